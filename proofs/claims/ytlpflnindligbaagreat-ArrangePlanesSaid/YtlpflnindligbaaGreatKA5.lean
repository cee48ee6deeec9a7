/- Texts that the proof needs, part 5. -/
import Derived.Test.YtlpflnindligbaaGreatKA4
import Derived.Scope
set_option linter.unusedVariables false
set_option linter.unusedSimpArgs false
noncomputable section
set_option maxRecDepth 10000
set_option maxHeartbeats 1000000
open List renaming length→A1,getD→A0,toArray→Am
open Array renaming setIfInBounds→D9
open Go renaming World→AP,Value→A2,Act→Av,Operand→Ag,Program→D,Oper→AY,Exit→BH,TypeId→Ab
namespace Bk
open Go
abbrev Em:List A2:=[.bool false,.slice none 0 0,.slice none 0 0,.bool false,.slice none 0 0,.slice none 0 0,.bool false,.slice none 0 0,.slice none 0 0]
end Bk
namespace Go.Proofs.YtlpflnindligbaaGreat
open Bk Go Tryz
attribute [local irreducible] GL GC GQ W OpV
section
variable{w0:AP}{h0:A4}(hs:MLe h0 (BE w0))
include hs
theorem MK{k l:Nat}{va:A2}{a:Tq}(ra:(AD k).Is h0 va a){vb:A2}{b:Tq}(rb:(AD l).Is h0 vb b)(H0:k+l<=1000000000):Ae 76 #[va,vb] w0 h0 (λh r=>(AD (k+l+1)).Is h r (T3.mk (a.x-b.x) (a.y-b.y) (a.z-b.z))):=by
 obtain⟨U,M,J⟩:=SO ra;obtain⟨H,D,C⟩:=SO rb;exact(VK hs ra rb H0).mono (kC λh r x=>Xt x (by have:=Ke a.x b.x;show lq (a.x-b.x)<=_;omega) (by have:=Ke a.y b.y;show lq (a.y-b.y)<=_;omega) (by have:=Ke a.z b.z;show lq (a.z-b.z)<=_;omega))
theorem h7{l k:Nat}{vq:A2}{q:Rat}(rq:(AE l).Is h0 vq q){va:A2}{a:Tq}(ra:(AD k).Is h0 va a)(H0:k+l<=1000000000):Ae 40 #[vq,va] w0 h0 (λh r=>(AD (k+l)).Is h r (T3.mk (q*a.x) (q*a.y) (q*a.z))):=by
 obtain⟨J,H,D⟩:=SO ra;have C:=(nj rq).2;exact(UN hs rq ra H0).mono (kC λh r x=>Xt x (by have:=iC q a.x;show lq (q*a.x)<=_;omega) (by have:=iC q a.y;show lq (q*a.y)<=_;omega) (by have:=iC q a.z;show lq (q*a.z)<=_;omega))
theorem t1{k l:Nat}{va:A2}{a:Tq}(ra:(AD k).Is h0 va a){vb:A2}{b:Tq}(rb:(AD l).Is h0 vb b)(H0:k+l<=10000000000):
 Calls prog 164 #[va,vb,vF 156 []] w0 (Bh w0 h0 (λh r=>(AD (k+l+1+1)).Is h r (T3.mk (a.x+b.x) (a.y+b.y) (a.z+b.z)))):=by
 refine Cs 24 va vb (vF 156 []) func164 hs ?_;refine A5 ?_;refine nB ra λb3 bn ab=>(nB rb λb4 bm aa=>(nA (ρ:=(AD (k+l+1+1))) (X:=zT) yA (yN (zR O)) λb6 bl bb=>(AF ?_)));refine nA (ρ:=(AD (k+l+1+1))) (X:=zT) yA (yN (zR O)) λb7 bk ba=>(Ak ?_);refine fC (A5 ?_);refine gv (OpV.tr dC (yW (q:=3) I I)) I (fJ ?_);refine zG 10 _ [] (Ah 0 8 [(8,.c),(9,.q),(10,.t)]) zX nX Ac nX (λr hr=>hr) (AF ?_);refine wX I (xB zU (BL pH) ab) λaz ak=>(A5 ?_);refine wX I (xB zU (BL pH) aa) λaw ah=>?_;refine AB I (aW (sH (vs:=[_,_]) call156 I Al) I (λw hs=>rO hs ak ah O) ?_);intro U h1 bj H
 change (AE (k+l+1)).Is h1 U (a.x+b.x) at H
 refine A7 ?_;refine yD (A:=[]) I (uB sizeOf41 (BL pH) ba (H.le (AL (k+l+1+1)))) λbf aq=>(AF ?_);refine gv ((yF (q:=1) I I O O).cv (show _=vI (1) from I)) I (A5 ?_);refine wJ (A5 ?_);refine gv (OpV.tr dC (yW (q:=3) I I)) I (fJ ?_);refine zG 10 _ [] (Ah 0 8 [(8,.c),(9,.q),(10,.t)]) zX nX Ac nX (λr hr=>hr) (AF ?_);refine wX I (xB zU (BC pH) ab) λay aj=>(A5 ?_);refine wX I (xB zU (BC pH) aa) λav ae=>?_;refine AB I (aW (sH (vs:=[_,_]) call156 I Al) I (λw hs=>rO hs aj ae O) ?_);intro M h2 bi D
 change (AE (k+l+1)).Is h2 M (a.y+b.y) at D
 refine A7 ?_;refine yD (A:=[]) I (uB sizeOf41 (BC pH) aq (D.le (AL (k+l+1+1)))) λbe ap=>(AF ?_);refine gv ((yF (q:=1) I I O O).cv (show _=vI (2) from I)) I (A5 ?_);refine wJ (A5 ?_);refine gv (OpV.tr dC (yW (q:=3) I I)) I (fJ ?_);refine zG 10 _ [] (Ah 0 8 [(8,.c),(9,.q),(10,.t)]) zX nX Ac nX (λr hr=>hr) (AF ?_);refine wX I (xB zU (Bi pH) ab) λax ai=>(A5 ?_);refine wX I (xB zU (Bi pH) aa) λau ad=>?_;refine AB I (aW (sH (vs:=[_,_]) call156 I Al) I (λw hs=>rO hs ai ad O) ?_);intro J h3 bh C
 change (AE (k+l+1)).Is h3 J (a.z+b.z) at C
 refine A7 ?_;refine yD (A:=[]) I (uB sizeOf41 (Bi pH) ap (C.le (AL (k+l+1+1)))) λbd ao=>(AF ?_);refine gv ((yF (q:=1) I I O O).cv (show _=vI (3) from I)) I (A5 ?_);refine wJ (A5 ?_);refine gv (OpV.fa dC (yW (q:=3) I I)) I (uG ?_);refine lX (xB zI pH ao) λar ac=>(zP (A:=[_]) (uB sizeOf43 pH bb ac) λbc an=>(AN ?_));refine xW (qV (t:=6) zI Ax I an) ?_;intro bg am Z;refine yI (λE S=>zS I am E S) ?_;exact Z
theorem nn{k l:Nat}{va:A2}{a:Tq}(ra:(AD k).Is h0 va a){vb:A2}{b:Tq}(rb:(AD l).Is h0 vb b)(H0:k+l<=10000000000):
 Calls prog 164 #[va,vb,vF 83 []] w0 (Bh w0 h0 (λh r=>(AD (k+l+1+1)).Is h r (T3.mk (a.x-b.x) (a.y-b.y) (a.z-b.z)))):=by
 refine Cs 24 va vb (vF 83 []) func164 hs ?_;refine A5 ?_;refine nB ra λb3 bn ai=>(nB rb λb4 bm ah=>(nA (ρ:=(AD (k+l+1+1))) (X:=zT) yA (yN (zR O)) λb6 bl bb=>(AF ?_)));refine nA (ρ:=(AD (k+l+1+1))) (X:=zT) yA (yN (zR O)) λb7 bk ba=>(Ak ?_);refine fC (A5 ?_);refine gv (OpV.tr dC (yW (q:=3) I I)) I (fJ ?_);refine zG 10 _ [] (Ah 0 8 [(8,.c),(9,.q),(10,.t)]) zX nX Ac nX (λr hr=>hr) (AF ?_);refine wX I (xB zU (BL pH) ai) λaz aq=>(A5 ?_);refine wX I (xB zU (BL pH) ah) λaw an=>?_;refine AB I (aW (sH (vs:=[_,_]) call83 I Al) I (λw hs=>jM hs aq an O) ?_);intro Z h1 bj H
 change (AE (k+l+1)).Is h1 Z (a.x-b.x) at H
 refine A7 ?_;refine yD (A:=[]) I (uB sizeOf41 (BL pH) ba (H.le (AL (k+l+1+1)))) λbf ae=>(AF ?_);refine gv ((yF (q:=1) I I O O).cv (show _=vI (1) from I)) I (A5 ?_);refine wJ (A5 ?_);refine gv (OpV.tr dC (yW (q:=3) I I)) I (fJ ?_);refine zG 10 _ [] (Ah 0 8 [(8,.c),(9,.q),(10,.t)]) zX nX Ac nX (λr hr=>hr) (AF ?_);refine wX I (xB zU (BC pH) ai) λay ap=>(A5 ?_);refine wX I (xB zU (BC pH) ah) λav am=>?_;refine AB I (aW (sH (vs:=[_,_]) call83 I Al) I (λw hs=>jM hs ap am O) ?_);intro U h2 bi D
 change (AE (k+l+1)).Is h2 U (a.y-b.y) at D
 refine A7 ?_;refine yD (A:=[]) I (uB sizeOf41 (BC pH) ae (D.le (AL (k+l+1+1)))) λbe ad=>(AF ?_);refine gv ((yF (q:=1) I I O O).cv (show _=vI (2) from I)) I (A5 ?_);refine wJ (A5 ?_);refine gv (OpV.tr dC (yW (q:=3) I I)) I (fJ ?_);refine zG 10 _ [] (Ah 0 8 [(8,.c),(9,.q),(10,.t)]) zX nX Ac nX (λr hr=>hr) (AF ?_);refine wX I (xB zU (Bi pH) ai) λax ao=>(A5 ?_);refine wX I (xB zU (Bi pH) ah) λau ak=>?_;refine AB I (aW (sH (vs:=[_,_]) call83 I Al) I (λw hs=>jM hs ao ak O) ?_);intro M h3 bh C
 change (AE (k+l+1)).Is h3 M (a.z-b.z) at C
 refine A7 ?_;refine yD (A:=[]) I (uB sizeOf41 (Bi pH) ad (C.le (AL (k+l+1+1)))) λbd ac=>(AF ?_);refine gv ((yF (q:=1) I I O O).cv (show _=vI (3) from I)) I (A5 ?_);refine wJ (A5 ?_);refine gv (OpV.fa dC (yW (q:=3) I I)) I (uG ?_);refine lX (xB zI pH ac) λar aj=>(zP (A:=[_]) (uB sizeOf43 pH bb aj) λbc ab=>(AN ?_));refine xW (qV (t:=6) zI Ax I ab) ?_;intro bg J aa;refine yI (λE S=>zS I J E S) ?_;exact aa
theorem bo{k l:Nat}{va:A2}{a:Tq}(ra:(AD k).Is h0 va a){vb:A2}{b:Tq}(rb:(AD l).Is h0 vb b)(H0:k+l<=10000000000):
 Calls prog 164 #[va,vb,vF 157 []] w0 (Bh w0 h0 (λh r=>(AD (k+l+1)).Is h r (T3.mk (a.x*b.x) (a.y*b.y) (a.z*b.z)))):=by
 refine Cs 24 va vb (vF 157 []) func164 hs ?_;refine A5 ?_;refine nB ra λb3 bn ao=>(nB rb λb4 bm an=>(nA (ρ:=(AD (k+l+1))) (X:=zT) yA (yN (zR O)) λb6 bl bb=>(AF ?_)));refine nA (ρ:=(AD (k+l+1))) (X:=zT) yA (yN (zR O)) λb7 bk ba=>(Ak ?_);refine fC (A5 ?_);refine gv (OpV.tr dC (yW (q:=3) I I)) I (fJ ?_);refine zG 10 _ [] (Ah 0 8 [(8,.c),(9,.q),(10,.t)]) zX nX Ac nX (λr hr=>hr) (AF ?_);refine wX I (xB zU (BL pH) ao) λaz aq=>(A5 ?_);refine wX I (xB zU (BL pH) an) λay ap=>?_;refine AB I (aW (sH (vs:=[_,_]) call157 I Al) I (λw hs=>jN hs aq ap O) ?_);intro ae h1 bj H
 change (AE (k+l)).Is h1 ae (a.x*b.x) at H
 refine A7 ?_;refine yD (A:=[]) I (uB sizeOf41 (BL pH) ba (H.le (AL (k+l+1)))) λbf am=>(AF ?_);refine gv ((yF (q:=1) I I O O).cv (show _=vI (1) from I)) I (A5 ?_);refine wJ (A5 ?_);refine gv (OpV.tr dC (yW (q:=3) I I)) I (fJ ?_);refine zG 10 _ [] (Ah 0 8 [(8,.c),(9,.q),(10,.t)]) zX nX Ac nX (λr hr=>hr) (AF ?_);refine wX I (xB zU (BC pH) ao) λax ac=>(A5 ?_);refine wX I (xB zU (BC pH) an) λav aa=>?_;refine AB I (aW (sH (vs:=[_,_]) call157 I Al) I (λw hs=>jN hs ac aa O) ?_);intro M h2 bi D
 change (AE (k+l)).Is h2 M (a.y*b.y) at D
 refine A7 ?_;refine yD (A:=[]) I (uB sizeOf41 (BC pH) am (D.le (AL (k+l+1)))) λbe ak=>(AF ?_);refine gv ((yF (q:=1) I I O O).cv (show _=vI (2) from I)) I (A5 ?_);refine wJ (A5 ?_);refine gv (OpV.tr dC (yW (q:=3) I I)) I (fJ ?_);refine zG 10 _ [] (Ah 0 8 [(8,.c),(9,.q),(10,.t)]) zX nX Ac nX (λr hr=>hr) (AF ?_);refine wX I (xB zU (Bi pH) ao) λaw ab=>(A5 ?_);refine wX I (xB zU (Bi pH) an) λau Z=>?_;refine AB I (aW (sH (vs:=[_,_]) call157 I Al) I (λw hs=>jN hs ab Z O) ?_);intro J h3 bh C
 change (AE (k+l)).Is h3 J (a.z*b.z) at C
 refine A7 ?_;refine yD (A:=[]) I (uB sizeOf41 (Bi pH) ak (C.le (AL (k+l+1)))) λbd aj=>(AF ?_);refine gv ((yF (q:=1) I I O O).cv (show _=vI (3) from I)) I (A5 ?_);refine wJ (A5 ?_);refine gv (OpV.fa dC (yW (q:=3) I I)) I (uG ?_);refine lX (xB zI pH aj) λar U=>(zP (A:=[_]) (uB sizeOf43 pH bb U) λbc ai=>(AN ?_));refine xW (qV (t:=6) zI Ax I ai) ?_;intro bg ad ah;refine yI (λE S=>zS I ad E S) ?_;exact ah
theorem Lx{k l:Nat}{va:A2}{a:Tq}(ra:(AD k).Is h0 va a){vb:A2}{b:Tq}(rb:(AD l).Is h0 vb b)(H0:k+l<=10000000000):
 Ae 91 #[va,vb] w0 h0 (λh r=>(AD (k+l+2)).Is h r (T3.mk (a.x+b.x) (a.y+b.y) (a.z+b.z))):=by
 refine B0 8 va vb func91 hs ?_;refine A5 ?_;refine nB ra λb2 ah U=>(nB rb λb3 ae M=>(nA (ρ:=(AD (k+l+2))) (X:=zT) yA (yN (zR O)) λb4 ad J=>(AF ?_)));refine lX (xB zI pH U) λv5 r5=>(lX (xB zI pH M) λv6 r6=>(cL (BM I I I) call164 (λw hs=>t1 hs r5 r6 O) λv7 h1 ac Z=>?_));replace Z:=Rp.Is.le Z (AI (k+l+2));refine zP (A:=[]) (uB sizeOf43 pH J Z) λaa H=>(AN ?_);refine xW (qV (t:=4) zI Ar I H) ?_;intro ab C D;refine yI (λE S=>zS I C E S) ?_;exact D
theorem eR{k l:Nat}{va:A2}{a:Tq}(ra:(AD k).Is h0 va a){vb:A2}{b:Tq}(rb:(AD l).Is h0 vb b)(H0:k+l<=10000000000):
 Ae 92 #[va,vb] w0 h0 (λh r=>(AD (k+l+2)).Is h r (T3.mk (a.x-b.x) (a.y-b.y) (a.z-b.z))):=by
 refine B0 8 va vb func92 hs ?_;refine A5 ?_;refine nB ra λb2 ah U=>(nB rb λb3 ae M=>(nA (ρ:=(AD (k+l+2))) (X:=zT) yA (yN (zR O)) λb4 ad J=>(AF ?_)));refine lX (xB zI pH U) λv5 r5=>(lX (xB zI pH M) λv6 r6=>(cL (BM I I I) call164 (λw hs=>nn hs r5 r6 O) λv7 h1 ac Z=>?_));replace Z:=Rp.Is.le Z (AI (k+l+2));refine zP (A:=[]) (uB sizeOf43 pH J Z) λaa H=>(AN ?_);refine xW (qV (t:=4) zI Ar I H) ?_;intro ab C D;refine yI (λE S=>zS I C E S) ?_;exact D
theorem bJ{l k:Nat}{vq:A2}{q:Rat}(rq:(AE l).Is h0 vq q){va:A2}{a:Tq}(ra:(AD k).Is h0 va a)(H0:k+l<=1000000000):
 Ae 90 #[vq,va] w0 h0 (λh r=>(AD (k+l+2)).Is h r (T3.mk (q*a.x) (q*a.y) (q*a.z))):=by
 refine B0 11 vq va func90 hs ?_;refine A5 ?_;refine nB rq λb2 ai J=>(nB ra λb3 ah Z=>(nA (ρ:=(AD (k+l+2))) (X:=zT) yA (yN (zR O)) λb4 ae U=>(AF ?_)));refine lX (xB zU pH J) λv5 r5=>(lX (xB zU pH J) λv6 r6=>(lX (xB zU pH J) λv7 r7=>(lX (xV (ρ:=(AD (l+1))) (xD (ps':=[(0,_),(1,_),(2,_)]) underlying43 yA I I sizeOf41 e6 I (yN (zR O)) (zD I (BL (AA _)) (r5.le (AL (l+1))) (zD I (BC (AA _)) (r6.le (AL (l+1))) (zD I (Bi (AA _)) (r7.le (AL (l+1))) zO))))) λv8 r8=>(lX (xB zI pH Z) λv9 r9=>(cL (BM I I I) call164 (λw hs=>bo hs r8 r9 O) λac h1 ad M=>?_)))));replace M:=Rp.Is.le M (AI (k+l+2));refine zP (A:=[]) (uB sizeOf43 pH U M) λaa H=>(AN ?_);refine xW (qV (t:=4) zI Ar I H) ?_;intro ab C D;refine yI (λE S=>zS I C E S) ?_;exact D
theorem mD{k l:Nat}{va:A2}{a:Tq}(ra:(AD k).Is h0 va a){vb:A2}{b:Tq}(rb:(AD l).Is h0 vb b)(H0:k+l<=1000000000):
 Ae 84 #[va,vb] w0 h0 (λh r=>(AE (3*k+3*l+9)).Is h r (wL a b)):=by
 refine B0 21 va vb func84 hs ?_;refine A5 ?_;refine nB ra λb2 cg be=>(nB rb λb3 cf bd=>(nA (ρ:=(AE (3*k+3*l+9))) (X:=(0:Rat)) yQ (zR O) λb4 ce bq=>(AF ?_)));refine nA (ρ:=(AE 1)) (X:=(0:Rat)) yQ (zR dC) λb5 cd bf=>(Ak ?_);refine fC (A5 ?_);refine gv (OpV.tr dC (yW (q:=3) I I)) I (fJ ?_);refine zG 9 _ [] (Ah 0 7 [(7,.c),(8,.c),(9,.t)]) zX nX Ac nX (λr hr=>hr) (wX I (xB zU pH bf) λbp av=>(A5 ?_));refine wX I (xB zU (BL pH) be) λbm aq=>(A5 ?_);refine wX I (xB zU (BL pH) bd) λbj an=>?_;refine AB I (sC (AK I I) call157 (λw hs=>jN hs aq an O) λai h1 cc U=>?_)
 change (AE (k+l)).Is h1 ai (a.x*b.x) at U
 refine AB I (sC (AK I I) call156 (λw hs=>rO hs av.up U O) λad h2 cb H=>?_)
 change (AE (1+(k+l)+1)).Is h2 ad ((0:Rat)+(a.x*b.x)) at H
 replace H:=Rp.Is.le H (AL (k+l+2));have az:=(AL (k+l+2)).R bf;refine yD (A:=[]) I (uB sizeOf41 pH az H) λbu aa=>(AF ?_);refine gv ((yF (q:=1) I I O O).cv (show _=vI (1) from I)) I (A5 ?_);refine wJ (A5 ?_);refine gv (OpV.tr dC (yW (q:=3) I I)) I (fJ ?_);refine zG 9 _ [] (Ah 0 7 [(7,.c),(8,.c),(9,.t)]) zX nX Ac nX (λr hr=>hr) (wX I (xB zU pH aa) λbo au=>(A5 ?_));refine wX I (xB zU (BC pH) be) λbl ap=>(A5 ?_);refine wX I (xB zU (BC pH) bd) λbi am=>?_;refine AB I (sC (AK I I) call157 (λw hs=>jN hs ap am O) λah h3 ca M=>?_)
 change (AE (k+l)).Is h3 ah (a.y*b.y) at M
 refine AB I (sC (AK I I) call156 (λw hs=>rO hs au.up M O) λac h4 bz D=>?_)
 change (AE ((k+l+2)+(k+l)+1)).Is h4 ac (((0:Rat)+(a.x*b.x))+(a.y*b.y)) at D
 replace D:=Rp.Is.le D (AL (2*k+2*l+3));have ay:=(AL (2*k+2*l+3)).R aa;refine yD (A:=[]) I (uB sizeOf41 pH ay D) λbt Z=>(AF ?_);refine gv ((yF (q:=1) I I O O).cv (show _=vI (2) from I)) I (A5 ?_);refine wJ (A5 ?_);refine gv (OpV.tr dC (yW (q:=3) I I)) I (fJ ?_);refine zG 9 _ [] (Ah 0 7 [(7,.c),(8,.c),(9,.t)]) zX nX Ac nX (λr hr=>hr) (wX I (xB zU pH Z) λbn ar=>(A5 ?_));refine wX I (xB zU (Bi pH) be) λbk ao=>(A5 ?_);refine wX I (xB zU (Bi pH) bd) λbh ak=>?_;refine AB I (sC (AK I I) call157 (λw hs=>jN hs ao ak O) λae h5 bx J=>?_)
 change (AE (k+l)).Is h5 ae (a.z*b.z) at J
 refine AB I (sC (AK I I) call156 (λw hs=>rO hs ar.up J O) λab h6 bw C=>?_)
 change (AE ((2*k+2*l+3)+(k+l)+1)).Is h6 ab ((((0:Rat)+(a.x*b.x))+(a.y*b.y))+(a.z*b.z)) at C
 replace C:=Rp.Is.le C (AL (3*k+3*l+4));have ax:=(AL (3*k+3*l+4)).R Z;refine yD (A:=[]) I (uB sizeOf41 pH ax C) λbs bc=>(AF ?_);refine gv ((yF (q:=1) I I O O).cv (show _=vI (3) from I)) I (A5 ?_);refine wJ (A5 ?_);refine gv (OpV.fa dC (yW (q:=3) I I)) I (uG ?_);refine lX (xB zU pH bc) λbg aj=>(zP (A:=[_]) (uB sizeOf41 pH bq (aj.le (AL (3*k+3*l+9)))) λbr bb=>(AN ?_));refine xW (qV (t:=4) zU Ax I bb) ?_;intro bv aw ba;refine yI (λE S=>zS I aw E S) ?_;exact(Rp.Is.cast ba (by unfold wL;grind))
theorem Pe{k l:Nat}{va:A2}{a:Tq}(ra:(AD k).Is h0 va a){vb:A2}{b:Tq}(rb:(AD l).Is h0 vb b)(H0:k+l<=1000000000):
 Ae 180 #[va,vb] w0 h0 (λh r=>(AD (2*k+2*l+3)).Is h r (xS a b)):=by
 refine B0 37 va vb func180 hs ?_;refine A5 ?_;refine nB ra λb2 cu ad=>(nB rb λb3 ct ac=>(nA (ρ:=(AD (2*k+2*l+3))) (X:=zT) yA (yN (zR O)) λb4 cq ca=>(AF ?_)));refine nA (ρ:=(AD (2*k+2*l+3))) (X:=zT) yA (yN (zR O)) λb5 cp bz=>(Ak ?_);refine fC (A5 ?_);refine gv (OpV.tr dC (yW (q:=3) I I)) I (nH ?_);refine gv ((yF (q:=1) I I O O).cv (show _=vI (1) from I)) I (gv ((wI (q:=3) I I O O).cv (show _=vI (1) from I)) I (A7 ?_));refine gv ((yF (q:=2) I I O O).cv (show _=vI (2) from I)) I (gv ((wI (q:=3) I I O O).cv (show _=vI (2) from I)) I (AF ?_));refine zG 17 _ [] (Ah 0 7 (Ah 8 6 [(7,.c),(14,.c),(15,.c),(16,.q),(17,.t)])) zX nX (xU Ac) nX (λr hr=>hr) (AN ?_);refine wX I (xB zU (BC pH) ad) λbx be=>(A5 ?_);refine wX I (xB zU (Bi pH) ac) λbu bb=>(A5 ?_);refine wX I (xB zU (Bi pH) ad) λbr ay=>(A5 ?_);refine wX I (xB zU (BC pH) ac) λbo av=>?_;refine AB I (sC (AK I I) call157 (λw hs=>jN hs be bb O) λap h1 co ab=>?_)
 change (AE (k+l)).Is h1 ap (a.y*b.z) at ab
 refine AB I (sC (AK I I) call157 (λw hs=>jN hs ay.up av.up O) λam h2 cn U=>?_)
 change (AE (k+l)).Is h2 am (a.z*b.y) at U
 refine AB I (sC (AK I I) call83 (λw hs=>jM hs ab.up U O) λai h3 cm H=>?_)
 change (AE ((k+l)+(k+l)+1)).Is h3 ai ((a.y*b.z)-(a.z*b.y)) at H
 replace H:=Rp.Is.le H (AL (2*k+2*l+1));refine A7 ?_;refine yD (A:=[]) I (uB sizeOf41 (BL pH) bz (H.le (AL (2*k+2*l+3)))) λce bk=>(AF ?_);refine gv ((yF (q:=1) I I O O).cv (show _=vI (1) from I)) I (A5 ?_);refine wJ (A5 ?_);refine gv (OpV.tr dC (yW (q:=3) I I)) I (nH ?_);refine gv ((yF (q:=1) I I O O).cv (show _=vI (2) from I)) I (gv ((wI (q:=3) I I O O).cv (show _=vI (2) from I)) I (A7 ?_));refine gv ((yF (q:=2) I I O O).cv (show _=vI (3) from I)) I (gv ((wI (q:=3) I I O O).cv (show _=vI (0) from I)) I (AF ?_));refine zG 17 _ [] (Ah 0 7 (Ah 8 6 [(7,.c),(14,.c),(15,.c),(16,.q),(17,.t)])) zX nX (xU Ac) nX (λr hr=>hr) (AN ?_);refine wX I (xB zU (Bi pH) ad) λbw bd=>(A5 ?_);refine wX I (xB zU (BL pH) ac) λbt ba=>(A5 ?_);refine wX I (xB zU (BL pH) ad) λbq ax=>(A5 ?_);refine wX I (xB zU (Bi pH) ac) λbn au=>?_;refine AB I (sC (AK I I) call157 (λw hs=>jN hs bd ba O) λao h4 cl aa=>?_)
 change (AE (k+l)).Is h4 ao (a.z*b.x) at aa
 refine AB I (sC (AK I I) call157 (λw hs=>jN hs ax.up au.up O) λak h5 ck M=>?_)
 change (AE (k+l)).Is h5 ak (a.x*b.z) at M
 refine AB I (sC (AK I I) call83 (λw hs=>jM hs aa.up M O) λah h6 cj D=>?_)
 change (AE ((k+l)+(k+l)+1)).Is h6 ah ((a.z*b.x)-(a.x*b.z)) at D
 replace D:=Rp.Is.le D (AL (2*k+2*l+1));refine A7 ?_;refine yD (A:=[]) I (uB sizeOf41 (BC pH) bk (D.le (AL (2*k+2*l+3)))) λcd bj=>(AF ?_);refine gv ((yF (q:=1) I I O O).cv (show _=vI (2) from I)) I (A5 ?_);refine wJ (A5 ?_);refine gv (OpV.tr dC (yW (q:=3) I I)) I (nH ?_);refine gv ((yF (q:=1) I I O O).cv (show _=vI (3) from I)) I (gv ((wI (q:=3) I I O O).cv (show _=vI (0) from I)) I (A7 ?_));refine gv ((yF (q:=2) I I O O).cv (show _=vI (4) from I)) I (gv ((wI (q:=3) I I O O).cv (show _=vI (1) from I)) I (AF ?_));refine zG 17 _ [] (Ah 0 7 (Ah 8 6 [(7,.c),(14,.c),(15,.c),(16,.q),(17,.t)])) zX nX (xU Ac) nX (λr hr=>hr) (AN ?_);refine wX I (xB zU (BL pH) ad) λbv bc=>(A5 ?_);refine wX I (xB zU (BC pH) ac) λbs az=>(A5 ?_);refine wX I (xB zU (BC pH) ad) λbp aw=>(A5 ?_);refine wX I (xB zU (BL pH) ac) λbm ar=>?_;refine AB I (sC (AK I I) call157 (λw hs=>jN hs bc az O) λan h7 ci Z=>?_)
 change (AE (k+l)).Is h7 an (a.x*b.y) at Z
 refine AB I (sC (AK I I) call157 (λw hs=>jN hs aw.up ar.up O) λaj h8 ch J=>?_)
 change (AE (k+l)).Is h8 aj (a.y*b.x) at J
 refine AB I (sC (AK I I) call83 (λw hs=>jM hs Z.up J O) λae h9 cg C=>?_)
 change (AE ((k+l)+(k+l)+1)).Is h9 ae ((a.x*b.y)-(a.y*b.x)) at C
 replace C:=Rp.Is.le C (AL (2*k+2*l+1));refine A7 ?_;refine yD (A:=[]) I (uB sizeOf41 (Bi pH) bj (C.le (AL (2*k+2*l+3)))) λcc bi=>(AF ?_);refine gv ((yF (q:=1) I I O O).cv (show _=vI (3) from I)) I (A5 ?_);refine wJ (A5 ?_);refine gv (OpV.fa dC (yW (q:=3) I I)) I (uG ?_);refine lX (xB zI pH bi) λbl aq=>(zP (A:=[_]) (uB sizeOf43 pH ca aq) λcb bh=>(AN ?_));refine xW (qV (t:=4) zI Ax I bh) ?_;intro cf bf bg;refine yI (λE S=>zS I bf E S) ?_;exact bg
theorem U6{k l:Nat}{va:A2}{a:Tq}(ra:(AD k).Is h0 va a){vb:A2}{b:Tq}(rb:(AD l).Is h0 vb b)(H0:k+l<=10000000000):
 Ae 198 #[va,vb] w0 h0 (λ_ r=>r=vB (a=b)):=by
 refine B0 18 va vb func198 hs ?_;refine A5 ?_;refine nB ra λb2 ax aj=>(nB rb λb3 aw ai=>(vV ?_));refine fC (A5 ?_);refine gv (OpV.tr dC (yW (q:=3) I I)) I (rX ?_);refine zG 8 _ [] (Ah 0 6 [(6,.c),(7,.q)]) zX nX Ac nX (λr hr=>hr) (A5 ?_);refine wX I (xB zU (BL pH) aj) λaq ah=>(A5 ?_);refine wX I (xB zU (BL pH) ai) λan ac=>?_;refine AB I (sC (AK I I) call235 (λw hs=>S6 hs ah ac O) λJ h1 av Z=>?_);obtain rfl:J=vB (a.x=b.x):=Z;refine B4 (λC=>?_) λC=>?_
 ·
  refine uG ?_;refine zC I I ?_
  first|exact(yU (by rw[cF];grind)).symm|exact(yH (by rw[cF];grind)).symm
 refine AF ?_;refine gv ((yF (q:=1) I I O O).cv (show _=vI (1) from I)) I (A5 ?_);refine wJ (A5 ?_);refine gv (OpV.tr dC (yW (q:=3) I I)) I (rX ?_);refine zG 8 _ [] (Ah 0 6 [(6,.c),(7,.q)]) zX nX Ac nX (λr hr=>hr) (A5 ?_);refine wX I (xB zU (BC pH) aj) λap ae=>(A5 ?_);refine wX I (xB zU (BC pH) ai) λam ab=>?_;refine AB I (sC (AK I I) call235 (λw hs=>S6 hs ae ab O) λH h2 au U=>?_);obtain rfl:H=vB (a.y=b.y):=U;refine B4 (λC=>?_) λC=>?_
 ·
  refine uG ?_;refine zC I I ?_
  first|exact(yU (by rw[cF];grind)).symm|exact(yH (by rw[cF];grind)).symm
 refine AF ?_;refine gv ((yF (q:=1) I I O O).cv (show _=vI (2) from I)) I (A5 ?_);refine wJ (A5 ?_);refine gv (OpV.tr dC (yW (q:=3) I I)) I (rX ?_);refine zG 8 _ [] (Ah 0 6 [(6,.c),(7,.q)]) zX nX Ac nX (λr hr=>hr) (A5 ?_);refine wX I (xB zU (Bi pH) aj) λao ad=>(A5 ?_);refine wX I (xB zU (Bi pH) ai) λak aa=>?_;refine AB I (sC (AK I I) call235 (λw hs=>S6 hs ad aa O) λD h3 ar M=>?_);obtain rfl:D=vB (a.z=b.z):=M;refine B4 (λC=>?_) λC=>?_
 ·
  refine uG ?_;refine zC I I ?_
  first|exact(yU (by rw[cF];grind)).symm|exact(yH (by rw[cF];grind)).symm
 refine AF ?_;refine gv ((yF (q:=1) I I O O).cv (show _=vI (3) from I)) I (A5 ?_);refine wJ (A5 ?_);refine gv (OpV.fa dC (yW (q:=3) I I)) I (rX ?_);refine zC I I ?_
 first|exact(yU (by rw[cF];grind)).symm|exact(yH (by rw[cF];grind)).symm
theorem SY{k:Nat}{va:A2}{a:Tq}(ra:(AD k).Is h0 va a)(H0:k<=1000000000):
 Ae 181 #[va] w0 h0 (λ_ r=>r=vB (a=zT)):=by
 refine BI 6 va func181 hs ?_;refine A5 ?_;refine nB ra λU M C=>(AR ?_);refine lX (xB zI pH C) λv3 r3=>(lX (xV (ρ:=(AD 1)) (xD (ps':=[]) underlying43 yA I I sizeOf41 trivial I (yN (zR dC)) zO)) λv4 r4=>(cL (AK I I) call198 (λw hs=>U6 hs r3 r4 O) λD h1 J H=>?_));obtain rfl:D=vB (a=zT):=H;refine AF ?_;refine zC I I ?_
 rfl
theorem bM{k:Nat}{vp:A2}{p:Tq}(rp:(AD k).Is h0 vp p):
 Ae 191 #[vp] w0 h0 (λh r=>(AD (k+1)).Is h r (zZ p)):=by
 refine BI 8 vp func191 hs ?_;refine A5 ?_;refine nB rp λb1 ab J=>(nA (ρ:=(AD (k+1))) (X:=zT) yA (yN (zR O)) λb2 aa M=>(AR ?_));refine lX (xB zU (BL pH) J) λv4 r4=>(A7 ?_);refine lX (xB zU (BC pH) J) λv6 r6=>(lX (xV (ρ:=(AD (k+1))) (xD (ps':=[(0,_),(1,_)]) underlying43 yA I I sizeOf41 BR I (yN (zR O)) (zD I (BL (AA _)) (r4.le (AL (k+1))) (zD I (BC (AA _)) (r6.le (AL (k+1))) zO)))) λv7 r7=>(zP (A:=[]) (uB sizeOf43 pH M r7) λU H=>(AN ?_)));refine xW (qV (t:=2) zI Ar I H) ?_;intro Z C D;refine yI (λE S=>zS I C E S) ?_;exact D
theorem jW{k:Nat}{va:A2}{a:Tq}(ra:(AD k).Is h0 va a){vb:A2}{b:Tq}(rb:(AD k).Is h0 vb b)(H0:k<=2000000000):
 Ae 250 #[va,vb] w0 h0 (λ_ r=>r=vB ((pr a 0 1)=(pr b 0 1))):=by
 refine B0 17 va vb func250 hs ?_;refine A5 ?_;refine nB ra λb2 ae D=>(nB rb λb3 ad C=>(AZ ?_));refine lX (xB zU (BL pH) D) λv6 r6=>(A7 ?_);refine lX (xB zU (BL pH) C) λv8 r8=>(cL (AK I I) call56 (λw hs=>gZ hs r6 r8 O) λv9 h1 aj r9=>?_);obtain rfl:v9=vB (a.x=b.x):=r9;refine uH (ι:=A4) 7 (λm_=>MLe h1 m_) (λ_=>[(16,vB ((a.x=b.x)/\(a.y=b.y)))]) (λ_=>[.var b3 43 ad,.var b2 43 ae]) (λm_=>m_) ?_ ?_
 ·
  refine zY (a.x=b.x) (λJ=>?_) (λJ=>?_)
  ·
   refine gT J I (AN ?_);refine lX (xB zU (BC pH) D) λai aa=>(AN ?_);refine lX (xB zU (BC pH) C) λah Z=>(A7 ?_);refine cL (AK I I) call56 (λw hs=>gZ hs aa Z O) λM h2 ac U=>?_;obtain rfl:M=vB (a.y=b.y):=U;refine A5 ?_;refine zV h2 ac ⟨?_,AW⟩ I I;exact AV (xE J)
  refine gF J I (Af ?_);refine zV h1 (MLe.refl _) ⟨?_,AW⟩ I I;exact AV (xG J)
 intro ab H;refine fM ?_;refine AF ?_;refine zC I I ?_
 first|exact qQ (by rw[Qz];exact Iff.rfl)|exact(yU (by rw[Qz];exact Iff.rfl)).symm|exact(yH (by rw[Qz];exact Iff.rfl)).symm
theorem cJ{k:Nat}{va:A2}{a:Tq}(ra:(AD k).Is h0 va a){vb:A2}{b:Tq}(rb:(AD k).Is h0 vb b)(H0:k<=2000000000):
 Ae 234 #[va,vb] w0 h0 (λ_ r=>r=vB (lx (pr a 0 1) (pr b 0 1))):=by
 refine B0 21 va vb func234 hs ?_;refine A5 ?_;refine nB ra λb2 am H=>(nB rb λb3 ak D=>(Af ?_));refine lX (xB zU (BL pH) H) λv7 r7=>(A7 ?_);refine lX (xB zU (BL pH) D) λv9 r9=>(cL (AK I I) call97 (λw hs=>tL hs r7 r9 O) λM h1 aj ab=>?_);obtain rfl:M=vI (wA a.x b.x):=ab;have ad:=uJ a.x b.x;refine Bj (λC=>?_) λC=>?_
 ·
  refine Ak ?_;refine zC I I ?_;exact qQ (qt C)
 refine AR ?_;refine lX (xB zU (BC pH) H) λah aa=>(A7 ?_);refine lX (xB zU (BC pH) D) λae Z=>(cL (AK I I) call97 (λw hs=>tL hs aa Z O) λJ h2 ai U=>?_);obtain rfl:J=vI (wA a.y b.y):=U;have ac:=uJ a.y b.y;refine AR ?_;refine zC I I ?_;exact qQ (mc C)
theorem Xd{k:Nat}{vl:A2}{l:(List Tq)}(rl:(Aq k).Is h0 vl l)(H0:A1 l<=1000)(H1:(4*k+9)*A1 l<=900000000):
 Ae 220 #[vl] w0 h0 (λh r=>(AE 1000000000).Is h r (qN l 0 1 (A1 l))):=by
 refine BI 40 vl func220 hs ?_;refine A5 ?_;refine nA (ρ:=(AE 1)) (X:=(0:Rat)) yQ (zR dC) λb2 bl av=>(AF ?_);refine lX (xV (ρ:=(AE 1)) (xL (ps':=[]) underlying41 yQ I I (vW underlying41) trivial I (zR dC) zO)) λv7 r7=>(nA (ρ:=(AE 1)) (X:=(0:Rat)) yQ (zR dC) λb3 cj au=>(zP (A:=[]) (uB sizeOf41 pH au r7) λap an=>(Ak ?_)));refine An (ι:=Nat×Nat×List A2×A4) (λ(m,q,J,ma)=>(MLe h0 ma/\((AE q).R ma J (qN l 0 1 m)/\m<=A1 l/\q<=(4*k+9)*m+1),[(0,vl),(2,vP b2 0),(3,vP b3 0),(4,vI ↑m)],[.var b3 41 J,.var b2 41 bl],ma,A1 l-m)) (0,1,ap,h0) ?_ ?_
 · exact⟨AM,an,A3,A3⟩
 rintro⟨m,q,J,ma⟩ ⟨bn,C,ce,cd⟩
 refine yO ?_;have bh:=Dz (4*k+9) (show m<=A1 l by omega);refine Bj (λao=>?_) λao=>?_
 ·
  have bg:=Dz (4*k+9) (show m+1<=A1 l by omega);rw[Nat.mul_succ] at bg;refine AR ?_
  let eX0:List A2:=Em
  refine zG 16 _ [(12,(5,43,eX0)),(13,(6,43,eX0))] (Ah 0 12 [(12,.a),(13,.a),(14,.c),(15,.c)]) zX (uY.cons I I (vG yA I I) (uY.cons I I (vG yA I I) uY.nil)) (xU Ac) (vH I I (vH I I qT)) (λr hr=>hr) (A5 ?_);refine wX I (xI zT m underlying28 zI rl) λcc bf=>(wX I (xA zI bf) λcb be=>(AF ?_));refine B3 I (λh' L' hh hR=>jK underlying28 I (rl.up.mono hh)) I (wK I (λ_ _=>wI I I O O) I (wX I (xI zT ((m+1)%A1 l) underlying28 zI rl (hi:=by exact BQ _ O)) λca bd=>(wX I (xA zI bd) λbz bc=>?_)));refine CA I I (λb5=>?_);have ar:(AD 1).R ma eX0 zT:=(yN (zR dC));refine CA I I (λb6=>?_);have aq:(AD 1).R ma eX0 zT:=(yN (zR dC));refine AB I ?_;have am:=(AI (k+1)).R ar;refine kB (A:=[_]) (uB sizeOf43 pH am (be.le (AI (k+1)))) (yP BU) λbk H=>?_;refine AB I ?_;have aa:=(AI (k+1)).R aq;refine kB (A:=[]) (uB sizeOf43 pH aa (bc.le (AI (k+1)))) (yP BU) λbj D=>(A5 ?_);refine zG 13 _ [] (Ah 0 5 (Ah 6 4 [(5,.c),(10,.c),(11,.c),(12,.c),(13,.t)])) zX nX (xU Ac) nX (λr hr=>hr) (wX I (xB zU pH C) λbx bb=>(A7 ?_));refine wX I (xB zU (BL pH) H) λbw ba=>(A7 ?_);refine wX I (xB zU (BC pH) D) λbv az=>(A7 ?_);refine wX I (xB zU (BL pH) D) λbt ay=>(A7 ?_);refine wX I (xB zU (BC pH) H) λbs ax=>?_;refine AB I (sC (AK I I) call98 (λw hs=>jH hs ba az O) λbu h1 ci aj=>?_);replace aj:=Rp.Is.le aj (AL (2*k+2));refine AB I (sC (AK I I) call98 (λw hs=>jH hs ay.up ax.up O) λbr h2 ch ai=>?_);replace ai:=Rp.Is.le ai (AL (2*k+2));refine AB I (sC (AK I I) call95 (λw hs=>tK hs aj.up ai O) λbq h3 cg ah=>?_);replace ah:=Rp.Is.le ah (AL (4*k+5));refine AB I (sC (AK I I) call77 (λw hs=>eT hs bb.up ah O) λbp h4 cf ae=>?_);replace ae:=Rp.Is.le ae (AL (4*k+q+6));have Z:=(AL (4*k+q+6)).R C;refine yD (A:=[_,_]) I (uB sizeOf41 pH Z ae) λak ad=>(AX ?_);refine yE (A:=[]) (yE (A:=[]) ?_);refine Ad ((m+1),(q+(4*k+9)),ak,h4) ?_ ?_
  · exact⟨AM,(Rp.castR (Le.R (AL (q+(4*k+9))) ad) I),A3,by rw[Nat.mul_succ];omega⟩
  omega
 have em:m=A1 l:=by omega
 have bh:=Dz (4*k+9) (show m<=A1 l by omega);refine Af ?_;refine lX (xB zU pH C) λbo aw=>?_;have U:=(AL (q+1)).R av;refine zP (A:=[_]) (uB sizeOf41 pH U (aw.le (AL (q+1)))) λbi ac=>(AN ?_);refine xW (qV (t:=2) zU Ax I ac) ?_;intro bm M ab;refine yI (λE S=>zS I M E S) ?_;exact(Rp.Is.cast (Rp.Is.le ab (AL 1000000000)) (by rw[em]))
theorem bN{k:Nat}{vl:A2}{l:(List Tq)}(rl:(Aq k).Is h0 vl l)(H0:k<=100000)(H1:A1 l<=1000):Ae 220 #[vl] w0 h0 (λh r=>(AE 1000000000).Is h r (qN l 0 1 (A1 l))):=Xd hs rl H1 (Ao (Fl (show 4*k+9<=400009 by omega) H1) Aa)
theorem sK{k:Nat}{va:A2}{a:Tq}(ra:(AD k).Is h0 va a){vb:A2}{b:Tq}(rb:(AD k).Is h0 vb b){vc:A2}{c:Tq}(rc:(AD k).Is h0 vc c)(H0:k<=40000000):
 Ae 192 #[va,vb,vc] w0 h0 (λ_ r=>r=vI (Ai (pr a 0 1) (pr b 0 1) (pr c 0 1))):=by
 refine Cs 13 va vb vc func192 hs ?_;refine A5 ?_;refine nB ra λb3 ao U=>(nB rb λb4 an M=>(nB rc λb5 am J=>(AR ?_)));refine lX (xB zI pH U) λv7 r7=>(lX (xB zI pH M) λv8 r8=>(lX (xB zI pH J) λv9 r9=>(zE (zL (ρ:=(AD (k+1))) (m:=3) (xs:=[a,b,c]) (ps':=[(0,_),(1,_),(2,_)]) underlying28 yA I I I (yN (zR O)) e6 (zD I (AO (AA _) zT 0 dC) (r7.le (AI (k+1))) (zD I (AO (AA _) zT 1 dC) (r8.le (AI (k+1))) (zD I (AO (AA _) zT 2 dC) (r9.le (AI (k+1))) zO))) Zr nP) I I I ?_)))
 rintro ae ah ⟨ac,rfl,D⟩
 refine zQ (A:=[]) (ρ:=(AD (k+1))) D ?_;intro h1 ak C;refine cL (AU I) call220 (λw hs=>Xd hs C (by first|omega|exact(by decide:3<=1000)|(show _*3<=_;omega)) (by first|omega|exact(by decide:3<=1000)|(show _*3<=_;omega))) λad h2 aj aa=>(cL (AU I) call74 (λw hs=>qA hs aa dC) λH h3 ai Z=>?_);obtain rfl:H=vI (yK (qN [a,b,c] 0 1 [a,b,c].length)):=Z;have ab:=yZ (qN [a,b,c] 0 1 [a,b,c].length);refine AF ?_;refine zC I I ?_;exact AJ vI (hD a b c)
theorem eV{k:Nat}{va:A2}{a:Tq}(ra:(AD k).Is h0 va a){vb:A2}{b:Tq}(rb:(AD k).Is h0 vb b){vp:A2}{p:Tq}(rp:(AD k).Is h0 vp p)(H0:k<=40000000):
 Ae 190 #[va,vb,vp] w0 h0 (λ_ r=>r=vB (BX (pr a 0 1) (pr b 0 1) (pr p 0 1))):=by
 refine Cs 29 va vb vp func190 hs ?_;refine A5 ?_;refine nB ra λb3 bk ab=>(nB rb λb4 bj aa=>(nB rp λb5 an ah=>(AN ?_)));refine jD (ι:=List A2×List A2×A4) (λ(D,C,m1)=>MLe h0 m1/\((AD k).R m1 D (FY a b 0 1)/\(AD k).R m1 C (Fv a b 0 1)/\True)) (λ(D,C,m1)=>[(3,vP b3 0),(4,vP b4 0),(5,vP b5 0)]) (λ(D,C,m1)=>[.var b5 43 an,.var b4 43 C,.var b3 43 D]) (λ(D,C,m1)=>m1) ?_ ?_
 ·
  refine A5 ?_;refine lX (xB zI pH aa) λv7 r7=>(lX (xB zI pH ab) λv8 r8=>(cL (AK I I) call234 (λw hs=>cJ hs r7 r8 O) λv9 h1 aj r9=>?_));obtain rfl:v9=vB (lx (pr b 0 1) (pr a 0 1)):=r9;refine BB (λZ=>?_) λZ=>?_
  ·
   refine A7 ?_;refine lX (xB zI pH aa) λbu bh=>(lX (xB zI pH ab) λbt bg=>(zP (A:=[_,_]) (uB sizeOf43 pH ab bh) λam ae=>(zP (A:=[_]) (uB sizeOf43 pH aa bg) λak ad=>(A7 ?_))));refine zV (am,ak,h1) ?_ EQ I I;refine⟨aj,?_⟩;refine⟨(Rp.castR ae (AC Z).symm),(Rp.castR ad (AC Z).symm),?_⟩
   trivial
  refine A7 ?_;refine zV (bk,bj,h1) ?_ EQ I I;refine⟨aj,?_⟩;refine⟨(Rp.castR ab.up (A8 Z).symm),(Rp.castR aa.up (A8 Z).symm),?_⟩
  trivial
 rintro⟨D,C,m1⟩ ⟨bl,ac⟩
 refine yO ?_;obtain⟨J,H,ac⟩:=ac;refine A5 ?_;refine lX (xB zI pH J) λbs bf=>(lX (xB zI pH H) λbr be=>(lX (xB zI pH ah) λbq bd=>(cL (BM I I I) call192 (λw hs=>sK hs bf be bd O) λav h1 aj bc=>?_)))
 let eX1:=(pr (FY a b 0 1) 0 1)
 let eX2:=(pr (Fv a b 0 1) 0 1)
 obtain rfl:av=vI (Ai eX1 eX2 (pr p 0 1)):=bc;have bi:=sD eX1 eX2 (pr p 0 1);refine A7 ?_
 let eX0:=(((Ai eX1 eX2 (pr p 0 1))=(0:Int))/\(¬(lx (pr p 0 1) eX1)))
 refine uH (ι:=A4) 6 (λm_=>MLe h1 m_) (λ_=>[(22,vB eX0),(4,vP b4 0),(5,vP b5 0)]) (λ_=>[.var b5 43 an,.var b4 43 C,.var b3 43 D]) (λm_=>m_) ?_ ?_
 ·
  refine zY ((Ai eX1 eX2 (pr p 0 1))=(0:Int)) (λU=>?_) (λU=>?_)
  ·
   refine gT U I (A7 ?_);refine lX (xB zI pH ah) λbp bb=>(A7 ?_);refine lX (xB zI pH J) λbo ba=>(A7 ?_);refine cL (AK I I) call234 (λw hs=>cJ hs bb ba O) λau h2 ai az=>?_;obtain rfl:au=vB (lx (pr p 0 1) eX1):=az;refine AF ?_;refine zV h2 ai ⟨?_,I,I,AW⟩ I I;exact AV (xE U)
  refine gF U I (AZ ?_);refine zV h1 (MLe.refl _) ⟨?_,I,I,AW⟩ I I;exact AV (xG U)
 intro M ap;refine fM ?_;refine uH (ι:=A4) 6 (λm_=>MLe M m_) (λ_=>[(28,vB (eX0/\(¬(lx eX2 (pr p 0 1)))))]) (λ_=>[.var b5 43 an,.var b4 43 C,.var b3 43 D]) (λm_=>m_) ?_ ?_
 ·
  refine zY eX0 (λU=>?_) (λU=>?_)
  ·
   refine gT U I (A7 ?_);refine lX (xB zI pH H) λbn ay=>(A7 ?_);refine lX (xB zI pH ah) λbm ax=>(A7 ?_);refine cL (AK I I) call234 (λw hs=>cJ hs ay ax O) λar h2 ai aw=>?_;obtain rfl:ar=vB (lx eX2 (pr p 0 1)):=aw;refine AF ?_;refine zV h2 ai ⟨?_,AW⟩ I I;exact AV (xE U)
  refine gF U I (AZ ?_);refine zV M (MLe.refl _) ⟨?_,AW⟩ I I;exact AV (xG U)
 intro aq ao;refine fM ?_;refine AF ?_;refine zC I I ?_
 first|exact qQ (by rw[<-Pn];grind)|exact(yU (by rw[<-Pn];grind)).symm|exact(yH (by rw[<-Pn];grind)).symm
theorem vg{k:Nat}{va:A2}{a:Tq}(ra:(AD k).Is h0 va a){vb:A2}{b:Tq}(rb:(AD k).Is h0 vb b){vc:A2}{c:Tq}(rc:(AD k).Is h0 vc c){vd:A2}{d:Tq}(rd:(AD k).Is h0 vd d)(H0:k<=9000):
 Ae 256 #[va,vb,vc,vd] w0 h0 (λ_ r=>r=vI (HX (pr a 0 1) (pr b 0 1) (pr c 0 1) (pr d 0 1))):=by
 refine kA (n:=72) (e:=[(0,va),(1,vb),(2,vc),(3,vd)]) (vs:=[va,vb,vc,vd]) func256 rfl rfl (bL rfl) hs BR (A5 ?_);refine nB ra λb4 bh au=>(nB rb λb5 bg ar=>(nB rc λb6 bf am=>(nB rd λb7 be ak=>(AF ?_))))
 let eX2:List A2:=Em
 refine zG 6 _ [(2,(9,43,eX2)),(3,(10,43,eX2))] [(0,.q),(1,.q),(2,.a),(3,.a),(4,.c),(5,.c)] zX (uY.cons I I (vG yA I I) (uY.cons I I (vG yA I I) uY.nil)) Ac (vH I I (vH I I qT)) (λr hr=>hr) (wX I (xB zI pH au) λfo ed=>(wX I (xB zI pH ar) λfm ec=>?_));refine CA I I (λb9=>?_);have cf:(AD (k+1)).R h0 eX2 zT:=(yN (zR O));refine CA I I (λav=>?_);have bl:(AD (k+1)).R h0 eX2 zT:=(yN (zR O));refine AB I (kB (A:=[_]) (uB sizeOf43 pH cf (ed.le (AI (k+1)))) (yP BU) λbd ac=>?_);refine AB I (kB (A:=[]) (uB sizeOf43 pH bl (ec.le (AI (k+1)))) (yP BU) λaq ab=>(A5 ?_))
 let eX4:List (Nat×A2):=[(4,vP b4 0),(5,vP b5 0),(6,vP b6 0),(7,vP b7 0),(9,vP b9 0),(10,vP av 0)]
 refine jD (ι:=List A2×A4) (λ(H,m1)=>MLe h0 m1/\((AD (k+1)).R m1 H (MC a c 0 1)/\True)) (λ(H,m1)=>eX4) (λ(H,m1)=>[.var av 43 aq,.var b9 43 H,.var b7 43 be,.var b6 43 bf,.var b5 43 bg,.var b4 43 bh]) (λ(H,m1)=>m1) ?_ ?_
 ·
  refine A5 ?_;refine lX (xB zI pH ac) λfl eb=>(lX (xB zI pH am) λfk ea=>(cL (AK I I) call234 (λw hs=>cJ hs eb (ea.le (AI (k+1))) O) λce h1 ai dz=>?_));obtain rfl:ce=vB (lx (pr a 0 1) (pr c 0 1)):=dz;refine BB (λap=>?_) λap=>?_
  ·
   refine A7 ?_;refine lX (xB zI pH am) λfj dy=>(zP (A:=[_]) (uB sizeOf43 pH ac (dy.le (AI (k+1)))) λbc ax=>(A7 ?_));refine zV (bc,h1) ?_ e6 I I;refine⟨ai,?_⟩;refine⟨(Rp.castR ax (AC ap).symm),?_⟩
   trivial
  refine A7 ?_;refine zV (bd,h1) ?_ e6 I I;refine⟨ai,?_⟩;refine⟨(Rp.castR ac.up (A8 ap).symm),?_⟩
  trivial
 rintro⟨H,m1⟩ ⟨ef,aa⟩
 refine yO ?_;obtain⟨C,aa⟩:=aa;refine jD (ι:=List A2×A4) (λ(J,m2)=>MLe m1 m2/\((AD (k+1)).R m2 J (N4 b d 0 1)/\True)) (λ(J,m2)=>eX4) (λ(J,m2)=>[.var av 43 J,.var b9 43 H,.var b7 43 be,.var b6 43 bf,.var b5 43 bg,.var b4 43 bh]) (λ(J,m2)=>m2) ?_ ?_
 ·
  refine A5 ?_;refine lX (xB zI pH ak) λfi dx=>(lX (xB zI pH ab) λfh dw=>(cL (AK I I) call234 (λw hs=>cJ hs (dx.le (AI (k+1))) dw O) λcd h1 ai dv=>?_));obtain rfl:cd=vB (lx (pr d 0 1) (pr b 0 1)):=dv;refine BB (λao=>?_) λao=>?_
  ·
   refine A7 ?_;refine lX (xB zI pH ak) λfg du=>(zP (A:=[]) (uB sizeOf43 pH ab (du.le (AI (k+1)))) λbb aw=>(A7 ?_));refine zV (bb,h1) ?_ e6 I I;refine⟨ai,?_⟩;refine⟨(Rp.castR aw (AC ao).symm),?_⟩
   trivial
  refine A7 ?_;refine zV (aq,h1) ?_ e6 I I;refine⟨ai,?_⟩;refine⟨(Rp.castR ab.up (A8 ao).symm),?_⟩
  trivial
 rintro⟨J,m2⟩ ⟨ee,aa⟩
 refine yO ?_;obtain⟨aj,aa⟩:=aa;refine AF ?_;refine lX (xB zI pH aj) λff dt=>(lX (xB zI pH C) λfe dr=>(cL (AK I I) call234 (λw hs=>cJ hs dt dr O) λcc h1 ai dq=>?_));obtain rfl:cc=vB (lx (pr (N4 b d 0 1) 0 1) (pr (MC a c 0 1) 0 1)):=dq;refine B4 (λbq=>?_) λbq=>?_
 ·
  refine AX ?_;refine zC I I ?_;refine AJ vI ?_;rw[<-Kf I I];unfold Ie;grind
 refine A5 ?_;refine lX (xB zI pH C) λfd dp=>(lX (xB zI pH aj) λfc dn=>(cL (AK I I) call250 (λw hs=>jW hs dp dn O) λcb h2 fq dm=>?_))
 let eX0:=(pr (MC a c 0 1) 0 1)
 obtain rfl:cb=vB (eX0=(pr (N4 b d 0 1) 0 1)):=dm;refine Ca (λbp=>?_) λbp=>?_
 ·
  refine AX ?_;refine zC I I ?_;refine AJ vI ?_;rw[<-Kf I I];unfold Ie;grind
 refine A5 ?_;refine lX (xB zI pH C) λfb dl=>(lX (xB zI pH au) λfa dk=>(cL (AK I I) call250 (λw hs=>jW hs dl (dk.le (AI (k+1))) O) λca h3 fp dj=>?_));obtain rfl:ca=vB (eX0=(pr a 0 1)):=dj
 let eX1:List AG:=[.var av 43 J,.var b9 43 H,.var b7 43 be,.var b6 43 bf,.var b5 43 bg,.var b4 43 bh]
 let eX5:=((eX0=(pr a 0 1))\/(eX0=(pr b 0 1)))
 refine uH (ι:=A4) 5 (λM=>MLe h3 M) (λ_=>[(38,vB eX5),(4,vP b4 0),(5,vP b5 0),(6,vP b6 0),(7,vP b7 0),(9,vP b9 0)]) (λ_=>eX1) (λM=>M) ?_ ?_
 ·
  refine zY (eX0=(pr a 0 1)) (λD=>?_) (λD=>?_)
  ·
   refine gT D I (AR ?_);refine zV h3 (MLe.refl _) ⟨?_,I,I,I,I,I,AW⟩ I I;exact AV (vN D)
  refine gF D I (A7 ?_);refine lX (xB zI pH C) λez di=>(A7 ?_);refine lX (xB zI pH ar) λey dh=>(A7 ?_);refine cL (AK I I) call250 (λw hs=>jW hs di (dh.le (AI (k+1))) O) λbz h4 Z df=>?_;obtain rfl:bz=vB (eX0=(pr b 0 1)):=df;refine A5 ?_;refine zV h4 Z ⟨?_,I,I,I,I,I,AW⟩ I I;exact AV (vO D)
 intro ah bk;refine fM ?_
 let eX3:=(eX5/\((eX0=(pr c 0 1))\/(eX0=(pr d 0 1))))
 refine uH (ι:=A4) 10 (λM=>MLe ah M) (λ_=>[(48,vB eX3),(4,vP b4 0),(5,vP b5 0),(6,vP b6 0),(7,vP b7 0),(9,vP b9 0)]) (λ_=>eX1) (λM=>M) ?_ ?_
 ·
  refine zY eX5 (λD=>?_) (λD=>?_)
  ·
   refine gT D I (A7 ?_);refine lX (xB zI pH C) λew de=>(A7 ?_);refine lX (xB zI pH am) λev dd=>(A7 ?_);refine cL (AK I I) call250 (λw hs=>jW hs de (dd.le (AI (k+1))) O) λbx h4 Z dc=>?_;obtain rfl:bx=vB (eX0=(pr c 0 1)):=dc;refine uH (ι:=A4) 5 (λM=>MLe h4 M) (λ_=>[(47,vB ((eX0=(pr c 0 1))\/(eX0=(pr d 0 1)))),(4,vP b4 0),(5,vP b5 0),(6,vP b6 0),(7,vP b7 0),(9,vP b9 0),(39,.bool true)]) (λ_=>eX1) (λM=>M) ?_ ?_
   ·
    refine zY (eX0=(pr c 0 1)) (λD=>?_) (λD=>?_)
    ·
     refine A7 ?_;refine gT D I (AZ ?_);refine zV h4 (MLe.refl _) ⟨?_,I,I,I,I,I,I,AW⟩ I I;exact AV (vN D)
    refine A7 ?_;refine gF D I (A7 ?_);refine lX (xB zI pH C) λeu db=>(A7 ?_);refine lX (xB zI pH ak) λes da=>(A7 ?_);refine cL (AK I I) call250 (λw hs=>jW hs db (da.le (AI (k+1))) O) λbw h5 ba cz=>?_;obtain rfl:bw=vB (eX0=(pr d 0 1)):=cz;refine AN ?_;refine zV h5 ba ⟨?_,I,I,I,I,I,I,AW⟩ I I;exact AV (vO D)
   intro an ad;refine fM ?_;refine A5 ?_;refine zV an (Z.trans ad) ⟨?_,I,I,I,I,I,AW⟩ I I;exact AV (xE D)
  refine gF D I (vV ?_);refine zV ah (MLe.refl _) ⟨?_,I,I,I,I,I,AW⟩ I I;exact AV (xG D)
 intro ae bj;refine fM ?_;refine uH (ι:=A4) 6 (λM=>MLe ae M) (λ_=>[(54,vB (eX3/\(BX (pr a 0 1) (pr b 0 1) eX0))),(4,vP b4 0),(5,vP b5 0),(6,vP b6 0),(7,vP b7 0),(9,vP b9 0)]) (λ_=>eX1) (λM=>M) ?_ ?_
 ·
  refine zY eX3 (λD=>?_) (λD=>?_)
  ·
   refine gT D I (A7 ?_);refine lX (xB zI pH au) λer cy=>(A7 ?_);refine lX (xB zI pH ar) λeq cw=>(A7 ?_);refine lX (xB zI pH C) λep cv=>(A7 ?_);refine cL (BM I I I) call190 (λw hs=>eV hs (cy.le (AI (k+1))) (cw.le (AI (k+1))) cv O) λbv h4 Z cu=>?_;obtain rfl:bv=vB (BX (pr a 0 1) (pr b 0 1) eX0):=cu;refine A5 ?_;refine zV h4 Z ⟨?_,I,I,I,I,I,AW⟩ I I;exact AV (xE D)
  refine gF D I (AZ ?_);refine zV ae (MLe.refl _) ⟨?_,I,I,I,I,I,AW⟩ I I;exact AV (xG D)
 intro U az;refine fM ?_;refine uH (ι:=A4) 6 (λM=>MLe U M) (λ_=>[(60,vB ((eX3/\(BX (pr a 0 1) (pr b 0 1) eX0))/\(BX (pr c 0 1) (pr d 0 1) eX0))),(4,vP b4 0),(5,vP b5 0),(6,vP b6 0),(7,vP b7 0),(9,vP b9 0)]) (λ_=>eX1) (λM=>M) ?_ ?_
 ·
  refine zY (eX3/\(BX (pr a 0 1) (pr b 0 1) eX0)) (λD=>?_) (λD=>?_)
  ·
   refine gT D I (A7 ?_);refine lX (xB zI pH am) λeo ct=>(A7 ?_);refine lX (xB zI pH ak) λen cq=>(A7 ?_);refine lX (xB zI pH C) λem cp=>(A7 ?_);refine cL (BM I I I) call190 (λw hs=>eV hs (ct.le (AI (k+1))) (cq.le (AI (k+1))) cp O) λbu h4 Z co=>?_;obtain rfl:bu=vB (BX (pr c 0 1) (pr d 0 1) eX0):=co;refine A5 ?_;refine zV h4 Z ⟨?_,I,I,I,I,I,AW⟩ I I;exact AV (xE D)
  refine gF D I (AZ ?_);refine zV U (MLe.refl _) ⟨?_,I,I,I,I,I,AW⟩ I I;exact AV (xG D)
 intro bm ay;refine fM ?_;refine B4 (λbo=>?_) λbo=>?_
 ·
  refine AX ?_;refine zC I I ?_;refine AJ vI ?_;rw[<-Kf I I];unfold Ie;grind
 refine A5 ?_;refine lX (xB zI pH au) λel cn=>(lX (xB zI pH ar) λek cm=>(lX (xB zI pH C) λej cl=>(cL (BM I I I) call190 (λw hs=>eV hs (cn.le (AI (k+1))) (cm.le (AI (k+1))) cl O) λbt h4 Z ck=>?_)));obtain rfl:bt=vB (BX (pr a 0 1) (pr b 0 1) eX0):=ck;refine uH (ι:=A4) 6 (λM=>MLe h4 M) (λ_=>[(71,vB ((BX (pr a 0 1) (pr b 0 1) eX0)/\(BX (pr c 0 1) (pr d 0 1) eX0)))]) (λ_=>eX1) (λM=>M) ?_ ?_
 ·
  refine zY (BX (pr a 0 1) (pr b 0 1) eX0) (λD=>?_) (λD=>?_)
  ·
   refine gT D I (A7 ?_);refine lX (xB zI pH am) λei cj=>(A7 ?_);refine lX (xB zI pH ak) λeh ci=>(A7 ?_);refine lX (xB zI pH C) λeg ch=>(A7 ?_);refine cL (BM I I I) call190 (λw hs=>eV hs (cj.le (AI (k+1))) (ci.le (AI (k+1))) ch O) λbs h5 ba cg=>?_;obtain rfl:bs=vB (BX (pr c 0 1) (pr d 0 1) eX0):=cg;refine A5 ?_;refine zV h5 ba ⟨?_,AW⟩ I I;exact AV (xE D)
  refine gF D I (AZ ?_);refine zV h4 (MLe.refl _) ⟨?_,AW⟩ I I;exact AV (xG D)
 intro br bi;refine fM ?_;refine B4 (λbn=>?_) λbn=>?_
 ·
  refine AX ?_;refine zC I I ?_;refine AJ vI ?_;rw[<-Kf I I];unfold Ie;grind
 refine Ak ?_;refine zC I I ?_;refine AJ vI ?_;rw[<-Kf I I];unfold Ie;grind
theorem sw{k:Nat}{va:A2}{a:Tq}(ra:(AD k).Is h0 va a){vb:A2}{b:Tq}(rb:(AD k).Is h0 vb b){vc:A2}{c:Tq}(rc:(AD k).Is h0 vc c){vd:A2}{d:Tq}(rd:(AD k).Is h0 vd d)(H0:k<=40000000):
 Ae 257 #[va,vb,vc,vd] w0 h0 (λ_ r=>r=vI (w8 (pr a 0 1) (pr b 0 1) (pr c 0 1) (pr d 0 1))):=by
 refine kA (n:=29) (e:=[(0,va),(1,vb),(2,vc),(3,vd)]) (vs:=[va,vb,vc,vd]) func257 rfl rfl (bL rfl) hs BR (A5 ?_);refine nB ra λb4 bh aa=>(nB rb λb5 bg ad=>(nB rc λb6 bf Z=>(nB rd λb7 be ac=>(AZ ?_))));refine lX (xB zI pH aa) λv9 r9=>(lX (xB zI pH ad) λbq bb=>(cL (AK I I) call250 (λw hs=>jW hs r9 bb O) λam h1 br ba=>?_));obtain rfl:am=vB ((pr a 0 1)=(pr b 0 1)):=ba
 let eX0:=(((pr a 0 1)=(pr b 0 1))/\(BX (pr c 0 1) (pr d 0 1) (pr a 0 1)))
 let eX1:List AG:=[.var b7 43 be,.var b6 43 bf,.var b5 43 bg,.var b4 43 bh]
 refine uH (ι:=A4) 6 (λJ=>MLe h1 J) (λ_=>[(17,vB eX0),(4,vP b4 0),(5,vP b5 0),(6,vP b6 0),(7,vP b7 0)]) (λ_=>eX1) (λJ=>J) ?_ ?_
 ·
  refine zY ((pr a 0 1)=(pr b 0 1)) (λC=>?_) (λC=>?_)
  ·
   refine gT C I (A7 ?_);refine lX (xB zI pH Z) λbp az=>(A7 ?_);refine lX (xB zI pH ac) λbo ay=>(A7 ?_);refine lX (xB zI pH aa) λbn ax=>(A7 ?_);refine cL (BM I I I) call190 (λw hs=>eV hs az ay ax O) λak h2 ab aw=>?_;obtain rfl:ak=vB (BX (pr c 0 1) (pr d 0 1) (pr a 0 1)):=aw;refine A5 ?_;refine zV h2 ab ⟨?_,I,I,I,I,AW⟩ I I;exact AV (xE C)
  refine gF C I (AZ ?_);refine zV h1 (MLe.refl _) ⟨?_,I,I,I,I,AW⟩ I I;exact AV (xG C)
 intro H ah;refine fM ?_;refine uH (ι:=A4) 11 (λJ=>MLe H J) (λ_=>[(28,vB (eX0\/(((pr c 0 1)=(pr d 0 1))/\(BX (pr a 0 1) (pr b 0 1) (pr c 0 1)))))]) (λ_=>eX1) (λJ=>J) ?_ ?_
 ·
  refine zY eX0 (λC=>?_) (λC=>?_)
  ·
   refine gT C I (uG ?_);refine zV H (MLe.refl _) ⟨?_,AW⟩ I I;exact AV (vN C)
  refine gF C I (A7 ?_);refine lX (xB zI pH Z) λbm av=>(A7 ?_);refine lX (xB zI pH ac) λbl au=>(A7 ?_);refine cL (AK I I) call250 (λw hs=>jW hs av au O) λaj h2 ab ar=>?_;obtain rfl:aj=vB ((pr c 0 1)=(pr d 0 1)):=ar;refine uH (ι:=A4) 6 (λJ=>MLe h2 J) (λ_=>[(27,vB (((pr c 0 1)=(pr d 0 1))/\(BX (pr a 0 1) (pr b 0 1) (pr c 0 1)))),(18,.bool false)]) (λ_=>eX1) (λJ=>J) ?_ ?_
  ·
   refine zY ((pr c 0 1)=(pr d 0 1)) (λC=>?_) (λC=>?_)
   ·
    refine A7 ?_;refine gT C I (A7 ?_);refine lX (xB zI pH aa) λbk aq=>(A7 ?_);refine lX (xB zI pH ad) λbj ap=>(A7 ?_);refine lX (xB zI pH Z) λbi ao=>(A7 ?_);refine cL (BM I I I) call190 (λw hs=>eV hs aq ap ao O) λai h3 bd an=>?_;obtain rfl:ai=vB (BX (pr a 0 1) (pr b 0 1) (pr c 0 1)):=an;refine AN ?_;refine zV h3 bd ⟨?_,I,AW⟩ I I;exact AV (xE C)
   refine A7 ?_;refine gF C I (Af ?_);refine zV h2 (MLe.refl _) ⟨?_,I,AW⟩ I I;exact AV (xG C)
  intro U D;refine fM ?_;refine A5 ?_;refine zV U (ab.trans D) ⟨?_,AW⟩ I I;exact AV (vO C)
 intro bc ae;refine fM ?_;refine BB (λM=>?_) λM=>?_
 ·
  refine Af ?_;refine zC I I ?_;exact AJ vI (AC M).symm
 refine AX ?_;refine zC I I ?_;exact AJ vI (A8 M).symm
theorem Zj{k:Nat}{va:A2}{a:Tq}(ra:(AD k).Is h0 va a){vb:A2}{b:Tq}(rb:(AD k).Is h0 vb b){vc:A2}{c:Tq}(rc:(AD k).Is h0 vc c){vd:A2}{d:Tq}(rd:(AD k).Is h0 vd d)(H0:k<=5000):
 Ae 251 #[va,vb,vc,vd] w0 h0 (λ_ r=>r=vI (oZ (pr a 0 1) (pr b 0 1) (pr c 0 1) (pr d 0 1))):=by
 refine kA (n:=117) (e:=[(0,va),(1,vb),(2,vc),(3,vd)]) (vs:=[va,vb,vc,vd]) func251 rfl rfl (bL rfl) hs BR (A5 ?_);refine nB ra λb4 kc ce=>(nB rb λb5 kb cd=>(nB rc λb6 ka cc=>(nB rd λb7 jz cb=>(AF ?_))));refine zG 8 _ [] [(0,.q),(2,.q),(4,.q),(6,.q),(1,.c),(3,.c),(5,.c),(7,.c),(8,.t),(9,.t),(10,.t),(11,.t)] zX nX (xU Ac) nX (λr hr=>hr) (wX I (xB zI pH ce) λjr gm=>(wX I (xB zI pH cd) λjp gj=>(wX I (xB zI pH cc) λjn gh=>(wX I (xB zI pH cb) λjl gf=>?_))));refine AB I (sC (AU I) call191 (λw hs=>bM hs gm) λjq h1 jx gk=>?_);refine AB I (sC (AU I) call191 (λw hs=>bM hs gj.up) λjo h2 jw gi=>?_);refine AB I (sC (AU I) call191 (λw hs=>bM hs gh.up) λjm h3 jv gg=>?_);refine AB I (sC (AU I) call191 (λw hs=>bM hs gf.up) λjk h4 ju ge=>?_);have bf:=(AI (k+1)).R ce;refine yD (A:=[_,_,_]) I (uB sizeOf43 pH bf gk) λbr ah=>?_;have be:=(AI (k+1)).R cd;refine yD (A:=[_,_]) I (uB sizeOf43 pH be gi) λbq ae=>?_;have bd:=(AI (k+1)).R cc;refine yD (A:=[_]) I (uB sizeOf43 pH bd gg) λbb ad=>?_;have bc:=(AI (k+1)).R cb;refine yD (A:=[]) I (uB sizeOf43 pH bc ge) λba ac=>(A5 ?_);refine jD (ι:=List A2×List A2×A4) (λ(Z,U,m1)=>MLe h4 m1/\((AD (k+1)).R m1 Z (FY (zZ a) (zZ b) 0 1)/\(AD (k+1)).R m1 U (Fv (zZ a) (zZ b) 0 1)/\True)) (λ(Z,U,m1)=>[(4,vP b4 0),(5,vP b5 0),(6,vP b6 0),(7,vP b7 0)]) (λ(Z,U,m1)=>[.var b7 43 ba,.var b6 43 bb,.var b5 43 U,.var b4 43 Z]) (λ(Z,U,m1)=>m1) ?_ ?_
 ·
  refine A5 ?_;refine lX (xB zI pH ae) λjj gc=>(lX (xB zI pH ah) λji gb=>(cL (AK I I) call234 (λw hs=>cJ hs gc gb O) λdr h5 ar ga=>?_));obtain rfl:dr=vB (lx (pr (zZ b) 0 1) (pr (zZ a) 0 1)):=ga;refine BB (λam=>?_) λam=>?_
  ·
   refine A7 ?_;refine lX (xB zI pH ae) λjh fz=>(lX (xB zI pH ah) λjg fy=>(zP (A:=[_,_,_]) (uB sizeOf43 pH ah fz) λbp bj=>(zP (A:=[_,_]) (uB sizeOf43 pH ae fy) λbo bi=>(A7 ?_))));refine zV (bp,bo,h5) ?_ BR I I;refine⟨ar,?_⟩;refine⟨(Rp.castR bj (AC am).symm),(Rp.castR bi (AC am).symm),?_⟩
   trivial
  refine A7 ?_;refine zV (br,bq,h5) ?_ BR I I;refine⟨ar,?_⟩;refine⟨(Rp.castR ah.up (A8 am).symm),(Rp.castR ae.up (A8 am).symm),?_⟩
  trivial
 rintro⟨Z,U,m1⟩ ⟨hc,aj⟩
 refine yO ?_;obtain⟨J,H,aj⟩:=aj;refine jD (ι:=List A2×List A2×A4) (λ(ab,aa,m2)=>MLe m1 m2/\((AD (k+1)).R m2 ab (FY (zZ c) (zZ d) 0 1)/\(AD (k+1)).R m2 aa (Fv (zZ c) (zZ d) 0 1)/\True)) (λ(ab,aa,m2)=>[(4,vP b4 0),(5,vP b5 0),(6,vP b6 0),(7,vP b7 0)]) (λ(ab,aa,m2)=>[.var b7 43 aa,.var b6 43 ab,.var b5 43 U,.var b4 43 Z]) (λ(ab,aa,m2)=>m2) ?_ ?_
 ·
  refine A5 ?_;refine lX (xB zI pH ac) λjf fx=>(lX (xB zI pH ad) λje fw=>(cL (AK I I) call234 (λw hs=>cJ hs fx fw O) λdq h5 ar fv=>?_));obtain rfl:dq=vB (lx (pr (zZ d) 0 1) (pr (zZ c) 0 1)):=fv;refine BB (λak=>?_) λak=>?_
  ·
   refine A7 ?_;refine lX (xB zI pH ac) λjd fu=>(lX (xB zI pH ad) λjc ft=>(zP (A:=[_]) (uB sizeOf43 pH ad fu) λbn bh=>(zP (A:=[]) (uB sizeOf43 pH ac ft) λbm bg=>(A7 ?_))));refine zV (bn,bm,h5) ?_ BR I I;refine⟨ar,?_⟩;refine⟨(Rp.castR bh (AC ak).symm),(Rp.castR bg (AC ak).symm),?_⟩
   trivial
  refine A7 ?_;refine zV (bb,ba,h5) ?_ BR I I;refine⟨ar,?_⟩;refine⟨(Rp.castR ad.up (A8 ak).symm),(Rp.castR ac.up (A8 ak).symm),?_⟩
  trivial
 rintro⟨ab,aa,m2⟩ ⟨hb,aj⟩
 refine yO ?_;obtain⟨D,C,aj⟩:=aj;refine AN ?_;refine lX (xB zI pH J) λjb fs=>(lX (xB zI pH H) λja fr=>(lX (xB zI pH D) λiz fq=>(cL (BM I I I) call192 (λw hs=>sK hs fs fr fq O) λdp h5 ar fp=>?_)))
 let eX0:=(pr (FY (zZ a) (zZ b) 0 1) 0 1)
 let eX1:=(pr (Fv (zZ a) (zZ b) 0 1) 0 1)
 let eX2:=(pr (FY (zZ c) (zZ d) 0 1) 0 1)
 obtain rfl:dp=vI (Ai eX0 eX1 eX2):=fp;have gs:=sD eX0 eX1 eX2;refine A7 ?_
 let eX3:=(pr (Fv (zZ c) (zZ d) 0 1) 0 1)
 let eX4:List AG:=[.var b7 43 aa,.var b6 43 ab,.var b5 43 U,.var b4 43 Z]
 let eX5:=(((Ai eX0 eX1 eX2)=(0:Int))/\((Ai eX0 eX1 eX3)=(0:Int)))
 refine uH (ι:=A4) 7 (λm_=>MLe h5 m_) (λ_=>[(40,vB eX5),(4,vP b4 0),(5,vP b5 0),(6,vP b6 0),(7,vP b7 0)]) (λ_=>eX4) (λm_=>m_) ?_ ?_
 ·
  refine zY ((Ai eX0 eX1 eX2)=(0:Int)) (λM=>?_) (λM=>?_)
  ·
   refine gT M I (A7 ?_);refine lX (xB zI pH J) λiy fo=>(A7 ?_);refine lX (xB zI pH H) λix fm=>(A7 ?_);refine lX (xB zI pH C) λiw fl=>(A7 ?_);refine cL (BM I I I) call192 (λw hs=>sK hs fo fm fl O) λdn h6 an fk=>?_;obtain rfl:dn=vI (Ai eX0 eX1 eX3):=fk;have gr:=sD eX0 eX1 eX3;refine AF ?_;refine zV h6 an ⟨?_,I,I,I,I,AW⟩ I I;exact AV (xE M)
  refine gF M I (Af ?_);refine zV h5 (MLe.refl _) ⟨?_,I,I,I,I,AW⟩ I I;exact AV (xG M)
 intro au cu;refine fM ?_;refine uH (ι:=A4) 7 (λm_=>MLe au m_) (λ_=>[(47,vB (eX5/\((Ai eX2 eX3 eX0)=(0:Int)))),(4,vP b4 0),(5,vP b5 0),(6,vP b6 0),(7,vP b7 0)]) (λ_=>eX4) (λm_=>m_) ?_ ?_
 ·
  refine zY eX5 (λM=>?_) (λM=>?_)
  ·
   refine gT M I (A7 ?_);refine lX (xB zI pH D) λiv fj=>(A7 ?_);refine lX (xB zI pH C) λiu fi=>(A7 ?_);refine lX (xB zI pH J) λir fh=>(A7 ?_);refine cL (BM I I I) call192 (λw hs=>sK hs fj fi fh O) λdm h6 an fg=>?_;obtain rfl:dm=vI (Ai eX2 eX3 eX0):=fg;have gq:=sD eX2 eX3 eX0;refine AF ?_;refine zV h6 an ⟨?_,I,I,I,I,AW⟩ I I;exact AV (xE M)
  refine gF M I (Af ?_);refine zV au (MLe.refl _) ⟨?_,I,I,I,I,AW⟩ I I;exact AV (xG M)
 intro ao bt;refine fM ?_;refine uH (ι:=A4) 7 (λm_=>MLe ao m_) (λ_=>[(54,vB ((eX5/\((Ai eX2 eX3 eX0)=(0:Int)))/\((Ai eX2 eX3 eX1)=(0:Int)))),(4,vP b4 0),(5,vP b5 0),(6,vP b6 0),(7,vP b7 0)]) (λ_=>eX4) (λm_=>m_) ?_ ?_
 ·
  refine zY (eX5/\((Ai eX2 eX3 eX0)=(0:Int))) (λM=>?_) (λM=>?_)
  ·
   refine gT M I (A7 ?_);refine lX (xB zI pH D) λiq ff=>(A7 ?_);refine lX (xB zI pH C) λip fe=>(A7 ?_);refine lX (xB zI pH H) λio fd=>(A7 ?_);refine cL (BM I I I) call192 (λw hs=>sK hs ff fe fd O) λdl h6 an fc=>?_;obtain rfl:dl=vI (Ai eX2 eX3 eX1):=fc;have go:=sD eX2 eX3 eX1;refine AF ?_;refine zV h6 an ⟨?_,I,I,I,I,AW⟩ I I;exact AV (xE M)
  refine gF M I (Af ?_);refine zV ao (MLe.refl _) ⟨?_,I,I,I,I,AW⟩ I I;exact AV (xG M)
 intro db bs;refine fM ?_;refine BB (λcz=>?_) λcz=>?_
 ·
  refine A5 ?_;refine lX (xB zI pH J) λim fb=>(lX (xB zI pH H) λil fa=>(lX (xB zI pH D) λik ez=>(lX (xB zI pH C) λij ey=>(cL (IL I I I I) call256 (λw hs=>vg hs fb fa ez ey O) λdk h6 an ew=>?_))));obtain rfl:dk=vI (HX eX0 eX1 eX2 eX3):=ew;refine AR ?_;refine zC I I ?_;refine AJ vI ?_;rw[<-LU I I I I];unfold IE;grind
 refine AR ?_;refine lX (xB zI pH J) λii ev=>(lX (xB zI pH H) λih eu=>(cL (AK I I) call250 (λw hs=>jW hs ev eu O) λdj h6 an es=>?_));obtain rfl:dj=vB (eX0=eX1):=es;refine uH (ι:=A4) 5 (λm_=>MLe h6 m_) (λ_=>[(67,vB ((eX0=eX1)\/(eX2=eX3))),(4,vP b4 0),(5,vP b5 0),(6,vP b6 0),(7,vP b7 0)]) (λ_=>eX4) (λm_=>m_) ?_ ?_
 ·
  refine zY (eX0=eX1) (λM=>?_) (λM=>?_)
  ·
   refine gT M I (AR ?_);refine zV h6 (MLe.refl _) ⟨?_,I,I,I,I,AW⟩ I I;exact AV (vN M)
  refine gF M I (A7 ?_);refine lX (xB zI pH D) λig er=>(A7 ?_);refine lX (xB zI pH C) λie eq=>(A7 ?_);refine cL (AK I I) call250 (λw hs=>jW hs er eq O) λdi h7 bl ep=>?_;obtain rfl:di=vB (eX2=eX3):=ep;refine A5 ?_;refine zV h7 bl ⟨?_,I,I,I,I,AW⟩ I I;exact AV (vO M)
 intro gn ct;refine fM ?_;refine BB (λcy=>?_) λcy=>?_
 ·
  refine A5 ?_;refine lX (xB zI pH J) λid eo=>(lX (xB zI pH H) λic en=>(lX (xB zI pH D) λib em=>(lX (xB zI pH C) λia el=>(cL (IL I I I I) call257 (λw hs=>sw hs eo en em el O) λdh h7 bl ek=>?_))));obtain rfl:dh=vI (w8 eX0 eX1 eX2 eX3):=ek;refine AR ?_;refine zC I I ?_;refine AJ vI ?_;rw[<-LU I I I I];unfold IE;grind
 refine AN ?_;refine zG 20 _ [] [(0,.q),(1,.q),(2,.q),(4,.q),(5,.q),(6,.q),(9,.q),(10,.q),(11,.q),(13,.q),(14,.q),(15,.q),(3,.c),(7,.c),(8,.q),(12,.c),(16,.c),(17,.q),(18,.q),(19,.q)] zX nX (xU Ac) nX (λr hr=>hr) (wX I (xB zI pH J) λhw ej=>(wX I (xB zI pH H) λhv ei=>(wX I (xB zI pH D) λhu eh=>(wX I (xB zI pH J) λht ef=>(wX I (xB zI pH H) λhq ee=>(wX I (xB zI pH C) λhp ed=>(wX I (xB zI pH D) λho eb=>(wX I (xB zI pH C) λhn ea=>(wX I (xB zI pH J) λhm dz=>(wX I (xB zI pH D) λhl dx=>(wX I (xB zI pH C) λhk dw=>(wX I (xB zI pH H) λhj dv=>?_))))))))))));refine AB I (sC (BM I I I) call192 (λw hs=>sK hs ej ei eh O) λdf h7 bl eg=>?_);obtain rfl:df=vI (Ai eX0 eX1 eX2):=eg;have ay:=sD eX0 eX1 eX2;refine AB I (sC (BM I I I) call192 (λw hs=>sK hs ef.up ee.up ed.up O) λde h8 jt ec=>?_);obtain rfl:de=vI (Ai eX0 eX1 eX3):=ec;have ax:=sD eX0 eX1 eX3;refine wK I (λ_ _=>gM I I (by have:=lL ay ax;omega) (by have:=lL ay ax;omega)) I ?_;refine AB I (sC (BM I I I) call192 (λw hs=>sK hs eb.up ea.up dz.up O) λdd h9 js dy=>?_);obtain rfl:dd=vI (Ai eX2 eX3 eX0):=dy;have aw:=sD eX2 eX3 eX0;refine AB I (sC (BM I I I) call192 (λw hs=>sK hs dx.up dw.up dv.up O) λdc jy he du=>?_);obtain rfl:dc=vI (Ai eX2 eX3 eX1):=du;have av:=sD eX2 eX3 eX1;refine wK I (λ_ _=>gM I I (by have:=lL aw av;omega) (by have:=lL aw av;omega)) I (vV ?_);refine gU 4 97 (vB (((0:Int)<((Ai eX0 eX1 eX2)*(Ai eX0 eX1 eX3)))\/((0:Int)<((Ai eX2 eX3 eX0)*(Ai eX2 eX3 eX1))))) ?_ ?_
 ·
  refine zY ((0:Int)<((Ai eX0 eX1 eX2)*(Ai eX0 eX1 eX3))) (λM=>?_) (λM=>?_)
  ·
   refine gT M I (AF ?_);refine Ay ?_;exact AV (vN M)
  refine gF M I (AZ ?_);refine Ay ?_;exact AV (vO M)
 refine B4 (λcw=>?_) λcw=>?_
 ·
  refine AX ?_;refine zC I I ?_;refine AJ vI ?_;rw[<-LU I I I I];unfold IE;grind
 refine A5 ?_;refine lX (xB zI pH J) λhf dt=>(lX (xB zI pH D) λha cp=>(cL (AK I I) call250 (λw hs=>jW hs dt cp O) λca da hd co=>?_));obtain rfl:ca=vB (eX0=eX2):=co
 let eX6:=((eX0=eX2)\/(eX0=eX3))
 refine uH (ι:=A4) 5 (λm_=>MLe da m_) (λ_=>[(106,vB eX6),(5,vP b5 0),(6,vP b6 0),(7,vP b7 0)]) (λ_=>eX4) (λm_=>m_) ?_ ?_
 ·
  refine zY (eX0=eX2) (λM=>?_) (λM=>?_)
  ·
   refine gT M I (AR ?_);refine zV da (MLe.refl _) ⟨?_,I,I,I,AW⟩ I I;exact AV (vN M)
  refine gF M I (A7 ?_);refine lX (xB zI pH J) λgz cn=>(A7 ?_);refine lX (xB zI pH C) λgy cm=>(A7 ?_);refine cL (AK I I) call250 (λw hs=>jW hs cn cm O) λbz az ai cl=>?_;obtain rfl:bz=vB (eX0=eX3):=cl;refine A5 ?_;refine zV az ai ⟨?_,I,I,I,AW⟩ I I;exact AV (vO M)
 intro aq bv;refine fM ?_;refine uH (ι:=A4) 5 (λm_=>MLe aq m_) (λ_=>[(111,vB (eX6\/(eX1=eX2))),(5,vP b5 0),(7,vP b7 0)]) (λ_=>eX4) (λm_=>m_) ?_ ?_
 ·
  refine zY eX6 (λM=>?_) (λM=>?_)
  ·
   refine gT M I (AR ?_);refine zV aq (MLe.refl _) ⟨?_,I,I,AW⟩ I I;exact AV (vN M)
  refine gF M I (A7 ?_);refine lX (xB zI pH H) λgx ck=>(A7 ?_);refine lX (xB zI pH D) λgw cj=>(A7 ?_);refine cL (AK I I) call250 (λw hs=>jW hs ck cj O) λbx az ai ci=>?_;obtain rfl:bx=vB (eX1=eX2):=ci;refine A5 ?_;refine zV az ai ⟨?_,I,I,AW⟩ I I;exact AV (vO M)
 intro ap bu;refine fM ?_;refine uH (ι:=A4) 5 (λm_=>MLe ap m_) (λ_=>[(116,vB ((eX6\/(eX1=eX2))\/(eX1=eX3)))]) (λ_=>eX4) (λm_=>m_) ?_ ?_
 ·
  refine zY (eX6\/(eX1=eX2)) (λM=>?_) (λM=>?_)
  ·
   refine gT M I (AR ?_);refine zV ap (MLe.refl _) ⟨?_,AW⟩ I I;exact AV (vN M)
  refine gF M I (A7 ?_);refine lX (xB zI pH H) λgu ch=>(A7 ?_);refine lX (xB zI pH C) λgt cg=>(A7 ?_);refine cL (AK I I) call250 (λw hs=>jW hs ch cg O) λbw az ai cf=>?_;obtain rfl:bw=vB (eX1=eX3):=cf;refine A5 ?_;refine zV az ai ⟨?_,AW⟩ I I;exact AV (vO M)
 intro cq bk;refine fM ?_;refine B4 (λcv=>?_) λcv=>?_
 ·
  refine AX ?_;refine zC I I ?_;refine AJ vI ?_;rw[<-LU I I I I];unfold IE;grind
 refine Ak ?_;refine zC I I ?_;refine AJ vI ?_;rw[<-LU I I I I];unfold IE;grind
theorem n8{k:Nat}{vl:A2}{l:(List Tq)}(rl:(Aq k).Is h0 vl l){vp:A2}{p:Tq}(rp:(AD k).Is h0 vp p)(H0:k<=39000000)(H1:A1 l<=1000):
 Ae 132 #[vl,vp] w0 h0 (λ_ r=>r=vI (aS l (pr p 0 1) 0 1)):=by
 refine B0 66 vl vp func132 hs ?_;refine A5 ?_;refine nB rp λb3 ah ad=>(rX ?_);refine An (ι:=Nat×A4) (λ(m,ma)=>(MLe h0 ma/\(m<=A1 l/\∀q,q<m->¬BX (qJ l 0 1 q) (qI l 0 1 q) (pr p 0 1)),[(0,vl),(3,vP b3 0),(5,vB (sE l (pr p 0 1) 0 1 m)),(6,vI ↑m)],[.var b3 43 ah],ma,A1 l-m)) (0,h0) ?_ ?_ (he:=⟨I,I,AV (yH id).symm,I,AW⟩)
 · exact⟨AM,A3,λq hq=>by omega⟩
 rintro⟨m,ma⟩ ⟨cn,ax,ae⟩
 refine yO ?_;refine Bj (λay=>?_) λay=>?_
 ·
  refine AR ?_
  let eX1:List A2:=Em
  refine zG 16 _ [(12,(7,43,eX1)),(13,(8,43,eX1))] (Ah 0 12 [(12,.a),(13,.a),(14,.c),(15,.c)]) zX (uY.cons I I (vG yA I I) (uY.cons I I (vG yA I I) uY.nil)) (xU Ac) (vH I I (vH I I qT)) (λr hr=>hr) (A5 ?_);refine wX I (xI zT m underlying28 zI rl) λdm ch=>(wX I (xA zI ch) λdl cg=>(AF ?_));refine B3 I (λh' L' hh hR=>jK underlying28 I (rl.up.mono hh)) I (wK I (λ_ _=>wI I I O O) I (wX I (xI zT ((m+1)%A1 l) underlying28 zI rl (hi:=by exact BQ _ O)) λdk cf=>(wX I (xA zI cf) λdj ce=>?_)));refine CA I I (λb7=>?_);have bi:(AD (k+1)).R ma eX1 zT:=(yN (zR O));refine CA I I (λb8=>?_);have bh:(AD (k+1)).R ma eX1 zT:=(yN (zR O));refine AB I (kB (A:=[_]) (uB sizeOf43 pH bi (cg.le (AI (k+1)))) (yP BU) λbb J=>?_);refine AB I (kB (A:=[]) (uB sizeOf43 pH bh (ce.le (AI (k+1)))) (yP BU) λba H=>(AF ?_));refine zG 7 _ [] [(0,.q),(2,.q),(4,.q),(1,.c),(3,.c),(5,.c),(6,.c)] zX nX Ac nX (λr hr=>hr) (wX I (xB zI pH J) λdi cd=>(wX I (xB zI pH H) λdf cc=>(wX I (xB zI pH ad) λdd cb=>?_)));refine AB I (sC (AU I) call191 (λw hs=>bM hs cd) λdh h1 dr ap=>?_);replace ap:=Rp.Is.le ap (AI (k+2));refine AB I (sC (AU I) call191 (λw hs=>bM hs cc.up) λde h2 dq ao=>?_);replace ao:=Rp.Is.le ao (AI (k+2));refine AB I (sC (AU I) call191 (λw hs=>bM hs cb.up) λdc h3 dp ca=>?_);refine AB I (sC (BM I I I) call190 (λw hs=>eV hs ap.up ao.up (ca.le (AI (k+2))) O) λbg h4 dn bz=>?_);obtain rfl:bg=vB (BX (pr (T3.mk ((A0 l m zT).x) ((A0 l m zT).y) (0:Rat)) 0 1) (pr (T3.mk ((A0 l ((m+1)%A1 l) zT).x) ((A0 l ((m+1)%A1 l) zT).y) (0:Rat)) 0 1) (pr (zZ p) 0 1)):=bz;refine BB (λaa=>?_) λaa=>?_
  ·
   refine uF ?_;refine zC I I ?_;exact AJ vI (Xa O aa)
  refine A5 ?_
  let eX0:=(A0 l ((m+1)%A1 l) zT)
  refine jD (ι:=List A2×List A2×A4) (λ(D,C,mc)=>MLe h4 mc/\((AD (k+1)).R mc D (Fk (A0 l m zT) eX0)/\(AD (k+1)).R mc C (Gh (A0 l m zT) eX0)/\True)) (λ(D,C,mc)=>[(0,vl),(3,vP b3 0),(5,vB (sE l (pr p 0 1) 0 1 m)),(6,vI ↑m),(7,vP b7 0),(8,vP b8 0)]) (λ(D,C,mc)=>[.var b8 43 C,.var b7 43 D,.var b3 43 ah]) (λ(D,C,mc)=>mc) ?_ ?_
  ·
   refine AN ?_;refine lX (xB zU (BC pH) J) λdb bx=>(A7 ?_);refine lX (xB zU (BC pH) H) λda bw=>(cL (AK I I) call97 (λw hs=>tL hs bx bw O) λbf h5 au bv=>?_);obtain rfl:bf=vI (wA ((A0 l m zT).y) (eX0.y)):=bv;have cl:=uJ ((A0 l m zT).y) (eX0.y);refine B4 (λU=>?_) λU=>?_
   ·
    refine A7 ?_;refine lX (xB zI pH H) λcz bu=>(lX (xB zI pH J) λcy bt=>(zP (A:=[_]) (uB sizeOf43 pH J bu) λaz an=>(zP (A:=[]) (uB sizeOf43 pH H bt) λav am=>(A7 ?_))));refine zV (az,av,h5) ?_ e6 I I;refine⟨au,?_⟩;refine⟨(Rp.castR an (AC U).symm),(Rp.castR am (AC U).symm),?_⟩
    trivial
   refine A7 ?_;refine zV (bb,ba,h5) ?_ e6 I I;refine⟨au,?_⟩;refine⟨(Rp.castR J.up (A8 U).symm),(Rp.castR H.up (A8 U).symm),?_⟩
   trivial
  rintro⟨D,C,mc⟩ ⟨cm,ak⟩
  refine yO ?_;obtain⟨aj,ai,ak⟩:=ak;refine AN ?_;refine lX (xB zU (BC pH) aj) λcw bs=>(A7 ?_);refine lX (xB zU (BC pH) ad) λcv br=>(cL (AK I I) call97 (λw hs=>tL hs bs br O) λbe h5 au bq=>?_);obtain rfl:be=vI (wA ((Fk (A0 l m zT) eX0).y) p.y):=bq;have ck:=uJ ((Fk (A0 l m zT) eX0).y) p.y;refine A7 ?_
  let eX2:=(((wA ((Fk (A0 l m zT) eX0).y) p.y)<=(0:Int))/\((wA p.y ((Gh (A0 l m zT) eX0).y))<(0:Int)))
  refine uH (ι:=A4) 8 (λm_=>MLe h5 m_) (λ_=>[(55,vB eX2),(0,vl),(3,vP b3 0),(5,vB (sE l (pr p 0 1) 0 1 m)),(6,vI ↑m),(7,vP b7 0),(8,vP b8 0)]) (λ_=>[.var b8 43 C,.var b7 43 D,.var b3 43 ah]) (λm_=>m_) ?_ ?_
  ·
   refine zY ((wA ((Fk (A0 l m zT) eX0).y) p.y)<=(0:Int)) (λhg=>?_) (λhg=>?_)
   ·
    refine gT hg I (AN ?_);refine lX (xB zU (BC pH) ad) λcu bp=>(AN ?_);refine lX (xB zU (BC pH) ai) λct bo=>(A7 ?_);refine cL (AK I I) call97 (λw hs=>tL hs bp bo O) λbd h6 ar bn=>?_;obtain rfl:bd=vI (wA p.y ((Gh (A0 l m zT) eX0).y)):=bn;have cj:=uJ p.y ((Gh (A0 l m zT) eX0).y);refine AF ?_;refine zV h6 ar ⟨?_,I,I,I,I,I,I,AW⟩ I I;exact AV (xE hg)
   refine gF hg I (AX ?_);refine zV h5 (MLe.refl _) ⟨?_,I,I,I,I,I,I,AW⟩ I I;exact AV (xG hg)
  intro Z aw;refine fM ?_;refine uH (ι:=A4) 7 (λm_=>MLe Z m_) (λ_=>[(62,vB (eX2/\((0:Int)<(Ai (pr (Fk (A0 l m zT) eX0) 0 1) (pr (Gh (A0 l m zT) eX0) 0 1) (pr p 0 1))))),(0,vl),(3,vP b3 0),(5,vB (sE l (pr p 0 1) 0 1 m)),(6,vI ↑m)]) (λ_=>[.var b8 43 C,.var b7 43 D,.var b3 43 ah]) (λm_=>m_) ?_ ?_
  ·
   refine zY eX2 (λhg=>?_) (λhg=>?_)
   ·
    refine gT hg I (A7 ?_);refine lX (xB zI pH aj) λcq bm=>(A7 ?_);refine lX (xB zI pH ai) λcp bl=>(A7 ?_);refine lX (xB zI pH ad) λco bk=>(A7 ?_);refine cL (BM I I I) call192 (λw hs=>sK hs bm bl (bk.le (AI (k+1))) O) λbc h6 ar bj=>?_;obtain rfl:bc=vI (Ai (pr (Fk (A0 l m zT) eX0) 0 1) (pr (Gh (A0 l m zT) eX0) 0 1) (pr p 0 1)):=bj;have ci:=sD (pr (Fk (A0 l m zT) eX0) 0 1) (pr (Gh (A0 l m zT) eX0) 0 1) (pr p 0 1);refine AF ?_;refine zV h6 ar ⟨?_,I,I,I,I,AW⟩ I I;exact AV (xE hg)
   refine gF hg I (Af ?_);refine zV Z (MLe.refl _) ⟨?_,I,I,I,I,AW⟩ I I;exact AV (xG hg)
  intro M aq;refine fM ?_;refine BB (λac=>?_) λac=>?_
  ·
   refine uF ?_;refine yE (A:=[]) (yE (A:=[]) ?_);refine Ad ((m+1),M) ?_ ?_ (he:=⟨I,I,AJ (λz=>some (vB z)) (mj ((WZ _ _ _).1 ac)),I,AW⟩)
   · exact⟨AM,A3,KQ ae aa⟩
   omega
  refine AX ?_;refine yE (A:=[]) (yE (A:=[]) ?_);refine Ad ((m+1),M) ?_ ?_ (he:=⟨I,I,AJ (λz=>some (vB z)) (or λe=>ac ((WZ _ _ _).2 e)),I,AW⟩)
  · exact⟨AM,A3,KQ ae aa⟩
  omega
 refine EI (λab=>?_) λab=>?_
 ·
  refine Af ?_;refine zC I I ?_;exact AJ vI (Z1 O ax ae ab)
 refine AX ?_;refine zC I I ?_;exact AJ vI (Vz O ax ae ab)
theorem Uy{k:Nat}{vL:A2}{L:(List (List Tq))}(rL:(C1 k).Is h0 vL L){vp:A2}{p:Tq}(rp:(AD k).Is h0 vp p){i:Nat}{j:Nat}(H0:i<3)(H1:j<3)(H2:k<=100000000)(H3:∀x,x∈L->A1 x<=1000)(H4:A1 L<=1000):
 Ae 126 #[vL,vp,vI ↑i,vI ↑j] w0 h0 (λ_ r=>r=vI (Hi L (pr p i j) i j)):=by
 refine kA (n:=31) (e:=[(0,vL),(1,vp),(2,vI ↑i),(3,vI ↑j)]) (vs:=[vL,vp,vI ↑i,vI ↑j]) func126 rfl rfl (bL rfl) hs BR (A5 ?_);refine nB rp λb5 ae U=>(nH ?_);refine An (ι:=Nat×A4) (λ(m,ma)=>(MLe h0 ma/\(m<=A1 L/\∀q,q<m->¬aS (A0 L q []) (pr p i j) i j=0),[(2,vI ↑i),(3,vI ↑j),(5,vP b5 0),(9,vI (FI L (pr p i j) i j m)),(12,vL),(13,vI (↑(A1 (L)):Int)),(14,vI ↑m)],[.var b5 43 ae],ma,A1 L-m)) (0,h0) ?_ ?_
 · exact⟨AM,A3,λq hq=>by omega⟩
 rintro⟨m,ma⟩ ⟨ah,ad,H⟩
 refine yO ?_;have am:=ZT L (pr p i j) i j m;refine Ba (λJ=>?_) λJ=>?_
 ·
  refine AZ ?_;refine lX (xI [] m underlying61 uN rL) λak ac=>(lX (xA uN ac) λaj ab=>(AZ ?_));refine lX (xB zI pH U) λai aa=>(A5 ?_);refine cL (IL I I I I) call186 (λw hs=>ly (i:=i) (j:=j) hs ab aa O O O (by first|omega|exact tk Bl _)) λM h1 an Z=>?_;obtain rfl:M=vI (aS (A0 L m []) (pr p i j) i j):=Z;refine Bj (λC=>?_) λC=>?_
  ·
   refine uF ?_;refine zC I I ?_;exact AJ vI (AC ⟨m,A3,C⟩).symm
  refine Ba (λD=>?_) λD=>?_
  ·
   refine A5 ?_;refine gv (oB I O O) I (Ak ?_);refine Ad ((m+1),h1) ?_ ?_ (he:=⟨I,I,I,AJ (λz=>some (vI z)) (AC D).symm,I,I,I,AW⟩)
   · exact⟨AM,A3,Wr H C⟩
   omega
  refine AX ?_;refine Ad ((m+1),h1) ?_ ?_ (he:=⟨I,I,I,AJ (λz=>some (vI z)) (A8 D).symm,I,I,I,AW⟩)
  · exact⟨AM,A3,Wr H C⟩
  omega
 refine uF ?_;refine zC I I ?_;exact AJ vI (fs O ad H)
end
end Go.Proofs.YtlpflnindligbaaGreat
namespace Bk
open Classical
def Jt(R:Nat->Nat->Prop)(q b:Nat):Prop:=∀p,p<b->R p q
def Kj(R:Nat->Nat->Prop)(a:Nat):Prop:=∀q,q<a->Jt R q q
theorem og{R:Nat->Nat->Prop}:Kj R 0:=λq h=>by omega
theorem t2{R:Nat->Nat->Prop}{q:Nat}:Jt R q 0:=λp h=>by omega
theorem re{R:Nat->Nat->Prop}{q b:Nat}(h:Jt R q b)(h1:R b q):Jt R q (b+1):=λp h3=>by
 rcases Dp.1 h3 with h4|h4
 · exact h p h4
 · subst h4;exact h1
theorem qv{R:Nat->Nat->Prop}{a b:Nat}(h:Kj R a)(h1:Jt R a b)(hb:a<=b):Kj R (a+1):=λq h2=>by
 rcases Dp.1 h2 with h5|h5
 · exact h q h5
 · subst h5;exactλp hp=>h1 p A3
def Pu(l:List Pt)(k i:Nat):Prop:=XA l 0 1 k i/\Oc l 0 1 k i
theorem bt{l:List Pt}(h3:3<=A1 l)(h:Kj (Pu l) (A1 l)):aV l 0 1:=
 ⟨h3,λp q h1 h2 h4=>(h q h4 p h2).1,λp q h1 h2 h4=>(h q h4 p h2).2⟩
theorem We{l:List Pt}{k i:Nat}:oZ (qJ l 0 1 i) (qI l 0 1 i) (qJ l 0 1 k) (qI l 0 1 k)=JZ (A1 l) k i↔Oc l 0 1 k i:=by
 unfold Oc;rw[<-U0,Uj]
end Bk
namespace Go.Proofs.YtlpflnindligbaaGreat
open Bk Go Tryz
attribute [local irreducible] GL GC GQ W OpV
section
variable{w0:AP}{h0:A4}(hs:MLe h0 (BE w0))
include hs
theorem ht{k:Nat}{vl:A2}{l:(List Tq)}(rl:(Aq k).Is h0 vl l)(H0:k<=5000)(H1:A1 l<=1000):
 Ae 218 #[vl] w0 h0 (λ_ r=>r=vB (aV l 0 1)):=by
 refine BI 69 vl func218 hs ?_;refine Jl ?_;refine Bq (λac=>?_) λac=>?_
 ·
  refine Af ?_;refine zC I I ?_;exact(yH (λe=>by have:=e.1;omega)).symm
 refine Ak ?_;refine An (ι:=Nat×A4) (λ(i,M)=>(MLe h0 M/\(i<=A1 l/\Kj (Pu l) i),[(0,vl),(3,vI (↑(A1 (l)):Int)),(4,vI ↑i)],[],M,A1 l-i)) (0,h0) ?_ ?_
 · exact⟨AM,A3,og⟩
 rintro⟨i,M⟩ ⟨ba,bp,BA⟩
 refine yO ?_;refine DU (λab=>?_) λab=>?_
 ·
  refine vV ?_;refine An (ι:=Nat×A4) (λ(q,mq)=>(MLe M mq/\(q<=i/\Jt (Pu l) i q),[(0,vl),(3,vI (↑(A1 (l)):Int)),(4,vI ↑i),(5,vI ↑q)],[],mq,i-q)) (0,M) ?_ ?_
  · exact⟨AM,A3,t2⟩
  rintro⟨q,mq⟩ ⟨az,bo,U⟩
  refine yO ?_;refine DU (λaa=>?_) λaa=>?_
  ·
   refine AZ ?_;refine zG 9 _ [] (Ah 0 8 [(8,.c)]) zX nX Ac nX (λr hr=>hr) (A5 ?_);refine wX I (xI zT i underlying28 zI rl) λbn ax=>(wX I (xA zI ax) λbm aw=>(A5 ?_));refine wX I (xI zT q underlying28 zI rl) λbl av=>(wX I (xA zI av) λbk au=>?_);refine AB I (sC (AK I I) call250 (λw hs=>jW hs aw au O) λae h1 br ar=>?_);obtain rfl:ae=vB ((pr (A0 l i zT) 0 1)=(pr (A0 l q zT) 0 1)):=ar;refine BB (λH=>?_) λH=>?_
   ·
    refine y7 ?_;refine zC I I ?_;exact(yH (λe=>e.2.1 q i O O O H.symm)).symm
   refine Af ?_;refine jD (ι:=A4) (λ(J:(A4))=>MLe h1 J/\(True)) (λ(J:(A4))=>[(0,vl),(3,vI (↑(A1 (l)):Int)),(4,vI ↑i),(5,vI ↑q),(6,vI (JZ (A1 l) q i))]) (λ(J:(A4))=>[]) (λ(J:(A4))=>J) ?_ ?_
   ·
    refine AZ ?_
    let eX0:=(((↑q:Int)=(0:Int))/\((↑i:Int)=((↑(A1 (l)):Int)-(1:Int))))
    refine gU 10 43 (vB (((↑i:Int)=((↑q:Int)+(1:Int)))\/eX0)) ?_ ?_
    ·
     refine zY ((↑i:Int)=((↑q:Int)+(1:Int))) (λC=>?_) (λC=>?_)
     ·
      refine gT C I (vV ?_);refine Ay ?_;exact AV (vN C)
     refine gF C I (AF ?_);refine gU 6 42 (vB eX0) ?_ ?_
     ·
      refine zY ((↑q:Int)=(0:Int)) (λC=>?_) (λC=>?_)
      ·
       refine A7 ?_;refine gT C I (uG ?_);refine Ay ?_;exact AV (xE C)
      refine A7 ?_;refine gF C I (Af ?_);refine Ay ?_;exact AV (xG C)
     refine A5 ?_;refine Ay ?_;exact AV (vO C)
    refine BB (λZ=>?_) λZ=>?_
    ·
     refine AN ?_;refine zV (h1) ?_ ⟨I,I,I,I,?_,AW⟩ I I
     ·
      refine⟨MLe.refl _,?_⟩
      trivial
     · exact AJ (λz=>some (vI z)) (hK O)
    refine A7 ?_;refine zV (h1) ?_ ⟨I,I,I,I,?_,AW⟩ I I
    ·
     refine⟨MLe.refl _,?_⟩
     trivial
    · exact AJ (λz=>some (vI z)) (p5 O)
   rintro J ⟨ay,bb⟩
   refine yO ?_;refine A7 ?_;refine zG 25 _ [] (Ah 0 22 [(23,.q),(22,.c),(24,.q)]) zX nX (xU Ac) nX (λr hr=>hr) (A5 ?_);refine wX I (xI zT i underlying28 zI rl) λbj aq=>(wX I (xA zI aq) λbi ap=>(AF ?_));refine wK I (λ_ _=>wI I I O O) I (wX I (xI zT ((i+1)%A1 l) underlying28 zI rl (hi:=by exact BQ _ O)) λbh ao=>(wX I (xA zI ao) λbg an=>(A5 ?_)));refine wX I (xI zT q underlying28 zI rl) λbf am=>(wX I (xA zI am) λbe ak=>(AF ?_));refine wK I (λ_ _=>wI I I O O) I (wX I (xI zT ((q+1)%A1 l) underlying28 zI rl (hi:=by exact BQ _ O)) λbd aj=>(wX I (xA zI aj) λbc ai=>(A7 ?_)));refine AB I (sC (IL I I I I) call251 (λw hs=>Zj hs ap an ak ai O) λad h2 bq ah=>?_);obtain rfl:ad=vI (oZ (pr (A0 l i zT) 0 1) (pr (A0 l ((i+1)%A1 l) zT) 0 1) (pr (A0 l q zT) 0 1) (pr (A0 l ((q+1)%A1 l) zT) 0 1)):=ah;refine B4 (λD=>?_) λD=>?_
   ·
    refine rX ?_;refine zC I I ?_;exact(yH (λe=>D (We.2 (e.2.2 q i O O O)))).symm
   refine AX ?_;refine Ad ((q+1),h2) ?_ ?_
   · exact⟨AM,A3,re U ⟨λe=>H e.symm,We.1 (Br D)⟩⟩
   omega
  refine uG ?_;refine Ad ((i+1),mq) ?_ ?_
  · exact⟨AM,A3,qv BA U O⟩
  omega
 have ei:i=A1 l:=by omega
 have hT:=BA;rw[ei] at hT;refine uG ?_;refine zC I I ?_;exact(yU (bt O hT)).symm
theorem qj{k:Nat}{va:A2}{a:(List Tq)}(ra:(Aq k).Is h0 va a){vb:A2}{b:(List Tq)}(rb:(Aq k).Is h0 vb b)(H0:k<=5000)(H1:A1 a<=1000)(H2:b.length<=1000):
 Ae 219 #[va,vb] w0 h0 (λ_ r=>r=vB (fE a b 0 1)):=by
 refine B0 45 va vb func219 hs ?_;refine uF ?_;refine An (ι:=Nat×A4) (λ(p,D)=>(MLe h0 D/\(p<=A1 a/\∀u v,u<p->v<b.length->¬Gf a b 0 1 u v),[(0,va),(1,vb),(5,vI ↑p)],[],D,A1 a-p)) (0,h0) ?_ ?_
 · exact⟨AM,A3,λu v h=>by omega⟩
 rintro⟨p,D⟩ ⟨ao,ba,J⟩
 refine yO ?_;refine Bj (λU=>?_) λU=>?_
 ·
  refine vV ?_;refine An (ι:=Nat×A4) (λ(q,Z)=>(MLe D Z/\(q<=b.length/\∀v,v<q->¬Gf a b 0 1 p v),[(0,va),(1,vb),(5,vI ↑p),(6,vI ↑q)],[],Z,b.length-q)) (0,D) ?_ ?_
  · exact⟨AM,A3,λv h=>by omega⟩
  rintro⟨q,Z⟩ ⟨an,az,H⟩
  refine yO ?_;refine Bj (λM=>?_) λM=>?_
  ·
   refine AR ?_;refine zG 26 _ [] (Ah 0 24 [(24,.c),(25,.q)]) zX nX (xU Ac) nX (λr hr=>hr) (A5 ?_);refine wX I (xI zT p underlying28 zI ra) λay am=>(wX I (xA zI am) λax ak=>(AF ?_));refine B3 I (λh' L' hh hR=>jK underlying28 I (ra.up.mono hh)) I (wK I (λ_ _=>wI I I O O) I (wX I (xI zT ((p+1)%A1 a) underlying28 zI ra (hi:=by exact BQ _ O)) λaw aj=>(wX I (xA zI aj) λav ai=>(A5 ?_))));refine wX I (xI zT q underlying28 zI rb) λau ah=>(wX I (xA zI ah) λar ae=>(AF ?_));refine B3 I (λh' L' hh hR=>jK underlying28 I (rb.up.mono hh)) I (wK I (λ_ _=>wI I I O O) I (wX I (xI zT ((q+1)%b.length) underlying28 zI rb (hi:=by exact BQ _ O)) λaq ad=>(wX I (xA zI ad) λap ac=>?_)));refine AB I (sC (IL I I I I) call251 (λw hs=>Zj hs ak ai ae ac O) λaa h1 bb ab=>?_);obtain rfl:aa=vI (oZ (pr (A0 a p zT) 0 1) (pr (A0 a ((p+1)%A1 a) zT) 0 1) (pr (b.getD q zT) 0 1) (pr (b.getD ((q+1)%b.length) zT) 0 1)):=ab;refine B4 (λC=>?_) λC=>?_
   ·
    refine rX ?_;refine zC I I ?_;exact(yU ⟨p,q,A3,A3,(Tl.1 C)⟩).symm
   refine AX ?_;refine Ad ((q+1),h1) ?_ ?_
   · exact⟨AM,A3,o6 (n:=0) (Q:=Gf a b 0 1) H (λe=>C (Tl.2 e))⟩
   omega
  refine uG ?_;refine Ad ((p+1),Z) ?_ ?_
  · exact⟨AM,A3,eh J H O⟩
  omega
 refine uG ?_;refine zC I I ?_;exact(yH (λ⟨u,v,h1,h2,h3⟩=>J u v O h2 h3)).symm
theorem eg{k:Nat}{vp:A2}{p:Tq}(rp:(AD k).Is h0 vp p){vq:A2}{q:Tq}(rq:(AD k).Is h0 vq q)(H0:k<=100000):
 Ae 252 #[vp,vq] w0 h0 (λh r=>(AD (2*k+2)).Is h r (T3.mk (iX p.x q.x) (iX p.y q.y) (0:Rat))):=by
 refine B0 16 vp vq func252 hs ?_;refine A5 ?_;refine nB rp λb2 aq U=>(nB rq λb3 ap M=>(nA (ρ:=(AD (2*k+2))) (X:=zT) yA (yN (zR O)) λb4 ao Z=>(AN ?_)));refine zG 11 _ [] (Ah 0 4 (Ah 5 4 [(4,.c),(9,.c),(10,.q),(11,.t)])) zX nX (xU Ac) nX (λr hr=>hr) (A7 ?_);refine wX I (xB zU (BL pH) U) λv6 r6=>(A7 ?_);refine wX I (xB zU (BL pH) M) λv8 r8=>(A7 ?_);refine wX I (xB zU (BC pH) U) λak ac=>(A7 ?_);refine wX I (xB zU (BC pH) M) λaj ab=>?_;refine AB I (sC (AK I I) call258 (λw hs=>V8 hs r6 r8 O) λv9 h1 an r9=>?_);replace r9:=Rp.Is.le r9 (AL (2*k+2));refine AB I (sC (AK I I) call258 (λw hs=>V8 hs ac.up ab.up O) λai h2 am C=>?_);replace C:=Rp.Is.le C (AL (2*k+2));refine wX I (xV (ρ:=(AD (2*k+2))) (xD (ps':=[(0,_),(1,_)]) underlying43 yA I I sizeOf41 BR I (yN (zR O)) (zD I (BL (AA _)) r9.up (zD I (BC (AA _)) C zO)))) λah aa=>(yD (A:=[]) I (uB sizeOf43 pH Z aa) λad J=>(AN ?_));refine xW (qV (t:=4) zI Ar I J) ?_;intro ae D H;refine yI (λE S=>zS I D E S) ?_;exact H
theorem a7{k:Nat}{va:A2}{a:(List Tq)}(ra:(Aq k).Is h0 va a){vb:A2}{b:(List Tq)}(rb:(Aq k).Is h0 vb b)(H0:k<=2000)(H1:A1 a<=1000)(H2:b.length<=1000):
 Ae 222 #[va,vb] w0 h0 (λ_ r=>r=vI (Iu a b 0 1)):=by
 refine B0 32 va vb func222 hs ?_;refine nH ?_;refine An (ι:=Nat×A4) (λ(m,ma)=>(MLe h0 ma/\(m<=b.length),[(0,va),(1,vb),(5,vI (cO a b 0 1 m)),(6,vI ↑m)],[],ma,b.length-m)) (0,h0) ?_ ?_
 · exact⟨AM,O⟩
 rintro⟨m,ma⟩ ⟨ad,D⟩
 refine yO ?_;have an:=D;have am:=oW a b 0 1 m;refine Bj (λH=>?_) λH=>?_
 ·
  refine AR ?_;refine zG 16 _ [] (Ah 0 13 [(13,.c),(14,.c),(15,.q)]) zX nX (xU Ac) nX (λr hr=>hr) (AN ?_);refine wX I (xI zT m underlying28 zI rb) λak ac=>(wX I (xA zI ac) λaj ab=>(AF ?_));refine B3 I (λh' L' hh hR=>jK underlying28 I (rb.up.mono hh)) I (wK I (λ_ _=>wI I I O O) I (wX I (xI zT ((m+1)%b.length) underlying28 zI rb (hi:=by exact BQ _ O)) λai aa=>(wX I (xA zI aa) λah Z=>?_)));refine AB I (sC (AK I I) call252 (λw hs=>eg hs ab Z O) λae h1 ap U=>?_);refine AB I (sC (AK I I) call132 (λw hs=>n8 hs (ra.up.le (Le.s (AI (2*k+2)))) U O O) λJ h2 ao M=>?_);obtain rfl:J=vI (aS a (pr (T3.mk (iX (b.getD m zT).x (b.getD ((m+1)%b.length) zT).x) (iX (b.getD m zT).y (b.getD ((m+1)%b.length) zT).y) (0:Rat)) 0 1) 0 1):=M;refine B4 (λC=>?_) λC=>?_
  ·
   refine uF ?_;refine Ad ((m+1),h2) ?_ ?_ (he:=⟨I,I,AJ (λz=>some (vI z)) (gj (Y8 _ _) C),I,AW⟩)
   · exact⟨AM,O⟩
   omega
  refine AX ?_;refine Ad ((m+1),h2) ?_ ?_ (he:=⟨I,I,AJ (λz=>some (vI z)) (mp (Y8 _ _) C),I,AW⟩)
  · exact⟨AM,O⟩
  omega
 refine uF ?_;refine zC I I ?_;have em:m=b.length:=by omega
 subst em
 rfl
theorem vh{k:Nat}{vL:A2}{L:(List (List Tq))}(rL:(C1 k).Is h0 vL L){f:Nat}(H0:f<A1 L)(H1:A1 L<=16)(H2:k<=2000)(H3:∀u,u<A1 L->¬64<A1 (gl L u)):
 Ae 221 #[vL,vI ↑f] w0 h0 (λ_ r=>r=vI (pK L 0 1 f (A1 L))):=by
 have U:=H3;refine B0 55 vL (vI ↑f) func221 hs ?_;refine nH ?_;refine An (ι:=Nat×A4) (λ(g,ma)=>(MLe h0 ma/\(g<=A1 L),[(0,vL),(1,vI ↑f),(5,vI (pK L 0 1 f g)),(6,vI ↑g)],[],ma,A1 L-g)) (0,h0) ?_ ?_
 · exact⟨AM,O⟩
 rintro⟨g,ma⟩ ⟨bc,ca⟩
 refine yO ?_;have bs:=Rz L 0 1 f g;refine Bj (λM=>?_) λM=>?_
 ·
  refine AZ ?_;refine zG 24 _ [] (Ah 0 4 ((4,.c)::(5,.c)::Ah 6 10 (Ah 17 5 [(16,.c),(22,.q),(23,.q)]))) zX nX (xU Ac) nX (λr hr=>hr) (A5 ?_);refine wX I (xI [] g underlying61 uN rL) λbr ay=>(wX I (xA uN ay) λbq ax=>?_);refine AB I (sC (AU I) call220 (λw hs=>bN hs ax O (by first|omega|exact Ao (Da.1 (U _ O)) dC|exact Ao (hF _ O) dC)) λbp h1 bz aw=>?_);refine AB I (sC (AU I) call74 (λw hs=>qA hs aw dC) λab h2 bx av=>?_)
  let eX0:=(qN (A0 L g []) 0 1 (A1 (A0 L g [])))
  obtain rfl:ab=vI (yK eX0):=av;have ba:=yZ eX0;refine A5 ?_;refine qC ((yK eX0)<=(0:Int)) (λH=>?_) (λH=>?_)
  ·
   rw[yU H];refine tQ ?_;refine AB I (bD I I I I (fJ ?_));refine Ad ((g+1),h2) ?_ ?_ (he:=⟨I,I,AJ (λz=>some (vI z)) ((A8 (λe=>absurd e.1.1 (IQ.2 Bl))).symm),I,AW⟩)
   · exact⟨AM,O⟩
   omega
  rw[yH H];refine yS I I I (λh' L' hh hR=>xK I) I (yS I I I (λh' L' hh hR=>xK I) I (oX I (xI [] g underlying61 uN rL) λbo au=>(oX I (xA uN au) λbn ar=>(yS I I I (λh' L' hh hR=>xK I) I (yS I I I (λh' L' hh hR=>xK I) I (oX I (xI [] f underlying61 uN rL) λbm aq=>(oX I (xA uN aq) λbl ap=>(yS I I I (λh' L' hh hR=>xK I) I (yS I I I (λh' L' hh hR=>xK I) I (oX I (xI [] f underlying61 uN rL) λbk an=>(oX I (xA uN an) λbj am=>(yS I I I (λh' L' hh hR=>jK underlying28 I (am.mono hh)) I ?_))))))))))));refine AB I (ES I I (sC (AK I I) call222 (λw hs=>a7 hs ar ap O (by first|omega|exact Ao (Da.1 (U _ O)) dC|exact Ao (hF _ O) dC) (by first|omega|exact Ao (Da.1 (U _ O)) dC|exact Ao (hF _ O) dC)) λaa h3 bw ao=>?_));obtain rfl:aa=vI (Iu (A0 L g []) (A0 L f []) 0 1):=ao;have az:=oW (A0 L g []) (A0 L f []) 0 1 (A1 (A0 L f []));refine Ca (λC=>?_) λC=>?_
  ·
   refine Ak ?_;refine Ad ((g+1),h3) ?_ ?_ (he:=⟨I,I,AJ (λz=>some (vI z)) ((A8 (λe=>C e.1.2)).symm),I,AW⟩)
   · exact⟨AM,O⟩
   omega
  refine AN ?_;refine zG 16 _ [] (Ah 0 7 (Ah 8 4 [(7,.c),(12,.c),(13,.c),(14,.q),(15,.q)])) zX nX (xU Ac) nX (λr hr=>hr) (AN ?_);refine qC ((pK L 0 1 f g)<(0:Int)) (λD=>?_) (λD=>?_)
  ·
   rw[yU D];refine AX ?_;refine AB I (bD I I I I ?_);refine AB I (bD I I I I ?_);refine AB I (bD I I I I (y7 ?_));refine Ad ((g+1),h3) ?_ ?_ (he:=⟨I,I,AJ (λz=>some (vI z)) ((AC ⟨⟨Jn.1 Bl,Br C⟩,.inl Bl⟩).symm),I,AW⟩)
   · exact⟨AM,O⟩
   omega
  rw[yH D];refine yS I I I (λh' L' hh hR=>xK I) I (yS I I I (λh' L' hh hR=>xK I) I (oX I (xI [] g underlying61 uN rL) λbi ak=>(oX I (xA uN ak) λbh aj=>(yS I I I (λh' L' hh hR=>xK I) I (yS I I I (λh' L' hh hR=>xK I) I (oX I (xI [] ((pK L 0 1 f g).toNat) underlying61 uN rL) λbf ah=>(oX I (xA uN ah) λbe ae=>?_)))))));refine AB I (ES I I (sC (AU I) call220 (λw hs=>bN hs aj O (by first|omega|exact Ao (Da.1 (U _ O)) dC|exact Ao (hF _ O) dC)) λbg h4 bv ai=>?_));refine AB I (ES I I (sC (AU I) call220 (λw hs=>bN hs ae.up O (by first|omega|exact Ao (Da.1 (U _ O)) dC|exact Ao (hF _ O) dC)) λbd h5 bu ad=>?_));refine AB I (ES I I (sC (AK I I) call97 (λw hs=>tL hs ai.up ad dC) λZ h6 bt ac=>?_))
  let eX1:=(A0 L ((pK L 0 1 f g).toNat) [])
  obtain rfl:Z=vI (wA eX0 (qN eX1 0 1 (A1 eX1))):=ac;have bb:=uJ eX0 (qN eX1 0 1 (A1 eX1));refine Ca (λJ=>?_) λJ=>?_
  ·
   refine uG ?_;refine Ad ((g+1),h6) ?_ ?_ (he:=⟨I,I,AJ (λz=>some (vI z)) ((AC ⟨⟨Jn.1 Bl,Br C⟩,.inr J⟩).symm),I,AW⟩)
   · exact⟨AM,O⟩
   omega
  refine AX ?_;refine Ad ((g+1),h6) ?_ ?_ (he:=⟨I,I,AJ (λz=>some (vI z)) ((A8 (λe=>e.2.elim (λh=>absurd h Bl) J)).symm),I,AW⟩)
  · exact⟨AM,O⟩
  omega
 refine uF ?_;refine zC I I ?_;have eg:g=A1 L:=by omega
 rw[eg]
end
set_option maxHeartbeats 2000000 in
section
variable{w0:AP}{h0:A4}(hs:MLe h0 (BE w0))
include hs
theorem XE{k:Nat}{vL:A2}{L:(List (List Tq))}(rL:(C1 k).Is h0 vL L)(H0:k<=2000)(H1:∀x,x∈L->bG x):
 Ae 169 #[vL] w0 h0 (λh r=>∃u0,r=.tuple #[u0,vI (uK L 0 1)]/\(AS A9).Is h u0 (rC L 0 1)):=by
 have hF:=H1;refine BI 133 vL func169 hs ?_;refine fJ ?_;refine Bq (λbx=>?_) λbx=>?_
 ·
  refine AX ?_;refine wS I I I ?_;refine⟨_,?_,(Rp.Is.cast (tP _) (by exact(show uK L 0 1=2/\rC L 0 1=[] from MM (.inl O)).2.symm))⟩;rw[(show uK L 0 1=2/\rC L 0 1=[] from MM (.inl O)).1]
 refine Ak ?_;refine An (ι:=Nat×A4) (λ(q,ma)=>(MLe h0 ma/\(q<=A1 L/\∀u,u<q->¬64<A1 (gl L u)),[(0,vL),(4,vI ↑q)],[],ma,A1 L-q)) (0,h0) ?_ ?_
 · exact⟨AM,A3,λu h=>by omega⟩
 rintro⟨q,ma⟩ ⟨ee,fe,bi⟩
 refine yO ?_;refine Bj (λbw=>?_) λbw=>?_
 ·
  refine AX ?_;refine lX (xI [] q underlying61 uN rL) λew dc=>(lX (xA uN dc) λev ey=>(Ca (λbv=>?_) λbv=>?_))
  ·
   refine uF ?_;refine wS I I I ?_;refine⟨_,?_,(Rp.Is.cast (tP _) (by exact(show uK L 0 1=2/\rC L 0 1=[] from MM (.inr ⟨q,A3,(by show 64<A1 (A0 L q []);omega)⟩)).2.symm))⟩;rw[(show uK L 0 1=2/\rC L 0 1=[] from MM (.inr ⟨q,A3,(by show 64<A1 (A0 L q []);omega)⟩)).1]
  refine AX ?_;refine Ad ((q+1),ma) ?_ ?_
  · exact⟨AM,A3,wZ (Q:=λu=>¬64<A1 (gl L u)) bi (by show ¬64<A1 (A0 L q []);omega)⟩
  omega
 have D:∀u,u<A1 L->¬64<A1 (gl L u):=λu hu=>bi u O;refine uF ?_;refine An (ι:=Nat×A4) (λ(s,ms)=>(MLe ma ms/\(s<=A1 L/\∀u,u<s->aV (gl L u) 0 1),[(0,vL),(5,vI ↑s)],[],ms,A1 L-s)) (0,ma) ?_ ?_
 · exact⟨AM,A3,λu h=>by omega⟩
 rintro⟨s,ms⟩ ⟨dz,fd,bh⟩
 refine yO ?_;refine Bj (λbu=>?_) λbu=>?_
 ·
  refine AX ?_;refine lX (xI [] s underlying61 uN rL) λeu db=>(lX (xA uN db) λes da=>(cL (AU I) call218 (λw hs=>ht hs da O (by first|omega|assumption|exact Ao (Da.1 (D _ O)) dC)) λcg h1 U cz=>?_));obtain rfl:cg=vB (aV (A0 L s []) 0 1):=cz;refine B4 (λac=>?_) λac=>?_
  ·
   refine uF ?_;refine wS I I I ?_;refine⟨_,?_,(Rp.Is.cast (tP _) (by exact(show uK L 0 1=8/\rC L 0 1=[] from V1 O D ⟨s,A3,ac⟩).2.symm))⟩;rw[(show uK L 0 1=8/\rC L 0 1=[] from V1 O D ⟨s,A3,ac⟩).1]
  refine AX ?_;refine Ad ((s+1),h1) ?_ ?_
  · exact⟨AM,A3,wZ (Q:=λu=>aV (gl L u) 0 1) bh (Br ac)⟩
  omega
 have hS:∀u,u<A1 L->aV (gl L u) 0 1:=λu hu=>bh u O;refine uF ?_;refine An (ι:=Nat×A4) (λ(c,mc)=>(MLe ms mc/\(c<=A1 L/\∀u v,v<c->u<v->¬fE (gl L u) (gl L v) 0 1),[(0,vL),(6,vI ↑c)],[],mc,A1 L-c)) (0,ms) ?_ ?_
 · exact⟨AM,A3,λu v h=>by omega⟩
 rintro⟨c,mc⟩ ⟨ed,ef,an⟩
 refine yO ?_;refine Bj (λbt=>?_) λbt=>?_
 ·
  refine vV ?_;refine An (ι:=Nat×A4) (λ(d,md)=>(MLe mc md/\(d<=c/\∀u,u<d->¬fE (gl L u) (gl L c) 0 1),[(0,vL),(6,vI ↑c),(7,vI ↑d)],[],md,c-d)) (0,mc) ?_ ?_
  · exact⟨AM,A3,λu h=>by omega⟩
  rintro⟨d,md⟩ ⟨ec,fh,bn⟩
  refine yO ?_;refine DU (λbs=>?_) λbs=>?_
  ·
   refine AR ?_;refine zG 9 _ [] (Ah 0 8 [(8,.c)]) zX nX Ac nX (λr hr=>hr) (A5 ?_);refine wX I (xI [] c underlying61 uN rL) λer cy=>(wX I (xA uN cy) λeq cw=>(A5 ?_));refine wX I (xI [] d underlying61 uN rL) λep cu=>(wX I (xA uN cu) λeo ct=>?_);refine AB I (sC (AK I I) call219 (λw hs=>qj hs cw ct O (by first|omega|assumption|exact Ao (Da.1 (D _ O)) dC) (by first|omega|assumption|exact Ao (Da.1 (D _ O)) dC)) λcf h1 U cq=>?_);obtain rfl:cf=vB (fE (A0 L c []) (A0 L d []) 0 1):=cq;refine BB (λab=>?_) λab=>?_
   ·
    refine y7 ?_;refine wS I I I ?_;refine⟨_,?_,(Rp.Is.cast (tP _) (by exact(show uK L 0 1=32/\rC L 0 1=[] from Wd O D hS ⟨d,c,A3,A3,iL ab⟩).2.symm))⟩;rw[(show uK L 0 1=32/\rC L 0 1=[] from Wd O D hS ⟨d,c,A3,A3,iL ab⟩).1]
   refine AX ?_;refine Ad ((d+1),h1) ?_ ?_
   · exact⟨AM,A3,wZ (Q:=λu=>¬fE (gl L u) (gl L c) 0 1) bn (λe=>ab (iL e))⟩
   omega
  refine uG ?_;refine Ad ((c+1),md) ?_ ?_
  · exact⟨AM,A3,mr an bn O⟩
  omega
 have hX:∀a b,b<A1 L->a<b->¬fE (gl L a) (gl L b) 0 1:=λa b hb ha=>an a b O ha;refine nH ?_;refine yX 3 1 ?_;have aw:=RL.nil (ρ:=A9) (h:=mc);refine An (ι:=Nat×List Int×A2×List A2×A4) (λ(f,J,C,H,mf)=>(MLe mc mf/\(RL A9 mf H J/\(f<=A1 L/\A1 J=f)/\∀u,u<f->A0 J u (0:Int)=pZ L 0 1 u),[(0,vL),(8,C),(9,vI ↑f)],[.gs 3 1 C (A1 J) H],mf,A1 L-f)) (0,([]:List Int),(.slice none 0 0),[],mc) ?_ ?_
 · exact⟨AM,aw,⟨A3,I⟩,λu h=>by omega⟩
 rintro⟨f,J,C,H,mf⟩ ⟨eb,M,⟨fg,bm⟩,aq⟩
 refine yO ?_;refine Bj (λbr=>?_) λbr=>?_
 ·
  refine Ak ?_;refine jD (ι:=Int×A4) (λ(p,mp)=>MLe mf mp/\((-1<=p/\p<9223372036854775808)/\p=pZ L 0 1 f)) (λ(p,mp)=>[(0,vL),(8,C),(9,vI ↑f),(10,vI p)]) (λ(p,mp)=>[.gs 3 1 C (A1 J) H]) (λ(p,mp)=>mp) ?_ ?_
  ·
   refine AF ?_;refine lX (xI [] f underlying61 uN rL) λen cp=>(lX (xA uN cp) λem co=>(cL (AU I) call220 (λw hs=>bN hs co O (by first|omega|assumption|exact Ao (Da.1 (D _ O)) dC)) λel h1 U cn=>(cL (AU I) call74 (λw hs=>qA hs cn dC) λce h2 ap cm=>?_)));obtain rfl:ce=vI (yK (qN (A0 L f []) 0 1 (A1 (A0 L f [])))):=cm;have dj:=yZ (qN (A0 L f []) 0 1 (A1 (A0 L f [])));refine B4 (λai=>?_) λai=>?_
   ·
    refine AN ?_;refine cL (AK I I) call221 (λw hs=>vh (f:=f) hs rL.up (by first|omega|assumption|exact Ao (Da.1 (D _ O)) dC) (by first|omega|assumption|exact Ao (Da.1 (D _ O)) dC) O (by first|omega|assumption|exact Ao (Da.1 (D _ O)) dC)) λcd h3 bl cl=>?_;obtain rfl:cd=vI (pK L 0 1 f (A1 L)):=cl;have dk:=Rz L 0 1 f (A1 L);refine A5 ?_;refine zV ((pK L 0 1 f (A1 L)),h3) ?_ BR I I;refine⟨((U.trans ap).trans bl),?_⟩;exact⟨⟨A3,A3⟩,mn ai⟩
   refine A7 ?_;refine zV ((-1:Int),h2) ?_ BR I I;refine⟨(U.trans ap),?_⟩;exact⟨⟨A3,A3⟩,d5 hF (hS f O) ai⟩
  rintro⟨p,mp⟩ ⟨ea,bo⟩
  refine yO ?_;obtain⟨ff,bj⟩:=bo;refine AN ?_;refine zE (zL (ρ:=A9) (m:=1) (xs:=[p]) (ps':=[(0,_)]) underlying22 kT I I I wT Al (zD I (AO (AA _) (0:Int) 0 dC) (vC O O) zO) CO nP) I I I ?_
  rintro ek fa ⟨eg,rfl,ay⟩
  refine zQ (A:=[]) (ρ:=A9) ay ?_;intro h1 U av;refine yY (A:=[]) (zN (ρ:=A9) (bytes:=8) underlying22 kT I I I I nP I I M.up av bO bO) I I I ?_
  rintro cc ez ⟨bz,rfl,ax⟩
  refine Ak ?_;refine Ad ((f+1),(J++[p]),cc,bz,h1) ?_ ?_
  · exact⟨AM,ax,⟨A3,(X9 bm aq bj).1⟩,(X9 bm aq bj).2⟩
  omega
 have hO:∀u,u<A1 L->A0 J u (0:Int)=pZ L 0 1 u:=λu hu=>aq u O;have bk:A1 J=A1 L:=by omega
 refine uF ?_;refine An (ι:=Nat×A4) (λ(v,ao)=>(MLe mf ao/\(v<=A1 L/\∀a,a<v->¬iS L 0 1 a/\∀b,b<A1 L->¬Ez L 0 1 a b),[(0,vL),(8,C),(11,vI ↑v)],[.gs 3 1 C (A1 J) H],ao,A1 L-v)) (0,mf) ?_ ?_
 · exact⟨AM,A3,λa h=>by omega⟩
 rintro⟨v,ao⟩ ⟨dl,fc,ak⟩
 refine yO ?_;refine Bj (λbq=>?_) λbq=>?_
 ·
  refine Ak ?_;refine lX (xI [] v underlying61 uN rL) λej ck=>(lX (xA uN ck) λei cj=>(cL (AU I) call220 (λw hs=>bN hs cj O (by first|omega|assumption|exact Ao (Da.1 (D _ O)) dC)) λeh h1 U ci=>(cL (AU I) call74 (λw hs=>qA hs ci dC) λcb h2 ap ch=>?_)));obtain rfl:cb=vI (yK (qN (A0 L v []) 0 1 (A1 (A0 L v [])))):=ch;have di:=yZ (qN (A0 L v []) 0 1 (A1 (A0 L v [])));refine B4 (λaa=>?_) λaa=>?_
  ·
   refine Ak ?_;refine Ad ((v+1),h2) ?_ ?_
   · exact⟨AM,A3,wZ (Q:=λa=>¬iS L 0 1 a/\∀b,b<A1 L->¬Ez L 0 1 a b) ak (oi (e3 hF (hS v O) aa))⟩
   omega
  refine AX ?_;refine An (ι:=Nat×A4) (λ(w,mw)=>(MLe h2 mw/\((w<=A1 L/\(0<w->¬iS L 0 1 v))/\∀b,b<w->¬Ez L 0 1 v b),[(0,vL),(8,C),(11,vI ↑v),(12,vI ↑w)],[.gs 3 1 C (A1 J) H],mw,A1 L-w)) (0,h2) ?_ ?_
  · exact⟨AM,⟨A3,λh=>by omega⟩,λb h=>by omega⟩
  rintro⟨w,mw⟩ ⟨dy,⟨fb,dd⟩,aj⟩
  refine yO ?_;refine Bj (λbp=>?_) λbp=>?_
  ·
   refine AR ?_;refine zG 33 _ [] (Ah 0 29 [(29,.c),(30,.q),(31,.q),(32,.q)]) zX nX (xU Ac) nX (λr hr=>hr) (A5 ?_);refine B3 I (λh' L' hh hR=>(yG v (hR _ Ar) underlying22 sizeOf3 I I I bO nP).cv (show _=zH 1 C ((v*1+0)) from AJ (zH 1 C) B5)) I (fL (F:=λv_=>A9.Is mw v_ (A0 J v (0:Int))) I (xO B8 (AO (AA _) (0:Int) v bO) I nP I M.up I) (gH Ar) I ?_);intro dx bg;obtain⟨rfl,dp,dh⟩:=jV bg;refine A5 ?_;refine qC ((A0 J v (0:Int))<(0:Int)) (λah=>?_) (λah=>?_)
   ·
    rw[yU ah];refine fi ?_;refine AB I (eI I I I (X6 ?_));refine wS I I I ?_;refine⟨_,?_,(Rp.Is.cast (tP _) (by exact(show uK L 0 1=33/\rC L 0 1=[] from M7 O D hS hX (.inl ⟨v,A3,WK aa (hO v O) Bl⟩)).2.symm))⟩;rw[(show uK L 0 1=33/\rC L 0 1=[] from M7 O D hS hX (.inl ⟨v,A3,WK aa (hO v O) Bl⟩)).1]
   rw[yH ah];refine yS I I I (λh' L' hh hR=>xK I) I (yS I I I (λh' L' hh hR=>xK I) I (A7 ?_));refine yS I I I (λh' L' hh hR=>xK I) I ?_;refine qC ((↑w:Int)≠(↑v:Int)) (λae=>?_) (λae=>?_)
   ·
    rw[yU ae];refine yS I I I (λh' L' hh hR=>xK I) I (yS I I I (λh' L' hh hR=>xK I) I (yS I I I (λh' L' hh hR=>(yG w (hR _ Ar) underlying22 sizeOf3 I I I bO nP).cv (show _=zH 1 C ((w*1+0)) from AJ (zH 1 C) B5)) I (nY (F:=λv_=>A9.Is mw v_ (A0 J w (0:Int))) I I I (xO B8 (AO (AA _) (0:Int) w bO) I nP I M.up I) (gH Ar) I ?_)));intro dw bf;obtain⟨rfl,dn,df⟩:=jV bf;refine yS I I I (λh' L' hh hR=>xK I) I (yS I I I (λh' L' hh hR=>xK I) I (yS I I I (λh' L' hh hR=>(yG v (hR _ Ar) underlying22 sizeOf3 I I I bO nP).cv (show _=zH 1 C ((v*1+0)) from AJ (zH 1 C) B5)) I (nY (F:=λv_=>A9.Is mw v_ (A0 J v (0:Int))) I I I (xO B8 (AO (AA _) (0:Int) v bO) I nP I M.up I) (gH Ar) I ?_)));intro dv be;obtain⟨rfl,dm,de⟩:=jV be;refine A5 ?_;refine yS I I I (λh' L' hh hR=>xK I) I ?_;refine qC ((A0 J w (0:Int))=(A0 J v (0:Int))) (λad=>?_) (λad=>?_)
    ·
     rw[yU ad];refine yS I I I (λh' L' hh hR=>xK I) I (yS I I I (λh' L' hh hR=>xK I) I (oX I (xI [] w underlying61 uN rL) λdu bd=>(oX I (xA uN bd) λdt bc=>(yS I I I (λh' L' hh hR=>xK I) I (yS I I I (λh' L' hh hR=>xK I) I (oX I (xI [] v underlying61 uN rL) λdr bb=>(oX I (xA uN bb) λdq ba=>?_)))))));refine AB I (ES I I (sC (AK I I) call222 (λw hs=>a7 hs bc ba O (by first|omega|assumption|exact Ao (Da.1 (D _ O)) dC) (by first|omega|assumption|exact Ao (Da.1 (D _ O)) dC)) λar h3 bl az=>?_));obtain rfl:ar=vI (Iu (A0 L w []) (A0 L v []) 0 1):=az;have ca:=oW (A0 L w []) (A0 L v []) 0 1 (A1 (A0 L v []));refine VA (λZ=>?_) λZ=>?_
     ·
      have am:Ez L 0 1 v w:=⟨⟨⟨A3,by have:=Nj (hO v O) Bl;rw[<-hO v O];omega⟩,by rw[<-hO w O,<-hO v O];assumption⟩,Z⟩;refine y7 ?_;refine wS I I I ?_;refine⟨_,?_,(Rp.Is.cast (tP _) (by exact(show uK L 0 1=33/\rC L 0 1=[] from M7 O D hS hX (.inr ⟨v,w,A3,A3,am⟩)).2.symm))⟩;rw[(show uK L 0 1=33/\rC L 0 1=[] from M7 O D hS hX (.inr ⟨v,w,A3,A3,am⟩)).1]
     refine AX ?_;refine Ad ((w+1),h3) ?_ ?_
     · exact⟨AM,⟨A3,λ_=>Nj (hO v O) Bl⟩,wZ (Q:=λb=>¬Ez L 0 1 v b) aj (λe=>Z e.2)⟩
     omega
    rw[yH ad];refine AX ?_;refine AB I (bD I I I I (fJ ?_));refine Ad ((w+1),mw) ?_ ?_
    · exact⟨AM,⟨A3,λ_=>Nj (hO v O) Bl⟩,wZ (Q:=λb=>¬Ez L 0 1 v b) aj (λe=>absurd e.1.2 (by rw[<-hO w O,<-hO v O];assumption))⟩
    omega
   rw[yH ae];refine vV ?_;refine yS I I I (λh' L' hh hR=>xK I) I (AX ?_);refine AB I (bD I I I I (fJ ?_));refine Ad ((w+1),mw) ?_ ?_
   · exact⟨AM,⟨A3,λ_=>Nj (hO v O) Bl⟩,wZ (Q:=λb=>¬Ez L 0 1 v b) aj (λe=>absurd e.1.1.1 O)⟩
   omega
  refine uG ?_;refine Ad ((v+1),mw) ?_ ?_
  · exact⟨AM,A3,wZ (Q:=λa=>¬iS L 0 1 a/\∀b,b<A1 L->¬Ez L 0 1 a b) ak ⟨dd O,λb hb=>aj b O⟩⟩
  omega
 have hB:∀a b,a<A1 L->b<A1 L->¬Ez L 0 1 a b:=λa b ha hb=>(ak a O).2 b hb;have hL:∀a,a<A1 L->¬iS L 0 1 a:=λa ha=>(ak a O).1;refine tQ ?_;refine xR (A:=[]) (ρ:=A9) M.up ?_;intro h1 U au;refine wS I I I ?_;refine⟨_,?_,(Rp.Is.cast au (by exact(show uK L 0 1=0/\rC L 0 1=J from XG O D hS hX hL hB bk hO).2.symm))⟩;rw[(show uK L 0 1=0/\rC L 0 1=J from XG O D hS hX hL hB bk hO).1]
theorem O4{m l k:Nat}{vs:A2}{s:Pq}(rs:(Aj m l).Is h0 vs s){vp:A2}{p:Tq}(rp:(AD k).Is h0 vp p)(H0:k<=100000000)(H1:l<=100000000)(H2:m<=100000000):
 Ae 237 #[vs,vp] w0 h0 (λ_ r=>r=vI (B7 s p)):=by
 refine B0 12 vs vp func237 hs ?_;refine A5 ?_;refine nB rs λb2 ae C=>(nB rp λb3 ad H=>(AF ?_));refine zG 8 _ [] [(0,.q),(1,.q),(2,.q),(4,.q),(5,.q),(3,.c),(6,.c),(7,.q)] zX nX Ac nX (λr hr=>hr) (A7 ?_);refine wX I (xB zI (AT pH) C) λv6 r6=>(wX I (xB zI pH H) λv7 r7=>(A7 ?_));refine wX I (xB zU (AQ pH) C) λaa U=>?_;refine AB I (sC (AK I I) call84 (λw hs=>mD hs r6 r7 O) λv8 h1 ac J=>?_);replace J:=Rp.Is.le J (AL (3*k+3*m+9));refine AB I (sC (AK I I) call87 (λw hs=>sJ hs J U.up O) λD h2 ab M=>?_);obtain rfl:D=vI (wA (wL s.1 p) s.2):=M;have Z:=uJ (wL s.1 p) s.2;refine AF ?_;refine zC I I ?_;exact AJ vI (vo s p)
theorem Yg{m l k:Nat}{vs:A2}{s:Pq}(rs:(Aj m l).Is h0 vs s){vp:A2}{p:Tq}(rp:(AD k).Is h0 vp p)(H0:k<=100000000)(H1:l<=100000000)(H2:m<=100000000):
 Ae 199 #[vs,vp] w0 h0 (λ_ r=>r=vI (B7 s p)):=by
 refine B0 61 vs vp func199 hs ?_;refine A5 ?_;refine nB rs λb2 db D=>(nB rp λb3 da J=>(rX ?_));refine fC (A5 ?_);refine gv (OpV.tr dC (yW (q:=3) I I)) I (Jl ?_);refine lX (xB zU (AT (BL pH)) D) λcm bi=>(cL (AU I) call236 (λw hs=>tM hs bi) λcj h1 cz bf=>?_);obtain rfl:=bf;refine uG ?_;refine lX (xB zU (BL pH) J) λcg bc=>(cL (AU I) call236 (λw hs=>tM hs bc) λcd h2 cy az=>?_);obtain rfl:=az;refine uF ?_;refine gU 4 36 (vB ((¬(Bs s.1.x))\/(¬(Bs p.x)))) ?_ ?_
 ·
  refine zY (¬(Bs s.1.x)) (λH=>?_) (λH=>?_)
  ·
   refine gT H I (AF ?_);refine Ay ?_;exact AV (vN H)
  refine gF H I (AZ ?_);refine Ay ?_;exact AV (vO H)
 refine BB (λC=>?_) λC=>?_
 ·
  refine A5 ?_;refine lX (xB qZ pH D) λca aw=>(lX (xB zI pH J) λbw ar=>(cL (AK I I) call237 (λw hs=>O4 hs aw ar O O O) λac h3 cq ao=>?_));obtain rfl:ac=vI (B7 s p):=ao;have bn:=sV s p;refine vV ?_;refine zC I I ?_
  rfl
 obtain⟨bj,bp⟩:=Pg C;refine AZ ?_;refine gv (gM I I O O) I (AZ ?_);refine gv ((yF (q:=1) I I O O).cv (show _=vI (1) from I)) I (A5 ?_);refine wJ (A5 ?_);refine gv (OpV.tr dC (yW (q:=3) I I)) I (Jl ?_);refine lX (xB zU (AT (BC pH)) D) λcl bh=>(cL (AU I) call236 (λw hs=>tM hs bh) λci h3 cq be=>?_);obtain rfl:=be;refine uG ?_;refine lX (xB zU (BC pH) J) λcf bb=>(cL (AU I) call236 (λw hs=>tM hs bb) λcc h4 cw ay=>?_);obtain rfl:=ay;refine uF ?_;refine gU 4 36 (vB ((¬(Bs s.1.y))\/(¬(Bs p.y)))) ?_ ?_
 ·
  refine zY (¬(Bs s.1.y)) (λH=>?_) (λH=>?_)
  ·
   refine gT H I (AF ?_);refine Ay ?_;exact AV (vN H)
  refine gF H I (AZ ?_);refine Ay ?_;exact AV (vO H)
 refine BB (λC=>?_) λC=>?_
 ·
  refine A5 ?_;refine lX (xB qZ pH D) λbz av=>(lX (xB zI pH J) λbv aq=>(cL (AK I I) call237 (λw hs=>O4 hs av aq O O O) λab h5 cp an=>?_));obtain rfl:ab=vI (B7 s p):=an;have bm:=sV s p;refine vV ?_;refine zC I I ?_
  rfl
 obtain⟨bj,bp⟩:=Pg C;refine AZ ?_;refine gv (gM I I O O) I (AZ ?_);refine gv ((yF (q:=1) I I O O).cv (show _=vI (2) from I)) I (A5 ?_);refine wJ (A5 ?_);refine gv (OpV.tr dC (yW (q:=3) I I)) I (Jl ?_);refine lX (xB zU (AT (Bi pH)) D) λck bg=>(cL (AU I) call236 (λw hs=>tM hs bg) λch h5 cp bd=>?_);obtain rfl:=bd;refine uG ?_;refine lX (xB zU (Bi pH) J) λce ba=>(cL (AU I) call236 (λw hs=>tM hs ba) λcb h6 cu ax=>?_);obtain rfl:=ax;refine uF ?_;refine gU 4 36 (vB ((¬(Bs s.1.z))\/(¬(Bs p.z)))) ?_ ?_
 ·
  refine zY (¬(Bs s.1.z)) (λH=>?_) (λH=>?_)
  ·
   refine gT H I (AF ?_);refine Ay ?_;exact AV (vN H)
  refine gF H I (AZ ?_);refine Ay ?_;exact AV (vO H)
 refine BB (λC=>?_) λC=>?_
 ·
  refine A5 ?_;refine lX (xB qZ pH D) λbx au=>(lX (xB zI pH J) λbu ap=>(cL (AK I I) call237 (λw hs=>O4 hs au ap O O O) λaa h7 co am=>?_));obtain rfl:aa=vI (B7 s p):=am;have bl:=sV s p;refine vV ?_;refine zC I I ?_
  rfl
 obtain⟨bj,bp⟩:=Pg C;refine AZ ?_;refine gv (gM I I O O) I (AZ ?_);refine gv ((yF (q:=1) I I O O).cv (show _=vI (3) from I)) I (A5 ?_);refine wJ (A5 ?_);refine gv (OpV.fa dC (yW (q:=3) I I)) I (uF ?_);refine lX (xB zU (AQ pH) D) λbt ak=>(cL (AU I) call236 (λw hs=>tM hs ak) λbs h7 co aj=>?_);obtain rfl:=aj;refine fJ ?_;refine Bq (λM=>?_) λM=>?_
 ·
  refine A5 ?_;refine lX (xB qZ pH D) λbr ai=>(lX (xB zI pH J) λbq ah=>(cL (AK I I) call237 (λw hs=>O4 hs ai ah O O O) λZ h8 cn ae=>?_));obtain rfl:Z=vI (B7 s p):=ae;have bk:=sV s p;refine AR ?_;refine zC I I ?_
  rfl
 have bo:=Br M;have ct:=rU bo;refine Af ?_;refine cL (AU I) call238 (λw hs=>Y0 hs O O) λU h8 cn ad=>?_;obtain rfl:U=vI (GF (((((0:Int)+((Be s.1.x)*(Be p.x)))+((Be s.1.y)*(Be p.y)))+((Be s.1.z)*(Be p.z)))-(Be s.2))):=ad;refine AF ?_;refine zC I I ?_;exact AJ vI (es Bl Bl Bl bo)
end
end Go.Proofs.YtlpflnindligbaaGreat
namespace Bk
open Classical
def ag(x p y q:Rat)(u:PI):P2:=(x+p*(u.1:Rat),y+q*(u.2:Rat))
theorem K2{x p:Rat}{u v:Int}(hp:0<p):x+p*(u:Rat)<x+p*(v:Rat)↔u<v:=by
 constructor
 · intro h
   refine Jn.1 λe=>?_;have h1:(v:Rat)<=(u:Rat):=Rat.intCast_le_intCast.2 e;have h2:=Rat.mul_le_mul_of_nonneg_left h1 (Rat.le_of_lt hp);grind
 · intro h
   have h1:(u:Rat)<(v:Rat):=L4.2 h;have h2:=Rat.mul_lt_mul_of_pos_left h1 hp;grind
theorem R6{x p:Rat}{u v:Int}(hp:0<p):x+p*(u:Rat)=x+p*(v:Rat)↔u=v:=by
 constructor
 · intro h
   rcases Int.lt_trichotomy u v with h1|h1|h1
   · have:=(K2 (x:=x) hp).2 h1;grind
   · exact h1
   · have:=(K2 (x:=x) hp).2 h1;grind
 · rintro rfl;rfl
variable {x p y q:Rat}
theorem Y4(u v w:PI):cr (ag x p y q u) (ag x p y q v) (ag x p y q w)=p*q*((EY u v w:Int):Rat):=by
 unfold cr ag EY;simp only[Et,Dq];grind
theorem nF(hp:0<p)(hq:0<q):0<p*q:=by
 have:=Rat.mul_lt_mul_of_pos_left hq hp;grind
theorem Sj(hp:0<p)(hq:0<q)(u v w:PI):Ai (ag x p y q u) (ag x p y q v) (ag x p y q w)=EK u v w:=by
 unfold Ai EK;rw[Y4,dL (nF hp hq),mV]
 rfl
theorem Za(hp:0<p)(hq:0<q)(u v:PI):lx (ag x p y q u) (ag x p y q v)↔E0 u v=true:=by
 unfold lx E0;rw[CE];unfold ag;simp only[K2 hp,K2 hq,R6 hp]
theorem X3(hp:0<p)(hq:0<q)(u v:PI):ag x p y q u=ag x p y q v↔u=v:=by
 obtain⟨D,C⟩:=u;obtain⟨v1,v2⟩:=v;unfold ag;rw[Prod.mk.injEq,Prod.mk.injEq,R6 hp,R6 hq]
theorem ZM{a b c d:Int}(hp:0<p):kR (x+p*(a:Rat)) (x+p*(b:Rat)) (x+p*(c:Rat)) (x+p*(d:Rat))↔Js a b c d=true:=by
 unfold kR Js;rw[CE];simp only[K2 hp]
theorem ai{c:Prop} [Decidable c](u v:PI):(if c then ag x p y q u else ag x p y q v)=ag x p y q (if c then u else v):=by split<;>rfl
theorem eu(hp:0<p)(hq:0<q)(a b c d:PI):iQ (ag x p y q a) (ag x p y q b) (ag x p y q c) (ag x p y q d)=QJ a b c d:=by
 unfold iQ QJ;simp only[Za hp hq,ai,X3 hp hq]
theorem WF(hp:0<p)(hq:0<q)(a b c d:PI):tE (ag x p y q a) (ag x p y q b) (ag x p y q c) (ag x p y q d)=Kk a b c d:=by
 have D:kR (ag x p y q a).1 (ag x p y q b).1 (ag x p y q c).1 (ag x p y q d).1↔Js a.1 b.1 c.1 d.1=true:=ZM hp;have C:kR (ag x p y q a).2 (ag x p y q b).2 (ag x p y q c).2 (ag x p y q d).2↔Js a.2 b.2 c.2 d.2=true:=ZM hq;unfold tE Kk nQ W1 De BA;simp only[Sj hp hq,D,C,Za hp hq,ai,eu hp hq]
def gI(s:List PI)(m:Nat):PI:=A0 s m (0,0)
def J6(s:List PI):Bool:=decide (3<=A1 s)&&(List.range (A1 s)).all λb=>(List.range b).all λa=>!decide (gI s a=gI s b)&&decide (Kk (gI s a) (gI s ((a+1)%A1 s)) (gI s b) (gI s ((b+1)%A1 s))=VZ (A1 s) a b)
theorem Rl(hp:0<p)(hq:0<q){l:List Pt}{s:List PI}(hl:A1 l=A1 s)(h:∀m,m<A1 s->pr (gp l m) 0 1=ag x p y q (gI s m))(hb:J6 s=true):aV l 0 1:=by
 unfold J6 at hb;rw[Ap,CE,Bb] at hb;obtain⟨h3,hb⟩:=hb;have g:∀a b,a<b->b<A1 s->¬gI s a=gI s b/\Kk (gI s a) (gI s ((a+1)%A1 s)) (gI s b) (gI s ((b+1)%A1 s))=VZ (A1 s) a b:=λa b C D=>by
  have h1:=Bb.1 (hb b (C3.2 D)) a (C3.2 C);rw[Ap,D6,DH,CE] at h1;exact h1
 refine⟨A3,λa b J C H=>?_,λa b J C H=>?_⟩
 · show ¬pr (gp l a) 0 1=pr (gp l b) 0 1
   rw[h a A3,h b A3,X3 hp hq];exact(g a b C A3).1
 · show tE (qJ l 0 1 a) (qI l 0 1 a) (qJ l 0 1 b) (qI l 0 1 b)=JZ (A1 l) a b
   unfold qJ qI;rw[hl,h a A3,h b A3,h _ (BQ _ A3),h _ (BQ _ A3),WF hp hq];exact(g a b C A3).2
theorem RT{P:List Pt}(hs:aV P 0 1)(hl:A1 P<=64)(ha:0<yK (C2 P 0 1)):uK [P] 0 1=0:=by
 have D:∀m,m<[P].length->gl [P] m=P:=λm C=>by
  rw[show m=0 by rw[E5] at C;omega];rfl
 unfold uK;rw[A8 (λe=>by
  rcases e with e|⟨m,C,e⟩
  · rw[E5] at e;omega
  · rw[D m C] at e;omega),A8 (λe=>by
  obtain⟨m,C,e⟩:=e;rw[D m C] at e;exact e hs),A8 (λe=>by
  obtain⟨a,b,J,H,_⟩:=e;rw[E5] at H;omega),A8 (λe=>by
  rcases e with⟨k,hk,e⟩|⟨a,b,ha',hb',e⟩
  · rw[iS,D k hk] at e;exact e.1 ha
  · rw[E5] at ha' hb'
    exact e.1.1.1 A3)]
variable {x y X Y:Rat}
def hR(p:Prop):Int:=if p then 1 else 0
variable {l1 h1 l2 h2 l3 h3:Rat}
def Gi(p q:Pt):Prop:=p.x=q.x/\p.y=q.y
def s9(B:List Pt)(p:Pt):Nat->Int
  |0=>-1
  |j+1=>if Gi (A0 B j zT) p then(j:Int) else s9 B p j
theorem PY(B:List Pt)(p:Pt):∀j,-1<=s9 B p j/\s9 B p j<j\/(j=0/\s9 B p j= -1)
  |0=>.inr ⟨rfl,rfl⟩
  |j+1=>by
   have h:=PY B p j;unfold s9
   split
   · exact .inl A3
   · exact .inl A3
theorem l4{B:List Pt}{p:Pt}{j:Nat}(h:Gi (A0 B j zT) p):(j:Int)=s9 B p (j+1):=(AC h).symm
theorem Q7{B:List Pt}{p:Pt}{j:Nat}(h:¬Gi (A0 B j zT) p):s9 B p j=s9 B p (j+1):=(A8 h).symm
def Fi(B:List Pt)(p:Pt):Int:=s9 B p (A1 B)
def F1(B:List Pt)(p:Pt):List Pt:=if Fi B p<0 then B++[p] else B
def Ge(B:List Pt)(p:Pt):Int:=if Fi B p<0 then(A1 B:Int) else Fi B p
def DM(B:List Pt)(x:List Pt):Nat->List Pt
  |0=>B
  |k+1=>F1 (DM B x k) (A0 x k zT)
def IW(B:List Pt)(x:List Pt):Nat->List Int:=qB λk=>Ge (DM B x k) (A0 x k zT)
def Cj(L:List (List Pt)):Nat->List Pt
  |0=>[]
  |i+1=>DM (Cj L i) (A0 L i []) (A1 (A0 L i []))
def ZJ(L:List (List Pt)):Nat->List (List Int):=qB λi=>IW (Cj L i) (A0 L i []) (A1 (A0 L i []))
def iZ(L:List (List Pt)):Nat->Nat
  |0=>0
  |i+1=>iZ L i+A1 (A0 L i [])
theorem m3(B:List Pt)(p:Pt):A1 (F1 B p)<=A1 B+1:=by
 unfold F1;split
 · rw[BJ,E5];exact B1 _
 · omega
theorem QF(B x:List Pt):∀k,A1 (DM B x k)<=A1 B+k
  |0=>B1 _
  |k+1=>by
   have h1:=QF B x k;have h2:=m3 (DM B x k) (A0 x k zT)
   show(A1 (F1 _ _))<=_
   omega
theorem PL(L:List (List Pt)):∀i,A1 (Cj L i)<=iZ L i
  |0=>B1 _
  |i+1=>by
   have h1:=PL L i;have h2:=QF (Cj L i) (A0 L i []) (A1 (A0 L i []))
   show(A1 (DM _ _ _))<=iZ L i+_
   omega
theorem Q0{L:List (List Pt)}(h:∀m,m<A1 L->A1 (A0 L m [])<=64):∀i,i<=A1 L->iZ L i<=64*i
  |0,_=>B1 _
  |i+1,hi=>by
   have h1:=Q0 h i A3;have h2:=h i A3
   show iZ L i+_<=_
   omega
theorem hG{L:List (List Pt)}(h:uK L 0 1=0):A1 L<=16/\∀m,m<A1 L->A1 (A0 L m [])<=64:=by
 unfold uK at h
 split at h
 · omega
 · rename_i h1
   exact⟨Da.1 λe=>h1 (.inl e),λm C=>Da.1 λe=>h1 (.inr ⟨m,C,e⟩)⟩
section
variable (L:List (List Pt))(lo hi:Rat)
def D5:List Pt:=Cj L (A1 L)
def Cd:List (List Int):=ZJ L (A1 L)
def JR:Nat->List Pt:=qB λi=>T3.mk (A0 (D5 L) (i%A1 (D5 L)) zT).x (A0 (D5 L) (i%A1 (D5 L)) zT).y (if(A1 (D5 L):Int)<=(i:Int) then hi else lo)
def F2:List Pt:=JR L lo hi (2*A1 (D5 L))
def LD:Nat->List (List Int):=qB λi=>Ev (A0 (Cd L) i []) (A1 (A0 (Cd L) i []))
def Nl(i:Nat):Nat->List Int:=qB λk=>A0 (A0 (Cd L) i []) k 0+(A1 (D5 L):Int)
def LO:Nat->List (List Int):=qB λi=>Nl L i (A1 (A0 (Cd L) i []))
def EN(i k:Nat):List Nat:=[115]++qF (((i:Int):Int):Rat)++[46]++qF (((k:Int):Int):Rat)
def Fp(i k:Nat):Int:=A0 (A0 (Cd L) i []) k 0
def GM(i k:Nat):Int:=A0 (A0 (Cd L) i []) ((k+1)%A1 (A0 (Cd L) i [])) 0
def If(i k:Nat):Pt:=T3.mk ((A0 (F2 L lo hi) (GM L i k).toNat zT).y-(A0 (F2 L lo hi) (Fp L i k).toNat zT).y) (-((A0 (F2 L lo hi) (GM L i k).toNat zT).x-(A0 (F2 L lo hi) (Fp L i k).toNat zT).x)) (0:Rat)
def Gs(i k:Nat):Fc:=((If L lo hi i k,wL (If L lo hi i k) (A0 (F2 L lo hi) (Fp L i k).toNat zT)),[[Fp L i k,GM L i k,GM L i k+(A1 (D5 L):Int),Fp L i k+(A1 (D5 L):Int)]],EN i k)
def KE(i:Nat):Nat->List Fc:=qB λk=>Gs L lo hi i k
def Ho:Nat->List Fc:=rY λi=>KE L lo hi i (A1 (A0 (Cd L) i []))
def NB:Fc:=((T3.mk (0:Rat) (0:Rat) (-((1:Int):Rat)),-lo),LD L (A1 (Cd L)),[98,111,116,116,111,109])
def Mk:Fc:=((T3.mk (0:Rat) (0:Rat) ((1:Int):Rat),hi),LO L (A1 (Cd L)),[116,111,112])
def Dt:Sd:=(F2 L lo hi,Ho L lo hi (A1 (Cd L))++[NB L lo,Mk L hi],[])
def Gw:Prop:=512<2*A1 (D5 L)\/256<iZ L (A1 L)+2
def Ct:Int:=if ¬uK L 0 1=0 then uK L 0 1 else if ¬E4 L=1 then 33 else if 0<=wA lo hi then 9 else if Gw L then 2 else 0
def Df:List Pt:=if Ct L lo hi=0 then Di (Dt L lo hi) else[]
def Cg:List Fc:=if Ct L lo hi=0 then Cb (Dt L lo hi) else[]
end
section
variable {L:List (List Pt)}{lo hi:Rat}
theorem Zb(h1:uK L 0 1=0)(h2:E4 L=1)(h3:¬0<=wA lo hi)(h4:¬Gw L):Ct L lo hi=0/\Df L lo hi=Di (Dt L lo hi)/\Cg L lo hi=Cb (Dt L lo hi):=by
 have e:Ct L lo hi=0:=by unfold Ct;rw[A8 (λe=>e h1),A8 (λe=>e h2),A8 h3,A8 h4]
 exact⟨e,AC e,AC e⟩
theorem NC{n:Int}(h:Ct L lo hi=n)(hn:¬n=0):Ct L lo hi=n/\Df L lo hi=[]/\Cg L lo hi=[]:=⟨h,A8 (by rw[h];exact hn),A8 (by rw[h];exact hn)⟩
theorem c4(h1:¬uK L 0 1=0):Ct L lo hi=uK L 0 1/\Df L lo hi=[]/\Cg L lo hi=[]:=NC (AC h1) h1
theorem n0(h1:uK L 0 1=0)(h2:¬E4 L=1):Ct L lo hi=33/\Df L lo hi=[]/\Cg L lo hi=[]:=NC (by unfold Ct;rw[A8 (λe=>e h1),AC h2]) Aa
theorem k0(h1:uK L 0 1=0)(h2:E4 L=1)(h3:0<=wA lo hi):Ct L lo hi=9/\Df L lo hi=[]/\Cg L lo hi=[]:=NC (by unfold Ct;rw[A8 (λe=>e h1),A8 (λe=>e h2),AC h3]) Aa
theorem n1(h1:uK L 0 1=0)(h2:E4 L=1)(h3:¬0<=wA lo hi)(h4:Gw L):Ct L lo hi=2/\Df L lo hi=[]/\Cg L lo hi=[]:=NC (by unfold Ct;rw[A8 (λe=>e h1),A8 (λe=>e h2),A8 h3,AC h4]) Aa
theorem co(B:List Pt)(p:Pt):0<=Ge B p/\Ge B p<A1 (F1 B p):=by
 have h:=PY B p (A1 B);unfold Ge F1 Fi
 split
 · rw[BJ,E5];omega
 · omega
theorem i8(B:List Pt)(p:Pt):A1 B<=A1 (F1 B p):=by
 unfold F1;split
 · rw[BJ];omega
 · omega
theorem Xg(B x:List Pt){k n:Nat}(h:k<=n):A1 (DM B x k)<=A1 (DM B x n):=by
 induction n with
 |zero=>rw[show k=0 by omega];exact B1 _
 |succ n ih=>
  rcases DR k (n+1) with h1|h1
  · exact Ao (ih A3) (i8 _ _)
  · rw[show k=n+1 by omega];exact B1 _
theorem os{i n:Nat}(h:i<=n):A1 (Cj L i)<=A1 (Cj L n):=by
 induction n with
 |zero=>rw[show i=0 by omega];exact B1 _
 |succ n ih=>
  rcases DR i (n+1) with h1|h1
  · exact Ao (ih A3) (Xg (Cj L n) (A0 L n []) (k:=0) (Ci _))
  · rw[show i=n+1 by omega];exact B1 _
theorem v0:A1 (Cd L)=A1 L:=xN _ _
theorem XM{i:Nat}(h:i<A1 L):A0 (Cd L) i []=IW (Cj L i) (A0 L i []) (A1 (A0 L i [])):=jB _ _ h
theorem PE{i:Nat}(h:i<A1 L):A1 (A0 (Cd L) i [])=A1 (A0 L i []):=by rw[XM h];exact xN _ _
theorem Xx{i k:Nat}(h:i<A1 L)(hk:k<A1 (A0 (Cd L) i [])):0<=A0 (A0 (Cd L) i []) k 0/\A0 (A0 (Cd L) i []) k 0<↑(A1 (D5 L)):=by
 rw[PE h] at hk;rw[XM h];unfold IW;rw[jB _ _ hk];obtain⟨h1,h2⟩:=co (DM (Cj L i) (A0 L i []) k) (A0 (A0 L i []) k zT);have h3:=Xg (Cj L i) (A0 L i []) (show k+1<=A1 (A0 L i []) from hk);have J:=os (L:=L) (show i+1<=A1 L from h);have H:A1 (DM (Cj L i) (A0 L i []) (k+1))=A1 (F1 (DM (Cj L i) (A0 L i []) k) (A0 (A0 L i []) k zT)):=I;have D:A1 (Cj L (i+1))=A1 (DM (Cj L i) (A0 L i []) (A1 (A0 L i []))):=I;have C:A1 (D5 L)=A1 (Cj L (A1 L)):=I;exact⟨h1,A3⟩
theorem QC:A1 (F2 L lo hi)=2*A1 (D5 L):=xN _ _
theorem YA{n:Nat}(hn:n<=A1 L):A1 (Ho L lo hi n)=iZ L n:=by
 induction n with
 |zero=>rfl
 |succ n ih=>
  show List.length (Ho L lo hi n++KE L lo hi n (A1 (A0 (Cd L) n [])))=iZ L n+_
  rw[BJ,ih A3,show(A1 (KE L lo hi n (A1 (A0 (Cd L) n []))))=_ from xN _ _,PE A3]
end
def dF{α:Type}(f:α->α)(d:α)(A:List α):Nat->List α
  |0=>A
  |k+1=>(dF f d A k).set k (f (A0 (dF f d A k) k d))
theorem w5{α:Type}(f:α->α)(d:α)(A:List α):∀k,A1 (dF f d A k)=A1 A
  |0=>rfl
  |k+1=>by
   show List.length (List.set _ _ _)=_
   rw[lS];exact w5 f d A k
theorem Qj{α:Type}(f:α->α)(d:α)(A:List α):∀k i,i<A1 A->A0 (dF f d A k) i d=if i<k then f (A0 A i d) else A0 A i d
  |0,i,_=>rfl
  |k+1,i,h=>by
   show A0 (List.set _ k _) i d=_
   rw[Au,Mv]
   split
   · rename_i e
     subst e;rw[AC (by rw[w5];exact h),AC A3,Qj f d A k k h,A8 A3];rfl
   · rename_i e
     rw[<-Au,Qj f d A k i h]
     by_cases h1:i<k
     · rw[AC h1,AC A3]
     · rw[A8 h1,A8 A3]
theorem fm{α:Type}(f:α->α)(d:α)(A:List α):dF f d A (A1 A)=A.map f:=by
 refine LA (by rw[w5,Bu]) λi h1 h2=>?_;rw[w5] at h1;have:=Qj f d A (A1 A) i h1;rw[AC h1,Au,BV (by rw[w5];exact h1)] at this;rw[Au,BV h1] at this;rw[List.getElem_map];exact this
def FX(n:List Nat):List Nat:=if n=[98,111,116,116,111,109] then[122,48] else if n=[116,111,112] then[122,49] else if n=[115,48,46,48] then[121,48] else if n=[115,48,46,49] then[120,49] else if n=[115,48,46,50] then[121,49] else if n=[115,48,46,51] then[120,48] else n
def ID(f:Fc):Fc:=(f.1,(f.2.1,FX f.2.2))
theorem IG{F F0:List Fc}{i:Nat}{nm:List Nat}(hF:F=dF ID zA F0 i)(h:FX (A0 F i zA).2.2=nm):F.set i ((A0 F i zA).1,((A0 F i zA).2.1,nm))=dF ID zA F0 (i+1):=by
 subst hF;subst h;rfl
theorem q8{F F0:List Fc}{i:Nat}(hF:F=dF ID zA F0 i)(h:FX (A0 F i zA).2.2=(A0 F i zA).2.2)(hi:i<A1 F):F=dF ID zA F0 (i+1):=by
 rw[<-IG hF h]
 show F=F.set i (A0 F i zA)
 rw[Au,BV hi];exact(List.set_getElem_self hi).symm
section
variable (a b:Pt)
def dD:Prop:=∀u,u<3->¬0<=wA (a.at u) (b.at u)
def Bz:List (List Pt):=[[T3.mk a.x a.y (0:Rat),T3.mk b.x a.y (0:Rat),T3.mk b.x b.y (0:Rat),T3.mk a.x b.y (0:Rat)]]
def Zv:List Fc:=dF ID zA (Cg (Bz a b) a.z b.z) (A1 (Cg (Bz a b) a.z b.z))
def Gd:Sd:=(Df (Bz a b) a.z b.z,Zv a b,[])
def IC:List Pt:=if dD a b then Di (Gd a b) else[]
def G5:List Fc:=if dD a b then Cb (Gd a b) else[]
def L2:Int:=if dD a b then Ct (Bz a b) a.z b.z else 9
def Ki:Prop:=(∀x,x∈Bz a b->bG x)/\(Ct (Bz a b) a.z b.z=0->CF (Dt (Bz a b) a.z b.z))/\CF (Gd a b)
end
theorem rq{L:List (List Pt)}{lo hi:Rat}(h:Ct L lo hi=0->CF (Dt L lo hi)):A1 (Cg L lo hi)<=1000:=by
 unfold Cg
 split
 · rename_i h0
   unfold Cb
   split
   · rw[TI];exact(h h0).1.1.2
   · exact Ci _
 · exact Ci _
theorem gt{a b:Pt}(h:¬dD a b):L2 a b=9/\IC a b=[]/\G5 a b=[]:=⟨A8 h,A8 h,A8 h⟩
theorem Mu{a b:Pt}(h:dD a b):L2 a b=Ct (Bz a b) a.z b.z/\IC a b=Di (Gd a b)/\G5 a b=Cb (Gd a b):=⟨AC h,AC h,AC h⟩
theorem ap{B:List Pt}{p:Pt}:∀j,(∀i,i<j->¬Gi (A0 B i zT) p)->s9 B p j= -1
  |0,_=>rfl
  |j+1,h=>by
   rw[<-Q7 (h j A3)];exact ap j λi hi=>h i A3
theorem qq{B:List Pt}{p:Pt}(h:∀i,i<A1 B->¬Gi (A0 B i zT) p):F1 B p=B++[p]/\Ge B p=(A1 B:Int):=by
 have h1:Fi B p<0:=by unfold Fi;rw[ap _ h];decide
 exact⟨AC h1,AC h1⟩
def Rm:Nat->List Int:=qB λi=>(i:Int)
theorem em{l:List Pt}{i k:Nat}(h:i<k):A0 (l.take k) i zT=A0 l i zT:=by
 rw[Au,Au,Dj,AC h]
def KL(l:List Pt):Prop:=∀i j,i<j->j<A1 l->¬Gi (A0 l i zT) (A0 l j zT)
theorem SB{l:List Pt}(hd:KL l):∀k,k<=A1 l->DM [] l k=l.take k/\IW [] l k=Rm k
  |0,_=>⟨rfl,rfl⟩
  |k+1,hk=>by
   obtain⟨h1,h2⟩:=SB hd k A3;have hl:A1 (l.take k)=k:=by rw[By];omega
   have C:∀i,i<A1 (l.take k)->¬Gi (A0 (l.take k) i zT) (A0 l k zT):=λi hi=>by
    rw[hl] at hi;rw[em hi];exact hd i k hi A3
   obtain⟨h3,D⟩:=qq C;refine⟨?_,?_⟩
   · show F1 (DM [] l k) (A0 l k zT)=_
     rw[h1,h3];rw[Au,BV (show k<A1 l by omega),HE (show k<A1 l by omega)];rfl
   · show IW [] l k++[Ge (DM [] l k) (A0 l k zT)]=Rm k++[(k:Int)]
     rw[h2,h1,D,hl]
theorem P0{l:List Pt}(hd:KL l):D5 [l]=l:=by
 have h:=(SB hd (A1 l) (B1 _)).1;rw[ER] at h;exact h
theorem sp{l:List Pt}(hd:KL l):Cd [l]=[Rm (A1 l)]:=AJ (λz=>[z]) (SB hd (A1 l) (B1 _)).2
theorem SK{P:List Pt}(ha:0<yK (C2 P 0 1)):E4 [P]=1:=AC ha
theorem p7{l:List Pt}{lo hi:Rat}(hd:KL l)(hs:aV l 0 1)(hl:A1 l<=64)(ha:0<yK (C2 l 0 1))(hlh:lo<hi):Ct [l] lo hi=0:=by
 unfold Ct;rw[A8 (λe=>e (RT hs hl ha)),A8 (λe=>e (SK ha)),A8 (λe=>by unfold wA at e;grind),A8];unfold Gw;rw[P0 hd];have h1:iZ [l] [l].length=0+A1 l:=I;rw[h1];omega
section
variable {a b:Pt}
def bB(a b:Pt):List Pt:=[T3.mk a.x a.y (0:Rat),T3.mk b.x a.y (0:Rat),T3.mk b.x b.y (0:Rat),T3.mk a.x b.y (0:Rat)]
theorem MX(h:dD a b):a.x<b.x/\a.y<b.y/\a.z<b.z:=by
 have g:∀{u v:Rat},¬0<=wA u v->u<v:=λ{u v} h=>Rat.not_le.1 λe=>h (by unfold wA;grind);exact⟨g (h 0 Aa),g (h 1 Aa),g (h 2 Aa)⟩
theorem Lf(hx:a.x<b.x)(hy:a.y<b.y):KL (bB a b):=by
 intro i j H D;have C:j<4:=D;have:(i=0/\(j=1\/j=2\/j=3))\/(i=1/\(j=2\/j=3))\/(i=2/\j=3):=by omega
 rcases this with⟨rfl,rfl|rfl|rfl⟩|⟨rfl,rfl|rfl⟩|⟨rfl,rfl⟩<;>(intro e;have M:=e.1;have J:=e.2;simp only[bB,List.getD_cons_zero,List.getD_cons_succ] at M J;grind)
def uI:List PI:=[(0,0),(1,0),(1,1),(0,1)]
theorem n9:∀m,m<A1 uI->pr (gp (bB a b) m) 0 1=ag a.x (b.x-a.x) a.y (b.y-a.y) (gI uI m):=by
 intro m C;have H:m<4:=C;have e0:((0:Int):Rat)=0:=I;have D:((1:Int):Rat)=1:=I;have:m=0\/m=1\/m=2\/m=3:=by omega
 rcases this with rfl|rfl|rfl|rfl<;>(unfold ag;refine Prod.ext ?_ ?_<;>simp[pr,gp,bB,gI,uI,T3.at,e0,D]<;>grind)
theorem bq(hx:a.x<b.x)(hy:a.y<b.y):aV (bB a b) 0 1:=Rl (x:=a.x) (p:=b.x-a.x) (y:=a.y) (q:=b.y-a.y) (s:=uI) Bo Bo rfl n9 (by decide +kernel)
theorem vL:C2 (bB a b) 0 1=2*((b.x-a.x)*(b.y-a.y)):=by
 unfold C2;simp[qN,gp,bB,T3.at];grind
theorem YP(hx:a.x<b.x)(hy:a.y<b.y):0<yK (C2 (bB a b) 0 1):=by
 rw[vL,Rj];have:=nF (p:=b.x-a.x) (q:=b.y-a.y) Bo Bo;grind
theorem ra(h:dD a b):L2 a b=0:=by
 obtain⟨hx,hy,hz⟩:=MX h;rw[(Mu h).1];exact p7 (Lf hx hy) (bq hx hy) (show 4<=64 by decide) (YP hx hy) hz
def cB(a b:Pt)(x y z:Bool):Pt:=T3.mk (if x then b.x else a.x) (if y then b.y else a.y) (if z then b.z else a.z)
def Cz(a b:Pt):List Pt:=[cB a b false false false,cB a b true false false,cB a b true true false,cB a b false true false,cB a b false false true,cB a b true false true,cB a b true true true,cB a b false true true]
theorem QN(hx:a.x<b.x)(hy:a.y<b.y):F2 (Bz a b) a.z b.z=Cz a b:=by
 have h:D5 (Bz a b)=bB a b:=P0 (Lf hx hy);unfold F2 JR;rw[h]
 show qB _ 8=_
 have H:A1 (bB a b)=4:=I;have C:∀i:Nat,4<=i->(if((4:Nat):Int)<=(i:Int) then b.z else a.z)=b.z:=λi hi=>AC A3;have D:∀i:Nat,i<4->(if((4:Nat):Int)<=(i:Int) then b.z else a.z)=a.z:=λi hi=>A8 A3;simp only[qB,Fg,Fs,H];rw[D 0 Aa,D 1 Aa,D 2 Aa,D 3 Aa,C 4 Aa,C 5 Aa,C 6 Aa,C 7 Aa]
 rfl
theorem Yr(hx:a.x<b.x)(hy:a.y<b.y):Cd (Bz a b)=[[0,1,2,3]]:=sp (Lf hx hy)
def sF(A B:Pt)(i j:Int)(nm:List Nat):Fc:=((T3.mk (B.y-A.y) (-(B.x-A.x)) (0:Rat),wL (T3.mk (B.y-A.y) (-(B.x-A.x)) (0:Rat)) A),[[i,j,j+4,i+4]],nm)
def T1(a b:Pt):Fc:=((T3.mk (0:Rat) (0:Rat) (-((1:Int):Rat)),-a.z),[[3,2,1,0]],[98,111,116,116,111,109])
def R0(a b:Pt):Fc:=((T3.mk (0:Rat) (0:Rat) ((1:Int):Rat),b.z),[[4,5,6,7]],[116,111,112])
def CY(a b:Pt):List Fc:=[sF (cB a b false false false) (cB a b true false false) 0 1 (EN 0 0),sF (cB a b true false false) (cB a b true true false) 1 2 (EN 0 1),sF (cB a b true true false) (cB a b false true false) 2 3 (EN 0 2),sF (cB a b false true false) (cB a b false false false) 3 0 (EN 0 3),T1 a b,R0 a b]
theorem O2(hx:a.x<b.x)(hy:a.y<b.y){k:Nat}(hk:k<4):Gs (Bz a b) a.z b.z 0 k=sF (A0 (Cz a b) k zT) (A0 (Cz a b) ((k+1)%4) zT) (k:Int) (((k+1)%4:Nat):Int) (EN 0 k):=by
 have C:=Yr hx hy;have J:(A1 (D5 (Bz a b)):Int)=4:=by rw[show D5 (Bz a b)=bB a b from P0 (Lf hx hy)];rfl
 have H:Fp (Bz a b) 0 k=(k:Int):=by
  unfold Fp;rw[C];have:k=0\/k=1\/k=2\/k=3:=by omega
  rcases this with rfl|rfl|rfl|rfl<;>rfl
 have D:GM (Bz a b) 0 k=(((k+1)%4:Nat):Int):=by
  unfold GM;rw[C];have:k=0\/k=1\/k=2\/k=3:=by omega
  rcases this with rfl|rfl|rfl|rfl<;>rfl
 have M:If (Bz a b) a.z b.z 0 k=T3.mk ((A0 (Cz a b) ((k+1)%4) zT).y-(A0 (Cz a b) k zT).y) (-((A0 (Cz a b) ((k+1)%4) zT).x-(A0 (Cz a b) k zT).x)) (0:Rat):=by
  unfold If;rw[QN hx hy,H,D,II,II]
 unfold Gs;rw[M,QN hx hy,H,D,J,II]
 rfl
theorem ZW(hx:a.x<b.x)(hy:a.y<b.y):Dt (Bz a b) a.z b.z=(Cz a b,CY a b,[]):=by
 have C:=Yr hx hy;have D:(A1 (D5 (Bz a b)):Int)=4:=by rw[show D5 (Bz a b)=bB a b from P0 (Lf hx hy)];rfl
 unfold Dt;rw[QN hx hy];refine AJ (λz=>(Cz a b,z,([]:List En))) ?_;have M:Ho (Bz a b) a.z b.z (A1 (Cd (Bz a b)))=[Gs (Bz a b) a.z b.z 0 0,Gs (Bz a b) a.z b.z 0 1,Gs (Bz a b) a.z b.z 0 2,Gs (Bz a b) a.z b.z 0 3]:=by
  rw[C]
  show[]++KE (Bz a b) a.z b.z 0 (A1 (A0 (Cd (Bz a b)) 0 []))=_
  rw[C];rfl
 have J:NB (Bz a b) a.z=T1 a b:=by
  unfold NB T1 LD;rw[C];rfl
 have H:Mk (Bz a b) b.z=R0 a b:=by
  unfold Mk R0 LO Nl;rw[C,D];rfl
 rw[M,J,H,O2 hx hy Aa,O2 hx hy Aa,O2 hx hy Aa,O2 hx hy Aa]
 rfl
theorem oY{n:Nat}(h:n<10):qF (((n:Int):Int):Rat)=[48+n]:=by
 unfold qF;rw[Rat.num_intCast,Rat.den_intCast,A8 A3,AC aN,Int.natAbs_natCast]
 by_cases h0:n=0
 · subst h0;rfl
 · rw[lA h0 h];rfl
theorem ef{k:Nat}(h:k<10):EN 0 k=[115,48,46,48+k]:=by
 unfold EN;rw[oY (n:=0) Aa,oY h];rfl
end
def Ht(p:Nat->Bool):Nat->Nat
  |0=>0
  |k+1=>if p k then Ht p k else k+1
theorem O3{P:Nat->Prop}{p:Nat->Bool}:∀n,(∀k,k<n->(P k↔p k=true))->lE P n=Ht p n
  |0,_=>rfl
  |n+1,h=>by
   have ih:=O3 n λk hk=>h k A3;have h1:=h n A3;unfold lE Ht;rw[ih]
   by_cases hp:P n
   · rw[AC hp,AC (h1.1 hp)]
   · rw[A8 hp,A8 (λe=>hp (h1.2 e))]
def QV(E:List H)(i:Nat):Bool:=E.any λe=>decide (e.1=(i:Int))
theorem Va(E:List H)(i:Nat):Gk E (A1 E) i↔QV E i=true:=by
 unfold QV;rw[OH];constructor
 · rintro⟨q,C,h⟩
   exact⟨_,kX C,decide_eq_true h⟩
 · rintro⟨e,D,h⟩
   obtain⟨q,C,rfl⟩:=J4 D;refine⟨q,C,?_⟩;rw[Au,BV C];exact JY h
def G2(E:List H)(lt:Nat->Nat->Bool):Nat->List Int
  |0=>[]
  |i+1=>if QV E i then y5 (G2 E lt i) (Ht (λk=>lt i (A0 (G2 E lt i) k 0).toNat) (A1 (G2 E lt i))) (i:Int) else G2 E lt i
theorem R1{s:Sd}{lt:Nat->Nat->Bool}{n:Nat}(h:∀i k,i<n->k<n->(Dk (gp s.1 i) (gp s.1 k)↔lt i k=true)):∀i,i<=n->aY s i=G2 (Bg (uM s)) lt i
  |0,_=>rfl
  |i+1,hi=>by
   have ih:=R1 h i A3;unfold aY G2;have hb:lE (Jf s (aY s i) i) (A1 (aY s i))=Ht (λk=>lt i (A0 (G2 (Bg (uM s)) lt i) k 0).toNat) (A1 (G2 (Bg (uM s)) lt i)):=by
    rw[<-ih];refine O3 _ λk C=>?_;have:=eP C;exact h i _ A3 A3
   rw[hb,ih]
   by_cases hu:Gk (Bg (uM s)) (A1 (Bg (uM s))) i
   · rw[AC hu,AC ((Va _ _).1 hu)]
   · rw[A8 hu,A8 (λe=>hu ((Va _ _).2 e))]
abbrev D2:=Bool×Bool×Bool
def Sr(u v:D2):Bool:=(!u.1&&v.1)||(u.1==v.1&&((!u.2.1&&v.2.1)||(u.2.1==v.2.1&&(!u.2.2&&v.2.2))))
def cU(a b:Pt)(u:D2):Pt:=cB a b u.1 u.2.1 u.2.2
variable {a b:Pt}
theorem hS(hx:a.x<b.x)(hy:a.y<b.y)(hz:a.z<b.z)(u v:D2):Dk (cU a b u) (cU a b v)↔Sr u v=true:=by
 obtain⟨D,C,u3⟩:=u;obtain⟨v1,v2,v3⟩:=v
 cases D<;>cases C<;>cases u3<;>cases v1<;>cases v2<;>cases v3<;>simp[Dk,cU,cB,Sr]<;>grind
theorem p1(hx:a.x<b.x)(hy:a.y<b.y)(hz:a.z<b.z){u v:D2}(h:cU a b u=cU a b v):u=v:=by
 obtain⟨D,C,u3⟩:=u;obtain⟨v1,v2,v3⟩:=v;have h1:=AJ T3.x h;have h2:=AJ T3.y h;have h3:=AJ T3.z h
 cases D<;>cases C<;>cases u3<;>cases v1<;>cases v2<;>cases v3<;>first|rfl|(exfalso;simp[cU,cB] at h1 h2 h3;grind)
def Fx:List D2:=[(false,false,false),(true,false,false),(true,true,false),(false,true,false),(false,false,true),(true,false,true),(true,true,true),(false,true,true)]
theorem eL:Cz a b=Fx.map (cU a b):=rfl
theorem HN{l:List D2}{i:Nat}(h:i<A1 l):gp (l.map (cU a b)) i=cU a b (A0 l i (false,false,false)):=by
 unfold gp;rw[Au,Au,FA,BV h];rfl
theorem VE(hx:a.x<b.x)(hy:a.y<b.y)(hz:a.z<b.z){l:List D2}{F:List Fc}{E:List En}:fU (l.map (cU a b),F,E)=G2 (Bg (uM (l.map (cU a b),F,E))) (λi k=>Sr (A0 l i (false,false,false)) (A0 l k (false,false,false))) (A1 l):=by
 unfold fU;rw[show(A1 (l.map (cU a b),F,E).1)=A1 l from Bu _];refine R1 (n:=A1 l) (λi k hi C=>?_) _ (B1 _)
 show Dk (gp (l.map (cU a b)) i) (gp (l.map (cU a b)) k)↔_
 rw[HN hi,HN C];exact hS hx hy hz _ _
theorem y4:uM (Cz a b,CY a b,[])=[[[0,1,5,4]],[[1,2,6,5]],[[2,3,7,6]],[[3,0,4,7]],[[3,2,1,0]],[[4,5,6,7]]]:=rfl
theorem Z6(hx:a.x<b.x)(hy:a.y<b.y)(hz:a.z<b.z):fU (Cz a b,CY a b,[])=[0,4,3,7,1,5,2,6]:=by
 rw[eL,VE hx hy hz,<-eL,y4]
 decide +kernel
theorem aA{α:Type}{p:Nat->Prop}{g:Nat->α}:∀{n},(∀i,i<n->¬p i)->bC p g n=[]
  |0,_=>rfl
  |n+1,h=>by
   rw[<-H8 (h n A3)];exact aA λi hi=>h i A3
theorem PG{α:Type}{g:Nat->List α}:∀{n},(∀i,i<n->g i=[])->rY g n=[]
  |0,_=>rfl
  |n+1,h=>by
   show rY g n++g n=[]
   rw[h n A3,PG λi hi=>h i A3];rfl
def JI(E:List H)(a b:Int):Nat->Int
  |0=>0
  |m+1=>if(A0 E m ((0:Int),(0:Int),(0:Int),(0:Int),(0:Int))).1=a/\(A0 E m ((0:Int),(0:Int),(0:Int),(0:Int),(0:Int))).2.1=b then JI E a b m+1 else JI E a b m
theorem RK(E:List H)(a b:Int):∀m,Ea E a b m=JI E a b m
  |0=>rfl
  |m+1=>by
   unfold Ea JI;rw[RK E a b m]
   by_cases h:P8 (A0 E m ((0:Int),(0:Int),(0:Int),(0:Int),(0:Int))) a b
   · rw[AC h];exact(AC h).symm
   · rw[A8 h];exact(A8 h).symm
def SX(E:List H):Bool:=(List.range (A1 E)).all λi=>!decide (JI E (A0 E i ((0:Int),(0:Int),(0:Int),(0:Int),(0:Int))).2.1 (A0 E i ((0:Int),(0:Int),(0:Int),(0:Int),(0:Int))).1 (A1 E)<JI E (A0 E i ((0:Int),(0:Int),(0:Int),(0:Int),(0:Int))).1 (A0 E i ((0:Int),(0:Int),(0:Int),(0:Int),(0:Int))).2.1 (A1 E))
theorem V3{F:List (List (List Int))}(hv:Gy F)(h:SX (Bg F)=true):JS F=[]:=by
 unfold JS;rw[AC hv];unfold Qf;refine aA λi hi=>?_;have h1:=Bb.1 h i (C3.2 hi);rw[D6,DH] at h1;unfold UV JE;rw[RK,RK];exact h1
theorem a6{s:Sd}(hb:¬Hz s)(hf:∀f,f<A1 s.2.1->CB (A0 s.2.1 f zA).2.1/\DB s f):FJ s=[]:=by
 unfold FJ;rw[A8 hb];exact aA λf C e=>by
  rcases e with e|e
  · exact e (hf f C).1
  · exact e (hf f C).2
theorem Vo{s:Sd}(h:∀i k,k<i->i<A1 s.1->¬gp s.1 i=gp s.1 k):HV s (A1 s.1)=[]:=aA λi hi e=>by
 obtain⟨k,hk,e⟩:=e;exact h i k hk hi e
theorem Z9{s:Sd}(hz:∀f,f<A1 s.2.1->¬(A0 s.2.1 f zA).1.1=zT)(ho:∀f,f<A1 s.2.1->∀l,l<A1 (jP s f)->∀k,k<A1 (gl (jP s f) l)->B7 (A0 s.2.1 f zA).1 (gp (gl (jP s f) l) k)=0):I6 s=[]:=by
 have h1:Lp s (A1 s.2.1)=[]:=aA λf C e=>hz f C e;have h2:Ig s (A1 s.2.1)=[]:=PG λf C=>PG λl D=>aA λk H e=>e (ho f C l D k H);unfold I6;rw[h1,h2];rfl
theorem VG{s:Sd}(h:∀f,f<A1 s.2.1->uK (sS s f) 0 1=0/\E4 (sS s f)=1):HZ s=[]:=by
 have h1:Kb s (A1 s.2.1)=[]:=aA λf C e=>e (h f C).1;have h2:QP s (A1 s.2.1)=[]:=aA λf C e=>e (h f C).2;unfold HZ;rw[h1,h2];rfl
theorem XN{s:Sd}(h1:FJ s=[])(h2:HV s (A1 s.1)=[])(h3:I6 s=[])(h4:HZ s=[])(h5:JS (uM s)=[]):aP s:=by
 unfold aP KV;rw[h1,h2,h3,h4,h5];rfl
theorem gb{s:Sd}{f:Nat}{i j k l:Int}(hf:f<A1 s.2.1)(hn:DB s f)(hl:(A0 s.2.1 f zA).2.1=[[i,j,k,l]]):jP s f=[[gp s.1 i.toNat,gp s.1 j.toNat,gp s.1 k.toNat,gp s.1 l.toNat]]:=by
 rw[SH hf hn,hl];unfold Gq;rw[hl];rfl
theorem SP{s:Sd}{f:Nat}{A B C D:Pt}(h:jP s f=[[A,B,C,D]]):sS s f=[[jO (A0 s.2.1 f zA).1 A,jO (A0 s.2.1 f zA).1 B,jO (A0 s.2.1 f zA).1 C,jO (A0 s.2.1 f zA).1 D]]:=by
 unfold sS;rw[h];rfl
theorem fp{x p y q:Rat}(hp:0<p)(hq:0<q){l:List Pt}{t:List PI}(ht:t=[(0,0),(1,0),(1,1),(0,1)]\/t=[(1,0),(1,1),(0,1),(0,0)]\/t=[(1,1),(0,1),(0,0),(1,0)]\/t=[(0,1),(0,0),(1,0),(1,1)])
    (hl:l=t.map λu=>T3.mk (x+p*(u.1:Rat)) (y+q*(u.2:Rat)) (0:Rat)):uK [l] 0 1=0/\E4 [l]=1:=by
 have h4:A1 t=4:=by rcases ht with rfl|rfl|rfl|rfl<;>rfl
 have D:A1 l=A1 t:=by rw[hl,Bu]
 have M:∀m,m<A1 t->pr (gp l m) 0 1=ag x p y q (gI t m):=λm J=>by
  rw[hl];unfold gp gI;rw[Au,Au,FA,BV J]
  rfl
 have H:aV l 0 1:=Rl hp hq D M (by rcases ht with rfl|rfl|rfl|rfl<;>decide +kernel);have e0:((0:Int):Rat)=0:=I;have Z:((1:Int):Rat)=1:=I;have U:C2 l 0 1=2*(p*q):=by
  unfold C2
  rcases ht with rfl|rfl|rfl|rfl<;>(subst hl;simp[qN,gp,T3.at,e0,Z];grind)
 have C:0<yK (C2 l 0 1):=by
  rw[U,Rj];have:=nF hp hq;grind
 exact⟨RT H A3 C,SK C⟩
abbrev Du:=Nat×Bool
def dI:Du->Nat
  |(2,true)=>0|(2,false)=>1|(1,true)=>2|(1,false)=>0|(_,true)=>1|(_,false)=>2
def dJ:Du->Nat
  |(2,true)=>1|(2,false)=>0|(1,true)=>0|(1,false)=>2|(_,true)=>2|(_,false)=>1
def dN(d:Du)(c:Rat):Pt:=(zT).set d.1 (if d.2 then c else -c)
def JG(u:D2):Nat->Bool
  |0=>u.1|1=>u.2.1|_=>u.2.2
def bI(x:Bool):Int:=if x then 1 else 0
def Ip(d:Du)(u:D2):PI:=(bI (JG u (dI d)),bI (JG u (dJ d)))
variable {a b:Pt}
theorem X4(u:D2)(i:Nat):(cU a b u).at i=if JG u i then b.at i else a.at i:=by
 obtain⟨D,C,u3⟩:=u
 match i with
 |0=>rfl
 |1=>rfl
 |n+2=>rfl
theorem UU(u:D2)(i:Nat):(cU a b u).at i=a.at i+(b.at i-a.at i)*((bI (JG u i):Int):Rat):=by
 rw[X4];have e0:((0:Int):Rat)=0:=I;have C:((1:Int):Rat)=1:=I;unfold bI
 split
 · rw[C];grind
 · rw[e0];grind
theorem PQ{d:Du}{c:Rat}(hd:d.1<3)(hc:0<c):As (dN d c)=dI d/\At (dN d c)=dJ d/\¬dN d c=zT:=by
 obtain⟨C,D⟩:=d;have h3:C=0\/C=1\/C=2:=by have:C<3:=hd;omega
 have J:¬dN (C,D) c=zT:=λe=>by
  have h1:=AJ T3.x e;have h2:=AJ T3.y e;have H:=AJ T3.z e
  rcases h3 with rfl|rfl|rfl<;>cases D<;>simp[dN,T3.set] at h1 h2 H<;>grind
 refine⟨?_,?_,J⟩
 · rcases h3 with rfl|rfl|rfl<;>cases D<;>simp[dN,T3.set,As,dI]<;>grind
 · rcases h3 with rfl|rfl|rfl<;>cases D<;>simp[dN,T3.set,At,dJ]<;>grind
def LM(d:Du)(us:List D2):Bool:=(us.all λu=>JG u d.1==d.2)&&(decide (us.map (Ip d)=[(0,0),(1,0),(1,1),(0,1)])||decide (us.map (Ip d)=[(1,0),(1,1),(0,1),(0,0)])||decide (us.map (Ip d)=[(1,1),(0,1),(0,0),(1,0)])||decide (us.map (Ip d)=[(0,1),(0,0),(1,0),(1,1)]))
theorem un{d:Du}{c o:Rat}(hd:d.1<3)(hc:0<c)(u:D2):jO (dN d c,o) (cU a b u)=T3.mk (a.at (dI d)+(b.at (dI d)-a.at (dI d))*(((Ip d u).1:Int):Rat)) (a.at (dJ d)+(b.at (dJ d)-a.at (dJ d))*(((Ip d u).2:Int):Rat)) (0:Rat):=by
 unfold jO;rw[(PQ hd hc).1,(PQ hd hc).2.1,UU,UU];rfl
theorem WN{d:Du}{c o:Rat}(hd:d.1<3)(hc:0<c)(h:∀i,a.at i<b.at i){us:List D2}(ht:LM d us=true):uK [us.map λu=>jO (dN d c,o) (cU a b u)] 0 1=0/\E4 [us.map λu=>jO (dN d c,o) (cU a b u)]=1:=by
 unfold LM at ht;simp only[Ap,Eb,CE] at ht;refine fp (x:=a.at (dI d)) (p:=b.at (dI d)-a.at (dI d)) (y:=a.at (dJ d)) (q:=b.at (dJ d)-a.at (dJ d)) (t:=us.map (Ip d)) (by have:=h (dI d);grind) (by have:=h (dJ d);grind) ?_ ?_
 · rcases ht.2 with((h1|h1)|h1)|h1
   · exact .inl h1
   · exact .inr (.inl h1)
   · exact .inr (.inr (.inl h1))
   · exact .inr (.inr (.inr h1))
 · rw[Oz]
   exact Mg λu _=>un hd hc u
theorem oM{d:Du}{c:Rat}(hd:d.1<3){u:D2}(hu:JG u d.1=d.2):B7 (dN d c,(if d.2 then c else -c)*(if d.2 then b.at d.1 else a.at d.1)) (cU a b u)=0:=by
 unfold B7 Cr;have e:=X4 (a:=a) (b:=b) u d.1;rw[hu] at e;obtain⟨C,D⟩:=d;have h3:C=0\/C=1\/C=2:=by have:C<3:=hd;omega
 have h0:wL (dN (C,D) c) (cU a b u)=(if D then c else -c)*(cU a b u).at C:=by
  rcases h3 with rfl|rfl|rfl<;>(simp only[wL,dN,T3.set,T3.at];grind)
 rw[h0,e];refine AC ?_
 show _*_-_*_=(0:Rat)
 grind
abbrev u0:D2:=(false,false,false)
def oS(a b:Pt)(us:List D2)(d:Du)(f:Fc):Prop:=
 d.1<3/\∃c,0<c/\f.1=(dN d c,(if d.2 then c else -c)*(if d.2 then b.at d.1 else a.at d.1))/\∃i j k l:Nat,f.2.1=[[(i:Int),(j:Int),(k:Int),(l:Int)]]/\(i<A1 us/\j<A1 us/\k<A1 us/\l<A1 us)/\LM d [A0 us i u0,A0 us j u0,A0 us k u0,A0 us l u0]=true
section
variable {us:List D2}{F:List Fc}
theorem Uk{d:Du}{f:Nat}(h:oS a b us d (A0 F f zA)):DB (us.map (cU a b),F,[]) f:=by
 obtain⟨_,c,_,_,i,j,k,l,Z,⟨h1,h2,h3,h4⟩,_⟩:=h;intro m U q M
 show 0<=_/\_<((A1 (us.map (cU a b)):Nat):Int)
 rw[Bu];have D:m<A1 ((A0 F f zA).2.1):=U;have C:q<A1 (A0 ((A0 F f zA).2.1) m []):=M
 show 0<=A0 (A0 ((A0 F f zA).2.1) m []) q 0/\A0 (A0 ((A0 F f zA).2.1) m []) q 0<_
 rw[Z] at D C ⊢;have H:m=0:=by have:m<1:=D;omega
 subst H;have J:q<4:=C;have:q=0\/q=1\/q=2\/q=3:=by omega
 rcases this with rfl|rfl|rfl|rfl
 · show 0<=(i:Int)/\(i:Int)<_;omega
 · show 0<=(j:Int)/\(j:Int)<_;omega
 · show 0<=(k:Int)/\(k:Int)<_;omega
 · show 0<=(l:Int)/\(l:Int)<_;omega
theorem P7{d:Du}{f:Nat}(hf:f<A1 F)(h:oS a b us d (A0 F f zA)):∃vs:List D2,LM d vs=true/\vs.length=4/\jP (us.map (cU a b),F,[]) f=[vs.map (cU a b)]:=by
 have D:=Uk h;obtain⟨_,c,_,_,i,j,k,l,H,⟨h1,h2,h3,J⟩,C⟩:=h;refine⟨[A0 us i u0,A0 us j u0,A0 us k u0,A0 us l u0],C,I,?_⟩;rw[gb (s:=(us.map (cU a b),F,[])) hf D H]
 show[[gp (us.map (cU a b)) _,gp (us.map (cU a b)) _,gp (us.map (cU a b)) _,gp (us.map (cU a b)) _]]=_
 rw[II,II,II,II,HN h1,HN h2,HN h3,HN J];rfl
theorem QA(h:a.x<b.x/\a.y<b.y/\a.z<b.z)(hn:∀i k,k<i->i<A1 us->¬A0 us i u0=A0 us k u0)(hu:A1 us<=512/\A1 F<=256)(hF:∀f,f<A1 F->∃d,oS a b us d (A0 F f zA))(hv:∀f,f<A1 F->CB (A0 F f zA).2.1)
    (hva:Gy (uM (us.map (cU a b),F,[])))(hc:SX (Bg (uM (us.map (cU a b),F,[])))=true):aP (us.map (cU a b),F,[]):=by
 have ae:∀i,a.at i<b.at i:=λi=>match i with
  |0=>h.1|1=>h.2.1|_+2=>h.2.2
 have ab:A1 (us.map (cU a b))=A1 us:=Bu _;refine XN (a6 (λe=>?_) λf D=>?_) (Vo λi k ad hi e=>?_) (Z9 (λf D=>?_) λf D l hl k hk=>?_) (VG λf D=>?_) (V3 hva hc)
 · rcases e with(e|e)|e
   · have e':512<A1 (us.map (cU a b)):=e
     omega
   · have e':256<A1 F:=e
     omega
   · have e':1024<A1 ([]:List En):=e
     simp at e'
 · obtain⟨d,U⟩:=hF f D
   exact⟨hv f D,Uk U⟩
 · have aa:i<A1 us:=by rw[<-ab];exact hi
   have e':gp (us.map (cU a b)) i=gp (us.map (cU a b)) k:=e;rw[HN aa,HN A3] at e';exact hn i k ad aa (p1 h.1 h.2.1 h.2.2 e')
 · obtain⟨d,C,c,H,hp,_⟩:=hF f D
   show ¬(A0 F f zA).1.1=zT
   rw[hp];exact(PQ C H).2.2
 · obtain⟨d,U⟩:=hF f D
   obtain⟨J,ht,h4,Z⟩:=P7 D U;obtain⟨C,c,H,hp,_⟩:=U;rw[Z] at hl hk ⊢;have ac:l=0:=by have:l<1:=hl;omega
   subst ac;have M:k<A1 (J.map (cU a b)):=hk;rw[Bu] at M
   show B7 (A0 F f zA).1 (gp (J.map (cU a b)) k)=0
   rw[hp,HN M];refine oM C ?_;unfold LM at ht;simp only[Ap] at ht;have h9:=Bb.1 ht.1 (A0 J k u0) (kX M);exact eq_of_beq h9
 · obtain⟨d,U⟩:=hF f D
   obtain⟨J,ht,h4,Z⟩:=P7 D U;obtain⟨C,c,H,hp,_⟩:=U;have e:sS (us.map (cU a b),F,[]) f=[J.map λu=>jO (A0 F f zA).1 (cU a b u)]:=by
    obtain⟨v1,v2,v3,v4,rfl⟩:∃v1 v2 v3 v4,J=[v1,v2,v3,v4]:=by
     match J,h4 with
     |[v1,v2,v3,v4],_=>exact⟨_,_,_,_,rfl⟩
    exact SP Z
   rw[e,hp];exact WN C H ae ht
end
instance decLp(x:List Int):Decidable (Ji x):=by unfold Ji;exact inferInstance
instance decVf(L:List (List Int)):Decidable (CB L):=by unfold CB;exact inferInstance
instance decVa(F:List (List (List Int))):Decidable (Gy F):=by unfold Gy;exact inferInstance
variable {a b:Pt}
theorem JX{N M:Pt}{o r:Rat}(h1:N=M)(h2:o=r):(N,o)=(M,r):=by rw[h1,h2]
theorem ab(h:a.x<b.x/\a.y<b.y/\a.z<b.z):oS a b Fx (1,false) (A0 (CY a b) 0 zA)/\oS a b Fx (0,true) (A0 (CY a b) 1 zA)/\oS a b Fx (1,true) (A0 (CY a b) 2 zA)/\oS a b Fx (0,false) (A0 (CY a b) 3 zA)/\oS a b Fx (2,false) (A0 (CY a b) 4 zA)/\oS a b Fx (2,true) (A0 (CY a b) 5 zA):=by
 obtain⟨hx,hy,hz⟩:=h;refine⟨?_,?_,?_,?_,?_,?_⟩
 · refine⟨Aa,b.x-a.x,Bo,JX ?_ ?_,0,1,5,4,I,Aa,Aa⟩
   · show T3.mk (a.y-a.y) (-(b.x-a.x)) (0:Rat)=T3.mk 0 (-(b.x-a.x)) 0
     rw[cF];refine⟨?_,I,I⟩;show a.y-a.y=0;grind
   · show wL (T3.mk (a.y-a.y) (-(b.x-a.x)) (0:Rat)) (T3.mk a.x a.y a.z)= -(b.x-a.x)*a.y
     unfold wL;simp only;grind
 · refine⟨Aa,b.y-a.y,Bo,JX ?_ ?_,1,2,6,5,I,Aa,Aa⟩
   · show T3.mk (b.y-a.y) (-(b.x-b.x)) (0:Rat)=T3.mk (b.y-a.y) 0 0
     rw[cF];refine⟨I,?_,I⟩;show -(b.x-b.x)=0;grind
   · show wL (T3.mk (b.y-a.y) (-(b.x-b.x)) (0:Rat)) (T3.mk b.x a.y a.z)=(b.y-a.y)*b.x
     unfold wL;simp only;grind
 · refine⟨Aa,b.x-a.x,Bo,JX ?_ ?_,2,3,7,6,I,Aa,Aa⟩
   · show T3.mk (b.y-b.y) (-(a.x-b.x)) (0:Rat)=T3.mk 0 (b.x-a.x) 0
     rw[cF];refine⟨?_,?_,I⟩
     · show b.y-b.y=0;grind
     · show -(a.x-b.x)=b.x-a.x;grind
   · show wL (T3.mk (b.y-b.y) (-(a.x-b.x)) (0:Rat)) (T3.mk b.x b.y a.z)=(b.x-a.x)*b.y
     unfold wL;simp only;grind
 · refine⟨Aa,b.y-a.y,Bo,JX ?_ ?_,3,0,4,7,I,Aa,Aa⟩
   · show T3.mk (a.y-b.y) (-(a.x-a.x)) (0:Rat)=T3.mk (-(b.y-a.y)) 0 0
     rw[cF];refine⟨?_,?_,I⟩
     · show a.y-b.y= -(b.y-a.y);grind
     · show -(a.x-a.x)=0;grind
   · show wL (T3.mk (a.y-b.y) (-(a.x-a.x)) (0:Rat)) (T3.mk a.x b.y a.z)= -(b.y-a.y)*a.x
     unfold wL;simp only;grind
 · refine⟨Aa,1,Aa,JX I ?_,3,2,1,0,I,Aa,Aa⟩
   show -a.z= -1*a.z
   grind
 · refine⟨Aa,1,Aa,JX I ?_,4,5,6,7,I,Aa,Aa⟩
   show b.z=1*b.z
   grind
theorem WU(h:a.x<b.x/\a.y<b.y/\a.z<b.z):∀f,f<A1 (CY a b)->∃d,oS a b Fx d (A0 (CY a b) f zA):=by
 intro f D;have C:f<6:=D;obtain⟨h0,h1,h2,h3,J,H⟩:=ab h;have:f=0\/f=1\/f=2\/f=3\/f=4\/f=5:=by omega
 rcases this with rfl|rfl|rfl|rfl|rfl|rfl
 · exact⟨_,h0⟩
 · exact⟨_,h1⟩
 · exact⟨_,h2⟩
 · exact⟨_,h3⟩
 · exact⟨_,J⟩
 · exact⟨_,H⟩
theorem Tp(h:a.x<b.x/\a.y<b.y/\a.z<b.z):aP (Cz a b,CY a b,[]):=by
 have g:∀i,i<A1 Fx->∀k,k<i->¬A0 Fx i u0=A0 Fx k u0:=by decide +kernel
 rw[eL];refine QA h (λi k C hi=>g i hi k C) ⟨Aa,show 6<=256 by decide⟩ (WU h) (λf H=>?_) ?_ ?_
 · have D:f<6:=H
   have:f=0\/f=1\/f=2\/f=3\/f=4\/f=5:=by omega
   rcases this with rfl|rfl|rfl|rfl|rfl|rfl
   · show CB [[0,1,5,4]];decide +kernel
   · show CB [[1,2,6,5]];decide +kernel
   · show CB [[2,3,7,6]];decide +kernel
   · show CB [[3,0,4,7]];decide +kernel
   · show CB [[3,2,1,0]];decide +kernel
   · show CB [[4,5,6,7]];decide +kernel
 · rw[<-eL,y4];decide +kernel
 · rw[<-eL,y4];decide +kernel
variable {a b:Pt}
def Ly(o:List Int)(n:Nat):Nat->List Int
  |0=>List.replicate n (0:Int)
  |i+1=>(Ly o n i).set (A0 o i 0).toNat (i:Int)
theorem TE{s:Sd}{o:List Int}(h:fU s=o):∀i,GG s i=Ly o (A1 s.1) i
  |0=>rfl
  |i+1=>by unfold GG Ly;rw[TE h i,h]
theorem dw(h:a.x<b.x/\a.y<b.y/\a.z<b.z):CC (Cz a b,CY a b,[])=[0,4,6,2,1,5,7,3]:=by
 have C:=Z6 h.1 h.2.1 h.2.2;unfold CC;rw[TE C,C]
 show Ly _ 8 8=_
 decide
def CR:List D2:=[(false,false,false),(false,false,true),(false,true,false),(false,true,true),(true,false,false),(true,false,true),(true,true,false),(true,true,true)]
theorem ux(h:a.x<b.x/\a.y<b.y/\a.z<b.z):Di (Cz a b,CY a b,[])=CR.map (cU a b):=by
 have C:=Z6 h.1 h.2.1 h.2.2;unfold Di;rw[AC (Tp h)];unfold KW;rw[C];rfl
theorem TU(h:a.x<b.x/\a.y<b.y/\a.z<b.z){us:List D2}{F:List Fc}{f:Nat}(hf:f<A1 F){d:Du}(hd:oS a b us d (A0 F f zA)):FG (us.map (cU a b),F,[]) f 0:=by
 have J:∀i,a.at i<b.at i:=λi=>match i with
  |0=>h.1|1=>h.2.1|_+2=>h.2.2
 obtain⟨M,Z,h4,D⟩:=P7 hf hd;obtain⟨C,c,H,hp,_⟩:=hd;obtain⟨v1,v2,v3,v4,rfl⟩:∃v1 v2 v3 v4,M=[v1,v2,v3,v4]:=by
  match M,h4 with
  |[v1,v2,v3,v4],_=>exact⟨_,_,_,_,rfl⟩
 have e:sS (us.map (cU a b),F,[]) f=[[v1,v2,v3,v4].map λu=>jO (A0 F f zA).1 (cU a b u)]:=SP D;have U:=(WN (o:=(A0 F f zA).1.2) C H J Z).2;unfold FG;rw[e];have e2:(A0 F f zA).1=(dN d c,(A0 F f zA).1.2):=by rw[hp]
 rw[e2];refine C7 λhn=>?_;have h0:E4 [[v1,v2,v3,v4].map λu=>jO (dN d c,(A0 F f zA).1.2) (cU a b u)]=0:=A8 hn;rw[h0] at U;exact absurd U Aa
theorem lz{d:Du}{c r:Rat}(hd:d.1<3)(hc:0<c):Bc (dN d c,(if d.2 then c else -c)*r)=(dN d 1,(if d.2 then 1 else -1)*r):=by
 obtain⟨H,M⟩:=d;have h3:H=0\/H=1\/H=2:=by have:H<3:=hd;omega
 have J:∀{x:Rat},x≠0->¬yK x=0:=λ{x} hx e=>by unfold yK at e;rw[A8 hx] at e;split at e<;>omega
 have hz:yK 0=0:=AC I;have D:c≠0:=by grind
 have C:-c≠0:=by grind
 have aa:D3 c*c=1/\D3 (-c)*c=1:=by
  have e1:((1:Int):Rat)=1:=I;have Z:¬c.num<0:=IQ.2 (Rat.num_nonneg.2 (Rat.le_of_lt hc));have U:(-c).num<0:=Jn.1 λe=>by have:=Rat.num_nonneg.1 e;grind
  have a1:rJ c=c:=A8 Z;have a2:rJ (-c)=c:=by
   have:rJ (-c)= - -c:=AC U;rw[this];grind
  unfold D3;rw[a1,a2,A8 D,e1];grind
 rcases h3 with rfl|rfl|rfl<;>cases M<;>simp[Bc,dN,T3.set,hz,J D,J C,C8]<;>grind
variable {a b:Pt}
def Ch(a b:Pt)(d:Du):Pl:=(dN d 1,(if d.2 then 1 else -1)*(if d.2 then b.at d.1 else a.at d.1))
theorem aR(h:a.x<b.x/\a.y<b.y/\a.z<b.z){us:List D2}{F:List Fc}{f:Nat}(hf:f<A1 F){d:Du}(hd:oS a b us d (A0 F f zA))(ix:List Int){x:List Int}(hx:(A0 F f zA).2.1=[x]):
 CI (us.map (cU a b),F,[]) ix f=(Ch a b d,[J8 (qB (λq=>A0 ix (A0 x q 0).toNat 0) (A1 x))],(A0 F f zA).2.2):=by
 have J:=TU h hf hd;obtain⟨D,c,H,C,_⟩:=hd;unfold CI
 show(Bc (A0 F f zA).1,FW (us.map (cU a b),F,[]) ix f (A1 ((A0 F f zA).2.1))++EM (us.map (cU a b),F,[]) ix f (A1 ((A0 F f zA).2.1)),(A0 F f zA).2.2)=_
 rw[C,lz D H,hx];have Z:FW (us.map (cU a b),F,[]) ix f 1=[D8 (us.map (cU a b),F,[]) ix f 0]:=by
  unfold FW;rw[<-HO J];rfl
 have U:EM (us.map (cU a b),F,[]) ix f 1=[]:=AC J
 show(_,FW _ ix f 1++EM _ ix f 1,_)=_
 rw[Z,U];have M:D8 (us.map (cU a b),F,[]) ix f 0=J8 (qB (λq=>A0 ix (A0 x q 0).toNat 0) (A1 x)):=by
  unfold D8 Ni
  show J8 (qB (λq=>A0 ix (A0 (A0 ((A0 F f zA).2.1) 0 []) q 0).toNat 0) (A1 (A0 ((A0 F f zA).2.1) 0 [])))=_
  rw[hx];rfl
 rw[M];rfl
theorem iv(h:a.x<b.x/\a.y<b.y/\a.z<b.z)(ix:List Int)(hix:ix=[0,4,6,2,1,5,7,3]):
 CI (Cz a b,CY a b,[]) ix 0=(Ch a b (1,false),[[0,4,5,1]],EN 0 0)/\CI (Cz a b,CY a b,[]) ix 1=(Ch a b (0,true),[[4,6,7,5]],EN 0 1)/\CI (Cz a b,CY a b,[]) ix 2=(Ch a b (1,true),[[2,3,7,6]],EN 0 2)/\
 CI (Cz a b,CY a b,[]) ix 3=(Ch a b (0,false),[[0,1,3,2]],EN 0 3)/\CI (Cz a b,CY a b,[]) ix 4=(Ch a b (2,false),[[0,2,6,4]],[98,111,116,116,111,109])/\CI (Cz a b,CY a b,[]) ix 5=(Ch a b (2,true),[[1,5,7,3]],[116,111,112]):=by
 subst hix;have g:=ab h;rw[eL];refine⟨?_,?_,?_,?_,?_,?_⟩
 · rw[aR h (F:=CY a b) (f:=0) (show 0<6 by decide) g.1 _ (x:=[0,1,5,4]) I];rfl
 · rw[aR h (F:=CY a b) (f:=1) (show 1<6 by decide) g.2.1 _ (x:=[1,2,6,5]) I];rfl
 · rw[aR h (F:=CY a b) (f:=2) (show 2<6 by decide) g.2.2.1 _ (x:=[2,3,7,6]) I];rfl
 · rw[aR h (F:=CY a b) (f:=3) (show 3<6 by decide) g.2.2.2.1 _ (x:=[3,0,4,7]) I];rfl
 · rw[aR h (F:=CY a b) (f:=4) (show 4<6 by decide) g.2.2.2.2.1 _ (x:=[3,2,1,0]) I];rfl
 · rw[aR h (F:=CY a b) (f:=5) (show 5<6 by decide) g.2.2.2.2.2 _ (x:=[4,5,6,7]) I];rfl
def H1:List Nat->List Nat->Bool
  |[],[]=>false
  |[],_::_=>true
  |_::_,[]=>false
  |x::a,y::b=>if x=y then H1 a b else decide (x<y)
theorem Vi:∀a b:List Nat,Dr a b↔H1 a b=true
  |[],[]=>by simp[Dr,H1]
  |[],_::_=>by simp[Dr,H1]
  |_::_,[]=>by simp[Dr,H1]
  |x::a,y::b=>by
   have ih:=Vi a b
   by_cases h:x=y
   · simp[Dr,H1,h,ih]
   · simp[Dr,H1,h]
def DJ(nm:Nat->List Nat):Nat->List Nat
  |0=>[]
  |f+1=>y5 (DJ nm f) (Ht (λk=>H1 (nm f) (nm (A0 (DJ nm f) k 0))) (A1 (DJ nm f))) f
theorem Mc(nm:Nat->List Nat):∀f x,x∈DJ nm f->x<f
  |f+1,x,h=>by
   unfold DJ y5 at h
   rcases Cy.1 h with h|h
   · have:=Mc nm f x (HH h);omega
   · rcases BY.1 h with rfl|h
     · omega
     · have:=Mc nm f x (IJ h);omega
theorem rs{α β:Type}(g:α->β)(l:List α)(k:Nat)(x:α):y5 (l.map g) k (g x)=(y5 l k x).map g:=by
 unfold y5;rw[FK,Dx,List.map_take,List.map_drop]
theorem Oy{s:Sd}{nm:Nat->List Nat}{n:Nat}(hn:∀i,i<n->(CI s (CC s) i).2.2=nm i)(hd:∀i,i<n->∀k,k<i->¬nm i=nm k):∀f,f<=n->EJ s f=(DJ nm f).map λi=>CI s (CC s) i
  |0,_=>rfl
  |f+1,hf=>by
   have ih:=Oy hn hd f A3;unfold EJ DJ;have hb:lE (Ii (CI s (CC s) f) (EJ s f)) (A1 (EJ s f))=Ht (λk=>H1 (nm f) (nm (A0 (DJ nm f) k 0))) (A1 (DJ nm f)):=by
    rw[ih,Bu];refine O3 _ λk C=>?_;have D:=Mc nm f _ (kX (d:=0) C);have e:A0 ((DJ nm f).map λi=>CI s (CC s) i) k zA=CI s (CC s) (A0 (DJ nm f) k 0):=by
     rw[Au,FA,BV C,Au,BV C];rfl
    unfold Ii Nq;rw[e,hn f A3,hn _ A3,A8 (hd f A3 _ D)];exact Vi _ _
   rw[hb,ih,rs]
variable {a b:Pt}
def NX(i:Nat):List Nat:=A0 ([[115,48,46,48],[115,48,46,49],[115,48,46,50],[115,48,46,51],[98,111,116,116,111,109],[116,111,112]]:List (List Nat)) i []
def SL(a b:Pt):List Fc:=[(Ch a b (2,false),[[0,2,6,4]],[98,111,116,116,111,109]),(Ch a b (1,false),[[0,4,5,1]],[115,48,46,48]),(Ch a b (0,true),[[4,6,7,5]],[115,48,46,49]),(Ch a b (1,true),[[2,3,7,6]],[115,48,46,50]),(Ch a b (0,false),[[0,1,3,2]],[115,48,46,51]),(Ch a b (2,true),[[1,5,7,3]],[116,111,112])]
theorem gg(h:a.x<b.x/\a.y<b.y/\a.z<b.z):Cb (Cz a b,CY a b,[])=SL a b:=by
 have C:=dw h;obtain⟨h0,h1,h2,h3,H,D⟩:=iv h _ C;rw[ef Aa] at h0 h1 h2 h3;have J:∀i,i<6->(CI (Cz a b,CY a b,[]) (CC (Cz a b,CY a b,[])) i).2.2=NX i:=λi hi=>by
  have:i=0\/i=1\/i=2\/i=3\/i=4\/i=5:=by omega
  rcases this with rfl|rfl|rfl|rfl|rfl|rfl
  · rw[h0];rfl
  · rw[h1];rfl
  · rw[h2];rfl
  · rw[h3];rfl
  · rw[H];rfl
  · rw[D];rfl
 have M:∀i,i<6->∀k,k<i->¬NX i=NX k:=by decide
 unfold Cb;rw[AC (Tp h)]
 show EJ _ 6=_
 rw[Oy J M 6 (B1 _),show DJ NX 6=[4,0,1,2,3,5] by decide];simp only[Dx,Jw];rw[h0,h1,h2,h3,H,D]
 rfl
variable {a b:Pt}
def DC(a b:Pt):List Fc:=[(Ch a b (2,false),[[0,2,6,4]],[122,48]),(Ch a b (1,false),[[0,4,5,1]],[121,48]),(Ch a b (0,true),[[4,6,7,5]],[120,49]),(Ch a b (1,true),[[2,3,7,6]],[121,49]),(Ch a b (0,false),[[0,1,3,2]],[120,48]),(Ch a b (2,true),[[1,5,7,3]],[122,49])]
theorem u1(h:dD a b):Df (Bz a b) a.z b.z=CR.map (cU a b)/\Cg (Bz a b) a.z b.z=SL a b:=by
 have C:=MX h;have D:=ra h;rw[(Mu h).1] at D;unfold Df Cg;rw[AC D,AC D,ZW C.1 C.2.1];exact⟨ux C,gg C⟩
theorem VJ(h:dD a b):Gd a b=(CR.map (cU a b),DC a b,[]):=by
 obtain⟨h1,h2⟩:=u1 h;unfold Gd Zv;rw[fm,h1,h2];refine AJ (λz=>(CR.map (cU a b),z,([]:List En))) ?_;simp only[SL,DC,Dx,Jw,ID];simp[FX]
variable {a b:Pt}
theorem SF:oS a b CR (2,false) (A0 (DC a b) 0 zA)/\oS a b CR (1,false) (A0 (DC a b) 1 zA)/\oS a b CR (0,true) (A0 (DC a b) 2 zA)/\oS a b CR (1,true) (A0 (DC a b) 3 zA)/\oS a b CR (0,false) (A0 (DC a b) 4 zA)/\oS a b CR (2,true) (A0 (DC a b) 5 zA):=
 ⟨⟨Aa,1,Aa,rfl,0,2,6,4,rfl,Aa,Aa⟩,⟨Aa,1,Aa,rfl,0,4,5,1,rfl,Aa,Aa⟩,⟨Aa,1,Aa,rfl,4,6,7,5,rfl,Aa,Aa⟩,⟨Aa,1,Aa,rfl,2,3,7,6,rfl,Aa,Aa⟩,⟨Aa,1,Aa,rfl,0,1,3,2,rfl,Aa,Aa⟩,⟨Aa,1,Aa,rfl,1,5,7,3,rfl,Aa,Aa⟩⟩
theorem PS:uM (CR.map (cU a b),DC a b,[])=[[[0,2,6,4]],[[0,4,5,1]],[[4,6,7,5]],[[2,3,7,6]],[[0,1,3,2]],[[1,5,7,3]]]:=rfl
theorem ie(h:a.x<b.x/\a.y<b.y/\a.z<b.z):aP (CR.map (cU a b),DC a b,[]):=by
 have g:∀i,i<A1 CR->∀k,k<i->¬A0 CR i u0=A0 CR k u0:=by decide +kernel
 obtain⟨h0,h1,h2,h3,M,J⟩:=SF (a:=a) (b:=b);refine QA h (λi k H hi=>g i hi k H) ⟨Aa,show 6<=256 by decide⟩ (λf D=>?_) (λf D=>?_) ?_ ?_
 · have C:f<6:=D
   have:f=0\/f=1\/f=2\/f=3\/f=4\/f=5:=by omega
   rcases this with rfl|rfl|rfl|rfl|rfl|rfl
   · exact⟨_,h0⟩
   · exact⟨_,h1⟩
   · exact⟨_,h2⟩
   · exact⟨_,h3⟩
   · exact⟨_,M⟩
   · exact⟨_,J⟩
 · have C:f<6:=D
   have:f=0\/f=1\/f=2\/f=3\/f=4\/f=5:=by omega
   rcases this with rfl|rfl|rfl|rfl|rfl|rfl
   · show CB [[0,2,6,4]];decide +kernel
   · show CB [[0,4,5,1]];decide +kernel
   · show CB [[4,6,7,5]];decide +kernel
   · show CB [[2,3,7,6]];decide +kernel
   · show CB [[0,1,3,2]];decide +kernel
   · show CB [[1,5,7,3]];decide +kernel
 · rw[PS];decide +kernel
 · rw[PS];decide +kernel
variable {a b:Pt}
theorem Up(h:a.x<b.x/\a.y<b.y/\a.z<b.z):fU (CR.map (cU a b),DC a b,[])=[0,1,2,3,4,5,6,7]:=by
 rw[VE h.1 h.2.1 h.2.2,PS]
 decide +kernel
theorem hX(h:a.x<b.x/\a.y<b.y/\a.z<b.z):CC (CR.map (cU a b),DC a b,[])=[0,1,2,3,4,5,6,7]:=by
 have C:=Up h;unfold CC;rw[TE C,C]
 show Ly _ 8 8=_
 decide
def D4(a b:Pt):List Fc:=[(Ch a b (0,false),[[0,1,3,2]],[120,48]),(Ch a b (0,true),[[4,6,7,5]],[120,49]),(Ch a b (1,false),[[0,4,5,1]],[121,48]),(Ch a b (1,true),[[2,3,7,6]],[121,49]),(Ch a b (2,false),[[0,2,6,4]],[122,48]),(Ch a b (2,true),[[1,5,7,3]],[122,49])]
def Vw(i:Nat):List Nat:=A0 ([[122,48],[121,48],[120,49],[121,49],[120,48],[122,49]]:List (List Nat)) i []
theorem pa(h:a.x<b.x/\a.y<b.y/\a.z<b.z)(ix:List Int)(hix:ix=[0,1,2,3,4,5,6,7]):∀i,i<6->CI (CR.map (cU a b),DC a b,[]) ix i=A0 (DC a b) i zA:=by
 subst hix;obtain⟨h0,h1,h2,h3,D,C⟩:=SF (a:=a) (b:=b);intro i hi;have:i=0\/i=1\/i=2\/i=3\/i=4\/i=5:=by omega
 rcases this with rfl|rfl|rfl|rfl|rfl|rfl
 · rw[aR h (F:=DC a b) (f:=0) (show 0<6 by decide) h0 _ (x:=[0,2,6,4]) I];rfl
 · rw[aR h (F:=DC a b) (f:=1) (show 1<6 by decide) h1 _ (x:=[0,4,5,1]) I];rfl
 · rw[aR h (F:=DC a b) (f:=2) (show 2<6 by decide) h2 _ (x:=[4,6,7,5]) I];rfl
 · rw[aR h (F:=DC a b) (f:=3) (show 3<6 by decide) h3 _ (x:=[2,3,7,6]) I];rfl
 · rw[aR h (F:=DC a b) (f:=4) (show 4<6 by decide) D _ (x:=[0,1,3,2]) I];rfl
 · rw[aR h (F:=DC a b) (f:=5) (show 5<6 by decide) C _ (x:=[1,5,7,3]) I];rfl
theorem sx(h:dD a b):IC a b=CR.map (cU a b)/\G5 a b=D4 a b:=by
 have D:=MX h;obtain⟨_,e2,Z⟩:=Mu h;rw[e2,Z,VJ h];have J:=ie D;have M:=Up D;have H:=hX D;refine⟨?_,?_⟩
 · unfold Di
   rw[AC J];unfold KW;rw[M];rfl
 · have C:=pa D _ H
   have U:∀i,i<6->(CI (CR.map (cU a b),DC a b,[]) (CC (CR.map (cU a b),DC a b,[])) i).2.2=Vw i:=λi hi=>by
    rw[C i hi];have:i=0\/i=1\/i=2\/i=3\/i=4\/i=5:=by omega
    rcases this with rfl|rfl|rfl|rfl|rfl|rfl<;>rfl
   unfold Cb;rw[AC J]
   show EJ _ 6=_
   rw[Oy U Aa 6 (B1 _),show DJ Vw 6=[4,2,1,3,0,5] by decide];simp only[Dx,Jw];rw[C 0 Aa,C 1 Aa,C 2 Aa,C 3 Aa,C 4 Aa,C 5 Aa]
   rfl
variable {a b:Pt}
theorem ZC{P:List Pt}(h:0<yK (C2 P 0 1)):bG P:=Qy λe=>by
 have:C2 P 0 1=0:=e;rw[this] at h;exact absurd h Aa
theorem SD(h:a.x<b.x/\a.y<b.y/\a.z<b.z){us:List D2}{F:List Fc}(hu:A1 us<=512/\A1 F<=256)(hF:∀f,f<A1 F->∃d,oS a b us d (A0 F f zA)):CF (us.map (cU a b),F,[]):=by
 refine⟨⟨⟨?_,?_⟩,Ci _⟩,λf C=>?_,λf C x hx=>?_⟩
 · show(A1 (us.map (cU a b)))<=1000
   rw[Bu];omega
 · show (A1 F)<=1000
   omega
 · obtain⟨d,_,c,_,_,i,j,k,l,hl,_⟩:=hF f C
   show(A1 (A0 F f zA).2.1)<=16/\∀l,l<A1 (A0 F f zA).2.1->A1 (A0 (A0 F f zA).2.1 l [])<=64
   rw[hl];refine⟨show 1<=16 by decide,λm Z=>?_⟩;have H:m=0:=by have:m<1:=Z;omega
   subst H
   show 4<=64
   decide
 · obtain⟨d,U⟩:=hF f C
   have D:=TU h C U;obtain⟨M,ht,h4,J⟩:=P7 C U;obtain⟨v1,v2,v3,v4,rfl⟩:∃v1 v2 v3 v4,M=[v1,v2,v3,v4]:=by
    match M,h4 with
    |[v1,v2,v3,v4],_=>exact⟨_,_,_,_,rfl⟩
   have e:sS (us.map (cU a b),F,[]) f=[[v1,v2,v3,v4].map λu=>jO (A0 F f zA).1 (cU a b u)]:=SP J;unfold FG at D;rw[e] at D hx;rw[DP.1 hx];exact ZC D
theorem Tz(h:dD a b):Ki a b:=by
 have C:=MX h;refine⟨λx hx=>?_,λ_=>?_,?_⟩
 · have:x=bB a b:=DP.1 hx
   rw[this];exact ZC (YP C.1 C.2.1)
 · rw[ZW C.1 C.2.1,eL]
   exact SD C ⟨Aa,show 6<=256 by decide⟩ (WU C)
 · rw[VJ h]
   obtain⟨h0,h1,h2,h3,M,J⟩:=SF (a:=a) (b:=b);refine SD C ⟨Aa,show 6<=256 by decide⟩ λf H=>?_;have D:f<6:=H;have:f=0\/f=1\/f=2\/f=3\/f=4\/f=5:=by omega
   rcases this with rfl|rfl|rfl|rfl|rfl|rfl
   · exact⟨_,h0⟩
   · exact⟨_,h1⟩
   · exact⟨_,h2⟩
   · exact⟨_,h3⟩
   · exact⟨_,M⟩
   · exact⟨_,J⟩
def YR(r:Rat)(n:Int):Prop:=¬((yK r<0\/n<0)\/64<n)
def ud(r:Rat)(n:Int):Rat:=if YR r n then Kl r n else 0
def ba(r:Rat)(n:Int):Rat:=if YR r n then uv r n else 0
theorem RH{a b:Rat}:0<=wA a b↔b<=a:=by unfold wA;grind
abbrev I0:=T3 Pt
def SM(s:Sd)(i:Int):Pt:=A0 s.1 i.toNat zT
def vb(s:Sd)(i:Int):Prop:=0<=i/\i<A1 s.1
def nv(s:Sd)(l:List Int)(q:Nat):I0:=T3.mk (SM s (A0 l 0 0)) (SM s (A0 l (q+1) 0)) (SM s (A0 l (q+2) 0))
def v9(s:Sd)(l:List Int):Nat->List I0:=qB (nv s l)
def Uh(s:Sd)(ls:List (List Int)):Nat->List I0:=rY λi=>v9 s (A0 ls i []) (A1 (A0 ls i [])-2)
def Sf(s:Sd)(F:List Fc):Nat->List I0:=rY λf=>Uh s (A0 F f zA).2.1 (A1 (A0 F f zA).2.1)
def sq(t:I0):Pt:=G0 (G0 t.x t.y) t.z
def FR(q:Rat)(p:Pt):Pt:=T3.mk (q*p.x) (q*p.y) (q*p.z)
def rg(l:List I0):Rat:=l.foldl (λa t=>a+FF t.x t.y t.z) 0
def hf(l:List I0):Pt:=l.foldl (λa t=>G0 a (FR (FF t.x t.y t.z) (sq t))) zT
def h4(l:List I0):Pt:=l.foldl (λa t=>G0 a (xS (qX t.y t.x) (qX t.z t.x))) zT
def MQ(s:Sd):Rat:=rg (Sf s s.2.1 (A1 s.2.1))
def lj(s:Sd):Pt:=hf (Sf s s.2.1 (A1 s.2.1))
def JV(s:Sd)(f:Fc):Pt:=FR (1/2) (h4 (Uh s f.2.1 (A1 f.2.1)))
def Ft(k:Nat)(p:Pt):Prop:=lq p.x<=k/\lq p.y<=k/\lq p.z<=k
theorem no{k l:Nat}{p:Pt}(h:Ft k p)(hkl:k<=l):Ft l p:=⟨Ao h.1 hkl,Ao h.2.1 hkl,Ao h.2.2 hkl⟩
theorem PM{h:A4}{cs:List Go.Value}{a b:Pt}{k l:Nat}(r:(Bd (AE k)).R h cs a)(e:a=b)(hl:Ft l b):(Bd (AE l)).R h cs b:=by
 subst e;obtain⟨x,_,rfl,⟨H,_⟩,y,z,rfl,⟨D,_⟩,⟨C,_⟩⟩:=r;exact⟨x,_,I,⟨H,hl.1⟩,y,z,I,⟨D,hl.2.1⟩,⟨C,hl.2.2⟩⟩
def jp(s:Sd)(f:Fc):Prop:=(∀u v,u<A1 f.2.1->v<A1 (A0 f.2.1 u [])->vb s (A0 (A0 f.2.1 u []) v 0))/\(∀u,u<A1 f.2.1->A1 (A0 f.2.1 u [])<=1000)/\A1 f.2.1<=1000
def fx(s:Sd)(F:List Fc):Prop:=(∀i,i<A1 F->jp s (A0 F i zA))/\A1 F<=1000/\A1 (Sf s F (A1 F))<=1000
def cw(s:Sd):Pt:=if((4:Int):Rat)*MQ s=0 then zT else FR (((1:Int):Rat)/(((4:Int):Rat)*MQ s)) (lj s)
def ot(s:Sd):Prop:=¬((4:Int):Rat)*MQ s=0
def Sh(s:Sd)(d:Int):Nat->Rat×Rat
  |0=>(0,0)
  |i+1=>((Sh s d i).1+ud (wL (JV s (A0 s.2.1 i zA)) (JV s (A0 s.2.1 i zA))) d,(Sh s d i).2+ba (wL (JV s (A0 s.2.1 i zA)) (JV s (A0 s.2.1 i zA))) d)
def bp(s:Sd):Prop:=∀i,i<A1 s.2.1->lq (wL (JV s (A0 s.2.1 i zA)) (JV s (A0 s.2.1 i zA)))<=200
def pI(a b c:Int):Pt:=T3.mk (a:Rat) (b:Rat) (c:Rat)
def Cw(a b:Pt):Sd:=(IC a b,G5 a b,[])
def sb(s:Sd):Prop:=∀f,f<A1 s.2.1->A1 (A0 s.2.1 f zA).2.1<=10000/\∀l,l<A1 (A0 s.2.1 f zA).2.1->A1 (A0 (A0 s.2.1 f zA).2.1 l [])<=10000
def ci(s:Sd):Prop:=(Dv s/\sb s)/\fx s s.2.1/\bp s
structure vv:Prop where
 h:dD (pI 0 0 0) (pI 2 2 2)->Ki (pI 0 0 0) (pI 2 2 2)
 ok:ci (Cw (pI 0 0 0) (pI 2 2 2))
 vol:MQ (Cw (pI 0 0 0) (pI 2 2 2))/((6:Int):Rat)=((8:Int):Rat)
 cen:cw (Cw (pI 0 0 0) (pI 2 2 2))=pI 1 1 1/\ot (Cw (pI 0 0 0) (pI 2 2 2))
 area:Sh (Cw (pI 0 0 0) (pI 2 2 2)) 0 (A1 (Cw (pI 0 0 0) (pI 2 2 2)).2.1)=(((24:Int):Rat),((24:Int):Rat))
variable {a b:Pt}
def CJ(a b:Pt):Sd:=(CR.map (cU a b),D4 a b,[])
theorem YX(h:dD a b):Cw a b=CJ a b:=by
 obtain⟨h1,h2⟩:=sx h;unfold Cw CJ;rw[h1,h2]
def NL(p d:Pt)(t:Rat):Pt:=G0 p (FR t d)
section
variable {a b:Pt}
def sI(a b q:Pt)(v:Nat):Prop:=a.at v<q.at v/\q.at v<b.at v
def kI(a b q:Pt)(v:Nat):Prop:=a.at v<=q.at v/\q.at v<=b.at v
def ZS(f:Nat):Du:=(f/2,f%2==1)
theorem Xm{f:Nat}(hf:f<6):oS a b CR (ZS f) (A0 (D4 a b) f zA)/\(A0 (D4 a b) f zA).1=Ch a b (ZS f):=by
 have:f=0\/f=1\/f=2\/f=3\/f=4\/f=5:=by omega
 have h1:(0:Rat)<1:=by decide
 rcases this with rfl|rfl|rfl|rfl|rfl|rfl
 · exact⟨⟨Aa,1,h1,I,0,1,3,2,I,⟨Aa,Aa,Aa,Aa⟩,Aa⟩,I⟩
 · exact⟨⟨Aa,1,h1,I,4,6,7,5,I,⟨Aa,Aa,Aa,Aa⟩,Aa⟩,I⟩
 · exact⟨⟨Aa,1,h1,I,0,4,5,1,I,⟨Aa,Aa,Aa,Aa⟩,Aa⟩,I⟩
 · exact⟨⟨Aa,1,h1,I,2,3,7,6,I,⟨Aa,Aa,Aa,Aa⟩,Aa⟩,I⟩
 · exact⟨⟨Aa,1,h1,I,0,2,6,4,I,⟨Aa,Aa,Aa,Aa⟩,Aa⟩,I⟩
 · exact⟨⟨Aa,1,h1,I,1,5,7,3,I,⟨Aa,Aa,Aa,Aa⟩,Aa⟩,I⟩
end
def KC(p A B v:Pt):Prop:=if xS (qX A p) (qX B p)=zT then xS (qX B A) v=zT else FF (qX A p) (qX B p) v=0
def vK(k:Int):Pt:=T3.mk ((1:Int):Rat) (k:Rat) ((k*k:Int):Rat)
theorem uq{q:Nat->Prop}:∀n,q n->∃k,k<=n/\q k/\∀j,j<k->¬q j:=by
 intro n
 induction n using Nat.strongRecOn with
 |_ n ih=>
  intro hn
  by_cases h:∃j,j<n/\q j
  · obtain⟨j,hj,hq⟩:=h
    obtain⟨k,h1,h2,h3⟩:=ih j hj hq;exact⟨k,A3,h2,h3⟩
  · exact⟨n,B1 n,hn,λj hj hq=>h ⟨j,hj,hq⟩⟩
theorem Su{q:Nat->Prop}(h:∃n,q n):∃k,q k/\∀j,j<k->¬q j:=by
 obtain⟨n,C⟩:=h;obtain⟨k,_,h2⟩:=uq n C;exact⟨k,h2⟩
def Iy(q:Nat->Prop):Nat:=if h:∃n,q n then Classical.choose (Su h) else 0
theorem SJ{q:Nat->Prop}{n:Nat}(h:q n):Iy q<=n/\q (Iy q)/\∀j,j<Iy q->¬q j:=by
 have H:∃n,q n:=⟨n,h⟩;have C:=Classical.choose_spec (Su H);have e:Iy q=Classical.choose (Su H):=dif_pos H;rw[e];exact⟨Da.1 λD=>C.2 n D h,C.1,C.2⟩
abbrev D7:=Int×Int
def MB(a b:Int):D7:=(min a b,max a b)
def Ja(P:List Pt)(i:Int):Pt:=gp P i.toNat
def DD(P:List Pt)(x:List Int)(S:List D7):Nat->List D7
  |0=>S
  |k+1=>if MB (A0 x k 0) (A0 x ((k+1)%A1 x) 0)∈DD P x S k\/Ja P (A0 x k 0)=Ja P (A0 x ((k+1)%A1 x) 0) then DD P x S k else DD P x S k++[MB (A0 x k 0) (A0 x ((k+1)%A1 x) 0)]
def H5(P:List Pt)(L:List (List Int))(S:List D7):Nat->List D7
  |0=>S
  |l+1=>DD P (A0 L l []) (H5 P L S l) (A1 (A0 L l []))
def Fq(s:Sd):Nat->List D7
  |0=>[]
  |f+1=>H5 s.1 (A0 s.2.1 f zA).2.1 (Fq s f) (A1 (A0 s.2.1 f zA).2.1)
theorem ca{s:Sd}(h:aP s):FJ s=[]/\HV s (A1 s.1)=[]/\I6 s=[]/\HZ s=[]/\JS (uM s)=[]:=by
 unfold aP KV at h
 by_cases h1:0<A1 (FJ s)
 · rw[AC h1] at h;omega
 · rw[A8 h1] at h
   by_cases h2:0<A1 (HV s (A1 s.1))
   · rw[AC h2] at h;omega
   · rw[A8 h2] at h
     by_cases h3:0<A1 (I6 s)
     · rw[AC h3] at h;omega
     · rw[A8 h3] at h
       by_cases h4:0<A1 (HZ s)
       · rw[AC h4] at h;omega
       · rw[A8 h4] at h
         exact⟨DG A3,DG A3,DG A3,DG A3,DG h⟩
theorem fj{s:Sd}(h:aP s){f:Nat}(hf:f<A1 s.2.1):CB (A0 s.2.1 f zA).2.1/\DB s f:=by
 have hz:=(ca h).1;unfold FJ at hz
 by_cases hb:Hz s
 · rw[AC hb] at hz;simp at hz
 · rw[A8 hb] at hz
   have:=(T6 (p:=Lj s) _).1 hz f hf;unfold Lj at this;exact⟨Br λe=>this (.inl e),Br λe=>this (.inr e)⟩
theorem eC{s:Sd}(h:aP s):Dv s:=λf hf=>(fj h hf).2
variable {a b p d:Pt}
structure vx(a b p d:Pt)(M:Rat)(u:Nat)(l h:Rat):Prop where
 lt:l<h
 z:d.at u=0->l= -M/\h=M
 n:d.at u≠0->(-M<l/\l<M)/\-M<h/\h<M
 s:∀t,-M<t->t<M->(sI a b (NL p d t) u↔l<t/\t<h)
 k:∀t,-M<t->t<M->(kI a b (NL p d t) u↔l<=t/\t<=h)
 pos:0<d.at u->l*d.at u=a.at u-p.at u/\h*d.at u=b.at u-p.at u
 neg:d.at u<0->l*d.at u=b.at u-p.at u/\h*d.at u=a.at u-p.at u
variable {a b p d:Pt}
section
variable {a b:Pt}
theorem pB(h:a.x<b.x/\a.y<b.y/\a.z<b.z):aP (CJ a b):=by
 have g:∀i,i<A1 CR->∀k,k<i->¬A0 CR i u0=A0 CR k u0:=by decide +kernel
 have D:uM (CR.map (cU a b),D4 a b,[])=[[[0,1,3,2]],[[4,6,7,5]],[[0,4,5,1]],[[2,3,7,6]],[[0,2,6,4]],[[1,5,7,3]]]:=I;refine QA h (λi k H hi=>g i hi k H) ⟨Aa,show 6<=256 by decide⟩ (λf C=>⟨_,(Xm (a:=a) (b:=b) C).1⟩) (λf C=>?_) ?_ ?_
 · have J:f<6:=C
   have:f=0\/f=1\/f=2\/f=3\/f=4\/f=5:=by omega
   rcases this with rfl|rfl|rfl|rfl|rfl|rfl
   · show CB [[0,1,3,2]];decide +kernel
   · show CB [[4,6,7,5]];decide +kernel
   · show CB [[0,4,5,1]];decide +kernel
   · show CB [[2,3,7,6]];decide +kernel
   · show CB [[0,2,6,4]];decide +kernel
   · show CB [[1,5,7,3]];decide +kernel
 · rw[D];decide +kernel
 · rw[D];decide +kernel
end
abbrev Fm:=Pl×List (List Pt)×Int×Int
abbrev Md:=List Fm×List (List Pt)
abbrev B6:List Pt:=List.replicate 2 zT
abbrev BG:Fm:=(FZ,([]:List (List Pt)),(0:Int),(0:Int))
def wG(P:List Pt)(L:List (List Int)):Nat->List (List Pt):=qB λl=>FO P (A0 L l []) (A1 (A0 L l []))
def VH(s:Sd)(f:Fc):Fm:=(f.1,wG s.1 f.2.1 (A1 f.2.1),(↑(As f.1.1):Int),(↑(At f.1.1):Int))
def FH(P:List Pt)(e:D7):List Pt:=[Ja P e.1,Ja P e.2]
def NT(s:Sd):Nat->List Fm:=qB λf=>VH s (A0 s.2.1 f zA)
def aF(s:Sd):Md:=(NT s (A1 s.2.1),(Fq s (A1 s.2.1)).map (FH s.1))
def I5(f:Fm)(p:Pt):Int:=Hi f.2.1 (pr p f.2.2.1.toNat f.2.2.2.toNat) f.2.2.1.toNat f.2.2.2.toNat
def GU(md:Md)(p:Pt)(f:Nat):Prop:=(B7 (A0 md.1 f BG).1 p=0/\0<A1 (A0 md.1 f BG).2.1)/\0<=I5 (A0 md.1 f BG) p
def Dg(md:Md)(p:Pt):Prop:=∃f,f<A1 md.1/\GU md p f
def P4(md:Md)(p:Pt):Nat:=if Dg md p then Iy λf=>f<A1 md.1/\GU md p f else 0
def GH(f:Fm)(d:Pt):Rat:=wL f.1.1 d
def MG(f:Fm)(p:Pt):Rat:=f.1.2-wL f.1.1 p
def HI(f:Fm)(p d:Pt):Prop:=yK (GH f d)*yK (MG f p)<=0\/A1 f.2.1=0
def IB(f:Fm)(p d:Pt):Int:=I5 f (NL p d (MG f p/GH f d))
def Eh(f:Fm)(p d:Pt):Prop:=¬HI f p d/\IB f p d=0
def Bw(md:Md)(p d:Pt):Nat->Int×Int
  |0=>(0,0)
  |n+1=>if HI (A0 md.1 n BG) p d then Bw md p d n else if IB (A0 md.1 n BG) p d=1 then(if 0<GH (A0 md.1 n BG) d then((Bw md p d n).1+1,(Bw md p d n).2) else((Bw md p d n).1,(Bw md p d n).2+1)) else Bw md p d n
def IR(md:Md)(p d:Pt):Prop:=∀f,f<A1 md.1->¬Eh (A0 md.1 f BG) p d
def G9(md:Md)(p v:Pt):Prop:=∀q,q<A1 md.2->¬KC p (A0 (A0 md.2 q B6) 0 zT) (A0 (A0 md.2 q B6) 1 zT) v
def CW(md:Md)(p:Pt):Nat:=Iy λk=>G9 md p (vK k)
def TL(f:Fm):Prop:=(0<=f.2.2.1/\f.2.2.1<3)/\(0<=f.2.2.2/\f.2.2.2<3)/\A1 f.2.1<=1000/\∀x,x∈f.2.1->A1 x<=1000
def JF(md:Md):Prop:=A1 md.1<=1000/\A1 md.2<=2000000/\∀f,f<A1 md.1->TL (A0 md.1 f BG)
theorem mx{md:Md}{p:Pt}{f:Nat}(hf:f<A1 md.1)(h:GU md p f)(hl:∀u,u<f->¬GU md p u):P4 md p=f/\Dg md p:=by
 have C:Dg md p:=⟨f,hf,h⟩;obtain⟨h1,h2,h3⟩:=SJ (q:=λf=>f<A1 md.1/\GU md p f) ⟨hf,h⟩;refine⟨?_,C⟩;unfold P4;rw[AC C]
 rcases DR (Iy λf=>f<A1 md.1/\GU md p f) f with h4|h4
 · exact absurd h2.2 (hl _ h4)
 · omega
theorem fw{md:Md}{p:Pt}(h:∀f,f<A1 md.1->¬GU md p f):P4 md p=0/\¬Dg md p:=by
 have C:¬Dg md p:=λ⟨f,D,e⟩=>h f D e;exact⟨A8 C,C⟩
theorem Lw{q:Rat}:yK q=0↔q=0:=by
 refine⟨λe=>?_,lG⟩;rw[pQ] at e
 split at e
 · assumption
 · split at e<;>exact absurd e Aa
abbrev HA:=Pt×Pt×Prop
def Fo(x:HA)(d:Pt):Prop:=if x.2.2 then xS x.2.1 d=zT else wL x.1 d=0
def HP(p:Pt)(e:List Pt):HA:=(xS (qX (A0 e 0 zT) p) (qX (A0 e 1 zT) p),if xS (qX (A0 e 0 zT) p) (qX (A0 e 1 zT) p)=zT then qX (A0 e 1 zT) (A0 e 0 zT) else zT,xS (qX (A0 e 0 zT) p) (qX (A0 e 1 zT) p)=zT)
def Ff(p:Pt)(E:List (List Pt)):Nat->List HA:=qB λq=>HP p (A0 E q B6)
theorem aw(a b d:Pt):wL (xS a b) d=FF a b d:=by
 unfold FF wL xS;grind
theorem r0(p d:Pt)(e:List Pt):Fo (HP p e) d↔KC p (A0 e 0 zT) (A0 e 1 zT) d:=by
 unfold Fo KC HP
 by_cases h:xS (qX (A0 e 0 zT) p) (qX (A0 e 1 zT) p)=zT
 · simp only[h,if_true]
 · simp only[h,if_false]
   rw[show wL (xS (qX (A0 e 0 zT) p) (qX (A0 e 1 zT) p)) d=FF (qX (A0 e 0 zT) p) (qX (A0 e 1 zT) p) d from aw _ _ _]
def GP(md:Md)(p d:Pt):Int:=if IR md p d then(Bw md p d (A1 md.1)).1 else 0
def GX(md:Md)(p d:Pt):Int:=if IR md p d then(Bw md p d (A1 md.1)).2 else 0
theorem Sp(md:Md)(p d:Pt):∀n:Nat,(0<=(Bw md p d n).1/\(Bw md p d n).1<=n)/\(0<=(Bw md p d n).2/\(Bw md p d n).2<=n)
  |0=>by
   show(0<=(0:Int)/\(0:Int)<=((0:Nat):Int))/\(0<=(0:Int)/\(0:Int)<=((0:Nat):Int))
   omega
  |n+1=>by
   have ih:=Sp md p d n;unfold Bw
   split
   · omega
   · split
     · split
       · show(0<=(Bw md p d n).1+1/\(Bw md p d n).1+1<=_)/\(0<=(Bw md p d n).2/\(Bw md p d n).2<=_)
         omega
       · show(0<=(Bw md p d n).1/\(Bw md p d n).1<=_)/\(0<=(Bw md p d n).2+1/\(Bw md p d n).2+1<=_)
         omega
     · omega
section
variable {md:Md}{p d:Pt}{f:Nat}
theorem ZL(h:HI (A0 md.1 f BG) p d):Bw md p d (f+1)=Bw md p d f:=AC h
theorem er(h:¬HI (A0 md.1 f BG) p d)(h1:IB (A0 md.1 f BG) p d=1)(h2:0<GH (A0 md.1 f BG) d):Bw md p d (f+1)=((Bw md p d f).1+1,(Bw md p d f).2):=(A8 h).trans ((AC h1).trans (AC h2))
theorem pn(h:¬HI (A0 md.1 f BG) p d)(h1:IB (A0 md.1 f BG) p d=1)(h2:¬0<GH (A0 md.1 f BG) d):Bw md p d (f+1)=((Bw md p d f).1,(Bw md p d f).2+1):=(A8 h).trans ((AC h1).trans (A8 h2))
theorem pC(h:¬HI (A0 md.1 f BG) p d)(h1:¬IB (A0 md.1 f BG) p d=1):Bw md p d (f+1)=Bw md p d f:=(A8 h).trans (A8 h1)
theorem c9(hf:f<A1 md.1)(h:Eh (A0 md.1 f BG) p d):GP md p d=0/\GX md p d=0/\¬IR md p d:=by
 have C:¬IR md p d:=λe=>e f hf h;exact⟨A8 C,A8 C,C⟩
theorem th(h:∀f,f<A1 md.1->¬Eh (A0 md.1 f BG) p d):GP md p d=(Bw md p d (A1 md.1)).1/\GX md p d=(Bw md p d (A1 md.1)).2/\IR md p d:=⟨AC h,AC h,h⟩
end
theorem rL{p:Pt}{E:List (List Pt)}{q:Nat}{D:List HA}(hD:D=Ff p E q)(h:xS (qX (A0 (A0 E q B6) 0 zT) p) (qX (A0 (A0 E q B6) 1 zT) p)=zT):D++[(xS (qX (A0 (A0 E q B6) 0 zT) p) (qX (A0 (A0 E q B6) 1 zT) p),(qX (A0 (A0 E q B6) 1 zT) (A0 (A0 E q B6) 0 zT),xS (qX (A0 (A0 E q B6) 0 zT) p) (qX (A0 (A0 E q B6) 1 zT) p)=zT))]=Ff p E (q+1):=by
 rw[hD]
 show _=Ff p E q++[HP p (A0 E q B6)]
 unfold HP;rw[AC h]
theorem ol{p:Pt}{E:List (List Pt)}{q:Nat}{D:List HA}(hD:D=Ff p E q)(h:¬xS (qX (A0 (A0 E q B6) 0 zT) p) (qX (A0 (A0 E q B6) 1 zT) p)=zT):D++[(xS (qX (A0 (A0 E q B6) 0 zT) p) (qX (A0 (A0 E q B6) 1 zT) p),(zT,xS (qX (A0 (A0 E q B6) 0 zT) p) (qX (A0 (A0 E q B6) 1 zT) p)=zT))]=Ff p E (q+1):=by
 rw[hD]
 show _=Ff p E q++[HP p (A0 E q B6)]
 unfold HP;rw[A8 h]
abbrev Lz:HA:=(zT,(zT,False))
theorem Tf{p v:Pt}{md:Md}{u:Nat}(hu:u<A1 md.2):Fo (A0 (Ff p md.2 (A1 md.2)) u Lz) v↔KC p (A0 (A0 md.2 u B6) 0 zT) (A0 (A0 md.2 u B6) 1 zT) v:=by
 rw[show A0 (Ff p md.2 (A1 md.2)) u Lz=HP p (A0 md.2 u B6) from jB _ Lz hu];exact r0 p v _
theorem Xc{p:Pt}{md:Md}{D:List HA}{u kk:Nat}(hD:D=Ff p md.2 (A1 md.2))(hc:G9 md p (vK ↑(CW md p)))(hk:kk<=CW md p)(hu:u<A1 D)(h:Fo (A0 D u Lz) (vK ↑kk)):kk+1<=CW md p:=by
 have C:A1 D=A1 md.2:=by rw[hD];exact xN _ _
 rcases DR kk (CW md p) with h1|h1
 · exact h1
 · have e:kk=CW md p:=by omega
   rw[e,hD] at h;exact absurd ((Tf A3).1 h) (hc u A3)
theorem vf{p:Pt}{md:Md}{D:List HA}{kk:Nat}(hD:D=Ff p md.2 (A1 md.2))(hk:kk<=CW md p)(h:∀v,v<A1 D->¬Fo (A0 D v Lz) (vK ↑kk)):kk=CW md p:=by
 have J:A1 D=A1 md.2:=by rw[hD];exact xN _ _
 have H:G9 md p (vK ↑kk):=λq C e=>by
  refine h q A3 ?_;rw[hD];exact(Tf C).2 e
 have h1:CW md p<=kk:=(SJ (q:=λk=>G9 md p (vK k)) H).1;omega
theorem W4(md:Md)(p d:Pt):(0<=GP md p d/\GP md p d<=A1 md.1)/\(0<=GX md p d/\GX md p d<=A1 md.1):=by
 have h:=Sp md p d (A1 md.1);unfold GP GX
 split
 · exact h
 · omega
def Do(md:Md)(p:Pt):Int:=if Dg md p then 0 else GP md p (vK ↑(CW md p))-GX md p (vK ↑(CW md p))
theorem tz{s:Sd}{f:Nat}(hf:f<A1 s.2.1):A0 (aF s).1 f BG=VH s (A0 s.2.1 f zA):=jB _ BG hf
theorem Vn(s:Sd):A1 (aF s).1=A1 s.2.1:=xN _ _
theorem w9{s:Sd}{f:Nat}(hf:f<A1 s.2.1)(hn:DB s f):jP s f=wG s.1 (A0 s.2.1 f zA).2.1 (A1 (A0 s.2.1 f zA).2.1):=by
 unfold jP;rw[AC ⟨⟨A3,A3⟩,by simpa using hn⟩]
 rfl
end Bk
namespace Bk
open Go Go.RowKit
open Classical
section
variable {P:D}{n:Nat}{w0:AP}{h0:A4}{e:List (Nat×A2)}{L:List AG}{h:A4}{Q:BH->Av->AP->Prop}
variable {ds:Option Tmp}{ty:Ab}{ps:String}{af:Array Edge}{gd:Option (Nat×Bool)}
abbrev tO(u:Int×Int):A2:=.agg #[vI u.1,vI u.2]
def nR(es:Array MapEntry)(S:List (Int×Int)):Prop:=es.toList.map (λx=>(x.key,x.val))=S.map λu=>(tO u,A2.bool true)
theorem pA:nR #[] []:=rfl
theorem Ys{t:Ab}:aU P n w0 h0 ⟨ds,.makeMap t none,ty,ps,af,gd⟩ e L h (λu r=>∃b,u=.map (some b)/\r=.blk b (.map #[] 0)):=by
 intro a w D S;refine⟨_,w.alloc (.map #[] 0),.blk w.heap.size (.map #[] 0),?_,AP.grownBy_alloc w _ none,S8 w _,λb C=>?_,_,I,I⟩
 · simp[execOp,Instr.makeMap,newObj,Sem.run]
 · simp only[AG.fp,Option.some.injEq] at C
   omega
structure GV(P:D)(mt kt et it:Ab):Prop where
 m:P.underlying mt=some (.map kt et)
 k:P.underlying kt=some (.array 2 it)
 i:P.underlying it=some (.int .i64)
 sz:∀w,(Go.sizeOf it).run P w=.ok 1 w
 ag:∀w,(isAgg it).run P w=.ok false w
 z:∀w,(zeroValue et).run P w=.ok (.bool false) w
variable {mt kt et it:Ab}
theorem ZU(T:GV P mt kt et it)(x y:Int)(w:AP):(part it #[vI x,vI y] 0).run P w=.ok (vI x) w:=by simp[part,Sem.run_bind,T.ag]
theorem Zo(T:GV P mt kt et it)(x y:Int)(w:AP):(part it #[vI x,vI y] 1).run P w=.ok (vI y) w:=by simp[part,Sem.run_bind,T.ag]
theorem sW{w:AP}{r:Nat}{es:Array MapEntry}{clock:Nat}(hb:w.heap[r]?=some (.map es clock)):(getObj r).run P w=.ok (.map es clock) w:=by
 simp[getObj,Sem.run,hb]
theorem an{w:AP}{r:Nat}{es:Array MapEntry}{clock:Nat}(o:Obj)(hb:w.heap[r]?=some (.map es clock)):(setObj r o).run P w=.ok () {w with heap:=D9 w.heap r o}:=by
 simp[setObj,Sem.run,hb]
theorem pv(T:GV P mt kt et it)(u v:Int×Int)(w:AP):(Op.equal kt (tO u) (tO v)).run P w=.ok (decide (u=v)) w:=by
 have J:∀(d:Nat) (x y:Int),(Op.equalIn (d+1) it (vI x) (vI y)).run P w=.ok (x==y) w:=λd x y=>by
  unfold Op.equalIn;simp[Sem.run_bind,run_underlying T.i,vI]
 show(Op.equalIn 10000 kt (tO u) (tO v)).run P w=_
 rw[show(10000:Nat)=9999+1 from I,Op.equalIn];simp only[Sem.run_bind,run_underlying T.k,Result.andThen_ok,T.sz];simp only[Std.Legacy.Range.forIn_eq_forIn_range',Std.Legacy.Range.size,H3,Hs,Ek,List.range'_succ,List.range'_zero,List.forIn_cons,List.forIn_nil,E2,F9,E6];have H:∀(x y:Int),(Op.equalIn 9999 it (vI x) (vI y)).run P w=.ok (x==y) w:=λx y=>J 9998 x y;obtain⟨D,C⟩:=u;obtain⟨v1,v2⟩:=v
 by_cases h1:D=v1<;>by_cases h2:C=v2<;>simp[Sem.run_bind,ZU T,Zo T,H,h1,h2]
theorem u6(T:GV P mt kt et it)(em:Bool)(u:Int×Int)(w:AP):(Instr.checkKey em 10000 kt (tO u)).run P w=.ok () w:=by
 have C:∀(x:Int),(Instr.checkKey em 9999 it (vI x)).run P w=.ok () w:=λx=>by
  rw[show(9999:Nat)=9998+1 from I];unfold Instr.checkKey;simp[Sem.run_bind,run_underlying T.i,vI]
 rw[show(10000:Nat)=9999+1 from I,Instr.checkKey];simp only[Sem.run_bind,run_underlying T.k,Result.andThen_ok];simp only[Std.Legacy.Range.forIn_eq_forIn_range',Std.Legacy.Range.size,H3,Hs,Ek,List.range'_succ,List.range'_zero,List.forIn_cons,List.forIn_nil,E2,F9,E6];simp[Sem.run_bind,T.sz,ZU T,Zo T,C]
theorem WG(T:GV P mt kt et it)(u:Int×Int)(w:AP):∀(es:List MapEntry) (S:List (Int×Int)) (i:Nat),es.map (λx=>(x.key,x.val))=S.map (λu=>(tO u,A2.bool true))->
 (u∈S->∃j,(Instr.findAsking kt (tO u) es i).run P w=.ok (some (j,.bool true)) w)/\(u ∉ S->(Instr.findAsking kt (tO u) es i).run P w=.ok none w)
 |[],S,i,hm=>by
  have:S=[]:=by simpa using hm.symm
  subst this;exact⟨λh=>absurd h Bv,λ_=>by simp[Instr.findAsking]⟩
 |x::es,S,i,hm=>by
  match S,hm with
  |v::S,hm=>
   simp only[Dx,List.cons.injEq,Prod.mk.injEq] at hm;obtain⟨⟨M,J⟩,hm⟩:=hm;have H:=WG T u w es S (i+1) hm;have D:=pv T u v w;unfold Instr.findAsking;rw[M]
   by_cases huv:u=v
   · refine⟨λ_=>⟨i,?_⟩,λh=>absurd (huv▸LB) h⟩
     subst huv;have C:decide (u=u)=true:=by simp
     simp only[Sem.run_bind,D,C,Result.andThen_ok];simp[J]
   · have C:decide (u=v)=false:=by simpa using huv
     refine⟨λh=>?_,λh=>?_⟩
     · obtain⟨j,U⟩:=H.1 ((BY.1 h).resolve_left huv)
       refine⟨j,?_⟩;simp only[Sem.run_bind,D,C,Result.andThen_ok]
       simpa using U
     · simp only[Sem.run_bind,D,C,Result.andThen_ok]
       simpa using H.2 λe=>h (FV _ e)
theorem ar(T:GV P mt kt et it)(u:Int×Int)(w:AP){es:Array MapEntry}{S:List (Int×Int)}(hm:nR es S):
 (u∈S->∃j,(Instr.findKey kt (tO u) es.toList).run P w=.ok (some (j,.bool true)) w)/\(u ∉ S->(Instr.findKey kt (tO u) es.toList).run P w=.ok none w):=by
 have C:=WG T u w es.toList S 0 hm;unfold Instr.findKey;simp only[Sem.run_bind,run_underlying T.k,Result.andThen_ok]
 cases hl:es.toList with
 |nil=>
  rw[hl] at C;refine⟨λh=>?_,λ_=>?_⟩
  · unfold nR at hm
    rw[hl] at hm;have:S=[]:=by simpa using hm.symm
    subst this;exact absurd h Bv
  · simp[Instr.findNow]
 |cons x r=>
  rw[hl] at C;have hx:∃v,x.key=tO v:=by
   unfold nR at hm;rw[hl] at hm
   match S,hm with
   |v::S,hm=>
    simp only[Dx,List.cons.injEq,Prod.mk.injEq] at hm;exact⟨v,hm.1.1⟩
  obtain⟨v,D⟩:=hx;have H:Instr.findNow (.array 2 it) (tO u) (x::r) 0=none:=by
   unfold Instr.findNow;rw[D];simp[Instr.sameNow]
  rw[H];exact C
theorem gn{x y:Ag}{b clock:Nat}{es:Array MapEntry}{S:List (Int×Int)}{u:Int×Int}(T:GV P mt kt et it)(hm:.blk b (.map es clock)∈L)(hx:zK e x=some (.map (some b)))(hy:zK e y=some (tO u))(r:nR es S):
 OpV P n w0 h0 ⟨ds,.lookup mt x y false,ty,ps,af,gd⟩ e L h (vB (u∈S)):=by
 intro a w H St;have C:w.heap[b]?=some (.map es clock):=St.ok _ hm;have D:=ar T u w r;simp only[execOp,H.eval hx,H.eval hy,Instr.lookup];simp only[Sem.run_bind,run_underlying T.m,Result.andThen_ok,sW C,u6 T]
 by_cases hu:u∈S
 · obtain⟨j,J⟩:=D.1 hu
   rw[yU hu];simp[Sem.run_bind,J,sW C,u6 T]
 · rw[yH hu]
   simp[Sem.run_bind,D.2 hu,sW C,u6 T,T.z]
theorem g9{A B:List AG}{x y z:Ag}{b clock:Nat}{es:Array MapEntry}{S:List (Int×Int)}{u:Int×Int}(T:GV P mt kt et it)(hx:zK e x=some (.map (some b)))(hy:zK e y=some (tO u))(hz:zK e z=some (.bool true))(r:nR es S)(hu:u ∉ S):
 ∃es',nR es' (S++[u])/\EH P n w0 h0 ⟨ds,.mapUpdate mt x y z,ty,ps,af,gd⟩ e A (.blk b (.map es clock)) B h (.blk b (.map es' (clock+1))):=by
 refine⟨es.push {key:=tO u,val:=.bool true,born:=clock},?_,?_⟩
 · unfold nR at *
   simp[r]
 · intro a w M St
   have J:w.heap[b]?=some (.map es clock):=St.ok (.blk b (.map es clock)) B9;have U:=(ar T u w r).2 hu;refine⟨{w with heap:=D9 w.heap b (.map (es.push {key:=tO u,val:=.bool true,born:=clock}) (clock+1))},?_,?_,?_⟩
   · simp only[execOp,M.eval hx,M.eval hy,M.eval hz,Instr.mapUpdate]
     simp[Sem.run_bind,run_underlying T.m,sW J,u6 T,U,an _ J]
   · refine⟨I,I,I,B9,λb' Z C=>?_⟩
     have H:b'≠b:=λe=>C (by simp[AG.fp,e]);simp[Ne.symm H]
   · have D:b<w.heap.size:=(Eo.1 J).1
     show(D9 w.heap b _)[b]?=_
     simp[D]
theorem WH{x:Ag}{v w:A2}(h:zK e x=some v)(q:v=w):zK e x=some w:=q▸h
theorem YI{E:Ab}{i:TypeInfo}{z:A2}(hi:P.info? E=some i)(hz:i.zero=some z)(w:AP):(zeroValue E).run P w=.ok z w:=by simp[zeroValue,typeInfo,hi,hz]
theorem ZF{h:A4}{v:A2}{x y:Int}(r:(BO 2 A9).Is h v [x,y]):v=tO (x,y):=by
 obtain⟨cs,⟨_,a,b,rfl,⟨rfl,_⟩,c,d,rfl,⟨rfl,_⟩,e⟩,rfl⟩:=r;rw[show d=[] from e]
 rfl
theorem uf{ops:Array AY}{rest:List AY}{A B:List AG}{x y z:Ag}{b clock:Nat}{es:Array MapEntry}{S:List (Int×Int)}{u:Int×Int}(T:GV P mt kt et it)(hx:zK e x=some (.map (some b)))(hy:zK e y=some (tO u))(hz:zK e z=some (.bool true))(r:nR es S)(hu:u ∉ S)
    (k:∀es',nR es' (S++[u])->GL P n w0 h0 ops Q rest e (A++.blk b (.map es' (clock+1))::B) h):GL P n w0 h0 ops Q (⟨none,.mapUpdate mt x y z,ty,ps,af,none⟩::rest) e (A++.blk b (.map es clock)::B) h:=by
 obtain⟨es',C,hu⟩:=g9 (P:=P) (n:=n) (w0:=w0) (h0:=h0) (h:=h) (ds:=none) (ty:=ty) (ps:=ps) (af:=af) (gd:=none) (A:=A) (B:=B) (clock:=clock) T hx hy hz r hu;exact xY hu I I I (k es' C)
end
end Bk
namespace Bk
open Go Go.RowKit
def k9(w0:AP)(h0:A4)(h:A4)(X:List AG)(G:A4->A2->List AG->Prop):Ending->AP->Prop:=
 gV w0 h0 (λg v K=>∃Qs',(Qs'++X).Sublist K/\MLe h g/\G g v Qs')
section
variable {P:D}{n:Nat}{w0:AP}{h0:A4}{e:List (Nat×A2)}{L:List AG}{h:A4}{Q:BH->Av->AP->Prop}
variable {ty:Ab}{ps:String}{af:Array Edge}
theorem Ph{ops:Array AY}{l:List AY}{A B:List AG}{r:AG}(k':GL P n w0 h0 ops Q l e (A++r::B) h):GL P n w0 h0 ops Q l e (r::(A++B)) h:=
 λa w E S=>k' a w E (S.perm J2.symm)
theorem ip{ops:Array AY}{rest:List AY}{d f:Nat}{xs:List Ag}{ts:Array Ab}{vs:List A2}{Qs X:List AG}{G:A4->A2->List AG->Prop}(hp:L.Perm (Qs++X))(hcall:∀args w,(callFunc f args).run P w=.ok (.enter f args) w)(hvs:pP e xs vs)
    (hc:∀w,St w0 h0 (Qs++X) h w->Calls P f vs.toArray w (k9 w0 h0 h X G))(hn:Nat.ble (d+1) n=true)(k:∀v g Qs',MLe h g->G g v Qs'->GL P n w0 h0 ops Q rest ((d,v)::e) (Qs'++X) g):
    GL P n w0 h0 ops Q (⟨some d,.call {callee:=.value (.func f),args:=Am xs,argTypes:=ts},ty,ps,af,none⟩::rest) e L h:=by
 intro a w D S;refine aK I I I hn hcall hvs hc ?_ a w D (S.perm hp)
 rintro v g K ⟨Qs',H,C,J⟩
 have:=k v g Qs' C J;exactλa w D S=>this a w D (S.sublist H)
end
section
variable {α β:Type}{h:A4}
theorem hU{π:Rp α}{ρ:Rp β}{cs:List A2}{p:α}{v:A2}{xs:List β}(r:(A6 π Az).R h cs (p,v))(k:(AS ρ).Is h v xs):(A6 π (AS ρ)).R h cs (p,xs):=by
 obtain⟨a,b,e,D,C,_⟩:=r;exact⟨a,b,e,D,by rw[show b=[v] from C];exact MJ k⟩
end
end Bk
namespace Bk
open Classical
section
variable {P:List Pt}{x:List Int}{S T:List D7}{u:Nat}
theorem T8(P:List Pt)(x:List Int)(S:List D7):∀n,A1 (DD P x S n)<=A1 S+n
  |0=>by show (A1 S)<=_;omega
  |n+1=>by
   have ih:=T8 P x S n;unfold DD
   split
   · omega
   · rw[BJ]
     show _+1<=_
     omega
theorem Rq{L:List (List Int)}{b:Nat}(hb:∀l,l<A1 L->A1 (A0 L l [])<=b)(P:List Pt)(S:List D7):∀n,n<=A1 L->A1 (H5 P L S n)<=A1 S+n*b
  |0,_=>by show (A1 S)<=_;omega
  |n+1,hn=>by
   have ih:=Rq hb P S n A3;have h1:=T8 P (A0 L n []) (H5 P L S n) (A1 (A0 L n []));have h2:=hb n A3;have h3:(n+1)*b=n*b+b:=IH n b
   show(A1 (DD P (A0 L n []) (H5 P L S n) (A1 (A0 L n []))))<=_
   omega
theorem Sy{s:Sd}(h:CF s):∀n,n<=A1 s.2.1->A1 (Fq s n)<=n*1024
  |0,_=>by show(A1 ([]:List D7))<=_;simp
  |n+1,hn=>by
   have ih:=Sy h n A3;have h0:=h.2.1 n A3;have h1:=Rq h0.2 s.1 (Fq s n) (A1 (A0 s.2.1 n zA).2.1) (B1 _);have h2:A1 (A0 s.2.1 n zA).2.1*64<=16*64:=CP _ h0.1
   show(A1 (H5 s.1 (A0 s.2.1 n zA).2.1 (Fq s n) (A1 (A0 s.2.1 n zA).2.1)))<=_
   omega
theorem d8(hT:T=DD P x S u)(h1:¬(min (A0 x u 0) (A0 x ((u+1)%A1 x) 0),max (A0 x u 0) (A0 x ((u+1)%A1 x) 0))∈T)(h2:¬A0 P (A0 x u 0).toNat zT=A0 P (A0 x ((u+1)%A1 x) 0).toNat zT):T++[(min (A0 x u 0) (A0 x ((u+1)%A1 x) 0),max (A0 x u 0) (A0 x ((u+1)%A1 x) 0))]=DD P x S (u+1):=by
 rw[hT] at h1 ⊢;exact(A8 λe=>e.elim h1 h2).symm
theorem c6(hT:T=DD P x S u)(h1:¬¬(min (A0 x u 0) (A0 x ((u+1)%A1 x) 0),max (A0 x u 0) (A0 x ((u+1)%A1 x) 0))∈T):T=DD P x S (u+1):=by
 rw[hT] at h1 ⊢;exact(AC (.inl (Br h1))).symm
theorem qh(hT:T=DD P x S u)(h2:¬¬A0 P (A0 x u 0).toNat zT=A0 P (A0 x ((u+1)%A1 x) 0).toNat zT):T=DD P x S (u+1):=by
 rw[hT];exact(AC (.inr (Br h2))).symm
theorem t4{E:List (List Pt)}{a b:Int}(hE:E=T.map (FH P)):E++[[A0 P (min a b).toNat zT,A0 P (max a b).toNat zT]]=(T++[(min a b,max a b)]).map (FH P):=by
 rw[hE,FK]
 rfl
end
theorem Jj{α:Type}(d:α){l:List α}{x:α}(h:x∈l):∃i,i<A1 l/\x=A0 l i d:=by
 obtain⟨i,hi,e⟩:=List.mem_iff_getElem.1 h;refine⟨i,hi,?_⟩;rw[<-e,Au,BV hi]
 rfl
theorem pj{s:Sd}(h:CF s):JF (aF s):=by
 refine⟨by rw[Vn];exact h.1.1.2,?_,λf D=>?_⟩
 · show(A1 ((Fq s (A1 s.2.1)).map (FH s.1)))<=_
   rw[Bu];have h1:=Sy h (A1 s.2.1) (B1 _);have h2:=h.1.1.2;omega
 · rw[Vn] at D
   rw[tz D];have h0:=h.2.1 f D;have H:A1 (wG s.1 (A0 s.2.1 f zA).2.1 (A1 (A0 s.2.1 f zA).2.1))=A1 (A0 s.2.1 f zA).2.1:=xN _ _;refine⟨?_,?_,by show(A1 (wG _ _ _))<=_;rw[H];omega,λx hx=>?_⟩
   · have:=x7 (A0 s.2.1 f zA).1.1
     show 0<=((As (A0 s.2.1 f zA).1.1:Nat):Int)/\((As (A0 s.2.1 f zA).1.1:Nat):Int)<3
     omega
   · have:=x7 (A0 s.2.1 f zA).1.1
     show 0<=((At (A0 s.2.1 f zA).1.1:Nat):Int)/\((At (A0 s.2.1 f zA).1.1:Nat):Int)<3
     omega
   · have hx:x∈wG s.1 (A0 s.2.1 f zA).2.1 (A1 (A0 s.2.1 f zA).2.1):=hx
     obtain⟨l,J,rfl⟩:=Jj [] hx;have C:l<A1 (A0 s.2.1 f zA).2.1:=by rw[<-H];exact J
     rw[show A0 (wG s.1 (A0 s.2.1 f zA).2.1 (A1 (A0 s.2.1 f zA).2.1)) l []=FO s.1 (A0 (A0 s.2.1 f zA).2.1 l []) (A1 (A0 (A0 s.2.1 f zA).2.1 l [])) from jB _ _ C,show(A1 (FO s.1 (A0 (A0 s.2.1 f zA).2.1 l []) (A1 (A0 (A0 s.2.1 f zA).2.1 l []))))=_ from xN _ _];have:=h0.2 l C;omega
def Uq(md:Md)(p:Pt):Int:=if Dg md p then 0 else if 0<Do md p then 1 else -1
theorem fb(a b:Rat):-1<=yK a*yK b/\yK a*yK b<=1:=by
 have h1:=yZ a;have h2:=yZ b;have g:∀x y:Int,-1<=x/\x<=1-> -1<=y/\y<=1-> -1<=x*y/\x*y<=1:=λx y hx hy=>by
  have:x= -1\/x=0\/x=1:=by omega
  rcases this with rfl|rfl|rfl<;>omega
 exact g _ _ h1 h2
theorem Ve{q:Rat}:0<yK q↔0<q:=by
 rw[pQ]
 split
 · next h=>subst h;exact⟨λe=>absurd e Aa,λe=>absurd e Aa⟩
 · next h=>
   split
   · next h2=>exact⟨λe=>absurd e Aa,λe=>by grind⟩
   · next h2=>exact⟨λe=>by grind,λe=>by decide⟩
theorem Mx{f:Fm}{p d:Pt}(h:¬HI f p d):I5 f (T3.mk (p.x+(if wL f.1.1 d=0 then 0 else(f.1.2-wL f.1.1 p)/wL f.1.1 d)*d.x) (p.y+(if wL f.1.1 d=0 then 0 else(f.1.2-wL f.1.1 p)/wL f.1.1 d)*d.y) (p.z+(if wL f.1.1 d=0 then 0 else(f.1.2-wL f.1.1 p)/wL f.1.1 d)*d.z))=IB f p d:=by
 have C:¬wL f.1.1 d=0:=λe=>h (.inl (by
  unfold GH;rw[e,show yK 0=0 from AC I];omega))
 rw[A8 C]
 rfl
end Bk
namespace Bk
open Go Go.RowKit
section
variable {P:D}{n:Nat}{w0:AP}{h0:A4}{e:List (Nat×A2)}{L:List AG}{h:A4}{Q:BH->Av->AP->Prop}
theorem to{c:Code}(k:GC P n w0 h0 c (BH.noGoto Q) e L h):GC P n w0 h0 (.scope c) Q e L h:=λa w E S=>wp_scope_straight (k a w E S)
theorem hl{l:Nat}(k:GQ n w0 h0 Q .normal e L h):GC P n w0 h0 (.label l) Q e L h:=λa w E S=>wp_label (k a w E S)
theorem eB(k:GQ n w0 h0 Q .ret e L h):GQ n w0 h0 (BH.noGoto Q) .ret e L h:=k
end
end Bk
namespace Go.Proofs.YtlpflnindligbaaGreat
open Bk Go Tryz
attribute [local irreducible] GL GC GQ W OpV
section
variable{w0:AP}{h0:A4}(hs:MLe h0 (BE w0))
include hs
theorem tc{k m n j:Nat}{vs:A2}{s:Sq}(rs:(BT k m n j).Is h0 vs s){vf:A2}{f:(Pq×((List (List Int))×(List Nat)))}(rf:(BP m n).Is h0 vf f)(H0:∀u v,u<A1 f.2.1->v<A1 (A0 f.2.1 u [])->0<=A0 (A0 f.2.1 u []) v 0/\A0 (A0 f.2.1 u []) v 0<A1 s.1)(H1:A1 s.1<=100000)(H2:∀u,u<A1 f.2.1->A1 (A0 f.2.1 u [])<=10000)(H3:A1 f.2.1<=10000):
 Ae 140 #[vs,vf] w0 h0 (λ_ r=>r=vB (True)):=by
 refine B0 33 vs vf func140 hs ?_;refine A5 ?_;refine nB rs λb2 ac ah=>(nB rf λb3 ab ae=>(Af ?_));refine lX (xB cM (AQ (AT pH)) ae) λH an=>(AR ?_);refine An (ι:=Nat×A4) (λ(l,M)=>(MLe h0 M/\(l<=A1 f.2.1),[(2,vP b2 0),(10,H),(11,vI (↑(A1 (f.2.1)):Int)),(12,vI ↑l)],[.var b3 53 ab,.var b2 32 ac],M,A1 f.2.1-l)) (0,h0) ?_ ?_
 · exact⟨AM,O⟩
 rintro⟨l,M⟩ ⟨aq,C⟩
 refine yO ?_;have bc:=C;refine Ba (λaa=>?_) λaa=>?_
 ·
  refine AZ ?_;refine lX (xI [] l underlying51 fH an) λax am=>(lX (xA fH am) λad ak=>(uG ?_));refine An (ι:=Nat×A4) (λ(u,J)=>(MLe M J/\(u<=A1 (A0 f.2.1 l [])),[(2,vP b2 0),(10,H),(11,vI (↑(A1 (f.2.1)):Int)),(12,vI ↑l),(16,ad),(17,vI (↑(A1 ((A0 f.2.1 l []))):Int)),(18,vI ↑u)],[.var b3 53 ab,.var b2 32 ac],J,A1 (A0 f.2.1 l [])-u)) (0,M) ?_ ?_
  · exact⟨AM,O⟩
  rintro⟨u,J⟩ ⟨ap,C⟩
  refine yO ?_;have az:=C;have bd:=H2 l O;refine Ba (λZ=>?_) λZ=>?_
  ·
   obtain⟨bb,ba⟩:=H0 l u O O;refine AZ ?_;refine lX (xI (0:Int) u underlying22 B8 ak) λaw aj=>(lX (xA B8 aj) λav ai=>?_);obtain⟨rfl,ar,ao⟩:=jV ai;refine Af ?_;refine gU 7 30 (vB (((A0 (A0 f.2.1 l []) u (0:Int))<(0:Int))\/((↑(A1 (s.1)):Int)<=(A0 (A0 f.2.1 l []) u (0:Int))))) ?_ ?_
   ·
    refine zY ((A0 (A0 f.2.1 l []) u (0:Int))<(0:Int)) (λU=>?_) (λU=>?_)
    ·
     refine gT U I (Af ?_);refine Ay ?_;exact AV (vN U)
    refine gF U I (AR ?_);refine lX (xB uN (AT pH) ah) λau ay=>(AZ ?_);refine Ay ?_;exact AV (vO U)
   refine BB (λD=>?_) λD=>?_
   · exact absurd D O
   refine Af ?_;refine Ad ((u+1),J) ?_ ?_
   · exact⟨AM,O⟩
   omega
  refine vV ?_;refine Ad ((l+1),J) ?_ ?_
  · exact⟨AM,O⟩
  omega
 refine uG ?_;refine zC I I ?_;exact(yU trivial).symm
theorem dW{k m n j:Nat}{vs:A2}{s:Sq}(rs:(BT k m n j).Is h0 vs s){vf:A2}{f:(Pq×((List (List Int))×(List Nat)))}(rf:(BP m n).Is h0 vf f)(H0:∀u v,u<A1 f.2.1->v<A1 (A0 f.2.1 u [])->0<=A0 (A0 f.2.1 u []) v 0/\A0 (A0 f.2.1 u []) v 0<A1 s.1)(H1:A1 s.1<=100000)(H2:∀u,u<A1 f.2.1->A1 (A0 f.2.1 u [])<=10000)(H3:A1 f.2.1<=10000):
 Ae 117 #[vs,vf] w0 h0 (λh r=>(C1 (k+1)).Is h r (wG s.1 f.2.1 (A1 f.2.1))):=by
 refine B0 39 vs vf func117 hs ?_;refine A5 ?_;refine nB rs λb2 aw bb=>(nB rf λb3 av ba=>(uF ?_));refine lX (xB cM (AQ (AT pH)) ba) λad bj=>(AR ?_);refine yX 28 1 ?_;have ai:=RL.nil (ρ:=AS (AD (k+1))) (h:=h0);refine An (ι:=Nat×List (List Tq)×A2×List A2×A4) (λ(l,D,C,H,ma)=>(MLe h0 ma/\(RL (Aq (k+1)) ma H D/\l<=A1 f.2.1/\D=wG s.1 f.2.1 l),[(2,vP b2 0),(5,C),(12,ad),(13,vI (↑(A1 (f.2.1)):Int)),(14,vI ↑l)],[.gs 28 1 C (A1 D) H,.var b3 53 av,.var b2 32 aw],ma,A1 f.2.1-l)) (0,[],(.slice none 0 0),[],h0) ?_ ?_
 · exact⟨AM,ai,A3,I⟩
 rintro⟨l,D,C,H,ma⟩ ⟨bm,Z,cg,hD⟩
 refine yO ?_;have ck:A1 D=l:=by rw[hD];exact xN _ _
 refine Ba (λaq=>?_) λaq=>?_
 ·
  refine AZ ?_;refine lX (xI [] l underlying51 fH bj) λbx bi=>(lX (xA fH bi) λaz bh=>(nH ?_));refine yX 43 9 ?_;have ah:=RL.nil (ρ:=Bd (AE (k+1))) (h:=ma);refine An (ι:=Nat×List Tq×A2×List A2×A4) (λ(u,E,J,M,mb)=>(MLe ma mb/\(RL (AD (k+1)) mb M E/\u<=A1 (A0 f.2.1 l [])/\E=FO s.1 (A0 f.2.1 l []) u),[(2,vP b2 0),(5,C),(8,J),(12,ad),(13,vI (↑(A1 (f.2.1)):Int)),(14,vI ↑l),(18,az),(19,vI (↑(A1 ((A0 f.2.1 l []))):Int)),(20,vI ↑u)],[.gs 43 9 J (A1 E) M,.gs 28 1 C (A1 D) H,.var b3 53 av,.var b2 32 aw],mb,A1 (A0 f.2.1 l [])-u)) (0,[],(.slice none 0 0),[],ma) ?_ ?_
  · exact⟨AM,ah,A3,I⟩
  rintro⟨u,E,J,M,mb⟩ ⟨bl,U,cd,hE⟩
  refine yO ?_;have cj:A1 E=u:=by rw[hE];exact xN _ _
  have ci:=H2 l O;refine Ba (λap=>?_) λap=>?_
  ·
   obtain⟨cf,ce⟩:=H0 l u O O;refine AZ ?_;refine lX (xI (0:Int) u underlying22 B8 bh) λbw bg=>(lX (xA B8 bg) λbv bf=>?_);obtain⟨rfl,bn,bk⟩:=jV bf;refine AZ ?_;refine lX (xB uN (AT pH) bb) λbu be=>(A7 ?_);refine lX (xI zT ((A0 (A0 f.2.1 l []) u 0).toNat) underlying28 zI be) λbt bd=>(lX (xA zI bd) λbs bc=>(zE (zL (ρ:=(AD (k+1))) (m:=1) (xs:=[(A0 s.1 ((A0 (A0 f.2.1 l []) u 0).toNat) zT)]) (ps':=[(0,_)]) underlying28 yA I I I (yN (zR O)) Al (zD I (AO (AA _) zT 0 dC) (bc.le (AI (k+1))) zO) Dm nP) I I I ?_))
   rintro br cc ⟨bp,rfl,an⟩
   refine zQ (A:=[]) (ρ:=(AD (k+1))) an ?_;intro h1 ao ae;refine yY (A:=[]) (zN (ρ:=(AD (k+1))) (bytes:=168) underlying28 yA I I I I nP I I U.up ae bO bO) I I I ?_
   rintro ay cb ⟨au,rfl,am⟩
   refine AX ?_;refine Ad ((u+1),(E++[(A0 s.1 ((A0 (A0 f.2.1 l []) u 0).toNat) zT)]),ay,au,h1) ?_ ?_
   · exact⟨AM,am,A3,by rw[hE];rfl⟩
   omega
  have eu:u=A1 (A0 f.2.1 l []):=by omega
  refine AX ?_;refine zQ (A:=[]) (ρ:=(AD (k+1))) U.up ?_;intro h1 ao ac;refine zE (zL (ρ:=(Aq (k+1))) (m:=1) (xs:=[E]) (ps':=[(0,_)]) underlying61 fW I I I wC Al (zD I (AO (AA _) [] 0 dC) ac zO) CO nP) I I I ?_
  rintro bq ca ⟨bo,rfl,ak⟩
  refine zQ (A:=[]) (ρ:=(Aq (k+1))) ak ?_;intro h2 ch ab;refine yY (A:=[]) (zN (ρ:=(Aq (k+1))) (bytes:=24) underlying61 fW I I I I nP I I Z.up ab bO bO) I I I ?_
  rintro ax bz ⟨ar,rfl,aj⟩
  refine AX ?_;refine Ad ((l+1),(D++[E]),ax,ar,h2) ?_ ?_
  · exact⟨AM,aj,A3,by rw[hD,hE,eu];rfl⟩
  omega
 have el:l=A1 f.2.1:=by omega
 refine uF ?_;refine xR (A:=[]) (ρ:=(Aq (k+1))) Z.up ?_;intro h1 ao aa;refine zC I I ?_;exact(Rp.Is.cast aa (by rw[hD,el]))
theorem UD{m n k j:Nat}{vf:A2}{f:(Pq×((List (List Tq))×(Int×Int)))}(rf:(A6 (Aj m n) (A6 (C1 k) (A6 A9 A9))).Is h0 vf f){vp:A2}{p:Tq}(rp:(AD j).Is h0 vp p)(H0:k<=50000000)(H1:j<=50000000)(H2:TL f):
 Ae 200 #[vf,vp] w0 h0 (λ_ r=>r=vI (I5 f p)):=by
 obtain⟨M,BA⟩:∃M:Nat,f.2.2.1=↑M:=⟨f.2.2.1.toNat,by have:=H2.1;omega⟩;obtain⟨J,H⟩:∃J:Nat,f.2.2.2=↑J:=⟨f.2.2.2.toNat,by have:=H2.2.1;omega⟩;have C:=H2;unfold TL at C;rw[BA,H] at C;refine B0 13 vf vp func200 hs ?_;refine A5 ?_;refine nB rf λb2 am D=>(nB rp λb3 ak Z=>(AZ ?_));refine lX (xB R5 (AQ (AT pH)) D) λv6 r6=>(lX (xB zI pH Z) λv7 r7=>(A7 ?_));refine lX (xB B8 (AQ (AQ (AT pH))) D) λv9 r9=>?_;obtain⟨rfl,ai,ah⟩:=jV r9;refine A7 ?_;refine lX (xB B8 (AQ (AQ (AQ pH))) D) λae ab=>?_;obtain⟨rfl,ad,ac⟩:=jV ab;rw[BA,H];refine cL (IL I I I I) call126 (λw hs=>Uy (i:=M) (j:=J) hs (r6.le (Le.s (Le.s (AI (j+k))))) (r7.le (AI (j+k))) O O O (by first|omega|exact C.2.2.2|exact C.2.2.1) (by first|omega|exact C.2.2.2|exact C.2.2.1)) λU h1 aj aa=>?_;obtain rfl:U=vI (Hi f.2.1 (pr p M J) M J):=aa;refine AF ?_;refine zC I I ?_;unfold I5;rw[BA,H];rfl
theorem rl{k l j:Nat}{vx:A2}{x:(Tq×(Tq×Prop))}(rx:(A6 (AD k) (A6 (AD l) DE)).Is h0 vx x){vd:A2}{d:Tq}(rd:(AD j).Is h0 vd d)(H0:k<=100000000)(H1:l<=100000000)(H2:j<=1000000):
 Ae 239 #[vx,vd] w0 h0 (λ_ r=>r=vB (Fo x d)):=by
 refine B0 18 vx vd func239 hs ?_;refine A5 ?_;refine nB rx λb2 ap C=>(nB rd λb3 ao M=>(Af ?_));refine lX (xB QB (AQ (AQ pH)) C) λv6 r6=>?_;obtain rfl:=Qg r6;refine BB (λJ=>?_) λJ=>?_
 ·
  refine AN ?_;refine lX (xB zI (AQ (AT pH)) C) λv8 r8=>(lX (xB zI pH M) λv9 r9=>(cL (AK I I) call180 (λw hs=>Pe hs r8 r9 O) λan h1 ai H=>?_));replace H:=Rp.Is.le H (AI (2*j+2*l+3));refine cL (AU I) call181 (λw hs=>SY hs H O) λZ h2 ah ad=>?_;obtain rfl:Z=vB ((xS x.2.1 d)=zT):=ad;refine AR ?_;refine zC I I ?_;exact qQ (by unfold Fo;rw[AC J])
 refine AR ?_;refine lX (xB zI (AT pH) C) λam ac=>(lX (xB zI pH M) λak ab=>(cL (AK I I) call84 (λw hs=>mD hs ac ab O) λaj h1 ai D=>?_));replace D:=Rp.Is.le D (AL (3*j+3*k+9));refine cL (AU I) call85 (λw hs=>kV hs D O) λU h2 ah aa=>?_;obtain rfl:U=vI (yK (wL x.1 d)):=aa;have ae:=yZ (wL x.1 d);refine AR ?_;refine zC I I ?_;exact qQ (by unfold Fo;rw[A8 J];exact Lw)
theorem so{k m n j:Nat}{vs:A2}{s:Sq}(rs:(BT k m n j).Is h0 vs s){vf:A2}{f:(Pq×((List (List Int))×(List Nat)))}(rf:(BP m n).Is h0 vf f)(H0:∀u v,u<A1 f.2.1->v<A1 (A0 f.2.1 u [])->0<=A0 (A0 f.2.1 u []) v 0/\A0 (A0 f.2.1 u []) v 0<A1 s.1)(H1:A1 s.1<=100000)(H2:∀u,u<A1 f.2.1->A1 (A0 f.2.1 u [])<=10000)(H3:A1 f.2.1<=10000):
 Ae 115 #[vs,vf] w0 h0 (λ_ r=>r=vB (True)):=by
 refine B0 33 vs vf func115 hs ?_;refine A5 ?_;refine nB rs λb2 ac ah=>(nB rf λb3 ab ae=>(Af ?_));refine lX (xB cM (AQ (AT pH)) ae) λD an=>(AR ?_);refine An (ι:=Nat×A4) (λ(l,J)=>(MLe h0 J/\(l<=A1 f.2.1),[(2,vP b2 0),(10,D),(11,vI (↑(A1 (f.2.1)):Int)),(12,vI ↑l)],[.var b3 53 ab,.var b2 32 ac],J,A1 f.2.1-l)) (0,h0) ?_ ?_
 · exact⟨AM,O⟩
 rintro⟨l,J⟩ ⟨aq,M⟩
 refine yO ?_;have bc:=M;refine Ba (λaa=>?_) λaa=>?_
 ·
  refine AZ ?_;refine lX (xI [] l underlying51 fH an) λax am=>(lX (xA fH am) λad ak=>(uG ?_));refine An (ι:=Nat×A4) (λ(u,H)=>(MLe J H/\(u<=A1 (A0 f.2.1 l [])),[(2,vP b2 0),(10,D),(11,vI (↑(A1 (f.2.1)):Int)),(12,vI ↑l),(16,ad),(17,vI (↑(A1 ((A0 f.2.1 l []))):Int)),(18,vI ↑u)],[.var b3 53 ab,.var b2 32 ac],H,A1 (A0 f.2.1 l [])-u)) (0,J) ?_ ?_
  · exact⟨AM,O⟩
  rintro⟨u,H⟩ ⟨ap,az⟩
  refine yO ?_;have bd:=H2 l O;refine Ba (λZ=>?_) λZ=>?_
  ·
   obtain⟨bb,ba⟩:=H0 l u O O;refine AZ ?_;refine lX (xI (0:Int) u underlying22 B8 ak) λaw aj=>(lX (xA B8 aj) λav ai=>?_);obtain⟨rfl,ar,ao⟩:=jV ai;refine Af ?_;refine gU 7 30 (vB (((A0 (A0 f.2.1 l []) u (0:Int))<(0:Int))\/((↑(A1 (s.1)):Int)<=(A0 (A0 f.2.1 l []) u (0:Int))))) ?_ ?_
   ·
    refine zY ((A0 (A0 f.2.1 l []) u (0:Int))<(0:Int)) (λU=>?_) (λU=>?_)
    ·
     refine gT U I (Af ?_);refine Ay ?_;exact AV (vN U)
    refine gF U I (AR ?_);refine lX (xB uN (AT pH) ah) λau ay=>(AZ ?_);refine Ay ?_;exact AV (vO U)
   refine BB (λC=>?_) λC=>?_
   · exact absurd C O
   refine Af ?_;refine Ad ((u+1),H) ?_ ?_
   · exact⟨AM,O⟩
   omega
  refine vV ?_;refine Ad ((l+1),H) ?_ ?_
  · exact⟨AM,O⟩
  omega
 refine uG ?_;refine zC I I ?_;exact(yU trivial).symm
theorem VV{k:Nat}{vp:A2}{p:Tq}(rp:(AD k).Is h0 vp p)(H0:k<=2000000000):
 Ae 109 #[vp] w0 h0 (λh r=>(AD (k+1)).Is h r p):=by
 refine BI 13 vp func109 hs ?_;refine A5 ?_;refine nB rp λb1 an C=>(nA (ρ:=(AD (k+1))) (X:=zT) yA (yN (zR O)) λb2 am M=>(AN ?_));refine zG 10 _ [] [(0,.q),(1,.q),(3,.q),(4,.q),(6,.q),(7,.q),(2,.c),(5,.c),(8,.c),(9,.q),(10,.t)] zX nX Ac nX (λr hr=>hr) (A7 ?_);refine wX I (xB zU (BL pH) C) λv4 r4=>(A7 ?_);refine wX I (xB zU (BC pH) C) λv7 r7=>(A7 ?_);refine wX I (xB zU (Bi pH) C) λah aa=>?_;refine AB I (sC (AU I) call110 (λw hs=>lJ hs r4 O) λv5 h1 ak r5=>?_);refine AB I (sC (AU I) call110 (λw hs=>lJ hs r7.up O) λv8 h2 aj r8=>?_);refine AB I (sC (AU I) call110 (λw hs=>lJ hs aa.up O) λae h3 ai Z=>(wX I (xV (ρ:=(AD (k+1))) (xD (ps':=[(0,_),(1,_),(2,_)]) underlying43 yA I I sizeOf41 e6 I (yN (zR O)) (zD I (BL (AA _)) (r5.up.le (AL (k+1))) (zD I (BC (AA _)) (r8.up.le (AL (k+1))) (zD I (Bi (AA _)) (Z.le (AL (k+1))) zO))))) λad U=>(yD (A:=[]) I (uB sizeOf43 pH M U) λab J=>(AN ?_))));refine xW (qV (t:=2) zI Ar I J) ?_;intro ac D H;refine yI (λE S=>zS I D E S) ?_;exact H
theorem ck{k:Nat}{vl:A2}{l:(List Tq)}(rl:(Aq k).Is h0 vl l)(H0:k<=1000000000)(H1:A1 l<=100000):
 Calls prog 229 #[vl,vF 109 []] w0 (Bh w0 h0 (λh r=>(Aq (k+2)).Is h r l)):=by
 have ba:=G6 rl;refine B0 28 vl (vF 109 []) func229 hs ?_;refine Ak ?_;refine gv (eM underlying28 I (SA rl)) I (BB (λae=>?_) λae=>?_)
 ·
  have ac:=R2 rl nP ae;refine Af ?_;refine zC I I ?_;exact(Rp.Is.cast (tP _) (by exact ac.symm))
 refine AZ ?_;refine zE (lK (ρ:=(AD (k+2))) (X:=zT) (by':=168) (A1 l) underlying28 yA I I I I (yN (zR O)) I I B5 B5 O O) I I I ?_
 rintro ak az ⟨aj,rfl,aa⟩
 refine uF ?_;refine An (ι:=Nat×List Tq×A2×List A2×A4) (λ(i,OU,C,D,ma)=>(MLe h0 ma/\(RL (AD (k+2)) ma D OU/\(i<=A1 l/\A1 OU=A1 l)/\∀u,u<i->A0 OU u zT=A0 l u zT),[(1,vF 109 []),(5,C),(13,vl),(14,vI (↑(A1 (l)):Int)),(15,vI ↑i)],[.gs 43 9 C (A1 OU) D],ma,A1 l-i)) (0,(List.replicate (A1 l) zT),ak,aj,h0) ?_ ?_
 · exact⟨AM,aa,⟨A3,Hu⟩,λu h=>by omega⟩
 rintro⟨i,OU,C,D,ma⟩ ⟨ar,H,⟨bb,BA⟩,ad⟩
 refine yO ?_;refine Ba (λah=>?_) λah=>?_
 ·
  refine Af ?_;refine lX (xI zT i underlying28 zI rl) λay ap=>(lX (xA zI ap) λax ao=>(nA (ρ:=(AD (k+1))) (X:=zT) yA (yN (zR O)) λb7 bc am=>(A7 ?_)));refine zP (A:=[]) (uB sizeOf43 pH am (ao.le (AI (k+1)))) λau ab=>(AZ ?_);refine lX (xB zI pH ab) λaw an=>(oJ (sH (vs:=[_]) call109 I ⟨I,AW⟩) I I I (λw hs=>VV hs an O) ?_);intro av h1 aq U;replace U:=Rp.Is.le U (AI (k+2));refine gv ((yG i Ax underlying28 sizeOf43 I I I bO nP).cv (show _=zH 1 C ((i*9+0)) from AJ (zH 1 C) B5)) I (kQ (A:=[_]) (F:=λc_=>RL (AD (k+2)) h1 c_ (OU.set i (A0 l i zT))) (tD sizeOf43 (AO (AA _) zT i bO) I nP I I H.up U I) ?_);intro Z M;refine Af ?_;refine yE (A:=[]) ?_;refine Ad ((i+1),(OU.set i (A0 l i zT)),C,Z,h1) ?_ ?_
  · exact⟨AM,M,⟨A3,by rw[lS];exact BA⟩,MI (f:=λu=>A0 l u zT) O ad I⟩
  omega
 have ai:=Re BA (λu hu=>ad u O);refine uF ?_;refine xR (A:=[]) (ρ:=(AD (k+2))) H.up ?_;intro h1 aq J;refine zC I I ?_;exact(Rp.Is.cast J (by exact ai))
theorem VY{k:Nat}{vl:A2}{l:(List Tq)}(rl:(Aq k).Is h0 vl l)(H0:k<=1000000000)(H1:A1 l<=100000):
 Ae 179 #[vl] w0 h0 (λh r=>(Aq (k+2)).Is h r l):=by
 refine BI 5 vl func179 hs ?_;refine AX ?_;refine cL (AK I I) call229 (λw hs=>ck hs rl O O) λv4 h1 C r4=>(AF ?_);refine zC I I ?_;exact r4
theorem ge{k:Nat}{vl:A2}{l:(List (List Tq))}(rl:(C1 k).Is h0 vl l)(H0:k<=1000000000)(H1:A1 l<=100000)(H2:∀x,x∈l->A1 x<=100000):
 Calls prog 178 #[vl,vF 179 []] w0 (Bh w0 h0 (λh r=>(C1 (k+2)).Is h r l)):=by
 have aw:=G6 rl;refine B0 28 vl (vF 179 []) func178 hs ?_;refine Ak ?_;refine gv (eM underlying61 I (SA rl)) I (BB (λad=>?_) λad=>?_)
 ·
  have ab:=R2 rl nP ad;refine Af ?_;refine zC I I ?_;exact(Rp.Is.cast (tP _) (by exact ab.symm))
 refine AZ ?_;refine zE (lK (ρ:=(Aq (k+2))) (X:=[]) (by':=24) (A1 l) underlying61 fW I I I I wC I I B5 B5 O O) I I I ?_
 rintro aj av ⟨ai,rfl,aa⟩
 refine uF ?_;refine An (ι:=Nat×List (List Tq)×A2×List A2×A4) (λ(i,Z,C,D,ma)=>(MLe h0 ma/\(RL (Aq (k+2)) ma D Z/\(i<=A1 l/\A1 Z=A1 l)/\∀u,u<i->A0 Z u []=A0 l u []),[(1,vF 179 []),(5,C),(13,vl),(14,vI (↑(A1 (l)):Int)),(15,vI ↑i)],[.gs 28 1 C (A1 Z) D],ma,A1 l-i)) (0,(List.replicate (A1 l) []),aj,ai,h0) ?_ ?_
 · exact⟨AM,aa,⟨A3,Hu⟩,λu h=>by omega⟩
 rintro⟨i,Z,C,D,ma⟩ ⟨ap,H,⟨ax,BA⟩,ac⟩
 refine yO ?_;refine Ba (λae=>?_) λae=>?_
 ·
  refine Af ?_;refine lX (xI [] i underlying61 uN rl) λau an=>(lX (xA uN an) λar am=>(Ak ?_));refine oJ (sH (vs:=[_]) call179 I ⟨I,AW⟩) I I I (λw hs=>VY hs am O (by first|omega|exact(Ui O Bl))) ?_;intro aq h1 ao ak;refine gv ((yG i Ar underlying61 sizeOf28 I I I bO nP).cv (show _=zH 1 C ((i*1+0)) from AJ (zH 1 C) B5)) I (kQ (A:=[]) (F:=λc_=>RL (Aq (k+2)) h1 c_ (Z.set i (A0 l i []))) (tD sizeOf28 (AO (AA _) [] i bO) I nP I I H.up ak I) ?_);intro U M;refine Af ?_;refine Ad ((i+1),(Z.set i (A0 l i [])),C,U,h1) ?_ ?_
  · exact⟨AM,M,⟨A3,by rw[lS];exact BA⟩,MI (f:=λu=>A0 l u []) O ac I⟩
  omega
 have ah:=Re BA (λu hu=>ac u O);refine uF ?_;refine xR (A:=[]) (ρ:=(Aq (k+2))) H.up ?_;intro h1 ao J;refine zC I I ?_;exact(Rp.Is.cast J (by exact ah))
theorem cz{k:Nat}{vL:A2}{L:(List (List Tq))}(rL:(C1 k).Is h0 vL L)(H0:k<=1000000000)(H1:A1 L<=100000)(H2:∀x,x∈L->A1 x<=100000):
 Ae 116 #[vL] w0 h0 (λh r=>(C1 (k+2)).Is h r L):=by
 refine BI 5 vL func116 hs ?_;refine AX ?_;refine cL (AK I I) call178 (λw hs=>ge hs rL O DK DK) λv4 h1 C r4=>(AF ?_);refine zC I I ?_;exact r4
theorem Uo{m l k:Nat}{vs:A2}{s:Pq}(rs:(Aj m l).Is h0 vs s){vp:A2}{p:Tq}(rp:(AD k).Is h0 vp p)(H0:k<=100000000)(H1:l<=100000000)(H2:m<=100000000):
 Ae 253 #[vs,vp] w0 h0 (λh r=>(AE (3*k+l+3*m+12)).Is h r (Cr s p)):=by
 refine B0 12 vs vp func253 hs ?_;refine A5 ?_;refine nB rs λb2 am M=>(nB rp λb3 ak Z=>(nA (ρ:=(AE (3*k+l+3*m+12))) (X:=(0:Rat)) yQ (zR O) λb4 aj U=>(AN ?_)));refine zG 7 _ [] [(0,.q),(1,.q),(2,.q),(4,.q),(5,.q),(3,.c),(6,.c),(7,.t)] zX nX Ac nX (λr hr=>hr) (A7 ?_);refine wX I (xB zI (AT pH) M) λv6 r6=>(wX I (xB zI pH Z) λv7 r7=>(A7 ?_));refine wX I (xB zU (AQ pH) M) λae aa=>?_;refine AB I (sC (AK I I) call84 (λw hs=>mD hs r6 r7 O) λv8 h1 ai r8=>?_);replace r8:=Rp.Is.le r8 (AL (3*k+3*m+9));refine AB I (sC (AK I I) call83 (λw hs=>jM hs r8 aa.up O) λad h2 ah J=>?_);replace J:=Rp.Is.le J (AL (3*k+l+3*m+10));refine yD (A:=[]) I (uB sizeOf41 pH U (J.le (AL (3*k+l+3*m+12)))) λab H=>(AN ?_);refine xW (qV (t:=4) zU Ar I H) ?_;intro ac C D;refine yI (λE S=>zS I C E S) ?_;exact D
theorem hp{m l k:Nat}{vs:A2}{s:Pq}(rs:(Aj m l).Is h0 vs s){vp:A2}{p:Tq}(rp:(AD k).Is h0 vp p){vq:A2}{q:Tq}(rq:(AD k).Is h0 vq q)(H0:k<=60000000)(H1:l<=1000000)(H2:m<=1000000):
 Ae 230 #[vs,vp,vq] w0 h0 (λh r=>(AD (12*k+3*l+9*m+50)).Is h r (DL s p q)):=by
 refine Cs 32 vs vp vq func230 hs ?_;refine A5 ?_;refine nB rs λb3 cn aj=>(nB rp λb4 cm ab=>(nB rq λb5 cl ai=>(nA (ρ:=(AD (12*k+3*l+9*m+50))) (X:=zT) yA (yN (zR O)) λb6 ck ao=>(AN ?_))))
 let eX0:List A2:=[.bool false,.slice none 0 0,.slice none 0 0]
 refine zG 8 _ [(6,(7,41,eX0)),(7,(8,41,eX0))] [(0,.q),(1,.q),(3,.q),(4,.q),(2,.c),(5,.c),(6,.a),(7,.a),(8,.t),(9,.t)] zX (uY.cons I I (vG yQ I I) (uY.cons I I (vG yQ I I) uY.nil)) Ac (vH I I (vH I I qT)) (λr hr=>hr) (wX I (xB qZ pH aj) λcc be=>(wX I (xB zI pH ab) λcb bd=>(wX I (xB qZ pH aj) λbz bb=>(wX I (xB zI pH ai) λbx ba=>?_))));refine AB I (sC (AK I I) call253 (λw hs=>Uo hs be bd O O O) λca h1 cj bc=>?_);refine AB I (sC (AK I I) call253 (λw hs=>Uo hs bb.up ba.up O O O) λbw h2 ci az=>?_);refine CA I I (λb7=>?_);have an:(AE (3*k+l+3*m+12)).R h2 eX0 (0:Rat):=(zR O);refine CA I I (λb8=>?_);have am:(AE (3*k+l+3*m+12)).R h2 eX0 (0:Rat):=(zR O);refine yD (A:=[_]) I (uB sizeOf41 pH an bc) λbi D=>(yD (A:=[]) I (uB sizeOf41 pH am az) λbh aa=>(AN ?_));refine zG 11 _ [(8,(9,41,eX0))] [(0,.q),(1,.q),(2,.q),(3,.c),(4,.c),(5,.q),(6,.q),(7,.q),(8,.a),(9,.c),(10,.q)] zX (uY.cons I I (vG yQ I I) uY.nil) Ac (vH I I qT) (λr hr=>hr) (wX I (xB zU pH D) λbv ay=>(wX I (xB zU pH D) λbu ax=>(wX I (xB zU pH aa) λbt aw=>?_)));refine AB I (sC (AK I I) call83 (λw hs=>jM hs ax aw O) λbs h3 ch ah=>?_);replace ah:=Rp.Is.le ah (AL (6*k+2*l+6*m+25));refine AB I (sC (AK I I) call82 (λw hs=>oF hs ay.up ah O) λbr h4 cg av=>?_);obtain⟨J,rfl,C⟩:=av
 change (AE ((3*k+l+3*m+12)+(6*k+2*l+6*m+25))).Is h4 J (if((Cr s p)-(Cr s q))=0 then 0 else(Cr s p)/((Cr s p)-(Cr s q))) at C
 replace C:=Rp.Is.le C (AL (9*k+3*l+9*m+37));refine AN ?_;refine CA I I (λb9=>?_);have ak:(AE (9*k+3*l+9*m+40)).R h4 eX0 (0:Rat):=(zR O);refine AB I (kB (A:=[]) (uB sizeOf41 pH ak (C.le (AL (9*k+3*l+9*m+40)))) (yP BU) λbg Z=>(AF ?_));refine zG 7 _ [] (Ah 0 4 [(4,.c),(5,.c),(6,.c),(7,.t)]) zX nX Ac nX (λr hr=>hr) (wX I (xB zI pH ab) λbq au=>(wX I (xB zU pH Z) λbp ar=>(wX I (xB zI pH ai) λbo aq=>(wX I (xB zI pH ab) λbn ap=>?_))));refine AB I (sC (AK I I) call92 (λw hs=>eR hs aq ap O) λbm h5 cf ae=>?_);replace ae:=Rp.Is.le ae (AI (2*k+2));refine AB I (sC (AK I I) call90 (λw hs=>bJ hs ar.up ae O) λbl h6 ce ad=>?_);replace ad:=Rp.Is.le ad (AI (11*k+3*l+9*m+44));refine AB I (sC (AK I I) call91 (λw hs=>Lx hs au.up ad O) λbk h7 cd ac=>?_);replace ac:=Rp.Is.le ac (AI (12*k+3*l+9*m+46));refine yD (A:=[_,_,_]) I (uB sizeOf43 pH ao (ac.le (AI (12*k+3*l+9*m+50)))) λbf U=>(AN ?_);refine xW (qV (t:=6) zI DT I U) ?_;intro bj H M;refine yI (λE S=>zS I H E S) ?_;exact M
end
end Go.Proofs.YtlpflnindligbaaGreat
namespace Bk
open Classical
def EO(a b c:Pt):Pt:=xS (qX b a) (qX c a)
def CU(a b c:Pt):Pl:=if EO a b c=zT then FZ else(EO a b c,wL (EO a b c) a)
def Px(a b c:Pt):Int:=if EO a b c=zT then 9 else 0
theorem WD{a b c:Pt}(h:EO a b c=zT):CU a b c=FZ/\Px a b c=9:=⟨AC h,AC h⟩
theorem Kw{a b c:Pt}(h:¬EO a b c=zT):CU a b c=(EO a b c,wL (EO a b c) a)/\Px a b c=0:=⟨A8 h,A8 h⟩
def CZ(pl:Pl):Pl:=(T3.mk (((-1:Int):Rat)*pl.1.x) (((-1:Int):Rat)*pl.1.y) (((-1:Int):Rat)*pl.1.z),-pl.2)
section
variable (l:List Pt)(t:Pt)
def ui(i:Nat):Fc:=(CU (A0 l i zT) (A0 l ((i+1)%A1 l) zT) t,[[(i:Int),(((i+1)%A1 l:Nat):Int),(A1 l:Int)]],[115]++qF (((i:Int):Int):Rat))
def YJ:Nat->List Fc:=qB (ui l t)
def Z4(n:Nat):Nat->List Int:=qB λi=>(n:Int)-1-(i:Int)
def np:Fc:=(CZ (CU (A0 l 0 zT) (A0 l 1 zT) (A0 l 2 zT)),[Z4 (A1 l) (A1 l)],[98,97,115,101])
def DY:Sd:=(l++[t],YJ l t (A1 l)++[np l],[])
def PA:Prop:=((3<=A1 l/\A1 l<=64)/\¬EO (A0 l 0 zT) (A0 l 1 zT) (A0 l 2 zT)=zT)/\(IV (CU (A0 l 0 zT) (A0 l 1 zT) (A0 l 2 zT)) l/\0<B7 (CU (A0 l 0 zT) (A0 l 1 zT) (A0 l 2 zT)) t)/\CF (DY l t)
end
end Bk
