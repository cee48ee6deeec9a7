/- Texts that the proof needs, part 6. -/
import Derived.Test.YtboaboflnckgoaaGreatK5
namespace Go.Proofs.YtboaboflnckgoaaGreat
open Bk Go Tryz
set_option linter.unusedVariables false
set_option linter.unusedSimpArgs false
set_option maxRecDepth 10000
set_option maxHeartbeats 1000000
attribute [local irreducible] GL GC GQ W OpV
theorem zCL{w0:World}{h0:Mem}(hs:MLe h0 (mem w0)){k m n j:Nat}{vs:Value}{s:Sq}(rs:(tSd k m n j).Is h0 vs s)(hcd0:k≤1000)(hcd1:m≤100000)(hcd2:n≤100000)(hcd3:okS s):
    Calls Tryz.prog 82 #[vs] w0 (rT w0 h0 (fun h r L_=>∃vF cs,(rpP (tLs (k+1)) (rpP rpV (rpS (rpP rpI (rpP rpI (rpQ (j+1))))))).Is h r (nrP s,(vF,nrE s))∧L_=[.gs 83 14 vF (nrF s).length cs]∧vF.oneCell'=true∧RL (tFc (4*m+12) (m+n+12)) h cs (nrF s))):=by
 have hk1:=hcd3.1.1.1
 have hk2:=hcd3.1.1.2
 have hk3:=hcd3.1.2
 refine cb1 100 vs func82 hs ?_
 refine go2 ?_
 refine nB rs fun b1 cs1 rb1=>(nA (ρ:=(rpP (tLs 1) (rpP rpV (rpS (rpP rpI (rpP rpI (rpQ 1))))))) (X:=([],((Value.slice none 0 0),[]))) sD (yJ qQ (yJ cY qQ)) fun b2 cs2 rb2=>?_)
 refine go5 ?_
 refine lX (xB gH pH rb1) fun v10 r10=>(cL (ev1 rfl) call61 (fun w hs=>zNX hs r10 (by first|omega|exact hcd3) (by first|omega|exact hcd3) (by first|omega|exact hcd3) (by first|omega|exact hcd3)) fun v11 h1 hh1 r11=>?_)
 obtain rfl:v11=vB (dU s):=r11
 refine go3 ?_
 refine cnd (fun hc12=>?_) fun hc12=>?_
 ·
  refine go2 ?_
  refine lX (xV (ρ:=(rpP (tLs 1) (rpP rpV (rpS (rpP rpI (rpP rpI (rpQ 1))))))) (xR (ps':=[]) underlying50 sD rfl rfl (bA underlying50) trivial rfl (yJ qQ (yJ cY qQ)) zX)) fun v13 r13=>?_
  replace rb2:=rb2.mono hh1
  refine zO (A:=[]) (uB sizeOf50 pH rb2 r13) fun cs_1 rb_2=>?_
  refine go4 ?_
  rw[show nrF s=[] from if_neg hc12]
  refine cV 83 14 ?_
  have rl_3:RL (tFc (4*m+12) (m+n+12)) h1 [] ([]:List (Pq×((List (List Int))×(List Nat)))):=RL.nil
  refine wH (jO (t:=2) gH mh1 rfl rb_2) ?_
  intro w_4 hvw_4 rr_5
  refine gX (.cons_cons _ (List.nil_sublist _)) (fun E S=>zS rfl hvw_4 E S) ?_
  exact⟨_,_,(Rp.Is.cast (Rp.Is.le rr_5 (Le.p (Le.s (Le.t (Le.q (l:=k+1) oM))) (Le.p (Le.refl _) (Le.s (Le.p (Le.refl _) (Le.p (Le.refl _) (Le.q (l:=j+1) oM))))))) (by rw[show nrP s=[] from if_neg hc12,show nrE s=[] from if_neg hc12])),rfl,rfl,rl_3⟩
 refine go4 ?_
 refine lX (xB gH pH rb1) fun v14 r14=>?_
 have hsn:dU s:=Classical.not_not.1 hc12
 have hnm:=zWO hsn
 have hol:(fF s).length≤s.1.length:=zJ3 s s.1.length
 refine cL (ev1 rfl) call127 (fun w hs=>zN1 hs r14 (by first|omega|exact hcd3|exact hnm) (by first|omega|exact hcd3|exact hnm) (by first|omega|exact hcd3|exact hnm)) fun v15 h2 hh2 r15=>?_
 replace r15:=Rp.Is.cast (y:=(fF s)) r15 (by rfl)
 refine go6 ?_
 refine lX (xB uW (Pc.fst pH) rb1) fun v17 r17=>?_
 refine go1 ?_
 refine zG (zEM (ρ:=rpI) (X:=(0:Int)) (by':=8) s.1.length underlying32 gB rfl rfl rfl rfl wK rfl rfl (by rfl) (by rfl) bO bO) rfl rfl rfl ?_
 intro v19 q19 hq19
 obtain⟨cs19,rfl,rl19⟩:=hq19
 refine go6 ?_
 refine lX (xB zZG (Pc.snd (Pc.snd pH)) rb1) fun v21 r21=>(zEW 233 5 ?_)
 have rl_6:RL (rpP rpI (rpP rpI (rpQ j))) h2 [] ([]:List (Int×(Int×Rat))):=RL.nil
 refine xS (A:=[]) (jG (yD (ρ:=(rpP rpI (rpP rpI (rpQ j)))) (bytes:=72) underlying48 zUT rfl rfl rfl rfl nP rfl rfl rl_6 r21 bO bO)) rfl rfl rfl ?_
 intro v22 q22 hq22
 obtain⟨ho22,cs22,rfl,rl22⟩:=hq22
 refine yH (A:=[]) (ρ:=(rpP rpI (rpP rpI (rpQ j)))) rl22 ?_
 intro h3 hh3 rs_7
 refine lX (xV (ρ:=(rpP rpV (rpP rpV (rpS (rpP rpI (rpP rpI (rpQ (j+1)))))))) (xR (ps':=[(2,_)]) underlying50 sD rfl rfl (bA underlying50) e2z rfl (yJ cY (yJ cY qQ)) (zJ rfl (Pc.snd (Pc.snd (Pc.here _))) (rs_7.le (Le.s (Le.p (Le.refl _) (Le.p (Le.refl _) (Le.q (l:=j+1) oM))))) zX))) fun v23 r23=>(nA (ρ:=(rpP rpV (rpP rpV (rpS (rpP rpI (rpP rpI (rpQ 1))))))) (X:=((Value.slice none 0 0),((Value.slice none 0 0),[]))) sD (yJ cY (yJ cY qQ)) fun b5 cs5 rb5=>?_)
 have rw_8:=(Le.p (Le.refl _) (Le.p (Le.refl _) (Le.s (Le.p (Le.refl _) (Le.p (Le.refl _) (Le.q (l:=j+1) oM)))))).R rb5
 refine zO (A:=[]) (uB sizeOf50 pH rw_8 r23) fun cs_9 rb_10=>?_
 refine go9 ?_
 refine xO 53 9 ?_
 have rl_11:RL (tPt (k+1)) h3 [] ([]:List Tq):=RL.nil
 refine gcL (ι:=Nat×List Int×List Tq×List Value×Value×List Value×Value×List Value×Mem) (fun(i,IX,PS,cs_14,s4_12,cs_16,sA_13,cs_18,ma)=>(MLe h3 ma∧((rpP rpV (rpP rpV (rpS (rpP rpI (rpP rpI (rpQ (j+1))))))).R ma cs_14 (sA_13,(Value.slice none 0 0,s.2.2))∧RL rpI ma cs_16 IX∧RL (tPt (k+1)) ma cs_18 PS∧sA_13.oneCell'=true∧i≤(fF s).length∧IX=zK2 s i∧PS=zUB s i),[(1,vP b1 0),(2,vP b2 0),(3,v15),(4,s4_12),(5,vP b5 0),(6,vI ↑i)],[.gs 53 9 sA_13 PS.length cs_18,.var b5 50 cs_14,.gs 3 1 s4_12 IX.length cs_16,.var b2 50 cs2,.var b1 50 cs1],ma,(fF s).length-i)) (0,(List.replicate s.1.length (0:Int)),[],cs_9,v19,cs19,(.slice none 0 0),[],h3) ?_ ?_
 ·
  refine⟨MLe.refl _,?_⟩
  replace rl19:=rl19.mono hh3
  refine⟨rb_10,rl19,rl_11,rfl,?_⟩
  exact⟨by omega,rfl,rfl⟩
 intro x hx
 obtain⟨i,IX,PS,cs_14,s4_12,cs_16,sA_13,cs_18,ma⟩:=x
 dsimp only at hx
 obtain⟨hmma,hinv⟩:=hx
 refine yR ?_
 obtain⟨rb_15,rl_17,rl_19,ho_20,hinv⟩:=hinv
 obtain⟨hi1,hI,hP⟩:=hinv
 have hIl:IX.length=s.1.length:=by rw[hI];exact nZ s i
 have hPl:PS.length=i:=by rw[hP];exact wR _ _
 refine go9 ?_
 refine cnd (fun hc27=>?_) fun hc27=>?_
 ·
  refine go9 ?_
  refine lX (xI (0:Int) i underlying32 ty3 r15) fun v33 r33=>(lX (xA ty3 r33) fun v34 r34=>?_)
  obtain⟨rfl,hl34,hu34⟩:=jZ r34
  refine go1 ?_
  refine gv ((yY (((fF s).getD i 0).toNat) mh2 underlying32 sizeOf3 rfl rfl (by(have:=oK (s:=s) (i:=s.1.length) (k:=i) (show i<(bH s s.1.length).length by show i<(fF s).length;omega);show _;have h2:0≤(fF s).getD i 0∧(fF s).getD i 0<↑s.1.length:=this;omega)) (by(have:=oK (s:=s) (i:=s.1.length) (k:=i) (show i<(bH s s.1.length).length by show i<(fF s).length;omega);show _;have h2:0≤(fF s).getD i 0∧(fF s).getD i 0<↑s.1.length:=this;omega)) nP).cv (show _=zK 1 s4_12 ((((fF s).getD i 0).toNat*1+0)) from congrArg (zK 1 s4_12) (by rfl))) rfl (gC (A:=[_,_]) (F:=fun c_=>RL rpI ma c_ (IX.set (((fF s).getD i 0).toNat) (↑i:Int))) (rI sizeOf3 (Pc.arr (Pc.here _) (0:Int) (((fF s).getD i 0).toNat) (by(have:=oK (s:=s) (i:=s.1.length) (k:=i) (show i<(bH s s.1.length).length by show i<(fF s).length;omega);show _;have h2:0≤(fF s).getD i 0∧(fF s).getD i 0<↑s.1.length:=this;omega))) rfl nP rfl rfl rl_17 (jB oM oM) rfl) ?_)
  intro cs_21 rl_22
  refine go2 ?_
  refine jI (A:=[]) 13 [] [(0,.q),(1,.q),(2,.q),(3,.q),(4,.q),(5,.q),(6,.q),(7,.q),(8,.q),(9,.q),(10,.c),(11,.c),(12,.q),(13,.t)] kQ nX (uA [0,1,0,4,0,0,48,64,136,256,512,1026,4095,8191] [16383,16382,16383,16379,16383,16383,16335,16319,16247,16127,15871,15357,16383,10239] (by kernel_rfl)) nX ?_
  refine go1 ?_
  refine wX rfl (aR (xB uW (Pc.fst pH) rb_15)) fun v38 r38=>?_
  subst r38
  refine go1 ?_
  refine wX rfl (xB uW (Pc.fst pH) rb1) fun v40 r40=>?_
  refine go2 ?_
  refine wX rfl (xI (0:Int) i underlying32 ty3 r15) fun v43 r43=>(wX rfl (xA ty3 r43) fun v44 r44=>?_)
  obtain⟨rfl,hl44,hu44⟩:=jZ r44
  refine mV (F:=fun v_=>AtP (tPt k) ma v_ (s.1.getD (((fF s).getD i 0).toNat) zT)) rfl (lH zT (((fF s).getD i 0).toNat) underlying46 zW rfl rfl r40 (by(have:=oK (s:=s) (i:=s.1.length) (k:=i) (show i<(bH s s.1.length).length by show i<(fF s).length;omega);show _;have h2:0≤(fF s).getD i 0∧(fF s).getD i 0<↑s.1.length:=this;omega)) (by(have:=oK (s:=s) (i:=s.1.length) (k:=i) (show i<(bH s s.1.length).length by show i<(fF s).length;omega);show _;have h2:0≤(fF s).getD i 0∧(fF s).getD i 0<↑s.1.length:=this;omega)) nP) zDV rfl ?_
  intro v45 r45
  refine wX rfl (xA zW r45) fun v46 r46=>?_
  refine w_c rfl (kD (fun X=>zU (ρ:=(tPt (k+1))) (m:=1) (xs:=[(s.1.getD (((fF s).getD i 0).toNat) zT)]) (ps':=[(0,_)]) underlying46 xC rfl rfl rfl (wG (yE oM)) e2z (zJ rfl (Pc.arr (Pc.here _) zT 0 dC) (r46.le (Le.t (Le.q (l:=k+1) oM))) zX) (show 1*9≤16777216 from by decide) nP) rfl ?_)
  intro v47 q47 hq47
  obtain⟨cs47,rfl,rl47⟩:=hq47
  refine w_c rfl (vD (A:=[]) (ρ:=(tPt (k+1))) rl47 dK ?_)
  intro h4 hh4 rs_23
  replace rl_19:=rl_19.mono hh4
  refine sH (A:=[]) (fun X=>jG (yD (ρ:=(tPt (k+1))) (bytes:=168) underlying46 xC rfl rfl rfl rfl nP rfl rfl rl_19 rs_23 bO bO)) rfl (vH (by first|(simp;done)|grind)) ?_
  intro v48 q48 hq48
  obtain⟨ho48,cs48,rfl,rl48⟩:=hq48
  refine go1 ?_
  replace rb_15:=rb_15.mono hh4
  refine yQ (A:=[_]) rfl (uB sizeOf46 (Pc.fst pH) rb_15 (zC1 ho48)) fun cs_24 rb_25=>?_
  refine go8 ?_
  refine gqL ((i+1),(IX.set (((fF s).getD i 0).toNat) (↑i:Int)),(PS++[(s.1.getD (((fF s).getD i 0).toNat) zT)]),cs_24,s4_12,cs_21,v48,cs48,h4) ?_ ?_
  ·
   refine⟨(hmma.trans hh4),?_⟩
   replace rl_22:=rl_22.mono hh4
   refine⟨rb_25,rl_22,rl48,ho48,?_⟩
   exact⟨by omega,by rw[hI];rfl,by rw[hP];rfl⟩
  omega
 have ei:i=(fF s).length:=by omega
 refine go8 ?_
 refine yH (A:=[]) (ρ:=(tPt (k+1))) rl_19 ?_
 intro h4 hh4 rs_26
 replace rb_15:=rb_15.mono hh4
 have rb_27:(rpP (tLs (k+1)) (rpP rpV (rpS (rpP rpI (rpP rpI (rpQ (j+1))))))).R h4 cs_14 (PS,(sA_13,(Value.slice none 0 0,s.2.2)).2):=zZD rb_15 rs_26
 refine go4 ?_
 refine xO 83 14 ?_
 have rl_28:RL (tFc (4*m+12) (m+n+12)) h4 [] ([]:List (Pq×((List (List Int))×(List Nat)))):=RL.nil
 replace rl_17:=rl_17.mono hh4
 refine zK5 (A:=[_,_]) (ρ:=rpI) rl_17 ?_
 intro h5 hh5 rs_29
 refine gcL (ι:=Nat×List Fc×Value×List Value×Value×List Value×Mem) (fun(f,FS,u4_31,cs_33,sB_30,cs_35,mb)=>(MLe h5 mb∧((rpS rpI).Is mb u4_31 (ixZ s)∧(rpP (tLs (k+1)) (rpP rpV (rpS (rpP rpI (rpP rpI (rpQ (j+1))))))).R mb cs_33 (PS,(sB_30,s.2.2))∧RL (tFc (4*m+12) (m+n+12)) mb cs_35 FS∧sB_30.oneCell'=true∧f≤s.2.1.length∧FS=u4 s f),[(1,vP b1 0),(2,vP b2 0),(4,u4_31),(5,vP b5 0),(7,vI ↑f)],[.gs 83 14 sB_30 FS.length cs_35,.var b5 50 cs_33,.var b2 50 cs2,.var b1 50 cs1],mb,s.2.1.length-f)) (0,[],s4_12,cs_14,(.slice none 0 0),[],h5) ?_ ?_
 ·
  refine⟨MLe.refl _,?_⟩
  replace rb_27:=rb_27.mono hh5
  replace rl_28:=rl_28.mono hh5
  refine⟨(Rp.Is.cast rs_29 (by rw[hI,ei];rfl)),rb_27,rl_28,rfl,?_⟩
  exact⟨by omega,rfl⟩
 intro x hx
 obtain⟨f,FS,u4_31,cs_33,sB_30,cs_35,mb⟩:=x
 dsimp only at hx
 obtain⟨hmmb,hinv⟩:=hx
 refine yR ?_
 obtain⟨ru_32,rb_34,rl_36,ho_37,hinv⟩:=hinv
 obtain⟨hf1,hF⟩:=hinv
 have hFl:FS.length=f:=by rw[hF];exact zKJ s f
 have hFa:=zQX hcd3 f hf1
 refine go5 ?_
 refine lX (xB tG (Pc.snd (Pc.fst pH)) rb1) fun v52 r52=>?_
 refine go4 ?_
 refine cnd (fun hc54=>?_) fun hc54=>?_
 ·
  refine go6 ?_
  refine lX (xB gH pH rb1) fun v57 r57=>?_
  refine go2 ?_
  refine cL (ev3 rfl rfl rfl) call128 (fun w hs=>zCK (f:=f) hs r57 ru_32 (by first|omega|exact hcd3|exact hnm f oM|exact nZ s _) (by first|omega|exact hcd3|exact hnm f oM|exact nZ s _) (by first|omega|exact hcd3|exact hnm f oM|exact nZ s _) (by first|omega|exact hcd3|exact hnm f oM|exact nZ s _) (by first|omega|exact hcd3|exact hnm f oM|exact nZ s _) (by first|omega|exact hcd3|exact hnm f oM|exact nZ s _) (by first|omega|exact hcd3|exact hnm f oM|exact nZ s _)) fun v60 h6 hh6 r60=>(nA (ρ:=(tFc 1 1)) (X:=((zT,(0:Rat)),([],([]:List Nat)))) jD (yJ (yJ (wG (yE dC)) (yE dC)) (yJ qQ kT)) fun b8 cs8 rb8=>?_)
  have rw_38:=(Le.p (Le.p (Le.t (Le.q (l:=4*m+11) oM)) (Le.q (l:=m+n+11) oM)) (Le.refl _)).R rb8
  refine zO (A:=[]) (uB sizeOf83 pH rw_38 r60) fun cs_39 rb_40=>?_
  refine go5 ?_
  refine lX (aR (xB tG (Pc.snd (Pc.fst pH)) rb_34)) fun v62 r62=>?_
  subst r62
  refine gv (kX mh1 underlying47 rfl) rfl ?_
  refine go5 ?_
  refine vG (ι:=Nat×Mem) (fun(kp,mk)=>MLe h6 mk∧(kp≤FS.length∧cR (zKT (nfF s (ixZ s) f) FS) FS.length=cR (zKT (nfF s (ixZ s) f) FS) kp)) (fun(kp,mk)=>[(1,vP b1 0),(2,vP b2 0),(4,u4_31),(5,vP b5 0),(7,vI ↑f),(8,vP b8 0),(9,vI ↑kp)]) (fun(kp,mk)=>[.var b8 83 cs_39,.gs 83 14 sB_30 FS.length cs_35,.var b5 50 cs_33,.var b2 50 cs2,.var b1 50 cs1]) (fun(kp,mk)=>mk) (fun(kp,mk)=>kp) (FS.length,h6) ?_ e7 rfl rfl ?_
  ·
   refine⟨MLe.refl _,?_⟩
   exact⟨by omega,rfl⟩
  intro x hx
  obtain⟨kp,mk⟩:=x
  obtain⟨hmmk,hinv⟩:=hx
  refine yR ?_
  obtain⟨hk5,hk6⟩:=hinv
  refine go2 ?_
  refine gD 12 (qq 0 10 [(10,.c),(11,.q)]) (uA [0,1,2,4,4,20,4,68,164,260,524,1028] (frz 4095 [0,1,2,4,4,20,4,68,164,260,524,1028]) (by kernel_rfl)) ?_
  refine go3 ?_
  refine gR ((0:Int)<(↑kp:Int)) (fun hg_41=>?_) (fun hg_41=>?_)
  ·
   rw[xL hg_41]
   refine oX rfl (xB tJ pH rb_40) fun v67 r67=>?_
   refine go1 ?_
   refine oX rfl (aR (xB tG (Pc.snd (Pc.fst pH)) rb_34)) fun v69 r69=>?_
   subst r69
   refine yP rfl rfl rfl (fun h' L' hh hR=>yU rfl) rfl ?_
   refine go1 ?_
   refine yP rfl rfl rfl (fun h' L' hh hR=>(yY (kp-1) (hR _ mh1) underlying47 sizeOf83 rfl rfl oM oM nP).cv (show _=zK 1 sB_30 (((kp-1)*14+0)) from congrArg (zK 1 sB_30) (by rfl))) rfl ?_
   replace rl_36:=rl_36.mono (hh6.trans hmmk)
   refine aB (F:=fun v_=>(tFc (4*m+12) (m+n+12)).Is mk v_ (FS.getD (kp-1) zA)) rfl rfl rfl (wU tJ (Pc.arr (Pc.here _) zA (kp-1) oM) rfl nP rfl rl_36 rfl) (tM mh1) rfl ?_
   intro v73 r73
   refine w_c rfl (fN rfl rfl (sC (ev2 rfl rfl) call129 (fun w hs=>zF3 hs r67 r73 (by first|omega|exact Nat.le_trans (zCQ hcd3 oM) dC|exact Nat.le_trans (hFa _ (by rw[hF];exact bN (by rw[←hF];omega))) dC) (by first|omega|exact Nat.le_trans (zCQ hcd3 oM) dC|exact Nat.le_trans (hFa _ (by rw[hF];exact bN (by rw[←hF];omega))) dC)) fun v74 h7 hh7 r74=>?_))
   obtain rfl:v74=vB (lsF (nfF s (ixZ s) f) (FS.getD (kp-1) zA)):=r74
   refine go3 ?_
   refine cnd (fun hc75=>?_) fun hc75=>?_
   ·
    refine go9 ?_
    refine yO ((kp-1),h7) ?_ ?_ ⟨rfl,rfl,rfl,rfl,rfl,rfl,?_,trivial⟩ rfl rfl
    ·
     refine⟨(hmmk.trans hh7),?_⟩
     exact⟨by omega,by rw[hk6];exact zLB oM hc75⟩
    ·
     dsimp only
     omega
    · exact congrArg (fun z=>some (vI z)) oM
   refine go8 ?_
   refine lX (aR (xB tG (Pc.snd (Pc.fst pH)) rb_34)) fun v79 r79=>?_
   subst r79
   refine lX (xV (ρ:=(tFc 1 1)) (xR (ps':=[]) underlying83 jD rfl rfl (lG underlying83) trivial rfl (yJ (yJ (wG (yE dC)) (yE dC)) (yJ qQ kT)) zX)) fun v80 r80=>(zG (zU (ρ:=(tFc 1 1)) (m:=1) (xs:=[((zT,(0:Rat)),([],([]:List Nat)))]) (ps':=[(0,_)]) underlying47 jD rfl rfl rfl (yJ (yJ (wG (yE dC)) (yE dC)) (yJ qQ kT)) e2z (zJ rfl (Pc.arr (Pc.here _) zA 0 dC) r80 zX) (show 1*14≤16777216 from by decide) nP) rfl rfl rfl ?_)
   intro v81 q81 hq81
   obtain⟨cs81,rfl,rl81⟩:=hq81
   refine yH (A:=[]) (ρ:=(tFc 1 1)) rl81 ?_
   intro h8 hh8 rs_42
   replace rl_36:=rl_36.mono (hh7.trans hh8)
   refine xS (A:=[_]) (jG (yD (ρ:=(tFc (4*m+12) (m+n+12))) (bytes:=264) underlying47 jD rfl rfl rfl rfl nP rfl rfl rl_36 (rs_42.le (Le.s (Le.p (Le.p (Le.t (Le.q (l:=4*m+12) oM)) (Le.q (l:=m+n+12) oM)) (Le.refl _)))) bO bO)) rfl rfl rfl ?_
   intro v82 q82 hq82
   obtain⟨ho82,cs82,rfl,rl82⟩:=hq82
   refine go1 ?_
   refine zO (A:=[_,_]) (uB sizeOf47 (Pc.snd (Pc.fst pH)) rb_34 (zC1 ho82)) fun cs_43 rb_44=>?_
   refine go3 ?_
   refine bQ (A:=[_]) (by rw[lAz];exact Nat.succ_pos _) (fun ob cap hsv hsc=>?_)
   refine jI (A:=[_]) 10 [] [(0,.q),(1,.q),(2,.q),(3,.q),(4,.q),(5,.q),(6,.q),(7,.q),(8,.q),(9,.c)] kQ nX (by kernel_rfl) nX ?_
   refine go1 ?_
   refine wX rfl (aR (xB tG (Pc.snd (Pc.fst pH)) rb_44)) fun v85 r85=>?_
   subst r85
   refine go2 ?_
   refine wF rfl (fun _ _=>qH (kp+1) underlying47 sizeOf83 rfl rfl ⟨_,_,hsv,hsc⟩ oM (by simp only[lAz,lC,lN];omega)) rfl ?_
   refine go1 ?_
   refine wX rfl (aR (xB tG (Pc.snd (Pc.fst pH)) rb_44)) fun v90 r90=>?_
   subst r90
   refine go1 ?_
   refine wF rfl (fun _ _=>qH kp underlying47 sizeOf83 rfl rfl ⟨_,_,hsv,hsc⟩ oM (by simp only[lAz,lC,lN];omega)) rfl ?_
   refine w_c rfl (sH (A:=[_]) (fun X=>lD (ρ:=(tFc (4*m+12) (m+n+12))) kp hsv hsc underlying47 sizeOf83 rfl rfl (by simp only[lAz,lC,lN];omega) rl82) rfl (vH (by first|(simp;done)|grind)) ?_)
   intro v93 q93 hq93
   obtain⟨cs_45,rfl,rl_46⟩:=hq93
   refine go4 ?_
   refine lX (aR (xB tG (Pc.snd (Pc.fst pH)) rb_44)) fun v95 r95=>?_
   subst r95
   refine go1 ?_
   refine lX (xB tJ pH rb_40) fun v97 r97=>(gv ((yY kp mh1 underlying47 sizeOf83 rfl rfl oM (by rw[kV (by simp only[lAz,lC,lN];omega)];simp only[lAz,lC,lN];omega) nP).cv (show _=zK 1 v82 ((kp*14+0)) from congrArg (zK 1 v82) (by rfl))) rfl (gC (A:=[_]) (F:=fun c_=>RL (tFc (4*m+12) (m+n+12)) h8 c_ ((fQ (FS++[((zT,(0:Rat)),([],([]:List Nat)))]) kp).set kp (nfF s (ixZ s) f))) (rI sizeOf83 (Pc.arr (Pc.here _) zA kp (by rw[kV (by simp only[lAz,lC,lN];omega)];simp only[lAz,lC,lN];omega)) rfl nP rfl rfl rl_46 (r97.le (Le.p (Le.p (Le.t (Le.q (l:=4*m+12) oM)) (Le.q (l:=m+n+12) oM)) (Le.refl _))) rfl) ?_))
   intro cs_47 rl_48
   refine go8 ?_
   refine uP (A:=[]) ?_
   refine yO ((f+1),((fQ (FS++[((zT,(0:Rat)),([],([]:List Nat)))]) kp).set kp (nfF s (ixZ s) f)),u4_31,cs_43,v82,cs_47,h8) ?_ ?_ e5 rfl rfl
   ·
    refine⟨((((hmmb.trans hh6).trans hmmk).trans hh7).trans hh8),?_⟩
    replace ru_32:=ru_32.mono (((hh6.trans hmmk).trans hh7).trans hh8)
    refine⟨ru_32,rb_44,rl_48,ho82,?_⟩
    exact⟨by omega,by rw[aY oM];have hkk:cR (zKT (nfF s (ixZ s) f) FS) FS.length=kp:=by{rw[hk6];exact zDB (fun e=>by first|omega|exact hc75 e.2)};rw[←hkk,hF];rfl⟩
   dsimp only
   omega
  rw[yS hg_41]
  refine go7 ?_
  refine w_c rfl (iD rfl rfl rfl rfl ?_)
  refine uT ?_
  refine lX (aR (xB tG (Pc.snd (Pc.fst pH)) rb_34)) fun v79 r79=>?_
  subst r79
  refine lX (xV (ρ:=(tFc 1 1)) (xR (ps':=[]) underlying83 jD rfl rfl (lG underlying83) trivial rfl (yJ (yJ (wG (yE dC)) (yE dC)) (yJ qQ kT)) zX)) fun v80 r80=>(zG (zU (ρ:=(tFc 1 1)) (m:=1) (xs:=[((zT,(0:Rat)),([],([]:List Nat)))]) (ps':=[(0,_)]) underlying47 jD rfl rfl rfl (yJ (yJ (wG (yE dC)) (yE dC)) (yJ qQ kT)) e2z (zJ rfl (Pc.arr (Pc.here _) zA 0 dC) r80 zX) (show 1*14≤16777216 from by decide) nP) rfl rfl rfl ?_)
  intro v81 q81 hq81
  obtain⟨cs81,rfl,rl81⟩:=hq81
  refine yH (A:=[]) (ρ:=(tFc 1 1)) rl81 ?_
  intro h7 hh7 rs_49
  replace rl_36:=rl_36.mono ((hh6.trans hmmk).trans hh7)
  refine xS (A:=[_]) (jG (yD (ρ:=(tFc (4*m+12) (m+n+12))) (bytes:=264) underlying47 jD rfl rfl rfl rfl nP rfl rfl rl_36 (rs_49.le (Le.s (Le.p (Le.p (Le.t (Le.q (l:=4*m+12) oM)) (Le.q (l:=m+n+12) oM)) (Le.refl _)))) bO bO)) rfl rfl rfl ?_
  intro v82 q82 hq82
  obtain⟨ho82,cs82,rfl,rl82⟩:=hq82
  refine go1 ?_
  refine zO (A:=[_,_]) (uB sizeOf47 (Pc.snd (Pc.fst pH)) rb_34 (zC1 ho82)) fun cs_50 rb_51=>?_
  refine go3 ?_
  refine bQ (A:=[_]) (by rw[lAz];exact Nat.succ_pos _) (fun ob cap hsv hsc=>?_)
  refine jI (A:=[_]) 10 [] [(0,.q),(1,.q),(2,.q),(3,.q),(4,.q),(5,.q),(6,.q),(7,.q),(8,.q),(9,.c)] kQ nX (by kernel_rfl) nX ?_
  refine go1 ?_
  refine wX rfl (aR (xB tG (Pc.snd (Pc.fst pH)) rb_51)) fun v85 r85=>?_
  subst r85
  refine go2 ?_
  refine wF rfl (fun _ _=>qH (kp+1) underlying47 sizeOf83 rfl rfl ⟨_,_,hsv,hsc⟩ oM (by simp only[lAz,lC,lN];omega)) rfl ?_
  refine go1 ?_
  refine wX rfl (aR (xB tG (Pc.snd (Pc.fst pH)) rb_51)) fun v90 r90=>?_
  subst r90
  refine go1 ?_
  refine wF rfl (fun _ _=>qH kp underlying47 sizeOf83 rfl rfl ⟨_,_,hsv,hsc⟩ oM (by simp only[lAz,lC,lN];omega)) rfl ?_
  refine w_c rfl (sH (A:=[_]) (fun X=>lD (ρ:=(tFc (4*m+12) (m+n+12))) kp hsv hsc underlying47 sizeOf83 rfl rfl (by simp only[lAz,lC,lN];omega) rl82) rfl (vH (by first|(simp;done)|grind)) ?_)
  intro v93 q93 hq93
  obtain⟨cs_52,rfl,rl_53⟩:=hq93
  refine go4 ?_
  refine lX (aR (xB tG (Pc.snd (Pc.fst pH)) rb_51)) fun v95 r95=>?_
  subst r95
  refine go1 ?_
  refine lX (xB tJ pH rb_40) fun v97 r97=>(gv ((yY kp mh1 underlying47 sizeOf83 rfl rfl oM (by rw[kV (by simp only[lAz,lC,lN];omega)];simp only[lAz,lC,lN];omega) nP).cv (show _=zK 1 v82 ((kp*14+0)) from congrArg (zK 1 v82) (by rfl))) rfl (gC (A:=[_]) (F:=fun c_=>RL (tFc (4*m+12) (m+n+12)) h7 c_ ((fQ (FS++[((zT,(0:Rat)),([],([]:List Nat)))]) kp).set kp (nfF s (ixZ s) f))) (rI sizeOf83 (Pc.arr (Pc.here _) zA kp (by rw[kV (by simp only[lAz,lC,lN];omega)];simp only[lAz,lC,lN];omega)) rfl nP rfl rfl rl_53 (r97.le (Le.p (Le.p (Le.t (Le.q (l:=4*m+12) oM)) (Le.q (l:=m+n+12) oM)) (Le.refl _))) rfl) ?_))
  intro cs_54 rl_55
  refine go8 ?_
  refine uP (A:=[]) ?_
  refine yO ((f+1),((fQ (FS++[((zT,(0:Rat)),([],([]:List Nat)))]) kp).set kp (nfF s (ixZ s) f)),u4_31,cs_50,v82,cs_54,h7) ?_ ?_ e5 rfl rfl
  ·
   refine⟨(((hmmb.trans hh6).trans hmmk).trans hh7),?_⟩
   replace ru_32:=ru_32.mono ((hh6.trans hmmk).trans hh7)
   refine⟨ru_32,rb_51,rl_55,ho82,?_⟩
   exact⟨by omega,by rw[aY oM];have hkk:cR (zKT (nfF s (ixZ s) f) FS) FS.length=kp:=by{rw[hk6];exact zDB (fun e=>by first|omega|exact hc75 e.2)};rw[←hkk,hF];rfl⟩
  dsimp only
  omega
 have ef:f=s.2.1.length:=by omega
 refine go7 ?_
 refine lX (xB gH pH rb_34) fun v99 r99=>?_
 replace rb2:=rb2.mono ((((((hh1.trans hh2).trans hh3).trans hmma).trans hh4).trans hh5).trans hmmb)
 have rw_56:=(Le.p (Le.s (Le.t (Le.q (l:=k+1) oM))) (Le.p (Le.refl _) (Le.s (Le.p (Le.refl _) (Le.p (Le.refl _) (Le.q (l:=j+1) oM)))))).R rb2
 refine zO (A:=[_,_]) (uB sizeOf50 pH rw_56 r99) fun cs_57 rb_58=>?_
 refine go3 ?_
 have hFS:FS=nrF s:=by rw[hF,ef];exact(if_pos hsn).symm
 have hPS:PS=nrP s:=by rw[hP,ei];exact(if_pos hsn).symm
 subst hFS
 subst hPS
 refine wH (jO (t:=2) gH mh2 rfl rb_58) ?_
 intro w_59 hvw_59 rr_60
 refine gX (.cons_cons _ (List.nil_sublist _)) (fun E S=>zS rfl hvw_59 E S) ?_
 exact⟨_,_,(Rp.Is.cast rr_60 (by rw[show nrE s=s.2.2 from if_pos hsn])),rfl,ho_37,rl_36⟩
end Go.Proofs.YtboaboflnckgoaaGreat
namespace Bk
set_option linter.unusedVariables false
set_option linter.unusedSimpArgs false
open Classical
def zJC(p q:Pt):Prop:=p.x=q.x∧p.y=q.y
noncomputable def j4(B:List Pt)(p:Pt):Nat→Int
  |0=>-1
  |j+1=>if zJC (B.getD j zT) p then(j:Int) else j4 B p j
theorem zC5(B:List Pt)(p:Pt):∀j,-1≤j4 B p j∧j4 B p j<j∨(j=0∧j4 B p j= -1)
  |0=>.inr ⟨rfl,rfl⟩
  |j+1=>by
   have h:=zC5 B p j
   unfold j4
   split
   · exact .inl (by omega)
   · exact .inl (by omega)
theorem fd_t{B:List Pt}{p:Pt}{j:Nat}(h:zJC (B.getD j zT) p):(j:Int)=j4 B p (j+1):=(if_pos h).symm
theorem zYO{B:List Pt}{p:Pt}{j:Nat}(h:¬zJC (B.getD j zT) p):j4 B p j=j4 B p (j+1):=(if_neg h).symm
noncomputable def fdZ(B:List Pt)(p:Pt):Int:=j4 B p B.length
noncomputable def adB(B:List Pt)(p:Pt):List Pt:=if fdZ B p<0 then B++[p] else B
noncomputable def adN(B:List Pt)(p:Pt):Int:=if fdZ B p<0 then(B.length:Int) else fdZ B p
noncomputable def plB(B:List Pt)(x:List Pt):Nat→List Pt
  |0=>B
  |k+1=>adB (plB B x k) (x.getD k zT)
noncomputable def plN(B:List Pt)(x:List Pt):Nat→List Int:=jW fun k=>adN (plB B x k) (x.getD k zT)
noncomputable def ptB(L:List (List Pt)):Nat→List Pt
  |0=>[]
  |i+1=>plB (ptB L i) (L.getD i []) (L.getD i []).length
noncomputable def ptN(L:List (List Pt)):Nat→List (List Int):=jW fun i=>plN (ptB L i) (L.getD i []) (L.getD i []).length
def j7(L:List (List Pt)):Nat→Nat
  |0=>0
  |i+1=>j7 L i+(L.getD i []).length
theorem zVB(B:List Pt)(p:Pt):(adB B p).length≤B.length+1:=by
  unfold adB;split
  · rw[lAz,List.length_singleton];exact Nat.le_refl _
  · omega
theorem zFP(B x:List Pt):∀k,(plB B x k).length≤B.length+k
  |0=>Nat.le_refl _
  |k+1=>by
   have h1:=zFP B x k
   have h2:=zVB (plB B x k) (x.getD k zT)
   show(adB _ _).length≤_
   omega
theorem zLT(L:List (List Pt)):∀i,(ptB L i).length≤j7 L i
  |0=>Nat.le_refl _
  |i+1=>by
   have h1:=zLT L i
   have h2:=zFP (ptB L i) (L.getD i []) (L.getD i []).length
   show(plB _ _ _).length≤j7 L i+_
   omega
theorem zVV{L:List (List Pt)}(h:∀m,m<L.length→(L.getD m []).length≤64):∀i,i≤L.length→j7 L i≤64*i
  |0,_=>Nat.le_refl _
  |i+1,hi=>by
   have h1:=zVV h i (by omega)
   have h2:=h i (by omega)
   show j7 L i+_≤_
   omega
theorem zUD{L:List (List Pt)}(h:vT L 0 1=0):L.length≤16∧∀m,m<L.length→(L.getD m []).length≤64:=by
  unfold vT at h
  split at h
  · omega
  · rename_i h1
    exact⟨Nat.not_lt.1 fun e=>h1 (.inl e),fun m hm=>Nat.not_lt.1 fun e=>h1 (.inr ⟨m,hm,e⟩)⟩
section
variable (L:List (List Pt))(lo hi:Rat)
noncomputable def bsZ:List Pt:=ptB L L.length
noncomputable def bxZ:List (List Int):=ptN L L.length
noncomputable def zQE:Nat→List Pt:=jW fun i=>T3.mk ((bsZ L).getD (i%(bsZ L).length) zT).x ((bsZ L).getD (i%(bsZ L).length) zT).y (if((bsZ L).length:Int)≤(i:Int) then hi else lo)
noncomputable def ppZ:List Pt:=zQE L lo hi (2*(bsZ L).length)
noncomputable def zY2:Nat→List (List Int):=jW fun i=>zJK ((bxZ L).getD i []) ((bxZ L).getD i []).length
noncomputable def tpL(i:Nat):Nat→List Int:=jW fun k=>((bxZ L).getD i []).getD k 0+((bsZ L).length:Int)
noncomputable def zWL:Nat→List (List Int):=jW fun i=>tpL L i ((bxZ L).getD i []).length
noncomputable def nmS(i k:Nat):List Nat:=[115]++qZ (((i:Int):Int):Rat)++[46]++qZ (((k:Int):Int):Rat)
noncomputable def sdA(i k:Nat):Int:=((bxZ L).getD i []).getD k 0
noncomputable def sdB(i k:Nat):Int:=((bxZ L).getD i []).getD ((k+1)%((bxZ L).getD i []).length) 0
noncomputable def sdN(i k:Nat):Pt:=T3.mk (((ppZ L lo hi).getD (sdB L i k).toNat zT).y-((ppZ L lo hi).getD (sdA L i k).toNat zT).y) (-(((ppZ L lo hi).getD (sdB L i k).toNat zT).x-((ppZ L lo hi).getD (sdA L i k).toNat zT).x)) (0:Rat)
noncomputable def sdF(i k:Nat):Fc:=((sdN L lo hi i k,jL (sdN L lo hi i k) ((ppZ L lo hi).getD (sdA L i k).toNat zT)),[[sdA L i k,sdB L i k,sdB L i k+((bsZ L).length:Int),sdA L i k+((bsZ L).length:Int)]],nmS i k)
noncomputable def sfX(i:Nat):Nat→List Fc:=jW fun k=>sdF L lo hi i k
noncomputable def zND:Nat→List Fc:=pW fun i=>sfX L lo hi i ((bxZ L).getD i []).length
noncomputable def btF:Fc:=((T3.mk (0:Rat) (0:Rat) (-((1:Int):Rat)),-lo),zY2 L (bxZ L).length,[98,111,116,116,111,109])
noncomputable def tpF:Fc:=((T3.mk (0:Rat) (0:Rat) ((1:Int):Rat),hi),zWL L (bxZ L).length,[116,111,112])
noncomputable def prR:Sd:=(ppZ L lo hi,zND L lo hi (bxZ L).length++[btF L lo,tpF L hi],[])
def prB:Prop:=512<2*(bsZ L).length∨256<j7 L L.length+2
noncomputable def prE:Int:=if ¬vT L 0 1=0 then vT L 0 1 else if ¬ouZ L=1 then 33 else if 0≤wB lo hi then 9 else if prB L then 2 else 0
noncomputable def prP:List Pt:=if prE L lo hi=0 then nrP (prR L lo hi) else[]
noncomputable def prF:List Fc:=if prE L lo hi=0 then nrF (prR L lo hi) else[]
end
section
variable {L:List (List Pt)}{lo hi:Rat}
theorem pr_0(h1:vT L 0 1=0)(h2:ouZ L=1)(h3:¬0≤wB lo hi)(h4:¬prB L):prE L lo hi=0∧prP L lo hi=nrP (prR L lo hi)∧prF L lo hi=nrF (prR L lo hi):=by
  have e:prE L lo hi=0:=by unfold prE;rw[if_neg (fun e=>e h1),if_neg (fun e=>e h2),if_neg h3,if_neg h4]
  exact⟨e,if_pos e,if_pos e⟩
theorem zLU{n:Int}(h:prE L lo hi=n)(hn:¬n=0):prE L lo hi=n∧prP L lo hi=[]∧prF L lo hi=[]:=⟨h,if_neg (by rw[h];exact hn),if_neg (by rw[h];exact hn)⟩
theorem pr_1(h1:¬vT L 0 1=0):prE L lo hi=vT L 0 1∧prP L lo hi=[]∧prF L lo hi=[]:=zLU (if_pos h1) h1
theorem zZ1(h1:vT L 0 1=0)(h2:¬ouZ L=1):prE L lo hi=33∧prP L lo hi=[]∧prF L lo hi=[]:=zLU (by unfold prE;rw[if_neg (fun e=>e h1),if_pos h2]) (by decide)
theorem pr_9(h1:vT L 0 1=0)(h2:ouZ L=1)(h3:0≤wB lo hi):prE L lo hi=9∧prP L lo hi=[]∧prF L lo hi=[]:=zLU (by unfold prE;rw[if_neg (fun e=>e h1),if_neg (fun e=>e h2),if_pos h3]) (by decide)
theorem pr_2(h1:vT L 0 1=0)(h2:ouZ L=1)(h3:¬0≤wB lo hi)(h4:prB L):prE L lo hi=2∧prP L lo hi=[]∧prF L lo hi=[]:=zLU (by unfold prE;rw[if_neg (fun e=>e h1),if_neg (fun e=>e h2),if_neg h3,if_pos h4]) (by decide)
theorem zOV(B:List Pt)(p:Pt):0≤adN B p∧adN B p<(adB B p).length:=by
  have h:=zC5 B p B.length
  unfold adN adB fdZ
  split
  · rw[lAz,List.length_singleton];omega
  · omega
theorem zZA(B:List Pt)(p:Pt):B.length≤(adB B p).length:=by
  unfold adB;split
  · rw[lAz];omega
  · omega
theorem zQG(B x:List Pt){k n:Nat}(h:k≤n):(plB B x k).length≤(plB B x n).length:=by
  induction n with
  |zero=>rw[show k=0 by omega];exact Nat.le_refl _
  |succ n ih=>
   rcases Nat.lt_or_ge k (n+1) with h1|h1
   · exact Nat.le_trans (ih (by omega)) (zZA _ _)
   · rw[show k=n+1 by omega];exact Nat.le_refl _
theorem zXG{i n:Nat}(h:i≤n):(ptB L i).length≤(ptB L n).length:=by
  induction n with
  |zero=>rw[show i=0 by omega];exact Nat.le_refl _
  |succ n ih=>
   rcases Nat.lt_or_ge i (n+1) with h1|h1
   · exact Nat.le_trans (ih (by omega)) (zQG (ptB L n) (L.getD n []) (k:=0) (Nat.zero_le _))
   · rw[show i=n+1 by omega];exact Nat.le_refl _
theorem zY0:(bxZ L).length=L.length:=wR _ _
theorem zSE{i:Nat}(h:i<L.length):(bxZ L).getD i []=plN (ptB L i) (L.getD i []) (L.getD i []).length:=pK _ _ h
theorem zGK{i:Nat}(h:i<L.length):((bxZ L).getD i []).length=(L.getD i []).length:=by rw[zSE h];exact wR _ _
theorem zSD{i k:Nat}(h:i<L.length)(hk:k<((bxZ L).getD i []).length):0≤((bxZ L).getD i []).getD k 0∧((bxZ L).getD i []).getD k 0<↑(bsZ L).length:=by
  rw[zGK h] at hk
  rw[zSE h]
  unfold plN
  rw[pK _ _ hk]
  obtain⟨h1,h2⟩:=zOV (plB (ptB L i) (L.getD i []) k) ((L.getD i []).getD k zT)
  have h3:=zQG (ptB L i) (L.getD i []) (show k+1≤(L.getD i []).length from hk)
  have h4:=zXG (L:=L) (show i+1≤L.length from h)
  have h5:(plB (ptB L i) (L.getD i []) (k+1)).length=(adB (plB (ptB L i) (L.getD i []) k) ((L.getD i []).getD k zT)).length:=rfl
  have h6:(ptB L (i+1)).length=(plB (ptB L i) (L.getD i []) (L.getD i []).length).length:=rfl
  have h7:(bsZ L).length=(ptB L L.length).length:=rfl
  exact⟨h1,by omega⟩
theorem zXH:(ppZ L lo hi).length=2*(bsZ L).length:=wR _ _
theorem zPN{n:Nat}(hn:n≤L.length):(zND L lo hi n).length=j7 L n:=by
  induction n with
  |zero=>rfl
  |succ n ih=>
   show List.length (zND L lo hi n++sfX L lo hi n ((bxZ L).getD n []).length)=j7 L n+_
   rw[lAz,ih (by omega),show(sfX L lo hi n ((bxZ L).getD n []).length).length=_ from wR _ _,zGK (by omega)]
end
end Bk
namespace Bk
set_option linter.unusedVariables false
set_option linter.unusedSimpArgs false
open Go Go.RowKit
section
variable {P:Program}{n:Nat}{w0:World}{h0:Mem}{e:List (Nat×Value)}{L:List Res}{h:Mem}{Q:Exit→Act→World→Prop}{ds:Option Tmp}{ty:TypeId}{ps:String}{af:Array Edge}{gd:Option (Nat×Bool)}{α β:Type}
variable {E:TypeId}{cs:List Value}{v:Value}{ρ:Rp α}{σ:Rp β}{g:List α→β}{s:List α→β→List α}{xs:List α}{off k:Nat}
theorem zFY{w:World}{h':Mem}(hm:.gs E ρ.n v xs.length cs∈L)(pc:Pc (rpA xs.length ρ) off σ g s)(hp:0<σ.n)(r:RL ρ h cs xs)(S:St w0 h0 L h' w):
    ∃b o',∀d,zK 1 v (off+d)=vP b (o'+off+d):=by
  have hf:off+σ.n≤xs.length*ρ.n:=pc.fits
  have hl:=r.len
  obtain⟨b,o',e1,e2,_⟩:=zGV (l:=1) (zFT hm S) (by decide) (show off+1≤cs.length by omega)
  refine⟨b,o',fun d=>?_⟩
  rw[e2]
  simp[zK,qW,Nat.add_assoc]
theorem tW{x:Operand}(pc:Pc (rpA xs.length ρ) off σ g s)(hk:k=off)(hp:0<σ.n)(r:RL ρ h cs xs)(hm:.gs E ρ.n v xs.length cs∈L)(hx:zI e x=some (zK 1 v k)):
    OpV P n w0 h0 ⟨ds,.nilCheck x,ty,ps,af,gd⟩ e L h (zK 1 v k):=by
  subst hk
  intro a w Ev S
  obtain⟨b,o',H⟩:=zFY hm pc hp r S
  have H0:=H 0
  rw[Nat.add_zero,Nat.add_zero] at H0
  rw[H0] at hx ⊢
  exact zHK hx a w Ev S
theorem gV{t:TypeId}{x:Operand}{f:Nat}{fs:Array Field}{fl:Field}{m:Nat}(pc:Pc (rpA xs.length ρ) off σ g s)(hk:k=off)(hp:0<σ.n)(r:RL ρ h cs xs)(hm:.gs E ρ.n v xs.length cs∈L)(ht:P.underlying t=some (.struct fs))(hf:fs[f]?=some fl)(hsz:∀w,(Go.sizeOf fl.type).run P w=.ok (m+1) w)(hx:zI e x=some (zK 1 v k)):
    OpV P n w0 h0 ⟨ds,.fieldAddr t x f,ty,ps,af,gd⟩ e L h (zK 1 v (k+fl.offset)):=by
  subst hk
  intro a w Ev S
  obtain⟨b,o',H⟩:=zFY hm pc hp r S
  have H0:=H 0
  rw[Nat.add_zero,Nat.add_zero] at H0
  rw[H]
  rw[H0] at hx
  exact xU ht hf hsz hx a w Ev S
theorem tD{t E':TypeId}{x y:Operand}{m sz:Nat}{q:Int}(i:Nat)(pc:Pc (rpA xs.length ρ) off σ g s)(hk:k=off)(hp:0<σ.n)(r:RL ρ h cs xs)(hm:.gs E ρ.n v xs.length cs∈L)(ht:P.underlying t=some (.array m E'))(hsz:∀w,(Go.sizeOf E').run P w=.ok sz w)(hx:zI e x=some (zK 1 v k))(hy:zI e y=some (vI q))(hq:q=(i:Int))(hi:i<m):
    OpV P n w0 h0 ⟨ds,.indexAddr t x y,ty,ps,af,gd⟩ e L h (zK 1 v (k+i*sz)):=by
  subst hk
  intro a w Ev S
  obtain⟨b,o',H⟩:=zFY hm pc hp r S
  have H0:=H 0
  rw[Nat.add_zero,Nat.add_zero] at H0
  rw[H]
  rw[H0] at hx
  exact xW i ht hsz hx hy hq hi a w Ev S
end
end Bk
namespace Go.Proofs.YtboaboflnckgoaaGreat
open Bk Go Tryz
set_option linter.unusedVariables false
set_option linter.unusedSimpArgs false
set_option maxRecDepth 10000
set_option maxHeartbeats 1000000
attribute [local irreducible] GL GC GQ W OpV
theorem uE{w0:World}{h0:Mem}(hs:MLe h0 (mem w0)){n:Int}(hn1:-9223372036854775808≤n)(hn2:n<9223372036854775808):
    Calls Tryz.prog 126 #[vI n] w0 (Ret w0 h0 (fun h r=>cD.Is h r (qZ ((n:Int):Rat)))):=by
 refine cb1 6 (vI n) func126 hs ?_
 refine zL (zE (asg rfl rfl (zR (zH (zL (zE (mv rfl rfl (cL (ev1 rfl) call39 (fun w hs=>jT hs oM oM) fun v4 h1 hh1 r4=>?_))))))))
 obtain⟨vn4_1,vd4_1,hv4_1,hn4_1,hd4_1,hlq4_1⟩:=qI r4
 subst hv4_1
 refine cL (ev1 rfl) call173 (fun w hs=>zNE hs hn4_1 hd4_1 oM) fun v5 h2 hh2 hr5=>?_
 subst hr5
 have htl5:=zBV ((n:Int):Rat)
 refine asg rfl rfl (zR (zH (bP (zD rfl rfl ?_))))
 exact(bM (zSC ((n:Int):Rat)))
set_option maxHeartbeats 1000000 in
theorem zN0{w0:World}{h0:Mem}(hs:MLe h0 (mem w0)){k l1 l2:Nat}{vL:Value}{L:(List (List Tq))}(rL:(tLL k).Is h0 vL L){vlo:Value}{lo:Rat}(rlo:(rpQ l1).Is h0 vlo lo){vhi:Value}{hi:Rat}(rhi:(rpQ l2).Is h0 vhi hi)(hcd0:k≤20)(hcd1:l1≤20)(hcd2:l2≤20)(hcd3:∀x,x∈L→lY x)(hcd4:prE L lo hi=0→okS (prR L lo hi)):
    Calls Tryz.prog 81 #[vL,vlo,vhi] w0 (rT w0 h0 (fun h r L_=>∃u0 vF cs,r=.tuple #[u0,vI (prE L lo hi)]∧(rpP (tLs (k+l1+l2+20)) (rpP rpV (rpS (rpP rpI (rpP rpI (rpQ 5)))))).Is h u0 (prP L lo hi,(vF,[]))∧L_=[.gs 83 14 vF (prF L lo hi).length cs]∧vF.oneCell'=true∧RL (tFc (1000*k+1000*l1+1000*l2+2000) (1000*k+1000*l1+1000*l2+2000)) h cs (prF L lo hi))):=by
 refine cb3 341 vL vlo vhi func81 hs ?_
 refine zL (zE (nB rlo fun b4 cs4 rb4=>(nB rhi fun b5 cs5 rb5=>(nA (ρ:=(rpP (tLs 1) (rpP rpV (rpS (rpP rpI (rpP rpI (rpQ 1))))))) (X:=([],((Value.slice none 0 0),[]))) sD (yJ qQ (yJ cY qQ)) fun b6 cs6 rb6=>(asg (v:=vI (0)) rfl rfl (zR (zH (zL (zL (zE (mv rfl rfl (cL (ev1 rfl) call123 (fun w hs=>zEH hs rL (by first|omega|exact hcd3) (by first|omega|exact hcd3)) fun v36 h1 hh1 r36=>?_))))))))))))
 obtain⟨v36_0,rfl,r36_0⟩:=r36
 change (rpS rpI).Is h1 v36_0 (fV L 0 1) at r36_0
 refine mv rfl rfl (gv (kL (vs:=[_,_]) rfl rfl) rfl (gv (kL (vs:=[_,_]) rfl rfl) rfl (asg rfl rfl (asg rfl rfl (zR (zH (zL (zE (mv rfl rfl (gv (oF (q:=0) rfl rfl) rfl (zR (wS (e':=[(0,_),(4,_),(5,_),(6,_),(9,_),(40,_)]) e6 (zH ?_)))))))))))))
 refine cnd (fun hc40=>?_) fun hc40=>?_
 ·
  refine zL (zE (lX (xV (ρ:=(rpP (tLs 1) (rpP rpV (rpS (rpP rpI (rpP rpI (rpQ 1))))))) (xR (ps':=[]) underlying50 sD rfl rfl (bA underlying50) trivial rfl (yJ qQ (yJ cY qQ)) zX)) fun v41 r41=>(mv rfl rfl ?_)))
  replace rb6:=rb6.mono hh1
  refine zO (A:=[]) (uB sizeOf50 pH rb6 r41) fun cs_2 rb_3=>(asg rfl rfl (zR (zH (bP (aI ?_)))))
  obtain⟨e1,e2,e3⟩:=pr_1 (lo:=lo) (hi:=hi) hc40
  rw[e1,e2,e3]
  refine cV 83 14 ?_
  have rl_4:RL (tFc (1000*k+1000*l1+1000*l2+2000) (1000*k+1000*l1+1000*l2+2000)) h1 [] ([]:List (Pq×((List (List Int))×(List Nat)))):=RL.nil
  refine wH (jO (t:=6) gH mh1 rfl rb_3) ?_
  intro w_5 hvw_5 rr_6
  refine gX (.cons_cons _ (List.nil_sublist _)) (fun E S=>wL rfl hvw_5 (qN rfl) E S) ?_
  exact⟨_,_,_,rfl,(Rp.Is.le rr_6 (Le.p (Le.s (Le.t (Le.q (l:=k+l1+l2+20) oM))) (Le.p (Le.refl _) (Le.s (Le.p (Le.refl _) (Le.p (Le.refl _) (Le.q (l:=5) dC))))))),rfl,rfl,rl_4⟩
 refine uQ (zH (zL (zL (zE (mv rfl rfl ?_)))))
 have hn0:vT L 0 1=0:=Classical.not_not.1 hc40
 have hnl:=zUD hn0
 have hec:=zVV hnl.2
 replace rL:=rL.mono hh1
 refine cL (ev1 rfl) call124 (fun w hs=>zEI hs rL (by first|omega|exact fun l hl=>Nat.le_trans (hnl.2 l hl) dC) (by first|omega|exact fun l hl=>Nat.le_trans (hnl.2 l hl) dC) (by first|omega|exact fun l hl=>Nat.le_trans (hnl.2 l hl) dC)) fun v44 h2 hh2 r44=>?_
 obtain rfl:v44=vI (ouZ L):=r44
 have hou44:=x0 L L.length
 refine gv (oF (q:=1) rfl rfl) rfl (zR (zH ?_))
 refine cnd (fun hc45=>?_) fun hc45=>?_
 ·
  refine zL (zE (lX (xV (ρ:=(rpP (tLs 1) (rpP rpV (rpS (rpP rpI (rpP rpI (rpQ 1))))))) (xR (ps':=[]) underlying50 sD rfl rfl (bA underlying50) trivial rfl (yJ qQ (yJ cY qQ)) zX)) fun v46 r46=>?_))
  replace rb6:=rb6.mono (hh1.trans hh2)
  refine zO (A:=[]) (uB sizeOf50 pH rb6 r46) fun cs_7 rb_8=>(asg (v:=vI (33)) rfl rfl (zR (zH (bP (aI ?_)))))
  obtain⟨e1,e2,e3⟩:=zZ1 (lo:=lo) (hi:=hi) hn0 hc45
  rw[e1,e2,e3]
  refine cV 83 14 ?_
  have rl_9:RL (tFc (1000*k+1000*l1+1000*l2+2000) (1000*k+1000*l1+1000*l2+2000)) h2 [] ([]:List (Pq×((List (List Int))×(List Nat)))):=RL.nil
  refine wH (jO (t:=6) gH mh1 rfl rb_8) ?_
  intro w_10 hvw_10 rr_11
  refine gX (.cons_cons _ (List.nil_sublist _)) (fun E S=>wL rfl hvw_10 (qN rfl) E S) ?_
  exact⟨_,_,_,rfl,(Rp.Is.le rr_11 (Le.p (Le.s (Le.t (Le.q (l:=k+l1+l2+20) oM))) (Le.p (Le.refl _) (Le.s (Le.p (Le.refl _) (Le.p (Le.refl _) (Le.q (l:=5) dC))))))),rfl,rfl,rl_9⟩
 refine uQ (zH (zL (zL (zE ?_))))
 replace rb4:=rb4.mono (hh1.trans hh2)
 refine lX (xB zV pH rb4) fun v47 r47=>?_
 replace rb5:=rb5.mono (hh1.trans hh2)
 refine lX (xB zV pH rb5) fun v48 r48=>(cL (ev2 rfl rfl) call18 (fun w hs=>uX hs r47 r48 oM) fun v49 h3 hh3 r49=>?_)
 obtain rfl:v49=vI (wB lo hi):=r49
 have hcr49:=uF lo hi
 refine gv (fT (q:=0) rfl rfl) rfl (zR (zH ?_))
 refine cnd (fun hc50=>?_) fun hc50=>?_
 ·
  refine zGF (e':=[(6,_)]) ⟨rfl,trivial⟩ (zL (zE (lX (xV (ρ:=(rpP (tLs 1) (rpP rpV (rpS (rpP rpI (rpP rpI (rpQ 1))))))) (xR (ps':=[]) underlying50 sD rfl rfl (bA underlying50) trivial rfl (yJ qQ (yJ cY qQ)) zX)) fun v51 r51=>?_)))
  replace rb6:=rb6.mono ((hh1.trans hh2).trans hh3)
  refine zO (A:=[]) (uB sizeOf50 pH rb6 r51) fun cs_12 rb_13=>(asg (v:=vI (9)) rfl rfl (zR (zH (bP (aI ?_)))))
  obtain⟨e1,e2,e3⟩:=pr_9 hn0 (Classical.not_not.1 hc45) hc50
  rw[e1,e2,e3]
  refine cV 83 14 ?_
  have rl_14:RL (tFc (1000*k+1000*l1+1000*l2+2000) (1000*k+1000*l1+1000*l2+2000)) h3 [] ([]:List (Pq×((List (List Int))×(List Nat)))):=RL.nil
  refine wH (jO (t:=6) gH mh1 rfl rb_13) ?_
  intro w_15 hvw_15 rr_16
  refine gX (.cons_cons _ (List.nil_sublist _)) (fun E S=>wL rfl hvw_15 (qN rfl) E S) ?_
  exact⟨_,_,_,rfl,(Rp.Is.le rr_16 (Le.p (Le.s (Le.t (Le.q (l:=k+l1+l2+20) oM))) (Le.p (Le.refl _) (Le.s (Le.p (Le.refl _) (Le.p (Le.refl _) (Le.q (l:=5) dC))))))),rfl,rfl,rl_14⟩
 refine uQ (zH (zL (zE (nA (ρ:=(rpP rpV (rpP rpV (rpS (rpP rpI (rpP rpI (rpQ 1))))))) (X:=((Value.slice none 0 0),((Value.slice none 0 0),[]))) sD (yJ cY (yJ cY qQ)) fun b10 cs10 rb10=>(zR (zH (zL (zE (asg rfl rfl (zR (zH (zL (zE ?_)))))))))))))
 refine asg rfl rfl (zR (zH (zL (zE (asg rfl rfl (zR (zH (zL (zL (zE (asg (v:=vI (0)) rfl rfl (zR (zH ?_)))))))))))))
 refine wT (xO 116 2 ?_)
 have rl_17:RL (rpA 2 rpI) h3 [] ([]:List (List Int)):=RL.nil
 refine xO 53 9 ?_
 have rl_18:RL (tPt (k+1)) h3 [] ([]:List Tq):=RL.nil
 refine xO 32 1 ?_
 have rl_19:RL (rpS rpI) h3 [] ([]:List (List Int)):=RL.nil
 refine gcL (ι:=Nat×List (List Int)×List Tq×List (List Int)×Value×List Value×Value×List Value×Value×List Value×Mem) (fun(i,ED,BB,II,s11_20,cs_23,s12_21,cs_25,s13_22,cs_27,ma)=>(MLe h3 ma∧(RL (rpA 2 rpI) ma cs_23 ED∧RL (tPt (k+1)) ma cs_25 BB∧RL (rpS rpI) ma cs_27 II∧i≤L.length∧ED.length=j7 L i∧BB=ptB L i∧II=ptN L i),[(0,vL),(4,vP b4 0),(5,vP b5 0),(6,vP b6 0),(10,vP b10 0),(11,s11_20),(12,s12_21),(13,s13_22),(14,vI ↑i)],[.gs 32 1 s13_22 II.length cs_27,.gs 53 9 s12_21 BB.length cs_25,.gs 116 2 s11_20 ED.length cs_23,.var b10 50 cs10,.var b6 50 cs6,.var b5 26 cs5,.var b4 26 cs4],ma,L.length-i)) (0,[],[],[],(.slice none 0 0),[],(.slice none 0 0),[],(.slice none 0 0),[],h3) ?_ ?_
 ·
  refine⟨MLe.refl _,?_⟩
  refine⟨rl_17,rl_18,rl_19,?_⟩
  exact⟨by omega,rfl,rfl,rfl⟩
 intro x hx
 obtain⟨i,ED,BB,II,s11_20,cs_23,s12_21,cs_25,s13_22,cs_27,ma⟩:=x
 dsimp only at hx
 obtain⟨hmma,hinv⟩:=hx
 refine yR ?_
 obtain⟨rl_24,rl_26,rl_28,hinv⟩:=hinv
 obtain⟨hi1,hED,hBB,hII⟩:=hinv
 have hbl:=zLT L i
 have heci:=hec i hi1
 have hIl:II.length=i:=by rw[hII];exact wR _ _
 rw[←hBB] at hbl
 refine zL (zL (zE (mv rfl rfl (mv rfl rfl ?_))))
 replace rL:=rL.mono ((hh2.trans hh3).trans hmma)
 refine gv (uS underlying115 rfl rL) rfl (gv (yL rfl rfl) rfl (zR (zH ?_)))
 refine cnd (fun hc55=>?_) fun hc55=>?_
 ·
  refine uQ (zH (zL (wT (zL (zE (asg rfl rfl (zR (zH (zL (zL (zE (asg (v:=vI (0)) rfl rfl (zR ?_)))))))))))))
  refine zH (wT (xO 3 1 ?_))
  have rl_29:RL rpI ma [] ([]:List Int):=RL.nil
  refine gcL (ι:=Nat×List Tq×List Int×Value×List Value×Value×List Value×Mem) (fun(q,B2,LN,s12_30,cs_32,s15_31,cs_34,mb)=>(MLe ma mb∧(RL (tPt (k+1)) mb cs_32 B2∧RL rpI mb cs_34 LN∧q≤(L.getD i []).length∧B2=plB (ptB L i) (L.getD i []) q∧LN=plN (ptB L i) (L.getD i []) q),[(0,vL),(4,vP b4 0),(5,vP b5 0),(6,vP b6 0),(10,vP b10 0),(11,s11_20),(12,s12_30),(13,s13_22),(14,vI ↑i),(15,s15_31),(16,vI ↑q)],[.gs 3 1 s15_31 LN.length cs_34,.gs 32 1 s13_22 II.length cs_27,.gs 53 9 s12_30 B2.length cs_32,.gs 116 2 s11_20 ED.length cs_23,.var b10 50 cs10,.var b6 50 cs6,.var b5 26 cs5,.var b4 26 cs4],mb,(L.getD i []).length-q)) (0,BB,[],s12_21,cs_25,(.slice none 0 0),[],ma) ?_ ?_
  ·
   refine⟨MLe.refl _,?_⟩
   refine⟨rl_26,rl_29,?_⟩
   exact⟨by omega,by rw[hBB];rfl,rfl⟩
  intro x hx
  obtain⟨q,B2,LN,s12_30,cs_32,s15_31,cs_34,mb⟩:=x
  dsimp only at hx
  obtain⟨hmmb,hinv⟩:=hx
  refine yR ?_
  obtain⟨rl_33,rl_35,hinv⟩:=hinv
  obtain⟨hq1,hB2,hLN⟩:=hinv
  have hb2:=zFP (ptB L i) (L.getD i []) q
  rw[←hB2,←hBB] at hb2
  have hLl:LN.length=q:=by rw[hLN];exact wR _ _
  have hxl:=hnl.2 i oM
  refine zL (zL (zE (mv rfl rfl (mv rfl rfl (mv rfl rfl ?_)))))
  replace rL:=rL.mono hmmb
  refine lX (xI [] i underlying115 uW rL) fun v61 r61=>(lX (xA uW r61) fun v62 r62=>(gv (uS underlying46 rfl r62) rfl (gv (yL rfl rfl) rfl (zR (zH ?_)))))
  refine cnd (fun hc64=>?_) fun hc64=>?_
  ·
   refine uQ (zH (zL (wT (zL (zE (asg (v:=vI (-1)) rfl rfl (zR (zH (zL (zL (zE (asg (v:=vI (0)) rfl rfl (zR ?_)))))))))))))
   refine zH (wT ?_)
   refine vG (ι:=Nat×Mem) (fun(j,mj)=>MLe mb mj∧(j≤B2.length)) (fun(j,mj)=>[(0,vL),(4,vP b4 0),(5,vP b5 0),(6,vP b6 0),(10,vP b10 0),(11,s11_20),(12,s12_30),(13,s13_22),(14,vI ↑i),(15,s15_31),(16,vI ↑q),(17,vI (j4 B2 ((L.getD i []).getD q zT) j)),(18,vI ↑j)]) (fun(j,mj)=>[.gs 3 1 s15_31 LN.length cs_34,.gs 32 1 s13_22 II.length cs_27,.gs 53 9 s12_30 B2.length cs_32,.gs 116 2 s11_20 ED.length cs_23,.var b10 50 cs10,.var b6 50 cs6,.var b5 26 cs5,.var b4 26 cs4]) (fun(j,mj)=>mj) (fun(j,mj)=>B2.length-j) (0,mb) ?_ ⟨rfl,rfl,rfl,rfl,rfl,rfl,rfl,rfl,rfl,rfl,rfl,rfl,rfl,trivial⟩ rfl rfl ?_
   ·
    refine⟨MLe.refl _,?_⟩
    exact oM
   intro x hx
   obtain⟨j,mj⟩:=x
   obtain⟨hmmj,hinv⟩:=hx
   refine yR ?_
   have hj1:=hinv
   have hfr:=zC5 B2 ((L.getD i []).getD q zT) j
   refine zL (zL (zE (mv rfl rfl (mv rfl rfl (gv (kX mh2 underlying46 rfl) rfl (gv (yL rfl rfl) rfl (zR (zH ?_))))))))
   refine cnd (fun hc70=>?_) fun hc70=>?_
   ·
    refine uQ (zH (zL (wT (zL ?_))))
    refine gD 30 (qq 0 13 ((13,.c)::(qq 14 14 [(28,.c),(29,.q)]))) (uA [0,0,3,4,8,0,0,96,128,0,768,1024,2048,4112,8192,16384,16384,114688,147456,278528,16384,16384,3162112,4210688,16384,25182208,33570816,67125248,134758400,268451840] (frz 1073741823 [0,0,3,4,8,0,0,96,128,0,768,1024,2048,4112,8192,16384,16384,114688,147456,278528,16384,16384,3162112,4210688,16384,25182208,33570816,67125248,134758400,268451840]) (by kernel_rfl)) ?_
    refine qD rfl rfl rfl (qD rfl rfl rfl (w_q rfl (fun h' L' hh hR=>(yY j (hR _ mh2) underlying46 sizeOf53 rfl rfl rfl bO nP).cv (show _=zK 1 s12_30 ((j*9+0)) from congrArg (zK 1 s12_30) (by rfl))) rfl ?_))
    replace rl_33:=rl_33.mono hmmj
    refine w_q rfl (fun h' L' hh hR=>(tD (sz:=3) (q:=0) 0 (Pc.arr (Pc.here _) zT j bO) rfl nP (rl_33.mono hh) (hR _ mh2) underlying53 sizeOf26 rfl rfl rfl dC).cv (show _=zK 1 s12_30 ((j*9+0)) from congrArg (zK 1 s12_30) (by show(j*9+0)+0*3=(j*9+0);omega))) rfl (mV (F:=fun v_=>(rpQ (k+1)).Is mj v_ ((B2.getD j zT).x)) rfl (wU zV (Pc.arr (Pc.tx (Pc.here _)) zT j bO) rfl nP rfl rl_33 rfl) (tM mh2) rfl ?_)
    intro v77 r77
    refine qD rfl rfl rfl (qD rfl rfl rfl ?_)
    replace rL:=rL.mono hmmj
    refine wX rfl (xI [] i underlying115 uW rL) fun v80 r80=>(wX rfl (xA uW r80) fun v81 r81=>(qD rfl rfl rfl (wX rfl (xI zT q underlying46 zW r81) fun v83 r83=>(mV (F:=fun v_=>AtP (rpQ k) mj v_ (((L.getD i []).getD q zT).x)) rfl (zED (q:=0) 0 underlying53 sizeOf26 (Pc.tx (Pc.here _)) rfl rfl rfl r83 rfl dC rfl) zDV rfl ?_))))
    intro v84 r84
    refine wX rfl (xA zV r84) fun v85 r85=>?_
    refine w_c rfl (sC (ev2 rfl rfl) call15 (fun w hs=>vS hs r77 r85 oM) fun v86 h4 hh4 r86=>?_)
    obtain rfl:v86=vB (((B2.getD j zT).x)=(((L.getD i []).getD q zT).x)):=r86
    refine qD rfl rfl rfl ?_
    refine gR (((B2.getD j zT).x)=(((L.getD i []).getD q zT).x)) (fun hg_36=>?_) (fun hg_36=>?_)
    ·
     rw[xL hg_36]
     refine yP rfl rfl rfl (fun h' L' hh hR=>yU rfl) rfl (yP rfl rfl rfl (fun h' L' hh hR=>yU rfl) rfl (yP rfl rfl rfl (fun h' L' hh hR=>(yY j (hR _ mh2) underlying46 sizeOf53 rfl rfl rfl bO nP).cv (show _=zK 1 s12_30 ((j*9+0)) from congrArg (zK 1 s12_30) (by rfl))) rfl ?_))
     replace rl_33:=rl_33.mono hh4
     refine yP rfl rfl rfl (fun h' L' hh hR=>(tD (sz:=3) (q:=1) 1 (Pc.arr (Pc.here _) zT j bO) rfl nP (rl_33.mono hh) (hR _ mh2) underlying53 sizeOf26 rfl rfl rfl dC).cv (show _=zK 1 s12_30 ((j*9+3)) from congrArg (zK 1 s12_30) (by show(j*9+0)+1*3=(j*9+3);omega))) rfl (aB (F:=fun v_=>(rpQ (k+1)).Is h4 v_ ((B2.getD j zT).y)) rfl rfl rfl (wU zV (Pc.arr (Pc.ty (Pc.here _)) zT j bO) rfl nP rfl rl_33 rfl) (tM mh2) rfl ?_)
     intro v92 r92
     refine yP rfl rfl rfl (fun h' L' hh hR=>yU rfl) rfl (yP rfl rfl rfl (fun h' L' hh hR=>yU rfl) rfl ?_)
     replace rL:=rL.mono hh4
     refine oX rfl (xI [] i underlying115 uW rL) fun v95 r95=>(oX rfl (xA uW r95) fun v96 r96=>(yP rfl rfl rfl (fun h' L' hh hR=>yU rfl) rfl (oX rfl (xI zT q underlying46 zW r96) fun v98 r98=>(aB (F:=fun v_=>AtP (rpQ k) h4 v_ (((L.getD i []).getD q zT).y)) rfl rfl rfl (zED (q:=1) 1 underlying53 sizeOf26 (Pc.ty (Pc.here _)) rfl rfl rfl r98 rfl dC rfl) zDV rfl ?_))))
     intro v99 r99
     refine oX rfl (xA zV r99) fun v100 r100=>?_
     refine w_c rfl (fN rfl rfl (sC (ev2 rfl rfl) call15 (fun w hs=>vS hs r92 r100 oM) fun v101 h5 hh5 r101=>?_))
     obtain rfl:v101=vB (((B2.getD j zT).y)=(((L.getD i []).getD q zT).y)):=r101
     refine wF rfl (fun _ _=>rK rfl rfl) rfl (rD (wS (e':=[(0,_),(4,_),(5,_),(6,_),(10,_),(11,_),(12,_),(13,_),(14,_),(15,_),(16,_),(17,_),(18,_),(102,_)]) ⟨rfl,rfl,rfl,rfl,rfl,rfl,rfl,rfl,rfl,rfl,rfl,rfl,rfl,rfl,trivial⟩ (zH ?_)))
     refine cnd (fun hc102=>?_) fun hc102=>?_
     ·
      refine zE (mv rfl rfl (asg rfl rfl (zR (tN (zH (zE (mv rfl rfl (gv (yB (q:=1) rfl rfl oM oM) rfl (asg rfl rfl (zR ?_))))))))))
      refine yO ((j+1),h5) ?_ ?_ ⟨rfl,rfl,rfl,rfl,rfl,rfl,rfl,rfl,rfl,rfl,rfl,?_,rfl,trivial⟩ rfl rfl
      ·
       refine⟨((hmmj.trans hh4).trans hh5),?_⟩
       exact oM
      ·
       dsimp only
       omega
      · exact congrArg (fun z=>some (vI z)) (fd_t ⟨by assumption,hc102⟩)
     refine uQ (tN (zH (zE (mv rfl rfl (gv (yB (q:=1) rfl rfl oM oM) rfl (asg rfl rfl (zR ?_)))))))
     refine yO ((j+1),h5) ?_ ?_ ⟨rfl,rfl,rfl,rfl,rfl,rfl,rfl,rfl,rfl,rfl,rfl,?_,rfl,trivial⟩ rfl rfl
     ·
      refine⟨((hmmj.trans hh4).trans hh5),?_⟩
      exact oM
     ·
      dsimp only
      omega
     · exact congrArg (fun z=>some (vI z)) (zYO (fun e=>hc102 e.2))
    rw[yS hg_36]
    refine wY rfl rfl rfl rfl rfl (wY rfl rfl rfl rfl rfl (wY rfl rfl rfl rfl rfl (wY rfl rfl rfl rfl rfl (wY rfl rfl rfl rfl rfl (wY rfl rfl rfl rfl rfl (wY rfl rfl rfl rfl rfl (wY rfl rfl rfl rfl rfl (wY rfl rfl rfl rfl rfl (wY rfl rfl rfl rfl rfl (wY rfl rfl rfl rfl rfl (wY rfl rfl rfl rfl rfl (wY rfl rfl rfl rfl rfl ?_))))))))))))
    refine w_c rfl (iD rfl rfl rfl rfl (wF rfl (fun _ _=>rM rfl rfl) rfl (rD (wS (e':=[(0,_),(4,_),(5,_),(6,_),(10,_),(11,_),(12,_),(13,_),(14,_),(15,_),(16,_),(17,_),(18,_),(102,_)]) ⟨rfl,rfl,rfl,rfl,rfl,rfl,rfl,rfl,rfl,rfl,rfl,rfl,rfl,rfl,trivial⟩ (zH (zEY rfl (uQ (tN (zH (zE (mv rfl rfl (gv (yB (q:=1) rfl rfl oM oM) rfl (asg rfl rfl ?_)))))))))))))
    refine zR ?_
    refine yO ((j+1),h4) ?_ ?_ ⟨rfl,rfl,rfl,rfl,rfl,rfl,rfl,rfl,rfl,rfl,rfl,?_,rfl,trivial⟩ rfl rfl
    ·
     refine⟨(hmmj.trans hh4),?_⟩
     exact oM
    ·
     dsimp only
     omega
    · exact congrArg (fun z=>some (vI z)) (zYO (fun e=>absurd e.1 (by assumption)))
   refine kS (uK (uK (kR (zH (zL (zL (zE (mv rfl rfl (gv (yL (q:=0) rfl rfl) rfl (zR (zH ?_)))))))))))
   refine cnd (fun hc105=>?_) fun hc105=>?_
   ·
    have ej:j=B2.length:=by omega
    have hfz:fdZ B2 ((L.getD i []).getD q zT)<0:=by unfold fdZ;rw[←ej];exact hc105
    refine zL (zE (mv rfl rfl (gv (kX mh2 underlying46 rfl) rfl (asg rfl rfl (zR (zH (zE (mv rfl rfl (mv rfl rfl (mv rfl rfl ?_))))))))))
    replace rL:=rL.mono hmmj
    refine lX (xI [] i underlying115 uW rL) fun v111 r111=>(lX (xA uW r111) fun v112 r112=>(mv rfl rfl (lX (xI zT q underlying46 zW r112) fun v114 r114=>(lX (xA zW r114) fun v115 r115=>(zG (zU (ρ:=(tPt (k+1))) (m:=1) (xs:=[((L.getD i []).getD q zT)]) (ps':=[(0,_)]) underlying46 xC rfl rfl rfl (wG (yE oM)) e2z (zJ rfl (Pc.arr (Pc.here _) zT 0 dC) (r115.le (Le.t (Le.q (l:=k+1) oM))) zX) (show 1*9≤16777216 from by decide) nP) rfl rfl rfl ?_)))))
    intro v116 q116 hq116
    obtain⟨cs116,rfl,rl116⟩:=hq116
    refine yH (A:=[]) (ρ:=(tPt (k+1))) rl116 ?_
    intro h4 hh4 rs_37
    replace rl_33:=rl_33.mono (hmmj.trans hh4)
    refine xS (A:=[_,_]) (jG (yD (ρ:=(tPt (k+1))) (bytes:=168) underlying46 xC rfl rfl rfl rfl nP rfl rfl rl_33 rs_37 bO bO)) rfl rfl rfl ?_
    intro v117 q117 hq117
    obtain⟨ho117,cs117,rfl,rl117⟩:=hq117
    refine asg rfl rfl (zR (wS (e':=[(0,_),(4,_),(5,_),(6,_),(10,_),(11,_),(13,_),(14,_),(15,_),(16,_),(17,_),(12,_)]) ⟨rfl,rfl,rfl,rfl,rfl,rfl,rfl,rfl,rfl,rfl,rfl,rfl,trivial⟩ (zH (zE (mv rfl rfl (mv rfl rfl (zG (zU (ρ:=rpI) (m:=1) (xs:=[(↑B2.length:Int)]) (ps':=[(0,_)]) underlying32 gB rfl rfl rfl wK e2z (zJ rfl (Pc.arr (Pc.here _) (0:Int) 0 dC) (jB oM oM) zX) (show 1*1≤16777216 from by decide) nP) rfl rfl rfl ?_)))))))
    intro v120 q120 hq120
    obtain⟨cs120,rfl,rl120⟩:=hq120
    refine yH (A:=[]) (ρ:=rpI) rl120 ?_
    intro h5 hh5 rs_38
    replace rl_35:=rl_35.mono ((hmmj.trans hh4).trans hh5)
    refine xS (A:=[]) (jG (yD (ρ:=rpI) (bytes:=8) underlying32 gB rfl rfl rfl rfl nP rfl rfl rl_35 rs_38 bO bO)) rfl rfl rfl ?_
    intro v121 q121 hq121
    obtain⟨ho121,cs121,rfl,rl121⟩:=hq121
    refine asg rfl rfl (zR (tN (zH (zE (mv rfl rfl (gv (yB (q:=1) rfl rfl oM oM) rfl (asg rfl rfl (zR ?_))))))))
    refine yO ((q+1),(B2++[((L.getD i []).getD q zT)]),(LN++[(↑B2.length:Int)]),v117,cs117,v121,cs121,h5) ?_ ?_ e11 rfl rfl
    ·
     refine⟨(((hmmb.trans hmmj).trans hh4).trans hh5),?_⟩
     replace rl117:=rl117.mono hh5
     refine⟨rl117,rl121,?_⟩
     exact⟨by omega,by rw[hB2] at hfz ⊢;exact(if_pos hfz).symm,by rw[hLN,show(↑B2.length:Int)=adN (plB (ptB L i) (L.getD i []) q) ((L.getD i []).getD q zT) from by rw[hB2] at hfz ⊢;exact(if_pos hfz).symm];rfl⟩
    dsimp only
    omega
   have ej:j=B2.length:=by omega
   have hfz:¬fdZ B2 ((L.getD i []).getD q zT)<0:=by unfold fdZ;rw[←ej];exact hc105
   refine uQ (zH (zE (mv rfl rfl (mv rfl rfl (zG (zU (ρ:=rpI) (m:=1) (xs:=[(j4 B2 ((L.getD i []).getD q zT) j)]) (ps':=[(0,_)]) underlying32 gB rfl rfl rfl wK e2z (zJ rfl (Pc.arr (Pc.here _) (0:Int) 0 dC) (jB oM oM) zX) (show 1*1≤16777216 from by decide) nP) rfl rfl rfl ?_)))))
   intro v120 q120 hq120
   obtain⟨cs120,rfl,rl120⟩:=hq120
   refine yH (A:=[]) (ρ:=rpI) rl120 ?_
   intro h4 hh4 rs_39
   replace rl_35:=rl_35.mono (hmmj.trans hh4)
   refine xS (A:=[]) (jG (yD (ρ:=rpI) (bytes:=8) underlying32 gB rfl rfl rfl rfl nP rfl rfl rl_35 rs_39 bO bO)) rfl rfl rfl ?_
   intro v121 q121 hq121
   obtain⟨ho121,cs121,rfl,rl121⟩:=hq121
   refine asg rfl rfl (zR (tN (wS (e':=[(0,_),(4,_),(5,_),(6,_),(10,_),(11,_),(12,_),(13,_),(14,_),(16,_),(15,_)]) e11 (zH (zE (mv rfl rfl (gv (yB (q:=1) rfl rfl oM oM) rfl (asg rfl rfl (zR ?_)))))))))
   refine yO ((q+1),B2,(LN++[(j4 B2 ((L.getD i []).getD q zT) j)]),s12_30,cs_32,v121,cs121,h4) ?_ ?_ e11 rfl rfl
   ·
    refine⟨((hmmb.trans hmmj).trans hh4),?_⟩
    replace rl_33:=rl_33.mono (hmmj.trans hh4)
    refine⟨rl_33,rl121,?_⟩
    exact⟨by omega,by rw[hB2] at hfz ⊢;exact(if_neg hfz).symm,by rw[hLN,show j4 B2 ((L.getD i []).getD q zT) j=adN (plB (ptB L i) (L.getD i []) q) ((L.getD i []).getD q zT) from by rw[ej,hB2] at *;exact(if_neg hfz).symm];rfl⟩
   dsimp only
   omega
  have ek:q=(L.getD i []).length:=by omega
  refine kS (uK (uK (kR (zH (zL (zE (mv rfl rfl (mv rfl rfl (yH (A:=[]) (ρ:=rpI) rl_35 ?_)))))))))
  intro h4 hh4 rs_40
  refine zG (zU (ρ:=(rpS rpI)) (m:=1) (xs:=[LN]) (ps':=[(0,_)]) underlying81 jK rfl rfl rfl qQ e2z (zJ rfl (Pc.arr (Pc.here _) [] 0 dC) rs_40 zX) (show 1*1≤16777216 from by decide) nP) rfl rfl rfl ?_
  intro v124 q124 hq124
  obtain⟨cs124,rfl,rl124⟩:=hq124
  refine yH (A:=[]) (ρ:=(rpS rpI)) rl124 ?_
  intro h5 hh5 rs_41
  replace rl_28:=rl_28.mono ((hmmb.trans hh4).trans hh5)
  refine xS (A:=[]) (jG (yD (ρ:=(rpS rpI)) (bytes:=24) underlying81 jK rfl rfl rfl rfl nP rfl rfl rl_28 rs_41 bO bO)) rfl rfl rfl ?_
  intro v125 q125 hq125
  obtain⟨ho125,cs125,rfl,rl125⟩:=hq125
  refine asg rfl rfl (zR (wS (e':=[(0,_),(4,_),(5,_),(6,_),(10,_),(11,_),(12,_),(14,_),(15,_),(13,_)]) e10 (zH (zL (zE (asg (v:=vI (0)) rfl rfl (zR (zH (wT ?_)))))))))
  refine gcL (ι:=Nat×List (List Int)×Value×List Value×Mem) (fun(e,E2,s11_42,cs_43,me)=>(MLe h5 me∧(RL (rpA 2 rpI) me cs_43 E2∧e≤LN.length∧E2.length=j7 L i+e),[(0,vL),(4,vP b4 0),(5,vP b5 0),(6,vP b6 0),(10,vP b10 0),(11,s11_42),(12,s12_30),(13,v125),(14,vI ↑i),(15,s15_31),(19,vI ↑e)],[.gs 32 1 v125 (II++[LN]).length cs125,.gs 53 9 s12_30 B2.length cs_32,.gs 116 2 s11_42 E2.length cs_43,.var b10 50 cs10,.var b6 50 cs6,.var b5 26 cs5,.var b4 26 cs4],me,LN.length-e)) (0,ED,s11_20,cs_23,h5) ?_ ?_
  ·
   refine⟨MLe.refl _,?_⟩
   replace rl_24:=rl_24.mono ((hmmb.trans hh4).trans hh5)
   refine⟨rl_24,?_⟩
   exact⟨by omega,hED⟩
  intro x hx
  obtain⟨e,E2,s11_42,cs_43,me⟩:=x
  dsimp only at hx
  obtain⟨hmme,hinv⟩:=hx
  refine yR ?_
  obtain⟨rl_44,hinv⟩:=hinv
  obtain⟨he1,hE1⟩:=hinv
  have hxl:=hnl.2 i oM
  refine zL (zL (zE (mv rfl rfl (mv rfl rfl ?_))))
  replace rs_40:=rs_40.mono (hh5.trans hmme)
  refine gv (uS underlying32 rfl rs_40) rfl (gv (yL rfl rfl) rfl (zR (zH ?_)))
  refine cnd (fun hc129=>?_) fun hc129=>?_
  ·
   refine uQ (zH (zL (wT ?_)))
   refine jI (A:=[_,_]) 17 [] [(0,.q),(1,.q),(2,.q),(3,.q),(4,.q),(5,.q),(6,.q),(7,.q),(8,.q),(9,.q),(10,.q),(11,.q),(12,.q),(13,.q),(14,.c),(15,.c),(16,.q)] kQ nX (uA [0,0,0,6,8,0,0,64,0,256,640,1056,2048,4112,8192,16385,65535] [131071,131071,131071,131065,131063,131071,131071,131007,131071,130815,130431,130015,129023,126959,122879,114686,98302] (by kernel_rfl)) nX (qD rfl rfl rfl (qD rfl rfl rfl (qD rfl rfl rfl (wX rfl (xI (0:Int) e underlying32 ty3 rs_40) fun v135 r135=>(wX rfl (xA ty3 r135) fun v136 r136=>?_)))))
   obtain⟨rfl,hl136,hu136⟩:=jZ r136
   refine qD rfl rfl rfl (qD rfl rfl rfl (wF rfl (fun _ _=>yB (q:=1) rfl rfl oM oM) rfl (qD rfl rfl rfl (w_q rfl (fun h' L' hh hR=>uS underlying32 rfl (rs_40.mono hh)) rfl (wF rfl (fun _ _=>uH rfl rfl oM oM) rfl (wX rfl (xI (0:Int) ((e+1)%LN.length) underlying32 ty3 rs_40 (hi:=by exact Nat.mod_lt _ oM)) fun v143 r143=>(wX rfl (xA ty3 r143) fun v144 r144=>?_)))))))
   obtain⟨rfl,hl144,hu144⟩:=jZ r144
   refine wX rfl (xV (ρ:=(rpA 2 rpI)) (wQ (ps':=[(0,_),(1,_)]) underlying116 zBN rfl rfl sizeOf3 e4z rfl (zV9 2 wK) (zJ rfl (Pc.arr (Pc.here _) (0:Int) 0 dC) (jB oM oM) (zJ rfl (Pc.arr (Pc.here _) (0:Int) 1 dC) (jB oM oM) zX)))) fun v145 r145=>?_
   refine w_c rfl (kD (fun X=>zU (ρ:=(rpA 2 rpI)) (m:=1) (xs:=[[(LN.getD e (0:Int)),(LN.getD ((e+1)%LN.length) (0:Int))]]) (ps':=[(0,_)]) underlying153 zBN rfl rfl rfl (zV9 2 wK) e2z (zJ rfl (Pc.arr (Pc.here _) (List.replicate 2 (0:Int)) 0 dC) r145 zX) (show 1*2≤16777216 from by decide) nP) rfl ?_)
   intro v146 q146 hq146
   obtain⟨cs146,rfl,rl146⟩:=hq146
   refine w_c rfl (vD (A:=[]) (ρ:=(rpA 2 rpI)) rl146 dK ?_)
   intro h6 hh6 rs_45
   replace rl_44:=rl_44.mono hh6
   refine sH (A:=[_,_]) (fun X=>jG (yD (ρ:=(rpA 2 rpI)) (bytes:=16) underlying153 zBN rfl rfl rfl rfl nP rfl rfl rl_44 rs_45 bO bO)) rfl (vH (by first|(simp;done)|grind)) ?_
   intro v147 q147 hq147
   obtain⟨ho147,cs147,rfl,rl147⟩:=hq147
   refine zDM rfl rfl rfl (rD (tN (wS (e':=[(0,_),(4,_),(5,_),(6,_),(10,_),(12,_),(13,_),(14,_),(15,_),(19,_),(11,_)]) e11 (zH (zE (mv rfl rfl (gv (yB (q:=1) rfl rfl oM oM) rfl (asg rfl rfl (zR ?_)))))))))
   refine gqL ((e+1),(E2++[[(LN.getD e (0:Int)),(LN.getD ((e+1)%LN.length) (0:Int))]]),v147,cs147,h6) ?_ ?_
   ·
    refine⟨(hmme.trans hh6),?_⟩
    refine⟨rl147,?_⟩
    exact⟨by omega,by rw[lAz,hE1];rfl⟩
   omega
  have hE2:E2.length=j7 L i+LN.length:=by omega
  refine kS (uK (uK (kR (tN (zH (zE (mv rfl rfl (gv (yB (q:=1) rfl rfl oM oM) rfl (asg rfl rfl (zR ?_))))))))))
  refine gqL ((i+1),E2,B2,(II++[LN]),s11_42,cs_43,s12_30,cs_32,v125,cs125,me) ?_ ?_
  ·
   refine⟨((((hmma.trans hmmb).trans hh4).trans hh5).trans hmme),?_⟩
   replace rl_33:=rl_33.mono ((hh4.trans hh5).trans hmme)
   replace rl125:=rl125.mono hmme
   refine⟨rl_44,rl_33,rl125,?_⟩
   exact⟨by omega,by rw[hE2,hLl,ek];rfl,by rw[hB2,ek];rfl,by rw[hII,hLN,ek];rfl⟩
  omega
 have ei:i=L.length:=by omega
 have heci2:=hec L.length oM
 rw[ei] at hED hBB hII
 have hI1:II.length=L.length:=by rw[hII];exact wR _ _
 have hI2:∀i,i<L.length→(II.getD i []).length=(L.getD i []).length:=fun i hi=>by rw[hII];exact zGK hi
 have hrg:∀i q,i<L.length→q<(II.getD i []).length→0≤(II.getD i []).getD q 0∧(II.getD i []).getD q 0<↑BB.length:=fun i q hi hq=>by rw[hII] at hq ⊢;rw[hBB];exact zSD hi hq
 refine kS (uK (uK (kR (zH (zL (zE (mv rfl rfl (gv (kX mh1 underlying46 rfl) rfl (asg rfl rfl (zR (zH (zL (zL ?_)))))))))))))
 refine zE (mv rfl rfl (gv (bF (p:=2) rfl rfl oM oM) rfl (gv (lL (q:=512) rfl rfl) rfl ?_)))
 refine gU 6 158 (vB (((512:Int)<((2:Int)*(↑BB.length:Int)))∨((256:Int)<((↑ED.length:Int)+(2:Int))))) ?_ ?_
 ·
  refine zY ((512:Int)<((2:Int)*(↑BB.length:Int))) (fun hg=>?_) (fun hg=>?_)
  ·
   refine gT hg rfl (aV rfl rfl rfl rfl rfl rfl (aV rfl rfl rfl rfl rfl rfl (aV rfl rfl rfl rfl rfl rfl (aV rfl rfl rfl rfl rfl rfl (gv (rK rfl rfl) rfl (zR (gqU ?_)))))))
   exact congrArg some (wZ hg)
  refine gF hg rfl (iJ rfl rfl rfl (mv rfl rfl (iJ rfl rfl rfl (gv (kX mh2 underlying153 rfl) rfl (iJ rfl rfl rfl (gv (yB (q:=2) rfl rfl oM oM) rfl (iJ rfl rfl rfl (gv (lL (q:=256) rfl rfl) rfl (gv (rM rfl rfl) rfl (zR (gqU ?_)))))))))))
  exact congrArg some (vC hg)
 refine zR (zH ?_)
 refine cnd (fun hc158=>?_) fun hc158=>?_
 ·
  have hpb:prB L:=by unfold prB;show 512<2*(ptB L L.length).length∨_;rw[←hBB];omega
  refine zL (zE (lX (xV (ρ:=(rpP (tLs 1) (rpP rpV (rpS (rpP rpI (rpP rpI (rpQ 1))))))) (xR (ps':=[]) underlying50 sD rfl rfl (bA underlying50) trivial rfl (yJ qQ (yJ cY qQ)) zX)) fun v159 r159=>?_))
  replace rb6:=rb6.mono (((hh1.trans hh2).trans hh3).trans hmma)
  refine zO (A:=[_,_,_,_]) (uB sizeOf50 pH rb6 r159) fun cs_46 rb_47=>(asg (v:=vI (2)) rfl rfl (zR (zH (bP (aI ?_)))))
  obtain⟨e1,e2,e3⟩:=pr_2 hn0 (Classical.not_not.1 hc45) hc50 hpb
  rw[e1,e2,e3]
  refine cV 83 14 ?_
  have rl_48:RL (tFc (1000*k+1000*l1+1000*l2+2000) (1000*k+1000*l1+1000*l2+2000)) ma [] ([]:List (Pq×((List (List Int))×(List Nat)))):=RL.nil
  refine wH (jO (t:=6) gH mh5 rfl rb_47) ?_
  intro w_49 hvw_49 rr_50
  refine gX (.cons_cons _ (List.nil_sublist _)) (fun E S=>wL rfl hvw_49 (qN rfl) E S) ?_
  exact⟨_,_,_,rfl,(Rp.Is.le rr_50 (Le.p (Le.s (Le.t (Le.q (l:=k+l1+l2+20) oM))) (Le.p (Le.refl _) (Le.s (Le.p (Le.refl _) (Le.p (Le.refl _) (Le.q (l:=5) dC))))))),rfl,rfl,rl_48⟩
 have hpb:¬prB L:=by unfold prB;show ¬(512<2*(ptB L L.length).length∨_);rw[←hBB];omega
 obtain⟨he0,he1,he2⟩:=pr_0 hn0 (Classical.not_not.1 hc45) hc50 hpb
 refine uQ (zH (zL (zL (zE (asg (v:=vI (0)) rfl rfl (zR (zH (wT (xO 53 9 ?_)))))))))
 have rl_51:RL (tPt (k+l1+l2+5)) ma [] ([]:List Tq):=RL.nil
 refine gcL (ι:=Nat×List Tq×List Value×Value×List Value×Mem) (fun(i,PP,cs_53,sA_52,cs_55,mp)=>(MLe ma mp∧((rpP rpV (rpP rpV (rpS (rpP rpI (rpP rpI (rpQ 1)))))).R mp cs_53 (sA_52,(Value.slice none 0 0,[]))∧RL (tPt (k+l1+l2+5)) mp cs_55 PP∧sA_52.oneCell'=true∧i≤2*BB.length∧PP=zQE L lo hi i),[(4,vP b4 0),(5,vP b5 0),(6,vP b6 0),(10,vP b10 0),(12,s12_21),(13,s13_22),(20,vI (↑BB.length:Int)),(21,vI ↑i)],[.gs 53 9 sA_52 PP.length cs_55,.gs 32 1 s13_22 II.length cs_27,.gs 53 9 s12_21 BB.length cs_25,.gs 116 2 s11_20 ED.length cs_23,.var b10 50 cs_53,.var b6 50 cs6,.var b5 26 cs5,.var b4 26 cs4],mp,2*BB.length-i)) (0,[],cs10,(.slice none 0 0),[],ma) ?_ ?_
 ·
  refine⟨MLe.refl _,?_⟩
  replace rb10:=rb10.mono hmma
  refine⟨rb10,rl_51,rfl,?_⟩
  exact⟨by omega,rfl⟩
 intro x hx
 obtain⟨i,PP,cs_53,sA_52,cs_55,mp⟩:=x
 dsimp only at hx
 obtain⟨hmmp,hinv⟩:=hx
 refine yR ?_
 obtain⟨rb_54,rl_56,ho_57,hinv⟩:=hinv
 obtain⟨hi2,hPP⟩:=hinv
 have hPl:PP.length=i:=by rw[hPP];exact wR _ _
 refine zL (zL (zE (mv rfl rfl (mv rfl rfl (gv (bF (p:=2) rfl rfl oM oM) rfl (gv (yL rfl rfl) rfl (zR (zH ?_))))))))
 refine cnd (fun hc163=>?_) fun hc163=>?_
 ·
  refine uQ (zH (zL (wT (zL (zE ?_)))))
  replace rb4:=rb4.mono ((hh3.trans hmma).trans hmmp)
  refine lX (xB zV pH rb4) fun v166 r166=>(nA (ρ:=(rpQ 1)) (X:=(0:Rat)) yF (yE dC) fun b22 cs22 rb22=>?_)
  have rw_58:=(Le.q (l:=l1+1) oM).R rb22
  refine zO (A:=[]) (uB sizeOf26 pH rw_58 (r166.le (Le.q (l:=l1+1) oM))) fun cs_59 rb_60=>(zR (zH (zL (zL (zE (mv rfl rfl (mv rfl rfl (gv (fT rfl rfl) rfl (zR (zH ?_))))))))))
  refine cnd (fun hc169=>?_) fun hc169=>?_
  ·
   refine zE ?_
   replace rb5:=rb5.mono ((hh3.trans hmma).trans hmmp)
   refine lX (xB zV pH rb5) fun v170 r170=>?_
   have rw_61:=(Le.q (l:=l1+l2+1) oM).R rb_60
   refine zO (A:=[]) (uB sizeOf26 pH rw_61 (r170.le (Le.q (l:=l1+l2+1) oM))) fun cs_62 rb_63=>(zR (zH ?_))
   refine jI (A:=[_]) 21 [] [(0,.q),(1,.q),(2,.q),(3,.q),(4,.q),(5,.q),(6,.q),(7,.q),(8,.q),(9,.q),(10,.q),(11,.q),(12,.q),(13,.q),(14,.q),(15,.q),(16,.q),(17,.q),(18,.c),(19,.c),(20,.q),(21,.t)] kQ nX (uA [0,1,0,0,0,24,36,64,128,0,0,0,3072,4608,8192,16384,0,98560,131072,262146,1048575,2097151] [4194303,4194302,4194303,4194303,4194303,4194279,4194267,4194239,4194175,4194303,4194303,4194303,4191231,4189695,4186111,4177919,4194303,4095743,4063231,3932157,4194303,2621439] (by kernel_rfl)) nX (wF rfl (fun _ _=>(xU underlying50 rfl sizeOf46 rfl).cv (show _=vP b10 0 from congrArg (vP b10) (by rfl))) rfl (wX rfl (aR (xB uW (Pc.fst pH) rb_54)) fun v172 r172=>?_))
   subst r172
   refine qD rfl rfl rfl (qD rfl rfl rfl (qD rfl rfl rfl (wF rfl (fun _ _=>uH rfl rfl oM oM) rfl (w_q rfl (fun h' L' hh hR=>(yY (i%BB.length) (hR _ mh2) underlying46 sizeOf53 rfl rfl rP (by exact Nat.mod_lt _ oM) nP).cv (show _=zK 1 s12_21 (((i%BB.length)*9+0)) from congrArg (zK 1 s12_21) (by rfl))) rfl ?_))))
   replace rl_26:=rl_26.mono hmmp
   refine w_q rfl (fun h' L' hh hR=>(tD (sz:=3) (q:=0) 0 (Pc.arr (Pc.here _) zT (i%BB.length) (by exact Nat.mod_lt _ oM)) rfl nP (rl_26.mono hh) (hR _ mh2) underlying53 sizeOf26 rfl rfl rfl dC).cv (show _=zK 1 s12_21 (((i%BB.length)*9+0)) from congrArg (zK 1 s12_21) (by show((i%BB.length)*9+0)+0*3=((i%BB.length)*9+0);omega))) rfl (mV (F:=fun v_=>(rpQ (k+1)).Is mp v_ ((BB.getD (i%BB.length) zT).x)) rfl (wU zV (Pc.arr (Pc.tx (Pc.here _)) zT (i%BB.length) (by exact Nat.mod_lt _ oM)) rfl nP rfl rl_26 rfl) (tM mh2) rfl ?_)
   intro v179 r179
   refine qD rfl rfl rfl (qD rfl rfl rfl (qD rfl rfl rfl (wF rfl (fun _ _=>uH rfl rfl oM oM) rfl (w_q rfl (fun h' L' hh hR=>(yY (i%BB.length) (hR _ mh2) underlying46 sizeOf53 rfl rfl rP (by exact Nat.mod_lt _ oM) nP).cv (show _=zK 1 s12_21 (((i%BB.length)*9+0)) from congrArg (zK 1 s12_21) (by rfl))) rfl (w_q rfl (fun h' L' hh hR=>(tD (sz:=3) (q:=1) 1 (Pc.arr (Pc.here _) zT (i%BB.length) (by exact Nat.mod_lt _ oM)) rfl nP (rl_26.mono hh) (hR _ mh2) underlying53 sizeOf26 rfl rfl rfl dC).cv (show _=zK 1 s12_21 (((i%BB.length)*9+3)) from congrArg (zK 1 s12_21) (by show((i%BB.length)*9+0)+1*3=((i%BB.length)*9+3);omega))) rfl (mV (F:=fun v_=>(rpQ (k+1)).Is mp v_ ((BB.getD (i%BB.length) zT).y)) rfl (wU zV (Pc.arr (Pc.ty (Pc.here _)) zT (i%BB.length) (by exact Nat.mod_lt _ oM)) rfl nP rfl rl_26 rfl) (tM mh2) rfl ?_))))))
   intro v186 r186
   refine wX rfl (xB zV pH rb_63) fun v187 r187=>(wX rfl (xV (ρ:=(tPt (k+l1+l2+1))) (wQ (ps':=[(0,_),(1,_),(2,_)]) underlying53 xC rfl rfl sizeOf26 e6 rfl (wG (yE oM)) (zJ rfl (Pc.tx (Pc.here _)) (r179.le (Le.q (l:=k+l1+l2+1) oM)) (zJ rfl (Pc.ty (Pc.here _)) (r186.le (Le.q (l:=k+l1+l2+1) oM)) (zJ rfl (Pc.tz (Pc.here _)) (r187.le (Le.q (l:=k+l1+l2+1) oM)) zX))))) fun v188 r188=>?_)
   refine w_c rfl (kD (fun X=>zU (ρ:=(tPt (k+l1+l2+1))) (m:=1) (xs:=[(T3.mk ((BB.getD (i%BB.length) zT).x) ((BB.getD (i%BB.length) zT).y) hi)]) (ps':=[(0,_)]) underlying46 xC rfl rfl rfl (wG (yE oM)) e2z (zJ rfl (Pc.arr (Pc.here _) zT 0 dC) r188 zX) (show 1*9≤16777216 from by decide) nP) rfl ?_)
   intro v189 q189 hq189
   obtain⟨cs189,rfl,rl189⟩:=hq189
   refine w_c rfl (vD (A:=[]) (ρ:=(tPt (k+l1+l2+1))) rl189 dK ?_)
   intro h4 hh4 rs_64
   replace rl_56:=rl_56.mono hh4
   refine sH (A:=[_]) (fun X=>jG (yD (ρ:=(tPt (k+l1+l2+5))) (bytes:=168) underlying46 xC rfl rfl rfl rfl nP rfl rfl rl_56 (rs_64.le (Le.s (Le.t (Le.q (l:=k+l1+l2+5) oM)))) bO bO)) rfl (vH (by first|(simp;done)|grind)) ?_
   intro v190 q190 hq190
   obtain⟨ho190,cs190,rfl,rl190⟩:=hq190
   refine wF rfl (fun _ _=>(xU underlying50 rfl sizeOf46 rfl).cv (show _=vP b10 0 from congrArg (vP b10) (by rfl))) rfl ?_
   replace rb_54:=rb_54.mono hh4
   refine yQ (A:=[_,_,_,_,_]) rfl (uB sizeOf46 (Pc.fst pH) rb_54 (zC1 ho190)) fun cs_65 rb_66=>(rD (tN (wS (e':=[(4,_),(5,_),(6,_),(10,_),(12,_),(13,_),(20,_),(21,_)]) e8 (zH (zE (mv rfl rfl (gv (yB (q:=1) rfl rfl oM oM) rfl (asg rfl rfl (zR (uP (A:=[]) ?_))))))))))
   refine gqL ((i+1),(PP++[(T3.mk ((BB.getD (i%BB.length) zT).x) ((BB.getD (i%BB.length) zT).y) hi)]),cs_65,v190,cs190,h4) ?_ ?_
   ·
    refine⟨(hmmp.trans hh4),?_⟩
    refine⟨rb_66,rl190,ho190,?_⟩
    exact⟨by omega,by rw[hPP,hBB];exact congrArg (fun z=>zQE L lo hi i++[T3.mk _ _ z]) (if_pos (by have h9:=hc169;rw[hBB] at h9;exact h9)).symm⟩
   omega
  refine uQ (zH ?_)
  refine jI (A:=[_]) 21 [] [(0,.q),(1,.q),(2,.q),(3,.q),(4,.q),(5,.q),(6,.q),(7,.q),(8,.q),(9,.q),(10,.q),(11,.q),(12,.q),(13,.q),(14,.q),(15,.q),(16,.q),(17,.q),(18,.c),(19,.c),(20,.q),(21,.t)] kQ nX (uA [0,1,0,0,0,24,36,64,128,0,0,0,3072,4608,8192,16384,0,98560,131072,262146,1048575,2097151] [4194303,4194302,4194303,4194303,4194303,4194279,4194267,4194239,4194175,4194303,4194303,4194303,4191231,4189695,4186111,4177919,4194303,4095743,4063231,3932157,4194303,2621439] (by kernel_rfl)) nX (wF rfl (fun _ _=>(xU underlying50 rfl sizeOf46 rfl).cv (show _=vP b10 0 from congrArg (vP b10) (by rfl))) rfl (wX rfl (aR (xB uW (Pc.fst pH) rb_54)) fun v172 r172=>?_))
  subst r172
  refine qD rfl rfl rfl (qD rfl rfl rfl (qD rfl rfl rfl (wF rfl (fun _ _=>uH rfl rfl oM oM) rfl (w_q rfl (fun h' L' hh hR=>(yY (i%BB.length) (hR _ mh2) underlying46 sizeOf53 rfl rfl rP (by exact Nat.mod_lt _ oM) nP).cv (show _=zK 1 s12_21 (((i%BB.length)*9+0)) from congrArg (zK 1 s12_21) (by rfl))) rfl ?_))))
  replace rl_26:=rl_26.mono hmmp
  refine w_q rfl (fun h' L' hh hR=>(tD (sz:=3) (q:=0) 0 (Pc.arr (Pc.here _) zT (i%BB.length) (by exact Nat.mod_lt _ oM)) rfl nP (rl_26.mono hh) (hR _ mh2) underlying53 sizeOf26 rfl rfl rfl dC).cv (show _=zK 1 s12_21 (((i%BB.length)*9+0)) from congrArg (zK 1 s12_21) (by show((i%BB.length)*9+0)+0*3=((i%BB.length)*9+0);omega))) rfl (mV (F:=fun v_=>(rpQ (k+1)).Is mp v_ ((BB.getD (i%BB.length) zT).x)) rfl (wU zV (Pc.arr (Pc.tx (Pc.here _)) zT (i%BB.length) (by exact Nat.mod_lt _ oM)) rfl nP rfl rl_26 rfl) (tM mh2) rfl ?_)
  intro v179 r179
  refine qD rfl rfl rfl (qD rfl rfl rfl (qD rfl rfl rfl (wF rfl (fun _ _=>uH rfl rfl oM oM) rfl (w_q rfl (fun h' L' hh hR=>(yY (i%BB.length) (hR _ mh2) underlying46 sizeOf53 rfl rfl rP (by exact Nat.mod_lt _ oM) nP).cv (show _=zK 1 s12_21 (((i%BB.length)*9+0)) from congrArg (zK 1 s12_21) (by rfl))) rfl (w_q rfl (fun h' L' hh hR=>(tD (sz:=3) (q:=1) 1 (Pc.arr (Pc.here _) zT (i%BB.length) (by exact Nat.mod_lt _ oM)) rfl nP (rl_26.mono hh) (hR _ mh2) underlying53 sizeOf26 rfl rfl rfl dC).cv (show _=zK 1 s12_21 (((i%BB.length)*9+3)) from congrArg (zK 1 s12_21) (by show((i%BB.length)*9+0)+1*3=((i%BB.length)*9+3);omega))) rfl (mV (F:=fun v_=>(rpQ (k+1)).Is mp v_ ((BB.getD (i%BB.length) zT).y)) rfl (wU zV (Pc.arr (Pc.ty (Pc.here _)) zT (i%BB.length) (by exact Nat.mod_lt _ oM)) rfl nP rfl rl_26 rfl) (tM mh2) rfl ?_))))))
  intro v186 r186
  refine wX rfl (xB zV pH rb_60) fun v187 r187=>(wX rfl (xV (ρ:=(tPt (k+l1+1))) (wQ (ps':=[(0,_),(1,_),(2,_)]) underlying53 xC rfl rfl sizeOf26 e6 rfl (wG (yE oM)) (zJ rfl (Pc.tx (Pc.here _)) (r179.le (Le.q (l:=k+l1+1) oM)) (zJ rfl (Pc.ty (Pc.here _)) (r186.le (Le.q (l:=k+l1+1) oM)) (zJ rfl (Pc.tz (Pc.here _)) (r187.le (Le.q (l:=k+l1+1) oM)) zX))))) fun v188 r188=>?_)
  refine w_c rfl (kD (fun X=>zU (ρ:=(tPt (k+l1+1))) (m:=1) (xs:=[(T3.mk ((BB.getD (i%BB.length) zT).x) ((BB.getD (i%BB.length) zT).y) lo)]) (ps':=[(0,_)]) underlying46 xC rfl rfl rfl (wG (yE oM)) e2z (zJ rfl (Pc.arr (Pc.here _) zT 0 dC) r188 zX) (show 1*9≤16777216 from by decide) nP) rfl ?_)
  intro v189 q189 hq189
  obtain⟨cs189,rfl,rl189⟩:=hq189
  refine w_c rfl (vD (A:=[]) (ρ:=(tPt (k+l1+1))) rl189 dK ?_)
  intro h4 hh4 rs_67
  replace rl_56:=rl_56.mono hh4
  refine sH (A:=[_]) (fun X=>jG (yD (ρ:=(tPt (k+l1+l2+5))) (bytes:=168) underlying46 xC rfl rfl rfl rfl nP rfl rfl rl_56 (rs_67.le (Le.s (Le.t (Le.q (l:=k+l1+l2+5) oM)))) bO bO)) rfl (vH (by first|(simp;done)|grind)) ?_
  intro v190 q190 hq190
  obtain⟨ho190,cs190,rfl,rl190⟩:=hq190
  refine wF rfl (fun _ _=>(xU underlying50 rfl sizeOf46 rfl).cv (show _=vP b10 0 from congrArg (vP b10) (by rfl))) rfl ?_
  replace rb_54:=rb_54.mono hh4
  refine yQ (A:=[_,_,_,_,_]) rfl (uB sizeOf46 (Pc.fst pH) rb_54 (zC1 ho190)) fun cs_68 rb_69=>(rD (tN (wS (e':=[(4,_),(5,_),(6,_),(10,_),(12,_),(13,_),(20,_),(21,_)]) e8 (zH (zE (mv rfl rfl (gv (yB (q:=1) rfl rfl oM oM) rfl (asg rfl rfl (zR (uP (A:=[]) ?_))))))))))
  refine gqL ((i+1),(PP++[(T3.mk ((BB.getD (i%BB.length) zT).x) ((BB.getD (i%BB.length) zT).y) lo)]),cs_68,v190,cs190,h4) ?_ ?_
  ·
   refine⟨(hmmp.trans hh4),?_⟩
   refine⟨rb_69,rl190,ho190,?_⟩
   exact⟨by omega,by rw[hPP,hBB];exact congrArg (fun z=>zQE L lo hi i++[T3.mk _ _ z]) (if_neg (by have h9:=hc169;rw[hBB] at h9;exact h9)).symm⟩
  omega
 have hPP2:PP=ppZ L lo hi:=by rw[hPP,show i=2*BB.length by omega,hBB];rfl
 have hPl2:PP.length=2*BB.length:=by rw[hPP2,hBB];exact zXH
 refine kS (uK (uK (kR (zH (zL (zE (yH (A:=[]) (ρ:=(tPt (k+l1+l2+5))) rl_56 ?_)))))))
 intro h4 hh4 rs_70
 replace rb_54:=rb_54.mono hh4
 have rb_71:(rpP (tLs (k+l1+l2+5)) (rpP rpV (rpS (rpP rpI (rpP rpI (rpQ 1)))))).R h4 cs_53 (PP,(sA_52,(Value.slice none 0 0,[])).2):=zZD rb_54 rs_70
 refine cL (vs:=[vI (1)]) ⟨rfl,trivial⟩ call39 (fun w hs=>jT hs dC dC) fun v192 h5 hh5 r192=>(nA (ρ:=(rpQ 2)) (X:=(0:Rat)) yF (yE dC) fun b23 cs23 rb23=>(zO (A:=[]) (uB sizeOf26 pH rb23 r192) fun cs_72 rb_73=>(zR (zH (zL ?_)))))
 refine tF 10 _ [(9,(24,83,[.bool false,.slice none 0 0,.slice none 0 0,.bool false,.slice none 0 0,.slice none 0 0,.bool false,.slice none 0 0,.slice none 0 0,.bool false,.slice none 0 0,.slice none 0 0,.slice none 0 0,.string ⟨#[]⟩]))] [(0,.q),(1,.q),(2,.q),(5,.q),(3,.c),(4,.q),(6,.c),(7,.q),(8,.q),(9,.a),(10,.t)] kQ (gJ.cons rfl rfl (kB jD rfl rfl) gJ.nil) (by kernel_rfl) (kJ rfl rfl sW) (fun r hr=>hr) (wX rfl (xV (ρ:=(rpQ 1)) (xR (ps':=[]) underlying26 yF rfl rfl (wJ underlying26) trivial rfl (yE dC) zX)) fun v193 r193=>(wX rfl (xV (ρ:=(rpQ 1)) (xR (ps':=[]) underlying26 yF rfl rfl (wJ underlying26) trivial rfl (yE dC) zX)) fun v194 r194=>(wX rfl (xB zV pH rb_73) fun v195 r195=>?_)))
 replace rb4:=rb4.mono ((((hh3.trans hmma).trans hmmp).trans hh4).trans hh5)
 refine wX rfl (xB zV pH rb4) fun v198 r198=>?_
 refine w_c rfl (sC (ev1 rfl) call31 (fun w hs=>iW hs r195 dC) fun v196 h6 hh6 r196=>?_)
 replace r193:=r193.mono hh6
 replace r194:=r194.mono hh6
 refine wX rfl (xV (ρ:=(tPt 2)) (wQ (ps':=[(0,_),(1,_),(2,_)]) underlying53 xC rfl rfl sizeOf26 e6 rfl (wG (yE dC)) (zJ rfl (Pc.tx (Pc.here _)) (r193.le (Le.q (l:=2) dC)) (zJ rfl (Pc.ty (Pc.here _)) (r194.le (Le.q (l:=2) dC)) (zJ rfl (Pc.tz (Pc.here _)) r196 zX))))) fun v197 r197=>?_
 refine w_c rfl ?_
 replace r198:=r198.mono hh6
 refine sC (ev1 rfl) call31 (fun w hs=>iW hs r198 oM) fun v199 h7 hh7 r199=>?_
 replace r197:=r197.mono hh7
 refine wX rfl (xV (ρ:=(tPl 2 (l1+1))) (xR (ps':=[(0,_),(1,_)]) underlying80 mB rfl rfl (cZ underlying80) e4z rfl (yJ (wG (yE dC)) (yE oM)) (zJ rfl (Pc.fst (Pc.here _)) r197 (zJ rfl (Pc.snd (Pc.here _)) (r199.le (Le.q (l:=l1+1) oM)) zX)))) fun v200 r200=>(wX rfl (xV (ρ:=(rpP (tPl 2 (l1+1)) (rpP rpV cD))) (xR (ps':=[(0,_),(2,_)]) underlying83 jD rfl rfl (lG underlying83) e4z rfl (yJ (yJ (wG (yE dC)) (yE oM)) (yJ cY kT)) (zJ rfl (Pc.fst (Pc.here _)) r200 (zJ rfl (Pc.snd (Pc.snd (Pc.here _))) (bM (show ByB [98,111,116,116,111,109] by unfold ByB;decide)) zX)))) fun v201 r201=>?_)
 refine w_a rfl rfl (fun b24=>?_)
 have rb24:(rpP (tPl 1 1) (rpP rpV cD)).R h7 [.bool false,.slice none 0 0,.slice none 0 0,.bool false,.slice none 0 0,.slice none 0 0,.bool false,.slice none 0 0,.slice none 0 0,.bool false,.slice none 0 0,.slice none 0 0,.slice none 0 0,.string ⟨#[]⟩] ((zT,(0:Rat)),((Value.slice none 0 0),([]:List Nat))):=(yJ (yJ (wG (yE dC)) (yE dC)) (yJ cY kT))
 have rw_74:=(Le.p (Le.p (Le.t (Le.q (l:=2) dC)) (Le.q (l:=l1+1) oM)) (Le.refl _)).R rb24
 refine yQ (A:=[]) rfl (uB sizeOf83 pH rw_74 r201) fun cs_75 rb_76=>(rD (wS (e':=[(5,_),(6,_),(10,_),(13,_),(20,_),(23,_),(24,_)]) e7 (zH (zL (zE (lX (xV (ρ:=(rpQ 1)) (xR (ps':=[]) underlying26 yF rfl rfl (wJ underlying26) trivial rfl (yE dC) zX)) fun v202 r202=>(lX (xV (ρ:=(rpQ 1)) (xR (ps':=[]) underlying26 yF rfl rfl (wJ underlying26) trivial rfl (yE dC) zX)) fun v203 r203=>?_)))))))
 replace rb_73:=rb_73.mono (hh6.trans hh7)
 refine lX (xB zV pH rb_73) fun v204 r204=>(lX (xV (ρ:=(tPt 2)) (wQ (ps':=[(0,_),(1,_),(2,_)]) underlying53 xC rfl rfl sizeOf26 e6 rfl (wG (yE dC)) (zJ rfl (Pc.tx (Pc.here _)) (r202.le (Le.q (l:=2) dC)) (zJ rfl (Pc.ty (Pc.here _)) (r203.le (Le.q (l:=2) dC)) (zJ rfl (Pc.tz (Pc.here _)) r204 zX))))) fun v205 r205=>?_)
 replace rb5:=rb5.mono ((((((hh3.trans hmma).trans hmmp).trans hh4).trans hh5).trans hh6).trans hh7)
 refine lX (xB zV pH rb5) fun v206 r206=>(lX (xV (ρ:=(tPl 2 (l2+1))) (xR (ps':=[(0,_),(1,_)]) underlying80 mB rfl rfl (cZ underlying80) e4z rfl (yJ (wG (yE dC)) (yE oM)) (zJ rfl (Pc.fst (Pc.here _)) r205 (zJ rfl (Pc.snd (Pc.here _)) (r206.le (Le.q (l:=l2+1) oM)) zX)))) fun v207 r207=>(lX (xV (ρ:=(rpP (tPl 2 (l2+1)) (rpP rpV cD))) (xR (ps':=[(0,_),(2,_)]) underlying83 jD rfl rfl (lG underlying83) e4z rfl (yJ (yJ (wG (yE dC)) (yE oM)) (yJ cY kT)) (zJ rfl (Pc.fst (Pc.here _)) r207 (zJ rfl (Pc.snd (Pc.snd (Pc.here _))) (bM (show ByB [116,111,112] by unfold ByB;decide)) zX)))) fun v208 r208=>(nA (ρ:=(rpP (tPl 1 1) (rpP rpV cD))) (X:=((zT,(0:Rat)),((Value.slice none 0 0),([]:List Nat)))) jD (yJ (yJ (wG (yE dC)) (yE dC)) (yJ cY kT)) fun b25 cs25 rb25=>?_)))
 have rw_77:=(Le.p (Le.p (Le.t (Le.q (l:=2) dC)) (Le.q (l:=l2+1) oM)) (Le.refl _)).R rb25
 refine zO (A:=[]) (uB sizeOf83 pH rw_77 r208) fun cs_78 rb_79=>(zR (zH (zL (zL (zE (asg (v:=vI (0)) rfl rfl (zR (zH (wT (xO 83 14 ?_))))))))))
 have rl_80:RL (tFc (4*k+4*l1+4*l2+40) (100*k+100*l1+100*l2+1000)) h7 [] ([]:List (Pq×((List (List Int))×(List Nat)))):=RL.nil
 refine xO 32 1 ?_
 have rl_81:RL (rpS rpI) h7 [] ([]:List (List Int)):=RL.nil
 refine xO 32 1 ?_
 have rl_82:RL (rpS rpI) h7 [] ([]:List (List Int)):=RL.nil
 refine gcL (ι:=Nat×List Fc×List (List Int)×List (List Int)×List Value×List Value×List Value×Value×List Value×Value×List Value×Value×List Value×Mem) (fun(i,F0,C0,T0,cs_86,cs_88,cs_90,sB_83,cs_92,sC_84,cs_95,sD_85,cs_98,mq)=>(MLe h7 mq∧((rpP (tLs (k+l1+l2+5)) (rpP rpV (rpS (rpP rpI (rpP rpI (rpQ 1)))))).R mq cs_86 (PP,(sB_83,([]:List En)))∧(rpP (tPl 5 (l1+l2+5)) (rpP rpV cD)).R mq cs_88 ((T3.mk (0:Rat) (0:Rat) (-((1:Int):Rat)),-lo),(sC_84,[98,111,116,116,111,109]))∧(rpP (tPl 5 (l1+l2+5)) (rpP rpV cD)).R mq cs_90 ((T3.mk (0:Rat) (0:Rat) ((1:Int):Rat),hi),(sD_85,[116,111,112]))∧RL (tFc (4*k+4*l1+4*l2+40) (100*k+100*l1+100*l2+1000)) mq cs_92 F0∧sB_83.oneCell'=true∧RL (rpS rpI) mq cs_95 C0∧sC_84.oneCell'=true∧RL (rpS rpI) mq cs_98 T0∧sD_85.oneCell'=true∧i≤II.length∧C0=zY2 L i∧T0=zWL L i∧F0=zND L lo hi i),[(6,vP b6 0),(10,vP b10 0),(13,s13_22),(20,vI (↑BB.length:Int)),(24,vP b24 0),(25,vP b25 0),(26,vI ↑i)],[.gs 32 1 sD_85 T0.length cs_98,.gs 32 1 sC_84 C0.length cs_95,.gs 83 14 sB_83 F0.length cs_92,.var b25 83 cs_90,.var b24 83 cs_88,.var b23 26 cs_72,.gs 32 1 s13_22 II.length cs_27,.gs 53 9 s12_21 BB.length cs_25,.gs 116 2 s11_20 ED.length cs_23,.var b10 50 cs_86,.var b6 50 cs6,.var b5 26 cs5,.var b4 26 cs4],mq,II.length-i)) (0,[],[],[],cs_53,cs_75,cs_78,(.slice none 0 0),[],(.slice none 0 0),[],(.slice none 0 0),[],h7) ?_ ?_
 ·
  refine⟨MLe.refl _,?_⟩
  replace rb_71:=rb_71.mono ((hh5.trans hh6).trans hh7)
  refine⟨rb_71,((Le.p (Le.p (Le.t (Le.q (l:=5) dC)) (Le.q (l:=l1+l2+5) oM)) (Le.refl _)).R rb_76),((Le.p (Le.p (Le.t (Le.q (l:=5) dC)) (Le.q (l:=l1+l2+5) oM)) (Le.refl _)).R rb_79),rl_80,rfl,rl_81,rfl,rl_82,rfl,?_⟩
  exact⟨by omega,rfl,rfl,rfl⟩
 intro x hx
 obtain⟨i,F0,C0,T0,cs_86,cs_88,cs_90,sB_83,cs_92,sC_84,cs_95,sD_85,cs_98,mq⟩:=x
 dsimp only at hx
 obtain⟨hmmq,hinv⟩:=hx
 refine yR ?_
 obtain⟨rb_87,rb_89,rb_91,rl_93,ho_94,rl_96,ho_97,rl_99,ho_100,hinv⟩:=hinv
 obtain⟨hi3,hC0,hT0,hF0⟩:=hinv
 have hCl:C0.length=i:=by rw[hC0];exact wR _ _
 have hTl:T0.length=i:=by rw[hT0];exact wR _ _
 have hFl:F0.length=j7 L i:=by rw[hF0];exact zPN oM
 have heci:=hec i oM
 refine zL (zL (zE (mv rfl rfl (mv rfl rfl (gv (kX mh6 underlying81 rfl) rfl (gv (yL rfl rfl) rfl (zR (zH ?_))))))))
 refine cnd (fun hc212=>?_) fun hc212=>?_
 ·
  have hi2l:=hI2 i oM
  have hxl:=hnl.2 i oM
  refine uQ (zH (zL (wT (zL ?_))))
  refine jI (A:=[_]) 10 [] [(0,.q),(1,.q),(2,.q),(3,.q),(4,.q),(5,.q),(6,.c),(7,.c),(8,.c),(9,.q),(10,.t)] kQ nX (by kernel_rfl) nX (wF rfl (fun _ _=>(xU underlying83 rfl sizeOf81 rfl).cv (show _=vP b24 12 from congrArg (vP b24) (by rfl))) rfl (wX rfl (aR (xB cG (Pc.snd (Pc.fst pH)) rb_89)) fun v216 r216=>?_))
  subst r216
  refine qD rfl rfl rfl (qD rfl rfl rfl (w_q rfl (fun h' L' hh hR=>(yY i (hR _ mh5) underlying81 sizeOf32 rfl rfl rfl bO nP).cv (show _=zK 1 s13_22 ((i*1+0)) from congrArg (zK 1 s13_22) (by rfl))) rfl ?_))
  replace rl_28:=rl_28.mono (((((hmmp.trans hh4).trans hh5).trans hh6).trans hh7).trans hmmq)
  refine mV (F:=fun v_=>(rpS rpI).Is mq v_ (II.getD i [])) rfl (wU fM (Pc.arr (Pc.here _) [] i bO) rfl nP rfl rl_28 rfl) (tM mh5) rfl ?_
  intro v220 r220
  refine w_c rfl (sC (ev1 rfl) call65 (fun w hs=>zHW hs r220 oM) fun v221 h8 hh8 r221=>?_)
  refine w_c rfl (kD (fun X=>zU (ρ:=(rpS rpI)) (m:=1) (xs:=[zJK (II.getD i []) (II.getD i []).length]) (ps':=[(0,_)]) underlying81 jK rfl rfl rfl qQ e2z (zJ rfl (Pc.arr (Pc.here _) [] 0 dC) r221 zX) (show 1*1≤16777216 from by decide) nP) rfl ?_)
  intro v222 q222 hq222
  obtain⟨cs222,rfl,rl222⟩:=hq222
  refine w_c rfl (vD (A:=[]) (ρ:=(rpS rpI)) rl222 dK ?_)
  intro h9 hh9 rs_101
  replace rl_96:=rl_96.mono (hh8.trans hh9)
  refine sH (A:=[_]) (fun X=>jG (yD (ρ:=(rpS rpI)) (bytes:=24) underlying81 jK rfl rfl rfl rfl nP rfl rfl rl_96 rs_101 bO bO)) rfl (vH (by first|(simp;done)|grind)) ?_
  intro v223 q223 hq223
  obtain⟨ho223,cs223,rfl,rl223⟩:=hq223
  refine wF rfl (fun _ _=>(xU underlying83 rfl sizeOf81 rfl).cv (show _=vP b24 12 from congrArg (vP b24) (by rfl))) rfl ?_
  replace rb_89:=rb_89.mono (hh8.trans hh9)
  refine yQ (A:=[_,_,_,_]) rfl (uB sizeOf81 (Pc.snd (Pc.fst pH)) rb_89 (zC1 ho223)) fun cs_102 rb_103=>(rD (wS (e':=[(6,_),(10,_),(13,_),(20,_),(24,_),(25,_),(26,_)]) e7 (zH (zL (zE (asg rfl rfl (zR (zH (zL (zL (zE (asg (v:=vI (0)) rfl rfl (zR ?_)))))))))))))
  refine zH (wT (xO 3 1 ?_))
  have rl_104:RL rpI h9 [] ([]:List Int):=RL.nil
  refine gcL (ι:=Nat×List Int×Value×List Value×Mem) (fun(q,TL,s27_105,cs_106,mr)=>(MLe h9 mr∧(RL rpI mr cs_106 TL∧q≤(II.getD i []).length∧TL=tpL L i q),[(6,vP b6 0),(10,vP b10 0),(13,s13_22),(20,vI (↑BB.length:Int)),(24,vP b24 0),(25,vP b25 0),(26,vI ↑i),(27,s27_105),(28,vI ↑q)],[.gs 3 1 s27_105 TL.length cs_106,.gs 32 1 sD_85 T0.length cs_98,.gs 32 1 v223 (C0++[zJK (II.getD i []) (II.getD i []).length]).length cs223,.gs 83 14 sB_83 F0.length cs_92,.var b25 83 cs_90,.var b24 83 cs_102,.var b23 26 cs_72,.gs 32 1 s13_22 II.length cs_27,.gs 53 9 s12_21 BB.length cs_25,.gs 116 2 s11_20 ED.length cs_23,.var b10 50 cs_86,.var b6 50 cs6,.var b5 26 cs5,.var b4 26 cs4],mr,(II.getD i []).length-q)) (0,[],(.slice none 0 0),[],h9) ?_ ?_
  ·
   refine⟨MLe.refl _,?_⟩
   refine⟨rl_104,?_⟩
   exact⟨by omega,rfl⟩
  intro x hx
  obtain⟨q,TL,s27_105,cs_106,mr⟩:=x
  dsimp only at hx
  obtain⟨hmmr,hinv⟩:=hx
  refine yR ?_
  obtain⟨rl_107,hinv⟩:=hinv
  obtain⟨hq2,hTL⟩:=hinv
  have hTLl:TL.length=q:=by rw[hTL];exact wR _ _
  have hi2l:=hI2 i oM
  have hxl:=hnl.2 i oM
  refine zL (zL (zE (mv rfl rfl (mv rfl rfl (mv rfl rfl (gv ((yY i mh7 underlying81 sizeOf32 rfl rfl rfl bO nP).cv (show _=zK 1 s13_22 ((i*1+0)) from congrArg (zK 1 s13_22) (by rfl))) rfl ?_))))))
  replace rl_28:=rl_28.mono ((hh8.trans hh9).trans hmmr)
  refine zIJ (F:=fun v_=>(rpS rpI).Is mr v_ (II.getD i [])) (wU fM (Pc.arr (Pc.here _) [] i bO) rfl nP rfl rl_28 rfl) (tM mh7) rfl ?_
  intro v229 r229
  refine gv (uS underlying32 rfl r229) rfl (gv (yL rfl rfl) rfl (zR (zH ?_)))
  refine cnd (fun hc231=>?_) fun hc231=>?_
  ·
   have hra:=hrg i q oM oM
   refine uQ (zH (zL (wT (zE (mv rfl rfl (mv rfl rfl (mv rfl rfl (gv ((yY i mh7 underlying81 sizeOf32 rfl rfl rfl bO nP).cv (show _=zK 1 s13_22 ((i*1+0)) from congrArg (zK 1 s13_22) (by rfl))) rfl (zIJ (F:=fun v_=>(rpS rpI).Is mr v_ (II.getD i [])) (wU fM (Pc.arr (Pc.here _) [] i bO) rfl nP rfl rl_28 rfl) (tM mh7) rfl ?_)))))))))
   intro v238 r238
   refine mv rfl rfl (lX (xI (0:Int) q underlying32 ty3 r238) fun v240 r240=>(lX (xA ty3 r240) fun v241 r241=>?_))
   obtain⟨rfl,hl241,hu241⟩:=jZ r241
   refine mv rfl rfl (gv (yB rfl rfl (by(have:=hrg i q oM oM;omega)) (by(have:=hrg i q oM oM;omega))) rfl (zG (zU (ρ:=rpI) (m:=1) (xs:=[(((II.getD i []).getD q (0:Int))+(↑BB.length:Int))]) (ps':=[(0,_)]) underlying32 gB rfl rfl rfl wK e2z (zJ rfl (Pc.arr (Pc.here _) (0:Int) 0 dC) (jB oM oM) zX) (show 1*1≤16777216 from by decide) nP) rfl rfl rfl ?_))
   intro v244 q244 hq244
   obtain⟨cs244,rfl,rl244⟩:=hq244
   refine yH (A:=[]) (ρ:=rpI) rl244 ?_
   intro h10 hh10 rs_108
   replace rl_107:=rl_107.mono hh10
   refine xS (A:=[]) (jG (yD (ρ:=rpI) (bytes:=8) underlying32 gB rfl rfl rfl rfl nP rfl rfl rl_107 rs_108 bO bO)) rfl rfl rfl ?_
   intro v245 q245 hq245
   obtain⟨ho245,cs245,rfl,rl245⟩:=hq245
   refine asg rfl rfl (zR (tN (wS (e':=[(6,_),(10,_),(13,_),(20,_),(24,_),(25,_),(26,_),(28,_),(27,_)]) ⟨rfl,rfl,rfl,rfl,rfl,rfl,rfl,rfl,rfl,trivial⟩ (zH (zE (mv rfl rfl (gv (yB (q:=1) rfl rfl oM oM) rfl (asg rfl rfl (zR ?_)))))))))
   refine gqL ((q+1),(TL++[(((II.getD i []).getD q (0:Int))+(↑BB.length:Int))]),v245,cs245,h10) ?_ ?_
   ·
    refine⟨(hmmr.trans hh10),?_⟩
    refine⟨rl245,?_⟩
    exact⟨by omega,by rw[hTL,hII,hBB];rfl⟩
   omega
  have ek:q=(II.getD i []).length:=by omega
  refine kS (uK (uK (kR (zH (zL (zE (gv ((xU underlying83 rfl sizeOf81 rfl).cv (show _=vP b25 12 from congrArg (vP b25) (by rfl))) rfl ?_)))))))
  replace rb_91:=rb_91.mono ((hh8.trans hh9).trans hmmr)
  refine lX (aR (xB cG (Pc.snd (Pc.fst pH)) rb_91)) fun v247 r247=>?_
  subst r247
  refine mv rfl rfl (yH (A:=[]) (ρ:=rpI) rl_107 ?_)
  intro h10 hh10 rs_109
  refine zG (zU (ρ:=(rpS rpI)) (m:=1) (xs:=[TL]) (ps':=[(0,_)]) underlying81 jK rfl rfl rfl qQ e2z (zJ rfl (Pc.arr (Pc.here _) [] 0 dC) rs_109 zX) (show 1*1≤16777216 from by decide) nP) rfl rfl rfl ?_
  intro v249 q249 hq249
  obtain⟨cs249,rfl,rl249⟩:=hq249
  refine yH (A:=[]) (ρ:=(rpS rpI)) rl249 ?_
  intro h11 hh11 rs_110
  replace rl_99:=rl_99.mono ((((hh8.trans hh9).trans hmmr).trans hh10).trans hh11)
  refine xS (A:=[]) (jG (yD (ρ:=(rpS rpI)) (bytes:=24) underlying81 jK rfl rfl rfl rfl nP rfl rfl rl_99 rs_110 bO bO)) rfl rfl rfl ?_
  intro v250 q250 hq250
  obtain⟨ho250,cs250,rfl,rl250⟩:=hq250
  refine gv ((xU underlying83 rfl sizeOf81 rfl).cv (show _=vP b25 12 from congrArg (vP b25) (by rfl))) rfl ?_
  replace rb_91:=rb_91.mono (hh10.trans hh11)
  refine zO (A:=[_,_,_]) (uB sizeOf81 (Pc.snd (Pc.fst pH)) rb_91 (zC1 ho250)) fun cs_111 rb_112=>(zR (wS (e':=[(6,_),(10,_),(13,_),(20,_),(24,_),(25,_),(26,_)]) e7 (zH (zL (zE (asg (v:=vI (0)) rfl rfl (zR (zH (wT ?_)))))))))
  refine gcL (ι:=Nat×List Fc×List Value×Value×List Value×Mem) (fun(q,F1,cs_114,sB_113,cs_116,mf)=>(MLe h11 mf∧((rpP (tLs (k+l1+l2+5)) (rpP rpV (rpS (rpP rpI (rpP rpI (rpQ 1)))))).R mf cs_114 (PP,(sB_113,([]:List En)))∧RL (tFc (4*k+4*l1+4*l2+40) (100*k+100*l1+100*l2+1000)) mf cs_116 F1∧sB_113.oneCell'=true∧q≤(II.getD i []).length∧F1=zND L lo hi i++sfX L lo hi i q),[(6,vP b6 0),(10,vP b10 0),(13,s13_22),(20,vI (↑BB.length:Int)),(24,vP b24 0),(25,vP b25 0),(26,vI ↑i),(29,vI ↑q)],[.gs 32 1 v250 (T0++[TL]).length cs250,.gs 32 1 v223 (C0++[zJK (II.getD i []) (II.getD i []).length]).length cs223,.gs 83 14 sB_113 F1.length cs_116,.var b25 83 cs_111,.var b24 83 cs_102,.var b23 26 cs_72,.gs 32 1 s13_22 II.length cs_27,.gs 53 9 s12_21 BB.length cs_25,.gs 116 2 s11_20 ED.length cs_23,.var b10 50 cs_114,.var b6 50 cs6,.var b5 26 cs5,.var b4 26 cs4],mf,(II.getD i []).length-q)) (0,F0,cs_86,sB_83,cs_92,h11) ?_ ?_
  ·
   refine⟨MLe.refl _,?_⟩
   replace rb_87:=rb_87.mono ((((hh8.trans hh9).trans hmmr).trans hh10).trans hh11)
   replace rl_93:=rl_93.mono ((((hh8.trans hh9).trans hmmr).trans hh10).trans hh11)
   refine⟨rb_87,rl_93,ho_94,?_⟩
   exact⟨by omega,by rw[hF0];exact(List.append_nil _).symm⟩
  intro x hx
  obtain⟨q,F1,cs_114,sB_113,cs_116,mf⟩:=x
  dsimp only at hx
  obtain⟨hmmf,hinv⟩:=hx
  refine yR ?_
  obtain⟨rb_115,rl_117,ho_118,hinv⟩:=hinv
  obtain⟨hq3,hF1⟩:=hinv
  have hF1l:F1.length=j7 L i+q:=by rw[hF1,lAz,zPN oM];exact congrArg _ (wR _ _)
  have hi2l:=hI2 i oM
  have hxl:=hnl.2 i oM
  have hti:=zBV (((i:Int):Int):Rat)
  have htk:=zBV (((q:Int):Int):Rat)
  have hqi:=zCW (i:Int) oM oM
  have hqk:=zCW (q:Int) oM oM
  refine zL (zL (zE (mv rfl rfl (mv rfl rfl (mv rfl rfl (gv ((yY i mh6 underlying81 sizeOf32 rfl rfl rfl bO nP).cv (show _=zK 1 s13_22 ((i*1+0)) from congrArg (zK 1 s13_22) (by rfl))) rfl ?_))))))
  replace rl_28:=rl_28.mono ((hh10.trans hh11).trans hmmf)
  refine zIJ (F:=fun v_=>(rpS rpI).Is mf v_ (II.getD i [])) (wU fM (Pc.arr (Pc.here _) [] i bO) rfl nP rfl rl_28 rfl) (tM mh6) rfl ?_
  intro v256 r256
  refine gv (uS underlying32 rfl r256) rfl (gv (yL rfl rfl) rfl (zR (zH ?_)))
  refine cnd (fun hc258=>?_) fun hc258=>?_
  ·
   have hra:=hrg i q oM oM
   have hrb:=hrg i ((q+1)%(II.getD i []).length) oM (Nat.mod_lt _ oM)
   refine uQ (zH (zL (wT (zL ?_))))
   refine gD 23 (qq 0 23 []) (uA [0,0,3,4,0,24,32,0,0,384,512,0,2048,0,0,24576,32768,65536,135168,263168,524288,127,4194303] (frz 8388607 [0,0,3,4,0,24,32,0,0,384,512,0,2048,0,0,24576,32768,65536,135168,263168,524288,64,1048576]) (by kernel_rfl)) ?_
   refine qD rfl rfl rfl (qD rfl rfl rfl (w_q rfl (fun h' L' hh hR=>(yY i (hR _ mh6) underlying81 sizeOf32 rfl rfl rfl bO nP).cv (show _=zK 1 s13_22 ((i*1+0)) from congrArg (zK 1 s13_22) (by rfl))) rfl (mV (F:=fun v_=>(rpS rpI).Is mf v_ (II.getD i [])) rfl (wU fM (Pc.arr (Pc.here _) [] i bO) rfl nP rfl rl_28 rfl) (tM mh6) rfl ?_)))
   intro v264 r264
   refine qD rfl rfl rfl (wX rfl (xI (0:Int) q underlying32 ty3 r264) fun v266 r266=>(wX rfl (xA ty3 r266) fun v267 r267=>?_))
   obtain⟨rfl,hl267,hu267⟩:=jZ r267
   refine qD rfl rfl rfl (qD rfl rfl rfl (w_q rfl (fun h' L' hh hR=>(yY i (hR _ mh6) underlying81 sizeOf32 rfl rfl rfl bO nP).cv (show _=zK 1 s13_22 ((i*1+0)) from congrArg (zK 1 s13_22) (by rfl))) rfl (mV (F:=fun v_=>(rpS rpI).Is mf v_ (II.getD i [])) rfl (wU fM (Pc.arr (Pc.here _) [] i bO) rfl nP rfl rl_28 rfl) (tM mh6) rfl ?_)))
   intro v271 r271
   refine qD rfl rfl rfl (wF rfl (fun _ _=>yB (q:=1) rfl rfl oM oM) rfl (qD rfl rfl rfl (qD rfl rfl rfl (w_q rfl (fun h' L' hh hR=>(yY i (hR _ mh6) underlying81 sizeOf32 rfl rfl rfl bO nP).cv (show _=zK 1 s13_22 ((i*1+0)) from congrArg (zK 1 s13_22) (by rfl))) rfl (mV (F:=fun v_=>(rpS rpI).Is mf v_ (II.getD i [])) rfl (wU fM (Pc.arr (Pc.here _) [] i bO) rfl nP rfl rl_28 rfl) (tM mh6) rfl ?_)))))
   intro v277 r277
   refine w_q rfl (fun h' L' hh hR=>uS underlying32 rfl (r277.mono hh)) rfl (wF rfl (fun _ _=>uH rfl rfl oM oM) rfl (wX rfl (xI (0:Int) ((q+1)%(II.getD i []).length) underlying32 ty3 r271 (hi:=by exact Nat.mod_lt _ oM)) fun v280 r280=>(wX rfl (xA ty3 r280) fun v281 r281=>?_)))
   obtain⟨rfl,hl281,hu281⟩:=jZ r281
   refine zDM rfl rfl rfl (zDM rfl rfl rfl (rD (wS (e':=[(6,_),(10,_),(13,_),(20,_),(24,_),(25,_),(26,_),(29,_),(30,_),(31,_)]) e10 (zH (zL ?_)))))
   refine tF 12 _ [(11,(32,53,[.bool false,.slice none 0 0,.slice none 0 0,.bool false,.slice none 0 0,.slice none 0 0,.bool false,.slice none 0 0,.slice none 0 0]))] [(0,.q),(1,.q),(2,.q),(3,.q),(4,.q),(5,.q),(6,.q),(7,.q),(8,.q),(9,.q),(10,.c),(11,.a),(12,.t)] kQ (gJ.cons rfl rfl (kB xC rfl rfl) gJ.nil) (uA [0,1,0,6,8,0,32,0,192,256,528,0,4095] [8191,8190,8191,8185,8183,8191,8159,8191,7999,7935,7663,8191,5119] (by kernel_rfl)) (kJ rfl rfl sW) (fun r hr=>hr) (wF rfl (fun _ _=>(xU underlying50 rfl sizeOf46 rfl).cv (show _=vP b10 0 from congrArg (vP b10) (by rfl))) rfl (wX rfl (xB uW (Pc.fst pH) rb_115) fun v283 r283=>(qD rfl rfl rfl (wX rfl (xI zT (((II.getD i []).getD ((q+1)%(II.getD i []).length) 0).toNat) underlying46 zW r283 (hi:=by(show _<PP.length;omega))) fun v285 r285=>(wX rfl (xA zW r285) fun v286 r286=>(wF rfl (fun _ _=>(xU underlying50 rfl sizeOf46 rfl).cv (show _=vP b10 0 from congrArg (vP b10) (by rfl))) rfl (wX rfl (xB uW (Pc.fst pH) rb_115) fun v288 r288=>(qD rfl rfl rfl (wX rfl (xI zT (((II.getD i []).getD q 0).toNat) underlying46 zW r288 (hi:=by(show _<PP.length;omega))) fun v290 r290=>(wX rfl (xA zW r290) fun v291 r291=>?_))))))))))
   refine w_c rfl (sC (ev2 rfl rfl) call125 (fun w hs=>zQV hs r286 r291 oM) fun v292 h12 hh12 r292=>?_)
   replace r292:=Rp.Is.le r292 (Le.t (Le.q (l:=4*k+4*l1+4*l2+23) oM))
   refine w_a rfl rfl (fun b32=>?_)
   have rb32:(tPt 1).R h12 [.bool false,.slice none 0 0,.slice none 0 0,.bool false,.slice none 0 0,.slice none 0 0,.bool false,.slice none 0 0,.slice none 0 0] zT:=(wG (yE dC))
   have rw_119:=(Le.t (Le.q (l:=4*k+4*l1+4*l2+23) oM)).R rb32
   refine yQ (A:=[]) rfl (uB sizeOf53 pH rw_119 r292) fun cs_120 rb_121=>(rD (wS (e':=[(6,_),(10,_),(13,_),(20,_),(24,_),(25,_),(26,_),(29,_),(30,_),(31,_),(32,_)]) e11 (zH (zL ?_))))
   refine tF 8 _ [(7,(33,53,[.bool false,.slice none 0 0,.slice none 0 0,.bool false,.slice none 0 0,.slice none 0 0,.bool false,.slice none 0 0,.slice none 0 0]))] [(0,.q),(1,.q),(2,.q),(3,.q),(5,.q),(4,.c),(6,.q),(7,.a),(8,.t)] kQ (gJ.cons rfl rfl (kB xC rfl rfl) gJ.nil) (by kernel_rfl) (kJ rfl rfl sW) (fun r hr=>hr) (wF rfl (fun _ _=>(xW (sz:=3) (q:=1) 1 underlying53 sizeOf26 rfl rfl rfl dC).cv (show _=vP b32 3 from congrArg (vP b32) (by rfl))) rfl (wX rfl (xB zV (Pc.ty pH) rb_121) fun v294 r294=>(wF rfl (fun _ _=>(xW (sz:=3) (q:=0) 0 underlying53 sizeOf26 rfl rfl rfl dC).cv (show _=vP b32 0 from congrArg (vP b32) (by rfl))) rfl (wX rfl (xB zV (Pc.tx pH) rb_121) fun v296 r296=>(wX rfl (xV (ρ:=(rpQ 1)) (xR (ps':=[]) underlying26 yF rfl rfl (wJ underlying26) trivial rfl (yE dC) zX)) fun v298 r298=>?_)))))
   refine w_c rfl (sC (ev1 rfl) call31 (fun w hs=>iW hs r296 oM) fun v297 h13 hh13 r297=>?_)
   replace r294:=r294.mono hh13
   replace r298:=r298.mono hh13
   refine wX rfl (xV (ρ:=(tPt (4*k+4*l1+4*l2+23))) (wQ (ps':=[(0,_),(1,_),(2,_)]) underlying53 xC rfl rfl sizeOf26 e6 rfl (wG (yE oM)) (zJ rfl (Pc.tx (Pc.here _)) r294 (zJ rfl (Pc.ty (Pc.here _)) r297 (zJ rfl (Pc.tz (Pc.here _)) (r298.le (Le.q (l:=4*k+4*l1+4*l2+23) oM)) zX))))) fun v299 r299=>?_
   refine w_a rfl rfl (fun b33=>?_)
   have rb33:(tPt 1).R h13 [.bool false,.slice none 0 0,.slice none 0 0,.bool false,.slice none 0 0,.slice none 0 0,.bool false,.slice none 0 0,.slice none 0 0] zT:=(wG (yE dC))
   have rw_122:=(Le.t (Le.q (l:=4*k+4*l1+4*l2+23) oM)).R rb33
   refine yQ (A:=[]) rfl (uB sizeOf53 pH rw_122 r299) fun cs_123 rb_124=>(rD (zH ?_))
   refine jI (A:=[_,_,_,_]) 32 [] [(0,.q),(1,.q),(2,.q),(3,.q),(4,.q),(5,.q),(6,.q),(7,.q),(8,.q),(11,.q),(12,.q),(13,.q),(14,.q),(15,.q),(16,.q),(17,.q),(18,.q),(21,.q),(25,.q),(0,.x [10,23,24,27] [9,10,22,23,24,26,27] [19,20]),(28,.c),(29,.c),(30,.c),(31,.q),(32,.t)] kQ nX (by kernel_rfl) nX (wF rfl (fun _ _=>(xU underlying50 rfl sizeOf47 rfl).cv (show _=vP b10 1 from congrArg (vP b10) (by rfl))) rfl ?_)
   replace rb_115:=rb_115.mono (hh12.trans hh13)
   refine wX rfl (aR (xB tG (Pc.snd (Pc.fst pH)) rb_115)) fun v301 r301=>?_
   subst r301
   refine wX rfl (xB zW pH rb_124) fun v302 r302=>(wX rfl (xB zW pH rb_124) fun v303 r303=>(wF rfl (fun _ _=>(xU underlying50 rfl sizeOf46 rfl).cv (show _=vP b10 0 from congrArg (vP b10) (by rfl))) rfl (wX rfl (xB uW (Pc.fst pH) rb_115) fun v305 r305=>(qD rfl rfl rfl (wX rfl (xI zT (((II.getD i []).getD q 0).toNat) underlying46 zW r305 (hi:=by(show _<PP.length;omega))) fun v307 r307=>(wX rfl (xA zW r307) fun v308 r308=>(qD rfl rfl rfl (qD rfl rfl rfl (qD rfl rfl rfl (qD rfl rfl rfl (wF rfl (fun _ _=>yB rfl rfl oM oM) rfl (qD rfl rfl rfl (qD rfl rfl rfl ?_)))))))))))))
   refine wF rfl (fun _ _=>yB rfl rfl oM oM) rfl (qD rfl rfl rfl (qD rfl rfl rfl (w_xx (N:=9) rfl ?_)))
   refine zE9 rfl rfl rfl rfl ?x2 ?x3
   case' x2=>
    refine sC (ev2 rfl rfl) call44 (fun w hs=>w8 hs r303 r308 oM) fun v309 h14 hh14 r309=>?_
    replace r309:=Rp.Is.le r309 (Le.q (l:=15*k+15*l1+15*l2+93) oM)
    refine fC rfl ?_
    replace r302:=r302.mono hh14
    refine xX rfl (xV (ρ:=(tPl (4*k+4*l1+4*l2+23) (15*k+15*l1+15*l2+93))) (xR (ps':=[(0,_),(1,_)]) underlying80 mB rfl rfl (cZ underlying80) e4z rfl (yJ (wG (yE oM)) (yE oM)) (zJ rfl (Pc.fst (Pc.here _)) r302 (zJ rfl (Pc.snd (Pc.here _)) r309 zX)))) fun v310 r310=>?_
    refine zE9 rfl rfl rfl rfl ?x4 ?x5
    case' x4=>
     refine sC (ev1 rfl) call126 (fun w hs=>uE hs oM oM) fun v322 h15 hh15 r322=>?_
     obtain⟨rfl,hb322⟩:=jY r322
     refine fC rfl (bX rfl (fun _ _=>vK (pa:=([115]:List Nat)) (pb:=(qZ (((↑i:Int):Int):Rat))) rfl rfl (by first|omega|(simp only[lAz,lC,lN,List.length_drop,List.length_take];omega))) rfl (fC rfl (bX rfl (fun _ _=>vK (pa:=(([115]:List Nat)++(qZ (((↑i:Int):Int):Rat)))) (pb:=([46]:List Nat)) rfl rfl (by first|omega|(simp only[lAz,lC,lN,List.length_drop,List.length_take];omega))) rfl ?_)))
     refine zE9 rfl rfl rfl rfl ?x6 ?x7
     case' x6=>
      refine sC (ev1 rfl) call126 (fun w hs=>uE hs oM oM) fun v326 h16 hh16 r326=>?_
      obtain⟨rfl,hb326⟩:=jY r326
      refine fC rfl (bX rfl (fun _ _=>vK (pa:=((([115]:List Nat)++(qZ (((↑i:Int):Int):Rat)))++([46]:List Nat))) (pb:=(qZ (((↑q:Int):Int):Rat))) rfl rfl (by first|omega|(simp only[lAz,lC,lN,List.length_drop,List.length_take];omega))) rfl (zOY rfl rfl (kD (fun X=>zU (ρ:=rpI) (m:=4) (xs:=(lU (II.getD i []) q BB)) (ps':=[(0,_),(1,_),(2,_),(3,_)]) underlying32 gB rfl rfl rfl wK e8 (zJ rfl (Pc.arr (Pc.here _) (0:Int) 0 dC) (jB oM oM) (zJ rfl (Pc.arr (Pc.here _) (0:Int) 1 dC) (jB oM oM) (zJ rfl (Pc.arr (Pc.here _) (0:Int) 2 dC) (jB oM oM) (zJ rfl (Pc.arr (Pc.here _) (0:Int) 3 dC) (jB oM oM) zX)))) (show 4*1≤16777216 from by decide) nP) rfl ?_)))
      intro v319 q319 hq319
      obtain⟨cs319,rfl,rl319⟩:=hq319
      refine zOY rfl rfl (vD (A:=[]) (ρ:=rpI) rl319 dK ?_)
      intro h17 hh17 rs_125
      refine kD (fun X=>zU (ρ:=(rpS rpI)) (m:=1) (xs:=[(lU (II.getD i []) q BB)]) (ps':=[(0,_)]) underlying81 jK rfl rfl rfl qQ e2z (zJ rfl (Pc.arr (Pc.here _) [] 0 dC) rs_125 zX) (show 1*1≤16777216 from by decide) nP) rfl ?_
      intro v320 q320 hq320
      obtain⟨cs320,rfl,rl320⟩:=hq320
      refine zDL ?_
      replace r310:=r310.mono ((hh15.trans hh16).trans hh17)
     case' x7=>
      refine kD (fun X=>zU (ρ:=rpI) (m:=4) (xs:=(lU (II.getD i []) q BB)) (ps':=[(0,_),(1,_),(2,_),(3,_)]) underlying32 gB rfl rfl rfl wK e8 (zJ rfl (Pc.arr (Pc.here _) (0:Int) 0 dC) (jB oM oM) (zJ rfl (Pc.arr (Pc.here _) (0:Int) 1 dC) (jB oM oM) (zJ rfl (Pc.arr (Pc.here _) (0:Int) 2 dC) (jB oM oM) (zJ rfl (Pc.arr (Pc.here _) (0:Int) 3 dC) (jB oM oM) zX)))) (show 4*1≤16777216 from by decide) nP) rfl ?_
      intro v319 q319 hq319
      obtain⟨cs319,rfl,rl319⟩:=hq319
      refine zE9 rfl rfl rfl rfl ?x8 ?x9
      case' x8=>
       refine sC (ev1 rfl) call126 (fun w hs=>uE hs oM oM) fun v326 h16 hh16 r326=>?_
       obtain⟨rfl,hb326⟩:=jY r326
       refine fC rfl (bX rfl (fun _ _=>vK (pa:=((([115]:List Nat)++(qZ (((↑i:Int):Int):Rat)))++([46]:List Nat))) (pb:=(qZ (((↑q:Int):Int):Rat))) rfl rfl (by first|omega|(simp only[lAz,lC,lN,List.length_drop,List.length_take];omega))) rfl (zOY rfl rfl ?_))
       replace rl319:=rl319.mono hh16
       refine vD (A:=[]) (ρ:=rpI) rl319 dK ?_
       intro h17 hh17 rs_126
       refine kD (fun X=>zU (ρ:=(rpS rpI)) (m:=1) (xs:=[(lU (II.getD i []) q BB)]) (ps':=[(0,_)]) underlying81 jK rfl rfl rfl qQ e2z (zJ rfl (Pc.arr (Pc.here _) [] 0 dC) rs_126 zX) (show 1*1≤16777216 from by decide) nP) rfl ?_
       intro v320 q320 hq320
       obtain⟨cs320,rfl,rl320⟩:=hq320
       refine zDL ?_
       replace r310:=r310.mono ((hh15.trans hh16).trans hh17)
      case' x9=>
       refine vD (A:=[]) (ρ:=rpI) rl319 dK ?_
       intro h16 hh16 rs_127
       refine kD (fun X=>zU (ρ:=(rpS rpI)) (m:=1) (xs:=[(lU (II.getD i []) q BB)]) (ps':=[(0,_)]) underlying81 jK rfl rfl rfl qQ e2z (zJ rfl (Pc.arr (Pc.here _) [] 0 dC) rs_127 zX) (show 1*1≤16777216 from by decide) nP) rfl ?_
       intro v320 q320 hq320
       obtain⟨cs320,rfl,rl320⟩:=hq320
       refine zDK rfl rfl (sC (ev1 rfl) call126 (fun w hs=>uE hs oM oM) fun v326 h17 hh17 r326=>?_)
       obtain⟨rfl,hb326⟩:=jY r326
       refine fC rfl (bX rfl (fun _ _=>vK (pa:=((([115]:List Nat)++(qZ (((↑i:Int):Int):Rat)))++([46]:List Nat))) (pb:=(qZ (((↑q:Int):Int):Rat))) rfl rfl (by first|omega|(simp only[lAz,lC,lN,List.length_drop,List.length_take];omega))) rfl (zDL ?_))
       replace r310:=r310.mono ((hh15.trans hh16).trans hh17)
       replace rl320:=rl320.mono hh17
    case' x5=>
     refine kD (fun X=>zU (ρ:=rpI) (m:=4) (xs:=(lU (II.getD i []) q BB)) (ps':=[(0,_),(1,_),(2,_),(3,_)]) underlying32 gB rfl rfl rfl wK e8 (zJ rfl (Pc.arr (Pc.here _) (0:Int) 0 dC) (jB oM oM) (zJ rfl (Pc.arr (Pc.here _) (0:Int) 1 dC) (jB oM oM) (zJ rfl (Pc.arr (Pc.here _) (0:Int) 2 dC) (jB oM oM) (zJ rfl (Pc.arr (Pc.here _) (0:Int) 3 dC) (jB oM oM) zX)))) (show 4*1≤16777216 from by decide) nP) rfl ?_
     intro v319 q319 hq319
     obtain⟨cs319,rfl,rl319⟩:=hq319
     refine zE9 rfl rfl rfl rfl ?x10 ?x11
     case' x10=>
      refine sC (ev1 rfl) call126 (fun w hs=>uE hs oM oM) fun v322 h15 hh15 r322=>?_
      obtain⟨rfl,hb322⟩:=jY r322
      refine fC rfl (bX rfl (fun _ _=>vK (pa:=([115]:List Nat)) (pb:=(qZ (((↑i:Int):Int):Rat))) rfl rfl (by first|omega|(simp only[lAz,lC,lN,List.length_drop,List.length_take];omega))) rfl (fC rfl (bX rfl (fun _ _=>vK (pa:=(([115]:List Nat)++(qZ (((↑i:Int):Int):Rat)))) (pb:=([46]:List Nat)) rfl rfl (by first|omega|(simp only[lAz,lC,lN,List.length_drop,List.length_take];omega))) rfl ?_)))
      refine zE9 rfl rfl rfl rfl ?x12 ?x13
      case' x12=>
       refine sC (ev1 rfl) call126 (fun w hs=>uE hs oM oM) fun v326 h16 hh16 r326=>?_
       obtain⟨rfl,hb326⟩:=jY r326
       refine fC rfl (bX rfl (fun _ _=>vK (pa:=((([115]:List Nat)++(qZ (((↑i:Int):Int):Rat)))++([46]:List Nat))) (pb:=(qZ (((↑q:Int):Int):Rat))) rfl rfl (by first|omega|(simp only[lAz,lC,lN,List.length_drop,List.length_take];omega))) rfl (zOY rfl rfl ?_))
       replace rl319:=rl319.mono (hh15.trans hh16)
       refine vD (A:=[]) (ρ:=rpI) rl319 dK ?_
       intro h17 hh17 rs_128
       refine kD (fun X=>zU (ρ:=(rpS rpI)) (m:=1) (xs:=[(lU (II.getD i []) q BB)]) (ps':=[(0,_)]) underlying81 jK rfl rfl rfl qQ e2z (zJ rfl (Pc.arr (Pc.here _) [] 0 dC) rs_128 zX) (show 1*1≤16777216 from by decide) nP) rfl ?_
       intro v320 q320 hq320
       obtain⟨cs320,rfl,rl320⟩:=hq320
       refine zDL ?_
       replace r310:=r310.mono ((hh15.trans hh16).trans hh17)
      case' x13=>
       replace rl319:=rl319.mono hh15
       refine vD (A:=[]) (ρ:=rpI) rl319 dK ?_
       intro h16 hh16 rs_129
       refine kD (fun X=>zU (ρ:=(rpS rpI)) (m:=1) (xs:=[(lU (II.getD i []) q BB)]) (ps':=[(0,_)]) underlying81 jK rfl rfl rfl qQ e2z (zJ rfl (Pc.arr (Pc.here _) [] 0 dC) rs_129 zX) (show 1*1≤16777216 from by decide) nP) rfl ?_
       intro v320 q320 hq320
       obtain⟨cs320,rfl,rl320⟩:=hq320
       refine zDK rfl rfl (sC (ev1 rfl) call126 (fun w hs=>uE hs oM oM) fun v326 h17 hh17 r326=>?_)
       obtain⟨rfl,hb326⟩:=jY r326
       refine fC rfl (bX rfl (fun _ _=>vK (pa:=((([115]:List Nat)++(qZ (((↑i:Int):Int):Rat)))++([46]:List Nat))) (pb:=(qZ (((↑q:Int):Int):Rat))) rfl rfl (by first|omega|(simp only[lAz,lC,lN,List.length_drop,List.length_take];omega))) rfl (zDL ?_))
       replace r310:=r310.mono ((hh15.trans hh16).trans hh17)
       replace rl320:=rl320.mono hh17
     case' x11=>
      refine vD (A:=[]) (ρ:=rpI) rl319 dK ?_
      intro h15 hh15 rs_130
      refine kD (fun X=>zU (ρ:=(rpS rpI)) (m:=1) (xs:=[(lU (II.getD i []) q BB)]) (ps':=[(0,_)]) underlying81 jK rfl rfl rfl qQ e2z (zJ rfl (Pc.arr (Pc.here _) [] 0 dC) rs_130 zX) (show 1*1≤16777216 from by decide) nP) rfl ?_
      intro v320 q320 hq320
      obtain⟨cs320,rfl,rl320⟩:=hq320
      refine zDK rfl rfl (sC (ev1 rfl) call126 (fun w hs=>uE hs oM oM) fun v322 h16 hh16 r322=>?_)
      obtain⟨rfl,hb322⟩:=jY r322
      refine fC rfl (bX rfl (fun _ _=>vK (pa:=([115]:List Nat)) (pb:=(qZ (((↑i:Int):Int):Rat))) rfl rfl (by first|omega|(simp only[lAz,lC,lN,List.length_drop,List.length_take];omega))) rfl (fC rfl (bX rfl (fun _ _=>vK (pa:=(([115]:List Nat)++(qZ (((↑i:Int):Int):Rat)))) (pb:=([46]:List Nat)) rfl rfl (by first|omega|(simp only[lAz,lC,lN,List.length_drop,List.length_take];omega))) rfl (zDK rfl rfl (sC (ev1 rfl) call126 (fun w hs=>uE hs oM oM) fun v326 h17 hh17 r326=>?_)))))
      obtain⟨rfl,hb326⟩:=jY r326
      refine fC rfl (bX rfl (fun _ _=>vK (pa:=((([115]:List Nat)++(qZ (((↑i:Int):Int):Rat)))++([46]:List Nat))) (pb:=(qZ (((↑q:Int):Int):Rat))) rfl rfl (by first|omega|(simp only[lAz,lC,lN,List.length_drop,List.length_take];omega))) rfl (zDL ?_))
      replace r310:=r310.mono ((hh15.trans hh16).trans hh17)
      replace rl320:=rl320.mono (hh16.trans hh17)
   case' x3=>
    refine kD (fun X=>zU (ρ:=rpI) (m:=4) (xs:=(lU (II.getD i []) q BB)) (ps':=[(0,_),(1,_),(2,_),(3,_)]) underlying32 gB rfl rfl rfl wK e8 (zJ rfl (Pc.arr (Pc.here _) (0:Int) 0 dC) (jB oM oM) (zJ rfl (Pc.arr (Pc.here _) (0:Int) 1 dC) (jB oM oM) (zJ rfl (Pc.arr (Pc.here _) (0:Int) 2 dC) (jB oM oM) (zJ rfl (Pc.arr (Pc.here _) (0:Int) 3 dC) (jB oM oM) zX)))) (show 4*1≤16777216 from by decide) nP) rfl ?_
    intro v319 q319 hq319
    obtain⟨cs319,rfl,rl319⟩:=hq319
    refine zE9 rfl rfl rfl rfl ?x14 ?x15
    case' x14=>
     refine sC (ev2 rfl rfl) call44 (fun w hs=>w8 hs r303 r308 oM) fun v309 h14 hh14 r309=>?_
     replace r309:=Rp.Is.le r309 (Le.q (l:=15*k+15*l1+15*l2+93) oM)
     refine fC rfl ?_
     replace r302:=r302.mono hh14
     refine xX rfl (xV (ρ:=(tPl (4*k+4*l1+4*l2+23) (15*k+15*l1+15*l2+93))) (xR (ps':=[(0,_),(1,_)]) underlying80 mB rfl rfl (cZ underlying80) e4z rfl (yJ (wG (yE oM)) (yE oM)) (zJ rfl (Pc.fst (Pc.here _)) r302 (zJ rfl (Pc.snd (Pc.here _)) r309 zX)))) fun v310 r310=>?_
     refine zE9 rfl rfl rfl rfl ?x16 ?x17
     case' x16=>
      refine sC (ev1 rfl) call126 (fun w hs=>uE hs oM oM) fun v322 h15 hh15 r322=>?_
      obtain⟨rfl,hb322⟩:=jY r322
      refine fC rfl (bX rfl (fun _ _=>vK (pa:=([115]:List Nat)) (pb:=(qZ (((↑i:Int):Int):Rat))) rfl rfl (by first|omega|(simp only[lAz,lC,lN,List.length_drop,List.length_take];omega))) rfl (fC rfl (bX rfl (fun _ _=>vK (pa:=(([115]:List Nat)++(qZ (((↑i:Int):Int):Rat)))) (pb:=([46]:List Nat)) rfl rfl (by first|omega|(simp only[lAz,lC,lN,List.length_drop,List.length_take];omega))) rfl ?_)))
      refine zE9 rfl rfl rfl rfl ?x18 ?x19
      case' x18=>
       refine sC (ev1 rfl) call126 (fun w hs=>uE hs oM oM) fun v326 h16 hh16 r326=>?_
       obtain⟨rfl,hb326⟩:=jY r326
       refine fC rfl (bX rfl (fun _ _=>vK (pa:=((([115]:List Nat)++(qZ (((↑i:Int):Int):Rat)))++([46]:List Nat))) (pb:=(qZ (((↑q:Int):Int):Rat))) rfl rfl (by first|omega|(simp only[lAz,lC,lN,List.length_drop,List.length_take];omega))) rfl (zOY rfl rfl ?_))
       replace rl319:=rl319.mono ((hh14.trans hh15).trans hh16)
       refine vD (A:=[]) (ρ:=rpI) rl319 dK ?_
       intro h17 hh17 rs_131
       refine kD (fun X=>zU (ρ:=(rpS rpI)) (m:=1) (xs:=[(lU (II.getD i []) q BB)]) (ps':=[(0,_)]) underlying81 jK rfl rfl rfl qQ e2z (zJ rfl (Pc.arr (Pc.here _) [] 0 dC) rs_131 zX) (show 1*1≤16777216 from by decide) nP) rfl ?_
       intro v320 q320 hq320
       obtain⟨cs320,rfl,rl320⟩:=hq320
       refine zDL ?_
       replace r310:=r310.mono ((hh15.trans hh16).trans hh17)
      case' x19=>
       replace rl319:=rl319.mono (hh14.trans hh15)
       refine vD (A:=[]) (ρ:=rpI) rl319 dK ?_
       intro h16 hh16 rs_132
       refine kD (fun X=>zU (ρ:=(rpS rpI)) (m:=1) (xs:=[(lU (II.getD i []) q BB)]) (ps':=[(0,_)]) underlying81 jK rfl rfl rfl qQ e2z (zJ rfl (Pc.arr (Pc.here _) [] 0 dC) rs_132 zX) (show 1*1≤16777216 from by decide) nP) rfl ?_
       intro v320 q320 hq320
       obtain⟨cs320,rfl,rl320⟩:=hq320
       refine zDK rfl rfl (sC (ev1 rfl) call126 (fun w hs=>uE hs oM oM) fun v326 h17 hh17 r326=>?_)
       obtain⟨rfl,hb326⟩:=jY r326
       refine fC rfl (bX rfl (fun _ _=>vK (pa:=((([115]:List Nat)++(qZ (((↑i:Int):Int):Rat)))++([46]:List Nat))) (pb:=(qZ (((↑q:Int):Int):Rat))) rfl rfl (by first|omega|(simp only[lAz,lC,lN,List.length_drop,List.length_take];omega))) rfl (zDL ?_))
       replace r310:=r310.mono ((hh15.trans hh16).trans hh17)
       replace rl320:=rl320.mono hh17
     case' x17=>
      replace rl319:=rl319.mono hh14
      refine vD (A:=[]) (ρ:=rpI) rl319 dK ?_
      intro h15 hh15 rs_133
      refine kD (fun X=>zU (ρ:=(rpS rpI)) (m:=1) (xs:=[(lU (II.getD i []) q BB)]) (ps':=[(0,_)]) underlying81 jK rfl rfl rfl qQ e2z (zJ rfl (Pc.arr (Pc.here _) [] 0 dC) rs_133 zX) (show 1*1≤16777216 from by decide) nP) rfl ?_
      intro v320 q320 hq320
      obtain⟨cs320,rfl,rl320⟩:=hq320
      refine zDK rfl rfl (sC (ev1 rfl) call126 (fun w hs=>uE hs oM oM) fun v322 h16 hh16 r322=>?_)
      obtain⟨rfl,hb322⟩:=jY r322
      refine fC rfl (bX rfl (fun _ _=>vK (pa:=([115]:List Nat)) (pb:=(qZ (((↑i:Int):Int):Rat))) rfl rfl (by first|omega|(simp only[lAz,lC,lN,List.length_drop,List.length_take];omega))) rfl (fC rfl (bX rfl (fun _ _=>vK (pa:=(([115]:List Nat)++(qZ (((↑i:Int):Int):Rat)))) (pb:=([46]:List Nat)) rfl rfl (by first|omega|(simp only[lAz,lC,lN,List.length_drop,List.length_take];omega))) rfl (zDK rfl rfl (sC (ev1 rfl) call126 (fun w hs=>uE hs oM oM) fun v326 h17 hh17 r326=>?_)))))
      obtain⟨rfl,hb326⟩:=jY r326
      refine fC rfl (bX rfl (fun _ _=>vK (pa:=((([115]:List Nat)++(qZ (((↑i:Int):Int):Rat)))++([46]:List Nat))) (pb:=(qZ (((↑q:Int):Int):Rat))) rfl rfl (by first|omega|(simp only[lAz,lC,lN,List.length_drop,List.length_take];omega))) rfl (zDL ?_))
      replace r310:=r310.mono ((hh15.trans hh16).trans hh17)
      replace rl320:=rl320.mono (hh16.trans hh17)
    case' x15=>
     refine vD (A:=[]) (ρ:=rpI) rl319 dK ?_
     intro h14 hh14 rs_134
     refine kD (fun X=>zU (ρ:=(rpS rpI)) (m:=1) (xs:=[(lU (II.getD i []) q BB)]) (ps':=[(0,_)]) underlying81 jK rfl rfl rfl qQ e2z (zJ rfl (Pc.arr (Pc.here _) [] 0 dC) rs_134 zX) (show 1*1≤16777216 from by decide) nP) rfl ?_
     intro v320 q320 hq320
     obtain⟨cs320,rfl,rl320⟩:=hq320
     refine zDK rfl rfl ?_
     replace r303:=r303.mono hh14
     replace r308:=r308.mono hh14
     refine sC (ev2 rfl rfl) call44 (fun w hs=>w8 hs r303 r308 oM) fun v309 h15 hh15 r309=>?_
     replace r309:=Rp.Is.le r309 (Le.q (l:=15*k+15*l1+15*l2+93) oM)
     refine fC rfl ?_
     replace r302:=r302.mono (hh14.trans hh15)
     refine xX rfl (xV (ρ:=(tPl (4*k+4*l1+4*l2+23) (15*k+15*l1+15*l2+93))) (xR (ps':=[(0,_),(1,_)]) underlying80 mB rfl rfl (cZ underlying80) e4z rfl (yJ (wG (yE oM)) (yE oM)) (zJ rfl (Pc.fst (Pc.here _)) r302 (zJ rfl (Pc.snd (Pc.here _)) r309 zX)))) fun v310 r310=>(zDK rfl rfl (sC (ev1 rfl) call126 (fun w hs=>uE hs oM oM) fun v322 h16 hh16 r322=>?_))
     obtain⟨rfl,hb322⟩:=jY r322
     refine fC rfl (bX rfl (fun _ _=>vK (pa:=([115]:List Nat)) (pb:=(qZ (((↑i:Int):Int):Rat))) rfl rfl (by first|omega|(simp only[lAz,lC,lN,List.length_drop,List.length_take];omega))) rfl (fC rfl (bX rfl (fun _ _=>vK (pa:=(([115]:List Nat)++(qZ (((↑i:Int):Int):Rat)))) (pb:=([46]:List Nat)) rfl rfl (by first|omega|(simp only[lAz,lC,lN,List.length_drop,List.length_take];omega))) rfl (zDK rfl rfl (sC (ev1 rfl) call126 (fun w hs=>uE hs oM oM) fun v326 h17 hh17 r326=>?_)))))
     obtain⟨rfl,hb326⟩:=jY r326
     refine fC rfl (bX rfl (fun _ _=>vK (pa:=((([115]:List Nat)++(qZ (((↑i:Int):Int):Rat)))++([46]:List Nat))) (pb:=(qZ (((↑q:Int):Int):Rat))) rfl rfl (by first|omega|(simp only[lAz,lC,lN,List.length_drop,List.length_take];omega))) rfl (zDL ?_))
     replace rl320:=rl320.mono ((hh15.trans hh16).trans hh17)
     replace r310:=r310.mono (hh16.trans hh17)
   all_goals
    refine w_c rfl (vD (A:=[]) (ρ:=(rpS rpI)) rl320 dK ?_)
    intro h18 hh18 rs_135
    replace r310:=r310.mono hh18
    refine sX (xV (ρ:=(tFc (4*k+4*l1+4*l2+23) (15*k+15*l1+15*l2+93))) (xR (ps':=[(0,_),(1,_),(2,_)]) underlying83 jD rfl rfl (lG underlying83) e6 rfl (yJ (yJ (wG (yE oM)) (yE oM)) (yJ qQ kT)) (zJ rfl (Pc.fst (Pc.here _)) r310 (zJ rfl (Pc.snd (Pc.fst (Pc.here _))) rs_135 (zJ rfl (Pc.snd (Pc.snd (Pc.here _))) (bM ((((show ByB [115] by unfold ByB;decide).app hb322).app (show ByB [46] by unfold ByB;decide)).app hb326)) zX))))) fun v328 r328=>?_
    refine w_c rfl (kD (fun X=>zU (ρ:=(tFc (4*k+4*l1+4*l2+23) (15*k+15*l1+15*l2+93))) (m:=1) (xs:=[(((nU PP sB_113 (II.getD i []) q),jL (nU PP sB_113 (II.getD i []) q) (pU PP sB_113 ((II.getD i []).getD q 0))),([(lU (II.getD i []) q BB)],(((([115]:List Nat)++(qZ (((↑i:Int):Int):Rat)))++([46]:List Nat))++(qZ (((↑q:Int):Int):Rat)))))]) (ps':=[(0,_)]) underlying47 jD rfl rfl rfl (yJ (yJ (wG (yE oM)) (yE oM)) (yJ qQ kT)) e2z (zJ rfl (Pc.arr (Pc.here _) zA 0 dC) r328 zX) (show 1*14≤16777216 from by decide) nP) rfl ?_)
    intro v329 q329 hq329
    obtain⟨cs329,rfl,rl329⟩:=hq329
    refine w_c rfl (vD (A:=[]) (ρ:=(tFc (4*k+4*l1+4*l2+23) (15*k+15*l1+15*l2+93))) rl329 dK ?_)
    intro h19 hh19 rs_136
    replace rl_117:=rl_117.mono (((((((hh12.trans hh13).trans hh14).trans hh15).trans hh16).trans hh17).trans hh18).trans hh19)
    refine sH (A:=[_,_,_,_]) (fun X=>jG (yD (ρ:=(tFc (4*k+4*l1+4*l2+40) (100*k+100*l1+100*l2+1000))) (bytes:=264) underlying47 jD rfl rfl rfl rfl nP rfl rfl rl_117 (rs_136.le (Le.s (Le.p (Le.p (Le.t (Le.q (l:=4*k+4*l1+4*l2+40) oM)) (Le.q (l:=100*k+100*l1+100*l2+1000) oM)) (Le.refl _)))) bO bO)) rfl (vH (by first|(simp;done)|grind)) ?_
    intro v330 q330 hq330
    obtain⟨ho330,cs330,rfl,rl330⟩:=hq330
    refine wF rfl (fun _ _=>(xU underlying50 rfl sizeOf47 rfl).cv (show _=vP b10 1 from congrArg (vP b10) (by rfl))) rfl ?_
    replace rb_115:=rb_115.mono (((((hh14.trans hh15).trans hh16).trans hh17).trans hh18).trans hh19)
    refine yQ (A:=[_,_,_,_,_,_,_,_,_,_,_]) rfl (uB sizeOf47 (Pc.snd (Pc.fst pH)) rb_115 (zC1 ho330)) fun cs_137 rb_138=>(rD (tN (wS (e':=[(6,_),(10,_),(13,_),(20,_),(24,_),(25,_),(26,_),(29,_)]) e8 (zH (zE (mv rfl rfl (gv (yB (q:=1) rfl rfl oM oM) rfl (asg rfl rfl (zR (uP (A:=[]) (uP (A:=[]) ?_)))))))))))
    refine gqL ((q+1),(F1++[(((nU PP sB_113 (II.getD i []) q),jL (nU PP sB_113 (II.getD i []) q) (pU PP sB_113 ((II.getD i []).getD q 0))),([(lU (II.getD i []) q BB)],(((([115]:List Nat)++(qZ (((↑i:Int):Int):Rat)))++([46]:List Nat))++(qZ (((↑q:Int):Int):Rat)))))]),cs_137,v330,cs330,h19) ?_ ?_
    ·
     refine⟨((((((((hmmf.trans hh12).trans hh13).trans hh14).trans hh15).trans hh16).trans hh17).trans hh18).trans hh19),?_⟩
     refine⟨rb_138,rl330,ho330,?_⟩
     exact⟨by omega,by rw[hF1,hPP2,hII,hBB,List.append_assoc];rfl⟩
    omega
  have ef:q=(II.getD i []).length:=by omega
  refine kS (uK (uK (kR (tN (zH (zE (mv rfl rfl (gv (yB (q:=1) rfl rfl oM oM) rfl (asg rfl rfl (zR ?_))))))))))
  refine gqL ((i+1),F1,(C0++[zJK (II.getD i []) (II.getD i []).length]),(T0++[TL]),cs_114,cs_102,cs_111,sB_113,cs_116,v223,cs223,v250,cs250,mf) ?_ ?_
  ·
   refine⟨((((((hmmq.trans hh8).trans hh9).trans hmmr).trans hh10).trans hh11).trans hmmf),?_⟩
   replace rl223:=rl223.mono (((hmmr.trans hh10).trans hh11).trans hmmf)
   replace rb_103:=rb_103.mono (((hmmr.trans hh10).trans hh11).trans hmmf)
   replace rl250:=rl250.mono hmmf
   replace rb_112:=rb_112.mono hmmf
   refine⟨rb_115,rb_103,rb_112,rl_117,ho_118,rl223,ho223,rl250,ho250,?_⟩
   exact⟨by omega,by rw[hC0,hII];rfl,by rw[hT0,hTL,ek,hII];rfl,by rw[hF1,ef,hII];rfl⟩
  omega
 have eii:i=(bxZ L).length:=by rw[zY0];omega
 rw[eii] at hC0 hT0 hF0
 refine kS (uK (uK (kR (zH (zL (zE (gv ((xU underlying50 rfl sizeOf47 rfl).cv (show _=vP b10 1 from congrArg (vP b10) (by rfl))) rfl (lX (aR (xB tG (Pc.snd (Pc.fst pH)) rb_87)) fun v333 r333=>?_))))))))
 subst r333
 refine yH (A:=[_]) (ρ:=(rpS rpI)) rl_96 ?_
 intro h8 hh8 rs_139
 replace rb_89:=rb_89.mono hh8
 have rb_140:(tFc 5 (l1+l2+5)).R h8 cs_88 (((T3.mk (0:Rat) (0:Rat) (-((1:Int):Rat)),-lo),(sC_84,[98,111,116,116,111,109])).1,(C0,(((T3.mk (0:Rat) (0:Rat) (-((1:Int):Rat)),-lo),(sC_84,[98,111,116,116,111,109])).2).2)):=zMY rb_89 rs_139
 replace rl_99:=rl_99.mono hh8
 refine yH (A:=[]) (ρ:=(rpS rpI)) rl_99 ?_
 intro h9 hh9 rs_141
 replace rb_91:=rb_91.mono (hh8.trans hh9)
 have rb_142:(tFc 5 (l1+l2+5)).R h9 cs_90 (((T3.mk (0:Rat) (0:Rat) ((1:Int):Rat),hi),(sD_85,[116,111,112])).1,(T0,(((T3.mk (0:Rat) (0:Rat) ((1:Int):Rat),hi),(sD_85,[116,111,112])).2).2)):=zMY rb_91 rs_141
 replace rb_140:=rb_140.mono hh9
 refine lX (xB tJ pH rb_140) fun v334 r334=>(lX (xB tJ pH rb_142) fun v335 r335=>(zG (zU (ρ:=(tFc 5 (l1+l2+5))) (m:=2) (xs:=[(((T3.mk (0:Rat) (0:Rat) (-((1:Int):Rat)),-lo),(sC_84,[98,111,116,116,111,109])).1,(C0,(((T3.mk (0:Rat) (0:Rat) (-((1:Int):Rat)),-lo),(sC_84,[98,111,116,116,111,109])).2).2)),(((T3.mk (0:Rat) (0:Rat) ((1:Int):Rat),hi),(sD_85,[116,111,112])).1,(T0,(((T3.mk (0:Rat) (0:Rat) ((1:Int):Rat),hi),(sD_85,[116,111,112])).2).2))]) (ps':=[(0,_),(1,_)]) underlying47 jD rfl rfl rfl (yJ (yJ (wG (yE dC)) (yE oM)) (yJ qQ kT)) e4z (zJ rfl (Pc.arr (Pc.here _) zA 0 dC) r334 (zJ rfl (Pc.arr (Pc.here _) zA 1 dC) r335 zX)) (show 2*14≤16777216 from by decide) nP) rfl rfl rfl ?_))
 intro v336 q336 hq336
 obtain⟨cs336,rfl,rl336⟩:=hq336
 refine yH (A:=[]) (ρ:=(tFc 5 (l1+l2+5))) rl336 ?_
 intro h10 hh10 rs_143
 replace rl_93:=rl_93.mono ((hh8.trans hh9).trans hh10)
 refine xS (A:=[]) (jG (yD (ρ:=(tFc (4*k+4*l1+4*l2+40) (100*k+100*l1+100*l2+1000))) (bytes:=264) underlying47 jD rfl rfl rfl rfl nP rfl rfl rl_93 (rs_143.le (Le.s (Le.p (Le.p (Le.t (Le.q (l:=4*k+4*l1+4*l2+40) oM)) (Le.q (l:=100*k+100*l1+100*l2+1000) oM)) (Le.refl _)))) bO bO)) rfl rfl rfl ?_
 intro v337 q337 hq337
 obtain⟨ho337,cs337,rfl,rl337⟩:=hq337
 refine gv ((xU underlying50 rfl sizeOf47 rfl).cv (show _=vP b10 1 from congrArg (vP b10) (by rfl))) rfl ?_
 replace rb_87:=rb_87.mono ((hh8.trans hh9).trans hh10)
 refine zO (A:=[_,_,_,_,_,_,_]) (uB sizeOf47 (Pc.snd (Pc.fst pH)) rb_87 (zC1 ho337)) fun cs_144 rb_145=>(zR (wS (e':=[(6,_),(10,_)]) e2z (zH (zL (zE (yH (A:=[]) (ρ:=(tFc (4*k+4*l1+4*l2+40) (100*k+100*l1+100*l2+1000))) rl337 ?_))))))
 intro h11 hh11 rs_146
 replace rb_145:=rb_145.mono hh11
 have rb_147:(tSd (k+l1+l2+5) (4*k+4*l1+4*l2+40) (100*k+100*l1+100*l2+1000) 1).R h11 cs_144 ((PP,(sB_83,([]:List En))).1,((F0++[(((T3.mk (0:Rat) (0:Rat) (-((1:Int):Rat)),-lo),(sC_84,[98,111,116,116,111,109])).1,(C0,(((T3.mk (0:Rat) (0:Rat) (-((1:Int):Rat)),-lo),(sC_84,[98,111,116,116,111,109])).2).2)),(((T3.mk (0:Rat) (0:Rat) ((1:Int):Rat),hi),(sD_85,[116,111,112])).1,(T0,(((T3.mk (0:Rat) (0:Rat) ((1:Int):Rat),hi),(sD_85,[116,111,112])).2).2))]),((PP,(sB_83,([]:List En))).2).2)):=zMY rb_145 rs_146
 have rb_148:(tSd (k+l1+l2+5) (4*k+4*l1+4*l2+40) (100*k+100*l1+100*l2+1000) 1).R h11 cs_144 (prR L lo hi):=Rp.castR rb_147 (by rw[hF0,hPP2,hC0,hT0];rfl)
 refine lX (xB gH pH rb_148) fun v339 r339=>?_
 refine jM (vs:=[_]) rfl rfl rfl rfl call82 ⟨rfl,trivial⟩ (fun w hs=>zCL hs r339 (by first|omega|exact hcd4 he0) (by first|omega|exact hcd4 he0) (by first|omega|exact hcd4 he0) (by first|omega|exact hcd4 he0)) ?_
 intro v340 h12 L340 hh12 r340
 obtain⟨vf340,cs_149,r340,rfl,ho_150,rl_151⟩:=r340
 change RL (tFc (4*(4*k+4*l1+4*l2+40)+12) ((4*k+4*l1+4*l2+40)+(100*k+100*l1+100*l2+1000)+12)) h12 cs_149 (nrF (prR L lo hi)) at rl_151
 replace r340:=Rp.Is.le r340 (Le.p (Le.s (Le.t (Le.q (l:=k+l1+l2+6) oM))) (Le.p (Le.refl _) (Le.s (Le.p (Le.refl _) (Le.p (Le.refl _) (Le.q (l:=2) oM))))))
 replace rl_151:=(Le.p (Le.p (Le.t (Le.q (l:=16*k+16*l1+16*l2+172) oM)) (Le.q (l:=104*k+104*l1+104*l2+1052) oM)) (Le.refl _)).rl rl_151
 replace rb6:=rb6.mono ((((((((((((((hh1.trans hh2).trans hh3).trans hmma).trans hmmp).trans hh4).trans hh5).trans hh6).trans hh7).trans hmmq).trans hh8).trans hh9).trans hh10).trans hh11).trans hh12)
 have rw_152:=(Le.p (Le.s (Le.t (Le.q (l:=k+l1+l2+6) oM))) (Le.p (Le.refl _) (Le.s (Le.p (Le.refl _) (Le.p (Le.refl _) (Le.q (l:=2) dC)))))).R rb6
 refine zO (A:=[_,_,_,_,_,_,_,_]) (uB sizeOf50 pH rw_152 r340) fun cs_153 rb_154=>(asg (v:=vI (0)) rfl rfl (zR (zH (bP ?_))))
 rw[he0,he1,he2]
 refine wH (jO (t:=6) gH (.tail _ mh7) rfl rb_154) ?_
 intro w_155 hvw_155 rr_156
 refine gX (.cons_cons _ (List.nil_sublist _)) (fun E S=>wL rfl hvw_155 (qN rfl) E S) ?_
 exact⟨_,_,_,rfl,(Rp.Is.cast (Rp.Is.le rr_156 (Le.p (Le.s (Le.t (Le.q (l:=k+l1+l2+20) oM))) (Le.p (Le.refl _) (Le.s (Le.p (Le.refl _) (Le.p (Le.refl _) (Le.q (l:=5) dC))))))) (by rw[show nrE (prR L lo hi)=[] from by unfold nrE;split<;>rfl])),rfl,ho_150,((Le.p (Le.p (Le.t (Le.q (l:=1000*k+1000*l1+1000*l2+2000) oM)) (Le.q (l:=1000*k+1000*l1+1000*l2+2000) oM)) (Le.refl _)).rl rl_151)⟩
end Go.Proofs.YtboaboflnckgoaaGreat
namespace Bk
set_option linter.unusedVariables false
set_option linter.unusedSimpArgs false
open Classical
def mX{α:Type}(f:α→α)(d:α)(A:List α):Nat→List α
  |0=>A
  |k+1=>(mX f d A k).set k (f ((mX f d A k).getD k d))
theorem eA{α:Type}(f:α→α)(d:α)(A:List α):∀k,(mX f d A k).length=A.length
  |0=>rfl
  |k+1=>by
   show List.length (List.set _ _ _)=_
   rw[lS];exact eA f d A k
theorem zBT{α:Type}(f:α→α)(d:α)(A:List α):∀k i,i<A.length→(mX f d A k).getD i d=if i<k then f (A.getD i d) else A.getD i d
  |0,i,_=>rfl
  |k+1,i,h=>by
   show(List.set _ k _).getD i d=_
   rw[List.getD_eq_getElem?_getD,List.getElem?_set]
   split
   · rename_i e
     subst e
     rw[if_pos (by rw[eA];exact h),if_pos (by omega),zBT f d A k k h,if_neg (by omega)];rfl
   · rename_i e
     rw[←List.getD_eq_getElem?_getD,zBT f d A k i h]
     by_cases h1:i<k
     · rw[if_pos h1,if_pos (by omega)]
     · rw[if_neg h1,if_neg (by omega)]
theorem zS0{α:Type}(f:α→α)(d:α)(A:List α):mX f d A A.length=A.map f:=by
  refine List.ext_getElem (by rw[eA,List.length_map]) fun i h1 h2=>?_
  rw[eA] at h1
  have:=zBT f d A A.length i h1
  rw[if_pos h1,List.getD_eq_getElem?_getD,List.getElem?_eq_getElem (by rw[eA];exact h1)] at this
  rw[List.getD_eq_getElem?_getD,List.getElem?_eq_getElem h1] at this
  rw[List.getElem_map]
  exact this
noncomputable def rnN(n:List Nat):List Nat:=if n=[98,111,116,116,111,109] then[122,48] else if n=[116,111,112] then[122,49] else if n=[115,48,46,48] then[121,48] else if n=[115,48,46,49] then[120,49] else if n=[115,48,46,50] then[121,49] else if n=[115,48,46,51] then[120,48] else n
noncomputable def rnF(f:Fc):Fc:=(f.1,(f.2.1,rnN f.2.2))
theorem zI9{F F0:List Fc}{i:Nat}{nm:List Nat}(hF:F=mX rnF zA F0 i)(h:rnN (F.getD i zA).2.2=nm):F.set i ((F.getD i zA).1,((F.getD i zA).2.1,nm))=mX rnF zA F0 (i+1):=by
  subst hF;subst h;rfl
theorem zZF{F F0:List Fc}{i:Nat}(hF:F=mX rnF zA F0 i)(h:rnN (F.getD i zA).2.2=(F.getD i zA).2.2)(hi:i<F.length):F=mX rnF zA F0 (i+1):=by
  rw[←zI9 hF h]
  show F=F.set i (F.getD i zA)
  rw[List.getD_eq_getElem?_getD,List.getElem?_eq_getElem hi]
  exact(List.set_getElem_self hi).symm
section
variable (a b:Pt)
def eX:Prop:=∀u,u<3→¬0≤wB (a.at u) (b.at u)
def blL:List (List Pt):=[[T3.mk a.x a.y (0:Rat),T3.mk b.x a.y (0:Rat),T3.mk b.x b.y (0:Rat),T3.mk a.x b.y (0:Rat)]]
noncomputable def blG:List Fc:=mX rnF zA (prF (blL a b) a.z b.z) (prF (blL a b) a.z b.z).length
noncomputable def blS:Sd:=(prP (blL a b) a.z b.z,blG a b,[])
noncomputable def blP:List Pt:=if eX a b then nrP (blS a b) else[]
noncomputable def blF:List Fc:=if eX a b then nrF (blS a b) else[]
noncomputable def blE:Int:=if eX a b then prE (blL a b) a.z b.z else 9
def blH:Prop:=(∀x,x∈blL a b→lY x)∧(prE (blL a b) a.z b.z=0→okS (prR (blL a b) a.z b.z))∧okS (blS a b)
end
theorem zT1{L:List (List Pt)}{lo hi:Rat}(h:prE L lo hi=0→okS (prR L lo hi)):(prF L lo hi).length≤1000:=by
  unfold prF
  split
  · rename_i h0
    unfold nrF
    split
    · rw[zKJ];exact(h h0).1.1.2
    · exact Nat.zero_le _
  · exact Nat.zero_le _
theorem bl_9{a b:Pt}(h:¬eX a b):blE a b=9∧blP a b=[]∧blF a b=[]:=⟨if_neg h,if_neg h,if_neg h⟩
theorem zU8{a b:Pt}(h:eX a b):blE a b=prE (blL a b) a.z b.z∧blP a b=nrP (blS a b)∧blF a b=nrF (blS a b):=⟨if_pos h,if_pos h,if_pos h⟩
end Bk
namespace Go.Proofs.YtboaboflnckgoaaGreat
open Bk Go Tryz
set_option linter.unusedVariables false
set_option linter.unusedSimpArgs false
set_option maxRecDepth 10000
set_option maxHeartbeats 1000000
attribute [local irreducible] GL GC GQ W OpV
set_option maxHeartbeats 1000000 in
theorem zN4{w0:World}{h0:Mem}(hs:MLe h0 (mem w0)){k l:Nat}{va:Value}{a:Tq}(ra:(tPt k).Is h0 va a){vb:Value}{b:Tq}(rb:(tPt l).Is h0 vb b)(hcd0:k≤5)(hcd1:l≤5)(hcd2:eX a b→blH a b):
    Calls Tryz.prog 35 #[va,vb] w0 (rT w0 h0 (fun h r L_=>∃u0 vF cs,r=.tuple #[u0,vI (blE a b)]∧(rpP (tLs (2*k+2*l+40)) (rpP rpV (rpS (rpP rpI (rpP rpI (rpQ 6)))))).Is h u0 (blP a b,(vF,[]))∧L_=[.gs 83 14 vF (blF a b).length cs]∧vF.oneCell'=true∧RL (tFc (10000*k+10000*l+20000) (10000*k+10000*l+20000)) h cs (blF a b))):=by
 refine cb2 102 va vb func35 hs ?_
 refine go2 ?_
 refine nB ra fun b2 cs2 rb2=>(nB rb fun b3 cs3 rb3=>(nA (ρ:=(rpP (tLs 1) (rpP rpV (rpS (rpP rpI (rpP rpI (rpQ 1))))))) (X:=([],((Value.slice none 0 0),[]))) sD (yJ qQ (yJ cY qQ)) fun b4 cs4 rb4=>?_))
 refine vX ?_
 refine gcL (ι:=Nat×Mem) (fun(i,ma)=>(MLe h0 ma∧(i≤3∧∀u,u<i→¬0≤wB (a.at u) (b.at u)),[(2,vP b2 0),(3,vP b3 0),(4,vP b4 0),(6,vI ↑i)],[.var b4 50 cs4,.var b3 53 cs3,.var b2 53 cs2],ma,3-i)) (0,h0) ?_ ?_
 ·
  refine⟨MLe.refl _,?_⟩
  exact⟨by omega,fun u h=>by omega⟩
 intro x hx
 obtain⟨i,ma⟩:=x
 dsimp only at hx
 obtain⟨hmma,hinv⟩:=hx
 refine yR ?_
 obtain⟨hi1,hi2⟩:=hinv
 refine go7 ?_
 refine cnd (fun hc12=>?_) fun hc12=>?_
 ·
  refine go5 ?_
  refine gD 8 (qq 0 6 [(6,.c),(7,.q)]) (by kernel_rfl) ?_
  refine go1 ?_
  refine wF rfl (fun _ _=>(xW (sz:=3) i underlying53 sizeOf26 rfl rfl rfl oM).cv (show _=vP b2 ((i*3+0)) from congrArg (vP b2) oM)) rfl (wX rfl (xB zV (Pc.ta pH i oM) rb2) fun v17 r17=>?_)
  refine go1 ?_
  refine wF rfl (fun _ _=>(xW (sz:=3) i underlying53 sizeOf26 rfl rfl rfl oM).cv (show _=vP b3 ((i*3+0)) from congrArg (vP b3) oM)) rfl (wX rfl (xB zV (Pc.ta pH i oM) rb3) fun v20 r20=>?_)
  refine w_c rfl (sC (ev2 rfl rfl) call18 (fun w hs=>uX hs r17 r20 oM) fun v21 h1 hh1 r21=>?_)
  obtain rfl:v21=vI (wB (a.at i) (b.at i)):=r21
  have hcr21:=uF (a.at i) (b.at i)
  refine go3 ?_
  refine cnd (fun hc22=>?_) fun hc22=>?_
  ·
   refine go2 ?_
   refine lX (xV (ρ:=(rpP (tLs 1) (rpP rpV (rpS (rpP rpI (rpP rpI (rpQ 1))))))) (xR (ps':=[]) underlying50 sD rfl rfl (bA underlying50) trivial rfl (yJ qQ (yJ cY qQ)) zX)) fun v23 r23=>?_
   replace rb4:=rb4.mono (hmma.trans hh1)
   refine zO (A:=[]) (uB sizeOf50 pH rb4 r23) fun cs_1 rb_2=>?_
   refine go9 ?_
   obtain⟨e1,e2,e3⟩:=bl_9 (a:=a) (b:=b) (fun e=>e i oM hc22)
   rw[e1,e2,e3]
   refine cV 83 14 ?_
   have rl_3:RL (tFc (10000*k+10000*l+20000) (10000*k+10000*l+20000)) h1 [] ([]:List (Pq×((List (List Int))×(List Nat)))):=RL.nil
   refine wH (jO (t:=4) gH mh1 rfl rb_2) ?_
   intro w_4 hvw_4 rr_5
   refine gX (.cons_cons _ (List.nil_sublist _)) (fun E S=>wL rfl hvw_4 (qN rfl) E S) ?_
   exact⟨_,_,_,rfl,(Rp.Is.le rr_5 (Le.p (Le.s (Le.t (Le.q (l:=2*k+2*l+40) oM))) (Le.p (Le.refl _) (Le.s (Le.p (Le.refl _) (Le.p (Le.refl _) (Le.q (l:=6) dC))))))),rfl,rfl,rl_3⟩
  refine go8 ?_
  refine gqL ((i+1),h1) ?_ ?_
  ·
   refine⟨(hmma.trans hh1),?_⟩
   exact⟨by omega,qM (Q:=fun u=>¬0≤wB (a.at u) (b.at u)) hi2 hc22⟩
  omega
 have hok:eX a b:=fun u hu=>hi2 u oM
 have hbl:=hcd2 hok
 have hfl:=zT1 hbl.2.1
 refine go8 ?_
 refine lX (xB zV (Pc.tx pH) rb2) fun v26 r26=>?_
 refine go1 ?_
 refine lX (xB zV (Pc.ty pH) rb2) fun v28 r28=>(lX (xV (ρ:=(tPt (k+1))) (wQ (ps':=[(0,_),(1,_)]) underlying53 xC rfl rfl sizeOf26 e4z rfl (wG (yE oM)) (zJ rfl (Pc.tx (Pc.here _)) (r26.le (Le.q (l:=k+1) oM)) (zJ rfl (Pc.ty (Pc.here _)) (r28.le (Le.q (l:=k+1) oM)) zX)))) fun v29 r29=>?_)
 refine go1 ?_
 refine lX (xB zV (Pc.tx pH) rb3) fun v31 r31=>?_
 refine go1 ?_
 refine lX (xB zV (Pc.ty pH) rb2) fun v33 r33=>(lX (xV (ρ:=(tPt (k+l+1))) (wQ (ps':=[(0,_),(1,_)]) underlying53 xC rfl rfl sizeOf26 e4z rfl (wG (yE oM)) (zJ rfl (Pc.tx (Pc.here _)) (r31.le (Le.q (l:=k+l+1) oM)) (zJ rfl (Pc.ty (Pc.here _)) (r33.le (Le.q (l:=k+l+1) oM)) zX)))) fun v34 r34=>?_)
 refine go1 ?_
 refine lX (xB zV (Pc.tx pH) rb3) fun v36 r36=>?_
 refine go1 ?_
 refine lX (xB zV (Pc.ty pH) rb3) fun v38 r38=>(lX (xV (ρ:=(tPt (l+1))) (wQ (ps':=[(0,_),(1,_)]) underlying53 xC rfl rfl sizeOf26 e4z rfl (wG (yE oM)) (zJ rfl (Pc.tx (Pc.here _)) (r36.le (Le.q (l:=l+1) oM)) (zJ rfl (Pc.ty (Pc.here _)) (r38.le (Le.q (l:=l+1) oM)) zX)))) fun v39 r39=>?_)
 refine go1 ?_
 refine lX (xB zV (Pc.tx pH) rb2) fun v41 r41=>?_
 refine go1 ?_
 refine lX (xB zV (Pc.ty pH) rb3) fun v43 r43=>(lX (xV (ρ:=(tPt (k+l+1))) (wQ (ps':=[(0,_),(1,_)]) underlying53 xC rfl rfl sizeOf26 e4z rfl (wG (yE oM)) (zJ rfl (Pc.tx (Pc.here _)) (r41.le (Le.q (l:=k+l+1) oM)) (zJ rfl (Pc.ty (Pc.here _)) (r43.le (Le.q (l:=k+l+1) oM)) zX)))) fun v44 r44=>(zG (zU (ρ:=(tPt (k+l+1))) (m:=4) (xs:=[(zZ a),(T3.mk b.x a.y (0:Rat)),(zZ b),(T3.mk a.x b.y (0:Rat))]) (ps':=[(0,_),(1,_),(2,_),(3,_)]) underlying46 xC rfl rfl rfl (wG (yE oM)) e8 (zJ rfl (Pc.arr (Pc.here _) zT 0 dC) (r29.le (Le.t (Le.q (l:=k+l+1) oM))) (zJ rfl (Pc.arr (Pc.here _) zT 1 dC) r34 (zJ rfl (Pc.arr (Pc.here _) zT 2 dC) (r39.le (Le.t (Le.q (l:=k+l+1) oM))) (zJ rfl (Pc.arr (Pc.here _) zT 3 dC) r44 zX)))) (show 4*9≤16777216 from by decide) nP) rfl rfl rfl ?_))
 intro v45 q45 hq45
 obtain⟨cs45,rfl,rl45⟩:=hq45
 refine yH (A:=[]) (ρ:=(tPt (k+l+1))) rl45 ?_
 intro h1 hh1 rs_6
 refine zG (zU (ρ:=(tLs (k+l+1))) (m:=1) (xs:=[[(zZ a),(T3.mk b.x a.y (0:Rat)),(zZ b),(T3.mk a.x b.y (0:Rat))]]) (ps':=[(0,_)]) underlying115 zAB rfl rfl rfl qQ e2z (zJ rfl (Pc.arr (Pc.here _) [] 0 dC) rs_6 zX) (show 1*1≤16777216 from by decide) nP) rfl rfl rfl ?_
 intro v46 q46 hq46
 obtain⟨cs46,rfl,rl46⟩:=hq46
 refine go1 ?_
 refine lX (xB zV (Pc.tz pH) rb2) fun v48 r48=>?_
 refine go1 ?_
 refine lX (xB zV (Pc.tz pH) rb3) fun v50 r50=>(yH (A:=[]) (ρ:=(tLs (k+l+1))) rl46 ?_)
 intro h2 hh2 rs_7
 refine jM (vs:=[_,_,_]) rfl rfl rfl rfl call81 e3z (fun w hs=>zN0 hs rs_7 r48.up r50.up (by first|omega|exact hbl.1|exact hbl.2.1) (by first|omega|exact hbl.1|exact hbl.2.1) (by first|omega|exact hbl.1|exact hbl.2.1) (by first|omega|exact hbl.1|exact hbl.2.1) (by first|omega|exact hbl.1|exact hbl.2.1)) ?_
 intro v51 h3 L51 hh3 r51
 obtain⟨u51,vf51,cs_8,rfl,r51,rfl,ho_9,rl_10⟩:=r51
 change RL (tFc (1000*(k+l+1)+1000*k+1000*l+2000) (1000*(k+l+1)+1000*k+1000*l+2000)) h3 cs_8 (prF [[(zZ a),(T3.mk b.x a.y (0:Rat)),(zZ b),(T3.mk a.x b.y (0:Rat))]] a.z b.z) at rl_10
 replace r51:=Rp.Is.le r51 (Le.p (Le.s (Le.t (Le.q (l:=2*k+2*l+21) oM))) (Le.refl _))
 replace rl_10:=(Le.p (Le.p (Le.t (Le.q (l:=2000*k+2000*l+3000) oM)) (Le.q (l:=2000*k+2000*l+3000) oM)) (Le.refl _)).rl rl_10
 refine go3 ?_
 refine nA (ρ:=(rpP (tLs 1) (rpP rpV (rpS (rpP rpI (rpP rpI (rpQ 1))))))) (X:=([],((Value.slice none 0 0),[]))) sD (yJ qQ (yJ cY qQ)) fun b7 cs7 rb7=>?_
 have rw_11:=(Le.p (Le.s (Le.t (Le.q (l:=2*k+2*l+21) oM))) (Le.p (Le.refl _) (Le.s (Le.p (Le.refl _) (Le.p (Le.refl _) (Le.q (l:=5) dC)))))).R rb7
 refine zO (A:=[]) (uB sizeOf50 pH rw_11 r51) fun cs_12 rb_13=>?_
 refine vX ?_
 refine gcL (ι:=Nat×List Fc×List Value×Value×List Value×Mem) (fun(i,F1,cs_15,sA_14,cs_17,mb)=>(MLe h3 mb∧((rpP (tLs (2*k+2*l+30)) (rpP rpV (rpS (rpP rpI (rpP rpI (rpQ 5)))))).R mb cs_15 (prP (blL a b) a.z b.z,(sA_14,([]:List En)))∧RL (tFc (2000*k+2000*l+3000) (2000*k+2000*l+3000)) mb cs_17 F1∧sA_14.oneCell'=true∧i≤(prF (blL a b) a.z b.z).length∧F1=mX rnF zA (prF (blL a b) a.z b.z) i),[(4,vP b4 0),(7,vP b7 0),(8,vI (prE [[(zZ a),(T3.mk b.x a.y (0:Rat)),(zZ b),(T3.mk a.x b.y (0:Rat))]] a.z b.z)),(9,vI ↑i)],[.var b7 50 cs_15,.gs 83 14 sA_14 F1.length cs_17,.var b4 50 cs4,.var b3 53 cs3,.var b2 53 cs2],mb,(prF (blL a b) a.z b.z).length-i)) (0,(prF (blL a b) a.z b.z),cs_12,vf51,cs_8,h3) ?_ ?_
 ·
  refine⟨MLe.refl _,?_⟩
  refine⟨((Le.p (Le.s (Le.t (Le.q (l:=2*k+2*l+30) oM))) (Le.refl _)).R rb_13),rl_10,ho_9,?_⟩
  exact⟨by omega,rfl⟩
 intro x hx
 obtain⟨i,F1,cs_15,sA_14,cs_17,mb⟩:=x
 dsimp only at hx
 obtain⟨hmmb,hinv⟩:=hx
 refine yR ?_
 obtain⟨rb_16,rl_18,ho_19,hinv⟩:=hinv
 obtain⟨hi3,hF1⟩:=hinv
 have hFl:F1.length=(prF (blL a b) a.z b.z).length:=by rw[hF1];exact eA _ _ _ _
 refine go5 ?_
 refine lX (aR (xB tG (Pc.snd (Pc.fst pH)) rb_16)) fun v56 r56=>?_
 subst r56
 refine gv (kX mh1 underlying47 rfl) rfl ?_
 refine go3 ?_
 refine cnd (fun hc58=>?_) fun hc58=>?_
 ·
  refine go7 ?_
  refine lX (aR (xB tG (Pc.snd (Pc.fst pH)) rb_16)) fun v62 r62=>?_
  subst r62
  refine go1 ?_
  refine gv ((yY i mh1 underlying47 sizeOf83 rfl rfl rfl bO nP).cv (show _=zK 1 sA_14 ((i*14+0)) from congrArg (zK 1 sA_14) (by rfl))) rfl ?_
  refine go6 ?_
  refine gv (tW (Pc.arr (Pc.here _) zA i bO) rfl nP rl_18 mh1 rfl) rfl (gv ((gV (Pc.arr (Pc.here _) zA i bO) rfl nP rl_18 mh1 underlying83 rfl sizeOf9 rfl).cv (show _=zK 1 sA_14 ((i*14+13)) from congrArg (zK 1 sA_14) (by show(i*14+0)+13=(i*14+13);omega))) rfl (zIJ (F:=fun v_=>cD.Is mb v_ (((F1.getD i zA).2).2)) (wU ty9 (Pc.arr (Pc.snd (Pc.snd (Pc.here _))) zA i bO) rfl nP rfl rl_18 rfl) (tM mh1) rfl ?_))
  intro v68 r68
  obtain⟨rfl,hb68⟩:=jY r68
  refine go5 ?_
  refine gv (lM (pa:=(((F1.getD i zA).2).2)) (pb:=([98,111,116,116,111,109]:List Nat)) hb68 (show ByB [98,111,116,116,111,109] by unfold ByB;decide) rfl rfl) rfl ?_
  refine go3 ?_
  refine cnd (fun hc69=>?_) fun hc69=>?_
  ·
   refine go2 ?_
   refine gv (tW (Pc.arr (Pc.here _) zA i bO) rfl nP rl_18 mh1 rfl) rfl (gv ((gV (Pc.arr (Pc.here _) zA i bO) rfl nP rl_18 mh1 underlying83 rfl sizeOf9 rfl).cv (show _=zK 1 sA_14 ((i*14+13)) from congrArg (zK 1 sA_14) (by show(i*14+0)+13=(i*14+13);omega))) rfl (gC (A:=[_]) (F:=fun c_=>RL (tFc (2000*k+2000*l+3000) (2000*k+2000*l+3000)) mb c_ (F1.set i ((F1.getD i zA).1,(((F1.getD i zA).2).1,([122,48]:List Nat))))) (rI sizeOf9 (Pc.arr (Pc.snd (Pc.snd (Pc.here _))) zA i bO) rfl nP rfl rfl rl_18 (bM (show ByB [122,48] by unfold ByB;decide)) rfl) ?_))
   intro cs_20 rl_21
   refine go9 ?_
   refine gqL ((i+1),(F1.set i ((F1.getD i zA).1,(((F1.getD i zA).2).1,([122,48]:List Nat)))),cs_15,sA_14,cs_20,mb) ?_ ?_
   ·
    refine⟨hmmb,?_⟩
    refine⟨rb_16,rl_21,ho_19,?_⟩
    exact⟨by omega,zI9 hF1 (by unfold rnN;rw[if_pos hc69])⟩
   omega
  refine go2 ?_
  refine gv (lM (pa:=(((F1.getD i zA).2).2)) (pb:=([116,111,112]:List Nat)) hb68 (show ByB [116,111,112] by unfold ByB;decide) rfl rfl) rfl ?_
  refine go3 ?_
  refine cnd (fun hc74=>?_) fun hc74=>?_
  ·
   refine go2 ?_
   refine gv (tW (Pc.arr (Pc.here _) zA i bO) rfl nP rl_18 mh1 rfl) rfl (gv ((gV (Pc.arr (Pc.here _) zA i bO) rfl nP rl_18 mh1 underlying83 rfl sizeOf9 rfl).cv (show _=zK 1 sA_14 ((i*14+13)) from congrArg (zK 1 sA_14) (by show(i*14+0)+13=(i*14+13);omega))) rfl (gC (A:=[_]) (F:=fun c_=>RL (tFc (2000*k+2000*l+3000) (2000*k+2000*l+3000)) mb c_ (F1.set i ((F1.getD i zA).1,(((F1.getD i zA).2).1,([122,49]:List Nat))))) (rI sizeOf9 (Pc.arr (Pc.snd (Pc.snd (Pc.here _))) zA i bO) rfl nP rfl rfl rl_18 (bM (show ByB [122,49] by unfold ByB;decide)) rfl) ?_))
   intro cs_22 rl_23
   refine go9 ?_
   refine gqL ((i+1),(F1.set i ((F1.getD i zA).1,(((F1.getD i zA).2).1,([122,49]:List Nat)))),cs_15,sA_14,cs_22,mb) ?_ ?_
   ·
    refine⟨hmmb,?_⟩
    refine⟨rb_16,rl_23,ho_19,?_⟩
    exact⟨by omega,zI9 hF1 (by unfold rnN;rw[if_neg hc69,if_pos hc74])⟩
   omega
  refine go2 ?_
  refine gv (lM (pa:=(((F1.getD i zA).2).2)) (pb:=([115,48,46,48]:List Nat)) hb68 (show ByB [115,48,46,48] by unfold ByB;decide) rfl rfl) rfl ?_
  refine go3 ?_
  refine cnd (fun hc79=>?_) fun hc79=>?_
  ·
   refine go2 ?_
   refine gv (tW (Pc.arr (Pc.here _) zA i bO) rfl nP rl_18 mh1 rfl) rfl (gv ((gV (Pc.arr (Pc.here _) zA i bO) rfl nP rl_18 mh1 underlying83 rfl sizeOf9 rfl).cv (show _=zK 1 sA_14 ((i*14+13)) from congrArg (zK 1 sA_14) (by show(i*14+0)+13=(i*14+13);omega))) rfl (gC (A:=[_]) (F:=fun c_=>RL (tFc (2000*k+2000*l+3000) (2000*k+2000*l+3000)) mb c_ (F1.set i ((F1.getD i zA).1,(((F1.getD i zA).2).1,([121,48]:List Nat))))) (rI sizeOf9 (Pc.arr (Pc.snd (Pc.snd (Pc.here _))) zA i bO) rfl nP rfl rfl rl_18 (bM (show ByB [121,48] by unfold ByB;decide)) rfl) ?_))
   intro cs_24 rl_25
   refine go9 ?_
   refine gqL ((i+1),(F1.set i ((F1.getD i zA).1,(((F1.getD i zA).2).1,([121,48]:List Nat)))),cs_15,sA_14,cs_24,mb) ?_ ?_
   ·
    refine⟨hmmb,?_⟩
    refine⟨rb_16,rl_25,ho_19,?_⟩
    exact⟨by omega,zI9 hF1 (by unfold rnN;rw[if_neg hc69,if_neg hc74,if_pos hc79])⟩
   omega
  refine go2 ?_
  refine gv (lM (pa:=(((F1.getD i zA).2).2)) (pb:=([115,48,46,49]:List Nat)) hb68 (show ByB [115,48,46,49] by unfold ByB;decide) rfl rfl) rfl ?_
  refine go3 ?_
  refine cnd (fun hc84=>?_) fun hc84=>?_
  ·
   refine go2 ?_
   refine gv (tW (Pc.arr (Pc.here _) zA i bO) rfl nP rl_18 mh1 rfl) rfl (gv ((gV (Pc.arr (Pc.here _) zA i bO) rfl nP rl_18 mh1 underlying83 rfl sizeOf9 rfl).cv (show _=zK 1 sA_14 ((i*14+13)) from congrArg (zK 1 sA_14) (by show(i*14+0)+13=(i*14+13);omega))) rfl (gC (A:=[_]) (F:=fun c_=>RL (tFc (2000*k+2000*l+3000) (2000*k+2000*l+3000)) mb c_ (F1.set i ((F1.getD i zA).1,(((F1.getD i zA).2).1,([120,49]:List Nat))))) (rI sizeOf9 (Pc.arr (Pc.snd (Pc.snd (Pc.here _))) zA i bO) rfl nP rfl rfl rl_18 (bM (show ByB [120,49] by unfold ByB;decide)) rfl) ?_))
   intro cs_26 rl_27
   refine go9 ?_
   refine gqL ((i+1),(F1.set i ((F1.getD i zA).1,(((F1.getD i zA).2).1,([120,49]:List Nat)))),cs_15,sA_14,cs_26,mb) ?_ ?_
   ·
    refine⟨hmmb,?_⟩
    refine⟨rb_16,rl_27,ho_19,?_⟩
    exact⟨by omega,zI9 hF1 (by unfold rnN;rw[if_neg hc69,if_neg hc74,if_neg hc79,if_pos hc84])⟩
   omega
  refine go2 ?_
  refine gv (lM (pa:=(((F1.getD i zA).2).2)) (pb:=([115,48,46,50]:List Nat)) hb68 (show ByB [115,48,46,50] by unfold ByB;decide) rfl rfl) rfl ?_
  refine go3 ?_
  refine cnd (fun hc89=>?_) fun hc89=>?_
  ·
   refine go2 ?_
   refine gv (tW (Pc.arr (Pc.here _) zA i bO) rfl nP rl_18 mh1 rfl) rfl (gv ((gV (Pc.arr (Pc.here _) zA i bO) rfl nP rl_18 mh1 underlying83 rfl sizeOf9 rfl).cv (show _=zK 1 sA_14 ((i*14+13)) from congrArg (zK 1 sA_14) (by show(i*14+0)+13=(i*14+13);omega))) rfl (gC (A:=[_]) (F:=fun c_=>RL (tFc (2000*k+2000*l+3000) (2000*k+2000*l+3000)) mb c_ (F1.set i ((F1.getD i zA).1,(((F1.getD i zA).2).1,([121,49]:List Nat))))) (rI sizeOf9 (Pc.arr (Pc.snd (Pc.snd (Pc.here _))) zA i bO) rfl nP rfl rfl rl_18 (bM (show ByB [121,49] by unfold ByB;decide)) rfl) ?_))
   intro cs_28 rl_29
   refine go9 ?_
   refine gqL ((i+1),(F1.set i ((F1.getD i zA).1,(((F1.getD i zA).2).1,([121,49]:List Nat)))),cs_15,sA_14,cs_28,mb) ?_ ?_
   ·
    refine⟨hmmb,?_⟩
    refine⟨rb_16,rl_29,ho_19,?_⟩
    exact⟨by omega,zI9 hF1 (by unfold rnN;rw[if_neg hc69,if_neg hc74,if_neg hc79,if_neg hc84,if_pos hc89])⟩
   omega
  refine go2 ?_
  refine gv (lM (pa:=(((F1.getD i zA).2).2)) (pb:=([115,48,46,51]:List Nat)) hb68 (show ByB [115,48,46,51] by unfold ByB;decide) rfl rfl) rfl ?_
  refine go3 ?_
  refine cnd (fun hc94=>?_) fun hc94=>?_
  ·
   refine go2 ?_
   refine gv (tW (Pc.arr (Pc.here _) zA i bO) rfl nP rl_18 mh1 rfl) rfl (gv ((gV (Pc.arr (Pc.here _) zA i bO) rfl nP rl_18 mh1 underlying83 rfl sizeOf9 rfl).cv (show _=zK 1 sA_14 ((i*14+13)) from congrArg (zK 1 sA_14) (by show(i*14+0)+13=(i*14+13);omega))) rfl (gC (A:=[_]) (F:=fun c_=>RL (tFc (2000*k+2000*l+3000) (2000*k+2000*l+3000)) mb c_ (F1.set i ((F1.getD i zA).1,(((F1.getD i zA).2).1,([120,48]:List Nat))))) (rI sizeOf9 (Pc.arr (Pc.snd (Pc.snd (Pc.here _))) zA i bO) rfl nP rfl rfl rl_18 (bM (show ByB [120,48] by unfold ByB;decide)) rfl) ?_))
   intro cs_30 rl_31
   refine go9 ?_
   refine gqL ((i+1),(F1.set i ((F1.getD i zA).1,(((F1.getD i zA).2).1,([120,48]:List Nat)))),cs_15,sA_14,cs_30,mb) ?_ ?_
   ·
    refine⟨hmmb,?_⟩
    refine⟨rb_16,rl_31,ho_19,?_⟩
    exact⟨by omega,zI9 hF1 (by unfold rnN;rw[if_neg hc69,if_neg hc74,if_neg hc79,if_neg hc84,if_neg hc89,if_pos hc94])⟩
   omega
  refine go9 ?_
  refine gqL ((i+1),F1,cs_15,sA_14,cs_17,mb) ?_ ?_
  ·
   refine⟨hmmb,?_⟩
   refine⟨rb_16,rl_18,ho_19,?_⟩
   exact⟨by omega,zZF hF1 (by unfold rnN;rw[if_neg hc69,if_neg hc74,if_neg hc79,if_neg hc84,if_neg hc89,if_neg hc94]) oM⟩
  omega
 have ei:i=(prF (blL a b) a.z b.z).length:=by omega
 rw[ei] at hF1
 refine go7 ?_
 refine yH (A:=[_]) (ρ:=(tFc (2000*k+2000*l+3000) (2000*k+2000*l+3000))) rl_18 ?_
 intro h4 hh4 rs_32
 replace rb_16:=rb_16.mono hh4
 have rb_33:(tSd (2*k+2*l+30) (2000*k+2000*l+3000) (2000*k+2000*l+3000) 5).R h4 cs_15 ((prP (blL a b) a.z b.z,(sA_14,([]:List En))).1,(F1,((prP (blL a b) a.z b.z,(sA_14,([]:List En))).2).2)):=zMY rb_16 rs_32
 have rb_34:(tSd (2*k+2*l+30) (2000*k+2000*l+3000) (2000*k+2000*l+3000) 5).R h4 cs_15 (blS a b):=Rp.castR rb_33 (by rw[hF1];rfl)
 refine lX (xB gH pH rb_34) fun v99 r99=>?_
 refine jM (vs:=[_]) rfl rfl rfl rfl call82 ⟨rfl,trivial⟩ (fun w hs=>zCL hs r99 (by first|omega|exact hbl.2.2) (by first|omega|exact hbl.2.2) (by first|omega|exact hbl.2.2) (by first|omega|exact hbl.2.2)) ?_
 intro v100 h5 L100 hh5 r100
 obtain⟨vf100,cs_35,r100,rfl,ho_36,rl_37⟩:=r100
 change RL (tFc (4*(2000*k+2000*l+3000)+12) ((2000*k+2000*l+3000)+(2000*k+2000*l+3000)+12)) h5 cs_35 (nrF (blS a b)) at rl_37
 replace r100:=Rp.Is.le r100 (Le.p (Le.s (Le.t (Le.q (l:=2*k+2*l+31) oM))) (Le.p (Le.refl _) (Le.s (Le.p (Le.refl _) (Le.p (Le.refl _) (Le.q (l:=6) oM))))))
 replace rl_37:=(Le.p (Le.p (Le.t (Le.q (l:=8000*k+8000*l+12012) oM)) (Le.q (l:=4000*k+4000*l+6012) oM)) (Le.refl _)).rl rl_37
 refine go1 ?_
 replace rb4:=rb4.mono ((((((hmma.trans hh1).trans hh2).trans hh3).trans hmmb).trans hh4).trans hh5)
 have rw_38:=(Le.p (Le.s (Le.t (Le.q (l:=2*k+2*l+31) oM))) (Le.p (Le.refl _) (Le.s (Le.p (Le.refl _) (Le.p (Le.refl _) (Le.q (l:=6) dC)))))).R rb4
 refine zO (A:=[_,_]) (uB sizeOf50 pH rw_38 r100) fun cs_39 rb_40=>?_
 refine go4 ?_
 obtain⟨e1,e2,e3⟩:=zU8 hok
 rw[e1,e2,e3]
 refine wH (jO (t:=4) gH mh2 rfl rb_40) ?_
 intro w_41 hvw_41 rr_42
 refine gX (.cons_cons _ (List.nil_sublist _)) (fun E S=>wL rfl hvw_41 (qN rfl) E S) ?_
 exact⟨_,_,_,rfl,(Rp.Is.cast (Rp.Is.le rr_42 (Le.p (Le.s (Le.t (Le.q (l:=2*k+2*l+40) oM))) (Le.refl _))) (by rw[show nrE (blS a b)=[] from by unfold nrE;split<;>rfl])),rfl,ho_36,((Le.p (Le.p (Le.t (Le.q (l:=10000*k+10000*l+20000) oM)) (Le.q (l:=10000*k+10000*l+20000) oM)) (Le.refl _)).rl rl_37)⟩
end Go.Proofs.YtboaboflnckgoaaGreat
namespace Bk
set_option linter.unusedVariables false
set_option linter.unusedSimpArgs false
open Classical
def pI(a b c:Int):Pt:=T3.mk (a:Rat) (b:Rat) (c:Rat)
noncomputable def bkS(a b:Pt):Sd:=(blP a b,blF a b,[])
def lgS(s:Sd):Prop:=∀f,f<s.2.1.length→(s.2.1.getD f zA).2.1.length≤10000∧∀l,l<(s.2.1.getD f zA).2.1.length→((s.2.1.getD f zA).2.1.getD l []).length≤10000
def zZ7(s:Sd):Prop:=(nmA s∧lgS s)∧zK6 s s.2.1∧zY6 s
structure SaneF:Prop where
  h:eX (pI 0 0 0) (pI 2 2 2)→blH (pI 0 0 0) (pI 2 2 2)
  ok:zZ7 (bkS (pI 0 0 0) (pI 2 2 2))
  vol:zA2 (bkS (pI 0 0 0) (pI 2 2 2))/((6:Int):Rat)=((8:Int):Rat)
  cen:cnS (bkS (pI 0 0 0) (pI 2 2 2))=pI 1 1 1∧cnO (bkS (pI 0 0 0) (pI 2 2 2))
  area:arS (bkS (pI 0 0 0) (pI 2 2 2)) 0 (bkS (pI 0 0 0) (pI 2 2 2)).2.1.length=(((24:Int):Rat),((24:Int):Rat))
theorem zVF:qE ((2:Int):Rat) 1=((1:Int):Rat):=by
  have h1:flN ((2:Int):Rat) (kN 1)=8:=by decide
  have h2:sqN 8=2:=zFI (by decide) (by decide)
  have h3:kN 1=1:=by decide
  unfold qE
  rw[h1,h2,h3]
  unfold ovQ
  decide +kernel
theorem zKO:zDU ((2:Int):Rat) 1∧jV ((2:Int):Rat) 1=((1:Int):Rat)∧gA ((2:Int):Rat) 1=wN 3 2:=by
  have h0:¬((2:Int):Rat)<0:=by decide +kernel
  have ho:¬((yX ((2:Int):Rat)<0∨(1:Int)<0)∨64<(1:Int)):=fun e=>by
    rcases e with(e|e)|e
    · exact h0 (uR.1 e)
    · omega
    · omega
  obtain⟨y1,y2,y3,y4⟩:=hH ho
  refine⟨y4,y1.trans zVF,?_⟩
  rw[y2]
  unfold oC
  rw[if_neg h0,zVF,if_pos (by decide +kernel)]
  have h3:kN 1=1:=by decide
  have h4:wN 3 2=3/2:=rfl
  rw[h3,h4]
  unfold ovQ
  decide +kernel
theorem zVL:zDU (wN 9 4) 1∧jV (wN 9 4) 1=gA (wN 9 4) 1:=by
  have h4:wN 9 4=9/4:=rfl
  have h0:¬wN 9 4<0:=by rw[h4];decide +kernel
  have ho:¬((yX (wN 9 4)<0∨(1:Int)<0)∨64<(1:Int)):=fun e=>by
    rcases e with(e|e)|e
    · exact h0 (uR.1 e)
    · omega
    · omega
  obtain⟨y1,y2,y3,y4⟩:=hH ho
  refine⟨y4,?_⟩
  rw[y1,y2]
  have h1:flN (9/4:Rat) (kN 1)=9:=by decide +kernel
  have h2:sqN 9=3:=zFI (by decide) (by decide)
  have h3:kN 1=1:=by decide
  refine zFL h0 ?_
  unfold qE
  rw[h4,h1,h2,h3]
  unfold ovQ
  decide +kernel
theorem zUG{r:Rat}(h0:0≤r){n:Int}(h1:0≤n)(h2:n≤64):(zDU r n∧0≤jV r n)∧jV r n*jV r n≤r∧r≤gA r n*gA r n∧(gA r n-jV r n=0∨gA r n-jV r n=ovQ 1 (kN n)):=by
  have hr:¬r<0:=Rat.not_lt.2 h0
  have ho:¬((yX r<0∨n<0)∨64<n):=fun e=>by
    rcases e with(e|e)|e
    · exact hr (uR.1 e)
    · omega
    · omega
  obtain⟨y1,y2,y3,y4⟩:=hH ho
  have hq:=zB4 hr n
  have hg:r<(qE r n+ovQ 1 (kN n))*(qE r n+ovQ 1 (kN n)):=by
    unfold qE
    rw[s2,y8 h0]
    exact zPD _
  have hn:0≤qE r n:=by
    unfold qE
    rw[←zBH (kN n),zVH];exact Nat.zero_le _
  rw[y1,y2]
  by_cases he:qE r n*qE r n=r
  · rw[←zFL hr he]
    exact⟨⟨y4,hn⟩,hq,by grind,.inl (by grind)⟩
  · rw[←zPU hr he]
    exact⟨⟨y4,hn⟩,hq,by grind,.inr (by grind)⟩
theorem zHZ(xs ys:List Nat):0≤uN False xs ys:=by
  unfold uN
  rw[aP id]
  refine Rat.not_lt.1 fun e=>?_
  have h1:=Rat.num_nonneg (q:=mkRat (val xs:Int) (dV ys))
  have h2:0≤(mkRat (val xs:Int) (dV ys)).num:=by
    rw[Rat.num_mkRat]
    split
    · exact Int.le_refl _
    · exact Int.ediv_nonneg (Int.natCast_nonneg _) (Int.natCast_nonneg _)
  exact Rat.not_lt.2 (h1.1 h2) e
theorem zNC:yX 0=0:=if_pos rfl
theorem zS9{n:Nat}(h:n≤64):wN 1 ((1*2^n:Nat):Int)=ovQ 1 (kN (n:Int)):=by
  rw[zX6 (by omega),Nat.one_mul]
  unfold ovQ
  rfl
end Bk
namespace Go.Proofs.YtboaboflnckgoaaGreat
open Bk Go Tryz
set_option linter.unusedVariables false
set_option linter.unusedSimpArgs false
set_option maxRecDepth 10000
set_option maxHeartbeats 1000000
attribute [local irreducible] GL GC GQ W OpV
theorem bK{w0:World}{h0:Mem}(hs:MLe h0 (mem w0))(hsf:SaneF):
    Calls Tryz.prog 8 #[] w0 (Ret w0 h0 (fun _ r=>r=.bool true)):=by
 refine cb0 90 func8 hs ?_
 refine go7 ?_
 refine cL (vs:=[vI (2)]) ⟨rfl,trivial⟩ call39 (fun w hs=>jT hs dC dC) fun v12 h1 hh1 r12=>(cL (vs:=[_,vI (1)]) e2z call13 (fun w hs=>pF hs r12 dC dC dC) fun v13 h2 hh2 r13=>?_)
 obtain⟨v13_0,rfl,r13_0⟩:=r13
 change (rpP (rpQ (2+140)) (rpQ (2+140))).Is h2 v13_0 (jV (((2:Int):Int):Rat) (1:Int),gA (((2:Int):Int):Rat) (1:Int)) at r13_0
 replace r13_0:=Rp.Is.le r13_0 (Le.p (Le.q (l:=142) oM) (Le.q (l:=142) oM))
 refine go3 ?_
 refine nA (ρ:=(rpP (rpQ 1) (rpQ 1))) (X:=((0:Rat),(0:Rat))) jE (yJ (yE dC) (yE dC)) fun b1 cs1 rb1=>?_
 have rw_1:=(Le.p (Le.q (l:=142) dC) (Le.q (l:=142) dC)).R rb1
 refine zO (A:=[]) (uB sizeOf34 pH rw_1 r13_0) fun cs_2 rb_3=>?_
 refine go5 ?_
 refine cL (vs:=[vI (9),vI (4)]) e2z call10 (fun w hs=>pE hs dC dC dC dC) fun v17 h3 hh3 r17=>(cL (vs:=[_,vI (1)]) e2z call13 (fun w hs=>pF hs r17 dC dC dC) fun v18 h4 hh4 r18=>?_)
 obtain⟨v18_0,rfl,r18_0⟩:=r18
 change (rpP (rpQ (2+140)) (rpQ (2+140))).Is h4 v18_0 (jV (wN (9:Int) (4:Int)) (1:Int),gA (wN (9:Int) (4:Int)) (1:Int)) at r18_0
 replace r18_0:=Rp.Is.le r18_0 (Le.p (Le.q (l:=142) oM) (Le.q (l:=142) oM))
 refine go3 ?_
 refine nA (ρ:=(rpP (rpQ 1) (rpQ 1))) (X:=((0:Rat),(0:Rat))) jE (yJ (yE dC) (yE dC)) fun b3 cs3 rb3=>?_
 have rw_4:=(Le.p (Le.q (l:=142) dC) (Le.q (l:=142) dC)).R rb3
 refine zO (A:=[]) (uB sizeOf34 pH rw_4 r18_0) fun cs_5 rb_6=>?_
 refine go5 ?_
 refine cL (vs:=[vI (0),vI (0),vI (0)]) e3z call45 (fun w hs=>iZ hs dC dC dC dC dC dC) fun v22 h5 hh5 r22=>(cL (vs:=[vI (2),vI (2),vI (2)]) e3z call45 (fun w hs=>iZ hs dC dC dC dC dC dC) fun v23 h6 hh6 r23=>?_)
 refine jM (vs:=[_,_]) rfl rfl rfl rfl call35 e2z (fun w hs=>zN4 hs r22.up r23 dC dC (by first|omega|exact hsf.h)) ?_
 intro v24 h7 L24 hh7 r24
 obtain⟨u24,vf24,cs_7,rfl,r24,rfl,ho_8,rl_9⟩:=r24
 change RL (tFc (10000*2+10000*2+20000) (10000*2+10000*2+20000)) h7 cs_7 (blF (T3.mk (((0:Int):Int):Rat) (((0:Int):Int):Rat) (((0:Int):Int):Rat)) (T3.mk (((2:Int):Int):Rat) (((2:Int):Int):Rat) (((2:Int):Int):Rat))) at rl_9
 replace r24:=Rp.Is.le r24 (Le.p (Le.s (Le.t (Le.q (l:=48) oM))) (Le.refl _))
 replace rl_9:=(Le.p (Le.p (Le.t (Le.q (l:=60000) oM)) (Le.q (l:=60000) oM)) (Le.refl _)).rl rl_9
 refine go3 ?_
 refine nA (ρ:=(rpP (tLs 1) (rpP rpV (rpS (rpP rpI (rpP rpI (rpQ 1))))))) (X:=([],((Value.slice none 0 0),[]))) sD (yJ qQ (yJ cY qQ)) fun b5 cs5 rb5=>?_
 have rw_10:=(Le.p (Le.s (Le.t (Le.q (l:=48) dC))) (Le.p (Le.refl _) (Le.s (Le.p (Le.refl _) (Le.p (Le.refl _) (Le.q (l:=6) dC)))))).R rb5
 refine zO (A:=[]) (uB sizeOf50 pH rw_10 r24) fun cs_11 rb_12=>?_
 refine go5 ?_
 refine yH (A:=[_]) (ρ:=(tFc 60000 60000)) rl_9 ?_
 intro h8 hh8 rs_13
 replace rb_12:=rb_12.mono hh8
 have rb_14:(tSd 48 60000 60000 6).R h8 cs_11 (blP (T3.mk (((0:Int):Int):Rat) (((0:Int):Int):Rat) (((0:Int):Int):Rat)) (T3.mk (((2:Int):Int):Rat) (((2:Int):Int):Rat) (((2:Int):Int):Rat)),(blF (T3.mk (((0:Int):Int):Rat) (((0:Int):Int):Rat) (((0:Int):Int):Rat)) (T3.mk (((2:Int):Int):Rat) (((2:Int):Int):Rat) (((2:Int):Int):Rat)),[])):=zMY rb_12 rs_13
 have rb_15:(tSd 48 60000 60000 6).R h8 cs_11 (bkS (pI 0 0 0) (pI 2 2 2)):=Rp.castR rb_14 (by rfl)
 refine lX (xB gH pH rb_15) fun v28 r28=>(cL (ev1 rfl) call25 (fun w hs=>zKF hs r28 dC (by first|omega|exact hsf.ok.1.1|exact hsf.ok.1.2|exact hsf.ok.2.1) (by first|omega|exact hsf.ok.1.1|exact hsf.ok.1.2|exact hsf.ok.2.1) (by first|omega|exact hsf.ok.1.1|exact hsf.ok.1.2|exact hsf.ok.2.1)) fun v29 h9 hh9 r29=>?_)
 obtain⟨v29_0,rfl,r29_0⟩:=r29
 change (tPt (50000*48+300000)).Is h9 v29_0 (cnS (bkS (pI 0 0 0) (pI 2 2 2))) at r29_0
 replace r29_0:=Rp.Is.le r29_0 (Le.t (Le.q (l:=2700000) oM))
 refine go3 ?_
 refine nA (ρ:=(tPt 1)) (X:=zT) xC (wG (yE dC)) fun b7 cs7 rb7=>?_
 have rw_16:=(Le.t (Le.q (l:=2700000) dC)).R rb7
 refine zO (A:=[]) (uB sizeOf53 pH rw_16 r29_0) fun cs_17 rb_18=>?_
 refine go5 ?_
 refine lX (xB gH pH rb_15) fun v33 r33=>(cL (vs:=[_,vI (0)]) e2z call40 (fun w hs=>zF4 hs r33 dC dC dC (by first|omega|exact hsf.ok.1.1|exact hsf.ok.1.2|exact hsf.ok.2.1|exact hsf.ok.2.2) (by first|omega|exact hsf.ok.1.1|exact hsf.ok.1.2|exact hsf.ok.2.1|exact hsf.ok.2.2) (by first|omega|exact hsf.ok.1.1|exact hsf.ok.1.2|exact hsf.ok.2.1|exact hsf.ok.2.2) (by first|omega|exact hsf.ok.1.1|exact hsf.ok.1.2|exact hsf.ok.2.1|exact hsf.ok.2.2) (by first|omega|exact hsf.ok.1.1|exact hsf.ok.1.2|exact hsf.ok.2.1|exact hsf.ok.2.2) (by first|omega|exact hsf.ok.1.1|exact hsf.ok.1.2|exact hsf.ok.2.1|exact hsf.ok.2.2)) fun v34 h10 hh10 r34=>?_)
 obtain⟨v34_0,rfl,r34_0⟩:=r34
 change (rpP (rpQ 400000) (rpQ 400000)).Is h10 v34_0 (arS (bkS (pI 0 0 0) (pI 2 2 2)) (0:Int) (bkS (pI 0 0 0) (pI 2 2 2)).2.1.length) at r34_0
 refine go3 ?_
 refine nA (ρ:=(rpP (rpQ 1) (rpQ 1))) (X:=((0:Rat),(0:Rat))) jE (yJ (yE dC) (yE dC)) fun b9 cs9 rb9=>?_
 have rw_19:=(Le.p (Le.q (l:=400000) dC) (Le.q (l:=400000) dC)).R rb9
 refine zO (A:=[]) (uB sizeOf34 pH rw_19 r34_0) fun cs_20 rb_21=>?_
 refine go4 ?_
 refine gD 54 (qq 0 4 ((4,.c)::(5,.c)::(qq 6 4 ((10,.c)::(11,.c)::(qq 12 9 ((21,.c)::(qq 22 3 ((25,.c)::(26,.c)::(27,.c)::(qq 28 6 ((34,.c)::(35,.c)::(qq 36 7 ((43,.c)::(44,.c)::(qq 45 6 [(51,.c),(52,.q),(53,.q)]))))))))))))) (uA [0,1,2,6,2,26,34,96,128,384,128,1664,2176,6144,8192,24576,40960,65536,196608,65536,589824,1376256,2162688,6291456,8388608,25165824,41943040,109051904,142606336,402653184,536870912,1610612736,2684354560,4294967296,4294967296,30064771072,38654705664,103079215104,137438953472,412316860416,687194767360,1099511627776,3298534883328,1099511627776,14293651161088,18691697672192,52776558133248,70368744177664,211106232532992,70368744177664,633318697598976,1477743627730944,2322168557862912,9007199254740991] (frz 18014398509481983 [0,1,2,6,2,26,34,64,128,384,128,1664,2176,4096,8192,24576,32768,65536,196608,65536,589824,1376256,2162688,4194304,8388608,25165824,8388608,109051904,142606336,268435456,536870912,1610612736,2147483648,4294967296,4294967296,30064771072,38654705664,68719476736,137438953472,412316860416,549755813888,1099511627776,3298534883328,1099511627776,14293651161088,18691697672192,35184372088832,70368744177664,211106232532992,70368744177664,633318697598976,1477743627730944,2322168557862912,4503599627370496]) (by kernel_rfl)) ?_
 refine wF rfl (fun _ _=>OpV.tr (by exact zKO.1) (yU rfl)) rfl ?_
 refine go2 ?_
 refine oX rfl (xB zV (Pc.fst pH) rb_3) fun v40 r40=>?_
 refine w_c rfl (fN rfl rfl (sC (vs:=[vI (1)]) ⟨rfl,trivial⟩ call39 (fun w hs=>jT hs dC dC) fun v41 h11 hh11 r41=>?_))
 refine w_c rfl (fN rfl rfl (sC (ev2 rfl rfl) call15 (fun w hs=>vS hs r40.up r41 dC) fun v42 h12 hh12 r42=>?_))
 obtain rfl:v42=.bool true:=by rw[show v42=vB ((jV (((2:Int):Int):Rat) (1:Int))=(((1:Int):Int):Rat)) from r42,xL (by exact zKO.2.1)]
 refine go3 ?_
 refine oX rfl (xB zV (Pc.snd pH) rb_3) fun v46 r46=>?_
 refine w_c rfl (fN rfl rfl (sC (vs:=[vI (3),vI (2)]) e2z call10 (fun w hs=>pE hs dC dC dC dC) fun v47 h13 hh13 r47=>?_))
 refine w_c rfl (fN rfl rfl (sC (ev2 rfl rfl) call15 (fun w hs=>vS hs r46.up r47 dC) fun v48 h14 hh14 r48=>?_))
 obtain rfl:v48=.bool true:=by rw[show v48=vB ((gA (((2:Int):Int):Rat) (1:Int))=(wN (3:Int) (2:Int))) from r48,xL (by exact zKO.2.2)]
 refine go2 ?_
 refine yP rfl rfl rfl (fun h' L' hh hR=>OpV.tr (by exact zVL.1) (yU rfl)) rfl ?_
 refine go3 ?_
 refine oX rfl (xB zV (Pc.fst pH) rb_6) fun v55 r55=>?_
 refine go1 ?_
 refine oX rfl (xB zV (Pc.snd pH) rb_6) fun v57 r57=>?_
 refine w_c rfl (fN rfl rfl (sC (ev2 rfl rfl) call15 (fun w hs=>vS hs r55 r57 dC) fun v58 h15 hh15 r58=>?_))
 obtain rfl:v58=.bool true:=by rw[show v58=vB ((jV (wN (9:Int) (4:Int)) (1:Int))=(gA (wN (9:Int) (4:Int)) (1:Int))) from r58,xL (by exact zVL.2)]
 refine go2 ?_
 refine oX rfl (xB gH pH rb_15) fun v61 r61=>?_
 refine w_c rfl (fN rfl rfl (sC (ev1 rfl) call26 (fun w hs=>zKD hs r61 dC (by first|omega|exact hsf.ok.1.1|exact hsf.ok.1.2|exact hsf.ok.2.1) (by first|omega|exact hsf.ok.1.1|exact hsf.ok.1.2|exact hsf.ok.2.1) (by first|omega|exact hsf.ok.1.1|exact hsf.ok.1.2|exact hsf.ok.2.1)) fun v62 h16 hh16 r62=>?_))
 replace r62:=Rp.Is.le r62 (Le.q (l:=1060004) oM)
 refine w_c rfl (fN rfl rfl (sC (vs:=[vI (8)]) ⟨rfl,trivial⟩ call39 (fun w hs=>jT hs dC dC) fun v63 h17 hh17 r63=>?_))
 refine w_c rfl (fN rfl rfl (sC (ev2 rfl rfl) call15 (fun w hs=>vS hs r62.up r63 dC) fun v64 h18 hh18 r64=>?_))
 obtain rfl:v64=.bool true:=by rw[show v64=vB ((zA2 (bkS (pI 0 0 0) (pI 2 2 2))/((6:Int):Rat))=(((8:Int):Int):Rat)) from r64,xL (by exact hsf.vol)]
 refine go2 ?_
 refine yP rfl rfl rfl (fun h' L' hh hR=>OpV.tr (by exact hsf.cen.2) (yU rfl)) rfl ?_
 refine go2 ?_
 refine oX rfl (xB zW pH rb_18) fun v70 r70=>?_
 refine w_c rfl (fN rfl rfl (sC (vs:=[vI (1),vI (1),vI (1)]) e3z call45 (fun w hs=>iZ hs dC dC dC dC dC dC) fun v71 h19 hh19 r71=>?_))
 refine w_c rfl (fN rfl rfl (sC (ev2 rfl rfl) call27 (fun w hs=>s5 hs r70.up r71 dC) fun v72 h20 hh20 r72=>?_))
 obtain rfl:v72=.bool true:=by rw[show v72=vB ((cnS (bkS (pI 0 0 0) (pI 2 2 2)))=(T3.mk (((1:Int):Int):Rat) (((1:Int):Int):Rat) (((1:Int):Int):Rat))) from r72,xL (by exact hsf.cen.1)]
 refine go2 ?_
 refine yP rfl rfl rfl (fun h' L' hh hR=>OpV.tr (by trivial) (yU rfl)) rfl ?_
 refine go3 ?_
 refine oX rfl (xB zV (Pc.fst pH) rb_21) fun v79 r79=>?_
 refine w_c rfl (fN rfl rfl (sC (vs:=[vI (24)]) ⟨rfl,trivial⟩ call39 (fun w hs=>jT hs dC dC) fun v80 h21 hh21 r80=>?_))
 refine w_c rfl (fN rfl rfl (sC (ev2 rfl rfl) call15 (fun w hs=>vS hs r79.up r80 dC) fun v81 h22 hh22 r81=>?_))
 obtain rfl:v81=.bool true:=by rw[show v81=vB (((arS (bkS (pI 0 0 0) (pI 2 2 2)) (0:Int) (bkS (pI 0 0 0) (pI 2 2 2)).2.1.length).1)=(((24:Int):Int):Rat)) from r81,xL (by exact congrArg Prod.fst hsf.area)]
 refine go3 ?_
 refine oX rfl (xB zV (Pc.snd pH) rb_21) fun v85 r85=>?_
 refine go1 ?_
 refine oX rfl (xB zV (Pc.fst pH) rb_21) fun v87 r87=>?_
 refine w_c rfl (fN rfl rfl (sC (ev2 rfl rfl) call15 (fun w hs=>vS hs r85 r87 dC) fun v88 h23 hh23 r88=>?_))
 obtain rfl:v88=.bool true:=by rw[show v88=vB (((arS (bkS (pI 0 0 0) (pI 2 2 2)) (0:Int) (bkS (pI 0 0 0) (pI 2 2 2)).2.1.length).2)=((arS (bkS (pI 0 0 0) (pI 2 2 2)) (0:Int) (bkS (pI 0 0 0) (pI 2 2 2)).2.1.length).1)) from r88,xL (by rw[hsf.area])]
 refine go5 ?_
 refine zD rfl rfl ?_
 rfl
theorem zER{w0:World}{h0:Mem}(hs:MLe h0 (mem w0)){vn vd:Value}{xs ys:List Nat}(hn:Us .u32 h0 vn xs)(hd:Us .u32 h0 vd ys)(hl:xs.length≤100000000000)(hl':ys.length≤100000000000):
    Calls Tryz.prog 11 #[.bool false,vn,vd] w0 (Ret w0 h0 (fun h r=>wD h r (uN False xs ys))):=by
  have h1:=zH8 (s:=False) hs hn hd hl hl'
  rw[yS id] at h1
  exact h1
set_option maxHeartbeats 400000 in
theorem eU{w0:World}{h0:Mem}(hs:MLe h0 (mem w0)){vu:Value}{xu:List Nat}(hu:Us .u32 h0 vu xu){vd:Value}{xd:List Nat}(hd:Us .u32 h0 vd xd){kk:Nat}(hk:kk<256)(hsf:SaneF):
    Calls Tryz.prog 4 #[vu,vd,vU .u8 kk] w0 (Ret w0 h0 (fun _ r=>r=.bool true)):=by
 have hlxu:=xY hu.lt
 have hlyd:=zLA xd hd.lt
 refine cb3 83 vu vd (vU .u8 kk) func4 hs ?_
 refine uO ?_
 refine gU 5 20 (vB (((3:Int)<(↑(xu).length:Int))∨((2:Int)<(↑(xd).length:Int)))) ?_ ?_
 ·
  refine zY ((3:Int)<(↑(xu).length:Int)) (fun hg=>?_) (fun hg=>?_)
  ·
   refine gT hg rfl ?_
   refine go5 ?_
   refine gqU ?_
   exact congrArg some (wZ hg)
  refine gF hg rfl ?_
  refine go8 ?_
  refine gqU ?_
  exact congrArg some (vC hg)
 refine go2 ?_
 refine cnd (fun hc20=>?_) fun hc20=>?_
 ·
  refine go2 ?_
  refine cL (vs:=[]) trivial call8 (fun w hs=>bK hs hsf) fun v21 h1 hh1 hr21=>?_
  subst hr21
  refine go5 ?_
  refine zD rfl rfl ?_
  rfl
 refine go6 ?_
 refine cL (vs:=[.bool false,_,_]) e3z call11 (fun w hs=>zER hs hu hd oM (by first|omega|exact Nat.zero_le _)) fun v24 h1 hh1 hr24=>?_
 have hlq24:=q5 (False) (xu) (xd)
 obtain⟨vn24,vd24,rfl,hn24,hd24⟩:=hr24
 refine nA (ρ:=(rpQ 8)) (X:=(0:Rat)) yF (yE dC) fun b7 cs7 rb7=>(zO (A:=[]) (uB sizeOf26 pH rb7 (cK ⟨_,_,rfl,hn24,hd24⟩ oM)) fun cs_22 rb_23=>?_)
 refine go5 ?_
 refine gv (sR (k:=.u8) (q:=33) rfl rfl oM) rfl (gv (nM (k:=.u8) underlying5 underlying3 rfl oM) rfl ?_)
 refine go5 ?_
 refine lX (xB zV pH rb_23) fun v29 r29=>?_
 refine go1 ?_
 refine cL (ev2 rfl rfl) call13 (fun w hs=>pF hs r29 oM oM dC) fun v31 h2 hh2 r31=>?_
 obtain⟨v31_0,rfl,r31_0⟩:=r31
 change (rpP (rpQ (8+140)) (rpQ (8+140))).Is h2 v31_0 (jV (uN (False) (xu) (xd)) (↑(kk%(33:Nat)):Int),gA (uN (False) (xu) (xd)) (↑(kk%(33:Nat)):Int)) at r31_0
 replace r31_0:=Rp.Is.le r31_0 (Le.p (Le.q (l:=148) oM) (Le.q (l:=148) oM))
 have hho:=zUG (r:=(uN (False) xu xd)) (zHZ _ _) (n:=(↑(kk%33):Int)) oM oM
 refine go3 ?_
 refine nA (ρ:=(rpP (rpQ 200) (rpQ 200))) (X:=((0:Rat),(0:Rat))) jE (yJ (yE dC) (yE dC)) fun b9 cs9 rb9=>(zO (A:=[]) (uB sizeOf34 pH rb9 (r31_0.le (Le.p (Le.q (l:=200) dC) (Le.q (l:=200) dC)))) fun cs_24 rb_25=>?_)
 refine go6 ?_
 refine lX (xB zV (Pc.snd pH) rb_25) fun v35 r35=>?_
 refine go1 ?_
 refine lX (xB zV (Pc.fst pH) rb_25) fun v37 r37=>(cL (ev2 rfl rfl) call16 (fun w hs=>rO hs r35 r37 dC) fun v38 h3 hh3 r38=>?_)
 replace r38:=Rp.Is.le r38 (Le.q (l:=401) oM)
 refine nA (ρ:=(rpQ 700)) (X:=(0:Rat)) yF (yE dC) fun b11 cs11 rb11=>(zO (A:=[]) (uB sizeOf26 pH rb11 (r38.le (Le.q (l:=700) dC))) fun cs_26 rb_27=>?_)
 refine go5 ?_
 refine gv (nN (k':=.u64) (W:=18446744073709551616) underlying3 underlying39 rfl rfl rfl oM) rfl (gv (zQJ (yk:=.u64) (p:=1) (s:=(kk%33)) rfl rfl oM (by rw[Nat.one_mul];exact Nat.lt_of_le_of_lt (Nat.pow_le_pow_right oM (show kk%33≤32 by omega)) dC)) rfl ?_)
 have h2p:(1*2^(kk%33):Nat)<9223372036854775808:=by rw[Nat.one_mul];exact Nat.lt_of_le_of_lt (Nat.pow_le_pow_right oM (show kk%33≤32 by omega)) dC
 refine cL (vs:=[vI (1),_]) e2z call10 (fun w hs=>pE hs dC dC oM oM) fun v42 h4 hh4 r42=>(nA (ρ:=(rpQ 5)) (X:=(0:Rat)) yF (yE dC) fun b12 cs12 rb12=>(zO (A:=[]) (uB sizeOf26 pH rb12 (r42.le (Le.q (l:=5) dC))) fun cs_28 rb_29=>?_))
 refine go3 ?_
 refine zIK (yX (gA (uN (False) xu xd) (↑(kk%33):Int)-jV (uN (False) xu xd) (↑(kk%33):Int))=0) (fun hg=>?_) (fun hg=>?_)
 ·
  refine gD 41 (qq 0 4 ((4,.c)::(qq 5 7 ((13,.q)::(12,.c)::(14,.c)::(qq 15 7 ((23,.q)::(22,.c)::(24,.c)::(qq 25 4 ((29,.c)::(qq 30 4 ((34,.c)::(qq 35 3 [(38,.c),(39,.q),(40,.q)]))))))))))) (uA [0,1,2,6,10,18,34,80,128,384,128,1152,2688,128,12416,16512,32896,81920,131072,393216,131072,1179648,2752512,131072,12713984,16908288,33685504,83886080,134217728,402653184,671088640,1744830464,2147483648,2147483648,15032385536,19461570560,34493956096,85899345920,137438953472,412316860416,1099511627775] (frz 2199023255551 [0,1,2,6,10,18,34,64,128,384,128,1152,2688,128,12416,16512,32896,65536,131072,393216,131072,1179648,2752512,131072,12713984,16908288,33685504,67108864,134217728,402653184,671088640,1207959552,2147483648,2147483648,15032385536,19461570560,34493956096,68719476736,137438953472,412316860416,549755813888]) (by kernel_rfl)) ?_
  refine wF rfl (fun _ _=>OpV.tr (by exact hho.1.1) (yU rfl)) rfl ?_
  refine go2 ?_
  refine oX rfl (xB zV (Pc.fst pH) rb_25) fun v46 r46=>?_
  refine w_c rfl (fN rfl rfl (sC (ev1 rfl) call17 (fun w hs=>vJ hs r46 dC) fun v47 h5 hh5 r47=>?_))
  obtain rfl:v47=vI (yX (jV (uN (False) (xu) (xd)) (↑(kk%(33:Nat)):Int))):=r47
  have hsr47:=xM (jV (uN (False) (xu) (xd)) (↑(kk%(33:Nat)):Int))
  refine yP rfl rfl rfl (fun h' L' hh hR=>OpV.tr (by exact Int.not_lt.1 (fun e=>absurd (uR.1 e) (Rat.not_lt.2 hho.1.2))) (fT (q:=0) rfl rfl)) rfl ?_
  refine go3 ?_
  refine oX rfl (xB zV (Pc.fst pH) rb_25) fun v52 r52=>?_
  refine go1 ?_
  refine oX rfl (xB zV (Pc.fst pH) rb_25) fun v54 r54=>(oX rfl (xB zV pH rb_23) fun v56 r56=>?_)
  refine w_c rfl (fN rfl rfl (sC (ev2 rfl rfl) call9 (fun w hs=>vM hs r52 r54 dC) fun v55 h6 hh6 r55=>?_))
  replace r55:=Rp.Is.le r55 (Le.q (l:=400) oM)
  refine w_c rfl (fN rfl rfl ?_)
  replace r56:=r56.mono hh6
  refine sC (ev2 rfl rfl) call18 (fun w hs=>uX hs r55 r56 dC) fun v57 h7 hh7 r57=>?_
  obtain rfl:v57=vI (wB ((jV (uN (False) (xu) (xd)) (↑(kk%(33:Nat)):Int))*(jV (uN (False) (xu) (xd)) (↑(kk%(33:Nat)):Int))) (uN (False) (xu) (xd))):=r57
  have hcr57:=uF ((jV (uN (False) (xu) (xd)) (↑(kk%(33:Nat)):Int))*(jV (uN (False) (xu) (xd)) (↑(kk%(33:Nat)):Int))) (uN (False) (xu) (xd))
  refine yP rfl rfl rfl (fun h' L' hh hR=>OpV.tr (by exact rS.2 hho.2.1) (oI (q:=0) rfl rfl)) rfl ?_
  refine go3 ?_
  refine oX rfl (xB zV (Pc.snd pH) rb_25) fun v62 r62=>?_
  refine go1 ?_
  refine oX rfl (xB zV (Pc.snd pH) rb_25) fun v64 r64=>(oX rfl (xB zV pH rb_23) fun v66 r66=>?_)
  refine w_c rfl (fN rfl rfl (sC (ev2 rfl rfl) call9 (fun w hs=>vM hs r62 r64 dC) fun v65 h8 hh8 r65=>?_))
  replace r65:=Rp.Is.le r65 (Le.q (l:=400) oM)
  refine w_c rfl (fN rfl rfl ?_)
  replace r66:=r66.mono hh8
  refine sC (ev2 rfl rfl) call18 (fun w hs=>uX hs r65 r66 dC) fun v67 h9 hh9 r67=>?_
  obtain rfl:v67=vI (wB ((gA (uN (False) (xu) (xd)) (↑(kk%(33:Nat)):Int))*(gA (uN (False) (xu) (xd)) (↑(kk%(33:Nat)):Int))) (uN (False) (xu) (xd))):=r67
  have hcr67:=uF ((gA (uN (False) (xu) (xd)) (↑(kk%(33:Nat)):Int))*(gA (uN (False) (xu) (xd)) (↑(kk%(33:Nat)):Int))) (uN (False) (xu) (xd))
  refine yP rfl rfl rfl (fun h' L' hh hR=>OpV.tr (by exact mI.2 hho.2.2.1) (fT (q:=0) rfl rfl)) rfl ?_
  refine go2 ?_
  refine oX rfl (xB zV pH rb_27) fun v71 r71=>?_
  refine w_c rfl (fN rfl rfl (sC (ev1 rfl) call17 (fun w hs=>vJ hs r71 dC) fun v72 h10 hh10 r72=>?_))
  obtain rfl:v72=vI (yX ((gA (uN (False) (xu) (xd)) (↑(kk%(33:Nat)):Int))-(jV (uN (False) (xu) (xd)) (↑(kk%(33:Nat)):Int)))):=r72
  have hsr72:=xM ((gA (uN (False) (xu) (xd)) (↑(kk%(33:Nat)):Int))-(jV (uN (False) (xu) (xd)) (↑(kk%(33:Nat)):Int)))
  refine yP rfl rfl rfl (fun h' L' hh hR=>OpV.tr (by exact hg) (bG (q:=0) rfl rfl)) rfl (yP rfl rfl rfl (fun h' L' hh hR=>yU rfl) rfl ?_)
  refine go2 ?_
  refine w_c rfl (iD rfl rfl rfl rfl ?_)
  refine go3 ?_
  refine w_c rfl (fN rfl rfl (sC (vs:=[]) trivial call8 (fun w hs=>bK hs hsf) fun v81 h11 hh11 hr81=>?_))
  subst hr81
  refine go5 ?_
  refine zD rfl rfl ?_
  rfl
 refine gD 41 (qq 0 4 ((4,.c)::(qq 5 7 ((13,.q)::(12,.c)::(14,.c)::(qq 15 7 ((23,.q)::(22,.c)::(24,.c)::(qq 25 4 ((29,.c)::(qq 30 4 ((34,.c)::(qq 35 3 [(38,.c),(39,.q),(40,.q)]))))))))))) (uA [0,1,2,6,10,18,34,80,128,384,128,1152,2688,128,12416,16512,32896,81920,131072,393216,131072,1179648,2752512,131072,12713984,16908288,33685504,83886080,134217728,402653184,671088640,1744830464,2147483648,2147483648,15032385536,19461570560,34493956096,85899345920,137438953472,412316860416,1099511627775] (frz 2199023255551 [0,1,2,6,10,18,34,64,128,384,128,1152,2688,128,12416,16512,32896,65536,131072,393216,131072,1179648,2752512,131072,12713984,16908288,33685504,67108864,134217728,402653184,671088640,1207959552,2147483648,2147483648,15032385536,19461570560,34493956096,68719476736,137438953472,412316860416,549755813888]) (by kernel_rfl)) ?_
 refine wF rfl (fun _ _=>OpV.tr (by exact hho.1.1) (yU rfl)) rfl ?_
 refine go2 ?_
 refine oX rfl (xB zV (Pc.fst pH) rb_25) fun v46 r46=>?_
 refine w_c rfl (fN rfl rfl (sC (ev1 rfl) call17 (fun w hs=>vJ hs r46 dC) fun v47 h5 hh5 r47=>?_))
 obtain rfl:v47=vI (yX (jV (uN (False) (xu) (xd)) (↑(kk%(33:Nat)):Int))):=r47
 have hsr47:=xM (jV (uN (False) (xu) (xd)) (↑(kk%(33:Nat)):Int))
 refine yP rfl rfl rfl (fun h' L' hh hR=>OpV.tr (by exact Int.not_lt.1 (fun e=>absurd (uR.1 e) (Rat.not_lt.2 hho.1.2))) (fT (q:=0) rfl rfl)) rfl ?_
 refine go3 ?_
 refine oX rfl (xB zV (Pc.fst pH) rb_25) fun v52 r52=>?_
 refine go1 ?_
 refine oX rfl (xB zV (Pc.fst pH) rb_25) fun v54 r54=>(oX rfl (xB zV pH rb_23) fun v56 r56=>?_)
 refine w_c rfl (fN rfl rfl (sC (ev2 rfl rfl) call9 (fun w hs=>vM hs r52 r54 dC) fun v55 h6 hh6 r55=>?_))
 replace r55:=Rp.Is.le r55 (Le.q (l:=400) oM)
 refine w_c rfl (fN rfl rfl ?_)
 replace r56:=r56.mono hh6
 refine sC (ev2 rfl rfl) call18 (fun w hs=>uX hs r55 r56 dC) fun v57 h7 hh7 r57=>?_
 obtain rfl:v57=vI (wB ((jV (uN (False) (xu) (xd)) (↑(kk%(33:Nat)):Int))*(jV (uN (False) (xu) (xd)) (↑(kk%(33:Nat)):Int))) (uN (False) (xu) (xd))):=r57
 have hcr57:=uF ((jV (uN (False) (xu) (xd)) (↑(kk%(33:Nat)):Int))*(jV (uN (False) (xu) (xd)) (↑(kk%(33:Nat)):Int))) (uN (False) (xu) (xd))
 refine yP rfl rfl rfl (fun h' L' hh hR=>OpV.tr (by exact rS.2 hho.2.1) (oI (q:=0) rfl rfl)) rfl ?_
 refine go3 ?_
 refine oX rfl (xB zV (Pc.snd pH) rb_25) fun v62 r62=>?_
 refine go1 ?_
 refine oX rfl (xB zV (Pc.snd pH) rb_25) fun v64 r64=>(oX rfl (xB zV pH rb_23) fun v66 r66=>?_)
 refine w_c rfl (fN rfl rfl (sC (ev2 rfl rfl) call9 (fun w hs=>vM hs r62 r64 dC) fun v65 h8 hh8 r65=>?_))
 replace r65:=Rp.Is.le r65 (Le.q (l:=400) oM)
 refine w_c rfl (fN rfl rfl ?_)
 replace r66:=r66.mono hh8
 refine sC (ev2 rfl rfl) call18 (fun w hs=>uX hs r65 r66 dC) fun v67 h9 hh9 r67=>?_
 obtain rfl:v67=vI (wB ((gA (uN (False) (xu) (xd)) (↑(kk%(33:Nat)):Int))*(gA (uN (False) (xu) (xd)) (↑(kk%(33:Nat)):Int))) (uN (False) (xu) (xd))):=r67
 have hcr67:=uF ((gA (uN (False) (xu) (xd)) (↑(kk%(33:Nat)):Int))*(gA (uN (False) (xu) (xd)) (↑(kk%(33:Nat)):Int))) (uN (False) (xu) (xd))
 refine yP rfl rfl rfl (fun h' L' hh hR=>OpV.tr (by exact mI.2 hho.2.2.1) (fT (q:=0) rfl rfl)) rfl ?_
 refine go2 ?_
 refine oX rfl (xB zV pH rb_27) fun v71 r71=>?_
 refine w_c rfl (fN rfl rfl (sC (ev1 rfl) call17 (fun w hs=>vJ hs r71 dC) fun v72 h10 hh10 r72=>?_))
 obtain rfl:v72=vI (yX ((gA (uN (False) (xu) (xd)) (↑(kk%(33:Nat)):Int))-(jV (uN (False) (xu) (xd)) (↑(kk%(33:Nat)):Int)))):=r72
 have hsr72:=xM ((gA (uN (False) (xu) (xd)) (↑(kk%(33:Nat)):Int))-(jV (uN (False) (xu) (xd)) (↑(kk%(33:Nat)):Int)))
 refine yP rfl rfl rfl (fun h' L' hh hR=>OpV.fa (by exact hg) (bG (q:=0) rfl rfl)) rfl (yP rfl rfl rfl (fun h' L' hh hR=>yU rfl) rfl (oX rfl (xB zV pH rb_27) fun v75 r75=>(oX rfl (xB zV pH rb_29) fun v76 r76=>?_)))
 refine w_c rfl (fN rfl rfl (sC (ev2 rfl rfl) call15 (fun w hs=>vS hs r75 r76 dC) fun v77 h11 hh11 r77=>?_))
 obtain rfl:v77=.bool true:=by rw[show v77=vB (((gA (uN (False) (xu) (xd)) (↑(kk%(33:Nat)):Int))-(jV (uN (False) (xu) (xd)) (↑(kk%(33:Nat)):Int)))=(wN (1:Int) (↑(1*2^(kk%33):Nat):Int))) from r77,xL (by exact(hho.2.2.2.resolve_left (fun e=>hg (by rw[e];exact zNC))).trans (zS9 oM).symm)]
 refine go3 ?_
 refine w_c rfl (fN rfl rfl (sC (vs:=[]) trivial call8 (fun w hs=>bK hs hsf) fun v81 h12 hh12 hr81=>?_))
 subst hr81
 refine go5 ?_
 refine zD rfl rfl ?_
 rfl
set_option maxHeartbeats 400000 in
theorem zA7{w0:World}{h0:Mem}(hs:MLe h0 (mem w0)){ng:Prop}{vu:Value}{xu:List Nat}(hu:Us .u32 h0 vu xu){vd:Value}{xd:List Nat}(hd:Us .u32 h0 vd xd){nn:Nat}(hnn:nn<65536){k:Int}(hk1:-9223372036854775808≤k)(hk2:k<9223372036854775808)(hsf:SaneF):
    Calls Tryz.prog 3 #[vB ng,vu,vd,vU .u16 nn,vI k] w0 (Ret w0 h0 (fun _ r=>r=.bool true)):=by
 have hlxu:=xY hu.lt
 have hlyd:=zLA xd hd.lt
 have hd0:=zLA [] nX
 have hl3:([uN ng xu xd,uN False xu [],wN (↑nn:Int) (16:Int)*wN (↑nn:Int) (16:Int)]:List Rat).length=3:=rfl
 have hl2:([k,aU k 65]:List Int).length=2:=rfl
 rw[lN] at hd0
 refine kK (n:=92) (e:=[(0,vB ng),(1,vu),(2,vd),(3,vU .u16 nn),(4,vI k)]) (vs:=[vB ng,vu,vd,vU .u16 nn,vI k]) func3 rfl rfl (bL rfl) hs e5 ?_
 refine uO ?_
 refine gU 5 27 (vB (((3:Int)<(↑(xu).length:Int))∨((3:Int)<(↑(xd).length:Int)))) ?_ ?_
 ·
  refine zY ((3:Int)<(↑(xu).length:Int)) (fun hg=>?_) (fun hg=>?_)
  ·
   refine gT hg rfl ?_
   refine go5 ?_
   refine gqU ?_
   exact congrArg some (wZ hg)
  refine gF hg rfl ?_
  refine go8 ?_
  refine gqU ?_
  exact congrArg some (vC hg)
 refine go2 ?_
 refine cnd (fun hc27=>?_) fun hc27=>?_
 ·
  refine go2 ?_
  refine cL (vs:=[]) trivial call8 (fun w hs=>bK hs hsf) fun v28 h1 hh1 hr28=>?_
  subst hr28
  refine go5 ?_
  refine zD rfl rfl ?_
  rfl
 refine go5 ?_
 refine gv (nM (k:=.u16) underlying23 underlying2 rfl oM) rfl (cL (vs:=[_,vI (16)]) e2z call10 (fun w hs=>pE hs oM oM dC dC) fun v31 h1 hh1 r31=>?_)
 refine go1 ?_
 refine gv (nM (k:=.u16) underlying23 underlying2 rfl oM) rfl (cL (vs:=[_,vI (16)]) e2z call10 (fun w hs=>pE hs oM oM dC dC) fun v34 h2 hh2 r34=>(cL (ev2 rfl rfl) call9 (fun w hs=>vM hs r31.up r34 dC) fun v35 h3 hh3 r35=>?_))
 replace r35:=Rp.Is.le r35 (Le.q (l:=4) oM)
 refine nA (ρ:=(rpQ 8)) (X:=(0:Rat)) yF (yE dC) fun b11 cs11 rb11=>(zO (A:=[]) (uB sizeOf26 pH rb11 (r35.le (Le.q (l:=8) dC))) fun cs_30 rb_31=>?_)
 refine go4 ?_
 refine gD 10 (qq 0 3 [(4,.q),(6,.q),(9,.q),(3,.c),(5,.c),(7,.c),(8,.c)]) (by kernel_rfl) ?_
 refine go4 ?_
 refine wX rfl (xB zV pH rb_31) fun v42 r42=>(qD (v:=vI (0)) rfl rfl rfl ?_)
 refine w_c rfl (sC (ev3 rfl rfl rfl) call11 (fun w hs=>zH8 hs hu.up hd.up oM oM) fun v39 h4 hh4 hr39=>?_)
 have hlq39:=q5 (ng) (xu) (xd)
 obtain⟨vn39,vd39,rfl,hn39,hd39⟩:=hr39
 refine w_c rfl (sC (vs:=[.bool false,_,_]) e3z call11 (fun w hs=>zER hs hu.up (Us.nil _ _) (by first|omega|(simp only[lN];omega)) (by first|omega|exact Nat.zero_le _)) fun v41 h5 hh5 hr41=>?_)
 have hlq41:=q5 (False) (xu) ([])
 obtain⟨vn41,vd41,rfl,hn41,hd41⟩:=hr41
 refine w_c rfl ?_
 replace r42:=r42.mono (hh4.trans hh5)
 replace hn39:=hn39.mono hh5
 replace hd39:=hd39.mono hh5
 refine kD (fun X=>zU (ρ:=(rpQ 8)) (m:=3) (xs:=[(uN (ng) (xu) (xd)),(uN (False) (xu) ([])),(wN (↑nn:Int) (16:Int))*(wN (↑nn:Int) (16:Int))]) (ps':=[(0,_),(1,_),(2,_)]) underlying30 yF rfl rfl rfl (yE dC) e6 (zJ rfl (Pc.arr (Pc.here _) (0:Rat) 0 dC) (cK ⟨_,_,rfl,hn39,hd39⟩ oM) (zJ rfl (Pc.arr (Pc.here _) (0:Rat) 1 dC) (cK ⟨_,_,rfl,hn41,hd41⟩ oM) (zJ rfl (Pc.arr (Pc.here _) (0:Rat) 2 dC) r42 zX))) (show 3*3≤16777216 from by decide) nP) rfl ?_
 intro v43 q43 hq43
 obtain⟨cs43,rfl,rl43⟩:=hq43
 refine w_c rfl (vD (A:=[]) (ρ:=(rpQ 8)) rl43 dK ?_)
 intro h6 hh6 rs_32
 refine zLM (fun X=>uS underlying30 rfl rs_32) rfl ?_
 refine go3 ?_
 refine gcL (ι:=Nat×Mem) (fun(i,ma)=>(MLe h6 ma∧(i≤3),[(4,vI k),(43,v43),(44,vI (↑([(uN (ng) (xu) (xd)),(uN (False) (xu) ([])),(wN (↑nn:Int) (16:Int))*(wN (↑nn:Int) (16:Int))]).length:Int)),(45,vI ↑i)],[.var b11 26 cs_30],ma,3-i)) (0,h6) ?_ ?_
 ·
  refine⟨MLe.refl _,?_⟩
  exact oM
 intro x hx
 obtain⟨i,ma⟩:=x
 dsimp only at hx
 obtain⟨hmma,hinv⟩:=hx
 refine yR ?_
 have hi1:=hinv
 refine go6 ?_
 refine cnd (fun hc46=>?_) fun hc46=>?_
 ·
  refine go6 ?_
  refine lX (xI (0:Rat) i underlying30 zV rs_32) fun v47 r47=>(lX (xA zV r47) fun v48 r48=>(nA (ρ:=(rpQ 20)) (X:=(0:Rat)) yF (yE dC) fun b13 cs13 rb13=>(zO (A:=[]) (uB sizeOf26 pH rb13 (r48.le (Le.q (l:=20) dC))) fun cs_33 rb_34=>?_)))
  refine go6 ?_
  refine cL (vs:=[_,vI (65)]) e2z call12 (fun w hs=>zRA hs oM oM) fun v51 h7 hh7 hr51=>?_
  have hmz51:=zKP k (q:=(65:Int)) oM
  subst hr51
  refine zG (zU (ρ:=rpI) (m:=2) (xs:=[k,(aU k (65:Int))]) (ps':=[(0,_),(1,_)]) underlying32 gB rfl rfl rfl wK e4z (zJ rfl (Pc.arr (Pc.here _) (0:Int) 0 dC) (jB oM oM) (zJ rfl (Pc.arr (Pc.here _) (0:Int) 1 dC) (jB oM oM) zX)) (show 2*1≤16777216 from by decide) nP) rfl rfl rfl ?_
  intro v52 q52 hq52
  obtain⟨cs52,rfl,rl52⟩:=hq52
  refine yH (A:=[]) (ρ:=rpI) rl52 ?_
  intro h8 hh8 rs_35
  refine go5 ?_
  refine gcL (ι:=Nat×Mem) (fun(q,mb)=>(MLe h8 mb∧(q≤2),[(4,vI k),(13,vP b13 0),(43,v43),(44,vI (↑([(uN (ng) (xu) (xd)),(uN (False) (xu) ([])),(wN (↑nn:Int) (16:Int))*(wN (↑nn:Int) (16:Int))]).length:Int)),(45,vI ↑i),(52,v52),(53,vI (↑([k,(aU k (65:Int))]).length:Int)),(54,vI ↑q)],[.var b13 26 cs_33,.var b11 26 cs_30],mb,2-q)) (0,h8) ?_ ?_
  ·
   refine⟨MLe.refl _,?_⟩
   exact oM
  intro x hx
  obtain⟨q,mb⟩:=x
  dsimp only at hx
  obtain⟨hmmb,hinv⟩:=hx
  refine yR ?_
  have hq1:=hinv
  refine go6 ?_
  refine cnd (fun hc55=>?_) fun hc55=>?_
  ·
   refine go6 ?_
   refine lX (xI (0:Int) q underlying32 ty3 rs_35) fun v56 r56=>(lX (xA ty3 r56) fun v57 r57=>?_)
   obtain⟨rfl,hl57,hu57⟩:=jZ r57
   refine go5 ?_
   refine lX (xB zV pH rb_34) fun v59 r59=>?_
   refine go1 ?_
   refine cL (ev2 rfl rfl) call13 (fun w hs=>pF hs r59 oM oM dC) fun v61 h9 hh9 r61=>?_
   obtain⟨v61_0,rfl,r61_0⟩:=r61
   change (rpP (rpQ (20+140)) (rpQ (20+140))).Is h9 v61_0 (jV ([(uN (ng) (xu) (xd)),(uN (False) (xu) ([])),(wN (↑nn:Int) (16:Int))*(wN (↑nn:Int) (16:Int))].getD i (0:Rat)) ([k,(aU k (65:Int))].getD q (0:Int)),gA ([(uN (ng) (xu) (xd)),(uN (False) (xu) ([])),(wN (↑nn:Int) (16:Int))*(wN (↑nn:Int) (16:Int))].getD i (0:Rat)) ([k,(aU k (65:Int))].getD q (0:Int))) at r61_0
   replace r61_0:=Rp.Is.le r61_0 (Le.p (Le.q (l:=160) oM) (Le.q (l:=160) oM))
   refine go3 ?_
   refine nA (ρ:=(rpP (rpQ 400) (rpQ 400))) (X:=((0:Rat),(0:Rat))) jE (yJ (yE dC) (yE dC)) fun b16 cs16 rb16=>(zO (A:=[]) (uB sizeOf34 pH rb16 (r61_0.le (Le.p (Le.q (l:=400) dC) (Le.q (l:=400) dC)))) fun cs_36 rb_37=>?_)
   refine go5 ?_
   refine lX (xB zV pH rb_34) fun v65 r65=>?_
   refine go1 ?_
   refine cL (ev2 rfl rfl) call14 (fun w hs=>zKA hs r65 oM oM dC) fun v67 h10 hh10 r67=>?_
   obtain⟨v67_0,rfl,r67_0⟩:=r67
   change (rpP (rpQ (20+300)) (rpQ (20+300))).Is h10 v67_0 (jV ([(uN (ng) (xu) (xd)),(uN (False) (xu) ([])),(wN (↑nn:Int) (16:Int))*(wN (↑nn:Int) (16:Int))].getD i (0:Rat)) ([k,(aU k (65:Int))].getD q (0:Int)),gA ([(uN (ng) (xu) (xd)),(uN (False) (xu) ([])),(wN (↑nn:Int) (16:Int))*(wN (↑nn:Int) (16:Int))].getD i (0:Rat)) ([k,(aU k (65:Int))].getD q (0:Int))) at r67_0
   replace r67_0:=Rp.Is.le r67_0 (Le.p (Le.q (l:=320) oM) (Le.q (l:=320) oM))
   refine go3 ?_
   refine nA (ρ:=(rpP (rpQ 400) (rpQ 400))) (X:=((0:Rat),(0:Rat))) jE (yJ (yE dC) (yE dC)) fun b18 cs18 rb18=>(zO (A:=[]) (uB sizeOf34 pH rb18 (r67_0.le (Le.p (Le.q (l:=400) dC) (Le.q (l:=400) dC)))) fun cs_38 rb_39=>?_)
   refine go7 ?_
   refine gv (OpV.fa (by exact fun e=>e Iff.rfl) (fE underlying4 rfl rfl)) rfl ?_
   refine go4 ?_
   refine lX (xB zV (Pc.fst pH) rb_37) fun v75 r75=>?_
   refine go3 ?_
   refine lX (xB zV (Pc.fst pH) rb_39) fun v77 r77=>?_
   refine go1 ?_
   refine cL (ev2 rfl rfl) call15 (fun w hs=>vS hs r75 r77 dC) fun v78 h11 hh11 r78=>?_
   obtain rfl:v78=.bool true:=by rw[show v78=vB ((jV ([(uN (ng) (xu) (xd)),(uN (False) (xu) ([])),(wN (↑nn:Int) (16:Int))*(wN (↑nn:Int) (16:Int))].getD i (0:Rat)) ([k,(aU k (65:Int))].getD q (0:Int)))=(jV ([(uN (ng) (xu) (xd)),(uN (False) (xu) ([])),(wN (↑nn:Int) (16:Int))*(wN (↑nn:Int) (16:Int))].getD i (0:Rat)) ([k,(aU k (65:Int))].getD q (0:Int)))) from r78,xL (by rfl)]
   refine go1 ?_
   refine gv (zHJ rfl) rfl ?_
   refine go5 ?_
   refine lX (xB zV (Pc.snd pH) rb_37) fun v83 r83=>?_
   refine go3 ?_
   refine lX (xB zV (Pc.snd pH) rb_39) fun v85 r85=>?_
   refine go1 ?_
   refine cL (ev2 rfl rfl) call15 (fun w hs=>vS hs r83 r85 dC) fun v86 h12 hh12 r86=>?_
   obtain rfl:v86=.bool true:=by rw[show v86=vB ((gA ([(uN (ng) (xu) (xd)),(uN (False) (xu) ([])),(wN (↑nn:Int) (16:Int))*(wN (↑nn:Int) (16:Int))].getD i (0:Rat)) ([k,(aU k (65:Int))].getD q (0:Int)))=(gA ([(uN (ng) (xu) (xd)),(uN (False) (xu) ([])),(wN (↑nn:Int) (16:Int))*(wN (↑nn:Int) (16:Int))].getD i (0:Rat)) ([k,(aU k (65:Int))].getD q (0:Int)))) from r86,xL (by rfl)]
   refine go1 ?_
   refine gv (zHJ rfl) rfl ?_
   refine uO ?_
   refine uP (A:=[]) (uP (A:=[]) ?_)
   refine gqL ((q+1),h12) ?_ ?_
   ·
    refine⟨((((hmmb.trans hh9).trans hh10).trans hh11).trans hh12),?_⟩
    exact oM
   omega
  refine vX ?_
  refine uP (A:=[]) ?_
  refine gqL ((i+1),mb) ?_ ?_
  ·
   refine⟨(((hmma.trans hh7).trans hh8).trans hmmb),?_⟩
   exact oM
  omega
 refine go7 ?_
 refine cL (vs:=[]) trivial call8 (fun w hs=>bK hs hsf) fun v91 h7 hh7 hr91=>?_
 subst hr91
 refine go4 ?_
 refine zD rfl rfl ?_
 rfl
end Go.Proofs.YtboaboflnckgoaaGreat
namespace Bk
set_option linter.unusedVariables false
set_option linter.unusedSimpArgs false
open Classical
def ag(x p y q:Rat)(u:PI):P2:=(x+p*(u.1:Rat),y+q*(u.2:Rat))
theorem zI2{x p:Rat}{u v:Int}(hp:0<p):x+p*(u:Rat)<x+p*(v:Rat)↔u<v:=by
  constructor
  · intro h
    refine Int.not_le.1 fun e=>?_
    have h1:(v:Rat)≤(u:Rat):=Rat.intCast_le_intCast.2 e
    have h2:=Rat.mul_le_mul_of_nonneg_left h1 (Rat.le_of_lt hp)
    grind
  · intro h
    have h1:(u:Rat)<(v:Rat):=Rat.intCast_lt_intCast.2 h
    have h2:=Rat.mul_lt_mul_of_pos_left h1 hp
    grind
theorem zLG{x p:Rat}{u v:Int}(hp:0<p):x+p*(u:Rat)=x+p*(v:Rat)↔u=v:=by
  constructor
  · intro h
    rcases Int.lt_trichotomy u v with h1|h1|h1
    · have:=(zI2 (x:=x) hp).2 h1;grind
    · exact h1
    · have:=(zI2 (x:=x) hp).2 h1;grind
  · rintro rfl;rfl
variable {x p y q:Rat}
theorem yAV(u v w:PI):cr (ag x p y q u) (ag x p y q v) (ag x p y q w)=p*q*((crI u v w:Int):Rat):=by
  unfold cr ag crI
  simp only[Rat.intCast_sub,Rat.intCast_mul]
  grind
theorem oP(hp:0<p)(hq:0<q):0<p*q:=by
  have:=Rat.mul_lt_mul_of_pos_left hq hp
  grind
theorem yAU(hp:0<p)(hq:0<q)(u v w:PI):orZ (ag x p y q u) (ag x p y q v) (ag x p y q w)=orI u v w:=by
  unfold orZ orI
  rw[yAV,zPK (oP hp hq),zPL]
  rfl
theorem zV4(hp:0<p)(hq:0<q)(u v:PI):lx (ag x p y q u) (ag x p y q v)↔lxI u v=true:=by
  unfold lx lxI
  rw[decide_eq_true_iff]
  unfold ag
  simp only[zI2 hp,zI2 hq,zLG hp]
theorem zV5(hp:0<p)(hq:0<q)(u v:PI):ag x p y q u=ag x p y q v↔u=v:=by
  obtain⟨u1,u2⟩:=u;obtain⟨v1,v2⟩:=v
  unfold ag
  rw[Prod.mk.injEq,Prod.mk.injEq,zLG hp,zLG hq]
theorem zV6{a b c d:Int}(hp:0<p):jF (x+p*(a:Rat)) (x+p*(b:Rat)) (x+p*(c:Rat)) (x+p*(d:Rat))↔apI a b c d=true:=by
  unfold jF apI
  rw[decide_eq_true_iff]
  simp only[zI2 hp]
theorem zST{c:Prop} [Decidable c](u v:PI):(if c then ag x p y q u else ag x p y q v)=ag x p y q (if c then u else v):=by split<;>rfl
theorem yAW(hp:0<p)(hq:0<q)(a b c d:PI):mM (ag x p y q a) (ag x p y q b) (ag x p y q c) (ag x p y q d)=alS a b c d:=by
  unfold mM alS
  simp only[zV4 hp hq,zST,zV5 hp hq]
theorem zSS(hp:0<p)(hq:0<q)(a b c d:PI):gN (ag x p y q a) (ag x p y q b) (ag x p y q c) (ag x p y q d)=toI a b c d:=by
  have e1:jF (ag x p y q a).1 (ag x p y q b).1 (ag x p y q c).1 (ag x p y q d).1↔apI a.1 b.1 c.1 d.1=true:=zV6 hp
  have e2:jF (ag x p y q a).2 (ag x p y q b).2 (ag x p y q c).2 (ag x p y q d).2↔apI a.2 b.2 c.2 d.2=true:=zV6 hq
  unfold gN toI bW alI lo2 hi2
  simp only[yAU hp hq,e1,e2,zV4 hp hq,zST,yAW hp hq]
def gI(s:List PI)(m:Nat):PI:=s.getD m (0,0)
def zZR(s:List PI):Bool:=decide (3≤s.length)&&(List.range s.length).all fun b=>(List.range b).all fun a=>!decide (gI s a=gI s b)&&decide (toI (gI s a) (gI s ((a+1)%s.length)) (gI s b) (gI s ((b+1)%s.length))=waI s.length a b)
theorem zG9(hp:0<p)(hq:0<q){l:List Pt}{s:List PI}(hl:l.length=s.length)(h:∀m,m<s.length→pr (gp l m) 0 1=ag x p y q (gI s m))(hb:zZR s=true):aO l 0 1:=by
  unfold zZR at hb
  rw[Bool.and_eq_true,decide_eq_true_iff,List.all_eq_true] at hb
  obtain⟨h3,hb⟩:=hb
  have g:∀a b,a<b→b<s.length→¬gI s a=gI s b∧toI (gI s a) (gI s ((a+1)%s.length)) (gI s b) (gI s ((b+1)%s.length))=waI s.length a b:=fun a b hab hbs=>by
    have h1:=List.all_eq_true.1 (hb b (List.mem_range.2 hbs)) a (List.mem_range.2 hab)
    rw[Bool.and_eq_true,Bool.not_eq_true',decide_eq_false_iff_not,decide_eq_true_iff] at h1
    exact h1
  refine⟨by omega,fun a b ha hab hbl=>?_,fun a b ha hab hbl=>?_⟩
  · show ¬pr (gp l a) 0 1=pr (gp l b) 0 1
    rw[h a (by omega),h b (by omega),zV5 hp hq]
    exact(g a b hab (by omega)).1
  · show gN (gM l 0 1 a) (gL l 0 1 a) (gM l 0 1 b) (gL l 0 1 b)=zD0 l.length a b
    unfold gM gL
    rw[hl,h a (by omega),h b (by omega),h _ (Nat.mod_lt _ (by omega)),h _ (Nat.mod_lt _ (by omega)),zSS hp hq]
    exact(g a b hab (by omega)).2
theorem zH2{P:List Pt}(hs:aO P 0 1)(hl:P.length≤64)(ha:0<yX (arZ P 0 1)):vT [P] 0 1=0:=by
  have g0:∀m,m<[P].length→gl [P] m=P:=fun m hm=>by
    rw[show m=0 by rw[List.length_singleton] at hm;omega];rfl
  unfold vT
  rw[if_neg (fun e=>by
    rcases e with e|⟨m,hm,e⟩
    · rw[List.length_singleton] at e;omega
    · rw[g0 m hm] at e;omega),if_neg (fun e=>by
    obtain⟨m,hm,e⟩:=e
    rw[g0 m hm] at e;exact e hs),if_neg (fun e=>by
    obtain⟨a,b,hab,hb,_⟩:=e
    rw[List.length_singleton] at hb;omega),if_neg (fun e=>by
    rcases e with⟨k,hk,e⟩|⟨a,b,ha',hb',e⟩
    · rw[mQ,g0 k hk] at e;exact e.1 ha
    · rw[List.length_singleton] at ha' hb'
      exact e.1.1.1 (by omega))]
end Bk
namespace Bk
set_option linter.unusedVariables false
set_option linter.unusedSimpArgs false
open Classical
theorem zMJ{B:List Pt}{p:Pt}:∀j,(∀i,i<j→¬zJC (B.getD i zT) p)→j4 B p j= -1
  |0,_=>rfl
  |j+1,h=>by
   rw[←zYO (h j (by omega))]
   exact zMJ j fun i hi=>h i (by omega)
theorem zY9{B:List Pt}{p:Pt}(h:∀i,i<B.length→¬zJC (B.getD i zT) p):adB B p=B++[p]∧adN B p=(B.length:Int):=by
  have h1:fdZ B p<0:=by unfold fdZ;rw[zMJ _ h];decide
  exact⟨if_pos h1,if_pos h1⟩
def rgI:Nat→List Int:=jW fun i=>(i:Int)
theorem zM4{l:List Pt}{i k:Nat}(h:i<k):(l.take k).getD i zT=l.getD i zT:=by
  rw[List.getD_eq_getElem?_getD,List.getD_eq_getElem?_getD,List.getElem?_take,if_pos h]
def zIP(l:List Pt):Prop:=∀i j,i<j→j<l.length→¬zJC (l.getD i zT) (l.getD j zT)
theorem zJT{l:List Pt}(hd:zIP l):∀k,k≤l.length→plB [] l k=l.take k∧plN [] l k=rgI k
  |0,_=>⟨rfl,rfl⟩
  |k+1,hk=>by
   obtain⟨h1,h2⟩:=zJT hd k (by omega)
   have hl:(l.take k).length=k:=by rw[List.length_take];omega
   have hn:∀i,i<(l.take k).length→¬zJC ((l.take k).getD i zT) (l.getD k zT):=fun i hi=>by
     rw[hl] at hi
     rw[zM4 hi]
     exact hd i k hi (by omega)
   obtain⟨h3,h4⟩:=zY9 hn
   refine⟨?_,?_⟩
   · show adB (plB [] l k) (l.getD k zT)=_
     rw[h1,h3]
     rw[List.getD_eq_getElem?_getD,List.getElem?_eq_getElem (show k<l.length by omega),List.take_succ_eq_append_getElem (show k<l.length by omega)];rfl
   · show plN [] l k++[adN (plB [] l k) (l.getD k zT)]=rgI k++[(k:Int)]
     rw[h2,h1,h4,hl]
theorem zGL{l:List Pt}(hd:zIP l):bsZ [l]=l:=by
  have h:=(zJT hd l.length (Nat.le_refl _)).1
  rw[List.take_length] at h
  exact h
theorem zYZ{l:List Pt}(hd:zIP l):bxZ [l]=[rgI l.length]:=congrArg (fun z=>[z]) (zJT hd l.length (Nat.le_refl _)).2
theorem zQR{P:List Pt}(ha:0<yX (arZ P 0 1)):ouZ [P]=1:=if_pos ha
theorem zT3{l:List Pt}{lo hi:Rat}(hd:zIP l)(hs:aO l 0 1)(hl:l.length≤64)(ha:0<yX (arZ l 0 1))(hlh:lo<hi):prE [l] lo hi=0:=by
  unfold prE
  rw[if_neg (fun e=>e (zH2 hs hl ha)),if_neg (fun e=>e (zQR ha)),if_neg (fun e=>by unfold wB at e;grind),if_neg]
  unfold prB
  rw[zGL hd]
  have h1:j7 [l] [l].length=0+l.length:=rfl
  rw[h1]
  omega
section
variable {a b:Pt}
def bB(a b:Pt):List Pt:=[T3.mk a.x a.y (0:Rat),T3.mk b.x a.y (0:Rat),T3.mk b.x b.y (0:Rat),T3.mk a.x b.y (0:Rat)]
theorem zMW(h:eX a b):a.x<b.x∧a.y<b.y∧a.z<b.z:=by
  have g:∀{u v:Rat},¬0≤wB u v→u<v:=fun{u v} h=>Rat.not_le.1 fun e=>h (by unfold wB;grind)
  exact⟨g (h 0 (by decide)),g (h 1 (by decide)),g (h 2 (by decide))⟩
theorem g2(hx:a.x<b.x)(hy:a.y<b.y):zIP (bB a b):=by
  intro i j hij hj
  have hj4:j<4:=hj
  have:(i=0∧(j=1∨j=2∨j=3))∨(i=1∧(j=2∨j=3))∨(i=2∧j=3):=by omega
  rcases this with⟨rfl,rfl|rfl|rfl⟩|⟨rfl,rfl|rfl⟩|⟨rfl,rfl⟩<;>(intro e;have e1:=e.1;have e2:=e.2;simp only[bB,List.getD_cons_zero,List.getD_cons_succ] at e1 e2;grind)
def uI:List PI:=[(0,0),(1,0),(1,1),(0,1)]
theorem yAT:∀m,m<uI.length→pr (gp (bB a b) m) 0 1=ag a.x (b.x-a.x) a.y (b.y-a.y) (gI uI m):=by
  intro m hm
  have h4:m<4:=hm
  have e0:((0:Int):Rat)=0:=rfl
  have e1:((1:Int):Rat)=1:=rfl
  have:m=0∨m=1∨m=2∨m=3:=by omega
  rcases this with rfl|rfl|rfl|rfl<;>(unfold ag;refine Prod.ext ?_ ?_<;>simp[pr,gp,bB,gI,uI,T3.at,e0,e1]<;>grind)
theorem zY5(hx:a.x<b.x)(hy:a.y<b.y):aO (bB a b) 0 1:=zG9 (x:=a.x) (p:=b.x-a.x) (y:=a.y) (q:=b.y-a.y) (s:=uI) (by grind) (by grind) rfl yAT (by decide +kernel)
theorem zVA:arZ (bB a b) 0 1=2*((b.x-a.x)*(b.y-a.y)):=by
  unfold arZ
  simp[uZ,gp,bB,T3.at]
  grind
theorem zSK(hx:a.x<b.x)(hy:a.y<b.y):0<yX (arZ (bB a b) 0 1):=by
  rw[zVA,dY]
  have:=oP (p:=b.x-a.x) (q:=b.y-a.y) (by grind) (by grind)
  grind
theorem zY3(h:eX a b):blE a b=0:=by
  obtain⟨hx,hy,hz⟩:=zMW h
  rw[(zU8 h).1]
  exact zT3 (g2 hx hy) (zY5 hx hy) (show 4≤64 by decide) (zSK hx hy) hz
def cB(a b:Pt)(x y z:Bool):Pt:=T3.mk (if x then b.x else a.x) (if y then b.y else a.y) (if z then b.z else a.z)
def pB0(a b:Pt):List Pt:=[cB a b false false false,cB a b true false false,cB a b true true false,cB a b false true false,cB a b false false true,cB a b true false true,cB a b true true true,cB a b false true true]
theorem zCB(hx:a.x<b.x)(hy:a.y<b.y):ppZ (blL a b) a.z b.z=pB0 a b:=by
  have h:bsZ (blL a b)=bB a b:=zGL (g2 hx hy)
  unfold ppZ zQE
  rw[h]
  show jW _ 8=_
  have hl:(bB a b).length=4:=rfl
  have gt:∀i:Nat,4≤i→(if((4:Nat):Int)≤(i:Int) then b.z else a.z)=b.z:=fun i hi=>if_pos (by omega)
  have gf:∀i:Nat,i<4→(if((4:Nat):Int)≤(i:Int) then b.z else a.z)=a.z:=fun i hi=>if_neg (by omega)
  simp only[jW,List.nil_append,List.cons_append,hl]
  rw[gf 0 (by decide),gf 1 (by decide),gf 2 (by decide),gf 3 (by decide),gt 4 (by decide),gt 5 (by decide),gt 6 (by decide),gt 7 (by decide)]
  rfl
theorem zI0(hx:a.x<b.x)(hy:a.y<b.y):bxZ (blL a b)=[[0,1,2,3]]:=zYZ (g2 hx hy)
def sF(A B:Pt)(i j:Int)(nm:List Nat):Fc:=((T3.mk (B.y-A.y) (-(B.x-A.x)) (0:Rat),jL (T3.mk (B.y-A.y) (-(B.x-A.x)) (0:Rat)) A),[[i,j,j+4,i+4]],nm)
def bF0(a b:Pt):Fc:=((T3.mk (0:Rat) (0:Rat) (-((1:Int):Rat)),-a.z),[[3,2,1,0]],[98,111,116,116,111,109])
def tF0(a b:Pt):Fc:=((T3.mk (0:Rat) (0:Rat) ((1:Int):Rat),b.z),[[4,5,6,7]],[116,111,112])
noncomputable def fB0(a b:Pt):List Fc:=[sF (cB a b false false false) (cB a b true false false) 0 1 (nmS 0 0),sF (cB a b true false false) (cB a b true true false) 1 2 (nmS 0 1),sF (cB a b true true false) (cB a b false true false) 2 3 (nmS 0 2),sF (cB a b false true false) (cB a b false false false) 3 0 (nmS 0 3),bF0 a b,tF0 a b]
theorem z8(hx:a.x<b.x)(hy:a.y<b.y){k:Nat}(hk:k<4):sdF (blL a b) a.z b.z 0 k=sF ((pB0 a b).getD k zT) ((pB0 a b).getD ((k+1)%4) zT) (k:Int) (((k+1)%4:Nat):Int) (nmS 0 k):=by
  have hb:=zI0 hx hy
  have hl:((bsZ (blL a b)).length:Int)=4:=by rw[show bsZ (blL a b)=bB a b from zGL (g2 hx hy)];rfl
  have ea:sdA (blL a b) 0 k=(k:Int):=by
    unfold sdA;rw[hb]
    have:k=0∨k=1∨k=2∨k=3:=by omega
    rcases this with rfl|rfl|rfl|rfl<;>rfl
  have eb:sdB (blL a b) 0 k=(((k+1)%4:Nat):Int):=by
    unfold sdB;rw[hb]
    have:k=0∨k=1∨k=2∨k=3:=by omega
    rcases this with rfl|rfl|rfl|rfl<;>rfl
  have en:sdN (blL a b) a.z b.z 0 k=T3.mk (((pB0 a b).getD ((k+1)%4) zT).y-((pB0 a b).getD k zT).y) (-(((pB0 a b).getD ((k+1)%4) zT).x-((pB0 a b).getD k zT).x)) (0:Rat):=by
    unfold sdN
    rw[zCB hx hy,ea,eb,Int.toNat_natCast,Int.toNat_natCast]
  unfold sdF
  rw[en,zCB hx hy,ea,eb,hl,Int.toNat_natCast]
  rfl
theorem zHD(hx:a.x<b.x)(hy:a.y<b.y):prR (blL a b) a.z b.z=(pB0 a b,fB0 a b,[]):=by
  have hb:=zI0 hx hy
  have hl:((bsZ (blL a b)).length:Int)=4:=by rw[show bsZ (blL a b)=bB a b from zGL (g2 hx hy)];rfl
  unfold prR
  rw[zCB hx hy]
  refine congrArg (fun z=>(pB0 a b,z,([]:List En))) ?_
  have e1:zND (blL a b) a.z b.z (bxZ (blL a b)).length=[sdF (blL a b) a.z b.z 0 0,sdF (blL a b) a.z b.z 0 1,sdF (blL a b) a.z b.z 0 2,sdF (blL a b) a.z b.z 0 3]:=by
    rw[hb]
    show[]++sfX (blL a b) a.z b.z 0 ((bxZ (blL a b)).getD 0 []).length=_
    rw[hb];rfl
  have e2:btF (blL a b) a.z=bF0 a b:=by
    unfold btF bF0 zY2
    rw[hb];rfl
  have e3:tpF (blL a b) b.z=tF0 a b:=by
    unfold tpF tF0 zWL tpL
    rw[hb,hl];rfl
  rw[e1,e2,e3,z8 hx hy (by decide),z8 hx hy (by decide),z8 hx hy (by decide),z8 hx hy (by decide)]
  rfl
theorem zLI{n:Nat}(h:n<10):qZ (((n:Int):Int):Rat)=[48+n]:=by
  unfold qZ
  rw[Rat.num_intCast,Rat.den_intCast,if_neg (by omega),if_pos pP,Int.natAbs_natCast]
  by_cases h0:n=0
  · subst h0;rfl
  · rw[zS3 h0 h];rfl
theorem zXQ{k:Nat}(h:k<10):nmS 0 k=[115,48,46,48+k]:=by
  unfold nmS
  rw[zLI (n:=0) (by decide),zLI h];rfl
end
end Bk
namespace Bk
set_option linter.unusedVariables false
set_option linter.unusedSimpArgs false
open Classical
def zDD(p:Nat→Bool):Nat→Nat
  |0=>0
  |k+1=>if p k then zDD p k else k+1
theorem zDC{P:Nat→Prop}{p:Nat→Bool}:∀n,(∀k,k<n→(P k↔p k=true))→cR P n=zDD p n
  |0,_=>rfl
  |n+1,h=>by
   have ih:=zDC n fun k hk=>h k (by omega)
   have h1:=h n (by omega)
   unfold cR zDD
   rw[ih]
   by_cases hp:P n
   · rw[if_pos hp,if_pos (h1.1 hp)]
   · rw[if_neg hp,if_neg (fun e=>hp (h1.2 e))]
def usB(E:List E5)(i:Nat):Bool:=E.any fun e=>decide (e.1=(i:Int))
theorem zO4(E:List E5)(i:Nat):zFB E E.length i↔usB E i=true:=by
  unfold usB
  rw[List.any_eq_true]
  constructor
  · rintro⟨q,hq,h⟩
    exact⟨_,bN hq,decide_eq_true h⟩
  · rintro⟨e,he,h⟩
    obtain⟨q,hq,rfl⟩:=List.getElem_of_mem he
    refine⟨q,hq,?_⟩
    rw[List.getD_eq_getElem?_getD,List.getElem?_eq_getElem hq]
    exact of_decide_eq_true h
def orB(E:List E5)(lt:Nat→Nat→Bool):Nat→List Int
  |0=>[]
  |i+1=>if usB E i then eV (orB E lt i) (zDD (fun k=>lt i ((orB E lt i).getD k 0).toNat) (orB E lt i).length) (i:Int) else orB E lt i
theorem zQS{s:Sd}{lt:Nat→Nat→Bool}{n:Nat}(h:∀i k,i<n→k<n→(lsP (gp s.1 i) (gp s.1 k)↔lt i k=true)):∀i,i≤n→bH s i=orB (edZ (vQ s)) lt i
  |0,_=>rfl
  |i+1,hi=>by
   have ih:=zQS h i (by omega)
   unfold bH orB
   have hb:cR (zNQ s (bH s i) i) (bH s i).length=zDD (fun k=>lt i ((orB (edZ (vQ s)) lt i).getD k 0).toNat) (orB (edZ (vQ s)) lt i).length:=by
     rw[←ih]
     refine zDC _ fun k hk=>?_
     have:=oK hk
     exact h i _ (by omega) (by omega)
   rw[hb,ih]
   by_cases hu:zFB (edZ (vQ s)) (edZ (vQ s)).length i
   · rw[if_pos hu,if_pos ((zO4 _ _).1 hu)]
   · rw[if_neg hu,if_neg (fun e=>hu ((zO4 _ _).2 e))]
abbrev B3:=Bool×Bool×Bool
def lt3(u v:B3):Bool:=(!u.1&&v.1)||(u.1==v.1&&((!u.2.1&&v.2.1)||(u.2.1==v.2.1&&(!u.2.2&&v.2.2))))
def cU(a b:Pt)(u:B3):Pt:=cB a b u.1 u.2.1 u.2.2
variable {a b:Pt}
theorem zOA(hx:a.x<b.x)(hy:a.y<b.y)(hz:a.z<b.z)(u v:B3):lsP (cU a b u) (cU a b v)↔lt3 u v=true:=by
  obtain⟨u1,u2,u3⟩:=u;obtain⟨v1,v2,v3⟩:=v
  cases u1<;>cases u2<;>cases u3<;>cases v1<;>cases v2<;>cases v3<;>simp[lsP,cU,cB,lt3]<;>grind
theorem zYX(hx:a.x<b.x)(hy:a.y<b.y)(hz:a.z<b.z){u v:B3}(h:cU a b u=cU a b v):u=v:=by
  obtain⟨u1,u2,u3⟩:=u;obtain⟨v1,v2,v3⟩:=v
  have h1:=congrArg T3.x h;have h2:=congrArg T3.y h;have h3:=congrArg T3.z h
  cases u1<;>cases u2<;>cases u3<;>cases v1<;>cases v2<;>cases v3<;>first|rfl|(exfalso;simp[cU,cB] at h1 h2 h3;grind)
def uB0:List B3:=[(false,false,false),(true,false,false),(true,true,false),(false,true,false),(false,false,true),(true,false,true),(true,true,true),(false,true,true)]
theorem nL:pB0 a b=uB0.map (cU a b):=rfl
theorem iI{l:List B3}{i:Nat}(h:i<l.length):gp (l.map (cU a b)) i=cU a b (l.getD i (false,false,false)):=by
  unfold gp
  rw[List.getD_eq_getElem?_getD,List.getD_eq_getElem?_getD,List.getElem?_map,List.getElem?_eq_getElem h];rfl
theorem zEE(hx:a.x<b.x)(hy:a.y<b.y)(hz:a.z<b.z){l:List B3}{F:List Fc}{E:List En}:fF (l.map (cU a b),F,E)=orB (edZ (vQ (l.map (cU a b),F,E))) (fun i k=>lt3 (l.getD i (false,false,false)) (l.getD k (false,false,false))) l.length:=by
  unfold fF
  rw[show(l.map (cU a b),F,E).1.length=l.length from List.length_map _]
  refine zQS (n:=l.length) (fun i k hi hk=>?_) _ (Nat.le_refl _)
  show lsP (gp (l.map (cU a b)) i) (gp (l.map (cU a b)) k)↔_
  rw[iI hi,iI hk]
  exact zOA hx hy hz _ _
theorem oS:vQ (pB0 a b,fB0 a b,[])=[[[0,1,5,4]],[[1,2,6,5]],[[2,3,7,6]],[[3,0,4,7]],[[3,2,1,0]],[[4,5,6,7]]]:=rfl
theorem zHP(hx:a.x<b.x)(hy:a.y<b.y)(hz:a.z<b.z):fF (pB0 a b,fB0 a b,[])=[0,4,3,7,1,5,2,6]:=by
  rw[nL,zEE hx hy hz,←nL,oS]
  decide +kernel
end Bk
namespace Bk
set_option linter.unusedVariables false
set_option linter.unusedSimpArgs false
open Classical
theorem rZ{α:Type}{p:Nat→Prop}{g:Nat→α}:∀{n},(∀i,i<n→¬p i)→cA p g n=[]
  |0,_=>rfl
  |n+1,h=>by
   rw[←z7 (h n (by omega))]
   exact rZ fun i hi=>h i (by omega)
theorem zAE{α:Type}{g:Nat→List α}:∀{n},(∀i,i<n→g i=[])→pW g n=[]
  |0,_=>rfl
  |n+1,h=>by
   show pW g n++g n=[]
   rw[h n (by omega),zAE fun i hi=>h i (by omega)];rfl
def tmB(E:List E5)(a b:Int):Nat→Int
  |0=>0
  |m+1=>if(E.getD m ((0:Int),(0:Int),(0:Int),(0:Int),(0:Int))).1=a∧(E.getD m ((0:Int),(0:Int),(0:Int),(0:Int),(0:Int))).2.1=b then tmB E a b m+1 else tmB E a b m
theorem zJA(E:List E5)(a b:Int):∀m,dR E a b m=tmB E a b m
  |0=>rfl
  |m+1=>by
   unfold dR tmB
   rw[zJA E a b m]
   by_cases h:zU5 (E.getD m ((0:Int),(0:Int),(0:Int),(0:Int),(0:Int))) a b
   · rw[if_pos h];exact(if_pos h).symm
   · rw[if_neg h];exact(if_neg h).symm
def clB(E:List E5):Bool:=(List.range E.length).all fun i=>!decide (tmB E (E.getD i ((0:Int),(0:Int),(0:Int),(0:Int),(0:Int))).2.1 (E.getD i ((0:Int),(0:Int),(0:Int),(0:Int),(0:Int))).1 E.length<tmB E (E.getD i ((0:Int),(0:Int),(0:Int),(0:Int),(0:Int))).1 (E.getD i ((0:Int),(0:Int),(0:Int),(0:Int),(0:Int))).2.1 E.length)
theorem yAR{F:List (List (List Int))}(hv:vaP F)(h:clB (edZ F)=true):clZ F=[]:=by
  unfold clZ
  rw[if_pos hv]
  unfold zYU
  refine rZ fun i hi=>?_
  have h1:=List.all_eq_true.1 h i (List.mem_range.2 hi)
  rw[Bool.not_eq_true',decide_eq_false_iff_not] at h1
  unfold yAJ tmZ
  rw[zJA,zJA]
  exact h1
theorem zZJ{s:Sd}(hb:¬zOU s)(hf:∀f,f<s.2.1.length→vfP (s.2.1.getD f zA).2.1∧nmP s f):szZ s=[]:=by
  unfold szZ
  rw[if_neg hb]
  exact rZ fun f hf' e=>by
    rcases e with e|e
    · exact e (hf f hf').1
    · exact e (hf f hf').2
theorem zZI{s:Sd}(h:∀i k,k<i→i<s.1.length→¬gp s.1 i=gp s.1 k):zM1 s s.1.length=[]:=rZ fun i hi e=>by
  obtain⟨k,hk,e⟩:=e
  exact h i k hk hi e
theorem zZ2{s:Sd}(hz:∀f,f<s.2.1.length→¬(s.2.1.getD f zA).1.1=zT)(ho:∀f,f<s.2.1.length→∀l,l<(fO s f).length→∀k,k<(gl (fO s f) l).length→sdZ (s.2.1.getD f zA).1 (gp (gl (fO s f) l) k)=0):plZ s=[]:=by
  have h1:zOX s s.2.1.length=[]:=rZ fun f hf e=>hz f hf e
  have h2:zJ4 s s.2.1.length=[]:=zAE fun f hf=>zAE fun l hl=>rZ fun k hk e=>e (ho f hf l hl k hk)
  unfold plZ
  rw[h1,h2];rfl
theorem zZ5{s:Sd}(h:∀f,f<s.2.1.length→vT (rA s f) 0 1=0∧ouZ (rA s f)=1):neZ s=[]:=by
  have h1:zSI s s.2.1.length=[]:=rZ fun f hf e=>e (h f hf).1
  have h2:zXS s s.2.1.length=[]:=rZ fun f hf e=>e (h f hf).2
  unfold neZ
  rw[h1,h2];rfl
theorem zTC{s:Sd}(h1:szZ s=[])(h2:zM1 s s.1.length=[])(h3:plZ s=[])(h4:neZ s=[])(h5:clZ (vQ s)=[]):dU s:=by
  unfold dU zU7
  rw[h1,h2,h3,h4,h5];rfl
theorem yAO{s:Sd}{f:Nat}{i j k l:Int}(hf:f<s.2.1.length)(hn:nmP s f)(hl:(s.2.1.getD f zA).2.1=[[i,j,k,l]]):fO s f=[[gp s.1 i.toNat,gp s.1 j.toNat,gp s.1 k.toNat,gp s.1 l.toNat]]:=by
  rw[zR6 hf hn,hl]
  unfold zIR
  rw[hl];rfl
theorem zRT{s:Sd}{f:Nat}{A B C D:Pt}(h:fO s f=[[A,B,C,D]]):rA s f=[[cE (s.2.1.getD f zA).1 A,cE (s.2.1.getD f zA).1 B,cE (s.2.1.getD f zA).1 C,cE (s.2.1.getD f zA).1 D]]:=by
  unfold rA
  rw[h];rfl
theorem zXD{x p y q:Rat}(hp:0<p)(hq:0<q){l:List Pt}{t:List PI}(ht:t=[(0,0),(1,0),(1,1),(0,1)]∨t=[(1,0),(1,1),(0,1),(0,0)]∨t=[(1,1),(0,1),(0,0),(1,0)]∨t=[(0,1),(0,0),(1,0),(1,1)])
    (hl:l=t.map fun u=>T3.mk (x+p*(u.1:Rat)) (y+q*(u.2:Rat)) (0:Rat)):vT [l] 0 1=0∧ouZ [l]=1:=by
  have h4:t.length=4:=by rcases ht with rfl|rfl|rfl|rfl<;>rfl
  have hlen:l.length=t.length:=by rw[hl,List.length_map]
  have hg:∀m,m<t.length→pr (gp l m) 0 1=ag x p y q (gI t m):=fun m hm=>by
    rw[hl]
    unfold gp gI
    rw[List.getD_eq_getElem?_getD,List.getD_eq_getElem?_getD,List.getElem?_map,List.getElem?_eq_getElem hm]
    rfl
  have hs:aO l 0 1:=zG9 hp hq hlen hg (by rcases ht with rfl|rfl|rfl|rfl<;>decide +kernel)
  have e0:((0:Int):Rat)=0:=rfl
  have e1:((1:Int):Rat)=1:=rfl
  have ha:arZ l 0 1=2*(p*q):=by
    unfold arZ
    rcases ht with rfl|rfl|rfl|rfl<;>(subst hl;simp[uZ,gp,T3.at,e0,e1];grind)
  have hpos:0<yX (arZ l 0 1):=by
    rw[ha,dY]
    have:=oP hp hq
    grind
  exact⟨zH2 hs (by omega) hpos,zQR hpos⟩
end Bk
namespace Bk
set_option linter.unusedVariables false
set_option linter.unusedSimpArgs false
open Classical
abbrev Dir:=Nat×Bool
def dI:Dir→Nat
  |(2,true)=>0|(2,false)=>1|(1,true)=>2|(1,false)=>0|(_,true)=>1|(_,false)=>2
def dJ:Dir→Nat
  |(2,true)=>1|(2,false)=>0|(1,true)=>0|(1,false)=>2|(_,true)=>2|(_,false)=>1
def dN(d:Dir)(c:Rat):Pt:=(zT).set d.1 (if d.2 then c else -c)
def zOT(u:B3):Nat→Bool
  |0=>u.1|1=>u.2.1|_=>u.2.2
def bI(x:Bool):Int:=if x then 1 else 0
def pI2(d:Dir)(u:B3):PI:=(bI (zOT u (dI d)),bI (zOT u (dJ d)))
variable {a b:Pt}
theorem zV2(u:B3)(i:Nat):(cU a b u).at i=if zOT u i then b.at i else a.at i:=by
  obtain⟨u1,u2,u3⟩:=u
  match i with
  |0=>rfl
  |1=>rfl
  |n+2=>rfl
theorem zSB(u:B3)(i:Nat):(cU a b u).at i=a.at i+(b.at i-a.at i)*((bI (zOT u i):Int):Rat):=by
  rw[zV2]
  have e0:((0:Int):Rat)=0:=rfl
  have e1:((1:Int):Rat)=1:=rfl
  unfold bI
  split
  · rw[e1];grind
  · rw[e0];grind
theorem zLE{d:Dir}{c:Rat}(hd:d.1<3)(hc:0<c):axI (dN d c)=dI d∧axJ (dN d c)=dJ d∧¬dN d c=zT:=by
  obtain⟨ax,sd⟩:=d
  have h3:ax=0∨ax=1∨ax=2:=by have:ax<3:=hd;omega
  have hn:¬dN (ax,sd) c=zT:=fun e=>by
    have h1:=congrArg T3.x e;have h2:=congrArg T3.y e;have h3':=congrArg T3.z e
    rcases h3 with rfl|rfl|rfl<;>cases sd<;>simp[dN,T3.set] at h1 h2 h3'<;>grind
  refine⟨?_,?_,hn⟩
  · rcases h3 with rfl|rfl|rfl<;>cases sd<;>simp[dN,T3.set,axI,dI]<;>grind
  · rcases h3 with rfl|rfl|rfl<;>cases sd<;>simp[dN,T3.set,axJ,dJ]<;>grind
def zGR(d:Dir)(us:List B3):Bool:=(us.all fun u=>zOT u d.1==d.2)&&(decide (us.map (pI2 d)=[(0,0),(1,0),(1,1),(0,1)])||decide (us.map (pI2 d)=[(1,0),(1,1),(0,1),(0,0)])||decide (us.map (pI2 d)=[(1,1),(0,1),(0,0),(1,0)])||decide (us.map (pI2 d)=[(0,1),(0,0),(1,0),(1,1)]))
theorem zU0{d:Dir}{c o:Rat}(hd:d.1<3)(hc:0<c)(u:B3):cE (dN d c,o) (cU a b u)=T3.mk (a.at (dI d)+(b.at (dI d)-a.at (dI d))*(((pI2 d u).1:Int):Rat)) (a.at (dJ d)+(b.at (dJ d)-a.at (dJ d))*(((pI2 d u).2:Int):Rat)) (0:Rat):=by
  unfold cE
  rw[(zLE hd hc).1,(zLE hd hc).2.1,zSB,zSB];rfl
theorem zE0{d:Dir}{c o:Rat}(hd:d.1<3)(hc:0<c)(h:∀i,a.at i<b.at i){us:List B3}(ht:zGR d us=true):vT [us.map fun u=>cE (dN d c,o) (cU a b u)] 0 1=0∧ouZ [us.map fun u=>cE (dN d c,o) (cU a b u)]=1:=by
  unfold zGR at ht
  simp only[Bool.and_eq_true,Bool.or_eq_true,decide_eq_true_iff] at ht
  refine zXD (x:=a.at (dI d)) (p:=b.at (dI d)-a.at (dI d)) (y:=a.at (dJ d)) (q:=b.at (dJ d)-a.at (dJ d)) (t:=us.map (pI2 d)) (by have:=h (dI d);grind) (by have:=h (dJ d);grind) ?_ ?_
  · rcases ht.2 with((h1|h1)|h1)|h1
    · exact .inl h1
    · exact .inr (.inl h1)
    · exact .inr (.inr (.inl h1))
    · exact .inr (.inr (.inr h1))
  · rw[List.map_map]
    exact List.map_congr_left fun u _=>zU0 hd hc u
theorem zOI{d:Dir}{c:Rat}(hd:d.1<3){u:B3}(hu:zOT u d.1=d.2):sdZ (dN d c,(if d.2 then c else -c)*(if d.2 then b.at d.1 else a.at d.1)) (cU a b u)=0:=by
  unfold sdZ hgt
  have e:=zV2 (a:=a) (b:=b) u d.1
  rw[hu] at e
  obtain⟨ax,sd⟩:=d
  have h3:ax=0∨ax=1∨ax=2:=by have:ax<3:=hd;omega
  have h0:jL (dN (ax,sd) c) (cU a b u)=(if sd then c else -c)*(cU a b u).at ax:=by
    rcases h3 with rfl|rfl|rfl<;>(simp only[jL,dN,T3.set,T3.at];grind)
  rw[h0,e]
  refine if_pos ?_
  show _*_-_*_=(0:Rat)
  grind
abbrev u0:B3:=(false,false,false)
def mK(a b:Pt)(us:List B3)(d:Dir)(f:Fc):Prop:=
  d.1<3∧∃c,0<c∧f.1=(dN d c,(if d.2 then c else -c)*(if d.2 then b.at d.1 else a.at d.1))∧∃i j k l:Nat,f.2.1=[[(i:Int),(j:Int),(k:Int),(l:Int)]]∧(i<us.length∧j<us.length∧k<us.length∧l<us.length)∧zGR d [us.getD i u0,us.getD j u0,us.getD k u0,us.getD l u0]=true
section
variable {us:List B3}{F:List Fc}
theorem zSG{d:Dir}{f:Nat}(h:mK a b us d (F.getD f zA)):nmP (us.map (cU a b),F,[]) f:=by
  obtain⟨_,c,_,_,i,j,k,l,hl,⟨h1,h2,h3,h4⟩,_⟩:=h
  intro m hm q hq
  show 0≤_∧_<(((us.map (cU a b)).length:Nat):Int)
  rw[List.length_map]
  have hm':m<((F.getD f zA).2.1).length:=hm
  have hq':q<(((F.getD f zA).2.1).getD m []).length:=hq
  show 0≤(((F.getD f zA).2.1).getD m []).getD q 0∧(((F.getD f zA).2.1).getD m []).getD q 0<_
  rw[hl] at hm' hq' ⊢
  have hm0:m=0:=by have:m<1:=hm';omega
  subst hm0
  have hq4:q<4:=hq'
  have:q=0∨q=1∨q=2∨q=3:=by omega
  rcases this with rfl|rfl|rfl|rfl
  · show 0≤(i:Int)∧(i:Int)<_;omega
  · show 0≤(j:Int)∧(j:Int)<_;omega
  · show 0≤(k:Int)∧(k:Int)<_;omega
  · show 0≤(l:Int)∧(l:Int)<_;omega
theorem zBP{d:Dir}{f:Nat}(hf:f<F.length)(h:mK a b us d (F.getD f zA)):∃vs:List B3,zGR d vs=true∧vs.length=4∧fO (us.map (cU a b),F,[]) f=[vs.map (cU a b)]:=by
  have hn:=zSG h
  obtain⟨_,c,_,_,i,j,k,l,hl,⟨h1,h2,h3,h4⟩,ht⟩:=h
  refine⟨[us.getD i u0,us.getD j u0,us.getD k u0,us.getD l u0],ht,rfl,?_⟩
  rw[yAO (s:=(us.map (cU a b),F,[])) hf hn hl]
  show[[gp (us.map (cU a b)) _,gp (us.map (cU a b)) _,gp (us.map (cU a b)) _,gp (us.map (cU a b)) _]]=_
  rw[Int.toNat_natCast,Int.toNat_natCast,Int.toNat_natCast,Int.toNat_natCast,iI h1,iI h2,iI h3,iI h4];rfl
theorem zMV(h:a.x<b.x∧a.y<b.y∧a.z<b.z)(hn:∀i k,k<i→i<us.length→¬us.getD i u0=us.getD k u0)(hu:us.length≤512∧F.length≤256)(hF:∀f,f<F.length→∃d,mK a b us d (F.getD f zA))(hv:∀f,f<F.length→vfP (F.getD f zA).2.1)
    (hva:vaP (vQ (us.map (cU a b),F,[])))(hc:clB (edZ (vQ (us.map (cU a b),F,[])))=true):dU (us.map (cU a b),F,[]):=by
  have hat:∀i,a.at i<b.at i:=fun i=>match i with
    |0=>h.1|1=>h.2.1|_+2=>h.2.2
  have hlm:(us.map (cU a b)).length=us.length:=List.length_map _
  refine zTC (zZJ (fun e=>?_) fun f hf=>?_) (zZI fun i k hki hi e=>?_) (zZ2 (fun f hf=>?_) fun f hf l hl k hk=>?_) (zZ5 fun f hf=>?_) (yAR hva hc)
  · rcases e with(e|e)|e
    · have e':512<(us.map (cU a b)).length:=e
      omega
    · have e':256<F.length:=e
      omega
    · have e':1024<([]:List En).length:=e
      simp at e'
  · obtain⟨d,hd⟩:=hF f hf
    exact⟨hv f hf,zSG hd⟩
  · have hi':i<us.length:=by rw[←hlm];exact hi
    have e':gp (us.map (cU a b)) i=gp (us.map (cU a b)) k:=e
    rw[iI hi',iI (by omega)] at e'
    exact hn i k hki hi' (zYX h.1 h.2.1 h.2.2 e')
  · obtain⟨d,hd3,c,hc0,hp,_⟩:=hF f hf
    show ¬(F.getD f zA).1.1=zT
    rw[hp]
    exact(zLE hd3 hc0).2.2
  · obtain⟨d,hd⟩:=hF f hf
    obtain⟨vs,ht,h4,hcr⟩:=zBP hf hd
    obtain⟨hd3,c,hc0,hp,_⟩:=hd
    rw[hcr] at hl hk ⊢
    have hl0:l=0:=by have:l<1:=hl;omega
    subst hl0
    have hk':k<(vs.map (cU a b)).length:=hk
    rw[List.length_map] at hk'
    show sdZ (F.getD f zA).1 (gp (vs.map (cU a b)) k)=0
    rw[hp,iI hk']
    refine zOI hd3 ?_
    unfold zGR at ht
    simp only[Bool.and_eq_true] at ht
    have h9:=List.all_eq_true.1 ht.1 (vs.getD k u0) (bN hk')
    exact eq_of_beq h9
  · obtain⟨d,hd⟩:=hF f hf
    obtain⟨vs,ht,h4,hcr⟩:=zBP hf hd
    obtain⟨hd3,c,hc0,hp,_⟩:=hd
    have e:rA (us.map (cU a b),F,[]) f=[vs.map fun u=>cE (F.getD f zA).1 (cU a b u)]:=by
      obtain⟨v1,v2,v3,v4,rfl⟩:∃v1 v2 v3 v4,vs=[v1,v2,v3,v4]:=by
        match vs,h4 with
        |[v1,v2,v3,v4],_=>exact⟨_,_,_,_,rfl⟩
      exact zRT hcr
    rw[e,hp]
    exact zE0 hd3 hc0 hat ht
end
end Bk
namespace Bk
set_option linter.unusedVariables false
set_option linter.unusedSimpArgs false
open Classical
instance decLp(x:List Int):Decidable (lpP x):=by unfold lpP;exact inferInstance
instance decVf(L:List (List Int)):Decidable (vfP L):=by unfold vfP;exact inferInstance
instance decVa(F:List (List (List Int))):Decidable (vaP F):=by unfold vaP;exact inferInstance
variable {a b:Pt}
theorem zEC{N M:Pt}{o r:Rat}(h1:N=M)(h2:o=r):(N,o)=(M,r):=by rw[h1,h2]
theorem zML(h:a.x<b.x∧a.y<b.y∧a.z<b.z):mK a b uB0 (1,false) ((fB0 a b).getD 0 zA)∧mK a b uB0 (0,true) ((fB0 a b).getD 1 zA)∧mK a b uB0 (1,true) ((fB0 a b).getD 2 zA)∧mK a b uB0 (0,false) ((fB0 a b).getD 3 zA)∧mK a b uB0 (2,false) ((fB0 a b).getD 4 zA)∧mK a b uB0 (2,true) ((fB0 a b).getD 5 zA):=by
  obtain⟨hx,hy,hz⟩:=h
  refine⟨?_,?_,?_,?_,?_,?_⟩
  · refine⟨by decide,b.x-a.x,by grind,zEC ?_ ?_,0,1,5,4,rfl,by decide,by decide⟩
    · show T3.mk (a.y-a.y) (-(b.x-a.x)) (0:Rat)=T3.mk 0 (-(b.x-a.x)) 0
      rw[iC];refine⟨?_,rfl,rfl⟩;show a.y-a.y=0;grind
    · show jL (T3.mk (a.y-a.y) (-(b.x-a.x)) (0:Rat)) (T3.mk a.x a.y a.z)= -(b.x-a.x)*a.y
      unfold jL;simp only;grind
  · refine⟨by decide,b.y-a.y,by grind,zEC ?_ ?_,1,2,6,5,rfl,by decide,by decide⟩
    · show T3.mk (b.y-a.y) (-(b.x-b.x)) (0:Rat)=T3.mk (b.y-a.y) 0 0
      rw[iC];refine⟨rfl,?_,rfl⟩;show -(b.x-b.x)=0;grind
    · show jL (T3.mk (b.y-a.y) (-(b.x-b.x)) (0:Rat)) (T3.mk b.x a.y a.z)=(b.y-a.y)*b.x
      unfold jL;simp only;grind
  · refine⟨by decide,b.x-a.x,by grind,zEC ?_ ?_,2,3,7,6,rfl,by decide,by decide⟩
    · show T3.mk (b.y-b.y) (-(a.x-b.x)) (0:Rat)=T3.mk 0 (b.x-a.x) 0
      rw[iC];refine⟨?_,?_,rfl⟩
      · show b.y-b.y=0;grind
      · show -(a.x-b.x)=b.x-a.x;grind
    · show jL (T3.mk (b.y-b.y) (-(a.x-b.x)) (0:Rat)) (T3.mk b.x b.y a.z)=(b.x-a.x)*b.y
      unfold jL;simp only;grind
  · refine⟨by decide,b.y-a.y,by grind,zEC ?_ ?_,3,0,4,7,rfl,by decide,by decide⟩
    · show T3.mk (a.y-b.y) (-(a.x-a.x)) (0:Rat)=T3.mk (-(b.y-a.y)) 0 0
      rw[iC];refine⟨?_,?_,rfl⟩
      · show a.y-b.y= -(b.y-a.y);grind
      · show -(a.x-a.x)=0;grind
    · show jL (T3.mk (a.y-b.y) (-(a.x-a.x)) (0:Rat)) (T3.mk a.x b.y a.z)= -(b.y-a.y)*a.x
      unfold jL;simp only;grind
  · refine⟨by decide,1,by decide,zEC rfl ?_,3,2,1,0,rfl,by decide,by decide⟩
    show -a.z= -1*a.z
    grind
  · refine⟨by decide,1,by decide,zEC rfl ?_,4,5,6,7,rfl,by decide,by decide⟩
    show b.z=1*b.z
    grind
theorem zMM(h:a.x<b.x∧a.y<b.y∧a.z<b.z):∀f,f<(fB0 a b).length→∃d,mK a b uB0 d ((fB0 a b).getD f zA):=by
  intro f hf
  have hf6:f<6:=hf
  obtain⟨h0,h1,h2,h3,h4,h5⟩:=zML h
  have:f=0∨f=1∨f=2∨f=3∨f=4∨f=5:=by omega
  rcases this with rfl|rfl|rfl|rfl|rfl|rfl
  · exact⟨_,h0⟩
  · exact⟨_,h1⟩
  · exact⟨_,h2⟩
  · exact⟨_,h3⟩
  · exact⟨_,h4⟩
  · exact⟨_,h5⟩
theorem zD6(h:a.x<b.x∧a.y<b.y∧a.z<b.z):dU (pB0 a b,fB0 a b,[]):=by
  have g:∀i,i<uB0.length→∀k,k<i→¬uB0.getD i u0=uB0.getD k u0:=by decide +kernel
  rw[nL]
  refine zMV h (fun i k hk hi=>g i hi k hk) ⟨by decide,show 6≤256 by decide⟩ (zMM h) (fun f hf=>?_) ?_ ?_
  · have hf6:f<6:=hf
    have:f=0∨f=1∨f=2∨f=3∨f=4∨f=5:=by omega
    rcases this with rfl|rfl|rfl|rfl|rfl|rfl
    · show vfP [[0,1,5,4]];decide +kernel
    · show vfP [[1,2,6,5]];decide +kernel
    · show vfP [[2,3,7,6]];decide +kernel
    · show vfP [[3,0,4,7]];decide +kernel
    · show vfP [[3,2,1,0]];decide +kernel
    · show vfP [[4,5,6,7]];decide +kernel
  · rw[←nL,oS];decide +kernel
  · rw[←nL,oS];decide +kernel
end Bk
namespace Bk
set_option linter.unusedVariables false
set_option linter.unusedSimpArgs false
open Classical
variable {a b:Pt}
def ixB(o:List Int)(n:Nat):Nat→List Int
  |0=>List.replicate n (0:Int)
  |i+1=>(ixB o n i).set (o.getD i 0).toNat (i:Int)
theorem zK1{s:Sd}{o:List Int}(h:fF s=o):∀i,zK2 s i=ixB o s.1.length i
  |0=>rfl
  |i+1=>by unfold zK2 ixB;rw[zK1 h i,h]
theorem zRJ(h:a.x<b.x∧a.y<b.y∧a.z<b.z):ixZ (pB0 a b,fB0 a b,[])=[0,4,6,2,1,5,7,3]:=by
  have ho:=zHP h.1 h.2.1 h.2.2
  unfold ixZ
  rw[zK1 ho,ho]
  show ixB _ 8 8=_
  decide
def uB1:List B3:=[(false,false,false),(false,false,true),(false,true,false),(false,true,true),(true,false,false),(true,false,true),(true,true,false),(true,true,true)]
theorem zQZ(h:a.x<b.x∧a.y<b.y∧a.z<b.z):nrP (pB0 a b,fB0 a b,[])=uB1.map (cU a b):=by
  have ho:=zHP h.1 h.2.1 h.2.2
  unfold nrP
  rw[if_pos (zD6 h)]
  unfold zUB
  rw[ho];rfl
theorem zLV(h:a.x<b.x∧a.y<b.y∧a.z<b.z){us:List B3}{F:List Fc}{f:Nat}(hf:f<F.length){d:Dir}(hd:mK a b us d (F.getD f zA)):zHF (us.map (cU a b),F,[]) f 0:=by
  have hat:∀i,a.at i<b.at i:=fun i=>match i with
    |0=>h.1|1=>h.2.1|_+2=>h.2.2
  obtain⟨vs,ht,h4,hcr⟩:=zBP hf hd
  obtain⟨hd3,c,hc0,hp,_⟩:=hd
  obtain⟨v1,v2,v3,v4,rfl⟩:∃v1 v2 v3 v4,vs=[v1,v2,v3,v4]:=by
    match vs,h4 with
    |[v1,v2,v3,v4],_=>exact⟨_,_,_,_,rfl⟩
  have e:rA (us.map (cU a b),F,[]) f=[[v1,v2,v3,v4].map fun u=>cE (F.getD f zA).1 (cU a b u)]:=zRT hcr
  have ho:=(zE0 (o:=(F.getD f zA).1.2) hd3 hc0 hat ht).2
  unfold zHF
  rw[e]
  have e2:(F.getD f zA).1=(dN d c,(F.getD f zA).1.2):=by rw[hp]
  rw[e2]
  refine Classical.byContradiction fun hn=>?_
  have h0:ouZ [[v1,v2,v3,v4].map fun u=>cE (dN d c,(F.getD f zA).1.2) (cU a b u)]=0:=if_neg hn
  rw[h0] at ho
  exact absurd ho (by decide)
theorem zW5{d:Dir}{c r:Rat}(hd:d.1<3)(hc:0<c):scZ (dN d c,(if d.2 then c else -c)*r)=(dN d 1,(if d.2 then 1 else -1)*r):=by
  obtain⟨ax,sd⟩:=d
  have h3:ax=0∨ax=1∨ax=2:=by have:ax<3:=hd;omega
  have hs:∀{x:Rat},x≠0→¬yX x=0:=fun{x} hx e=>by unfold yX at e;rw[if_neg hx] at e;split at e<;>omega
  have hz:yX 0=0:=if_pos rfl
  have hne:c≠0:=by grind
  have hne2:-c≠0:=by grind
  have hiv:ivA c*c=1∧ivA (-c)*c=1:=by
    have e1:((1:Int):Rat)=1:=rfl
    have n1:¬c.num<0:=Int.not_lt.2 (Rat.num_nonneg.2 (Rat.le_of_lt hc))
    have n2:(-c).num<0:=Int.not_le.1 fun e=>by have:=Rat.num_nonneg.1 e;grind
    have a1:dH c=c:=if_neg n1
    have a2:dH (-c)=c:=by
      have:dH (-c)= - -c:=if_pos n2
      rw[this];grind
    unfold ivA
    rw[a1,a2,if_neg hne,e1]
    grind
  rcases h3 with rfl|rfl|rfl<;>cases sd<;>simp[scZ,dN,T3.set,hz,hs hne,hs hne2,scW]<;>grind
end Bk
namespace Bk
set_option linter.unusedVariables false
set_option linter.unusedSimpArgs false
open Classical
variable {a b:Pt}
def plD(a b:Pt)(d:Dir):Pl:=(dN d 1,(if d.2 then 1 else -1)*(if d.2 then b.at d.1 else a.at d.1))
theorem pT(h:a.x<b.x∧a.y<b.y∧a.z<b.z){us:List B3}{F:List Fc}{f:Nat}(hf:f<F.length){d:Dir}(hd:mK a b us d (F.getD f zA))(ix:List Int){x:List Int}(hx:(F.getD f zA).2.1=[x]):
    nfF (us.map (cU a b),F,[]) ix f=(plD a b d,[zP2 (jW (fun q=>ix.getD (x.getD q 0).toNat 0) x.length)],(F.getD f zA).2.2):=by
  have hp:=zLV h hf hd
  obtain⟨hd3,c,hc0,hpl,_⟩:=hd
  unfold nfF
  show(scZ (F.getD f zA).1,ouL (us.map (cU a b),F,[]) ix f ((F.getD f zA).2.1).length++zA9 (us.map (cU a b),F,[]) ix f ((F.getD f zA).2.1).length,(F.getD f zA).2.2)=_
  rw[hpl,zW5 hd3 hc0,hx]
  have e1:ouL (us.map (cU a b),F,[]) ix f 1=[nfL (us.map (cU a b),F,[]) ix f 0]:=by
    unfold ouL
    rw[←z6 hp];rfl
  have e2:zA9 (us.map (cU a b),F,[]) ix f 1=[]:=if_pos hp
  show(_,ouL _ ix f 1++zA9 _ ix f 1,_)=_
  rw[e1,e2]
  have e3:nfL (us.map (cU a b),F,[]) ix f 0=zP2 (jW (fun q=>ix.getD (x.getD q 0).toNat 0) x.length):=by
    unfold nfL nwL
    show zP2 (jW (fun q=>ix.getD ((((F.getD f zA).2.1).getD 0 []).getD q 0).toNat 0) (((F.getD f zA).2.1).getD 0 []).length)=_
    rw[hx];rfl
  rw[e3];rfl
theorem zQ0(h:a.x<b.x∧a.y<b.y∧a.z<b.z)(ix:List Int)(hix:ix=[0,4,6,2,1,5,7,3]):
    nfF (pB0 a b,fB0 a b,[]) ix 0=(plD a b (1,false),[[0,4,5,1]],nmS 0 0)∧nfF (pB0 a b,fB0 a b,[]) ix 1=(plD a b (0,true),[[4,6,7,5]],nmS 0 1)∧nfF (pB0 a b,fB0 a b,[]) ix 2=(plD a b (1,true),[[2,3,7,6]],nmS 0 2)∧
    nfF (pB0 a b,fB0 a b,[]) ix 3=(plD a b (0,false),[[0,1,3,2]],nmS 0 3)∧nfF (pB0 a b,fB0 a b,[]) ix 4=(plD a b (2,false),[[0,2,6,4]],[98,111,116,116,111,109])∧nfF (pB0 a b,fB0 a b,[]) ix 5=(plD a b (2,true),[[1,5,7,3]],[116,111,112]):=by
  subst hix
  have g:=zML h
  rw[nL]
  refine⟨?_,?_,?_,?_,?_,?_⟩
  · rw[pT h (F:=fB0 a b) (f:=0) (show 0<6 by decide) g.1 _ (x:=[0,1,5,4]) rfl];rfl
  · rw[pT h (F:=fB0 a b) (f:=1) (show 1<6 by decide) g.2.1 _ (x:=[1,2,6,5]) rfl];rfl
  · rw[pT h (F:=fB0 a b) (f:=2) (show 2<6 by decide) g.2.2.1 _ (x:=[2,3,7,6]) rfl];rfl
  · rw[pT h (F:=fB0 a b) (f:=3) (show 3<6 by decide) g.2.2.2.1 _ (x:=[3,0,4,7]) rfl];rfl
  · rw[pT h (F:=fB0 a b) (f:=4) (show 4<6 by decide) g.2.2.2.2.1 _ (x:=[3,2,1,0]) rfl];rfl
  · rw[pT h (F:=fB0 a b) (f:=5) (show 5<6 by decide) g.2.2.2.2.2 _ (x:=[4,5,6,7]) rfl];rfl
end Bk
namespace Bk
set_option linter.unusedVariables false
set_option linter.unusedSimpArgs false
open Classical
def lsB:List Nat→List Nat→Bool
  |[],[]=>false
  |[],_::_=>true
  |_::_,[]=>false
  |x::a,y::b=>if x=y then lsB a b else decide (x<y)
theorem zRB:∀a b:List Nat,lsN a b↔lsB a b=true
  |[],[]=>by simp[lsN,lsB]
  |[],_::_=>by simp[lsN,lsB]
  |_::_,[]=>by simp[lsN,lsB]
  |x::a,y::b=>by
   have ih:=zRB a b
   by_cases h:x=y
   · simp[lsN,lsB,h,ih]
   · simp[lsN,lsB,h]
def nsB(nm:Nat→List Nat):Nat→List Nat
  |0=>[]
  |f+1=>eV (nsB nm f) (zDD (fun k=>lsB (nm f) (nm ((nsB nm f).getD k 0))) (nsB nm f).length) f
theorem zKL(nm:Nat→List Nat):∀f x,x∈nsB nm f→x<f
  |f+1,x,h=>by
   unfold nsB eV at h
   rcases List.mem_append.1 h with h|h
   · have:=zKL nm f x (List.mem_of_mem_take h);omega
   · rcases List.mem_cons.1 h with rfl|h
     · omega
     · have:=zKL nm f x (List.mem_of_mem_drop h);omega
theorem zRK{α β:Type}(g:α→β)(l:List α)(k:Nat)(x:α):eV (l.map g) k (g x)=(eV l k x).map g:=by
  unfold eV
  rw[List.map_append,List.map_cons,List.map_take,List.map_drop]
theorem zKK{s:Sd}{nm:Nat→List Nat}{n:Nat}(hn:∀i,i<n→(nfF s (ixZ s) i).2.2=nm i)(hd:∀i,i<n→∀k,k<i→¬nm i=nm k):∀f,f≤n→u4 s f=(nsB nm f).map fun i=>nfF s (ixZ s) i
  |0,_=>rfl
  |f+1,hf=>by
   have ih:=zKK hn hd f (by omega)
   unfold u4 nsB
   have hb:cR (zKT (nfF s (ixZ s) f) (u4 s f)) (u4 s f).length=zDD (fun k=>lsB (nm f) (nm ((nsB nm f).getD k 0))) (nsB nm f).length:=by
     rw[ih,List.length_map]
     refine zDC _ fun k hk=>?_
     have hl:=zKL nm f _ (bN (d:=0) hk)
     have e:((nsB nm f).map fun i=>nfF s (ixZ s) i).getD k zA=nfF s (ixZ s) ((nsB nm f).getD k 0):=by
       rw[List.getD_eq_getElem?_getD,List.getElem?_map,List.getElem?_eq_getElem hk,List.getD_eq_getElem?_getD,List.getElem?_eq_getElem hk];rfl
     unfold zKT lsF
     rw[e,hn f (by omega),hn _ (by omega),if_neg (hd f (by omega) _ hl)]
     exact zRB _ _
   rw[hb,ih,zRK]
variable {a b:Pt}
def nm0(i:Nat):List Nat:=([[115,48,46,48],[115,48,46,49],[115,48,46,50],[115,48,46,51],[98,111,116,116,111,109],[116,111,112]]:List (List Nat)).getD i []
def fB1(a b:Pt):List Fc:=[(plD a b (2,false),[[0,2,6,4]],[98,111,116,116,111,109]),(plD a b (1,false),[[0,4,5,1]],[115,48,46,48]),(plD a b (0,true),[[4,6,7,5]],[115,48,46,49]),(plD a b (1,true),[[2,3,7,6]],[115,48,46,50]),(plD a b (0,false),[[0,1,3,2]],[115,48,46,51]),(plD a b (2,true),[[1,5,7,3]],[116,111,112])]
theorem zQY(h:a.x<b.x∧a.y<b.y∧a.z<b.z):nrF (pB0 a b,fB0 a b,[])=fB1 a b:=by
  have hix:=zRJ h
  obtain⟨h0,h1,h2,h3,h4,h5⟩:=zQ0 h _ hix
  rw[zXQ (by decide)] at h0 h1 h2 h3
  have hn:∀i,i<6→(nfF (pB0 a b,fB0 a b,[]) (ixZ (pB0 a b,fB0 a b,[])) i).2.2=nm0 i:=fun i hi=>by
    have:i=0∨i=1∨i=2∨i=3∨i=4∨i=5:=by omega
    rcases this with rfl|rfl|rfl|rfl|rfl|rfl
    · rw[h0];rfl
    · rw[h1];rfl
    · rw[h2];rfl
    · rw[h3];rfl
    · rw[h4];rfl
    · rw[h5];rfl
  have hd:∀i,i<6→∀k,k<i→¬nm0 i=nm0 k:=by decide
  unfold nrF
  rw[if_pos (zD6 h)]
  show u4 _ 6=_
  rw[zKK hn hd 6 (Nat.le_refl _),show nsB nm0 6=[4,0,1,2,3,5] by decide]
  simp only[List.map_cons,List.map_nil]
  rw[h0,h1,h2,h3,h4,h5]
  rfl
end Bk
namespace Bk
set_option linter.unusedVariables false
set_option linter.unusedSimpArgs false
open Classical
variable {a b:Pt}
def fB2(a b:Pt):List Fc:=[(plD a b (2,false),[[0,2,6,4]],[122,48]),(plD a b (1,false),[[0,4,5,1]],[121,48]),(plD a b (0,true),[[4,6,7,5]],[120,49]),(plD a b (1,true),[[2,3,7,6]],[121,49]),(plD a b (0,false),[[0,1,3,2]],[120,48]),(plD a b (2,true),[[1,5,7,3]],[122,49])]
theorem zT2(h:eX a b):prP (blL a b) a.z b.z=uB1.map (cU a b)∧prF (blL a b) a.z b.z=fB1 a b:=by
  have hl:=zMW h
  have he:=zY3 h
  rw[(zU8 h).1] at he
  unfold prP prF
  rw[if_pos he,if_pos he,zHD hl.1 hl.2.1]
  exact⟨zQZ hl,zQY hl⟩
theorem zMX(h:eX a b):blS a b=(uB1.map (cU a b),fB2 a b,[]):=by
  obtain⟨h1,h2⟩:=zT2 h
  unfold blS blG
  rw[zS0,h1,h2]
  refine congrArg (fun z=>(uB1.map (cU a b),z,([]:List En))) ?_
  simp only[fB1,fB2,List.map_cons,List.map_nil,rnF]
  simp[rnN]
end Bk
namespace Bk
set_option linter.unusedVariables false
set_option linter.unusedSimpArgs false
open Classical
variable {a b:Pt}
theorem zGH:mK a b uB1 (2,false) ((fB2 a b).getD 0 zA)∧mK a b uB1 (1,false) ((fB2 a b).getD 1 zA)∧mK a b uB1 (0,true) ((fB2 a b).getD 2 zA)∧mK a b uB1 (1,true) ((fB2 a b).getD 3 zA)∧mK a b uB1 (0,false) ((fB2 a b).getD 4 zA)∧mK a b uB1 (2,true) ((fB2 a b).getD 5 zA):=
  ⟨⟨by decide,1,by decide,rfl,0,2,6,4,rfl,by decide,by decide⟩,⟨by decide,1,by decide,rfl,0,4,5,1,rfl,by decide,by decide⟩,⟨by decide,1,by decide,rfl,4,6,7,5,rfl,by decide,by decide⟩,⟨by decide,1,by decide,rfl,2,3,7,6,rfl,by decide,by decide⟩,⟨by decide,1,by decide,rfl,0,1,3,2,rfl,by decide,by decide⟩,⟨by decide,1,by decide,rfl,1,5,7,3,rfl,by decide,by decide⟩⟩
theorem dB:vQ (uB1.map (cU a b),fB2 a b,[])=[[[0,2,6,4]],[[0,4,5,1]],[[4,6,7,5]],[[2,3,7,6]],[[0,1,3,2]],[[1,5,7,3]]]:=rfl
theorem zPF(h:a.x<b.x∧a.y<b.y∧a.z<b.z):dU (uB1.map (cU a b),fB2 a b,[]):=by
  have g:∀i,i<uB1.length→∀k,k<i→¬uB1.getD i u0=uB1.getD k u0:=by decide +kernel
  obtain⟨h0,h1,h2,h3,h4,h5⟩:=zGH (a:=a) (b:=b)
  refine zMV h (fun i k hk hi=>g i hi k hk) ⟨by decide,show 6≤256 by decide⟩ (fun f hf=>?_) (fun f hf=>?_) ?_ ?_
  · have hf6:f<6:=hf
    have:f=0∨f=1∨f=2∨f=3∨f=4∨f=5:=by omega
    rcases this with rfl|rfl|rfl|rfl|rfl|rfl
    · exact⟨_,h0⟩
    · exact⟨_,h1⟩
    · exact⟨_,h2⟩
    · exact⟨_,h3⟩
    · exact⟨_,h4⟩
    · exact⟨_,h5⟩
  · have hf6:f<6:=hf
    have:f=0∨f=1∨f=2∨f=3∨f=4∨f=5:=by omega
    rcases this with rfl|rfl|rfl|rfl|rfl|rfl
    · show vfP [[0,2,6,4]];decide +kernel
    · show vfP [[0,4,5,1]];decide +kernel
    · show vfP [[4,6,7,5]];decide +kernel
    · show vfP [[2,3,7,6]];decide +kernel
    · show vfP [[0,1,3,2]];decide +kernel
    · show vfP [[1,5,7,3]];decide +kernel
  · rw[dB];decide +kernel
  · rw[dB];decide +kernel
end Bk
namespace Bk
set_option linter.unusedVariables false
set_option linter.unusedSimpArgs false
open Classical
variable {a b:Pt}
theorem zLX(h:a.x<b.x∧a.y<b.y∧a.z<b.z):fF (uB1.map (cU a b),fB2 a b,[])=[0,1,2,3,4,5,6,7]:=by
  rw[zEE h.1 h.2.1 h.2.2,dB]
  decide +kernel
theorem zUQ(h:a.x<b.x∧a.y<b.y∧a.z<b.z):ixZ (uB1.map (cU a b),fB2 a b,[])=[0,1,2,3,4,5,6,7]:=by
  have ho:=zLX h
  unfold ixZ
  rw[zK1 ho,ho]
  show ixB _ 8 8=_
  decide
def fB3(a b:Pt):List Fc:=[(plD a b (0,false),[[0,1,3,2]],[120,48]),(plD a b (0,true),[[4,6,7,5]],[120,49]),(plD a b (1,false),[[0,4,5,1]],[121,48]),(plD a b (1,true),[[2,3,7,6]],[121,49]),(plD a b (2,false),[[0,2,6,4]],[122,48]),(plD a b (2,true),[[1,5,7,3]],[122,49])]
def nm1(i:Nat):List Nat:=([[122,48],[121,48],[120,49],[121,49],[120,48],[122,49]]:List (List Nat)).getD i []
theorem zUC(h:a.x<b.x∧a.y<b.y∧a.z<b.z)(ix:List Int)(hix:ix=[0,1,2,3,4,5,6,7]):∀i,i<6→nfF (uB1.map (cU a b),fB2 a b,[]) ix i=(fB2 a b).getD i zA:=by
  subst hix
  obtain⟨h0,h1,h2,h3,h4,h5⟩:=zGH (a:=a) (b:=b)
  intro i hi
  have:i=0∨i=1∨i=2∨i=3∨i=4∨i=5:=by omega
  rcases this with rfl|rfl|rfl|rfl|rfl|rfl
  · rw[pT h (F:=fB2 a b) (f:=0) (show 0<6 by decide) h0 _ (x:=[0,2,6,4]) rfl];rfl
  · rw[pT h (F:=fB2 a b) (f:=1) (show 1<6 by decide) h1 _ (x:=[0,4,5,1]) rfl];rfl
  · rw[pT h (F:=fB2 a b) (f:=2) (show 2<6 by decide) h2 _ (x:=[4,6,7,5]) rfl];rfl
  · rw[pT h (F:=fB2 a b) (f:=3) (show 3<6 by decide) h3 _ (x:=[2,3,7,6]) rfl];rfl
  · rw[pT h (F:=fB2 a b) (f:=4) (show 4<6 by decide) h4 _ (x:=[0,1,3,2]) rfl];rfl
  · rw[pT h (F:=fB2 a b) (f:=5) (show 5<6 by decide) h5 _ (x:=[1,5,7,3]) rfl];rfl
theorem zLC(h:eX a b):blP a b=uB1.map (cU a b)∧blF a b=fB3 a b:=by
  have hl:=zMW h
  obtain⟨_,e2,e3⟩:=zU8 h
  rw[e2,e3,zMX h]
  have hs:=zPF hl
  have ho:=zLX hl
  have hix:=zUQ hl
  refine⟨?_,?_⟩
  · unfold nrP
    rw[if_pos hs]
    unfold zUB
    rw[ho];rfl
  · have hf:=zUC hl _ hix
    have hn:∀i,i<6→(nfF (uB1.map (cU a b),fB2 a b,[]) (ixZ (uB1.map (cU a b),fB2 a b,[])) i).2.2=nm1 i:=fun i hi=>by
      rw[hf i hi]
      have:i=0∨i=1∨i=2∨i=3∨i=4∨i=5:=by omega
      rcases this with rfl|rfl|rfl|rfl|rfl|rfl<;>rfl
    unfold nrF
    rw[if_pos hs]
    show u4 _ 6=_
    rw[zKK hn (by decide) 6 (Nat.le_refl _),show nsB nm1 6=[4,2,1,3,0,5] by decide]
    simp only[List.map_cons,List.map_nil]
    rw[hf 0 (by decide),hf 1 (by decide),hf 2 (by decide),hf 3 (by decide),hf 4 (by decide),hf 5 (by decide)]
    rfl
end Bk
namespace Bk
set_option linter.unusedVariables false
set_option linter.unusedSimpArgs false
open Classical
variable {a b:Pt}
theorem zHE{P:List Pt}(h:0<yX (arZ P 0 1)):lY P:=zOH fun e=>by
  have:arZ P 0 1=0:=e
  rw[this] at h
  exact absurd h (by decide)
theorem zSF(h:a.x<b.x∧a.y<b.y∧a.z<b.z){us:List B3}{F:List Fc}(hu:us.length≤512∧F.length≤256)(hF:∀f,f<F.length→∃d,mK a b us d (F.getD f zA)):okS (us.map (cU a b),F,[]):=by
  refine⟨⟨⟨?_,?_⟩,Nat.zero_le _⟩,fun f hf=>?_,fun f hf x hx=>?_⟩
  · show(us.map (cU a b)).length≤1000
    rw[List.length_map];omega
  · show F.length≤1000
    omega
  · obtain⟨d,_,c,_,_,i,j,k,l,hl,_⟩:=hF f hf
    show(F.getD f zA).2.1.length≤16∧∀l,l<(F.getD f zA).2.1.length→((F.getD f zA).2.1.getD l []).length≤64
    rw[hl]
    refine⟨show 1≤16 by decide,fun m hm=>?_⟩
    have hm0:m=0:=by have:m<1:=hm;omega
    subst hm0
    show 4≤64
    decide
  · obtain⟨d,hd⟩:=hF f hf
    have hp:=zLV h hf hd
    obtain⟨vs,ht,h4,hcr⟩:=zBP hf hd
    obtain⟨v1,v2,v3,v4,rfl⟩:∃v1 v2 v3 v4,vs=[v1,v2,v3,v4]:=by
      match vs,h4 with
      |[v1,v2,v3,v4],_=>exact⟨_,_,_,_,rfl⟩
    have e:rA (us.map (cU a b),F,[]) f=[[v1,v2,v3,v4].map fun u=>cE (F.getD f zA).1 (cU a b u)]:=zRT hcr
    unfold zHF at hp
    rw[e] at hp hx
    rw[List.mem_singleton.1 hx]
    exact zHE hp
theorem zY1(h:eX a b):blH a b:=by
  have hl:=zMW h
  refine⟨fun x hx=>?_,fun _=>?_,?_⟩
  · have:x=bB a b:=List.mem_singleton.1 hx
    rw[this]
    exact zHE (zSK hl.1 hl.2.1)
  · rw[zHD hl.1 hl.2.1,nL]
    exact zSF hl ⟨by decide,show 6≤256 by decide⟩ (zMM hl)
  · rw[zMX h]
    obtain⟨h0,h1,h2,h3,h4,h5⟩:=zGH (a:=a) (b:=b)
    refine zSF hl ⟨by decide,show 6≤256 by decide⟩ fun f hf=>?_
    have hf6:f<6:=hf
    have:f=0∨f=1∨f=2∨f=3∨f=4∨f=5:=by omega
    rcases this with rfl|rfl|rfl|rfl|rfl|rfl
    · exact⟨_,h0⟩
    · exact⟨_,h1⟩
    · exact⟨_,h2⟩
    · exact⟨_,h3⟩
    · exact⟨_,h4⟩
    · exact⟨_,h5⟩
end Bk
namespace Bk
set_option linter.unusedVariables false
set_option linter.unusedSimpArgs false
open Classical
variable {a b:Pt}
def bxS(a b:Pt):Sd:=(uB1.map (cU a b),fB3 a b,[])
theorem zU9(h:eX a b):bkS a b=bxS a b:=by
  obtain⟨h1,h2⟩:=zLC h
  unfold bkS bxS
  rw[h1,h2]
def cC(a b:Pt)(i:Nat):Pt:=cU a b (uB1.getD i u0)
theorem dF(i j k l:Nat)(hi:i<8)(hj:j<8)(hk:k<8)(hl:l<8):gY (bxS a b) [[(i:Int),(j:Int),(k:Int),(l:Int)]] 1=[T3.mk (cC a b i) (cC a b j) (cC a b k),T3.mk (cC a b i) (cC a b k) (cC a b l)]:=by
  have g:∀m:Nat,m<8→pnA (bxS a b) (m:Int)=cC a b m:=fun m hm=>by
    unfold pnA
    rw[Int.toNat_natCast]
    exact iI (l:=uB1) hm
  show[]++([]++[T3.mk (pnA (bxS a b) (i:Int)) (pnA (bxS a b) (j:Int)) (pnA (bxS a b) (k:Int))]++[T3.mk (pnA (bxS a b) (i:Int)) (pnA (bxS a b) (k:Int)) (pnA (bxS a b) (l:Int))])=_
  rw[g i hi,g j hj,g k hk,g l hl];rfl
theorem zLF:pY (bxS a b) (fB3 a b) 6=[T3.mk (cC a b 0) (cC a b 1) (cC a b 3),T3.mk (cC a b 0) (cC a b 3) (cC a b 2),T3.mk (cC a b 4) (cC a b 6) (cC a b 7),T3.mk (cC a b 4) (cC a b 7) (cC a b 5),T3.mk (cC a b 0) (cC a b 4) (cC a b 5),T3.mk (cC a b 0) (cC a b 5) (cC a b 1),T3.mk (cC a b 2) (cC a b 3) (cC a b 7),T3.mk (cC a b 2) (cC a b 7) (cC a b 6),T3.mk (cC a b 0) (cC a b 2) (cC a b 6),T3.mk (cC a b 0) (cC a b 6) (cC a b 4),T3.mk (cC a b 1) (cC a b 5) (cC a b 7),T3.mk (cC a b 1) (cC a b 7) (cC a b 3)]:=by
  show((((([]++gY (bxS a b) [[((0:Nat):Int),((1:Nat):Int),((3:Nat):Int),((2:Nat):Int)]] 1)++gY (bxS a b) [[((4:Nat):Int),((6:Nat):Int),((7:Nat):Int),((5:Nat):Int)]] 1)++gY (bxS a b) [[((0:Nat):Int),((4:Nat):Int),((5:Nat):Int),((1:Nat):Int)]] 1)++gY (bxS a b) [[((2:Nat):Int),((3:Nat):Int),((7:Nat):Int),((6:Nat):Int)]] 1)++gY (bxS a b) [[((0:Nat):Int),((2:Nat):Int),((6:Nat):Int),((4:Nat):Int)]] 1)++gY (bxS a b) [[((1:Nat):Int),((5:Nat):Int),((7:Nat):Int),((3:Nat):Int)]] 1=_
  rw[dF 0 1 3 2 (by decide) (by decide) (by decide) (by decide),dF 4 6 7 5 (by decide) (by decide) (by decide) (by decide),dF 0 4 5 1 (by decide) (by decide) (by decide) (by decide),dF 2 3 7 6 (by decide) (by decide) (by decide) (by decide),dF 0 2 6 4 (by decide) (by decide) (by decide) (by decide),dF 1 5 7 3 (by decide) (by decide) (by decide) (by decide)]
  rfl
theorem zO2:zA2 (bxS a b)=6*((b.x-a.x)*(b.y-a.y)*(b.z-a.z)):=by
  have e:zA2 (bxS a b)=iQ (pY (bxS a b) (fB3 a b) 6):=rfl
  rw[e,zLF]
  simp only[iQ,List.foldl,j9,jL,rC,cC,cU,cB,uB1,List.getD_cons_zero,List.getD_cons_succ,if_true,Bool.false_eq_true,if_false]
  generalize a.x=p;generalize a.y=q;generalize a.z=r;generalize b.x=u;generalize b.y=v;generalize b.z=w
  grind
theorem zYV:zYW (bxS a b)=scT (12*((b.x-a.x)*(b.y-a.y)*(b.z-a.z))) (aA a b):=by
  have e:zYW (bxS a b)=zFG (pY (bxS a b) (fB3 a b) 6):=rfl
  rw[e,zLF]
  simp only[zFG,List.foldl,j9,jL,rC,cC,cU,cB,uB1,List.getD_cons_zero,List.getD_cons_succ,if_true,Bool.false_eq_true,if_false,smT,scT,aA]
  generalize a.x=p;generalize a.y=q;generalize a.z=r;generalize b.x=u;generalize b.y=v;generalize b.z=w
  rw[iC]
  refine⟨?_,?_,?_⟩<;>simp only<;>grind
end Bk
namespace Bk
set_option linter.unusedVariables false
set_option linter.unusedSimpArgs false
open Classical
variable {a b:Pt}
def zA3(a b:Pt)(f:Nat):Rat:=if f<2 then(b.y-a.y)*(b.z-a.z) else if f<4 then(b.z-a.z)*(b.x-a.x) else(b.x-a.x)*(b.y-a.y)
theorem six{f:Nat}(h:f<6):f=0∨f=1∨f=2∨f=3∨f=4∨f=5:=by omega
theorem zSP{f:Nat}(h:f<6):jL (arV (bxS a b) ((fB3 a b).getD f zA)) (arV (bxS a b) ((fB3 a b).getD f zA))=zA3 a b f*zA3 a b f:=by
  have g:∀(i j k l:Nat) (c:Fc),i<8→j<8→k<8→l<8→c.2.1=[[(i:Int),(j:Int),(k:Int),(l:Int)]]→arV (bxS a b) c=scT (1/2) (dS [T3.mk (cC a b i) (cC a b j) (cC a b k),T3.mk (cC a b i) (cC a b k) (cC a b l)]):=fun i j k l c hi hj hk hl e=>by
    unfold arV
    rw[e]
    exact congrArg (fun z=>scT (1/2) (dS z)) (dF i j k l hi hj hk hl)
  rcases six h with rfl|rfl|rfl|rfl|rfl|rfl
  · rw[g 0 1 3 2 _ (by decide) (by decide) (by decide) (by decide) rfl]
    simp only[dS,List.foldl,jL,rC,g7,aA,scT,cC,cU,cB,uB1,List.getD_cons_zero,List.getD_cons_succ,if_true,Bool.false_eq_true,if_false,zT,zA3]
    generalize a.x=p;generalize a.y=q;generalize a.z=r;generalize b.x=u;generalize b.y=v;generalize b.z=w
    grind
  · rw[g 4 6 7 5 _ (by decide) (by decide) (by decide) (by decide) rfl]
    simp only[dS,List.foldl,jL,rC,g7,aA,scT,cC,cU,cB,uB1,List.getD_cons_zero,List.getD_cons_succ,if_true,Bool.false_eq_true,if_false,zT,zA3]
    generalize a.x=p;generalize a.y=q;generalize a.z=r;generalize b.x=u;generalize b.y=v;generalize b.z=w
    grind
  · rw[g 0 4 5 1 _ (by decide) (by decide) (by decide) (by decide) rfl]
    simp only[dS,List.foldl,jL,rC,g7,aA,scT,cC,cU,cB,uB1,List.getD_cons_zero,List.getD_cons_succ,if_true,Bool.false_eq_true,if_false,zT,zA3]
    generalize a.x=p;generalize a.y=q;generalize a.z=r;generalize b.x=u;generalize b.y=v;generalize b.z=w
    grind
  · rw[g 2 3 7 6 _ (by decide) (by decide) (by decide) (by decide) rfl]
    simp only[dS,List.foldl,jL,rC,g7,aA,scT,cC,cU,cB,uB1,List.getD_cons_zero,List.getD_cons_succ,if_true,Bool.false_eq_true,if_false,zT,zA3]
    generalize a.x=p;generalize a.y=q;generalize a.z=r;generalize b.x=u;generalize b.y=v;generalize b.z=w
    grind
  · rw[g 0 2 6 4 _ (by decide) (by decide) (by decide) (by decide) rfl]
    simp only[dS,List.foldl,jL,rC,g7,aA,scT,cC,cU,cB,uB1,List.getD_cons_zero,List.getD_cons_succ,if_true,Bool.false_eq_true,if_false,zT,zA3]
    generalize a.x=p;generalize a.y=q;generalize a.z=r;generalize b.x=u;generalize b.y=v;generalize b.z=w
    grind
  · rw[g 1 5 7 3 _ (by decide) (by decide) (by decide) (by decide) rfl]
    simp only[dS,List.foldl,jL,rC,g7,aA,scT,cC,cU,cB,uB1,List.getD_cons_zero,List.getD_cons_succ,if_true,Bool.false_eq_true,if_false,zT,zA3]
    generalize a.x=p;generalize a.y=q;generalize a.z=r;generalize b.x=u;generalize b.y=v;generalize b.z=w
    grind
theorem zIA{f:Nat}(h:f<6):∃i j k l:Nat,i<8∧j<8∧k<8∧l<8∧((fB3 a b).getD f zA).2.1=[[(i:Int),(j:Int),(k:Int),(l:Int)]]:=by
  rcases six h with rfl|rfl|rfl|rfl|rfl|rfl
  · exact⟨0,1,3,2,by decide,by decide,by decide,by decide,rfl⟩
  · exact⟨4,6,7,5,by decide,by decide,by decide,by decide,rfl⟩
  · exact⟨0,4,5,1,by decide,by decide,by decide,by decide,rfl⟩
  · exact⟨2,3,7,6,by decide,by decide,by decide,by decide,rfl⟩
  · exact⟨0,2,6,4,by decide,by decide,by decide,by decide,rfl⟩
  · exact⟨1,5,7,3,by decide,by decide,by decide,by decide,rfl⟩
theorem zVS{i j k l:Nat}(hi:i<8)(hj:j<8)(hk:k<8)(hl:l<8){u v:Nat}(hu:u<1)(hv:v<4):0≤(([[(i:Int),(j:Int),(k:Int),(l:Int)]]:List (List Int)).getD u []).getD v 0∧(([[(i:Int),(j:Int),(k:Int),(l:Int)]]:List (List Int)).getD u []).getD v 0<((8:Nat):Int):=by
  have h0:u=0:=by omega
  subst h0
  have:v=0∨v=1∨v=2∨v=3:=by omega
  rcases this with rfl|rfl|rfl|rfl
  · show 0≤(i:Int)∧(i:Int)<((8:Nat):Int);omega
  · show 0≤(j:Int)∧(j:Int)<((8:Nat):Int);omega
  · show 0≤(k:Int)∧(k:Int)<((8:Nat):Int);omega
  · show 0≤(l:Int)∧(l:Int)<((8:Nat):Int);omega
theorem zZ6(h:∀f,f<6→lq (zA3 a b f*zA3 a b f)≤200):zZ7 (bxS a b):=by
  refine⟨⟨fun f hf l hl m hm=>?_,fun f hf=>?_⟩,⟨fun f hf=>⟨fun u v hu hv=>?_,fun u hu=>?_,?_⟩,?_,?_⟩,fun f hf=>?_⟩
  · have hf6:f<6:=hf
    obtain⟨i,j,k,q,hi,hj,hk,hq,e⟩:=zIA (a:=a) (b:=b) hf6
    change l<((fB3 a b).getD f zA).2.1.length at hl
    change m<(((fB3 a b).getD f zA).2.1.getD l []).length at hm
    show 0≤(((fB3 a b).getD f zA).2.1.getD l []).getD m 0∧(((fB3 a b).getD f zA).2.1.getD l []).getD m 0<_
    rw[e] at hl hm ⊢
    have h0:l=0:=by have:l<1:=hl;omega
    subst h0
    exact zVS hi hj hk hq (by decide) hm
  · have hf6:f<6:=hf
    obtain⟨i,j,k,q,hi,hj,hk,hq,e⟩:=zIA (a:=a) (b:=b) hf6
    show((fB3 a b).getD f zA).2.1.length≤10000∧∀l,l<((fB3 a b).getD f zA).2.1.length→(((fB3 a b).getD f zA).2.1.getD l []).length≤10000
    rw[e]
    refine⟨show 1≤10000 by decide,fun l hl=>?_⟩
    have h0:l=0:=by have:l<1:=hl;omega
    subst h0
    show 4≤10000
    decide
  · have hf6:f<6:=hf
    obtain⟨i,j,k,q,hi,hj,hk,hq,e⟩:=zIA (a:=a) (b:=b) hf6
    change u<((fB3 a b).getD f zA).2.1.length at hu
    change v<(((fB3 a b).getD f zA).2.1.getD u []).length at hv
    show 0≤(((fB3 a b).getD f zA).2.1.getD u []).getD v 0∧(((fB3 a b).getD f zA).2.1.getD u []).getD v 0<_
    rw[e] at hu hv ⊢
    have h0:u=0:=by have:u<1:=hu;omega
    subst h0
    exact zVS hi hj hk hq (by decide) hv
  · have hf6:f<6:=hf
    obtain⟨i,j,k,q,hi,hj,hk,hq,e⟩:=zIA (a:=a) (b:=b) hf6
    change u<((fB3 a b).getD f zA).2.1.length at hu
    show(((fB3 a b).getD f zA).2.1.getD u []).length≤1000
    rw[e] at hu ⊢
    have h0:u=0:=by have:u<1:=hu;omega
    subst h0
    show 4≤1000
    decide
  · have hf6:f<6:=hf
    obtain⟨i,j,k,q,hi,hj,hk,hq,e⟩:=zIA (a:=a) (b:=b) hf6
    show((fB3 a b).getD f zA).2.1.length≤1000
    rw[e]
    show 1≤1000
    decide
  · show 6≤1000
    decide
  · show(pY (bxS a b) (fB3 a b) 6).length≤1000
    rw[zLF]
    show 12≤1000
    decide
  · show lq (jL (arV (bxS a b) ((fB3 a b).getD f zA)) (arV (bxS a b) ((fB3 a b).getD f zA)))≤200
    rw[zSP hf]
    exact h f hf
theorem yAP(h:a.x<b.x∧a.y<b.y∧a.z<b.z):cnO (bxS a b)∧cnS (bxS a b)=scT (1/2) (aA a b):=by
  have hp:0<(b.x-a.x)*(b.y-a.y)*(b.z-a.z):=oP (oP (by grind) (by grind)) (by grind)
  have h4:((4:Int):Rat)=4:=rfl
  have h1:((1:Int):Rat)=1:=rfl
  have hv:((4:Int):Rat)*zA2 (bxS a b)=24*((b.x-a.x)*(b.y-a.y)*(b.z-a.z)):=by rw[zO2,h4];grind
  have ho:cnO (bxS a b):=by unfold cnO;rw[hv];grind
  refine⟨ho,?_⟩
  unfold cnS
  rw[if_neg ho,hv,zYV,h1]
  generalize (b.x-a.x)*(b.y-a.y)*(b.z-a.z)=V at hp
  unfold scT aA
  rw[iC]
  refine⟨?_,?_,?_⟩<;>simp only<;>grind
theorem zZ9{n:Int}(h:n=0){q:Rat}(hq:q=4*4):jV q n=4∧gA q n=4:=by
  subst h;subst hq
  have h0:¬(4*4:Rat)<0:=by decide +kernel
  have ho:¬((yX (4*4:Rat)<0∨(0:Int)<0)∨64<(0:Int)):=fun e=>by
    rcases e with(e|e)|e
    · exact h0 (uR.1 e)
    · omega
    · omega
  obtain⟨y1,y2,y3,y4⟩:=hH ho
  have e1:flN (4*4:Rat) (kN 0)=16:=by decide +kernel
  have e2:sqN 16=4:=zFI (by decide) (by decide)
  have e3:kN 0=0:=by decide
  have e4:qE (4*4:Rat) 0=4:=by
    unfold qE
    rw[e1,e2,e3]
    unfold ovQ
    decide +kernel
  rw[y1,y2,←zFL h0 (by rw[e4]),e4]
  exact⟨rfl,rfl⟩
theorem zG2:SaneF:=by
  have hI:∀n:Int,(pI 0 0 0).x=((0:Int):Rat)∧(pI 2 2 2).x=((2:Int):Rat):=fun _=>⟨rfl,rfl⟩
  have hlt:(pI 0 0 0).x<(pI 2 2 2).x∧(pI 0 0 0).y<(pI 2 2 2).y∧(pI 0 0 0).z<(pI 2 2 2).z:=by
    have:((0:Int):Rat)<((2:Int):Rat):=by decide +kernel
    exact⟨this,this,this⟩
  have hbl:eX (pI 0 0 0) (pI 2 2 2):=by
    have g:¬0≤wB ((0:Int):Rat) ((2:Int):Rat):=by rw[mI];decide +kernel
    intro u hu
    have:u=0∨u=1∨u=2:=by omega
    rcases this with rfl|rfl|rfl<;>exact g
  have hb:=zU9 hbl
  have h4:∀f,zA3 (pI 0 0 0) (pI 2 2 2) f=4:=fun f=>by
    have:(((2:Int):Rat)-((0:Int):Rat))*(((2:Int):Rat)-((0:Int):Rat))=4:=by decide +kernel
    unfold zA3
    split
    · exact this
    · split
      · exact this
      · exact this
  refine⟨fun _=>zY1 hbl,?_,?_,?_,?_⟩
  · rw[hb]
    refine zZ6 fun f hf=>?_
    rw[h4 f]
    have h1:(4*4:Rat)=((16:Int):Rat):=by decide +kernel
    have:=zCW 16 (by decide) (by decide)
    rw[h1];omega
  · rw[hb,zO2]
    show 6*((((2:Int):Rat)-((0:Int):Rat))*(((2:Int):Rat)-((0:Int):Rat))*(((2:Int):Rat)-((0:Int):Rat)))/((6:Int):Rat)=((8:Int):Rat)
    decide +kernel
  · rw[hb]
    obtain⟨h1,h2⟩:=yAP hlt
    refine⟨?_,h1⟩
    rw[h2]
    have:1/2*(((0:Int):Rat)+((2:Int):Rat))=((1:Int):Rat):=by decide +kernel
    unfold scT aA pI
    rw[iC]
    exact⟨this,this,this⟩
  · rw[hb]
    have hr:∀f,f<6→jV (jL (arV (bxS (pI 0 0 0) (pI 2 2 2)) ((fB3 (pI 0 0 0) (pI 2 2 2)).getD f zA)) (arV (bxS (pI 0 0 0) (pI 2 2 2)) ((fB3 (pI 0 0 0) (pI 2 2 2)).getD f zA))) 0=4∧gA (jL (arV (bxS (pI 0 0 0) (pI 2 2 2)) ((fB3 (pI 0 0 0) (pI 2 2 2)).getD f zA)) (arV (bxS (pI 0 0 0) (pI 2 2 2)) ((fB3 (pI 0 0 0) (pI 2 2 2)).getD f zA))) 0=4:=fun f hf=>zZ9 rfl (by rw[zSP hf,h4 f])
    have hs:∀i:Nat,i≤6→arS (bxS (pI 0 0 0) (pI 2 2 2)) 0 i=((i:Rat)*4,(i:Rat)*4):=by
      intro i
      induction i with
      |zero=>intro _;unfold arS;refine Prod.ext ?_ ?_<;>(show(0:Rat)=((0:Nat):Rat)*4;decide +kernel)
      |succ i ih=>
       intro hi
       obtain⟨r1,r2⟩:=hr i (by omega)
       have e:=ih (by omega)
       have ec:((i+1:Nat):Rat)=(i:Rat)+1:=by rw[Rat.natCast_add];rfl
       unfold arS
       rw[e]
       refine Prod.ext ?_ ?_
       · show(i:Rat)*4+jV (jL (arV (bxS (pI 0 0 0) (pI 2 2 2)) ((fB3 (pI 0 0 0) (pI 2 2 2)).getD i zA)) (arV (bxS (pI 0 0 0) (pI 2 2 2)) ((fB3 (pI 0 0 0) (pI 2 2 2)).getD i zA))) 0=_
         rw[r1,ec];grind
       · show(i:Rat)*4+gA (jL (arV (bxS (pI 0 0 0) (pI 2 2 2)) ((fB3 (pI 0 0 0) (pI 2 2 2)).getD i zA)) (arV (bxS (pI 0 0 0) (pI 2 2 2)) ((fB3 (pI 0 0 0) (pI 2 2 2)).getD i zA))) 0=_
         rw[r2,ec];grind
    show arS (bxS (pI 0 0 0) (pI 2 2 2)) 0 6=_
    rw[hs 6 (by decide)]
    refine Prod.ext ?_ ?_<;>(show((6:Nat):Rat)*4=((24:Int):Rat);decide +kernel)
end Bk
namespace Go.Proofs.YtboaboflnckgoaaGreat
open Bk Go Tryz
set_option linter.unusedVariables false
set_option linter.unusedSimpArgs false
set_option maxRecDepth 10000
set_option maxHeartbeats 1000000
attribute [local irreducible] GL GC GQ W OpV
theorem zFA{w0:World}{h0:Mem}(hs:MLe h0 (mem w0)){b:Bool}{ng:Prop}(e:Value.bool b=vB ng){vu:Value}{xu:List Nat}(hu:Us .u32 h0 vu xu){vd:Value}{xd:List Nat}(hd:Us .u32 h0 vd xd){nn:Nat}(hnn:nn<65536){k:Int}(hk1:-9223372036854775808≤k)(hk2:k<9223372036854775808):
    Calls Tryz.prog 3 #[.bool b,vu,vd,vU .u16 nn,vI k] w0 (Ret w0 h0 (fun _ r=>r=.bool true)):=by
  rw[e]
  exact zA7 hs hu hd hnn hk1 hk2 zG2
theorem zGN{w0:World}{h0:Mem}(hs:MLe h0 (mem w0)){vu:Value}{xu:List Nat}(hu:Us .u32 h0 vu xu){vd:Value}{xd:List Nat}(hd:Us .u32 h0 vd xd){kk:Nat}(hk:kk<256):
    Calls Tryz.prog 4 #[vu,vd,vU .u8 kk] w0 (Ret w0 h0 (fun _ r=>r=.bool true)):=eU hs hu hd hk zG2
end Go.Proofs.YtboaboflnckgoaaGreat
