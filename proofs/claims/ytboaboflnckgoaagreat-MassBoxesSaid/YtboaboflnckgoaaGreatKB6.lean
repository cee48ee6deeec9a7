/- Texts that the proof needs, part 6. -/
import Derived.Test.YtboaboflnckgoaaGreatKB5
namespace Go.Proofs.YtboaboflnckgoaaGreat
open Bk Go Tryz
set_option linter.unusedVariables false
set_option linter.unusedSimpArgs false
set_option maxRecDepth 10000
set_option maxHeartbeats 1000000
attribute [local irreducible] GL GC GQ W OpV
theorem zCU{w0:World}{h0:Mem}(hs:MLe h0 (mem w0)){k m n j:Nat}{vs:Value}{s:Sq}(rs:(tSd k m n j).Is h0 vs s)(hcd0:k≤1000)(hcd1:m≤100000)(hcd2:n≤100000)(hcd3:okS s):
    Calls Tryz.prog 82 #[vs] w0 (sQ w0 h0 (fun h r L_=>∃vF cs,(rpP (tLs (k+1)) (rpP rpV (rpS (rpP rpI (rpP rpI (rpQ (j+1))))))).Is h r (nrP s,(vF,nrE s))∧L_=[.gs 83 14 vF (nrF s).length cs]∧vF.oneCell'=true∧RL (tFc (4*m+12) (m+n+12)) h cs (nrF s))):=by
 have hk1:=hcd3.1.1.1
 have hk2:=hcd3.1.1.2
 have hk3:=hcd3.1.2
 refine cb1 100 vs func82 hs ?_
 refine go2 ?_
 refine nB rs fun b1 cs1 rb1=>(nA (ρ:=(rpP (tLs 1) (rpP rpV (rpS (rpP rpI (rpP rpI (rpQ 1))))))) (X:=([],((Value.slice none 0 0),[]))) tO (yJ qL (yJ cJ qL)) fun b2 cs2 rb2=>?_)
 refine go5 ?_
 refine lX (xB kF pH rb1) fun v10 r10=>(cL (ev1 rfl) call61 (fun w hs=>zOB hs r10 (by first|omega|exact hcd3) (by first|omega|exact hcd3) (by first|omega|exact hcd3) (by first|omega|exact hcd3)) fun v11 h1 hh1 r11=>?_)
 obtain rfl:v11=vB (z4 s):=r11
 refine go3 ?_
 refine cnd (fun hc12=>?_) fun hc12=>?_
 ·
  refine go2 ?_
  refine lX (xV (ρ:=(rpP (tLs 1) (rpP rpV (rpS (rpP rpI (rpP rpI (rpQ 1))))))) (wC (ps':=[]) underlying50 tO rfl rfl (bG underlying50) trivial rfl (yJ qL (yJ cJ qL)) zX)) fun v13 r13=>?_
  replace rb2:=rb2.mono hh1
  refine zR (A:=[]) (uB sizeOf50 pH rb2 r13) fun cs_1 rb_2=>?_
  refine go4 ?_
  rw[show nrF s=[] from if_neg hc12]
  refine cZ 83 14 ?_
  have rl_3:RL (tFc (4*m+12) (m+n+12)) h1 [] ([]:List (Pq×((List (List Int))×(List Nat)))):=RL.nil
  refine wL (jZ (t:=2) kF mh1 rfl rb_2) ?_
  intro w_4 hvw_4 rr_5
  refine gY (.cons_cons _ (List.nil_sublist _)) (fun E S=>zP rfl hvw_4 E S) ?_
  exact⟨_,_,(Rp.Is.cast (Rp.Is.le rr_5 (Le.p (Le.s (Le.t (Le.q (l:=k+1) oM))) (Le.p (Le.refl _) (Le.s (Le.p (Le.refl _) (Le.p (Le.refl _) (Le.q (l:=j+1) oM))))))) (by rw[show nrP s=[] from if_neg hc12,show nrE s=[] from if_neg hc12])),rfl,rfl,rl_3⟩
 refine go4 ?_
 refine lX (xB kF pH rb1) fun v14 r14=>?_
 have hsn:z4 s:=Classical.not_not.1 hc12
 have hnm:=zXI hsn
 have hol:(fG s).length≤s.1.length:=zKL s s.1.length
 refine cL (ev1 rfl) call127 (fun w hs=>zOF hs r14 (by first|omega|exact hcd3|exact hnm) (by first|omega|exact hcd3|exact hnm) (by first|omega|exact hcd3|exact hnm)) fun v15 h2 hh2 r15=>?_
 replace r15:=Rp.Is.cast (y:=(fG s)) r15 (by rfl)
 refine go6 ?_
 refine lX (xB uT (Pc.fst pH) rb1) fun v17 r17=>?_
 refine go1 ?_
 refine zF (zE2 (ρ:=rpI) (X:=(0:Int)) (by':=8) s.1.length underlying32 gK rfl rfl rfl rfl wF rfl rfl (by rfl) (by rfl) bO bO) rfl rfl rfl ?_
 intro v19 q19 hq19
 obtain⟨cs19,rfl,rl19⟩:=hq19
 refine go6 ?_
 refine lX (xB yAD (Pc.snd (Pc.snd pH)) rb1) fun v21 r21=>(zFB 233 5 ?_)
 have rl_6:RL (rpP rpI (rpP rpI (rpQ j))) h2 [] ([]:List (Int×(Int×Rat))):=RL.nil
 refine xS (A:=[]) (jM (yD (ρ:=(rpP rpI (rpP rpI (rpQ j)))) (bytes:=72) underlying48 zVH rfl rfl rfl rfl nP rfl rfl rl_6 r21 bO bO)) rfl rfl rfl ?_
 intro v22 q22 hq22
 obtain⟨ho22,cs22,rfl,rl22⟩:=hq22
 refine yH (A:=[]) (ρ:=(rpP rpI (rpP rpI (rpQ j)))) rl22 ?_
 intro h3 hh3 rs_7
 refine lX (xV (ρ:=(rpP rpV (rpP rpV (rpS (rpP rpI (rpP rpI (rpQ (j+1)))))))) (wC (ps':=[(2,_)]) underlying50 tO rfl rfl (bG underlying50) e2z rfl (yJ cJ (yJ cJ qL)) (zI rfl (Pc.snd (Pc.snd (Pc.here _))) (rs_7.le (Le.s (Le.p (Le.refl _) (Le.p (Le.refl _) (Le.q (l:=j+1) oM))))) zX))) fun v23 r23=>(nA (ρ:=(rpP rpV (rpP rpV (rpS (rpP rpI (rpP rpI (rpQ 1))))))) (X:=((Value.slice none 0 0),((Value.slice none 0 0),[]))) tO (yJ cJ (yJ cJ qL)) fun b5 cs5 rb5=>?_)
 have rw_8:=(Le.p (Le.refl _) (Le.p (Le.refl _) (Le.s (Le.p (Le.refl _) (Le.p (Le.refl _) (Le.q (l:=j+1) oM)))))).R rb5
 refine zR (A:=[]) (uB sizeOf50 pH rw_8 r23) fun cs_9 rb_10=>?_
 refine go9 ?_
 refine xQ 53 9 ?_
 have rl_11:RL (tPt (k+1)) h3 [] ([]:List Tq):=RL.nil
 refine gcL (ι:=Nat×List Int×List Tq×List Value×Value×List Value×Value×List Value×Mem) (fun(i,IX,PS,cs_14,s4_12,cs_16,sA_13,cs_18,ma)=>(MLe h3 ma∧((rpP rpV (rpP rpV (rpS (rpP rpI (rpP rpI (rpQ (j+1))))))).R ma cs_14 (sA_13,(Value.slice none 0 0,s.2.2))∧RL rpI ma cs_16 IX∧RL (tPt (k+1)) ma cs_18 PS∧sA_13.oneCell'=true∧i≤(fG s).length∧IX=zLK s i∧PS=zUV s i),[(1,vP b1 0),(2,vP b2 0),(3,v15),(4,s4_12),(5,vP b5 0),(6,vI ↑i)],[.gs 53 9 sA_13 PS.length cs_18,.var b5 50 cs_14,.gs 3 1 s4_12 IX.length cs_16,.var b2 50 cs2,.var b1 50 cs1],ma,(fG s).length-i)) (0,(List.replicate s.1.length (0:Int)),[],cs_9,v19,cs19,(.slice none 0 0),[],h3) ?_ ?_
 ·
  refine⟨MLe.refl _,?_⟩
  replace rl19:=rl19.mono hh3
  refine⟨rb_10,rl19,rl_11,rfl,?_⟩
  exact⟨by omega,rfl,rfl⟩
 intro x hx
 obtain⟨i,IX,PS,cs_14,s4_12,cs_16,sA_13,cs_18,ma⟩:=x
 dsimp only at hx
 obtain⟨hmma,hinv⟩:=hx
 refine yS ?_
 obtain⟨rb_15,rl_17,rl_19,ho_20,hinv⟩:=hinv
 obtain⟨hi1,hI,hP⟩:=hinv
 have hIl:IX.length=s.1.length:=by rw[hI];exact mC s i
 have hPl:PS.length=i:=by rw[hP];exact wJ _ _
 refine go9 ?_
 refine cnd (fun hc27=>?_) fun hc27=>?_
 ·
  refine go9 ?_
  refine lX (xI (0:Int) i underlying32 ty3 r15) fun v33 r33=>(lX (xA ty3 r33) fun v34 r34=>?_)
  obtain⟨rfl,hl34,hu34⟩:=jW r34
  refine go1 ?_
  refine gv ((yY (((fG s).getD i 0).toNat) mh2 underlying32 sizeOf3 rfl rfl (by(have:=oR (s:=s) (i:=s.1.length) (k:=i) (show i<(bM s s.1.length).length by show i<(fG s).length;omega);show _;have h2:0≤(fG s).getD i 0∧(fG s).getD i 0<↑s.1.length:=this;omega)) (by(have:=oR (s:=s) (i:=s.1.length) (k:=i) (show i<(bM s s.1.length).length by show i<(fG s).length;omega);show _;have h2:0≤(fG s).getD i 0∧(fG s).getD i 0<↑s.1.length:=this;omega)) nP).cv (show _=zK 1 s4_12 ((((fG s).getD i 0).toNat*1+0)) from congrArg (zK 1 s4_12) (by rfl))) rfl (gE (A:=[_,_]) (F:=fun c_=>RL rpI ma c_ (IX.set (((fG s).getD i 0).toNat) (↑i:Int))) (rQ sizeOf3 (Pc.arr (Pc.here _) (0:Int) (((fG s).getD i 0).toNat) (by(have:=oR (s:=s) (i:=s.1.length) (k:=i) (show i<(bM s s.1.length).length by show i<(fG s).length;omega);show _;have h2:0≤(fG s).getD i 0∧(fG s).getD i 0<↑s.1.length:=this;omega))) rfl nP rfl rfl rl_17 (qF oM oM) rfl) ?_)
  intro cs_21 rl_22
  refine go2 ?_
  refine jI (A:=[]) 13 [] [(0,.q),(1,.q),(2,.q),(3,.q),(4,.q),(5,.q),(6,.q),(7,.q),(8,.q),(9,.q),(10,.c),(11,.c),(12,.q),(13,.t)] jN nX (vG [0,1,0,4,0,0,48,64,136,256,512,1026,4095,8191] [16383,16382,16383,16379,16383,16383,16335,16319,16247,16127,15871,15357,16383,10239] (by kernel_rfl)) nX ?_
  refine go1 ?_
  refine wX rfl (aR (xB uT (Pc.fst pH) rb_15)) fun v38 r38=>?_
  subst r38
  refine go1 ?_
  refine wX rfl (xB uT (Pc.fst pH) rb1) fun v40 r40=>?_
  refine go2 ?_
  refine wX rfl (xI (0:Int) i underlying32 ty3 r15) fun v43 r43=>(wX rfl (xA ty3 r43) fun v44 r44=>?_)
  obtain⟨rfl,hl44,hu44⟩:=jW r44
  refine mZ (F:=fun v_=>AtP (tPt k) ma v_ (s.1.getD (((fG s).getD i 0).toNat) zT)) rfl (lI zT (((fG s).getD i 0).toNat) underlying46 zS rfl rfl r40 (by(have:=oR (s:=s) (i:=s.1.length) (k:=i) (show i<(bM s s.1.length).length by show i<(fG s).length;omega);show _;have h2:0≤(fG s).getD i 0∧(fG s).getD i 0<↑s.1.length:=this;omega)) (by(have:=oR (s:=s) (i:=s.1.length) (k:=i) (show i<(bM s s.1.length).length by show i<(fG s).length;omega);show _;have h2:0≤(fG s).getD i 0∧(fG s).getD i 0<↑s.1.length:=this;omega)) nP) zBI rfl ?_
  intro v45 r45
  refine wX rfl (xA zS r45) fun v46 r46=>?_
  refine w_c rfl (kU (fun X=>zV (ρ:=(tPt (k+1))) (m:=1) (xs:=[(s.1.getD (((fG s).getD i 0).toNat) zT)]) (ps':=[(0,_)]) underlying46 yV rfl rfl rfl (xW (yF oM)) e2z (zI rfl (Pc.arr (Pc.here _) zT 0 dC) (r46.le (Le.t (Le.q (l:=k+1) oM))) zX) (show 1*9≤16777216 from by decide) nP) rfl ?_)
  intro v47 q47 hq47
  obtain⟨cs47,rfl,rl47⟩:=hq47
  refine w_c rfl (vH (A:=[]) (ρ:=(tPt (k+1))) rl47 dK ?_)
  intro h4 hh4 rs_23
  replace rl_19:=rl_19.mono hh4
  refine sR (A:=[]) (fun X=>jM (yD (ρ:=(tPt (k+1))) (bytes:=168) underlying46 yV rfl rfl rfl rfl nP rfl rfl rl_19 rs_23 bO bO)) rfl (wM (by first|(simp;done)|grind)) ?_
  intro v48 q48 hq48
  obtain⟨ho48,cs48,rfl,rl48⟩:=hq48
  refine go1 ?_
  replace rb_15:=rb_15.mono hh4
  refine yI (A:=[_]) rfl (uB sizeOf46 (Pc.fst pH) rb_15 (zDD ho48)) fun cs_24 rb_25=>?_
  refine go8 ?_
  refine gqL ((i+1),(IX.set (((fG s).getD i 0).toNat) (↑i:Int)),(PS++[(s.1.getD (((fG s).getD i 0).toNat) zT)]),cs_24,s4_12,cs_21,v48,cs48,h4) ?_ ?_
  ·
   refine⟨(hmma.trans hh4),?_⟩
   replace rl_22:=rl_22.mono hh4
   refine⟨rb_25,rl_22,rl48,ho48,?_⟩
   exact⟨by omega,by rw[hI];rfl,by rw[hP];rfl⟩
  omega
 have ei:i=(fG s).length:=by omega
 refine go8 ?_
 refine yH (A:=[]) (ρ:=(tPt (k+1))) rl_19 ?_
 intro h4 hh4 rs_26
 replace rb_15:=rb_15.mono hh4
 have rb_27:(rpP (tLs (k+1)) (rpP rpV (rpS (rpP rpI (rpP rpI (rpQ (j+1))))))).R h4 cs_14 (PS,(sA_13,(Value.slice none 0 0,s.2.2)).2):=zZ9 rb_15 rs_26
 refine go4 ?_
 refine xQ 83 14 ?_
 have rl_28:RL (tFc (4*m+12) (m+n+12)) h4 [] ([]:List (Pq×((List (List Int))×(List Nat)))):=RL.nil
 replace rl_17:=rl_17.mono hh4
 refine zLO (A:=[_,_]) (ρ:=rpI) rl_17 ?_
 intro h5 hh5 rs_29
 refine gcL (ι:=Nat×List Fc×Value×List Value×Value×List Value×Mem) (fun(f,FS,u4_31,cs_33,sB_30,cs_35,mb)=>(MLe h5 mb∧((rpS rpI).Is mb u4_31 (ixZ s)∧(rpP (tLs (k+1)) (rpP rpV (rpS (rpP rpI (rpP rpI (rpQ (j+1))))))).R mb cs_33 (PS,(sB_30,s.2.2))∧RL (tFc (4*m+12) (m+n+12)) mb cs_35 FS∧sB_30.oneCell'=true∧f≤s.2.1.length∧FS=u6 s f),[(1,vP b1 0),(2,vP b2 0),(4,u4_31),(5,vP b5 0),(7,vI ↑f)],[.gs 83 14 sB_30 FS.length cs_35,.var b5 50 cs_33,.var b2 50 cs2,.var b1 50 cs1],mb,s.2.1.length-f)) (0,[],s4_12,cs_14,(.slice none 0 0),[],h5) ?_ ?_
 ·
  refine⟨MLe.refl _,?_⟩
  replace rb_27:=rb_27.mono hh5
  replace rl_28:=rl_28.mono hh5
  refine⟨(Rp.Is.cast rs_29 (by rw[hI,ei];rfl)),rb_27,rl_28,rfl,?_⟩
  exact⟨by omega,rfl⟩
 intro x hx
 obtain⟨f,FS,u4_31,cs_33,sB_30,cs_35,mb⟩:=x
 dsimp only at hx
 obtain⟨hmmb,hinv⟩:=hx
 refine yS ?_
 obtain⟨ru_32,rb_34,rl_36,ho_37,hinv⟩:=hinv
 obtain⟨hf1,hF⟩:=hinv
 have hFl:FS.length=f:=by rw[hF];exact zKY s f
 have hFa:=zRD hcd3 f hf1
 refine go5 ?_
 refine lX (xB tM (Pc.snd (Pc.fst pH)) rb1) fun v52 r52=>?_
 refine go4 ?_
 refine cnd (fun hc54=>?_) fun hc54=>?_
 ·
  refine go6 ?_
  refine lX (xB kF pH rb1) fun v57 r57=>?_
  refine go2 ?_
  refine cL (ev3 rfl rfl rfl) call128 (fun w hs=>zCT (f:=f) hs r57 ru_32 (by first|omega|exact hcd3|exact hnm f oM|exact mC s _) (by first|omega|exact hcd3|exact hnm f oM|exact mC s _) (by first|omega|exact hcd3|exact hnm f oM|exact mC s _) (by first|omega|exact hcd3|exact hnm f oM|exact mC s _) (by first|omega|exact hcd3|exact hnm f oM|exact mC s _) (by first|omega|exact hcd3|exact hnm f oM|exact mC s _) (by first|omega|exact hcd3|exact hnm f oM|exact mC s _)) fun v60 h6 hh6 r60=>(nA (ρ:=(tFc 1 1)) (X:=((zT,(0:Rat)),([],([]:List Nat)))) jA (yJ (yJ (xW (yF dC)) (yF dC)) (yJ qL kO)) fun b8 cs8 rb8=>?_)
  have rw_38:=(Le.p (Le.p (Le.t (Le.q (l:=4*m+11) oM)) (Le.q (l:=m+n+11) oM)) (Le.refl _)).R rb8
  refine zR (A:=[]) (uB sizeOf83 pH rw_38 r60) fun cs_39 rb_40=>?_
  refine go5 ?_
  refine lX (aR (xB tM (Pc.snd (Pc.fst pH)) rb_34)) fun v62 r62=>?_
  subst r62
  refine gv (gA mh1 underlying47 rfl) rfl ?_
  refine go5 ?_
  refine vC (ι:=Nat×Mem) (fun(kp,mk)=>MLe h6 mk∧(kp≤FS.length∧cW (zLA (nfF s (ixZ s) f) FS) FS.length=cW (zLA (nfF s (ixZ s) f) FS) kp)) (fun(kp,mk)=>[(1,vP b1 0),(2,vP b2 0),(4,u4_31),(5,vP b5 0),(7,vI ↑f),(8,vP b8 0),(9,vI ↑kp)]) (fun(kp,mk)=>[.var b8 83 cs_39,.gs 83 14 sB_30 FS.length cs_35,.var b5 50 cs_33,.var b2 50 cs2,.var b1 50 cs1]) (fun(kp,mk)=>mk) (fun(kp,mk)=>kp) (FS.length,h6) ?_ e7 rfl rfl ?_
  ·
   refine⟨MLe.refl _,?_⟩
   exact⟨by omega,rfl⟩
  intro x hx
  obtain⟨kp,mk⟩:=x
  obtain⟨hmmk,hinv⟩:=hx
  refine yS ?_
  obtain⟨hk5,hk6⟩:=hinv
  refine go2 ?_
  refine gD 12 (qq 0 10 [(10,.c),(11,.q)]) (vG [0,1,2,4,4,20,4,68,164,260,524,1028] (frz 4095 [0,1,2,4,4,20,4,68,164,260,524,1028]) (by kernel_rfl)) ?_
  refine go3 ?_
  refine gS ((0:Int)<(↑kp:Int)) (fun hg_41=>?_) (fun hg_41=>?_)
  ·
   rw[xL hg_41]
   refine oX rfl (xB fR pH rb_40) fun v67 r67=>?_
   refine go1 ?_
   refine oX rfl (aR (xB tM (Pc.snd (Pc.fst pH)) rb_34)) fun v69 r69=>?_
   subst r69
   refine yM rfl rfl rfl (fun h' L' hh hR=>yW rfl) rfl ?_
   refine go1 ?_
   refine yM rfl rfl rfl (fun h' L' hh hR=>(yY (kp-1) (hR _ mh1) underlying47 sizeOf83 rfl rfl oM oM nP).cv (show _=zK 1 sB_30 (((kp-1)*14+0)) from congrArg (zK 1 sB_30) (by rfl))) rfl ?_
   replace rl_36:=rl_36.mono (hh6.trans hmmk)
   refine aC (F:=fun v_=>(tFc (4*m+12) (m+n+12)).Is mk v_ (FS.getD (kp-1) zA)) rfl rfl rfl (wV fR (Pc.arr (Pc.here _) zA (kp-1) oM) rfl nP rfl rl_36 rfl) (tT mh1) rfl ?_
   intro v73 r73
   refine w_c rfl (rK rfl rfl (sC (ev2 rfl rfl) call129 (fun w hs=>zGE hs r67 r73 (by first|omega|exact Nat.le_trans (zC2 hcd3 oM) dC|exact Nat.le_trans (hFa _ (by rw[hF];exact pR (by rw[←hF];omega))) dC) (by first|omega|exact Nat.le_trans (zC2 hcd3 oM) dC|exact Nat.le_trans (hFa _ (by rw[hF];exact pR (by rw[←hF];omega))) dC)) fun v74 h7 hh7 r74=>?_))
   obtain rfl:v74=vB (lsF (nfF s (ixZ s) f) (FS.getD (kp-1) zA)):=r74
   refine go3 ?_
   refine cnd (fun hc75=>?_) fun hc75=>?_
   ·
    refine go9 ?_
    refine yQ ((kp-1),h7) ?_ ?_ ⟨rfl,rfl,rfl,rfl,rfl,rfl,?_,trivial⟩ rfl rfl
    ·
     refine⟨(hmmk.trans hh7),?_⟩
     exact⟨by omega,by rw[hk6];exact zLS oM hc75⟩
    ·
     dsimp only
     omega
    · exact congrArg (fun z=>some (vI z)) oM
   refine go8 ?_
   refine lX (aR (xB tM (Pc.snd (Pc.fst pH)) rb_34)) fun v79 r79=>?_
   subst r79
   refine lX (xV (ρ:=(tFc 1 1)) (wC (ps':=[]) underlying83 jA rfl rfl (lG underlying83) trivial rfl (yJ (yJ (xW (yF dC)) (yF dC)) (yJ qL kO)) zX)) fun v80 r80=>(zF (zV (ρ:=(tFc 1 1)) (m:=1) (xs:=[((zT,(0:Rat)),([],([]:List Nat)))]) (ps':=[(0,_)]) underlying47 jA rfl rfl rfl (yJ (yJ (xW (yF dC)) (yF dC)) (yJ qL kO)) e2z (zI rfl (Pc.arr (Pc.here _) zA 0 dC) r80 zX) (show 1*14≤16777216 from by decide) nP) rfl rfl rfl ?_)
   intro v81 q81 hq81
   obtain⟨cs81,rfl,rl81⟩:=hq81
   refine yH (A:=[]) (ρ:=(tFc 1 1)) rl81 ?_
   intro h8 hh8 rs_42
   replace rl_36:=rl_36.mono (hh7.trans hh8)
   refine xS (A:=[_]) (jM (yD (ρ:=(tFc (4*m+12) (m+n+12))) (bytes:=264) underlying47 jA rfl rfl rfl rfl nP rfl rfl rl_36 (rs_42.le (Le.s (Le.p (Le.p (Le.t (Le.q (l:=4*m+12) oM)) (Le.q (l:=m+n+12) oM)) (Le.refl _)))) bO bO)) rfl rfl rfl ?_
   intro v82 q82 hq82
   obtain⟨ho82,cs82,rfl,rl82⟩:=hq82
   refine go1 ?_
   refine zR (A:=[_,_]) (uB sizeOf47 (Pc.snd (Pc.fst pH)) rb_34 (zDD ho82)) fun cs_43 rb_44=>?_
   refine go3 ?_
   refine bS (A:=[_]) (by rw[lAz];exact Nat.succ_pos _) (fun ob cap hsv hsc=>?_)
   refine jI (A:=[_]) 10 [] [(0,.q),(1,.q),(2,.q),(3,.q),(4,.q),(5,.q),(6,.q),(7,.q),(8,.q),(9,.c)] jN nX (by kernel_rfl) nX ?_
   refine go1 ?_
   refine wX rfl (aR (xB tM (Pc.snd (Pc.fst pH)) rb_44)) fun v85 r85=>?_
   subst r85
   refine go2 ?_
   refine xJ rfl (fun _ _=>qH (kp+1) underlying47 sizeOf83 rfl rfl ⟨_,_,hsv,hsc⟩ oM (by simp only[lAz,lC,lN];omega)) rfl ?_
   refine go1 ?_
   refine wX rfl (aR (xB tM (Pc.snd (Pc.fst pH)) rb_44)) fun v90 r90=>?_
   subst r90
   refine go1 ?_
   refine xJ rfl (fun _ _=>qH kp underlying47 sizeOf83 rfl rfl ⟨_,_,hsv,hsc⟩ oM (by simp only[lAz,lC,lN];omega)) rfl ?_
   refine w_c rfl (sR (A:=[_]) (fun X=>lD (ρ:=(tFc (4*m+12) (m+n+12))) kp hsv hsc underlying47 sizeOf83 rfl rfl (by simp only[lAz,lC,lN];omega) rl82) rfl (wM (by first|(simp;done)|grind)) ?_)
   intro v93 q93 hq93
   obtain⟨cs_45,rfl,rl_46⟩:=hq93
   refine go4 ?_
   refine lX (aR (xB tM (Pc.snd (Pc.fst pH)) rb_44)) fun v95 r95=>?_
   subst r95
   refine go1 ?_
   refine lX (xB fR pH rb_40) fun v97 r97=>(gv ((yY kp mh1 underlying47 sizeOf83 rfl rfl oM (by rw[kZ (by simp only[lAz,lC,lN];omega)];simp only[lAz,lC,lN];omega) nP).cv (show _=zK 1 v82 ((kp*14+0)) from congrArg (zK 1 v82) (by rfl))) rfl (gE (A:=[_]) (F:=fun c_=>RL (tFc (4*m+12) (m+n+12)) h8 c_ ((fT (FS++[((zT,(0:Rat)),([],([]:List Nat)))]) kp).set kp (nfF s (ixZ s) f))) (rQ sizeOf83 (Pc.arr (Pc.here _) zA kp (by rw[kZ (by simp only[lAz,lC,lN];omega)];simp only[lAz,lC,lN];omega)) rfl nP rfl rfl rl_46 (r97.le (Le.p (Le.p (Le.t (Le.q (l:=4*m+12) oM)) (Le.q (l:=m+n+12) oM)) (Le.refl _))) rfl) ?_))
   intro cs_47 rl_48
   refine go8 ?_
   refine vV (A:=[]) ?_
   refine yQ ((f+1),((fT (FS++[((zT,(0:Rat)),([],([]:List Nat)))]) kp).set kp (nfF s (ixZ s) f)),u4_31,cs_43,v82,cs_47,h8) ?_ ?_ e5 rfl rfl
   ·
    refine⟨((((hmmb.trans hh6).trans hmmk).trans hh7).trans hh8),?_⟩
    replace ru_32:=ru_32.mono (((hh6.trans hmmk).trans hh7).trans hh8)
    refine⟨ru_32,rb_44,rl_48,ho82,?_⟩
    exact⟨by omega,by rw[aX oM];have hkk:cW (zLA (nfF s (ixZ s) f) FS) FS.length=kp:=by{rw[hk6];exact zDO (fun e=>by first|omega|exact hc75 e.2)};rw[←hkk,hF];rfl⟩
   dsimp only
   omega
  rw[yU hg_41]
  refine go7 ?_
  refine w_c rfl (y9 rfl rfl rfl rfl ?_)
  refine uN ?_
  refine lX (aR (xB tM (Pc.snd (Pc.fst pH)) rb_34)) fun v79 r79=>?_
  subst r79
  refine lX (xV (ρ:=(tFc 1 1)) (wC (ps':=[]) underlying83 jA rfl rfl (lG underlying83) trivial rfl (yJ (yJ (xW (yF dC)) (yF dC)) (yJ qL kO)) zX)) fun v80 r80=>(zF (zV (ρ:=(tFc 1 1)) (m:=1) (xs:=[((zT,(0:Rat)),([],([]:List Nat)))]) (ps':=[(0,_)]) underlying47 jA rfl rfl rfl (yJ (yJ (xW (yF dC)) (yF dC)) (yJ qL kO)) e2z (zI rfl (Pc.arr (Pc.here _) zA 0 dC) r80 zX) (show 1*14≤16777216 from by decide) nP) rfl rfl rfl ?_)
  intro v81 q81 hq81
  obtain⟨cs81,rfl,rl81⟩:=hq81
  refine yH (A:=[]) (ρ:=(tFc 1 1)) rl81 ?_
  intro h7 hh7 rs_49
  replace rl_36:=rl_36.mono ((hh6.trans hmmk).trans hh7)
  refine xS (A:=[_]) (jM (yD (ρ:=(tFc (4*m+12) (m+n+12))) (bytes:=264) underlying47 jA rfl rfl rfl rfl nP rfl rfl rl_36 (rs_49.le (Le.s (Le.p (Le.p (Le.t (Le.q (l:=4*m+12) oM)) (Le.q (l:=m+n+12) oM)) (Le.refl _)))) bO bO)) rfl rfl rfl ?_
  intro v82 q82 hq82
  obtain⟨ho82,cs82,rfl,rl82⟩:=hq82
  refine go1 ?_
  refine zR (A:=[_,_]) (uB sizeOf47 (Pc.snd (Pc.fst pH)) rb_34 (zDD ho82)) fun cs_50 rb_51=>?_
  refine go3 ?_
  refine bS (A:=[_]) (by rw[lAz];exact Nat.succ_pos _) (fun ob cap hsv hsc=>?_)
  refine jI (A:=[_]) 10 [] [(0,.q),(1,.q),(2,.q),(3,.q),(4,.q),(5,.q),(6,.q),(7,.q),(8,.q),(9,.c)] jN nX (by kernel_rfl) nX ?_
  refine go1 ?_
  refine wX rfl (aR (xB tM (Pc.snd (Pc.fst pH)) rb_51)) fun v85 r85=>?_
  subst r85
  refine go2 ?_
  refine xJ rfl (fun _ _=>qH (kp+1) underlying47 sizeOf83 rfl rfl ⟨_,_,hsv,hsc⟩ oM (by simp only[lAz,lC,lN];omega)) rfl ?_
  refine go1 ?_
  refine wX rfl (aR (xB tM (Pc.snd (Pc.fst pH)) rb_51)) fun v90 r90=>?_
  subst r90
  refine go1 ?_
  refine xJ rfl (fun _ _=>qH kp underlying47 sizeOf83 rfl rfl ⟨_,_,hsv,hsc⟩ oM (by simp only[lAz,lC,lN];omega)) rfl ?_
  refine w_c rfl (sR (A:=[_]) (fun X=>lD (ρ:=(tFc (4*m+12) (m+n+12))) kp hsv hsc underlying47 sizeOf83 rfl rfl (by simp only[lAz,lC,lN];omega) rl82) rfl (wM (by first|(simp;done)|grind)) ?_)
  intro v93 q93 hq93
  obtain⟨cs_52,rfl,rl_53⟩:=hq93
  refine go4 ?_
  refine lX (aR (xB tM (Pc.snd (Pc.fst pH)) rb_51)) fun v95 r95=>?_
  subst r95
  refine go1 ?_
  refine lX (xB fR pH rb_40) fun v97 r97=>(gv ((yY kp mh1 underlying47 sizeOf83 rfl rfl oM (by rw[kZ (by simp only[lAz,lC,lN];omega)];simp only[lAz,lC,lN];omega) nP).cv (show _=zK 1 v82 ((kp*14+0)) from congrArg (zK 1 v82) (by rfl))) rfl (gE (A:=[_]) (F:=fun c_=>RL (tFc (4*m+12) (m+n+12)) h7 c_ ((fT (FS++[((zT,(0:Rat)),([],([]:List Nat)))]) kp).set kp (nfF s (ixZ s) f))) (rQ sizeOf83 (Pc.arr (Pc.here _) zA kp (by rw[kZ (by simp only[lAz,lC,lN];omega)];simp only[lAz,lC,lN];omega)) rfl nP rfl rfl rl_53 (r97.le (Le.p (Le.p (Le.t (Le.q (l:=4*m+12) oM)) (Le.q (l:=m+n+12) oM)) (Le.refl _))) rfl) ?_))
  intro cs_54 rl_55
  refine go8 ?_
  refine vV (A:=[]) ?_
  refine yQ ((f+1),((fT (FS++[((zT,(0:Rat)),([],([]:List Nat)))]) kp).set kp (nfF s (ixZ s) f)),u4_31,cs_50,v82,cs_54,h7) ?_ ?_ e5 rfl rfl
  ·
   refine⟨(((hmmb.trans hh6).trans hmmk).trans hh7),?_⟩
   replace ru_32:=ru_32.mono ((hh6.trans hmmk).trans hh7)
   refine⟨ru_32,rb_51,rl_55,ho82,?_⟩
   exact⟨by omega,by rw[aX oM];have hkk:cW (zLA (nfF s (ixZ s) f) FS) FS.length=kp:=by{rw[hk6];exact zDO (fun e=>by first|omega|exact hc75 e.2)};rw[←hkk,hF];rfl⟩
  dsimp only
  omega
 have ef:f=s.2.1.length:=by omega
 refine go7 ?_
 refine lX (xB kF pH rb_34) fun v99 r99=>?_
 replace rb2:=rb2.mono ((((((hh1.trans hh2).trans hh3).trans hmma).trans hh4).trans hh5).trans hmmb)
 have rw_56:=(Le.p (Le.s (Le.t (Le.q (l:=k+1) oM))) (Le.p (Le.refl _) (Le.s (Le.p (Le.refl _) (Le.p (Le.refl _) (Le.q (l:=j+1) oM)))))).R rb2
 refine zR (A:=[_,_]) (uB sizeOf50 pH rw_56 r99) fun cs_57 rb_58=>?_
 refine go3 ?_
 have hFS:FS=nrF s:=by rw[hF,ef];exact(if_pos hsn).symm
 have hPS:PS=nrP s:=by rw[hP,ei];exact(if_pos hsn).symm
 subst hFS
 subst hPS
 refine wL (jZ (t:=2) kF mh2 rfl rb_58) ?_
 intro w_59 hvw_59 rr_60
 refine gY (.cons_cons _ (List.nil_sublist _)) (fun E S=>zP rfl hvw_59 E S) ?_
 exact⟨_,_,(Rp.Is.cast rr_60 (by rw[show nrE s=s.2.2 from if_pos hsn])),rfl,ho_37,rl_36⟩
end Go.Proofs.YtboaboflnckgoaaGreat
namespace Bk
set_option linter.unusedVariables false
set_option linter.unusedSimpArgs false
open Classical
def zJQ(p q:Pt):Prop:=p.x=q.x∧p.y=q.y
noncomputable def j8(B:List Pt)(p:Pt):Nat→Int
  |0=>-1
  |j+1=>if zJQ (B.getD j zT) p then(j:Int) else j8 B p j
theorem zDI(B:List Pt)(p:Pt):∀j,-1≤j8 B p j∧j8 B p j<j∨(j=0∧j8 B p j= -1)
  |0=>.inr ⟨rfl,rfl⟩
  |j+1=>by
   have h:=zDI B p j
   unfold j8
   split
   · exact .inl (by omega)
   · exact .inl (by omega)
theorem fd_t{B:List Pt}{p:Pt}{j:Nat}(h:zJQ (B.getD j zT) p):(j:Int)=j8 B p (j+1):=(if_pos h).symm
theorem zZK{B:List Pt}{p:Pt}{j:Nat}(h:¬zJQ (B.getD j zT) p):j8 B p j=j8 B p (j+1):=(if_neg h).symm
noncomputable def fdZ(B:List Pt)(p:Pt):Int:=j8 B p B.length
noncomputable def adB(B:List Pt)(p:Pt):List Pt:=if fdZ B p<0 then B++[p] else B
noncomputable def adN(B:List Pt)(p:Pt):Int:=if fdZ B p<0 then(B.length:Int) else fdZ B p
noncomputable def plB(B:List Pt)(x:List Pt):Nat→List Pt
  |0=>B
  |k+1=>adB (plB B x k) (x.getD k zT)
noncomputable def plN(B:List Pt)(x:List Pt):Nat→List Int:=uW fun k=>adN (plB B x k) (x.getD k zT)
noncomputable def ptB(L:List (List Pt)):Nat→List Pt
  |0=>[]
  |i+1=>plB (ptB L i) (L.getD i []) (L.getD i []).length
noncomputable def ptN(L:List (List Pt)):Nat→List (List Int):=uW fun i=>plN (ptB L i) (L.getD i []) (L.getD i []).length
def g6(L:List (List Pt)):Nat→Nat
  |0=>0
  |i+1=>g6 L i+(L.getD i []).length
theorem zV0(B:List Pt)(p:Pt):(adB B p).length≤B.length+1:=by
  unfold adB;split
  · rw[lAz,List.length_singleton];exact Nat.le_refl _
  · omega
theorem zF0(B x:List Pt):∀k,(plB B x k).length≤B.length+k
  |0=>Nat.le_refl _
  |k+1=>by
   have h1:=zF0 B x k
   have h2:=zV0 (plB B x k) (x.getD k zT)
   show(adB _ _).length≤_
   omega
theorem zL8(L:List (List Pt)):∀i,(ptB L i).length≤g6 L i
  |0=>Nat.le_refl _
  |i+1=>by
   have h1:=zL8 L i
   have h2:=zF0 (ptB L i) (L.getD i []) (L.getD i []).length
   show(plB _ _ _).length≤g6 L i+_
   omega
theorem zWO{L:List (List Pt)}(h:∀m,m<L.length→(L.getD m []).length≤64):∀i,i≤L.length→g6 L i≤64*i
  |0,_=>Nat.le_refl _
  |i+1,hi=>by
   have h1:=zWO h i (by omega)
   have h2:=h i (by omega)
   show g6 L i+_≤_
   omega
theorem zUX{L:List (List Pt)}(h:vS L 0 1=0):L.length≤16∧∀m,m<L.length→(L.getD m []).length≤64:=by
  unfold vS at h
  split at h
  · omega
  · rename_i h1
    exact⟨Nat.not_lt.1 fun e=>h1 (.inl e),fun m hm=>Nat.not_lt.1 fun e=>h1 (.inr ⟨m,hm,e⟩)⟩
section
variable (L:List (List Pt))(lo hi:Rat)
noncomputable def bsZ:List Pt:=ptB L L.length
noncomputable def bxZ:List (List Int):=ptN L L.length
noncomputable def zQQ:Nat→List Pt:=uW fun i=>T3.mk ((bsZ L).getD (i%(bsZ L).length) zT).x ((bsZ L).getD (i%(bsZ L).length) zT).y (if((bsZ L).length:Int)≤(i:Int) then hi else lo)
noncomputable def ppZ:List Pt:=zQQ L lo hi (2*(bsZ L).length)
noncomputable def zZY:Nat→List (List Int):=uW fun i=>zJ0 ((bxZ L).getD i []) ((bxZ L).getD i []).length
noncomputable def tpL(i:Nat):Nat→List Int:=uW fun k=>((bxZ L).getD i []).getD k 0+((bsZ L).length:Int)
noncomputable def zXF:Nat→List (List Int):=uW fun i=>tpL L i ((bxZ L).getD i []).length
noncomputable def nmS(i k:Nat):List Nat:=[115]++jE (((i:Int):Int):Rat)++[46]++jE (((k:Int):Int):Rat)
noncomputable def sdA(i k:Nat):Int:=((bxZ L).getD i []).getD k 0
noncomputable def sdB(i k:Nat):Int:=((bxZ L).getD i []).getD ((k+1)%((bxZ L).getD i []).length) 0
noncomputable def sdN(i k:Nat):Pt:=T3.mk (((ppZ L lo hi).getD (sdB L i k).toNat zT).y-((ppZ L lo hi).getD (sdA L i k).toNat zT).y) (-(((ppZ L lo hi).getD (sdB L i k).toNat zT).x-((ppZ L lo hi).getD (sdA L i k).toNat zT).x)) (0:Rat)
noncomputable def sdF(i k:Nat):Fc:=((sdN L lo hi i k,jG (sdN L lo hi i k) ((ppZ L lo hi).getD (sdA L i k).toNat zT)),[[sdA L i k,sdB L i k,sdB L i k+((bsZ L).length:Int),sdA L i k+((bsZ L).length:Int)]],nmS i k)
noncomputable def sfX(i:Nat):Nat→List Fc:=uW fun k=>sdF L lo hi i k
noncomputable def zNS:Nat→List Fc:=cE fun i=>sfX L lo hi i ((bxZ L).getD i []).length
noncomputable def btF:Fc:=((T3.mk (0:Rat) (0:Rat) (-((1:Int):Rat)),-lo),zZY L (bxZ L).length,[98,111,116,116,111,109])
noncomputable def tpF:Fc:=((T3.mk (0:Rat) (0:Rat) ((1:Int):Rat),hi),zXF L (bxZ L).length,[116,111,112])
noncomputable def prR:Sd:=(ppZ L lo hi,zNS L lo hi (bxZ L).length++[btF L lo,tpF L hi],[])
def prB:Prop:=512<2*(bsZ L).length∨256<g6 L L.length+2
noncomputable def prE:Int:=if ¬vS L 0 1=0 then vS L 0 1 else if ¬ouZ L=1 then 33 else if 0≤wG lo hi then 9 else if prB L then 2 else 0
noncomputable def prP:List Pt:=if prE L lo hi=0 then nrP (prR L lo hi) else[]
noncomputable def prF:List Fc:=if prE L lo hi=0 then nrF (prR L lo hi) else[]
end
section
variable {L:List (List Pt)}{lo hi:Rat}
theorem pr_0(h1:vS L 0 1=0)(h2:ouZ L=1)(h3:¬0≤wG lo hi)(h4:¬prB L):prE L lo hi=0∧prP L lo hi=nrP (prR L lo hi)∧prF L lo hi=nrF (prR L lo hi):=by
  have e:prE L lo hi=0:=by unfold prE;rw[if_neg (fun e=>e h1),if_neg (fun e=>e h2),if_neg h3,if_neg h4]
  exact⟨e,if_pos e,if_pos e⟩
theorem zL9{n:Int}(h:prE L lo hi=n)(hn:¬n=0):prE L lo hi=n∧prP L lo hi=[]∧prF L lo hi=[]:=⟨h,if_neg (by rw[h];exact hn),if_neg (by rw[h];exact hn)⟩
theorem pr_1(h1:¬vS L 0 1=0):prE L lo hi=vS L 0 1∧prP L lo hi=[]∧prF L lo hi=[]:=zL9 (if_pos h1) h1
theorem yA0(h1:vS L 0 1=0)(h2:¬ouZ L=1):prE L lo hi=33∧prP L lo hi=[]∧prF L lo hi=[]:=zL9 (by unfold prE;rw[if_neg (fun e=>e h1),if_pos h2]) (by decide)
theorem pr_9(h1:vS L 0 1=0)(h2:ouZ L=1)(h3:0≤wG lo hi):prE L lo hi=9∧prP L lo hi=[]∧prF L lo hi=[]:=zL9 (by unfold prE;rw[if_neg (fun e=>e h1),if_neg (fun e=>e h2),if_pos h3]) (by decide)
theorem pr_2(h1:vS L 0 1=0)(h2:ouZ L=1)(h3:¬0≤wG lo hi)(h4:prB L):prE L lo hi=2∧prP L lo hi=[]∧prF L lo hi=[]:=zL9 (by unfold prE;rw[if_neg (fun e=>e h1),if_neg (fun e=>e h2),if_neg h3,if_pos h4]) (by decide)
theorem zO9(B:List Pt)(p:Pt):0≤adN B p∧adN B p<(adB B p).length:=by
  have h:=zDI B p B.length
  unfold adN adB fdZ
  split
  · rw[lAz,List.length_singleton];omega
  · omega
theorem zZ6(B:List Pt)(p:Pt):B.length≤(adB B p).length:=by
  unfold adB;split
  · rw[lAz];omega
  · omega
theorem zQT(B x:List Pt){k n:Nat}(h:k≤n):(plB B x k).length≤(plB B x n).length:=by
  induction n with
  |zero=>rw[show k=0 by omega];exact Nat.le_refl _
  |succ n ih=>
   rcases Nat.lt_or_ge k (n+1) with h1|h1
   · exact Nat.le_trans (ih (by omega)) (zZ6 _ _)
   · rw[show k=n+1 by omega];exact Nat.le_refl _
theorem zX8{i n:Nat}(h:i≤n):(ptB L i).length≤(ptB L n).length:=by
  induction n with
  |zero=>rw[show i=0 by omega];exact Nat.le_refl _
  |succ n ih=>
   rcases Nat.lt_or_ge i (n+1) with h1|h1
   · exact Nat.le_trans (ih (by omega)) (zQT (ptB L n) (L.getD n []) (k:=0) (Nat.zero_le _))
   · rw[show i=n+1 by omega];exact Nat.le_refl _
theorem zZX:(bxZ L).length=L.length:=wJ _ _
theorem zSW{i:Nat}(h:i<L.length):(bxZ L).getD i []=plN (ptB L i) (L.getD i []) (L.getD i []).length:=rD _ _ h
theorem zGY{i:Nat}(h:i<L.length):((bxZ L).getD i []).length=(L.getD i []).length:=by rw[zSW h];exact wJ _ _
theorem zSV{i k:Nat}(h:i<L.length)(hk:k<((bxZ L).getD i []).length):0≤((bxZ L).getD i []).getD k 0∧((bxZ L).getD i []).getD k 0<↑(bsZ L).length:=by
  rw[zGY h] at hk
  rw[zSW h]
  unfold plN
  rw[rD _ _ hk]
  obtain⟨h1,h2⟩:=zO9 (plB (ptB L i) (L.getD i []) k) ((L.getD i []).getD k zT)
  have h3:=zQT (ptB L i) (L.getD i []) (show k+1≤(L.getD i []).length from hk)
  have h4:=zX8 (L:=L) (show i+1≤L.length from h)
  have h5:(plB (ptB L i) (L.getD i []) (k+1)).length=(adB (plB (ptB L i) (L.getD i []) k) ((L.getD i []).getD k zT)).length:=rfl
  have h6:(ptB L (i+1)).length=(plB (ptB L i) (L.getD i []) (L.getD i []).length).length:=rfl
  have h7:(bsZ L).length=(ptB L L.length).length:=rfl
  exact⟨h1,by omega⟩
theorem zX9:(ppZ L lo hi).length=2*(bsZ L).length:=wJ _ _
theorem zP1{n:Nat}(hn:n≤L.length):(zNS L lo hi n).length=g6 L n:=by
  induction n with
  |zero=>rfl
  |succ n ih=>
   show List.length (zNS L lo hi n++sfX L lo hi n ((bxZ L).getD n []).length)=g6 L n+_
   rw[lAz,ih (by omega),show(sfX L lo hi n ((bxZ L).getD n []).length).length=_ from wJ _ _,zGY (by omega)]
end
end Bk
namespace Bk
set_option linter.unusedVariables false
set_option linter.unusedSimpArgs false
open Go Go.RowKit
section
variable {P:Program}{n:Nat}{w0:World}{h0:Mem}{e:List (Nat×Value)}{L:List Res}{h:Mem}{Q:Exit→Act→World→Prop}{ds:Option Tmp}{ty:TypeId}{ps:String}{af:Array Edge}{gd:Option (Nat×Bool)}{α β:Type}
variable {E:TypeId}{cs:List Value}{v:Value}{ρ:Rp α}{σ:Rp β}{g:List α→β}{s:List α→β→List α}{xs:List α}{off k:Nat}
theorem zF9{w:World}{h':Mem}(hm:.gs E ρ.n v xs.length cs∈L)(pc:Pc (rpA xs.length ρ) off σ g s)(hp:0<σ.n)(r:RL ρ h cs xs)(S:St w0 h0 L h' w):
    ∃b o',∀d,zK 1 v (off+d)=vP b (o'+off+d):=by
  have hf:off+σ.n≤xs.length*ρ.n:=pc.fits
  have hl:=r.len
  obtain⟨b,o',e1,e2,_⟩:=zHA (l:=1) (zF4 hm S) (by decide) (show off+1≤cs.length by omega)
  refine⟨b,o',fun d=>?_⟩
  rw[e2]
  simp[zK,qY,Nat.add_assoc]
theorem sI{x:Operand}(pc:Pc (rpA xs.length ρ) off σ g s)(hk:k=off)(hp:0<σ.n)(r:RL ρ h cs xs)(hm:.gs E ρ.n v xs.length cs∈L)(hx:zJ e x=some (zK 1 v k)):
    OpV P n w0 h0 ⟨ds,.nilCheck x,ty,ps,af,gd⟩ e L h (zK 1 v k):=by
  subst hk
  intro a w Ev S
  obtain⟨b,o',H⟩:=zF9 hm pc hp r S
  have H0:=H 0
  rw[Nat.add_zero,Nat.add_zero] at H0
  rw[H0] at hx ⊢
  exact fU hx a w Ev S
theorem gW{t:TypeId}{x:Operand}{f:Nat}{fs:Array Field}{fl:Field}{m:Nat}(pc:Pc (rpA xs.length ρ) off σ g s)(hk:k=off)(hp:0<σ.n)(r:RL ρ h cs xs)(hm:.gs E ρ.n v xs.length cs∈L)(ht:P.underlying t=some (.struct fs))(hf:fs[f]?=some fl)(hsz:∀w,(Go.sizeOf fl.type).run P w=.ok (m+1) w)(hx:zJ e x=some (zK 1 v k)):
    OpV P n w0 h0 ⟨ds,.fieldAddr t x f,ty,ps,af,gd⟩ e L h (zK 1 v (k+fl.offset)):=by
  subst hk
  intro a w Ev S
  obtain⟨b,o',H⟩:=zF9 hm pc hp r S
  have H0:=H 0
  rw[Nat.add_zero,Nat.add_zero] at H0
  rw[H]
  rw[H0] at hx
  exact xU ht hf hsz hx a w Ev S
theorem tG{t E':TypeId}{x y:Operand}{m sz:Nat}{q:Int}(i:Nat)(pc:Pc (rpA xs.length ρ) off σ g s)(hk:k=off)(hp:0<σ.n)(r:RL ρ h cs xs)(hm:.gs E ρ.n v xs.length cs∈L)(ht:P.underlying t=some (.array m E'))(hsz:∀w,(Go.sizeOf E').run P w=.ok sz w)(hx:zJ e x=some (zK 1 v k))(hy:zJ e y=some (vI q))(hq:q=(i:Int))(hi:i<m):
    OpV P n w0 h0 ⟨ds,.indexAddr t x y,ty,ps,af,gd⟩ e L h (zK 1 v (k+i*sz)):=by
  subst hk
  intro a w Ev S
  obtain⟨b,o',H⟩:=zF9 hm pc hp r S
  have H0:=H 0
  rw[Nat.add_zero,Nat.add_zero] at H0
  rw[H]
  rw[H0] at hx
  exact zW i ht hsz hx hy hq hi a w Ev S
end
end Bk
namespace Go.Proofs.YtboaboflnckgoaaGreat
open Bk Go Tryz
set_option linter.unusedVariables false
set_option linter.unusedSimpArgs false
set_option maxRecDepth 10000
set_option maxHeartbeats 1000000
attribute [local irreducible] GL GC GQ W OpV
theorem uF{w0:World}{h0:Mem}(hs:MLe h0 (mem w0)){n:Int}(hn1:-9223372036854775808≤n)(hn2:n<9223372036854775808):
    Calls Tryz.prog 126 #[vI n] w0 (Ret w0 h0 (fun h r=>cH.Is h r (jE ((n:Int):Rat)))):=by
 refine cb1 6 (vI n) func126 hs ?_
 refine zL (zE (asg rfl rfl (zQ (zH (zL (zE (mv rfl rfl (cL (ev1 rfl) call39 (fun w hs=>jR hs oM oM) fun v4 h1 hh1 r4=>?_))))))))
 obtain⟨vn4_1,vd4_1,hv4_1,hn4_1,hd4_1,hlq4_1⟩:=qI r4
 subst hv4_1
 refine cL (ev1 rfl) call173 (fun w hs=>zNT hs hn4_1 hd4_1 oM) fun v5 h2 hh2 hr5=>?_
 subst hr5
 have htl5:=zB5 ((n:Int):Rat)
 refine asg rfl rfl (zQ (zH (bR (zD rfl rfl ?_))))
 exact(bQ (zSU ((n:Int):Rat)))
set_option maxHeartbeats 1000000 in
theorem zOE{w0:World}{h0:Mem}(hs:MLe h0 (mem w0)){k l1 l2:Nat}{vL:Value}{L:(List (List Tq))}(rL:(tLL k).Is h0 vL L){vlo:Value}{lo:Rat}(rlo:(rpQ l1).Is h0 vlo lo){vhi:Value}{hi:Rat}(rhi:(rpQ l2).Is h0 vhi hi)(hcd0:k≤20)(hcd1:l1≤20)(hcd2:l2≤20)(hcd3:∀x,x∈L→nG x)(hcd4:prE L lo hi=0→okS (prR L lo hi)):
    Calls Tryz.prog 81 #[vL,vlo,vhi] w0 (sQ w0 h0 (fun h r L_=>∃u0 vF cs,r=.tuple #[u0,vI (prE L lo hi)]∧(rpP (tLs (k+l1+l2+20)) (rpP rpV (rpS (rpP rpI (rpP rpI (rpQ 5)))))).Is h u0 (prP L lo hi,(vF,[]))∧L_=[.gs 83 14 vF (prF L lo hi).length cs]∧vF.oneCell'=true∧RL (tFc (1000*k+1000*l1+1000*l2+2000) (1000*k+1000*l1+1000*l2+2000)) h cs (prF L lo hi))):=by
 refine cb3 341 vL vlo vhi func81 hs ?_
 refine zL (zE (nB rlo fun b4 cs4 rb4=>(nB rhi fun b5 cs5 rb5=>(nA (ρ:=(rpP (tLs 1) (rpP rpV (rpS (rpP rpI (rpP rpI (rpQ 1))))))) (X:=([],((Value.slice none 0 0),[]))) tO (yJ qL (yJ cJ qL)) fun b6 cs6 rb6=>(asg (v:=vI (0)) rfl rfl (zQ (zH (zL (zL (zE (mv rfl rfl (cL (ev1 rfl) call123 (fun w hs=>zEW hs rL (by first|omega|exact hcd3) (by first|omega|exact hcd3)) fun v36 h1 hh1 r36=>?_))))))))))))
 obtain⟨v36_0,rfl,r36_0⟩:=r36
 change (rpS rpI).Is h1 v36_0 (fX L 0 1) at r36_0
 refine mv rfl rfl (gv (kP (vs:=[_,_]) rfl rfl) rfl (gv (kP (vs:=[_,_]) rfl rfl) rfl (asg rfl rfl (asg rfl rfl (zQ (zH (zL (zE (mv rfl rfl (gv (lL (q:=0) rfl rfl) rfl (zQ (wT (e':=[(0,_),(4,_),(5,_),(6,_),(9,_),(40,_)]) e6z (zH ?_)))))))))))))
 refine cnd (fun hc40=>?_) fun hc40=>?_
 ·
  refine zL (zE (lX (xV (ρ:=(rpP (tLs 1) (rpP rpV (rpS (rpP rpI (rpP rpI (rpQ 1))))))) (wC (ps':=[]) underlying50 tO rfl rfl (bG underlying50) trivial rfl (yJ qL (yJ cJ qL)) zX)) fun v41 r41=>(mv rfl rfl ?_)))
  replace rb6:=rb6.mono hh1
  refine zR (A:=[]) (uB sizeOf50 pH rb6 r41) fun cs_2 rb_3=>(asg rfl rfl (zQ (zH (bR (aK ?_)))))
  obtain⟨e1,e2,e3⟩:=pr_1 (lo:=lo) (hi:=hi) hc40
  rw[e1,e2,e3]
  refine cZ 83 14 ?_
  have rl_4:RL (tFc (1000*k+1000*l1+1000*l2+2000) (1000*k+1000*l1+1000*l2+2000)) h1 [] ([]:List (Pq×((List (List Int))×(List Nat)))):=RL.nil
  refine wL (jZ (t:=6) kF mh1 rfl rb_3) ?_
  intro w_5 hvw_5 rr_6
  refine gY (.cons_cons _ (List.nil_sublist _)) (fun E S=>vW rfl hvw_5 (jP rfl) E S) ?_
  exact⟨_,_,_,rfl,(Rp.Is.le rr_6 (Le.p (Le.s (Le.t (Le.q (l:=k+l1+l2+20) oM))) (Le.p (Le.refl _) (Le.s (Le.p (Le.refl _) (Le.p (Le.refl _) (Le.q (l:=5) dC))))))),rfl,rfl,rl_4⟩
 refine uL (zH (zL (zL (zE (mv rfl rfl ?_)))))
 have hn0:vS L 0 1=0:=Classical.not_not.1 hc40
 have hnl:=zUX hn0
 have hec:=zWO hnl.2
 replace rL:=rL.mono hh1
 refine cL (ev1 rfl) call124 (fun w hs=>zEX hs rL (by first|omega|exact fun l hl=>Nat.le_trans (hnl.2 l hl) dC) (by first|omega|exact fun l hl=>Nat.le_trans (hnl.2 l hl) dC) (by first|omega|exact fun l hl=>Nat.le_trans (hnl.2 l hl) dC)) fun v44 h2 hh2 r44=>?_
 obtain rfl:v44=vI (ouZ L):=r44
 have hou44:=w6 L L.length
 refine gv (lL (q:=1) rfl rfl) rfl (zQ (zH ?_))
 refine cnd (fun hc45=>?_) fun hc45=>?_
 ·
  refine zL (zE (lX (xV (ρ:=(rpP (tLs 1) (rpP rpV (rpS (rpP rpI (rpP rpI (rpQ 1))))))) (wC (ps':=[]) underlying50 tO rfl rfl (bG underlying50) trivial rfl (yJ qL (yJ cJ qL)) zX)) fun v46 r46=>?_))
  replace rb6:=rb6.mono (hh1.trans hh2)
  refine zR (A:=[]) (uB sizeOf50 pH rb6 r46) fun cs_7 rb_8=>(asg (v:=vI (33)) rfl rfl (zQ (zH (bR (aK ?_)))))
  obtain⟨e1,e2,e3⟩:=yA0 (lo:=lo) (hi:=hi) hn0 hc45
  rw[e1,e2,e3]
  refine cZ 83 14 ?_
  have rl_9:RL (tFc (1000*k+1000*l1+1000*l2+2000) (1000*k+1000*l1+1000*l2+2000)) h2 [] ([]:List (Pq×((List (List Int))×(List Nat)))):=RL.nil
  refine wL (jZ (t:=6) kF mh1 rfl rb_8) ?_
  intro w_10 hvw_10 rr_11
  refine gY (.cons_cons _ (List.nil_sublist _)) (fun E S=>vW rfl hvw_10 (jP rfl) E S) ?_
  exact⟨_,_,_,rfl,(Rp.Is.le rr_11 (Le.p (Le.s (Le.t (Le.q (l:=k+l1+l2+20) oM))) (Le.p (Le.refl _) (Le.s (Le.p (Le.refl _) (Le.p (Le.refl _) (Le.q (l:=5) dC))))))),rfl,rfl,rl_9⟩
 refine uL (zH (zL (zL (zE ?_))))
 replace rb4:=rb4.mono (hh1.trans hh2)
 refine lX (xB yA pH rb4) fun v47 r47=>?_
 replace rb5:=rb5.mono (hh1.trans hh2)
 refine lX (xB yA pH rb5) fun v48 r48=>(cL (ev2 rfl rfl) call18 (fun w hs=>kA hs r47 r48 oM) fun v49 h3 hh3 r49=>?_)
 obtain rfl:v49=vI (wG lo hi):=r49
 have hcr49:=jB lo hi
 refine gv (bK (q:=0) rfl rfl) rfl (zQ (zH ?_))
 refine cnd (fun hc50=>?_) fun hc50=>?_
 ·
  refine zGS (e':=[(6,_)]) ⟨rfl,trivial⟩ (zL (zE (lX (xV (ρ:=(rpP (tLs 1) (rpP rpV (rpS (rpP rpI (rpP rpI (rpQ 1))))))) (wC (ps':=[]) underlying50 tO rfl rfl (bG underlying50) trivial rfl (yJ qL (yJ cJ qL)) zX)) fun v51 r51=>?_)))
  replace rb6:=rb6.mono ((hh1.trans hh2).trans hh3)
  refine zR (A:=[]) (uB sizeOf50 pH rb6 r51) fun cs_12 rb_13=>(asg (v:=vI (9)) rfl rfl (zQ (zH (bR (aK ?_)))))
  obtain⟨e1,e2,e3⟩:=pr_9 hn0 (Classical.not_not.1 hc45) hc50
  rw[e1,e2,e3]
  refine cZ 83 14 ?_
  have rl_14:RL (tFc (1000*k+1000*l1+1000*l2+2000) (1000*k+1000*l1+1000*l2+2000)) h3 [] ([]:List (Pq×((List (List Int))×(List Nat)))):=RL.nil
  refine wL (jZ (t:=6) kF mh1 rfl rb_13) ?_
  intro w_15 hvw_15 rr_16
  refine gY (.cons_cons _ (List.nil_sublist _)) (fun E S=>vW rfl hvw_15 (jP rfl) E S) ?_
  exact⟨_,_,_,rfl,(Rp.Is.le rr_16 (Le.p (Le.s (Le.t (Le.q (l:=k+l1+l2+20) oM))) (Le.p (Le.refl _) (Le.s (Le.p (Le.refl _) (Le.p (Le.refl _) (Le.q (l:=5) dC))))))),rfl,rfl,rl_14⟩
 refine uL (zH (zL (zE (nA (ρ:=(rpP rpV (rpP rpV (rpS (rpP rpI (rpP rpI (rpQ 1))))))) (X:=((Value.slice none 0 0),((Value.slice none 0 0),[]))) tO (yJ cJ (yJ cJ qL)) fun b10 cs10 rb10=>(zQ (zH (zL (zE (asg rfl rfl (zQ (zH (zL (zE ?_)))))))))))))
 refine asg rfl rfl (zQ (zH (zL (zE (asg rfl rfl (zQ (zH (zL (zL (zE (asg (v:=vI (0)) rfl rfl (zQ (zH ?_)))))))))))))
 refine wU (xQ 116 2 ?_)
 have rl_17:RL (rpA 2 rpI) h3 [] ([]:List (List Int)):=RL.nil
 refine xQ 53 9 ?_
 have rl_18:RL (tPt (k+1)) h3 [] ([]:List Tq):=RL.nil
 refine xQ 32 1 ?_
 have rl_19:RL (rpS rpI) h3 [] ([]:List (List Int)):=RL.nil
 refine gcL (ι:=Nat×List (List Int)×List Tq×List (List Int)×Value×List Value×Value×List Value×Value×List Value×Mem) (fun(i,ED,BB,II,s11_20,cs_23,s12_21,cs_25,s13_22,cs_27,ma)=>(MLe h3 ma∧(RL (rpA 2 rpI) ma cs_23 ED∧RL (tPt (k+1)) ma cs_25 BB∧RL (rpS rpI) ma cs_27 II∧i≤L.length∧ED.length=g6 L i∧BB=ptB L i∧II=ptN L i),[(0,vL),(4,vP b4 0),(5,vP b5 0),(6,vP b6 0),(10,vP b10 0),(11,s11_20),(12,s12_21),(13,s13_22),(14,vI ↑i)],[.gs 32 1 s13_22 II.length cs_27,.gs 53 9 s12_21 BB.length cs_25,.gs 116 2 s11_20 ED.length cs_23,.var b10 50 cs10,.var b6 50 cs6,.var b5 26 cs5,.var b4 26 cs4],ma,L.length-i)) (0,[],[],[],(.slice none 0 0),[],(.slice none 0 0),[],(.slice none 0 0),[],h3) ?_ ?_
 ·
  refine⟨MLe.refl _,?_⟩
  refine⟨rl_17,rl_18,rl_19,?_⟩
  exact⟨by omega,rfl,rfl,rfl⟩
 intro x hx
 obtain⟨i,ED,BB,II,s11_20,cs_23,s12_21,cs_25,s13_22,cs_27,ma⟩:=x
 dsimp only at hx
 obtain⟨hmma,hinv⟩:=hx
 refine yS ?_
 obtain⟨rl_24,rl_26,rl_28,hinv⟩:=hinv
 obtain⟨hi1,hED,hBB,hII⟩:=hinv
 have hbl:=zL8 L i
 have heci:=hec i hi1
 have hIl:II.length=i:=by rw[hII];exact wJ _ _
 rw[←hBB] at hbl
 refine zL (zL (zE (mv rfl rfl (mv rfl rfl ?_))))
 replace rL:=rL.mono ((hh2.trans hh3).trans hmma)
 refine gv (uY underlying115 rfl rL) rfl (gv (yL rfl rfl) rfl (zQ (zH ?_)))
 refine cnd (fun hc55=>?_) fun hc55=>?_
 ·
  refine uL (zH (zL (wU (zL (zE (asg rfl rfl (zQ (zH (zL (zL (zE (asg (v:=vI (0)) rfl rfl (zQ ?_)))))))))))))
  refine zH (wU (xQ 3 1 ?_))
  have rl_29:RL rpI ma [] ([]:List Int):=RL.nil
  refine gcL (ι:=Nat×List Tq×List Int×Value×List Value×Value×List Value×Mem) (fun(q,B2,LN,s12_30,cs_32,s15_31,cs_34,mb)=>(MLe ma mb∧(RL (tPt (k+1)) mb cs_32 B2∧RL rpI mb cs_34 LN∧q≤(L.getD i []).length∧B2=plB (ptB L i) (L.getD i []) q∧LN=plN (ptB L i) (L.getD i []) q),[(0,vL),(4,vP b4 0),(5,vP b5 0),(6,vP b6 0),(10,vP b10 0),(11,s11_20),(12,s12_30),(13,s13_22),(14,vI ↑i),(15,s15_31),(16,vI ↑q)],[.gs 3 1 s15_31 LN.length cs_34,.gs 32 1 s13_22 II.length cs_27,.gs 53 9 s12_30 B2.length cs_32,.gs 116 2 s11_20 ED.length cs_23,.var b10 50 cs10,.var b6 50 cs6,.var b5 26 cs5,.var b4 26 cs4],mb,(L.getD i []).length-q)) (0,BB,[],s12_21,cs_25,(.slice none 0 0),[],ma) ?_ ?_
  ·
   refine⟨MLe.refl _,?_⟩
   refine⟨rl_26,rl_29,?_⟩
   exact⟨by omega,by rw[hBB];rfl,rfl⟩
  intro x hx
  obtain⟨q,B2,LN,s12_30,cs_32,s15_31,cs_34,mb⟩:=x
  dsimp only at hx
  obtain⟨hmmb,hinv⟩:=hx
  refine yS ?_
  obtain⟨rl_33,rl_35,hinv⟩:=hinv
  obtain⟨hq1,hB2,hLN⟩:=hinv
  have hb2:=zF0 (ptB L i) (L.getD i []) q
  rw[←hB2,←hBB] at hb2
  have hLl:LN.length=q:=by rw[hLN];exact wJ _ _
  have hxl:=hnl.2 i oM
  refine zL (zL (zE (mv rfl rfl (mv rfl rfl (mv rfl rfl ?_)))))
  replace rL:=rL.mono hmmb
  refine lX (xI [] i underlying115 uT rL) fun v61 r61=>(lX (xA uT r61) fun v62 r62=>(gv (uY underlying46 rfl r62) rfl (gv (yL rfl rfl) rfl (zQ (zH ?_)))))
  refine cnd (fun hc64=>?_) fun hc64=>?_
  ·
   refine uL (zH (zL (wU (zL (zE (asg (v:=vI (-1)) rfl rfl (zQ (zH (zL (zL (zE (asg (v:=vI (0)) rfl rfl (zQ ?_)))))))))))))
   refine zH (wU ?_)
   refine vC (ι:=Nat×Mem) (fun(j,mj)=>MLe mb mj∧(j≤B2.length)) (fun(j,mj)=>[(0,vL),(4,vP b4 0),(5,vP b5 0),(6,vP b6 0),(10,vP b10 0),(11,s11_20),(12,s12_30),(13,s13_22),(14,vI ↑i),(15,s15_31),(16,vI ↑q),(17,vI (j8 B2 ((L.getD i []).getD q zT) j)),(18,vI ↑j)]) (fun(j,mj)=>[.gs 3 1 s15_31 LN.length cs_34,.gs 32 1 s13_22 II.length cs_27,.gs 53 9 s12_30 B2.length cs_32,.gs 116 2 s11_20 ED.length cs_23,.var b10 50 cs10,.var b6 50 cs6,.var b5 26 cs5,.var b4 26 cs4]) (fun(j,mj)=>mj) (fun(j,mj)=>B2.length-j) (0,mb) ?_ ⟨rfl,rfl,rfl,rfl,rfl,rfl,rfl,rfl,rfl,rfl,rfl,rfl,rfl,trivial⟩ rfl rfl ?_
   ·
    refine⟨MLe.refl _,?_⟩
    exact oM
   intro x hx
   obtain⟨j,mj⟩:=x
   obtain⟨hmmj,hinv⟩:=hx
   refine yS ?_
   have hj1:=hinv
   have hfr:=zDI B2 ((L.getD i []).getD q zT) j
   refine zL (zL (zE (mv rfl rfl (mv rfl rfl (gv (gA mh2 underlying46 rfl) rfl (gv (yL rfl rfl) rfl (zQ (zH ?_))))))))
   refine cnd (fun hc70=>?_) fun hc70=>?_
   ·
    refine uL (zH (zL (wU (zL ?_))))
    refine gD 30 (qq 0 13 ((13,.c)::(qq 14 14 [(28,.c),(29,.q)]))) (vG [0,0,3,4,8,0,0,96,128,0,768,1024,2048,4112,8192,16384,16384,114688,147456,278528,16384,16384,3162112,4210688,16384,25182208,33570816,67125248,134758400,268451840] (frz 1073741823 [0,0,3,4,8,0,0,96,128,0,768,1024,2048,4112,8192,16384,16384,114688,147456,278528,16384,16384,3162112,4210688,16384,25182208,33570816,67125248,134758400,268451840]) (by kernel_rfl)) ?_
    refine qA rfl rfl rfl (qA rfl rfl rfl (w_q rfl (fun h' L' hh hR=>(yY j (hR _ mh2) underlying46 sizeOf53 rfl rfl rfl bO nP).cv (show _=zK 1 s12_30 ((j*9+0)) from congrArg (zK 1 s12_30) (by rfl))) rfl ?_))
    replace rl_33:=rl_33.mono hmmj
    refine w_q rfl (fun h' L' hh hR=>(tG (sz:=3) (q:=0) 0 (Pc.arr (Pc.here _) zT j bO) rfl nP (rl_33.mono hh) (hR _ mh2) underlying53 sizeOf26 rfl rfl rfl dC).cv (show _=zK 1 s12_30 ((j*9+0)) from congrArg (zK 1 s12_30) (by show(j*9+0)+0*3=(j*9+0);omega))) rfl (mZ (F:=fun v_=>(rpQ (k+1)).Is mj v_ ((B2.getD j zT).x)) rfl (wV yA (Pc.arr (Pc.tx (Pc.here _)) zT j bO) rfl nP rfl rl_33 rfl) (tT mh2) rfl ?_)
    intro v77 r77
    refine qA rfl rfl rfl (qA rfl rfl rfl ?_)
    replace rL:=rL.mono hmmj
    refine wX rfl (xI [] i underlying115 uT rL) fun v80 r80=>(wX rfl (xA uT r80) fun v81 r81=>(qA rfl rfl rfl (wX rfl (xI zT q underlying46 zS r81) fun v83 r83=>(mZ (F:=fun v_=>AtP (rpQ k) mj v_ (((L.getD i []).getD q zT).x)) rfl (zER (q:=0) 0 underlying53 sizeOf26 (Pc.tx (Pc.here _)) rfl rfl rfl r83 rfl dC rfl) zBI rfl ?_))))
    intro v84 r84
    refine wX rfl (xA yA r84) fun v85 r85=>?_
    refine w_c rfl (sC (ev2 rfl rfl) call15 (fun w hs=>vQ hs r77 r85 oM) fun v86 h4 hh4 r86=>?_)
    obtain rfl:v86=vB (((B2.getD j zT).x)=(((L.getD i []).getD q zT).x)):=r86
    refine qA rfl rfl rfl ?_
    refine gS (((B2.getD j zT).x)=(((L.getD i []).getD q zT).x)) (fun hg_36=>?_) (fun hg_36=>?_)
    ·
     rw[xL hg_36]
     refine yM rfl rfl rfl (fun h' L' hh hR=>yW rfl) rfl (yM rfl rfl rfl (fun h' L' hh hR=>yW rfl) rfl (yM rfl rfl rfl (fun h' L' hh hR=>(yY j (hR _ mh2) underlying46 sizeOf53 rfl rfl rfl bO nP).cv (show _=zK 1 s12_30 ((j*9+0)) from congrArg (zK 1 s12_30) (by rfl))) rfl ?_))
     replace rl_33:=rl_33.mono hh4
     refine yM rfl rfl rfl (fun h' L' hh hR=>(tG (sz:=3) (q:=1) 1 (Pc.arr (Pc.here _) zT j bO) rfl nP (rl_33.mono hh) (hR _ mh2) underlying53 sizeOf26 rfl rfl rfl dC).cv (show _=zK 1 s12_30 ((j*9+3)) from congrArg (zK 1 s12_30) (by show(j*9+0)+1*3=(j*9+3);omega))) rfl (aC (F:=fun v_=>(rpQ (k+1)).Is h4 v_ ((B2.getD j zT).y)) rfl rfl rfl (wV yA (Pc.arr (Pc.ty (Pc.here _)) zT j bO) rfl nP rfl rl_33 rfl) (tT mh2) rfl ?_)
     intro v92 r92
     refine yM rfl rfl rfl (fun h' L' hh hR=>yW rfl) rfl (yM rfl rfl rfl (fun h' L' hh hR=>yW rfl) rfl ?_)
     replace rL:=rL.mono hh4
     refine oX rfl (xI [] i underlying115 uT rL) fun v95 r95=>(oX rfl (xA uT r95) fun v96 r96=>(yM rfl rfl rfl (fun h' L' hh hR=>yW rfl) rfl (oX rfl (xI zT q underlying46 zS r96) fun v98 r98=>(aC (F:=fun v_=>AtP (rpQ k) h4 v_ (((L.getD i []).getD q zT).y)) rfl rfl rfl (zER (q:=1) 1 underlying53 sizeOf26 (Pc.ty (Pc.here _)) rfl rfl rfl r98 rfl dC rfl) zBI rfl ?_))))
     intro v99 r99
     refine oX rfl (xA yA r99) fun v100 r100=>?_
     refine w_c rfl (rK rfl rfl (sC (ev2 rfl rfl) call15 (fun w hs=>vQ hs r92 r100 oM) fun v101 h5 hh5 r101=>?_))
     obtain rfl:v101=vB (((B2.getD j zT).y)=(((L.getD i []).getD q zT).y)):=r101
     refine xJ rfl (fun _ _=>rT rfl rfl) rfl (rM (wT (e':=[(0,_),(4,_),(5,_),(6,_),(10,_),(11,_),(12,_),(13,_),(14,_),(15,_),(16,_),(17,_),(18,_),(102,_)]) ⟨rfl,rfl,rfl,rfl,rfl,rfl,rfl,rfl,rfl,rfl,rfl,rfl,rfl,rfl,trivial⟩ (zH ?_)))
     refine cnd (fun hc102=>?_) fun hc102=>?_
     ·
      refine zE (mv rfl rfl (asg rfl rfl (zQ (tU (zH (zE (mv rfl rfl (gv (zY (q:=1) rfl rfl oM oM) rfl (asg rfl rfl (zQ ?_))))))))))
      refine yQ ((j+1),h5) ?_ ?_ ⟨rfl,rfl,rfl,rfl,rfl,rfl,rfl,rfl,rfl,rfl,rfl,?_,rfl,trivial⟩ rfl rfl
      ·
       refine⟨((hmmj.trans hh4).trans hh5),?_⟩
       exact oM
      ·
       dsimp only
       omega
      · exact congrArg (fun z=>some (vI z)) (fd_t ⟨by assumption,hc102⟩)
     refine uL (tU (zH (zE (mv rfl rfl (gv (zY (q:=1) rfl rfl oM oM) rfl (asg rfl rfl (zQ ?_)))))))
     refine yQ ((j+1),h5) ?_ ?_ ⟨rfl,rfl,rfl,rfl,rfl,rfl,rfl,rfl,rfl,rfl,rfl,?_,rfl,trivial⟩ rfl rfl
     ·
      refine⟨((hmmj.trans hh4).trans hh5),?_⟩
      exact oM
     ·
      dsimp only
      omega
     · exact congrArg (fun z=>some (vI z)) (zZK (fun e=>hc102 e.2))
    rw[yU hg_36]
    refine wZ rfl rfl rfl rfl rfl (wZ rfl rfl rfl rfl rfl (wZ rfl rfl rfl rfl rfl (wZ rfl rfl rfl rfl rfl (wZ rfl rfl rfl rfl rfl (wZ rfl rfl rfl rfl rfl (wZ rfl rfl rfl rfl rfl (wZ rfl rfl rfl rfl rfl (wZ rfl rfl rfl rfl rfl (wZ rfl rfl rfl rfl rfl (wZ rfl rfl rfl rfl rfl (wZ rfl rfl rfl rfl rfl (wZ rfl rfl rfl rfl rfl ?_))))))))))))
    refine w_c rfl (y9 rfl rfl rfl rfl (xJ rfl (fun _ _=>rU rfl rfl) rfl (rM (wT (e':=[(0,_),(4,_),(5,_),(6,_),(10,_),(11,_),(12,_),(13,_),(14,_),(15,_),(16,_),(17,_),(18,_),(102,_)]) ⟨rfl,rfl,rfl,rfl,rfl,rfl,rfl,rfl,rfl,rfl,rfl,rfl,rfl,rfl,trivial⟩ (zH (zFD rfl (uL (tU (zH (zE (mv rfl rfl (gv (zY (q:=1) rfl rfl oM oM) rfl (asg rfl rfl ?_)))))))))))))
    refine zQ ?_
    refine yQ ((j+1),h4) ?_ ?_ ⟨rfl,rfl,rfl,rfl,rfl,rfl,rfl,rfl,rfl,rfl,rfl,?_,rfl,trivial⟩ rfl rfl
    ·
     refine⟨(hmmj.trans hh4),?_⟩
     exact oM
    ·
     dsimp only
     omega
    · exact congrArg (fun z=>some (vI z)) (zZK (fun e=>absurd e.1 (by assumption)))
   refine kX (uJ (uJ (kW (zH (zL (zL (zE (mv rfl rfl (gv (yL (q:=0) rfl rfl) rfl (zQ (zH ?_)))))))))))
   refine cnd (fun hc105=>?_) fun hc105=>?_
   ·
    have ej:j=B2.length:=by omega
    have hfz:fdZ B2 ((L.getD i []).getD q zT)<0:=by unfold fdZ;rw[←ej];exact hc105
    refine zL (zE (mv rfl rfl (gv (gA mh2 underlying46 rfl) rfl (asg rfl rfl (zQ (zH (zE (mv rfl rfl (mv rfl rfl (mv rfl rfl ?_))))))))))
    replace rL:=rL.mono hmmj
    refine lX (xI [] i underlying115 uT rL) fun v111 r111=>(lX (xA uT r111) fun v112 r112=>(mv rfl rfl (lX (xI zT q underlying46 zS r112) fun v114 r114=>(lX (xA zS r114) fun v115 r115=>(zF (zV (ρ:=(tPt (k+1))) (m:=1) (xs:=[((L.getD i []).getD q zT)]) (ps':=[(0,_)]) underlying46 yV rfl rfl rfl (xW (yF oM)) e2z (zI rfl (Pc.arr (Pc.here _) zT 0 dC) (r115.le (Le.t (Le.q (l:=k+1) oM))) zX) (show 1*9≤16777216 from by decide) nP) rfl rfl rfl ?_)))))
    intro v116 q116 hq116
    obtain⟨cs116,rfl,rl116⟩:=hq116
    refine yH (A:=[]) (ρ:=(tPt (k+1))) rl116 ?_
    intro h4 hh4 rs_37
    replace rl_33:=rl_33.mono (hmmj.trans hh4)
    refine xS (A:=[_,_]) (jM (yD (ρ:=(tPt (k+1))) (bytes:=168) underlying46 yV rfl rfl rfl rfl nP rfl rfl rl_33 rs_37 bO bO)) rfl rfl rfl ?_
    intro v117 q117 hq117
    obtain⟨ho117,cs117,rfl,rl117⟩:=hq117
    refine asg rfl rfl (zQ (wT (e':=[(0,_),(4,_),(5,_),(6,_),(10,_),(11,_),(13,_),(14,_),(15,_),(16,_),(17,_),(12,_)]) e12 (zH (zE (mv rfl rfl (mv rfl rfl (zF (zV (ρ:=rpI) (m:=1) (xs:=[(↑B2.length:Int)]) (ps':=[(0,_)]) underlying32 gK rfl rfl rfl wF e2z (zI rfl (Pc.arr (Pc.here _) (0:Int) 0 dC) (qF oM oM) zX) (show 1*1≤16777216 from by decide) nP) rfl rfl rfl ?_)))))))
    intro v120 q120 hq120
    obtain⟨cs120,rfl,rl120⟩:=hq120
    refine yH (A:=[]) (ρ:=rpI) rl120 ?_
    intro h5 hh5 rs_38
    replace rl_35:=rl_35.mono ((hmmj.trans hh4).trans hh5)
    refine xS (A:=[]) (jM (yD (ρ:=rpI) (bytes:=8) underlying32 gK rfl rfl rfl rfl nP rfl rfl rl_35 rs_38 bO bO)) rfl rfl rfl ?_
    intro v121 q121 hq121
    obtain⟨ho121,cs121,rfl,rl121⟩:=hq121
    refine asg rfl rfl (zQ (tU (zH (zE (mv rfl rfl (gv (zY (q:=1) rfl rfl oM oM) rfl (asg rfl rfl (zQ ?_))))))))
    refine yQ ((q+1),(B2++[((L.getD i []).getD q zT)]),(LN++[(↑B2.length:Int)]),v117,cs117,v121,cs121,h5) ?_ ?_ e11 rfl rfl
    ·
     refine⟨(((hmmb.trans hmmj).trans hh4).trans hh5),?_⟩
     replace rl117:=rl117.mono hh5
     refine⟨rl117,rl121,?_⟩
     exact⟨by omega,by rw[hB2] at hfz ⊢;exact(if_pos hfz).symm,by rw[hLN,show(↑B2.length:Int)=adN (plB (ptB L i) (L.getD i []) q) ((L.getD i []).getD q zT) from by rw[hB2] at hfz ⊢;exact(if_pos hfz).symm];rfl⟩
    dsimp only
    omega
   have ej:j=B2.length:=by omega
   have hfz:¬fdZ B2 ((L.getD i []).getD q zT)<0:=by unfold fdZ;rw[←ej];exact hc105
   refine uL (zH (zE (mv rfl rfl (mv rfl rfl (zF (zV (ρ:=rpI) (m:=1) (xs:=[(j8 B2 ((L.getD i []).getD q zT) j)]) (ps':=[(0,_)]) underlying32 gK rfl rfl rfl wF e2z (zI rfl (Pc.arr (Pc.here _) (0:Int) 0 dC) (qF oM oM) zX) (show 1*1≤16777216 from by decide) nP) rfl rfl rfl ?_)))))
   intro v120 q120 hq120
   obtain⟨cs120,rfl,rl120⟩:=hq120
   refine yH (A:=[]) (ρ:=rpI) rl120 ?_
   intro h4 hh4 rs_39
   replace rl_35:=rl_35.mono (hmmj.trans hh4)
   refine xS (A:=[]) (jM (yD (ρ:=rpI) (bytes:=8) underlying32 gK rfl rfl rfl rfl nP rfl rfl rl_35 rs_39 bO bO)) rfl rfl rfl ?_
   intro v121 q121 hq121
   obtain⟨ho121,cs121,rfl,rl121⟩:=hq121
   refine asg rfl rfl (zQ (tU (wT (e':=[(0,_),(4,_),(5,_),(6,_),(10,_),(11,_),(12,_),(13,_),(14,_),(16,_),(15,_)]) e11 (zH (zE (mv rfl rfl (gv (zY (q:=1) rfl rfl oM oM) rfl (asg rfl rfl (zQ ?_)))))))))
   refine yQ ((q+1),B2,(LN++[(j8 B2 ((L.getD i []).getD q zT) j)]),s12_30,cs_32,v121,cs121,h4) ?_ ?_ e11 rfl rfl
   ·
    refine⟨((hmmb.trans hmmj).trans hh4),?_⟩
    replace rl_33:=rl_33.mono (hmmj.trans hh4)
    refine⟨rl_33,rl121,?_⟩
    exact⟨by omega,by rw[hB2] at hfz ⊢;exact(if_neg hfz).symm,by rw[hLN,show j8 B2 ((L.getD i []).getD q zT) j=adN (plB (ptB L i) (L.getD i []) q) ((L.getD i []).getD q zT) from by rw[ej,hB2] at *;exact(if_neg hfz).symm];rfl⟩
   dsimp only
   omega
  have ek:q=(L.getD i []).length:=by omega
  refine kX (uJ (uJ (kW (zH (zL (zE (mv rfl rfl (mv rfl rfl (yH (A:=[]) (ρ:=rpI) rl_35 ?_)))))))))
  intro h4 hh4 rs_40
  refine zF (zV (ρ:=(rpS rpI)) (m:=1) (xs:=[LN]) (ps':=[(0,_)]) underlying81 jT rfl rfl rfl qL e2z (zI rfl (Pc.arr (Pc.here _) [] 0 dC) rs_40 zX) (show 1*1≤16777216 from by decide) nP) rfl rfl rfl ?_
  intro v124 q124 hq124
  obtain⟨cs124,rfl,rl124⟩:=hq124
  refine yH (A:=[]) (ρ:=(rpS rpI)) rl124 ?_
  intro h5 hh5 rs_41
  replace rl_28:=rl_28.mono ((hmmb.trans hh4).trans hh5)
  refine xS (A:=[]) (jM (yD (ρ:=(rpS rpI)) (bytes:=24) underlying81 jT rfl rfl rfl rfl nP rfl rfl rl_28 rs_41 bO bO)) rfl rfl rfl ?_
  intro v125 q125 hq125
  obtain⟨ho125,cs125,rfl,rl125⟩:=hq125
  refine asg rfl rfl (zQ (wT (e':=[(0,_),(4,_),(5,_),(6,_),(10,_),(11,_),(12,_),(14,_),(15,_),(13,_)]) e10 (zH (zL (zE (asg (v:=vI (0)) rfl rfl (zQ (zH (wU ?_)))))))))
  refine gcL (ι:=Nat×List (List Int)×Value×List Value×Mem) (fun(e,E2,s11_42,cs_43,me)=>(MLe h5 me∧(RL (rpA 2 rpI) me cs_43 E2∧e≤LN.length∧E2.length=g6 L i+e),[(0,vL),(4,vP b4 0),(5,vP b5 0),(6,vP b6 0),(10,vP b10 0),(11,s11_42),(12,s12_30),(13,v125),(14,vI ↑i),(15,s15_31),(19,vI ↑e)],[.gs 32 1 v125 (II++[LN]).length cs125,.gs 53 9 s12_30 B2.length cs_32,.gs 116 2 s11_42 E2.length cs_43,.var b10 50 cs10,.var b6 50 cs6,.var b5 26 cs5,.var b4 26 cs4],me,LN.length-e)) (0,ED,s11_20,cs_23,h5) ?_ ?_
  ·
   refine⟨MLe.refl _,?_⟩
   replace rl_24:=rl_24.mono ((hmmb.trans hh4).trans hh5)
   refine⟨rl_24,?_⟩
   exact⟨by omega,hED⟩
  intro x hx
  obtain⟨e,E2,s11_42,cs_43,me⟩:=x
  dsimp only at hx
  obtain⟨hmme,hinv⟩:=hx
  refine yS ?_
  obtain⟨rl_44,hinv⟩:=hinv
  obtain⟨he1,hE1⟩:=hinv
  have hxl:=hnl.2 i oM
  refine zL (zL (zE (mv rfl rfl (mv rfl rfl ?_))))
  replace rs_40:=rs_40.mono (hh5.trans hmme)
  refine gv (uY underlying32 rfl rs_40) rfl (gv (yL rfl rfl) rfl (zQ (zH ?_)))
  refine cnd (fun hc129=>?_) fun hc129=>?_
  ·
   refine uL (zH (zL (wU ?_)))
   refine jI (A:=[_,_]) 17 [] [(0,.q),(1,.q),(2,.q),(3,.q),(4,.q),(5,.q),(6,.q),(7,.q),(8,.q),(9,.q),(10,.q),(11,.q),(12,.q),(13,.q),(14,.c),(15,.c),(16,.q)] jN nX (vG [0,0,0,6,8,0,0,64,0,256,640,1056,2048,4112,8192,16385,65535] [131071,131071,131071,131065,131063,131071,131071,131007,131071,130815,130431,130015,129023,126959,122879,114686,98302] (by kernel_rfl)) nX (qA rfl rfl rfl (qA rfl rfl rfl (qA rfl rfl rfl (wX rfl (xI (0:Int) e underlying32 ty3 rs_40) fun v135 r135=>(wX rfl (xA ty3 r135) fun v136 r136=>?_)))))
   obtain⟨rfl,hl136,hu136⟩:=jW r136
   refine qA rfl rfl rfl (qA rfl rfl rfl (xJ rfl (fun _ _=>zY (q:=1) rfl rfl oM oM) rfl (qA rfl rfl rfl (w_q rfl (fun h' L' hh hR=>uY underlying32 rfl (rs_40.mono hh)) rfl (xJ rfl (fun _ _=>vX rfl rfl oM oM) rfl (wX rfl (xI (0:Int) ((e+1)%LN.length) underlying32 ty3 rs_40 (hi:=by exact Nat.mod_lt _ oM)) fun v143 r143=>(wX rfl (xA ty3 r143) fun v144 r144=>?_)))))))
   obtain⟨rfl,hl144,hu144⟩:=jW r144
   refine wX rfl (xV (ρ:=(rpA 2 rpI)) (xC (ps':=[(0,_),(1,_)]) underlying116 rG rfl rfl sizeOf3 e4z rfl (mY 2 wF) (zI rfl (Pc.arr (Pc.here _) (0:Int) 0 dC) (qF oM oM) (zI rfl (Pc.arr (Pc.here _) (0:Int) 1 dC) (qF oM oM) zX)))) fun v145 r145=>?_
   refine w_c rfl (kU (fun X=>zV (ρ:=(rpA 2 rpI)) (m:=1) (xs:=[[(LN.getD e (0:Int)),(LN.getD ((e+1)%LN.length) (0:Int))]]) (ps':=[(0,_)]) underlying153 rG rfl rfl rfl (mY 2 wF) e2z (zI rfl (Pc.arr (Pc.here _) (List.replicate 2 (0:Int)) 0 dC) r145 zX) (show 1*2≤16777216 from by decide) nP) rfl ?_)
   intro v146 q146 hq146
   obtain⟨cs146,rfl,rl146⟩:=hq146
   refine w_c rfl (vH (A:=[]) (ρ:=(rpA 2 rpI)) rl146 dK ?_)
   intro h6 hh6 rs_45
   replace rl_44:=rl_44.mono hh6
   refine sR (A:=[_,_]) (fun X=>jM (yD (ρ:=(rpA 2 rpI)) (bytes:=16) underlying153 rG rfl rfl rfl rfl nP rfl rfl rl_44 rs_45 bO bO)) rfl (wM (by first|(simp;done)|grind)) ?_
   intro v147 q147 hq147
   obtain⟨ho147,cs147,rfl,rl147⟩:=hq147
   refine zDZ rfl rfl rfl (rM (tU (wT (e':=[(0,_),(4,_),(5,_),(6,_),(10,_),(12,_),(13,_),(14,_),(15,_),(19,_),(11,_)]) e11 (zH (zE (mv rfl rfl (gv (zY (q:=1) rfl rfl oM oM) rfl (asg rfl rfl (zQ ?_)))))))))
   refine gqL ((e+1),(E2++[[(LN.getD e (0:Int)),(LN.getD ((e+1)%LN.length) (0:Int))]]),v147,cs147,h6) ?_ ?_
   ·
    refine⟨(hmme.trans hh6),?_⟩
    refine⟨rl147,?_⟩
    exact⟨by omega,by rw[lAz,hE1];rfl⟩
   omega
  have hE2:E2.length=g6 L i+LN.length:=by omega
  refine kX (uJ (uJ (kW (tU (zH (zE (mv rfl rfl (gv (zY (q:=1) rfl rfl oM oM) rfl (asg rfl rfl (zQ ?_))))))))))
  refine gqL ((i+1),E2,B2,(II++[LN]),s11_42,cs_43,s12_30,cs_32,v125,cs125,me) ?_ ?_
  ·
   refine⟨((((hmma.trans hmmb).trans hh4).trans hh5).trans hmme),?_⟩
   replace rl_33:=rl_33.mono ((hh4.trans hh5).trans hmme)
   replace rl125:=rl125.mono hmme
   refine⟨rl_44,rl_33,rl125,?_⟩
   exact⟨by omega,by rw[hE2,hLl,ek];rfl,by rw[hB2,ek];rfl,by rw[hII,hLN,ek];rfl⟩
  omega
 have ei:i=L.length:=by omega
 have heci2:=hec L.length oM
 rw[ei] at hED hBB hII
 have hI1:II.length=L.length:=by rw[hII];exact wJ _ _
 have hI2:∀i,i<L.length→(II.getD i []).length=(L.getD i []).length:=fun i hi=>by rw[hII];exact zGY hi
 have hrg:∀i q,i<L.length→q<(II.getD i []).length→0≤(II.getD i []).getD q 0∧(II.getD i []).getD q 0<↑BB.length:=fun i q hi hq=>by rw[hII] at hq ⊢;rw[hBB];exact zSV hi hq
 refine kX (uJ (uJ (kW (zH (zL (zE (mv rfl rfl (gv (gA mh1 underlying46 rfl) rfl (asg rfl rfl (zQ (zH (zL (zL ?_)))))))))))))
 refine zE (mv rfl rfl (gv (bJ (p:=2) rfl rfl oM oM) rfl (gv (lQ (q:=512) rfl rfl) rfl ?_)))
 refine gU 6 158 (vB (((512:Int)<((2:Int)*(↑BB.length:Int)))∨((256:Int)<((↑ED.length:Int)+(2:Int))))) ?_ ?_
 ·
  refine yB ((512:Int)<((2:Int)*(↑BB.length:Int))) (fun hg=>?_) (fun hg=>?_)
  ·
   refine gT hg rfl (aV rfl rfl rfl rfl rfl rfl (aV rfl rfl rfl rfl rfl rfl (aV rfl rfl rfl rfl rfl rfl (aV rfl rfl rfl rfl rfl rfl (gv (rT rfl rfl) rfl (zQ (gqU ?_)))))))
   exact congrArg some (uA hg)
  refine gF hg rfl (iJ rfl rfl rfl (mv rfl rfl (iJ rfl rfl rfl (gv (gA mh2 underlying153 rfl) rfl (iJ rfl rfl rfl (gv (zY (q:=2) rfl rfl oM oM) rfl (iJ rfl rfl rfl (gv (lQ (q:=256) rfl rfl) rfl (gv (rU rfl rfl) rfl (zQ (gqU ?_)))))))))))
  exact congrArg some (uC hg)
 refine zQ (zH ?_)
 refine cnd (fun hc158=>?_) fun hc158=>?_
 ·
  have hpb:prB L:=by unfold prB;show 512<2*(ptB L L.length).length∨_;rw[←hBB];omega
  refine zL (zE (lX (xV (ρ:=(rpP (tLs 1) (rpP rpV (rpS (rpP rpI (rpP rpI (rpQ 1))))))) (wC (ps':=[]) underlying50 tO rfl rfl (bG underlying50) trivial rfl (yJ qL (yJ cJ qL)) zX)) fun v159 r159=>?_))
  replace rb6:=rb6.mono (((hh1.trans hh2).trans hh3).trans hmma)
  refine zR (A:=[_,_,_,_]) (uB sizeOf50 pH rb6 r159) fun cs_46 rb_47=>(asg (v:=vI (2)) rfl rfl (zQ (zH (bR (aK ?_)))))
  obtain⟨e1,e2,e3⟩:=pr_2 hn0 (Classical.not_not.1 hc45) hc50 hpb
  rw[e1,e2,e3]
  refine cZ 83 14 ?_
  have rl_48:RL (tFc (1000*k+1000*l1+1000*l2+2000) (1000*k+1000*l1+1000*l2+2000)) ma [] ([]:List (Pq×((List (List Int))×(List Nat)))):=RL.nil
  refine wL (jZ (t:=6) kF mh5 rfl rb_47) ?_
  intro w_49 hvw_49 rr_50
  refine gY (.cons_cons _ (List.nil_sublist _)) (fun E S=>vW rfl hvw_49 (jP rfl) E S) ?_
  exact⟨_,_,_,rfl,(Rp.Is.le rr_50 (Le.p (Le.s (Le.t (Le.q (l:=k+l1+l2+20) oM))) (Le.p (Le.refl _) (Le.s (Le.p (Le.refl _) (Le.p (Le.refl _) (Le.q (l:=5) dC))))))),rfl,rfl,rl_48⟩
 have hpb:¬prB L:=by unfold prB;show ¬(512<2*(ptB L L.length).length∨_);rw[←hBB];omega
 obtain⟨he0,he1,he2⟩:=pr_0 hn0 (Classical.not_not.1 hc45) hc50 hpb
 refine uL (zH (zL (zL (zE (asg (v:=vI (0)) rfl rfl (zQ (zH (wU (xQ 53 9 ?_)))))))))
 have rl_51:RL (tPt (k+l1+l2+5)) ma [] ([]:List Tq):=RL.nil
 refine gcL (ι:=Nat×List Tq×List Value×Value×List Value×Mem) (fun(i,PP,cs_53,sA_52,cs_55,mp)=>(MLe ma mp∧((rpP rpV (rpP rpV (rpS (rpP rpI (rpP rpI (rpQ 1)))))).R mp cs_53 (sA_52,(Value.slice none 0 0,[]))∧RL (tPt (k+l1+l2+5)) mp cs_55 PP∧sA_52.oneCell'=true∧i≤2*BB.length∧PP=zQQ L lo hi i),[(4,vP b4 0),(5,vP b5 0),(6,vP b6 0),(10,vP b10 0),(12,s12_21),(13,s13_22),(20,vI (↑BB.length:Int)),(21,vI ↑i)],[.gs 53 9 sA_52 PP.length cs_55,.gs 32 1 s13_22 II.length cs_27,.gs 53 9 s12_21 BB.length cs_25,.gs 116 2 s11_20 ED.length cs_23,.var b10 50 cs_53,.var b6 50 cs6,.var b5 26 cs5,.var b4 26 cs4],mp,2*BB.length-i)) (0,[],cs10,(.slice none 0 0),[],ma) ?_ ?_
 ·
  refine⟨MLe.refl _,?_⟩
  replace rb10:=rb10.mono hmma
  refine⟨rb10,rl_51,rfl,?_⟩
  exact⟨by omega,rfl⟩
 intro x hx
 obtain⟨i,PP,cs_53,sA_52,cs_55,mp⟩:=x
 dsimp only at hx
 obtain⟨hmmp,hinv⟩:=hx
 refine yS ?_
 obtain⟨rb_54,rl_56,ho_57,hinv⟩:=hinv
 obtain⟨hi2,hPP⟩:=hinv
 have hPl:PP.length=i:=by rw[hPP];exact wJ _ _
 refine zL (zL (zE (mv rfl rfl (mv rfl rfl (gv (bJ (p:=2) rfl rfl oM oM) rfl (gv (yL rfl rfl) rfl (zQ (zH ?_))))))))
 refine cnd (fun hc163=>?_) fun hc163=>?_
 ·
  refine uL (zH (zL (wU (zL (zE ?_)))))
  replace rb4:=rb4.mono ((hh3.trans hmma).trans hmmp)
  refine lX (xB yA pH rb4) fun v166 r166=>(nA (ρ:=(rpQ 1)) (X:=(0:Rat)) yN (yF dC) fun b22 cs22 rb22=>?_)
  have rw_58:=(Le.q (l:=l1+1) oM).R rb22
  refine zR (A:=[]) (uB sizeOf26 pH rw_58 (r166.le (Le.q (l:=l1+1) oM))) fun cs_59 rb_60=>(zQ (zH (zL (zL (zE (mv rfl rfl (mv rfl rfl (gv (bK rfl rfl) rfl (zQ (zH ?_))))))))))
  refine cnd (fun hc169=>?_) fun hc169=>?_
  ·
   refine zE ?_
   replace rb5:=rb5.mono ((hh3.trans hmma).trans hmmp)
   refine lX (xB yA pH rb5) fun v170 r170=>?_
   have rw_61:=(Le.q (l:=l1+l2+1) oM).R rb_60
   refine zR (A:=[]) (uB sizeOf26 pH rw_61 (r170.le (Le.q (l:=l1+l2+1) oM))) fun cs_62 rb_63=>(zQ (zH ?_))
   refine jI (A:=[_]) 21 [] [(0,.q),(1,.q),(2,.q),(3,.q),(4,.q),(5,.q),(6,.q),(7,.q),(8,.q),(9,.q),(10,.q),(11,.q),(12,.q),(13,.q),(14,.q),(15,.q),(16,.q),(17,.q),(18,.c),(19,.c),(20,.q),(21,.t)] jN nX (vG [0,1,0,0,0,24,36,64,128,0,0,0,3072,4608,8192,16384,0,98560,131072,262146,1048575,2097151] [4194303,4194302,4194303,4194303,4194303,4194279,4194267,4194239,4194175,4194303,4194303,4194303,4191231,4189695,4186111,4177919,4194303,4095743,4063231,3932157,4194303,2621439] (by kernel_rfl)) nX (xJ rfl (fun _ _=>(xU underlying50 rfl sizeOf46 rfl).cv (show _=vP b10 0 from congrArg (vP b10) (by rfl))) rfl (wX rfl (aR (xB uT (Pc.fst pH) rb_54)) fun v172 r172=>?_))
   subst r172
   refine qA rfl rfl rfl (qA rfl rfl rfl (qA rfl rfl rfl (xJ rfl (fun _ _=>vX rfl rfl oM oM) rfl (w_q rfl (fun h' L' hh hR=>(yY (i%BB.length) (hR _ mh2) underlying46 sizeOf53 rfl rfl rP (by exact Nat.mod_lt _ oM) nP).cv (show _=zK 1 s12_21 (((i%BB.length)*9+0)) from congrArg (zK 1 s12_21) (by rfl))) rfl ?_))))
   replace rl_26:=rl_26.mono hmmp
   refine w_q rfl (fun h' L' hh hR=>(tG (sz:=3) (q:=0) 0 (Pc.arr (Pc.here _) zT (i%BB.length) (by exact Nat.mod_lt _ oM)) rfl nP (rl_26.mono hh) (hR _ mh2) underlying53 sizeOf26 rfl rfl rfl dC).cv (show _=zK 1 s12_21 (((i%BB.length)*9+0)) from congrArg (zK 1 s12_21) (by show((i%BB.length)*9+0)+0*3=((i%BB.length)*9+0);omega))) rfl (mZ (F:=fun v_=>(rpQ (k+1)).Is mp v_ ((BB.getD (i%BB.length) zT).x)) rfl (wV yA (Pc.arr (Pc.tx (Pc.here _)) zT (i%BB.length) (by exact Nat.mod_lt _ oM)) rfl nP rfl rl_26 rfl) (tT mh2) rfl ?_)
   intro v179 r179
   refine qA rfl rfl rfl (qA rfl rfl rfl (qA rfl rfl rfl (xJ rfl (fun _ _=>vX rfl rfl oM oM) rfl (w_q rfl (fun h' L' hh hR=>(yY (i%BB.length) (hR _ mh2) underlying46 sizeOf53 rfl rfl rP (by exact Nat.mod_lt _ oM) nP).cv (show _=zK 1 s12_21 (((i%BB.length)*9+0)) from congrArg (zK 1 s12_21) (by rfl))) rfl (w_q rfl (fun h' L' hh hR=>(tG (sz:=3) (q:=1) 1 (Pc.arr (Pc.here _) zT (i%BB.length) (by exact Nat.mod_lt _ oM)) rfl nP (rl_26.mono hh) (hR _ mh2) underlying53 sizeOf26 rfl rfl rfl dC).cv (show _=zK 1 s12_21 (((i%BB.length)*9+3)) from congrArg (zK 1 s12_21) (by show((i%BB.length)*9+0)+1*3=((i%BB.length)*9+3);omega))) rfl (mZ (F:=fun v_=>(rpQ (k+1)).Is mp v_ ((BB.getD (i%BB.length) zT).y)) rfl (wV yA (Pc.arr (Pc.ty (Pc.here _)) zT (i%BB.length) (by exact Nat.mod_lt _ oM)) rfl nP rfl rl_26 rfl) (tT mh2) rfl ?_))))))
   intro v186 r186
   refine wX rfl (xB yA pH rb_63) fun v187 r187=>(wX rfl (xV (ρ:=(tPt (k+l1+l2+1))) (xC (ps':=[(0,_),(1,_),(2,_)]) underlying53 yV rfl rfl sizeOf26 e6z rfl (xW (yF oM)) (zI rfl (Pc.tx (Pc.here _)) (r179.le (Le.q (l:=k+l1+l2+1) oM)) (zI rfl (Pc.ty (Pc.here _)) (r186.le (Le.q (l:=k+l1+l2+1) oM)) (zI rfl (Pc.tz (Pc.here _)) (r187.le (Le.q (l:=k+l1+l2+1) oM)) zX))))) fun v188 r188=>?_)
   refine w_c rfl (kU (fun X=>zV (ρ:=(tPt (k+l1+l2+1))) (m:=1) (xs:=[(T3.mk ((BB.getD (i%BB.length) zT).x) ((BB.getD (i%BB.length) zT).y) hi)]) (ps':=[(0,_)]) underlying46 yV rfl rfl rfl (xW (yF oM)) e2z (zI rfl (Pc.arr (Pc.here _) zT 0 dC) r188 zX) (show 1*9≤16777216 from by decide) nP) rfl ?_)
   intro v189 q189 hq189
   obtain⟨cs189,rfl,rl189⟩:=hq189
   refine w_c rfl (vH (A:=[]) (ρ:=(tPt (k+l1+l2+1))) rl189 dK ?_)
   intro h4 hh4 rs_64
   replace rl_56:=rl_56.mono hh4
   refine sR (A:=[_]) (fun X=>jM (yD (ρ:=(tPt (k+l1+l2+5))) (bytes:=168) underlying46 yV rfl rfl rfl rfl nP rfl rfl rl_56 (rs_64.le (Le.s (Le.t (Le.q (l:=k+l1+l2+5) oM)))) bO bO)) rfl (wM (by first|(simp;done)|grind)) ?_
   intro v190 q190 hq190
   obtain⟨ho190,cs190,rfl,rl190⟩:=hq190
   refine xJ rfl (fun _ _=>(xU underlying50 rfl sizeOf46 rfl).cv (show _=vP b10 0 from congrArg (vP b10) (by rfl))) rfl ?_
   replace rb_54:=rb_54.mono hh4
   refine yI (A:=[_,_,_,_,_]) rfl (uB sizeOf46 (Pc.fst pH) rb_54 (zDD ho190)) fun cs_65 rb_66=>(rM (tU (wT (e':=[(4,_),(5,_),(6,_),(10,_),(12,_),(13,_),(20,_),(21,_)]) e8 (zH (zE (mv rfl rfl (gv (zY (q:=1) rfl rfl oM oM) rfl (asg rfl rfl (zQ (vV (A:=[]) ?_))))))))))
   refine gqL ((i+1),(PP++[(T3.mk ((BB.getD (i%BB.length) zT).x) ((BB.getD (i%BB.length) zT).y) hi)]),cs_65,v190,cs190,h4) ?_ ?_
   ·
    refine⟨(hmmp.trans hh4),?_⟩
    refine⟨rb_66,rl190,ho190,?_⟩
    exact⟨by omega,by rw[hPP,hBB];exact congrArg (fun z=>zQQ L lo hi i++[T3.mk _ _ z]) (if_pos (by have h9:=hc169;rw[hBB] at h9;exact h9)).symm⟩
   omega
  refine uL (zH ?_)
  refine jI (A:=[_]) 21 [] [(0,.q),(1,.q),(2,.q),(3,.q),(4,.q),(5,.q),(6,.q),(7,.q),(8,.q),(9,.q),(10,.q),(11,.q),(12,.q),(13,.q),(14,.q),(15,.q),(16,.q),(17,.q),(18,.c),(19,.c),(20,.q),(21,.t)] jN nX (vG [0,1,0,0,0,24,36,64,128,0,0,0,3072,4608,8192,16384,0,98560,131072,262146,1048575,2097151] [4194303,4194302,4194303,4194303,4194303,4194279,4194267,4194239,4194175,4194303,4194303,4194303,4191231,4189695,4186111,4177919,4194303,4095743,4063231,3932157,4194303,2621439] (by kernel_rfl)) nX (xJ rfl (fun _ _=>(xU underlying50 rfl sizeOf46 rfl).cv (show _=vP b10 0 from congrArg (vP b10) (by rfl))) rfl (wX rfl (aR (xB uT (Pc.fst pH) rb_54)) fun v172 r172=>?_))
  subst r172
  refine qA rfl rfl rfl (qA rfl rfl rfl (qA rfl rfl rfl (xJ rfl (fun _ _=>vX rfl rfl oM oM) rfl (w_q rfl (fun h' L' hh hR=>(yY (i%BB.length) (hR _ mh2) underlying46 sizeOf53 rfl rfl rP (by exact Nat.mod_lt _ oM) nP).cv (show _=zK 1 s12_21 (((i%BB.length)*9+0)) from congrArg (zK 1 s12_21) (by rfl))) rfl ?_))))
  replace rl_26:=rl_26.mono hmmp
  refine w_q rfl (fun h' L' hh hR=>(tG (sz:=3) (q:=0) 0 (Pc.arr (Pc.here _) zT (i%BB.length) (by exact Nat.mod_lt _ oM)) rfl nP (rl_26.mono hh) (hR _ mh2) underlying53 sizeOf26 rfl rfl rfl dC).cv (show _=zK 1 s12_21 (((i%BB.length)*9+0)) from congrArg (zK 1 s12_21) (by show((i%BB.length)*9+0)+0*3=((i%BB.length)*9+0);omega))) rfl (mZ (F:=fun v_=>(rpQ (k+1)).Is mp v_ ((BB.getD (i%BB.length) zT).x)) rfl (wV yA (Pc.arr (Pc.tx (Pc.here _)) zT (i%BB.length) (by exact Nat.mod_lt _ oM)) rfl nP rfl rl_26 rfl) (tT mh2) rfl ?_)
  intro v179 r179
  refine qA rfl rfl rfl (qA rfl rfl rfl (qA rfl rfl rfl (xJ rfl (fun _ _=>vX rfl rfl oM oM) rfl (w_q rfl (fun h' L' hh hR=>(yY (i%BB.length) (hR _ mh2) underlying46 sizeOf53 rfl rfl rP (by exact Nat.mod_lt _ oM) nP).cv (show _=zK 1 s12_21 (((i%BB.length)*9+0)) from congrArg (zK 1 s12_21) (by rfl))) rfl (w_q rfl (fun h' L' hh hR=>(tG (sz:=3) (q:=1) 1 (Pc.arr (Pc.here _) zT (i%BB.length) (by exact Nat.mod_lt _ oM)) rfl nP (rl_26.mono hh) (hR _ mh2) underlying53 sizeOf26 rfl rfl rfl dC).cv (show _=zK 1 s12_21 (((i%BB.length)*9+3)) from congrArg (zK 1 s12_21) (by show((i%BB.length)*9+0)+1*3=((i%BB.length)*9+3);omega))) rfl (mZ (F:=fun v_=>(rpQ (k+1)).Is mp v_ ((BB.getD (i%BB.length) zT).y)) rfl (wV yA (Pc.arr (Pc.ty (Pc.here _)) zT (i%BB.length) (by exact Nat.mod_lt _ oM)) rfl nP rfl rl_26 rfl) (tT mh2) rfl ?_))))))
  intro v186 r186
  refine wX rfl (xB yA pH rb_60) fun v187 r187=>(wX rfl (xV (ρ:=(tPt (k+l1+1))) (xC (ps':=[(0,_),(1,_),(2,_)]) underlying53 yV rfl rfl sizeOf26 e6z rfl (xW (yF oM)) (zI rfl (Pc.tx (Pc.here _)) (r179.le (Le.q (l:=k+l1+1) oM)) (zI rfl (Pc.ty (Pc.here _)) (r186.le (Le.q (l:=k+l1+1) oM)) (zI rfl (Pc.tz (Pc.here _)) (r187.le (Le.q (l:=k+l1+1) oM)) zX))))) fun v188 r188=>?_)
  refine w_c rfl (kU (fun X=>zV (ρ:=(tPt (k+l1+1))) (m:=1) (xs:=[(T3.mk ((BB.getD (i%BB.length) zT).x) ((BB.getD (i%BB.length) zT).y) lo)]) (ps':=[(0,_)]) underlying46 yV rfl rfl rfl (xW (yF oM)) e2z (zI rfl (Pc.arr (Pc.here _) zT 0 dC) r188 zX) (show 1*9≤16777216 from by decide) nP) rfl ?_)
  intro v189 q189 hq189
  obtain⟨cs189,rfl,rl189⟩:=hq189
  refine w_c rfl (vH (A:=[]) (ρ:=(tPt (k+l1+1))) rl189 dK ?_)
  intro h4 hh4 rs_67
  replace rl_56:=rl_56.mono hh4
  refine sR (A:=[_]) (fun X=>jM (yD (ρ:=(tPt (k+l1+l2+5))) (bytes:=168) underlying46 yV rfl rfl rfl rfl nP rfl rfl rl_56 (rs_67.le (Le.s (Le.t (Le.q (l:=k+l1+l2+5) oM)))) bO bO)) rfl (wM (by first|(simp;done)|grind)) ?_
  intro v190 q190 hq190
  obtain⟨ho190,cs190,rfl,rl190⟩:=hq190
  refine xJ rfl (fun _ _=>(xU underlying50 rfl sizeOf46 rfl).cv (show _=vP b10 0 from congrArg (vP b10) (by rfl))) rfl ?_
  replace rb_54:=rb_54.mono hh4
  refine yI (A:=[_,_,_,_,_]) rfl (uB sizeOf46 (Pc.fst pH) rb_54 (zDD ho190)) fun cs_68 rb_69=>(rM (tU (wT (e':=[(4,_),(5,_),(6,_),(10,_),(12,_),(13,_),(20,_),(21,_)]) e8 (zH (zE (mv rfl rfl (gv (zY (q:=1) rfl rfl oM oM) rfl (asg rfl rfl (zQ (vV (A:=[]) ?_))))))))))
  refine gqL ((i+1),(PP++[(T3.mk ((BB.getD (i%BB.length) zT).x) ((BB.getD (i%BB.length) zT).y) lo)]),cs_68,v190,cs190,h4) ?_ ?_
  ·
   refine⟨(hmmp.trans hh4),?_⟩
   refine⟨rb_69,rl190,ho190,?_⟩
   exact⟨by omega,by rw[hPP,hBB];exact congrArg (fun z=>zQQ L lo hi i++[T3.mk _ _ z]) (if_neg (by have h9:=hc169;rw[hBB] at h9;exact h9)).symm⟩
  omega
 have hPP2:PP=ppZ L lo hi:=by rw[hPP,show i=2*BB.length by omega,hBB];rfl
 have hPl2:PP.length=2*BB.length:=by rw[hPP2,hBB];exact zX9
 refine kX (uJ (uJ (kW (zH (zL (zE (yH (A:=[]) (ρ:=(tPt (k+l1+l2+5))) rl_56 ?_)))))))
 intro h4 hh4 rs_70
 replace rb_54:=rb_54.mono hh4
 have rb_71:(rpP (tLs (k+l1+l2+5)) (rpP rpV (rpS (rpP rpI (rpP rpI (rpQ 1)))))).R h4 cs_53 (PP,(sA_52,(Value.slice none 0 0,[])).2):=zZ9 rb_54 rs_70
 refine cL (vs:=[vI (1)]) ⟨rfl,trivial⟩ call39 (fun w hs=>jR hs dC dC) fun v192 h5 hh5 r192=>(nA (ρ:=(rpQ 2)) (X:=(0:Rat)) yN (yF dC) fun b23 cs23 rb23=>(zR (A:=[]) (uB sizeOf26 pH rb23 r192) fun cs_72 rb_73=>(zQ (zH (zL ?_)))))
 refine kE 10 _ [(9,(24,83,[.bool false,.slice none 0 0,.slice none 0 0,.bool false,.slice none 0 0,.slice none 0 0,.bool false,.slice none 0 0,.slice none 0 0,.bool false,.slice none 0 0,.slice none 0 0,.slice none 0 0,.string ⟨#[]⟩]))] [(0,.q),(1,.q),(2,.q),(5,.q),(3,.c),(4,.q),(6,.c),(7,.q),(8,.q),(9,.a),(10,.t)] jN (jK.cons rfl rfl (uZ jA rfl rfl) jK.nil) (by kernel_rfl) (qB rfl rfl kM) (fun r hr=>hr) (wX rfl (xV (ρ:=(rpQ 1)) (wC (ps':=[]) underlying26 yN rfl rfl (vD underlying26) trivial rfl (yF dC) zX)) fun v193 r193=>(wX rfl (xV (ρ:=(rpQ 1)) (wC (ps':=[]) underlying26 yN rfl rfl (vD underlying26) trivial rfl (yF dC) zX)) fun v194 r194=>(wX rfl (xB yA pH rb_73) fun v195 r195=>?_)))
 replace rb4:=rb4.mono ((((hh3.trans hmma).trans hmmp).trans hh4).trans hh5)
 refine wX rfl (xB yA pH rb4) fun v198 r198=>?_
 refine w_c rfl (sC (ev1 rfl) call31 (fun w hs=>iW hs r195 dC) fun v196 h6 hh6 r196=>?_)
 replace r193:=r193.mono hh6
 replace r194:=r194.mono hh6
 refine wX rfl (xV (ρ:=(tPt 2)) (xC (ps':=[(0,_),(1,_),(2,_)]) underlying53 yV rfl rfl sizeOf26 e6z rfl (xW (yF dC)) (zI rfl (Pc.tx (Pc.here _)) (r193.le (Le.q (l:=2) dC)) (zI rfl (Pc.ty (Pc.here _)) (r194.le (Le.q (l:=2) dC)) (zI rfl (Pc.tz (Pc.here _)) r196 zX))))) fun v197 r197=>?_
 refine w_c rfl ?_
 replace r198:=r198.mono hh6
 refine sC (ev1 rfl) call31 (fun w hs=>iW hs r198 oM) fun v199 h7 hh7 r199=>?_
 replace r197:=r197.mono hh7
 refine wX rfl (xV (ρ:=(tPl 2 (l1+1))) (wC (ps':=[(0,_),(1,_)]) underlying80 mE rfl rfl (bF underlying80) e4z rfl (yJ (xW (yF dC)) (yF oM)) (zI rfl (Pc.fst (Pc.here _)) r197 (zI rfl (Pc.snd (Pc.here _)) (r199.le (Le.q (l:=l1+1) oM)) zX)))) fun v200 r200=>(wX rfl (xV (ρ:=(rpP (tPl 2 (l1+1)) (rpP rpV cH))) (wC (ps':=[(0,_),(2,_)]) underlying83 jA rfl rfl (lG underlying83) e4z rfl (yJ (yJ (xW (yF dC)) (yF oM)) (yJ cJ kO)) (zI rfl (Pc.fst (Pc.here _)) r200 (zI rfl (Pc.snd (Pc.snd (Pc.here _))) (bQ (show ByB [98,111,116,116,111,109] by unfold ByB;decide)) zX)))) fun v201 r201=>?_)
 refine w_a rfl rfl (fun b24=>?_)
 have rb24:(rpP (tPl 1 1) (rpP rpV cH)).R h7 [.bool false,.slice none 0 0,.slice none 0 0,.bool false,.slice none 0 0,.slice none 0 0,.bool false,.slice none 0 0,.slice none 0 0,.bool false,.slice none 0 0,.slice none 0 0,.slice none 0 0,.string ⟨#[]⟩] ((zT,(0:Rat)),((Value.slice none 0 0),([]:List Nat))):=(yJ (yJ (xW (yF dC)) (yF dC)) (yJ cJ kO))
 have rw_74:=(Le.p (Le.p (Le.t (Le.q (l:=2) dC)) (Le.q (l:=l1+1) oM)) (Le.refl _)).R rb24
 refine yI (A:=[]) rfl (uB sizeOf83 pH rw_74 r201) fun cs_75 rb_76=>(rM (wT (e':=[(5,_),(6,_),(10,_),(13,_),(20,_),(23,_),(24,_)]) e7 (zH (zL (zE (lX (xV (ρ:=(rpQ 1)) (wC (ps':=[]) underlying26 yN rfl rfl (vD underlying26) trivial rfl (yF dC) zX)) fun v202 r202=>(lX (xV (ρ:=(rpQ 1)) (wC (ps':=[]) underlying26 yN rfl rfl (vD underlying26) trivial rfl (yF dC) zX)) fun v203 r203=>?_)))))))
 replace rb_73:=rb_73.mono (hh6.trans hh7)
 refine lX (xB yA pH rb_73) fun v204 r204=>(lX (xV (ρ:=(tPt 2)) (xC (ps':=[(0,_),(1,_),(2,_)]) underlying53 yV rfl rfl sizeOf26 e6z rfl (xW (yF dC)) (zI rfl (Pc.tx (Pc.here _)) (r202.le (Le.q (l:=2) dC)) (zI rfl (Pc.ty (Pc.here _)) (r203.le (Le.q (l:=2) dC)) (zI rfl (Pc.tz (Pc.here _)) r204 zX))))) fun v205 r205=>?_)
 replace rb5:=rb5.mono ((((((hh3.trans hmma).trans hmmp).trans hh4).trans hh5).trans hh6).trans hh7)
 refine lX (xB yA pH rb5) fun v206 r206=>(lX (xV (ρ:=(tPl 2 (l2+1))) (wC (ps':=[(0,_),(1,_)]) underlying80 mE rfl rfl (bF underlying80) e4z rfl (yJ (xW (yF dC)) (yF oM)) (zI rfl (Pc.fst (Pc.here _)) r205 (zI rfl (Pc.snd (Pc.here _)) (r206.le (Le.q (l:=l2+1) oM)) zX)))) fun v207 r207=>(lX (xV (ρ:=(rpP (tPl 2 (l2+1)) (rpP rpV cH))) (wC (ps':=[(0,_),(2,_)]) underlying83 jA rfl rfl (lG underlying83) e4z rfl (yJ (yJ (xW (yF dC)) (yF oM)) (yJ cJ kO)) (zI rfl (Pc.fst (Pc.here _)) r207 (zI rfl (Pc.snd (Pc.snd (Pc.here _))) (bQ (show ByB [116,111,112] by unfold ByB;decide)) zX)))) fun v208 r208=>(nA (ρ:=(rpP (tPl 1 1) (rpP rpV cH))) (X:=((zT,(0:Rat)),((Value.slice none 0 0),([]:List Nat)))) jA (yJ (yJ (xW (yF dC)) (yF dC)) (yJ cJ kO)) fun b25 cs25 rb25=>?_)))
 have rw_77:=(Le.p (Le.p (Le.t (Le.q (l:=2) dC)) (Le.q (l:=l2+1) oM)) (Le.refl _)).R rb25
 refine zR (A:=[]) (uB sizeOf83 pH rw_77 r208) fun cs_78 rb_79=>(zQ (zH (zL (zL (zE (asg (v:=vI (0)) rfl rfl (zQ (zH (wU (xQ 83 14 ?_))))))))))
 have rl_80:RL (tFc (4*k+4*l1+4*l2+40) (100*k+100*l1+100*l2+1000)) h7 [] ([]:List (Pq×((List (List Int))×(List Nat)))):=RL.nil
 refine xQ 32 1 ?_
 have rl_81:RL (rpS rpI) h7 [] ([]:List (List Int)):=RL.nil
 refine xQ 32 1 ?_
 have rl_82:RL (rpS rpI) h7 [] ([]:List (List Int)):=RL.nil
 refine gcL (ι:=Nat×List Fc×List (List Int)×List (List Int)×List Value×List Value×List Value×Value×List Value×Value×List Value×Value×List Value×Mem) (fun(i,F0,C0,T0,cs_86,cs_88,cs_90,sB_83,cs_92,sC_84,cs_95,sD_85,cs_98,mq)=>(MLe h7 mq∧((rpP (tLs (k+l1+l2+5)) (rpP rpV (rpS (rpP rpI (rpP rpI (rpQ 1)))))).R mq cs_86 (PP,(sB_83,([]:List En)))∧(rpP (tPl 5 (l1+l2+5)) (rpP rpV cH)).R mq cs_88 ((T3.mk (0:Rat) (0:Rat) (-((1:Int):Rat)),-lo),(sC_84,[98,111,116,116,111,109]))∧(rpP (tPl 5 (l1+l2+5)) (rpP rpV cH)).R mq cs_90 ((T3.mk (0:Rat) (0:Rat) ((1:Int):Rat),hi),(sD_85,[116,111,112]))∧RL (tFc (4*k+4*l1+4*l2+40) (100*k+100*l1+100*l2+1000)) mq cs_92 F0∧sB_83.oneCell'=true∧RL (rpS rpI) mq cs_95 C0∧sC_84.oneCell'=true∧RL (rpS rpI) mq cs_98 T0∧sD_85.oneCell'=true∧i≤II.length∧C0=zZY L i∧T0=zXF L i∧F0=zNS L lo hi i),[(6,vP b6 0),(10,vP b10 0),(13,s13_22),(20,vI (↑BB.length:Int)),(24,vP b24 0),(25,vP b25 0),(26,vI ↑i)],[.gs 32 1 sD_85 T0.length cs_98,.gs 32 1 sC_84 C0.length cs_95,.gs 83 14 sB_83 F0.length cs_92,.var b25 83 cs_90,.var b24 83 cs_88,.var b23 26 cs_72,.gs 32 1 s13_22 II.length cs_27,.gs 53 9 s12_21 BB.length cs_25,.gs 116 2 s11_20 ED.length cs_23,.var b10 50 cs_86,.var b6 50 cs6,.var b5 26 cs5,.var b4 26 cs4],mq,II.length-i)) (0,[],[],[],cs_53,cs_75,cs_78,(.slice none 0 0),[],(.slice none 0 0),[],(.slice none 0 0),[],h7) ?_ ?_
 ·
  refine⟨MLe.refl _,?_⟩
  replace rb_71:=rb_71.mono ((hh5.trans hh6).trans hh7)
  refine⟨rb_71,((Le.p (Le.p (Le.t (Le.q (l:=5) dC)) (Le.q (l:=l1+l2+5) oM)) (Le.refl _)).R rb_76),((Le.p (Le.p (Le.t (Le.q (l:=5) dC)) (Le.q (l:=l1+l2+5) oM)) (Le.refl _)).R rb_79),rl_80,rfl,rl_81,rfl,rl_82,rfl,?_⟩
  exact⟨by omega,rfl,rfl,rfl⟩
 intro x hx
 obtain⟨i,F0,C0,T0,cs_86,cs_88,cs_90,sB_83,cs_92,sC_84,cs_95,sD_85,cs_98,mq⟩:=x
 dsimp only at hx
 obtain⟨hmmq,hinv⟩:=hx
 refine yS ?_
 obtain⟨rb_87,rb_89,rb_91,rl_93,ho_94,rl_96,ho_97,rl_99,ho_100,hinv⟩:=hinv
 obtain⟨hi3,hC0,hT0,hF0⟩:=hinv
 have hCl:C0.length=i:=by rw[hC0];exact wJ _ _
 have hTl:T0.length=i:=by rw[hT0];exact wJ _ _
 have hFl:F0.length=g6 L i:=by rw[hF0];exact zP1 oM
 have heci:=hec i oM
 refine zL (zL (zE (mv rfl rfl (mv rfl rfl (gv (gA mh6 underlying81 rfl) rfl (gv (yL rfl rfl) rfl (zQ (zH ?_))))))))
 refine cnd (fun hc212=>?_) fun hc212=>?_
 ·
  have hi2l:=hI2 i oM
  have hxl:=hnl.2 i oM
  refine uL (zH (zL (wU (zL ?_))))
  refine jI (A:=[_]) 10 [] [(0,.q),(1,.q),(2,.q),(3,.q),(4,.q),(5,.q),(6,.c),(7,.c),(8,.c),(9,.q),(10,.t)] jN nX (by kernel_rfl) nX (xJ rfl (fun _ _=>(xU underlying83 rfl sizeOf81 rfl).cv (show _=vP b24 12 from congrArg (vP b24) (by rfl))) rfl (wX rfl (aR (xB cK (Pc.snd (Pc.fst pH)) rb_89)) fun v216 r216=>?_))
  subst r216
  refine qA rfl rfl rfl (qA rfl rfl rfl (w_q rfl (fun h' L' hh hR=>(yY i (hR _ mh5) underlying81 sizeOf32 rfl rfl rfl bO nP).cv (show _=zK 1 s13_22 ((i*1+0)) from congrArg (zK 1 s13_22) (by rfl))) rfl ?_))
  replace rl_28:=rl_28.mono (((((hmmp.trans hh4).trans hh5).trans hh6).trans hh7).trans hmmq)
  refine mZ (F:=fun v_=>(rpS rpI).Is mq v_ (II.getD i [])) rfl (wV fO (Pc.arr (Pc.here _) [] i bO) rfl nP rfl rl_28 rfl) (tT mh5) rfl ?_
  intro v220 r220
  refine w_c rfl (sC (ev1 rfl) call65 (fun w hs=>zH7 hs r220 oM) fun v221 h8 hh8 r221=>?_)
  refine w_c rfl (kU (fun X=>zV (ρ:=(rpS rpI)) (m:=1) (xs:=[zJ0 (II.getD i []) (II.getD i []).length]) (ps':=[(0,_)]) underlying81 jT rfl rfl rfl qL e2z (zI rfl (Pc.arr (Pc.here _) [] 0 dC) r221 zX) (show 1*1≤16777216 from by decide) nP) rfl ?_)
  intro v222 q222 hq222
  obtain⟨cs222,rfl,rl222⟩:=hq222
  refine w_c rfl (vH (A:=[]) (ρ:=(rpS rpI)) rl222 dK ?_)
  intro h9 hh9 rs_101
  replace rl_96:=rl_96.mono (hh8.trans hh9)
  refine sR (A:=[_]) (fun X=>jM (yD (ρ:=(rpS rpI)) (bytes:=24) underlying81 jT rfl rfl rfl rfl nP rfl rfl rl_96 rs_101 bO bO)) rfl (wM (by first|(simp;done)|grind)) ?_
  intro v223 q223 hq223
  obtain⟨ho223,cs223,rfl,rl223⟩:=hq223
  refine xJ rfl (fun _ _=>(xU underlying83 rfl sizeOf81 rfl).cv (show _=vP b24 12 from congrArg (vP b24) (by rfl))) rfl ?_
  replace rb_89:=rb_89.mono (hh8.trans hh9)
  refine yI (A:=[_,_,_,_]) rfl (uB sizeOf81 (Pc.snd (Pc.fst pH)) rb_89 (zDD ho223)) fun cs_102 rb_103=>(rM (wT (e':=[(6,_),(10,_),(13,_),(20,_),(24,_),(25,_),(26,_)]) e7 (zH (zL (zE (asg rfl rfl (zQ (zH (zL (zL (zE (asg (v:=vI (0)) rfl rfl (zQ ?_)))))))))))))
  refine zH (wU (xQ 3 1 ?_))
  have rl_104:RL rpI h9 [] ([]:List Int):=RL.nil
  refine gcL (ι:=Nat×List Int×Value×List Value×Mem) (fun(q,TL,s27_105,cs_106,mr)=>(MLe h9 mr∧(RL rpI mr cs_106 TL∧q≤(II.getD i []).length∧TL=tpL L i q),[(6,vP b6 0),(10,vP b10 0),(13,s13_22),(20,vI (↑BB.length:Int)),(24,vP b24 0),(25,vP b25 0),(26,vI ↑i),(27,s27_105),(28,vI ↑q)],[.gs 3 1 s27_105 TL.length cs_106,.gs 32 1 sD_85 T0.length cs_98,.gs 32 1 v223 (C0++[zJ0 (II.getD i []) (II.getD i []).length]).length cs223,.gs 83 14 sB_83 F0.length cs_92,.var b25 83 cs_90,.var b24 83 cs_102,.var b23 26 cs_72,.gs 32 1 s13_22 II.length cs_27,.gs 53 9 s12_21 BB.length cs_25,.gs 116 2 s11_20 ED.length cs_23,.var b10 50 cs_86,.var b6 50 cs6,.var b5 26 cs5,.var b4 26 cs4],mr,(II.getD i []).length-q)) (0,[],(.slice none 0 0),[],h9) ?_ ?_
  ·
   refine⟨MLe.refl _,?_⟩
   refine⟨rl_104,?_⟩
   exact⟨by omega,rfl⟩
  intro x hx
  obtain⟨q,TL,s27_105,cs_106,mr⟩:=x
  dsimp only at hx
  obtain⟨hmmr,hinv⟩:=hx
  refine yS ?_
  obtain⟨rl_107,hinv⟩:=hinv
  obtain⟨hq2,hTL⟩:=hinv
  have hTLl:TL.length=q:=by rw[hTL];exact wJ _ _
  have hi2l:=hI2 i oM
  have hxl:=hnl.2 i oM
  refine zL (zL (zE (mv rfl rfl (mv rfl rfl (mv rfl rfl (gv ((yY i mh7 underlying81 sizeOf32 rfl rfl rfl bO nP).cv (show _=zK 1 s13_22 ((i*1+0)) from congrArg (zK 1 s13_22) (by rfl))) rfl ?_))))))
  replace rl_28:=rl_28.mono ((hh8.trans hh9).trans hmmr)
  refine zEA (F:=fun v_=>(rpS rpI).Is mr v_ (II.getD i [])) (wV fO (Pc.arr (Pc.here _) [] i bO) rfl nP rfl rl_28 rfl) (tT mh7) rfl ?_
  intro v229 r229
  refine gv (uY underlying32 rfl r229) rfl (gv (yL rfl rfl) rfl (zQ (zH ?_)))
  refine cnd (fun hc231=>?_) fun hc231=>?_
  ·
   have hra:=hrg i q oM oM
   refine uL (zH (zL (wU (zE (mv rfl rfl (mv rfl rfl (mv rfl rfl (gv ((yY i mh7 underlying81 sizeOf32 rfl rfl rfl bO nP).cv (show _=zK 1 s13_22 ((i*1+0)) from congrArg (zK 1 s13_22) (by rfl))) rfl (zEA (F:=fun v_=>(rpS rpI).Is mr v_ (II.getD i [])) (wV fO (Pc.arr (Pc.here _) [] i bO) rfl nP rfl rl_28 rfl) (tT mh7) rfl ?_)))))))))
   intro v238 r238
   refine mv rfl rfl (lX (xI (0:Int) q underlying32 ty3 r238) fun v240 r240=>(lX (xA ty3 r240) fun v241 r241=>?_))
   obtain⟨rfl,hl241,hu241⟩:=jW r241
   refine mv rfl rfl (gv (zY rfl rfl (by(have:=hrg i q oM oM;omega)) (by(have:=hrg i q oM oM;omega))) rfl (zF (zV (ρ:=rpI) (m:=1) (xs:=[(((II.getD i []).getD q (0:Int))+(↑BB.length:Int))]) (ps':=[(0,_)]) underlying32 gK rfl rfl rfl wF e2z (zI rfl (Pc.arr (Pc.here _) (0:Int) 0 dC) (qF oM oM) zX) (show 1*1≤16777216 from by decide) nP) rfl rfl rfl ?_))
   intro v244 q244 hq244
   obtain⟨cs244,rfl,rl244⟩:=hq244
   refine yH (A:=[]) (ρ:=rpI) rl244 ?_
   intro h10 hh10 rs_108
   replace rl_107:=rl_107.mono hh10
   refine xS (A:=[]) (jM (yD (ρ:=rpI) (bytes:=8) underlying32 gK rfl rfl rfl rfl nP rfl rfl rl_107 rs_108 bO bO)) rfl rfl rfl ?_
   intro v245 q245 hq245
   obtain⟨ho245,cs245,rfl,rl245⟩:=hq245
   refine asg rfl rfl (zQ (tU (wT (e':=[(6,_),(10,_),(13,_),(20,_),(24,_),(25,_),(26,_),(28,_),(27,_)]) ⟨rfl,rfl,rfl,rfl,rfl,rfl,rfl,rfl,rfl,trivial⟩ (zH (zE (mv rfl rfl (gv (zY (q:=1) rfl rfl oM oM) rfl (asg rfl rfl (zQ ?_)))))))))
   refine gqL ((q+1),(TL++[(((II.getD i []).getD q (0:Int))+(↑BB.length:Int))]),v245,cs245,h10) ?_ ?_
   ·
    refine⟨(hmmr.trans hh10),?_⟩
    refine⟨rl245,?_⟩
    exact⟨by omega,by rw[hTL,hII,hBB];rfl⟩
   omega
  have ek:q=(II.getD i []).length:=by omega
  refine kX (uJ (uJ (kW (zH (zL (zE (gv ((xU underlying83 rfl sizeOf81 rfl).cv (show _=vP b25 12 from congrArg (vP b25) (by rfl))) rfl ?_)))))))
  replace rb_91:=rb_91.mono ((hh8.trans hh9).trans hmmr)
  refine lX (aR (xB cK (Pc.snd (Pc.fst pH)) rb_91)) fun v247 r247=>?_
  subst r247
  refine mv rfl rfl (yH (A:=[]) (ρ:=rpI) rl_107 ?_)
  intro h10 hh10 rs_109
  refine zF (zV (ρ:=(rpS rpI)) (m:=1) (xs:=[TL]) (ps':=[(0,_)]) underlying81 jT rfl rfl rfl qL e2z (zI rfl (Pc.arr (Pc.here _) [] 0 dC) rs_109 zX) (show 1*1≤16777216 from by decide) nP) rfl rfl rfl ?_
  intro v249 q249 hq249
  obtain⟨cs249,rfl,rl249⟩:=hq249
  refine yH (A:=[]) (ρ:=(rpS rpI)) rl249 ?_
  intro h11 hh11 rs_110
  replace rl_99:=rl_99.mono ((((hh8.trans hh9).trans hmmr).trans hh10).trans hh11)
  refine xS (A:=[]) (jM (yD (ρ:=(rpS rpI)) (bytes:=24) underlying81 jT rfl rfl rfl rfl nP rfl rfl rl_99 rs_110 bO bO)) rfl rfl rfl ?_
  intro v250 q250 hq250
  obtain⟨ho250,cs250,rfl,rl250⟩:=hq250
  refine gv ((xU underlying83 rfl sizeOf81 rfl).cv (show _=vP b25 12 from congrArg (vP b25) (by rfl))) rfl ?_
  replace rb_91:=rb_91.mono (hh10.trans hh11)
  refine zR (A:=[_,_,_]) (uB sizeOf81 (Pc.snd (Pc.fst pH)) rb_91 (zDD ho250)) fun cs_111 rb_112=>(zQ (wT (e':=[(6,_),(10,_),(13,_),(20,_),(24,_),(25,_),(26,_)]) e7 (zH (zL (zE (asg (v:=vI (0)) rfl rfl (zQ (zH (wU ?_)))))))))
  refine gcL (ι:=Nat×List Fc×List Value×Value×List Value×Mem) (fun(q,F1,cs_114,sB_113,cs_116,mf)=>(MLe h11 mf∧((rpP (tLs (k+l1+l2+5)) (rpP rpV (rpS (rpP rpI (rpP rpI (rpQ 1)))))).R mf cs_114 (PP,(sB_113,([]:List En)))∧RL (tFc (4*k+4*l1+4*l2+40) (100*k+100*l1+100*l2+1000)) mf cs_116 F1∧sB_113.oneCell'=true∧q≤(II.getD i []).length∧F1=zNS L lo hi i++sfX L lo hi i q),[(6,vP b6 0),(10,vP b10 0),(13,s13_22),(20,vI (↑BB.length:Int)),(24,vP b24 0),(25,vP b25 0),(26,vI ↑i),(29,vI ↑q)],[.gs 32 1 v250 (T0++[TL]).length cs250,.gs 32 1 v223 (C0++[zJ0 (II.getD i []) (II.getD i []).length]).length cs223,.gs 83 14 sB_113 F1.length cs_116,.var b25 83 cs_111,.var b24 83 cs_102,.var b23 26 cs_72,.gs 32 1 s13_22 II.length cs_27,.gs 53 9 s12_21 BB.length cs_25,.gs 116 2 s11_20 ED.length cs_23,.var b10 50 cs_114,.var b6 50 cs6,.var b5 26 cs5,.var b4 26 cs4],mf,(II.getD i []).length-q)) (0,F0,cs_86,sB_83,cs_92,h11) ?_ ?_
  ·
   refine⟨MLe.refl _,?_⟩
   replace rb_87:=rb_87.mono ((((hh8.trans hh9).trans hmmr).trans hh10).trans hh11)
   replace rl_93:=rl_93.mono ((((hh8.trans hh9).trans hmmr).trans hh10).trans hh11)
   refine⟨rb_87,rl_93,ho_94,?_⟩
   exact⟨by omega,by rw[hF0];exact(List.append_nil _).symm⟩
  intro x hx
  obtain⟨q,F1,cs_114,sB_113,cs_116,mf⟩:=x
  dsimp only at hx
  obtain⟨hmmf,hinv⟩:=hx
  refine yS ?_
  obtain⟨rb_115,rl_117,ho_118,hinv⟩:=hinv
  obtain⟨hq3,hF1⟩:=hinv
  have hF1l:F1.length=g6 L i+q:=by rw[hF1,lAz,zP1 oM];exact congrArg _ (wJ _ _)
  have hi2l:=hI2 i oM
  have hxl:=hnl.2 i oM
  have hti:=zB5 (((i:Int):Int):Rat)
  have htk:=zB5 (((q:Int):Int):Rat)
  have hqi:=zAO (i:Int) oM oM
  have hqk:=zAO (q:Int) oM oM
  refine zL (zL (zE (mv rfl rfl (mv rfl rfl (mv rfl rfl (gv ((yY i mh6 underlying81 sizeOf32 rfl rfl rfl bO nP).cv (show _=zK 1 s13_22 ((i*1+0)) from congrArg (zK 1 s13_22) (by rfl))) rfl ?_))))))
  replace rl_28:=rl_28.mono ((hh10.trans hh11).trans hmmf)
  refine zEA (F:=fun v_=>(rpS rpI).Is mf v_ (II.getD i [])) (wV fO (Pc.arr (Pc.here _) [] i bO) rfl nP rfl rl_28 rfl) (tT mh6) rfl ?_
  intro v256 r256
  refine gv (uY underlying32 rfl r256) rfl (gv (yL rfl rfl) rfl (zQ (zH ?_)))
  refine cnd (fun hc258=>?_) fun hc258=>?_
  ·
   have hra:=hrg i q oM oM
   have hrb:=hrg i ((q+1)%(II.getD i []).length) oM (Nat.mod_lt _ oM)
   refine uL (zH (zL (wU (zL ?_))))
   refine gD 23 (qq 0 23 []) (vG [0,0,3,4,0,24,32,0,0,384,512,0,2048,0,0,24576,32768,65536,135168,263168,524288,127,4194303] (frz 8388607 [0,0,3,4,0,24,32,0,0,384,512,0,2048,0,0,24576,32768,65536,135168,263168,524288,64,1048576]) (by kernel_rfl)) ?_
   refine qA rfl rfl rfl (qA rfl rfl rfl (w_q rfl (fun h' L' hh hR=>(yY i (hR _ mh6) underlying81 sizeOf32 rfl rfl rfl bO nP).cv (show _=zK 1 s13_22 ((i*1+0)) from congrArg (zK 1 s13_22) (by rfl))) rfl (mZ (F:=fun v_=>(rpS rpI).Is mf v_ (II.getD i [])) rfl (wV fO (Pc.arr (Pc.here _) [] i bO) rfl nP rfl rl_28 rfl) (tT mh6) rfl ?_)))
   intro v264 r264
   refine qA rfl rfl rfl (wX rfl (xI (0:Int) q underlying32 ty3 r264) fun v266 r266=>(wX rfl (xA ty3 r266) fun v267 r267=>?_))
   obtain⟨rfl,hl267,hu267⟩:=jW r267
   refine qA rfl rfl rfl (qA rfl rfl rfl (w_q rfl (fun h' L' hh hR=>(yY i (hR _ mh6) underlying81 sizeOf32 rfl rfl rfl bO nP).cv (show _=zK 1 s13_22 ((i*1+0)) from congrArg (zK 1 s13_22) (by rfl))) rfl (mZ (F:=fun v_=>(rpS rpI).Is mf v_ (II.getD i [])) rfl (wV fO (Pc.arr (Pc.here _) [] i bO) rfl nP rfl rl_28 rfl) (tT mh6) rfl ?_)))
   intro v271 r271
   refine qA rfl rfl rfl (xJ rfl (fun _ _=>zY (q:=1) rfl rfl oM oM) rfl (qA rfl rfl rfl (qA rfl rfl rfl (w_q rfl (fun h' L' hh hR=>(yY i (hR _ mh6) underlying81 sizeOf32 rfl rfl rfl bO nP).cv (show _=zK 1 s13_22 ((i*1+0)) from congrArg (zK 1 s13_22) (by rfl))) rfl (mZ (F:=fun v_=>(rpS rpI).Is mf v_ (II.getD i [])) rfl (wV fO (Pc.arr (Pc.here _) [] i bO) rfl nP rfl rl_28 rfl) (tT mh6) rfl ?_)))))
   intro v277 r277
   refine w_q rfl (fun h' L' hh hR=>uY underlying32 rfl (r277.mono hh)) rfl (xJ rfl (fun _ _=>vX rfl rfl oM oM) rfl (wX rfl (xI (0:Int) ((q+1)%(II.getD i []).length) underlying32 ty3 r271 (hi:=by exact Nat.mod_lt _ oM)) fun v280 r280=>(wX rfl (xA ty3 r280) fun v281 r281=>?_)))
   obtain⟨rfl,hl281,hu281⟩:=jW r281
   refine zDZ rfl rfl rfl (zDZ rfl rfl rfl (rM (wT (e':=[(6,_),(10,_),(13,_),(20,_),(24,_),(25,_),(26,_),(29,_),(30,_),(31,_)]) e10 (zH (zL ?_)))))
   refine kE 12 _ [(11,(32,53,[.bool false,.slice none 0 0,.slice none 0 0,.bool false,.slice none 0 0,.slice none 0 0,.bool false,.slice none 0 0,.slice none 0 0]))] [(0,.q),(1,.q),(2,.q),(3,.q),(4,.q),(5,.q),(6,.q),(7,.q),(8,.q),(9,.q),(10,.c),(11,.a),(12,.t)] jN (jK.cons rfl rfl (uZ yV rfl rfl) jK.nil) (vG [0,1,0,6,8,0,32,0,192,256,528,0,4095] [8191,8190,8191,8185,8183,8191,8159,8191,7999,7935,7663,8191,5119] (by kernel_rfl)) (qB rfl rfl kM) (fun r hr=>hr) (xJ rfl (fun _ _=>(xU underlying50 rfl sizeOf46 rfl).cv (show _=vP b10 0 from congrArg (vP b10) (by rfl))) rfl (wX rfl (xB uT (Pc.fst pH) rb_115) fun v283 r283=>(qA rfl rfl rfl (wX rfl (xI zT (((II.getD i []).getD ((q+1)%(II.getD i []).length) 0).toNat) underlying46 zS r283 (hi:=by(show _<PP.length;omega))) fun v285 r285=>(wX rfl (xA zS r285) fun v286 r286=>(xJ rfl (fun _ _=>(xU underlying50 rfl sizeOf46 rfl).cv (show _=vP b10 0 from congrArg (vP b10) (by rfl))) rfl (wX rfl (xB uT (Pc.fst pH) rb_115) fun v288 r288=>(qA rfl rfl rfl (wX rfl (xI zT (((II.getD i []).getD q 0).toNat) underlying46 zS r288 (hi:=by(show _<PP.length;omega))) fun v290 r290=>(wX rfl (xA zS r290) fun v291 r291=>?_))))))))))
   refine w_c rfl (sC (ev2 rfl rfl) call125 (fun w hs=>zRA hs r286 r291 oM) fun v292 h12 hh12 r292=>?_)
   replace r292:=Rp.Is.le r292 (Le.t (Le.q (l:=4*k+4*l1+4*l2+23) oM))
   refine w_a rfl rfl (fun b32=>?_)
   have rb32:(tPt 1).R h12 [.bool false,.slice none 0 0,.slice none 0 0,.bool false,.slice none 0 0,.slice none 0 0,.bool false,.slice none 0 0,.slice none 0 0] zT:=(xW (yF dC))
   have rw_119:=(Le.t (Le.q (l:=4*k+4*l1+4*l2+23) oM)).R rb32
   refine yI (A:=[]) rfl (uB sizeOf53 pH rw_119 r292) fun cs_120 rb_121=>(rM (wT (e':=[(6,_),(10,_),(13,_),(20,_),(24,_),(25,_),(26,_),(29,_),(30,_),(31,_),(32,_)]) e11 (zH (zL ?_))))
   refine kE 8 _ [(7,(33,53,[.bool false,.slice none 0 0,.slice none 0 0,.bool false,.slice none 0 0,.slice none 0 0,.bool false,.slice none 0 0,.slice none 0 0]))] [(0,.q),(1,.q),(2,.q),(3,.q),(5,.q),(4,.c),(6,.q),(7,.a),(8,.t)] jN (jK.cons rfl rfl (uZ yV rfl rfl) jK.nil) (by kernel_rfl) (qB rfl rfl kM) (fun r hr=>hr) (xJ rfl (fun _ _=>(zW (sz:=3) (q:=1) 1 underlying53 sizeOf26 rfl rfl rfl dC).cv (show _=vP b32 3 from congrArg (vP b32) (by rfl))) rfl (wX rfl (xB yA (Pc.ty pH) rb_121) fun v294 r294=>(xJ rfl (fun _ _=>(zW (sz:=3) (q:=0) 0 underlying53 sizeOf26 rfl rfl rfl dC).cv (show _=vP b32 0 from congrArg (vP b32) (by rfl))) rfl (wX rfl (xB yA (Pc.tx pH) rb_121) fun v296 r296=>(wX rfl (xV (ρ:=(rpQ 1)) (wC (ps':=[]) underlying26 yN rfl rfl (vD underlying26) trivial rfl (yF dC) zX)) fun v298 r298=>?_)))))
   refine w_c rfl (sC (ev1 rfl) call31 (fun w hs=>iW hs r296 oM) fun v297 h13 hh13 r297=>?_)
   replace r294:=r294.mono hh13
   replace r298:=r298.mono hh13
   refine wX rfl (xV (ρ:=(tPt (4*k+4*l1+4*l2+23))) (xC (ps':=[(0,_),(1,_),(2,_)]) underlying53 yV rfl rfl sizeOf26 e6z rfl (xW (yF oM)) (zI rfl (Pc.tx (Pc.here _)) r294 (zI rfl (Pc.ty (Pc.here _)) r297 (zI rfl (Pc.tz (Pc.here _)) (r298.le (Le.q (l:=4*k+4*l1+4*l2+23) oM)) zX))))) fun v299 r299=>?_
   refine w_a rfl rfl (fun b33=>?_)
   have rb33:(tPt 1).R h13 [.bool false,.slice none 0 0,.slice none 0 0,.bool false,.slice none 0 0,.slice none 0 0,.bool false,.slice none 0 0,.slice none 0 0] zT:=(xW (yF dC))
   have rw_122:=(Le.t (Le.q (l:=4*k+4*l1+4*l2+23) oM)).R rb33
   refine yI (A:=[]) rfl (uB sizeOf53 pH rw_122 r299) fun cs_123 rb_124=>(rM (zH ?_))
   refine jI (A:=[_,_,_,_]) 32 [] [(0,.q),(1,.q),(2,.q),(3,.q),(4,.q),(5,.q),(6,.q),(7,.q),(8,.q),(11,.q),(12,.q),(13,.q),(14,.q),(15,.q),(16,.q),(17,.q),(18,.q),(21,.q),(25,.q),(0,.x [10,23,24,27] [9,10,22,23,24,26,27] [19,20]),(28,.c),(29,.c),(30,.c),(31,.q),(32,.t)] jN nX (by kernel_rfl) nX (xJ rfl (fun _ _=>(xU underlying50 rfl sizeOf47 rfl).cv (show _=vP b10 1 from congrArg (vP b10) (by rfl))) rfl ?_)
   replace rb_115:=rb_115.mono (hh12.trans hh13)
   refine wX rfl (aR (xB tM (Pc.snd (Pc.fst pH)) rb_115)) fun v301 r301=>?_
   subst r301
   refine wX rfl (xB zS pH rb_124) fun v302 r302=>(wX rfl (xB zS pH rb_124) fun v303 r303=>(xJ rfl (fun _ _=>(xU underlying50 rfl sizeOf46 rfl).cv (show _=vP b10 0 from congrArg (vP b10) (by rfl))) rfl (wX rfl (xB uT (Pc.fst pH) rb_115) fun v305 r305=>(qA rfl rfl rfl (wX rfl (xI zT (((II.getD i []).getD q 0).toNat) underlying46 zS r305 (hi:=by(show _<PP.length;omega))) fun v307 r307=>(wX rfl (xA zS r307) fun v308 r308=>(qA rfl rfl rfl (qA rfl rfl rfl (qA rfl rfl rfl (qA rfl rfl rfl (xJ rfl (fun _ _=>zY rfl rfl oM oM) rfl (qA rfl rfl rfl (qA rfl rfl rfl ?_)))))))))))))
   refine xJ rfl (fun _ _=>zY rfl rfl oM oM) rfl (qA rfl rfl rfl (qA rfl rfl rfl (w_xx (N:=9) rfl ?_)))
   refine zFN rfl rfl rfl rfl ?x2 ?x3
   case' x2=>
    refine sC (ev2 rfl rfl) call44 (fun w hs=>u4 hs r303 r308 oM) fun v309 h14 hh14 r309=>?_
    replace r309:=Rp.Is.le r309 (Le.q (l:=15*k+15*l1+15*l2+93) oM)
    refine fD rfl ?_
    replace r302:=r302.mono hh14
    refine xX rfl (xV (ρ:=(tPl (4*k+4*l1+4*l2+23) (15*k+15*l1+15*l2+93))) (wC (ps':=[(0,_),(1,_)]) underlying80 mE rfl rfl (bF underlying80) e4z rfl (yJ (xW (yF oM)) (yF oM)) (zI rfl (Pc.fst (Pc.here _)) r302 (zI rfl (Pc.snd (Pc.here _)) r309 zX)))) fun v310 r310=>?_
    refine zFN rfl rfl rfl rfl ?x4 ?x5
    case' x4=>
     refine sC (ev1 rfl) call126 (fun w hs=>uF hs oM oM) fun v322 h15 hh15 r322=>?_
     obtain⟨rfl,hb322⟩:=kH r322
     refine fD rfl (bZ rfl (fun _ _=>vJ (pa:=([115]:List Nat)) (pb:=(jE (((↑i:Int):Int):Rat))) rfl rfl (by first|omega|(simp only[lAz,lC,lN,List.length_drop,List.length_take];omega))) rfl (fD rfl (bZ rfl (fun _ _=>vJ (pa:=(([115]:List Nat)++(jE (((↑i:Int):Int):Rat)))) (pb:=([46]:List Nat)) rfl rfl (by first|omega|(simp only[lAz,lC,lN,List.length_drop,List.length_take];omega))) rfl ?_)))
     refine zFN rfl rfl rfl rfl ?x6 ?x7
     case' x6=>
      refine sC (ev1 rfl) call126 (fun w hs=>uF hs oM oM) fun v326 h16 hh16 r326=>?_
      obtain⟨rfl,hb326⟩:=kH r326
      refine fD rfl (bZ rfl (fun _ _=>vJ (pa:=((([115]:List Nat)++(jE (((↑i:Int):Int):Rat)))++([46]:List Nat))) (pb:=(jE (((↑q:Int):Int):Rat))) rfl rfl (by first|omega|(simp only[lAz,lC,lN,List.length_drop,List.length_take];omega))) rfl (zPC rfl rfl (kU (fun X=>zV (ρ:=rpI) (m:=4) (xs:=(lU (II.getD i []) q BB)) (ps':=[(0,_),(1,_),(2,_),(3,_)]) underlying32 gK rfl rfl rfl wF e8 (zI rfl (Pc.arr (Pc.here _) (0:Int) 0 dC) (qF oM oM) (zI rfl (Pc.arr (Pc.here _) (0:Int) 1 dC) (qF oM oM) (zI rfl (Pc.arr (Pc.here _) (0:Int) 2 dC) (qF oM oM) (zI rfl (Pc.arr (Pc.here _) (0:Int) 3 dC) (qF oM oM) zX)))) (show 4*1≤16777216 from by decide) nP) rfl ?_)))
      intro v319 q319 hq319
      obtain⟨cs319,rfl,rl319⟩:=hq319
      refine zPC rfl rfl (vH (A:=[]) (ρ:=rpI) rl319 dK ?_)
      intro h17 hh17 rs_125
      refine kU (fun X=>zV (ρ:=(rpS rpI)) (m:=1) (xs:=[(lU (II.getD i []) q BB)]) (ps':=[(0,_)]) underlying81 jT rfl rfl rfl qL e2z (zI rfl (Pc.arr (Pc.here _) [] 0 dC) rs_125 zX) (show 1*1≤16777216 from by decide) nP) rfl ?_
      intro v320 q320 hq320
      obtain⟨cs320,rfl,rl320⟩:=hq320
      refine zDY ?_
      replace r310:=r310.mono ((hh15.trans hh16).trans hh17)
     case' x7=>
      refine kU (fun X=>zV (ρ:=rpI) (m:=4) (xs:=(lU (II.getD i []) q BB)) (ps':=[(0,_),(1,_),(2,_),(3,_)]) underlying32 gK rfl rfl rfl wF e8 (zI rfl (Pc.arr (Pc.here _) (0:Int) 0 dC) (qF oM oM) (zI rfl (Pc.arr (Pc.here _) (0:Int) 1 dC) (qF oM oM) (zI rfl (Pc.arr (Pc.here _) (0:Int) 2 dC) (qF oM oM) (zI rfl (Pc.arr (Pc.here _) (0:Int) 3 dC) (qF oM oM) zX)))) (show 4*1≤16777216 from by decide) nP) rfl ?_
      intro v319 q319 hq319
      obtain⟨cs319,rfl,rl319⟩:=hq319
      refine zFN rfl rfl rfl rfl ?x8 ?x9
      case' x8=>
       refine sC (ev1 rfl) call126 (fun w hs=>uF hs oM oM) fun v326 h16 hh16 r326=>?_
       obtain⟨rfl,hb326⟩:=kH r326
       refine fD rfl (bZ rfl (fun _ _=>vJ (pa:=((([115]:List Nat)++(jE (((↑i:Int):Int):Rat)))++([46]:List Nat))) (pb:=(jE (((↑q:Int):Int):Rat))) rfl rfl (by first|omega|(simp only[lAz,lC,lN,List.length_drop,List.length_take];omega))) rfl (zPC rfl rfl ?_))
       replace rl319:=rl319.mono hh16
       refine vH (A:=[]) (ρ:=rpI) rl319 dK ?_
       intro h17 hh17 rs_126
       refine kU (fun X=>zV (ρ:=(rpS rpI)) (m:=1) (xs:=[(lU (II.getD i []) q BB)]) (ps':=[(0,_)]) underlying81 jT rfl rfl rfl qL e2z (zI rfl (Pc.arr (Pc.here _) [] 0 dC) rs_126 zX) (show 1*1≤16777216 from by decide) nP) rfl ?_
       intro v320 q320 hq320
       obtain⟨cs320,rfl,rl320⟩:=hq320
       refine zDY ?_
       replace r310:=r310.mono ((hh15.trans hh16).trans hh17)
      case' x9=>
       refine vH (A:=[]) (ρ:=rpI) rl319 dK ?_
       intro h16 hh16 rs_127
       refine kU (fun X=>zV (ρ:=(rpS rpI)) (m:=1) (xs:=[(lU (II.getD i []) q BB)]) (ps':=[(0,_)]) underlying81 jT rfl rfl rfl qL e2z (zI rfl (Pc.arr (Pc.here _) [] 0 dC) rs_127 zX) (show 1*1≤16777216 from by decide) nP) rfl ?_
       intro v320 q320 hq320
       obtain⟨cs320,rfl,rl320⟩:=hq320
       refine zDX rfl rfl (sC (ev1 rfl) call126 (fun w hs=>uF hs oM oM) fun v326 h17 hh17 r326=>?_)
       obtain⟨rfl,hb326⟩:=kH r326
       refine fD rfl (bZ rfl (fun _ _=>vJ (pa:=((([115]:List Nat)++(jE (((↑i:Int):Int):Rat)))++([46]:List Nat))) (pb:=(jE (((↑q:Int):Int):Rat))) rfl rfl (by first|omega|(simp only[lAz,lC,lN,List.length_drop,List.length_take];omega))) rfl (zDY ?_))
       replace r310:=r310.mono ((hh15.trans hh16).trans hh17)
       replace rl320:=rl320.mono hh17
    case' x5=>
     refine kU (fun X=>zV (ρ:=rpI) (m:=4) (xs:=(lU (II.getD i []) q BB)) (ps':=[(0,_),(1,_),(2,_),(3,_)]) underlying32 gK rfl rfl rfl wF e8 (zI rfl (Pc.arr (Pc.here _) (0:Int) 0 dC) (qF oM oM) (zI rfl (Pc.arr (Pc.here _) (0:Int) 1 dC) (qF oM oM) (zI rfl (Pc.arr (Pc.here _) (0:Int) 2 dC) (qF oM oM) (zI rfl (Pc.arr (Pc.here _) (0:Int) 3 dC) (qF oM oM) zX)))) (show 4*1≤16777216 from by decide) nP) rfl ?_
     intro v319 q319 hq319
     obtain⟨cs319,rfl,rl319⟩:=hq319
     refine zFN rfl rfl rfl rfl ?x10 ?x11
     case' x10=>
      refine sC (ev1 rfl) call126 (fun w hs=>uF hs oM oM) fun v322 h15 hh15 r322=>?_
      obtain⟨rfl,hb322⟩:=kH r322
      refine fD rfl (bZ rfl (fun _ _=>vJ (pa:=([115]:List Nat)) (pb:=(jE (((↑i:Int):Int):Rat))) rfl rfl (by first|omega|(simp only[lAz,lC,lN,List.length_drop,List.length_take];omega))) rfl (fD rfl (bZ rfl (fun _ _=>vJ (pa:=(([115]:List Nat)++(jE (((↑i:Int):Int):Rat)))) (pb:=([46]:List Nat)) rfl rfl (by first|omega|(simp only[lAz,lC,lN,List.length_drop,List.length_take];omega))) rfl ?_)))
      refine zFN rfl rfl rfl rfl ?x12 ?x13
      case' x12=>
       refine sC (ev1 rfl) call126 (fun w hs=>uF hs oM oM) fun v326 h16 hh16 r326=>?_
       obtain⟨rfl,hb326⟩:=kH r326
       refine fD rfl (bZ rfl (fun _ _=>vJ (pa:=((([115]:List Nat)++(jE (((↑i:Int):Int):Rat)))++([46]:List Nat))) (pb:=(jE (((↑q:Int):Int):Rat))) rfl rfl (by first|omega|(simp only[lAz,lC,lN,List.length_drop,List.length_take];omega))) rfl (zPC rfl rfl ?_))
       replace rl319:=rl319.mono (hh15.trans hh16)
       refine vH (A:=[]) (ρ:=rpI) rl319 dK ?_
       intro h17 hh17 rs_128
       refine kU (fun X=>zV (ρ:=(rpS rpI)) (m:=1) (xs:=[(lU (II.getD i []) q BB)]) (ps':=[(0,_)]) underlying81 jT rfl rfl rfl qL e2z (zI rfl (Pc.arr (Pc.here _) [] 0 dC) rs_128 zX) (show 1*1≤16777216 from by decide) nP) rfl ?_
       intro v320 q320 hq320
       obtain⟨cs320,rfl,rl320⟩:=hq320
       refine zDY ?_
       replace r310:=r310.mono ((hh15.trans hh16).trans hh17)
      case' x13=>
       replace rl319:=rl319.mono hh15
       refine vH (A:=[]) (ρ:=rpI) rl319 dK ?_
       intro h16 hh16 rs_129
       refine kU (fun X=>zV (ρ:=(rpS rpI)) (m:=1) (xs:=[(lU (II.getD i []) q BB)]) (ps':=[(0,_)]) underlying81 jT rfl rfl rfl qL e2z (zI rfl (Pc.arr (Pc.here _) [] 0 dC) rs_129 zX) (show 1*1≤16777216 from by decide) nP) rfl ?_
       intro v320 q320 hq320
       obtain⟨cs320,rfl,rl320⟩:=hq320
       refine zDX rfl rfl (sC (ev1 rfl) call126 (fun w hs=>uF hs oM oM) fun v326 h17 hh17 r326=>?_)
       obtain⟨rfl,hb326⟩:=kH r326
       refine fD rfl (bZ rfl (fun _ _=>vJ (pa:=((([115]:List Nat)++(jE (((↑i:Int):Int):Rat)))++([46]:List Nat))) (pb:=(jE (((↑q:Int):Int):Rat))) rfl rfl (by first|omega|(simp only[lAz,lC,lN,List.length_drop,List.length_take];omega))) rfl (zDY ?_))
       replace r310:=r310.mono ((hh15.trans hh16).trans hh17)
       replace rl320:=rl320.mono hh17
     case' x11=>
      refine vH (A:=[]) (ρ:=rpI) rl319 dK ?_
      intro h15 hh15 rs_130
      refine kU (fun X=>zV (ρ:=(rpS rpI)) (m:=1) (xs:=[(lU (II.getD i []) q BB)]) (ps':=[(0,_)]) underlying81 jT rfl rfl rfl qL e2z (zI rfl (Pc.arr (Pc.here _) [] 0 dC) rs_130 zX) (show 1*1≤16777216 from by decide) nP) rfl ?_
      intro v320 q320 hq320
      obtain⟨cs320,rfl,rl320⟩:=hq320
      refine zDX rfl rfl (sC (ev1 rfl) call126 (fun w hs=>uF hs oM oM) fun v322 h16 hh16 r322=>?_)
      obtain⟨rfl,hb322⟩:=kH r322
      refine fD rfl (bZ rfl (fun _ _=>vJ (pa:=([115]:List Nat)) (pb:=(jE (((↑i:Int):Int):Rat))) rfl rfl (by first|omega|(simp only[lAz,lC,lN,List.length_drop,List.length_take];omega))) rfl (fD rfl (bZ rfl (fun _ _=>vJ (pa:=(([115]:List Nat)++(jE (((↑i:Int):Int):Rat)))) (pb:=([46]:List Nat)) rfl rfl (by first|omega|(simp only[lAz,lC,lN,List.length_drop,List.length_take];omega))) rfl (zDX rfl rfl (sC (ev1 rfl) call126 (fun w hs=>uF hs oM oM) fun v326 h17 hh17 r326=>?_)))))
      obtain⟨rfl,hb326⟩:=kH r326
      refine fD rfl (bZ rfl (fun _ _=>vJ (pa:=((([115]:List Nat)++(jE (((↑i:Int):Int):Rat)))++([46]:List Nat))) (pb:=(jE (((↑q:Int):Int):Rat))) rfl rfl (by first|omega|(simp only[lAz,lC,lN,List.length_drop,List.length_take];omega))) rfl (zDY ?_))
      replace r310:=r310.mono ((hh15.trans hh16).trans hh17)
      replace rl320:=rl320.mono (hh16.trans hh17)
   case' x3=>
    refine kU (fun X=>zV (ρ:=rpI) (m:=4) (xs:=(lU (II.getD i []) q BB)) (ps':=[(0,_),(1,_),(2,_),(3,_)]) underlying32 gK rfl rfl rfl wF e8 (zI rfl (Pc.arr (Pc.here _) (0:Int) 0 dC) (qF oM oM) (zI rfl (Pc.arr (Pc.here _) (0:Int) 1 dC) (qF oM oM) (zI rfl (Pc.arr (Pc.here _) (0:Int) 2 dC) (qF oM oM) (zI rfl (Pc.arr (Pc.here _) (0:Int) 3 dC) (qF oM oM) zX)))) (show 4*1≤16777216 from by decide) nP) rfl ?_
    intro v319 q319 hq319
    obtain⟨cs319,rfl,rl319⟩:=hq319
    refine zFN rfl rfl rfl rfl ?x14 ?x15
    case' x14=>
     refine sC (ev2 rfl rfl) call44 (fun w hs=>u4 hs r303 r308 oM) fun v309 h14 hh14 r309=>?_
     replace r309:=Rp.Is.le r309 (Le.q (l:=15*k+15*l1+15*l2+93) oM)
     refine fD rfl ?_
     replace r302:=r302.mono hh14
     refine xX rfl (xV (ρ:=(tPl (4*k+4*l1+4*l2+23) (15*k+15*l1+15*l2+93))) (wC (ps':=[(0,_),(1,_)]) underlying80 mE rfl rfl (bF underlying80) e4z rfl (yJ (xW (yF oM)) (yF oM)) (zI rfl (Pc.fst (Pc.here _)) r302 (zI rfl (Pc.snd (Pc.here _)) r309 zX)))) fun v310 r310=>?_
     refine zFN rfl rfl rfl rfl ?x16 ?x17
     case' x16=>
      refine sC (ev1 rfl) call126 (fun w hs=>uF hs oM oM) fun v322 h15 hh15 r322=>?_
      obtain⟨rfl,hb322⟩:=kH r322
      refine fD rfl (bZ rfl (fun _ _=>vJ (pa:=([115]:List Nat)) (pb:=(jE (((↑i:Int):Int):Rat))) rfl rfl (by first|omega|(simp only[lAz,lC,lN,List.length_drop,List.length_take];omega))) rfl (fD rfl (bZ rfl (fun _ _=>vJ (pa:=(([115]:List Nat)++(jE (((↑i:Int):Int):Rat)))) (pb:=([46]:List Nat)) rfl rfl (by first|omega|(simp only[lAz,lC,lN,List.length_drop,List.length_take];omega))) rfl ?_)))
      refine zFN rfl rfl rfl rfl ?x18 ?x19
      case' x18=>
       refine sC (ev1 rfl) call126 (fun w hs=>uF hs oM oM) fun v326 h16 hh16 r326=>?_
       obtain⟨rfl,hb326⟩:=kH r326
       refine fD rfl (bZ rfl (fun _ _=>vJ (pa:=((([115]:List Nat)++(jE (((↑i:Int):Int):Rat)))++([46]:List Nat))) (pb:=(jE (((↑q:Int):Int):Rat))) rfl rfl (by first|omega|(simp only[lAz,lC,lN,List.length_drop,List.length_take];omega))) rfl (zPC rfl rfl ?_))
       replace rl319:=rl319.mono ((hh14.trans hh15).trans hh16)
       refine vH (A:=[]) (ρ:=rpI) rl319 dK ?_
       intro h17 hh17 rs_131
       refine kU (fun X=>zV (ρ:=(rpS rpI)) (m:=1) (xs:=[(lU (II.getD i []) q BB)]) (ps':=[(0,_)]) underlying81 jT rfl rfl rfl qL e2z (zI rfl (Pc.arr (Pc.here _) [] 0 dC) rs_131 zX) (show 1*1≤16777216 from by decide) nP) rfl ?_
       intro v320 q320 hq320
       obtain⟨cs320,rfl,rl320⟩:=hq320
       refine zDY ?_
       replace r310:=r310.mono ((hh15.trans hh16).trans hh17)
      case' x19=>
       replace rl319:=rl319.mono (hh14.trans hh15)
       refine vH (A:=[]) (ρ:=rpI) rl319 dK ?_
       intro h16 hh16 rs_132
       refine kU (fun X=>zV (ρ:=(rpS rpI)) (m:=1) (xs:=[(lU (II.getD i []) q BB)]) (ps':=[(0,_)]) underlying81 jT rfl rfl rfl qL e2z (zI rfl (Pc.arr (Pc.here _) [] 0 dC) rs_132 zX) (show 1*1≤16777216 from by decide) nP) rfl ?_
       intro v320 q320 hq320
       obtain⟨cs320,rfl,rl320⟩:=hq320
       refine zDX rfl rfl (sC (ev1 rfl) call126 (fun w hs=>uF hs oM oM) fun v326 h17 hh17 r326=>?_)
       obtain⟨rfl,hb326⟩:=kH r326
       refine fD rfl (bZ rfl (fun _ _=>vJ (pa:=((([115]:List Nat)++(jE (((↑i:Int):Int):Rat)))++([46]:List Nat))) (pb:=(jE (((↑q:Int):Int):Rat))) rfl rfl (by first|omega|(simp only[lAz,lC,lN,List.length_drop,List.length_take];omega))) rfl (zDY ?_))
       replace r310:=r310.mono ((hh15.trans hh16).trans hh17)
       replace rl320:=rl320.mono hh17
     case' x17=>
      replace rl319:=rl319.mono hh14
      refine vH (A:=[]) (ρ:=rpI) rl319 dK ?_
      intro h15 hh15 rs_133
      refine kU (fun X=>zV (ρ:=(rpS rpI)) (m:=1) (xs:=[(lU (II.getD i []) q BB)]) (ps':=[(0,_)]) underlying81 jT rfl rfl rfl qL e2z (zI rfl (Pc.arr (Pc.here _) [] 0 dC) rs_133 zX) (show 1*1≤16777216 from by decide) nP) rfl ?_
      intro v320 q320 hq320
      obtain⟨cs320,rfl,rl320⟩:=hq320
      refine zDX rfl rfl (sC (ev1 rfl) call126 (fun w hs=>uF hs oM oM) fun v322 h16 hh16 r322=>?_)
      obtain⟨rfl,hb322⟩:=kH r322
      refine fD rfl (bZ rfl (fun _ _=>vJ (pa:=([115]:List Nat)) (pb:=(jE (((↑i:Int):Int):Rat))) rfl rfl (by first|omega|(simp only[lAz,lC,lN,List.length_drop,List.length_take];omega))) rfl (fD rfl (bZ rfl (fun _ _=>vJ (pa:=(([115]:List Nat)++(jE (((↑i:Int):Int):Rat)))) (pb:=([46]:List Nat)) rfl rfl (by first|omega|(simp only[lAz,lC,lN,List.length_drop,List.length_take];omega))) rfl (zDX rfl rfl (sC (ev1 rfl) call126 (fun w hs=>uF hs oM oM) fun v326 h17 hh17 r326=>?_)))))
      obtain⟨rfl,hb326⟩:=kH r326
      refine fD rfl (bZ rfl (fun _ _=>vJ (pa:=((([115]:List Nat)++(jE (((↑i:Int):Int):Rat)))++([46]:List Nat))) (pb:=(jE (((↑q:Int):Int):Rat))) rfl rfl (by first|omega|(simp only[lAz,lC,lN,List.length_drop,List.length_take];omega))) rfl (zDY ?_))
      replace r310:=r310.mono ((hh15.trans hh16).trans hh17)
      replace rl320:=rl320.mono (hh16.trans hh17)
    case' x15=>
     refine vH (A:=[]) (ρ:=rpI) rl319 dK ?_
     intro h14 hh14 rs_134
     refine kU (fun X=>zV (ρ:=(rpS rpI)) (m:=1) (xs:=[(lU (II.getD i []) q BB)]) (ps':=[(0,_)]) underlying81 jT rfl rfl rfl qL e2z (zI rfl (Pc.arr (Pc.here _) [] 0 dC) rs_134 zX) (show 1*1≤16777216 from by decide) nP) rfl ?_
     intro v320 q320 hq320
     obtain⟨cs320,rfl,rl320⟩:=hq320
     refine zDX rfl rfl ?_
     replace r303:=r303.mono hh14
     replace r308:=r308.mono hh14
     refine sC (ev2 rfl rfl) call44 (fun w hs=>u4 hs r303 r308 oM) fun v309 h15 hh15 r309=>?_
     replace r309:=Rp.Is.le r309 (Le.q (l:=15*k+15*l1+15*l2+93) oM)
     refine fD rfl ?_
     replace r302:=r302.mono (hh14.trans hh15)
     refine xX rfl (xV (ρ:=(tPl (4*k+4*l1+4*l2+23) (15*k+15*l1+15*l2+93))) (wC (ps':=[(0,_),(1,_)]) underlying80 mE rfl rfl (bF underlying80) e4z rfl (yJ (xW (yF oM)) (yF oM)) (zI rfl (Pc.fst (Pc.here _)) r302 (zI rfl (Pc.snd (Pc.here _)) r309 zX)))) fun v310 r310=>(zDX rfl rfl (sC (ev1 rfl) call126 (fun w hs=>uF hs oM oM) fun v322 h16 hh16 r322=>?_))
     obtain⟨rfl,hb322⟩:=kH r322
     refine fD rfl (bZ rfl (fun _ _=>vJ (pa:=([115]:List Nat)) (pb:=(jE (((↑i:Int):Int):Rat))) rfl rfl (by first|omega|(simp only[lAz,lC,lN,List.length_drop,List.length_take];omega))) rfl (fD rfl (bZ rfl (fun _ _=>vJ (pa:=(([115]:List Nat)++(jE (((↑i:Int):Int):Rat)))) (pb:=([46]:List Nat)) rfl rfl (by first|omega|(simp only[lAz,lC,lN,List.length_drop,List.length_take];omega))) rfl (zDX rfl rfl (sC (ev1 rfl) call126 (fun w hs=>uF hs oM oM) fun v326 h17 hh17 r326=>?_)))))
     obtain⟨rfl,hb326⟩:=kH r326
     refine fD rfl (bZ rfl (fun _ _=>vJ (pa:=((([115]:List Nat)++(jE (((↑i:Int):Int):Rat)))++([46]:List Nat))) (pb:=(jE (((↑q:Int):Int):Rat))) rfl rfl (by first|omega|(simp only[lAz,lC,lN,List.length_drop,List.length_take];omega))) rfl (zDY ?_))
     replace rl320:=rl320.mono ((hh15.trans hh16).trans hh17)
     replace r310:=r310.mono (hh16.trans hh17)
   all_goals
    refine w_c rfl (vH (A:=[]) (ρ:=(rpS rpI)) rl320 dK ?_)
    intro h18 hh18 rs_135
    replace r310:=r310.mono hh18
    refine sX (xV (ρ:=(tFc (4*k+4*l1+4*l2+23) (15*k+15*l1+15*l2+93))) (wC (ps':=[(0,_),(1,_),(2,_)]) underlying83 jA rfl rfl (lG underlying83) e6z rfl (yJ (yJ (xW (yF oM)) (yF oM)) (yJ qL kO)) (zI rfl (Pc.fst (Pc.here _)) r310 (zI rfl (Pc.snd (Pc.fst (Pc.here _))) rs_135 (zI rfl (Pc.snd (Pc.snd (Pc.here _))) (bQ ((((show ByB [115] by unfold ByB;decide).app hb322).app (show ByB [46] by unfold ByB;decide)).app hb326)) zX))))) fun v328 r328=>?_
    refine w_c rfl (kU (fun X=>zV (ρ:=(tFc (4*k+4*l1+4*l2+23) (15*k+15*l1+15*l2+93))) (m:=1) (xs:=[(((nU PP sB_113 (II.getD i []) q),jG (nU PP sB_113 (II.getD i []) q) (pU PP sB_113 ((II.getD i []).getD q 0))),([(lU (II.getD i []) q BB)],(((([115]:List Nat)++(jE (((↑i:Int):Int):Rat)))++([46]:List Nat))++(jE (((↑q:Int):Int):Rat)))))]) (ps':=[(0,_)]) underlying47 jA rfl rfl rfl (yJ (yJ (xW (yF oM)) (yF oM)) (yJ qL kO)) e2z (zI rfl (Pc.arr (Pc.here _) zA 0 dC) r328 zX) (show 1*14≤16777216 from by decide) nP) rfl ?_)
    intro v329 q329 hq329
    obtain⟨cs329,rfl,rl329⟩:=hq329
    refine w_c rfl (vH (A:=[]) (ρ:=(tFc (4*k+4*l1+4*l2+23) (15*k+15*l1+15*l2+93))) rl329 dK ?_)
    intro h19 hh19 rs_136
    replace rl_117:=rl_117.mono (((((((hh12.trans hh13).trans hh14).trans hh15).trans hh16).trans hh17).trans hh18).trans hh19)
    refine sR (A:=[_,_,_,_]) (fun X=>jM (yD (ρ:=(tFc (4*k+4*l1+4*l2+40) (100*k+100*l1+100*l2+1000))) (bytes:=264) underlying47 jA rfl rfl rfl rfl nP rfl rfl rl_117 (rs_136.le (Le.s (Le.p (Le.p (Le.t (Le.q (l:=4*k+4*l1+4*l2+40) oM)) (Le.q (l:=100*k+100*l1+100*l2+1000) oM)) (Le.refl _)))) bO bO)) rfl (wM (by first|(simp;done)|grind)) ?_
    intro v330 q330 hq330
    obtain⟨ho330,cs330,rfl,rl330⟩:=hq330
    refine xJ rfl (fun _ _=>(xU underlying50 rfl sizeOf47 rfl).cv (show _=vP b10 1 from congrArg (vP b10) (by rfl))) rfl ?_
    replace rb_115:=rb_115.mono (((((hh14.trans hh15).trans hh16).trans hh17).trans hh18).trans hh19)
    refine yI (A:=[_,_,_,_,_,_,_,_,_,_,_]) rfl (uB sizeOf47 (Pc.snd (Pc.fst pH)) rb_115 (zDD ho330)) fun cs_137 rb_138=>(rM (tU (wT (e':=[(6,_),(10,_),(13,_),(20,_),(24,_),(25,_),(26,_),(29,_)]) e8 (zH (zE (mv rfl rfl (gv (zY (q:=1) rfl rfl oM oM) rfl (asg rfl rfl (zQ (vV (A:=[]) (vV (A:=[]) ?_)))))))))))
    refine gqL ((q+1),(F1++[(((nU PP sB_113 (II.getD i []) q),jG (nU PP sB_113 (II.getD i []) q) (pU PP sB_113 ((II.getD i []).getD q 0))),([(lU (II.getD i []) q BB)],(((([115]:List Nat)++(jE (((↑i:Int):Int):Rat)))++([46]:List Nat))++(jE (((↑q:Int):Int):Rat)))))]),cs_137,v330,cs330,h19) ?_ ?_
    ·
     refine⟨((((((((hmmf.trans hh12).trans hh13).trans hh14).trans hh15).trans hh16).trans hh17).trans hh18).trans hh19),?_⟩
     refine⟨rb_138,rl330,ho330,?_⟩
     exact⟨by omega,by rw[hF1,hPP2,hII,hBB,List.append_assoc];rfl⟩
    omega
  have ef:q=(II.getD i []).length:=by omega
  refine kX (uJ (uJ (kW (tU (zH (zE (mv rfl rfl (gv (zY (q:=1) rfl rfl oM oM) rfl (asg rfl rfl (zQ ?_))))))))))
  refine gqL ((i+1),F1,(C0++[zJ0 (II.getD i []) (II.getD i []).length]),(T0++[TL]),cs_114,cs_102,cs_111,sB_113,cs_116,v223,cs223,v250,cs250,mf) ?_ ?_
  ·
   refine⟨((((((hmmq.trans hh8).trans hh9).trans hmmr).trans hh10).trans hh11).trans hmmf),?_⟩
   replace rl223:=rl223.mono (((hmmr.trans hh10).trans hh11).trans hmmf)
   replace rb_103:=rb_103.mono (((hmmr.trans hh10).trans hh11).trans hmmf)
   replace rl250:=rl250.mono hmmf
   replace rb_112:=rb_112.mono hmmf
   refine⟨rb_115,rb_103,rb_112,rl_117,ho_118,rl223,ho223,rl250,ho250,?_⟩
   exact⟨by omega,by rw[hC0,hII];rfl,by rw[hT0,hTL,ek,hII];rfl,by rw[hF1,ef,hII];rfl⟩
  omega
 have eii:i=(bxZ L).length:=by rw[zZX];omega
 rw[eii] at hC0 hT0 hF0
 refine kX (uJ (uJ (kW (zH (zL (zE (gv ((xU underlying50 rfl sizeOf47 rfl).cv (show _=vP b10 1 from congrArg (vP b10) (by rfl))) rfl (lX (aR (xB tM (Pc.snd (Pc.fst pH)) rb_87)) fun v333 r333=>?_))))))))
 subst r333
 refine yH (A:=[_]) (ρ:=(rpS rpI)) rl_96 ?_
 intro h8 hh8 rs_139
 replace rb_89:=rb_89.mono hh8
 have rb_140:(tFc 5 (l1+l2+5)).R h8 cs_88 (((T3.mk (0:Rat) (0:Rat) (-((1:Int):Rat)),-lo),(sC_84,[98,111,116,116,111,109])).1,(C0,(((T3.mk (0:Rat) (0:Rat) (-((1:Int):Rat)),-lo),(sC_84,[98,111,116,116,111,109])).2).2)):=zJI rb_89 rs_139
 replace rl_99:=rl_99.mono hh8
 refine yH (A:=[]) (ρ:=(rpS rpI)) rl_99 ?_
 intro h9 hh9 rs_141
 replace rb_91:=rb_91.mono (hh8.trans hh9)
 have rb_142:(tFc 5 (l1+l2+5)).R h9 cs_90 (((T3.mk (0:Rat) (0:Rat) ((1:Int):Rat),hi),(sD_85,[116,111,112])).1,(T0,(((T3.mk (0:Rat) (0:Rat) ((1:Int):Rat),hi),(sD_85,[116,111,112])).2).2)):=zJI rb_91 rs_141
 replace rb_140:=rb_140.mono hh9
 refine lX (xB fR pH rb_140) fun v334 r334=>(lX (xB fR pH rb_142) fun v335 r335=>(zF (zV (ρ:=(tFc 5 (l1+l2+5))) (m:=2) (xs:=[(((T3.mk (0:Rat) (0:Rat) (-((1:Int):Rat)),-lo),(sC_84,[98,111,116,116,111,109])).1,(C0,(((T3.mk (0:Rat) (0:Rat) (-((1:Int):Rat)),-lo),(sC_84,[98,111,116,116,111,109])).2).2)),(((T3.mk (0:Rat) (0:Rat) ((1:Int):Rat),hi),(sD_85,[116,111,112])).1,(T0,(((T3.mk (0:Rat) (0:Rat) ((1:Int):Rat),hi),(sD_85,[116,111,112])).2).2))]) (ps':=[(0,_),(1,_)]) underlying47 jA rfl rfl rfl (yJ (yJ (xW (yF dC)) (yF oM)) (yJ qL kO)) e4z (zI rfl (Pc.arr (Pc.here _) zA 0 dC) r334 (zI rfl (Pc.arr (Pc.here _) zA 1 dC) r335 zX)) (show 2*14≤16777216 from by decide) nP) rfl rfl rfl ?_))
 intro v336 q336 hq336
 obtain⟨cs336,rfl,rl336⟩:=hq336
 refine yH (A:=[]) (ρ:=(tFc 5 (l1+l2+5))) rl336 ?_
 intro h10 hh10 rs_143
 replace rl_93:=rl_93.mono ((hh8.trans hh9).trans hh10)
 refine xS (A:=[]) (jM (yD (ρ:=(tFc (4*k+4*l1+4*l2+40) (100*k+100*l1+100*l2+1000))) (bytes:=264) underlying47 jA rfl rfl rfl rfl nP rfl rfl rl_93 (rs_143.le (Le.s (Le.p (Le.p (Le.t (Le.q (l:=4*k+4*l1+4*l2+40) oM)) (Le.q (l:=100*k+100*l1+100*l2+1000) oM)) (Le.refl _)))) bO bO)) rfl rfl rfl ?_
 intro v337 q337 hq337
 obtain⟨ho337,cs337,rfl,rl337⟩:=hq337
 refine gv ((xU underlying50 rfl sizeOf47 rfl).cv (show _=vP b10 1 from congrArg (vP b10) (by rfl))) rfl ?_
 replace rb_87:=rb_87.mono ((hh8.trans hh9).trans hh10)
 refine zR (A:=[_,_,_,_,_,_,_]) (uB sizeOf47 (Pc.snd (Pc.fst pH)) rb_87 (zDD ho337)) fun cs_144 rb_145=>(zQ (wT (e':=[(6,_),(10,_)]) e2z (zH (zL (zE (yH (A:=[]) (ρ:=(tFc (4*k+4*l1+4*l2+40) (100*k+100*l1+100*l2+1000))) rl337 ?_))))))
 intro h11 hh11 rs_146
 replace rb_145:=rb_145.mono hh11
 have rb_147:(tSd (k+l1+l2+5) (4*k+4*l1+4*l2+40) (100*k+100*l1+100*l2+1000) 1).R h11 cs_144 ((PP,(sB_83,([]:List En))).1,((F0++[(((T3.mk (0:Rat) (0:Rat) (-((1:Int):Rat)),-lo),(sC_84,[98,111,116,116,111,109])).1,(C0,(((T3.mk (0:Rat) (0:Rat) (-((1:Int):Rat)),-lo),(sC_84,[98,111,116,116,111,109])).2).2)),(((T3.mk (0:Rat) (0:Rat) ((1:Int):Rat),hi),(sD_85,[116,111,112])).1,(T0,(((T3.mk (0:Rat) (0:Rat) ((1:Int):Rat),hi),(sD_85,[116,111,112])).2).2))]),((PP,(sB_83,([]:List En))).2).2)):=zJI rb_145 rs_146
 have rb_148:(tSd (k+l1+l2+5) (4*k+4*l1+4*l2+40) (100*k+100*l1+100*l2+1000) 1).R h11 cs_144 (prR L lo hi):=Rp.castR rb_147 (by rw[hF0,hPP2,hC0,hT0];rfl)
 refine lX (xB kF pH rb_148) fun v339 r339=>?_
 refine qU (vs:=[_]) rfl rfl rfl rfl call82 ⟨rfl,trivial⟩ (fun w hs=>zCU hs r339 (by first|omega|exact hcd4 he0) (by first|omega|exact hcd4 he0) (by first|omega|exact hcd4 he0) (by first|omega|exact hcd4 he0)) ?_
 intro v340 h12 L340 hh12 r340
 obtain⟨vf340,cs_149,r340,rfl,ho_150,rl_151⟩:=r340
 change RL (tFc (4*(4*k+4*l1+4*l2+40)+12) ((4*k+4*l1+4*l2+40)+(100*k+100*l1+100*l2+1000)+12)) h12 cs_149 (nrF (prR L lo hi)) at rl_151
 replace r340:=Rp.Is.le r340 (Le.p (Le.s (Le.t (Le.q (l:=k+l1+l2+6) oM))) (Le.p (Le.refl _) (Le.s (Le.p (Le.refl _) (Le.p (Le.refl _) (Le.q (l:=2) oM))))))
 replace rl_151:=(Le.p (Le.p (Le.t (Le.q (l:=16*k+16*l1+16*l2+172) oM)) (Le.q (l:=104*k+104*l1+104*l2+1052) oM)) (Le.refl _)).rl rl_151
 replace rb6:=rb6.mono ((((((((((((((hh1.trans hh2).trans hh3).trans hmma).trans hmmp).trans hh4).trans hh5).trans hh6).trans hh7).trans hmmq).trans hh8).trans hh9).trans hh10).trans hh11).trans hh12)
 have rw_152:=(Le.p (Le.s (Le.t (Le.q (l:=k+l1+l2+6) oM))) (Le.p (Le.refl _) (Le.s (Le.p (Le.refl _) (Le.p (Le.refl _) (Le.q (l:=2) dC)))))).R rb6
 refine zR (A:=[_,_,_,_,_,_,_,_]) (uB sizeOf50 pH rw_152 r340) fun cs_153 rb_154=>(asg (v:=vI (0)) rfl rfl (zQ (zH (bR ?_))))
 rw[he0,he1,he2]
 refine wL (jZ (t:=6) kF (.tail _ mh7) rfl rb_154) ?_
 intro w_155 hvw_155 rr_156
 refine gY (.cons_cons _ (List.nil_sublist _)) (fun E S=>vW rfl hvw_155 (jP rfl) E S) ?_
 exact⟨_,_,_,rfl,(Rp.Is.cast (Rp.Is.le rr_156 (Le.p (Le.s (Le.t (Le.q (l:=k+l1+l2+20) oM))) (Le.p (Le.refl _) (Le.s (Le.p (Le.refl _) (Le.p (Le.refl _) (Le.q (l:=5) dC))))))) (by rw[show nrE (prR L lo hi)=[] from by unfold nrE;split<;>rfl])),rfl,ho_150,((Le.p (Le.p (Le.t (Le.q (l:=1000*k+1000*l1+1000*l2+2000) oM)) (Le.q (l:=1000*k+1000*l1+1000*l2+2000) oM)) (Le.refl _)).rl rl_151)⟩
end Go.Proofs.YtboaboflnckgoaaGreat
namespace Bk
set_option linter.unusedVariables false
set_option linter.unusedSimpArgs false
open Classical
def oB{α:Type}(f:α→α)(d:α)(A:List α):Nat→List α
  |0=>A
  |k+1=>(oB f d A k).set k (f ((oB f d A k).getD k d))
theorem eF{α:Type}(f:α→α)(d:α)(A:List α):∀k,(oB f d A k).length=A.length
  |0=>rfl
  |k+1=>by
   show List.length (List.set _ _ _)=_
   rw[lS];exact eF f d A k
theorem zB4{α:Type}(f:α→α)(d:α)(A:List α):∀k i,i<A.length→(oB f d A k).getD i d=if i<k then f (A.getD i d) else A.getD i d
  |0,i,_=>rfl
  |k+1,i,h=>by
   show(List.set _ k _).getD i d=_
   rw[List.getD_eq_getElem?_getD,List.getElem?_set]
   split
   · rename_i e
     subst e
     rw[if_pos (by rw[eF];exact h),if_pos (by omega),zB4 f d A k k h,if_neg (by omega)];rfl
   · rename_i e
     rw[←List.getD_eq_getElem?_getD,zB4 f d A k i h]
     by_cases h1:i<k
     · rw[if_pos h1,if_pos (by omega)]
     · rw[if_neg h1,if_neg (by omega)]
theorem zTK{α:Type}(f:α→α)(d:α)(A:List α):oB f d A A.length=A.map f:=by
  refine List.ext_getElem (by rw[eF,List.length_map]) fun i h1 h2=>?_
  rw[eF] at h1
  have:=zB4 f d A A.length i h1
  rw[if_pos h1,List.getD_eq_getElem?_getD,List.getElem?_eq_getElem (by rw[eF];exact h1)] at this
  rw[List.getD_eq_getElem?_getD,List.getElem?_eq_getElem h1] at this
  rw[List.getElem_map]
  exact this
noncomputable def rnN(n:List Nat):List Nat:=if n=[98,111,116,116,111,109] then[122,48] else if n=[116,111,112] then[122,49] else if n=[115,48,46,48] then[121,48] else if n=[115,48,46,49] then[120,49] else if n=[115,48,46,50] then[121,49] else if n=[115,48,46,51] then[120,48] else n
noncomputable def rnF(f:Fc):Fc:=(f.1,(f.2.1,rnN f.2.2))
theorem zJN{F F0:List Fc}{i:Nat}{nm:List Nat}(hF:F=oB rnF zA F0 i)(h:rnN (F.getD i zA).2.2=nm):F.set i ((F.getD i zA).1,((F.getD i zA).2.1,nm))=oB rnF zA F0 (i+1):=by
  subst hF;subst h;rfl
theorem yAB{F F0:List Fc}{i:Nat}(hF:F=oB rnF zA F0 i)(h:rnN (F.getD i zA).2.2=(F.getD i zA).2.2)(hi:i<F.length):F=oB rnF zA F0 (i+1):=by
  rw[←zJN hF h]
  show F=F.set i (F.getD i zA)
  rw[List.getD_eq_getElem?_getD,List.getElem?_eq_getElem hi]
  exact(List.set_getElem_self hi).symm
section
variable (a b:Pt)
def mX:Prop:=∀u,u<3→¬0≤wG (a.at u) (b.at u)
def blL:List (List Pt):=[[T3.mk a.x a.y (0:Rat),T3.mk b.x a.y (0:Rat),T3.mk b.x b.y (0:Rat),T3.mk a.x b.y (0:Rat)]]
noncomputable def blG:List Fc:=oB rnF zA (prF (blL a b) a.z b.z) (prF (blL a b) a.z b.z).length
noncomputable def blS:Sd:=(prP (blL a b) a.z b.z,blG a b,[])
noncomputable def blP:List Pt:=if mX a b then nrP (blS a b) else[]
noncomputable def blF:List Fc:=if mX a b then nrF (blS a b) else[]
noncomputable def blE:Int:=if mX a b then prE (blL a b) a.z b.z else 9
def blH:Prop:=(∀x,x∈blL a b→nG x)∧(prE (blL a b) a.z b.z=0→okS (prR (blL a b) a.z b.z))∧okS (blS a b)
end
theorem zUM{L:List (List Pt)}{lo hi:Rat}(h:prE L lo hi=0→okS (prR L lo hi)):(prF L lo hi).length≤1000:=by
  unfold prF
  split
  · rename_i h0
    unfold nrF
    split
    · rw[zKY];exact(h h0).1.1.2
    · exact Nat.zero_le _
  · exact Nat.zero_le _
theorem bl_9{a b:Pt}(h:¬mX a b):blE a b=9∧blP a b=[]∧blF a b=[]:=⟨if_neg h,if_neg h,if_neg h⟩
theorem zVX{a b:Pt}(h:mX a b):blE a b=prE (blL a b) a.z b.z∧blP a b=nrP (blS a b)∧blF a b=nrF (blS a b):=⟨if_pos h,if_pos h,if_pos h⟩
end Bk
namespace Go.Proofs.YtboaboflnckgoaaGreat
open Bk Go Tryz
set_option linter.unusedVariables false
set_option linter.unusedSimpArgs false
set_option maxRecDepth 10000
set_option maxHeartbeats 1000000
attribute [local irreducible] GL GC GQ W OpV
set_option maxHeartbeats 1000000 in
theorem zE0{w0:World}{h0:Mem}(hs:MLe h0 (mem w0)){k l:Nat}{va:Value}{a:Tq}(ra:(tPt k).Is h0 va a){vb:Value}{b:Tq}(rb:(tPt l).Is h0 vb b)(hcd0:k≤5)(hcd1:l≤5)(hcd2:mX a b→blH a b):
    Calls Tryz.prog 35 #[va,vb] w0 (sQ w0 h0 (fun h r L_=>∃u0 vF cs,r=.tuple #[u0,vI (blE a b)]∧(rpP (tLs (2*k+2*l+40)) (rpP rpV (rpS (rpP rpI (rpP rpI (rpQ 6)))))).Is h u0 (blP a b,(vF,[]))∧L_=[.gs 83 14 vF (blF a b).length cs]∧vF.oneCell'=true∧RL (tFc (10000*k+10000*l+20000) (10000*k+10000*l+20000)) h cs (blF a b))):=by
 refine cb2 102 va vb func35 hs ?_
 refine go2 ?_
 refine nB ra fun b2 cs2 rb2=>(nB rb fun b3 cs3 rb3=>(nA (ρ:=(rpP (tLs 1) (rpP rpV (rpS (rpP rpI (rpP rpI (rpQ 1))))))) (X:=([],((Value.slice none 0 0),[]))) tO (yJ qL (yJ cJ qL)) fun b4 cs4 rb4=>?_))
 refine vO ?_
 refine gcL (ι:=Nat×Mem) (fun(i,ma)=>(MLe h0 ma∧(i≤3∧∀u,u<i→¬0≤wG (a.at u) (b.at u)),[(2,vP b2 0),(3,vP b3 0),(4,vP b4 0),(6,vI ↑i)],[.var b4 50 cs4,.var b3 53 cs3,.var b2 53 cs2],ma,3-i)) (0,h0) ?_ ?_
 ·
  refine⟨MLe.refl _,?_⟩
  exact⟨by omega,fun u h=>by omega⟩
 intro x hx
 obtain⟨i,ma⟩:=x
 dsimp only at hx
 obtain⟨hmma,hinv⟩:=hx
 refine yS ?_
 obtain⟨hi1,hi2⟩:=hinv
 refine go7 ?_
 refine cnd (fun hc12=>?_) fun hc12=>?_
 ·
  refine go5 ?_
  refine gD 8 (qq 0 6 [(6,.c),(7,.q)]) (by kernel_rfl) ?_
  refine go1 ?_
  refine xJ rfl (fun _ _=>(zW (sz:=3) i underlying53 sizeOf26 rfl rfl rfl oM).cv (show _=vP b2 ((i*3+0)) from congrArg (vP b2) oM)) rfl (wX rfl (xB yA (Pc.ta pH i oM) rb2) fun v17 r17=>?_)
  refine go1 ?_
  refine xJ rfl (fun _ _=>(zW (sz:=3) i underlying53 sizeOf26 rfl rfl rfl oM).cv (show _=vP b3 ((i*3+0)) from congrArg (vP b3) oM)) rfl (wX rfl (xB yA (Pc.ta pH i oM) rb3) fun v20 r20=>?_)
  refine w_c rfl (sC (ev2 rfl rfl) call18 (fun w hs=>kA hs r17 r20 oM) fun v21 h1 hh1 r21=>?_)
  obtain rfl:v21=vI (wG (a.at i) (b.at i)):=r21
  have hcr21:=jB (a.at i) (b.at i)
  refine go3 ?_
  refine cnd (fun hc22=>?_) fun hc22=>?_
  ·
   refine go2 ?_
   refine lX (xV (ρ:=(rpP (tLs 1) (rpP rpV (rpS (rpP rpI (rpP rpI (rpQ 1))))))) (wC (ps':=[]) underlying50 tO rfl rfl (bG underlying50) trivial rfl (yJ qL (yJ cJ qL)) zX)) fun v23 r23=>?_
   replace rb4:=rb4.mono (hmma.trans hh1)
   refine zR (A:=[]) (uB sizeOf50 pH rb4 r23) fun cs_1 rb_2=>?_
   refine go9 ?_
   obtain⟨e1,e2,e3⟩:=bl_9 (a:=a) (b:=b) (fun e=>e i oM hc22)
   rw[e1,e2,e3]
   refine cZ 83 14 ?_
   have rl_3:RL (tFc (10000*k+10000*l+20000) (10000*k+10000*l+20000)) h1 [] ([]:List (Pq×((List (List Int))×(List Nat)))):=RL.nil
   refine wL (jZ (t:=4) kF mh1 rfl rb_2) ?_
   intro w_4 hvw_4 rr_5
   refine gY (.cons_cons _ (List.nil_sublist _)) (fun E S=>vW rfl hvw_4 (jP rfl) E S) ?_
   exact⟨_,_,_,rfl,(Rp.Is.le rr_5 (Le.p (Le.s (Le.t (Le.q (l:=2*k+2*l+40) oM))) (Le.p (Le.refl _) (Le.s (Le.p (Le.refl _) (Le.p (Le.refl _) (Le.q (l:=6) dC))))))),rfl,rfl,rl_3⟩
  refine go8 ?_
  refine gqL ((i+1),h1) ?_ ?_
  ·
   refine⟨(hmma.trans hh1),?_⟩
   exact⟨by omega,qN (Q:=fun u=>¬0≤wG (a.at u) (b.at u)) hi2 hc22⟩
  omega
 have hok:mX a b:=fun u hu=>hi2 u oM
 have hbl:=hcd2 hok
 have hfl:=zUM hbl.2.1
 refine go8 ?_
 refine lX (xB yA (Pc.tx pH) rb2) fun v26 r26=>?_
 refine go1 ?_
 refine lX (xB yA (Pc.ty pH) rb2) fun v28 r28=>(lX (xV (ρ:=(tPt (k+1))) (xC (ps':=[(0,_),(1,_)]) underlying53 yV rfl rfl sizeOf26 e4z rfl (xW (yF oM)) (zI rfl (Pc.tx (Pc.here _)) (r26.le (Le.q (l:=k+1) oM)) (zI rfl (Pc.ty (Pc.here _)) (r28.le (Le.q (l:=k+1) oM)) zX)))) fun v29 r29=>?_)
 refine go1 ?_
 refine lX (xB yA (Pc.tx pH) rb3) fun v31 r31=>?_
 refine go1 ?_
 refine lX (xB yA (Pc.ty pH) rb2) fun v33 r33=>(lX (xV (ρ:=(tPt (k+l+1))) (xC (ps':=[(0,_),(1,_)]) underlying53 yV rfl rfl sizeOf26 e4z rfl (xW (yF oM)) (zI rfl (Pc.tx (Pc.here _)) (r31.le (Le.q (l:=k+l+1) oM)) (zI rfl (Pc.ty (Pc.here _)) (r33.le (Le.q (l:=k+l+1) oM)) zX)))) fun v34 r34=>?_)
 refine go1 ?_
 refine lX (xB yA (Pc.tx pH) rb3) fun v36 r36=>?_
 refine go1 ?_
 refine lX (xB yA (Pc.ty pH) rb3) fun v38 r38=>(lX (xV (ρ:=(tPt (l+1))) (xC (ps':=[(0,_),(1,_)]) underlying53 yV rfl rfl sizeOf26 e4z rfl (xW (yF oM)) (zI rfl (Pc.tx (Pc.here _)) (r36.le (Le.q (l:=l+1) oM)) (zI rfl (Pc.ty (Pc.here _)) (r38.le (Le.q (l:=l+1) oM)) zX)))) fun v39 r39=>?_)
 refine go1 ?_
 refine lX (xB yA (Pc.tx pH) rb2) fun v41 r41=>?_
 refine go1 ?_
 refine lX (xB yA (Pc.ty pH) rb3) fun v43 r43=>(lX (xV (ρ:=(tPt (k+l+1))) (xC (ps':=[(0,_),(1,_)]) underlying53 yV rfl rfl sizeOf26 e4z rfl (xW (yF oM)) (zI rfl (Pc.tx (Pc.here _)) (r41.le (Le.q (l:=k+l+1) oM)) (zI rfl (Pc.ty (Pc.here _)) (r43.le (Le.q (l:=k+l+1) oM)) zX)))) fun v44 r44=>(zF (zV (ρ:=(tPt (k+l+1))) (m:=4) (xs:=[(zZ a),(T3.mk b.x a.y (0:Rat)),(zZ b),(T3.mk a.x b.y (0:Rat))]) (ps':=[(0,_),(1,_),(2,_),(3,_)]) underlying46 yV rfl rfl rfl (xW (yF oM)) e8 (zI rfl (Pc.arr (Pc.here _) zT 0 dC) (r29.le (Le.t (Le.q (l:=k+l+1) oM))) (zI rfl (Pc.arr (Pc.here _) zT 1 dC) r34 (zI rfl (Pc.arr (Pc.here _) zT 2 dC) (r39.le (Le.t (Le.q (l:=k+l+1) oM))) (zI rfl (Pc.arr (Pc.here _) zT 3 dC) r44 zX)))) (show 4*9≤16777216 from by decide) nP) rfl rfl rfl ?_))
 intro v45 q45 hq45
 obtain⟨cs45,rfl,rl45⟩:=hq45
 refine yH (A:=[]) (ρ:=(tPt (k+l+1))) rl45 ?_
 intro h1 hh1 rs_6
 refine zF (zV (ρ:=(tLs (k+l+1))) (m:=1) (xs:=[[(zZ a),(T3.mk b.x a.y (0:Rat)),(zZ b),(T3.mk a.x b.y (0:Rat))]]) (ps':=[(0,_)]) underlying115 zAQ rfl rfl rfl qL e2z (zI rfl (Pc.arr (Pc.here _) [] 0 dC) rs_6 zX) (show 1*1≤16777216 from by decide) nP) rfl rfl rfl ?_
 intro v46 q46 hq46
 obtain⟨cs46,rfl,rl46⟩:=hq46
 refine go1 ?_
 refine lX (xB yA (Pc.tz pH) rb2) fun v48 r48=>?_
 refine go1 ?_
 refine lX (xB yA (Pc.tz pH) rb3) fun v50 r50=>(yH (A:=[]) (ρ:=(tLs (k+l+1))) rl46 ?_)
 intro h2 hh2 rs_7
 refine qU (vs:=[_,_,_]) rfl rfl rfl rfl call81 e3z (fun w hs=>zOE hs rs_7 r48.up r50.up (by first|omega|exact hbl.1|exact hbl.2.1) (by first|omega|exact hbl.1|exact hbl.2.1) (by first|omega|exact hbl.1|exact hbl.2.1) (by first|omega|exact hbl.1|exact hbl.2.1) (by first|omega|exact hbl.1|exact hbl.2.1)) ?_
 intro v51 h3 L51 hh3 r51
 obtain⟨u51,vf51,cs_8,rfl,r51,rfl,ho_9,rl_10⟩:=r51
 change RL (tFc (1000*(k+l+1)+1000*k+1000*l+2000) (1000*(k+l+1)+1000*k+1000*l+2000)) h3 cs_8 (prF [[(zZ a),(T3.mk b.x a.y (0:Rat)),(zZ b),(T3.mk a.x b.y (0:Rat))]] a.z b.z) at rl_10
 replace r51:=Rp.Is.le r51 (Le.p (Le.s (Le.t (Le.q (l:=2*k+2*l+21) oM))) (Le.refl _))
 replace rl_10:=(Le.p (Le.p (Le.t (Le.q (l:=2000*k+2000*l+3000) oM)) (Le.q (l:=2000*k+2000*l+3000) oM)) (Le.refl _)).rl rl_10
 refine go3 ?_
 refine nA (ρ:=(rpP (tLs 1) (rpP rpV (rpS (rpP rpI (rpP rpI (rpQ 1))))))) (X:=([],((Value.slice none 0 0),[]))) tO (yJ qL (yJ cJ qL)) fun b7 cs7 rb7=>?_
 have rw_11:=(Le.p (Le.s (Le.t (Le.q (l:=2*k+2*l+21) oM))) (Le.p (Le.refl _) (Le.s (Le.p (Le.refl _) (Le.p (Le.refl _) (Le.q (l:=5) dC)))))).R rb7
 refine zR (A:=[]) (uB sizeOf50 pH rw_11 r51) fun cs_12 rb_13=>?_
 refine vO ?_
 refine gcL (ι:=Nat×List Fc×List Value×Value×List Value×Mem) (fun(i,F1,cs_15,sA_14,cs_17,mb)=>(MLe h3 mb∧((rpP (tLs (2*k+2*l+30)) (rpP rpV (rpS (rpP rpI (rpP rpI (rpQ 5)))))).R mb cs_15 (prP (blL a b) a.z b.z,(sA_14,([]:List En)))∧RL (tFc (2000*k+2000*l+3000) (2000*k+2000*l+3000)) mb cs_17 F1∧sA_14.oneCell'=true∧i≤(prF (blL a b) a.z b.z).length∧F1=oB rnF zA (prF (blL a b) a.z b.z) i),[(4,vP b4 0),(7,vP b7 0),(8,vI (prE [[(zZ a),(T3.mk b.x a.y (0:Rat)),(zZ b),(T3.mk a.x b.y (0:Rat))]] a.z b.z)),(9,vI ↑i)],[.var b7 50 cs_15,.gs 83 14 sA_14 F1.length cs_17,.var b4 50 cs4,.var b3 53 cs3,.var b2 53 cs2],mb,(prF (blL a b) a.z b.z).length-i)) (0,(prF (blL a b) a.z b.z),cs_12,vf51,cs_8,h3) ?_ ?_
 ·
  refine⟨MLe.refl _,?_⟩
  refine⟨((Le.p (Le.s (Le.t (Le.q (l:=2*k+2*l+30) oM))) (Le.refl _)).R rb_13),rl_10,ho_9,?_⟩
  exact⟨by omega,rfl⟩
 intro x hx
 obtain⟨i,F1,cs_15,sA_14,cs_17,mb⟩:=x
 dsimp only at hx
 obtain⟨hmmb,hinv⟩:=hx
 refine yS ?_
 obtain⟨rb_16,rl_18,ho_19,hinv⟩:=hinv
 obtain⟨hi3,hF1⟩:=hinv
 have hFl:F1.length=(prF (blL a b) a.z b.z).length:=by rw[hF1];exact eF _ _ _ _
 refine go5 ?_
 refine lX (aR (xB tM (Pc.snd (Pc.fst pH)) rb_16)) fun v56 r56=>?_
 subst r56
 refine gv (gA mh1 underlying47 rfl) rfl ?_
 refine go3 ?_
 refine cnd (fun hc58=>?_) fun hc58=>?_
 ·
  refine go7 ?_
  refine lX (aR (xB tM (Pc.snd (Pc.fst pH)) rb_16)) fun v62 r62=>?_
  subst r62
  refine go1 ?_
  refine gv ((yY i mh1 underlying47 sizeOf83 rfl rfl rfl bO nP).cv (show _=zK 1 sA_14 ((i*14+0)) from congrArg (zK 1 sA_14) (by rfl))) rfl ?_
  refine go6 ?_
  refine gv (sI (Pc.arr (Pc.here _) zA i bO) rfl nP rl_18 mh1 rfl) rfl (gv ((gW (Pc.arr (Pc.here _) zA i bO) rfl nP rl_18 mh1 underlying83 rfl sizeOf9 rfl).cv (show _=zK 1 sA_14 ((i*14+13)) from congrArg (zK 1 sA_14) (by show(i*14+0)+13=(i*14+13);omega))) rfl (zEA (F:=fun v_=>cH.Is mb v_ (((F1.getD i zA).2).2)) (wV ty9 (Pc.arr (Pc.snd (Pc.snd (Pc.here _))) zA i bO) rfl nP rfl rl_18 rfl) (tT mh1) rfl ?_))
  intro v68 r68
  obtain⟨rfl,hb68⟩:=kH r68
  refine go5 ?_
  refine gv (lT (pa:=(((F1.getD i zA).2).2)) (pb:=([98,111,116,116,111,109]:List Nat)) hb68 (show ByB [98,111,116,116,111,109] by unfold ByB;decide) rfl rfl) rfl ?_
  refine go3 ?_
  refine cnd (fun hc69=>?_) fun hc69=>?_
  ·
   refine go2 ?_
   refine gv (sI (Pc.arr (Pc.here _) zA i bO) rfl nP rl_18 mh1 rfl) rfl (gv ((gW (Pc.arr (Pc.here _) zA i bO) rfl nP rl_18 mh1 underlying83 rfl sizeOf9 rfl).cv (show _=zK 1 sA_14 ((i*14+13)) from congrArg (zK 1 sA_14) (by show(i*14+0)+13=(i*14+13);omega))) rfl (gE (A:=[_]) (F:=fun c_=>RL (tFc (2000*k+2000*l+3000) (2000*k+2000*l+3000)) mb c_ (F1.set i ((F1.getD i zA).1,(((F1.getD i zA).2).1,([122,48]:List Nat))))) (rQ sizeOf9 (Pc.arr (Pc.snd (Pc.snd (Pc.here _))) zA i bO) rfl nP rfl rfl rl_18 (bQ (show ByB [122,48] by unfold ByB;decide)) rfl) ?_))
   intro cs_20 rl_21
   refine go9 ?_
   refine gqL ((i+1),(F1.set i ((F1.getD i zA).1,(((F1.getD i zA).2).1,([122,48]:List Nat)))),cs_15,sA_14,cs_20,mb) ?_ ?_
   ·
    refine⟨hmmb,?_⟩
    refine⟨rb_16,rl_21,ho_19,?_⟩
    exact⟨by omega,zJN hF1 (by unfold rnN;rw[if_pos hc69])⟩
   omega
  refine go2 ?_
  refine gv (lT (pa:=(((F1.getD i zA).2).2)) (pb:=([116,111,112]:List Nat)) hb68 (show ByB [116,111,112] by unfold ByB;decide) rfl rfl) rfl ?_
  refine go3 ?_
  refine cnd (fun hc74=>?_) fun hc74=>?_
  ·
   refine go2 ?_
   refine gv (sI (Pc.arr (Pc.here _) zA i bO) rfl nP rl_18 mh1 rfl) rfl (gv ((gW (Pc.arr (Pc.here _) zA i bO) rfl nP rl_18 mh1 underlying83 rfl sizeOf9 rfl).cv (show _=zK 1 sA_14 ((i*14+13)) from congrArg (zK 1 sA_14) (by show(i*14+0)+13=(i*14+13);omega))) rfl (gE (A:=[_]) (F:=fun c_=>RL (tFc (2000*k+2000*l+3000) (2000*k+2000*l+3000)) mb c_ (F1.set i ((F1.getD i zA).1,(((F1.getD i zA).2).1,([122,49]:List Nat))))) (rQ sizeOf9 (Pc.arr (Pc.snd (Pc.snd (Pc.here _))) zA i bO) rfl nP rfl rfl rl_18 (bQ (show ByB [122,49] by unfold ByB;decide)) rfl) ?_))
   intro cs_22 rl_23
   refine go9 ?_
   refine gqL ((i+1),(F1.set i ((F1.getD i zA).1,(((F1.getD i zA).2).1,([122,49]:List Nat)))),cs_15,sA_14,cs_22,mb) ?_ ?_
   ·
    refine⟨hmmb,?_⟩
    refine⟨rb_16,rl_23,ho_19,?_⟩
    exact⟨by omega,zJN hF1 (by unfold rnN;rw[if_neg hc69,if_pos hc74])⟩
   omega
  refine go2 ?_
  refine gv (lT (pa:=(((F1.getD i zA).2).2)) (pb:=([115,48,46,48]:List Nat)) hb68 (show ByB [115,48,46,48] by unfold ByB;decide) rfl rfl) rfl ?_
  refine go3 ?_
  refine cnd (fun hc79=>?_) fun hc79=>?_
  ·
   refine go2 ?_
   refine gv (sI (Pc.arr (Pc.here _) zA i bO) rfl nP rl_18 mh1 rfl) rfl (gv ((gW (Pc.arr (Pc.here _) zA i bO) rfl nP rl_18 mh1 underlying83 rfl sizeOf9 rfl).cv (show _=zK 1 sA_14 ((i*14+13)) from congrArg (zK 1 sA_14) (by show(i*14+0)+13=(i*14+13);omega))) rfl (gE (A:=[_]) (F:=fun c_=>RL (tFc (2000*k+2000*l+3000) (2000*k+2000*l+3000)) mb c_ (F1.set i ((F1.getD i zA).1,(((F1.getD i zA).2).1,([121,48]:List Nat))))) (rQ sizeOf9 (Pc.arr (Pc.snd (Pc.snd (Pc.here _))) zA i bO) rfl nP rfl rfl rl_18 (bQ (show ByB [121,48] by unfold ByB;decide)) rfl) ?_))
   intro cs_24 rl_25
   refine go9 ?_
   refine gqL ((i+1),(F1.set i ((F1.getD i zA).1,(((F1.getD i zA).2).1,([121,48]:List Nat)))),cs_15,sA_14,cs_24,mb) ?_ ?_
   ·
    refine⟨hmmb,?_⟩
    refine⟨rb_16,rl_25,ho_19,?_⟩
    exact⟨by omega,zJN hF1 (by unfold rnN;rw[if_neg hc69,if_neg hc74,if_pos hc79])⟩
   omega
  refine go2 ?_
  refine gv (lT (pa:=(((F1.getD i zA).2).2)) (pb:=([115,48,46,49]:List Nat)) hb68 (show ByB [115,48,46,49] by unfold ByB;decide) rfl rfl) rfl ?_
  refine go3 ?_
  refine cnd (fun hc84=>?_) fun hc84=>?_
  ·
   refine go2 ?_
   refine gv (sI (Pc.arr (Pc.here _) zA i bO) rfl nP rl_18 mh1 rfl) rfl (gv ((gW (Pc.arr (Pc.here _) zA i bO) rfl nP rl_18 mh1 underlying83 rfl sizeOf9 rfl).cv (show _=zK 1 sA_14 ((i*14+13)) from congrArg (zK 1 sA_14) (by show(i*14+0)+13=(i*14+13);omega))) rfl (gE (A:=[_]) (F:=fun c_=>RL (tFc (2000*k+2000*l+3000) (2000*k+2000*l+3000)) mb c_ (F1.set i ((F1.getD i zA).1,(((F1.getD i zA).2).1,([120,49]:List Nat))))) (rQ sizeOf9 (Pc.arr (Pc.snd (Pc.snd (Pc.here _))) zA i bO) rfl nP rfl rfl rl_18 (bQ (show ByB [120,49] by unfold ByB;decide)) rfl) ?_))
   intro cs_26 rl_27
   refine go9 ?_
   refine gqL ((i+1),(F1.set i ((F1.getD i zA).1,(((F1.getD i zA).2).1,([120,49]:List Nat)))),cs_15,sA_14,cs_26,mb) ?_ ?_
   ·
    refine⟨hmmb,?_⟩
    refine⟨rb_16,rl_27,ho_19,?_⟩
    exact⟨by omega,zJN hF1 (by unfold rnN;rw[if_neg hc69,if_neg hc74,if_neg hc79,if_pos hc84])⟩
   omega
  refine go2 ?_
  refine gv (lT (pa:=(((F1.getD i zA).2).2)) (pb:=([115,48,46,50]:List Nat)) hb68 (show ByB [115,48,46,50] by unfold ByB;decide) rfl rfl) rfl ?_
  refine go3 ?_
  refine cnd (fun hc89=>?_) fun hc89=>?_
  ·
   refine go2 ?_
   refine gv (sI (Pc.arr (Pc.here _) zA i bO) rfl nP rl_18 mh1 rfl) rfl (gv ((gW (Pc.arr (Pc.here _) zA i bO) rfl nP rl_18 mh1 underlying83 rfl sizeOf9 rfl).cv (show _=zK 1 sA_14 ((i*14+13)) from congrArg (zK 1 sA_14) (by show(i*14+0)+13=(i*14+13);omega))) rfl (gE (A:=[_]) (F:=fun c_=>RL (tFc (2000*k+2000*l+3000) (2000*k+2000*l+3000)) mb c_ (F1.set i ((F1.getD i zA).1,(((F1.getD i zA).2).1,([121,49]:List Nat))))) (rQ sizeOf9 (Pc.arr (Pc.snd (Pc.snd (Pc.here _))) zA i bO) rfl nP rfl rfl rl_18 (bQ (show ByB [121,49] by unfold ByB;decide)) rfl) ?_))
   intro cs_28 rl_29
   refine go9 ?_
   refine gqL ((i+1),(F1.set i ((F1.getD i zA).1,(((F1.getD i zA).2).1,([121,49]:List Nat)))),cs_15,sA_14,cs_28,mb) ?_ ?_
   ·
    refine⟨hmmb,?_⟩
    refine⟨rb_16,rl_29,ho_19,?_⟩
    exact⟨by omega,zJN hF1 (by unfold rnN;rw[if_neg hc69,if_neg hc74,if_neg hc79,if_neg hc84,if_pos hc89])⟩
   omega
  refine go2 ?_
  refine gv (lT (pa:=(((F1.getD i zA).2).2)) (pb:=([115,48,46,51]:List Nat)) hb68 (show ByB [115,48,46,51] by unfold ByB;decide) rfl rfl) rfl ?_
  refine go3 ?_
  refine cnd (fun hc94=>?_) fun hc94=>?_
  ·
   refine go2 ?_
   refine gv (sI (Pc.arr (Pc.here _) zA i bO) rfl nP rl_18 mh1 rfl) rfl (gv ((gW (Pc.arr (Pc.here _) zA i bO) rfl nP rl_18 mh1 underlying83 rfl sizeOf9 rfl).cv (show _=zK 1 sA_14 ((i*14+13)) from congrArg (zK 1 sA_14) (by show(i*14+0)+13=(i*14+13);omega))) rfl (gE (A:=[_]) (F:=fun c_=>RL (tFc (2000*k+2000*l+3000) (2000*k+2000*l+3000)) mb c_ (F1.set i ((F1.getD i zA).1,(((F1.getD i zA).2).1,([120,48]:List Nat))))) (rQ sizeOf9 (Pc.arr (Pc.snd (Pc.snd (Pc.here _))) zA i bO) rfl nP rfl rfl rl_18 (bQ (show ByB [120,48] by unfold ByB;decide)) rfl) ?_))
   intro cs_30 rl_31
   refine go9 ?_
   refine gqL ((i+1),(F1.set i ((F1.getD i zA).1,(((F1.getD i zA).2).1,([120,48]:List Nat)))),cs_15,sA_14,cs_30,mb) ?_ ?_
   ·
    refine⟨hmmb,?_⟩
    refine⟨rb_16,rl_31,ho_19,?_⟩
    exact⟨by omega,zJN hF1 (by unfold rnN;rw[if_neg hc69,if_neg hc74,if_neg hc79,if_neg hc84,if_neg hc89,if_pos hc94])⟩
   omega
  refine go9 ?_
  refine gqL ((i+1),F1,cs_15,sA_14,cs_17,mb) ?_ ?_
  ·
   refine⟨hmmb,?_⟩
   refine⟨rb_16,rl_18,ho_19,?_⟩
   exact⟨by omega,yAB hF1 (by unfold rnN;rw[if_neg hc69,if_neg hc74,if_neg hc79,if_neg hc84,if_neg hc89,if_neg hc94]) oM⟩
  omega
 have ei:i=(prF (blL a b) a.z b.z).length:=by omega
 rw[ei] at hF1
 refine go7 ?_
 refine yH (A:=[_]) (ρ:=(tFc (2000*k+2000*l+3000) (2000*k+2000*l+3000))) rl_18 ?_
 intro h4 hh4 rs_32
 replace rb_16:=rb_16.mono hh4
 have rb_33:(tSd (2*k+2*l+30) (2000*k+2000*l+3000) (2000*k+2000*l+3000) 5).R h4 cs_15 ((prP (blL a b) a.z b.z,(sA_14,([]:List En))).1,(F1,((prP (blL a b) a.z b.z,(sA_14,([]:List En))).2).2)):=zJI rb_16 rs_32
 have rb_34:(tSd (2*k+2*l+30) (2000*k+2000*l+3000) (2000*k+2000*l+3000) 5).R h4 cs_15 (blS a b):=Rp.castR rb_33 (by rw[hF1];rfl)
 refine lX (xB kF pH rb_34) fun v99 r99=>?_
 refine qU (vs:=[_]) rfl rfl rfl rfl call82 ⟨rfl,trivial⟩ (fun w hs=>zCU hs r99 (by first|omega|exact hbl.2.2) (by first|omega|exact hbl.2.2) (by first|omega|exact hbl.2.2) (by first|omega|exact hbl.2.2)) ?_
 intro v100 h5 L100 hh5 r100
 obtain⟨vf100,cs_35,r100,rfl,ho_36,rl_37⟩:=r100
 change RL (tFc (4*(2000*k+2000*l+3000)+12) ((2000*k+2000*l+3000)+(2000*k+2000*l+3000)+12)) h5 cs_35 (nrF (blS a b)) at rl_37
 replace r100:=Rp.Is.le r100 (Le.p (Le.s (Le.t (Le.q (l:=2*k+2*l+31) oM))) (Le.p (Le.refl _) (Le.s (Le.p (Le.refl _) (Le.p (Le.refl _) (Le.q (l:=6) oM))))))
 replace rl_37:=(Le.p (Le.p (Le.t (Le.q (l:=8000*k+8000*l+12012) oM)) (Le.q (l:=4000*k+4000*l+6012) oM)) (Le.refl _)).rl rl_37
 refine go1 ?_
 replace rb4:=rb4.mono ((((((hmma.trans hh1).trans hh2).trans hh3).trans hmmb).trans hh4).trans hh5)
 have rw_38:=(Le.p (Le.s (Le.t (Le.q (l:=2*k+2*l+31) oM))) (Le.p (Le.refl _) (Le.s (Le.p (Le.refl _) (Le.p (Le.refl _) (Le.q (l:=6) dC)))))).R rb4
 refine zR (A:=[_,_]) (uB sizeOf50 pH rw_38 r100) fun cs_39 rb_40=>?_
 refine go4 ?_
 obtain⟨e1,e2,e3⟩:=zVX hok
 rw[e1,e2,e3]
 refine wL (jZ (t:=4) kF mh2 rfl rb_40) ?_
 intro w_41 hvw_41 rr_42
 refine gY (.cons_cons _ (List.nil_sublist _)) (fun E S=>vW rfl hvw_41 (jP rfl) E S) ?_
 exact⟨_,_,_,rfl,(Rp.Is.cast (Rp.Is.le rr_42 (Le.p (Le.s (Le.t (Le.q (l:=2*k+2*l+40) oM))) (Le.refl _))) (by rw[show nrE (blS a b)=[] from by unfold nrE;split<;>rfl])),rfl,ho_36,((Le.p (Le.p (Le.t (Le.q (l:=10000*k+10000*l+20000) oM)) (Le.q (l:=10000*k+10000*l+20000) oM)) (Le.refl _)).rl rl_37)⟩
end Go.Proofs.YtboaboflnckgoaaGreat
namespace Bk
set_option linter.unusedVariables false
set_option linter.unusedSimpArgs false
open Classical
def pI(a b c:Int):Pt:=T3.mk (a:Rat) (b:Rat) (c:Rat)
noncomputable def bkS(a b:Pt):Sd:=(blP a b,blF a b,[])
def lgS(s:Sd):Prop:=∀f,f<s.2.1.length→(s.2.1.getD f zA).2.1.length≤10000∧∀l,l<(s.2.1.getD f zA).2.1.length→((s.2.1.getD f zA).2.1.getD l []).length≤10000
def zYL(s:Sd):Prop:=(nmA s∧lgS s)∧zGT s s.2.1∧zZ1 s
structure SaneF:Prop where
  h:mX (pI 0 0 0) (pI 2 2 2)→blH (pI 0 0 0) (pI 2 2 2)
  ok:zYL (bkS (pI 0 0 0) (pI 2 2 2))
  vol:dS (bkS (pI 0 0 0) (pI 2 2 2))/((6:Int):Rat)=((8:Int):Rat)
  cen:cnS (bkS (pI 0 0 0) (pI 2 2 2))=pI 1 1 1∧cnO (bkS (pI 0 0 0) (pI 2 2 2))
  area:arS (bkS (pI 0 0 0) (pI 2 2 2)) 0 (bkS (pI 0 0 0) (pI 2 2 2)).2.1.length=(((24:Int):Rat),((24:Int):Rat))
theorem zV5:qG ((2:Int):Rat) 1=((1:Int):Rat):=by
  have h1:flN ((2:Int):Rat) (kN 1)=8:=by decide
  have h2:sqN 8=2:=zJS (by decide) (by decide)
  have h3:kN 1=1:=by decide
  unfold qG
  rw[h1,h2,h3]
  unfold ovQ
  decide +kernel
theorem zK3:zGH ((2:Int):Rat) 1∧cD ((2:Int):Rat) 1=((1:Int):Rat)∧cQ ((2:Int):Rat) 1=jC 3 2:=by
  have h0:¬((2:Int):Rat)<0:=by decide +kernel
  have ho:¬((xH ((2:Int):Rat)<0∨(1:Int)<0)∨64<(1:Int)):=fun e=>by
    rcases e with(e|e)|e
    · exact h0 (qE.1 e)
    · omega
    · omega
  obtain⟨y1,y2,y3,y4⟩:=zAJ ho
  refine⟨y4,y1.trans zV5,?_⟩
  rw[y2]
  unfold oG
  rw[if_neg h0,zV5,if_pos (by decide +kernel)]
  have h3:kN 1=1:=by decide
  have h4:jC 3 2=3/2:=rfl
  rw[h3,h4]
  unfold ovQ
  decide +kernel
theorem zWC:zGH (jC 9 4) 1∧cD (jC 9 4) 1=cQ (jC 9 4) 1:=by
  have h4:jC 9 4=9/4:=rfl
  have h0:¬jC 9 4<0:=by rw[h4];decide +kernel
  have ho:¬((xH (jC 9 4)<0∨(1:Int)<0)∨64<(1:Int)):=fun e=>by
    rcases e with(e|e)|e
    · exact h0 (qE.1 e)
    · omega
    · omega
  obtain⟨y1,y2,y3,y4⟩:=zAJ ho
  refine⟨y4,?_⟩
  rw[y1,y2]
  have h1:flN (9/4:Rat) (kN 1)=9:=by decide +kernel
  have h2:sqN 9=3:=zJS (by decide) (by decide)
  have h3:kN 1=1:=by decide
  refine zJ2 h0 ?_
  unfold qG
  rw[h4,h1,h2,h3]
  unfold ovQ
  decide +kernel
theorem zU0{r:Rat}(h0:0≤r){n:Int}(h1:0≤n)(h2:n≤64):(zGH r n∧0≤cD r n)∧cD r n*cD r n≤r∧r≤cQ r n*cQ r n∧(cQ r n-cD r n=0∨cQ r n-cD r n=ovQ 1 (kN n)):=by
  have hr:¬r<0:=Rat.not_lt.2 h0
  have ho:¬((xH r<0∨n<0)∨64<n):=fun e=>by
    rcases e with(e|e)|e
    · exact hr (qE.1 e)
    · omega
    · omega
  obtain⟨y1,y2,y3,y4⟩:=zAJ ho
  have hq:=zCE hr n
  have hg:r<(qG r n+ovQ 1 (kN n))*(qG r n+ovQ 1 (kN n)):=by
    unfold qG
    rw[zQ4,zQZ h0]
    exact zPR _
  have hn:0≤qG r n:=by
    unfold qG
    rw[←zBT (kN n),zV7];exact Nat.zero_le _
  rw[y1,y2]
  by_cases he:qG r n*qG r n=r
  · rw[←zJ2 hr he]
    exact⟨⟨y4,hn⟩,hq,by grind,.inl (by grind)⟩
  · rw[←zX2 hr he]
    exact⟨⟨y4,hn⟩,hq,by grind,.inr (by grind)⟩
end Bk
namespace Go.Proofs.YtboaboflnckgoaaGreat
open Bk Go Tryz
set_option linter.unusedVariables false
set_option linter.unusedSimpArgs false
set_option maxRecDepth 10000
set_option maxHeartbeats 1000000
attribute [local irreducible] GL GC GQ W OpV
theorem zDC{w0:World}{h0:Mem}(hs:MLe h0 (mem w0))(hsf:SaneF):
    Calls Tryz.prog 8 #[] w0 (Ret w0 h0 (fun _ r=>r=.bool true)):=by
 refine cb0 90 func8 hs ?_
 refine go7 ?_
 refine cL (vs:=[vI (2)]) ⟨rfl,trivial⟩ call39 (fun w hs=>jR hs dC dC) fun v12 h1 hh1 r12=>(cL (vs:=[_,vI (1)]) e2z call13 (fun w hs=>oT hs r12 dC dC dC) fun v13 h2 hh2 r13=>?_)
 obtain⟨v13_0,rfl,r13_0⟩:=r13
 change (rpP (rpQ (2+140)) (rpQ (2+140))).Is h2 v13_0 (cD (((2:Int):Int):Rat) (1:Int),cQ (((2:Int):Int):Rat) (1:Int)) at r13_0
 replace r13_0:=Rp.Is.le r13_0 (Le.p (Le.q (l:=142) oM) (Le.q (l:=142) oM))
 refine go3 ?_
 refine nA (ρ:=(rpP (rpQ 1) (rpQ 1))) (X:=((0:Rat),(0:Rat))) gC (yJ (yF dC) (yF dC)) fun b1 cs1 rb1=>?_
 have rw_1:=(Le.p (Le.q (l:=142) dC) (Le.q (l:=142) dC)).R rb1
 refine zR (A:=[]) (uB sizeOf34 pH rw_1 r13_0) fun cs_2 rb_3=>?_
 refine go5 ?_
 refine cL (vs:=[vI (9),vI (4)]) e2z call10 (fun w hs=>pM hs dC dC dC dC) fun v17 h3 hh3 r17=>(cL (vs:=[_,vI (1)]) e2z call13 (fun w hs=>oT hs r17 dC dC dC) fun v18 h4 hh4 r18=>?_)
 obtain⟨v18_0,rfl,r18_0⟩:=r18
 change (rpP (rpQ (2+140)) (rpQ (2+140))).Is h4 v18_0 (cD (jC (9:Int) (4:Int)) (1:Int),cQ (jC (9:Int) (4:Int)) (1:Int)) at r18_0
 replace r18_0:=Rp.Is.le r18_0 (Le.p (Le.q (l:=142) oM) (Le.q (l:=142) oM))
 refine go3 ?_
 refine nA (ρ:=(rpP (rpQ 1) (rpQ 1))) (X:=((0:Rat),(0:Rat))) gC (yJ (yF dC) (yF dC)) fun b3 cs3 rb3=>?_
 have rw_4:=(Le.p (Le.q (l:=142) dC) (Le.q (l:=142) dC)).R rb3
 refine zR (A:=[]) (uB sizeOf34 pH rw_4 r18_0) fun cs_5 rb_6=>?_
 refine go5 ?_
 refine cL (vs:=[vI (0),vI (0),vI (0)]) e3z call45 (fun w hs=>hH hs dC dC dC dC dC dC) fun v22 h5 hh5 r22=>(cL (vs:=[vI (2),vI (2),vI (2)]) e3z call45 (fun w hs=>hH hs dC dC dC dC dC dC) fun v23 h6 hh6 r23=>?_)
 refine qU (vs:=[_,_]) rfl rfl rfl rfl call35 e2z (fun w hs=>zE0 hs r22.up r23 dC dC (by first|omega|exact hsf.h)) ?_
 intro v24 h7 L24 hh7 r24
 obtain⟨u24,vf24,cs_7,rfl,r24,rfl,ho_8,rl_9⟩:=r24
 change RL (tFc (10000*2+10000*2+20000) (10000*2+10000*2+20000)) h7 cs_7 (blF (T3.mk (((0:Int):Int):Rat) (((0:Int):Int):Rat) (((0:Int):Int):Rat)) (T3.mk (((2:Int):Int):Rat) (((2:Int):Int):Rat) (((2:Int):Int):Rat))) at rl_9
 replace r24:=Rp.Is.le r24 (Le.p (Le.s (Le.t (Le.q (l:=48) oM))) (Le.refl _))
 replace rl_9:=(Le.p (Le.p (Le.t (Le.q (l:=60000) oM)) (Le.q (l:=60000) oM)) (Le.refl _)).rl rl_9
 refine go3 ?_
 refine nA (ρ:=(rpP (tLs 1) (rpP rpV (rpS (rpP rpI (rpP rpI (rpQ 1))))))) (X:=([],((Value.slice none 0 0),[]))) tO (yJ qL (yJ cJ qL)) fun b5 cs5 rb5=>?_
 have rw_10:=(Le.p (Le.s (Le.t (Le.q (l:=48) dC))) (Le.p (Le.refl _) (Le.s (Le.p (Le.refl _) (Le.p (Le.refl _) (Le.q (l:=6) dC)))))).R rb5
 refine zR (A:=[]) (uB sizeOf50 pH rw_10 r24) fun cs_11 rb_12=>?_
 refine go5 ?_
 refine yH (A:=[_]) (ρ:=(tFc 60000 60000)) rl_9 ?_
 intro h8 hh8 rs_13
 replace rb_12:=rb_12.mono hh8
 have rb_14:(tSd 48 60000 60000 6).R h8 cs_11 (blP (T3.mk (((0:Int):Int):Rat) (((0:Int):Int):Rat) (((0:Int):Int):Rat)) (T3.mk (((2:Int):Int):Rat) (((2:Int):Int):Rat) (((2:Int):Int):Rat)),(blF (T3.mk (((0:Int):Int):Rat) (((0:Int):Int):Rat) (((0:Int):Int):Rat)) (T3.mk (((2:Int):Int):Rat) (((2:Int):Int):Rat) (((2:Int):Int):Rat)),[])):=zJI rb_12 rs_13
 have rb_15:(tSd 48 60000 60000 6).R h8 cs_11 (bkS (pI 0 0 0) (pI 2 2 2)):=Rp.castR rb_14 (by rfl)
 refine lX (xB kF pH rb_15) fun v28 r28=>(cL (ev1 rfl) call25 (fun w hs=>zCY hs r28 dC (by first|omega|exact hsf.ok.1.1|exact hsf.ok.1.2|exact hsf.ok.2.1) (by first|omega|exact hsf.ok.1.1|exact hsf.ok.1.2|exact hsf.ok.2.1) (by first|omega|exact hsf.ok.1.1|exact hsf.ok.1.2|exact hsf.ok.2.1)) fun v29 h9 hh9 r29=>?_)
 obtain⟨v29_0,rfl,r29_0⟩:=r29
 change (tPt (50000*48+300000)).Is h9 v29_0 (cnS (bkS (pI 0 0 0) (pI 2 2 2))) at r29_0
 replace r29_0:=Rp.Is.le r29_0 (Le.t (Le.q (l:=2700000) oM))
 refine go3 ?_
 refine nA (ρ:=(tPt 1)) (X:=zT) yV (xW (yF dC)) fun b7 cs7 rb7=>?_
 have rw_16:=(Le.t (Le.q (l:=2700000) dC)).R rb7
 refine zR (A:=[]) (uB sizeOf53 pH rw_16 r29_0) fun cs_17 rb_18=>?_
 refine go5 ?_
 refine lX (xB kF pH rb_15) fun v33 r33=>(cL (vs:=[_,vI (0)]) e2z call40 (fun w hs=>u5 hs r33 dC dC dC (by first|omega|exact hsf.ok.1.1|exact hsf.ok.1.2|exact hsf.ok.2.1|exact hsf.ok.2.2) (by first|omega|exact hsf.ok.1.1|exact hsf.ok.1.2|exact hsf.ok.2.1|exact hsf.ok.2.2) (by first|omega|exact hsf.ok.1.1|exact hsf.ok.1.2|exact hsf.ok.2.1|exact hsf.ok.2.2) (by first|omega|exact hsf.ok.1.1|exact hsf.ok.1.2|exact hsf.ok.2.1|exact hsf.ok.2.2) (by first|omega|exact hsf.ok.1.1|exact hsf.ok.1.2|exact hsf.ok.2.1|exact hsf.ok.2.2) (by first|omega|exact hsf.ok.1.1|exact hsf.ok.1.2|exact hsf.ok.2.1|exact hsf.ok.2.2)) fun v34 h10 hh10 r34=>?_)
 obtain⟨v34_0,rfl,r34_0⟩:=r34
 change (rpP (rpQ 400000) (rpQ 400000)).Is h10 v34_0 (arS (bkS (pI 0 0 0) (pI 2 2 2)) (0:Int) (bkS (pI 0 0 0) (pI 2 2 2)).2.1.length) at r34_0
 refine go3 ?_
 refine nA (ρ:=(rpP (rpQ 1) (rpQ 1))) (X:=((0:Rat),(0:Rat))) gC (yJ (yF dC) (yF dC)) fun b9 cs9 rb9=>?_
 have rw_19:=(Le.p (Le.q (l:=400000) dC) (Le.q (l:=400000) dC)).R rb9
 refine zR (A:=[]) (uB sizeOf34 pH rw_19 r34_0) fun cs_20 rb_21=>?_
 refine go4 ?_
 refine gD 54 (qq 0 4 ((4,.c)::(5,.c)::(qq 6 4 ((10,.c)::(11,.c)::(qq 12 9 ((21,.c)::(qq 22 3 ((25,.c)::(26,.c)::(27,.c)::(qq 28 6 ((34,.c)::(35,.c)::(qq 36 7 ((43,.c)::(44,.c)::(qq 45 6 [(51,.c),(52,.q),(53,.q)]))))))))))))) (vG [0,1,2,6,2,26,34,96,128,384,128,1664,2176,6144,8192,24576,40960,65536,196608,65536,589824,1376256,2162688,6291456,8388608,25165824,41943040,109051904,142606336,402653184,536870912,1610612736,2684354560,4294967296,4294967296,30064771072,38654705664,103079215104,137438953472,412316860416,687194767360,1099511627776,3298534883328,1099511627776,14293651161088,18691697672192,52776558133248,70368744177664,211106232532992,70368744177664,633318697598976,1477743627730944,2322168557862912,9007199254740991] (frz 18014398509481983 [0,1,2,6,2,26,34,64,128,384,128,1664,2176,4096,8192,24576,32768,65536,196608,65536,589824,1376256,2162688,4194304,8388608,25165824,8388608,109051904,142606336,268435456,536870912,1610612736,2147483648,4294967296,4294967296,30064771072,38654705664,68719476736,137438953472,412316860416,549755813888,1099511627776,3298534883328,1099511627776,14293651161088,18691697672192,35184372088832,70368744177664,211106232532992,70368744177664,633318697598976,1477743627730944,2322168557862912,4503599627370496]) (by kernel_rfl)) ?_
 refine xJ rfl (fun _ _=>OpV.tr (by exact zK3.1) (yW rfl)) rfl ?_
 refine go2 ?_
 refine oX rfl (xB yA (Pc.fst pH) rb_3) fun v40 r40=>?_
 refine w_c rfl (rK rfl rfl (sC (vs:=[vI (1)]) ⟨rfl,trivial⟩ call39 (fun w hs=>jR hs dC dC) fun v41 h11 hh11 r41=>?_))
 refine w_c rfl (rK rfl rfl (sC (ev2 rfl rfl) call15 (fun w hs=>vQ hs r40.up r41 dC) fun v42 h12 hh12 r42=>?_))
 obtain rfl:v42=.bool true:=by rw[show v42=vB ((cD (((2:Int):Int):Rat) (1:Int))=(((1:Int):Int):Rat)) from r42,xL (by exact zK3.2.1)]
 refine go3 ?_
 refine oX rfl (xB yA (Pc.snd pH) rb_3) fun v46 r46=>?_
 refine w_c rfl (rK rfl rfl (sC (vs:=[vI (3),vI (2)]) e2z call10 (fun w hs=>pM hs dC dC dC dC) fun v47 h13 hh13 r47=>?_))
 refine w_c rfl (rK rfl rfl (sC (ev2 rfl rfl) call15 (fun w hs=>vQ hs r46.up r47 dC) fun v48 h14 hh14 r48=>?_))
 obtain rfl:v48=.bool true:=by rw[show v48=vB ((cQ (((2:Int):Int):Rat) (1:Int))=(jC (3:Int) (2:Int))) from r48,xL (by exact zK3.2.2)]
 refine go2 ?_
 refine yM rfl rfl rfl (fun h' L' hh hR=>OpV.tr (by exact zWC.1) (yW rfl)) rfl ?_
 refine go3 ?_
 refine oX rfl (xB yA (Pc.fst pH) rb_6) fun v55 r55=>?_
 refine go1 ?_
 refine oX rfl (xB yA (Pc.snd pH) rb_6) fun v57 r57=>?_
 refine w_c rfl (rK rfl rfl (sC (ev2 rfl rfl) call15 (fun w hs=>vQ hs r55 r57 dC) fun v58 h15 hh15 r58=>?_))
 obtain rfl:v58=.bool true:=by rw[show v58=vB ((cD (jC (9:Int) (4:Int)) (1:Int))=(cQ (jC (9:Int) (4:Int)) (1:Int))) from r58,xL (by exact zWC.2)]
 refine go2 ?_
 refine oX rfl (xB kF pH rb_15) fun v61 r61=>?_
 refine w_c rfl (rK rfl rfl (sC (ev1 rfl) call26 (fun w hs=>zCV hs r61 dC (by first|omega|exact hsf.ok.1.1|exact hsf.ok.1.2|exact hsf.ok.2.1) (by first|omega|exact hsf.ok.1.1|exact hsf.ok.1.2|exact hsf.ok.2.1) (by first|omega|exact hsf.ok.1.1|exact hsf.ok.1.2|exact hsf.ok.2.1)) fun v62 h16 hh16 r62=>?_))
 replace r62:=Rp.Is.le r62 (Le.q (l:=1060004) oM)
 refine w_c rfl (rK rfl rfl (sC (vs:=[vI (8)]) ⟨rfl,trivial⟩ call39 (fun w hs=>jR hs dC dC) fun v63 h17 hh17 r63=>?_))
 refine w_c rfl (rK rfl rfl (sC (ev2 rfl rfl) call15 (fun w hs=>vQ hs r62.up r63 dC) fun v64 h18 hh18 r64=>?_))
 obtain rfl:v64=.bool true:=by rw[show v64=vB ((dS (bkS (pI 0 0 0) (pI 2 2 2))/((6:Int):Rat))=(((8:Int):Int):Rat)) from r64,xL (by exact hsf.vol)]
 refine go2 ?_
 refine yM rfl rfl rfl (fun h' L' hh hR=>OpV.tr (by exact hsf.cen.2) (yW rfl)) rfl ?_
 refine go2 ?_
 refine oX rfl (xB zS pH rb_18) fun v70 r70=>?_
 refine w_c rfl (rK rfl rfl (sC (vs:=[vI (1),vI (1),vI (1)]) e3z call45 (fun w hs=>hH hs dC dC dC dC dC dC) fun v71 h19 hh19 r71=>?_))
 refine w_c rfl (rK rfl rfl (sC (ev2 rfl rfl) call27 (fun w hs=>zAH hs r70.up r71 dC) fun v72 h20 hh20 r72=>?_))
 obtain rfl:v72=.bool true:=by rw[show v72=vB ((cnS (bkS (pI 0 0 0) (pI 2 2 2)))=(T3.mk (((1:Int):Int):Rat) (((1:Int):Int):Rat) (((1:Int):Int):Rat))) from r72,xL (by exact hsf.cen.1)]
 refine go2 ?_
 refine yM rfl rfl rfl (fun h' L' hh hR=>OpV.tr (by trivial) (yW rfl)) rfl ?_
 refine go3 ?_
 refine oX rfl (xB yA (Pc.fst pH) rb_21) fun v79 r79=>?_
 refine w_c rfl (rK rfl rfl (sC (vs:=[vI (24)]) ⟨rfl,trivial⟩ call39 (fun w hs=>jR hs dC dC) fun v80 h21 hh21 r80=>?_))
 refine w_c rfl (rK rfl rfl (sC (ev2 rfl rfl) call15 (fun w hs=>vQ hs r79.up r80 dC) fun v81 h22 hh22 r81=>?_))
 obtain rfl:v81=.bool true:=by rw[show v81=vB (((arS (bkS (pI 0 0 0) (pI 2 2 2)) (0:Int) (bkS (pI 0 0 0) (pI 2 2 2)).2.1.length).1)=(((24:Int):Int):Rat)) from r81,xL (by exact congrArg Prod.fst hsf.area)]
 refine go3 ?_
 refine oX rfl (xB yA (Pc.snd pH) rb_21) fun v85 r85=>?_
 refine go1 ?_
 refine oX rfl (xB yA (Pc.fst pH) rb_21) fun v87 r87=>?_
 refine w_c rfl (rK rfl rfl (sC (ev2 rfl rfl) call15 (fun w hs=>vQ hs r85 r87 dC) fun v88 h23 hh23 r88=>?_))
 obtain rfl:v88=.bool true:=by rw[show v88=vB (((arS (bkS (pI 0 0 0) (pI 2 2 2)) (0:Int) (bkS (pI 0 0 0) (pI 2 2 2)).2.1.length).2)=((arS (bkS (pI 0 0 0) (pI 2 2 2)) (0:Int) (bkS (pI 0 0 0) (pI 2 2 2)).2.1.length).1)) from r88,xL (by rw[hsf.area])]
 refine go5 ?_
 refine zD rfl rfl ?_
 rfl
end Go.Proofs.YtboaboflnckgoaaGreat
namespace Bk
set_option linter.unusedVariables false
set_option linter.unusedSimpArgs false
open Classical
def ag(x p y q:Rat)(u:PI):P2:=(x+p*(u.1:Rat),y+q*(u.2:Rat))
theorem zJE{x p:Rat}{u v:Int}(hp:0<p):x+p*(u:Rat)<x+p*(v:Rat)↔u<v:=by
  constructor
  · intro h
    refine Int.not_le.1 fun e=>?_
    have h1:(v:Rat)≤(u:Rat):=Rat.intCast_le_intCast.2 e
    have h2:=Rat.mul_le_mul_of_nonneg_left h1 (Rat.le_of_lt hp)
    grind
  · intro h
    have h1:(u:Rat)<(v:Rat):=Rat.intCast_lt_intCast.2 h
    have h2:=Rat.mul_lt_mul_of_pos_left h1 hp
    grind
theorem zLX{x p:Rat}{u v:Int}(hp:0<p):x+p*(u:Rat)=x+p*(v:Rat)↔u=v:=by
  constructor
  · intro h
    rcases Int.lt_trichotomy u v with h1|h1|h1
    · have:=(zJE (x:=x) hp).2 h1;grind
    · exact h1
    · have:=(zJE (x:=x) hp).2 h1;grind
  · rintro rfl;rfl
variable {x p y q:Rat}
theorem yBV(u v w:PI):cr (ag x p y q u) (ag x p y q v) (ag x p y q w)=p*q*((crI u v w:Int):Rat):=by
  unfold cr ag crI
  simp only[Rat.intCast_sub,Rat.intCast_mul]
  grind
theorem tS(hp:0<p)(hq:0<q):0<p*q:=by
  have:=Rat.mul_lt_mul_of_pos_left hq hp
  grind
theorem yBU(hp:0<p)(hq:0<q)(u v w:PI):orZ (ag x p y q u) (ag x p y q v) (ag x p y q w)=orI u v w:=by
  unfold orZ orI
  rw[yBV,zPY (tS hp hq),zPZ]
  rfl
theorem zWW(hp:0<p)(hq:0<q)(u v:PI):lx (ag x p y q u) (ag x p y q v)↔lxI u v=true:=by
  unfold lx lxI
  rw[decide_eq_true_iff]
  unfold ag
  simp only[zJE hp,zJE hq,zLX hp]
theorem zWX(hp:0<p)(hq:0<q)(u v:PI):ag x p y q u=ag x p y q v↔u=v:=by
  obtain⟨u1,u2⟩:=u;obtain⟨v1,v2⟩:=v
  unfold ag
  rw[Prod.mk.injEq,Prod.mk.injEq,zLX hp,zLX hq]
theorem zWY{a b c d:Int}(hp:0<p):jJ (x+p*(a:Rat)) (x+p*(b:Rat)) (x+p*(c:Rat)) (x+p*(d:Rat))↔apI a b c d=true:=by
  unfold jJ apI
  rw[decide_eq_true_iff]
  simp only[zJE hp]
theorem zTD{c:Prop} [Decidable c](u v:PI):(if c then ag x p y q u else ag x p y q v)=ag x p y q (if c then u else v):=by split<;>rfl
theorem yBW(hp:0<p)(hq:0<q)(a b c d:PI):mN (ag x p y q a) (ag x p y q b) (ag x p y q c) (ag x p y q d)=alS a b c d:=by
  unfold mN alS
  simp only[zWW hp hq,zTD,zWX hp hq]
theorem zTC(hp:0<p)(hq:0<q)(a b c d:PI):gO (ag x p y q a) (ag x p y q b) (ag x p y q c) (ag x p y q d)=toI a b c d:=by
  have e1:jJ (ag x p y q a).1 (ag x p y q b).1 (ag x p y q c).1 (ag x p y q d).1↔apI a.1 b.1 c.1 d.1=true:=zWY hp
  have e2:jJ (ag x p y q a).2 (ag x p y q b).2 (ag x p y q c).2 (ag x p y q d).2↔apI a.2 b.2 c.2 d.2=true:=zWY hq
  unfold gO toI bY alI lo2 hi2
  simp only[yBU hp hq,e1,e2,zWW hp hq,zTD,yBW hp hq]
def gI(s:List PI)(m:Nat):PI:=s.getD m (0,0)
def yAQ(s:List PI):Bool:=decide (3≤s.length)&&(List.range s.length).all fun b=>(List.range b).all fun a=>!decide (gI s a=gI s b)&&decide (toI (gI s a) (gI s ((a+1)%s.length)) (gI s b) (gI s ((b+1)%s.length))=waI s.length a b)
theorem zHM(hp:0<p)(hq:0<q){l:List Pt}{s:List PI}(hl:l.length=s.length)(h:∀m,m<s.length→pr (gp l m) 0 1=ag x p y q (gI s m))(hb:yAQ s=true):aQ l 0 1:=by
  unfold yAQ at hb
  rw[Bool.and_eq_true,decide_eq_true_iff,List.all_eq_true] at hb
  obtain⟨h3,hb⟩:=hb
  have g:∀a b,a<b→b<s.length→¬gI s a=gI s b∧toI (gI s a) (gI s ((a+1)%s.length)) (gI s b) (gI s ((b+1)%s.length))=waI s.length a b:=fun a b hab hbs=>by
    have h1:=List.all_eq_true.1 (hb b (List.mem_range.2 hbs)) a (List.mem_range.2 hab)
    rw[Bool.and_eq_true,Bool.not_eq_true',decide_eq_false_iff_not,decide_eq_true_iff] at h1
    exact h1
  refine⟨by omega,fun a b ha hab hbl=>?_,fun a b ha hab hbl=>?_⟩
  · show ¬pr (gp l a) 0 1=pr (gp l b) 0 1
    rw[h a (by omega),h b (by omega),zWX hp hq]
    exact(g a b hab (by omega)).1
  · show gO (gM l 0 1 a) (gL l 0 1 a) (gM l 0 1 b) (gL l 0 1 b)=zEE l.length a b
    unfold gM gL
    rw[hl,h a (by omega),h b (by omega),h _ (Nat.mod_lt _ (by omega)),h _ (Nat.mod_lt _ (by omega)),zTC hp hq]
    exact(g a b hab (by omega)).2
theorem zIE{P:List Pt}(hs:aQ P 0 1)(hl:P.length≤64)(ha:0<xH (arZ P 0 1)):vS [P] 0 1=0:=by
  have g0:∀m,m<[P].length→gl [P] m=P:=fun m hm=>by
    rw[show m=0 by rw[List.length_singleton] at hm;omega];rfl
  unfold vS
  rw[if_neg (fun e=>by
    rcases e with e|⟨m,hm,e⟩
    · rw[List.length_singleton] at e;omega
    · rw[g0 m hm] at e;omega),if_neg (fun e=>by
    obtain⟨m,hm,e⟩:=e
    rw[g0 m hm] at e;exact e hs),if_neg (fun e=>by
    obtain⟨a,b,hab,hb,_⟩:=e
    rw[List.length_singleton] at hb;omega),if_neg (fun e=>by
    rcases e with⟨k,hk,e⟩|⟨a,b,ha',hb',e⟩
    · rw[mQ,g0 k hk] at e;exact e.1 ha
    · rw[List.length_singleton] at ha' hb'
      exact e.1.1.1 (by omega))]
end Bk
namespace Bk
set_option linter.unusedVariables false
set_option linter.unusedSimpArgs false
open Classical
theorem zMZ{B:List Pt}{p:Pt}:∀j,(∀i,i<j→¬zJQ (B.getD i zT) p)→j8 B p j= -1
  |0,_=>rfl
  |j+1,h=>by
   rw[←zZK (h j (by omega))]
   exact zMZ j fun i hi=>h i (by omega)
theorem zZ5{B:List Pt}{p:Pt}(h:∀i,i<B.length→¬zJQ (B.getD i zT) p):adB B p=B++[p]∧adN B p=(B.length:Int):=by
  have h1:fdZ B p<0:=by unfold fdZ;rw[zMZ _ h];decide
  exact⟨if_pos h1,if_pos h1⟩
def rgI:Nat→List Int:=uW fun i=>(i:Int)
theorem zNL{l:List Pt}{i k:Nat}(h:i<k):(l.take k).getD i zT=l.getD i zT:=by
  rw[List.getD_eq_getElem?_getD,List.getD_eq_getElem?_getD,List.getElem?_take,if_pos h]
def zI1(l:List Pt):Prop:=∀i j,i<j→j<l.length→¬zJQ (l.getD i zT) (l.getD j zT)
theorem zKA{l:List Pt}(hd:zI1 l):∀k,k≤l.length→plB [] l k=l.take k∧plN [] l k=rgI k
  |0,_=>⟨rfl,rfl⟩
  |k+1,hk=>by
   obtain⟨h1,h2⟩:=zKA hd k (by omega)
   have hl:(l.take k).length=k:=by rw[List.length_take];omega
   have hn:∀i,i<(l.take k).length→¬zJQ ((l.take k).getD i zT) (l.getD k zT):=fun i hi=>by
     rw[hl] at hi
     rw[zNL hi]
     exact hd i k hi (by omega)
   obtain⟨h3,h4⟩:=zZ5 hn
   refine⟨?_,?_⟩
   · show adB (plB [] l k) (l.getD k zT)=_
     rw[h1,h3]
     rw[List.getD_eq_getElem?_getD,List.getElem?_eq_getElem (show k<l.length by omega),List.take_succ_eq_append_getElem (show k<l.length by omega)];rfl
   · show plN [] l k++[adN (plB [] l k) (l.getD k zT)]=rgI k++[(k:Int)]
     rw[h2,h1,h4,hl]
theorem zGZ{l:List Pt}(hd:zI1 l):bsZ [l]=l:=by
  have h:=(zKA hd l.length (Nat.le_refl _)).1
  rw[List.take_length] at h
  exact h
theorem zZW{l:List Pt}(hd:zI1 l):bxZ [l]=[rgI l.length]:=congrArg (fun z=>[z]) (zKA hd l.length (Nat.le_refl _)).2
theorem zQ5{P:List Pt}(ha:0<xH (arZ P 0 1)):ouZ [P]=1:=if_pos ha
theorem zUO{l:List Pt}{lo hi:Rat}(hd:zI1 l)(hs:aQ l 0 1)(hl:l.length≤64)(ha:0<xH (arZ l 0 1))(hlh:lo<hi):prE [l] lo hi=0:=by
  unfold prE
  rw[if_neg (fun e=>e (zIE hs hl ha)),if_neg (fun e=>e (zQ5 ha)),if_neg (fun e=>by unfold wG at e;grind),if_neg]
  unfold prB
  rw[zGZ hd]
  have h1:g6 [l] [l].length=0+l.length:=rfl
  rw[h1]
  omega
section
variable {a b:Pt}
def bB(a b:Pt):List Pt:=[T3.mk a.x a.y (0:Rat),T3.mk b.x a.y (0:Rat),T3.mk b.x b.y (0:Rat),T3.mk a.x b.y (0:Rat)]
theorem zNC(h:mX a b):a.x<b.x∧a.y<b.y∧a.z<b.z:=by
  have g:∀{u v:Rat},¬0≤wG u v→u<v:=fun{u v} h=>Rat.not_le.1 fun e=>h (by unfold wG;grind)
  exact⟨g (h 0 (by decide)),g (h 1 (by decide)),g (h 2 (by decide))⟩
theorem t8(hx:a.x<b.x)(hy:a.y<b.y):zI1 (bB a b):=by
  intro i j hij hj
  have hj4:j<4:=hj
  have:(i=0∧(j=1∨j=2∨j=3))∨(i=1∧(j=2∨j=3))∨(i=2∧j=3):=by omega
  rcases this with⟨rfl,rfl|rfl|rfl⟩|⟨rfl,rfl|rfl⟩|⟨rfl,rfl⟩<;>(intro e;have e1:=e.1;have e2:=e.2;simp only[bB,List.getD_cons_zero,List.getD_cons_succ] at e1 e2;grind)
def uI:List PI:=[(0,0),(1,0),(1,1),(0,1)]
theorem yBT:∀m,m<uI.length→pr (gp (bB a b) m) 0 1=ag a.x (b.x-a.x) a.y (b.y-a.y) (gI uI m):=by
  intro m hm
  have h4:m<4:=hm
  have e0:((0:Int):Rat)=0:=rfl
  have e1:((1:Int):Rat)=1:=rfl
  have:m=0∨m=1∨m=2∨m=3:=by omega
  rcases this with rfl|rfl|rfl|rfl<;>(unfold ag;refine Prod.ext ?_ ?_<;>simp[pr,gp,bB,gI,uI,T3.at,e0,e1]<;>grind)
theorem zZ0(hx:a.x<b.x)(hy:a.y<b.y):aQ (bB a b) 0 1:=zHM (x:=a.x) (p:=b.x-a.x) (y:=a.y) (q:=b.y-a.y) (s:=uI) (by grind) (by grind) rfl yBT (by decide +kernel)
theorem zVY:arZ (bB a b) 0 1=2*((b.x-a.x)*(b.y-a.y)):=by
  unfold arZ
  simp[uU,gp,bB,T3.at]
  grind
theorem zS5(hx:a.x<b.x)(hy:a.y<b.y):0<xH (arZ (bB a b) 0 1):=by
  rw[zVY,z8]
  have:=tS (p:=b.x-a.x) (q:=b.y-a.y) (by grind) (by grind)
  grind
theorem zS3(h:mX a b):blE a b=0:=by
  obtain⟨hx,hy,hz⟩:=zNC h
  rw[(zVX h).1]
  exact zUO (t8 hx hy) (zZ0 hx hy) (show 4≤64 by decide) (zS5 hx hy) hz
def cB(a b:Pt)(x y z:Bool):Pt:=T3.mk (if x then b.x else a.x) (if y then b.y else a.y) (if z then b.z else a.z)
def pB0(a b:Pt):List Pt:=[cB a b false false false,cB a b true false false,cB a b true true false,cB a b false true false,cB a b false false true,cB a b true false true,cB a b true true true,cB a b false true true]
theorem zCK(hx:a.x<b.x)(hy:a.y<b.y):ppZ (blL a b) a.z b.z=pB0 a b:=by
  have h:bsZ (blL a b)=bB a b:=zGZ (t8 hx hy)
  unfold ppZ zQQ
  rw[h]
  show uW _ 8=_
  have hl:(bB a b).length=4:=rfl
  have gt:∀i:Nat,4≤i→(if((4:Nat):Int)≤(i:Int) then b.z else a.z)=b.z:=fun i hi=>if_pos (by omega)
  have gf:∀i:Nat,i<4→(if((4:Nat):Int)≤(i:Int) then b.z else a.z)=a.z:=fun i hi=>if_neg (by omega)
  simp only[uW,List.nil_append,List.cons_append,hl]
  rw[gf 0 (by decide),gf 1 (by decide),gf 2 (by decide),gf 3 (by decide),gt 4 (by decide),gt 5 (by decide),gt 6 (by decide),gt 7 (by decide)]
  rfl
theorem zJC(hx:a.x<b.x)(hy:a.y<b.y):bxZ (blL a b)=[[0,1,2,3]]:=zZW (t8 hx hy)
def sF(A B:Pt)(i j:Int)(nm:List Nat):Fc:=((T3.mk (B.y-A.y) (-(B.x-A.x)) (0:Rat),jG (T3.mk (B.y-A.y) (-(B.x-A.x)) (0:Rat)) A),[[i,j,j+4,i+4]],nm)
def bF0(a b:Pt):Fc:=((T3.mk (0:Rat) (0:Rat) (-((1:Int):Rat)),-a.z),[[3,2,1,0]],[98,111,116,116,111,109])
def tF0(a b:Pt):Fc:=((T3.mk (0:Rat) (0:Rat) ((1:Int):Rat),b.z),[[4,5,6,7]],[116,111,112])
noncomputable def fB0(a b:Pt):List Fc:=[sF (cB a b false false false) (cB a b true false false) 0 1 (nmS 0 0),sF (cB a b true false false) (cB a b true true false) 1 2 (nmS 0 1),sF (cB a b true true false) (cB a b false true false) 2 3 (nmS 0 2),sF (cB a b false true false) (cB a b false false false) 3 0 (nmS 0 3),bF0 a b,tF0 a b]
theorem y8(hx:a.x<b.x)(hy:a.y<b.y){k:Nat}(hk:k<4):sdF (blL a b) a.z b.z 0 k=sF ((pB0 a b).getD k zT) ((pB0 a b).getD ((k+1)%4) zT) (k:Int) (((k+1)%4:Nat):Int) (nmS 0 k):=by
  have hb:=zJC hx hy
  have hl:((bsZ (blL a b)).length:Int)=4:=by rw[show bsZ (blL a b)=bB a b from zGZ (t8 hx hy)];rfl
  have ea:sdA (blL a b) 0 k=(k:Int):=by
    unfold sdA;rw[hb]
    have:k=0∨k=1∨k=2∨k=3:=by omega
    rcases this with rfl|rfl|rfl|rfl<;>rfl
  have eb:sdB (blL a b) 0 k=(((k+1)%4:Nat):Int):=by
    unfold sdB;rw[hb]
    have:k=0∨k=1∨k=2∨k=3:=by omega
    rcases this with rfl|rfl|rfl|rfl<;>rfl
  have en:sdN (blL a b) a.z b.z 0 k=T3.mk (((pB0 a b).getD ((k+1)%4) zT).y-((pB0 a b).getD k zT).y) (-(((pB0 a b).getD ((k+1)%4) zT).x-((pB0 a b).getD k zT).x)) (0:Rat):=by
    unfold sdN
    rw[zCK hx hy,ea,eb,Int.toNat_natCast,Int.toNat_natCast]
  unfold sdF
  rw[en,zCK hx hy,ea,eb,hl,Int.toNat_natCast]
  rfl
theorem zHQ(hx:a.x<b.x)(hy:a.y<b.y):prR (blL a b) a.z b.z=(pB0 a b,fB0 a b,[]):=by
  have hb:=zJC hx hy
  have hl:((bsZ (blL a b)).length:Int)=4:=by rw[show bsZ (blL a b)=bB a b from zGZ (t8 hx hy)];rfl
  unfold prR
  rw[zCK hx hy]
  refine congrArg (fun z=>(pB0 a b,z,([]:List En))) ?_
  have e1:zNS (blL a b) a.z b.z (bxZ (blL a b)).length=[sdF (blL a b) a.z b.z 0 0,sdF (blL a b) a.z b.z 0 1,sdF (blL a b) a.z b.z 0 2,sdF (blL a b) a.z b.z 0 3]:=by
    rw[hb]
    show[]++sfX (blL a b) a.z b.z 0 ((bxZ (blL a b)).getD 0 []).length=_
    rw[hb];rfl
  have e2:btF (blL a b) a.z=bF0 a b:=by
    unfold btF bF0 zZY
    rw[hb];rfl
  have e3:tpF (blL a b) b.z=tF0 a b:=by
    unfold tpF tF0 zXF tpL
    rw[hb,hl];rfl
  rw[e1,e2,e3,y8 hx hy (by decide),y8 hx hy (by decide),y8 hx hy (by decide),y8 hx hy (by decide)]
  rfl
theorem zLZ{n:Nat}(h:n<10):jE (((n:Int):Int):Rat)=[48+n]:=by
  unfold jE
  rw[Rat.num_intCast,Rat.den_intCast,if_neg (by omega),if_pos pV,Int.natAbs_natCast]
  by_cases h0:n=0
  · subst h0;rfl
  · rw[zTN h0 h];rfl
theorem zYJ{k:Nat}(h:k<10):nmS 0 k=[115,48,46,48+k]:=by
  unfold nmS
  rw[zLZ (n:=0) (by decide),zLZ h];rfl
end
end Bk
namespace Bk
set_option linter.unusedVariables false
set_option linter.unusedSimpArgs false
open Classical
def zDQ(p:Nat→Bool):Nat→Nat
  |0=>0
  |k+1=>if p k then zDQ p k else k+1
theorem zDP{P:Nat→Prop}{p:Nat→Bool}:∀n,(∀k,k<n→(P k↔p k=true))→cW P n=zDQ p n
  |0,_=>rfl
  |n+1,h=>by
   have ih:=zDP n fun k hk=>h k (by omega)
   have h1:=h n (by omega)
   unfold cW zDQ
   rw[ih]
   by_cases hp:P n
   · rw[if_pos hp,if_pos (h1.1 hp)]
   · rw[if_neg hp,if_neg (fun e=>hp (h1.2 e))]
def usB(E:List E5)(i:Nat):Bool:=E.any fun e=>decide (e.1=(i:Int))
theorem zPI(E:List E5)(i:Nat):zFP E E.length i↔usB E i=true:=by
  unfold usB
  rw[List.any_eq_true]
  constructor
  · rintro⟨q,hq,h⟩
    exact⟨_,pR hq,decide_eq_true h⟩
  · rintro⟨e,he,h⟩
    obtain⟨q,hq,rfl⟩:=List.getElem_of_mem he
    refine⟨q,hq,?_⟩
    rw[List.getD_eq_getElem?_getD,List.getElem?_eq_getElem hq]
    exact of_decide_eq_true h
def orB(E:List E5)(lt:Nat→Nat→Bool):Nat→List Int
  |0=>[]
  |i+1=>if usB E i then eX (orB E lt i) (zDQ (fun k=>lt i ((orB E lt i).getD k 0).toNat) (orB E lt i).length) (i:Int) else orB E lt i
theorem zQ6{s:Sd}{lt:Nat→Nat→Bool}{n:Nat}(h:∀i k,i<n→k<n→(lsP (gp s.1 i) (gp s.1 k)↔lt i k=true)):∀i,i≤n→bM s i=orB (edZ (vN s)) lt i
  |0,_=>rfl
  |i+1,hi=>by
   have ih:=zQ6 h i (by omega)
   unfold bM orB
   have hb:cW (zN4 s (bM s i) i) (bM s i).length=zDQ (fun k=>lt i ((orB (edZ (vN s)) lt i).getD k 0).toNat) (orB (edZ (vN s)) lt i).length:=by
     rw[←ih]
     refine zDP _ fun k hk=>?_
     have:=oR hk
     exact h i _ (by omega) (by omega)
   rw[hb,ih]
   by_cases hu:zFP (edZ (vN s)) (edZ (vN s)).length i
   · rw[if_pos hu,if_pos ((zPI _ _).1 hu)]
   · rw[if_neg hu,if_neg (fun e=>hu ((zPI _ _).2 e))]
abbrev B3:=Bool×Bool×Bool
def lt3(u v:B3):Bool:=(!u.1&&v.1)||(u.1==v.1&&((!u.2.1&&v.2.1)||(u.2.1==v.2.1&&(!u.2.2&&v.2.2))))
def cU(a b:Pt)(u:B3):Pt:=cB a b u.1 u.2.1 u.2.2
variable {a b:Pt}
theorem zOO(hx:a.x<b.x)(hy:a.y<b.y)(hz:a.z<b.z)(u v:B3):lsP (cU a b u) (cU a b v)↔lt3 u v=true:=by
  obtain⟨u1,u2,u3⟩:=u;obtain⟨v1,v2,v3⟩:=v
  cases u1<;>cases u2<;>cases u3<;>cases v1<;>cases v2<;>cases v3<;>simp[lsP,cU,cB,lt3]<;>grind
theorem zZU(hx:a.x<b.x)(hy:a.y<b.y)(hz:a.z<b.z){u v:B3}(h:cU a b u=cU a b v):u=v:=by
  obtain⟨u1,u2,u3⟩:=u;obtain⟨v1,v2,v3⟩:=v
  have h1:=congrArg T3.x h;have h2:=congrArg T3.y h;have h3:=congrArg T3.z h
  cases u1<;>cases u2<;>cases u3<;>cases v1<;>cases v2<;>cases v3<;>first|rfl|(exfalso;simp[cU,cB] at h1 h2 h3;grind)
def uB0:List B3:=[(false,false,false),(true,false,false),(true,true,false),(false,true,false),(false,false,true),(true,false,true),(true,true,true),(false,true,true)]
theorem nS:pB0 a b=uB0.map (cU a b):=rfl
theorem iI{l:List B3}{i:Nat}(h:i<l.length):gp (l.map (cU a b)) i=cU a b (l.getD i (false,false,false)):=by
  unfold gp
  rw[List.getD_eq_getElem?_getD,List.getD_eq_getElem?_getD,List.getElem?_map,List.getElem?_eq_getElem h];rfl
theorem zET(hx:a.x<b.x)(hy:a.y<b.y)(hz:a.z<b.z){l:List B3}{F:List Fc}{E:List En}:fG (l.map (cU a b),F,E)=orB (edZ (vN (l.map (cU a b),F,E))) (fun i k=>lt3 (l.getD i (false,false,false)) (l.getD k (false,false,false))) l.length:=by
  unfold fG
  rw[show(l.map (cU a b),F,E).1.length=l.length from List.length_map _]
  refine zQ6 (n:=l.length) (fun i k hi hk=>?_) _ (Nat.le_refl _)
  show lsP (gp (l.map (cU a b)) i) (gp (l.map (cU a b)) k)↔_
  rw[iI hi,iI hk]
  exact zOO hx hy hz _ _
theorem oY:vN (pB0 a b,fB0 a b,[])=[[[0,1,5,4]],[[1,2,6,5]],[[2,3,7,6]],[[3,0,4,7]],[[3,2,1,0]],[[4,5,6,7]]]:=rfl
theorem zH0(hx:a.x<b.x)(hy:a.y<b.y)(hz:a.z<b.z):fG (pB0 a b,fB0 a b,[])=[0,4,3,7,1,5,2,6]:=by
  rw[nS,zET hx hy hz,←nS,oY]
  decide +kernel
end Bk
namespace Bk
set_option linter.unusedVariables false
set_option linter.unusedSimpArgs false
open Classical
theorem pF{α:Type}{p:Nat→Prop}{g:Nat→α}:∀{n},(∀i,i<n→¬p i)→cG p g n=[]
  |0,_=>rfl
  |n+1,h=>by
   rw[←y7 (h n (by omega))]
   exact pF fun i hi=>h i (by omega)
theorem zAT{α:Type}{g:Nat→List α}:∀{n},(∀i,i<n→g i=[])→cE g n=[]
  |0,_=>rfl
  |n+1,h=>by
   show cE g n++g n=[]
   rw[h n (by omega),zAT fun i hi=>h i (by omega)];rfl
def tmB(E:List E5)(a b:Int):Nat→Int
  |0=>0
  |m+1=>if(E.getD m ((0:Int),(0:Int),(0:Int),(0:Int),(0:Int))).1=a∧(E.getD m ((0:Int),(0:Int),(0:Int),(0:Int),(0:Int))).2.1=b then tmB E a b m+1 else tmB E a b m
theorem zJO(E:List E5)(a b:Int):∀m,dX E a b m=tmB E a b m
  |0=>rfl
  |m+1=>by
   unfold dX tmB
   rw[zJO E a b m]
   by_cases h:zVT (E.getD m ((0:Int),(0:Int),(0:Int),(0:Int),(0:Int))) a b
   · rw[if_pos h];exact(if_pos h).symm
   · rw[if_neg h];exact(if_neg h).symm
def clB(E:List E5):Bool:=(List.range E.length).all fun i=>!decide (tmB E (E.getD i ((0:Int),(0:Int),(0:Int),(0:Int),(0:Int))).2.1 (E.getD i ((0:Int),(0:Int),(0:Int),(0:Int),(0:Int))).1 E.length<tmB E (E.getD i ((0:Int),(0:Int),(0:Int),(0:Int),(0:Int))).1 (E.getD i ((0:Int),(0:Int),(0:Int),(0:Int),(0:Int))).2.1 E.length)
theorem yBR{F:List (List (List Int))}(hv:vaP F)(h:clB (edZ F)=true):clZ F=[]:=by
  unfold clZ
  rw[if_pos hv]
  unfold zZQ
  refine pF fun i hi=>?_
  have h1:=List.all_eq_true.1 h i (List.mem_range.2 hi)
  rw[Bool.not_eq_true',decide_eq_false_iff_not] at h1
  unfold yBJ tmZ
  rw[zJO,zJO]
  exact h1
theorem yAI{s:Sd}(hb:¬zO8 s)(hf:∀f,f<s.2.1.length→vfP (s.2.1.getD f zA).2.1∧nmP s f):szZ s=[]:=by
  unfold szZ
  rw[if_neg hb]
  exact pF fun f hf' e=>by
    rcases e with e|e
    · exact e (hf f hf').1
    · exact e (hf f hf').2
theorem yAH{s:Sd}(h:∀i k,k<i→i<s.1.length→¬gp s.1 i=gp s.1 k):zNI s s.1.length=[]:=pF fun i hi e=>by
  obtain⟨k,hk,e⟩:=e
  exact h i k hk hi e
theorem yA1{s:Sd}(hz:∀f,f<s.2.1.length→¬(s.2.1.getD f zA).1.1=zT)(ho:∀f,f<s.2.1.length→∀l,l<(fP s f).length→∀k,k<(gl (fP s f) l).length→sdZ (s.2.1.getD f zA).1 (gp (gl (fP s f) l) k)=0):plZ s=[]:=by
  have h1:zPB s s.2.1.length=[]:=pF fun f hf e=>hz f hf e
  have h2:zKM s s.2.1.length=[]:=zAT fun f hf=>zAT fun l hl=>pF fun k hk e=>e (ho f hf l hl k hk)
  unfold plZ
  rw[h1,h2];rfl
theorem yA4{s:Sd}(h:∀f,f<s.2.1.length→vS (rH s f) 0 1=0∧ouZ (rH s f)=1):neZ s=[]:=by
  have h1:zS1 s s.2.1.length=[]:=pF fun f hf e=>e (h f hf).1
  have h2:zYM s s.2.1.length=[]:=pF fun f hf e=>e (h f hf).2
  unfold neZ
  rw[h1,h2];rfl
theorem zTW{s:Sd}(h1:szZ s=[])(h2:zNI s s.1.length=[])(h3:plZ s=[])(h4:neZ s=[])(h5:clZ (vN s)=[]):z4 s:=by
  unfold z4 zVW
  rw[h1,h2,h3,h4,h5];rfl
theorem yBP{s:Sd}{f:Nat}{i j k l:Int}(hf:f<s.2.1.length)(hn:nmP s f)(hl:(s.2.1.getD f zA).2.1=[[i,j,k,l]]):fP s f=[[gp s.1 i.toNat,gp s.1 j.toNat,gp s.1 k.toNat,gp s.1 l.toNat]]:=by
  rw[zSN hf hn,hl]
  unfold zI3
  rw[hl];rfl
theorem zSC{s:Sd}{f:Nat}{A B C D:Pt}(h:fP s f=[[A,B,C,D]]):rH s f=[[cI (s.2.1.getD f zA).1 A,cI (s.2.1.getD f zA).1 B,cI (s.2.1.getD f zA).1 C,cI (s.2.1.getD f zA).1 D]]:=by
  unfold rH
  rw[h];rfl
theorem zX3{x p y q:Rat}(hp:0<p)(hq:0<q){l:List Pt}{t:List PI}(ht:t=[(0,0),(1,0),(1,1),(0,1)]∨t=[(1,0),(1,1),(0,1),(0,0)]∨t=[(1,1),(0,1),(0,0),(1,0)]∨t=[(0,1),(0,0),(1,0),(1,1)])
    (hl:l=t.map fun u=>T3.mk (x+p*(u.1:Rat)) (y+q*(u.2:Rat)) (0:Rat)):vS [l] 0 1=0∧ouZ [l]=1:=by
  have h4:t.length=4:=by rcases ht with rfl|rfl|rfl|rfl<;>rfl
  have hlen:l.length=t.length:=by rw[hl,List.length_map]
  have hg:∀m,m<t.length→pr (gp l m) 0 1=ag x p y q (gI t m):=fun m hm=>by
    rw[hl]
    unfold gp gI
    rw[List.getD_eq_getElem?_getD,List.getD_eq_getElem?_getD,List.getElem?_map,List.getElem?_eq_getElem hm]
    rfl
  have hs:aQ l 0 1:=zHM hp hq hlen hg (by rcases ht with rfl|rfl|rfl|rfl<;>decide +kernel)
  have e0:((0:Int):Rat)=0:=rfl
  have e1:((1:Int):Rat)=1:=rfl
  have ha:arZ l 0 1=2*(p*q):=by
    unfold arZ
    rcases ht with rfl|rfl|rfl|rfl<;>(subst hl;simp[uU,gp,T3.at,e0,e1];grind)
  have hpos:0<xH (arZ l 0 1):=by
    rw[ha,z8]
    have:=tS hp hq
    grind
  exact⟨zIE hs (by omega) hpos,zQ5 hpos⟩
end Bk
namespace Bk
set_option linter.unusedVariables false
set_option linter.unusedSimpArgs false
open Classical
abbrev Dir:=Nat×Bool
def dI:Dir→Nat
  |(2,true)=>0|(2,false)=>1|(1,true)=>2|(1,false)=>0|(_,true)=>1|(_,false)=>2
def dJ:Dir→Nat
  |(2,true)=>1|(2,false)=>0|(1,true)=>0|(1,false)=>2|(_,true)=>2|(_,false)=>1
def dN(d:Dir)(c:Rat):Pt:=(zT).set d.1 (if d.2 then c else -c)
def zO7(u:B3):Nat→Bool
  |0=>u.1|1=>u.2.1|_=>u.2.2
def bI(x:Bool):Int:=if x then 1 else 0
def pI2(d:Dir)(u:B3):PI:=(bI (zO7 u (dI d)),bI (zO7 u (dJ d)))
variable {a b:Pt}
theorem zWU(u:B3)(i:Nat):(cU a b u).at i=if zO7 u i then b.at i else a.at i:=by
  obtain⟨u1,u2,u3⟩:=u
  match i with
  |0=>rfl
  |1=>rfl
  |n+2=>rfl
theorem zST(u:B3)(i:Nat):(cU a b u).at i=a.at i+(b.at i-a.at i)*((bI (zO7 u i):Int):Rat):=by
  rw[zWU]
  have e0:((0:Int):Rat)=0:=rfl
  have e1:((1:Int):Rat)=1:=rfl
  unfold bI
  split
  · rw[e1];grind
  · rw[e0];grind
theorem zLV{d:Dir}{c:Rat}(hd:d.1<3)(hc:0<c):axI (dN d c)=dI d∧axJ (dN d c)=dJ d∧¬dN d c=zT:=by
  obtain⟨ax,sd⟩:=d
  have h3:ax=0∨ax=1∨ax=2:=by have:ax<3:=hd;omega
  have hn:¬dN (ax,sd) c=zT:=fun e=>by
    have h1:=congrArg T3.x e;have h2:=congrArg T3.y e;have h3':=congrArg T3.z e
    rcases h3 with rfl|rfl|rfl<;>cases sd<;>simp[dN,T3.set] at h1 h2 h3'<;>grind
  refine⟨?_,?_,hn⟩
  · rcases h3 with rfl|rfl|rfl<;>cases sd<;>simp[dN,T3.set,axI,dI]<;>grind
  · rcases h3 with rfl|rfl|rfl<;>cases sd<;>simp[dN,T3.set,axJ,dJ]<;>grind
def zG6(d:Dir)(us:List B3):Bool:=(us.all fun u=>zO7 u d.1==d.2)&&(decide (us.map (pI2 d)=[(0,0),(1,0),(1,1),(0,1)])||decide (us.map (pI2 d)=[(1,0),(1,1),(0,1),(0,0)])||decide (us.map (pI2 d)=[(1,1),(0,1),(0,0),(1,0)])||decide (us.map (pI2 d)=[(0,1),(0,0),(1,0),(1,1)]))
theorem zVO{d:Dir}{c o:Rat}(hd:d.1<3)(hc:0<c)(u:B3):cI (dN d c,o) (cU a b u)=T3.mk (a.at (dI d)+(b.at (dI d)-a.at (dI d))*(((pI2 d u).1:Int):Rat)) (a.at (dJ d)+(b.at (dJ d)-a.at (dJ d))*(((pI2 d u).2:Int):Rat)) (0:Rat):=by
  unfold cI
  rw[(zLV hd hc).1,(zLV hd hc).2.1,zST,zST];rfl
theorem zFF{d:Dir}{c o:Rat}(hd:d.1<3)(hc:0<c)(h:∀i,a.at i<b.at i){us:List B3}(ht:zG6 d us=true):vS [us.map fun u=>cI (dN d c,o) (cU a b u)] 0 1=0∧ouZ [us.map fun u=>cI (dN d c,o) (cU a b u)]=1:=by
  unfold zG6 at ht
  simp only[Bool.and_eq_true,Bool.or_eq_true,decide_eq_true_iff] at ht
  refine zX3 (x:=a.at (dI d)) (p:=b.at (dI d)-a.at (dI d)) (y:=a.at (dJ d)) (q:=b.at (dJ d)-a.at (dJ d)) (t:=us.map (pI2 d)) (by have:=h (dI d);grind) (by have:=h (dJ d);grind) ?_ ?_
  · rcases ht.2 with((h1|h1)|h1)|h1
    · exact .inl h1
    · exact .inr (.inl h1)
    · exact .inr (.inr (.inl h1))
    · exact .inr (.inr (.inr h1))
  · rw[List.map_map]
    exact List.map_congr_left fun u _=>zVO hd hc u
theorem zOW{d:Dir}{c:Rat}(hd:d.1<3){u:B3}(hu:zO7 u d.1=d.2):sdZ (dN d c,(if d.2 then c else -c)*(if d.2 then b.at d.1 else a.at d.1)) (cU a b u)=0:=by
  unfold sdZ hgt
  have e:=zWU (a:=a) (b:=b) u d.1
  rw[hu] at e
  obtain⟨ax,sd⟩:=d
  have h3:ax=0∨ax=1∨ax=2:=by have:ax<3:=hd;omega
  have h0:jG (dN (ax,sd) c) (cU a b u)=(if sd then c else -c)*(cU a b u).at ax:=by
    rcases h3 with rfl|rfl|rfl<;>(simp only[jG,dN,T3.set,T3.at];grind)
  rw[h0,e]
  refine if_pos ?_
  show _*_-_*_=(0:Rat)
  grind
abbrev u0:B3:=(false,false,false)
def mL(a b:Pt)(us:List B3)(d:Dir)(f:Fc):Prop:=
  d.1<3∧∃c,0<c∧f.1=(dN d c,(if d.2 then c else -c)*(if d.2 then b.at d.1 else a.at d.1))∧∃i j k l:Nat,f.2.1=[[(i:Int),(j:Int),(k:Int),(l:Int)]]∧(i<us.length∧j<us.length∧k<us.length∧l<us.length)∧zG6 d [us.getD i u0,us.getD j u0,us.getD k u0,us.getD l u0]=true
section
variable {us:List B3}{F:List Fc}
theorem zSZ{d:Dir}{f:Nat}(h:mL a b us d (F.getD f zA)):nmP (us.map (cU a b),F,[]) f:=by
  obtain⟨_,c,_,_,i,j,k,l,hl,⟨h1,h2,h3,h4⟩,_⟩:=h
  intro m hm q hq
  show 0≤_∧_<(((us.map (cU a b)).length:Nat):Int)
  rw[List.length_map]
  have hm':m<((F.getD f zA).2.1).length:=hm
  have hq':q<(((F.getD f zA).2.1).getD m []).length:=hq
  show 0≤(((F.getD f zA).2.1).getD m []).getD q 0∧(((F.getD f zA).2.1).getD m []).getD q 0<_
  rw[hl] at hm' hq' ⊢
  have hm0:m=0:=by have:m<1:=hm';omega
  subst hm0
  have hq4:q<4:=hq'
  have:q=0∨q=1∨q=2∨q=3:=by omega
  rcases this with rfl|rfl|rfl|rfl
  · show 0≤(i:Int)∧(i:Int)<_;omega
  · show 0≤(j:Int)∧(j:Int)<_;omega
  · show 0≤(k:Int)∧(k:Int)<_;omega
  · show 0≤(l:Int)∧(l:Int)<_;omega
theorem zB1{d:Dir}{f:Nat}(hf:f<F.length)(h:mL a b us d (F.getD f zA)):∃vs:List B3,zG6 d vs=true∧vs.length=4∧fP (us.map (cU a b),F,[]) f=[vs.map (cU a b)]:=by
  have hn:=zSZ h
  obtain⟨_,c,_,_,i,j,k,l,hl,⟨h1,h2,h3,h4⟩,ht⟩:=h
  refine⟨[us.getD i u0,us.getD j u0,us.getD k u0,us.getD l u0],ht,rfl,?_⟩
  rw[yBP (s:=(us.map (cU a b),F,[])) hf hn hl]
  show[[gp (us.map (cU a b)) _,gp (us.map (cU a b)) _,gp (us.map (cU a b)) _,gp (us.map (cU a b)) _]]=_
  rw[Int.toNat_natCast,Int.toNat_natCast,Int.toNat_natCast,Int.toNat_natCast,iI h1,iI h2,iI h3,iI h4];rfl
theorem zNB(h:a.x<b.x∧a.y<b.y∧a.z<b.z)(hn:∀i k,k<i→i<us.length→¬us.getD i u0=us.getD k u0)(hu:us.length≤512∧F.length≤256)(hF:∀f,f<F.length→∃d,mL a b us d (F.getD f zA))(hv:∀f,f<F.length→vfP (F.getD f zA).2.1)
    (hva:vaP (vN (us.map (cU a b),F,[])))(hc:clB (edZ (vN (us.map (cU a b),F,[])))=true):z4 (us.map (cU a b),F,[]):=by
  have hat:∀i,a.at i<b.at i:=fun i=>match i with
    |0=>h.1|1=>h.2.1|_+2=>h.2.2
  have hlm:(us.map (cU a b)).length=us.length:=List.length_map _
  refine zTW (yAI (fun e=>?_) fun f hf=>?_) (yAH fun i k hki hi e=>?_) (yA1 (fun f hf=>?_) fun f hf l hl k hk=>?_) (yA4 fun f hf=>?_) (yBR hva hc)
  · rcases e with(e|e)|e
    · have e':512<(us.map (cU a b)).length:=e
      omega
    · have e':256<F.length:=e
      omega
    · have e':1024<([]:List En).length:=e
      simp at e'
  · obtain⟨d,hd⟩:=hF f hf
    exact⟨hv f hf,zSZ hd⟩
  · have hi':i<us.length:=by rw[←hlm];exact hi
    have e':gp (us.map (cU a b)) i=gp (us.map (cU a b)) k:=e
    rw[iI hi',iI (by omega)] at e'
    exact hn i k hki hi' (zZU h.1 h.2.1 h.2.2 e')
  · obtain⟨d,hd3,c,hc0,hp,_⟩:=hF f hf
    show ¬(F.getD f zA).1.1=zT
    rw[hp]
    exact(zLV hd3 hc0).2.2
  · obtain⟨d,hd⟩:=hF f hf
    obtain⟨vs,ht,h4,hcr⟩:=zB1 hf hd
    obtain⟨hd3,c,hc0,hp,_⟩:=hd
    rw[hcr] at hl hk ⊢
    have hl0:l=0:=by have:l<1:=hl;omega
    subst hl0
    have hk':k<(vs.map (cU a b)).length:=hk
    rw[List.length_map] at hk'
    show sdZ (F.getD f zA).1 (gp (vs.map (cU a b)) k)=0
    rw[hp,iI hk']
    refine zOW hd3 ?_
    unfold zG6 at ht
    simp only[Bool.and_eq_true] at ht
    have h9:=List.all_eq_true.1 ht.1 (vs.getD k u0) (pR hk')
    exact eq_of_beq h9
  · obtain⟨d,hd⟩:=hF f hf
    obtain⟨vs,ht,h4,hcr⟩:=zB1 hf hd
    obtain⟨hd3,c,hc0,hp,_⟩:=hd
    have e:rH (us.map (cU a b),F,[]) f=[vs.map fun u=>cI (F.getD f zA).1 (cU a b u)]:=by
      obtain⟨v1,v2,v3,v4,rfl⟩:∃v1 v2 v3 v4,vs=[v1,v2,v3,v4]:=by
        match vs,h4 with
        |[v1,v2,v3,v4],_=>exact⟨_,_,_,_,rfl⟩
      exact zSC hcr
    rw[e,hp]
    exact zFF hd3 hc0 hat ht
end
end Bk
namespace Bk
set_option linter.unusedVariables false
set_option linter.unusedSimpArgs false
open Classical
instance decLp(x:List Int):Decidable (lpP x):=by unfold lpP;exact inferInstance
instance decVf(L:List (List Int)):Decidable (vfP L):=by unfold vfP;exact inferInstance
instance decVa(F:List (List (List Int))):Decidable (vaP F):=by unfold vaP;exact inferInstance
variable {a b:Pt}
theorem zEQ{N M:Pt}{o r:Rat}(h1:N=M)(h2:o=r):(N,o)=(M,r):=by rw[h1,h2]
theorem zM1(h:a.x<b.x∧a.y<b.y∧a.z<b.z):mL a b uB0 (1,false) ((fB0 a b).getD 0 zA)∧mL a b uB0 (0,true) ((fB0 a b).getD 1 zA)∧mL a b uB0 (1,true) ((fB0 a b).getD 2 zA)∧mL a b uB0 (0,false) ((fB0 a b).getD 3 zA)∧mL a b uB0 (2,false) ((fB0 a b).getD 4 zA)∧mL a b uB0 (2,true) ((fB0 a b).getD 5 zA):=by
  obtain⟨hx,hy,hz⟩:=h
  refine⟨?_,?_,?_,?_,?_,?_⟩
  · refine⟨by decide,b.x-a.x,by grind,zEQ ?_ ?_,0,1,5,4,rfl,by decide,by decide⟩
    · show T3.mk (a.y-a.y) (-(b.x-a.x)) (0:Rat)=T3.mk 0 (-(b.x-a.x)) 0
      rw[iD];refine⟨?_,rfl,rfl⟩;show a.y-a.y=0;grind
    · show jG (T3.mk (a.y-a.y) (-(b.x-a.x)) (0:Rat)) (T3.mk a.x a.y a.z)= -(b.x-a.x)*a.y
      unfold jG;simp only;grind
  · refine⟨by decide,b.y-a.y,by grind,zEQ ?_ ?_,1,2,6,5,rfl,by decide,by decide⟩
    · show T3.mk (b.y-a.y) (-(b.x-b.x)) (0:Rat)=T3.mk (b.y-a.y) 0 0
      rw[iD];refine⟨rfl,?_,rfl⟩;show -(b.x-b.x)=0;grind
    · show jG (T3.mk (b.y-a.y) (-(b.x-b.x)) (0:Rat)) (T3.mk b.x a.y a.z)=(b.y-a.y)*b.x
      unfold jG;simp only;grind
  · refine⟨by decide,b.x-a.x,by grind,zEQ ?_ ?_,2,3,7,6,rfl,by decide,by decide⟩
    · show T3.mk (b.y-b.y) (-(a.x-b.x)) (0:Rat)=T3.mk 0 (b.x-a.x) 0
      rw[iD];refine⟨?_,?_,rfl⟩
      · show b.y-b.y=0;grind
      · show -(a.x-b.x)=b.x-a.x;grind
    · show jG (T3.mk (b.y-b.y) (-(a.x-b.x)) (0:Rat)) (T3.mk b.x b.y a.z)=(b.x-a.x)*b.y
      unfold jG;simp only;grind
  · refine⟨by decide,b.y-a.y,by grind,zEQ ?_ ?_,3,0,4,7,rfl,by decide,by decide⟩
    · show T3.mk (a.y-b.y) (-(a.x-a.x)) (0:Rat)=T3.mk (-(b.y-a.y)) 0 0
      rw[iD];refine⟨?_,?_,rfl⟩
      · show a.y-b.y= -(b.y-a.y);grind
      · show -(a.x-a.x)=0;grind
    · show jG (T3.mk (a.y-b.y) (-(a.x-a.x)) (0:Rat)) (T3.mk a.x b.y a.z)= -(b.y-a.y)*a.x
      unfold jG;simp only;grind
  · refine⟨by decide,1,by decide,zEQ rfl ?_,3,2,1,0,rfl,by decide,by decide⟩
    show -a.z= -1*a.z
    grind
  · refine⟨by decide,1,by decide,zEQ rfl ?_,4,5,6,7,rfl,by decide,by decide⟩
    show b.z=1*b.z
    grind
theorem zM2(h:a.x<b.x∧a.y<b.y∧a.z<b.z):∀f,f<(fB0 a b).length→∃d,mL a b uB0 d ((fB0 a b).getD f zA):=by
  intro f hf
  have hf6:f<6:=hf
  obtain⟨h0,h1,h2,h3,h4,h5⟩:=zM1 h
  have:f=0∨f=1∨f=2∨f=3∨f=4∨f=5:=by omega
  rcases this with rfl|rfl|rfl|rfl|rfl|rfl
  · exact⟨_,h0⟩
  · exact⟨_,h1⟩
  · exact⟨_,h2⟩
  · exact⟨_,h3⟩
  · exact⟨_,h4⟩
  · exact⟨_,h5⟩
theorem zEK(h:a.x<b.x∧a.y<b.y∧a.z<b.z):z4 (pB0 a b,fB0 a b,[]):=by
  have g:∀i,i<uB0.length→∀k,k<i→¬uB0.getD i u0=uB0.getD k u0:=by decide +kernel
  rw[nS]
  refine zNB h (fun i k hk hi=>g i hi k hk) ⟨by decide,show 6≤256 by decide⟩ (zM2 h) (fun f hf=>?_) ?_ ?_
  · have hf6:f<6:=hf
    have:f=0∨f=1∨f=2∨f=3∨f=4∨f=5:=by omega
    rcases this with rfl|rfl|rfl|rfl|rfl|rfl
    · show vfP [[0,1,5,4]];decide +kernel
    · show vfP [[1,2,6,5]];decide +kernel
    · show vfP [[2,3,7,6]];decide +kernel
    · show vfP [[3,0,4,7]];decide +kernel
    · show vfP [[3,2,1,0]];decide +kernel
    · show vfP [[4,5,6,7]];decide +kernel
  · rw[←nS,oY];decide +kernel
  · rw[←nS,oY];decide +kernel
end Bk
namespace Bk
set_option linter.unusedVariables false
set_option linter.unusedSimpArgs false
open Classical
variable {a b:Pt}
def ixB(o:List Int)(n:Nat):Nat→List Int
  |0=>List.replicate n (0:Int)
  |i+1=>(ixB o n i).set (o.getD i 0).toNat (i:Int)
theorem zLJ{s:Sd}{o:List Int}(h:fG s=o):∀i,zLK s i=ixB o s.1.length i
  |0=>rfl
  |i+1=>by unfold zLK ixB;rw[zLJ h i,h]
theorem zR3(h:a.x<b.x∧a.y<b.y∧a.z<b.z):ixZ (pB0 a b,fB0 a b,[])=[0,4,6,2,1,5,7,3]:=by
  have ho:=zH0 h.1 h.2.1 h.2.2
  unfold ixZ
  rw[zLJ ho,ho]
  show ixB _ 8 8=_
  decide
def uB1:List B3:=[(false,false,false),(false,false,true),(false,true,false),(false,true,true),(true,false,false),(true,false,true),(true,true,false),(true,true,true)]
theorem zRF(h:a.x<b.x∧a.y<b.y∧a.z<b.z):nrP (pB0 a b,fB0 a b,[])=uB1.map (cU a b):=by
  have ho:=zH0 h.1 h.2.1 h.2.2
  unfold nrP
  rw[if_pos (zEK h)]
  unfold zUV
  rw[ho];rfl
theorem zMA(h:a.x<b.x∧a.y<b.y∧a.z<b.z){us:List B3}{F:List Fc}{f:Nat}(hf:f<F.length){d:Dir}(hd:mL a b us d (F.getD f zA)):zHS (us.map (cU a b),F,[]) f 0:=by
  have hat:∀i,a.at i<b.at i:=fun i=>match i with
    |0=>h.1|1=>h.2.1|_+2=>h.2.2
  obtain⟨vs,ht,h4,hcr⟩:=zB1 hf hd
  obtain⟨hd3,c,hc0,hp,_⟩:=hd
  obtain⟨v1,v2,v3,v4,rfl⟩:∃v1 v2 v3 v4,vs=[v1,v2,v3,v4]:=by
    match vs,h4 with
    |[v1,v2,v3,v4],_=>exact⟨_,_,_,_,rfl⟩
  have e:rH (us.map (cU a b),F,[]) f=[[v1,v2,v3,v4].map fun u=>cI (F.getD f zA).1 (cU a b u)]:=zSC hcr
  have ho:=(zFF (o:=(F.getD f zA).1.2) hd3 hc0 hat ht).2
  unfold zHS
  rw[e]
  have e2:(F.getD f zA).1=(dN d c,(F.getD f zA).1.2):=by rw[hp]
  rw[e2]
  refine Classical.byContradiction fun hn=>?_
  have h0:ouZ [[v1,v2,v3,v4].map fun u=>cI (dN d c,(F.getD f zA).1.2) (cU a b u)]=0:=if_neg hn
  rw[h0] at ho
  exact absurd ho (by decide)
theorem zXZ{d:Dir}{c r:Rat}(hd:d.1<3)(hc:0<c):scZ (dN d c,(if d.2 then c else -c)*r)=(dN d 1,(if d.2 then 1 else -1)*r):=by
  obtain⟨ax,sd⟩:=d
  have h3:ax=0∨ax=1∨ax=2:=by have:ax<3:=hd;omega
  have hs:∀{x:Rat},x≠0→¬xH x=0:=fun{x} hx e=>by unfold xH at e;rw[if_neg hx] at e;split at e<;>omega
  have hz:xH 0=0:=if_pos rfl
  have hne:c≠0:=by grind
  have hne2:-c≠0:=by grind
  have hiv:ivA c*c=1∧ivA (-c)*c=1:=by
    have e1:((1:Int):Rat)=1:=rfl
    have n1:¬c.num<0:=Int.not_lt.2 (Rat.num_nonneg.2 (Rat.le_of_lt hc))
    have n2:(-c).num<0:=Int.not_le.1 fun e=>by have:=Rat.num_nonneg.1 e;grind
    have a1:dO c=c:=if_neg n1
    have a2:dO (-c)=c:=by
      have:dO (-c)= - -c:=if_pos n2
      rw[this];grind
    unfold ivA
    rw[a1,a2,if_neg hne,e1]
    grind
  rcases h3 with rfl|rfl|rfl<;>cases sd<;>simp[scZ,dN,T3.set,hz,hs hne,hs hne2,scW]<;>grind
end Bk
namespace Bk
set_option linter.unusedVariables false
set_option linter.unusedSimpArgs false
open Classical
variable {a b:Pt}
def plD(a b:Pt)(d:Dir):Pl:=(dN d 1,(if d.2 then 1 else -1)*(if d.2 then b.at d.1 else a.at d.1))
theorem cA(h:a.x<b.x∧a.y<b.y∧a.z<b.z){us:List B3}{F:List Fc}{f:Nat}(hf:f<F.length){d:Dir}(hd:mL a b us d (F.getD f zA))(ix:List Int){x:List Int}(hx:(F.getD f zA).2.1=[x]):
    nfF (us.map (cU a b),F,[]) ix f=(plD a b d,[zQE (uW (fun q=>ix.getD (x.getD q 0).toNat 0) x.length)],(F.getD f zA).2.2):=by
  have hp:=zMA h hf hd
  obtain⟨hd3,c,hc0,hpl,_⟩:=hd
  unfold nfF
  show(scZ (F.getD f zA).1,ouL (us.map (cU a b),F,[]) ix f ((F.getD f zA).2.1).length++zBL (us.map (cU a b),F,[]) ix f ((F.getD f zA).2.1).length,(F.getD f zA).2.2)=_
  rw[hpl,zXZ hd3 hc0,hx]
  have e1:ouL (us.map (cU a b),F,[]) ix f 1=[nfL (us.map (cU a b),F,[]) ix f 0]:=by
    unfold ouL
    rw[←y6 hp];rfl
  have e2:zBL (us.map (cU a b),F,[]) ix f 1=[]:=if_pos hp
  show(_,ouL _ ix f 1++zBL _ ix f 1,_)=_
  rw[e1,e2]
  have e3:nfL (us.map (cU a b),F,[]) ix f 0=zQE (uW (fun q=>ix.getD (x.getD q 0).toNat 0) x.length):=by
    unfold nfL nwL
    show zQE (uW (fun q=>ix.getD ((((F.getD f zA).2.1).getD 0 []).getD q 0).toNat 0) (((F.getD f zA).2.1).getD 0 []).length)=_
    rw[hx];rfl
  rw[e3];rfl
theorem zRG(h:a.x<b.x∧a.y<b.y∧a.z<b.z)(ix:List Int)(hix:ix=[0,4,6,2,1,5,7,3]):
    nfF (pB0 a b,fB0 a b,[]) ix 0=(plD a b (1,false),[[0,4,5,1]],nmS 0 0)∧nfF (pB0 a b,fB0 a b,[]) ix 1=(plD a b (0,true),[[4,6,7,5]],nmS 0 1)∧nfF (pB0 a b,fB0 a b,[]) ix 2=(plD a b (1,true),[[2,3,7,6]],nmS 0 2)∧
    nfF (pB0 a b,fB0 a b,[]) ix 3=(plD a b (0,false),[[0,1,3,2]],nmS 0 3)∧nfF (pB0 a b,fB0 a b,[]) ix 4=(plD a b (2,false),[[0,2,6,4]],[98,111,116,116,111,109])∧nfF (pB0 a b,fB0 a b,[]) ix 5=(plD a b (2,true),[[1,5,7,3]],[116,111,112]):=by
  subst hix
  have g:=zM1 h
  rw[nS]
  refine⟨?_,?_,?_,?_,?_,?_⟩
  · rw[cA h (F:=fB0 a b) (f:=0) (show 0<6 by decide) g.1 _ (x:=[0,1,5,4]) rfl];rfl
  · rw[cA h (F:=fB0 a b) (f:=1) (show 1<6 by decide) g.2.1 _ (x:=[1,2,6,5]) rfl];rfl
  · rw[cA h (F:=fB0 a b) (f:=2) (show 2<6 by decide) g.2.2.1 _ (x:=[2,3,7,6]) rfl];rfl
  · rw[cA h (F:=fB0 a b) (f:=3) (show 3<6 by decide) g.2.2.2.1 _ (x:=[3,0,4,7]) rfl];rfl
  · rw[cA h (F:=fB0 a b) (f:=4) (show 4<6 by decide) g.2.2.2.2.1 _ (x:=[3,2,1,0]) rfl];rfl
  · rw[cA h (F:=fB0 a b) (f:=5) (show 5<6 by decide) g.2.2.2.2.2 _ (x:=[4,5,6,7]) rfl];rfl
end Bk
namespace Bk
set_option linter.unusedVariables false
set_option linter.unusedSimpArgs false
open Classical
def lsB:List Nat→List Nat→Bool
  |[],[]=>false
  |[],_::_=>true
  |_::_,[]=>false
  |x::a,y::b=>if x=y then lsB a b else decide (x<y)
theorem zRT:∀a b:List Nat,lsN a b↔lsB a b=true
  |[],[]=>by simp[lsN,lsB]
  |[],_::_=>by simp[lsN,lsB]
  |_::_,[]=>by simp[lsN,lsB]
  |x::a,y::b=>by
   have ih:=zRT a b
   by_cases h:x=y
   · simp[lsN,lsB,h,ih]
   · simp[lsN,lsB,h]
def nsB(nm:Nat→List Nat):Nat→List Nat
  |0=>[]
  |f+1=>eX (nsB nm f) (zDQ (fun k=>lsB (nm f) (nm ((nsB nm f).getD k 0))) (nsB nm f).length) f
theorem zK0(nm:Nat→List Nat):∀f x,x∈nsB nm f→x<f
  |f+1,x,h=>by
   unfold nsB eX at h
   rcases List.mem_append.1 h with h|h
   · have:=zK0 nm f x (List.mem_of_mem_take h);omega
   · rcases List.mem_cons.1 h with rfl|h
     · omega
     · have:=zK0 nm f x (List.mem_of_mem_drop h);omega
theorem zR4{α β:Type}(g:α→β)(l:List α)(k:Nat)(x:α):eX (l.map g) k (g x)=(eX l k x).map g:=by
  unfold eX
  rw[List.map_append,List.map_cons,List.map_take,List.map_drop]
theorem zKZ{s:Sd}{nm:Nat→List Nat}{n:Nat}(hn:∀i,i<n→(nfF s (ixZ s) i).2.2=nm i)(hd:∀i,i<n→∀k,k<i→¬nm i=nm k):∀f,f≤n→u6 s f=(nsB nm f).map fun i=>nfF s (ixZ s) i
  |0,_=>rfl
  |f+1,hf=>by
   have ih:=zKZ hn hd f (by omega)
   unfold u6 nsB
   have hb:cW (zLA (nfF s (ixZ s) f) (u6 s f)) (u6 s f).length=zDQ (fun k=>lsB (nm f) (nm ((nsB nm f).getD k 0))) (nsB nm f).length:=by
     rw[ih,List.length_map]
     refine zDP _ fun k hk=>?_
     have hl:=zK0 nm f _ (pR (d:=0) hk)
     have e:((nsB nm f).map fun i=>nfF s (ixZ s) i).getD k zA=nfF s (ixZ s) ((nsB nm f).getD k 0):=by
       rw[List.getD_eq_getElem?_getD,List.getElem?_map,List.getElem?_eq_getElem hk,List.getD_eq_getElem?_getD,List.getElem?_eq_getElem hk];rfl
     unfold zLA lsF
     rw[e,hn f (by omega),hn _ (by omega),if_neg (hd f (by omega) _ hl)]
     exact zRT _ _
   rw[hb,ih,zR4]
variable {a b:Pt}
def nm0(i:Nat):List Nat:=([[115,48,46,48],[115,48,46,49],[115,48,46,50],[115,48,46,51],[98,111,116,116,111,109],[116,111,112]]:List (List Nat)).getD i []
def fB1(a b:Pt):List Fc:=[(plD a b (2,false),[[0,2,6,4]],[98,111,116,116,111,109]),(plD a b (1,false),[[0,4,5,1]],[115,48,46,48]),(plD a b (0,true),[[4,6,7,5]],[115,48,46,49]),(plD a b (1,true),[[2,3,7,6]],[115,48,46,50]),(plD a b (0,false),[[0,1,3,2]],[115,48,46,51]),(plD a b (2,true),[[1,5,7,3]],[116,111,112])]
theorem zRE(h:a.x<b.x∧a.y<b.y∧a.z<b.z):nrF (pB0 a b,fB0 a b,[])=fB1 a b:=by
  have hix:=zR3 h
  obtain⟨h0,h1,h2,h3,h4,h5⟩:=zRG h _ hix
  rw[zYJ (by decide)] at h0 h1 h2 h3
  have hn:∀i,i<6→(nfF (pB0 a b,fB0 a b,[]) (ixZ (pB0 a b,fB0 a b,[])) i).2.2=nm0 i:=fun i hi=>by
    have:i=0∨i=1∨i=2∨i=3∨i=4∨i=5:=by omega
    rcases this with rfl|rfl|rfl|rfl|rfl|rfl
    · rw[h0];rfl
    · rw[h1];rfl
    · rw[h2];rfl
    · rw[h3];rfl
    · rw[h4];rfl
    · rw[h5];rfl
  have hd:∀i,i<6→∀k,k<i→¬nm0 i=nm0 k:=by decide
  unfold nrF
  rw[if_pos (zEK h)]
  show u6 _ 6=_
  rw[zKZ hn hd 6 (Nat.le_refl _),show nsB nm0 6=[4,0,1,2,3,5] by decide]
  simp only[List.map_cons,List.map_nil]
  rw[h0,h1,h2,h3,h4,h5]
  rfl
end Bk
namespace Bk
set_option linter.unusedVariables false
set_option linter.unusedSimpArgs false
open Classical
variable {a b:Pt}
def fB2(a b:Pt):List Fc:=[(plD a b (2,false),[[0,2,6,4]],[122,48]),(plD a b (1,false),[[0,4,5,1]],[121,48]),(plD a b (0,true),[[4,6,7,5]],[120,49]),(plD a b (1,true),[[2,3,7,6]],[121,49]),(plD a b (0,false),[[0,1,3,2]],[120,48]),(plD a b (2,true),[[1,5,7,3]],[122,49])]
theorem zUN(h:mX a b):prP (blL a b) a.z b.z=uB1.map (cU a b)∧prF (blL a b) a.z b.z=fB1 a b:=by
  have hl:=zNC h
  have he:=zS3 h
  rw[(zVX h).1] at he
  unfold prP prF
  rw[if_pos he,if_pos he,zHQ hl.1 hl.2.1]
  exact⟨zRF hl,zRE hl⟩
theorem zNE(h:mX a b):blS a b=(uB1.map (cU a b),fB2 a b,[]):=by
  obtain⟨h1,h2⟩:=zUN h
  unfold blS blG
  rw[zTK,h1,h2]
  refine congrArg (fun z=>(uB1.map (cU a b),z,([]:List En))) ?_
  simp only[fB1,fB2,List.map_cons,List.map_nil,rnF]
  simp[rnN]
end Bk
namespace Bk
set_option linter.unusedVariables false
set_option linter.unusedSimpArgs false
open Classical
variable {a b:Pt}
theorem zGV:mL a b uB1 (2,false) ((fB2 a b).getD 0 zA)∧mL a b uB1 (1,false) ((fB2 a b).getD 1 zA)∧mL a b uB1 (0,true) ((fB2 a b).getD 2 zA)∧mL a b uB1 (1,true) ((fB2 a b).getD 3 zA)∧mL a b uB1 (0,false) ((fB2 a b).getD 4 zA)∧mL a b uB1 (2,true) ((fB2 a b).getD 5 zA):=
  ⟨⟨by decide,1,by decide,rfl,0,2,6,4,rfl,by decide,by decide⟩,⟨by decide,1,by decide,rfl,0,4,5,1,rfl,by decide,by decide⟩,⟨by decide,1,by decide,rfl,4,6,7,5,rfl,by decide,by decide⟩,⟨by decide,1,by decide,rfl,2,3,7,6,rfl,by decide,by decide⟩,⟨by decide,1,by decide,rfl,0,1,3,2,rfl,by decide,by decide⟩,⟨by decide,1,by decide,rfl,1,5,7,3,rfl,by decide,by decide⟩⟩
theorem dE:vN (uB1.map (cU a b),fB2 a b,[])=[[[0,2,6,4]],[[0,4,5,1]],[[4,6,7,5]],[[2,3,7,6]],[[0,1,3,2]],[[1,5,7,3]]]:=rfl
theorem zPT(h:a.x<b.x∧a.y<b.y∧a.z<b.z):z4 (uB1.map (cU a b),fB2 a b,[]):=by
  have g:∀i,i<uB1.length→∀k,k<i→¬uB1.getD i u0=uB1.getD k u0:=by decide +kernel
  obtain⟨h0,h1,h2,h3,h4,h5⟩:=zGV (a:=a) (b:=b)
  refine zNB h (fun i k hk hi=>g i hi k hk) ⟨by decide,show 6≤256 by decide⟩ (fun f hf=>?_) (fun f hf=>?_) ?_ ?_
  · have hf6:f<6:=hf
    have:f=0∨f=1∨f=2∨f=3∨f=4∨f=5:=by omega
    rcases this with rfl|rfl|rfl|rfl|rfl|rfl
    · exact⟨_,h0⟩
    · exact⟨_,h1⟩
    · exact⟨_,h2⟩
    · exact⟨_,h3⟩
    · exact⟨_,h4⟩
    · exact⟨_,h5⟩
  · have hf6:f<6:=hf
    have:f=0∨f=1∨f=2∨f=3∨f=4∨f=5:=by omega
    rcases this with rfl|rfl|rfl|rfl|rfl|rfl
    · show vfP [[0,2,6,4]];decide +kernel
    · show vfP [[0,4,5,1]];decide +kernel
    · show vfP [[4,6,7,5]];decide +kernel
    · show vfP [[2,3,7,6]];decide +kernel
    · show vfP [[0,1,3,2]];decide +kernel
    · show vfP [[1,5,7,3]];decide +kernel
  · rw[dE];decide +kernel
  · rw[dE];decide +kernel
end Bk
namespace Bk
set_option linter.unusedVariables false
set_option linter.unusedSimpArgs false
open Classical
variable {a b:Pt}
theorem zMC(h:a.x<b.x∧a.y<b.y∧a.z<b.z):fG (uB1.map (cU a b),fB2 a b,[])=[0,1,2,3,4,5,6,7]:=by
  rw[zET h.1 h.2.1 h.2.2,dE]
  decide +kernel
theorem zVE(h:a.x<b.x∧a.y<b.y∧a.z<b.z):ixZ (uB1.map (cU a b),fB2 a b,[])=[0,1,2,3,4,5,6,7]:=by
  have ho:=zMC h
  unfold ixZ
  rw[zLJ ho,ho]
  show ixB _ 8 8=_
  decide
def fB3(a b:Pt):List Fc:=[(plD a b (0,false),[[0,1,3,2]],[120,48]),(plD a b (0,true),[[4,6,7,5]],[120,49]),(plD a b (1,false),[[0,4,5,1]],[121,48]),(plD a b (1,true),[[2,3,7,6]],[121,49]),(plD a b (2,false),[[0,2,6,4]],[122,48]),(plD a b (2,true),[[1,5,7,3]],[122,49])]
def nm1(i:Nat):List Nat:=([[122,48],[121,48],[120,49],[121,49],[120,48],[122,49]]:List (List Nat)).getD i []
theorem zUW(h:a.x<b.x∧a.y<b.y∧a.z<b.z)(ix:List Int)(hix:ix=[0,1,2,3,4,5,6,7]):∀i,i<6→nfF (uB1.map (cU a b),fB2 a b,[]) ix i=(fB2 a b).getD i zA:=by
  subst hix
  obtain⟨h0,h1,h2,h3,h4,h5⟩:=zGV (a:=a) (b:=b)
  intro i hi
  have:i=0∨i=1∨i=2∨i=3∨i=4∨i=5:=by omega
  rcases this with rfl|rfl|rfl|rfl|rfl|rfl
  · rw[cA h (F:=fB2 a b) (f:=0) (show 0<6 by decide) h0 _ (x:=[0,2,6,4]) rfl];rfl
  · rw[cA h (F:=fB2 a b) (f:=1) (show 1<6 by decide) h1 _ (x:=[0,4,5,1]) rfl];rfl
  · rw[cA h (F:=fB2 a b) (f:=2) (show 2<6 by decide) h2 _ (x:=[4,6,7,5]) rfl];rfl
  · rw[cA h (F:=fB2 a b) (f:=3) (show 3<6 by decide) h3 _ (x:=[2,3,7,6]) rfl];rfl
  · rw[cA h (F:=fB2 a b) (f:=4) (show 4<6 by decide) h4 _ (x:=[0,1,3,2]) rfl];rfl
  · rw[cA h (F:=fB2 a b) (f:=5) (show 5<6 by decide) h5 _ (x:=[1,5,7,3]) rfl];rfl
theorem zLT(h:mX a b):blP a b=uB1.map (cU a b)∧blF a b=fB3 a b:=by
  have hl:=zNC h
  obtain⟨_,e2,e3⟩:=zVX h
  rw[e2,e3,zNE h]
  have hs:=zPT hl
  have ho:=zMC hl
  have hix:=zVE hl
  refine⟨?_,?_⟩
  · unfold nrP
    rw[if_pos hs]
    unfold zUV
    rw[ho];rfl
  · have hf:=zUW hl _ hix
    have hn:∀i,i<6→(nfF (uB1.map (cU a b),fB2 a b,[]) (ixZ (uB1.map (cU a b),fB2 a b,[])) i).2.2=nm1 i:=fun i hi=>by
      rw[hf i hi]
      have:i=0∨i=1∨i=2∨i=3∨i=4∨i=5:=by omega
      rcases this with rfl|rfl|rfl|rfl|rfl|rfl<;>rfl
    unfold nrF
    rw[if_pos hs]
    show u6 _ 6=_
    rw[zKZ hn (by decide) 6 (Nat.le_refl _),show nsB nm1 6=[4,2,1,3,0,5] by decide]
    simp only[List.map_cons,List.map_nil]
    rw[hf 0 (by decide),hf 1 (by decide),hf 2 (by decide),hf 3 (by decide),hf 4 (by decide),hf 5 (by decide)]
    rfl
end Bk
namespace Bk
set_option linter.unusedVariables false
set_option linter.unusedSimpArgs false
open Classical
variable {a b:Pt}
theorem zHR{P:List Pt}(h:0<xH (arZ P 0 1)):nG P:=zOV fun e=>by
  have:arZ P 0 1=0:=e
  rw[this] at h
  exact absurd h (by decide)
theorem zSY(h:a.x<b.x∧a.y<b.y∧a.z<b.z){us:List B3}{F:List Fc}(hu:us.length≤512∧F.length≤256)(hF:∀f,f<F.length→∃d,mL a b us d (F.getD f zA)):okS (us.map (cU a b),F,[]):=by
  refine⟨⟨⟨?_,?_⟩,Nat.zero_le _⟩,fun f hf=>?_,fun f hf x hx=>?_⟩
  · show(us.map (cU a b)).length≤1000
    rw[List.length_map];omega
  · show F.length≤1000
    omega
  · obtain⟨d,_,c,_,_,i,j,k,l,hl,_⟩:=hF f hf
    show(F.getD f zA).2.1.length≤16∧∀l,l<(F.getD f zA).2.1.length→((F.getD f zA).2.1.getD l []).length≤64
    rw[hl]
    refine⟨show 1≤16 by decide,fun m hm=>?_⟩
    have hm0:m=0:=by have:m<1:=hm;omega
    subst hm0
    show 4≤64
    decide
  · obtain⟨d,hd⟩:=hF f hf
    have hp:=zMA h hf hd
    obtain⟨vs,ht,h4,hcr⟩:=zB1 hf hd
    obtain⟨v1,v2,v3,v4,rfl⟩:∃v1 v2 v3 v4,vs=[v1,v2,v3,v4]:=by
      match vs,h4 with
      |[v1,v2,v3,v4],_=>exact⟨_,_,_,_,rfl⟩
    have e:rH (us.map (cU a b),F,[]) f=[[v1,v2,v3,v4].map fun u=>cI (F.getD f zA).1 (cU a b u)]:=zSC hcr
    unfold zHS at hp
    rw[e] at hp hx
    rw[List.mem_singleton.1 hx]
    exact zHR hp
theorem zS2(h:mX a b):blH a b:=by
  have hl:=zNC h
  refine⟨fun x hx=>?_,fun _=>?_,?_⟩
  · have:x=bB a b:=List.mem_singleton.1 hx
    rw[this]
    exact zHR (zS5 hl.1 hl.2.1)
  · rw[zHQ hl.1 hl.2.1,nS]
    exact zSY hl ⟨by decide,show 6≤256 by decide⟩ (zM2 hl)
  · rw[zNE h]
    obtain⟨h0,h1,h2,h3,h4,h5⟩:=zGV (a:=a) (b:=b)
    refine zSY hl ⟨by decide,show 6≤256 by decide⟩ fun f hf=>?_
    have hf6:f<6:=hf
    have:f=0∨f=1∨f=2∨f=3∨f=4∨f=5:=by omega
    rcases this with rfl|rfl|rfl|rfl|rfl|rfl
    · exact⟨_,h0⟩
    · exact⟨_,h1⟩
    · exact⟨_,h2⟩
    · exact⟨_,h3⟩
    · exact⟨_,h4⟩
    · exact⟨_,h5⟩
end Bk
namespace Bk
set_option linter.unusedVariables false
set_option linter.unusedSimpArgs false
open Classical
variable {a b:Pt}
def bxS(a b:Pt):Sd:=(uB1.map (cU a b),fB3 a b,[])
theorem zND(h:mX a b):bkS a b=bxS a b:=by
  obtain⟨h1,h2⟩:=zLT h
  unfold bkS bxS
  rw[h1,h2]
def cC(a b:Pt)(i:Nat):Pt:=cU a b (uB1.getD i u0)
theorem dH(i j k l:Nat)(hi:i<8)(hj:j<8)(hk:k<8)(hl:l<8):jL (bxS a b) [[(i:Int),(j:Int),(k:Int),(l:Int)]] 1=[T3.mk (cC a b i) (cC a b j) (cC a b k),T3.mk (cC a b i) (cC a b k) (cC a b l)]:=by
  have g:∀m:Nat,m<8→pnA (bxS a b) (m:Int)=cC a b m:=fun m hm=>by
    unfold pnA
    rw[Int.toNat_natCast]
    exact iI (l:=uB1) hm
  show[]++([]++[T3.mk (pnA (bxS a b) (i:Int)) (pnA (bxS a b) (j:Int)) (pnA (bxS a b) (k:Int))]++[T3.mk (pnA (bxS a b) (i:Int)) (pnA (bxS a b) (k:Int)) (pnA (bxS a b) (l:Int))])=_
  rw[g i hi,g j hj,g k hk,g l hl];rfl
theorem zG0:fQ (bxS a b) (fB3 a b) 6=[T3.mk (cC a b 0) (cC a b 1) (cC a b 3),T3.mk (cC a b 0) (cC a b 3) (cC a b 2),T3.mk (cC a b 4) (cC a b 6) (cC a b 7),T3.mk (cC a b 4) (cC a b 7) (cC a b 5),T3.mk (cC a b 0) (cC a b 4) (cC a b 5),T3.mk (cC a b 0) (cC a b 5) (cC a b 1),T3.mk (cC a b 2) (cC a b 3) (cC a b 7),T3.mk (cC a b 2) (cC a b 7) (cC a b 6),T3.mk (cC a b 0) (cC a b 2) (cC a b 6),T3.mk (cC a b 0) (cC a b 6) (cC a b 4),T3.mk (cC a b 1) (cC a b 5) (cC a b 7),T3.mk (cC a b 1) (cC a b 7) (cC a b 3)]:=by
  show((((([]++jL (bxS a b) [[((0:Nat):Int),((1:Nat):Int),((3:Nat):Int),((2:Nat):Int)]] 1)++jL (bxS a b) [[((4:Nat):Int),((6:Nat):Int),((7:Nat):Int),((5:Nat):Int)]] 1)++jL (bxS a b) [[((0:Nat):Int),((4:Nat):Int),((5:Nat):Int),((1:Nat):Int)]] 1)++jL (bxS a b) [[((2:Nat):Int),((3:Nat):Int),((7:Nat):Int),((6:Nat):Int)]] 1)++jL (bxS a b) [[((0:Nat):Int),((2:Nat):Int),((6:Nat):Int),((4:Nat):Int)]] 1)++jL (bxS a b) [[((1:Nat):Int),((5:Nat):Int),((7:Nat):Int),((3:Nat):Int)]] 1=_
  rw[dH 0 1 3 2 (by decide) (by decide) (by decide) (by decide),dH 4 6 7 5 (by decide) (by decide) (by decide) (by decide),dH 0 4 5 1 (by decide) (by decide) (by decide) (by decide),dH 2 3 7 6 (by decide) (by decide) (by decide) (by decide),dH 0 2 6 4 (by decide) (by decide) (by decide) (by decide),dH 1 5 7 3 (by decide) (by decide) (by decide) (by decide)]
  rfl
theorem zJJ:dS (bxS a b)=6*((b.x-a.x)*(b.y-a.y)*(b.z-a.z)):=by
  have e:dS (bxS a b)=iP (fQ (bxS a b) (fB3 a b) 6):=rfl
  rw[e,zG0]
  simp only[iP,List.foldl,aB,jG,sO,cC,cU,cB,uB1,List.getD_cons_zero,List.getD_cons_succ,if_true,Bool.false_eq_true,if_false]
  generalize a.x=p;generalize a.y=q;generalize a.z=r;generalize b.x=u;generalize b.y=v;generalize b.z=w
  grind
theorem zZS:zZT (bxS a b)=scT (12*((b.x-a.x)*(b.y-a.y)*(b.z-a.z))) (wD a b):=by
  have e:zZT (bxS a b)=zFT (fQ (bxS a b) (fB3 a b) 6):=rfl
  rw[e,zG0]
  simp only[zFT,List.foldl,aB,jG,sO,cC,cU,cB,uB1,List.getD_cons_zero,List.getD_cons_succ,if_true,Bool.false_eq_true,if_false,smT,scT,wD]
  generalize a.x=p;generalize a.y=q;generalize a.z=r;generalize b.x=u;generalize b.y=v;generalize b.z=w
  rw[iD]
  refine⟨?_,?_,?_⟩<;>simp only<;>grind
end Bk
namespace Bk
set_option linter.unusedVariables false
set_option linter.unusedSimpArgs false
open Classical
variable {a b:Pt}
def eW(a b:Pt)(f:Nat):Rat:=if f<2 then(b.y-a.y)*(b.z-a.z) else if f<4 then(b.z-a.z)*(b.x-a.x) else(b.x-a.x)*(b.y-a.y)
theorem six{f:Nat}(h:f<6):f=0∨f=1∨f=2∨f=3∨f=4∨f=5:=by omega
theorem zLW{f:Nat}(h:f<6):jG (arV (bxS a b) ((fB3 a b).getD f zA)) (arV (bxS a b) ((fB3 a b).getD f zA))=eW a b f*eW a b f:=by
  have g:∀(i j k l:Nat) (c:Fc),i<8→j<8→k<8→l<8→c.2.1=[[(i:Int),(j:Int),(k:Int),(l:Int)]]→arV (bxS a b) c=scT (1/2) (dY [T3.mk (cC a b i) (cC a b j) (cC a b k),T3.mk (cC a b i) (cC a b k) (cC a b l)]):=fun i j k l c hi hj hk hl e=>by
    unfold arV
    rw[e]
    exact congrArg (fun z=>scT (1/2) (dY z)) (dH i j k l hi hj hk hl)
  rcases six h with rfl|rfl|rfl|rfl|rfl|rfl
  · rw[g 0 1 3 2 _ (by decide) (by decide) (by decide) (by decide) rfl]
    simp only[dY,List.foldl,jG,sO,s6,wD,scT,cC,cU,cB,uB1,List.getD_cons_zero,List.getD_cons_succ,if_true,Bool.false_eq_true,if_false,zT,eW]
    generalize a.x=p;generalize a.y=q;generalize a.z=r;generalize b.x=u;generalize b.y=v;generalize b.z=w
    grind
  · rw[g 4 6 7 5 _ (by decide) (by decide) (by decide) (by decide) rfl]
    simp only[dY,List.foldl,jG,sO,s6,wD,scT,cC,cU,cB,uB1,List.getD_cons_zero,List.getD_cons_succ,if_true,Bool.false_eq_true,if_false,zT,eW]
    generalize a.x=p;generalize a.y=q;generalize a.z=r;generalize b.x=u;generalize b.y=v;generalize b.z=w
    grind
  · rw[g 0 4 5 1 _ (by decide) (by decide) (by decide) (by decide) rfl]
    simp only[dY,List.foldl,jG,sO,s6,wD,scT,cC,cU,cB,uB1,List.getD_cons_zero,List.getD_cons_succ,if_true,Bool.false_eq_true,if_false,zT,eW]
    generalize a.x=p;generalize a.y=q;generalize a.z=r;generalize b.x=u;generalize b.y=v;generalize b.z=w
    grind
  · rw[g 2 3 7 6 _ (by decide) (by decide) (by decide) (by decide) rfl]
    simp only[dY,List.foldl,jG,sO,s6,wD,scT,cC,cU,cB,uB1,List.getD_cons_zero,List.getD_cons_succ,if_true,Bool.false_eq_true,if_false,zT,eW]
    generalize a.x=p;generalize a.y=q;generalize a.z=r;generalize b.x=u;generalize b.y=v;generalize b.z=w
    grind
  · rw[g 0 2 6 4 _ (by decide) (by decide) (by decide) (by decide) rfl]
    simp only[dY,List.foldl,jG,sO,s6,wD,scT,cC,cU,cB,uB1,List.getD_cons_zero,List.getD_cons_succ,if_true,Bool.false_eq_true,if_false,zT,eW]
    generalize a.x=p;generalize a.y=q;generalize a.z=r;generalize b.x=u;generalize b.y=v;generalize b.z=w
    grind
  · rw[g 1 5 7 3 _ (by decide) (by decide) (by decide) (by decide) rfl]
    simp only[dY,List.foldl,jG,sO,s6,wD,scT,cC,cU,cB,uB1,List.getD_cons_zero,List.getD_cons_succ,if_true,Bool.false_eq_true,if_false,zT,eW]
    generalize a.x=p;generalize a.y=q;generalize a.z=r;generalize b.x=u;generalize b.y=v;generalize b.z=w
    grind
theorem zIL{f:Nat}(h:f<6):∃i j k l:Nat,i<8∧j<8∧k<8∧l<8∧((fB3 a b).getD f zA).2.1=[[(i:Int),(j:Int),(k:Int),(l:Int)]]:=by
  rcases six h with rfl|rfl|rfl|rfl|rfl|rfl
  · exact⟨0,1,3,2,by decide,by decide,by decide,by decide,rfl⟩
  · exact⟨4,6,7,5,by decide,by decide,by decide,by decide,rfl⟩
  · exact⟨0,4,5,1,by decide,by decide,by decide,by decide,rfl⟩
  · exact⟨2,3,7,6,by decide,by decide,by decide,by decide,rfl⟩
  · exact⟨0,2,6,4,by decide,by decide,by decide,by decide,rfl⟩
  · exact⟨1,5,7,3,by decide,by decide,by decide,by decide,rfl⟩
theorem zWL{i j k l:Nat}(hi:i<8)(hj:j<8)(hk:k<8)(hl:l<8){u v:Nat}(hu:u<1)(hv:v<4):0≤(([[(i:Int),(j:Int),(k:Int),(l:Int)]]:List (List Int)).getD u []).getD v 0∧(([[(i:Int),(j:Int),(k:Int),(l:Int)]]:List (List Int)).getD u []).getD v 0<((8:Nat):Int):=by
  have h0:u=0:=by omega
  subst h0
  have:v=0∨v=1∨v=2∨v=3:=by omega
  rcases this with rfl|rfl|rfl|rfl
  · show 0≤(i:Int)∧(i:Int)<((8:Nat):Int);omega
  · show 0≤(j:Int)∧(j:Int)<((8:Nat):Int);omega
  · show 0≤(k:Int)∧(k:Int)<((8:Nat):Int);omega
  · show 0≤(l:Int)∧(l:Int)<((8:Nat):Int);omega
theorem zWB(h:∀f,f<6→lq (eW a b f*eW a b f)≤200):zYL (bxS a b):=by
  refine⟨⟨fun f hf l hl m hm=>?_,fun f hf=>?_⟩,⟨fun f hf=>⟨fun u v hu hv=>?_,fun u hu=>?_,?_⟩,?_,?_⟩,fun f hf=>?_⟩
  · have hf6:f<6:=hf
    obtain⟨i,j,k,q,hi,hj,hk,hq,e⟩:=zIL (a:=a) (b:=b) hf6
    change l<((fB3 a b).getD f zA).2.1.length at hl
    change m<(((fB3 a b).getD f zA).2.1.getD l []).length at hm
    show 0≤(((fB3 a b).getD f zA).2.1.getD l []).getD m 0∧(((fB3 a b).getD f zA).2.1.getD l []).getD m 0<_
    rw[e] at hl hm ⊢
    have h0:l=0:=by have:l<1:=hl;omega
    subst h0
    exact zWL hi hj hk hq (by decide) hm
  · have hf6:f<6:=hf
    obtain⟨i,j,k,q,hi,hj,hk,hq,e⟩:=zIL (a:=a) (b:=b) hf6
    show((fB3 a b).getD f zA).2.1.length≤10000∧∀l,l<((fB3 a b).getD f zA).2.1.length→(((fB3 a b).getD f zA).2.1.getD l []).length≤10000
    rw[e]
    refine⟨show 1≤10000 by decide,fun l hl=>?_⟩
    have h0:l=0:=by have:l<1:=hl;omega
    subst h0
    show 4≤10000
    decide
  · have hf6:f<6:=hf
    obtain⟨i,j,k,q,hi,hj,hk,hq,e⟩:=zIL (a:=a) (b:=b) hf6
    change u<((fB3 a b).getD f zA).2.1.length at hu
    change v<(((fB3 a b).getD f zA).2.1.getD u []).length at hv
    show 0≤(((fB3 a b).getD f zA).2.1.getD u []).getD v 0∧(((fB3 a b).getD f zA).2.1.getD u []).getD v 0<_
    rw[e] at hu hv ⊢
    have h0:u=0:=by have:u<1:=hu;omega
    subst h0
    exact zWL hi hj hk hq (by decide) hv
  · have hf6:f<6:=hf
    obtain⟨i,j,k,q,hi,hj,hk,hq,e⟩:=zIL (a:=a) (b:=b) hf6
    change u<((fB3 a b).getD f zA).2.1.length at hu
    show(((fB3 a b).getD f zA).2.1.getD u []).length≤1000
    rw[e] at hu ⊢
    have h0:u=0:=by have:u<1:=hu;omega
    subst h0
    show 4≤1000
    decide
  · have hf6:f<6:=hf
    obtain⟨i,j,k,q,hi,hj,hk,hq,e⟩:=zIL (a:=a) (b:=b) hf6
    show((fB3 a b).getD f zA).2.1.length≤1000
    rw[e]
    show 1≤1000
    decide
  · show 6≤1000
    decide
  · show(fQ (bxS a b) (fB3 a b) 6).length≤1000
    rw[zG0]
    show 12≤1000
    decide
  · show lq (jG (arV (bxS a b) ((fB3 a b).getD f zA)) (arV (bxS a b) ((fB3 a b).getD f zA)))≤200
    rw[zLW hf]
    exact h f hf
theorem zSO(h:a.x<b.x∧a.y<b.y∧a.z<b.z):cnO (bxS a b)∧cnS (bxS a b)=scT (1/2) (wD a b):=by
  have hp:0<(b.x-a.x)*(b.y-a.y)*(b.z-a.z):=tS (tS (by grind) (by grind)) (by grind)
  have h4:((4:Int):Rat)=4:=rfl
  have h1:((1:Int):Rat)=1:=rfl
  have hv:((4:Int):Rat)*dS (bxS a b)=24*((b.x-a.x)*(b.y-a.y)*(b.z-a.z)):=by rw[zJJ,h4];grind
  have ho:cnO (bxS a b):=by unfold cnO;rw[hv];grind
  refine⟨ho,?_⟩
  unfold cnS
  rw[if_neg ho,hv,zZS,h1]
  generalize (b.x-a.x)*(b.y-a.y)*(b.z-a.z)=V at hp
  unfold scT wD
  rw[iD]
  refine⟨?_,?_,?_⟩<;>simp only<;>grind
theorem yA7{n:Int}(h:n=0){q:Rat}(hq:q=4*4):cD q n=4∧cQ q n=4:=by
  subst h;subst hq
  have h0:¬(4*4:Rat)<0:=by decide +kernel
  have ho:¬((xH (4*4:Rat)<0∨(0:Int)<0)∨64<(0:Int)):=fun e=>by
    rcases e with(e|e)|e
    · exact h0 (qE.1 e)
    · omega
    · omega
  obtain⟨y1,y2,y3,y4⟩:=zAJ ho
  have e1:flN (4*4:Rat) (kN 0)=16:=by decide +kernel
  have e2:sqN 16=4:=zJS (by decide) (by decide)
  have e3:kN 0=0:=by decide
  have e4:qG (4*4:Rat) 0=4:=by
    unfold qG
    rw[e1,e2,e3]
    unfold ovQ
    decide +kernel
  rw[y1,y2,←zJ2 h0 (by rw[e4]),e4]
  exact⟨rfl,rfl⟩
theorem zP2:SaneF:=by
  have hI:∀n:Int,(pI 0 0 0).x=((0:Int):Rat)∧(pI 2 2 2).x=((2:Int):Rat):=fun _=>⟨rfl,rfl⟩
  have hlt:(pI 0 0 0).x<(pI 2 2 2).x∧(pI 0 0 0).y<(pI 2 2 2).y∧(pI 0 0 0).z<(pI 2 2 2).z:=by
    have:((0:Int):Rat)<((2:Int):Rat):=by decide +kernel
    exact⟨this,this,this⟩
  have hbl:mX (pI 0 0 0) (pI 2 2 2):=by
    have g:¬0≤wG ((0:Int):Rat) ((2:Int):Rat):=by rw[zDM];decide +kernel
    intro u hu
    have:u=0∨u=1∨u=2:=by omega
    rcases this with rfl|rfl|rfl<;>exact g
  have hb:=zND hbl
  have h4:∀f,eW (pI 0 0 0) (pI 2 2 2) f=4:=fun f=>by
    have:(((2:Int):Rat)-((0:Int):Rat))*(((2:Int):Rat)-((0:Int):Rat))=4:=by decide +kernel
    unfold eW
    split
    · exact this
    · split
      · exact this
      · exact this
  refine⟨fun _=>zS2 hbl,?_,?_,?_,?_⟩
  · rw[hb]
    refine zWB fun f hf=>?_
    rw[h4 f]
    have h1:(4*4:Rat)=((16:Int):Rat):=by decide +kernel
    have:=zAO 16 (by decide) (by decide)
    rw[h1];omega
  · rw[hb,zJJ]
    show 6*((((2:Int):Rat)-((0:Int):Rat))*(((2:Int):Rat)-((0:Int):Rat))*(((2:Int):Rat)-((0:Int):Rat)))/((6:Int):Rat)=((8:Int):Rat)
    decide +kernel
  · rw[hb]
    obtain⟨h1,h2⟩:=zSO hlt
    refine⟨?_,h1⟩
    rw[h2]
    have:1/2*(((0:Int):Rat)+((2:Int):Rat))=((1:Int):Rat):=by decide +kernel
    unfold scT wD pI
    rw[iD]
    exact⟨this,this,this⟩
  · rw[hb]
    have hr:∀f,f<6→cD (jG (arV (bxS (pI 0 0 0) (pI 2 2 2)) ((fB3 (pI 0 0 0) (pI 2 2 2)).getD f zA)) (arV (bxS (pI 0 0 0) (pI 2 2 2)) ((fB3 (pI 0 0 0) (pI 2 2 2)).getD f zA))) 0=4∧cQ (jG (arV (bxS (pI 0 0 0) (pI 2 2 2)) ((fB3 (pI 0 0 0) (pI 2 2 2)).getD f zA)) (arV (bxS (pI 0 0 0) (pI 2 2 2)) ((fB3 (pI 0 0 0) (pI 2 2 2)).getD f zA))) 0=4:=fun f hf=>yA7 rfl (by rw[zLW hf,h4 f])
    have hs:∀i:Nat,i≤6→arS (bxS (pI 0 0 0) (pI 2 2 2)) 0 i=((i:Rat)*4,(i:Rat)*4):=by
      intro i
      induction i with
      |zero=>intro _;unfold arS;refine Prod.ext ?_ ?_<;>(show(0:Rat)=((0:Nat):Rat)*4;decide +kernel)
      |succ i ih=>
       intro hi
       obtain⟨r1,r2⟩:=hr i (by omega)
       have e:=ih (by omega)
       have ec:((i+1:Nat):Rat)=(i:Rat)+1:=by rw[Rat.natCast_add];rfl
       unfold arS
       rw[e]
       refine Prod.ext ?_ ?_
       · show(i:Rat)*4+cD (jG (arV (bxS (pI 0 0 0) (pI 2 2 2)) ((fB3 (pI 0 0 0) (pI 2 2 2)).getD i zA)) (arV (bxS (pI 0 0 0) (pI 2 2 2)) ((fB3 (pI 0 0 0) (pI 2 2 2)).getD i zA))) 0=_
         rw[r1,ec];grind
       · show(i:Rat)*4+cQ (jG (arV (bxS (pI 0 0 0) (pI 2 2 2)) ((fB3 (pI 0 0 0) (pI 2 2 2)).getD i zA)) (arV (bxS (pI 0 0 0) (pI 2 2 2)) ((fB3 (pI 0 0 0) (pI 2 2 2)).getD i zA))) 0=_
         rw[r2,ec];grind
    show arS (bxS (pI 0 0 0) (pI 2 2 2)) 0 6=_
    rw[hs 6 (by decide)]
    refine Prod.ext ?_ ?_<;>(show((6:Nat):Rat)*4=((24:Int):Rat);decide +kernel)
end Bk
namespace Bk
set_option linter.unusedVariables false
set_option linter.unusedSimpArgs false
open Classical
def prL:List (List Int):=[[0,0],[1,1],[2,2],[0,1],[1,2],[2,0]]
def prI(k:Nat):Nat:=((prL.getD k (List.replicate 2 (0:Int))).getD 0 0).toNat
def prJ(k:Nat):Nat:=((prL.getD k (List.replicate 2 (0:Int))).getD 1 0).toNat
theorem yAZ:∀k,k<6→((prL.getD k (List.replicate 2 (0:Int))).getD 0 0=(prI k:Int)∧prI k<3)∧(prL.getD k (List.replicate 2 (0:Int))).getD 1 0=(prJ k:Int)∧prJ k<3:=by decide
def moX(t:Tri)(k:Nat):Nat→Rat
  |0=>(smT t).at (prI k)*(smT t).at (prJ k)
  |q+1=>moX t k q+(t.at q).at (prI k)*(t.at q).at (prJ k)
def moS(l:List Tri)(k:Nat):Rat:=l.foldl (fun a t=>a+aB t.x t.y t.z*moX t k 3) 0
theorem zRO(l:List Tri)(t:Tri)(k:Nat):moS l k+aB t.x t.y t.z*moX t k 3=moS (l++[t]) k:=by unfold moS;rw[List.foldl_append];rfl
def moL(l m:List Tri)(k:Nat):List Rat:=uW (fun u=>if u<k then moS m u else moS l u) 6
theorem zE6{α:Type}(f:Nat→α)(n k:Nat)(x:α):(uW f n).set k x=uW (fun u=>if u=k then x else f u) n:=by
  induction n with
  |zero=>rfl
  |succ n ih=>
   show(uW f n++[f n]).set k x=uW _ n++[if n=k then x else f n]
   rw[←ih,List.set_append,wJ]
   split
   · rw[if_neg (by omega)]
   · rename_i h
     by_cases e:n=k
     · rw[if_pos e,←e,Nat.sub_self,List.set_cons_zero,List.set_eq_of_length_le (by rw[wJ];exact Nat.le_refl _)]
     · rw[if_neg e,List.set_eq_of_length_le (l:=uW f n) (by rw[wJ];omega),show k-n=(k-n-1)+1 by omega];rfl
theorem lY{α:Type}{f g:Nat→α}:∀{n:Nat},(∀u,u<n→f u=g u)→uW f n=uW g n
  |0,_=>rfl
  |n+1,h=>by
   show uW f n++[f n]=uW g n++[g n]
   rw[h n (by omega),lY fun u hu=>h u (by omega)]
theorem dB{α:Type}(f:Nat→α)(d:α){n k:Nat}(h:k<n):(uW f n).getD k d=f k:=rD f d h
theorem zU2(l m:List Tri):moL l m 6=moL m m 0:=lY fun u hu=>by rw[if_pos hu,if_neg (by omega)]
theorem zU1{l:List Tri}{t:Tri}{k:Nat}(hk:k<6):(moL l (l++[t]) k).set k ((moL l (l++[t]) k).getD k 0+aB t.x t.y t.z*moX t k 3)=moL l (l++[t]) (k+1):=by
  unfold moL
  rw[dB _ _ hk,if_neg (Nat.lt_irrefl k),zRO,zE6]
  refine lY fun u hu=>?_
  by_cases e:u=k
  · rw[if_pos e,if_pos (by omega),e]
  · rw[if_neg e]
    by_cases h:u<k
    · rw[if_pos h,if_pos (by omega)]
    · rw[if_neg h,if_neg (by omega)]
def moD(l:List Tri)(k:Nat):List Rat:=uW (fun u=>if u<k then moS l u/((120:Int):Rat) else moS l u) 6
def zK4(s:Sd):List Rat:=uW (fun u=>moS (fQ s s.2.1 s.2.1.length) u/((120:Int):Rat)) 6
theorem zU3{l:List Tri}{k:Nat}(hk:k<6):(moD l k).set k ((moD l k).getD k 0/((120:Int):Rat))=moD l (k+1):=by
  unfold moD
  rw[dB _ _ hk,if_neg (Nat.lt_irrefl k),zE6]
  refine lY fun u hu=>?_
  by_cases e:u=k
  · rw[if_pos e,if_pos (by omega),e]
  · rw[if_neg e]
    by_cases h:u<k
    · rw[if_pos h,if_pos (by omega)]
    · rw[if_neg h,if_neg (by omega)]
theorem yA8{s:Sd}:moD (fQ s s.2.1 s.2.1.length) 6=zK4 s:=lY fun u hu=>if_pos hu
theorem zNF{k:Nat}{p:Pt}(h:lqP k p):∀i,lq (p.at i)≤k
  |0=>h.1
  |1=>h.2.1
  |_+2=>h.2.2
theorem zPK{k:Nat}{t:Tri}(h:lqT k t):∀q,lqP k (t.at q)
  |0=>h.1
  |1=>h.2.1
  |_+2=>h.2.2
theorem zGJ{k:Nat}{t:Tri}(h:lqT k t)(u:Nat):∀q,lq (moX t u q)≤6*k+4+(2*k+1)*q
  |0=>by
   have h1:=fZ ((smT t).at (prI u)) ((smT t).at (prJ u))
   have h2:=zNF (zLE h) (prI u);have h3:=zNF (zLE h) (prJ u)
   show lq (_*_)≤_
   omega
  |q+1=>by
   have h1:=fZ ((t.at q).at (prI u)) ((t.at q).at (prJ u))
   have h2:=zNF (zPK h q) (prI u);have h3:=zNF (zPK h q) (prJ u)
   have h4:=qZ (moX t u q) ((t.at q).at (prI u)*(t.at q).at (prJ u))
   have h5:=zGJ h u q
   show lq (_+_)≤_
   rw[Nat.mul_succ];omega
theorem zRY{k u:Nat}:∀(l:List Tri) (a:Rat),(∀t,t∈l→lqT k t)→lq (l.foldl (fun a t=>a+aB t.x t.y t.z*moX t u 3) a)≤lq a+l.length*(27*k+13)
  |[],a,_=>by simp
  |t::l,a,h=>by
   obtain⟨h1,h2,h3⟩:=h t (.head _)
   have hd:=zGK h1 h2 h3
   have hx:=zGJ (h t (.head _)) u 3
   have hm:=fZ (aB t.x t.y t.z) (moX t u 3)
   have ha:=qZ a (aB t.x t.y t.z*moX t u 3)
   have ih:=zRY (u:=u) l (a+aB t.x t.y t.z*moX t u 3) (fun v hv=>h v (.tail _ hv))
   rw[List.foldl_cons,lC,Nat.succ_mul]
   omega
theorem zYZ{l:List Tri}{k:Nat}(h:l.length≤1000∧∀t,t∈l→lqT k t)(u:Nat):lq (moS l u)≤30000*k+100000:=by
  have h1:=zRY (u:=u) l 0 h.2
  have h2:=aH (a:=27*k+13) h.1
  have h3:=tK
  unfold moS;omega
theorem zAL{α:Type}{p:α→Prop}{f:Nat→α}{n:Nat}(h:∀u,u<n→p (f u)):∀x,x∈uW f n→p x:=fun x hx=>by
  obtain⟨u,hu,rfl⟩:=zBX hx
  exact h u hu
theorem zYU{l m:List Tri}{k:Nat}(h:l.length≤1000∧∀t,t∈l→lqT k t)(h':m.length≤1000∧∀t,t∈m→lqT k t)(j:Nat):∀x,x∈moL l m j→lq x≤30000*k+100000:=zAL fun u _=>by
  split
  · exact zYZ h' u
  · exact zYZ h u
theorem zYV{l:List Tri}{k:Nat}(h:l.length≤1000∧∀t,t∈l→lqT k t)(j:Nat):∀x,x∈moD l j→lq x≤30000*k+100004:=zAL fun u _=>by
  have:=zYZ h u
  split
  · have h1:=zRW (moS l u) ((120:Int):Rat)
    have h2:=zAO 120 (by decide) (by decide)
    omega
  · omega
theorem zZ2{s:Sd}{F:List Fc}{k:Nat}(ho:zGT s F)(hp:∀i,i<s.1.length→lqP k (s.1.getD i zT)):(fQ s F F.length).length≤1000∧∀t,t∈fQ s F F.length→lqT k t:=⟨ho.2.2,fun t ht=>by
  obtain⟨u,hu,h4⟩:=nE ht
  exact zDJ hp (ho.1 u hu) t h4⟩
theorem zX5{h:Mem}{n:Nat}{cs:List Go.Value}{a b:List Rat}{k l:Nat}(r:(rpA n (rpQ k)).R h cs a)(e:a=b)(hl:∀x,x∈b→lq x≤l):(rpA n (rpQ l)).R h cs b:=by
  subst e
  obtain⟨h1,h2⟩:=r
  refine⟨h1,?_⟩
  clear h1
  induction a generalizing cs with
  |nil=>exact h2
  |cons x a ih=>
   obtain⟨c,d,rfl,⟨q,_⟩,t⟩:=h2
   exact⟨c,d,rfl,⟨q,hl x (.head _)⟩,ih (fun y hy=>hl y (.tail _ hy)) t⟩
variable {a b:Pt}
theorem zWD(u:Nat)(hu:u<6):moS (fQ (bxS a b) (fB3 a b) 6) u=if u<3 then 40*((b.x-a.x)*(b.y-a.y)*(b.z-a.z))*(a.at u*a.at u+a.at u*b.at u+b.at u*b.at u) else 30*((b.x-a.x)*(b.y-a.y)*(b.z-a.z))*((a.at (prI u)+b.at (prI u))*(a.at (prJ u)+b.at (prJ u))):=by
  rw[zG0]
  rcases six hu with rfl|rfl|rfl|rfl|rfl|rfl
  all_goals
    simp only[moS,moX,List.foldl,aB,jG,sO,cC,cU,cB,uB1,List.getD_cons_zero,List.getD_cons_succ,if_true,Bool.false_eq_true,if_false,smT,wD,T3.at,prI,prJ,prL,Int.toNat,Nat.reduceLT]
    generalize a.x=p;generalize a.y=q;generalize a.z=r;generalize b.x=u;generalize b.y=v;generalize b.z=w
    grind
end Bk
namespace Go.Proofs.YtboaboflnckgoaaGreat
open Bk Go Tryz
set_option linter.unusedVariables false
set_option linter.unusedSimpArgs false
set_option maxRecDepth 10000
set_option maxHeartbeats 1000000
attribute [local irreducible] GL GC GQ W OpV
theorem zKU{w0:World}{h0:Mem}(hs:MLe h0 (mem w0)){k m n j:Nat}{vs:Value}{s:Sq}(rs:(tSd k m n j).Is h0 vs s)(hcd0:k≤10000)(hcd1:nmA s)(hcd2:∀f,f<s.2.1.length→(s.2.1.getD f zA).2.1.length≤10000∧∀l,l<(s.2.1.getD f zA).2.1.length→((s.2.1.getD f zA).2.1.getD l []).length≤10000)(hcd3:zGT s s.2.1):
    Calls Tryz.prog 36 #[vs] w0 (Ret w0 h0 (fun h r=>(rpA 6 (rpQ (30000*k+100004))).Is h r (zK4 s))):=by
 have hps:=zL3 rs
 have hfl:=hcd3.2.1
 refine cb1 96 vs func36 hs ?_
 refine go2 ?_
 refine nB rs fun b1 cs1 rb1=>(nA (ρ:=(rpA 6 (rpQ (30000*k+100004)))) (X:=(List.replicate 6 (0:Rat))) zGN (mY 6 (yF oM)) fun b2 cs2 rb2=>?_)
 refine go4 ?_
 refine nA (ρ:=(rpA 6 (rpQ (30000*k+100004)))) (X:=(List.replicate 6 (0:Rat))) zGN (mY 6 (yF oM)) fun b3 cs3 rb3=>?_
 refine go4 ?_
 refine lX (xV (ρ:=(rpA 2 rpI)) (xC (ps':=[(0,_),(1,_)]) underlying116 rG rfl rfl sizeOf3 e4z rfl (mY 2 wF) (zI rfl (Pc.arr (Pc.here _) (0:Int) 0 dC) (qF dC dC) (zI rfl (Pc.arr (Pc.here _) (0:Int) 1 dC) (qF dC dC) zX)))) fun v17 r17=>(lX (xV (ρ:=(rpA 2 rpI)) (xC (ps':=[(0,_),(1,_)]) underlying116 rG rfl rfl sizeOf3 e4z rfl (mY 2 wF) (zI rfl (Pc.arr (Pc.here _) (0:Int) 0 dC) (qF dC dC) (zI rfl (Pc.arr (Pc.here _) (0:Int) 1 dC) (qF dC dC) zX)))) fun v18 r18=>(lX (xV (ρ:=(rpA 2 rpI)) (xC (ps':=[(0,_),(1,_)]) underlying116 rG rfl rfl sizeOf3 e4z rfl (mY 2 wF) (zI rfl (Pc.arr (Pc.here _) (0:Int) 0 dC) (qF dC dC) (zI rfl (Pc.arr (Pc.here _) (0:Int) 1 dC) (qF dC dC) zX)))) fun v19 r19=>(lX (xV (ρ:=(rpA 2 rpI)) (xC (ps':=[(0,_),(1,_)]) underlying116 rG rfl rfl sizeOf3 e4z rfl (mY 2 wF) (zI rfl (Pc.arr (Pc.here _) (0:Int) 0 dC) (qF dC dC) (zI rfl (Pc.arr (Pc.here _) (0:Int) 1 dC) (qF dC dC) zX)))) fun v20 r20=>(lX (xV (ρ:=(rpA 2 rpI)) (xC (ps':=[(0,_),(1,_)]) underlying116 rG rfl rfl sizeOf3 e4z rfl (mY 2 wF) (zI rfl (Pc.arr (Pc.here _) (0:Int) 0 dC) (qF dC dC) (zI rfl (Pc.arr (Pc.here _) (0:Int) 1 dC) (qF dC dC) zX)))) fun v21 r21=>(lX (xV (ρ:=(rpA 2 rpI)) (xC (ps':=[(0,_),(1,_)]) underlying116 rG rfl rfl sizeOf3 e4z rfl (mY 2 wF) (zI rfl (Pc.arr (Pc.here _) (0:Int) 0 dC) (qF dC dC) (zI rfl (Pc.arr (Pc.here _) (0:Int) 1 dC) (qF dC dC) zX)))) fun v22 r22=>(lX (xV (ρ:=(rpA 6 (rpA 2 rpI))) (xC (ps':=[(0,_),(1,_),(2,_),(3,_),(4,_),(5,_)]) underlying117 zGO rfl rfl sizeOf116 e12 rfl (mY 6 (mY 2 wF)) (zI rfl (Pc.arr (Pc.here _) (List.replicate 2 (0:Int)) 0 dC) r17 (zI rfl (Pc.arr (Pc.here _) (List.replicate 2 (0:Int)) 1 dC) r18 (zI rfl (Pc.arr (Pc.here _) (List.replicate 2 (0:Int)) 2 dC) r19 (zI rfl (Pc.arr (Pc.here _) (List.replicate 2 (0:Int)) 3 dC) r20 (zI rfl (Pc.arr (Pc.here _) (List.replicate 2 (0:Int)) 4 dC) r21 (zI rfl (Pc.arr (Pc.here _) (List.replicate 2 (0:Int)) 5 dC) r22 zX)))))))) fun v23 r23=>(nA (ρ:=(rpA 6 (rpA 2 rpI))) (X:=(List.replicate 6 (List.replicate 2 (0:Int)))) zGO (mY 6 (mY 2 wF)) fun b4 cs4 rb4=>(zR (A:=[]) (uB sizeOf117 pH rb4 r23) fun cs_1 rb_2=>?_))))))))
 refine go5 ?_
 refine lX (xB kF pH rb1) fun v24 r24=>(cL (ev1 rfl) call67 (fun w hs=>cP hs r24 (by first|omega|exact hcd1|exact hcd2|exact hcd3.2.1) (by first|omega|exact hcd1|exact hcd2|exact hcd3.2.1) (by first|omega|exact hcd1|exact hcd2|exact hcd3.2.1)) fun v25 h1 hh1 r25=>?_)
 refine go5 ?_
 refine gcL (ι:=Nat×List Value×List Value×Mem) (fun(i,cs_3,cs_5,ma)=>(MLe h1 ma∧((rpA 6 (rpQ (30000*k+100000))).R ma cs_3 (moL (fQ s s.2.1 i) [] 0)∧(rpA 6 (rpA 2 rpI)).R ma cs_5 prL∧i≤s.2.1.length),[(1,vP b1 0),(2,vP b2 0),(3,vP b3 0),(4,vP b4 0),(25,v25),(26,vI (↑(s.2.1).length:Int)),(27,vI ↑i)],[.var b4 117 cs_5,.var b3 73 cs_3,.var b2 73 cs2,.var b1 50 cs1],ma,s.2.1.length-i)) (0,cs3,cs_1,h1) ?_ ?_
 ·
  refine⟨MLe.refl _,?_⟩
  replace rb3:=rb3.mono hh1
  replace rb_2:=rb_2.mono hh1
  refine⟨(zX5 rb3 rfl (zAL fun u _=>by rw[if_neg (Nat.not_lt_zero u)];have:=tK;show lq 0≤_;omega)),rb_2,?_⟩
  exact oM
 intro x hx
 obtain⟨i,cs_3,cs_5,ma⟩:=x
 dsimp only at hx
 obtain⟨hmma,hinv⟩:=hx
 refine yS ?_
 obtain⟨rb_4,rb_6,hinv⟩:=hinv
 have hi1:=hinv
 refine go6 ?_
 refine cnd (fun hc28=>?_) fun hc28=>?_
 ·
  have hfo:=hcd3.1 i oM
  have hfc:=j9 hcd3 (i:=i) oM
  refine go6 ?_
  refine lX (xI zA i underlying47 fR r25) fun v29 r29=>(lX (xA fR r29) fun v30 r30=>(nA (ρ:=(tFc (k+1) (k+1))) (X:=((zT,(0:Rat)),([],([]:List Nat)))) jA (yJ (yJ (xW (yF oM)) (yF oM)) (yJ qL kO)) fun b6 cs6 rb6=>?_))
  have rw_7:=(Le.p (Le.p (Le.t (Le.q (l:=k+m+1) oM)) (Le.q (l:=k+n+1) oM)) (Le.refl _)).R rb6
  refine zR (A:=[]) (uB sizeOf83 pH rw_7 (r30.le (Le.p (Le.p (Le.t (Le.q (l:=k+m+1) oM)) (Le.q (l:=k+n+1) oM)) (Le.refl _)))) fun cs_8 rb_9=>?_
  refine go4 ?_
  refine lX (xB kF pH rb1) fun v31 r31=>(lX (xB fR pH rb_9) fun v32 r32=>(cL (ev2 rfl rfl) call68 (fun w hs=>tI hs (r31.le (Le.p (Le.refl _) (Le.p (Le.s (Le.p (Le.p (Le.t (Le.q (l:=k+m+1) oM)) (Le.q (l:=k+n+1) oM)) (Le.refl _))) (Le.refl _)))) r32 (by first|omega|exact hfo.1|exact hfo.2.1|exact hfo.2.2) (by first|omega|exact hfo.1|exact hfo.2.1|exact hfo.2.2) (by first|omega|exact hfo.1|exact hfo.2.1|exact hfo.2.2)) fun v33 h2 hh2 r33=>?_))
  refine go5 ?_
  refine gcL (ι:=Nat×List Value×List Value×Mem) (fun(q,cs_10,cs_12,mb)=>(MLe h2 mb∧((rpA 6 (rpQ (30000*k+100000))).R mb cs_10 (moL (fQ s s.2.1 i++(jL s (s.2.1.getD i zA).2.1 (s.2.1.getD i zA).2.1.length).take q) [] 0)∧(rpA 6 (rpA 2 rpI)).R mb cs_12 prL∧q≤(jL s (s.2.1.getD i zA).2.1 (s.2.1.getD i zA).2.1.length).length),[(1,vP b1 0),(2,vP b2 0),(3,vP b3 0),(4,vP b4 0),(25,v25),(26,vI (↑(s.2.1).length:Int)),(27,vI ↑i),(33,v33),(34,vI (↑(jL s (s.2.1.getD i zA).2.1 (s.2.1.getD i zA).2.1.length).length:Int)),(35,vI ↑q)],[.var b6 83 cs_8,.var b4 117 cs_12,.var b3 73 cs_10,.var b2 73 cs2,.var b1 50 cs1],mb,(jL s (s.2.1.getD i zA).2.1 (s.2.1.getD i zA).2.1.length).length-q)) (0,cs_3,cs_5,h2) ?_ ?_
  ·
   refine⟨MLe.refl _,?_⟩
   replace rb_4:=rb_4.mono hh2
   replace rb_6:=rb_6.mono hh2
   refine⟨(Rp.castR rb_4 (by rw[List.take_zero,List.append_nil])),rb_6,?_⟩
   exact oM
  intro x hx
  obtain⟨q,cs_10,cs_12,mb⟩:=x
  dsimp only at hx
  obtain⟨hmmb,hinv⟩:=hx
  refine yS ?_
  obtain⟨rb_11,rb_13,hinv⟩:=hinv
  have hq1:=hinv
  refine go6 ?_
  refine cnd (fun hc36=>?_) fun hc36=>?_
  ·
   have hlt:lqT k ((jL s (s.2.1.getD i zA).2.1 (s.2.1.getD i zA).2.1.length).getD q (T3.mk zT zT zT)):=zDJ hps hfo _ (pR oM)
   refine go6 ?_
   refine lX (xI (T3.mk zT zT zT) q underlying106 pC r33) fun v37 r37=>(lX (xA pC r37) fun v38 r38=>(nA (ρ:=(rpT (tPt (k+1)))) (X:=(T3.mk zT zT zT)) rZ (xW (xW (yF oM))) fun b8 cs8 rb8=>(zR (A:=[]) (uB sizeOf108 pH rb8 r38) fun cs_14 rb_15=>?_)))
   refine go3 ?_
   refine kE 6 _ [(4,(9,26,[.bool false,.slice none 0 0,.slice none 0 0])),(5,(10,53,[.bool false,.slice none 0 0,.slice none 0 0,.bool false,.slice none 0 0,.slice none 0 0,.bool false,.slice none 0 0,.slice none 0 0]))] [(0,.q),(2,.q),(1,.c),(3,.c),(4,.a),(5,.a),(6,.t),(7,.t)] jN (jK.cons rfl rfl (uZ yN rfl rfl) (jK.cons rfl rfl (uZ yV rfl rfl) jK.nil)) (by kernel_rfl) (qB rfl rfl (qB rfl rfl kM)) (fun r hr=>hr) (wX rfl (xB pC pH rb_15) fun v39 r39=>(wX rfl (xB pC pH rb_15) fun v41 r41=>?_))
   refine w_c rfl (sC (ev1 rfl) call69 (fun w hs=>aT hs r39 oM) fun v40 h3 hh3 r40=>?_)
   replace r40:=Rp.Is.le r40 (Le.q (l:=20*k+60) oM)
   refine w_c rfl (sC (ev1 rfl) call73 (fun w hs=>zCW hs r41.up oM) fun v42 h4 hh4 r42=>?_)
   replace r42:=Rp.Is.le r42 (Le.t (Le.q (l:=4*k+14) oM))
   refine w_a rfl rfl (fun b9=>?_)
   have rb9:(rpQ (20*k+60)).R h4 [.bool false,.slice none 0 0,.slice none 0 0] (0:Rat):=(yF oM)
   refine w_a rfl rfl (fun b10=>?_)
   have rb10:(tPt (4*k+14)).R h4 [.bool false,.slice none 0 0,.slice none 0 0,.bool false,.slice none 0 0,.slice none 0 0,.bool false,.slice none 0 0,.slice none 0 0] zT:=(xW (yF oM))
   refine yI (A:=[_]) rfl (uB sizeOf26 pH rb9 r40) fun cs_16 rb_17=>(yI (A:=[]) rfl (uB sizeOf53 pH rb10 r42) fun cs_18 rb_19=>?_)
   refine go4 ?_
   replace rb_13:=rb_13.mono (hh3.trans hh4)
   refine lX (xB yAF pH rb_13) fun v43 r43=>?_
   refine go4 ?_
   refine gcL (ι:=Nat×List Value×List Value×Mem) (fun(u,cs_20,cs_22,mc)=>(MLe h4 mc∧((rpA 6 (rpQ (30000*k+100000))).R mc cs_20 (moL (fQ s s.2.1 i++(jL s (s.2.1.getD i zA).2.1 (s.2.1.getD i zA).2.1.length).take q) ((fQ s s.2.1 i++(jL s (s.2.1.getD i zA).2.1 (s.2.1.getD i zA).2.1.length).take q)++[((jL s (s.2.1.getD i zA).2.1 (s.2.1.getD i zA).2.1.length).getD q (T3.mk zT zT zT))]) u)∧(rpA 6 (rpA 2 rpI)).R mc cs_22 prL∧u≤6),[(1,vP b1 0),(2,vP b2 0),(3,vP b3 0),(4,vP b4 0),(8,vP b8 0),(9,vP b9 0),(10,vP b10 0),(25,v25),(26,vI (↑(s.2.1).length:Int)),(27,vI ↑i),(33,v33),(34,vI (↑(jL s (s.2.1.getD i zA).2.1 (s.2.1.getD i zA).2.1.length).length:Int)),(35,vI ↑q),(43,v43),(44,vI ↑u)],[.var b10 53 cs_18,.var b9 26 cs_16,.var b8 108 cs_14,.var b6 83 cs_8,.var b4 117 cs_22,.var b3 73 cs_20,.var b2 73 cs2,.var b1 50 cs1],mc,6-u)) (0,cs_10,cs_12,h4) ?_ ?_
   ·
    refine⟨MLe.refl _,?_⟩
    replace rb_11:=rb_11.mono (hh3.trans hh4)
    refine⟨(Rp.castR rb_11 rfl),rb_13,?_⟩
    exact oM
   intro x hx
   obtain⟨u,cs_20,cs_22,mc⟩:=x
   dsimp only at hx
   obtain⟨hmmc,hinv⟩:=hx
   refine yS ?_
   obtain⟨rb_21,rb_23,hinv⟩:=hinv
   have hu1:=hinv
   refine go6 ?_
   refine cnd (fun hc45=>?_) fun hc45=>?_
   ·
    have hpr:=yAZ u oM
    refine go7 ?_
    replace r43:=r43.mono hmmc
    refine zEA (F:=fun v_=>(rpA 2 rpI).Is mc v_ (prL.getD u (List.replicate 2 (0:Int)))) (zHU u underlying117 yAG (Pc.arr (Pc.here _) (List.replicate 2 (0:Int)) u oM) rfl rfl rfl rfl r43 rfl oM rfl) zBI rfl ?_
    intro v47 r47
    refine nA (ρ:=(rpA 2 rpI)) (X:=(List.replicate 2 (0:Int))) rG (mY 2 wF) fun b12 cs12 rb12=>?_
    refine go1 ?_
    refine zR (A:=[]) (uB sizeOf116 pH rb12 r47) fun cs_24 rb_25=>?_
    refine go3 ?_
    refine kE 10 _ [(9,(13,26,[.bool false,.slice none 0 0,.slice none 0 0]))] [(0,.q),(1,.q),(2,.q),(3,.q),(4,.q),(5,.q),(6,.q),(7,.q),(8,.c),(9,.a),(10,.t)] jN (jK.cons rfl rfl (uZ yN rfl rfl) jK.nil) (by kernel_rfl) (qB rfl rfl kM) (fun r hr=>hr) ?_
    refine go1 ?_
    refine wX rfl (xB ty3 (Pc.arr pH (0:Int) 0 dC) rb_25) fun v49 r49=>?_
    obtain⟨rfl,hl49,hu49⟩:=jW r49
    refine xJ rfl (fun _ _=>(zW (sz:=3) (prI u) underlying53 sizeOf26 rfl rfl (by exact hpr.1.1) (by exact hpr.1.2)).cv (show _=vP b10 (((prI u)*3+0)) from congrArg (vP b10) oM)) rfl (wX rfl (xB yA (Pc.ta pH (prI u) (by exact hpr.1.2)) rb_19) fun v51 r51=>?_)
    refine go1 ?_
    refine wX rfl (xB ty3 (Pc.arr pH (0:Int) 1 dC) rb_25) fun v53 r53=>?_
    obtain⟨rfl,hl53,hu53⟩:=jW r53
    refine xJ rfl (fun _ _=>(zW (sz:=3) (prJ u) underlying53 sizeOf26 rfl rfl (by exact hpr.2.1) (by exact hpr.2.2)).cv (show _=vP b10 (((prJ u)*3+0)) from congrArg (vP b10) oM)) rfl (wX rfl (xB yA (Pc.ta pH (prJ u) (by exact hpr.2.2)) rb_19) fun v55 r55=>?_)
    refine w_c rfl (sC (ev2 rfl rfl) call76 (fun w hs=>qS hs r51 r55 oM) fun v56 h5 hh5 r56=>?_)
    replace r56:=Rp.Is.le r56 (Le.q (l:=8*k+28) oM)
    refine w_a rfl rfl (fun b13=>?_)
    have rb13:(rpQ (12*k+40)).R h5 [.bool false,.slice none 0 0,.slice none 0 0] (0:Rat):=(yF oM)
    refine yI (A:=[]) rfl (uB sizeOf26 pH rb13 (r56.le (Le.q (l:=12*k+40) oM))) fun cs_26 rb_27=>?_
    refine go5 ?_
    refine lX (xB pC pH rb_15) fun v57 r57=>?_
    refine go4 ?_
    refine gcL (ι:=Nat×List Value×Mem) (fun(r,cs_28,md)=>(MLe h5 md∧((rpQ (12*k+20)).R md cs_28 (moX ((jL s (s.2.1.getD i zA).2.1 (s.2.1.getD i zA).2.1.length).getD q (T3.mk zT zT zT)) u r)∧r≤3),[(1,vP b1 0),(2,vP b2 0),(3,vP b3 0),(4,vP b4 0),(8,vP b8 0),(9,vP b9 0),(10,vP b10 0),(11,vI ↑u),(12,vP b12 0),(13,vP b13 0),(25,v25),(26,vI (↑(s.2.1).length:Int)),(27,vI ↑i),(33,v33),(34,vI (↑(jL s (s.2.1.getD i zA).2.1 (s.2.1.getD i zA).2.1.length).length:Int)),(35,vI ↑q),(43,v43),(44,vI ↑u),(57,v57),(58,vI ↑r)],[.var b13 26 cs_28,.var b12 116 cs_24,.var b10 53 cs_18,.var b9 26 cs_16,.var b8 108 cs_14,.var b6 83 cs_8,.var b4 117 cs_22,.var b3 73 cs_20,.var b2 73 cs2,.var b1 50 cs1],md,3-r)) (0,cs_26,h5) ?_ ?_
    ·
     refine⟨MLe.refl _,?_⟩
     refine⟨(zUE rb_27 rfl (by have h9:=zGJ hlt u 0;omega)),?_⟩
     exact oM
    intro x hx
    obtain⟨r,cs_28,md⟩:=x
    dsimp only at hx
    obtain⟨hmmd,hinv⟩:=hx
    refine yS ?_
    obtain⟨rb_29,hinv⟩:=hinv
    have hr1:=hinv
    refine go6 ?_
    refine cnd (fun hc59=>?_) fun hc59=>?_
    ·
     refine go6 ?_
     replace r57:=r57.mono hmmd
     refine zEA (F:=fun v_=>(tPt (k+1)).Is md v_ (((jL s (s.2.1.getD i zA).2.1 (s.2.1.getD i zA).2.1.length).getD q (T3.mk zT zT zT)).at r)) (zHU r underlying108 zS (Pc.ta (Pc.here _) r oM) rfl rfl rfl rfl r57 rfl oM rfl) zBI rfl ?_
     intro v60 r60
     refine nA (ρ:=(tPt (k+1))) (X:=zT) yV (xW (yF oM)) fun b15 cs15 rb15=>(zR (A:=[]) (uB sizeOf53 pH rb15 r60) fun cs_30 rb_31=>?_)
     refine go2 ?_
     refine gD 11 (qq 0 9 [(9,.c),(10,.c),(11,.t)]) (vG [0,0,2,4,8,0,32,64,128,272,513,2047] (frz 4095 [0,0,2,4,8,0,32,64,128,272,513,1024]) (by kernel_rfl)) ?_
     refine wX rfl (xB yA pH rb_29) fun v61 r61=>?_
     refine go1 ?_
     refine wX rfl (xB ty3 (Pc.arr pH (0:Int) 0 dC) rb_25) fun v63 r63=>?_
     obtain⟨rfl,hl63,hu63⟩:=jW r63
     refine xJ rfl (fun _ _=>(zW (sz:=3) (prI u) underlying53 sizeOf26 rfl rfl (by exact hpr.1.1) (by exact hpr.1.2)).cv (show _=vP b15 (((prI u)*3+0)) from congrArg (vP b15) oM)) rfl (wX rfl (xB yA (Pc.ta pH (prI u) (by exact hpr.1.2)) rb_31) fun v65 r65=>?_)
     refine go1 ?_
     refine wX rfl (xB ty3 (Pc.arr pH (0:Int) 1 dC) rb_25) fun v67 r67=>?_
     obtain⟨rfl,hl67,hu67⟩:=jW r67
     refine xJ rfl (fun _ _=>(zW (sz:=3) (prJ u) underlying53 sizeOf26 rfl rfl (by exact hpr.2.1) (by exact hpr.2.2)).cv (show _=vP b15 (((prJ u)*3+0)) from congrArg (vP b15) oM)) rfl (wX rfl (xB yA (Pc.ta pH (prJ u) (by exact hpr.2.2)) rb_31) fun v69 r69=>?_)
     refine w_c rfl (sC (ev2 rfl rfl) call76 (fun w hs=>qS hs r65 r69 oM) fun v70 h6 hh6 r70=>?_)
     replace r70:=Rp.Is.le r70 (Le.q (l:=2*k+2) oM)
     refine w_c rfl (sC (ev2 rfl rfl) call70 (fun w hs=>fJ hs r61.up r70 oM) fun v71 h7 hh7 r71=>?_)
     replace r71:=Rp.Is.le r71 (Le.q (l:=14*k+23) oM)
     replace rb_29:=rb_29.mono (hh6.trans hh7)
     have rw_32:=(Le.q (l:=14*k+23) oM).R rb_29
     refine yI (A:=[_]) rfl (uB sizeOf26 pH rw_32 r71) fun cs_33 rb_34=>?_
     refine go7 ?_
     refine vV (A:=[]) ?_
     refine gqL ((r+1),cs_33,h7) ?_ ?_
     ·
      refine⟨((hmmd.trans hh6).trans hh7),?_⟩
      refine⟨(zUE rb_34 rfl (by have h9:=zGJ hlt u (r+1);have:=Nat.mul_le_mul_left (2*k+1) (show r+1≤3 by omega);omega)),?_⟩
      exact oM
     omega
    have er:r=3:=by omega
    refine go5 ?_
    refine gD 9 (qq 0 6 [(6,.c),(7,.c),(8,.q),(9,.t)]) (by kernel_rfl) ?_
    refine go2 ?_
    refine xJ rfl (fun _ _=>(zW (sz:=3) u underlying73 sizeOf26 rfl rfl rfl oM).cv (show _=vP b3 ((u*3+0)) from congrArg (vP b3) oM)) rfl ?_
    replace rb_21:=rb_21.mono (hh5.trans hmmd)
    refine wX rfl (xB yA (Pc.arr pH (0:Rat) u oM) rb_21) fun v76 r76=>(wX rfl (xB yA pH rb_17) fun v77 r77=>(wX rfl (xB yA pH rb_29) fun v78 r78=>?_))
    refine w_c rfl (sC (ev2 rfl rfl) call76 (fun w hs=>qS hs r77 r78 oM) fun v79 h6 hh6 r79=>?_)
    replace r79:=Rp.Is.le r79 (Le.q (l:=32*k+80) oM)
    refine w_c rfl (sC (ev2 rfl rfl) call70 (fun w hs=>fJ hs r76.up r79 oM) fun v80 h7 hh7 r80=>?_)
    replace r80:=Rp.Is.le r80 (Le.q (l:=30032*k+100081) oM)
    refine xJ rfl (fun _ _=>(zW (sz:=3) u underlying73 sizeOf26 rfl rfl rfl oM).cv (show _=vP b3 ((u*3+0)) from congrArg (vP b3) oM)) rfl ?_
    replace rb_21:=rb_21.mono (hh6.trans hh7)
    have rw_35:=(Le.a (Le.q (l:=30032*k+100081) oM)).R rb_21
    refine yI (A:=[_,_,_,_,_,_,_]) rfl (uB sizeOf26 (Pc.arr pH (0:Rat) u oM) rw_35 r80) fun cs_36 rb_37=>?_
    refine go7 ?_
    refine vV (A:=[]) (vV (A:=[]) ?_)
    refine gqL ((u+1),cs_36,cs_22,h7) ?_ ?_
    ·
     refine⟨((((hmmc.trans hh5).trans hmmd).trans hh6).trans hh7),?_⟩
     replace rb_23:=rb_23.mono (((hh5.trans hmmd).trans hh6).trans hh7)
     refine⟨(zX5 rb_37 (by rw[er];exact zU1 oM) (zYU (eC hcd3 hps (i:=i) (q:=q) oM) (by have h8:=eC hcd3 hps (i:=i) (q:=q+1) oM;rw[←rR (T3.mk zT zT zT) oM,←List.append_assoc] at h8;exact h8) _)),rb_23,?_⟩
     exact oM
    omega
   have eu:u=6:=by omega
   refine vO ?_
   refine vV (A:=[]) (vV (A:=[]) (vV (A:=[]) ?_))
   refine gqL ((q+1),cs_20,cs_22,mc) ?_ ?_
   ·
    refine⟨(((hmmb.trans hh3).trans hh4).trans hmmc),?_⟩
    refine⟨(Rp.castR rb_21 (by rw[eu,zU2,List.append_assoc,rR (T3.mk zT zT zT) oM];rfl)),rb_23,?_⟩
    exact oM
   omega
  have eq2:q=(jL s (s.2.1.getD i zA).2.1 (s.2.1.getD i zA).2.1.length).length:=by omega
  refine vO ?_
  refine vV (A:=[]) ?_
  refine gqL ((i+1),cs_10,cs_12,mb) ?_ ?_
  ·
   refine⟨((hmma.trans hh2).trans hmmb),?_⟩
   refine⟨(Rp.castR rb_11 (by rw[eq2,List.take_length];rfl)),rb_13,?_⟩
   exact oM
  omega
 have ei:i=s.2.1.length:=by omega
 have hall:=zZ2 hcd3 hps
 refine uN ?_
 refine gcL (ι:=Nat×List Value×Mem) (fun(u,cs_38,me)=>(MLe ma me∧((rpA 6 (rpQ (30000*k+100004))).R me cs_38 (moD (fQ s s.2.1 s.2.1.length) u)∧u≤6),[(2,vP b2 0),(3,vP b3 0),(85,vI ↑u)],[.var b4 117 cs_5,.var b3 73 cs_38,.var b2 73 cs2,.var b1 50 cs1],me,6-u)) (0,cs_3,ma) ?_ ?_
 ·
  refine⟨MLe.refl _,?_⟩
  refine⟨(Rp.castR (Le.R (Le.a (Le.q oM)) rb_4) (by rw[ei];rfl)),?_⟩
  exact oM
 intro x hx
 obtain⟨u,cs_38,me⟩:=x
 dsimp only at hx
 obtain⟨hmme,hinv⟩:=hx
 refine yS ?_
 obtain⟨rb_39,hinv⟩:=hinv
 have hu1:=hinv
 refine go6 ?_
 refine cnd (fun hc86=>?_) fun hc86=>?_
 ·
  refine sL ?_
  refine gv ((zW (sz:=3) u underlying73 sizeOf26 rfl rfl rfl oM).cv (show _=vP b3 ((u*3+0)) from congrArg (vP b3) oM)) rfl (lX (xB yA (Pc.arr pH (0:Rat) u oM) rb_39) fun v91 r91=>(cL (vs:=[_,vI (120)]) e2z call83 (fun w hs=>nY hs r91 dC dC oM oM) fun v92 h2 hh2 r92=>?_))
  replace r92:=Rp.Is.le r92 (Le.q (l:=30000*k+100008) oM)
  refine gv ((zW (sz:=3) u underlying73 sizeOf26 rfl rfl rfl oM).cv (show _=vP b3 ((u*3+0)) from congrArg (vP b3) oM)) rfl ?_
  replace rb_39:=rb_39.mono hh2
  have rw_40:=(Le.a (Le.q (l:=30000*k+100008) oM)).R rb_39
  refine zR (A:=[_]) (uB sizeOf26 (Pc.arr pH (0:Rat) u oM) rw_40 r92) fun cs_41 rb_42=>?_
  refine go7 ?_
  refine gqL ((u+1),cs_41,h2) ?_ ?_
  ·
   refine⟨(hmme.trans hh2),?_⟩
   refine⟨(zX5 rb_42 (zU3 oM) (zYV hall _)),?_⟩
   exact oM
  omega
 have eu:u=6:=by omega
 refine go7 ?_
 refine lX (xB yAC pH rb_39) fun v95 r95=>(zR (A:=[_,_]) (uB sizeOf73 pH rb2 r95) fun cs_43 rb_44=>?_)
 refine go3 ?_
 refine wL (jZ (t:=2) yAC mh2 rfl rb_44) ?_
 intro w_45 hvw_45 rr_46
 refine yE (fun E S=>zP rfl hvw_45 E S) ?_
 exact(Rp.Is.cast rr_46 (by rw[eu,yA8]))
end Go.Proofs.YtboaboflnckgoaaGreat
