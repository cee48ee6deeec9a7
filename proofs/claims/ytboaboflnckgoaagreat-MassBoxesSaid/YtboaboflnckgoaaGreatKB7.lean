/- Texts that the proof needs, part 7. -/
import Derived.Test.YtboaboflnckgoaaGreatKB6
namespace Bk
set_option linter.unusedVariables false
set_option linter.unusedSimpArgs false
open Classical
theorem zY3{k:Nat}{h:Mem}{v:Go.Value}{p:Pt}(r:(rpT (rpQ k)).Is h v p):lqP k p:=by
  obtain⟨cs,⟨x,_,rfl,⟨_,q1⟩,y,z,rfl,⟨_,q2⟩,⟨_,q3⟩⟩,_⟩:=r
  exact⟨q1,q2,q3⟩
theorem zTT{k l:Nat}{h:Mem}{v:Go.Value}{p:Pt}(r:(rpT (rpQ k)).Is h v p)(hl:lqP l p):(rpT (rpQ l)).Is h v p:=by
  obtain⟨cs,r,e⟩:=r
  exact⟨cs,zX4 r rfl hl,e⟩
theorem zVZ{Q:Rat→Prop}{p:Pt}{i:Nat}{q:Rat}(hi:i<3)(h:∀u,u<i→Q (p.at u))(hq:Q q):∀u,u<i+1→Q ((p.set i q).at u):=by
  intro u hu
  have:i=0∨i=1∨i=2:=by omega
  rcases this with rfl|rfl|rfl
  · have:u=0:=by omega
    subst this;exact hq
  · have:u=0∨u=1:=by omega
    rcases this with rfl|rfl
    · exact h 0 (by omega)
    · exact hq
  · have:u=0∨u=1∨u=2:=by omega
    rcases this with rfl|rfl|rfl
    · exact h 0 (by omega)
    · exact h 1 (by omega)
    · exact hq
theorem zWI{a b:Rat}(ha:0≤a)(hb:0≤b)(h:a*a≤b*b):a≤b:=by
  refine Rat.not_lt.1 fun e=>?_
  have h1:0<(a-b)*(a+b):=tS (by grind) (by grind)
  grind
theorem yA5{q:Rat}(hq:0≤q){n:Int}(h1:0≤n)(h2:n≤64):cD (q*q) n≤q∧q≤cQ (q*q) n:=by
  have h0:0≤q*q:=Rat.mul_nonneg hq hq
  obtain⟨⟨_,g0⟩,g1,g2,g3⟩:=zU0 h0 h1 h2
  have hs:0≤ovQ 1 (kN n):=by rw[←zBT (kN n),zV7];exact Nat.zero_le _
  exact⟨zWI g0 hq g1,zWI hq (by rcases g3 with g3|g3<;>grind) g2⟩
def zNG(w:Pt):Rat:=w.x*w.y*w.z
def zPG(w:Pt):Rat:=((2:Int):Rat)*(w.x*w.y+w.y*w.z+w.z*w.x)
noncomputable def thQ(x y:Rat):Rat:=jC 1 3*(x*x+x*y+y*y)
theorem zYN{n d:Int}(hn:0<n)(hd:0<d):0<jC n d:=by
  unfold jC
  have h1:(0:Rat)<(n:Rat):=Rat.intCast_pos.2 hn
  have h2:(0:Rat)<(d:Rat):=Rat.intCast_pos.2 hd
  rw[Rat.div_def]
  exact tS h1 (Rat.inv_pos.2 h2)
structure BoxF(a w:Pt):Prop where
  lq:lqP 5 (wD a w)
  ok:mX a (wD a w)
  h:blH a (wD a w)
  e:blE a (wD a w)=0
  ms:zYL (bkS a (wD a w))
  len:(bkS a (wD a w)).2.1.length=6
  cno:cnO (bkS a (wD a w))
  vol:dS (bkS a (wD a w))/((6:Int):Rat)=zNG w
  cen:∀i,i<3→(cnS (bkS a (wD a w))).at i=dA (a.at i) ((wD a w).at i)
  mo1:∀i,i<3→(zK4 (bkS a (wD a w))).getD i 0=zNG w*thQ (a.at i) ((wD a w).at i)
  mo2:∀i,i<3→(zK4 (bkS a (wD a w))).getD (3+i) 0=zNG w*((cnS (bkS a (wD a w))).at i*(cnS (bkS a (wD a w))).at ((i+1)%3))
  area:∀d:Int,0≤d→d≤64→(arS (bkS a (wD a w)) d 6).1≤zPG w∧zPG w≤(arS (bkS a (wD a w)) d 6).2
theorem zV2{i:Nat}(h:i<3):i=0∨i=1∨i=2:=by omega
theorem zSP{a b:Pt}(h:a.x<b.x∧a.y<b.y∧a.z<b.z)(i:Nat):(cnS (bxS a b)).at i=1/2*(a.at i+b.at i):=by
  rw[(zSO h).2]
  match i with
  |0=>rfl
  |1=>rfl
  |_+2=>rfl
theorem zSX{a w:Pt}(ha:lqP 2 a)(hw:lqP 2 w)(hp:∀u,u<3→0<w.at u):BoxF a w:=by
  have p0:0<w.x:=hp 0 (by decide)
  have p1:0<w.y:=hp 1 (by decide)
  have p2:0<w.z:=hp 2 (by decide)
  have hlt:a.x<(wD a w).x∧a.y<(wD a w).y∧a.z<(wD a w).z:=by
    refine⟨?_,?_,?_⟩
    · show a.x<a.x+w.x;grind
    · show a.y<a.y+w.y;grind
    · show a.z<a.z+w.z;grind
  have hok:mX a (wD a w):=by
    intro u hu
    rw[zDM]
    rcases zV2 hu with rfl|rfl|rfl
    · exact Rat.not_le.2 hlt.1
    · exact Rat.not_le.2 hlt.2.1
    · exact Rat.not_le.2 hlt.2.2
  have hb:=zND hok
  have d0:(wD a w).x-a.x=w.x:=by show a.x+w.x-a.x=w.x;grind
  have d1:(wD a w).y-a.y=w.y:=by show a.y+w.y-a.y=w.y;grind
  have d2:(wD a w).z-a.z=w.z:=by show a.z+w.z-a.z=w.z;grind
  have hs:∀f,eW a (wD a w) f=if f<2 then w.y*w.z else if f<4 then w.z*w.x else w.x*w.y:=fun f=>by unfold eW;rw[d0,d1,d2]
  have n0:0≤w.y*w.z:=Rat.le_of_lt (tS p1 p2)
  have n1:0≤w.z*w.x:=Rat.le_of_lt (tS p2 p0)
  have n2:0≤w.x*w.y:=Rat.le_of_lt (tS p0 p1)
  have e6:((6:Int):Rat)=6:=rfl
  have e1:((120:Int):Rat)=120:=rfl
  have e2:((2:Int):Rat)=2:=rfl
  have e3:jC 1 3=1/3:=rfl
  have mo:∀i,i<6→(zK4 (bxS a (wD a w))).getD i 0=moS (fQ (bxS a (wD a w)) (fB3 a (wD a w)) 6) i/((120:Int):Rat):=fun i hi=>dB _ _ hi
  refine⟨?_,hok,zS2 hok,zS3 hok,?_,?_,?_,?_,?_,?_,?_,?_⟩
  · exact oW (q8 ha hw) (by decide)
  · rw[hb]
    refine zWB fun f hf=>?_
    obtain⟨q0,q1,q2⟩:=hw
    have g:∀x y:Rat,lq x≤2→lq y≤2→lq (x*y*(x*y))≤200:=fun x y hx hy=>by
      have:=fZ x y;have:=fZ (x*y) (x*y);omega
    rw[hs f]
    split
    · exact g _ _ q1 q2
    · split
      · exact g _ _ q2 q0
      · exact g _ _ q0 q1
  · rw[hb];rfl
  · rw[hb];exact(zSO hlt).1
  · rw[hb,zJJ,d0,d1,d2,e6];unfold zNG;grind
  · intro i hi
    have eh:zDF=1/2:=zE9.symm.trans rfl
    rw[hb,zSP hlt]
    unfold dA
    rw[eh]
    generalize a.at i=x;generalize (wD a w).at i=y
    grind
  · intro i hi
    rw[hb,mo i (by omega),zWD i (by omega),if_pos hi,d0,d1,d2,e1]
    unfold zNG thQ
    rw[e3]
    generalize a.at i=x;generalize (wD a w).at i=y
    grind
  · intro i hi
    rw[hb,mo (3+i) (by omega),zWD (3+i) (by omega),if_neg (by omega),d0,d1,d2,e1,zSP hlt,zSP hlt]
    have hi':prI (3+i)=i∧prJ (3+i)=(i+1)%3:=by
      rcases zV2 hi with rfl|rfl|rfl<;>decide
    rw[hi'.1,hi'.2]
    unfold zNG
    generalize a.at i=x;generalize (wD a w).at i=y;generalize a.at ((i+1)%3)=z;generalize (wD a w).at ((i+1)%3)=u
    grind
  · intro d h1 h2
    rw[hb]
    have g:∀f,f<6→cD (jG (arV (bxS a (wD a w)) ((fB3 a (wD a w)).getD f zA)) (arV (bxS a (wD a w)) ((fB3 a (wD a w)).getD f zA))) d≤eW a (wD a w) f∧eW a (wD a w) f≤cQ (jG (arV (bxS a (wD a w)) ((fB3 a (wD a w)).getD f zA)) (arV (bxS a (wD a w)) ((fB3 a (wD a w)).getD f zA))) d:=fun f hf=>by
      rw[zLW hf]
      refine yA5 ?_ h1 h2
      rw[hs f]
      split
      · exact n0
      · split
        · exact n1
        · exact n2
    have g0:=g 0 (by decide);have g1:=g 1 (by decide);have g2:=g 2 (by decide);have g3:=g 3 (by decide);have g4:=g 4 (by decide);have g5:=g 5 (by decide)
    rw[hs 0,if_pos (by decide)] at g0
    rw[hs 1,if_pos (by decide)] at g1
    rw[hs 2,if_neg (by decide),if_pos (by decide)] at g2
    rw[hs 3,if_neg (by decide),if_pos (by decide)] at g3
    rw[hs 4,if_neg (by decide),if_neg (by decide)] at g4
    rw[hs 5,if_neg (by decide),if_neg (by decide)] at g5
    have hs1:∀i,arS (bxS a (wD a w)) d (i+1)=((arS (bxS a (wD a w)) d i).1+cD (jG (arV (bxS a (wD a w)) ((fB3 a (wD a w)).getD i zA)) (arV (bxS a (wD a w)) ((fB3 a (wD a w)).getD i zA))) d,(arS (bxS a (wD a w)) d i).2+cQ (jG (arV (bxS a (wD a w)) ((fB3 a (wD a w)).getD i zA)) (arV (bxS a (wD a w)) ((fB3 a (wD a w)).getD i zA))) d):=fun i=>rfl
    have hs0:arS (bxS a (wD a w)) d 0=(0,0):=rfl
    unfold zPG
    rw[hs1 5,hs1 4,hs1 3,hs1 2,hs1 1,hs1 0,hs0,e2]
    dsimp only
    constructor<;>grind
end Bk
namespace Go.Proofs.YtboaboflnckgoaaGreat
open Bk Go Tryz
set_option linter.unusedVariables false
set_option linter.unusedSimpArgs false
set_option maxRecDepth 10000
set_option maxHeartbeats 1000000
attribute [local irreducible] GL GC GQ W OpV
set_option maxHeartbeats 1000000 in
theorem zBJ{w0:World}{h0:Mem}(hs:MLe h0 (mem w0)){vl:Value}{xsl:List Int}(hl:Is h0 vl xsl)(hsf:SaneF):
    Calls Tryz.prog 6 #[vl] w0 (Ret w0 h0 (fun _ r=>r=.bool true)):=by
 have hlenl:=hl.lt63
 refine cb1 193 vl func6 hs ?_
 refine go9 ?_
 refine cL (ev1 rfl) call19 (fun w hs=>zK9 hs hl) fun v21 h1 hh1 hr21=>?_
 subst hr21
 refine go3 ?_
 refine cnd (fun hc22=>?_) fun hc22=>?_
 ·
  refine go2 ?_
  refine cL (vs:=[]) trivial call8 (fun w hs=>zDC hs hsf) fun v23 h2 hh2 hr23=>?_
  subst hr23
  refine go5 ?_
  refine zD rfl rfl ?_
  first|rfl|exact xL trivial
 refine go5 ?_
 replace hl:=hl.mono hh1
 refine qU (vs:=[_]) rfl rfl rfl rfl call20 ⟨rfl,trivial⟩ (fun w hs=>zOL hs hl) ?_
 intro v25 h2 L25 hh2 hr25
 obtain⟨b25,rfl,rfl⟩:=hr25
 refine go6 ?_
 replace hl:=hl.mono hh2
 refine gZ (A:=[]) (vs:=[_]) call32 ⟨rfl,trivial⟩ (fun X w hs=>zIA hl (by first|omega|exact Nat.zero_le _) hs) rfl ?_
 intro v27 g27 q27 hg27 hr27
 obtain⟨k27,p27,rfl,hk27,hx27,hr27⟩:=hr27
 refine nA (ρ:=(tPt 2)) (X:=zT) yV (xW (yF dC)) fun b4 cs4 rb4=>(zR (A:=[]) (uB sizeOf53 pH rb4 hr27) fun cs_1 rb_2=>?_)
 refine go4 ?_
 refine nA (ρ:=(tPt 2)) (X:=zT) yV (xW (yF dC)) fun b5 cs5 rb5=>?_
 refine go9 ?_
 refine gcL (ι:=Nat×T3 Rat×List Value×Nat×Mem) (fun(i,w0,cs_3,kd_5,ma)=>(MLe g27 ma∧((tPt 2).R ma cs_3 w0∧kd_5≤xsl.length∧i≤3∧∀u,u<i→0<w0.at u∧lq (w0.at u)≤2),[(3,vP b25 0),(4,vP b4 0),(5,vP b5 0),(6,vI ↑i)],[.var b5 53 cs_3,.var b4 53 cs_1,.var b25 97 [vl,vI ↑kd_5]],ma,3-i)) (0,zT,cs5,k27,g27) ?_ ?_
 ·
  refine⟨MLe.refl _,?_⟩
  refine⟨rb5,oM,?_⟩
  exact⟨by omega,fun u h=>by omega⟩
 intro x hx
 obtain⟨i,w0,cs_3,kd_5,ma⟩:=x
 dsimp only at hx
 obtain⟨hmma,hinv⟩:=hx
 refine yS ?_
 obtain⟨rb_4,hkd_6,hinv⟩:=hinv
 obtain⟨hi1,hw⟩:=hinv
 refine go7 ?_
 refine cnd (fun hc29=>?_) fun hc29=>?_
 ·
  refine go7 ?_
  replace hl:=hl.mono (hg27.trans hmma)
  refine gZ (A:=[_,_]) (vs:=[_,vI (6)]) call33 e2z (fun X w hs=>bC hl (by first|omega|exact Nat.zero_le _) oM oM hs) rfl ?_
  intro v34 g34 q34 hg34 hr34
  obtain⟨k34,z34,rfl,hk34,rfl,hz34,hy34⟩:=hr34
  refine gv (zY (p:=1) rfl rfl oM oM) rfl ?_
  refine go1 ?_
  replace hl:=hl.mono hg34
  refine gZ (A:=[_,_]) (vs:=[_,vI (3)]) call33 e2z (fun X w hs=>bC hl (by first|omega|exact Nat.zero_le _) oM oM hs) rfl ?_
  intro v37 g37 q37 hg37 hr37
  obtain⟨k37,z37,rfl,hk37,rfl,hz37,hy37⟩:=hr37
  refine gv (zY (p:=1) rfl rfl oM oM) rfl (cL (ev2 rfl rfl) call10 (fun w hs=>pM hs oM oM oM oM) fun v39 h3 hh3 r39=>(gv ((zW (sz:=3) i underlying53 sizeOf26 rfl rfl rfl oM).cv (show _=vP b5 ((i*3+0)) from congrArg (vP b5) oM)) rfl (zR (A:=[]) (uB sizeOf26 (Pc.ta pH i oM) rb_4 r39) fun cs_7 rb_8=>?_)))
  refine go8 ?_
  refine gqL ((i+1),(w0.set i (jC ((1:Int)+z34) ((1:Int)+z37))),cs_7,k37,h3) ?_ ?_
  ·
   refine⟨(((hmma.trans hg34).trans hg37).trans hh3),?_⟩
   refine⟨rb_8,oM,?_⟩
   exact⟨by omega,zVZ (Q:=fun q=>0<q∧lq q≤2) oM hw ⟨zYN oM oM,zBY oM oM oM oM⟩⟩
  omega
 refine go7 ?_
 refine lX (xB zS pH rb_2) fun v41 r41=>(lX (xB zS pH rb_4) fun v42 r42=>?_)
 have hbx:=zSX (zY3 (by assumption:(tPt 2).Is _ v27 p27)) ⟨(hw 0 oM).2,(hw 1 oM).2,(hw 2 oM).2⟩ (fun u hu=>(hw u oM).1)
 refine cL (ev2 rfl rfl) call34 (fun w hs=>zQ9 hs r41 r42 dC) fun v43 h3 hh3 r43=>?_
 replace r43:=Rp.Is.le r43 (Le.t (Le.q (l:=5) oM))
 replace r43:=Rp.Is.cast (y:=(wD p27 w0)) r43 (by rfl)
 replace r43:(tPt 5).Is h3 v43 (wD p27 w0):=(zTT r43 hbx.lq)
 refine nA (ρ:=(tPt 5)) (X:=zT) yV (xW (yF dC)) fun b7 cs7 rb7=>(zR (A:=[]) (uB sizeOf53 pH rb7 r43) fun cs_9 rb_10=>?_)
 refine go4 ?_
 refine lX (xB zS pH rb_2) fun v45 r45=>(lX (xB zS pH rb_10) fun v46 r46=>?_)
 refine qU (vs:=[_,_]) rfl rfl rfl rfl call35 e2z (fun w hs=>zE0 hs r45 r46 dC dC (by first|omega|exact fun _=>hbx.h)) ?_
 intro v47 h4 L47 hh4 r47
 obtain⟨u47,vf47,cs_11,rfl,r47,rfl,ho_12,rl_13⟩:=r47
 change RL (tFc (10000*2+10000*5+20000) (10000*2+10000*5+20000)) h4 cs_11 (blF p27 (wD p27 w0)) at rl_13
 replace r47:=Rp.Is.le r47 (Le.p (Le.s (Le.t (Le.q (l:=54) oM))) (Le.refl _))
 replace rl_13:=(Le.p (Le.p (Le.t (Le.q (l:=90000) oM)) (Le.q (l:=90000) oM)) (Le.refl _)).rl rl_13
 refine go3 ?_
 refine nA (ρ:=(rpP (tLs 1) (rpP rpV (rpS (rpP rpI (rpP rpI (rpQ 1))))))) (X:=([],((Value.slice none 0 0),[]))) tO (yJ qL (yJ cJ qL)) fun b8 cs8 rb8=>?_
 have rw_14:=(Le.p (Le.s (Le.t (Le.q (l:=54) dC))) (Le.p (Le.refl _) (Le.s (Le.p (Le.refl _) (Le.p (Le.refl _) (Le.q (l:=6) dC)))))).R rb8
 refine zR (A:=[]) (uB sizeOf50 pH rw_14 r47) fun cs_15 rb_16=>?_
 refine go4 ?_
 refine kE 9 _ [(8,(10,26,[.bool false,.slice none 0 0,.slice none 0 0]))] [(0,.q),(1,.q),(2,.q),(3,.q),(5,.q),(6,.q),(4,.c),(7,.c),(8,.a),(9,.t)] jN (jK.cons rfl rfl (uZ yN rfl rfl) jK.nil) (by kernel_rfl) (qB rfl rfl kM) (fun r hr=>hr) ?_
 refine go1 ?_
 refine wX rfl (xB yA (Pc.tx pH) rb_4) fun v51 r51=>?_
 refine go1 ?_
 refine wX rfl (xB yA (Pc.ty pH) rb_4) fun v53 r53=>?_
 refine go1 ?_
 refine wX rfl (xB yA (Pc.tz pH) rb_4) fun v56 r56=>?_
 refine w_c rfl (sC (ev2 rfl rfl) call9 (fun w hs=>wN hs r51 r53 dC) fun v54 h5 hh5 r54=>?_)
 replace r54:=Rp.Is.le r54 (Le.q (l:=4) oM)
 refine w_c rfl (sC (ev2 rfl rfl) call9 (fun w hs=>wN hs r54 r56.up dC) fun v57 h6 hh6 r57=>?_)
 replace r57:=Rp.Is.le r57 (Le.q (l:=6) oM)
 refine w_a rfl rfl (fun b10=>?_)
 have rb10:(rpQ 20).R h6 [.bool false,.slice none 0 0,.slice none 0 0] (0:Rat):=(yF dC)
 refine yI (A:=[]) rfl (uB sizeOf26 pH rb10 (r57.le (Le.q (l:=20) dC))) fun cs_17 rb_18=>?_
 refine go4 ?_
 replace rl_13:=rl_13.mono (hh5.trans hh6)
 refine yH (A:=[_,_]) (ρ:=(tFc 90000 90000)) rl_13 ?_
 intro h7 hh7 rs_19
 replace rb_16:=rb_16.mono ((hh5.trans hh6).trans hh7)
 have rb_20:(tSd 54 90000 90000 6).R h7 cs_15 (blP p27 (wD p27 w0),(blF p27 (wD p27 w0),[])):=zJI rb_16 rs_19
 have rb_21:(tSd 54 90000 90000 6).R h7 cs_15 (bkS p27 (wD p27 w0)):=Rp.castR rb_20 (by rfl)
 refine lX (xB kF pH rb_21) fun v59 r59=>(cL (ev1 rfl) call25 (fun w hs=>zCY hs r59 dC (by first|omega|exact hbx.ms.1.1|exact hbx.ms.1.2|exact hbx.ms.2.1|exact hbx.ms.2.2) (by first|omega|exact hbx.ms.1.1|exact hbx.ms.1.2|exact hbx.ms.2.1|exact hbx.ms.2.2) (by first|omega|exact hbx.ms.1.1|exact hbx.ms.1.2|exact hbx.ms.2.1|exact hbx.ms.2.2)) fun v60 h8 hh8 r60=>?_)
 obtain⟨v60_0,rfl,r60_0⟩:=r60
 change (tPt (50000*54+300000)).Is h8 v60_0 (cnS (bkS p27 (wD p27 w0))) at r60_0
 replace r60_0:=Rp.Is.le r60_0 (Le.t (Le.q (l:=3000000) oM))
 refine go3 ?_
 refine nA (ρ:=(tPt 3000000)) (X:=zT) yV (xW (yF dC)) fun b11 cs11 rb11=>(zR (A:=[]) (uB sizeOf53 pH rb11 r60_0) fun cs_22 rb_23=>?_)
 refine go5 ?_
 refine gD 13 (qq 0 8 [(9,.q),(8,.c),(10,.c),(11,.q),(12,.q)]) (vG [0,1,2,4,12,20,36,64,192,64,832,1088,2112] (frz 8191 [0,1,2,4,12,20,32,64,192,64,832,1088,2112]) (by kernel_rfl)) ?_
 refine go1 ?_
 refine xJ rfl (fun _ _=>OpV.fa (by rw[hbx.e];exact fun e=>e rfl) (lL (q:=0) rfl rfl)) rfl ?_
 refine go1 ?_
 refine yM rfl rfl rfl (fun h' L' hh hR=>yW rfl) rfl (yM rfl rfl rfl (fun h' L' hh hR=>OpV.fa (by exact fun e=>e hbx.cno) (oJ rfl)) rfl ?_)
 refine go2 ?_
 refine oX rfl (xB kF pH rb_21) fun v70 r70=>(oX rfl (xB yA pH rb_18) fun v72 r72=>?_)
 refine w_c rfl (rK rfl rfl (sC (ev1 rfl) call26 (fun w hs=>zCV hs r70 dC (by first|omega|exact hbx.ms.1.1|exact hbx.ms.1.2|exact hbx.ms.2.1|exact hbx.ms.2.2) (by first|omega|exact hbx.ms.1.1|exact hbx.ms.1.2|exact hbx.ms.2.1|exact hbx.ms.2.2) (by first|omega|exact hbx.ms.1.1|exact hbx.ms.1.2|exact hbx.ms.2.1|exact hbx.ms.2.2)) fun v71 h9 hh9 r71=>?_))
 replace r71:=Rp.Is.le r71 (Le.q (l:=1180004) oM)
 refine w_c rfl (rK rfl rfl (sC (ev2 rfl rfl) call15 (fun w hs=>vQ hs r71 r72.up dC) fun v73 h10 hh10 r73=>?_))
 obtain rfl:v73=vB ((dS (bkS p27 (wD p27 w0))/((6:Int):Rat))=((w0.x*w0.y)*w0.z)):=r73
 refine yM rfl rfl rfl (fun h' L' hh hR=>OpV.fa (by exact fun e=>e hbx.vol) (oJ rfl)) rfl ?_
 refine go8 ?_
 refine lX (xB kF pH rb_21) fun v76 r76=>(cL (ev1 rfl) call36 (fun w hs=>zKU hs r76 dC (by first|omega|exact hbx.ms.1.1|exact hbx.ms.1.2|exact hbx.ms.2.1|exact hbx.ms.2.2) (by first|omega|exact hbx.ms.1.1|exact hbx.ms.1.2|exact hbx.ms.2.1|exact hbx.ms.2.2) (by first|omega|exact hbx.ms.1.1|exact hbx.ms.1.2|exact hbx.ms.2.1|exact hbx.ms.2.2)) fun v77 h11 hh11 r77=>?_)
 replace r77:=Rp.Is.le r77 (Le.a (Le.q (l:=1720004) oM))
 refine nA (ρ:=(rpA 6 (rpQ 2000000))) (X:=(List.replicate 6 (0:Rat))) zGN (mY 6 (yF dC)) fun b13 cs13 rb13=>(zR (A:=[]) (uB sizeOf73 pH rb13 (r77.le (Le.a (Le.q (l:=2000000) dC)))) fun cs_24 rb_25=>?_)
 refine go9 ?_
 refine gcL (ι:=Nat×Nat×Mem) (fun(i,kd_26,mb)=>(MLe h11 mb∧(kd_26≤xsl.length∧i≤3),[(3,vP b25 0),(4,vP b4 0),(5,vP b5 0),(7,vP b7 0),(8,vP b8 0),(10,vP b10 0),(11,vP b11 0),(13,vP b13 0),(14,vI ↑i)],[.var b13 73 cs_24,.var b11 53 cs_22,.var b10 26 cs_17,.var b8 50 cs_15,.var b7 53 cs_9,.var b5 53 cs_3,.var b4 53 cs_1,.var b25 97 [vl,vI ↑kd_26]],mb,3-i)) (0,kd_5,h11) ?_ ?_
 ·
  refine⟨MLe.refl _,?_⟩
  refine⟨oM,?_⟩
  exact oM
 intro x hx
 obtain⟨i,kd_26,mb⟩:=x
 dsimp only at hx
 obtain⟨hmmb,hinv⟩:=hx
 refine yS ?_
 obtain⟨hkd_27,hinv⟩:=hinv
 have hi1:=hinv
 refine go7 ?_
 refine cnd (fun hc79=>?_) fun hc79=>?_
 ·
  refine go8 ?_
  refine gv (vX (q:=3) rfl rfl oM oM) rfl ?_
  refine go4 ?_
  refine kE 26 _ [(25,(16,26,[.bool false,.slice none 0 0,.slice none 0 0]))] [(1,.q),(2,.q),(3,.q),(4,.q),(5,.q),(6,.q),(8,.q),(9,.q),(10,.q),(11,.q),(12,.q),(13,.q),(16,.q),(17,.q),(18,.q),(19,.q),(20,.q),(21,.q),(0,.c),(7,.c),(14,.c),(15,.c),(22,.c),(23,.c),(24,.c),(25,.a),(26,.t)] jN (jK.cons rfl rfl (uZ yN rfl rfl) jK.nil) (vG [0,0,2,4,0,16,32,73,0,256,512,0,2048,4096,9344,16512,0,65536,131072,0,524288,1048576,2392064,4227072,8388609,0,67108863] [134217727,134217727,134217725,134217723,134217727,134217711,134217695,134217655,134217727,134217471,134217215,134217727,134215679,134213631,134208511,134201215,134217727,134152191,134086655,134217727,133693439,133169151,131858431,129990655,125829118,134217727,83886079] (by kernel_rfl)) (qB rfl rfl kM) (fun r hr=>hr) ?_
  refine go1 ?_
  refine xJ rfl (fun _ _=>(zW (sz:=3) i underlying53 sizeOf26 rfl rfl rfl oM).cv (show _=vP b4 ((i*3+0)) from congrArg (vP b4) oM)) rfl (wX rfl (xB yA (Pc.ta pH i oM) rb_2) fun v88 r88=>?_)
  refine go1 ?_
  refine xJ rfl (fun _ _=>(zW (sz:=3) i underlying53 sizeOf26 rfl rfl rfl oM).cv (show _=vP b4 ((i*3+0)) from congrArg (vP b4) oM)) rfl (wX rfl (xB yA (Pc.ta pH i oM) rb_2) fun v91 r91=>?_)
  refine go1 ?_
  refine xJ rfl (fun _ _=>(zW (sz:=3) i underlying53 sizeOf26 rfl rfl rfl oM).cv (show _=vP b4 ((i*3+0)) from congrArg (vP b4) oM)) rfl (wX rfl (xB yA (Pc.ta pH i oM) rb_2) fun v95 r95=>?_)
  refine go1 ?_
  refine xJ rfl (fun _ _=>(zW (sz:=3) i underlying53 sizeOf26 rfl rfl rfl oM).cv (show _=vP b7 ((i*3+0)) from congrArg (vP b7) oM)) rfl (wX rfl (xB yA (Pc.ta pH i oM) rb_10) fun v98 r98=>?_)
  refine go1 ?_
  refine xJ rfl (fun _ _=>(zW (sz:=3) i underlying53 sizeOf26 rfl rfl rfl oM).cv (show _=vP b7 ((i*3+0)) from congrArg (vP b7) oM)) rfl (wX rfl (xB yA (Pc.ta pH i oM) rb_10) fun v103 r103=>?_)
  refine go1 ?_
  refine xJ rfl (fun _ _=>(zW (sz:=3) i underlying53 sizeOf26 rfl rfl rfl oM).cv (show _=vP b7 ((i*3+0)) from congrArg (vP b7) oM)) rfl (wX rfl (xB yA (Pc.ta pH i oM) rb_10) fun v106 r106=>?_)
  refine w_c rfl (sC (vs:=[vI (1),vI (3)]) e2z call10 (fun w hs=>pM hs dC dC dC dC) fun v85 h12 hh12 r85=>?_)
  refine w_c rfl (sC (ev2 rfl rfl) call9 (fun w hs=>wN hs r88.up r91.up dC) fun v92 h13 hh13 r92=>?_)
  replace r92:=Rp.Is.le r92 (Le.q (l:=4) oM)
  refine w_c rfl (sC (ev2 rfl rfl) call9 (fun w hs=>wN hs r95.up r98.up dC) fun v99 h14 hh14 r99=>?_)
  replace r99:=Rp.Is.le r99 (Le.q (l:=7) oM)
  refine w_c rfl (sC (ev2 rfl rfl) call37 (fun w hs=>kB hs r92.up r99 dC) fun v100 h15 hh15 r100=>?_)
  replace r100:=Rp.Is.le r100 (Le.q (l:=12) oM)
  refine w_c rfl (sC (ev2 rfl rfl) call9 (fun w hs=>wN hs r103.up r106.up dC) fun v107 h16 hh16 r107=>?_)
  replace r107:=Rp.Is.le r107 (Le.q (l:=10) oM)
  refine w_c rfl (sC (ev2 rfl rfl) call37 (fun w hs=>kB hs r100.up r107 dC) fun v108 h17 hh17 r108=>?_)
  replace r108:=Rp.Is.le r108 (Le.q (l:=23) oM)
  refine w_c rfl (sC (ev2 rfl rfl) call9 (fun w hs=>wN hs r85.up r108 dC) fun v109 h18 hh18 r109=>?_)
  replace r109:=Rp.Is.le r109 (Le.q (l:=25) oM)
  refine w_a rfl rfl (fun b16=>?_)
  have rb16:(rpQ 200).R h18 [.bool false,.slice none 0 0,.slice none 0 0] (0:Rat):=(yF dC)
  refine yI (A:=[]) rfl (uB sizeOf26 pH rb16 (r109.le (Le.q (l:=200) dC))) fun cs_28 rb_29=>?_
  refine go3 ?_
  refine gD 39 (qq 0 9 ((9,.c)::(10,.c)::(qq 11 7 ((18,.c)::(19,.c)::(qq 20 14 [(34,.c),(35,.c),(36,.c),(37,.q),(38,.q)]))))) (vG [0,1,2,0,8,16,0,64,128,288,516,1024,3072,4096,12288,20480,4096,4096,200704,299008,528384,1052672,2621440,4194304,12582912,20971520,37748736,4194304,4194304,272629760,541065216,4194304,2151677952,4299161600,9667870720,17318281216,34431041536,68723671040,137443147776] (frz 549755813887 [0,1,2,0,8,16,0,64,128,288,516,1024,2048,4096,12288,20480,4096,4096,200704,299008,528384,1052672,2097152,4194304,12582912,20971520,37748736,4194304,4194304,272629760,541065216,4194304,2151677952,4299161600,9667870720,17318281216,34431041536,68723671040,137443147776]) (by kernel_rfl)) ?_
  refine go1 ?_
  refine xJ rfl (fun _ _=>(zW (sz:=3) i underlying53 sizeOf26 rfl rfl rfl oM).cv (show _=vP b11 ((i*3+0)) from congrArg (vP b11) oM)) rfl ?_
  replace rb_23:=rb_23.mono ((((((((((hh9.trans hh10).trans hh11).trans hmmb).trans hh12).trans hh13).trans hh14).trans hh15).trans hh16).trans hh17).trans hh18)
  refine wX rfl (xB yA (Pc.ta pH i oM) rb_23) fun v112 r112=>?_
  refine go1 ?_
  refine xJ rfl (fun _ _=>(zW (sz:=3) i underlying53 sizeOf26 rfl rfl rfl oM).cv (show _=vP b4 ((i*3+0)) from congrArg (vP b4) oM)) rfl (wX rfl (xB yA (Pc.ta pH i oM) rb_2) fun v115 r115=>?_)
  refine go1 ?_
  refine xJ rfl (fun _ _=>(zW (sz:=3) i underlying53 sizeOf26 rfl rfl rfl oM).cv (show _=vP b7 ((i*3+0)) from congrArg (vP b7) oM)) rfl (wX rfl (xB yA (Pc.ta pH i oM) rb_10) fun v118 r118=>?_)
  refine w_c rfl (sC (ev2 rfl rfl) call38 (fun w hs=>iX hs r115 r118 dC) fun v119 h19 hh19 r119=>?_)
  replace r119:=Rp.Is.le r119 (Le.q (l:=9) oM)
  refine w_c rfl (sC (ev2 rfl rfl) call15 (fun w hs=>vQ hs r112.up r119 dC) fun v120 h20 hh20 r120=>?_)
  obtain rfl:v120=vB (((cnS (bkS p27 (wD p27 w0))).at i)=(dA (p27.at i) ((wD p27 w0).at i))):=r120
  refine xJ rfl (fun _ _=>OpV.fa (by exact fun e=>e (hbx.cen i oM)) (oJ rfl)) rfl ?_
  refine go1 ?_
  refine yM rfl rfl rfl (fun h' L' hh hR=>yW rfl) rfl (yM rfl rfl rfl (fun h' L' hh hR=>(zW (sz:=3) i underlying73 sizeOf26 rfl rfl rfl oM).cv (show _=vP b13 ((i*3+0)) from congrArg (vP b13) oM)) rfl (oX rfl (xB yA (Pc.arr pH (0:Rat) i oM) rb_25) fun v125 r125=>(oX rfl (xB yA pH rb_18) fun v126 r126=>(oX rfl (xB yA pH rb_29) fun v127 r127=>?_))))
  refine w_c rfl (rK rfl rfl (sC (ev2 rfl rfl) call9 (fun w hs=>wN hs r126 r127 dC) fun v128 h21 hh21 r128=>?_))
  replace r128:=Rp.Is.le r128 (Le.q (l:=220) oM)
  refine w_c rfl (rK rfl rfl (sC (ev2 rfl rfl) call15 (fun w hs=>vQ hs r125.up r128 dC) fun v129 h22 hh22 r129=>?_))
  obtain rfl:v129=vB (((zK4 (bkS p27 (wD p27 w0))).getD i (0:Rat))=(((w0.x*w0.y)*w0.z)*((jC (1:Int) (3:Int))*((((p27.at i)*(p27.at i))+((p27.at i)*((wD p27 w0).at i)))+(((wD p27 w0).at i)*((wD p27 w0).at i)))))):=r129
  refine yM rfl rfl rfl (fun h' L' hh hR=>OpV.fa (by exact fun e=>e (hbx.mo1 i oM)) (oJ rfl)) rfl ?_
  refine go2 ?_
  refine yM rfl rfl rfl (fun h' L' hh hR=>yW rfl) rfl (yM rfl rfl rfl (fun h' L' hh hR=>zY (p:=3) rfl rfl oM oM) rfl (yM rfl rfl rfl (fun h' L' hh hR=>(zW (sz:=3) (3+i) underlying73 sizeOf26 rfl rfl (by first|rfl|omega|(push_cast;rfl)) oM).cv (show _=vP b13 (((3+i)*3+0)) from congrArg (vP b13) oM)) rfl (oX rfl (xB yA (Pc.arr pH (0:Rat) (3+i) oM) rb_25) fun v136 r136=>(oX rfl (xB yA pH rb_18) fun v137 r137=>(yM rfl rfl rfl (fun h' L' hh hR=>yW rfl) rfl (yM rfl rfl rfl (fun h' L' hh hR=>(zW (sz:=3) i underlying53 sizeOf26 rfl rfl rfl oM).cv (show _=vP b11 ((i*3+0)) from congrArg (vP b11) oM)) rfl ?_))))))
  replace rb_23:=rb_23.mono (((hh19.trans hh20).trans hh21).trans hh22)
  refine oX rfl (xB yA (Pc.ta pH i oM) rb_23) fun v140 r140=>(yM rfl rfl rfl (fun h' L' hh hR=>yW rfl) rfl (yM rfl rfl rfl (fun h' L' hh hR=>(zW (sz:=3) ((i+1)%3) underlying53 sizeOf26 rfl rfl (by first|rfl|omega|(push_cast;rfl)) oM).cv (show _=vP b11 ((((i+1)%3)*3+0)) from congrArg (vP b11) oM)) rfl (oX rfl (xB yA (Pc.ta pH ((i+1)%3) oM) rb_23) fun v143 r143=>?_)))
  refine w_c rfl (rK rfl rfl (sC (ev2 rfl rfl) call9 (fun w hs=>wN hs r140 r143 dC) fun v144 h23 hh23 r144=>?_))
  replace r144:=Rp.Is.le r144 (Le.q (l:=6000000) oM)
  refine w_c rfl (rK rfl rfl (sC (ev2 rfl rfl) call9 (fun w hs=>wN hs r137.up r144 dC) fun v145 h24 hh24 r145=>?_))
  replace r145:=Rp.Is.le r145 (Le.q (l:=6000020) oM)
  refine w_c rfl (rK rfl rfl (sC (ev2 rfl rfl) call15 (fun w hs=>vQ hs r136.up r145 dC) fun v146 h25 hh25 r146=>?_))
  obtain rfl:v146=vB (((zK4 (bkS p27 (wD p27 w0))).getD (3+i) (0:Rat))=(((w0.x*w0.y)*w0.z)*(((cnS (bkS p27 (wD p27 w0))).at i)*((cnS (bkS p27 (wD p27 w0))).at ((i+1)%3))))):=r146
  refine yM rfl rfl rfl (fun h' L' hh hR=>OpV.fa (by exact fun e=>e (hbx.mo2 i oM)) (oJ rfl)) rfl ?_
  refine uN ?_
  refine vV (A:=[]) ?_
  refine gqL ((i+1),kd_26,h25) ?_ ?_
  ·
   refine⟨((((((((((((((hmmb.trans hh12).trans hh13).trans hh14).trans hh15).trans hh16).trans hh17).trans hh18).trans hh19).trans hh20).trans hh21).trans hh22).trans hh23).trans hh24).trans hh25),?_⟩
   refine⟨oM,?_⟩
   exact oM
  omega
 refine go6 ?_
 refine kE 20 _ [(19,(17,26,[.bool false,.slice none 0 0,.slice none 0 0]))] [(1,.q),(2,.q),(3,.q),(4,.q),(6,.q),(7,.q),(8,.q),(9,.q),(12,.q),(13,.q),(14,.q),(15,.q),(0,.c),(5,.c),(10,.c),(11,.c),(16,.c),(17,.c),(18,.c),(19,.a),(20,.t)] jN (jK.cons rfl rfl (uZ yN rfl rfl) jK.nil) (vG [0,0,2,0,8,21,0,64,0,256,672,1056,0,4096,0,16384,43008,67584,131073,0,1048575] [2097151,2097151,2097149,2097151,2097143,2097131,2097151,2097087,2097151,2096895,2096511,2096095,2097151,2093055,2097151,2080767,2056191,2029567,1966078,2097151,1310719] (by kernel_rfl)) (qB rfl rfl kM) (fun r hr=>hr) ?_
 refine go1 ?_
 refine wX rfl (xB yA (Pc.tx pH) rb_4) fun v151 r151=>?_
 refine go1 ?_
 refine wX rfl (xB yA (Pc.ty pH) rb_4) fun v153 r153=>?_
 refine go1 ?_
 refine wX rfl (xB yA (Pc.ty pH) rb_4) fun v156 r156=>?_
 refine go1 ?_
 refine wX rfl (xB yA (Pc.tz pH) rb_4) fun v158 r158=>?_
 refine go1 ?_
 refine wX rfl (xB yA (Pc.tz pH) rb_4) fun v162 r162=>?_
 refine go1 ?_
 refine wX rfl (xB yA (Pc.tx pH) rb_4) fun v164 r164=>?_
 refine w_c rfl (sC (vs:=[vI (2)]) ⟨rfl,trivial⟩ call39 (fun w hs=>jR hs dC dC) fun v149 h12 hh12 r149=>?_)
 refine w_c rfl (sC (ev2 rfl rfl) call9 (fun w hs=>wN hs r151.up r153.up dC) fun v154 h13 hh13 r154=>?_)
 replace r154:=Rp.Is.le r154 (Le.q (l:=4) oM)
 refine w_c rfl (sC (ev2 rfl rfl) call9 (fun w hs=>wN hs r156.up r158.up dC) fun v159 h14 hh14 r159=>?_)
 replace r159:=Rp.Is.le r159 (Le.q (l:=4) oM)
 refine w_c rfl (sC (ev2 rfl rfl) call37 (fun w hs=>kB hs r154.up r159 dC) fun v160 h15 hh15 r160=>?_)
 replace r160:=Rp.Is.le r160 (Le.q (l:=9) oM)
 refine w_c rfl (sC (ev2 rfl rfl) call9 (fun w hs=>wN hs r162.up r164.up dC) fun v165 h16 hh16 r165=>?_)
 replace r165:=Rp.Is.le r165 (Le.q (l:=4) oM)
 refine w_c rfl (sC (ev2 rfl rfl) call37 (fun w hs=>kB hs r160.up r165 dC) fun v166 h17 hh17 r166=>?_)
 replace r166:=Rp.Is.le r166 (Le.q (l:=14) oM)
 refine w_c rfl (sC (ev2 rfl rfl) call9 (fun w hs=>wN hs r149.up r166 dC) fun v167 h18 hh18 r167=>?_)
 replace r167:=Rp.Is.le r167 (Le.q (l:=16) oM)
 refine w_a rfl rfl (fun b17=>?_)
 have rb17:(rpQ 200).R h18 [.bool false,.slice none 0 0,.slice none 0 0] (0:Rat):=(yF dC)
 refine yI (A:=[]) rfl (uB sizeOf26 pH rb17 (r167.le (Le.q (l:=200) dC))) fun cs_30 rb_31=>?_
 refine go3 ?_
 refine jI (A:=[_,_,_,_,_,_,_,_]) 10 [(7,(18,34,[.bool false,.slice none 0 0,.slice none 0 0,.bool false,.slice none 0 0,.slice none 0 0]))] [(0,.q),(1,.q),(2,.c),(3,.c),(4,.q),(5,.q),(6,.q),(7,.a),(8,.c),(9,.q)] jN (jK.cons rfl rfl (uZ gC rfl rfl) jK.nil) (by kernel_rfl) (qB rfl rfl kM) (wX rfl (xB kF pH rb_21) fun v169 r169=>?_)
 refine go1 ?_
 refine w_c rfl ?_
 replace hl:=hl.mono ((((((((((((((((((hg27.trans hmma).trans hh3).trans hh4).trans hh5).trans hh6).trans hh7).trans hh8).trans hh9).trans hh10).trans hh11).trans hmmb).trans hh12).trans hh13).trans hh14).trans hh15).trans hh16).trans hh17).trans hh18)
 refine zJZ (A:=[_,_,_,_,_,_,_,_]) (vs:=[_,vI (6)]) call33 e2z (fun X w hs=>bC hl (by first|omega|exact Nat.zero_le _) oM oM hs) rfl (wM (by first|(simp;done)|grind)) ?_
 intro v171 g171 q171 hg171 hr171
 obtain⟨k171,z171,rfl,hk171,rfl,hz171,hy171⟩:=hr171
 refine w_c rfl (sC (ev2 rfl rfl) call40 (fun w hs=>u5 hs r169.up oM oM dC (by first|omega|exact hbx.ms.1.1|exact hbx.ms.1.2|exact hbx.ms.2.1|exact hbx.ms.2.2) (by first|omega|exact hbx.ms.1.1|exact hbx.ms.1.2|exact hbx.ms.2.1|exact hbx.ms.2.2) (by first|omega|exact hbx.ms.1.1|exact hbx.ms.1.2|exact hbx.ms.2.1|exact hbx.ms.2.2) (by first|omega|exact hbx.ms.1.1|exact hbx.ms.1.2|exact hbx.ms.2.1|exact hbx.ms.2.2) (by first|omega|exact hbx.ms.1.1|exact hbx.ms.1.2|exact hbx.ms.2.1|exact hbx.ms.2.2) (by first|omega|exact hbx.ms.1.1|exact hbx.ms.1.2|exact hbx.ms.2.1|exact hbx.ms.2.2)) fun v172 h19 hh19 r172=>?_)
 obtain⟨v172_0,rfl,r172_0⟩:=r172
 change (rpP (rpQ 400000) (rpQ 400000)).Is h19 v172_0 (arS (bkS p27 (wD p27 w0)) z171 (bkS p27 (wD p27 w0)).2.1.length) at r172_0
 refine go3 ?_
 refine w_a rfl rfl (fun b18=>?_)
 have rb18:(rpP (rpQ 400000) (rpQ 400000)).R h19 [.bool false,.slice none 0 0,.slice none 0 0,.bool false,.slice none 0 0,.slice none 0 0] ((0:Rat),(0:Rat)):=(yJ (yF dC) (yF dC))
 refine w_c rfl (bE (A:=[]) (uB sizeOf34 pH rb18 r172_0) (wM (by first|(simp;done)|grind)) fun cs_32 rb_33=>?_)
 refine go6 ?_
 refine uO (ι:=Mem) 7 (fun m_=>MLe h19 m_) (fun _=>[(182,vB (True)),(17,vP b17 0),(18,vP b18 0)]) (fun _=>[.var b18 34 cs_32,.var b17 26 cs_30,.var b13 73 cs_24,.var b11 53 cs_22,.var b10 26 cs_17,.var b8 50 cs_15,.var b7 53 cs_9,.var b5 53 cs_3,.var b4 53 cs_1,.var b25 97 [vl,vI ↑k171]]) (fun m_=>m_) ?_ ?_
 ·
  refine yB (True) (fun hg=>?_) (fun hg=>?_)
  ·
   refine gT hg rfl ?_
   refine go3 ?_
   refine lX (xB yA (Pc.fst pH) rb_33) fun v178 r178=>?_
   refine go1 ?_
   refine lX (xB yA pH rb_31) fun v179 r179=>?_
   refine go1 ?_
   refine cL (ev2 rfl rfl) call18 (fun w hs=>kA hs r178 r179 dC) fun v180 h20 hh20 r180=>?_
   obtain rfl:v180=vI (wG ((arS (bkS p27 (wD p27 w0)) z171 (bkS p27 (wD p27 w0)).2.1.length).1) ((((2:Int):Int):Rat)*(((w0.x*w0.y)+(w0.y*w0.z))+(w0.z*w0.x)))):=r180
   have hcr180:=jB ((arS (bkS p27 (wD p27 w0)) z171 (bkS p27 (wD p27 w0)).2.1.length).1) ((((2:Int):Int):Rat)*(((w0.x*w0.y)+(w0.y*w0.z))+(w0.z*w0.x)))
   refine go1 ?_
   refine gv (OpV.tr (by exact dL.2 (by rw[hbx.len];exact(hbx.area _ oM oM).1)) (oN (q:=0) rfl rfl)) rfl ?_
   refine go2 ?_
   refine zN h20 hh20 ⟨?_,rfl,rfl,trivial⟩ rfl rfl
   exact congrArg some (xL hg).symm
  refine gF hg rfl ?_
  refine go7 ?_
  refine zN h19 (MLe.refl _) ⟨?_,rfl,rfl,trivial⟩ rfl rfl
  exact congrArg some (yU hg).symm
 intro mg26_1 hmmg26_1
 refine tJ ?_
 refine uO (ι:=Mem) 7 (fun m_=>MLe mg26_1 m_) (fun _=>[(189,vB (True))]) (fun _=>[.var b18 34 cs_32,.var b17 26 cs_30,.var b13 73 cs_24,.var b11 53 cs_22,.var b10 26 cs_17,.var b8 50 cs_15,.var b7 53 cs_9,.var b5 53 cs_3,.var b4 53 cs_1,.var b25 97 [vl,vI ↑k171]]) (fun m_=>m_) ?_ ?_
 ·
  refine yB (True) (fun hg=>?_) (fun hg=>?_)
  ·
   refine gT hg rfl ?_
   refine go1 ?_
   refine lX (xB yA pH rb_31) fun v184 r184=>?_
   refine go3 ?_
   refine lX (xB yA (Pc.snd pH) rb_33) fun v186 r186=>?_
   refine go1 ?_
   refine cL (ev2 rfl rfl) call18 (fun w hs=>kA hs r184 r186 dC) fun v187 h20 hh20 r187=>?_
   obtain rfl:v187=vI (wG ((((2:Int):Int):Rat)*(((w0.x*w0.y)+(w0.y*w0.z))+(w0.z*w0.x))) ((arS (bkS p27 (wD p27 w0)) z171 (bkS p27 (wD p27 w0)).2.1.length).2)):=r187
   have hcr187:=jB ((((2:Int):Int):Rat)*(((w0.x*w0.y)+(w0.y*w0.z))+(w0.z*w0.x))) ((arS (bkS p27 (wD p27 w0)) z171 (bkS p27 (wD p27 w0)).2.1.length).2)
   refine go1 ?_
   refine gv (OpV.tr (by exact dL.2 (by rw[hbx.len];exact(hbx.area _ oM oM).2)) (oN (q:=0) rfl rfl)) rfl ?_
   refine go2 ?_
   refine zN h20 hh20 ⟨?_,trivial⟩ rfl rfl
   exact congrArg some (xL hg).symm
  refine gF hg rfl ?_
  refine go7 ?_
  refine zN mg26_1 (MLe.refl _) ⟨?_,trivial⟩ rfl rfl
  exact congrArg some (yU hg).symm
 intro mg26_8 hmmg26_8
 refine tJ ?_
 refine uO (ι:=Mem) 3 (fun m_=>MLe mg26_8 m_) (fun _=>[(192,vB (True))]) (fun _=>[.var b18 34 cs_32,.var b17 26 cs_30,.var b13 73 cs_24,.var b11 53 cs_22,.var b10 26 cs_17,.var b8 50 cs_15,.var b7 53 cs_9,.var b5 53 cs_3,.var b4 53 cs_1,.var b25 97 [vl,vI ↑k171]]) (fun m_=>m_) ?_ ?_
 ·
  refine yB (True) (fun hg=>?_) (fun hg=>?_)
  ·
   refine gT hg rfl ?_
   refine go1 ?_
   refine cL (vs:=[]) trivial call8 (fun w hs=>zDC hs hsf) fun v191 h20 hh20 hr191=>?_
   subst hr191
   refine go2 ?_
   refine zN h20 hh20 ⟨?_,trivial⟩ rfl rfl
   exact congrArg some (xL hg).symm
  refine gF hg rfl ?_
  refine go3 ?_
  refine zN mg26_8 (MLe.refl _) ⟨?_,trivial⟩ rfl rfl
  exact congrArg some (yU hg).symm
 intro mg26_15 hmmg26_15
 refine tJ ?_
 refine go4 ?_
 refine zD rfl rfl ?_
 first|rfl|exact xL trivial
theorem zFO{w0:World}{h0:Mem}(hs:MLe h0 (mem w0)){vl:Value}{xsl:List Int}(hl:Is h0 vl xsl):
    Calls Tryz.prog 6 #[vl] w0 (Ret w0 h0 (fun _ r=>r=.bool true)):=zBJ hs hl zP2
end Go.Proofs.YtboaboflnckgoaaGreat
