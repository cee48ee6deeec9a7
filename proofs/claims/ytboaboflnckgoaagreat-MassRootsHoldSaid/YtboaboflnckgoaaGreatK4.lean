/- Texts that the proof needs, part 4. -/
import Derived.Test.YtboaboflnckgoaaGreatK3
namespace Go.Proofs.YtboaboflnckgoaaGreat
open Bk Go Tryz
set_option linter.unusedVariables false
set_option linter.unusedSimpArgs false
set_option maxRecDepth 10000
set_option maxHeartbeats 1000000
attribute [local irreducible] GL GC GQ W OpV
theorem fR{w0:World}{h0:Mem}(hs:MLe h0 (mem w0)){s:Prop}{vn vd:Value}{xs ys:List Nat}(hn:Us .u32 h0 vn xs)(hd:Us .u32 h0 vd ys)(hl:xs.length≤500000000000)(hl':ys.length≤500000000000)(hd0:val ys≠0):
    Calls Tryz.prog 46 #[vB s,vn,vd] w0 (Ret w0 h0 (fun h r=>wD h r (mkRat (sg s (val xs)) (val ys)))):=by
 have hlx:=xY hn.lt
 have hly:=xY hd.lt
 refine cb3 55 (vB s) vn vd func46 hs ?_
 refine go2 ?_
 refine zG (xN (cs:=[vB ((0:Rat).num<0),.slice none 0 0,.slice none 0 0]) yF rfl (by simp only[zb];rfl)) rfl rfl rfl ?_
 intro v6 r6 hr6
 obtain⟨b6,rfl,rfl⟩:=hr6
 refine go5 ?_
 refine cL (ev1 rfl) call91 (fun w hs=>kW hs hn oM) fun v9 h1 hh1 hr9=>?_
 refine go1 ?_
 replace hd:=hd.mono hh1
 refine cL (ev1 rfl) call91 (fun w hs=>kW hs hd oM) fun v11 h2 hh2 hr11=>?_
 replace hr9:=hr9.mono hh2
 refine uT ?_
 refine cnd (fun hc14=>?_) fun hc14=>?_
 ·
  refine go2 ?_
  refine gv (yK (ps':=[]) (vs:=[vB ((0:Rat).num<0),.slice none 0 0,.slice none 0 0]) underlying26 yF rfl (wJ underlying26) trivial (by simp only[zb];exact vY)) rfl (xG (A:=[]) (r':=.var b6 26 [vB ((0:Rat).num<0),.slice none 0 0,.slice none 0 0]) (zF (k:=0) (cs:=[_,_,_]) (vs:=[_,_,_]) rfl rfl rfl rfl zP (bL rfl)) rfl rfl rfl ?_)
  refine go4 ?_
  refine yA (fun E S=>zS rfl (yZ (cs:=[_,_,_]) mh0 underlying26 rfl zP rfl) E S) ?_
  have e:val xs=0:=Classical.byContradiction fun e=>by have:=yI.2 e;omega
  rw[e,u6];exact wD.zero _
 have hn0:val xs≠0:=yI.1 oM
 have hg0:Nat.gcd (val xs) (val ys)≠0:=Nat.ne_of_gt (Nat.gcd_pos_of_pos_left _ oM)
 refine go6 ?_
 refine cL (ev2 rfl rfl) call92 (fun w hs=>zTS hs hr9 hr11 oM oM) fun v18 h3 hh3 hr18=>?_
 have hlm18:=iH ((val (xs))) ((val (ys)))
 refine go9 ?_
 refine gU 6 27 (vB (((↑(zB (Nat.gcd ((val (xs))) ((val (ys))))).length:Int)≠(1:Int))∨(((zB (Nat.gcd ((val (xs))) ((val (ys))))).getD (0) 0)≠(1:Nat)))) ?_ ?_
 ·
  refine zY ((↑(zB (Nat.gcd ((val (xs))) ((val (ys))))).length:Int)≠(1:Int)) (fun hg=>?_) (fun hg=>?_)
  ·
   refine gT hg rfl ?_
   refine go6 ?_
   refine gqU ?_
   exact congrArg some (wZ hg)
  refine gF hg rfl ?_
  refine go3 ?_
  refine gv (zQ (q:=0) (0) underlying22 sizeOf127 rfl rfl hr18 rfl oM) rfl ?_
  refine go3 ?_
  refine gv (fD (k:=.u32) (q:=1) rfl rfl) rfl ?_
  refine go2 ?_
  refine gqU ?_
  exact congrArg some (vC hg)
 refine go2 ?_
 refine cnd (fun hc27=>?_) fun hc27=>?_
 ·
  refine go4 ?_
  replace hr9:=hr9.mono hh3
  refine cL (ev2 rfl rfl) call93 (fun w hs=>zFM hs hr9 hr18 oM oM) fun v31 h4 hh4 hr31=>?_
  obtain⟨q31,r31,rfl,hq31,hr31⟩:=hr31
  have hlm31:=zM (Nat.div_le_self ((val (xs))) ((Nat.gcd ((val (xs))) ((val (ys))))))
  refine vX ?_
  replace hr11:=hr11.mono (hh3.trans hh4)
  replace hr18:=hr18.mono hh4
  refine cL (ev2 rfl rfl) call93 (fun w hs=>zFM hs hr11 hr18 oM oM) fun v38 h5 hh5 hr38=>?_
  obtain⟨q38,r38,rfl,hq38,hr38⟩:=hr38
  have hlm38:=zM (Nat.div_le_self ((val (ys))) ((Nat.gcd ((val (xs))) ((val (ys))))))
  refine sM ?_
  refine gU 6 50 (vB (((↑(zB (((val (ys)))/((Nat.gcd ((val (xs))) ((val (ys))))))).length:Int)=(1:Int))∧(((zB (((val (ys)))/((Nat.gcd ((val (xs))) ((val (ys))))))).getD (0) 0)=(1:Nat)))) ?_ ?_
  ·
   refine zY ((↑(zB (((val (ys)))/((Nat.gcd ((val (xs))) ((val (ys))))))).length:Int)=(1:Int)) (fun hg=>?_) (fun hg=>?_)
   ·
    refine gT hg rfl ?_
    refine go3 ?_
    refine gv (zQ (q:=0) (0) underlying22 sizeOf127 rfl rfl hq38 rfl oM) rfl ?_
    refine go3 ?_
    refine gv (kY (k:=.u32) (q:=1) rfl rfl) rfl ?_
    refine go2 ?_
    refine gqU ?_
    exact congrArg some (xH hg)
   refine gF hg rfl ?_
   refine go6 ?_
   refine gqU ?_
   exact congrArg some (xJ hg)
  refine go2 ?_
  refine cnd (fun hc50=>?_) fun hc50=>?_
  ·
   refine go9 ?_
   replace hq31:=hq31.mono hh5
   refine gv (yK (ps':=[(0,_),(1,_),(2,_)]) (vs:=[vB s,q31,.slice none 0 0]) underlying26 yF rfl (wJ underlying26) e6 (yV (A:=[]) (B:=[_]) (C:=[_,_]) (cs:=[_]) (off:=0) (size:=1) rfl rfl rfl rfl rfl (yV (A:=[_]) (B:=[_]) (C:=[_]) (cs:=[_]) (off:=1) (size:=1) rfl rfl rfl rfl hq31.cells (yV (A:=[_,_]) (B:=[_]) (C:=[]) (cs:=[_]) (off:=2) (size:=1) rfl rfl rfl rfl rfl vY)))) rfl (xG (A:=[]) (r':=.var b6 26 [vB s,q31,.slice none 0 0]) (zF (k:=0) (cs:=[_,_,_]) (vs:=[_,_,_]) rfl rfl rfl (ocr rfl (ocu hq31 (ocr rfl oc0))) zP (bL rfl)) rfl rfl rfl ?_)
   refine go3 ?_
   refine yA (fun E S=>zS rfl (yZ (cs:=[_,_,_]) mh0 underlying26 rfl zP rfl) E S) ?_
   exact wD.fin1 hn0 hd0 hq31 hc50
  refine go7 ?_
  replace hq31:=hq31.mono hh5
  refine gv (yK (ps':=[(0,_),(1,_),(2,_)]) (vs:=[vB s,q31,q38]) underlying26 yF rfl (wJ underlying26) e6 (yV (A:=[]) (B:=[_]) (C:=[_,_]) (cs:=[_]) (off:=0) (size:=1) rfl rfl rfl rfl rfl (yV (A:=[_]) (B:=[_]) (C:=[_]) (cs:=[_]) (off:=1) (size:=1) rfl rfl rfl rfl hq31.cells (yV (A:=[_,_]) (B:=[_]) (C:=[]) (cs:=[_]) (off:=2) (size:=1) rfl rfl rfl rfl hq38.cells vY)))) rfl (xG (A:=[]) (r':=.var b6 26 [vB s,q31,q38]) (zF (k:=0) (cs:=[_,_,_]) (vs:=[_,_,_]) rfl rfl rfl (ocr rfl (ocu hq31 (ocu hq38 oc0))) zP (bL rfl)) rfl rfl rfl ?_)
  refine go3 ?_
  refine yA (fun E S=>zS rfl (yZ (cs:=[_,_,_]) mh0 underlying26 rfl zP rfl) E S) ?_
  exact wD.fin hn0 hd0 hq31 hq38 hc50
 replace hr11:=hr11.mono hh3
 refine go8 ?_
 refine gU 6 50 (vB (((↑(zB (val (ys))).length:Int)=(1:Int))∧(((zB (val (ys))).getD (0) 0)=(1:Nat)))) ?_ ?_
 ·
  refine zY ((↑(zB (val (ys))).length:Int)=(1:Int)) (fun hg=>?_) (fun hg=>?_)
  ·
   refine gT hg rfl ?_
   refine go3 ?_
   refine gv (zQ (q:=0) (0) underlying22 sizeOf127 rfl rfl hr11 rfl oM) rfl ?_
   refine go3 ?_
   refine gv (kY (k:=.u32) (q:=1) rfl rfl) rfl ?_
   refine go2 ?_
   refine gqU ?_
   exact congrArg some (xH hg)
  refine gF hg rfl ?_
  refine go6 ?_
  refine gqU ?_
  exact congrArg some (xJ hg)
 refine go2 ?_
 refine cnd (fun hc50=>?_) fun hc50=>?_
 ·
  refine go9 ?_
  replace hr9:=hr9.mono hh3
  refine gv (yK (ps':=[(0,_),(1,_),(2,_)]) (vs:=[vB s,v9,.slice none 0 0]) underlying26 yF rfl (wJ underlying26) e6 (yV (A:=[]) (B:=[_]) (C:=[_,_]) (cs:=[_]) (off:=0) (size:=1) rfl rfl rfl rfl rfl (yV (A:=[_]) (B:=[_]) (C:=[_]) (cs:=[_]) (off:=1) (size:=1) rfl rfl rfl rfl hr9.cells (yV (A:=[_,_]) (B:=[_]) (C:=[]) (cs:=[_]) (off:=2) (size:=1) rfl rfl rfl rfl rfl vY)))) rfl (xG (A:=[]) (r':=.var b6 26 [vB s,v9,.slice none 0 0]) (zF (k:=0) (cs:=[_,_,_]) (vs:=[_,_,_]) rfl rfl rfl (ocr rfl (ocu hr9 (ocr rfl oc0))) zP (bL rfl)) rfl rfl rfl ?_)
  refine go3 ?_
  refine yA (fun E S=>zS rfl (yZ (cs:=[_,_,_]) mh0 underlying26 rfl zP rfl) E S) ?_
  have hg1:=zC4 hc27
  exact wD.fin1 hn0 hd0 (by rw[hg1,Nat.div_one];exact hr9) (by rw[hg1,Nat.div_one];exact hc50)
 refine go7 ?_
 replace hr9:=hr9.mono hh3
 refine gv (yK (ps':=[(0,_),(1,_),(2,_)]) (vs:=[vB s,v9,v11]) underlying26 yF rfl (wJ underlying26) e6 (yV (A:=[]) (B:=[_]) (C:=[_,_]) (cs:=[_]) (off:=0) (size:=1) rfl rfl rfl rfl rfl (yV (A:=[_]) (B:=[_]) (C:=[_]) (cs:=[_]) (off:=1) (size:=1) rfl rfl rfl rfl hr9.cells (yV (A:=[_,_]) (B:=[_]) (C:=[]) (cs:=[_]) (off:=2) (size:=1) rfl rfl rfl rfl hr11.cells vY)))) rfl (xG (A:=[]) (r':=.var b6 26 [vB s,v9,v11]) (zF (k:=0) (cs:=[_,_,_]) (vs:=[_,_,_]) rfl rfl rfl (ocr rfl (ocu hr9 (ocu hr11 oc0))) zP (bL rfl)) rfl rfl rfl ?_)
 refine go3 ?_
 refine yA (fun E S=>zS rfl (yZ (cs:=[_,_,_]) mh0 underlying26 rfl zP rfl) E S) ?_
 have hg1:=zC4 hc27
 exact wD.fin hn0 hd0 (by rw[hg1,Nat.div_one];exact hr9) (by rw[hg1,Nat.div_one];exact hr11) (by rw[hg1,Nat.div_one];exact hc50)
theorem zNG{w0:World}{h0:Mem}(hs:MLe h0 (mem w0)){sa:Prop}{ba vna vda:Value}{xa ya:List Nat}(hba:ba=vB sa)(hna:Us .u32 h0 vna xa)(hda:Us .u32 h0 vda ya)(hlx:xa.length≤100000000000)(hly:ya.length≤100000000000):
    Calls Tryz.prog 50 #[.agg #[ba,vna,vda]] w0 (Ret w0 h0 (fun h r=>∃u,r=.tuple #[u,vI (if dV ya=0 then 3 else 0)]∧wD h u (mkRat (sg sa (val xa)) (dV ya)))):=by
 subst hba
 have hlx1:=xY hna.lt
 have hly1:=xY hda.lt
 refine cb1 23 (.agg #[vB sa,vna,vda]) func50 hs ?_
 refine go2 ?_
 refine zG (xD (cs:=[_,_,_]) rfl rfl) rfl rfl rfl ?_
 intro v1 r1 hr1
 obtain⟨b1,rfl,rfl⟩:=hr1
 refine zG (xN (cs:=[vB ((0:Rat).num<0),.slice none 0 0,.slice none 0 0]) yF rfl (by simp only[zb];rfl)) rfl rfl rfl ?_
 intro v2 r2 hr2
 obtain⟨b2,rfl,rfl⟩:=hr2
 refine vX ?_
 refine uY (ι:=Mem) 7 (fun m_=>MLe h0 m_) (fun _=>[(14,vB (((0:Int)<(↑(ya).length:Int))∧((↑(zB (val (ya))).length:Int)=(0:Int)))),(1,vP b1 0),(2,vP b2 0)]) (fun _=>[.var b2 26 [vB ((0:Rat).num<0),.slice none 0 0,.slice none 0 0],.var b1 26 [vB sa,vna,vda]]) (fun m_=>m_) ?_ ?_
 ·
  refine zY ((0:Int)<(↑(ya).length:Int)) (fun hg=>?_) (fun hg=>?_)
  ·
   refine gT hg rfl ?_
   refine go5 ?_
   refine cL (ev1 rfl) call91 (fun w hs=>kW hs hda oM) fun v11 h1 hh1 hr11=>?_
   refine go6 ?_
   refine zN h1 hh1 ⟨?_,rfl,rfl,trivial⟩ rfl rfl
   exact congrArg some (xH hg)
  refine gF hg rfl ?_
  refine go7 ?_
  refine zN h0 (MLe.refl _) ⟨?_,rfl,rfl,trivial⟩ rfl rfl
  exact congrArg some (xJ hg)
 intro mg1_4 hmmg1_4
 refine tL ?_
 refine go2 ?_
 refine cnd (fun hc14=>?_) fun hc14=>?_
 ·
  refine go2 ?_
  refine gv (yK (ps':=[]) (vs:=[vB ((0:Rat).num<0),.slice none 0 0,.slice none 0 0]) underlying26 yF rfl (wJ underlying26) trivial (by simp only[zb];exact vY)) rfl (xG (A:=[]) (r':=.var b2 26 [vB ((0:Rat).num<0),.slice none 0 0,.slice none 0 0]) (zF (k:=0) (cs:=[_,_,_]) (vs:=[_,_,_]) rfl rfl rfl rfl zP (bL rfl)) rfl rfl rfl ?_)
  refine go5 ?_
  refine yA (fun E S=>wL rfl (yZ (cs:=[_,_,_]) mh0 underlying26 rfl zP rfl) (qN rfl) E S) ?_
  have e:=zR3 hc14
  rw[e,if_pos rfl,oR]
  exact⟨_,rfl,wD.zero _⟩
 have hdv:=zYS hc14
 have hvd:=zI6 ya
 refine go3 ?_
 refine gD 7 (qq 0 5 [(5,.c),(6,.c),(7,.t),(8,.t)]) (by kernel_rfl) ?_
 refine go5 ?_
 refine w_c rfl ?_
 replace hna:=hna.mono hmmg1_4
 replace hda:=hda.mono hmmg1_4
 refine sC (ev1 rfl) call48 (fun w hs=>fS hs rfl hna hda) fun v21 h1 hh1 hr21=>?_
 have hlm21:=zR4 (ya)
 refine w_c rfl ?_
 replace hna:=hna.mono hh1
 refine sC (ev3 rfl rfl rfl) call46 (fun w hs=>fR hs hna hr21 oM oM oM) fun v22 h2 hh2 hr22=>?_
 try simp only[zC] at hr22
 obtain⟨vn22,vd22,rfl,hn22,hd22⟩:=hr22
 refine kC (A:=[]) (q':=.var b2 26 [vB ((mkRat (sg (sa) (val (xa))) (val (if(ya)=[] then[1] else(ya)))).num<0),vn22,vd22]) rfl (zF (k:=0) (cs:=[_,_,_]) (vs:=[_,_,_]) rfl rfl rfl (ocr rfl (ocu hn22 (ocu hd22 oc0))) zP (bL rfl)) rfl (nG rfl (kZ (v:=vI (0)) rfl) rfl ?_)
 refine go3 ?_
 refine yA (fun E S=>wL rfl (yZ (cs:=[_,_,_]) mh0 underlying26 rfl zP rfl) (qN rfl) E S) ?_
 rw[if_neg hdv]
 rw[zI6] at hn22 hd22 ⊢
 exact⟨_,rfl,_,_,rfl,hn22,hd22⟩
theorem zH8{w0:World}{h0:Mem}(hs:MLe h0 (mem w0)){s:Prop}{vn vd:Value}{xs ys:List Nat}(hn:Us .u32 h0 vn xs)(hd:Us .u32 h0 vd ys)(hl:xs.length≤100000000000)(hl':ys.length≤100000000000):
    Calls Tryz.prog 11 #[vB s,vn,vd] w0 (Ret w0 h0 (fun h r=>wD h r (uN s xs ys))):=by
 refine cb3 18 (vB s) vn vd func11 hs ?_
 refine go2 ?_
 refine zG (xN (cs:=[vB ((0:Rat).num<0),.slice none 0 0,.slice none 0 0]) yF rfl (by simp only[zb];rfl)) rfl rfl rfl ?_
 intro v6 r6 hr6
 obtain⟨b6,rfl,rfl⟩:=hr6
 refine go7 ?_
 refine gv (yK (ps':=[(0,_),(1,_),(2,_)]) (vs:=[vB s,vn,vd]) underlying26 yF rfl (wJ underlying26) e6 (yV (A:=[]) (B:=[_]) (C:=[_,_]) (cs:=[_]) (off:=0) (size:=1) rfl rfl rfl rfl rfl (yV (A:=[_]) (B:=[_]) (C:=[_]) (cs:=[_]) (off:=1) (size:=1) rfl rfl rfl rfl hn.cells (yV (A:=[_,_]) (B:=[_]) (C:=[]) (cs:=[_]) (off:=2) (size:=1) rfl rfl rfl rfl hd.cells vY)))) rfl (cL (ev1 rfl) call50 (fun w hs=>zNG hs rfl hn hd oM oM) fun v14 h1 hh1 hr14=>?_)
 obtain⟨_,rfl,vn14,vd14,rfl,hn14,hd14⟩:=hr14
 have hlq14:=zF9 (s) (xs) (ys)
 refine go3 ?_
 refine zG (xN (cs:=[vB ((0:Rat).num<0),.slice none 0 0,.slice none 0 0]) yF rfl (by simp only[zb];rfl)) rfl rfl rfl ?_
 intro v7 r7 hr7
 obtain⟨b7,rfl,rfl⟩:=hr7
 refine xG (A:=[]) (r':=.var b7 26 [vB ((mkRat (sg (s) (val (xs))) (dV (ys))).num<0),vn14,vd14]) (zF (k:=0) (cs:=[_,_,_]) (vs:=[_,_,_]) rfl rfl rfl (ocr rfl (ocu hn14 (ocu hd14 oc0))) zP (bL rfl)) rfl rfl rfl ?_
 refine go6 ?_
 refine xG (A:=[_]) (r':=.var b6 26 [vB ((mkRat (sg (s) (val (xs))) (dV (ys))).num<0),vn14,vd14]) (zF (k:=0) (cs:=[_,_,_]) (vs:=[_,_,_]) rfl rfl rfl (ocr rfl (ocu hn14 (ocu hd14 oc0))) zP (bL rfl)) rfl rfl rfl ?_
 refine go3 ?_
 refine yA (fun E S=>zS rfl (yZ (cs:=[_,_,_]) mh1 underlying26 rfl zP rfl) E S) ?_
 unfold uN
 exact⟨_,_,rfl,hn14,hd14⟩
theorem t6{w0:World}{h0:Mem}(hs:MLe h0 (mem w0)){n:Int}(hn1:-9223372036854775808≤n)(hn2:n<9223372036854775808):
    Calls Tryz.prog 86 #[vI n] w0 (Ret w0 h0 (fun h r=>∃u,r=.tuple #[u,vB (n<0)]∧Us .u32 h u (zB n.natAbs))):=by
 refine cb1 15 (vI n) func86 hs ?_
 refine sM ?_
 refine cnd (fun hc5=>?_) fun hc5=>?_
 ·
  refine go4 ?_
  refine gv (bE rfl oM oM) rfl (gv (nN (p:=(-(n+1)).toNat) (k':=.u64) (W:=18446744073709551616) underlying2 underlying130 rfl rfl (congrArg some (congrArg vI oM)) oM) rfl (gv (fU (k:=.u64) (q:=1) (W:=18446744073709551616) rfl rfl rfl rfl oM) rfl (cL (ev1 rfl) call131 (fun w hs=>iU hs oM) fun v11 h1 hh1 hr11=>?_)))
  refine go6 ?_
  refine vW rfl rfl rfl ?_
  rw[xL hc5,show n.natAbs=(-(n+1)).toNat+1 by omega]
  exact⟨_,rfl,hr11⟩
 refine go5 ?_
 refine gv (nN (p:=n.toNat) (k':=.u64) (W:=18446744073709551616) underlying2 underlying130 rfl rfl (congrArg some (congrArg vI oM)) oM) rfl (cL (ev1 rfl) call131 (fun w hs=>iU hs oM) fun v14 h1 hh1 hr14=>?_)
 refine go5 ?_
 refine vW rfl rfl rfl ?_
 rw[yS hc5,show n.natAbs=n.toNat by omega]
 exact⟨_,rfl,hr14⟩
theorem eE{w0:World}{h0:Mem}(hs:MLe h0 (mem w0)){n:Int}(hn1:-9223372036854775808≤n)(hn2:n<9223372036854775808){d:Int}(hd1:-9223372036854775808≤d)(hd2:d<9223372036854775808):
    Calls Tryz.prog 49 #[vI n,vI d] w0 (Ret w0 h0 (fun h r=>∃u,r=.tuple #[u,vI (if d=0 then 3 else 0)]∧wD h u (wN n d))):=by
 refine cb2 29 (vI n) (vI d) func49 hs ?_
 refine go2 ?_
 refine zG (xN (cs:=[vB ((0:Rat).num<0),.slice none 0 0,.slice none 0 0]) yF rfl (by simp only[zb];rfl)) rfl rfl rfl ?_
 intro v4 r4 hr4
 obtain⟨b4,rfl,rfl⟩:=hr4
 refine vX ?_
 refine cnd (fun hc11=>?_) fun hc11=>?_
 ·
  refine go2 ?_
  refine gv (yK (ps':=[]) (vs:=[vB ((0:Rat).num<0),.slice none 0 0,.slice none 0 0]) underlying26 yF rfl (wJ underlying26) trivial (by simp only[zb];exact vY)) rfl (xG (A:=[]) (r':=.var b4 26 [vB ((0:Rat).num<0),.slice none 0 0,.slice none 0 0]) (zF (k:=0) (cs:=[_,_,_]) (vs:=[_,_,_]) rfl rfl rfl rfl zP (bL rfl)) rfl rfl rfl ?_)
  refine go5 ?_
  refine yA (fun E S=>wL rfl (yZ (cs:=[_,_,_]) mh0 underlying26 rfl zP rfl) (qN rfl) E S) ?_
  rw[if_pos hc11,hc11,zCV]
  exact⟨_,rfl,wD.zero _⟩
 have hda:d.natAbs≠0:=by omega
 refine go5 ?_
 refine cL (ev1 rfl) call86 (fun w hs=>t6 hs oM oM) fun v15 h1 hh1 hr15=>?_
 obtain⟨u15,rfl,hu15⟩:=hr15
 have hlm15:=kO (n:=n) oM oM
 refine vX ?_
 refine cL (ev1 rfl) call86 (fun w hs=>t6 hs oM oM) fun v20 h2 hh2 hr20=>?_
 obtain⟨u20,rfl,hu20⟩:=hr20
 have hlm20:=kO (n:=d) oM oM
 refine uO ?_
 refine gv (fE underlying4 rfl rfl) rfl ?_
 refine go2 ?_
 replace hu15:=hu15.mono hh2
 refine cL (ev3 rfl rfl rfl) call46 (fun w hs=>fR hs hu15 hu20 oM oM (by first|(simp only[zC];omega)|(simp only[zC];first|exact Rat.den_nz _|exact Nat.mul_ne_zero (Rat.den_nz _) (Rat.den_nz _)|exact Nat.one_ne_zero|assumption)|assumption)) fun v28 h3 hh3 hr28=>?_
 try simp only[zC] at hr28
 obtain⟨vn28,vd28,rfl,hn28,hd28⟩:=hr28
 refine xG (A:=[]) (r':=.var b4 26 [vB ((mkRat (sg (¬((n<0)↔(d<0))) (((n).natAbs))) (((d).natAbs))).num<0),vn28,vd28]) (zF (k:=0) (cs:=[_,_,_]) (vs:=[_,_,_]) rfl rfl rfl (ocr rfl (ocu hn28 (ocu hd28 oc0))) zP (bL rfl)) rfl rfl rfl ?_
 refine go4 ?_
 refine yA (fun E S=>wL rfl (yZ (cs:=[_,_,_]) mh0 underlying26 rfl zP rfl) (qN rfl) E S) ?_
 rw[if_neg hc11,←zH7 hc11]
 exact⟨_,rfl,_,_,rfl,hn28,hd28⟩
theorem zPY{w0:World}{h0:Mem}(hs:MLe h0 (mem w0)){n:Int}(hn1:-9223372036854775808≤n)(hn2:n<9223372036854775808):
    Calls Tryz.prog 39 #[vI n] w0 (Ret w0 h0 (fun h r=>wD h r (n:Rat))):=by
 refine cb1 13 (vI n) func39 hs ?_
 refine go2 ?_
 refine zG (xN (cs:=[vB ((0:Rat).num<0),.slice none 0 0,.slice none 0 0]) yF rfl (by simp only[zb];rfl)) rfl rfl rfl ?_
 intro v2 r2 hr2
 obtain⟨b2,rfl,rfl⟩:=hr2
 refine go5 ?_
 refine cL (ev1 rfl) call86 (fun w hs=>t6 hs oM oM) fun v7 h1 hh1 hr7=>?_
 obtain⟨u7,rfl,hu7⟩:=hr7
 have hlm7:=kO (n:=n) oM oM
 refine uO ?_
 refine gv (yK (ps':=[(0,_),(1,_)]) (vs:=[vB (n<0),u7,.slice none 0 0]) underlying26 yF rfl (wJ underlying26) e4z (yV (A:=[]) (B:=[_]) (C:=[_,_]) (cs:=[_]) (off:=0) (size:=1) rfl rfl rfl rfl rfl (yV (A:=[_]) (B:=[_]) (C:=[_]) (cs:=[_]) (off:=1) (size:=1) rfl rfl rfl rfl hu7.cells vY))) rfl (xG (A:=[]) (r':=.var b2 26 [vB (n<0),u7,.slice none 0 0]) (zF (k:=0) (cs:=[_,_,_]) (vs:=[_,_,_]) rfl rfl rfl (ocr rfl (ocu hu7 (ocr rfl oc0))) zP (bL rfl)) rfl rfl rfl ?_)
 refine go3 ?_
 refine yA (fun E S=>zS rfl (yZ (cs:=[_,_,_]) mh0 underlying26 rfl zP rfl) E S) ?_
 exact wD.int hu7
theorem zEA{w0:World}{h0:Mem}(hs:MLe h0 (mem w0)){n:Int}(hn1:-9223372036854775808≤n)(hn2:n<9223372036854775808){d:Int}(hd1:-9223372036854775808≤d)(hd2:d<9223372036854775808):
    Calls Tryz.prog 10 #[vI n,vI d] w0 (Ret w0 h0 (fun h r=>wD h r (wN n d))):=by
 refine cb2 14 (vI n) (vI d) func10 hs ?_
 refine go2 ?_
 refine zG (xN (cs:=[vB ((0:Rat).num<0),.slice none 0 0,.slice none 0 0]) yF rfl (by simp only[zb];rfl)) rfl rfl rfl ?_
 intro v4 r4 hr4
 obtain⟨b4,rfl,rfl⟩:=hr4
 refine go6 ?_
 refine cL (ev2 rfl rfl) call49 (fun w hs=>eE hs oM oM oM oM) fun v10 h1 hh1 hr10=>?_
 obtain⟨_,rfl,vn10,vd10,rfl,hn10,hd10⟩:=hr10
 have hlq10:=eQ (n:=n) (d:=d) oM oM oM oM
 refine go3 ?_
 refine zG (xN (cs:=[vB ((0:Rat).num<0),.slice none 0 0,.slice none 0 0]) yF rfl (by simp only[zb];rfl)) rfl rfl rfl ?_
 intro v5 r5 hr5
 obtain⟨b5,rfl,rfl⟩:=hr5
 refine xG (A:=[]) (r':=.var b5 26 [vB ((wN n d).num<0),vn10,vd10]) (zF (k:=0) (cs:=[_,_,_]) (vs:=[_,_,_]) rfl rfl rfl (ocr rfl (ocu hn10 (ocu hd10 oc0))) zP (bL rfl)) rfl rfl rfl ?_
 refine go6 ?_
 refine xG (A:=[_]) (r':=.var b4 26 [vB ((wN n d).num<0),vn10,vd10]) (zF (k:=0) (cs:=[_,_,_]) (vs:=[_,_,_]) rfl rfl rfl (ocr rfl (ocu hn10 (ocu hd10 oc0))) zP (bL rfl)) rfl rfl rfl ?_
 refine go3 ?_
 refine yA (fun E S=>zS rfl (yZ (cs:=[_,_,_]) mh1 underlying26 rfl zP rfl) E S) ?_
 exact⟨_,_,rfl,hn10,hd10⟩
theorem zNF{w0:World}{h0:Mem}(hs:MLe h0 (mem w0)){qa:Rat}{vna vda:Value}(hna:Us .u32 h0 vna (zB qa.num.natAbs))(hda:Us .u32 h0 vda (zB (xT qa.den))){qb:Rat}{vnb vdb:Value}(hnb:Us .u32 h0 vnb (zB qb.num.natAbs))(hdb:Us .u32 h0 vdb (zB (xT qb.den)))(hqa:lq qa≤100000000000)(hqb:lq qb≤100000000000):
    Calls Tryz.prog 15 #[.agg #[vB (qa.num<0),vna,vda],.agg #[vB (qb.num<0),vnb,vdb]] w0 (Ret w0 h0 (fun _ r=>r=vB (qa=qb))):=by
 have hlna:=wE qa
 have hlda:=wM qa
 have hlDa:=wC qa
 have hlnb:=wE qb
 have hldb:=wM qb
 have hlDb:=wC qb
 refine cb2 26 (.agg #[vB (qa.num<0),vna,vda]) (.agg #[vB (qb.num<0),vnb,vdb]) func15 hs ?_
 refine go2 ?_
 refine zG (xD (cs:=[_,_,_]) rfl rfl) rfl rfl rfl ?_
 intro v2 r2 hr2
 obtain⟨b2,rfl,rfl⟩:=hr2
 refine zG (xD (cs:=[_,_,_]) rfl rfl) rfl rfl rfl ?_
 intro v3 r3 hr3
 obtain⟨b3,rfl,rfl⟩:=hr3
 refine go9 ?_
 refine gv (oJ underlying4 rfl rfl) rfl ?_
 refine uY (ι:=Mem) 8 (fun m_=>MLe h0 m_) (fun _=>[(17,vB (((qa.num<0)↔(qb.num<0))∧((fZ (qa.num.natAbs) (qb.num.natAbs))=(0:Int)))),(2,vP b2 0),(3,vP b3 0)]) (fun _=>[.var b3 26 [vB (qb.num<0),vnb,vdb],.var b2 26 [vB (qa.num<0),vna,vda]]) (fun m_=>m_) ?_ ?_
 ·
  refine zY ((qa.num<0)↔(qb.num<0)) (fun hg=>?_) (fun hg=>?_)
  ·
   refine gT hg rfl ?_
   refine go9 ?_
   refine cL (ev2 rfl rfl) call56 (fun w hs=>nJ hs hna hnb) fun v15 h1 hh1 hr15=>?_
   subst hr15
   refine go4 ?_
   refine zN h1 hh1 ⟨?_,rfl,rfl,trivial⟩ rfl rfl
   exact congrArg some (xH hg)
  refine gF hg rfl ?_
  refine go8 ?_
  refine zN h0 (MLe.refl _) ⟨?_,rfl,rfl,trivial⟩ rfl rfl
  exact congrArg some (xJ hg)
 intro mg1_5 hmmg1_5
 refine tL ?_
 refine uY (ι:=Mem) 8 (fun m_=>MLe mg1_5 m_) (fun _=>[(25,vB ((((qa.num<0)↔(qb.num<0))∧((fZ (qa.num.natAbs) (qb.num.natAbs))=(0:Int)))∧((fZ ((xT qa.den)) ((xT qb.den)))=(0:Int))))]) (fun _=>[.var b3 26 [vB (qb.num<0),vnb,vdb],.var b2 26 [vB (qa.num<0),vna,vda]]) (fun m_=>m_) ?_ ?_
 ·
  refine zY (((qa.num<0)↔(qb.num<0))∧((fZ (qa.num.natAbs) (qb.num.natAbs))=(0:Int))) (fun hg=>?_) (fun hg=>?_)
  ·
   refine gT hg rfl ?_
   refine go9 ?_
   replace hda:=hda.mono hmmg1_5
   replace hdb:=hdb.mono hmmg1_5
   refine cL (ev2 rfl rfl) call56 (fun w hs=>nJ hs hda hdb) fun v23 h1 hh1 hr23=>?_
   subst hr23
   refine go4 ?_
   refine zN h1 hh1 ⟨?_,trivial⟩ rfl rfl
   exact congrArg some (xH hg)
  refine gF hg rfl ?_
  refine go8 ?_
  refine zN mg1_5 (MLe.refl _) ⟨?_,trivial⟩ rfl rfl
  exact congrArg some (xJ hg)
 intro mg1_13 hmmg1_13
 refine tL ?_
 refine go4 ?_
 refine zD rfl rfl ?_
 exact fJ zR7
theorem t7{w0:World}{h0:Mem}(hs:MLe h0 (mem w0)){qa:Rat}{vna vda:Value}(hna:Us .u32 h0 vna (zB qa.num.natAbs))(hda:Us .u32 h0 vda (zB (xT qa.den)))(hqa:lq qa≤100000000000):
    Calls Tryz.prog 17 #[.agg #[vB (qa.num<0),vna,vda]] w0 (Ret w0 h0 (fun _ r=>r=vI (yX qa))):=by
 have hlna:=wE qa
 have hlda:=wM qa
 have hlDa:=wC qa
 refine cb1 9 (.agg #[vB (qa.num<0),vna,vda]) func17 hs ?_
 refine go2 ?_
 refine zG (xD (cs:=[_,_,_]) rfl rfl) rfl rfl rfl ?_
 intro v1 r1 hr1
 obtain⟨b1,rfl,rfl⟩:=hr1
 refine uT ?_
 refine cnd (fun hc6=>?_) fun hc6=>?_
 ·
  refine go7 ?_
  refine zD rfl rfl ?_
  rw[aZ (pG hc6)]
 refine go9 ?_
 refine cnd (fun hc8=>?_) fun hc8=>?_
 ·
  refine go7 ?_
  refine zD rfl rfl ?_
  rw[z4 hc8]
 refine go8 ?_
 refine zD rfl rfl ?_
 rw[dZ (zCN hc6) hc8]
theorem zG7{w0:World}{h0:Mem}(hs:MLe h0 (mem w0)){qa:Rat}{vna vda:Value}(hna:Us .u32 h0 vna (zB qa.num.natAbs))(hda:Us .u32 h0 vda (zB (xT qa.den)))(hqa:lq qa≤100000000000):
    Calls Tryz.prog 31 #[.agg #[vB (qa.num<0),vna,vda]] w0 (Ret w0 h0 (fun h r=>wD h r (-qa))):=by
 have hlna:=wE qa
 have hlda:=wM qa
 have hlDa:=wC qa
 refine cb1 14 (.agg #[vB (qa.num<0),vna,vda]) func31 hs ?_
 refine go2 ?_
 refine zG (xD (cs:=[_,_,_]) rfl rfl) rfl rfl rfl ?_
 intro v1 r1 hr1
 obtain⟨b1,rfl,rfl⟩:=hr1
 refine zG (xN (cs:=[vB ((0:Rat).num<0),.slice none 0 0,.slice none 0 0]) yF rfl (by simp only[zb];rfl)) rfl rfl rfl ?_
 intro v2 r2 hr2
 obtain⟨b2,rfl,rfl⟩:=hr2
 refine go7 ?_
 refine gU 6 11 (vB ((¬(qa.num<0))∧((0:Int)<(↑(zB qa.num.natAbs).length:Int)))) ?_ ?_
 ·
  refine zY (¬(qa.num<0)) (fun hg=>?_) (fun hg=>?_)
  ·
   refine gT hg rfl ?_
   refine vX ?_
   refine gqU ?_
   exact congrArg some (xH hg)
  refine gF hg rfl ?_
  refine go6 ?_
  refine gqU ?_
  exact congrArg some (xJ hg)
 refine go1 ?_
 refine xG (A:=[_]) (r':=.var b1 26 [vB ((¬(qa.num<0))∧((0:Int)<(↑(zB qa.num.natAbs).length:Int))),vna,vda]) (zF (k:=0) (cs:=[_,_,_]) (vs:=[_]) rfl rfl rfl rfl zPG (bL rfl)) rfl rfl rfl ?_
 refine go5 ?_
 refine xG (A:=[]) (r':=.var b2 26 [vB ((¬(qa.num<0))∧((0:Int)<(↑(zB qa.num.natAbs).length:Int))),vna,vda]) (zF (k:=0) (cs:=[_,_,_]) (vs:=[_,_,_]) rfl rfl rfl (ocr rfl (ocu hna (ocu hda oc0))) zP (bL rfl)) rfl rfl rfl ?_
 refine go3 ?_
 refine yA (fun E S=>zS rfl (yZ (cs:=[_,_,_]) mh0 underlying26 rfl zP rfl) E S) ?_
 exact wD.negB hna hda
theorem zP0{w0:World}{h0:Mem}(hs:MLe h0 (mem w0)){qa:Rat}{vna vda:Value}(hna:Us .u32 h0 vna (zB qa.num.natAbs))(hda:Us .u32 h0 vda (zB (xT qa.den)))(hqa:lq qa≤100000000000):
    Calls Tryz.prog 29 #[.agg #[vB (qa.num<0),vna,vda]] w0 (Ret w0 h0 (fun h r=>wD h r (dH qa))):=by
 have hlna:=wE qa
 have hlda:=wM qa
 have hlDa:=wC qa
 refine cb1 5 (.agg #[vB (qa.num<0),vna,vda]) func29 hs ?_
 refine go2 ?_
 refine zG (xD (cs:=[_,_,_]) rfl rfl) rfl rfl rfl ?_
 intro v1 r1 hr1
 obtain⟨b1,rfl,rfl⟩:=hr1
 refine zG (xN (cs:=[vB ((0:Rat).num<0),.slice none 0 0,.slice none 0 0]) yF rfl (by simp only[zb];rfl)) rfl rfl rfl ?_
 intro v2 r2 hr2
 obtain⟨b2,rfl,rfl⟩:=hr2
 refine go5 ?_
 refine xG (A:=[_]) (r':=.var b1 26 [.bool false,vna,vda]) (zF (k:=0) (cs:=[_,_,_]) (vs:=[_]) rfl rfl rfl rfl zPG (bL rfl)) rfl rfl rfl ?_
 refine go5 ?_
 refine xG (A:=[]) (r':=.var b2 26 [.bool false,vna,vda]) (zF (k:=0) (cs:=[_,_,_]) (vs:=[_,_,_]) rfl rfl rfl (ocr rfl (ocu hna (ocu hda oc0))) zP (bL rfl)) rfl rfl rfl ?_
 refine go3 ?_
 refine yA (fun E S=>zS rfl (yZ (cs:=[_,_,_]) mh0 underlying26 rfl zP rfl) E S) ?_
 exact wD.abs hna hda
theorem zB2{w0:World}{h0:Mem}(hs:MLe h0 (mem w0)){qa:Rat}{vna vda:Value}(hna:Us .u32 h0 vna (zB qa.num.natAbs))(hda:Us .u32 h0 vda (zB (xT qa.den))){qb:Rat}{vnb vdb:Value}(hnb:Us .u32 h0 vnb (zB qb.num.natAbs))(hdb:Us .u32 h0 vdb (zB (xT qb.den)))(hqa:lq qa≤100000000000)(hqb:lq qb≤100000000000):
    Calls Tryz.prog 37 #[.agg #[vB (qa.num<0),vna,vda],.agg #[vB (qb.num<0),vnb,vdb]] w0 (Ret w0 h0 (fun h r=>wD h r (qa+qb))):=by
 have hlna:=wE qa
 have hlda:=wM qa
 have hlDa:=wC qa
 have hlnb:=wE qb
 have hldb:=wM qb
 have hlDb:=wC qb
 refine cb2 75 (.agg #[vB (qa.num<0),vna,vda]) (.agg #[vB (qb.num<0),vnb,vdb]) func37 hs ?_
 refine go2 ?_
 refine zG (xD (cs:=[_,_,_]) rfl rfl) rfl rfl rfl ?_
 intro v2 r2 hr2
 obtain⟨b2,rfl,rfl⟩:=hr2
 refine zG (xD (cs:=[_,_,_]) rfl rfl) rfl rfl rfl ?_
 intro v3 r3 hr3
 obtain⟨b3,rfl,rfl⟩:=hr3
 refine zG (xN (cs:=[vB ((0:Rat).num<0),.slice none 0 0,.slice none 0 0]) yF rfl (by simp only[zb];rfl)) rfl rfl rfl ?_
 intro v4 r4 hr4
 obtain⟨b4,rfl,rfl⟩:=hr4
 refine uO ?_
 refine cnd (fun hc15=>?_) fun hc15=>?_
 ·
  refine go3 ?_
  refine xG (A:=[]) (r':=.var b4 26 [vB (qb.num<0),vnb,vdb]) (zF (k:=0) (cs:=[_,_,_]) (vs:=[_,_,_]) rfl rfl rfl (ocr rfl (ocu hnb (ocu hdb oc0))) zP (bL rfl)) rfl rfl rfl ?_
  refine go4 ?_
  refine yA (fun E S=>zS rfl (yZ (cs:=[_,_,_]) mh0 underlying26 rfl zP rfl) E S) ?_
  rw[pG hc15,Rat.zero_add]
  exact⟨_,_,rfl,hnb,hdb⟩
 refine uO ?_
 refine cnd (fun hc20=>?_) fun hc20=>?_
 ·
  refine go3 ?_
  refine xG (A:=[]) (r':=.var b4 26 [vB (qa.num<0),vna,vda]) (zF (k:=0) (cs:=[_,_,_]) (vs:=[_,_,_]) rfl rfl rfl (ocr rfl (ocu hna (ocu hda oc0))) zP (bL rfl)) rfl rfl rfl ?_
  refine go4 ?_
  refine yA (fun E S=>zS rfl (yZ (cs:=[_,_,_]) mh0 underlying26 rfl zP rfl) E S) ?_
  rw[pG hc20,Rat.add_zero]
  exact⟨_,_,rfl,hna,hda⟩
 refine go3 ?_
 refine gD 12 (qq 0 3 (qq 5 3 [(3,.c),(4,.c),(8,.c),(9,.c),(10,.q),(11,.q)])) (by kernel_rfl) ?_
 refine go6 ?_
 refine w_c rfl (sC (ev1 rfl) call48 (fun w hs=>fS hs rfl hnb hdb) fun v25 h1 hh1 hr25=>?_)
 rw[uL] at hr25
 refine w_c rfl ?_
 replace hna:=hna.mono hh1
 refine sC (ev2 rfl rfl) call47 (fun w hs=>rU hs hna hr25 oM oM) fun v26 h2 hh2 hr26=>?_
 try simp only[zC] at hr26
 have hlm26:=yC ((qa.num.natAbs)) ((qb.den))
 refine w_c rfl ?_
 replace hna:=hna.mono hh2
 replace hda:=hda.mono (hh1.trans hh2)
 refine sC (ev1 rfl) call48 (fun w hs=>fS hs rfl hna hda) fun v30 h3 hh3 hr30=>?_
 rw[uL] at hr30
 refine w_c rfl ?_
 replace hnb:=hnb.mono ((hh1.trans hh2).trans hh3)
 refine sC (ev2 rfl rfl) call47 (fun w hs=>rU hs hnb hr30 oM oM) fun v31 h4 hh4 hr31=>?_
 try simp only[zC] at hr31
 have hlm31:=yC ((qb.num.natAbs)) ((qa.den))
 refine go5 ?_
 refine gD 6 [(0,.q),(2,.q),(1,.c),(3,.c),(4,.c),(5,.q)] (by kernel_rfl) ?_
 refine go2 ?_
 refine w_c rfl ?_
 replace hna:=hna.mono (hh3.trans hh4)
 replace hda:=hda.mono (hh3.trans hh4)
 refine sC (ev1 rfl) call48 (fun w hs=>fS hs rfl hna hda) fun v33 h5 hh5 hr33=>?_
 rw[uL] at hr33
 refine w_c rfl ?_
 replace hnb:=hnb.mono (hh4.trans hh5)
 replace hdb:=hdb.mono ((((hh1.trans hh2).trans hh3).trans hh4).trans hh5)
 refine sC (ev1 rfl) call48 (fun w hs=>fS hs rfl hnb hdb) fun v35 h6 hh6 hr35=>?_
 rw[uL] at hr35
 refine w_c rfl ?_
 replace hr33:=hr33.mono hh6
 refine sC (ev2 rfl rfl) call47 (fun w hs=>rU hs hr33 hr35 oM oM) fun v36 h7 hh7 hr36=>?_
 try simp only[zC] at hr36
 have hlm36:=yC ((qa.den)) ((qb.den))
 refine vX ?_
 refine gv (oJ underlying4 rfl rfl) rfl ?_
 refine go2 ?_
 refine cnd (fun hc41=>?_) fun hc41=>?_
 ·
  refine go1 ?_
  refine gD 7 (qq 0 4 [(5,.q),(4,.c),(6,.c),(7,.t)]) (by kernel_rfl) ?_
  refine go5 ?_
  refine w_c rfl ?_
  replace hr26:=hr26.mono ((((hh3.trans hh4).trans hh5).trans hh6).trans hh7)
  replace hr31:=hr31.mono ((hh5.trans hh6).trans hh7)
  refine sC (ev2 rfl rfl) call84 (fun w hs=>zTT hs hr26 hr31 oM oM) fun v46 h8 hh8 hr46=>?_
  have hlm46:=uD ((((qa.num.natAbs))*((qb.den)))) ((((qb.num.natAbs))*((qa.den))))
  refine w_c rfl ?_
  replace hr36:=hr36.mono hh8
  refine sC (ev3 rfl rfl rfl) call46 (fun w hs=>fR hs hr46 hr36 oM oM (by first|(simp only[zC];omega)|(simp only[zC];first|exact Rat.den_nz _|exact Nat.mul_ne_zero (Rat.den_nz _) (Rat.den_nz _)|exact Nat.one_ne_zero|assumption)|assumption)) fun v48 h9 hh9 hr48=>?_
  try simp only[zC] at hr48
  obtain⟨vn48,vd48,rfl,hn48,hd48⟩:=hr48
  refine kC (A:=[]) (q':=.var b4 26 [vB ((mkRat (sg (qa.num<0) (((((((qa.num.natAbs))*((qb.den))))+((((qb.num.natAbs))*((qa.den)))))))) (((((qa.den))*((qb.den)))))).num<0),vn48,vd48]) rfl (zF (k:=0) (cs:=[_,_,_]) (vs:=[_,_,_]) rfl rfl rfl (ocr rfl (ocu hn48 (ocu hd48 oc0))) zP (bL rfl)) rfl ?_
  refine go4 ?_
  refine yA (fun E S=>zS rfl (yZ (cs:=[_,_,_]) mh0 underlying26 rfl zP rfl) E S) ?_
  rw[zSV hc41] at hn48 hd48 ⊢
  exact⟨_,_,rfl,hn48,hd48⟩
 refine go7 ?_
 replace hr26:=hr26.mono ((((hh3.trans hh4).trans hh5).trans hh6).trans hh7)
 replace hr31:=hr31.mono ((hh5.trans hh6).trans hh7)
 refine cL (ev2 rfl rfl) call56 (fun w hs=>nJ hs hr26 hr31) fun v51 h8 hh8 hr51=>?_
 subst hr51
 refine go3 ?_
 refine cnd (fun hc52=>?_) fun hc52=>?_
 ·
  refine go4 ?_
  replace hr26:=hr26.mono hh8
  replace hr31:=hr31.mono hh8
  refine cL (ev2 rfl rfl) call85 (fun w hs=>zLQ hs hr31 hr26 oM) fun v56 h9 hh9 hr56=>?_
  obtain⟨u56,rfl,hu56⟩:=hr56
  have hlm56:=zM (Nat.sub_le ((((qb.num.natAbs))*((qa.den)))) ((((qa.num.natAbs))*((qb.den)))))
  refine sM ?_
  replace hr36:=hr36.mono (hh8.trans hh9)
  refine cL (ev3 rfl rfl rfl) call46 (fun w hs=>fR hs hu56 hr36 oM oM (by first|(simp only[zC];omega)|(simp only[zC];first|exact Rat.den_nz _|exact Nat.mul_ne_zero (Rat.den_nz _) (Rat.den_nz _)|exact Nat.one_ne_zero|assumption)|assumption)) fun v63 h10 hh10 hr63=>?_
  try simp only[zC] at hr63
  obtain⟨vn63,vd63,rfl,hn63,hd63⟩:=hr63
  refine xG (A:=[]) (r':=.var b4 26 [vB ((mkRat (sg (qb.num<0) (((((((qb.num.natAbs))*((qa.den))))-((((qa.num.natAbs))*((qb.den)))))))) (((((qa.den))*((qb.den)))))).num<0),vn63,vd63]) (zF (k:=0) (cs:=[_,_,_]) (vs:=[_,_,_]) rfl rfl rfl (ocr rfl (ocu hn63 (ocu hd63 oc0))) zP (bL rfl)) rfl rfl rfl ?_
  refine go4 ?_
  refine yA (fun E S=>zS rfl (yZ (cs:=[_,_,_]) mh0 underlying26 rfl zP rfl) E S) ?_
  rw[zY7 hc41 (by have:=gG.1 hc52;omega)] at hn63 hd63 ⊢
  exact⟨_,_,rfl,hn63,hd63⟩
 refine go6 ?_
 replace hr26:=hr26.mono hh8
 replace hr31:=hr31.mono hh8
 refine cL (ev2 rfl rfl) call85 (fun w hs=>zLQ hs hr26 hr31 oM) fun v67 h9 hh9 hr67=>?_
 obtain⟨u67,rfl,hu67⟩:=hr67
 have hlm67:=zM (Nat.sub_le ((((qa.num.natAbs))*((qb.den)))) ((((qb.num.natAbs))*((qa.den)))))
 refine sM ?_
 replace hr36:=hr36.mono (hh8.trans hh9)
 refine cL (ev3 rfl rfl rfl) call46 (fun w hs=>fR hs hu67 hr36 oM oM (by first|(simp only[zC];omega)|(simp only[zC];first|exact Rat.den_nz _|exact Nat.mul_ne_zero (Rat.den_nz _) (Rat.den_nz _)|exact Nat.one_ne_zero|assumption)|assumption)) fun v74 h10 hh10 hr74=>?_
 try simp only[zC] at hr74
 obtain⟨vn74,vd74,rfl,hn74,hd74⟩:=hr74
 refine xG (A:=[]) (r':=.var b4 26 [vB ((mkRat (sg (qa.num<0) (((((((qa.num.natAbs))*((qb.den))))-((((qb.num.natAbs))*((qa.den)))))))) (((((qa.den))*((qb.den)))))).num<0),vn74,vd74]) (zF (k:=0) (cs:=[_,_,_]) (vs:=[_,_,_]) rfl rfl rfl (ocr rfl (ocu hn74 (ocu hd74 oc0))) zP (bL rfl)) rfl rfl rfl ?_
 refine go3 ?_
 refine yA (fun E S=>zS rfl (yZ (cs:=[_,_,_]) mh0 underlying26 rfl zP rfl) E S) ?_
 rw[zY8 hc41 (Nat.le_of_not_lt (fun h=>hc52 (gG.2 h)))] at hn74 hd74 ⊢
 exact⟨_,_,rfl,hn74,hd74⟩
theorem zPV{w0:World}{h0:Mem}(hs:MLe h0 (mem w0)){qa:Rat}{vna vda:Value}(hna:Us .u32 h0 vna (zB qa.num.natAbs))(hda:Us .u32 h0 vda (zB (xT qa.den))){qb:Rat}{vnb vdb:Value}(hnb:Us .u32 h0 vnb (zB qb.num.natAbs))(hdb:Us .u32 h0 vdb (zB (xT qb.den)))(hqa:lq qa≤100000000000)(hqb:lq qb≤100000000000):
    Calls Tryz.prog 16 #[.agg #[vB (qa.num<0),vna,vda],.agg #[vB (qb.num<0),vnb,vdb]] w0 (Ret w0 h0 (fun h r=>wD h r (qa-qb))):=by
 have hlna:=wE qa
 have hlda:=wM qa
 have hlDa:=wC qa
 have hlnb:=wE qb
 have hldb:=wM qb
 have hlDb:=wC qb
 refine cb2 9 (.agg #[vB (qa.num<0),vna,vda]) (.agg #[vB (qb.num<0),vnb,vdb]) func16 hs ?_
 refine go2 ?_
 refine zG (xD (cs:=[_,_,_]) rfl rfl) rfl rfl rfl ?_
 intro v2 r2 hr2
 obtain⟨b2,rfl,rfl⟩:=hr2
 refine zG (xD (cs:=[_,_,_]) rfl rfl) rfl rfl rfl ?_
 intro v3 r3 hr3
 obtain⟨b3,rfl,rfl⟩:=hr3
 refine zG (xN (cs:=[vB ((0:Rat).num<0),.slice none 0 0,.slice none 0 0]) yF rfl (by simp only[zb];rfl)) rfl rfl rfl ?_
 intro v4 r4 hr4
 obtain⟨b4,rfl,rfl⟩:=hr4
 refine go3 ?_
 refine gD 4 [(0,.q),(1,.q),(2,.c),(3,.c),(4,.t)] (by kernel_rfl) ?_
 refine go2 ?_
 refine w_c rfl (sC (ev1 rfl) call31 (fun w hs=>zG7 hs hnb hdb oM) fun v7 h1 hh1 hr7=>?_)
 obtain⟨vn7,vd7,rfl,hn7,hd7⟩:=hr7
 have hlq7:=zKU qb
 refine w_c rfl ?_
 replace hna:=hna.mono hh1
 replace hda:=hda.mono hh1
 refine sC (ev2 rfl rfl) call37 (fun w hs=>zB2 hs hna hda hn7 hd7 oM oM) fun v8 h2 hh2 hr8=>?_
 obtain⟨vn8,vd8,rfl,hn8,hd8⟩:=hr8
 have hlq8:=kA qa (-qb)
 refine kC (A:=[]) (q':=.var b4 26 [vB ((qa+(-qb)).num<0),vn8,vd8]) rfl (zF (k:=0) (cs:=[_,_,_]) (vs:=[_,_,_]) rfl rfl rfl (ocr rfl (ocu hn8 (ocu hd8 oc0))) zP (bL rfl)) rfl ?_
 refine go3 ?_
 refine yA (fun E S=>zS rfl (yZ (cs:=[_,_,_]) mh0 underlying26 rfl zP rfl) E S) ?_
 rw[←Rat.sub_eq_add_neg] at hn8 hd8 ⊢
 exact⟨_,_,rfl,hn8,hd8⟩
theorem zG8{w0:World}{h0:Mem}(hs:MLe h0 (mem w0)){qa:Rat}{vna vda:Value}(hna:Us .u32 h0 vna (zB qa.num.natAbs))(hda:Us .u32 h0 vda (zB (xT qa.den))){qb:Rat}{vnb vdb:Value}(hnb:Us .u32 h0 vnb (zB qb.num.natAbs))(hdb:Us .u32 h0 vdb (zB (xT qb.den)))(hqa:lq qa≤100000000000)(hqb:lq qb≤100000000000):
    Calls Tryz.prog 9 #[.agg #[vB (qa.num<0),vna,vda],.agg #[vB (qb.num<0),vnb,vdb]] w0 (Ret w0 h0 (fun h r=>wD h r (qa*qb))):=by
 have hlna:=wE qa
 have hlda:=wM qa
 have hlDa:=wC qa
 have hlnb:=wE qb
 have hldb:=wM qb
 have hlDb:=wC qb
 refine cb2 21 (.agg #[vB (qa.num<0),vna,vda]) (.agg #[vB (qb.num<0),vnb,vdb]) func9 hs ?_
 refine go2 ?_
 refine zG (xD (cs:=[_,_,_]) rfl rfl) rfl rfl rfl ?_
 intro v2 r2 hr2
 obtain⟨b2,rfl,rfl⟩:=hr2
 refine zG (xD (cs:=[_,_,_]) rfl rfl) rfl rfl rfl ?_
 intro v3 r3 hr3
 obtain⟨b3,rfl,rfl⟩:=hr3
 refine zG (xN (cs:=[vB ((0:Rat).num<0),.slice none 0 0,.slice none 0 0]) yF rfl (by simp only[zb];rfl)) rfl rfl rfl ?_
 intro v4 r4 hr4
 obtain⟨b4,rfl,rfl⟩:=hr4
 refine go3 ?_
 refine gD 16 (qq 0 9 [(10,.q),(12,.q),(9,.c),(11,.c),(13,.c),(14,.c),(15,.c),(16,.t)]) (by kernel_rfl) ?_
 refine go4 ?_
 refine wF rfl (fun _ _=>fE underlying4 rfl rfl) rfl ?_
 refine go6 ?_
 refine w_c rfl (sC (ev2 rfl rfl) call47 (fun w hs=>rU hs hna hnb oM oM) fun v14 h1 hh1 hr14=>?_)
 try simp only[zC] at hr14
 have hlm14:=yC ((qa.num.natAbs)) ((qb.num.natAbs))
 refine w_c rfl ?_
 replace hna:=hna.mono hh1
 replace hda:=hda.mono hh1
 refine sC (ev1 rfl) call48 (fun w hs=>fS hs rfl hna hda) fun v16 h2 hh2 hr16=>?_
 rw[uL] at hr16
 refine w_c rfl ?_
 replace hnb:=hnb.mono (hh1.trans hh2)
 replace hdb:=hdb.mono (hh1.trans hh2)
 refine sC (ev1 rfl) call48 (fun w hs=>fS hs rfl hnb hdb) fun v18 h3 hh3 hr18=>?_
 rw[uL] at hr18
 refine w_c rfl ?_
 replace hr16:=hr16.mono hh3
 refine sC (ev2 rfl rfl) call47 (fun w hs=>rU hs hr16 hr18 oM oM) fun v19 h4 hh4 hr19=>?_
 try simp only[zC] at hr19
 have hlm19:=yC ((qa.den)) ((qb.den))
 refine w_c rfl ?_
 replace hr14:=hr14.mono ((hh2.trans hh3).trans hh4)
 refine sC (ev3 rfl rfl rfl) call46 (fun w hs=>fR hs hr14 hr19 oM oM (by first|(simp only[zC];omega)|(simp only[zC];first|exact Rat.den_nz _|exact Nat.mul_ne_zero (Rat.den_nz _) (Rat.den_nz _)|exact Nat.one_ne_zero|assumption)|assumption)) fun v20 h5 hh5 hr20=>?_
 try simp only[zC] at hr20
 obtain⟨vn20,vd20,rfl,hn20,hd20⟩:=hr20
 refine kC (A:=[]) (q':=.var b4 26 [vB ((mkRat (sg (¬((qa.num<0)↔(qb.num<0))) (((((qa.num.natAbs))*((qb.num.natAbs)))))) (((((qa.den))*((qb.den)))))).num<0),vn20,vd20]) rfl (zF (k:=0) (cs:=[_,_,_]) (vs:=[_,_,_]) rfl rfl rfl (ocr rfl (ocu hn20 (ocu hd20 oc0))) zP (bL rfl)) rfl ?_
 refine go3 ?_
 refine yA (fun E S=>zS rfl (yZ (cs:=[_,_,_]) mh0 underlying26 rfl zP rfl) E S) ?_
 rw[zQ5] at hn20 hd20 ⊢
 exact⟨_,_,rfl,hn20,hd20⟩
theorem zPW{w0:World}{h0:Mem}(hs:MLe h0 (mem w0)){qa:Rat}{vna vda:Value}(hna:Us .u32 h0 vna (zB qa.num.natAbs))(hda:Us .u32 h0 vda (zB (xT qa.den))){qb:Rat}{vnb vdb:Value}(hnb:Us .u32 h0 vnb (zB qb.num.natAbs))(hdb:Us .u32 h0 vdb (zB (xT qb.den)))(hqa:lq qa≤100000000000)(hqb:lq qb≤100000000000):
    Calls Tryz.prog 112 #[.agg #[vB (qa.num<0),vna,vda],.agg #[vB (qb.num<0),vnb,vdb]] w0 (Ret w0 h0 (fun h r=>∃u,r=.tuple #[u,vI (if qb=0 then 3 else 0)]∧wD h u (if qb=0 then 0 else qa/qb))):=by
 have hlna:=wE qa
 have hlda:=wM qa
 have hlDa:=wC qa
 have hlnb:=wE qb
 have hldb:=wM qb
 have hlDb:=wC qb
 refine cb2 27 (.agg #[vB (qa.num<0),vna,vda]) (.agg #[vB (qb.num<0),vnb,vdb]) func112 hs ?_
 refine go2 ?_
 refine zG (xD (cs:=[_,_,_]) rfl rfl) rfl rfl rfl ?_
 intro v2 r2 hr2
 obtain⟨b2,rfl,rfl⟩:=hr2
 refine zG (xD (cs:=[_,_,_]) rfl rfl) rfl rfl rfl ?_
 intro v3 r3 hr3
 obtain⟨b3,rfl,rfl⟩:=hr3
 refine zG (xN (cs:=[vB ((0:Rat).num<0),.slice none 0 0,.slice none 0 0]) yF rfl (by simp only[zb];rfl)) rfl rfl rfl ?_
 intro v4 r4 hr4
 obtain⟨b4,rfl,rfl⟩:=hr4
 refine uT ?_
 refine cnd (fun hc9=>?_) fun hc9=>?_
 ·
  refine go2 ?_
  refine gv (yK (ps':=[]) (vs:=[vB ((0:Rat).num<0),.slice none 0 0,.slice none 0 0]) underlying26 yF rfl (wJ underlying26) trivial (by simp only[zb];exact vY)) rfl (xG (A:=[]) (r':=.var b4 26 [vB ((0:Rat).num<0),.slice none 0 0,.slice none 0 0]) (zF (k:=0) (cs:=[_,_,_]) (vs:=[_,_,_]) rfl rfl rfl rfl zP (bL rfl)) rfl rfl rfl ?_)
  refine go5 ?_
  refine yA (fun E S=>wL rfl (yZ (cs:=[_,_,_]) mh0 underlying26 rfl zP rfl) (qN rfl) E S) ?_
  rw[if_pos (pG hc9),if_pos (pG hc9)]
  exact⟨_,rfl,wD.zero _⟩
 have hb0:=zCN hc9
 have hbn:=zCO.2 hb0
 have hd0:qa.den*qb.num.natAbs≠0:=Nat.mul_ne_zero qa.den_nz hbn
 refine go3 ?_
 refine gD 16 (qq 0 8 [(10,.q),(12,.q),(13,.q),(8,.c),(9,.c),(11,.c),(14,.c),(15,.c),(16,.t),(17,.t)]) (by kernel_rfl) ?_
 refine go4 ?_
 refine wF rfl (fun _ _=>fE underlying4 rfl rfl) rfl ?_
 refine go6 ?_
 refine w_c rfl (sC (ev1 rfl) call48 (fun w hs=>fS hs rfl hnb hdb) fun v19 h1 hh1 hr19=>?_)
 rw[uL] at hr19
 refine w_c rfl ?_
 replace hna:=hna.mono hh1
 refine sC (ev2 rfl rfl) call47 (fun w hs=>rU hs hna hr19 oM oM) fun v20 h2 hh2 hr20=>?_
 try simp only[zC] at hr20
 have hlm20:=yC ((qa.num.natAbs)) ((qb.den))
 refine w_c rfl ?_
 replace hna:=hna.mono hh2
 replace hda:=hda.mono (hh1.trans hh2)
 refine sC (ev1 rfl) call48 (fun w hs=>fS hs rfl hna hda) fun v22 h3 hh3 hr22=>?_
 rw[uL] at hr22
 refine w_c rfl ?_
 replace hnb:=hnb.mono ((hh1.trans hh2).trans hh3)
 refine sC (ev2 rfl rfl) call47 (fun w hs=>rU hs hr22 hnb oM oM) fun v25 h4 hh4 hr25=>?_
 try simp only[zC] at hr25
 have hlm25:=yC ((qa.den)) ((qb.num.natAbs))
 refine w_c rfl ?_
 replace hr20:=hr20.mono (hh3.trans hh4)
 refine sC (ev3 rfl rfl rfl) call46 (fun w hs=>fR hs hr20 hr25 oM oM (by first|(simp only[zC];omega)|(simp only[zC];first|exact Rat.den_nz _|exact Nat.mul_ne_zero (Rat.den_nz _) (Rat.den_nz _)|exact Nat.one_ne_zero|assumption)|assumption)) fun v26 h5 hh5 hr26=>?_
 try simp only[zC] at hr26
 obtain⟨vn26,vd26,rfl,hn26,hd26⟩:=hr26
 refine kC (A:=[]) (q':=.var b4 26 [vB ((mkRat (sg (¬((qa.num<0)↔(qb.num<0))) (((((qa.num.natAbs))*((qb.den)))))) (((((qa.den))*((qb.num.natAbs)))))).num<0),vn26,vd26]) rfl (zF (k:=0) (cs:=[_,_,_]) (vs:=[_,_,_]) rfl rfl rfl (ocr rfl (ocu hn26 (ocu hd26 oc0))) zP (bL rfl)) rfl (nG rfl (kZ (v:=vI (0)) rfl) rfl ?_)
 refine go3 ?_
 refine yA (fun E S=>wL rfl (yZ (cs:=[_,_,_]) mh0 underlying26 rfl zP rfl) (qN rfl) E S) ?_
 rw[if_neg hb0,if_neg hb0]
 rw[zQC _ hb0] at hn26 hd26 ⊢
 exact⟨_,rfl,_,_,rfl,hn26,hd26⟩
theorem zPZ{w0:World}{h0:Mem}(hs:MLe h0 (mem w0)){qa:Rat}{vna vda:Value}(hna:Us .u32 h0 vna (zB qa.num.natAbs))(hda:Us .u32 h0 vda (zB (xT qa.den))){qb:Rat}{vnb vdb:Value}(hnb:Us .u32 h0 vnb (zB qb.num.natAbs))(hdb:Us .u32 h0 vdb (zB (xT qb.den)))(hqa:lq qa≤100000000000)(hqb:lq qb≤100000000000):
    Calls Tryz.prog 18 #[.agg #[vB (qa.num<0),vna,vda],.agg #[vB (qb.num<0),vnb,vdb]] w0 (Ret w0 h0 (fun _ r=>r=vI (wB qa qb))):=by
 have hlna:=wE qa
 have hlda:=wM qa
 have hlDa:=wC qa
 have hlnb:=wE qb
 have hldb:=wM qb
 have hlDb:=wC qb
 have hcr:-1≤fZ (qa.num.natAbs*qb.den) (qb.num.natAbs*qa.den)∧fZ (qa.num.natAbs*qb.den) (qb.num.natAbs*qa.den)≤1:=zIZ qa qb
 refine cb2 34 (.agg #[vB (qa.num<0),vna,vda]) (.agg #[vB (qb.num<0),vnb,vdb]) func18 hs ?_
 refine go2 ?_
 refine zG (xD (cs:=[_,_,_]) rfl rfl) rfl rfl rfl ?_
 intro v2 r2 hr2
 obtain⟨b2,rfl,rfl⟩:=hr2
 refine zG (xD (cs:=[_,_,_]) rfl rfl) rfl rfl rfl ?_
 intro v3 r3 hr3
 obtain⟨b3,rfl,rfl⟩:=hr3
 refine go5 ?_
 refine gD 6 [(0,.q),(2,.q),(1,.c),(3,.c),(4,.q),(5,.q)] (by kernel_rfl) ?_
 refine go2 ?_
 refine w_c rfl (sC (ev1 rfl) call17 (fun w hs=>t7 hs hna hda oM) fun v9 h1 hh1 hr9=>?_)
 have hsr9:=xM qa
 subst hr9
 refine w_c rfl ?_
 replace hnb:=hnb.mono hh1
 replace hdb:=hdb.mono hh1
 refine sC (ev1 rfl) call17 (fun w hs=>t7 hs hnb hdb oM) fun v11 h2 hh2 hr11=>?_
 have hsr11:=xM qb
 subst hr11
 refine uO ?_
 refine cnd (fun hc14=>?_) fun hc14=>?_
 ·
  refine go8 ?_
  refine cnd (fun hc17=>?_) fun hc17=>?_
  ·
   refine go8 ?_
   refine zD rfl rfl ?_
   rw[k8 hc14,if_pos hc17]
  refine go9 ?_
  refine zD rfl rfl ?_
  rw[k8 hc14,if_neg hc17]
 have hss:=zGY hc14
 refine go3 ?_
 refine gD 12 (qq 0 3 (qq 5 3 [(3,.c),(4,.c),(8,.c),(9,.c),(10,.c),(11,.q)])) (by kernel_rfl) ?_
 refine go6 ?_
 refine w_c rfl ?_
 replace hnb:=hnb.mono hh2
 replace hdb:=hdb.mono hh2
 refine sC (ev1 rfl) call48 (fun w hs=>fS hs rfl hnb hdb) fun v21 h3 hh3 hr21=>?_
 rw[uL] at hr21
 refine w_c rfl ?_
 replace hna:=hna.mono ((hh1.trans hh2).trans hh3)
 refine sC (ev2 rfl rfl) call47 (fun w hs=>rU hs hna hr21 oM oM) fun v22 h4 hh4 hr22=>?_
 try simp only[zC] at hr22
 have hlm22:=yC ((qa.num.natAbs)) ((qb.den))
 refine w_c rfl ?_
 replace hna:=hna.mono hh4
 replace hda:=hda.mono (((hh1.trans hh2).trans hh3).trans hh4)
 refine sC (ev1 rfl) call48 (fun w hs=>fS hs rfl hna hda) fun v26 h5 hh5 hr26=>?_
 rw[uL] at hr26
 refine w_c rfl ?_
 replace hnb:=hnb.mono ((hh3.trans hh4).trans hh5)
 refine sC (ev2 rfl rfl) call47 (fun w hs=>rU hs hnb hr26 oM oM) fun v27 h6 hh6 hr27=>?_
 try simp only[zC] at hr27
 have hlm27:=yC ((qb.num.natAbs)) ((qa.den))
 refine w_c rfl ?_
 replace hr22:=hr22.mono (hh5.trans hh6)
 refine sC (ev2 rfl rfl) call56 (fun w hs=>nJ hs hr22 hr27) fun v28 h7 hh7 hr28=>?_
 subst hr28
 refine vX ?_
 refine cnd (fun hc30=>?_) fun hc30=>?_
 ·
  refine go3 ?_
  refine gv (bE rfl oM oM) rfl ?_
  refine go5 ?_
  refine zD rfl rfl ?_
  rw[zMQ hss hc30];rfl
 refine go9 ?_
 refine zD rfl rfl ?_
 rw[zIU hss hc30];rfl
theorem zPX{w0:World}{h0:Mem}(hs:MLe h0 (mem w0)){qa:Rat}{vna vda:Value}(hna:Us .u32 h0 vna (zB qa.num.natAbs))(hda:Us .u32 h0 vda (zB (xT qa.den))){qb:Rat}{vnb vdb:Value}(hnb:Us .u32 h0 vnb (zB qb.num.natAbs))(hdb:Us .u32 h0 vdb (zB (xT qb.den)))(hqa:lq qa≤10000000000)(hqb:lq qb≤10000000000):
    Calls Tryz.prog 38 #[.agg #[vB (qa.num<0),vna,vda],.agg #[vB (qb.num<0),vnb,vdb]] w0 (Ret w0 h0 (fun h r=>wD h r (zA6 qa qb))):=by
 have hlna:=wE qa
 have hlda:=wM qa
 have hlDa:=wC qa
 have hlnb:=wE qb
 have hldb:=wM qb
 have hlDb:=wC qb
 refine cb2 10 (.agg #[vB (qa.num<0),vna,vda]) (.agg #[vB (qb.num<0),vnb,vdb]) func38 hs ?_
 refine go2 ?_
 refine zG (xD (cs:=[_,_,_]) rfl rfl) rfl rfl rfl ?_
 intro v2 r2 hr2
 obtain⟨b2,rfl,rfl⟩:=hr2
 refine zG (xD (cs:=[_,_,_]) rfl rfl) rfl rfl rfl ?_
 intro v3 r3 hr3
 obtain⟨b3,rfl,rfl⟩:=hr3
 refine zG (xN (cs:=[vB ((0:Rat).num<0),.slice none 0 0,.slice none 0 0]) yF rfl (by simp only[zb];rfl)) rfl rfl rfl ?_
 intro v4 r4 hr4
 obtain⟨b4,rfl,rfl⟩:=hr4
 refine go6 ?_
 refine cL (ev2 rfl rfl) call37 (fun w hs=>zB2 hs hna hda hnb hdb oM oM) fun v7 h1 hh1 hr7=>?_
 obtain⟨vn7,vd7,rfl,hn7,hd7⟩:=hr7
 have hlq7:=kA qa qb
 refine cL (vs:=[vI (1),vI (2)]) e2z call10 (fun w hs=>zEA hs oM oM oM oM) fun v8 h2 hh2 hr8=>?_
 have hlq8:=eQ (n:=(1:Int)) (d:=(2:Int)) oM oM oM oM
 obtain⟨vn8,vd8,rfl,hn8,hd8⟩:=hr8
 replace hn7:=hn7.mono hh2
 replace hd7:=hd7.mono hh2
 refine cL (ev2 rfl rfl) call9 (fun w hs=>zG8 hs hn7 hd7 hn8 hd8 oM oM) fun v9 h3 hh3 hr9=>?_
 obtain⟨vn9,vd9,rfl,hn9,hd9⟩:=hr9
 have hlq9:=pV (qa+qb) (wN (1:Int) (2:Int))
 refine xG (A:=[]) (r':=.var b4 26 [vB (((qa+qb)*(wN (1:Int) (2:Int))).num<0),vn9,vd9]) (zF (k:=0) (cs:=[_,_,_]) (vs:=[_,_,_]) rfl rfl rfl (ocr rfl (ocu hn9 (ocu hd9 oc0))) zP (bL rfl)) rfl rfl rfl ?_
 refine go3 ?_
 refine yA (fun E S=>zS rfl (yZ (cs:=[_,_,_]) mh0 underlying26 rfl zP rfl) E S) ?_
 rw[zOE] at hn9 hd9 ⊢
 exact⟨_,_,rfl,hn9,hd9⟩
end Go.Proofs.YtboaboflnckgoaaGreat
namespace Go.Proofs.YtboaboflnckgoaaGreat
open Bk Go Tryz
set_option linter.unusedVariables false
set_option linter.unusedSimpArgs false
set_option maxRecDepth 10000
set_option maxHeartbeats 1000000
attribute [local irreducible] GL GC GQ W OpV
theorem zNE{w0:World}{h0:Mem}(hs:MLe h0 (mem w0)){qa:Rat}{vna vda:Value}(hna:Us .u32 h0 vna (zB qa.num.natAbs))(hda:Us .u32 h0 vda (zB (xT qa.den)))(hqa:lq qa≤100000000000):
    Calls Tryz.prog 173 #[.agg #[vB (qa.num<0),vna,vda]] w0 (Ret w0 h0 (fun _ r=>r=.string (qB (qZ qa)))):=by
 have hlna:=wE qa
 have hlda:=wM qa
 have hlDa:=wC qa
 refine cb1 22 (.agg #[vB (qa.num<0),vna,vda]) func173 hs ?_
 refine go2 ?_
 refine zG (xD (cs:=[_,_,_]) rfl rfl) rfl rfl rfl ?_
 intro v1 r1 hr1
 obtain⟨b1,rfl,rfl⟩:=hr1
 refine go7 ?_
 refine cL (ev1 rfl) call197 (fun w hs=>zB7 hs hna oM) fun v6 h1 hh1 hr6=>?_
 subst hr6
 have htl6:=dO ((qa.num.natAbs))
 refine vX ?_
 refine cnd (fun hc8=>?_) fun hc8=>?_
 ·
  refine go2 ?_
  refine gv (vK (pa:=([45]:List Nat)) (pb:=(txt ((qa.num.natAbs)))) rfl rfl (by first|omega|(simp only[lAz,lC,lN,List.length_drop,List.length_take];omega))) rfl ?_
  replace hda:=hda.mono hh1
  refine uT ?_
  refine cnd (fun hc14=>?_) fun hc14=>?_
  ·
   refine go4 ?_
   refine cL (ev1 rfl) call197 (fun w hs=>zB7 hs hda oM) fun v18 h2 hh2 hr18=>?_
   subst hr18
   have htl18:=dO (((xT qa.den)))
   refine gv (vK (pa:=([47]:List Nat)) (pb:=(txt (((xT qa.den))))) rfl rfl (by first|omega|(simp only[lAz,lC,lN,List.length_drop,List.length_take];omega))) rfl (gv (vK (pa:=(([45]:List Nat)++(txt ((qa.num.natAbs))))) (pb:=(([47]:List Nat)++(txt (((xT qa.den)))))) rfl rfl (by first|omega|(simp only[lAz,lC,lN,List.length_drop,List.length_take];omega))) rfl ?_)
   refine vX ?_
   refine zD rfl rfl ?_
   rw[←zWJ hc8 hc14]
  refine go9 ?_
  refine zD rfl rfl ?_
  rw[←zS4 hc8 hc14]
 replace hda:=hda.mono hh1
 refine uO ?_
 refine cnd (fun hc14=>?_) fun hc14=>?_
 ·
  refine go4 ?_
  refine cL (ev1 rfl) call197 (fun w hs=>zB7 hs hda oM) fun v18 h2 hh2 hr18=>?_
  subst hr18
  have htl18:=dO (((xT qa.den)))
  refine gv (vK (pa:=([47]:List Nat)) (pb:=(txt (((xT qa.den))))) rfl rfl (by first|omega|(simp only[lAz,lC,lN,List.length_drop,List.length_take];omega))) rfl (gv (vK (pa:=(txt ((qa.num.natAbs)))) (pb:=(([47]:List Nat)++(txt (((xT qa.den)))))) rfl rfl (by first|omega|(simp only[lAz,lC,lN,List.length_drop,List.length_take];omega))) rfl ?_)
  refine vX ?_
  refine zD rfl rfl ?_
  rw[←zS5 hc8 hc14]
 refine go9 ?_
 refine zD rfl rfl ?_
 rw[←zS6 hc8 hc14]
end Go.Proofs.YtboaboflnckgoaaGreat
namespace Go.Proofs.YtboaboflnckgoaaGreat
open Bk Go Tryz
set_option linter.unusedVariables false
set_option linter.unusedSimpArgs false
set_option maxRecDepth 10000
set_option maxHeartbeats 1000000
attribute [local irreducible] GL GC GQ W OpV
theorem zTA{w0:World}{h0:Mem}(hs:MLe h0 (mem w0)){qa:Rat}{vna vda:Value}(hna:Us .u32 h0 vna (zB qa.num.natAbs))(hda:Us .u32 h0 vda (zB (xT qa.den))){qb:Rat}{vnb vdb:Value}(hnb:Us .u32 h0 vnb (zB qb.num.natAbs))(hdb:Us .u32 h0 vdb (zB (xT qb.den)))(hqa:lq qa≤100000000000)(hqb:lq qb≤100000000000):
    Calls Tryz.prog 102 #[.agg #[vB (qa.num<0),vna,vda],.agg #[vB (qb.num<0),vnb,vdb]] w0 (Ret w0 h0 (fun h r=>zGM h r [bZ qa qb,tY qa qb])):=by
 have hq00:=sV
 refine cb2 12 (.agg #[vB (qa.num<0),vna,vda]) (.agg #[vB (qb.num<0),vnb,vdb]) func102 hs ?_
 refine go2 ?_
 refine zG (xD (cs:=[_,_,_]) rfl rfl) rfl rfl rfl ?_
 intro v2 r2 hr2
 obtain⟨b2,rfl,rfl⟩:=hr2
 refine zG (xD (cs:=[_,_,_]) rfl rfl) rfl rfl rfl ?_
 intro v3 r3 hr3
 obtain⟨b3,rfl,rfl⟩:=hr3
 refine zG (xN (cs:=[vB ((0:Rat).num<0),.slice none 0 0,.slice none 0 0,vB ((0:Rat).num<0),.slice none 0 0,.slice none 0 0]) jE rfl (by simp only[zb];rfl)) rfl rfl rfl ?_
 intro v4 r4 hr4
 obtain⟨b4,rfl,rfl⟩:=hr4
 refine go3 ?_
 refine gD 7 [(0,.q),(1,.q),(3,.q),(4,.q),(2,.c),(5,.c),(6,.q),(7,.t)] (by kernel_rfl) ?_
 refine go4 ?_
 refine w_c rfl (sC (ev2 rfl rfl) call148 (fun w hs=>zTX hs hna hda hnb hdb oM oM) fun v7 h1 hh1 hr7=>?_)
 obtain⟨vn7,vd7,rfl,hn7,hd7⟩:=hr7
 have hlq7:=zRF qa qb
 refine w_c rfl ?_
 replace hna:=hna.mono hh1
 replace hda:=hda.mono hh1
 replace hnb:=hnb.mono hh1
 replace hdb:=hdb.mono hh1
 refine sC (ev2 rfl rfl) call149 (fun w hs=>zTY hs hna hda hnb hdb oM oM) fun v10 h2 hh2 hr10=>?_
 obtain⟨vn10,vd10,rfl,hn10,hd10⟩:=hr10
 have hlq10:=zRG qa qb
 refine wF rfl (fun _ _=>yK (ps':=[(0,_),(1,_)]) (vs:=[vB ((bZ qa qb).num<0),vn7,vd7,vB ((tY qa qb).num<0),vn10,vd10]) underlying34 jE rfl (sP underlying34) e4z (yV (A:=[]) (B:=[_,_,_]) (C:=[_,_,_]) (cs:=[_,_,_]) (off:=0) (size:=3) rfl rfl rfl rfl rfl (yV (A:=[_,_,_]) (B:=[_,_,_]) (C:=[]) (cs:=[_,_,_]) (off:=3) (size:=3) rfl rfl rfl rfl rfl vY))) rfl ?_
 replace hn7:=hn7.mono hh2
 replace hd7:=hd7.mono hh2
 refine kC (A:=[]) (q':=.var b4 34 [vB ((bZ qa qb).num<0),vn7,vd7,vB ((tY qa qb).num<0),vn10,vd10]) rfl (zF (k:=0) (cs:=[_,_,_,_,_,_]) (vs:=[_,_,_,_,_,_]) rfl rfl rfl (ocr rfl (ocu hn7 (ocu hd7 (ocr rfl (ocu hn10 (ocu hd10 oc0)))))) iS (bL rfl)) rfl ?_
 refine go3 ?_
 refine yA (fun E S=>zS rfl (yZ (cs:=[_,_,_,_,_,_]) mh0 underlying34 rfl iS rfl) E S) ?_
 exact⟨_,rfl,_,_,_,rfl,hn7,hd7,_,_,_,rfl,hn10,hd10,rfl⟩
theorem zJF{w0:World}{h0:Mem}(hs:MLe h0 (mem w0)){qa:Rat}{vna vda:Value}(hna:Us .u32 h0 vna (zB qa.num.natAbs))(hda:Us .u32 h0 vda (zB (xT qa.den)))(hqa:lq qa≤100000000000):
    Calls Tryz.prog 53 #[.agg #[vB (qa.num<0),vna,vda]] w0 (Ret w0 h0 (fun h r=>zGM h r [qa,qa])):=by
 have hq00:=sV
 refine cb1 6 (.agg #[vB (qa.num<0),vna,vda]) func53 hs ?_
 refine go2 ?_
 refine zG (xD (cs:=[_,_,_]) rfl rfl) rfl rfl rfl ?_
 intro v1 r1 hr1
 obtain⟨b1,rfl,rfl⟩:=hr1
 refine zG (xN (cs:=[vB ((0:Rat).num<0),.slice none 0 0,.slice none 0 0,vB ((0:Rat).num<0),.slice none 0 0,.slice none 0 0]) jE rfl (by simp only[zb];rfl)) rfl rfl rfl ?_
 intro v2 r2 hr2
 obtain⟨b2,rfl,rfl⟩:=hr2
 refine go6 ?_
 refine cL (ev2 rfl rfl) call102 (fun w hs=>zTA hs hna hda hna hda oM oM) fun v5 h1 hh1 hr5=>?_
 have hlq5_0:=zRF qa qa
 have hlq5_1:=zRG qa qa
 obtain⟨_,rfl,vn5_0,vd5_0,_,rfl,hn5_0,hd5_0,vn5_1,vd5_1,_,rfl,hn5_1,hd5_1,rfl⟩:=hr5
 refine xG (A:=[]) (r':=.var b2 34 [vB ((bZ qa qa).num<0),vn5_0,vd5_0,vB ((tY qa qa).num<0),vn5_1,vd5_1]) (zF (k:=0) (cs:=[_,_,_,_,_,_]) (vs:=[_,_,_,_,_,_]) rfl rfl rfl (ocr rfl (ocu hn5_0 (ocu hd5_0 (ocr rfl (ocu hn5_1 (ocu hd5_1 oc0)))))) iS (bL rfl)) rfl rfl rfl ?_
 refine go3 ?_
 refine yA (fun E S=>zS rfl (yZ (cs:=[_,_,_,_,_,_]) mh0 underlying34 rfl iS rfl) E S) ?_
 rw[zEP] at hn5_0 hd5_0
 rw[zEQ] at hn5_1 hd5_1
 rw[zEP,zEQ]
 exact⟨_,rfl,_,_,_,rfl,hn5_0,hd5_0,_,_,_,rfl,hn5_1,hd5_1,rfl⟩
theorem zPE{w0:World}{h0:Mem}(hs:MLe h0 (mem w0)){qa0:Rat}{vna0 vda0:Value}(hna0:Us .u32 h0 vna0 (zB qa0.num.natAbs))(hda0:Us .u32 h0 vda0 (zB (xT qa0.den))){qa1:Rat}{vna1 vda1:Value}(hna1:Us .u32 h0 vna1 (zB qa1.num.natAbs))(hda1:Us .u32 h0 vda1 (zB (xT qa1.den))){qb0:Rat}{vnb0 vdb0:Value}(hnb0:Us .u32 h0 vnb0 (zB qb0.num.natAbs))(hdb0:Us .u32 h0 vdb0 (zB (xT qb0.den))){qb1:Rat}{vnb1 vdb1:Value}(hnb1:Us .u32 h0 vnb1 (zB qb1.num.natAbs))(hdb1:Us .u32 h0 vdb1 (zB (xT qb1.den)))(hqa0:lq qa0≤100000000000)(hqa1:lq qa1≤100000000000)(hqb0:lq qb0≤100000000000)(hqb1:lq qb1≤100000000000):
    Calls Tryz.prog 89 #[.agg #[vB (qa0.num<0),vna0,vda0,vB (qa1.num<0),vna1,vda1],.agg #[vB (qb0.num<0),vnb0,vdb0,vB (qb1.num<0),vnb1,vdb1]] w0 (Ret w0 h0 (fun h r=>zGM h r [qa0+qb0,qa1+qb1])):=by
 have hq00:=sV
 refine cb2 16 (.agg #[vB (qa0.num<0),vna0,vda0,vB (qa1.num<0),vna1,vda1]) (.agg #[vB (qb0.num<0),vnb0,vdb0,vB (qb1.num<0),vnb1,vdb1]) func89 hs ?_
 refine go2 ?_
 refine zG (xD (cs:=[_,_,_,_,_,_]) rfl rfl) rfl rfl rfl ?_
 intro v2 r2 hr2
 obtain⟨b2,rfl,rfl⟩:=hr2
 refine zG (xD (cs:=[_,_,_,_,_,_]) rfl rfl) rfl rfl rfl ?_
 intro v3 r3 hr3
 obtain⟨b3,rfl,rfl⟩:=hr3
 refine zG (xN (cs:=[vB ((0:Rat).num<0),.slice none 0 0,.slice none 0 0,vB ((0:Rat).num<0),.slice none 0 0,.slice none 0 0]) jE rfl (by simp only[zb];rfl)) rfl rfl rfl ?_
 intro v4 r4 hr4
 obtain⟨b4,rfl,rfl⟩:=hr4
 refine go3 ?_
 refine gD 11 (qq 0 4 (qq 5 4 [(4,.c),(9,.c),(10,.q),(11,.t)])) (by kernel_rfl) ?_
 refine go8 ?_
 refine w_c rfl (sC (ev2 rfl rfl) call70 (fun w hs=>zFN hs hna0 hda0 hnb0 hdb0 oM oM) fun v9 h1 hh1 hr9=>?_)
 obtain⟨vn9,vd9,rfl,hn9,hd9⟩:=hr9
 have hlq9:=kA qa0 qb0
 refine w_c rfl ?_
 replace hna1:=hna1.mono hh1
 replace hda1:=hda1.mono hh1
 replace hnb1:=hnb1.mono hh1
 replace hdb1:=hdb1.mono hh1
 refine sC (ev2 rfl rfl) call70 (fun w hs=>zFN hs hna1 hda1 hnb1 hdb1 oM oM) fun v14 h2 hh2 hr14=>?_
 obtain⟨vn14,vd14,rfl,hn14,hd14⟩:=hr14
 have hlq14:=kA qa1 qb1
 refine wF rfl (fun _ _=>yK (ps':=[(0,_),(1,_)]) (vs:=[vB ((qa0+qb0).num<0),vn9,vd9,vB ((qa1+qb1).num<0),vn14,vd14]) underlying34 jE rfl (sP underlying34) e4z (yV (A:=[]) (B:=[_,_,_]) (C:=[_,_,_]) (cs:=[_,_,_]) (off:=0) (size:=3) rfl rfl rfl rfl rfl (yV (A:=[_,_,_]) (B:=[_,_,_]) (C:=[]) (cs:=[_,_,_]) (off:=3) (size:=3) rfl rfl rfl rfl rfl vY))) rfl ?_
 replace hn9:=hn9.mono hh2
 replace hd9:=hd9.mono hh2
 refine kC (A:=[]) (q':=.var b4 34 [vB ((qa0+qb0).num<0),vn9,vd9,vB ((qa1+qb1).num<0),vn14,vd14]) rfl (zF (k:=0) (cs:=[_,_,_,_,_,_]) (vs:=[_,_,_,_,_,_]) rfl rfl rfl (ocr rfl (ocu hn9 (ocu hd9 (ocr rfl (ocu hn14 (ocu hd14 oc0)))))) iS (bL rfl)) rfl ?_
 refine go3 ?_
 refine yA (fun E S=>zS rfl (yZ (cs:=[_,_,_,_,_,_]) mh0 underlying34 rfl iS rfl) E S) ?_
 exact⟨_,rfl,_,_,_,rfl,hn9,hd9,_,_,_,rfl,hn14,hd14,rfl⟩
end Go.Proofs.YtboaboflnckgoaaGreat
namespace Go.Proofs.YtboaboflnckgoaaGreat
open Bk Go Tryz
set_option linter.unusedVariables false
set_option linter.unusedSimpArgs false
set_option maxRecDepth 10000
set_option maxHeartbeats 1000000
attribute [local irreducible] GL GC GQ W OpV
theorem sJ{w0:World}{h0:Mem}(hs:MLe h0 (mem w0)){k l:Nat}{va:Value}{a:Rat}(ra:(rpQ k).Is h0 va a){vb:Value}{b:Rat}(rb:(rpQ l).Is h0 vb b)(hcd0:k+l≤10000000000):
    Calls Tryz.prog 70 #[va,vb] w0 (Ret w0 h0 (fun h r=>(rpQ (k+l+1)).Is h r (a+b))):=by
  obtain⟨vna,vda,rfl,hna,hda,hla⟩:=qI ra
  obtain⟨vnb,vdb,rfl,hnb,hdb,hlb⟩:=qI rb
  exact(zFN hs hna hda hnb hdb oM oM).mono (kE fun h r x=>cK x (by have:=kA a b;omega))
theorem cT{w0:World}{h0:Mem}(hs:MLe h0 (mem w0)){k l:Nat}{va:Value}{a:Rat}(ra:(rpQ k).Is h0 va a){vb:Value}{b:Rat}(rb:(rpQ l).Is h0 vb b)(hcd0:k+l≤10000000000):
    Calls Tryz.prog 179 #[va,vb] w0 (Ret w0 h0 (fun h r=>(rpQ (k+l+1)).Is h r (a-b))):=by
  obtain⟨vna,vda,rfl,hna,hda,hla⟩:=qI ra
  obtain⟨vnb,vdb,rfl,hnb,hdb,hlb⟩:=qI rb
  exact(zTU hs hna hda hnb hdb oM oM).mono (kE fun h r x=>cK x (by have:=s9 a b;omega))
theorem jQ{w0:World}{h0:Mem}(hs:MLe h0 (mem w0)){k l:Nat}{va:Value}{a:Rat}(ra:(rpQ k).Is h0 va a){vb:Value}{b:Rat}(rb:(rpQ l).Is h0 vb b)(hcd0:k+l≤10000000000):
    Calls Tryz.prog 76 #[va,vb] w0 (Ret w0 h0 (fun h r=>(rpQ (k+l)).Is h r (a*b))):=by
  obtain⟨vna,vda,rfl,hna,hda,hla⟩:=qI ra
  obtain⟨vnb,vdb,rfl,hnb,hdb,hlb⟩:=qI rb
  exact(zTW hs hna hda hnb hdb oM oM).mono (kE fun h r x=>cK x (by have:=pV a b;omega))
theorem iX{w0:World}{h0:Mem}(hs:MLe h0 (mem w0)){k:Nat}{va:Value}{a:Rat}(ra:(rpQ k).Is h0 va a)(hcd0:k≤10000000000):
    Calls Tryz.prog 51 #[va] w0 (Ret w0 h0 (fun _ r=>r=vI (yX a))):=by
  obtain⟨vna,vda,rfl,hna,hda,hla⟩:=qI ra
  exact y0 hs hna hda oM
theorem zEG{w0:World}{h0:Mem}(hs:MLe h0 (mem w0)){k l:Nat}{va:Value}{a:Rat}(ra:(rpQ k).Is h0 va a){vb:Value}{b:Rat}(rb:(rpQ l).Is h0 vb b)(hcd0:k+l≤10000000000):
    Calls Tryz.prog 74 #[va,vb] w0 (Ret w0 h0 (fun h r=>∃u0,r=.tuple #[u0,vI (if b=0 then 3 else 0)]∧(rpQ (k+l)).Is h u0 (if b=0 then 0 else a/b))):=by
  obtain⟨vna,vda,rfl,hna,hda,hla⟩:=qI ra
  obtain⟨vnb,vdb,rfl,hnb,hdb,hlb⟩:=qI rb
  exact(zTV hs hna hda hnb hdb oM oM).mono (kE fun h r x=>by obtain⟨u,e,y⟩:=x;exact⟨u,e,cK y (by have:=zMB a b;omega)⟩)
theorem tX{w0:World}{h0:Mem}(hs:MLe h0 (mem w0)){k l:Nat}{va:Value}{a:Rat}(ra:(rpQ k).Is h0 va a){vb:Value}{b:Rat}(rb:(rpQ l).Is h0 vb b)(hcd0:k+l≤10000000000):
    Calls Tryz.prog 37 #[va,vb] w0 (Ret w0 h0 (fun h r=>(rpQ (k+l+1)).Is h r (a+b))):=by
  obtain⟨vna,vda,rfl,hna,hda,hla⟩:=qI ra
  obtain⟨vnb,vdb,rfl,hnb,hdb,hlb⟩:=qI rb
  exact(zB2 hs hna hda hnb hdb oM oM).mono (kE fun h r x=>cK x (by have:=kA a b;omega))
theorem rO{w0:World}{h0:Mem}(hs:MLe h0 (mem w0)){k l:Nat}{va:Value}{a:Rat}(ra:(rpQ k).Is h0 va a){vb:Value}{b:Rat}(rb:(rpQ l).Is h0 vb b)(hcd0:k+l≤10000000000):
    Calls Tryz.prog 16 #[va,vb] w0 (Ret w0 h0 (fun h r=>(rpQ (k+l+1)).Is h r (a-b))):=by
  obtain⟨vna,vda,rfl,hna,hda,hla⟩:=qI ra
  obtain⟨vnb,vdb,rfl,hnb,hdb,hlb⟩:=qI rb
  exact(zPV hs hna hda hnb hdb oM oM).mono (kE fun h r x=>cK x (by have:=s9 a b;omega))
theorem vM{w0:World}{h0:Mem}(hs:MLe h0 (mem w0)){k l:Nat}{va:Value}{a:Rat}(ra:(rpQ k).Is h0 va a){vb:Value}{b:Rat}(rb:(rpQ l).Is h0 vb b)(hcd0:k+l≤10000000000):
    Calls Tryz.prog 9 #[va,vb] w0 (Ret w0 h0 (fun h r=>(rpQ (k+l)).Is h r (a*b))):=by
  obtain⟨vna,vda,rfl,hna,hda,hla⟩:=qI ra
  obtain⟨vnb,vdb,rfl,hnb,hdb,hlb⟩:=qI rb
  exact(zG8 hs hna hda hnb hdb oM oM).mono (kE fun h r x=>cK x (by have:=pV a b;omega))
theorem zCG{w0:World}{h0:Mem}(hs:MLe h0 (mem w0)){k l:Nat}{va:Value}{a:Rat}(ra:(rpQ k).Is h0 va a){vb:Value}{b:Rat}(rb:(rpQ l).Is h0 vb b)(hcd0:k+l≤10000000000):
    Calls Tryz.prog 38 #[va,vb] w0 (Ret w0 h0 (fun h r=>(rpQ (k+l+2)).Is h r (zA6 a b))):=by
  obtain⟨vna,vda,rfl,hna,hda,hla⟩:=qI ra
  obtain⟨vnb,vdb,rfl,hnb,hdb,hlb⟩:=qI rb
  exact(zPX hs hna hda hnb hdb oM oM).mono (kE fun h r x=>cK x (by have:=zX0 a b;omega))
theorem uX{w0:World}{h0:Mem}(hs:MLe h0 (mem w0)){k l:Nat}{va:Value}{a:Rat}(ra:(rpQ k).Is h0 va a){vb:Value}{b:Rat}(rb:(rpQ l).Is h0 vb b)(hcd0:k+l≤10000000000):
    Calls Tryz.prog 18 #[va,vb] w0 (Ret w0 h0 (fun _ r=>r=vI (wB a b))):=by
  obtain⟨vna,vda,rfl,hna,hda,hla⟩:=qI ra
  obtain⟨vnb,vdb,rfl,hnb,hdb,hlb⟩:=qI rb
  exact zPZ hs hna hda hnb hdb oM oM
theorem vJ{w0:World}{h0:Mem}(hs:MLe h0 (mem w0)){k:Nat}{va:Value}{a:Rat}(ra:(rpQ k).Is h0 va a)(hcd0:k≤10000000000):
    Calls Tryz.prog 17 #[va] w0 (Ret w0 h0 (fun _ r=>r=vI (yX a))):=by
  obtain⟨vna,vda,rfl,hna,hda,hla⟩:=qI ra
  exact t7 hs hna hda oM
theorem vS{w0:World}{h0:Mem}(hs:MLe h0 (mem w0)){k l:Nat}{va:Value}{a:Rat}(ra:(rpQ k).Is h0 va a){vb:Value}{b:Rat}(rb:(rpQ l).Is h0 vb b)(hcd0:k+l≤10000000000):
    Calls Tryz.prog 15 #[va,vb] w0 (Ret w0 h0 (fun _ r=>r=vB (a=b))):=by
  obtain⟨vna,vda,rfl,hna,hda,hla⟩:=qI ra
  obtain⟨vnb,vdb,rfl,hnb,hdb,hlb⟩:=qI rb
  exact zNF hs hna hda hnb hdb oM oM
theorem zJ6{w0:World}{h0:Mem}(hs:MLe h0 (mem w0)){k l:Nat}{va:Value}{a:Rat}(ra:(rpQ k).Is h0 va a){vb:Value}{b:Rat}(rb:(rpQ l).Is h0 vb b)(hcd0:k+l≤10000000000):
    Calls Tryz.prog 112 #[va,vb] w0 (Ret w0 h0 (fun h r=>∃u0,r=.tuple #[u0,vI (if b=0 then 3 else 0)]∧(rpQ (k+l)).Is h u0 (if b=0 then 0 else a/b))):=by
  obtain⟨vna,vda,rfl,hna,hda,hla⟩:=qI ra
  obtain⟨vnb,vdb,rfl,hnb,hdb,hlb⟩:=qI rb
  exact(zPW hs hna hda hnb hdb oM oM).mono (kE fun h r x=>by obtain⟨u,e,y⟩:=x;exact⟨u,e,cK y (by have:=zMB a b;omega)⟩)
theorem iW{w0:World}{h0:Mem}(hs:MLe h0 (mem w0)){k:Nat}{va:Value}{a:Rat}(ra:(rpQ k).Is h0 va a)(hcd0:k≤10000000000):
    Calls Tryz.prog 31 #[va] w0 (Ret w0 h0 (fun h r=>(rpQ k).Is h r (-a))):=by
  obtain⟨vna,vda,rfl,hna,hda,hla⟩:=qI ra
  exact(zG7 hs hna hda oM).mono (kE fun h r x=>cK x (by have:=zKU a;omega))
theorem zJ7{w0:World}{h0:Mem}(hs:MLe h0 (mem w0)){k:Nat}{va:Value}{a:Rat}(ra:(rpQ k).Is h0 va a)(hcd0:k≤10000000000):
    Calls Tryz.prog 29 #[va] w0 (Ret w0 h0 (fun h r=>(rpQ k).Is h r (dH a))):=by
  obtain⟨vna,vda,rfl,hna,hda,hla⟩:=qI ra
  exact(zP0 hs hna hda oM).mono (kE fun h r x=>cK x (by have:=zX2 a;omega))
theorem jT{w0:World}{h0:Mem}(hs:MLe h0 (mem w0)){n:Int}(hn1:-9223372036854775808≤n)(hn2:n<9223372036854775808):
    Calls Tryz.prog 39 #[vI n] w0 (Ret w0 h0 (fun h r=>(rpQ 2).Is h r ((n:Int):Rat))):=by
  exact(zPY hs hn1 hn2).mono (kE fun h r x=>cK x (by exact zCW n hn1 hn2))
theorem eL{w0:World}{h0:Mem}(hs:MLe h0 (mem w0)){n:Int}(hn1:-9223372036854775808≤n)(hn2:n<9223372036854775808):
    Calls Tryz.prog 75 #[vI n] w0 (Ret w0 h0 (fun h r=>(rpQ 2).Is h r ((n:Int):Rat))):=by
  exact(zTZ hs hn1 hn2).mono (kE fun h r x=>cK x (by exact zCW n hn1 hn2))
theorem pE{w0:World}{h0:Mem}(hs:MLe h0 (mem w0)){n:Int}(hn1:-9223372036854775808≤n)(hn2:n<9223372036854775808){d:Int}(hd1:-9223372036854775808≤d)(hd2:d<9223372036854775808):
    Calls Tryz.prog 10 #[vI n,vI d] w0 (Ret w0 h0 (fun h r=>(rpQ 2).Is h r (wN n d))):=by
  exact(zEA hs hn1 hn2 hd1 hd2).mono (kE fun h r x=>cK x (by exact eQ hn1 hn2 hd1 hd2))
end Go.Proofs.YtboaboflnckgoaaGreat
namespace Go.Proofs.YtboaboflnckgoaaGreat
open Bk Go Tryz
set_option linter.unusedVariables false
set_option linter.unusedSimpArgs false
set_option maxRecDepth 10000
set_option maxHeartbeats 1000000
attribute [local irreducible] GL GC GQ W OpV
theorem zD5{w0:World}{h0:Mem}(hs:MLe h0 (mem w0)){v:Value}{X:Nat}(hv:Us .u32 h0 v (zB X))(hl:(zB X).length≤1000):
    Calls Tryz.prog 97 #[v] w0 (Ret w0 h0 (fun h r=>Us .u32 h r (zB (sqN X)))):=by
 have hl1:=eS
 have hbl:=zDF X
 have hsl:=zM8 hl
 refine cb1 42 v func97 hs ?_
 refine go9 ?_
 refine cL (ev1 rfl) call94 (fun w hs=>pJ hs hv oM) fun v11 h1 hh1 hr11=>?_
 try simp only[zC] at hr11
 subst hr11
 refine go3 ?_
 refine cnd (fun hc12=>?_) fun hc12=>?_
 ·
  refine go7 ?_
  refine zD rfl rfl ?_
  rw[zP3 hc12]
  exact Us.nil _ _
 have hX:X≠0:=fun e=>hc12 (by rw[e,zDG];rfl)
 refine go4 ?_
 refine zG (kM (kd:=.u32) (p:=1) underlying22 wI rfl rfl rfl) rfl rfl rfl ?_
 intro v14 r14 hr14
 obtain rfl:=hr14
 refine yG (by intro z hz;simp only[List.mem_singleton] at hz;subst hz;decide) ?_
 intro h2 hh2 hone1
 rw[rN] at hone1
 refine go1 ?_
 replace hv:=hv.mono (hh1.trans hh2)
 refine cL (ev1 rfl) call94 (fun w hs=>pJ hs hv oM) fun v16 h3 hh3 hr16=>?_
 try simp only[zC] at hr16
 subst hr16
 refine go1 ?_
 refine gv (lJ (q:=2) rfl rfl oM oM oM) rfl ?_
 replace hone1:=hone1.mono hh3
 refine cL (ev2 rfl rfl) call95 (fun w hs=>lP hs hone1 oM oM oM) fun v19 h4 hh4 hr19=>?_
 obtain⟨u19,rfl,hu19⟩:=hr19
 try simp only[zC] at hu19
 rw[zGX hl] at hu19
 refine go8 ?_
 refine vG (ι:=Nat×Value×Mem) (fun(x,vx,m)=>MLe h4 m∧(Us .u32 m vx (zB x)∧sqN X≤x∧0<x∧(zB x).length≤1001)) (fun(x,vx,m)=>[(0,v),(3,vx)]) (fun(x,vx,m)=>[]) (fun(x,vx,m)=>m) (fun(x,vx,m)=>x) ((2^((xZ X+1)/2)),u19,h4) ?_ e2z rfl rfl ?_
 ·
  refine⟨MLe.refl _,?_⟩
  exact⟨hu19,zF5 X,Nat.pow_pos oM,hsl⟩
 intro x hx
 obtain⟨x,vx,m⟩:=x
 obtain⟨hmm,hinv⟩:=hx
 refine yR ?_
 obtain⟨hx,hi1,hi2,hi3⟩:=hinv
 refine go5 ?_
 replace hv:=hv.mono ((hh3.trans hh4).trans hmm)
 refine cL (ev2 rfl rfl) call147 (fun w hs=>eN hs hv hx oM oM) fun v25 h5 hh5 hr25=>?_
 obtain⟨q25,r25,rfl,hq25,hr25⟩:=hr25
 try simp only[zC] at hq25 hr25 ⊢
 have hlm25:=zM (Nat.div_le_self ((X)) ((x)))
 refine sM ?_
 replace hx:=hx.mono hh5
 refine cL (ev2 rfl rfl) call100 (fun w hs=>aF hs hx hq25 oM oM) fun v32 h6 hh6 hr32=>?_
 try simp only[zC] at hr32
 have hlm32:=uD ((x)) (((((X))/((x)))))
 have hdl:=zM (Nat.div_le_self X x)
 have hal:=uD x (X/x)
 refine cL (vs:=[_,vI (-1)]) e2z call95 (fun w hs=>lP hs hr32 oM oM oM) fun v33 h7 hh7 hr33=>?_
 obtain⟨u33,rfl,hu33⟩:=hr33
 try simp only[zC] at hu33
 rw[zJH] at hu33
 refine uT ?_
 replace hx:=hx.mono (hh6.trans hh7)
 refine cL (ev2 rfl rfl) call98 (fun w hs=>eO hs hu33 hx) fun v38 h8 hh8 hr38=>?_
 try simp only[zC] at hr38
 subst hr38
 refine go3 ?_
 refine cnd (fun hc39=>?_) fun hc39=>?_
 ·
  have hst:=zH1 hi2 hi1 (by have:=gG (m:=(x+X/x)/2) (n:=x);omega)
  refine uO ?_
  refine zD rfl rfl ?_
  replace hx:=hx.mono hh8
  rw[←hst]
  exact hx
 refine go7 ?_
 have hlt:=gG.1 (show fZ ((x+X/x)/2) x<0 by omega)
 have hml:=zM (Nat.le_of_lt hlt)
 have hng:=zN5 (n:=X) hi2
 refine yO (((x+X/x)/2),u33,h8) ?_ ?_ e2z rfl rfl
 ·
  refine⟨((((hmm.trans hh5).trans hh6).trans hh7).trans hh8),?_⟩
  replace hu33:=hu33.mono hh8
  refine⟨hu33,hng,?_,Nat.le_trans hml hi3⟩
  refine Nat.pos_of_ne_zero fun e=>?_
  have:=zH0 hi2 hi1 e
  omega
 dsimp only
 exact hlt
theorem zAR{w0:World}{h0:Mem}(hs:MLe h0 (mem w0)){q:Rat}{vn vd:Value}(hn:Us .u32 h0 vn (zB q.num.natAbs))(hd:Us .u32 h0 vd (zB (xT q.den))){K:Nat}(hK:K≤4096)(hl:lq q≤500):
    Calls Tryz.prog 96 #[.agg #[vB (q.num<0),vn,vd],vI ↑K] w0 (Ret w0 h0 (fun h r=>∃u,r=.tuple #[u,vB (zCT q K)]∧Us .u32 h u (zB (flN q K)))):=by
 obtain⟨hs1,hs2,hs3⟩:=iT hl hK
 have hln:=wE q
 have hld:=wC q
 have hrr:=zP5 (q.num.natAbs*2^K*2^K) q.den
 have hmm:=zM (Nat.div_le_self (q.num.natAbs*2^K*2^K) (xT q.den))
 refine cb2 38 (.agg #[vB (q.num<0),vn,vd]) (vI ↑K) func96 hs ?_
 refine go2 ?_
 refine zG (xD (cs:=[_,_,_]) rfl rfl) rfl rfl rfl ?_
 intro v2 r2 hr2
 obtain⟨b2,rfl,rfl⟩:=hr2
 refine zRO ?_
 refine sZ ?_
 refine go2 ?_
 refine gv (OpV.tr dC (yL (q:=2) rfl rfl)) rfl ?_
 refine uO ?_
 refine cL (ev2 rfl rfl) call95 (fun w hs=>lP hs hn oM oM oM) fun v17u1 h1 hh1 hr17u1=>?_
 obtain⟨u17u1,rfl,hu17u1⟩:=hr17u1
 try simp only[zC] at hu17u1
 rw[zFK _ _ hK] at hu17u1
 refine go8 ?_
 refine gv ((yB (q:=1) rfl rfl oM oM).cv (show _=vI (1) from rfl)) rfl ?_
 refine go2 ?_
 refine vV ?_
 refine go2 ?_
 refine gv (OpV.tr dC (yL (q:=2) rfl rfl)) rfl ?_
 refine uO ?_
 refine cL (ev2 rfl rfl) call95 (fun w hs=>lP hs hu17u1 oM oM oM) fun v17u2 h2 hh2 hr17u2=>?_
 obtain⟨u17u2,rfl,hu17u2⟩:=hr17u2
 try simp only[zC] at hu17u2
 rw[zFK _ _ hK] at hu17u2
 refine go8 ?_
 refine gv ((yB (q:=1) rfl rfl oM oM).cv (show _=vI (2) from rfl)) rfl ?_
 refine go2 ?_
 refine vV ?_
 refine go2 ?_
 refine gv (OpV.fa dC (yL (q:=2) rfl rfl)) rfl ?_
 replace hd:=hd.mono (hh1.trans hh2)
 refine zRO ?_
 refine cnd (fun hc24=>?_) fun hc24=>?_
 ·
  refine go9 ?_
  refine vW rfl rfl rfl ?_
  have e:=(mE q.den_nz).1 (zC0.1 hc24)
  rw[yS (fun h=>h (by rw[e,Nat.mod_one])),show flN q K=q.num.natAbs*2^K*2^K by unfold flN;rw[e,Nat.div_one]]
  exact⟨_,rfl,hu17u2⟩
 refine go7 ?_
 refine cL (ev2 rfl rfl) call147 (fun w hs=>eN hs hu17u2 hd oM oM) fun v30u3 h3 hh3 hr30u3=>?_
 obtain⟨q30u3,r30u3,rfl,hq30u3,hr30u3⟩:=hr30u3
 try simp only[zC] at hq30u3 hr30u3 ⊢
 have hlm30u3:=zM (Nat.div_le_self ((((((((q.num.natAbs))*2^K)))*2^K))) (((xT q.den))))
 refine sM ?_
 refine cL (ev1 rfl) call94 (fun w hs=>pJ hs hr30u3 oM) fun v36u3 h4 hh4 hr36u3=>?_
 try simp only[zC] at hr36u3
 subst hr36u3
 refine go6 ?_
 refine vW rfl rfl rfl ?_
 replace hq30u3:=hq30u3.mono hh4
 have e:xT q.den=q.den:=cP (fun h=>hc24 (by rw[h,pP,yN];rfl))
 rw[show xT q.den=q.den from e] at hq30u3
 refine⟨_,congrArg (fun z=>Value.tuple #[_,z]) (fJ ?_),hq30u3⟩
 rw[e,if_neg q.den_nz]
 unfold zCT
 have:=jN (n:=q.num.natAbs*2^K*2^K%q.den)
 omega
theorem zJE{w0:World}{h0:Mem}(hs:MLe h0 (mem w0)){k:Nat}{vs:Value}{s:(Rat×Rat)}(rs:(rpP (rpQ k) (rpQ k)).Is h0 vs s){n:Int}(hn1:-9223372036854775808≤n)(hn2:n<9223372036854775808)(hcd0:k≤500):
    Calls Tryz.prog 52 #[vs,vI n] w0 (Ret w0 h0 (fun h r=>∃u0,r=.tuple #[u0,vI (rtE s.2)]∧(rpP (rpQ (k+140)) (rpQ (k+140))).Is h u0 (zJM s.1 s.2 n,oC s.2 n))):=by
 have hl1:=eS
 have hkn:kN n≤4096:=by unfold kN;omega
 have hk1:=zFS hkn
 obtain⟨hls1,hls2⟩:=zTB rs
 obtain⟨hlo1,hlo2⟩:=zX1 hls1 n
 obtain⟨hhi1,hhi2⟩:=zRH hls2 n
 obtain⟨hsa1,hsa2,hsa3⟩:=iT hls1 hkn
 obtain⟨hsb1,hsb2,hsb3⟩:=iT hls2 hkn
 have hq1:=zM (zBZ (flN s.2 (kN n)))
 have hq0:=zM (zBZ (flN s.1 (kN n)))
 refine cb2 83 vs (vI n) func52 hs ?_
 refine go2 ?_
 refine nB rs fun b2 cs2 rb2=>(nA (ρ:=(rpP (rpQ (k+140)) (rpQ (k+140)))) (X:=((0:Rat),(0:Rat))) jE (yJ (yE oM) (yE oM)) fun b4 cs4 rb4=>?_)
 refine go7 ?_
 refine lX (xB zV (Pc.snd pH) rb2) fun v19 r19=>(cL (ev1 rfl) call51 (fun w hs=>iX hs r19 oM) fun v20 h1 hh1 r20=>?_)
 obtain rfl:v20=vI (yX s.2):=r20
 have hsr20:=xM s.2
 refine go3 ?_
 refine cnd (fun hc21=>?_) fun hc21=>?_
 ·
  have hneg:=uR.1 hc21
  refine go2 ?_
  refine lX (xV (ρ:=(rpP (rpQ 1) (rpQ 1))) (xR (ps':=[]) underlying34 jE rfl rfl (sP underlying34) trivial rfl (yJ (yE dC) (yE dC)) zX)) fun v22 r22=>?_
  replace rb4:=rb4.mono hh1
  refine zO (A:=[]) (uB sizeOf34 pH rb4 (r22.le (Le.p (Le.q (l:=k+140) oM) (Le.q (l:=k+140) oM)))) fun cs_1 rb_2=>?_
  refine go5 ?_
  refine wH (jO (t:=4) zBU mh0 rfl rb_2) ?_
  intro w_3 hvw_3 rr_4
  refine yA (fun E S=>wL rfl hvw_3 (qN rfl) E S) ?_
  refine⟨_,?_,(Rp.Is.cast rr_4 (by unfold zJM oC;rw[if_pos hneg,if_pos hneg]))⟩
  unfold rtE;rw[if_pos hneg]
 have hneg:¬s.2<0:=fun e=>hc21 (uR.2 e)
 refine go5 ?_
 refine gv (zHL (q:=0) rfl rfl) rfl (gv (zQM (q:=4096) rfl rfl) rfl ?_)
 rw[show min (max n 0) 4096=(↑(kN n):Int) by unfold kN;omega]
 refine go5 ?_
 refine zG (kM (kd:=.u32) (p:=1) underlying22 wI rfl rfl rfl) rfl rfl rfl ?_
 intro v27 r27 hr27
 obtain rfl:=hr27
 refine yG (by intro z hz;simp only[List.mem_singleton] at hz;subst hz;decide) ?_
 intro h2 hh2 hone4
 rw[rN] at hone4
 refine go1 ?_
 refine cL (ev2 rfl rfl) call95 (fun w hs=>lP hs hone4 oM oM oM) fun v29 h3 hh3 hr29=>?_
 obtain⟨u29,rfl,hu29⟩:=hr29
 try simp only[zC] at hu29
 rw[zFK _ _ hkn,Nat.one_mul] at hu29
 refine uT ?_
 refine qK (ι:=Value×Mem) (fun(v8,m1)=>MLe h3 m1∧(Us .u32 m1 v8 (zB (loN s.1 (kN n))))) (fun(v8,m1)=>[(1,vI ↑(kN n)),(2,vP b2 0),(4,vP b4 0),(6,u29),(8,v8)]) (fun(v8,m1)=>[.var b4 34 cs4,.var b2 34 cs2]) (fun(v8,m1)=>m1) ?_ ?_
 ·
  refine go3 ?_
  replace rb2:=rb2.mono ((hh1.trans hh2).trans hh3)
  refine lX (xB zV (Pc.fst pH) rb2) fun v33 r33=>(cL (ev1 rfl) call51 (fun w hs=>iX hs r33 oM) fun v34 h4 hh4 r34=>?_)
  obtain rfl:v34=vI (yX s.1):=r34
  have hsr34:=xM s.1
  refine go3 ?_
  refine cnd (fun hc35=>?_) fun hc35=>?_
  ·
   refine go3 ?_
   replace rb2:=rb2.mono hh4
   refine lX (xB zV (Pc.fst pH) rb2) fun v38 r38=>?_
   refine go1 ?_
   obtain⟨vn38_5,vd38_5,hv38_5,hn38_5,hd38_5,hlq38_5⟩:=qI r38
   subst hv38_5
   refine cL (ev2 rfl rfl) call96 (fun w hs=>zAR hs hn38_5 hd38_5 oM oM) fun v40 h5 hh5 hr40=>?_
   obtain⟨u40,rfl,hu40⟩:=hr40
   refine go9 ?_
   refine cL (ev1 rfl) call97 (fun w hs=>zD5 hs hu40 oM) fun v44 h6 hh6 hr44=>?_
   refine go2 ?_
   refine zN (v44,h6) ?_ e5 rfl rfl
   refine⟨((hh4.trans hh5).trans hh6),?_⟩
   have e:loN s.1 (kN n)=sqN (flN s.1 (kN n)):=if_pos hc35
   rw[e]
   exact hr44
  refine go1 ?_
  refine zN ((.slice none 0 0),h4) ?_ e5 rfl rfl
  refine⟨hh4,?_⟩
  have e:loN s.1 (kN n)=0:=if_neg hc35
  rw[e,yN]
  exact Us.nil _ _
 intro x hx
 obtain⟨v8,m1⟩:=x
 obtain⟨hmm1,hv8⟩:=hx
 refine yR ?_
 refine go3 ?_
 replace rb2:=rb2.mono (((hh1.trans hh2).trans hh3).trans hmm1)
 refine lX (xB zV (Pc.snd pH) rb2) fun v47 r47=>?_
 refine go1 ?_
 obtain⟨vn47_6,vd47_6,hv47_6,hn47_6,hd47_6,hlq47_6⟩:=qI r47
 subst hv47_6
 refine cL (ev2 rfl rfl) call96 (fun w hs=>zAR hs hn47_6 hd47_6 oM oM) fun v49 h4 hh4 hr49=>?_
 obtain⟨u49,rfl,hu49⟩:=hr49
 refine vX ?_
 refine cL (ev1 rfl) call97 (fun w hs=>zD5 hs hu49 oM) fun v53 h5 hh5 hr53=>?_
 refine go3 ?_
 refine qK (ι:=Value×Mem) (fun(v13,m2)=>MLe h5 m2∧(Us .u32 m2 v13 (zB (hiN s.2 (kN n))))) (fun(v13,m2)=>[(4,vP b4 0),(6,u29),(8,v8),(13,v13)]) (fun(v13,m2)=>[.var b4 34 cs4,.var b2 34 cs2]) (fun(v13,m2)=>m2) ?_ ?_
 ·
  refine go3 ?_
  refine uY (ι:=Mem) 8 (fun m_=>MLe h5 m_) (fun _=>[(62,vB ((zCT s.2 (kN n))∨((fZ ((((((sqN ((flN s.2 (kN n))))))*(((sqN ((flN s.2 (kN n))))))))) (((flN s.2 (kN n)))))<(0:Int)))),(4,vP b4 0),(6,u29),(8,v8),(13,v53)]) (fun _=>[.var b4 34 cs4,.var b2 34 cs2]) (fun m_=>m_) ?_ ?_
  ·
   refine zY (zCT s.2 (kN n)) (fun hg=>?_) (fun hg=>?_)
   ·
    refine gT hg rfl ?_
    refine go8 ?_
    refine zN h5 (MLe.refl _) ⟨?_,rfl,rfl,rfl,rfl,trivial⟩ rfl rfl
    exact congrArg some (wZ hg)
   refine gF hg rfl ?_
   refine go5 ?_
   refine cL (ev2 rfl rfl) call99 (fun w hs=>fL hs hr53 hr53 oM oM) fun v58 h6 hh6 hr58=>?_
   try simp only[zC] at hr58
   have hlm58:=yC (((sqN ((flN s.2 (kN n)))))) (((sqN ((flN s.2 (kN n))))))
   refine go3 ?_
   replace hu49:=hu49.mono (hh5.trans hh6)
   refine cL (ev2 rfl rfl) call98 (fun w hs=>eO hs hr58 hu49) fun v60 h7 hh7 hr60=>?_
   try simp only[zC] at hr60
   subst hr60
   refine go4 ?_
   refine zN h7 (hh6.trans hh7) ⟨?_,rfl,rfl,rfl,rfl,trivial⟩ rfl rfl
   exact congrArg some (vC hg)
  intro mg11_1 hmmg11_1
  refine tL ?_
  refine go2 ?_
  refine cnd (fun hc62=>?_) fun hc62=>?_
  ·
   refine go2 ?_
   refine zG (kM (kd:=.u32) (p:=1) underlying22 wI rfl rfl rfl) rfl rfl rfl ?_
   intro v64 r64 hr64
   obtain rfl:=hr64
   refine yG (by intro z hz;simp only[List.mem_singleton] at hz;subst hz;decide) ?_
   intro h6 hh6 hone12
   rw[rN] at hone12
   replace hr53:=hr53.mono (hmmg11_1.trans hh6)
   refine cL (ev2 rfl rfl) call100 (fun w hs=>aF hs hr53 hone12 oM oM) fun v65 h7 hh7 hr65=>?_
   try simp only[zC] at hr65
   have hlm65:=uD (((sqN ((flN s.2 (kN n)))))) ((1))
   refine go2 ?_
   refine zN (v65,h7) ?_ e4z rfl rfl
   refine⟨((hmmg11_1.trans hh6).trans hh7),?_⟩
   have e:hiN s.2 (kN n)=sqN (flN s.2 (kN n))+1:=if_pos hc62
   rw[e]
   exact hr65
  refine go1 ?_
  refine zN (v53,mg11_1) ?_ e4z rfl rfl
  refine⟨hmmg11_1,?_⟩
  replace hr53:=hr53.mono hmmg11_1
  have e:hiN s.2 (kN n)=sqN (flN s.2 (kN n)):=if_neg hc62
  rw[e]
  exact hr53
 intro x hx
 obtain⟨v13,m2⟩:=x
 obtain⟨hmm2,hv13⟩:=hx
 refine yR ?_
 refine go4 ?_
 replace hu29:=hu29.mono (((hmm1.trans hh4).trans hh5).trans hmm2)
 replace hv8:=hv8.mono ((hh4.trans hh5).trans hmm2)
 refine gv (yK (ps':=[(1,_),(2,_)]) (vs:=[.bool false,v8,u29]) underlying26 yF rfl (wJ underlying26) e4z (yV (A:=[_]) (B:=[_]) (C:=[_]) (cs:=[_]) (off:=1) (size:=1) rfl rfl rfl rfl hv8.cells (yV (A:=[_,_]) (B:=[_]) (C:=[]) (cs:=[_]) (off:=2) (size:=1) rfl rfl rfl rfl hu29.cells vY))) rfl (cL (ev1 rfl) call101 (fun w hs=>zHA hs (yS (p:=False) id).symm hv8 hu29 oM oM) fun v70 h6 hh6 hr70=>?_)
 obtain⟨_,rfl,vn70,vd70,rfl,hn70,hd70⟩:=hr70
 have hlq70:=zF9 (False) (zB (loN s.1 (kN n))) (zB (2^kN n))
 rw[zL2] at hn70 hd70 hlq70 ⊢
 refine go3 ?_
 refine nA (ρ:=(rpQ (k+140))) (X:=(0:Rat)) yF (yE oM) fun b14 cs14 rb14=>(zO (A:=[]) (uB sizeOf26 pH rb14 (cK ⟨_,_,rfl,hn70,hd70⟩ oM)) fun cs_7 rb_8=>?_)
 refine go7 ?_
 replace hu29:=hu29.mono hh6
 replace hv13:=hv13.mono hh6
 refine gv (yK (ps':=[(1,_),(2,_)]) (vs:=[.bool false,v13,u29]) underlying26 yF rfl (wJ underlying26) e4z (yV (A:=[_]) (B:=[_]) (C:=[_]) (cs:=[_]) (off:=1) (size:=1) rfl rfl rfl rfl hv13.cells (yV (A:=[_,_]) (B:=[_]) (C:=[]) (cs:=[_]) (off:=2) (size:=1) rfl rfl rfl rfl hu29.cells vY))) rfl (cL (ev1 rfl) call101 (fun w hs=>zHA hs (yS (p:=False) id).symm hv13 hu29 oM oM) fun v77 h7 hh7 hr77=>?_)
 obtain⟨_,rfl,vn77,vd77,rfl,hn77,hd77⟩:=hr77
 have hlq77:=zF9 (False) (zB (hiN s.2 (kN n))) (zB (2^kN n))
 rw[zL2] at hn77 hd77 hlq77 ⊢
 refine go3 ?_
 refine nA (ρ:=(rpQ (k+140))) (X:=(0:Rat)) yF (yE oM) fun b16 cs16 rb16=>(zO (A:=[]) (uB sizeOf26 pH rb16 (cK ⟨_,_,rfl,hn77,hd77⟩ oM)) fun cs_9 rb_10=>?_)
 refine go5 ?_
 replace rb_8:=rb_8.mono hh7
 refine lX (xB zV pH rb_8) fun v80 r80=>(lX (xB zV pH rb_10) fun v81 r81=>(lX (xV (ρ:=(rpP (rpQ (k+140)) (rpQ (k+140)))) (xR (ps':=[(0,_),(1,_)]) underlying34 jE rfl rfl (sP underlying34) e4z rfl (yJ (yE oM) (yE oM)) (zJ rfl (Pc.fst (Pc.here _)) r80 (zJ rfl (Pc.snd (Pc.here _)) r81 zX)))) fun v82 r82=>?_))
 replace rb4:=rb4.mono ((((((((hh1.trans hh2).trans hh3).trans hmm1).trans hh4).trans hh5).trans hmm2).trans hh6).trans hh7)
 refine zO (A:=[_,_]) (uB sizeOf34 pH rb4 r82) fun cs_11 rb_12=>?_
 refine go4 ?_
 refine wH (jO (t:=4) zBU mh2 rfl rb_12) ?_
 intro w_13 hvw_13 rr_14
 refine yA (fun E S=>wL rfl hvw_13 (qN rfl) E S) ?_
 refine⟨_,?_,(Rp.Is.cast rr_14 (by unfold zJM;rw[if_neg hneg,←yAE,zVT hneg]))⟩
 unfold rtE;rw[if_neg hneg]
end Go.Proofs.YtboaboflnckgoaaGreat
namespace Go.Proofs.YtboaboflnckgoaaGreat
open Bk Go Tryz
set_option linter.unusedVariables false
set_option linter.unusedSimpArgs false
set_option maxRecDepth 10000
set_option maxHeartbeats 1000000
attribute [local irreducible] GL GC GQ W OpV
theorem zF0{w0:World}{h0:Mem}(hs:MLe h0 (mem w0)){k:Nat}{va:Value}{a:Rat}(ra:(rpQ k).Is h0 va a)(hcd0:k≤4000000000):
    Calls Tryz.prog 53 #[va] w0 (Ret w0 h0 (fun h r=>(rpP (rpQ k) (rpQ k)).Is h r (a,a))):=by
  obtain⟨vna,vda,rfl,hna,hda,hla⟩:=qI ra
  exact(zJF hs hna hda oM).mono (kE fun h r x=>zVQ x oM oM)
theorem zJ5{w0:World}{h0:Mem}(hs:MLe h0 (mem w0)){k l:Nat}{va:Value}{a:(Rat×Rat)}(ra:(rpP (rpQ k) (rpQ k)).Is h0 va a){vb:Value}{b:(Rat×Rat)}(rb:(rpP (rpQ l) (rpQ l)).Is h0 vb b)(hcd0:k+l≤4000000000):
    Calls Tryz.prog 89 #[va,vb] w0 (Ret w0 h0 (fun h r=>(rpP (rpQ (k+l+1)) (rpQ (k+l+1))).Is h r (yAX a b))):=by
  obtain⟨vna0,vda0,vna1,vda1,rfl,hna0,hda0,hna1,hda1,hla0,hla1⟩:=zLY ra
  obtain⟨vnb0,vdb0,vnb1,vdb1,rfl,hnb0,hdb0,hnb1,hdb1,hlb0,hlb1⟩:=zLY rb
  exact(zPE hs hna0 hda0 hna1 hda1 hnb0 hdb0 hnb1 hdb1 oM oM oM oM).mono (kE fun h r x=>zVQ x (by have:=kA a.1 b.1;have:=kA a.2 b.2;omega) (by have:=kA a.1 b.1;have:=kA a.2 b.2;omega))
end Go.Proofs.YtboaboflnckgoaaGreat
namespace Go.Proofs.YtboaboflnckgoaaGreat
open Bk Go Tryz
set_option linter.unusedVariables false
set_option linter.unusedSimpArgs false
set_option maxRecDepth 10000
set_option maxHeartbeats 1000000
attribute [local irreducible] GL GC GQ W OpV
theorem zRA{w0:World}{h0:Mem}(hs:MLe h0 (mem w0)){n m:Int}(hm:0<m)(hm2:m<4611686018427387904):
    Calls Tryz.prog 12 #[vI n,vI m] w0 (Ret w0 h0 (fun _ r=>r=vI (aU n m))):=by
 have htr:=zBX n hm
 refine cb2 14 (vI n) (vI m) func12 hs ?_
 refine go9 ?_
 refine gv (zNO rfl rfl oM) rfl ?_
 refine vX ?_
 refine cnd (fun hc9=>?_) fun hc9=>?_
 ·
  refine tO ?_
  refine zD rfl rfl ?_
  rw[aU,if_pos hc9]
 refine go9 ?_
 refine zD rfl rfl ?_
 rw[aU,if_neg hc9]
end Go.Proofs.YtboaboflnckgoaaGreat
namespace Go.Proofs.YtboaboflnckgoaaGreat
open Bk Go Tryz
set_option linter.unusedVariables false
set_option linter.unusedSimpArgs false
set_option maxRecDepth 10000
set_option maxHeartbeats 1000000
attribute [local irreducible] GL GC GQ W OpV
end Go.Proofs.YtboaboflnckgoaaGreat
namespace Go.Proofs.YtboaboflnckgoaaGreat
open Bk Go Tryz
set_option linter.unusedVariables false
set_option linter.unusedSimpArgs false
set_option maxRecDepth 10000
set_option maxHeartbeats 1000000
attribute [local irreducible] GL GC GQ W OpV
end Go.Proofs.YtboaboflnckgoaaGreat
namespace Go.Proofs.YtboaboflnckgoaaGreat
open Bk Go Tryz
set_option linter.unusedVariables false
set_option linter.unusedSimpArgs false
set_option maxRecDepth 10000
set_option maxHeartbeats 1000000
attribute [local irreducible] GL GC GQ W OpV
theorem zQV{w0:World}{h0:Mem}(hs:MLe h0 (mem w0)){k l:Nat}{va:Value}{a:Tq}(ra:(tPt k).Is h0 va a){vb:Value}{b:Tq}(rb:(tPt l).Is h0 vb b)(hcd0:k+l≤1000000000):
    Calls Tryz.prog 125 #[va,vb] w0 (Ret w0 h0 (fun h r=>(tPt (k+3*l+3)).Is h r (T3.mk (a.x-b.x) (a.y-b.y) (a.z-b.z)))):=by
 refine cb2 20 va vb func125 hs ?_
 refine go2 ?_
 refine nB ra fun b2 cs2 rb2=>(nB rb fun b3 cs3 rb3=>(nA (ρ:=(tPt (k+3*l+3))) (X:=zT) xC (wG (yE oM)) fun b4 cs4 rb4=>?_))
 refine go9 ?_
 refine sZ ?_
 refine go4 ?_
 refine gv (OpV.tr dC (yL (q:=3) rfl rfl)) rfl ?_
 refine go7 ?_
 refine gD 9 (qq 0 7 [(7,.c),(8,.q),(9,.t)]) (by kernel_rfl) ?_
 refine go3 ?_
 refine wX rfl (xB zV (Pc.tx pH) rb2) fun v13u5 r13u5=>?_
 refine go2 ?_
 refine wX rfl (xB zV (Pc.tx pH) rb3) fun v16u5 r16u5=>?_
 refine w_c rfl (sC (ev2 rfl rfl) call16 (fun w hs=>rO hs r13u5 r16u5 oM) fun v17u5 h1 hh1 r17u5=>?_)
 change (rpQ (k+l+1)).Is h1 v17u5 (a.x-b.x) at r17u5
 refine go1 ?_
 replace rb2:=rb2.mono hh1
 have rw_14:=(Le.t (Le.q (l:=k+l+1) oM)).R rb2
 refine yQ (A:=[_,_]) rfl (uB sizeOf26 (Pc.tx pH) rw_14 r17u5) fun cs_15 rb_16=>?_
 refine go5 ?_
 refine gv ((yB (q:=1) rfl rfl oM oM).cv (show _=vI (1) from rfl)) rfl ?_
 refine go2 ?_
 refine vV ?_
 refine go4 ?_
 refine gv (OpV.tr dC (yL (q:=3) rfl rfl)) rfl ?_
 refine go7 ?_
 refine gD 9 (qq 0 7 [(7,.c),(8,.q),(9,.t)]) (by kernel_rfl) ?_
 refine go3 ?_
 refine wX rfl (xB zV (Pc.ty pH) rb_16) fun v13u6 r13u6=>?_
 refine go2 ?_
 refine wX rfl (xB zV (Pc.ty pH) rb3) fun v16u6 r16u6=>?_
 refine w_c rfl (sC (ev2 rfl rfl) call16 (fun w hs=>rO hs r13u6 r16u6 oM) fun v17u6 h2 hh2 r17u6=>?_)
 change (rpQ ((k+l+1)+l+1)).Is h2 v17u6 (a.y-b.y) at r17u6
 replace r17u6:=Rp.Is.le r17u6 (Le.q (l:=k+2*l+2) oM)
 refine go1 ?_
 replace rb_16:=rb_16.mono hh2
 have rw_17:=(Le.t (Le.q (l:=k+2*l+2) oM)).R rb_16
 refine yQ (A:=[_,_]) rfl (uB sizeOf26 (Pc.ty pH) rw_17 r17u6) fun cs_18 rb_19=>?_
 refine go5 ?_
 refine gv ((yB (q:=1) rfl rfl oM oM).cv (show _=vI (2) from rfl)) rfl ?_
 refine go2 ?_
 refine vV ?_
 refine go4 ?_
 refine gv (OpV.tr dC (yL (q:=3) rfl rfl)) rfl ?_
 refine go7 ?_
 refine gD 9 (qq 0 7 [(7,.c),(8,.q),(9,.t)]) (by kernel_rfl) ?_
 refine go3 ?_
 refine wX rfl (xB zV (Pc.tz pH) rb_19) fun v13u7 r13u7=>?_
 refine go2 ?_
 refine wX rfl (xB zV (Pc.tz pH) rb3) fun v16u7 r16u7=>?_
 refine w_c rfl (sC (ev2 rfl rfl) call16 (fun w hs=>rO hs r13u7 r16u7 oM) fun v17u7 h3 hh3 r17u7=>?_)
 change (rpQ ((k+2*l+2)+l+1)).Is h3 v17u7 (a.z-b.z) at r17u7
 replace r17u7:=Rp.Is.le r17u7 (Le.q (l:=k+3*l+3) oM)
 refine go1 ?_
 replace rb_19:=rb_19.mono hh3
 have rw_20:=(Le.t (Le.q (l:=k+3*l+3) oM)).R rb_19
 refine yQ (A:=[_,_]) rfl (uB sizeOf26 (Pc.tz pH) rw_20 r17u7) fun cs_21 rb_22=>?_
 refine go5 ?_
 refine gv ((yB (q:=1) rfl rfl oM oM).cv (show _=vI (3) from rfl)) rfl ?_
 refine go2 ?_
 refine vV ?_
 refine go4 ?_
 refine gv (OpV.fa dC (yL (q:=3) rfl rfl)) rfl ?_
 refine vX ?_
 refine lX (xB zW pH rb_22) fun v19u8 r19u8=>(zO (A:=[]) (uB sizeOf53 pH rb4 r19u8) fun cs_23 rb_24=>?_)
 refine go3 ?_
 refine wH (jO (t:=4) zW mh0 rfl rb_24) ?_
 intro w_25 hvw_25 rr_26
 refine yA (fun E S=>zS rfl hvw_25 E S) ?_
 exact rr_26
theorem zJ9{w0:World}{h0:Mem}(hs:MLe h0 (mem w0)){l k:Nat}{vq:Value}{q:Rat}(rq:(rpQ l).Is h0 vq q){va:Value}{a:Tq}(ra:(tPt k).Is h0 va a)(hcd0:k+l≤1000000000):
    Calls Tryz.prog 111 #[vq,va] w0 (Ret w0 h0 (fun h r=>(tPt (k+3*l+1)).Is h r (T3.mk (q*a.x) (q*a.y) (q*a.z)))):=by
 refine cb2 18 vq va func111 hs ?_
 refine go2 ?_
 refine nB rq fun b2 cs2 rb2=>(nB ra fun b3 cs3 rb3=>(nA (ρ:=(tPt (k+3*l+1))) (X:=zT) xC (wG (yE oM)) fun b4 cs4 rb4=>?_))
 refine go9 ?_
 refine sZ ?_
 refine go4 ?_
 refine gv (OpV.tr dC (yL (q:=3) rfl rfl)) rfl ?_
 refine go7 ?_
 refine gD 7 (qq 0 5 [(5,.c),(6,.q),(7,.t)]) (by kernel_rfl) ?_
 refine go1 ?_
 refine wX rfl (xB zV pH rb2) fun v11u9 r11u9=>?_
 refine go2 ?_
 refine wX rfl (xB zV (Pc.tx pH) rb3) fun v14u9 r14u9=>?_
 refine w_c rfl (sC (ev2 rfl rfl) call9 (fun w hs=>vM hs r11u9 r14u9 oM) fun v15u9 h1 hh1 r15u9=>?_)
 change (rpQ (l+k)).Is h1 v15u9 (q*a.x) at r15u9
 replace r15u9:=Rp.Is.le r15u9 (Le.q (l:=k+l) oM)
 refine go1 ?_
 replace rb3:=rb3.mono hh1
 have rw_27:=(Le.t (Le.q (l:=k+l) oM)).R rb3
 refine yQ (A:=[_]) rfl (uB sizeOf26 (Pc.tx pH) rw_27 r15u9) fun cs_28 rb_29=>?_
 refine go5 ?_
 refine gv ((yB (q:=1) rfl rfl oM oM).cv (show _=vI (1) from rfl)) rfl ?_
 refine go2 ?_
 refine vV ?_
 refine go4 ?_
 refine gv (OpV.tr dC (yL (q:=3) rfl rfl)) rfl ?_
 refine go7 ?_
 refine gD 7 (qq 0 5 [(5,.c),(6,.q),(7,.t)]) (by kernel_rfl) ?_
 refine go1 ?_
 refine wX rfl (xB zV pH rb2) fun v11u10 r11u10=>?_
 refine go2 ?_
 refine wX rfl (xB zV (Pc.ty pH) rb_29) fun v14u10 r14u10=>?_
 refine w_c rfl (sC (ev2 rfl rfl) call9 (fun w hs=>vM hs r11u10 r14u10 oM) fun v15u10 h2 hh2 r15u10=>?_)
 change (rpQ (l+(k+l))).Is h2 v15u10 (q*a.y) at r15u10
 replace r15u10:=Rp.Is.le r15u10 (Le.q (l:=k+2*l) oM)
 refine go1 ?_
 replace rb_29:=rb_29.mono hh2
 have rw_30:=(Le.t (Le.q (l:=k+2*l) oM)).R rb_29
 refine yQ (A:=[_]) rfl (uB sizeOf26 (Pc.ty pH) rw_30 r15u10) fun cs_31 rb_32=>?_
 refine go5 ?_
 refine gv ((yB (q:=1) rfl rfl oM oM).cv (show _=vI (2) from rfl)) rfl ?_
 refine go2 ?_
 refine vV ?_
 refine go4 ?_
 refine gv (OpV.tr dC (yL (q:=3) rfl rfl)) rfl ?_
 refine go7 ?_
 refine gD 7 (qq 0 5 [(5,.c),(6,.q),(7,.t)]) (by kernel_rfl) ?_
 refine go1 ?_
 refine wX rfl (xB zV pH rb2) fun v11u11 r11u11=>?_
 refine go2 ?_
 refine wX rfl (xB zV (Pc.tz pH) rb_32) fun v14u11 r14u11=>?_
 refine w_c rfl (sC (ev2 rfl rfl) call9 (fun w hs=>vM hs r11u11 r14u11 oM) fun v15u11 h3 hh3 r15u11=>?_)
 change (rpQ (l+(k+2*l))).Is h3 v15u11 (q*a.z) at r15u11
 replace r15u11:=Rp.Is.le r15u11 (Le.q (l:=k+3*l) oM)
 refine go1 ?_
 replace rb_32:=rb_32.mono hh3
 have rw_33:=(Le.t (Le.q (l:=k+3*l) oM)).R rb_32
 refine yQ (A:=[_]) rfl (uB sizeOf26 (Pc.tz pH) rw_33 r15u11) fun cs_34 rb_35=>?_
 refine go5 ?_
 refine gv ((yB (q:=1) rfl rfl oM oM).cv (show _=vI (3) from rfl)) rfl ?_
 refine go2 ?_
 refine vV ?_
 refine go4 ?_
 refine gv (OpV.fa dC (yL (q:=3) rfl rfl)) rfl ?_
 refine vX ?_
 refine lX (xB zW pH rb_35) fun v17u12 r17u12=>(zO (A:=[]) (uB sizeOf53 pH rb4 (r17u12.le (Le.t (Le.q (l:=k+3*l+1) oM)))) fun cs_36 rb_37=>?_)
 refine go3 ?_
 refine wH (jO (t:=4) zW mh0 rfl rb_37) ?_
 intro w_38 hvw_38 rr_39
 refine yA (fun E S=>zS rfl hvw_38 E S) ?_
 exact rr_39
theorem iZ{w0:World}{h0:Mem}(hs:MLe h0 (mem w0)){x:Int}(hx1:-9223372036854775808≤x)(hx2:x<9223372036854775808){y:Int}(hy1:-9223372036854775808≤y)(hy2:y<9223372036854775808){z:Int}(hz1:-9223372036854775808≤z)(hz2:z<9223372036854775808):
    Calls Tryz.prog 45 #[vI x,vI y,vI z] w0 (Ret w0 h0 (fun h r=>(tPt 2).Is h r (T3.mk ((x:Int):Rat) ((y:Int):Rat) ((z:Int):Rat)))):=by
 refine cb3 14 (vI x) (vI y) (vI z) func45 hs ?_
 refine go2 ?_
 refine nA (ρ:=(tPt 1)) (X:=zT) xC (wG (yE dC)) fun b6 cs6 rb6=>?_
 refine go5 ?_
 refine cL (ev1 rfl) call39 (fun w hs=>jT hs oM oM) fun v8 h1 hh1 r8=>?_
 refine go1 ?_
 refine cL (ev1 rfl) call39 (fun w hs=>jT hs oM oM) fun v10 h2 hh2 r10=>?_
 refine go1 ?_
 refine cL (ev1 rfl) call39 (fun w hs=>jT hs oM oM) fun v12 h3 hh3 r12=>?_
 replace r8:=r8.mono (hh2.trans hh3)
 replace r10:=r10.mono hh3
 refine lX (xV (ρ:=(tPt 2)) (wQ (ps':=[(0,_),(1,_),(2,_)]) underlying53 xC rfl rfl sizeOf26 e6 rfl (wG (yE dC)) (zJ rfl (Pc.tx (Pc.here _)) r8 (zJ rfl (Pc.ty (Pc.here _)) r10 (zJ rfl (Pc.tz (Pc.here _)) r12 zX))))) fun v13 r13=>?_
 replace rb6:=rb6.mono ((hh1.trans hh2).trans hh3)
 have rw_40:=(Le.t (Le.q (l:=2) dC)).R rb6
 refine zO (A:=[]) (uB sizeOf53 pH rw_40 r13) fun cs_41 rb_42=>?_
 refine go3 ?_
 refine wH (jO (t:=6) zW mh0 rfl rb_42) ?_
 intro w_43 hvw_43 rr_44
 refine yA (fun E S=>zS rfl hvw_43 E S) ?_
 exact rr_44
end Go.Proofs.YtboaboflnckgoaaGreat
namespace Bk
set_option linter.unusedVariables false
set_option linter.unusedSimpArgs false
open Go Go.RowKit
open Classical
abbrev Pl:=Pt×Rat
theorem zTK{x:Rat}:yX x=1↔0<x:=by
  have h2:=xM x;rw[←dY];omega
theorem iC{a b:Pt}:a=b↔a.x=b.x∧a.y=b.y∧a.z=b.z:=by cases a;cases b;exact T3.mk.injEq ..▸Iff.rfl
noncomputable def axI(n:Pt):Nat:=if 0<n.z then 0 else if n.z<0 then 1 else if 0<n.y then 2 else if n.y<0 then 0 else if 0<n.x then 1 else if n.x<0 then 2 else 1
noncomputable def axJ(n:Pt):Nat:=if 0<n.z then 1 else if n.z<0 then 0 else if 0<n.y then 0 else if n.y<0 then 2 else if 0<n.x then 2 else if n.x<0 then 1 else 2
noncomputable def axK(n:Pt):Nat:=if n.z≠0 then 2 else if n.y≠0 then 1 else 0
theorem zSM(n:Pt):(0<n.z∧axI n=0∧axJ n=1∧axK n=2)∨(n.z<0∧axI n=1∧axJ n=0∧axK n=2)∨(n.z=0∧0<n.y∧axI n=2∧axJ n=0∧axK n=1)∨(n.z=0∧n.y<0∧axI n=0∧axJ n=2∧axK n=1)∨
    (n.z=0∧n.y=0∧0<n.x∧axI n=1∧axJ n=2∧axK n=0)∨(n.z=0∧n.y=0∧n.x<0∧axI n=2∧axJ n=1∧axK n=0)∨(n.z=0∧n.y=0∧n.x=0∧axI n=1∧axJ n=2∧axK n=0):=by
  have tri:∀a:Rat,0<a∨(a<0∧¬0<a)∨(a=0∧¬0<a∧¬a<0):=fun a=>by grind
  unfold axI axJ axK
  rcases tri n.z with h|⟨h,h'⟩|⟨h,h',h''⟩
  · left;simp only[if_pos h,if_pos (show n.z≠0 by grind)];exact⟨h,trivial,trivial,trivial⟩
  · right;left;simp only[if_neg h',if_pos h,if_pos (show n.z≠0 by grind)];exact⟨h,trivial,trivial,trivial⟩
  · simp only[if_neg h',if_neg h'',if_neg (show ¬n.z≠0 by grind)]
    rcases tri n.y with k|⟨k,k'⟩|⟨k,k',k''⟩
    · right;right;left;simp only[if_pos k,if_pos (show n.y≠0 by grind)];exact⟨h,k,trivial,trivial,trivial⟩
    · right;right;right;left;simp only[if_neg k',if_pos k,if_pos (show n.y≠0 by grind)];exact⟨h,k,trivial,trivial,trivial⟩
    · simp only[if_neg k',if_neg k'',if_neg (show ¬n.y≠0 by grind)]
      rcases tri n.x with l|⟨l,l'⟩|⟨l,l',l''⟩
      · right;right;right;right;left;simp only[if_pos l];exact⟨h,k,l,trivial,trivial,trivial⟩
      · right;right;right;right;right;left;simp only[if_neg l',if_pos l];exact⟨h,k,l,trivial,trivial,trivial⟩
      · right;right;right;right;right;right;simp only[if_neg l',if_neg l''];exact⟨h,k,l,trivial,trivial,trivial⟩
theorem zSL(n:Pt):axI n+axJ n≤3∧axI n<3∧axJ n<3∧axK n=3-axI n-axJ n:=by
  rcases zSM n with h|h|h|h|h|h|h<;>omega
theorem zSO(n:Pt):axI n<3:=(zSL n).2.1
theorem zSN(n:Pt):axJ n<3:=(zSL n).2.2.1
noncomputable def cE(pl:Pl)(p:Pt):Pt:=T3.mk (p.at (axI pl.1)) (p.at (axJ pl.1)) (0:Rat)
noncomputable def yAF(pl:Pl)(q:Pt):Rat:=if pl.1.at (axK pl.1)=0 then 0 else(pl.2-(pl.1.at (axI pl.1)*q.x+pl.1.at (axJ pl.1)*q.y))/pl.1.at (axK pl.1)
noncomputable def liftZ(pl:Pl)(q:Pt):Pt:=if pl.1.at (axK pl.1)=0 then T3.mk (0:Rat) 0 0 else(((T3.mk (0:Rat) 0 0).set (axI pl.1) q.x).set (axJ pl.1) q.y).set (axK pl.1) (yAF pl q)
def jL(a b:Pt):Rat:=a.x*b.x+a.y*b.y+a.z*b.z
def rC(a b:Pt):Pt:=T3.mk (a.y*b.z-a.z*b.y) (a.z*b.x-a.x*b.z) (a.x*b.y-a.y*b.x)
def g7(a b:Pt):Pt:=T3.mk (a.x-b.x) (a.y-b.y) (a.z-b.z)
theorem zG0(a:Rat):wB a 0=yX a:=by rw[zR8,show a-0=a by grind]
theorem zPK{c:Rat}(hc:0<c)(x:Rat):yX (c*x)=yX x:=by
  have h:=zR9 x 0 c
  rw[Rat.zero_mul,zG0,zG0,zTK.2 hc,Int.mul_one,Rat.mul_comm] at h
  exact h
end Bk
namespace Bk
set_option linter.unusedVariables false
set_option linter.unusedSimpArgs false
open Classical
def i3(x y z:Int):Pt:=T3.mk ((x:Int):Rat) ((y:Int):Rat) ((z:Int):Rat)
abbrev bdI(z:Int)(n:Nat):Prop:=z.natAbs≤n
def smN(e:Pl):Prop:=∃a b c d:Int,(bdI a 2∧bdI b 2∧bdI c 2∧bdI d 30)∧e=(i3 a b c,(d:Rat)/2)
def zRN(q:Rat)(n:Nat):Prop:=∃z:Int,bdI z n∧q=(z:Rat)/2
def spP(p:Pt):Prop:=zRN p.x 9∧zRN p.y 9∧zRN p.z 9
abbrev rows7:List (T3 Int):=[T3.mk 1 0 0,T3.mk 0 1 0,T3.mk 0 0 1,T3.mk 1 1 0,T3.mk (-1) 0 0,T3.mk 1 (-1) 2,T3.mk 0 2 1]
end Bk
namespace Go.Proofs.YtboaboflnckgoaaGreat
open Bk Go Tryz
set_option linter.unusedVariables false
set_option linter.unusedSimpArgs false
set_option maxRecDepth 10000
set_option maxHeartbeats 1000000
attribute [local irreducible] GL GC GQ W OpV
theorem zT6{w0:World}{h0:Mem}(hs:MLe h0 (mem w0)){qa:Rat}{vna vda:Value}(hna:Us .u32 h0 vna (zB qa.num.natAbs))(hda:Us .u32 h0 vda (zB (xT qa.den)))(hqa:lq qa≤100000000000):
    Calls Tryz.prog 54 #[.agg #[vB (qa.num<0),vna,vda]] w0 (Ret w0 h0 (fun h r=>wD h r qa)):=by
 have hlna:=wE qa
 have hlda:=wM qa
 have hlDa:=wC qa
 refine cb1 12 (.agg #[vB (qa.num<0),vna,vda]) func54 hs ?_
 refine go2 ?_
 refine zG (xD (cs:=[_,_,_]) rfl rfl) rfl rfl rfl ?_
 intro v1 r1 hr1
 obtain⟨b1,rfl,rfl⟩:=hr1
 refine zG (xN (cs:=[vB ((0:Rat).num<0),.slice none 0 0,.slice none 0 0]) yF rfl (by simp only[zb];rfl)) rfl rfl rfl ?_
 intro v2 r2 hr2
 obtain⟨b2,rfl,rfl⟩:=hr2
 refine go3 ?_
 refine gD 9 (qq 0 4 [(5,.q),(6,.q),(4,.c),(7,.c),(8,.c),(9,.t)]) (by kernel_rfl) ?_
 refine go6 ?_
 refine w_c rfl ?_
 refine rJ (vs:=[_]) call103 ⟨rfl,trivial⟩ (fun w hs=>rY hs hna oM) rfl ?_
 intro v7 h1 L7 hh1 hr7
 obtain rfl:=hr7
 refine w_c rfl ?_
 replace hda:=hda.mono hh1
 refine rJ (vs:=[_]) call103 ⟨rfl,trivial⟩ (fun w hs=>rY hs hda oM) rfl ?_
 intro v10 h2 L10 hh2 hr10
 obtain rfl:=hr10
 refine w_c rfl ?_
 replace hna:=hna.mono (hh1.trans hh2)
 refine pA (A:=[_]) (by exact hna.lt) (by simp only[List.mem_cons,List.not_mem_nil,or_false];rintro r (rfl|rfl) _<;>simp) ?_
 intro h3 hh3 hc1
 replace hda:=hda.mono (hh2.trans hh3)
 refine pA (A:=[]) (by exact hda.lt) (by simp only[List.mem_cons,List.not_mem_nil,or_false];rintro r (rfl|rfl) _<;>simp) ?_
 intro h4 hh4 hc2
 replace hc1:=hc1.mono hh4
 refine zLM (fun X=>yK (ps':=[(0,_),(1,_),(2,_)]) (vs:=[vB (qa.num<0),v7,v10]) underlying26 yF rfl (wJ underlying26) e6 (yV (A:=[]) (B:=[_]) (C:=[_,_]) (cs:=[_]) (off:=0) (size:=1) rfl rfl rfl rfl rfl (yV (A:=[_]) (B:=[_]) (C:=[_]) (cs:=[_]) (off:=1) (size:=1) rfl rfl rfl rfl hc1.cells (yV (A:=[_,_]) (B:=[_]) (C:=[]) (cs:=[_]) (off:=2) (size:=1) rfl rfl rfl rfl hc2.cells vY)))) rfl (kC (A:=[]) (q':=.var b2 26 [vB (qa.num<0),v7,v10]) rfl (zF (k:=0) (cs:=[_,_,_]) (vs:=[_,_,_]) rfl rfl rfl (ocr rfl (ocu hc1 (ocu hc2 oc0))) zP (bL rfl)) rfl ?_)
 refine go3 ?_
 refine yA (fun E S=>zS rfl (yZ (cs:=[_,_,_]) mh0 underlying26 rfl zP rfl) E S) ?_
 exact⟨_,_,rfl,hc1,hc2⟩
theorem zEL{w0:World}{h0:Mem}(hs:MLe h0 (mem w0)){k:Nat}{va:Value}{a:Rat}(ra:(rpQ k).Is h0 va a)(hcd0:k≤10000000000):
    Calls Tryz.prog 54 #[va] w0 (Ret w0 h0 (fun h r=>(rpQ k).Is h r a)):=by
  obtain⟨vna,vda,rfl,hna,hda,hla⟩:=qI ra
  exact(zT6 hs hna hda oM).mono (kE fun h r x=>cK x oM)
theorem s5{w0:World}{h0:Mem}(hs:MLe h0 (mem w0)){k l:Nat}{va:Value}{a:Tq}(ra:(tPt k).Is h0 va a){vb:Value}{b:Tq}(rb:(tPt l).Is h0 vb b)(hcd0:k+l≤1000000000):
    Calls Tryz.prog 27 #[va,vb] w0 (Ret w0 h0 (fun _ r=>r=vB (a=b))):=by
 refine cb2 24 va vb func27 hs ?_
 refine go2 ?_
 refine nB ra fun b2 cs2 rb2=>(nB rb fun b3 cs3 rb3=>?_)
 refine go6 ?_
 refine lX (xB zV (Pc.tx pH) rb2) fun v6 r6=>?_
 refine go1 ?_
 refine lX (xB zV (Pc.tx pH) rb3) fun v8 r8=>(cL (ev2 rfl rfl) call15 (fun w hs=>vS hs r6 r8 oM) fun v9 h1 hh1 r9=>?_)
 obtain rfl:v9=vB (a.x=b.x):=r9
 refine uY (ι:=Mem) 7 (fun m_=>MLe h1 m_) (fun _=>[(16,vB ((a.x=b.x)∧(a.y=b.y))),(2,vP b2 0),(3,vP b3 0)]) (fun _=>[.var b3 53 cs3,.var b2 53 cs2]) (fun m_=>m_) ?_ ?_
 ·
  refine zY (a.x=b.x) (fun hg=>?_) (fun hg=>?_)
  ·
   refine gT hg rfl ?_
   refine go3 ?_
   refine lX (xB zV (Pc.ty pH) rb2) fun v12 r12=>?_
   refine go3 ?_
   refine lX (xB zV (Pc.ty pH) rb3) fun v14 r14=>?_
   refine go1 ?_
   refine cL (ev2 rfl rfl) call15 (fun w hs=>vS hs r12 r14 oM) fun v15 h2 hh2 r15=>?_
   obtain rfl:v15=vB (a.y=b.y):=r15
   refine go2 ?_
   refine zN h2 hh2 ⟨?_,rfl,rfl,trivial⟩ rfl rfl
   exact congrArg some (xH hg)
  refine gF hg rfl ?_
  refine go7 ?_
  refine zN h1 (MLe.refl _) ⟨?_,rfl,rfl,trivial⟩ rfl rfl
  exact congrArg some (xJ hg)
 intro mg1_5 hmmg1_5
 refine tL ?_
 refine uY (ι:=Mem) 7 (fun m_=>MLe mg1_5 m_) (fun _=>[(23,vB (((a.x=b.x)∧(a.y=b.y))∧(a.z=b.z)))]) (fun _=>[.var b3 53 cs3,.var b2 53 cs2]) (fun m_=>m_) ?_ ?_
 ·
  refine zY ((a.x=b.x)∧(a.y=b.y)) (fun hg=>?_) (fun hg=>?_)
  ·
   refine gT hg rfl ?_
   refine go3 ?_
   refine lX (xB zV (Pc.tz pH) rb2) fun v19 r19=>?_
   refine go3 ?_
   refine lX (xB zV (Pc.tz pH) rb3) fun v21 r21=>?_
   refine go1 ?_
   refine cL (ev2 rfl rfl) call15 (fun w hs=>vS hs r19 r21 oM) fun v22 h2 hh2 r22=>?_
   obtain rfl:v22=vB (a.z=b.z):=r22
   refine go2 ?_
   refine zN h2 hh2 ⟨?_,trivial⟩ rfl rfl
   exact congrArg some (xH hg)
  refine gF hg rfl ?_
  refine go7 ?_
  refine zN mg1_5 (MLe.refl _) ⟨?_,trivial⟩ rfl rfl
  exact congrArg some (xJ hg)
 intro mg1_12 hmmg1_12
 refine tL ?_
 refine go4 ?_
 refine zD rfl rfl ?_
 first|exact fJ (by rw[iC];grind)|exact(xL (by rw[iC];grind)).symm|exact(yS (by rw[iC];grind)).symm
theorem zNU{w0:World}{h0:Mem}(hs:MLe h0 (mem w0)){k:Nat}{va:Value}{a:Tq}(ra:(tPt k).Is h0 va a)(hcd0:k≤1000000):
    Calls Tryz.prog 42 #[va] w0 (Ret w0 h0 (fun _ r=>r=vB (a=zT))):=by
 refine cb1 6 va func42 hs ?_
 refine go2 ?_
 refine nB ra fun b1 cs1 rb1=>?_
 refine go5 ?_
 refine lX (xB zW pH rb1) fun v3 r3=>(lX (xV (ρ:=(tPt 1)) (wQ (ps':=[]) underlying53 xC rfl rfl sizeOf26 trivial rfl (wG (yE dC)) zX)) fun v4 r4=>(cL (ev2 rfl rfl) call27 (fun w hs=>s5 hs r3 r4 oM) fun v5 h1 hh1 r5=>?_))
 obtain rfl:v5=vB (a=zT):=r5
 refine go4 ?_
 refine zD rfl rfl ?_
 rfl
theorem w8{w0:World}{h0:Mem}(hs:MLe h0 (mem w0)){k l:Nat}{va:Value}{a:Tq}(ra:(tPt k).Is h0 va a){vb:Value}{b:Tq}(rb:(tPt l).Is h0 vb b)(hcd0:k+l≤1000000000):
    Calls Tryz.prog 44 #[va,vb] w0 (Ret w0 h0 (fun h r=>(rpQ (3*k+3*l+9)).Is h r (jL a b))):=by
 refine cb2 21 va vb func44 hs ?_
 refine go2 ?_
 refine nB ra fun b2 cs2 rb2=>(nB rb fun b3 cs3 rb3=>(nA (ρ:=(rpQ (3*k+3*l+9))) (X:=(0:Rat)) yF (yE oM) fun b4 cs4 rb4=>?_))
 refine go4 ?_
 refine nA (ρ:=(rpQ 1)) (X:=(0:Rat)) yF (yE dC) fun b5 cs5 rb5=>?_
 refine go9 ?_
 refine sZ ?_
 refine go4 ?_
 refine gv (OpV.tr dC (yL (q:=3) rfl rfl)) rfl ?_
 refine go7 ?_
 refine gD 9 (qq 0 7 [(7,.c),(8,.c),(9,.t)]) (by kernel_rfl) ?_
 refine wX rfl (xB zV pH rb5) fun v11u1 r11u1=>?_
 refine go2 ?_
 refine wX rfl (xB zV (Pc.tx pH) rb2) fun v14u1 r14u1=>?_
 refine go2 ?_
 refine wX rfl (xB zV (Pc.tx pH) rb3) fun v17u1 r17u1=>?_
 refine w_c rfl (sC (ev2 rfl rfl) call9 (fun w hs=>vM hs r14u1 r17u1 oM) fun v18u1 h1 hh1 r18u1=>?_)
 change (rpQ (k+l)).Is h1 v18u1 (a.x*b.x) at r18u1
 refine w_c rfl (sC (ev2 rfl rfl) call37 (fun w hs=>tX hs r11u1.up r18u1 oM) fun v19u1 h2 hh2 r19u1=>?_)
 change (rpQ (1+(k+l)+1)).Is h2 v19u1 ((0:Rat)+(a.x*b.x)) at r19u1
 replace r19u1:=Rp.Is.le r19u1 (Le.q (l:=k+l+2) oM)
 replace rb5:=rb5.mono (hh1.trans hh2)
 have rw_1:=(Le.q (l:=k+l+2) oM).R rb5
 refine yQ (A:=[]) rfl (uB sizeOf26 pH rw_1 r19u1) fun cs_2 rb_3=>?_
 refine go5 ?_
 refine gv ((yB (q:=1) rfl rfl oM oM).cv (show _=vI (1) from rfl)) rfl ?_
 refine go2 ?_
 refine vV ?_
 refine go4 ?_
 refine gv (OpV.tr dC (yL (q:=3) rfl rfl)) rfl ?_
 refine go7 ?_
 refine gD 9 (qq 0 7 [(7,.c),(8,.c),(9,.t)]) (by kernel_rfl) ?_
 refine wX rfl (xB zV pH rb_3) fun v11u2 r11u2=>?_
 refine go2 ?_
 refine wX rfl (xB zV (Pc.ty pH) rb2) fun v14u2 r14u2=>?_
 refine go2 ?_
 refine wX rfl (xB zV (Pc.ty pH) rb3) fun v17u2 r17u2=>?_
 refine w_c rfl (sC (ev2 rfl rfl) call9 (fun w hs=>vM hs r14u2 r17u2 oM) fun v18u2 h3 hh3 r18u2=>?_)
 change (rpQ (k+l)).Is h3 v18u2 (a.y*b.y) at r18u2
 refine w_c rfl (sC (ev2 rfl rfl) call37 (fun w hs=>tX hs r11u2.up r18u2 oM) fun v19u2 h4 hh4 r19u2=>?_)
 change (rpQ ((k+l+2)+(k+l)+1)).Is h4 v19u2 (((0:Rat)+(a.x*b.x))+(a.y*b.y)) at r19u2
 replace r19u2:=Rp.Is.le r19u2 (Le.q (l:=2*k+2*l+3) oM)
 replace rb_3:=rb_3.mono (hh3.trans hh4)
 have rw_4:=(Le.q (l:=2*k+2*l+3) oM).R rb_3
 refine yQ (A:=[]) rfl (uB sizeOf26 pH rw_4 r19u2) fun cs_5 rb_6=>?_
 refine go5 ?_
 refine gv ((yB (q:=1) rfl rfl oM oM).cv (show _=vI (2) from rfl)) rfl ?_
 refine go2 ?_
 refine vV ?_
 refine go4 ?_
 refine gv (OpV.tr dC (yL (q:=3) rfl rfl)) rfl ?_
 refine go7 ?_
 refine gD 9 (qq 0 7 [(7,.c),(8,.c),(9,.t)]) (by kernel_rfl) ?_
 refine wX rfl (xB zV pH rb_6) fun v11u3 r11u3=>?_
 refine go2 ?_
 refine wX rfl (xB zV (Pc.tz pH) rb2) fun v14u3 r14u3=>?_
 refine go2 ?_
 refine wX rfl (xB zV (Pc.tz pH) rb3) fun v17u3 r17u3=>?_
 refine w_c rfl (sC (ev2 rfl rfl) call9 (fun w hs=>vM hs r14u3 r17u3 oM) fun v18u3 h5 hh5 r18u3=>?_)
 change (rpQ (k+l)).Is h5 v18u3 (a.z*b.z) at r18u3
 refine w_c rfl (sC (ev2 rfl rfl) call37 (fun w hs=>tX hs r11u3.up r18u3 oM) fun v19u3 h6 hh6 r19u3=>?_)
 change (rpQ ((2*k+2*l+3)+(k+l)+1)).Is h6 v19u3 ((((0:Rat)+(a.x*b.x))+(a.y*b.y))+(a.z*b.z)) at r19u3
 replace r19u3:=Rp.Is.le r19u3 (Le.q (l:=3*k+3*l+4) oM)
 replace rb_6:=rb_6.mono (hh5.trans hh6)
 have rw_7:=(Le.q (l:=3*k+3*l+4) oM).R rb_6
 refine yQ (A:=[]) rfl (uB sizeOf26 pH rw_7 r19u3) fun cs_8 rb_9=>?_
 refine go5 ?_
 refine gv ((yB (q:=1) rfl rfl oM oM).cv (show _=vI (3) from rfl)) rfl ?_
 refine go2 ?_
 refine vV ?_
 refine go4 ?_
 refine gv (OpV.fa dC (yL (q:=3) rfl rfl)) rfl ?_
 refine vX ?_
 refine lX (xB zV pH rb_9) fun v20u4 r20u4=>(zO (A:=[_]) (uB sizeOf26 pH rb4 (r20u4.le (Le.q (l:=3*k+3*l+9) oM))) fun cs_10 rb_11=>?_)
 refine go3 ?_
 refine wH (jO (t:=4) zV mh1 rfl rb_11) ?_
 intro w_12 hvw_12 rr_13
 refine yA (fun E S=>zS rfl hvw_12 E S) ?_
 exact(Rp.Is.cast rr_13 (by unfold jL;grind))
end Go.Proofs.YtboaboflnckgoaaGreat
namespace Bk
set_option linter.unusedVariables false
set_option linter.unusedSimpArgs false
open Classical
def zDU(r:Rat)(n:Int):Prop:=¬((yX r<0∨n<0)∨64<n)
noncomputable def jV(r:Rat)(n:Int):Rat:=if zDU r n then qE r n else 0
noncomputable def gA(r:Rat)(n:Int):Rat:=if zDU r n then oC r n else 0
theorem zEN{r:Rat}{n:Int}(h:(yX r<0∨n<0)∨64<n):jV r n=0∧gA r n=0∧¬zDU r n:=⟨if_neg fun e=>e h,if_neg fun e=>e h,fun e=>e h⟩
theorem hH{r:Rat}{n:Int}(h:¬((yX r<0∨n<0)∨64<n)):jV r n=qE r n∧gA r n=oC r n∧¬r<0∧zDU r n:=⟨if_pos h,if_pos h,fun e=>h (.inl (.inl (uR.2 e))),h⟩
theorem zVP{r:Rat}{n:Int}(h:¬((yX r<0∨n<0)∨64<n)):(↑(kN n):Int)=n∧kN n≤64:=by unfold kN;omega
theorem zO5:wN 1 1=ovQ 1 0:=by
  have h2:wN 1 1=1/1:=rfl
  unfold ovQ
  have e0:((1:Nat):Rat)=1:=rfl
  have e1:((2^0:Nat):Rat)=1:=rfl
  rw[h2,e0]
theorem zHI(a K:Nat):ovQ a K=ovQ (2*a) (K+1):=by
  have hp:=zHG K
  have e1:((2^(K+1):Nat):Rat)=((2^K:Nat):Rat)*2:=by rw[Nat.pow_succ,Rat.natCast_mul];rfl
  have e2:((2*a:Nat):Rat)=2*(a:Rat):=by rw[Rat.natCast_mul];rfl
  unfold ovQ
  rw[e1,e2]
  generalize ((2^K:Nat):Rat)=P at *
  grind
theorem zPT(K:Nat):((1:Int):Rat)=ovQ (2^0*2^K) K:=by
  have hp:=zHG K
  have e2:((1:Int):Rat)=1:=rfl
  unfold ovQ
  rw[Nat.pow_zero,Nat.one_mul,e2]
  generalize ((2^K:Nat):Rat)=P at *
  grind
theorem zXC(j K:Nat):ovQ (2^j*2^K) K+ovQ (2^j*2^K) K=ovQ (2^(j+1)*2^K) K:=by
  rw[s2,Nat.pow_succ]
  congr 1
  rw[Nat.mul_right_comm];omega
theorem zLN(r:Rat)(K:Nat):2^0*2^K≤bY r K:=by
  unfold bY
  exact Nat.mul_le_mul_right _ (by rw[Nat.pow_zero];exact Nat.le_add_left 1 _)
theorem zW8{r:Rat}{j K:Nat}(h:(2^j*2^K)*(2^j*2^K)≤flN r K):2^(j+1)*2^K≤bY r K:=by
  unfold flN at h
  have hD:0<r.den:=Nat.pos_of_ne_zero r.den_nz
  have hP:0<2^K:=Nat.pow_pos (by omega)
  have ha:0<2^j:=Nat.pow_pos (by omega)
  rw[Nat.le_div_iff_mul_le hD] at h
  unfold bY
  refine Nat.mul_le_mul_right _ ?_
  rw[Nat.pow_succ]
  generalize 2^K=P at *
  generalize 2^j=a at *
  have h1:a*a*r.den≤r.num.natAbs:=by
    refine Nat.le_of_mul_le_mul_right (c:=P*P) ?_ (Nat.mul_pos hP hP)
    refine Nat.le_trans (Nat.le_of_eq ?_) (Nat.le_trans h (Nat.le_of_eq ?_))
    · grind
    · grind
  rw[←Nat.le_div_iff_mul_le hD] at h1
  obtain⟨b,rfl⟩:∃b,a=b+1:=⟨a-1,by omega⟩
  have h2:(b+1)*(b+1)=b*b+2*b+1:=by grind
  have h3:0≤b*b:=Nat.zero_le _
  omega
theorem zXB{j K T:Nat}(h:2^(j+1)*2^K≤T):T-2^(j+1)*2^K<T-2^j*2^K:=by
  have h1:0<2^j*2^K:=Nat.mul_pos (Nat.pow_pos (by omega)) (Nat.pow_pos (by omega))
  have h2:2^(j+1)*2^K=2*(2^j*2^K):=by rw[Nat.pow_succ,Nat.mul_right_comm,Nat.mul_comm]
  omega
theorem zVD(j K:Nat):ovQ (2^j*2^K) K=ovQ (2^(j+K+1)) (K+1):=by
  rw[zHI,Nat.pow_succ,Nat.pow_add,Nat.mul_comm]
theorem zWK(r:Rat)(K:Nat):bY r (K+1)=2*bY r K:=by
  unfold bY;rw[Nat.pow_succ];grind
theorem zG6{t:Nat}(K:Nat)(ht:1≤t):ovQ (2^t) K*wN 1 2=ovQ (2^(t-1)) K:=by
  obtain⟨u,rfl⟩:∃u,t=u+1:=⟨t-1,by omega⟩
  have h2:wN 1 2=1/2:=rfl
  have hp:=zHG K
  have e1:((2^(u+1):Nat):Rat)=((2^u:Nat):Rat)*2:=by rw[Nat.pow_succ,Rat.natCast_mul];rfl
  rw[Nat.add_sub_cancel]
  unfold ovQ
  rw[h2,e1]
  generalize ((2^K:Nat):Rat)=P at *
  grind
theorem mI{a b:Rat}:0≤wB a b↔b≤a:=by unfold wB;grind
theorem zLO(t K:Nat):0≤wB (ovQ (2^t) (K+1)) (ovQ 1 K)↔1≤t:=by
  rw[mI,zHI 1 K,zVH]
  constructor
  · intro h
    refine Nat.pos_of_ne_zero fun e=>?_
    rw[e] at h
    simp at h
  · intro h
    exact Nat.pow_le_pow_right (n:=2) (by omega) h
theorem zXA{r:Rat}(hr:0≤r){X K:Nat}(h1:X*X≤flN r (K+1))(h2:flN r (K+1)<(X+2)*(X+2))(h3:2∣X):ovQ X (K+1)=ovQ (sqN (flN r K)) K:=by
  obtain⟨y,rfl⟩:=h3
  rw[←bD hr,←zHI] at h1
  rw[←y8 hr,show 2*y+2=2*(y+1) by omega,←zHI] at h2
  rw[←zHI]
  exact zNI ((bD hr _ _).1 h1) ((y8 hr _ _).1 h2) (Nat.lt_succ_self y) (by omega)
theorem zW9{r:Rat}(hr:0≤r){j K:Nat}(h:¬wB (ovQ (2^j*2^K) K*ovQ (2^j*2^K) K) r≤0):flN r (K+1)<(0+2^(j+K+1+1))*(0+2^(j+K+1+1)):=by
  have h1:r<ovQ (2^j*2^K) K*ovQ (2^j*2^K) K:=Rat.not_le.1 fun e=>h (by unfold wB;grind)
  rw[zVD,y8 hr] at h1
  have h2:2^(j+K+1)≤2^(j+K+1+1):=Nat.pow_le_pow_right (by omega) (by omega)
  rw[Nat.zero_add]
  exact Nat.lt_of_lt_of_le h1 (Nat.mul_le_mul h2 h2)
theorem zM9{r:Rat}{x K:Nat}(h:x*x≤flN r K):x≤bY r K:=by
  refine Nat.not_lt.1 fun e=>?_
  have h1:=zO9 r K
  have h2:=Nat.mul_le_mul (Nat.le_of_lt e) (Nat.le_of_lt e)
  omega
theorem y6{t:Nat}(ht:1≤t):2^(t-1)≤2^t:=Nat.pow_le_pow_right (by omega) (by omega)
theorem zPS{F X t:Nat}(ht:1≤t)(h2:F<(X+2^(t+1))*(X+2^(t+1)))(h3:2^(t+1)∣X):F<(X+2^t+2^(t-1+1))*(X+2^t+2^(t-1+1))∧2^(t-1+1)∣X+2^t:=by
  rw[Nat.sub_add_cancel ht]
  refine⟨by rw[Nat.add_assoc,show 2^t+2^t=2^(t+1) by rw[Nat.pow_succ];omega];exact h2,Nat.dvd_add (Nat.dvd_trans ⟨2,by rw[Nat.pow_succ]⟩ h3) (Nat.dvd_refl _)⟩
theorem zVE{F X t:Nat}(ht:1≤t)(h2:¬(X+2^t)*(X+2^t)≤F)(h3:2^(t+1)∣X):F<(X+2^(t-1+1))*(X+2^(t-1+1))∧2^(t-1+1)∣X:=by
  rw[Nat.sub_add_cancel ht]
  exact⟨by omega,Nat.dvd_trans ⟨2,by rw[Nat.pow_succ]⟩ h3⟩
theorem zFL{r:Rat}{n:Int}(h0:¬r<0)(h:qE r n*qE r n=r):qE r n=oC r n:=zTO h0 (by rw[h];exact Rat.lt_irrefl)
theorem zB4{r:Rat}(h0:¬r<0)(n:Int):qE r n*qE r n≤r:=(bD (Rat.not_lt.1 h0) _ _).2 (iR _)
theorem zPU{r:Rat}{n:Int}(h0:¬r<0)(h:¬qE r n*qE r n=r):qE r n+ovQ 1 (kN n)=oC r n:=zTN h0 (by have:=zB4 h0 n;grind)
theorem zQ9{r:Rat}(h:¬r<0):tY r 0=r:=by unfold tY;grind
theorem zZ8{a:Rat}(n:Int)(h:¬a<0):zJM a a n=qE a n:=by unfold zJM;rw[if_neg h,zQ9 h]
end Bk
namespace Go.Proofs.YtboaboflnckgoaaGreat
open Bk Go Tryz
set_option linter.unusedVariables false
set_option linter.unusedSimpArgs false
set_option maxRecDepth 10000
set_option maxHeartbeats 1000000
attribute [local irreducible] GL GC GQ W OpV
theorem zUA{w0:World}{h0:Mem}(hs:MLe h0 (mem w0)){n:Int}(hn1:-9223372036854775808≤n)(hn2:n<9223372036854775808)(hcd0:-64≤n)(hcd1:n≤0):
    Calls Tryz.prog 55 #[vI n] w0 (Ret w0 h0 (fun h r=>(rpQ 130).Is h r (ovQ 1 (-n).toNat))):=by
 refine cb1 30 (vI n) func55 hs ?_
 refine go2 ?_
 refine nA (ρ:=(rpQ 1)) (X:=(0:Rat)) yF (yE dC) fun b2 cs2 rb2=>?_
 refine go4 ?_
 refine cL (vs:=[vI (1),vI (1)]) e2z call49 (fun w hs=>eE hs oM oM oM oM) fun v8 h1 hh1 hr8=>?_
 obtain⟨_,rfl,vn8,vd8,rfl,hn8,hd8⟩:=hr8
 have hlq8:=eQ (n:=(1:Int)) (d:=(1:Int)) oM oM oM oM
 refine go3 ?_
 refine nA (ρ:=(rpQ 130)) (X:=(0:Rat)) yF (yE dC) fun b3 cs3 rb3=>(zO (A:=[]) (uB sizeOf26 pH rb3 (cK ⟨_,_,rfl,hn8,hd8⟩ oM)) fun cs_1 rb_2=>?_)
 refine go5 ?_
 refine cL (vs:=[vI (1),vI (2)]) e2z call49 (fun w hs=>eE hs oM oM oM oM) fun v12 h2 hh2 hr12=>?_
 obtain⟨_,rfl,vn12,vd12,rfl,hn12,hd12⟩:=hr12
 have hlq12:=eQ (n:=(1:Int)) (d:=(2:Int)) oM oM oM oM
 refine go3 ?_
 refine nA (ρ:=(rpQ 130)) (X:=(0:Rat)) yF (yE dC) fun b5 cs5 rb5=>(zO (A:=[]) (uB sizeOf26 pH rb5 (cK ⟨_,_,rfl,hn12,hd12⟩ oM)) fun cs_3 rb_4=>?_)
 refine go5 ?_
 refine gcL (ι:=Nat×List Value×Mem) (fun(z,cs_5,ma)=>(MLe h2 ma∧((rpQ 130).R ma cs_5 (ovQ 1 0)∧True),[(0,vI n),(2,vP b2 0),(3,vP b3 0),(5,vP b5 0)],[.var b5 26 cs_3,.var b3 26 cs_5,.var b2 26 cs2],ma,0)) (0,cs_1,h2) ?_ ?_
 ·
  refine⟨MLe.refl _,?_⟩
  replace rb_2:=rb_2.mono hh2
  refine⟨(zB9 rb_2 zO5 (zL7 oM)),?_⟩
  trivial
 intro x hx
 obtain⟨z,cs_5,ma⟩:=x
 dsimp only at hx
 obtain⟨hmma,hinv⟩:=hx
 refine yR ?_
 obtain⟨rb_6,hinv⟩:=hinv
 refine go7 ?_
 refine cnd (fun hc16=>?_) fun hc16=>?_
 ·
  exact absurd hc16 oM
 refine go7 ?_
 refine gcL (ι:=Nat×Int×List Value×Mem) (fun(i,nn,cs_7,mb)=>(MLe ma mb∧((rpQ 130).R mb cs_7 (ovQ 1 i)∧i≤(-n).toNat∧nn=n+↑i),[(0,vI nn),(2,vP b2 0),(3,vP b3 0),(5,vP b5 0)],[.var b5 26 cs_3,.var b3 26 cs_7,.var b2 26 cs2],mb,(-n).toNat-i)) (0,n,cs_5,ma) ?_ ?_
 ·
  refine⟨MLe.refl _,?_⟩
  refine⟨rb_6,?_⟩
  exact⟨by omega,by simp⟩
 intro x hx
 obtain⟨i,nn,cs_7,mb⟩:=x
 dsimp only at hx
 obtain⟨hmmb,hinv⟩:=hx
 refine yR ?_
 obtain⟨rb_8,hinv⟩:=hinv
 obtain⟨hi1,hnn⟩:=hinv
 refine go7 ?_
 refine cnd (fun hc23=>?_) fun hc23=>?_
 ·
  refine go5 ?_
  refine lX (xB zV pH rb_8) fun v26 r26=>(lX (xB zV pH rb_4) fun v27 r27=>(cL (ev2 rfl rfl) call9 (fun w hs=>vM hs r26 r27 dC) fun v28 h3 hh3 r28=>?_))
  replace r28:=Rp.Is.le r28 (Le.q (l:=260) oM)
  replace rb_8:=rb_8.mono hh3
  have rw_9:=(Le.q (l:=260) dC).R rb_8
  refine zO (A:=[_]) (uB sizeOf26 pH rw_9 r28) fun cs_10 rb_11=>?_
  refine go8 ?_
  refine gqL ((i+1),(nn+1),cs_10,h3) ?_ ?_
  ·
   refine⟨(hmmb.trans hh3),?_⟩
   refine⟨(zB9 rb_11 (zM0 i) (zL7 oM)),?_⟩
   exact⟨by omega,by omega⟩
  omega
 have ei:i=(-n).toNat:=by omega
 refine go7 ?_
 refine lX (xB zV pH rb_8) fun v29 r29=>?_
 replace rb2:=rb2.mono (((hh1.trans hh2).trans hmma).trans hmmb)
 have rw_12:=(Le.q (l:=130) dC).R rb2
 refine zO (A:=[_,_]) (uB sizeOf26 pH rw_12 r29) fun cs_13 rb_14=>?_
 refine go3 ?_
 refine wH (jO (t:=2) zV mh2 rfl rb_14) ?_
 intro w_15 hvw_15 rr_16
 refine yA (fun E S=>zS rfl hvw_15 E S) ?_
 exact(Rp.Is.cast rr_16 (by rw[ei]))
theorem pF{w0:World}{h0:Mem}(hs:MLe h0 (mem w0)){k:Nat}{va:Value}{a:Rat}(ra:(rpQ k).Is h0 va a){n:Int}(hn1:-9223372036854775808≤n)(hn2:n<9223372036854775808)(hcd0:k≤400):
    Calls Tryz.prog 13 #[va,vI n] w0 (Ret w0 h0 (fun h r=>∃u0,r=.tuple #[u0,vB (zDU a n)]∧(rpP (rpQ (k+140)) (rpQ (k+140))).Is h u0 (jV a n,gA a n))):=by
 refine cb2 37 va (vI n) func13 hs ?_
 refine go2 ?_
 refine nB ra fun b2 cs2 rb2=>(nA (ρ:=(rpP (rpQ (k+140)) (rpQ (k+140)))) (X:=((0:Rat),(0:Rat))) jE (yJ (yE oM) (yE oM)) fun b4 cs4 rb4=>?_)
 refine go6 ?_
 refine lX (xB zV pH rb2) fun v8 r8=>(cL (ev1 rfl) call51 (fun w hs=>iX hs r8 oM) fun v9 h1 hh1 r9=>?_)
 obtain rfl:v9=vI (yX a):=r9
 have hsr9:=xM a
 refine go1 ?_
 refine gU 4 14 (vB (((yX a)<(0:Int))∨(n<(0:Int)))) ?_ ?_
 ·
  refine zY ((yX a)<(0:Int)) (fun hg=>?_) (fun hg=>?_)
  ·
   refine gT hg rfl ?_
   refine go4 ?_
   refine gqU ?_
   exact congrArg some (wZ hg)
  refine gF hg rfl ?_
  refine go6 ?_
  refine gqU ?_
  exact congrArg some (vC hg)
 refine gU 4 18 (vB ((((yX a)<(0:Int))∨(n<(0:Int)))∨((64:Int)<n))) ?_ ?_
 ·
  refine zY (((yX a)<(0:Int))∨(n<(0:Int))) (fun hg=>?_) (fun hg=>?_)
  ·
   refine gT hg rfl ?_
   refine go4 ?_
   refine gqU ?_
   exact congrArg some (wZ hg)
  refine gF hg rfl ?_
  refine go6 ?_
  refine gqU ?_
  exact congrArg some (vC hg)
 refine go2 ?_
 refine cnd (fun hc18=>?_) fun hc18=>?_
 ·
  refine go2 ?_
  refine lX (xV (ρ:=(rpP (rpQ 1) (rpQ 1))) (xR (ps':=[]) underlying34 jE rfl rfl (sP underlying34) trivial rfl (yJ (yE dC) (yE dC)) zX)) fun v19 r19=>(zO (A:=[]) (uB sizeOf34 pH rb4 (r19.le (Le.p (Le.q (l:=k+140) oM) (Le.q (l:=k+140) oM)))) fun cs_17 rb_18=>?_)
  refine go5 ?_
  refine wH (jO (t:=4) zBU mh0 rfl rb_18) ?_
  intro w_19 hvw_19 rr_20
  refine yA (fun E S=>wL rfl hvw_19 (qN rfl) E S) ?_
  refine⟨_,?_,(Rp.Is.cast rr_20 (by rw[(zEN hc18).1,(zEN hc18).2.1]))⟩
  rw[yS (zEN hc18).2.2]
 obtain⟨y1,y2,y3,y4⟩:=hH hc18
 obtain⟨hkn,hkl⟩:=zVP hc18
 refine go4 ?_
 refine lX (xB zV pH rb2) fun v21 r21=>(cL (ev1 rfl) call53 (fun w hs=>zF0 hs r21 oM) fun v22 h2 hh2 r22=>?_)
 refine go1 ?_
 refine cL (ev2 rfl rfl) call52 (fun w hs=>zJE hs r22 oM oM oM) fun v24 h3 hh3 r24=>?_
 obtain⟨v24_0,rfl,r24_0⟩:=r24
 change (rpP (rpQ (k+140)) (rpQ (k+140))).Is h3 v24_0 (zJM (a,a).1 (a,a).2 n,oC (a,a).2 n) at r24_0
 refine go3 ?_
 refine nA (ρ:=(rpP (rpQ (k+140)) (rpQ (k+140)))) (X:=((0:Rat),(0:Rat))) jE (yJ (yE oM) (yE oM)) fun b6 cs6 rb6=>(zO (A:=[]) (uB sizeOf34 pH rb6 r24_0) fun cs_21 rb_22=>?_)
 refine vX ?_
 refine cnd (fun hc28=>?_) fun hc28=>?_
 ·
  exact absurd (if_neg y3) hc28
 refine go3 ?_
 refine gD 7 [(0,.q),(1,.q),(3,.q),(4,.q),(2,.c),(5,.c),(6,.q),(7,.t),(8,.t)] (by kernel_rfl) ?_
 refine go1 ?_
 refine wX rfl (xB zV (Pc.fst pH) rb_22) fun v31 r31=>?_
 refine go1 ?_
 refine wX rfl (xB zV (Pc.snd pH) rb_22) fun v34 r34=>?_
 refine w_c rfl (sC (ev1 rfl) call54 (fun w hs=>zEL hs r31 oM) fun v32 h4 hh4 r32=>?_)
 refine w_c rfl (sC (ev1 rfl) call54 (fun w hs=>zEL hs r34.up oM) fun v35 h5 hh5 r35=>?_)
 replace r32:=r32.mono hh5
 refine wX rfl (xV (ρ:=(rpP (rpQ (k+140)) (rpQ (k+140)))) (xR (ps':=[(0,_),(1,_)]) underlying34 jE rfl rfl (sP underlying34) e4z rfl (yJ (yE oM) (yE oM)) (zJ rfl (Pc.fst (Pc.here _)) r32 (zJ rfl (Pc.snd (Pc.here _)) r35 zX)))) fun v36 r36=>(yQ (A:=[_]) rfl (uB sizeOf34 pH rb4 r36) fun cs_23 rb_24=>(nG rfl (kZ rfl) rfl ?_))
 refine go3 ?_
 refine wH (jO (t:=4) zBU mh1 rfl rb_24) ?_
 intro w_25 hvw_25 rr_26
 refine yA (fun E S=>wL rfl hvw_25 (qN rfl) E S) ?_
 refine⟨_,?_,(Rp.Is.cast rr_26 (by rw[y1,y2];exact congrArg (fun z=>(z,oC a n)) (zZ8 n y3)))⟩
 rw[xL y4]
theorem zKA{w0:World}{h0:Mem}(hs:MLe h0 (mem w0)){k:Nat}{va:Value}{a:Rat}(ra:(rpQ k).Is h0 va a){n:Int}(hn1:-9223372036854775808≤n)(hn2:n<9223372036854775808)(hcd0:k≤400):
    Calls Tryz.prog 14 #[va,vI n] w0 (Ret w0 h0 (fun h r=>∃u0,r=.tuple #[u0,vB (zDU a n)]∧(rpP (rpQ (k+300)) (rpQ (k+300))).Is h u0 (jV a n,gA a n))):=by
 have hlr:=(zZ4 ra).2
 refine cb2 72 va (vI n) func14 hs ?_
 refine go2 ?_
 refine nB ra fun b2 cs2 rb2=>(nA (ρ:=(rpP (rpQ (k+300)) (rpQ (k+300)))) (X:=((0:Rat),(0:Rat))) jE (yJ (yE oM) (yE oM)) fun b4 cs4 rb4=>?_)
 refine go6 ?_
 refine lX (xB zV pH rb2) fun v12 r12=>(cL (ev1 rfl) call17 (fun w hs=>vJ hs r12 oM) fun v13 h1 hh1 r13=>?_)
 obtain rfl:v13=vI (yX a):=r13
 have hsr13:=xM a
 refine go1 ?_
 refine gU 4 18 (vB (((yX a)<(0:Int))∨(n<(0:Int)))) ?_ ?_
 ·
  refine zY ((yX a)<(0:Int)) (fun hg=>?_) (fun hg=>?_)
  ·
   refine gT hg rfl ?_
   refine go4 ?_
   refine gqU ?_
   exact congrArg some (wZ hg)
  refine gF hg rfl ?_
  refine go6 ?_
  refine gqU ?_
  exact congrArg some (vC hg)
 refine gU 4 22 (vB ((((yX a)<(0:Int))∨(n<(0:Int)))∨((64:Int)<n))) ?_ ?_
 ·
  refine zY (((yX a)<(0:Int))∨(n<(0:Int))) (fun hg=>?_) (fun hg=>?_)
  ·
   refine gT hg rfl ?_
   refine go4 ?_
   refine gqU ?_
   exact congrArg some (wZ hg)
  refine gF hg rfl ?_
  refine go6 ?_
  refine gqU ?_
  exact congrArg some (vC hg)
 refine go2 ?_
 refine cnd (fun hc22=>?_) fun hc22=>?_
 ·
  refine go2 ?_
  refine lX (xV (ρ:=(rpP (rpQ 1) (rpQ 1))) (xR (ps':=[]) underlying34 jE rfl rfl (sP underlying34) trivial rfl (yJ (yE dC) (yE dC)) zX)) fun v23 r23=>(zO (A:=[]) (uB sizeOf34 pH rb4 (r23.le (Le.p (Le.q (l:=k+300) oM) (Le.q (l:=k+300) oM)))) fun cs_27 rb_28=>?_)
  refine go5 ?_
  refine wH (jO (t:=4) zBU mh0 rfl rb_28) ?_
  intro w_29 hvw_29 rr_30
  refine yA (fun E S=>wL rfl hvw_29 (qN rfl) E S) ?_
  refine⟨_,?_,(Rp.Is.cast rr_30 (by rw[(zEN hc22).1,(zEN hc22).2.1]))⟩
  rw[yS (zEN hc22).2.2]
 obtain⟨y1,y2,y3,y4⟩:=hH hc22
 obtain⟨hkn,hkl⟩:=zVP hc22
 have hr0:=Rat.not_lt.1 y3
 refine go4 ?_
 refine cL (vs:=[vI (1)]) ⟨rfl,trivial⟩ call39 (fun w hs=>jT hs dC dC) fun v24 h2 hh2 r24=>(nA (ρ:=(rpQ (k+140))) (X:=(0:Rat)) yF (yE oM) fun b6 cs6 rb6=>(zO (A:=[]) (uB sizeOf26 pH rb6 (r24.le (Le.q (l:=k+140) oM))) fun cs_31 rb_32=>?_))
 refine go4 ?_
 refine gcL (ι:=Nat×List Value×Mem) (fun(jj,cs_33,ma)=>(MLe h2 ma∧((rpQ (k+140)).R ma cs_33 (ovQ (2^jj*2^kN n) (kN n))∧2^jj*2^kN n≤bY a (kN n)),[(1,vI n),(2,vP b2 0),(4,vP b4 0),(6,vP b6 0)],[.var b6 26 cs_33,.var b4 34 cs4,.var b2 26 cs2],ma,bY a (kN n)-2^jj*2^kN n)) (0,cs_31,h2) ?_ ?_
 ·
  refine⟨MLe.refl _,?_⟩
  refine⟨(zB9 rb_32 (zPT (kN n)) (nV hlr oM (zLN a (kN n)))),?_⟩
  exact zLN a (kN n)
 intro x hx
 obtain⟨jj,cs_33,ma⟩:=x
 dsimp only at hx
 obtain⟨hmma,hinv⟩:=hx
 refine yR ?_
 obtain⟨rb_34,hinv⟩:=hinv
 have hi1:=hinv
 refine go2 ?_
 refine gD 6 [(0,.q),(1,.q),(3,.q),(2,.c),(4,.c),(5,.q)] (by kernel_rfl) ?_
 refine wX rfl (xB zV pH rb_34) fun v25 r25=>(wX rfl (xB zV pH rb_34) fun v26 r26=>(wX rfl (xB zV pH rb2) fun v28 r28=>?_))
 refine w_c rfl (sC (ev2 rfl rfl) call9 (fun w hs=>vM hs r25 r26 oM) fun v27 h3 hh3 r27=>?_)
 replace r27:=Rp.Is.le r27 (Le.q (l:=2*k+280) oM)
 refine w_c rfl (sC (ev2 rfl rfl) call18 (fun w hs=>uX hs r27 r28.up oM) fun v29 h4 hh4 r29=>?_)
 obtain rfl:v29=vI (wB ((ovQ (2^jj*2^kN n) (kN n))*(ovQ (2^jj*2^kN n) (kN n))) a):=r29
 have hcr29:=uF ((ovQ (2^jj*2^kN n) (kN n))*(ovQ (2^jj*2^kN n) (kN n))) a
 refine go3 ?_
 refine cnd (fun hc30=>?_) fun hc30=>?_
 ·
  have hnx:=zW8 ((bD hr0 _ _).1 (rS.1 hc30))
  refine go4 ?_
  replace rb_34:=rb_34.mono (hh3.trans hh4)
  refine lX (xB zV pH rb_34) fun v31 r31=>(lX (xB zV pH rb_34) fun v32 r32=>(cL (ev2 rfl rfl) call37 (fun w hs=>tX hs r31 r32 oM) fun v33 h5 hh5 r33=>?_))
  replace r33:=Rp.Is.le r33 (Le.q (l:=2*k+281) oM)
  replace rb_34:=rb_34.mono hh5
  have rw_35:=(Le.q (l:=2*k+281) oM).R rb_34
  refine zO (A:=[]) (uB sizeOf26 pH rw_35 r33) fun cs_36 rb_37=>?_
  refine go2 ?_
  refine gqL ((jj+1),cs_36,h5) ?_ ?_
  ·
   refine⟨(((hmma.trans hh3).trans hh4).trans hh5),?_⟩
   refine⟨(zB9 rb_37 (zXC jj (kN n)) (nV hlr oM (hnx))),?_⟩
   exact hnx
  exact zXB hnx
 have htp:2^(jj+kN n+1)≤bY a (kN n+1):=by rw[zWK,Nat.pow_succ,Nat.pow_add];omega
 refine go7 ?_
 refine cL (vs:=[vI (1),vI (2)]) e2z call49 (fun w hs=>eE hs oM oM oM oM) fun v35 h5 hh5 hr35=>?_
 obtain⟨_,rfl,vn35,vd35,rfl,hn35,hd35⟩:=hr35
 have hlq35:=eQ (n:=(1:Int)) (d:=(2:Int)) oM oM oM oM
 refine go3 ?_
 refine nA (ρ:=(rpQ 130)) (X:=(0:Rat)) yF (yE dC) fun b7 cs7 rb7=>(zO (A:=[]) (uB sizeOf26 pH rb7 (cK ⟨_,_,rfl,hn35,hd35⟩ oM)) fun cs_38 rb_39=>?_)
 refine go6 ?_
 refine gv (bE rfl oM oM) rfl (cL (ev1 rfl) call55 (fun w hs=>zUA hs oM oM oM oM) fun v40 h6 hh6 r40=>(nA (ρ:=(rpQ 130)) (X:=(0:Rat)) yF (yE dC) fun b9 cs9 rb9=>(zO (A:=[]) (uB sizeOf26 pH rb9 r40) fun cs_40 rb_41=>?_)))
 have rb_42:(rpQ 130).R h6 cs_40 (ovQ 1 (kN n)):=Rp.castR rb_41 (by rw[show(- -n).toNat=kN n by omega])
 refine go4 ?_
 refine lX (xV (ρ:=(rpQ 1)) (xR (ps':=[]) underlying26 yF rfl rfl (wJ underlying26) trivial rfl (yE dC) zX)) fun v41 r41=>(nA (ρ:=(rpQ (k+140))) (X:=(0:Rat)) yF (yE oM) fun b10 cs10 rb10=>(zO (A:=[]) (uB sizeOf26 pH rb10 (r41.le (Le.q (l:=k+140) oM))) fun cs_43 rb_44=>?_))
 refine go4 ?_
 refine gcL (ι:=Nat×Nat×List Value×List Value×Mem) (fun(tt,xx,cs_45,cs_47,mb)=>(MLe h6 mb∧((rpQ (k+140)).R mb cs_45 (ovQ (2^tt) (kN n+1))∧(rpQ (k+140)).R mb cs_47 (ovQ xx (kN n+1))∧xx*xx≤flN a (kN n+1)∧flN a (kN n+1)<(xx+2^(tt+1))*(xx+2^(tt+1))∧2^(tt+1)∣xx∧2^tt≤bY a (kN n+1)),[(2,vP b2 0),(4,vP b4 0),(6,vP b6 0),(7,vP b7 0),(9,vP b9 0),(10,vP b10 0)],[.var b10 26 cs_47,.var b9 26 cs_40,.var b7 26 cs_38,.var b6 26 cs_45,.var b4 34 cs4,.var b2 26 cs2],mb,tt)) ((jj+kN n+1),0,cs_33,cs_43,h6) ?_ ?_
 ·
  refine⟨MLe.refl _,?_⟩
  replace rb_34:=rb_34.mono (((hh3.trans hh4).trans hh5).trans hh6)
  refine⟨(zB9 rb_34 (zVD jj (kN n)) (nV hlr oM (htp))),(zB9 rb_44 (zBH (kN n+1)).symm (nV hlr oM (Nat.zero_le _))),?_⟩
  exact⟨Nat.zero_le _,zW9 hr0 hc30,Nat.dvd_zero _,htp⟩
 intro x hx
 obtain⟨tt,xx,cs_45,cs_47,mb⟩:=x
 dsimp only at hx
 obtain⟨hmmb,hinv⟩:=hx
 refine yR ?_
 obtain⟨rb_46,rb_48,hinv⟩:=hinv
 obtain⟨hx1,hx2,hx3,hx4⟩:=hinv
 refine go3 ?_
 refine lX (xB zV pH rb_46) fun v42 r42=>(lX (xB zV pH rb_42) fun v43 r43=>(cL (ev2 rfl rfl) call18 (fun w hs=>uX hs r42 r43 oM) fun v44 h7 hh7 r44=>?_))
 obtain rfl:v44=vI (wB (ovQ (2^tt) (kN n+1)) (ovQ 1 (kN n))):=r44
 have hcr44:=uF (ovQ (2^tt) (kN n+1)) (ovQ 1 (kN n))
 refine go3 ?_
 refine cnd (fun hc45=>?_) fun hc45=>?_
 ·
  have htt:=(zLO tt (kN n)).1 hc45
  refine go6 ?_
  replace rb_48:=rb_48.mono hh7
  refine lX (xB zV pH rb_48) fun v49 r49=>?_
  replace rb_46:=rb_46.mono hh7
  refine lX (xB zV pH rb_46) fun v50 r50=>(cL (ev2 rfl rfl) call37 (fun w hs=>tX hs r49 r50 oM) fun v51 h8 hh8 r51=>?_)
  replace r51:=Rp.Is.le r51 (Le.q (l:=2*k+281) oM)
  refine nA (ρ:=(rpQ (2*k+300))) (X:=(0:Rat)) yF (yE oM) fun b11 cs11 rb11=>(zO (A:=[]) (uB sizeOf26 pH rb11 (r51.le (Le.q (l:=2*k+300) oM))) fun cs_49 rb_50=>?_)
  refine go3 ?_
  refine gD 6 [(0,.q),(1,.q),(3,.q),(2,.c),(4,.c),(5,.q)] (by kernel_rfl) ?_
  refine wX rfl (xB zV pH rb_50) fun v52 r52=>(wX rfl (xB zV pH rb_50) fun v53 r53=>(wX rfl (xB zV pH rb2) fun v55 r55=>?_))
  refine w_c rfl (sC (ev2 rfl rfl) call9 (fun w hs=>vM hs r52 r53 oM) fun v54 h9 hh9 r54=>?_)
  replace r54:=Rp.Is.le r54 (Le.q (l:=4*k+600) oM)
  refine w_c rfl (sC (ev2 rfl rfl) call18 (fun w hs=>uX hs r54 r55.up oM) fun v56 h10 hh10 r56=>?_)
  obtain rfl:v56=vI (wB (((ovQ xx (kN n+1))+(ovQ (2^tt) (kN n+1)))*((ovQ xx (kN n+1))+(ovQ (2^tt) (kN n+1)))) a):=r56
  have hcr56:=uF (((ovQ xx (kN n+1))+(ovQ (2^tt) (kN n+1)))*((ovQ xx (kN n+1))+(ovQ (2^tt) (kN n+1)))) a
  refine go3 ?_
  refine cnd (fun hc57=>?_) fun hc57=>?_
  ·
   have hx5:=(bD hr0 _ _).1 (by rw[s2] at hc57;exact rS.1 hc57)
   refine go1 ?_
   refine lX (xB zV pH rb_50) fun v58 r58=>?_
   replace rb_48:=rb_48.mono ((hh8.trans hh9).trans hh10)
   have rw_51:=(Le.q (l:=2*k+300) oM).R rb_48
   refine zO (A:=[_]) (uB sizeOf26 pH rw_51 r58) fun cs_52 rb_53=>?_
   refine go4 ?_
   replace rb_46:=rb_46.mono ((hh8.trans hh9).trans hh10)
   refine lX (xB zV pH rb_46) fun v46 r46=>(lX (xB zV pH rb_39) fun v47 r47=>(cL (ev2 rfl rfl) call9 (fun w hs=>vM hs r46 r47 oM) fun v48 h11 hh11 r48=>?_))
   replace r48:=Rp.Is.le r48 (Le.q (l:=k+270) oM)
   replace rb_46:=rb_46.mono hh11
   have rw_54:=(Le.q (l:=k+270) oM).R rb_46
   refine zO (A:=[_,_,_,_]) (uB sizeOf26 pH rw_54 r48) fun cs_55 rb_56=>?_
   refine go1 ?_
   refine uP (A:=[]) ?_
   refine gqL ((tt-1),(xx+2^tt),cs_55,cs_52,h11) ?_ ?_
   ·
    refine⟨(((((hmmb.trans hh7).trans hh8).trans hh9).trans hh10).trans hh11),?_⟩
    replace rb_53:=rb_53.mono hh11
    refine⟨(zB9 rb_56 (zG6 _ htt) (nV hlr oM (Nat.le_trans (y6 htt) hx4))),(zB9 rb_53 (s2 _ _ _) (nV hlr oM (zM9 hx5))),?_⟩
    exact⟨hx5,(zPS htt hx2 hx3).1,(zPS htt hx2 hx3).2,Nat.le_trans (y6 htt) hx4⟩
   omega
  have hx6:¬(xx+2^tt)*(xx+2^tt)≤flN a (kN n+1):=fun e=>hc57 (by rw[s2];exact rS.2 ((bD hr0 _ _).2 e))
  refine go4 ?_
  replace rb_46:=rb_46.mono ((hh8.trans hh9).trans hh10)
  refine lX (xB zV pH rb_46) fun v46 r46=>(lX (xB zV pH rb_39) fun v47 r47=>(cL (ev2 rfl rfl) call9 (fun w hs=>vM hs r46 r47 oM) fun v48 h11 hh11 r48=>?_))
  replace r48:=Rp.Is.le r48 (Le.q (l:=k+270) oM)
  replace rb_46:=rb_46.mono hh11
  have rw_57:=(Le.q (l:=k+270) oM).R rb_46
  refine zO (A:=[_,_,_,_]) (uB sizeOf26 pH rw_57 r48) fun cs_58 rb_59=>?_
  refine go1 ?_
  refine uP (A:=[]) ?_
  refine gqL ((tt-1),xx,cs_58,cs_47,h11) ?_ ?_
  ·
   refine⟨(((((hmmb.trans hh7).trans hh8).trans hh9).trans hh10).trans hh11),?_⟩
   replace rb_48:=rb_48.mono (((hh8.trans hh9).trans hh10).trans hh11)
   refine⟨(zB9 rb_59 (zG6 _ htt) (nV hlr oM (Nat.le_trans (y6 htt) hx4))),rb_48,?_⟩
   exact⟨hx1,(zVE htt hx6 hx3).1,(zVE htt hx6 hx3).2,Nat.le_trans (y6 htt) hx4⟩
  omega
 have htt:tt=0:=by have:=mt (zLO tt (kN n)).2 hc45;omega
 rw[htt] at hx2 hx3
 have hlo:ovQ xx (kN n+1)=qE a n:=zXA hr0 hx1 hx2 hx3
 refine go7 ?_
 refine gD 5 [(0,.q),(1,.q),(3,.q),(2,.c),(4,.c)] (by kernel_rfl) ?_
 replace rb_48:=rb_48.mono hh7
 refine wX rfl (xB zV pH rb_48) fun v59 r59=>(wX rfl (xB zV pH rb_48) fun v60 r60=>(wX rfl (xB zV pH rb2) fun v62 r62=>?_))
 refine w_c rfl (sC (ev2 rfl rfl) call9 (fun w hs=>vM hs r59 r60 oM) fun v61 h8 hh8 r61=>?_)
 replace r61:=Rp.Is.le r61 (Le.q (l:=2*k+280) oM)
 refine w_c rfl (sC (ev2 rfl rfl) call15 (fun w hs=>vS hs r61 r62.up oM) fun v63 h9 hh9 r63=>?_)
 obtain rfl:v63=vB (((ovQ xx (kN n+1))*(ovQ xx (kN n+1)))=a):=r63
 refine go2 ?_
 refine cnd (fun hc63=>?_) fun hc63=>?_
 ·
  rw[hlo] at hc63
  refine go2 ?_
  replace rb_48:=rb_48.mono (hh8.trans hh9)
  refine lX (xB zV pH rb_48) fun v64 r64=>(lX (xB zV pH rb_48) fun v65 r65=>(lX (xV (ρ:=(rpP (rpQ (k+140)) (rpQ (k+140)))) (xR (ps':=[(0,_),(1,_)]) underlying34 jE rfl rfl (sP underlying34) e4z rfl (yJ (yE oM) (yE oM)) (zJ rfl (Pc.fst (Pc.here _)) r64 (zJ rfl (Pc.snd (Pc.here _)) r65 zX)))) fun v66 r66=>(zO (A:=[_,_,_,_]) (uB sizeOf34 pH rb4 (r66.le (Le.p (Le.q (l:=k+300) oM) (Le.q (l:=k+300) oM)))) fun cs_60 rb_61=>?_)))
  refine go5 ?_
  refine wH (jO (t:=4) zBU mh4 rfl rb_61) ?_
  intro w_62 hvw_62 rr_63
  refine yA (fun E S=>wL rfl hvw_62 (qN rfl) E S) ?_
  refine⟨_,?_,(Rp.Is.cast rr_63 (by rw[y1,y2,hlo,←zFL y3 hc63]))⟩
  rw[xL y4]
 rw[hlo] at hc63
 refine go3 ?_
 refine gD 5 (qq 0 3 [(3,.c),(4,.q),(5,.t),(6,.t)]) (by kernel_rfl) ?_
 replace rb_48:=rb_48.mono (hh8.trans hh9)
 refine wX rfl (xB zV pH rb_48) fun v67 r67=>(wX rfl (xB zV pH rb_48) fun v68 r68=>(wX rfl (xB zV pH rb_42) fun v69 r69=>?_))
 refine w_c rfl (sC (ev2 rfl rfl) call37 (fun w hs=>tX hs r68 r69 oM) fun v70 h10 hh10 r70=>?_)
 replace r70:=Rp.Is.le r70 (Le.q (l:=k+271) oM)
 replace r67:=r67.mono hh10
 refine wX rfl (xV (ρ:=(rpP (rpQ (k+140)) (rpQ (k+271)))) (xR (ps':=[(0,_),(1,_)]) underlying34 jE rfl rfl (sP underlying34) e4z rfl (yJ (yE oM) (yE oM)) (zJ rfl (Pc.fst (Pc.here _)) r67 (zJ rfl (Pc.snd (Pc.here _)) r70 zX)))) fun v71 r71=>(yQ (A:=[_,_,_,_]) rfl (uB sizeOf34 pH rb4 (r71.le (Le.p (Le.q (l:=k+300) oM) (Le.q (l:=k+300) oM)))) fun cs_64 rb_65=>(nG rfl (kZ rfl) rfl ?_))
 refine go3 ?_
 refine wH (jO (t:=4) zBU mh4 rfl rb_65) ?_
 intro w_66 hvw_66 rr_67
 refine yA (fun E S=>wL rfl hvw_66 (qN rfl) E S) ?_
 refine⟨_,?_,(Rp.Is.cast rr_67 (by rw[y1,y2,hlo,zPU y3 hc63]))⟩
 rw[xL y4]
end Go.Proofs.YtboaboflnckgoaaGreat
namespace Go.Proofs.YtboaboflnckgoaaGreat
open Bk Go Tryz
set_option linter.unusedVariables false
set_option linter.unusedSimpArgs false
set_option maxRecDepth 10000
set_option maxHeartbeats 1000000
attribute [local irreducible] GL GC GQ W OpV
theorem zNT{w0:World}{h0:Mem}(hs:MLe h0 (mem w0)){m l:Nat}{vs:Value}{s:Pq}(rs:(tPl m l).Is h0 vs s)(hcd0:m≤1000000000):
    Calls Tryz.prog 209 #[vs] w0 (Ret w0 h0 (fun h r=>r=.tuple #[vI (↑(axI s.1):Int),vI (↑(axJ s.1):Int),vI (↑(axK s.1):Int)])):=by
 refine cb1 29 vs func209 hs ?_
 refine go2 ?_
 refine nB rs fun b1 cs1 rb1=>?_
 refine dE ?_
 refine lX (xB zV (Pc.fst (Pc.tz pH)) rb1) fun v10 r10=>(cL (ev1 rfl) call17 (fun w hs=>vJ hs r10 oM) fun v11 h1 hh1 r11=>?_)
 obtain rfl:v11=vI (yX s.1.z):=r11
 have hsr11:=xM s.1.z
 refine go3 ?_
 refine cnd (fun hc12=>?_) fun hc12=>?_
 ·
  refine uO ?_
  refine lX (xB zV (Pc.fst (Pc.ty pH)) rb1) fun v15 r15=>(cL (ev1 rfl) call17 (fun w hs=>vJ hs r15 oM) fun v16 h2 hh2 r16=>?_)
  obtain rfl:v16=vI (yX s.1.y):=r16
  have hsr16:=xM s.1.y
  refine go3 ?_
  refine cnd (fun hc17=>?_) fun hc17=>?_
  ·
   refine uT ?_
   refine lX (xB zV (Pc.fst (Pc.tx pH)) rb1) fun v21 r21=>(cL (ev1 rfl) call17 (fun w hs=>vJ hs r21 oM) fun v22 h3 hh3 r22=>?_)
   obtain rfl:v22=vI (yX s.1.x):=r22
   have hsr22:=xM s.1.x
   refine go3 ?_
   refine cnd (fun hc23=>?_) fun hc23=>?_
   ·
    refine zRO ?_
    refine qV rfl rfl rfl rfl ?_
    have eI:axI s.1=2:=by unfold axI;simp only[uU,uR] at *;grind
    have eJ:axJ s.1=1:=by unfold axJ;simp only[uU,uR] at *;grind
    have eK:axK s.1=0:=by unfold axK;simp only[uU,uR] at *;grind
    rw[eI,eJ,eK];rfl
   refine sM ?_
   refine qV rfl rfl rfl rfl ?_
   have eI:axI s.1=1:=by unfold axI;simp only[uU,uR] at *;grind
   have eJ:axJ s.1=2:=by unfold axJ;simp only[uU,uR] at *;grind
   have eK:axK s.1=0:=by unfold axK;simp only[uU,uR] at *;grind
   rw[eI,eJ,eK];rfl
  refine go8 ?_
  refine lX (xB zV (Pc.fst (Pc.ty pH)) rb1) fun v21 r21=>(cL (ev1 rfl) call17 (fun w hs=>vJ hs r21 oM) fun v22 h3 hh3 r22=>?_)
  obtain rfl:v22=vI (yX s.1.y):=r22
  have hsr22:=xM s.1.y
  refine go3 ?_
  refine cnd (fun hc23=>?_) fun hc23=>?_
  ·
   refine zRO ?_
   refine qV rfl rfl rfl rfl ?_
   have eI:axI s.1=0:=by unfold axI;simp only[uU,uR] at *;grind
   have eJ:axJ s.1=2:=by unfold axJ;simp only[uU,uR] at *;grind
   have eK:axK s.1=1:=by unfold axK;simp only[uU,uR] at *;grind
   rw[eI,eJ,eK];rfl
  refine sM ?_
  refine qV rfl rfl rfl rfl ?_
  have eI:axI s.1=2:=by unfold axI;simp only[uU,uR] at *;grind
  have eJ:axJ s.1=0:=by unfold axJ;simp only[uU,uR] at *;grind
  have eK:axK s.1=1:=by unfold axK;simp only[uU,uR] at *;grind
  rw[eI,eJ,eK];rfl
 refine go8 ?_
 refine lX (xB zV (Pc.fst (Pc.tz pH)) rb1) fun v21 r21=>(cL (ev1 rfl) call17 (fun w hs=>vJ hs r21 oM) fun v22 h2 hh2 r22=>?_)
 obtain rfl:v22=vI (yX s.1.z):=r22
 have hsr22:=xM s.1.z
 refine go3 ?_
 refine cnd (fun hc23=>?_) fun hc23=>?_
 ·
  refine zRO ?_
  refine qV rfl rfl rfl rfl ?_
  have eI:axI s.1=1:=by unfold axI;simp only[uU,uR] at *;grind
  have eJ:axJ s.1=0:=by unfold axJ;simp only[uU,uR] at *;grind
  have eK:axK s.1=2:=by unfold axK;simp only[uU,uR] at *;grind
  rw[eI,eJ,eK];rfl
 refine sM ?_
 refine qV rfl rfl rfl rfl ?_
 have eI:axI s.1=0:=by unfold axI;simp only[uU,uR] at *;grind
 have eJ:axJ s.1=1:=by unfold axJ;simp only[uU,uR] at *;grind
 have eK:axK s.1=2:=by unfold axK;simp only[uU,uR] at *;grind
 rw[eI,eJ,eK];rfl
theorem zF1{w0:World}{h0:Mem}(hs:MLe h0 (mem w0)){m l k:Nat}{vs:Value}{s:Pq}(rs:(tPl m l).Is h0 vs s){vp:Value}{p:Tq}(rp:(tPt k).Is h0 vp p)(hcd0:k≤1000000000)(hcd1:m≤1000000000):
    Calls Tryz.prog 208 #[vs,vp] w0 (Ret w0 h0 (fun h r=>(tPt (k+1)).Is h r (cE s p))):=by
 refine cb2 21 vs vp func208 hs ?_
 refine go2 ?_
 refine nB rs fun b2 cs2 rb2=>(nB rp fun b3 cs3 rb3=>(nA (ρ:=(tPt (k+1))) (X:=zT) xC (wG (yE oM)) fun b4 cs4 rb4=>?_))
 refine go4 ?_
 refine lX (xB zGQ pH rb2) fun v9 r9=>(cL (ev1 rfl) call209 (fun w hs=>zNT hs r9 oM) fun v10 h1 hh1 r10=>?_)
 obtain rfl:=r10
 refine vX ?_
 refine gD 7 (qq 0 7 [(7,.t)]) (by kernel_rfl) ?_
 refine go1 ?_
 refine wF rfl (fun _ _=>(xW (sz:=3) (axI s.1) underlying53 sizeOf26 rfl rfl (by rfl) (by exact zSO _)).cv (show _=vP b3 (((axI s.1)*3+0)) from congrArg (vP b3) oM)) rfl (wX rfl (xB zV (Pc.ta pH (axI s.1) (by exact zSO _)) rb3) fun v16 r16=>?_)
 refine go1 ?_
 refine wF rfl (fun _ _=>(xW (sz:=3) (axJ s.1) underlying53 sizeOf26 rfl rfl (by rfl) (by exact zSN _)).cv (show _=vP b3 (((axJ s.1)*3+0)) from congrArg (vP b3) oM)) rfl (wX rfl (xB zV (Pc.ta pH (axJ s.1) (by exact zSN _)) rb3) fun v19 r19=>(wX rfl (xV (ρ:=(tPt (k+1))) (wQ (ps':=[(0,_),(1,_)]) underlying53 xC rfl rfl sizeOf26 e4z rfl (wG (yE oM)) (zJ rfl (Pc.tx (Pc.here _)) (r16.le (Le.q (l:=k+1) oM)) (zJ rfl (Pc.ty (Pc.here _)) (r19.le (Le.q (l:=k+1) oM)) zX)))) fun v20 r20=>(yQ (A:=[]) rfl (uB sizeOf53 pH rb4 r20) fun cs_13 rb_14=>?_)))
 refine go3 ?_
 refine wH (jO (t:=4) zW mh0 rfl rb_14) ?_
 intro w_15 hvw_15 rr_16
 refine yA (fun E S=>zS rfl hvw_15 E S) ?_
 exact rr_16
theorem zNV{w0:World}{h0:Mem}(hs:MLe h0 (mem w0)){m l k:Nat}{vs:Value}{s:Pq}(rs:(tPl m l).Is h0 vs s){vp:Value}{p:Tq}(rp:(tPt k).Is h0 vp p)(hcd0:k≤1000000)(hcd1:l≤1000000)(hcd2:m≤1000000):
    Calls Tryz.prog 153 #[vs,vp] w0 (Ret w0 h0 (fun _ r=>r=vI (yX (jL s.1 p-s.2)))):=by
 refine cb2 13 vs vp func153 hs ?_
 refine go2 ?_
 refine nB rs fun b2 cs2 rb2=>(nB rp fun b3 cs3 rb3=>?_)
 refine go4 ?_
 refine gD 9 (qq 0 3 [(4,.q),(5,.q),(3,.c),(6,.c),(7,.c),(8,.q)]) (by kernel_rfl) ?_
 refine go1 ?_
 refine wX rfl (xB zW (Pc.fst pH) rb2) fun v6 r6=>(wX rfl (xB zW pH rb3) fun v7 r7=>?_)
 refine go1 ?_
 refine wX rfl (xB zV (Pc.snd pH) rb2) fun v10 r10=>?_
 refine w_c rfl (sC (ev2 rfl rfl) call44 (fun w hs=>w8 hs r6 r7 oM) fun v8 h1 hh1 r8=>?_)
 replace r8:=Rp.Is.le r8 (Le.q (l:=3*k+3*m+9) oM)
 refine w_c rfl (sC (ev2 rfl rfl) call16 (fun w hs=>rO hs r8 r10.up oM) fun v11 h2 hh2 r11=>?_)
 replace r11:=Rp.Is.le r11 (Le.q (l:=3*k+l+3*m+10) oM)
 refine w_c rfl (sC (ev1 rfl) call17 (fun w hs=>vJ hs r11 oM) fun v12 h3 hh3 r12=>?_)
 obtain rfl:v12=vI (yX ((jL s.1 p)-s.2)):=r12
 have hsr12:=xM ((jL s.1 p)-s.2)
 refine go4 ?_
 refine zD rfl rfl ?_
 rfl
end Go.Proofs.YtboaboflnckgoaaGreat
namespace Bk
set_option linter.unusedVariables false
set_option linter.unusedSimpArgs false
open Classical
def aA(a b:Pt):Pt:=T3.mk (a.x+b.x) (a.y+b.y) (a.z+b.z)
def moved(l l':List Pt)(v:Pt):Prop:=l'.length=l.length∧∀q,q<l.length→gp l' q=aA (gp l q) v
def sh(a v:P2):P2:=(a.1+v.1,a.2+v.2)
end Bk
namespace Bk
set_option linter.unusedVariables false
set_option linter.unusedSimpArgs false
open Classical
def reved(l z:List Pt):Prop:=z.length=l.length∧∀q,q<l.length→gp z q=gp l (l.length-1-q)
def sN(n m:Nat):Nat:=if m+1=n then m else n-2-m
def movTo(l y:List Pt)(v:Pt)(m:Nat):Prop:=y.length=m∧∀q,q<m→gp y q=aA (gp l q) v
def revTo(l z:List Pt)(m:Nat):Prop:=z.length=m∧∀q,q<m→gp z q=gp l (l.length-1-q)
end Bk
namespace Bk
set_option linter.unusedVariables false
set_option linter.unusedSimpArgs false
open Classical
def hgt(pl:Pl)(p:Pt):Rat:=jL pl.1 p-pl.2
noncomputable def sdZ(pl:Pl)(p:Pt):Int:=yX (hgt pl p)
def lerp(t:Rat)(a b:Pt):Pt:=T3.mk (a.x+t*(b.x-a.x)) (a.y+t*(b.y-a.y)) (a.z+t*(b.z-a.z))
noncomputable def yAN(pl:Pl)(a b:Pt):Rat:=if hgt pl a-hgt pl b=0 then 0 else hgt pl a/(hgt pl a-hgt pl b)
noncomputable def btw(pl:Pl)(a b:Pt):Pt:=lerp (yAN pl a b) a b
abbrev nx(l:List Pt)(m:Nat):Pt:=gp l ((m+1)%l.length)
def xP(pl:Pl)(l:List Pt)(m:Nat):Prop:=sdZ pl (gp l m)*sdZ pl (nx l m)<0
noncomputable def zY4(pl:Pl)(l:List Pt):Nat→List Pt
  |0=>[]
  |m+1=>zY4 pl l m++(if sdZ pl (gp l m)≤0 then[gp l m] else[])++(if xP pl l m then[btw pl (gp l m) (nx l m)] else[])
noncomputable def zYK(pl:Pl)(l:List Pt):Nat→List Pt
  |0=>[]
  |m+1=>zYK pl l m++(if 0≤sdZ pl (gp l m) then[gp l m] else[])++(if xP pl l m then[btw pl (gp l m) (nx l m)] else[])
def zV3(pl:Pl)(l:List Pt):Nat→Prop
  |0=>False
  |m+1=>zV3 pl l m∨sdZ pl (gp l m)<0
def zSR(pl:Pl)(l:List Pt):Nat→Prop
  |0=>False
  |m+1=>zSR pl l m∨0<sdZ pl (gp l m)
noncomputable def cutB(pl:Pl)(l:List Pt):List Pt:=if zV3 pl l l.length∨¬zSR pl l l.length then zY4 pl l l.length else[]
noncomputable def cutF(pl:Pl)(l:List Pt):List Pt:=if zSR pl l l.length then zYK pl l l.length else[]
section
variable {pl:Pl}{l B:List Pt}{m:Nat}
noncomputable def bkH(pl:Pl)(l:List Pt)(m:Nat):List Pt:=zY4 pl l m++(if sdZ pl (gp l m)≤0 then[gp l m] else[])
noncomputable def frH(pl:Pl)(l:List Pt)(m:Nat):List Pt:=zYK pl l m++(if 0≤sdZ pl (gp l m) then[gp l m] else[])
end
end Bk
namespace Bk
set_option linter.unusedVariables false
set_option linter.unusedSimpArgs false
open Classical
def triT(P:Nat→P2)(n:Nat):Prop:=∀i j k,i<j→j<k→k<n→0<cr (P i) (P j) (P k)
def edgeT(P:Nat→P2)(n:Nat):Prop:=∀i k,i<n→2≤k→k<n→0<cr (P i) (P ((i+1)%n)) (P ((i+k)%n))
def lp(t:Rat)(a b:P2):P2:=(a.1+t*(b.1-a.1),a.2+t*(b.2-a.2))
def ex(P:Nat→P2)(n m:Nat):P2:=P (m%n)
abbrev Mk:=Nat×Bool
def mkP(P:Nat→P2)(n:Nat)(t:Nat→Rat)(M:Mk):P2:=if M.2 then lp (t M.1) (ex P n M.1) (ex P n (M.1+1)) else ex P n M.1
def mkLt(A B:Mk):Prop:=A.1<B.1∨(A.1=B.1∧A.2=false∧B.2=true)
def chg(s:Nat→Int)(n m:Nat):Prop:=s m*s ((m+1)%n)<0
noncomputable def mks(s:Nat→Int)(n:Nat):Nat→List Mk
  |0=>[]
  |m+1=>mks s n m++(if s m≤0 then[(m,false)] else[])++(if chg s n m then[(m,true)] else[])
end Bk
namespace Bk
set_option linter.unusedVariables false
set_option linter.unusedSimpArgs false
open Classical
def inC(P:Nat→P2)(n:Nat)(p:P2):Prop:=∀m,m<n→0≤cr (P m) (P ((m+1)%n)) p
def afZ(w:Rat×Rat×Rat)(p:P2):Rat:=w.1+w.2.1*p.1+w.2.2*p.2
def mkS(S:Nat→Int)(M:Mk):Prop:=if M.2 then S M.1*S (M.1+1)<0 else S M.1≤0
def nxM(L:List Mk)(n q:Nat):Mk:=if q+1<L.length then L.getD (q+1) (0,false) else((L.getD 0 (0,false)).1+n,(L.getD 0 (0,false)).2)
section
variable {s:Nat→Int}{n:Nat}
end
structure Cfg(P:Nat→P2)(n:Nat)(t:Nat→Rat)(s:Nat→Int)(w:Rat×Rat×Rat):Prop where
  h3:3≤n
  tri:triT P n
  per:∀m,t (m%n)=t m
  cross:∀m,m<n→chg s n m→(0<t m∧t m<1)∧afZ w (lp (t m) (P m) (P ((m+1)%n)))=0
  neg:∀m,m<n→(s m<0↔afZ w (P m)<0)
  zero:∀m,m<n→(s m=0↔afZ w (P m)=0)
section
variable {P:Nat→P2}{n:Nat}{t:Nat→Rat}{s:Nat→Int}{w:Rat×Rat×Rat}
def cx(u v:P2):Rat:=u.1*v.2-v.1*u.2
def arC(P:Nat→P2)(n:Nat):Nat→Rat
  |0=>0
  |m+1=>arC P n m+cx (P m) (P ((m+1)%n))
def arO(P:Nat→P2)(n:Nat)(o:P2):Nat→Rat
  |0=>0
  |m+1=>arO P n o m+cr o (P m) (P ((m+1)%n))
noncomputable def om(S:Nat→Int)(t:Nat→Rat)(e:Nat):Rat:=
  if S e≤0∧S (e+1)≤0 then 1 else if S e<0∧0<S (e+1) then t e else if 0<S e∧S (e+1)<0 then 1-t e else 0
noncomputable def zZE(S:Nat→Int)(t:Nat→Rat)(k:Nat→Rat):Nat→Rat
  |0=>0
  |e+1=>zZE S t k e+om S t e*k e
noncomputable def uM(S:Nat→Int)(t:Nat→Rat)(k:Nat→Rat)(M:Mk):Rat:=zZE S t k M.1+if M.2=true∧S M.1<0 then t M.1*k M.1 else 0
end
def ngW(w:Rat×Rat×Rat):Rat×Rat×Rat:=(-w.1,-w.2.1,-w.2.2)
section
variable {P:Nat→P2}{n:Nat}{t:Nat→Rat}{s:Nat→Int}{w:Rat×Rat×Rat}
end
end Bk
namespace Bk
set_option linter.unusedVariables false
set_option linter.unusedSimpArgs false
open Classical
noncomputable def pt2(pl:Pl)(p:Pt):P2:=pr p (axI pl.1) (axJ pl.1)
def convP(pl:Pl)(l:List Pt):Prop:=
  (3≤l.length∧¬pl.1=zT)∧(∀m,m<l.length→sdZ pl (gp l m)=0)∧∀m k,m<l.length→2≤k→k<l.length→0<orZ (pt2 pl (gp l m)) (pt2 pl (nx l m)) (pt2 pl (gp l ((m+k)%l.length)))
noncomputable def mk3(c:Pl)(l:List Pt)(M:Mk):Pt:=if M.2 then btw c (gp l M.1) (nx l M.1) else gp l M.1
noncomputable def sgB(c:Pl)(l:List Pt)(m:Nat):Int:=sdZ c (gp l m)
noncomputable def sgF(c:Pl)(l:List Pt)(m:Nat):Int:=-sdZ c (gp l m)
noncomputable def tC(c:Pl)(l:List Pt)(m:Nat):Rat:=yAN c (gp l (m%l.length)) (nx l (m%l.length))
def j9(a b c:Pt):Rat:=jL a (rC b c)
end Bk
namespace Bk
set_option linter.unusedVariables false
set_option linter.unusedSimpArgs false
open Go Go.RowKit
open Classical
end Bk
namespace Go.Proofs.YtboaboflnckgoaaGreat
open Bk Go Tryz
set_option linter.unusedVariables false
set_option linter.unusedSimpArgs false
set_option maxRecDepth 10000
set_option maxHeartbeats 1000000
attribute [local irreducible] GL GC GQ W OpV
theorem zKI{w0:World}{h0:Mem}(hs:MLe h0 (mem w0)){k l:Nat}{va:Value}{a:Tq}(ra:(tPt k).Is h0 va a){vb:Value}{b:Tq}(rb:(tPt l).Is h0 vb b)(hcd0:k+l≤10000000000):
    Calls Tryz.prog 116 #[va,vb,vF 70 []] w0 (Ret w0 h0 (fun h r=>(tPt (k+l+1+1)).Is h r (T3.mk (a.x+b.x) (a.y+b.y) (a.z+b.z)))):=by
 refine cb3 24 va vb (vF 70 []) func116 hs ?_
 refine go2 ?_
 refine nB ra fun b3 cs3 rb3=>(nB rb fun b4 cs4 rb4=>(nA (ρ:=(tPt (k+l+1+1))) (X:=zT) xC (wG (yE oM)) fun b6 cs6 rb6=>?_))
 refine go4 ?_
 refine nA (ρ:=(tPt (k+l+1+1))) (X:=zT) xC (wG (yE oM)) fun b7 cs7 rb7=>?_
 refine go9 ?_
 refine sZ ?_
 refine go2 ?_
 refine gv (OpV.tr dC (yL (q:=3) rfl rfl)) rfl ?_
 refine tO ?_
 refine gD 10 (qq 0 8 [(8,.c),(9,.q),(10,.t)]) (by kernel_rfl) ?_
 refine go4 ?_
 refine wX rfl (xB zV (Pc.tx pH) rb3) fun v16u1 r16u1=>?_
 refine go2 ?_
 refine wX rfl (xB zV (Pc.tx pH) rb4) fun v19u1 r19u1=>?_
 refine w_c rfl (cI (rB (vs:=[_,_]) call70 rfl e2z) rfl (fun w hs=>sJ hs r16u1 r19u1 oM) ?_)
 intro v20u1 h1 hh1 r20u1
 change (rpQ (k+l+1)).Is h1 v20u1 (a.x+b.x) at r20u1
 refine go1 ?_
 refine yQ (A:=[]) rfl (uB sizeOf26 (Pc.tx pH) rb7 (r20u1.le (Le.q (l:=k+l+1+1) oM))) fun cs_1 rb_2=>?_
 refine go4 ?_
 refine gv ((yB (q:=1) rfl rfl oM oM).cv (show _=vI (1) from rfl)) rfl ?_
 refine go2 ?_
 refine vV ?_
 refine go2 ?_
 refine gv (OpV.tr dC (yL (q:=3) rfl rfl)) rfl ?_
 refine tO ?_
 refine gD 10 (qq 0 8 [(8,.c),(9,.q),(10,.t)]) (by kernel_rfl) ?_
 refine go4 ?_
 refine wX rfl (xB zV (Pc.ty pH) rb3) fun v16u2 r16u2=>?_
 refine go2 ?_
 refine wX rfl (xB zV (Pc.ty pH) rb4) fun v19u2 r19u2=>?_
 refine w_c rfl (cI (rB (vs:=[_,_]) call70 rfl e2z) rfl (fun w hs=>sJ hs r16u2 r19u2 oM) ?_)
 intro v20u2 h2 hh2 r20u2
 change (rpQ (k+l+1)).Is h2 v20u2 (a.y+b.y) at r20u2
 refine go1 ?_
 refine yQ (A:=[]) rfl (uB sizeOf26 (Pc.ty pH) rb_2 (r20u2.le (Le.q (l:=k+l+1+1) oM))) fun cs_3 rb_4=>?_
 refine go4 ?_
 refine gv ((yB (q:=1) rfl rfl oM oM).cv (show _=vI (2) from rfl)) rfl ?_
 refine go2 ?_
 refine vV ?_
 refine go2 ?_
 refine gv (OpV.tr dC (yL (q:=3) rfl rfl)) rfl ?_
 refine tO ?_
 refine gD 10 (qq 0 8 [(8,.c),(9,.q),(10,.t)]) (by kernel_rfl) ?_
 refine go4 ?_
 refine wX rfl (xB zV (Pc.tz pH) rb3) fun v16u3 r16u3=>?_
 refine go2 ?_
 refine wX rfl (xB zV (Pc.tz pH) rb4) fun v19u3 r19u3=>?_
 refine w_c rfl (cI (rB (vs:=[_,_]) call70 rfl e2z) rfl (fun w hs=>sJ hs r16u3 r19u3 oM) ?_)
 intro v20u3 h3 hh3 r20u3
 change (rpQ (k+l+1)).Is h3 v20u3 (a.z+b.z) at r20u3
 refine go1 ?_
 refine yQ (A:=[]) rfl (uB sizeOf26 (Pc.tz pH) rb_4 (r20u3.le (Le.q (l:=k+l+1+1) oM))) fun cs_5 rb_6=>?_
 refine go4 ?_
 refine gv ((yB (q:=1) rfl rfl oM oM).cv (show _=vI (3) from rfl)) rfl ?_
 refine go2 ?_
 refine vV ?_
 refine go2 ?_
 refine gv (OpV.fa dC (yL (q:=3) rfl rfl)) rfl ?_
 refine uO ?_
 refine lX (xB zW pH rb_6) fun v23u4 r23u4=>(zO (A:=[_]) (uB sizeOf53 pH rb6 r23u4) fun cs_7 rb_8=>?_)
 refine go3 ?_
 refine wH (jO (t:=6) zW mh1 rfl rb_8) ?_
 intro w_9 hvw_9 rr_10
 refine yA (fun E S=>zS rfl hvw_9 E S) ?_
 exact rr_10
theorem zKG{w0:World}{h0:Mem}(hs:MLe h0 (mem w0)){k l:Nat}{va:Value}{a:Tq}(ra:(tPt k).Is h0 va a){vb:Value}{b:Tq}(rb:(tPt l).Is h0 vb b)(hcd0:k+l≤10000000000):
    Calls Tryz.prog 116 #[va,vb,vF 179 []] w0 (Ret w0 h0 (fun h r=>(tPt (k+l+1+1)).Is h r (T3.mk (a.x-b.x) (a.y-b.y) (a.z-b.z)))):=by
 refine cb3 24 va vb (vF 179 []) func116 hs ?_
 refine go2 ?_
 refine nB ra fun b3 cs3 rb3=>(nB rb fun b4 cs4 rb4=>(nA (ρ:=(tPt (k+l+1+1))) (X:=zT) xC (wG (yE oM)) fun b6 cs6 rb6=>?_))
 refine go4 ?_
 refine nA (ρ:=(tPt (k+l+1+1))) (X:=zT) xC (wG (yE oM)) fun b7 cs7 rb7=>?_
 refine go9 ?_
 refine sZ ?_
 refine go2 ?_
 refine gv (OpV.tr dC (yL (q:=3) rfl rfl)) rfl ?_
 refine tO ?_
 refine gD 10 (qq 0 8 [(8,.c),(9,.q),(10,.t)]) (by kernel_rfl) ?_
 refine go4 ?_
 refine wX rfl (xB zV (Pc.tx pH) rb3) fun v16u5 r16u5=>?_
 refine go2 ?_
 refine wX rfl (xB zV (Pc.tx pH) rb4) fun v19u5 r19u5=>?_
 refine w_c rfl (cI (rB (vs:=[_,_]) call179 rfl e2z) rfl (fun w hs=>cT hs r16u5 r19u5 oM) ?_)
 intro v20u5 h1 hh1 r20u5
 change (rpQ (k+l+1)).Is h1 v20u5 (a.x-b.x) at r20u5
 refine go1 ?_
 refine yQ (A:=[]) rfl (uB sizeOf26 (Pc.tx pH) rb7 (r20u5.le (Le.q (l:=k+l+1+1) oM))) fun cs_11 rb_12=>?_
 refine go4 ?_
 refine gv ((yB (q:=1) rfl rfl oM oM).cv (show _=vI (1) from rfl)) rfl ?_
 refine go2 ?_
 refine vV ?_
 refine go2 ?_
 refine gv (OpV.tr dC (yL (q:=3) rfl rfl)) rfl ?_
 refine tO ?_
 refine gD 10 (qq 0 8 [(8,.c),(9,.q),(10,.t)]) (by kernel_rfl) ?_
 refine go4 ?_
 refine wX rfl (xB zV (Pc.ty pH) rb3) fun v16u6 r16u6=>?_
 refine go2 ?_
 refine wX rfl (xB zV (Pc.ty pH) rb4) fun v19u6 r19u6=>?_
 refine w_c rfl (cI (rB (vs:=[_,_]) call179 rfl e2z) rfl (fun w hs=>cT hs r16u6 r19u6 oM) ?_)
 intro v20u6 h2 hh2 r20u6
 change (rpQ (k+l+1)).Is h2 v20u6 (a.y-b.y) at r20u6
 refine go1 ?_
 refine yQ (A:=[]) rfl (uB sizeOf26 (Pc.ty pH) rb_12 (r20u6.le (Le.q (l:=k+l+1+1) oM))) fun cs_13 rb_14=>?_
 refine go4 ?_
 refine gv ((yB (q:=1) rfl rfl oM oM).cv (show _=vI (2) from rfl)) rfl ?_
 refine go2 ?_
 refine vV ?_
 refine go2 ?_
 refine gv (OpV.tr dC (yL (q:=3) rfl rfl)) rfl ?_
 refine tO ?_
 refine gD 10 (qq 0 8 [(8,.c),(9,.q),(10,.t)]) (by kernel_rfl) ?_
 refine go4 ?_
 refine wX rfl (xB zV (Pc.tz pH) rb3) fun v16u7 r16u7=>?_
 refine go2 ?_
 refine wX rfl (xB zV (Pc.tz pH) rb4) fun v19u7 r19u7=>?_
 refine w_c rfl (cI (rB (vs:=[_,_]) call179 rfl e2z) rfl (fun w hs=>cT hs r16u7 r19u7 oM) ?_)
 intro v20u7 h3 hh3 r20u7
 change (rpQ (k+l+1)).Is h3 v20u7 (a.z-b.z) at r20u7
 refine go1 ?_
 refine yQ (A:=[]) rfl (uB sizeOf26 (Pc.tz pH) rb_14 (r20u7.le (Le.q (l:=k+l+1+1) oM))) fun cs_15 rb_16=>?_
 refine go4 ?_
 refine gv ((yB (q:=1) rfl rfl oM oM).cv (show _=vI (3) from rfl)) rfl ?_
 refine go2 ?_
 refine vV ?_
 refine go2 ?_
 refine gv (OpV.fa dC (yL (q:=3) rfl rfl)) rfl ?_
 refine uO ?_
 refine lX (xB zW pH rb_16) fun v23u8 r23u8=>(zO (A:=[_]) (uB sizeOf53 pH rb6 r23u8) fun cs_17 rb_18=>?_)
 refine go3 ?_
 refine wH (jO (t:=6) zW mh1 rfl rb_18) ?_
 intro w_19 hvw_19 rr_20
 refine yA (fun E S=>zS rfl hvw_19 E S) ?_
 exact rr_20
theorem zKH{w0:World}{h0:Mem}(hs:MLe h0 (mem w0)){k l:Nat}{va:Value}{a:Tq}(ra:(tPt k).Is h0 va a){vb:Value}{b:Tq}(rb:(tPt l).Is h0 vb b)(hcd0:k+l≤10000000000):
    Calls Tryz.prog 116 #[va,vb,vF 76 []] w0 (Ret w0 h0 (fun h r=>(tPt (k+l+1)).Is h r (T3.mk (a.x*b.x) (a.y*b.y) (a.z*b.z)))):=by
 refine cb3 24 va vb (vF 76 []) func116 hs ?_
 refine go2 ?_
 refine nB ra fun b3 cs3 rb3=>(nB rb fun b4 cs4 rb4=>(nA (ρ:=(tPt (k+l+1))) (X:=zT) xC (wG (yE oM)) fun b6 cs6 rb6=>?_))
 refine go4 ?_
 refine nA (ρ:=(tPt (k+l+1))) (X:=zT) xC (wG (yE oM)) fun b7 cs7 rb7=>?_
 refine go9 ?_
 refine sZ ?_
 refine go2 ?_
 refine gv (OpV.tr dC (yL (q:=3) rfl rfl)) rfl ?_
 refine tO ?_
 refine gD 10 (qq 0 8 [(8,.c),(9,.q),(10,.t)]) (by kernel_rfl) ?_
 refine go4 ?_
 refine wX rfl (xB zV (Pc.tx pH) rb3) fun v16u9 r16u9=>?_
 refine go2 ?_
 refine wX rfl (xB zV (Pc.tx pH) rb4) fun v19u9 r19u9=>?_
 refine w_c rfl (cI (rB (vs:=[_,_]) call76 rfl e2z) rfl (fun w hs=>jQ hs r16u9 r19u9 oM) ?_)
 intro v20u9 h1 hh1 r20u9
 change (rpQ (k+l)).Is h1 v20u9 (a.x*b.x) at r20u9
 refine go1 ?_
 refine yQ (A:=[]) rfl (uB sizeOf26 (Pc.tx pH) rb7 (r20u9.le (Le.q (l:=k+l+1) oM))) fun cs_21 rb_22=>?_
 refine go4 ?_
 refine gv ((yB (q:=1) rfl rfl oM oM).cv (show _=vI (1) from rfl)) rfl ?_
 refine go2 ?_
 refine vV ?_
 refine go2 ?_
 refine gv (OpV.tr dC (yL (q:=3) rfl rfl)) rfl ?_
 refine tO ?_
 refine gD 10 (qq 0 8 [(8,.c),(9,.q),(10,.t)]) (by kernel_rfl) ?_
 refine go4 ?_
 refine wX rfl (xB zV (Pc.ty pH) rb3) fun v16u10 r16u10=>?_
 refine go2 ?_
 refine wX rfl (xB zV (Pc.ty pH) rb4) fun v19u10 r19u10=>?_
 refine w_c rfl (cI (rB (vs:=[_,_]) call76 rfl e2z) rfl (fun w hs=>jQ hs r16u10 r19u10 oM) ?_)
 intro v20u10 h2 hh2 r20u10
 change (rpQ (k+l)).Is h2 v20u10 (a.y*b.y) at r20u10
 refine go1 ?_
 refine yQ (A:=[]) rfl (uB sizeOf26 (Pc.ty pH) rb_22 (r20u10.le (Le.q (l:=k+l+1) oM))) fun cs_23 rb_24=>?_
 refine go4 ?_
 refine gv ((yB (q:=1) rfl rfl oM oM).cv (show _=vI (2) from rfl)) rfl ?_
 refine go2 ?_
 refine vV ?_
 refine go2 ?_
 refine gv (OpV.tr dC (yL (q:=3) rfl rfl)) rfl ?_
 refine tO ?_
 refine gD 10 (qq 0 8 [(8,.c),(9,.q),(10,.t)]) (by kernel_rfl) ?_
 refine go4 ?_
 refine wX rfl (xB zV (Pc.tz pH) rb3) fun v16u11 r16u11=>?_
 refine go2 ?_
 refine wX rfl (xB zV (Pc.tz pH) rb4) fun v19u11 r19u11=>?_
 refine w_c rfl (cI (rB (vs:=[_,_]) call76 rfl e2z) rfl (fun w hs=>jQ hs r16u11 r19u11 oM) ?_)
 intro v20u11 h3 hh3 r20u11
 change (rpQ (k+l)).Is h3 v20u11 (a.z*b.z) at r20u11
 refine go1 ?_
 refine yQ (A:=[]) rfl (uB sizeOf26 (Pc.tz pH) rb_24 (r20u11.le (Le.q (l:=k+l+1) oM))) fun cs_25 rb_26=>?_
 refine go4 ?_
 refine gv ((yB (q:=1) rfl rfl oM oM).cv (show _=vI (3) from rfl)) rfl ?_
 refine go2 ?_
 refine vV ?_
 refine go2 ?_
 refine gv (OpV.fa dC (yL (q:=3) rfl rfl)) rfl ?_
 refine uO ?_
 refine lX (xB zW pH rb_26) fun v23u12 r23u12=>(zO (A:=[_]) (uB sizeOf53 pH rb6 r23u12) fun cs_27 rb_28=>?_)
 refine go3 ?_
 refine wH (jO (t:=6) zW mh1 rfl rb_28) ?_
 intro w_29 hvw_29 rr_30
 refine yA (fun E S=>zS rfl hvw_29 E S) ?_
 exact rr_30
theorem zBI{w0:World}{h0:Mem}(hs:MLe h0 (mem w0)){k l:Nat}{va:Value}{a:Tq}(ra:(tPt k).Is h0 va a){vb:Value}{b:Tq}(rb:(tPt l).Is h0 vb b)(hcd0:k+l≤10000000000):
    Calls Tryz.prog 71 #[va,vb] w0 (Ret w0 h0 (fun h r=>(tPt (k+l+2)).Is h r (T3.mk (a.x+b.x) (a.y+b.y) (a.z+b.z)))):=by
 refine cb2 8 va vb func71 hs ?_
 refine go2 ?_
 refine nB ra fun b2 cs2 rb2=>(nB rb fun b3 cs3 rb3=>(nA (ρ:=(tPt (k+l+2))) (X:=zT) xC (wG (yE oM)) fun b4 cs4 rb4=>?_))
 refine go4 ?_
 refine lX (xB zW pH rb2) fun v5 r5=>(lX (xB zW pH rb3) fun v6 r6=>(cL (ev3 rfl rfl rfl) call116 (fun w hs=>zKI hs r5 r6 oM) fun v7 h1 hh1 r7=>?_))
 replace r7:=Rp.Is.le r7 (Le.t (Le.q (l:=k+l+2) oM))
 refine zO (A:=[]) (uB sizeOf53 pH rb4 r7) fun cs_31 rb_32=>?_
 refine go3 ?_
 refine wH (jO (t:=4) zW mh0 rfl rb_32) ?_
 intro w_33 hvw_33 rr_34
 refine yA (fun E S=>zS rfl hvw_33 E S) ?_
 exact rr_34
theorem zL0{w0:World}{h0:Mem}(hs:MLe h0 (mem w0)){k l:Nat}{va:Value}{a:Tq}(ra:(tPt k).Is h0 va a){vb:Value}{b:Tq}(rb:(tPt l).Is h0 vb b)(hcd0:k+l≤10000000000):
    Calls Tryz.prog 133 #[va,vb] w0 (Ret w0 h0 (fun h r=>(tPt (k+l+2)).Is h r (T3.mk (a.x-b.x) (a.y-b.y) (a.z-b.z)))):=by
 refine cb2 8 va vb func133 hs ?_
 refine go2 ?_
 refine nB ra fun b2 cs2 rb2=>(nB rb fun b3 cs3 rb3=>(nA (ρ:=(tPt (k+l+2))) (X:=zT) xC (wG (yE oM)) fun b4 cs4 rb4=>?_))
 refine go4 ?_
 refine lX (xB zW pH rb2) fun v5 r5=>(lX (xB zW pH rb3) fun v6 r6=>(cL (ev3 rfl rfl rfl) call116 (fun w hs=>zKG hs r5 r6 oM) fun v7 h1 hh1 r7=>?_))
 replace r7:=Rp.Is.le r7 (Le.t (Le.q (l:=k+l+2) oM))
 refine zO (A:=[]) (uB sizeOf53 pH rb4 r7) fun cs_35 rb_36=>?_
 refine go3 ?_
 refine wH (jO (t:=4) zW mh0 rfl rb_36) ?_
 intro w_37 hvw_37 rr_38
 refine yA (fun E S=>zS rfl hvw_37 E S) ?_
 exact rr_38
theorem s4{w0:World}{h0:Mem}(hs:MLe h0 (mem w0)){l k:Nat}{vq:Value}{q:Rat}(rq:(rpQ l).Is h0 vq q){va:Value}{a:Tq}(ra:(tPt k).Is h0 va a)(hcd0:k+l≤1000000000):
    Calls Tryz.prog 72 #[vq,va] w0 (Ret w0 h0 (fun h r=>(tPt (k+l+2)).Is h r (T3.mk (q*a.x) (q*a.y) (q*a.z)))):=by
 refine cb2 11 vq va func72 hs ?_
 refine go2 ?_
 refine nB rq fun b2 cs2 rb2=>(nB ra fun b3 cs3 rb3=>(nA (ρ:=(tPt (k+l+2))) (X:=zT) xC (wG (yE oM)) fun b4 cs4 rb4=>?_))
 refine go4 ?_
 refine lX (xB zV pH rb2) fun v5 r5=>(lX (xB zV pH rb2) fun v6 r6=>(lX (xB zV pH rb2) fun v7 r7=>(lX (xV (ρ:=(tPt (l+1))) (wQ (ps':=[(0,_),(1,_),(2,_)]) underlying53 xC rfl rfl sizeOf26 e6 rfl (wG (yE oM)) (zJ rfl (Pc.tx (Pc.here _)) (r5.le (Le.q (l:=l+1) oM)) (zJ rfl (Pc.ty (Pc.here _)) (r6.le (Le.q (l:=l+1) oM)) (zJ rfl (Pc.tz (Pc.here _)) (r7.le (Le.q (l:=l+1) oM)) zX))))) fun v8 r8=>(lX (xB zW pH rb3) fun v9 r9=>(cL (ev3 rfl rfl rfl) call116 (fun w hs=>zKH hs r8 r9 oM) fun v10 h1 hh1 r10=>?_)))))
 replace r10:=Rp.Is.le r10 (Le.t (Le.q (l:=k+l+2) oM))
 refine zO (A:=[]) (uB sizeOf53 pH rb4 r10) fun cs_39 rb_40=>?_
 refine go3 ?_
 refine wH (jO (t:=4) zW mh0 rfl rb_40) ?_
 intro w_41 hvw_41 rr_42
 refine yA (fun E S=>zS rfl hvw_41 E S) ?_
 exact rr_42
theorem zL1{w0:World}{h0:Mem}(hs:MLe h0 (mem w0)){k l:Nat}{va:Value}{a:Tq}(ra:(tPt k).Is h0 va a){vb:Value}{b:Tq}(rb:(tPt l).Is h0 vb b)(hcd0:k+l≤1000000000):
    Calls Tryz.prog 88 #[va,vb] w0 (Ret w0 h0 (fun h r=>(rpQ (3*k+3*l+9)).Is h r (jL a b))):=by
 refine cb2 21 va vb func88 hs ?_
 refine go2 ?_
 refine nB ra fun b2 cs2 rb2=>(nB rb fun b3 cs3 rb3=>(nA (ρ:=(rpQ (3*k+3*l+9))) (X:=(0:Rat)) yF (yE oM) fun b4 cs4 rb4=>?_))
 refine go4 ?_
 refine nA (ρ:=(rpQ 1)) (X:=(0:Rat)) yF (yE dC) fun b5 cs5 rb5=>?_
 refine go9 ?_
 refine sZ ?_
 refine go2 ?_
 refine gv (OpV.tr dC (yL (q:=3) rfl rfl)) rfl ?_
 refine tO ?_
 refine gD 9 (qq 0 7 [(7,.c),(8,.c),(9,.t)]) (by kernel_rfl) ?_
 refine wX rfl (xB zV pH rb5) fun v10u13 r10u13=>?_
 refine go2 ?_
 refine wX rfl (xB zV (Pc.tx pH) rb2) fun v13u13 r13u13=>?_
 refine go2 ?_
 refine wX rfl (xB zV (Pc.tx pH) rb3) fun v16u13 r16u13=>?_
 refine w_c rfl (sC (ev2 rfl rfl) call76 (fun w hs=>jQ hs r13u13 r16u13 oM) fun v17u13 h1 hh1 r17u13=>?_)
 change (rpQ (k+l)).Is h1 v17u13 (a.x*b.x) at r17u13
 refine w_c rfl (sC (ev2 rfl rfl) call70 (fun w hs=>sJ hs r10u13.up r17u13 oM) fun v18u13 h2 hh2 r18u13=>?_)
 change (rpQ (1+(k+l)+1)).Is h2 v18u13 ((0:Rat)+(a.x*b.x)) at r18u13
 replace r18u13:=Rp.Is.le r18u13 (Le.q (l:=k+l+2) oM)
 replace rb5:=rb5.mono (hh1.trans hh2)
 have rw_43:=(Le.q (l:=k+l+2) oM).R rb5
 refine yQ (A:=[]) rfl (uB sizeOf26 pH rw_43 r18u13) fun cs_44 rb_45=>?_
 refine go4 ?_
 refine gv ((yB (q:=1) rfl rfl oM oM).cv (show _=vI (1) from rfl)) rfl ?_
 refine go2 ?_
 refine vV ?_
 refine go2 ?_
 refine gv (OpV.tr dC (yL (q:=3) rfl rfl)) rfl ?_
 refine tO ?_
 refine gD 9 (qq 0 7 [(7,.c),(8,.c),(9,.t)]) (by kernel_rfl) ?_
 refine wX rfl (xB zV pH rb_45) fun v10u14 r10u14=>?_
 refine go2 ?_
 refine wX rfl (xB zV (Pc.ty pH) rb2) fun v13u14 r13u14=>?_
 refine go2 ?_
 refine wX rfl (xB zV (Pc.ty pH) rb3) fun v16u14 r16u14=>?_
 refine w_c rfl (sC (ev2 rfl rfl) call76 (fun w hs=>jQ hs r13u14 r16u14 oM) fun v17u14 h3 hh3 r17u14=>?_)
 change (rpQ (k+l)).Is h3 v17u14 (a.y*b.y) at r17u14
 refine w_c rfl (sC (ev2 rfl rfl) call70 (fun w hs=>sJ hs r10u14.up r17u14 oM) fun v18u14 h4 hh4 r18u14=>?_)
 change (rpQ ((k+l+2)+(k+l)+1)).Is h4 v18u14 (((0:Rat)+(a.x*b.x))+(a.y*b.y)) at r18u14
 replace r18u14:=Rp.Is.le r18u14 (Le.q (l:=2*k+2*l+3) oM)
 replace rb_45:=rb_45.mono (hh3.trans hh4)
 have rw_46:=(Le.q (l:=2*k+2*l+3) oM).R rb_45
 refine yQ (A:=[]) rfl (uB sizeOf26 pH rw_46 r18u14) fun cs_47 rb_48=>?_
 refine go4 ?_
 refine gv ((yB (q:=1) rfl rfl oM oM).cv (show _=vI (2) from rfl)) rfl ?_
 refine go2 ?_
 refine vV ?_
 refine go2 ?_
 refine gv (OpV.tr dC (yL (q:=3) rfl rfl)) rfl ?_
 refine tO ?_
 refine gD 9 (qq 0 7 [(7,.c),(8,.c),(9,.t)]) (by kernel_rfl) ?_
 refine wX rfl (xB zV pH rb_48) fun v10u15 r10u15=>?_
 refine go2 ?_
 refine wX rfl (xB zV (Pc.tz pH) rb2) fun v13u15 r13u15=>?_
 refine go2 ?_
 refine wX rfl (xB zV (Pc.tz pH) rb3) fun v16u15 r16u15=>?_
 refine w_c rfl (sC (ev2 rfl rfl) call76 (fun w hs=>jQ hs r13u15 r16u15 oM) fun v17u15 h5 hh5 r17u15=>?_)
 change (rpQ (k+l)).Is h5 v17u15 (a.z*b.z) at r17u15
 refine w_c rfl (sC (ev2 rfl rfl) call70 (fun w hs=>sJ hs r10u15.up r17u15 oM) fun v18u15 h6 hh6 r18u15=>?_)
 change (rpQ ((2*k+2*l+3)+(k+l)+1)).Is h6 v18u15 ((((0:Rat)+(a.x*b.x))+(a.y*b.y))+(a.z*b.z)) at r18u15
 replace r18u15:=Rp.Is.le r18u15 (Le.q (l:=3*k+3*l+4) oM)
 replace rb_48:=rb_48.mono (hh5.trans hh6)
 have rw_49:=(Le.q (l:=3*k+3*l+4) oM).R rb_48
 refine yQ (A:=[]) rfl (uB sizeOf26 pH rw_49 r18u15) fun cs_50 rb_51=>?_
 refine go4 ?_
 refine gv ((yB (q:=1) rfl rfl oM oM).cv (show _=vI (3) from rfl)) rfl ?_
 refine go2 ?_
 refine vV ?_
 refine go2 ?_
 refine gv (OpV.fa dC (yL (q:=3) rfl rfl)) rfl ?_
 refine uO ?_
 refine lX (xB zV pH rb_51) fun v20u16 r20u16=>(zO (A:=[_]) (uB sizeOf26 pH rb4 (r20u16.le (Le.q (l:=3*k+3*l+9) oM))) fun cs_52 rb_53=>?_)
 refine go3 ?_
 refine wH (jO (t:=4) zV mh1 rfl rb_53) ?_
 intro w_54 hvw_54 rr_55
 refine yA (fun E S=>zS rfl hvw_54 E S) ?_
 exact(Rp.Is.cast rr_55 (by unfold jL;grind))
theorem zEF{w0:World}{h0:Mem}(hs:MLe h0 (mem w0)){k l:Nat}{va:Value}{a:Tq}(ra:(tPt k).Is h0 va a){vb:Value}{b:Tq}(rb:(tPt l).Is h0 vb b)(hcd0:k+l≤1000000000):
    Calls Tryz.prog 132 #[va,vb] w0 (Ret w0 h0 (fun h r=>(tPt (2*k+2*l+3)).Is h r (rC a b))):=by
 refine cb2 37 va vb func132 hs ?_
 refine go2 ?_
 refine nB ra fun b2 cs2 rb2=>(nB rb fun b3 cs3 rb3=>(nA (ρ:=(tPt (2*k+2*l+3))) (X:=zT) xC (wG (yE oM)) fun b4 cs4 rb4=>?_))
 refine go4 ?_
 refine nA (ρ:=(tPt (2*k+2*l+3))) (X:=zT) xC (wG (yE oM)) fun b5 cs5 rb5=>?_
 refine go9 ?_
 refine sZ ?_
 refine go2 ?_
 refine gv (OpV.tr dC (yL (q:=3) rfl rfl)) rfl ?_
 refine dE ?_
 refine gv ((yB (q:=1) rfl rfl oM oM).cv (show _=vI (1) from rfl)) rfl (gv ((uH (q:=3) rfl rfl oM oM).cv (show _=vI (1) from rfl)) rfl ?_)
 refine go1 ?_
 refine gv ((yB (q:=2) rfl rfl oM oM).cv (show _=vI (2) from rfl)) rfl (gv ((uH (q:=3) rfl rfl oM oM).cv (show _=vI (2) from rfl)) rfl ?_)
 refine go4 ?_
 refine gD 17 (qq 0 7 (qq 8 6 [(7,.c),(14,.c),(15,.c),(16,.q),(17,.t)])) (uA [0,0,2,4,0,16,32,72,0,256,512,0,2048,4096,9344,16512,65535,131071] (frz 262143 [0,0,2,4,0,16,32,72,0,256,512,0,2048,4096,9216,16512,1,98304]) (by kernel_rfl)) ?_
 refine go3 ?_
 refine wX rfl (xB zV (Pc.ty pH) rb2) fun v21u17 r21u17=>?_
 refine go2 ?_
 refine wX rfl (xB zV (Pc.tz pH) rb3) fun v24u17 r24u17=>?_
 refine go2 ?_
 refine wX rfl (xB zV (Pc.tz pH) rb2) fun v28u17 r28u17=>?_
 refine go2 ?_
 refine wX rfl (xB zV (Pc.ty pH) rb3) fun v31u17 r31u17=>?_
 refine w_c rfl (sC (ev2 rfl rfl) call76 (fun w hs=>jQ hs r21u17 r24u17 oM) fun v25u17 h1 hh1 r25u17=>?_)
 change (rpQ (k+l)).Is h1 v25u17 (a.y*b.z) at r25u17
 refine w_c rfl (sC (ev2 rfl rfl) call76 (fun w hs=>jQ hs r28u17.up r31u17.up oM) fun v32u17 h2 hh2 r32u17=>?_)
 change (rpQ (k+l)).Is h2 v32u17 (a.z*b.y) at r32u17
 refine w_c rfl (sC (ev2 rfl rfl) call179 (fun w hs=>cT hs r25u17.up r32u17 oM) fun v33u17 h3 hh3 r33u17=>?_)
 change (rpQ ((k+l)+(k+l)+1)).Is h3 v33u17 ((a.y*b.z)-(a.z*b.y)) at r33u17
 replace r33u17:=Rp.Is.le r33u17 (Le.q (l:=2*k+2*l+1) oM)
 refine go1 ?_
 refine yQ (A:=[]) rfl (uB sizeOf26 (Pc.tx pH) rb5 (r33u17.le (Le.q (l:=2*k+2*l+3) oM))) fun cs_56 rb_57=>?_
 refine go4 ?_
 refine gv ((yB (q:=1) rfl rfl oM oM).cv (show _=vI (1) from rfl)) rfl ?_
 refine go2 ?_
 refine vV ?_
 refine go2 ?_
 refine gv (OpV.tr dC (yL (q:=3) rfl rfl)) rfl ?_
 refine dE ?_
 refine gv ((yB (q:=1) rfl rfl oM oM).cv (show _=vI (2) from rfl)) rfl (gv ((uH (q:=3) rfl rfl oM oM).cv (show _=vI (2) from rfl)) rfl ?_)
 refine go1 ?_
 refine gv ((yB (q:=2) rfl rfl oM oM).cv (show _=vI (3) from rfl)) rfl (gv ((uH (q:=3) rfl rfl oM oM).cv (show _=vI (0) from rfl)) rfl ?_)
 refine go4 ?_
 refine gD 17 (qq 0 7 (qq 8 6 [(7,.c),(14,.c),(15,.c),(16,.q),(17,.t)])) (uA [0,0,2,4,0,16,32,72,0,256,512,0,2048,4096,9344,16512,65535,131071] (frz 262143 [0,0,2,4,0,16,32,72,0,256,512,0,2048,4096,9216,16512,1,98304]) (by kernel_rfl)) ?_
 refine go3 ?_
 refine wX rfl (xB zV (Pc.tz pH) rb2) fun v21u18 r21u18=>?_
 refine go2 ?_
 refine wX rfl (xB zV (Pc.tx pH) rb3) fun v24u18 r24u18=>?_
 refine go2 ?_
 refine wX rfl (xB zV (Pc.tx pH) rb2) fun v28u18 r28u18=>?_
 refine go2 ?_
 refine wX rfl (xB zV (Pc.tz pH) rb3) fun v31u18 r31u18=>?_
 refine w_c rfl (sC (ev2 rfl rfl) call76 (fun w hs=>jQ hs r21u18 r24u18 oM) fun v25u18 h4 hh4 r25u18=>?_)
 change (rpQ (k+l)).Is h4 v25u18 (a.z*b.x) at r25u18
 refine w_c rfl (sC (ev2 rfl rfl) call76 (fun w hs=>jQ hs r28u18.up r31u18.up oM) fun v32u18 h5 hh5 r32u18=>?_)
 change (rpQ (k+l)).Is h5 v32u18 (a.x*b.z) at r32u18
 refine w_c rfl (sC (ev2 rfl rfl) call179 (fun w hs=>cT hs r25u18.up r32u18 oM) fun v33u18 h6 hh6 r33u18=>?_)
 change (rpQ ((k+l)+(k+l)+1)).Is h6 v33u18 ((a.z*b.x)-(a.x*b.z)) at r33u18
 replace r33u18:=Rp.Is.le r33u18 (Le.q (l:=2*k+2*l+1) oM)
 refine go1 ?_
 refine yQ (A:=[]) rfl (uB sizeOf26 (Pc.ty pH) rb_57 (r33u18.le (Le.q (l:=2*k+2*l+3) oM))) fun cs_58 rb_59=>?_
 refine go4 ?_
 refine gv ((yB (q:=1) rfl rfl oM oM).cv (show _=vI (2) from rfl)) rfl ?_
 refine go2 ?_
 refine vV ?_
 refine go2 ?_
 refine gv (OpV.tr dC (yL (q:=3) rfl rfl)) rfl ?_
 refine dE ?_
 refine gv ((yB (q:=1) rfl rfl oM oM).cv (show _=vI (3) from rfl)) rfl (gv ((uH (q:=3) rfl rfl oM oM).cv (show _=vI (0) from rfl)) rfl ?_)
 refine go1 ?_
 refine gv ((yB (q:=2) rfl rfl oM oM).cv (show _=vI (4) from rfl)) rfl (gv ((uH (q:=3) rfl rfl oM oM).cv (show _=vI (1) from rfl)) rfl ?_)
 refine go4 ?_
 refine gD 17 (qq 0 7 (qq 8 6 [(7,.c),(14,.c),(15,.c),(16,.q),(17,.t)])) (uA [0,0,2,4,0,16,32,72,0,256,512,0,2048,4096,9344,16512,65535,131071] (frz 262143 [0,0,2,4,0,16,32,72,0,256,512,0,2048,4096,9216,16512,1,98304]) (by kernel_rfl)) ?_
 refine go3 ?_
 refine wX rfl (xB zV (Pc.tx pH) rb2) fun v21u19 r21u19=>?_
 refine go2 ?_
 refine wX rfl (xB zV (Pc.ty pH) rb3) fun v24u19 r24u19=>?_
 refine go2 ?_
 refine wX rfl (xB zV (Pc.ty pH) rb2) fun v28u19 r28u19=>?_
 refine go2 ?_
 refine wX rfl (xB zV (Pc.tx pH) rb3) fun v31u19 r31u19=>?_
 refine w_c rfl (sC (ev2 rfl rfl) call76 (fun w hs=>jQ hs r21u19 r24u19 oM) fun v25u19 h7 hh7 r25u19=>?_)
 change (rpQ (k+l)).Is h7 v25u19 (a.x*b.y) at r25u19
 refine w_c rfl (sC (ev2 rfl rfl) call76 (fun w hs=>jQ hs r28u19.up r31u19.up oM) fun v32u19 h8 hh8 r32u19=>?_)
 change (rpQ (k+l)).Is h8 v32u19 (a.y*b.x) at r32u19
 refine w_c rfl (sC (ev2 rfl rfl) call179 (fun w hs=>cT hs r25u19.up r32u19 oM) fun v33u19 h9 hh9 r33u19=>?_)
 change (rpQ ((k+l)+(k+l)+1)).Is h9 v33u19 ((a.x*b.y)-(a.y*b.x)) at r33u19
 replace r33u19:=Rp.Is.le r33u19 (Le.q (l:=2*k+2*l+1) oM)
 refine go1 ?_
 refine yQ (A:=[]) rfl (uB sizeOf26 (Pc.tz pH) rb_59 (r33u19.le (Le.q (l:=2*k+2*l+3) oM))) fun cs_60 rb_61=>?_
 refine go4 ?_
 refine gv ((yB (q:=1) rfl rfl oM oM).cv (show _=vI (3) from rfl)) rfl ?_
 refine go2 ?_
 refine vV ?_
 refine go2 ?_
 refine gv (OpV.fa dC (yL (q:=3) rfl rfl)) rfl ?_
 refine uO ?_
 refine lX (xB zW pH rb_61) fun v36u20 r36u20=>(zO (A:=[_]) (uB sizeOf53 pH rb4 r36u20) fun cs_62 rb_63=>?_)
 refine go3 ?_
 refine wH (jO (t:=4) zW mh1 rfl rb_63) ?_
 intro w_64 hvw_64 rr_65
 refine yA (fun E S=>zS rfl hvw_64 E S) ?_
 exact rr_65
end Go.Proofs.YtboaboflnckgoaaGreat
namespace Bk
set_option linter.unusedVariables false
set_option linter.unusedSimpArgs false
open Classical
def lpP(x:List Int):Prop:=(3≤x.length∧x.length≤64)∧∀i,i<x.length→(0≤(x.getD i 0)∧(x.getD i 0)<512)∧∀k,k<i→¬(x.getD i 0)=(x.getD k 0)
def vfP(L:List (List Int)):Prop:=(1≤L.length∧L.length≤16)∧∀l,l<L.length→lpP ((L.getD l []))
def vaP(F:List (List (List Int))):Prop:=F.length≤256∧∀f,f<F.length→vfP ((F.getD f []))
abbrev E5:=Int×Int×Int×Int×Int
def edX(x:List Int)(f l:Nat):Nat→List E5:=jW fun i=>((x.getD i 0),(x.getD ((i+1)%x.length) 0),(f:Int),(l:Int),(i:Int))
def edL(L:List (List Int))(f:Nat):Nat→List E5:=pW fun l=>edX ((L.getD l [])) f l ((L.getD l [])).length
def edF(F:List (List (List Int))):Nat→List E5:=pW fun f=>edL ((F.getD f [])) f ((F.getD f [])).length
def edZ(F:List (List (List Int))):List E5:=edF F F.length
abbrev e0:E5:=((0:Int),(0:Int),(0:Int),(0:Int),(0:Int))
def zU5(e:E5)(a b:Int):Prop:=e.1=a∧e.2.1=b
noncomputable def dR(E:List E5)(a b:Int):Nat→Int
  |0=>0
  |m+1=>if zU5 ((E.getD m ((0:Int),(0:Int),(0:Int),(0:Int),(0:Int)))) a b then dR E a b m+1 else dR E a b m
theorem dQ(E:List E5)(a b:Int):∀m,0≤dR E a b m∧dR E a b m≤m
  |0=>by unfold dR;omega
  |m+1=>by
   have h:=dQ E a b m
   unfold dR
   split<;>omega
theorem tm_t{E:List E5}{a b:Int}{m:Nat}(h:zU5 ((E.getD m ((0:Int),(0:Int),(0:Int),(0:Int),(0:Int)))) a b):dR E a b m+1=dR E a b (m+1):=(if_pos h).symm
theorem tm_f{E:List E5}{a b:Int}{m:Nat}(h:¬zU5 ((E.getD m ((0:Int),(0:Int),(0:Int),(0:Int),(0:Int)))) a b):dR E a b m=dR E a b (m+1):=(if_neg h).symm
noncomputable def tmZ(E:List E5)(a b:Int):Int:=dR E a b E.length
def yAJ(E:List E5)(i:Nat):Prop:=tmZ E ((E.getD i ((0:Int),(0:Int),(0:Int),(0:Int),(0:Int)))).2.1 ((E.getD i ((0:Int),(0:Int),(0:Int),(0:Int),(0:Int)))).1<tmZ E ((E.getD i ((0:Int),(0:Int),(0:Int),(0:Int),(0:Int)))).1 ((E.getD i ((0:Int),(0:Int),(0:Int),(0:Int),(0:Int)))).2.1
noncomputable def zYU(E:List E5):Nat→List E5:=cA (yAJ E) fun i=>((30:Int),(-1:Int),((E.getD i ((0:Int),(0:Int),(0:Int),(0:Int),(0:Int)))).2.2.1,((E.getD i ((0:Int),(0:Int),(0:Int),(0:Int),(0:Int)))).2.2.2.1,((E.getD i ((0:Int),(0:Int),(0:Int),(0:Int),(0:Int)))).2.2.2.2)
noncomputable def clZ(F:List (List (List Int))):List E5:=if vaP F then zYU (edZ F) (edZ F).length else[((1:Int),(-1:Int),(-1:Int),(-1:Int),(-1:Int))]
theorem zIO(x:List Int)(f l m:Nat):(edX x f l m).length=m:=wR _ _
theorem zC7{L:List (List Int)}(h:∀l,l<L.length→((L.getD l [])).length≤64)(f:Nat):∀m,m≤L.length→(edL L f m).length≤64*m
  |0,_=>Nat.le_refl _
  |m+1,hm=>by
   have h1:=zC7 h f m (by omega)
   have h2:=h m (by omega)
   show List.length (edL L f m++edX (L.getD m []) f m (L.getD m []).length)≤_
   rw[lAz,zIO]
   omega
theorem j6{F:List (List (List Int))}(h:∀f,f<F.length→((F.getD f [])).length≤16∧∀l,l<((F.getD f [])).length→((((F.getD f [])).getD l [])).length≤64):∀m,m≤F.length→(edF F m).length≤1024*m
  |0,_=>Nat.le_refl _
  |m+1,hm=>by
   have h1:=j6 h m (by omega)
   have h2:=h m (by omega)
   have h3:=zC7 h2.2 m _ (Nat.le_refl _)
   show List.length (edF F m++edL (F.getD m []) m (F.getD m []).length)≤_
   rw[lAz]
   omega
end Bk
namespace Bk
set_option linter.unusedVariables false
set_option linter.unusedSimpArgs false
open Go Go.RowKit
def yA1(w0:World)(h0:Mem)(h:Mem)(L:List Res)(G:Mem→Value→Res→Res→Prop):Ending→World→Prop:=
  rT w0 h0 (fun g v K=>∃q' o,(o::q'::L).Sublist K∧MLe h g∧G g v q' o)
section
variable {P:Program}{n:Nat}{w0:World}{h0:Mem}{e:List (Nat×Value)}{L:List Res}{h:Mem}{Q:Exit→Act→World→Prop}
variable {ty:TypeId}{ps:String}{af:Array Edge}
end
end Bk
namespace Go.Proofs.YtboaboflnckgoaaGreat
open Bk Go Tryz
set_option linter.unusedVariables false
set_option linter.unusedSimpArgs false
set_option maxRecDepth 10000
set_option maxHeartbeats 1000000
attribute [local irreducible] GL GC GQ W OpV
theorem oL{w0:World}{h0:Mem}(hs:MLe h0 (mem w0)){vL:Value}{L:(List (List Int))}(rL:tII.Is h0 vL L):
    Calls Tryz.prog 186 #[vL] w0 (Ret w0 h0 (fun _ r=>r=vB (vfP L))):=by
 refine cb1 65 vL func186 hs ?_
 refine uO ?_
 refine gU 5 14 (vB (((↑(L).length:Int)<(1:Int))∨((16:Int)<(↑(L).length:Int)))) ?_ ?_
 ·
  refine zY ((↑(L).length:Int)<(1:Int)) (fun hg=>?_) (fun hg=>?_)
  ·
   refine gT hg rfl ?_
   refine go5 ?_
   refine gqU ?_
   exact congrArg some (wZ hg)
  refine gF hg rfl ?_
  refine go8 ?_
  refine gqU ?_
  exact congrArg some (vC hg)
 refine go2 ?_
 refine cnd (fun hc14=>?_) fun hc14=>?_
 ·
  refine go7 ?_
  refine zD rfl rfl ?_
  exact(yS (fun e=>by have:=e.1;omega)).symm
 refine go9 ?_
 refine gcL (ι:=Nat×Mem) (fun(l,ma)=>(MLe h0 ma∧(l≤L.length∧∀u,u<l→lpP (L.getD u [])),[(0,vL),(3,vI ↑l)],[],ma,L.length-l)) (0,h0) ?_ ?_
 ·
  refine⟨MLe.refl _,?_⟩
  exact⟨by omega,fun u h=>by omega⟩
 intro x hx
 obtain⟨l,ma⟩:=x
 dsimp only at hx
 obtain⟨hmma,hinv⟩:=hx
 refine yR ?_
 obtain⟨hl1,hl2⟩:=hinv
 refine go9 ?_
 refine cnd (fun hc18=>?_) fun hc18=>?_
 ·
  refine go8 ?_
  refine lX (xI [] l underlying81 fM rL) fun v23 r23=>(lX (xA fM r23) fun v24 r24=>?_)
  refine go9 ?_
  refine gU 5 32 (vB (((↑((L.getD l [])).length:Int)<(3:Int))∨((64:Int)<(↑((L.getD l [])).length:Int)))) ?_ ?_
  ·
   refine zY ((↑((L.getD l [])).length:Int)<(3:Int)) (fun hg=>?_) (fun hg=>?_)
   ·
    refine gT hg rfl ?_
    refine go5 ?_
    refine gqU ?_
    exact congrArg some (wZ hg)
   refine gF hg rfl ?_
   refine go8 ?_
   refine gqU ?_
   exact congrArg some (vC hg)
  refine go2 ?_
  refine cnd (fun hc32=>?_) fun hc32=>?_
  ·
   refine uT ?_
   refine zD rfl rfl ?_
   exact(yS (fun e=>by have:=(e.2 l oM).1;omega)).symm
  refine go8 ?_
  refine gcL (ι:=Nat×Mem) (fun(i,mb)=>(MLe ma mb∧(i≤(L.getD l []).length∧∀u,u<i→(0≤(L.getD l []).getD u 0∧(L.getD l []).getD u 0<512)∧∀k,k<u→¬(L.getD l []).getD u 0=(L.getD l []).getD k 0),[(0,vL),(3,vI ↑l),(4,v24),(5,vI ↑i)],[],mb,(L.getD l []).length-i)) (0,ma) ?_ ?_
  ·
   refine⟨MLe.refl _,?_⟩
   exact⟨by omega,fun u h=>by omega⟩
  intro x hx
  obtain⟨i,mb⟩:=x
  dsimp only at hx
  obtain⟨hmmb,hinv⟩:=hx
  refine yR ?_
  obtain⟨hi1,hi2⟩:=hinv
  refine go9 ?_
  refine cnd (fun hc36=>?_) fun hc36=>?_
  ·
   refine go9 ?_
   refine lX (xI (0:Int) i underlying32 ty3 r24) fun v41 r41=>(lX (xA ty3 r41) fun v42 r42=>?_)
   obtain⟨rfl,hl42,hu42⟩:=jZ r42
   refine go1 ?_
   refine gU 7 50 (vB ((((L.getD l []).getD i (0:Int))<(0:Int))∨((512:Int)≤((L.getD l []).getD i (0:Int))))) ?_ ?_
   ·
    refine zY (((L.getD l []).getD i (0:Int))<(0:Int)) (fun hg=>?_) (fun hg=>?_)
    ·
     refine gT hg rfl ?_
     refine go7 ?_
     refine gqU ?_
     exact congrArg some (wZ hg)
    refine gF hg rfl ?_
    refine go5 ?_
    refine lX (xI (0:Int) i underlying32 ty3 r24) fun v47 r47=>?_
    refine go1 ?_
    refine lX (xA ty3 r47) fun v48 r48=>?_
    obtain⟨rfl,hl48,hu48⟩:=jZ r48
    refine go4 ?_
    refine gqU ?_
    exact congrArg some (vC hg)
   refine go2 ?_
   refine cnd (fun hc50=>?_) fun hc50=>?_
   ·
    refine zAC ?_
    refine zD rfl rfl ?_
    exact(yS (fun e=>by have:=((e.2 l oM).2 i oM).1;omega)).symm
   refine go8 ?_
   refine gcL (ι:=Nat×Mem) (fun(k,mc)=>(MLe mb mc∧(k≤i∧∀v,v<k→¬(L.getD l []).getD i 0=(L.getD l []).getD v 0),[(0,vL),(3,vI ↑l),(4,v24),(5,vI ↑i),(6,vI ↑k)],[],mc,i-k)) (0,mb) ?_ ?_
   ·
    refine⟨MLe.refl _,?_⟩
    exact⟨by omega,fun u h=>by omega⟩
   intro x hx
   obtain⟨k,mc⟩:=x
   dsimp only at hx
   obtain⟨hmmc,hinv⟩:=hx
   refine yR ?_
   obtain⟨hk1,hk2⟩:=hinv
   refine go8 ?_
   refine cnd (fun hc53=>?_) fun hc53=>?_
   ·
    refine go5 ?_
    refine gD 9 (qq 0 9 []) (by kernel_rfl) ?_
    refine go2 ?_
    refine wX rfl (xI (0:Int) i underlying32 ty3 r24) fun v58 r58=>(wX rfl (xA ty3 r58) fun v59 r59=>?_)
    obtain⟨rfl,hl59,hu59⟩:=jZ r59
    refine go2 ?_
    refine wX rfl (xI (0:Int) k underlying32 ty3 r24) fun v62 r62=>(wX rfl (xA ty3 r62) fun v63 r63=>?_)
    obtain⟨rfl,hl63,hu63⟩:=jZ r63
    refine go3 ?_
    refine cnd (fun hc64=>?_) fun hc64=>?_
    ·
     refine yAI ?_
     refine zD rfl rfl ?_
     exact(yS (fun e=>((e.2 l oM).2 i oM).2 k oM hc64)).symm
    refine go8 ?_
    refine gqL ((k+1),mc) ?_ ?_
    ·
     refine⟨hmmc,?_⟩
     exact⟨by omega,qM (Q:=fun v=>¬(L.getD l []).getD i 0=(L.getD l []).getD v 0) hk2 hc64⟩
    omega
   refine uO ?_
   refine gqL ((i+1),mc) ?_ ?_
   ·
    refine⟨(hmmb.trans hmmc),?_⟩
    exact⟨by omega,qM (Q:=fun u=>(0≤(L.getD l []).getD u 0∧(L.getD l []).getD u 0<512)∧∀k,k<u→¬(L.getD l []).getD u 0=(L.getD l []).getD k 0) hi2 ⟨by omega,fun k hk=>hk2 k oM⟩⟩
   omega
  refine uO ?_
  refine gqL ((l+1),mb) ?_ ?_
  ·
   refine⟨(hmma.trans hmmb),?_⟩
   exact⟨by omega,qM (Q:=fun u=>lpP (L.getD u [])) hl2 ⟨by omega,fun u hu=>hi2 u oM⟩⟩
  omega
 refine uO ?_
 refine zD rfl rfl ?_
 exact(xL ⟨by omega,fun u hu=>hl2 u oM⟩).symm
theorem zJ8{w0:World}{h0:Mem}(hs:MLe h0 (mem w0)){vF:Value}{F:(List (List (List Int)))}(rF:(rpS tII).Is h0 vF F):
    Calls Tryz.prog 190 #[vF] w0 (Ret w0 h0 (fun _ r=>r=vB (vaP F))):=by
 refine cb1 19 vF func190 hs ?_
 refine sM ?_
 refine cnd (fun hc6=>?_) fun hc6=>?_
 ·
  refine go7 ?_
  refine zD rfl rfl ?_
  exact(yS (fun e=>by have:=e.1;omega)).symm
 refine go9 ?_
 refine gcL (ι:=Nat×Mem) (fun(f,ma)=>(MLe h0 ma∧(f≤F.length∧∀u,u<f→vfP (F.getD u [])),[(0,vF),(3,vI ↑f)],[],ma,F.length-f)) (0,h0) ?_ ?_
 ·
  refine⟨MLe.refl _,?_⟩
  exact⟨by omega,fun u h=>by omega⟩
 intro x hx
 obtain⟨f,ma⟩:=x
 dsimp only at hx
 obtain⟨hmma,hinv⟩:=hx
 refine yR ?_
 obtain⟨hf1,hf2⟩:=hinv
 refine go9 ?_
 refine cnd (fun hc10=>?_) fun hc10=>?_
 ·
  refine go8 ?_
  refine lX (xI [] f underlying175 cG rF) fun v15 r15=>(lX (xA cG r15) fun v16 r16=>(cL (ev1 rfl) call186 (fun w hs=>oL hs r16) fun v17 h1 hh1 r17=>?_))
  obtain rfl:v17=vB (vfP (F.getD f [])):=r17
  refine go3 ?_
  refine cnd (fun hc18=>?_) fun hc18=>?_
  ·
   refine uO ?_
   refine zD rfl rfl ?_
   exact(yS (fun e=>hc18 (e.2 f oM))).symm
  refine go8 ?_
  refine gqL ((f+1),h1) ?_ ?_
  ·
   refine⟨(hmma.trans hh1),?_⟩
   exact⟨by omega,qM (Q:=fun u=>vfP (F.getD u [])) hf2 (Classical.not_not.1 hc18)⟩
  omega
 refine uO ?_
 refine zD rfl rfl ?_
 exact(xL ⟨by omega,fun u hu=>hf2 u oM⟩).symm
theorem zCI{w0:World}{h0:Mem}(hs:MLe h0 (mem w0)){vF:Value}{F:(List (List (List Int)))}(rF:(rpS tII).Is h0 vF F)(hcd0:F.length≤1000)(hcd1:∀f,f<F.length→(F.getD f []).length≤16∧∀l,l<(F.getD f []).length→((F.getD f []).getD l []).length≤64):
    Calls Tryz.prog 174 #[vF] w0 (Ret w0 h0 (fun h r=>(rpS tE5).Is h r (edZ F))):=by
 refine cb1 56 vF func174 hs ?_
 refine dE ?_
 refine xO 193 5 ?_
 have rl_1:RL tE5 h0 [] ([]:List (Int×(Int×(Int×(Int×Int))))):=RL.nil
 refine gcL (ι:=Nat×List (Int×Int×Int×Int×Int)×Value×List Value×Mem) (fun(f,D0,s3_2,cs_3,ma)=>(MLe h0 ma∧(RL tE5 ma cs_3 D0∧f≤F.length∧D0=edF F f),[(0,vF),(3,s3_2),(4,vI ↑f)],[.gs 193 5 s3_2 D0.length cs_3],ma,F.length-f)) (0,[],(.slice none 0 0),[],h0) ?_ ?_
 ·
  refine⟨MLe.refl _,?_⟩
  refine⟨rl_1,?_⟩
  exact⟨by omega,rfl⟩
 intro x hx
 obtain⟨f,D0,s3_2,cs_3,ma⟩:=x
 dsimp only at hx
 obtain⟨hmma,hinv⟩:=hx
 refine yR ?_
 obtain⟨rl_4,hinv⟩:=hinv
 obtain⟨hf1,hD0⟩:=hinv
 refine go9 ?_
 refine cnd (fun hc11=>?_) fun hc11=>?_
 ·
  refine vX ?_
  refine gcL (ι:=Nat×List (Int×Int×Int×Int×Int)×Value×List Value×Mem) (fun(l,D1,s3_5,cs_6,mb)=>(MLe ma mb∧(RL tE5 mb cs_6 D1∧l≤(F.getD f []).length∧D1=edF F f++edL (F.getD f []) f l),[(0,vF),(3,s3_5),(4,vI ↑f),(5,vI ↑l)],[.gs 193 5 s3_5 D1.length cs_6],mb,(F.getD f []).length-l)) (0,D0,s3_2,cs_3,ma) ?_ ?_
  ·
   refine⟨MLe.refl _,?_⟩
   refine⟨rl_4,?_⟩
   exact⟨by omega,by rw[hD0];exact(List.append_nil _).symm⟩
  intro x hx
  obtain⟨l,D1,s3_5,cs_6,mb⟩:=x
  dsimp only at hx
  obtain⟨hmmb,hinv⟩:=hx
  refine yR ?_
  obtain⟨rl_7,hinv⟩:=hinv
  obtain⟨hl1,hD1⟩:=hinv
  refine go6 ?_
  refine lX (xI [] f underlying175 cG rF) fun v17 r17=>(lX (xA cG r17) fun v18 r18=>?_)
  refine go4 ?_
  refine cnd (fun hc20=>?_) fun hc20=>?_
  ·
   refine go8 ?_
   refine lX (xI [] f underlying175 cG rF) fun v25 r25=>(lX (xA cG r25) fun v26 r26=>?_)
   refine go1 ?_
   refine lX (xI [] l underlying81 fM r26) fun v28 r28=>(lX (xA fM r28) fun v29 r29=>?_)
   refine go9 ?_
   refine gcL (ι:=Nat×List (Int×Int×Int×Int×Int)×Value×List Value×Mem) (fun(i,D2,s3_8,cs_9,mc)=>(MLe mb mc∧(RL tE5 mc cs_9 D2∧i≤((F.getD f []).getD l []).length∧D2=edF F f++edL (F.getD f []) f l++edX ((F.getD f []).getD l []) f l i),[(0,vF),(3,s3_8),(4,vI ↑f),(5,vI ↑l),(6,v29),(7,vI ↑i)],[.gs 193 5 s3_8 D2.length cs_9],mc,((F.getD f []).getD l []).length-i)) (0,D1,s3_5,cs_6,mb) ?_ ?_
   ·
    refine⟨MLe.refl _,?_⟩
    refine⟨rl_7,?_⟩
    exact⟨by omega,by rw[hD1];exact(List.append_nil _).symm⟩
   intro x hx
   obtain⟨i,D2,s3_8,cs_9,mc⟩:=x
   dsimp only at hx
   obtain⟨hmmc,hinv⟩:=hx
   refine yR ?_
   obtain⟨rl_10,hinv⟩:=hinv
   obtain⟨hi1,hD2⟩:=hinv
   have hq1:=j6 hcd1 f oM
   have hq2:=(hcd1 f oM).1
   have hq3:=zC7 (hcd1 f oM).2 f l oM
   have hq4:=(hcd1 f oM).2 l oM
   have hq5:=zIO ((F.getD f []).getD l []) f l i
   have hq6:D2.length≤1100000:=by rw[hD2,lAz,lAz];omega
   replace r29:=r29.mono hmmc
   refine go9 ?_
   refine cnd (fun hc33=>?_) fun hc33=>?_
   ·
    refine go4 ?_
    refine jI (A:=[]) 20 [] [(0,.q),(1,.q),(2,.q),(3,.q),(4,.q),(5,.q),(6,.q),(7,.q),(8,.q),(9,.q),(10,.q),(11,.q),(12,.q),(13,.q),(14,.q),(15,.q),(16,.q),(17,.c),(18,.c),(19,.q)] kQ nX (uA [0,0,0,6,8,0,0,64,0,256,640,1056,2048,0,0,0,61456,65536,131073,524287] [1048575,1048575,1048575,1048569,1048567,1048575,1048575,1048511,1048575,1048319,1047935,1047519,1046527,1048575,1048575,1048575,987119,983039,917502,786430] (by kernel_rfl)) nX ?_
    refine go3 ?_
    refine wX rfl (xI (0:Int) i underlying32 ty3 r29) fun v39 r39=>(wX rfl (xA ty3 r39) fun v40 r40=>?_)
    obtain⟨rfl,hl40,hu40⟩:=jZ r40
    refine go4 ?_
    refine w_q rfl (fun h' L' hh hR=>uS underlying32 rfl (r29.mono hh)) rfl (wF rfl (fun _ _=>uH rfl rfl oM oM) rfl (wX rfl (xI (0:Int) ((i+1)%((F.getD f []).getD l []).length) underlying32 ty3 r29 (hi:=by exact Nat.mod_lt _ oM)) fun v47 r47=>(wX rfl (xA ty3 r47) fun v48 r48=>?_)))
    obtain⟨rfl,hl48,hu48⟩:=jZ r48
    refine go3 ?_
    refine wX rfl (xV (ρ:=tE5) (xR (ps':=[(0,_),(1,_),(2,_),(3,_),(4,_)]) underlying193 zBM rfl rfl (zNM underlying193) e10 rfl (yJ wK (yJ wK (yJ wK (yJ wK wK)))) (zJ rfl (Pc.fst (Pc.here _)) (jB oM oM) (zJ rfl (Pc.snd (Pc.fst (Pc.here _))) (jB oM oM) (zJ rfl (Pc.snd (Pc.snd (Pc.fst (Pc.here _)))) (jB oM oM) (zJ rfl (Pc.snd (Pc.snd (Pc.snd (Pc.fst (Pc.here _))))) (jB oM oM) (zJ rfl (Pc.snd (Pc.snd (Pc.snd (Pc.snd (Pc.here _))))) (jB oM oM) zX))))))) fun v52 r52=>?_
    refine w_c rfl (kD (fun X=>zU (ρ:=tE5) (m:=1) (xs:=[((((F.getD f []).getD l []).getD i (0:Int)),((((F.getD f []).getD l []).getD ((i+1)%((F.getD f []).getD l []).length) (0:Int)),((↑f:Int),((↑l:Int),(↑i:Int)))))]) (ps':=[(0,_)]) underlying190 zBM rfl rfl rfl (yJ wK (yJ wK (yJ wK (yJ wK wK)))) e2z (zJ rfl (Pc.arr (Pc.here _) e50 0 dC) r52 zX) (show 1*5≤16777216 from by decide) nP) rfl ?_)
    intro v53 q53 hq53
    obtain⟨cs53,rfl,rl53⟩:=hq53
    refine w_c rfl (vD (A:=[]) (ρ:=tE5) rl53 dK ?_)
    intro h1 hh1 rs_11
    replace rl_10:=rl_10.mono hh1
    refine sH (A:=[]) (fun X=>yD (ρ:=tE5) (bytes:=40) underlying190 zBM rfl rfl rfl rfl nP rfl rfl rl_10 rs_11 bO bO) rfl (vH (by first|(simp;done)|grind)) ?_
    intro v54 q54 hq54
    obtain⟨cs54,rfl,rl54⟩:=hq54
    refine go9 ?_
    refine gqL ((i+1),(D2++[((((F.getD f []).getD l []).getD i (0:Int)),((((F.getD f []).getD l []).getD ((i+1)%((F.getD f []).getD l []).length) (0:Int)),((↑f:Int),((↑l:Int),(↑i:Int)))))]),v54,cs54,h1) ?_ ?_
    ·
     refine⟨(hmmc.trans hh1),?_⟩
     refine⟨rl54,?_⟩
     exact⟨by omega,by rw[hD2,List.append_assoc];rfl⟩
    omega
   have ei:i=((F.getD f []).getD l []).length:=by omega
   refine uO ?_
   refine gqL ((l+1),D2,s3_8,cs_9,mc) ?_ ?_
   ·
    refine⟨(hmmb.trans hmmc),?_⟩
    refine⟨rl_10,?_⟩
    exact⟨by omega,by rw[hD2,ei,List.append_assoc];rfl⟩
   omega
  have el:l=(F.getD f []).length:=by omega
  refine uO ?_
  refine gqL ((f+1),D1,s3_5,cs_6,mb) ?_ ?_
  ·
   refine⟨(hmma.trans hmmb),?_⟩
   refine⟨rl_7,?_⟩
   exact⟨by omega,by rw[hD1,el];rfl⟩
  omega
 have ef:f=F.length:=by omega
 refine uT ?_
 refine wV (A:=[]) (ρ:=tE5) rl_4 ?_
 intro h1 hh1 rs_12
 refine zD rfl rfl ?_
 exact(Rp.Is.cast rs_12 (by rw[hD0,ef];rfl))
theorem zCH{w0:World}{h0:Mem}(hs:MLe h0 (mem w0)){vE:Value}{E:(List (Int×(Int×(Int×(Int×Int)))))}(rE:(rpS tE5).Is h0 vE E){a:Int}(ha1:-9223372036854775808≤a)(ha2:a<9223372036854775808){b:Int}(hb1:-9223372036854775808≤b)(hb2:b<9223372036854775808)(hcd0:E.length≤1000000):
    Calls Tryz.prog 191 #[vE,vI a,vI b] w0 (Ret w0 h0 (fun _ r=>r=vI (tmZ E a b))):=by
 refine cb3 34 vE (vI a) (vI b) func191 hs ?_
 refine dE ?_
 refine vG (ι:=Nat×Mem) (fun(m,ma)=>MLe h0 ma∧(m≤E.length)) (fun(m,ma)=>[(0,vE),(1,vI a),(2,vI b),(7,vI (dR E a b m)),(8,vI ↑m)]) (fun(m,ma)=>[]) (fun(m,ma)=>ma) (fun(m,ma)=>E.length-m) (0,h0) ?_ e5 rfl rfl ?_
 ·
  refine⟨MLe.refl _,?_⟩
  exact oM
 intro x hx
 obtain⟨m,ma⟩:=x
 obtain⟨hmma,hinv⟩:=hx
 refine yR ?_
 have hm1:=hinv
 have htr:=dQ E a b m
 refine go9 ?_
 refine cnd (fun hc12=>?_) fun hc12=>?_
 ·
  refine go8 ?_
  refine lX (xI e50 m underlying190 iB rE) fun v17 r17=>(lX (xF underlying193 sizeOf3 (Pc.fst pH) r17) fun v18 r18=>(lX (xA ty3 r18) fun v19 r19=>?_))
  obtain⟨rfl,hl19,hu19⟩:=jZ r19
  refine go2 ?_
  refine gU 9 30 (vB ((((E.getD m e50).1)=a)∧((((E.getD m e50).2).1)=b))) ?_ ?_
  ·
   refine zY (((E.getD m e50).1)=a) (fun hg=>?_) (fun hg=>?_)
   ·
    refine gT hg rfl ?_
    refine go5 ?_
    refine lX (xI e50 m underlying190 iB rE) fun v25 r25=>?_
    refine go1 ?_
    refine lX (xF underlying193 sizeOf3 (Pc.snd (Pc.fst pH)) r25) fun v26 r26=>?_
    refine go1 ?_
    refine lX (xA ty3 r26) fun v27 r27=>?_
    obtain⟨rfl,hl27,hu27⟩:=jZ r27
    refine go6 ?_
    refine gqU ?_
    exact congrArg some (xH hg)
   refine gF hg rfl ?_
   refine go9 ?_
   refine gqU ?_
   exact congrArg some (xJ hg)
  refine go2 ?_
  refine cnd (fun hc30=>?_) fun hc30=>?_
  ·
   refine uT ?_
   refine yO ((m+1),ma) ?_ ?_ ⟨rfl,rfl,rfl,?_,rfl,trivial⟩ rfl rfl
   ·
    refine⟨hmma,?_⟩
    exact oM
   ·
    dsimp only
    omega
   · exact congrArg (fun z=>some (vI z)) (tm_t hc30)
  refine go8 ?_
  refine yO ((m+1),ma) ?_ ?_ ⟨rfl,rfl,rfl,?_,rfl,trivial⟩ rfl rfl
  ·
   refine⟨hmma,?_⟩
   exact oM
  ·
   dsimp only
   omega
  · exact congrArg (fun z=>some (vI z)) (tm_f hc30)
 refine uT ?_
 refine zD rfl rfl ?_
 have em:m=E.length:=by omega
 subst em
 rfl
theorem zHQ{w0:World}{h0:Mem}(hs:MLe h0 (mem w0)){vF:Value}{F:(List (List (List Int)))}(rF:(rpS tII).Is h0 vF F):
    Calls Tryz.prog 158 #[vF] w0 (Ret w0 h0 (fun h r=>(rpS tE5).Is h r (clZ F))):=by
 refine cb1 64 vF func158 hs ?_
 refine go9 ?_
 refine cL (ev1 rfl) call190 (fun w hs=>zJ8 hs rF) fun v7 h1 hh1 r7=>?_
 obtain rfl:v7=vB (vaP F):=r7
 refine go3 ?_
 refine cnd (fun hc8=>?_) fun hc8=>?_
 ·
  refine go2 ?_
  refine lX (xV (ρ:=tE5) (xR (ps':=[(0,_),(1,_),(2,_),(3,_),(4,_)]) underlying200 qT rfl rfl (s0 underlying200) e10 rfl (yJ wK (yJ wK (yJ wK (yJ wK wK)))) (zJ rfl (Pc.fst (Pc.here _)) (jB dC dC) (zJ rfl (Pc.snd (Pc.fst (Pc.here _))) (jB dC dC) (zJ rfl (Pc.snd (Pc.snd (Pc.fst (Pc.here _)))) (jB dC dC) (zJ rfl (Pc.snd (Pc.snd (Pc.snd (Pc.fst (Pc.here _))))) (jB dC dC) (zJ rfl (Pc.snd (Pc.snd (Pc.snd (Pc.snd (Pc.here _))))) (jB dC dC) zX))))))) fun v9 r9=>(zG (zU (ρ:=tE5) (m:=1) (xs:=[((1:Int),((-1:Int),((-1:Int),((-1:Int),(-1:Int)))))]) (ps':=[(0,_)]) underlying137 qT rfl rfl rfl (yJ wK (yJ wK (yJ wK (yJ wK wK)))) e2z (zJ rfl (Pc.arr (Pc.here _) e50 0 dC) r9 zX) (show 1*5≤16777216 from by decide) nP) rfl rfl rfl ?_)
  intro v10 q10 hq10
  obtain⟨cs10,rfl,rl10⟩:=hq10
  refine go5 ?_
  refine wV (A:=[]) (ρ:=tE5) rl10 ?_
  intro h2 hh2 rs_13
  refine zD rfl rfl ?_
  exact(Rp.Is.cast rs_13 (by exact(if_neg hc8).symm))
 refine vX ?_
 have hva:vaP F:=Classical.not_not.1 hc8
 have hb1:∀f,f<F.length→(F.getD f []).length≤16∧∀l,l<(F.getD f []).length→((F.getD f []).getD l []).length≤64:=fun f hf=>⟨(hva.2 f hf).1.2,fun l hl=>((hva.2 f hf).2 l hl).1.2⟩
 have hb2:F.length≤256:=hva.1
 have hb3:=j6 hb1 F.length (Nat.le_refl _)
 have hb4:(edZ F).length≤262144:=by show(edF F F.length).length≤_;omega
 refine cL (ev1 rfl) call174 (fun w hs=>zCI hs rF.up (by first|omega|exact hb1) (by first|omega|exact hb1)) fun v12 h2 hh2 r12=>?_
 refine vX ?_
 refine xO 200 5 ?_
 have rl_14:RL tE5 h2 [] ([]:List (Int×(Int×(Int×(Int×Int))))):=RL.nil
 refine gcL (ι:=Nat×List (Int×Int×Int×Int×Int)×Value×List Value×Mem) (fun(i,D,s3_15,cs_16,ma)=>(MLe h2 ma∧(RL tE5 ma cs_16 D∧i≤(edZ F).length∧D=zYU (edZ F) i),[(3,s3_15),(4,v12),(5,vI ↑i)],[.gs 200 5 s3_15 D.length cs_16],ma,(edZ F).length-i)) (0,[],(.slice none 0 0),[],h2) ?_ ?_
 ·
  refine⟨MLe.refl _,?_⟩
  refine⟨rl_14,?_⟩
  exact⟨by omega,rfl⟩
 intro x hx
 obtain⟨i,D,s3_15,cs_16,ma⟩:=x
 dsimp only at hx
 obtain⟨hmma,hinv⟩:=hx
 refine yR ?_
 obtain⟨rl_17,hinv⟩:=hinv
 obtain⟨hi1,hD⟩:=hinv
 have hDl:D.length≤i:=by rw[hD];exact sO _ _ i
 refine go9 ?_
 refine cnd (fun hc16=>?_) fun hc16=>?_
 ·
  refine go5 ?_
  refine gD 25 (qq 0 11 (qq 12 11 [(11,.c),(23,.c),(24,.q)])) (uA [0,0,0,6,8,16,0,0,192,256,512,1057,0,0,0,24576,32768,65536,0,0,786432,1048576,2097152,4331520,8390656] (frz 33554431 [0,0,0,6,8,16,0,0,192,256,512,1057,0,0,0,24576,32768,65536,0,0,786432,1048576,2097152,4329472,8390656]) (by kernel_rfl)) ?_
  refine go3 ?_
  refine wX rfl (xI e50 i underlying190 iB r12) fun v22 r22=>(wX rfl (xF underlying193 sizeOf3 (Pc.fst pH) r22) fun v23 r23=>(wX rfl (xA ty3 r23) fun v24 r24=>?_))
  obtain⟨rfl,hl24,hu24⟩:=jZ r24
  refine go2 ?_
  refine wX rfl (xI e50 i underlying190 iB r12) fun v27 r27=>(wX rfl (xF underlying193 sizeOf3 (Pc.snd (Pc.fst pH)) r27) fun v28 r28=>(wX rfl (xA ty3 r28) fun v29 r29=>?_))
  obtain⟨rfl,hl29,hu29⟩:=jZ r29
  refine go3 ?_
  refine wX rfl (xI e50 i underlying190 iB r12) fun v34 r34=>(wX rfl (xF underlying193 sizeOf3 (Pc.snd (Pc.fst pH)) r34) fun v35 r35=>(wX rfl (xA ty3 r35) fun v36 r36=>?_))
  obtain⟨rfl,hl36,hu36⟩:=jZ r36
  refine go2 ?_
  refine wX rfl (xI e50 i underlying190 iB r12) fun v39 r39=>(wX rfl (xF underlying193 sizeOf3 (Pc.fst pH) r39) fun v40 r40=>(wX rfl (xA ty3 r40) fun v41 r41=>?_))
  obtain⟨rfl,hl41,hu41⟩:=jZ r41
  refine w_c rfl (sC (ev3 rfl rfl rfl) call191 (fun w hs=>zCH hs r12.up oM oM oM oM oM) fun v30 h3 hh3 r30=>?_)
  obtain rfl:v30=vI (tmZ (edZ F) (((edZ F).getD i e50).1) ((((edZ F).getD i e50).2).1)):=r30
  have htm30:=dQ (edZ F) (((edZ F).getD i e50).1) ((((edZ F).getD i e50).2).1) (edZ F).length
  refine w_c rfl (sC (ev3 rfl rfl rfl) call191 (fun w hs=>zCH hs r12.up oM oM oM oM oM) fun v42 h4 hh4 r42=>?_)
  obtain rfl:v42=vI (tmZ (edZ F) ((((edZ F).getD i e50).2).1) (((edZ F).getD i e50).1)):=r42
  have htm42:=dQ (edZ F) ((((edZ F).getD i e50).2).1) (((edZ F).getD i e50).1) (edZ F).length
  refine go3 ?_
  refine cnd (fun hc43=>?_) fun hc43=>?_
  ·
   refine jI (A:=[]) 20 [] [(0,.q),(1,.q),(2,.q),(3,.q),(4,.q),(5,.q),(6,.q),(7,.q),(8,.q),(9,.q),(10,.q),(11,.q),(12,.q),(13,.q),(14,.q),(15,.q),(16,.q),(17,.c),(18,.c),(19,.q)] kQ nX (uA [0,0,0,6,8,16,0,0,192,256,512,0,0,6144,8192,16384,33824,65536,131073,524287] [1048575,1048575,1048575,1048569,1048567,1048559,1048575,1048575,1048383,1048319,1048063,1048575,1048575,1042431,1040383,1032191,1014751,983039,917502,786430] (by kernel_rfl)) nX ?_
   refine go3 ?_
   refine wX rfl (xI e50 i underlying190 iB r12) fun v47 r47=>(wX rfl (xF underlying193 sizeOf3 (Pc.snd (Pc.snd (Pc.fst pH))) r47) fun v48 r48=>(wX rfl (xA ty3 r48) fun v49 r49=>?_))
   obtain⟨rfl,hl49,hu49⟩:=jZ r49
   refine go2 ?_
   refine wX rfl (xI e50 i underlying190 iB r12) fun v52 r52=>(wX rfl (xF underlying193 sizeOf3 (Pc.snd (Pc.snd (Pc.snd (Pc.fst pH)))) r52) fun v53 r53=>(wX rfl (xA ty3 r53) fun v54 r54=>?_))
   obtain⟨rfl,hl54,hu54⟩:=jZ r54
   refine go2 ?_
   refine wX rfl (xI e50 i underlying190 iB r12) fun v57 r57=>(wX rfl (xF underlying193 sizeOf3 (Pc.snd (Pc.snd (Pc.snd (Pc.snd pH)))) r57) fun v58 r58=>(wX rfl (xA ty3 r58) fun v59 r59=>?_))
   obtain⟨rfl,hl59,hu59⟩:=jZ r59
   refine wX rfl (xV (ρ:=tE5) (xR (ps':=[(0,_),(1,_),(2,_),(3,_),(4,_)]) underlying200 qT rfl rfl (s0 underlying200) e10 rfl (yJ wK (yJ wK (yJ wK (yJ wK wK)))) (zJ rfl (Pc.fst (Pc.here _)) (jB dC dC) (zJ rfl (Pc.snd (Pc.fst (Pc.here _))) (jB dC dC) (zJ rfl (Pc.snd (Pc.snd (Pc.fst (Pc.here _)))) (jB oM oM) (zJ rfl (Pc.snd (Pc.snd (Pc.snd (Pc.fst (Pc.here _))))) (jB oM oM) (zJ rfl (Pc.snd (Pc.snd (Pc.snd (Pc.snd (Pc.here _))))) (jB oM oM) zX))))))) fun v60 r60=>?_
   refine w_c rfl (kD (fun X=>zU (ρ:=tE5) (m:=1) (xs:=[((30:Int),((-1:Int),((((((edZ F).getD i e50).2).2).1),(((((((edZ F).getD i e50).2).2).2).1),((((((edZ F).getD i e50).2).2).2).2)))))]) (ps':=[(0,_)]) underlying137 qT rfl rfl rfl (yJ wK (yJ wK (yJ wK (yJ wK wK)))) e2z (zJ rfl (Pc.arr (Pc.here _) e50 0 dC) r60 zX) (show 1*5≤16777216 from by decide) nP) rfl ?_)
   intro v61 q61 hq61
   obtain⟨cs61,rfl,rl61⟩:=hq61
   refine w_c rfl (vD (A:=[]) (ρ:=tE5) rl61 dK ?_)
   intro h5 hh5 rs_18
   replace rl_17:=rl_17.mono ((hh3.trans hh4).trans hh5)
   refine sH (A:=[]) (fun X=>yD (ρ:=tE5) (bytes:=40) underlying137 qT rfl rfl rfl rfl nP rfl rfl rl_17 rs_18 bO bO) rfl (vH (by first|(simp;done)|grind)) ?_
   intro v62 q62 hq62
   obtain⟨cs62,rfl,rl62⟩:=hq62
   refine go9 ?_
   refine gqL ((i+1),(D++[((30:Int),((-1:Int),((((((edZ F).getD i e50).2).2).1),(((((((edZ F).getD i e50).2).2).2).1),((((((edZ F).getD i e50).2).2).2).2)))))]),v62,cs62,h5) ?_ ?_
   ·
    refine⟨(((hmma.trans hh3).trans hh4).trans hh5),?_⟩
    refine⟨rl62,?_⟩
    exact⟨by omega,by rw[hD];exact z6 hc43⟩
   omega
  refine go8 ?_
  refine gqL ((i+1),D,s3_15,cs_16,h4) ?_ ?_
  ·
   refine⟨((hmma.trans hh3).trans hh4),?_⟩
   replace rl_17:=rl_17.mono (hh3.trans hh4)
   refine⟨rl_17,?_⟩
   exact⟨by omega,by rw[hD];exact z7 hc43⟩
  omega
 refine uT ?_
 refine wV (A:=[]) (ρ:=tE5) rl_17 ?_
 intro h3 hh3 rs_19
 refine zD rfl rfl ?_
 exact(Rp.Is.cast rs_19 (by rw[hD,show i=(edZ F).length by omega];exact(if_pos hva).symm))
end Go.Proofs.YtboaboflnckgoaaGreat
namespace Bk
set_option linter.unusedVariables false
set_option linter.unusedSimpArgs false
open Classical
def lY(l:List Pt):Prop:=aO l 0 1→¬uZ l 0 1 l.length=0
theorem zOH{l:List Pt}(h:¬uZ l 0 1 l.length=0):lY l:=fun _=>h
abbrev PI:=Int×Int
def crI(u v w:PI):Int:=(v.1-u.1)*(w.2-u.2)-(v.2-u.2)*(w.1-u.1)
def sgI(n:Int):Int:=if 0<n then 1 else if n<0 then -1 else 0
def orI(u v w:PI):Int:=sgI (crI u v w)
def lxI(u v:PI):Bool:=decide (u.1<v.1∨(u.1=v.1∧u.2<v.2))
def apI(a b c d:Int):Bool:=decide ((a<c∧a<d∧b<c∧b<d)∨(c<a∧d<a∧c<b∧d<b))
def alS(a b c d:PI):Int:=
  if lxI (if lxI d b then d else b) (if lxI a c then c else a) then 0 else if lxI (if lxI a c then c else a) (if lxI d b then d else b) then 3
  else if((if lxI a c then c else a)=a∨(if lxI a c then c else a)=b)∧((if lxI a c then c else a)=c∨(if lxI a c then c else a)=d) then 1 else 2
def alI(a b c d:PI):Int:=alS (if lxI b a then b else a) (if lxI b a then a else b) (if lxI d c then d else c) (if lxI d c then c else d)
def toI(a b c d:PI):Int:=
  if apI a.1 b.1 c.1 d.1∨apI a.2 b.2 c.2 d.2 then 0
  else if orI a b c=0∧orI a b d=0∧orI c d a=0∧orI c d b=0 then alI a b c d
  else if 0<orI a b c*orI a b d∨0<orI c d a*orI c d b then 0
  else if(orI a b c=0∨orI a b d=0)∧(orI c d a=0∨orI c d b=0) then 1 else 2
def af(x y r:Int)(u:PI):P2:=(((x+r*u.1:Int):Rat),((y+r*u.2:Int):Rat))
def rg(k:Nat):PI:=([(2,0),(2,1),(1,2),(-1,2),(-2,0),(-2,-1),(0,-2),(1,-1)]:List PI).getD k (0,0)
def gi(s:List Nat)(m:Nat):PI:=rg (s.getD m 0)
def arI(s:List Nat):Nat→Int
  |0=>0
  |m+1=>arI s m+((gi s m).1*(gi s ((m+1)%s.length)).2-(gi s ((m+1)%s.length)).1*(gi s m).2)
def waI(n p q:Nat):Int:=if q=p+1∨(p=0∧q+1=n) then 1 else 0
def badI(s:List Nat):Bool:=(List.range s.length).any fun q=>(List.range q).any fun p=>!decide (toI (gi s p) (gi s ((p+1)%s.length)) (gi s q) (gi s ((q+1)%s.length))=waI s.length p q)
def okI(s:List Nat):Bool:=decide (s.length<3)||!decide (arI s s.length=0)||badI s
def swI:List Nat→List Nat
  |a::b::l=>b::a::l
  |l=>l
def zZK:List Nat→List (List Nat)
  |[]=>[[]]
  |a::l=>zZK l++(zZK l).map (a::·)
def rp3(x y r:Int)(k:Nat):Pt:=T3.mk (((x+r*(rg k).1:Int)):Rat) (((y+r*(rg k).2:Int)):Rat) (0:Rat)
noncomputable def rgK(t:Prop)(i:Nat):Nat:=if t then 7-i else i
def rgF(x y r:Int)(t:Prop)(i:Nat)(l:List Pt):Prop:=∃s:List Nat,s.Sublist ((List.range i).map (rgK t))∧l=s.map (rp3 x y r)
def rvP(l0 l:List Pt)(i:Nat):Prop:=l.length=l0.length∧∀q,q<l0.length→gp l q=if q<i∨l0.length≤q+i then gp l0 (l0.length-1-q) else gp l0 q
end Bk
namespace Bk
set_option linter.unusedVariables false
set_option linter.unusedSimpArgs false
open Classical
theorem zR5{a b:List Pt}{p q:Nat}:2≤nH (gM a 0 1 p) (gL a 0 1 p) (gM b 0 1 q) (gL b 0 1 q)↔k7 a b 0 1 p q:=by
  unfold k7
  rw[zGS]
  omega
theorem zOP{a b:List Pt}{p q:Nat}(h:k7 a b 0 1 p q):k7 b a 0 1 q p:=by
  unfold k7 at *
  rw[zBW]
  exact h
theorem mG{a b:List Pt}(h:fG a b 0 1):fG b a 0 1:=by
  obtain⟨p,q,hp,hq,h⟩:=h
  exact⟨q,p,hq,hp,zOP h⟩
theorem zVN(a b:Pt):pr (T3.mk (zA6 a.x b.x) (zA6 a.y b.y) (0:Rat)) 0 1=zUH (pr a 0 1) (pr b 0 1):=rfl
theorem zRV{l:List Pt}(hf:lY l)(hs:aO l 0 1):¬yX (arZ l 0 1)=0:=fun e=>hf hs (uU.1 e)
theorem zU1{L:List (List Pt)}(h:∀x,x∈L→lY x)(m:Nat):lY (gl L m):=by
  show lY (L.getD m [])
  rw[List.getD_eq_getElem?_getD]
  rcases Nat.lt_or_ge m L.length with h1|h1
  · rw[List.getElem?_eq_getElem h1]
    exact h _ (List.getElem_mem h1)
  · rw[List.getElem?_eq_none h1]
    exact fun e=>absurd e.1 (by decide)
theorem zXK{L:List (List Pt)}{m:Nat}(h:yX (uZ (gl L m) 0 1 (gl L m).length)<0):sQ L 0 1 m L.length=pZ L 0 1 m:=by
  have h1:yX (arZ (gl L m) 0 1)<0:=h
  unfold pZ
  rw[if_neg (by omega)]
theorem zQF{L:List (List Pt)}{m:Nat}(hf:∀x,x∈L→lY x)(hs:aO (gl L m) 0 1)(h:¬yX (uZ (gl L m) 0 1 (gl L m).length)<0):0<yX (arZ (gl L m) 0 1):=by
  have h1:¬yX (arZ (gl L m) 0 1)<0:=h
  have h2:=zRV (zU1 hf m) hs
  omega
theorem zXJ{L:List (List Pt)}{m:Nat}(hf:∀x,x∈L→lY x)(hs:aO (gl L m) 0 1)(h:¬yX (uZ (gl L m) 0 1 (gl L m).length)<0):-1=pZ L 0 1 m:=by
  unfold pZ
  rw[if_pos (zQF hf hs h)]
theorem zEZ{O:List Int}{m:Nat}{f:Nat→Int}{p:Int}(hl:O.length=m)(h:∀q,q<m→O.getD q 0=f q)(hp:p=f m):(O++[p]).length=m+1∧∀q,q<m+1→(O++[p]).getD q 0=f q:=by
  refine⟨by rw[lAz,hl];rfl,fun q hq=>?_⟩
  rw[List.getD_eq_getElem?_getD]
  by_cases e:q=m
  · subst e
    rw[List.getElem?_append_right (by omega),hl,Nat.sub_self]
    exact hp
  · rw[List.getElem?_append_left (by omega),←List.getD_eq_getElem?_getD]
    exact h q (by omega)
theorem zXP{L:List (List Pt)}{a:Nat}(h:0<yX (arZ (gl L a) 0 1)):¬mQ L 0 1 a∧∀b,b<L.length→¬t0 L 0 1 a b:=by
  refine⟨fun e=>e.1 h,fun b _ e=>?_⟩
  have h1:=e.1.1.2
  have h2:pZ L 0 1 a= -1:=by unfold pZ;rw[if_pos h]
  omega
theorem zYJ{L:List (List Pt)}{m:Nat}(hf:∀x,x∈L→lY x)(hs:aO (gl L m) 0 1)(h:0≤yX (uZ (gl L m) 0 1 (gl L m).length)):0<yX (arZ (gl L m) 0 1):=zQF hf hs (by omega)
theorem zME{L:List (List Pt)}{a:Nat}{o:Int}(h:¬0≤yX (uZ (gl L a) 0 1 (gl L a).length))(ho:o=pZ L 0 1 a)(h1:o<0):mQ L 0 1 a:=by
  have h2:yX (arZ (gl L a) 0 1)<0:=Int.not_le.1 h
  refine⟨by omega,?_⟩
  rw[ho] at h1
  unfold pZ at h1
  rw[if_neg (by omega)] at h1
  exact h1
theorem u5{L:List (List Pt)}{a:Nat}{o:Int}(ho:o=pZ L 0 1 a)(h1:¬o<0):¬mQ L 0 1 a:=fun e=>by
  rw[ho] at h1
  unfold pZ at h1
  rw[if_neg e.1] at h1
  exact h1 e.2
end Bk
namespace Bk
set_option linter.unusedVariables false
set_option linter.unusedSimpArgs false
open Classical
abbrev Fc:=(Pt×Rat)×List (List Int)×List Nat
abbrev En:=Int×Int×Rat
abbrev Sd:=List Pt×List Fc×List En
abbrev zXI:Pt×Rat:=(zT,(0:Rat))
abbrev zA:Fc:=(zXI,([]:List (List Int)),([]:List Nat))
def nmL(n:Nat)(x:List Int):Prop:=∀k,k<x.length→0≤(x.getD k 0)∧(x.getD k 0)<n
def nmP(s:Sd)(f:Nat):Prop:=∀l,l<((s.2.1.getD f zA).2.1).length→nmL s.1.length ((((s.2.1.getD f zA).2.1).getD l []))
def vQ(s:Sd):List (List (List Int)):=jW (fun f=>(s.2.1.getD f zA).2.1) s.2.1.length
theorem lQ(s:Sd):(vQ s).length=s.2.1.length:=wR _ _
theorem zAA{s:Sd}{f:Nat}(h:f<s.2.1.length):((vQ s).getD f [])=(s.2.1.getD f zA).2.1:=pK _ _ h
def zT0(ps:List Pt)(x:List Int):Nat→List Pt:=jW fun k=>gp ps ((x.getD k 0)).toNat
def zIR(s:Sd)(f:Nat):Nat→List (List Pt):=jW fun l=>zT0 s.1 ((((s.2.1.getD f zA).2.1).getD l [])) ((((s.2.1.getD f zA).2.1).getD l [])).length
noncomputable def fO(s:Sd)(f:Int):List (List Pt):=if(0≤f∧f<s.2.1.length)∧nmP s f.toNat then zIR s f.toNat ((s.2.1.getD f.toNat zA).2.1).length else[]
theorem zU6{s:Sd}{f:Int}(h:∀f,f<s.2.1.length→(s.2.1.getD f zA).2.1.length≤10000∧∀l,l<(s.2.1.getD f zA).2.1.length→((s.2.1.getD f zA).2.1.getD l []).length≤10000):(fO s f).length≤10000∧∀l,((fO s f).getD l []).length≤10000:=by
  unfold fO
  split
  · rename_i hf
    have h1:=h f.toNat (by omega)
    have h2:(zIR s f.toNat (s.2.1.getD f.toNat zA).2.1.length).length=(s.2.1.getD f.toNat zA).2.1.length:=wR _ _
    refine⟨by omega,fun l=>?_⟩
    rcases Nat.lt_or_ge l (s.2.1.getD f.toNat zA).2.1.length with h3|h3
    · unfold zIR
      rw[pK _ _ h3]
      unfold zT0
      rw[wR]
      exact h1.2 l h3
    · rw[List.getD_eq_getElem?_getD,List.getElem?_eq_none (by omega)];exact Nat.zero_le _
  · exact⟨Nat.zero_le _,fun l=>Nat.zero_le _⟩
noncomputable def flA(pl:Pl)(l:List Pt):Nat→List Pt:=jW fun i=>cE pl (gp l i)
noncomputable def flL(pl:Pl)(L:List (List Pt)):Nat→List (List Pt):=jW fun i=>flA pl (gl L i) (gl L i).length
noncomputable def rA(s:Sd)(f:Nat):List (List Pt):=flL ((s.2.1.getD f zA)).1 (fO s f) (fO s f).length
def dg(kind face loop edge:Int):E5:=(kind,(-1:Int),face,loop,edge)
def szP(s:Sd)(f:Nat):Prop:=¬vfP ((s.2.1.getD f zA).2.1)∨¬nmP s f
def zOU(s:Sd):Prop:=(512<s.1.length∨256<s.2.1.length)∨1024<s.2.2.length
noncomputable def zWN(s:Sd):Nat→List E5:=cA (szP s) fun f=>dg 1 f (-1) (-1)
noncomputable def szZ(s:Sd):List E5:=if zOU s then zWN s s.2.1.length++[dg 2 (-1) (-1) (-1)] else zWN s s.2.1.length
def twP(s:Sd)(i:Nat):Prop:=∃k,k<i∧gp s.1 i=gp s.1 k
noncomputable def zM1(s:Sd):Nat→List E5:=cA (twP s) fun i=>dg 37 (-1) (-1) i
def zrP(s:Sd)(f:Nat):Prop:=((s.2.1.getD f zA)).1.1=zT
noncomputable def zOX(s:Sd):Nat→List E5:=cA (zrP s) fun f=>dg 9 f (-1) (-1)
def ofP(s:Sd)(f l k:Nat):Prop:=¬sdZ ((s.2.1.getD f zA)).1 (gp (gl (fO s f) l) k)=0
noncomputable def ofX(s:Sd)(f l:Nat):Nat→List E5:=cA (ofP s f l) fun k=>dg 31 f l k
noncomputable def ofL(s:Sd)(f:Nat):Nat→List E5:=pW fun l=>ofX s f l (gl (fO s f) l).length
noncomputable def zJ4(s:Sd):Nat→List E5:=pW fun f=>ofL s f (fO s f).length
theorem lZ{s:Sd}{f:Int}(h:∀f,f<s.2.1.length→(s.2.1.getD f zA).2.1.length≤16∧∀l,l<(s.2.1.getD f zA).2.1.length→((s.2.1.getD f zA).2.1.getD l []).length≤64):(fO s f).length≤16∧∀l,((fO s f).getD l []).length≤64:=by
  unfold fO
  split
  · rename_i hf
    have h1:=h f.toNat (by omega)
    have h2:(zIR s f.toNat (s.2.1.getD f.toNat zA).2.1.length).length=(s.2.1.getD f.toNat zA).2.1.length:=wR _ _
    refine⟨by omega,fun l=>?_⟩
    rcases Nat.lt_or_ge l (s.2.1.getD f.toNat zA).2.1.length with h3|h3
    · unfold zIR
      rw[pK _ _ h3]
      unfold zT0
      rw[wR]
      exact h1.2 l h3
    · rw[List.getD_eq_getElem?_getD,List.getElem?_eq_none (by omega)];exact Nat.zero_le _
  · exact⟨Nat.zero_le _,fun l=>Nat.zero_le _⟩
section
variable {s:Sd}(h:∀f,f<s.2.1.length→(s.2.1.getD f zA).2.1.length≤16∧∀l,l<(s.2.1.getD f zA).2.1.length→((s.2.1.getD f zA).2.1.getD l []).length≤64)
include h
theorem zCF(f:Nat):∀l,(ofL s f l).length≤64*l
  |0=>Nat.le_refl _
  |l+1=>by
   have h1:=zCF f l
   have h2:(ofX s f l ((fO s f).getD l []).length).length≤((fO s f).getD l []).length:=sO _ _ _
   have h3:=(lZ (f:=↑f) h).2 l
   show List.length (ofL s f l++ofX s f l ((fO s f).getD l []).length)≤_
   rw[lAz]
   omega
theorem zQU:∀f,f≤s.2.1.length→(zJ4 s f).length≤1024*f
  |0,_=>Nat.le_refl _
  |f+1,hf=>by
   have h1:=zQU f (by omega)
   have h2:=zCF h f (fO s f).length
   have h3:=(lZ (f:=↑f) h).1
   show List.length (zJ4 s f++ofL s f (fO s f).length)≤_
   rw[lAz]
   omega
end
noncomputable def plZ(s:Sd):List E5:=if 0<(zOX s s.2.1.length).length then zOX s s.2.1.length else zJ4 s s.2.1.length
noncomputable def zA4(L:List (List Pt)):Nat→Int
  |0=>0
  |m+1=>if 0<yX (arZ (gl L m) 0 1) then zA4 L m+1 else zA4 L m
theorem x0(L:List (List Pt)):∀m,0≤zA4 L m∧zA4 L m≤m
  |0=>by unfold zA4;omega
  |m+1=>by
   have h:=x0 L m
   unfold zA4
   split<;>omega
theorem ou_t{L:List (List Pt)}{m:Nat}(h:0<yX (arZ (gl L m) 0 1)):zA4 L m+1=zA4 L (m+1):=(if_pos h).symm
theorem ou_f{L:List (List Pt)}{m:Nat}(h:¬0<yX (arZ (gl L m) 0 1)):zA4 L m=zA4 L (m+1):=(if_neg h).symm
noncomputable def ouZ(L:List (List Pt)):Int:=zA4 L L.length
def bnP(s:Sd)(f:Nat):Prop:=¬vT (rA s f) 0 1=0
noncomputable def zSI(s:Sd):Nat→List E5:=cA (bnP s) fun f=>dg (vT (rA s f) 0 1) f (-1) (-1)
def mnP(s:Sd)(f:Nat):Prop:=¬ouZ (rA s f)=1
noncomputable def zXS(s:Sd):Nat→List E5:=cA (mnP s) fun f=>dg 33 f (-1) (-1)
noncomputable def neZ(s:Sd):List E5:=if 0<(zSI s s.2.1.length).length then zSI s s.2.1.length else zXS s s.2.1.length
theorem zH3(L:List (List Pt))(i j:Nat):0≤vT L i j∧vT L i j≤33:=by
  unfold vT
  repeat' split
  all_goals decide
theorem zGG(s:Sd)(f:Nat):(rA s f).length=(fO s ↑f).length∧∀l,((rA s f).getD l []).length=((fO s ↑f).getD l []).length:=by
  have h1:(rA s f).length=(fO s ↑f).length:=wR _ _
  refine⟨h1,fun l=>?_⟩
  rcases Nat.lt_or_ge l (fO s ↑f).length with h|h
  · unfold rA flL
    rw[pK _ _ h]
    exact wR _ _
  · rw[List.getD_eq_getElem?_getD,List.getD_eq_getElem?_getD,List.getElem?_eq_none (by omega),List.getElem?_eq_none h]
def okS(s:Sd):Prop:=((s.1.length≤1000∧s.2.1.length≤1000)∧s.2.2.length≤2000)∧(∀f,f<s.2.1.length→(s.2.1.getD f zA).2.1.length≤16∧∀l,l<(s.2.1.getD f zA).2.1.length→((s.2.1.getD f zA).2.1.getD l []).length≤64)∧∀f,f<s.2.1.length→∀x,x∈rA s f→lY x
theorem okS.big{s:Sd}(h:okS s):∀f,f<s.2.1.length→(s.2.1.getD f zA).2.1.length≤10000∧∀l,l<(s.2.1.getD f zA).2.1.length→((s.2.1.getD f zA).2.1.getD l []).length≤10000:=fun f hf=>⟨Nat.le_trans (h.2.1 f hf).1 (by decide),fun l hl=>Nat.le_trans ((h.2.1 f hf).2 l hl) (by decide)⟩
theorem okS.mem{s:Sd}(h:okS s):∀f,f<s.2.1.length→(s.2.1.getD f zA).2.1.length≤100000∧∀x,x∈(s.2.1.getD f zA).2.1→x.length≤100000:=fun f hf=>⟨Nat.le_trans (h.2.1 f hf).1 (by decide),fun x hx=>by
  obtain⟨m,hm,e⟩:=List.getElem_of_mem hx
  have:=(h.2.1 f hf).2 m hm
  rw[List.getD_eq_getElem?_getD,List.getElem?_eq_getElem hm] at this
  rw[←e]
  exact Nat.le_trans this (by decide)⟩
noncomputable def zU7(s:Sd):List E5:=if 0<(szZ s).length then szZ s else if 0<(zM1 s s.1.length).length then zM1 s s.1.length else if 0<(plZ s).length then plZ s else if 0<(neZ s).length then neZ s else clZ (vQ s)
def dU(s:Sd):Prop:=(zU7 s).length=0
def lsP(p q:Pt):Prop:=p.x<q.x∨(p.x=q.x∧(p.y<q.y∨(p.y=q.y∧p.z<q.z)))
def pR:List Int→List Int→Int
  |[],[]=>0
  |[],_::_=>-1
  |_::_,[]=>1
  |x::a,y::b=>if x=y then pR a b else if x<y then -1 else 1
theorem zMS{i:Nat}:∀{a b:List Int},(∀u,u<i→(a.getD u 0)=(b.getD u 0))→i<a.length→i<b.length→¬(a.getD i 0)=(b.getD i 0)→pR a b=if(a.getD i 0)<(b.getD i 0) then -1 else 1:=by
  induction i with
  |zero=>
   intro a b _ ha hb hne
   match a,b,ha,hb with
   |x::a,y::b,_,_=>exact if_neg hne
  |succ i ih=>
   intro a b h ha hb hne
   match a,b,ha,hb with
   |x::a,y::b,ha,hb=>
    have h0:x=y:=h 0 (by omega)
    show(if x=y then pR a b else _)=_
    rw[if_pos h0]
    exact ih (fun u hu=>h (u+1) (by omega)) (by simpa using ha) (by simpa using hb) hne
theorem zC9{i:Nat}:∀{a b:List Int},(∀u,u<i→(a.getD u 0)=(b.getD u 0))→i=min a.length b.length→pR a b=if a.length<b.length then -1 else if b.length<a.length then 1 else 0:=by
  induction i with
  |zero=>
   intro a b _ he
   match a,b with
   |[],[]=>rfl
   |[],_::_=>rfl
   |_::_,[]=>rfl
   |_::_,_::_=>simp at he
  |succ i ih=>
   intro a b h he
   match a,b with
   |[],_=>simp at he
   |_::_,[]=>simp at he
   |x::a,y::b=>
    have h0:x=y:=h 0 (by omega)
    show(if x=y then pR a b else _)=_
    rw[if_pos h0,ih (fun u hu=>h (u+1) (by omega)) (by simp at he;omega)]
    simp only[lC,Nat.add_lt_add_iff_right]
theorem dG:∀a b:List Int,-1≤pR a b∧pR a b≤1
  |[],[]=>⟨by show(-1:Int)≤0;decide,by show(0:Int)≤1;decide⟩
  |[],_::_=>⟨by show(-1:Int)≤-1;decide,by show(-1:Int)≤1;decide⟩
  |_::_,[]=>⟨by show(-1:Int)≤1;decide,by show(1:Int)≤1;decide⟩
  |x::a,y::b=>by
   show -1≤(if x=y then pR a b else if x<y then -1 else 1)∧(if x=y then pR a b else if x<y then -1 else 1)≤1
   split
   · exact dG a b
   · split<;>decide
def rG(x:List Int):Nat→Nat
  |0=>0
  |m+1=>if(x.getD m 0)<(x.getD (rG x m) 0) then m else rG x m
theorem zVM(x:List Int):∀m,rG x m<m∨rG x m=0
  |0=>.inr rfl
  |m+1=>by
   have h:=zVM x m
   unfold rG
   split<;>omega
theorem mn_t{x:List Int}{m:Nat}(h:(x.getD m 0)<(x.getD (rG x m) 0)):m=rG x (m+1):=(if_pos h).symm
theorem mn_f{x:List Int}{m:Nat}(h:¬(x.getD m 0)<(x.getD (rG x m) 0)):rG x m=rG x (m+1):=(if_neg h).symm
def zP2(x:List Int):List Int:=x.drop (rG x x.length)++x.take (rG x x.length)
def zOB:List (List Int)→List (List Int)→Prop
  |[],[]=>False
  |[],_::_=>True
  |_::_,[]=>False
  |x::a,y::b=>if pR x y=0 then zOB a b else pR x y<0
theorem zUJ{i:Nat}:∀{a b:List (List Int)},(∀u,u<i→pR ((a.getD u [])) ((b.getD u []))=0)→i<a.length→i<b.length→¬pR ((a.getD i [])) ((b.getD i []))=0→(zOB a b↔pR ((a.getD i [])) ((b.getD i []))<0):=by
  induction i with
  |zero=>
   intro a b _ ha hb hne
   match a,b,ha,hb with
   |x::a,y::b,_,_=>exact Iff.of_eq (if_neg hne)
  |succ i ih=>
   intro a b h ha hb hne
   match a,b,ha,hb with
   |x::a,y::b,ha,hb=>
    have h0:pR x y=0:=h 0 (by omega)
    show(if pR x y=0 then zOB a b else _)↔_
    rw[if_pos h0]
    exact ih (fun u hu=>h (u+1) (by omega)) (by simpa using ha) (by simpa using hb) hne
theorem zRC{i:Nat}:∀{a b:List (List Int)},(∀u,u<i→pR ((a.getD u [])) ((b.getD u []))=0)→i=min a.length b.length→(zOB a b↔a.length<b.length):=by
  induction i with
  |zero=>
   intro a b _ he
   match a,b with
   |[],[]=>exact⟨False.elim,fun h=>absurd h (Nat.lt_irrefl _)⟩
   |[],_::_=>exact⟨fun _=>Nat.zero_lt_succ _,fun _=>trivial⟩
   |_::_,[]=>exact⟨False.elim,fun h=>absurd h (Nat.not_lt_zero _)⟩
   |_::_,_::_=>simp at he
  |succ i ih=>
   intro a b h he
   match a,b with
   |[],_=>simp at he
   |_::_,[]=>simp at he
   |x::a,y::b=>
    have h0:pR x y=0:=h 0 (by omega)
    show(if pR x y=0 then zOB a b else _)↔_
    rw[if_pos h0,ih (fun u hu=>h (u+1) (by omega)) (by simp at he;omega)]
    simp only[lC,Nat.add_lt_add_iff_right]
def lsF(a b:Fc):Prop:=if a.2.2=b.2.2 then zOB a.2.1 b.2.1 else lsN a.2.2 b.2.2
theorem ls_x{p q:Pt}(h:¬wB p.x q.x=0):wB p.x q.x<0↔lsP p q:=by
  unfold lsP;rw[pQ];rw[cX] at h
  exact⟨.inl,fun e=>e.elim id fun e=>absurd e.1 h⟩
theorem ls_y{p q:Pt}(h:wB p.x q.x=0)(h2:¬wB p.y q.y=0):wB p.y q.y<0↔lsP p q:=by
  unfold lsP;rw[pQ];rw[cX] at h h2
  have:=@Rat.lt_irrefl p.x
  exact⟨fun e=>.inr ⟨h,.inl e⟩,fun e=>e.elim (fun e=>absurd (h▸e) this) fun e=>e.2.elim id fun e=>absurd e.1 h2⟩
theorem ls_z{p q:Pt}(h:wB p.x q.x=0)(h2:wB p.y q.y=0)(h3:¬wB p.z q.z=0):wB p.z q.z<0↔lsP p q:=by
  unfold lsP;rw[pQ];rw[cX] at h h2
  have h4:=@Rat.lt_irrefl p.x
  have h5:=@Rat.lt_irrefl p.y
  exact⟨fun e=>.inr ⟨h,.inr ⟨h2,e⟩⟩,fun e=>e.elim (fun e=>absurd (h▸e) h4) fun e=>e.2.elim (fun e=>absurd (h2▸e) h5) fun e=>e.2⟩
theorem yAA{p q:Pt}(h:wB p.x q.x=0)(h2:wB p.y q.y=0)(h3:wB p.z q.z=0):¬lsP p q:=by
  rw[cX] at h h2 h3
  have h4:=@Rat.lt_irrefl p.x
  have h5:=@Rat.lt_irrefl p.y
  have h6:=@Rat.lt_irrefl p.z
  exact fun e=>e.elim (fun e=>absurd (h▸e) h4) fun e=>e.2.elim (fun e=>absurd (h2▸e) h5) fun e=>absurd (h3▸e.2) h6
theorem yAB{p q:Pt}{i:Nat}(hi:i<3)(h:∀u,u<i→wB (p.at u) (q.at u)=0)(hn:¬wB (p.at i) (q.at i)=0):wB (p.at i) (q.at i)<0↔lsP p q:=by
  match i,hi with
  |0,_=>exact ls_x hn
  |1,_=>exact ls_y (h 0 (by decide)) hn
  |2,_=>exact ls_z (h 0 (by decide)) (h 1 (by decide)) hn
theorem zXY{p q:Pt}(h:∀u,u<3→wB (p.at u) (q.at u)=0):¬lsP p q:=yAA (h 0 (by decide)) (h 1 (by decide)) (h 2 (by decide))
noncomputable def ivA(x:Rat):Rat:=if dH x=0 then 0 else((1:Int):Rat)/dH x
noncomputable def scW(r:Rat)(pl:Pl):Pl:=(T3.mk (r*pl.1.x) (r*pl.1.y) (r*pl.1.z),r*pl.2)
noncomputable def scZ(pl:Pl):Pl:=if ¬yX pl.1.x=0 then scW (ivA pl.1.x) pl else if ¬yX pl.1.y=0 then scW (ivA pl.1.y) pl else if ¬yX pl.1.z=0 then scW (ivA pl.1.z) pl else zXI
theorem zZT{pl:Pl}{i:Nat}(hi:i<3)(h:∀u,u<i→yX (pl.1.at u)=0)(hn:¬yX (pl.1.at i)=0):scW (ivA (pl.1.at i)) pl=scZ pl:=by
  unfold scZ
  match i,hi with
  |0,_=>exact(if_pos hn).symm
  |1,_=>exact((if_neg (fun e=>e (h 0 (by decide)))).trans (if_pos hn)).symm
  |2,_=>exact((if_neg (fun e=>e (h 0 (by decide)))).trans ((if_neg (fun e=>e (h 1 (by decide)))).trans (if_pos hn))).symm
theorem zW4{pl:Pl}(h:∀u,u<3→yX (pl.1.at u)=0):zXI=scZ pl:=by
  unfold scZ
  exact((if_neg (fun e=>e (h 0 (by decide)))).trans ((if_neg (fun e=>e (h 1 (by decide)))).trans (if_neg (fun e=>e (h 2 (by decide)))))).symm
def zJK(x:List Int):Nat→List Int:=jW fun i=>x.getD (x.length-1-i) 0
def zFB(E:List E5)(m i:Nat):Prop:=∃q,q<m∧(E.getD q ((0:Int),(0:Int),(0:Int),(0:Int),(0:Int))).1=(i:Int)
theorem zO3{E:List E5}{m n:Nat}{U:List Prop}(hl:U.length=n)(h:∀u,u<n→(U.getD u False↔zFB E m u))(h0:0≤(E.getD m ((0:Int),(0:Int),(0:Int),(0:Int),(0:Int))).1)(h1:(E.getD m ((0:Int),(0:Int),(0:Int),(0:Int),(0:Int))).1<n):∀u,u<n→((U.set (E.getD m ((0:Int),(0:Int),(0:Int),(0:Int),(0:Int))).1.toNat True).getD u False↔zFB E (m+1) u):=by
  intro u hu
  rw[List.getD_eq_getElem?_getD,List.getElem?_set]
  have hx:zFB E (m+1) u↔zFB E m u∨(E.getD m ((0:Int),(0:Int),(0:Int),(0:Int),(0:Int))).1=(u:Int):=by
    constructor
    · rintro⟨q,hq,e⟩
      rcases Nat.lt_succ_iff_lt_or_eq.1 hq with h|h
      · exact .inl ⟨q,h,e⟩
      · subst h;exact .inr e
    · rintro(⟨q,hq,e⟩|e)
      · exact⟨q,by omega,e⟩
      · exact⟨m,by omega,e⟩
  rw[hx]
  split
  · rename_i e
    rw[if_pos (by omega)]
    exact⟨fun _=>.inr (by omega),fun _=>trivial⟩
  · rename_i e
    have:=h u hu
    rw[List.getD_eq_getElem?_getD] at this
    rw[this]
    exact⟨.inl,fun h=>h.resolve_right (by omega)⟩
def nmA(s:Sd):Prop:=∀f,f<s.2.1.length→nmP s f
theorem zOK{s:Sd}(h:nmA s){q:Nat}(hq:q<(edZ (vQ s)).length):0≤((edZ (vQ s)).getD q ((0:Int),(0:Int),(0:Int),(0:Int),(0:Int))).1∧((edZ (vQ s)).getD q ((0:Int),(0:Int),(0:Int),(0:Int),(0:Int))).1<s.1.length:=by
  have hm:=bN (d:=((0:Int),(0:Int),(0:Int),(0:Int),(0:Int))) hq
  generalize (edZ (vQ s)).getD q ((0:Int),(0:Int),(0:Int),(0:Int),(0:Int))=e at hm ⊢
  obtain⟨f,hf,hm⟩:=oU hm
  obtain⟨l,hl,hm⟩:=oU hm
  obtain⟨i,hi,rfl⟩:=zF8 hm
  rw[lQ] at hf
  have hg:(vQ s).getD f []=(s.2.1.getD f zA).2.1:=pK _ _ hf
  rw[hg] at hl hi ⊢
  exact h f hf l hl i hi
theorem zU4{s:Sd}(h:okS s):(edZ (vQ s)).length≤1100000:=by
  have h1:=j6 (F:=vQ s) (fun f hf=>by rw[lQ] at hf;rw[zAA hf];exact h.2.1 f hf) _ (Nat.le_refl _)
  rw[lQ] at h1
  have h2:=h.1.1.2
  show(edF (vQ s) (vQ s).length).length≤_
  rw[lQ];omega
def zNQ(s:Sd)(out:List Int)(i k:Nat):Prop:=lsP (gp s.1 i) (gp s.1 (out.getD k 0).toNat)
noncomputable def bH(s:Sd):Nat→List Int
  |0=>[]
  |i+1=>if zFB (edZ (vQ s)) (edZ (vQ s)).length i then eV (bH s i) (cR (zNQ s (bH s i) i) (bH s i).length) (i:Int) else bH s i
theorem zJ3(s:Sd):∀i,(bH s i).length≤i
  |0=>Nat.le_refl _
  |i+1=>by
   have:=zJ3 s i
   unfold bH
   split
   · rw[zC2 _ _ (zBO _ _)];omega
   · omega
theorem zFZ{s:Sd}{x:Int}:∀{i},x∈bH s i→0≤x∧x<i
  |0,h=>absurd h List.not_mem_nil
  |i+1,h=>by
   unfold bH at h
   split at h
   · unfold eV at h
     rcases List.mem_append.1 h with h|h
     · have:=zFZ (List.mem_of_mem_take h);omega
     · rcases List.mem_cons.1 h with rfl|h
       · omega
       · have:=zFZ (List.mem_of_mem_drop h);omega
   · have:=zFZ h;omega
theorem oK{s:Sd}{i k:Nat}(h:k<(bH s i).length):0≤(bH s i).getD k 0∧(bH s i).getD k 0<i:=zFZ (bN h)
def nwL(s:Sd)(ix:List Int)(f i:Nat):Nat→List Int:=jW fun q=>ix.getD (((s.2.1.getD f zA).2.1.getD i []).getD q 0).toNat 0
def nfL(s:Sd)(ix:List Int)(f i:Nat):List Int:=zP2 (nwL s ix f i ((s.2.1.getD f zA).2.1.getD i []).length)
def zHF(s:Sd)(f i:Nat):Prop:=0<yX (arZ (gl (rA s f) i) 0 1)
noncomputable def ouL(s:Sd)(ix:List Int)(f:Nat):Nat→List (List Int):=cA (zHF s f) (nfL s ix f)
def zUV(l:List Int)(D:List (List Int))(k:Nat):Prop:=pR l (D.getD k [])<0
noncomputable def zA9(s:Sd)(ix:List Int)(f:Nat):Nat→List (List Int)
  |0=>[]
  |i+1=>if zHF s f i then zA9 s ix f i else eV (zA9 s ix f i) (cR (zUV (nfL s ix f i) (zA9 s ix f i)) (zA9 s ix f i).length) (nfL s ix f i)
theorem zK4(s:Sd)(ix:List Int)(f:Nat):∀i,(zA9 s ix f i).length≤i
  |0=>Nat.le_refl _
  |i+1=>by
   have:=zK4 s ix f i
   unfold zA9
   split
   · omega
   · rw[zC2 _ _ (zBO _ _)];omega
noncomputable def nfF(s:Sd)(ix:List Int)(f:Nat):Fc:=(scZ (s.2.1.getD f zA).1,ouL s ix f (s.2.1.getD f zA).2.1.length++zA9 s ix f (s.2.1.getD f zA).2.1.length,(s.2.1.getD f zA).2.2)
theorem zR6{s:Sd}{f:Nat}(hf:f<s.2.1.length)(h:nmP s f):fO s ↑f=zIR s f (s.2.1.getD f zA).2.1.length:=if_pos ⟨by omega,h⟩
theorem zYL{s:Sd}{f:Nat}(hf:f<s.2.1.length)(h:nmP s f):(rA s f).length=(s.2.1.getD f zA).2.1.length:=by
  rw[(zGG s f).1,zR6 hf h];exact wR _ _
noncomputable def fF(s:Sd):List Int:=bH s s.1.length
noncomputable def zK2(s:Sd):Nat→List Int
  |0=>List.replicate s.1.length (0:Int)
  |i+1=>(zK2 s i).set ((fF s).getD i 0).toNat (i:Int)
theorem nZ(s:Sd):∀i,(zK2 s i).length=s.1.length
  |0=>List.length_replicate
  |i+1=>by unfold zK2;rw[lS];exact nZ s i
noncomputable def ixZ(s:Sd):List Int:=zK2 s (fF s).length
noncomputable def zUB(s:Sd):Nat→List Pt:=jW fun i=>gp s.1 ((fF s).getD i 0).toNat
def zKT(x:Fc)(D:List Fc)(k:Nat):Prop:=lsF x (D.getD k zA)
noncomputable def u4(s:Sd):Nat→List Fc
  |0=>[]
  |f+1=>eV (u4 s f) (cR (zKT (nfF s (ixZ s) f) (u4 s f)) (u4 s f).length) (nfF s (ixZ s) f)
theorem zKJ(s:Sd):∀f,(u4 s f).length=f
  |0=>rfl
  |f+1=>by
   unfold u4
   rw[zC2 _ _ (zBO _ _),zKJ s f]
noncomputable def nrP(s:Sd):List Pt:=if dU s then zUB s (fF s).length else[]
noncomputable def nrF(s:Sd):List Fc:=if dU s then u4 s s.2.1.length else[]
noncomputable def nrE(s:Sd):List En:=if dU s then s.2.2 else[]
theorem zWO{s:Sd}(h:dU s):nmA s:=by
  have h1:(szZ s).length=0:=by
    unfold dU zU7 at h
    split at h
    · omega
    · omega
  have h2:szZ s=[]:=List.eq_nil_of_length_eq_zero h1
  unfold szZ at h2
  split at h2
  · exact absurd h2 (by simp)
  · intro f hf
    exact Classical.byContradiction fun e=>(zLL _).1 h2 f hf (.inr e)
theorem zCQ{s:Sd}(h:okS s){ix:List Int}{f:Nat}(hf:f<s.2.1.length):(nfF s ix f).2.1.length≤100:=by
  have h1:=sO (zHF s f) (nfL s ix f) (s.2.1.getD f zA).2.1.length
  have h2:=zK4 s ix f (s.2.1.getD f zA).2.1.length
  have h3:=(h.2.1 f hf).1
  show List.length (ouL s ix f _++zA9 s ix f _)≤_
  rw[lAz]
  have h4:(ouL s ix f (s.2.1.getD f zA).2.1.length).length≤(s.2.1.getD f zA).2.1.length:=h1
  omega
theorem zRL{α:Type}{p:α→Prop}{l:List α}{k:Nat}{x:α}(h:∀y,y∈l→p y)(hx:p x):∀y,y∈eV l k x→p y:=by
  intro y hy
  unfold eV at hy
  rcases List.mem_append.1 hy with hy|hy
  · exact h y (List.mem_of_mem_take hy)
  · rcases List.mem_cons.1 hy with rfl|hy
    · exact hx
    · exact h y (List.mem_of_mem_drop hy)
theorem zQX{s:Sd}(h:okS s):∀f,f≤s.2.1.length→∀x,x∈u4 s f→x.2.1.length≤100
  |0,_,x,hx=>absurd hx List.not_mem_nil
  |f+1,hf,x,hx=>zRL (p:=fun x:Fc=>x.2.1.length≤100) (zQX h f (by omega)) (zCQ h (by omega)) x hx
end Bk
namespace Go.Proofs.YtboaboflnckgoaaGreat
open Bk Go Tryz
set_option linter.unusedVariables false
set_option linter.unusedSimpArgs false
set_option maxRecDepth 10000
set_option maxHeartbeats 1000000
attribute [local irreducible] GL GC GQ W OpV
theorem zDR{w0:World}{h0:Mem}(hs:MLe h0 (mem w0)){vL:Value}{L:(List (List Int))}(rL:tII.Is h0 vL L)(hcd0:L.length≤100000)(hcd1:∀x,x∈L→x.length≤100000):
    Calls Tryz.prog 108 #[vL] w0 (Ret w0 h0 (fun h r=>tII.Is h r L)):=by
 refine cb1 20 vL func108 hs ?_
 refine dE ?_
 refine xO 32 1 ?_
 have rl_1:RL (rpS rpI) h0 [] ([]:List (List Int)):=RL.nil
 refine gcL (ι:=Nat×List (List Int)×Value×List Value×Mem) (fun(i,D,s3_2,cs_3,mi)=>(MLe h0 mi∧(RL (rpS rpI) mi cs_3 D∧i≤L.length∧D=L.take i),[(0,vL),(3,s3_2),(4,vI ↑i)],[.gs 32 1 s3_2 D.length cs_3],mi,L.length-i)) (0,[],(.slice none 0 0),[],h0) ?_ ?_
 ·
  refine⟨MLe.refl _,?_⟩
  refine⟨rl_1,?_⟩
  exact⟨by omega,rfl⟩
 intro x hx
 obtain⟨i,D,s3_2,cs_3,mi⟩:=x
 dsimp only at hx
 obtain⟨hmmi,hinv⟩:=hx
 refine yR ?_
 obtain⟨rl_4,hinv⟩:=hinv
 obtain⟨hi1,hD⟩:=hinv
 have hgl:=zRR hcd1 i
 have htl:D.length≤i:=by rw[hD,List.length_take];omega
 refine go9 ?_
 refine cnd (fun hc8=>?_) fun hc8=>?_
 ·
  refine go8 ?_
  refine lX (xI [] i underlying81 fM rL) fun v14 r14=>(lX (xA fM r14) fun v15 r15=>(zEW 3 1 ?_))
  have rl_5:RL rpI mi [] ([]:List Int):=RL.nil
  refine xS (A:=[]) (yD (ρ:=rpI) (bytes:=8) underlying32 gB rfl rfl rfl rfl nP rfl rfl rl_5 r15 bO bO) rfl rfl rfl ?_
  intro v16 q16 hq16
  obtain⟨cs16,rfl,rl16⟩:=hq16
  refine yH (A:=[]) (ρ:=rpI) rl16 ?_
  intro h1 hh1 rs_6
  refine zG (zU (ρ:=(rpS rpI)) (m:=1) (xs:=[(([]:List Int)++(L.getD i []))]) (ps':=[(0,_)]) underlying81 jK rfl rfl rfl qQ e2z (zJ rfl (Pc.arr (Pc.here _) [] 0 dC) rs_6 zX) (show 1*1≤16777216 from by decide) nP) rfl rfl rfl ?_
  intro v17 q17 hq17
  obtain⟨cs17,rfl,rl17⟩:=hq17
  refine yH (A:=[]) (ρ:=(rpS rpI)) rl17 ?_
  intro h2 hh2 rs_7
  replace rl_4:=rl_4.mono (hh1.trans hh2)
  refine xS (A:=[]) (yD (ρ:=(rpS rpI)) (bytes:=24) underlying81 jK rfl rfl rfl rfl nP rfl rfl rl_4 rs_7 bO bO) rfl rfl rfl ?_
  intro v18 q18 hq18
  obtain⟨cs18,rfl,rl18⟩:=hq18
  refine go9 ?_
  refine gqL ((i+1),(D++[(([]:List Int)++(L.getD i []))]),v18,cs18,h2) ?_ ?_
  ·
   refine⟨((hmmi.trans hh1).trans hh2),?_⟩
   refine⟨rl18,?_⟩
   exact⟨by omega,by rw[hD,List.nil_append];exact(zM3 [] oM).symm⟩
  omega
 have ei:i=L.length:=by omega
 refine uT ?_
 refine wV (A:=[]) (ρ:=(rpS rpI)) rl_4 ?_
 intro h1 hh1 rs_8
 refine zD rfl rfl ?_
 exact(Rp.Is.cast rs_8 (by rw[hD,ei,List.take_length]))
theorem zEK{w0:World}{h0:Mem}(hs:MLe h0 (mem w0)){k m n j:Nat}{vs:Value}{s:Sq}(rs:(tSd k m n j).Is h0 vs s)(hcd0:s.2.1.length≤100000)(hcd1:∀f,f<s.2.1.length→(s.2.1.getD f zA).2.1.length≤100000∧∀x,x∈(s.2.1.getD f zA).2.1→x.length≤100000):
    Calls Tryz.prog 159 #[vs] w0 (Ret w0 h0 (fun h r=>(rpS tII).Is h r (vQ s))):=by
 refine cb1 23 vs func159 hs ?_
 refine go2 ?_
 refine nB rs fun b1 cs1 rb1=>?_
 refine j1 ?_
 refine xO 81 1 ?_
 have rl_9:RL tII h0 [] ([]:List (List (List Int))):=RL.nil
 refine gcL (ι:=Nat×List (List (List Int))×Value×List Value×Mem) (fun(f,D,s3_10,cs_11,mf)=>(MLe h0 mf∧(RL tII mf cs_11 D∧f≤s.2.1.length∧D=jW (fun f=>(s.2.1.getD f zA).2.1) f),[(1,vP b1 0),(3,s3_10),(4,vI ↑f)],[.gs 81 1 s3_10 D.length cs_11,.var b1 50 cs1],mf,s.2.1.length-f)) (0,[],(.slice none 0 0),[],h0) ?_ ?_
 ·
  refine⟨MLe.refl _,?_⟩
  refine⟨rl_9,?_⟩
  exact⟨by omega,rfl⟩
 intro x hx
 obtain⟨f,D,s3_10,cs_11,mf⟩:=x
 dsimp only at hx
 obtain⟨hmmf,hinv⟩:=hx
 refine yR ?_
 obtain⟨rl_12,hinv⟩:=hinv
 obtain⟨hf1,hD⟩:=hinv
 have hml:D.length=f:=by rw[hD];exact wR _ _
 refine go5 ?_
 refine lX (xB tG (Pc.snd (Pc.fst pH)) rb1) fun v7 r7=>?_
 refine go4 ?_
 refine cnd (fun hc9=>?_) fun hc9=>?_
 ·
  refine go7 ?_
  refine lX (xB tG (Pc.snd (Pc.fst pH)) rb1) fun v14 r14=>?_
  refine go1 ?_
  refine lX (xI zA f underlying47 tJ r14) fun v16 r16=>(lX (xF underlying83 sizeOf81 (Pc.snd (Pc.fst pH)) r16) fun v17 r17=>(lX (xA cG r17) fun v18 r18=>(cL (ev1 rfl) call108 (fun w hs=>zDR hs r18 (by first|omega|exact(hcd1 f oM).1|exact(hcd1 f oM).2) (by first|omega|exact(hcd1 f oM).1|exact(hcd1 f oM).2)) fun v19 h1 hh1 r19=>(zG (zU (ρ:=tII) (m:=1) (xs:=[(((s.2.1.getD f zA).2).1)]) (ps':=[(0,_)]) underlying175 zK3 rfl rfl rfl qQ e2z (zJ rfl (Pc.arr (Pc.here _) [] 0 dC) r19 zX) (show 1*1≤16777216 from by decide) nP) rfl rfl rfl ?_))))
  intro v20 q20 hq20
  obtain⟨cs20,rfl,rl20⟩:=hq20
  refine yH (A:=[]) (ρ:=tII) rl20 ?_
  intro h2 hh2 rs_13
  replace rl_12:=rl_12.mono (hh1.trans hh2)
  refine xS (A:=[]) (yD (ρ:=tII) (bytes:=24) underlying175 zK3 rfl rfl rfl rfl nP rfl rfl rl_12 rs_13 bO bO) rfl rfl rfl ?_
  intro v21 q21 hq21
  obtain⟨cs21,rfl,rl21⟩:=hq21
  refine go9 ?_
  refine gqL ((f+1),(D++[(((s.2.1.getD f zA).2).1)]),v21,cs21,h2) ?_ ?_
  ·
   refine⟨((hmmf.trans hh1).trans hh2),?_⟩
   refine⟨rl21,?_⟩
   exact⟨by omega,by rw[hD];rfl⟩
  omega
 have ef:f=s.2.1.length:=by omega
 refine uT ?_
 refine wV (A:=[]) (ρ:=tII) rl_12 ?_
 intro h1 hh1 rs_14
 refine zD rfl rfl ?_
 exact(Rp.Is.cast rs_14 (by rw[hD,ef];rfl))
theorem zEJ{w0:World}{h0:Mem}(hs:MLe h0 (mem w0)){k m n j:Nat}{vs:Value}{s:Sq}(rs:(tSd k m n j).Is h0 vs s){f:Int}(hf1:-9223372036854775808≤f)(hf2:f<9223372036854775808)(hcd0:0≤f)(hcd1:f<↑s.2.1.length)(hcd2:(s.2.1.getD f.toNat zA).2.1.length≤100000)(hcd3:∀l,l<(s.2.1.getD f.toNat zA).2.1.length→((s.2.1.getD f.toNat zA).2.1.getD l []).length≤100000):
    Calls Tryz.prog 187 #[vs,vI f] w0 (Ret w0 h0 (fun _ r=>r=vB (nmP s f.toNat))):=by
 refine cb2 50 vs (vI f) func187 hs ?_
 refine go2 ?_
 refine nB rs fun b2 cs2 rb2=>?_
 refine go6 ?_
 refine lX (xB tG (Pc.snd (Pc.fst pH)) rb2) fun v9 r9=>?_
 refine go1 ?_
 refine lX (xI zA f.toNat underlying47 tJ r9) fun v11 r11=>(lX (xF underlying83 sizeOf81 (Pc.snd (Pc.fst pH)) r11) fun v12 r12=>(lX (xA cG r12) fun v13 r13=>?_))
 refine vX ?_
 refine gcL (ι:=Nat×Mem) (fun(l,ma)=>(MLe h0 ma∧(l≤(s.2.1.getD f.toNat zA).2.1.length∧∀u,u<l→nmL s.1.length ((s.2.1.getD f.toNat zA).2.1.getD u [])),[(2,vP b2 0),(5,v13),(6,vI ↑l)],[.var b2 50 cs2],ma,(s.2.1.getD f.toNat zA).2.1.length-l)) (0,h0) ?_ ?_
 ·
  refine⟨MLe.refl _,?_⟩
  exact⟨by omega,fun u h=>by omega⟩
 intro x hx
 obtain⟨l,ma⟩:=x
 dsimp only at hx
 obtain⟨hmma,hinv⟩:=hx
 refine yR ?_
 obtain⟨hl1,hl2⟩:=hinv
 refine go9 ?_
 refine cnd (fun hc17=>?_) fun hc17=>?_
 ·
  refine vX ?_
  refine gcL (ι:=Nat×Mem) (fun(i,mb)=>(MLe ma mb∧(i≤((s.2.1.getD f.toNat zA).2.1.getD l []).length∧∀u,u<i→0≤((s.2.1.getD f.toNat zA).2.1.getD l []).getD u 0∧((s.2.1.getD f.toNat zA).2.1.getD l []).getD u 0<↑s.1.length),[(2,vP b2 0),(5,v13),(6,vI ↑l),(7,vI ↑i)],[.var b2 50 cs2],mb,((s.2.1.getD f.toNat zA).2.1.getD l []).length-i)) (0,ma) ?_ ?_
  ·
   refine⟨MLe.refl _,?_⟩
   exact⟨by omega,fun u h=>by omega⟩
  intro x hx
  obtain⟨i,mb⟩:=x
  dsimp only at hx
  obtain⟨hmmb,hinv⟩:=hx
  refine yR ?_
  obtain⟨hi1,hi2⟩:=hinv
  have hll:=hcd3 l oM
  refine go6 ?_
  refine lX (xI [] l underlying81 fM r13) fun v23 r23=>(lX (xA fM r23) fun v24 r24=>?_)
  refine go4 ?_
  refine cnd (fun hc26=>?_) fun hc26=>?_
  ·
   refine go5 ?_
   refine gD 21 (qq 0 21 []) (uA [0,0,3,4,0,24,32,64,128,256,256,1792,2304,256,12544,16640,256,65792,131328,295168,524544] (frz 2097151 [0,0,3,4,0,24,32,64,128,256,256,1792,2304,256,12544,16640,256,65792,131328,295168,524544]) (by kernel_rfl)) ?_
   refine go2 ?_
   refine wX rfl (xI [] l underlying81 fM r13) fun v31 r31=>(wX rfl (xA fM r31) fun v32 r32=>?_)
   refine go1 ?_
   refine wX rfl (xI (0:Int) i underlying32 ty3 r32) fun v34 r34=>(wX rfl (xA ty3 r34) fun v35 r35=>?_)
   obtain⟨rfl,hl35,hu35⟩:=jZ r35
   refine go2 ?_
   refine gR ((((((s.2.1.getD f.toNat zA).2).1).getD l []).getD i (0:Int))<(0:Int)) (fun hg_15=>?_) (fun hg_15=>?_)
   ·
    rw[xL hg_15]
    refine go30 ?_
    refine zD rfl rfl ?_
    exact(yS (fun e=>by have:=e l oM i oM;omega)).symm
   rw[yS hg_15]
   refine yP rfl rfl rfl (fun h' L' hh hR=>yU rfl) rfl (yP rfl rfl rfl (fun h' L' hh hR=>yU rfl) rfl (oX rfl (xI [] l underlying81 fM r13) fun v40 r40=>(oX rfl (xA fM r40) fun v41 r41=>(yP rfl rfl rfl (fun h' L' hh hR=>yU rfl) rfl (oX rfl (xI (0:Int) i underlying32 ty3 r41) fun v43 r43=>(oX rfl (xA ty3 r43) fun v44 r44=>?_))))))
   obtain⟨rfl,hl44,hu44⟩:=jZ r44
   refine go1 ?_
   refine oX rfl (xB uW (Pc.fst pH) rb2) fun v46 r46=>(yP rfl rfl rfl (fun h' L' hh hR=>uS underlying46 rfl (r46.mono hh)) rfl ?_)
   refine go4 ?_
   refine cnd (fun hc49=>?_) fun hc49=>?_
   ·
    refine j1 ?_
    refine zD rfl rfl ?_
    exact(yS (fun e=>by have:=e l oM i oM;omega)).symm
   refine go8 ?_
   refine gqL ((i+1),mb) ?_ ?_
   ·
    refine⟨hmmb,?_⟩
    exact⟨by omega,qM (Q:=fun u=>0≤((s.2.1.getD f.toNat zA).2.1.getD l []).getD u 0∧((s.2.1.getD f.toNat zA).2.1.getD l []).getD u 0<↑s.1.length) hi2 oM⟩
   omega
  refine uO ?_
  refine gqL ((l+1),mb) ?_ ?_
  ·
   refine⟨(hmma.trans hmmb),?_⟩
   exact⟨by omega,qM (Q:=fun u=>nmL s.1.length ((s.2.1.getD f.toNat zA).2.1.getD u [])) hl2 (fun u hu=>hi2 u oM)⟩
  omega
 refine uO ?_
 refine zD rfl rfl ?_
 exact(xL (fun u hu=>hl2 u oM)).symm
theorem zAV{w0:World}{h0:Mem}(hs:MLe h0 (mem w0)){k m n j:Nat}{vs:Value}{s:Sq}(rs:(tSd k m n j).Is h0 vs s){f:Int}(hf1:-9223372036854775808≤f)(hf2:f<9223372036854775808)(hcd0:s.1.length≤100000)(hcd1:∀f,f<s.2.1.length→(s.2.1.getD f zA).2.1.length≤10000∧∀l,l<(s.2.1.getD f zA).2.1.length→((s.2.1.getD f zA).2.1.getD l []).length≤10000):
    Calls Tryz.prog 189 #[vs,vI f] w0 (Ret w0 h0 (fun h r=>(tLL (k+1)).Is h r (fO s f))):=by
 refine cb2 65 vs (vI f) func189 hs ?_
 refine go2 ?_
 refine nB rs fun b2 cs2 rb2=>?_
 refine go8 ?_
 refine gU 7 18 (vB ((f<(0:Int))∨((↑(s.2.1).length:Int)≤f))) ?_ ?_
 ·
  refine zY (f<(0:Int)) (fun hg=>?_) (fun hg=>?_)
  ·
   refine gT hg rfl ?_
   refine go7 ?_
   refine gqU ?_
   exact congrArg some (wZ hg)
  refine gF hg rfl ?_
  refine go5 ?_
  refine lX (xB tG (Pc.snd (Pc.fst pH)) rb2) fun v15 r15=>?_
  refine go6 ?_
  refine gqU ?_
  exact congrArg some (vC hg)
 refine uY (ι:=Mem) 6 (fun m_=>MLe h0 m_) (fun _=>[(24,vB (((f<(0:Int))∨((↑(s.2.1).length:Int)≤f))∨(¬(nmP s f.toNat)))),(1,vI f),(2,vP b2 0)]) (fun _=>[.var b2 50 cs2]) (fun m_=>m_) ?_ ?_
 ·
  refine zY ((f<(0:Int))∨((↑(s.2.1).length:Int)≤f)) (fun hg=>?_) (fun hg=>?_)
  ·
   refine gT hg rfl ?_
   refine go6 ?_
   refine zN h0 (MLe.refl _) ⟨?_,rfl,rfl,trivial⟩ rfl rfl
   exact congrArg some (wZ hg)
  refine gF hg rfl ?_
  refine go1 ?_
  refine lX (xB gH pH rb2) fun v20 r20=>?_
  refine go3 ?_
  refine cL (ev2 rfl rfl) call187 (fun w hs=>zEJ hs r20 oM oM (by first|omega|exact Nat.le_trans (hcd1 f.toNat oM).1 dC|exact fun l hl=>Nat.le_trans ((hcd1 f.toNat oM).2 l hl) dC) (by first|omega|exact Nat.le_trans (hcd1 f.toNat oM).1 dC|exact fun l hl=>Nat.le_trans ((hcd1 f.toNat oM).2 l hl) dC) (by first|omega|exact Nat.le_trans (hcd1 f.toNat oM).1 dC|exact fun l hl=>Nat.le_trans ((hcd1 f.toNat oM).2 l hl) dC) (by first|omega|exact Nat.le_trans (hcd1 f.toNat oM).1 dC|exact fun l hl=>Nat.le_trans ((hcd1 f.toNat oM).2 l hl) dC)) fun v22 h1 hh1 r22=>?_
  obtain rfl:v22=vB (nmP s f.toNat):=r22
  refine go4 ?_
  refine zN h1 hh1 ⟨?_,rfl,rfl,trivial⟩ rfl rfl
  exact congrArg some (vC hg)
 intro mg1_9 hmmg1_9
 refine tL ?_
 refine go2 ?_
 refine cnd (fun hc24=>?_) fun hc24=>?_
 ·
  refine go7 ?_
  refine zD rfl rfl ?_
  exact(Rp.Is.cast (mA _) (by exact(if_neg (fun e=>hc24.elim (fun h=>by omega) (fun h=>h e.2))).symm))
 have hok:(0≤f∧f<↑s.2.1.length)∧nmP s f.toNat:=by constructor;exact oM;exact Classical.not_not.1 (fun e=>hc24 (.inr e))
 have hnm:∀l,l<(s.2.1.getD f.toNat zA).2.1.length→∀q,q<((s.2.1.getD f.toNat zA).2.1.getD l []).length→0≤((s.2.1.getD f.toNat zA).2.1.getD l []).getD q 0∧((s.2.1.getD f.toNat zA).2.1.getD l []).getD q 0<↑s.1.length:=fun l hl q hq=>hok.2 l hl q hq
 have hln:=hcd1 f.toNat oM
 refine vX ?_
 refine lX (xB tG (Pc.snd (Pc.fst pH)) rb2) fun v26 r26=>?_
 refine go1 ?_
 refine lX (xI zA f.toNat underlying47 tJ r26) fun v28 r28=>(lX (xF underlying83 sizeOf81 (Pc.snd (Pc.fst pH)) r28) fun v29 r29=>(lX (xA cG r29) fun v30 r30=>?_))
 refine vX ?_
 refine xO 46 1 ?_
 have rl_16:RL (tLs (k+1)) mg1_9 [] ([]:List (List Tq)):=RL.nil
 refine gcL (ι:=Nat×List (List Tq)×Value×List Value×Mem) (fun(l,D,s5_17,cs_18,ml)=>(MLe mg1_9 ml∧(RL (tLs (k+1)) ml cs_18 D∧l≤(s.2.1.getD f.toNat zA).2.1.length∧D=zIR s f.toNat l),[(2,vP b2 0),(5,s5_17),(6,v30),(7,vI ↑l)],[.gs 46 1 s5_17 D.length cs_18,.var b2 50 cs2],ml,(s.2.1.getD f.toNat zA).2.1.length-l)) (0,[],(.slice none 0 0),[],mg1_9) ?_ ?_
 ·
  refine⟨MLe.refl _,?_⟩
  refine⟨rl_16,?_⟩
  exact⟨by omega,rfl⟩
 intro x hx
 obtain⟨l,D,s5_17,cs_18,ml⟩:=x
 dsimp only at hx
 obtain⟨hmml,hinv⟩:=hx
 refine yR ?_
 obtain⟨rl_19,hinv⟩:=hinv
 obtain⟨hl1,hD⟩:=hinv
 have hll:D.length=l:=by rw[hD];exact wR _ _
 refine go9 ?_
 refine cnd (fun hc34=>?_) fun hc34=>?_
 ·
  refine zAC ?_
  refine xO 53 9 ?_
  have rl_20:RL (tPt (k+1)) ml [] ([]:List Tq):=RL.nil
  refine gcL (ι:=Nat×List Tq×Value×List Value×Mem) (fun(q,YY,s8_21,cs_22,mq)=>(MLe ml mq∧(RL (tPt (k+1)) mq cs_22 YY∧q≤((s.2.1.getD f.toNat zA).2.1.getD l []).length∧YY=zT0 s.1 ((s.2.1.getD f.toNat zA).2.1.getD l []) q),[(2,vP b2 0),(5,s5_17),(6,v30),(7,vI ↑l),(8,s8_21),(9,vI ↑q)],[.gs 53 9 s8_21 YY.length cs_22,.gs 46 1 s5_17 D.length cs_18,.var b2 50 cs2],mq,((s.2.1.getD f.toNat zA).2.1.getD l []).length-q)) (0,[],(.slice none 0 0),[],ml) ?_ ?_
  ·
   refine⟨MLe.refl _,?_⟩
   refine⟨rl_20,?_⟩
   exact⟨by omega,rfl⟩
  intro x hx
  obtain⟨q,YY,s8_21,cs_22,mq⟩:=x
  dsimp only at hx
  obtain⟨hmmq,hinv⟩:=hx
  refine yR ?_
  obtain⟨rl_23,hinv⟩:=hinv
  obtain⟨hq1,hYY⟩:=hinv
  have hpl:YY.length=q:=by rw[hYY];exact wR _ _
  have hl2:=hln.2 l oM
  refine go6 ?_
  refine lX (xI [] l underlying81 fM r30) fun v40 r40=>(lX (xA fM r40) fun v41 r41=>?_)
  refine go4 ?_
  refine cnd (fun hc43=>?_) fun hc43=>?_
  ·
   refine go4 ?_
   refine jI (A:=[]) 15 [] [(0,.q),(1,.q),(2,.q),(3,.q),(4,.q),(5,.q),(6,.q),(7,.q),(8,.q),(9,.q),(10,.q),(11,.q),(12,.c),(13,.c),(14,.q)] kQ nX (uA [0,0,2,0,0,24,32,0,192,256,516,1024,2048,4097,16383] [32767,32767,32765,32767,32767,32743,32735,32767,32575,32511,32251,31743,30719,28670,24574] (by kernel_rfl)) nX ?_
   refine go2 ?_
   refine wX rfl (xB uW (Pc.fst pH) rb2) fun v48 r48=>?_
   refine go2 ?_
   refine wX rfl (xI [] l underlying81 fM r30) fun v51 r51=>(wX rfl (xA fM r51) fun v52 r52=>?_)
   refine go1 ?_
   refine wX rfl (xI (0:Int) q underlying32 ty3 r52) fun v54 r54=>(wX rfl (xA ty3 r54) fun v55 r55=>?_)
   obtain⟨rfl,hl55,hu55⟩:=jZ r55
   refine mV (F:=fun v_=>AtP (tPt k) mq v_ (s.1.getD ((((s.2.1.getD f.toNat zA).2.1.getD l []).getD q 0).toNat) zT)) rfl (lH zT ((((s.2.1.getD f.toNat zA).2.1.getD l []).getD q 0).toNat) underlying46 zW rfl rfl r48 (by(have h:=hnm l oM q oM;omega)) (by(have h:=hnm l oM q oM;omega)) nP) zDV rfl ?_
   intro v56 r56
   refine wX rfl (xA zW r56) fun v57 r57=>?_
   refine w_c rfl (kD (fun X=>zU (ρ:=(tPt (k+1))) (m:=1) (xs:=[(s.1.getD ((((s.2.1.getD f.toNat zA).2.1.getD l []).getD q 0).toNat) zT)]) (ps':=[(0,_)]) underlying46 xC rfl rfl rfl (wG (yE oM)) e2z (zJ rfl (Pc.arr (Pc.here _) zT 0 dC) (r57.le (Le.t (Le.q (l:=k+1) oM))) zX) (show 1*9≤16777216 from by decide) nP) rfl ?_)
   intro v58 q58 hq58
   obtain⟨cs58,rfl,rl58⟩:=hq58
   refine w_c rfl (vD (A:=[]) (ρ:=(tPt (k+1))) rl58 dK ?_)
   intro h1 hh1 rs_24
   replace rl_23:=rl_23.mono hh1
   refine sH (A:=[]) (fun X=>yD (ρ:=(tPt (k+1))) (bytes:=168) underlying46 xC rfl rfl rfl rfl nP rfl rfl rl_23 rs_24 bO bO) rfl (vH (by first|(simp;done)|grind)) ?_
   intro v59 q59 hq59
   obtain⟨cs59,rfl,rl59⟩:=hq59
   refine go9 ?_
   refine gqL ((q+1),(YY++[(s.1.getD ((((s.2.1.getD f.toNat zA).2.1.getD l []).getD q 0).toNat) zT)]),v59,cs59,h1) ?_ ?_
   ·
    refine⟨(hmmq.trans hh1),?_⟩
    refine⟨rl59,?_⟩
    exact⟨by omega,by rw[hYY];rfl⟩
   omega
  have eq:q=((s.2.1.getD f.toNat zA).2.1.getD l []).length:=by omega
  have hl2:=hln.2 l oM
  refine go8 ?_
  refine yH (A:=[]) (ρ:=(tPt (k+1))) rl_23 ?_
  intro h1 hh1 rs_25
  refine zG (zU (ρ:=(tLs (k+1))) (m:=1) (xs:=[YY]) (ps':=[(0,_)]) underlying115 zAB rfl rfl rfl qQ e2z (zJ rfl (Pc.arr (Pc.here _) [] 0 dC) rs_25 zX) (show 1*1≤16777216 from by decide) nP) rfl rfl rfl ?_
  intro v62 q62 hq62
  obtain⟨cs62,rfl,rl62⟩:=hq62
  refine yH (A:=[]) (ρ:=(tLs (k+1))) rl62 ?_
  intro h2 hh2 rs_26
  replace rl_19:=rl_19.mono ((hmmq.trans hh1).trans hh2)
  refine xS (A:=[]) (yD (ρ:=(tLs (k+1))) (bytes:=24) underlying115 zAB rfl rfl rfl rfl nP rfl rfl rl_19 rs_26 bO bO) rfl rfl rfl ?_
  intro v63 q63 hq63
  obtain⟨cs63,rfl,rl63⟩:=hq63
  refine go9 ?_
  refine gqL ((l+1),(D++[YY]),v63,cs63,h2) ?_ ?_
  ·
   refine⟨(((hmml.trans hmmq).trans hh1).trans hh2),?_⟩
   refine⟨rl63,?_⟩
   exact⟨by omega,by rw[hD,hYY,eq];rfl⟩
  omega
 have el:l=(s.2.1.getD f.toNat zA).2.1.length:=by omega
 refine uT ?_
 refine wV (A:=[]) (ρ:=(tLs (k+1))) rl_19 ?_
 intro h1 hh1 rs_27
 refine zD rfl rfl ?_
 exact(Rp.Is.cast rs_27 (by rw[hD,el];exact(if_pos hok).symm))
theorem zA5{w0:World}{h0:Mem}(hs:MLe h0 (mem w0)){m n k:Nat}{vpl:Value}{pl:Pq}(rpl:(tPl m n).Is h0 vpl pl){vl:Value}{l:(List Tq)}(rl:(tLs k).Is h0 vl l)(hcd0:k≤100000000)(hcd1:m≤100000000)(hcd2:n≤100000000)(hcd3:l.length≤100000):
    Calls Tryz.prog 207 #[vpl,vl] w0 (Ret w0 h0 (fun h r=>(tLs (k+1)).Is h r (flA pl l l.length))):=by
 refine cb2 23 vpl vl func207 hs ?_
 refine go2 ?_
 refine nB rpl fun b2 cs2 rb2=>?_
 refine j1 ?_
 refine xO 53 9 ?_
 have rl_28:RL (tPt (k+1)) h0 [] ([]:List Tq):=RL.nil
 refine gcL (ι:=Nat×List Tq×Value×List Value×Mem) (fun(i,D,s5_29,cs_30,mi)=>(MLe h0 mi∧(RL (tPt (k+1)) mi cs_30 D∧i≤l.length∧D=flA pl l i),[(1,vl),(2,vP b2 0),(5,s5_29),(6,vI ↑i)],[.gs 53 9 s5_29 D.length cs_30,.var b2 80 cs2],mi,l.length-i)) (0,[],(.slice none 0 0),[],h0) ?_ ?_
 ·
  refine⟨MLe.refl _,?_⟩
  refine⟨rl_28,?_⟩
  exact⟨by omega,rfl⟩
 intro x hx
 obtain⟨i,D,s5_29,cs_30,mi⟩:=x
 dsimp only at hx
 obtain⟨hmmi,hinv⟩:=hx
 refine yR ?_
 obtain⟨rl_31,hinv⟩:=hinv
 obtain⟨hi1,hD⟩:=hinv
 have hfl:D.length=i:=by rw[hD];exact wR _ _
 refine go9 ?_
 refine cnd (fun hc10=>?_) fun hc10=>?_
 ·
  refine go4 ?_
  refine jI (A:=[]) 10 [] [(0,.q),(1,.q),(2,.q),(3,.q),(4,.q),(5,.q),(6,.c),(7,.c),(8,.c),(9,.q)] kQ nX (by kernel_rfl) nX ?_
  refine go1 ?_
  refine wX rfl (xB zGQ pH rb2) fun v14 r14=>?_
  refine go2 ?_
  refine wX rfl (xI zT i underlying46 zW rl) fun v17 r17=>(wX rfl (xA zW r17) fun v18 r18=>?_)
  refine w_c rfl (sC (ev2 rfl rfl) call208 (fun w hs=>zF1 hs r14 r18 oM oM) fun v19 h1 hh1 r19=>?_)
  refine w_c rfl (kD (fun X=>zU (ρ:=(tPt (k+1))) (m:=1) (xs:=[cE pl (l.getD i zT)]) (ps':=[(0,_)]) underlying46 xC rfl rfl rfl (wG (yE oM)) e2z (zJ rfl (Pc.arr (Pc.here _) zT 0 dC) r19 zX) (show 1*9≤16777216 from by decide) nP) rfl ?_)
  intro v20 q20 hq20
  obtain⟨cs20,rfl,rl20⟩:=hq20
  refine w_c rfl (vD (A:=[]) (ρ:=(tPt (k+1))) rl20 dK ?_)
  intro h2 hh2 rs_32
  replace rl_31:=rl_31.mono (hh1.trans hh2)
  refine sH (A:=[]) (fun X=>yD (ρ:=(tPt (k+1))) (bytes:=168) underlying46 xC rfl rfl rfl rfl nP rfl rfl rl_31 rs_32 bO bO) rfl (vH (by first|(simp;done)|grind)) ?_
  intro v21 q21 hq21
  obtain⟨cs21,rfl,rl21⟩:=hq21
  refine go9 ?_
  refine gqL ((i+1),(D++[cE pl (l.getD i zT)]),v21,cs21,h2) ?_ ?_
  ·
   refine⟨((hmmi.trans hh1).trans hh2),?_⟩
   refine⟨rl21,?_⟩
   exact⟨by omega,by rw[hD];rfl⟩
  omega
 have ei:i=l.length:=by omega
 refine uT ?_
 refine wV (A:=[]) (ρ:=(tPt (k+1))) rl_31 ?_
 intro h1 hh1 rs_33
 refine zD rfl rfl ?_
 exact(Rp.Is.cast rs_33 (by rw[hD,ei]))
theorem w7{w0:World}{h0:Mem}(hs:MLe h0 (mem w0)){m n k:Nat}{vpl:Value}{pl:Pq}(rpl:(tPl m n).Is h0 vpl pl){vL:Value}{L:(List (List Tq))}(rL:(tLL k).Is h0 vL L)(hcd0:k≤100000000)(hcd1:m≤100000000)(hcd2:n≤100000000)(hcd3:L.length≤100000)(hcd4:∀l,l<L.length→(L.getD l []).length≤10000):
    Calls Tryz.prog 198 #[vpl,vL] w0 (Ret w0 h0 (fun h r=>(tLL (k+1)).Is h r (flL pl L L.length))):=by
 refine cb2 23 vpl vL func198 hs ?_
 refine go2 ?_
 refine nB rpl fun b2 cs2 rb2=>?_
 refine j1 ?_
 refine xO 46 1 ?_
 have rl_34:RL (tLs (k+1)) h0 [] ([]:List (List Tq)):=RL.nil
 refine gcL (ι:=Nat×List (List Tq)×Value×List Value×Mem) (fun(i,D,s5_35,cs_36,mi)=>(MLe h0 mi∧(RL (tLs (k+1)) mi cs_36 D∧i≤L.length∧D=flL pl L i),[(1,vL),(2,vP b2 0),(5,s5_35),(6,vI ↑i)],[.gs 46 1 s5_35 D.length cs_36,.var b2 80 cs2],mi,L.length-i)) (0,[],(.slice none 0 0),[],h0) ?_ ?_
 ·
  refine⟨MLe.refl _,?_⟩
  refine⟨rl_34,?_⟩
  exact⟨by omega,rfl⟩
 intro x hx
 obtain⟨i,D,s5_35,cs_36,mi⟩:=x
 dsimp only at hx
 obtain⟨hmmi,hinv⟩:=hx
 refine yR ?_
 obtain⟨rl_37,hinv⟩:=hinv
 obtain⟨hi1,hD⟩:=hinv
 have hfl:D.length=i:=by rw[hD];exact wR _ _
 refine go9 ?_
 refine cnd (fun hc10=>?_) fun hc10=>?_
 ·
  refine go4 ?_
  refine jI (A:=[]) 10 [] [(0,.q),(1,.q),(2,.q),(3,.q),(4,.q),(5,.q),(6,.c),(7,.c),(8,.c),(9,.q)] kQ nX (by kernel_rfl) nX ?_
  refine go1 ?_
  refine wX rfl (xB zGQ pH rb2) fun v14 r14=>?_
  refine go2 ?_
  refine wX rfl (xI [] i underlying115 uW rL) fun v17 r17=>(wX rfl (xA uW r17) fun v18 r18=>?_)
  refine w_c rfl (sC (ev2 rfl rfl) call207 (fun w hs=>zA5 hs r14 r18 (by first|omega|exact Nat.le_trans (hcd4 i oM) dC) (by first|omega|exact Nat.le_trans (hcd4 i oM) dC) (by first|omega|exact Nat.le_trans (hcd4 i oM) dC) (by first|omega|exact Nat.le_trans (hcd4 i oM) dC)) fun v19 h1 hh1 r19=>?_)
  refine w_c rfl (kD (fun X=>zU (ρ:=(tLs (k+1))) (m:=1) (xs:=[flA pl (L.getD i []) (L.getD i []).length]) (ps':=[(0,_)]) underlying115 zAB rfl rfl rfl qQ e2z (zJ rfl (Pc.arr (Pc.here _) [] 0 dC) r19 zX) (show 1*1≤16777216 from by decide) nP) rfl ?_)
  intro v20 q20 hq20
  obtain⟨cs20,rfl,rl20⟩:=hq20
  refine w_c rfl (vD (A:=[]) (ρ:=(tLs (k+1))) rl20 dK ?_)
  intro h2 hh2 rs_38
  replace rl_37:=rl_37.mono (hh1.trans hh2)
  refine sH (A:=[]) (fun X=>yD (ρ:=(tLs (k+1))) (bytes:=24) underlying115 zAB rfl rfl rfl rfl nP rfl rfl rl_37 rs_38 bO bO) rfl (vH (by first|(simp;done)|grind)) ?_
  intro v21 q21 hq21
  obtain⟨cs21,rfl,rl21⟩:=hq21
  refine go9 ?_
  refine gqL ((i+1),(D++[flA pl (L.getD i []) (L.getD i []).length]),v21,cs21,h2) ?_ ?_
  ·
   refine⟨((hmmi.trans hh1).trans hh2),?_⟩
   refine⟨rl21,?_⟩
   exact⟨by omega,by rw[hD];rfl⟩
  omega
 have ei:i=L.length:=by omega
 refine uT ?_
 refine wV (A:=[]) (ρ:=(tLs (k+1))) rl_37 ?_
 intro h1 hh1 rs_39
 refine zD rfl rfl ?_
 exact(Rp.Is.cast rs_39 (by rw[hD,ei]))
theorem zHX{w0:World}{h0:Mem}(hs:MLe h0 (mem w0)){k m n j:Nat}{vs:Value}{s:Sq}(rs:(tSd k m n j).Is h0 vs s){f:Nat}(hcd0:k≤1000)(hcd1:m≤100000)(hcd2:n≤100000)(hcd3:s.1.length≤100000)(hcd4:∀f,f<s.2.1.length→(s.2.1.getD f zA).2.1.length≤10000∧∀l,l<(s.2.1.getD f zA).2.1.length→((s.2.1.getD f zA).2.1.getD l []).length≤10000)(hcd5:f<s.2.1.length)(hcd6:s.2.1.length≤100000):
    Calls Tryz.prog 176 #[vs,vI ↑f] w0 (Ret w0 h0 (fun h r=>(tLL (k+2)).Is h r (rA s f))):=by
 have hcl:=zU6 (s:=s) (f:=↑f) hcd4
 refine cb2 15 vs (vI ↑f) func176 hs ?_
 refine go2 ?_
 refine nB rs fun b2 cs2 rb2=>?_
 refine go4 ?_
 refine gD 11 (qq 0 8 [(8,.c),(9,.c),(10,.q)]) (by kernel_rfl) ?_
 refine go1 ?_
 refine wX rfl (xB tG (Pc.snd (Pc.fst pH)) rb2) fun v6 r6=>?_
 refine go1 ?_
 refine wX rfl (xI zA f underlying47 tJ r6) fun v8 r8=>(wX rfl (xF underlying83 sizeOf80 (Pc.fst pH) r8) fun v9 r9=>(wX rfl (xA zGQ r9) fun v10 r10=>(wX rfl (xB gH pH rb2) fun v11 r11=>?_)))
 refine go1 ?_
 refine w_c rfl (sC (ev2 rfl rfl) call189 (fun w hs=>zAV hs r11 oM oM (by first|omega|exact hcd4) (by first|omega|exact hcd4)) fun v13 h1 hh1 r13=>?_)
 refine w_c rfl (sC (ev2 rfl rfl) call198 (fun w hs=>w7 hs r10.up r13 (by first|omega|exact hcl.1|exact fun l hl=>hcl.2 l) (by first|omega|exact hcl.1|exact fun l hl=>hcl.2 l) (by first|omega|exact hcl.1|exact fun l hl=>hcl.2 l) (by first|omega|exact hcl.1|exact fun l hl=>hcl.2 l) (by first|omega|exact hcl.1|exact fun l hl=>hcl.2 l)) fun v14 h2 hh2 r14=>?_)
 replace r14:=Rp.Is.le r14 (Le.s (Le.s (Le.t (Le.q (l:=k+2) oM))))
 refine go4 ?_
 refine zD rfl rfl ?_
 exact r14
theorem iY{w0:World}{h0:Mem}(hs:MLe h0 (mem w0)){kind:Int}(hkind1:-9223372036854775808≤kind)(hkind2:kind<9223372036854775808){face:Int}(hface1:-9223372036854775808≤face)(hface2:face<9223372036854775808){loop:Int}(hloop1:-9223372036854775808≤loop)(hloop2:loop<9223372036854775808){edge:Int}(hedge1:-9223372036854775808≤edge)(hedge2:edge<9223372036854775808):
    Calls Tryz.prog 188 #[vI kind,vI face,vI loop,vI edge] w0 (Ret w0 h0 (fun h r=>tE5.Is h r (dg kind face loop edge))):=by
 refine kK (n:=14) (e:=[(0,vI kind),(1,vI face),(2,vI loop),(3,vI edge)]) (vs:=[vI kind,vI face,vI loop,vI edge]) func188 rfl rfl (bL rfl) hs e4z ?_
 refine go2 ?_
 refine nA (ρ:=tE5) (X:=e50) qT (yJ wK (yJ wK (yJ wK (yJ wK wK)))) fun b8 cs8 rb8=>?_
 refine go8 ?_
 refine lX (xV (ρ:=tE5) (xR (ps':=[(0,_),(1,_),(2,_),(3,_),(4,_)]) underlying200 qT rfl rfl (s0 underlying200) e10 rfl (yJ wK (yJ wK (yJ wK (yJ wK wK)))) (zJ rfl (Pc.fst (Pc.here _)) (jB oM oM) (zJ rfl (Pc.snd (Pc.fst (Pc.here _))) (jB dC dC) (zJ rfl (Pc.snd (Pc.snd (Pc.fst (Pc.here _)))) (jB oM oM) (zJ rfl (Pc.snd (Pc.snd (Pc.snd (Pc.fst (Pc.here _))))) (jB oM oM) (zJ rfl (Pc.snd (Pc.snd (Pc.snd (Pc.snd (Pc.here _))))) (jB oM oM) zX))))))) fun v13 r13=>(zO (A:=[]) (uB sizeOf200 pH rb8 r13) fun cs_40 rb_41=>?_)
 refine go3 ?_
 refine wH (jO (t:=8) zZH mh0 rfl rb_41) ?_
 intro w_42 hvw_42 rr_43
 refine yA (fun E S=>zS rfl hvw_42 E S) ?_
 exact rr_43
end Go.Proofs.YtboaboflnckgoaaGreat
