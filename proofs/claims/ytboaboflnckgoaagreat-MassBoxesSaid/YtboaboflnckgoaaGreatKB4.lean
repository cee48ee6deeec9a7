/- Texts that the proof needs, part 4. -/
import Derived.Test.YtboaboflnckgoaaGreatKB3
namespace Go.Proofs.YtboaboflnckgoaaGreat
open Bk Go Tryz
set_option linter.unusedVariables false
set_option linter.unusedSimpArgs false
set_option maxRecDepth 10000
set_option maxHeartbeats 1000000
attribute [local irreducible] GL GC GQ W OpV
theorem zFY{w0:World}{h0:Mem}(hs:MLe h0 (mem w0)){qa:Rat}{vna vda:Value}(hna:Us .u32 h0 vna (zB qa.num.natAbs))(hda:Us .u32 h0 vda (zB (xT qa.den))){qb:Rat}{vnb vdb:Value}(hnb:Us .u32 h0 vnb (zB qb.num.natAbs))(hdb:Us .u32 h0 vdb (zB (xT qb.den)))(hqa:lq qa≤100000000000)(hqb:lq qb≤100000000000):
    Calls Tryz.prog 70 #[.agg #[vB (qa.num<0),vna,vda],.agg #[vB (qb.num<0),vnb,vdb]] w0 (Ret w0 h0 (fun h r=>wI h r (qa+qb))):=by
 have hlna:=wE qa
 have hlda:=wO qa
 have hlDa:=wB qa
 have hlnb:=wE qb
 have hldb:=wO qb
 have hlDb:=wB qb
 refine cb2 10 (.agg #[vB (qa.num<0),vna,vda]) (.agg #[vB (qb.num<0),vnb,vdb]) func70 hs ?_
 refine go2 ?_
 refine zF (xD (cs:=[_,_,_]) rfl rfl) rfl rfl rfl ?_
 intro v2 r2 hr2
 obtain⟨b2,rfl,rfl⟩:=hr2
 refine zF (xD (cs:=[_,_,_]) rfl rfl) rfl rfl rfl ?_
 intro v3 r3 hr3
 obtain⟨b3,rfl,rfl⟩:=hr3
 refine zF (wA (cs:=[vB ((0:Rat).num<0),.slice none 0 0,.slice none 0 0]) yN rfl (by simp only[zb];rfl)) rfl rfl rfl ?_
 intro v4 r4 hr4
 obtain⟨b4,rfl,rfl⟩:=hr4
 refine go8 ?_
 refine cL (ev3 rfl rfl rfl) call115 (fun w hs=>zHP hs hna hda hnb hdb oM oM) fun v9 h1 hh1 hr9=>?_
 obtain⟨vn9,vd9,rfl,hn9,hd9⟩:=hr9
 have hlq9:=qZ qa (sgd (qb.num<0) qb)
 have hls9:=zRV (qb.num<0) qb
 refine xO (A:=[]) (r':=.var b4 26 [vB ((qa+sgd (qb.num<0) qb).num<0),vn9,vd9]) (zG (k:=0) (cs:=[_,_,_]) (vs:=[_,_,_]) rfl rfl rfl (ocr rfl (ocu hn9 (ocu hd9 oc0))) zU (bL rfl)) rfl rfl rfl ?_
 refine go3 ?_
 refine yE (fun E S=>zP rfl (xE (cs:=[_,_,_]) mh0 underlying26 rfl zU rfl) E S) ?_
 rw[y5] at hn9 hd9 ⊢
 exact⟨_,_,rfl,hn9,hd9⟩
theorem zUF{w0:World}{h0:Mem}(hs:MLe h0 (mem w0)){qa:Rat}{vna vda:Value}(hna:Us .u32 h0 vna (zB qa.num.natAbs))(hda:Us .u32 h0 vda (zB (xT qa.den))){qb:Rat}{vnb vdb:Value}(hnb:Us .u32 h0 vnb (zB qb.num.natAbs))(hdb:Us .u32 h0 vdb (zB (xT qb.den)))(hqa:lq qa≤100000000000)(hqb:lq qb≤100000000000):
    Calls Tryz.prog 179 #[.agg #[vB (qa.num<0),vna,vda],.agg #[vB (qb.num<0),vnb,vdb]] w0 (Ret w0 h0 (fun h r=>wI h r (qa-qb))):=by
 have hlna:=wE qa
 have hlda:=wO qa
 have hlDa:=wB qa
 have hlnb:=wE qb
 have hldb:=wO qb
 have hlDb:=wB qb
 refine cb2 11 (.agg #[vB (qa.num<0),vna,vda]) (.agg #[vB (qb.num<0),vnb,vdb]) func179 hs ?_
 refine go2 ?_
 refine zF (xD (cs:=[_,_,_]) rfl rfl) rfl rfl rfl ?_
 intro v2 r2 hr2
 obtain⟨b2,rfl,rfl⟩:=hr2
 refine zF (xD (cs:=[_,_,_]) rfl rfl) rfl rfl rfl ?_
 intro v3 r3 hr3
 obtain⟨b3,rfl,rfl⟩:=hr3
 refine zF (wA (cs:=[vB ((0:Rat).num<0),.slice none 0 0,.slice none 0 0]) yN rfl (by simp only[zb];rfl)) rfl rfl rfl ?_
 intro v4 r4 hr4
 obtain⟨b4,rfl,rfl⟩:=hr4
 refine go9 ?_
 refine cL (ev3 rfl rfl rfl) call115 (fun w hs=>zHP hs hna hda hnb hdb oM oM) fun v10 h1 hh1 hr10=>?_
 obtain⟨vn10,vd10,rfl,hn10,hd10⟩:=hr10
 have hlq10:=qZ qa (sgd (¬(qb.num<0)) qb)
 have hls10:=zRV (¬(qb.num<0)) qb
 refine xO (A:=[]) (r':=.var b4 26 [vB ((qa+sgd (¬(qb.num<0)) qb).num<0),vn10,vd10]) (zG (k:=0) (cs:=[_,_,_]) (vs:=[_,_,_]) rfl rfl rfl (ocr rfl (ocu hn10 (ocu hd10 oc0))) zU (bL rfl)) rfl rfl rfl ?_
 refine go3 ?_
 refine yE (fun E S=>zP rfl (xE (cs:=[_,_,_]) mh0 underlying26 rfl zU rfl) E S) ?_
 rw[zT5,←Rat.sub_eq_add_neg] at hn10 hd10 ⊢
 exact⟨_,_,rfl,hn10,hd10⟩
theorem zUI{w0:World}{h0:Mem}(hs:MLe h0 (mem w0)){qa:Rat}{vna vda:Value}(hna:Us .u32 h0 vna (zB qa.num.natAbs))(hda:Us .u32 h0 vda (zB (xT qa.den))){qb:Rat}{vnb vdb:Value}(hnb:Us .u32 h0 vnb (zB qb.num.natAbs))(hdb:Us .u32 h0 vdb (zB (xT qb.den)))(hqa:lq qa≤100000000000)(hqb:lq qb≤100000000000):
    Calls Tryz.prog 148 #[.agg #[vB (qa.num<0),vna,vda],.agg #[vB (qb.num<0),vnb,vdb]] w0 (Ret w0 h0 (fun h r=>wI h r (aA qa qb))):=by
 have hlna:=wE qa
 have hlda:=wO qa
 have hlDa:=wB qa
 have hlnb:=wE qb
 have hldb:=wO qb
 have hlDb:=wB qb
 refine cb2 12 (.agg #[vB (qa.num<0),vna,vda]) (.agg #[vB (qb.num<0),vnb,vdb]) func148 hs ?_
 refine go2 ?_
 refine zF (xD (cs:=[_,_,_]) rfl rfl) rfl rfl rfl ?_
 intro v2 r2 hr2
 obtain⟨b2,rfl,rfl⟩:=hr2
 refine zF (xD (cs:=[_,_,_]) rfl rfl) rfl rfl rfl ?_
 intro v3 r3 hr3
 obtain⟨b3,rfl,rfl⟩:=hr3
 refine zF (wA (cs:=[vB ((0:Rat).num<0),.slice none 0 0,.slice none 0 0]) yN rfl (by simp only[zb];rfl)) rfl rfl rfl ?_
 intro v4 r4 hr4
 obtain⟨b4,rfl,rfl⟩:=hr4
 refine go7 ?_
 refine cL (ev2 rfl rfl) call184 (fun w hs=>zL7 hs hnb hdb hna hda oM oM) fun v7 h1 hh1 hr7=>?_
 have hcr7:=jB qb qa
 subst hr7
 refine go3 ?_
 refine cnd (fun hc8=>?_) fun hc8=>?_
 ·
  refine go2 ?_
  replace hnb:=hnb.mono hh1
  replace hdb:=hdb.mono hh1
  refine xO (A:=[_,_]) (r':=.var b2 26 [vB (qb.num<0),vnb,vdb]) (zG (k:=0) (cs:=[_,_,_]) (vs:=[_,_,_]) rfl rfl rfl (ocr rfl (ocu hnb (ocu hdb oc0))) zU (bL rfl)) rfl rfl rfl ?_
  refine go5 ?_
  refine cL (ev1 rfl) call185 (fun w hs=>nR hs hnb hdb (by first|omega|exact Nat.le_trans (wE _) oM) (by first|omega|exact Nat.le_trans (wB _) oM)) fun v11 h2 hh2 hr11=>?_
  obtain⟨vn11,vd11,rfl,hn11,hd11⟩:=hr11
  refine xO (A:=[]) (r':=.var b4 26 [vB ((qb).num<0),vn11,vd11]) (zG (k:=0) (cs:=[_,_,_]) (vs:=[_,_,_]) rfl rfl rfl (ocr rfl (ocu hn11 (ocu hd11 oc0))) zU (bL rfl)) rfl rfl rfl ?_
  refine go3 ?_
  refine yE (fun E S=>zP rfl (xE (cs:=[_,_,_]) mh0 underlying26 rfl zU rfl) E S) ?_
  rw[zYP hc8]
  exact⟨_,_,rfl,hn11,hd11⟩
 refine go5 ?_
 replace hna:=hna.mono hh1
 replace hda:=hda.mono hh1
 refine cL (ev1 rfl) call185 (fun w hs=>nR hs hna hda (by first|omega|exact Nat.le_trans (wE _) oM) (by first|omega|exact Nat.le_trans (wB _) oM)) fun v11 h2 hh2 hr11=>?_
 obtain⟨vn11,vd11,rfl,hn11,hd11⟩:=hr11
 refine xO (A:=[]) (r':=.var b4 26 [vB ((qa).num<0),vn11,vd11]) (zG (k:=0) (cs:=[_,_,_]) (vs:=[_,_,_]) rfl rfl rfl (ocr rfl (ocu hn11 (ocu hd11 oc0))) zU (bL rfl)) rfl rfl rfl ?_
 refine go3 ?_
 refine yE (fun E S=>zP rfl (xE (cs:=[_,_,_]) mh0 underlying26 rfl zU rfl) E S) ?_
 rw[zYQ hc8]
 exact⟨_,_,rfl,hn11,hd11⟩
theorem zUJ{w0:World}{h0:Mem}(hs:MLe h0 (mem w0)){qa:Rat}{vna vda:Value}(hna:Us .u32 h0 vna (zB qa.num.natAbs))(hda:Us .u32 h0 vda (zB (xT qa.den))){qb:Rat}{vnb vdb:Value}(hnb:Us .u32 h0 vnb (zB qb.num.natAbs))(hdb:Us .u32 h0 vdb (zB (xT qb.den)))(hqa:lq qa≤100000000000)(hqb:lq qb≤100000000000):
    Calls Tryz.prog 149 #[.agg #[vB (qa.num<0),vna,vda],.agg #[vB (qb.num<0),vnb,vdb]] w0 (Ret w0 h0 (fun h r=>wI h r (sJ qa qb))):=by
 have hlna:=wE qa
 have hlda:=wO qa
 have hlDa:=wB qa
 have hlnb:=wE qb
 have hldb:=wO qb
 have hlDb:=wB qb
 refine cb2 12 (.agg #[vB (qa.num<0),vna,vda]) (.agg #[vB (qb.num<0),vnb,vdb]) func149 hs ?_
 refine go2 ?_
 refine zF (xD (cs:=[_,_,_]) rfl rfl) rfl rfl rfl ?_
 intro v2 r2 hr2
 obtain⟨b2,rfl,rfl⟩:=hr2
 refine zF (xD (cs:=[_,_,_]) rfl rfl) rfl rfl rfl ?_
 intro v3 r3 hr3
 obtain⟨b3,rfl,rfl⟩:=hr3
 refine zF (wA (cs:=[vB ((0:Rat).num<0),.slice none 0 0,.slice none 0 0]) yN rfl (by simp only[zb];rfl)) rfl rfl rfl ?_
 intro v4 r4 hr4
 obtain⟨b4,rfl,rfl⟩:=hr4
 refine go7 ?_
 refine cL (ev2 rfl rfl) call184 (fun w hs=>zL7 hs hnb hdb hna hda oM oM) fun v7 h1 hh1 hr7=>?_
 have hcr7:=jB qb qa
 subst hr7
 refine go3 ?_
 refine cnd (fun hc8=>?_) fun hc8=>?_
 ·
  refine go2 ?_
  replace hnb:=hnb.mono hh1
  replace hdb:=hdb.mono hh1
  refine xO (A:=[_,_]) (r':=.var b2 26 [vB (qb.num<0),vnb,vdb]) (zG (k:=0) (cs:=[_,_,_]) (vs:=[_,_,_]) rfl rfl rfl (ocr rfl (ocu hnb (ocu hdb oc0))) zU (bL rfl)) rfl rfl rfl ?_
  refine go5 ?_
  refine cL (ev1 rfl) call185 (fun w hs=>nR hs hnb hdb (by first|omega|exact Nat.le_trans (wE _) oM) (by first|omega|exact Nat.le_trans (wB _) oM)) fun v11 h2 hh2 hr11=>?_
  obtain⟨vn11,vd11,rfl,hn11,hd11⟩:=hr11
  refine xO (A:=[]) (r':=.var b4 26 [vB ((qb).num<0),vn11,vd11]) (zG (k:=0) (cs:=[_,_,_]) (vs:=[_,_,_]) rfl rfl rfl (ocr rfl (ocu hn11 (ocu hd11 oc0))) zU (bL rfl)) rfl rfl rfl ?_
  refine go3 ?_
  refine yE (fun E S=>zP rfl (xE (cs:=[_,_,_]) mh0 underlying26 rfl zU rfl) E S) ?_
  rw[zYR hc8]
  exact⟨_,_,rfl,hn11,hd11⟩
 refine go5 ?_
 replace hna:=hna.mono hh1
 replace hda:=hda.mono hh1
 refine cL (ev1 rfl) call185 (fun w hs=>nR hs hna hda (by first|omega|exact Nat.le_trans (wE _) oM) (by first|omega|exact Nat.le_trans (wB _) oM)) fun v11 h2 hh2 hr11=>?_
 obtain⟨vn11,vd11,rfl,hn11,hd11⟩:=hr11
 refine xO (A:=[]) (r':=.var b4 26 [vB ((qa).num<0),vn11,vd11]) (zG (k:=0) (cs:=[_,_,_]) (vs:=[_,_,_]) rfl rfl rfl (ocr rfl (ocu hn11 (ocu hd11 oc0))) zU (bL rfl)) rfl rfl rfl ?_
 refine go3 ?_
 refine yE (fun E S=>zP rfl (xE (cs:=[_,_,_]) mh0 underlying26 rfl zU rfl) E S) ?_
 rw[zYS hc8]
 exact⟨_,_,rfl,hn11,hd11⟩
theorem zUK{w0:World}{h0:Mem}(hs:MLe h0 (mem w0)){n:Int}(hn1:-9223372036854775808≤n)(hn2:n<9223372036854775808):
    Calls Tryz.prog 75 #[vI n] w0 (Ret w0 h0 (fun h r=>wI h r (n:Rat))):=by
 refine cb1 9 (vI n) func75 hs ?_
 refine go2 ?_
 refine zF (wA (cs:=[vB ((0:Rat).num<0),.slice none 0 0,.slice none 0 0]) yN rfl (by simp only[zb];rfl)) rfl rfl rfl ?_
 intro v2 r2 hr2
 obtain⟨b2,rfl,rfl⟩:=hr2
 refine go7 ?_
 refine cL (ev1 rfl) call121 (fun w hs=>zQN hs oM oM) fun v6 h1 hh1 hr6=>?_
 have hlm6:=kR (n:=n) oM oM
 refine cL (vs:=[]) trivial call122 (fun w hs=>zL6 hs) fun v7 h2 hh2 hr7=>?_
 rw[rV] at hr7
 have hlm7:=j2
 replace hr6:=hr6.mono hh2
 refine cL (ev3 rfl rfl rfl) call119 (fun w hs=>jQ hs hr6 hr7 oM oM) fun v8 h3 hh3 hr8=>?_
 try simp only[zC] at hr8
 obtain⟨vn8,vd8,rfl,hn8,hd8⟩:=hr8
 refine xO (A:=[]) (r':=.var b2 26 [vB ((mkRat (sg (n<(0:Int)) (((n).natAbs))) ((1))).num<0),vn8,vd8]) (zG (k:=0) (cs:=[_,_,_]) (vs:=[_,_,_]) rfl rfl rfl (ocr rfl (ocu hn8 (ocu hd8 oc0))) zU (bL rfl)) rfl rfl rfl ?_
 refine go3 ?_
 refine yE (fun E S=>zP rfl (xE (cs:=[_,_,_]) mh0 underlying26 rfl zU rfl) E S) ?_
 rw[zGM] at hn8 hd8 ⊢
 exact⟨_,_,rfl,hn8,hd8⟩
end Go.Proofs.YtboaboflnckgoaaGreat
namespace Go.Proofs.YtboaboflnckgoaaGreat
open Bk Go Tryz
set_option linter.unusedVariables false
set_option linter.unusedSimpArgs false
set_option maxRecDepth 10000
set_option maxHeartbeats 1000000
attribute [local irreducible] GL GC GQ W OpV
theorem zHN{w0:World}{h0:Mem}(hs:MLe h0 (mem w0)){sa:Prop}{ba vna vda:Value}{xa ya:List Nat}(hba:ba=vB sa)(hna:Us .u32 h0 vna xa)(hda:Us .u32 h0 vda ya)(hlx:xa.length≤100000000000)(hly:ya.length≤100000000000):
    Calls Tryz.prog 101 #[.agg #[ba,vna,vda]] w0 (Ret w0 h0 (fun h r=>∃u,r=.tuple #[u,vI (if dV ya=0 then 3 else 0)]∧wI h u (mkRat (sg sa (val xa)) (dV ya)))):=by
 subst hba
 have hlx1:=wR hna.lt
 have hly1:=wR hda.lt
 refine cb1 22 (.agg #[vB sa,vna,vda]) func101 hs ?_
 refine go2 ?_
 refine zF (xD (cs:=[_,_,_]) rfl rfl) rfl rfl rfl ?_
 intro v1 r1 hr1
 obtain⟨b1,rfl,rfl⟩:=hr1
 refine zF (wA (cs:=[vB ((0:Rat).num<0),.slice none 0 0,.slice none 0 0]) yN rfl (by simp only[zb];rfl)) rfl rfl rfl ?_
 intro v2 r2 hr2
 obtain⟨b2,rfl,rfl⟩:=hr2
 refine vO ?_
 refine uO (ι:=Mem) 6 (fun m_=>MLe h0 m_) (fun _=>[(13,vB (((0:Int)<(↑(ya).length:Int))∧((↑(xY (val (ya))):Int)=(0:Int)))),(1,vP b1 0),(2,vP b2 0)]) (fun _=>[.var b2 26 [vB ((0:Rat).num<0),.slice none 0 0,.slice none 0 0],.var b1 26 [vB sa,vna,vda]]) (fun m_=>m_) ?_ ?_
 ·
  refine yB ((0:Int)<(↑(ya).length:Int)) (fun hg=>?_) (fun hg=>?_)
  ·
   refine gT hg rfl ?_
   refine go5 ?_
   refine cL (ev1 rfl) call94 (fun w hs=>pP hs hda oM) fun v11 h1 hh1 hr11=>?_
   try simp only[zC] at hr11
   subst hr11
   refine go4 ?_
   refine zN h1 hh1 ⟨?_,rfl,rfl,trivial⟩ rfl rfl
   exact congrArg some (xM hg)
  refine gF hg rfl ?_
  refine go6 ?_
  refine zN h0 (MLe.refl _) ⟨?_,rfl,rfl,trivial⟩ rfl rfl
  exact congrArg some (xN hg)
 intro mg1_4 hmmg1_4
 refine tJ ?_
 refine go2 ?_
 refine cnd (fun hc13=>?_) fun hc13=>?_
 ·
  refine go2 ?_
  refine gv (yO (ps':=[]) (vs:=[vB ((0:Rat).num<0),.slice none 0 0,.slice none 0 0]) underlying26 yN rfl (vD underlying26) trivial (by simp only[zb];exact vZ)) rfl (xO (A:=[]) (r':=.var b2 26 [vB ((0:Rat).num<0),.slice none 0 0,.slice none 0 0]) (zG (k:=0) (cs:=[_,_,_]) (vs:=[_,_,_]) rfl rfl rfl rfl zU (bL rfl)) rfl rfl rfl ?_)
  refine go5 ?_
  refine yE (fun E S=>vW rfl (xE (cs:=[_,_,_]) mh0 underlying26 rfl zU rfl) (jP rfl) E S) ?_
  have e:=zVU hc13
  rw[e,if_pos rfl,q4]
  exact⟨_,rfl,wI.zero _⟩
 refine go3 ?_
 refine gD 7 (qq 0 5 [(5,.c),(6,.c),(7,.t),(8,.t)]) (by kernel_rfl) ?_
 refine go5 ?_
 refine w_c rfl ?_
 replace hna:=hna.mono hmmg1_4
 replace hda:=hda.mono hmmg1_4
 refine sC (ev1 rfl) call120 (fun w hs=>gR hs hna hda) fun v20 h1 hh1 hr20=>?_
 have hlm20:=zZO (ya)
 refine w_c rfl ?_
 replace hna:=hna.mono hh1
 refine sC (ev3 rfl rfl rfl) call119 (fun w hs=>jQ hs hna hr20 oM oM) fun v21 h2 hh2 hr21=>?_
 try simp only[zC] at hr21
 obtain⟨vn21,vd21,rfl,hn21,hd21⟩:=hr21
 refine kV (A:=[]) (q':=.var b2 26 [vB ((mkRat (sg (sa) (val (xa))) (val (if(ya)=[] then[1] else(ya)))).num<0),vn21,vd21]) rfl (zG (k:=0) (cs:=[_,_,_]) (vs:=[_,_,_]) rfl rfl rfl (ocr rfl (ocu hn21 (ocu hd21 oc0))) zU (bL rfl)) rfl (dR rfl (tH (v:=vI (0)) rfl) rfl ?_)
 refine go3 ?_
 refine yE (fun E S=>vW rfl (xE (cs:=[_,_,_]) mh0 underlying26 rfl zU rfl) (jP rfl) E S) ?_
 rw[if_neg (yBN hc13)]
 rw[zW8] at hn21 hd21 ⊢
 exact⟨_,rfl,_,_,rfl,hn21,hd21⟩
theorem tQ{w0:World}{h0:Mem}(hs:MLe h0 (mem w0)){sa:Prop}{ba vna vda:Value}{xa ya:List Nat}(hba:ba=vB sa)(hna:Us .u32 h0 vna xa)(hda:Us .u32 h0 vda ya):
    Calls Tryz.prog 48 #[.agg #[ba,vna,vda]] w0 (Ret w0 h0 (fun h r=>Us .u32 h r (if ya=[] then[1] else ya))):=by
 subst hba
 have hlx1:=wR hna.lt
 have hly1:=wR hda.lt
 refine cb1 10 (.agg #[vB sa,vna,vda]) func48 hs ?_
 refine go2 ?_
 refine zF (xD (cs:=[_,_,_]) rfl rfl) rfl rfl rfl ?_
 intro v1 r1 hr1
 obtain⟨b1,rfl,rfl⟩:=hr1
 refine uN ?_
 refine cnd (fun hc6=>?_) fun hc6=>?_
 ·
  refine go2 ?_
  refine zF (kQ (kd:=.u32) (p:=1) underlying22 wK rfl rfl rfl) rfl rfl rfl ?_
  intro v7 r7 hr7
  obtain rfl:=hr7
  refine yG (by intro z hz;simp only[List.mem_singleton] at hz;subst hz;decide) ?_
  intro h1 hh1 h9
  refine go5 ?_
  refine zD rfl rfl ?_
  rw[if_pos (zDB.1 hc6)]
  exact h9
 refine vO ?_
 refine zD rfl rfl ?_
 rw[if_neg (fun h=>hc6 (zDB.2 h))]
 exact hda
end Go.Proofs.YtboaboflnckgoaaGreat
namespace Go.Proofs.YtboaboflnckgoaaGreat
open Bk Go Tryz
set_option linter.unusedVariables false
set_option linter.unusedSimpArgs false
set_option maxRecDepth 10000
set_option maxHeartbeats 1000000
attribute [local irreducible] GL GC GQ W OpV
theorem sS{w0:World}{h0:Mem}(hs:MLe h0 (mem w0)){s:Prop}{vn vd:Value}{xs ys:List Nat}(hn:Us .u32 h0 vn xs)(hd:Us .u32 h0 vd ys)(hl:xs.length≤500000000000)(hl':ys.length≤500000000000)(hd0:val ys≠0):
    Calls Tryz.prog 46 #[vB s,vn,vd] w0 (Ret w0 h0 (fun h r=>wI h r (mkRat (sg s (val xs)) (val ys)))):=by
 have hlx:=wR hn.lt
 have hly:=wR hd.lt
 refine cb3 55 (vB s) vn vd func46 hs ?_
 refine go2 ?_
 refine zF (wA (cs:=[vB ((0:Rat).num<0),.slice none 0 0,.slice none 0 0]) yN rfl (by simp only[zb];rfl)) rfl rfl rfl ?_
 intro v6 r6 hr6
 obtain⟨b6,rfl,rfl⟩:=hr6
 refine go5 ?_
 refine cL (ev1 rfl) call91 (fun w hs=>fE hs hn oM) fun v9 h1 hh1 hr9=>?_
 refine go1 ?_
 replace hd:=hd.mono hh1
 refine cL (ev1 rfl) call91 (fun w hs=>fE hs hd oM) fun v11 h2 hh2 hr11=>?_
 replace hr9:=hr9.mono hh2
 refine uN ?_
 refine cnd (fun hc14=>?_) fun hc14=>?_
 ·
  refine go2 ?_
  refine gv (yO (ps':=[]) (vs:=[vB ((0:Rat).num<0),.slice none 0 0,.slice none 0 0]) underlying26 yN rfl (vD underlying26) trivial (by simp only[zb];exact vZ)) rfl (xO (A:=[]) (r':=.var b6 26 [vB ((0:Rat).num<0),.slice none 0 0,.slice none 0 0]) (zG (k:=0) (cs:=[_,_,_]) (vs:=[_,_,_]) rfl rfl rfl rfl zU (bL rfl)) rfl rfl rfl ?_)
  refine go4 ?_
  refine yE (fun E S=>zP rfl (xE (cs:=[_,_,_]) mh0 underlying26 rfl zU rfl) E S) ?_
  have e:val xs=0:=Classical.byContradiction fun e=>by have:=yK.2 e;omega
  rw[e,q5];exact wI.zero _
 have hn0:val xs≠0:=yK.1 oM
 have hg0:Nat.gcd (val xs) (val ys)≠0:=Nat.ne_of_gt (Nat.gcd_pos_of_pos_left _ oM)
 refine go6 ?_
 refine cL (ev2 rfl rfl) call92 (fun w hs=>zUC hs hr9 hr11 oM oM) fun v18 h3 hh3 hr18=>?_
 have hlm18:=iG ((val (xs))) ((val (ys)))
 refine go9 ?_
 refine gU 6 27 (vB (((↑(zB (Nat.gcd ((val (xs))) ((val (ys))))).length:Int)≠(1:Int))∨(((zB (Nat.gcd ((val (xs))) ((val (ys))))).getD (0) 0)≠(1:Nat)))) ?_ ?_
 ·
  refine yB ((↑(zB (Nat.gcd ((val (xs))) ((val (ys))))).length:Int)≠(1:Int)) (fun hg=>?_) (fun hg=>?_)
  ·
   refine gT hg rfl ?_
   refine go6 ?_
   refine gqU ?_
   exact congrArg some (uA hg)
  refine gF hg rfl ?_
  refine go3 ?_
  refine gv (zO (q:=0) (0) underlying22 sizeOf127 rfl rfl hr18 rfl oM) rfl ?_
  refine go3 ?_
  refine gv (fF (k:=.u32) (q:=1) rfl rfl) rfl ?_
  refine go2 ?_
  refine gqU ?_
  exact congrArg some (uC hg)
 refine go2 ?_
 refine cnd (fun hc27=>?_) fun hc27=>?_
 ·
  refine go4 ?_
  replace hr9:=hr9.mono hh3
  refine cL (ev2 rfl rfl) call93 (fun w hs=>zFX hs hr9 hr18 oM oM) fun v31 h4 hh4 hr31=>?_
  obtain⟨q31,r31,rfl,hq31,hr31⟩:=hr31
  have hlm31:=zM (Nat.div_le_self ((val (xs))) ((Nat.gcd ((val (xs))) ((val (ys))))))
  refine vO ?_
  replace hr11:=hr11.mono (hh3.trans hh4)
  replace hr18:=hr18.mono hh4
  refine cL (ev2 rfl rfl) call93 (fun w hs=>zFX hs hr11 hr18 oM oM) fun v38 h5 hh5 hr38=>?_
  obtain⟨q38,r38,rfl,hq38,hr38⟩:=hr38
  have hlm38:=zM (Nat.div_le_self ((val (ys))) ((Nat.gcd ((val (xs))) ((val (ys))))))
  refine sL ?_
  refine gU 6 50 (vB (((↑(zB (((val (ys)))/((Nat.gcd ((val (xs))) ((val (ys))))))).length:Int)=(1:Int))∧(((zB (((val (ys)))/((Nat.gcd ((val (xs))) ((val (ys))))))).getD (0) 0)=(1:Nat)))) ?_ ?_
  ·
   refine yB ((↑(zB (((val (ys)))/((Nat.gcd ((val (xs))) ((val (ys))))))).length:Int)=(1:Int)) (fun hg=>?_) (fun hg=>?_)
   ·
    refine gT hg rfl ?_
    refine go3 ?_
    refine gv (zO (q:=0) (0) underlying22 sizeOf127 rfl rfl hq38 rfl oM) rfl ?_
    refine go3 ?_
    refine gv (gB (k:=.u32) (q:=1) rfl rfl) rfl ?_
    refine go2 ?_
    refine gqU ?_
    exact congrArg some (xM hg)
   refine gF hg rfl ?_
   refine go6 ?_
   refine gqU ?_
   exact congrArg some (xN hg)
  refine go2 ?_
  refine cnd (fun hc50=>?_) fun hc50=>?_
  ·
   refine go9 ?_
   replace hq31:=hq31.mono hh5
   refine gv (yO (ps':=[(0,_),(1,_),(2,_)]) (vs:=[vB s,q31,.slice none 0 0]) underlying26 yN rfl (vD underlying26) e6z (yX (A:=[]) (B:=[_]) (C:=[_,_]) (cs:=[_]) (off:=0) (size:=1) rfl rfl rfl rfl rfl (yX (A:=[_]) (B:=[_]) (C:=[_]) (cs:=[_]) (off:=1) (size:=1) rfl rfl rfl rfl hq31.cells (yX (A:=[_,_]) (B:=[_]) (C:=[]) (cs:=[_]) (off:=2) (size:=1) rfl rfl rfl rfl rfl vZ)))) rfl (xO (A:=[]) (r':=.var b6 26 [vB s,q31,.slice none 0 0]) (zG (k:=0) (cs:=[_,_,_]) (vs:=[_,_,_]) rfl rfl rfl (ocr rfl (ocu hq31 (ocr rfl oc0))) zU (bL rfl)) rfl rfl rfl ?_)
   refine go3 ?_
   refine yE (fun E S=>zP rfl (xE (cs:=[_,_,_]) mh0 underlying26 rfl zU rfl) E S) ?_
   exact wI.fin1 hn0 hd0 hq31 hc50
  refine go7 ?_
  replace hq31:=hq31.mono hh5
  refine gv (yO (ps':=[(0,_),(1,_),(2,_)]) (vs:=[vB s,q31,q38]) underlying26 yN rfl (vD underlying26) e6z (yX (A:=[]) (B:=[_]) (C:=[_,_]) (cs:=[_]) (off:=0) (size:=1) rfl rfl rfl rfl rfl (yX (A:=[_]) (B:=[_]) (C:=[_]) (cs:=[_]) (off:=1) (size:=1) rfl rfl rfl rfl hq31.cells (yX (A:=[_,_]) (B:=[_]) (C:=[]) (cs:=[_]) (off:=2) (size:=1) rfl rfl rfl rfl hq38.cells vZ)))) rfl (xO (A:=[]) (r':=.var b6 26 [vB s,q31,q38]) (zG (k:=0) (cs:=[_,_,_]) (vs:=[_,_,_]) rfl rfl rfl (ocr rfl (ocu hq31 (ocu hq38 oc0))) zU (bL rfl)) rfl rfl rfl ?_)
  refine go3 ?_
  refine yE (fun E S=>zP rfl (xE (cs:=[_,_,_]) mh0 underlying26 rfl zU rfl) E S) ?_
  exact wI.fin hn0 hd0 hq31 hq38 hc50
 replace hr11:=hr11.mono hh3
 refine go8 ?_
 refine gU 6 50 (vB (((↑(zB (val (ys))).length:Int)=(1:Int))∧(((zB (val (ys))).getD (0) 0)=(1:Nat)))) ?_ ?_
 ·
  refine yB ((↑(zB (val (ys))).length:Int)=(1:Int)) (fun hg=>?_) (fun hg=>?_)
  ·
   refine gT hg rfl ?_
   refine go3 ?_
   refine gv (zO (q:=0) (0) underlying22 sizeOf127 rfl rfl hr11 rfl oM) rfl ?_
   refine go3 ?_
   refine gv (gB (k:=.u32) (q:=1) rfl rfl) rfl ?_
   refine go2 ?_
   refine gqU ?_
   exact congrArg some (xM hg)
  refine gF hg rfl ?_
  refine go6 ?_
  refine gqU ?_
  exact congrArg some (xN hg)
 refine go2 ?_
 refine cnd (fun hc50=>?_) fun hc50=>?_
 ·
  refine go9 ?_
  replace hr9:=hr9.mono hh3
  refine gv (yO (ps':=[(0,_),(1,_),(2,_)]) (vs:=[vB s,v9,.slice none 0 0]) underlying26 yN rfl (vD underlying26) e6z (yX (A:=[]) (B:=[_]) (C:=[_,_]) (cs:=[_]) (off:=0) (size:=1) rfl rfl rfl rfl rfl (yX (A:=[_]) (B:=[_]) (C:=[_]) (cs:=[_]) (off:=1) (size:=1) rfl rfl rfl rfl hr9.cells (yX (A:=[_,_]) (B:=[_]) (C:=[]) (cs:=[_]) (off:=2) (size:=1) rfl rfl rfl rfl rfl vZ)))) rfl (xO (A:=[]) (r':=.var b6 26 [vB s,v9,.slice none 0 0]) (zG (k:=0) (cs:=[_,_,_]) (vs:=[_,_,_]) rfl rfl rfl (ocr rfl (ocu hr9 (ocr rfl oc0))) zU (bL rfl)) rfl rfl rfl ?_)
  refine go3 ?_
  refine yE (fun E S=>zP rfl (xE (cs:=[_,_,_]) mh0 underlying26 rfl zU rfl) E S) ?_
  have hg1:=zDH hc27
  exact wI.fin1 hn0 hd0 (by rw[hg1,Nat.div_one];exact hr9) (by rw[hg1,Nat.div_one];exact hc50)
 refine go7 ?_
 replace hr9:=hr9.mono hh3
 refine gv (yO (ps':=[(0,_),(1,_),(2,_)]) (vs:=[vB s,v9,v11]) underlying26 yN rfl (vD underlying26) e6z (yX (A:=[]) (B:=[_]) (C:=[_,_]) (cs:=[_]) (off:=0) (size:=1) rfl rfl rfl rfl rfl (yX (A:=[_]) (B:=[_]) (C:=[_]) (cs:=[_]) (off:=1) (size:=1) rfl rfl rfl rfl hr9.cells (yX (A:=[_,_]) (B:=[_]) (C:=[]) (cs:=[_]) (off:=2) (size:=1) rfl rfl rfl rfl hr11.cells vZ)))) rfl (xO (A:=[]) (r':=.var b6 26 [vB s,v9,v11]) (zG (k:=0) (cs:=[_,_,_]) (vs:=[_,_,_]) rfl rfl rfl (ocr rfl (ocu hr9 (ocu hr11 oc0))) zU (bL rfl)) rfl rfl rfl ?_)
 refine go3 ?_
 refine yE (fun E S=>zP rfl (xE (cs:=[_,_,_]) mh0 underlying26 rfl zU rfl) E S) ?_
 have hg1:=zDH hc27
 exact wI.fin hn0 hd0 (by rw[hg1,Nat.div_one];exact hr9) (by rw[hg1,Nat.div_one];exact hr11) (by rw[hg1,Nat.div_one];exact hc50)
theorem zAA{w0:World}{h0:Mem}(hs:MLe h0 (mem w0)){n:Int}(hn1:-9223372036854775808≤n)(hn2:n<9223372036854775808):
    Calls Tryz.prog 86 #[vI n] w0 (Ret w0 h0 (fun h r=>∃u,r=.tuple #[u,vB (n<0)]∧Us .u32 h u (zB n.natAbs))):=by
 refine cb1 15 (vI n) func86 hs ?_
 refine sL ?_
 refine cnd (fun hc5=>?_) fun hc5=>?_
 ·
  refine go4 ?_
  refine gv (lM rfl oM oM) rfl (gv (iV (p:=(-(n+1)).toNat) (k':=.u64) (W:=18446744073709551616) underlying2 underlying130 rfl rfl (congrArg some (congrArg vI oM)) oM) rfl (gv (fW (k:=.u64) (q:=1) (W:=18446744073709551616) rfl rfl rfl rfl oM) rfl (cL (ev1 rfl) call131 (fun w hs=>iT hs oM) fun v11 h1 hh1 hr11=>?_)))
  refine go6 ?_
  refine vT rfl rfl rfl ?_
  rw[xL hc5,show n.natAbs=(-(n+1)).toNat+1 by omega]
  exact⟨_,rfl,hr11⟩
 refine go5 ?_
 refine gv (iV (p:=n.toNat) (k':=.u64) (W:=18446744073709551616) underlying2 underlying130 rfl rfl (congrArg some (congrArg vI oM)) oM) rfl (cL (ev1 rfl) call131 (fun w hs=>iT hs oM) fun v14 h1 hh1 hr14=>?_)
 refine go5 ?_
 refine vT rfl rfl rfl ?_
 rw[yU hc5,show n.natAbs=n.toNat by omega]
 exact⟨_,rfl,hr14⟩
theorem zNV{w0:World}{h0:Mem}(hs:MLe h0 (mem w0)){n:Int}(hn1:-9223372036854775808≤n)(hn2:n<9223372036854775808){d:Int}(hd1:-9223372036854775808≤d)(hd2:d<9223372036854775808):
    Calls Tryz.prog 49 #[vI n,vI d] w0 (Ret w0 h0 (fun h r=>∃u,r=.tuple #[u,vI (if d=0 then 3 else 0)]∧wI h u (jC n d))):=by
 refine cb2 29 (vI n) (vI d) func49 hs ?_
 refine go2 ?_
 refine zF (wA (cs:=[vB ((0:Rat).num<0),.slice none 0 0,.slice none 0 0]) yN rfl (by simp only[zb];rfl)) rfl rfl rfl ?_
 intro v4 r4 hr4
 obtain⟨b4,rfl,rfl⟩:=hr4
 refine vO ?_
 refine cnd (fun hc11=>?_) fun hc11=>?_
 ·
  refine go2 ?_
  refine gv (yO (ps':=[]) (vs:=[vB ((0:Rat).num<0),.slice none 0 0,.slice none 0 0]) underlying26 yN rfl (vD underlying26) trivial (by simp only[zb];exact vZ)) rfl (xO (A:=[]) (r':=.var b4 26 [vB ((0:Rat).num<0),.slice none 0 0,.slice none 0 0]) (zG (k:=0) (cs:=[_,_,_]) (vs:=[_,_,_]) rfl rfl rfl rfl zU (bL rfl)) rfl rfl rfl ?_)
  refine go5 ?_
  refine yE (fun E S=>vW rfl (xE (cs:=[_,_,_]) mh0 underlying26 rfl zU rfl) (jP rfl) E S) ?_
  rw[if_pos hc11,hc11,zC7]
  exact⟨_,rfl,wI.zero _⟩
 have hda:d.natAbs≠0:=by omega
 refine go5 ?_
 refine cL (ev1 rfl) call86 (fun w hs=>zAA hs oM oM) fun v15 h1 hh1 hr15=>?_
 obtain⟨u15,rfl,hu15⟩:=hr15
 have hlm15:=kR (n:=n) oM oM
 refine vO ?_
 refine cL (ev1 rfl) call86 (fun w hs=>zAA hs oM oM) fun v20 h2 hh2 hr20=>?_
 obtain⟨u20,rfl,hu20⟩:=hr20
 have hlm20:=kR (n:=d) oM oM
 refine uP ?_
 refine gv (fV underlying4 rfl rfl) rfl ?_
 refine go2 ?_
 replace hu15:=hu15.mono hh2
 refine cL (ev3 rfl rfl rfl) call46 (fun w hs=>sS hs hu15 hu20 oM oM (by first|(simp only[zC];omega)|(simp only[zC];first|exact Rat.den_nz _|exact Nat.mul_ne_zero (Rat.den_nz _) (Rat.den_nz _)|exact Nat.one_ne_zero|assumption)|assumption)) fun v28 h3 hh3 hr28=>?_
 try simp only[zC] at hr28
 obtain⟨vn28,vd28,rfl,hn28,hd28⟩:=hr28
 refine xO (A:=[]) (r':=.var b4 26 [vB ((mkRat (sg (¬((n<0)↔(d<0))) (((n).natAbs))) (((d).natAbs))).num<0),vn28,vd28]) (zG (k:=0) (cs:=[_,_,_]) (vs:=[_,_,_]) rfl rfl rfl (ocr rfl (ocu hn28 (ocu hd28 oc0))) zU (bL rfl)) rfl rfl rfl ?_
 refine go4 ?_
 refine yE (fun E S=>vW rfl (xE (cs:=[_,_,_]) mh0 underlying26 rfl zU rfl) (jP rfl) E S) ?_
 rw[if_neg hc11,←zIJ hc11]
 exact⟨_,rfl,_,_,rfl,hn28,hd28⟩
theorem zQA{w0:World}{h0:Mem}(hs:MLe h0 (mem w0)){n:Int}(hn1:-9223372036854775808≤n)(hn2:n<9223372036854775808):
    Calls Tryz.prog 39 #[vI n] w0 (Ret w0 h0 (fun h r=>wI h r (n:Rat))):=by
 refine cb1 13 (vI n) func39 hs ?_
 refine go2 ?_
 refine zF (wA (cs:=[vB ((0:Rat).num<0),.slice none 0 0,.slice none 0 0]) yN rfl (by simp only[zb];rfl)) rfl rfl rfl ?_
 intro v2 r2 hr2
 obtain⟨b2,rfl,rfl⟩:=hr2
 refine go5 ?_
 refine cL (ev1 rfl) call86 (fun w hs=>zAA hs oM oM) fun v7 h1 hh1 hr7=>?_
 obtain⟨u7,rfl,hu7⟩:=hr7
 have hlm7:=kR (n:=n) oM oM
 refine uP ?_
 refine gv (yO (ps':=[(0,_),(1,_)]) (vs:=[vB (n<0),u7,.slice none 0 0]) underlying26 yN rfl (vD underlying26) e4z (yX (A:=[]) (B:=[_]) (C:=[_,_]) (cs:=[_]) (off:=0) (size:=1) rfl rfl rfl rfl rfl (yX (A:=[_]) (B:=[_]) (C:=[_]) (cs:=[_]) (off:=1) (size:=1) rfl rfl rfl rfl hu7.cells vZ))) rfl (xO (A:=[]) (r':=.var b2 26 [vB (n<0),u7,.slice none 0 0]) (zG (k:=0) (cs:=[_,_,_]) (vs:=[_,_,_]) rfl rfl rfl (ocr rfl (ocu hu7 (ocr rfl oc0))) zU (bL rfl)) rfl rfl rfl ?_)
 refine go3 ?_
 refine yE (fun E S=>zP rfl (xE (cs:=[_,_,_]) mh0 underlying26 rfl zU rfl) E S) ?_
 exact wI.int hu7
theorem zEO{w0:World}{h0:Mem}(hs:MLe h0 (mem w0)){n:Int}(hn1:-9223372036854775808≤n)(hn2:n<9223372036854775808){d:Int}(hd1:-9223372036854775808≤d)(hd2:d<9223372036854775808):
    Calls Tryz.prog 10 #[vI n,vI d] w0 (Ret w0 h0 (fun h r=>wI h r (jC n d))):=by
 refine cb2 14 (vI n) (vI d) func10 hs ?_
 refine go2 ?_
 refine zF (wA (cs:=[vB ((0:Rat).num<0),.slice none 0 0,.slice none 0 0]) yN rfl (by simp only[zb];rfl)) rfl rfl rfl ?_
 intro v4 r4 hr4
 obtain⟨b4,rfl,rfl⟩:=hr4
 refine go6 ?_
 refine cL (ev2 rfl rfl) call49 (fun w hs=>zNV hs oM oM oM oM) fun v10 h1 hh1 hr10=>?_
 obtain⟨_,rfl,vn10,vd10,rfl,hn10,hd10⟩:=hr10
 have hlq10:=zBY (n:=n) (d:=d) oM oM oM oM
 refine go3 ?_
 refine zF (wA (cs:=[vB ((0:Rat).num<0),.slice none 0 0,.slice none 0 0]) yN rfl (by simp only[zb];rfl)) rfl rfl rfl ?_
 intro v5 r5 hr5
 obtain⟨b5,rfl,rfl⟩:=hr5
 refine xO (A:=[]) (r':=.var b5 26 [vB ((jC n d).num<0),vn10,vd10]) (zG (k:=0) (cs:=[_,_,_]) (vs:=[_,_,_]) rfl rfl rfl (ocr rfl (ocu hn10 (ocu hd10 oc0))) zU (bL rfl)) rfl rfl rfl ?_
 refine go6 ?_
 refine xO (A:=[_]) (r':=.var b4 26 [vB ((jC n d).num<0),vn10,vd10]) (zG (k:=0) (cs:=[_,_,_]) (vs:=[_,_,_]) rfl rfl rfl (ocr rfl (ocu hn10 (ocu hd10 oc0))) zU (bL rfl)) rfl rfl rfl ?_
 refine go3 ?_
 refine yE (fun E S=>zP rfl (xE (cs:=[_,_,_]) mh1 underlying26 rfl zU rfl) E S) ?_
 exact⟨_,_,rfl,hn10,hd10⟩
theorem zNU{w0:World}{h0:Mem}(hs:MLe h0 (mem w0)){qa:Rat}{vna vda:Value}(hna:Us .u32 h0 vna (zB qa.num.natAbs))(hda:Us .u32 h0 vda (zB (xT qa.den))){qb:Rat}{vnb vdb:Value}(hnb:Us .u32 h0 vnb (zB qb.num.natAbs))(hdb:Us .u32 h0 vdb (zB (xT qb.den)))(hqa:lq qa≤100000000000)(hqb:lq qb≤100000000000):
    Calls Tryz.prog 15 #[.agg #[vB (qa.num<0),vna,vda],.agg #[vB (qb.num<0),vnb,vdb]] w0 (Ret w0 h0 (fun _ r=>r=vB (qa=qb))):=by
 have hlna:=wE qa
 have hlda:=wO qa
 have hlDa:=wB qa
 have hlnb:=wE qb
 have hldb:=wO qb
 have hlDb:=wB qb
 refine cb2 26 (.agg #[vB (qa.num<0),vna,vda]) (.agg #[vB (qb.num<0),vnb,vdb]) func15 hs ?_
 refine go2 ?_
 refine zF (xD (cs:=[_,_,_]) rfl rfl) rfl rfl rfl ?_
 intro v2 r2 hr2
 obtain⟨b2,rfl,rfl⟩:=hr2
 refine zF (xD (cs:=[_,_,_]) rfl rfl) rfl rfl rfl ?_
 intro v3 r3 hr3
 obtain⟨b3,rfl,rfl⟩:=hr3
 refine go9 ?_
 refine gv (oQ underlying4 rfl rfl) rfl ?_
 refine uO (ι:=Mem) 8 (fun m_=>MLe h0 m_) (fun _=>[(17,vB (((qa.num<0)↔(qb.num<0))∧((tD (qa.num.natAbs) (qb.num.natAbs))=(0:Int)))),(2,vP b2 0),(3,vP b3 0)]) (fun _=>[.var b3 26 [vB (qb.num<0),vnb,vdb],.var b2 26 [vB (qa.num<0),vna,vda]]) (fun m_=>m_) ?_ ?_
 ·
  refine yB ((qa.num<0)↔(qb.num<0)) (fun hg=>?_) (fun hg=>?_)
  ·
   refine gT hg rfl ?_
   refine go9 ?_
   refine cL (ev2 rfl rfl) call56 (fun w hs=>nQ hs hna hnb) fun v15 h1 hh1 hr15=>?_
   subst hr15
   refine go4 ?_
   refine zN h1 hh1 ⟨?_,rfl,rfl,trivial⟩ rfl rfl
   exact congrArg some (xM hg)
  refine gF hg rfl ?_
  refine go8 ?_
  refine zN h0 (MLe.refl _) ⟨?_,rfl,rfl,trivial⟩ rfl rfl
  exact congrArg some (xN hg)
 intro mg1_5 hmmg1_5
 refine tJ ?_
 refine uO (ι:=Mem) 8 (fun m_=>MLe mg1_5 m_) (fun _=>[(25,vB ((((qa.num<0)↔(qb.num<0))∧((tD (qa.num.natAbs) (qb.num.natAbs))=(0:Int)))∧((tD ((xT qa.den)) ((xT qb.den)))=(0:Int))))]) (fun _=>[.var b3 26 [vB (qb.num<0),vnb,vdb],.var b2 26 [vB (qa.num<0),vna,vda]]) (fun m_=>m_) ?_ ?_
 ·
  refine yB (((qa.num<0)↔(qb.num<0))∧((tD (qa.num.natAbs) (qb.num.natAbs))=(0:Int))) (fun hg=>?_) (fun hg=>?_)
  ·
   refine gT hg rfl ?_
   refine go9 ?_
   replace hda:=hda.mono hmmg1_5
   replace hdb:=hdb.mono hmmg1_5
   refine cL (ev2 rfl rfl) call56 (fun w hs=>nQ hs hda hdb) fun v23 h1 hh1 hr23=>?_
   subst hr23
   refine go4 ?_
   refine zN h1 hh1 ⟨?_,trivial⟩ rfl rfl
   exact congrArg some (xM hg)
  refine gF hg rfl ?_
  refine go8 ?_
  refine zN mg1_5 (MLe.refl _) ⟨?_,trivial⟩ rfl rfl
  exact congrArg some (xN hg)
 intro mg1_13 hmmg1_13
 refine tJ ?_
 refine go4 ?_
 refine zD rfl rfl ?_
 exact fL zSQ
theorem zAB{w0:World}{h0:Mem}(hs:MLe h0 (mem w0)){qa:Rat}{vna vda:Value}(hna:Us .u32 h0 vna (zB qa.num.natAbs))(hda:Us .u32 h0 vda (zB (xT qa.den)))(hqa:lq qa≤100000000000):
    Calls Tryz.prog 17 #[.agg #[vB (qa.num<0),vna,vda]] w0 (Ret w0 h0 (fun _ r=>r=vI (xH qa))):=by
 have hlna:=wE qa
 have hlda:=wO qa
 have hlDa:=wB qa
 refine cb1 9 (.agg #[vB (qa.num<0),vna,vda]) func17 hs ?_
 refine go2 ?_
 refine zF (xD (cs:=[_,_,_]) rfl rfl) rfl rfl rfl ?_
 intro v1 r1 hr1
 obtain⟨b1,rfl,rfl⟩:=hr1
 refine uN ?_
 refine cnd (fun hc6=>?_) fun hc6=>?_
 ·
  refine go7 ?_
  refine zD rfl rfl ?_
  rw[aY (pO hc6)]
 refine go9 ?_
 refine cnd (fun hc8=>?_) fun hc8=>?_
 ·
  refine go7 ?_
  refine zD rfl rfl ?_
  rw[y0 hc8]
 refine go8 ?_
 refine zD rfl rfl ?_
 rw[z9 (zCZ hc6) hc8]
theorem zHK{w0:World}{h0:Mem}(hs:MLe h0 (mem w0)){qa:Rat}{vna vda:Value}(hna:Us .u32 h0 vna (zB qa.num.natAbs))(hda:Us .u32 h0 vda (zB (xT qa.den)))(hqa:lq qa≤100000000000):
    Calls Tryz.prog 31 #[.agg #[vB (qa.num<0),vna,vda]] w0 (Ret w0 h0 (fun h r=>wI h r (-qa))):=by
 have hlna:=wE qa
 have hlda:=wO qa
 have hlDa:=wB qa
 refine cb1 14 (.agg #[vB (qa.num<0),vna,vda]) func31 hs ?_
 refine go2 ?_
 refine zF (xD (cs:=[_,_,_]) rfl rfl) rfl rfl rfl ?_
 intro v1 r1 hr1
 obtain⟨b1,rfl,rfl⟩:=hr1
 refine zF (wA (cs:=[vB ((0:Rat).num<0),.slice none 0 0,.slice none 0 0]) yN rfl (by simp only[zb];rfl)) rfl rfl rfl ?_
 intro v2 r2 hr2
 obtain⟨b2,rfl,rfl⟩:=hr2
 refine go7 ?_
 refine gU 6 11 (vB ((¬(qa.num<0))∧((0:Int)<(↑(zB qa.num.natAbs).length:Int)))) ?_ ?_
 ·
  refine yB (¬(qa.num<0)) (fun hg=>?_) (fun hg=>?_)
  ·
   refine gT hg rfl ?_
   refine vO ?_
   refine gqU ?_
   exact congrArg some (xM hg)
  refine gF hg rfl ?_
  refine go6 ?_
  refine gqU ?_
  exact congrArg some (xN hg)
 refine go1 ?_
 refine xO (A:=[_]) (r':=.var b1 26 [vB ((¬(qa.num<0))∧((0:Int)<(↑(zB qa.num.natAbs).length:Int))),vna,vda]) (zG (k:=0) (cs:=[_,_,_]) (vs:=[_]) rfl rfl rfl rfl zPU (bL rfl)) rfl rfl rfl ?_
 refine go5 ?_
 refine xO (A:=[]) (r':=.var b2 26 [vB ((¬(qa.num<0))∧((0:Int)<(↑(zB qa.num.natAbs).length:Int))),vna,vda]) (zG (k:=0) (cs:=[_,_,_]) (vs:=[_,_,_]) rfl rfl rfl (ocr rfl (ocu hna (ocu hda oc0))) zU (bL rfl)) rfl rfl rfl ?_
 refine go3 ?_
 refine yE (fun E S=>zP rfl (xE (cs:=[_,_,_]) mh0 underlying26 rfl zU rfl) E S) ?_
 exact wI.negB hna hda
theorem zQC{w0:World}{h0:Mem}(hs:MLe h0 (mem w0)){qa:Rat}{vna vda:Value}(hna:Us .u32 h0 vna (zB qa.num.natAbs))(hda:Us .u32 h0 vda (zB (xT qa.den)))(hqa:lq qa≤100000000000):
    Calls Tryz.prog 29 #[.agg #[vB (qa.num<0),vna,vda]] w0 (Ret w0 h0 (fun h r=>wI h r (dO qa))):=by
 have hlna:=wE qa
 have hlda:=wO qa
 have hlDa:=wB qa
 refine cb1 5 (.agg #[vB (qa.num<0),vna,vda]) func29 hs ?_
 refine go2 ?_
 refine zF (xD (cs:=[_,_,_]) rfl rfl) rfl rfl rfl ?_
 intro v1 r1 hr1
 obtain⟨b1,rfl,rfl⟩:=hr1
 refine zF (wA (cs:=[vB ((0:Rat).num<0),.slice none 0 0,.slice none 0 0]) yN rfl (by simp only[zb];rfl)) rfl rfl rfl ?_
 intro v2 r2 hr2
 obtain⟨b2,rfl,rfl⟩:=hr2
 refine go5 ?_
 refine xO (A:=[_]) (r':=.var b1 26 [.bool false,vna,vda]) (zG (k:=0) (cs:=[_,_,_]) (vs:=[_]) rfl rfl rfl rfl zPU (bL rfl)) rfl rfl rfl ?_
 refine go5 ?_
 refine xO (A:=[]) (r':=.var b2 26 [.bool false,vna,vda]) (zG (k:=0) (cs:=[_,_,_]) (vs:=[_,_,_]) rfl rfl rfl (ocr rfl (ocu hna (ocu hda oc0))) zU (bL rfl)) rfl rfl rfl ?_
 refine go3 ?_
 refine yE (fun E S=>zP rfl (xE (cs:=[_,_,_]) mh0 underlying26 rfl zU rfl) E S) ?_
 exact wI.abs hna hda
theorem zCC{w0:World}{h0:Mem}(hs:MLe h0 (mem w0)){qa:Rat}{vna vda:Value}(hna:Us .u32 h0 vna (zB qa.num.natAbs))(hda:Us .u32 h0 vda (zB (xT qa.den))){qb:Rat}{vnb vdb:Value}(hnb:Us .u32 h0 vnb (zB qb.num.natAbs))(hdb:Us .u32 h0 vdb (zB (xT qb.den)))(hqa:lq qa≤100000000000)(hqb:lq qb≤100000000000):
    Calls Tryz.prog 37 #[.agg #[vB (qa.num<0),vna,vda],.agg #[vB (qb.num<0),vnb,vdb]] w0 (Ret w0 h0 (fun h r=>wI h r (qa+qb))):=by
 have hlna:=wE qa
 have hlda:=wO qa
 have hlDa:=wB qa
 have hlnb:=wE qb
 have hldb:=wO qb
 have hlDb:=wB qb
 refine cb2 75 (.agg #[vB (qa.num<0),vna,vda]) (.agg #[vB (qb.num<0),vnb,vdb]) func37 hs ?_
 refine go2 ?_
 refine zF (xD (cs:=[_,_,_]) rfl rfl) rfl rfl rfl ?_
 intro v2 r2 hr2
 obtain⟨b2,rfl,rfl⟩:=hr2
 refine zF (xD (cs:=[_,_,_]) rfl rfl) rfl rfl rfl ?_
 intro v3 r3 hr3
 obtain⟨b3,rfl,rfl⟩:=hr3
 refine zF (wA (cs:=[vB ((0:Rat).num<0),.slice none 0 0,.slice none 0 0]) yN rfl (by simp only[zb];rfl)) rfl rfl rfl ?_
 intro v4 r4 hr4
 obtain⟨b4,rfl,rfl⟩:=hr4
 refine uP ?_
 refine cnd (fun hc15=>?_) fun hc15=>?_
 ·
  refine go3 ?_
  refine xO (A:=[]) (r':=.var b4 26 [vB (qb.num<0),vnb,vdb]) (zG (k:=0) (cs:=[_,_,_]) (vs:=[_,_,_]) rfl rfl rfl (ocr rfl (ocu hnb (ocu hdb oc0))) zU (bL rfl)) rfl rfl rfl ?_
  refine go4 ?_
  refine yE (fun E S=>zP rfl (xE (cs:=[_,_,_]) mh0 underlying26 rfl zU rfl) E S) ?_
  rw[pO hc15,Rat.zero_add]
  exact⟨_,_,rfl,hnb,hdb⟩
 refine uP ?_
 refine cnd (fun hc20=>?_) fun hc20=>?_
 ·
  refine go3 ?_
  refine xO (A:=[]) (r':=.var b4 26 [vB (qa.num<0),vna,vda]) (zG (k:=0) (cs:=[_,_,_]) (vs:=[_,_,_]) rfl rfl rfl (ocr rfl (ocu hna (ocu hda oc0))) zU (bL rfl)) rfl rfl rfl ?_
  refine go4 ?_
  refine yE (fun E S=>zP rfl (xE (cs:=[_,_,_]) mh0 underlying26 rfl zU rfl) E S) ?_
  rw[pO hc20,Rat.add_zero]
  exact⟨_,_,rfl,hna,hda⟩
 refine go3 ?_
 refine gD 12 (qq 0 3 (qq 5 3 [(3,.c),(4,.c),(8,.c),(9,.c),(10,.q),(11,.q)])) (by kernel_rfl) ?_
 refine go6 ?_
 refine w_c rfl (sC (ev1 rfl) call48 (fun w hs=>tQ hs rfl hnb hdb) fun v25 h1 hh1 hr25=>?_)
 rw[uK] at hr25
 refine w_c rfl ?_
 replace hna:=hna.mono hh1
 refine sC (ev2 rfl rfl) call47 (fun w hs=>rX hs hna hr25 oM oM) fun v26 h2 hh2 hr26=>?_
 try simp only[zC] at hr26
 have hlm26:=yC ((qa.num.natAbs)) ((qb.den))
 refine w_c rfl ?_
 replace hna:=hna.mono hh2
 replace hda:=hda.mono (hh1.trans hh2)
 refine sC (ev1 rfl) call48 (fun w hs=>tQ hs rfl hna hda) fun v30 h3 hh3 hr30=>?_
 rw[uK] at hr30
 refine w_c rfl ?_
 replace hnb:=hnb.mono ((hh1.trans hh2).trans hh3)
 refine sC (ev2 rfl rfl) call47 (fun w hs=>rX hs hnb hr30 oM oM) fun v31 h4 hh4 hr31=>?_
 try simp only[zC] at hr31
 have hlm31:=yC ((qb.num.natAbs)) ((qa.den))
 refine go5 ?_
 refine gD 6 [(0,.q),(2,.q),(1,.c),(3,.c),(4,.c),(5,.q)] (by kernel_rfl) ?_
 refine go2 ?_
 refine w_c rfl ?_
 replace hna:=hna.mono (hh3.trans hh4)
 replace hda:=hda.mono (hh3.trans hh4)
 refine sC (ev1 rfl) call48 (fun w hs=>tQ hs rfl hna hda) fun v33 h5 hh5 hr33=>?_
 rw[uK] at hr33
 refine w_c rfl ?_
 replace hnb:=hnb.mono (hh4.trans hh5)
 replace hdb:=hdb.mono ((((hh1.trans hh2).trans hh3).trans hh4).trans hh5)
 refine sC (ev1 rfl) call48 (fun w hs=>tQ hs rfl hnb hdb) fun v35 h6 hh6 hr35=>?_
 rw[uK] at hr35
 refine w_c rfl ?_
 replace hr33:=hr33.mono hh6
 refine sC (ev2 rfl rfl) call47 (fun w hs=>rX hs hr33 hr35 oM oM) fun v36 h7 hh7 hr36=>?_
 try simp only[zC] at hr36
 have hlm36:=yC ((qa.den)) ((qb.den))
 refine vO ?_
 refine gv (oQ underlying4 rfl rfl) rfl ?_
 refine go2 ?_
 refine cnd (fun hc41=>?_) fun hc41=>?_
 ·
  refine go1 ?_
  refine gD 7 (qq 0 4 [(5,.q),(4,.c),(6,.c),(7,.t)]) (by kernel_rfl) ?_
  refine go5 ?_
  refine w_c rfl ?_
  replace hr26:=hr26.mono ((((hh3.trans hh4).trans hh5).trans hh6).trans hh7)
  replace hr31:=hr31.mono ((hh5.trans hh6).trans hh7)
  refine sC (ev2 rfl rfl) call84 (fun w hs=>zUD hs hr26 hr31 oM oM) fun v46 h8 hh8 hr46=>?_
  have hlm46:=uE ((((qa.num.natAbs))*((qb.den)))) ((((qb.num.natAbs))*((qa.den))))
  refine w_c rfl ?_
  replace hr36:=hr36.mono hh8
  refine sC (ev3 rfl rfl rfl) call46 (fun w hs=>sS hs hr46 hr36 oM oM (by first|(simp only[zC];omega)|(simp only[zC];first|exact Rat.den_nz _|exact Nat.mul_ne_zero (Rat.den_nz _) (Rat.den_nz _)|exact Nat.one_ne_zero|assumption)|assumption)) fun v48 h9 hh9 hr48=>?_
  try simp only[zC] at hr48
  obtain⟨vn48,vd48,rfl,hn48,hd48⟩:=hr48
  refine kV (A:=[]) (q':=.var b4 26 [vB ((mkRat (sg (qa.num<0) (((((((qa.num.natAbs))*((qb.den))))+((((qb.num.natAbs))*((qa.den)))))))) (((((qa.den))*((qb.den)))))).num<0),vn48,vd48]) rfl (zG (k:=0) (cs:=[_,_,_]) (vs:=[_,_,_]) rfl rfl rfl (ocr rfl (ocu hn48 (ocu hd48 oc0))) zU (bL rfl)) rfl ?_
  refine go4 ?_
  refine yE (fun E S=>zP rfl (xE (cs:=[_,_,_]) mh0 underlying26 rfl zU rfl) E S) ?_
  rw[zTF hc41] at hn48 hd48 ⊢
  exact⟨_,_,rfl,hn48,hd48⟩
 refine go7 ?_
 replace hr26:=hr26.mono ((((hh3.trans hh4).trans hh5).trans hh6).trans hh7)
 replace hr31:=hr31.mono ((hh5.trans hh6).trans hh7)
 refine cL (ev2 rfl rfl) call56 (fun w hs=>nQ hs hr26 hr31) fun v51 h8 hh8 hr51=>?_
 subst hr51
 refine go3 ?_
 refine cnd (fun hc52=>?_) fun hc52=>?_
 ·
  refine go4 ?_
  replace hr26:=hr26.mono hh8
  replace hr31:=hr31.mono hh8
  refine cL (ev2 rfl rfl) call85 (fun w hs=>zL5 hs hr31 hr26 oM) fun v56 h9 hh9 hr56=>?_
  obtain⟨u56,rfl,hu56⟩:=hr56
  have hlm56:=zM (Nat.sub_le ((((qb.num.natAbs))*((qa.den)))) ((((qa.num.natAbs))*((qb.den)))))
  refine sL ?_
  replace hr36:=hr36.mono (hh8.trans hh9)
  refine cL (ev3 rfl rfl rfl) call46 (fun w hs=>sS hs hu56 hr36 oM oM (by first|(simp only[zC];omega)|(simp only[zC];first|exact Rat.den_nz _|exact Nat.mul_ne_zero (Rat.den_nz _) (Rat.den_nz _)|exact Nat.one_ne_zero|assumption)|assumption)) fun v63 h10 hh10 hr63=>?_
  try simp only[zC] at hr63
  obtain⟨vn63,vd63,rfl,hn63,hd63⟩:=hr63
  refine xO (A:=[]) (r':=.var b4 26 [vB ((mkRat (sg (qb.num<0) (((((((qb.num.natAbs))*((qa.den))))-((((qa.num.natAbs))*((qb.den)))))))) (((((qa.den))*((qb.den)))))).num<0),vn63,vd63]) (zG (k:=0) (cs:=[_,_,_]) (vs:=[_,_,_]) rfl rfl rfl (ocr rfl (ocu hn63 (ocu hd63 oc0))) zU (bL rfl)) rfl rfl rfl ?_
  refine go4 ?_
  refine yE (fun E S=>zP rfl (xE (cs:=[_,_,_]) mh0 underlying26 rfl zU rfl) E S) ?_
  rw[zZ3 hc41 (by have:=gH.1 hc52;omega)] at hn63 hd63 ⊢
  exact⟨_,_,rfl,hn63,hd63⟩
 refine go6 ?_
 replace hr26:=hr26.mono hh8
 replace hr31:=hr31.mono hh8
 refine cL (ev2 rfl rfl) call85 (fun w hs=>zL5 hs hr26 hr31 oM) fun v67 h9 hh9 hr67=>?_
 obtain⟨u67,rfl,hu67⟩:=hr67
 have hlm67:=zM (Nat.sub_le ((((qa.num.natAbs))*((qb.den)))) ((((qb.num.natAbs))*((qa.den)))))
 refine sL ?_
 replace hr36:=hr36.mono (hh8.trans hh9)
 refine cL (ev3 rfl rfl rfl) call46 (fun w hs=>sS hs hu67 hr36 oM oM (by first|(simp only[zC];omega)|(simp only[zC];first|exact Rat.den_nz _|exact Nat.mul_ne_zero (Rat.den_nz _) (Rat.den_nz _)|exact Nat.one_ne_zero|assumption)|assumption)) fun v74 h10 hh10 hr74=>?_
 try simp only[zC] at hr74
 obtain⟨vn74,vd74,rfl,hn74,hd74⟩:=hr74
 refine xO (A:=[]) (r':=.var b4 26 [vB ((mkRat (sg (qa.num<0) (((((((qa.num.natAbs))*((qb.den))))-((((qb.num.natAbs))*((qa.den)))))))) (((((qa.den))*((qb.den)))))).num<0),vn74,vd74]) (zG (k:=0) (cs:=[_,_,_]) (vs:=[_,_,_]) rfl rfl rfl (ocr rfl (ocu hn74 (ocu hd74 oc0))) zU (bL rfl)) rfl rfl rfl ?_
 refine go3 ?_
 refine yE (fun E S=>zP rfl (xE (cs:=[_,_,_]) mh0 underlying26 rfl zU rfl) E S) ?_
 rw[zZ4 hc41 (Nat.le_of_not_lt (fun h=>hc52 (gH.2 h)))] at hn74 hd74 ⊢
 exact⟨_,_,rfl,hn74,hd74⟩
theorem zP7{w0:World}{h0:Mem}(hs:MLe h0 (mem w0)){qa:Rat}{vna vda:Value}(hna:Us .u32 h0 vna (zB qa.num.natAbs))(hda:Us .u32 h0 vda (zB (xT qa.den))){qb:Rat}{vnb vdb:Value}(hnb:Us .u32 h0 vnb (zB qb.num.natAbs))(hdb:Us .u32 h0 vdb (zB (xT qb.den)))(hqa:lq qa≤100000000000)(hqb:lq qb≤100000000000):
    Calls Tryz.prog 16 #[.agg #[vB (qa.num<0),vna,vda],.agg #[vB (qb.num<0),vnb,vdb]] w0 (Ret w0 h0 (fun h r=>wI h r (qa-qb))):=by
 have hlna:=wE qa
 have hlda:=wO qa
 have hlDa:=wB qa
 have hlnb:=wE qb
 have hldb:=wO qb
 have hlDb:=wB qb
 refine cb2 9 (.agg #[vB (qa.num<0),vna,vda]) (.agg #[vB (qb.num<0),vnb,vdb]) func16 hs ?_
 refine go2 ?_
 refine zF (xD (cs:=[_,_,_]) rfl rfl) rfl rfl rfl ?_
 intro v2 r2 hr2
 obtain⟨b2,rfl,rfl⟩:=hr2
 refine zF (xD (cs:=[_,_,_]) rfl rfl) rfl rfl rfl ?_
 intro v3 r3 hr3
 obtain⟨b3,rfl,rfl⟩:=hr3
 refine zF (wA (cs:=[vB ((0:Rat).num<0),.slice none 0 0,.slice none 0 0]) yN rfl (by simp only[zb];rfl)) rfl rfl rfl ?_
 intro v4 r4 hr4
 obtain⟨b4,rfl,rfl⟩:=hr4
 refine go3 ?_
 refine gD 4 [(0,.q),(1,.q),(2,.c),(3,.c),(4,.t)] (by kernel_rfl) ?_
 refine go2 ?_
 refine w_c rfl (sC (ev1 rfl) call31 (fun w hs=>zHK hs hnb hdb oM) fun v7 h1 hh1 hr7=>?_)
 obtain⟨vn7,vd7,rfl,hn7,hd7⟩:=hr7
 have hlq7:=zLB qb
 refine w_c rfl ?_
 replace hna:=hna.mono hh1
 replace hda:=hda.mono hh1
 refine sC (ev2 rfl rfl) call37 (fun w hs=>zCC hs hna hda hn7 hd7 oM oM) fun v8 h2 hh2 hr8=>?_
 obtain⟨vn8,vd8,rfl,hn8,hd8⟩:=hr8
 have hlq8:=qZ qa (-qb)
 refine kV (A:=[]) (q':=.var b4 26 [vB ((qa+(-qb)).num<0),vn8,vd8]) rfl (zG (k:=0) (cs:=[_,_,_]) (vs:=[_,_,_]) rfl rfl rfl (ocr rfl (ocu hn8 (ocu hd8 oc0))) zU (bL rfl)) rfl ?_
 refine go3 ?_
 refine yE (fun E S=>zP rfl (xE (cs:=[_,_,_]) mh0 underlying26 rfl zU rfl) E S) ?_
 rw[←Rat.sub_eq_add_neg] at hn8 hd8 ⊢
 exact⟨_,_,rfl,hn8,hd8⟩
theorem zHL{w0:World}{h0:Mem}(hs:MLe h0 (mem w0)){qa:Rat}{vna vda:Value}(hna:Us .u32 h0 vna (zB qa.num.natAbs))(hda:Us .u32 h0 vda (zB (xT qa.den))){qb:Rat}{vnb vdb:Value}(hnb:Us .u32 h0 vnb (zB qb.num.natAbs))(hdb:Us .u32 h0 vdb (zB (xT qb.den)))(hqa:lq qa≤100000000000)(hqb:lq qb≤100000000000):
    Calls Tryz.prog 9 #[.agg #[vB (qa.num<0),vna,vda],.agg #[vB (qb.num<0),vnb,vdb]] w0 (Ret w0 h0 (fun h r=>wI h r (qa*qb))):=by
 have hlna:=wE qa
 have hlda:=wO qa
 have hlDa:=wB qa
 have hlnb:=wE qb
 have hldb:=wO qb
 have hlDb:=wB qb
 refine cb2 21 (.agg #[vB (qa.num<0),vna,vda]) (.agg #[vB (qb.num<0),vnb,vdb]) func9 hs ?_
 refine go2 ?_
 refine zF (xD (cs:=[_,_,_]) rfl rfl) rfl rfl rfl ?_
 intro v2 r2 hr2
 obtain⟨b2,rfl,rfl⟩:=hr2
 refine zF (xD (cs:=[_,_,_]) rfl rfl) rfl rfl rfl ?_
 intro v3 r3 hr3
 obtain⟨b3,rfl,rfl⟩:=hr3
 refine zF (wA (cs:=[vB ((0:Rat).num<0),.slice none 0 0,.slice none 0 0]) yN rfl (by simp only[zb];rfl)) rfl rfl rfl ?_
 intro v4 r4 hr4
 obtain⟨b4,rfl,rfl⟩:=hr4
 refine go3 ?_
 refine gD 16 (qq 0 9 [(10,.q),(12,.q),(9,.c),(11,.c),(13,.c),(14,.c),(15,.c),(16,.t)]) (by kernel_rfl) ?_
 refine go4 ?_
 refine xJ rfl (fun _ _=>fV underlying4 rfl rfl) rfl ?_
 refine go6 ?_
 refine w_c rfl (sC (ev2 rfl rfl) call47 (fun w hs=>rX hs hna hnb oM oM) fun v14 h1 hh1 hr14=>?_)
 try simp only[zC] at hr14
 have hlm14:=yC ((qa.num.natAbs)) ((qb.num.natAbs))
 refine w_c rfl ?_
 replace hna:=hna.mono hh1
 replace hda:=hda.mono hh1
 refine sC (ev1 rfl) call48 (fun w hs=>tQ hs rfl hna hda) fun v16 h2 hh2 hr16=>?_
 rw[uK] at hr16
 refine w_c rfl ?_
 replace hnb:=hnb.mono (hh1.trans hh2)
 replace hdb:=hdb.mono (hh1.trans hh2)
 refine sC (ev1 rfl) call48 (fun w hs=>tQ hs rfl hnb hdb) fun v18 h3 hh3 hr18=>?_
 rw[uK] at hr18
 refine w_c rfl ?_
 replace hr16:=hr16.mono hh3
 refine sC (ev2 rfl rfl) call47 (fun w hs=>rX hs hr16 hr18 oM oM) fun v19 h4 hh4 hr19=>?_
 try simp only[zC] at hr19
 have hlm19:=yC ((qa.den)) ((qb.den))
 refine w_c rfl ?_
 replace hr14:=hr14.mono ((hh2.trans hh3).trans hh4)
 refine sC (ev3 rfl rfl rfl) call46 (fun w hs=>sS hs hr14 hr19 oM oM (by first|(simp only[zC];omega)|(simp only[zC];first|exact Rat.den_nz _|exact Nat.mul_ne_zero (Rat.den_nz _) (Rat.den_nz _)|exact Nat.one_ne_zero|assumption)|assumption)) fun v20 h5 hh5 hr20=>?_
 try simp only[zC] at hr20
 obtain⟨vn20,vd20,rfl,hn20,hd20⟩:=hr20
 refine kV (A:=[]) (q':=.var b4 26 [vB ((mkRat (sg (¬((qa.num<0)↔(qb.num<0))) (((((qa.num.natAbs))*((qb.num.natAbs)))))) (((((qa.den))*((qb.den)))))).num<0),vn20,vd20]) rfl (zG (k:=0) (cs:=[_,_,_]) (vs:=[_,_,_]) rfl rfl rfl (ocr rfl (ocu hn20 (ocu hd20 oc0))) zU (bL rfl)) rfl ?_
 refine go3 ?_
 refine yE (fun E S=>zP rfl (xE (cs:=[_,_,_]) mh0 underlying26 rfl zU rfl) E S) ?_
 rw[zRL] at hn20 hd20 ⊢
 exact⟨_,_,rfl,hn20,hd20⟩
theorem zP8{w0:World}{h0:Mem}(hs:MLe h0 (mem w0)){qa:Rat}{vna vda:Value}(hna:Us .u32 h0 vna (zB qa.num.natAbs))(hda:Us .u32 h0 vda (zB (xT qa.den))){qb:Rat}{vnb vdb:Value}(hnb:Us .u32 h0 vnb (zB qb.num.natAbs))(hdb:Us .u32 h0 vdb (zB (xT qb.den)))(hqa:lq qa≤100000000000)(hqb:lq qb≤100000000000):
    Calls Tryz.prog 112 #[.agg #[vB (qa.num<0),vna,vda],.agg #[vB (qb.num<0),vnb,vdb]] w0 (Ret w0 h0 (fun h r=>∃u,r=.tuple #[u,vI (if qb=0 then 3 else 0)]∧wI h u (if qb=0 then 0 else qa/qb))):=by
 have hlna:=wE qa
 have hlda:=wO qa
 have hlDa:=wB qa
 have hlnb:=wE qb
 have hldb:=wO qb
 have hlDb:=wB qb
 refine cb2 27 (.agg #[vB (qa.num<0),vna,vda]) (.agg #[vB (qb.num<0),vnb,vdb]) func112 hs ?_
 refine go2 ?_
 refine zF (xD (cs:=[_,_,_]) rfl rfl) rfl rfl rfl ?_
 intro v2 r2 hr2
 obtain⟨b2,rfl,rfl⟩:=hr2
 refine zF (xD (cs:=[_,_,_]) rfl rfl) rfl rfl rfl ?_
 intro v3 r3 hr3
 obtain⟨b3,rfl,rfl⟩:=hr3
 refine zF (wA (cs:=[vB ((0:Rat).num<0),.slice none 0 0,.slice none 0 0]) yN rfl (by simp only[zb];rfl)) rfl rfl rfl ?_
 intro v4 r4 hr4
 obtain⟨b4,rfl,rfl⟩:=hr4
 refine uN ?_
 refine cnd (fun hc9=>?_) fun hc9=>?_
 ·
  refine go2 ?_
  refine gv (yO (ps':=[]) (vs:=[vB ((0:Rat).num<0),.slice none 0 0,.slice none 0 0]) underlying26 yN rfl (vD underlying26) trivial (by simp only[zb];exact vZ)) rfl (xO (A:=[]) (r':=.var b4 26 [vB ((0:Rat).num<0),.slice none 0 0,.slice none 0 0]) (zG (k:=0) (cs:=[_,_,_]) (vs:=[_,_,_]) rfl rfl rfl rfl zU (bL rfl)) rfl rfl rfl ?_)
  refine go5 ?_
  refine yE (fun E S=>vW rfl (xE (cs:=[_,_,_]) mh0 underlying26 rfl zU rfl) (jP rfl) E S) ?_
  rw[if_pos (pO hc9),if_pos (pO hc9)]
  exact⟨_,rfl,wI.zero _⟩
 have hb0:=zCZ hc9
 have hbn:=zC0.2 hb0
 have hd0:qa.den*qb.num.natAbs≠0:=Nat.mul_ne_zero qa.den_nz hbn
 refine go3 ?_
 refine gD 16 (qq 0 8 [(10,.q),(12,.q),(13,.q),(8,.c),(9,.c),(11,.c),(14,.c),(15,.c),(16,.t),(17,.t)]) (by kernel_rfl) ?_
 refine go4 ?_
 refine xJ rfl (fun _ _=>fV underlying4 rfl rfl) rfl ?_
 refine go6 ?_
 refine w_c rfl (sC (ev1 rfl) call48 (fun w hs=>tQ hs rfl hnb hdb) fun v19 h1 hh1 hr19=>?_)
 rw[uK] at hr19
 refine w_c rfl ?_
 replace hna:=hna.mono hh1
 refine sC (ev2 rfl rfl) call47 (fun w hs=>rX hs hna hr19 oM oM) fun v20 h2 hh2 hr20=>?_
 try simp only[zC] at hr20
 have hlm20:=yC ((qa.num.natAbs)) ((qb.den))
 refine w_c rfl ?_
 replace hna:=hna.mono hh2
 replace hda:=hda.mono (hh1.trans hh2)
 refine sC (ev1 rfl) call48 (fun w hs=>tQ hs rfl hna hda) fun v22 h3 hh3 hr22=>?_
 rw[uK] at hr22
 refine w_c rfl ?_
 replace hnb:=hnb.mono ((hh1.trans hh2).trans hh3)
 refine sC (ev2 rfl rfl) call47 (fun w hs=>rX hs hr22 hnb oM oM) fun v25 h4 hh4 hr25=>?_
 try simp only[zC] at hr25
 have hlm25:=yC ((qa.den)) ((qb.num.natAbs))
 refine w_c rfl ?_
 replace hr20:=hr20.mono (hh3.trans hh4)
 refine sC (ev3 rfl rfl rfl) call46 (fun w hs=>sS hs hr20 hr25 oM oM (by first|(simp only[zC];omega)|(simp only[zC];first|exact Rat.den_nz _|exact Nat.mul_ne_zero (Rat.den_nz _) (Rat.den_nz _)|exact Nat.one_ne_zero|assumption)|assumption)) fun v26 h5 hh5 hr26=>?_
 try simp only[zC] at hr26
 obtain⟨vn26,vd26,rfl,hn26,hd26⟩:=hr26
 refine kV (A:=[]) (q':=.var b4 26 [vB ((mkRat (sg (¬((qa.num<0)↔(qb.num<0))) (((((qa.num.natAbs))*((qb.den)))))) (((((qa.den))*((qb.num.natAbs)))))).num<0),vn26,vd26]) rfl (zG (k:=0) (cs:=[_,_,_]) (vs:=[_,_,_]) rfl rfl rfl (ocr rfl (ocu hn26 (ocu hd26 oc0))) zU (bL rfl)) rfl (dR rfl (tH (v:=vI (0)) rfl) rfl ?_)
 refine go3 ?_
 refine yE (fun E S=>vW rfl (xE (cs:=[_,_,_]) mh0 underlying26 rfl zU rfl) (jP rfl) E S) ?_
 rw[if_neg hb0,if_neg hb0]
 rw[zQO _ hb0] at hn26 hd26 ⊢
 exact⟨_,rfl,_,_,rfl,hn26,hd26⟩
theorem zQB{w0:World}{h0:Mem}(hs:MLe h0 (mem w0)){qa:Rat}{vna vda:Value}(hna:Us .u32 h0 vna (zB qa.num.natAbs))(hda:Us .u32 h0 vda (zB (xT qa.den))){qb:Rat}{vnb vdb:Value}(hnb:Us .u32 h0 vnb (zB qb.num.natAbs))(hdb:Us .u32 h0 vdb (zB (xT qb.den)))(hqa:lq qa≤100000000000)(hqb:lq qb≤100000000000):
    Calls Tryz.prog 18 #[.agg #[vB (qa.num<0),vna,vda],.agg #[vB (qb.num<0),vnb,vdb]] w0 (Ret w0 h0 (fun _ r=>r=vI (wG qa qb))):=by
 have hlna:=wE qa
 have hlda:=wO qa
 have hlDa:=wB qa
 have hlnb:=wE qb
 have hldb:=wO qb
 have hlDb:=wB qb
 have hcr:-1≤tD (qa.num.natAbs*qb.den) (qb.num.natAbs*qa.den)∧tD (qa.num.natAbs*qb.den) (qb.num.natAbs*qa.den)≤1:=zJB qa qb
 refine cb2 34 (.agg #[vB (qa.num<0),vna,vda]) (.agg #[vB (qb.num<0),vnb,vdb]) func18 hs ?_
 refine go2 ?_
 refine zF (xD (cs:=[_,_,_]) rfl rfl) rfl rfl rfl ?_
 intro v2 r2 hr2
 obtain⟨b2,rfl,rfl⟩:=hr2
 refine zF (xD (cs:=[_,_,_]) rfl rfl) rfl rfl rfl ?_
 intro v3 r3 hr3
 obtain⟨b3,rfl,rfl⟩:=hr3
 refine go5 ?_
 refine gD 6 [(0,.q),(2,.q),(1,.c),(3,.c),(4,.q),(5,.q)] (by kernel_rfl) ?_
 refine go2 ?_
 refine w_c rfl (sC (ev1 rfl) call17 (fun w hs=>zAB hs hna hda oM) fun v9 h1 hh1 hr9=>?_)
 have hsr9:=wH qa
 subst hr9
 refine w_c rfl ?_
 replace hnb:=hnb.mono hh1
 replace hdb:=hdb.mono hh1
 refine sC (ev1 rfl) call17 (fun w hs=>zAB hs hnb hdb oM) fun v11 h2 hh2 hr11=>?_
 have hsr11:=wH qb
 subst hr11
 refine uP ?_
 refine cnd (fun hc14=>?_) fun hc14=>?_
 ·
  refine go8 ?_
  refine cnd (fun hc17=>?_) fun hc17=>?_
  ·
   refine go8 ?_
   refine zD rfl rfl ?_
   rw[t0 hc14,if_pos hc17]
  refine go9 ?_
  refine zD rfl rfl ?_
  rw[t0 hc14,if_neg hc17]
 have hss:=zHD hc14
 refine go3 ?_
 refine gD 12 (qq 0 3 (qq 5 3 [(3,.c),(4,.c),(8,.c),(9,.c),(10,.c),(11,.q)])) (by kernel_rfl) ?_
 refine go6 ?_
 refine w_c rfl ?_
 replace hnb:=hnb.mono hh2
 replace hdb:=hdb.mono hh2
 refine sC (ev1 rfl) call48 (fun w hs=>tQ hs rfl hnb hdb) fun v21 h3 hh3 hr21=>?_
 rw[uK] at hr21
 refine w_c rfl ?_
 replace hna:=hna.mono ((hh1.trans hh2).trans hh3)
 refine sC (ev2 rfl rfl) call47 (fun w hs=>rX hs hna hr21 oM oM) fun v22 h4 hh4 hr22=>?_
 try simp only[zC] at hr22
 have hlm22:=yC ((qa.num.natAbs)) ((qb.den))
 refine w_c rfl ?_
 replace hna:=hna.mono hh4
 replace hda:=hda.mono (((hh1.trans hh2).trans hh3).trans hh4)
 refine sC (ev1 rfl) call48 (fun w hs=>tQ hs rfl hna hda) fun v26 h5 hh5 hr26=>?_
 rw[uK] at hr26
 refine w_c rfl ?_
 replace hnb:=hnb.mono ((hh3.trans hh4).trans hh5)
 refine sC (ev2 rfl rfl) call47 (fun w hs=>rX hs hnb hr26 oM oM) fun v27 h6 hh6 hr27=>?_
 try simp only[zC] at hr27
 have hlm27:=yC ((qb.num.natAbs)) ((qa.den))
 refine w_c rfl ?_
 replace hr22:=hr22.mono (hh5.trans hh6)
 refine sC (ev2 rfl rfl) call56 (fun w hs=>nQ hs hr22 hr27) fun v28 h7 hh7 hr28=>?_
 subst hr28
 refine vO ?_
 refine cnd (fun hc30=>?_) fun hc30=>?_
 ·
  refine go3 ?_
  refine gv (lM rfl oM oM) rfl ?_
  refine go5 ?_
  refine zD rfl rfl ?_
  rw[zM5 hss hc30];rfl
 refine go9 ?_
 refine zD rfl rfl ?_
 rw[zI6 hss hc30];rfl
theorem zP9{w0:World}{h0:Mem}(hs:MLe h0 (mem w0)){qa:Rat}{vna vda:Value}(hna:Us .u32 h0 vna (zB qa.num.natAbs))(hda:Us .u32 h0 vda (zB (xT qa.den))){qb:Rat}{vnb vdb:Value}(hnb:Us .u32 h0 vnb (zB qb.num.natAbs))(hdb:Us .u32 h0 vdb (zB (xT qb.den)))(hqa:lq qa≤10000000000)(hqb:lq qb≤10000000000):
    Calls Tryz.prog 38 #[.agg #[vB (qa.num<0),vna,vda],.agg #[vB (qb.num<0),vnb,vdb]] w0 (Ret w0 h0 (fun h r=>wI h r (dA qa qb))):=by
 have hlna:=wE qa
 have hlda:=wO qa
 have hlDa:=wB qa
 have hlnb:=wE qb
 have hldb:=wO qb
 have hlDb:=wB qb
 refine cb2 10 (.agg #[vB (qa.num<0),vna,vda]) (.agg #[vB (qb.num<0),vnb,vdb]) func38 hs ?_
 refine go2 ?_
 refine zF (xD (cs:=[_,_,_]) rfl rfl) rfl rfl rfl ?_
 intro v2 r2 hr2
 obtain⟨b2,rfl,rfl⟩:=hr2
 refine zF (xD (cs:=[_,_,_]) rfl rfl) rfl rfl rfl ?_
 intro v3 r3 hr3
 obtain⟨b3,rfl,rfl⟩:=hr3
 refine zF (wA (cs:=[vB ((0:Rat).num<0),.slice none 0 0,.slice none 0 0]) yN rfl (by simp only[zb];rfl)) rfl rfl rfl ?_
 intro v4 r4 hr4
 obtain⟨b4,rfl,rfl⟩:=hr4
 refine go6 ?_
 refine cL (ev2 rfl rfl) call37 (fun w hs=>zCC hs hna hda hnb hdb oM oM) fun v7 h1 hh1 hr7=>?_
 obtain⟨vn7,vd7,rfl,hn7,hd7⟩:=hr7
 have hlq7:=qZ qa qb
 refine cL (vs:=[vI (1),vI (2)]) e2z call10 (fun w hs=>zEO hs oM oM oM oM) fun v8 h2 hh2 hr8=>?_
 have hlq8:=zBY (n:=(1:Int)) (d:=(2:Int)) oM oM oM oM
 obtain⟨vn8,vd8,rfl,hn8,hd8⟩:=hr8
 replace hn7:=hn7.mono hh2
 replace hd7:=hd7.mono hh2
 refine cL (ev2 rfl rfl) call9 (fun w hs=>zHL hs hn7 hd7 hn8 hd8 oM oM) fun v9 h3 hh3 hr9=>?_
 obtain⟨vn9,vd9,rfl,hn9,hd9⟩:=hr9
 have hlq9:=fZ (qa+qb) (jC (1:Int) (2:Int))
 refine xO (A:=[]) (r':=.var b4 26 [vB (((qa+qb)*(jC (1:Int) (2:Int))).num<0),vn9,vd9]) (zG (k:=0) (cs:=[_,_,_]) (vs:=[_,_,_]) rfl rfl rfl (ocr rfl (ocu hn9 (ocu hd9 oc0))) zU (bL rfl)) rfl rfl rfl ?_
 refine go3 ?_
 refine yE (fun E S=>zP rfl (xE (cs:=[_,_,_]) mh0 underlying26 rfl zU rfl) E S) ?_
 rw[zE9] at hn9 hd9 ⊢
 exact⟨_,_,rfl,hn9,hd9⟩
end Go.Proofs.YtboaboflnckgoaaGreat
namespace Go.Proofs.YtboaboflnckgoaaGreat
open Bk Go Tryz
set_option linter.unusedVariables false
set_option linter.unusedSimpArgs false
set_option maxRecDepth 10000
set_option maxHeartbeats 1000000
attribute [local irreducible] GL GC GQ W OpV
theorem zNT{w0:World}{h0:Mem}(hs:MLe h0 (mem w0)){qa:Rat}{vna vda:Value}(hna:Us .u32 h0 vna (zB qa.num.natAbs))(hda:Us .u32 h0 vda (zB (xT qa.den)))(hqa:lq qa≤100000000000):
    Calls Tryz.prog 173 #[.agg #[vB (qa.num<0),vna,vda]] w0 (Ret w0 h0 (fun _ r=>r=.string (uV (jE qa)))):=by
 have hlna:=wE qa
 have hlda:=wO qa
 have hlDa:=wB qa
 refine cb1 22 (.agg #[vB (qa.num<0),vna,vda]) func173 hs ?_
 refine go2 ?_
 refine zF (xD (cs:=[_,_,_]) rfl rfl) rfl rfl rfl ?_
 intro v1 r1 hr1
 obtain⟨b1,rfl,rfl⟩:=hr1
 refine go7 ?_
 refine cL (ev1 rfl) call197 (fun w hs=>zCH hs hna oM) fun v6 h1 hh1 hr6=>?_
 subst hr6
 have htl6:=dT ((qa.num.natAbs))
 refine vO ?_
 refine cnd (fun hc8=>?_) fun hc8=>?_
 ·
  refine go2 ?_
  refine gv (vJ (pa:=([45]:List Nat)) (pb:=(txt ((qa.num.natAbs)))) rfl rfl (by first|omega|(simp only[lAz,lC,lN,List.length_drop,List.length_take];omega))) rfl ?_
  replace hda:=hda.mono hh1
  refine uN ?_
  refine cnd (fun hc14=>?_) fun hc14=>?_
  ·
   refine go4 ?_
   refine cL (ev1 rfl) call197 (fun w hs=>zCH hs hda oM) fun v18 h2 hh2 hr18=>?_
   subst hr18
   have htl18:=dT (((xT qa.den)))
   refine gv (vJ (pa:=([47]:List Nat)) (pb:=(txt (((xT qa.den))))) rfl rfl (by first|omega|(simp only[lAz,lC,lN,List.length_drop,List.length_take];omega))) rfl (gv (vJ (pa:=(([45]:List Nat)++(txt ((qa.num.natAbs))))) (pb:=(([47]:List Nat)++(txt (((xT qa.den)))))) rfl rfl (by first|omega|(simp only[lAz,lC,lN,List.length_drop,List.length_take];omega))) rfl ?_)
   refine vO ?_
   refine zD rfl rfl ?_
   rw[←zXD hc8 hc14]
  refine go9 ?_
  refine zD rfl rfl ?_
  rw[←zTO hc8 hc14]
 replace hda:=hda.mono hh1
 refine uP ?_
 refine cnd (fun hc14=>?_) fun hc14=>?_
 ·
  refine go4 ?_
  refine cL (ev1 rfl) call197 (fun w hs=>zCH hs hda oM) fun v18 h2 hh2 hr18=>?_
  subst hr18
  have htl18:=dT (((xT qa.den)))
  refine gv (vJ (pa:=([47]:List Nat)) (pb:=(txt (((xT qa.den))))) rfl rfl (by first|omega|(simp only[lAz,lC,lN,List.length_drop,List.length_take];omega))) rfl (gv (vJ (pa:=(txt ((qa.num.natAbs)))) (pb:=(([47]:List Nat)++(txt (((xT qa.den)))))) rfl rfl (by first|omega|(simp only[lAz,lC,lN,List.length_drop,List.length_take];omega))) rfl ?_)
  refine vO ?_
  refine zD rfl rfl ?_
  rw[←zTP hc8 hc14]
 refine go9 ?_
 refine zD rfl rfl ?_
 rw[←zTQ hc8 hc14]
end Go.Proofs.YtboaboflnckgoaaGreat
namespace Go.Proofs.YtboaboflnckgoaaGreat
open Bk Go Tryz
set_option linter.unusedVariables false
set_option linter.unusedSimpArgs false
set_option maxRecDepth 10000
set_option maxHeartbeats 1000000
attribute [local irreducible] GL GC GQ W OpV
theorem zTU{w0:World}{h0:Mem}(hs:MLe h0 (mem w0)){qa:Rat}{vna vda:Value}(hna:Us .u32 h0 vna (zB qa.num.natAbs))(hda:Us .u32 h0 vda (zB (xT qa.den))){qb:Rat}{vnb vdb:Value}(hnb:Us .u32 h0 vnb (zB qb.num.natAbs))(hdb:Us .u32 h0 vdb (zB (xT qb.den)))(hqa:lq qa≤100000000000)(hqb:lq qb≤100000000000):
    Calls Tryz.prog 102 #[.agg #[vB (qa.num<0),vna,vda],.agg #[vB (qb.num<0),vnb,vdb]] w0 (Ret w0 h0 (fun h r=>zG1 h r [aA qa qb,sJ qa qb])):=by
 have hq00:=tK
 refine cb2 12 (.agg #[vB (qa.num<0),vna,vda]) (.agg #[vB (qb.num<0),vnb,vdb]) func102 hs ?_
 refine go2 ?_
 refine zF (xD (cs:=[_,_,_]) rfl rfl) rfl rfl rfl ?_
 intro v2 r2 hr2
 obtain⟨b2,rfl,rfl⟩:=hr2
 refine zF (xD (cs:=[_,_,_]) rfl rfl) rfl rfl rfl ?_
 intro v3 r3 hr3
 obtain⟨b3,rfl,rfl⟩:=hr3
 refine zF (wA (cs:=[vB ((0:Rat).num<0),.slice none 0 0,.slice none 0 0,vB ((0:Rat).num<0),.slice none 0 0,.slice none 0 0]) gC rfl (by simp only[zb];rfl)) rfl rfl rfl ?_
 intro v4 r4 hr4
 obtain⟨b4,rfl,rfl⟩:=hr4
 refine go3 ?_
 refine gD 7 [(0,.q),(1,.q),(3,.q),(4,.q),(2,.c),(5,.c),(6,.q),(7,.t)] (by kernel_rfl) ?_
 refine go4 ?_
 refine w_c rfl (sC (ev2 rfl rfl) call148 (fun w hs=>zUI hs hna hda hnb hdb oM oM) fun v7 h1 hh1 hr7=>?_)
 obtain⟨vn7,vd7,rfl,hn7,hd7⟩:=hr7
 have hlq7:=zRZ qa qb
 refine w_c rfl ?_
 replace hna:=hna.mono hh1
 replace hda:=hda.mono hh1
 replace hnb:=hnb.mono hh1
 replace hdb:=hdb.mono hh1
 refine sC (ev2 rfl rfl) call149 (fun w hs=>zUJ hs hna hda hnb hdb oM oM) fun v10 h2 hh2 hr10=>?_
 obtain⟨vn10,vd10,rfl,hn10,hd10⟩:=hr10
 have hlq10:=zR0 qa qb
 refine xJ rfl (fun _ _=>yO (ps':=[(0,_),(1,_)]) (vs:=[vB ((aA qa qb).num<0),vn7,vd7,vB ((sJ qa qb).num<0),vn10,vd10]) underlying34 gC rfl (lH underlying34) e4z (yX (A:=[]) (B:=[_,_,_]) (C:=[_,_,_]) (cs:=[_,_,_]) (off:=0) (size:=3) rfl rfl rfl rfl rfl (yX (A:=[_,_,_]) (B:=[_,_,_]) (C:=[]) (cs:=[_,_,_]) (off:=3) (size:=3) rfl rfl rfl rfl rfl vZ))) rfl ?_
 replace hn7:=hn7.mono hh2
 replace hd7:=hd7.mono hh2
 refine kV (A:=[]) (q':=.var b4 34 [vB ((aA qa qb).num<0),vn7,vd7,vB ((sJ qa qb).num<0),vn10,vd10]) rfl (zG (k:=0) (cs:=[_,_,_,_,_,_]) (vs:=[_,_,_,_,_,_]) rfl rfl rfl (ocr rfl (ocu hn7 (ocu hd7 (ocr rfl (ocu hn10 (ocu hd10 oc0)))))) iR (bL rfl)) rfl ?_
 refine go3 ?_
 refine yE (fun E S=>zP rfl (xE (cs:=[_,_,_,_,_,_]) mh0 underlying34 rfl iR rfl) E S) ?_
 exact⟨_,rfl,_,_,_,rfl,hn7,hd7,_,_,_,rfl,hn10,hd10,rfl⟩
theorem zJU{w0:World}{h0:Mem}(hs:MLe h0 (mem w0)){qa:Rat}{vna vda:Value}(hna:Us .u32 h0 vna (zB qa.num.natAbs))(hda:Us .u32 h0 vda (zB (xT qa.den)))(hqa:lq qa≤100000000000):
    Calls Tryz.prog 53 #[.agg #[vB (qa.num<0),vna,vda]] w0 (Ret w0 h0 (fun h r=>zG1 h r [qa,qa])):=by
 have hq00:=tK
 refine cb1 6 (.agg #[vB (qa.num<0),vna,vda]) func53 hs ?_
 refine go2 ?_
 refine zF (xD (cs:=[_,_,_]) rfl rfl) rfl rfl rfl ?_
 intro v1 r1 hr1
 obtain⟨b1,rfl,rfl⟩:=hr1
 refine zF (wA (cs:=[vB ((0:Rat).num<0),.slice none 0 0,.slice none 0 0,vB ((0:Rat).num<0),.slice none 0 0,.slice none 0 0]) gC rfl (by simp only[zb];rfl)) rfl rfl rfl ?_
 intro v2 r2 hr2
 obtain⟨b2,rfl,rfl⟩:=hr2
 refine go6 ?_
 refine cL (ev2 rfl rfl) call102 (fun w hs=>zTU hs hna hda hna hda oM oM) fun v5 h1 hh1 hr5=>?_
 have hlq5_0:=zRZ qa qa
 have hlq5_1:=zR0 qa qa
 obtain⟨_,rfl,vn5_0,vd5_0,_,rfl,hn5_0,hd5_0,vn5_1,vd5_1,_,rfl,hn5_1,hd5_1,rfl⟩:=hr5
 refine xO (A:=[]) (r':=.var b2 34 [vB ((aA qa qa).num<0),vn5_0,vd5_0,vB ((sJ qa qa).num<0),vn5_1,vd5_1]) (zG (k:=0) (cs:=[_,_,_,_,_,_]) (vs:=[_,_,_,_,_,_]) rfl rfl rfl (ocr rfl (ocu hn5_0 (ocu hd5_0 (ocr rfl (ocu hn5_1 (ocu hd5_1 oc0)))))) iR (bL rfl)) rfl rfl rfl ?_
 refine go3 ?_
 refine yE (fun E S=>zP rfl (xE (cs:=[_,_,_,_,_,_]) mh0 underlying34 rfl iR rfl) E S) ?_
 rw[zE4] at hn5_0 hd5_0
 rw[zE5] at hn5_1 hd5_1
 rw[zE4,zE5]
 exact⟨_,rfl,_,_,_,rfl,hn5_0,hd5_0,_,_,_,rfl,hn5_1,hd5_1,rfl⟩
theorem zPS{w0:World}{h0:Mem}(hs:MLe h0 (mem w0)){qa0:Rat}{vna0 vda0:Value}(hna0:Us .u32 h0 vna0 (zB qa0.num.natAbs))(hda0:Us .u32 h0 vda0 (zB (xT qa0.den))){qa1:Rat}{vna1 vda1:Value}(hna1:Us .u32 h0 vna1 (zB qa1.num.natAbs))(hda1:Us .u32 h0 vda1 (zB (xT qa1.den))){qb0:Rat}{vnb0 vdb0:Value}(hnb0:Us .u32 h0 vnb0 (zB qb0.num.natAbs))(hdb0:Us .u32 h0 vdb0 (zB (xT qb0.den))){qb1:Rat}{vnb1 vdb1:Value}(hnb1:Us .u32 h0 vnb1 (zB qb1.num.natAbs))(hdb1:Us .u32 h0 vdb1 (zB (xT qb1.den)))(hqa0:lq qa0≤100000000000)(hqa1:lq qa1≤100000000000)(hqb0:lq qb0≤100000000000)(hqb1:lq qb1≤100000000000):
    Calls Tryz.prog 89 #[.agg #[vB (qa0.num<0),vna0,vda0,vB (qa1.num<0),vna1,vda1],.agg #[vB (qb0.num<0),vnb0,vdb0,vB (qb1.num<0),vnb1,vdb1]] w0 (Ret w0 h0 (fun h r=>zG1 h r [qa0+qb0,qa1+qb1])):=by
 have hq00:=tK
 refine cb2 16 (.agg #[vB (qa0.num<0),vna0,vda0,vB (qa1.num<0),vna1,vda1]) (.agg #[vB (qb0.num<0),vnb0,vdb0,vB (qb1.num<0),vnb1,vdb1]) func89 hs ?_
 refine go2 ?_
 refine zF (xD (cs:=[_,_,_,_,_,_]) rfl rfl) rfl rfl rfl ?_
 intro v2 r2 hr2
 obtain⟨b2,rfl,rfl⟩:=hr2
 refine zF (xD (cs:=[_,_,_,_,_,_]) rfl rfl) rfl rfl rfl ?_
 intro v3 r3 hr3
 obtain⟨b3,rfl,rfl⟩:=hr3
 refine zF (wA (cs:=[vB ((0:Rat).num<0),.slice none 0 0,.slice none 0 0,vB ((0:Rat).num<0),.slice none 0 0,.slice none 0 0]) gC rfl (by simp only[zb];rfl)) rfl rfl rfl ?_
 intro v4 r4 hr4
 obtain⟨b4,rfl,rfl⟩:=hr4
 refine go3 ?_
 refine gD 11 (qq 0 4 (qq 5 4 [(4,.c),(9,.c),(10,.q),(11,.t)])) (by kernel_rfl) ?_
 refine go8 ?_
 refine w_c rfl (sC (ev2 rfl rfl) call70 (fun w hs=>zFY hs hna0 hda0 hnb0 hdb0 oM oM) fun v9 h1 hh1 hr9=>?_)
 obtain⟨vn9,vd9,rfl,hn9,hd9⟩:=hr9
 have hlq9:=qZ qa0 qb0
 refine w_c rfl ?_
 replace hna1:=hna1.mono hh1
 replace hda1:=hda1.mono hh1
 replace hnb1:=hnb1.mono hh1
 replace hdb1:=hdb1.mono hh1
 refine sC (ev2 rfl rfl) call70 (fun w hs=>zFY hs hna1 hda1 hnb1 hdb1 oM oM) fun v14 h2 hh2 hr14=>?_
 obtain⟨vn14,vd14,rfl,hn14,hd14⟩:=hr14
 have hlq14:=qZ qa1 qb1
 refine xJ rfl (fun _ _=>yO (ps':=[(0,_),(1,_)]) (vs:=[vB ((qa0+qb0).num<0),vn9,vd9,vB ((qa1+qb1).num<0),vn14,vd14]) underlying34 gC rfl (lH underlying34) e4z (yX (A:=[]) (B:=[_,_,_]) (C:=[_,_,_]) (cs:=[_,_,_]) (off:=0) (size:=3) rfl rfl rfl rfl rfl (yX (A:=[_,_,_]) (B:=[_,_,_]) (C:=[]) (cs:=[_,_,_]) (off:=3) (size:=3) rfl rfl rfl rfl rfl vZ))) rfl ?_
 replace hn9:=hn9.mono hh2
 replace hd9:=hd9.mono hh2
 refine kV (A:=[]) (q':=.var b4 34 [vB ((qa0+qb0).num<0),vn9,vd9,vB ((qa1+qb1).num<0),vn14,vd14]) rfl (zG (k:=0) (cs:=[_,_,_,_,_,_]) (vs:=[_,_,_,_,_,_]) rfl rfl rfl (ocr rfl (ocu hn9 (ocu hd9 (ocr rfl (ocu hn14 (ocu hd14 oc0)))))) iR (bL rfl)) rfl ?_
 refine go3 ?_
 refine yE (fun E S=>zP rfl (xE (cs:=[_,_,_,_,_,_]) mh0 underlying34 rfl iR rfl) E S) ?_
 exact⟨_,rfl,_,_,_,rfl,hn9,hd9,_,_,_,rfl,hn14,hd14,rfl⟩
end Go.Proofs.YtboaboflnckgoaaGreat
namespace Go.Proofs.YtboaboflnckgoaaGreat
open Bk Go Tryz
set_option linter.unusedVariables false
set_option linter.unusedSimpArgs false
set_option maxRecDepth 10000
set_option maxHeartbeats 1000000
attribute [local irreducible] GL GC GQ W OpV
theorem fJ{w0:World}{h0:Mem}(hs:MLe h0 (mem w0)){k l:Nat}{va:Value}{a:Rat}(ra:(rpQ k).Is h0 va a){vb:Value}{b:Rat}(rb:(rpQ l).Is h0 vb b)(hcd0:k+l≤10000000000):
    Calls Tryz.prog 70 #[va,vb] w0 (Ret w0 h0 (fun h r=>(rpQ (k+l+1)).Is h r (a+b))):=by
  obtain⟨vna,vda,rfl,hna,hda,hla⟩:=qI ra
  obtain⟨vnb,vdb,rfl,hnb,hdb,hlb⟩:=qI rb
  exact(zFY hs hna hda hnb hdb oM oM).mono (kD fun h r x=>mW x (by have:=qZ a b;omega))
theorem cY{w0:World}{h0:Mem}(hs:MLe h0 (mem w0)){k l:Nat}{va:Value}{a:Rat}(ra:(rpQ k).Is h0 va a){vb:Value}{b:Rat}(rb:(rpQ l).Is h0 vb b)(hcd0:k+l≤10000000000):
    Calls Tryz.prog 179 #[va,vb] w0 (Ret w0 h0 (fun h r=>(rpQ (k+l+1)).Is h r (a-b))):=by
  obtain⟨vna,vda,rfl,hna,hda,hla⟩:=qI ra
  obtain⟨vnb,vdb,rfl,hnb,hdb,hlb⟩:=qI rb
  exact(zUF hs hna hda hnb hdb oM oM).mono (kD fun h r x=>mW x (by have:=zAN a b;omega))
theorem qS{w0:World}{h0:Mem}(hs:MLe h0 (mem w0)){k l:Nat}{va:Value}{a:Rat}(ra:(rpQ k).Is h0 va a){vb:Value}{b:Rat}(rb:(rpQ l).Is h0 vb b)(hcd0:k+l≤10000000000):
    Calls Tryz.prog 76 #[va,vb] w0 (Ret w0 h0 (fun h r=>(rpQ (k+l)).Is h r (a*b))):=by
  obtain⟨vna,vda,rfl,hna,hda,hla⟩:=qI ra
  obtain⟨vnb,vdb,rfl,hnb,hdb,hlb⟩:=qI rb
  exact(zUH hs hna hda hnb hdb oM oM).mono (kD fun h r x=>mW x (by have:=fZ a b;omega))
theorem iY{w0:World}{h0:Mem}(hs:MLe h0 (mem w0)){k:Nat}{va:Value}{a:Rat}(ra:(rpQ k).Is h0 va a)(hcd0:k≤10000000000):
    Calls Tryz.prog 51 #[va] w0 (Ret w0 h0 (fun _ r=>r=vI (xH a))):=by
  obtain⟨vna,vda,rfl,hna,hda,hla⟩:=qI ra
  exact w3 hs hna hda oM
theorem zEV{w0:World}{h0:Mem}(hs:MLe h0 (mem w0)){k l:Nat}{va:Value}{a:Rat}(ra:(rpQ k).Is h0 va a){vb:Value}{b:Rat}(rb:(rpQ l).Is h0 vb b)(hcd0:k+l≤10000000000):
    Calls Tryz.prog 74 #[va,vb] w0 (Ret w0 h0 (fun h r=>∃u0,r=.tuple #[u0,vI (if b=0 then 3 else 0)]∧(rpQ (k+l)).Is h u0 (if b=0 then 0 else a/b))):=by
  obtain⟨vna,vda,rfl,hna,hda,hla⟩:=qI ra
  obtain⟨vnb,vdb,rfl,hnb,hdb,hlb⟩:=qI rb
  exact(zUG hs hna hda hnb hdb oM oM).mono (kD fun h r x=>by obtain⟨u,e,y⟩:=x;exact⟨u,e,mW y (by have:=zMP a b;omega)⟩)
theorem kB{w0:World}{h0:Mem}(hs:MLe h0 (mem w0)){k l:Nat}{va:Value}{a:Rat}(ra:(rpQ k).Is h0 va a){vb:Value}{b:Rat}(rb:(rpQ l).Is h0 vb b)(hcd0:k+l≤10000000000):
    Calls Tryz.prog 37 #[va,vb] w0 (Ret w0 h0 (fun h r=>(rpQ (k+l+1)).Is h r (a+b))):=by
  obtain⟨vna,vda,rfl,hna,hda,hla⟩:=qI ra
  obtain⟨vnb,vdb,rfl,hnb,hdb,hlb⟩:=qI rb
  exact(zCC hs hna hda hnb hdb oM oM).mono (kD fun h r x=>mW x (by have:=qZ a b;omega))
theorem bN{w0:World}{h0:Mem}(hs:MLe h0 (mem w0)){k l:Nat}{va:Value}{a:Rat}(ra:(rpQ k).Is h0 va a){vb:Value}{b:Rat}(rb:(rpQ l).Is h0 vb b)(hcd0:k+l≤10000000000):
    Calls Tryz.prog 16 #[va,vb] w0 (Ret w0 h0 (fun h r=>(rpQ (k+l+1)).Is h r (a-b))):=by
  obtain⟨vna,vda,rfl,hna,hda,hla⟩:=qI ra
  obtain⟨vnb,vdb,rfl,hnb,hdb,hlb⟩:=qI rb
  exact(zP7 hs hna hda hnb hdb oM oM).mono (kD fun h r x=>mW x (by have:=zAN a b;omega))
theorem wN{w0:World}{h0:Mem}(hs:MLe h0 (mem w0)){k l:Nat}{va:Value}{a:Rat}(ra:(rpQ k).Is h0 va a){vb:Value}{b:Rat}(rb:(rpQ l).Is h0 vb b)(hcd0:k+l≤10000000000):
    Calls Tryz.prog 9 #[va,vb] w0 (Ret w0 h0 (fun h r=>(rpQ (k+l)).Is h r (a*b))):=by
  obtain⟨vna,vda,rfl,hna,hda,hla⟩:=qI ra
  obtain⟨vnb,vdb,rfl,hnb,hdb,hlb⟩:=qI rb
  exact(zHL hs hna hda hnb hdb oM oM).mono (kD fun h r x=>mW x (by have:=fZ a b;omega))
theorem iX{w0:World}{h0:Mem}(hs:MLe h0 (mem w0)){k l:Nat}{va:Value}{a:Rat}(ra:(rpQ k).Is h0 va a){vb:Value}{b:Rat}(rb:(rpQ l).Is h0 vb b)(hcd0:k+l≤10000000000):
    Calls Tryz.prog 38 #[va,vb] w0 (Ret w0 h0 (fun h r=>(rpQ (k+l+2)).Is h r (dA a b))):=by
  obtain⟨vna,vda,rfl,hna,hda,hla⟩:=qI ra
  obtain⟨vnb,vdb,rfl,hnb,hdb,hlb⟩:=qI rb
  exact(zP9 hs hna hda hnb hdb oM oM).mono (kD fun h r x=>mW x (by have:=zYW a b;omega))
theorem kA{w0:World}{h0:Mem}(hs:MLe h0 (mem w0)){k l:Nat}{va:Value}{a:Rat}(ra:(rpQ k).Is h0 va a){vb:Value}{b:Rat}(rb:(rpQ l).Is h0 vb b)(hcd0:k+l≤10000000000):
    Calls Tryz.prog 18 #[va,vb] w0 (Ret w0 h0 (fun _ r=>r=vI (wG a b))):=by
  obtain⟨vna,vda,rfl,hna,hda,hla⟩:=qI ra
  obtain⟨vnb,vdb,rfl,hnb,hdb,hlb⟩:=qI rb
  exact zQB hs hna hda hnb hdb oM oM
theorem qO{w0:World}{h0:Mem}(hs:MLe h0 (mem w0)){k:Nat}{va:Value}{a:Rat}(ra:(rpQ k).Is h0 va a)(hcd0:k≤10000000000):
    Calls Tryz.prog 17 #[va] w0 (Ret w0 h0 (fun _ r=>r=vI (xH a))):=by
  obtain⟨vna,vda,rfl,hna,hda,hla⟩:=qI ra
  exact zAB hs hna hda oM
theorem vQ{w0:World}{h0:Mem}(hs:MLe h0 (mem w0)){k l:Nat}{va:Value}{a:Rat}(ra:(rpQ k).Is h0 va a){vb:Value}{b:Rat}(rb:(rpQ l).Is h0 vb b)(hcd0:k+l≤10000000000):
    Calls Tryz.prog 15 #[va,vb] w0 (Ret w0 h0 (fun _ r=>r=vB (a=b))):=by
  obtain⟨vna,vda,rfl,hna,hda,hla⟩:=qI ra
  obtain⟨vnb,vdb,rfl,hnb,hdb,hlb⟩:=qI rb
  exact zNU hs hna hda hnb hdb oM oM
theorem zKO{w0:World}{h0:Mem}(hs:MLe h0 (mem w0)){k l:Nat}{va:Value}{a:Rat}(ra:(rpQ k).Is h0 va a){vb:Value}{b:Rat}(rb:(rpQ l).Is h0 vb b)(hcd0:k+l≤10000000000):
    Calls Tryz.prog 112 #[va,vb] w0 (Ret w0 h0 (fun h r=>∃u0,r=.tuple #[u0,vI (if b=0 then 3 else 0)]∧(rpQ (k+l)).Is h u0 (if b=0 then 0 else a/b))):=by
  obtain⟨vna,vda,rfl,hna,hda,hla⟩:=qI ra
  obtain⟨vnb,vdb,rfl,hnb,hdb,hlb⟩:=qI rb
  exact(zP8 hs hna hda hnb hdb oM oM).mono (kD fun h r x=>by obtain⟨u,e,y⟩:=x;exact⟨u,e,mW y (by have:=zMP a b;omega)⟩)
theorem iW{w0:World}{h0:Mem}(hs:MLe h0 (mem w0)){k:Nat}{va:Value}{a:Rat}(ra:(rpQ k).Is h0 va a)(hcd0:k≤10000000000):
    Calls Tryz.prog 31 #[va] w0 (Ret w0 h0 (fun h r=>(rpQ k).Is h r (-a))):=by
  obtain⟨vna,vda,rfl,hna,hda,hla⟩:=qI ra
  exact(zHK hs hna hda oM).mono (kD fun h r x=>mW x (by have:=zLB a;omega))
theorem zKP{w0:World}{h0:Mem}(hs:MLe h0 (mem w0)){k:Nat}{va:Value}{a:Rat}(ra:(rpQ k).Is h0 va a)(hcd0:k≤10000000000):
    Calls Tryz.prog 29 #[va] w0 (Ret w0 h0 (fun h r=>(rpQ k).Is h r (dO a))):=by
  obtain⟨vna,vda,rfl,hna,hda,hla⟩:=qI ra
  exact(zQC hs hna hda oM).mono (kD fun h r x=>mW x (by have:=zYY a;omega))
theorem jR{w0:World}{h0:Mem}(hs:MLe h0 (mem w0)){n:Int}(hn1:-9223372036854775808≤n)(hn2:n<9223372036854775808):
    Calls Tryz.prog 39 #[vI n] w0 (Ret w0 h0 (fun h r=>(rpQ 2).Is h r ((n:Int):Rat))):=by
  exact(zQA hs hn1 hn2).mono (kD fun h r x=>mW x (by exact zAO n hn1 hn2))
theorem eP{w0:World}{h0:Mem}(hs:MLe h0 (mem w0)){n:Int}(hn1:-9223372036854775808≤n)(hn2:n<9223372036854775808):
    Calls Tryz.prog 75 #[vI n] w0 (Ret w0 h0 (fun h r=>(rpQ 2).Is h r ((n:Int):Rat))):=by
  exact(zUK hs hn1 hn2).mono (kD fun h r x=>mW x (by exact zAO n hn1 hn2))
theorem pM{w0:World}{h0:Mem}(hs:MLe h0 (mem w0)){n:Int}(hn1:-9223372036854775808≤n)(hn2:n<9223372036854775808){d:Int}(hd1:-9223372036854775808≤d)(hd2:d<9223372036854775808):
    Calls Tryz.prog 10 #[vI n,vI d] w0 (Ret w0 h0 (fun h r=>(rpQ 2).Is h r (jC n d))):=by
  exact(zEO hs hn1 hn2 hd1 hd2).mono (kD fun h r x=>mW x (by exact zBY hn1 hn2 hd1 hd2))
end Go.Proofs.YtboaboflnckgoaaGreat
namespace Go.Proofs.YtboaboflnckgoaaGreat
open Bk Go Tryz
set_option linter.unusedVariables false
set_option linter.unusedSimpArgs false
set_option maxRecDepth 10000
set_option maxHeartbeats 1000000
attribute [local irreducible] GL GC GQ W OpV
theorem zEJ{w0:World}{h0:Mem}(hs:MLe h0 (mem w0)){v:Value}{X:Nat}(hv:Us .u32 h0 v (zB X))(hl:(zB X).length≤1000):
    Calls Tryz.prog 97 #[v] w0 (Ret w0 h0 (fun h r=>Us .u32 h r (zB (sqN X)))):=by
 have hl1:=j2
 have hbl:=zDS X
 have hsl:=zNP hl
 refine cb1 42 v func97 hs ?_
 refine go9 ?_
 refine cL (ev1 rfl) call94 (fun w hs=>pP hs hv oM) fun v11 h1 hh1 hr11=>?_
 try simp only[zC] at hr11
 subst hr11
 refine go3 ?_
 refine cnd (fun hc12=>?_) fun hc12=>?_
 ·
  refine go7 ?_
  refine zD rfl rfl ?_
  rw[zQF hc12]
  exact Us.nil _ _
 have hX:X≠0:=fun e=>hc12 (by rw[e,zDT];rfl)
 refine go4 ?_
 refine zF (kQ (kd:=.u32) (p:=1) underlying22 wK rfl rfl rfl) rfl rfl rfl ?_
 intro v14 r14 hr14
 obtain rfl:=hr14
 refine yG (by intro z hz;simp only[List.mem_singleton] at hz;subst hz;decide) ?_
 intro h2 hh2 hone1
 rw[rV] at hone1
 refine go1 ?_
 replace hv:=hv.mono (hh1.trans hh2)
 refine cL (ev1 rfl) call94 (fun w hs=>pP hs hv oM) fun v16 h3 hh3 hr16=>?_
 try simp only[zC] at hr16
 subst hr16
 refine go1 ?_
 refine gv (lK (q:=2) rfl rfl oM oM oM) rfl ?_
 replace hone1:=hone1.mono hh3
 refine cL (ev2 rfl rfl) call95 (fun w hs=>lW hs hone1 oM oM oM) fun v19 h4 hh4 hr19=>?_
 obtain⟨u19,rfl,hu19⟩:=hr19
 try simp only[zC] at hu19
 rw[zHC hl] at hu19
 refine go8 ?_
 refine vC (ι:=Nat×Value×Mem) (fun(x,vx,m)=>MLe h4 m∧(Us .u32 m vx (zB x)∧sqN X≤x∧0<x∧(zB x).length≤1001)) (fun(x,vx,m)=>[(0,v),(3,vx)]) (fun(x,vx,m)=>[]) (fun(x,vx,m)=>m) (fun(x,vx,m)=>x) ((2^((xY X+1)/2)),u19,h4) ?_ e2z rfl rfl ?_
 ·
  refine⟨MLe.refl _,?_⟩
  exact⟨hu19,zGF X,Nat.pow_pos oM,hsl⟩
 intro x hx
 obtain⟨x,vx,m⟩:=x
 obtain⟨hmm,hinv⟩:=hx
 refine yS ?_
 obtain⟨hx,hi1,hi2,hi3⟩:=hinv
 refine go5 ?_
 replace hv:=hv.mono ((hh3.trans hh4).trans hmm)
 refine cL (ev2 rfl rfl) call147 (fun w hs=>eR hs hv hx oM oM) fun v25 h5 hh5 hr25=>?_
 obtain⟨q25,r25,rfl,hq25,hr25⟩:=hr25
 try simp only[zC] at hq25 hr25 ⊢
 have hlm25:=zM (Nat.div_le_self ((X)) ((x)))
 refine sL ?_
 replace hx:=hx.mono hh5
 refine cL (ev2 rfl rfl) call100 (fun w hs=>aG hs hx hq25 oM oM) fun v32 h6 hh6 hr32=>?_
 try simp only[zC] at hr32
 have hlm32:=uE ((x)) (((((X))/((x)))))
 have hdl:=zM (Nat.div_le_self X x)
 have hal:=uE x (X/x)
 refine cL (vs:=[_,vI (-1)]) e2z call95 (fun w hs=>lW hs hr32 oM oM oM) fun v33 h7 hh7 hr33=>?_
 obtain⟨u33,rfl,hu33⟩:=hr33
 try simp only[zC] at hu33
 rw[zJW] at hu33
 refine uN ?_
 replace hx:=hx.mono (hh6.trans hh7)
 refine cL (ev2 rfl rfl) call98 (fun w hs=>eS hs hu33 hx) fun v38 h8 hh8 hr38=>?_
 try simp only[zC] at hr38
 subst hr38
 refine go3 ?_
 refine cnd (fun hc39=>?_) fun hc39=>?_
 ·
  have hst:=zID hi2 hi1 (by have:=gH (m:=(x+X/x)/2) (n:=x);omega)
  refine uP ?_
  refine zD rfl rfl ?_
  replace hx:=hx.mono hh8
  rw[←hst]
  exact hx
 refine go7 ?_
 have hlt:=gH.1 (show tD ((x+X/x)/2) x<0 by omega)
 have hml:=zM (Nat.le_of_lt hlt)
 have hng:=zOI (n:=X) hi2
 refine yQ (((x+X/x)/2),u33,h8) ?_ ?_ e2z rfl rfl
 ·
  refine⟨((((hmm.trans hh5).trans hh6).trans hh7).trans hh8),?_⟩
  replace hu33:=hu33.mono hh8
  refine⟨hu33,hng,?_,Nat.le_trans hml hi3⟩
  refine Nat.pos_of_ne_zero fun e=>?_
  have:=zIC hi2 hi1 e
  omega
 dsimp only
 exact hlt
theorem zA6{w0:World}{h0:Mem}(hs:MLe h0 (mem w0)){q:Rat}{vn vd:Value}(hn:Us .u32 h0 vn (zB q.num.natAbs))(hd:Us .u32 h0 vd (zB (xT q.den))){K:Nat}(hK:K≤4096)(hl:lq q≤500):
    Calls Tryz.prog 96 #[.agg #[vB (q.num<0),vn,vd],vI ↑K] w0 (Ret w0 h0 (fun h r=>∃u,r=.tuple #[u,vB (zC5 q K)]∧Us .u32 h u (zB (flN q K)))):=by
 obtain⟨hs1,hs2,hs3⟩:=iS hl hK
 have hln:=wE q
 have hld:=wB q
 have hrr:=zQH (q.num.natAbs*2^K*2^K) q.den
 have hmm:=zM (Nat.div_le_self (q.num.natAbs*2^K*2^K) (xT q.den))
 refine cb2 38 (.agg #[vB (q.num<0),vn,vd]) (vI ↑K) func96 hs ?_
 refine go2 ?_
 refine zF (xD (cs:=[_,_,_]) rfl rfl) rfl rfl rfl ?_
 intro v2 r2 hr2
 obtain⟨b2,rfl,rfl⟩:=hr2
 refine zR8 ?_
 refine tX ?_
 refine go2 ?_
 refine gv (OpV.tr dC (yL (q:=2) rfl rfl)) rfl ?_
 refine uP ?_
 refine cL (ev2 rfl rfl) call95 (fun w hs=>lW hs hn oM oM oM) fun v17u1 h1 hh1 hr17u1=>?_
 obtain⟨u17u1,rfl,hu17u1⟩:=hr17u1
 try simp only[zC] at hu17u1
 rw[zFW _ _ hK] at hu17u1
 refine go8 ?_
 refine gv ((zY (q:=1) rfl rfl oM oM).cv (show _=vI (1) from rfl)) rfl ?_
 refine go2 ?_
 refine wS ?_
 refine go2 ?_
 refine gv (OpV.tr dC (yL (q:=2) rfl rfl)) rfl ?_
 refine uP ?_
 refine cL (ev2 rfl rfl) call95 (fun w hs=>lW hs hu17u1 oM oM oM) fun v17u2 h2 hh2 hr17u2=>?_
 obtain⟨u17u2,rfl,hu17u2⟩:=hr17u2
 try simp only[zC] at hu17u2
 rw[zFW _ _ hK] at hu17u2
 refine go8 ?_
 refine gv ((zY (q:=1) rfl rfl oM oM).cv (show _=vI (2) from rfl)) rfl ?_
 refine go2 ?_
 refine wS ?_
 refine go2 ?_
 refine gv (OpV.fa dC (yL (q:=2) rfl rfl)) rfl ?_
 replace hd:=hd.mono (hh1.trans hh2)
 refine zR8 ?_
 refine cnd (fun hc24=>?_) fun hc24=>?_
 ·
  refine go9 ?_
  refine vT rfl rfl rfl ?_
  have e:=(mH q.den_nz).1 (zDB.1 hc24)
  rw[yU (fun h=>h (by rw[e,Nat.mod_one])),show flN q K=q.num.natAbs*2^K*2^K by unfold flN;rw[e,Nat.div_one]]
  exact⟨_,rfl,hu17u2⟩
 refine go7 ?_
 refine cL (ev2 rfl rfl) call147 (fun w hs=>eR hs hu17u2 hd oM oM) fun v30u3 h3 hh3 hr30u3=>?_
 obtain⟨q30u3,r30u3,rfl,hq30u3,hr30u3⟩:=hr30u3
 try simp only[zC] at hq30u3 hr30u3 ⊢
 have hlm30u3:=zM (Nat.div_le_self ((((((((q.num.natAbs))*2^K)))*2^K))) (((xT q.den))))
 refine sL ?_
 refine cL (ev1 rfl) call94 (fun w hs=>pP hs hr30u3 oM) fun v36u3 h4 hh4 hr36u3=>?_
 try simp only[zC] at hr36u3
 subst hr36u3
 refine go6 ?_
 refine vT rfl rfl rfl ?_
 replace hq30u3:=hq30u3.mono hh4
 have e:xT q.den=q.den:=cT (fun h=>hc24 (by rw[h,pV,yR];rfl))
 rw[show xT q.den=q.den from e] at hq30u3
 refine⟨_,congrArg (fun z=>Value.tuple #[_,z]) (fL ?_),hq30u3⟩
 rw[e,if_neg q.den_nz]
 unfold zC5
 have:=kT (n:=q.num.natAbs*2^K*2^K%q.den)
 omega
theorem zJT{w0:World}{h0:Mem}(hs:MLe h0 (mem w0)){k:Nat}{vs:Value}{s:(Rat×Rat)}(rs:(rpP (rpQ k) (rpQ k)).Is h0 vs s){n:Int}(hn1:-9223372036854775808≤n)(hn2:n<9223372036854775808)(hcd0:k≤500):
    Calls Tryz.prog 52 #[vs,vI n] w0 (Ret w0 h0 (fun h r=>∃u0,r=.tuple #[u0,vI (rtE s.2)]∧(rpP (rpQ (k+140)) (rpQ (k+140))).Is h u0 (zJ3 s.1 s.2 n,oG s.2 n))):=by
 have hl1:=j2
 have hkn:kN n≤4096:=by unfold kN;omega
 have hk1:=zF3 hkn
 obtain⟨hls1,hls2⟩:=zTV rs
 obtain⟨hlo1,hlo2⟩:=zYX hls1 n
 obtain⟨hhi1,hhi2⟩:=zR1 hls2 n
 obtain⟨hsa1,hsa2,hsa3⟩:=iS hls1 hkn
 obtain⟨hsb1,hsb2,hsb3⟩:=iS hls2 hkn
 have hq1:=zM (zB9 (flN s.2 (kN n)))
 have hq0:=zM (zB9 (flN s.1 (kN n)))
 refine cb2 83 vs (vI n) func52 hs ?_
 refine go2 ?_
 refine nB rs fun b2 cs2 rb2=>(nA (ρ:=(rpP (rpQ (k+140)) (rpQ (k+140)))) (X:=((0:Rat),(0:Rat))) gC (yJ (yF oM) (yF oM)) fun b4 cs4 rb4=>?_)
 refine go7 ?_
 refine lX (xB yA (Pc.snd pH) rb2) fun v19 r19=>(cL (ev1 rfl) call51 (fun w hs=>iY hs r19 oM) fun v20 h1 hh1 r20=>?_)
 obtain rfl:v20=vI (xH s.2):=r20
 have hsr20:=wH s.2
 refine go3 ?_
 refine cnd (fun hc21=>?_) fun hc21=>?_
 ·
  have hneg:=qE.1 hc21
  refine go2 ?_
  refine lX (xV (ρ:=(rpP (rpQ 1) (rpQ 1))) (wC (ps':=[]) underlying34 gC rfl rfl (lH underlying34) trivial rfl (yJ (yF dC) (yF dC)) zX)) fun v22 r22=>?_
  replace rb4:=rb4.mono hh1
  refine zR (A:=[]) (uB sizeOf34 pH rb4 (r22.le (Le.p (Le.q (l:=k+140) oM) (Le.q (l:=k+140) oM)))) fun cs_1 rb_2=>?_
  refine go5 ?_
  refine wL (jZ (t:=4) zG5 mh0 rfl rb_2) ?_
  intro w_3 hvw_3 rr_4
  refine yE (fun E S=>vW rfl hvw_3 (jP rfl) E S) ?_
  refine⟨_,?_,(Rp.Is.cast rr_4 (by unfold zJ3 oG;rw[if_pos hneg,if_pos hneg]))⟩
  unfold rtE;rw[if_pos hneg]
 have hneg:¬s.2<0:=fun e=>hc21 (qE.2 e)
 refine go5 ?_
 refine gv (zHW (q:=0) rfl rfl) rfl (gv (zQY (q:=4096) rfl rfl) rfl ?_)
 rw[show min (max n 0) 4096=(↑(kN n):Int) by unfold kN;omega]
 refine go5 ?_
 refine zF (kQ (kd:=.u32) (p:=1) underlying22 wK rfl rfl rfl) rfl rfl rfl ?_
 intro v27 r27 hr27
 obtain rfl:=hr27
 refine yG (by intro z hz;simp only[List.mem_singleton] at hz;subst hz;decide) ?_
 intro h2 hh2 hone4
 rw[rV] at hone4
 refine go1 ?_
 refine cL (ev2 rfl rfl) call95 (fun w hs=>lW hs hone4 oM oM oM) fun v29 h3 hh3 hr29=>?_
 obtain⟨u29,rfl,hu29⟩:=hr29
 try simp only[zC] at hu29
 rw[zFW _ _ hkn,Nat.one_mul] at hu29
 refine uN ?_
 refine qK (ι:=Value×Mem) (fun(v8,m1)=>MLe h3 m1∧(Us .u32 m1 v8 (zB (loN s.1 (kN n))))) (fun(v8,m1)=>[(1,vI ↑(kN n)),(2,vP b2 0),(4,vP b4 0),(6,u29),(8,v8)]) (fun(v8,m1)=>[.var b4 34 cs4,.var b2 34 cs2]) (fun(v8,m1)=>m1) ?_ ?_
 ·
  refine go3 ?_
  replace rb2:=rb2.mono ((hh1.trans hh2).trans hh3)
  refine lX (xB yA (Pc.fst pH) rb2) fun v33 r33=>(cL (ev1 rfl) call51 (fun w hs=>iY hs r33 oM) fun v34 h4 hh4 r34=>?_)
  obtain rfl:v34=vI (xH s.1):=r34
  have hsr34:=wH s.1
  refine go3 ?_
  refine cnd (fun hc35=>?_) fun hc35=>?_
  ·
   refine go3 ?_
   replace rb2:=rb2.mono hh4
   refine lX (xB yA (Pc.fst pH) rb2) fun v38 r38=>?_
   refine go1 ?_
   obtain⟨vn38_5,vd38_5,hv38_5,hn38_5,hd38_5,hlq38_5⟩:=qI r38
   subst hv38_5
   refine cL (ev2 rfl rfl) call96 (fun w hs=>zA6 hs hn38_5 hd38_5 oM oM) fun v40 h5 hh5 hr40=>?_
   obtain⟨u40,rfl,hu40⟩:=hr40
   refine go9 ?_
   refine cL (ev1 rfl) call97 (fun w hs=>zEJ hs hu40 oM) fun v44 h6 hh6 hr44=>?_
   refine go2 ?_
   refine zN (v44,h6) ?_ e5 rfl rfl
   refine⟨((hh4.trans hh5).trans hh6),?_⟩
   have e:loN s.1 (kN n)=sqN (flN s.1 (kN n)):=if_pos hc35
   rw[e]
   exact hr44
  refine go1 ?_
  refine zN ((.slice none 0 0),h4) ?_ e5 rfl rfl
  refine⟨hh4,?_⟩
  have e:loN s.1 (kN n)=0:=if_neg hc35
  rw[e,yR]
  exact Us.nil _ _
 intro x hx
 obtain⟨v8,m1⟩:=x
 obtain⟨hmm1,hv8⟩:=hx
 refine yS ?_
 refine go3 ?_
 replace rb2:=rb2.mono (((hh1.trans hh2).trans hh3).trans hmm1)
 refine lX (xB yA (Pc.snd pH) rb2) fun v47 r47=>?_
 refine go1 ?_
 obtain⟨vn47_6,vd47_6,hv47_6,hn47_6,hd47_6,hlq47_6⟩:=qI r47
 subst hv47_6
 refine cL (ev2 rfl rfl) call96 (fun w hs=>zA6 hs hn47_6 hd47_6 oM oM) fun v49 h4 hh4 hr49=>?_
 obtain⟨u49,rfl,hu49⟩:=hr49
 refine vO ?_
 refine cL (ev1 rfl) call97 (fun w hs=>zEJ hs hu49 oM) fun v53 h5 hh5 hr53=>?_
 refine go3 ?_
 refine qK (ι:=Value×Mem) (fun(v13,m2)=>MLe h5 m2∧(Us .u32 m2 v13 (zB (hiN s.2 (kN n))))) (fun(v13,m2)=>[(4,vP b4 0),(6,u29),(8,v8),(13,v13)]) (fun(v13,m2)=>[.var b4 34 cs4,.var b2 34 cs2]) (fun(v13,m2)=>m2) ?_ ?_
 ·
  refine go3 ?_
  refine uO (ι:=Mem) 8 (fun m_=>MLe h5 m_) (fun _=>[(62,vB ((zC5 s.2 (kN n))∨((tD ((((((sqN ((flN s.2 (kN n))))))*(((sqN ((flN s.2 (kN n))))))))) (((flN s.2 (kN n)))))<(0:Int)))),(4,vP b4 0),(6,u29),(8,v8),(13,v53)]) (fun _=>[.var b4 34 cs4,.var b2 34 cs2]) (fun m_=>m_) ?_ ?_
  ·
   refine yB (zC5 s.2 (kN n)) (fun hg=>?_) (fun hg=>?_)
   ·
    refine gT hg rfl ?_
    refine go8 ?_
    refine zN h5 (MLe.refl _) ⟨?_,rfl,rfl,rfl,rfl,trivial⟩ rfl rfl
    exact congrArg some (uA hg)
   refine gF hg rfl ?_
   refine go5 ?_
   refine cL (ev2 rfl rfl) call99 (fun w hs=>fN hs hr53 hr53 oM oM) fun v58 h6 hh6 hr58=>?_
   try simp only[zC] at hr58
   have hlm58:=yC (((sqN ((flN s.2 (kN n)))))) (((sqN ((flN s.2 (kN n))))))
   refine go3 ?_
   replace hu49:=hu49.mono (hh5.trans hh6)
   refine cL (ev2 rfl rfl) call98 (fun w hs=>eS hs hr58 hu49) fun v60 h7 hh7 hr60=>?_
   try simp only[zC] at hr60
   subst hr60
   refine go4 ?_
   refine zN h7 (hh6.trans hh7) ⟨?_,rfl,rfl,rfl,rfl,trivial⟩ rfl rfl
   exact congrArg some (uC hg)
  intro mg11_1 hmmg11_1
  refine tJ ?_
  refine go2 ?_
  refine cnd (fun hc62=>?_) fun hc62=>?_
  ·
   refine go2 ?_
   refine zF (kQ (kd:=.u32) (p:=1) underlying22 wK rfl rfl rfl) rfl rfl rfl ?_
   intro v64 r64 hr64
   obtain rfl:=hr64
   refine yG (by intro z hz;simp only[List.mem_singleton] at hz;subst hz;decide) ?_
   intro h6 hh6 hone12
   rw[rV] at hone12
   replace hr53:=hr53.mono (hmmg11_1.trans hh6)
   refine cL (ev2 rfl rfl) call100 (fun w hs=>aG hs hr53 hone12 oM oM) fun v65 h7 hh7 hr65=>?_
   try simp only[zC] at hr65
   have hlm65:=uE (((sqN ((flN s.2 (kN n)))))) ((1))
   refine go2 ?_
   refine zN (v65,h7) ?_ e4z rfl rfl
   refine⟨((hmmg11_1.trans hh6).trans hh7),?_⟩
   have e:hiN s.2 (kN n)=sqN (flN s.2 (kN n))+1:=if_pos hc62
   rw[e]
   exact hr65
  refine go1 ?_
  refine zN (v53,mg11_1) ?_ e4z rfl rfl
  refine⟨hmmg11_1,?_⟩
  replace hr53:=hr53.mono hmmg11_1
  have e:hiN s.2 (kN n)=sqN (flN s.2 (kN n)):=if_neg hc62
  rw[e]
  exact hr53
 intro x hx
 obtain⟨v13,m2⟩:=x
 obtain⟨hmm2,hv13⟩:=hx
 refine yS ?_
 refine go4 ?_
 replace hu29:=hu29.mono (((hmm1.trans hh4).trans hh5).trans hmm2)
 replace hv8:=hv8.mono ((hh4.trans hh5).trans hmm2)
 refine gv (yO (ps':=[(1,_),(2,_)]) (vs:=[.bool false,v8,u29]) underlying26 yN rfl (vD underlying26) e4z (yX (A:=[_]) (B:=[_]) (C:=[_]) (cs:=[_]) (off:=1) (size:=1) rfl rfl rfl rfl hv8.cells (yX (A:=[_,_]) (B:=[_]) (C:=[]) (cs:=[_]) (off:=2) (size:=1) rfl rfl rfl rfl hu29.cells vZ))) rfl (cL (ev1 rfl) call101 (fun w hs=>zHN hs (yU (p:=False) id).symm hv8 hu29 oM oM) fun v70 h6 hh6 hr70=>?_)
 obtain⟨_,rfl,vn70,vd70,rfl,hn70,hd70⟩:=hr70
 have hlq70:=zMR (False) (zB (loN s.1 (kN n))) (zB (2^kN n))
 rw[zMH] at hn70 hd70 hlq70 ⊢
 refine go3 ?_
 refine nA (ρ:=(rpQ (k+140))) (X:=(0:Rat)) yN (yF oM) fun b14 cs14 rb14=>(zR (A:=[]) (uB sizeOf26 pH rb14 (mW ⟨_,_,rfl,hn70,hd70⟩ oM)) fun cs_7 rb_8=>?_)
 refine go7 ?_
 replace hu29:=hu29.mono hh6
 replace hv13:=hv13.mono hh6
 refine gv (yO (ps':=[(1,_),(2,_)]) (vs:=[.bool false,v13,u29]) underlying26 yN rfl (vD underlying26) e4z (yX (A:=[_]) (B:=[_]) (C:=[_]) (cs:=[_]) (off:=1) (size:=1) rfl rfl rfl rfl hv13.cells (yX (A:=[_,_]) (B:=[_]) (C:=[]) (cs:=[_]) (off:=2) (size:=1) rfl rfl rfl rfl hu29.cells vZ))) rfl (cL (ev1 rfl) call101 (fun w hs=>zHN hs (yU (p:=False) id).symm hv13 hu29 oM oM) fun v77 h7 hh7 hr77=>?_)
 obtain⟨_,rfl,vn77,vd77,rfl,hn77,hd77⟩:=hr77
 have hlq77:=zMR (False) (zB (hiN s.2 (kN n))) (zB (2^kN n))
 rw[zMH] at hn77 hd77 hlq77 ⊢
 refine go3 ?_
 refine nA (ρ:=(rpQ (k+140))) (X:=(0:Rat)) yN (yF oM) fun b16 cs16 rb16=>(zR (A:=[]) (uB sizeOf26 pH rb16 (mW ⟨_,_,rfl,hn77,hd77⟩ oM)) fun cs_9 rb_10=>?_)
 refine go5 ?_
 replace rb_8:=rb_8.mono hh7
 refine lX (xB yA pH rb_8) fun v80 r80=>(lX (xB yA pH rb_10) fun v81 r81=>(lX (xV (ρ:=(rpP (rpQ (k+140)) (rpQ (k+140)))) (wC (ps':=[(0,_),(1,_)]) underlying34 gC rfl rfl (lH underlying34) e4z rfl (yJ (yF oM) (yF oM)) (zI rfl (Pc.fst (Pc.here _)) r80 (zI rfl (Pc.snd (Pc.here _)) r81 zX)))) fun v82 r82=>?_))
 replace rb4:=rb4.mono ((((((((hh1.trans hh2).trans hh3).trans hmm1).trans hh4).trans hh5).trans hmm2).trans hh6).trans hh7)
 refine zR (A:=[_,_]) (uB sizeOf34 pH rb4 r82) fun cs_11 rb_12=>?_
 refine go4 ?_
 refine wL (jZ (t:=4) zG5 mh2 rfl rb_12) ?_
 intro w_13 hvw_13 rr_14
 refine yE (fun E S=>vW rfl hvw_13 (jP rfl) E S) ?_
 refine⟨_,?_,(Rp.Is.cast rr_14 (by unfold zJ3;rw[if_neg hneg,←yBD,zWM hneg]))⟩
 unfold rtE;rw[if_neg hneg]
end Go.Proofs.YtboaboflnckgoaaGreat
namespace Go.Proofs.YtboaboflnckgoaaGreat
open Bk Go Tryz
set_option linter.unusedVariables false
set_option linter.unusedSimpArgs false
set_option maxRecDepth 10000
set_option maxHeartbeats 1000000
attribute [local irreducible] GL GC GQ W OpV
theorem zGB{w0:World}{h0:Mem}(hs:MLe h0 (mem w0)){k:Nat}{va:Value}{a:Rat}(ra:(rpQ k).Is h0 va a)(hcd0:k≤4000000000):
    Calls Tryz.prog 53 #[va] w0 (Ret w0 h0 (fun h r=>(rpP (rpQ k) (rpQ k)).Is h r (a,a))):=by
  obtain⟨vna,vda,rfl,hna,hda,hla⟩:=qI ra
  exact(zJU hs hna hda oM).mono (kD fun h r x=>zWJ x oM oM)
theorem zKN{w0:World}{h0:Mem}(hs:MLe h0 (mem w0)){k l:Nat}{va:Value}{a:(Rat×Rat)}(ra:(rpP (rpQ k) (rpQ k)).Is h0 va a){vb:Value}{b:(Rat×Rat)}(rb:(rpP (rpQ l) (rpQ l)).Is h0 vb b)(hcd0:k+l≤4000000000):
    Calls Tryz.prog 89 #[va,vb] w0 (Ret w0 h0 (fun h r=>(rpP (rpQ (k+l+1)) (rpQ (k+l+1))).Is h r (yBX a b))):=by
  obtain⟨vna0,vda0,vna1,vda1,rfl,hna0,hda0,hna1,hda1,hla0,hla1⟩:=zMD ra
  obtain⟨vnb0,vdb0,vnb1,vdb1,rfl,hnb0,hdb0,hnb1,hdb1,hlb0,hlb1⟩:=zMD rb
  exact(zPS hs hna0 hda0 hna1 hda1 hnb0 hdb0 hnb1 hdb1 oM oM oM oM).mono (kD fun h r x=>zWJ x (by have:=qZ a.1 b.1;have:=qZ a.2 b.2;omega) (by have:=qZ a.1 b.1;have:=qZ a.2 b.2;omega))
end Go.Proofs.YtboaboflnckgoaaGreat
namespace Go.Proofs.YtboaboflnckgoaaGreat
open Bk Go Tryz
set_option linter.unusedVariables false
set_option linter.unusedSimpArgs false
set_option maxRecDepth 10000
set_option maxHeartbeats 1000000
attribute [local irreducible] GL GC GQ W OpV
theorem zRS{w0:World}{h0:Mem}(hs:MLe h0 (mem w0)){n m:Int}(hm:0<m)(hm2:m<4611686018427387904):
    Calls Tryz.prog 12 #[vI n,vI m] w0 (Ret w0 h0 (fun _ r=>r=vI (zD8 n m))):=by
 have htr:=zB7 n hm
 refine cb2 14 (vI n) (vI m) func12 hs ?_
 refine go9 ?_
 refine gv (zN2 rfl rfl oM) rfl ?_
 refine vO ?_
 refine cnd (fun hc9=>?_) fun hc9=>?_
 ·
  refine tV ?_
  refine zD rfl rfl ?_
  rw[zD8,if_pos hc9]
 refine go9 ?_
 refine zD rfl rfl ?_
 rw[zD8,if_neg hc9]
theorem zK9{w0:World}{h0:Mem}(hs:MLe h0 (mem w0)){vl:Value}{xs:List Int}(hl:Is h0 vl xs):
    Calls Tryz.prog 19 #[vl] w0 (Ret w0 h0 (fun _ r=>r=vB ((↑xs.length:Int)≤500))):=by
 refine cb1 6 vl func19 hs ?_
 refine go8 ?_
 refine gv (zES underlying32 rfl hl) rfl ?_
 refine go5 ?_
 refine zD rfl rfl ?_
 rfl
theorem zOL{w0:World}{h0:Mem}(hs:MLe h0 (mem w0)){vl:Value}{xs:List Int}(hl:Is h0 vl xs):
    Calls Tryz.prog 20 #[vl] w0 (sQ w0 h0 (fun _ r L=>∃b,r=vP b 0∧L=[.var b 97 [vl,vI ↑0]])):=by
 refine cb1 6 vl func20 hs ?_
 refine go8 ?_
 refine gv (yO (ps':=[(0,_)]) (vs:=[vl,vI 0]) underlying97 zR6 rfl (zQS underlying97) e2z (yX (A:=[]) (B:=[_]) (C:=[_]) (cs:=[_]) (off:=0) (size:=1) rfl rfl rfl rfl hl.cells vZ)) rfl (zF (xD (cs:=[_,_]) rfl rfl) rfl rfl rfl ?_)
 intro v5 r5 hr5
 obtain⟨b5,rfl,rfl⟩:=hr5
 refine go4 ?_
 refine jU rfl rfl ?_
 exact⟨_,rfl,rfl⟩
theorem bC{w0 w:World}{h0 h:Mem}{b k:Nat}{vl:Value}{xs:List Int}(hl:Is h vl xs)(hk:k≤xs.length){n:Int}(hn:0<n)(hn2:n<4611686018427387904){L:List Res}(hs:St w0 h0 (.var b 97 [vl,vI ↑k]::L) h w):
    Calls Tryz.prog 33 #[vP b 0,vI n] w (zDW w0 h0 h L (fun g r q'=>∃k':Nat,∃z,q'=.var b 97 [vl,vI ↑k']∧k'≤xs.length∧(r=vI z∧0≤z∧z<n))):=by
 have hlen:=hl.lt63
 refine rJ (n:=35) (e:=[(0,vP b 0),(1,vI n)]) (vs:=[vP b 0,vI n]) func33 rfl rfl (bL rfl) hs e2z ?_
 refine go7 ?_
 refine gD 10 (qq 0 10 []) (by kernel_rfl) ?_
 refine go1 ?_
 refine xJ rfl (fun _ _=>fU rfl) rfl ?_
 refine go3 ?_
 refine xJ rfl (fun _ _=>fU rfl) rfl ?_
 refine go2 ?_
 refine w_q rfl (fun h' L' hh hR=>zES underlying32 rfl (hl.mono hh)) rfl ?_
 refine go3 ?_
 refine cnd (fun hc14=>?_) fun hc14=>?_
 ·
  refine go7 ?_
  refine jU rfl rfl ?_
  exact⟨_,(List.Sublist.refl _),(MLe.refl _),k,0,rfl,hk,rfl,by omega,hn⟩
 refine go5 ?_
 refine gv (fU rfl) rfl ?_
 refine go3 ?_
 refine gv (fU rfl) rfl ?_
 refine go1 ?_
 refine xO (A:=[]) (r':=.var b 97 [vl,vI ((↑k:Int)+(1:Int))]) (zG (k:=1) (cs:=[_,_]) (vs:=[_]) rfl rfl rfl rfl zV4 (bL rfl)) rfl rfl rfl ?_
 refine go3 ?_
 refine gD 14 (qq 0 12 [(12,.c),(13,.q)]) (by kernel_rfl) ?_
 refine go1 ?_
 refine xJ rfl (fun _ _=>fU rfl) rfl ?_
 refine go3 ?_
 refine xJ rfl (fun _ _=>fU rfl) rfl ?_
 refine go3 ?_
 refine w_q rfl (fun h' L' hh hR=>zHZ (k) underlying32 sizeOf3 rfl rfl (hl.mono hh) oM oM) rfl (w_q rfl (fun h' L' hh hR=>zKE isAgg3 rfl (hl.mono hh) oM) rfl ?_)
 refine go1 ?_
 refine w_c rfl (sC (ev2 rfl rfl) call12 (fun w hs=>zRS hs oM oM) fun v34 h1 hh1 hr34=>?_)
 have hmz34:=zK5 ((xs).getD (k) 0) (q:=n) oM
 subst hr34
 refine go4 ?_
 refine jU rfl rfl ?_
 exact⟨_,(List.Sublist.refl _),hh1,k+1,_,rfl,by omega,rfl,hmz34.1,hmz34.2⟩
end Go.Proofs.YtboaboflnckgoaaGreat
namespace Go.Proofs.YtboaboflnckgoaaGreat
open Bk Go Tryz
set_option linter.unusedVariables false
set_option linter.unusedSimpArgs false
set_option maxRecDepth 10000
set_option maxHeartbeats 1000000
attribute [local irreducible] GL GC GQ W OpV
end Go.Proofs.YtboaboflnckgoaaGreat
namespace Go.Proofs.YtboaboflnckgoaaGreat
open Bk Go Tryz
set_option linter.unusedVariables false
set_option linter.unusedSimpArgs false
set_option maxRecDepth 10000
set_option maxHeartbeats 1000000
attribute [local irreducible] GL GC GQ W OpV
end Go.Proofs.YtboaboflnckgoaaGreat
namespace Go.Proofs.YtboaboflnckgoaaGreat
open Bk Go Tryz
set_option linter.unusedVariables false
set_option linter.unusedSimpArgs false
set_option maxRecDepth 10000
set_option maxHeartbeats 1000000
attribute [local irreducible] GL GC GQ W OpV
theorem zRB{w0:World}{h0:Mem}(hs:MLe h0 (mem w0)){k l:Nat}{va:Value}{a:Tq}(ra:(tPt k).Is h0 va a){vb:Value}{b:Tq}(rb:(tPt l).Is h0 vb b)(hcd0:k+l≤1000000000):
    Calls Tryz.prog 34 #[va,vb] w0 (Ret w0 h0 (fun h r=>(tPt (k+3*l+3)).Is h r (T3.mk (a.x+b.x) (a.y+b.y) (a.z+b.z)))):=by
 refine cb2 20 va vb func34 hs ?_
 refine go2 ?_
 refine nB ra fun b2 cs2 rb2=>(nB rb fun b3 cs3 rb3=>(nA (ρ:=(tPt (k+3*l+3))) (X:=zT) yV (xW (yF oM)) fun b4 cs4 rb4=>?_))
 refine go9 ?_
 refine tX ?_
 refine go4 ?_
 refine gv (OpV.tr dC (yL (q:=3) rfl rfl)) rfl ?_
 refine go7 ?_
 refine gD 9 (qq 0 7 [(7,.c),(8,.q),(9,.t)]) (by kernel_rfl) ?_
 refine go3 ?_
 refine wX rfl (xB yA (Pc.tx pH) rb2) fun v13u1 r13u1=>?_
 refine go2 ?_
 refine wX rfl (xB yA (Pc.tx pH) rb3) fun v16u1 r16u1=>?_
 refine w_c rfl (sC (ev2 rfl rfl) call37 (fun w hs=>kB hs r13u1 r16u1 oM) fun v17u1 h1 hh1 r17u1=>?_)
 change (rpQ (k+l+1)).Is h1 v17u1 (a.x+b.x) at r17u1
 refine go1 ?_
 replace rb2:=rb2.mono hh1
 have rw_1:=(Le.t (Le.q (l:=k+l+1) oM)).R rb2
 refine yI (A:=[_,_]) rfl (uB sizeOf26 (Pc.tx pH) rw_1 r17u1) fun cs_2 rb_3=>?_
 refine go5 ?_
 refine gv ((zY (q:=1) rfl rfl oM oM).cv (show _=vI (1) from rfl)) rfl ?_
 refine go2 ?_
 refine wS ?_
 refine go4 ?_
 refine gv (OpV.tr dC (yL (q:=3) rfl rfl)) rfl ?_
 refine go7 ?_
 refine gD 9 (qq 0 7 [(7,.c),(8,.q),(9,.t)]) (by kernel_rfl) ?_
 refine go3 ?_
 refine wX rfl (xB yA (Pc.ty pH) rb_3) fun v13u2 r13u2=>?_
 refine go2 ?_
 refine wX rfl (xB yA (Pc.ty pH) rb3) fun v16u2 r16u2=>?_
 refine w_c rfl (sC (ev2 rfl rfl) call37 (fun w hs=>kB hs r13u2 r16u2 oM) fun v17u2 h2 hh2 r17u2=>?_)
 change (rpQ ((k+l+1)+l+1)).Is h2 v17u2 (a.y+b.y) at r17u2
 replace r17u2:=Rp.Is.le r17u2 (Le.q (l:=k+2*l+2) oM)
 refine go1 ?_
 replace rb_3:=rb_3.mono hh2
 have rw_4:=(Le.t (Le.q (l:=k+2*l+2) oM)).R rb_3
 refine yI (A:=[_,_]) rfl (uB sizeOf26 (Pc.ty pH) rw_4 r17u2) fun cs_5 rb_6=>?_
 refine go5 ?_
 refine gv ((zY (q:=1) rfl rfl oM oM).cv (show _=vI (2) from rfl)) rfl ?_
 refine go2 ?_
 refine wS ?_
 refine go4 ?_
 refine gv (OpV.tr dC (yL (q:=3) rfl rfl)) rfl ?_
 refine go7 ?_
 refine gD 9 (qq 0 7 [(7,.c),(8,.q),(9,.t)]) (by kernel_rfl) ?_
 refine go3 ?_
 refine wX rfl (xB yA (Pc.tz pH) rb_6) fun v13u3 r13u3=>?_
 refine go2 ?_
 refine wX rfl (xB yA (Pc.tz pH) rb3) fun v16u3 r16u3=>?_
 refine w_c rfl (sC (ev2 rfl rfl) call37 (fun w hs=>kB hs r13u3 r16u3 oM) fun v17u3 h3 hh3 r17u3=>?_)
 change (rpQ ((k+2*l+2)+l+1)).Is h3 v17u3 (a.z+b.z) at r17u3
 replace r17u3:=Rp.Is.le r17u3 (Le.q (l:=k+3*l+3) oM)
 refine go1 ?_
 replace rb_6:=rb_6.mono hh3
 have rw_7:=(Le.t (Le.q (l:=k+3*l+3) oM)).R rb_6
 refine yI (A:=[_,_]) rfl (uB sizeOf26 (Pc.tz pH) rw_7 r17u3) fun cs_8 rb_9=>?_
 refine go5 ?_
 refine gv ((zY (q:=1) rfl rfl oM oM).cv (show _=vI (3) from rfl)) rfl ?_
 refine go2 ?_
 refine wS ?_
 refine go4 ?_
 refine gv (OpV.fa dC (yL (q:=3) rfl rfl)) rfl ?_
 refine vO ?_
 refine lX (xB zS pH rb_9) fun v19u4 r19u4=>(zR (A:=[]) (uB sizeOf53 pH rb4 r19u4) fun cs_10 rb_11=>?_)
 refine go3 ?_
 refine wL (jZ (t:=4) zS mh0 rfl rb_11) ?_
 intro w_12 hvw_12 rr_13
 refine yE (fun E S=>zP rfl hvw_12 E S) ?_
 exact rr_13
theorem zRA{w0:World}{h0:Mem}(hs:MLe h0 (mem w0)){k l:Nat}{va:Value}{a:Tq}(ra:(tPt k).Is h0 va a){vb:Value}{b:Tq}(rb:(tPt l).Is h0 vb b)(hcd0:k+l≤1000000000):
    Calls Tryz.prog 125 #[va,vb] w0 (Ret w0 h0 (fun h r=>(tPt (k+3*l+3)).Is h r (T3.mk (a.x-b.x) (a.y-b.y) (a.z-b.z)))):=by
 refine cb2 20 va vb func125 hs ?_
 refine go2 ?_
 refine nB ra fun b2 cs2 rb2=>(nB rb fun b3 cs3 rb3=>(nA (ρ:=(tPt (k+3*l+3))) (X:=zT) yV (xW (yF oM)) fun b4 cs4 rb4=>?_))
 refine go9 ?_
 refine tX ?_
 refine go4 ?_
 refine gv (OpV.tr dC (yL (q:=3) rfl rfl)) rfl ?_
 refine go7 ?_
 refine gD 9 (qq 0 7 [(7,.c),(8,.q),(9,.t)]) (by kernel_rfl) ?_
 refine go3 ?_
 refine wX rfl (xB yA (Pc.tx pH) rb2) fun v13u5 r13u5=>?_
 refine go2 ?_
 refine wX rfl (xB yA (Pc.tx pH) rb3) fun v16u5 r16u5=>?_
 refine w_c rfl (sC (ev2 rfl rfl) call16 (fun w hs=>bN hs r13u5 r16u5 oM) fun v17u5 h1 hh1 r17u5=>?_)
 change (rpQ (k+l+1)).Is h1 v17u5 (a.x-b.x) at r17u5
 refine go1 ?_
 replace rb2:=rb2.mono hh1
 have rw_14:=(Le.t (Le.q (l:=k+l+1) oM)).R rb2
 refine yI (A:=[_,_]) rfl (uB sizeOf26 (Pc.tx pH) rw_14 r17u5) fun cs_15 rb_16=>?_
 refine go5 ?_
 refine gv ((zY (q:=1) rfl rfl oM oM).cv (show _=vI (1) from rfl)) rfl ?_
 refine go2 ?_
 refine wS ?_
 refine go4 ?_
 refine gv (OpV.tr dC (yL (q:=3) rfl rfl)) rfl ?_
 refine go7 ?_
 refine gD 9 (qq 0 7 [(7,.c),(8,.q),(9,.t)]) (by kernel_rfl) ?_
 refine go3 ?_
 refine wX rfl (xB yA (Pc.ty pH) rb_16) fun v13u6 r13u6=>?_
 refine go2 ?_
 refine wX rfl (xB yA (Pc.ty pH) rb3) fun v16u6 r16u6=>?_
 refine w_c rfl (sC (ev2 rfl rfl) call16 (fun w hs=>bN hs r13u6 r16u6 oM) fun v17u6 h2 hh2 r17u6=>?_)
 change (rpQ ((k+l+1)+l+1)).Is h2 v17u6 (a.y-b.y) at r17u6
 replace r17u6:=Rp.Is.le r17u6 (Le.q (l:=k+2*l+2) oM)
 refine go1 ?_
 replace rb_16:=rb_16.mono hh2
 have rw_17:=(Le.t (Le.q (l:=k+2*l+2) oM)).R rb_16
 refine yI (A:=[_,_]) rfl (uB sizeOf26 (Pc.ty pH) rw_17 r17u6) fun cs_18 rb_19=>?_
 refine go5 ?_
 refine gv ((zY (q:=1) rfl rfl oM oM).cv (show _=vI (2) from rfl)) rfl ?_
 refine go2 ?_
 refine wS ?_
 refine go4 ?_
 refine gv (OpV.tr dC (yL (q:=3) rfl rfl)) rfl ?_
 refine go7 ?_
 refine gD 9 (qq 0 7 [(7,.c),(8,.q),(9,.t)]) (by kernel_rfl) ?_
 refine go3 ?_
 refine wX rfl (xB yA (Pc.tz pH) rb_19) fun v13u7 r13u7=>?_
 refine go2 ?_
 refine wX rfl (xB yA (Pc.tz pH) rb3) fun v16u7 r16u7=>?_
 refine w_c rfl (sC (ev2 rfl rfl) call16 (fun w hs=>bN hs r13u7 r16u7 oM) fun v17u7 h3 hh3 r17u7=>?_)
 change (rpQ ((k+2*l+2)+l+1)).Is h3 v17u7 (a.z-b.z) at r17u7
 replace r17u7:=Rp.Is.le r17u7 (Le.q (l:=k+3*l+3) oM)
 refine go1 ?_
 replace rb_19:=rb_19.mono hh3
 have rw_20:=(Le.t (Le.q (l:=k+3*l+3) oM)).R rb_19
 refine yI (A:=[_,_]) rfl (uB sizeOf26 (Pc.tz pH) rw_20 r17u7) fun cs_21 rb_22=>?_
 refine go5 ?_
 refine gv ((zY (q:=1) rfl rfl oM oM).cv (show _=vI (3) from rfl)) rfl ?_
 refine go2 ?_
 refine wS ?_
 refine go4 ?_
 refine gv (OpV.fa dC (yL (q:=3) rfl rfl)) rfl ?_
 refine vO ?_
 refine lX (xB zS pH rb_22) fun v19u8 r19u8=>(zR (A:=[]) (uB sizeOf53 pH rb4 r19u8) fun cs_23 rb_24=>?_)
 refine go3 ?_
 refine wL (jZ (t:=4) zS mh0 rfl rb_24) ?_
 intro w_25 hvw_25 rr_26
 refine yE (fun E S=>zP rfl hvw_25 E S) ?_
 exact rr_26
theorem zKR{w0:World}{h0:Mem}(hs:MLe h0 (mem w0)){l k:Nat}{vq:Value}{q:Rat}(rq:(rpQ l).Is h0 vq q){va:Value}{a:Tq}(ra:(tPt k).Is h0 va a)(hcd0:k+l≤1000000000):
    Calls Tryz.prog 111 #[vq,va] w0 (Ret w0 h0 (fun h r=>(tPt (k+3*l+1)).Is h r (T3.mk (q*a.x) (q*a.y) (q*a.z)))):=by
 refine cb2 18 vq va func111 hs ?_
 refine go2 ?_
 refine nB rq fun b2 cs2 rb2=>(nB ra fun b3 cs3 rb3=>(nA (ρ:=(tPt (k+3*l+1))) (X:=zT) yV (xW (yF oM)) fun b4 cs4 rb4=>?_))
 refine go9 ?_
 refine tX ?_
 refine go4 ?_
 refine gv (OpV.tr dC (yL (q:=3) rfl rfl)) rfl ?_
 refine go7 ?_
 refine gD 7 (qq 0 5 [(5,.c),(6,.q),(7,.t)]) (by kernel_rfl) ?_
 refine go1 ?_
 refine wX rfl (xB yA pH rb2) fun v11u9 r11u9=>?_
 refine go2 ?_
 refine wX rfl (xB yA (Pc.tx pH) rb3) fun v14u9 r14u9=>?_
 refine w_c rfl (sC (ev2 rfl rfl) call9 (fun w hs=>wN hs r11u9 r14u9 oM) fun v15u9 h1 hh1 r15u9=>?_)
 change (rpQ (l+k)).Is h1 v15u9 (q*a.x) at r15u9
 replace r15u9:=Rp.Is.le r15u9 (Le.q (l:=k+l) oM)
 refine go1 ?_
 replace rb3:=rb3.mono hh1
 have rw_27:=(Le.t (Le.q (l:=k+l) oM)).R rb3
 refine yI (A:=[_]) rfl (uB sizeOf26 (Pc.tx pH) rw_27 r15u9) fun cs_28 rb_29=>?_
 refine go5 ?_
 refine gv ((zY (q:=1) rfl rfl oM oM).cv (show _=vI (1) from rfl)) rfl ?_
 refine go2 ?_
 refine wS ?_
 refine go4 ?_
 refine gv (OpV.tr dC (yL (q:=3) rfl rfl)) rfl ?_
 refine go7 ?_
 refine gD 7 (qq 0 5 [(5,.c),(6,.q),(7,.t)]) (by kernel_rfl) ?_
 refine go1 ?_
 refine wX rfl (xB yA pH rb2) fun v11u10 r11u10=>?_
 refine go2 ?_
 refine wX rfl (xB yA (Pc.ty pH) rb_29) fun v14u10 r14u10=>?_
 refine w_c rfl (sC (ev2 rfl rfl) call9 (fun w hs=>wN hs r11u10 r14u10 oM) fun v15u10 h2 hh2 r15u10=>?_)
 change (rpQ (l+(k+l))).Is h2 v15u10 (q*a.y) at r15u10
 replace r15u10:=Rp.Is.le r15u10 (Le.q (l:=k+2*l) oM)
 refine go1 ?_
 replace rb_29:=rb_29.mono hh2
 have rw_30:=(Le.t (Le.q (l:=k+2*l) oM)).R rb_29
 refine yI (A:=[_]) rfl (uB sizeOf26 (Pc.ty pH) rw_30 r15u10) fun cs_31 rb_32=>?_
 refine go5 ?_
 refine gv ((zY (q:=1) rfl rfl oM oM).cv (show _=vI (2) from rfl)) rfl ?_
 refine go2 ?_
 refine wS ?_
 refine go4 ?_
 refine gv (OpV.tr dC (yL (q:=3) rfl rfl)) rfl ?_
 refine go7 ?_
 refine gD 7 (qq 0 5 [(5,.c),(6,.q),(7,.t)]) (by kernel_rfl) ?_
 refine go1 ?_
 refine wX rfl (xB yA pH rb2) fun v11u11 r11u11=>?_
 refine go2 ?_
 refine wX rfl (xB yA (Pc.tz pH) rb_32) fun v14u11 r14u11=>?_
 refine w_c rfl (sC (ev2 rfl rfl) call9 (fun w hs=>wN hs r11u11 r14u11 oM) fun v15u11 h3 hh3 r15u11=>?_)
 change (rpQ (l+(k+2*l))).Is h3 v15u11 (q*a.z) at r15u11
 replace r15u11:=Rp.Is.le r15u11 (Le.q (l:=k+3*l) oM)
 refine go1 ?_
 replace rb_32:=rb_32.mono hh3
 have rw_33:=(Le.t (Le.q (l:=k+3*l) oM)).R rb_32
 refine yI (A:=[_]) rfl (uB sizeOf26 (Pc.tz pH) rw_33 r15u11) fun cs_34 rb_35=>?_
 refine go5 ?_
 refine gv ((zY (q:=1) rfl rfl oM oM).cv (show _=vI (3) from rfl)) rfl ?_
 refine go2 ?_
 refine wS ?_
 refine go4 ?_
 refine gv (OpV.fa dC (yL (q:=3) rfl rfl)) rfl ?_
 refine vO ?_
 refine lX (xB zS pH rb_35) fun v17u12 r17u12=>(zR (A:=[]) (uB sizeOf53 pH rb4 (r17u12.le (Le.t (Le.q (l:=k+3*l+1) oM)))) fun cs_36 rb_37=>?_)
 refine go3 ?_
 refine wL (jZ (t:=4) zS mh0 rfl rb_37) ?_
 intro w_38 hvw_38 rr_39
 refine yE (fun E S=>zP rfl hvw_38 E S) ?_
 exact rr_39
theorem hH{w0:World}{h0:Mem}(hs:MLe h0 (mem w0)){x:Int}(hx1:-9223372036854775808≤x)(hx2:x<9223372036854775808){y:Int}(hy1:-9223372036854775808≤y)(hy2:y<9223372036854775808){z:Int}(hz1:-9223372036854775808≤z)(hz2:z<9223372036854775808):
    Calls Tryz.prog 45 #[vI x,vI y,vI z] w0 (Ret w0 h0 (fun h r=>(tPt 2).Is h r (T3.mk ((x:Int):Rat) ((y:Int):Rat) ((z:Int):Rat)))):=by
 refine cb3 14 (vI x) (vI y) (vI z) func45 hs ?_
 refine go2 ?_
 refine nA (ρ:=(tPt 1)) (X:=zT) yV (xW (yF dC)) fun b6 cs6 rb6=>?_
 refine go5 ?_
 refine cL (ev1 rfl) call39 (fun w hs=>jR hs oM oM) fun v8 h1 hh1 r8=>?_
 refine go1 ?_
 refine cL (ev1 rfl) call39 (fun w hs=>jR hs oM oM) fun v10 h2 hh2 r10=>?_
 refine go1 ?_
 refine cL (ev1 rfl) call39 (fun w hs=>jR hs oM oM) fun v12 h3 hh3 r12=>?_
 replace r8:=r8.mono (hh2.trans hh3)
 replace r10:=r10.mono hh3
 refine lX (xV (ρ:=(tPt 2)) (xC (ps':=[(0,_),(1,_),(2,_)]) underlying53 yV rfl rfl sizeOf26 e6z rfl (xW (yF dC)) (zI rfl (Pc.tx (Pc.here _)) r8 (zI rfl (Pc.ty (Pc.here _)) r10 (zI rfl (Pc.tz (Pc.here _)) r12 zX))))) fun v13 r13=>?_
 replace rb6:=rb6.mono ((hh1.trans hh2).trans hh3)
 have rw_40:=(Le.t (Le.q (l:=2) dC)).R rb6
 refine zR (A:=[]) (uB sizeOf53 pH rw_40 r13) fun cs_41 rb_42=>?_
 refine go3 ?_
 refine wL (jZ (t:=6) zS mh0 rfl rb_42) ?_
 intro w_43 hvw_43 rr_44
 refine yE (fun E S=>zP rfl hvw_43 E S) ?_
 exact rr_44
end Go.Proofs.YtboaboflnckgoaaGreat
namespace Bk
set_option linter.unusedVariables false
set_option linter.unusedSimpArgs false
open Go Go.RowKit
open Classical
abbrev Pl:=Pt×Rat
theorem zT4{x:Rat}:xH x=1↔0<x:=by
  have h2:=wH x;rw[←z8];omega
theorem iD{a b:Pt}:a=b↔a.x=b.x∧a.y=b.y∧a.z=b.z:=by cases a;cases b;exact T3.mk.injEq ..▸Iff.rfl
noncomputable def axI(n:Pt):Nat:=if 0<n.z then 0 else if n.z<0 then 1 else if 0<n.y then 2 else if n.y<0 then 0 else if 0<n.x then 1 else if n.x<0 then 2 else 1
noncomputable def axJ(n:Pt):Nat:=if 0<n.z then 1 else if n.z<0 then 0 else if 0<n.y then 0 else if n.y<0 then 2 else if 0<n.x then 2 else if n.x<0 then 1 else 2
noncomputable def axK(n:Pt):Nat:=if n.z≠0 then 2 else if n.y≠0 then 1 else 0
theorem zS7(n:Pt):(0<n.z∧axI n=0∧axJ n=1∧axK n=2)∨(n.z<0∧axI n=1∧axJ n=0∧axK n=2)∨(n.z=0∧0<n.y∧axI n=2∧axJ n=0∧axK n=1)∨(n.z=0∧n.y<0∧axI n=0∧axJ n=2∧axK n=1)∨
    (n.z=0∧n.y=0∧0<n.x∧axI n=1∧axJ n=2∧axK n=0)∨(n.z=0∧n.y=0∧n.x<0∧axI n=2∧axJ n=1∧axK n=0)∨(n.z=0∧n.y=0∧n.x=0∧axI n=1∧axJ n=2∧axK n=0):=by
  have tri:∀a:Rat,0<a∨(a<0∧¬0<a)∨(a=0∧¬0<a∧¬a<0):=fun a=>by grind
  unfold axI axJ axK
  rcases tri n.z with h|⟨h,h'⟩|⟨h,h',h''⟩
  · left;simp only[if_pos h,if_pos (show n.z≠0 by grind)];exact⟨h,trivial,trivial,trivial⟩
  · right;left;simp only[if_neg h',if_pos h,if_pos (show n.z≠0 by grind)];exact⟨h,trivial,trivial,trivial⟩
  · simp only[if_neg h',if_neg h'',if_neg (show ¬n.z≠0 by grind)]
    rcases tri n.y with k|⟨k,k'⟩|⟨k,k',k''⟩
    · right;right;left;simp only[if_pos k,if_pos (show n.y≠0 by grind)];exact⟨h,k,trivial,trivial,trivial⟩
    · right;right;right;left;simp only[if_neg k',if_pos k,if_pos (show n.y≠0 by grind)];exact⟨h,k,trivial,trivial,trivial⟩
    · simp only[if_neg k',if_neg k'',if_neg (show ¬n.y≠0 by grind)]
      rcases tri n.x with l|⟨l,l'⟩|⟨l,l',l''⟩
      · right;right;right;right;left;simp only[if_pos l];exact⟨h,k,l,trivial,trivial,trivial⟩
      · right;right;right;right;right;left;simp only[if_neg l',if_pos l];exact⟨h,k,l,trivial,trivial,trivial⟩
      · right;right;right;right;right;right;simp only[if_neg l',if_neg l''];exact⟨h,k,l,trivial,trivial,trivial⟩
theorem zS6(n:Pt):axI n+axJ n≤3∧axI n<3∧axJ n<3∧axK n=3-axI n-axJ n:=by
  rcases zS7 n with h|h|h|h|h|h|h<;>omega
theorem zS9(n:Pt):axI n<3:=(zS6 n).2.1
theorem zS8(n:Pt):axJ n<3:=(zS6 n).2.2.1
noncomputable def cI(pl:Pl)(p:Pt):Pt:=T3.mk (p.at (axI pl.1)) (p.at (axJ pl.1)) (0:Rat)
noncomputable def yBE(pl:Pl)(q:Pt):Rat:=if pl.1.at (axK pl.1)=0 then 0 else(pl.2-(pl.1.at (axI pl.1)*q.x+pl.1.at (axJ pl.1)*q.y))/pl.1.at (axK pl.1)
noncomputable def liftZ(pl:Pl)(q:Pt):Pt:=if pl.1.at (axK pl.1)=0 then T3.mk (0:Rat) 0 0 else(((T3.mk (0:Rat) 0 0).set (axI pl.1) q.x).set (axJ pl.1) q.y).set (axK pl.1) (yBE pl q)
def jG(a b:Pt):Rat:=a.x*b.x+a.y*b.y+a.z*b.z
def sO(a b:Pt):Pt:=T3.mk (a.y*b.z-a.z*b.y) (a.z*b.x-a.x*b.z) (a.x*b.y-a.y*b.x)
def s6(a b:Pt):Pt:=T3.mk (a.x-b.x) (a.y-b.y) (a.z-b.z)
theorem zHF(a:Rat):wG a 0=xH a:=by rw[zSR,show a-0=a by grind]
theorem zPY{c:Rat}(hc:0<c)(x:Rat):xH (c*x)=xH x:=by
  have h:=zSS x 0 c
  rw[Rat.zero_mul,zHF,zHF,zT4.2 hc,Int.mul_one,Rat.mul_comm] at h
  exact h
end Bk
namespace Bk
set_option linter.unusedVariables false
set_option linter.unusedSimpArgs false
open Classical
def i3(x y z:Int):Pt:=T3.mk ((x:Int):Rat) ((y:Int):Rat) ((z:Int):Rat)
abbrev bdI(z:Int)(n:Nat):Prop:=z.natAbs≤n
def smN(e:Pl):Prop:=∃a b c d:Int,(bdI a 2∧bdI b 2∧bdI c 2∧bdI d 30)∧e=(i3 a b c,(d:Rat)/2)
def iH(q:Rat)(n:Nat):Prop:=∃z:Int,bdI z n∧q=(z:Rat)/2
def spP(p:Pt):Prop:=iH p.x 9∧iH p.y 9∧iH p.z 9
theorem j3{z:Int}{n m:Nat}(h:bdI z n)(hm:2*n≤m):iH ((z:Int):Rat) m:=by
  refine⟨2*z,by unfold bdI at *;omega,?_⟩
  rw[Rat.intCast_mul]
  have e2:((2:Int):Rat)=2:=rfl
  rw[e2];grind
theorem zIU{z:Int}{n:Nat}(h:bdI z n):iH (jC z 2) n:=⟨z,h,rfl⟩
theorem eH{p:Pt}{i:Nat}{q:Rat}(hi:i<3)(h:∀u,u<i→iH (p.at u) 9)(hq:iH q 9):∀u,u<i+1→iH ((p.set i q).at u) 9:=by
  intro u hu
  by_cases e:u=i
  · subst e
    match u,hi with
    |0,_=>exact hq
    |1,_=>exact hq
    |2,_=>exact hq
  · have h1:u<i:=by omega
    have h2:=h u h1
    have hc:(i=1∧u=0)∨(i=2∧u=0)∨(i=2∧u=1):=by omega
    rcases hc with⟨rfl,rfl⟩|⟨rfl,rfl⟩|⟨rfl,rfl⟩<;>exact h2
theorem yAM{p:Pt}(h:∀u,u<3→iH (p.at u) 9):spP p:=⟨h 0 (by decide),h 1 (by decide),h 2 (by decide)⟩
abbrev rows7:List (T3 Int):=[T3.mk 1 0 0,T3.mk 0 1 0,T3.mk 0 0 1,T3.mk 1 1 0,T3.mk (-1) 0 0,T3.mk 1 (-1) 2,T3.mk 0 2 1]
end Bk
namespace Go.Proofs.YtboaboflnckgoaaGreat
open Bk Go Tryz
set_option linter.unusedVariables false
set_option linter.unusedSimpArgs false
set_option maxRecDepth 10000
set_option maxHeartbeats 1000000
attribute [local irreducible] GL GC GQ W OpV
theorem zUR{w0:World}{h0:Mem}(hs:MLe h0 (mem w0)){qa:Rat}{vna vda:Value}(hna:Us .u32 h0 vna (zB qa.num.natAbs))(hda:Us .u32 h0 vda (zB (xT qa.den)))(hqa:lq qa≤100000000000):
    Calls Tryz.prog 54 #[.agg #[vB (qa.num<0),vna,vda]] w0 (Ret w0 h0 (fun h r=>wI h r qa)):=by
 have hlna:=wE qa
 have hlda:=wO qa
 have hlDa:=wB qa
 refine cb1 12 (.agg #[vB (qa.num<0),vna,vda]) func54 hs ?_
 refine go2 ?_
 refine zF (xD (cs:=[_,_,_]) rfl rfl) rfl rfl rfl ?_
 intro v1 r1 hr1
 obtain⟨b1,rfl,rfl⟩:=hr1
 refine zF (wA (cs:=[vB ((0:Rat).num<0),.slice none 0 0,.slice none 0 0]) yN rfl (by simp only[zb];rfl)) rfl rfl rfl ?_
 intro v2 r2 hr2
 obtain⟨b2,rfl,rfl⟩:=hr2
 refine go3 ?_
 refine gD 9 (qq 0 4 [(5,.q),(6,.q),(4,.c),(7,.c),(8,.c),(9,.t)]) (by kernel_rfl) ?_
 refine go6 ?_
 refine w_c rfl ?_
 refine rS (vs:=[_]) call103 ⟨rfl,trivial⟩ (fun w hs=>pE hs hna oM) rfl ?_
 intro v7 h1 L7 hh1 hr7
 obtain rfl:=hr7
 refine w_c rfl ?_
 replace hda:=hda.mono hh1
 refine rS (vs:=[_]) call103 ⟨rfl,trivial⟩ (fun w hs=>pE hs hda oM) rfl ?_
 intro v10 h2 L10 hh2 hr10
 obtain rfl:=hr10
 refine w_c rfl ?_
 replace hna:=hna.mono (hh1.trans hh2)
 refine pG (A:=[_]) (by exact hna.lt) (by simp only[List.mem_cons,List.not_mem_nil,or_false];rintro r (rfl|rfl) _<;>simp) ?_
 intro h3 hh3 hc1
 replace hda:=hda.mono (hh2.trans hh3)
 refine pG (A:=[]) (by exact hda.lt) (by simp only[List.mem_cons,List.not_mem_nil,or_false];rintro r (rfl|rfl) _<;>simp) ?_
 intro h4 hh4 hc2
 replace hc1:=hc1.mono hh4
 refine zP4 (fun X=>yO (ps':=[(0,_),(1,_),(2,_)]) (vs:=[vB (qa.num<0),v7,v10]) underlying26 yN rfl (vD underlying26) e6z (yX (A:=[]) (B:=[_]) (C:=[_,_]) (cs:=[_]) (off:=0) (size:=1) rfl rfl rfl rfl rfl (yX (A:=[_]) (B:=[_]) (C:=[_]) (cs:=[_]) (off:=1) (size:=1) rfl rfl rfl rfl hc1.cells (yX (A:=[_,_]) (B:=[_]) (C:=[]) (cs:=[_]) (off:=2) (size:=1) rfl rfl rfl rfl hc2.cells vZ)))) rfl (kV (A:=[]) (q':=.var b2 26 [vB (qa.num<0),v7,v10]) rfl (zG (k:=0) (cs:=[_,_,_]) (vs:=[_,_,_]) rfl rfl rfl (ocr rfl (ocu hc1 (ocu hc2 oc0))) zU (bL rfl)) rfl ?_)
 refine go3 ?_
 refine yE (fun E S=>zP rfl (xE (cs:=[_,_,_]) mh0 underlying26 rfl zU rfl) E S) ?_
 exact⟨_,_,rfl,hc1,hc2⟩
theorem zE1{w0:World}{h0:Mem}(hs:MLe h0 (mem w0)){k:Nat}{va:Value}{a:Rat}(ra:(rpQ k).Is h0 va a)(hcd0:k≤10000000000):
    Calls Tryz.prog 54 #[va] w0 (Ret w0 h0 (fun h r=>(rpQ k).Is h r a)):=by
  obtain⟨vna,vda,rfl,hna,hda,hla⟩:=qI ra
  exact(zUR hs hna hda oM).mono (kD fun h r x=>mW x oM)
theorem zAH{w0:World}{h0:Mem}(hs:MLe h0 (mem w0)){k l:Nat}{va:Value}{a:Tq}(ra:(tPt k).Is h0 va a){vb:Value}{b:Tq}(rb:(tPt l).Is h0 vb b)(hcd0:k+l≤1000000000):
    Calls Tryz.prog 27 #[va,vb] w0 (Ret w0 h0 (fun _ r=>r=vB (a=b))):=by
 refine cb2 24 va vb func27 hs ?_
 refine go2 ?_
 refine nB ra fun b2 cs2 rb2=>(nB rb fun b3 cs3 rb3=>?_)
 refine go6 ?_
 refine lX (xB yA (Pc.tx pH) rb2) fun v6 r6=>?_
 refine go1 ?_
 refine lX (xB yA (Pc.tx pH) rb3) fun v8 r8=>(cL (ev2 rfl rfl) call15 (fun w hs=>vQ hs r6 r8 oM) fun v9 h1 hh1 r9=>?_)
 obtain rfl:v9=vB (a.x=b.x):=r9
 refine uO (ι:=Mem) 7 (fun m_=>MLe h1 m_) (fun _=>[(16,vB ((a.x=b.x)∧(a.y=b.y))),(2,vP b2 0),(3,vP b3 0)]) (fun _=>[.var b3 53 cs3,.var b2 53 cs2]) (fun m_=>m_) ?_ ?_
 ·
  refine yB (a.x=b.x) (fun hg=>?_) (fun hg=>?_)
  ·
   refine gT hg rfl ?_
   refine go3 ?_
   refine lX (xB yA (Pc.ty pH) rb2) fun v12 r12=>?_
   refine go3 ?_
   refine lX (xB yA (Pc.ty pH) rb3) fun v14 r14=>?_
   refine go1 ?_
   refine cL (ev2 rfl rfl) call15 (fun w hs=>vQ hs r12 r14 oM) fun v15 h2 hh2 r15=>?_
   obtain rfl:v15=vB (a.y=b.y):=r15
   refine go2 ?_
   refine zN h2 hh2 ⟨?_,rfl,rfl,trivial⟩ rfl rfl
   exact congrArg some (xM hg)
  refine gF hg rfl ?_
  refine go7 ?_
  refine zN h1 (MLe.refl _) ⟨?_,rfl,rfl,trivial⟩ rfl rfl
  exact congrArg some (xN hg)
 intro mg1_5 hmmg1_5
 refine tJ ?_
 refine uO (ι:=Mem) 7 (fun m_=>MLe mg1_5 m_) (fun _=>[(23,vB (((a.x=b.x)∧(a.y=b.y))∧(a.z=b.z)))]) (fun _=>[.var b3 53 cs3,.var b2 53 cs2]) (fun m_=>m_) ?_ ?_
 ·
  refine yB ((a.x=b.x)∧(a.y=b.y)) (fun hg=>?_) (fun hg=>?_)
  ·
   refine gT hg rfl ?_
   refine go3 ?_
   refine lX (xB yA (Pc.tz pH) rb2) fun v19 r19=>?_
   refine go3 ?_
   refine lX (xB yA (Pc.tz pH) rb3) fun v21 r21=>?_
   refine go1 ?_
   refine cL (ev2 rfl rfl) call15 (fun w hs=>vQ hs r19 r21 oM) fun v22 h2 hh2 r22=>?_
   obtain rfl:v22=vB (a.z=b.z):=r22
   refine go2 ?_
   refine zN h2 hh2 ⟨?_,trivial⟩ rfl rfl
   exact congrArg some (xM hg)
  refine gF hg rfl ?_
  refine go7 ?_
  refine zN mg1_5 (MLe.refl _) ⟨?_,trivial⟩ rfl rfl
  exact congrArg some (xN hg)
 intro mg1_12 hmmg1_12
 refine tJ ?_
 refine go4 ?_
 refine zD rfl rfl ?_
 first|exact fL (by rw[iD];grind)|exact(xL (by rw[iD];grind)).symm|exact(yU (by rw[iD];grind)).symm
theorem zN8{w0:World}{h0:Mem}(hs:MLe h0 (mem w0)){k:Nat}{va:Value}{a:Tq}(ra:(tPt k).Is h0 va a)(hcd0:k≤1000000):
    Calls Tryz.prog 42 #[va] w0 (Ret w0 h0 (fun _ r=>r=vB (a=zT))):=by
 refine cb1 6 va func42 hs ?_
 refine go2 ?_
 refine nB ra fun b1 cs1 rb1=>?_
 refine go5 ?_
 refine lX (xB zS pH rb1) fun v3 r3=>(lX (xV (ρ:=(tPt 1)) (xC (ps':=[]) underlying53 yV rfl rfl sizeOf26 trivial rfl (xW (yF dC)) zX)) fun v4 r4=>(cL (ev2 rfl rfl) call27 (fun w hs=>zAH hs r3 r4 oM) fun v5 h1 hh1 r5=>?_))
 obtain rfl:v5=vB (a=zT):=r5
 refine go4 ?_
 refine zD rfl rfl ?_
 rfl
theorem u4{w0:World}{h0:Mem}(hs:MLe h0 (mem w0)){k l:Nat}{va:Value}{a:Tq}(ra:(tPt k).Is h0 va a){vb:Value}{b:Tq}(rb:(tPt l).Is h0 vb b)(hcd0:k+l≤1000000000):
    Calls Tryz.prog 44 #[va,vb] w0 (Ret w0 h0 (fun h r=>(rpQ (3*k+3*l+9)).Is h r (jG a b))):=by
 refine cb2 21 va vb func44 hs ?_
 refine go2 ?_
 refine nB ra fun b2 cs2 rb2=>(nB rb fun b3 cs3 rb3=>(nA (ρ:=(rpQ (3*k+3*l+9))) (X:=(0:Rat)) yN (yF oM) fun b4 cs4 rb4=>?_))
 refine go4 ?_
 refine nA (ρ:=(rpQ 1)) (X:=(0:Rat)) yN (yF dC) fun b5 cs5 rb5=>?_
 refine go9 ?_
 refine tX ?_
 refine go4 ?_
 refine gv (OpV.tr dC (yL (q:=3) rfl rfl)) rfl ?_
 refine go7 ?_
 refine gD 9 (qq 0 7 [(7,.c),(8,.c),(9,.t)]) (by kernel_rfl) ?_
 refine wX rfl (xB yA pH rb5) fun v11u1 r11u1=>?_
 refine go2 ?_
 refine wX rfl (xB yA (Pc.tx pH) rb2) fun v14u1 r14u1=>?_
 refine go2 ?_
 refine wX rfl (xB yA (Pc.tx pH) rb3) fun v17u1 r17u1=>?_
 refine w_c rfl (sC (ev2 rfl rfl) call9 (fun w hs=>wN hs r14u1 r17u1 oM) fun v18u1 h1 hh1 r18u1=>?_)
 change (rpQ (k+l)).Is h1 v18u1 (a.x*b.x) at r18u1
 refine w_c rfl (sC (ev2 rfl rfl) call37 (fun w hs=>kB hs r11u1.up r18u1 oM) fun v19u1 h2 hh2 r19u1=>?_)
 change (rpQ (1+(k+l)+1)).Is h2 v19u1 ((0:Rat)+(a.x*b.x)) at r19u1
 replace r19u1:=Rp.Is.le r19u1 (Le.q (l:=k+l+2) oM)
 replace rb5:=rb5.mono (hh1.trans hh2)
 have rw_1:=(Le.q (l:=k+l+2) oM).R rb5
 refine yI (A:=[]) rfl (uB sizeOf26 pH rw_1 r19u1) fun cs_2 rb_3=>?_
 refine go5 ?_
 refine gv ((zY (q:=1) rfl rfl oM oM).cv (show _=vI (1) from rfl)) rfl ?_
 refine go2 ?_
 refine wS ?_
 refine go4 ?_
 refine gv (OpV.tr dC (yL (q:=3) rfl rfl)) rfl ?_
 refine go7 ?_
 refine gD 9 (qq 0 7 [(7,.c),(8,.c),(9,.t)]) (by kernel_rfl) ?_
 refine wX rfl (xB yA pH rb_3) fun v11u2 r11u2=>?_
 refine go2 ?_
 refine wX rfl (xB yA (Pc.ty pH) rb2) fun v14u2 r14u2=>?_
 refine go2 ?_
 refine wX rfl (xB yA (Pc.ty pH) rb3) fun v17u2 r17u2=>?_
 refine w_c rfl (sC (ev2 rfl rfl) call9 (fun w hs=>wN hs r14u2 r17u2 oM) fun v18u2 h3 hh3 r18u2=>?_)
 change (rpQ (k+l)).Is h3 v18u2 (a.y*b.y) at r18u2
 refine w_c rfl (sC (ev2 rfl rfl) call37 (fun w hs=>kB hs r11u2.up r18u2 oM) fun v19u2 h4 hh4 r19u2=>?_)
 change (rpQ ((k+l+2)+(k+l)+1)).Is h4 v19u2 (((0:Rat)+(a.x*b.x))+(a.y*b.y)) at r19u2
 replace r19u2:=Rp.Is.le r19u2 (Le.q (l:=2*k+2*l+3) oM)
 replace rb_3:=rb_3.mono (hh3.trans hh4)
 have rw_4:=(Le.q (l:=2*k+2*l+3) oM).R rb_3
 refine yI (A:=[]) rfl (uB sizeOf26 pH rw_4 r19u2) fun cs_5 rb_6=>?_
 refine go5 ?_
 refine gv ((zY (q:=1) rfl rfl oM oM).cv (show _=vI (2) from rfl)) rfl ?_
 refine go2 ?_
 refine wS ?_
 refine go4 ?_
 refine gv (OpV.tr dC (yL (q:=3) rfl rfl)) rfl ?_
 refine go7 ?_
 refine gD 9 (qq 0 7 [(7,.c),(8,.c),(9,.t)]) (by kernel_rfl) ?_
 refine wX rfl (xB yA pH rb_6) fun v11u3 r11u3=>?_
 refine go2 ?_
 refine wX rfl (xB yA (Pc.tz pH) rb2) fun v14u3 r14u3=>?_
 refine go2 ?_
 refine wX rfl (xB yA (Pc.tz pH) rb3) fun v17u3 r17u3=>?_
 refine w_c rfl (sC (ev2 rfl rfl) call9 (fun w hs=>wN hs r14u3 r17u3 oM) fun v18u3 h5 hh5 r18u3=>?_)
 change (rpQ (k+l)).Is h5 v18u3 (a.z*b.z) at r18u3
 refine w_c rfl (sC (ev2 rfl rfl) call37 (fun w hs=>kB hs r11u3.up r18u3 oM) fun v19u3 h6 hh6 r19u3=>?_)
 change (rpQ ((2*k+2*l+3)+(k+l)+1)).Is h6 v19u3 ((((0:Rat)+(a.x*b.x))+(a.y*b.y))+(a.z*b.z)) at r19u3
 replace r19u3:=Rp.Is.le r19u3 (Le.q (l:=3*k+3*l+4) oM)
 replace rb_6:=rb_6.mono (hh5.trans hh6)
 have rw_7:=(Le.q (l:=3*k+3*l+4) oM).R rb_6
 refine yI (A:=[]) rfl (uB sizeOf26 pH rw_7 r19u3) fun cs_8 rb_9=>?_
 refine go5 ?_
 refine gv ((zY (q:=1) rfl rfl oM oM).cv (show _=vI (3) from rfl)) rfl ?_
 refine go2 ?_
 refine wS ?_
 refine go4 ?_
 refine gv (OpV.fa dC (yL (q:=3) rfl rfl)) rfl ?_
 refine vO ?_
 refine lX (xB yA pH rb_9) fun v20u4 r20u4=>(zR (A:=[_]) (uB sizeOf26 pH rb4 (r20u4.le (Le.q (l:=3*k+3*l+9) oM))) fun cs_10 rb_11=>?_)
 refine go3 ?_
 refine wL (jZ (t:=4) yA mh1 rfl rb_11) ?_
 intro w_12 hvw_12 rr_13
 refine yE (fun E S=>zP rfl hvw_12 E S) ?_
 exact(Rp.Is.cast rr_13 (by unfold jG;grind))
theorem zIB{w0 w:World}{h0 h:Mem}{b k:Nat}{vl:Value}{xs:List Int}(hl:Is h vl xs)(hk:k≤xs.length){n:Int}(hn:0<n)(hn2:n<4611686018427387904){L:List Res}(hs:St w0 h0 (.var b 97 [vl,vI ↑k]::L) h w):
    Calls Tryz.prog 80 #[vP b 0,vI n] w (zDW w0 h0 h L (fun g r q'=>∃k':Nat,∃p:Prop,q'=.var b 97 [vl,vI ↑k']∧k'≤xs.length∧r=vB p)):=by
 have hlen:=hl.lt63
 refine rJ (n:=11) (e:=[(0,vP b 0),(1,vI n)]) (vs:=[vP b 0,vI n]) func80 rfl rfl (bL rfl) hs e2z ?_
 refine go9 ?_
 refine gZ (A:=[]) (vs:=[_,_]) call33 e2z (fun X w hs=>bC hl (by first|omega|exact Nat.zero_le _) oM oM hs) rfl ?_
 intro v7 g7 q7 hg7 hr7
 obtain⟨k7,z7,rfl,hk7,rfl,hz7,hy7⟩:=hr7
 refine go7 ?_
 refine jU rfl rfl ?_
 exact⟨_,(List.Sublist.refl _),hg7,_,_,rfl,by omega,rfl⟩
end Go.Proofs.YtboaboflnckgoaaGreat
namespace Bk
set_option linter.unusedVariables false
set_option linter.unusedSimpArgs false
open Classical
def zGH(r:Rat)(n:Int):Prop:=¬((xH r<0∨n<0)∨64<n)
noncomputable def cD(r:Rat)(n:Int):Rat:=if zGH r n then qG r n else 0
noncomputable def cQ(r:Rat)(n:Int):Rat:=if zGH r n then oG r n else 0
theorem zRN{r:Rat}{n:Int}(h:(xH r<0∨n<0)∨64<n):cD r n=0∧cQ r n=0∧¬zGH r n:=⟨if_neg fun e=>e h,if_neg fun e=>e h,fun e=>e h⟩
theorem zAJ{r:Rat}{n:Int}(h:¬((xH r<0∨n<0)∨64<n)):cD r n=qG r n∧cQ r n=oG r n∧¬r<0∧zGH r n:=⟨if_pos h,if_pos h,fun e=>h (.inl (.inl (qE.2 e))),h⟩
theorem yBF{r:Rat}{n:Int}(h:¬((xH r<0∨n<0)∨64<n)):(↑(kN n):Int)=n∧kN n≤64:=by unfold kN;omega
theorem zDM{a b:Rat}:0≤wG a b↔b≤a:=by unfold wG;grind
theorem zJ2{r:Rat}{n:Int}(h0:¬r<0)(h:qG r n*qG r n=r):qG r n=oG r n:=zT8 h0 (by rw[h];exact Rat.lt_irrefl)
theorem zCE{r:Rat}(h0:¬r<0)(n:Int):qG r n*qG r n≤r:=(zHV (Rat.not_lt.1 h0) _ _).2 (iQ _)
theorem zX2{r:Rat}{n:Int}(h0:¬r<0)(h:¬qG r n*qG r n=r):qG r n+ovQ 1 (kN n)=oG r n:=zT7 h0 (by have:=zCE h0 n;grind)
theorem zRR{r:Rat}(h:¬r<0):sJ r 0=r:=by unfold sJ;grind
theorem yA6{a:Rat}(n:Int)(h:¬a<0):zJ3 a a n=qG a n:=by unfold zJ3;rw[if_neg h,zRR h]
end Bk
namespace Go.Proofs.YtboaboflnckgoaaGreat
open Bk Go Tryz
set_option linter.unusedVariables false
set_option linter.unusedSimpArgs false
set_option maxRecDepth 10000
set_option maxHeartbeats 1000000
attribute [local irreducible] GL GC GQ W OpV
theorem oT{w0:World}{h0:Mem}(hs:MLe h0 (mem w0)){k:Nat}{va:Value}{a:Rat}(ra:(rpQ k).Is h0 va a){n:Int}(hn1:-9223372036854775808≤n)(hn2:n<9223372036854775808)(hcd0:k≤400):
    Calls Tryz.prog 13 #[va,vI n] w0 (Ret w0 h0 (fun h r=>∃u0,r=.tuple #[u0,vB (zGH a n)]∧(rpP (rpQ (k+140)) (rpQ (k+140))).Is h u0 (cD a n,cQ a n))):=by
 refine cb2 37 va (vI n) func13 hs ?_
 refine go2 ?_
 refine nB ra fun b2 cs2 rb2=>(nA (ρ:=(rpP (rpQ (k+140)) (rpQ (k+140)))) (X:=((0:Rat),(0:Rat))) gC (yJ (yF oM) (yF oM)) fun b4 cs4 rb4=>?_)
 refine go6 ?_
 refine lX (xB yA pH rb2) fun v8 r8=>(cL (ev1 rfl) call51 (fun w hs=>iY hs r8 oM) fun v9 h1 hh1 r9=>?_)
 obtain rfl:v9=vI (xH a):=r9
 have hsr9:=wH a
 refine go1 ?_
 refine gU 4 14 (vB (((xH a)<(0:Int))∨(n<(0:Int)))) ?_ ?_
 ·
  refine yB ((xH a)<(0:Int)) (fun hg=>?_) (fun hg=>?_)
  ·
   refine gT hg rfl ?_
   refine go4 ?_
   refine gqU ?_
   exact congrArg some (uA hg)
  refine gF hg rfl ?_
  refine go6 ?_
  refine gqU ?_
  exact congrArg some (uC hg)
 refine gU 4 18 (vB ((((xH a)<(0:Int))∨(n<(0:Int)))∨((64:Int)<n))) ?_ ?_
 ·
  refine yB (((xH a)<(0:Int))∨(n<(0:Int))) (fun hg=>?_) (fun hg=>?_)
  ·
   refine gT hg rfl ?_
   refine go4 ?_
   refine gqU ?_
   exact congrArg some (uA hg)
  refine gF hg rfl ?_
  refine go6 ?_
  refine gqU ?_
  exact congrArg some (uC hg)
 refine go2 ?_
 refine cnd (fun hc18=>?_) fun hc18=>?_
 ·
  refine go2 ?_
  refine lX (xV (ρ:=(rpP (rpQ 1) (rpQ 1))) (wC (ps':=[]) underlying34 gC rfl rfl (lH underlying34) trivial rfl (yJ (yF dC) (yF dC)) zX)) fun v19 r19=>(zR (A:=[]) (uB sizeOf34 pH rb4 (r19.le (Le.p (Le.q (l:=k+140) oM) (Le.q (l:=k+140) oM)))) fun cs_17 rb_18=>?_)
  refine go5 ?_
  refine wL (jZ (t:=4) zG5 mh0 rfl rb_18) ?_
  intro w_19 hvw_19 rr_20
  refine yE (fun E S=>vW rfl hvw_19 (jP rfl) E S) ?_
  refine⟨_,?_,(Rp.Is.cast rr_20 (by rw[(zRN hc18).1,(zRN hc18).2.1]))⟩
  rw[yU (zRN hc18).2.2]
 obtain⟨y1,y2,y3,y4⟩:=zAJ hc18
 obtain⟨hkn,hkl⟩:=yBF hc18
 refine go4 ?_
 refine lX (xB yA pH rb2) fun v21 r21=>(cL (ev1 rfl) call53 (fun w hs=>zGB hs r21 oM) fun v22 h2 hh2 r22=>?_)
 refine go1 ?_
 refine cL (ev2 rfl rfl) call52 (fun w hs=>zJT hs r22 oM oM oM) fun v24 h3 hh3 r24=>?_
 obtain⟨v24_0,rfl,r24_0⟩:=r24
 change (rpP (rpQ (k+140)) (rpQ (k+140))).Is h3 v24_0 (zJ3 (a,a).1 (a,a).2 n,oG (a,a).2 n) at r24_0
 refine go3 ?_
 refine nA (ρ:=(rpP (rpQ (k+140)) (rpQ (k+140)))) (X:=((0:Rat),(0:Rat))) gC (yJ (yF oM) (yF oM)) fun b6 cs6 rb6=>(zR (A:=[]) (uB sizeOf34 pH rb6 r24_0) fun cs_21 rb_22=>?_)
 refine vO ?_
 refine cnd (fun hc28=>?_) fun hc28=>?_
 ·
  exact absurd (if_neg y3) hc28
 refine go3 ?_
 refine gD 7 [(0,.q),(1,.q),(3,.q),(4,.q),(2,.c),(5,.c),(6,.q),(7,.t),(8,.t)] (by kernel_rfl) ?_
 refine go1 ?_
 refine wX rfl (xB yA (Pc.fst pH) rb_22) fun v31 r31=>?_
 refine go1 ?_
 refine wX rfl (xB yA (Pc.snd pH) rb_22) fun v34 r34=>?_
 refine w_c rfl (sC (ev1 rfl) call54 (fun w hs=>zE1 hs r31 oM) fun v32 h4 hh4 r32=>?_)
 refine w_c rfl (sC (ev1 rfl) call54 (fun w hs=>zE1 hs r34.up oM) fun v35 h5 hh5 r35=>?_)
 replace r32:=r32.mono hh5
 refine wX rfl (xV (ρ:=(rpP (rpQ (k+140)) (rpQ (k+140)))) (wC (ps':=[(0,_),(1,_)]) underlying34 gC rfl rfl (lH underlying34) e4z rfl (yJ (yF oM) (yF oM)) (zI rfl (Pc.fst (Pc.here _)) r32 (zI rfl (Pc.snd (Pc.here _)) r35 zX)))) fun v36 r36=>(yI (A:=[_]) rfl (uB sizeOf34 pH rb4 r36) fun cs_23 rb_24=>(dR rfl (tH rfl) rfl ?_))
 refine go3 ?_
 refine wL (jZ (t:=4) zG5 mh1 rfl rb_24) ?_
 intro w_25 hvw_25 rr_26
 refine yE (fun E S=>vW rfl hvw_25 (jP rfl) E S) ?_
 refine⟨_,?_,(Rp.Is.cast rr_26 (by rw[y1,y2];exact congrArg (fun z=>(z,oG a n)) (yA6 n y3)))⟩
 rw[xL y4]
end Go.Proofs.YtboaboflnckgoaaGreat
namespace Go.Proofs.YtboaboflnckgoaaGreat
open Bk Go Tryz
set_option linter.unusedVariables false
set_option linter.unusedSimpArgs false
set_option maxRecDepth 10000
set_option maxHeartbeats 1000000
attribute [local irreducible] GL GC GQ W OpV
theorem zIA{w0 w:World}{h0 h:Mem}{b k:Nat}{vl:Value}{xs:List Int}(hl:Is h vl xs)(hk:k≤xs.length){L:List Res}(hs:St w0 h0 (.var b 97 [vl,vI ↑k]::L) h w):
    Calls Tryz.prog 32 #[vP b 0] w (zDW w0 h0 h L (fun g r q'=>∃k':Nat,∃m:T3 Rat,q'=.var b 97 [vl,vI ↑k']∧k'≤xs.length∧spP m∧(tPt 2).Is g r m)):=by
 have hlen:=hl.lt63
 refine rJ (n:=22) (e:=[(0,vP b 0)]) (vs:=[vP b 0]) func32 rfl rfl (bL rfl) hs ⟨rfl,trivial⟩ ?_
 refine go2 ?_
 refine nA (ρ:=(tPt 2)) (X:=zT) yV (xW (yF dC)) fun b2 cs2 rb2=>?_
 refine go4 ?_
 refine nA (ρ:=(tPt 2)) (X:=zT) yV (xW (yF dC)) fun b3 cs3 rb3=>?_
 refine go9 ?_
 refine gcL (ι:=Nat×T3 Rat×List Value×Nat×Mem) (fun(i,m0,cs_1,kd_3,ma)=>(MLe h ma∧((tPt 2).R ma cs_1 m0∧kd_3≤xs.length∧i≤3∧∀u,u<i→iH (m0.at u) 9),[(0,vP b 0),(2,vP b2 0),(3,vP b3 0),(4,vI ↑i)],(.var b3 53 cs_1::.var b2 53 cs2::.var b 97 [vl,vI ↑kd_3]::L),ma,3-i)) (0,(T3.mk 0 0 0),cs3,k,h) ?_ ?_
 ·
  refine⟨MLe.refl _,?_⟩
  refine⟨rb3,oM,?_⟩
  exact⟨by omega,fun u h=>by omega⟩
 intro x hx
 obtain⟨i,m0,cs_1,kd_3,ma⟩:=x
 dsimp only at hx
 obtain⟨hmma,hinv⟩:=hx
 refine yS ?_
 obtain⟨rb_2,hkd_4,hinv⟩:=hinv
 obtain⟨hi,hh⟩:=hinv
 refine go7 ?_
 refine cnd (fun hc6=>?_) fun hc6=>?_
 ·
  refine go8 ?_
  replace hl:=hl.mono hmma
  refine gZ (A:=[_,_]) (vs:=[_,vI (5)]) call33 e2z (fun X w hs=>bC hl (by first|omega|exact Nat.zero_le _) oM oM hs) rfl ?_
  intro v11 g11 q11 hg11 hr11
  obtain⟨k11,z11,rfl,hk11,rfl,hz11,hy11⟩:=hr11
  refine cL (ev1 rfl) call39 (fun w hs=>jR hs oM oM) fun v12 h1 hh1 r12=>(gv ((zW (sz:=3) i underlying53 sizeOf26 rfl rfl rfl oM).cv (show _=vP b3 ((i*3+0)) from congrArg (vP b3) oM)) rfl (zR (A:=[]) (uB sizeOf26 (Pc.ta pH i oM) rb_2 r12) fun cs_5 rb_6=>?_))
  refine go5 ?_
  replace hl:=hl.mono (hg11.trans hh1)
  refine gZ (A:=[_,_]) (vs:=[_,vI (4)]) call80 e2z (fun X w hs=>zIB hl (by first|omega|exact Nat.zero_le _) oM oM hs) rfl ?_
  intro v15 g15 q15 hg15 hr15
  obtain⟨k15,P15,rfl,hk15,rfl⟩:=hr15
  refine go2 ?_
  refine cnd (fun hc15=>?_) fun hc15=>?_
  ·
   refine go3 ?_
   replace hl:=hl.mono hg15
   refine gZ (A:=[_,_]) (vs:=[_,vI (9)]) call33 e2z (fun X w hs=>bC hl (by first|omega|exact Nat.zero_le _) oM oM hs) rfl ?_
   intro v18 g18 q18 hg18 hr18
   obtain⟨k18,z18,rfl,hk18,rfl,hz18,hy18⟩:=hr18
   refine cL (vs:=[_,vI (2)]) e2z call10 (fun w hs=>pM hs oM oM dC dC) fun v19 h2 hh2 r19=>(gv ((zW (sz:=3) i underlying53 sizeOf26 rfl rfl rfl oM).cv (show _=vP b3 ((i*3+0)) from congrArg (vP b3) oM)) rfl ?_)
   replace rb_6:=rb_6.mono ((hg15.trans hg18).trans hh2)
   refine zR (A:=[]) (uB sizeOf26 (Pc.ta pH i oM) rb_6 r19) fun cs_7 rb_8=>?_
   refine go8 ?_
   refine gqL ((i+1),((m0.set i ((z11:Int):Rat)).set i (jC z18 (2:Int))),cs_7,k18,h2) ?_ ?_
   ·
    refine⟨(((((hmma.trans hg11).trans hh1).trans hg15).trans hg18).trans hh2),?_⟩
    refine⟨rb_8,oM,?_⟩
    exact⟨by omega,by first|exact eH oM hh (j3 (n:=4) oM dC)|exact eH oM (fun u hu=>eH oM hh (j3 (n:=4) oM dC) u oM) (zIU oM)⟩
   omega
  refine go8 ?_
  refine gqL ((i+1),(m0.set i ((z11:Int):Rat)),cs_5,k15,g15) ?_ ?_
  ·
   refine⟨(((hmma.trans hg11).trans hh1).trans hg15),?_⟩
   replace rb_6:=rb_6.mono hg15
   refine⟨rb_6,oM,?_⟩
   exact⟨by omega,by first|exact eH oM hh (j3 (n:=4) oM dC)|exact eH oM (fun u hu=>eH oM hh (j3 (n:=4) oM dC) u oM) (zIU oM)⟩
  omega
 refine go7 ?_
 refine lX (xB zS pH rb_2) fun v21 r21=>(zR (A:=[_]) (uB sizeOf53 pH rb2 r21) fun cs_9 rb_10=>?_)
 refine go3 ?_
 refine wL (jZ (t:=2) zS mh1 rfl rb_10) ?_
 intro w_11 hvw_11 rr_12
 refine zLN (fun E S=>zP rfl hvw_11 E S) ?_
 exact⟨_,(.cons _ (.cons _ (List.Sublist.refl _))),hmma,_,_,rfl,by omega,yAM (fun u hu=>hh u oM),rr_12⟩
theorem zN7{w0:World}{h0:Mem}(hs:MLe h0 (mem w0)){m l:Nat}{vs:Value}{s:Pq}(rs:(tPl m l).Is h0 vs s)(hcd0:m≤1000000000):
    Calls Tryz.prog 209 #[vs] w0 (Ret w0 h0 (fun h r=>r=.tuple #[vI (↑(axI s.1):Int),vI (↑(axJ s.1):Int),vI (↑(axK s.1):Int)])):=by
 refine cb1 29 vs func209 hs ?_
 refine go2 ?_
 refine nB rs fun b1 cs1 rb1=>?_
 refine dG ?_
 refine lX (xB yA (Pc.fst (Pc.tz pH)) rb1) fun v10 r10=>(cL (ev1 rfl) call17 (fun w hs=>qO hs r10 oM) fun v11 h1 hh1 r11=>?_)
 obtain rfl:v11=vI (xH s.1.z):=r11
 have hsr11:=wH s.1.z
 refine go3 ?_
 refine cnd (fun hc12=>?_) fun hc12=>?_
 ·
  refine uP ?_
  refine lX (xB yA (Pc.fst (Pc.ty pH)) rb1) fun v15 r15=>(cL (ev1 rfl) call17 (fun w hs=>qO hs r15 oM) fun v16 h2 hh2 r16=>?_)
  obtain rfl:v16=vI (xH s.1.y):=r16
  have hsr16:=wH s.1.y
  refine go3 ?_
  refine cnd (fun hc17=>?_) fun hc17=>?_
  ·
   refine uN ?_
   refine lX (xB yA (Pc.fst (Pc.tx pH)) rb1) fun v21 r21=>(cL (ev1 rfl) call17 (fun w hs=>qO hs r21 oM) fun v22 h3 hh3 r22=>?_)
   obtain rfl:v22=vI (xH s.1.x):=r22
   have hsr22:=wH s.1.x
   refine go3 ?_
   refine cnd (fun hc23=>?_) fun hc23=>?_
   ·
    refine zR8 ?_
    refine qX rfl rfl rfl rfl ?_
    have eI:axI s.1=2:=by unfold axI;simp only[uR,qE] at *;grind
    have eJ:axJ s.1=1:=by unfold axJ;simp only[uR,qE] at *;grind
    have eK:axK s.1=0:=by unfold axK;simp only[uR,qE] at *;grind
    rw[eI,eJ,eK];rfl
   refine sL ?_
   refine qX rfl rfl rfl rfl ?_
   have eI:axI s.1=1:=by unfold axI;simp only[uR,qE] at *;grind
   have eJ:axJ s.1=2:=by unfold axJ;simp only[uR,qE] at *;grind
   have eK:axK s.1=0:=by unfold axK;simp only[uR,qE] at *;grind
   rw[eI,eJ,eK];rfl
  refine go8 ?_
  refine lX (xB yA (Pc.fst (Pc.ty pH)) rb1) fun v21 r21=>(cL (ev1 rfl) call17 (fun w hs=>qO hs r21 oM) fun v22 h3 hh3 r22=>?_)
  obtain rfl:v22=vI (xH s.1.y):=r22
  have hsr22:=wH s.1.y
  refine go3 ?_
  refine cnd (fun hc23=>?_) fun hc23=>?_
  ·
   refine zR8 ?_
   refine qX rfl rfl rfl rfl ?_
   have eI:axI s.1=0:=by unfold axI;simp only[uR,qE] at *;grind
   have eJ:axJ s.1=2:=by unfold axJ;simp only[uR,qE] at *;grind
   have eK:axK s.1=1:=by unfold axK;simp only[uR,qE] at *;grind
   rw[eI,eJ,eK];rfl
  refine sL ?_
  refine qX rfl rfl rfl rfl ?_
  have eI:axI s.1=2:=by unfold axI;simp only[uR,qE] at *;grind
  have eJ:axJ s.1=0:=by unfold axJ;simp only[uR,qE] at *;grind
  have eK:axK s.1=1:=by unfold axK;simp only[uR,qE] at *;grind
  rw[eI,eJ,eK];rfl
 refine go8 ?_
 refine lX (xB yA (Pc.fst (Pc.tz pH)) rb1) fun v21 r21=>(cL (ev1 rfl) call17 (fun w hs=>qO hs r21 oM) fun v22 h2 hh2 r22=>?_)
 obtain rfl:v22=vI (xH s.1.z):=r22
 have hsr22:=wH s.1.z
 refine go3 ?_
 refine cnd (fun hc23=>?_) fun hc23=>?_
 ·
  refine zR8 ?_
  refine qX rfl rfl rfl rfl ?_
  have eI:axI s.1=1:=by unfold axI;simp only[uR,qE] at *;grind
  have eJ:axJ s.1=0:=by unfold axJ;simp only[uR,qE] at *;grind
  have eK:axK s.1=2:=by unfold axK;simp only[uR,qE] at *;grind
  rw[eI,eJ,eK];rfl
 refine sL ?_
 refine qX rfl rfl rfl rfl ?_
 have eI:axI s.1=0:=by unfold axI;simp only[uR,qE] at *;grind
 have eJ:axJ s.1=1:=by unfold axJ;simp only[uR,qE] at *;grind
 have eK:axK s.1=2:=by unfold axK;simp only[uR,qE] at *;grind
 rw[eI,eJ,eK];rfl
theorem zGC{w0:World}{h0:Mem}(hs:MLe h0 (mem w0)){m l k:Nat}{vs:Value}{s:Pq}(rs:(tPl m l).Is h0 vs s){vp:Value}{p:Tq}(rp:(tPt k).Is h0 vp p)(hcd0:k≤1000000000)(hcd1:m≤1000000000):
    Calls Tryz.prog 208 #[vs,vp] w0 (Ret w0 h0 (fun h r=>(tPt (k+1)).Is h r (cI s p))):=by
 refine cb2 21 vs vp func208 hs ?_
 refine go2 ?_
 refine nB rs fun b2 cs2 rb2=>(nB rp fun b3 cs3 rb3=>(nA (ρ:=(tPt (k+1))) (X:=zT) yV (xW (yF oM)) fun b4 cs4 rb4=>?_))
 refine go4 ?_
 refine lX (xB zG4 pH rb2) fun v9 r9=>(cL (ev1 rfl) call209 (fun w hs=>zN7 hs r9 oM) fun v10 h1 hh1 r10=>?_)
 obtain rfl:=r10
 refine vO ?_
 refine gD 7 (qq 0 7 [(7,.t)]) (by kernel_rfl) ?_
 refine go1 ?_
 refine xJ rfl (fun _ _=>(zW (sz:=3) (axI s.1) underlying53 sizeOf26 rfl rfl (by rfl) (by exact zS9 _)).cv (show _=vP b3 (((axI s.1)*3+0)) from congrArg (vP b3) oM)) rfl (wX rfl (xB yA (Pc.ta pH (axI s.1) (by exact zS9 _)) rb3) fun v16 r16=>?_)
 refine go1 ?_
 refine xJ rfl (fun _ _=>(zW (sz:=3) (axJ s.1) underlying53 sizeOf26 rfl rfl (by rfl) (by exact zS8 _)).cv (show _=vP b3 (((axJ s.1)*3+0)) from congrArg (vP b3) oM)) rfl (wX rfl (xB yA (Pc.ta pH (axJ s.1) (by exact zS8 _)) rb3) fun v19 r19=>(wX rfl (xV (ρ:=(tPt (k+1))) (xC (ps':=[(0,_),(1,_)]) underlying53 yV rfl rfl sizeOf26 e4z rfl (xW (yF oM)) (zI rfl (Pc.tx (Pc.here _)) (r16.le (Le.q (l:=k+1) oM)) (zI rfl (Pc.ty (Pc.here _)) (r19.le (Le.q (l:=k+1) oM)) zX)))) fun v20 r20=>(yI (A:=[]) rfl (uB sizeOf53 pH rb4 r20) fun cs_13 rb_14=>?_)))
 refine go3 ?_
 refine wL (jZ (t:=4) zS mh0 rfl rb_14) ?_
 intro w_15 hvw_15 rr_16
 refine yE (fun E S=>zP rfl hvw_15 E S) ?_
 exact rr_16
theorem zN9{w0:World}{h0:Mem}(hs:MLe h0 (mem w0)){m l k:Nat}{vs:Value}{s:Pq}(rs:(tPl m l).Is h0 vs s){vp:Value}{p:Tq}(rp:(tPt k).Is h0 vp p)(hcd0:k≤1000000)(hcd1:l≤1000000)(hcd2:m≤1000000):
    Calls Tryz.prog 153 #[vs,vp] w0 (Ret w0 h0 (fun _ r=>r=vI (xH (jG s.1 p-s.2)))):=by
 refine cb2 13 vs vp func153 hs ?_
 refine go2 ?_
 refine nB rs fun b2 cs2 rb2=>(nB rp fun b3 cs3 rb3=>?_)
 refine go4 ?_
 refine gD 9 (qq 0 3 [(4,.q),(5,.q),(3,.c),(6,.c),(7,.c),(8,.q)]) (by kernel_rfl) ?_
 refine go1 ?_
 refine wX rfl (xB zS (Pc.fst pH) rb2) fun v6 r6=>(wX rfl (xB zS pH rb3) fun v7 r7=>?_)
 refine go1 ?_
 refine wX rfl (xB yA (Pc.snd pH) rb2) fun v10 r10=>?_
 refine w_c rfl (sC (ev2 rfl rfl) call44 (fun w hs=>u4 hs r6 r7 oM) fun v8 h1 hh1 r8=>?_)
 replace r8:=Rp.Is.le r8 (Le.q (l:=3*k+3*m+9) oM)
 refine w_c rfl (sC (ev2 rfl rfl) call16 (fun w hs=>bN hs r8 r10.up oM) fun v11 h2 hh2 r11=>?_)
 replace r11:=Rp.Is.le r11 (Le.q (l:=3*k+l+3*m+10) oM)
 refine w_c rfl (sC (ev1 rfl) call17 (fun w hs=>qO hs r11 oM) fun v12 h3 hh3 r12=>?_)
 obtain rfl:v12=vI (xH ((jG s.1 p)-s.2)):=r12
 have hsr12:=wH ((jG s.1 p)-s.2)
 refine go4 ?_
 refine zD rfl rfl ?_
 rfl
end Go.Proofs.YtboaboflnckgoaaGreat
namespace Bk
set_option linter.unusedVariables false
set_option linter.unusedSimpArgs false
open Classical
def wD(a b:Pt):Pt:=T3.mk (a.x+b.x) (a.y+b.y) (a.z+b.z)
def moved(l l':List Pt)(v:Pt):Prop:=l'.length=l.length∧∀q,q<l.length→gp l' q=wD (gp l q) v
def sh(a v:P2):P2:=(a.1+v.1,a.2+v.2)
end Bk
namespace Bk
set_option linter.unusedVariables false
set_option linter.unusedSimpArgs false
open Classical
def reved(l z:List Pt):Prop:=z.length=l.length∧∀q,q<l.length→gp z q=gp l (l.length-1-q)
def sN(n m:Nat):Nat:=if m+1=n then m else n-2-m
def movTo(l y:List Pt)(v:Pt)(m:Nat):Prop:=y.length=m∧∀q,q<m→gp y q=wD (gp l q) v
def revTo(l z:List Pt)(m:Nat):Prop:=z.length=m∧∀q,q<m→gp z q=gp l (l.length-1-q)
end Bk
namespace Bk
set_option linter.unusedVariables false
set_option linter.unusedSimpArgs false
open Classical
def hgt(pl:Pl)(p:Pt):Rat:=jG pl.1 p-pl.2
noncomputable def sdZ(pl:Pl)(p:Pt):Int:=xH (hgt pl p)
def lerp(t:Rat)(a b:Pt):Pt:=T3.mk (a.x+t*(b.x-a.x)) (a.y+t*(b.y-a.y)) (a.z+t*(b.z-a.z))
noncomputable def yBO(pl:Pl)(a b:Pt):Rat:=if hgt pl a-hgt pl b=0 then 0 else hgt pl a/(hgt pl a-hgt pl b)
noncomputable def btw(pl:Pl)(a b:Pt):Pt:=lerp (yBO pl a b) a b
abbrev nx(l:List Pt)(m:Nat):Pt:=gp l ((m+1)%l.length)
def xP(pl:Pl)(l:List Pt)(m:Nat):Prop:=sdZ pl (gp l m)*sdZ pl (nx l m)<0
noncomputable def zZZ(pl:Pl)(l:List Pt):Nat→List Pt
  |0=>[]
  |m+1=>zZZ pl l m++(if sdZ pl (gp l m)≤0 then[gp l m] else[])++(if xP pl l m then[btw pl (gp l m) (nx l m)] else[])
noncomputable def zZG(pl:Pl)(l:List Pt):Nat→List Pt
  |0=>[]
  |m+1=>zZG pl l m++(if 0≤sdZ pl (gp l m) then[gp l m] else[])++(if xP pl l m then[btw pl (gp l m) (nx l m)] else[])
def zWV(pl:Pl)(l:List Pt):Nat→Prop
  |0=>False
  |m+1=>zWV pl l m∨sdZ pl (gp l m)<0
def zTB(pl:Pl)(l:List Pt):Nat→Prop
  |0=>False
  |m+1=>zTB pl l m∨0<sdZ pl (gp l m)
noncomputable def cutB(pl:Pl)(l:List Pt):List Pt:=if zWV pl l l.length∨¬zTB pl l l.length then zZZ pl l l.length else[]
noncomputable def cutF(pl:Pl)(l:List Pt):List Pt:=if zTB pl l l.length then zZG pl l l.length else[]
section
variable {pl:Pl}{l B:List Pt}{m:Nat}
noncomputable def bkH(pl:Pl)(l:List Pt)(m:Nat):List Pt:=zZZ pl l m++(if sdZ pl (gp l m)≤0 then[gp l m] else[])
noncomputable def frH(pl:Pl)(l:List Pt)(m:Nat):List Pt:=zZG pl l m++(if 0≤sdZ pl (gp l m) then[gp l m] else[])
end
end Bk
namespace Bk
set_option linter.unusedVariables false
set_option linter.unusedSimpArgs false
open Classical
def triT(P:Nat→P2)(n:Nat):Prop:=∀i j k,i<j→j<k→k<n→0<cr (P i) (P j) (P k)
def edgeT(P:Nat→P2)(n:Nat):Prop:=∀i k,i<n→2≤k→k<n→0<cr (P i) (P ((i+1)%n)) (P ((i+k)%n))
def lp(t:Rat)(a b:P2):P2:=(a.1+t*(b.1-a.1),a.2+t*(b.2-a.2))
def ex(P:Nat→P2)(n m:Nat):P2:=P (m%n)
abbrev Mk:=Nat×Bool
def mkP(P:Nat→P2)(n:Nat)(t:Nat→Rat)(M:Mk):P2:=if M.2 then lp (t M.1) (ex P n M.1) (ex P n (M.1+1)) else ex P n M.1
def mkLt(A B:Mk):Prop:=A.1<B.1∨(A.1=B.1∧A.2=false∧B.2=true)
def chg(s:Nat→Int)(n m:Nat):Prop:=s m*s ((m+1)%n)<0
noncomputable def mks(s:Nat→Int)(n:Nat):Nat→List Mk
  |0=>[]
  |m+1=>mks s n m++(if s m≤0 then[(m,false)] else[])++(if chg s n m then[(m,true)] else[])
end Bk
namespace Bk
set_option linter.unusedVariables false
set_option linter.unusedSimpArgs false
open Classical
def inC(P:Nat→P2)(n:Nat)(p:P2):Prop:=∀m,m<n→0≤cr (P m) (P ((m+1)%n)) p
def afZ(w:Rat×Rat×Rat)(p:P2):Rat:=w.1+w.2.1*p.1+w.2.2*p.2
def mkS(S:Nat→Int)(M:Mk):Prop:=if M.2 then S M.1*S (M.1+1)<0 else S M.1≤0
def nxM(L:List Mk)(n q:Nat):Mk:=if q+1<L.length then L.getD (q+1) (0,false) else((L.getD 0 (0,false)).1+n,(L.getD 0 (0,false)).2)
section
variable {s:Nat→Int}{n:Nat}
end
structure Cfg(P:Nat→P2)(n:Nat)(t:Nat→Rat)(s:Nat→Int)(w:Rat×Rat×Rat):Prop where
  h3:3≤n
  tri:triT P n
  per:∀m,t (m%n)=t m
  cross:∀m,m<n→chg s n m→(0<t m∧t m<1)∧afZ w (lp (t m) (P m) (P ((m+1)%n)))=0
  neg:∀m,m<n→(s m<0↔afZ w (P m)<0)
  zero:∀m,m<n→(s m=0↔afZ w (P m)=0)
section
variable {P:Nat→P2}{n:Nat}{t:Nat→Rat}{s:Nat→Int}{w:Rat×Rat×Rat}
def cx(u v:P2):Rat:=u.1*v.2-v.1*u.2
def arC(P:Nat→P2)(n:Nat):Nat→Rat
  |0=>0
  |m+1=>arC P n m+cx (P m) (P ((m+1)%n))
def arO(P:Nat→P2)(n:Nat)(o:P2):Nat→Rat
  |0=>0
  |m+1=>arO P n o m+cr o (P m) (P ((m+1)%n))
noncomputable def om(S:Nat→Int)(t:Nat→Rat)(e:Nat):Rat:=
  if S e≤0∧S (e+1)≤0 then 1 else if S e<0∧0<S (e+1) then t e else if 0<S e∧S (e+1)<0 then 1-t e else 0
noncomputable def yAA(S:Nat→Int)(t:Nat→Rat)(k:Nat→Rat):Nat→Rat
  |0=>0
  |e+1=>yAA S t k e+om S t e*k e
noncomputable def uM(S:Nat→Int)(t:Nat→Rat)(k:Nat→Rat)(M:Mk):Rat:=yAA S t k M.1+if M.2=true∧S M.1<0 then t M.1*k M.1 else 0
end
def ngW(w:Rat×Rat×Rat):Rat×Rat×Rat:=(-w.1,-w.2.1,-w.2.2)
section
variable {P:Nat→P2}{n:Nat}{t:Nat→Rat}{s:Nat→Int}{w:Rat×Rat×Rat}
end
end Bk
namespace Bk
set_option linter.unusedVariables false
set_option linter.unusedSimpArgs false
open Classical
noncomputable def pt2(pl:Pl)(p:Pt):P2:=pr p (axI pl.1) (axJ pl.1)
def convP(pl:Pl)(l:List Pt):Prop:=
  (3≤l.length∧¬pl.1=zT)∧(∀m,m<l.length→sdZ pl (gp l m)=0)∧∀m k,m<l.length→2≤k→k<l.length→0<orZ (pt2 pl (gp l m)) (pt2 pl (nx l m)) (pt2 pl (gp l ((m+k)%l.length)))
noncomputable def mk3(c:Pl)(l:List Pt)(M:Mk):Pt:=if M.2 then btw c (gp l M.1) (nx l M.1) else gp l M.1
noncomputable def sgB(c:Pl)(l:List Pt)(m:Nat):Int:=sdZ c (gp l m)
noncomputable def sgF(c:Pl)(l:List Pt)(m:Nat):Int:=-sdZ c (gp l m)
noncomputable def tC(c:Pl)(l:List Pt)(m:Nat):Rat:=yBO c (gp l (m%l.length)) (nx l (m%l.length))
def aB(a b c:Pt):Rat:=jG a (sO b c)
end Bk
namespace Bk
set_option linter.unusedVariables false
set_option linter.unusedSimpArgs false
open Go Go.RowKit
open Classical
theorem zV3{k:Nat}{h:Mem}{v:Value}{p:T3 Rat}(s:(rpT (rpQ k)).Is h v p):lq p.x≤k∧lq p.y≤k∧lq p.z≤k:=by
  obtain⟨cs,⟨a,b,_,ra,c,d,_,rc,rd⟩,_⟩:=s
  exact⟨ra.2,rc.2,rd.2⟩
theorem zPN{K k:Nat}{h:Mem}{v:Value}{p:T3 Rat}(s:(rpT (rpQ K)).Is h v p)(h1:lq p.x≤k)(h2:lq p.y≤k)(h3:lq p.z≤k):(rpT (rpQ k)).Is h v p:=by
  obtain⟨cs,⟨a,b,e,ra,c,d,e',rc,rd⟩,ev⟩:=s
  exact⟨cs,⟨a,b,e,⟨ra.1,h1⟩,c,d,e',⟨rc.1,h2⟩,⟨rd.1,h3⟩⟩,ev⟩
end Bk
namespace Go.Proofs.YtboaboflnckgoaaGreat
open Bk Go Tryz
set_option linter.unusedVariables false
set_option linter.unusedSimpArgs false
set_option maxRecDepth 10000
set_option maxHeartbeats 1000000
attribute [local irreducible] GL GC GQ W OpV
theorem zQ9{w0:World}{h0:Mem}(hs:MLe h0 (mem w0)){k l:Nat}{va:Value}{a:Tq}(ra:(tPt k).Is h0 va a){vb:Value}{b:Tq}(rb:(tPt l).Is h0 vb b)(hcd0:k+l≤1000000000):Calls Tryz.prog 34 #[va,vb] w0 (Ret w0 h0 (fun h r=>(tPt (k+l+1)).Is h r (T3.mk (a.x+b.x) (a.y+b.y) (a.z+b.z)))):=by
  obtain⟨a1,a2,a3⟩:=zV3 ra
  obtain⟨b1,b2,b3⟩:=zV3 rb
  exact(zRB hs ra rb hcd0).mono (kD fun h r x=>zPN x (by have:=qZ a.x b.x;show lq (a.x+b.x)≤_;omega) (by have:=qZ a.y b.y;show lq (a.y+b.y)≤_;omega) (by have:=qZ a.z b.z;show lq (a.z+b.z)≤_;omega))
theorem zKX{w0:World}{h0:Mem}(hs:MLe h0 (mem w0)){k l:Nat}{va:Value}{a:Tq}(ra:(tPt k).Is h0 va a){vb:Value}{b:Tq}(rb:(tPt l).Is h0 vb b)(hcd0:k+l≤10000000000):
    Calls Tryz.prog 116 #[va,vb,vF 70 []] w0 (Ret w0 h0 (fun h r=>(tPt (k+l+1+1)).Is h r (T3.mk (a.x+b.x) (a.y+b.y) (a.z+b.z)))):=by
 refine cb3 24 va vb (vF 70 []) func116 hs ?_
 refine go2 ?_
 refine nB ra fun b3 cs3 rb3=>(nB rb fun b4 cs4 rb4=>(nA (ρ:=(tPt (k+l+1+1))) (X:=zT) yV (xW (yF oM)) fun b6 cs6 rb6=>?_))
 refine go4 ?_
 refine nA (ρ:=(tPt (k+l+1+1))) (X:=zT) yV (xW (yF oM)) fun b7 cs7 rb7=>?_
 refine go9 ?_
 refine tX ?_
 refine go2 ?_
 refine gv (OpV.tr dC (yL (q:=3) rfl rfl)) rfl ?_
 refine tV ?_
 refine gD 10 (qq 0 8 [(8,.c),(9,.q),(10,.t)]) (by kernel_rfl) ?_
 refine go4 ?_
 refine wX rfl (xB yA (Pc.tx pH) rb3) fun v16u1 r16u1=>?_
 refine go2 ?_
 refine wX rfl (xB yA (Pc.tx pH) rb4) fun v19u1 r19u1=>?_
 refine w_c rfl (cO (rI (vs:=[_,_]) call70 rfl e2z) rfl (fun w hs=>fJ hs r16u1 r19u1 oM) ?_)
 intro v20u1 h1 hh1 r20u1
 change (rpQ (k+l+1)).Is h1 v20u1 (a.x+b.x) at r20u1
 refine go1 ?_
 refine yI (A:=[]) rfl (uB sizeOf26 (Pc.tx pH) rb7 (r20u1.le (Le.q (l:=k+l+1+1) oM))) fun cs_1 rb_2=>?_
 refine go4 ?_
 refine gv ((zY (q:=1) rfl rfl oM oM).cv (show _=vI (1) from rfl)) rfl ?_
 refine go2 ?_
 refine wS ?_
 refine go2 ?_
 refine gv (OpV.tr dC (yL (q:=3) rfl rfl)) rfl ?_
 refine tV ?_
 refine gD 10 (qq 0 8 [(8,.c),(9,.q),(10,.t)]) (by kernel_rfl) ?_
 refine go4 ?_
 refine wX rfl (xB yA (Pc.ty pH) rb3) fun v16u2 r16u2=>?_
 refine go2 ?_
 refine wX rfl (xB yA (Pc.ty pH) rb4) fun v19u2 r19u2=>?_
 refine w_c rfl (cO (rI (vs:=[_,_]) call70 rfl e2z) rfl (fun w hs=>fJ hs r16u2 r19u2 oM) ?_)
 intro v20u2 h2 hh2 r20u2
 change (rpQ (k+l+1)).Is h2 v20u2 (a.y+b.y) at r20u2
 refine go1 ?_
 refine yI (A:=[]) rfl (uB sizeOf26 (Pc.ty pH) rb_2 (r20u2.le (Le.q (l:=k+l+1+1) oM))) fun cs_3 rb_4=>?_
 refine go4 ?_
 refine gv ((zY (q:=1) rfl rfl oM oM).cv (show _=vI (2) from rfl)) rfl ?_
 refine go2 ?_
 refine wS ?_
 refine go2 ?_
 refine gv (OpV.tr dC (yL (q:=3) rfl rfl)) rfl ?_
 refine tV ?_
 refine gD 10 (qq 0 8 [(8,.c),(9,.q),(10,.t)]) (by kernel_rfl) ?_
 refine go4 ?_
 refine wX rfl (xB yA (Pc.tz pH) rb3) fun v16u3 r16u3=>?_
 refine go2 ?_
 refine wX rfl (xB yA (Pc.tz pH) rb4) fun v19u3 r19u3=>?_
 refine w_c rfl (cO (rI (vs:=[_,_]) call70 rfl e2z) rfl (fun w hs=>fJ hs r16u3 r19u3 oM) ?_)
 intro v20u3 h3 hh3 r20u3
 change (rpQ (k+l+1)).Is h3 v20u3 (a.z+b.z) at r20u3
 refine go1 ?_
 refine yI (A:=[]) rfl (uB sizeOf26 (Pc.tz pH) rb_4 (r20u3.le (Le.q (l:=k+l+1+1) oM))) fun cs_5 rb_6=>?_
 refine go4 ?_
 refine gv ((zY (q:=1) rfl rfl oM oM).cv (show _=vI (3) from rfl)) rfl ?_
 refine go2 ?_
 refine wS ?_
 refine go2 ?_
 refine gv (OpV.fa dC (yL (q:=3) rfl rfl)) rfl ?_
 refine uP ?_
 refine lX (xB zS pH rb_6) fun v23u4 r23u4=>(zR (A:=[_]) (uB sizeOf53 pH rb6 r23u4) fun cs_7 rb_8=>?_)
 refine go3 ?_
 refine wL (jZ (t:=6) zS mh1 rfl rb_8) ?_
 intro w_9 hvw_9 rr_10
 refine yE (fun E S=>zP rfl hvw_9 E S) ?_
 exact rr_10
theorem zKV{w0:World}{h0:Mem}(hs:MLe h0 (mem w0)){k l:Nat}{va:Value}{a:Tq}(ra:(tPt k).Is h0 va a){vb:Value}{b:Tq}(rb:(tPt l).Is h0 vb b)(hcd0:k+l≤10000000000):
    Calls Tryz.prog 116 #[va,vb,vF 179 []] w0 (Ret w0 h0 (fun h r=>(tPt (k+l+1+1)).Is h r (T3.mk (a.x-b.x) (a.y-b.y) (a.z-b.z)))):=by
 refine cb3 24 va vb (vF 179 []) func116 hs ?_
 refine go2 ?_
 refine nB ra fun b3 cs3 rb3=>(nB rb fun b4 cs4 rb4=>(nA (ρ:=(tPt (k+l+1+1))) (X:=zT) yV (xW (yF oM)) fun b6 cs6 rb6=>?_))
 refine go4 ?_
 refine nA (ρ:=(tPt (k+l+1+1))) (X:=zT) yV (xW (yF oM)) fun b7 cs7 rb7=>?_
 refine go9 ?_
 refine tX ?_
 refine go2 ?_
 refine gv (OpV.tr dC (yL (q:=3) rfl rfl)) rfl ?_
 refine tV ?_
 refine gD 10 (qq 0 8 [(8,.c),(9,.q),(10,.t)]) (by kernel_rfl) ?_
 refine go4 ?_
 refine wX rfl (xB yA (Pc.tx pH) rb3) fun v16u5 r16u5=>?_
 refine go2 ?_
 refine wX rfl (xB yA (Pc.tx pH) rb4) fun v19u5 r19u5=>?_
 refine w_c rfl (cO (rI (vs:=[_,_]) call179 rfl e2z) rfl (fun w hs=>cY hs r16u5 r19u5 oM) ?_)
 intro v20u5 h1 hh1 r20u5
 change (rpQ (k+l+1)).Is h1 v20u5 (a.x-b.x) at r20u5
 refine go1 ?_
 refine yI (A:=[]) rfl (uB sizeOf26 (Pc.tx pH) rb7 (r20u5.le (Le.q (l:=k+l+1+1) oM))) fun cs_11 rb_12=>?_
 refine go4 ?_
 refine gv ((zY (q:=1) rfl rfl oM oM).cv (show _=vI (1) from rfl)) rfl ?_
 refine go2 ?_
 refine wS ?_
 refine go2 ?_
 refine gv (OpV.tr dC (yL (q:=3) rfl rfl)) rfl ?_
 refine tV ?_
 refine gD 10 (qq 0 8 [(8,.c),(9,.q),(10,.t)]) (by kernel_rfl) ?_
 refine go4 ?_
 refine wX rfl (xB yA (Pc.ty pH) rb3) fun v16u6 r16u6=>?_
 refine go2 ?_
 refine wX rfl (xB yA (Pc.ty pH) rb4) fun v19u6 r19u6=>?_
 refine w_c rfl (cO (rI (vs:=[_,_]) call179 rfl e2z) rfl (fun w hs=>cY hs r16u6 r19u6 oM) ?_)
 intro v20u6 h2 hh2 r20u6
 change (rpQ (k+l+1)).Is h2 v20u6 (a.y-b.y) at r20u6
 refine go1 ?_
 refine yI (A:=[]) rfl (uB sizeOf26 (Pc.ty pH) rb_12 (r20u6.le (Le.q (l:=k+l+1+1) oM))) fun cs_13 rb_14=>?_
 refine go4 ?_
 refine gv ((zY (q:=1) rfl rfl oM oM).cv (show _=vI (2) from rfl)) rfl ?_
 refine go2 ?_
 refine wS ?_
 refine go2 ?_
 refine gv (OpV.tr dC (yL (q:=3) rfl rfl)) rfl ?_
 refine tV ?_
 refine gD 10 (qq 0 8 [(8,.c),(9,.q),(10,.t)]) (by kernel_rfl) ?_
 refine go4 ?_
 refine wX rfl (xB yA (Pc.tz pH) rb3) fun v16u7 r16u7=>?_
 refine go2 ?_
 refine wX rfl (xB yA (Pc.tz pH) rb4) fun v19u7 r19u7=>?_
 refine w_c rfl (cO (rI (vs:=[_,_]) call179 rfl e2z) rfl (fun w hs=>cY hs r16u7 r19u7 oM) ?_)
 intro v20u7 h3 hh3 r20u7
 change (rpQ (k+l+1)).Is h3 v20u7 (a.z-b.z) at r20u7
 refine go1 ?_
 refine yI (A:=[]) rfl (uB sizeOf26 (Pc.tz pH) rb_14 (r20u7.le (Le.q (l:=k+l+1+1) oM))) fun cs_15 rb_16=>?_
 refine go4 ?_
 refine gv ((zY (q:=1) rfl rfl oM oM).cv (show _=vI (3) from rfl)) rfl ?_
 refine go2 ?_
 refine wS ?_
 refine go2 ?_
 refine gv (OpV.fa dC (yL (q:=3) rfl rfl)) rfl ?_
 refine uP ?_
 refine lX (xB zS pH rb_16) fun v23u8 r23u8=>(zR (A:=[_]) (uB sizeOf53 pH rb6 r23u8) fun cs_17 rb_18=>?_)
 refine go3 ?_
 refine wL (jZ (t:=6) zS mh1 rfl rb_18) ?_
 intro w_19 hvw_19 rr_20
 refine yE (fun E S=>zP rfl hvw_19 E S) ?_
 exact rr_20
theorem zKW{w0:World}{h0:Mem}(hs:MLe h0 (mem w0)){k l:Nat}{va:Value}{a:Tq}(ra:(tPt k).Is h0 va a){vb:Value}{b:Tq}(rb:(tPt l).Is h0 vb b)(hcd0:k+l≤10000000000):
    Calls Tryz.prog 116 #[va,vb,vF 76 []] w0 (Ret w0 h0 (fun h r=>(tPt (k+l+1)).Is h r (T3.mk (a.x*b.x) (a.y*b.y) (a.z*b.z)))):=by
 refine cb3 24 va vb (vF 76 []) func116 hs ?_
 refine go2 ?_
 refine nB ra fun b3 cs3 rb3=>(nB rb fun b4 cs4 rb4=>(nA (ρ:=(tPt (k+l+1))) (X:=zT) yV (xW (yF oM)) fun b6 cs6 rb6=>?_))
 refine go4 ?_
 refine nA (ρ:=(tPt (k+l+1))) (X:=zT) yV (xW (yF oM)) fun b7 cs7 rb7=>?_
 refine go9 ?_
 refine tX ?_
 refine go2 ?_
 refine gv (OpV.tr dC (yL (q:=3) rfl rfl)) rfl ?_
 refine tV ?_
 refine gD 10 (qq 0 8 [(8,.c),(9,.q),(10,.t)]) (by kernel_rfl) ?_
 refine go4 ?_
 refine wX rfl (xB yA (Pc.tx pH) rb3) fun v16u9 r16u9=>?_
 refine go2 ?_
 refine wX rfl (xB yA (Pc.tx pH) rb4) fun v19u9 r19u9=>?_
 refine w_c rfl (cO (rI (vs:=[_,_]) call76 rfl e2z) rfl (fun w hs=>qS hs r16u9 r19u9 oM) ?_)
 intro v20u9 h1 hh1 r20u9
 change (rpQ (k+l)).Is h1 v20u9 (a.x*b.x) at r20u9
 refine go1 ?_
 refine yI (A:=[]) rfl (uB sizeOf26 (Pc.tx pH) rb7 (r20u9.le (Le.q (l:=k+l+1) oM))) fun cs_21 rb_22=>?_
 refine go4 ?_
 refine gv ((zY (q:=1) rfl rfl oM oM).cv (show _=vI (1) from rfl)) rfl ?_
 refine go2 ?_
 refine wS ?_
 refine go2 ?_
 refine gv (OpV.tr dC (yL (q:=3) rfl rfl)) rfl ?_
 refine tV ?_
 refine gD 10 (qq 0 8 [(8,.c),(9,.q),(10,.t)]) (by kernel_rfl) ?_
 refine go4 ?_
 refine wX rfl (xB yA (Pc.ty pH) rb3) fun v16u10 r16u10=>?_
 refine go2 ?_
 refine wX rfl (xB yA (Pc.ty pH) rb4) fun v19u10 r19u10=>?_
 refine w_c rfl (cO (rI (vs:=[_,_]) call76 rfl e2z) rfl (fun w hs=>qS hs r16u10 r19u10 oM) ?_)
 intro v20u10 h2 hh2 r20u10
 change (rpQ (k+l)).Is h2 v20u10 (a.y*b.y) at r20u10
 refine go1 ?_
 refine yI (A:=[]) rfl (uB sizeOf26 (Pc.ty pH) rb_22 (r20u10.le (Le.q (l:=k+l+1) oM))) fun cs_23 rb_24=>?_
 refine go4 ?_
 refine gv ((zY (q:=1) rfl rfl oM oM).cv (show _=vI (2) from rfl)) rfl ?_
 refine go2 ?_
 refine wS ?_
 refine go2 ?_
 refine gv (OpV.tr dC (yL (q:=3) rfl rfl)) rfl ?_
 refine tV ?_
 refine gD 10 (qq 0 8 [(8,.c),(9,.q),(10,.t)]) (by kernel_rfl) ?_
 refine go4 ?_
 refine wX rfl (xB yA (Pc.tz pH) rb3) fun v16u11 r16u11=>?_
 refine go2 ?_
 refine wX rfl (xB yA (Pc.tz pH) rb4) fun v19u11 r19u11=>?_
 refine w_c rfl (cO (rI (vs:=[_,_]) call76 rfl e2z) rfl (fun w hs=>qS hs r16u11 r19u11 oM) ?_)
 intro v20u11 h3 hh3 r20u11
 change (rpQ (k+l)).Is h3 v20u11 (a.z*b.z) at r20u11
 refine go1 ?_
 refine yI (A:=[]) rfl (uB sizeOf26 (Pc.tz pH) rb_24 (r20u11.le (Le.q (l:=k+l+1) oM))) fun cs_25 rb_26=>?_
 refine go4 ?_
 refine gv ((zY (q:=1) rfl rfl oM oM).cv (show _=vI (3) from rfl)) rfl ?_
 refine go2 ?_
 refine wS ?_
 refine go2 ?_
 refine gv (OpV.fa dC (yL (q:=3) rfl rfl)) rfl ?_
 refine uP ?_
 refine lX (xB zS pH rb_26) fun v23u12 r23u12=>(zR (A:=[_]) (uB sizeOf53 pH rb6 r23u12) fun cs_27 rb_28=>?_)
 refine go3 ?_
 refine wL (jZ (t:=6) zS mh1 rfl rb_28) ?_
 intro w_29 hvw_29 rr_30
 refine yE (fun E S=>zP rfl hvw_29 E S) ?_
 exact rr_30
theorem zBU{w0:World}{h0:Mem}(hs:MLe h0 (mem w0)){k l:Nat}{va:Value}{a:Tq}(ra:(tPt k).Is h0 va a){vb:Value}{b:Tq}(rb:(tPt l).Is h0 vb b)(hcd0:k+l≤10000000000):
    Calls Tryz.prog 71 #[va,vb] w0 (Ret w0 h0 (fun h r=>(tPt (k+l+2)).Is h r (T3.mk (a.x+b.x) (a.y+b.y) (a.z+b.z)))):=by
 refine cb2 8 va vb func71 hs ?_
 refine go2 ?_
 refine nB ra fun b2 cs2 rb2=>(nB rb fun b3 cs3 rb3=>(nA (ρ:=(tPt (k+l+2))) (X:=zT) yV (xW (yF oM)) fun b4 cs4 rb4=>?_))
 refine go4 ?_
 refine lX (xB zS pH rb2) fun v5 r5=>(lX (xB zS pH rb3) fun v6 r6=>(cL (ev3 rfl rfl rfl) call116 (fun w hs=>zKX hs r5 r6 oM) fun v7 h1 hh1 r7=>?_))
 replace r7:=Rp.Is.le r7 (Le.t (Le.q (l:=k+l+2) oM))
 refine zR (A:=[]) (uB sizeOf53 pH rb4 r7) fun cs_31 rb_32=>?_
 refine go3 ?_
 refine wL (jZ (t:=4) zS mh0 rfl rb_32) ?_
 intro w_33 hvw_33 rr_34
 refine yE (fun E S=>zP rfl hvw_33 E S) ?_
 exact rr_34
theorem zMF{w0:World}{h0:Mem}(hs:MLe h0 (mem w0)){k l:Nat}{va:Value}{a:Tq}(ra:(tPt k).Is h0 va a){vb:Value}{b:Tq}(rb:(tPt l).Is h0 vb b)(hcd0:k+l≤10000000000):
    Calls Tryz.prog 133 #[va,vb] w0 (Ret w0 h0 (fun h r=>(tPt (k+l+2)).Is h r (T3.mk (a.x-b.x) (a.y-b.y) (a.z-b.z)))):=by
 refine cb2 8 va vb func133 hs ?_
 refine go2 ?_
 refine nB ra fun b2 cs2 rb2=>(nB rb fun b3 cs3 rb3=>(nA (ρ:=(tPt (k+l+2))) (X:=zT) yV (xW (yF oM)) fun b4 cs4 rb4=>?_))
 refine go4 ?_
 refine lX (xB zS pH rb2) fun v5 r5=>(lX (xB zS pH rb3) fun v6 r6=>(cL (ev3 rfl rfl rfl) call116 (fun w hs=>zKV hs r5 r6 oM) fun v7 h1 hh1 r7=>?_))
 replace r7:=Rp.Is.le r7 (Le.t (Le.q (l:=k+l+2) oM))
 refine zR (A:=[]) (uB sizeOf53 pH rb4 r7) fun cs_35 rb_36=>?_
 refine go3 ?_
 refine wL (jZ (t:=4) zS mh0 rfl rb_36) ?_
 intro w_37 hvw_37 rr_38
 refine yE (fun E S=>zP rfl hvw_37 E S) ?_
 exact rr_38
theorem zAG{w0:World}{h0:Mem}(hs:MLe h0 (mem w0)){l k:Nat}{vq:Value}{q:Rat}(rq:(rpQ l).Is h0 vq q){va:Value}{a:Tq}(ra:(tPt k).Is h0 va a)(hcd0:k+l≤1000000000):
    Calls Tryz.prog 72 #[vq,va] w0 (Ret w0 h0 (fun h r=>(tPt (k+l+2)).Is h r (T3.mk (q*a.x) (q*a.y) (q*a.z)))):=by
 refine cb2 11 vq va func72 hs ?_
 refine go2 ?_
 refine nB rq fun b2 cs2 rb2=>(nB ra fun b3 cs3 rb3=>(nA (ρ:=(tPt (k+l+2))) (X:=zT) yV (xW (yF oM)) fun b4 cs4 rb4=>?_))
 refine go4 ?_
 refine lX (xB yA pH rb2) fun v5 r5=>(lX (xB yA pH rb2) fun v6 r6=>(lX (xB yA pH rb2) fun v7 r7=>(lX (xV (ρ:=(tPt (l+1))) (xC (ps':=[(0,_),(1,_),(2,_)]) underlying53 yV rfl rfl sizeOf26 e6z rfl (xW (yF oM)) (zI rfl (Pc.tx (Pc.here _)) (r5.le (Le.q (l:=l+1) oM)) (zI rfl (Pc.ty (Pc.here _)) (r6.le (Le.q (l:=l+1) oM)) (zI rfl (Pc.tz (Pc.here _)) (r7.le (Le.q (l:=l+1) oM)) zX))))) fun v8 r8=>(lX (xB zS pH rb3) fun v9 r9=>(cL (ev3 rfl rfl rfl) call116 (fun w hs=>zKW hs r8 r9 oM) fun v10 h1 hh1 r10=>?_)))))
 replace r10:=Rp.Is.le r10 (Le.t (Le.q (l:=k+l+2) oM))
 refine zR (A:=[]) (uB sizeOf53 pH rb4 r10) fun cs_39 rb_40=>?_
 refine go3 ?_
 refine wL (jZ (t:=4) zS mh0 rfl rb_40) ?_
 intro w_41 hvw_41 rr_42
 refine yE (fun E S=>zP rfl hvw_41 E S) ?_
 exact rr_42
theorem zMG{w0:World}{h0:Mem}(hs:MLe h0 (mem w0)){k l:Nat}{va:Value}{a:Tq}(ra:(tPt k).Is h0 va a){vb:Value}{b:Tq}(rb:(tPt l).Is h0 vb b)(hcd0:k+l≤1000000000):
    Calls Tryz.prog 88 #[va,vb] w0 (Ret w0 h0 (fun h r=>(rpQ (3*k+3*l+9)).Is h r (jG a b))):=by
 refine cb2 21 va vb func88 hs ?_
 refine go2 ?_
 refine nB ra fun b2 cs2 rb2=>(nB rb fun b3 cs3 rb3=>(nA (ρ:=(rpQ (3*k+3*l+9))) (X:=(0:Rat)) yN (yF oM) fun b4 cs4 rb4=>?_))
 refine go4 ?_
 refine nA (ρ:=(rpQ 1)) (X:=(0:Rat)) yN (yF dC) fun b5 cs5 rb5=>?_
 refine go9 ?_
 refine tX ?_
 refine go2 ?_
 refine gv (OpV.tr dC (yL (q:=3) rfl rfl)) rfl ?_
 refine tV ?_
 refine gD 9 (qq 0 7 [(7,.c),(8,.c),(9,.t)]) (by kernel_rfl) ?_
 refine wX rfl (xB yA pH rb5) fun v10u13 r10u13=>?_
 refine go2 ?_
 refine wX rfl (xB yA (Pc.tx pH) rb2) fun v13u13 r13u13=>?_
 refine go2 ?_
 refine wX rfl (xB yA (Pc.tx pH) rb3) fun v16u13 r16u13=>?_
 refine w_c rfl (sC (ev2 rfl rfl) call76 (fun w hs=>qS hs r13u13 r16u13 oM) fun v17u13 h1 hh1 r17u13=>?_)
 change (rpQ (k+l)).Is h1 v17u13 (a.x*b.x) at r17u13
 refine w_c rfl (sC (ev2 rfl rfl) call70 (fun w hs=>fJ hs r10u13.up r17u13 oM) fun v18u13 h2 hh2 r18u13=>?_)
 change (rpQ (1+(k+l)+1)).Is h2 v18u13 ((0:Rat)+(a.x*b.x)) at r18u13
 replace r18u13:=Rp.Is.le r18u13 (Le.q (l:=k+l+2) oM)
 replace rb5:=rb5.mono (hh1.trans hh2)
 have rw_43:=(Le.q (l:=k+l+2) oM).R rb5
 refine yI (A:=[]) rfl (uB sizeOf26 pH rw_43 r18u13) fun cs_44 rb_45=>?_
 refine go4 ?_
 refine gv ((zY (q:=1) rfl rfl oM oM).cv (show _=vI (1) from rfl)) rfl ?_
 refine go2 ?_
 refine wS ?_
 refine go2 ?_
 refine gv (OpV.tr dC (yL (q:=3) rfl rfl)) rfl ?_
 refine tV ?_
 refine gD 9 (qq 0 7 [(7,.c),(8,.c),(9,.t)]) (by kernel_rfl) ?_
 refine wX rfl (xB yA pH rb_45) fun v10u14 r10u14=>?_
 refine go2 ?_
 refine wX rfl (xB yA (Pc.ty pH) rb2) fun v13u14 r13u14=>?_
 refine go2 ?_
 refine wX rfl (xB yA (Pc.ty pH) rb3) fun v16u14 r16u14=>?_
 refine w_c rfl (sC (ev2 rfl rfl) call76 (fun w hs=>qS hs r13u14 r16u14 oM) fun v17u14 h3 hh3 r17u14=>?_)
 change (rpQ (k+l)).Is h3 v17u14 (a.y*b.y) at r17u14
 refine w_c rfl (sC (ev2 rfl rfl) call70 (fun w hs=>fJ hs r10u14.up r17u14 oM) fun v18u14 h4 hh4 r18u14=>?_)
 change (rpQ ((k+l+2)+(k+l)+1)).Is h4 v18u14 (((0:Rat)+(a.x*b.x))+(a.y*b.y)) at r18u14
 replace r18u14:=Rp.Is.le r18u14 (Le.q (l:=2*k+2*l+3) oM)
 replace rb_45:=rb_45.mono (hh3.trans hh4)
 have rw_46:=(Le.q (l:=2*k+2*l+3) oM).R rb_45
 refine yI (A:=[]) rfl (uB sizeOf26 pH rw_46 r18u14) fun cs_47 rb_48=>?_
 refine go4 ?_
 refine gv ((zY (q:=1) rfl rfl oM oM).cv (show _=vI (2) from rfl)) rfl ?_
 refine go2 ?_
 refine wS ?_
 refine go2 ?_
 refine gv (OpV.tr dC (yL (q:=3) rfl rfl)) rfl ?_
 refine tV ?_
 refine gD 9 (qq 0 7 [(7,.c),(8,.c),(9,.t)]) (by kernel_rfl) ?_
 refine wX rfl (xB yA pH rb_48) fun v10u15 r10u15=>?_
 refine go2 ?_
 refine wX rfl (xB yA (Pc.tz pH) rb2) fun v13u15 r13u15=>?_
 refine go2 ?_
 refine wX rfl (xB yA (Pc.tz pH) rb3) fun v16u15 r16u15=>?_
 refine w_c rfl (sC (ev2 rfl rfl) call76 (fun w hs=>qS hs r13u15 r16u15 oM) fun v17u15 h5 hh5 r17u15=>?_)
 change (rpQ (k+l)).Is h5 v17u15 (a.z*b.z) at r17u15
 refine w_c rfl (sC (ev2 rfl rfl) call70 (fun w hs=>fJ hs r10u15.up r17u15 oM) fun v18u15 h6 hh6 r18u15=>?_)
 change (rpQ ((2*k+2*l+3)+(k+l)+1)).Is h6 v18u15 ((((0:Rat)+(a.x*b.x))+(a.y*b.y))+(a.z*b.z)) at r18u15
 replace r18u15:=Rp.Is.le r18u15 (Le.q (l:=3*k+3*l+4) oM)
 replace rb_48:=rb_48.mono (hh5.trans hh6)
 have rw_49:=(Le.q (l:=3*k+3*l+4) oM).R rb_48
 refine yI (A:=[]) rfl (uB sizeOf26 pH rw_49 r18u15) fun cs_50 rb_51=>?_
 refine go4 ?_
 refine gv ((zY (q:=1) rfl rfl oM oM).cv (show _=vI (3) from rfl)) rfl ?_
 refine go2 ?_
 refine wS ?_
 refine go2 ?_
 refine gv (OpV.fa dC (yL (q:=3) rfl rfl)) rfl ?_
 refine uP ?_
 refine lX (xB yA pH rb_51) fun v20u16 r20u16=>(zR (A:=[_]) (uB sizeOf26 pH rb4 (r20u16.le (Le.q (l:=3*k+3*l+9) oM))) fun cs_52 rb_53=>?_)
 refine go3 ?_
 refine wL (jZ (t:=4) yA mh1 rfl rb_53) ?_
 intro w_54 hvw_54 rr_55
 refine yE (fun E S=>zP rfl hvw_54 E S) ?_
 exact(Rp.Is.cast rr_55 (by unfold jG;grind))
theorem zEU{w0:World}{h0:Mem}(hs:MLe h0 (mem w0)){k l:Nat}{va:Value}{a:Tq}(ra:(tPt k).Is h0 va a){vb:Value}{b:Tq}(rb:(tPt l).Is h0 vb b)(hcd0:k+l≤1000000000):
    Calls Tryz.prog 132 #[va,vb] w0 (Ret w0 h0 (fun h r=>(tPt (2*k+2*l+3)).Is h r (sO a b))):=by
 refine cb2 37 va vb func132 hs ?_
 refine go2 ?_
 refine nB ra fun b2 cs2 rb2=>(nB rb fun b3 cs3 rb3=>(nA (ρ:=(tPt (2*k+2*l+3))) (X:=zT) yV (xW (yF oM)) fun b4 cs4 rb4=>?_))
 refine go4 ?_
 refine nA (ρ:=(tPt (2*k+2*l+3))) (X:=zT) yV (xW (yF oM)) fun b5 cs5 rb5=>?_
 refine go9 ?_
 refine tX ?_
 refine go2 ?_
 refine gv (OpV.tr dC (yL (q:=3) rfl rfl)) rfl ?_
 refine dG ?_
 refine gv ((zY (q:=1) rfl rfl oM oM).cv (show _=vI (1) from rfl)) rfl (gv ((vX (q:=3) rfl rfl oM oM).cv (show _=vI (1) from rfl)) rfl ?_)
 refine go1 ?_
 refine gv ((zY (q:=2) rfl rfl oM oM).cv (show _=vI (2) from rfl)) rfl (gv ((vX (q:=3) rfl rfl oM oM).cv (show _=vI (2) from rfl)) rfl ?_)
 refine go4 ?_
 refine gD 17 (qq 0 7 (qq 8 6 [(7,.c),(14,.c),(15,.c),(16,.q),(17,.t)])) (vG [0,0,2,4,0,16,32,72,0,256,512,0,2048,4096,9344,16512,65535,131071] (frz 262143 [0,0,2,4,0,16,32,72,0,256,512,0,2048,4096,9216,16512,1,98304]) (by kernel_rfl)) ?_
 refine go3 ?_
 refine wX rfl (xB yA (Pc.ty pH) rb2) fun v21u17 r21u17=>?_
 refine go2 ?_
 refine wX rfl (xB yA (Pc.tz pH) rb3) fun v24u17 r24u17=>?_
 refine go2 ?_
 refine wX rfl (xB yA (Pc.tz pH) rb2) fun v28u17 r28u17=>?_
 refine go2 ?_
 refine wX rfl (xB yA (Pc.ty pH) rb3) fun v31u17 r31u17=>?_
 refine w_c rfl (sC (ev2 rfl rfl) call76 (fun w hs=>qS hs r21u17 r24u17 oM) fun v25u17 h1 hh1 r25u17=>?_)
 change (rpQ (k+l)).Is h1 v25u17 (a.y*b.z) at r25u17
 refine w_c rfl (sC (ev2 rfl rfl) call76 (fun w hs=>qS hs r28u17.up r31u17.up oM) fun v32u17 h2 hh2 r32u17=>?_)
 change (rpQ (k+l)).Is h2 v32u17 (a.z*b.y) at r32u17
 refine w_c rfl (sC (ev2 rfl rfl) call179 (fun w hs=>cY hs r25u17.up r32u17 oM) fun v33u17 h3 hh3 r33u17=>?_)
 change (rpQ ((k+l)+(k+l)+1)).Is h3 v33u17 ((a.y*b.z)-(a.z*b.y)) at r33u17
 replace r33u17:=Rp.Is.le r33u17 (Le.q (l:=2*k+2*l+1) oM)
 refine go1 ?_
 refine yI (A:=[]) rfl (uB sizeOf26 (Pc.tx pH) rb5 (r33u17.le (Le.q (l:=2*k+2*l+3) oM))) fun cs_56 rb_57=>?_
 refine go4 ?_
 refine gv ((zY (q:=1) rfl rfl oM oM).cv (show _=vI (1) from rfl)) rfl ?_
 refine go2 ?_
 refine wS ?_
 refine go2 ?_
 refine gv (OpV.tr dC (yL (q:=3) rfl rfl)) rfl ?_
 refine dG ?_
 refine gv ((zY (q:=1) rfl rfl oM oM).cv (show _=vI (2) from rfl)) rfl (gv ((vX (q:=3) rfl rfl oM oM).cv (show _=vI (2) from rfl)) rfl ?_)
 refine go1 ?_
 refine gv ((zY (q:=2) rfl rfl oM oM).cv (show _=vI (3) from rfl)) rfl (gv ((vX (q:=3) rfl rfl oM oM).cv (show _=vI (0) from rfl)) rfl ?_)
 refine go4 ?_
 refine gD 17 (qq 0 7 (qq 8 6 [(7,.c),(14,.c),(15,.c),(16,.q),(17,.t)])) (vG [0,0,2,4,0,16,32,72,0,256,512,0,2048,4096,9344,16512,65535,131071] (frz 262143 [0,0,2,4,0,16,32,72,0,256,512,0,2048,4096,9216,16512,1,98304]) (by kernel_rfl)) ?_
 refine go3 ?_
 refine wX rfl (xB yA (Pc.tz pH) rb2) fun v21u18 r21u18=>?_
 refine go2 ?_
 refine wX rfl (xB yA (Pc.tx pH) rb3) fun v24u18 r24u18=>?_
 refine go2 ?_
 refine wX rfl (xB yA (Pc.tx pH) rb2) fun v28u18 r28u18=>?_
 refine go2 ?_
 refine wX rfl (xB yA (Pc.tz pH) rb3) fun v31u18 r31u18=>?_
 refine w_c rfl (sC (ev2 rfl rfl) call76 (fun w hs=>qS hs r21u18 r24u18 oM) fun v25u18 h4 hh4 r25u18=>?_)
 change (rpQ (k+l)).Is h4 v25u18 (a.z*b.x) at r25u18
 refine w_c rfl (sC (ev2 rfl rfl) call76 (fun w hs=>qS hs r28u18.up r31u18.up oM) fun v32u18 h5 hh5 r32u18=>?_)
 change (rpQ (k+l)).Is h5 v32u18 (a.x*b.z) at r32u18
 refine w_c rfl (sC (ev2 rfl rfl) call179 (fun w hs=>cY hs r25u18.up r32u18 oM) fun v33u18 h6 hh6 r33u18=>?_)
 change (rpQ ((k+l)+(k+l)+1)).Is h6 v33u18 ((a.z*b.x)-(a.x*b.z)) at r33u18
 replace r33u18:=Rp.Is.le r33u18 (Le.q (l:=2*k+2*l+1) oM)
 refine go1 ?_
 refine yI (A:=[]) rfl (uB sizeOf26 (Pc.ty pH) rb_57 (r33u18.le (Le.q (l:=2*k+2*l+3) oM))) fun cs_58 rb_59=>?_
 refine go4 ?_
 refine gv ((zY (q:=1) rfl rfl oM oM).cv (show _=vI (2) from rfl)) rfl ?_
 refine go2 ?_
 refine wS ?_
 refine go2 ?_
 refine gv (OpV.tr dC (yL (q:=3) rfl rfl)) rfl ?_
 refine dG ?_
 refine gv ((zY (q:=1) rfl rfl oM oM).cv (show _=vI (3) from rfl)) rfl (gv ((vX (q:=3) rfl rfl oM oM).cv (show _=vI (0) from rfl)) rfl ?_)
 refine go1 ?_
 refine gv ((zY (q:=2) rfl rfl oM oM).cv (show _=vI (4) from rfl)) rfl (gv ((vX (q:=3) rfl rfl oM oM).cv (show _=vI (1) from rfl)) rfl ?_)
 refine go4 ?_
 refine gD 17 (qq 0 7 (qq 8 6 [(7,.c),(14,.c),(15,.c),(16,.q),(17,.t)])) (vG [0,0,2,4,0,16,32,72,0,256,512,0,2048,4096,9344,16512,65535,131071] (frz 262143 [0,0,2,4,0,16,32,72,0,256,512,0,2048,4096,9216,16512,1,98304]) (by kernel_rfl)) ?_
 refine go3 ?_
 refine wX rfl (xB yA (Pc.tx pH) rb2) fun v21u19 r21u19=>?_
 refine go2 ?_
 refine wX rfl (xB yA (Pc.ty pH) rb3) fun v24u19 r24u19=>?_
 refine go2 ?_
 refine wX rfl (xB yA (Pc.ty pH) rb2) fun v28u19 r28u19=>?_
 refine go2 ?_
 refine wX rfl (xB yA (Pc.tx pH) rb3) fun v31u19 r31u19=>?_
 refine w_c rfl (sC (ev2 rfl rfl) call76 (fun w hs=>qS hs r21u19 r24u19 oM) fun v25u19 h7 hh7 r25u19=>?_)
 change (rpQ (k+l)).Is h7 v25u19 (a.x*b.y) at r25u19
 refine w_c rfl (sC (ev2 rfl rfl) call76 (fun w hs=>qS hs r28u19.up r31u19.up oM) fun v32u19 h8 hh8 r32u19=>?_)
 change (rpQ (k+l)).Is h8 v32u19 (a.y*b.x) at r32u19
 refine w_c rfl (sC (ev2 rfl rfl) call179 (fun w hs=>cY hs r25u19.up r32u19 oM) fun v33u19 h9 hh9 r33u19=>?_)
 change (rpQ ((k+l)+(k+l)+1)).Is h9 v33u19 ((a.x*b.y)-(a.y*b.x)) at r33u19
 replace r33u19:=Rp.Is.le r33u19 (Le.q (l:=2*k+2*l+1) oM)
 refine go1 ?_
 refine yI (A:=[]) rfl (uB sizeOf26 (Pc.tz pH) rb_59 (r33u19.le (Le.q (l:=2*k+2*l+3) oM))) fun cs_60 rb_61=>?_
 refine go4 ?_
 refine gv ((zY (q:=1) rfl rfl oM oM).cv (show _=vI (3) from rfl)) rfl ?_
 refine go2 ?_
 refine wS ?_
 refine go2 ?_
 refine gv (OpV.fa dC (yL (q:=3) rfl rfl)) rfl ?_
 refine uP ?_
 refine lX (xB zS pH rb_61) fun v36u20 r36u20=>(zR (A:=[_]) (uB sizeOf53 pH rb4 r36u20) fun cs_62 rb_63=>?_)
 refine go3 ?_
 refine wL (jZ (t:=4) zS mh1 rfl rb_63) ?_
 intro w_64 hvw_64 rr_65
 refine yE (fun E S=>zP rfl hvw_64 E S) ?_
 exact rr_65
end Go.Proofs.YtboaboflnckgoaaGreat
namespace Bk
set_option linter.unusedVariables false
set_option linter.unusedSimpArgs false
open Classical
def lpP(x:List Int):Prop:=(3≤x.length∧x.length≤64)∧∀i,i<x.length→(0≤(x.getD i 0)∧(x.getD i 0)<512)∧∀k,k<i→¬(x.getD i 0)=(x.getD k 0)
def vfP(L:List (List Int)):Prop:=(1≤L.length∧L.length≤16)∧∀l,l<L.length→lpP ((L.getD l []))
def vaP(F:List (List (List Int))):Prop:=F.length≤256∧∀f,f<F.length→vfP ((F.getD f []))
abbrev E5:=Int×Int×Int×Int×Int
def edX(x:List Int)(f l:Nat):Nat→List E5:=uW fun i=>((x.getD i 0),(x.getD ((i+1)%x.length) 0),(f:Int),(l:Int),(i:Int))
def edL(L:List (List Int))(f:Nat):Nat→List E5:=cE fun l=>edX ((L.getD l [])) f l ((L.getD l [])).length
def edF(F:List (List (List Int))):Nat→List E5:=cE fun f=>edL ((F.getD f [])) f ((F.getD f [])).length
def edZ(F:List (List (List Int))):List E5:=edF F F.length
abbrev e0:E5:=((0:Int),(0:Int),(0:Int),(0:Int),(0:Int))
def zVT(e:E5)(a b:Int):Prop:=e.1=a∧e.2.1=b
noncomputable def dX(E:List E5)(a b:Int):Nat→Int
  |0=>0
  |m+1=>if zVT ((E.getD m ((0:Int),(0:Int),(0:Int),(0:Int),(0:Int)))) a b then dX E a b m+1 else dX E a b m
theorem dW(E:List E5)(a b:Int):∀m,0≤dX E a b m∧dX E a b m≤m
  |0=>by unfold dX;omega
  |m+1=>by
   have h:=dW E a b m
   unfold dX
   split<;>omega
theorem tm_t{E:List E5}{a b:Int}{m:Nat}(h:zVT ((E.getD m ((0:Int),(0:Int),(0:Int),(0:Int),(0:Int)))) a b):dX E a b m+1=dX E a b (m+1):=(if_pos h).symm
theorem tm_f{E:List E5}{a b:Int}{m:Nat}(h:¬zVT ((E.getD m ((0:Int),(0:Int),(0:Int),(0:Int),(0:Int)))) a b):dX E a b m=dX E a b (m+1):=(if_neg h).symm
noncomputable def tmZ(E:List E5)(a b:Int):Int:=dX E a b E.length
def yBJ(E:List E5)(i:Nat):Prop:=tmZ E ((E.getD i ((0:Int),(0:Int),(0:Int),(0:Int),(0:Int)))).2.1 ((E.getD i ((0:Int),(0:Int),(0:Int),(0:Int),(0:Int)))).1<tmZ E ((E.getD i ((0:Int),(0:Int),(0:Int),(0:Int),(0:Int)))).1 ((E.getD i ((0:Int),(0:Int),(0:Int),(0:Int),(0:Int)))).2.1
noncomputable def zZQ(E:List E5):Nat→List E5:=cG (yBJ E) fun i=>((30:Int),(-1:Int),((E.getD i ((0:Int),(0:Int),(0:Int),(0:Int),(0:Int)))).2.2.1,((E.getD i ((0:Int),(0:Int),(0:Int),(0:Int),(0:Int)))).2.2.2.1,((E.getD i ((0:Int),(0:Int),(0:Int),(0:Int),(0:Int)))).2.2.2.2)
noncomputable def clZ(F:List (List (List Int))):List E5:=if vaP F then zZQ (edZ F) (edZ F).length else[((1:Int),(-1:Int),(-1:Int),(-1:Int),(-1:Int))]
theorem zI0(x:List Int)(f l m:Nat):(edX x f l m).length=m:=wJ _ _
theorem zDK{L:List (List Int)}(h:∀l,l<L.length→((L.getD l [])).length≤64)(f:Nat):∀m,m≤L.length→(edL L f m).length≤64*m
  |0,_=>Nat.le_refl _
  |m+1,hm=>by
   have h1:=zDK h f m (by omega)
   have h2:=h m (by omega)
   show List.length (edL L f m++edX (L.getD m []) f m (L.getD m []).length)≤_
   rw[lAz,zI0]
   omega
theorem k9{F:List (List (List Int))}(h:∀f,f<F.length→((F.getD f [])).length≤16∧∀l,l<((F.getD f [])).length→((((F.getD f [])).getD l [])).length≤64):∀m,m≤F.length→(edF F m).length≤1024*m
  |0,_=>Nat.le_refl _
  |m+1,hm=>by
   have h1:=k9 h m (by omega)
   have h2:=h m (by omega)
   have h3:=zDK h2.2 m _ (Nat.le_refl _)
   show List.length (edF F m++edL (F.getD m []) m (F.getD m []).length)≤_
   rw[lAz]
   omega
end Bk
namespace Bk
set_option linter.unusedVariables false
set_option linter.unusedSimpArgs false
open Go Go.RowKit
def yB1(w0:World)(h0:Mem)(h:Mem)(L:List Res)(G:Mem→Value→Res→Res→Prop):Ending→World→Prop:=
  sQ w0 h0 (fun g v K=>∃q' o,(o::q'::L).Sublist K∧MLe h g∧G g v q' o)
section
variable {P:Program}{n:Nat}{w0:World}{h0:Mem}{e:List (Nat×Value)}{L:List Res}{h:Mem}{Q:Exit→Act→World→Prop}
variable {ty:TypeId}{ps:String}{af:Array Edge}
end
end Bk
namespace Go.Proofs.YtboaboflnckgoaaGreat
open Bk Go Tryz
set_option linter.unusedVariables false
set_option linter.unusedSimpArgs false
set_option maxRecDepth 10000
set_option maxHeartbeats 1000000
attribute [local irreducible] GL GC GQ W OpV
theorem oS{w0:World}{h0:Mem}(hs:MLe h0 (mem w0)){vL:Value}{L:(List (List Int))}(rL:tII.Is h0 vL L):
    Calls Tryz.prog 186 #[vL] w0 (Ret w0 h0 (fun _ r=>r=vB (vfP L))):=by
 refine cb1 65 vL func186 hs ?_
 refine uP ?_
 refine gU 5 14 (vB (((↑(L).length:Int)<(1:Int))∨((16:Int)<(↑(L).length:Int)))) ?_ ?_
 ·
  refine yB ((↑(L).length:Int)<(1:Int)) (fun hg=>?_) (fun hg=>?_)
  ·
   refine gT hg rfl ?_
   refine go5 ?_
   refine gqU ?_
   exact congrArg some (uA hg)
  refine gF hg rfl ?_
  refine go8 ?_
  refine gqU ?_
  exact congrArg some (uC hg)
 refine go2 ?_
 refine cnd (fun hc14=>?_) fun hc14=>?_
 ·
  refine go7 ?_
  refine zD rfl rfl ?_
  exact(yU (fun e=>by have:=e.1;omega)).symm
 refine go9 ?_
 refine gcL (ι:=Nat×Mem) (fun(l,ma)=>(MLe h0 ma∧(l≤L.length∧∀u,u<l→lpP (L.getD u [])),[(0,vL),(3,vI ↑l)],[],ma,L.length-l)) (0,h0) ?_ ?_
 ·
  refine⟨MLe.refl _,?_⟩
  exact⟨by omega,fun u h=>by omega⟩
 intro x hx
 obtain⟨l,ma⟩:=x
 dsimp only at hx
 obtain⟨hmma,hinv⟩:=hx
 refine yS ?_
 obtain⟨hl1,hl2⟩:=hinv
 refine go9 ?_
 refine cnd (fun hc18=>?_) fun hc18=>?_
 ·
  refine go8 ?_
  refine lX (xI [] l underlying81 fO rL) fun v23 r23=>(lX (xA fO r23) fun v24 r24=>?_)
  refine go9 ?_
  refine gU 5 32 (vB (((↑((L.getD l [])).length:Int)<(3:Int))∨((64:Int)<(↑((L.getD l [])).length:Int)))) ?_ ?_
  ·
   refine yB ((↑((L.getD l [])).length:Int)<(3:Int)) (fun hg=>?_) (fun hg=>?_)
   ·
    refine gT hg rfl ?_
    refine go5 ?_
    refine gqU ?_
    exact congrArg some (uA hg)
   refine gF hg rfl ?_
   refine go8 ?_
   refine gqU ?_
   exact congrArg some (uC hg)
  refine go2 ?_
  refine cnd (fun hc32=>?_) fun hc32=>?_
  ·
   refine uN ?_
   refine zD rfl rfl ?_
   exact(yU (fun e=>by have:=(e.2 l oM).1;omega)).symm
  refine go8 ?_
  refine gcL (ι:=Nat×Mem) (fun(i,mb)=>(MLe ma mb∧(i≤(L.getD l []).length∧∀u,u<i→(0≤(L.getD l []).getD u 0∧(L.getD l []).getD u 0<512)∧∀k,k<u→¬(L.getD l []).getD u 0=(L.getD l []).getD k 0),[(0,vL),(3,vI ↑l),(4,v24),(5,vI ↑i)],[],mb,(L.getD l []).length-i)) (0,ma) ?_ ?_
  ·
   refine⟨MLe.refl _,?_⟩
   exact⟨by omega,fun u h=>by omega⟩
  intro x hx
  obtain⟨i,mb⟩:=x
  dsimp only at hx
  obtain⟨hmmb,hinv⟩:=hx
  refine yS ?_
  obtain⟨hi1,hi2⟩:=hinv
  refine go9 ?_
  refine cnd (fun hc36=>?_) fun hc36=>?_
  ·
   refine go9 ?_
   refine lX (xI (0:Int) i underlying32 ty3 r24) fun v41 r41=>(lX (xA ty3 r41) fun v42 r42=>?_)
   obtain⟨rfl,hl42,hu42⟩:=jW r42
   refine go1 ?_
   refine gU 7 50 (vB ((((L.getD l []).getD i (0:Int))<(0:Int))∨((512:Int)≤((L.getD l []).getD i (0:Int))))) ?_ ?_
   ·
    refine yB (((L.getD l []).getD i (0:Int))<(0:Int)) (fun hg=>?_) (fun hg=>?_)
    ·
     refine gT hg rfl ?_
     refine go7 ?_
     refine gqU ?_
     exact congrArg some (uA hg)
    refine gF hg rfl ?_
    refine go5 ?_
    refine lX (xI (0:Int) i underlying32 ty3 r24) fun v47 r47=>?_
    refine go1 ?_
    refine lX (xA ty3 r47) fun v48 r48=>?_
    obtain⟨rfl,hl48,hu48⟩:=jW r48
    refine go4 ?_
    refine gqU ?_
    exact congrArg some (uC hg)
   refine go2 ?_
   refine cnd (fun hc50=>?_) fun hc50=>?_
   ·
    refine zAR ?_
    refine zD rfl rfl ?_
    exact(yU (fun e=>by have:=((e.2 l oM).2 i oM).1;omega)).symm
   refine go8 ?_
   refine gcL (ι:=Nat×Mem) (fun(k,mc)=>(MLe mb mc∧(k≤i∧∀v,v<k→¬(L.getD l []).getD i 0=(L.getD l []).getD v 0),[(0,vL),(3,vI ↑l),(4,v24),(5,vI ↑i),(6,vI ↑k)],[],mc,i-k)) (0,mb) ?_ ?_
   ·
    refine⟨MLe.refl _,?_⟩
    exact⟨by omega,fun u h=>by omega⟩
   intro x hx
   obtain⟨k,mc⟩:=x
   dsimp only at hx
   obtain⟨hmmc,hinv⟩:=hx
   refine yS ?_
   obtain⟨hk1,hk2⟩:=hinv
   refine go8 ?_
   refine cnd (fun hc53=>?_) fun hc53=>?_
   ·
    refine go5 ?_
    refine gD 9 (qq 0 9 []) (by kernel_rfl) ?_
    refine go2 ?_
    refine wX rfl (xI (0:Int) i underlying32 ty3 r24) fun v58 r58=>(wX rfl (xA ty3 r58) fun v59 r59=>?_)
    obtain⟨rfl,hl59,hu59⟩:=jW r59
    refine go2 ?_
    refine wX rfl (xI (0:Int) k underlying32 ty3 r24) fun v62 r62=>(wX rfl (xA ty3 r62) fun v63 r63=>?_)
    obtain⟨rfl,hl63,hu63⟩:=jW r63
    refine go3 ?_
    refine cnd (fun hc64=>?_) fun hc64=>?_
    ·
     refine yBI ?_
     refine zD rfl rfl ?_
     exact(yU (fun e=>((e.2 l oM).2 i oM).2 k oM hc64)).symm
    refine go8 ?_
    refine gqL ((k+1),mc) ?_ ?_
    ·
     refine⟨hmmc,?_⟩
     exact⟨by omega,qN (Q:=fun v=>¬(L.getD l []).getD i 0=(L.getD l []).getD v 0) hk2 hc64⟩
    omega
   refine uP ?_
   refine gqL ((i+1),mc) ?_ ?_
   ·
    refine⟨(hmmb.trans hmmc),?_⟩
    exact⟨by omega,qN (Q:=fun u=>(0≤(L.getD l []).getD u 0∧(L.getD l []).getD u 0<512)∧∀k,k<u→¬(L.getD l []).getD u 0=(L.getD l []).getD k 0) hi2 ⟨by omega,fun k hk=>hk2 k oM⟩⟩
   omega
  refine uP ?_
  refine gqL ((l+1),mb) ?_ ?_
  ·
   refine⟨(hmma.trans hmmb),?_⟩
   exact⟨by omega,qN (Q:=fun u=>lpP (L.getD u [])) hl2 ⟨by omega,fun u hu=>hi2 u oM⟩⟩
  omega
 refine uP ?_
 refine zD rfl rfl ?_
 exact(xL ⟨by omega,fun u hu=>hl2 u oM⟩).symm
theorem zKQ{w0:World}{h0:Mem}(hs:MLe h0 (mem w0)){vF:Value}{F:(List (List (List Int)))}(rF:(rpS tII).Is h0 vF F):
    Calls Tryz.prog 190 #[vF] w0 (Ret w0 h0 (fun _ r=>r=vB (vaP F))):=by
 refine cb1 19 vF func190 hs ?_
 refine sL ?_
 refine cnd (fun hc6=>?_) fun hc6=>?_
 ·
  refine go7 ?_
  refine zD rfl rfl ?_
  exact(yU (fun e=>by have:=e.1;omega)).symm
 refine go9 ?_
 refine gcL (ι:=Nat×Mem) (fun(f,ma)=>(MLe h0 ma∧(f≤F.length∧∀u,u<f→vfP (F.getD u [])),[(0,vF),(3,vI ↑f)],[],ma,F.length-f)) (0,h0) ?_ ?_
 ·
  refine⟨MLe.refl _,?_⟩
  exact⟨by omega,fun u h=>by omega⟩
 intro x hx
 obtain⟨f,ma⟩:=x
 dsimp only at hx
 obtain⟨hmma,hinv⟩:=hx
 refine yS ?_
 obtain⟨hf1,hf2⟩:=hinv
 refine go9 ?_
 refine cnd (fun hc10=>?_) fun hc10=>?_
 ·
  refine go8 ?_
  refine lX (xI [] f underlying175 cK rF) fun v15 r15=>(lX (xA cK r15) fun v16 r16=>(cL (ev1 rfl) call186 (fun w hs=>oS hs r16) fun v17 h1 hh1 r17=>?_))
  obtain rfl:v17=vB (vfP (F.getD f [])):=r17
  refine go3 ?_
  refine cnd (fun hc18=>?_) fun hc18=>?_
  ·
   refine uP ?_
   refine zD rfl rfl ?_
   exact(yU (fun e=>hc18 (e.2 f oM))).symm
  refine go8 ?_
  refine gqL ((f+1),h1) ?_ ?_
  ·
   refine⟨(hmma.trans hh1),?_⟩
   exact⟨by omega,qN (Q:=fun u=>vfP (F.getD u [])) hf2 (Classical.not_not.1 hc18)⟩
  omega
 refine uP ?_
 refine zD rfl rfl ?_
 exact(xL ⟨by omega,fun u hu=>hf2 u oM⟩).symm
theorem zCR{w0:World}{h0:Mem}(hs:MLe h0 (mem w0)){vF:Value}{F:(List (List (List Int)))}(rF:(rpS tII).Is h0 vF F)(hcd0:F.length≤1000)(hcd1:∀f,f<F.length→(F.getD f []).length≤16∧∀l,l<(F.getD f []).length→((F.getD f []).getD l []).length≤64):
    Calls Tryz.prog 174 #[vF] w0 (Ret w0 h0 (fun h r=>(rpS tE5).Is h r (edZ F))):=by
 refine cb1 56 vF func174 hs ?_
 refine dG ?_
 refine xQ 193 5 ?_
 have rl_1:RL tE5 h0 [] ([]:List (Int×(Int×(Int×(Int×Int))))):=RL.nil
 refine gcL (ι:=Nat×List (Int×Int×Int×Int×Int)×Value×List Value×Mem) (fun(f,D0,s3_2,cs_3,ma)=>(MLe h0 ma∧(RL tE5 ma cs_3 D0∧f≤F.length∧D0=edF F f),[(0,vF),(3,s3_2),(4,vI ↑f)],[.gs 193 5 s3_2 D0.length cs_3],ma,F.length-f)) (0,[],(.slice none 0 0),[],h0) ?_ ?_
 ·
  refine⟨MLe.refl _,?_⟩
  refine⟨rl_1,?_⟩
  exact⟨by omega,rfl⟩
 intro x hx
 obtain⟨f,D0,s3_2,cs_3,ma⟩:=x
 dsimp only at hx
 obtain⟨hmma,hinv⟩:=hx
 refine yS ?_
 obtain⟨rl_4,hinv⟩:=hinv
 obtain⟨hf1,hD0⟩:=hinv
 refine go9 ?_
 refine cnd (fun hc11=>?_) fun hc11=>?_
 ·
  refine vO ?_
  refine gcL (ι:=Nat×List (Int×Int×Int×Int×Int)×Value×List Value×Mem) (fun(l,D1,s3_5,cs_6,mb)=>(MLe ma mb∧(RL tE5 mb cs_6 D1∧l≤(F.getD f []).length∧D1=edF F f++edL (F.getD f []) f l),[(0,vF),(3,s3_5),(4,vI ↑f),(5,vI ↑l)],[.gs 193 5 s3_5 D1.length cs_6],mb,(F.getD f []).length-l)) (0,D0,s3_2,cs_3,ma) ?_ ?_
  ·
   refine⟨MLe.refl _,?_⟩
   refine⟨rl_4,?_⟩
   exact⟨by omega,by rw[hD0];exact(List.append_nil _).symm⟩
  intro x hx
  obtain⟨l,D1,s3_5,cs_6,mb⟩:=x
  dsimp only at hx
  obtain⟨hmmb,hinv⟩:=hx
  refine yS ?_
  obtain⟨rl_7,hinv⟩:=hinv
  obtain⟨hl1,hD1⟩:=hinv
  refine go6 ?_
  refine lX (xI [] f underlying175 cK rF) fun v17 r17=>(lX (xA cK r17) fun v18 r18=>?_)
  refine go4 ?_
  refine cnd (fun hc20=>?_) fun hc20=>?_
  ·
   refine go8 ?_
   refine lX (xI [] f underlying175 cK rF) fun v25 r25=>(lX (xA cK r25) fun v26 r26=>?_)
   refine go1 ?_
   refine lX (xI [] l underlying81 fO r26) fun v28 r28=>(lX (xA fO r28) fun v29 r29=>?_)
   refine go9 ?_
   refine gcL (ι:=Nat×List (Int×Int×Int×Int×Int)×Value×List Value×Mem) (fun(i,D2,s3_8,cs_9,mc)=>(MLe mb mc∧(RL tE5 mc cs_9 D2∧i≤((F.getD f []).getD l []).length∧D2=edF F f++edL (F.getD f []) f l++edX ((F.getD f []).getD l []) f l i),[(0,vF),(3,s3_8),(4,vI ↑f),(5,vI ↑l),(6,v29),(7,vI ↑i)],[.gs 193 5 s3_8 D2.length cs_9],mc,((F.getD f []).getD l []).length-i)) (0,D1,s3_5,cs_6,mb) ?_ ?_
   ·
    refine⟨MLe.refl _,?_⟩
    refine⟨rl_7,?_⟩
    exact⟨by omega,by rw[hD1];exact(List.append_nil _).symm⟩
   intro x hx
   obtain⟨i,D2,s3_8,cs_9,mc⟩:=x
   dsimp only at hx
   obtain⟨hmmc,hinv⟩:=hx
   refine yS ?_
   obtain⟨rl_10,hinv⟩:=hinv
   obtain⟨hi1,hD2⟩:=hinv
   have hq1:=k9 hcd1 f oM
   have hq2:=(hcd1 f oM).1
   have hq3:=zDK (hcd1 f oM).2 f l oM
   have hq4:=(hcd1 f oM).2 l oM
   have hq5:=zI0 ((F.getD f []).getD l []) f l i
   have hq6:D2.length≤1100000:=by rw[hD2,lAz,lAz];omega
   replace r29:=r29.mono hmmc
   refine go9 ?_
   refine cnd (fun hc33=>?_) fun hc33=>?_
   ·
    refine go4 ?_
    refine jI (A:=[]) 20 [] [(0,.q),(1,.q),(2,.q),(3,.q),(4,.q),(5,.q),(6,.q),(7,.q),(8,.q),(9,.q),(10,.q),(11,.q),(12,.q),(13,.q),(14,.q),(15,.q),(16,.q),(17,.c),(18,.c),(19,.q)] jN nX (vG [0,0,0,6,8,0,0,64,0,256,640,1056,2048,0,0,0,61456,65536,131073,524287] [1048575,1048575,1048575,1048569,1048567,1048575,1048575,1048511,1048575,1048319,1047935,1047519,1046527,1048575,1048575,1048575,987119,983039,917502,786430] (by kernel_rfl)) nX ?_
    refine go3 ?_
    refine wX rfl (xI (0:Int) i underlying32 ty3 r29) fun v39 r39=>(wX rfl (xA ty3 r39) fun v40 r40=>?_)
    obtain⟨rfl,hl40,hu40⟩:=jW r40
    refine go4 ?_
    refine w_q rfl (fun h' L' hh hR=>uY underlying32 rfl (r29.mono hh)) rfl (xJ rfl (fun _ _=>vX rfl rfl oM oM) rfl (wX rfl (xI (0:Int) ((i+1)%((F.getD f []).getD l []).length) underlying32 ty3 r29 (hi:=by exact Nat.mod_lt _ oM)) fun v47 r47=>(wX rfl (xA ty3 r47) fun v48 r48=>?_)))
    obtain⟨rfl,hl48,hu48⟩:=jW r48
    refine go3 ?_
    refine wX rfl (xV (ρ:=tE5) (wC (ps':=[(0,_),(1,_),(2,_),(3,_),(4,_)]) underlying193 zBZ rfl rfl (zN0 underlying193) e10 rfl (yJ wF (yJ wF (yJ wF (yJ wF wF)))) (zI rfl (Pc.fst (Pc.here _)) (qF oM oM) (zI rfl (Pc.snd (Pc.fst (Pc.here _))) (qF oM oM) (zI rfl (Pc.snd (Pc.snd (Pc.fst (Pc.here _)))) (qF oM oM) (zI rfl (Pc.snd (Pc.snd (Pc.snd (Pc.fst (Pc.here _))))) (qF oM oM) (zI rfl (Pc.snd (Pc.snd (Pc.snd (Pc.snd (Pc.here _))))) (qF oM oM) zX))))))) fun v52 r52=>?_
    refine w_c rfl (kU (fun X=>zV (ρ:=tE5) (m:=1) (xs:=[((((F.getD f []).getD l []).getD i (0:Int)),((((F.getD f []).getD l []).getD ((i+1)%((F.getD f []).getD l []).length) (0:Int)),((↑f:Int),((↑l:Int),(↑i:Int)))))]) (ps':=[(0,_)]) underlying190 zBZ rfl rfl rfl (yJ wF (yJ wF (yJ wF (yJ wF wF)))) e2z (zI rfl (Pc.arr (Pc.here _) e50 0 dC) r52 zX) (show 1*5≤16777216 from by decide) nP) rfl ?_)
    intro v53 q53 hq53
    obtain⟨cs53,rfl,rl53⟩:=hq53
    refine w_c rfl (vH (A:=[]) (ρ:=tE5) rl53 dK ?_)
    intro h1 hh1 rs_11
    replace rl_10:=rl_10.mono hh1
    refine sR (A:=[]) (fun X=>yD (ρ:=tE5) (bytes:=40) underlying190 zBZ rfl rfl rfl rfl nP rfl rfl rl_10 rs_11 bO bO) rfl (wM (by first|(simp;done)|grind)) ?_
    intro v54 q54 hq54
    obtain⟨cs54,rfl,rl54⟩:=hq54
    refine go9 ?_
    refine gqL ((i+1),(D2++[((((F.getD f []).getD l []).getD i (0:Int)),((((F.getD f []).getD l []).getD ((i+1)%((F.getD f []).getD l []).length) (0:Int)),((↑f:Int),((↑l:Int),(↑i:Int)))))]),v54,cs54,h1) ?_ ?_
    ·
     refine⟨(hmmc.trans hh1),?_⟩
     refine⟨rl54,?_⟩
     exact⟨by omega,by rw[hD2,List.append_assoc];rfl⟩
    omega
   have ei:i=((F.getD f []).getD l []).length:=by omega
   refine uP ?_
   refine gqL ((l+1),D2,s3_8,cs_9,mc) ?_ ?_
   ·
    refine⟨(hmmb.trans hmmc),?_⟩
    refine⟨rl_10,?_⟩
    exact⟨by omega,by rw[hD2,ei,List.append_assoc];rfl⟩
   omega
  have el:l=(F.getD f []).length:=by omega
  refine uP ?_
  refine gqL ((f+1),D1,s3_5,cs_6,mb) ?_ ?_
  ·
   refine⟨(hmma.trans hmmb),?_⟩
   refine⟨rl_7,?_⟩
   exact⟨by omega,by rw[hD1,el];rfl⟩
  omega
 have ef:f=F.length:=by omega
 refine uN ?_
 refine wW (A:=[]) (ρ:=tE5) rl_4 ?_
 intro h1 hh1 rs_12
 refine zD rfl rfl ?_
 exact(Rp.Is.cast rs_12 (by rw[hD0,ef];rfl))
theorem zCQ{w0:World}{h0:Mem}(hs:MLe h0 (mem w0)){vE:Value}{E:(List (Int×(Int×(Int×(Int×Int)))))}(rE:(rpS tE5).Is h0 vE E){a:Int}(ha1:-9223372036854775808≤a)(ha2:a<9223372036854775808){b:Int}(hb1:-9223372036854775808≤b)(hb2:b<9223372036854775808)(hcd0:E.length≤1000000):
    Calls Tryz.prog 191 #[vE,vI a,vI b] w0 (Ret w0 h0 (fun _ r=>r=vI (tmZ E a b))):=by
 refine cb3 34 vE (vI a) (vI b) func191 hs ?_
 refine dG ?_
 refine vC (ι:=Nat×Mem) (fun(m,ma)=>MLe h0 ma∧(m≤E.length)) (fun(m,ma)=>[(0,vE),(1,vI a),(2,vI b),(7,vI (dX E a b m)),(8,vI ↑m)]) (fun(m,ma)=>[]) (fun(m,ma)=>ma) (fun(m,ma)=>E.length-m) (0,h0) ?_ e5 rfl rfl ?_
 ·
  refine⟨MLe.refl _,?_⟩
  exact oM
 intro x hx
 obtain⟨m,ma⟩:=x
 obtain⟨hmma,hinv⟩:=hx
 refine yS ?_
 have hm1:=hinv
 have htr:=dW E a b m
 refine go9 ?_
 refine cnd (fun hc12=>?_) fun hc12=>?_
 ·
  refine go8 ?_
  refine lX (xI e50 m underlying190 iC rE) fun v17 r17=>(lX (xF underlying193 sizeOf3 (Pc.fst pH) r17) fun v18 r18=>(lX (xA ty3 r18) fun v19 r19=>?_))
  obtain⟨rfl,hl19,hu19⟩:=jW r19
  refine go2 ?_
  refine gU 9 30 (vB ((((E.getD m e50).1)=a)∧((((E.getD m e50).2).1)=b))) ?_ ?_
  ·
   refine yB (((E.getD m e50).1)=a) (fun hg=>?_) (fun hg=>?_)
   ·
    refine gT hg rfl ?_
    refine go5 ?_
    refine lX (xI e50 m underlying190 iC rE) fun v25 r25=>?_
    refine go1 ?_
    refine lX (xF underlying193 sizeOf3 (Pc.snd (Pc.fst pH)) r25) fun v26 r26=>?_
    refine go1 ?_
    refine lX (xA ty3 r26) fun v27 r27=>?_
    obtain⟨rfl,hl27,hu27⟩:=jW r27
    refine go6 ?_
    refine gqU ?_
    exact congrArg some (xM hg)
   refine gF hg rfl ?_
   refine go9 ?_
   refine gqU ?_
   exact congrArg some (xN hg)
  refine go2 ?_
  refine cnd (fun hc30=>?_) fun hc30=>?_
  ·
   refine uN ?_
   refine yQ ((m+1),ma) ?_ ?_ ⟨rfl,rfl,rfl,?_,rfl,trivial⟩ rfl rfl
   ·
    refine⟨hmma,?_⟩
    exact oM
   ·
    dsimp only
    omega
   · exact congrArg (fun z=>some (vI z)) (tm_t hc30)
  refine go8 ?_
  refine yQ ((m+1),ma) ?_ ?_ ⟨rfl,rfl,rfl,?_,rfl,trivial⟩ rfl rfl
  ·
   refine⟨hmma,?_⟩
   exact oM
  ·
   dsimp only
   omega
  · exact congrArg (fun z=>some (vI z)) (tm_f hc30)
 refine uN ?_
 refine zD rfl rfl ?_
 have em:m=E.length:=by omega
 subst em
 rfl
theorem zH1{w0:World}{h0:Mem}(hs:MLe h0 (mem w0)){vF:Value}{F:(List (List (List Int)))}(rF:(rpS tII).Is h0 vF F):
    Calls Tryz.prog 158 #[vF] w0 (Ret w0 h0 (fun h r=>(rpS tE5).Is h r (clZ F))):=by
 refine cb1 64 vF func158 hs ?_
 refine go9 ?_
 refine cL (ev1 rfl) call190 (fun w hs=>zKQ hs rF) fun v7 h1 hh1 r7=>?_
 obtain rfl:v7=vB (vaP F):=r7
 refine go3 ?_
 refine cnd (fun hc8=>?_) fun hc8=>?_
 ·
  refine go2 ?_
  refine lX (xV (ρ:=tE5) (wC (ps':=[(0,_),(1,_),(2,_),(3,_),(4,_)]) underlying200 qV rfl rfl (zAD underlying200) e10 rfl (yJ wF (yJ wF (yJ wF (yJ wF wF)))) (zI rfl (Pc.fst (Pc.here _)) (qF dC dC) (zI rfl (Pc.snd (Pc.fst (Pc.here _))) (qF dC dC) (zI rfl (Pc.snd (Pc.snd (Pc.fst (Pc.here _)))) (qF dC dC) (zI rfl (Pc.snd (Pc.snd (Pc.snd (Pc.fst (Pc.here _))))) (qF dC dC) (zI rfl (Pc.snd (Pc.snd (Pc.snd (Pc.snd (Pc.here _))))) (qF dC dC) zX))))))) fun v9 r9=>(zF (zV (ρ:=tE5) (m:=1) (xs:=[((1:Int),((-1:Int),((-1:Int),((-1:Int),(-1:Int)))))]) (ps':=[(0,_)]) underlying137 qV rfl rfl rfl (yJ wF (yJ wF (yJ wF (yJ wF wF)))) e2z (zI rfl (Pc.arr (Pc.here _) e50 0 dC) r9 zX) (show 1*5≤16777216 from by decide) nP) rfl rfl rfl ?_)
  intro v10 q10 hq10
  obtain⟨cs10,rfl,rl10⟩:=hq10
  refine go5 ?_
  refine wW (A:=[]) (ρ:=tE5) rl10 ?_
  intro h2 hh2 rs_13
  refine zD rfl rfl ?_
  exact(Rp.Is.cast rs_13 (by exact(if_neg hc8).symm))
 refine vO ?_
 have hva:vaP F:=Classical.not_not.1 hc8
 have hb1:∀f,f<F.length→(F.getD f []).length≤16∧∀l,l<(F.getD f []).length→((F.getD f []).getD l []).length≤64:=fun f hf=>⟨(hva.2 f hf).1.2,fun l hl=>((hva.2 f hf).2 l hl).1.2⟩
 have hb2:F.length≤256:=hva.1
 have hb3:=k9 hb1 F.length (Nat.le_refl _)
 have hb4:(edZ F).length≤262144:=by show(edF F F.length).length≤_;omega
 refine cL (ev1 rfl) call174 (fun w hs=>zCR hs rF.up (by first|omega|exact hb1) (by first|omega|exact hb1)) fun v12 h2 hh2 r12=>?_
 refine vO ?_
 refine xQ 200 5 ?_
 have rl_14:RL tE5 h2 [] ([]:List (Int×(Int×(Int×(Int×Int))))):=RL.nil
 refine gcL (ι:=Nat×List (Int×Int×Int×Int×Int)×Value×List Value×Mem) (fun(i,D,s3_15,cs_16,ma)=>(MLe h2 ma∧(RL tE5 ma cs_16 D∧i≤(edZ F).length∧D=zZQ (edZ F) i),[(3,s3_15),(4,v12),(5,vI ↑i)],[.gs 200 5 s3_15 D.length cs_16],ma,(edZ F).length-i)) (0,[],(.slice none 0 0),[],h2) ?_ ?_
 ·
  refine⟨MLe.refl _,?_⟩
  refine⟨rl_14,?_⟩
  exact⟨by omega,rfl⟩
 intro x hx
 obtain⟨i,D,s3_15,cs_16,ma⟩:=x
 dsimp only at hx
 obtain⟨hmma,hinv⟩:=hx
 refine yS ?_
 obtain⟨rl_17,hinv⟩:=hinv
 obtain⟨hi1,hD⟩:=hinv
 have hDl:D.length≤i:=by rw[hD];exact sY _ _ i
 refine go9 ?_
 refine cnd (fun hc16=>?_) fun hc16=>?_
 ·
  refine go5 ?_
  refine gD 25 (qq 0 11 (qq 12 11 [(11,.c),(23,.c),(24,.q)])) (vG [0,0,0,6,8,16,0,0,192,256,512,1057,0,0,0,24576,32768,65536,0,0,786432,1048576,2097152,4331520,8390656] (frz 33554431 [0,0,0,6,8,16,0,0,192,256,512,1057,0,0,0,24576,32768,65536,0,0,786432,1048576,2097152,4329472,8390656]) (by kernel_rfl)) ?_
  refine go3 ?_
  refine wX rfl (xI e50 i underlying190 iC r12) fun v22 r22=>(wX rfl (xF underlying193 sizeOf3 (Pc.fst pH) r22) fun v23 r23=>(wX rfl (xA ty3 r23) fun v24 r24=>?_))
  obtain⟨rfl,hl24,hu24⟩:=jW r24
  refine go2 ?_
  refine wX rfl (xI e50 i underlying190 iC r12) fun v27 r27=>(wX rfl (xF underlying193 sizeOf3 (Pc.snd (Pc.fst pH)) r27) fun v28 r28=>(wX rfl (xA ty3 r28) fun v29 r29=>?_))
  obtain⟨rfl,hl29,hu29⟩:=jW r29
  refine go3 ?_
  refine wX rfl (xI e50 i underlying190 iC r12) fun v34 r34=>(wX rfl (xF underlying193 sizeOf3 (Pc.snd (Pc.fst pH)) r34) fun v35 r35=>(wX rfl (xA ty3 r35) fun v36 r36=>?_))
  obtain⟨rfl,hl36,hu36⟩:=jW r36
  refine go2 ?_
  refine wX rfl (xI e50 i underlying190 iC r12) fun v39 r39=>(wX rfl (xF underlying193 sizeOf3 (Pc.fst pH) r39) fun v40 r40=>(wX rfl (xA ty3 r40) fun v41 r41=>?_))
  obtain⟨rfl,hl41,hu41⟩:=jW r41
  refine w_c rfl (sC (ev3 rfl rfl rfl) call191 (fun w hs=>zCQ hs r12.up oM oM oM oM oM) fun v30 h3 hh3 r30=>?_)
  obtain rfl:v30=vI (tmZ (edZ F) (((edZ F).getD i e50).1) ((((edZ F).getD i e50).2).1)):=r30
  have htm30:=dW (edZ F) (((edZ F).getD i e50).1) ((((edZ F).getD i e50).2).1) (edZ F).length
  refine w_c rfl (sC (ev3 rfl rfl rfl) call191 (fun w hs=>zCQ hs r12.up oM oM oM oM oM) fun v42 h4 hh4 r42=>?_)
  obtain rfl:v42=vI (tmZ (edZ F) ((((edZ F).getD i e50).2).1) (((edZ F).getD i e50).1)):=r42
  have htm42:=dW (edZ F) ((((edZ F).getD i e50).2).1) (((edZ F).getD i e50).1) (edZ F).length
  refine go3 ?_
  refine cnd (fun hc43=>?_) fun hc43=>?_
  ·
   refine jI (A:=[]) 20 [] [(0,.q),(1,.q),(2,.q),(3,.q),(4,.q),(5,.q),(6,.q),(7,.q),(8,.q),(9,.q),(10,.q),(11,.q),(12,.q),(13,.q),(14,.q),(15,.q),(16,.q),(17,.c),(18,.c),(19,.q)] jN nX (vG [0,0,0,6,8,16,0,0,192,256,512,0,0,6144,8192,16384,33824,65536,131073,524287] [1048575,1048575,1048575,1048569,1048567,1048559,1048575,1048575,1048383,1048319,1048063,1048575,1048575,1042431,1040383,1032191,1014751,983039,917502,786430] (by kernel_rfl)) nX ?_
   refine go3 ?_
   refine wX rfl (xI e50 i underlying190 iC r12) fun v47 r47=>(wX rfl (xF underlying193 sizeOf3 (Pc.snd (Pc.snd (Pc.fst pH))) r47) fun v48 r48=>(wX rfl (xA ty3 r48) fun v49 r49=>?_))
   obtain⟨rfl,hl49,hu49⟩:=jW r49
   refine go2 ?_
   refine wX rfl (xI e50 i underlying190 iC r12) fun v52 r52=>(wX rfl (xF underlying193 sizeOf3 (Pc.snd (Pc.snd (Pc.snd (Pc.fst pH)))) r52) fun v53 r53=>(wX rfl (xA ty3 r53) fun v54 r54=>?_))
   obtain⟨rfl,hl54,hu54⟩:=jW r54
   refine go2 ?_
   refine wX rfl (xI e50 i underlying190 iC r12) fun v57 r57=>(wX rfl (xF underlying193 sizeOf3 (Pc.snd (Pc.snd (Pc.snd (Pc.snd pH)))) r57) fun v58 r58=>(wX rfl (xA ty3 r58) fun v59 r59=>?_))
   obtain⟨rfl,hl59,hu59⟩:=jW r59
   refine wX rfl (xV (ρ:=tE5) (wC (ps':=[(0,_),(1,_),(2,_),(3,_),(4,_)]) underlying200 qV rfl rfl (zAD underlying200) e10 rfl (yJ wF (yJ wF (yJ wF (yJ wF wF)))) (zI rfl (Pc.fst (Pc.here _)) (qF dC dC) (zI rfl (Pc.snd (Pc.fst (Pc.here _))) (qF dC dC) (zI rfl (Pc.snd (Pc.snd (Pc.fst (Pc.here _)))) (qF oM oM) (zI rfl (Pc.snd (Pc.snd (Pc.snd (Pc.fst (Pc.here _))))) (qF oM oM) (zI rfl (Pc.snd (Pc.snd (Pc.snd (Pc.snd (Pc.here _))))) (qF oM oM) zX))))))) fun v60 r60=>?_
   refine w_c rfl (kU (fun X=>zV (ρ:=tE5) (m:=1) (xs:=[((30:Int),((-1:Int),((((((edZ F).getD i e50).2).2).1),(((((((edZ F).getD i e50).2).2).2).1),((((((edZ F).getD i e50).2).2).2).2)))))]) (ps':=[(0,_)]) underlying137 qV rfl rfl rfl (yJ wF (yJ wF (yJ wF (yJ wF wF)))) e2z (zI rfl (Pc.arr (Pc.here _) e50 0 dC) r60 zX) (show 1*5≤16777216 from by decide) nP) rfl ?_)
   intro v61 q61 hq61
   obtain⟨cs61,rfl,rl61⟩:=hq61
   refine w_c rfl (vH (A:=[]) (ρ:=tE5) rl61 dK ?_)
   intro h5 hh5 rs_18
   replace rl_17:=rl_17.mono ((hh3.trans hh4).trans hh5)
   refine sR (A:=[]) (fun X=>yD (ρ:=tE5) (bytes:=40) underlying137 qV rfl rfl rfl rfl nP rfl rfl rl_17 rs_18 bO bO) rfl (wM (by first|(simp;done)|grind)) ?_
   intro v62 q62 hq62
   obtain⟨cs62,rfl,rl62⟩:=hq62
   refine go9 ?_
   refine gqL ((i+1),(D++[((30:Int),((-1:Int),((((((edZ F).getD i e50).2).2).1),(((((((edZ F).getD i e50).2).2).2).1),((((((edZ F).getD i e50).2).2).2).2)))))]),v62,cs62,h5) ?_ ?_
   ·
    refine⟨(((hmma.trans hh3).trans hh4).trans hh5),?_⟩
    refine⟨rl62,?_⟩
    exact⟨by omega,by rw[hD];exact y6 hc43⟩
   omega
  refine go8 ?_
  refine gqL ((i+1),D,s3_15,cs_16,h4) ?_ ?_
  ·
   refine⟨((hmma.trans hh3).trans hh4),?_⟩
   replace rl_17:=rl_17.mono (hh3.trans hh4)
   refine⟨rl_17,?_⟩
   exact⟨by omega,by rw[hD];exact y7 hc43⟩
  omega
 refine uN ?_
 refine wW (A:=[]) (ρ:=tE5) rl_17 ?_
 intro h3 hh3 rs_19
 refine zD rfl rfl ?_
 exact(Rp.Is.cast rs_19 (by rw[hD,show i=(edZ F).length by omega];exact(if_pos hva).symm))
end Go.Proofs.YtboaboflnckgoaaGreat
namespace Bk
set_option linter.unusedVariables false
set_option linter.unusedSimpArgs false
open Classical
def nG(l:List Pt):Prop:=aQ l 0 1→¬uU l 0 1 l.length=0
theorem zOV{l:List Pt}(h:¬uU l 0 1 l.length=0):nG l:=fun _=>h
abbrev PI:=Int×Int
def crI(u v w:PI):Int:=(v.1-u.1)*(w.2-u.2)-(v.2-u.2)*(w.1-u.1)
def sgI(n:Int):Int:=if 0<n then 1 else if n<0 then -1 else 0
def orI(u v w:PI):Int:=sgI (crI u v w)
def lxI(u v:PI):Bool:=decide (u.1<v.1∨(u.1=v.1∧u.2<v.2))
def apI(a b c d:Int):Bool:=decide ((a<c∧a<d∧b<c∧b<d)∨(c<a∧d<a∧c<b∧d<b))
def alS(a b c d:PI):Int:=
  if lxI (if lxI d b then d else b) (if lxI a c then c else a) then 0 else if lxI (if lxI a c then c else a) (if lxI d b then d else b) then 3
  else if((if lxI a c then c else a)=a∨(if lxI a c then c else a)=b)∧((if lxI a c then c else a)=c∨(if lxI a c then c else a)=d) then 1 else 2
def alI(a b c d:PI):Int:=alS (if lxI b a then b else a) (if lxI b a then a else b) (if lxI d c then d else c) (if lxI d c then c else d)
def toI(a b c d:PI):Int:=
  if apI a.1 b.1 c.1 d.1∨apI a.2 b.2 c.2 d.2 then 0
  else if orI a b c=0∧orI a b d=0∧orI c d a=0∧orI c d b=0 then alI a b c d
  else if 0<orI a b c*orI a b d∨0<orI c d a*orI c d b then 0
  else if(orI a b c=0∨orI a b d=0)∧(orI c d a=0∨orI c d b=0) then 1 else 2
def af(x y r:Int)(u:PI):P2:=(((x+r*u.1:Int):Rat),((y+r*u.2:Int):Rat))
def rg(k:Nat):PI:=([(2,0),(2,1),(1,2),(-1,2),(-2,0),(-2,-1),(0,-2),(1,-1)]:List PI).getD k (0,0)
def gi(s:List Nat)(m:Nat):PI:=rg (s.getD m 0)
def arI(s:List Nat):Nat→Int
  |0=>0
  |m+1=>arI s m+((gi s m).1*(gi s ((m+1)%s.length)).2-(gi s ((m+1)%s.length)).1*(gi s m).2)
def waI(n p q:Nat):Int:=if q=p+1∨(p=0∧q+1=n) then 1 else 0
def badI(s:List Nat):Bool:=(List.range s.length).any fun q=>(List.range q).any fun p=>!decide (toI (gi s p) (gi s ((p+1)%s.length)) (gi s q) (gi s ((q+1)%s.length))=waI s.length p q)
def okI(s:List Nat):Bool:=decide (s.length<3)||!decide (arI s s.length=0)||badI s
def swI:List Nat→List Nat
  |a::b::l=>b::a::l
  |l=>l
def yAJ:List Nat→List (List Nat)
  |[]=>[[]]
  |a::l=>yAJ l++(yAJ l).map (a::·)
def rp3(x y r:Int)(k:Nat):Pt:=T3.mk (((x+r*(rg k).1:Int)):Rat) (((y+r*(rg k).2:Int)):Rat) (0:Rat)
noncomputable def rgK(t:Prop)(i:Nat):Nat:=if t then 7-i else i
def rgF(x y r:Int)(t:Prop)(i:Nat)(l:List Pt):Prop:=∃s:List Nat,s.Sublist ((List.range i).map (rgK t))∧l=s.map (rp3 x y r)
def rvP(l0 l:List Pt)(i:Nat):Prop:=l.length=l0.length∧∀q,q<l0.length→gp l q=if q<i∨l0.length≤q+i then gp l0 (l0.length-1-q) else gp l0 q
end Bk
namespace Bk
set_option linter.unusedVariables false
set_option linter.unusedSimpArgs false
open Classical
theorem zSM{a b:List Pt}{p q:Nat}:2≤nN (gM a 0 1 p) (gL a 0 1 p) (gM b 0 1 q) (gL b 0 1 q)↔g9 a b 0 1 p q:=by
  unfold g9
  rw[zG7]
  omega
theorem zO3{a b:List Pt}{p q:Nat}(h:g9 a b 0 1 p q):g9 b a 0 1 q p:=by
  unfold g9 at *
  rw[zB6]
  exact h
theorem mJ{a b:List Pt}(h:fH a b 0 1):fH b a 0 1:=by
  obtain⟨p,q,hp,hq,h⟩:=h
  exact⟨q,p,hq,hp,zO3 h⟩
theorem zWF(a b:Pt):pr (T3.mk (dA a.x b.x) (dA a.y b.y) (0:Rat)) 0 1=zU4 (pr a 0 1) (pr b 0 1):=rfl
theorem zSE{l:List Pt}(hf:nG l)(hs:aQ l 0 1):¬xH (arZ l 0 1)=0:=fun e=>hf hs (uR.1 e)
theorem zVP{L:List (List Pt)}(h:∀x,x∈L→nG x)(m:Nat):nG (gl L m):=by
  show nG (L.getD m [])
  rw[List.getD_eq_getElem?_getD]
  rcases Nat.lt_or_ge m L.length with h1|h1
  · rw[List.getElem?_eq_getElem h1]
    exact h _ (List.getElem_mem h1)
  · rw[List.getElem?_eq_none h1]
    exact fun e=>absurd e.1 (by decide)
theorem zYD{L:List (List Pt)}{m:Nat}(h:xH (uU (gl L m) 0 1 (gl L m).length)<0):sZ L 0 1 m L.length=pZ L 0 1 m:=by
  have h1:xH (arZ (gl L m) 0 1)<0:=h
  unfold pZ
  rw[if_neg (by omega)]
theorem zQR{L:List (List Pt)}{m:Nat}(hf:∀x,x∈L→nG x)(hs:aQ (gl L m) 0 1)(h:¬xH (uU (gl L m) 0 1 (gl L m).length)<0):0<xH (arZ (gl L m) 0 1):=by
  have h1:¬xH (arZ (gl L m) 0 1)<0:=h
  have h2:=zSE (zVP hf m) hs
  omega
theorem zYC{L:List (List Pt)}{m:Nat}(hf:∀x,x∈L→nG x)(hs:aQ (gl L m) 0 1)(h:¬xH (uU (gl L m) 0 1 (gl L m).length)<0):-1=pZ L 0 1 m:=by
  unfold pZ
  rw[if_pos (zQR hf hs h)]
theorem zFE{O:List Int}{m:Nat}{f:Nat→Int}{p:Int}(hl:O.length=m)(h:∀q,q<m→O.getD q 0=f q)(hp:p=f m):(O++[p]).length=m+1∧∀q,q<m+1→(O++[p]).getD q 0=f q:=by
  refine⟨by rw[lAz,hl];rfl,fun q hq=>?_⟩
  rw[List.getD_eq_getElem?_getD]
  by_cases e:q=m
  · subst e
    rw[List.getElem?_append_right (by omega),hl,Nat.sub_self]
    exact hp
  · rw[List.getElem?_append_left (by omega),←List.getD_eq_getElem?_getD]
    exact h q (by omega)
theorem zYI{L:List (List Pt)}{a:Nat}(h:0<xH (arZ (gl L a) 0 1)):¬mQ L 0 1 a∧∀b,b<L.length→¬s9 L 0 1 a b:=by
  refine⟨fun e=>e.1 h,fun b _ e=>?_⟩
  have h1:=e.1.1.2
  have h2:pZ L 0 1 a= -1:=by unfold pZ;rw[if_pos h]
  omega
theorem zZE{L:List (List Pt)}{m:Nat}(hf:∀x,x∈L→nG x)(hs:aQ (gl L m) 0 1)(h:0≤xH (uU (gl L m) 0 1 (gl L m).length)):0<xH (arZ (gl L m) 0 1):=zQR hf hs (by omega)
theorem zMT{L:List (List Pt)}{a:Nat}{o:Int}(h:¬0≤xH (uU (gl L a) 0 1 (gl L a).length))(ho:o=pZ L 0 1 a)(h1:o<0):mQ L 0 1 a:=by
  have h2:xH (arZ (gl L a) 0 1)<0:=Int.not_le.1 h
  refine⟨by omega,?_⟩
  rw[ho] at h1
  unfold pZ at h1
  rw[if_neg (by omega)] at h1
  exact h1
theorem u9{L:List (List Pt)}{a:Nat}{o:Int}(ho:o=pZ L 0 1 a)(h1:¬o<0):¬mQ L 0 1 a:=fun e=>by
  rw[ho] at h1
  unfold pZ at h1
  rw[if_neg e.1] at h1
  exact h1 e.2
end Bk
namespace Bk
set_option linter.unusedVariables false
set_option linter.unusedSimpArgs false
open Classical
abbrev Fc:=(Pt×Rat)×List (List Int)×List Nat
abbrev En:=Int×Int×Rat
abbrev Sd:=List Pt×List Fc×List En
abbrev zYA:Pt×Rat:=(zT,(0:Rat))
abbrev zA:Fc:=(zYA,([]:List (List Int)),([]:List Nat))
def nmL(n:Nat)(x:List Int):Prop:=∀k,k<x.length→0≤(x.getD k 0)∧(x.getD k 0)<n
def nmP(s:Sd)(f:Nat):Prop:=∀l,l<((s.2.1.getD f zA).2.1).length→nmL s.1.length ((((s.2.1.getD f zA).2.1).getD l []))
def vN(s:Sd):List (List (List Int)):=uW (fun f=>(s.2.1.getD f zA).2.1) s.2.1.length
theorem lZ(s:Sd):(vN s).length=s.2.1.length:=wJ _ _
theorem zAP{s:Sd}{f:Nat}(h:f<s.2.1.length):((vN s).getD f [])=(s.2.1.getD f zA).2.1:=rD _ _ h
def zUL(ps:List Pt)(x:List Int):Nat→List Pt:=uW fun k=>gp ps ((x.getD k 0)).toNat
def zI3(s:Sd)(f:Nat):Nat→List (List Pt):=uW fun l=>zUL s.1 ((((s.2.1.getD f zA).2.1).getD l [])) ((((s.2.1.getD f zA).2.1).getD l [])).length
noncomputable def fP(s:Sd)(f:Int):List (List Pt):=if(0≤f∧f<s.2.1.length)∧nmP s f.toNat then zI3 s f.toNat ((s.2.1.getD f.toNat zA).2.1).length else[]
theorem zVV{s:Sd}{f:Int}(h:∀f,f<s.2.1.length→(s.2.1.getD f zA).2.1.length≤10000∧∀l,l<(s.2.1.getD f zA).2.1.length→((s.2.1.getD f zA).2.1.getD l []).length≤10000):(fP s f).length≤10000∧∀l,((fP s f).getD l []).length≤10000:=by
  unfold fP
  split
  · rename_i hf
    have h1:=h f.toNat (by omega)
    have h2:(zI3 s f.toNat (s.2.1.getD f.toNat zA).2.1.length).length=(s.2.1.getD f.toNat zA).2.1.length:=wJ _ _
    refine⟨by omega,fun l=>?_⟩
    rcases Nat.lt_or_ge l (s.2.1.getD f.toNat zA).2.1.length with h3|h3
    · unfold zI3
      rw[rD _ _ h3]
      unfold zUL
      rw[wJ]
      exact h1.2 l h3
    · rw[List.getD_eq_getElem?_getD,List.getElem?_eq_none (by omega)];exact Nat.zero_le _
  · exact⟨Nat.zero_le _,fun l=>Nat.zero_le _⟩
noncomputable def flA(pl:Pl)(l:List Pt):Nat→List Pt:=uW fun i=>cI pl (gp l i)
noncomputable def flL(pl:Pl)(L:List (List Pt)):Nat→List (List Pt):=uW fun i=>flA pl (gl L i) (gl L i).length
noncomputable def rH(s:Sd)(f:Nat):List (List Pt):=flL ((s.2.1.getD f zA)).1 (fP s f) (fP s f).length
def dg(kind face loop edge:Int):E5:=(kind,(-1:Int),face,loop,edge)
def szP(s:Sd)(f:Nat):Prop:=¬vfP ((s.2.1.getD f zA).2.1)∨¬nmP s f
def zO8(s:Sd):Prop:=(512<s.1.length∨256<s.2.1.length)∨1024<s.2.2.length
noncomputable def zXH(s:Sd):Nat→List E5:=cG (szP s) fun f=>dg 1 f (-1) (-1)
noncomputable def szZ(s:Sd):List E5:=if zO8 s then zXH s s.2.1.length++[dg 2 (-1) (-1) (-1)] else zXH s s.2.1.length
def twP(s:Sd)(i:Nat):Prop:=∃k,k<i∧gp s.1 i=gp s.1 k
noncomputable def zNI(s:Sd):Nat→List E5:=cG (twP s) fun i=>dg 37 (-1) (-1) i
def zrP(s:Sd)(f:Nat):Prop:=((s.2.1.getD f zA)).1.1=zT
noncomputable def zPB(s:Sd):Nat→List E5:=cG (zrP s) fun f=>dg 9 f (-1) (-1)
def ofP(s:Sd)(f l k:Nat):Prop:=¬sdZ ((s.2.1.getD f zA)).1 (gp (gl (fP s f) l) k)=0
noncomputable def ofX(s:Sd)(f l:Nat):Nat→List E5:=cG (ofP s f l) fun k=>dg 31 f l k
noncomputable def ofL(s:Sd)(f:Nat):Nat→List E5:=cE fun l=>ofX s f l (gl (fP s f) l).length
noncomputable def zKM(s:Sd):Nat→List E5:=cE fun f=>ofL s f (fP s f).length
theorem nH{s:Sd}{f:Int}(h:∀f,f<s.2.1.length→(s.2.1.getD f zA).2.1.length≤16∧∀l,l<(s.2.1.getD f zA).2.1.length→((s.2.1.getD f zA).2.1.getD l []).length≤64):(fP s f).length≤16∧∀l,((fP s f).getD l []).length≤64:=by
  unfold fP
  split
  · rename_i hf
    have h1:=h f.toNat (by omega)
    have h2:(zI3 s f.toNat (s.2.1.getD f.toNat zA).2.1.length).length=(s.2.1.getD f.toNat zA).2.1.length:=wJ _ _
    refine⟨by omega,fun l=>?_⟩
    rcases Nat.lt_or_ge l (s.2.1.getD f.toNat zA).2.1.length with h3|h3
    · unfold zI3
      rw[rD _ _ h3]
      unfold zUL
      rw[wJ]
      exact h1.2 l h3
    · rw[List.getD_eq_getElem?_getD,List.getElem?_eq_none (by omega)];exact Nat.zero_le _
  · exact⟨Nat.zero_le _,fun l=>Nat.zero_le _⟩
section
variable {s:Sd}(h:∀f,f<s.2.1.length→(s.2.1.getD f zA).2.1.length≤16∧∀l,l<(s.2.1.getD f zA).2.1.length→((s.2.1.getD f zA).2.1.getD l []).length≤64)
include h
theorem zCP(f:Nat):∀l,(ofL s f l).length≤64*l
  |0=>Nat.le_refl _
  |l+1=>by
   have h1:=zCP f l
   have h2:(ofX s f l ((fP s f).getD l []).length).length≤((fP s f).getD l []).length:=sY _ _ _
   have h3:=(nH (f:=↑f) h).2 l
   show List.length (ofL s f l++ofX s f l ((fP s f).getD l []).length)≤_
   rw[lAz]
   omega
theorem zQ8:∀f,f≤s.2.1.length→(zKM s f).length≤1024*f
  |0,_=>Nat.le_refl _
  |f+1,hf=>by
   have h1:=zQ8 f (by omega)
   have h2:=zCP h f (fP s f).length
   have h3:=(nH (f:=↑f) h).1
   show List.length (zKM s f++ofL s f (fP s f).length)≤_
   rw[lAz]
   omega
end
noncomputable def plZ(s:Sd):List E5:=if 0<(zPB s s.2.1.length).length then zPB s s.2.1.length else zKM s s.2.1.length
noncomputable def zBG(L:List (List Pt)):Nat→Int
  |0=>0
  |m+1=>if 0<xH (arZ (gl L m) 0 1) then zBG L m+1 else zBG L m
theorem w6(L:List (List Pt)):∀m,0≤zBG L m∧zBG L m≤m
  |0=>by unfold zBG;omega
  |m+1=>by
   have h:=w6 L m
   unfold zBG
   split<;>omega
theorem ou_t{L:List (List Pt)}{m:Nat}(h:0<xH (arZ (gl L m) 0 1)):zBG L m+1=zBG L (m+1):=(if_pos h).symm
theorem ou_f{L:List (List Pt)}{m:Nat}(h:¬0<xH (arZ (gl L m) 0 1)):zBG L m=zBG L (m+1):=(if_neg h).symm
noncomputable def ouZ(L:List (List Pt)):Int:=zBG L L.length
def bnP(s:Sd)(f:Nat):Prop:=¬vS (rH s f) 0 1=0
noncomputable def zS1(s:Sd):Nat→List E5:=cG (bnP s) fun f=>dg (vS (rH s f) 0 1) f (-1) (-1)
def mnP(s:Sd)(f:Nat):Prop:=¬ouZ (rH s f)=1
noncomputable def zYM(s:Sd):Nat→List E5:=cG (mnP s) fun f=>dg 33 f (-1) (-1)
noncomputable def neZ(s:Sd):List E5:=if 0<(zS1 s s.2.1.length).length then zS1 s s.2.1.length else zYM s s.2.1.length
theorem zIF(L:List (List Pt))(i j:Nat):0≤vS L i j∧vS L i j≤33:=by
  unfold vS
  repeat' split
  all_goals decide
theorem zGU(s:Sd)(f:Nat):(rH s f).length=(fP s ↑f).length∧∀l,((rH s f).getD l []).length=((fP s ↑f).getD l []).length:=by
  have h1:(rH s f).length=(fP s ↑f).length:=wJ _ _
  refine⟨h1,fun l=>?_⟩
  rcases Nat.lt_or_ge l (fP s ↑f).length with h|h
  · unfold rH flL
    rw[rD _ _ h]
    exact wJ _ _
  · rw[List.getD_eq_getElem?_getD,List.getD_eq_getElem?_getD,List.getElem?_eq_none (by omega),List.getElem?_eq_none h]
def okS(s:Sd):Prop:=((s.1.length≤1000∧s.2.1.length≤1000)∧s.2.2.length≤2000)∧(∀f,f<s.2.1.length→(s.2.1.getD f zA).2.1.length≤16∧∀l,l<(s.2.1.getD f zA).2.1.length→((s.2.1.getD f zA).2.1.getD l []).length≤64)∧∀f,f<s.2.1.length→∀x,x∈rH s f→nG x
theorem okS.big{s:Sd}(h:okS s):∀f,f<s.2.1.length→(s.2.1.getD f zA).2.1.length≤10000∧∀l,l<(s.2.1.getD f zA).2.1.length→((s.2.1.getD f zA).2.1.getD l []).length≤10000:=fun f hf=>⟨Nat.le_trans (h.2.1 f hf).1 (by decide),fun l hl=>Nat.le_trans ((h.2.1 f hf).2 l hl) (by decide)⟩
theorem okS.mem{s:Sd}(h:okS s):∀f,f<s.2.1.length→(s.2.1.getD f zA).2.1.length≤100000∧∀x,x∈(s.2.1.getD f zA).2.1→x.length≤100000:=fun f hf=>⟨Nat.le_trans (h.2.1 f hf).1 (by decide),fun x hx=>by
  obtain⟨m,hm,e⟩:=List.getElem_of_mem hx
  have:=(h.2.1 f hf).2 m hm
  rw[List.getD_eq_getElem?_getD,List.getElem?_eq_getElem hm] at this
  rw[←e]
  exact Nat.le_trans this (by decide)⟩
noncomputable def zVW(s:Sd):List E5:=if 0<(szZ s).length then szZ s else if 0<(zNI s s.1.length).length then zNI s s.1.length else if 0<(plZ s).length then plZ s else if 0<(neZ s).length then neZ s else clZ (vN s)
def z4(s:Sd):Prop:=(zVW s).length=0
def lsP(p q:Pt):Prop:=p.x<q.x∨(p.x=q.x∧(p.y<q.y∨(p.y=q.y∧p.z<q.z)))
def pX:List Int→List Int→Int
  |[],[]=>0
  |[],_::_=>-1
  |_::_,[]=>1
  |x::a,y::b=>if x=y then pX a b else if x<y then -1 else 1
theorem zM7{i:Nat}:∀{a b:List Int},(∀u,u<i→(a.getD u 0)=(b.getD u 0))→i<a.length→i<b.length→¬(a.getD i 0)=(b.getD i 0)→pX a b=if(a.getD i 0)<(b.getD i 0) then -1 else 1:=by
  induction i with
  |zero=>
   intro a b _ ha hb hne
   match a,b,ha,hb with
   |x::a,y::b,_,_=>exact if_neg hne
  |succ i ih=>
   intro a b h ha hb hne
   match a,b,ha,hb with
   |x::a,y::b,ha,hb=>
    have h0:x=y:=h 0 (by omega)
    show(if x=y then pX a b else _)=_
    rw[if_pos h0]
    exact ih (fun u hu=>h (u+1) (by omega)) (by simpa using ha) (by simpa using hb) hne
theorem zDN{i:Nat}:∀{a b:List Int},(∀u,u<i→(a.getD u 0)=(b.getD u 0))→i=min a.length b.length→pX a b=if a.length<b.length then -1 else if b.length<a.length then 1 else 0:=by
  induction i with
  |zero=>
   intro a b _ he
   match a,b with
   |[],[]=>rfl
   |[],_::_=>rfl
   |_::_,[]=>rfl
   |_::_,_::_=>simp at he
  |succ i ih=>
   intro a b h he
   match a,b with
   |[],_=>simp at he
   |_::_,[]=>simp at he
   |x::a,y::b=>
    have h0:x=y:=h 0 (by omega)
    show(if x=y then pX a b else _)=_
    rw[if_pos h0,ih (fun u hu=>h (u+1) (by omega)) (by simp at he;omega)]
    simp only[lC,Nat.add_lt_add_iff_right]
theorem dM:∀a b:List Int,-1≤pX a b∧pX a b≤1
  |[],[]=>⟨by show(-1:Int)≤0;decide,by show(0:Int)≤1;decide⟩
  |[],_::_=>⟨by show(-1:Int)≤-1;decide,by show(-1:Int)≤1;decide⟩
  |_::_,[]=>⟨by show(-1:Int)≤1;decide,by show(1:Int)≤1;decide⟩
  |x::a,y::b=>by
   show -1≤(if x=y then pX a b else if x<y then -1 else 1)∧(if x=y then pX a b else if x<y then -1 else 1)≤1
   split
   · exact dM a b
   · split<;>decide
def rN(x:List Int):Nat→Nat
  |0=>0
  |m+1=>if(x.getD m 0)<(x.getD (rN x m) 0) then m else rN x m
theorem zWE(x:List Int):∀m,rN x m<m∨rN x m=0
  |0=>.inr rfl
  |m+1=>by
   have h:=zWE x m
   unfold rN
   split<;>omega
theorem mn_t{x:List Int}{m:Nat}(h:(x.getD m 0)<(x.getD (rN x m) 0)):m=rN x (m+1):=(if_pos h).symm
theorem mn_f{x:List Int}{m:Nat}(h:¬(x.getD m 0)<(x.getD (rN x m) 0)):rN x m=rN x (m+1):=(if_neg h).symm
def zQE(x:List Int):List Int:=x.drop (rN x x.length)++x.take (rN x x.length)
def zOP:List (List Int)→List (List Int)→Prop
  |[],[]=>False
  |[],_::_=>True
  |_::_,[]=>False
  |x::a,y::b=>if pX x y=0 then zOP a b else pX x y<0
theorem zU6{i:Nat}:∀{a b:List (List Int)},(∀u,u<i→pX ((a.getD u [])) ((b.getD u []))=0)→i<a.length→i<b.length→¬pX ((a.getD i [])) ((b.getD i []))=0→(zOP a b↔pX ((a.getD i [])) ((b.getD i []))<0):=by
  induction i with
  |zero=>
   intro a b _ ha hb hne
   match a,b,ha,hb with
   |x::a,y::b,_,_=>exact Iff.of_eq (if_neg hne)
  |succ i ih=>
   intro a b h ha hb hne
   match a,b,ha,hb with
   |x::a,y::b,ha,hb=>
    have h0:pX x y=0:=h 0 (by omega)
    show(if pX x y=0 then zOP a b else _)↔_
    rw[if_pos h0]
    exact ih (fun u hu=>h (u+1) (by omega)) (by simpa using ha) (by simpa using hb) hne
theorem zRU{i:Nat}:∀{a b:List (List Int)},(∀u,u<i→pX ((a.getD u [])) ((b.getD u []))=0)→i=min a.length b.length→(zOP a b↔a.length<b.length):=by
  induction i with
  |zero=>
   intro a b _ he
   match a,b with
   |[],[]=>exact⟨False.elim,fun h=>absurd h (Nat.lt_irrefl _)⟩
   |[],_::_=>exact⟨fun _=>Nat.zero_lt_succ _,fun _=>trivial⟩
   |_::_,[]=>exact⟨False.elim,fun h=>absurd h (Nat.not_lt_zero _)⟩
   |_::_,_::_=>simp at he
  |succ i ih=>
   intro a b h he
   match a,b with
   |[],_=>simp at he
   |_::_,[]=>simp at he
   |x::a,y::b=>
    have h0:pX x y=0:=h 0 (by omega)
    show(if pX x y=0 then zOP a b else _)↔_
    rw[if_pos h0,ih (fun u hu=>h (u+1) (by omega)) (by simp at he;omega)]
    simp only[lC,Nat.add_lt_add_iff_right]
def lsF(a b:Fc):Prop:=if a.2.2=b.2.2 then zOP a.2.1 b.2.1 else lsN a.2.2 b.2.2
theorem ls_x{p q:Pt}(h:¬wG p.x q.x=0):wG p.x q.x<0↔lsP p q:=by
  unfold lsP;rw[pW];rw[bD] at h
  exact⟨.inl,fun e=>e.elim id fun e=>absurd e.1 h⟩
theorem ls_y{p q:Pt}(h:wG p.x q.x=0)(h2:¬wG p.y q.y=0):wG p.y q.y<0↔lsP p q:=by
  unfold lsP;rw[pW];rw[bD] at h h2
  have:=@Rat.lt_irrefl p.x
  exact⟨fun e=>.inr ⟨h,.inl e⟩,fun e=>e.elim (fun e=>absurd (h▸e) this) fun e=>e.2.elim id fun e=>absurd e.1 h2⟩
theorem ls_z{p q:Pt}(h:wG p.x q.x=0)(h2:wG p.y q.y=0)(h3:¬wG p.z q.z=0):wG p.z q.z<0↔lsP p q:=by
  unfold lsP;rw[pW];rw[bD] at h h2
  have h4:=@Rat.lt_irrefl p.x
  have h5:=@Rat.lt_irrefl p.y
  exact⟨fun e=>.inr ⟨h,.inr ⟨h2,e⟩⟩,fun e=>e.elim (fun e=>absurd (h▸e) h4) fun e=>e.2.elim (fun e=>absurd (h2▸e) h5) fun e=>e.2⟩
theorem yA9{p q:Pt}(h:wG p.x q.x=0)(h2:wG p.y q.y=0)(h3:wG p.z q.z=0):¬lsP p q:=by
  rw[bD] at h h2 h3
  have h4:=@Rat.lt_irrefl p.x
  have h5:=@Rat.lt_irrefl p.y
  have h6:=@Rat.lt_irrefl p.z
  exact fun e=>e.elim (fun e=>absurd (h▸e) h4) fun e=>e.2.elim (fun e=>absurd (h2▸e) h5) fun e=>absurd (h3▸e.2) h6
theorem yBA{p q:Pt}{i:Nat}(hi:i<3)(h:∀u,u<i→wG (p.at u) (q.at u)=0)(hn:¬wG (p.at i) (q.at i)=0):wG (p.at i) (q.at i)<0↔lsP p q:=by
  match i,hi with
  |0,_=>exact ls_x hn
  |1,_=>exact ls_y (h 0 (by decide)) hn
  |2,_=>exact ls_z (h 0 (by decide)) (h 1 (by decide)) hn
theorem zYT{p q:Pt}(h:∀u,u<3→wG (p.at u) (q.at u)=0):¬lsP p q:=yA9 (h 0 (by decide)) (h 1 (by decide)) (h 2 (by decide))
noncomputable def ivA(x:Rat):Rat:=if dO x=0 then 0 else((1:Int):Rat)/dO x
noncomputable def scW(r:Rat)(pl:Pl):Pl:=(T3.mk (r*pl.1.x) (r*pl.1.y) (r*pl.1.z),r*pl.2)
noncomputable def scZ(pl:Pl):Pl:=if ¬xH pl.1.x=0 then scW (ivA pl.1.x) pl else if ¬xH pl.1.y=0 then scW (ivA pl.1.y) pl else if ¬xH pl.1.z=0 then scW (ivA pl.1.z) pl else zYA
theorem yAS{pl:Pl}{i:Nat}(hi:i<3)(h:∀u,u<i→xH (pl.1.at u)=0)(hn:¬xH (pl.1.at i)=0):scW (ivA (pl.1.at i)) pl=scZ pl:=by
  unfold scZ
  match i,hi with
  |0,_=>exact(if_pos hn).symm
  |1,_=>exact((if_neg (fun e=>e (h 0 (by decide)))).trans (if_pos hn)).symm
  |2,_=>exact((if_neg (fun e=>e (h 0 (by decide)))).trans ((if_neg (fun e=>e (h 1 (by decide)))).trans (if_pos hn))).symm
theorem zXY{pl:Pl}(h:∀u,u<3→xH (pl.1.at u)=0):zYA=scZ pl:=by
  unfold scZ
  exact((if_neg (fun e=>e (h 0 (by decide)))).trans ((if_neg (fun e=>e (h 1 (by decide)))).trans (if_neg (fun e=>e (h 2 (by decide)))))).symm
def zJ0(x:List Int):Nat→List Int:=uW fun i=>x.getD (x.length-1-i) 0
def zFP(E:List E5)(m i:Nat):Prop:=∃q,q<m∧(E.getD q ((0:Int),(0:Int),(0:Int),(0:Int),(0:Int))).1=(i:Int)
theorem zPH{E:List E5}{m n:Nat}{U:List Prop}(hl:U.length=n)(h:∀u,u<n→(U.getD u False↔zFP E m u))(h0:0≤(E.getD m ((0:Int),(0:Int),(0:Int),(0:Int),(0:Int))).1)(h1:(E.getD m ((0:Int),(0:Int),(0:Int),(0:Int),(0:Int))).1<n):∀u,u<n→((U.set (E.getD m ((0:Int),(0:Int),(0:Int),(0:Int),(0:Int))).1.toNat True).getD u False↔zFP E (m+1) u):=by
  intro u hu
  rw[List.getD_eq_getElem?_getD,List.getElem?_set]
  have hx:zFP E (m+1) u↔zFP E m u∨(E.getD m ((0:Int),(0:Int),(0:Int),(0:Int),(0:Int))).1=(u:Int):=by
    constructor
    · rintro⟨q,hq,e⟩
      rcases Nat.lt_succ_iff_lt_or_eq.1 hq with h|h
      · exact .inl ⟨q,h,e⟩
      · subst h;exact .inr e
    · rintro(⟨q,hq,e⟩|e)
      · exact⟨q,by omega,e⟩
      · exact⟨m,by omega,e⟩
  rw[hx]
  split
  · rename_i e
    rw[if_pos (by omega)]
    exact⟨fun _=>.inr (by omega),fun _=>trivial⟩
  · rename_i e
    have:=h u hu
    rw[List.getD_eq_getElem?_getD] at this
    rw[this]
    exact⟨.inl,fun h=>h.resolve_right (by omega)⟩
def nmA(s:Sd):Prop:=∀f,f<s.2.1.length→nmP s f
theorem zOY{s:Sd}(h:nmA s){q:Nat}(hq:q<(edZ (vN s)).length):0≤((edZ (vN s)).getD q ((0:Int),(0:Int),(0:Int),(0:Int),(0:Int))).1∧((edZ (vN s)).getD q ((0:Int),(0:Int),(0:Int),(0:Int),(0:Int))).1<s.1.length:=by
  have hm:=pR (d:=((0:Int),(0:Int),(0:Int),(0:Int),(0:Int))) hq
  generalize (edZ (vN s)).getD q ((0:Int),(0:Int),(0:Int),(0:Int),(0:Int))=e at hm ⊢
  obtain⟨f,hf,hm⟩:=nE hm
  obtain⟨l,hl,hm⟩:=nE hm
  obtain⟨i,hi,rfl⟩:=zBX hm
  rw[lZ] at hf
  have hg:(vN s).getD f []=(s.2.1.getD f zA).2.1:=rD _ _ hf
  rw[hg] at hl hi ⊢
  exact h f hf l hl i hi
theorem zVS{s:Sd}(h:okS s):(edZ (vN s)).length≤1100000:=by
  have h1:=k9 (F:=vN s) (fun f hf=>by rw[lZ] at hf;rw[zAP hf];exact h.2.1 f hf) _ (Nat.le_refl _)
  rw[lZ] at h1
  have h2:=h.1.1.2
  show(edF (vN s) (vN s).length).length≤_
  rw[lZ];omega
def zN4(s:Sd)(out:List Int)(i k:Nat):Prop:=lsP (gp s.1 i) (gp s.1 (out.getD k 0).toNat)
noncomputable def bM(s:Sd):Nat→List Int
  |0=>[]
  |i+1=>if zFP (edZ (vN s)) (edZ (vN s)).length i then eX (bM s i) (cW (zN4 s (bM s i) i) (bM s i).length) (i:Int) else bM s i
theorem zKL(s:Sd):∀i,(bM s i).length≤i
  |0=>Nat.le_refl _
  |i+1=>by
   have:=zKL s i
   unfold bM
   split
   · rw[zDE _ _ (zB0 _ _)];omega
   · omega
theorem zGA{s:Sd}{x:Int}:∀{i},x∈bM s i→0≤x∧x<i
  |0,h=>absurd h List.not_mem_nil
  |i+1,h=>by
   unfold bM at h
   split at h
   · unfold eX at h
     rcases List.mem_append.1 h with h|h
     · have:=zGA (List.mem_of_mem_take h);omega
     · rcases List.mem_cons.1 h with rfl|h
       · omega
       · have:=zGA (List.mem_of_mem_drop h);omega
   · have:=zGA h;omega
theorem oR{s:Sd}{i k:Nat}(h:k<(bM s i).length):0≤(bM s i).getD k 0∧(bM s i).getD k 0<i:=zGA (pR h)
def nwL(s:Sd)(ix:List Int)(f i:Nat):Nat→List Int:=uW fun q=>ix.getD (((s.2.1.getD f zA).2.1.getD i []).getD q 0).toNat 0
def nfL(s:Sd)(ix:List Int)(f i:Nat):List Int:=zQE (nwL s ix f i ((s.2.1.getD f zA).2.1.getD i []).length)
def zHS(s:Sd)(f i:Nat):Prop:=0<xH (arZ (gl (rH s f) i) 0 1)
noncomputable def ouL(s:Sd)(ix:List Int)(f:Nat):Nat→List (List Int):=cG (zHS s f) (nfL s ix f)
def zVI(l:List Int)(D:List (List Int))(k:Nat):Prop:=pX l (D.getD k [])<0
noncomputable def zBL(s:Sd)(ix:List Int)(f:Nat):Nat→List (List Int)
  |0=>[]
  |i+1=>if zHS s f i then zBL s ix f i else eX (zBL s ix f i) (cW (zVI (nfL s ix f i) (zBL s ix f i)) (zBL s ix f i).length) (nfL s ix f i)
theorem zLM(s:Sd)(ix:List Int)(f:Nat):∀i,(zBL s ix f i).length≤i
  |0=>Nat.le_refl _
  |i+1=>by
   have:=zLM s ix f i
   unfold zBL
   split
   · omega
   · rw[zDE _ _ (zB0 _ _)];omega
noncomputable def nfF(s:Sd)(ix:List Int)(f:Nat):Fc:=(scZ (s.2.1.getD f zA).1,ouL s ix f (s.2.1.getD f zA).2.1.length++zBL s ix f (s.2.1.getD f zA).2.1.length,(s.2.1.getD f zA).2.2)
theorem zSN{s:Sd}{f:Nat}(hf:f<s.2.1.length)(h:nmP s f):fP s ↑f=zI3 s f (s.2.1.getD f zA).2.1.length:=if_pos ⟨by omega,h⟩
theorem zZH{s:Sd}{f:Nat}(hf:f<s.2.1.length)(h:nmP s f):(rH s f).length=(s.2.1.getD f zA).2.1.length:=by
  rw[(zGU s f).1,zSN hf h];exact wJ _ _
noncomputable def fG(s:Sd):List Int:=bM s s.1.length
noncomputable def zLK(s:Sd):Nat→List Int
  |0=>List.replicate s.1.length (0:Int)
  |i+1=>(zLK s i).set ((fG s).getD i 0).toNat (i:Int)
theorem mC(s:Sd):∀i,(zLK s i).length=s.1.length
  |0=>List.length_replicate
  |i+1=>by unfold zLK;rw[lS];exact mC s i
noncomputable def ixZ(s:Sd):List Int:=zLK s (fG s).length
noncomputable def zUV(s:Sd):Nat→List Pt:=uW fun i=>gp s.1 ((fG s).getD i 0).toNat
def zLA(x:Fc)(D:List Fc)(k:Nat):Prop:=lsF x (D.getD k zA)
noncomputable def u6(s:Sd):Nat→List Fc
  |0=>[]
  |f+1=>eX (u6 s f) (cW (zLA (nfF s (ixZ s) f) (u6 s f)) (u6 s f).length) (nfF s (ixZ s) f)
theorem zKY(s:Sd):∀f,(u6 s f).length=f
  |0=>rfl
  |f+1=>by
   unfold u6
   rw[zDE _ _ (zB0 _ _),zKY s f]
noncomputable def nrP(s:Sd):List Pt:=if z4 s then zUV s (fG s).length else[]
noncomputable def nrF(s:Sd):List Fc:=if z4 s then u6 s s.2.1.length else[]
noncomputable def nrE(s:Sd):List En:=if z4 s then s.2.2 else[]
theorem zXI{s:Sd}(h:z4 s):nmA s:=by
  have h1:(szZ s).length=0:=by
    unfold z4 zVW at h
    split at h
    · omega
    · omega
  have h2:szZ s=[]:=List.eq_nil_of_length_eq_zero h1
  unfold szZ at h2
  split at h2
  · exact absurd h2 (by simp)
  · intro f hf
    exact Classical.byContradiction fun e=>(zL2 _).1 h2 f hf (.inr e)
theorem zC2{s:Sd}(h:okS s){ix:List Int}{f:Nat}(hf:f<s.2.1.length):(nfF s ix f).2.1.length≤100:=by
  have h1:=sY (zHS s f) (nfL s ix f) (s.2.1.getD f zA).2.1.length
  have h2:=zLM s ix f (s.2.1.getD f zA).2.1.length
  have h3:=(h.2.1 f hf).1
  show List.length (ouL s ix f _++zBL s ix f _)≤_
  rw[lAz]
  have h4:(ouL s ix f (s.2.1.getD f zA).2.1.length).length≤(s.2.1.getD f zA).2.1.length:=h1
  omega
theorem zR5{α:Type}{p:α→Prop}{l:List α}{k:Nat}{x:α}(h:∀y,y∈l→p y)(hx:p x):∀y,y∈eX l k x→p y:=by
  intro y hy
  unfold eX at hy
  rcases List.mem_append.1 hy with hy|hy
  · exact h y (List.mem_of_mem_take hy)
  · rcases List.mem_cons.1 hy with rfl|hy
    · exact hx
    · exact h y (List.mem_of_mem_drop hy)
theorem zRD{s:Sd}(h:okS s):∀f,f≤s.2.1.length→∀x,x∈u6 s f→x.2.1.length≤100
  |0,_,x,hx=>absurd hx List.not_mem_nil
  |f+1,hf,x,hx=>zR5 (p:=fun x:Fc=>x.2.1.length≤100) (zRD h f (by omega)) (zC2 h (by omega)) x hx
end Bk
namespace Go.Proofs.YtboaboflnckgoaaGreat
open Bk Go Tryz
set_option linter.unusedVariables false
set_option linter.unusedSimpArgs false
set_option maxRecDepth 10000
set_option maxHeartbeats 1000000
attribute [local irreducible] GL GC GQ W OpV
theorem zD5{w0:World}{h0:Mem}(hs:MLe h0 (mem w0)){vL:Value}{L:(List (List Int))}(rL:tII.Is h0 vL L)(hcd0:L.length≤100000)(hcd1:∀x,x∈L→x.length≤100000):
    Calls Tryz.prog 108 #[vL] w0 (Ret w0 h0 (fun h r=>tII.Is h r L)):=by
 refine cb1 20 vL func108 hs ?_
 refine dG ?_
 refine xQ 32 1 ?_
 have rl_1:RL (rpS rpI) h0 [] ([]:List (List Int)):=RL.nil
 refine gcL (ι:=Nat×List (List Int)×Value×List Value×Mem) (fun(i,D,s3_2,cs_3,mi)=>(MLe h0 mi∧(RL (rpS rpI) mi cs_3 D∧i≤L.length∧D=L.take i),[(0,vL),(3,s3_2),(4,vI ↑i)],[.gs 32 1 s3_2 D.length cs_3],mi,L.length-i)) (0,[],(.slice none 0 0),[],h0) ?_ ?_
 ·
  refine⟨MLe.refl _,?_⟩
  refine⟨rl_1,?_⟩
  exact⟨by omega,rfl⟩
 intro x hx
 obtain⟨i,D,s3_2,cs_3,mi⟩:=x
 dsimp only at hx
 obtain⟨hmmi,hinv⟩:=hx
 refine yS ?_
 obtain⟨rl_4,hinv⟩:=hinv
 obtain⟨hi1,hD⟩:=hinv
 have hgl:=zSA hcd1 i
 have htl:D.length≤i:=by rw[hD,List.length_take];omega
 refine go9 ?_
 refine cnd (fun hc8=>?_) fun hc8=>?_
 ·
  refine go8 ?_
  refine lX (xI [] i underlying81 fO rL) fun v14 r14=>(lX (xA fO r14) fun v15 r15=>(zFB 3 1 ?_))
  have rl_5:RL rpI mi [] ([]:List Int):=RL.nil
  refine xS (A:=[]) (yD (ρ:=rpI) (bytes:=8) underlying32 gK rfl rfl rfl rfl nP rfl rfl rl_5 r15 bO bO) rfl rfl rfl ?_
  intro v16 q16 hq16
  obtain⟨cs16,rfl,rl16⟩:=hq16
  refine yH (A:=[]) (ρ:=rpI) rl16 ?_
  intro h1 hh1 rs_6
  refine zF (zV (ρ:=(rpS rpI)) (m:=1) (xs:=[(([]:List Int)++(L.getD i []))]) (ps':=[(0,_)]) underlying81 jT rfl rfl rfl qL e2z (zI rfl (Pc.arr (Pc.here _) [] 0 dC) rs_6 zX) (show 1*1≤16777216 from by decide) nP) rfl rfl rfl ?_
  intro v17 q17 hq17
  obtain⟨cs17,rfl,rl17⟩:=hq17
  refine yH (A:=[]) (ρ:=(rpS rpI)) rl17 ?_
  intro h2 hh2 rs_7
  replace rl_4:=rl_4.mono (hh1.trans hh2)
  refine xS (A:=[]) (yD (ρ:=(rpS rpI)) (bytes:=24) underlying81 jT rfl rfl rfl rfl nP rfl rfl rl_4 rs_7 bO bO) rfl rfl rfl ?_
  intro v18 q18 hq18
  obtain⟨cs18,rfl,rl18⟩:=hq18
  refine go9 ?_
  refine gqL ((i+1),(D++[(([]:List Int)++(L.getD i []))]),v18,cs18,h2) ?_ ?_
  ·
   refine⟨((hmmi.trans hh1).trans hh2),?_⟩
   refine⟨rl18,?_⟩
   exact⟨by omega,by rw[hD,List.nil_append];exact(zNK [] oM).symm⟩
  omega
 have ei:i=L.length:=by omega
 refine uN ?_
 refine wW (A:=[]) (ρ:=(rpS rpI)) rl_4 ?_
 intro h1 hh1 rs_8
 refine zD rfl rfl ?_
 exact(Rp.Is.cast rs_8 (by rw[hD,ei,List.take_length]))
theorem zEZ{w0:World}{h0:Mem}(hs:MLe h0 (mem w0)){k m n j:Nat}{vs:Value}{s:Sq}(rs:(tSd k m n j).Is h0 vs s)(hcd0:s.2.1.length≤100000)(hcd1:∀f,f<s.2.1.length→(s.2.1.getD f zA).2.1.length≤100000∧∀x,x∈(s.2.1.getD f zA).2.1→x.length≤100000):
    Calls Tryz.prog 159 #[vs] w0 (Ret w0 h0 (fun h r=>(rpS tII).Is h r (vN s))):=by
 refine cb1 23 vs func159 hs ?_
 refine go2 ?_
 refine nB rs fun b1 cs1 rb1=>?_
 refine j5 ?_
 refine xQ 81 1 ?_
 have rl_9:RL tII h0 [] ([]:List (List (List Int))):=RL.nil
 refine gcL (ι:=Nat×List (List (List Int))×Value×List Value×Mem) (fun(f,D,s3_10,cs_11,mf)=>(MLe h0 mf∧(RL tII mf cs_11 D∧f≤s.2.1.length∧D=uW (fun f=>(s.2.1.getD f zA).2.1) f),[(1,vP b1 0),(3,s3_10),(4,vI ↑f)],[.gs 81 1 s3_10 D.length cs_11,.var b1 50 cs1],mf,s.2.1.length-f)) (0,[],(.slice none 0 0),[],h0) ?_ ?_
 ·
  refine⟨MLe.refl _,?_⟩
  refine⟨rl_9,?_⟩
  exact⟨by omega,rfl⟩
 intro x hx
 obtain⟨f,D,s3_10,cs_11,mf⟩:=x
 dsimp only at hx
 obtain⟨hmmf,hinv⟩:=hx
 refine yS ?_
 obtain⟨rl_12,hinv⟩:=hinv
 obtain⟨hf1,hD⟩:=hinv
 have hml:D.length=f:=by rw[hD];exact wJ _ _
 refine go5 ?_
 refine lX (xB tM (Pc.snd (Pc.fst pH)) rb1) fun v7 r7=>?_
 refine go4 ?_
 refine cnd (fun hc9=>?_) fun hc9=>?_
 ·
  refine go7 ?_
  refine lX (xB tM (Pc.snd (Pc.fst pH)) rb1) fun v14 r14=>?_
  refine go1 ?_
  refine lX (xI zA f underlying47 fR r14) fun v16 r16=>(lX (xF underlying83 sizeOf81 (Pc.snd (Pc.fst pH)) r16) fun v17 r17=>(lX (xA cK r17) fun v18 r18=>(cL (ev1 rfl) call108 (fun w hs=>zD5 hs r18 (by first|omega|exact(hcd1 f oM).1|exact(hcd1 f oM).2) (by first|omega|exact(hcd1 f oM).1|exact(hcd1 f oM).2)) fun v19 h1 hh1 r19=>(zF (zV (ρ:=tII) (m:=1) (xs:=[(((s.2.1.getD f zA).2).1)]) (ps':=[(0,_)]) underlying175 zLL rfl rfl rfl qL e2z (zI rfl (Pc.arr (Pc.here _) [] 0 dC) r19 zX) (show 1*1≤16777216 from by decide) nP) rfl rfl rfl ?_))))
  intro v20 q20 hq20
  obtain⟨cs20,rfl,rl20⟩:=hq20
  refine yH (A:=[]) (ρ:=tII) rl20 ?_
  intro h2 hh2 rs_13
  replace rl_12:=rl_12.mono (hh1.trans hh2)
  refine xS (A:=[]) (yD (ρ:=tII) (bytes:=24) underlying175 zLL rfl rfl rfl rfl nP rfl rfl rl_12 rs_13 bO bO) rfl rfl rfl ?_
  intro v21 q21 hq21
  obtain⟨cs21,rfl,rl21⟩:=hq21
  refine go9 ?_
  refine gqL ((f+1),(D++[(((s.2.1.getD f zA).2).1)]),v21,cs21,h2) ?_ ?_
  ·
   refine⟨((hmmf.trans hh1).trans hh2),?_⟩
   refine⟨rl21,?_⟩
   exact⟨by omega,by rw[hD];rfl⟩
  omega
 have ef:f=s.2.1.length:=by omega
 refine uN ?_
 refine wW (A:=[]) (ρ:=tII) rl_12 ?_
 intro h1 hh1 rs_14
 refine zD rfl rfl ?_
 exact(Rp.Is.cast rs_14 (by rw[hD,ef];rfl))
theorem zEY{w0:World}{h0:Mem}(hs:MLe h0 (mem w0)){k m n j:Nat}{vs:Value}{s:Sq}(rs:(tSd k m n j).Is h0 vs s){f:Int}(hf1:-9223372036854775808≤f)(hf2:f<9223372036854775808)(hcd0:0≤f)(hcd1:f<↑s.2.1.length)(hcd2:(s.2.1.getD f.toNat zA).2.1.length≤100000)(hcd3:∀l,l<(s.2.1.getD f.toNat zA).2.1.length→((s.2.1.getD f.toNat zA).2.1.getD l []).length≤100000):
    Calls Tryz.prog 187 #[vs,vI f] w0 (Ret w0 h0 (fun _ r=>r=vB (nmP s f.toNat))):=by
 refine cb2 50 vs (vI f) func187 hs ?_
 refine go2 ?_
 refine nB rs fun b2 cs2 rb2=>?_
 refine go6 ?_
 refine lX (xB tM (Pc.snd (Pc.fst pH)) rb2) fun v9 r9=>?_
 refine go1 ?_
 refine lX (xI zA f.toNat underlying47 fR r9) fun v11 r11=>(lX (xF underlying83 sizeOf81 (Pc.snd (Pc.fst pH)) r11) fun v12 r12=>(lX (xA cK r12) fun v13 r13=>?_))
 refine vO ?_
 refine gcL (ι:=Nat×Mem) (fun(l,ma)=>(MLe h0 ma∧(l≤(s.2.1.getD f.toNat zA).2.1.length∧∀u,u<l→nmL s.1.length ((s.2.1.getD f.toNat zA).2.1.getD u [])),[(2,vP b2 0),(5,v13),(6,vI ↑l)],[.var b2 50 cs2],ma,(s.2.1.getD f.toNat zA).2.1.length-l)) (0,h0) ?_ ?_
 ·
  refine⟨MLe.refl _,?_⟩
  exact⟨by omega,fun u h=>by omega⟩
 intro x hx
 obtain⟨l,ma⟩:=x
 dsimp only at hx
 obtain⟨hmma,hinv⟩:=hx
 refine yS ?_
 obtain⟨hl1,hl2⟩:=hinv
 refine go9 ?_
 refine cnd (fun hc17=>?_) fun hc17=>?_
 ·
  refine vO ?_
  refine gcL (ι:=Nat×Mem) (fun(i,mb)=>(MLe ma mb∧(i≤((s.2.1.getD f.toNat zA).2.1.getD l []).length∧∀u,u<i→0≤((s.2.1.getD f.toNat zA).2.1.getD l []).getD u 0∧((s.2.1.getD f.toNat zA).2.1.getD l []).getD u 0<↑s.1.length),[(2,vP b2 0),(5,v13),(6,vI ↑l),(7,vI ↑i)],[.var b2 50 cs2],mb,((s.2.1.getD f.toNat zA).2.1.getD l []).length-i)) (0,ma) ?_ ?_
  ·
   refine⟨MLe.refl _,?_⟩
   exact⟨by omega,fun u h=>by omega⟩
  intro x hx
  obtain⟨i,mb⟩:=x
  dsimp only at hx
  obtain⟨hmmb,hinv⟩:=hx
  refine yS ?_
  obtain⟨hi1,hi2⟩:=hinv
  have hll:=hcd3 l oM
  refine go6 ?_
  refine lX (xI [] l underlying81 fO r13) fun v23 r23=>(lX (xA fO r23) fun v24 r24=>?_)
  refine go4 ?_
  refine cnd (fun hc26=>?_) fun hc26=>?_
  ·
   refine go5 ?_
   refine gD 21 (qq 0 21 []) (vG [0,0,3,4,0,24,32,64,128,256,256,1792,2304,256,12544,16640,256,65792,131328,295168,524544] (frz 2097151 [0,0,3,4,0,24,32,64,128,256,256,1792,2304,256,12544,16640,256,65792,131328,295168,524544]) (by kernel_rfl)) ?_
   refine go2 ?_
   refine wX rfl (xI [] l underlying81 fO r13) fun v31 r31=>(wX rfl (xA fO r31) fun v32 r32=>?_)
   refine go1 ?_
   refine wX rfl (xI (0:Int) i underlying32 ty3 r32) fun v34 r34=>(wX rfl (xA ty3 r34) fun v35 r35=>?_)
   obtain⟨rfl,hl35,hu35⟩:=jW r35
   refine go2 ?_
   refine gS ((((((s.2.1.getD f.toNat zA).2).1).getD l []).getD i (0:Int))<(0:Int)) (fun hg_15=>?_) (fun hg_15=>?_)
   ·
    rw[xL hg_15]
    refine go30 ?_
    refine zD rfl rfl ?_
    exact(yU (fun e=>by have:=e l oM i oM;omega)).symm
   rw[yU hg_15]
   refine yM rfl rfl rfl (fun h' L' hh hR=>yW rfl) rfl (yM rfl rfl rfl (fun h' L' hh hR=>yW rfl) rfl (oX rfl (xI [] l underlying81 fO r13) fun v40 r40=>(oX rfl (xA fO r40) fun v41 r41=>(yM rfl rfl rfl (fun h' L' hh hR=>yW rfl) rfl (oX rfl (xI (0:Int) i underlying32 ty3 r41) fun v43 r43=>(oX rfl (xA ty3 r43) fun v44 r44=>?_))))))
   obtain⟨rfl,hl44,hu44⟩:=jW r44
   refine go1 ?_
   refine oX rfl (xB uT (Pc.fst pH) rb2) fun v46 r46=>(yM rfl rfl rfl (fun h' L' hh hR=>uY underlying46 rfl (r46.mono hh)) rfl ?_)
   refine go4 ?_
   refine cnd (fun hc49=>?_) fun hc49=>?_
   ·
    refine j5 ?_
    refine zD rfl rfl ?_
    exact(yU (fun e=>by have:=e l oM i oM;omega)).symm
   refine go8 ?_
   refine gqL ((i+1),mb) ?_ ?_
   ·
    refine⟨hmmb,?_⟩
    exact⟨by omega,qN (Q:=fun u=>0≤((s.2.1.getD f.toNat zA).2.1.getD l []).getD u 0∧((s.2.1.getD f.toNat zA).2.1.getD l []).getD u 0<↑s.1.length) hi2 oM⟩
   omega
  refine uP ?_
  refine gqL ((l+1),mb) ?_ ?_
  ·
   refine⟨(hmma.trans hmmb),?_⟩
   exact⟨by omega,qN (Q:=fun u=>nmL s.1.length ((s.2.1.getD f.toNat zA).2.1.getD u [])) hl2 (fun u hu=>hi2 u oM)⟩
  omega
 refine uP ?_
 refine zD rfl rfl ?_
 exact(xL (fun u hu=>hl2 u oM)).symm
theorem zBA{w0:World}{h0:Mem}(hs:MLe h0 (mem w0)){k m n j:Nat}{vs:Value}{s:Sq}(rs:(tSd k m n j).Is h0 vs s){f:Int}(hf1:-9223372036854775808≤f)(hf2:f<9223372036854775808)(hcd0:s.1.length≤100000)(hcd1:∀f,f<s.2.1.length→(s.2.1.getD f zA).2.1.length≤10000∧∀l,l<(s.2.1.getD f zA).2.1.length→((s.2.1.getD f zA).2.1.getD l []).length≤10000):
    Calls Tryz.prog 189 #[vs,vI f] w0 (Ret w0 h0 (fun h r=>(tLL (k+1)).Is h r (fP s f))):=by
 refine cb2 65 vs (vI f) func189 hs ?_
 refine go2 ?_
 refine nB rs fun b2 cs2 rb2=>?_
 refine go8 ?_
 refine gU 7 18 (vB ((f<(0:Int))∨((↑(s.2.1).length:Int)≤f))) ?_ ?_
 ·
  refine yB (f<(0:Int)) (fun hg=>?_) (fun hg=>?_)
  ·
   refine gT hg rfl ?_
   refine go7 ?_
   refine gqU ?_
   exact congrArg some (uA hg)
  refine gF hg rfl ?_
  refine go5 ?_
  refine lX (xB tM (Pc.snd (Pc.fst pH)) rb2) fun v15 r15=>?_
  refine go6 ?_
  refine gqU ?_
  exact congrArg some (uC hg)
 refine uO (ι:=Mem) 6 (fun m_=>MLe h0 m_) (fun _=>[(24,vB (((f<(0:Int))∨((↑(s.2.1).length:Int)≤f))∨(¬(nmP s f.toNat)))),(1,vI f),(2,vP b2 0)]) (fun _=>[.var b2 50 cs2]) (fun m_=>m_) ?_ ?_
 ·
  refine yB ((f<(0:Int))∨((↑(s.2.1).length:Int)≤f)) (fun hg=>?_) (fun hg=>?_)
  ·
   refine gT hg rfl ?_
   refine go6 ?_
   refine zN h0 (MLe.refl _) ⟨?_,rfl,rfl,trivial⟩ rfl rfl
   exact congrArg some (uA hg)
  refine gF hg rfl ?_
  refine go1 ?_
  refine lX (xB kF pH rb2) fun v20 r20=>?_
  refine go3 ?_
  refine cL (ev2 rfl rfl) call187 (fun w hs=>zEY hs r20 oM oM (by first|omega|exact Nat.le_trans (hcd1 f.toNat oM).1 dC|exact fun l hl=>Nat.le_trans ((hcd1 f.toNat oM).2 l hl) dC) (by first|omega|exact Nat.le_trans (hcd1 f.toNat oM).1 dC|exact fun l hl=>Nat.le_trans ((hcd1 f.toNat oM).2 l hl) dC) (by first|omega|exact Nat.le_trans (hcd1 f.toNat oM).1 dC|exact fun l hl=>Nat.le_trans ((hcd1 f.toNat oM).2 l hl) dC) (by first|omega|exact Nat.le_trans (hcd1 f.toNat oM).1 dC|exact fun l hl=>Nat.le_trans ((hcd1 f.toNat oM).2 l hl) dC)) fun v22 h1 hh1 r22=>?_
  obtain rfl:v22=vB (nmP s f.toNat):=r22
  refine go4 ?_
  refine zN h1 hh1 ⟨?_,rfl,rfl,trivial⟩ rfl rfl
  exact congrArg some (uC hg)
 intro mg1_9 hmmg1_9
 refine tJ ?_
 refine go2 ?_
 refine cnd (fun hc24=>?_) fun hc24=>?_
 ·
  refine go7 ?_
  refine zD rfl rfl ?_
  exact(Rp.Is.cast (mD _) (by exact(if_neg (fun e=>hc24.elim (fun h=>by omega) (fun h=>h e.2))).symm))
 have hok:(0≤f∧f<↑s.2.1.length)∧nmP s f.toNat:=by constructor;exact oM;exact Classical.not_not.1 (fun e=>hc24 (.inr e))
 have hnm:∀l,l<(s.2.1.getD f.toNat zA).2.1.length→∀q,q<((s.2.1.getD f.toNat zA).2.1.getD l []).length→0≤((s.2.1.getD f.toNat zA).2.1.getD l []).getD q 0∧((s.2.1.getD f.toNat zA).2.1.getD l []).getD q 0<↑s.1.length:=fun l hl q hq=>hok.2 l hl q hq
 have hln:=hcd1 f.toNat oM
 refine vO ?_
 refine lX (xB tM (Pc.snd (Pc.fst pH)) rb2) fun v26 r26=>?_
 refine go1 ?_
 refine lX (xI zA f.toNat underlying47 fR r26) fun v28 r28=>(lX (xF underlying83 sizeOf81 (Pc.snd (Pc.fst pH)) r28) fun v29 r29=>(lX (xA cK r29) fun v30 r30=>?_))
 refine vO ?_
 refine xQ 46 1 ?_
 have rl_16:RL (tLs (k+1)) mg1_9 [] ([]:List (List Tq)):=RL.nil
 refine gcL (ι:=Nat×List (List Tq)×Value×List Value×Mem) (fun(l,D,s5_17,cs_18,ml)=>(MLe mg1_9 ml∧(RL (tLs (k+1)) ml cs_18 D∧l≤(s.2.1.getD f.toNat zA).2.1.length∧D=zI3 s f.toNat l),[(2,vP b2 0),(5,s5_17),(6,v30),(7,vI ↑l)],[.gs 46 1 s5_17 D.length cs_18,.var b2 50 cs2],ml,(s.2.1.getD f.toNat zA).2.1.length-l)) (0,[],(.slice none 0 0),[],mg1_9) ?_ ?_
 ·
  refine⟨MLe.refl _,?_⟩
  refine⟨rl_16,?_⟩
  exact⟨by omega,rfl⟩
 intro x hx
 obtain⟨l,D,s5_17,cs_18,ml⟩:=x
 dsimp only at hx
 obtain⟨hmml,hinv⟩:=hx
 refine yS ?_
 obtain⟨rl_19,hinv⟩:=hinv
 obtain⟨hl1,hD⟩:=hinv
 have hll:D.length=l:=by rw[hD];exact wJ _ _
 refine go9 ?_
 refine cnd (fun hc34=>?_) fun hc34=>?_
 ·
  refine zAR ?_
  refine xQ 53 9 ?_
  have rl_20:RL (tPt (k+1)) ml [] ([]:List Tq):=RL.nil
  refine gcL (ι:=Nat×List Tq×Value×List Value×Mem) (fun(q,YY,s8_21,cs_22,mq)=>(MLe ml mq∧(RL (tPt (k+1)) mq cs_22 YY∧q≤((s.2.1.getD f.toNat zA).2.1.getD l []).length∧YY=zUL s.1 ((s.2.1.getD f.toNat zA).2.1.getD l []) q),[(2,vP b2 0),(5,s5_17),(6,v30),(7,vI ↑l),(8,s8_21),(9,vI ↑q)],[.gs 53 9 s8_21 YY.length cs_22,.gs 46 1 s5_17 D.length cs_18,.var b2 50 cs2],mq,((s.2.1.getD f.toNat zA).2.1.getD l []).length-q)) (0,[],(.slice none 0 0),[],ml) ?_ ?_
  ·
   refine⟨MLe.refl _,?_⟩
   refine⟨rl_20,?_⟩
   exact⟨by omega,rfl⟩
  intro x hx
  obtain⟨q,YY,s8_21,cs_22,mq⟩:=x
  dsimp only at hx
  obtain⟨hmmq,hinv⟩:=hx
  refine yS ?_
  obtain⟨rl_23,hinv⟩:=hinv
  obtain⟨hq1,hYY⟩:=hinv
  have hpl:YY.length=q:=by rw[hYY];exact wJ _ _
  have hl2:=hln.2 l oM
  refine go6 ?_
  refine lX (xI [] l underlying81 fO r30) fun v40 r40=>(lX (xA fO r40) fun v41 r41=>?_)
  refine go4 ?_
  refine cnd (fun hc43=>?_) fun hc43=>?_
  ·
   refine go4 ?_
   refine jI (A:=[]) 15 [] [(0,.q),(1,.q),(2,.q),(3,.q),(4,.q),(5,.q),(6,.q),(7,.q),(8,.q),(9,.q),(10,.q),(11,.q),(12,.c),(13,.c),(14,.q)] jN nX (vG [0,0,2,0,0,24,32,0,192,256,516,1024,2048,4097,16383] [32767,32767,32765,32767,32767,32743,32735,32767,32575,32511,32251,31743,30719,28670,24574] (by kernel_rfl)) nX ?_
   refine go2 ?_
   refine wX rfl (xB uT (Pc.fst pH) rb2) fun v48 r48=>?_
   refine go2 ?_
   refine wX rfl (xI [] l underlying81 fO r30) fun v51 r51=>(wX rfl (xA fO r51) fun v52 r52=>?_)
   refine go1 ?_
   refine wX rfl (xI (0:Int) q underlying32 ty3 r52) fun v54 r54=>(wX rfl (xA ty3 r54) fun v55 r55=>?_)
   obtain⟨rfl,hl55,hu55⟩:=jW r55
   refine mZ (F:=fun v_=>AtP (tPt k) mq v_ (s.1.getD ((((s.2.1.getD f.toNat zA).2.1.getD l []).getD q 0).toNat) zT)) rfl (lI zT ((((s.2.1.getD f.toNat zA).2.1.getD l []).getD q 0).toNat) underlying46 zS rfl rfl r48 (by(have h:=hnm l oM q oM;omega)) (by(have h:=hnm l oM q oM;omega)) nP) zBI rfl ?_
   intro v56 r56
   refine wX rfl (xA zS r56) fun v57 r57=>?_
   refine w_c rfl (kU (fun X=>zV (ρ:=(tPt (k+1))) (m:=1) (xs:=[(s.1.getD ((((s.2.1.getD f.toNat zA).2.1.getD l []).getD q 0).toNat) zT)]) (ps':=[(0,_)]) underlying46 yV rfl rfl rfl (xW (yF oM)) e2z (zI rfl (Pc.arr (Pc.here _) zT 0 dC) (r57.le (Le.t (Le.q (l:=k+1) oM))) zX) (show 1*9≤16777216 from by decide) nP) rfl ?_)
   intro v58 q58 hq58
   obtain⟨cs58,rfl,rl58⟩:=hq58
   refine w_c rfl (vH (A:=[]) (ρ:=(tPt (k+1))) rl58 dK ?_)
   intro h1 hh1 rs_24
   replace rl_23:=rl_23.mono hh1
   refine sR (A:=[]) (fun X=>yD (ρ:=(tPt (k+1))) (bytes:=168) underlying46 yV rfl rfl rfl rfl nP rfl rfl rl_23 rs_24 bO bO) rfl (wM (by first|(simp;done)|grind)) ?_
   intro v59 q59 hq59
   obtain⟨cs59,rfl,rl59⟩:=hq59
   refine go9 ?_
   refine gqL ((q+1),(YY++[(s.1.getD ((((s.2.1.getD f.toNat zA).2.1.getD l []).getD q 0).toNat) zT)]),v59,cs59,h1) ?_ ?_
   ·
    refine⟨(hmmq.trans hh1),?_⟩
    refine⟨rl59,?_⟩
    exact⟨by omega,by rw[hYY];rfl⟩
   omega
  have eq:q=((s.2.1.getD f.toNat zA).2.1.getD l []).length:=by omega
  have hl2:=hln.2 l oM
  refine go8 ?_
  refine yH (A:=[]) (ρ:=(tPt (k+1))) rl_23 ?_
  intro h1 hh1 rs_25
  refine zF (zV (ρ:=(tLs (k+1))) (m:=1) (xs:=[YY]) (ps':=[(0,_)]) underlying115 zAQ rfl rfl rfl qL e2z (zI rfl (Pc.arr (Pc.here _) [] 0 dC) rs_25 zX) (show 1*1≤16777216 from by decide) nP) rfl rfl rfl ?_
  intro v62 q62 hq62
  obtain⟨cs62,rfl,rl62⟩:=hq62
  refine yH (A:=[]) (ρ:=(tLs (k+1))) rl62 ?_
  intro h2 hh2 rs_26
  replace rl_19:=rl_19.mono ((hmmq.trans hh1).trans hh2)
  refine xS (A:=[]) (yD (ρ:=(tLs (k+1))) (bytes:=24) underlying115 zAQ rfl rfl rfl rfl nP rfl rfl rl_19 rs_26 bO bO) rfl rfl rfl ?_
  intro v63 q63 hq63
  obtain⟨cs63,rfl,rl63⟩:=hq63
  refine go9 ?_
  refine gqL ((l+1),(D++[YY]),v63,cs63,h2) ?_ ?_
  ·
   refine⟨(((hmml.trans hmmq).trans hh1).trans hh2),?_⟩
   refine⟨rl63,?_⟩
   exact⟨by omega,by rw[hD,hYY,eq];rfl⟩
  omega
 have el:l=(s.2.1.getD f.toNat zA).2.1.length:=by omega
 refine uN ?_
 refine wW (A:=[]) (ρ:=(tLs (k+1))) rl_19 ?_
 intro h1 hh1 rs_27
 refine zD rfl rfl ?_
 exact(Rp.Is.cast rs_27 (by rw[hD,el];exact(if_pos hok).symm))
theorem zBH{w0:World}{h0:Mem}(hs:MLe h0 (mem w0)){m n k:Nat}{vpl:Value}{pl:Pq}(rpl:(tPl m n).Is h0 vpl pl){vl:Value}{l:(List Tq)}(rl:(tLs k).Is h0 vl l)(hcd0:k≤100000000)(hcd1:m≤100000000)(hcd2:n≤100000000)(hcd3:l.length≤100000):
    Calls Tryz.prog 207 #[vpl,vl] w0 (Ret w0 h0 (fun h r=>(tLs (k+1)).Is h r (flA pl l l.length))):=by
 refine cb2 23 vpl vl func207 hs ?_
 refine go2 ?_
 refine nB rpl fun b2 cs2 rb2=>?_
 refine j5 ?_
 refine xQ 53 9 ?_
 have rl_28:RL (tPt (k+1)) h0 [] ([]:List Tq):=RL.nil
 refine gcL (ι:=Nat×List Tq×Value×List Value×Mem) (fun(i,D,s5_29,cs_30,mi)=>(MLe h0 mi∧(RL (tPt (k+1)) mi cs_30 D∧i≤l.length∧D=flA pl l i),[(1,vl),(2,vP b2 0),(5,s5_29),(6,vI ↑i)],[.gs 53 9 s5_29 D.length cs_30,.var b2 80 cs2],mi,l.length-i)) (0,[],(.slice none 0 0),[],h0) ?_ ?_
 ·
  refine⟨MLe.refl _,?_⟩
  refine⟨rl_28,?_⟩
  exact⟨by omega,rfl⟩
 intro x hx
 obtain⟨i,D,s5_29,cs_30,mi⟩:=x
 dsimp only at hx
 obtain⟨hmmi,hinv⟩:=hx
 refine yS ?_
 obtain⟨rl_31,hinv⟩:=hinv
 obtain⟨hi1,hD⟩:=hinv
 have hfl:D.length=i:=by rw[hD];exact wJ _ _
 refine go9 ?_
 refine cnd (fun hc10=>?_) fun hc10=>?_
 ·
  refine go4 ?_
  refine jI (A:=[]) 10 [] [(0,.q),(1,.q),(2,.q),(3,.q),(4,.q),(5,.q),(6,.c),(7,.c),(8,.c),(9,.q)] jN nX (by kernel_rfl) nX ?_
  refine go1 ?_
  refine wX rfl (xB zG4 pH rb2) fun v14 r14=>?_
  refine go2 ?_
  refine wX rfl (xI zT i underlying46 zS rl) fun v17 r17=>(wX rfl (xA zS r17) fun v18 r18=>?_)
  refine w_c rfl (sC (ev2 rfl rfl) call208 (fun w hs=>zGC hs r14 r18 oM oM) fun v19 h1 hh1 r19=>?_)
  refine w_c rfl (kU (fun X=>zV (ρ:=(tPt (k+1))) (m:=1) (xs:=[cI pl (l.getD i zT)]) (ps':=[(0,_)]) underlying46 yV rfl rfl rfl (xW (yF oM)) e2z (zI rfl (Pc.arr (Pc.here _) zT 0 dC) r19 zX) (show 1*9≤16777216 from by decide) nP) rfl ?_)
  intro v20 q20 hq20
  obtain⟨cs20,rfl,rl20⟩:=hq20
  refine w_c rfl (vH (A:=[]) (ρ:=(tPt (k+1))) rl20 dK ?_)
  intro h2 hh2 rs_32
  replace rl_31:=rl_31.mono (hh1.trans hh2)
  refine sR (A:=[]) (fun X=>yD (ρ:=(tPt (k+1))) (bytes:=168) underlying46 yV rfl rfl rfl rfl nP rfl rfl rl_31 rs_32 bO bO) rfl (wM (by first|(simp;done)|grind)) ?_
  intro v21 q21 hq21
  obtain⟨cs21,rfl,rl21⟩:=hq21
  refine go9 ?_
  refine gqL ((i+1),(D++[cI pl (l.getD i zT)]),v21,cs21,h2) ?_ ?_
  ·
   refine⟨((hmmi.trans hh1).trans hh2),?_⟩
   refine⟨rl21,?_⟩
   exact⟨by omega,by rw[hD];rfl⟩
  omega
 have ei:i=l.length:=by omega
 refine uN ?_
 refine wW (A:=[]) (ρ:=(tPt (k+1))) rl_31 ?_
 intro h1 hh1 rs_33
 refine zD rfl rfl ?_
 exact(Rp.Is.cast rs_33 (by rw[hD,ei]))
theorem w9{w0:World}{h0:Mem}(hs:MLe h0 (mem w0)){m n k:Nat}{vpl:Value}{pl:Pq}(rpl:(tPl m n).Is h0 vpl pl){vL:Value}{L:(List (List Tq))}(rL:(tLL k).Is h0 vL L)(hcd0:k≤100000000)(hcd1:m≤100000000)(hcd2:n≤100000000)(hcd3:L.length≤100000)(hcd4:∀l,l<L.length→(L.getD l []).length≤10000):
    Calls Tryz.prog 198 #[vpl,vL] w0 (Ret w0 h0 (fun h r=>(tLL (k+1)).Is h r (flL pl L L.length))):=by
 refine cb2 23 vpl vL func198 hs ?_
 refine go2 ?_
 refine nB rpl fun b2 cs2 rb2=>?_
 refine j5 ?_
 refine xQ 46 1 ?_
 have rl_34:RL (tLs (k+1)) h0 [] ([]:List (List Tq)):=RL.nil
 refine gcL (ι:=Nat×List (List Tq)×Value×List Value×Mem) (fun(i,D,s5_35,cs_36,mi)=>(MLe h0 mi∧(RL (tLs (k+1)) mi cs_36 D∧i≤L.length∧D=flL pl L i),[(1,vL),(2,vP b2 0),(5,s5_35),(6,vI ↑i)],[.gs 46 1 s5_35 D.length cs_36,.var b2 80 cs2],mi,L.length-i)) (0,[],(.slice none 0 0),[],h0) ?_ ?_
 ·
  refine⟨MLe.refl _,?_⟩
  refine⟨rl_34,?_⟩
  exact⟨by omega,rfl⟩
 intro x hx
 obtain⟨i,D,s5_35,cs_36,mi⟩:=x
 dsimp only at hx
 obtain⟨hmmi,hinv⟩:=hx
 refine yS ?_
 obtain⟨rl_37,hinv⟩:=hinv
 obtain⟨hi1,hD⟩:=hinv
 have hfl:D.length=i:=by rw[hD];exact wJ _ _
 refine go9 ?_
 refine cnd (fun hc10=>?_) fun hc10=>?_
 ·
  refine go4 ?_
  refine jI (A:=[]) 10 [] [(0,.q),(1,.q),(2,.q),(3,.q),(4,.q),(5,.q),(6,.c),(7,.c),(8,.c),(9,.q)] jN nX (by kernel_rfl) nX ?_
  refine go1 ?_
  refine wX rfl (xB zG4 pH rb2) fun v14 r14=>?_
  refine go2 ?_
  refine wX rfl (xI [] i underlying115 uT rL) fun v17 r17=>(wX rfl (xA uT r17) fun v18 r18=>?_)
  refine w_c rfl (sC (ev2 rfl rfl) call207 (fun w hs=>zBH hs r14 r18 (by first|omega|exact Nat.le_trans (hcd4 i oM) dC) (by first|omega|exact Nat.le_trans (hcd4 i oM) dC) (by first|omega|exact Nat.le_trans (hcd4 i oM) dC) (by first|omega|exact Nat.le_trans (hcd4 i oM) dC)) fun v19 h1 hh1 r19=>?_)
  refine w_c rfl (kU (fun X=>zV (ρ:=(tLs (k+1))) (m:=1) (xs:=[flA pl (L.getD i []) (L.getD i []).length]) (ps':=[(0,_)]) underlying115 zAQ rfl rfl rfl qL e2z (zI rfl (Pc.arr (Pc.here _) [] 0 dC) r19 zX) (show 1*1≤16777216 from by decide) nP) rfl ?_)
  intro v20 q20 hq20
  obtain⟨cs20,rfl,rl20⟩:=hq20
  refine w_c rfl (vH (A:=[]) (ρ:=(tLs (k+1))) rl20 dK ?_)
  intro h2 hh2 rs_38
  replace rl_37:=rl_37.mono (hh1.trans hh2)
  refine sR (A:=[]) (fun X=>yD (ρ:=(tLs (k+1))) (bytes:=24) underlying115 zAQ rfl rfl rfl rfl nP rfl rfl rl_37 rs_38 bO bO) rfl (wM (by first|(simp;done)|grind)) ?_
  intro v21 q21 hq21
  obtain⟨cs21,rfl,rl21⟩:=hq21
  refine go9 ?_
  refine gqL ((i+1),(D++[flA pl (L.getD i []) (L.getD i []).length]),v21,cs21,h2) ?_ ?_
  ·
   refine⟨((hmmi.trans hh1).trans hh2),?_⟩
   refine⟨rl21,?_⟩
   exact⟨by omega,by rw[hD];rfl⟩
  omega
 have ei:i=L.length:=by omega
 refine uN ?_
 refine wW (A:=[]) (ρ:=(tLs (k+1))) rl_37 ?_
 intro h1 hh1 rs_39
 refine zD rfl rfl ?_
 exact(Rp.Is.cast rs_39 (by rw[hD,ei]))
theorem zH8{w0:World}{h0:Mem}(hs:MLe h0 (mem w0)){k m n j:Nat}{vs:Value}{s:Sq}(rs:(tSd k m n j).Is h0 vs s){f:Nat}(hcd0:k≤1000)(hcd1:m≤100000)(hcd2:n≤100000)(hcd3:s.1.length≤100000)(hcd4:∀f,f<s.2.1.length→(s.2.1.getD f zA).2.1.length≤10000∧∀l,l<(s.2.1.getD f zA).2.1.length→((s.2.1.getD f zA).2.1.getD l []).length≤10000)(hcd5:f<s.2.1.length)(hcd6:s.2.1.length≤100000):
    Calls Tryz.prog 176 #[vs,vI ↑f] w0 (Ret w0 h0 (fun h r=>(tLL (k+2)).Is h r (rH s f))):=by
 have hcl:=zVV (s:=s) (f:=↑f) hcd4
 refine cb2 15 vs (vI ↑f) func176 hs ?_
 refine go2 ?_
 refine nB rs fun b2 cs2 rb2=>?_
 refine go4 ?_
 refine gD 11 (qq 0 8 [(8,.c),(9,.c),(10,.q)]) (by kernel_rfl) ?_
 refine go1 ?_
 refine wX rfl (xB tM (Pc.snd (Pc.fst pH)) rb2) fun v6 r6=>?_
 refine go1 ?_
 refine wX rfl (xI zA f underlying47 fR r6) fun v8 r8=>(wX rfl (xF underlying83 sizeOf80 (Pc.fst pH) r8) fun v9 r9=>(wX rfl (xA zG4 r9) fun v10 r10=>(wX rfl (xB kF pH rb2) fun v11 r11=>?_)))
 refine go1 ?_
 refine w_c rfl (sC (ev2 rfl rfl) call189 (fun w hs=>zBA hs r11 oM oM (by first|omega|exact hcd4) (by first|omega|exact hcd4)) fun v13 h1 hh1 r13=>?_)
 refine w_c rfl (sC (ev2 rfl rfl) call198 (fun w hs=>w9 hs r10.up r13 (by first|omega|exact hcl.1|exact fun l hl=>hcl.2 l) (by first|omega|exact hcl.1|exact fun l hl=>hcl.2 l) (by first|omega|exact hcl.1|exact fun l hl=>hcl.2 l) (by first|omega|exact hcl.1|exact fun l hl=>hcl.2 l) (by first|omega|exact hcl.1|exact fun l hl=>hcl.2 l)) fun v14 h2 hh2 r14=>?_)
 replace r14:=Rp.Is.le r14 (Le.s (Le.s (Le.t (Le.q (l:=k+2) oM))))
 refine go4 ?_
 refine zD rfl rfl ?_
 exact r14
theorem iZ{w0:World}{h0:Mem}(hs:MLe h0 (mem w0)){kind:Int}(hkind1:-9223372036854775808≤kind)(hkind2:kind<9223372036854775808){face:Int}(hface1:-9223372036854775808≤face)(hface2:face<9223372036854775808){loop:Int}(hloop1:-9223372036854775808≤loop)(hloop2:loop<9223372036854775808){edge:Int}(hedge1:-9223372036854775808≤edge)(hedge2:edge<9223372036854775808):
    Calls Tryz.prog 188 #[vI kind,vI face,vI loop,vI edge] w0 (Ret w0 h0 (fun h r=>tE5.Is h r (dg kind face loop edge))):=by
 refine gN (n:=14) (e:=[(0,vI kind),(1,vI face),(2,vI loop),(3,vI edge)]) (vs:=[vI kind,vI face,vI loop,vI edge]) func188 rfl rfl (bL rfl) hs e4z ?_
 refine go2 ?_
 refine nA (ρ:=tE5) (X:=e50) qV (yJ wF (yJ wF (yJ wF (yJ wF wF)))) fun b8 cs8 rb8=>?_
 refine go8 ?_
 refine lX (xV (ρ:=tE5) (wC (ps':=[(0,_),(1,_),(2,_),(3,_),(4,_)]) underlying200 qV rfl rfl (zAD underlying200) e10 rfl (yJ wF (yJ wF (yJ wF (yJ wF wF)))) (zI rfl (Pc.fst (Pc.here _)) (qF oM oM) (zI rfl (Pc.snd (Pc.fst (Pc.here _))) (qF dC dC) (zI rfl (Pc.snd (Pc.snd (Pc.fst (Pc.here _)))) (qF oM oM) (zI rfl (Pc.snd (Pc.snd (Pc.snd (Pc.fst (Pc.here _))))) (qF oM oM) (zI rfl (Pc.snd (Pc.snd (Pc.snd (Pc.snd (Pc.here _))))) (qF oM oM) zX))))))) fun v13 r13=>(zR (A:=[]) (uB sizeOf200 pH rb8 r13) fun cs_40 rb_41=>?_)
 refine go3 ?_
 refine wL (jZ (t:=8) yAE mh0 rfl rb_41) ?_
 intro w_42 hvw_42 rr_43
 refine yE (fun E S=>zP rfl hvw_42 E S) ?_
 exact rr_43
end Go.Proofs.YtboaboflnckgoaaGreat
