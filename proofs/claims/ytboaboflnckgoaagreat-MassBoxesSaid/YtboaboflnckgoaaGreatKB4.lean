/- Texts that the proof needs, part 4. -/
import Derived.Test.YtboaboflnckgoaaGreatKB3
namespace Go.Proofs.YtboaboflnckgoaaGreat
open Bk Go Tryz
set_option linter.unusedVariables false
set_option linter.unusedSimpArgs false
set_option maxRecDepth 10000
set_option maxHeartbeats 1000000
attribute [local irreducible] GL GC GQ W OpV
theorem zFZ{w0:World}{h0:Mem}(hs:MLe h0 (mem w0)){qa:Rat}{vna vda:Value}(hna:Us .u32 h0 vna (zB qa.num.natAbs))(hda:Us .u32 h0 vda (zB (xU qa.den))){qb:Rat}{vnb vdb:Value}(hnb:Us .u32 h0 vnb (zB qb.num.natAbs))(hdb:Us .u32 h0 vdb (zB (xU qb.den)))(hqa:lq qa≤100000000000)(hqb:lq qb≤100000000000):
 Calls Tryz.prog 70 #[.agg #[vB (qa.num<0),vna,vda],.agg #[vB (qb.num<0),vnb,vdb]] w0 (Ret w0 h0 (fun h r=>wJ h r (qa+qb))):=by
 have U:=wF qa;have Y:=wP qa;have aa:=wC qa;have T:=wF qb;have X:=wP qb;have Z:=wC qb;refine cb2 10 (.agg #[vB (qa.num<0),vna,vda]) (.agg #[vB (qb.num<0),vnb,vdb]) func70 hs ?_;refine go2 ?_;refine zF (xE (cs:=[_,_,_]) rfl rfl) rfl rfl rfl ?_;intro v2 r2 J;obtain⟨b2,rfl,rfl⟩:=J;refine zF (xE (cs:=[_,_,_]) rfl rfl) rfl rfl rfl ?_;intro v3 r3 I;obtain⟨b3,rfl,rfl⟩:=I;refine zF (wB (cs:=[vB ((0:Rat).num<0),.slice none 0 0,.slice none 0 0]) yP rfl (by simp only[zb];rfl)) rfl rfl rfl ?_;intro v4 r4 H;obtain⟨b4,rfl,rfl⟩:=H;refine go8 ?_;refine cL (ev3 rfl rfl rfl) call115 (fun w hs=>zHR hs hna hda hnb hdb oM oM) fun v9 h1 ab G=>?_;obtain⟨C,D,rfl,u,z⟩:=G;have O:=jA qa (sgd (qb.num<0) qb);have M:=zRX (qb.num<0) qb;refine xQ (A:=[]) (r':=.var b4 26 [vB ((qa+sgd (qb.num<0) qb).num<0),C,D]) (zG (k:=0) (cs:=[_,_,_]) (vs:=[_,_,_]) rfl rfl rfl (ocr rfl (ocu u (ocu z oc0))) zV (bL rfl)) rfl rfl rfl (go3 ?_);refine yG (fun E S=>zQ rfl (xG (cs:=[_,_,_]) mh0 underlying26 rfl zV rfl) E S) ?_;rw[z9] at u z ⊢;exact⟨_,_,rfl,u,z⟩
theorem zUH{w0:World}{h0:Mem}(hs:MLe h0 (mem w0)){qa:Rat}{vna vda:Value}(hna:Us .u32 h0 vna (zB qa.num.natAbs))(hda:Us .u32 h0 vda (zB (xU qa.den))){qb:Rat}{vnb vdb:Value}(hnb:Us .u32 h0 vnb (zB qb.num.natAbs))(hdb:Us .u32 h0 vdb (zB (xU qb.den)))(hqa:lq qa≤100000000000)(hqb:lq qb≤100000000000):
 Calls Tryz.prog 179 #[.agg #[vB (qa.num<0),vna,vda],.agg #[vB (qb.num<0),vnb,vdb]] w0 (Ret w0 h0 (fun h r=>wJ h r (qa-qb))):=by
 have U:=wF qa;have Y:=wP qa;have aa:=wC qa;have T:=wF qb;have X:=wP qb;have Z:=wC qb;refine cb2 11 (.agg #[vB (qa.num<0),vna,vda]) (.agg #[vB (qb.num<0),vnb,vdb]) func179 hs ?_;refine go2 ?_;refine zF (xE (cs:=[_,_,_]) rfl rfl) rfl rfl rfl ?_;intro v2 r2 J;obtain⟨b2,rfl,rfl⟩:=J;refine zF (xE (cs:=[_,_,_]) rfl rfl) rfl rfl rfl ?_;intro v3 r3 I;obtain⟨b3,rfl,rfl⟩:=I;refine zF (wB (cs:=[vB ((0:Rat).num<0),.slice none 0 0,.slice none 0 0]) yP rfl (by simp only[zb];rfl)) rfl rfl rfl ?_;intro v4 r4 H;obtain⟨b4,rfl,rfl⟩:=H;refine go9 ?_;refine cL (ev3 rfl rfl rfl) call115 (fun w hs=>zHR hs hna hda hnb hdb oM oM) fun ab h1 ac G=>?_;obtain⟨C,D,rfl,u,z⟩:=G;have O:=jA qa (sgd (¬(qb.num<0)) qb);have M:=zRX (¬(qb.num<0)) qb;refine xQ (A:=[]) (r':=.var b4 26 [vB ((qa+sgd (¬(qb.num<0)) qb).num<0),C,D]) (zG (k:=0) (cs:=[_,_,_]) (vs:=[_,_,_]) rfl rfl rfl (ocr rfl (ocu u (ocu z oc0))) zV (bL rfl)) rfl rfl rfl (go3 ?_);refine yG (fun E S=>zQ rfl (xG (cs:=[_,_,_]) mh0 underlying26 rfl zV rfl) E S) ?_;rw[zT7,←Rat.sub_eq_add_neg] at u z ⊢;exact⟨_,_,rfl,u,z⟩
theorem zUK{w0:World}{h0:Mem}(hs:MLe h0 (mem w0)){qa:Rat}{vna vda:Value}(hna:Us .u32 h0 vna (zB qa.num.natAbs))(hda:Us .u32 h0 vda (zB (xU qa.den))){qb:Rat}{vnb vdb:Value}(hnb:Us .u32 h0 vnb (zB qb.num.natAbs))(hdb:Us .u32 h0 vdb (zB (xU qb.den)))(hqa:lq qa≤100000000000)(hqb:lq qb≤100000000000):
 Calls Tryz.prog 148 #[.agg #[vB (qa.num<0),vna,vda],.agg #[vB (qb.num<0),vnb,vdb]] w0 (Ret w0 h0 (fun h r=>wJ h r (bZ qa qb))):=by
 have Z:=wF qa;have ab:=wP qa;have ad:=wC qa;have Y:=wF qb;have aa:=wP qb;have ac:=wC qb;refine cb2 12 (.agg #[vB (qa.num<0),vna,vda]) (.agg #[vB (qb.num<0),vnb,vdb]) func148 hs ?_;refine go2 ?_;refine zF (xE (cs:=[_,_,_]) rfl rfl) rfl rfl rfl ?_;intro v2 r2 U;obtain⟨b2,rfl,rfl⟩:=U;refine zF (xE (cs:=[_,_,_]) rfl rfl) rfl rfl rfl ?_;intro v3 r3 T;obtain⟨b3,rfl,rfl⟩:=T;refine zF (wB (cs:=[vB ((0:Rat).num<0),.slice none 0 0,.slice none 0 0]) yP rfl (by simp only[zb];rfl)) rfl rfl rfl ?_;intro v4 r4 O;obtain⟨b4,rfl,rfl⟩:=O;refine go7 ?_;refine cL (ev2 rfl rfl) call184 (fun w hs=>zL9 hs hnb hdb hna hda oM oM) fun v7 h1 H M=>?_;have ae:=jC qb qa;subst M;refine gc3 (fun I=>?_) fun I=>?_
 ·
  refine go2 ?_;replace hnb:=hnb.mono H;replace hdb:=hdb.mono H;refine xQ (A:=[_,_]) (r':=.var b2 26 [vB (qb.num<0),vnb,vdb]) (zG (k:=0) (cs:=[_,_,_]) (vs:=[_,_,_]) rfl rfl rfl (ocr rfl (ocu hnb (ocu hdb oc0))) zV (bL rfl)) rfl rfl rfl (go5 ?_);refine cL (ev1 rfl) call185 (fun w hs=>nQ hs hnb hdb (by first|omega|exact Nat.le_trans (wF _) oM) (by first|omega|exact Nat.le_trans (wC _) oM)) fun J h2 X G=>?_;obtain⟨C,D,rfl,u,z⟩:=G;refine xQ (A:=[]) (r':=.var b4 26 [vB ((qb).num<0),C,D]) (zG (k:=0) (cs:=[_,_,_]) (vs:=[_,_,_]) rfl rfl rfl (ocr rfl (ocu u (ocu z oc0))) zV (bL rfl)) rfl rfl rfl (go3 ?_);refine yG (fun E S=>zQ rfl (xG (cs:=[_,_,_]) mh0 underlying26 rfl zV rfl) E S) ?_;rw[zYR I];exact⟨_,_,rfl,u,z⟩
 refine go5 ?_;replace hna:=hna.mono H;replace hda:=hda.mono H;refine cL (ev1 rfl) call185 (fun w hs=>nQ hs hna hda (by first|omega|exact Nat.le_trans (wF _) oM) (by first|omega|exact Nat.le_trans (wC _) oM)) fun J h2 X G=>?_;obtain⟨C,D,rfl,u,z⟩:=G;refine xQ (A:=[]) (r':=.var b4 26 [vB ((qa).num<0),C,D]) (zG (k:=0) (cs:=[_,_,_]) (vs:=[_,_,_]) rfl rfl rfl (ocr rfl (ocu u (ocu z oc0))) zV (bL rfl)) rfl rfl rfl (go3 ?_);refine yG (fun E S=>zQ rfl (xG (cs:=[_,_,_]) mh0 underlying26 rfl zV rfl) E S) ?_;rw[zYS I];exact⟨_,_,rfl,u,z⟩
theorem zUL{w0:World}{h0:Mem}(hs:MLe h0 (mem w0)){qa:Rat}{vna vda:Value}(hna:Us .u32 h0 vna (zB qa.num.natAbs))(hda:Us .u32 h0 vda (zB (xU qa.den))){qb:Rat}{vnb vdb:Value}(hnb:Us .u32 h0 vnb (zB qb.num.natAbs))(hdb:Us .u32 h0 vdb (zB (xU qb.den)))(hqa:lq qa≤100000000000)(hqb:lq qb≤100000000000):
 Calls Tryz.prog 149 #[.agg #[vB (qa.num<0),vna,vda],.agg #[vB (qb.num<0),vnb,vdb]] w0 (Ret w0 h0 (fun h r=>wJ h r (sJ qa qb))):=by
 have Z:=wF qa;have ab:=wP qa;have ad:=wC qa;have Y:=wF qb;have aa:=wP qb;have ac:=wC qb;refine cb2 12 (.agg #[vB (qa.num<0),vna,vda]) (.agg #[vB (qb.num<0),vnb,vdb]) func149 hs ?_;refine go2 ?_;refine zF (xE (cs:=[_,_,_]) rfl rfl) rfl rfl rfl ?_;intro v2 r2 U;obtain⟨b2,rfl,rfl⟩:=U;refine zF (xE (cs:=[_,_,_]) rfl rfl) rfl rfl rfl ?_;intro v3 r3 T;obtain⟨b3,rfl,rfl⟩:=T;refine zF (wB (cs:=[vB ((0:Rat).num<0),.slice none 0 0,.slice none 0 0]) yP rfl (by simp only[zb];rfl)) rfl rfl rfl ?_;intro v4 r4 O;obtain⟨b4,rfl,rfl⟩:=O;refine go7 ?_;refine cL (ev2 rfl rfl) call184 (fun w hs=>zL9 hs hnb hdb hna hda oM oM) fun v7 h1 H M=>?_;have ae:=jC qb qa;subst M;refine gc3 (fun I=>?_) fun I=>?_
 ·
  refine go2 ?_;replace hnb:=hnb.mono H;replace hdb:=hdb.mono H;refine xQ (A:=[_,_]) (r':=.var b2 26 [vB (qb.num<0),vnb,vdb]) (zG (k:=0) (cs:=[_,_,_]) (vs:=[_,_,_]) rfl rfl rfl (ocr rfl (ocu hnb (ocu hdb oc0))) zV (bL rfl)) rfl rfl rfl (go5 ?_);refine cL (ev1 rfl) call185 (fun w hs=>nQ hs hnb hdb (by first|omega|exact Nat.le_trans (wF _) oM) (by first|omega|exact Nat.le_trans (wC _) oM)) fun J h2 X G=>?_;obtain⟨C,D,rfl,u,z⟩:=G;refine xQ (A:=[]) (r':=.var b4 26 [vB ((qb).num<0),C,D]) (zG (k:=0) (cs:=[_,_,_]) (vs:=[_,_,_]) rfl rfl rfl (ocr rfl (ocu u (ocu z oc0))) zV (bL rfl)) rfl rfl rfl (go3 ?_);refine yG (fun E S=>zQ rfl (xG (cs:=[_,_,_]) mh0 underlying26 rfl zV rfl) E S) ?_;rw[zYT I];exact⟨_,_,rfl,u,z⟩
 refine go5 ?_;replace hna:=hna.mono H;replace hda:=hda.mono H;refine cL (ev1 rfl) call185 (fun w hs=>nQ hs hna hda (by first|omega|exact Nat.le_trans (wF _) oM) (by first|omega|exact Nat.le_trans (wC _) oM)) fun J h2 X G=>?_;obtain⟨C,D,rfl,u,z⟩:=G;refine xQ (A:=[]) (r':=.var b4 26 [vB ((qa).num<0),C,D]) (zG (k:=0) (cs:=[_,_,_]) (vs:=[_,_,_]) rfl rfl rfl (ocr rfl (ocu u (ocu z oc0))) zV (bL rfl)) rfl rfl rfl (go3 ?_);refine yG (fun E S=>zQ rfl (xG (cs:=[_,_,_]) mh0 underlying26 rfl zV rfl) E S) ?_;rw[zYU I];exact⟨_,_,rfl,u,z⟩
theorem zUM{w0:World}{h0:Mem}(hs:MLe h0 (mem w0)){n:Int}(hn1:-9223372036854775808≤n)(hn2:n<9223372036854775808):
 Calls Tryz.prog 75 #[vI n] w0 (Ret w0 h0 (fun h r=>wJ h r (n:Rat))):=by
 refine cb1 9 (vI n) func75 hs ?_;refine go2 ?_;refine zF (wB (cs:=[vB ((0:Rat).num<0),.slice none 0 0,.slice none 0 0]) yP rfl (by simp only[zb];rfl)) rfl rfl rfl ?_;intro v2 r2 J;obtain⟨Y,rfl,rfl⟩:=J;refine go7 ?_;refine cL (ev1 rfl) call121 (fun w hs=>zQP hs oM oM) fun v6 h1 X u=>?_;have T:=kR (n:=n) oM oM;refine cL (vs:=[]) trivial call122 (fun w hs=>zL8 hs) fun v7 h2 M G=>?_;rw[rV] at G;have O:=j0;replace u:=u.mono M;refine cL (ev3 rfl rfl rfl) call119 (fun w hs=>jR hs u G oM oM) fun Z h3 U D=>?_
 try simp only[zC] at D
 obtain⟨H,I,rfl,z,C⟩:=D;refine xQ (A:=[]) (r':=.var Y 26 [vB ((mkRat (sg (n<(0:Int)) (((n).natAbs))) ((1))).num<0),H,I]) (zG (k:=0) (cs:=[_,_,_]) (vs:=[_,_,_]) rfl rfl rfl (ocr rfl (ocu z (ocu C oc0))) zV (bL rfl)) rfl rfl rfl (go3 ?_);refine yG (fun E S=>zQ rfl (xG (cs:=[_,_,_]) mh0 underlying26 rfl zV rfl) E S) ?_;rw[zGN] at z C ⊢;exact⟨_,_,rfl,z,C⟩
end Go.Proofs.YtboaboflnckgoaaGreat
namespace Go.Proofs.YtboaboflnckgoaaGreat
open Bk Go Tryz
set_option linter.unusedVariables false
set_option linter.unusedSimpArgs false
set_option maxRecDepth 10000
set_option maxHeartbeats 1000000
attribute [local irreducible] GL GC GQ W OpV
theorem zHP{w0:World}{h0:Mem}(hs:MLe h0 (mem w0)){sa:Prop}{ba vna vda:Value}{xa ya:List Nat}(hba:ba=vB sa)(hna:Us .u32 h0 vna xa)(hda:Us .u32 h0 vda ya)(hlx:xa.length≤100000000000)(hly:ya.length≤100000000000):
 Calls Tryz.prog 101 #[.agg #[ba,vna,vda]] w0 (Ret w0 h0 (fun h r=>∃u,r=.tuple #[u,vI (if dV ya=0 then 3 else 0)]∧wJ h u (mkRat (sg sa (val xa)) (dV ya)))):=by
 subst hba;have ae:=wS hna.lt;have ad:=wS hda.lt;refine cb1 22 (.agg #[vB sa,vna,vda]) func101 hs ?_;refine go2 ?_;refine zF (xE (cs:=[_,_,_]) rfl rfl) rfl rfl rfl ?_;intro v1 r1 ab;obtain⟨b1,rfl,rfl⟩:=ab;refine zF (wB (cs:=[vB ((0:Rat).num<0),.slice none 0 0,.slice none 0 0]) yP rfl (by simp only[zb];rfl)) rfl rfl rfl ?_;intro v2 r2 aa;obtain⟨X,rfl,rfl⟩:=aa;refine uQ ?_;refine uL (ι:=Mem) 6 (fun Z=>MLe h0 Z) (fun _=>[(13,vB (((0:Int)<(↑(ya).length:Int))∧((↑(xZ (val (ya))):Int)=(0:Int)))),(1,vP b1 0),(2,vP X 0)]) (fun _=>[.var X 26 [vB ((0:Rat).num<0),.slice none 0 0,.slice none 0 0],.var b1 26 [vB sa,vna,vda]]) (fun Z=>Z) ?_ ?_
 ·
  refine yD ((0:Int)<(↑(ya).length:Int)) (fun U=>?_) (fun U=>?_)
  ·
   refine gT U rfl (go5 ?_);refine cL (ev1 rfl) call94 (fun w hs=>pP hs hda oM) fun aj h1 J I=>?_
   try simp only[zC] at I
   subst I;refine go4 ?_;refine zO h1 J ⟨?_,rfl,rfl,trivial⟩ rfl rfl;exact congrArg some (xN U)
  refine gF U rfl (go6 ?_);refine zO h0 (MLe.refl _) ⟨?_,rfl,rfl,trivial⟩ rfl rfl;exact congrArg some (xO U)
 intro Y z;refine tJ ?_;refine gc2 (fun G=>?_) fun G=>?_
 ·
  refine go2 ?_;refine gv (yQ (ps':=[]) (vs:=[vB ((0:Rat).num<0),.slice none 0 0,.slice none 0 0]) underlying26 yP rfl (vD underlying26) trivial (by simp only[zb];exact vY)) rfl (xQ (A:=[]) (r':=.var X 26 [vB ((0:Rat).num<0),.slice none 0 0,.slice none 0 0]) (zG (k:=0) (cs:=[_,_,_]) (vs:=[_,_,_]) rfl rfl rfl rfl zV (bL rfl)) rfl rfl rfl (go5 ?_));refine yG (fun E S=>vV rfl (xG (cs:=[_,_,_]) mh0 underlying26 rfl zV rfl) (jQ rfl) E S) ?_;have e:=zVW G;rw[e,if_pos rfl,u6];exact⟨_,rfl,wJ.zero _⟩
 refine go3 ?_;refine zK 7 _ [] [(0,.q),(1,.q),(2,.q),(3,.q),(4,.q),(5,.c),(6,.c),(7,.t),(8,.t)] yC nX (by kernel_rfl) nX (fun r hr=>hr) (go5 ?_);refine w_c rfl ?_;replace hna:=hna.mono z;replace hda:=hda.mono z;refine sC (ev1 rfl) call120 (fun w hs=>gQ hs hna hda) fun ai h1 J T=>?_;have ac:=zZQ (ya);refine w_c rfl ?_;replace hna:=hna.mono J;refine sC (ev3 rfl rfl rfl) call119 (fun w hs=>jR hs hna T oM oM) fun ah h2 ak H=>?_
 try simp only[zC] at H
 obtain⟨M,O,rfl,C,D⟩:=H;refine kV (A:=[]) (q':=.var X 26 [vB ((mkRat (sg (sa) (val (xa))) (val (if(ya)=[] then[1] else(ya)))).num<0),M,O]) rfl (zG (k:=0) (cs:=[_,_,_]) (vs:=[_,_,_]) rfl rfl rfl (ocr rfl (ocu C (ocu D oc0))) zV (bL rfl)) rfl (dP rfl (tH (v:=vI (0)) rfl) rfl (go3 ?_));refine yG (fun E S=>vV rfl (xG (cs:=[_,_,_]) mh0 underlying26 rfl zV rfl) (jQ rfl) E S) ?_;rw[if_neg (yBP G)];rw[zXA] at C D ⊢;exact⟨_,rfl,_,_,rfl,C,D⟩
theorem tQ{w0:World}{h0:Mem}(hs:MLe h0 (mem w0)){sa:Prop}{ba vna vda:Value}{xa ya:List Nat}(hba:ba=vB sa)(hna:Us .u32 h0 vna xa)(hda:Us .u32 h0 vda ya):
 Calls Tryz.prog 48 #[.agg #[ba,vna,vda]] w0 (Ret w0 h0 (fun h r=>Us .u32 h r (if ya=[] then[1] else ya))):=by
 subst hba;have I:=wS hna.lt;have H:=wS hda.lt;refine cb1 10 (.agg #[vB sa,vna,vda]) func48 hs ?_;refine go2 ?_;refine zF (xE (cs:=[_,_,_]) rfl rfl) rfl rfl rfl ?_;intro v1 r1 D;obtain⟨U,rfl,rfl⟩:=D;refine zGU (fun u=>?_) fun u=>?_
 ·
  refine go2 ?_;refine zF (kQ (kd:=.u32) (p:=1) underlying22 wL rfl rfl rfl) rfl rfl rfl ?_;intro O S C;obtain rfl:=C;refine yI (by intro z G;simp only[List.mem_singleton] at G;subst G;decide) ?_;intro T J M;refine go5 ?_;refine zD rfl rfl ?_;rw[if_pos (zDB.1 u)];exact M
 refine uQ ?_;refine zD rfl rfl ?_;rw[if_neg (fun h=>u (zDB.2 h))];exact hda
end Go.Proofs.YtboaboflnckgoaaGreat
namespace Go.Proofs.YtboaboflnckgoaaGreat
open Bk Go Tryz
set_option linter.unusedVariables false
set_option linter.unusedSimpArgs false
set_option maxRecDepth 10000
set_option maxHeartbeats 1000000
attribute [local irreducible] GL GC GQ W OpV
theorem sS{w0:World}{h0:Mem}(hs:MLe h0 (mem w0)){s:Prop}{vn vd:Value}{xs ys:List Nat}(hn:Us .u32 h0 vn xs)(hd:Us .u32 h0 vd ys)(hl:xs.length≤500000000000)(hl':ys.length≤500000000000)(hd0:val ys≠0):
 Calls Tryz.prog 46 #[vB s,vn,vd] w0 (Ret w0 h0 (fun h r=>wJ h r (mkRat (sg s (val xs)) (val ys)))):=by
 have aw:=wS hn.lt;have av:=wS hd.lt;refine cb3 55 (vB s) vn vd func46 hs ?_;refine go2 ?_;refine zF (wB (cs:=[vB ((0:Rat).num<0),.slice none 0 0,.slice none 0 0]) yP rfl (by simp only[zb];rfl)) rfl rfl rfl ?_;intro v6 r6 ah;obtain⟨b6,rfl,rfl⟩:=ah;refine go5 ?_;refine cL (ev1 rfl) call91 (fun w hs=>fE hs hn oM) fun v9 h1 an u=>(go1 ?_);replace hd:=hd.mono an;refine cL (ev1 rfl) call91 (fun w hs=>fE hs hd oM) fun aa h2 am z=>?_;replace u:=u.mono am;refine zGU (fun ae=>?_) fun ae=>?_
 ·
  refine go2 ?_;refine gv (yQ (ps':=[]) (vs:=[vB ((0:Rat).num<0),.slice none 0 0,.slice none 0 0]) underlying26 yP rfl (vD underlying26) trivial (by simp only[zb];exact vY)) rfl (xQ (A:=[]) (r':=.var b6 26 [vB ((0:Rat).num<0),.slice none 0 0,.slice none 0 0]) (zG (k:=0) (cs:=[_,_,_]) (vs:=[_,_,_]) rfl rfl rfl rfl zV (bL rfl)) rfl rfl rfl (go4 ?_));refine yG (fun E S=>zQ rfl (xG (cs:=[_,_,_]) mh0 underlying26 rfl zV rfl) E S) ?_;have e:val xs=0:=Classical.byContradiction fun e=>by have:=yM.2 e;omega
  rw[e,u9];exact wJ.zero _
 have X:val xs≠0:=yM.1 oM;have ax:Nat.gcd (val xs) (val ys)≠0:=Nat.ne_of_gt (Nat.gcd_pos_of_pos_left _ oM);refine go6 ?_;refine cL (ev2 rfl rfl) call92 (fun w hs=>zUE hs u z oM oM) fun aq h3 O H=>?_;have ak:=iE ((val (xs))) ((val (ys)));refine go9 ?_;refine gU 6 27 (vB (((↑(zB (Nat.gcd ((val (xs))) ((val (ys))))).length:Int)≠(1:Int))∨(((zB (Nat.gcd ((val (xs))) ((val (ys))))).getD (0) 0)≠(1:Nat)))) ?_ ?_
 ·
  refine yD ((↑(zB (Nat.gcd ((val (xs))) ((val (ys))))).length:Int)≠(1:Int)) (fun I=>?_) (fun I=>?_)
  ·
   refine gT I rfl (go6 ?_);refine gqU ?_;exact congrArg some (vZ I)
  refine gF I rfl (go3 ?_);refine gv (zP (q:=0) (0) underlying22 sizeOf127 rfl rfl H rfl oM) rfl (go3 ?_);refine gv (fF (k:=.u32) (q:=1) rfl rfl) rfl (go2 ?_);refine gqU ?_;exact congrArg some (uA I)
 refine gc2 (fun T=>?_) fun T=>?_
 ·
  refine go4 ?_;replace u:=u.mono O;refine cL (ev2 rfl rfl) call93 (fun w hs=>zFY hs u H oM oM) fun ap h4 ad Z=>?_;obtain⟨U,au,rfl,D,Z⟩:=Z;have aj:=zN (Nat.div_le_self ((val (xs))) ((Nat.gcd ((val (xs))) ((val (ys))))));refine uQ ?_;replace z:=z.mono (O.trans ad);replace H:=H.mono ad;refine cL (ev2 rfl rfl) call93 (fun w hs=>zFY hs z H oM oM) fun ao h5 ac Y=>?_;obtain⟨ab,ar,rfl,J,Y⟩:=Y;have ai:=zN (Nat.div_le_self ((val (ys))) ((Nat.gcd ((val (xs))) ((val (ys))))));refine sL ?_;refine gU 6 50 (vB (((↑(zB (((val (ys)))/((Nat.gcd ((val (xs))) ((val (ys))))))).length:Int)=(1:Int))∧(((zB (((val (ys)))/((Nat.gcd ((val (xs))) ((val (ys))))))).getD (0) 0)=(1:Nat)))) ?_ ?_
  ·
   refine yD ((↑(zB (((val (ys)))/((Nat.gcd ((val (xs))) ((val (ys))))))).length:Int)=(1:Int)) (fun I=>?_) (fun I=>?_)
   ·
    refine gT I rfl (go3 ?_);refine gv (zP (q:=0) (0) underlying22 sizeOf127 rfl rfl J rfl oM) rfl (go3 ?_);refine gv (gB (k:=.u32) (q:=1) rfl rfl) rfl (go2 ?_);refine gqU ?_;exact congrArg some (xN I)
   refine gF I rfl (go6 ?_);refine gqU ?_;exact congrArg some (xO I)
  refine gc2 (fun G=>?_) fun G=>?_
  ·
   refine go9 ?_;replace D:=D.mono ac;refine gv (yQ (ps':=[(0,_),(1,_),(2,_)]) (vs:=[vB s,U,.slice none 0 0]) underlying26 yP rfl (vD underlying26) e6z (yY (A:=[]) (B:=[_]) (C:=[_,_]) (cs:=[_]) (off:=0) (size:=1) rfl rfl rfl rfl rfl (yY (A:=[_]) (B:=[_]) (C:=[_]) (cs:=[_]) (off:=1) (size:=1) rfl rfl rfl rfl D.cells (yY (A:=[_,_]) (B:=[_]) (C:=[]) (cs:=[_]) (off:=2) (size:=1) rfl rfl rfl rfl rfl vY)))) rfl (xQ (A:=[]) (r':=.var b6 26 [vB s,U,.slice none 0 0]) (zG (k:=0) (cs:=[_,_,_]) (vs:=[_,_,_]) rfl rfl rfl (ocr rfl (ocu D (ocr rfl oc0))) zV (bL rfl)) rfl rfl rfl (go3 ?_));refine yG (fun E S=>zQ rfl (xG (cs:=[_,_,_]) mh0 underlying26 rfl zV rfl) E S) ?_;exact wJ.fin1 X hd0 D G
  refine go7 ?_;replace D:=D.mono ac;refine gv (yQ (ps':=[(0,_),(1,_),(2,_)]) (vs:=[vB s,U,ab]) underlying26 yP rfl (vD underlying26) e6z (yY (A:=[]) (B:=[_]) (C:=[_,_]) (cs:=[_]) (off:=0) (size:=1) rfl rfl rfl rfl rfl (yY (A:=[_]) (B:=[_]) (C:=[_]) (cs:=[_]) (off:=1) (size:=1) rfl rfl rfl rfl D.cells (yY (A:=[_,_]) (B:=[_]) (C:=[]) (cs:=[_]) (off:=2) (size:=1) rfl rfl rfl rfl J.cells vY)))) rfl (xQ (A:=[]) (r':=.var b6 26 [vB s,U,ab]) (zG (k:=0) (cs:=[_,_,_]) (vs:=[_,_,_]) rfl rfl rfl (ocr rfl (ocu D (ocu J oc0))) zV (bL rfl)) rfl rfl rfl (go3 ?_));refine yG (fun E S=>zQ rfl (xG (cs:=[_,_,_]) mh0 underlying26 rfl zV rfl) E S) ?_;exact wJ.fin X hd0 D J G
 replace z:=z.mono O;refine go8 ?_;refine gU 6 50 (vB (((↑(zB (val (ys))).length:Int)=(1:Int))∧(((zB (val (ys))).getD (0) 0)=(1:Nat)))) ?_ ?_
 ·
  refine yD ((↑(zB (val (ys))).length:Int)=(1:Int)) (fun I=>?_) (fun I=>?_)
  ·
   refine gT I rfl (go3 ?_);refine gv (zP (q:=0) (0) underlying22 sizeOf127 rfl rfl z rfl oM) rfl (go3 ?_);refine gv (gB (k:=.u32) (q:=1) rfl rfl) rfl (go2 ?_);refine gqU ?_;exact congrArg some (xN I)
  refine gF I rfl (go6 ?_);refine gqU ?_;exact congrArg some (xO I)
 refine gc2 (fun G=>?_) fun G=>?_
 ·
  refine go9 ?_;replace u:=u.mono O;refine gv (yQ (ps':=[(0,_),(1,_),(2,_)]) (vs:=[vB s,v9,.slice none 0 0]) underlying26 yP rfl (vD underlying26) e6z (yY (A:=[]) (B:=[_]) (C:=[_,_]) (cs:=[_]) (off:=0) (size:=1) rfl rfl rfl rfl rfl (yY (A:=[_]) (B:=[_]) (C:=[_]) (cs:=[_]) (off:=1) (size:=1) rfl rfl rfl rfl u.cells (yY (A:=[_,_]) (B:=[_]) (C:=[]) (cs:=[_]) (off:=2) (size:=1) rfl rfl rfl rfl rfl vY)))) rfl (xQ (A:=[]) (r':=.var b6 26 [vB s,v9,.slice none 0 0]) (zG (k:=0) (cs:=[_,_,_]) (vs:=[_,_,_]) rfl rfl rfl (ocr rfl (ocu u (ocr rfl oc0))) zV (bL rfl)) rfl rfl rfl (go3 ?_));refine yG (fun E S=>zQ rfl (xG (cs:=[_,_,_]) mh0 underlying26 rfl zV rfl) E S) ?_;have M:=zDH T;exact wJ.fin1 X hd0 (by rw[M,Nat.div_one];exact u) (by rw[M,Nat.div_one];exact G)
 refine go7 ?_;replace u:=u.mono O;refine gv (yQ (ps':=[(0,_),(1,_),(2,_)]) (vs:=[vB s,v9,aa]) underlying26 yP rfl (vD underlying26) e6z (yY (A:=[]) (B:=[_]) (C:=[_,_]) (cs:=[_]) (off:=0) (size:=1) rfl rfl rfl rfl rfl (yY (A:=[_]) (B:=[_]) (C:=[_]) (cs:=[_]) (off:=1) (size:=1) rfl rfl rfl rfl u.cells (yY (A:=[_,_]) (B:=[_]) (C:=[]) (cs:=[_]) (off:=2) (size:=1) rfl rfl rfl rfl z.cells vY)))) rfl (xQ (A:=[]) (r':=.var b6 26 [vB s,v9,aa]) (zG (k:=0) (cs:=[_,_,_]) (vs:=[_,_,_]) rfl rfl rfl (ocr rfl (ocu u (ocu z oc0))) zV (bL rfl)) rfl rfl rfl (go3 ?_));refine yG (fun E S=>zQ rfl (xG (cs:=[_,_,_]) mh0 underlying26 rfl zV rfl) E S) ?_;have M:=zDH T;exact wJ.fin X hd0 (by rw[M,Nat.div_one];exact u) (by rw[M,Nat.div_one];exact z) (by rw[M,Nat.div_one];exact G)
theorem s8{w0:World}{h0:Mem}(hs:MLe h0 (mem w0)){n:Int}(hn1:-9223372036854775808≤n)(hn2:n<9223372036854775808):
 Calls Tryz.prog 86 #[vI n] w0 (Ret w0 h0 (fun h r=>∃u,r=.tuple #[u,vB (n<0)]∧Us .u32 h u (zB n.natAbs))):=by
 refine cb1 15 (vI n) func86 hs ?_;refine sL ?_;refine cnd (fun z=>?_) fun z=>?_
 ·
  refine go4 ?_;refine gv (lL rfl oM oM) rfl (gv (iT (p:=(-(n+1)).toNat) (k':=.u64) (W:=18446744073709551616) underlying2 underlying130 rfl rfl (congrArg some (congrArg vI oM)) oM) rfl (gv (fW (k:=.u64) (q:=1) (W:=18446744073709551616) rfl rfl rfl rfl oM) rfl (cL (ev1 rfl) call131 (fun w hs=>iR hs oM) fun I J G D=>(go6 ?_))));refine vS rfl rfl rfl ?_;rw[xM z,show n.natAbs=(-(n+1)).toNat+1 by omega];exact⟨_,rfl,D⟩
 refine go5 ?_;refine gv (iT (p:=n.toNat) (k':=.u64) (W:=18446744073709551616) underlying2 underlying130 rfl rfl (congrArg some (congrArg vI oM)) oM) rfl (cL (ev1 rfl) call131 (fun w hs=>iR hs oM) fun H J G C=>(go5 ?_));refine vS rfl rfl rfl ?_;rw[yV z,show n.natAbs=n.toNat by omega];exact⟨_,rfl,C⟩
theorem zNX{w0:World}{h0:Mem}(hs:MLe h0 (mem w0)){n:Int}(hn1:-9223372036854775808≤n)(hn2:n<9223372036854775808){d:Int}(hd1:-9223372036854775808≤d)(hd2:d<9223372036854775808):
 Calls Tryz.prog 49 #[vI n,vI d] w0 (Ret w0 h0 (fun h r=>∃u,r=.tuple #[u,vI (if d=0 then 3 else 0)]∧wJ h u (jD n d))):=by
 refine cb2 29 (vI n) (vI d) func49 hs ?_;refine go2 ?_;refine zF (wB (cs:=[vB ((0:Rat).num<0),.slice none 0 0,.slice none 0 0]) yP rfl (by simp only[zb];rfl)) rfl rfl rfl ?_;intro v4 r4 U;obtain⟨b4,rfl,rfl⟩:=U;refine zAS (fun z=>?_) fun z=>?_
 ·
  refine go2 ?_;refine gv (yQ (ps':=[]) (vs:=[vB ((0:Rat).num<0),.slice none 0 0,.slice none 0 0]) underlying26 yP rfl (vD underlying26) trivial (by simp only[zb];exact vY)) rfl (xQ (A:=[]) (r':=.var b4 26 [vB ((0:Rat).num<0),.slice none 0 0,.slice none 0 0]) (zG (k:=0) (cs:=[_,_,_]) (vs:=[_,_,_]) rfl rfl rfl rfl zV (bL rfl)) rfl rfl rfl (go5 ?_));refine yG (fun E S=>vV rfl (xG (cs:=[_,_,_]) mh0 underlying26 rfl zV rfl) (jQ rfl) E S) ?_;rw[if_pos z,z,zC7];exact⟨_,rfl,wJ.zero _⟩
 have aj:d.natAbs≠0:=by omega
 refine go5 ?_;refine cL (ev1 rfl) call86 (fun w hs=>s8 hs oM oM) fun ac h1 ai T=>?_;obtain⟨ae,rfl,C⟩:=T;have Y:=kR (n:=n) oM oM;refine uQ ?_;refine cL (ev1 rfl) call86 (fun w hs=>s8 hs oM oM) fun ab h2 Z O=>?_;obtain⟨ad,rfl,M⟩:=O;have X:=kR (n:=d) oM oM;refine qT ?_;refine gv (fV underlying4 rfl rfl) rfl (go2 ?_);replace C:=C.mono Z;refine cL (ev3 rfl rfl rfl) call46 (fun w hs=>sS hs C M oM oM (by first|(simp only[zC];omega)|(simp only[zC];first|exact Rat.den_nz _|exact Nat.mul_ne_zero (Rat.den_nz _) (Rat.den_nz _)|exact Nat.one_ne_zero|assumption)|assumption)) fun aa h3 ah D=>?_
 try simp only[zC] at D
 obtain⟨I,J,rfl,G,H⟩:=D;refine xQ (A:=[]) (r':=.var b4 26 [vB ((mkRat (sg (¬((n<0)↔(d<0))) (((n).natAbs))) (((d).natAbs))).num<0),I,J]) (zG (k:=0) (cs:=[_,_,_]) (vs:=[_,_,_]) rfl rfl rfl (ocr rfl (ocu G (ocu H oc0))) zV (bL rfl)) rfl rfl rfl (go4 ?_);refine yG (fun E S=>vV rfl (xG (cs:=[_,_,_]) mh0 underlying26 rfl zV rfl) (jQ rfl) E S) ?_;rw[if_neg z,←zIL z];exact⟨_,rfl,_,_,rfl,G,H⟩
theorem zQC{w0:World}{h0:Mem}(hs:MLe h0 (mem w0)){n:Int}(hn1:-9223372036854775808≤n)(hn2:n<9223372036854775808):
 Calls Tryz.prog 39 #[vI n] w0 (Ret w0 h0 (fun h r=>wJ h r (n:Rat))):=by
 refine cb1 13 (vI n) func39 hs ?_;refine go2 ?_;refine zF (wB (cs:=[vB ((0:Rat).num<0),.slice none 0 0,.slice none 0 0]) yP rfl (by simp only[zb];rfl)) rfl rfl rfl ?_;intro v2 r2 D;obtain⟨J,rfl,rfl⟩:=D;refine go5 ?_;refine cL (ev1 rfl) call86 (fun w hs=>s8 hs oM oM) fun M O I z=>?_;obtain⟨G,rfl,u⟩:=z;have H:=kR (n:=n) oM oM;refine qT ?_;refine gv (yQ (ps':=[(0,_),(1,_)]) (vs:=[vB (n<0),G,.slice none 0 0]) underlying26 yP rfl (vD underlying26) e4z (yY (A:=[]) (B:=[_]) (C:=[_,_]) (cs:=[_]) (off:=0) (size:=1) rfl rfl rfl rfl rfl (yY (A:=[_]) (B:=[_]) (C:=[_]) (cs:=[_]) (off:=1) (size:=1) rfl rfl rfl rfl u.cells vY))) rfl (xQ (A:=[]) (r':=.var J 26 [vB (n<0),G,.slice none 0 0]) (zG (k:=0) (cs:=[_,_,_]) (vs:=[_,_,_]) rfl rfl rfl (ocr rfl (ocu u (ocr rfl oc0))) zV (bL rfl)) rfl rfl rfl (go3 ?_));refine yG (fun E S=>zQ rfl (xG (cs:=[_,_,_]) mh0 underlying26 rfl zV rfl) E S) ?_;exact wJ.int u
theorem zEP{w0:World}{h0:Mem}(hs:MLe h0 (mem w0)){n:Int}(hn1:-9223372036854775808≤n)(hn2:n<9223372036854775808){d:Int}(hd1:-9223372036854775808≤d)(hd2:d<9223372036854775808):
 Calls Tryz.prog 10 #[vI n,vI d] w0 (Ret w0 h0 (fun h r=>wJ h r (jD n d))):=by
 refine cb2 14 (vI n) (vI d) func10 hs ?_;refine go2 ?_;refine zF (wB (cs:=[vB ((0:Rat).num<0),.slice none 0 0,.slice none 0 0]) yP rfl (by simp only[zb];rfl)) rfl rfl rfl ?_;intro v4 r4 I;obtain⟨U,rfl,rfl⟩:=I;refine go6 ?_;refine cL (ev2 rfl rfl) call49 (fun w hs=>zNX hs oM oM oM oM) fun M Z O G=>?_;obtain⟨_,rfl,C,D,rfl,u,z⟩:=G;have J:=zBY (n:=n) (d:=d) oM oM oM oM;refine go3 ?_;refine zF (wB (cs:=[vB ((0:Rat).num<0),.slice none 0 0,.slice none 0 0]) yP rfl (by simp only[zb];rfl)) rfl rfl rfl ?_;intro X Y H;obtain⟨T,rfl,rfl⟩:=H;refine xQ (A:=[]) (r':=.var T 26 [vB ((jD n d).num<0),C,D]) (zG (k:=0) (cs:=[_,_,_]) (vs:=[_,_,_]) rfl rfl rfl (ocr rfl (ocu u (ocu z oc0))) zV (bL rfl)) rfl rfl rfl (go6 ?_);refine xQ (A:=[_]) (r':=.var U 26 [vB ((jD n d).num<0),C,D]) (zG (k:=0) (cs:=[_,_,_]) (vs:=[_,_,_]) rfl rfl rfl (ocr rfl (ocu u (ocu z oc0))) zV (bL rfl)) rfl rfl rfl (go3 ?_);refine yG (fun E S=>zQ rfl (xG (cs:=[_,_,_]) mh1 underlying26 rfl zV rfl) E S) ?_;exact⟨_,_,rfl,u,z⟩
theorem zNW{w0:World}{h0:Mem}(hs:MLe h0 (mem w0)){qa:Rat}{vna vda:Value}(hna:Us .u32 h0 vna (zB qa.num.natAbs))(hda:Us .u32 h0 vda (zB (xU qa.den))){qb:Rat}{vnb vdb:Value}(hnb:Us .u32 h0 vnb (zB qb.num.natAbs))(hdb:Us .u32 h0 vdb (zB (xU qb.den)))(hqa:lq qa≤100000000000)(hqb:lq qb≤100000000000):
 Calls Tryz.prog 15 #[.agg #[vB (qa.num<0),vna,vda],.agg #[vB (qb.num<0),vnb,vdb]] w0 (Ret w0 h0 (fun _ r=>r=vB (qa=qb))):=by
 have Z:=wF qa;have ab:=wP qa;have ad:=wC qa;have Y:=wF qb;have aa:=wP qb;have ac:=wC qb;refine cb2 26 (.agg #[vB (qa.num<0),vna,vda]) (.agg #[vB (qb.num<0),vnb,vdb]) func15 hs ?_;refine go2 ?_;refine zF (xE (cs:=[_,_,_]) rfl rfl) rfl rfl rfl ?_;intro v2 r2 S;obtain⟨X,rfl,rfl⟩:=S;refine zF (xE (cs:=[_,_,_]) rfl rfl) rfl rfl rfl ?_;intro v3 r3 O;obtain⟨U,rfl,rfl⟩:=O;refine go9 ?_;refine gv (oO underlying4 rfl rfl) rfl ?_;refine uL (ι:=Mem) 8 (fun D=>MLe h0 D) (fun _=>[(17,vB (((qa.num<0)↔(qb.num<0))∧((tD (qa.num.natAbs) (qb.num.natAbs))=(0:Int)))),(2,vP X 0),(3,vP U 0)]) (fun _=>[.var U 26 [vB (qb.num<0),vnb,vdb],.var X 26 [vB (qa.num<0),vna,vda]]) (fun D=>D) ?_ ?_
 ·
  refine yD ((qa.num<0)↔(qb.num<0)) (fun C=>?_) (fun C=>?_)
  ·
   refine gT C rfl (go9 ?_);refine cL (ev2 rfl rfl) call56 (fun w hs=>nO hs hna hnb) fun ah T G J=>?_;subst J;refine go4 ?_;refine zO T G ⟨?_,rfl,rfl,trivial⟩ rfl rfl;exact congrArg some (xN C)
  refine gF C rfl (go8 ?_);refine zO h0 (MLe.refl _) ⟨?_,rfl,rfl,trivial⟩ rfl rfl;exact congrArg some (xO C)
 intro z u;refine tJ ?_;refine uL (ι:=Mem) 8 (fun D=>MLe z D) (fun _=>[(25,vB ((((qa.num<0)↔(qb.num<0))∧((tD (qa.num.natAbs) (qb.num.natAbs))=(0:Int)))∧((tD ((xU qa.den)) ((xU qb.den)))=(0:Int))))]) (fun _=>[.var U 26 [vB (qb.num<0),vnb,vdb],.var X 26 [vB (qa.num<0),vna,vda]]) (fun D=>D) ?_ ?_
 ·
  refine yD (((qa.num<0)↔(qb.num<0))∧((tD (qa.num.natAbs) (qb.num.natAbs))=(0:Int))) (fun C=>?_) (fun C=>?_)
  ·
   refine gT C rfl (go9 ?_);replace hda:=hda.mono u;replace hdb:=hdb.mono u;refine cL (ev2 rfl rfl) call56 (fun w hs=>nO hs hda hdb) fun ae T G I=>?_;subst I;refine go4 ?_;refine zO T G ⟨?_,trivial⟩ rfl rfl;exact congrArg some (xN C)
  refine gF C rfl (go8 ?_);refine zO z (MLe.refl _) ⟨?_,trivial⟩ rfl rfl;exact congrArg some (xO C)
 intro M H;refine tJ ?_;refine go4 ?_;refine zD rfl rfl ?_;exact fL zSS
theorem s9{w0:World}{h0:Mem}(hs:MLe h0 (mem w0)){qa:Rat}{vna vda:Value}(hna:Us .u32 h0 vna (zB qa.num.natAbs))(hda:Us .u32 h0 vda (zB (xU qa.den)))(hqa:lq qa≤100000000000):
 Calls Tryz.prog 17 #[.agg #[vB (qa.num<0),vna,vda]] w0 (Ret w0 h0 (fun _ r=>r=vI (xJ qa))):=by
 have D:=wF qa;have G:=wP qa;have H:=wC qa;refine cb1 9 (.agg #[vB (qa.num<0),vna,vda]) func17 hs ?_;refine go2 ?_;refine zF (xE (cs:=[_,_,_]) rfl rfl) rfl rfl rfl ?_;intro v1 r1 C;obtain⟨I,rfl,rfl⟩:=C;refine zGU (fun z=>?_) fun z=>?_
 ·
  refine go7 ?_;refine zD rfl rfl ?_;rw[aX (pO z)]
 refine gc9 (fun u=>?_) fun u=>?_
 ·
  refine go7 ?_;refine zD rfl rfl ?_;rw[z8 u]
 refine go8 ?_;refine zD rfl rfl ?_;rw[z6 (zCZ z) u]
theorem zHM{w0:World}{h0:Mem}(hs:MLe h0 (mem w0)){qa:Rat}{vna vda:Value}(hna:Us .u32 h0 vna (zB qa.num.natAbs))(hda:Us .u32 h0 vda (zB (xU qa.den)))(hqa:lq qa≤100000000000):
 Calls Tryz.prog 31 #[.agg #[vB (qa.num<0),vna,vda]] w0 (Ret w0 h0 (fun h r=>wJ h r (-qa))):=by
 have D:=wF qa;have G:=wP qa;have H:=wC qa;refine cb1 14 (.agg #[vB (qa.num<0),vna,vda]) func31 hs ?_;refine go2 ?_;refine zF (xE (cs:=[_,_,_]) rfl rfl) rfl rfl rfl ?_;intro v1 r1 C;obtain⟨J,rfl,rfl⟩:=C;refine zF (wB (cs:=[vB ((0:Rat).num<0),.slice none 0 0,.slice none 0 0]) yP rfl (by simp only[zb];rfl)) rfl rfl rfl ?_;intro v2 r2 z;obtain⟨I,rfl,rfl⟩:=z;refine go7 ?_;refine gU 6 11 (vB ((¬(qa.num<0))∧((0:Int)<(↑(zB qa.num.natAbs).length:Int)))) ?_ ?_
 ·
  refine yD (¬(qa.num<0)) (fun u=>?_) (fun u=>?_)
  ·
   refine gT u rfl (uQ ?_);refine gqU ?_;exact congrArg some (xN u)
  refine gF u rfl (go6 ?_);refine gqU ?_;exact congrArg some (xO u)
 refine go1 ?_;refine xQ (A:=[_]) (r':=.var J 26 [vB ((¬(qa.num<0))∧((0:Int)<(↑(zB qa.num.natAbs).length:Int))),vna,vda]) (zG (k:=0) (cs:=[_,_,_]) (vs:=[_]) rfl rfl rfl rfl zPW (bL rfl)) rfl rfl rfl (go5 ?_);refine xQ (A:=[]) (r':=.var I 26 [vB ((¬(qa.num<0))∧((0:Int)<(↑(zB qa.num.natAbs).length:Int))),vna,vda]) (zG (k:=0) (cs:=[_,_,_]) (vs:=[_,_,_]) rfl rfl rfl (ocr rfl (ocu hna (ocu hda oc0))) zV (bL rfl)) rfl rfl rfl (go3 ?_);refine yG (fun E S=>zQ rfl (xG (cs:=[_,_,_]) mh0 underlying26 rfl zV rfl) E S) ?_;exact wJ.negB hna hda
theorem zQE{w0:World}{h0:Mem}(hs:MLe h0 (mem w0)){qa:Rat}{vna vda:Value}(hna:Us .u32 h0 vna (zB qa.num.natAbs))(hda:Us .u32 h0 vda (zB (xU qa.den)))(hqa:lq qa≤100000000000):
 Calls Tryz.prog 29 #[.agg #[vB (qa.num<0),vna,vda]] w0 (Ret w0 h0 (fun h r=>wJ h r (dL qa))):=by
 have C:=wF qa;have D:=wP qa;have G:=wC qa;refine cb1 5 (.agg #[vB (qa.num<0),vna,vda]) func29 hs ?_;refine go2 ?_;refine zF (xE (cs:=[_,_,_]) rfl rfl) rfl rfl rfl ?_;intro v1 r1 z;obtain⟨I,rfl,rfl⟩:=z;refine zF (wB (cs:=[vB ((0:Rat).num<0),.slice none 0 0,.slice none 0 0]) yP rfl (by simp only[zb];rfl)) rfl rfl rfl ?_;intro v2 r2 u;obtain⟨H,rfl,rfl⟩:=u;refine go5 ?_;refine xQ (A:=[_]) (r':=.var I 26 [.bool false,vna,vda]) (zG (k:=0) (cs:=[_,_,_]) (vs:=[_]) rfl rfl rfl rfl zPW (bL rfl)) rfl rfl rfl (go5 ?_);refine xQ (A:=[]) (r':=.var H 26 [.bool false,vna,vda]) (zG (k:=0) (cs:=[_,_,_]) (vs:=[_,_,_]) rfl rfl rfl (ocr rfl (ocu hna (ocu hda oc0))) zV (bL rfl)) rfl rfl rfl (go3 ?_);refine yG (fun E S=>zQ rfl (xG (cs:=[_,_,_]) mh0 underlying26 rfl zV rfl) E S) ?_;exact wJ.abs hna hda
theorem zCC{w0:World}{h0:Mem}(hs:MLe h0 (mem w0)){qa:Rat}{vna vda:Value}(hna:Us .u32 h0 vna (zB qa.num.natAbs))(hda:Us .u32 h0 vda (zB (xU qa.den))){qb:Rat}{vnb vdb:Value}(hnb:Us .u32 h0 vnb (zB qb.num.natAbs))(hdb:Us .u32 h0 vdb (zB (xU qb.den)))(hqa:lq qa≤100000000000)(hqb:lq qb≤100000000000):
 Calls Tryz.prog 37 #[.agg #[vB (qa.num<0),vna,vda],.agg #[vB (qb.num<0),vnb,vdb]] w0 (Ret w0 h0 (fun h r=>wJ h r (qa+qb))):=by
 have br:=wF qa;have bt:=wP qa;have bv:=wC qa;have bq:=wF qb;have bs:=wP qb;have bu:=wC qb;refine cb2 75 (.agg #[vB (qa.num<0),vna,vda]) (.agg #[vB (qb.num<0),vnb,vdb]) func37 hs ?_;refine go2 ?_;refine zF (xE (cs:=[_,_,_]) rfl rfl) rfl rfl rfl ?_;intro v2 r2 bi;obtain⟨b2,rfl,rfl⟩:=bi;refine zF (xE (cs:=[_,_,_]) rfl rfl) rfl rfl rfl ?_;intro v3 r3 bh;obtain⟨b3,rfl,rfl⟩:=bh;refine zF (wB (cs:=[vB ((0:Rat).num<0),.slice none 0 0,.slice none 0 0]) yP rfl (by simp only[zb];rfl)) rfl rfl rfl ?_;intro v4 r4 bg;obtain⟨b4,rfl,rfl⟩:=bg;refine zDI (fun aq=>?_) fun aq=>?_
 ·
  refine go3 ?_;refine xQ (A:=[]) (r':=.var b4 26 [vB (qb.num<0),vnb,vdb]) (zG (k:=0) (cs:=[_,_,_]) (vs:=[_,_,_]) rfl rfl rfl (ocr rfl (ocu hnb (ocu hdb oc0))) zV (bL rfl)) rfl rfl rfl (go4 ?_);refine yG (fun E S=>zQ rfl (xG (cs:=[_,_,_]) mh0 underlying26 rfl zV rfl) E S) ?_;rw[pO aq,Rat.zero_add];exact⟨_,_,rfl,hnb,hdb⟩
 refine zDI (fun ap=>?_) fun ap=>?_
 ·
  refine go3 ?_;refine xQ (A:=[]) (r':=.var b4 26 [vB (qa.num<0),vna,vda]) (zG (k:=0) (cs:=[_,_,_]) (vs:=[_,_,_]) rfl rfl rfl (ocr rfl (ocu hna (ocu hda oc0))) zV (bL rfl)) rfl rfl rfl (go4 ?_);refine yG (fun E S=>zQ rfl (xG (cs:=[_,_,_]) mh0 underlying26 rfl zV rfl) E S) ?_;rw[pO ap,Rat.add_zero];exact⟨_,_,rfl,hna,hda⟩
 refine go3 ?_;refine zK 12 _ [] [(0,.q),(1,.q),(2,.q),(5,.q),(6,.q),(7,.q),(3,.c),(4,.c),(8,.c),(9,.c),(10,.q),(11,.q)] yC nX (by kernel_rfl) nX (fun r hr=>hr) (go6 ?_);refine w_c rfl (sC (ev1 rfl) call48 (fun w hs=>tQ hs rfl hnb hdb) fun ck h1 ah ao=>?_);rw[uJ] at ao;refine w_c rfl ?_;replace hna:=hna.mono ah;refine sC (ev2 rfl rfl) call47 (fun w hs=>rX hs hna ao oM oM) fun cj h2 ae z=>?_
 try simp only[zC] at z
 have bo:=yE ((qa.num.natAbs)) ((qb.den));refine w_c rfl ?_;replace hna:=hna.mono ae;replace hda:=hda.mono (ah.trans ae);refine sC (ev1 rfl) call48 (fun w hs=>tQ hs rfl hna hda) fun ci h3 M an=>?_;rw[uJ] at an;refine w_c rfl ?_;replace hnb:=hnb.mono ((ah.trans ae).trans M);refine sC (ev2 rfl rfl) call47 (fun w hs=>rX hs hnb an oM oM) fun ch h4 J u=>?_
 try simp only[zC] at u
 have bn:=yE ((qb.num.natAbs)) ((qa.den));refine go5 ?_;refine zK 6 _ [] [(0,.q),(2,.q),(1,.c),(3,.c),(4,.c),(5,.q)] yC nX (by kernel_rfl) nX (fun r hr=>hr) (go2 ?_);refine w_c rfl ?_;replace hna:=hna.mono (M.trans J);replace hda:=hda.mono (M.trans J);refine sC (ev1 rfl) call48 (fun w hs=>tQ hs rfl hna hda) fun cg h5 I G=>?_;rw[uJ] at G;refine w_c rfl ?_;replace hnb:=hnb.mono (J.trans I);replace hdb:=hdb.mono ((((ah.trans ae).trans M).trans J).trans I);refine sC (ev1 rfl) call48 (fun w hs=>tQ hs rfl hnb hdb) fun cf h6 X am=>?_;rw[uJ] at am;refine w_c rfl ?_;replace G:=G.mono X;refine sC (ev2 rfl rfl) call47 (fun w hs=>rX hs G am oM oM) fun ce h7 ad C=>?_
 try simp only[zC] at C
 have bm:=yE ((qa.den)) ((qb.den));refine uQ ?_;refine gv (oO underlying4 rfl rfl) rfl (gc2 (fun H=>?_) fun H=>?_)
 ·
  refine go1 ?_;refine zK 7 _ [] [(0,.q),(1,.q),(2,.q),(3,.q),(5,.q),(4,.c),(6,.c),(7,.t)] yC nX (by kernel_rfl) nX (fun r hr=>hr) (go5 ?_);refine w_c rfl ?_;replace z:=z.mono ((((M.trans J).trans I).trans X).trans ad);replace u:=u.mono ((I.trans X).trans ad);refine sC (ev2 rfl rfl) call84 (fun w hs=>zUF hs z u oM oM) fun cd h8 D be=>?_;have bl:=uD ((((qa.num.natAbs))*((qb.den)))) ((((qb.num.natAbs))*((qa.den))));refine w_c rfl ?_;replace C:=C.mono D;refine sC (ev3 rfl rfl rfl) call46 (fun w hs=>sS hs be C oM oM (by first|(simp only[zC];omega)|(simp only[zC];first|exact Rat.den_nz _|exact Nat.mul_ne_zero (Rat.den_nz _) (Rat.den_nz _)|exact Nat.one_ne_zero|assumption)|assumption)) fun cc h9 ac ak=>?_
  try simp only[zC] at ak
  obtain⟨av,ay,rfl,U,aa⟩:=ak;refine kV (A:=[]) (q':=.var b4 26 [vB ((mkRat (sg (qa.num<0) (((((((qa.num.natAbs))*((qb.den))))+((((qb.num.natAbs))*((qa.den)))))))) (((((qa.den))*((qb.den)))))).num<0),av,ay]) rfl (zG (k:=0) (cs:=[_,_,_]) (vs:=[_,_,_]) rfl rfl rfl (ocr rfl (ocu U (ocu aa oc0))) zV (bL rfl)) rfl (go4 ?_);refine yG (fun E S=>zQ rfl (xG (cs:=[_,_,_]) mh0 underlying26 rfl zV rfl) E S) ?_;rw[zTH H] at U aa ⊢;exact⟨_,_,rfl,U,aa⟩
 refine go7 ?_;replace z:=z.mono ((((M.trans J).trans I).trans X).trans ad);replace u:=u.mono ((I.trans X).trans ad);refine cL (ev2 rfl rfl) call56 (fun w hs=>nO hs z u) fun cb h8 D bd=>?_;subst bd;refine gc3 (fun ab=>?_) fun ab=>?_
 ·
  refine go4 ?_;replace z:=z.mono D;replace u:=u.mono D;refine cL (ev2 rfl rfl) call85 (fun w hs=>zL7 hs u z oM) fun ca h9 ac bc=>?_;obtain⟨cm,rfl,ba⟩:=bc;have bk:=zN (Nat.sub_le ((((qb.num.natAbs))*((qa.den)))) ((((qa.num.natAbs))*((qb.den)))));refine sL ?_;replace C:=C.mono (D.trans ac);refine cL (ev3 rfl rfl rfl) call46 (fun w hs=>sS hs ba C oM oM (by first|(simp only[zC];omega)|(simp only[zC];first|exact Rat.den_nz _|exact Nat.mul_ne_zero (Rat.den_nz _) (Rat.den_nz _)|exact Nat.one_ne_zero|assumption)|assumption)) fun bz bp bf aj=>?_
  try simp only[zC] at aj
  obtain⟨au,ax,rfl,T,Z⟩:=aj;refine xQ (A:=[]) (r':=.var b4 26 [vB ((mkRat (sg (qb.num<0) (((((((qb.num.natAbs))*((qa.den))))-((((qa.num.natAbs))*((qb.den)))))))) (((((qa.den))*((qb.den)))))).num<0),au,ax]) (zG (k:=0) (cs:=[_,_,_]) (vs:=[_,_,_]) rfl rfl rfl (ocr rfl (ocu T (ocu Z oc0))) zV (bL rfl)) rfl rfl rfl (go4 ?_);refine yG (fun E S=>zQ rfl (xG (cs:=[_,_,_]) mh0 underlying26 rfl zV rfl) E S) ?_;rw[zZ5 H (by have:=gG.1 ab;omega)] at T Z ⊢;exact⟨_,_,rfl,T,Z⟩
 refine go6 ?_;replace z:=z.mono D;replace u:=u.mono D;refine cL (ev2 rfl rfl) call85 (fun w hs=>zL7 hs z u oM) fun bx h9 ac bb=>?_;obtain⟨cl,rfl,az⟩:=bb;have bj:=zN (Nat.sub_le ((((qa.num.natAbs))*((qb.den)))) ((((qb.num.natAbs))*((qa.den)))));refine sL ?_;replace C:=C.mono (D.trans ac);refine cL (ev3 rfl rfl rfl) call46 (fun w hs=>sS hs az C oM oM (by first|(simp only[zC];omega)|(simp only[zC];first|exact Rat.den_nz _|exact Nat.mul_ne_zero (Rat.den_nz _) (Rat.den_nz _)|exact Nat.one_ne_zero|assumption)|assumption)) fun bw bp bf ai=>?_
 try simp only[zC] at ai
 obtain⟨ar,aw,rfl,O,Y⟩:=ai;refine xQ (A:=[]) (r':=.var b4 26 [vB ((mkRat (sg (qa.num<0) (((((((qa.num.natAbs))*((qb.den))))-((((qb.num.natAbs))*((qa.den)))))))) (((((qa.den))*((qb.den)))))).num<0),ar,aw]) (zG (k:=0) (cs:=[_,_,_]) (vs:=[_,_,_]) rfl rfl rfl (ocr rfl (ocu O (ocu Y oc0))) zV (bL rfl)) rfl rfl rfl (go3 ?_);refine yG (fun E S=>zQ rfl (xG (cs:=[_,_,_]) mh0 underlying26 rfl zV rfl) E S) ?_;rw[zZ6 H (Nat.le_of_not_lt (fun h=>ab (gG.2 h)))] at O Y ⊢;exact⟨_,_,rfl,O,Y⟩
theorem zP9{w0:World}{h0:Mem}(hs:MLe h0 (mem w0)){qa:Rat}{vna vda:Value}(hna:Us .u32 h0 vna (zB qa.num.natAbs))(hda:Us .u32 h0 vda (zB (xU qa.den))){qb:Rat}{vnb vdb:Value}(hnb:Us .u32 h0 vnb (zB qb.num.natAbs))(hdb:Us .u32 h0 vdb (zB (xU qb.den)))(hqa:lq qa≤100000000000)(hqb:lq qb≤100000000000):
 Calls Tryz.prog 16 #[.agg #[vB (qa.num<0),vna,vda],.agg #[vB (qb.num<0),vnb,vdb]] w0 (Ret w0 h0 (fun h r=>wJ h r (qa-qb))):=by
 have aa:=wF qa;have ac:=wP qa;have ae:=wC qa;have Z:=wF qb;have ab:=wP qb;have ad:=wC qb;refine cb2 9 (.agg #[vB (qa.num<0),vna,vda]) (.agg #[vB (qb.num<0),vnb,vdb]) func16 hs ?_;refine go2 ?_;refine zF (xE (cs:=[_,_,_]) rfl rfl) rfl rfl rfl ?_;intro v2 r2 O;obtain⟨b2,rfl,rfl⟩:=O;refine zF (xE (cs:=[_,_,_]) rfl rfl) rfl rfl rfl ?_;intro v3 r3 M;obtain⟨b3,rfl,rfl⟩:=M;refine zF (wB (cs:=[vB ((0:Rat).num<0),.slice none 0 0,.slice none 0 0]) yP rfl (by simp only[zb];rfl)) rfl rfl rfl ?_;intro v4 r4 J;obtain⟨b4,rfl,rfl⟩:=J;refine go3 ?_;refine zK 4 _ [] [(0,.q),(1,.q),(2,.c),(3,.c),(4,.t)] yC nX (by kernel_rfl) nX (fun r hr=>hr) (go2 ?_);refine w_c rfl (sC (ev1 rfl) call31 (fun w hs=>zHM hs hnb hdb oM) fun v7 h1 C I=>?_);obtain⟨ah,ai,rfl,T,U⟩:=I;have Y:=zLD qb;refine w_c rfl ?_;replace hna:=hna.mono C;replace hda:=hda.mono C;refine sC (ev2 rfl rfl) call37 (fun w hs=>zCC hs hna hda T U oM oM) fun v8 h2 aj H=>?_;obtain⟨D,G,rfl,u,z⟩:=H;have X:=jA qa (-qb);refine kV (A:=[]) (q':=.var b4 26 [vB ((qa+(-qb)).num<0),D,G]) rfl (zG (k:=0) (cs:=[_,_,_]) (vs:=[_,_,_]) rfl rfl rfl (ocr rfl (ocu u (ocu z oc0))) zV (bL rfl)) rfl (go3 ?_);refine yG (fun E S=>zQ rfl (xG (cs:=[_,_,_]) mh0 underlying26 rfl zV rfl) E S) ?_;rw[←Rat.sub_eq_add_neg] at u z ⊢;exact⟨_,_,rfl,u,z⟩
theorem zHN{w0:World}{h0:Mem}(hs:MLe h0 (mem w0)){qa:Rat}{vna vda:Value}(hna:Us .u32 h0 vna (zB qa.num.natAbs))(hda:Us .u32 h0 vda (zB (xU qa.den))){qb:Rat}{vnb vdb:Value}(hnb:Us .u32 h0 vnb (zB qb.num.natAbs))(hdb:Us .u32 h0 vdb (zB (xU qb.den)))(hqa:lq qa≤100000000000)(hqb:lq qb≤100000000000):
 Calls Tryz.prog 9 #[.agg #[vB (qa.num<0),vna,vda],.agg #[vB (qb.num<0),vnb,vdb]] w0 (Ret w0 h0 (fun h r=>wJ h r (qa*qb))):=by
 have ae:=wF qa;have ai:=wP qa;have ak:=wC qa;have ad:=wF qb;have ah:=wP qb;have aj:=wC qb;refine cb2 21 (.agg #[vB (qa.num<0),vna,vda]) (.agg #[vB (qb.num<0),vnb,vdb]) func9 hs ?_;refine go2 ?_;refine zF (xE (cs:=[_,_,_]) rfl rfl) rfl rfl rfl ?_;intro v2 r2 Z;obtain⟨b2,rfl,rfl⟩:=Z;refine zF (xE (cs:=[_,_,_]) rfl rfl) rfl rfl rfl ?_;intro v3 r3 Y;obtain⟨b3,rfl,rfl⟩:=Y;refine zF (wB (cs:=[vB ((0:Rat).num<0),.slice none 0 0,.slice none 0 0]) yP rfl (by simp only[zb];rfl)) rfl rfl rfl ?_;intro v4 r4 X;obtain⟨b4,rfl,rfl⟩:=X;refine go3 ?_;refine zK 16 _ [] [(0,.q),(1,.q),(2,.q),(3,.q),(4,.q),(5,.q),(6,.q),(7,.q),(8,.q),(10,.q),(12,.q),(9,.c),(11,.c),(13,.c),(14,.c),(15,.c),(16,.t)] yC nX (by kernel_rfl) nX (fun r hr=>hr) (go4 ?_);refine xK rfl (fun _ _=>fV underlying4 rfl rfl) rfl (go6 ?_);refine w_c rfl (sC (ev2 rfl rfl) call47 (fun w hs=>rX hs hna hnb oM oM) fun aq h1 G z=>?_)
 try simp only[zC] at z
 have ab:=yE ((qa.num.natAbs)) ((qb.num.natAbs));refine w_c rfl ?_;replace hna:=hna.mono G;replace hda:=hda.mono G;refine sC (ev1 rfl) call48 (fun w hs=>tQ hs rfl hna hda) fun ap h2 M u=>?_;rw[uJ] at u;refine w_c rfl ?_;replace hnb:=hnb.mono (G.trans M);replace hdb:=hdb.mono (G.trans M);refine sC (ev1 rfl) call48 (fun w hs=>tQ hs rfl hnb hdb) fun ao h3 U J=>?_;rw[uJ] at J;refine w_c rfl ?_;replace u:=u.mono U;refine sC (ev2 rfl rfl) call47 (fun w hs=>rX hs u J oM oM) fun an h4 ac I=>?_
 try simp only[zC] at I
 have aa:=yE ((qa.den)) ((qb.den));refine w_c rfl ?_;replace z:=z.mono ((M.trans U).trans ac);refine sC (ev3 rfl rfl rfl) call46 (fun w hs=>sS hs z I oM oM (by first|(simp only[zC];omega)|(simp only[zC];first|exact Rat.den_nz _|exact Nat.mul_ne_zero (Rat.den_nz _) (Rat.den_nz _)|exact Nat.one_ne_zero|assumption)|assumption)) fun am h5 ar H=>?_
 try simp only[zC] at H
 obtain⟨O,T,rfl,C,D⟩:=H;refine kV (A:=[]) (q':=.var b4 26 [vB ((mkRat (sg (¬((qa.num<0)↔(qb.num<0))) (((((qa.num.natAbs))*((qb.num.natAbs)))))) (((((qa.den))*((qb.den)))))).num<0),O,T]) rfl (zG (k:=0) (cs:=[_,_,_]) (vs:=[_,_,_]) rfl rfl rfl (ocr rfl (ocu C (ocu D oc0))) zV (bL rfl)) rfl (go3 ?_);refine yG (fun E S=>zQ rfl (xG (cs:=[_,_,_]) mh0 underlying26 rfl zV rfl) E S) ?_;rw[zRN] at C D ⊢;exact⟨_,_,rfl,C,D⟩
theorem zQA{w0:World}{h0:Mem}(hs:MLe h0 (mem w0)){qa:Rat}{vna vda:Value}(hna:Us .u32 h0 vna (zB qa.num.natAbs))(hda:Us .u32 h0 vda (zB (xU qa.den))){qb:Rat}{vnb vdb:Value}(hnb:Us .u32 h0 vnb (zB qb.num.natAbs))(hdb:Us .u32 h0 vdb (zB (xU qb.den)))(hqa:lq qa≤100000000000)(hqb:lq qb≤100000000000):
 Calls Tryz.prog 112 #[.agg #[vB (qa.num<0),vna,vda],.agg #[vB (qb.num<0),vnb,vdb]] w0 (Ret w0 h0 (fun h r=>∃u,r=.tuple #[u,vI (if qb=0 then 3 else 0)]∧wJ h u (if qb=0 then 0 else qa/qb))):=by
 have ak:=wF qa;have an:=wP qa;have ap:=wC qa;have aj:=wF qb;have am:=wP qb;have ao:=wC qb;refine cb2 27 (.agg #[vB (qa.num<0),vna,vda]) (.agg #[vB (qb.num<0),vnb,vdb]) func112 hs ?_;refine go2 ?_;refine zF (xE (cs:=[_,_,_]) rfl rfl) rfl rfl rfl ?_;intro v2 r2 ac;obtain⟨b2,rfl,rfl⟩:=ac;refine zF (xE (cs:=[_,_,_]) rfl rfl) rfl rfl rfl ?_;intro v3 r3 ab;obtain⟨b3,rfl,rfl⟩:=ab;refine zF (wB (cs:=[vB ((0:Rat).num<0),.slice none 0 0,.slice none 0 0]) yP rfl (by simp only[zb];rfl)) rfl rfl rfl ?_;intro v4 r4 aa;obtain⟨b4,rfl,rfl⟩:=aa;refine zGU (fun G=>?_) fun G=>?_
 ·
  refine go2 ?_;refine gv (yQ (ps':=[]) (vs:=[vB ((0:Rat).num<0),.slice none 0 0,.slice none 0 0]) underlying26 yP rfl (vD underlying26) trivial (by simp only[zb];exact vY)) rfl (xQ (A:=[]) (r':=.var b4 26 [vB ((0:Rat).num<0),.slice none 0 0,.slice none 0 0]) (zG (k:=0) (cs:=[_,_,_]) (vs:=[_,_,_]) rfl rfl rfl rfl zV (bL rfl)) rfl rfl rfl (go5 ?_));refine yG (fun E S=>vV rfl (xG (cs:=[_,_,_]) mh0 underlying26 rfl zV rfl) (jQ rfl) E S) ?_;rw[if_pos (pO G),if_pos (pO G)];exact⟨_,rfl,wJ.zero _⟩
 have H:=zCZ G;have ai:=zC0.2 H;have ay:qa.den*qb.num.natAbs≠0:=Nat.mul_ne_zero qa.den_nz ai;refine go3 ?_;refine zK 16 _ [] [(0,.q),(1,.q),(2,.q),(3,.q),(4,.q),(5,.q),(6,.q),(7,.q),(10,.q),(12,.q),(13,.q),(8,.c),(9,.c),(11,.c),(14,.c),(15,.c),(16,.t),(17,.t)] yC nX (by kernel_rfl) nX (fun r hr=>hr) (go4 ?_);refine xK rfl (fun _ _=>fV underlying4 rfl rfl) rfl (go6 ?_);refine w_c rfl (sC (ev1 rfl) call48 (fun w hs=>tQ hs rfl hnb hdb) fun aw h1 U O=>?_);rw[uJ] at O;refine w_c rfl ?_;replace hna:=hna.mono U;refine sC (ev2 rfl rfl) call47 (fun w hs=>rX hs hna O oM oM) fun av h2 T z=>?_
 try simp only[zC] at z
 have ae:=yE ((qa.num.natAbs)) ((qb.den));refine w_c rfl ?_;replace hna:=hna.mono T;replace hda:=hda.mono (U.trans T);refine sC (ev1 rfl) call48 (fun w hs=>tQ hs rfl hna hda) fun au h3 Z M=>?_;rw[uJ] at M;refine w_c rfl ?_;replace hnb:=hnb.mono ((U.trans T).trans Z);refine sC (ev2 rfl rfl) call47 (fun w hs=>rX hs M hnb oM oM) fun ar h4 ah J=>?_
 try simp only[zC] at J
 have ad:=yE ((qa.den)) ((qb.num.natAbs));refine w_c rfl ?_;replace z:=z.mono (Z.trans ah);refine sC (ev3 rfl rfl rfl) call46 (fun w hs=>sS hs z J oM oM (by first|(simp only[zC];omega)|(simp only[zC];first|exact Rat.den_nz _|exact Nat.mul_ne_zero (Rat.den_nz _) (Rat.den_nz _)|exact Nat.one_ne_zero|assumption)|assumption)) fun aq h5 ax I=>?_
 try simp only[zC] at I
 obtain⟨X,Y,rfl,C,D⟩:=I;refine kV (A:=[]) (q':=.var b4 26 [vB ((mkRat (sg (¬((qa.num<0)↔(qb.num<0))) (((((qa.num.natAbs))*((qb.den)))))) (((((qa.den))*((qb.num.natAbs)))))).num<0),X,Y]) rfl (zG (k:=0) (cs:=[_,_,_]) (vs:=[_,_,_]) rfl rfl rfl (ocr rfl (ocu C (ocu D oc0))) zV (bL rfl)) rfl (dP rfl (tH (v:=vI (0)) rfl) rfl (go3 ?_));refine yG (fun E S=>vV rfl (xG (cs:=[_,_,_]) mh0 underlying26 rfl zV rfl) (jQ rfl) E S) ?_;rw[if_neg H,if_neg H];rw[zQQ _ H] at C D ⊢;exact⟨_,rfl,_,_,rfl,C,D⟩
theorem zQD{w0:World}{h0:Mem}(hs:MLe h0 (mem w0)){qa:Rat}{vna vda:Value}(hna:Us .u32 h0 vna (zB qa.num.natAbs))(hda:Us .u32 h0 vda (zB (xU qa.den))){qb:Rat}{vnb vdb:Value}(hnb:Us .u32 h0 vnb (zB qb.num.natAbs))(hdb:Us .u32 h0 vdb (zB (xU qb.den)))(hqa:lq qa≤100000000000)(hqb:lq qb≤100000000000):
 Calls Tryz.prog 18 #[.agg #[vB (qa.num<0),vna,vda],.agg #[vB (qb.num<0),vnb,vdb]] w0 (Ret w0 h0 (fun _ r=>r=vI (wH qa qb))):=by
 have ak:=wF qa;have an:=wP qa;have ap:=wC qa;have aj:=wF qb;have am:=wP qb;have ao:=wC qb;have az:-1≤tD (qa.num.natAbs*qb.den) (qb.num.natAbs*qa.den)∧tD (qa.num.natAbs*qb.den) (qb.num.natAbs*qa.den)≤1:=zJD qa qb;refine cb2 34 (.agg #[vB (qa.num<0),vna,vda]) (.agg #[vB (qb.num<0),vnb,vdb]) func18 hs ?_;refine go2 ?_;refine zF (xE (cs:=[_,_,_]) rfl rfl) rfl rfl rfl ?_;intro v2 r2 ac;obtain⟨b2,rfl,rfl⟩:=ac;refine zF (xE (cs:=[_,_,_]) rfl rfl) rfl rfl rfl ?_;intro v3 r3 ab;obtain⟨b3,rfl,rfl⟩:=ab;refine go5 ?_;refine zK 6 _ [] [(0,.q),(2,.q),(1,.c),(3,.c),(4,.q),(5,.q)] yC nX (by kernel_rfl) nX (fun r hr=>hr) (go2 ?_);refine w_c rfl (sC (ev1 rfl) call17 (fun w hs=>s9 hs hna hda oM) fun v9 h1 H aa=>?_);have ai:=wI qa;subst aa;refine w_c rfl ?_;replace hnb:=hnb.mono H;replace hdb:=hdb.mono H;refine sC (ev1 rfl) call17 (fun w hs=>s9 hs hnb hdb oM) fun ax h2 G X=>?_;have Z:=wI qb;subst X;refine zDI (fun z=>?_) fun z=>?_
 ·
  refine gc8 (fun D=>?_) fun D=>?_
  ·
   refine go8 ?_;refine zD rfl rfl ?_;rw[g8 z,if_pos D]
  refine go9 ?_;refine zD rfl rfl ?_;rw[g8 z,if_neg D]
 have T:=zHF z;refine go3 ?_;refine zK 12 _ [] [(0,.q),(1,.q),(2,.q),(5,.q),(6,.q),(7,.q),(3,.c),(4,.c),(8,.c),(9,.c),(10,.c),(11,.q)] yC nX (by kernel_rfl) nX (fun r hr=>hr) (go6 ?_);refine w_c rfl ?_;replace hnb:=hnb.mono G;replace hdb:=hdb.mono G;refine sC (ev1 rfl) call48 (fun w hs=>tQ hs rfl hnb hdb) fun aw h3 S M=>?_;rw[uJ] at M;refine w_c rfl ?_;replace hna:=hna.mono ((H.trans G).trans S);refine sC (ev2 rfl rfl) call47 (fun w hs=>rX hs hna M oM oM) fun av h4 O u=>?_
 try simp only[zC] at u
 have ae:=yE ((qa.num.natAbs)) ((qb.den));refine w_c rfl ?_;replace hna:=hna.mono O;replace hda:=hda.mono (((H.trans G).trans S).trans O);refine sC (ev1 rfl) call48 (fun w hs=>tQ hs rfl hna hda) fun au h5 Y J=>?_;rw[uJ] at J;refine w_c rfl ?_;replace hnb:=hnb.mono ((S.trans O).trans Y);refine sC (ev2 rfl rfl) call47 (fun w hs=>rX hs hnb J oM oM) fun ar h6 ah I=>?_
 try simp only[zC] at I
 have ad:=yE ((qb.num.natAbs)) ((qa.den));refine w_c rfl ?_;replace u:=u.mono (Y.trans ah);refine sC (ev2 rfl rfl) call56 (fun w hs=>nO hs u I) fun aq h7 ay U=>?_;subst U;refine zAS (fun C=>?_) fun C=>?_
 ·
  refine go3 ?_;refine gv (lL rfl oM oM) rfl (go5 ?_);refine zD rfl rfl ?_;rw[zM7 T C];rfl
 refine go9 ?_;refine zD rfl rfl ?_;rw[zI8 T C];rfl
theorem zQB{w0:World}{h0:Mem}(hs:MLe h0 (mem w0)){qa:Rat}{vna vda:Value}(hna:Us .u32 h0 vna (zB qa.num.natAbs))(hda:Us .u32 h0 vda (zB (xU qa.den))){qb:Rat}{vnb vdb:Value}(hnb:Us .u32 h0 vnb (zB qb.num.natAbs))(hdb:Us .u32 h0 vdb (zB (xU qb.den)))(hqa:lq qa≤10000000000)(hqb:lq qb≤10000000000):
 Calls Tryz.prog 38 #[.agg #[vB (qa.num<0),vna,vda],.agg #[vB (qb.num<0),vnb,vdb]] w0 (Ret w0 h0 (fun h r=>wJ h r (iZ qa qb))):=by
 have ae:=wF qa;have ai:=wP qa;have ak:=wC qa;have ad:=wF qb;have ah:=wP qb;have aj:=wC qb;refine cb2 10 (.agg #[vB (qa.num<0),vna,vda]) (.agg #[vB (qb.num<0),vnb,vdb]) func38 hs ?_;refine go2 ?_;refine zF (xE (cs:=[_,_,_]) rfl rfl) rfl rfl rfl ?_;intro v2 r2 X;obtain⟨b2,rfl,rfl⟩:=X;refine zF (xE (cs:=[_,_,_]) rfl rfl) rfl rfl rfl ?_;intro v3 r3 U;obtain⟨b3,rfl,rfl⟩:=U;refine zF (wB (cs:=[vB ((0:Rat).num<0),.slice none 0 0,.slice none 0 0]) yP rfl (by simp only[zb];rfl)) rfl rfl rfl ?_;intro v4 r4 T;obtain⟨b4,rfl,rfl⟩:=T;refine go6 ?_;refine cL (ev2 rfl rfl) call37 (fun w hs=>zCC hs hna hda hnb hdb oM oM) fun v7 h1 ar O=>?_;obtain⟨an,ap,rfl,z,D⟩:=O;have ac:=jA qa qb;refine cL (vs:=[vI (1),vI (2)]) e2z call10 (fun w hs=>zEP hs oM oM oM oM) fun v8 h2 G M=>?_;have ab:=zBY (n:=(1:Int)) (d:=(2:Int)) oM oM oM oM;obtain⟨am,ao,rfl,Y,Z⟩:=M;replace z:=z.mono G;replace D:=D.mono G;refine cL (ev2 rfl rfl) call9 (fun w hs=>zHN hs z D Y Z oM oM) fun v9 h3 aq J=>?_;obtain⟨H,I,rfl,u,C⟩:=J;have aa:=fZ (qa+qb) (jD (1:Int) (2:Int));refine xQ (A:=[]) (r':=.var b4 26 [vB (((qa+qb)*(jD (1:Int) (2:Int))).num<0),H,I]) (zG (k:=0) (cs:=[_,_,_]) (vs:=[_,_,_]) rfl rfl rfl (ocr rfl (ocu u (ocu C oc0))) zV (bL rfl)) rfl rfl rfl (go3 ?_);refine yG (fun E S=>zQ rfl (xG (cs:=[_,_,_]) mh0 underlying26 rfl zV rfl) E S) ?_;rw[zFA] at u C ⊢;exact⟨_,_,rfl,u,C⟩
end Go.Proofs.YtboaboflnckgoaaGreat
namespace Go.Proofs.YtboaboflnckgoaaGreat
open Bk Go Tryz
set_option linter.unusedVariables false
set_option linter.unusedSimpArgs false
set_option maxRecDepth 10000
set_option maxHeartbeats 1000000
attribute [local irreducible] GL GC GQ W OpV
theorem zNV{w0:World}{h0:Mem}(hs:MLe h0 (mem w0)){qa:Rat}{vna vda:Value}(hna:Us .u32 h0 vna (zB qa.num.natAbs))(hda:Us .u32 h0 vda (zB (xU qa.den)))(hqa:lq qa≤100000000000):
 Calls Tryz.prog 173 #[.agg #[vB (qa.num<0),vna,vda]] w0 (Ret w0 h0 (fun _ r=>r=.string (uT (jF qa)))):=by
 have S:=wF qa;have T:=wP qa;have U:=wC qa;refine cb1 22 (.agg #[vB (qa.num<0),vna,vda]) func173 hs ?_;refine go2 ?_;refine zF (xE (cs:=[_,_,_]) rfl rfl) rfl rfl rfl ?_;intro v1 r1 J;obtain⟨b1,rfl,rfl⟩:=J;refine go7 ?_;refine cL (ev1 rfl) call197 (fun w hs=>zCH hs hna oM) fun Y Z G I=>?_;subst I;have O:=dR ((qa.num.natAbs));refine zAS (fun C=>?_) fun C=>?_
 ·
  refine go2 ?_;refine gv (vH (pa:=([45]:List Nat)) (pb:=(txt ((qa.num.natAbs)))) rfl rfl (by first|omega|(simp only[lAz,lC,lN,List.length_drop,List.length_take];omega))) rfl ?_;replace hda:=hda.mono G;refine zGU (fun u=>?_) fun u=>?_
  ·
   refine go4 ?_;refine cL (ev1 rfl) call197 (fun w hs=>zCH hs hda oM) fun H X M z=>?_;subst z;have D:=dR (((xU qa.den)));refine gv (vH (pa:=([47]:List Nat)) (pb:=(txt (((xU qa.den))))) rfl rfl (by first|omega|(simp only[lAz,lC,lN,List.length_drop,List.length_take];omega))) rfl (gv (vH (pa:=(([45]:List Nat)++(txt ((qa.num.natAbs))))) (pb:=(([47]:List Nat)++(txt (((xU qa.den)))))) rfl rfl (by first|omega|(simp only[lAz,lC,lN,List.length_drop,List.length_take];omega))) rfl (uQ ?_));refine zD rfl rfl ?_;rw[←zXF C u]
  refine go9 ?_;refine zD rfl rfl ?_;rw[←zTQ C u]
 replace hda:=hda.mono G;refine zDI (fun u=>?_) fun u=>?_
 ·
  refine go4 ?_;refine cL (ev1 rfl) call197 (fun w hs=>zCH hs hda oM) fun H X M z=>?_;subst z;have D:=dR (((xU qa.den)));refine gv (vH (pa:=([47]:List Nat)) (pb:=(txt (((xU qa.den))))) rfl rfl (by first|omega|(simp only[lAz,lC,lN,List.length_drop,List.length_take];omega))) rfl (gv (vH (pa:=(txt ((qa.num.natAbs)))) (pb:=(([47]:List Nat)++(txt (((xU qa.den)))))) rfl rfl (by first|omega|(simp only[lAz,lC,lN,List.length_drop,List.length_take];omega))) rfl (uQ ?_));refine zD rfl rfl ?_;rw[←zTR C u]
 refine go9 ?_;refine zD rfl rfl ?_;rw[←zTS C u]
end Go.Proofs.YtboaboflnckgoaaGreat
namespace Go.Proofs.YtboaboflnckgoaaGreat
open Bk Go Tryz
set_option linter.unusedVariables false
set_option linter.unusedSimpArgs false
set_option maxRecDepth 10000
set_option maxHeartbeats 1000000
attribute [local irreducible] GL GC GQ W OpV
theorem zTW{w0:World}{h0:Mem}(hs:MLe h0 (mem w0)){qa:Rat}{vna vda:Value}(hna:Us .u32 h0 vna (zB qa.num.natAbs))(hda:Us .u32 h0 vda (zB (xU qa.den))){qb:Rat}{vnb vdb:Value}(hnb:Us .u32 h0 vnb (zB qb.num.natAbs))(hdb:Us .u32 h0 vdb (zB (xU qb.den)))(hqa:lq qa≤100000000000)(hqb:lq qb≤100000000000):
 Calls Tryz.prog 102 #[.agg #[vB (qa.num<0),vna,vda],.agg #[vB (qb.num<0),vnb,vdb]] w0 (Ret w0 h0 (fun h r=>zG3 h r [bZ qa qb,sJ qa qb])):=by
 have ac:=tK;refine cb2 12 (.agg #[vB (qa.num<0),vna,vda]) (.agg #[vB (qb.num<0),vnb,vdb]) func102 hs ?_;refine go2 ?_;refine zF (xE (cs:=[_,_,_]) rfl rfl) rfl rfl rfl ?_;intro v2 r2 aa;obtain⟨b2,rfl,rfl⟩:=aa;refine zF (xE (cs:=[_,_,_]) rfl rfl) rfl rfl rfl ?_;intro v3 r3 Z;obtain⟨b3,rfl,rfl⟩:=Z;refine zF (wB (cs:=[vB ((0:Rat).num<0),.slice none 0 0,.slice none 0 0,vB ((0:Rat).num<0),.slice none 0 0,.slice none 0 0]) gC rfl (by simp only[zb];rfl)) rfl rfl rfl ?_;intro v4 r4 Y;obtain⟨b4,rfl,rfl⟩:=Y;refine go3 ?_;refine zK 7 _ [] [(0,.q),(1,.q),(3,.q),(4,.q),(2,.c),(5,.c),(6,.q),(7,.t)] yC nX (by kernel_rfl) nX (fun r hr=>hr) (go4 ?_);refine w_c rfl (sC (ev2 rfl rfl) call148 (fun w hs=>zUK hs hna hda hnb hdb oM oM) fun v7 h1 z X=>?_);obtain⟨M,O,rfl,u,D⟩:=X;have ad:=zR1 qa qb;refine w_c rfl ?_;replace hna:=hna.mono z;replace hda:=hda.mono z;replace hnb:=hnb.mono z;replace hdb:=hdb.mono z;refine sC (ev2 rfl rfl) call149 (fun w hs=>zUL hs hna hda hnb hdb oM oM) fun ae h2 U T=>?_;obtain⟨G,H,rfl,I,J⟩:=T;have ab:=zR2 qa qb;refine xK rfl (fun _ _=>yQ (ps':=[(0,_),(1,_)]) (vs:=[vB ((bZ qa qb).num<0),M,O,vB ((sJ qa qb).num<0),G,H]) underlying34 gC rfl (lG underlying34) e4z (yY (A:=[]) (B:=[_,_,_]) (C:=[_,_,_]) (cs:=[_,_,_]) (off:=0) (size:=3) rfl rfl rfl rfl rfl (yY (A:=[_,_,_]) (B:=[_,_,_]) (C:=[]) (cs:=[_,_,_]) (off:=3) (size:=3) rfl rfl rfl rfl rfl vY))) rfl ?_;replace u:=u.mono U;replace D:=D.mono U;refine kV (A:=[]) (q':=.var b4 34 [vB ((bZ qa qb).num<0),M,O,vB ((sJ qa qb).num<0),G,H]) rfl (zG (k:=0) (cs:=[_,_,_,_,_,_]) (vs:=[_,_,_,_,_,_]) rfl rfl rfl (ocr rfl (ocu u (ocu D (ocr rfl (ocu I (ocu J oc0)))))) iP (bL rfl)) rfl (go3 ?_);refine yG (fun E S=>zQ rfl (xG (cs:=[_,_,_,_,_,_]) mh0 underlying34 rfl iP rfl) E S) ?_;exact⟨_,rfl,_,_,_,rfl,u,D,_,_,_,rfl,I,J,rfl⟩
theorem zJW{w0:World}{h0:Mem}(hs:MLe h0 (mem w0)){qa:Rat}{vna vda:Value}(hna:Us .u32 h0 vna (zB qa.num.natAbs))(hda:Us .u32 h0 vda (zB (xU qa.den)))(hqa:lq qa≤100000000000):
 Calls Tryz.prog 53 #[.agg #[vB (qa.num<0),vna,vda]] w0 (Ret w0 h0 (fun h r=>zG3 h r [qa,qa])):=by
 have Y:=tK;refine cb1 6 (.agg #[vB (qa.num<0),vna,vda]) func53 hs ?_;refine go2 ?_;refine zF (xE (cs:=[_,_,_]) rfl rfl) rfl rfl rfl ?_;intro v1 r1 X;obtain⟨b1,rfl,rfl⟩:=X;refine zF (wB (cs:=[vB ((0:Rat).num<0),.slice none 0 0,.slice none 0 0,vB ((0:Rat).num<0),.slice none 0 0,.slice none 0 0]) gC rfl (by simp only[zb];rfl)) rfl rfl rfl ?_;intro v2 r2 U;obtain⟨b2,rfl,rfl⟩:=U;refine go6 ?_;refine cL (ev2 rfl rfl) call102 (fun w hs=>zTW hs hna hda hna hda oM oM) fun v5 h1 Z T=>?_;have O:=zR1 qa qa;have M:=zR2 qa qa;obtain⟨_,rfl,H,J,_,rfl,z,D,G,I,_,rfl,u,C,rfl⟩:=T;refine xQ (A:=[]) (r':=.var b2 34 [vB ((bZ qa qa).num<0),H,J,vB ((sJ qa qa).num<0),G,I]) (zG (k:=0) (cs:=[_,_,_,_,_,_]) (vs:=[_,_,_,_,_,_]) rfl rfl rfl (ocr rfl (ocu z (ocu D (ocr rfl (ocu u (ocu C oc0)))))) iP (bL rfl)) rfl rfl rfl (go3 ?_);refine yG (fun E S=>zQ rfl (xG (cs:=[_,_,_,_,_,_]) mh0 underlying34 rfl iP rfl) E S) ?_;rw[zE5] at z D;rw[zE6] at u C;rw[zE5,zE6];exact⟨_,rfl,_,_,_,rfl,z,D,_,_,_,rfl,u,C,rfl⟩
theorem zPU{w0:World}{h0:Mem}(hs:MLe h0 (mem w0)){qa0:Rat}{vna0 vda0:Value}(hna0:Us .u32 h0 vna0 (zB qa0.num.natAbs))(hda0:Us .u32 h0 vda0 (zB (xU qa0.den))){qa1:Rat}{vna1 vda1:Value}(hna1:Us .u32 h0 vna1 (zB qa1.num.natAbs))(hda1:Us .u32 h0 vda1 (zB (xU qa1.den))){qb0:Rat}{vnb0 vdb0:Value}(hnb0:Us .u32 h0 vnb0 (zB qb0.num.natAbs))(hdb0:Us .u32 h0 vdb0 (zB (xU qb0.den))){qb1:Rat}{vnb1 vdb1:Value}(hnb1:Us .u32 h0 vnb1 (zB qb1.num.natAbs))(hdb1:Us .u32 h0 vdb1 (zB (xU qb1.den)))(hqa0:lq qa0≤100000000000)(hqa1:lq qa1≤100000000000)(hqb0:lq qb0≤100000000000)(hqb1:lq qb1≤100000000000):
 Calls Tryz.prog 89 #[.agg #[vB (qa0.num<0),vna0,vda0,vB (qa1.num<0),vna1,vda1],.agg #[vB (qb0.num<0),vnb0,vdb0,vB (qb1.num<0),vnb1,vdb1]] w0 (Ret w0 h0 (fun h r=>zG3 h r [qa0+qb0,qa1+qb1])):=by
 have ac:=tK;refine cb2 16 (.agg #[vB (qa0.num<0),vna0,vda0,vB (qa1.num<0),vna1,vda1]) (.agg #[vB (qb0.num<0),vnb0,vdb0,vB (qb1.num<0),vnb1,vdb1]) func89 hs ?_;refine go2 ?_;refine zF (xE (cs:=[_,_,_,_,_,_]) rfl rfl) rfl rfl rfl ?_;intro v2 r2 aa;obtain⟨b2,rfl,rfl⟩:=aa;refine zF (xE (cs:=[_,_,_,_,_,_]) rfl rfl) rfl rfl rfl ?_;intro v3 r3 Z;obtain⟨b3,rfl,rfl⟩:=Z;refine zF (wB (cs:=[vB ((0:Rat).num<0),.slice none 0 0,.slice none 0 0,vB ((0:Rat).num<0),.slice none 0 0,.slice none 0 0]) gC rfl (by simp only[zb];rfl)) rfl rfl rfl ?_;intro v4 r4 Y;obtain⟨b4,rfl,rfl⟩:=Y;refine go3 ?_;refine zK 11 _ [] [(0,.q),(1,.q),(2,.q),(3,.q),(5,.q),(6,.q),(7,.q),(8,.q),(4,.c),(9,.c),(10,.q),(11,.t)] yC nX (by kernel_rfl) nX (fun r hr=>hr) (go8 ?_);refine w_c rfl (sC (ev2 rfl rfl) call70 (fun w hs=>zFZ hs hna0 hda0 hnb0 hdb0 oM oM) fun v9 h1 z X=>?_);obtain⟨M,O,rfl,u,D⟩:=X;have ad:=jA qa0 qb0;refine w_c rfl ?_;replace hna1:=hna1.mono z;replace hda1:=hda1.mono z;replace hnb1:=hnb1.mono z;replace hdb1:=hdb1.mono z;refine sC (ev2 rfl rfl) call70 (fun w hs=>zFZ hs hna1 hda1 hnb1 hdb1 oM oM) fun ae h2 U T=>?_;obtain⟨G,H,rfl,I,J⟩:=T;have ab:=jA qa1 qb1;refine xK rfl (fun _ _=>yQ (ps':=[(0,_),(1,_)]) (vs:=[vB ((qa0+qb0).num<0),M,O,vB ((qa1+qb1).num<0),G,H]) underlying34 gC rfl (lG underlying34) e4z (yY (A:=[]) (B:=[_,_,_]) (C:=[_,_,_]) (cs:=[_,_,_]) (off:=0) (size:=3) rfl rfl rfl rfl rfl (yY (A:=[_,_,_]) (B:=[_,_,_]) (C:=[]) (cs:=[_,_,_]) (off:=3) (size:=3) rfl rfl rfl rfl rfl vY))) rfl ?_;replace u:=u.mono U;replace D:=D.mono U;refine kV (A:=[]) (q':=.var b4 34 [vB ((qa0+qb0).num<0),M,O,vB ((qa1+qb1).num<0),G,H]) rfl (zG (k:=0) (cs:=[_,_,_,_,_,_]) (vs:=[_,_,_,_,_,_]) rfl rfl rfl (ocr rfl (ocu u (ocu D (ocr rfl (ocu I (ocu J oc0)))))) iP (bL rfl)) rfl (go3 ?_);refine yG (fun E S=>zQ rfl (xG (cs:=[_,_,_,_,_,_]) mh0 underlying34 rfl iP rfl) E S) ?_;exact⟨_,rfl,_,_,_,rfl,u,D,_,_,_,rfl,I,J,rfl⟩
end Go.Proofs.YtboaboflnckgoaaGreat
namespace Go.Proofs.YtboaboflnckgoaaGreat
open Bk Go Tryz
set_option linter.unusedVariables false
set_option linter.unusedSimpArgs false
set_option maxRecDepth 10000
set_option maxHeartbeats 1000000
attribute [local irreducible] GL GC GQ W OpV
theorem fJ{w0:World}{h0:Mem}(hs:MLe h0 (mem w0)){k l:Nat}{va:Value}{a:Rat}(ra:(rpQ k).Is h0 va a){vb:Value}{b:Rat}(rb:(rpQ l).Is h0 vb b)(hcd0:k+l≤10000000000):
 Calls Tryz.prog 70 #[va,vb] w0 (Ret w0 h0 (fun h r=>(rpQ (k+l+1)).Is h r (a+b))):=by
 obtain⟨H,J,rfl,z,D,O⟩:=qG ra;obtain⟨G,I,rfl,u,C,M⟩:=qG rb;exact(zFZ hs z D u C oM oM).mono (kE fun h r x=>mU x (by have:=jA a b;omega))
theorem cX{w0:World}{h0:Mem}(hs:MLe h0 (mem w0)){k l:Nat}{va:Value}{a:Rat}(ra:(rpQ k).Is h0 va a){vb:Value}{b:Rat}(rb:(rpQ l).Is h0 vb b)(hcd0:k+l≤10000000000):
 Calls Tryz.prog 179 #[va,vb] w0 (Ret w0 h0 (fun h r=>(rpQ (k+l+1)).Is h r (a-b))):=by
 obtain⟨H,J,rfl,z,D,O⟩:=qG ra;obtain⟨G,I,rfl,u,C,M⟩:=qG rb;exact(zUH hs z D u C oM oM).mono (kE fun h r x=>mU x (by have:=zAL a b;omega))
theorem qS{w0:World}{h0:Mem}(hs:MLe h0 (mem w0)){k l:Nat}{va:Value}{a:Rat}(ra:(rpQ k).Is h0 va a){vb:Value}{b:Rat}(rb:(rpQ l).Is h0 vb b)(hcd0:k+l≤10000000000):
 Calls Tryz.prog 76 #[va,vb] w0 (Ret w0 h0 (fun h r=>(rpQ (k+l)).Is h r (a*b))):=by
 obtain⟨H,J,rfl,z,D,O⟩:=qG ra;obtain⟨G,I,rfl,u,C,M⟩:=qG rb;exact(zUJ hs z D u C oM oM).mono (kE fun h r x=>mU x (by have:=fZ a b;omega))
theorem iW{w0:World}{h0:Mem}(hs:MLe h0 (mem w0)){k:Nat}{va:Value}{a:Rat}(ra:(rpQ k).Is h0 va a)(hcd0:k≤10000000000):
 Calls Tryz.prog 51 #[va] w0 (Ret w0 h0 (fun _ r=>r=vI (xJ a))):=by
 obtain⟨C,D,rfl,u,z,G⟩:=qG ra;exact y9 hs u z oM
theorem zEW{w0:World}{h0:Mem}(hs:MLe h0 (mem w0)){k l:Nat}{va:Value}{a:Rat}(ra:(rpQ k).Is h0 va a){vb:Value}{b:Rat}(rb:(rpQ l).Is h0 vb b)(hcd0:k+l≤10000000000):
 Calls Tryz.prog 74 #[va,vb] w0 (Ret w0 h0 (fun h r=>∃u0,r=.tuple #[u0,vI (if b=0 then 3 else 0)]∧(rpQ (k+l)).Is h u0 (if b=0 then 0 else a/b))):=by
 obtain⟨I,M,rfl,C,G,S⟩:=qG ra;obtain⟨H,J,rfl,z,D,O⟩:=qG rb;exact(zUI hs C G z D oM oM).mono (kE fun h r x=>by obtain⟨u,e,y⟩:=x;exact⟨u,e,mU y (by have:=zMR a b;omega)⟩)
theorem kC{w0:World}{h0:Mem}(hs:MLe h0 (mem w0)){k l:Nat}{va:Value}{a:Rat}(ra:(rpQ k).Is h0 va a){vb:Value}{b:Rat}(rb:(rpQ l).Is h0 vb b)(hcd0:k+l≤10000000000):
 Calls Tryz.prog 37 #[va,vb] w0 (Ret w0 h0 (fun h r=>(rpQ (k+l+1)).Is h r (a+b))):=by
 obtain⟨H,J,rfl,z,D,O⟩:=qG ra;obtain⟨G,I,rfl,u,C,M⟩:=qG rb;exact(zCC hs z D u C oM oM).mono (kE fun h r x=>mU x (by have:=jA a b;omega))
theorem bM{w0:World}{h0:Mem}(hs:MLe h0 (mem w0)){k l:Nat}{va:Value}{a:Rat}(ra:(rpQ k).Is h0 va a){vb:Value}{b:Rat}(rb:(rpQ l).Is h0 vb b)(hcd0:k+l≤10000000000):
 Calls Tryz.prog 16 #[va,vb] w0 (Ret w0 h0 (fun h r=>(rpQ (k+l+1)).Is h r (a-b))):=by
 obtain⟨H,J,rfl,z,D,O⟩:=qG ra;obtain⟨G,I,rfl,u,C,M⟩:=qG rb;exact(zP9 hs z D u C oM oM).mono (kE fun h r x=>mU x (by have:=zAL a b;omega))
theorem wO{w0:World}{h0:Mem}(hs:MLe h0 (mem w0)){k l:Nat}{va:Value}{a:Rat}(ra:(rpQ k).Is h0 va a){vb:Value}{b:Rat}(rb:(rpQ l).Is h0 vb b)(hcd0:k+l≤10000000000):
 Calls Tryz.prog 9 #[va,vb] w0 (Ret w0 h0 (fun h r=>(rpQ (k+l)).Is h r (a*b))):=by
 obtain⟨H,J,rfl,z,D,O⟩:=qG ra;obtain⟨G,I,rfl,u,C,M⟩:=qG rb;exact(zHN hs z D u C oM oM).mono (kE fun h r x=>mU x (by have:=fZ a b;omega))
theorem iV{w0:World}{h0:Mem}(hs:MLe h0 (mem w0)){k l:Nat}{va:Value}{a:Rat}(ra:(rpQ k).Is h0 va a){vb:Value}{b:Rat}(rb:(rpQ l).Is h0 vb b)(hcd0:k+l≤10000000000):
 Calls Tryz.prog 38 #[va,vb] w0 (Ret w0 h0 (fun h r=>(rpQ (k+l+2)).Is h r (iZ a b))):=by
 obtain⟨H,J,rfl,z,D,O⟩:=qG ra;obtain⟨G,I,rfl,u,C,M⟩:=qG rb;exact(zQB hs z D u C oM oM).mono (kE fun h r x=>mU x (by have:=zYY a b;omega))
theorem kB{w0:World}{h0:Mem}(hs:MLe h0 (mem w0)){k l:Nat}{va:Value}{a:Rat}(ra:(rpQ k).Is h0 va a){vb:Value}{b:Rat}(rb:(rpQ l).Is h0 vb b)(hcd0:k+l≤10000000000):
 Calls Tryz.prog 18 #[va,vb] w0 (Ret w0 h0 (fun _ r=>r=vI (wH a b))):=by
 obtain⟨H,J,rfl,z,D,O⟩:=qG ra;obtain⟨G,I,rfl,u,C,M⟩:=qG rb;exact zQD hs z D u C oM oM
theorem qM{w0:World}{h0:Mem}(hs:MLe h0 (mem w0)){k:Nat}{va:Value}{a:Rat}(ra:(rpQ k).Is h0 va a)(hcd0:k≤10000000000):
 Calls Tryz.prog 17 #[va] w0 (Ret w0 h0 (fun _ r=>r=vI (xJ a))):=by
 obtain⟨C,D,rfl,u,z,G⟩:=qG ra;exact s9 hs u z oM
theorem vO{w0:World}{h0:Mem}(hs:MLe h0 (mem w0)){k l:Nat}{va:Value}{a:Rat}(ra:(rpQ k).Is h0 va a){vb:Value}{b:Rat}(rb:(rpQ l).Is h0 vb b)(hcd0:k+l≤10000000000):
 Calls Tryz.prog 15 #[va,vb] w0 (Ret w0 h0 (fun _ r=>r=vB (a=b))):=by
 obtain⟨H,J,rfl,z,D,O⟩:=qG ra;obtain⟨G,I,rfl,u,C,M⟩:=qG rb;exact zNW hs z D u C oM oM
theorem zKQ{w0:World}{h0:Mem}(hs:MLe h0 (mem w0)){k l:Nat}{va:Value}{a:Rat}(ra:(rpQ k).Is h0 va a){vb:Value}{b:Rat}(rb:(rpQ l).Is h0 vb b)(hcd0:k+l≤10000000000):
 Calls Tryz.prog 112 #[va,vb] w0 (Ret w0 h0 (fun h r=>∃u0,r=.tuple #[u0,vI (if b=0 then 3 else 0)]∧(rpQ (k+l)).Is h u0 (if b=0 then 0 else a/b))):=by
 obtain⟨I,M,rfl,C,G,S⟩:=qG ra;obtain⟨H,J,rfl,z,D,O⟩:=qG rb;exact(zQA hs C G z D oM oM).mono (kE fun h r x=>by obtain⟨u,e,y⟩:=x;exact⟨u,e,mU y (by have:=zMR a b;omega)⟩)
theorem iU{w0:World}{h0:Mem}(hs:MLe h0 (mem w0)){k:Nat}{va:Value}{a:Rat}(ra:(rpQ k).Is h0 va a)(hcd0:k≤10000000000):
 Calls Tryz.prog 31 #[va] w0 (Ret w0 h0 (fun h r=>(rpQ k).Is h r (-a))):=by
 obtain⟨C,D,rfl,u,z,G⟩:=qG ra;exact(zHM hs u z oM).mono (kE fun h r x=>mU x (by have:=zLD a;omega))
theorem zKR{w0:World}{h0:Mem}(hs:MLe h0 (mem w0)){k:Nat}{va:Value}{a:Rat}(ra:(rpQ k).Is h0 va a)(hcd0:k≤10000000000):
 Calls Tryz.prog 29 #[va] w0 (Ret w0 h0 (fun h r=>(rpQ k).Is h r (dL a))):=by
 obtain⟨C,D,rfl,u,z,G⟩:=qG ra;exact(zQE hs u z oM).mono (kE fun h r x=>mU x (by have:=zY0 a;omega))
theorem jS{w0:World}{h0:Mem}(hs:MLe h0 (mem w0)){n:Int}(hn1:-9223372036854775808≤n)(hn2:n<9223372036854775808):
 Calls Tryz.prog 39 #[vI n] w0 (Ret w0 h0 (fun h r=>(rpQ 2).Is h r ((n:Int):Rat))):=by
 exact(zQC hs hn1 hn2).mono (kE fun h r x=>mU x (by exact zAM n hn1 hn2))
theorem eN{w0:World}{h0:Mem}(hs:MLe h0 (mem w0)){n:Int}(hn1:-9223372036854775808≤n)(hn2:n<9223372036854775808):
 Calls Tryz.prog 75 #[vI n] w0 (Ret w0 h0 (fun h r=>(rpQ 2).Is h r ((n:Int):Rat))):=by
 exact(zUM hs hn1 hn2).mono (kE fun h r x=>mU x (by exact zAM n hn1 hn2))
theorem pM{w0:World}{h0:Mem}(hs:MLe h0 (mem w0)){n:Int}(hn1:-9223372036854775808≤n)(hn2:n<9223372036854775808){d:Int}(hd1:-9223372036854775808≤d)(hd2:d<9223372036854775808):
 Calls Tryz.prog 10 #[vI n,vI d] w0 (Ret w0 h0 (fun h r=>(rpQ 2).Is h r (jD n d))):=by
 exact(zEP hs hn1 hn2 hd1 hd2).mono (kE fun h r x=>mU x (by exact zBY hn1 hn2 hd1 hd2))
end Go.Proofs.YtboaboflnckgoaaGreat
namespace Go.Proofs.YtboaboflnckgoaaGreat
open Bk Go Tryz
set_option linter.unusedVariables false
set_option linter.unusedSimpArgs false
set_option maxRecDepth 10000
set_option maxHeartbeats 1000000
attribute [local irreducible] GL GC GQ W OpV
theorem zEK{w0:World}{h0:Mem}(hs:MLe h0 (mem w0)){v:Value}{X:Nat}(hv:Us .u32 h0 v (zB X))(hl:(zB X).length≤1000):
 Calls Tryz.prog 97 #[v] w0 (Ret w0 h0 (fun h r=>Us .u32 h r (zB (sqN X)))):=by
 have bm:=j0;have bo:=zDT X;have aq:=zNR hl;refine cb1 42 v func97 hs ?_;refine go9 ?_;refine cL (ev1 rfl) call94 (fun w hs=>pP hs hv oM) fun bi h1 ba S=>?_
 try simp only[zC] at S
 subst S;refine gc3 (fun H=>?_) fun H=>?_
 ·
  refine go7 ?_;refine zD rfl rfl ?_;rw[zQH H];exact Us.nil _ _
 have hX:X≠0:=fun e=>H (by rw[e,zDU];rfl);refine go4 ?_;refine zF (kQ (kd:=.u32) (p:=1) underlying22 wL rfl rfl rfl) rfl rfl rfl ?_;intro bh bk ab;obtain rfl:=ab;refine yI (by intro z hz;simp only[List.mem_singleton] at hz;subst hz;decide) ?_;intro h2 az C;rw[rV] at C;refine go1 ?_;replace hv:=hv.mono (ba.trans az);refine cL (ev1 rfl) call94 (fun w hs=>pP hs hv oM) fun bg h3 ak O=>?_
 try simp only[zC] at O
 subst O;refine go1 ?_;refine gv (lJ (q:=2) rfl rfl oM oM oM) rfl ?_;replace C:=C.mono ak;refine cL (ev2 rfl rfl) call95 (fun w hs=>lV hs C oM oM oM) fun bf h4 ay aa=>?_;obtain⟨ao,rfl,D⟩:=aa
 try simp only[zC] at D
 rw[zHE hl] at D;refine go8 ?_;refine jP (ι:=Nat×Value×Mem) (fun(x,U,m)=>MLe h4 m∧(Us .u32 m U (zB x)∧sqN X≤x∧0<x∧(zB x).length≤1001)) (fun(x,U,m)=>[(0,v),(3,U)]) (fun(x,U,m)=>[]) (fun(x,U,m)=>m) (fun(x,U,m)=>x) ((2^((xZ X+1)/2)),ao,h4) ?_ e2z rfl rfl ?_
 ·
  refine⟨MLe.refl _,?_⟩;exact⟨D,zGG X,Nat.pow_pos oM,aq⟩
 rintro⟨x,U,m⟩ ⟨ac,I,ae,hi2,ax⟩
 refine yU ?_;refine go5 ?_;replace hv:=hv.mono ((ak.trans ay).trans ac);refine cL (ev2 rfl rfl) call147 (fun w hs=>eP hs hv I oM oM) fun be h5 aj G=>?_;obtain⟨bl,bj,rfl,T,G⟩:=G
 try simp only[zC] at T G ⊢
 have aw:=zN (Nat.div_le_self ((X)) ((x)));refine sL ?_;replace I:=I.mono aj;refine cL (ev2 rfl rfl) call100 (fun w hs=>aF hs I T oM oM) fun bd h6 ai M=>?_
 try simp only[zC] at M
 have av:=uD ((x)) (((((X))/((x)))));have bn:=zN (Nat.div_le_self X x);have bp:=uD x (X/x);refine cL (vs:=[_,vI (-1)]) e2z call95 (fun w hs=>lV hs M oM oM oM) fun bc h7 ah Z=>?_;obtain⟨an,rfl,u⟩:=Z
 try simp only[zC] at u
 rw[zJY] at u;refine qO ?_;replace I:=I.mono (ai.trans ah);refine cL (ev2 rfl rfl) call98 (fun w hs=>eQ hs u I) fun bb h8 Y J=>?_
 try simp only[zC] at J
 subst J;refine gc3 (fun am=>?_) fun am=>?_
 ·
  have ap:=zIF hi2 ae (by have:=gG (m:=(x+X/x)/2) (n:=x);omega);refine qT ?_;refine zD rfl rfl ?_;replace I:=I.mono Y;rw[←ap];exact I
 refine go7 ?_;have ad:=gG.1 (show tD ((x+X/x)/2) x<0 by omega);have au:=zN (Nat.le_of_lt ad);have ar:=zOK (n:=X) hi2;refine qN (((x+X/x)/2),an,h8) ?_ ?_ e2z rfl rfl
 ·
  refine⟨((((ac.trans aj).trans ai).trans ah).trans Y),?_⟩;replace u:=u.mono Y;refine⟨u,ar,?_,Nat.le_trans au ax⟩;refine Nat.pos_of_ne_zero fun e=>?_;have:=zIE hi2 ae e;omega
 dsimp only;exact ad
theorem zA6{w0:World}{h0:Mem}(hs:MLe h0 (mem w0)){q:Rat}{vn vd:Value}(hn:Us .u32 h0 vn (zB q.num.natAbs))(hd:Us .u32 h0 vd (zB (xU q.den))){K:Nat}(hK:K≤4096)(hl:lq q≤500):
 Calls Tryz.prog 96 #[.agg #[vB (q.num<0),vn,vd],vI ↑K] w0 (Ret w0 h0 (fun h r=>∃u,r=.tuple #[u,vB (zC5 q K)]∧Us .u32 h u (zB (flN q K)))):=by
 obtain⟨am,ak,aj⟩:=iQ hl hK;have ap:=wF q;have aq:=wC q;have an:=zQJ (q.num.natAbs*2^K*2^K) q.den;have ao:=zN (Nat.div_le_self (q.num.natAbs*2^K*2^K) (xU q.den));refine cb2 38 (.agg #[vB (q.num<0),vn,vd]) (vI ↑K) func96 hs ?_;refine go2 ?_;refine zF (xE (cs:=[_,_,_]) rfl rfl) rfl rfl rfl ?_;intro v2 r2 ad;obtain⟨b2,rfl,rfl⟩:=ad;refine zSA ?_;refine tX (go2 ?_);refine gv (OpV.tr dC (yN (q:=2) rfl rfl)) rfl (qT ?_);refine cL (ev2 rfl rfl) call95 (fun w hs=>lV hs hn oM oM oM) fun Y h1 ai O=>?_;obtain⟨aa,rfl,H⟩:=O
 try simp only[zC] at H
 rw[zFX _ _ hK] at H;refine go8 ?_;refine gv ((yA (q:=1) rfl rfl oM oM).cv (show _=vI (1) from rfl)) rfl (go2 ?_);refine wT (go2 ?_);refine gv (OpV.tr dC (yN (q:=2) rfl rfl)) rfl (qT ?_);refine cL (ev2 rfl rfl) call95 (fun w hs=>lV hs H oM oM oM) fun X h2 ah M=>?_;obtain⟨Z,rfl,D⟩:=M
 try simp only[zC] at D
 rw[zFX _ _ hK] at D;refine go8 ?_;refine gv ((yA (q:=1) rfl rfl oM oM).cv (show _=vI (2) from rfl)) rfl (go2 ?_);refine wT (go2 ?_);refine gv (OpV.fa dC (yN (q:=2) rfl rfl)) rfl ?_;replace hd:=hd.mono (ai.trans ah);refine zSA ?_;refine cnd (fun J=>?_) fun J=>?_
 ·
  refine go9 ?_;refine vS rfl rfl rfl ?_;have e:=(mF q.den_nz).1 (zDB.1 J);rw[yV (fun h=>h (by rw[e,Nat.mod_one])),show flN q K=q.num.natAbs*2^K*2^K by unfold flN;rw[e,Nat.div_one]];exact⟨_,rfl,D⟩
 refine go7 ?_;refine cL (ev2 rfl rfl) call147 (fun w hs=>eP hs D hd oM oM) fun U h3 ar G=>?_;obtain⟨ac,ab,rfl,C,G⟩:=G
 try simp only[zC] at C G ⊢
 have S:=zN (Nat.div_le_self ((((((((q.num.natAbs))*2^K)))*2^K))) (((xU q.den))));refine sL ?_;refine cL (ev1 rfl) call94 (fun w hs=>pP hs G oM) fun T h4 ae I=>?_
 try simp only[zC] at I
 subst I;refine go6 ?_;refine vS rfl rfl rfl ?_;replace C:=C.mono ae;have e:xU q.den=q.den:=cS (fun h=>J (by rw[h,pV,yS];rfl));rw[show xU q.den=q.den from e] at C;refine⟨_,congrArg (fun z=>Value.tuple #[_,z]) (fL ?_),C⟩;rw[e,if_neg q.den_nz];unfold zC5;have:=kT (n:=q.num.natAbs*2^K*2^K%q.den);omega
theorem zJV{w0:World}{h0:Mem}(hs:MLe h0 (mem w0)){k:Nat}{vs:Value}{s:(Rat×Rat)}(rs:(rpP (rpQ k) (rpQ k)).Is h0 vs s){n:Int}(hn1:-9223372036854775808≤n)(hn2:n<9223372036854775808)(hcd0:k≤500):
 Calls Tryz.prog 52 #[vs,vI n] w0 (Ret w0 h0 (fun h r=>∃u0,r=.tuple #[u0,vI (rtE s.2)]∧(rpP (rpQ (k+140)) (rpQ (k+140))).Is h u0 (zJ5 s.1 s.2 n,oE s.2 n))):=by
 have fg:=j0;have aw:kN n≤4096:=by unfold kN;omega
 have fh:=zF4 aw;obtain⟨bg,bf⟩:=zTX rs;obtain⟨dz,dy⟩:=zYZ bg n;obtain⟨eb,ea⟩:=zR3 bf n;obtain⟨dx,dw,dv⟩:=iQ bg aw;obtain⟨du,dt,dr⟩:=iQ bf aw;have fe:=zN (zB9 (flN s.2 (kN n)));have ff:=zN (zB9 (flN s.1 (kN n)));refine cb2 83 vs (vI n) func52 hs ?_;refine go2 ?_;refine nB rs fun b2 bs J=>(nA (ρ:=(rpP (rpQ (k+140)) (rpQ (k+140)))) (X:=((0:Rat),(0:Rat))) gC (yL (yH oM) (yH oM)) fun b4 br Z=>(go7 ?_));refine lX (xB yB (Pc.snd pH) J) fun ez de=>(cL (ev1 rfl) call51 (fun w hs=>iW hs de oM) fun ct h1 ax dd=>?_);obtain rfl:ct=vI (xJ s.2):=dd;have dh:=wI s.2;refine gc3 (fun am=>?_) fun am=>?_
 ·
  have H:=qC.1 am;refine go2 ?_;refine lX (xV (ρ:=(rpP (rpQ 1) (rpQ 1))) (wD (ps':=[]) underlying34 gC rfl rfl (lG underlying34) trivial rfl (yL (yH dC) (yH dC)) zY)) fun ey dc=>?_;replace Z:=Z.mono ax;refine zS (A:=[]) (uB sizeOf34 pH Z (dc.le (Le.p (Le.q (l:=k+140) oM) (Le.q (l:=k+140) oM)))) fun ee bv=>(go5 ?_);refine wM (kA (t:=4) zG7 mh0 rfl bv) ?_;intro eh bm bu;refine yG (fun E S=>vV rfl bm (jQ rfl) E S) ?_;refine⟨_,?_,(Rp.Is.cast bu (by unfold zJ5 oE;rw[if_pos H,if_pos H]))⟩;unfold rtE;rw[if_pos H]
 have H:¬s.2<0:=fun e=>am (qC.2 e);refine go5 ?_;refine gv (zHY (q:=0) rfl rfl) rfl (gv (zQ0 (q:=4096) rfl rfl) rfl ?_);rw[show min (max n 0) 4096=(↑(kN n):Int) by unfold kN;omega];refine go5 ?_;refine zF (kQ (kd:=.u32) (p:=1) underlying22 wL rfl rfl rfl) rfl rfl rfl ?_;intro ew fd ch;obtain rfl:=ch;refine yI (by intro z hz;simp only[List.mem_singleton] at hz;subst hz;decide) ?_;intro h2 bq ae;rw[rV] at ae;refine go1 ?_;refine cL (ev2 rfl rfl) call95 (fun w hs=>lV hs ae oM oM oM) fun ev h3 bp cg=>?_;obtain⟨ac,rfl,D⟩:=cg
 try simp only[zC] at D
 rw[zFX _ _ aw,Nat.one_mul] at D;refine qO ?_;refine qI (ι:=Value×Mem) (fun(v8,m1)=>MLe h3 m1∧(Us .u32 m1 v8 (zB (loN s.1 (kN n))))) (fun(v8,m1)=>[(1,vI ↑(kN n)),(2,vP b2 0),(4,vP b4 0),(6,ac),(8,v8)]) (fun(v8,m1)=>[.var b4 34 br,.var b2 34 bs]) (fun(v8,m1)=>m1) ?_ ?_
 ·
  refine go3 ?_;replace J:=J.mono ((ax.trans bq).trans bp);refine lX (xB yB (Pc.fst pH) J) fun eu db=>(cL (ev1 rfl) call51 (fun w hs=>iW hs db oM) fun cq h4 O da=>?_);obtain rfl:cq=vI (xJ s.1):=da;have df:=wI s.1;refine gc3 (fun ak=>?_) fun ak=>?_
  ·
   refine go3 ?_;replace J:=J.mono O;refine lX (xB yB (Pc.fst pH) J) fun et cz=>(go1 ?_);obtain⟨cl,cn,ar,av,az,cj⟩:=qG cz;subst ar;refine cL (ev2 rfl rfl) call96 (fun w hs=>zA6 hs av az oM oM) fun es h5 ab cf=>?_;obtain⟨fb,rfl,bz⟩:=cf;refine go9 ?_;refine cL (ev1 rfl) call97 (fun w hs=>zEK hs bz oM) fun cp h6 I ce=>(go2 ?_);refine zO (cp,h6) ?_ e5 rfl rfl;refine⟨((O.trans ab).trans I),?_⟩;have e:loN s.1 (kN n)=sqN (flN s.1 (kN n)):=if_pos ak;rw[e];exact ce
  refine go1 ?_;refine zO ((.slice none 0 0),h4) ?_ e5 rfl rfl;refine⟨O,?_⟩;have e:loN s.1 (kN n)=0:=if_neg ak;rw[e,yS];exact Us.nil _ _
 rintro⟨v8,m1⟩ ⟨ai,ap⟩
 refine yU ?_;refine go3 ?_;replace J:=J.mono (((ax.trans bq).trans bp).trans ai);refine lX (xB yB (Pc.snd pH) J) fun er cy=>(go1 ?_);obtain⟨ck,cm,aq,au,ay,ci⟩:=qG cy;subst aq;refine cL (ev2 rfl rfl) call96 (fun w hs=>zA6 hs au ay oM oM) fun eq h4 O cd=>?_;obtain⟨fa,rfl,U⟩:=cd;refine uQ ?_;refine cL (ev1 rfl) call97 (fun w hs=>zEK hs U oM) fun bt h5 ab G=>(go3 ?_);refine qI (ι:=Value×Mem) (fun(M,m2)=>MLe h5 m2∧(Us .u32 m2 M (zB (hiN s.2 (kN n))))) (fun(M,m2)=>[(4,vP b4 0),(6,ac),(8,v8),(13,M)]) (fun(M,m2)=>[.var b4 34 br,.var b2 34 bs]) (fun(M,m2)=>m2) ?_ ?_
 ·
  refine go3 ?_;refine uL (ι:=Mem) 8 (fun m_=>MLe h5 m_) (fun _=>[(62,vB ((zC5 s.2 (kN n))∨((tD ((((((sqN ((flN s.2 (kN n))))))*(((sqN ((flN s.2 (kN n))))))))) (((flN s.2 (kN n)))))<(0:Int)))),(4,vP b4 0),(6,ac),(8,v8),(13,bt)]) (fun _=>[.var b4 34 br,.var b2 34 bs]) (fun m_=>m_) ?_ ?_
  ·
   refine yD (zC5 s.2 (kN n)) (fun hg=>?_) (fun hg=>?_)
   ·
    refine gT hg rfl (go8 ?_);refine zO h5 (MLe.refl _) ⟨?_,rfl,rfl,rfl,rfl,trivial⟩ rfl rfl;exact congrArg some (vZ hg)
   refine gF hg rfl (go5 ?_);refine cL (ev2 rfl rfl) call99 (fun w hs=>fN hs G G oM oM) fun ep h6 I bc=>?_
   try simp only[zC] at bc
   have dj:=yE (((sqN ((flN s.2 (kN n)))))) (((sqN ((flN s.2 (kN n))))));refine go3 ?_;replace U:=U.mono (ab.trans I);refine cL (ev2 rfl rfl) call98 (fun w hs=>eQ hs bc U) fun eo h7 aa bb=>?_
   try simp only[zC] at bb
   subst bb;refine go4 ?_;refine zO h7 (I.trans aa) ⟨?_,rfl,rfl,rfl,rfl,trivial⟩ rfl rfl;exact congrArg some (uA hg)
  intro an u;refine tJ ?_;refine gc2 (fun aj=>?_) fun aj=>?_
  ·
   refine go2 ?_;refine zF (kQ (kd:=.u32) (p:=1) underlying22 wL rfl rfl rfl) rfl rfl rfl ?_;intro en fc cc;obtain rfl:=cc;refine yI (by intro z hz;simp only[List.mem_singleton] at hz;subst hz;decide) ?_;intro h6 I Y;rw[rV] at Y;replace G:=G.mono (u.trans I);refine cL (ev2 rfl rfl) call100 (fun w hs=>aF hs G Y oM oM) fun co h7 aa ba=>?_
   try simp only[zC] at ba
   have di:=uD (((sqN ((flN s.2 (kN n)))))) ((1));refine go2 ?_;refine zO (co,h7) ?_ e4z rfl rfl;refine⟨((u.trans I).trans aa),?_⟩;have e:hiN s.2 (kN n)=sqN (flN s.2 (kN n))+1:=if_pos aj;rw[e];exact ba
  refine go1 ?_;refine zO (bt,an) ?_ e4z rfl rfl;refine⟨u,?_⟩;replace G:=G.mono u;have e:hiN s.2 (kN n)=sqN (flN s.2 (kN n)):=if_neg aj;rw[e];exact G
 rintro⟨M,m2⟩ ⟨ah,T⟩
 refine yU ?_;refine go4 ?_;replace D:=D.mono (((ai.trans O).trans ab).trans ah);replace ap:=ap.mono ((O.trans ab).trans ah);refine gv (yQ (ps':=[(1,_),(2,_)]) (vs:=[.bool false,v8,ac]) underlying26 yP rfl (vD underlying26) e4z (yY (A:=[_]) (B:=[_]) (C:=[_]) (cs:=[_]) (off:=1) (size:=1) rfl rfl rfl rfl ap.cells (yY (A:=[_,_]) (B:=[_]) (C:=[]) (cs:=[_]) (off:=2) (size:=1) rfl rfl rfl rfl D.cells vY))) rfl (cL (ev1 rfl) call101 (fun w hs=>zHP hs (yV (p:=False) id).symm ap D oM oM) fun em h6 I cb=>?_);obtain⟨_,rfl,dn,dq,rfl,be,bi⟩:=cb;have bo:=zMT (False) (zB (loN s.1 (kN n))) (zB (2^kN n));rw[zMJ] at be bi bo ⊢;refine go3 ?_;refine nA (ρ:=(rpQ (k+140))) (X:=(0:Rat)) yP (yH oM) fun fj eg bx=>(zS (A:=[]) (uB sizeOf26 pH bx (mU ⟨_,_,rfl,be,bi⟩ oM)) fun ed ad=>(go7 ?_));replace D:=D.mono I;replace T:=T.mono I;refine gv (yQ (ps':=[(1,_),(2,_)]) (vs:=[.bool false,M,ac]) underlying26 yP rfl (vD underlying26) e4z (yY (A:=[_]) (B:=[_]) (C:=[_]) (cs:=[_]) (off:=1) (size:=1) rfl rfl rfl rfl T.cells (yY (A:=[_,_]) (B:=[_]) (C:=[]) (cs:=[_]) (off:=2) (size:=1) rfl rfl rfl rfl D.cells vY))) rfl (cL (ev1 rfl) call101 (fun w hs=>zHP hs (yV (p:=False) id).symm T D oM oM) fun el h7 aa ca=>?_);obtain⟨_,rfl,dm,dp,rfl,bd,bh⟩:=ca;have bn:=zMT (False) (zB (hiN s.2 (kN n))) (zB (2^kN n));rw[zMJ] at bd bh bn ⊢;refine go3 ?_;refine nA (ρ:=(rpQ (k+140))) (X:=(0:Rat)) yP (yH oM) fun fi ef bw=>(zS (A:=[]) (uB sizeOf26 pH bw (mU ⟨_,_,rfl,bd,bh⟩ oM)) fun ec bl=>(go5 ?_));replace ad:=ad.mono aa;refine lX (xB yB pH ad) fun ek cw=>(lX (xB yB pH bl) fun ej cv=>(lX (xV (ρ:=(rpP (rpQ (k+140)) (rpQ (k+140)))) (wD (ps':=[(0,_),(1,_)]) underlying34 gC rfl rfl (lG underlying34) e4z rfl (yL (yH oM) (yH oM)) (zI rfl (Pc.fst (Pc.here _)) cw (zI rfl (Pc.snd (Pc.here _)) cv zY)))) fun ei cu=>?_));replace Z:=Z.mono ((((((((ax.trans bq).trans bp).trans ai).trans O).trans ab).trans ah).trans I).trans aa);refine zS (A:=[_,_]) (uB sizeOf34 pH Z cu) fun dk bk=>(go4 ?_);refine wM (kA (t:=4) zG7 mh2 rfl bk) ?_;intro dl ao bj;refine yG (fun E S=>vV rfl ao (jQ rfl) E S) ?_;refine⟨_,?_,(Rp.Is.cast bj (by unfold zJ5;rw[if_neg H,←yBF,zWO H]))⟩;unfold rtE;rw[if_neg H]
end Go.Proofs.YtboaboflnckgoaaGreat
namespace Go.Proofs.YtboaboflnckgoaaGreat
open Bk Go Tryz
set_option linter.unusedVariables false
set_option linter.unusedSimpArgs false
set_option maxRecDepth 10000
set_option maxHeartbeats 1000000
attribute [local irreducible] GL GC GQ W OpV
theorem zGC{w0:World}{h0:Mem}(hs:MLe h0 (mem w0)){k:Nat}{va:Value}{a:Rat}(ra:(rpQ k).Is h0 va a)(hcd0:k≤4000000000):
 Calls Tryz.prog 53 #[va] w0 (Ret w0 h0 (fun h r=>(rpP (rpQ k) (rpQ k)).Is h r (a,a))):=by
 obtain⟨C,D,rfl,u,z,G⟩:=qG ra;exact(zJW hs u z oM).mono (kE fun h r x=>zWL x oM oM)
theorem zKP{w0:World}{h0:Mem}(hs:MLe h0 (mem w0)){k l:Nat}{va:Value}{a:(Rat×Rat)}(ra:(rpP (rpQ k) (rpQ k)).Is h0 va a){vb:Value}{b:(Rat×Rat)}(rb:(rpP (rpQ l) (rpQ l)).Is h0 vb b)(hcd0:k+l≤4000000000):
 Calls Tryz.prog 89 #[va,vb] w0 (Ret w0 h0 (fun h r=>(rpP (rpQ (k+l+1)) (rpQ (k+l+1))).Is h r (yBZ a b))):=by
 obtain⟨T,Z,S,Y,rfl,D,J,C,I,ad,ac⟩:=zMF ra;obtain⟨O,X,M,U,rfl,z,H,u,G,ab,aa⟩:=zMF rb;exact(zPU hs D J C I z H u G oM oM oM oM).mono (kE fun h r x=>zWL x (by have:=jA a.1 b.1;have:=jA a.2 b.2;omega) (by have:=jA a.1 b.1;have:=jA a.2 b.2;omega))
end Go.Proofs.YtboaboflnckgoaaGreat
namespace Go.Proofs.YtboaboflnckgoaaGreat
open Bk Go Tryz
set_option linter.unusedVariables false
set_option linter.unusedSimpArgs false
set_option maxRecDepth 10000
set_option maxHeartbeats 1000000
attribute [local irreducible] GL GC GQ W OpV
theorem zRU{w0:World}{h0:Mem}(hs:MLe h0 (mem w0)){n m:Int}(hm:0<m)(hm2:m<4611686018427387904):
 Calls Tryz.prog 12 #[vI n,vI m] w0 (Ret w0 h0 (fun _ r=>r=vI (zD9 n m))):=by
 have z:=zB7 n hm;refine cb2 14 (vI n) (vI m) func12 hs ?_;refine go9 ?_;refine gv (zN4 rfl rfl oM) rfl (zAS (fun u=>?_) fun u=>?_)
 ·
  refine tV ?_;refine zD rfl rfl ?_;rw[zD9,if_pos u]
 refine go9 ?_;refine zD rfl rfl ?_;rw[zD9,if_neg u]
theorem zLB{w0:World}{h0:Mem}(hs:MLe h0 (mem w0)){vl:Value}{xs:List Int}(hl:Is h0 vl xs):
 Calls Tryz.prog 19 #[vl] w0 (Ret w0 h0 (fun _ r=>r=vB ((↑xs.length:Int)≤500))):=by
 refine cb1 6 vl func19 hs ?_;refine go8 ?_;refine gv (zET underlying32 rfl hl) rfl (go5 ?_);refine zD rfl rfl ?_
 rfl
theorem zON{w0:World}{h0:Mem}(hs:MLe h0 (mem w0)){vl:Value}{xs:List Int}(hl:Is h0 vl xs):
 Calls Tryz.prog 20 #[vl] w0 (sQ w0 h0 (fun _ r L=>∃b,r=vP b 0∧L=[.var b 97 [vl,vI ↑0]])):=by
 refine cb1 6 vl func20 hs ?_;refine go8 ?_;refine gv (yQ (ps':=[(0,_)]) (vs:=[vl,vI 0]) underlying97 zR8 rfl (zQU underlying97) e2z (yY (A:=[]) (B:=[_]) (C:=[_]) (cs:=[_]) (off:=0) (size:=1) rfl rfl rfl rfl hl.cells vY)) rfl (zF (xE (cs:=[_,_]) rfl rfl) rfl rfl rfl ?_);intro z D u;obtain⟨G,rfl,rfl⟩:=u;refine go4 ?_;refine jV rfl rfl ?_;exact⟨_,rfl,rfl⟩
theorem bA{w0 w:World}{h0 h:Mem}{b k:Nat}{vl:Value}{xs:List Int}(hl:Is h vl xs)(hk:k≤xs.length){n:Int}(hn:0<n)(hn2:n<4611686018427387904){L:List Res}(hs:St w0 h0 (.var b 97 [vl,vI ↑k]::L) h w):
 Calls Tryz.prog 33 #[vP b 0,vI n] w (zDX w0 h0 h L (fun g r q'=>∃k':Nat,∃z,q'=.var b 97 [vl,vI ↑k']∧k'≤xs.length∧(r=vI z∧0≤z∧z<n))):=by
 have I:=hl.lt63;refine rJ (n:=35) (e:=[(0,vP b 0),(1,vI n)]) (vs:=[vP b 0,vI n]) func33 rfl rfl (bL rfl) hs e2z (go7 ?_);refine zK 10 _ [] [(0,.q),(1,.q),(2,.q),(3,.q),(4,.q),(5,.q),(6,.q),(7,.q),(8,.q),(9,.q)] yC nX (by kernel_rfl) nX (fun r G=>G) (go1 ?_);refine xK rfl (fun _ _=>fU rfl) rfl (go3 ?_);refine xK rfl (fun _ _=>fU rfl) rfl (go2 ?_);refine w_q rfl (fun h' L' hh hR=>zET underlying32 rfl (hl.mono hh)) rfl (gc3 (fun D=>?_) fun D=>?_)
 ·
  refine go7 ?_;refine jV rfl rfl ?_;exact⟨_,(List.Sublist.refl _),(MLe.refl _),k,0,rfl,hk,rfl,by omega,hn⟩
 refine go5 ?_;refine gv (fU rfl) rfl (go3 ?_);refine gv (fU rfl) rfl (go1 ?_);refine xQ (A:=[]) (r':=.var b 97 [vl,vI ((↑k:Int)+(1:Int))]) (zG (k:=1) (cs:=[_,_]) (vs:=[_]) rfl rfl rfl rfl zV6 (bL rfl)) rfl rfl rfl (go3 ?_);refine zK 14 _ [] [(0,.q),(1,.q),(2,.q),(3,.q),(4,.q),(5,.q),(6,.q),(7,.q),(8,.q),(9,.q),(10,.q),(11,.q),(12,.c),(13,.q)] yC nX (by kernel_rfl) nX (fun r G=>G) (go1 ?_);refine xK rfl (fun _ _=>fU rfl) rfl (go3 ?_);refine xK rfl (fun _ _=>fU rfl) rfl (go3 ?_);refine w_q rfl (fun h' L' hh hR=>zH1 (k) underlying32 sizeOf3 rfl rfl (hl.mono hh) oM oM) rfl (w_q rfl (fun h' L' hh hR=>zKG isAgg3 rfl (hl.mono hh) oM) rfl (go1 ?_));refine w_c rfl (sC (ev2 rfl rfl) call12 (fun w hs=>zRU hs oM oM) fun J M H C=>?_);have u:=zK7 ((xs).getD (k) 0) (q:=n) oM;subst C;refine go4 ?_;refine jV rfl rfl ?_;exact⟨_,(List.Sublist.refl _),H,k+1,_,rfl,by omega,rfl,u.1,u.2⟩
end Go.Proofs.YtboaboflnckgoaaGreat
namespace Go.Proofs.YtboaboflnckgoaaGreat
open Bk Go Tryz
set_option linter.unusedVariables false
set_option linter.unusedSimpArgs false
set_option maxRecDepth 10000
set_option maxHeartbeats 1000000
attribute [local irreducible] GL GC GQ W OpV
end Go.Proofs.YtboaboflnckgoaaGreat
namespace Go.Proofs.YtboaboflnckgoaaGreat
open Bk Go Tryz
set_option linter.unusedVariables false
set_option linter.unusedSimpArgs false
set_option maxRecDepth 10000
set_option maxHeartbeats 1000000
attribute [local irreducible] GL GC GQ W OpV
end Go.Proofs.YtboaboflnckgoaaGreat
namespace Bk
open Go Go.RowKit
theorem Is.up{h h':Mem}{v:Value}{xs:List Int}(r:Is h v xs)(hm:MLe h h':=by exact mle):Is h' v xs:=r.mono hm
end Bk
namespace Go.Proofs.YtboaboflnckgoaaGreat
open Bk Go Tryz
set_option linter.unusedVariables false
set_option linter.unusedSimpArgs false
set_option maxRecDepth 10000
set_option maxHeartbeats 1000000
attribute [local irreducible] GL GC GQ W OpV
theorem zRD{w0:World}{h0:Mem}(hs:MLe h0 (mem w0)){k l:Nat}{va:Value}{a:Tq}(ra:(tPt k).Is h0 va a){vb:Value}{b:Tq}(rb:(tPt l).Is h0 vb b)(hcd0:k+l≤1000000000):
 Calls Tryz.prog 34 #[va,vb] w0 (Ret w0 h0 (fun h r=>(tPt (k+3*l+3)).Is h r (T3.mk (a.x+b.x) (a.y+b.y) (a.z+b.z)))):=by
 refine cb2 20 va vb func34 hs ?_;refine go2 ?_;refine nB ra fun b2 bi an=>(nB rb fun b3 bh Y=>(nA (ρ:=(tPt (k+3*l+3))) (X:=zT) yW (xY (yH oM)) fun b4 bg ax=>(go9 ?_)));refine tX (go4 ?_);refine gv (OpV.tr dC (yN (q:=3) rfl rfl)) rfl (go7 ?_);refine zK 9 _ [] [(0,.q),(1,.q),(2,.q),(3,.q),(4,.q),(5,.q),(6,.q),(7,.c),(8,.q),(9,.t)] yC nX (by kernel_rfl) nX (fun r hr=>hr) (go3 ?_);refine wX rfl (xB yB (Pc.tx pH) an) fun aw ah=>(go2 ?_);refine wX rfl (xB yB (Pc.tx pH) Y) fun ar ac=>?_;refine w_c rfl (sC (ev2 rfl rfl) call37 (fun w hs=>kC hs ah ac oM) fun O h1 bf D=>?_)
 change (rpQ (k+l+1)).Is h1 O (a.x+b.x) at D
 refine go1 ?_;have ak:=(Le.t (Le.q (l:=k+l+1) oM)).R an;refine yK (A:=[_,_]) rfl (uB sizeOf26 (Pc.tx pH) ak D) fun bc I=>(go5 ?_);refine gv ((yA (q:=1) rfl rfl oM oM).cv (show _=vI (1) from rfl)) rfl (go2 ?_);refine wT (go4 ?_);refine gv (OpV.tr dC (yN (q:=3) rfl rfl)) rfl (go7 ?_);refine zK 9 _ [] [(0,.q),(1,.q),(2,.q),(3,.q),(4,.q),(5,.q),(6,.q),(7,.c),(8,.q),(9,.t)] yC nX (by kernel_rfl) nX (fun r hr=>hr) (go3 ?_);refine wX rfl (xB yB (Pc.ty pH) I) fun av ae=>(go2 ?_);refine wX rfl (xB yB (Pc.ty pH) Y) fun aq ab=>?_;refine w_c rfl (sC (ev2 rfl rfl) call37 (fun w hs=>kC hs ae ab oM) fun M h2 be C=>?_)
 change (rpQ ((k+l+1)+l+1)).Is h2 M (a.y+b.y) at C
 replace C:=Rp.Is.le C (Le.q (l:=k+2*l+2) oM);refine go1 ?_;have aj:=(Le.t (Le.q (l:=k+2*l+2) oM)).R I;refine yK (A:=[_,_]) rfl (uB sizeOf26 (Pc.ty pH) aj C) fun bb H=>(go5 ?_);refine gv ((yA (q:=1) rfl rfl oM oM).cv (show _=vI (2) from rfl)) rfl (go2 ?_);refine wT (go4 ?_);refine gv (OpV.tr dC (yN (q:=3) rfl rfl)) rfl (go7 ?_);refine zK 9 _ [] [(0,.q),(1,.q),(2,.q),(3,.q),(4,.q),(5,.q),(6,.q),(7,.c),(8,.q),(9,.t)] yC nX (by kernel_rfl) nX (fun r hr=>hr) (go3 ?_);refine wX rfl (xB yB (Pc.tz pH) H) fun au ad=>(go2 ?_);refine wX rfl (xB yB (Pc.tz pH) Y) fun ap aa=>?_;refine w_c rfl (sC (ev2 rfl rfl) call37 (fun w hs=>kC hs ad aa oM) fun J h3 bd u=>?_)
 change (rpQ ((k+2*l+2)+l+1)).Is h3 J (a.z+b.z) at u
 replace u:=Rp.Is.le u (Le.q (l:=k+3*l+3) oM);refine go1 ?_;have ai:=(Le.t (Le.q (l:=k+3*l+3) oM)).R H;refine yK (A:=[_,_]) rfl (uB sizeOf26 (Pc.tz pH) ai u) fun ba am=>(go5 ?_);refine gv ((yA (q:=1) rfl rfl oM oM).cv (show _=vI (3) from rfl)) rfl (go2 ?_);refine wT (go4 ?_);refine gv (OpV.fa dC (yN (q:=3) rfl rfl)) rfl (uQ ?_);refine lX (xB zU pH am) fun ao Z=>(zS (A:=[]) (uB sizeOf53 pH ax Z) fun ay U=>(go3 ?_));refine wM (kA (t:=4) zU mh0 rfl U) ?_;intro az G T;refine yG (fun E S=>zQ rfl G E S) ?_;exact T
theorem zRC{w0:World}{h0:Mem}(hs:MLe h0 (mem w0)){k l:Nat}{va:Value}{a:Tq}(ra:(tPt k).Is h0 va a){vb:Value}{b:Tq}(rb:(tPt l).Is h0 vb b)(hcd0:k+l≤1000000000):
 Calls Tryz.prog 125 #[va,vb] w0 (Ret w0 h0 (fun h r=>(tPt (k+3*l+3)).Is h r (T3.mk (a.x-b.x) (a.y-b.y) (a.z-b.z)))):=by
 refine cb2 20 va vb func125 hs ?_;refine go2 ?_;refine nB ra fun b2 bi an=>(nB rb fun b3 bh ac=>(nA (ρ:=(tPt (k+3*l+3))) (X:=zT) yW (xY (yH oM)) fun b4 bg ax=>(go9 ?_)));refine tX (go4 ?_);refine gv (OpV.tr dC (yN (q:=3) rfl rfl)) rfl (go7 ?_);refine zK 9 _ [] [(0,.q),(1,.q),(2,.q),(3,.q),(4,.q),(5,.q),(6,.q),(7,.c),(8,.q),(9,.t)] yC nX (by kernel_rfl) nX (fun r hr=>hr) (go3 ?_);refine wX rfl (xB yB (Pc.tx pH) an) fun aw am=>(go2 ?_);refine wX rfl (xB yB (Pc.tx pH) ac) fun ar ai=>?_;refine w_c rfl (sC (ev2 rfl rfl) call16 (fun w hs=>bM hs am ai oM) fun O h1 bf H=>?_)
 change (rpQ (k+l+1)).Is h1 O (a.x-b.x) at H
 refine go1 ?_;have Y:=(Le.t (Le.q (l:=k+l+1) oM)).R an;refine yK (A:=[_,_]) rfl (uB sizeOf26 (Pc.tx pH) Y H) fun bb G=>(go5 ?_);refine gv ((yA (q:=1) rfl rfl oM oM).cv (show _=vI (1) from rfl)) rfl (go2 ?_);refine wT (go4 ?_);refine gv (OpV.tr dC (yN (q:=3) rfl rfl)) rfl (go7 ?_);refine zK 9 _ [] [(0,.q),(1,.q),(2,.q),(3,.q),(4,.q),(5,.q),(6,.q),(7,.c),(8,.q),(9,.t)] yC nX (by kernel_rfl) nX (fun r hr=>hr) (go3 ?_);refine wX rfl (xB yB (Pc.ty pH) G) fun av ak=>(go2 ?_);refine wX rfl (xB yB (Pc.ty pH) ac) fun aq ah=>?_;refine w_c rfl (sC (ev2 rfl rfl) call16 (fun w hs=>bM hs ak ah oM) fun M h2 be C=>?_)
 change (rpQ ((k+l+1)+l+1)).Is h2 M (a.y-b.y) at C
 replace C:=Rp.Is.le C (Le.q (l:=k+2*l+2) oM);refine go1 ?_;have U:=(Le.t (Le.q (l:=k+2*l+2) oM)).R G;refine yK (A:=[_,_]) rfl (uB sizeOf26 (Pc.ty pH) U C) fun ba D=>(go5 ?_);refine gv ((yA (q:=1) rfl rfl oM oM).cv (show _=vI (2) from rfl)) rfl (go2 ?_);refine wT (go4 ?_);refine gv (OpV.tr dC (yN (q:=3) rfl rfl)) rfl (go7 ?_);refine zK 9 _ [] [(0,.q),(1,.q),(2,.q),(3,.q),(4,.q),(5,.q),(6,.q),(7,.c),(8,.q),(9,.t)] yC nX (by kernel_rfl) nX (fun r hr=>hr) (go3 ?_);refine wX rfl (xB yB (Pc.tz pH) D) fun au aj=>(go2 ?_);refine wX rfl (xB yB (Pc.tz pH) ac) fun ap ae=>?_;refine w_c rfl (sC (ev2 rfl rfl) call16 (fun w hs=>bM hs aj ae oM) fun J h3 bd u=>?_)
 change (rpQ ((k+2*l+2)+l+1)).Is h3 J (a.z-b.z) at u
 replace u:=Rp.Is.le u (Le.q (l:=k+3*l+3) oM);refine go1 ?_;have T:=(Le.t (Le.q (l:=k+3*l+3) oM)).R D;refine yK (A:=[_,_]) rfl (uB sizeOf26 (Pc.tz pH) T u) fun az ab=>(go5 ?_);refine gv ((yA (q:=1) rfl rfl oM oM).cv (show _=vI (3) from rfl)) rfl (go2 ?_);refine wT (go4 ?_);refine gv (OpV.fa dC (yN (q:=3) rfl rfl)) rfl (uQ ?_);refine lX (xB zU pH ab) fun ao ad=>(zS (A:=[]) (uB sizeOf53 pH ax ad) fun ay aa=>(go3 ?_));refine wM (kA (t:=4) zU mh0 rfl aa) ?_;intro bc I Z;refine yG (fun E S=>zQ rfl I E S) ?_;exact Z
theorem zKT{w0:World}{h0:Mem}(hs:MLe h0 (mem w0)){l k:Nat}{vq:Value}{q:Rat}(rq:(rpQ l).Is h0 vq q){va:Value}{a:Tq}(ra:(tPt k).Is h0 va a)(hcd0:k+l≤1000000000):
 Calls Tryz.prog 111 #[vq,va] w0 (Ret w0 h0 (fun h r=>(tPt (k+3*l+1)).Is h r (T3.mk (q*a.x) (q*a.y) (q*a.z)))):=by
 refine cb2 18 vq va func111 hs ?_;refine go2 ?_;refine nB rq fun b2 bi aj=>(nB ra fun b3 bh an=>(nA (ρ:=(tPt (k+3*l+1))) (X:=zT) yW (xY (yH oM)) fun b4 bg ax=>(go9 ?_)));refine tX (go4 ?_);refine gv (OpV.tr dC (yN (q:=3) rfl rfl)) rfl (go7 ?_);refine zK 7 _ [] [(0,.q),(1,.q),(2,.q),(3,.q),(4,.q),(5,.c),(6,.q),(7,.t)] yC nX (by kernel_rfl) nX (fun r hr=>hr) (go1 ?_);refine wX rfl (xB yB pH aj) fun aw am=>(go2 ?_);refine wX rfl (xB yB (Pc.tx pH) an) fun av ak=>?_;refine w_c rfl (sC (ev2 rfl rfl) call9 (fun w hs=>wO hs am ak oM) fun aa h1 bf D=>?_)
 change (rpQ (l+k)).Is h1 aa (q*a.x) at D
 replace D:=Rp.Is.le D (Le.q (l:=k+l) oM);refine go1 ?_;have ad:=(Le.t (Le.q (l:=k+l) oM)).R an;refine yK (A:=[_]) rfl (uB sizeOf26 (Pc.tx pH) ad D) fun bb H=>(go5 ?_);refine gv ((yA (q:=1) rfl rfl oM oM).cv (show _=vI (1) from rfl)) rfl (go2 ?_);refine wT (go4 ?_);refine gv (OpV.tr dC (yN (q:=3) rfl rfl)) rfl (go7 ?_);refine zK 7 _ [] [(0,.q),(1,.q),(2,.q),(3,.q),(4,.q),(5,.c),(6,.q),(7,.t)] yC nX (by kernel_rfl) nX (fun r hr=>hr) (go1 ?_);refine wX rfl (xB yB pH aj) fun au Y=>(go2 ?_);refine wX rfl (xB yB (Pc.ty pH) H) fun aq T=>?_;refine w_c rfl (sC (ev2 rfl rfl) call9 (fun w hs=>wO hs Y T oM) fun J h2 be C=>?_)
 change (rpQ (l+(k+l))).Is h2 J (q*a.y) at C
 replace C:=Rp.Is.le C (Le.q (l:=k+2*l) oM);refine go1 ?_;have ac:=(Le.t (Le.q (l:=k+2*l) oM)).R H;refine yK (A:=[_]) rfl (uB sizeOf26 (Pc.ty pH) ac C) fun ba G=>(go5 ?_);refine gv ((yA (q:=1) rfl rfl oM oM).cv (show _=vI (2) from rfl)) rfl (go2 ?_);refine wT (go4 ?_);refine gv (OpV.tr dC (yN (q:=3) rfl rfl)) rfl (go7 ?_);refine zK 7 _ [] [(0,.q),(1,.q),(2,.q),(3,.q),(4,.q),(5,.c),(6,.q),(7,.t)] yC nX (by kernel_rfl) nX (fun r hr=>hr) (go1 ?_);refine wX rfl (xB yB pH aj) fun ar U=>(go2 ?_);refine wX rfl (xB yB (Pc.tz pH) G) fun ap O=>?_;refine w_c rfl (sC (ev2 rfl rfl) call9 (fun w hs=>wO hs U O oM) fun I h3 bd u=>?_)
 change (rpQ (l+(k+2*l))).Is h3 I (q*a.z) at u
 replace u:=Rp.Is.le u (Le.q (l:=k+3*l) oM);refine go1 ?_;have ab:=(Le.t (Le.q (l:=k+3*l) oM)).R G;refine yK (A:=[_]) rfl (uB sizeOf26 (Pc.tz pH) ab u) fun az ai=>(go5 ?_);refine gv ((yA (q:=1) rfl rfl oM oM).cv (show _=vI (3) from rfl)) rfl (go2 ?_);refine wT (go4 ?_);refine gv (OpV.fa dC (yN (q:=3) rfl rfl)) rfl (uQ ?_);refine lX (xB zU pH ai) fun ao M=>(zS (A:=[]) (uB sizeOf53 pH ax (M.le (Le.t (Le.q (l:=k+3*l+1) oM)))) fun ay ah=>(go3 ?_));refine wM (kA (t:=4) zU mh0 rfl ah) ?_;intro bc Z ae;refine yG (fun E S=>zQ rfl Z E S) ?_;exact ae
theorem iY{w0:World}{h0:Mem}(hs:MLe h0 (mem w0)){x:Int}(hx1:-9223372036854775808≤x)(hx2:x<9223372036854775808){y:Int}(hy1:-9223372036854775808≤y)(hy2:y<9223372036854775808){z:Int}(hz1:-9223372036854775808≤z)(hz2:z<9223372036854775808):
 Calls Tryz.prog 45 #[vI x,vI y,vI z] w0 (Ret w0 h0 (fun h r=>(tPt 2).Is h r (T3.mk ((x:Int):Rat) ((y:Int):Rat) ((z:Int):Rat)))):=by
 refine cb3 14 (vI x) (vI y) (vI z) func45 hs ?_;refine go2 ?_;refine nA (ρ:=(tPt 1)) (X:=zT) yW (xY (yH dC)) fun b6 ad H=>(go5 ?_);refine cL (ev1 rfl) call39 (fun w hs=>jS hs oM oM) fun v8 h1 ac r8=>(go1 ?_);refine cL (ev1 rfl) call39 (fun w hs=>jS hs oM oM) fun Z h2 ab M=>(go1 ?_);refine cL (ev1 rfl) call39 (fun w hs=>jS hs oM oM) fun Y h3 aa J=>(lX (xV (ρ:=(tPt 2)) (xD (ps':=[(0,_),(1,_),(2,_)]) underlying53 yW rfl rfl sizeOf26 e6z rfl (xY (yH dC)) (zI rfl (Pc.tx (Pc.here _)) r8.up (zI rfl (Pc.ty (Pc.here _)) M.up (zI rfl (Pc.tz (Pc.here _)) J zY))))) fun U I=>?_);have C:=(Le.t (Le.q (l:=2) dC)).R H;refine zS (A:=[]) (uB sizeOf53 pH C I) fun O G=>(go3 ?_);refine wM (kA (t:=6) zU mh0 rfl G) ?_;intro T u D;refine yG (fun E S=>zQ rfl u E S) ?_;exact D
end Go.Proofs.YtboaboflnckgoaaGreat
namespace Bk
set_option linter.unusedVariables false
set_option linter.unusedSimpArgs false
open Go Go.RowKit
open Classical
abbrev Pl:=Pt×Rat
theorem zT6{x:Rat}:xJ x=1↔0<x:=by
 have u:=wI x;rw[←z5];omega
theorem iB{a b:Pt}:a=b↔a.x=b.x∧a.y=b.y∧a.z=b.z:=by cases a;cases b;exact T3.mk.injEq ..▸Iff.rfl
noncomputable def axI(n:Pt):Nat:=if 0<n.z then 0 else if n.z<0 then 1 else if 0<n.y then 2 else if n.y<0 then 0 else if 0<n.x then 1 else if n.x<0 then 2 else 1
noncomputable def axJ(n:Pt):Nat:=if 0<n.z then 1 else if n.z<0 then 0 else if 0<n.y then 0 else if n.y<0 then 2 else if 0<n.x then 2 else if n.x<0 then 1 else 2
noncomputable def axK(n:Pt):Nat:=if n.z≠0 then 2 else if n.y≠0 then 1 else 0
theorem zS9(n:Pt):(0<n.z∧axI n=0∧axJ n=1∧axK n=2)∨(n.z<0∧axI n=1∧axJ n=0∧axK n=2)∨(n.z=0∧0<n.y∧axI n=2∧axJ n=0∧axK n=1)∨(n.z=0∧n.y<0∧axI n=0∧axJ n=2∧axK n=1)∨
 (n.z=0∧n.y=0∧0<n.x∧axI n=1∧axJ n=2∧axK n=0)∨(n.z=0∧n.y=0∧n.x<0∧axI n=2∧axJ n=1∧axK n=0)∨(n.z=0∧n.y=0∧n.x=0∧axI n=1∧axJ n=2∧axK n=0):=by
 have u:∀a:Rat,0<a∨(a<0∧¬0<a)∨(a=0∧¬0<a∧¬a<0):=fun a=>by grind
 unfold axI axJ axK
 rcases u n.z with h|⟨h,h'⟩|⟨h,h',h''⟩
 · left;simp only[if_pos h,if_pos (show n.z≠0 by grind)];exact⟨h,trivial,trivial,trivial⟩
 · right;left;simp only[if_neg h',if_pos h,if_pos (show n.z≠0 by grind)];exact⟨h,trivial,trivial,trivial⟩
 · simp only[if_neg h',if_neg h'',if_neg (show ¬n.z≠0 by grind)]
   rcases u n.y with k|⟨k,k'⟩|⟨k,k',k''⟩
   · right;right;left;simp only[if_pos k,if_pos (show n.y≠0 by grind)];exact⟨h,k,trivial,trivial,trivial⟩
   · right;right;right;left;simp only[if_neg k',if_pos k,if_pos (show n.y≠0 by grind)];exact⟨h,k,trivial,trivial,trivial⟩
   · simp only[if_neg k',if_neg k'',if_neg (show ¬n.y≠0 by grind)]
     rcases u n.x with l|⟨l,l'⟩|⟨l,l',l''⟩
     · right;right;right;right;left;simp only[if_pos l];exact⟨h,k,l,trivial,trivial,trivial⟩
     · right;right;right;right;right;left;simp only[if_neg l',if_pos l];exact⟨h,k,l,trivial,trivial,trivial⟩
     · right;right;right;right;right;right;simp only[if_neg l',if_neg l''];exact⟨h,k,l,trivial,trivial,trivial⟩
theorem zS8(n:Pt):axI n+axJ n≤3∧axI n<3∧axJ n<3∧axK n=3-axI n-axJ n:=by
 rcases zS9 n with h|h|h|h|h|h|h<;>omega
theorem zTB(n:Pt):axI n<3:=(zS8 n).2.1
theorem zTA(n:Pt):axJ n<3:=(zS8 n).2.2.1
noncomputable def cH(pl:Pl)(p:Pt):Pt:=T3.mk (p.at (axI pl.1)) (p.at (axJ pl.1)) (0:Rat)
noncomputable def yBG(pl:Pl)(q:Pt):Rat:=if pl.1.at (axK pl.1)=0 then 0 else(pl.2-(pl.1.at (axI pl.1)*q.x+pl.1.at (axJ pl.1)*q.y))/pl.1.at (axK pl.1)
noncomputable def liftZ(pl:Pl)(q:Pt):Pt:=if pl.1.at (axK pl.1)=0 then T3.mk (0:Rat) 0 0 else(((T3.mk (0:Rat) 0 0).set (axI pl.1) q.x).set (axJ pl.1) q.y).set (axK pl.1) (yBG pl q)
def jH(a b:Pt):Rat:=a.x*b.x+a.y*b.y+a.z*b.z
def sO(a b:Pt):Pt:=T3.mk (a.y*b.z-a.z*b.y) (a.z*b.x-a.x*b.z) (a.x*b.y-a.y*b.x)
def s4(a b:Pt):Pt:=T3.mk (a.x-b.x) (a.y-b.y) (a.z-b.z)
theorem zHH(a:Rat):wH a 0=xJ a:=by rw[zST,show a-0=a by grind]
theorem zP0{c:Rat}(hc:0<c)(x:Rat):xJ (c*x)=xJ x:=by
 have h:=zSU x 0 c;rw[Rat.zero_mul,zHH,zHH,zT6.2 hc,Int.mul_one,Rat.mul_comm] at h;exact h
end Bk
namespace Bk
set_option linter.unusedVariables false
set_option linter.unusedSimpArgs false
open Classical
def i3(x y z:Int):Pt:=T3.mk ((x:Int):Rat) ((y:Int):Rat) ((z:Int):Rat)
abbrev bdI(z:Int)(n:Nat):Prop:=z.natAbs≤n
def smN(e:Pl):Prop:=∃a b c d:Int,(bdI a 2∧bdI b 2∧bdI c 2∧bdI d 30)∧e=(i3 a b c,(d:Rat)/2)
def iF(q:Rat)(n:Nat):Prop:=∃z:Int,bdI z n∧q=(z:Rat)/2
def spP(p:Pt):Prop:=iF p.x 9∧iF p.y 9∧iF p.z 9
theorem j1{z:Int}{n m:Nat}(h:bdI z n)(hm:2*n≤m):iF ((z:Int):Rat) m:=by
 refine⟨2*z,by unfold bdI at *;omega,?_⟩;rw[Rat.intCast_mul];have u:((2:Int):Rat)=2:=rfl;rw[u];grind
theorem zIW{z:Int}{n:Nat}(h:bdI z n):iF (jD z 2) n:=⟨z,h,rfl⟩
theorem eF{p:Pt}{i:Nat}{q:Rat}(hi:i<3)(h:∀u,u<i→iF (p.at u) 9)(hq:iF q 9):∀u,u<i+1→iF ((p.set i q).at u) 9:=by
 intro u G
 by_cases e:u=i
 · subst e
   match u,hi with
   |0,_=>exact hq
   |1,_=>exact hq
   |2,_=>exact hq
 · have D:u<i:=by omega
   have C:=h u D;have z:(i=1∧u=0)∨(i=2∧u=0)∨(i=2∧u=1):=by omega
   rcases z with⟨rfl,rfl⟩|⟨rfl,rfl⟩|⟨rfl,rfl⟩<;>exact C
theorem yAO{p:Pt}(h:∀u,u<3→iF (p.at u) 9):spP p:=⟨h 0 (by decide),h 1 (by decide),h 2 (by decide)⟩
abbrev rows7:List (T3 Int):=[T3.mk 1 0 0,T3.mk 0 1 0,T3.mk 0 0 1,T3.mk 1 1 0,T3.mk (-1) 0 0,T3.mk 1 (-1) 2,T3.mk 0 2 1]
end Bk
namespace Go.Proofs.YtboaboflnckgoaaGreat
open Bk Go Tryz
set_option linter.unusedVariables false
set_option linter.unusedSimpArgs false
set_option maxRecDepth 10000
set_option maxHeartbeats 1000000
attribute [local irreducible] GL GC GQ W OpV
theorem zUT{w0:World}{h0:Mem}(hs:MLe h0 (mem w0)){qa:Rat}{vna vda:Value}(hna:Us .u32 h0 vna (zB qa.num.natAbs))(hda:Us .u32 h0 vda (zB (xU qa.den)))(hqa:lq qa≤100000000000):
 Calls Tryz.prog 54 #[.agg #[vB (qa.num<0),vna,vda]] w0 (Ret w0 h0 (fun h r=>wJ h r qa)):=by
 have Z:=wF qa;have aa:=wP qa;have ab:=wC qa;refine cb1 12 (.agg #[vB (qa.num<0),vna,vda]) func54 hs ?_;refine go2 ?_;refine zF (xE (cs:=[_,_,_]) rfl rfl) rfl rfl rfl ?_;intro v1 r1 O;obtain⟨b1,rfl,rfl⟩:=O;refine zF (wB (cs:=[vB ((0:Rat).num<0),.slice none 0 0,.slice none 0 0]) yP rfl (by simp only[zb];rfl)) rfl rfl rfl ?_;intro v2 r2 M;obtain⟨b2,rfl,rfl⟩:=M;refine go3 ?_;refine zK 9 _ [] [(0,.q),(1,.q),(2,.q),(3,.q),(5,.q),(6,.q),(4,.c),(7,.c),(8,.c),(9,.t)] yC nX (by kernel_rfl) nX (fun r hr=>hr) (go6 ?_);refine w_c rfl ?_;refine rS (vs:=[_]) call103 ⟨rfl,trivial⟩ (fun w hs=>pE hs hna oM) rfl ?_;intro Y h1 L7 I J;obtain rfl:=J;refine w_c rfl ?_;replace hda:=hda.mono I;refine rS (vs:=[_]) call103 ⟨rfl,trivial⟩ (fun w hs=>pE hs hda oM) rfl ?_;intro D h2 ac H G;obtain rfl:=G;refine w_c rfl ?_;replace hna:=hna.mono (I.trans H);refine pG (A:=[_]) (by exact hna.lt) (by simp only[List.mem_cons,List.not_mem_nil,or_false];rintro r (rfl|rfl) _<;>simp) ?_;intro h3 U u;replace hda:=hda.mono (H.trans U);refine pG (A:=[]) (by exact hda.lt) (by simp only[List.mem_cons,List.not_mem_nil,or_false];rintro r (rfl|rfl) _<;>simp) ?_;intro h4 T z;replace u:=u.mono T;refine zP6 (fun X=>yQ (ps':=[(0,_),(1,_),(2,_)]) (vs:=[vB (qa.num<0),Y,D]) underlying26 yP rfl (vD underlying26) e6z (yY (A:=[]) (B:=[_]) (C:=[_,_]) (cs:=[_]) (off:=0) (size:=1) rfl rfl rfl rfl rfl (yY (A:=[_]) (B:=[_]) (C:=[_]) (cs:=[_]) (off:=1) (size:=1) rfl rfl rfl rfl u.cells (yY (A:=[_,_]) (B:=[_]) (C:=[]) (cs:=[_]) (off:=2) (size:=1) rfl rfl rfl rfl z.cells vY)))) rfl (kV (A:=[]) (q':=.var b2 26 [vB (qa.num<0),Y,D]) rfl (zG (k:=0) (cs:=[_,_,_]) (vs:=[_,_,_]) rfl rfl rfl (ocr rfl (ocu u (ocu z oc0))) zV (bL rfl)) rfl (go3 ?_));refine yG (fun E S=>zQ rfl (xG (cs:=[_,_,_]) mh0 underlying26 rfl zV rfl) E S) ?_;exact⟨_,_,rfl,u,z⟩
theorem zE2{w0:World}{h0:Mem}(hs:MLe h0 (mem w0)){k:Nat}{va:Value}{a:Rat}(ra:(rpQ k).Is h0 va a)(hcd0:k≤10000000000):
 Calls Tryz.prog 54 #[va] w0 (Ret w0 h0 (fun h r=>(rpQ k).Is h r a)):=by
 obtain⟨C,D,rfl,u,z,G⟩:=qG ra;exact(zUT hs u z oM).mono (kE fun h r x=>mU x oM)
theorem zAF{w0:World}{h0:Mem}(hs:MLe h0 (mem w0)){k l:Nat}{va:Value}{a:Tq}(ra:(tPt k).Is h0 va a){vb:Value}{b:Tq}(rb:(tPt l).Is h0 vb b)(hcd0:k+l≤1000000000):
 Calls Tryz.prog 27 #[va,vb] w0 (Ret w0 h0 (fun _ r=>r=vB (a=b))):=by
 refine cb2 24 va vb func27 hs ?_;refine go2 ?_;refine nB ra fun b2 S G=>(nB rb fun b3 O D=>(go6 ?_));refine lX (xB yB (Pc.tx pH) G) fun v6 r6=>(go1 ?_);refine lX (xB yB (Pc.tx pH) D) fun v8 r8=>(cL (ev2 rfl rfl) call15 (fun w hs=>vO hs r6 r8 oM) fun v9 h1 ak r9=>?_);obtain rfl:v9=vB (a.x=b.x):=r9;refine uL (ι:=Mem) 7 (fun H=>MLe h1 H) (fun _=>[(16,vB ((a.x=b.x)∧(a.y=b.y))),(2,vP b2 0),(3,vP b3 0)]) (fun _=>[.var b3 53 O,.var b2 53 S]) (fun H=>H) ?_ ?_
 ·
  refine yD (a.x=b.x) (fun C=>?_) (fun C=>?_)
  ·
   refine gT C rfl (go3 ?_);refine lX (xB yB (Pc.ty pH) G) fun aj ad=>(go3 ?_);refine lX (xB yB (Pc.ty pH) D) fun ai ac=>(go1 ?_);refine cL (ev2 rfl rfl) call15 (fun w hs=>vO hs ad ac oM) fun X h2 I ab=>?_;obtain rfl:X=vB (a.y=b.y):=ab;refine go2 ?_;refine zO h2 I ⟨?_,rfl,rfl,trivial⟩ rfl rfl;exact congrArg some (xN C)
  refine gF C rfl (go7 ?_);refine zO h1 (MLe.refl _) ⟨?_,rfl,rfl,trivial⟩ rfl rfl;exact congrArg some (xO C)
 intro u M;refine tJ ?_;refine uL (ι:=Mem) 7 (fun H=>MLe u H) (fun _=>[(23,vB (((a.x=b.x)∧(a.y=b.y))∧(a.z=b.z)))]) (fun _=>[.var b3 53 O,.var b2 53 S]) (fun H=>H) ?_ ?_
 ·
  refine yD ((a.x=b.x)∧(a.y=b.y)) (fun C=>?_) (fun C=>?_)
  ·
   refine gT C rfl (go3 ?_);refine lX (xB yB (Pc.tz pH) G) fun ah aa=>(go3 ?_);refine lX (xB yB (Pc.tz pH) D) fun ae Z=>(go1 ?_);refine cL (ev2 rfl rfl) call15 (fun w hs=>vO hs aa Z oM) fun U h2 I Y=>?_;obtain rfl:U=vB (a.z=b.z):=Y;refine go2 ?_;refine zO h2 I ⟨?_,trivial⟩ rfl rfl;exact congrArg some (xN C)
  refine gF C rfl (go7 ?_);refine zO u (MLe.refl _) ⟨?_,trivial⟩ rfl rfl;exact congrArg some (xO C)
 intro T J;refine tJ ?_;refine go4 ?_;refine zD rfl rfl ?_
 first|exact fL (by rw[iB];grind)|exact(xM (by rw[iB];grind)).symm|exact(yV (by rw[iB];grind)).symm
theorem zOA{w0:World}{h0:Mem}(hs:MLe h0 (mem w0)){k:Nat}{va:Value}{a:Tq}(ra:(tPt k).Is h0 va a)(hcd0:k≤1000000):
 Calls Tryz.prog 42 #[va] w0 (Ret w0 h0 (fun _ r=>r=vB (a=zT))):=by
 refine cb1 6 va func42 hs ?_;refine go2 ?_;refine nB ra fun I G u=>(go5 ?_);refine lX (xB zU pH u) fun v3 r3=>(lX (xV (ρ:=(tPt 1)) (xD (ps':=[]) underlying53 yW rfl rfl sizeOf26 trivial rfl (xY (yH dC)) zY)) fun v4 r4=>(cL (ev2 rfl rfl) call27 (fun w hs=>zAF hs r3 r4 oM) fun z H D C=>?_));obtain rfl:z=vB (a=zT):=C;refine go4 ?_;refine zD rfl rfl ?_
 rfl
theorem w8{w0:World}{h0:Mem}(hs:MLe h0 (mem w0)){k l:Nat}{va:Value}{a:Tq}(ra:(tPt k).Is h0 va a){vb:Value}{b:Tq}(rb:(tPt l).Is h0 vb b)(hcd0:k+l≤1000000000):
 Calls Tryz.prog 44 #[va,vb] w0 (Ret w0 h0 (fun h r=>(rpQ (3*k+3*l+9)).Is h r (jH a b))):=by
 refine cb2 21 va vb func44 hs ?_;refine go2 ?_;refine nB ra fun b2 ca ah=>(nB rb fun b3 bz ae=>(nA (ρ:=(rpQ (3*k+3*l+9))) (X:=(0:Rat)) yP (yH oM) fun b4 bx bk=>(go4 ?_)));refine nA (ρ:=(rpQ 1)) (X:=(0:Rat)) yP (yH dC) fun b5 bw az=>(go9 ?_);refine tX (go4 ?_);refine gv (OpV.tr dC (yN (q:=3) rfl rfl)) rfl (go7 ?_);refine zK 9 _ [] [(0,.q),(1,.q),(2,.q),(3,.q),(4,.q),(5,.q),(6,.q),(7,.c),(8,.c),(9,.t)] yC nX (by kernel_rfl) nX (fun r hr=>hr) (wX rfl (xB yB pH az) fun bj au=>(go2 ?_));refine wX rfl (xB yB (Pc.tx pH) ah) fun bg ap=>(go2 ?_);refine wX rfl (xB yB (Pc.tx pH) ae) fun bd am=>?_;refine w_c rfl (sC (ev2 rfl rfl) call9 (fun w hs=>wO hs ap am oM) fun ab h1 bv I=>?_)
 change (rpQ (k+l)).Is h1 ab (a.x*b.x) at I
 refine w_c rfl (sC (ev2 rfl rfl) call37 (fun w hs=>kC hs au.up I oM) fun Y h2 bu D=>?_)
 change (rpQ (1+(k+l)+1)).Is h2 Y ((0:Rat)+(a.x*b.x)) at D
 replace D:=Rp.Is.le D (Le.q (l:=k+l+2) oM);have ax:=(Le.q (l:=k+l+2) oM).R az;refine yK (A:=[]) rfl (uB sizeOf26 pH ax D) fun bp O=>(go5 ?_);refine gv ((yA (q:=1) rfl rfl oM oM).cv (show _=vI (1) from rfl)) rfl (go2 ?_);refine wT (go4 ?_);refine gv (OpV.tr dC (yN (q:=3) rfl rfl)) rfl (go7 ?_);refine zK 9 _ [] [(0,.q),(1,.q),(2,.q),(3,.q),(4,.q),(5,.q),(6,.q),(7,.c),(8,.c),(9,.t)] yC nX (by kernel_rfl) nX (fun r hr=>hr) (wX rfl (xB yB pH O) fun bi ar=>(go2 ?_));refine wX rfl (xB yB (Pc.ty pH) ah) fun bf ao=>(go2 ?_);refine wX rfl (xB yB (Pc.ty pH) ae) fun bc ak=>?_;refine w_c rfl (sC (ev2 rfl rfl) call9 (fun w hs=>wO hs ao ak oM) fun aa h3 bt H=>?_)
 change (rpQ (k+l)).Is h3 aa (a.y*b.y) at H
 refine w_c rfl (sC (ev2 rfl rfl) call37 (fun w hs=>kC hs ar.up H oM) fun U h4 bs C=>?_)
 change (rpQ ((k+l+2)+(k+l)+1)).Is h4 U (((0:Rat)+(a.x*b.x))+(a.y*b.y)) at C
 replace C:=Rp.Is.le C (Le.q (l:=2*k+2*l+3) oM);have aw:=(Le.q (l:=2*k+2*l+3) oM).R O;refine yK (A:=[]) rfl (uB sizeOf26 pH aw C) fun bo M=>(go5 ?_);refine gv ((yA (q:=1) rfl rfl oM oM).cv (show _=vI (2) from rfl)) rfl (go2 ?_);refine wT (go4 ?_);refine gv (OpV.tr dC (yN (q:=3) rfl rfl)) rfl (go7 ?_);refine zK 9 _ [] [(0,.q),(1,.q),(2,.q),(3,.q),(4,.q),(5,.q),(6,.q),(7,.c),(8,.c),(9,.t)] yC nX (by kernel_rfl) nX (fun r hr=>hr) (wX rfl (xB yB pH M) fun bh aq=>(go2 ?_));refine wX rfl (xB yB (Pc.tz pH) ah) fun be an=>(go2 ?_);refine wX rfl (xB yB (Pc.tz pH) ae) fun bb aj=>?_;refine w_c rfl (sC (ev2 rfl rfl) call9 (fun w hs=>wO hs an aj oM) fun Z h5 br G=>?_)
 change (rpQ (k+l)).Is h5 Z (a.z*b.z) at G
 refine w_c rfl (sC (ev2 rfl rfl) call37 (fun w hs=>kC hs aq.up G oM) fun T h6 bq u=>?_)
 change (rpQ ((2*k+2*l+3)+(k+l)+1)).Is h6 T ((((0:Rat)+(a.x*b.x))+(a.y*b.y))+(a.z*b.z)) at u
 replace u:=Rp.Is.le u (Le.q (l:=3*k+3*l+4) oM);have av:=(Le.q (l:=3*k+3*l+4) oM).R M;refine yK (A:=[]) rfl (uB sizeOf26 pH av u) fun bn ay=>(go5 ?_);refine gv ((yA (q:=1) rfl rfl oM oM).cv (show _=vI (3) from rfl)) rfl (go2 ?_);refine wT (go4 ?_);refine gv (OpV.fa dC (yN (q:=3) rfl rfl)) rfl (uQ ?_);refine lX (xB yB pH ay) fun ba ai=>(zS (A:=[_]) (uB sizeOf26 pH bk (ai.le (Le.q (l:=3*k+3*l+9) oM))) fun bl ad=>(go3 ?_));refine wM (kA (t:=4) yB mh1 rfl ad) ?_;intro bm J ac;refine yG (fun E S=>zQ rfl J E S) ?_;exact(Rp.Is.cast ac (by unfold jH;grind))
theorem zID{w0 w:World}{h0 h:Mem}{b k:Nat}{vl:Value}{xs:List Int}(hl:Is h vl xs)(hk:k≤xs.length){n:Int}(hn:0<n)(hn2:n<4611686018427387904){L:List Res}(hs:St w0 h0 (.var b 97 [vl,vI ↑k]::L) h w):
 Calls Tryz.prog 80 #[vP b 0,vI n] w (zDX w0 h0 h L (fun g r q'=>∃k':Nat,∃p:Prop,q'=.var b 97 [vl,vI ↑k']∧k'≤xs.length∧r=vB p)):=by
 have C:=hl.lt63;refine rJ (n:=11) (e:=[(0,vP b 0),(1,vI n)]) (vs:=[vP b 0,vI n]) func80 rfl rfl (bL rfl) hs e2z (go9 ?_);refine gY (A:=[]) (vs:=[_,_]) call33 e2z (fun X w hs=>bA hl (by first|omega|exact Nat.zero_le _) oM oM hs) rfl ?_;intro J S M z u;obtain⟨O,I,rfl,H,rfl,D,G⟩:=u;refine go7 ?_;refine jV rfl rfl ?_;exact⟨_,(List.Sublist.refl _),z,_,_,rfl,by omega,rfl⟩
end Go.Proofs.YtboaboflnckgoaaGreat
namespace Bk
set_option linter.unusedVariables false
set_option linter.unusedSimpArgs false
open Classical
def zGI(r:Rat)(n:Int):Prop:=¬((xJ r<0∨n<0)∨64<n)
noncomputable def cD(r:Rat)(n:Int):Rat:=if zGI r n then qE r n else 0
noncomputable def cP(r:Rat)(n:Int):Rat:=if zGI r n then oE r n else 0
theorem zRP{r:Rat}{n:Int}(h:(xJ r<0∨n<0)∨64<n):cD r n=0∧cP r n=0∧¬zGI r n:=⟨if_neg fun e=>e h,if_neg fun e=>e h,fun e=>e h⟩
theorem zAH{r:Rat}{n:Int}(h:¬((xJ r<0∨n<0)∨64<n)):cD r n=qE r n∧cP r n=oE r n∧¬r<0∧zGI r n:=⟨if_pos h,if_pos h,fun e=>h (.inl (.inl (qC.2 e))),h⟩
theorem yBH{r:Rat}{n:Int}(h:¬((xJ r<0∨n<0)∨64<n)):(↑(kN n):Int)=n∧kN n≤64:=by unfold kN;omega
theorem zDN{a b:Rat}:0≤wH a b↔b≤a:=by unfold wH;grind
theorem zJ4{r:Rat}{n:Int}(h0:¬r<0)(h:qE r n*qE r n=r):qE r n=oE r n:=zUA h0 (by rw[h];exact Rat.lt_irrefl)
theorem zCE{r:Rat}(h0:¬r<0)(n:Int):qE r n*qE r n≤r:=(zHX (Rat.not_lt.1 h0) _ _).2 (iO _)
theorem zX4{r:Rat}{n:Int}(h0:¬r<0)(h:¬qE r n*qE r n=r):qE r n+ovQ 1 (kN n)=oE r n:=zT9 h0 (by have:=zCE h0 n;grind)
theorem zRT{r:Rat}(h:¬r<0):sJ r 0=r:=by unfold sJ;grind
theorem yA8{a:Rat}(n:Int)(h:¬a<0):zJ5 a a n=qE a n:=by unfold zJ5;rw[if_neg h,zRT h]
end Bk
namespace Go.Proofs.YtboaboflnckgoaaGreat
open Bk Go Tryz
set_option linter.unusedVariables false
set_option linter.unusedSimpArgs false
set_option maxRecDepth 10000
set_option maxHeartbeats 1000000
attribute [local irreducible] GL GC GQ W OpV
theorem oR{w0:World}{h0:Mem}(hs:MLe h0 (mem w0)){k:Nat}{va:Value}{a:Rat}(ra:(rpQ k).Is h0 va a){n:Int}(hn1:-9223372036854775808≤n)(hn2:n<9223372036854775808)(hcd0:k≤400):
 Calls Tryz.prog 13 #[va,vI n] w0 (Ret w0 h0 (fun h r=>∃u0,r=.tuple #[u0,vB (zGI a n)]∧(rpP (rpQ (k+140)) (rpQ (k+140))).Is h u0 (cD a n,cP a n))):=by
 refine cb2 37 va (vI n) func13 hs ?_;refine go2 ?_;refine nB ra fun b2 bo aa=>(nA (ρ:=(rpP (rpQ (k+140)) (rpQ (k+140)))) (X:=((0:Rat),(0:Rat))) gC (yL (yH oM) (yH oM)) fun b4 bn Z=>(go6 ?_));refine lX (xB yB pH aa) fun v8 r8=>(cL (ev1 rfl) call51 (fun w hs=>iW hs r8 oM) fun v9 h1 bl r9=>?_);obtain rfl:v9=vI (xJ a):=r9;have av:=wI a;refine go1 ?_;refine gU 4 14 (vB (((xJ a)<(0:Int))∨(n<(0:Int)))) ?_ ?_
 ·
  refine yD ((xJ a)<(0:Int)) (fun G=>?_) (fun G=>?_)
  ·
   refine gT G rfl (go4 ?_);refine gqU ?_;exact congrArg some (vZ G)
  refine gF G rfl (go6 ?_);refine gqU ?_;exact congrArg some (uA G)
 refine gU 4 18 (vB ((((xJ a)<(0:Int))∨(n<(0:Int)))∨((64:Int)<n))) ?_ ?_
 ·
  refine yD (((xJ a)<(0:Int))∨(n<(0:Int))) (fun G=>?_) (fun G=>?_)
  ·
   refine gT G rfl (go4 ?_);refine gqU ?_;exact congrArg some (vZ G)
  refine gF G rfl (go6 ?_);refine gqU ?_;exact congrArg some (uA G)
 refine gc2 (fun u=>?_) fun u=>?_
 ·
  refine go2 ?_;refine lX (xV (ρ:=(rpP (rpQ 1) (rpQ 1))) (wD (ps':=[]) underlying34 gC rfl rfl (lG underlying34) trivial rfl (yL (yH dC) (yH dC)) zY)) fun be an=>(zS (A:=[]) (uB sizeOf34 pH Z (an.le (Le.p (Le.q (l:=k+140) oM) (Le.q (l:=k+140) oM)))) fun aq Y=>(go5 ?_));refine wM (kA (t:=4) zG7 mh0 rfl Y) ?_;intro au I T;refine yG (fun E S=>vV rfl I (jQ rfl) E S) ?_;refine⟨_,?_,(Rp.Is.cast T (by rw[(zRP u).1,(zRP u).2.1]))⟩;rw[yV (zRP u).2.2]
 obtain⟨y1,y2,y3,y4⟩:=zAH u;obtain⟨bf,bg⟩:=yBH u;refine go4 ?_;refine lX (xB yB pH aa) fun bd am=>(cL (ev1 rfl) call53 (fun w hs=>zGC hs am oM) fun bc h2 bk ak=>(go1 ?_));refine cL (ev2 rfl rfl) call52 (fun w hs=>zJV hs ak oM oM oM) fun bb h3 bj aj=>?_;obtain⟨M,rfl,D⟩:=aj
 change (rpP (rpQ (k+140)) (rpQ (k+140))).Is h3 M (zJ5 (a,a).1 (a,a).2 n,oE (a,a).2 n) at D
 refine go3 ?_;refine nA (ρ:=(rpP (rpQ (k+140)) (rpQ (k+140)))) (X:=((0:Rat),(0:Rat))) gC (yL (yH oM) (yH oM)) fun b6 bm ab=>(zS (A:=[]) (uB sizeOf34 pH ab D) fun ap C=>(zAS (fun J=>?_) fun J=>?_))
 · exact absurd (if_neg y3) J
 refine go3 ?_;refine zK 7 _ [] [(0,.q),(1,.q),(3,.q),(4,.q),(2,.c),(5,.c),(6,.q),(7,.t),(8,.t)] yC nX (by kernel_rfl) nX (fun r hr=>hr) (go1 ?_);refine wX rfl (xB yB (Pc.fst pH) C) fun ba ai=>(go1 ?_);refine wX rfl (xB yB (Pc.snd pH) C) fun ay ae=>?_;refine w_c rfl (sC (ev1 rfl) call54 (fun w hs=>zE2 hs ai oM) fun az h4 bi ah=>?_);refine w_c rfl (sC (ev1 rfl) call54 (fun w hs=>zE2 hs ae.up oM) fun ax h5 bh ad=>(wX rfl (xV (ρ:=(rpP (rpQ (k+140)) (rpQ (k+140)))) (wD (ps':=[(0,_),(1,_)]) underlying34 gC rfl rfl (lG underlying34) e4z rfl (yL (yH oM) (yH oM)) (zI rfl (Pc.fst (Pc.here _)) ah.up (zI rfl (Pc.snd (Pc.here _)) ad zY)))) fun aw ac=>(yK (A:=[_]) rfl (uB sizeOf34 pH Z ac) fun ao U=>(dP rfl (tH rfl) rfl (go3 ?_)))));refine wM (kA (t:=4) zG7 mh1 rfl U) ?_;intro ar H O;refine yG (fun E S=>vV rfl H (jQ rfl) E S) ?_;refine⟨_,?_,(Rp.Is.cast O (by rw[y1,y2];exact congrArg (fun z=>(z,oE a n)) (yA8 n y3)))⟩;rw[xM y4]
end Go.Proofs.YtboaboflnckgoaaGreat
namespace Go.Proofs.YtboaboflnckgoaaGreat
open Bk Go Tryz
set_option linter.unusedVariables false
set_option linter.unusedSimpArgs false
set_option maxRecDepth 10000
set_option maxHeartbeats 1000000
attribute [local irreducible] GL GC GQ W OpV
theorem zIC{w0 w:World}{h0 h:Mem}{b k:Nat}{vl:Value}{xs:List Int}(hl:Is h vl xs)(hk:k≤xs.length){L:List Res}(hs:St w0 h0 (.var b 97 [vl,vI ↑k]::L) h w):
 Calls Tryz.prog 32 #[vP b 0] w (zDX w0 h0 h L (fun g r q'=>∃k':Nat,∃m:T3 Rat,q'=.var b 97 [vl,vI ↑k']∧k'≤xs.length∧spP m∧(tPt 2).Is g r m)):=by
 have bc:=hl.lt63;refine rJ (n:=22) (e:=[(0,vP b 0)]) (vs:=[vP b 0]) func32 rfl rfl (bL rfl) hs ⟨rfl,trivial⟩ (go2 ?_);refine nA (ρ:=(tPt 2)) (X:=zT) yW (xY (yH dC)) fun b2 aw aj=>(go4 ?_);refine nA (ρ:=(tPt 2)) (X:=zT) yW (xY (yH dC)) fun M av ai=>(go9 ?_);refine gcL (ι:=Nat×T3 Rat×List Value×Nat×Mem) (fun(i,U,C,z,ma)=>(MLe h ma∧((tPt 2).R ma C U∧z≤xs.length∧i≤3∧∀u,u<i→iF (U.at u) 9),[(0,vP b 0),(2,vP b2 0),(3,vP M 0),(4,vI ↑i)],(.var M 53 C::.var b2 53 aw::.var b 97 [vl,vI ↑z]::L),ma,3-i)) (0,(T3.mk 0 0 0),av,k,h) ?_ ?_
 · exact⟨mle,ai,oM,by omega,fun u h=>by omega⟩
 rintro⟨i,U,C,z,ma⟩ ⟨ab,H,aq,hi,hh⟩
 refine yU ?_;refine gc7 (fun ar=>?_) fun ar=>?_
 ·
  refine go8 ?_;refine gY (A:=[_,_]) (vs:=[_,vI (5)]) call33 e2z (fun X w hs=>bA hl.up (by first|omega|exact Nat.zero_le _) oM oM hs) rfl ?_;intro bp bx bs bi aa;obtain⟨bt,O,rfl,bf,rfl,az,bb⟩:=aa;refine cL (ev1 rfl) call39 (fun w hs=>jS hs oM oM) fun bo h1 bv an=>(gv ((zX (sz:=3) i underlying53 sizeOf26 rfl rfl rfl oM).cv (show _=vP M ((i*3+0)) from congrArg (vP M) oM)) rfl (zS (A:=[]) (uB sizeOf26 (Pc.ta pH i oM) H an) fun ae G=>(go5 ?_)));refine gY (A:=[_,_]) (vs:=[_,vI (4)]) call80 e2z (fun X w hs=>zID hl.up (by first|omega|exact Nat.zero_le _) oM oM hs) rfl ?_;intro bn au br bh Z;obtain⟨ap,bz,rfl,be,rfl⟩:=Z;refine gc2 (fun ac=>?_) fun ac=>?_
  ·
   refine go3 ?_;refine gY (A:=[_,_]) (vs:=[_,vI (9)]) call33 e2z (fun X w hs=>bA hl.up (by first|omega|exact Nat.zero_le _) oM oM hs) rfl ?_;intro bm bw bq bg Y;obtain⟨ao,ah,rfl,bd,rfl,ay,ba⟩:=Y;refine cL (vs:=[_,vI (2)]) e2z call10 (fun w hs=>pM hs oM oM dC dC) fun bl h2 bu am=>(gv ((zX (sz:=3) i underlying53 sizeOf26 rfl rfl rfl oM).cv (show _=vP M ((i*3+0)) from congrArg (vP M) oM)) rfl (zS (A:=[]) (uB sizeOf26 (Pc.ta pH i oM) G am) fun ad T=>(go8 ?_)));refine gqL ((i+1),((U.set i ((O:Int):Rat)).set i (jD ah (2:Int))),ad,ao,h2) ?_ ?_
   · exact⟨mle,T,oM,by omega,by first|exact eF oM hh (j1 (n:=4) oM dC)|exact eF oM (fun u hu=>eF oM hh (j1 (n:=4) oM dC) u oM) (zIW oM)⟩
   omega
  refine go8 ?_;refine gqL ((i+1),(U.set i ((O:Int):Rat)),ae,ap,au) ?_ ?_
  · exact⟨mle,G.up,oM,by omega,by first|exact eF oM hh (j1 (n:=4) oM dC)|exact eF oM (fun u hu=>eF oM hh (j1 (n:=4) oM dC) u oM) (zIW oM)⟩
  omega
 refine go7 ?_;refine lX (xB zU pH H) fun bk ak=>(zS (A:=[_]) (uB sizeOf53 pH aj ak) fun bj J=>(go3 ?_));refine wM (kA (t:=2) zU mh1 rfl J) ?_;intro ax D I;refine zLP (fun E S=>zQ rfl D E S) ?_;exact⟨_,(.cons _ (.cons _ (List.Sublist.refl _))),ab,_,_,rfl,by omega,yAO (fun u hu=>hh u oM),I⟩
theorem zN9{w0:World}{h0:Mem}(hs:MLe h0 (mem w0)){m l:Nat}{vs:Value}{s:Pq}(rs:(tPl m l).Is h0 vs s)(hcd0:m≤1000000000):
 Calls Tryz.prog 209 #[vs] w0 (Ret w0 h0 (fun h r=>r=.tuple #[vI (↑(axI s.1):Int),vI (↑(axJ s.1):Int),vI (↑(axK s.1):Int)])):=by
 refine cb1 29 vs func209 hs ?_;refine go2 ?_;refine nB rs fun b1 an D=>(dE ?_);refine lX (xB yB (Pc.fst (Pc.tz pH)) D) fun ak ac=>(cL (ev1 rfl) call17 (fun w hs=>qM hs ac oM) fun Y h1 am ab=>?_);obtain rfl:Y=vI (xJ s.1.z):=ab;have ae:=wI s.1.z;refine gc3 (fun U=>?_) fun U=>?_
 ·
  refine qT ?_;refine lX (xB yB (Pc.fst (Pc.ty pH)) D) fun aj aa=>(cL (ev1 rfl) call17 (fun w hs=>qM hs aa oM) fun X h2 ai Z=>?_);obtain rfl:X=vI (xJ s.1.y):=Z;have ad:=wI s.1.y;refine gc3 (fun T=>?_) fun T=>?_
  ·
   refine qO ?_;refine lX (xB yB (Pc.fst (Pc.tx pH)) D) fun S H=>(cL (ev1 rfl) call17 (fun w hs=>qM hs H oM) fun C h3 ah G=>?_);obtain rfl:C=vI (xJ s.1.x):=G;have I:=wI s.1.x;refine gc3 (fun u=>?_) fun u=>?_
   ·
    refine zSA ?_;refine qY rfl rfl rfl rfl ?_;have O:axI s.1=2:=by unfold axI;simp only[uO,qC] at *;grind
    have M:axJ s.1=1:=by unfold axJ;simp only[uO,qC] at *;grind
    have J:axK s.1=0:=by unfold axK;simp only[uO,qC] at *;grind
    rw[O,M,J];rfl
   refine sL ?_;refine qY rfl rfl rfl rfl ?_;have O:axI s.1=1:=by unfold axI;simp only[uO,qC] at *;grind
   have M:axJ s.1=2:=by unfold axJ;simp only[uO,qC] at *;grind
   have J:axK s.1=0:=by unfold axK;simp only[uO,qC] at *;grind
   rw[O,M,J];rfl
  refine go8 ?_;refine lX (xB yB (Pc.fst (Pc.ty pH)) D) fun S H=>(cL (ev1 rfl) call17 (fun w hs=>qM hs H oM) fun C h3 ah G=>?_);obtain rfl:C=vI (xJ s.1.y):=G;have I:=wI s.1.y;refine gc3 (fun u=>?_) fun u=>?_
  ·
   refine zSA ?_;refine qY rfl rfl rfl rfl ?_;have O:axI s.1=0:=by unfold axI;simp only[uO,qC] at *;grind
   have M:axJ s.1=2:=by unfold axJ;simp only[uO,qC] at *;grind
   have J:axK s.1=1:=by unfold axK;simp only[uO,qC] at *;grind
   rw[O,M,J];rfl
  refine sL ?_;refine qY rfl rfl rfl rfl ?_;have O:axI s.1=2:=by unfold axI;simp only[uO,qC] at *;grind
  have M:axJ s.1=0:=by unfold axJ;simp only[uO,qC] at *;grind
  have J:axK s.1=1:=by unfold axK;simp only[uO,qC] at *;grind
  rw[O,M,J];rfl
 refine go8 ?_;refine lX (xB yB (Pc.fst (Pc.tz pH)) D) fun S H=>(cL (ev1 rfl) call17 (fun w hs=>qM hs H oM) fun C h2 ai G=>?_);obtain rfl:C=vI (xJ s.1.z):=G;have I:=wI s.1.z;refine gc3 (fun u=>?_) fun u=>?_
 ·
  refine zSA ?_;refine qY rfl rfl rfl rfl ?_;have O:axI s.1=1:=by unfold axI;simp only[uO,qC] at *;grind
  have M:axJ s.1=0:=by unfold axJ;simp only[uO,qC] at *;grind
  have J:axK s.1=2:=by unfold axK;simp only[uO,qC] at *;grind
  rw[O,M,J];rfl
 refine sL ?_;refine qY rfl rfl rfl rfl ?_;have O:axI s.1=0:=by unfold axI;simp only[uO,qC] at *;grind
 have M:axJ s.1=1:=by unfold axJ;simp only[uO,qC] at *;grind
 have J:axK s.1=2:=by unfold axK;simp only[uO,qC] at *;grind
 rw[O,M,J];rfl
theorem zGD{w0:World}{h0:Mem}(hs:MLe h0 (mem w0)){m l k:Nat}{vs:Value}{s:Pq}(rs:(tPl m l).Is h0 vs s){vp:Value}{p:Tq}(rp:(tPt k).Is h0 vp p)(hcd0:k≤1000000000)(hcd1:m≤1000000000):
 Calls Tryz.prog 208 #[vs,vp] w0 (Ret w0 h0 (fun h r=>(tPt (k+1)).Is h r (cH s p))):=by
 refine cb2 21 vs vp func208 hs ?_;refine go2 ?_;refine nB rs fun b2 ai I=>(nB rp fun G ah D=>(nA (ρ:=(tPt (k+1))) (X:=zT) yW (xY (yH oM)) fun b4 ae H=>(go4 ?_)));refine lX (xB zG6 pH I) fun v9 r9=>(cL (ev1 rfl) call209 (fun w hs=>zN9 hs r9 oM) fun ac h1 ad T=>?_);obtain rfl:=T;refine uQ ?_;refine zK 7 _ [] [(0,.q),(1,.q),(2,.q),(3,.q),(4,.q),(5,.q),(6,.q),(7,.t)] yC nX (by kernel_rfl) nX (fun r hr=>hr) (go1 ?_);refine xK rfl (fun _ _=>(zX (sz:=3) (axI s.1) underlying53 sizeOf26 rfl rfl (by rfl) (by exact zTB _)).cv (show _=vP G (((axI s.1)*3+0)) from congrArg (vP G) oM)) rfl (wX rfl (xB yB (Pc.ta pH (axI s.1) (by exact zTB _)) D) fun ab O=>(go1 ?_));refine xK rfl (fun _ _=>(zX (sz:=3) (axJ s.1) underlying53 sizeOf26 rfl rfl (by rfl) (by exact zTA _)).cv (show _=vP G (((axJ s.1)*3+0)) from congrArg (vP G) oM)) rfl (wX rfl (xB yB (Pc.ta pH (axJ s.1) (by exact zTA _)) D) fun aa M=>(wX rfl (xV (ρ:=(tPt (k+1))) (xD (ps':=[(0,_),(1,_)]) underlying53 yW rfl rfl sizeOf26 e4z rfl (xY (yH oM)) (zI rfl (Pc.tx (Pc.here _)) (O.le (Le.q (l:=k+1) oM)) (zI rfl (Pc.ty (Pc.here _)) (M.le (Le.q (l:=k+1) oM)) zY)))) fun Z J=>(yK (A:=[]) rfl (uB sizeOf53 pH H J) fun U C=>(go3 ?_))));refine wM (kA (t:=4) zU mh0 rfl C) ?_;intro Y u z;refine yG (fun E S=>zQ rfl u E S) ?_;exact z
theorem zOB{w0:World}{h0:Mem}(hs:MLe h0 (mem w0)){m l k:Nat}{vs:Value}{s:Pq}(rs:(tPl m l).Is h0 vs s){vp:Value}{p:Tq}(rp:(tPt k).Is h0 vp p)(hcd0:k≤1000000)(hcd1:l≤1000000)(hcd2:m≤1000000):
 Calls Tryz.prog 153 #[vs,vp] w0 (Ret w0 h0 (fun _ r=>r=vI (xJ (jH s.1 p-s.2)))):=by
 refine cb2 13 vs vp func153 hs ?_;refine go2 ?_;refine nB rs fun b2 ab z=>(nB rp fun b3 aa D=>(go4 ?_));refine zK 9 _ [] [(0,.q),(1,.q),(2,.q),(4,.q),(5,.q),(3,.c),(6,.c),(7,.c),(8,.q)] yC nX (by kernel_rfl) nX (fun r U=>U) (go1 ?_);refine wX rfl (xB zU (Pc.fst pH) z) fun v6 T=>(wX rfl (xB zU pH D) fun v7 S=>(go1 ?_));refine wX rfl (xB yB (Pc.snd pH) z) fun O I=>?_;refine w_c rfl (sC (ev2 rfl rfl) call44 (fun w hs=>w8 hs T S oM) fun v8 h1 Z G=>?_);replace G:=Rp.Is.le G (Le.q (l:=3*k+3*m+9) oM);refine w_c rfl (sC (ev2 rfl rfl) call16 (fun w hs=>bM hs G I.up oM) fun M h2 Y u=>?_);replace u:=Rp.Is.le u (Le.q (l:=3*k+l+3*m+10) oM);refine w_c rfl (sC (ev1 rfl) call17 (fun w hs=>qM hs u oM) fun C h3 X H=>?_);obtain rfl:C=vI (xJ ((jH s.1 p)-s.2)):=H;have J:=wI ((jH s.1 p)-s.2);refine go4 ?_;refine zD rfl rfl ?_
 rfl
end Go.Proofs.YtboaboflnckgoaaGreat
namespace Bk
set_option linter.unusedVariables false
set_option linter.unusedSimpArgs false
open Classical
def wE(a b:Pt):Pt:=T3.mk (a.x+b.x) (a.y+b.y) (a.z+b.z)
def moved(l l':List Pt)(v:Pt):Prop:=l'.length=l.length∧∀q,q<l.length→gp l' q=wE (gp l q) v
def sh(a v:P2):P2:=(a.1+v.1,a.2+v.2)
end Bk
namespace Bk
set_option linter.unusedVariables false
set_option linter.unusedSimpArgs false
open Classical
def reved(l z:List Pt):Prop:=z.length=l.length∧∀q,q<l.length→gp z q=gp l (l.length-1-q)
def sN(n m:Nat):Nat:=if m+1=n then m else n-2-m
def movTo(l y:List Pt)(v:Pt)(m:Nat):Prop:=y.length=m∧∀q,q<m→gp y q=wE (gp l q) v
def revTo(l z:List Pt)(m:Nat):Prop:=z.length=m∧∀q,q<m→gp z q=gp l (l.length-1-q)
end Bk
namespace Bk
set_option linter.unusedVariables false
set_option linter.unusedSimpArgs false
open Classical
def hgt(pl:Pl)(p:Pt):Rat:=jH pl.1 p-pl.2
noncomputable def sdZ(pl:Pl)(p:Pt):Int:=xJ (hgt pl p)
def lerp(t:Rat)(a b:Pt):Pt:=T3.mk (a.x+t*(b.x-a.x)) (a.y+t*(b.y-a.y)) (a.z+t*(b.z-a.z))
noncomputable def yBQ(pl:Pl)(a b:Pt):Rat:=if hgt pl a-hgt pl b=0 then 0 else hgt pl a/(hgt pl a-hgt pl b)
noncomputable def btw(pl:Pl)(a b:Pt):Pt:=lerp (yBQ pl a b) a b
abbrev nx(l:List Pt)(m:Nat):Pt:=gp l ((m+1)%l.length)
def xP(pl:Pl)(l:List Pt)(m:Nat):Prop:=sdZ pl (gp l m)*sdZ pl (nx l m)<0
noncomputable def zZ1(pl:Pl)(l:List Pt):Nat→List Pt
  |0=>[]
  |m+1=>zZ1 pl l m++(if sdZ pl (gp l m)≤0 then[gp l m] else[])++(if xP pl l m then[btw pl (gp l m) (nx l m)] else[])
noncomputable def zZI(pl:Pl)(l:List Pt):Nat→List Pt
  |0=>[]
  |m+1=>zZI pl l m++(if 0≤sdZ pl (gp l m) then[gp l m] else[])++(if xP pl l m then[btw pl (gp l m) (nx l m)] else[])
def zWX(pl:Pl)(l:List Pt):Nat→Prop
  |0=>False
  |m+1=>zWX pl l m∨sdZ pl (gp l m)<0
def zTD(pl:Pl)(l:List Pt):Nat→Prop
  |0=>False
  |m+1=>zTD pl l m∨0<sdZ pl (gp l m)
noncomputable def cutB(pl:Pl)(l:List Pt):List Pt:=if zWX pl l l.length∨¬zTD pl l l.length then zZ1 pl l l.length else[]
noncomputable def cutF(pl:Pl)(l:List Pt):List Pt:=if zTD pl l l.length then zZI pl l l.length else[]
section
variable {pl:Pl}{l B:List Pt}{m:Nat}
noncomputable def bkH(pl:Pl)(l:List Pt)(m:Nat):List Pt:=zZ1 pl l m++(if sdZ pl (gp l m)≤0 then[gp l m] else[])
noncomputable def frH(pl:Pl)(l:List Pt)(m:Nat):List Pt:=zZI pl l m++(if 0≤sdZ pl (gp l m) then[gp l m] else[])
end
end Bk
namespace Bk
set_option linter.unusedVariables false
set_option linter.unusedSimpArgs false
open Classical
def triT(P:Nat→P2)(n:Nat):Prop:=∀i j k,i<j→j<k→k<n→0<cr (P i) (P j) (P k)
def edgeT(P:Nat→P2)(n:Nat):Prop:=∀i k,i<n→2≤k→k<n→0<cr (P i) (P ((i+1)%n)) (P ((i+k)%n))
def lp(t:Rat)(a b:P2):P2:=(a.1+t*(b.1-a.1),a.2+t*(b.2-a.2))
def ex(P:Nat→P2)(n m:Nat):P2:=P (m%n)
abbrev Mk:=Nat×Bool
def mkP(P:Nat→P2)(n:Nat)(t:Nat→Rat)(M:Mk):P2:=if M.2 then lp (t M.1) (ex P n M.1) (ex P n (M.1+1)) else ex P n M.1
def mkLt(A B:Mk):Prop:=A.1<B.1∨(A.1=B.1∧A.2=false∧B.2=true)
def chg(s:Nat→Int)(n m:Nat):Prop:=s m*s ((m+1)%n)<0
noncomputable def mks(s:Nat→Int)(n:Nat):Nat→List Mk
  |0=>[]
  |m+1=>mks s n m++(if s m≤0 then[(m,false)] else[])++(if chg s n m then[(m,true)] else[])
end Bk
namespace Bk
set_option linter.unusedVariables false
set_option linter.unusedSimpArgs false
open Classical
def inC(P:Nat→P2)(n:Nat)(p:P2):Prop:=∀m,m<n→0≤cr (P m) (P ((m+1)%n)) p
def afZ(w:Rat×Rat×Rat)(p:P2):Rat:=w.1+w.2.1*p.1+w.2.2*p.2
def mkS(S:Nat→Int)(M:Mk):Prop:=if M.2 then S M.1*S (M.1+1)<0 else S M.1≤0
def nxM(L:List Mk)(n q:Nat):Mk:=if q+1<L.length then L.getD (q+1) (0,false) else((L.getD 0 (0,false)).1+n,(L.getD 0 (0,false)).2)
section
variable {s:Nat→Int}{n:Nat}
end
structure Cfg(P:Nat→P2)(n:Nat)(t:Nat→Rat)(s:Nat→Int)(w:Rat×Rat×Rat):Prop where
 h3:3≤n
 tri:triT P n
 per:∀m,t (m%n)=t m
 cross:∀m,m<n→chg s n m→(0<t m∧t m<1)∧afZ w (lp (t m) (P m) (P ((m+1)%n)))=0
 neg:∀m,m<n→(s m<0↔afZ w (P m)<0)
 zero:∀m,m<n→(s m=0↔afZ w (P m)=0)
section
variable {P:Nat→P2}{n:Nat}{t:Nat→Rat}{s:Nat→Int}{w:Rat×Rat×Rat}
def cx(u v:P2):Rat:=u.1*v.2-v.1*u.2
def arC(P:Nat→P2)(n:Nat):Nat→Rat
  |0=>0
  |m+1=>arC P n m+cx (P m) (P ((m+1)%n))
def arO(P:Nat→P2)(n:Nat)(o:P2):Nat→Rat
  |0=>0
  |m+1=>arO P n o m+cr o (P m) (P ((m+1)%n))
noncomputable def om(S:Nat→Int)(t:Nat→Rat)(e:Nat):Rat:=
 if S e≤0∧S (e+1)≤0 then 1 else if S e<0∧0<S (e+1) then t e else if 0<S e∧S (e+1)<0 then 1-t e else 0
noncomputable def yAC(S:Nat→Int)(t:Nat→Rat)(k:Nat→Rat):Nat→Rat
  |0=>0
  |e+1=>yAC S t k e+om S t e*k e
noncomputable def uM(S:Nat→Int)(t:Nat→Rat)(k:Nat→Rat)(M:Mk):Rat:=yAC S t k M.1+if M.2=true∧S M.1<0 then t M.1*k M.1 else 0
end
def ngW(w:Rat×Rat×Rat):Rat×Rat×Rat:=(-w.1,-w.2.1,-w.2.2)
section
variable {P:Nat→P2}{n:Nat}{t:Nat→Rat}{s:Nat→Int}{w:Rat×Rat×Rat}
end
end Bk
namespace Bk
set_option linter.unusedVariables false
set_option linter.unusedSimpArgs false
open Classical
noncomputable def pt2(pl:Pl)(p:Pt):P2:=pr p (axI pl.1) (axJ pl.1)
def convP(pl:Pl)(l:List Pt):Prop:=
 (3≤l.length∧¬pl.1=zT)∧(∀m,m<l.length→sdZ pl (gp l m)=0)∧∀m k,m<l.length→2≤k→k<l.length→0<orZ (pt2 pl (gp l m)) (pt2 pl (nx l m)) (pt2 pl (gp l ((m+k)%l.length)))
noncomputable def mk3(c:Pl)(l:List Pt)(M:Mk):Pt:=if M.2 then btw c (gp l M.1) (nx l M.1) else gp l M.1
noncomputable def sgB(c:Pl)(l:List Pt)(m:Nat):Int:=sdZ c (gp l m)
noncomputable def sgF(c:Pl)(l:List Pt)(m:Nat):Int:=-sdZ c (gp l m)
noncomputable def tC(c:Pl)(l:List Pt)(m:Nat):Rat:=yBQ c (gp l (m%l.length)) (nx l (m%l.length))
def aA(a b c:Pt):Rat:=jH a (sO b c)
end Bk
namespace Bk
set_option linter.unusedVariables false
set_option linter.unusedSimpArgs false
open Go Go.RowKit
open Classical
theorem zV5{k:Nat}{h:Mem}{v:Value}{p:T3 Rat}(s:(rpT (rpQ k)).Is h v p):lq p.x≤k∧lq p.y≤k∧lq p.z≤k:=by
 obtain⟨cs,⟨a,b,_,D,c,d,_,C,u⟩,_⟩:=s;exact⟨D.2,C.2,u.2⟩
theorem zPP{K k:Nat}{h:Mem}{v:Value}{p:T3 Rat}(s:(rpT (rpQ K)).Is h v p)(h1:lq p.x≤k)(h2:lq p.y≤k)(h3:lq p.z≤k):(rpT (rpQ k)).Is h v p:=by
 obtain⟨cs,⟨a,b,e,D,c,d,H,C,u⟩,G⟩:=s;exact⟨cs,⟨a,b,e,⟨D.1,h1⟩,c,d,H,⟨C.1,h2⟩,⟨u.1,h3⟩⟩,G⟩
end Bk
namespace Go.Proofs.YtboaboflnckgoaaGreat
open Bk Go Tryz
set_option linter.unusedVariables false
set_option linter.unusedSimpArgs false
set_option maxRecDepth 10000
set_option maxHeartbeats 1000000
attribute [local irreducible] GL GC GQ W OpV
theorem zRB{w0:World}{h0:Mem}(hs:MLe h0 (mem w0)){k l:Nat}{va:Value}{a:Tq}(ra:(tPt k).Is h0 va a){vb:Value}{b:Tq}(rb:(tPt l).Is h0 vb b)(hcd0:k+l≤1000000000):Calls Tryz.prog 34 #[va,vb] w0 (Ret w0 h0 (fun h r=>(tPt (k+l+1)).Is h r (T3.mk (a.x+b.x) (a.y+b.y) (a.z+b.z)))):=by
 obtain⟨I,H,G⟩:=zV5 ra;obtain⟨D,C,u⟩:=zV5 rb;exact(zRD hs ra rb hcd0).mono (kE fun h r x=>zPP x (by have:=jA a.x b.x;show lq (a.x+b.x)≤_;omega) (by have:=jA a.y b.y;show lq (a.y+b.y)≤_;omega) (by have:=jA a.z b.z;show lq (a.z+b.z)≤_;omega))
theorem zKZ{w0:World}{h0:Mem}(hs:MLe h0 (mem w0)){k l:Nat}{va:Value}{a:Tq}(ra:(tPt k).Is h0 va a){vb:Value}{b:Tq}(rb:(tPt l).Is h0 vb b)(hcd0:k+l≤10000000000):
 Calls Tryz.prog 116 #[va,vb,vF 70 []] w0 (Ret w0 h0 (fun h r=>(tPt (k+l+1+1)).Is h r (T3.mk (a.x+b.x) (a.y+b.y) (a.z+b.z)))):=by
 refine cb3 24 va vb (vF 70 []) func116 hs ?_;refine go2 ?_;refine nB ra fun b3 bh O=>(nB rb fun b4 bg M=>(nA (ρ:=(tPt (k+l+1+1))) (X:=zT) yW (xY (yH oM)) fun b6 bf av=>(go4 ?_)));refine nA (ρ:=(tPt (k+l+1+1))) (X:=zT) yW (xY (yH oM)) fun b7 be au=>(go9 ?_);refine tX (go2 ?_);refine gv (OpV.tr dC (yN (q:=3) rfl rfl)) rfl (tV ?_);refine zK 10 _ [] [(0,.q),(1,.q),(2,.q),(3,.q),(4,.q),(5,.q),(6,.q),(7,.q),(8,.c),(9,.q),(10,.t)] yC nX (by kernel_rfl) nX (fun r hr=>hr) (go4 ?_);refine wX rfl (xB yB (Pc.tx pH) O) fun ar ac=>(go2 ?_);refine wX rfl (xB yB (Pc.tx pH) M) fun ao Z=>?_;refine w_c rfl (cM (rH (vs:=[_,_]) call70 rfl e2z) rfl (fun w hs=>fJ hs ac Z oM) ?_);intro I h1 bd D
 change (rpQ (k+l+1)).Is h1 I (a.x+b.x) at D
 refine go1 ?_;refine yK (A:=[]) rfl (uB sizeOf26 (Pc.tx pH) au (D.le (Le.q (l:=k+l+1+1) oM))) fun az aj=>(go4 ?_);refine gv ((yA (q:=1) rfl rfl oM oM).cv (show _=vI (1) from rfl)) rfl (go2 ?_);refine wT (go2 ?_);refine gv (OpV.tr dC (yN (q:=3) rfl rfl)) rfl (tV ?_);refine zK 10 _ [] [(0,.q),(1,.q),(2,.q),(3,.q),(4,.q),(5,.q),(6,.q),(7,.q),(8,.c),(9,.q),(10,.t)] yC nX (by kernel_rfl) nX (fun r hr=>hr) (go4 ?_);refine wX rfl (xB yB (Pc.ty pH) O) fun aq ab=>(go2 ?_);refine wX rfl (xB yB (Pc.ty pH) M) fun an Y=>?_;refine w_c rfl (cM (rH (vs:=[_,_]) call70 rfl e2z) rfl (fun w hs=>fJ hs ab Y oM) ?_);intro H h2 bc C
 change (rpQ (k+l+1)).Is h2 H (a.y+b.y) at C
 refine go1 ?_;refine yK (A:=[]) rfl (uB sizeOf26 (Pc.ty pH) aj (C.le (Le.q (l:=k+l+1+1) oM))) fun ay ai=>(go4 ?_);refine gv ((yA (q:=1) rfl rfl oM oM).cv (show _=vI (2) from rfl)) rfl (go2 ?_);refine wT (go2 ?_);refine gv (OpV.tr dC (yN (q:=3) rfl rfl)) rfl (tV ?_);refine zK 10 _ [] [(0,.q),(1,.q),(2,.q),(3,.q),(4,.q),(5,.q),(6,.q),(7,.q),(8,.c),(9,.q),(10,.t)] yC nX (by kernel_rfl) nX (fun r hr=>hr) (go4 ?_);refine wX rfl (xB yB (Pc.tz pH) O) fun ap aa=>(go2 ?_);refine wX rfl (xB yB (Pc.tz pH) M) fun am U=>?_;refine w_c rfl (cM (rH (vs:=[_,_]) call70 rfl e2z) rfl (fun w hs=>fJ hs aa U oM) ?_);intro G h3 bb u
 change (rpQ (k+l+1)).Is h3 G (a.z+b.z) at u
 refine go1 ?_;refine yK (A:=[]) rfl (uB sizeOf26 (Pc.tz pH) ai (u.le (Le.q (l:=k+l+1+1) oM))) fun ax ah=>(go4 ?_);refine gv ((yA (q:=1) rfl rfl oM oM).cv (show _=vI (3) from rfl)) rfl (go2 ?_);refine wT (go2 ?_);refine gv (OpV.fa dC (yN (q:=3) rfl rfl)) rfl (qT ?_);refine lX (xB zU pH ah) fun ak T=>(zS (A:=[_]) (uB sizeOf53 pH av T) fun aw ae=>(go3 ?_));refine wM (kA (t:=6) zU mh1 rfl ae) ?_;intro ba ad J;refine yG (fun E S=>zQ rfl ad E S) ?_;exact J
theorem zKX{w0:World}{h0:Mem}(hs:MLe h0 (mem w0)){k l:Nat}{va:Value}{a:Tq}(ra:(tPt k).Is h0 va a){vb:Value}{b:Tq}(rb:(tPt l).Is h0 vb b)(hcd0:k+l≤10000000000):
 Calls Tryz.prog 116 #[va,vb,vF 179 []] w0 (Ret w0 h0 (fun h r=>(tPt (k+l+1+1)).Is h r (T3.mk (a.x-b.x) (a.y-b.y) (a.z-b.z)))):=by
 refine cb3 24 va vb (vF 179 []) func116 hs ?_;refine go2 ?_;refine nB ra fun b3 bh aa=>(nB rb fun b4 bg Z=>(nA (ρ:=(tPt (k+l+1+1))) (X:=zT) yW (xY (yH oM)) fun b6 bf av=>(go4 ?_)));refine nA (ρ:=(tPt (k+l+1+1))) (X:=zT) yW (xY (yH oM)) fun b7 be au=>(go9 ?_);refine tX (go2 ?_);refine gv (OpV.tr dC (yN (q:=3) rfl rfl)) rfl (tV ?_);refine zK 10 _ [] [(0,.q),(1,.q),(2,.q),(3,.q),(4,.q),(5,.q),(6,.q),(7,.q),(8,.c),(9,.q),(10,.t)] yC nX (by kernel_rfl) nX (fun r hr=>hr) (go4 ?_);refine wX rfl (xB yB (Pc.tx pH) aa) fun ar aj=>(go2 ?_);refine wX rfl (xB yB (Pc.tx pH) Z) fun ao ae=>?_;refine w_c rfl (cM (rH (vs:=[_,_]) call179 rfl e2z) rfl (fun w hs=>cX hs aj ae oM) ?_);intro J h1 bd D
 change (rpQ (k+l+1)).Is h1 J (a.x-b.x) at D
 refine go1 ?_;refine yK (A:=[]) rfl (uB sizeOf26 (Pc.tx pH) au (D.le (Le.q (l:=k+l+1+1) oM))) fun az Y=>(go4 ?_);refine gv ((yA (q:=1) rfl rfl oM oM).cv (show _=vI (1) from rfl)) rfl (go2 ?_);refine wT (go2 ?_);refine gv (OpV.tr dC (yN (q:=3) rfl rfl)) rfl (tV ?_);refine zK 10 _ [] [(0,.q),(1,.q),(2,.q),(3,.q),(4,.q),(5,.q),(6,.q),(7,.q),(8,.c),(9,.q),(10,.t)] yC nX (by kernel_rfl) nX (fun r hr=>hr) (go4 ?_);refine wX rfl (xB yB (Pc.ty pH) aa) fun aq ai=>(go2 ?_);refine wX rfl (xB yB (Pc.ty pH) Z) fun an ad=>?_;refine w_c rfl (cM (rH (vs:=[_,_]) call179 rfl e2z) rfl (fun w hs=>cX hs ai ad oM) ?_);intro I h2 bc C
 change (rpQ (k+l+1)).Is h2 I (a.y-b.y) at C
 refine go1 ?_;refine yK (A:=[]) rfl (uB sizeOf26 (Pc.ty pH) Y (C.le (Le.q (l:=k+l+1+1) oM))) fun ay U=>(go4 ?_);refine gv ((yA (q:=1) rfl rfl oM oM).cv (show _=vI (2) from rfl)) rfl (go2 ?_);refine wT (go2 ?_);refine gv (OpV.tr dC (yN (q:=3) rfl rfl)) rfl (tV ?_);refine zK 10 _ [] [(0,.q),(1,.q),(2,.q),(3,.q),(4,.q),(5,.q),(6,.q),(7,.q),(8,.c),(9,.q),(10,.t)] yC nX (by kernel_rfl) nX (fun r hr=>hr) (go4 ?_);refine wX rfl (xB yB (Pc.tz pH) aa) fun ap ah=>(go2 ?_);refine wX rfl (xB yB (Pc.tz pH) Z) fun am ac=>?_;refine w_c rfl (cM (rH (vs:=[_,_]) call179 rfl e2z) rfl (fun w hs=>cX hs ah ac oM) ?_);intro H h3 bb u
 change (rpQ (k+l+1)).Is h3 H (a.z-b.z) at u
 refine go1 ?_;refine yK (A:=[]) rfl (uB sizeOf26 (Pc.tz pH) U (u.le (Le.q (l:=k+l+1+1) oM))) fun ax T=>(go4 ?_);refine gv ((yA (q:=1) rfl rfl oM oM).cv (show _=vI (3) from rfl)) rfl (go2 ?_);refine wT (go2 ?_);refine gv (OpV.fa dC (yN (q:=3) rfl rfl)) rfl (qT ?_);refine lX (xB zU pH T) fun ak ab=>(zS (A:=[_]) (uB sizeOf53 pH av ab) fun aw O=>(go3 ?_));refine wM (kA (t:=6) zU mh1 rfl O) ?_;intro ba G M;refine yG (fun E S=>zQ rfl G E S) ?_;exact M
theorem zKY{w0:World}{h0:Mem}(hs:MLe h0 (mem w0)){k l:Nat}{va:Value}{a:Tq}(ra:(tPt k).Is h0 va a){vb:Value}{b:Tq}(rb:(tPt l).Is h0 vb b)(hcd0:k+l≤10000000000):
 Calls Tryz.prog 116 #[va,vb,vF 76 []] w0 (Ret w0 h0 (fun h r=>(tPt (k+l+1)).Is h r (T3.mk (a.x*b.x) (a.y*b.y) (a.z*b.z)))):=by
 refine cb3 24 va vb (vF 76 []) func116 hs ?_;refine go2 ?_;refine nB ra fun b3 bh ah=>(nB rb fun b4 bg ae=>(nA (ρ:=(tPt (k+l+1))) (X:=zT) yW (xY (yH oM)) fun b6 bf av=>(go4 ?_)));refine nA (ρ:=(tPt (k+l+1))) (X:=zT) yW (xY (yH oM)) fun b7 be au=>(go9 ?_);refine tX (go2 ?_);refine gv (OpV.tr dC (yN (q:=3) rfl rfl)) rfl (tV ?_);refine zK 10 _ [] [(0,.q),(1,.q),(2,.q),(3,.q),(4,.q),(5,.q),(6,.q),(7,.q),(8,.c),(9,.q),(10,.t)] yC nX (by kernel_rfl) nX (fun r hr=>hr) (go4 ?_);refine wX rfl (xB yB (Pc.tx pH) ah) fun ar aj=>(go2 ?_);refine wX rfl (xB yB (Pc.tx pH) ae) fun aq ai=>?_;refine w_c rfl (cM (rH (vs:=[_,_]) call76 rfl e2z) rfl (fun w hs=>qS hs aj ai oM) ?_);intro Y h1 bd D
 change (rpQ (k+l)).Is h1 Y (a.x*b.x) at D
 refine go1 ?_;refine yK (A:=[]) rfl (uB sizeOf26 (Pc.tx pH) au (D.le (Le.q (l:=k+l+1) oM))) fun az ad=>(go4 ?_);refine gv ((yA (q:=1) rfl rfl oM oM).cv (show _=vI (1) from rfl)) rfl (go2 ?_);refine wT (go2 ?_);refine gv (OpV.tr dC (yN (q:=3) rfl rfl)) rfl (tV ?_);refine zK 10 _ [] [(0,.q),(1,.q),(2,.q),(3,.q),(4,.q),(5,.q),(6,.q),(7,.q),(8,.c),(9,.q),(10,.t)] yC nX (by kernel_rfl) nX (fun r hr=>hr) (go4 ?_);refine wX rfl (xB yB (Pc.ty pH) ah) fun ap T=>(go2 ?_);refine wX rfl (xB yB (Pc.ty pH) ae) fun an M=>?_;refine w_c rfl (cM (rH (vs:=[_,_]) call76 rfl e2z) rfl (fun w hs=>qS hs T M oM) ?_);intro H h2 bc C
 change (rpQ (k+l)).Is h2 H (a.y*b.y) at C
 refine go1 ?_;refine yK (A:=[]) rfl (uB sizeOf26 (Pc.ty pH) ad (C.le (Le.q (l:=k+l+1) oM))) fun ay ac=>(go4 ?_);refine gv ((yA (q:=1) rfl rfl oM oM).cv (show _=vI (2) from rfl)) rfl (go2 ?_);refine wT (go2 ?_);refine gv (OpV.tr dC (yN (q:=3) rfl rfl)) rfl (tV ?_);refine zK 10 _ [] [(0,.q),(1,.q),(2,.q),(3,.q),(4,.q),(5,.q),(6,.q),(7,.q),(8,.c),(9,.q),(10,.t)] yC nX (by kernel_rfl) nX (fun r hr=>hr) (go4 ?_);refine wX rfl (xB yB (Pc.tz pH) ah) fun ao O=>(go2 ?_);refine wX rfl (xB yB (Pc.tz pH) ae) fun am J=>?_;refine w_c rfl (cM (rH (vs:=[_,_]) call76 rfl e2z) rfl (fun w hs=>qS hs O J oM) ?_);intro G h3 bb u
 change (rpQ (k+l)).Is h3 G (a.z*b.z) at u
 refine go1 ?_;refine yK (A:=[]) rfl (uB sizeOf26 (Pc.tz pH) ac (u.le (Le.q (l:=k+l+1) oM))) fun ax ab=>(go4 ?_);refine gv ((yA (q:=1) rfl rfl oM oM).cv (show _=vI (3) from rfl)) rfl (go2 ?_);refine wT (go2 ?_);refine gv (OpV.fa dC (yN (q:=3) rfl rfl)) rfl (qT ?_);refine lX (xB zU pH ab) fun ak I=>(zS (A:=[_]) (uB sizeOf53 pH av I) fun aw aa=>(go3 ?_));refine wM (kA (t:=6) zU mh1 rfl aa) ?_;intro ba U Z;refine yG (fun E S=>zQ rfl U E S) ?_;exact Z
theorem zBU{w0:World}{h0:Mem}(hs:MLe h0 (mem w0)){k l:Nat}{va:Value}{a:Tq}(ra:(tPt k).Is h0 va a){vb:Value}{b:Tq}(rb:(tPt l).Is h0 vb b)(hcd0:k+l≤10000000000):
 Calls Tryz.prog 71 #[va,vb] w0 (Ret w0 h0 (fun h r=>(tPt (k+l+2)).Is h r (T3.mk (a.x+b.x) (a.y+b.y) (a.z+b.z)))):=by
 refine cb2 8 va vb func71 hs ?_;refine go2 ?_;refine nB ra fun b2 ab I=>(nB rb fun b3 aa H=>(nA (ρ:=(tPt (k+l+2))) (X:=zT) yW (xY (yH oM)) fun b4 Z G=>(go4 ?_)));refine lX (xB zU pH I) fun v5 U=>(lX (xB zU pH H) fun v6 T=>(cL (ev3 rfl rfl rfl) call116 (fun w hs=>zKZ hs U T oM) fun v7 h1 Y J=>?_));replace J:=Rp.Is.le J (Le.t (Le.q (l:=k+l+2) oM));refine zS (A:=[]) (uB sizeOf53 pH G J) fun M D=>(go3 ?_);refine wM (kA (t:=4) zU mh0 rfl D) ?_;intro O u C;refine yG (fun E S=>zQ rfl u E S) ?_;exact C
theorem zMH{w0:World}{h0:Mem}(hs:MLe h0 (mem w0)){k l:Nat}{va:Value}{a:Tq}(ra:(tPt k).Is h0 va a){vb:Value}{b:Tq}(rb:(tPt l).Is h0 vb b)(hcd0:k+l≤10000000000):
 Calls Tryz.prog 133 #[va,vb] w0 (Ret w0 h0 (fun h r=>(tPt (k+l+2)).Is h r (T3.mk (a.x-b.x) (a.y-b.y) (a.z-b.z)))):=by
 refine cb2 8 va vb func133 hs ?_;refine go2 ?_;refine nB ra fun b2 ab I=>(nB rb fun b3 aa H=>(nA (ρ:=(tPt (k+l+2))) (X:=zT) yW (xY (yH oM)) fun b4 Z G=>(go4 ?_)));refine lX (xB zU pH I) fun v5 U=>(lX (xB zU pH H) fun v6 T=>(cL (ev3 rfl rfl rfl) call116 (fun w hs=>zKX hs U T oM) fun v7 h1 Y J=>?_));replace J:=Rp.Is.le J (Le.t (Le.q (l:=k+l+2) oM));refine zS (A:=[]) (uB sizeOf53 pH G J) fun M D=>(go3 ?_);refine wM (kA (t:=4) zU mh0 rfl D) ?_;intro O u C;refine yG (fun E S=>zQ rfl u E S) ?_;exact C
theorem zAE{w0:World}{h0:Mem}(hs:MLe h0 (mem w0)){l k:Nat}{vq:Value}{q:Rat}(rq:(rpQ l).Is h0 vq q){va:Value}{a:Tq}(ra:(tPt k).Is h0 va a)(hcd0:k+l≤1000000000):
 Calls Tryz.prog 72 #[vq,va] w0 (Ret w0 h0 (fun h r=>(tPt (k+l+2)).Is h r (T3.mk (q*a.x) (q*a.y) (q*a.z)))):=by
 refine cb2 11 vq va func72 hs ?_;refine go2 ?_;refine nB rq fun b2 ad G=>(nB ra fun b3 ac J=>(nA (ρ:=(tPt (k+l+2))) (X:=zT) yW (xY (yH oM)) fun b4 ab I=>(go4 ?_)));refine lX (xB yB pH G) fun v5 r5=>(lX (xB yB pH G) fun v6 r6=>(lX (xB yB pH G) fun v7 Z=>(lX (xV (ρ:=(tPt (l+1))) (xD (ps':=[(0,_),(1,_),(2,_)]) underlying53 yW rfl rfl sizeOf26 e6z rfl (xY (yH oM)) (zI rfl (Pc.tx (Pc.here _)) (r5.le (Le.q (l:=l+1) oM)) (zI rfl (Pc.ty (Pc.here _)) (r6.le (Le.q (l:=l+1) oM)) (zI rfl (Pc.tz (Pc.here _)) (Z.le (Le.q (l:=l+1) oM)) zY))))) fun v8 Y=>(lX (xB zU pH J) fun v9 U=>(cL (ev3 rfl rfl rfl) call116 (fun w hs=>zKY hs Y U oM) fun T h1 aa H=>?_)))));replace H:=Rp.Is.le H (Le.t (Le.q (l:=k+l+2) oM));refine zS (A:=[]) (uB sizeOf53 pH I H) fun M D=>(go3 ?_);refine wM (kA (t:=4) zU mh0 rfl D) ?_;intro O u C;refine yG (fun E S=>zQ rfl u E S) ?_;exact C
theorem zMI{w0:World}{h0:Mem}(hs:MLe h0 (mem w0)){k l:Nat}{va:Value}{a:Tq}(ra:(tPt k).Is h0 va a){vb:Value}{b:Tq}(rb:(tPt l).Is h0 vb b)(hcd0:k+l≤1000000000):
 Calls Tryz.prog 88 #[va,vb] w0 (Ret w0 h0 (fun h r=>(rpQ (3*k+3*l+9)).Is h r (jH a b))):=by
 refine cb2 21 va vb func88 hs ?_;refine go2 ?_;refine nB ra fun b2 ca ay=>(nB rb fun b3 bz ax=>(nA (ρ:=(rpQ (3*k+3*l+9))) (X:=(0:Rat)) yP (yH oM) fun b4 bx bk=>(go4 ?_)));refine nA (ρ:=(rpQ 1)) (X:=(0:Rat)) yP (yH dC) fun b5 bw az=>(go9 ?_);refine tX (go2 ?_);refine gv (OpV.tr dC (yN (q:=3) rfl rfl)) rfl (tV ?_);refine zK 9 _ [] [(0,.q),(1,.q),(2,.q),(3,.q),(4,.q),(5,.q),(6,.q),(7,.c),(8,.c),(9,.t)] yC nX (by kernel_rfl) nX (fun r hr=>hr) (wX rfl (xB yB pH az) fun bj an=>(go2 ?_));refine wX rfl (xB yB (Pc.tx pH) ay) fun bg aj=>(go2 ?_);refine wX rfl (xB yB (Pc.tx pH) ax) fun bd ae=>?_;refine w_c rfl (sC (ev2 rfl rfl) call76 (fun w hs=>qS hs aj ae oM) fun aa h1 bv I=>?_)
 change (rpQ (k+l)).Is h1 aa (a.x*b.x) at I
 refine w_c rfl (sC (ev2 rfl rfl) call70 (fun w hs=>fJ hs an.up I oM) fun U h2 bu D=>?_)
 change (rpQ (1+(k+l)+1)).Is h2 U ((0:Rat)+(a.x*b.x)) at D
 replace D:=Rp.Is.le D (Le.q (l:=k+l+2) oM);have ar:=(Le.q (l:=k+l+2) oM).R az;refine yK (A:=[]) rfl (uB sizeOf26 pH ar D) fun bo M=>(go4 ?_);refine gv ((yA (q:=1) rfl rfl oM oM).cv (show _=vI (1) from rfl)) rfl (go2 ?_);refine wT (go2 ?_);refine gv (OpV.tr dC (yN (q:=3) rfl rfl)) rfl (tV ?_);refine zK 9 _ [] [(0,.q),(1,.q),(2,.q),(3,.q),(4,.q),(5,.q),(6,.q),(7,.c),(8,.c),(9,.t)] yC nX (by kernel_rfl) nX (fun r hr=>hr) (wX rfl (xB yB pH M) fun bi am=>(go2 ?_));refine wX rfl (xB yB (Pc.ty pH) ay) fun bf ai=>(go2 ?_);refine wX rfl (xB yB (Pc.ty pH) ax) fun bc ad=>?_;refine w_c rfl (sC (ev2 rfl rfl) call76 (fun w hs=>qS hs ai ad oM) fun Z h3 bt H=>?_)
 change (rpQ (k+l)).Is h3 Z (a.y*b.y) at H
 refine w_c rfl (sC (ev2 rfl rfl) call70 (fun w hs=>fJ hs am.up H oM) fun T h4 bs C=>?_)
 change (rpQ ((k+l+2)+(k+l)+1)).Is h4 T (((0:Rat)+(a.x*b.x))+(a.y*b.y)) at C
 replace C:=Rp.Is.le C (Le.q (l:=2*k+2*l+3) oM);have aq:=(Le.q (l:=2*k+2*l+3) oM).R M;refine yK (A:=[]) rfl (uB sizeOf26 pH aq C) fun bn J=>(go4 ?_);refine gv ((yA (q:=1) rfl rfl oM oM).cv (show _=vI (2) from rfl)) rfl (go2 ?_);refine wT (go2 ?_);refine gv (OpV.tr dC (yN (q:=3) rfl rfl)) rfl (tV ?_);refine zK 9 _ [] [(0,.q),(1,.q),(2,.q),(3,.q),(4,.q),(5,.q),(6,.q),(7,.c),(8,.c),(9,.t)] yC nX (by kernel_rfl) nX (fun r hr=>hr) (wX rfl (xB yB pH J) fun bh ak=>(go2 ?_));refine wX rfl (xB yB (Pc.tz pH) ay) fun be ah=>(go2 ?_);refine wX rfl (xB yB (Pc.tz pH) ax) fun bb ac=>?_;refine w_c rfl (sC (ev2 rfl rfl) call76 (fun w hs=>qS hs ah ac oM) fun Y h5 br G=>?_)
 change (rpQ (k+l)).Is h5 Y (a.z*b.z) at G
 refine w_c rfl (sC (ev2 rfl rfl) call70 (fun w hs=>fJ hs ak.up G oM) fun O h6 bq u=>?_)
 change (rpQ ((2*k+2*l+3)+(k+l)+1)).Is h6 O ((((0:Rat)+(a.x*b.x))+(a.y*b.y))+(a.z*b.z)) at u
 replace u:=Rp.Is.le u (Le.q (l:=3*k+3*l+4) oM);have ap:=(Le.q (l:=3*k+3*l+4) oM).R J;refine yK (A:=[]) rfl (uB sizeOf26 pH ap u) fun bm aw=>(go4 ?_);refine gv ((yA (q:=1) rfl rfl oM oM).cv (show _=vI (3) from rfl)) rfl (go2 ?_);refine wT (go2 ?_);refine gv (OpV.fa dC (yN (q:=3) rfl rfl)) rfl (qT ?_);refine lX (xB yB pH aw) fun ba ab=>(zS (A:=[_]) (uB sizeOf26 pH bk (ab.le (Le.q (l:=3*k+3*l+9) oM))) fun bl av=>(go3 ?_));refine wM (kA (t:=4) yB mh1 rfl av) ?_;intro bp ao au;refine yG (fun E S=>zQ rfl ao E S) ?_;exact(Rp.Is.cast au (by unfold jH;grind))
theorem zEV{w0:World}{h0:Mem}(hs:MLe h0 (mem w0)){k l:Nat}{va:Value}{a:Tq}(ra:(tPt k).Is h0 va a){vb:Value}{b:Tq}(rb:(tPt l).Is h0 vb b)(hcd0:k+l≤1000000000):
 Calls Tryz.prog 132 #[va,vb] w0 (Ret w0 h0 (fun h r=>(tPt (2*k+2*l+3)).Is h r (sO a b))):=by
 refine cb2 37 va vb func132 hs ?_;refine go2 ?_;refine nB ra fun b2 cm U=>(nB rb fun b3 cl T=>(nA (ρ:=(tPt (2*k+2*l+3))) (X:=zT) yW (xY (yH oM)) fun b4 ck bt=>(go4 ?_)));refine nA (ρ:=(tPt (2*k+2*l+3))) (X:=zT) yW (xY (yH oM)) fun b5 cj bs=>(go9 ?_);refine tX (go2 ?_);refine gv (OpV.tr dC (yN (q:=3) rfl rfl)) rfl (dE ?_);refine gv ((yA (q:=1) rfl rfl oM oM).cv (show _=vI (1) from rfl)) rfl (gv ((vW (q:=3) rfl rfl oM oM).cv (show _=vI (1) from rfl)) rfl (go1 ?_));refine gv ((yA (q:=2) rfl rfl oM oM).cv (show _=vI (2) from rfl)) rfl (gv ((vW (q:=3) rfl rfl oM oM).cv (show _=vI (2) from rfl)) rfl (go4 ?_));refine zK 17 _ [] [(0,.q),(1,.q),(2,.q),(3,.q),(4,.q),(5,.q),(6,.q),(8,.q),(9,.q),(10,.q),(11,.q),(12,.q),(13,.q),(7,.c),(14,.c),(15,.c),(16,.q),(17,.t)] yC nX (vJ (by kernel_rfl)) nX (fun r hr=>hr) (go3 ?_);refine wX rfl (xB yB (Pc.ty pH) U) fun br ay=>(go2 ?_);refine wX rfl (xB yB (Pc.tz pH) T) fun bo av=>(go2 ?_);refine wX rfl (xB yB (Pc.tz pH) U) fun bl aq=>(go2 ?_);refine wX rfl (xB yB (Pc.ty pH) T) fun bi an=>?_;refine w_c rfl (sC (ev2 rfl rfl) call76 (fun w hs=>qS hs ay av oM) fun ai h1 ci O=>?_)
 change (rpQ (k+l)).Is h1 ai (a.y*b.z) at O
 refine w_c rfl (sC (ev2 rfl rfl) call76 (fun w hs=>qS hs aq.up an.up oM) fun ad h2 ch I=>?_)
 change (rpQ (k+l)).Is h2 ad (a.z*b.y) at I
 refine w_c rfl (sC (ev2 rfl rfl) call179 (fun w hs=>cX hs O.up I oM) fun aa h3 cg D=>?_)
 change (rpQ ((k+l)+(k+l)+1)).Is h3 aa ((a.y*b.z)-(a.z*b.y)) at D
 replace D:=Rp.Is.le D (Le.q (l:=2*k+2*l+1) oM);refine go1 ?_;refine yK (A:=[]) rfl (uB sizeOf26 (Pc.tx pH) bs (D.le (Le.q (l:=2*k+2*l+3) oM))) fun bx be=>(go4 ?_);refine gv ((yA (q:=1) rfl rfl oM oM).cv (show _=vI (1) from rfl)) rfl (go2 ?_);refine wT (go2 ?_);refine gv (OpV.tr dC (yN (q:=3) rfl rfl)) rfl (dE ?_);refine gv ((yA (q:=1) rfl rfl oM oM).cv (show _=vI (2) from rfl)) rfl (gv ((vW (q:=3) rfl rfl oM oM).cv (show _=vI (2) from rfl)) rfl (go1 ?_));refine gv ((yA (q:=2) rfl rfl oM oM).cv (show _=vI (3) from rfl)) rfl (gv ((vW (q:=3) rfl rfl oM oM).cv (show _=vI (0) from rfl)) rfl (go4 ?_));refine zK 17 _ [] [(0,.q),(1,.q),(2,.q),(3,.q),(4,.q),(5,.q),(6,.q),(8,.q),(9,.q),(10,.q),(11,.q),(12,.q),(13,.q),(7,.c),(14,.c),(15,.c),(16,.q),(17,.t)] yC nX (vJ (by kernel_rfl)) nX (fun r hr=>hr) (go3 ?_);refine wX rfl (xB yB (Pc.tz pH) U) fun bq ax=>(go2 ?_);refine wX rfl (xB yB (Pc.tx pH) T) fun bn au=>(go2 ?_);refine wX rfl (xB yB (Pc.tx pH) U) fun bk ap=>(go2 ?_);refine wX rfl (xB yB (Pc.tz pH) T) fun bh am=>?_;refine w_c rfl (sC (ev2 rfl rfl) call76 (fun w hs=>qS hs ax au oM) fun ah h4 cf M=>?_)
 change (rpQ (k+l)).Is h4 ah (a.z*b.x) at M
 refine w_c rfl (sC (ev2 rfl rfl) call76 (fun w hs=>qS hs ap.up am.up oM) fun ac h5 ce H=>?_)
 change (rpQ (k+l)).Is h5 ac (a.x*b.z) at H
 refine w_c rfl (sC (ev2 rfl rfl) call179 (fun w hs=>cX hs M.up H oM) fun Z h6 cd C=>?_)
 change (rpQ ((k+l)+(k+l)+1)).Is h6 Z ((a.z*b.x)-(a.x*b.z)) at C
 replace C:=Rp.Is.le C (Le.q (l:=2*k+2*l+1) oM);refine go1 ?_;refine yK (A:=[]) rfl (uB sizeOf26 (Pc.ty pH) be (C.le (Le.q (l:=2*k+2*l+3) oM))) fun bw bd=>(go4 ?_);refine gv ((yA (q:=1) rfl rfl oM oM).cv (show _=vI (2) from rfl)) rfl (go2 ?_);refine wT (go2 ?_);refine gv (OpV.tr dC (yN (q:=3) rfl rfl)) rfl (dE ?_);refine gv ((yA (q:=1) rfl rfl oM oM).cv (show _=vI (3) from rfl)) rfl (gv ((vW (q:=3) rfl rfl oM oM).cv (show _=vI (0) from rfl)) rfl (go1 ?_));refine gv ((yA (q:=2) rfl rfl oM oM).cv (show _=vI (4) from rfl)) rfl (gv ((vW (q:=3) rfl rfl oM oM).cv (show _=vI (1) from rfl)) rfl (go4 ?_));refine zK 17 _ [] [(0,.q),(1,.q),(2,.q),(3,.q),(4,.q),(5,.q),(6,.q),(8,.q),(9,.q),(10,.q),(11,.q),(12,.q),(13,.q),(7,.c),(14,.c),(15,.c),(16,.q),(17,.t)] yC nX (vJ (by kernel_rfl)) nX (fun r hr=>hr) (go3 ?_);refine wX rfl (xB yB (Pc.tx pH) U) fun bp aw=>(go2 ?_);refine wX rfl (xB yB (Pc.ty pH) T) fun bm ar=>(go2 ?_);refine wX rfl (xB yB (Pc.ty pH) U) fun bj ao=>(go2 ?_);refine wX rfl (xB yB (Pc.tx pH) T) fun bg ak=>?_;refine w_c rfl (sC (ev2 rfl rfl) call76 (fun w hs=>qS hs aw ar oM) fun ae h7 cc J=>?_)
 change (rpQ (k+l)).Is h7 ae (a.x*b.y) at J
 refine w_c rfl (sC (ev2 rfl rfl) call76 (fun w hs=>qS hs ao.up ak.up oM) fun ab h8 cb G=>?_)
 change (rpQ (k+l)).Is h8 ab (a.y*b.x) at G
 refine w_c rfl (sC (ev2 rfl rfl) call179 (fun w hs=>cX hs J.up G oM) fun Y h9 ca u=>?_)
 change (rpQ ((k+l)+(k+l)+1)).Is h9 Y ((a.x*b.y)-(a.y*b.x)) at u
 replace u:=Rp.Is.le u (Le.q (l:=2*k+2*l+1) oM);refine go1 ?_;refine yK (A:=[]) rfl (uB sizeOf26 (Pc.tz pH) bd (u.le (Le.q (l:=2*k+2*l+3) oM))) fun bv bc=>(go4 ?_);refine gv ((yA (q:=1) rfl rfl oM oM).cv (show _=vI (3) from rfl)) rfl (go2 ?_);refine wT (go2 ?_);refine gv (OpV.fa dC (yN (q:=3) rfl rfl)) rfl (qT ?_);refine lX (xB zU pH bc) fun bf aj=>(zS (A:=[_]) (uB sizeOf53 pH bt aj) fun bu bb=>(go3 ?_));refine wM (kA (t:=4) zU mh1 rfl bb) ?_;intro bz az ba;refine yG (fun E S=>zQ rfl az E S) ?_;exact ba
end Go.Proofs.YtboaboflnckgoaaGreat
namespace Bk
set_option linter.unusedVariables false
set_option linter.unusedSimpArgs false
open Classical
def lpP(x:List Int):Prop:=(3≤x.length∧x.length≤64)∧∀i,i<x.length→(0≤(x.getD i 0)∧(x.getD i 0)<512)∧∀k,k<i→¬(x.getD i 0)=(x.getD k 0)
def vfP(L:List (List Int)):Prop:=(1≤L.length∧L.length≤16)∧∀l,l<L.length→lpP ((L.getD l []))
def vaP(F:List (List (List Int))):Prop:=F.length≤256∧∀f,f<F.length→vfP ((F.getD f []))
abbrev E5:=Int×Int×Int×Int×Int
def edX(x:List Int)(f l:Nat):Nat→List E5:=uU fun i=>((x.getD i 0),(x.getD ((i+1)%x.length) 0),(f:Int),(l:Int),(i:Int))
def edL(L:List (List Int))(f:Nat):Nat→List E5:=cE fun l=>edX ((L.getD l [])) f l ((L.getD l [])).length
def edF(F:List (List (List Int))):Nat→List E5:=cE fun f=>edL ((F.getD f [])) f ((F.getD f [])).length
def edZ(F:List (List (List Int))):List E5:=edF F F.length
abbrev e0:E5:=((0:Int),(0:Int),(0:Int),(0:Int),(0:Int))
def zVV(e:E5)(a b:Int):Prop:=e.1=a∧e.2.1=b
noncomputable def dU(E:List E5)(a b:Int):Nat→Int
  |0=>0
  |m+1=>if zVV ((E.getD m ((0:Int),(0:Int),(0:Int),(0:Int),(0:Int)))) a b then dU E a b m+1 else dU E a b m
theorem dT(E:List E5)(a b:Int):∀m,0≤dU E a b m∧dU E a b m≤m
  |0=>by unfold dU;omega
  |m+1=>by
   have h:=dT E a b m;unfold dU
   split<;>omega
theorem tm_t{E:List E5}{a b:Int}{m:Nat}(h:zVV ((E.getD m ((0:Int),(0:Int),(0:Int),(0:Int),(0:Int)))) a b):dU E a b m+1=dU E a b (m+1):=(if_pos h).symm
theorem tm_f{E:List E5}{a b:Int}{m:Nat}(h:¬zVV ((E.getD m ((0:Int),(0:Int),(0:Int),(0:Int),(0:Int)))) a b):dU E a b m=dU E a b (m+1):=(if_neg h).symm
noncomputable def tmZ(E:List E5)(a b:Int):Int:=dU E a b E.length
def yBL(E:List E5)(i:Nat):Prop:=tmZ E ((E.getD i ((0:Int),(0:Int),(0:Int),(0:Int),(0:Int)))).2.1 ((E.getD i ((0:Int),(0:Int),(0:Int),(0:Int),(0:Int)))).1<tmZ E ((E.getD i ((0:Int),(0:Int),(0:Int),(0:Int),(0:Int)))).1 ((E.getD i ((0:Int),(0:Int),(0:Int),(0:Int),(0:Int)))).2.1
noncomputable def zZS(E:List E5):Nat→List E5:=cG (yBL E) fun i=>((30:Int),(-1:Int),((E.getD i ((0:Int),(0:Int),(0:Int),(0:Int),(0:Int)))).2.2.1,((E.getD i ((0:Int),(0:Int),(0:Int),(0:Int),(0:Int)))).2.2.2.1,((E.getD i ((0:Int),(0:Int),(0:Int),(0:Int),(0:Int)))).2.2.2.2)
noncomputable def clZ(F:List (List (List Int))):List E5:=if vaP F then zZS (edZ F) (edZ F).length else[((1:Int),(-1:Int),(-1:Int),(-1:Int),(-1:Int))]
theorem zI2(x:List Int)(f l m:Nat):(edX x f l m).length=m:=wK _ _
theorem zDL{L:List (List Int)}(h:∀l,l<L.length→((L.getD l [])).length≤64)(f:Nat):∀m,m≤L.length→(edL L f m).length≤64*m
  |0,_=>Nat.le_refl _
  |m+1,hm=>by
   have h1:=zDL h f m (by omega);have h2:=h m (by omega)
   show List.length (edL L f m++edX (L.getD m []) f m (L.getD m []).length)≤_
   rw[lAz,zI2];omega
theorem j9{F:List (List (List Int))}(h:∀f,f<F.length→((F.getD f [])).length≤16∧∀l,l<((F.getD f [])).length→((((F.getD f [])).getD l [])).length≤64):∀m,m≤F.length→(edF F m).length≤1024*m
  |0,_=>Nat.le_refl _
  |m+1,hm=>by
   have h1:=j9 h m (by omega);have h2:=h m (by omega);have h3:=zDL h2.2 m _ (Nat.le_refl _)
   show List.length (edF F m++edL (F.getD m []) m (F.getD m []).length)≤_
   rw[lAz];omega
end Bk
namespace Bk
set_option linter.unusedVariables false
set_option linter.unusedSimpArgs false
open Go Go.RowKit
def yB3(w0:World)(h0:Mem)(h:Mem)(L:List Res)(G:Mem→Value→Res→Res→Prop):Ending→World→Prop:=
 sQ w0 h0 (fun g v K=>∃q' o,(o::q'::L).Sublist K∧MLe h g∧G g v q' o)
section
variable {P:Program}{n:Nat}{w0:World}{h0:Mem}{e:List (Nat×Value)}{L:List Res}{h:Mem}{Q:Exit→Act→World→Prop}
variable {ty:TypeId}{ps:String}{af:Array Edge}
end
end Bk
namespace Go.Proofs.YtboaboflnckgoaaGreat
open Bk Go Tryz
set_option linter.unusedVariables false
set_option linter.unusedSimpArgs false
set_option maxRecDepth 10000
set_option maxHeartbeats 1000000
attribute [local irreducible] GL GC GQ W OpV
theorem oQ{w0:World}{h0:Mem}(hs:MLe h0 (mem w0)){vL:Value}{L:(List (List Int))}(rL:tII.Is h0 vL L):
 Calls Tryz.prog 186 #[vL] w0 (Ret w0 h0 (fun _ r=>r=vB (vfP L))):=by
 refine cb1 65 vL func186 hs ?_;refine qT ?_;refine gU 5 14 (vB (((↑(L).length:Int)<(1:Int))∨((16:Int)<(↑(L).length:Int)))) ?_ ?_
 ·
  refine yD ((↑(L).length:Int)<(1:Int)) (fun z=>?_) (fun z=>?_)
  ·
   refine gT z rfl (go5 ?_);refine gqU ?_;exact congrArg some (vZ z)
  refine gF z rfl (go8 ?_);refine gqU ?_;exact congrArg some (uA z)
 refine gc2 (fun Z=>?_) fun Z=>?_
 ·
  refine go7 ?_;refine zD rfl rfl ?_;exact(yV (fun e=>by have:=e.1;omega)).symm
 refine go9 ?_;refine gcL (ι:=Nat×Mem) (fun(l,J)=>(MLe h0 J∧(l≤L.length∧∀u,u<l→lpP (L.getD u [])),[(0,vL),(3,vI ↑l)],[],J,L.length-l)) (0,h0) ?_ ?_
 · exact⟨mle,by omega,fun u h=>by omega⟩
 rintro⟨l,J⟩ ⟨au,bi,M⟩
 refine yU ?_;refine gc9 (fun Y=>?_) fun Y=>?_
 ·
  refine go8 ?_;refine lX (xI [] l underlying81 fO rL) fun bh ak=>(lX (xA fO ak) fun H D=>(go9 ?_));refine gU 5 32 (vB (((↑((L.getD l [])).length:Int)<(3:Int))∨((64:Int)<(↑((L.getD l [])).length:Int)))) ?_ ?_
  ·
   refine yD ((↑((L.getD l [])).length:Int)<(3:Int)) (fun z=>?_) (fun z=>?_)
   ·
    refine gT z rfl (go5 ?_);refine gqU ?_;exact congrArg some (vZ z)
   refine gF z rfl (go8 ?_);refine gqU ?_;exact congrArg some (uA z)
  refine gc2 (fun X=>?_) fun X=>?_
  ·
   refine qO ?_;refine zD rfl rfl ?_;exact(yV (fun e=>by have:=(e.2 l oM).1;omega)).symm
  refine go8 ?_;refine gcL (ι:=Nat×Mem) (fun(i,G)=>(MLe J G∧(i≤(L.getD l []).length∧∀u,u<i→(0≤(L.getD l []).getD u 0∧(L.getD l []).getD u 0<512)∧∀k,k<u→¬(L.getD l []).getD u 0=(L.getD l []).getD k 0),[(0,vL),(3,vI ↑l),(4,H),(5,vI ↑i)],[],G,(L.getD l []).length-i)) (0,J) ?_ ?_
  · exact⟨mle,by omega,fun u h=>by omega⟩
  rintro⟨i,G⟩ ⟨ar,bk,hi2⟩
  refine yU ?_;refine gc9 (fun U=>?_) fun U=>?_
  ·
   refine go9 ?_;refine lX (xI (0:Int) i underlying32 ty3 D) fun bg aj=>(lX (xA ty3 aj) fun bf ai=>?_);obtain⟨rfl,ay,ap⟩:=jX ai;refine go1 ?_;refine gU 7 50 (vB ((((L.getD l []).getD i (0:Int))<(0:Int))∨((512:Int)≤((L.getD l []).getD i (0:Int))))) ?_ ?_
   ·
    refine yD (((L.getD l []).getD i (0:Int))<(0:Int)) (fun z=>?_) (fun z=>?_)
    ·
     refine gT z rfl (go7 ?_);refine gqU ?_;exact congrArg some (vZ z)
    refine gF z rfl (go5 ?_);refine lX (xI (0:Int) i underlying32 ty3 D) fun be ah=>(go1 ?_);refine lX (xA ty3 ah) fun bd ae=>?_;obtain⟨rfl,ax,ao⟩:=jX ae;refine go4 ?_;refine gqU ?_;exact congrArg some (uA z)
   refine gc2 (fun T=>?_) fun T=>?_
   ·
    refine zAQ ?_;refine zD rfl rfl ?_;exact(yV (fun e=>by have:=((e.2 l oM).2 i oM).1;omega)).symm
   refine go8 ?_;refine gcL (ι:=Nat×Mem) (fun(k,I)=>(MLe G I∧(k≤i∧∀v,v<k→¬(L.getD l []).getD i 0=(L.getD l []).getD v 0),[(0,vL),(3,vI ↑l),(4,H),(5,vI ↑i),(6,vI ↑k)],[],I,i-k)) (0,G) ?_ ?_
   · exact⟨mle,by omega,fun u h=>by omega⟩
   rintro⟨k,I⟩ ⟨aq,bj,O⟩
   refine yU ?_;refine gc8 (fun S=>?_) fun S=>?_
   ·
    refine go5 ?_;refine zK 9 _ [] [(0,.q),(1,.q),(2,.q),(3,.q),(4,.q),(5,.q),(6,.q),(7,.q),(8,.q)] yC nX (by kernel_rfl) nX (fun r hr=>hr) (go2 ?_);refine wX rfl (xI (0:Int) i underlying32 ty3 D) fun bc ad=>(wX rfl (xA ty3 ad) fun bb ac=>?_);obtain⟨rfl,aw,an⟩:=jX ac;refine go2 ?_;refine wX rfl (xI (0:Int) k underlying32 ty3 D) fun ba ab=>(wX rfl (xA ty3 ab) fun az aa=>?_);obtain⟨rfl,av,am⟩:=jX aa;refine gc3 (fun C=>?_) fun C=>?_
    ·
     refine yBK ?_;refine zD rfl rfl ?_;exact(yV (fun e=>((e.2 l oM).2 i oM).2 k oM C)).symm
    refine go8 ?_;refine gqL ((k+1),I) ?_ ?_
    · exact⟨mle,by omega,qL (Q:=fun v=>¬(L.getD l []).getD i 0=(L.getD l []).getD v 0) O C⟩
    omega
   refine qT ?_;refine gqL ((i+1),I) ?_ ?_
   · exact⟨mle,by omega,qL (Q:=fun u=>(0≤(L.getD l []).getD u 0∧(L.getD l []).getD u 0<512)∧∀k,k<u→¬(L.getD l []).getD u 0=(L.getD l []).getD k 0) hi2 ⟨by omega,fun k hk=>O k oM⟩⟩
   omega
  refine qT ?_;refine gqL ((l+1),G) ?_ ?_
  · exact⟨mle,by omega,qL (Q:=fun u=>lpP (L.getD u [])) M ⟨by omega,fun u hu=>hi2 u oM⟩⟩
  omega
 refine qT ?_;refine zD rfl rfl ?_;exact(xM ⟨by omega,fun u hu=>M u oM⟩).symm
theorem zKS{w0:World}{h0:Mem}(hs:MLe h0 (mem w0)){vF:Value}{F:(List (List (List Int)))}(rF:(rpS tII).Is h0 vF F):
 Calls Tryz.prog 190 #[vF] w0 (Ret w0 h0 (fun _ r=>r=vB (vaP F))):=by
 refine cb1 19 vF func190 hs ?_;refine sL ?_;refine cnd (fun O=>?_) fun O=>?_
 ·
  refine go7 ?_;refine zD rfl rfl ?_;exact(yV (fun e=>by have:=e.1;omega)).symm
 refine go9 ?_;refine gcL (ι:=Nat×Mem) (fun(f,M)=>(MLe h0 M∧(f≤F.length∧∀u,u<f→vfP (F.getD u [])),[(0,vF),(3,vI ↑f)],[],M,F.length-f)) (0,h0) ?_ ?_
 · exact⟨mle,by omega,fun u h=>by omega⟩
 rintro⟨f,M⟩ ⟨S,Y,C⟩
 refine yU ?_;refine gc9 (fun D=>?_) fun D=>?_
 ·
  refine go8 ?_;refine lX (xI [] f underlying175 cJ rF) fun U J=>(lX (xA cJ J) fun T I=>(cL (ev1 rfl) call186 (fun w hs=>oQ hs I) fun G Z X H=>?_));obtain rfl:G=vB (vfP (F.getD f [])):=H;refine gc3 (fun z=>?_) fun z=>?_
  ·
   refine qT ?_;refine zD rfl rfl ?_;exact(yV (fun e=>z (e.2 f oM))).symm
  refine go8 ?_;refine gqL ((f+1),Z) ?_ ?_
  · exact⟨mle,by omega,qL (Q:=fun u=>vfP (F.getD u [])) C (Classical.not_not.1 z)⟩
  omega
 refine qT ?_;refine zD rfl rfl ?_;exact(xM ⟨by omega,fun u hu=>C u oM⟩).symm
theorem zCR{w0:World}{h0:Mem}(hs:MLe h0 (mem w0)){vF:Value}{F:(List (List (List Int)))}(rF:(rpS tII).Is h0 vF F)(hcd0:F.length≤1000)(hcd1:∀f,f<F.length→(F.getD f []).length≤16∧∀l,l<(F.getD f []).length→((F.getD f []).getD l []).length≤64):
 Calls Tryz.prog 174 #[vF] w0 (Ret w0 h0 (fun h r=>(rpS tE5).Is h r (edZ F))):=by
 refine cb1 56 vF func174 hs ?_;refine dE ?_;refine xR 193 5 ?_;have aa:=RL.nil (ρ:=rpP rpI (rpP rpI (rpP rpI (rpP rpI rpI)))) (h:=h0);refine gcL (ι:=Nat×List (Int×Int×Int×Int×Int)×Value×List Value×Mem) (fun(f,D0,D,H,ma)=>(MLe h0 ma∧(RL tE5 ma H D0∧f≤F.length∧D0=edF F f),[(0,vF),(3,D),(4,vI ↑f)],[.gs 193 5 D D0.length H],ma,F.length-f)) (0,[],(.slice none 0 0),[],h0) ?_ ?_
 · exact⟨mle,aa,by omega,rfl⟩
 rintro⟨f,D0,D,H,ma⟩ ⟨be,M,cf,aj⟩
 refine yU ?_;refine gc9 (fun ah=>?_) fun ah=>?_
 ·
  refine uQ ?_;refine gcL (ι:=Nat×List (Int×Int×Int×Int×Int)×Value×List Value×Mem) (fun(l,D1,u,z,U)=>(MLe ma U∧(RL tE5 U z D1∧l≤(F.getD f []).length∧D1=edF F f++edL (F.getD f []) f l),[(0,vF),(3,u),(4,vI ↑f),(5,vI ↑l)],[.gs 193 5 u D1.length z],U,(F.getD f []).length-l)) (0,D0,D,H,ma) ?_ ?_
  · exact⟨mle,M,by omega,by rw[aj];exact(List.append_nil _).symm⟩
  rintro⟨l,D1,u,z,U⟩ ⟨bd,J,cd,ai⟩
  refine yU ?_;refine go6 ?_;refine lX (xI [] f underlying175 cJ rF) fun bs ay=>(lX (xA cJ ay) fun br bt=>(gc4 (fun ae=>?_) fun ae=>?_))
  ·
   refine go8 ?_;refine lX (xI [] f underlying175 cJ rF) fun bq ax=>(lX (xA cJ ax) fun bp aw=>(go1 ?_));refine lX (xI [] l underlying81 fO aw) fun bo av=>(lX (xA fO av) fun an T=>(go9 ?_));refine gcL (ι:=Nat×List (Int×Int×Int×Int×Int)×Value×List Value×Mem) (fun(i,Z,C,G,mc)=>(MLe U mc∧(RL tE5 mc G Z∧i≤((F.getD f []).getD l []).length∧Z=edF F f++edL (F.getD f []) f l++edX ((F.getD f []).getD l []) f l i),[(0,vF),(3,C),(4,vI ↑f),(5,vI ↑l),(6,an),(7,vI ↑i)],[.gs 193 5 C Z.length G],mc,((F.getD f []).getD l []).length-i)) (0,D1,u,z,U) ?_ ?_
   · exact⟨mle,J,by omega,by rw[ai];exact(List.append_nil _).symm⟩
   rintro⟨i,Z,C,G,mc⟩ ⟨bc,I,ce,Y⟩
   refine yU ?_;have cc:=j9 hcd1 f oM;have cb:=(hcd1 f oM).1;have ca:=zDL (hcd1 f oM).2 f l oM;have bz:=(hcd1 f oM).2 l oM;have bx:=zI2 ((F.getD f []).getD l []) f l i;have bw:Z.length≤1100000:=by rw[Y,lAz,lAz];omega
   refine gc9 (fun ad=>?_) fun ad=>?_
   ·
    refine go4 ?_;refine jJ (A:=[]) 20 [] [(0,.q),(1,.q),(2,.q),(3,.q),(4,.q),(5,.q),(6,.q),(7,.q),(8,.q),(9,.q),(10,.q),(11,.q),(12,.q),(13,.q),(14,.q),(15,.q),(16,.q),(17,.c),(18,.c),(19,.q)] yC nX (vJ (by kernel_rfl)) nX (go3 ?_);refine wX rfl (xI (0:Int) i underlying32 ty3 T) fun bn au=>(wX rfl (xA ty3 au) fun bm ar=>?_);obtain⟨rfl,bg,bb⟩:=jX ar;refine go4 ?_;refine w_q rfl (fun h' L' hh hR=>uW underlying32 rfl (T.up.mono hh)) rfl (xK rfl (fun _ _=>vW rfl rfl oM oM) rfl (wX rfl (xI (0:Int) ((i+1)%((F.getD f []).getD l []).length) underlying32 ty3 T (hi:=by exact Nat.mod_lt _ oM)) fun bl aq=>(wX rfl (xA ty3 aq) fun bk ap=>?_)));obtain⟨rfl,bf,ba⟩:=jX ap;refine go3 ?_;refine wX rfl (xV (ρ:=tE5) (wD (ps':=[(0,_),(1,_),(2,_),(3,_),(4,_)]) underlying193 zBZ rfl rfl (zN2 underlying193) e10 rfl (yL wG (yL wG (yL wG (yL wG wG)))) (zI rfl (Pc.fst (Pc.here _)) (qD oM oM) (zI rfl (Pc.snd (Pc.fst (Pc.here _))) (qD oM oM) (zI rfl (Pc.snd (Pc.snd (Pc.fst (Pc.here _)))) (qD oM oM) (zI rfl (Pc.snd (Pc.snd (Pc.snd (Pc.fst (Pc.here _))))) (qD oM oM) (zI rfl (Pc.snd (Pc.snd (Pc.snd (Pc.snd (Pc.here _))))) (qD oM oM) zY))))))) fun bj ao=>?_;refine w_c rfl (kU (fun X=>zW (ρ:=tE5) (m:=1) (xs:=[((((F.getD f []).getD l []).getD i (0:Int)),((((F.getD f []).getD l []).getD ((i+1)%((F.getD f []).getD l []).length) (0:Int)),((↑f:Int),((↑l:Int),(↑i:Int)))))]) (ps':=[(0,_)]) underlying190 zBZ rfl rfl rfl (yL wG (yL wG (yL wG (yL wG wG)))) e2z (zI rfl (Pc.arr (Pc.here _) e50 0 dC) ao zY) (show 1*5≤16777216 from by decide) nP) rfl ?_)
    rintro bi bv ⟨bh,rfl,ac⟩
    refine w_c rfl (vG (A:=[]) (ρ:=tE5) ac dK ?_);intro h1 az S;refine sR (A:=[]) (fun X=>yF (ρ:=tE5) (bytes:=40) underlying190 zBZ rfl rfl rfl rfl nP rfl rfl I.up S bO bO) rfl (wN (by first|(simp;done)|grind)) ?_
    rintro am bu ⟨ak,rfl,ab⟩
    refine go9 ?_;refine gqL ((i+1),(Z++[((((F.getD f []).getD l []).getD i (0:Int)),((((F.getD f []).getD l []).getD ((i+1)%((F.getD f []).getD l []).length) (0:Int)),((↑f:Int),((↑l:Int),(↑i:Int)))))]),am,ak,h1) ?_ ?_
    · exact⟨mle,ab,by omega,by rw[Y,List.append_assoc];rfl⟩
    omega
   have ei:i=((F.getD f []).getD l []).length:=by omega
   refine qT ?_;refine gqL ((l+1),Z,C,G,mc) ?_ ?_
   · exact⟨mle,I.up,by omega,by rw[Y,ei,List.append_assoc];rfl⟩
   omega
  have el:l=(F.getD f []).length:=by omega
  refine qT ?_;refine gqL ((f+1),D1,u,z,U) ?_ ?_
  · exact⟨mle,J,by omega,by rw[ai,el];rfl⟩
  omega
 have ef:f=F.length:=by omega
 refine qO ?_;refine wY (A:=[]) (ρ:=tE5) M ?_;intro h1 az O;refine zD rfl rfl ?_;exact(Rp.Is.cast O (by rw[aj,ef];rfl))
theorem zCQ{w0:World}{h0:Mem}(hs:MLe h0 (mem w0)){vE:Value}{E:(List (Int×(Int×(Int×(Int×Int)))))}(rE:(rpS tE5).Is h0 vE E){a:Int}(ha1:-9223372036854775808≤a)(ha2:a<9223372036854775808){b:Int}(hb1:-9223372036854775808≤b)(hb2:b<9223372036854775808)(hcd0:E.length≤1000000):
 Calls Tryz.prog 191 #[vE,vI a,vI b] w0 (Ret w0 h0 (fun _ r=>r=vI (tmZ E a b))):=by
 refine cb3 34 vE (vI a) (vI b) func191 hs ?_;refine dE ?_;refine gcL (ι:=Nat×Mem) (fun(m,C)=>(MLe h0 C∧(m≤E.length),[(0,vE),(1,vI a),(2,vI b),(7,vI (dU E a b m)),(8,vI ↑m)],[],C,E.length-m)) (0,h0) ?_ ?_
 · exact⟨mle,oM⟩
 rintro⟨m,C⟩ ⟨Y,D⟩
 refine yU ?_;have ak:=D;have aj:=dT E a b m;refine gc9 (fun H=>?_) fun H=>?_
 ·
  refine go8 ?_;refine lX (xI e50 m underlying190 iA rE) fun ai T=>(lX (xF underlying193 sizeOf3 (Pc.fst pH) T) fun ah S=>(lX (xA ty3 S) fun ae O=>?_));obtain⟨rfl,aa,X⟩:=jX O;refine go2 ?_;refine gU 9 30 (vB ((((E.getD m e50).1)=a)∧((((E.getD m e50).2).1)=b))) ?_ ?_
  ·
   refine yD (((E.getD m e50).1)=a) (fun G=>?_) (fun G=>?_)
   ·
    refine gT G rfl (go5 ?_);refine lX (xI e50 m underlying190 iA rE) fun ad M=>(go1 ?_);refine lX (xF underlying193 sizeOf3 (Pc.snd (Pc.fst pH)) M) fun ac J=>(go1 ?_);refine lX (xA ty3 J) fun ab I=>?_;obtain⟨rfl,Z,U⟩:=jX I;refine go6 ?_;refine gqU ?_;exact congrArg some (xN G)
   refine gF G rfl (go9 ?_);refine gqU ?_;exact congrArg some (xO G)
  refine gc2 (fun u=>?_) fun u=>?_
  ·
   refine qO ?_;refine gqL ((m+1),C) ?_ ?_ (he:=⟨rfl,rfl,rfl,congrArg (fun z=>some (vI z)) (tm_t u),rfl,trivial⟩)
   · exact⟨mle,oM⟩
   omega
  refine go8 ?_;refine gqL ((m+1),C) ?_ ?_ (he:=⟨rfl,rfl,rfl,congrArg (fun z=>some (vI z)) (tm_f u),rfl,trivial⟩)
  · exact⟨mle,oM⟩
  omega
 refine qO ?_;refine zD rfl rfl ?_;have em:m=E.length:=by omega
 subst em
 rfl
theorem zH3{w0:World}{h0:Mem}(hs:MLe h0 (mem w0)){vF:Value}{F:(List (List (List Int)))}(rF:(rpS tII).Is h0 vF F):
 Calls Tryz.prog 158 #[vF] w0 (Ret w0 h0 (fun h r=>(rpS tE5).Is h r (clZ F))):=by
 refine cb1 64 vF func158 hs ?_;refine go9 ?_;refine cL (ev1 rfl) call190 (fun w hs=>zKS hs rF) fun v7 h1 dp r7=>?_;obtain rfl:v7=vB (vaP F):=r7;refine gc3 (fun T=>?_) fun T=>?_
 ·
  refine go2 ?_;refine lX (xV (ρ:=tE5) (wD (ps':=[(0,_),(1,_),(2,_),(3,_),(4,_)]) underlying200 qW rfl rfl (zAB underlying200) e10 rfl (yL wG (yL wG (yL wG (yL wG wG)))) (zI rfl (Pc.fst (Pc.here _)) (qD dC dC) (zI rfl (Pc.snd (Pc.fst (Pc.here _))) (qD dC dC) (zI rfl (Pc.snd (Pc.snd (Pc.fst (Pc.here _)))) (qD dC dC) (zI rfl (Pc.snd (Pc.snd (Pc.snd (Pc.fst (Pc.here _))))) (qD dC dC) (zI rfl (Pc.snd (Pc.snd (Pc.snd (Pc.snd (Pc.here _))))) (qD dC dC) zY))))))) fun v9 r9=>(zF (zW (ρ:=tE5) (m:=1) (xs:=[((1:Int),((-1:Int),((-1:Int),((-1:Int),(-1:Int)))))]) (ps':=[(0,_)]) underlying137 qW rfl rfl rfl (yL wG (yL wG (yL wG (yL wG wG)))) e2z (zI rfl (Pc.arr (Pc.here _) e50 0 dC) r9 zY) (show 1*5≤16777216 from by decide) nP) rfl rfl rfl ?_)
  rintro dh dk ⟨cf,rfl,aa⟩
  refine go5 ?_;refine wY (A:=[]) (ρ:=tE5) aa ?_;intro h2 bn O;refine zD rfl rfl ?_;exact(Rp.Is.cast O (by exact(if_neg T).symm))
 refine uQ ?_;have I:vaP F:=Classical.not_not.1 T;have U:∀f,f<F.length→(F.getD f []).length≤16∧∀l,l<(F.getD f []).length→((F.getD f []).getD l []).length≤64:=fun f hf=>⟨(I.2 f hf).1.2,fun l hl=>((I.2 f hf).2 l hl).1.2⟩;have dt:F.length≤256:=I.1;have dr:=j9 U F.length (Nat.le_refl _);have dq:(edZ F).length≤262144:=by show(edF F F.length).length≤_;omega
 refine cL (ev1 rfl) call174 (fun w hs=>zCR hs rF.up (by first|omega|exact U) (by first|omega|exact U)) fun ai h2 bn z=>(uQ ?_);refine xR 200 5 ?_;have S:=RL.nil (ρ:=rpP rpI (rpP rpI (rpP rpI (rpP rpI rpI)))) (h:=h2);refine gcL (ι:=Nat×List (Int×Int×Int×Int×Int)×Value×List Value×Mem) (fun(i,D,u,C,ma)=>(MLe h2 ma∧(RL tE5 ma C D∧i≤(edZ F).length∧D=zZS (edZ F) i),[(3,u),(4,ai),(5,vI ↑i)],[.gs 200 5 u D.length C],ma,(edZ F).length-i)) (0,[],(.slice none 0 0),[],h2) ?_ ?_
 · exact⟨mle,S,by omega,rfl⟩
 rintro⟨i,D,u,C,ma⟩ ⟨bv,G,dl,hD⟩
 refine yU ?_;have du:D.length≤i:=by rw[hD];exact sW _ _ i
 refine gc9 (fun ab=>?_) fun ab=>?_
 ·
  refine go5 ?_;refine zK 25 _ [] [(0,.q),(1,.q),(2,.q),(3,.q),(4,.q),(5,.q),(6,.q),(7,.q),(8,.q),(9,.q),(10,.q),(12,.q),(13,.q),(14,.q),(15,.q),(16,.q),(17,.q),(18,.q),(19,.q),(20,.q),(21,.q),(22,.q),(11,.c),(23,.c),(24,.q)] yC nX (vJ (by kernel_rfl)) nX (fun r hr=>hr) (go3 ?_);refine wX rfl (xI e50 i underlying190 iA z) fun df bj=>(wX rfl (xF underlying193 sizeOf3 (Pc.fst pH) bj) fun de bi=>(wX rfl (xA ty3 bi) fun dd bh=>?_));obtain⟨rfl,cd,bu⟩:=jX bh;refine go2 ?_;refine wX rfl (xI e50 i underlying190 iA z) fun dc bg=>(wX rfl (xF underlying193 sizeOf3 (Pc.snd (Pc.fst pH)) bg) fun db bf=>(wX rfl (xA ty3 bf) fun da be=>?_));obtain⟨rfl,cc,bt⟩:=jX be;refine go3 ?_;refine wX rfl (xI e50 i underlying190 iA z) fun cz bc=>(wX rfl (xF underlying193 sizeOf3 (Pc.snd (Pc.fst pH)) bc) fun cy bb=>(wX rfl (xA ty3 bb) fun cw ba=>?_));obtain⟨rfl,cb,bs⟩:=jX ba;refine go2 ?_;refine wX rfl (xI e50 i underlying190 iA z) fun cv az=>(wX rfl (xF underlying193 sizeOf3 (Pc.fst pH) az) fun cu ay=>(wX rfl (xA ty3 ay) fun ct ax=>?_));obtain⟨rfl,ca,br⟩:=jX ax;refine w_c rfl (sC (ev3 rfl rfl rfl) call191 (fun w hs=>zCQ hs z.up oM oM oM oM oM) fun ah h3 bm bd=>?_);obtain rfl:ah=vI (tmZ (edZ F) (((edZ F).getD i e50).1) ((((edZ F).getD i e50).2).1)):=bd;have bl:=dT (edZ F) (((edZ F).getD i e50).1) ((((edZ F).getD i e50).2).1) (edZ F).length;refine w_c rfl (sC (ev3 rfl rfl rfl) call191 (fun w hs=>zCQ hs z.up oM oM oM oM oM) fun ae h4 dn aw=>?_);obtain rfl:ae=vI (tmZ (edZ F) ((((edZ F).getD i e50).2).1) (((edZ F).getD i e50).1)):=aw;have bk:=dT (edZ F) ((((edZ F).getD i e50).2).1) (((edZ F).getD i e50).1) (edZ F).length;refine gc3 (fun H=>?_) fun H=>?_
  ·
   refine jJ (A:=[]) 20 [] [(0,.q),(1,.q),(2,.q),(3,.q),(4,.q),(5,.q),(6,.q),(7,.q),(8,.q),(9,.q),(10,.q),(11,.q),(12,.q),(13,.q),(14,.q),(15,.q),(16,.q),(17,.c),(18,.c),(19,.q)] yC nX (vJ (by kernel_rfl)) nX (go3 ?_);refine wX rfl (xI e50 i underlying190 iA z) fun cq av=>(wX rfl (xF underlying193 sizeOf3 (Pc.snd (Pc.snd (Pc.fst pH))) av) fun cp au=>(wX rfl (xA ty3 au) fun co ar=>?_));obtain⟨rfl,bz,bq⟩:=jX ar;refine go2 ?_;refine wX rfl (xI e50 i underlying190 iA z) fun cn aq=>(wX rfl (xF underlying193 sizeOf3 (Pc.snd (Pc.snd (Pc.snd (Pc.fst pH)))) aq) fun cm ap=>(wX rfl (xA ty3 ap) fun cl ao=>?_));obtain⟨rfl,bx,bp⟩:=jX ao;refine go2 ?_;refine wX rfl (xI e50 i underlying190 iA z) fun ck an=>(wX rfl (xF underlying193 sizeOf3 (Pc.snd (Pc.snd (Pc.snd (Pc.snd pH)))) an) fun cj am=>(wX rfl (xA ty3 am) fun ci ak=>?_));obtain⟨rfl,bw,bo⟩:=jX ak;refine wX rfl (xV (ρ:=tE5) (wD (ps':=[(0,_),(1,_),(2,_),(3,_),(4,_)]) underlying200 qW rfl rfl (zAB underlying200) e10 rfl (yL wG (yL wG (yL wG (yL wG wG)))) (zI rfl (Pc.fst (Pc.here _)) (qD dC dC) (zI rfl (Pc.snd (Pc.fst (Pc.here _))) (qD dC dC) (zI rfl (Pc.snd (Pc.snd (Pc.fst (Pc.here _)))) (qD oM oM) (zI rfl (Pc.snd (Pc.snd (Pc.snd (Pc.fst (Pc.here _))))) (qD oM oM) (zI rfl (Pc.snd (Pc.snd (Pc.snd (Pc.snd (Pc.here _))))) (qD oM oM) zY))))))) fun ch aj=>?_;refine w_c rfl (kU (fun X=>zW (ρ:=tE5) (m:=1) (xs:=[((30:Int),((-1:Int),((((((edZ F).getD i e50).2).2).1),(((((((edZ F).getD i e50).2).2).2).1),((((((edZ F).getD i e50).2).2).2).2)))))]) (ps':=[(0,_)]) underlying137 qW rfl rfl rfl (yL wG (yL wG (yL wG (yL wG wG)))) e2z (zI rfl (Pc.arr (Pc.here _) e50 0 dC) aj zY) (show 1*5≤16777216 from by decide) nP) rfl ?_)
   rintro cg dj ⟨ce,rfl,Z⟩
   refine w_c rfl (vG (A:=[]) (ρ:=tE5) Z dK ?_);intro h5 dm M;refine sR (A:=[]) (fun X=>yF (ρ:=tE5) (bytes:=40) underlying137 qW rfl rfl rfl rfl nP rfl rfl G.up M bO bO) rfl (wN (by first|(simp;done)|grind)) ?_
   rintro ad di ⟨ac,rfl,Y⟩
   refine go9 ?_;refine gqL ((i+1),(D++[((30:Int),((-1:Int),((((((edZ F).getD i e50).2).2).1),(((((((edZ F).getD i e50).2).2).2).1),((((((edZ F).getD i e50).2).2).2).2)))))]),ad,ac,h5) ?_ ?_
   · exact⟨mle,Y,by omega,by rw[hD];exact y0 H⟩
   omega
  refine go8 ?_;refine gqL ((i+1),D,u,C,h4) ?_ ?_
  · exact⟨mle,G.up,by omega,by rw[hD];exact y5 H⟩
  omega
 refine qO ?_;refine wY (A:=[]) (ρ:=tE5) G.up ?_;intro h3 bm J;refine zD rfl rfl ?_;exact(Rp.Is.cast J (by rw[hD,show i=(edZ F).length by omega];exact(if_pos I).symm))
end Go.Proofs.YtboaboflnckgoaaGreat
namespace Bk
set_option linter.unusedVariables false
set_option linter.unusedSimpArgs false
open Classical
def nF(l:List Pt):Prop:=aP l 0 1→¬uS l 0 1 l.length=0
theorem zOX{l:List Pt}(h:¬uS l 0 1 l.length=0):nF l:=fun _=>h
abbrev PI:=Int×Int
def crI(u v w:PI):Int:=(v.1-u.1)*(w.2-u.2)-(v.2-u.2)*(w.1-u.1)
def sgI(n:Int):Int:=if 0<n then 1 else if n<0 then -1 else 0
def orI(u v w:PI):Int:=sgI (crI u v w)
def lxI(u v:PI):Bool:=decide (u.1<v.1∨(u.1=v.1∧u.2<v.2))
def apI(a b c d:Int):Bool:=decide ((a<c∧a<d∧b<c∧b<d)∨(c<a∧d<a∧c<b∧d<b))
def alS(a b c d:PI):Int:=
 if lxI (if lxI d b then d else b) (if lxI a c then c else a) then 0 else if lxI (if lxI a c then c else a) (if lxI d b then d else b) then 3
 else if((if lxI a c then c else a)=a∨(if lxI a c then c else a)=b)∧((if lxI a c then c else a)=c∨(if lxI a c then c else a)=d) then 1 else 2
def alI(a b c d:PI):Int:=alS (if lxI b a then b else a) (if lxI b a then a else b) (if lxI d c then d else c) (if lxI d c then c else d)
def toI(a b c d:PI):Int:=
 if apI a.1 b.1 c.1 d.1∨apI a.2 b.2 c.2 d.2 then 0
 else if orI a b c=0∧orI a b d=0∧orI c d a=0∧orI c d b=0 then alI a b c d
 else if 0<orI a b c*orI a b d∨0<orI c d a*orI c d b then 0
 else if(orI a b c=0∨orI a b d=0)∧(orI c d a=0∨orI c d b=0) then 1 else 2
def af(x y r:Int)(u:PI):P2:=(((x+r*u.1:Int):Rat),((y+r*u.2:Int):Rat))
def rg(k:Nat):PI:=([(2,0),(2,1),(1,2),(-1,2),(-2,0),(-2,-1),(0,-2),(1,-1)]:List PI).getD k (0,0)
def gi(s:List Nat)(m:Nat):PI:=rg (s.getD m 0)
def arI(s:List Nat):Nat→Int
  |0=>0
  |m+1=>arI s m+((gi s m).1*(gi s ((m+1)%s.length)).2-(gi s ((m+1)%s.length)).1*(gi s m).2)
def waI(n p q:Nat):Int:=if q=p+1∨(p=0∧q+1=n) then 1 else 0
def badI(s:List Nat):Bool:=(List.range s.length).any fun q=>(List.range q).any fun p=>!decide (toI (gi s p) (gi s ((p+1)%s.length)) (gi s q) (gi s ((q+1)%s.length))=waI s.length p q)
def okI(s:List Nat):Bool:=decide (s.length<3)||!decide (arI s s.length=0)||badI s
def swI:List Nat→List Nat
  |a::b::l=>b::a::l
  |l=>l
def yAL:List Nat→List (List Nat)
  |[]=>[[]]
  |a::l=>yAL l++(yAL l).map (a::·)
def rp3(x y r:Int)(k:Nat):Pt:=T3.mk (((x+r*(rg k).1:Int)):Rat) (((y+r*(rg k).2:Int)):Rat) (0:Rat)
noncomputable def rgK(t:Prop)(i:Nat):Nat:=if t then 7-i else i
def rgF(x y r:Int)(t:Prop)(i:Nat)(l:List Pt):Prop:=∃s:List Nat,s.Sublist ((List.range i).map (rgK t))∧l=s.map (rp3 x y r)
def rvP(l0 l:List Pt)(i:Nat):Prop:=l.length=l0.length∧∀q,q<l0.length→gp l q=if q<i∨l0.length≤q+i then gp l0 (l0.length-1-q) else gp l0 q
end Bk
namespace Bk
set_option linter.unusedVariables false
set_option linter.unusedSimpArgs false
open Classical
theorem zSO{a b:List Pt}{p q:Nat}:2≤nM (gL a 0 1 p) (gK a 0 1 p) (gL b 0 1 q) (gK b 0 1 q)↔g6 a b 0 1 p q:=by
 unfold g6;rw[zG9];omega
theorem zO5{a b:List Pt}{p q:Nat}(h:g6 a b 0 1 p q):g6 b a 0 1 q p:=by
 unfold g6 at *;rw[zB6];exact h
theorem mH{a b:List Pt}(h:fH a b 0 1):fH b a 0 1:=by
 obtain⟨p,q,z,u,h⟩:=h;exact⟨q,p,u,z,zO5 h⟩
theorem zWH(a b:Pt):pr (T3.mk (iZ a.x b.x) (iZ a.y b.y) (0:Rat)) 0 1=zU6 (pr a 0 1) (pr b 0 1):=rfl
theorem zSG{l:List Pt}(hf:nF l)(hs:aP l 0 1):¬xJ (arZ l 0 1)=0:=fun e=>hf hs (uO.1 e)
theorem zVR{L:List (List Pt)}(h:∀x,x∈L→nF x)(m:Nat):nF (gl L m):=by
 show nF (L.getD m [])
 rw[List.getD_eq_getElem?_getD]
 rcases Nat.lt_or_ge m L.length with h1|h1
 · rw[List.getElem?_eq_getElem h1]
   exact h _ (List.getElem_mem h1)
 · rw[List.getElem?_eq_none h1]
   exact fun e=>absurd e.1 (by decide)
theorem zYF{L:List (List Pt)}{m:Nat}(h:xJ (uS (gl L m) 0 1 (gl L m).length)<0):sY L 0 1 m L.length=pZ L 0 1 m:=by
 have u:xJ (arZ (gl L m) 0 1)<0:=h;unfold pZ;rw[if_neg (by omega)]
theorem zQT{L:List (List Pt)}{m:Nat}(hf:∀x,x∈L→nF x)(hs:aP (gl L m) 0 1)(h:¬xJ (uS (gl L m) 0 1 (gl L m).length)<0):0<xJ (arZ (gl L m) 0 1):=by
 have z:¬xJ (arZ (gl L m) 0 1)<0:=h;have u:=zSG (zVR hf m) hs;omega
theorem zYE{L:List (List Pt)}{m:Nat}(hf:∀x,x∈L→nF x)(hs:aP (gl L m) 0 1)(h:¬xJ (uS (gl L m) 0 1 (gl L m).length)<0):-1=pZ L 0 1 m:=by
 unfold pZ;rw[if_pos (zQT hf hs h)]
theorem zFF{O:List Int}{m:Nat}{f:Nat→Int}{p:Int}(hl:O.length=m)(h:∀q,q<m→O.getD q 0=f q)(hp:p=f m):(O++[p]).length=m+1∧∀q,q<m+1→(O++[p]).getD q 0=f q:=by
 refine⟨by rw[lAz,hl];rfl,fun q u=>?_⟩;rw[List.getD_eq_getElem?_getD]
 by_cases e:q=m
 · subst e
   rw[List.getElem?_append_right (by omega),hl,Nat.sub_self];exact hp
 · rw[List.getElem?_append_left (by omega),←List.getD_eq_getElem?_getD]
   exact h q (by omega)
theorem zYK{L:List (List Pt)}{a:Nat}(h:0<xJ (arZ (gl L a) 0 1)):¬mO L 0 1 a∧∀b,b<L.length→¬s7 L 0 1 a b:=by
 refine⟨fun e=>e.1 h,fun b _ e=>?_⟩;have z:=e.1.1.2;have u:pZ L 0 1 a= -1:=by unfold pZ;rw[if_pos h]
 omega
theorem zZG{L:List (List Pt)}{m:Nat}(hf:∀x,x∈L→nF x)(hs:aP (gl L m) 0 1)(h:0≤xJ (uS (gl L m) 0 1 (gl L m).length)):0<xJ (arZ (gl L m) 0 1):=zQT hf hs (by omega)
theorem zMV{L:List (List Pt)}{a:Nat}{o:Int}(h:¬0≤xJ (uS (gl L a) 0 1 (gl L a).length))(ho:o=pZ L 0 1 a)(h1:o<0):mO L 0 1 a:=by
 have u:xJ (arZ (gl L a) 0 1)<0:=Int.not_le.1 h;refine⟨by omega,?_⟩;rw[ho] at h1;unfold pZ at h1;rw[if_neg (by omega)] at h1;exact h1
theorem u5{L:List (List Pt)}{a:Nat}{o:Int}(ho:o=pZ L 0 1 a)(h1:¬o<0):¬mO L 0 1 a:=fun e=>by
 rw[ho] at h1;unfold pZ at h1;rw[if_neg e.1] at h1;exact h1 e.2
end Bk
namespace Bk
set_option linter.unusedVariables false
set_option linter.unusedSimpArgs false
open Classical
abbrev Fc:=(Pt×Rat)×List (List Int)×List Nat
abbrev En:=Int×Int×Rat
abbrev Sd:=List Pt×List Fc×List En
abbrev zYC:Pt×Rat:=(zT,(0:Rat))
abbrev zA:Fc:=(zYC,([]:List (List Int)),([]:List Nat))
def nmL(n:Nat)(x:List Int):Prop:=∀k,k<x.length→0≤(x.getD k 0)∧(x.getD k 0)<n
def nmP(s:Sd)(f:Nat):Prop:=∀l,l<((s.2.1.getD f zA).2.1).length→nmL s.1.length ((((s.2.1.getD f zA).2.1).getD l []))
def vN(s:Sd):List (List (List Int)):=uU (fun f=>(s.2.1.getD f zA).2.1) s.2.1.length
theorem lY(s:Sd):(vN s).length=s.2.1.length:=wK _ _
theorem zAN{s:Sd}{f:Nat}(h:f<s.2.1.length):((vN s).getD f [])=(s.2.1.getD f zA).2.1:=rC _ _ h
def zUN(ps:List Pt)(x:List Int):Nat→List Pt:=uU fun k=>gp ps ((x.getD k 0)).toNat
def zI5(s:Sd)(f:Nat):Nat→List (List Pt):=uU fun l=>zUN s.1 ((((s.2.1.getD f zA).2.1).getD l [])) ((((s.2.1.getD f zA).2.1).getD l [])).length
noncomputable def fP(s:Sd)(f:Int):List (List Pt):=if(0≤f∧f<s.2.1.length)∧nmP s f.toNat then zI5 s f.toNat ((s.2.1.getD f.toNat zA).2.1).length else[]
theorem zVX{s:Sd}{f:Int}(h:∀f,f<s.2.1.length→(s.2.1.getD f zA).2.1.length≤10000∧∀l,l<(s.2.1.getD f zA).2.1.length→((s.2.1.getD f zA).2.1.getD l []).length≤10000):(fP s f).length≤10000∧∀l,((fP s f).getD l []).length≤10000:=by
 unfold fP
 split
 · rename_i hf
   have u:=h f.toNat (by omega);have z:(zI5 s f.toNat (s.2.1.getD f.toNat zA).2.1.length).length=(s.2.1.getD f.toNat zA).2.1.length:=wK _ _;refine⟨by omega,fun l=>?_⟩
   rcases Nat.lt_or_ge l (s.2.1.getD f.toNat zA).2.1.length with h3|h3
   · unfold zI5
     rw[rC _ _ h3];unfold zUN;rw[wK];exact u.2 l h3
   · rw[List.getD_eq_getElem?_getD,List.getElem?_eq_none (by omega)];exact Nat.zero_le _
 · exact⟨Nat.zero_le _,fun l=>Nat.zero_le _⟩
noncomputable def flA(pl:Pl)(l:List Pt):Nat→List Pt:=uU fun i=>cH pl (gp l i)
noncomputable def flL(pl:Pl)(L:List (List Pt)):Nat→List (List Pt):=uU fun i=>flA pl (gl L i) (gl L i).length
noncomputable def rG(s:Sd)(f:Nat):List (List Pt):=flL ((s.2.1.getD f zA)).1 (fP s f) (fP s f).length
def dg(kind face loop edge:Int):E5:=(kind,(-1:Int),face,loop,edge)
def szP(s:Sd)(f:Nat):Prop:=¬vfP ((s.2.1.getD f zA).2.1)∨¬nmP s f
def zPA(s:Sd):Prop:=(512<s.1.length∨256<s.2.1.length)∨1024<s.2.2.length
noncomputable def zXJ(s:Sd):Nat→List E5:=cG (szP s) fun f=>dg 1 f (-1) (-1)
noncomputable def szZ(s:Sd):List E5:=if zPA s then zXJ s s.2.1.length++[dg 2 (-1) (-1) (-1)] else zXJ s s.2.1.length
def twP(s:Sd)(i:Nat):Prop:=∃k,k<i∧gp s.1 i=gp s.1 k
noncomputable def zNK(s:Sd):Nat→List E5:=cG (twP s) fun i=>dg 37 (-1) (-1) i
def zrP(s:Sd)(f:Nat):Prop:=((s.2.1.getD f zA)).1.1=zT
noncomputable def zPD(s:Sd):Nat→List E5:=cG (zrP s) fun f=>dg 9 f (-1) (-1)
def ofP(s:Sd)(f l k:Nat):Prop:=¬sdZ ((s.2.1.getD f zA)).1 (gp (gl (fP s f) l) k)=0
noncomputable def ofX(s:Sd)(f l:Nat):Nat→List E5:=cG (ofP s f l) fun k=>dg 31 f l k
noncomputable def ofL(s:Sd)(f:Nat):Nat→List E5:=cE fun l=>ofX s f l (gl (fP s f) l).length
noncomputable def zKO(s:Sd):Nat→List E5:=cE fun f=>ofL s f (fP s f).length
theorem nG{s:Sd}{f:Int}(h:∀f,f<s.2.1.length→(s.2.1.getD f zA).2.1.length≤16∧∀l,l<(s.2.1.getD f zA).2.1.length→((s.2.1.getD f zA).2.1.getD l []).length≤64):(fP s f).length≤16∧∀l,((fP s f).getD l []).length≤64:=by
 unfold fP
 split
 · rename_i hf
   have u:=h f.toNat (by omega);have z:(zI5 s f.toNat (s.2.1.getD f.toNat zA).2.1.length).length=(s.2.1.getD f.toNat zA).2.1.length:=wK _ _;refine⟨by omega,fun l=>?_⟩
   rcases Nat.lt_or_ge l (s.2.1.getD f.toNat zA).2.1.length with h3|h3
   · unfold zI5
     rw[rC _ _ h3];unfold zUN;rw[wK];exact u.2 l h3
   · rw[List.getD_eq_getElem?_getD,List.getElem?_eq_none (by omega)];exact Nat.zero_le _
 · exact⟨Nat.zero_le _,fun l=>Nat.zero_le _⟩
section
variable {s:Sd}(h:∀f,f<s.2.1.length→(s.2.1.getD f zA).2.1.length≤16∧∀l,l<(s.2.1.getD f zA).2.1.length→((s.2.1.getD f zA).2.1.getD l []).length≤64)
include h
theorem zCP(f:Nat):∀l,(ofL s f l).length≤64*l
  |0=>Nat.le_refl _
  |l+1=>by
   have h1:=zCP f l;have h2:(ofX s f l ((fP s f).getD l []).length).length≤((fP s f).getD l []).length:=sW _ _ _;have h3:=(nG (f:=↑f) h).2 l
   show List.length (ofL s f l++ofX s f l ((fP s f).getD l []).length)≤_
   rw[lAz];omega
theorem zRA:∀f,f≤s.2.1.length→(zKO s f).length≤1024*f
  |0,_=>Nat.le_refl _
  |f+1,hf=>by
   have h1:=zRA f (by omega);have h2:=zCP h f (fP s f).length;have h3:=(nG (f:=↑f) h).1
   show List.length (zKO s f++ofL s f (fP s f).length)≤_
   rw[lAz];omega
end
noncomputable def plZ(s:Sd):List E5:=if 0<(zPD s s.2.1.length).length then zPD s s.2.1.length else zKO s s.2.1.length
noncomputable def zBG(L:List (List Pt)):Nat→Int
  |0=>0
  |m+1=>if 0<xJ (arZ (gl L m) 0 1) then zBG L m+1 else zBG L m
theorem w4(L:List (List Pt)):∀m,0≤zBG L m∧zBG L m≤m
  |0=>by unfold zBG;omega
  |m+1=>by
   have h:=w4 L m;unfold zBG
   split<;>omega
theorem ou_t{L:List (List Pt)}{m:Nat}(h:0<xJ (arZ (gl L m) 0 1)):zBG L m+1=zBG L (m+1):=(if_pos h).symm
theorem ou_f{L:List (List Pt)}{m:Nat}(h:¬0<xJ (arZ (gl L m) 0 1)):zBG L m=zBG L (m+1):=(if_neg h).symm
noncomputable def ouZ(L:List (List Pt)):Int:=zBG L L.length
def bnP(s:Sd)(f:Nat):Prop:=¬vQ (rG s f) 0 1=0
noncomputable def zS3(s:Sd):Nat→List E5:=cG (bnP s) fun f=>dg (vQ (rG s f) 0 1) f (-1) (-1)
def mnP(s:Sd)(f:Nat):Prop:=¬ouZ (rG s f)=1
noncomputable def zYO(s:Sd):Nat→List E5:=cG (mnP s) fun f=>dg 33 f (-1) (-1)
noncomputable def neZ(s:Sd):List E5:=if 0<(zS3 s s.2.1.length).length then zS3 s s.2.1.length else zYO s s.2.1.length
theorem zIH(L:List (List Pt))(i j:Nat):0≤vQ L i j∧vQ L i j≤33:=by
 unfold vQ
 repeat' split
 all_goals decide
theorem zGW(s:Sd)(f:Nat):(rG s f).length=(fP s ↑f).length∧∀l,((rG s f).getD l []).length=((fP s ↑f).getD l []).length:=by
 have u:(rG s f).length=(fP s ↑f).length:=wK _ _;refine⟨u,fun l=>?_⟩
 rcases Nat.lt_or_ge l (fP s ↑f).length with h|h
 · unfold rG flL
   rw[rC _ _ h];exact wK _ _
 · rw[List.getD_eq_getElem?_getD,List.getD_eq_getElem?_getD,List.getElem?_eq_none (by omega),List.getElem?_eq_none h]
def okS(s:Sd):Prop:=((s.1.length≤1000∧s.2.1.length≤1000)∧s.2.2.length≤2000)∧(∀f,f<s.2.1.length→(s.2.1.getD f zA).2.1.length≤16∧∀l,l<(s.2.1.getD f zA).2.1.length→((s.2.1.getD f zA).2.1.getD l []).length≤64)∧∀f,f<s.2.1.length→∀x,x∈rG s f→nF x
theorem okS.big{s:Sd}(h:okS s):∀f,f<s.2.1.length→(s.2.1.getD f zA).2.1.length≤10000∧∀l,l<(s.2.1.getD f zA).2.1.length→((s.2.1.getD f zA).2.1.getD l []).length≤10000:=fun f hf=>⟨Nat.le_trans (h.2.1 f hf).1 (by decide),fun l hl=>Nat.le_trans ((h.2.1 f hf).2 l hl) (by decide)⟩
theorem okS.mem{s:Sd}(h:okS s):∀f,f<s.2.1.length→(s.2.1.getD f zA).2.1.length≤100000∧∀x,x∈(s.2.1.getD f zA).2.1→x.length≤100000:=fun f hf=>⟨Nat.le_trans (h.2.1 f hf).1 (by decide),fun x hx=>by
 obtain⟨m,hm,e⟩:=List.getElem_of_mem hx;have:=(h.2.1 f hf).2 m hm;rw[List.getD_eq_getElem?_getD,List.getElem?_eq_getElem hm] at this;rw[←e];exact Nat.le_trans this (by decide)⟩
noncomputable def zVY(s:Sd):List E5:=if 0<(szZ s).length then szZ s else if 0<(zNK s s.1.length).length then zNK s s.1.length else if 0<(plZ s).length then plZ s else if 0<(neZ s).length then neZ s else clZ (vN s)
def dY(s:Sd):Prop:=(zVY s).length=0
def lsP(p q:Pt):Prop:=p.x<q.x∨(p.x=q.x∧(p.y<q.y∨(p.y=q.y∧p.z<q.z)))
def pX:List Int→List Int→Int
  |[],[]=>0
  |[],_::_=>-1
  |_::_,[]=>1
  |x::a,y::b=>if x=y then pX a b else if x<y then -1 else 1
theorem zM9{i:Nat}:∀{a b:List Int},(∀u,u<i→(a.getD u 0)=(b.getD u 0))→i<a.length→i<b.length→¬(a.getD i 0)=(b.getD i 0)→pX a b=if(a.getD i 0)<(b.getD i 0) then -1 else 1:=by
 induction i with
 |zero=>
  intro a b _ ha hb hne
  match a,b,ha,hb with
  |x::a,y::b,_,_=>exact if_neg hne
 |succ i ih=>
  intro a b h ha hb hne
  match a,b,ha,hb with
  |x::a,y::b,ha,hb=>
   have h0:x=y:=h 0 (by omega)
   show(if x=y then pX a b else _)=_
   rw[if_pos h0];exact ih (fun u hu=>h (u+1) (by omega)) (by simpa using ha) (by simpa using hb) hne
theorem zDO{i:Nat}:∀{a b:List Int},(∀u,u<i→(a.getD u 0)=(b.getD u 0))→i=min a.length b.length→pX a b=if a.length<b.length then -1 else if b.length<a.length then 1 else 0:=by
 induction i with
 |zero=>
  intro a b _ he
  match a,b with
  |[],[]=>rfl
  |[],_::_=>rfl
  |_::_,[]=>rfl
  |_::_,_::_=>simp at he
 |succ i ih=>
  intro a b h he
  match a,b with
  |[],_=>simp at he
  |_::_,[]=>simp at he
  |x::a,y::b=>
   have h0:x=y:=h 0 (by omega)
   show(if x=y then pX a b else _)=_
   rw[if_pos h0,ih (fun u hu=>h (u+1) (by omega)) (by simp at he;omega)];simp only[lC,Nat.add_lt_add_iff_right]
theorem dH:∀a b:List Int,-1≤pX a b∧pX a b≤1
  |[],[]=>⟨by show(-1:Int)≤0;decide,by show(0:Int)≤1;decide⟩
  |[],_::_=>⟨by show(-1:Int)≤-1;decide,by show(-1:Int)≤1;decide⟩
  |_::_,[]=>⟨by show(-1:Int)≤1;decide,by show(1:Int)≤1;decide⟩
  |x::a,y::b=>by
   show -1≤(if x=y then pX a b else if x<y then -1 else 1)∧(if x=y then pX a b else if x<y then -1 else 1)≤1
   split
   · exact dH a b
   · split<;>decide
def rN(x:List Int):Nat→Nat
  |0=>0
  |m+1=>if(x.getD m 0)<(x.getD (rN x m) 0) then m else rN x m
theorem zWG(x:List Int):∀m,rN x m<m∨rN x m=0
  |0=>.inr rfl
  |m+1=>by
   have h:=zWG x m;unfold rN
   split<;>omega
theorem mn_t{x:List Int}{m:Nat}(h:(x.getD m 0)<(x.getD (rN x m) 0)):m=rN x (m+1):=(if_pos h).symm
theorem mn_f{x:List Int}{m:Nat}(h:¬(x.getD m 0)<(x.getD (rN x m) 0)):rN x m=rN x (m+1):=(if_neg h).symm
def zQG(x:List Int):List Int:=x.drop (rN x x.length)++x.take (rN x x.length)
def zOR:List (List Int)→List (List Int)→Prop
  |[],[]=>False
  |[],_::_=>True
  |_::_,[]=>False
  |x::a,y::b=>if pX x y=0 then zOR a b else pX x y<0
theorem zU8{i:Nat}:∀{a b:List (List Int)},(∀u,u<i→pX ((a.getD u [])) ((b.getD u []))=0)→i<a.length→i<b.length→¬pX ((a.getD i [])) ((b.getD i []))=0→(zOR a b↔pX ((a.getD i [])) ((b.getD i []))<0):=by
 induction i with
 |zero=>
  intro a b _ ha hb hne
  match a,b,ha,hb with
  |x::a,y::b,_,_=>exact Iff.of_eq (if_neg hne)
 |succ i ih=>
  intro a b h ha hb hne
  match a,b,ha,hb with
  |x::a,y::b,ha,hb=>
   have h0:pX x y=0:=h 0 (by omega)
   show(if pX x y=0 then zOR a b else _)↔_
   rw[if_pos h0];exact ih (fun u hu=>h (u+1) (by omega)) (by simpa using ha) (by simpa using hb) hne
theorem zRW{i:Nat}:∀{a b:List (List Int)},(∀u,u<i→pX ((a.getD u [])) ((b.getD u []))=0)→i=min a.length b.length→(zOR a b↔a.length<b.length):=by
 induction i with
 |zero=>
  intro a b _ he
  match a,b with
  |[],[]=>exact⟨False.elim,fun h=>absurd h (Nat.lt_irrefl _)⟩
  |[],_::_=>exact⟨fun _=>Nat.zero_lt_succ _,fun _=>trivial⟩
  |_::_,[]=>exact⟨False.elim,fun h=>absurd h (Nat.not_lt_zero _)⟩
  |_::_,_::_=>simp at he
 |succ i ih=>
  intro a b h he
  match a,b with
  |[],_=>simp at he
  |_::_,[]=>simp at he
  |x::a,y::b=>
   have h0:pX x y=0:=h 0 (by omega)
   show(if pX x y=0 then zOR a b else _)↔_
   rw[if_pos h0,ih (fun u hu=>h (u+1) (by omega)) (by simp at he;omega)];simp only[lC,Nat.add_lt_add_iff_right]
def lsF(a b:Fc):Prop:=if a.2.2=b.2.2 then zOR a.2.1 b.2.1 else lsN a.2.2 b.2.2
theorem ls_x{p q:Pt}(h:¬wH p.x q.x=0):wH p.x q.x<0↔lsP p q:=by
 unfold lsP;rw[pW];rw[bC] at h;exact⟨.inl,fun e=>e.elim id fun e=>absurd e.1 h⟩
theorem ls_y{p q:Pt}(h:wH p.x q.x=0)(h2:¬wH p.y q.y=0):wH p.y q.y<0↔lsP p q:=by
 unfold lsP;rw[pW];rw[bC] at h h2;have:=@Rat.lt_irrefl p.x;exact⟨fun e=>.inr ⟨h,.inl e⟩,fun e=>e.elim (fun e=>absurd (h▸e) this) fun e=>e.2.elim id fun e=>absurd e.1 h2⟩
theorem ls_z{p q:Pt}(h:wH p.x q.x=0)(h2:wH p.y q.y=0)(h3:¬wH p.z q.z=0):wH p.z q.z<0↔lsP p q:=by
 unfold lsP;rw[pW];rw[bC] at h h2;have C:=@Rat.lt_irrefl p.x;have u:=@Rat.lt_irrefl p.y;exact⟨fun e=>.inr ⟨h,.inr ⟨h2,e⟩⟩,fun e=>e.elim (fun e=>absurd (h▸e) C) fun e=>e.2.elim (fun e=>absurd (h2▸e) u) fun e=>e.2⟩
theorem yBB{p q:Pt}(h:wH p.x q.x=0)(h2:wH p.y q.y=0)(h3:wH p.z q.z=0):¬lsP p q:=by
 rw[bC] at h h2 h3;have D:=@Rat.lt_irrefl p.x;have C:=@Rat.lt_irrefl p.y;have u:=@Rat.lt_irrefl p.z;exact fun e=>e.elim (fun e=>absurd (h▸e) D) fun e=>e.2.elim (fun e=>absurd (h2▸e) C) fun e=>absurd (h3▸e.2) u
theorem yBC{p q:Pt}{i:Nat}(hi:i<3)(h:∀u,u<i→wH (p.at u) (q.at u)=0)(hn:¬wH (p.at i) (q.at i)=0):wH (p.at i) (q.at i)<0↔lsP p q:=by
 match i,hi with
 |0,_=>exact ls_x hn
 |1,_=>exact ls_y (h 0 (by decide)) hn
 |2,_=>exact ls_z (h 0 (by decide)) (h 1 (by decide)) hn
theorem zYV{p q:Pt}(h:∀u,u<3→wH (p.at u) (q.at u)=0):¬lsP p q:=yBB (h 0 (by decide)) (h 1 (by decide)) (h 2 (by decide))
noncomputable def ivA(x:Rat):Rat:=if dL x=0 then 0 else((1:Int):Rat)/dL x
noncomputable def scW(r:Rat)(pl:Pl):Pl:=(T3.mk (r*pl.1.x) (r*pl.1.y) (r*pl.1.z),r*pl.2)
noncomputable def scZ(pl:Pl):Pl:=if ¬xJ pl.1.x=0 then scW (ivA pl.1.x) pl else if ¬xJ pl.1.y=0 then scW (ivA pl.1.y) pl else if ¬xJ pl.1.z=0 then scW (ivA pl.1.z) pl else zYC
theorem yAU{pl:Pl}{i:Nat}(hi:i<3)(h:∀u,u<i→xJ (pl.1.at u)=0)(hn:¬xJ (pl.1.at i)=0):scW (ivA (pl.1.at i)) pl=scZ pl:=by
 unfold scZ
 match i,hi with
 |0,_=>exact(if_pos hn).symm
 |1,_=>exact((if_neg (fun e=>e (h 0 (by decide)))).trans (if_pos hn)).symm
 |2,_=>exact((if_neg (fun e=>e (h 0 (by decide)))).trans ((if_neg (fun e=>e (h 1 (by decide)))).trans (if_pos hn))).symm
theorem zX0{pl:Pl}(h:∀u,u<3→xJ (pl.1.at u)=0):zYC=scZ pl:=by
 unfold scZ;exact((if_neg (fun e=>e (h 0 (by decide)))).trans ((if_neg (fun e=>e (h 1 (by decide)))).trans (if_neg (fun e=>e (h 2 (by decide)))))).symm
def zJ2(x:List Int):Nat→List Int:=uU fun i=>x.getD (x.length-1-i) 0
def zFQ(E:List E5)(m i:Nat):Prop:=∃q,q<m∧(E.getD q ((0:Int),(0:Int),(0:Int),(0:Int),(0:Int))).1=(i:Int)
theorem zPJ{E:List E5}{m n:Nat}{U:List Prop}(hl:U.length=n)(h:∀u,u<n→(U.getD u False↔zFQ E m u))(h0:0≤(E.getD m ((0:Int),(0:Int),(0:Int),(0:Int),(0:Int))).1)(h1:(E.getD m ((0:Int),(0:Int),(0:Int),(0:Int),(0:Int))).1<n):∀u,u<n→((U.set (E.getD m ((0:Int),(0:Int),(0:Int),(0:Int),(0:Int))).1.toNat True).getD u False↔zFQ E (m+1) u):=by
 intro u D;rw[List.getD_eq_getElem?_getD,List.getElem?_set];have C:zFQ E (m+1) u↔zFQ E m u∨(E.getD m ((0:Int),(0:Int),(0:Int),(0:Int),(0:Int))).1=(u:Int):=by
  constructor
  · rintro⟨q,z,e⟩
    rcases Nat.lt_succ_iff_lt_or_eq.1 z with h|h
    · exact .inl ⟨q,h,e⟩
    · subst h;exact .inr e
  · rintro(⟨q,z,e⟩|e)
    · exact⟨q,by omega,e⟩
    · exact⟨m,by omega,e⟩
 rw[C]
 split
 · rename_i e
   rw[if_pos (by omega)];exact⟨fun _=>.inr (by omega),fun _=>trivial⟩
 · rename_i e
   have:=h u D;rw[List.getD_eq_getElem?_getD] at this;rw[this];exact⟨.inl,fun h=>h.resolve_right (by omega)⟩
def nmA(s:Sd):Prop:=∀f,f<s.2.1.length→nmP s f
theorem zO0{s:Sd}(h:nmA s){q:Nat}(hq:q<(edZ (vN s)).length):0≤((edZ (vN s)).getD q ((0:Int),(0:Int),(0:Int),(0:Int),(0:Int))).1∧((edZ (vN s)).getD q ((0:Int),(0:Int),(0:Int),(0:Int),(0:Int))).1<s.1.length:=by
 have u:=pR (d:=((0:Int),(0:Int),(0:Int),(0:Int),(0:Int))) hq;generalize (edZ (vN s)).getD q ((0:Int),(0:Int),(0:Int),(0:Int),(0:Int))=e at u ⊢;obtain⟨f,z,u⟩:=nD u;obtain⟨l,C,u⟩:=nD u;obtain⟨i,hi,rfl⟩:=zBX u;rw[lY] at z;have D:(vN s).getD f []=(s.2.1.getD f zA).2.1:=rC _ _ z;rw[D] at C hi ⊢;exact h f z l C i hi
theorem zVU{s:Sd}(h:okS s):(edZ (vN s)).length≤1100000:=by
 have z:=j9 (F:=vN s) (fun f u=>by rw[lY] at u;rw[zAN u];exact h.2.1 f u) _ (Nat.le_refl _);rw[lY] at z;have C:=h.1.1.2
 show(edF (vN s) (vN s).length).length≤_
 rw[lY];omega
def zN6(s:Sd)(out:List Int)(i k:Nat):Prop:=lsP (gp s.1 i) (gp s.1 (out.getD k 0).toNat)
noncomputable def bK(s:Sd):Nat→List Int
  |0=>[]
  |i+1=>if zFQ (edZ (vN s)) (edZ (vN s)).length i then eV (bK s i) (cV (zN6 s (bK s i) i) (bK s i).length) (i:Int) else bK s i
theorem zKN(s:Sd):∀i,(bK s i).length≤i
  |0=>Nat.le_refl _
  |i+1=>by
   have:=zKN s i;unfold bK
   split
   · rw[zDE _ _ (zB0 _ _)];omega
   · omega
theorem zGB{s:Sd}{x:Int}:∀{i},x∈bK s i→0≤x∧x<i
  |0,h=>absurd h List.not_mem_nil
  |i+1,h=>by
   unfold bK at h
   split at h
   · unfold eV at h
     rcases List.mem_append.1 h with h|h
     · have:=zGB (List.mem_of_mem_take h);omega
     · rcases List.mem_cons.1 h with rfl|h
       · omega
       · have:=zGB (List.mem_of_mem_drop h);omega
   · have:=zGB h;omega
theorem oP{s:Sd}{i k:Nat}(h:k<(bK s i).length):0≤(bK s i).getD k 0∧(bK s i).getD k 0<i:=zGB (pR h)
def nwL(s:Sd)(ix:List Int)(f i:Nat):Nat→List Int:=uU fun q=>ix.getD (((s.2.1.getD f zA).2.1.getD i []).getD q 0).toNat 0
def nfL(s:Sd)(ix:List Int)(f i:Nat):List Int:=zQG (nwL s ix f i ((s.2.1.getD f zA).2.1.getD i []).length)
def zHU(s:Sd)(f i:Nat):Prop:=0<xJ (arZ (gl (rG s f) i) 0 1)
noncomputable def ouL(s:Sd)(ix:List Int)(f:Nat):Nat→List (List Int):=cG (zHU s f) (nfL s ix f)
def zVK(l:List Int)(D:List (List Int))(k:Nat):Prop:=pX l (D.getD k [])<0
noncomputable def zBL(s:Sd)(ix:List Int)(f:Nat):Nat→List (List Int)
  |0=>[]
  |i+1=>if zHU s f i then zBL s ix f i else eV (zBL s ix f i) (cV (zVK (nfL s ix f i) (zBL s ix f i)) (zBL s ix f i).length) (nfL s ix f i)
theorem zLO(s:Sd)(ix:List Int)(f:Nat):∀i,(zBL s ix f i).length≤i
  |0=>Nat.le_refl _
  |i+1=>by
   have:=zLO s ix f i;unfold zBL
   split
   · omega
   · rw[zDE _ _ (zB0 _ _)];omega
noncomputable def nfF(s:Sd)(ix:List Int)(f:Nat):Fc:=(scZ (s.2.1.getD f zA).1,ouL s ix f (s.2.1.getD f zA).2.1.length++zBL s ix f (s.2.1.getD f zA).2.1.length,(s.2.1.getD f zA).2.2)
theorem zSP{s:Sd}{f:Nat}(hf:f<s.2.1.length)(h:nmP s f):fP s ↑f=zI5 s f (s.2.1.getD f zA).2.1.length:=if_pos ⟨by omega,h⟩
theorem zZJ{s:Sd}{f:Nat}(hf:f<s.2.1.length)(h:nmP s f):(rG s f).length=(s.2.1.getD f zA).2.1.length:=by
 rw[(zGW s f).1,zSP hf h];exact wK _ _
noncomputable def fG(s:Sd):List Int:=bK s s.1.length
noncomputable def zLM(s:Sd):Nat→List Int
  |0=>List.replicate s.1.length (0:Int)
  |i+1=>(zLM s i).set ((fG s).getD i 0).toNat (i:Int)
theorem zAO(s:Sd):∀i,(zLM s i).length=s.1.length
  |0=>List.length_replicate
  |i+1=>by unfold zLM;rw[lS];exact zAO s i
noncomputable def ixZ(s:Sd):List Int:=zLM s (fG s).length
noncomputable def zUX(s:Sd):Nat→List Pt:=uU fun i=>gp s.1 ((fG s).getD i 0).toNat
def zLC(x:Fc)(D:List Fc)(k:Nat):Prop:=lsF x (D.getD k zA)
noncomputable def u4(s:Sd):Nat→List Fc
  |0=>[]
  |f+1=>eV (u4 s f) (cV (zLC (nfF s (ixZ s) f) (u4 s f)) (u4 s f).length) (nfF s (ixZ s) f)
theorem zK0(s:Sd):∀f,(u4 s f).length=f
  |0=>rfl
  |f+1=>by
   unfold u4;rw[zDE _ _ (zB0 _ _),zK0 s f]
noncomputable def nrP(s:Sd):List Pt:=if dY s then zUX s (fG s).length else[]
noncomputable def nrF(s:Sd):List Fc:=if dY s then u4 s s.2.1.length else[]
noncomputable def nrE(s:Sd):List En:=if dY s then s.2.2 else[]
theorem zXK{s:Sd}(h:dY s):nmA s:=by
 have C:(szZ s).length=0:=by
  unfold dY zVY at h
  split at h
  · omega
  · omega
 have u:szZ s=[]:=List.eq_nil_of_length_eq_zero C;unfold szZ at u
 split at u
 · exact absurd u (by simp)
 · intro f z
   exact Classical.byContradiction fun e=>(zL4 _).1 u f z (.inr e)
theorem zC2{s:Sd}(h:okS s){ix:List Int}{f:Nat}(hf:f<s.2.1.length):(nfF s ix f).2.1.length≤100:=by
 have u:=sW (zHU s f) (nfL s ix f) (s.2.1.getD f zA).2.1.length;have D:=zLO s ix f (s.2.1.getD f zA).2.1.length;have C:=(h.2.1 f hf).1
 show List.length (ouL s ix f _++zBL s ix f _)≤_
 rw[lAz];have z:(ouL s ix f (s.2.1.getD f zA).2.1.length).length≤(s.2.1.getD f zA).2.1.length:=u;omega
theorem zR7{α:Type}{p:α→Prop}{l:List α}{k:Nat}{x:α}(h:∀y,y∈l→p y)(hx:p x):∀y,y∈eV l k x→p y:=by
 intro y u;unfold eV at u
 rcases List.mem_append.1 u with u|u
 · exact h y (List.mem_of_mem_take u)
 · rcases List.mem_cons.1 u with rfl|u
   · exact hx
   · exact h y (List.mem_of_mem_drop u)
theorem zRF{s:Sd}(h:okS s):∀f,f≤s.2.1.length→∀x,x∈u4 s f→x.2.1.length≤100
  |0,_,x,hx=>absurd hx List.not_mem_nil
  |f+1,hf,x,hx=>zR7 (p:=fun x:Fc=>x.2.1.length≤100) (zRF h f (by omega)) (zC2 h (by omega)) x hx
end Bk
namespace Go.Proofs.YtboaboflnckgoaaGreat
open Bk Go Tryz
set_option linter.unusedVariables false
set_option linter.unusedSimpArgs false
set_option maxRecDepth 10000
set_option maxHeartbeats 1000000
attribute [local irreducible] GL GC GQ W OpV
theorem zD6{w0:World}{h0:Mem}(hs:MLe h0 (mem w0)){vL:Value}{L:(List (List Int))}(rL:tII.Is h0 vL L)(hcd0:L.length≤100000)(hcd1:∀x,x∈L→x.length≤100000):
 Calls Tryz.prog 108 #[vL] w0 (Ret w0 h0 (fun h r=>tII.Is h r L)):=by
 refine cb1 20 vL func108 hs ?_;refine dE ?_;refine xR 32 1 ?_;have M:=RL.nil (ρ:=rpS rpI) (h:=h0);refine gcL (ι:=Nat×List (List Int)×Value×List Value×Mem) (fun(i,D,u,z,U)=>(MLe h0 U∧(RL (rpS rpI) U z D∧i≤L.length∧D=L.take i),[(0,vL),(3,u),(4,vI ↑i)],[.gs 32 1 u D.length z],U,L.length-i)) (0,[],(.slice none 0 0),[],h0) ?_ ?_
 · exact⟨mle,M,by omega,rfl⟩
 rintro⟨i,D,u,z,U⟩ ⟨ad,C,ar,hD⟩
 refine yU ?_;have av:=zSC hcd1 i;have aq:D.length≤i:=by rw[hD,List.length_take];omega
 refine gc9 (fun ac=>?_) fun ac=>?_
 ·
  refine go8 ?_;refine lX (xI [] i underlying81 fO rL) fun am aa=>(lX (xA fO aa) fun ak Z=>(zFC 3 1 ?_));have J:=RL.nil (ρ:=rpI) (h:=U);refine xT (A:=[]) (yF (ρ:=rpI) (bytes:=8) underlying32 gJ rfl rfl rfl rfl nP rfl rfl J Z bO bO) rfl rfl rfl ?_
  rintro aj ap ⟨ah,rfl,T⟩
  refine yJ (A:=[]) (ρ:=rpI) T ?_;intro h1 ab I;refine zF (zW (ρ:=(rpS rpI)) (m:=1) (xs:=[(([]:List Int)++(L.getD i []))]) (ps':=[(0,_)]) underlying81 jU rfl rfl rfl qJ e2z (zI rfl (Pc.arr (Pc.here _) [] 0 dC) I zY) (show 1*1≤16777216 from by decide) nP) rfl rfl rfl ?_
  rintro ai ao ⟨ae,rfl,S⟩
  refine yJ (A:=[]) (ρ:=(rpS rpI)) S ?_;intro h2 au H;refine xT (A:=[]) (yF (ρ:=(rpS rpI)) (bytes:=24) underlying81 jU rfl rfl rfl rfl nP rfl rfl C.up H bO bO) rfl rfl rfl ?_
  rintro Y an ⟨X,rfl,O⟩
  refine go9 ?_;refine gqL ((i+1),(D++[(([]:List Int)++(L.getD i []))]),Y,X,h2) ?_ ?_
  · exact⟨mle,O,by omega,by rw[hD,List.nil_append];exact(zNM [] oM).symm⟩
  omega
 have ei:i=L.length:=by omega
 refine qO ?_;refine wY (A:=[]) (ρ:=(rpS rpI)) C.up ?_;intro h1 ab G;refine zD rfl rfl ?_;exact(Rp.Is.cast G (by rw[hD,ei,List.take_length]))
theorem zE0{w0:World}{h0:Mem}(hs:MLe h0 (mem w0)){k m n j:Nat}{vs:Value}{s:Sq}(rs:(tSd k m n j).Is h0 vs s)(hcd0:s.2.1.length≤100000)(hcd1:∀f,f<s.2.1.length→(s.2.1.getD f zA).2.1.length≤100000∧∀x,x∈(s.2.1.getD f zA).2.1→x.length≤100000):
 Calls Tryz.prog 159 #[vs] w0 (Ret w0 h0 (fun h r=>(rpS tII).Is h r (vN s))):=by
 refine cb1 23 vs func159 hs ?_;refine go2 ?_;refine nB rs fun b1 ae O=>(j3 ?_);refine xR 81 1 ?_;have I:=RL.nil (ρ:=rpS (rpS rpI)) (h:=h0);refine gcL (ι:=Nat×List (List (List Int))×Value×List Value×Mem) (fun(f,D,u,z,T)=>(MLe h0 T∧(RL tII T z D∧f≤s.2.1.length∧D=uU (fun f=>(s.2.1.getD f zA).2.1) f),[(1,vP b1 0),(3,u),(4,vI ↑f)],[.gs 81 1 u D.length z,.var b1 50 ae],T,s.2.1.length-f)) (0,[],(.slice none 0 0),[],h0) ?_ ?_
 · exact⟨mle,I,by omega,rfl⟩
 rintro⟨f,D,u,z,T⟩ ⟨ah,C,aw,hD⟩
 refine yU ?_;have au:D.length=f:=by rw[hD];exact wK _ _
 refine go5 ?_;refine lX (xB tM (Pc.snd (Pc.fst pH)) O) fun v7 r7=>(gc4 (fun ad=>?_) fun ad=>?_)
 ·
  refine go7 ?_;refine lX (xB tM (Pc.snd (Pc.fst pH)) O) fun ap ab=>(go1 ?_);refine lX (xI zA f underlying47 fR ab) fun ao aa=>(lX (xF underlying83 sizeOf81 (Pc.snd (Pc.fst pH)) aa) fun an Z=>(lX (xA cJ Z) fun am Y=>(cL (ev1 rfl) call108 (fun w hs=>zD6 hs Y (by first|omega|exact(hcd1 f oM).1|exact(hcd1 f oM).2) (by first|omega|exact(hcd1 f oM).1|exact(hcd1 f oM).2)) fun ak h1 ac X=>(zF (zW (ρ:=tII) (m:=1) (xs:=[(((s.2.1.getD f zA).2).1)]) (ps':=[(0,_)]) underlying175 zLN rfl rfl rfl qJ e2z (zI rfl (Pc.arr (Pc.here _) [] 0 dC) X zY) (show 1*1≤16777216 from by decide) nP) rfl rfl rfl ?_))))
  rintro aj ar ⟨ai,rfl,M⟩
  refine yJ (A:=[]) (ρ:=tII) M ?_;intro h2 av H;refine xT (A:=[]) (yF (ρ:=tII) (bytes:=24) underlying175 zLN rfl rfl rfl rfl nP rfl rfl C.up H bO bO) rfl rfl rfl ?_
  rintro U aq ⟨S,rfl,J⟩
  refine go9 ?_;refine gqL ((f+1),(D++[(((s.2.1.getD f zA).2).1)]),U,S,h2) ?_ ?_
  · exact⟨mle,J,by omega,by rw[hD];rfl⟩
  omega
 have ef:f=s.2.1.length:=by omega
 refine qO ?_;refine wY (A:=[]) (ρ:=tII) C.up ?_;intro h1 ac G;refine zD rfl rfl ?_;exact(Rp.Is.cast G (by rw[hD,ef];rfl))
theorem zEZ{w0:World}{h0:Mem}(hs:MLe h0 (mem w0)){k m n j:Nat}{vs:Value}{s:Sq}(rs:(tSd k m n j).Is h0 vs s){f:Int}(hf1:-9223372036854775808≤f)(hf2:f<9223372036854775808)(hcd0:0≤f)(hcd1:f<↑s.2.1.length)(hcd2:(s.2.1.getD f.toNat zA).2.1.length≤100000)(hcd3:∀l,l<(s.2.1.getD f.toNat zA).2.1.length→((s.2.1.getD f.toNat zA).2.1.getD l []).length≤100000):
 Calls Tryz.prog 187 #[vs,vI f] w0 (Ret w0 h0 (fun _ r=>r=vB (nmP s f.toNat))):=by
 refine cb2 50 vs (vI f) func187 hs ?_;refine go2 ?_;refine nB rs fun U T G=>(go6 ?_);refine lX (xB tM (Pc.snd (Pc.fst pH)) G) fun v9 r9=>(go1 ?_);refine lX (xI zA f.toNat underlying47 fR r9) fun bg ak=>(lX (xF underlying83 sizeOf81 (Pc.snd (Pc.fst pH)) ak) fun bf aj=>(lX (xA cJ aj) fun D C=>(uQ ?_)));refine gcL (ι:=Nat×Mem) (fun(l,I)=>(MLe h0 I∧(l≤(s.2.1.getD f.toNat zA).2.1.length∧∀u,u<l→nmL s.1.length ((s.2.1.getD f.toNat zA).2.1.getD u [])),[(2,vP U 0),(5,D),(6,vI ↑l)],[.var U 50 T],I,(s.2.1.getD f.toNat zA).2.1.length-l)) (0,h0) ?_ ?_
 · exact⟨mle,by omega,fun u h=>by omega⟩
 rintro⟨l,I⟩ ⟨ap,bj,J⟩
 refine yU ?_;refine gc9 (fun S=>?_) fun S=>?_
 ·
  refine uQ ?_;refine gcL (ι:=Nat×Mem) (fun(i,H)=>(MLe I H∧(i≤((s.2.1.getD f.toNat zA).2.1.getD l []).length∧∀u,u<i→0≤((s.2.1.getD f.toNat zA).2.1.getD l []).getD u 0∧((s.2.1.getD f.toNat zA).2.1.getD l []).getD u 0<↑s.1.length),[(2,vP U 0),(5,D),(6,vI ↑l),(7,vI ↑i)],[.var U 50 T],H,((s.2.1.getD f.toNat zA).2.1.getD l []).length-i)) (0,I) ?_ ?_
  · exact⟨mle,by omega,fun u h=>by omega⟩
  rintro⟨i,H⟩ ⟨ao,bk,hi2⟩
  refine yU ?_;have bi:=hcd3 l oM;refine go6 ?_;refine lX (xI [] l underlying81 fO C) fun be ai=>(lX (xA fO ai) fun bd bh=>(gc4 (fun O=>?_) fun O=>?_))
  ·
   refine go5 ?_;refine zK 21 _ [] [(0,.q),(1,.q),(2,.q),(3,.q),(4,.q),(5,.q),(6,.q),(7,.q),(8,.q),(9,.q),(10,.q),(11,.q),(12,.q),(13,.q),(14,.q),(15,.q),(16,.q),(17,.q),(18,.q),(19,.q),(20,.q)] yC nX (vJ (by kernel_rfl)) nX (fun r hr=>hr) (go2 ?_);refine wX rfl (xI [] l underlying81 fO C) fun bc ah=>(wX rfl (xA fO ah) fun bb ae=>(go1 ?_));refine wX rfl (xI (0:Int) i underlying32 ty3 ae) fun ba ad=>(wX rfl (xA ty3 ad) fun az ac=>?_);obtain⟨rfl,ar,an⟩:=jX ac;refine go2 ?_;refine gR ((((((s.2.1.getD f.toNat zA).2).1).getD l []).getD i (0:Int))<(0:Int)) (fun z=>?_) (fun z=>?_)
   ·
    rw[xM z];refine go30 ?_;refine zD rfl rfl ?_;exact(yV (fun e=>by have:=e l oM i oM;omega)).symm
   rw[yV z];refine yO rfl rfl rfl (fun h' L' hh hR=>yX rfl) rfl (yO rfl rfl rfl (fun h' L' hh hR=>yX rfl) rfl (oX rfl (xI [] l underlying81 fO C) fun ay ab=>(oX rfl (xA fO ab) fun ax aa=>(yO rfl rfl rfl (fun h' L' hh hR=>yX rfl) rfl (oX rfl (xI (0:Int) i underlying32 ty3 aa) fun aw Z=>(oX rfl (xA ty3 Z) fun av Y=>?_))))));obtain⟨rfl,aq,am⟩:=jX Y;refine go1 ?_;refine oX rfl (xB uR (Pc.fst pH) G) fun au X=>(yO rfl rfl rfl (fun h' L' hh hR=>uW underlying46 rfl (X.mono hh)) rfl (gc4 (fun M=>?_) fun M=>?_))
   ·
    refine j3 ?_;refine zD rfl rfl ?_;exact(yV (fun e=>by have:=e l oM i oM;omega)).symm
   refine go8 ?_;refine gqL ((i+1),H) ?_ ?_
   · exact⟨mle,by omega,qL (Q:=fun u=>0≤((s.2.1.getD f.toNat zA).2.1.getD l []).getD u 0∧((s.2.1.getD f.toNat zA).2.1.getD l []).getD u 0<↑s.1.length) hi2 oM⟩
   omega
  refine qT ?_;refine gqL ((l+1),H) ?_ ?_
  · exact⟨mle,by omega,qL (Q:=fun u=>nmL s.1.length ((s.2.1.getD f.toNat zA).2.1.getD u [])) J (fun u hu=>hi2 u oM)⟩
  omega
 refine qT ?_;refine zD rfl rfl ?_;exact(xM (fun u hu=>J u oM)).symm
theorem zBA{w0:World}{h0:Mem}(hs:MLe h0 (mem w0)){k m n j:Nat}{vs:Value}{s:Sq}(rs:(tSd k m n j).Is h0 vs s){f:Int}(hf1:-9223372036854775808≤f)(hf2:f<9223372036854775808)(hcd0:s.1.length≤100000)(hcd1:∀f,f<s.2.1.length→(s.2.1.getD f zA).2.1.length≤10000∧∀l,l<(s.2.1.getD f zA).2.1.length→((s.2.1.getD f zA).2.1.getD l []).length≤10000):
 Calls Tryz.prog 189 #[vs,vI f] w0 (Ret w0 h0 (fun h r=>(tLL (k+1)).Is h r (fP s f))):=by
 refine cb2 65 vs (vI f) func189 hs ?_;refine go2 ?_;refine nB rs fun b2 ah S=>(go8 ?_);refine gU 7 18 (vB ((f<(0:Int))∨((↑(s.2.1).length:Int)≤f))) ?_ ?_
 ·
  refine yD (f<(0:Int)) (fun M=>?_) (fun M=>?_)
  ·
   refine gT M rfl (go7 ?_);refine gqU ?_;exact congrArg some (vZ M)
  refine gF M rfl (go5 ?_);refine lX (xB tM (Pc.snd (Pc.fst pH)) S) fun cm co=>(go6 ?_);refine gqU ?_;exact congrArg some (uA M)
 refine uL (ι:=Mem) 6 (fun m_=>MLe h0 m_) (fun _=>[(24,vB (((f<(0:Int))∨((↑(s.2.1).length:Int)≤f))∨(¬(nmP s f.toNat)))),(1,vI f),(2,vP b2 0)]) (fun _=>[.var b2 50 ah]) (fun m_=>m_) ?_ ?_
 ·
  refine yD ((f<(0:Int))∨((↑(s.2.1).length:Int)≤f)) (fun M=>?_) (fun M=>?_)
  ·
   refine gT M rfl (go6 ?_);refine zO h0 (MLe.refl _) ⟨?_,rfl,rfl,trivial⟩ rfl rfl;exact congrArg some (vZ M)
  refine gF M rfl (go1 ?_);refine lX (xB kF pH S) fun cl bo=>(go3 ?_);refine cL (ev2 rfl rfl) call187 (fun w hs=>zEZ hs bo oM oM oM (by first|omega|exact Nat.le_trans (hcd1 f.toNat oM).1 dC|exact fun l hl=>Nat.le_trans ((hcd1 f.toNat oM).2 l hl) dC) (by first|omega|exact Nat.le_trans (hcd1 f.toNat oM).1 dC|exact fun l hl=>Nat.le_trans ((hcd1 f.toNat oM).2 l hl) dC) (by first|omega|exact Nat.le_trans (hcd1 f.toNat oM).1 dC|exact fun l hl=>Nat.le_trans ((hcd1 f.toNat oM).2 l hl) dC)) fun bb h1 T bn=>?_;obtain rfl:bb=vB (nmP s f.toNat):=bn;refine go4 ?_;refine zO h1 T ⟨?_,rfl,rfl,trivial⟩ rfl rfl;exact congrArg some (uA M)
 intro G ar;refine tJ ?_;refine gc2 (fun O=>?_) fun O=>?_
 ·
  refine go7 ?_;refine zD rfl rfl ?_;exact(Rp.Is.cast (mB _) (by exact(if_neg (fun e=>O.elim (fun h=>by omega) (fun h=>h e.2))).symm))
 have ap:(0≤f∧f<↑s.2.1.length)∧nmP s f.toNat:=by constructor;exact oM;exact Classical.not_not.1 (fun e=>O (.inr e))
 have aq:∀l,l<(s.2.1.getD f.toNat zA).2.1.length→∀q,q<((s.2.1.getD f.toNat zA).2.1.getD l []).length→0≤((s.2.1.getD f.toNat zA).2.1.getD l []).getD q 0∧((s.2.1.getD f.toNat zA).2.1.getD l []).getD q 0<↑s.1.length:=fun l hl q hq=>ap.2 l hl q hq;have au:=hcd1 f.toNat oM;refine uQ ?_;refine lX (xB tM (Pc.snd (Pc.fst pH)) S) fun ck bm=>(go1 ?_);refine lX (xI zA f.toNat underlying47 fR bm) fun cj bl=>(lX (xF underlying83 sizeOf81 (Pc.snd (Pc.fst pH)) bl) fun ci bk=>(lX (xA cJ bk) fun ai ao=>(uQ ?_)));refine xR 46 1 ?_;have ad:=RL.nil (ρ:=rpS (tPt (k+1))) (h:=G);refine gcL (ι:=Nat×List (List Tq)×Value×List Value×Mem) (fun(l,D,u,z,ml)=>(MLe G ml∧(RL (tLs (k+1)) ml z D∧l≤(s.2.1.getD f.toNat zA).2.1.length∧D=zI5 s f.toNat l),[(2,vP b2 0),(5,u),(6,ai),(7,vI ↑l)],[.gs 46 1 u D.length z,.var b2 50 ah],ml,(s.2.1.getD f.toNat zA).2.1.length-l)) (0,[],(.slice none 0 0),[],G) ?_ ?_
 · exact⟨mle,ad,by omega,rfl⟩
 rintro⟨l,D,u,z,ml⟩ ⟨bs,J,cz,hD⟩
 refine yU ?_;have cy:D.length=l:=by rw[hD];exact wK _ _
 refine gc9 (fun aw=>?_) fun aw=>?_
 ·
  refine zAQ ?_;refine xR 53 9 ?_;have ac:=RL.nil (ρ:=rpT (rpQ (k+1))) (h:=ml);refine gcL (ι:=Nat×List Tq×Value×List Value×Mem) (fun(q,U,C,H,mq)=>(MLe ml mq∧(RL (tPt (k+1)) mq H U∧q≤((s.2.1.getD f.toNat zA).2.1.getD l []).length∧U=zUN s.1 ((s.2.1.getD f.toNat zA).2.1.getD l []) q),[(2,vP b2 0),(5,u),(6,ai),(7,vI ↑l),(8,C),(9,vI ↑q)],[.gs 53 9 C U.length H,.gs 46 1 u D.length z,.var b2 50 ah],mq,((s.2.1.getD f.toNat zA).2.1.getD l []).length-q)) (0,[],(.slice none 0 0),[],ml) ?_ ?_
  · exact⟨mle,ac,by omega,rfl⟩
  rintro⟨q,U,C,H,mq⟩ ⟨br,I,cv,ae⟩
  refine yU ?_;have cw:U.length=q:=by rw[ae];exact wK _ _
  have bp:=au.2 l oM;refine go6 ?_;refine lX (xI [] l underlying81 fO ao) fun ch bj=>(lX (xA fO bj) fun cg cn=>(gc4 (fun av=>?_) fun av=>?_))
  ·
   refine go4 ?_;refine jJ (A:=[]) 15 [] [(0,.q),(1,.q),(2,.q),(3,.q),(4,.q),(5,.q),(6,.q),(7,.q),(8,.q),(9,.q),(10,.q),(11,.q),(12,.c),(13,.c),(14,.q)] yC nX (vJ (by kernel_rfl)) nX (go2 ?_);refine wX rfl (xB uR (Pc.fst pH) S) fun cf bi=>(go2 ?_);refine wX rfl (xI [] l underlying81 fO ao) fun ce bh=>(wX rfl (xA fO bh) fun cd bg=>(go1 ?_));refine wX rfl (xI (0:Int) q underlying32 ty3 bg) fun cc bf=>(wX rfl (xA ty3 bf) fun cb be=>?_);obtain⟨rfl,bt,bq⟩:=jX be;refine mX (F:=fun v_=>AtP (tPt k) mq v_ (s.1.getD ((((s.2.1.getD f.toNat zA).2.1.getD l []).getD q 0).toNat) zT)) rfl (lH zT ((((s.2.1.getD f.toNat zA).2.1.getD l []).getD q 0).toNat) underlying46 zU rfl rfl bi (by(have h:=aq l oM q oM;omega)) (by(have h:=aq l oM q oM;omega)) nP) zBI rfl ?_;intro ca bd;refine wX rfl (xA zU bd) fun bz bc=>?_;refine w_c rfl (kU (fun X=>zW (ρ:=(tPt (k+1))) (m:=1) (xs:=[(s.1.getD ((((s.2.1.getD f.toNat zA).2.1.getD l []).getD q 0).toNat) zT)]) (ps':=[(0,_)]) underlying46 yW rfl rfl rfl (xY (yH oM)) e2z (zI rfl (Pc.arr (Pc.here _) zT 0 dC) (bc.le (Le.t (Le.q (l:=k+1) oM))) zY) (show 1*9≤16777216 from by decide) nP) rfl ?_)
   rintro bx cu ⟨bv,rfl,an⟩
   refine w_c rfl (vG (A:=[]) (ρ:=(tPt (k+1))) an dK ?_);intro h1 T ab;refine sR (A:=[]) (fun X=>yF (ρ:=(tPt (k+1))) (bytes:=168) underlying46 yW rfl rfl rfl rfl nP rfl rfl I.up ab bO bO) rfl (wN (by first|(simp;done)|grind)) ?_
   rintro ba ct ⟨ay,rfl,am⟩
   refine go9 ?_;refine gqL ((q+1),(U++[(s.1.getD ((((s.2.1.getD f.toNat zA).2.1.getD l []).getD q 0).toNat) zT)]),ba,ay,h1) ?_ ?_
   · exact⟨mle,am,by omega,by rw[ae];rfl⟩
   omega
  have eq:q=((s.2.1.getD f.toNat zA).2.1.getD l []).length:=by omega
  have bp:=au.2 l oM;refine go8 ?_;refine yJ (A:=[]) (ρ:=(tPt (k+1))) I.up ?_;intro h1 T aa;refine zF (zW (ρ:=(tLs (k+1))) (m:=1) (xs:=[U]) (ps':=[(0,_)]) underlying115 zAP rfl rfl rfl qJ e2z (zI rfl (Pc.arr (Pc.here _) [] 0 dC) aa zY) (show 1*1≤16777216 from by decide) nP) rfl rfl rfl ?_
  rintro bw cq ⟨bu,rfl,ak⟩
  refine yJ (A:=[]) (ρ:=(tLs (k+1))) ak ?_;intro h2 da Z;refine xT (A:=[]) (yF (ρ:=(tLs (k+1))) (bytes:=24) underlying115 zAP rfl rfl rfl rfl nP rfl rfl J.up Z bO bO) rfl rfl rfl ?_
  rintro az cp ⟨ax,rfl,aj⟩
  refine go9 ?_;refine gqL ((l+1),(D++[U]),az,ax,h2) ?_ ?_
  · exact⟨mle,aj,by omega,by rw[hD,ae,eq];rfl⟩
  omega
 have el:l=(s.2.1.getD f.toNat zA).2.1.length:=by omega
 refine qO ?_;refine wY (A:=[]) (ρ:=(tLs (k+1))) J.up ?_;intro h1 T Y;refine zD rfl rfl ?_;exact(Rp.Is.cast Y (by rw[hD,el];exact(if_pos ap).symm))
theorem zBH{w0:World}{h0:Mem}(hs:MLe h0 (mem w0)){m n k:Nat}{vpl:Value}{pl:Pq}(rpl:(tPl m n).Is h0 vpl pl){vl:Value}{l:(List Tq)}(rl:(tLs k).Is h0 vl l)(hcd0:k≤100000000)(hcd1:m≤100000000)(hcd2:n≤100000000)(hcd3:l.length≤100000):
 Calls Tryz.prog 207 #[vpl,vl] w0 (Ret w0 h0 (fun h r=>(tLs (k+1)).Is h r (flA pl l l.length))):=by
 refine cb2 23 vpl vl func207 hs ?_;refine go2 ?_;refine nB rpl fun b2 ae Y=>(j3 ?_);refine xR 53 9 ?_;have I:=RL.nil (ρ:=rpT (rpQ (k+1))) (h:=h0);refine gcL (ι:=Nat×List Tq×Value×List Value×Mem) (fun(i,D,u,z,T)=>(MLe h0 T∧(RL (tPt (k+1)) T z D∧i≤l.length∧D=flA pl l i),[(1,vl),(2,vP b2 0),(5,u),(6,vI ↑i)],[.gs 53 9 u D.length z,.var b2 80 ae],T,l.length-i)) (0,[],(.slice none 0 0),[],h0) ?_ ?_
 · exact⟨mle,I,by omega,rfl⟩
 rintro⟨i,D,u,z,T⟩ ⟨ah,C,ar,hD⟩
 refine yU ?_;have av:D.length=i:=by rw[hD];exact wK _ _
 refine gc9 (fun O=>?_) fun O=>?_
 ·
  refine go4 ?_;refine jJ (A:=[]) 10 [] [(0,.q),(1,.q),(2,.q),(3,.q),(4,.q),(5,.q),(6,.c),(7,.c),(8,.c),(9,.q)] yC nX (by kernel_rfl) nX (go1 ?_);refine wX rfl (xB zG6 pH Y) fun ao ac=>(go2 ?_);refine wX rfl (xI zT i underlying46 zU rl) fun an ab=>(wX rfl (xA zU ab) fun am aa=>?_);refine w_c rfl (sC (ev2 rfl rfl) call208 (fun w hs=>zGD hs ac aa oM oM) fun ak h1 ad Z=>?_);refine w_c rfl (kU (fun X=>zW (ρ:=(tPt (k+1))) (m:=1) (xs:=[cH pl (l.getD i zT)]) (ps':=[(0,_)]) underlying46 yW rfl rfl rfl (xY (yH oM)) e2z (zI rfl (Pc.arr (Pc.here _) zT 0 dC) Z zY) (show 1*9≤16777216 from by decide) nP) rfl ?_)
  rintro aj aq ⟨ai,rfl,M⟩
  refine w_c rfl (vG (A:=[]) (ρ:=(tPt (k+1))) M dK ?_);intro h2 au H;refine sR (A:=[]) (fun X=>yF (ρ:=(tPt (k+1))) (bytes:=168) underlying46 yW rfl rfl rfl rfl nP rfl rfl C.up H bO bO) rfl (wN (by first|(simp;done)|grind)) ?_
  rintro U ap ⟨S,rfl,J⟩
  refine go9 ?_;refine gqL ((i+1),(D++[cH pl (l.getD i zT)]),U,S,h2) ?_ ?_
  · exact⟨mle,J,by omega,by rw[hD];rfl⟩
  omega
 have ei:i=l.length:=by omega
 refine qO ?_;refine wY (A:=[]) (ρ:=(tPt (k+1))) C.up ?_;intro h1 ad G;refine zD rfl rfl ?_;exact(Rp.Is.cast G (by rw[hD,ei]))
theorem w7{w0:World}{h0:Mem}(hs:MLe h0 (mem w0)){m n k:Nat}{vpl:Value}{pl:Pq}(rpl:(tPl m n).Is h0 vpl pl){vL:Value}{L:(List (List Tq))}(rL:(tLL k).Is h0 vL L)(hcd0:k≤100000000)(hcd1:m≤100000000)(hcd2:n≤100000000)(hcd3:L.length≤100000)(hcd4:∀l,l<L.length→(L.getD l []).length≤10000):
 Calls Tryz.prog 198 #[vpl,vL] w0 (Ret w0 h0 (fun h r=>(tLL (k+1)).Is h r (flL pl L L.length))):=by
 refine cb2 23 vpl vL func198 hs ?_;refine go2 ?_;refine nB rpl fun b2 ae Y=>(j3 ?_);refine xR 46 1 ?_;have I:=RL.nil (ρ:=rpS (tPt (k+1))) (h:=h0);refine gcL (ι:=Nat×List (List Tq)×Value×List Value×Mem) (fun(i,D,u,z,T)=>(MLe h0 T∧(RL (tLs (k+1)) T z D∧i≤L.length∧D=flL pl L i),[(1,vL),(2,vP b2 0),(5,u),(6,vI ↑i)],[.gs 46 1 u D.length z,.var b2 80 ae],T,L.length-i)) (0,[],(.slice none 0 0),[],h0) ?_ ?_
 · exact⟨mle,I,by omega,rfl⟩
 rintro⟨i,D,u,z,T⟩ ⟨ah,C,ar,hD⟩
 refine yU ?_;have av:D.length=i:=by rw[hD];exact wK _ _
 refine gc9 (fun O=>?_) fun O=>?_
 ·
  refine go4 ?_;refine jJ (A:=[]) 10 [] [(0,.q),(1,.q),(2,.q),(3,.q),(4,.q),(5,.q),(6,.c),(7,.c),(8,.c),(9,.q)] yC nX (by kernel_rfl) nX (go1 ?_);refine wX rfl (xB zG6 pH Y) fun ao ac=>(go2 ?_);refine wX rfl (xI [] i underlying115 uR rL) fun an ab=>(wX rfl (xA uR ab) fun am aa=>?_);refine w_c rfl (sC (ev2 rfl rfl) call207 (fun w hs=>zBH hs ac aa oM oM oM (by first|omega|exact Nat.le_trans (hcd4 i oM) dC)) fun ak h1 ad Z=>?_);refine w_c rfl (kU (fun X=>zW (ρ:=(tLs (k+1))) (m:=1) (xs:=[flA pl (L.getD i []) (L.getD i []).length]) (ps':=[(0,_)]) underlying115 zAP rfl rfl rfl qJ e2z (zI rfl (Pc.arr (Pc.here _) [] 0 dC) Z zY) (show 1*1≤16777216 from by decide) nP) rfl ?_)
  rintro aj aq ⟨ai,rfl,M⟩
  refine w_c rfl (vG (A:=[]) (ρ:=(tLs (k+1))) M dK ?_);intro h2 au H;refine sR (A:=[]) (fun X=>yF (ρ:=(tLs (k+1))) (bytes:=24) underlying115 zAP rfl rfl rfl rfl nP rfl rfl C.up H bO bO) rfl (wN (by first|(simp;done)|grind)) ?_
  rintro U ap ⟨S,rfl,J⟩
  refine go9 ?_;refine gqL ((i+1),(D++[flA pl (L.getD i []) (L.getD i []).length]),U,S,h2) ?_ ?_
  · exact⟨mle,J,by omega,by rw[hD];rfl⟩
  omega
 have ei:i=L.length:=by omega
 refine qO ?_;refine wY (A:=[]) (ρ:=(tLs (k+1))) C.up ?_;intro h1 ad G;refine zD rfl rfl ?_;exact(Rp.Is.cast G (by rw[hD,ei]))
theorem zIA{w0:World}{h0:Mem}(hs:MLe h0 (mem w0)){k m n j:Nat}{vs:Value}{s:Sq}(rs:(tSd k m n j).Is h0 vs s){f:Nat}(hcd0:k≤1000)(hcd1:m≤100000)(hcd2:n≤100000)(hcd3:s.1.length≤100000)(hcd4:∀f,f<s.2.1.length→(s.2.1.getD f zA).2.1.length≤10000∧∀l,l<(s.2.1.getD f zA).2.1.length→((s.2.1.getD f zA).2.1.getD l []).length≤10000)(hcd5:f<s.2.1.length)(hcd6:s.2.1.length≤100000):
 Calls Tryz.prog 176 #[vs,vI ↑f] w0 (Ret w0 h0 (fun h r=>(tLL (k+2)).Is h r (rG s f))):=by
 have u:=zVX (s:=s) (f:=↑f) hcd4;refine cb2 15 vs (vI ↑f) func176 hs ?_;refine go2 ?_;refine nB rs fun b2 ab C=>(go4 ?_);refine zK 11 _ [] [(0,.q),(1,.q),(2,.q),(3,.q),(4,.q),(5,.q),(6,.q),(7,.q),(8,.c),(9,.c),(10,.q)] yC nX (by kernel_rfl) nX (fun r X=>X) (go1 ?_);refine wX rfl (xB tM (Pc.snd (Pc.fst pH)) C) fun v6 U=>(go1 ?_);refine wX rfl (xI zA f underlying47 fR U) fun v8 T=>(wX rfl (xF underlying83 sizeOf80 (Pc.fst pH) T) fun v9 S=>(wX rfl (xA zG6 S) fun O H=>(wX rfl (xB kF pH C) fun M G=>(go1 ?_))));refine w_c rfl (sC (ev2 rfl rfl) call189 (fun w hs=>zBA hs G oM oM (by first|omega|exact hcd4) (by first|omega|exact hcd4)) fun J h1 aa D=>?_);refine w_c rfl (sC (ev2 rfl rfl) call198 (fun w hs=>w7 hs H.up D oM oM oM (by first|omega|exact u.1|exact fun l Y=>u.2 l) (by first|omega|exact u.1|exact fun l Y=>u.2 l)) fun I h2 Z z=>?_);replace z:=Rp.Is.le z (Le.s (Le.s (Le.t (Le.q (l:=k+2) oM))));refine go4 ?_;refine zD rfl rfl ?_;exact z
theorem iX{w0:World}{h0:Mem}(hs:MLe h0 (mem w0)){kind:Int}(hkind1:-9223372036854775808≤kind)(hkind2:kind<9223372036854775808){face:Int}(hface1:-9223372036854775808≤face)(hface2:face<9223372036854775808){loop:Int}(hloop1:-9223372036854775808≤loop)(hloop2:loop<9223372036854775808){edge:Int}(hedge1:-9223372036854775808≤edge)(hedge2:edge<9223372036854775808):
 Calls Tryz.prog 188 #[vI kind,vI face,vI loop,vI edge] w0 (Ret w0 h0 (fun h r=>tE5.Is h r (dg kind face loop edge))):=by
 refine gM (n:=14) (e:=[(0,vI kind),(1,vI face),(2,vI loop),(3,vI edge)]) (vs:=[vI kind,vI face,vI loop,vI edge]) func188 rfl rfl (bL rfl) hs e4z (go2 ?_);refine nA (ρ:=tE5) (X:=e50) qW (yL wG (yL wG (yL wG (yL wG wG)))) fun O M D=>(go8 ?_);refine lX (xV (ρ:=tE5) (wD (ps':=[(0,_),(1,_),(2,_),(3,_),(4,_)]) underlying200 qW rfl rfl (zAB underlying200) e10 rfl (yL wG (yL wG (yL wG (yL wG wG)))) (zI rfl (Pc.fst (Pc.here _)) (qD oM oM) (zI rfl (Pc.snd (Pc.fst (Pc.here _))) (qD dC dC) (zI rfl (Pc.snd (Pc.snd (Pc.fst (Pc.here _)))) (qD oM oM) (zI rfl (Pc.snd (Pc.snd (Pc.snd (Pc.fst (Pc.here _))))) (qD oM oM) (zI rfl (Pc.snd (Pc.snd (Pc.snd (Pc.snd (Pc.here _))))) (qD oM oM) zY))))))) fun J G=>(zS (A:=[]) (uB sizeOf200 pH D G) fun H C=>(go3 ?_));refine wM (kA (t:=8) yAG mh0 rfl C) ?_;intro I u z;refine yG (fun E S=>zQ rfl u E S) ?_;exact z
end Go.Proofs.YtboaboflnckgoaaGreat
