/- Texts that the proof needs, part 3. -/
import Derived.Test.YtboaboflnckgoaaGreatKB2
namespace Go.Proofs.YtboaboflnckgoaaGreat
open Bk Go Tryz
set_option linter.unusedVariables false
instance:Und Tryz.prog 2:=⟨_,underlying2⟩
instance:Und Tryz.prog 3:=⟨_,underlying3⟩
instance:Und Tryz.prog 4:=⟨_,underlying4⟩
instance:Und Tryz.prog 5:=⟨_,underlying5⟩
instance:Und Tryz.prog 9:=⟨_,underlying9⟩
instance:Und Tryz.prog 22:=⟨_,underlying22⟩
instance:Und Tryz.prog 23:=⟨_,underlying23⟩
instance:Und Tryz.prog 25:=⟨_,underlying25⟩
instance:Und Tryz.prog 26:=⟨_,underlying26⟩
instance:Und Tryz.prog 27:=⟨_,underlying27⟩
instance:Und Tryz.prog 30:=⟨_,underlying30⟩
instance:Und Tryz.prog 32:=⟨_,underlying32⟩
instance:Und Tryz.prog 33:=⟨_,underlying33⟩
instance:Und Tryz.prog 34:=⟨_,underlying34⟩
instance:Und Tryz.prog 39:=⟨_,underlying39⟩
instance:Und Tryz.prog 44:=⟨_,underlying44⟩
instance:Und Tryz.prog 46:=⟨_,underlying46⟩
instance:Und Tryz.prog 47:=⟨_,underlying47⟩
instance:Und Tryz.prog 48:=⟨_,underlying48⟩
instance:Und Tryz.prog 49:=⟨_,underlying49⟩
instance:Und Tryz.prog 50:=⟨_,underlying50⟩
instance:Und Tryz.prog 52:=⟨_,underlying52⟩
instance:Und Tryz.prog 53:=⟨_,underlying53⟩
instance:Und Tryz.prog 54:=⟨_,underlying54⟩
instance:Und Tryz.prog 55:=⟨_,underlying55⟩
instance:Und Tryz.prog 56:=⟨_,underlying56⟩
instance:Und Tryz.prog 58:=⟨_,underlying58⟩
instance:Und Tryz.prog 73:=⟨_,underlying73⟩
instance:Und Tryz.prog 79:=⟨_,underlying79⟩
instance:Und Tryz.prog 80:=⟨_,underlying80⟩
instance:Und Tryz.prog 81:=⟨_,underlying81⟩
instance:Und Tryz.prog 82:=⟨_,underlying82⟩
instance:Und Tryz.prog 83:=⟨_,underlying83⟩
instance:Und Tryz.prog 96:=⟨_,underlying96⟩
instance:Und Tryz.prog 97:=⟨_,underlying97⟩
instance:Und Tryz.prog 106:=⟨_,underlying106⟩
instance:Und Tryz.prog 108:=⟨_,underlying108⟩
instance:Und Tryz.prog 115:=⟨_,underlying115⟩
instance:Und Tryz.prog 116:=⟨_,underlying116⟩
instance:Und Tryz.prog 117:=⟨_,underlying117⟩
instance:Und Tryz.prog 127:=⟨_,underlying127⟩
instance:Und Tryz.prog 130:=⟨_,underlying130⟩
instance:Und Tryz.prog 137:=⟨_,underlying137⟩
instance:Und Tryz.prog 153:=⟨_,underlying153⟩
instance:Und Tryz.prog 175:=⟨_,underlying175⟩
instance:Und Tryz.prog 189:=⟨_,underlying189⟩
instance:Und Tryz.prog 190:=⟨_,underlying190⟩
instance:Und Tryz.prog 192:=⟨_,underlying192⟩
instance:Und Tryz.prog 193:=⟨_,underlying193⟩
instance:Und Tryz.prog 196:=⟨_,underlying196⟩
instance:Und Tryz.prog 199:=⟨_,underlying199⟩
instance:Und Tryz.prog 200:=⟨_,underlying200⟩
instance:Und Tryz.prog 209:=⟨_,underlying209⟩
instance:Und Tryz.prog 212:=⟨_,underlying212⟩
instance:Und Tryz.prog 232:=⟨_,underlying232⟩
instance:Und Tryz.prog 233:=⟨_,underlying233⟩
instance:Siz Tryz.prog 3:=⟨_,sizeOf3⟩
instance:Siz Tryz.prog 4:=⟨_,sizeOf4⟩
instance:Siz Tryz.prog 5:=⟨_,sizeOf5⟩
instance:Siz Tryz.prog 9:=⟨_,sizeOf9⟩
instance:Siz Tryz.prog 22:=⟨_,sizeOf22⟩
instance:Siz Tryz.prog 26:=⟨_,sizeOf26⟩
instance:Siz Tryz.prog 32:=⟨_,sizeOf32⟩
instance:Siz Tryz.prog 34:=⟨_,sizeOf34⟩
instance:Siz Tryz.prog 46:=⟨_,sizeOf46⟩
instance:Siz Tryz.prog 47:=⟨_,sizeOf47⟩
instance:Siz Tryz.prog 48:=⟨_,sizeOf48⟩
instance:Siz Tryz.prog 50:=⟨_,sizeOf50⟩
instance:Siz Tryz.prog 53:=⟨_,sizeOf53⟩
instance:Siz Tryz.prog 54:=⟨_,sizeOf54⟩
instance:Siz Tryz.prog 56:=⟨_,sizeOf56⟩
instance:Siz Tryz.prog 73:=⟨_,sizeOf73⟩
instance:Siz Tryz.prog 80:=⟨_,sizeOf80⟩
instance:Siz Tryz.prog 81:=⟨_,sizeOf81⟩
instance:Siz Tryz.prog 83:=⟨_,sizeOf83⟩
instance:Siz Tryz.prog 108:=⟨_,sizeOf108⟩
instance:Siz Tryz.prog 116:=⟨_,sizeOf116⟩
instance:Siz Tryz.prog 117:=⟨_,sizeOf117⟩
instance:Siz Tryz.prog 127:=⟨_,sizeOf127⟩
instance:Siz Tryz.prog 193:=⟨_,sizeOf193⟩
instance:Siz Tryz.prog 200:=⟨_,sizeOf200⟩
instance:Agg Tryz.prog 3:=⟨_,isAgg3⟩
instance:Agg Tryz.prog 4:=⟨_,isAgg4⟩
instance:Agg Tryz.prog 5:=⟨_,isAgg5⟩
instance:Agg Tryz.prog 9:=⟨_,isAgg9⟩
instance:Agg Tryz.prog 22:=⟨_,isAgg22⟩
instance:Agg Tryz.prog 26:=⟨_,isAgg26⟩
instance:Agg Tryz.prog 32:=⟨_,isAgg32⟩
instance:Agg Tryz.prog 34:=⟨_,isAgg34⟩
instance:Agg Tryz.prog 46:=⟨_,isAgg46⟩
instance:Agg Tryz.prog 47:=⟨_,isAgg47⟩
instance:Agg Tryz.prog 48:=⟨_,isAgg48⟩
instance:Agg Tryz.prog 50:=⟨_,isAgg50⟩
instance:Agg Tryz.prog 53:=⟨_,isAgg53⟩
instance:Agg Tryz.prog 54:=⟨_,isAgg54⟩
instance:Agg Tryz.prog 56:=⟨_,isAgg56⟩
instance:Agg Tryz.prog 73:=⟨_,isAgg73⟩
instance:Agg Tryz.prog 80:=⟨_,isAgg80⟩
instance:Agg Tryz.prog 81:=⟨_,isAgg81⟩
instance:Agg Tryz.prog 83:=⟨_,isAgg83⟩
instance:Agg Tryz.prog 108:=⟨_,isAgg108⟩
instance:Agg Tryz.prog 116:=⟨_,isAgg116⟩
instance:Agg Tryz.prog 117:=⟨_,isAgg117⟩
instance:Agg Tryz.prog 127:=⟨_,isAgg127⟩
instance:Agg Tryz.prog 200:=⟨_,isAgg200⟩
instance:Inf Tryz.prog 3:=⟨_,zV6⟩
instance:Inf Tryz.prog 4:=⟨_,zPW⟩
instance:Inf Tryz.prog 5:=⟨_,yAR⟩
instance:Inf Tryz.prog 9:=⟨_,yAQ⟩
instance:Inf Tryz.prog 22:=⟨_,zPX⟩
instance:Inf Tryz.prog 26:=⟨_,zV⟩
instance:Inf Tryz.prog 32:=⟨_,zXX⟩
instance:Inf Tryz.prog 34:=⟨_,iP⟩
instance:Inf Tryz.prog 46:=⟨_,zXW⟩
instance:Inf Tryz.prog 47:=⟨_,zXV⟩
instance:Inf Tryz.prog 48:=⟨_,zXU⟩
instance:Inf Tryz.prog 50:=⟨_,zXT⟩
instance:Inf Tryz.prog 53:=⟨_,zXS⟩
instance:Inf Tryz.prog 54:=⟨_,zXR⟩
instance:Inf Tryz.prog 56:=⟨_,zXQ⟩
instance:Inf Tryz.prog 73:=⟨_,zXP⟩
instance:Inf Tryz.prog 80:=⟨_,zXO⟩
instance:Inf Tryz.prog 81:=⟨_,zXN⟩
instance:Inf Tryz.prog 83:=⟨_,zXM⟩
instance:Inf Tryz.prog 97:=⟨_,zXL⟩
instance:Inf Tryz.prog 108:=⟨_,zT4⟩
instance:Inf Tryz.prog 116:=⟨_,zT3⟩
instance:Inf Tryz.prog 117:=⟨_,zT2⟩
instance:Inf Tryz.prog 127:=⟨_,zT1⟩
instance:Inf Tryz.prog 193:=⟨_,zT0⟩
instance:Inf Tryz.prog 200:=⟨_,zTZ⟩
theorem zKI{P:Program}{n:Nat}{w0:World}{h0 h:Mem}{e:List (Nat×Value)}{L:List Res}{ds:Option Tmp}{ty:TypeId}{ps:String}{af:Array Edge}{gd:Option (Nat×Bool)}{t:TypeId}{x:Operand}{b k:Nat}{E:TypeId}{cs:List Value}{u v s:Value}{d:TypeDesc}(hm:.var b E cs∈L)(hu:P.underlying t=some d)(hd:d.isRow=true)(hi:(P.info? t).map (·.size)=some 3)(hx:zJ e x=some (vP b k))(hv:(cs.drop k).take 3=[u,v,s]):OpV P n w0 h0 ⟨ds,.load t x,ty,ps,af,gd⟩ e L h (.agg #[u,v,s]):=zH0 (vs:=[u,v,s]) hm hu hd hi hx hv
theorem ov{P:Program}{n:Nat}{w0:World}{h0 h:Mem}{o:Oper}{e:List (Nat×Value)}{L:List Res}{v:Value}(f:OpV P n w0 h0 o e L h v:=by first|exact yN rfl rfl|exact lP rfl rfl|exact bJ rfl rfl|exact oK rfl rfl|exact oN rfl rfl|exact lK rfl rfl|exact yA rfl rfl (by omega) (by omega)|exact qX rfl rfl (by omega) (by omega)|exact wQ uu rfl (by with_reducible first|assumption|exact Us.up (by assumption))|exact uW uu rfl (by with_reducible first|assumption|exact Rp.Is.up (by assumption))|exact kP (vs:=[_,_]) rfl rfl|exact kP (vs:=[_,_,_]) rfl rfl|exact rT rfl rfl|exact(xW uu (by simp only[List.getElem?_toArray,List.getElem?_cons_succ,List.getElem?_cons_zero]<;>exact rfl) uz rfl).cv (congrArg (vP _) (by(simp only[Nat.reduceAdd,Nat.reduceMul,Nat.zero_add,Nat.add_zero,Nat.zero_mul])<;>exact rfl))|exact(zX 0 uu uz rfl rfl rfl (by decide)).cv (congrArg (vP _) (by(simp only[Nat.reduceAdd,Nat.reduceMul,Nat.zero_add,Nat.add_zero,Nat.zero_mul])<;>exact rfl))|exact(zX 1 uu uz rfl rfl rfl (by decide)).cv (congrArg (vP _) (by(simp only[Nat.reduceAdd,Nat.reduceMul,Nat.zero_add,Nat.add_zero,Nat.zero_mul])<;>exact rfl))|exact(zX 2 uu uz rfl rfl rfl (by decide)).cv (congrArg (vP _) (by(simp only[Nat.reduceAdd,Nat.reduceMul,Nat.zero_add,Nat.add_zero,Nat.zero_mul])<;>exact rfl))|exact zKI (by first|exact mh0|exact mh1|exact mh2|exact mh3|exact mh4|exact mh5) uu (by exact rfl) us_ rfl rfl|exact rU rfl rfl|exact oH rfl|exact gB rfl rfl|exact fF rfl rfl|exact zCN rfl rfl|exact sZ rfl rfl|exact lO rfl rfl|exact oJ (by first|exact mh0|exact mh1|exact mh2|exact mh3|exact mh4|exact mh5) ua rfl rfl|exact gW (k:=.u64) (k':=.u32) (W:=4294967296) uu uu rfl rfl rfl|exact wR (k:=.u32) (k':=.u64) (W:=18446744073709551616) uu uu rfl rfl rfl (by omega)|exact fW (k:=.u64) (W:=18446744073709551616) rfl rfl rfl rfl (by omega)|exact oI (k:=.u64) (W:=18446744073709551616) rfl rfl rfl rfl (by omega)|exact kI (k:=.u64) (s:=32) (yk:=.u64) rfl rfl rfl (by simp only[ub];omega)|exact xH ua rfl (by with_reducible first|assumption|exact Us.up (by assumption)) (by omega)):OpV P n w0 h0 o e L h v:=f
theorem ovq{P:Program}{n:Nat}{w0:World}{h0 h:Mem}{o:Oper}{e:List (Nat×Value)}{v:Value}(f:∀h' L',OpV P n w0 h0 o e L' h' v:=by intro h' L';first|exact yN rfl rfl|exact lP rfl rfl|exact bJ rfl rfl|exact oK rfl rfl|exact oN rfl rfl|exact lK rfl rfl|exact yA rfl rfl (by omega) (by omega)|exact qX rfl rfl (by omega) (by omega)|exact wQ uu rfl (by with_reducible first|assumption|exact Us.up (by assumption))|exact uW uu rfl (by with_reducible first|assumption|exact Rp.Is.up (by assumption))|exact kP (vs:=[_,_]) rfl rfl|exact kP (vs:=[_,_,_]) rfl rfl|exact rT rfl rfl|exact(xW uu (by simp only[List.getElem?_toArray,List.getElem?_cons_succ,List.getElem?_cons_zero]<;>exact rfl) uz rfl).cv (congrArg (vP _) (by(simp only[Nat.reduceAdd,Nat.reduceMul,Nat.zero_add,Nat.add_zero,Nat.zero_mul])<;>exact rfl))|exact(zX 0 uu uz rfl rfl rfl (by decide)).cv (congrArg (vP _) (by(simp only[Nat.reduceAdd,Nat.reduceMul,Nat.zero_add,Nat.add_zero,Nat.zero_mul])<;>exact rfl))|exact(zX 1 uu uz rfl rfl rfl (by decide)).cv (congrArg (vP _) (by(simp only[Nat.reduceAdd,Nat.reduceMul,Nat.zero_add,Nat.add_zero,Nat.zero_mul])<;>exact rfl))|exact(zX 2 uu uz rfl rfl rfl (by decide)).cv (congrArg (vP _) (by(simp only[Nat.reduceAdd,Nat.reduceMul,Nat.zero_add,Nat.add_zero,Nat.zero_mul])<;>exact rfl))|exact zKI (by first|exact mh0|exact mh1|exact mh2|exact mh3|exact mh4|exact mh5) uu (by exact rfl) us_ rfl rfl|exact rU rfl rfl|exact oH rfl|exact gB rfl rfl|exact fF rfl rfl|exact zCN rfl rfl|exact sZ rfl rfl|exact lO rfl rfl|exact oJ (by first|exact mh0|exact mh1|exact mh2|exact mh3|exact mh4|exact mh5) ua rfl rfl|exact gW (k:=.u64) (k':=.u32) (W:=4294967296) uu uu rfl rfl rfl|exact wR (k:=.u32) (k':=.u64) (W:=18446744073709551616) uu uu rfl rfl rfl (by omega)|exact fW (k:=.u64) (W:=18446744073709551616) rfl rfl rfl rfl (by omega)|exact oI (k:=.u64) (W:=18446744073709551616) rfl rfl rfl rfl (by omega)|exact kI (k:=.u64) (s:=32) (yk:=.u64) rfl rfl rfl (by simp only[ub];omega)|exact xH ua rfl (by with_reducible first|assumption|exact Us.up (by assumption)) (by omega)):∀h' L',OpV P n w0 h0 o e L' h' v:=f
theorem zUD{α:Type}{ρ:Rp α}{h h':Mem}{v:Value}{x:α}(r:ρ.Is h v x)(hh:MLe h h'):ρ.Is h' v x:=r.mono hh
theorem ovm{P:Program}{n:Nat}{w0:World}{h0 h:Mem}{o:Oper}{e:List (Nat×Value)}{R:List Res}{v:Value}(f:∀h' L',MLe h h'→(∀r∈R,r∈L')→OpV P n w0 h0 o e L' h' v:=by intro h' L' hh hR;first|exact yN rfl rfl|exact lP rfl rfl|exact bJ rfl rfl|exact oK rfl rfl|exact oN rfl rfl|exact lK rfl rfl|exact yA rfl rfl (by omega) (by omega)|exact qX rfl rfl (by omega) (by omega)|exact wQ uu rfl (Us.mono (by with_reducible first|assumption|exact Us.up (by assumption)) hh)|exact uW uu rfl (zUD (by with_reducible first|assumption|exact Rp.Is.up (by assumption)) hh)|exact kP (vs:=[_,_]) rfl rfl|exact kP (vs:=[_,_,_]) rfl rfl|exact rT rfl rfl|exact(xW uu (by simp only[List.getElem?_toArray,List.getElem?_cons_succ,List.getElem?_cons_zero]<;>exact rfl) uz rfl).cv (congrArg (vP _) (by(simp only[Nat.reduceAdd,Nat.reduceMul,Nat.zero_add,Nat.add_zero,Nat.zero_mul])<;>exact rfl))|exact(zX 0 uu uz rfl rfl rfl (by decide)).cv (congrArg (vP _) (by(simp only[Nat.reduceAdd,Nat.reduceMul,Nat.zero_add,Nat.add_zero,Nat.zero_mul])<;>exact rfl))|exact(zX 1 uu uz rfl rfl rfl (by decide)).cv (congrArg (vP _) (by(simp only[Nat.reduceAdd,Nat.reduceMul,Nat.zero_add,Nat.add_zero,Nat.zero_mul])<;>exact rfl))|exact(zX 2 uu uz rfl rfl rfl (by decide)).cv (congrArg (vP _) (by(simp only[Nat.reduceAdd,Nat.reduceMul,Nat.zero_add,Nat.add_zero,Nat.zero_mul])<;>exact rfl))|exact zKI (hR _ (by first|exact mh0|exact mh1|exact mh2|exact mh3|exact mh4|exact mh5)) uu (by exact rfl) us_ rfl rfl|exact rU rfl rfl|exact oH rfl|exact gB rfl rfl|exact fF rfl rfl|exact zCN rfl rfl|exact sZ rfl rfl|exact lO rfl rfl|exact oJ (hR _ (by first|exact mh0|exact mh1|exact mh2|exact mh3|exact mh4|exact mh5)) ua rfl rfl|exact gW (k:=.u64) (k':=.u32) (W:=4294967296) uu uu rfl rfl rfl|exact wR (k:=.u32) (k':=.u64) (W:=18446744073709551616) uu uu rfl rfl rfl (by omega)|exact fW (k:=.u64) (W:=18446744073709551616) rfl rfl rfl rfl (by omega)|exact oI (k:=.u64) (W:=18446744073709551616) rfl rfl rfl rfl (by omega)|exact kI (k:=.u64) (s:=32) (yk:=.u64) rfl rfl rfl (by simp only[ub];omega)|exact xH ua rfl (Us.mono (by with_reducible first|assumption|exact Us.up (by assumption)) hh) (by omega)):∀h' L',MLe h h'→(∀r∈R,r∈L')→OpV P n w0 h0 o e L' h' v:=f
theorem isGC{P:Program}{n:Nat}{w0:World}{h0 h:Mem}{Q:Exit→Act→World→Prop}{e:List (Nat×Value)}{L:List Res}{c:Code}(k:GC P n w0 h0 c Q e L h):GC P n w0 h0 c Q e L h:=k
theorem isGQ{n:Nat}{w0:World}{h0 h:Mem}{Q:Exit→Act→World→Prop}{e:List (Nat×Value)}{L:List Res}{x:Exit}(k:GQ n w0 h0 Q x e L h):GQ n w0 h0 Q x e L h:=k
theorem isGL{P:Program}{n:Nat}{w0:World}{h0 h:Mem}{Q:Exit→Act→World→Prop}{e:List (Nat×Value)}{L:List Res}{ops:Array Oper}{l:List Oper}(k:GL P n w0 h0 ops Q l e L h):GL P n w0 h0 ops Q l e L h:=k
theorem isW{P:Program}{n:Nat}{w0:World}{h0 h:Mem}{Q:Exit→Act→World→Prop}{e:List (Nat×Value)}{L:List Res}{R:List Res}{ops:Array Oper}{al:Als}{r:List (Nat×Kd)}(k:W P n w0 h0 ops Q R al r e L h):W P n w0 h0 ops Q R al r e L h:=k
structure Kp(p:Prop):Prop where out:p
theorem isGV{P:Program}{n:Nat}{w0:World}{h0 h:Mem}{Q:Exit→Act→World→Prop}{e:List (Nat×Value)}{L:List Res}{ops:Array Oper}{rest:List Oper}{d:Nat}{op:Op}{ty:TypeId}{ps:String}{af:Array Edge}(k:GL P n w0 h0 ops Q (⟨some d,op,ty,ps,af,none⟩::rest) e L h):GL P n w0 h0 ops Q (⟨some d,op,ty,ps,af,none⟩::rest) e L h:=k
theorem isMV{P:Program}{n:Nat}{w0:World}{h0 h:Mem}{Q:Exit→Act→World→Prop}{e:List (Nat×Value)}{L:List Res}{ops:Array Oper}{rest:List Oper}{d:Nat}{x:Operand}{ty:TypeId}{ps:String}{af:Array Edge}(k:GL P n w0 h0 ops Q (⟨some d,.move x,ty,ps,af,none⟩::rest) e L h):GL P n w0 h0 ops Q (⟨some d,.move x,ty,ps,af,none⟩::rest) e L h:=k
theorem isAS{P:Program}{n:Nat}{w0:World}{h0 h:Mem}{Q:Exit→Act→World→Prop}{e:List (Nat×Value)}{L:List Res}{ops:Array Oper}{rest:List Oper}{d:Nat}{x:Operand}{ty:TypeId}{ps:String}{af:Array Edge}(k:GL P n w0 h0 ops Q (⟨some d,.assign x,ty,ps,af,none⟩::rest) e L h):GL P n w0 h0 ops Q (⟨some d,.assign x,ty,ps,af,none⟩::rest) e L h:=k
theorem st{G G':Prop}(k:G')(f:Kp G'→G:=by intro k;first|((with_reducible refine isGL ?_);first|((with_reducible refine isMV ?_);first|exact mv (v:=vI _) rfl rfl k.out|exact mv rfl rfl k.out)|((with_reducible refine isAS ?_);first|exact asg (v:=vI _) rfl rfl k.out|exact asg rfl rfl k.out)|with_reducible exact zR k.out|((with_reducible refine isGV ?_);refine gv ov rfl ?_;exact k.out)|exact aU rfl rfl rfl rfl rfl rfl k.out|exact iH rfl rfl rfl k.out|exact zVM rfl rfl rfl rfl rfl k.out|exact zR k.out|exact mv (v:=vI _) rfl rfl k.out|exact mv rfl rfl k.out|exact asg (v:=vI _) rfl rfl k.out|exact asg rfl rfl k.out|(refine gv ov rfl ?_;exact k.out))|((with_reducible refine isGC ?_);first|with_reducible exact zM k.out|with_reducible exact zE k.out|with_reducible exact wV k.out|with_reducible exact uK k.out|with_reducible exact kX k.out|with_reducible exact bQ k.out|exact zFD rfl k.out|exact zFE rfl k.out)|((with_reducible refine isGQ ?_);first|with_reducible exact zH k.out|with_reducible exact tU k.out|with_reducible exact uH k.out|with_reducible exact kW k.out|with_reducible exact aJ k.out|with_reducible exact zMY k.out|exact zGQ rfl k.out)|((with_reducible refine isW ?_);first|with_reducible exact rM k.out|exact uY rfl rfl rfl k.out|exact zD0 rfl rfl rfl k.out|exact vC rfl rfl rfl rfl rfl k.out|exact zPH rfl rfl rfl rfl k.out|(refine xK rfl ovq rfl ?_;exact k.out)|(refine w_q rfl ovm rfl ?_;exact k.out)|(refine yO rfl rfl rfl ovm rfl ?_;exact k.out)|exact rM k.out)):G:=f ⟨k⟩
theorem go1{G G':Prop}(k:G')(f:Kp G'→G:=by intro k;refine st ?_;exact k.out):G:=f ⟨k⟩
theorem go2{G G':Prop}(k:G')(f:Kp G'→G:=by intro k;refine st ?_;refine st ?_;exact k.out):G:=f ⟨k⟩
theorem go3{G G':Prop}(k:G')(f:Kp G'→G:=by intro k;refine st ?_;refine st ?_;refine st ?_;exact k.out):G:=f ⟨k⟩
theorem go4{G G':Prop}(k:G')(f:Kp G'→G:=by intro k;refine st ?_;refine st ?_;refine st ?_;refine st ?_;exact k.out):G:=f ⟨k⟩
theorem go5{G G':Prop}(k:G')(f:Kp G'→G:=by intro k;refine st ?_;refine st ?_;refine st ?_;refine st ?_;refine st ?_;exact k.out):G:=f ⟨k⟩
theorem go6{G G':Prop}(k:G')(f:Kp G'→G:=by intro k;refine st ?_;refine st ?_;refine st ?_;refine st ?_;refine st ?_;refine st ?_;exact k.out):G:=f ⟨k⟩
theorem go7{G G':Prop}(k:G')(f:Kp G'→G:=by intro k;refine st ?_;refine st ?_;refine st ?_;refine st ?_;refine st ?_;refine st ?_;refine st ?_;exact k.out):G:=f ⟨k⟩
theorem go8{G G':Prop}(k:G')(f:Kp G'→G:=by intro k;refine st ?_;refine st ?_;refine st ?_;refine st ?_;refine st ?_;refine st ?_;refine st ?_;refine st ?_;exact k.out):G:=f ⟨k⟩
theorem go9{G G':Prop}(k:G')(f:Kp G'→G:=by intro k;refine go8 ?_;refine st ?_;exact k.out):G:=f ⟨k⟩
theorem uQ{G G':Prop}(k:G')(f:Kp G'→G:=by intro k;refine go8 ?_;refine st ?_;refine st ?_;exact k.out):G:=f ⟨k⟩
theorem qT{G G':Prop}(k:G')(f:Kp G'→G:=by intro k;refine go8 ?_;refine st ?_;refine st ?_;refine st ?_;exact k.out):G:=f ⟨k⟩
theorem qO{G G':Prop}(k:G')(f:Kp G'→G:=by intro k;refine go8 ?_;refine st ?_;refine st ?_;refine st ?_;refine st ?_;exact k.out):G:=f ⟨k⟩
theorem sL{G G':Prop}(k:G')(f:Kp G'→G:=by intro k;refine go8 ?_;refine st ?_;refine st ?_;refine st ?_;refine st ?_;refine st ?_;exact k.out):G:=f ⟨k⟩
theorem tV{G G':Prop}(k:G')(f:Kp G'→G:=by intro k;refine go8 ?_;refine st ?_;refine st ?_;refine st ?_;refine st ?_;refine st ?_;refine st ?_;exact k.out):G:=f ⟨k⟩
theorem j3{G G':Prop}(k:G')(f:Kp G'→G:=by intro k;refine go8 ?_;refine st ?_;refine st ?_;refine st ?_;refine st ?_;refine st ?_;refine st ?_;refine st ?_;exact k.out):G:=f ⟨k⟩
theorem zAQ{G G':Prop}(k:G')(f:Kp G'→G:=by intro k;refine go8 ?_;refine go8 ?_;exact k.out):G:=f ⟨k⟩
theorem dE{G G':Prop}(k:G')(f:Kp G'→G:=by intro k;refine go8 ?_;refine go8 ?_;refine st ?_;exact k.out):G:=f ⟨k⟩
theorem zSA{G G':Prop}(k:G')(f:Kp G'→G:=by intro k;refine go8 ?_;refine go8 ?_;refine st ?_;refine st ?_;exact k.out):G:=f ⟨k⟩
theorem yBK{G G':Prop}(k:G')(f:Kp G'→G:=by intro k;refine go8 ?_;refine go8 ?_;refine st ?_;refine st ?_;refine st ?_;exact k.out):G:=f ⟨k⟩
theorem go20{G G':Prop}(k:G')(f:Kp G'→G:=by intro k;refine go8 ?_;refine go8 ?_;refine st ?_;refine st ?_;refine st ?_;refine st ?_;exact k.out):G:=f ⟨k⟩
theorem go22{G G':Prop}(k:G')(f:Kp G'→G:=by intro k;refine go8 ?_;refine go8 ?_;refine st ?_;refine st ?_;refine st ?_;refine st ?_;refine st ?_;refine st ?_;exact k.out):G:=f ⟨k⟩
theorem go23{G G':Prop}(k:G')(f:Kp G'→G:=by intro k;refine go8 ?_;refine go8 ?_;refine st ?_;refine st ?_;refine st ?_;refine st ?_;refine st ?_;refine st ?_;refine st ?_;exact k.out):G:=f ⟨k⟩
theorem go30{G G':Prop}(k:G')(f:Kp G'→G:=by intro k;refine go8 ?_;refine go8 ?_;refine go8 ?_;refine st ?_;refine st ?_;refine st ?_;refine st ?_;refine st ?_;refine st ?_;exact k.out):G:=f ⟨k⟩
theorem gc2{G G1 G2:Prop}{p:Prop}(kt:p→G1)(kf:¬p→G2)(f:(p→Kp G1)→(¬p→Kp G2)→G:=by intro a b;refine st ?_;refine st ?_;exact cnd (fun h=>(a h).out) fun h=>(b h).out):G:=f (fun h=>⟨kt h⟩) fun h=>⟨kf h⟩
theorem gc3{G G1 G2:Prop}{p:Prop}(kt:p→G1)(kf:¬p→G2)(f:(p→Kp G1)→(¬p→Kp G2)→G:=by intro a b;refine st ?_;refine st ?_;refine st ?_;exact cnd (fun h=>(a h).out) fun h=>(b h).out):G:=f (fun h=>⟨kt h⟩) fun h=>⟨kf h⟩
theorem gc4{G G1 G2:Prop}{p:Prop}(kt:p→G1)(kf:¬p→G2)(f:(p→Kp G1)→(¬p→Kp G2)→G:=by intro a b;refine st ?_;refine st ?_;refine st ?_;refine st ?_;exact cnd (fun h=>(a h).out) fun h=>(b h).out):G:=f (fun h=>⟨kt h⟩) fun h=>⟨kf h⟩
theorem gc5{G G1 G2:Prop}{p:Prop}(kt:p→G1)(kf:¬p→G2)(f:(p→Kp G1)→(¬p→Kp G2)→G:=by intro a b;refine st ?_;refine st ?_;refine st ?_;refine st ?_;refine st ?_;exact cnd (fun h=>(a h).out) fun h=>(b h).out):G:=f (fun h=>⟨kt h⟩) fun h=>⟨kf h⟩
theorem gc6{G G1 G2:Prop}{p:Prop}(kt:p→G1)(kf:¬p→G2)(f:(p→Kp G1)→(¬p→Kp G2)→G:=by intro a b;refine st ?_;refine st ?_;refine st ?_;refine st ?_;refine st ?_;refine st ?_;exact cnd (fun h=>(a h).out) fun h=>(b h).out):G:=f (fun h=>⟨kt h⟩) fun h=>⟨kf h⟩
theorem gc7{G G1 G2:Prop}{p:Prop}(kt:p→G1)(kf:¬p→G2)(f:(p→Kp G1)→(¬p→Kp G2)→G:=by intro a b;refine st ?_;refine st ?_;refine st ?_;refine st ?_;refine st ?_;refine st ?_;refine st ?_;exact cnd (fun h=>(a h).out) fun h=>(b h).out):G:=f (fun h=>⟨kt h⟩) fun h=>⟨kf h⟩
theorem gc8{G G1 G2:Prop}{p:Prop}(kt:p→G1)(kf:¬p→G2)(f:(p→Kp G1)→(¬p→Kp G2)→G:=by intro a b;refine st ?_;refine st ?_;refine st ?_;refine st ?_;refine st ?_;refine st ?_;refine st ?_;refine st ?_;exact cnd (fun h=>(a h).out) fun h=>(b h).out):G:=f (fun h=>⟨kt h⟩) fun h=>⟨kf h⟩
theorem gc9{G G1 G2:Prop}{p:Prop}(kt:p→G1)(kf:¬p→G2)(f:(p→Kp G1)→(¬p→Kp G2)→G:=by intro a b;refine st ?_;refine st ?_;refine st ?_;refine st ?_;refine st ?_;refine st ?_;refine st ?_;refine st ?_;refine st ?_;exact cnd (fun h=>(a h).out) fun h=>(b h).out):G:=f (fun h=>⟨kt h⟩) fun h=>⟨kf h⟩
theorem zAS{G G1 G2:Prop}{p:Prop}(kt:p→G1)(kf:¬p→G2)(f:(p→Kp G1)→(¬p→Kp G2)→G:=by intro a b;refine st ?_;refine st ?_;refine st ?_;refine st ?_;refine st ?_;refine st ?_;refine st ?_;refine st ?_;refine st ?_;refine st ?_;exact cnd (fun h=>(a h).out) fun h=>(b h).out):G:=f (fun h=>⟨kt h⟩) fun h=>⟨kf h⟩
theorem zDI{G G1 G2:Prop}{p:Prop}(kt:p→G1)(kf:¬p→G2)(f:(p→Kp G1)→(¬p→Kp G2)→G:=by intro a b;refine st ?_;refine st ?_;refine st ?_;refine st ?_;refine st ?_;refine st ?_;refine st ?_;refine st ?_;refine st ?_;refine st ?_;refine st ?_;exact cnd (fun h=>(a h).out) fun h=>(b h).out):G:=f (fun h=>⟨kt h⟩) fun h=>⟨kf h⟩
theorem zGU{G G1 G2:Prop}{p:Prop}(kt:p→G1)(kf:¬p→G2)(f:(p→Kp G1)→(¬p→Kp G2)→G:=by intro a b;refine st ?_;refine st ?_;refine st ?_;refine st ?_;refine st ?_;refine st ?_;refine st ?_;refine st ?_;refine st ?_;refine st ?_;refine st ?_;refine st ?_;exact cnd (fun h=>(a h).out) fun h=>(b h).out):G:=f (fun h=>⟨kt h⟩) fun h=>⟨kf h⟩
end Go.Proofs.YtboaboflnckgoaaGreat
namespace Go.Proofs.YtboaboflnckgoaaGreat
open Bk Go Tryz
set_option linter.unusedVariables false
set_option linter.unusedSimpArgs false
set_option maxRecDepth 10000
set_option maxHeartbeats 1000000
attribute [local irreducible] GL GC GQ W OpV
theorem uP{w0:World}{h0:Mem}(hs:MLe h0 (mem w0)){v:Value}{xs:List Nat}(hv:Us .u32 h0 v xs):
 Calls Tryz.prog 144 #[v] w0 (Ret w0 h0 (fun h r=>r=gH 1 v 0 (zB (val xs)).length∧Us .u32 h r (zB (val xs)))):=by
 have G:=hv.lt63;refine cb1 21 v func144 hs ?_;refine tV ?_;refine gcL (ι:=Nat) (fun(k:(Nat))=>(k≤xs.length∧∀i,k≤i→xs.getD i 0=0,[(0,v),(3,vI ↑k)],[],h0,k)) xs.length ?_ ?_
 · exact⟨Nat.le_refl _,fun i hi=>by rw[List.getD_eq_getElem?_getD,List.getElem?_eq_none hi];rfl⟩
 rintro k ⟨H,D⟩
 refine yU ?_;refine go5 ?_;refine gU 8 15 (vB (((0:Int)<↑k)∧(xs.getD (k-1) 0=0))) ?_ ?_
 ·
  refine yD ((0:Int)<↑k) (fun C=>?_) (fun C=>?_)
  ·
   refine gT C rfl (go7 ?_);refine gv (zP (k-1) underlying22 sizeOf127 rfl rfl hv oM oM) rfl (go3 ?_);refine gv (gB (k:=.u32) (q:=0) rfl rfl) rfl (go2 ?_);refine gqU ?_;exact congrArg some (xN C)
  refine gF C rfl (go8 ?_);refine gqU ?_;exact congrArg some (xO C)
 refine gc2 (fun u=>?_) fun u=>?_
 ·
  refine go9 ?_;refine gqL (k-1) ?_ ?_ (he:=⟨rfl,?_,trivial⟩)
  ·
   exact⟨by omega,fun i hi=>by
    by_cases e:i=k-1
    · rw[e];exact u.2
    · exact D i oM⟩
  · have:=u.1;omega
  · exact congrArg some (congrArg vI (by have:=u.1;omega))
 refine go9 ?_;refine gv (iS _ underlying22 sizeOf127 rfl rfl hv.shape rfl oM) rfl ?_;have z:=hv.sub (lo:=0) (hi:=_) oM oM;refine go4 ?_;refine zD rfl rfl ?_;have e:(xs.drop 0).take (k-0)=zB (val xs):=zEH hv.lt H D (by
  by_cases h0:k=0
  · exact .inl h0
  · exact .inr fun I=>u ⟨by omega,I⟩)
 rw[e] at z;have J:(zB (val xs)).length=k:=by
  rw[←e,List.length_take,List.length_drop];omega
 refine⟨?_,z⟩;rw[J]
theorem zK4{w0:World}{h0:Mem}(hs:MLe h0 (mem w0)){n:Nat}(hn:n<18446744073709551616):
 Calls Tryz.prog 167 #[vU .u64 n] w0 (Ret w0 h0 (fun h r=>Us .u32 h r (zB n))):=by
 refine cb1 10 (vU .u64 n) func167 hs ?_;refine qO ?_;refine zF (zC3 (kd:=.u32) underlying22 wL rfl rfl rfl rfl) rfl rfl rfl ?_;intro J M z;obtain rfl:=z;refine yI (by intro x C;simp only[List.mem_cons,List.not_mem_nil,or_false] at C;simp only[ub];omega) ?_;intro S G H;refine cL (ev1 rfl) call144 (fun w hs=>uP hs H) fun I O D u=>?_;replace u:=u.2;refine go4 ?_;refine zD rfl rfl ?_;have e:val [n%4294967296,n/2^32%4294967296]=n:=by simp only[val];omega
 rw[e] at u;exact u
theorem eQ{w0:World}{h0:Mem}(hs:MLe h0 (mem w0)){v v':Value}{xs ys:List Nat}(hv:Us .u32 h0 v xs)(hv':Us .u32 h0 v' ys):
 Calls Tryz.prog 98 #[v,v'] w0 (Ret w0 h0 (fun _ r=>r=vI (tD (val xs) (val ys)))):=by
 refine cb2 45 v v' func98 hs ?_;refine go8 ?_;refine cL (ev1 rfl) call144 (fun w hs=>uP hs hv) fun v7 h1 U u=>?_;replace u:=u.2;refine go1 ?_;replace hv':=hv'.mono U;refine cL (ev1 rfl) call144 (fun w hs=>uP hs hv') fun v9 h2 T z=>?_;replace z:=z.2;replace u:=u.mono T;generalize Y:zB (val xs)=AA at *;generalize X:zB (val ys)=BB at *;have O:val AA=val xs:=by rw[←Y,zC]
 have G:val BB=val ys:=by rw[←X,zC]
 have fA:Fit AA:=u.lt;have fB:Fit BB:=z.lt;have lA:=u.lt63;have lB:=z.lt63;refine tV ?_;refine cnd (fun M=>?_) fun M=>?_
 ·
  refine zAS (fun J=>?_) fun J=>?_
  ·
   refine go8 ?_;refine zD rfl rfl ?_;rw[g9 (sD (by rw[Y,X];omega))]
  refine go9 ?_;refine zD rfl rfl ?_;rw[t0 (sD (by rw[Y,X];omega))]
 have Z:AA.length=BB.length:=by omega
 refine qO ?_;refine gcL (ι:=Nat) (fun(j:(Nat))=>(j≤AA.length∧AA.drop j=BB.drop j,[(0,v7),(1,v9),(5,vI (↑j-1))],[],h2,j)) AA.length ?_ ?_
 · exact⟨Nat.le_refl _,by rw[List.drop_of_length_le (Nat.le_refl _),List.drop_of_length_le oM]⟩
 rintro j ⟨hj,H⟩
 refine yU ?_;refine gc7 (fun I=>?_) fun I=>?_
 ·
  refine go5 ?_;refine zK 9 _ [] [(0,.q),(1,.q),(2,.q),(3,.q),(4,.q),(5,.q),(6,.q),(7,.q),(8,.q)] yC nX (by kernel_rfl) nX (fun r S=>S) (go2 ?_);refine w_q rfl (fun h' L' hh hR=>zP (j-1) underlying22 sizeOf127 rfl rfl (u.mono hh) oM oM) rfl (w_q rfl (fun h' L' hh hR=>xH isAgg127 rfl (u.mono hh) oM) rfl (go2 ?_));refine w_q rfl (fun h' L' hh hR=>zP (j-1) underlying22 sizeOf127 rfl rfl (z.mono hh) oM oM) rfl (w_q rfl (fun h' L' hh hR=>xH isAgg127 rfl (z.mono hh) oM) rfl (gc3 (fun D=>?_) fun D=>?_))
  ·
   refine go2 ?_;refine zK 9 _ [] [(0,.q),(1,.q),(2,.q),(3,.q),(4,.q),(5,.q),(6,.q),(7,.q),(8,.q)] yC nX (by kernel_rfl) nX (fun r S=>S) (go2 ?_);refine w_q rfl (fun h' L' hh hR=>zP (j-1) underlying22 sizeOf127 rfl rfl (u.mono hh) oM oM) rfl (w_q rfl (fun h' L' hh hR=>xH isAgg127 rfl (u.mono hh) oM) rfl (go2 ?_));refine w_q rfl (fun h' L' hh hR=>zP (j-1) underlying22 sizeOf127 rfl rfl (z.mono hh) oM oM) rfl (w_q rfl (fun h' L' hh hR=>xH isAgg127 rfl (z.mono hh) oM) rfl (gc3 (fun C=>?_) fun C=>?_))
   ·
    refine qO ?_;refine zD rfl rfl ?_;rw[←O,←G,g9 (zBO fA Z oM hj H C)]
   refine sL ?_;refine zD rfl rfl ?_;rw[←O,←G,t0 (zBO fB Z.symm oM oM H.symm oM)]
  refine go8 ?_;refine gqL (j-1) ?_ ?_ (he:=⟨rfl,rfl,?_,trivial⟩)
  ·
   refine⟨by omega,?_⟩;rw[gZ AA (j-1) oM,gZ BB (j-1) oM];have e:j-1+1=j:=by omega
   rw[e,H,Classical.not_not.1 D]
  · omega
  · exact congrArg some (congrArg vI oM)
 refine qT ?_;refine zD rfl rfl ?_;have h0:j=0:=by omega
 subst h0;simp only[List.drop_zero] at H;rw[←O,←G,H,zM8]
theorem pE{w0:World}{h0:Mem}(hs:MLe h0 (mem w0)){v:Value}{xs:List Nat}(hv:Us .u32 h0 v xs)(hl:xs.length≤1099511627776):
 Calls Tryz.prog 103 #[v] w0 (sQ w0 h0 (fun _ r L=>L=[.us 127 .u32 r xs])):=by
 refine cb1 8 v func103 hs ?_;refine go9 ?_;refine gv (zKK underlying22 rfl (let ⟨a,c,hv⟩:=hv.one;⟨a,_,c,hv⟩)) rfl (gc2 (fun u=>?_) fun u=>?_)
 ·
  refine go3 ?_;refine zAR (E:=127) (k:=.u32) (go4 ?_);refine jV rfl rfl ?_;obtain⟨m,G,rfl⟩:=u;have D:xs=[]:=hv.nil_of;subst D
  rfl
 refine go4 ?_;refine zF (zC4 (kd:=.u32) underlying22 wL rfl rfl) rfl rfl rfl ?_;intro I M C;obtain rfl:=C;refine go1 ?_;refine xT (A:=[]) (jG (kd:=.u32) (bytes:=4) underlying22 wL rfl rfl rfl rfl rfl hv (by simp only[lN];omega) (by simp only[lN];omega)) rfl rfl rfl ?_;intro H J z;obtain rfl:=z;refine go4 ?_;refine jV rfl rfl ?_
 rfl
theorem aF{w0:World}{h0:Mem}(hs:MLe h0 (mem w0)){v v':Value}{xs ys:List Nat}(hv:Us .u32 h0 v xs)(hv':Us .u32 h0 v' ys)(hl:xs.length≤1099511627776)(hl':ys.length≤1099511627776):
 Calls Tryz.prog 100 #[v,v'] w0 (Ret w0 h0 (fun h r=>Us .u32 h r (zB (val xs+val ys)))):=by
 refine cb2 58 v v' func100 hs ?_;refine go5 ?_;refine qI (ι:=Value×List Nat×Value×List Nat) (fun(G,z,I,C)=>Us .u32 h0 G z∧Us .u32 h0 I C∧C.length≤z.length∧val z+val C=val xs+val ys∧z.length≤1099511627776) (fun(G,z,I,C)=>[(0,G),(1,I)]) (fun(G,z,I,C)=>[]) (fun(G,z,I,C)=>h0) ?_ ?_
 ·
  refine go5 ?_;refine gv (wQ underlying22 rfl hv') rfl (gc3 (fun X=>?_) fun X=>?_)
  ·
   refine go6 ?_;refine zO (v',ys,v,xs) ?_ e2z rfl rfl;exact⟨hv',hv,by omega,by omega,hl'⟩
  refine go1 ?_;refine zO (v,xs,v',ys) ?_ e2z rfl rfl;exact⟨hv,hv',by omega,rfl,hl⟩
 rintro⟨G,z,I,C⟩ ⟨ha,hb,ah,O,ai⟩
 refine yU ?_;refine go5 ?_;refine qH (kd:=.u32) (by':=4) (z.length+1) underlying22 wL rfl rfl rfl rfl rfl oM oM oM oM rfl ?_;intro H;refine go5 ?_;refine asg (v:=vU .u64 0) rfl rfl (qT ?_);refine jP (ι:=List Nat×Nat) (fun(u,c)=>u.length≤z.length∧Fit u∧c≤1∧val u+4294967296^u.length*c=val (z.take u.length)+val (C.take u.length)) (fun(u,c)=>[(0,G),(1,I),(5,H),(6,vU .u64 c),(20,G),(21,vI ↑z.length),(22,vI ↑u.length)]) (fun(u,c)=>[.us 127 .u32 H (fM u (z.length+1))]) (fun(u,c)=>h0) (fun(u,c)=>z.length-u.length) ([],0) ?_ e7 rfl rfl ?_
 · exact⟨by simp,fun x hx=>by simp at hx,by omega,by simp[val]⟩
 rintro⟨u,c⟩ ⟨ae,S,am,M⟩
 refine yU ?_;refine gc6 (fun U=>?_) fun U=>?_
 ·
  refine go7 ?_;refine gv (zP _ underlying22 sizeOf127 rfl rfl ha rfl oM) rfl (go1 ?_);have ad:=ha.get32 u.length;have ac:=hb.get32 u.length;refine sL ?_;refine qI (ι:=Unit) (fun(Y:(Unit))=>True) (fun(Y:(Unit))=>[(0,G),(1,I),(5,H),(6,vU .u64 (c+z.getD u.length 0+C.getD u.length 0)),(7,vI ↑u.length),(20,G),(21,vI ↑z.length),(22,vI ↑u.length)]) (fun(Y:(Unit))=>[.us 127 .u32 H (fM u (z.length+1))]) (fun(Y:(Unit))=>h0) ?_ ?_
  ·
   refine gc8 (fun T=>?_) fun T=>?_
   ·
    refine go4 ?_;refine gv (zP _ underlying22 sizeOf127 rfl rfl hb rfl oM) rfl (go5 ?_);refine zO (()) ?_ e8 rfl rfl
    trivial
   refine go1 ?_;refine zO (()) ?_ ⟨rfl,rfl,rfl,?_,rfl,rfl,rfl,rfl,trivial⟩ rfl rfl
   · trivial
   · exact congrArg some (congrArg (vU .u64) (by rw[tB (xs:=C) oM];omega))
  rintro Y aa
  refine yU ?_;refine go6 ?_;refine gv (yR (A:=[]) _ underlying22 sizeOf127 rfl rfl rfl (by rw[vM oM];omega)) rfl (wA sizeOf127 rfl rfl (by rw[vM oM];omega) (sL ?_));refine qN (u++[(c+z.getD u.length 0+C.getD u.length 0)%4294967296],(c+z.getD u.length 0+C.getD u.length 0)/2^32) ?_ ?_ ⟨rfl,rfl,rfl,rfl,rfl,rfl,?_,trivial⟩ ?_ rfl
  ·
   have Z:u.length<z.length:=by omega
   refine⟨by simp;omega,wZ S (cR oM),by omega,?_⟩;rw[lAz,List.length_singleton,uC z _ Z,vK C,tP,Nat.pow_succ];have e:=Nat.div_add_mod (c+z.getD u.length 0+C.getD u.length 0) 4294967296;have e2:(2:Nat)^32=4294967296:=rfl;rw[e2];generalize (c+z.getD u.length 0+C.getD u.length 0)/4294967296=q at *;generalize (c+z.getD u.length 0+C.getD u.length 0)%4294967296=r at *;grind
  ·
   dsimp only;simp;omega
  · exact congrArg some (congrArg vI (by simp))
  try dsimp only[List.nil_append,List.cons_append]
  rw[sM oM]
 refine qO ?_;refine gv (yR (A:=[]) (z.length) underlying22 sizeOf127 rfl rfl (by rfl) (by rw[vM oM];omega)) rfl (wA sizeOf127 rfl rfl (by rw[vM oM];omega) (go5 ?_));have hk:u.length=z.length:=by omega
 have J:(fM u (z.length+1)).set z.length (c%4294967296)=u++[c%4294967296]:=by
  rw[←hk,sM oM,pS (by simp)]
 refine yI (by rw[J];exact wZ S (cR oM)) ?_;intro h1 ak ho;refine cL (ev1 rfl) call144 (fun w hs=>uP hs ho) fun ab h2 aj D=>?_;replace D:=D.2;refine go4 ?_;refine zD rfl rfl ?_;have e:val (u++[c%4294967296])=val xs+val ys:=by
  rw[tP,Nat.mod_eq_of_lt oM,M,xL oM,xL oM];exact O
 rw[J,e] at D;exact D
theorem zBW{w0:World}{h0:Mem}(hs:MLe h0 (mem w0)){v v':Value}{xs ys:List Nat}(hv:Us .u32 h0 v xs)(hv':Us .u32 h0 v' ys)(hl:xs.length≤1099511627776):
 Calls Tryz.prog 162 #[v,v'] w0 (Ret w0 h0 (fun h r=>∃u,r=.tuple #[u,vI (if val xs<val ys then 7 else 0)]∧Us .u32 h u (zB (val xs-val ys)))):=by
 refine cb2 54 v v' func162 hs ?_;refine qT ?_;refine cL (ev2 rfl rfl) call98 (fun w hs=>eQ hs hv hv') fun ai h1 T S=>?_;subst S;refine gc3 (fun G=>?_) fun G=>?_
 ·
  have I:=gG.1 G;refine go8 ?_;refine vS rfl rfl rfl ?_;rw[if_pos I,Nat.sub_eq_zero_of_le (Nat.le_of_lt I),yS];exact⟨_,rfl,Us.nil _ _⟩
 have ad:val ys≤val xs:=Nat.le_of_not_lt fun hc=>G (gG.2 hc);refine go5 ?_;replace hv':=hv'.mono T;refine cL (ev1 rfl) call144 (fun w hs=>uP hs hv') fun M h2 ac D=>?_;replace D:=D.2;replace hv:=hv.mono (T.trans ac);refine go7 ?_;refine qH (kd:=.u32) (by':=4) _ underlying22 wL rfl rfl rfl rfl rfl rfl rfl oM oM rfl ?_;intro H;refine go5 ?_;refine asg (v:=vU .u64 0) rfl rfl (qT ?_);refine jP (ι:=List Nat×Nat) (fun(z,c)=>z.length≤xs.length∧Fit z∧c≤1∧val z+val ((zB (val ys)).take z.length)=val (xs.take z.length)+4294967296^z.length*c) (fun(z,c)=>[(1,M),(6,H),(7,vU .u64 c),(21,v),(22,vI ↑xs.length),(23,vI ↑z.length)]) (fun(z,c)=>[.us 127 .u32 H (fM z xs.length)]) (fun(z,c)=>h2) (fun(z,c)=>xs.length-z.length) ([],0) ?_ e6z rfl rfl ?_
 · exact⟨by simp,fun x hx=>by simp at hx,by omega,by simp[val]⟩
 rintro⟨z,c⟩ ⟨am,J,ap,O⟩
 refine yU ?_;refine gc6 (fun Z=>?_) fun Z=>?_
 ·
  refine go7 ?_;refine gv (zP _ underlying22 sizeOf127 rfl rfl hv rfl oM) rfl (go1 ?_);have ak:=hv.get32 z.length;have aj:=D.get32 z.length;refine uQ ?_;refine qI (ι:=Unit) (fun(_u:(Unit))=>True) (fun(_u:(Unit))=>[(1,M),(6,H),(8,vI ↑z.length),(9,vU .u32 (xs.getD z.length 0)),(10,vU .u64 (c+(zB (val ys)).getD z.length 0)),(21,v),(22,vI ↑xs.length),(23,vI ↑z.length)]) (fun(_u:(Unit))=>[.us 127 .u32 H (fM z xs.length)]) (fun(_u:(Unit))=>h2) ?_ ?_
  ·
   refine gc8 (fun U=>?_) fun U=>?_
   ·
    refine go4 ?_;refine gv (zP _ underlying22 sizeOf127 rfl rfl D rfl oM) rfl (go5 ?_);refine zO (()) ?_ e8 rfl rfl
    trivial
   refine go1 ?_;refine zO (()) ?_ ⟨rfl,rfl,rfl,rfl,?_,rfl,rfl,rfl,trivial⟩ rfl rfl
   · trivial
   · exact congrArg some (congrArg (vU .u64) (by rw[tB (xs:=zB (val ys)) oM];omega))
  rintro _u ae
  refine yU ?_;refine go5 ?_;refine gv (lI (k:=.u64) (W:=18446744073709551616) rfl rfl rfl rfl oM) rfl (go9 ?_);refine gv (yR (A:=[]) _ underlying22 sizeOf127 rfl rfl rfl (by rw[vM oM];omega)) rfl (wA sizeOf127 rfl rfl (by rw[vM oM];omega) (go4 ?_));refine gv (kI (k:=.u64) (s:=63) (yk:=.u64) rfl rfl rfl (by simp only[ub];omega)) rfl (go8 ?_);generalize hX:xs.getD z.length 0=X at *;generalize hY:(zB (val ys)).getD z.length 0=Y at *;refine qN (z++[(X+18446744073709551616-(c+Y))%18446744073709551616%4294967296],(X+18446744073709551616-(c+Y))%18446744073709551616/2^63) ?_ ?_ ⟨rfl,rfl,rfl,rfl,rfl,?_,trivial⟩ ?_ rfl
  ·
   have I:z.length<xs.length:=by omega
   refine⟨by simp;omega,wZ J (cR oM),by omega,?_⟩;rw[lAz,List.length_singleton,uC xs _ I,vK (zB (val ys)),tP,Nat.pow_succ,hX,hY];have e:(X+18446744073709551616-(c+Y))%18446744073709551616%4294967296+c+Y=X+4294967296*((X+18446744073709551616-(c+Y))%18446744073709551616/2^63):=by omega
   generalize (X+18446744073709551616-(c+Y))%18446744073709551616/2^63=q at *;generalize (X+18446744073709551616-(c+Y))%18446744073709551616%4294967296=r at *;grind
  ·
   dsimp only;simp;omega
  · exact congrArg some (congrArg vI (by simp))
  try dsimp only[List.nil_append,List.cons_append]
  rw[sM oM]
 refine go8 ?_;have hk:z.length=xs.length:=by omega
 rw[pS hk];refine yI (by exact J) ?_;intro h3 ab ho;refine cL (ev1 rfl) call144 (fun w hs=>uP hs ho) fun ah h4 aa C=>?_;replace C:=C.2;refine go5 ?_;refine vS rfl rfl rfl ?_;replace hv:=hv.mono (ab.trans aa);rw[if_neg oM];refine⟨_,rfl,?_⟩;have e:val z=val xs-val ys:=by
  have ao:(zB (val ys)).length≤xs.length:=Nat.le_trans (zN ad) (wS hv.lt);rw[xL oM,zC,xL oM] at O;have h1:=jZ J;have h2:c=0:=Classical.byContradiction fun an=>by
   have:c=1:=by omega
   subst this;omega
  subst h2;omega
 rw[e] at C;exact C
theorem fN{w0:World}{h0:Mem}(hs:MLe h0 (mem w0)){v v':Value}{xs ys:List Nat}(hv:Us .u32 h0 v xs)(hv':Us .u32 h0 v' ys)(hl:xs.length≤1099511627776)(hl':ys.length≤1099511627776):
 Calls Tryz.prog 99 #[v,v'] w0 (Ret w0 h0 (fun h r=>Us .u32 h r (zB (val xs*val ys)))):=by
 have an:Fit xs:=hv.lt;have am:Fit ys:=hv'.lt;refine cb2 69 v v' func99 hs ?_;refine uQ ?_;refine gv (wQ underlying22 rfl hv') rfl (go1 ?_);refine qH (kd:=.u32) (by':=4) (xs.length+ys.length) underlying22 wL rfl rfl rfl rfl rfl oM oM oM oM rfl ?_;intro D;refine qO ?_;refine gcL (ι:=Nat×List Nat) (fun(k,G)=>(k≤xs.length∧G.length=xs.length+ys.length∧Fit G∧val G=val (xs.take k)*val ys∧∀i,k+ys.length≤i→G.getD i 0=0,[(1,v'),(5,D),(17,v),(18,vI ↑xs.length),(19,vI ↑k)],[.us 127 .u32 D G],h0,xs.length-k)) (0,List.replicate (xs.length+ys.length) 0) ?_ ?_
 · exact⟨Nat.zero_le _,by simp,qB _,by rw[fI];simp[val],fun i _=>oY _ _⟩
 rintro⟨k,G⟩ ⟨hk,U,M,H,hz⟩
 refine yU ?_;refine gc6 (fun Y=>?_) fun Y=>?_
 ·
  refine go7 ?_;refine gv (zP _ underlying22 sizeOf127 rfl rfl hv rfl oM) rfl (go1 ?_);have ai:=hv.get32 k;refine go8 ?_;refine gv (gB (k:=.u32) (q:=0) rfl rfl) rfl (gc2 (fun C=>?_) fun C=>?_)
  ·
   have O:xs.getD k 0=0:=C;refine go8 ?_;refine gqL (k+1,G) ?_ ?_
   · exact⟨by omega,U,M,by rw[H,uC xs k oM,O];simp,fun i hi=>hz i oM⟩
   omega
  have O:xs.getD k 0≠0:=C;refine go4 ?_;refine asg (v:=vU .u64 0) rfl rfl (go6 ?_);refine gv (wQ underlying22 rfl hv') rfl (go4 ?_);refine gcL (ι:=Nat×List Nat×Nat) (fun(j,u,c)=>(j≤ys.length∧u.length=xs.length+ys.length∧Fit u∧c<4294967296∧val u+4294967296^(k+j)*c=val G+4294967296^k*(xs.getD k 0*val (ys.take j))∧∀i,k+ys.length≤i→u.getD i 0=0,[(1,v'),(5,D),(6,vI ↑k),(7,vU .u32 (xs.getD k 0)),(8,vU .u64 c),(17,v),(18,vI ↑xs.length),(19,vI ↑k),(26,v'),(27,vI ↑ys.length),(28,vI ↑j)],[.us 127 .u32 D u],h0,ys.length-j)) (0,G,0) ?_ ?_
  · exact⟨Nat.zero_le _,U,M,by omega,by simp[val],hz⟩
  rintro⟨j,u,c⟩ ⟨hj,T,J,ab,S,I⟩
  refine yU ?_;refine gc6 (fun X=>?_) fun X=>?_
  ·
   refine go7 ?_;refine gv (zP _ underlying22 sizeOf127 rfl rfl hv' rfl oM) rfl (gv (xH isAgg127 rfl hv' oM) rfl ?_);have ah:=hv'.get32 j;have ae:=uV J (k+j);have ad:xs.getD k 0*ys.getD j 0≤4294967295*4294967295:=Nat.mul_le_mul oM oM;refine zAQ ?_;refine gv (yR (A:=[]) (k+j) underlying22 sizeOf127 rfl rfl oM oM) rfl (gv (kL (A:=[]) isAgg127 rfl oM) rfl (tV ?_));refine gv (yR (A:=[]) (k+j) underlying22 sizeOf127 rfl rfl oM oM) rfl (wA sizeOf127 rfl rfl oM (sL ?_));refine gqL (j+1,u.set (k+j) ((c+(xs.getD k 0*ys.getD j 0+u.getD (k+j) 0))%4294967296),(c+(xs.getD k 0*ys.getD j 0+u.getD (k+j) 0))/2^32) ?_ ?_
   ·
    refine⟨by omega,by simp[T],aK J _ oM,by omega,?_,fun i hi=>?_⟩
    · have Z:=aC (xs:=u) (i:=k+j) oM ((c+(xs.getD k 0*ys.getD j 0+u.getD (k+j) 0))%4294967296)
      have e:=Nat.div_add_mod (c+(xs.getD k 0*ys.getD j 0+u.getD (k+j) 0)) 4294967296;have e2:(2:Nat)^32=4294967296:=rfl;rw[uC ys j oM,e2];have ep:(4294967296:Nat)^(k+(j+1))=4294967296^k*4294967296^j*4294967296:=by rw[←Nat.add_assoc,Nat.pow_succ,Nat.pow_add]
      rw[ep];rw[Nat.pow_add] at Z S;generalize (c+(xs.getD k 0*ys.getD j 0+u.getD (k+j) 0))/4294967296=q at *;generalize (c+(xs.getD k 0*ys.getD j 0+u.getD (k+j) 0))%4294967296=r at *;grind
    · rw[qA oM];exact I i hi
   omega
  refine go9 ?_;refine gv (wQ underlying22 rfl hv') rfl (go3 ?_);refine gv (yR (A:=[]) (k+ys.length) underlying22 sizeOf127 rfl rfl oM oM) rfl (wA sizeOf127 rfl rfl oM (go7 ?_));refine gqL (k+1,u.set (k+ys.length) (c%4294967296)) ?_ ?_
  ·
   have hj:j=ys.length:=by omega
   subst hj;refine⟨by omega,by simp[T],aK J _ oM,?_,fun i hi=>?_⟩
   · have Z:=aC (xs:=u) (i:=k+ys.length) oM (c%4294967296)
     rw[I _ (Nat.le_refl _)] at Z;rw[xL (Nat.le_refl _)] at S;rw[Nat.mod_eq_of_lt ab] at Z ⊢;rw[uC xs k oM];grind
   · rw[qA oM];exact I i oM
  omega
 refine go8 ?_;refine yI (by exact M) ?_;intro Z ak ho;refine cL (ev1 rfl) call144 (fun w hs=>uP hs ho) fun ac h2 aj z=>?_;replace z:=z.2;refine go4 ?_;refine zD rfl rfl ?_;have aa:k=xs.length:=by omega
 rw[H,aa,xL (Nat.le_refl _)] at z;exact z
end Go.Proofs.YtboaboflnckgoaaGreat
namespace Go.Proofs.YtboaboflnckgoaaGreat
open Bk Go Tryz
set_option linter.unusedVariables false
set_option linter.unusedSimpArgs false
set_option maxRecDepth 10000
set_option maxHeartbeats 1000000
attribute [local irreducible] GL GC GQ W OpV
set_option maxRecDepth 100000 in
theorem zDS{w0:World}{h0:Mem}(hs:MLe h0 (mem w0)){x:Nat}(hx:x<4294967296):
 Calls Tryz.prog 145 #[vU .u32 x] w0 (Ret w0 h0 (fun _ r=>r=vI ↑(xZ x))):=by
 refine cb1 19 (vU .u32 x) func145 hs ?_;refine go5 ?_;refine qI (ι:=Nat×Nat) (fun(z,C)=>z<65536∧C≤16∧xZ x=xZ z+C) (fun(z,C)=>[(0,vU .u32 z),(2,vI ↑C)]) (fun(z,C)=>[]) (fun(z,C)=>h0) ?_ ?_
 ·
  refine go3 ?_;refine gv (sZ (k:=.u32) (q:=65536) rfl rfl) rfl (gc2 (fun H=>?_) fun H=>?_)
  ·
   refine go3 ?_;refine gv (kI (k:=.u32) (s:=16) (yk:=.u64) rfl rfl rfl (by simp only[ub];omega)) rfl (go6 ?_);refine zO (x/2^16,16) ?_ e2z rfl rfl;exact⟨by omega,by omega,zAZ H⟩
  refine go1 ?_;refine zO (x,0) ?_ e2z rfl rfl;exact⟨by omega,by omega,rfl⟩
 rintro⟨z,C⟩ ⟨M,S,I⟩
 refine yU ?_;refine qI (ι:=Nat×Nat) (fun(u,D)=>u<256∧D≤24∧xZ x=xZ u+D) (fun(u,D)=>[(0,vU .u32 u),(2,vI ↑D)]) (fun(u,D)=>[]) (fun(u,D)=>h0) ?_ ?_
 ·
  refine go3 ?_;refine gv (sZ (k:=.u32) (q:=256) rfl rfl) rfl (gc2 (fun G=>?_) fun G=>?_)
  ·
   refine go3 ?_;refine gv (kI (k:=.u32) (s:=8) (yk:=.u64) rfl rfl rfl (by simp only[ub];omega)) rfl (go8 ?_);refine zO (z/2^8,C+8) ?_ ⟨rfl,?_,trivial⟩ rfl rfl
   · exact⟨by omega,by omega,by rw[I,zAZ (k:=8) G];omega⟩
   · exact congrArg some (congrArg vI oM)
  refine go1 ?_;refine zO (z,C) ?_ e2z rfl rfl;exact⟨by omega,by omega,I⟩
 rintro⟨u,D⟩ ⟨J,O,U⟩
 refine yU ?_;refine go4 ?_;refine gv (gW (k:=.u32) (k':=.u8) (W:=256) underlying127 underlying5 rfl rfl rfl) rfl ?_;have T:xZ u≤8:=bW (k:=8) oM;refine mD (zF6 (fun i=>xZ i) (u%256) underlying9 rfl rfl rfl (by decide +kernel) (by show u%256<256;omega)) rfl rfl rfl ?_;rw[Nat.mod_eq_of_lt J];refine gv (zKL (k:=.u8) underlying5 underlying3 rfl oM) rfl (go5 ?_);refine zD rfl rfl ?_;exact congrArg vI oM
theorem zO8{w0:World}{h0:Mem}(hs:MLe h0 (mem w0)){x:Nat}(hx:x<4294967296):
 Calls Tryz.prog 183 #[vU .u32 x] w0 (Ret w0 h0 (fun _ r=>r=vI ↑(32-xZ x))):=by
 refine cb1 6 (vU .u32 x) func183 hs ?_;refine go8 ?_;refine cL (ev1 rfl) call145 (fun w hs=>zDS hs oM) fun v4 D z u=>?_;subst u;have C:xZ x≤32:=bW (k:=32) oM;refine gv (qX (p:=32) rfl rfl oM oM) rfl (go4 ?_);refine zD rfl rfl ?_;exact congrArg vI oM
theorem pP{w0:World}{h0:Mem}(hs:MLe h0 (mem w0)){v:Value}{xs:List Nat}(hv:Us .u32 h0 v xs)(hl:xs.length≤1099511627776):
 Calls Tryz.prog 94 #[v] w0 (Ret w0 h0 (fun _ r=>r=vI ↑(xZ (val xs)))):=by
 refine cb1 20 v func94 hs ?_;refine go8 ?_;refine cL (ev1 rfl) call144 (fun w hs=>uP hs hv) fun v4 Y D u=>?_;replace u:=u.2;replace hv:=hv.mono D;have S:=wS hv.lt;generalize H:zB (val xs)=AA at *;have I:val AA=val xs:=by rw[←H,zC]
 have J:Fit AA:=u.lt;refine zDI (fun G=>?_) fun G=>?_
 ·
  refine go7 ?_;refine zD rfl rfl ?_;have h0:AA=[]:=List.eq_nil_of_length_eq_zero oM;rw[←I,h0];rfl
 refine go6 ?_;have C:0<AA.length:=by omega
 refine go1 ?_;refine gv (bH (p:=32) rfl rfl oM oM) rfl (go4 ?_);refine gv (zP (AA.length-1) underlying22 sizeOf127 rfl rfl u oM oM) rfl (go1 ?_);have O:=uV J (AA.length-1);have U:=bW (n:=AA.getD (AA.length-1) 0) (k:=32) oM;refine cL (ev1 rfl) call145 (fun w hs=>zDS hs oM) fun M X T z=>?_;subst z;refine go5 ?_;refine zD rfl rfl ?_;rw[←I,zAY J (k:=AA.length-1) oM (by rw[←H];exact tL (by rw[H];exact C))];exact congrArg vI oM
theorem zII{w0:World}{h0:Mem}(hs:MLe h0 (mem w0)){v:Value}{xs:List Nat}(hv:Us .u32 h0 v xs)(hl:xs.length≤2):
 Calls Tryz.prog 192 #[v] w0 (Ret w0 h0 (fun _ r=>r=vU .u64 (val xs))):=by
 have D:Fit xs:=hv.lt;refine cb1 21 v func192 hs ?_;refine go2 ?_;refine asg (v:=vU .u64 0) rfl rfl (go4 ?_);refine asg (v:=vU .u64 0) rfl rfl (qO ?_);have z:val (xs.drop xs.length)=0:=by rw[List.drop_of_length_le (Nat.le_refl _)];rfl
 refine jP (ι:=Nat) (fun(j:(Nat))=>j≤xs.length) (fun(j:(Nat))=>[(0,v),(3,vU .u64 (val (xs.drop j))),(4,vI (↑j-1))]) (fun(j:(Nat))=>[]) (fun(j:(Nat))=>h0) (fun(j:(Nat))=>j) xs.length ?_ ⟨?_,?_,?_,trivial⟩ rfl rfl ?_
 · exact Nat.le_refl _
 · exact rfl
 · exact congrArg some (congrArg (vU .u64) z.symm)
 · exact rfl
 rintro j H
 refine yU ?_;refine gc7 (fun C=>?_) fun C=>?_
 ·
  refine go6 ?_;refine gv (kJ (k:=.u64) (s:=32) (yk:=.u64) (W:=18446744073709551616) rfl rfl rfl rfl) rfl (go2 ?_);refine gv (zP (j-1) underlying22 sizeOf127 rfl rfl hv oM oM) rfl (go1 ?_);have u:=hv.get32 (j-1);refine go1 ?_;refine gv (tF (k:=.u64) rfl rfl rfl (by simp only[ub];omega) (by simp only[ub];omega)) rfl ?_;rw[rA (by
   have G:=jZ (nE D j);rw[List.length_drop] at G;have I:(4294967296:Nat)^(xs.length-j)≤4294967296^1:=Nat.pow_le_pow_right oM oM;omega) u]
  refine go9 ?_;refine qN (j-1) ?_ ?_ ⟨rfl,?_,?_,trivial⟩ rfl rfl
  · omega
  · omega
  ·
   rw[jI xs (j-1) oM];exact congrArg some (congrArg (vU .u64) (by rw[show j-1+1=j by omega];omega))
  · exact congrArg some (congrArg vI oM)
 refine qO ?_;refine zD rfl rfl ?_;rw[show j=0 by omega];rfl
theorem zOL{w0:World}{h0:Mem}(hs:MLe h0 (mem w0)){v:Value}{xs:List Nat}{b:Nat}(hv:Us .u32 h0 v xs)(hb:0<b)(hb':b<4294967296)(hl:xs.length≤1099511627776):
 Calls Tryz.prog 182 #[v,vU .u32 b] w0 (Ret w0 h0 (fun h r=>∃u,r=.tuple #[u,vU .u32 (val xs%b)]∧Us .u32 h u (zB (val xs/b)))):=by
 have hf:Fit xs:=hv.lt;refine cb2 43 v (vU .u32 b) func182 hs ?_;refine go3 ?_;refine asg (v:=vU .u32 0) rfl rfl (go6 ?_);refine qH (kd:=.u32) (by':=4) _ underlying22 wL rfl rfl rfl rfl rfl rfl rfl oM oM rfl ?_;intro H;refine go5 ?_;refine asg (v:=vU .u64 0) rfl rfl (qO ?_);refine jP (ι:=Nat×List Nat×Nat) (fun(j,D,r)=>j≤xs.length∧D.length=xs.length-j∧Fit D∧r<b∧val (xs.drop j)=b*val D+r) (fun(j,D,r)=>[(0,v),(1,vU .u32 b),(6,H),(7,vU .u64 r),(8,vI (↑j-1))]) (fun(j,D,r)=>[.us 127 .u32 H (kS j D)]) (fun(j,D,r)=>h0) (fun(j,D,r)=>j) (xs.length,[],0) ?_ e5 ?_ rfl ?_
 · exact⟨Nat.le_refl _,by simp,fun x X=>by simp at X,hb,by rw[List.drop_of_length_le (Nat.le_refl _)];rfl⟩
 ·
  try dsimp only[List.nil_append,List.cons_append]
  exact congrArg (fun z=>[Res.us 127 .u32 H z]) (bT _)
 rintro⟨j,D,r⟩ ⟨hj,Y,I,O,C⟩
 refine yU ?_;refine gc7 (fun J=>?_) fun J=>?_
 ·
  refine go7 ?_;refine gv (kJ (k:=.u64) (s:=32) (yk:=.u64) (W:=18446744073709551616) rfl rfl rfl rfl) rfl (go2 ?_);refine gv (zP (j-1) underlying22 sizeOf127 rfl rfl hv oM oM) rfl (go1 ?_);have M:=hv.get32 (j-1);refine go1 ?_;refine gv (tF (k:=.u64) rfl rfl rfl (by simp only[ub];omega) (by simp only[ub];omega)) rfl ?_;rw[rA oM M];generalize T:r*4294967296+xs.getD (j-1) 0=t at *;have Z:t/b<4294967296:=Nat.div_lt_of_lt_mul (by rw[←T];have h1:(r+1)*4294967296≤b*4294967296:=Nat.mul_le_mul_right _ O;omega);refine uQ ?_;refine gv (pL (k:=.u64) (W:=18446744073709551616) rfl rfl rfl rfl oM oM) rfl (gv (wR (k:=.u64) (k':=.u32) (W:=4294967296) underlying130 underlying127 rfl rfl rfl oM) rfl (gv (yR (A:=[]) (j-1) underlying22 sizeOf127 rfl rfl oM (by rw[qQ];omega)) rfl (wA sizeOf127 rfl rfl (by rw[qQ];omega) (go6 ?_))));refine gv (pK (k:=.u64) rfl rfl oM) rfl (go9 ?_);refine qN (j-1,t/b::D,t%b) ?_ ?_ ⟨rfl,rfl,rfl,rfl,?_,trivial⟩ ?_ rfl
  ·
   refine⟨by omega,by simp only[lC];omega,tY.2 ⟨Z,I⟩,Nat.mod_lt _ hb,?_⟩;rw[jI xs (j-1) oM,show j-1+1=j by omega,val];exact zCA C T.symm rfl rfl
  ·
   dsimp only;omega
  · exact congrArg some (congrArg vI oM)
  try dsimp only[List.nil_append,List.cons_append]
  rw[bS oM]
 refine go8 ?_;have S:j=0:=by omega
 subst S;rw[pT];refine yI (by exact I) ?_;intro h1 ab ho;refine cL (ev1 rfl) call144 (fun w hs=>uP hs ho) fun U h2 aa G=>?_;replace G:=G.2;refine go1 ?_;refine gv (wR (k:=.u64) (k':=.u32) (W:=4294967296) underlying130 underlying127 rfl rfl rfl oM) rfl (go5 ?_);refine vS rfl rfl rfl ?_;simp only[List.drop_zero] at C;have e1:val xs/b=val D:=by rw[C,Nat.mul_add_div hb,Nat.div_eq_of_lt O];omega
 have e2:val xs%b=r:=by rw[C,Nat.mul_add_mod,Nat.mod_eq_of_lt O]
 rw[e1,e2];exact⟨_,rfl,G⟩
theorem eO{w0:World}{h0:Mem}(hs:MLe h0 (mem w0)){v:Value}{xs:List Nat}{s:Nat}(hv:Us .u32 h0 v xs)(hs32:s<32)(hl:xs.length≤1099511627776):
 Calls Tryz.prog 146 #[v,vI ↑s] w0 (sQ w0 h0 (fun _ r L=>∃us,L=[.us 127 .u32 r us]∧us.length=xs.length+1∧Fit us∧val us=val xs*2^s)):=by
 have Y:Fit xs:=hv.lt;have T:2^s≤2147483648:=Nat.pow_le_pow_right (n:=2) oM (show s≤31 by omega);have H:0<2^s:=Nat.pow_pos oM;refine cb2 41 v (vI ↑s) func146 hs ?_;refine uQ ?_;refine qH (kd:=.u32) (by':=4) (xs.length+1) underlying22 wL rfl rfl rfl rfl rfl oM oM oM oM rfl ?_;intro z;refine go5 ?_;refine asg (v:=vU .u64 0) rfl rfl (qT ?_);refine jP (ι:=List Nat×Nat) (fun(u,c)=>u.length≤xs.length∧Fit u∧c<2^s∧val u+4294967296^u.length*c=val (xs.take u.length)*2^s) (fun(u,c)=>[(0,v),(1,vI ↑s),(5,z),(6,vU .u64 c),(13,v),(14,vI ↑xs.length),(15,vI ↑u.length)]) (fun(u,c)=>[.us 127 .u32 z (fM u (xs.length+1))]) (fun(u,c)=>h0) (fun(u,c)=>xs.length-u.length) ([],0) ?_ e7 rfl rfl ?_
 · exact⟨by simp,fun x O=>by simp at O,H,by simp[val]⟩
 rintro⟨u,c⟩ ⟨S,D,U,C⟩
 refine yU ?_;refine gc6 (fun G=>?_) fun G=>?_
 ·
  refine go7 ?_;refine gv (zP _ underlying22 sizeOf127 rfl rfl hv rfl oM) rfl (go1 ?_);have M:=hv.get32 u.length;have J:xs.getD u.length 0*2^s<18446744073709551616-4294967296:=by
   have:=Nat.mul_le_mul (show xs.getD u.length 0≤4294967295 by omega) T;omega
  refine uQ ?_;refine gv (kJ (k:=.u64) (s:=s) (yk:=.i64) (W:=18446744073709551616) rfl rfl rfl rfl) rfl ?_;rw[Nat.mod_eq_of_lt oM];refine gv (tF (k:=.u64) rfl rfl rfl (by simp only[ub];omega) (by simp only[ub];omega)) rfl ?_;rw[zKM U];refine go9 ?_;refine gv (yR (A:=[]) _ underlying22 sizeOf127 rfl rfl rfl (by rw[vM oM];omega)) rfl (wA sizeOf127 rfl rfl (by rw[vM oM];omega) (sL ?_));refine qN (u++[(xs.getD u.length 0*2^s+c)%4294967296],(xs.getD u.length 0*2^s+c)/2^32) ?_ ?_ ⟨rfl,rfl,rfl,rfl,rfl,rfl,?_,trivial⟩ ?_ rfl
  ·
   refine⟨by simp;omega,wZ D (cR oM),?_,?_⟩
   · refine Nat.div_lt_of_lt_mul ?_
     have:=Nat.mul_le_mul_right (2^s) (show xs.getD u.length 0+1≤2^32 by omega);rw[Nat.add_mul] at this;omega
   · have e:=Nat.div_add_mod (xs.getD u.length 0*2^s+c) 4294967296
     have X:(2:Nat)^32=4294967296:=rfl;rw[lAz,List.length_singleton,uC xs _ oM,tP,Nat.pow_succ,X];generalize (xs.getD u.length 0*2^s+c)/4294967296=q at *;generalize (xs.getD u.length 0*2^s+c)%4294967296=r at *;grind
  ·
   dsimp only;simp;omega
  · exact congrArg some (congrArg vI (by simp))
  try dsimp only[List.nil_append,List.cons_append]
  rw[sM oM]
 refine qO ?_;refine gv (yR (A:=[]) (xs.length) underlying22 sizeOf127 rfl rfl (by rfl) (by rw[vM oM];omega)) rfl (wA sizeOf127 rfl rfl (by rw[vM oM];omega) (go9 ?_));refine jV rfl rfl ?_;have I:u.length=xs.length:=by omega
 refine⟨u++[c],?_,by simp[I],wZ D (cR oM),?_⟩
 · rw[←I,sM oM,pS (by simp),Nat.mod_eq_of_lt oM]
 · rw[tP,C,xL oM]
end Go.Proofs.YtboaboflnckgoaaGreat
namespace Go.Proofs.YtboaboflnckgoaaGreat
open Bk Go Tryz
set_option linter.unusedVariables false
set_option linter.unusedSimpArgs false
set_option maxRecDepth 10000
set_option maxHeartbeats 1000000
attribute [local irreducible] GL GC GQ W OpV
end Go.Proofs.YtboaboflnckgoaaGreat
namespace Go.Proofs.YtboaboflnckgoaaGreat
open Bk Go Tryz
set_option linter.unusedVariables false
set_option linter.unusedSimpArgs false
set_option maxRecDepth 10000
set_option maxHeartbeats 1000000
attribute [local irreducible] GL GC GQ W OpV
set_option maxHeartbeats 2000000 in
theorem eP{w0:World}{h0:Mem}(hs:MLe h0 (mem w0)){v v':Value}{xs ys:List Nat}(hv:Us .u32 h0 v xs)(hv':Us .u32 h0 v' ys)(hl:xs.length≤1099511627776)(hl':ys.length≤1099511627776):
 Calls Tryz.prog 147 #[v,v'] w0 (Ret w0 h0 (fun h z=>∃q r,z=.tuple #[q,r,vI (if val ys=0 then 3 else 0)]∧Us .u32 h q (zB (val xs/val ys))∧Us .u32 h r (zB (if val ys=0 then 0 else val xs%val ys)))):=by
 have eo:Fit xs:=hv.lt;have en:Fit ys:=hv'.lt;have ga:=wS eo;have fz:=wS en;refine cb2 300 v v' func147 hs ?_;refine zM (zE (asg rfl rfl (asg rfl rfl (asg (v:=vI (0)) rfl rfl (zR (zH (zM (zE (mv rfl rfl (cL (ev1 rfl) call144 (fun w hs=>uP hs hv) fun fq h1 ek G=>?_))))))))));replace G:=G.2;refine mv rfl rfl ?_;replace hv':=hv'.mono ek;refine cL (ev1 rfl) call144 (fun w hs=>uP hs hv') fun fp h2 ej D=>?_;replace D:=D.2;refine asg rfl rfl (asg rfl rfl (zR (zH (zM (wV (zM (zE (mv rfl rfl (gv (wQ underlying22 rfl D) rfl (gv (oN (q:=0) rfl rfl) rfl (asg rfl rfl (zR (wU (e':=[(0,_),(1,_),(30,_)]) e3z ?_)))))))))))));refine zH ?_;refine cnd (fun dq=>?_) fun dq=>?_
 ·
  have dx:val ys=0:=Classical.byContradiction fun eg=>by have:=yM.2 eg;omega
  refine zM (zE (asg rfl rfl (asg rfl rfl (asg (v:=vI (3)) rfl rfl (zR (zH (bQ (zMY (aJ (qY rfl rfl rfl rfl ?_))))))))));rw[dx,Nat.div_zero,if_pos rfl,if_pos rfl,yS];exact⟨_,_,rfl,Us.nil _ _,Us.nil _ _⟩
 have av:val ys≠0:=yM.1 oM;refine zM (zE (mv rfl rfl (mv rfl rfl ?_)));replace G:=G.mono ej;refine cL (ev2 rfl rfl) call98 (fun w hs=>eQ hs G D) fun fo h3 bh db=>?_;subst db;rw[zC,zC];refine gv (yN (q:=0) rfl rfl) rfl (asg rfl rfl (zR (zH ?_)));refine cnd (fun bc=>?_) fun bc=>?_
 ·
  have de:=gG.1 bc;refine zM (zE (mv rfl rfl ?_));replace G:=G.mono bh;refine qV (vs:=[_]) rfl rfl rfl rfl call103 ⟨rfl,trivial⟩ (fun w hs=>pE hs G oM) ?_;intro fm h4 gt bg da;obtain rfl:=da;refine asg rfl rfl (asg rfl rfl (yI (by exact xS _) ?_));intro h5 bf ho;refine asg (v:=vI (0)) rfl rfl (zR (wU (e':=[(4,_),(5,_),(6,_)]) e3z (zH (bQ (zMY (aJ (qY rfl rfl rfl rfl ?_)))))));rw[Nat.div_eq_of_lt de,Nat.mod_eq_of_lt de,if_neg oM,if_neg oM,yS];exact⟨_,_,rfl,Us.nil _ _,ho⟩
 have em:val ys≤val xs:=Nat.le_of_not_lt fun hc=>bc (gG.2 hc);refine zM (zE (mv rfl rfl ?_));replace D:=D.mono bh;refine gv (wQ underlying22 rfl D) rfl (gv (oN (q:=1) rfl rfl) rfl (asg rfl rfl (zR (zH ?_))));refine cnd (fun dp=>?_) fun dp=>?_
 ·
  have bn:(zB (val ys)).length=1:=by omega
  have dr:(zB (val ys)).getD 0 0≠0:=by have:=tL (n:=val ys) oM;rwa [bn] at this
  have bp:=zBP bn;rw[zC] at bp;refine zGT (e':=[(0,_),(1,_)]) e2z (zM (zE (mv rfl rfl (mv rfl rfl (gv (zP (q:=0) (0) underlying22 sizeOf127 rfl rfl D rfl oM) rfl (gv (xH isAgg127 rfl D oM) rfl ?_))))));have cd:=D.get32 0;replace G:=G.mono bh;refine cL (ev2 rfl rfl) call182 (fun w hs=>zOL hs G oM oM oM) fun fl h4 bg cz=>?_;obtain⟨fr,rfl,an⟩:=cz;refine mv rfl rfl (gv (kP (vs:=[_,_]) rfl rfl) rfl (gv (kP (vs:=[_,_]) rfl rfl) rfl (asg rfl rfl (asg rfl rfl (zR (wU (e':=[(7,_),(8,_)]) e2z (zH (zM (zE (mv rfl rfl (mv rfl rfl (zF (kQ (kd:=.u32) underlying22 wL rfl rfl rfl) rfl rfl rfl ?_))))))))))));intro fk fs cy;obtain rfl:=cy;refine yI (by intro z hz;simp only[List.mem_singleton] at hz;subst hz;exact Nat.lt_trans (Nat.mod_lt _ oM) cd) ?_;intro h5 bf dl;refine cL (ev1 rfl) call144 (fun w hs=>uP hs dl) fun fj h6 di ao=>?_;replace ao:=ao.2;refine asg rfl rfl (asg rfl rfl (asg (v:=vI (0)) rfl rfl (zR (zH (bQ (zMY (aJ (qY rfl rfl rfl rfl ?_))))))));replace an:=an.mono (bf.trans di);rw[zC,←bp] at an;rw[zBP rfl,List.getD_cons_zero,zC,←bp] at ao;rw[if_neg oM,if_neg oM];exact⟨_,_,rfl,an,ao⟩
 have dc:2≤(zB (val ys)).length:=by omega
 refine zGT (e':=[(0,_),(1,_)]) e2z (uK (tU (zH (zM (zE (mv rfl rfl (mv rfl rfl (gv (wQ underlying22 rfl D) rfl (gv (qX (q:=1) rfl rfl oM oM) rfl (gv (zP ((zB (val ys)).length-1) underlying22 sizeOf127 rfl rfl D oM oM) rfl (gv (xH isAgg127 rfl D oM) rfl ?_)))))))))));have hgt:=D.get32 ((zB (val ys)).length-1);refine cL (ev1 rfl) call183 (fun w hs=>zO8 hs oM) fun fi h4 bg cw=>?_;subst cw;obtain⟨s,cp⟩:∃s,s=32-xZ ((zB (val ys)).getD ((zB (val ys)).length-1) 0):=⟨_,rfl⟩;rw[←cp];obtain⟨fb,aq,eb⟩:=zC1 (k:=(zB (val ys)).length-1) av oM cp;refine asg rfl rfl (zR (zH (zM (zE (mv rfl rfl (mv rfl rfl ?_))))));replace G:=G.mono (bh.trans bg);refine qV (vs:=[_,_]) rfl rfl rfl rfl call146 e2z (fun w hs=>eO hs G oM oM) ?_;intro I h5 gs bf cv;obtain⟨bk,rfl,ay,az,ac⟩:=cv;refine mv rfl rfl (mv rfl rfl ?_);replace D:=D.mono (bg.trans bf);refine qV (vs:=[_,_]) rfl rfl rfl rfl call146 e2z (fun w hs=>eO hs D oM oM) ?_;intro fh h6 gr di cu;obtain⟨ez,rfl,ec,bs,br⟩:=cu;refine yI (by exact bs) ?_;intro h7 ge ea;refine cL (ev1 rfl) call144 (fun w hs=>uP hs ea) fun ad h8 gc C=>?_;replace C:=C.2;rw[br,zC] at C;refine asg rfl rfl (asg rfl rfl ?_);rw[zC] at ac;have fc:=zN em;have bo:=jZ (xS (val xs));rw[zC] at bo;have er:=tN (n:=val ys) (k:=(zB (val ys)).length-1) oM;have bu:=zO2 az bo ac (k:=(zB (val ys)).length-1) oM er;rw[show(zB (val xs)).length-((zB (val ys)).length-1)=(zB (val xs)).length+1-(zB (val ys)).length by omega] at bu;have aw:=zC (val ys*2^s);have bi:Fit (zB (val ys*2^s)):=xS _;replace aq:(zB (val ys*2^s)).length=(zB (val ys)).length:=by omega
 generalize zB (val ys*2^s)=vs at *;generalize fy:(zB (val ys)).length=n at *;generalize fd:(zB (val xs)).length=la at *;obtain⟨V,hV⟩:∃V,V=val ys*2^s:=⟨_,rfl⟩;obtain⟨U,hU⟩:∃U,U=val xs*2^s:=⟨_,rfl⟩;rw[←hV] at aw bu;rw[←hU] at ac;have es:V<4294967296^n:=by rw[←aw,←aq];exact jZ bi
 have ak:=zL0 dc aq;rw[aw] at ak;have ax:=jZ (gE bi (n-2));rw[List.length_take,Nat.min_eq_left oM] at ax;have bq:=uV bi (n-2);have cm:=uV bi (n-1);refine zR (wU (e':=[(9,_),(10,_),(11,_)]) e3z (zH (zM (zE (mv rfl rfl (gv (wQ underlying22 rfl C) rfl ?_))))));rw[aq];refine asg rfl rfl (zR (zH (zM (zE (mv rfl rfl (gv (gS (A:=[]) underlying22 rfl) rfl ?_))))));rw[ay];refine mv rfl rfl (gv (qX rfl rfl oM oM) rfl (qH (kd:=.u32) (by':=4) (la+1-n) underlying22 wL rfl rfl rfl rfl rfl oM oM oM oM rfl ?_));intro H;refine asg rfl rfl (zR (zH (zM (zM (zE (mv rfl rfl (gv (gS (A:=[]) underlying22 rfl) rfl ?_)))))));rw[lR];refine gv (qX (q:=1) rfl rfl oM oM) rfl (asg rfl rfl (zR (wU (e':=[(9,_),(10,_),(11,_),(12,_),(4,_),(13,_)]) e6z (zH (wV ?_)))));refine jP (ι:=Nat×List Nat×List Nat) (fun(J,us,qs)=>J≤la+1-n∧qs.length=la+1-n-J∧Fit qs∧us.length=la+1∧Fit us∧val us+4294967296^J*(val qs*V)=U∧val (us.drop J)<V) (fun(J,us,qs)=>[(4,H),(9,vI ↑s),(10,I),(11,ad),(12,vI ↑n),(13,vI (↑J-1))]) (fun(J,us,qs)=>[.us 127 .u32 H (kS J qs),.us 127 .u32 I us]) (fun(J,us,qs)=>h8) (fun(J,us,qs)=>J) (la+1-n,bk,[]) ?_ e6z ?_ rfl ?_
 · exact⟨Nat.le_refl _,by simp,fun x hx=>by simp at hx,ay,az,by rw[ac];simp[val],bu⟩
 ·
  try dsimp only[List.nil_append,List.cons_append]
  exact congrArg (fun z=>[Res.us 127 .u32 H z,Res.us 127 .u32 I bk]) (bT _)
 rintro⟨J,us,qs⟩ ⟨fg,fw,dm,ed,S,am,bw⟩
 refine yU ?_;refine zM (zM (zE (mv rfl rfl (gv (bJ (q:=0) rfl rfl) rfl (zR (zH ?_))))));refine cnd (fun dn=>?_) fun dn=>?_
 ·
  refine uK (zH (zM (wV (zM ?_))));have hJ:1≤J:=by omega
  have cf:∀i,J+n≤i→us.getD i 0=0:=fun i hi=>mP (zB3 S (Nat.lt_trans bw es)) hi;obtain⟨wr,hW,ck⟩:=zEG (j:=J-1) dc (fun i hi=>cf i oM) S;have gk:=uV S (J-1+n);have gj:=uV S (J-1+n-1);have eq:=uV S (J-1+n-2);have gm:=uV S (J-1);have dt:val (us.drop (J-1))<4294967296*V:=by
   rw[jI us (J-1) oM,Nat.sub_add_cancel hJ];omega
  refine zK 18 _ [] [(0,.q),(1,.q),(2,.q),(3,.q),(4,.q),(5,.q),(6,.q),(7,.q),(8,.q),(9,.q),(10,.q),(11,.q),(12,.q),(13,.q),(14,.q),(15,.q),(16,.q),(17,.q)] yC nX (by kernel_rfl) nX (fun r hr=>hr) (uY rfl rfl rfl (uY rfl rfl rfl (uY rfl rfl rfl (xK rfl (fun _ _=>yA rfl rfl oM oM) rfl (w_q rfl (fun h' L' hh hR=>qP (hR _ mh1) (J-1+n) underlying22 sizeOf127 rfl rfl oM oM) rfl (w_q rfl (fun h' L' hh hR=>kK (hR _ mh1) isAgg127 rfl oM) rfl (xK rfl (fun _ _=>wR (k:=.u32) (k':=.u64) (W:=18446744073709551616) underlying127 underlying130 rfl rfl rfl oM) rfl (xK rfl (fun _ _=>kJ (k:=.u64) (s:=32) (yk:=.u64) (W:=18446744073709551616) rfl rfl rfl rfl) rfl (uY rfl rfl rfl (uY rfl rfl rfl (uY rfl rfl rfl (xK rfl (fun _ _=>yA rfl rfl oM oM) rfl (xK rfl (fun _ _=>qX (q:=1) rfl rfl oM oM) rfl ?_)))))))))))));refine w_q rfl (fun h' L' hh hR=>qP (hR _ mh1) (J-1+n-1) underlying22 sizeOf127 rfl rfl oM oM) rfl (w_q rfl (fun h' L' hh hR=>kK (hR _ mh1) isAgg127 rfl oM) rfl (xK rfl (fun _ _=>wR (k:=.u32) (k':=.u64) (W:=18446744073709551616) underlying127 underlying130 rfl rfl rfl oM) rfl (xK rfl (fun _ _=>tF (k:=.u64) rfl rfl rfl (by simp only[ub];omega) (by simp only[ub];omega)) rfl ?_)));rw[rA oM oM];obtain⟨top,bl⟩:∃t,t=us.getD (J-1+n) 0*4294967296+us.getD (J-1+n-1) 0:=⟨_,rfl⟩;rw[←bl];rw[←bl] at hW;have ai:=zVS ak hW ax bq dt;refine zD0 rfl rfl rfl (rM (wU (e':=[(4,_),(9,_),(10,_),(11,_),(12,_),(13,_),(14,_)]) e7 (zH (zM ?_))));refine zK 18 _ [] [(0,.q),(1,.q),(2,.q),(3,.q),(4,.q),(5,.q),(6,.q),(7,.q),(8,.q),(9,.q),(10,.q),(11,.q),(12,.q),(13,.q),(14,.q),(15,.q),(16,.q),(17,.q)] yC nX (by kernel_rfl) nX (fun r hr=>hr) (uY rfl rfl rfl (uY rfl rfl rfl (uY rfl rfl rfl (xK rfl (fun _ _=>qX (q:=1) rfl rfl oM oM) rfl (w_q rfl (fun h' L' hh hR=>zP (n-1) underlying22 sizeOf127 rfl rfl (C.mono hh) oM oM) rfl (w_q rfl (fun h' L' hh hR=>xH isAgg127 rfl (C.mono hh) oM) rfl (xK rfl (fun _ _=>wR (k:=.u32) (k':=.u64) (W:=18446744073709551616) underlying127 underlying130 rfl rfl rfl oM) rfl (xK rfl (fun _ _=>pL (k:=.u64) (W:=18446744073709551616) rfl rfl rfl rfl oM oM) rfl (uY rfl rfl rfl (uY rfl rfl rfl (uY rfl rfl rfl (xK rfl (fun _ _=>qX (q:=1) rfl rfl oM oM) rfl (w_q rfl (fun h' L' hh hR=>zP (n-1) underlying22 sizeOf127 rfl rfl (C.mono hh) oM oM) rfl ?_)))))))))))));refine w_q rfl (fun h' L' hh hR=>xH isAgg127 rfl (C.mono hh) oM) rfl (xK rfl (fun _ _=>wR (k:=.u32) (k':=.u64) (W:=18446744073709551616) underlying127 underlying130 rfl rfl rfl oM) rfl (xK rfl (fun _ _=>pK (k:=.u64) rfl rfl oM) rfl (zD0 rfl rfl rfl (zD0 rfl rfl rfl (rM (wU (e':=[(4,_),(9,_),(10,_),(11,_),(12,_),(13,_),(15,_),(16,_)]) e8 (zH ?_)))))));refine qI (ι:=Nat) (fun(x1:(Nat))=>x1<4294967296∧val (us.drop (J-1))<(x1+1)*V∧x1*V<val (us.drop (J-1))+V) (fun(x1:(Nat))=>[(4,H),(9,vI ↑s),(10,I),(11,ad),(12,vI ↑n),(13,vI (↑J-1)),(15,vU .u64 x1)]) (fun(x1:(Nat))=>[.us 127 .u32 H (kS J qs),.us 127 .u32 I us]) (fun(x1:(Nat))=>h8) ?_ ?_
  ·
   refine wV ?_;refine gcL (ι:=Nat×Nat) (fun(x,r)=>(x*vs.getD (n-1) 0+r=top∧val (us.drop (J-1))<(x+1)*V∧r<4294967296,[(4,H),(9,vI ↑s),(10,I),(11,ad),(12,vI ↑n),(13,vI (↑J-1)),(15,vU .u64 x),(16,vU .u64 r)],[.us 127 .u32 H (kS J qs),.us 127 .u32 I us],h8,x)) (top/vs.getD (n-1) 0,top%vs.getD (n-1) 0) ?_ ?_
   · exact⟨by rw[Nat.mul_comm];exact Nat.div_add_mod _ _,zI1 ak hW eq ck oM,Nat.lt_trans (Nat.mod_lt _ oM) cm⟩
   rintro⟨x,r⟩ ⟨ah,dy,fv⟩
   refine yU ?_;have dz:=zZP ah ai eb;have fu:x*vs.getD (n-2) 0≤4294967297*4294967295:=Nat.mul_le_mul dz oM;refine zM (zM ?_);refine zSD (4294967296≤x) (fun hg=>?_) (fun hg=>?_)
   ·
    have ab:1≤x:=by omega
    have ae:val (us.drop (J-1))<x*V:=Nat.lt_of_lt_of_le dt (Nat.mul_le_mul_right _ hg);refine zK 24 _ [] [(0,.q),(1,.q),(2,.q),(3,.q),(4,.q),(5,.q),(6,.q),(7,.q),(8,.q),(9,.q),(10,.q),(11,.q),(12,.q),(13,.q),(14,.q),(15,.q),(16,.q),(17,.q),(18,.q),(19,.q),(20,.q),(21,.q),(22,.q),(23,.q)] yC nX (by kernel_rfl) nX (fun r hr=>hr) (uY rfl rfl rfl (xK rfl (fun _ _=>sZ (k:=.u64) (q:=4294967296) rfl rfl) rfl (xK rfl (fun _ _=>yX (v:=.bool true) (congrArg some (xM hg))) rfl (vC rfl rfl rfl rfl rfl (vC rfl rfl rfl rfl rfl (vC rfl rfl rfl rfl rfl (vC rfl rfl rfl rfl rfl (vC rfl rfl rfl rfl rfl (vC rfl rfl rfl rfl rfl (vC rfl rfl rfl rfl rfl (vC rfl rfl rfl rfl rfl (vC rfl rfl rfl rfl rfl (vC rfl rfl rfl rfl rfl ?_)))))))))))));refine vC rfl rfl rfl rfl rfl (vC rfl rfl rfl rfl rfl (vC rfl rfl rfl rfl rfl (vC rfl rfl rfl rfl rfl (vC rfl rfl rfl rfl rfl (vC rfl rfl rfl rfl rfl (vC rfl rfl rfl rfl rfl (vC rfl rfl rfl rfl rfl (vC rfl rfl rfl rfl rfl (vC rfl rfl rfl rfl rfl (xK rfl (fun _ _=>rT rfl rfl) rfl (rM (wU (e':=[(4,_),(9,_),(10,_),(11,_),(12,_),(13,_),(15,_),(16,_),(141,_)]) ⟨rfl,rfl,rfl,rfl,rfl,rfl,rfl,rfl,rfl,trivial⟩ (zH ?_)))))))))))));refine zFD rfl (uK (zH (wV (zM (zE (mv rfl rfl (gv (bG (k:=.u64) (q:=1) (W:=18446744073709551616) rfl rfl rfl rfl oM oM) rfl (asg rfl rfl (zR (zH (zM (zE (mv rfl rfl ?_)))))))))))));refine mv rfl rfl (mv rfl rfl (gv (qX (q:=1) rfl rfl oM oM) rfl (gv (zP (n-1) underlying22 sizeOf127 rfl rfl C oM oM) rfl (gv (xH isAgg127 rfl C oM) rfl (gv (wR (k:=.u32) (k':=.u64) (W:=18446744073709551616) underlying127 underlying130 rfl rfl rfl oM) rfl (gv (fW (k:=.u64) (W:=18446744073709551616) rfl rfl rfl rfl oM) rfl (asg rfl rfl (zR (wU (e':=[(4,_),(9,_),(10,_),(11,_),(12,_),(13,_),(15,_),(16,_)]) e8 (zH (zM (zE (mv rfl rfl ?_)))))))))))));refine gv (sZ (k:=.u64) (q:=4294967296) rfl rfl) rfl (zR (zH ?_));refine cnd (fun aa=>?_) fun aa=>?_
    ·
     refine kX (zGQ rfl (uH (kW ?_)));refine zO (x-1) ?_ e7 rfl rfl;obtain⟨b1,b2⟩:=zFH (x:=x-1) ak hW ax bq (j8 ah ab) aa ai oM;exact⟨b1,by rw[Nat.sub_add_cancel ab];exact ae,by omega⟩
    refine uK (tU ?_);refine gqL (x-1,r+vs.getD (n-1) 0) ?_ ?_
    · exact⟨j8 ah ab,by rw[Nat.sub_add_cancel ab];exact ae,by omega⟩
    omega
   refine zK 24 _ [] [(0,.q),(1,.q),(2,.q),(3,.q),(4,.q),(5,.q),(6,.q),(7,.q),(8,.q),(9,.q),(10,.q),(11,.q),(12,.q),(13,.q),(14,.q),(15,.q),(16,.q),(17,.q),(18,.q),(19,.q),(20,.q),(21,.q),(22,.q),(23,.q)] yC nX (by kernel_rfl) nX (fun r hr=>hr) (uY rfl rfl rfl (xK rfl (fun _ _=>sZ (k:=.u64) (q:=4294967296) rfl rfl) rfl (xK rfl (fun _ _=>yX (v:=.bool false) (congrArg some (yV hg))) rfl (yO rfl rfl rfl (fun h' L' hh hR=>yX rfl) rfl (yO rfl rfl rfl (fun h' L' hh hR=>yX rfl) rfl (yO rfl rfl rfl (fun h' L' hh hR=>yX rfl) rfl (yO rfl rfl rfl (fun h' L' hh hR=>qX (q:=2) rfl rfl oM oM) rfl (yO rfl rfl rfl (fun h' L' hh hR=>zP (n-2) underlying22 sizeOf127 rfl rfl (C.mono hh) oM oM) rfl (yO rfl rfl rfl (fun h' L' hh hR=>xH isAgg127 rfl (C.mono hh) oM) rfl (yO rfl rfl rfl (fun h' L' hh hR=>wR (k:=.u32) (k':=.u64) (W:=18446744073709551616) underlying127 underlying130 rfl rfl rfl oM) rfl (yO rfl rfl rfl (fun h' L' hh hR=>oI (k:=.u64) (W:=18446744073709551616) rfl rfl rfl rfl oM) rfl (yO rfl rfl rfl (fun h' L' hh hR=>yX rfl) rfl (yO rfl rfl rfl (fun h' L' hh hR=>kJ (k:=.u64) (s:=32) (yk:=.u64) (W:=18446744073709551616) rfl rfl rfl rfl) rfl ?_)))))))))))));refine yO rfl rfl rfl (fun h' L' hh hR=>yX rfl) rfl (yO rfl rfl rfl (fun h' L' hh hR=>yX rfl) rfl (yO rfl rfl rfl (fun h' L' hh hR=>yX rfl) rfl (yO rfl rfl rfl (fun h' L' hh hR=>yA rfl rfl oM oM) rfl (yO rfl rfl rfl (fun h' L' hh hR=>qX (q:=2) rfl rfl oM oM) rfl (yO rfl rfl rfl (fun h' L' hh hR=>qP (hR _ mh1) (J-1+n-2) underlying22 sizeOf127 rfl rfl oM oM) rfl (yO rfl rfl rfl (fun h' L' hh hR=>kK (hR _ mh1) isAgg127 rfl oM) rfl (yO rfl rfl rfl (fun h' L' hh hR=>wR (k:=.u32) (k':=.u64) (W:=18446744073709551616) underlying127 underlying130 rfl rfl rfl oM) rfl (yO rfl rfl rfl (fun h' L' hh hR=>tF (k:=.u64) rfl rfl rfl (by simp only[ub];omega) (by simp only[ub];omega)) rfl ?_))))))));rw[rA oM oM];refine yO rfl rfl rfl (fun h' L' hh hR=>lO (k:=.u64) rfl rfl) rfl (xK rfl (fun _ _=>rU rfl rfl) rfl (rM (wU (e':=[(4,_),(9,_),(10,_),(11,_),(12,_),(13,_),(15,_),(16,_),(141,_)]) ⟨rfl,rfl,rfl,rfl,rfl,rfl,rfl,rfl,rfl,trivial⟩ (zH ?_))));refine cnd (fun aj=>?_) fun aj=>?_
   ·
    have ab:1≤x:=Nat.pos_of_ne_zero fun h0=>by rw[h0,Nat.zero_mul] at aj;omega
    have ae:val (us.drop (J-1))<x*V:=zVT ak hW ck ah aj;refine uK (zH (wV (zM (zE (mv rfl rfl (gv (bG (k:=.u64) (q:=1) (W:=18446744073709551616) rfl rfl rfl rfl oM oM) rfl (asg rfl rfl (zR (zH (zM (zE (mv rfl rfl (mv rfl rfl ?_)))))))))))));refine mv rfl rfl (gv (qX (q:=1) rfl rfl oM oM) rfl (gv (zP (n-1) underlying22 sizeOf127 rfl rfl C oM oM) rfl (gv (xH isAgg127 rfl C oM) rfl (gv (wR (k:=.u32) (k':=.u64) (W:=18446744073709551616) underlying127 underlying130 rfl rfl rfl oM) rfl (gv (fW (k:=.u64) (W:=18446744073709551616) rfl rfl rfl rfl oM) rfl (asg rfl rfl (zR (wU (e':=[(4,_),(9,_),(10,_),(11,_),(12,_),(13,_),(15,_),(16,_)]) e8 (zH (zM (zE (mv rfl rfl (gv (sZ (k:=.u64) (q:=4294967296) rfl rfl) rfl ?_)))))))))))));refine zR (zH ?_);refine cnd (fun aa=>?_) fun aa=>?_
    ·
     refine kX (zGQ rfl (uH (kW ?_)));refine zO (x-1) ?_ e7 rfl rfl;obtain⟨b1,b2⟩:=zFH (x:=x-1) ak hW ax bq (j8 ah ab) aa ai oM;exact⟨b1,by rw[Nat.sub_add_cancel ab];exact ae,by omega⟩
    refine uK (tU ?_);refine gqL (x-1,r+vs.getD (n-1) 0) ?_ ?_
    · exact⟨j8 ah ab,by rw[Nat.sub_add_cancel ab];exact ae,by omega⟩
    omega
   refine kX (uH (uH (kW ?_)));refine zO (x) ?_ e7 rfl rfl;exact⟨by omega,dy,zSJ ak hW ax oM ah oM oM⟩
  rintro x1 ⟨cj,cg,ch⟩
  refine yU ?_;refine zM (zE (asg (v:=vU .u64 0) rfl rfl (asg (v:=vU .u64 0) rfl rfl (zR (zH (zM (zM (zE (mv rfl rfl (gv (wQ underlying22 rfl C) rfl ?_))))))))));rw[aq];refine mv (v:=vI (0)) rfl rfl (zR (zH (wV ?_)));refine jP (ι:=Nat×List Nat×Nat×Nat) (fun(i,ts,b,c)=>i≤n∧ts.length=la+1∧Fit ts∧c<4294967296∧b≤1∧val ts+4294967296^(J-1)*(x1*val (vs.take i))=val us+4294967296^(J-1+i)*(c+b)∧∀k,J-1+i≤k→ts.getD k 0=us.getD k 0) (fun(i,ts,b,c)=>[(4,H),(9,vI ↑s),(10,I),(11,ad),(12,vI ↑n),(13,vI (↑J-1)),(15,vU .u64 x1),(17,vU .u64 b),(18,vU .u64 c),(154,ad),(155,vI ↑n),(156,vI ↑i)]) (fun(i,ts,b,c)=>[.us 127 .u32 H (kS J qs),.us 127 .u32 I ts]) (fun(i,ts,b,c)=>h8) (fun(i,ts,b,c)=>n-i) (0,us,0,0) ?_ e12 rfl rfl ?_
  · exact⟨by omega,ed,S,by omega,by omega,by simp[val],fun _ _=>rfl⟩
  rintro⟨i,ts,b,c⟩ ⟨dh,cn,bj,gf,gh,ba,co⟩
  refine yU ?_;refine zM (zE (gv (yN rfl rfl) rfl (zR (zH (zM ?_)))));refine cnd (fun cc=>?_) fun cc=>?_
  ·
   refine uK (zH (zM (wV (zM (zE (mv rfl rfl (gv (zP _ underlying22 sizeOf127 rfl rfl C rfl oM) rfl (gv (xH isAgg127 rfl C oM) rfl ?_))))))));have dw:=C.get32 i;have ft:x1*vs.getD i 0≤4294967295*4294967295:=Nat.mul_le_mul oM oM;refine asg rfl rfl (asg rfl rfl (zR (zH (zM (zE (mv rfl rfl (mv rfl rfl (mv rfl rfl (gv (wR (k:=.u32) (k':=.u64) (W:=18446744073709551616) underlying127 underlying130 rfl rfl rfl oM) rfl (gv (oI (k:=.u64) (W:=18446744073709551616) rfl rfl rfl rfl oM) rfl (gv (fW (k:=.u64) (W:=18446744073709551616) rfl rfl rfl rfl oM) rfl (asg rfl rfl (zR ?_)))))))))))));refine wU (e':=[(4,_),(9,_),(10,_),(11,_),(12,_),(13,_),(15,_),(17,_),(154,_),(155,_),(156,_),(19,_),(18,_)]) ⟨rfl,rfl,rfl,rfl,rfl,rfl,rfl,rfl,rfl,rfl,rfl,rfl,rfl,trivial⟩ (zH (zM (zE (mv rfl rfl (mv rfl rfl (mv rfl rfl (gv (yA rfl rfl oM oM) rfl (gv (yR (A:=[_]) (J-1+i) underlying22 sizeOf127 rfl rfl oM oM) rfl (gv (kL (A:=[_]) isAgg127 rfl oM) rfl ?_)))))))));have bt:=uV bj (J-1+i);refine gv (wR (k:=.u32) (k':=.u64) (W:=18446744073709551616) underlying127 underlying130 rfl rfl rfl oM) rfl (mv rfl rfl (gv (zQ5 (k:=.u64) (q:=4294967295) rfl rfl rfl (by simp only[ub];omega) (by simp only[ub];omega)) rfl ?_));rw[zTC];refine gv (lI (k:=.u64) (W:=18446744073709551616) rfl rfl rfl rfl oM) rfl (mv rfl rfl (gv (lI (k:=.u64) (W:=18446744073709551616) rfl rfl rfl rfl oM) rfl (asg rfl rfl (zR (wU (e':=[(4,_),(9,_),(10,_),(11,_),(12,_),(13,_),(15,_),(154,_),(155,_),(156,_),(19,_),(18,_),(21,_)]) ⟨rfl,rfl,rfl,rfl,rfl,rfl,rfl,rfl,rfl,rfl,rfl,rfl,rfl,trivial⟩ (zH (zM (zE (mv rfl rfl (mv rfl rfl (mv rfl rfl (gv (yA rfl rfl oM oM) rfl (mv rfl rfl ?_)))))))))))));refine gv (gW (k:=.u64) (k':=.u32) (W:=4294967296) underlying130 underlying127 rfl rfl rfl) rfl (gv (yR (A:=[_]) (J-1+i) underlying22 sizeOf127 rfl rfl oM oM) rfl (tW sizeOf127 rfl rfl oM (zR (zH (zM (zE (mv rfl rfl (gv (kI (k:=.u64) (s:=63) (yk:=.u64) rfl rfl rfl (by simp only[ub];omega)) rfl (asg rfl rfl (zR (wU (e':=[(4,_),(9,_),(10,_),(11,_),(12,_),(13,_),(15,_),(154,_),(155,_),(156,_),(18,_),(17,_)]) e12 (zH (zE ?_)))))))))))));refine mv rfl rfl (gv (kI (k:=.u64) (s:=32) (yk:=.u64) rfl rfl rfl (by simp only[ub];omega)) rfl (asg rfl rfl (zR (tU (zH (zE (gv (yA (q:=1) rfl rfl oM oM) rfl (mv rfl rfl (zR ?_)))))))));generalize hX:ts.getD (J-1+i) 0=X at *;generalize hY:vs.getD i 0=Y at *;refine qN (i+1,ts.set (J-1+i) (((X+18446744073709551616-(c+x1*Y)%4294967296)%18446744073709551616+18446744073709551616-b)%18446744073709551616%4294967296),((X+18446744073709551616-(c+x1*Y)%4294967296)%18446744073709551616+18446744073709551616-b)%18446744073709551616/2^63,(c+x1*Y)/2^32) ?_ ?_ e12 rfl rfl
   ·
    refine⟨by omega,by simp[cn],aK bj _ oM,by omega,by omega,?_,fun k hk=>?_⟩
    · have h1:=aC (xs:=ts) (i:=J-1+i) oM (((X+18446744073709551616-(c+x1*Y)%4294967296)%18446744073709551616+18446744073709551616-b)%18446744073709551616%4294967296)
      rw[hX] at h1;rw[uC vs i oM,hY,←Nat.add_assoc (J-1),Nat.pow_succ,Nat.pow_add];rw[Nat.pow_add] at h1 ba;exact zU1 (l:=(c+x1*Y)%4294967296) ba h1 oM oM
    · rw[qA oM];exact co k oM
   dsimp only;omega
  refine kX (uH (uH (kW (zH (zM (zE (mv rfl rfl (mv rfl rfl (mv rfl rfl (gv (yA rfl rfl oM oM) rfl (gv (yR (A:=[_]) (J-1+n) underlying22 sizeOf127 rfl rfl oM oM) rfl (gv (kL (A:=[_]) isAgg127 rfl oM) rfl ?_))))))))))));have bt:=uV bj (J-1+n);refine gv (wR (k:=.u32) (k':=.u64) (W:=18446744073709551616) underlying127 underlying130 rfl rfl rfl oM) rfl (mv rfl rfl (gv (lI (k:=.u64) (W:=18446744073709551616) rfl rfl rfl rfl oM) rfl (mv rfl rfl (gv (lI (k:=.u64) (W:=18446744073709551616) rfl rfl rfl rfl oM) rfl ?_))));obtain⟨d2,ep⟩:∃d,d=((ts.getD (J-1+n) 0+18446744073709551616-c)%18446744073709551616+18446744073709551616-b)%18446744073709551616:=⟨_,rfl⟩;rw[←ep];refine asg rfl rfl (zR (wU (e':=[(4,_),(9,_),(10,_),(11,_),(12,_),(13,_),(15,_),(22,_)]) e8 (zH (zM (zE (mv rfl rfl (mv rfl rfl (mv rfl rfl (gv (yA rfl rfl oM oM) rfl (mv rfl rfl (gv (gW (k:=.u64) (k':=.u32) (W:=4294967296) underlying130 underlying127 rfl rfl rfl) rfl (gv (yR (A:=[_]) (J-1+n) underlying22 sizeOf127 rfl rfl oM oM) rfl (tW sizeOf127 rfl rfl oM ?_)))))))))))));have dh:i=n:=by omega
  rw[dh,xL oM,aw] at ba;have cl:=aC (xs:=ts) (i:=J-1+n) oM (d2%4294967296);have bm:(ts.set (J-1+n) (d2%4294967296)).length=la+1:=by simp[cn]
  have ap:Fit (ts.set (J-1+n) (d2%4294967296)):=aK bj _ oM;have ce:∀k,J-1+n+1≤k→(ts.set (J-1+n) (d2%4294967296)).getD k 0=0:=fun k hk=>by rw[qA oM,co k oM];exact cf k oM
  generalize ts.set (J-1+n) (d2%4294967296)=ts2 at *;have T:val ts2+4294967296^(J-1)*(x1*V)=val us+4294967296^(J-1+n+1)*(d2/2^63):=by
   rw[Nat.pow_succ,Nat.pow_add];rw[Nat.pow_add] at cl ba;exact zYM ba cl oM
  have dd:=mY ap ce;refine zR (zH ?_);refine qI (ι:=Nat×List Nat) (fun(x2,O)=>x2<4294967296∧O.length=la+1∧Fit O∧val O+4294967296^(J-1)*(x2*V)=val us∧val (O.drop (J-1))<V) (fun(x2,O)=>[(4,H),(9,vI ↑s),(10,I),(11,ad),(12,vI ↑n),(13,vI (↑J-1)),(15,vU .u64 x2)]) (fun(x2,O)=>[.us 127 .u32 H (kS J qs),.us 127 .u32 I O]) (fun(x2,O)=>h8) ?_ ?_
  ·
   refine zM (zE (mv rfl rfl (gv (kI (k:=.u64) (s:=63) (yk:=.u64) rfl rfl rfl (by simp only[ub];omega)) rfl (gv (fF (k:=.u64) (q:=0) rfl rfl) rfl (zR (wU (e':=[(4,_),(9,_),(10,_),(11,_),(12,_),(13,_),(15,_),(211,_)]) e8 (zH ?_)))))));refine cnd (fun cb=>?_) fun cb=>?_
   ·
    have fa:1≤x1:=Nat.pos_of_ne_zero fun h0=>by
     have cd:d2/2^63=1:=by omega
     rw[h0,cd,Nat.zero_mul,Nat.mul_zero,Nat.mul_one] at T;omega
    refine zM (zE (mv rfl rfl (gv (bG (k:=.u64) (q:=1) (W:=18446744073709551616) rfl rfl rfl rfl oM oM) rfl (asg rfl rfl (zR (zH (zM (zE (asg (v:=vU .u64 0) rfl rfl (zR (zH (zM (zM ?_)))))))))))));refine zE (mv rfl rfl (gv (wQ underlying22 rfl C) rfl ?_));rw[aq];refine mv (v:=vI (0)) rfl rfl (zR (zH (wV ?_)));refine gcL (ι:=Nat×List Nat×Nat) (fun(i2,O,c2)=>(i2≤n∧O.length=la+1∧Fit O∧c2≤1∧val O+4294967296^(J-1+i2)*c2=val ts2+4294967296^(J-1)*val (vs.take i2)∧∀k,J-1+i2≤k→O.getD k 0=ts2.getD k 0,[(4,H),(9,vI ↑s),(10,I),(11,ad),(12,vI ↑n),(13,vI (↑J-1)),(15,vU .u64 (x1-1)),(18,vU .u64 c2),(214,ad),(215,vI ↑n),(216,vI ↑i2)],[.us 127 .u32 H (kS J qs),.us 127 .u32 I O],h8,n-i2)) (0,ts2,0) ?_ ?_
    · exact⟨by omega,bm,ap,by omega,by simp[val],fun _ _=>rfl⟩
    rintro⟨i2,O,c2⟩ ⟨hi2,be,ar,gg,bd,cq⟩
    refine yU ?_;refine zM (zE (gv (yN rfl rfl) rfl (zR (zH (zM ?_)))));refine cnd (fun ca=>?_) fun ca=>?_
    ·
     refine uK (zH (zM (wV (zM (zE (mv rfl rfl (gv (zP _ underlying22 sizeOf127 rfl rfl C rfl oM) rfl (gv (xH isAgg127 rfl C oM) rfl ?_))))))));have dw:=C.get32 i2;refine asg rfl rfl (asg rfl rfl (zR (zH (zM (zE (mv rfl rfl (mv rfl rfl (mv rfl rfl (mv rfl rfl (gv (yA rfl rfl oM oM) rfl (gv (yR (A:=[_]) (J-1+i2) underlying22 sizeOf127 rfl rfl oM oM) rfl (gv (kL (A:=[_]) isAgg127 rfl oM) rfl ?_))))))))))));have bt:=uV ar (J-1+i2);refine gv (wR (k:=.u32) (k':=.u64) (W:=18446744073709551616) underlying127 underlying130 rfl rfl rfl oM) rfl (mv rfl rfl (gv (wR (k:=.u32) (k':=.u64) (W:=18446744073709551616) underlying127 underlying130 rfl rfl rfl oM) rfl (gv (fW (k:=.u64) (W:=18446744073709551616) rfl rfl rfl rfl oM) rfl (gv (fW (k:=.u64) (W:=18446744073709551616) rfl rfl rfl rfl oM) rfl (asg rfl rfl (zR (wU (e':=[(4,_),(9,_),(10,_),(11,_),(12,_),(13,_),(15,_),(214,_),(215,_),(216,_),(23,_),(18,_)]) e12 (zH (zM (zE (mv rfl rfl (mv rfl rfl (mv rfl rfl ?_)))))))))))));refine gv (yA rfl rfl oM oM) rfl (mv rfl rfl (gv (gW (k:=.u64) (k':=.u32) (W:=4294967296) underlying130 underlying127 rfl rfl rfl) rfl (gv (yR (A:=[_]) (J-1+i2) underlying22 sizeOf127 rfl rfl oM oM) rfl (tW sizeOf127 rfl rfl oM (zR (zH (zE (mv rfl rfl (gv (kI (k:=.u64) (s:=32) (yk:=.u64) rfl rfl rfl (by simp only[ub];omega)) rfl (asg rfl rfl (zR (tU (wU (e':=[(4,_),(9,_),(10,_),(11,_),(12,_),(13,_),(15,_),(214,_),(215,_),(216,_),(18,_)]) ⟨rfl,rfl,rfl,rfl,rfl,rfl,rfl,rfl,rfl,rfl,rfl,trivial⟩ ?_)))))))))))));refine zH (zE (gv (yA (q:=1) rfl rfl oM oM) rfl (mv rfl rfl (zR ?_))));generalize hX:O.getD (J-1+i2) 0=X at *;generalize hY:vs.getD i2 0=Y at *;refine gqL (i2+1,O.set (J-1+i2) ((c2+(X+Y))%4294967296),(c2+(X+Y))/2^32) ?_ ?_
     ·
      refine⟨by omega,by simp[be],aK ar _ oM,by omega,?_,fun k hk=>?_⟩
      · have h1:=aC (xs:=O) (i:=J-1+i2) oM ((c2+(X+Y))%4294967296)
        rw[hX] at h1;rw[uC vs i2 oM,hY,←Nat.add_assoc (J-1),Nat.pow_succ,Nat.pow_add];rw[Nat.pow_add] at h1 bd;exact zV3 bd h1 oM
      · rw[qA oM];exact cq k oM
     omega
    refine kX (uH (uH (kW (zH (zE (mv rfl rfl (mv rfl rfl (mv rfl rfl (gv (yA rfl rfl oM oM) rfl (gv (yR (A:=[_]) (J-1+n) underlying22 sizeOf127 rfl rfl oM oM) rfl (gv (kL (A:=[_]) isAgg127 rfl oM) rfl (mv rfl rfl (gv (gW (k:=.u64) (k':=.u32) (W:=4294967296) underlying130 underlying127 rfl rfl rfl) rfl ?_)))))))))))));have bt:=uV ar (J-1+n);refine gv (zN5 (k:=.u32) (W:=4294967296) rfl rfl rfl rfl) rfl (gv (yR (A:=[_]) (J-1+n) underlying22 sizeOf127 rfl rfl oM oM) rfl (tW sizeOf127 rfl rfl oM (zR ?_)));generalize hX:O.getD (J-1+n) 0=X at *;refine zO (x1-1,O.set (J-1+n) ((X+c2%4294967296)%4294967296)) ?_ e7 rfl rfl;have df:i2=n:=by omega
    rw[df,xL oM,aw] at bd;have h1:=aC (xs:=O) (i:=J-1+n) oM ((X+c2%4294967296)%4294967296);rw[hX] at h1;have bb:Fit (O.set (J-1+n) ((X+c2%4294967296)%4294967296)):=aK ar _ oM;have dv:∀k,J-1+n+1≤k→(O.set (J-1+n) ((X+c2%4294967296)%4294967296)).getD k 0=0:=fun k hk=>by
     rw[qA oM,cq k oM];exact ce k hk
    have ho:val (O.set (J-1+n) ((X+c2%4294967296)%4294967296))+4294967296^(J-1+n+1)*((X+c2)/4294967296)=val ts2+4294967296^(J-1)*V:=by
     rw[Nat.pow_succ,Nat.pow_add];rw[Nat.pow_add] at h1 bd;exact zZ9 bd h1 oM
    obtain⟨z1,z2,z3⟩:=zNY S bb dd (mY bb dv) (b:=d2/2^63) oM T ch ho oM;exact⟨by omega,by simp[be],bb,z2,z3⟩
   refine uK ?_;refine zO (x1,ts2) ?_ e7 rfl rfl;have dr:d2/2^63=0:=by omega
   rw[dr,Nat.mul_zero,Nat.add_zero] at T;exact⟨cj,bm,ap,T,zCD S ap T cg⟩
  rintro⟨x2,O⟩ ⟨ci,be,ar,ee,ct⟩
  refine yU ?_;refine zE (mv rfl rfl (mv rfl rfl (mv rfl rfl (gv (wR (k:=.u64) (k':=.u32) (W:=4294967296) underlying130 underlying127 rfl rfl rfl oM) rfl (gv (yR (A:=[]) (J-1) underlying22 sizeOf127 rfl rfl oM (by rw[qQ];omega)) rfl (wA sizeOf127 rfl rfl (by rw[qQ];omega) (zR (tU (zH (zE (mv rfl rfl (gv (qX (q:=1) rfl rfl oM oM) rfl (asg rfl rfl ?_)))))))))))));refine zR ?_;refine qN (J-1,O,x2::qs) ?_ ?_ ⟨rfl,rfl,rfl,rfl,rfl,?_,trivial⟩ ?_ rfl
  ·
   refine⟨by omega,by simp only[lC];omega,tY.2 ⟨ci,dm⟩,be,ar,?_,ct⟩;have eJ:(4294967296:Nat)^J=4294967296^(J-1)*4294967296:=by rw[←Nat.pow_succ,Nat.succ_eq_add_one,Nat.sub_add_cancel hJ]
   rw[eJ] at am;exact zX9 am ee
  ·
   dsimp only;omega
  · exact congrArg some (congrArg vI oM)
  try dsimp only[List.nil_append,List.cons_append]
  rw[bS oM]
 refine kX (uH (uH (kW (zH (zM ?_)))));have eu:J=0:=by omega
 subst eu;rw[pT];rw[List.drop_zero] at bw;rw[Nat.pow_zero,Nat.one_mul] at am;have eh:(zB (val us)).length≤us.length:=wS S;refine zE (mv rfl rfl ?_);refine zGS (R:=fun h r=>r=gH 1 I 0 (zB (val us)).length∧Us .u32 h r (zB (val us))) (vs:=[_]) rfl rfl rfl rfl call144 ⟨rfl,trivial⟩ (fun w hw=>uP (MLe.refl _) (hw.own_us (A:=[_]) S)) ?_
 rintro ey ⟨_,du,_⟩
 subst du;refine zOV (A:=[_]) (zB (val us)).length eh ?_;rw[zB8 S];generalize gH 1 I 0 (zB (val us)).length=vr;have au:=xS (val us);have et:=zC (val us);generalize zB (val us)=Rs at *;refine asg rfl rfl (zR (zH (zM (zM (zE (mv rfl rfl (gv (gS (A:=[_]) underlying22 rfl) rfl (mv (v:=vI (0)) rfl rfl (zR (zH (wV ?_)))))))))));refine jP (ι:=Nat) (fun(k:(Nat))=>k≤Rs.length) (fun(k:(Nat))=>[(4,H),(5,vr),(9,vI ↑s),(261,vI ↑Rs.length),(262,vI ↑k)]) (fun(k:(Nat))=>[.us 127 .u32 H qs,.us 127 .u32 vr (oB s Rs k)]) (fun(k:(Nat))=>h8) (fun(k:(Nat))=>Rs.length-k) 0 ?_ e5 ?_ rfl ?_
 · exact Nat.zero_le _
 ·
  try dsimp only[List.nil_append,List.cons_append]
  exact congrArg (fun z=>[Res.us 127 .u32 H qs,Res.us 127 .u32 vr z]) (zEM s Rs)
 rintro k hk
 refine yU ?_;refine zM (zE (gv (yN rfl rfl) rfl (zR (zH (zM ?_)))));refine cnd (fun bz=>?_) fun bz=>?_
 ·
  refine uK (zH ?_);refine qI (ι:=Unit) (fun(_u:(Unit))=>True) (fun(_u:(Unit))=>[(4,H),(5,vr),(9,vI ↑s),(261,vI ↑Rs.length),(262,vI ↑k)]) (fun(_u:(Unit))=>[.us 127 .u32 H qs,.us 127 .u32 vr (oB s Rs (k+1))]) (fun(_u:(Unit))=>h8) ?_ ?_
  ·
   refine wV (zM (zE (mv rfl rfl (asg rfl rfl (zR (zH (zM (zE (mv rfl rfl (mv rfl rfl (gv (yR (A:=[_]) (k) underlying22 sizeOf127 rfl rfl oM (by rw[uF oM];omega)) rfl (gv (kL (A:=[_]) isAgg127 rfl (by rw[uF oM];omega)) rfl ?_))))))))))));rw[z4 (Nat.le_refl _)];have el:=uV au k;refine mv rfl rfl (gv (kI (k:=.u32) (s:=s) (yk:=.i64) rfl rfl rfl (by simp only[ub];omega)) rfl ?_);have fx:Rs.getD k 0/2^s<4294967296:=Nat.lt_of_le_of_lt (Nat.div_le_self _ _) el;refine gv (yR (A:=[_]) (k) underlying22 sizeOf127 rfl rfl oM (by rw[uF oM];omega)) rfl (tW sizeOf127 rfl rfl (by rw[uF oM];omega) (zR (zH (zM (zE (mv rfl rfl (gv (lP (q:=0) rfl rfl) rfl ?_)))))));refine gU 7 280 (vB (((0:Int)<↑s)∧((↑k:Int)+1<↑Rs.length))) ?_ ?_
   ·
    refine yD ((0:Int)<↑s) (fun hg=>?_) (fun hg=>?_)
    ·
     refine gT hg rfl (iH rfl rfl rfl (mv rfl rfl (iH rfl rfl rfl (gv (yA (q:=1) rfl rfl oM oM) rfl (iH rfl rfl rfl (mv rfl rfl (iH rfl rfl rfl (gv (gS (A:=[_]) underlying22 rfl) rfl ?_))))))));rw[lS,uF oM];refine iH rfl rfl rfl (gv (yN rfl rfl) rfl (gv (rT rfl rfl) rfl (zR (gqU ?_))));exact congrArg some (xN hg)
    refine gF hg rfl (aU rfl rfl rfl rfl rfl rfl (aU rfl rfl rfl rfl rfl rfl (aU rfl rfl rfl rfl rfl rfl (aU rfl rfl rfl rfl rfl rfl (aU rfl rfl rfl rfl rfl rfl (gv (rU rfl rfl) rfl (zR (gqU ?_))))))));exact congrArg some (xO hg)
   refine zR (zH ?_);refine cnd (fun bx=>?_) fun bx=>?_
   ·
    refine zK 14 _ [] [(0,.q),(1,.q),(2,.q),(3,.q),(4,.q),(5,.q),(6,.q),(7,.q),(8,.q),(9,.q),(10,.q),(11,.q),(12,.q),(13,.q),(14,.t)] yC nX (by kernel_rfl) nX (fun r hr=>hr) (uY rfl rfl rfl (uY rfl rfl rfl (w_q rfl (fun h' L' hh hR=>qP (hR _ mh1) (k) underlying22 sizeOf127 rfl rfl oM (by rw[lS,uF oM];omega)) rfl (w_q rfl (fun h' L' hh hR=>kK (hR _ mh1) isAgg127 rfl (by rw[lS,uF oM];omega)) rfl ?_))));rw[iI (by rw[uF oM];omega)];refine uY rfl rfl rfl (uY rfl rfl rfl (xK rfl (fun _ _=>yA (q:=1) rfl rfl oM oM) rfl (w_q rfl (fun h' L' hh hR=>qP (hR _ mh1) (k+1) underlying22 sizeOf127 rfl rfl oM (by rw[lS,uF oM];omega)) rfl (w_q rfl (fun h' L' hh hR=>kK (hR _ mh1) isAgg127 rfl (by rw[lS,uF oM];omega)) rfl ?_))));rw[qA oM,z4 oM];refine uY rfl rfl rfl (xK rfl (fun _ _=>qX (p:=32) rfl rfl oM oM) rfl ?_);rw[show((32:Int)-↑s)=↑(32-s) by omega];refine xK rfl (fun _ _=>kJ (k:=.u32) (s:=32-s) (yk:=.i64) (W:=4294967296) rfl rfl rfl rfl) rfl (xK rfl (fun _ _=>tF (k:=.u32) rfl rfl rfl (by simp only[ub];omega) (by simp only[ub];omega)) rfl ?_);rw[zL2 au oM oM];refine w_q rfl (fun h' L' hh hR=>qP (hR _ mh1) (k) underlying22 sizeOf127 rfl rfl oM (by rw[lS,uF oM];omega)) rfl (kV (A:=[_]) rfl (aO sizeOf127 rfl rfl (by rw[lS,uF oM];omega)) rfl (rM (tU ?_)));refine zO (()) ?_ e5 ?_ rfl
    · trivial
    try dsimp only[List.nil_append,List.cons_append]
    rw[List.set_set,dZ oM];try rfl
   refine uK (tU ?_);have bv:Rs.getD k 0/2^s=mR s Rs k:=by
    by_cases h0:s=0
    · rw[h0,zEN au oM,Nat.pow_zero,Nat.div_one]
    · exact(zEO au oM).symm
   refine zO (()) ?_ e5 ?_ rfl
   · trivial
   try dsimp only[List.nil_append,List.cons_append]
   rw[bv,dZ oM]
  rintro _u ff
  refine yU ?_;refine zE (gv (yA (q:=1) rfl rfl oM oM) rfl (mv rfl rfl (zR ?_)));refine qN (k+1) ?_ ?_ e5 rfl rfl
  · omega
  omega
 refine kX (uH (uH (kW (zH (zM (zE (mv rfl rfl (yI (by exact dm) ?_))))))));intro h9 gb hq;refine cL (ev1 rfl) call144 (fun w hs=>uP hs hq) fun ew gq fe M=>?_;replace M:=M.2;refine mv rfl rfl (yI (by exact zIZ au) ?_);intro go dk ef;refine cL (ev1 rfl) call144 (fun w hs=>uP hs ef) fun ev gn dj Z=>?_;replace Z:=Z.2;refine asg rfl rfl (asg rfl rfl (asg (v:=vI (0)) rfl rfl (zR (zH (bQ (qY rfl rfl rfl rfl ?_))))));replace M:=M.mono (dk.trans dj);have ei:k=Rs.length:=by omega
 rw[ei,zG4 au,et] at Z;obtain⟨e1,e2⟩:=zM6 (X:=val xs) (Y:=val ys) (s:=s) (u:=val us) (q:=val qs) oM (by rw[←hV,←hU];exact am) (by rw[←hV];exact bw);rw[e1] at M;rw[e2] at Z;rw[if_neg av,if_neg av];exact⟨_,_,rfl,M,Z⟩
end Go.Proofs.YtboaboflnckgoaaGreat
namespace Go.Proofs.YtboaboflnckgoaaGreat
open Bk Go Tryz
set_option linter.unusedVariables false
set_option linter.unusedSimpArgs false
set_option maxRecDepth 10000
set_option maxHeartbeats 1000000
attribute [local irreducible] GL GC GQ W OpV
theorem fE{w0:World}{h0:Mem}(hs:MLe h0 (mem w0)){v:Value}{xs:List Nat}(hv:Us .u32 h0 v xs)(hl:xs.length≤17592186044416):
 Calls Tryz.prog 91 #[v] w0 (Ret w0 h0 (fun h r=>Us .u32 h r (zB (val xs)))):=by
 refine cb1 23 v func91 hs ?_;refine tV ?_;refine gcL (ι:=Nat) (fun(k:(Nat))=>(k≤xs.length∧∀i,k≤i→xs.getD i 0=0,[(0,v),(3,vI ↑k)],[],h0,k)) xs.length ?_ ?_
 · exact⟨Nat.le_refl _,fun i hi=>by rw[List.getD_eq_getElem?_getD,List.getElem?_eq_none hi];rfl⟩
 rintro k ⟨X,I⟩
 refine yU ?_;refine go5 ?_;refine gU 8 15 (vB (((0:Int)<↑k)∧(xs.getD (k-1) 0=0))) ?_ ?_
 ·
  refine yD ((0:Int)<↑k) (fun G=>?_) (fun G=>?_)
  ·
   refine gT G rfl (go7 ?_);refine gv (zP (k-1) underlying22 sizeOf127 rfl rfl hv oM oM) rfl (go3 ?_);refine gv (gB (k:=.u32) (q:=0) rfl rfl) rfl (go2 ?_);refine gqU ?_;exact congrArg some (xN G)
  refine gF G rfl (go8 ?_);refine gqU ?_;exact congrArg some (xO G)
 refine gc2 (fun u=>?_) fun u=>?_
 ·
  refine go9 ?_;refine gqL (k-1) ?_ ?_ (he:=⟨rfl,?_,trivial⟩)
  ·
   exact⟨by omega,fun i hi=>by
    by_cases e:i=k-1
    · rw[e];exact u.2
    · exact I i oM⟩
  · have:=u.1;omega
  · exact congrArg some (congrArg vI (by have:=u.1;omega))
 refine go7 ?_;refine zF (zC4 (kd:=.u32) underlying22 wL rfl rfl) rfl rfl rfl ?_;intro O T D;obtain rfl:=D;refine go2 ?_;refine gv (iS _ underlying22 sizeOf127 rfl rfl hv.shape rfl oM) rfl ?_;have z:=hv.sub (lo:=0) (hi:=_) oM oM;refine xT (A:=[]) (jG (kd:=.u32) (bytes:=4) underlying22 wL rfl rfl rfl rfl rfl z (by simp;omega) (by simp;omega)) rfl rfl rfl ?_;intro M S C;obtain rfl:=C;rw[List.nil_append,List.drop_zero,Nat.sub_zero];refine yI (by exact gE hv.lt k) ?_;intro J H U;refine go4 ?_;refine zD rfl rfl ?_;replace hv:=hv.mono H;have e:xs.take k=zB (val xs):=zEH hv.lt X I (by
  by_cases h0:k=0
  · exact .inl h0
  · exact .inr fun J=>u ⟨by omega,J⟩)
 rw[←e];exact U
end Go.Proofs.YtboaboflnckgoaaGreat
namespace Go.Proofs.YtboaboflnckgoaaGreat
open Bk Go Tryz
set_option linter.unusedVariables false
set_option linter.unusedSimpArgs false
set_option maxRecDepth 10000
set_option maxHeartbeats 1000000
attribute [local irreducible] GL GC GQ W OpV
theorem zU0{w0:World}{h0:Mem}(hs:MLe h0 (mem w0)){v v':Value}{xs ys:List Nat}(hv:Us .u32 h0 v xs)(hv':Us .u32 h0 v' ys)(hl:xs.length≤1099511627776)(hl':ys.length≤1099511627776):
 Calls Tryz.prog 166 #[v,v'] w0 (Ret w0 h0 (fun h r=>Us .u32 h r (zB (Nat.gcd (val xs) (val ys))))):=by
 have bw:=wS hv.lt;have bv:=wS hv'.lt;obtain⟨G,hG⟩:∃G,G=Nat.gcd (val xs) (val ys):=⟨_,rfl⟩;rw[←hG];refine cb2 61 v v' func166 hs ?_;refine go8 ?_;refine cL (ev1 rfl) call144 (fun w hs=>uP hs hv) fun bs h1 bf M=>?_;replace M:=M.2;refine qV (vs:=[_]) rfl rfl rfl rfl call103 ⟨rfl,trivial⟩ (fun w hs=>pE hs M oM) ?_;intro aq h2 cg be ai;obtain rfl:=ai;refine yI (by exact xS _) ?_;intro h3 bd bi;refine go1 ?_;replace hv':=hv'.mono ((bf.trans be).trans bd);refine cL (ev1 rfl) call144 (fun w hs=>uP hs hv') fun br h4 ce J=>?_;replace J:=J.2;refine qV (vs:=[_]) rfl rfl rfl rfl call103 ⟨rfl,trivial⟩ (fun w hs=>pE hs J oM) ?_;intro ap h5 cf cd ah;obtain rfl:=ah;refine yI (by exact xS _) ?_;intro h6 cc bh;refine go6 ?_;refine gcL (ι:=Value×Nat×Value×Nat×Mem) (fun(vx,X,vy,Y,Z)=>(MLe h6 Z∧(Us .u32 Z vx (zB X)∧Us .u32 Z vy (zB Y)∧Nat.gcd X Y=G∧(zB X).length≤1099511627776∧(zB Y).length≤1099511627776),[(5,vx),(6,vy)],[],Z,Y)) (aq,val xs,ap,val ys,h6) ?_ ?_
 · exact⟨mle,bi.up,bh,hG.symm,by omega,by omega⟩
 rintro⟨vx,X,vy,Y,Z⟩ ⟨bl,⟨ha,hb,hg,bz,bc⟩⟩
 refine yU ?_;refine gc8 (fun ao=>?_) fun ao=>?_
 ·
  refine go7 ?_;have C:Y≠0:=yM.1 oM;refine cL (ev2 rfl rfl) call147 (fun w hs=>eP hs ha hb oM oM) fun bq h7 O z=>?_;obtain⟨bu,au,rfl,ak,z⟩:=z;simp only[zC] at ak z;rw[if_neg C] at z;have bb:=zN (Nat.le_of_lt (Nat.mod_lt X (Nat.pos_of_ne_zero C)));refine zAQ ?_;refine gqL (vy,Y,au,X%Y,h7) ?_ ?_
  · exact⟨mle,hb.up,z,by rw[nC];exact hg,bc,by omega⟩
  exact Nat.mod_lt _ (Nat.pos_of_ne_zero C)
 refine sL ?_;refine cnd (fun an=>?_) fun an=>?_
 ·
  have C:Y=0:=Classical.byContradiction fun az=>by have:=yM.2 az;omega
  refine go8 ?_;refine zD rfl rfl ?_;rw[C,Nat.gcd_zero_right] at hg;rw[←hg];exact ha
 have C:Y≠0:=yM.1 oM;refine go2 ?_;refine qI (ι:=Value×Nat×Value×Nat×Mem) (fun(I,U,H,T,S)=>MLe Z S∧(Us .u32 S I (zB U)∧Us .u32 S H (zB T)∧Nat.gcd U T=G∧(zB U).length≤2∧(zB T).length≤2)) (fun(I,U,H,T,S)=>[(5,I),(6,H)]) (fun(I,U,H,T,S)=>[]) (fun(I,U,H,T,S)=>S) ?_ ?_
 ·
  refine gc7 (fun am=>?_) fun am=>?_
  ·
   refine go4 ?_;refine cL (ev2 rfl rfl) call147 (fun w hs=>eP hs ha hb oM oM) fun bp h7 O u=>?_;obtain⟨bt,ar,rfl,aj,u⟩:=u;simp only[zC] at aj u;rw[if_neg C] at u;have bb:=zN (Nat.le_of_lt (Nat.mod_lt X (Nat.pos_of_ne_zero C)));refine j3 ?_;refine zO (vy,Y,ar,X%Y,h7) ?_ e2z rfl rfl;refine⟨O,?_⟩;replace hb:=hb.mono O;exact⟨hb,u,by rw[nC];exact hg,by omega,by omega⟩
  refine go1 ?_;refine zO (vx,X,vy,Y,Z) ?_ e2z rfl rfl;refine⟨MLe.refl _,?_⟩;exact⟨ha,hb,hg,by omega,by omega⟩
 rintro⟨I,U,H,T,S⟩ ⟨bk,⟨bj,ab,bg,aw,av⟩⟩
 refine yU ?_;refine go3 ?_;refine cL (ev1 rfl) call192 (fun w hs=>zII hs bj oM) fun bo h7 O ae=>?_;subst ae;rw[zC];have ay:=aH aw;refine go1 ?_;replace ab:=ab.mono O;refine cL (ev1 rfl) call192 (fun w hs=>zII hs ab oM) fun bn h8 cb ad=>?_;subst ad;rw[zC];have ax:=aH av;refine go6 ?_;refine gcL (ι:=Nat×Nat) (fun(m,n)=>(Nat.gcd m n=G∧m<18446744073709551616∧n<18446744073709551616,[(13,vU .u64 m),(14,vU .u64 n)],[],h8,n)) (U,T) ?_ ?_
 · exact⟨bg,ay,ax⟩
 rintro⟨m,n⟩ ⟨aa,hm,hn⟩
 refine yU ?_;refine go4 ?_;refine gv (fF (k:=.u64) (q:=0) rfl rfl) rfl (gc2 (fun D=>?_) fun D=>?_)
 ·
  refine go3 ?_;refine zK 6 _ [] [(0,.q),(1,.q),(2,.q),(3,.q),(4,.q),(5,.q)] yC nX (by kernel_rfl) nX (fun r hr=>hr) (go3 ?_);refine xK rfl (fun _ _=>pK (k:=.u64) rfl rfl oM) rfl (go4 ?_);refine gqL (n,m%n) ?_ ?_
  ·
   have bx:=Nat.mod_lt m (Nat.pos_of_ne_zero D);exact⟨by rw[nC];exact aa,hn,by omega⟩
  exact Nat.mod_lt _ (Nat.pos_of_ne_zero D)
 refine go8 ?_;refine cL (ev1 rfl) call167 (fun w hs=>zK4 hs oM) fun bm h9 ca ac=>(go4 ?_);refine zD rfl rfl ?_;have ba:n=0:=Classical.not_not.1 D;rw[ba,Nat.gcd_zero_right] at aa;rw[←aa];exact ac
theorem iR{w0:World}{h0:Mem}(hs:MLe h0 (mem w0)){n:Nat}(hn:n<18446744073709551616):
 Calls Tryz.prog 131 #[vU .u64 n] w0 (Ret w0 h0 (fun h r=>Us .u32 h r (zB n))):=by
 refine cb1 10 (vU .u64 n) func131 hs ?_;refine qO ?_;refine zF (zC3 (kd:=.u32) underlying22 wL rfl rfl rfl rfl) rfl rfl rfl ?_;intro J M z;obtain rfl:=z;refine yI (by intro x C;simp only[List.mem_cons,List.not_mem_nil,or_false] at C;simp only[ub];omega) ?_;intro S G H;refine cL (ev1 rfl) call91 (fun w hs=>fE hs H (by simp)) fun I O D u=>(go4 ?_);refine zD rfl rfl ?_;have e:val [n%4294967296,n/2^32%4294967296]=n:=by simp only[val];omega
 rw[e] at u;exact u
theorem nO{w0:World}{h0:Mem}(hs:MLe h0 (mem w0)){v v':Value}{X Y:Nat}(hv:Us .u32 h0 v (zB X))(hv':Us .u32 h0 v' (zB Y)):
 Calls Tryz.prog 56 #[v,v'] w0 (Ret w0 h0 (fun _ r=>r=vI (tD X Y))):=by
 have J:=zC X;have z:=zC Y;generalize T:zB X=AA at *;generalize S:zB Y=BB at *;have fA:Fit AA:=hv.lt;have Z:Fit BB:=hv'.lt;have lA:=hv.lt63;have lB:=hv'.lt63;refine cb2 41 v v' func56 hs ?_;refine qT ?_;refine gv (wQ underlying22 rfl hv') rfl (gc3 (fun I=>?_) fun I=>?_)
 ·
  refine go6 ?_;refine gv (wQ underlying22 rfl hv') rfl (gc3 (fun H=>?_) fun H=>?_)
  ·
   refine go8 ?_;refine zD rfl rfl ?_;rw[g9 (sD (by rw[T,S];omega))]
  refine go9 ?_;refine zD rfl rfl ?_;rw[t0 (sD (by rw[T,S];omega))]
 have O:AA.length=BB.length:=by omega
 refine qO ?_;refine gcL (ι:=Nat) (fun(j:(Nat))=>(j≤AA.length∧AA.drop j=BB.drop j,[(0,v),(1,v'),(5,vI (↑j-1))],[],h0,j)) AA.length ?_ ?_
 · exact⟨Nat.le_refl _,by rw[List.drop_of_length_le (Nat.le_refl _),List.drop_of_length_le oM]⟩
 rintro j ⟨U,C⟩
 refine yU ?_;refine gc7 (fun G=>?_) fun G=>?_
 ·
  refine go6 ?_;refine zK 9 _ [] [(0,.q),(1,.q),(2,.q),(3,.q),(4,.q),(5,.q),(6,.q),(7,.q),(8,.q)] yC nX (by kernel_rfl) nX (fun r M=>M) (go2 ?_);refine w_q rfl (fun h' L' hh hR=>zP (j-1) underlying22 sizeOf127 rfl rfl (hv.mono hh) oM oM) rfl (w_q rfl (fun h' L' hh hR=>xH isAgg127 rfl (hv.mono hh) oM) rfl (go2 ?_));refine w_q rfl (fun h' L' hh hR=>zP (j-1) underlying22 sizeOf127 rfl rfl (hv'.mono hh) oM oM) rfl (w_q rfl (fun h' L' hh hR=>xH isAgg127 rfl (hv'.mono hh) oM) rfl (gc3 (fun u=>?_) fun u=>?_))
  ·
   refine qO ?_;refine zD rfl rfl ?_;rw[←J,←z,g9 (zBO fA O oM U C u)]
  refine go3 ?_;refine zK 9 _ [] [(0,.q),(1,.q),(2,.q),(3,.q),(4,.q),(5,.q),(6,.q),(7,.q),(8,.q)] yC nX (by kernel_rfl) nX (fun r M=>M) (go2 ?_);refine w_q rfl (fun h' L' hh hR=>zP (j-1) underlying22 sizeOf127 rfl rfl (hv.mono hh) oM oM) rfl (w_q rfl (fun h' L' hh hR=>xH isAgg127 rfl (hv.mono hh) oM) rfl (go2 ?_));refine w_q rfl (fun h' L' hh hR=>zP (j-1) underlying22 sizeOf127 rfl rfl (hv'.mono hh) oM oM) rfl (w_q rfl (fun h' L' hh hR=>xH isAgg127 rfl (hv'.mono hh) oM) rfl (gc3 (fun D=>?_) fun D=>?_))
  ·
   refine qT ?_;refine zD rfl rfl ?_;rw[←J,←z,t0 (zBO Z O.symm oM oM C.symm oM)]
  refine go8 ?_;refine gqL (j-1) ?_ ?_ (he:=⟨rfl,rfl,?_,trivial⟩)
  ·
   refine⟨by omega,?_⟩;rw[gZ AA (j-1) oM,gZ BB (j-1) oM];have e:j-1+1=j:=by omega
   rw[e,C,Classical.not_not.1 (show ¬¬AA.getD (j-1) 0=BB.getD (j-1) 0 by omega)]
  · omega
  · exact congrArg some (congrArg vI oM)
 refine qT ?_;refine zD rfl rfl ?_;have h0:j=0:=by omega
 subst h0;simp only[List.drop_zero] at C;rw[←J,←z,C,zM8]
theorem zQM{w0:World}{h0:Mem}(hs:MLe h0 (mem w0)){v:Value}{X:Nat}(hv:Us .u32 h0 v (zB X))(hl:(zB X).length≤1099511627776):
 Calls Tryz.prog 139 #[v] w0 (Ret w0 h0 (fun _ r=>r=vI ↑(xZ X))):=by
 refine cb1 25 v func139 hs ?_;refine sL ?_;refine cnd (fun I=>?_) fun I=>?_
 ·
  refine go7 ?_;refine zD rfl rfl ?_;have h0:X=0:=Classical.byContradiction fun H=>by have:=yM.2 H;omega
  rw[h0];rfl
 have C:0<(zB X).length:=by omega
 have O:=zAY (xS X) (k:=(zB X).length-1) oM (tL C);rw[zC] at O;refine go7 ?_;refine gv (bH (p:=32) rfl rfl oM oM) rfl (uQ ?_);refine gv (zP ((zB X).length-1) underlying22 sizeOf127 rfl rfl hv oM oM) rfl (go1 ?_);have z:=hv.get32 ((zB X).length-1);refine go4 ?_;refine gcL (ι:=Nat×Nat) (fun(c,x)=>(x<4294967296∧xZ ((zB X).getD ((zB X).length-1) 0)=c+xZ x∧c≤32,[(3,vI (32*(↑(zB X).length-1)+↑c)),(4,vU .u32 x)],[],h0,x)) (0,(zB X).getD ((zB X).length-1) 0) ?_ ?_ (he:=⟨congrArg some (congrArg vI oM),rfl,trivial⟩)
 · exact⟨z,by omega,by omega⟩
 rintro⟨c,x⟩ ⟨T,D,J⟩
 refine yU ?_;have M:=bW (n:=(zB X).getD ((zB X).length-1) 0) (k:=32) z;refine go4 ?_;refine gv (fF (k:=.u32) (q:=0) rfl rfl) rfl (gc2 (fun u=>?_) fun u=>?_)
 ·
  refine sL ?_;refine gv (kI (k:=.u32) (s:=1) (yk:=.u64) rfl rfl rfl (by simp only[ub];omega)) rfl (go2 ?_);refine gqL (c+1,x/2^1) ?_ ?_ (he:=⟨congrArg some (congrArg vI oM),rfl,trivial⟩)
  ·
   have S:=zLW u;exact⟨by omega,by rw[D,S,show x/2^1=x/2 from rfl];omega,by omega⟩
  omega
 refine qO ?_;refine zD rfl rfl ?_;have G:x=0:=Classical.not_not.1 u;rw[G,zDU] at D;exact congrArg vI oM
end Go.Proofs.YtboaboflnckgoaaGreat
namespace Go.Proofs.YtboaboflnckgoaaGreat
open Bk Go Tryz
set_option linter.unusedVariables false
set_option linter.unusedSimpArgs false
set_option maxRecDepth 10000
set_option maxHeartbeats 1000000
attribute [local irreducible] GL GC GQ W OpV
theorem zUF{w0:World}{h0:Mem}(hs:MLe h0 (mem w0)){v v':Value}{X Y:Nat}(hv:Us .u32 h0 v (zB X))(hv':Us .u32 h0 v' (zB Y))(hl:(zB X).length≤1099511627776)(hl':(zB Y).length≤1099511627776):
 Calls Tryz.prog 84 #[v,v'] w0 (Ret w0 h0 (fun h r=>Us .u32 h r (zB (X+Y)))):=by
 have au:=zN (Nat.le_add_right X Y);have ar:=zN (Nat.le_add_left Y X);have aq:=uD X Y;refine cb2 54 v v' func84 hs ?_;refine go7 ?_;refine mD (tH (v:=.slice none 0 0) rfl) rfl rfl rfl (zAR (E:=127) (k:=.u32) (go4 ?_));refine asg (v:=vU .u64 0) rfl rfl (go9 ?_);refine gcL (ι:=Value×List Nat×Nat×Mem) (fun(J,u,c,O)=>(MLe h0 O∧(u.length≤(zB (X+Y)).length∧Fit u∧c≤1∧val u+4294967296^u.length*c=val ((zB X).take u.length)+val ((zB Y).take u.length)),[(0,v),(1,v'),(5,J),(6,vU .u64 c),(7,vI ↑u.length)],[.us 127 .u32 J u],O,(zB (X+Y)).length-u.length)) (.slice none 0 0,[],0,h0) ?_ ?_
 · exact⟨mle,by simp,fun x hx=>by simp at hx,by omega,by simp[val]⟩
 rintro⟨J,u,c,O⟩ ⟨D,⟨ad,M,av,I⟩⟩
 refine yU ?_;replace hv:=hv.mono D;replace hv':=hv'.mono D;have ap:=hv.get32 u.length;have ao:=hv'.get32 u.length;refine go7 ?_;refine gU 6 17 (vB (((↑u.length:Int)<↑(zB X).length)∨((↑u.length:Int)<↑(zB Y).length))) ?_ ?_
 ·
  refine yD ((↑u.length:Int)<↑(zB X).length) (fun G=>?_) (fun G=>?_)
  ·
   refine gT G rfl (go6 ?_);refine gqU ?_;exact congrArg some (vZ G)
  refine gF G rfl (go5 ?_);refine gv (wQ underlying22 rfl hv') rfl (go4 ?_);refine gqU ?_;exact congrArg some (uA G)
 refine gU 4 21 (vB (((↑u.length:Int)<↑(zB X).length∨(↑u.length:Int)<↑(zB Y).length)∨(c≠0))) ?_ ?_
 ·
  refine yD ((↑u.length:Int)<↑(zB X).length∨(↑u.length:Int)<↑(zB Y).length) (fun G=>?_) (fun G=>?_)
  ·
   refine gT G rfl (go4 ?_);refine gqU ?_;exact congrArg some (vZ G)
  refine gF G rfl (go3 ?_);refine gv (fF (k:=.u64) (q:=0) rfl rfl) rfl (go2 ?_);refine gqU ?_;exact congrArg some (uA G)
 refine gc2 (fun C=>?_) fun C=>?_
 ·
  refine go4 ?_;refine qI (ι:=Unit) (fun(H:(Unit))=>True) (fun(H:(Unit))=>[(0,v),(1,v'),(5,J),(6,vU .u64 (c+(zB X).getD u.length 0)),(7,vI ↑u.length)]) (fun(H:(Unit))=>[.us 127 .u32 J u]) (fun(H:(Unit))=>O) ?_ ?_
  ·
   refine gc8 (fun ab=>?_) fun ab=>?_
   ·
    refine go4 ?_;refine gv (zP (u.length) underlying22 sizeOf127 rfl rfl hv oM oM) rfl (go5 ?_);refine zO (()) ?_ e5 rfl rfl
    trivial
   refine go1 ?_;refine zO (()) ?_ ⟨rfl,rfl,rfl,?_,rfl,trivial⟩ rfl rfl
   · trivial
   · exact congrArg some (congrArg (vU .u64) (by rw[tB (xs:=zB X) oM];omega))
  rintro H Z
  refine yU ?_;refine qI (ι:=Unit) (fun(H:(Unit))=>True) (fun(H:(Unit))=>[(0,v),(1,v'),(5,J),(6,vU .u64 (c+(zB X).getD u.length 0+(zB Y).getD u.length 0)),(7,vI ↑u.length)]) (fun(H:(Unit))=>[.us 127 .u32 J u]) (fun(H:(Unit))=>O) ?_ ?_
  ·
   refine go4 ?_;refine gv (wQ underlying22 rfl hv') rfl (gc3 (fun aa=>?_) fun aa=>?_)
   ·
    refine go4 ?_;refine gv (zP (u.length) underlying22 sizeOf127 rfl rfl hv' oM oM) rfl (gv (xH isAgg127 rfl hv' oM) rfl (go4 ?_));refine zO (()) ?_ e5 rfl rfl
    trivial
   refine go1 ?_;refine zO (()) ?_ ⟨rfl,rfl,rfl,?_,rfl,trivial⟩ rfl rfl
   · trivial
   · exact congrArg some (congrArg (vU .u64) (by rw[tB (xs:=zB Y) oM];omega))
  rintro H Z
  refine yU ?_;refine go5 ?_;refine zF (kQ (kd:=.u32) underlying22 wL rfl rfl rfl) rfl rfl rfl ?_;intro ak an T;obtain rfl:=T;refine yI (by intro z hz;simp only[List.mem_singleton] at hz;subst hz;simp only[ub];omega) ?_;intro h1 U ah;refine xT (A:=[]) (jG (kd:=.u32) (bytes:=4) underlying22 wL rfl rfl rfl rfl rfl ah (by simp only[List.length_singleton];omega) (by simp only[List.length_singleton];omega)) rfl rfl rfl ?_;intro ac am S;obtain rfl:=S;refine j3 ?_;generalize aj:(zB X).getD u.length 0=p at *;generalize ai:(zB Y).getD u.length 0=q at *;have ae:u.length<(zB (X+Y)).length:=by
   rcases C with(h|h)|h
   · omega
   · omega
   · by_cases h1:u.length<(zB X).length
     · omega
     · by_cases h2:u.length<(zB Y).length
       · omega
       · rw[xL oM,xL oM,zC,zC] at I
         refine q9 ?_;have:=Nat.le_mul_of_pos_right (4294967296^u.length) (Nat.pos_of_ne_zero h);omega
  refine gqL (ac,u++[(c+p+q)%4294967296],(c+p+q)/2^32,h1) ?_ ?_ (he:=⟨rfl,rfl,rfl,rfl,congrArg some (congrArg vI (by simp)),trivial⟩)
  ·
   refine⟨(D.trans U),?_⟩;refine⟨by simp;omega,wZ M (cR oM),by omega,?_⟩;rw[lAz,List.length_singleton,vK,vK,aj,ai,tP,Nat.pow_succ];have e:=Nat.div_add_mod (c+p+q) 4294967296;rw[show(2:Nat)^32=4294967296 from rfl];generalize (c+p+q)/4294967296=s at *;generalize (c+p+q)%4294967296=r at *;grind
  simp;omega
 refine go8 ?_;refine yI (by exact M) ?_;intro h1 U ho;refine go4 ?_;refine zD rfl rfl ?_;have h1:¬u.length<(zB X).length:=fun h=>C (.inl (.inl oM));have h2:¬u.length<(zB Y).length:=fun h=>C (.inl (.inr oM));have h3:c=0:=Classical.byContradiction fun h=>C (.inr h);rw[xL oM,xL oM,zC,zC,h3] at I;have e:val u=X+Y:=by omega
 rw[←e,zIR M (by rw[e];exact ad)];exact ho
theorem zAA{w0:World}{h0:Mem}(hs:MLe h0 (mem w0)){v v':Value}{X Y:Nat}(hv:Us .u32 h0 v (zB X))(hv':Us .u32 h0 v' (zB Y))(hle:Y≤X)(hl:(zB X).length≤1099511627776):
 Calls Tryz.prog 130 #[v,v'] w0 (Ret w0 h0 (fun h r=>Us .u32 h r (zB (X-Y)))):=by
 have ah:=zN hle;refine cb2 50 v v' func130 hs ?_;refine go9 ?_;refine qH (kd:=.u32) (by':=4) _ underlying22 wL rfl rfl rfl rfl rfl rfl rfl oM oM rfl ?_;intro z;refine go5 ?_;refine asg (v:=vU .u64 0) rfl rfl (go9 ?_);refine jP (ι:=List Nat×Nat) (fun(u,c)=>u.length≤(zB X).length∧Fit u∧c≤1∧val u+val ((zB Y).take u.length)=val ((zB X).take u.length)+4294967296^u.length*c) (fun(u,c)=>[(0,v),(1,v'),(5,z),(6,vU .u64 c),(7,vI ↑u.length)]) (fun(u,c)=>[.us 127 .u32 z (fM u (zB X).length)]) (fun(u,c)=>h0) (fun(u,c)=>(zB X).length-u.length) ([],0) ?_ e5 rfl rfl ?_
 · exact⟨by simp,fun x hx=>by simp at hx,by omega,by simp[val]⟩
 rintro⟨u,c⟩ ⟨ad,D,an,G⟩
 refine yU ?_;have ac:=hv.get32 u.length;have ab:=hv'.get32 u.length;refine gc9 (fun J=>?_) fun J=>?_
 ·
  refine uQ ?_;refine qI (ι:=Unit) (fun(M:(Unit))=>True) (fun(M:(Unit))=>[(0,v),(1,v'),(5,z),(7,vI ↑u.length),(8,vU .u64 (c+(zB Y).getD u.length 0))]) (fun(M:(Unit))=>[.us 127 .u32 z (fM u (zB X).length)]) (fun(M:(Unit))=>h0) ?_ ?_
  ·
   refine go4 ?_;refine gv (wQ underlying22 rfl hv') rfl (gc3 (fun I=>?_) fun I=>?_)
   ·
    refine go4 ?_;refine gv (zP (u.length) underlying22 sizeOf127 rfl rfl hv' oM oM) rfl (gv (xH isAgg127 rfl hv' oM) rfl (go4 ?_));refine zO (()) ?_ e5 rfl rfl
    trivial
   refine go1 ?_;refine zO (()) ?_ ⟨rfl,rfl,rfl,rfl,?_,trivial⟩ rfl rfl
   · trivial
   · exact congrArg some (congrArg (vU .u64) (by rw[tB (xs:=zB Y) oM];omega))
  rintro M Z
  refine yU ?_;refine go4 ?_;refine gv (zP (u.length) underlying22 sizeOf127 rfl rfl hv oM oM) rfl (go7 ?_);refine asg (v:=vU .u64 0) rfl rfl (go2 ?_);refine qI (ι:=Nat) (fun(d:(Nat))=>d≤1∧c+(zB Y).getD u.length 0≤(zB X).getD u.length 0+4294967296*d∧(zB X).getD u.length 0+4294967296*d<c+(zB Y).getD u.length 0+4294967296) (fun(d:(Nat))=>[(0,v),(1,v'),(5,z),(6,vU .u64 d),(7,vI ↑u.length),(8,vU .u64 (c+(zB Y).getD u.length 0)),(9,vU .u64 ((zB X).getD u.length 0+4294967296*d))]) (fun(d:(Nat))=>[.us 127 .u32 z (fM u (zB X).length)]) (fun(d:(Nat))=>h0) ?_ ?_
  ·
   refine gc7 (fun H=>?_) fun H=>?_
   ·
    refine go3 ?_;refine gv (fW (k:=.u64) (q:=4294967296) (W:=18446744073709551616) rfl rfl rfl rfl oM) rfl (go4 ?_);refine asg (v:=vU .u64 1) rfl rfl (go1 ?_);refine zO (1) ?_ e7 rfl rfl;exact⟨by omega,by omega,by omega⟩
   refine go1 ?_;refine zO (0) ?_ e7 rfl rfl;exact⟨by omega,by omega,by omega⟩
  rintro d ⟨O,am,ak⟩
  refine yU ?_;refine go5 ?_;refine gv (bG (k:=.u64) (W:=18446744073709551616) rfl rfl rfl rfl oM oM) rfl (gv (wR (k:=.u64) (k':=.u32) (W:=4294967296) underlying130 underlying127 rfl rfl rfl oM) rfl (gv (yR (A:=[]) (u.length) underlying22 sizeOf127 rfl rfl oM (by rw[vM oM];omega)) rfl (wA sizeOf127 rfl rfl (by rw[vM oM];omega) (go8 ?_))));generalize T:(zB X).getD u.length 0=p at *;generalize S:(zB Y).getD u.length 0=q at *;refine qN (u++[p+4294967296*d-(c+q)],d) ?_ ?_ ⟨rfl,rfl,rfl,rfl,?_,trivial⟩ ?_ rfl
  ·
   refine⟨by simp;omega,wZ D (cR oM),O,?_⟩;rw[lAz,List.length_singleton,vK,vK,T,S,tP,Nat.pow_succ];have e:p+4294967296*d-(c+q)+c+q=p+4294967296*d:=by omega
   generalize p+4294967296*d-(c+q)=r at *;grind
  ·
   dsimp only;simp;omega
  · exact congrArg some (congrArg vI (by simp))
  try dsimp only[List.nil_append,List.cons_append]
  rw[sM oM]
 refine go8 ?_;have U:u.length=(zB X).length:=by omega
 rw[pS U];refine yI (by exact D) ?_;intro h1 aj ho;refine cL (ev1 rfl) call91 (fun w hs=>fE hs ho oM) fun aa h2 ai C=>(go4 ?_);refine zD rfl rfl ?_;have U:u.length=(zB X).length:=by omega
 rw[xL oM,xL oM,zC,zC] at G;have h1:=jZ D;have h2:c=0:=Classical.byContradiction fun ae=>by
  have:c=1:=by omega
  subst this;omega
 subst h2;have e:val u=X-Y:=by omega
 rw[e] at C;exact C
theorem zL7{w0:World}{h0:Mem}(hs:MLe h0 (mem w0)){v v':Value}{X Y:Nat}(hv:Us .u32 h0 v (zB X))(hv':Us .u32 h0 v' (zB Y))(hl:(zB X).length≤1099511627776):
 Calls Tryz.prog 85 #[v,v'] w0 (Ret w0 h0 (fun h r=>∃u,r=.tuple #[u,vI (if X<Y then 7 else 0)]∧Us .u32 h u (zB (X-Y)))):=by
 refine cb2 13 v v' func85 hs ?_;refine qT ?_;refine cL (ev2 rfl rfl) call56 (fun w hs=>nO hs hv hv') fun S U G H=>?_;subst H;refine gc3 (fun z=>?_) fun z=>?_
 ·
  have D:=gG.1 z;refine go8 ?_;refine vS rfl rfl rfl ?_;rw[if_pos D,Nat.sub_eq_zero_of_le (Nat.le_of_lt D),yS];exact⟨_,rfl,Us.nil _ _⟩
 have M:Y≤X:=Nat.le_of_not_lt fun O=>z (gG.2 O);refine go6 ?_;replace hv:=hv.mono G;replace hv':=hv'.mono G;refine cL (ev2 rfl rfl) call130 (fun w hs=>zAA hs hv hv' oM oM) fun I T J C=>(go5 ?_);refine vS rfl rfl rfl ?_;rw[if_neg oM];exact⟨_,rfl,C⟩
theorem rX{w0:World}{h0:Mem}(hs:MLe h0 (mem w0)){v v':Value}{xs ys:List Nat}(hv:Us .u32 h0 v xs)(hv':Us .u32 h0 v' ys)(hl:xs.length≤1099511627776)(hl':ys.length≤1099511627776):
 Calls Tryz.prog 47 #[v,v'] w0 (Ret w0 h0 (fun h r=>Us .u32 h r (zB (val xs*val ys)))):=by
 have ak:Fit xs:=hv.lt;have aj:Fit ys:=hv'.lt;refine cb2 67 v v' func47 hs ?_;refine uQ ?_;refine gv (wQ underlying22 rfl hv') rfl (go1 ?_);refine qH (kd:=.u32) (by':=4) (xs.length+ys.length) underlying22 wL rfl rfl rfl rfl rfl oM oM oM oM rfl ?_;intro z;refine uQ ?_;refine gcL (ι:=Nat×List Nat) (fun(k,C)=>(k≤xs.length∧C.length=xs.length+ys.length∧Fit C∧val C=val (xs.take k)*val ys∧∀i,k+ys.length≤i→C.getD i 0=0,[(0,v),(1,v'),(5,z),(6,vI ↑k)],[.us 127 .u32 z C],h0,xs.length-k)) (0,List.replicate (xs.length+ys.length) 0) ?_ ?_
 · exact⟨Nat.zero_le _,by simp,qB _,by rw[fI];simp[val],fun i _=>oY _ _⟩
 rintro⟨k,C⟩ ⟨hk,X,O,I,hz⟩
 refine yU ?_;refine gc9 (fun T=>?_) fun T=>?_
 ·
  refine go6 ?_;refine asg (v:=vU .u64 0) rfl rfl (go9 ?_);refine gcL (ι:=Nat×List Nat×Nat) (fun(j,u,c)=>(j≤ys.length∧u.length=xs.length+ys.length∧Fit u∧c<4294967296∧val u+4294967296^(k+j)*c=val C+4294967296^k*(xs.getD k 0*val (ys.take j))∧∀i,k+ys.length≤i→u.getD i 0=0,[(0,v),(1,v'),(5,z),(6,vI ↑k),(7,vU .u64 c),(8,vI ↑j)],[.us 127 .u32 z u],h0,ys.length-j)) (0,C,0) ?_ ?_
  · exact⟨Nat.zero_le _,X,O,by omega,by simp[val],hz⟩
  rintro⟨j,u,c⟩ ⟨Z,M,H,Y,J,G⟩
  refine yU ?_;have ae:=hv.get32 k;have ad:=hv'.get32 j;have ac:=uV H (k+j);have ab:xs.getD k 0*ys.getD j 0≤4294967295*4294967295:=Nat.mul_le_mul oM oM;refine go5 ?_;refine gv (wQ underlying22 rfl hv') rfl (gc3 (fun S=>?_) fun S=>?_)
  ·
   refine go5 ?_;refine zK 22 _ [] [(0,.q),(1,.q),(2,.q),(3,.q),(4,.q),(5,.q),(6,.q),(7,.q),(8,.q),(9,.q),(10,.q),(11,.q),(12,.q),(13,.q),(14,.q),(15,.q),(16,.q),(17,.q),(18,.q),(19,.q),(20,.q),(21,.q)] yC nX (by kernel_rfl) nX (fun r hr=>hr) (go3 ?_);refine w_q rfl (fun h' L' hh hR=>zP (k) underlying22 sizeOf127 rfl rfl (hv.mono hh) oM oM) rfl (w_q rfl (fun h' L' hh hR=>xH isAgg127 rfl (hv.mono hh) oM) rfl (go3 ?_));refine w_q rfl (fun h' L' hh hR=>zP (j) underlying22 sizeOf127 rfl rfl (hv'.mono hh) oM oM) rfl (w_q rfl (fun h' L' hh hR=>xH isAgg127 rfl (hv'.mono hh) oM) rfl (go6 ?_));refine w_q rfl (fun h' L' hh hR=>qP (hR _ mh0) (k+j) underlying22 sizeOf127 rfl rfl oM oM) rfl (w_q rfl (fun h' L' hh hR=>kK (hR _ mh0) isAgg127 rfl oM) rfl (tV ?_));refine gv (yR (A:=[]) (k+j) underlying22 sizeOf127 rfl rfl oM oM) rfl (wA sizeOf127 rfl rfl oM (tV ?_));refine gqL (j+1,u.set (k+j) ((c+(xs.getD k 0*ys.getD j 0+u.getD (k+j) 0))%4294967296),(c+(xs.getD k 0*ys.getD j 0+u.getD (k+j) 0))/2^32) ?_ ?_
   ·
    refine⟨by omega,by simp[M],aK H _ oM,by omega,?_,fun i hi=>?_⟩
    · have U:=aC (xs:=u) (i:=k+j) oM ((c+(xs.getD k 0*ys.getD j 0+u.getD (k+j) 0))%4294967296)
      have e:=Nat.div_add_mod (c+(xs.getD k 0*ys.getD j 0+u.getD (k+j) 0)) 4294967296;have e2:(2:Nat)^32=4294967296:=rfl;rw[uC ys j oM,e2];have ep:(4294967296:Nat)^(k+(j+1))=4294967296^k*4294967296^j*4294967296:=by rw[←Nat.add_assoc,Nat.pow_succ,Nat.pow_add]
      rw[ep];rw[Nat.pow_add] at U J;generalize (c+(xs.getD k 0*ys.getD j 0+u.getD (k+j) 0))/4294967296=q at *;generalize (c+(xs.getD k 0*ys.getD j 0+u.getD (k+j) 0))%4294967296=r at *;grind
    · rw[qA oM];exact G i hi
   omega
  refine go9 ?_;refine gv (wQ underlying22 rfl hv') rfl (go3 ?_);refine gv (yR (A:=[]) (k+ys.length) underlying22 sizeOf127 rfl rfl oM oM) rfl (wA sizeOf127 rfl rfl oM (go8 ?_));refine gqL (k+1,u.set (k+ys.length) (c%4294967296)) ?_ ?_
  ·
   have Z:j=ys.length:=by omega
   subst Z;refine⟨by omega,by simp[M],aK H _ oM,?_,fun i hi=>?_⟩
   · have U:=aC (xs:=u) (i:=k+ys.length) oM (c%4294967296)
     rw[G _ (Nat.le_refl _)] at U;rw[xL (Nat.le_refl _)] at J;rw[Nat.mod_eq_of_lt Y] at U ⊢;rw[uC xs k oM];grind
   · rw[qA oM];exact G i oM
  omega
 refine go8 ?_;refine yI (by exact O) ?_;intro U ai ho;refine cL (ev1 rfl) call91 (fun w hs=>fE hs ho oM) fun aa h2 ah D=>(go4 ?_);refine zD rfl rfl ?_;rw[I,xL oM] at D;exact D
theorem zN0{w0:World}{h0:Mem}(hs:MLe h0 (mem w0)){v:Value}{X d:Nat}(hv:Us .u32 h0 v (zB X))(hd:d<4294967296)(hl:(zB X).length≤1099511627776):
 Calls Tryz.prog 142 #[v,vU .u32 d] w0 (Ret w0 h0 (fun h r=>Us .u32 h r (zB (X*d)))):=by
 refine cb2 10 v (vU .u32 d) func142 hs ?_;refine uQ ?_;refine cL (ev1 rfl) call131 (fun w hs=>iR hs oM) fun I M C z=>?_;have G:=kD (n:=d) oM;replace hv:=hv.mono C;refine cL (ev2 rfl rfl) call47 (fun w hs=>rX hs hv z oM oM) fun H J D u=>?_;simp only[zC] at u;refine go4 ?_;refine zD rfl rfl ?_;exact u
end Go.Proofs.YtboaboflnckgoaaGreat
namespace Go.Proofs.YtboaboflnckgoaaGreat
open Bk Go Tryz
set_option linter.unusedVariables false
set_option linter.unusedSimpArgs false
set_option maxRecDepth 10000
set_option maxHeartbeats 1000000
attribute [local irreducible] GL GC GQ W OpV
end Go.Proofs.YtboaboflnckgoaaGreat
namespace Go.Proofs.YtboaboflnckgoaaGreat
open Bk Go Tryz
set_option linter.unusedVariables false
set_option linter.unusedSimpArgs false
set_option maxRecDepth 10000
set_option maxHeartbeats 1000000
attribute [local irreducible] GL GC GQ W OpV
theorem zCI{w0:World}{h0:Mem}(hs:MLe h0 (mem w0)){v:Value}{xs:List Nat}{b:Nat}(hv:Us .u32 h0 v xs)(hb:0<b)(hb':b<4294967296)(hl:xs.length≤1099511627776):
 Calls Tryz.prog 138 #[v,vU .u32 b] w0 (Ret w0 h0 (fun h r=>∃u,r=.tuple #[u,vU .u32 (val xs%b)]∧Us .u32 h u (zB (val xs/b)))):=by
 have hf:Fit xs:=hv.lt;refine cb2 43 v (vU .u32 b) func138 hs ?_;refine go3 ?_;refine asg (v:=vU .u32 0) rfl rfl (go6 ?_);refine qH (kd:=.u32) (by':=4) _ underlying22 wL rfl rfl rfl rfl rfl rfl rfl oM oM rfl ?_;intro G;refine go5 ?_;refine asg (v:=vU .u64 0) rfl rfl (qO ?_);refine jP (ι:=Nat×List Nat×Nat) (fun(j,D,r)=>j≤xs.length∧D.length=xs.length-j∧Fit D∧r<b∧val (xs.drop j)=b*val D+r) (fun(j,D,r)=>[(0,v),(1,vU .u32 b),(6,G),(7,vU .u64 r),(8,vI (↑j-1))]) (fun(j,D,r)=>[.us 127 .u32 G (kS j D)]) (fun(j,D,r)=>h0) (fun(j,D,r)=>j) (xs.length,[],0) ?_ e5 ?_ rfl ?_
 · exact⟨Nat.le_refl _,by simp,fun x X=>by simp at X,hb,by rw[List.drop_of_length_le (Nat.le_refl _)];rfl⟩
 ·
  try dsimp only[List.nil_append,List.cons_append]
  exact congrArg (fun z=>[Res.us 127 .u32 G z]) (bT _)
 rintro⟨j,D,r⟩ ⟨hj,Y,I,O,C⟩
 refine yU ?_;refine gc7 (fun J=>?_) fun J=>?_
 ·
  refine go7 ?_;refine gv (kJ (k:=.u64) (s:=32) (yk:=.u64) (W:=18446744073709551616) rfl rfl rfl rfl) rfl (go2 ?_);refine gv (zP (j-1) underlying22 sizeOf127 rfl rfl hv oM oM) rfl (go1 ?_);have M:=hv.get32 (j-1);refine go1 ?_;refine gv (tF (k:=.u64) rfl rfl rfl (by simp only[ub];omega) (by simp only[ub];omega)) rfl ?_;rw[rA oM M];generalize T:r*4294967296+xs.getD (j-1) 0=t at *;have Z:t/b<4294967296:=Nat.div_lt_of_lt_mul (by rw[←T];have h1:(r+1)*4294967296≤b*4294967296:=Nat.mul_le_mul_right _ O;omega);refine uQ ?_;refine gv (pL (k:=.u64) (W:=18446744073709551616) rfl rfl rfl rfl oM oM) rfl (gv (wR (k:=.u64) (k':=.u32) (W:=4294967296) underlying130 underlying127 rfl rfl rfl oM) rfl (gv (yR (A:=[]) (j-1) underlying22 sizeOf127 rfl rfl oM (by rw[qQ];omega)) rfl (wA sizeOf127 rfl rfl (by rw[qQ];omega) (go6 ?_))));refine gv (pK (k:=.u64) rfl rfl oM) rfl (go9 ?_);refine qN (j-1,t/b::D,t%b) ?_ ?_ ⟨rfl,rfl,rfl,rfl,?_,trivial⟩ ?_ rfl
  ·
   refine⟨by omega,by simp only[lC];omega,tY.2 ⟨Z,I⟩,Nat.mod_lt _ hb,?_⟩;rw[jI xs (j-1) oM,show j-1+1=j by omega,val];exact zCA C T.symm rfl rfl
  ·
   dsimp only;omega
  · exact congrArg some (congrArg vI oM)
  try dsimp only[List.nil_append,List.cons_append]
  rw[bS oM]
 refine go8 ?_;have S:j=0:=by omega
 subst S;rw[pT];refine yI (by exact I) ?_;intro h1 ab ho;refine cL (ev1 rfl) call91 (fun w hs=>fE hs ho oM) fun U h2 aa H=>(go1 ?_);refine gv (wR (k:=.u64) (k':=.u32) (W:=4294967296) underlying130 underlying127 rfl rfl rfl oM) rfl (go5 ?_);refine vS rfl rfl rfl ?_;simp only[List.drop_zero] at C;have e1:val xs/b=val D:=by rw[C,Nat.mul_add_div hb,Nat.div_eq_of_lt O];omega
 have e2:val xs%b=r:=by rw[C,Nat.mul_add_mod,Nat.mod_eq_of_lt O]
 rw[e1,e2];exact⟨_,rfl,H⟩
theorem zCH{w0:World}{h0:Mem}(hs:MLe h0 (mem w0)){v:Value}{X:Nat}(hv:Us .u32 h0 v (zB X))(hl:(zB X).length≤1099511627776):
 Calls Tryz.prog 197 #[v] w0 (Ret w0 h0 (fun _ r=>r=.string (uT (txt X)))):=by
 have an:=zJC (xS X);rw[zC] at an;refine cb1 65 v func197 hs ?_;refine sL ?_;refine cnd (fun ap=>?_) fun ap=>?_
 ·
  have be:(zB X).length=0:=by omega
  refine go7 ?_;refine zD rfl rfl ?_;have e:X=0:=Classical.byContradiction fun O=>by have:=yM.2 O;omega
  rw[e];rfl
 have bg:(zB X).length≠0:=by omega
 refine go4 ?_;refine mD (tH (v:=.slice none 0 0) rfl) rfl rfl rfl (zAR (E:=5) (k:=.u8) (go4 ?_));refine jP (ι:=Value×Nat×Value×List Nat×Mem) (fun(Z,n,M,ds,G)=>MLe h0 G∧(Us .u32 G Z (zB n)∧n≤X∧ds++eW n=eW (X))) (fun(Z,n,M,ds,G)=>[(0,Z),(3,M)]) (fun(Z,n,M,ds,G)=>[.us 5 .u8 M ds]) (fun(Z,n,M,ds,G)=>G) (fun(Z,n,M,ds,G)=>n) (v,X,.slice none 0 0,[],h0) ?_ e2z rfl rfl ?_
 ·
  refine⟨MLe.refl _,?_⟩;exact⟨hv,Nat.le_refl _,rfl⟩
 rintro⟨Z,n,M,ds,G⟩ ⟨ac,⟨ha,aj,T⟩⟩
 refine yU ?_;have ax:(zB n).length≤(zB X).length:=zN aj;refine gc8 (fun Y=>?_) fun Y=>?_
 ·
  refine go6 ?_;refine cL (vs:=[_,vU .u32 1000000000]) e2z call138 (fun w hs=>zCI hs ha oM oM oM) fun bb h1 ak ai=>?_;obtain⟨ad,rfl,C⟩:=ai;rw[zC] at C ⊢;refine tV ?_;refine jP (ι:=Nat×Nat×Value×List Nat×Mem) (fun(i,x,H,u,I)=>MLe h1 I∧(i≤9∧x<10^(9-i)∧u++eW (x+10^(9-i)*(n/1000000000))=eW (X))) (fun(i,x,H,u,I)=>[(3,H),(4,ad),(5,vU .u32 x),(6,vI ↑i)]) (fun(i,x,H,u,I)=>[.us 5 .u8 H u]) (fun(i,x,H,u,I)=>I) (fun(i,x,H,u,I)=>9-i) (0,n%1000000000,M,ds,h1) ?_ e4z rfl rfl ?_
  ·
   refine⟨MLe.refl _,?_⟩;exact⟨by omega,by omega,by rw[←T];congr 2;omega⟩
  rintro⟨i,x,H,u,I⟩ ⟨D,⟨hi,ab,J⟩⟩
  refine yU ?_;have bf:x<4294967296:=Nat.lt_of_lt_of_le ab (Nat.le_trans (Nat.pow_le_pow_right oM (show 9-i≤9 by omega)) dC);refine go5 ?_;refine gU 9 30 (vB (((i:Int)<9)∧(0<x∨(0:Int)<↑(zB (n/1000000000)).length))) ?_ ?_
  ·
   refine yD ((i:Int)<9) (fun S=>?_) (fun S=>?_)
   ·
    refine gT S rfl (go3 ?_);refine gv (lO (k:=.u32) (q:=0) rfl rfl) rfl ?_;refine gU 5 29 (vB ((0<x)∨((0:Int)<↑(zB (n/1000000000)).length))) ?_ ?_
    ·
     refine yD (0<x) (fun S=>?_) (fun S=>?_)
     ·
      refine go1 ?_;refine gT S rfl (go6 ?_);refine gqU ?_;exact congrArg some (vZ S)
     refine go1 ?_;refine gF S rfl ?_;replace C:=C.mono D;refine go9 ?_;refine gqU ?_;exact congrArg some (uA S)
    refine go2 ?_;refine gqU ?_;exact congrArg some (xN S)
   refine gF S rfl (go9 ?_);refine gqU ?_;exact congrArg some (xO S)
  refine gc2 (fun U=>?_) fun U=>?_
  ·
   have ay:u.length≤(eW (X)).length:=by rw[←J];simp
   refine go8 ?_;refine gv (pK (k:=.u32) (q:=10) rfl rfl oM) rfl (gv (fW (k:=.u32) (p:=48) (W:=4294967296) rfl rfl rfl rfl oM) rfl (gv (wR (k:=.u32) (k':=.u8) (W:=256) underlying127 underlying5 rfl rfl rfl oM) rfl (zF (kQ (kd:=.u8) underlying212 zMX rfl rfl rfl) rfl rfl rfl ?_)));intro ba bd ah;obtain rfl:=ah;refine yI (by intro z hz;simp only[List.mem_singleton] at hz;subst hz;simp only[ub];omega) ?_;intro h2 av aw;refine xT (A:=[]) (jG (kd:=.u8) (bytes:=1) underlying212 zMX rfl rfl rfl rfl rfl aw (by simp only[List.length_singleton];omega) (by simp only[List.length_singleton];omega)) rfl rfl rfl ?_;intro aq bc ae;obtain rfl:=ae;refine go5 ?_;refine gv (pL (k:=.u32) (q:=10) (W:=4294967296) rfl rfl rfl rfl oM oM) rfl (go9 ?_);refine qN (i+1,x/10,aq,u++[48+x%10],h2) ?_ ?_ e4z rfl rfl
   ·
    refine⟨(D.trans av),?_⟩;obtain⟨h9,hor⟩:=U;obtain⟨k,hk⟩:∃k,9-i=k+1:=⟨8-i,by omega⟩;have bh:=yM (n:=n/1000000000);refine⟨by omega,?_,?_⟩
    · rw[show 9-(i+1)=k by omega]
      rw[hk,Nat.pow_succ] at ab;omega
    · rw[show 9-(i+1)=k by omega]
      rw[hk,zO6 oM] at J;rw[List.append_assoc];exact J
   dsimp only;omega
  refine uQ ?_;refine qN (ad,n/1000000000,H,u,I) ?_ ?_ e2z rfl rfl
  ·
   refine⟨((ac.trans ak).trans D),?_⟩;replace C:=C.mono D;refine⟨C,by omega,?_⟩;rw[←J]
   congr 2
   by_cases h9:i=9
   · subst h9;simp at ab ⊢;omega
   · have h1:¬(0<x∨(0:Int)<↑(zB (n/1000000000)).length):=fun h=>U ⟨by omega,h⟩
     have h2:n/1000000000=0:=Classical.byContradiction fun O=>h1 (.inr (by have:=yM.2 O;omega));rw[h2,show x=0 by omega,Nat.mul_zero]
  dsimp only;have:=yM (n:=n);omega
 have ar:n=0:=Classical.byContradiction fun O=>Y (by have:=yM.2 O;omega);subst ar;rw[zFJ,List.append_nil] at T;have az:ds.length≤10*(zB X).length:=by rw[T];exact an
 refine go8 ?_;refine gv (gS (A:=[]) underlying212 rfl) rfl (qH (kd:=.u8) (by':=1) (ds.length) underlying212 zMX rfl rfl rfl rfl rfl oM oM oM oM rfl ?_);intro aa;refine uQ ?_;refine jP (ι:=Nat) (fun(k:(Nat))=>k≤ds.length) (fun(k:(Nat))=>[(3,M),(7,aa),(8,vI ↑k)]) (fun(k:(Nat))=>[.us 5 .u8 aa (kS (ds.length-k) (ds.take k).reverse),.us 5 .u8 M ds]) (fun(k:(Nat))=>G) (fun(k:(Nat))=>ds.length-k) 0 ?_ e3z ?_ rfl ?_
 · exact Nat.zero_le _
 ·
  try dsimp only[List.nil_append,List.cons_append]
  exact congrArg (fun z=>[Res.us 5 .u8 aa z,Res.us 5 .u8 M ds]) (bT _)
 rintro k hk
 refine yU ?_;refine go5 ?_;refine gv (gS (A:=[_]) underlying212 rfl) rfl (gc3 (fun ao=>?_) fun ao=>?_)
 ·
  refine go7 ?_;refine gv (gS (A:=[_]) underlying212 rfl) rfl (go5 ?_);refine gv (yR (A:=[_]) (k) underlying212 sizeOf5 rfl rfl oM oM) rfl (gv (kL (A:=[_]) isAgg5 rfl oM) rfl (gv (yR (A:=[]) (ds.length-k-1) underlying212 sizeOf5 rfl rfl oM (by rw[qQ,List.length_reverse,List.length_take];omega)) rfl (wA sizeOf5 rfl rfl (by rw[qQ,List.length_reverse,List.length_take];omega) (go8 ?_))));refine qN (k+1) ?_ ?_ e3z ?_ rfl
  · omega
  · omega
  try dsimp only[List.nil_append,List.cons_append]
  rw[bS oM,eE ds k oM,List.reverse_append,List.reverse_singleton,List.singleton_append,Nat.sub_sub]
 refine go8 ?_;have au:k=ds.length:=by omega
 rw[au,Nat.sub_self,pT,List.take_length];refine yI (by intro z hz;rw[T] at hz;exact zNB _ z (List.mem_reverse.1 hz)) ?_;intro h1 ak am;refine gv (zF8 underlying212 underlying5 underlying9 rfl am) rfl (go4 ?_);refine zD rfl rfl ?_;have e:X≠0:=yM.1 oM;rw[txt,if_neg e,←T]
end Go.Proofs.YtboaboflnckgoaaGreat
namespace Go.Proofs.YtboaboflnckgoaaGreat
open Bk Go Tryz
set_option linter.unusedVariables false
set_option linter.unusedSimpArgs false
set_option maxRecDepth 10000
set_option maxHeartbeats 1000000
attribute [local irreducible] GL GC GQ W OpV
set_option maxHeartbeats 1000000 in
theorem lV{w0:World}{h0:Mem}(hs:MLe h0 (mem w0)){v:Value}{xs:List Nat}{n:Int}(hv:Us .u32 h0 v xs)(hn:-9223372036854775808≤n)(hn':n<9223372036854775808)(hl:xs.length≤1099511627776):
 Calls Tryz.prog 95 #[v,vI n] w0 (Ret w0 h0 (fun h r=>∃u,r=.tuple #[u,vI (shE n)]∧Us .u32 h u (zB (shN (val xs) n)))):=by
 have bk:=wS hv.lt;refine cb2 79 v (vI n) func95 hs ?_;refine go9 ?_;refine cL (ev1 rfl) call144 (fun w hs=>uP hs hv) fun bh h1 bm G=>?_;replace G:=G.2;refine zGU (fun ap=>?_) fun ap=>?_
 ·
  refine go9 ?_;refine vS rfl rfl rfl ?_;rw[shE,if_pos oM,shN,if_pos oM,yS];exact⟨_,rfl,Us.nil _ _⟩
 refine gc7 (fun ao=>?_) fun ao=>?_
 ·
  obtain⟨N,hN⟩:∃N:Nat,n=↑N:=⟨n.toNat,by omega⟩;have bo:N≤16384:=by omega
  refine go1 ?_;refine zK 11 _ [] [(0,.q),(1,.q),(3,.q),(4,.q),(5,.q),(2,.b 6),(7,.c),(8,.c),(9,.q),(10,.q)] yC nX (by kernel_rfl) nX (fun r hr=>hr) (go1 ?_);refine xK rfl (fun _ _=>lJ (q:=32) rfl rfl oM oM oM) rfl ?_;rw[show n/32=↑(N/32) by omega];refine go2 ?_;refine xK rfl (fun _ _=>vW (q:=32) rfl rfl oM oM) rfl ?_;rw[show n%32=↑(N%32) by omega];refine w_b rfl rfl ?_ ?_
  ·
   refine kU (fun X=>oT (kd:=.u32) (by':=4) (N/32) underlying22 wL rfl rfl rfl rfl rfl oM oM oM oM) rfl ?_;intro aw ay Y;obtain rfl:=Y;refine rS (vs:=[_,_]) call146 e2z (fun w hs=>eO hs G oM oM) rfl ?_;intro av h2 bd aj U;obtain⟨ad,rfl,aa,D,H⟩:=U;refine w_c rfl (pG (A:=[]) (by exact D) (by simp) ?_);intro h3 ai ab;refine sR (A:=[]) (fun X=>jG (kd:=.u32) (bytes:=4) underlying22 wL rfl rfl rfl rfl rfl ab (by rw[lR];omega) (by rw[lR];omega)) rfl (by simp) ?_;intro au ax T;obtain rfl:=T;refine w_c rfl (pG (A:=[]) (by exact wZ (qB _) D) (by simp) ?_);intro h4 ah Z;refine sC (ev1 rfl) call144 (fun w hs=>uP hs Z) fun ar h5 bb C=>?_;replace C:=C.2;refine go1 ?_;refine zD0 (v:=vI (0)) rfl rfl rfl (go5 ?_);refine vS rfl rfl rfl ?_;rw[sE,fI,lR,H,zC,aT,Nat.zero_add,show 32*(N/32)+N%32=n.toNat by omega] at C;rw[shE,if_neg oM,zFW oM oM];exact⟨_,rfl,C⟩
  refine rS (vs:=[_,_]) call146 e2z (fun w hs=>eO hs G oM oM) rfl ?_;intro av h2 bd aj U;obtain⟨ad,rfl,aa,D,H⟩:=U;refine kU (fun X=>oT (kd:=.u32) (by':=4) (N/32) underlying22 wL rfl rfl rfl rfl rfl oM oM oM oM) rfl ?_;intro aw ay Y;obtain rfl:=Y;refine w_c rfl (pG (A:=[_]) (by exact D) (by simp) ?_);intro h3 ai ab;refine sR (A:=[]) (fun X=>jG (kd:=.u32) (bytes:=4) underlying22 wL rfl rfl rfl rfl rfl ab (by rw[lR];omega) (by rw[lR];omega)) rfl (by simp) ?_;intro au ax T;obtain rfl:=T;refine w_c rfl (pG (A:=[]) (by exact wZ (qB _) D) (by simp) ?_);intro h4 ah Z;refine sC (ev1 rfl) call144 (fun w hs=>uP hs Z) fun ar h5 bb C=>?_;replace C:=C.2;refine go1 ?_;refine zD0 (v:=vI (0)) rfl rfl rfl (go5 ?_);refine vS rfl rfl rfl ?_;rw[sE,fI,lR,H,zC,aT,Nat.zero_add,show 32*(N/32)+N%32=n.toNat by omega] at C;rw[shE,if_neg oM,zFW oM oM];exact⟨_,rfl,C⟩
 obtain⟨M,hM⟩:∃M:Nat,n= -↑M:=⟨(-n).toNat,by omega⟩;refine go5 ?_;refine gv (bH (p:=-32) rfl rfl oM oM) rfl (gc4 (fun an=>?_) fun an=>?_)
 ·
  refine go9 ?_;refine vS rfl rfl rfl ?_;rw[shE,if_neg oM,zCB oM,k9 oM,yS];exact⟨_,rfl,Us.nil _ _⟩
 have bp:M<32*(zB (val xs)).length:=by omega
 refine go7 ?_;refine gv (lL rfl oM oM) rfl (gv (lJ (q:=32) rfl rfl oM oM oM) rfl ?_);rw[show -n/32=↑(M/32) by omega];refine gv (qF (M/32) underlying22 sizeOf127 rfl rfl G.shape oM oM) rfl ?_;have S:=G.sub (lo:=M/32) (hi:=(zB (val xs)).length) oM oM;rw[List.take_of_length_le (by rw[List.length_drop];omega)] at S;have bn:(List.drop (M/32) (zB (val xs))).length=(zB (val xs)).length-M/32:=List.length_drop;refine qV (vs:=[_]) rfl rfl rfl rfl call103 ⟨rfl,trivial⟩ (fun w hs=>pE hs S oM) ?_;intro O h2 bq aj ae;obtain rfl:=ae;refine go1 ?_;have J:Fit (List.drop (M/32) (zB (val xs))):=nE (xS _) _;have aq:=jE (xS (val xs)) (M/32);rw[zC] at aq;generalize List.drop (M/32) (zB (val xs))=Rs at *;refine go5 ?_;refine gv (lL rfl oM oM) rfl (gv (vW (q:=32) rfl rfl oM oM) rfl ?_);obtain⟨s,bi⟩:∃s,s=M%32:=⟨_,rfl⟩;rw[show -n%32=↑s by omega];have be:s<32:=by omega
 refine go7 ?_;refine gv (gS (A:=[]) underlying22 rfl) rfl (go4 ?_);refine jP (ι:=Nat) (fun(k:(Nat))=>k≤Rs.length) (fun(k:(Nat))=>[(6,O),(7,vI ↑s),(42,vI ↑Rs.length),(43,vI ↑k)]) (fun(k:(Nat))=>[.us 127 .u32 O (oB s Rs k)]) (fun(k:(Nat))=>h2) (fun(k:(Nat))=>Rs.length-k) 0 ?_ e4z ?_ rfl ?_
 · exact Nat.zero_le _
 ·
  try dsimp only[List.nil_append,List.cons_append]
  exact congrArg (fun z=>[Res.us 127 .u32 O z]) (zEM s Rs)
 rintro k hk
 refine yU ?_;refine gc6 (fun am=>?_) fun am=>?_
 ·
  refine go2 ?_;refine qI (ι:=Unit) (fun(_u:(Unit))=>True) (fun(_u:(Unit))=>[(6,O),(7,vI ↑s),(42,vI ↑Rs.length),(43,vI ↑k)]) (fun(_u:(Unit))=>[.us 127 .u32 O (oB s Rs (k+1))]) (fun(_u:(Unit))=>h2) ?_ ?_
  ·
   refine qT ?_;refine gv (yR (A:=[]) (k) underlying22 sizeOf127 rfl rfl oM (by rw[uF oM];omega)) rfl (gv (kL (A:=[]) isAgg127 rfl (by rw[uF oM];omega)) rfl ?_);rw[z4 (Nat.le_refl _)];have bc:=uV J k;refine go1 ?_;refine gv (kI (k:=.u32) (s:=s) (yk:=.i64) rfl rfl rfl (by simp only[ub];omega)) rfl ?_;have bj:Rs.getD k 0/2^s<4294967296:=Nat.lt_of_le_of_lt (Nat.div_le_self _ _) bc;refine gv (yR (A:=[]) (k) underlying22 sizeOf127 rfl rfl oM (by rw[uF oM];omega)) rfl (wA sizeOf127 rfl rfl (by rw[uF oM];omega) (go6 ?_));refine gU 7 61 (vB (((0:Int)<↑s)∧((↑k:Int)+1<↑Rs.length))) ?_ ?_
   ·
    refine yD ((0:Int)<↑s) (fun hg=>?_) (fun hg=>?_)
    ·
     refine gT hg rfl (go7 ?_);refine gv (gS (A:=[]) underlying22 rfl) rfl ?_;rw[lS,uF oM];refine go4 ?_;refine gqU ?_;exact congrArg some (xN hg)
    refine gF hg rfl (go7 ?_);refine gqU ?_;exact congrArg some (xO hg)
   refine gc2 (fun ak=>?_) fun ak=>?_
   ·
    refine zK 14 _ [] [(0,.q),(1,.q),(2,.q),(3,.q),(4,.q),(5,.q),(6,.q),(7,.q),(8,.q),(9,.q),(10,.q),(11,.q),(12,.q),(13,.q),(14,.t)] yC nX (by kernel_rfl) nX (fun r hr=>hr) (go2 ?_);refine w_q rfl (fun h' L' hh hR=>qP (hR _ mh0) (k) underlying22 sizeOf127 rfl rfl oM (by rw[lS,uF oM];omega)) rfl (w_q rfl (fun h' L' hh hR=>kK (hR _ mh0) isAgg127 rfl (by rw[lS,uF oM];omega)) rfl ?_);rw[iI (by rw[uF oM];omega)];refine go3 ?_;refine w_q rfl (fun h' L' hh hR=>qP (hR _ mh0) (k+1) underlying22 sizeOf127 rfl rfl oM (by rw[lS,uF oM];omega)) rfl (w_q rfl (fun h' L' hh hR=>kK (hR _ mh0) isAgg127 rfl (by rw[lS,uF oM];omega)) rfl ?_);rw[qA oM,z4 oM];refine go1 ?_;refine xK rfl (fun _ _=>qX (p:=32) rfl rfl oM oM) rfl ?_;rw[show((32:Int)-↑s)=↑(32-s) by omega];refine xK rfl (fun _ _=>kJ (k:=.u32) (s:=32-s) (yk:=.i64) (W:=4294967296) rfl rfl rfl rfl) rfl (xK rfl (fun _ _=>tF (k:=.u32) rfl rfl rfl (by simp only[ub];omega) (by simp only[ub];omega)) rfl ?_);rw[zL2 J oM oM];refine w_q rfl (fun h' L' hh hR=>qP (hR _ mh0) (k) underlying22 sizeOf127 rfl rfl oM (by rw[lS,uF oM];omega)) rfl (kV (A:=[]) rfl (aO sizeOf127 rfl rfl (by rw[lS,uF oM];omega)) rfl (go2 ?_));refine zO (()) ?_ e4z ?_ rfl
    · trivial
    try dsimp only[List.nil_append,List.cons_append]
    rw[List.set_set,dZ oM]
    try rfl
   refine go2 ?_;have ac:Rs.getD k 0/2^s=mR s Rs k:=by
    by_cases h0:s=0
    · rw[h0,zEN J oM,Nat.pow_zero,Nat.div_one]
    · exact(zEO J oM).symm
   refine zO (()) ?_ e4z ?_ rfl
   · trivial
   try dsimp only[List.nil_append,List.cons_append]
   rw[ac,dZ oM]
  rintro _u bf
  refine yU ?_;refine go4 ?_;refine qN (k+1) ?_ ?_ e4z rfl rfl
  · omega
  omega
 refine go8 ?_;have bl:Rs.length≤1099511627776:=by omega
 refine yI (by exact zIZ J) ?_;intro h3 ai az;refine cL (ev1 rfl) call144 (fun w hs=>uP hs az) fun bg h4 ah I=>?_;replace I:=I.2;refine go5 ?_;refine vS rfl rfl rfl ?_;have ba:k=Rs.length:=by omega
 rw[ba,zG4 J,aq,iJ,show 32*(M/32)+s=(-n).toNat by omega] at I;rw[shE,if_neg oM,zCB oM];exact⟨_,rfl,I⟩
theorem zQK{w0:World}{h0:Mem}(hs:MLe h0 (mem w0)){v:Value}{X n:Nat}(hv:Us .u32 h0 v (zB X))(hn:n≤16384)(hl:(zB X).length≤1099511627776):
 Calls Tryz.prog 140 #[v,vI ↑n] w0 (Ret w0 h0 (fun h r=>Us .u32 h r (zB (X*2^n)))):=by
 obtain⟨s,av⟩:∃s,s=n%32:=⟨_,rfl⟩;have hp:2^s≤2147483648:=Nat.pow_le_pow_right (n:=2) oM (show s≤31 by omega);have ad:0<2^s:=Nat.pow_pos oM;refine cb2 40 v (vI ↑n) func140 hs ?_;refine go8 ?_;refine gv (lJ (q:=32) rfl rfl oM oM oM) rfl (qH (kd:=.u32) (by':=4) (n/32) underlying22 wL rfl rfl rfl rfl rfl oM oM oM oM rfl ?_);intro ac;refine go5 ?_;refine asg (v:=vU .u64 0) rfl rfl (go9 ?_);refine jP (ι:=Value×List Nat×Nat×Mem) (fun(H,u,c,I)=>MLe h0 I∧(u.length≤(zB X).length∧Fit u∧c<2^s∧val u+4294967296^u.length*c=val ((zB X).take u.length)*2^s)) (fun(H,u,c,I)=>[(0,v),(1,vI ↑n),(5,H),(6,vU .u64 c),(7,vI ↑u.length)]) (fun(H,u,c,I)=>[.us 127 .u32 H (List.replicate (n/32) 0++u)]) (fun(H,u,c,I)=>I) (fun(H,u,c,I)=>(zB X).length-u.length) (ac,[],0,h0) ?_ e5 ?_ rfl ?_
 ·
  refine⟨MLe.refl _,?_⟩;exact⟨by simp,fun x hx=>by simp at hx,ad,by simp[val]⟩
 ·
  try dsimp only[List.nil_append,List.cons_append]
  rw[List.append_nil]
 rintro⟨H,u,c,I⟩ ⟨G,⟨au,Y,hc,C⟩⟩
 refine yU ?_;replace hv:=hv.mono G;refine gc9 (fun aa=>?_) fun aa=>?_
 ·
  refine go9 ?_;refine gv (zP (u.length) underlying22 sizeOf127 rfl rfl hv oM oM) rfl (go1 ?_);have ar:=hv.get32 u.length;have aq:(zB X).getD u.length 0*2^s<18446744073709551616-4294967296:=by
   have:=Nat.mul_le_mul (show(zB X).getD u.length 0≤4294967295 by omega) hp;omega
  refine go2 ?_;refine gv (vW (q:=32) rfl rfl oM oM) rfl ?_;rw[show(↑n:Int)%32=↑s by omega];refine gv (kJ (k:=.u64) (s:=s) (yk:=.i64) (W:=18446744073709551616) rfl rfl rfl rfl) rfl ?_;rw[Nat.mod_eq_of_lt oM];refine gv (tF (k:=.u64) rfl rfl rfl (by simp only[ub];omega) (by simp only[ub];omega)) rfl ?_;rw[zKM hc];refine go8 ?_;refine zF (kQ (kd:=.u32) underlying22 wL rfl rfl rfl) rfl rfl rfl ?_;intro ak ap T;obtain rfl:=T;refine yI (by intro z J;simp only[List.mem_singleton] at J;subst J;simp only[ub];omega) ?_;intro h1 U ae;refine xT (A:=[]) (jG (kd:=.u32) (bytes:=4) underlying22 wL rfl rfl rfl rfl rfl ae (by simp only[List.length_singleton,lAz,lR];omega) (by simp only[List.length_singleton,lAz,lR];omega)) rfl rfl rfl ?_;intro ab ao S;obtain rfl:=S;refine j3 ?_;refine qN (ab,u++[((zB X).getD u.length 0*2^s+c)%4294967296],((zB X).getD u.length 0*2^s+c)/2^32,h1) ?_ ?_ ⟨rfl,rfl,rfl,rfl,?_,trivial⟩ ?_ rfl
  ·
   refine⟨(G.trans U),?_⟩;refine⟨by simp;omega,wZ Y (cR oM),?_,?_⟩
   · refine Nat.div_lt_of_lt_mul ?_
     have:=Nat.mul_le_mul_right (2^s) (show(zB X).getD u.length 0+1≤2^32 by omega);rw[Nat.add_mul] at this;omega
   · have e:=Nat.div_add_mod ((zB X).getD u.length 0*2^s+c) 4294967296
     have e2:(2:Nat)^32=4294967296:=rfl;rw[lAz,List.length_singleton,uC (zB X) _ oM,tP,Nat.pow_succ,e2];generalize ((zB X).getD u.length 0*2^s+c)/4294967296=q at *;generalize ((zB X).getD u.length 0*2^s+c)%4294967296=r at *;grind
  ·
   dsimp only;simp;omega
  · exact congrArg some (congrArg vI (by simp))
  try dsimp only[List.nil_append,List.cons_append]
  rw[List.append_assoc]
 refine uQ ?_;refine zF (kQ (kd:=.u32) underlying22 wL rfl rfl rfl) rfl rfl rfl ?_;intro aj an O;obtain rfl:=O;refine yI (by intro z J;simp only[List.mem_singleton] at J;subst J;simp only[ub];omega) ?_;intro h1 U Z;refine xT (A:=[]) (jG (kd:=.u32) (bytes:=4) underlying22 wL rfl rfl rfl rfl rfl Z (by simp only[List.length_singleton,lAz,lR];omega) (by simp only[List.length_singleton,lAz,lR];omega)) rfl rfl rfl ?_;intro ai am M;obtain rfl:=M;refine yI (by exact wZ (wZ (qB _) Y) (cR oM)) ?_;intro h2 ax ho;refine cL (ev1 rfl) call91 (fun w hs=>fE hs ho (by simp;omega)) fun ah h3 aw D=>(go4 ?_);refine zD rfl rfl ?_;have hk:u.length=(zB X).length:=by omega
 rw[xL oM,zC] at C;rw[Nat.mod_eq_of_lt oM,List.append_assoc,sE,fI,lR,tP,C,aT,Nat.zero_add,show 32*(n/32)+s=n by omega] at D;exact D
theorem zQL{w0:World}{h0:Mem}(hs:MLe h0 (mem w0)){v:Value}{X n:Nat}(hv:Us .u32 h0 v (zB X))(hn:n<9223372036854775808)(hl:(zB X).length≤1099511627776):
 Calls Tryz.prog 143 #[v,vI ↑n] w0 (Ret w0 h0 (fun h r=>Us .u32 h r (zB (X/2^n)))):=by
 obtain⟨s,ad⟩:∃s,s=n%32:=⟨_,rfl⟩;refine cb2 55 v (vI ↑n) func143 hs ?_;refine go9 ?_;refine gv (lJ (q:=32) rfl rfl oM oM oM) rfl (gc5 (fun O=>?_) fun O=>?_)
 ·
  refine go7 ?_;refine zD rfl rfl ?_;rw[show X/2^n=0 from k9 oM,yS];exact Us.nil _ _
 refine go6 ?_;refine gv (lJ (q:=32) rfl rfl oM oM oM) rfl ?_;rw[show(↑n:Int)/32=↑(n/32) by omega];refine gv (qF (n/32) underlying22 sizeOf127 rfl rfl hv.shape oM oM) rfl ?_;have C:=hv.sub (lo:=n/32) (hi:=(zB X).length) oM oM;rw[List.take_of_length_le (by rw[List.length_drop];omega)] at C;have ak:(List.drop (n/32) (zB X)).length=(zB X).length-n/32:=List.length_drop;refine go1 ?_;have I:Fit (List.drop (n/32) (zB X)):=nE (xS _) _;have S:=jE (xS X) (n/32);rw[zC] at S;obtain⟨Y,U⟩:∃z,z=gH 1 v (n/32) (zB X).length:=⟨_,rfl⟩;rw[←U] at C ⊢;generalize List.drop (n/32) (zB X)=Rs at *;refine go6 ?_;refine qH (kd:=.u32) (by':=4) (Rs.length) underlying22 wL rfl rfl rfl rfl rfl oM oM oM oM rfl ?_;intro D;refine uQ ?_;refine gcL (ι:=List Nat) (fun(u:(List Nat))=>(u.length≤Rs.length∧u=(List.range u.length).map (mR s Rs),[(0,Y),(1,vI ↑n),(5,D),(6,vI ↑u.length)],[.us 127 .u32 D (fM u Rs.length)],h0,Rs.length-u.length)) [] ?_ ?_
 · exact⟨by simp,rfl⟩
 rintro u ⟨ac,H⟩
 refine yU ?_;refine gc9 (fun M=>?_) fun M=>?_
 ·
  refine go8 ?_;refine gv (zP (u.length) underlying22 sizeOf127 rfl rfl C oM oM) rfl (go1 ?_);have aj:=uV I u.length;have ai:=uV I (u.length+1);refine go4 ?_;refine qI (ι:=Unit) (fun(T:(Unit))=>True) (fun(T:(Unit))=>[(0,Y),(1,vI ↑n),(5,D),(6,vI ↑u.length),(7,vU .u64 (Rs.getD u.length 0+4294967296*Rs.getD (u.length+1) 0))]) (fun(T:(Unit))=>[.us 127 .u32 D (fM u Rs.length)]) (fun(T:(Unit))=>h0) ?_ ?_
  ·
   refine gc9 (fun J=>?_) fun J=>?_
   ·
    refine go5 ?_;refine gv (zP (u.length+1) underlying22 sizeOf127 rfl rfl C oM oM) rfl (go2 ?_);refine gv (kJ (k:=.u64) (s:=32) (yk:=.u64) (W:=18446744073709551616) rfl rfl rfl rfl) rfl (gv (tF (k:=.u64) rfl rfl rfl (by simp only[ub];omega) (by simp only[ub];omega)) rfl ?_);rw[Nat.or_comm,rA oM oM];refine go2 ?_;refine zO (()) ?_ ⟨rfl,rfl,rfl,rfl,?_,trivial⟩ rfl rfl
    · trivial
    · exact congrArg some (congrArg (vU .u64) oM)
   refine go1 ?_;refine zO (()) ?_ ⟨rfl,rfl,rfl,rfl,?_,trivial⟩ rfl rfl
   · trivial
   · exact congrArg some (congrArg (vU .u64) (by rw[tB (xs:=Rs) (i:=u.length+1) oM];omega))
  rintro T aa
  refine yU ?_;refine go5 ?_;refine gv (vW (q:=32) rfl rfl oM oM) rfl ?_;rw[show(↑n:Int)%32=↑s by omega];refine gv (kI (k:=.u64) (s:=s) (yk:=.i64) rfl rfl rfl (by simp only[ub];omega)) rfl (go1 ?_);rw[zPY oM oM];refine gv (yR (A:=[]) (u.length) underlying22 sizeOf127 rfl rfl oM (by rw[vM oM];omega)) rfl (wA sizeOf127 rfl rfl (by rw[vM oM];omega) (go8 ?_));refine gqL (u++[mR s Rs u.length]) ?_ ?_ (he:=⟨rfl,rfl,rfl,?_,trivial⟩) (hL:=?_)
  ·
   refine⟨by simp;omega,?_⟩;rw[lAz,List.length_singleton,List.range_succ,List.map_append,List.map_singleton,←H]
  · simp;omega
  · exact congrArg some (congrArg vI (by simp))
  try dsimp only[List.nil_append,List.cons_append]
  rw[sM oM]
 refine go8 ?_;have Z:u.length=Rs.length:=by omega
 rw[pS Z];refine yI (by rw[H];intro z hz;obtain⟨w,_,rfl⟩:=List.mem_map.1 hz;exact zL3 s Rs w) ?_;intro h1 ah ho;refine cL (ev1 rfl) call91 (fun w hs=>fE hs ho oM) fun ab h2 ae G=>(go4 ?_);refine zD rfl rfl ?_;rw[H,Z,zNT I,S,iJ,show 32*(n/32)+s=n by omega] at G;exact G
end Go.Proofs.YtboaboflnckgoaaGreat
namespace Go.Proofs.YtboaboflnckgoaaGreat
open Bk Go Tryz
set_option linter.unusedVariables false
set_option linter.unusedSimpArgs false
set_option maxRecDepth 10000
set_option maxHeartbeats 1000000
attribute [local irreducible] GL GC GQ W OpV
theorem eL{w0:World}{h0:Mem}(hs:MLe h0 (mem w0)){v:Value}{X:Nat}(hv:Us .u32 h0 v (zB X)):
 Calls Tryz.prog 137 #[v] w0 (Ret w0 h0 (fun _ r=>r=.tuple #[vU .u64 (if(zB X).length≤2 then X else 0),vB ((zB X).length≤2)])):=by
 have M:=hv.get32 0;have J:=hv.get32 1;have O:=zC X;have H:=hv.lt63;refine cb1 26 v func137 hs ?_;refine go2 ?_;refine asg (v:=vU .u64 0) rfl rfl (dE ?_);refine cnd (fun G=>?_) fun G=>?_
 ·
  refine go2 ?_;refine asg (v:=vU .u64 0) rfl rfl (go6 ?_);refine vS rfl rfl rfl ?_;have h0:X=0:=Classical.byContradiction fun C=>by have:=yM.2 C;omega
  rw[xM oM,if_pos oM,h0]
 refine gc6 (fun D=>?_) fun D=>?_
 ·
  have z:=zBP (xs:=zB X) oM;refine go3 ?_;refine gv (zP (q:=0) (0) underlying22 sizeOf127 rfl rfl hv rfl oM) rfl (go9 ?_);refine vS rfl rfl rfl ?_;rw[xM oM,if_pos oM,←z,zC]
 refine gc6 (fun u=>?_) fun u=>?_
 ·
  refine go1 ?_;refine zK 12 _ [] [(0,.q),(1,.q),(2,.q),(3,.q),(4,.q),(5,.q),(6,.q),(7,.q),(8,.q),(9,.q),(10,.q),(11,.q)] yC nX (by kernel_rfl) nX (fun r S=>S) (go1 ?_);refine w_q rfl (fun h' L' hh hR=>zP (q:=0) (0) underlying22 sizeOf127 rfl rfl (hv.mono hh) rfl oM) rfl (w_q rfl (fun h' L' hh hR=>xH isAgg127 rfl (hv.mono hh) oM) rfl (go2 ?_));refine w_q rfl (fun h' L' hh hR=>zP (q:=1) (1) underlying22 sizeOf127 rfl rfl (hv.mono hh) rfl oM) rfl (w_q rfl (fun h' L' hh hR=>xH isAgg127 rfl (hv.mono hh) oM) rfl (go1 ?_));refine xK rfl (fun _ _=>kJ (k:=.u64) (s:=32) (yk:=.u64) (W:=18446744073709551616) rfl rfl rfl rfl) rfl (xK rfl (fun _ _=>tF (k:=.u64) rfl rfl rfl (by simp only[ub];omega) (by simp only[ub];omega)) rfl ?_);rw[Nat.or_comm,rA oM oM];refine go7 ?_;refine vS rfl rfl rfl ?_;have T:=vK (zB X) 1;have I:=vK (zB X) 0;rw[xL oM,zC] at T;rw[List.take_zero] at I;simp only[val,Nat.zero_add] at I;rw[xM oM,if_pos oM];have e:(zB X).getD 1 0*4294967296+(zB X).getD 0 0=X:=by omega
  rw[e]
 refine go5 ?_;refine asg (v:=vU .u64 0) rfl rfl (go4 ?_);refine vS rfl rfl rfl ?_;rw[yV oM,if_neg oM]
theorem zA8{w0:World}{h0:Mem}(hs:MLe h0 (mem w0)){v:Value}{X k:Nat}(hv:Us .u32 h0 v (zB X))(hk:k≤4398046511104)(hl:(zB X).length≤4398046511104):
 Calls Tryz.prog 141 #[v,vI ↑k] w0 (Ret w0 h0 (fun h r=>Us .u32 h r (zB (X*4294967296^k)))):=by
 refine cb2 12 v (vI ↑k) func141 hs ?_;refine sL ?_;refine cnd (fun C=>?_) fun C=>?_
 ·
  have h0:X=0:=Classical.byContradiction fun z=>by have:=yM.2 z;omega
  refine go7 ?_;refine zD rfl rfl ?_;rw[h0,Nat.zero_mul,yS];exact Us.nil _ _
 have h0:X≠0:=yM.1 oM;refine go5 ?_;refine qH (kd:=.u32) (by':=4) (k) underlying22 wL rfl rfl rfl rfl rfl oM oM oM oM rfl ?_;intro J;refine go1 ?_;refine xT (A:=[]) (jG (kd:=.u32) (bytes:=4) underlying22 wL rfl rfl rfl rfl rfl hv (by rw[lR];omega) (by rw[lR];omega)) rfl rfl rfl ?_;intro D G u;obtain rfl:=u;refine yI (by exact wZ (qB _) (xS _)) ?_;intro M I H;refine go4 ?_;refine zD rfl rfl ?_;rw[←zIQ h0];exact H
set_option maxHeartbeats 1000000 in
theorem zFY{w0:World}{h0:Mem}(hs:MLe h0 (mem w0)){v v':Value}{X Y:Nat}(hv:Us .u32 h0 v (zB X))(hv':Us .u32 h0 v' (zB Y))(hl:(zB X).length≤549755813888)(hl':(zB Y).length≤549755813888):
 Calls Tryz.prog 93 #[v,v'] w0 (Ret w0 h0 (fun h z=>∃q r,z=.tuple #[q,r,vI (if Y=0 then 3 else 0)]∧Us .u32 h q (zB (X/Y))∧Us .u32 h r (zB (if Y=0 then 0 else X%Y)))):=by
 refine cb2 163 v v' func93 hs ?_;refine qT ?_;refine gv (wQ underlying22 rfl hv') rfl (gc3 (fun ch=>?_) fun ch=>?_)
 ·
  have cn:Y=0:=Classical.byContradiction fun cv=>by have:=yM.2 cv;omega
  refine go9 ?_;refine qY rfl rfl rfl rfl ?_;rw[cn,Nat.div_zero,if_pos rfl,if_pos rfl,yS];exact⟨_,_,rfl,Us.nil _ _,Us.nil _ _⟩
 have C:Y≠0:=yM.1 oM;refine go7 ?_;refine cL (ev2 rfl rfl) call56 (fun w hs=>nO hs hv hv') fun ee h1 au bu=>?_;subst bu;refine gc3 (fun an=>?_) fun an=>?_
 ·
  have M:=gG.1 an;refine go3 ?_;replace hv:=hv.mono au;refine cL (ev1 rfl) call91 (fun w hs=>fE hs hv oM) fun ed h2 ak ay=>?_;rw[zC] at ay;refine go7 ?_;refine qY rfl rfl rfl rfl ?_;rw[Nat.div_eq_of_lt M,Nat.mod_eq_of_lt M,if_neg C,if_neg C,yS];exact⟨_,_,rfl,Us.nil _ _,ay⟩
 have bz:Y≤X:=Nat.le_of_not_lt fun hc=>an (gG.2 hc);have en:=zN bz;refine go6 ?_;replace hv:=hv.mono au;refine cL (ev1 rfl) call137 (fun w hs=>eL hs hv) fun ec h2 ak bt=>?_;subst bt;refine zGU (fun am=>?_) fun am=>?_
 ·
  have hw:=aH am;have eg:=aH (n:=Y) oM;refine go3 ?_;replace hv':=hv'.mono (au.trans ak);refine cL (ev1 rfl) call137 (fun w hs=>eL hs hv') fun eb h3 ar bs=>?_;subst bs;refine go2 ?_;rw[if_pos am,if_pos (show(zB Y).length≤2 by omega)];refine go6 ?_;refine zK 11 _ [] [(0,.q),(1,.q),(2,.q),(4,.q),(5,.q),(6,.q),(3,.c),(7,.c),(8,.q),(9,.q),(10,.q)] yC nX (by kernel_rfl) nX (fun r hr=>hr) (go2 ?_);refine xK rfl (fun _ _=>pL (k:=.u64) (W:=18446744073709551616) rfl rfl rfl rfl oM oM) rfl (go2 ?_);refine xK rfl (fun _ _=>pK (k:=.u64) rfl rfl oM) rfl ?_;refine w_c rfl ?_;have dq:=Nat.div_le_self X Y;have bn:=Nat.mod_lt X (Nat.pos_of_ne_zero C);refine sC (ev1 rfl) call131 (fun w hs=>iR hs oM) fun ea h4 aq ac=>?_;refine w_c rfl (sC (ev1 rfl) call131 (fun w hs=>iR hs oM) fun dz h5 bg br=>(go2 ?_));refine zD0 (v:=vI (0)) rfl rfl rfl (go4 ?_);refine qY rfl rfl rfl rfl ?_;replace ac:=ac.mono bg;rw[if_neg C,if_neg C];exact⟨_,_,rfl,ac,br⟩
 refine go6 ?_;replace hv':=hv'.mono (au.trans ak);refine gv (wQ underlying22 rfl hv') rfl (gc3 (fun cg=>?_) fun cg=>?_)
 ·
  have az:(zB Y).length=1:=by omega
  have da:(zB Y).getD 0 0≠0:=by have:=tL (n:=Y) oM;rwa [az] at this
  have bl:=zBP az;rw[zC] at bl;refine go4 ?_;refine gv (zP (q:=0) (0) underlying22 sizeOf127 rfl rfl hv' rfl oM) rfl (gv (xH isAgg127 rfl hv' oM) rfl ?_);have eq:=hv'.get32 0;replace hv:=hv.mono ak;refine cL (ev2 rfl rfl) call138 (fun w hs=>zCI hs hv oM oM oM) fun dy h3 ar bq=>?_;obtain⟨ef,rfl,I⟩:=bq;rw[zC] at I ⊢;have bn:=Nat.mod_lt X (Nat.pos_of_ne_zero da);refine qO ?_;refine cL (ev1 rfl) call131 (fun w hs=>iR hs oM) fun dx h4 aq ax=>(go7 ?_);refine qY rfl rfl rfl rfl ?_;replace I:=I.mono aq;rw[←bl] at I ax;rw[if_neg C,if_neg C];exact⟨_,_,rfl,I,ax⟩
 have bw:2≤(zB Y).length:=by omega
 refine go6 ?_;refine gv (wQ underlying22 rfl hv') rfl (go1 ?_);refine gv (qF ((zB Y).length-1) underlying22 sizeOf127 rfl rfl hv'.shape oM oM) rfl ?_;have ab:=hv'.sub (lo:=(zB Y).length-1) (hi:=(zB Y).length) oM oM;rw[List.take_of_length_le (by rw[List.length_drop];omega),zLI oM] at ab;have hgt:=hv'.get32 ((zB Y).length-1);have eh:=kD (n:=(zB Y).getD ((zB Y).length-1) 0) oM;have dv:=bW (n:=(zB Y).getD ((zB Y).length-1) 0) (k:=32) hgt;refine cL (ev1 rfl) call139 (fun w hs=>zQM hs ab oM) fun dw h3 ar bp=>?_;subst bp;refine gv (qX (p:=32) rfl rfl oM oM) rfl ?_;obtain⟨s,cu⟩:∃s,s=32-xZ ((zB Y).getD ((zB Y).length-1) 0):=⟨_,rfl⟩;rw[show(32:Int)-↑(xZ ((zB Y).getD ((zB Y).length-1) 0))=↑s by omega];obtain⟨bm,aa,cq⟩:=zC1 (k:=(zB Y).length-1) C oM cu;refine go7 ?_;replace hv':=hv'.mono ar;refine cL (ev2 rfl rfl) call140 (fun w hs=>zQK hs hv' oM oM) fun ao h4 aq D=>(go2 ?_);replace hv:=hv.mono ((ak.trans ar).trans aq);refine cL (ev2 rfl rfl) call140 (fun w hs=>zQK hs hv oM oM) fun cl h5 bg aw=>(go2 ?_);replace D:=D.mono bg;replace aa:(zB (Y*2^s)).length=(zB Y).length:=by omega
 have ci:=tN (n:=Y*2^s) (k:=(zB Y).length-1) oM;generalize ek:(zB Y).length=n at *;obtain⟨V,hV⟩:∃V,V=Y*2^s:=⟨_,rfl⟩;obtain⟨U,hU⟩:∃U,U=X*2^s:=⟨_,rfl⟩;rw[←hV] at D aa cq ci;rw[←hU] at aw;have ck:=zL0 bw aa;rw[zC] at ck;have cp:=jZ (gE (xS V) (n-2));rw[List.length_take,Nat.min_eq_left oM] at cp;have et:(zB U).length≤(zB X).length+1:=by rw[hU];exact Nat.le_trans (yE X (2^s)) (Nat.add_le_add_left (vX (k:=1) (by rw[Nat.pow_one];exact Nat.lt_of_lt_of_le (Nat.pow_lt_pow_right dC bm) dC)) _)
 have dd:V≤U:=by rw[hV,hU];exact Nat.mul_le_mul_right _ bz
 have bv:=zN dd;rw[aa] at bv;have ct:=zJ8 (uG U) ci oM bv;generalize bo:(zB U).length=r at *;have dp:=uV (xS V) (n-1);refine go6 ?_;rw[aa];refine go7 ?_;rw[bo];refine go3 ?_;refine qH (kd:=.u32) (by':=4) (r-n+1) underlying22 wL rfl rfl rfl rfl rfl oM oM oM oM rfl ?_;intro G;refine go8 ?_;rw[bo];refine go6 ?_;refine jP (ι:=Nat×Value×Nat×List Nat×Mem) (fun(K,vr,R,S,k1)=>MLe h5 k1∧(Us .u32 k1 vr (zB R)∧K≤r-n+1∧S.length=r-n+1-K∧Fit S∧R+4294967296^K*(val S*V)=U∧R<4294967296^K*V∧(zB R).length≤r)) (fun(K,vr,R,S,k1)=>[(1,ao),(4,G),(5,vr),(13,vI ↑s),(14,vI ↑n),(15,vI (↑K-1))]) (fun(K,vr,R,S,k1)=>[.us 127 .u32 G (kS K S)]) (fun(K,vr,R,S,k1)=>k1) (fun(K,vr,R,S,k1)=>K) (r-n+1,cl,U,[],h5) ?_ ⟨?_,?_,?_,?_,?_,?_,trivial⟩ ?_ rfl ?_
 ·
  refine⟨MLe.refl _,?_⟩;exact⟨aw,Nat.le_refl _,by simp,fun x hx=>by simp at hx,by simp[val],ct,by omega⟩
 · exact rfl
 · exact rfl
 · exact rfl
 · exact rfl
 · exact rfl
 · exact congrArg some (congrArg vI oM)
 ·
  try dsimp only[List.nil_append,List.cons_append]
  exact congrArg (fun z=>[Res.us 127 .u32 G z]) (bT _)
 rintro⟨K,vr,R,S,k1⟩ ⟨ba,⟨hR,hK,ej,ca,T,M,eu⟩⟩
 refine yU ?_;refine gc7 (fun cf=>?_) fun cf=>?_
 ·
  refine go6 ?_;refine asg (v:=vU .u64 0) rfl rfl (go2 ?_);have es:=uV (xS R) (K-1+n);have er:=uV (xS R) (K-1+n-1);have db:=uV (xS R) (K-1+n-2);refine qI (ι:=Unit) (fun(_u:(Unit))=>True) (fun(_u:(Unit))=>[(1,ao),(4,G),(5,vr),(13,vI ↑s),(14,vI ↑n),(15,vI (↑K-1)),(16,vU .u64 ((zB R).getD (K-1+n) 0))]) (fun(_u:(Unit))=>[.us 127 .u32 G (kS K S)]) (fun(_u:(Unit))=>k1) ?_ ?_
  ·
   refine zAS (fun ce=>?_) fun ce=>?_
   ·
    refine go5 ?_;refine gv (zP (K-1+n) underlying22 sizeOf127 rfl rfl hR oM oM) rfl (go4 ?_);refine zO (()) ?_ e7 rfl rfl
    trivial
   refine go1 ?_;refine zO (()) ?_ ⟨rfl,rfl,rfl,rfl,rfl,rfl,?_,trivial⟩ rfl rfl
   · trivial
   · exact congrArg some (congrArg (vU .u64) (by rw[tB (xs:=zB R) oM]))
  rintro _u cd
  refine yU ?_;refine qI (ι:=Unit) (fun(_u:(Unit))=>True) (fun(_u:(Unit))=>[(1,ao),(4,G),(5,vr),(13,vI ↑s),(14,vI ↑n),(15,vI (↑K-1)),(16,vU .u64 ((zB R).getD (K-1+n) 0*4294967296+(zB R).getD (K-1+n-1) 0))]) (fun(_u:(Unit))=>[.us 127 .u32 G (kS K S)]) (fun(_u:(Unit))=>k1) ?_ ?_
  ·
   refine zDI (fun bh=>?_) fun bh=>?_
   ·
    refine go2 ?_;refine gv (kJ (k:=.u64) (s:=32) (yk:=.u64) (W:=18446744073709551616) rfl rfl rfl rfl) rfl (go5 ?_);refine gv (zP (K-1+n-1) underlying22 sizeOf127 rfl rfl hR oM oM) rfl (go2 ?_);refine gv (tF (k:=.u64) rfl rfl rfl (by simp only[ub];omega) (by simp only[ub];omega)) rfl ?_;rw[rA oM oM];refine go2 ?_;refine zO (()) ?_ e7 rfl rfl
    trivial
   refine go2 ?_;refine gv (kJ (k:=.u64) (s:=32) (yk:=.u64) (W:=18446744073709551616) rfl rfl rfl rfl) rfl (go2 ?_);refine zO (()) ?_ ⟨rfl,rfl,rfl,rfl,rfl,rfl,?_,trivial⟩ rfl rfl
   · trivial
   · exact congrArg some (congrArg (vU .u64) (by rw[tB (xs:=zB R) (i:=K-1+n-1) oM];omega))
  rintro _u cd
  refine yU ?_;have dc:V<4294967296^n:=by rw[←aa];exact uG V
  have de:R<4294967296^(K+n):=Nat.lt_of_lt_of_le M (by rw[Nat.pow_add];exact Nat.mul_le_mul_left _ (Nat.le_of_lt dc));have cm:∀i,K+n≤i→(zB R).getD i 0=0:=fun i hi=>mP (by rw[zC];exact de) hi;obtain⟨wr,hW,co⟩:=zEG (j:=K-1) bw (fun i hi=>cm i oM) (xS R);rw[jE (xS R),zC] at hW;have cj:=zQN (R:=R) (V:=V) (k:=K-1) (by rw[Nat.sub_add_cancel oM];exact M);obtain⟨top,av⟩:∃t,t=(zB R).getD (K-1+n) 0*4294967296+(zB R).getD (K-1+n-1) 0:=⟨_,rfl⟩;rw[←av];rw[←av] at hW;have ei:top<18446744073709551616:=by omega
  have cb:=zOP (by rw[hW] at cj ⊢;exact zQO ck rfl db co oM cj);have dn:0<(zB V).getD (n-1) 0:=by omega
  refine go6 ?_;replace D:=D.mono ba;refine gv (zP (n-1) underlying22 sizeOf127 rfl rfl D oM oM) rfl (go2 ?_);refine gv (pL (k:=.u64) (W:=18446744073709551616) rfl rfl rfl rfl oM oM) rfl (gv (zQZ (k:=.u64) (q:=4294967295) rfl rfl) rfl ?_);rw[Nat.min_def];rw[←Nat.min_def];refine go7 ?_;refine gv (wR (k:=.u64) (k':=.u32) (W:=4294967296) underlying130 underlying127 rfl rfl rfl oM) rfl (cL (ev2 rfl rfl) call142 (fun w hs=>zN0 hs D oM oM) fun dm h6 aj bf=>?_);have em:=yE V (min (top/(zB V).getD (n-1) 0) 4294967295);have eo:=kD (n:=min (top/(zB V).getD (n-1) 0) 4294967295) oM;refine go1 ?_;rw[show(↑K:Int)-1=↑(K-1) by omega];refine cL (ev2 rfl rfl) call141 (fun w hs=>zA8 hs bf oM oM) fun bk h7 ai be=>(go5 ?_);refine jP (ι:=Value×Nat×Mem) (fun(vp,d,k2)=>MLe h7 k2∧(Us .u32 k2 vp (zB (V*d*4294967296^(K-1)))∧d≤4294967295∧R<V*(d+1)*4294967296^(K-1))) (fun(vp,d,k2)=>[(1,ao),(4,G),(5,vr),(13,vI ↑s),(14,vI ↑n),(15,vI ↑(K-1)),(17,vU .u64 d),(18,vp)]) (fun(vp,d,k2)=>[.us 127 .u32 G (kS K S)]) (fun(vp,d,k2)=>k2) (fun(vp,d,k2)=>d) (bk,min (top/(zB V).getD (n-1) 0) 4294967295,h7) ?_ e8 rfl rfl ?_
  ·
   refine⟨MLe.refl _,?_⟩;exact⟨be,Nat.min_le_right _ _,cb⟩
  rintro⟨vp,d,k2⟩ ⟨Z,⟨hp,ep,cw⟩⟩
  refine yU ?_;refine go5 ?_;replace hR:=hR.mono ((aj.trans ai).trans Z);refine cL (ev2 rfl rfl) call56 (fun w hs=>nO hs hp hR) fun dl h8 J bd=>?_;subst bd;refine gc3 (fun O=>?_) fun O=>?_
  ·
   have hgt:=zI9.1 O;have cc:1≤d:=Nat.pos_of_ne_zero fun h0=>by rw[h0,Nat.mul_zero,Nat.zero_mul] at hgt;omega
   obtain⟨cz,cy⟩:=zUC (V:=V) (p:=4294967296^(K-1)) cc;refine go6 ?_;refine gv (bG (k:=.u64) (q:=1) (W:=18446744073709551616) rfl rfl rfl rfl oM oM) rfl (go7 ?_);replace D:=D.mono (((aj.trans ai).trans Z).trans J);refine cL (ev2 rfl rfl) call141 (fun w hs=>zA8 hs D oM oM) fun dk h9 ap bc=>?_;have el:=zEA (V*d) (K-1);have dt:=yE V d;have dr:=kD (n:=d) oM;replace hp:=hp.mono (J.trans ap);refine cL (ev2 rfl rfl) call130 (fun w hs=>zAA hs hp bc cy oM) fun bj dh bx ae=>?_;rw[cz] at ae;refine go3 ?_;refine qN (bj,d-1,dh) ?_ ?_ e8 rfl rfl
   ·
    refine⟨(((Z.trans J).trans ap).trans bx),?_⟩;exact⟨ae,by omega,by rw[Nat.sub_add_cancel cc];exact hgt⟩
   dsimp only;omega
  have ah:V*d*4294967296^(K-1)≤R:=Nat.le_of_not_lt fun hc=>O (zI9.2 hc);refine uQ ?_;refine gv (wR (k:=.u64) (k':=.u32) (W:=4294967296) underlying130 underlying127 rfl rfl rfl oM) rfl (gv (yR (A:=[]) (K-1) underlying22 sizeOf127 rfl rfl oM (by rw[qQ];omega)) rfl (wA sizeOf127 rfl rfl (by rw[qQ];omega) (go5 ?_)));replace hR:=hR.mono J;replace hp:=hp.mono J;refine cL (ev2 rfl rfl) call130 (fun w hs=>zAA hs hR hp ah oM) fun bi h9 ap bb=>(go9 ?_);refine qN (K-1,bi,R-V*d*4294967296^(K-1),d::S,h9) ?_ ?_ ⟨rfl,rfl,rfl,rfl,rfl,?_,trivial⟩ ?_ rfl
  ·
   refine⟨(((((ba.trans aj).trans ai).trans Z).trans J).trans ap),?_⟩;have eK:(4294967296:Nat)^K=4294967296^(K-1)*4294967296:=by rw[←Nat.pow_succ,Nat.succ_eq_add_one,Nat.sub_add_cancel oM]
   rw[eK] at T;have du:=zN (Nat.sub_le R (V*d*4294967296^(K-1)));exact⟨bb,by omega,by simp only[lC];omega,tY.2 ⟨by omega,ca⟩,zUB T ah,yAX cw ah,by omega⟩
  ·
   dsimp only;omega
  · exact congrArg some (congrArg vI oM)
  try dsimp only[List.nil_append,List.cons_append]
  rw[bS oM]
 refine go6 ?_;have df:K=0:=by omega
 subst df;rw[pT];rw[Nat.pow_zero,Nat.one_mul] at T M;refine go2 ?_;refine yI (by exact ca) ?_;intro h6 aj hq;refine cL (ev1 rfl) call91 (fun w hs=>fE hs hq oM) fun dj h7 ai H=>(go2 ?_);replace hR:=hR.mono (aj.trans ai);refine cL (ev2 rfl rfl) call143 (fun w hs=>zQL hs hR oM oM) fun di h8 J ad=>(go6 ?_);refine qY rfl rfl rfl rfl ?_;replace H:=H.mono J;obtain⟨e1,e2⟩:=zM6 (X:=X) (Y:=Y) (s:=s) (u:=R) (q:=val S) oM (by rw[←hV,←hU];exact T) (by rw[←hV];exact M);rw[e1] at H;rw[e2] at ad;rw[if_neg C,if_neg C];exact⟨_,_,rfl,H,ad⟩
theorem zUE{w0:World}{h0:Mem}(hs:MLe h0 (mem w0)){v v':Value}{A B:Nat}(hv:Us .u32 h0 v (zB A))(hv':Us .u32 h0 v' (zB B))(hl:(zB A).length≤549755813888)(hl':(zB B).length≤549755813888):
 Calls Tryz.prog 92 #[v,v'] w0 (Ret w0 h0 (fun h r=>Us .u32 h r (zB (Nat.gcd A B)))):=by
 obtain⟨G,hG⟩:∃G,G=Nat.gcd A B:=⟨_,rfl⟩;rw[←hG];refine cb2 51 v v' func92 hs ?_;refine go8 ?_;refine cL (ev1 rfl) call91 (fun w hs=>fE hs hv oM) fun ae h1 ap J=>?_;rw[zC] at J;refine go1 ?_;replace hv':=hv'.mono ap;refine cL (ev1 rfl) call91 (fun w hs=>fE hs hv' oM) fun ad h2 bc I=>?_;rw[zC] at I;refine go6 ?_;refine gcL (ι:=Value×Nat×Value×Nat×Mem) (fun(vx,X,vy,Y,S)=>(MLe h2 S∧(Us .u32 S vx (zB X)∧Us .u32 S vy (zB Y)∧Nat.gcd X Y=G∧(zB X).length≤549755813888∧(zB Y).length≤549755813888),[(0,vx),(1,vy)],[],S,Y)) (ae,A,ad,B,h2) ?_ ?_
 · exact⟨mle,J.up,I,hG.symm,by omega,by omega⟩
 rintro⟨vx,X,vy,Y,S⟩ ⟨ar,⟨ha,O,H,bb,an⟩⟩
 refine yU ?_;refine gc8 (fun ac=>?_) fun ac=>?_
 ·
  have D:Y≠0:=yM.1 oM;refine go6 ?_;refine cL (ev1 rfl) call137 (fun w hs=>eL hs ha) fun ax h3 ab Z=>?_;subst Z;refine uQ ?_;replace O:=O.mono ab;refine cL (ev1 rfl) call137 (fun w hs=>eL hs O) fun aw h4 aa U=>?_;subst U;refine qT ?_;refine gU 3 32 (vB (((zB X).length≤2)∧((zB Y).length≤2))) ?_ ?_
  ·
   refine yD ((zB X).length≤2) (fun H=>?_) (fun H=>?_)
   ·
    refine gT H rfl (go4 ?_);refine gqU ?_;exact congrArg some (xN H)
   refine gF H rfl (go3 ?_);refine gqU ?_;exact congrArg some (xO H)
  refine gc2 (fun u=>?_) fun u=>?_
  ·
   rw[if_pos u.1,if_pos u.2];have aj:=aH u.1;have ai:=aH u.2;refine go2 ?_;refine gcL (ι:=Nat×Nat) (fun(m,n)=>(Nat.gcd m n=G∧m<18446744073709551616∧n<18446744073709551616,[(5,vU .u64 m),(7,vU .u64 n)],[],h4,n)) (X,Y) ?_ ?_
   · exact⟨H,aj,ai⟩
   rintro⟨m,n⟩ ⟨M,hm,hn⟩
   refine yU ?_;refine go4 ?_;refine gv (fF (k:=.u64) (q:=0) rfl rfl) rfl (gc2 (fun C=>?_) fun C=>?_)
   ·
    refine go3 ?_;refine zK 6 _ [] [(0,.q),(1,.q),(2,.q),(3,.q),(4,.q),(5,.q)] yC nX (by kernel_rfl) nX (fun r hr=>hr) (go3 ?_);refine xK rfl (fun _ _=>pK (k:=.u64) rfl rfl oM) rfl (go4 ?_);refine gqL (n,m%n) ?_ ?_
    ·
     have az:=Nat.mod_lt m (Nat.pos_of_ne_zero C);exact⟨by rw[nC];exact M,hn,by omega⟩
    exact Nat.mod_lt _ (Nat.pos_of_ne_zero C)
   refine go8 ?_;refine cL (ev1 rfl) call131 (fun w hs=>iR hs oM) fun av h5 ao T=>(go9 ?_);refine zD rfl rfl ?_;have am:n=0:=Classical.not_not.1 C;rw[am,Nat.gcd_zero_right] at M;rw[←M];exact T
  refine go6 ?_;replace ha:=ha.mono (ab.trans aa);replace O:=O.mono aa;refine cL (ev2 rfl rfl) call93 (fun w hs=>zFY hs ha O oM oM) fun au h5 ao z=>?_;obtain⟨ay,ah,rfl,aq,z⟩:=z;rw[if_neg D] at z;have ba:=zN (Nat.le_of_lt (Nat.mod_lt X (Nat.pos_of_ne_zero D)));refine zAQ ?_;refine gqL (vy,Y,ah,X%Y,h5) ?_ ?_
  · exact⟨mle,O.up,z,by rw[nC];exact H,an,by omega⟩
  exact Nat.mod_lt _ (Nat.pos_of_ne_zero D)
 have D:Y=0:=Classical.byContradiction fun ak=>by have:=yM.2 ak;omega
 refine qO ?_;refine zD rfl rfl ?_;rw[D,Nat.gcd_zero_right] at H;rw[←H];exact ha
end Go.Proofs.YtboaboflnckgoaaGreat
namespace Go.Proofs.YtboaboflnckgoaaGreat
open Bk Go Tryz
set_option linter.unusedVariables false
set_option linter.unusedSimpArgs false
set_option maxRecDepth 10000
set_option maxHeartbeats 1000000
attribute [local irreducible] GL GC GQ W OpV
theorem zL8{w0:World}{h0:Mem}(hs:MLe h0 (mem w0)):
 Calls Tryz.prog 122 #[] w0 (Ret w0 h0 (fun h r=>Us .u32 h r [1])):=by
 refine cb0 2 func122 hs ?_;refine go7 ?_;refine zF (kQ (kd:=.u32) (p:=1) underlying22 wL rfl rfl rfl) rfl rfl rfl ?_;intro v1 r1 u;obtain rfl:=u;refine yI (by intro z C;simp only[List.mem_singleton] at C;subst C;decide) ?_;intro D G D;refine go4 ?_;refine zD rfl rfl ?_;exact D
theorem gQ{w0:World}{h0:Mem}(hs:MLe h0 (mem w0)){sa:Bool}{vna vda:Value}{na da:List Nat}(hna:Us .u32 h0 vna na)(hda:Us .u32 h0 vda da):
 Calls Tryz.prog 120 #[.agg #[.bool sa,vna,vda]] w0 (Ret w0 h0 (fun h r=>Us .u32 h r (if da=[] then[1] else da))):=by
 refine cb1 10 (.agg #[.bool sa,vna,vda]) func120 hs ?_;refine go2 ?_;refine zF (xE (cs:=[_,_,_]) rfl rfl) rfl rfl rfl ?_;intro v1 r1 C;obtain⟨J,rfl,rfl⟩:=C;refine zGU (fun z=>?_) fun z=>?_
 ·
  refine go2 ?_;refine cL (vs:=[]) trivial call122 (fun w hs=>zL8 hs) fun H I G u=>?_;rw[rV] at u;have D:=j0;refine go5 ?_;refine zD rfl rfl ?_;rw[if_pos (List.eq_nil_of_length_eq_zero oM),rV];exact u
 refine uQ ?_;refine zD rfl rfl ?_;rw[if_neg (fun h=>z (by rw[h];rfl))];exact hda
theorem nQ{w0:World}{h0:Mem}(hs:MLe h0 (mem w0)){qa:Rat}{vna vda:Value}(hna:Us .u32 h0 vna (zB qa.num.natAbs))(hda:Us .u32 h0 vda (zB (xU qa.den)))(hl:(zB qa.num.natAbs).length≤1099511627776)(hl':(zB (xU qa.den)).length≤1099511627776):
 Calls Tryz.prog 185 #[.agg #[vB (qa.num<0),vna,vda]] w0 (Ret w0 h0 (fun h r=>wJ h r qa)):=by
 refine cb1 12 (.agg #[vB (qa.num<0),vna,vda]) func185 hs ?_;refine go2 ?_;refine zF (xE (cs:=[_,_,_]) rfl rfl) rfl rfl rfl ?_;intro v1 r1 O;obtain⟨b1,rfl,rfl⟩:=O;refine zF (wB (cs:=[vB ((0:Rat).num<0),.slice none 0 0,.slice none 0 0]) yP rfl (by simp only[zb];rfl)) rfl rfl rfl ?_;intro v2 r2 M;obtain⟨b2,rfl,rfl⟩:=M;refine go3 ?_;refine zK 9 _ [] [(0,.q),(1,.q),(2,.q),(3,.q),(5,.q),(6,.q),(4,.c),(7,.c),(8,.c),(9,.t)] yC nX (by kernel_rfl) nX (fun r Z=>Z) (go6 ?_);refine w_c rfl ?_;refine rS (vs:=[_]) call103 ⟨rfl,trivial⟩ (fun w hs=>pE hs hna oM) rfl ?_;intro Y h1 L7 I J;obtain rfl:=J;refine w_c rfl ?_;replace hda:=hda.mono I;refine rS (vs:=[_]) call103 ⟨rfl,trivial⟩ (fun w hs=>pE hs hda oM) rfl ?_;intro D h2 aa H G;obtain rfl:=G;refine w_c rfl ?_;replace hna:=hna.mono (I.trans H);refine pG (A:=[_]) (by exact hna.lt) (by simp only[List.mem_cons,List.not_mem_nil,or_false];rintro r (rfl|rfl) _<;>simp) ?_;intro h3 U u;replace hda:=hda.mono (H.trans U);refine pG (A:=[]) (by exact hda.lt) (by simp only[List.mem_cons,List.not_mem_nil,or_false];rintro r (rfl|rfl) _<;>simp) ?_;intro h4 T z;replace u:=u.mono T;refine zP6 (fun X=>yQ (ps':=[(0,_),(1,_),(2,_)]) (vs:=[vB (qa.num<0),Y,D]) underlying26 yP rfl (vD underlying26) e6z (yY (A:=[]) (B:=[_]) (C:=[_,_]) (cs:=[_]) (off:=0) (size:=1) rfl rfl rfl rfl rfl (yY (A:=[_]) (B:=[_]) (C:=[_]) (cs:=[_]) (off:=1) (size:=1) rfl rfl rfl rfl u.cells (yY (A:=[_,_]) (B:=[_]) (C:=[]) (cs:=[_]) (off:=2) (size:=1) rfl rfl rfl rfl z.cells vY)))) rfl (kV (A:=[]) (q':=.var b2 26 [vB (qa.num<0),Y,D]) rfl (zG (k:=0) (cs:=[_,_,_]) (vs:=[_,_,_]) rfl rfl rfl (ocr rfl (ocu u (ocu z oc0))) zV (bL rfl)) rfl (go3 ?_));refine yG (fun E S=>zQ rfl (xG (cs:=[_,_,_]) mh0 underlying26 rfl zV rfl) E S) ?_;exact⟨_,_,rfl,u,z⟩
end Go.Proofs.YtboaboflnckgoaaGreat
namespace Go.Proofs.YtboaboflnckgoaaGreat
open Bk Go Tryz
set_option linter.unusedVariables false
set_option linter.unusedSimpArgs false
set_option maxRecDepth 10000
set_option maxHeartbeats 1000000
attribute [local irreducible] GL GC GQ W OpV
theorem y8{w0:World}{h0:Mem}(hs:MLe h0 (mem w0)){v:Value}{xs:List Nat}(hv:Us .u32 h0 v xs)(hl:xs.length≤2):
 Calls Tryz.prog 163 #[v] w0 (Ret w0 h0 (fun _ r=>r=vU .u64 (val xs))):=by
 have D:Fit xs:=hv.lt;refine cb1 21 v func163 hs ?_;refine go2 ?_;refine asg (v:=vU .u64 0) rfl rfl (go4 ?_);refine asg (v:=vU .u64 0) rfl rfl (qO ?_);have z:val (xs.drop xs.length)=0:=by rw[List.drop_of_length_le (Nat.le_refl _)];rfl
 refine jP (ι:=Nat) (fun(j:(Nat))=>j≤xs.length) (fun(j:(Nat))=>[(0,v),(3,vU .u64 (val (xs.drop j))),(4,vI (↑j-1))]) (fun(j:(Nat))=>[]) (fun(j:(Nat))=>h0) (fun(j:(Nat))=>j) xs.length ?_ ⟨?_,?_,?_,trivial⟩ rfl rfl ?_
 · exact Nat.le_refl _
 · exact rfl
 · exact congrArg some (congrArg (vU .u64) z.symm)
 · exact rfl
 rintro j H
 refine yU ?_;refine gc7 (fun C=>?_) fun C=>?_
 ·
  refine go6 ?_;refine gv (kJ (k:=.u64) (s:=32) (yk:=.u64) (W:=18446744073709551616) rfl rfl rfl rfl) rfl (go2 ?_);refine gv (zP (j-1) underlying22 sizeOf127 rfl rfl hv oM oM) rfl (go1 ?_);have u:=hv.get32 (j-1);refine go1 ?_;refine gv (tF (k:=.u64) rfl rfl rfl (by simp only[ub];omega) (by simp only[ub];omega)) rfl ?_;rw[rA (by
   have G:=jZ (nE D j);rw[List.length_drop] at G;have I:(4294967296:Nat)^(xs.length-j)≤4294967296^1:=Nat.pow_le_pow_right oM oM;omega) u]
  refine go9 ?_;refine qN (j-1) ?_ ?_ ⟨rfl,?_,?_,trivial⟩ rfl rfl
  · omega
  · omega
  ·
   rw[jI xs (j-1) oM];exact congrArg some (congrArg (vU .u64) (by rw[show j-1+1=j by omega];omega))
  · exact congrArg some (congrArg vI oM)
 refine qO ?_;refine zD rfl rfl ?_;rw[show j=0 by omega];rfl
theorem zHQ{w0:World}{h0:Mem}(hs:MLe h0 (mem w0)){m n:Nat}(hm0:m<18446744073709551616)(hn0:n<18446744073709551616):
 Calls Tryz.prog 164 #[vU .u64 m,vU .u64 n] w0 (Ret w0 h0 (fun _ r=>r=vU .u64 (Nat.gcd m n))):=by
 refine cb2 12 (vU .u64 m) (vU .u64 n) func164 hs ?_;refine go2 ?_;refine asg (v:=vU .u64 0) rfl rfl (go4 ?_);refine gcL (ι:=Nat×Nat) (fun(x,y)=>(Nat.gcd x y=Nat.gcd m n∧x<18446744073709551616∧y<18446744073709551616,[(0,vU .u64 x),(1,vU .u64 y)],[],h0,y)) (m,n) ?_ ?_
 · exact⟨rfl,hm0,hn0⟩
 rintro⟨x,y⟩ ⟨z,I,G⟩
 refine yU ?_;refine go4 ?_;refine gv (fF (k:=.u64) (q:=0) rfl rfl) rfl (gc2 (fun u=>?_) fun u=>?_)
 ·
  refine go3 ?_;refine zK 6 _ [] [(0,.q),(1,.q),(2,.q),(3,.q),(4,.q),(5,.q)] yC nX (by kernel_rfl) nX (fun r D=>D) (go3 ?_);refine xK rfl (fun _ _=>pK (k:=.u64) rfl rfl oM) rfl (go4 ?_);refine gqL (y,x%y) ?_ ?_
  ·
   have H:=Nat.mod_lt x (Nat.pos_of_ne_zero u);exact⟨by rw[nC];exact z,G,by omega⟩
  exact Nat.mod_lt _ (Nat.pos_of_ne_zero u)
 refine qO ?_;refine zD rfl rfl ?_;have C:y=0:=Classical.not_not.1 u;rw[C,Nat.gcd_zero_right] at z;rw[z]
theorem zQP{w0:World}{h0:Mem}(hs:MLe h0 (mem w0)){n:Int}(hn:-9223372036854775808≤n)(hn':n<9223372036854775808):
 Calls Tryz.prog 121 #[vI n] w0 (Ret w0 h0 (fun h r=>Us .u32 h r (zB n.natAbs))):=by
 refine cb1 12 (vI n) func121 hs ?_;refine zGU (fun G=>?_) fun G=>?_
 ·
  have C:n.natAbs=9223372036854775808:=by omega
  refine go2 ?_;refine cL (vs:=[vU .u64 9223372036854775808]) ⟨rfl,trivial⟩ call167 (fun w hs=>zK4 hs oM) fun J I D z=>(go5 ?_);refine zD rfl rfl ?_;rw[C];exact z
 refine go6 ?_;refine gv (lL rfl oM oM) rfl (gv (zHY rfl rfl) rfl (gv (iT (p:=n.natAbs) (k':=.u64) (W:=18446744073709551616) underlying2 underlying130 rfl rfl (congrArg some (congrArg vI oM)) oM) rfl (cL (ev1 rfl) call167 (fun w hs=>zK4 hs oM) fun H I D u=>(go4 ?_))));refine zD rfl rfl ?_;exact u
end Go.Proofs.YtboaboflnckgoaaGreat
namespace Go.Proofs.YtboaboflnckgoaaGreat
open Bk Go Tryz
set_option linter.unusedVariables false
set_option linter.unusedSimpArgs false
set_option maxRecDepth 10000
set_option maxHeartbeats 1000000
attribute [local irreducible] GL GC GQ W OpV
theorem zEQ{w0 w:World}{h0 h:Mem}{v u:Value}{xs:List Nat}{L:List Res}{lo n:Nat}(hu:u=gH 1 v lo xs.length)(hlo:lo+2≤xs.length)(hn0:n≠0)(hn:n<18446744073709551616)(hs:St w0 h0 (.us 127 .u32 v xs::L) h w):
 Calls Tryz.prog 165 #[u,vU .u64 n] w (sQ w0 h0 (fun g r K=>g=h∧K=.us 127 .u32 v (xs.take lo++zB n++xs.drop (lo+(zB n).length))::L∧r=vI ↑(zB n).length)):=by
 refine rJ (n:=17) (e:=[(0,u),(1,vU .u64 n)]) (vs:=[u,vU .u64 n]) func165 rfl rfl (bL rfl) hs e2z (uQ ?_);refine gv (iD (q:=0) mh0 hu (0) underlying22 sizeOf127 rfl rfl rfl oM) rfl (wA sizeOf127 rfl rfl oM (go7 ?_));refine gv (gB (k:=.u64) (q:=0) rfl rfl) rfl (gc2 (fun C=>?_) fun C=>?_)
 ·
  refine go7 ?_;refine jV rfl rfl ?_;have z:n<4294967296:=by omega
  refine⟨rfl,?_,by rw[jO hn0 z];rfl⟩;rw[Nat.mod_eq_of_lt z,Nat.add_zero,putL oM hn0 z]
 refine go8 ?_;refine gv (iD (q:=1) mh0 (by rw[lS];exact hu) (1) underlying22 sizeOf127 rfl rfl rfl (by rw[lS];omega)) rfl (wA sizeOf127 rfl rfl (by simp;omega) (go8 ?_));refine jV rfl rfl ?_;have z:4294967296≤n:=by omega
 have D:n/2^32%4294967296=n/4294967296:=by omega
 refine⟨rfl,?_,?_⟩
 · rw[D,Nat.add_zero,yA0 hlo hn z]
 · rw[jY oM,jO (t:=n/4294967296) oM oM];rfl
theorem cW{w0:World}{h0:Mem}(hs:MLe h0 (mem w0)){s:Prop}{n d:Nat}(hn:n<18446744073709551616)(hd:d<18446744073709551616)(hd0:d≠0):
 Calls Tryz.prog 118 #[vB s,vU .u64 n,vU .u64 d] w0 (Ret w0 h0 (fun h r=>wJ h r (mkRat (sg s n) d))):=by
 refine cb3 50 (vB s) (vU .u64 n) (vU .u64 d) func118 hs ?_;refine go2 ?_;refine zF (wB (cs:=[vB ((0:Rat).num<0),.slice none 0 0,.slice none 0 0]) yP rfl (by simp only[zb];rfl)) rfl rfl rfl ?_;intro v6 r6 ab;obtain⟨b6,rfl,rfl⟩:=ab;refine go6 ?_;refine gv (gB (k:=.u64) (q:=0) rfl rfl) rfl (gc2 (fun H=>?_) fun H=>?_)
 ·
  refine go2 ?_;refine gv (yQ (ps':=[]) (vs:=[vB ((0:Rat).num<0),.slice none 0 0,.slice none 0 0]) underlying26 yP rfl (vD underlying26) trivial (by simp only[zb];exact vY)) rfl (xQ (A:=[]) (r':=.var b6 26 [vB ((0:Rat).num<0),.slice none 0 0,.slice none 0 0]) (zG (k:=0) (cs:=[_,_,_]) (vs:=[_,_,_]) rfl rfl rfl rfl zV (bL rfl)) rfl rfl rfl (go4 ?_));refine yG (fun E S=>zQ rfl (xG (cs:=[_,_,_]) mh0 underlying26 rfl zV rfl) E S) ?_;rw[H,u9];exact wJ.zero _
 have T:n≠0:=by omega
 refine go6 ?_;refine cL (ev2 rfl rfl) call164 (fun w hs=>zHQ hs oM oM) fun au h1 ba M=>?_;subst M;refine go1 ?_;have U:0<Nat.gcd n d:=Nat.gcd_pos_of_pos_left d oM;have ac:n/Nat.gcd n d≠0:=Nat.ne_of_gt (Nat.div_pos (Nat.le_of_dvd oM (Nat.gcd_dvd_left n d)) U);have aj:d/Nat.gcd n d≠0:=Nat.ne_of_gt (Nat.div_pos (Nat.le_of_dvd oM (Nat.gcd_dvd_right n d)) U);have ax:=Nat.div_le_self n (Nat.gcd n d);have bb:=Nat.div_le_self d (Nat.gcd n d);refine go3 ?_;refine zK 8 _ [] [(0,.q),(1,.q),(2,.q),(3,.q),(4,.q),(5,.q),(6,.q),(7,.q)] yC nX (by kernel_rfl) nX (fun r hr=>hr) (go2 ?_);refine xK rfl (fun _ _=>pL (k:=.u64) (W:=18446744073709551616) rfl rfl rfl rfl oM oM) rfl (go2 ?_);refine xK rfl (fun _ _=>pL (k:=.u64) (W:=18446744073709551616) rfl rfl rfl rfl oM oM) rfl (go2 ?_);generalize hA:n/Nat.gcd n d=A at *;generalize hB:d/Nat.gcd n d=B at *;have az:=kD (n:=A) oM;have ay:=kD (n:=B) oM;refine go4 ?_;refine qH (kd:=.u32) (by':=4) (q:=4) (q':=4) 4 underlying22 wL rfl rfl rfl rfl rfl rfl rfl oM oM rfl ?_;intro u;refine go7 ?_;refine oW (vs:=[_,_]) rfl rfl rfl rfl call165 e2z (fun w hs=>zEQ (hs.own_self (.head _)) dC ac oM hs) ?_;intro ar am ao D;obtain⟨Z,Y,D⟩:=D;rw[Z,Y]
 clear Z Y am ao
 subst D;rw[show List.take 0 (List.replicate 4 0)++zB A++List.drop (0+(zB A).length) (List.replicate 4 0)=zB A++List.replicate (4-(zB A).length) 0 from by rw[List.take_zero,List.nil_append,Nat.zero_add,List.drop_replicate]];have ah:(zB A++List.replicate (4-(zB A).length) 0).length=4:=by simp;omega
 refine go9 ?_;refine zSB (.head _) (fun ad bc J ap=>?_);have G:kG 1 u 0 (zB A).length (zB A).length=.slice (if(zB A).length=0 then ad else ad.map (·.add (0*1))) ((zB A).length-0) ((zB A).length-0):=by rw[J];rfl
 refine gv (zCM mh0 _ _ underlying22 sizeOf127 rfl rfl rfl rfl rfl oM oM) rfl (gv (yQ (ps':=[(0,_),(1,_)]) (vs:=[vB s,kG 1 u 0 _ _,.slice none 0 0]) underlying26 yP rfl (vD underlying26) e4z (yY (A:=[]) (B:=[_]) (C:=[_,_]) (cs:=[_]) (off:=0) (size:=1) rfl rfl rfl rfl rfl (yY (A:=[_]) (B:=[_]) (C:=[_]) (cs:=[_]) (off:=1) (size:=1) rfl rfl rfl rfl (by rw[G];rfl) vY))) rfl (zF (wB (cs:=[vB ((0:Rat).num<0),.slice none 0 0,.slice none 0 0]) yP rfl (by simp only[zb];rfl)) rfl rfl rfl ?_));intro av aw O;obtain⟨aa,rfl,rfl⟩:=O;refine xQ (A:=[]) (r':=.var aa 26 [vB s,kG 1 u 0 _ _,.slice none 0 0]) (zG (k:=0) (cs:=[_,_,_]) (vs:=[vB s,kG 1 u 0 _ _,.slice none 0 0]) rfl rfl rfl (by rw[G];rfl) zV (bL rfl)) rfl rfl rfl (go6 ?_);refine gv (lO (k:=.u64) (q:=1) rfl rfl) rfl (gc2 (fun X=>?_) fun X=>?_)
 ·
  refine go5 ?_;refine gv (zCL mh1 _ underlying22 sizeOf127 rfl rfl rfl oM) rfl (go1 ?_);refine zIX (A:=[_]) ?_;refine oW (vs:=[_,_]) rfl rfl rfl rfl call165 e2z (fun w hs=>zEQ (lo:=(zB A).length) (by rfl) oM aj oM hs) ?_;intro aq ak an z;obtain⟨Z,Y,z⟩:=z;rw[Z,Y]
  clear Z Y ak an
  subst z;rw[show List.take (zB A).length (zB A++List.replicate (4-(zB A).length) 0)++zB B++List.drop ((zB A).length+(zB B).length) (zB A++List.replicate (4-(zB A).length) 0)=zB A++zB B++List.replicate (4-(zB A).length-(zB B).length) 0 from by simp];have ae:(zB A++zB B++List.replicate (4-(zB A).length-(zB B).length) 0).length=4:=by simp;omega
  refine go9 ?_;have I:kG 1 u (zB A).length ((zB A).length+(zB B).length) ((zB A).length+(zB B).length)=.slice (if(zB A).length+(zB B).length=(zB A).length then ad else ad.map (·.add ((zB A).length*1))) ((zB A).length+(zB B).length-(zB A).length) ((zB A).length+(zB B).length-(zB A).length):=by rw[J];rfl
  refine gv (zD5 mh0 ((zB A).length) ((zB A).length+(zB B).length) ((zB A).length+(zB B).length) underlying22 sizeOf127 rfl rfl rfl rfl oM oM oM oM oM oM) rfl (go1 ?_);refine xQ (A:=[_]) (r':=.var aa 26 [vB s,kG 1 u 0 _ _,kG 1 u ((zB A).length) ((zB A).length+(zB B).length) ((zB A).length+(zB B).length)]) (zG (k:=2) (cs:=[_,_,_]) (vs:=[kG 1 u ((zB A).length) ((zB A).length+(zB B).length) ((zB A).length+(zB B).length)]) rfl rfl (by rw[I];rfl) (by rw[I];rfl) zPX (bL rfl)) rfl rfl rfl (go4 ?_);refine yI (by first|exact wZ (wZ (xS A) (xS B)) (qB _)|exact wZ (xS A) (qB _)) ?_;intro h2 ai hz;refine go1 ?_;refine xQ (A:=[_]) (r':=.var b6 26 [vB s,kG 1 u 0 _ _,kG 1 u ((zB A).length) ((zB A).length+(zB B).length) ((zB A).length+(zB B).length)]) (zG (k:=0) (cs:=[_,_,_]) (vs:=[vB s,kG 1 u 0 _ _,kG 1 u ((zB A).length) ((zB A).length+(zB B).length) ((zB A).length+(zB B).length)]) rfl rfl rfl (by rw[G,I];rfl) zV (bL rfl)) rfl rfl rfl (go3 ?_);refine yG (fun E S=>zQ rfl (xG (cs:=[_,_,_]) mh1 underlying26 rfl zV rfl) E S) ?_;have z1:=hz.sub3 (lo:=0) (hi:=(zB A).length) (mx:=(zB A).length) oM oM oM;have z2:=hz.sub3 (lo:=(zB A).length) (hi:=(zB A).length+(zB B).length) (mx:=(zB A).length+(zB B).length) oM oM oM;refine wJ.make T hd0 ?_ ?_
  · rw[hA];simpa using z1
  · rw[hB];rw[cS oM];simpa using z2
 refine go4 ?_;refine zEC (by first|exact wZ (wZ (xS A) (xS B)) (qB _)|exact wZ (xS A) (qB _)) ?_;intro h2 ai hz;refine go1 ?_;refine xQ (A:=[_]) (r':=.var b6 26 [vB s,kG 1 u 0 _ _,.slice none 0 0]) (zG (k:=0) (cs:=[_,_,_]) (vs:=[vB s,kG 1 u 0 _ _,.slice none 0 0]) rfl rfl rfl (by rw[G];rfl) zV (bL rfl)) rfl rfl rfl (go3 ?_);refine yG (fun E S=>zQ rfl (xG (cs:=[_,_,_]) mh1 underlying26 rfl zV rfl) E S) ?_;have z1:=hz.sub3 (lo:=0) (hi:=(zB A).length) (mx:=(zB A).length) oM oM oM;refine wJ.make T hd0 ?_ ?_
 · rw[hA];simpa using z1
 · rw[hB];rw[show B=1 by omega,pV,yS];exact Us.nil _ _
theorem sT{w0:World}{h0:Mem}(hs:MLe h0 (mem w0)){qa:Rat}{vna vda:Value}(hna:Us .u32 h0 vna (zB qa.num.natAbs))(hda:Us .u32 h0 vda (zB (xU qa.den))):
 Calls Tryz.prog 117 #[.agg #[vB (qa.num<0),vna,vda]] w0 (Ret w0 h0 (fun _ r=>r=.tuple #[vU .u64 (pN qa),vU .u64 (pD qa),vB (fS qa)])):=by
 refine cb1 30 (.agg #[vB (qa.num<0),vna,vda]) func117 hs ?_;refine go2 ?_;refine zF (xE (cs:=[_,_,_]) rfl rfl) rfl rfl rfl ?_;intro v1 r1 M;obtain⟨X,rfl,rfl⟩:=M;refine asg (v:=vU .u64 0) rfl rfl (asg (v:=vU .u64 0) rfl rfl (uQ ?_));refine gU 6 14 (vB (((1:Int)<(↑(zB qa.num.natAbs).length:Int))∨((1:Int)<(↑(zB (xU qa.den)).length:Int)))) ?_ ?_
 ·
  refine yD ((1:Int)<(↑(zB qa.num.natAbs).length:Int)) (fun I=>?_) (fun I=>?_)
  ·
   refine gT I rfl (go6 ?_);refine gqU ?_;exact congrArg some (vZ I)
  refine gF I rfl (uQ ?_);refine gqU ?_;exact congrArg some (uA I)
 refine gc2 (fun D=>?_) fun D=>?_
 ·
  have G:¬fS qa:=zJX D;refine go2 ?_;refine asg (v:=vU .u64 0) rfl rfl (asg (v:=vU .u64 0) rfl rfl (go5 ?_));refine qY rfl rfl rfl rfl ?_;rw[pN_f G,pD_f G,yV G]
 have u:fS qa:=zNS D;have S:=gO u;have T:=gP u;refine go4 ?_;refine asg (v:=vU .u64 1) rfl rfl (zDI (fun C=>?_) fun C=>?_)
 ·
  have H:(zB (xU qa.den)).getD 0 0=qa.den:=zSK C;refine go3 ?_;refine gv (zP (q:=0) (0) underlying22 sizeOf127 rfl rfl hda rfl oM) rfl (go1 ?_);rw[H];refine go8 ?_;refine cL (ev1 rfl) call163 (fun w hs=>y8 hs hna oM) fun J U O z=>?_
  try simp only[zC] at z
  subst z;refine go2 ?_;refine gv (OpV.tr (by have:=qa.den_nz;omega) (fF (k:=.u64) (q:=0) rfl rfl)) rfl (go6 ?_);refine qY rfl rfl rfl rfl ?_;rw[zD3 u,zD4 u,xM u]
 have H:qa.den=1:=zSL C u;refine go6 ?_;refine cL (ev1 rfl) call163 (fun w hs=>y8 hs hna oM) fun J U O z=>?_
 try simp only[zC] at z
 subst z;refine go2 ?_;refine gv (OpV.tr (by have:=qa.den_nz;omega) (fF (k:=.u64) (q:=0) rfl rfl)) rfl (go6 ?_);refine qY rfl rfl rfl rfl ?_;rw[zD3 u,zD4 u,xM u,H]
theorem jR{w0:World}{h0:Mem}(hs:MLe h0 (mem w0)){s:Prop}{vn vd:Value}{xs ys:List Nat}(hn:Us .u32 h0 vn xs)(hd:Us .u32 h0 vd ys)(hl:xs.length≤1000000000000)(hl':ys.length≤1000000000000):
 Calls Tryz.prog 119 #[vB s,vn,vd] w0 (Ret w0 h0 (fun h r=>wJ h r (mkRat (sg s (val xs)) (val ys)))):=by
 have cd:=kT (n:=val xs);have cc:=kT (n:=val ys);have bw:=wS hn.lt;have bv:=wS hd.lt;refine cb3 68 (vB s) vn vd func119 hs ?_;refine go2 ?_;refine zF (wB (cs:=[vB ((0:Rat).num<0),.slice none 0 0,.slice none 0 0]) yP rfl (by simp only[zb];rfl)) rfl rfl rfl ?_;intro v6 r6 bd;obtain⟨b6,rfl,rfl⟩:=bd;refine go6 ?_;refine cL (ev1 rfl) call94 (fun w hs=>pP hs hn oM) fun v9 h1 ad ax=>?_
 try simp only[zC] at ax
 subst ax;refine go1 ?_;refine uL (ι:=Mem) 5 (fun m_=>MLe h1 m_) (fun _=>[(15,vB (((↑(xZ (val (xs))):Int)=(0:Int))∨((↑(xZ (val (ys))):Int)=(0:Int)))),(0,vB s),(1,vn),(2,vd),(6,vP b6 0)]) (fun _=>[.var b6 26 [vB ((0:Rat).num<0),.slice none 0 0,.slice none 0 0]]) (fun m_=>m_) ?_ ?_
 ·
  refine yD ((↑(xZ (val (xs))):Int)=(0:Int)) (fun H=>?_) (fun H=>?_)
  ·
   refine gT H rfl (go5 ?_);refine zO h1 (MLe.refl _) ⟨?_,rfl,rfl,rfl,rfl,trivial⟩ rfl rfl;exact congrArg some (vZ H)
  refine gF H rfl (go3 ?_);replace hd:=hd.mono ad;refine cL (ev1 rfl) call94 (fun w hs=>pP hs hd oM) fun bp h2 M ao=>?_
  try simp only[zC] at ao
  subst ao;refine go4 ?_;refine zO h2 M ⟨?_,rfl,rfl,rfl,rfl,trivial⟩ rfl rfl;exact congrArg some (uA H)
 intro bc D;refine tJ ?_;refine gc2 (fun U=>?_) fun U=>?_
 ·
  refine go2 ?_;refine gv (yQ (ps':=[]) (vs:=[vB ((0:Rat).num<0),.slice none 0 0,.slice none 0 0]) underlying26 yP rfl (vD underlying26) trivial (by simp only[zb];exact vY)) rfl (xQ (A:=[]) (r':=.var b6 26 [vB ((0:Rat).num<0),.slice none 0 0,.slice none 0 0]) (zG (k:=0) (cs:=[_,_,_]) (vs:=[_,_,_]) rfl rfl rfl rfl zV (bL rfl)) rfl rfl rfl (go4 ?_));refine yG (fun E S=>zQ rfl (xG (cs:=[_,_,_]) mh0 underlying26 rfl zV rfl) E S) ?_
  rcases U with h|h
  · rw[show val xs=0 by omega,u9];exact wJ.zero _
  · rw[show val ys=0 by omega,u6];exact wJ.zero _
 have ah:val xs≠0:=fun h=>U (.inl oM);have aj:val ys≠0:=fun h=>U (.inr oM);replace hn:=hn.mono (ad.trans D);refine go8 ?_;refine gU 5 24 (vB (((↑(xs).length:Int)≤(2:Int))∧((↑(ys).length:Int)≤(2:Int)))) ?_ ?_
 ·
  refine yD ((↑(xs).length:Int)≤(2:Int)) (fun H=>?_) (fun H=>?_)
  ·
   refine gT H rfl ?_;replace hd:=hd.mono (ad.trans D);refine go8 ?_;refine gqU ?_;exact congrArg some (xN H)
  refine gF H rfl (go5 ?_);refine gqU ?_;exact congrArg some (xO H)
 refine gc2 (fun bb=>?_) fun bb=>?_
 ·
  have bu:=aH (n:=val xs) oM;have cb:=aH (n:=val ys) oM;refine go4 ?_;refine cL (ev1 rfl) call163 (fun w hs=>y8 hs hn oM) fun bo h2 M an=>?_
  try simp only[zC] at an
  subst an;refine go1 ?_;replace hd:=hd.mono ((ad.trans D).trans M);refine cL (ev1 rfl) call163 (fun w hs=>y8 hs hd oM) fun bn h3 X am=>?_
  try simp only[zC] at am
  subst am;refine cL (ev3 rfl rfl rfl) call118 (fun w hs=>cW hs oM oM oM) fun bm h4 ac ay=>?_;obtain⟨av,aw,rfl,ap,aq⟩:=ay;refine xQ (A:=[]) (r':=.var b6 26 [vB ((mkRat (sg (s) (val (xs))) (val (ys))).num<0),av,aw]) (zG (k:=0) (cs:=[_,_,_]) (vs:=[_,_,_]) rfl rfl rfl (ocr rfl (ocu ap (ocu aq oc0))) zV (bL rfl)) rfl rfl rfl (go4 ?_);refine yG (fun E S=>zQ rfl (xG (cs:=[_,_,_]) mh0 underlying26 rfl zV rfl) E S) ?_;exact⟨_,_,rfl,ap,aq⟩
 refine go7 ?_;replace hd:=hd.mono (ad.trans D);refine cL (ev2 rfl rfl) call166 (fun w hs=>zU0 hs hn hd oM oM) fun bl h2 M G=>?_
 try simp only[zC] at G
 have bg:=iE (val (xs)) (val (ys));have ba:Nat.gcd (val xs) (val ys)≠0:=Nat.ne_of_gt (Nat.gcd_pos_of_pos_left _ oM);have ca:=zN (Nat.le_of_dvd oM (Nat.gcd_dvd_left (val xs) (val ys)));refine go6 ?_;refine cL (ev1 rfl) call94 (fun w hs=>pP hs G oM) fun bk h3 X ak=>?_
 try simp only[zC] at ak
 subst ak;refine gc3 (fun ae=>?_) fun ae=>?_
 ·
  refine go4 ?_;replace hn:=hn.mono (M.trans X);replace G:=G.mono X;refine cL (ev2 rfl rfl) call147 (fun w hs=>eP hs hn G oM oM) fun bj h4 ac ab=>?_;obtain⟨bt,br,rfl,T,ab⟩:=ab
  try simp only[zC] at T ab ⊢
  have bf:=zN (Nat.div_le_self (val (xs)) (((Nat.gcd (val (xs)) (val (ys))))));have bz:=zN (Nat.div_le_self (val xs) (Nat.gcd (val xs) (val ys)));refine uQ ?_;replace hd:=hd.mono ((M.trans X).trans ac);replace G:=G.mono ac;refine cL (ev2 rfl rfl) call147 (fun w hs=>eP hs hd G oM oM) fun bi h5 ai aa=>?_;obtain⟨bs,bq,rfl,O,aa⟩:=aa
  try simp only[zC] at O aa ⊢
  have be:=zN (Nat.div_le_self (val (ys)) (((Nat.gcd (val (xs)) (val (ys))))));have bx:=zN (Nat.div_le_self (val ys) (Nat.gcd (val xs) (val ys)));refine uQ ?_;replace T:=T.mono ai;refine cL (ev2 rfl rfl) call100 (fun w hs=>aF hs T (Us.nil _ _) (by first|omega|(simp only[lN];omega)) (by first|omega|(simp only[lN];omega))) fun J h6 bh u=>?_
  try simp only[zC] at u
  have au:=uD ((((val (xs))/(((Nat.gcd (val (xs)) (val (ys)))))))) (val ([]));refine go1 ?_;replace O:=O.mono bh;refine cL (ev2 rfl rfl) call100 (fun w hs=>aF hs O (Us.nil _ _) (by first|omega|(simp only[lN];omega)) (by first|omega|(simp only[lN];omega))) fun Z h7 az z=>?_
  try simp only[zC] at z
  have ar:=uD ((((val (ys))/(((Nat.gcd (val (xs)) (val (ys)))))))) (val ([]));refine uQ ?_;refine gU 6 63 (vB (((↑(zB (((((val (ys))/(((Nat.gcd (val (xs)) (val (ys))))))))+(val ([])))).length:Int)=(1:Int))∧(((zB (((((val (ys))/(((Nat.gcd (val (xs)) (val (ys))))))))+(val ([])))).getD (0) 0)=(1:Nat)))) ?_ ?_
  ·
   refine yD ((↑(zB (((((val (ys))/(((Nat.gcd (val (xs)) (val (ys))))))))+(val ([])))).length:Int)=(1:Int)) (fun H=>?_) (fun H=>?_)
   ·
    refine gT H rfl (go3 ?_);refine gv (zP (q:=0) (0) underlying22 sizeOf127 rfl rfl z rfl oM) rfl (go3 ?_);refine gv (gB (k:=.u32) (q:=1) rfl rfl) rfl (go2 ?_);refine gqU ?_;exact congrArg some (xN H)
   refine gF H rfl (go6 ?_);refine gqU ?_;exact congrArg some (xO H)
  refine gc2 (fun I=>?_) fun I=>?_
  ·
   refine go9 ?_;replace u:=u.mono az;refine gv (yQ (ps':=[(0,_),(1,_),(2,_)]) (vs:=[vB s,J,.slice none 0 0]) underlying26 yP rfl (vD underlying26) e6z (yY (A:=[]) (B:=[_]) (C:=[_,_]) (cs:=[_]) (off:=0) (size:=1) rfl rfl rfl rfl rfl (yY (A:=[_]) (B:=[_]) (C:=[_]) (cs:=[_]) (off:=1) (size:=1) rfl rfl rfl rfl u.cells (yY (A:=[_,_]) (B:=[_]) (C:=[]) (cs:=[_]) (off:=2) (size:=1) rfl rfl rfl rfl rfl vY)))) rfl (xQ (A:=[]) (r':=.var b6 26 [vB s,J,.slice none 0 0]) (zG (k:=0) (cs:=[_,_,_]) (vs:=[_,_,_]) rfl rfl rfl (ocr rfl (ocu u (ocr rfl oc0))) zV (bL rfl)) rfl rfl rfl (go3 ?_));refine yG (fun E S=>zQ rfl (xG (cs:=[_,_,_]) mh0 underlying26 rfl zV rfl) E S) ?_;exact wJ.fin1 ah aj u I
  refine go7 ?_;replace u:=u.mono az;refine gv (yQ (ps':=[(0,_),(1,_),(2,_)]) (vs:=[vB s,J,Z]) underlying26 yP rfl (vD underlying26) e6z (yY (A:=[]) (B:=[_]) (C:=[_,_]) (cs:=[_]) (off:=0) (size:=1) rfl rfl rfl rfl rfl (yY (A:=[_]) (B:=[_]) (C:=[_]) (cs:=[_]) (off:=1) (size:=1) rfl rfl rfl rfl u.cells (yY (A:=[_,_]) (B:=[_]) (C:=[]) (cs:=[_]) (off:=2) (size:=1) rfl rfl rfl rfl z.cells vY)))) rfl (xQ (A:=[]) (r':=.var b6 26 [vB s,J,Z]) (zG (k:=0) (cs:=[_,_,_]) (vs:=[_,_,_]) rfl rfl rfl (ocr rfl (ocu u (ocu z oc0))) zV (bL rfl)) rfl rfl rfl (go3 ?_));refine yG (fun E S=>zQ rfl (xG (cs:=[_,_,_]) mh0 underlying26 rfl zV rfl) E S) ?_;exact wJ.fin ah aj u z I
 refine go5 ?_;replace hn:=hn.mono (M.trans X);refine cL (ev2 rfl rfl) call100 (fun w hs=>aF hs hn (Us.nil _ _) (by first|omega|(simp only[lN];omega)) (by first|omega|(simp only[lN];omega))) fun J h4 ac u=>?_
 try simp only[zC] at u
 have au:=uD (val (xs)) (val ([]));refine go1 ?_;replace hd:=hd.mono ((M.trans X).trans ac);refine cL (ev2 rfl rfl) call100 (fun w hs=>aF hs hd (Us.nil _ _) (by first|omega|(simp only[lN];omega)) (by first|omega|(simp only[lN];omega))) fun Z h5 ai z=>?_
 try simp only[zC] at z
 have ar:=uD (val (ys)) (val ([]));refine uQ ?_;refine gU 6 63 (vB (((↑(zB ((val (ys))+(val ([])))).length:Int)=(1:Int))∧(((zB ((val (ys))+(val ([])))).getD (0) 0)=(1:Nat)))) ?_ ?_
 ·
  refine yD ((↑(zB ((val (ys))+(val ([])))).length:Int)=(1:Int)) (fun H=>?_) (fun H=>?_)
  ·
   refine gT H rfl (go3 ?_);refine gv (zP (q:=0) (0) underlying22 sizeOf127 rfl rfl z rfl oM) rfl (go3 ?_);refine gv (gB (k:=.u32) (q:=1) rfl rfl) rfl (go2 ?_);refine gqU ?_;exact congrArg some (xN H)
  refine gF H rfl (go6 ?_);refine gqU ?_;exact congrArg some (xO H)
 refine gc2 (fun I=>?_) fun I=>?_
 ·
  refine go9 ?_;replace u:=u.mono ai;refine gv (yQ (ps':=[(0,_),(1,_),(2,_)]) (vs:=[vB s,J,.slice none 0 0]) underlying26 yP rfl (vD underlying26) e6z (yY (A:=[]) (B:=[_]) (C:=[_,_]) (cs:=[_]) (off:=0) (size:=1) rfl rfl rfl rfl rfl (yY (A:=[_]) (B:=[_]) (C:=[_]) (cs:=[_]) (off:=1) (size:=1) rfl rfl rfl rfl u.cells (yY (A:=[_,_]) (B:=[_]) (C:=[]) (cs:=[_]) (off:=2) (size:=1) rfl rfl rfl rfl rfl vY)))) rfl (xQ (A:=[]) (r':=.var b6 26 [vB s,J,.slice none 0 0]) (zG (k:=0) (cs:=[_,_,_]) (vs:=[_,_,_]) rfl rfl rfl (ocr rfl (ocu u (ocr rfl oc0))) zV (bL rfl)) rfl rfl rfl (go3 ?_));refine yG (fun E S=>zQ rfl (xG (cs:=[_,_,_]) mh0 underlying26 rfl zV rfl) E S) ?_;have Y:=zFM ae ba;exact wJ.fin1 ah aj (by rw[Y,Nat.div_one];exact u) (by rw[Y,Nat.div_one];exact I)
 refine go7 ?_;replace u:=u.mono ai;refine gv (yQ (ps':=[(0,_),(1,_),(2,_)]) (vs:=[vB s,J,Z]) underlying26 yP rfl (vD underlying26) e6z (yY (A:=[]) (B:=[_]) (C:=[_,_]) (cs:=[_]) (off:=0) (size:=1) rfl rfl rfl rfl rfl (yY (A:=[_]) (B:=[_]) (C:=[_]) (cs:=[_]) (off:=1) (size:=1) rfl rfl rfl rfl u.cells (yY (A:=[_,_]) (B:=[_]) (C:=[]) (cs:=[_]) (off:=2) (size:=1) rfl rfl rfl rfl z.cells vY)))) rfl (xQ (A:=[]) (r':=.var b6 26 [vB s,J,Z]) (zG (k:=0) (cs:=[_,_,_]) (vs:=[_,_,_]) rfl rfl rfl (ocr rfl (ocu u (ocu z oc0))) zV (bL rfl)) rfl rfl rfl (go3 ?_));refine yG (fun E S=>zQ rfl (xG (cs:=[_,_,_]) mh0 underlying26 rfl zV rfl) E S) ?_;have Y:=zFM ae ba;exact wJ.fin ah aj (by rw[Y,Nat.div_one];exact u) (by rw[Y,Nat.div_one];exact z) (by rw[Y,Nat.div_one];exact I)
end Go.Proofs.YtboaboflnckgoaaGreat
namespace Go.Proofs.YtboaboflnckgoaaGreat
open Bk Go Tryz
set_option linter.unusedVariables false
set_option linter.unusedSimpArgs false
set_option maxRecDepth 10000
set_option maxHeartbeats 1000000
attribute [local irreducible] GL GC GQ W OpV
theorem zHD{w0:World}{h0:Mem}(hs:MLe h0 (mem w0)){v v':Value}{xs ys:List Nat}(hv:Us .u32 h0 v xs)(hv':Us .u32 h0 v' ys):
 Calls Tryz.prog 161 #[v,v'] w0 (Ret w0 h0 (fun _ r=>r=vB (xs=ys))):=by
 have I:=hv.lt63;have H:=hv'.lt63;refine cb2 26 v v' func161 hs ?_;refine qT ?_;refine gv (wQ underlying22 rfl hv') rfl (gc3 (fun z=>?_) fun z=>?_)
 ·
  refine go7 ?_;refine zD rfl rfl ?_;rw[yV (fun e=>z (by rw[e]))]
 have G:xs.length=ys.length:=by omega
 refine qT ?_;refine gcL (ι:=Nat) (fun(i:(Nat))=>(i≤xs.length∧xs.take i=ys.take i,[(0,v),(1,v'),(12,vI ↑xs.length),(13,vI ↑i)],[],h0,xs.length-i)) 0 ?_ ?_
 · exact⟨by omega,by simp⟩
 rintro i ⟨hi,D⟩
 refine yU ?_;refine gc6 (fun C=>?_) fun C=>?_
 ·
  refine qT ?_;refine zK 9 _ [] [(0,.q),(1,.q),(2,.q),(3,.q),(4,.q),(5,.q),(6,.q),(7,.q),(8,.q)] yC nX (by kernel_rfl) nX (fun r J=>J) (go2 ?_);refine w_q rfl (fun h' L' hh hR=>zP (i) underlying22 sizeOf127 rfl rfl (hv.mono hh) oM oM) rfl (w_q rfl (fun h' L' hh hR=>xH isAgg127 rfl (hv.mono hh) oM) rfl (go2 ?_));refine w_q rfl (fun h' L' hh hR=>zP (i) underlying22 sizeOf127 rfl rfl (hv'.mono hh) oM oM) rfl (w_q rfl (fun h' L' hh hR=>xH isAgg127 rfl (hv'.mono hh) oM) rfl (gc3 (fun u=>?_) fun u=>?_))
  ·
   refine qT ?_;refine zD rfl rfl ?_;rw[yV (fun e=>u (by rw[e]))]
  refine go7 ?_;refine gqL (i+1) ?_ ?_ (he:=⟨rfl,rfl,rfl,?_,trivial⟩)
  ·
   refine⟨by omega,?_⟩;rw[eE xs i oM,eE ys i oM,D];have e:=Classical.not_not.1 u;rw[e]
  · omega
  · exact congrArg some (congrArg vI oM)
 refine qT ?_;refine zD rfl rfl ?_;have M:xs=ys:=by
  have e:i=xs.length:=by omega
  rw[e,List.take_length,G,List.take_length] at D;exact D
 rw[xM M]
theorem y9{w0:World}{h0:Mem}(hs:MLe h0 (mem w0)){qa:Rat}{vna vda:Value}(hna:Us .u32 h0 vna (zB qa.num.natAbs))(hda:Us .u32 h0 vda (zB (xU qa.den)))(hqa:lq qa≤100000000000):
 Calls Tryz.prog 51 #[.agg #[vB (qa.num<0),vna,vda]] w0 (Ret w0 h0 (fun _ r=>r=vI (xJ qa))):=by
 have G:=wF qa;have H:=wP qa;have I:=wC qa;refine cb1 11 (.agg #[vB (qa.num<0),vna,vda]) func51 hs ?_;refine go2 ?_;refine zF (xE (cs:=[_,_,_]) rfl rfl) rfl rfl rfl ?_;intro v1 r1 D;obtain⟨S,rfl,rfl⟩:=D;refine go9 ?_;refine cL (ev1 rfl) call94 (fun w hs=>pP hs hna oM) fun M O J C=>?_
 try simp only[zC] at C
 subst C;refine gc4 (fun z=>?_) fun z=>?_
 ·
  refine go8 ?_;refine zD rfl rfl ?_;rw[aX (zD8 z)]
 refine gc7 (fun u=>?_) fun u=>?_
 ·
  refine go8 ?_;refine zD rfl rfl ?_;rw[z8 u]
 refine go9 ?_;refine zD rfl rfl ?_;rw[z6 (fun h=>z (zEE h)) u]
theorem zL9{w0:World}{h0:Mem}(hs:MLe h0 (mem w0)){qa:Rat}{vna vda:Value}(hna:Us .u32 h0 vna (zB qa.num.natAbs))(hda:Us .u32 h0 vda (zB (xU qa.den))){qb:Rat}{vnb vdb:Value}(hnb:Us .u32 h0 vnb (zB qb.num.natAbs))(hdb:Us .u32 h0 vdb (zB (xU qb.den)))(hqa:lq qa≤100000000000)(hqb:lq qb≤100000000000):
 Calls Tryz.prog 184 #[.agg #[vB (qa.num<0),vna,vda],.agg #[vB (qb.num<0),vnb,vdb]] w0 (Ret w0 h0 (fun _ r=>r=vI (wH qa qb))):=by
 have bh:=wF qa;have bj:=wP qa;have bl:=wC qa;have bg:=wF qb;have bi:=wP qb;have bk:=wC qb;refine cb2 80 (.agg #[vB (qa.num<0),vna,vda]) (.agg #[vB (qb.num<0),vnb,vdb]) func184 hs ?_;refine go2 ?_;refine zF (xE (cs:=[_,_,_]) rfl rfl) rfl rfl rfl ?_;intro v2 r2 az;obtain⟨b2,rfl,rfl⟩:=az;refine zF (xE (cs:=[_,_,_]) rfl rfl) rfl rfl rfl ?_;intro v3 r3 ay;obtain⟨b3,rfl,rfl⟩:=ay;refine go5 ?_;refine zK 6 _ [] [(0,.q),(2,.q),(1,.c),(3,.c),(4,.q),(5,.q)] yC nX (by kernel_rfl) nX (fun r hr=>hr) (go2 ?_);refine w_c rfl (sC (ev1 rfl) call51 (fun w hs=>y9 hs hna hda oM) fun bx h1 X ap=>?_);have av:=wI qa;subst ap;refine w_c rfl ?_;replace hnb:=hnb.mono X;replace hdb:=hdb.mono X;refine sC (ev1 rfl) call51 (fun w hs=>y9 hs hnb hdb oM) fun bw h2 H ao=>?_;have au:=wI qb;subst ao;refine zDI (fun G=>?_) fun G=>?_
 ·
  refine gc8 (fun M=>?_) fun M=>?_
  ·
   refine go8 ?_;refine zD rfl rfl ?_;rw[g8 G,if_pos M]
  refine go9 ?_;refine zD rfl rfl ?_;rw[g8 G,if_neg M]
 have aj:=zHF G;refine go7 ?_;refine qI (ι:=Mem) (fun(mc:(Mem))=>MLe h2 mc∧(True)) (fun(mc:(Mem))=>[(2,vP b2 0),(7,vI (cN qa qb))]) (fun(mc:(Mem))=>[.var b3 26 [vB (qb.num<0),vnb,vdb],.var b2 26 [vB (qa.num<0),vna,vda]]) (fun(mc:(Mem))=>mc) ?_ ?_
 ·
  refine go3 ?_;replace hna:=hna.mono (X.trans H);replace hda:=hda.mono (X.trans H);refine cL (ev1 rfl) call117 (fun w hs=>sT hs hna hda) fun bv h3 z an=>?_;subst an;refine j3 ?_;replace hda:=hda.mono z;replace hdb:=hdb.mono (H.trans z);refine cL (ev2 rfl rfl) call161 (fun w hs=>zHD hs hda hdb) fun bu h4 u am=>?_;subst am;refine gc2 (fun ah=>?_) fun ah=>?_
  ·
   refine go5 ?_;replace hna:=hna.mono (z.trans u);replace hnb:=hnb.mono ((H.trans z).trans u);refine cL (ev2 rfl rfl) call98 (fun w hs=>eQ hs hna hnb) fun bt h5 C ac=>?_
   try simp only[zC] at ac
   subst ac;refine go2 ?_;refine zO (h5) ?_ ⟨rfl,?_,trivial⟩ rfl rfl
   ·
    refine⟨((z.trans u).trans C),?_⟩
    trivial
   · exact congrArg some (congrArg vI ((zZX ah).symm))
  refine go3 ?_;replace hnb:=hnb.mono ((H.trans z).trans u);replace hdb:=hdb.mono u;refine cL (ev1 rfl) call117 (fun w hs=>sT hs hnb hdb) fun bs h5 C ak=>?_;subst ak;refine qO ?_;refine gU 3 49 (vB ((fS qa)∧(fS qb))) ?_ ?_
  ·
   refine yD (fS qa) (fun hg=>?_) (fun hg=>?_)
   ·
    refine gT hg rfl (go4 ?_);refine gqU ?_;exact congrArg some (xN hg)
   refine gF hg rfl (go3 ?_);refine gqU ?_;exact congrArg some (xO hg)
  refine gc2 (fun J=>?_) fun J=>?_
  ·
   have S:=J.1;have O:=J.2;have bb:=gO S;have ax:=gP S;have ba:=gO O;have aw:=gP O;have ca:=qK bb aw;have bz:=qK ba ax;rw[zD3 S,zD4 S,zD3 O,zD4 O];refine zDI (fun ae=>?_) fun ae=>?_
   ·
    refine go3 ?_;refine zO (h5) ?_ ⟨rfl,?_,trivial⟩ rfl rfl
    ·
     refine⟨((z.trans u).trans C),?_⟩
     trivial
    · exact congrArg some (congrArg vI ((g9 ae).symm))
   refine zDI (fun ad=>?_) fun ad=>?_
   ·
    refine go3 ?_;refine zO (h5) ?_ ⟨rfl,?_,trivial⟩ rfl rfl
    ·
     refine⟨((z.trans u).trans C),?_⟩
     trivial
    · exact congrArg some (congrArg vI ((t0 ad).symm))
   refine go1 ?_;refine zO (h5) ?_ ⟨rfl,?_,trivial⟩ rfl rfl
   ·
    refine⟨((z.trans u).trans C),?_⟩
    trivial
   · exact congrArg some (congrArg vI ((zAW.2 oM).symm))
  refine zK 12 _ [] [(0,.q),(1,.q),(2,.q),(5,.q),(6,.q),(7,.q),(3,.c),(4,.c),(8,.c),(9,.c),(10,.c),(11,.q)] yC nX (by kernel_rfl) nX (fun r hr=>hr) (go6 ?_);refine w_c rfl ?_;replace hnb:=hnb.mono C;replace hdb:=hdb.mono C;refine sC (ev1 rfl) call120 (fun w hs=>gQ hs hnb hdb) fun br h6 U ab=>?_;rw[uJ] at ab;refine w_c rfl ?_;replace hna:=hna.mono (((z.trans u).trans C).trans U);refine sC (ev2 rfl rfl) call99 (fun w hs=>fN hs hna ab oM oM) fun bq h7 T D=>?_
  try simp only[zC] at D
  have bd:=yE ((qa.num.natAbs)) ((qb.den));refine w_c rfl ?_;replace hna:=hna.mono T;replace hda:=hda.mono (((u.trans C).trans U).trans T);refine sC (ev1 rfl) call120 (fun w hs=>gQ hs hna hda) fun bp h8 ai aa=>?_;rw[uJ] at aa;refine w_c rfl ?_;replace hnb:=hnb.mono ((U.trans T).trans ai);refine sC (ev2 rfl rfl) call99 (fun w hs=>fN hs hnb aa oM oM) fun bo h9 aq Z=>?_
  try simp only[zC] at Z
  have bc:=yE ((qb.num.natAbs)) ((qa.den));refine w_c rfl ?_;replace D:=D.mono (ai.trans aq);refine sC (ev2 rfl rfl) call98 (fun w hs=>eQ hs D Z) fun bn be ar Y=>?_
  try simp only[zC] at Y
  subst Y;refine go2 ?_;refine zO (be) ?_ e2z rfl rfl;refine⟨(((((((z.trans u).trans C).trans U).trans T).trans ai).trans aq).trans ar),?_⟩
  trivial
 rintro mc ⟨bf,bm⟩
 refine yU ?_;have cb:=zJD qa qb;refine gc7 (fun I=>?_) fun I=>?_
 ·
  refine go3 ?_;refine gv (lL rfl oM oM) rfl (go5 ?_);refine zD rfl rfl ?_;rw[zM7 aj I]
 refine go9 ?_;refine zD rfl rfl ?_;rw[zI8 aj I]
theorem zUJ{w0:World}{h0:Mem}(hs:MLe h0 (mem w0)){qa:Rat}{vna vda:Value}(hna:Us .u32 h0 vna (zB qa.num.natAbs))(hda:Us .u32 h0 vda (zB (xU qa.den))){qb:Rat}{vnb vdb:Value}(hnb:Us .u32 h0 vnb (zB qb.num.natAbs))(hdb:Us .u32 h0 vdb (zB (xU qb.den)))(hqa:lq qa≤100000000000)(hqb:lq qb≤100000000000):
 Calls Tryz.prog 76 #[.agg #[vB (qa.num<0),vna,vda],.agg #[vB (qb.num<0),vnb,vdb]] w0 (Ret w0 h0 (fun h r=>wJ h r (qa*qb))):=by
 have bg:=wF qa;have bi:=wP qa;have bk:=wC qa;have bf:=wF qb;have bh:=wP qb;have bj:=wC qb;rw[←zRN];refine cb2 64 (.agg #[vB (qa.num<0),vna,vda]) (.agg #[vB (qb.num<0),vnb,vdb]) func76 hs ?_;refine go2 ?_;refine zF (xE (cs:=[_,_,_]) rfl rfl) rfl rfl rfl ?_;intro v2 r2 be;obtain⟨b2,rfl,rfl⟩:=be;refine zF (xE (cs:=[_,_,_]) rfl rfl) rfl rfl rfl ?_;intro v3 r3 bd;obtain⟨b3,rfl,rfl⟩:=bd;refine zF (wB (cs:=[vB ((0:Rat).num<0),.slice none 0 0,.slice none 0 0]) yP rfl (by simp only[zb];rfl)) rfl rfl rfl ?_;intro v4 r4 bc;obtain⟨b4,rfl,rfl⟩:=bc;refine go9 ?_;refine gU 6 20 (vB (((↑(zB qa.num.natAbs).length:Int)=(0:Int))∨((↑(zB qb.num.natAbs).length:Int)=(0:Int)))) ?_ ?_
 ·
  refine yD ((↑(zB qa.num.natAbs).length:Int)=(0:Int)) (fun hg=>?_) (fun hg=>?_)
  ·
   refine gT hg rfl (go6 ?_);refine gqU ?_;exact congrArg some (vZ hg)
  refine gF hg rfl (uQ ?_);refine gqU ?_;exact congrArg some (uA hg)
 refine gc2 (fun ah=>?_) fun ah=>?_
 ·
  refine go2 ?_;refine gv (yQ (ps':=[]) (vs:=[vB ((0:Rat).num<0),.slice none 0 0,.slice none 0 0]) underlying26 yP rfl (vD underlying26) trivial (by simp only[zb];exact vY)) rfl (xQ (A:=[]) (r':=.var b4 26 [vB ((0:Rat).num<0),.slice none 0 0,.slice none 0 0]) (zG (k:=0) (cs:=[_,_,_]) (vs:=[_,_,_]) rfl rfl rfl rfl zV (bL rfl)) rfl rfl rfl (go4 ?_));refine yG (fun E S=>zQ rfl (xG (cs:=[_,_,_]) mh0 underlying26 rfl zV rfl) E S) ?_
  rcases ah with h|h
  · rw[pO h,show(0:Rat).num.natAbs=0 from rfl,Nat.zero_mul,u9];exact wJ.zero _
  · rw[pO h,show(0:Rat).num.natAbs=0 from rfl,Nat.mul_zero,u9];exact wJ.zero _
 refine go6 ?_;refine cL (ev1 rfl) call117 (fun w hs=>sT hs hna hda) fun bn h1 M au=>?_;subst au;refine tV ?_;refine cnd (fun ae=>?_) fun ae=>?_
 ·
  have Z:=ae;have av:=gO Z;have ai:=gP Z;refine go3 ?_;replace hnb:=hnb.mono M;replace hdb:=hdb.mono M;refine cL (ev1 rfl) call117 (fun w hs=>sT hs hnb hdb) fun bm h2 D ar=>?_;subst ar;refine tV ?_;refine cnd (fun ad=>?_) fun ad=>?_
  ·
   have Y:=ad;have aj:=gO Y;have ap:=gP Y;have bs:=qK av ap;have br:=qK aj ai;have bq:=qK ai ap;have bp:=qK av aj;have bo:=qK ai aj;have bu:qa.den*qb.den≠0:=Nat.mul_ne_zero qa.den_nz qb.den_nz;simp only[zD3 Z,zD4 Z,zD3 Y,zD4 Y];refine go6 ?_;refine gv (fV underlying4 rfl rfl) rfl (go6 ?_);refine cL (ev3 rfl rfl rfl) call118 (fun w hs=>cW hs oM oM oM) fun bl h3 C aq=>?_;obtain⟨an,ao,rfl,ab,ac⟩:=aq;refine xQ (A:=[]) (r':=.var b4 26 [vB ((mkRat (sg (¬((qa.num<0)↔(qb.num<0))) (qa.num.natAbs*qb.num.natAbs)) (qa.den*qb.den)).num<0),an,ao]) (zG (k:=0) (cs:=[_,_,_]) (vs:=[_,_,_]) rfl rfl rfl (ocr rfl (ocu ab (ocu ac oc0))) zV (bL rfl)) rfl rfl rfl (go4 ?_);refine yG (fun E S=>zQ rfl (xG (cs:=[_,_,_]) mh0 underlying26 rfl zV rfl) E S) ?_;exact⟨_,_,rfl,ab,ac⟩
  refine go3 ?_;refine zK 16 _ [] [(0,.q),(1,.q),(2,.q),(3,.q),(4,.q),(5,.q),(6,.q),(7,.q),(8,.q),(10,.q),(12,.q),(9,.c),(11,.c),(13,.c),(14,.c),(15,.c),(16,.t)] yC nX (by kernel_rfl) nX (fun r hr=>hr) (go4 ?_);refine xK rfl (fun _ _=>fV underlying4 rfl rfl) rfl (go6 ?_);refine w_c rfl ?_;replace hna:=hna.mono (M.trans D);replace hnb:=hnb.mono D;refine sC (ev2 rfl rfl) call99 (fun w hs=>fN hs hna hnb oM oM) fun bb h3 C z=>?_
  try simp only[zC] at z
  have am:=yE ((qa.num.natAbs)) ((qb.num.natAbs));refine w_c rfl ?_;replace hna:=hna.mono C;replace hda:=hda.mono ((M.trans D).trans C);refine sC (ev1 rfl) call120 (fun w hs=>gQ hs hna hda) fun ba h4 T u=>?_;rw[uJ] at u;refine w_c rfl ?_;replace hnb:=hnb.mono (C.trans T);replace hdb:=hdb.mono ((D.trans C).trans T);refine sC (ev1 rfl) call120 (fun w hs=>gQ hs hnb hdb) fun az h5 aa I=>?_;rw[uJ] at I;refine w_c rfl ?_;replace u:=u.mono aa;refine sC (ev2 rfl rfl) call99 (fun w hs=>fN hs u I oM oM) fun ay h6 aw H=>?_
  try simp only[zC] at H
  have ak:=yE ((qa.den)) ((qb.den));refine w_c rfl ?_;replace z:=z.mono ((T.trans aa).trans aw);refine sC (ev3 rfl rfl rfl) call119 (fun w hs=>jR hs z H oM oM) fun ax h7 bt G=>?_
  try simp only[zC] at G
  obtain⟨U,X,rfl,J,O⟩:=G;refine kV (A:=[]) (q':=.var b4 26 [vB ((mkRat (sg (¬((qa.num<0)↔(qb.num<0))) (((((qa.num.natAbs))*((qb.num.natAbs)))))) (((((qa.den))*((qb.den)))))).num<0),U,X]) rfl (zG (k:=0) (cs:=[_,_,_]) (vs:=[_,_,_]) rfl rfl rfl (ocr rfl (ocu J (ocu O oc0))) zV (bL rfl)) rfl (go3 ?_);refine yG (fun E S=>zQ rfl (xG (cs:=[_,_,_]) mh0 underlying26 rfl zV rfl) E S) ?_;exact⟨_,_,rfl,J,O⟩
 refine go3 ?_;refine zK 16 _ [] [(0,.q),(1,.q),(2,.q),(3,.q),(4,.q),(5,.q),(6,.q),(7,.q),(8,.q),(10,.q),(12,.q),(9,.c),(11,.c),(13,.c),(14,.c),(15,.c),(16,.t)] yC nX (by kernel_rfl) nX (fun r hr=>hr) (go4 ?_);refine xK rfl (fun _ _=>fV underlying4 rfl rfl) rfl (go6 ?_);refine w_c rfl ?_;replace hna:=hna.mono M;replace hnb:=hnb.mono M;refine sC (ev2 rfl rfl) call99 (fun w hs=>fN hs hna hnb oM oM) fun bb h2 D z=>?_
 try simp only[zC] at z
 have am:=yE ((qa.num.natAbs)) ((qb.num.natAbs));refine w_c rfl ?_;replace hna:=hna.mono D;replace hda:=hda.mono (M.trans D);refine sC (ev1 rfl) call120 (fun w hs=>gQ hs hna hda) fun ba h3 C u=>?_;rw[uJ] at u;refine w_c rfl ?_;replace hnb:=hnb.mono (D.trans C);replace hdb:=hdb.mono ((M.trans D).trans C);refine sC (ev1 rfl) call120 (fun w hs=>gQ hs hnb hdb) fun az h4 T I=>?_;rw[uJ] at I;refine w_c rfl ?_;replace u:=u.mono T;refine sC (ev2 rfl rfl) call99 (fun w hs=>fN hs u I oM oM) fun ay h5 aa H=>?_
 try simp only[zC] at H
 have ak:=yE ((qa.den)) ((qb.den));refine w_c rfl ?_;replace z:=z.mono ((C.trans T).trans aa);refine sC (ev3 rfl rfl rfl) call119 (fun w hs=>jR hs z H oM oM) fun ax h6 aw G=>?_
 try simp only[zC] at G
 obtain⟨U,X,rfl,J,O⟩:=G;refine kV (A:=[]) (q':=.var b4 26 [vB ((mkRat (sg (¬((qa.num<0)↔(qb.num<0))) (((((qa.num.natAbs))*((qb.num.natAbs)))))) (((((qa.den))*((qb.den)))))).num<0),U,X]) rfl (zG (k:=0) (cs:=[_,_,_]) (vs:=[_,_,_]) rfl rfl rfl (ocr rfl (ocu J (ocu O oc0))) zV (bL rfl)) rfl (go3 ?_);refine yG (fun E S=>zQ rfl (xG (cs:=[_,_,_]) mh0 underlying26 rfl zV rfl) E S) ?_;exact⟨_,_,rfl,J,O⟩
theorem zUI{w0:World}{h0:Mem}(hs:MLe h0 (mem w0)){qa:Rat}{vna vda:Value}(hna:Us .u32 h0 vna (zB qa.num.natAbs))(hda:Us .u32 h0 vda (zB (xU qa.den))){qb:Rat}{vnb vdb:Value}(hnb:Us .u32 h0 vnb (zB qb.num.natAbs))(hdb:Us .u32 h0 vdb (zB (xU qb.den)))(hqa:lq qa≤100000000000)(hqb:lq qb≤100000000000):
 Calls Tryz.prog 74 #[.agg #[vB (qa.num<0),vna,vda],.agg #[vB (qb.num<0),vnb,vdb]] w0 (Ret w0 h0 (fun h r=>∃u,r=.tuple #[u,vI (if qb=0 then 3 else 0)]∧wJ h u (if qb=0 then 0 else qa/qb))):=by
 have bm:=wF qa;have bo:=wP qa;have bq:=wC qa;have bl:=wF qb;have bn:=wP qb;have bp:=wC qb;refine cb2 58 (.agg #[vB (qa.num<0),vna,vda]) (.agg #[vB (qb.num<0),vnb,vdb]) func74 hs ?_;refine go2 ?_;refine zF (xE (cs:=[_,_,_]) rfl rfl) rfl rfl rfl ?_;intro v2 r2 bj;obtain⟨b2,rfl,rfl⟩:=bj;refine zF (xE (cs:=[_,_,_]) rfl rfl) rfl rfl rfl ?_;intro v3 r3 bi;obtain⟨b3,rfl,rfl⟩:=bi;refine zF (wB (cs:=[vB ((0:Rat).num<0),.slice none 0 0,.slice none 0 0]) yP rfl (by simp only[zb];rfl)) rfl rfl rfl ?_;intro v4 r4 bh;obtain⟨b4,rfl,rfl⟩:=bh;refine go7 ?_;refine cL (ev1 rfl) call51 (fun w hs=>y9 hs hnb hdb oM) fun bu h1 Y ay=>?_;have bg:=wI qb;subst ay;refine gc3 (fun ab=>?_) fun ab=>?_
 ·
  have U:=uO.1 ab;rw[if_pos U,if_pos U];refine go2 ?_;refine gv (yQ (ps':=[]) (vs:=[vB ((0:Rat).num<0),.slice none 0 0,.slice none 0 0]) underlying26 yP rfl (vD underlying26) trivial (by simp only[zb];exact vY)) rfl (xQ (A:=[]) (r':=.var b4 26 [vB ((0:Rat).num<0),.slice none 0 0,.slice none 0 0]) (zG (k:=0) (cs:=[_,_,_]) (vs:=[_,_,_]) rfl rfl rfl rfl zV (bL rfl)) rfl rfl rfl (go5 ?_));refine yG (fun E S=>vV rfl (xG (cs:=[_,_,_]) mh0 underlying26 rfl zV rfl) (jQ rfl) E S) ?_;exact⟨_,rfl,wJ.zero _⟩
 have U:qb≠0:=fun h=>ab (uO.2 h);rw[if_neg U,if_neg U,←zQQ qa U];have bk:=zC0.2 U;refine go6 ?_;replace hna:=hna.mono Y;replace hda:=hda.mono Y;refine cL (ev1 rfl) call117 (fun w hs=>sT hs hna hda) fun bt h2 O ax=>?_;subst ax;refine tV ?_;refine cnd (fun ak=>?_) fun ak=>?_
 ·
  have ad:=ak;have az:=gO ad;have am:=gP ad;refine go3 ?_;replace hnb:=hnb.mono (Y.trans O);replace hdb:=hdb.mono (Y.trans O);refine cL (ev1 rfl) call117 (fun w hs=>sT hs hnb hdb) fun bs h3 M aw=>?_;subst aw;refine tV ?_;refine cnd (fun aj=>?_) fun aj=>?_
  ·
   have ac:=aj;have an:=gO ac;have au:=gP ac;have ca:=qK az au;have bz:=qK an am;have bx:=qK am au;have bw:=qK az an;have bv:=qK am an;have cc:qa.den*qb.num.natAbs≠0:=Nat.mul_ne_zero qa.den_nz bk;simp only[zD3 ad,zD4 ad,zD3 ac,zD4 ac];refine go6 ?_;refine gv (fV underlying4 rfl rfl) rfl (go6 ?_);refine cL (ev3 rfl rfl rfl) call118 (fun w hs=>cW hs oM oM oM) fun br h4 J av=>?_;obtain⟨aq,ar,rfl,ah,ai⟩:=av;refine xQ (A:=[]) (r':=.var b4 26 [vB ((mkRat (sg (¬((qa.num<0)↔(qb.num<0))) (qa.num.natAbs*qb.den)) (qa.den*qb.num.natAbs)).num<0),aq,ar]) (zG (k:=0) (cs:=[_,_,_]) (vs:=[_,_,_]) rfl rfl rfl (ocr rfl (ocu ah (ocu ai oc0))) zV (bL rfl)) rfl rfl rfl (go5 ?_);refine yG (fun E S=>vV rfl (xG (cs:=[_,_,_]) mh0 underlying26 rfl zV rfl) (jQ rfl) E S) ?_;exact⟨_,rfl,_,_,rfl,ah,ai⟩
  refine go3 ?_;refine zK 16 _ [] [(0,.q),(1,.q),(2,.q),(3,.q),(4,.q),(5,.q),(6,.q),(7,.q),(10,.q),(12,.q),(13,.q),(8,.c),(9,.c),(11,.c),(14,.c),(15,.c),(16,.t),(17,.t)] yC nX (by kernel_rfl) nX (fun r hr=>hr) (go4 ?_);refine xK rfl (fun _ _=>fV underlying4 rfl rfl) rfl (go6 ?_);refine w_c rfl ?_;replace hnb:=hnb.mono M;replace hdb:=hdb.mono M;refine sC (ev1 rfl) call120 (fun w hs=>gQ hs hnb hdb) fun bf h4 J H=>?_;rw[uJ] at H;refine w_c rfl ?_;replace hna:=hna.mono ((O.trans M).trans J);refine sC (ev2 rfl rfl) call99 (fun w hs=>fN hs hna H oM oM) fun be h5 X z=>?_
  try simp only[zC] at z
  have ap:=yE ((qa.num.natAbs)) ((qb.den));refine w_c rfl ?_;replace hna:=hna.mono X;replace hda:=hda.mono (((O.trans M).trans J).trans X);refine sC (ev1 rfl) call120 (fun w hs=>gQ hs hna hda) fun bd h6 ae G=>?_;rw[uJ] at G;refine w_c rfl ?_;replace hnb:=hnb.mono ((J.trans X).trans ae);refine sC (ev2 rfl rfl) call99 (fun w hs=>fN hs G hnb oM oM) fun bc h7 ba D=>?_
  try simp only[zC] at D
  have ao:=yE ((qa.den)) ((qb.num.natAbs));refine w_c rfl ?_;replace z:=z.mono (ae.trans ba);refine sC (ev3 rfl rfl rfl) call119 (fun w hs=>jR hs z D oM oM) fun bb h8 cb C=>?_
  try simp only[zC] at C
  obtain⟨Z,aa,rfl,I,T⟩:=C;refine kV (A:=[]) (q':=.var b4 26 [vB ((mkRat (sg (¬((qa.num<0)↔(qb.num<0))) (((((qa.num.natAbs))*((qb.den)))))) (((((qa.den))*((qb.num.natAbs)))))).num<0),Z,aa]) rfl (zG (k:=0) (cs:=[_,_,_]) (vs:=[_,_,_]) rfl rfl rfl (ocr rfl (ocu I (ocu T oc0))) zV (bL rfl)) rfl (dP rfl (tH (v:=vI (0)) rfl) rfl (go3 ?_));refine yG (fun E S=>vV rfl (xG (cs:=[_,_,_]) mh0 underlying26 rfl zV rfl) (jQ rfl) E S) ?_;exact⟨_,rfl,_,_,rfl,I,T⟩
 refine go3 ?_;refine zK 16 _ [] [(0,.q),(1,.q),(2,.q),(3,.q),(4,.q),(5,.q),(6,.q),(7,.q),(10,.q),(12,.q),(13,.q),(8,.c),(9,.c),(11,.c),(14,.c),(15,.c),(16,.t),(17,.t)] yC nX (by kernel_rfl) nX (fun r hr=>hr) (go4 ?_);refine xK rfl (fun _ _=>fV underlying4 rfl rfl) rfl (go6 ?_);refine w_c rfl ?_;replace hnb:=hnb.mono (Y.trans O);replace hdb:=hdb.mono (Y.trans O);refine sC (ev1 rfl) call120 (fun w hs=>gQ hs hnb hdb) fun bf h3 M H=>?_;rw[uJ] at H;refine w_c rfl ?_;replace hna:=hna.mono (O.trans M);refine sC (ev2 rfl rfl) call99 (fun w hs=>fN hs hna H oM oM) fun be h4 J z=>?_
 try simp only[zC] at z
 have ap:=yE ((qa.num.natAbs)) ((qb.den));refine w_c rfl ?_;replace hna:=hna.mono J;replace hda:=hda.mono ((O.trans M).trans J);refine sC (ev1 rfl) call120 (fun w hs=>gQ hs hna hda) fun bd h5 X G=>?_;rw[uJ] at G;refine w_c rfl ?_;replace hnb:=hnb.mono ((M.trans J).trans X);refine sC (ev2 rfl rfl) call99 (fun w hs=>fN hs G hnb oM oM) fun bc h6 ae D=>?_
 try simp only[zC] at D
 have ao:=yE ((qa.den)) ((qb.num.natAbs));refine w_c rfl ?_;replace z:=z.mono (X.trans ae);refine sC (ev3 rfl rfl rfl) call119 (fun w hs=>jR hs z D oM oM) fun bb h7 ba C=>?_
 try simp only[zC] at C
 obtain⟨Z,aa,rfl,I,T⟩:=C;refine kV (A:=[]) (q':=.var b4 26 [vB ((mkRat (sg (¬((qa.num<0)↔(qb.num<0))) (((((qa.num.natAbs))*((qb.den)))))) (((((qa.den))*((qb.num.natAbs)))))).num<0),Z,aa]) rfl (zG (k:=0) (cs:=[_,_,_]) (vs:=[_,_,_]) rfl rfl rfl (ocr rfl (ocu I (ocu T oc0))) zV (bL rfl)) rfl (dP rfl (tH (v:=vI (0)) rfl) rfl (go3 ?_));refine yG (fun E S=>vV rfl (xG (cs:=[_,_,_]) mh0 underlying26 rfl zV rfl) (jQ rfl) E S) ?_;exact⟨_,rfl,_,_,rfl,I,T⟩
theorem zHR{w0:World}{h0:Mem}(hs:MLe h0 (mem w0)){qa:Rat}{vna vda:Value}(hna:Us .u32 h0 vna (zB qa.num.natAbs))(hda:Us .u32 h0 vda (zB (xU qa.den))){qb:Rat}{vnb vdb:Value}(hnb:Us .u32 h0 vnb (zB qb.num.natAbs))(hdb:Us .u32 h0 vdb (zB (xU qb.den)))(hqa:lq qa≤100000000000)(hqb:lq qb≤100000000000){s:Prop}:
 Calls Tryz.prog 115 #[.agg #[vB (qa.num<0),vna,vda],.agg #[vB (qb.num<0),vnb,vdb],vB s] w0 (Ret w0 h0 (fun h r=>wJ h r (qa+sgd s qb))):=by
 have du:=wF qa;have dw:=wP qa;have dy:=wC qa;have dt:=wF qb;have dv:=wP qb;have dx:=wC qb;refine cb3 152 (.agg #[vB (qa.num<0),vna,vda]) (.agg #[vB (qb.num<0),vnb,vdb]) (vB s) func115 hs ?_;refine go2 ?_;refine zF (xE (cs:=[_,_,_]) rfl rfl) rfl rfl rfl ?_;intro v3 r3 di;obtain⟨b3,rfl,rfl⟩:=di;refine zF (xE (cs:=[_,_,_]) rfl rfl) rfl rfl rfl ?_;intro v4 r4 dh;obtain⟨b4,rfl,rfl⟩:=dh;refine zF (wB (cs:=[vB ((0:Rat).num<0),.slice none 0 0,.slice none 0 0]) yP rfl (by simp only[zb];rfl)) rfl rfl rfl ?_;intro v6 r6 df;obtain⟨b6,rfl,rfl⟩:=df;refine go2 ?_;refine qI (ι:=Mem) (fun(mc:(Mem))=>MLe h0 mc∧(True)) (fun(mc:(Mem))=>[(2,vB s),(3,vP b3 0),(4,vP b4 0),(6,vP b6 0)]) (fun(mc:(Mem))=>[.var b6 26 [vB ((0:Rat).num<0),.slice none 0 0,.slice none 0 0],.var b4 26 [vB (qb.num<0),vnb,vdb],.var b3 26 [vB (qa.num<0),vna,vda]]) (fun(mc:(Mem))=>mc) ?_ ?_
 ·
  refine go3 ?_;refine cL (ev1 rfl) call117 (fun w hs=>sT hs hna hda) fun ef h1 M cz=>?_;subst cz;refine tV ?_;refine cnd (fun bw=>?_) fun bw=>?_
  ·
   have bk:=bw;have da:=gO bk;have bz:=gP bk;refine go3 ?_;replace hnb:=hnb.mono M;replace hdb:=hdb.mono M;refine cL (ev1 rfl) call117 (fun w hs=>sT hs hnb hdb) fun ee h2 I cy=>?_;subst cy;refine tV ?_;refine cnd (fun bv=>?_) fun bv=>?_
   ·
    have bj:=bv;have cb:=gO bj;have ct:=gP bj;have ek:=qK da ct;have ej:=qK cb bz;have ei:=qK bz ct;have eh:=qK da cb;have eg:=qK bz cb;have el:qa.den*qb.den≠0:=Nat.mul_ne_zero qa.den_nz qb.den_nz;simp only[zD3 bk,zD4 bk,zD3 bj,zD4 bj];refine zAQ ?_;refine gv (zQ4 (vs:=[_,_,vU .u64 0]) (yB0 _ _) e3z) rfl (sL ?_);refine gv (oO underlying4 rfl rfl) rfl ?_;refine gU 4 56 (vB (((qa.num<0)↔(s))∧((((qa.num.natAbs*qb.den)+(qb.num.natAbs*qa.den))/18446744073709551616)=(0:Nat)))) ?_ ?_
    ·
     refine yD ((qa.num<0)↔(s)) (fun hg=>?_) (fun hg=>?_)
     ·
      refine gT hg rfl (go3 ?_);refine gv (gB (k:=.u64) (q:=0) rfl rfl) rfl (go2 ?_);refine gqU ?_;exact congrArg some (xN hg)
     refine gF hg rfl (go4 ?_);refine gqU ?_;exact congrArg some (xO hg)
    refine gc3 (fun bu=>?_) fun bu=>?_
    ·
     obtain⟨bx,em⟩:=bu;refine go7 ?_;refine cL (ev3 rfl rfl rfl) call118 (fun w hs=>cW hs oM oM oM) fun ed h3 H cw=>?_;obtain⟨cf,ci,rfl,ba,bf⟩:=cw;refine xQ (A:=[]) (r':=.var b6 26 [vB ((mkRat (sg (s) (((qa.num.natAbs*qb.den)+(qb.num.natAbs*qa.den))%18446744073709551616)) (qa.den*qb.den)).num<0),cf,ci]) (zG (k:=0) (cs:=[_,_,_]) (vs:=[_,_,_]) rfl rfl rfl (ocr rfl (ocu ba (ocu bf oc0))) zV (bL rfl)) rfl rfl rfl (go5 ?_);refine yG (fun E S=>zQ rfl (xG (cs:=[_,_,_]) mh0 underlying26 rfl zV rfl) E S) ?_;have e:=Nat.mod_eq_of_lt (a:=qa.num.natAbs*qb.den+qb.num.natAbs*qa.den) (b:=18446744073709551616) oM;rw[e] at ba bf ⊢;rw[zB2 bx];exact⟨_,_,rfl,ba,bf⟩
    refine go5 ?_;refine gv (fV underlying4 rfl rfl) rfl ?_;refine gU 5 72 (vB ((¬((qa.num<0)↔(s)))∧((qb.num.natAbs*qa.den)≤(qa.num.natAbs*qb.den)))) ?_ ?_
    ·
     refine yD (¬((qa.num<0)↔(s))) (fun hg=>?_) (fun hg=>?_)
     ·
      refine gT hg rfl (go8 ?_);refine gqU ?_;exact congrArg some (xN hg)
     refine gF hg rfl (go5 ?_);refine gqU ?_;exact congrArg some (xO hg)
    refine gc3 (fun bh=>?_) fun bh=>?_
    ·
     obtain⟨bx,be⟩:=bh;refine go6 ?_;refine gv (bG (k:=.u64) (W:=18446744073709551616) rfl rfl rfl rfl oM oM) rfl (go3 ?_);refine cL (ev3 rfl rfl rfl) call118 (fun w hs=>cW hs oM oM oM) fun ec h3 H cv=>?_;obtain⟨ce,ch,rfl,br,bt⟩:=cv;refine xQ (A:=[]) (r':=.var b6 26 [vB ((mkRat (sg (qa.num<0) ((qa.num.natAbs*qb.den)-(qb.num.natAbs*qa.den))) (qa.den*qb.den)).num<0),ce,ch]) (zG (k:=0) (cs:=[_,_,_]) (vs:=[_,_,_]) rfl rfl rfl (ocr rfl (ocu br (ocu bt oc0))) zV (bL rfl)) rfl rfl rfl (go5 ?_);refine yG (fun E S=>zQ rfl (xG (cs:=[_,_,_]) mh0 underlying26 rfl zV rfl) E S) ?_;rw[zBQ bx be];exact⟨_,_,rfl,br,bt⟩
    refine go5 ?_;refine gv (fV underlying4 rfl rfl) rfl (gc3 (fun bg=>?_) fun bg=>?_)
    ·
     have bl:¬qb.num.natAbs*qa.den≤qa.num.natAbs*qb.den:=fun h=>bh ⟨bg,h⟩;refine go5 ?_;refine gv (bG (k:=.u64) (W:=18446744073709551616) rfl rfl rfl rfl oM oM) rfl (go3 ?_);refine cL (ev3 rfl rfl rfl) call118 (fun w hs=>cW hs oM oM oM) fun eb h3 H cu=>?_;obtain⟨cd,cg,rfl,bq,bs⟩:=cu;refine xQ (A:=[]) (r':=.var b6 26 [vB ((mkRat (sg (s) ((qb.num.natAbs*qa.den)-(qa.num.natAbs*qb.den))) (qa.den*qb.den)).num<0),cd,cg]) (zG (k:=0) (cs:=[_,_,_]) (vs:=[_,_,_]) rfl rfl rfl (ocr rfl (ocu bq (ocu bs oc0))) zV (bL rfl)) rfl rfl rfl (go5 ?_);refine yG (fun E S=>zQ rfl (xG (cs:=[_,_,_]) mh0 underlying26 rfl zV rfl) E S) ?_;rw[dX bg oM];exact⟨_,_,rfl,bq,bs⟩
    refine go2 ?_;refine zO (h2) ?_ e4z rfl rfl;refine⟨(M.trans I),?_⟩
    trivial
   refine go1 ?_;refine zO (h2) ?_ e4z rfl rfl;refine⟨(M.trans I),?_⟩
   trivial
  refine go1 ?_;refine zO (h1) ?_ e4z rfl rfl;refine⟨M,?_⟩
  trivial
 rintro mc ⟨ai,ea⟩
 refine yU ?_;refine go1 ?_;refine zK 9 _ [] [(0,.q),(1,.q),(2,.q),(3,.q),(4,.q),(5,.c),(6,.q),(7,.q),(8,.q)] yC nX (by kernel_rfl) nX (fun r hr=>hr) (go5 ?_);refine w_c rfl ?_;replace hna:=hna.mono ai;replace hda:=hda.mono ai;refine sC (ev1 rfl) call120 (fun w hs=>gQ hs hna hda) fun dr h1 M u=>?_;rw[uJ] at u;refine qO ?_;replace hda:=hda.mono M;replace hdb:=hdb.mono (ai.trans M);refine cL (ev2 rfl rfl) call161 (fun w hs=>zHD hs hda hdb) fun dq h2 I ca=>?_;subst ca;refine gc3 (fun bi=>?_) fun bi=>?_
 ·
  refine zK 15 _ [] [(0,.q),(1,.q),(4,.q),(5,.q),(8,.q),(9,.q),(2,.c),(3,.c),(6,.c),(7,.c),(10,.c),(11,.c),(12,.q),(13,.q),(14,.q)] yC nX (by kernel_rfl) nX (fun r hr=>hr) (go6 ?_);refine w_c rfl ?_;replace hnb:=hnb.mono ((ai.trans M).trans I);replace hdb:=hdb.mono I;refine sC (ev1 rfl) call120 (fun w hs=>gQ hs hnb hdb) fun dp h3 H az=>?_;rw[uJ] at az;refine w_c rfl ?_;replace hna:=hna.mono ((M.trans I).trans H);refine sC (ev2 rfl rfl) call99 (fun w hs=>fN hs hna az oM oM) fun dn h4 aj D=>?_
  try simp only[zC] at D
  have de:=yE ((qa.num.natAbs)) ((qb.den));refine w_c rfl ?_;replace hna:=hna.mono aj;replace hda:=hda.mono ((I.trans H).trans aj);refine sC (ev1 rfl) call120 (fun w hs=>gQ hs hna hda) fun dm h5 aw ay=>?_;rw[uJ] at ay;refine w_c rfl ?_;replace hnb:=hnb.mono ((H.trans aj).trans aw);refine sC (ev2 rfl rfl) call99 (fun w hs=>fN hs hnb ay oM oM) fun dl h6 bc C=>?_
  try simp only[zC] at C
  have dd:=yE ((qb.num.natAbs)) ((qa.den));refine w_c rfl ?_;replace hnb:=hnb.mono bc;replace hdb:=hdb.mono (((H.trans aj).trans aw).trans bc);refine sC (ev1 rfl) call120 (fun w hs=>gQ hs hnb hdb) fun dk h7 bb ax=>?_;rw[uJ] at ax;refine w_c rfl ?_;replace u:=u.mono (((((I.trans H).trans aj).trans aw).trans bc).trans bb);refine sC (ev2 rfl rfl) call99 (fun w hs=>fN hs u ax oM oM) fun dj h8 bp z=>?_
  try simp only[zC] at z
  have dc:=yE ((qa.den)) ((qb.den));refine qT ?_;refine gv (oO underlying4 rfl rfl) rfl (gc2 (fun G=>?_) fun G=>?_)
  ·
   refine go5 ?_;replace D:=D.mono (((aw.trans bc).trans bb).trans bp);replace C:=C.mono (bb.trans bp);refine cL (ev2 rfl rfl) call100 (fun w hs=>aF hs D C oM oM) fun co h9 av Z=>?_
   try simp only[zC] at Z
   have bo:=uD (((((qa.num.natAbs))*((qb.den))))) (((((qb.num.natAbs))*((qa.den)))));refine go1 ?_;replace z:=z.mono av;refine cL (ev3 rfl rfl rfl) call119 (fun w hs=>jR hs Z z oM oM) fun cn db bd Y=>?_
   try simp only[zC] at Y
   obtain⟨an,aq,rfl,ac,ah⟩:=Y;refine xQ (A:=[]) (r':=.var b6 26 [vB ((mkRat (sg (s) ((((((((qa.num.natAbs))*((qb.den)))))+(((((qb.num.natAbs))*((qa.den))))))))) (((((qa.den))*((qb.den)))))).num<0),an,aq]) (zG (k:=0) (cs:=[_,_,_]) (vs:=[_,_,_]) rfl rfl rfl (ocr rfl (ocu ac (ocu ah oc0))) zV (bL rfl)) rfl rfl rfl (go4 ?_);refine yG (fun E S=>zQ rfl (xG (cs:=[_,_,_]) mh0 underlying26 rfl zV rfl) E S) ?_;rw[zB2 G];exact⟨_,_,rfl,ac,ah⟩
  refine go7 ?_;replace D:=D.mono (((aw.trans bc).trans bb).trans bp);replace C:=C.mono (bb.trans bp);refine cL (ev2 rfl rfl) call162 (fun w hs=>zBW hs D C oM) fun cm h9 av au=>?_;obtain⟨cq,rfl,T⟩:=au
  try simp only[zC] at T ⊢
  have bn:=zN (Nat.sub_le (((((qa.num.natAbs))*((qb.den))))) (((((qb.num.natAbs))*((qa.den))))));refine sL ?_;refine cnd (fun J=>?_) fun J=>?_
  ·
   have be:=zPR J;rw[if_neg be];refine go6 ?_;replace z:=z.mono av;refine cL (ev3 rfl rfl rfl) call119 (fun w hs=>jR hs T z oM oM) fun cl db bd X=>?_
   try simp only[zC] at X
   obtain⟨am,ap,rfl,ab,ae⟩:=X;refine xQ (A:=[]) (r':=.var b6 26 [vB ((mkRat (sg (qa.num<0) ((((((((qa.num.natAbs))*((qb.den)))))-(((((qb.num.natAbs))*((qa.den))))))))) (((((qa.den))*((qb.den)))))).num<0),am,ap]) (zG (k:=0) (cs:=[_,_,_]) (vs:=[_,_,_]) rfl rfl rfl (ocr rfl (ocu ab (ocu ae oc0))) zV (bL rfl)) rfl rfl rfl (go4 ?_);refine yG (fun E S=>zQ rfl (xG (cs:=[_,_,_]) mh0 underlying26 rfl zV rfl) E S) ?_;rw[zBQ G oM];exact⟨_,_,rfl,ab,ae⟩
  have bl:=zPS J;rw[if_pos bl];refine go6 ?_;replace D:=D.mono av;replace C:=C.mono av;refine cL (ev2 rfl rfl) call162 (fun w hs=>zBW hs C D oM) fun ck db bd ar=>?_;obtain⟨cp,rfl,O⟩:=ar
  try simp only[zC] at O ⊢
  have bm:=zN (Nat.sub_le (((((qb.num.natAbs))*((qa.den))))) (((((qa.num.natAbs))*((qb.den))))));refine qO ?_;replace z:=z.mono (av.trans bd);refine cL (ev3 rfl rfl rfl) call119 (fun w hs=>jR hs O z oM oM) fun cj en dz U=>?_
  try simp only[zC] at U
  obtain⟨ak,ao,rfl,aa,ad⟩:=U;refine xQ (A:=[]) (r':=.var b6 26 [vB ((mkRat (sg (s) ((((((((qb.num.natAbs))*((qa.den)))))-(((((qa.num.natAbs))*((qb.den))))))))) (((((qa.den))*((qb.den)))))).num<0),ak,ao]) (zG (k:=0) (cs:=[_,_,_]) (vs:=[_,_,_]) rfl rfl rfl (ocr rfl (ocu aa (ocu ad oc0))) zV (bL rfl)) rfl rfl rfl (go3 ?_);refine yG (fun E S=>zQ rfl (xG (cs:=[_,_,_]) mh0 underlying26 rfl zV rfl) E S) ?_;rw[dX G oM];exact⟨_,_,rfl,aa,ad⟩
 have cc:=zLS.1 (Classical.not_not.1 bi);refine go8 ?_;refine gv (oO underlying4 rfl rfl) rfl (gc2 (fun G=>?_) fun G=>?_)
 ·
  refine go5 ?_;replace hna:=hna.mono (M.trans I);replace hnb:=hnb.mono ((ai.trans M).trans I);refine cL (ev2 rfl rfl) call100 (fun w hs=>aF hs hna hnb oM oM) fun co h3 H Z=>?_
  try simp only[zC] at Z
  have bo:=uD ((qa.num.natAbs)) ((qb.num.natAbs));refine go1 ?_;replace u:=u.mono (I.trans H);refine cL (ev3 rfl rfl rfl) call119 (fun w hs=>jR hs Z u oM oM) fun cn h4 aj Y=>?_
  try simp only[zC] at Y
  obtain⟨an,aq,rfl,ac,ah⟩:=Y;refine xQ (A:=[]) (r':=.var b6 26 [vB ((mkRat (sg (s) (((((qa.num.natAbs))+((qb.num.natAbs)))))) ((qa.den))).num<0),an,aq]) (zG (k:=0) (cs:=[_,_,_]) (vs:=[_,_,_]) rfl rfl rfl (ocr rfl (ocu ac (ocu ah oc0))) zV (bL rfl)) rfl rfl rfl (go4 ?_);refine yG (fun E S=>zQ rfl (xG (cs:=[_,_,_]) mh0 underlying26 rfl zV rfl) E S) ?_;rw[zTG G cc];exact⟨_,_,rfl,ac,ah⟩
 refine go7 ?_;replace hna:=hna.mono (M.trans I);replace hnb:=hnb.mono ((ai.trans M).trans I);refine cL (ev2 rfl rfl) call162 (fun w hs=>zBW hs hna hnb oM) fun cm h3 H au=>?_;obtain⟨cq,rfl,T⟩:=au
 try simp only[zC] at T ⊢
 have bn:=zN (Nat.sub_le ((qa.num.natAbs)) ((qb.num.natAbs)));refine sL ?_;refine cnd (fun J=>?_) fun J=>?_
 ·
  have be:=zPR J;rw[if_neg be];refine go6 ?_;replace u:=u.mono (I.trans H);refine cL (ev3 rfl rfl rfl) call119 (fun w hs=>jR hs T u oM oM) fun cl h4 aj X=>?_
  try simp only[zC] at X
  obtain⟨am,ap,rfl,ab,ae⟩:=X;refine xQ (A:=[]) (r':=.var b6 26 [vB ((mkRat (sg (qa.num<0) (((((qa.num.natAbs))-((qb.num.natAbs)))))) ((qa.den))).num<0),am,ap]) (zG (k:=0) (cs:=[_,_,_]) (vs:=[_,_,_]) rfl rfl rfl (ocr rfl (ocu ab (ocu ae oc0))) zV (bL rfl)) rfl rfl rfl (go4 ?_);refine yG (fun E S=>zQ rfl (xG (cs:=[_,_,_]) mh0 underlying26 rfl zV rfl) E S) ?_;rw[zPQ G cc oM];exact⟨_,_,rfl,ab,ae⟩
 have bl:=zPS J;rw[if_pos bl];refine go6 ?_;replace hna:=hna.mono H;replace hnb:=hnb.mono H;refine cL (ev2 rfl rfl) call162 (fun w hs=>zBW hs hnb hna oM) fun ck h4 aj ar=>?_;obtain⟨cp,rfl,O⟩:=ar
 try simp only[zC] at O ⊢
 have bm:=zN (Nat.sub_le ((qb.num.natAbs)) ((qa.num.natAbs)));refine qO ?_;replace u:=u.mono ((I.trans H).trans aj);refine cL (ev3 rfl rfl rfl) call119 (fun w hs=>jR hs O u oM oM) fun cj h5 aw U=>?_
 try simp only[zC] at U
 obtain⟨ak,ao,rfl,aa,ad⟩:=U;refine xQ (A:=[]) (r':=.var b6 26 [vB ((mkRat (sg (s) (((((qb.num.natAbs))-((qa.num.natAbs)))))) ((qa.den))).num<0),ak,ao]) (zG (k:=0) (cs:=[_,_,_]) (vs:=[_,_,_]) rfl rfl rfl (ocr rfl (ocu aa (ocu ad oc0))) zV (bL rfl)) rfl rfl rfl (go3 ?_);refine yG (fun E S=>zQ rfl (xG (cs:=[_,_,_]) mh0 underlying26 rfl zV rfl) E S) ?_;rw[zNQ G cc oM];exact⟨_,_,rfl,aa,ad⟩
end Go.Proofs.YtboaboflnckgoaaGreat
