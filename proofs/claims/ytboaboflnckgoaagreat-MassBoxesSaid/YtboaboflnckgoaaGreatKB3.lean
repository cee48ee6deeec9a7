/- Texts that the proof needs, part 3. -/
import Derived.Test.YtboaboflnckgoaaGreatKB2
namespace Go.Proofs.YtboaboflnckgoaaGreat
open Bk Go Tryz
set_option linter.unusedVariables false
instance:Und Tryz.prog 2:=⟨_,underlying2⟩
instance:Und Tryz.prog 3:=⟨_,underlying3⟩
instance:Und Tryz.prog 4:=⟨_,underlying4⟩
instance:Und Tryz.prog 5:=⟨_,underlying5⟩
instance:Und Tryz.prog 9:=⟨_,underlying9⟩
instance:Und Tryz.prog 22:=⟨_,underlying22⟩
instance:Und Tryz.prog 23:=⟨_,underlying23⟩
instance:Und Tryz.prog 25:=⟨_,underlying25⟩
instance:Und Tryz.prog 26:=⟨_,underlying26⟩
instance:Und Tryz.prog 27:=⟨_,underlying27⟩
instance:Und Tryz.prog 30:=⟨_,underlying30⟩
instance:Und Tryz.prog 32:=⟨_,underlying32⟩
instance:Und Tryz.prog 33:=⟨_,underlying33⟩
instance:Und Tryz.prog 34:=⟨_,underlying34⟩
instance:Und Tryz.prog 39:=⟨_,underlying39⟩
instance:Und Tryz.prog 44:=⟨_,underlying44⟩
instance:Und Tryz.prog 46:=⟨_,underlying46⟩
instance:Und Tryz.prog 47:=⟨_,underlying47⟩
instance:Und Tryz.prog 48:=⟨_,underlying48⟩
instance:Und Tryz.prog 49:=⟨_,underlying49⟩
instance:Und Tryz.prog 50:=⟨_,underlying50⟩
instance:Und Tryz.prog 52:=⟨_,underlying52⟩
instance:Und Tryz.prog 53:=⟨_,underlying53⟩
instance:Und Tryz.prog 54:=⟨_,underlying54⟩
instance:Und Tryz.prog 55:=⟨_,underlying55⟩
instance:Und Tryz.prog 56:=⟨_,underlying56⟩
instance:Und Tryz.prog 58:=⟨_,underlying58⟩
instance:Und Tryz.prog 73:=⟨_,underlying73⟩
instance:Und Tryz.prog 79:=⟨_,underlying79⟩
instance:Und Tryz.prog 80:=⟨_,underlying80⟩
instance:Und Tryz.prog 81:=⟨_,underlying81⟩
instance:Und Tryz.prog 82:=⟨_,underlying82⟩
instance:Und Tryz.prog 83:=⟨_,underlying83⟩
instance:Und Tryz.prog 96:=⟨_,underlying96⟩
instance:Und Tryz.prog 97:=⟨_,underlying97⟩
instance:Und Tryz.prog 106:=⟨_,underlying106⟩
instance:Und Tryz.prog 108:=⟨_,underlying108⟩
instance:Und Tryz.prog 115:=⟨_,underlying115⟩
instance:Und Tryz.prog 116:=⟨_,underlying116⟩
instance:Und Tryz.prog 117:=⟨_,underlying117⟩
instance:Und Tryz.prog 127:=⟨_,underlying127⟩
instance:Und Tryz.prog 130:=⟨_,underlying130⟩
instance:Und Tryz.prog 137:=⟨_,underlying137⟩
instance:Und Tryz.prog 153:=⟨_,underlying153⟩
instance:Und Tryz.prog 175:=⟨_,underlying175⟩
instance:Und Tryz.prog 189:=⟨_,underlying189⟩
instance:Und Tryz.prog 190:=⟨_,underlying190⟩
instance:Und Tryz.prog 192:=⟨_,underlying192⟩
instance:Und Tryz.prog 193:=⟨_,underlying193⟩
instance:Und Tryz.prog 196:=⟨_,underlying196⟩
instance:Und Tryz.prog 199:=⟨_,underlying199⟩
instance:Und Tryz.prog 200:=⟨_,underlying200⟩
instance:Und Tryz.prog 209:=⟨_,underlying209⟩
instance:Und Tryz.prog 212:=⟨_,underlying212⟩
instance:Und Tryz.prog 232:=⟨_,underlying232⟩
instance:Und Tryz.prog 233:=⟨_,underlying233⟩
instance:Siz Tryz.prog 3:=⟨_,sizeOf3⟩
instance:Siz Tryz.prog 4:=⟨_,sizeOf4⟩
instance:Siz Tryz.prog 5:=⟨_,sizeOf5⟩
instance:Siz Tryz.prog 9:=⟨_,sizeOf9⟩
instance:Siz Tryz.prog 22:=⟨_,sizeOf22⟩
instance:Siz Tryz.prog 26:=⟨_,sizeOf26⟩
instance:Siz Tryz.prog 32:=⟨_,sizeOf32⟩
instance:Siz Tryz.prog 34:=⟨_,sizeOf34⟩
instance:Siz Tryz.prog 46:=⟨_,sizeOf46⟩
instance:Siz Tryz.prog 47:=⟨_,sizeOf47⟩
instance:Siz Tryz.prog 48:=⟨_,sizeOf48⟩
instance:Siz Tryz.prog 50:=⟨_,sizeOf50⟩
instance:Siz Tryz.prog 53:=⟨_,sizeOf53⟩
instance:Siz Tryz.prog 54:=⟨_,sizeOf54⟩
instance:Siz Tryz.prog 56:=⟨_,sizeOf56⟩
instance:Siz Tryz.prog 73:=⟨_,sizeOf73⟩
instance:Siz Tryz.prog 80:=⟨_,sizeOf80⟩
instance:Siz Tryz.prog 81:=⟨_,sizeOf81⟩
instance:Siz Tryz.prog 83:=⟨_,sizeOf83⟩
instance:Siz Tryz.prog 108:=⟨_,sizeOf108⟩
instance:Siz Tryz.prog 116:=⟨_,sizeOf116⟩
instance:Siz Tryz.prog 117:=⟨_,sizeOf117⟩
instance:Siz Tryz.prog 127:=⟨_,sizeOf127⟩
instance:Siz Tryz.prog 193:=⟨_,sizeOf193⟩
instance:Siz Tryz.prog 200:=⟨_,sizeOf200⟩
instance:Agg Tryz.prog 3:=⟨_,isAgg3⟩
instance:Agg Tryz.prog 4:=⟨_,isAgg4⟩
instance:Agg Tryz.prog 5:=⟨_,isAgg5⟩
instance:Agg Tryz.prog 9:=⟨_,isAgg9⟩
instance:Agg Tryz.prog 22:=⟨_,isAgg22⟩
instance:Agg Tryz.prog 26:=⟨_,isAgg26⟩
instance:Agg Tryz.prog 32:=⟨_,isAgg32⟩
instance:Agg Tryz.prog 34:=⟨_,isAgg34⟩
instance:Agg Tryz.prog 46:=⟨_,isAgg46⟩
instance:Agg Tryz.prog 47:=⟨_,isAgg47⟩
instance:Agg Tryz.prog 48:=⟨_,isAgg48⟩
instance:Agg Tryz.prog 50:=⟨_,isAgg50⟩
instance:Agg Tryz.prog 53:=⟨_,isAgg53⟩
instance:Agg Tryz.prog 54:=⟨_,isAgg54⟩
instance:Agg Tryz.prog 56:=⟨_,isAgg56⟩
instance:Agg Tryz.prog 73:=⟨_,isAgg73⟩
instance:Agg Tryz.prog 80:=⟨_,isAgg80⟩
instance:Agg Tryz.prog 81:=⟨_,isAgg81⟩
instance:Agg Tryz.prog 83:=⟨_,isAgg83⟩
instance:Agg Tryz.prog 108:=⟨_,isAgg108⟩
instance:Agg Tryz.prog 116:=⟨_,isAgg116⟩
instance:Agg Tryz.prog 117:=⟨_,isAgg117⟩
instance:Agg Tryz.prog 127:=⟨_,isAgg127⟩
instance:Agg Tryz.prog 200:=⟨_,isAgg200⟩
instance:Inf Tryz.prog 3:=⟨_,zV4⟩
instance:Inf Tryz.prog 4:=⟨_,zPU⟩
instance:Inf Tryz.prog 5:=⟨_,yAP⟩
instance:Inf Tryz.prog 9:=⟨_,yAO⟩
instance:Inf Tryz.prog 22:=⟨_,zPV⟩
instance:Inf Tryz.prog 26:=⟨_,zU⟩
instance:Inf Tryz.prog 32:=⟨_,zXV⟩
instance:Inf Tryz.prog 34:=⟨_,iR⟩
instance:Inf Tryz.prog 46:=⟨_,zXU⟩
instance:Inf Tryz.prog 47:=⟨_,zXT⟩
instance:Inf Tryz.prog 48:=⟨_,zXS⟩
instance:Inf Tryz.prog 50:=⟨_,zXR⟩
instance:Inf Tryz.prog 53:=⟨_,zXQ⟩
instance:Inf Tryz.prog 54:=⟨_,zXP⟩
instance:Inf Tryz.prog 56:=⟨_,zXO⟩
instance:Inf Tryz.prog 73:=⟨_,zXN⟩
instance:Inf Tryz.prog 80:=⟨_,zXM⟩
instance:Inf Tryz.prog 81:=⟨_,zXL⟩
instance:Inf Tryz.prog 83:=⟨_,zXK⟩
instance:Inf Tryz.prog 97:=⟨_,zXJ⟩
instance:Inf Tryz.prog 108:=⟨_,zT2⟩
instance:Inf Tryz.prog 116:=⟨_,zT1⟩
instance:Inf Tryz.prog 117:=⟨_,zT0⟩
instance:Inf Tryz.prog 127:=⟨_,zTZ⟩
instance:Inf Tryz.prog 193:=⟨_,zTY⟩
instance:Inf Tryz.prog 200:=⟨_,zTX⟩
theorem gD{n:Nat}{w0:World}{h0 h:Mem}{Q:Exit→Act→World→Prop}{id:Nat}{l:List Oper}{e:List (Nat×Value)}{L:List Res}{ord:List (Nat×Kd)}(m:Nat)(ord0:List (Nat×Kd))(k:W Tryz.prog n w0 h0 l.toArray Q L [] ord e L h)(hchk:(Region.noSelect l.toArray&&sW l.toArray []&&(([]:Als).all fun x=>decide (x.1<m))&&chk l.toArray m ord0 (Array.replicate l.length false) (([]:Als).map (·.1)))=true:=by exact zZR (by kernel_rfl))(ho:ord0=ord:=by first|(simp only[qq,Nat.reduceAdd]<;>exact rfl)|exact rfl):GC Tryz.prog n w0 h0 (.region id l.toArray true) Q e L h:=kE m _ [] ord0 jN nX hchk nX (fun r hr=>hr) (ho▸k)
theorem zKG{P:Program}{n:Nat}{w0:World}{h0 h:Mem}{e:List (Nat×Value)}{L:List Res}{ds:Option Tmp}{ty:TypeId}{ps:String}{af:Array Edge}{gd:Option (Nat×Bool)}{t:TypeId}{x:Operand}{b k:Nat}{E:TypeId}{cs:List Value}{u v s:Value}{d:TypeDesc}(hm:.var b E cs∈L)(hu:P.underlying t=some d)(hd:d.isRow=true)(hi:(P.info? t).map (·.size)=some 3)(hx:zJ e x=some (vP b k))(hv:(cs.drop k).take 3=[u,v,s]):OpV P n w0 h0 ⟨ds,.load t x,ty,ps,af,gd⟩ e L h (.agg #[u,v,s]):=zHY (vs:=[u,v,s]) hm hu hd hi hx hv
theorem ov{P:Program}{n:Nat}{w0:World}{h0 h:Mem}{o:Oper}{e:List (Nat×Value)}{L:List Res}{v:Value}(f:OpV P n w0 h0 o e L h v:=by first|exact yL rfl rfl|exact lQ rfl rfl|exact bK rfl rfl|exact oN rfl rfl|exact oP rfl rfl|exact lL rfl rfl|exact zY rfl rfl (by omega) (by omega)|exact qW rfl rfl (by omega) (by omega)|exact wP uu rfl (by with_reducible first|assumption|exact Us.up (by assumption))|exact uY uu rfl (by with_reducible first|assumption|exact Rp.Is.up (by assumption))|exact kP (vs:=[_,_]) rfl rfl|exact kP (vs:=[_,_,_]) rfl rfl|exact rT rfl rfl|exact(xU uu (by simp only[List.getElem?_toArray,List.getElem?_cons_succ,List.getElem?_cons_zero]<;>exact rfl) uz rfl).cv (congrArg (vP _) (by(simp only[Nat.reduceAdd,Nat.reduceMul,Nat.zero_add,Nat.add_zero,Nat.zero_mul])<;>exact rfl))|exact(zW 0 uu uz rfl rfl rfl (by decide)).cv (congrArg (vP _) (by(simp only[Nat.reduceAdd,Nat.reduceMul,Nat.zero_add,Nat.add_zero,Nat.zero_mul])<;>exact rfl))|exact(zW 1 uu uz rfl rfl rfl (by decide)).cv (congrArg (vP _) (by(simp only[Nat.reduceAdd,Nat.reduceMul,Nat.zero_add,Nat.add_zero,Nat.zero_mul])<;>exact rfl))|exact(zW 2 uu uz rfl rfl rfl (by decide)).cv (congrArg (vP _) (by(simp only[Nat.reduceAdd,Nat.reduceMul,Nat.zero_add,Nat.add_zero,Nat.zero_mul])<;>exact rfl))|exact zKG (by first|exact mh0|exact mh1|exact mh2|exact mh3|exact mh4|exact mh5) uu (by exact rfl) us_ rfl rfl|exact rU rfl rfl|exact oJ rfl|exact gB rfl rfl|exact fF rfl rfl|exact zCN rfl rfl|exact rA rfl rfl|exact lP rfl rfl|exact oL (by first|exact mh0|exact mh1|exact mh2|exact mh3|exact mh4|exact mh5) ua rfl rfl|exact gX (k:=.u64) (k':=.u32) (W:=4294967296) uu uu rfl rfl rfl|exact wQ (k:=.u32) (k':=.u64) (W:=18446744073709551616) uu uu rfl rfl rfl (by omega)|exact fW (k:=.u64) (W:=18446744073709551616) rfl rfl rfl rfl (by omega)|exact oK (k:=.u64) (W:=18446744073709551616) rfl rfl rfl rfl (by omega)|exact kI (k:=.u64) (s:=32) (yk:=.u64) rfl rfl rfl (by simp only[ub];omega)|exact xG ua rfl (by with_reducible first|assumption|exact Us.up (by assumption)) (by omega)):OpV P n w0 h0 o e L h v:=f
theorem ovq{P:Program}{n:Nat}{w0:World}{h0 h:Mem}{o:Oper}{e:List (Nat×Value)}{v:Value}(f:∀h' L',OpV P n w0 h0 o e L' h' v:=by intro h' L';first|exact yL rfl rfl|exact lQ rfl rfl|exact bK rfl rfl|exact oN rfl rfl|exact oP rfl rfl|exact lL rfl rfl|exact zY rfl rfl (by omega) (by omega)|exact qW rfl rfl (by omega) (by omega)|exact wP uu rfl (by with_reducible first|assumption|exact Us.up (by assumption))|exact uY uu rfl (by with_reducible first|assumption|exact Rp.Is.up (by assumption))|exact kP (vs:=[_,_]) rfl rfl|exact kP (vs:=[_,_,_]) rfl rfl|exact rT rfl rfl|exact(xU uu (by simp only[List.getElem?_toArray,List.getElem?_cons_succ,List.getElem?_cons_zero]<;>exact rfl) uz rfl).cv (congrArg (vP _) (by(simp only[Nat.reduceAdd,Nat.reduceMul,Nat.zero_add,Nat.add_zero,Nat.zero_mul])<;>exact rfl))|exact(zW 0 uu uz rfl rfl rfl (by decide)).cv (congrArg (vP _) (by(simp only[Nat.reduceAdd,Nat.reduceMul,Nat.zero_add,Nat.add_zero,Nat.zero_mul])<;>exact rfl))|exact(zW 1 uu uz rfl rfl rfl (by decide)).cv (congrArg (vP _) (by(simp only[Nat.reduceAdd,Nat.reduceMul,Nat.zero_add,Nat.add_zero,Nat.zero_mul])<;>exact rfl))|exact(zW 2 uu uz rfl rfl rfl (by decide)).cv (congrArg (vP _) (by(simp only[Nat.reduceAdd,Nat.reduceMul,Nat.zero_add,Nat.add_zero,Nat.zero_mul])<;>exact rfl))|exact zKG (by first|exact mh0|exact mh1|exact mh2|exact mh3|exact mh4|exact mh5) uu (by exact rfl) us_ rfl rfl|exact rU rfl rfl|exact oJ rfl|exact gB rfl rfl|exact fF rfl rfl|exact zCN rfl rfl|exact rA rfl rfl|exact lP rfl rfl|exact oL (by first|exact mh0|exact mh1|exact mh2|exact mh3|exact mh4|exact mh5) ua rfl rfl|exact gX (k:=.u64) (k':=.u32) (W:=4294967296) uu uu rfl rfl rfl|exact wQ (k:=.u32) (k':=.u64) (W:=18446744073709551616) uu uu rfl rfl rfl (by omega)|exact fW (k:=.u64) (W:=18446744073709551616) rfl rfl rfl rfl (by omega)|exact oK (k:=.u64) (W:=18446744073709551616) rfl rfl rfl rfl (by omega)|exact kI (k:=.u64) (s:=32) (yk:=.u64) rfl rfl rfl (by simp only[ub];omega)|exact xG ua rfl (by with_reducible first|assumption|exact Us.up (by assumption)) (by omega)):∀h' L',OpV P n w0 h0 o e L' h' v:=f
theorem zUB{α:Type}{ρ:Rp α}{h h':Mem}{v:Value}{x:α}(r:ρ.Is h v x)(hh:MLe h h'):ρ.Is h' v x:=r.mono hh
theorem ovm{P:Program}{n:Nat}{w0:World}{h0 h:Mem}{o:Oper}{e:List (Nat×Value)}{R:List Res}{v:Value}(f:∀h' L',MLe h h'→(∀r∈R,r∈L')→OpV P n w0 h0 o e L' h' v:=by intro h' L' hh hR;first|exact yL rfl rfl|exact lQ rfl rfl|exact bK rfl rfl|exact oN rfl rfl|exact oP rfl rfl|exact lL rfl rfl|exact zY rfl rfl (by omega) (by omega)|exact qW rfl rfl (by omega) (by omega)|exact wP uu rfl (Us.mono (by with_reducible first|assumption|exact Us.up (by assumption)) hh)|exact uY uu rfl (zUB (by with_reducible first|assumption|exact Rp.Is.up (by assumption)) hh)|exact kP (vs:=[_,_]) rfl rfl|exact kP (vs:=[_,_,_]) rfl rfl|exact rT rfl rfl|exact(xU uu (by simp only[List.getElem?_toArray,List.getElem?_cons_succ,List.getElem?_cons_zero]<;>exact rfl) uz rfl).cv (congrArg (vP _) (by(simp only[Nat.reduceAdd,Nat.reduceMul,Nat.zero_add,Nat.add_zero,Nat.zero_mul])<;>exact rfl))|exact(zW 0 uu uz rfl rfl rfl (by decide)).cv (congrArg (vP _) (by(simp only[Nat.reduceAdd,Nat.reduceMul,Nat.zero_add,Nat.add_zero,Nat.zero_mul])<;>exact rfl))|exact(zW 1 uu uz rfl rfl rfl (by decide)).cv (congrArg (vP _) (by(simp only[Nat.reduceAdd,Nat.reduceMul,Nat.zero_add,Nat.add_zero,Nat.zero_mul])<;>exact rfl))|exact(zW 2 uu uz rfl rfl rfl (by decide)).cv (congrArg (vP _) (by(simp only[Nat.reduceAdd,Nat.reduceMul,Nat.zero_add,Nat.add_zero,Nat.zero_mul])<;>exact rfl))|exact zKG (hR _ (by first|exact mh0|exact mh1|exact mh2|exact mh3|exact mh4|exact mh5)) uu (by exact rfl) us_ rfl rfl|exact rU rfl rfl|exact oJ rfl|exact gB rfl rfl|exact fF rfl rfl|exact zCN rfl rfl|exact rA rfl rfl|exact lP rfl rfl|exact oL (hR _ (by first|exact mh0|exact mh1|exact mh2|exact mh3|exact mh4|exact mh5)) ua rfl rfl|exact gX (k:=.u64) (k':=.u32) (W:=4294967296) uu uu rfl rfl rfl|exact wQ (k:=.u32) (k':=.u64) (W:=18446744073709551616) uu uu rfl rfl rfl (by omega)|exact fW (k:=.u64) (W:=18446744073709551616) rfl rfl rfl rfl (by omega)|exact oK (k:=.u64) (W:=18446744073709551616) rfl rfl rfl rfl (by omega)|exact kI (k:=.u64) (s:=32) (yk:=.u64) rfl rfl rfl (by simp only[ub];omega)|exact xG ua rfl (Us.mono (by with_reducible first|assumption|exact Us.up (by assumption)) hh) (by omega)):∀h' L',MLe h h'→(∀r∈R,r∈L')→OpV P n w0 h0 o e L' h' v:=f
theorem isGC{P:Program}{n:Nat}{w0:World}{h0 h:Mem}{Q:Exit→Act→World→Prop}{e:List (Nat×Value)}{L:List Res}{c:Code}(k:GC P n w0 h0 c Q e L h):GC P n w0 h0 c Q e L h:=k
theorem isGQ{n:Nat}{w0:World}{h0 h:Mem}{Q:Exit→Act→World→Prop}{e:List (Nat×Value)}{L:List Res}{x:Exit}(k:GQ n w0 h0 Q x e L h):GQ n w0 h0 Q x e L h:=k
theorem isGL{P:Program}{n:Nat}{w0:World}{h0 h:Mem}{Q:Exit→Act→World→Prop}{e:List (Nat×Value)}{L:List Res}{ops:Array Oper}{l:List Oper}(k:GL P n w0 h0 ops Q l e L h):GL P n w0 h0 ops Q l e L h:=k
theorem isW{P:Program}{n:Nat}{w0:World}{h0 h:Mem}{Q:Exit→Act→World→Prop}{e:List (Nat×Value)}{L:List Res}{R:List Res}{ops:Array Oper}{al:Als}{r:List (Nat×Kd)}(k:W P n w0 h0 ops Q R al r e L h):W P n w0 h0 ops Q R al r e L h:=k
structure Kp(p:Prop):Prop where out:p
theorem isGV{P:Program}{n:Nat}{w0:World}{h0 h:Mem}{Q:Exit→Act→World→Prop}{e:List (Nat×Value)}{L:List Res}{ops:Array Oper}{rest:List Oper}{d:Nat}{op:Op}{ty:TypeId}{ps:String}{af:Array Edge}(k:GL P n w0 h0 ops Q (⟨some d,op,ty,ps,af,none⟩::rest) e L h):GL P n w0 h0 ops Q (⟨some d,op,ty,ps,af,none⟩::rest) e L h:=k
theorem isMV{P:Program}{n:Nat}{w0:World}{h0 h:Mem}{Q:Exit→Act→World→Prop}{e:List (Nat×Value)}{L:List Res}{ops:Array Oper}{rest:List Oper}{d:Nat}{x:Operand}{ty:TypeId}{ps:String}{af:Array Edge}(k:GL P n w0 h0 ops Q (⟨some d,.move x,ty,ps,af,none⟩::rest) e L h):GL P n w0 h0 ops Q (⟨some d,.move x,ty,ps,af,none⟩::rest) e L h:=k
theorem isAS{P:Program}{n:Nat}{w0:World}{h0 h:Mem}{Q:Exit→Act→World→Prop}{e:List (Nat×Value)}{L:List Res}{ops:Array Oper}{rest:List Oper}{d:Nat}{x:Operand}{ty:TypeId}{ps:String}{af:Array Edge}(k:GL P n w0 h0 ops Q (⟨some d,.assign x,ty,ps,af,none⟩::rest) e L h):GL P n w0 h0 ops Q (⟨some d,.assign x,ty,ps,af,none⟩::rest) e L h:=k
theorem st{G G':Prop}(k:G')(f:Kp G'→G:=by intro k;first|((with_reducible refine isGL ?_);first|((with_reducible refine isMV ?_);first|exact mv (v:=vI _) rfl rfl k.out|exact mv rfl rfl k.out)|((with_reducible refine isAS ?_);first|exact asg (v:=vI _) rfl rfl k.out|exact asg rfl rfl k.out)|with_reducible exact zQ k.out|((with_reducible refine isGV ?_);refine gv ov rfl ?_;exact k.out)|exact aV rfl rfl rfl rfl rfl rfl k.out|exact iJ rfl rfl rfl k.out|exact zVK rfl rfl rfl rfl rfl k.out|exact zQ k.out|exact mv (v:=vI _) rfl rfl k.out|exact mv rfl rfl k.out|exact asg (v:=vI _) rfl rfl k.out|exact asg rfl rfl k.out|(refine gv ov rfl ?_;exact k.out))|((with_reducible refine isGC ?_);first|with_reducible exact zL k.out|with_reducible exact zE k.out|with_reducible exact wU k.out|with_reducible exact uL k.out|with_reducible exact kX k.out|with_reducible exact bR k.out|exact zFC rfl k.out|exact zFD rfl k.out)|((with_reducible refine isGQ ?_);first|with_reducible exact zH k.out|with_reducible exact tU k.out|with_reducible exact uJ k.out|with_reducible exact kW k.out|with_reducible exact aK k.out|with_reducible exact zMW k.out|exact zGP rfl k.out)|((with_reducible refine isW ?_);first|with_reducible exact rM k.out|exact qA rfl rfl rfl k.out|exact zDZ rfl rfl rfl k.out|exact wZ rfl rfl rfl rfl rfl k.out|exact zPF rfl rfl rfl rfl k.out|(refine xJ rfl ovq rfl ?_;exact k.out)|(refine w_q rfl ovm rfl ?_;exact k.out)|(refine yM rfl rfl rfl ovm rfl ?_;exact k.out)|exact rM k.out)):G:=f ⟨k⟩
theorem go1{G G':Prop}(k:G')(f:Kp G'→G:=by intro k;refine st ?_;exact k.out):G:=f ⟨k⟩
theorem go2{G G':Prop}(k:G')(f:Kp G'→G:=by intro k;refine st ?_;refine st ?_;exact k.out):G:=f ⟨k⟩
theorem go3{G G':Prop}(k:G')(f:Kp G'→G:=by intro k;refine st ?_;refine st ?_;refine st ?_;exact k.out):G:=f ⟨k⟩
theorem go4{G G':Prop}(k:G')(f:Kp G'→G:=by intro k;refine st ?_;refine st ?_;refine st ?_;refine st ?_;exact k.out):G:=f ⟨k⟩
theorem go5{G G':Prop}(k:G')(f:Kp G'→G:=by intro k;refine st ?_;refine st ?_;refine st ?_;refine st ?_;refine st ?_;exact k.out):G:=f ⟨k⟩
theorem go6{G G':Prop}(k:G')(f:Kp G'→G:=by intro k;refine st ?_;refine st ?_;refine st ?_;refine st ?_;refine st ?_;refine st ?_;exact k.out):G:=f ⟨k⟩
theorem go7{G G':Prop}(k:G')(f:Kp G'→G:=by intro k;refine st ?_;refine st ?_;refine st ?_;refine st ?_;refine st ?_;refine st ?_;refine st ?_;exact k.out):G:=f ⟨k⟩
theorem go8{G G':Prop}(k:G')(f:Kp G'→G:=by intro k;refine st ?_;refine st ?_;refine st ?_;refine st ?_;refine st ?_;refine st ?_;refine st ?_;refine st ?_;exact k.out):G:=f ⟨k⟩
theorem go9{G G':Prop}(k:G')(f:Kp G'→G:=by intro k;refine go8 ?_;refine st ?_;exact k.out):G:=f ⟨k⟩
theorem vO{G G':Prop}(k:G')(f:Kp G'→G:=by intro k;refine go8 ?_;refine st ?_;refine st ?_;exact k.out):G:=f ⟨k⟩
theorem uP{G G':Prop}(k:G')(f:Kp G'→G:=by intro k;refine go8 ?_;refine st ?_;refine st ?_;refine st ?_;exact k.out):G:=f ⟨k⟩
theorem uN{G G':Prop}(k:G')(f:Kp G'→G:=by intro k;refine go8 ?_;refine st ?_;refine st ?_;refine st ?_;refine st ?_;exact k.out):G:=f ⟨k⟩
theorem sL{G G':Prop}(k:G')(f:Kp G'→G:=by intro k;refine go8 ?_;refine st ?_;refine st ?_;refine st ?_;refine st ?_;refine st ?_;exact k.out):G:=f ⟨k⟩
theorem tV{G G':Prop}(k:G')(f:Kp G'→G:=by intro k;refine go8 ?_;refine st ?_;refine st ?_;refine st ?_;refine st ?_;refine st ?_;refine st ?_;exact k.out):G:=f ⟨k⟩
theorem j5{G G':Prop}(k:G')(f:Kp G'→G:=by intro k;refine go8 ?_;refine st ?_;refine st ?_;refine st ?_;refine st ?_;refine st ?_;refine st ?_;refine st ?_;exact k.out):G:=f ⟨k⟩
theorem zAR{G G':Prop}(k:G')(f:Kp G'→G:=by intro k;refine go8 ?_;refine go8 ?_;exact k.out):G:=f ⟨k⟩
theorem dG{G G':Prop}(k:G')(f:Kp G'→G:=by intro k;refine go8 ?_;refine go8 ?_;refine st ?_;exact k.out):G:=f ⟨k⟩
theorem zR8{G G':Prop}(k:G')(f:Kp G'→G:=by intro k;refine go8 ?_;refine go8 ?_;refine st ?_;refine st ?_;exact k.out):G:=f ⟨k⟩
theorem yBI{G G':Prop}(k:G')(f:Kp G'→G:=by intro k;refine go8 ?_;refine go8 ?_;refine st ?_;refine st ?_;refine st ?_;exact k.out):G:=f ⟨k⟩
theorem go20{G G':Prop}(k:G')(f:Kp G'→G:=by intro k;refine go8 ?_;refine go8 ?_;refine st ?_;refine st ?_;refine st ?_;refine st ?_;exact k.out):G:=f ⟨k⟩
theorem go22{G G':Prop}(k:G')(f:Kp G'→G:=by intro k;refine go8 ?_;refine go8 ?_;refine st ?_;refine st ?_;refine st ?_;refine st ?_;refine st ?_;refine st ?_;exact k.out):G:=f ⟨k⟩
theorem go23{G G':Prop}(k:G')(f:Kp G'→G:=by intro k;refine go8 ?_;refine go8 ?_;refine st ?_;refine st ?_;refine st ?_;refine st ?_;refine st ?_;refine st ?_;refine st ?_;exact k.out):G:=f ⟨k⟩
theorem go30{G G':Prop}(k:G')(f:Kp G'→G:=by intro k;refine go8 ?_;refine go8 ?_;refine go8 ?_;refine st ?_;refine st ?_;refine st ?_;refine st ?_;refine st ?_;refine st ?_;exact k.out):G:=f ⟨k⟩
end Go.Proofs.YtboaboflnckgoaaGreat
namespace Go.Proofs.YtboaboflnckgoaaGreat
open Bk Go Tryz
set_option linter.unusedVariables false
set_option linter.unusedSimpArgs false
set_option maxRecDepth 10000
set_option maxHeartbeats 1000000
attribute [local irreducible] GL GC GQ W OpV
theorem uS{w0:World}{h0:Mem}(hs:MLe h0 (mem w0)){v:Value}{xs:List Nat}(hv:Us .u32 h0 v xs):
    Calls Tryz.prog 144 #[v] w0 (Ret w0 h0 (fun h r=>r=gJ 1 v 0 (zB (val xs)).length∧Us .u32 h r (zB (val xs)))):=by
 have hlen:=hv.lt63
 refine cb1 21 v func144 hs ?_
 refine tV ?_
 refine gcL (ι:=Nat) (fun(k:(Nat))=>(k≤xs.length∧∀i,k≤i→xs.getD i 0=0,[(0,v),(3,vI ↑k)],[],h0,k)) xs.length ?_ ?_
 ·
  exact⟨Nat.le_refl _,fun i hi=>by rw[List.getD_eq_getElem?_getD,List.getElem?_eq_none hi];rfl⟩
 intro k hx
 dsimp only at hx
 obtain⟨hk,hz⟩:=hx
 refine yS ?_
 refine go5 ?_
 refine gU 8 15 (vB (((0:Int)<↑k)∧(xs.getD (k-1) 0=0))) ?_ ?_
 ·
  refine yB ((0:Int)<↑k) (fun hg=>?_) (fun hg=>?_)
  ·
   refine gT hg rfl ?_
   refine go7 ?_
   refine gv (zO (k-1) underlying22 sizeOf127 rfl rfl hv oM oM) rfl ?_
   refine go3 ?_
   refine gv (gB (k:=.u32) (q:=0) rfl rfl) rfl ?_
   refine go2 ?_
   refine gqU ?_
   exact congrArg some (xM hg)
  refine gF hg rfl ?_
  refine go8 ?_
  refine gqU ?_
  exact congrArg some (xN hg)
 refine go2 ?_
 refine cnd (fun hc15=>?_) fun hc15=>?_
 ·
  refine go9 ?_
  refine gqL (k-1) ?_ ?_ (he:=⟨rfl,?_,trivial⟩)
  ·
   exact⟨by omega,fun i hi=>by
     by_cases e:i=k-1
     · rw[e];exact hc15.2
     · exact hz i oM⟩
  ·
   have:=hc15.1;omega
  · exact congrArg some (congrArg vI (by have:=hc15.1;omega))
 refine go9 ?_
 refine gv (iU _ underlying22 sizeOf127 rfl rfl hv.shape rfl oM) rfl ?_
 have hsl20:=hv.sub (lo:=0) (hi:=_) oM oM
 refine go4 ?_
 refine zD rfl rfl ?_
 have e:(xs.drop 0).take (k-0)=zB (val xs):=zEG hv.lt hk hz (by
   by_cases h0:k=0
   · exact .inl h0
   · exact .inr fun h1=>hc15 ⟨by omega,h1⟩)
 rw[e] at hsl20
 have e2:(zB (val xs)).length=k:=by
   rw[←e,List.length_take,List.length_drop];omega
 refine⟨?_,hsl20⟩
 rw[e2]
theorem zK2{w0:World}{h0:Mem}(hs:MLe h0 (mem w0)){n:Nat}(hn:n<18446744073709551616):
    Calls Tryz.prog 167 #[vU .u64 n] w0 (Ret w0 h0 (fun h r=>Us .u32 h r (zB n))):=by
 refine cb1 10 (vU .u64 n) func167 hs ?_
 refine uN ?_
 refine zF (zC3 (kd:=.u32) underlying22 wK rfl rfl rfl rfl) rfl rfl rfl ?_
 intro v8 r8 hr8
 obtain rfl:=hr8
 refine yG (by intro x hx;simp only[List.mem_cons,List.not_mem_nil,or_false] at hx;simp only[ub];omega) ?_
 intro h1 hh1 hb
 refine cL (ev1 rfl) call144 (fun w hs=>uS hs hb) fun v9 h2 hh2 hr9=>?_
 replace hr9:=hr9.2
 refine go4 ?_
 refine zD rfl rfl ?_
 have e:val [n%4294967296,n/2^32%4294967296]=n:=by simp only[val];omega
 rw[e] at hr9
 exact hr9
theorem eS{w0:World}{h0:Mem}(hs:MLe h0 (mem w0)){v v':Value}{xs ys:List Nat}(hv:Us .u32 h0 v xs)(hv':Us .u32 h0 v' ys):
    Calls Tryz.prog 98 #[v,v'] w0 (Ret w0 h0 (fun _ r=>r=vI (tD (val xs) (val ys)))):=by
 refine cb2 45 v v' func98 hs ?_
 refine go8 ?_
 refine cL (ev1 rfl) call144 (fun w hs=>uS hs hv) fun v7 h1 hh1 hr7=>?_
 replace hr7:=hr7.2
 refine go1 ?_
 replace hv':=hv'.mono hh1
 refine cL (ev1 rfl) call144 (fun w hs=>uS hs hv') fun v9 h2 hh2 hr9=>?_
 replace hr9:=hr9.2
 replace hr7:=hr7.mono hh2
 generalize hA:zB (val xs)=AA at *
 generalize hB:zB (val ys)=BB at *
 have vA:val AA=val xs:=by rw[←hA,zC]
 have vB':val BB=val ys:=by rw[←hB,zC]
 have fA:Fit AA:=hr7.lt
 have fB:Fit BB:=hr9.lt
 have lA:=hr7.lt63
 have lB:=hr9.lt63
 refine tV ?_
 refine cnd (fun hc14=>?_) fun hc14=>?_
 ·
  refine vO ?_
  refine cnd (fun hc19=>?_) fun hc19=>?_
  ·
   refine go8 ?_
   refine zD rfl rfl ?_
   rw[t6 (sD (by rw[hA,hB];omega))]
  refine go9 ?_
  refine zD rfl rfl ?_
  rw[t7 (sD (by rw[hA,hB];omega))]
 have hl:AA.length=BB.length:=by omega
 refine uN ?_
 refine gcL (ι:=Nat) (fun(j:(Nat))=>(j≤AA.length∧AA.drop j=BB.drop j,[(0,v7),(1,v9),(5,vI (↑j-1))],[],h2,j)) AA.length ?_ ?_
 ·
  exact⟨Nat.le_refl _,by rw[List.drop_of_length_le (Nat.le_refl _),List.drop_of_length_le oM]⟩
 intro j hx
 dsimp only at hx
 obtain⟨hj,hd⟩:=hx
 refine yS ?_
 refine go7 ?_
 refine cnd (fun hc24=>?_) fun hc24=>?_
 ·
  refine go5 ?_
  refine gD 9 (qq 0 9 []) (by kernel_rfl) ?_
  refine go2 ?_
  refine w_q rfl (fun h' L' hh hR=>zO (j-1) underlying22 sizeOf127 rfl rfl (hr7.mono hh) oM oM) rfl (w_q rfl (fun h' L' hh hR=>xG isAgg127 rfl (hr7.mono hh) oM) rfl ?_)
  refine go2 ?_
  refine w_q rfl (fun h' L' hh hR=>zO (j-1) underlying22 sizeOf127 rfl rfl (hr9.mono hh) oM oM) rfl (w_q rfl (fun h' L' hh hR=>xG isAgg127 rfl (hr9.mono hh) oM) rfl ?_)
  refine go3 ?_
  refine cnd (fun hc35=>?_) fun hc35=>?_
  ·
   refine go2 ?_
   refine gD 9 (qq 0 9 []) (by kernel_rfl) ?_
   refine go2 ?_
   refine w_q rfl (fun h' L' hh hR=>zO (j-1) underlying22 sizeOf127 rfl rfl (hr7.mono hh) oM oM) rfl (w_q rfl (fun h' L' hh hR=>xG isAgg127 rfl (hr7.mono hh) oM) rfl ?_)
   refine go2 ?_
   refine w_q rfl (fun h' L' hh hR=>zO (j-1) underlying22 sizeOf127 rfl rfl (hr9.mono hh) oM oM) rfl (w_q rfl (fun h' L' hh hR=>xG isAgg127 rfl (hr9.mono hh) oM) rfl ?_)
   refine go3 ?_
   refine cnd (fun hc44=>?_) fun hc44=>?_
   ·
    refine uN ?_
    refine zD rfl rfl ?_
    rw[←vA,←vB',t6 (zBO fA hl oM hj hd hc44)]
   refine sL ?_
   refine zD rfl rfl ?_
   rw[←vA,←vB',t7 (zBO fB hl.symm oM oM hd.symm oM)]
  refine go8 ?_
  refine gqL (j-1) ?_ ?_ (he:=⟨rfl,rfl,?_,trivial⟩)
  ·
   refine⟨by omega,?_⟩
   rw[fC AA (j-1) oM,fC BB (j-1) oM]
   have e:j-1+1=j:=by omega
   rw[e,hd,Classical.not_not.1 hc35]
  ·
   omega
  · exact congrArg some (congrArg vI oM)
 refine uP ?_
 refine zD rfl rfl ?_
 have h0:j=0:=by omega
 subst h0
 simp only[List.drop_zero] at hd
 rw[←vA,←vB',hd,zM6]
theorem pE{w0:World}{h0:Mem}(hs:MLe h0 (mem w0)){v:Value}{xs:List Nat}(hv:Us .u32 h0 v xs)(hl:xs.length≤1099511627776):
    Calls Tryz.prog 103 #[v] w0 (sQ w0 h0 (fun _ r L=>L=[.us 127 .u32 r xs])):=by
 refine cb1 8 v func103 hs ?_
 refine go9 ?_
 refine gv (zKI underlying22 rfl (let ⟨a,c,hv⟩:=hv.one;⟨a,_,c,hv⟩)) rfl ?_
 refine go2 ?_
 refine cnd (fun hc4=>?_) fun hc4=>?_
 ·
  refine go3 ?_
  refine zAS (E:=127) (k:=.u32) ?_
  refine go4 ?_
  refine jU rfl rfl ?_
  obtain⟨m,cap,rfl⟩:=hc4
  have hx:xs=[]:=hv.nil_of
  subst hx
  rfl
 refine go4 ?_
 refine zF (zC4 (kd:=.u32) underlying22 wK rfl rfl) rfl rfl rfl ?_
 intro v5 r5 hr5
 obtain rfl:=hr5
 refine go1 ?_
 refine xS (A:=[]) (jF (kd:=.u32) (bytes:=4) underlying22 wK rfl rfl rfl rfl rfl hv (by simp only[lN];omega) (by simp only[lN];omega)) rfl rfl rfl ?_
 intro v7 r7 hr7
 obtain rfl:=hr7
 refine go4 ?_
 refine jU rfl rfl ?_
 rfl
theorem aG{w0:World}{h0:Mem}(hs:MLe h0 (mem w0)){v v':Value}{xs ys:List Nat}(hv:Us .u32 h0 v xs)(hv':Us .u32 h0 v' ys)(hl:xs.length≤1099511627776)(hl':ys.length≤1099511627776):
    Calls Tryz.prog 100 #[v,v'] w0 (Ret w0 h0 (fun h r=>Us .u32 h r (zB (val xs+val ys)))):=by
 refine cb2 58 v v' func100 hs ?_
 refine go5 ?_
 refine qK (ι:=Value×List Nat×Value×List Nat) (fun(va,xa,vb,xb)=>Us .u32 h0 va xa∧Us .u32 h0 vb xb∧xb.length≤xa.length∧val xa+val xb=val xs+val ys∧xa.length≤1099511627776) (fun(va,xa,vb,xb)=>[(0,va),(1,vb)]) (fun(va,xa,vb,xb)=>[]) (fun(va,xa,vb,xb)=>h0) ?_ ?_
 ·
  refine go5 ?_
  refine gv (wP underlying22 rfl hv') rfl ?_
  refine go3 ?_
  refine cnd (fun hc13=>?_) fun hc13=>?_
  ·
   refine go6 ?_
   refine zN (v',ys,v,xs) ?_ e2z rfl rfl
   exact⟨hv',hv,by omega,by omega,hl'⟩
  refine go1 ?_
  refine zN (v,xs,v',ys) ?_ e2z rfl rfl
  exact⟨hv,hv',by omega,rfl,hl⟩
 intro x hx
 obtain⟨va,xa,vb,xb⟩:=x
 obtain⟨ha,hb,hle,hsum,hla⟩:=hx
 refine yS ?_
 refine go5 ?_
 refine qJ (kd:=.u32) (by':=4) (xa.length+1) underlying22 wK rfl rfl rfl rfl rfl oM oM oM oM rfl ?_
 intro v19
 refine go5 ?_
 refine asg (v:=vU .u64 0) rfl rfl ?_
 refine uP ?_
 refine vC (ι:=List Nat×Nat) (fun(ss,c)=>ss.length≤xa.length∧Fit ss∧c≤1∧val ss+4294967296^ss.length*c=val (xa.take ss.length)+val (xb.take ss.length)) (fun(ss,c)=>[(0,va),(1,vb),(5,v19),(6,vU .u64 c),(20,va),(21,vI ↑xa.length),(22,vI ↑ss.length)]) (fun(ss,c)=>[.us 127 .u32 v19 (fM ss (xa.length+1))]) (fun(ss,c)=>h0) (fun(ss,c)=>xa.length-ss.length) ([],0) ?_ e7 rfl rfl ?_
 ·
  exact⟨by simp,fun x hx=>by simp at hx,by omega,by simp[val]⟩
 intro x hx
 obtain⟨ss,c⟩:=x
 obtain⟨hss,hfs,hc1,hval⟩:=hx
 refine yS ?_
 refine go6 ?_
 refine cnd (fun hc23=>?_) fun hc23=>?_
 ·
  refine go7 ?_
  refine gv (zO _ underlying22 sizeOf127 rfl rfl ha rfl oM) rfl ?_
  refine go1 ?_
  have hx1:=ha.get32 ss.length
  have hx2:=hb.get32 ss.length
  refine sL ?_
  refine qK (ι:=Unit) (fun(_u:(Unit))=>True) (fun(_u:(Unit))=>[(0,va),(1,vb),(5,v19),(6,vU .u64 (c+xa.getD ss.length 0+xb.getD ss.length 0)),(7,vI ↑ss.length),(20,va),(21,vI ↑xa.length),(22,vI ↑ss.length)]) (fun(_u:(Unit))=>[.us 127 .u32 v19 (fM ss (xa.length+1))]) (fun(_u:(Unit))=>h0) ?_ ?_
  ·
   refine go8 ?_
   refine cnd (fun hc34=>?_) fun hc34=>?_
   ·
    refine go4 ?_
    refine gv (zO _ underlying22 sizeOf127 rfl rfl hb rfl oM) rfl ?_
    refine go5 ?_
    refine zN (()) ?_ e8 rfl rfl
    trivial
   refine go1 ?_
   refine zN (()) ?_ ⟨rfl,rfl,rfl,?_,rfl,rfl,rfl,rfl,trivial⟩ rfl rfl
   ·
    trivial
   · exact congrArg some (congrArg (vU .u64) (by rw[tB (xs:=xb) oM];omega))
  intro _u hx
  obtain hcut:=hx
  refine yS ?_
  refine go6 ?_
  refine gv (yP (A:=[]) _ underlying22 sizeOf127 rfl rfl rfl (by rw[vM oM];omega)) rfl (xZ sizeOf127 rfl rfl (by rw[vM oM];omega) ?_)
  refine sL ?_
  refine yQ (ss++[(c+xa.getD ss.length 0+xb.getD ss.length 0)%4294967296],(c+xa.getD ss.length 0+xb.getD ss.length 0)/2^32) ?_ ?_ ⟨rfl,rfl,rfl,rfl,rfl,rfl,?_,trivial⟩ ?_ rfl
  ·
   have hlt:ss.length<xa.length:=by omega
   refine⟨by simp;omega,wY hfs (cS oM),by omega,?_⟩
   rw[lAz,List.length_singleton,uD xa _ hlt,vK xb,tP,Nat.pow_succ]
   have e:=Nat.div_add_mod (c+xa.getD ss.length 0+xb.getD ss.length 0) 4294967296
   have e2:(2:Nat)^32=4294967296:=rfl
   rw[e2]
   generalize (c+xa.getD ss.length 0+xb.getD ss.length 0)/4294967296=q at *
   generalize (c+xa.getD ss.length 0+xb.getD ss.length 0)%4294967296=r at *
   grind
  ·
   dsimp only
   simp;omega
  · exact congrArg some (congrArg vI (by simp))
  try dsimp only[List.nil_append,List.cons_append]
  rw[sM oM]
 refine uN ?_
 refine gv (yP (A:=[]) (xa.length) underlying22 sizeOf127 rfl rfl (by rfl) (by rw[vM oM];omega)) rfl (xZ sizeOf127 rfl rfl (by rw[vM oM];omega) ?_)
 refine go5 ?_
 have hk:ss.length=xa.length:=by omega
 have hfin:(fM ss (xa.length+1)).set xa.length (c%4294967296)=ss++[c%4294967296]:=by
   rw[←hk,sM oM,pS (by simp)]
 refine yG (by rw[hfin];exact wY hfs (cS oM)) ?_
 intro h1 hh1 ho
 refine cL (ev1 rfl) call144 (fun w hs=>uS hs ho) fun v57 h2 hh2 hr57=>?_
 replace hr57:=hr57.2
 refine go4 ?_
 refine zD rfl rfl ?_
 have e:val (ss++[c%4294967296])=val xs+val ys:=by
   rw[tP,Nat.mod_eq_of_lt oM,hval,xK oM,xK oM];exact hsum
 rw[hfin,e] at hr57
 exact hr57
theorem zBW{w0:World}{h0:Mem}(hs:MLe h0 (mem w0)){v v':Value}{xs ys:List Nat}(hv:Us .u32 h0 v xs)(hv':Us .u32 h0 v' ys)(hl:xs.length≤1099511627776):
    Calls Tryz.prog 162 #[v,v'] w0 (Ret w0 h0 (fun h r=>∃u,r=.tuple #[u,vI (if val xs<val ys then 7 else 0)]∧Us .u32 h u (zB (val xs-val ys)))):=by
 refine cb2 54 v v' func162 hs ?_
 refine uP ?_
 refine cL (ev2 rfl rfl) call98 (fun w hs=>eS hs hv hv') fun v14 h1 hh1 hr14=>?_
 subst hr14
 refine go3 ?_
 refine cnd (fun hc15=>?_) fun hc15=>?_
 ·
  have hlt:=gH.1 hc15
  refine go8 ?_
  refine vT rfl rfl rfl ?_
  rw[if_pos hlt,Nat.sub_eq_zero_of_le (Nat.le_of_lt hlt),yR]
  exact⟨_,rfl,Us.nil _ _⟩
 have hge:val ys≤val xs:=Nat.le_of_not_lt fun hc=>hc15 (gH.2 hc)
 refine go5 ?_
 replace hv':=hv'.mono hh1
 refine cL (ev1 rfl) call144 (fun w hs=>uS hs hv') fun v17 h2 hh2 hr17=>?_
 replace hr17:=hr17.2
 replace hv:=hv.mono (hh1.trans hh2)
 refine go7 ?_
 refine qJ (kd:=.u32) (by':=4) _ underlying22 wK rfl rfl rfl rfl rfl rfl rfl oM oM rfl ?_
 intro v20
 refine go5 ?_
 refine asg (v:=vU .u64 0) rfl rfl ?_
 refine uP ?_
 refine vC (ι:=List Nat×Nat) (fun(ss,c)=>ss.length≤xs.length∧Fit ss∧c≤1∧val ss+val ((zB (val ys)).take ss.length)=val (xs.take ss.length)+4294967296^ss.length*c) (fun(ss,c)=>[(1,v17),(6,v20),(7,vU .u64 c),(21,v),(22,vI ↑xs.length),(23,vI ↑ss.length)]) (fun(ss,c)=>[.us 127 .u32 v20 (fM ss xs.length)]) (fun(ss,c)=>h2) (fun(ss,c)=>xs.length-ss.length) ([],0) ?_ e6z rfl rfl ?_
 ·
  exact⟨by simp,fun x hx=>by simp at hx,by omega,by simp[val]⟩
 intro x hx
 obtain⟨ss,c⟩:=x
 obtain⟨hss,hfs,hc1,hval⟩:=hx
 refine yS ?_
 refine go6 ?_
 refine cnd (fun hc24=>?_) fun hc24=>?_
 ·
  refine go7 ?_
  refine gv (zO _ underlying22 sizeOf127 rfl rfl hv rfl oM) rfl ?_
  refine go1 ?_
  have hx1:=hv.get32 ss.length
  have hx2:=hr17.get32 ss.length
  refine vO ?_
  refine qK (ι:=Unit) (fun(_u:(Unit))=>True) (fun(_u:(Unit))=>[(1,v17),(6,v20),(8,vI ↑ss.length),(9,vU .u32 (xs.getD ss.length 0)),(10,vU .u64 (c+(zB (val ys)).getD ss.length 0)),(21,v),(22,vI ↑xs.length),(23,vI ↑ss.length)]) (fun(_u:(Unit))=>[.us 127 .u32 v20 (fM ss xs.length)]) (fun(_u:(Unit))=>h2) ?_ ?_
  ·
   refine go8 ?_
   refine cnd (fun hc32=>?_) fun hc32=>?_
   ·
    refine go4 ?_
    refine gv (zO _ underlying22 sizeOf127 rfl rfl hr17 rfl oM) rfl ?_
    refine go5 ?_
    refine zN (()) ?_ e8 rfl rfl
    trivial
   refine go1 ?_
   refine zN (()) ?_ ⟨rfl,rfl,rfl,rfl,?_,rfl,rfl,rfl,trivial⟩ rfl rfl
   ·
    trivial
   · exact congrArg some (congrArg (vU .u64) (by rw[tB (xs:=zB (val ys)) oM];omega))
  intro _u hx
  obtain hcut:=hx
  refine yS ?_
  refine go5 ?_
  refine gv (lJ (k:=.u64) (W:=18446744073709551616) rfl rfl rfl rfl oM) rfl ?_
  refine go9 ?_
  refine gv (yP (A:=[]) _ underlying22 sizeOf127 rfl rfl rfl (by rw[vM oM];omega)) rfl (xZ sizeOf127 rfl rfl (by rw[vM oM];omega) ?_)
  refine go4 ?_
  refine gv (kI (k:=.u64) (s:=63) (yk:=.u64) rfl rfl rfl (by simp only[ub];omega)) rfl ?_
  refine go8 ?_
  generalize hX:xs.getD ss.length 0=X at *
  generalize hY:(zB (val ys)).getD ss.length 0=Y at *
  refine yQ (ss++[(X+18446744073709551616-(c+Y))%18446744073709551616%4294967296],(X+18446744073709551616-(c+Y))%18446744073709551616/2^63) ?_ ?_ ⟨rfl,rfl,rfl,rfl,rfl,?_,trivial⟩ ?_ rfl
  ·
   have hlt:ss.length<xs.length:=by omega
   refine⟨by simp;omega,wY hfs (cS oM),by omega,?_⟩
   rw[lAz,List.length_singleton,uD xs _ hlt,vK (zB (val ys)),tP,Nat.pow_succ,hX,hY]
   have e:(X+18446744073709551616-(c+Y))%18446744073709551616%4294967296+c+Y=X+4294967296*((X+18446744073709551616-(c+Y))%18446744073709551616/2^63):=by omega
   generalize (X+18446744073709551616-(c+Y))%18446744073709551616/2^63=q at *
   generalize (X+18446744073709551616-(c+Y))%18446744073709551616%4294967296=r at *
   grind
  ·
   dsimp only
   simp;omega
  · exact congrArg some (congrArg vI (by simp))
  try dsimp only[List.nil_append,List.cons_append]
  rw[sM oM]
 refine go8 ?_
 have hk:ss.length=xs.length:=by omega
 rw[pS hk]
 refine yG (by exact hfs) ?_
 intro h3 hh3 ho
 refine cL (ev1 rfl) call144 (fun w hs=>uS hs ho) fun v53 h4 hh4 hr53=>?_
 replace hr53:=hr53.2
 refine go5 ?_
 refine vT rfl rfl rfl ?_
 replace hv:=hv.mono (hh3.trans hh4)
 rw[if_neg oM]
 refine⟨_,rfl,?_⟩
 have e:val ss=val xs-val ys:=by
   have hly:(zB (val ys)).length≤xs.length:=Nat.le_trans (zM hge) (wR hv.lt)
   rw[xK oM,zC,xK oM] at hval
   have h1:=jY hfs
   have h2:c=0:=Classical.byContradiction fun hne=>by
     have:c=1:=by omega
     subst this
     omega
   subst h2
   omega
 rw[e] at hr53
 exact hr53
theorem fN{w0:World}{h0:Mem}(hs:MLe h0 (mem w0)){v v':Value}{xs ys:List Nat}(hv:Us .u32 h0 v xs)(hv':Us .u32 h0 v' ys)(hl:xs.length≤1099511627776)(hl':ys.length≤1099511627776):
    Calls Tryz.prog 99 #[v,v'] w0 (Ret w0 h0 (fun h r=>Us .u32 h r (zB (val xs*val ys)))):=by
 have hfx:Fit xs:=hv.lt
 have hfy:Fit ys:=hv'.lt
 refine cb2 69 v v' func99 hs ?_
 refine vO ?_
 refine gv (wP underlying22 rfl hv') rfl ?_
 refine go1 ?_
 refine qJ (kd:=.u32) (by':=4) (xs.length+ys.length) underlying22 wK rfl rfl rfl rfl rfl oM oM oM oM rfl ?_
 intro v16
 refine uN ?_
 refine gcL (ι:=Nat×List Nat) (fun(k,os)=>(k≤xs.length∧os.length=xs.length+ys.length∧Fit os∧val os=val (xs.take k)*val ys∧∀i,k+ys.length≤i→os.getD i 0=0,[(1,v'),(5,v16),(17,v),(18,vI ↑xs.length),(19,vI ↑k)],[.us 127 .u32 v16 os],h0,xs.length-k)) (0,List.replicate (xs.length+ys.length) 0) ?_ ?_
 ·
  exact⟨Nat.zero_le _,by simp,qD _,by rw[fI];simp[val],fun i _=>eA _ _⟩
 intro x hx
 obtain⟨k,os⟩:=x
 dsimp only at hx
 obtain⟨hk,hos,hfo,hval,hz⟩:=hx
 refine yS ?_
 refine go6 ?_
 refine cnd (fun hc20=>?_) fun hc20=>?_
 ·
  refine go7 ?_
  refine gv (zO _ underlying22 sizeOf127 rfl rfl hv rfl oM) rfl ?_
  refine go1 ?_
  have hx1:=hv.get32 k
  refine go8 ?_
  refine gv (gB (k:=.u32) (q:=0) rfl rfl) rfl ?_
  refine go2 ?_
  refine cnd (fun hc25=>?_) fun hc25=>?_
  ·
   have hx0:xs.getD k 0=0:=hc25
   refine go8 ?_
   refine gqL (k+1,os) ?_ ?_
   ·
    exact⟨by omega,hos,hfo,by rw[hval,uD xs k oM,hx0];simp,fun i hi=>hz i oM⟩
   omega
  have hx0:xs.getD k 0≠0:=hc25
  refine go4 ?_
  refine asg (v:=vU .u64 0) rfl rfl ?_
  refine go6 ?_
  refine gv (wP underlying22 rfl hv') rfl ?_
  refine go4 ?_
  refine gcL (ι:=Nat×List Nat×Nat) (fun(j,ts,c)=>(j≤ys.length∧ts.length=xs.length+ys.length∧Fit ts∧c<4294967296∧val ts+4294967296^(k+j)*c=val os+4294967296^k*(xs.getD k 0*val (ys.take j))∧∀i,k+ys.length≤i→ts.getD i 0=0,[(1,v'),(5,v16),(6,vI ↑k),(7,vU .u32 (xs.getD k 0)),(8,vU .u64 c),(17,v),(18,vI ↑xs.length),(19,vI ↑k),(26,v'),(27,vI ↑ys.length),(28,vI ↑j)],[.us 127 .u32 v16 ts],h0,ys.length-j)) (0,os,0) ?_ ?_
  ·
   exact⟨Nat.zero_le _,hos,hfo,by omega,by simp[val],hz⟩
  intro x hx
  obtain⟨j,ts,c⟩:=x
  dsimp only at hx
  obtain⟨hj,hts,hft,hcb,htv,htz⟩:=hx
  refine yS ?_
  refine go6 ?_
  refine cnd (fun hc29=>?_) fun hc29=>?_
  ·
   refine go7 ?_
   refine gv (zO _ underlying22 sizeOf127 rfl rfl hv' rfl oM) rfl (gv (xG isAgg127 rfl hv' oM) rfl ?_)
   have hx2:=hv'.get32 j
   have hx3:=uX hft (k+j)
   have hxy:xs.getD k 0*ys.getD j 0≤4294967295*4294967295:=Nat.mul_le_mul oM oM
   refine zAR ?_
   refine gv (yP (A:=[]) (k+j) underlying22 sizeOf127 rfl rfl oM oM) rfl (gv (kL (A:=[]) isAgg127 rfl oM) rfl ?_)
   refine tV ?_
   refine gv (yP (A:=[]) (k+j) underlying22 sizeOf127 rfl rfl oM oM) rfl (xZ sizeOf127 rfl rfl oM ?_)
   refine sL ?_
   refine gqL (j+1,ts.set (k+j) ((c+(xs.getD k 0*ys.getD j 0+ts.getD (k+j) 0))%4294967296),(c+(xs.getD k 0*ys.getD j 0+ts.getD (k+j) 0))/2^32) ?_ ?_
   ·
    refine⟨by omega,by simp[hts],aL hft _ oM,by omega,?_,fun i hi=>?_⟩
    · have h1:=aD (xs:=ts) (i:=k+j) oM ((c+(xs.getD k 0*ys.getD j 0+ts.getD (k+j) 0))%4294967296)
      have e:=Nat.div_add_mod (c+(xs.getD k 0*ys.getD j 0+ts.getD (k+j) 0)) 4294967296
      have e2:(2:Nat)^32=4294967296:=rfl
      rw[uD ys j oM,e2]
      have ep:(4294967296:Nat)^(k+(j+1))=4294967296^k*4294967296^j*4294967296:=by rw[←Nat.add_assoc,Nat.pow_succ,Nat.pow_add]
      rw[ep]
      rw[Nat.pow_add] at h1 htv
      generalize (c+(xs.getD k 0*ys.getD j 0+ts.getD (k+j) 0))/4294967296=q at *
      generalize (c+(xs.getD k 0*ys.getD j 0+ts.getD (k+j) 0))%4294967296=r at *
      grind
    · rw[qC oM];exact htz i hi
   omega
  refine go9 ?_
  refine gv (wP underlying22 rfl hv') rfl ?_
  refine go3 ?_
  refine gv (yP (A:=[]) (k+ys.length) underlying22 sizeOf127 rfl rfl oM oM) rfl (xZ sizeOf127 rfl rfl oM ?_)
  refine go7 ?_
  refine gqL (k+1,ts.set (k+ys.length) (c%4294967296)) ?_ ?_
  ·
   have hj:j=ys.length:=by omega
   subst hj
   refine⟨by omega,by simp[hts],aL hft _ oM,?_,fun i hi=>?_⟩
   · have h1:=aD (xs:=ts) (i:=k+ys.length) oM (c%4294967296)
     rw[htz _ (Nat.le_refl _)] at h1
     rw[xK (Nat.le_refl _)] at htv
     rw[Nat.mod_eq_of_lt hcb] at h1 ⊢
     rw[uD xs k oM]
     grind
   · rw[qC oM];exact htz i oM
  omega
 refine go8 ?_
 refine yG (by exact hfo) ?_
 intro h1 hh1 ho
 refine cL (ev1 rfl) call144 (fun w hs=>uS hs ho) fun v68 h2 hh2 hr68=>?_
 replace hr68:=hr68.2
 refine go4 ?_
 refine zD rfl rfl ?_
 have hk':k=xs.length:=by omega
 rw[hval,hk',xK (Nat.le_refl _)] at hr68
 exact hr68
end Go.Proofs.YtboaboflnckgoaaGreat
namespace Go.Proofs.YtboaboflnckgoaaGreat
open Bk Go Tryz
set_option linter.unusedVariables false
set_option linter.unusedSimpArgs false
set_option maxRecDepth 10000
set_option maxHeartbeats 1000000
attribute [local irreducible] GL GC GQ W OpV
set_option maxRecDepth 100000 in
theorem zDR{w0:World}{h0:Mem}(hs:MLe h0 (mem w0)){x:Nat}(hx:x<4294967296):
    Calls Tryz.prog 145 #[vU .u32 x] w0 (Ret w0 h0 (fun _ r=>r=vI ↑(xY x))):=by
 refine cb1 19 (vU .u32 x) func145 hs ?_
 refine go5 ?_
 refine qK (ι:=Nat×Nat) (fun(x1,n1)=>x1<65536∧n1≤16∧xY x=xY x1+n1) (fun(x1,n1)=>[(0,vU .u32 x1),(2,vI ↑n1)]) (fun(x1,n1)=>[]) (fun(x1,n1)=>h0) ?_ ?_
 ·
  refine go3 ?_
  refine gv (rA (k:=.u32) (q:=65536) rfl rfl) rfl ?_
  refine go2 ?_
  refine cnd (fun hc4=>?_) fun hc4=>?_
  ·
   refine go3 ?_
   refine gv (kI (k:=.u32) (s:=16) (yk:=.u64) rfl rfl rfl (by simp only[ub];omega)) rfl ?_
   refine go6 ?_
   refine zN (x/2^16,16) ?_ e2z rfl rfl
   exact⟨by omega,by omega,zAZ hc4⟩
  refine go1 ?_
  refine zN (x,0) ?_ e2z rfl rfl
  exact⟨by omega,by omega,rfl⟩
 intro x hx
 obtain⟨x1,n1⟩:=x
 obtain⟨hx1,hn1,hb1⟩:=hx
 refine yS ?_
 refine qK (ι:=Nat×Nat) (fun(x2,n2)=>x2<256∧n2≤24∧xY x=xY x2+n2) (fun(x2,n2)=>[(0,vU .u32 x2),(2,vI ↑n2)]) (fun(x2,n2)=>[]) (fun(x2,n2)=>h0) ?_ ?_
 ·
  refine go3 ?_
  refine gv (rA (k:=.u32) (q:=256) rfl rfl) rfl ?_
  refine go2 ?_
  refine cnd (fun hc8=>?_) fun hc8=>?_
  ·
   refine go3 ?_
   refine gv (kI (k:=.u32) (s:=8) (yk:=.u64) rfl rfl rfl (by simp only[ub];omega)) rfl ?_
   refine go8 ?_
   refine zN (x1/2^8,n1+8) ?_ ⟨rfl,?_,trivial⟩ rfl rfl
   ·
    exact⟨by omega,by omega,by rw[hb1,zAZ (k:=8) hc8];omega⟩
   · exact congrArg some (congrArg vI oM)
  refine go1 ?_
  refine zN (x1,n1) ?_ e2z rfl rfl
  exact⟨by omega,by omega,hb1⟩
 intro x hx
 obtain⟨x2,n2⟩:=x
 obtain⟨hx2,hn2,hb2⟩:=hx
 refine yS ?_
 refine go4 ?_
 refine gv (gX (k:=.u32) (k':=.u8) (W:=256) underlying127 underlying5 rfl rfl rfl) rfl ?_
 have hb8:xY x2≤8:=bX (k:=8) oM
 refine mF (zF5 (fun i=>xY i) (x2%256) underlying9 rfl rfl rfl (by decide +kernel) (by show x2%256<256;omega)) rfl rfl rfl ?_
 rw[Nat.mod_eq_of_lt hx2]
 refine gv (zKJ (k:=.u8) underlying5 underlying3 rfl oM) rfl ?_
 refine go5 ?_
 refine zD rfl rfl ?_
 exact congrArg vI oM
theorem zO6{w0:World}{h0:Mem}(hs:MLe h0 (mem w0)){x:Nat}(hx:x<4294967296):
    Calls Tryz.prog 183 #[vU .u32 x] w0 (Ret w0 h0 (fun _ r=>r=vI ↑(32-xY x))):=by
 refine cb1 6 (vU .u32 x) func183 hs ?_
 refine go8 ?_
 refine cL (ev1 rfl) call145 (fun w hs=>zDR hs oM) fun v4 h1 hh1 hr4=>?_
 subst hr4
 have hb:xY x≤32:=bX (k:=32) oM
 refine gv (qW (p:=32) rfl rfl oM oM) rfl ?_
 refine go4 ?_
 refine zD rfl rfl ?_
 exact congrArg vI oM
theorem pP{w0:World}{h0:Mem}(hs:MLe h0 (mem w0)){v:Value}{xs:List Nat}(hv:Us .u32 h0 v xs)(hl:xs.length≤1099511627776):
    Calls Tryz.prog 94 #[v] w0 (Ret w0 h0 (fun _ r=>r=vI ↑(xY (val xs)))):=by
 refine cb1 20 v func94 hs ?_
 refine go8 ?_
 refine cL (ev1 rfl) call144 (fun w hs=>uS hs hv) fun v4 h1 hh1 hr4=>?_
 replace hr4:=hr4.2
 replace hv:=hv.mono hh1
 have hll:=wR hv.lt
 generalize hA:zB (val xs)=AA at *
 have vA:val AA=val xs:=by rw[←hA,zC]
 have fA:Fit AA:=hr4.lt
 refine uP ?_
 refine cnd (fun hc7=>?_) fun hc7=>?_
 ·
  refine go7 ?_
  refine zD rfl rfl ?_
  have h0:AA=[]:=List.eq_nil_of_length_eq_zero oM
  rw[←vA,h0];rfl
 refine go6 ?_
 have hpos:0<AA.length:=by omega
 refine go1 ?_
 refine gv (bJ (p:=32) rfl rfl oM oM) rfl ?_
 refine go4 ?_
 refine gv (zO (AA.length-1) underlying22 sizeOf127 rfl rfl hr4 oM oM) rfl ?_
 refine go1 ?_
 have hx1:=uX fA (AA.length-1)
 have hb:=bX (n:=AA.getD (AA.length-1) 0) (k:=32) oM
 refine cL (ev1 rfl) call145 (fun w hs=>zDR hs oM) fun v18 h2 hh2 hr18=>?_
 subst hr18
 refine go5 ?_
 refine zD rfl rfl ?_
 rw[←vA,zAY fA (k:=AA.length-1) oM (by rw[←hA];exact tL (by rw[hA];exact hpos))]
 exact congrArg vI oM
theorem zIG{w0:World}{h0:Mem}(hs:MLe h0 (mem w0)){v:Value}{xs:List Nat}(hv:Us .u32 h0 v xs)(hl:xs.length≤2):
    Calls Tryz.prog 192 #[v] w0 (Ret w0 h0 (fun _ r=>r=vU .u64 (val xs))):=by
 have hf:Fit xs:=hv.lt
 refine cb1 21 v func192 hs ?_
 refine go2 ?_
 refine asg (v:=vU .u64 0) rfl rfl ?_
 refine go4 ?_
 refine asg (v:=vU .u64 0) rfl rfl ?_
 refine uN ?_
 have hd0:val (xs.drop xs.length)=0:=by rw[List.drop_of_length_le (Nat.le_refl _)];rfl
 refine vC (ι:=Nat) (fun(j:(Nat))=>j≤xs.length) (fun(j:(Nat))=>[(0,v),(3,vU .u64 (val (xs.drop j))),(4,vI (↑j-1))]) (fun(j:(Nat))=>[]) (fun(j:(Nat))=>h0) (fun(j:(Nat))=>j) xs.length ?_ ⟨?_,?_,?_,trivial⟩ rfl rfl ?_
 ·
  exact Nat.le_refl _
 · exact rfl
 · exact congrArg some (congrArg (vU .u64) hd0.symm)
 · exact rfl
 intro j hx
 obtain hj:=hx
 refine yS ?_
 refine go7 ?_
 refine cnd (fun hc9=>?_) fun hc9=>?_
 ·
  refine go6 ?_
  refine gv (kJ (k:=.u64) (s:=32) (yk:=.u64) (W:=18446744073709551616) rfl rfl rfl rfl) rfl ?_
  refine go2 ?_
  refine gv (zO (j-1) underlying22 sizeOf127 rfl rfl hv oM oM) rfl ?_
  refine go1 ?_
  have hx1:=hv.get32 (j-1)
  refine go1 ?_
  refine gv (tF (k:=.u64) rfl rfl rfl (by simp only[ub];omega) (by simp only[ub];omega)) rfl ?_
  rw[rB (by
        have h2:=jY (nF hf j)
        rw[List.length_drop] at h2
        have h3:(4294967296:Nat)^(xs.length-j)≤4294967296^1:=Nat.pow_le_pow_right oM oM
        omega) hx1]
  refine go9 ?_
  refine yQ (j-1) ?_ ?_ ⟨rfl,?_,?_,trivial⟩ rfl rfl
  ·
   omega
  ·
   omega
  ·
          rw[jH xs (j-1) oM]
          exact congrArg some (congrArg (vU .u64) (by rw[show j-1+1=j by omega];omega))
  · exact congrArg some (congrArg vI oM)
 refine uN ?_
 refine zD rfl rfl ?_
 rw[show j=0 by omega];rfl
theorem zOJ{w0:World}{h0:Mem}(hs:MLe h0 (mem w0)){v:Value}{xs:List Nat}{b:Nat}(hv:Us .u32 h0 v xs)(hb:0<b)(hb':b<4294967296)(hl:xs.length≤1099511627776):
    Calls Tryz.prog 182 #[v,vU .u32 b] w0 (Ret w0 h0 (fun h r=>∃u,r=.tuple #[u,vU .u32 (val xs%b)]∧Us .u32 h u (zB (val xs/b)))):=by
 have hf:Fit xs:=hv.lt
 refine cb2 43 v (vU .u32 b) func182 hs ?_
 refine go3 ?_
 refine asg (v:=vU .u32 0) rfl rfl ?_
 refine go6 ?_
 refine qJ (kd:=.u32) (by':=4) _ underlying22 wK rfl rfl rfl rfl rfl rfl rfl oM oM rfl ?_
 intro v11
 refine go5 ?_
 refine asg (v:=vU .u64 0) rfl rfl ?_
 refine uN ?_
 refine vC (ι:=Nat×List Nat×Nat) (fun(j,qs,r)=>j≤xs.length∧qs.length=xs.length-j∧Fit qs∧r<b∧val (xs.drop j)=b*val qs+r) (fun(j,qs,r)=>[(0,v),(1,vU .u32 b),(6,v11),(7,vU .u64 r),(8,vI (↑j-1))]) (fun(j,qs,r)=>[.us 127 .u32 v11 (kS j qs)]) (fun(j,qs,r)=>h0) (fun(j,qs,r)=>j) (xs.length,[],0) ?_ e5 ?_ rfl ?_
 ·
  exact⟨Nat.le_refl _,by simp,fun x hx=>by simp at hx,hb,by rw[List.drop_of_length_le (Nat.le_refl _)];rfl⟩
 ·
  try dsimp only[List.nil_append,List.cons_append]
  exact congrArg (fun z=>[Res.us 127 .u32 v11 z]) (bU _)
 intro x hx
 obtain⟨j,qs,r⟩:=x
 obtain⟨hj,hql,hfq,hr,hval⟩:=hx
 refine yS ?_
 refine go7 ?_
 refine cnd (fun hc16=>?_) fun hc16=>?_
 ·
  refine go7 ?_
  refine gv (kJ (k:=.u64) (s:=32) (yk:=.u64) (W:=18446744073709551616) rfl rfl rfl rfl) rfl ?_
  refine go2 ?_
  refine gv (zO (j-1) underlying22 sizeOf127 rfl rfl hv oM oM) rfl ?_
  refine go1 ?_
  have hx1:=hv.get32 (j-1)
  refine go1 ?_
  refine gv (tF (k:=.u64) rfl rfl rfl (by simp only[ub];omega) (by simp only[ub];omega)) rfl ?_
  rw[rB oM hx1]
  generalize ht:r*4294967296+xs.getD (j-1) 0=t at *
  have hq:t/b<4294967296:=Nat.div_lt_of_lt_mul (by rw[←ht];have h1:(r+1)*4294967296≤b*4294967296:=Nat.mul_le_mul_right _ hr;omega)
  refine vO ?_
  refine gv (pL (k:=.u64) (W:=18446744073709551616) rfl rfl rfl rfl oM oM) rfl (gv (wQ (k:=.u64) (k':=.u32) (W:=4294967296) underlying130 underlying127 rfl rfl rfl oM) rfl (gv (yP (A:=[]) (j-1) underlying22 sizeOf127 rfl rfl oM (by rw[qQ];omega)) rfl (xZ sizeOf127 rfl rfl (by rw[qQ];omega) ?_)))
  refine go6 ?_
  refine gv (pK (k:=.u64) rfl rfl oM) rfl ?_
  refine go9 ?_
  refine yQ (j-1,t/b::qs,t%b) ?_ ?_ ⟨rfl,rfl,rfl,rfl,?_,trivial⟩ ?_ rfl
  ·
   refine⟨by omega,by simp only[lC];omega,tY.2 ⟨hq,hfq⟩,Nat.mod_lt _ hb,?_⟩
   rw[jH xs (j-1) oM,show j-1+1=j by omega,val]
   exact zCA hval ht.symm rfl rfl
  ·
   dsimp only
   omega
  · exact congrArg some (congrArg vI oM)
  try dsimp only[List.nil_append,List.cons_append]
  rw[bT oM]
 refine go8 ?_
 have hj0:j=0:=by omega
 subst hj0
 rw[pT]
 refine yG (by exact hfq) ?_
 intro h1 hh1 ho
 refine cL (ev1 rfl) call144 (fun w hs=>uS hs ho) fun v40 h2 hh2 hr40=>?_
 replace hr40:=hr40.2
 refine go1 ?_
 refine gv (wQ (k:=.u64) (k':=.u32) (W:=4294967296) underlying130 underlying127 rfl rfl rfl oM) rfl ?_
 refine go5 ?_
 refine vT rfl rfl rfl ?_
 simp only[List.drop_zero] at hval
 have e1:val xs/b=val qs:=by rw[hval,Nat.mul_add_div hb,Nat.div_eq_of_lt hr];omega
 have e2:val xs%b=r:=by rw[hval,Nat.mul_add_mod,Nat.mod_eq_of_lt hr]
 rw[e1,e2]
 exact⟨_,rfl,hr40⟩
theorem eQ{w0:World}{h0:Mem}(hs:MLe h0 (mem w0)){v:Value}{xs:List Nat}{s:Nat}(hv:Us .u32 h0 v xs)(hs32:s<32)(hl:xs.length≤1099511627776):
    Calls Tryz.prog 146 #[v,vI ↑s] w0 (sQ w0 h0 (fun _ r L=>∃us,L=[.us 127 .u32 r us]∧us.length=xs.length+1∧Fit us∧val us=val xs*2^s)):=by
 have hf:Fit xs:=hv.lt
 have hp:2^s≤2147483648:=Nat.pow_le_pow_right (n:=2) oM (show s≤31 by omega)
 have hp0:0<2^s:=Nat.pow_pos oM
 refine cb2 41 v (vI ↑s) func146 hs ?_
 refine vO ?_
 refine qJ (kd:=.u32) (by':=4) (xs.length+1) underlying22 wK rfl rfl rfl rfl rfl oM oM oM oM rfl ?_
 intro v12
 refine go5 ?_
 refine asg (v:=vU .u64 0) rfl rfl ?_
 refine uP ?_
 refine vC (ι:=List Nat×Nat) (fun(ss,c)=>ss.length≤xs.length∧Fit ss∧c<2^s∧val ss+4294967296^ss.length*c=val (xs.take ss.length)*2^s) (fun(ss,c)=>[(0,v),(1,vI ↑s),(5,v12),(6,vU .u64 c),(13,v),(14,vI ↑xs.length),(15,vI ↑ss.length)]) (fun(ss,c)=>[.us 127 .u32 v12 (fM ss (xs.length+1))]) (fun(ss,c)=>h0) (fun(ss,c)=>xs.length-ss.length) ([],0) ?_ e7 rfl rfl ?_
 ·
  exact⟨by simp,fun x hx=>by simp at hx,hp0,by simp[val]⟩
 intro x hx
 obtain⟨ss,c⟩:=x
 obtain⟨hss,hfs,hc,hval⟩:=hx
 refine yS ?_
 refine go6 ?_
 refine cnd (fun hc16=>?_) fun hc16=>?_
 ·
  refine go7 ?_
  refine gv (zO _ underlying22 sizeOf127 rfl rfl hv rfl oM) rfl ?_
  refine go1 ?_
  have hx1:=hv.get32 ss.length
  have hxs:xs.getD ss.length 0*2^s<18446744073709551616-4294967296:=by
    have:=Nat.mul_le_mul (show xs.getD ss.length 0≤4294967295 by omega) hp
    omega
  refine vO ?_
  refine gv (kJ (k:=.u64) (s:=s) (yk:=.i64) (W:=18446744073709551616) rfl rfl rfl rfl) rfl ?_
  rw[Nat.mod_eq_of_lt oM]
  refine gv (tF (k:=.u64) rfl rfl rfl (by simp only[ub];omega) (by simp only[ub];omega)) rfl ?_
  rw[zKK hc]
  refine go9 ?_
  refine gv (yP (A:=[]) _ underlying22 sizeOf127 rfl rfl rfl (by rw[vM oM];omega)) rfl (xZ sizeOf127 rfl rfl (by rw[vM oM];omega) ?_)
  refine sL ?_
  refine yQ (ss++[(xs.getD ss.length 0*2^s+c)%4294967296],(xs.getD ss.length 0*2^s+c)/2^32) ?_ ?_ ⟨rfl,rfl,rfl,rfl,rfl,rfl,?_,trivial⟩ ?_ rfl
  ·
   refine⟨by simp;omega,wY hfs (cS oM),?_,?_⟩
   · refine Nat.div_lt_of_lt_mul ?_
     have:=Nat.mul_le_mul_right (2^s) (show xs.getD ss.length 0+1≤2^32 by omega)
     rw[Nat.add_mul] at this
     omega
   · have e:=Nat.div_add_mod (xs.getD ss.length 0*2^s+c) 4294967296
     have e2:(2:Nat)^32=4294967296:=rfl
     rw[lAz,List.length_singleton,uD xs _ oM,tP,Nat.pow_succ,e2]
     generalize (xs.getD ss.length 0*2^s+c)/4294967296=q at *
     generalize (xs.getD ss.length 0*2^s+c)%4294967296=r at *
     grind
  ·
   dsimp only
   simp;omega
  · exact congrArg some (congrArg vI (by simp))
  try dsimp only[List.nil_append,List.cons_append]
  rw[sM oM]
 refine uN ?_
 refine gv (yP (A:=[]) (xs.length) underlying22 sizeOf127 rfl rfl (by rfl) (by rw[vM oM];omega)) rfl (xZ sizeOf127 rfl rfl (by rw[vM oM];omega) ?_)
 refine go9 ?_
 refine jU rfl rfl ?_
 have hk:ss.length=xs.length:=by omega
 refine⟨ss++[c],?_,by simp[hk],wY hfs (cS oM),?_⟩
 · rw[←hk,sM oM,pS (by simp),Nat.mod_eq_of_lt oM]
 · rw[tP,hval,xK oM]
end Go.Proofs.YtboaboflnckgoaaGreat
namespace Go.Proofs.YtboaboflnckgoaaGreat
open Bk Go Tryz
set_option linter.unusedVariables false
set_option linter.unusedSimpArgs false
set_option maxRecDepth 10000
set_option maxHeartbeats 1000000
attribute [local irreducible] GL GC GQ W OpV
end Go.Proofs.YtboaboflnckgoaaGreat
namespace Go.Proofs.YtboaboflnckgoaaGreat
open Bk Go Tryz
set_option linter.unusedVariables false
set_option linter.unusedSimpArgs false
set_option maxRecDepth 10000
set_option maxHeartbeats 1000000
attribute [local irreducible] GL GC GQ W OpV
set_option maxHeartbeats 2000000 in
theorem eR{w0:World}{h0:Mem}(hs:MLe h0 (mem w0)){v v':Value}{xs ys:List Nat}(hv:Us .u32 h0 v xs)(hv':Us .u32 h0 v' ys)(hl:xs.length≤1099511627776)(hl':ys.length≤1099511627776):
    Calls Tryz.prog 147 #[v,v'] w0 (Ret w0 h0 (fun h z=>∃q r,z=.tuple #[q,r,vI (if val ys=0 then 3 else 0)]∧Us .u32 h q (zB (val xs/val ys))∧Us .u32 h r (zB (if val ys=0 then 0 else val xs%val ys)))):=by
 have hfx:Fit xs:=hv.lt
 have hfy:Fit ys:=hv'.lt
 have hlx:=wR hfx
 have hly:=wR hfy
 refine cb2 300 v v' func147 hs ?_
 refine zL (zE (asg rfl rfl (asg rfl rfl (asg (v:=vI (0)) rfl rfl (zQ (zH (zL (zE (mv rfl rfl (cL (ev1 rfl) call144 (fun w hs=>uS hs hv) fun v27 h1 hh1 hr27=>?_))))))))))
 replace hr27:=hr27.2
 refine mv rfl rfl ?_
 replace hv':=hv'.mono hh1
 refine cL (ev1 rfl) call144 (fun w hs=>uS hs hv') fun v29 h2 hh2 hr29=>?_
 replace hr29:=hr29.2
 refine asg rfl rfl (asg rfl rfl (zQ (zH (zL (wU (zL (zE (mv rfl rfl (gv (wP underlying22 rfl hr29) rfl (gv (oP (q:=0) rfl rfl) rfl (asg rfl rfl (zQ (wT (e':=[(0,_),(1,_),(30,_)]) e3z ?_)))))))))))))
 refine zH ?_
 refine cnd (fun hc30=>?_) fun hc30=>?_
 ·
  have hy0:val ys=0:=Classical.byContradiction fun hne=>by have:=yK.2 hne;omega
  refine zL (zE (asg rfl rfl (asg rfl rfl (asg (v:=vI (3)) rfl rfl (zQ (zH (bR (zMW (aK (qX rfl rfl rfl rfl ?_))))))))))
  rw[hy0,Nat.div_zero,if_pos rfl,if_pos rfl,yR]
  exact⟨_,_,rfl,Us.nil _ _,Us.nil _ _⟩
 have hyne:val ys≠0:=yK.1 oM
 refine zL (zE (mv rfl rfl (mv rfl rfl ?_)))
 replace hr27:=hr27.mono hh2
 refine cL (ev2 rfl rfl) call98 (fun w hs=>eS hs hr27 hr29) fun v37 h3 hh3 hr37=>?_
 subst hr37
 rw[zC,zC]
 refine gv (yL (q:=0) rfl rfl) rfl (asg rfl rfl (zQ (zH ?_)))
 refine cnd (fun hc34=>?_) fun hc34=>?_
 ·
  have hlt:=gH.1 hc34
  refine zL (zE (mv rfl rfl ?_))
  replace hr27:=hr27.mono hh3
  refine qU (vs:=[_]) rfl rfl rfl rfl call103 ⟨rfl,trivial⟩ (fun w hs=>pE hs hr27 oM) ?_
  intro v40 h4 L40 hh4 hr40
  obtain rfl:=hr40
  refine asg rfl rfl (asg rfl rfl (yG (by exact xR _) ?_))
  intro h5 hh5 ho
  refine asg (v:=vI (0)) rfl rfl (zQ (wT (e':=[(4,_),(5,_),(6,_)]) e3z (zH (bR (zMW (aK (qX rfl rfl rfl rfl ?_)))))))
  rw[Nat.div_eq_of_lt hlt,Nat.mod_eq_of_lt hlt,if_neg oM,if_neg oM,yR]
  exact⟨_,_,rfl,Us.nil _ _,ho⟩
 have hge:val ys≤val xs:=Nat.le_of_not_lt fun hc=>hc34 (gH.2 hc)
 refine zL (zE (mv rfl rfl ?_))
 replace hr29:=hr29.mono hh3
 refine gv (wP underlying22 rfl hr29) rfl (gv (oP (q:=1) rfl rfl) rfl (asg rfl rfl (zQ (zH ?_))))
 refine cnd (fun hc41=>?_) fun hc41=>?_
 ·
  have hone:(zB (val ys)).length=1:=by omega
  have hb0:(zB (val ys)).getD 0 0≠0:=by have:=tL (n:=val ys) oM;rwa [hone] at this
  have hvy:=zBP hone
  rw[zC] at hvy
  refine zGS (e':=[(0,_),(1,_)]) e2z (zL (zE (mv rfl rfl (mv rfl rfl (gv (zO (q:=0) (0) underlying22 sizeOf127 rfl rfl hr29 rfl oM) rfl (gv (xG isAgg127 rfl hr29 oM) rfl ?_))))))
  have hb1:=hr29.get32 0
  replace hr27:=hr27.mono hh3
  refine cL (ev2 rfl rfl) call182 (fun w hs=>zOJ hs hr27 oM oM oM) fun v50 h4 hh4 hr50=>?_
  obtain⟨u50,rfl,hu50⟩:=hr50
  refine mv rfl rfl (gv (kP (vs:=[_,_]) rfl rfl) rfl (gv (kP (vs:=[_,_]) rfl rfl) rfl (asg rfl rfl (asg rfl rfl (zQ (wT (e':=[(7,_),(8,_)]) e2z (zH (zL (zE (mv rfl rfl (mv rfl rfl (zF (kQ (kd:=.u32) underlying22 wK rfl rfl rfl) rfl rfl rfl ?_))))))))))))
  intro v55 r55 hr55
  obtain rfl:=hr55
  refine yG (by intro z hz;simp only[List.mem_singleton] at hz;subst hz;exact Nat.lt_trans (Nat.mod_lt _ oM) hb1) ?_
  intro h5 hh5 hfx1
  refine cL (ev1 rfl) call144 (fun w hs=>uS hs hfx1) fun v56 h6 hh6 hr56=>?_
  replace hr56:=hr56.2
  refine asg rfl rfl (asg rfl rfl (asg (v:=vI (0)) rfl rfl (zQ (zH (bR (zMW (aK (qX rfl rfl rfl rfl ?_))))))))
  replace hu50:=hu50.mono (hh5.trans hh6)
  rw[zC,←hvy] at hu50
  rw[zBP rfl,List.getD_cons_zero,zC,←hvy] at hr56
  rw[if_neg oM,if_neg oM]
  exact⟨_,_,rfl,hu50,hr56⟩
 have hn2:2≤(zB (val ys)).length:=by omega
 refine zGS (e':=[(0,_),(1,_)]) e2z (uL (tU (zH (zL (zE (mv rfl rfl (mv rfl rfl (gv (wP underlying22 rfl hr29) rfl (gv (qW (q:=1) rfl rfl oM oM) rfl (gv (zO ((zB (val ys)).length-1) underlying22 sizeOf127 rfl rfl hr29 oM oM) rfl (gv (xG isAgg127 rfl hr29 oM) rfl ?_)))))))))))
 have hgt:=hr29.get32 ((zB (val ys)).length-1)
 refine cL (ev1 rfl) call183 (fun w hs=>zO6 hs oM) fun v63 h4 hh4 hr63=>?_
 subst hr63
 obtain⟨s,hsd⟩:∃s,s=32-xY ((zB (val ys)).getD ((zB (val ys)).length-1) 0):=⟨_,rfl⟩
 rw[←hsd]
 obtain⟨hs32,hvl,hv1⟩:=zC1 (k:=(zB (val ys)).length-1) hyne oM hsd
 refine asg rfl rfl (zQ (zH (zL (zE (mv rfl rfl (mv rfl rfl ?_))))))
 replace hr27:=hr27.mono (hh3.trans hh4)
 refine qU (vs:=[_,_]) rfl rfl rfl rfl call146 e2z (fun w hs=>eQ hs hr27 oM oM) ?_
 intro v66 h5 L66 hh5 hr66
 obtain⟨us66,rfl,hul66,huf66,huv66⟩:=hr66
 refine mv rfl rfl (mv rfl rfl ?_)
 replace hr29:=hr29.mono (hh4.trans hh5)
 refine qU (vs:=[_,_]) rfl rfl rfl rfl call146 e2z (fun w hs=>eQ hs hr29 oM oM) ?_
 intro v69 h6 L69 hh6 hr69
 obtain⟨us69,rfl,hul69,huf69,huv69⟩:=hr69
 refine yG (by exact huf69) ?_
 intro h7 hh7 hvb
 refine cL (ev1 rfl) call144 (fun w hs=>uS hs hvb) fun v70 h8 hh8 hr70=>?_
 replace hr70:=hr70.2
 rw[huv69,zC] at hr70
 refine asg rfl rfl (asg rfl rfl ?_)
 rw[zC] at huv66
 have hnla:=zM hge
 have hXla:=jY (xR (val xs))
 rw[zC] at hXla
 have hYn:=tN (n:=val ys) (k:=(zB (val ys)).length-1) oM
 have hst:=zO0 huf66 hXla huv66 (k:=(zB (val ys)).length-1) oM hYn
 rw[show(zB (val xs)).length-((zB (val ys)).length-1)=(zB (val xs)).length+1-(zB (val ys)).length by omega] at hst
 have hvv:=zC (val ys*2^s)
 have hfv:Fit (zB (val ys*2^s)):=xR _
 replace hvl:(zB (val ys*2^s)).length=(zB (val ys)).length:=by omega
 generalize zB (val ys*2^s)=vs at *
 generalize hnd:(zB (val ys)).length=n at *
 generalize hlad:(zB (val xs)).length=la at *
 obtain⟨V,hV⟩:∃V,V=val ys*2^s:=⟨_,rfl⟩
 obtain⟨U,hU⟩:∃U,U=val xs*2^s:=⟨_,rfl⟩
 rw[←hV] at hvv hst
 rw[←hU] at huv66
 have hVn:V<4294967296^n:=by rw[←hvv,←hvl];exact jY hfv
 have hVd:=zLY hn2 hvl
 rw[hvv] at hVd
 have hvr:=jY (gG hfv (n-2))
 rw[List.length_take,Nat.min_eq_left oM] at hvr
 have hv2:=uX hfv (n-2)
 have hv1b:=uX hfv (n-1)
 refine zQ (wT (e':=[(9,_),(10,_),(11,_)]) e3z (zH (zL (zE (mv rfl rfl (gv (wP underlying22 rfl hr70) rfl ?_))))))
 rw[hvl]
 refine asg rfl rfl (zQ (zH (zL (zE (mv rfl rfl (gv (gV (A:=[]) underlying22 rfl) rfl ?_))))))
 rw[hul66]
 refine mv rfl rfl (gv (qW rfl rfl oM oM) rfl (qJ (kd:=.u32) (by':=4) (la+1-n) underlying22 wK rfl rfl rfl rfl rfl oM oM oM oM rfl ?_))
 intro v77
 refine asg rfl rfl (zQ (zH (zL (zL (zE (mv rfl rfl (gv (gV (A:=[]) underlying22 rfl) rfl ?_)))))))
 rw[lR]
 refine gv (qW (q:=1) rfl rfl oM oM) rfl (asg rfl rfl (zQ (wT (e':=[(9,_),(10,_),(11,_),(12,_),(4,_),(13,_)]) e6z (zH (wU ?_)))))
 refine vC (ι:=Nat×List Nat×List Nat) (fun(J,us,qs)=>J≤la+1-n∧qs.length=la+1-n-J∧Fit qs∧us.length=la+1∧Fit us∧val us+4294967296^J*(val qs*V)=U∧val (us.drop J)<V) (fun(J,us,qs)=>[(4,v77),(9,vI ↑s),(10,v66),(11,v70),(12,vI ↑n),(13,vI (↑J-1))]) (fun(J,us,qs)=>[.us 127 .u32 v77 (kS J qs),.us 127 .u32 v66 us]) (fun(J,us,qs)=>h8) (fun(J,us,qs)=>J) (la+1-n,us66,[]) ?_ e6z ?_ rfl ?_
 ·
  exact⟨Nat.le_refl _,by simp,fun x hx=>by simp at hx,hul66,huf66,by rw[huv66];simp[val],hst⟩
 ·
  try dsimp only[List.nil_append,List.cons_append]
  exact congrArg (fun z=>[Res.us 127 .u32 v77 z,Res.us 127 .u32 v66 us66]) (bU _)
 intro x hx
 obtain⟨J,us,qs⟩:=x
 obtain⟨hJle,hql,hfq,hul,hfu,hval,hdr⟩:=hx
 refine yS ?_
 refine zL (zL (zE (mv rfl rfl (gv (bK (q:=0) rfl rfl) rfl (zQ (zH ?_))))))
 refine cnd (fun hc82=>?_) fun hc82=>?_
 ·
  refine uL (zH (zL (wU (zL ?_))))
  have hJ:1≤J:=by omega
  have hz0:∀i,J+n≤i→us.getD i 0=0:=fun i hi=>mR (zB3 hfu (Nat.lt_trans hdr hVn)) hi
  obtain⟨wr,hW,hwr⟩:=zEF (j:=J-1) hn2 (fun i hi=>hz0 i oM) hfu
  have ha1:=uX hfu (J-1+n)
  have ha2:=uX hfu (J-1+n-1)
  have ha3:=uX hfu (J-1+n-2)
  have ha0:=uX hfu (J-1)
  have hWV:val (us.drop (J-1))<4294967296*V:=by
    rw[jH us (J-1) oM,Nat.sub_add_cancel hJ]
    omega
  refine gD 18 (qq 0 18 []) (by kernel_rfl) ?_
  refine qA rfl rfl rfl (qA rfl rfl rfl (qA rfl rfl rfl (xJ rfl (fun _ _=>zY rfl rfl oM oM) rfl (w_q rfl (fun h' L' hh hR=>qP (hR _ mh1) (J-1+n) underlying22 sizeOf127 rfl rfl oM oM) rfl (w_q rfl (fun h' L' hh hR=>kK (hR _ mh1) isAgg127 rfl oM) rfl (xJ rfl (fun _ _=>wQ (k:=.u32) (k':=.u64) (W:=18446744073709551616) underlying127 underlying130 rfl rfl rfl oM) rfl (xJ rfl (fun _ _=>kJ (k:=.u64) (s:=32) (yk:=.u64) (W:=18446744073709551616) rfl rfl rfl rfl) rfl (qA rfl rfl rfl (qA rfl rfl rfl (qA rfl rfl rfl (xJ rfl (fun _ _=>zY rfl rfl oM oM) rfl (xJ rfl (fun _ _=>qW (q:=1) rfl rfl oM oM) rfl (w_q rfl (fun h' L' hh hR=>qP (hR _ mh1) (J-1+n-1) underlying22 sizeOf127 rfl rfl oM oM) rfl ?_)))))))))))))
  refine w_q rfl (fun h' L' hh hR=>kK (hR _ mh1) isAgg127 rfl oM) rfl (xJ rfl (fun _ _=>wQ (k:=.u32) (k':=.u64) (W:=18446744073709551616) underlying127 underlying130 rfl rfl rfl oM) rfl (xJ rfl (fun _ _=>tF (k:=.u64) rfl rfl rfl (by simp only[ub];omega) (by simp only[ub];omega)) rfl ?_))
  rw[rB oM oM]
  obtain⟨top,htop⟩:∃t,t=us.getD (J-1+n) 0*4294967296+us.getD (J-1+n-1) 0:=⟨_,rfl⟩
  rw[←htop]
  rw[←htop] at hW
  have htop2:=zVQ hVd hW hvr hv2 hWV
  refine zDZ rfl rfl rfl (rM (wT (e':=[(4,_),(9,_),(10,_),(11,_),(12,_),(13,_),(14,_)]) e7 (zH (zL ?_))))
  refine gD 18 (qq 0 18 []) (by kernel_rfl) ?_
  refine qA rfl rfl rfl (qA rfl rfl rfl (qA rfl rfl rfl (xJ rfl (fun _ _=>qW (q:=1) rfl rfl oM oM) rfl (w_q rfl (fun h' L' hh hR=>zO (n-1) underlying22 sizeOf127 rfl rfl (hr70.mono hh) oM oM) rfl (w_q rfl (fun h' L' hh hR=>xG isAgg127 rfl (hr70.mono hh) oM) rfl (xJ rfl (fun _ _=>wQ (k:=.u32) (k':=.u64) (W:=18446744073709551616) underlying127 underlying130 rfl rfl rfl oM) rfl (xJ rfl (fun _ _=>pL (k:=.u64) (W:=18446744073709551616) rfl rfl rfl rfl oM oM) rfl (qA rfl rfl rfl (qA rfl rfl rfl (qA rfl rfl rfl (xJ rfl (fun _ _=>qW (q:=1) rfl rfl oM oM) rfl (w_q rfl (fun h' L' hh hR=>zO (n-1) underlying22 sizeOf127 rfl rfl (hr70.mono hh) oM oM) rfl (w_q rfl (fun h' L' hh hR=>xG isAgg127 rfl (hr70.mono hh) oM) rfl ?_)))))))))))))
  refine xJ rfl (fun _ _=>wQ (k:=.u32) (k':=.u64) (W:=18446744073709551616) underlying127 underlying130 rfl rfl rfl oM) rfl (xJ rfl (fun _ _=>pK (k:=.u64) rfl rfl oM) rfl (zDZ rfl rfl rfl (zDZ rfl rfl rfl (rM (wT (e':=[(4,_),(9,_),(10,_),(11,_),(12,_),(13,_),(15,_),(16,_)]) e8 (zH ?_))))))
  refine qK (ι:=Nat) (fun(x1:(Nat))=>x1<4294967296∧val (us.drop (J-1))<(x1+1)*V∧x1*V<val (us.drop (J-1))+V) (fun(x1:(Nat))=>[(4,v77),(9,vI ↑s),(10,v66),(11,v70),(12,vI ↑n),(13,vI (↑J-1)),(15,vU .u64 x1)]) (fun(x1:(Nat))=>[.us 127 .u32 v77 (kS J qs),.us 127 .u32 v66 us]) (fun(x1:(Nat))=>h8) ?_ ?_
  ·
   refine wU ?_
   refine gcL (ι:=Nat×Nat) (fun(x,r)=>(x*vs.getD (n-1) 0+r=top∧val (us.drop (J-1))<(x+1)*V∧r<4294967296,[(4,v77),(9,vI ↑s),(10,v66),(11,v70),(12,vI ↑n),(13,vI (↑J-1)),(15,vU .u64 x),(16,vU .u64 r)],[.us 127 .u32 v77 (kS J qs),.us 127 .u32 v66 us],h8,x)) (top/vs.getD (n-1) 0,top%vs.getD (n-1) 0) ?_ ?_
   ·
    exact⟨by rw[Nat.mul_comm];exact Nat.div_add_mod _ _,zIZ hVd hW ha3 hwr oM,Nat.lt_trans (Nat.mod_lt _ oM) hv1b⟩
   intro x hx
   obtain⟨x,r⟩:=x
   dsimp only at hx
   obtain⟨hxt,hxl,hrb⟩:=hx
   refine yS ?_
   have hxb:=zZN hxt htop2 hv1
   have hxv:x*vs.getD (n-2) 0≤4294967297*4294967295:=Nat.mul_le_mul hxb oM
   refine zL (zL ?_)
   refine zSB (4294967296≤x) (fun hg=>?_) (fun hg=>?_)
   ·
    have hx1:1≤x:=by omega
    have hlow:val (us.drop (J-1))<x*V:=Nat.lt_of_lt_of_le hWV (Nat.mul_le_mul_right _ hg)
    refine gD 24 (qq 0 24 []) (by kernel_rfl) ?_
    refine qA rfl rfl rfl (xJ rfl (fun _ _=>rA (k:=.u64) (q:=4294967296) rfl rfl) rfl (xJ rfl (fun _ _=>yW (v:=.bool true) (congrArg some (xL hg))) rfl (wZ rfl rfl rfl rfl rfl (wZ rfl rfl rfl rfl rfl (wZ rfl rfl rfl rfl rfl (wZ rfl rfl rfl rfl rfl (wZ rfl rfl rfl rfl rfl (wZ rfl rfl rfl rfl rfl (wZ rfl rfl rfl rfl rfl (wZ rfl rfl rfl rfl rfl (wZ rfl rfl rfl rfl rfl (wZ rfl rfl rfl rfl rfl (wZ rfl rfl rfl rfl rfl ?_)))))))))))))
    refine wZ rfl rfl rfl rfl rfl (wZ rfl rfl rfl rfl rfl (wZ rfl rfl rfl rfl rfl (wZ rfl rfl rfl rfl rfl (wZ rfl rfl rfl rfl rfl (wZ rfl rfl rfl rfl rfl (wZ rfl rfl rfl rfl rfl (wZ rfl rfl rfl rfl rfl (wZ rfl rfl rfl rfl rfl (xJ rfl (fun _ _=>rT rfl rfl) rfl (rM (wT (e':=[(4,_),(9,_),(10,_),(11,_),(12,_),(13,_),(15,_),(16,_),(141,_)]) ⟨rfl,rfl,rfl,rfl,rfl,rfl,rfl,rfl,rfl,trivial⟩ (zH (zFC rfl ?_)))))))))))))
    refine uL (zH (wU (zL (zE (mv rfl rfl (gv (bH (k:=.u64) (q:=1) (W:=18446744073709551616) rfl rfl rfl rfl oM oM) rfl (asg rfl rfl (zQ (zH (zL (zE (mv rfl rfl (mv rfl rfl ?_)))))))))))))
    refine mv rfl rfl (gv (qW (q:=1) rfl rfl oM oM) rfl (gv (zO (n-1) underlying22 sizeOf127 rfl rfl hr70 oM oM) rfl (gv (xG isAgg127 rfl hr70 oM) rfl (gv (wQ (k:=.u32) (k':=.u64) (W:=18446744073709551616) underlying127 underlying130 rfl rfl rfl oM) rfl (gv (fW (k:=.u64) (W:=18446744073709551616) rfl rfl rfl rfl oM) rfl (asg rfl rfl (zQ (wT (e':=[(4,_),(9,_),(10,_),(11,_),(12,_),(13,_),(15,_),(16,_)]) e8 (zH (zL (zE (mv rfl rfl (gv (rA (k:=.u64) (q:=4294967296) rfl rfl) rfl ?_)))))))))))))
    refine zQ (zH ?_)
    refine cnd (fun hc153=>?_) fun hc153=>?_
    ·
     refine kX (zGP rfl (uJ (kW ?_)))
     refine zN (x-1) ?_ e7 rfl rfl
     obtain⟨b1,b2⟩:=zFG (x:=x-1) hVd hW hvr hv2 (k8 hxt hx1) hc153 htop2 oM
     exact⟨b1,by rw[Nat.sub_add_cancel hx1];exact hlow,by omega⟩
    refine uL (tU ?_)
    refine gqL (x-1,r+vs.getD (n-1) 0) ?_ ?_
    ·
     exact⟨k8 hxt hx1,by rw[Nat.sub_add_cancel hx1];exact hlow,by omega⟩
    omega
   refine gD 24 (qq 0 24 []) (by kernel_rfl) ?_
   refine qA rfl rfl rfl (xJ rfl (fun _ _=>rA (k:=.u64) (q:=4294967296) rfl rfl) rfl (xJ rfl (fun _ _=>yW (v:=.bool false) (congrArg some (yU hg))) rfl (yM rfl rfl rfl (fun h' L' hh hR=>yW rfl) rfl (yM rfl rfl rfl (fun h' L' hh hR=>yW rfl) rfl (yM rfl rfl rfl (fun h' L' hh hR=>yW rfl) rfl (yM rfl rfl rfl (fun h' L' hh hR=>qW (q:=2) rfl rfl oM oM) rfl (yM rfl rfl rfl (fun h' L' hh hR=>zO (n-2) underlying22 sizeOf127 rfl rfl (hr70.mono hh) oM oM) rfl (yM rfl rfl rfl (fun h' L' hh hR=>xG isAgg127 rfl (hr70.mono hh) oM) rfl (yM rfl rfl rfl (fun h' L' hh hR=>wQ (k:=.u32) (k':=.u64) (W:=18446744073709551616) underlying127 underlying130 rfl rfl rfl oM) rfl (yM rfl rfl rfl (fun h' L' hh hR=>oK (k:=.u64) (W:=18446744073709551616) rfl rfl rfl rfl oM) rfl (yM rfl rfl rfl (fun h' L' hh hR=>yW rfl) rfl (yM rfl rfl rfl (fun h' L' hh hR=>kJ (k:=.u64) (s:=32) (yk:=.u64) (W:=18446744073709551616) rfl rfl rfl rfl) rfl (yM rfl rfl rfl (fun h' L' hh hR=>yW rfl) rfl ?_)))))))))))))
   refine yM rfl rfl rfl (fun h' L' hh hR=>yW rfl) rfl (yM rfl rfl rfl (fun h' L' hh hR=>yW rfl) rfl (yM rfl rfl rfl (fun h' L' hh hR=>zY rfl rfl oM oM) rfl (yM rfl rfl rfl (fun h' L' hh hR=>qW (q:=2) rfl rfl oM oM) rfl (yM rfl rfl rfl (fun h' L' hh hR=>qP (hR _ mh1) (J-1+n-2) underlying22 sizeOf127 rfl rfl oM oM) rfl (yM rfl rfl rfl (fun h' L' hh hR=>kK (hR _ mh1) isAgg127 rfl oM) rfl (yM rfl rfl rfl (fun h' L' hh hR=>wQ (k:=.u32) (k':=.u64) (W:=18446744073709551616) underlying127 underlying130 rfl rfl rfl oM) rfl (yM rfl rfl rfl (fun h' L' hh hR=>tF (k:=.u64) rfl rfl rfl (by simp only[ub];omega) (by simp only[ub];omega)) rfl ?_)))))))
   rw[rB oM oM]
   refine yM rfl rfl rfl (fun h' L' hh hR=>lP (k:=.u64) rfl rfl) rfl (xJ rfl (fun _ _=>rU rfl rfl) rfl (rM (wT (e':=[(4,_),(9,_),(10,_),(11,_),(12,_),(13,_),(15,_),(16,_),(141,_)]) ⟨rfl,rfl,rfl,rfl,rfl,rfl,rfl,rfl,rfl,trivial⟩ (zH ?_))))
   refine cnd (fun hc141=>?_) fun hc141=>?_
   ·
    have hx1:1≤x:=Nat.pos_of_ne_zero fun h0=>by rw[h0,Nat.zero_mul] at hc141;omega
    have hlow:val (us.drop (J-1))<x*V:=zVR hVd hW hwr hxt hc141
    refine uL (zH (wU (zL (zE (mv rfl rfl (gv (bH (k:=.u64) (q:=1) (W:=18446744073709551616) rfl rfl rfl rfl oM oM) rfl (asg rfl rfl (zQ (zH (zL (zE (mv rfl rfl (mv rfl rfl ?_)))))))))))))
    refine mv rfl rfl (gv (qW (q:=1) rfl rfl oM oM) rfl (gv (zO (n-1) underlying22 sizeOf127 rfl rfl hr70 oM oM) rfl (gv (xG isAgg127 rfl hr70 oM) rfl (gv (wQ (k:=.u32) (k':=.u64) (W:=18446744073709551616) underlying127 underlying130 rfl rfl rfl oM) rfl (gv (fW (k:=.u64) (W:=18446744073709551616) rfl rfl rfl rfl oM) rfl (asg rfl rfl (zQ (wT (e':=[(4,_),(9,_),(10,_),(11,_),(12,_),(13,_),(15,_),(16,_)]) e8 (zH (zL (zE (mv rfl rfl (gv (rA (k:=.u64) (q:=4294967296) rfl rfl) rfl ?_)))))))))))))
    refine zQ (zH ?_)
    refine cnd (fun hc153=>?_) fun hc153=>?_
    ·
     refine kX (zGP rfl (uJ (kW ?_)))
     refine zN (x-1) ?_ e7 rfl rfl
     obtain⟨b1,b2⟩:=zFG (x:=x-1) hVd hW hvr hv2 (k8 hxt hx1) hc153 htop2 oM
     exact⟨b1,by rw[Nat.sub_add_cancel hx1];exact hlow,by omega⟩
    refine uL (tU ?_)
    refine gqL (x-1,r+vs.getD (n-1) 0) ?_ ?_
    ·
     exact⟨k8 hxt hx1,by rw[Nat.sub_add_cancel hx1];exact hlow,by omega⟩
    omega
   refine kX (uJ (uJ (kW ?_)))
   refine zN (x) ?_ e7 rfl rfl
   exact⟨by omega,hxl,zSH hVd hW hvr oM hxt oM oM⟩
  intro x1 hx
  obtain⟨hx1b,hxlo,hxhi⟩:=hx
  refine yS ?_
  refine zL (zE (asg (v:=vU .u64 0) rfl rfl (asg (v:=vU .u64 0) rfl rfl (zQ (zH (zL (zL (zE (mv rfl rfl (gv (wP underlying22 rfl hr70) rfl ?_))))))))))
  rw[hvl]
  refine mv (v:=vI (0)) rfl rfl (zQ (zH (wU ?_)))
  refine vC (ι:=Nat×List Nat×Nat×Nat) (fun(i,ts,b,c)=>i≤n∧ts.length=la+1∧Fit ts∧c<4294967296∧b≤1∧val ts+4294967296^(J-1)*(x1*val (vs.take i))=val us+4294967296^(J-1+i)*(c+b)∧∀k,J-1+i≤k→ts.getD k 0=us.getD k 0) (fun(i,ts,b,c)=>[(4,v77),(9,vI ↑s),(10,v66),(11,v70),(12,vI ↑n),(13,vI (↑J-1)),(15,vU .u64 x1),(17,vU .u64 b),(18,vU .u64 c),(154,v70),(155,vI ↑n),(156,vI ↑i)]) (fun(i,ts,b,c)=>[.us 127 .u32 v77 (kS J qs),.us 127 .u32 v66 ts]) (fun(i,ts,b,c)=>h8) (fun(i,ts,b,c)=>n-i) (0,us,0,0) ?_ e12 rfl rfl ?_
  ·
   exact⟨by omega,hul,hfu,by omega,by omega,by simp[val],fun _ _=>rfl⟩
  intro x hx
  obtain⟨i,ts,b,c⟩:=x
  obtain⟨hin,htl,hft,hcb,hbb,hms,htk⟩:=hx
  refine yS ?_
  refine zL (zE (gv (yL rfl rfl) rfl (zQ (zH (zL ?_)))))
  refine cnd (fun hc157=>?_) fun hc157=>?_
  ·
   refine uL (zH (zL (wU (zL (zE (mv rfl rfl (gv (zO _ underlying22 sizeOf127 rfl rfl hr70 rfl oM) rfl (gv (xG isAgg127 rfl hr70 oM) rfl ?_))))))))
   have hyb:=hr70.get32 i
   have hxy:x1*vs.getD i 0≤4294967295*4294967295:=Nat.mul_le_mul oM oM
   refine asg rfl rfl (asg rfl rfl (zQ (zH (zL (zE (mv rfl rfl (mv rfl rfl (mv rfl rfl (gv (wQ (k:=.u32) (k':=.u64) (W:=18446744073709551616) underlying127 underlying130 rfl rfl rfl oM) rfl (gv (oK (k:=.u64) (W:=18446744073709551616) rfl rfl rfl rfl oM) rfl (gv (fW (k:=.u64) (W:=18446744073709551616) rfl rfl rfl rfl oM) rfl (asg rfl rfl (zQ ?_)))))))))))))
   refine wT (e':=[(4,_),(9,_),(10,_),(11,_),(12,_),(13,_),(15,_),(17,_),(154,_),(155,_),(156,_),(19,_),(18,_)]) ⟨rfl,rfl,rfl,rfl,rfl,rfl,rfl,rfl,rfl,rfl,rfl,rfl,rfl,trivial⟩ (zH (zL (zE (mv rfl rfl (mv rfl rfl (mv rfl rfl (gv (zY rfl rfl oM oM) rfl (gv (yP (A:=[_]) (J-1+i) underlying22 sizeOf127 rfl rfl oM oM) rfl (gv (kL (A:=[_]) isAgg127 rfl oM) rfl ?_)))))))))
   have htx:=uX hft (J-1+i)
   refine gv (wQ (k:=.u32) (k':=.u64) (W:=18446744073709551616) underlying127 underlying130 rfl rfl rfl oM) rfl (mv rfl rfl (gv (zQ3 (k:=.u64) (q:=4294967295) rfl rfl rfl (by simp only[ub];omega) (by simp only[ub];omega)) rfl ?_))
   rw[zTA]
   refine gv (lJ (k:=.u64) (W:=18446744073709551616) rfl rfl rfl rfl oM) rfl (mv rfl rfl (gv (lJ (k:=.u64) (W:=18446744073709551616) rfl rfl rfl rfl oM) rfl (asg rfl rfl (zQ (wT (e':=[(4,_),(9,_),(10,_),(11,_),(12,_),(13,_),(15,_),(154,_),(155,_),(156,_),(19,_),(18,_),(21,_)]) ⟨rfl,rfl,rfl,rfl,rfl,rfl,rfl,rfl,rfl,rfl,rfl,rfl,rfl,trivial⟩ (zH (zL (zE (mv rfl rfl (mv rfl rfl (mv rfl rfl (gv (zY rfl rfl oM oM) rfl (mv rfl rfl ?_)))))))))))))
   refine gv (gX (k:=.u64) (k':=.u32) (W:=4294967296) underlying130 underlying127 rfl rfl rfl) rfl (gv (yP (A:=[_]) (J-1+i) underlying22 sizeOf127 rfl rfl oM oM) rfl (tW sizeOf127 rfl rfl oM (zQ (zH (zL (zE (mv rfl rfl (gv (kI (k:=.u64) (s:=63) (yk:=.u64) rfl rfl rfl (by simp only[ub];omega)) rfl (asg rfl rfl (zQ (wT (e':=[(4,_),(9,_),(10,_),(11,_),(12,_),(13,_),(15,_),(154,_),(155,_),(156,_),(18,_),(17,_)]) e12 (zH (zE ?_)))))))))))))
   refine mv rfl rfl (gv (kI (k:=.u64) (s:=32) (yk:=.u64) rfl rfl rfl (by simp only[ub];omega)) rfl (asg rfl rfl (zQ (tU (zH (zE (gv (zY (q:=1) rfl rfl oM oM) rfl (mv rfl rfl (zQ ?_)))))))))
   generalize hX:ts.getD (J-1+i) 0=X at *
   generalize hY:vs.getD i 0=Y at *
   refine yQ (i+1,ts.set (J-1+i) (((X+18446744073709551616-(c+x1*Y)%4294967296)%18446744073709551616+18446744073709551616-b)%18446744073709551616%4294967296),((X+18446744073709551616-(c+x1*Y)%4294967296)%18446744073709551616+18446744073709551616-b)%18446744073709551616/2^63,(c+x1*Y)/2^32) ?_ ?_ e12 rfl rfl
   ·
    refine⟨by omega,by simp[htl],aL hft _ oM,by omega,by omega,?_,fun k hk=>?_⟩
    · have h1:=aD (xs:=ts) (i:=J-1+i) oM (((X+18446744073709551616-(c+x1*Y)%4294967296)%18446744073709551616+18446744073709551616-b)%18446744073709551616%4294967296)
      rw[hX] at h1
      rw[uD vs i oM,hY,←Nat.add_assoc (J-1),Nat.pow_succ,Nat.pow_add]
      rw[Nat.pow_add] at h1 hms
      exact zUZ (l:=(c+x1*Y)%4294967296) hms h1 oM oM
    · rw[qC oM];exact htk k oM
   dsimp only
   omega
  refine kX (uJ (uJ (kW (zH (zL (zE (mv rfl rfl (mv rfl rfl (mv rfl rfl (gv (zY rfl rfl oM oM) rfl (gv (yP (A:=[_]) (J-1+n) underlying22 sizeOf127 rfl rfl oM oM) rfl (gv (kL (A:=[_]) isAgg127 rfl oM) rfl ?_))))))))))))
  have htx:=uX hft (J-1+n)
  refine gv (wQ (k:=.u32) (k':=.u64) (W:=18446744073709551616) underlying127 underlying130 rfl rfl rfl oM) rfl (mv rfl rfl (gv (lJ (k:=.u64) (W:=18446744073709551616) rfl rfl rfl rfl oM) rfl (mv rfl rfl (gv (lJ (k:=.u64) (W:=18446744073709551616) rfl rfl rfl rfl oM) rfl ?_))))
  obtain⟨d2,hd2⟩:∃d,d=((ts.getD (J-1+n) 0+18446744073709551616-c)%18446744073709551616+18446744073709551616-b)%18446744073709551616:=⟨_,rfl⟩
  rw[←hd2]
  refine asg rfl rfl (zQ (wT (e':=[(4,_),(9,_),(10,_),(11,_),(12,_),(13,_),(15,_),(22,_)]) e8 (zH (zL (zE (mv rfl rfl (mv rfl rfl (mv rfl rfl (gv (zY rfl rfl oM oM) rfl (mv rfl rfl (gv (gX (k:=.u64) (k':=.u32) (W:=4294967296) underlying130 underlying127 rfl rfl rfl) rfl (gv (yP (A:=[_]) (J-1+n) underlying22 sizeOf127 rfl rfl oM oM) rfl (tW sizeOf127 rfl rfl oM ?_)))))))))))))
  have hin:i=n:=by omega
  rw[hin,xK oM,hvv] at hms
  have hvs:=aD (xs:=ts) (i:=J-1+n) oM (d2%4294967296)
  have htl2:(ts.set (J-1+n) (d2%4294967296)).length=la+1:=by simp[htl]
  have hft2:Fit (ts.set (J-1+n) (d2%4294967296)):=aL hft _ oM
  have hz2:∀k,J-1+n+1≤k→(ts.set (J-1+n) (d2%4294967296)).getD k 0=0:=fun k hk=>by rw[qC oM,htk k oM];exact hz0 k oM
  generalize ts.set (J-1+n) (d2%4294967296)=ts2 at *
  have hval2:val ts2+4294967296^(J-1)*(x1*V)=val us+4294967296^(J-1+n+1)*(d2/2^63):=by
    rw[Nat.pow_succ,Nat.pow_add]
    rw[Nat.pow_add] at hvs hms
    exact zYK hms hvs oM
  have hlt2:=oA hft2 hz2
  refine zQ (zH ?_)
  refine qK (ι:=Nat×List Nat) (fun(x2,rs)=>x2<4294967296∧rs.length=la+1∧Fit rs∧val rs+4294967296^(J-1)*(x2*V)=val us∧val (rs.drop (J-1))<V) (fun(x2,rs)=>[(4,v77),(9,vI ↑s),(10,v66),(11,v70),(12,vI ↑n),(13,vI (↑J-1)),(15,vU .u64 x2)]) (fun(x2,rs)=>[.us 127 .u32 v77 (kS J qs),.us 127 .u32 v66 rs]) (fun(x2,rs)=>h8) ?_ ?_
  ·
   refine zL (zE (mv rfl rfl (gv (kI (k:=.u64) (s:=63) (yk:=.u64) rfl rfl rfl (by simp only[ub];omega)) rfl (gv (fF (k:=.u64) (q:=0) rfl rfl) rfl (zQ (wT (e':=[(4,_),(9,_),(10,_),(11,_),(12,_),(13,_),(15,_),(211,_)]) e8 (zH ?_)))))))
   refine cnd (fun hc211=>?_) fun hc211=>?_
   ·
    have hx1p:1≤x1:=Nat.pos_of_ne_zero fun h0=>by
      have hb1:d2/2^63=1:=by omega
      rw[h0,hb1,Nat.zero_mul,Nat.mul_zero,Nat.mul_one] at hval2
      omega
    refine zL (zE (mv rfl rfl (gv (bH (k:=.u64) (q:=1) (W:=18446744073709551616) rfl rfl rfl rfl oM oM) rfl (asg rfl rfl (zQ (zH (zL (zE (asg (v:=vU .u64 0) rfl rfl (zQ (zH (zL (zL ?_)))))))))))))
    refine zE (mv rfl rfl (gv (wP underlying22 rfl hr70) rfl ?_))
    rw[hvl]
    refine mv (v:=vI (0)) rfl rfl (zQ (zH (wU ?_)))
    refine gcL (ι:=Nat×List Nat×Nat) (fun(i2,rs,c2)=>(i2≤n∧rs.length=la+1∧Fit rs∧c2≤1∧val rs+4294967296^(J-1+i2)*c2=val ts2+4294967296^(J-1)*val (vs.take i2)∧∀k,J-1+i2≤k→rs.getD k 0=ts2.getD k 0,[(4,v77),(9,vI ↑s),(10,v66),(11,v70),(12,vI ↑n),(13,vI (↑J-1)),(15,vU .u64 (x1-1)),(18,vU .u64 c2),(214,v70),(215,vI ↑n),(216,vI ↑i2)],[.us 127 .u32 v77 (kS J qs),.us 127 .u32 v66 rs],h8,n-i2)) (0,ts2,0) ?_ ?_
    ·
     exact⟨by omega,htl2,hft2,by omega,by simp[val],fun _ _=>rfl⟩
    intro x hx
    obtain⟨i2,rs,c2⟩:=x
    dsimp only at hx
    obtain⟨hi2,hrl,hfr,hc2,hab,hrk⟩:=hx
    refine yS ?_
    refine zL (zE (gv (yL rfl rfl) rfl (zQ (zH (zL ?_)))))
    refine cnd (fun hc217=>?_) fun hc217=>?_
    ·
     refine uL (zH (zL (wU (zL (zE (mv rfl rfl (gv (zO _ underlying22 sizeOf127 rfl rfl hr70 rfl oM) rfl (gv (xG isAgg127 rfl hr70 oM) rfl ?_))))))))
     have hyb:=hr70.get32 i2
     refine asg rfl rfl (asg rfl rfl (zQ (zH (zL (zE (mv rfl rfl (mv rfl rfl (mv rfl rfl (mv rfl rfl (gv (zY rfl rfl oM oM) rfl (gv (yP (A:=[_]) (J-1+i2) underlying22 sizeOf127 rfl rfl oM oM) rfl (gv (kL (A:=[_]) isAgg127 rfl oM) rfl ?_))))))))))))
     have htx:=uX hfr (J-1+i2)
     refine gv (wQ (k:=.u32) (k':=.u64) (W:=18446744073709551616) underlying127 underlying130 rfl rfl rfl oM) rfl (mv rfl rfl (gv (wQ (k:=.u32) (k':=.u64) (W:=18446744073709551616) underlying127 underlying130 rfl rfl rfl oM) rfl (gv (fW (k:=.u64) (W:=18446744073709551616) rfl rfl rfl rfl oM) rfl (gv (fW (k:=.u64) (W:=18446744073709551616) rfl rfl rfl rfl oM) rfl (asg rfl rfl (zQ (wT (e':=[(4,_),(9,_),(10,_),(11,_),(12,_),(13,_),(15,_),(214,_),(215,_),(216,_),(23,_),(18,_)]) e12 (zH (zL (zE (mv rfl rfl (mv rfl rfl (mv rfl rfl ?_)))))))))))))
     refine gv (zY rfl rfl oM oM) rfl (mv rfl rfl (gv (gX (k:=.u64) (k':=.u32) (W:=4294967296) underlying130 underlying127 rfl rfl rfl) rfl (gv (yP (A:=[_]) (J-1+i2) underlying22 sizeOf127 rfl rfl oM oM) rfl (tW sizeOf127 rfl rfl oM (zQ (zH (zE (mv rfl rfl (gv (kI (k:=.u64) (s:=32) (yk:=.u64) rfl rfl rfl (by simp only[ub];omega)) rfl (asg rfl rfl (zQ (tU (wT (e':=[(4,_),(9,_),(10,_),(11,_),(12,_),(13,_),(15,_),(214,_),(215,_),(216,_),(18,_)]) e11 ?_)))))))))))))
     refine zH (zE (gv (zY (q:=1) rfl rfl oM oM) rfl (mv rfl rfl (zQ ?_))))
     generalize hX:rs.getD (J-1+i2) 0=X at *
     generalize hY:vs.getD i2 0=Y at *
     refine gqL (i2+1,rs.set (J-1+i2) ((c2+(X+Y))%4294967296),(c2+(X+Y))/2^32) ?_ ?_
     ·
      refine⟨by omega,by simp[hrl],aL hfr _ oM,by omega,?_,fun k hk=>?_⟩
      · have h1:=aD (xs:=rs) (i:=J-1+i2) oM ((c2+(X+Y))%4294967296)
        rw[hX] at h1
        rw[uD vs i2 oM,hY,←Nat.add_assoc (J-1),Nat.pow_succ,Nat.pow_add]
        rw[Nat.pow_add] at h1 hab
        exact zV1 hab h1 oM
      · rw[qC oM];exact hrk k oM
     omega
    refine kX (uJ (uJ (kW (zH (zE (mv rfl rfl (mv rfl rfl (mv rfl rfl (gv (zY rfl rfl oM oM) rfl (gv (yP (A:=[_]) (J-1+n) underlying22 sizeOf127 rfl rfl oM oM) rfl (gv (kL (A:=[_]) isAgg127 rfl oM) rfl (mv rfl rfl (gv (gX (k:=.u64) (k':=.u32) (W:=4294967296) underlying130 underlying127 rfl rfl rfl) rfl ?_)))))))))))))
    have htx:=uX hfr (J-1+n)
    refine gv (zN3 (k:=.u32) (W:=4294967296) rfl rfl rfl rfl) rfl (gv (yP (A:=[_]) (J-1+n) underlying22 sizeOf127 rfl rfl oM oM) rfl (tW sizeOf127 rfl rfl oM (zQ ?_)))
    generalize hX:rs.getD (J-1+n) 0=X at *
    refine zN (x1-1,rs.set (J-1+n) ((X+c2%4294967296)%4294967296)) ?_ e7 rfl rfl
    have hin2:i2=n:=by omega
    rw[hin2,xK oM,hvv] at hab
    have h1:=aD (xs:=rs) (i:=J-1+n) oM ((X+c2%4294967296)%4294967296)
    rw[hX] at h1
    have hfr2:Fit (rs.set (J-1+n) ((X+c2%4294967296)%4294967296)):=aL hfr _ oM
    have hzr:∀k,J-1+n+1≤k→(rs.set (J-1+n) ((X+c2%4294967296)%4294967296)).getD k 0=0:=fun k hk=>by
      rw[qC oM,hrk k oM];exact hz2 k hk
    have ho:val (rs.set (J-1+n) ((X+c2%4294967296)%4294967296))+4294967296^(J-1+n+1)*((X+c2)/4294967296)=val ts2+4294967296^(J-1)*V:=by
      rw[Nat.pow_succ,Nat.pow_add]
      rw[Nat.pow_add] at h1 hab
      exact zZ7 hab h1 oM
    obtain⟨z1,z2,z3⟩:=zNW hfu hfr2 hlt2 (oA hfr2 hzr) (b:=d2/2^63) oM hval2 hxhi ho oM
    exact⟨by omega,by simp[hrl],hfr2,z2,z3⟩
   refine uL ?_
   refine zN (x1,ts2) ?_ e7 rfl rfl
   have hb0:d2/2^63=0:=by omega
   rw[hb0,Nat.mul_zero,Nat.add_zero] at hval2
   exact⟨hx1b,htl2,hft2,hval2,zCD hfu hft2 hval2 hxlo⟩
  intro x hx
  obtain⟨x2,rs⟩:=x
  obtain⟨hx2b,hrl,hfr,hrv,hrdr⟩:=hx
  refine yS ?_
  refine zE (mv rfl rfl (mv rfl rfl (mv rfl rfl (gv (wQ (k:=.u64) (k':=.u32) (W:=4294967296) underlying130 underlying127 rfl rfl rfl oM) rfl (gv (yP (A:=[]) (J-1) underlying22 sizeOf127 rfl rfl oM (by rw[qQ];omega)) rfl (xZ sizeOf127 rfl rfl (by rw[qQ];omega) (zQ (tU (zH (zE (mv rfl rfl (gv (qW (q:=1) rfl rfl oM oM) rfl (asg rfl rfl ?_)))))))))))))
  refine zQ ?_
  refine yQ (J-1,rs,x2::qs) ?_ ?_ ⟨rfl,rfl,rfl,rfl,rfl,?_,trivial⟩ ?_ rfl
  ·
   refine⟨by omega,by simp only[lC];omega,tY.2 ⟨hx2b,hfq⟩,hrl,hfr,?_,hrdr⟩
   have eJ:(4294967296:Nat)^J=4294967296^(J-1)*4294967296:=by rw[←Nat.pow_succ,Nat.succ_eq_add_one,Nat.sub_add_cancel hJ]
   rw[eJ] at hval
   exact zX7 hval hrv
  ·
   dsimp only
   omega
  · exact congrArg some (congrArg vI oM)
  try dsimp only[List.nil_append,List.cons_append]
  rw[bT oM]
 refine kX (uJ (uJ (kW (zH (zL ?_)))))
 have hJ0:J=0:=by omega
 subst hJ0
 rw[pT]
 rw[List.drop_zero] at hdr
 rw[Nat.pow_zero,Nat.one_mul] at hval
 have hlu:(zB (val us)).length≤us.length:=wR hfu
 refine zE (mv rfl rfl ?_)
 refine zGR (R:=fun h r=>r=gJ 1 v66 0 (zB (val us)).length∧Us .u32 h r (zB (val us))) (vs:=[_]) rfl rfl rfl rfl call144 ⟨rfl,trivial⟩ (fun w hw=>uS (MLe.refl _) (hw.own_us (A:=[_]) hfu)) ?_
 rintro v259 ⟨_,e259,_⟩
 subst e259
 refine zOT (A:=[_]) (zB (val us)).length hlu ?_
 rw[zB8 hfu]
 generalize gJ 1 v66 0 (zB (val us)).length=vr
 have hRf:=xR (val us)
 have hRv:=zC (val us)
 generalize zB (val us)=Rs at *
 refine asg rfl rfl (zQ (zH (zL (zL (zE (mv rfl rfl (gv (gV (A:=[_]) underlying22 rfl) rfl (mv (v:=vI (0)) rfl rfl (zQ (zH (wU ?_)))))))))))
 refine vC (ι:=Nat) (fun(k:(Nat))=>k≤Rs.length) (fun(k:(Nat))=>[(4,v77),(5,vr),(9,vI ↑s),(261,vI ↑Rs.length),(262,vI ↑k)]) (fun(k:(Nat))=>[.us 127 .u32 v77 qs,.us 127 .u32 vr (oD s Rs k)]) (fun(k:(Nat))=>h8) (fun(k:(Nat))=>Rs.length-k) 0 ?_ e5 ?_ rfl ?_
 ·
  exact Nat.zero_le _
 ·
  try dsimp only[List.nil_append,List.cons_append]
  exact congrArg (fun z=>[Res.us 127 .u32 v77 qs,Res.us 127 .u32 vr z]) (zEL s Rs)
 intro k hx
 obtain hk:=hx
 refine yS ?_
 refine zL (zE (gv (yL rfl rfl) rfl (zQ (zH (zL ?_)))))
 refine cnd (fun hc263=>?_) fun hc263=>?_
 ·
  refine uL (zH ?_)
  refine qK (ι:=Unit) (fun(_u:(Unit))=>True) (fun(_u:(Unit))=>[(4,v77),(5,vr),(9,vI ↑s),(261,vI ↑Rs.length),(262,vI ↑k)]) (fun(_u:(Unit))=>[.us 127 .u32 v77 qs,.us 127 .u32 vr (oD s Rs (k+1))]) (fun(_u:(Unit))=>h8) ?_ ?_
  ·
   refine wU (zL (zE (mv rfl rfl (asg rfl rfl (zQ (zH (zL (zE (mv rfl rfl (mv rfl rfl (gv (yP (A:=[_]) (k) underlying22 sizeOf127 rfl rfl oM (by rw[uG oM];omega)) rfl (gv (kL (A:=[_]) isAgg127 rfl (by rw[uG oM];omega)) rfl ?_))))))))))))
   rw[z6 (Nat.le_refl _)]
   have hgr:=uX hRf k
   refine mv rfl rfl (gv (kI (k:=.u32) (s:=s) (yk:=.i64) rfl rfl rfl (by simp only[ub];omega)) rfl ?_)
   have hq1:Rs.getD k 0/2^s<4294967296:=Nat.lt_of_le_of_lt (Nat.div_le_self _ _) hgr
   refine gv (yP (A:=[_]) (k) underlying22 sizeOf127 rfl rfl oM (by rw[uG oM];omega)) rfl (tW sizeOf127 rfl rfl (by rw[uG oM];omega) (zQ (zH (zL (zE (mv rfl rfl (gv (lQ (q:=0) rfl rfl) rfl ?_)))))))
   refine gU 7 280 (vB (((0:Int)<↑s)∧((↑k:Int)+1<↑Rs.length))) ?_ ?_
   ·
    refine yB ((0:Int)<↑s) (fun hg=>?_) (fun hg=>?_)
    ·
     refine gT hg rfl (iJ rfl rfl rfl (mv rfl rfl (iJ rfl rfl rfl (gv (zY (q:=1) rfl rfl oM oM) rfl (iJ rfl rfl rfl (mv rfl rfl (iJ rfl rfl rfl (gv (gV (A:=[_]) underlying22 rfl) rfl ?_))))))))
     rw[lS,uG oM]
     refine iJ rfl rfl rfl (gv (yL rfl rfl) rfl (gv (rT rfl rfl) rfl (zQ (gqU ?_))))
     exact congrArg some (xM hg)
    refine gF hg rfl (aV rfl rfl rfl rfl rfl rfl (aV rfl rfl rfl rfl rfl rfl (aV rfl rfl rfl rfl rfl rfl (aV rfl rfl rfl rfl rfl rfl (aV rfl rfl rfl rfl rfl rfl (gv (rU rfl rfl) rfl (zQ (gqU ?_))))))))
    exact congrArg some (xN hg)
   refine zQ (zH ?_)
   refine cnd (fun hc280=>?_) fun hc280=>?_
   ·
    refine gD 14 (qq 0 14 [(14,.t)]) (by kernel_rfl) ?_
    refine qA rfl rfl rfl (qA rfl rfl rfl (w_q rfl (fun h' L' hh hR=>qP (hR _ mh1) (k) underlying22 sizeOf127 rfl rfl oM (by rw[lS,uG oM];omega)) rfl (w_q rfl (fun h' L' hh hR=>kK (hR _ mh1) isAgg127 rfl (by rw[lS,uG oM];omega)) rfl ?_)))
    rw[iK (by rw[uG oM];omega)]
    refine qA rfl rfl rfl (qA rfl rfl rfl (xJ rfl (fun _ _=>zY (q:=1) rfl rfl oM oM) rfl (w_q rfl (fun h' L' hh hR=>qP (hR _ mh1) (k+1) underlying22 sizeOf127 rfl rfl oM (by rw[lS,uG oM];omega)) rfl (w_q rfl (fun h' L' hh hR=>kK (hR _ mh1) isAgg127 rfl (by rw[lS,uG oM];omega)) rfl ?_))))
    rw[qC oM,z6 oM]
    refine qA rfl rfl rfl (xJ rfl (fun _ _=>qW (p:=32) rfl rfl oM oM) rfl ?_)
    rw[show((32:Int)-↑s)=↑(32-s) by omega]
    refine xJ rfl (fun _ _=>kJ (k:=.u32) (s:=32-s) (yk:=.i64) (W:=4294967296) rfl rfl rfl rfl) rfl (xJ rfl (fun _ _=>tF (k:=.u32) rfl rfl rfl (by simp only[ub];omega) (by simp only[ub];omega)) rfl ?_)
    rw[zL0 hRf oM oM]
    refine w_q rfl (fun h' L' hh hR=>qP (hR _ mh1) (k) underlying22 sizeOf127 rfl rfl oM (by rw[lS,uG oM];omega)) rfl (kV (A:=[_]) rfl (aP sizeOf127 rfl rfl (by rw[lS,uG oM];omega)) rfl (rM (tU ?_)))
    refine zN (()) ?_ e5 ?_ rfl
    ·
     trivial
    try dsimp only[List.nil_append,List.cons_append]
    rw[List.set_set,z5 oM];try rfl
   refine uL (tU ?_)
   have hlast:Rs.getD k 0/2^s=mT s Rs k:=by
     by_cases h0:s=0
     · rw[h0,zEM hRf oM,Nat.pow_zero,Nat.div_one]
     · exact(zEN hRf oM).symm
   refine zN (()) ?_ e5 ?_ rfl
   ·
    trivial
   try dsimp only[List.nil_append,List.cons_append]
   rw[hlast,z5 oM]
  intro _u hx
  obtain hcut:=hx
  refine yS ?_
  refine zE (gv (zY (q:=1) rfl rfl oM oM) rfl (mv rfl rfl (zQ ?_)))
  refine yQ (k+1) ?_ ?_ e5 rfl rfl
  ·
   omega
  omega
 refine kX (uJ (uJ (kW (zH (zL (zE (mv rfl rfl (yG (by exact hfq) ?_))))))))
 intro h9 hh9 hq
 refine cL (ev1 rfl) call144 (fun w hs=>uS hs hq) fun v297 h10 hh10 hr297=>?_
 replace hr297:=hr297.2
 refine mv rfl rfl (yG (by exact zIX hRf) ?_)
 intro h11 hh11 hrr
 refine cL (ev1 rfl) call144 (fun w hs=>uS hs hrr) fun v299 h12 hh12 hr299=>?_
 replace hr299:=hr299.2
 refine asg rfl rfl (asg rfl rfl (asg (v:=vI (0)) rfl rfl (zQ (zH (bR (qX rfl rfl rfl rfl ?_))))))
 replace hr297:=hr297.mono (hh11.trans hh12)
 have hkR:k=Rs.length:=by omega
 rw[hkR,zG2 hRf,hRv] at hr299
 obtain⟨e1,e2⟩:=zM4 (X:=val xs) (Y:=val ys) (s:=s) (u:=val us) (q:=val qs) oM (by rw[←hV,←hU];exact hval) (by rw[←hV];exact hdr)
 rw[e1] at hr297
 rw[e2] at hr299
 rw[if_neg hyne,if_neg hyne]
 exact⟨_,_,rfl,hr297,hr299⟩
end Go.Proofs.YtboaboflnckgoaaGreat
namespace Go.Proofs.YtboaboflnckgoaaGreat
open Bk Go Tryz
set_option linter.unusedVariables false
set_option linter.unusedSimpArgs false
set_option maxRecDepth 10000
set_option maxHeartbeats 1000000
attribute [local irreducible] GL GC GQ W OpV
theorem fE{w0:World}{h0:Mem}(hs:MLe h0 (mem w0)){v:Value}{xs:List Nat}(hv:Us .u32 h0 v xs)(hl:xs.length≤17592186044416):
    Calls Tryz.prog 91 #[v] w0 (Ret w0 h0 (fun h r=>Us .u32 h r (zB (val xs)))):=by
 refine cb1 23 v func91 hs ?_
 refine tV ?_
 refine gcL (ι:=Nat) (fun(k:(Nat))=>(k≤xs.length∧∀i,k≤i→xs.getD i 0=0,[(0,v),(3,vI ↑k)],[],h0,k)) xs.length ?_ ?_
 ·
  exact⟨Nat.le_refl _,fun i hi=>by rw[List.getD_eq_getElem?_getD,List.getElem?_eq_none hi];rfl⟩
 intro k hx
 dsimp only at hx
 obtain⟨hk,hz⟩:=hx
 refine yS ?_
 refine go5 ?_
 refine gU 8 15 (vB (((0:Int)<↑k)∧(xs.getD (k-1) 0=0))) ?_ ?_
 ·
  refine yB ((0:Int)<↑k) (fun hg=>?_) (fun hg=>?_)
  ·
   refine gT hg rfl ?_
   refine go7 ?_
   refine gv (zO (k-1) underlying22 sizeOf127 rfl rfl hv oM oM) rfl ?_
   refine go3 ?_
   refine gv (gB (k:=.u32) (q:=0) rfl rfl) rfl ?_
   refine go2 ?_
   refine gqU ?_
   exact congrArg some (xM hg)
  refine gF hg rfl ?_
  refine go8 ?_
  refine gqU ?_
  exact congrArg some (xN hg)
 refine go2 ?_
 refine cnd (fun hc15=>?_) fun hc15=>?_
 ·
  refine go9 ?_
  refine gqL (k-1) ?_ ?_ (he:=⟨rfl,?_,trivial⟩)
  ·
   exact⟨by omega,fun i hi=>by
     by_cases e:i=k-1
     · rw[e];exact hc15.2
     · exact hz i oM⟩
  ·
   have:=hc15.1;omega
  · exact congrArg some (congrArg vI (by have:=hc15.1;omega))
 refine go7 ?_
 refine zF (zC4 (kd:=.u32) underlying22 wK rfl rfl) rfl rfl rfl ?_
 intro v18 r18 hr18
 obtain rfl:=hr18
 refine go2 ?_
 refine gv (iU _ underlying22 sizeOf127 rfl rfl hv.shape rfl oM) rfl ?_
 have hsl21:=hv.sub (lo:=0) (hi:=_) oM oM
 refine xS (A:=[]) (jF (kd:=.u32) (bytes:=4) underlying22 wK rfl rfl rfl rfl rfl hsl21 (by simp;omega) (by simp;omega)) rfl rfl rfl ?_
 intro v22 r22 hr22
 obtain rfl:=hr22
 rw[List.nil_append,List.drop_zero,Nat.sub_zero]
 refine yG (by exact gG hv.lt k) ?_
 intro h1 hh1 ho
 refine go4 ?_
 refine zD rfl rfl ?_
 replace hv:=hv.mono hh1
 have e:xs.take k=zB (val xs):=zEG hv.lt hk hz (by
   by_cases h0:k=0
   · exact .inl h0
   · exact .inr fun h1=>hc15 ⟨by omega,h1⟩)
 rw[←e]
 exact ho
end Go.Proofs.YtboaboflnckgoaaGreat
namespace Go.Proofs.YtboaboflnckgoaaGreat
open Bk Go Tryz
set_option linter.unusedVariables false
set_option linter.unusedSimpArgs false
set_option maxRecDepth 10000
set_option maxHeartbeats 1000000
attribute [local irreducible] GL GC GQ W OpV
theorem zUY{w0:World}{h0:Mem}(hs:MLe h0 (mem w0)){v v':Value}{xs ys:List Nat}(hv:Us .u32 h0 v xs)(hv':Us .u32 h0 v' ys)(hl:xs.length≤1099511627776)(hl':ys.length≤1099511627776):
    Calls Tryz.prog 166 #[v,v'] w0 (Ret w0 h0 (fun h r=>Us .u32 h r (zB (Nat.gcd (val xs) (val ys))))):=by
 have hlx:=wR hv.lt
 have hly:=wR hv'.lt
 obtain⟨G,hG⟩:∃G,G=Nat.gcd (val xs) (val ys):=⟨_,rfl⟩
 rw[←hG]
 refine cb2 61 v v' func166 hs ?_
 refine go8 ?_
 refine cL (ev1 rfl) call144 (fun w hs=>uS hs hv) fun v16 h1 hh1 hr16=>?_
 replace hr16:=hr16.2
 refine qU (vs:=[_]) rfl rfl rfl rfl call103 ⟨rfl,trivial⟩ (fun w hs=>pE hs hr16 oM) ?_
 intro v17 h2 L17 hh2 hr17
 obtain rfl:=hr17
 refine yG (by exact xR _) ?_
 intro h3 hh3 hcx
 refine go1 ?_
 replace hv':=hv'.mono ((hh1.trans hh2).trans hh3)
 refine cL (ev1 rfl) call144 (fun w hs=>uS hs hv') fun v19 h4 hh4 hr19=>?_
 replace hr19:=hr19.2
 refine qU (vs:=[_]) rfl rfl rfl rfl call103 ⟨rfl,trivial⟩ (fun w hs=>pE hs hr19 oM) ?_
 intro v20 h5 L20 hh5 hr20
 obtain rfl:=hr20
 refine yG (by exact xR _) ?_
 intro h6 hh6 hcy
 refine go6 ?_
 refine gcL (ι:=Value×Nat×Value×Nat×Mem) (fun(vx,X,vy,Y,k1)=>(MLe h6 k1∧(Us .u32 k1 vx (zB X)∧Us .u32 k1 vy (zB Y)∧Nat.gcd X Y=G∧(zB X).length≤1099511627776∧(zB Y).length≤1099511627776),[(5,vx),(6,vy)],[],k1,Y)) (v17,val xs,v20,val ys,h6) ?_ ?_
 ·
  refine⟨MLe.refl _,?_⟩
  replace hcx:=hcx.mono ((hh4.trans hh5).trans hh6)
  exact⟨hcx,hcy,hG.symm,by omega,by omega⟩
 intro x hx
 obtain⟨vx,X,vy,Y,k1⟩:=x
 dsimp only at hx
 obtain⟨hmk1,⟨ha,hb,hg,hlX,hlY⟩⟩:=hx
 refine yS ?_
 refine go8 ?_
 refine cnd (fun hc23=>?_) fun hc23=>?_
 ·
  refine go7 ?_
  have hY0:Y≠0:=yK.1 oM
  refine cL (ev2 rfl rfl) call147 (fun w hs=>eR hs ha hb oM oM) fun v27 h7 hh7 hr27=>?_
  obtain⟨q27,r27,rfl,hq27,hr27⟩:=hr27
  simp only[zC] at hq27 hr27
  rw[if_neg hY0] at hr27
  have hlm:=zM (Nat.le_of_lt (Nat.mod_lt X (Nat.pos_of_ne_zero hY0)))
  refine zAR ?_
  refine gqL (vy,Y,r27,X%Y,h7) ?_ ?_
  ·
   refine⟨(hmk1.trans hh7),?_⟩
   replace hb:=hb.mono hh7
   exact⟨hb,hr27,by rw[nD];exact hg,hlY,by omega⟩
  exact Nat.mod_lt _ (Nat.pos_of_ne_zero hY0)
 refine sL ?_
 refine cnd (fun hc35=>?_) fun hc35=>?_
 ·
  have hY0:Y=0:=Classical.byContradiction fun hne=>by have:=yK.2 hne;omega
  refine go8 ?_
  refine zD rfl rfl ?_
  rw[hY0,Nat.gcd_zero_right] at hg
  rw[←hg]
  exact ha
 have hY0:Y≠0:=yK.1 oM
 refine go2 ?_
 refine qK (ι:=Value×Nat×Value×Nat×Mem) (fun(vx2,X2,vy2,Y2,k2)=>MLe k1 k2∧(Us .u32 k2 vx2 (zB X2)∧Us .u32 k2 vy2 (zB Y2)∧Nat.gcd X2 Y2=G∧(zB X2).length≤2∧(zB Y2).length≤2)) (fun(vx2,X2,vy2,Y2,k2)=>[(5,vx2),(6,vy2)]) (fun(vx2,X2,vy2,Y2,k2)=>[]) (fun(vx2,X2,vy2,Y2,k2)=>k2) ?_ ?_
 ·
  refine go7 ?_
  refine cnd (fun hc39=>?_) fun hc39=>?_
  ·
   refine go4 ?_
   refine cL (ev2 rfl rfl) call147 (fun w hs=>eR hs ha hb oM oM) fun v43 h7 hh7 hr43=>?_
   obtain⟨q43,r43,rfl,hq43,hr43⟩:=hr43
   simp only[zC] at hq43 hr43
   rw[if_neg hY0] at hr43
   have hlm:=zM (Nat.le_of_lt (Nat.mod_lt X (Nat.pos_of_ne_zero hY0)))
   refine j5 ?_
   refine zN (vy,Y,r43,X%Y,h7) ?_ e2z rfl rfl
   refine⟨hh7,?_⟩
   replace hb:=hb.mono hh7
   exact⟨hb,hr43,by rw[nD];exact hg,by omega,by omega⟩
  refine go1 ?_
  refine zN (vx,X,vy,Y,k1) ?_ e2z rfl rfl
  refine⟨MLe.refl _,?_⟩
  exact⟨ha,hb,hg,by omega,by omega⟩
 intro x hx
 obtain⟨vx2,X2,vy2,Y2,k2⟩:=x
 obtain⟨hmk2,⟨ha2,hb2,hg2,hx2,hy2⟩⟩:=hx
 refine yS ?_
 refine go3 ?_
 refine cL (ev1 rfl) call192 (fun w hs=>zIG hs ha2 oM) fun v50 h7 hh7 hr50=>?_
 subst hr50
 rw[zC]
 have hwx:=aI hx2
 refine go1 ?_
 replace hb2:=hb2.mono hh7
 refine cL (ev1 rfl) call192 (fun w hs=>zIG hs hb2 oM) fun v52 h8 hh8 hr52=>?_
 subst hr52
 rw[zC]
 have hwy:=aI hy2
 refine go6 ?_
 refine gcL (ι:=Nat×Nat) (fun(m,n)=>(Nat.gcd m n=G∧m<18446744073709551616∧n<18446744073709551616,[(13,vU .u64 m),(14,vU .u64 n)],[],h8,n)) (X2,Y2) ?_ ?_
 ·
  exact⟨hg2,hwx,hwy⟩
 intro x hx
 obtain⟨m,n⟩:=x
 dsimp only at hx
 obtain⟨hg3,hm,hn⟩:=hx
 refine yS ?_
 refine go4 ?_
 refine gv (fF (k:=.u64) (q:=0) rfl rfl) rfl ?_
 refine go2 ?_
 refine cnd (fun hc54=>?_) fun hc54=>?_
 ·
  refine go3 ?_
  refine gD 6 (qq 0 6 []) (by kernel_rfl) ?_
  refine go3 ?_
  refine xJ rfl (fun _ _=>pK (k:=.u64) rfl rfl oM) rfl ?_
  refine go4 ?_
  refine gqL (n,m%n) ?_ ?_
  ·
   have hlt:=Nat.mod_lt m (Nat.pos_of_ne_zero hc54)
   exact⟨by rw[nD];exact hg3,hn,by omega⟩
  exact Nat.mod_lt _ (Nat.pos_of_ne_zero hc54)
 refine go8 ?_
 refine cL (ev1 rfl) call167 (fun w hs=>zK2 hs oM) fun v60 h9 hh9 hr60=>?_
 refine go4 ?_
 refine zD rfl rfl ?_
 have hn0:n=0:=Classical.not_not.1 hc54
 rw[hn0,Nat.gcd_zero_right] at hg3
 rw[←hg3]
 exact hr60
theorem iT{w0:World}{h0:Mem}(hs:MLe h0 (mem w0)){n:Nat}(hn:n<18446744073709551616):
    Calls Tryz.prog 131 #[vU .u64 n] w0 (Ret w0 h0 (fun h r=>Us .u32 h r (zB n))):=by
 refine cb1 10 (vU .u64 n) func131 hs ?_
 refine uN ?_
 refine zF (zC3 (kd:=.u32) underlying22 wK rfl rfl rfl rfl) rfl rfl rfl ?_
 intro v8 r8 hr8
 obtain rfl:=hr8
 refine yG (by intro x hx;simp only[List.mem_cons,List.not_mem_nil,or_false] at hx;simp only[ub];omega) ?_
 intro h1 hh1 hb
 refine cL (ev1 rfl) call91 (fun w hs=>fE hs hb (by simp)) fun v9 h2 hh2 hr9=>?_
 refine go4 ?_
 refine zD rfl rfl ?_
 have e:val [n%4294967296,n/2^32%4294967296]=n:=by simp only[val];omega
 rw[e] at hr9
 exact hr9
theorem nQ{w0:World}{h0:Mem}(hs:MLe h0 (mem w0)){v v':Value}{X Y:Nat}(hv:Us .u32 h0 v (zB X))(hv':Us .u32 h0 v' (zB Y)):
    Calls Tryz.prog 56 #[v,v'] w0 (Ret w0 h0 (fun _ r=>r=vI (tD X Y))):=by
 have vA:=zC X
 have vB':=zC Y
 generalize hA:zB X=AA at *
 generalize hB:zB Y=BB at *
 have fA:Fit AA:=hv.lt
 have fB:Fit BB:=hv'.lt
 have lA:=hv.lt63
 have lB:=hv'.lt63
 refine cb2 41 v v' func56 hs ?_
 refine uP ?_
 refine gv (wP underlying22 rfl hv') rfl ?_
 refine go3 ?_
 refine cnd (fun hc10=>?_) fun hc10=>?_
 ·
  refine go6 ?_
  refine gv (wP underlying22 rfl hv') rfl ?_
  refine go3 ?_
  refine cnd (fun hc15=>?_) fun hc15=>?_
  ·
   refine go8 ?_
   refine zD rfl rfl ?_
   rw[t6 (sD (by rw[hA,hB];omega))]
  refine go9 ?_
  refine zD rfl rfl ?_
  rw[t7 (sD (by rw[hA,hB];omega))]
 have hl:AA.length=BB.length:=by omega
 refine uN ?_
 refine gcL (ι:=Nat) (fun(j:(Nat))=>(j≤AA.length∧AA.drop j=BB.drop j,[(0,v),(1,v'),(5,vI (↑j-1))],[],h0,j)) AA.length ?_ ?_
 ·
  exact⟨Nat.le_refl _,by rw[List.drop_of_length_le (Nat.le_refl _),List.drop_of_length_le oM]⟩
 intro j hx
 dsimp only at hx
 obtain⟨hj,hd⟩:=hx
 refine yS ?_
 refine go7 ?_
 refine cnd (fun hc20=>?_) fun hc20=>?_
 ·
  refine go6 ?_
  refine gD 9 (qq 0 9 []) (by kernel_rfl) ?_
  refine go2 ?_
  refine w_q rfl (fun h' L' hh hR=>zO (j-1) underlying22 sizeOf127 rfl rfl (hv.mono hh) oM oM) rfl (w_q rfl (fun h' L' hh hR=>xG isAgg127 rfl (hv.mono hh) oM) rfl ?_)
  refine go2 ?_
  refine w_q rfl (fun h' L' hh hR=>zO (j-1) underlying22 sizeOf127 rfl rfl (hv'.mono hh) oM oM) rfl (w_q rfl (fun h' L' hh hR=>xG isAgg127 rfl (hv'.mono hh) oM) rfl ?_)
  refine go3 ?_
  refine cnd (fun hc31=>?_) fun hc31=>?_
  ·
   refine uN ?_
   refine zD rfl rfl ?_
   rw[←vA,←vB',t6 (zBO fA hl oM hj hd hc31)]
  refine go3 ?_
  refine gD 9 (qq 0 9 []) (by kernel_rfl) ?_
  refine go2 ?_
  refine w_q rfl (fun h' L' hh hR=>zO (j-1) underlying22 sizeOf127 rfl rfl (hv.mono hh) oM oM) rfl (w_q rfl (fun h' L' hh hR=>xG isAgg127 rfl (hv.mono hh) oM) rfl ?_)
  refine go2 ?_
  refine w_q rfl (fun h' L' hh hR=>zO (j-1) underlying22 sizeOf127 rfl rfl (hv'.mono hh) oM oM) rfl (w_q rfl (fun h' L' hh hR=>xG isAgg127 rfl (hv'.mono hh) oM) rfl ?_)
  refine go3 ?_
  refine cnd (fun hc40=>?_) fun hc40=>?_
  ·
   refine uP ?_
   refine zD rfl rfl ?_
   rw[←vA,←vB',t7 (zBO fB hl.symm oM oM hd.symm oM)]
  refine go8 ?_
  refine gqL (j-1) ?_ ?_ (he:=⟨rfl,rfl,?_,trivial⟩)
  ·
   refine⟨by omega,?_⟩
   rw[fC AA (j-1) oM,fC BB (j-1) oM]
   have e:j-1+1=j:=by omega
   rw[e,hd,Classical.not_not.1 (show ¬¬AA.getD (j-1) 0=BB.getD (j-1) 0 by omega)]
  ·
   omega
  · exact congrArg some (congrArg vI oM)
 refine uP ?_
 refine zD rfl rfl ?_
 have h0:j=0:=by omega
 subst h0
 simp only[List.drop_zero] at hd
 rw[←vA,←vB',hd,zM6]
theorem zQK{w0:World}{h0:Mem}(hs:MLe h0 (mem w0)){v:Value}{X:Nat}(hv:Us .u32 h0 v (zB X))(hl:(zB X).length≤1099511627776):
    Calls Tryz.prog 139 #[v] w0 (Ret w0 h0 (fun _ r=>r=vI ↑(xY X))):=by
 refine cb1 25 v func139 hs ?_
 refine sL ?_
 refine cnd (fun hc7=>?_) fun hc7=>?_
 ·
  refine go7 ?_
  refine zD rfl rfl ?_
  have h0:X=0:=Classical.byContradiction fun hne=>by have:=yK.2 hne;omega
  rw[h0];rfl
 have hpos:0<(zB X).length:=by omega
 have hb:=zAY (xR X) (k:=(zB X).length-1) oM (tL hpos)
 rw[zC] at hb
 refine go7 ?_
 refine gv (bJ (p:=32) rfl rfl oM oM) rfl ?_
 refine vO ?_
 refine gv (zO ((zB X).length-1) underlying22 sizeOf127 rfl rfl hv oM oM) rfl ?_
 refine go1 ?_
 have hx1:=hv.get32 ((zB X).length-1)
 refine go4 ?_
 refine vC (ι:=Nat×Nat) (fun(c,x)=>x<4294967296∧xY ((zB X).getD ((zB X).length-1) 0)=c+xY x∧c≤32) (fun(c,x)=>[(3,vI (32*(↑(zB X).length-1)+↑c)),(4,vU .u32 x)]) (fun(c,x)=>[]) (fun(c,x)=>h0) (fun(c,x)=>x) (0,(zB X).getD ((zB X).length-1) 0) ?_ ⟨?_,?_,trivial⟩ rfl rfl ?_
 ·
  exact⟨hx1,by omega,by omega⟩
 · exact congrArg some (congrArg vI oM)
 · exact rfl
 intro x hx
 obtain⟨c,x⟩:=x
 obtain⟨hx,hcx,hc32⟩:=hx
 refine yS ?_
 have hb32:=bX (n:=(zB X).getD ((zB X).length-1) 0) (k:=32) hx1
 refine go4 ?_
 refine gv (fF (k:=.u32) (q:=0) rfl rfl) rfl ?_
 refine go2 ?_
 refine cnd (fun hc19=>?_) fun hc19=>?_
 ·
  refine sL ?_
  refine gv (kI (k:=.u32) (s:=1) (yk:=.u64) rfl rfl rfl (by simp only[ub];omega)) rfl ?_
  refine go2 ?_
  refine yQ (c+1,x/2^1) ?_ ?_ ⟨?_,rfl,trivial⟩ rfl rfl
  ·
   have h1:=zLU hc19
   exact⟨by omega,by rw[hcx,h1,show x/2^1=x/2 from rfl];omega,by omega⟩
  ·
   dsimp only
   omega
  · exact congrArg some (congrArg vI oM)
 refine uN ?_
 refine zD rfl rfl ?_
 have hx0:x=0:=Classical.not_not.1 hc19
 rw[hx0,zDT] at hcx
 exact congrArg vI oM
end Go.Proofs.YtboaboflnckgoaaGreat
namespace Go.Proofs.YtboaboflnckgoaaGreat
open Bk Go Tryz
set_option linter.unusedVariables false
set_option linter.unusedSimpArgs false
set_option maxRecDepth 10000
set_option maxHeartbeats 1000000
attribute [local irreducible] GL GC GQ W OpV
theorem zUD{w0:World}{h0:Mem}(hs:MLe h0 (mem w0)){v v':Value}{X Y:Nat}(hv:Us .u32 h0 v (zB X))(hv':Us .u32 h0 v' (zB Y))(hl:(zB X).length≤1099511627776)(hl':(zB Y).length≤1099511627776):
    Calls Tryz.prog 84 #[v,v'] w0 (Ret w0 h0 (fun h r=>Us .u32 h r (zB (X+Y)))):=by
 have hlA:=zM (Nat.le_add_right X Y)
 have hlB:=zM (Nat.le_add_left Y X)
 have hls:=uE X Y
 refine cb2 54 v v' func84 hs ?_
 refine go7 ?_
 refine mF (tH (v:=.slice none 0 0) rfl) rfl rfl rfl (zAS (E:=127) (k:=.u32) ?_)
 refine go4 ?_
 refine asg (v:=vU .u64 0) rfl rfl ?_
 refine go9 ?_
 refine vC (ι:=Value×List Nat×Nat×Mem) (fun(vo,ss,c,k1)=>MLe h0 k1∧(ss.length≤(zB (X+Y)).length∧Fit ss∧c≤1∧val ss+4294967296^ss.length*c=val ((zB X).take ss.length)+val ((zB Y).take ss.length))) (fun(vo,ss,c,k1)=>[(0,v),(1,v'),(5,vo),(6,vU .u64 c),(7,vI ↑ss.length)]) (fun(vo,ss,c,k1)=>[.us 127 .u32 vo ss]) (fun(vo,ss,c,k1)=>k1) (fun(vo,ss,c,k1)=>(zB (X+Y)).length-ss.length) (.slice none 0 0,[],0,h0) ?_ e5 rfl rfl ?_
 ·
  refine⟨MLe.refl _,?_⟩
  exact⟨by simp,fun x hx=>by simp at hx,by omega,by simp[val]⟩
 intro x hx
 obtain⟨vo,ss,c,k1⟩:=x
 obtain⟨hmk1,⟨hss,hfs,hc1,hval⟩⟩:=hx
 refine yS ?_
 replace hv:=hv.mono hmk1
 replace hv':=hv'.mono hmk1
 have hx1:=hv.get32 ss.length
 have hx2:=hv'.get32 ss.length
 refine go7 ?_
 refine gU 6 17 (vB (((↑ss.length:Int)<↑(zB X).length)∨((↑ss.length:Int)<↑(zB Y).length))) ?_ ?_
 ·
  refine yB ((↑ss.length:Int)<↑(zB X).length) (fun hg=>?_) (fun hg=>?_)
  ·
   refine gT hg rfl ?_
   refine go6 ?_
   refine gqU ?_
   exact congrArg some (uA hg)
  refine gF hg rfl ?_
  refine go5 ?_
  refine gv (wP underlying22 rfl hv') rfl ?_
  refine go4 ?_
  refine gqU ?_
  exact congrArg some (uC hg)
 refine gU 4 21 (vB (((↑ss.length:Int)<↑(zB X).length∨(↑ss.length:Int)<↑(zB Y).length)∨(c≠0))) ?_ ?_
 ·
  refine yB ((↑ss.length:Int)<↑(zB X).length∨(↑ss.length:Int)<↑(zB Y).length) (fun hg=>?_) (fun hg=>?_)
  ·
   refine gT hg rfl ?_
   refine go4 ?_
   refine gqU ?_
   exact congrArg some (uA hg)
  refine gF hg rfl ?_
  refine go3 ?_
  refine gv (fF (k:=.u64) (q:=0) rfl rfl) rfl ?_
  refine go2 ?_
  refine gqU ?_
  exact congrArg some (uC hg)
 refine go2 ?_
 refine cnd (fun hc21=>?_) fun hc21=>?_
 ·
  refine go4 ?_
  refine qK (ι:=Unit) (fun(_u:(Unit))=>True) (fun(_u:(Unit))=>[(0,v),(1,v'),(5,vo),(6,vU .u64 (c+(zB X).getD ss.length 0)),(7,vI ↑ss.length)]) (fun(_u:(Unit))=>[.us 127 .u32 vo ss]) (fun(_u:(Unit))=>k1) ?_ ?_
  ·
   refine go8 ?_
   refine cnd (fun hc27=>?_) fun hc27=>?_
   ·
    refine go4 ?_
    refine gv (zO (ss.length) underlying22 sizeOf127 rfl rfl hv oM oM) rfl ?_
    refine go5 ?_
    refine zN (()) ?_ e5 rfl rfl
    trivial
   refine go1 ?_
   refine zN (()) ?_ ⟨rfl,rfl,rfl,?_,rfl,trivial⟩ rfl rfl
   ·
    trivial
   · exact congrArg some (congrArg (vU .u64) (by rw[tB (xs:=zB X) oM];omega))
  intro _u hx
  obtain hcut:=hx
  refine yS ?_
  refine qK (ι:=Unit) (fun(_u:(Unit))=>True) (fun(_u:(Unit))=>[(0,v),(1,v'),(5,vo),(6,vU .u64 (c+(zB X).getD ss.length 0+(zB Y).getD ss.length 0)),(7,vI ↑ss.length)]) (fun(_u:(Unit))=>[.us 127 .u32 vo ss]) (fun(_u:(Unit))=>k1) ?_ ?_
  ·
   refine go4 ?_
   refine gv (wP underlying22 rfl hv') rfl ?_
   refine go3 ?_
   refine cnd (fun hc38=>?_) fun hc38=>?_
   ·
    refine go4 ?_
    refine gv (zO (ss.length) underlying22 sizeOf127 rfl rfl hv' oM oM) rfl (gv (xG isAgg127 rfl hv' oM) rfl ?_)
    refine go4 ?_
    refine zN (()) ?_ e5 rfl rfl
    trivial
   refine go1 ?_
   refine zN (()) ?_ ⟨rfl,rfl,rfl,?_,rfl,trivial⟩ rfl rfl
   ·
    trivial
   · exact congrArg some (congrArg (vU .u64) (by rw[tB (xs:=zB Y) oM];omega))
  intro _u hx
  obtain hcut:=hx
  refine yS ?_
  refine go5 ?_
  refine zF (kQ (kd:=.u32) underlying22 wK rfl rfl rfl) rfl rfl rfl ?_
  intro v49 r49 hr49
  obtain rfl:=hr49
  refine yG (by intro z hz;simp only[List.mem_singleton] at hz;subst hz;simp only[ub];omega) ?_
  intro h1 hh1 hch
  refine xS (A:=[]) (jF (kd:=.u32) (bytes:=4) underlying22 wK rfl rfl rfl rfl rfl hch (by simp only[List.length_singleton];omega) (by simp only[List.length_singleton];omega)) rfl rfl rfl ?_
  intro v50 r50 hr50
  obtain rfl:=hr50
  refine j5 ?_
  generalize hXi:(zB X).getD ss.length 0=p at *
  generalize hYi:(zB Y).getD ss.length 0=q at *
  have hgrow:ss.length<(zB (X+Y)).length:=by
    rcases hc21 with(h|h)|h
    · omega
    · omega
    · by_cases h1:ss.length<(zB X).length
      · omega
      · by_cases h2:ss.length<(zB Y).length
        · omega
        · rw[xK oM,xK oM,zC,zC] at hval
          refine j1 ?_
          have:=Nat.le_mul_of_pos_right (4294967296^ss.length) (Nat.pos_of_ne_zero h)
          omega
  refine yQ (v50,ss++[(c+p+q)%4294967296],(c+p+q)/2^32,h1) ?_ ?_ ⟨rfl,rfl,rfl,rfl,?_,trivial⟩ rfl rfl
  ·
   refine⟨(hmk1.trans hh1),?_⟩
   refine⟨by simp;omega,wY hfs (cS oM),by omega,?_⟩
   rw[lAz,List.length_singleton,vK,vK,hXi,hYi,tP,Nat.pow_succ]
   have e:=Nat.div_add_mod (c+p+q) 4294967296
   rw[show(2:Nat)^32=4294967296 from rfl]
   generalize (c+p+q)/4294967296=s at *
   generalize (c+p+q)%4294967296=r at *
   grind
  ·
   dsimp only
   simp;omega
  · exact congrArg some (congrArg vI (by simp))
 refine go8 ?_
 refine yG (by exact hfs) ?_
 intro h1 hh1 ho
 refine go4 ?_
 refine zD rfl rfl ?_
 have h1:¬ss.length<(zB X).length:=fun h=>hc21 (.inl (.inl oM))
 have h2:¬ss.length<(zB Y).length:=fun h=>hc21 (.inl (.inr oM))
 have h3:c=0:=Classical.byContradiction fun h=>hc21 (.inr h)
 rw[xK oM,xK oM,zC,zC,h3] at hval
 have e:val ss=X+Y:=by omega
 rw[←e,zIP hfs (by rw[e];exact hss)]
 exact ho
theorem zAC{w0:World}{h0:Mem}(hs:MLe h0 (mem w0)){v v':Value}{X Y:Nat}(hv:Us .u32 h0 v (zB X))(hv':Us .u32 h0 v' (zB Y))(hle:Y≤X)(hl:(zB X).length≤1099511627776):
    Calls Tryz.prog 130 #[v,v'] w0 (Ret w0 h0 (fun h r=>Us .u32 h r (zB (X-Y)))):=by
 have hlm:=zM hle
 refine cb2 50 v v' func130 hs ?_
 refine go9 ?_
 refine qJ (kd:=.u32) (by':=4) _ underlying22 wK rfl rfl rfl rfl rfl rfl rfl oM oM rfl ?_
 intro v12
 refine go5 ?_
 refine asg (v:=vU .u64 0) rfl rfl ?_
 refine go9 ?_
 refine vC (ι:=List Nat×Nat) (fun(ss,c)=>ss.length≤(zB X).length∧Fit ss∧c≤1∧val ss+val ((zB Y).take ss.length)=val ((zB X).take ss.length)+4294967296^ss.length*c) (fun(ss,c)=>[(0,v),(1,v'),(5,v12),(6,vU .u64 c),(7,vI ↑ss.length)]) (fun(ss,c)=>[.us 127 .u32 v12 (fM ss (zB X).length)]) (fun(ss,c)=>h0) (fun(ss,c)=>(zB X).length-ss.length) ([],0) ?_ e5 rfl rfl ?_
 ·
  exact⟨by simp,fun x hx=>by simp at hx,by omega,by simp[val]⟩
 intro x hx
 obtain⟨ss,c⟩:=x
 obtain⟨hss,hfs,hc1,hval⟩:=hx
 refine yS ?_
 have hx1:=hv.get32 ss.length
 have hx2:=hv'.get32 ss.length
 refine go9 ?_
 refine cnd (fun hc16=>?_) fun hc16=>?_
 ·
  refine vO ?_
  refine qK (ι:=Unit) (fun(_u:(Unit))=>True) (fun(_u:(Unit))=>[(0,v),(1,v'),(5,v12),(7,vI ↑ss.length),(8,vU .u64 (c+(zB Y).getD ss.length 0))]) (fun(_u:(Unit))=>[.us 127 .u32 v12 (fM ss (zB X).length)]) (fun(_u:(Unit))=>h0) ?_ ?_
  ·
   refine go4 ?_
   refine gv (wP underlying22 rfl hv') rfl ?_
   refine go3 ?_
   refine cnd (fun hc23=>?_) fun hc23=>?_
   ·
    refine go4 ?_
    refine gv (zO (ss.length) underlying22 sizeOf127 rfl rfl hv' oM oM) rfl (gv (xG isAgg127 rfl hv' oM) rfl ?_)
    refine go4 ?_
    refine zN (()) ?_ e5 rfl rfl
    trivial
   refine go1 ?_
   refine zN (()) ?_ ⟨rfl,rfl,rfl,rfl,?_,trivial⟩ rfl rfl
   ·
    trivial
   · exact congrArg some (congrArg (vU .u64) (by rw[tB (xs:=zB Y) oM];omega))
  intro _u hx
  obtain hcut:=hx
  refine yS ?_
  refine go4 ?_
  refine gv (zO (ss.length) underlying22 sizeOf127 rfl rfl hv oM oM) rfl ?_
  refine go7 ?_
  refine asg (v:=vU .u64 0) rfl rfl ?_
  refine go2 ?_
  refine qK (ι:=Nat) (fun(d:(Nat))=>d≤1∧c+(zB Y).getD ss.length 0≤(zB X).getD ss.length 0+4294967296*d∧(zB X).getD ss.length 0+4294967296*d<c+(zB Y).getD ss.length 0+4294967296) (fun(d:(Nat))=>[(0,v),(1,v'),(5,v12),(6,vU .u64 d),(7,vI ↑ss.length),(8,vU .u64 (c+(zB Y).getD ss.length 0)),(9,vU .u64 ((zB X).getD ss.length 0+4294967296*d))]) (fun(d:(Nat))=>[.us 127 .u32 v12 (fM ss (zB X).length)]) (fun(d:(Nat))=>h0) ?_ ?_
  ·
   refine go7 ?_
   refine cnd (fun hc38=>?_) fun hc38=>?_
   ·
    refine go3 ?_
    refine gv (fW (k:=.u64) (q:=4294967296) (W:=18446744073709551616) rfl rfl rfl rfl oM) rfl ?_
    refine go4 ?_
    refine asg (v:=vU .u64 1) rfl rfl ?_
    refine go1 ?_
    refine zN (1) ?_ e7 rfl rfl
    exact⟨by omega,by omega,by omega⟩
   refine go1 ?_
   refine zN (0) ?_ e7 rfl rfl
   exact⟨by omega,by omega,by omega⟩
  intro d hx
  obtain⟨hd1,hd2,hd3⟩:=hx
  refine yS ?_
  refine go5 ?_
  refine gv (bH (k:=.u64) (W:=18446744073709551616) rfl rfl rfl rfl oM oM) rfl (gv (wQ (k:=.u64) (k':=.u32) (W:=4294967296) underlying130 underlying127 rfl rfl rfl oM) rfl (gv (yP (A:=[]) (ss.length) underlying22 sizeOf127 rfl rfl oM (by rw[vM oM];omega)) rfl (xZ sizeOf127 rfl rfl (by rw[vM oM];omega) ?_)))
  refine go8 ?_
  generalize hXi:(zB X).getD ss.length 0=p at *
  generalize hYi:(zB Y).getD ss.length 0=q at *
  refine yQ (ss++[p+4294967296*d-(c+q)],d) ?_ ?_ ⟨rfl,rfl,rfl,rfl,?_,trivial⟩ ?_ rfl
  ·
   refine⟨by simp;omega,wY hfs (cS oM),hd1,?_⟩
   rw[lAz,List.length_singleton,vK,vK,hXi,hYi,tP,Nat.pow_succ]
   have e:p+4294967296*d-(c+q)+c+q=p+4294967296*d:=by omega
   generalize p+4294967296*d-(c+q)=r at *
   grind
  ·
   dsimp only
   simp;omega
  · exact congrArg some (congrArg vI (by simp))
  try dsimp only[List.nil_append,List.cons_append]
  rw[sM oM]
 refine go8 ?_
 have hk:ss.length=(zB X).length:=by omega
 rw[pS hk]
 refine yG (by exact hfs) ?_
 intro h1 hh1 ho
 refine cL (ev1 rfl) call91 (fun w hs=>fE hs ho oM) fun v49 h2 hh2 hr49=>?_
 refine go4 ?_
 refine zD rfl rfl ?_
 have hk:ss.length=(zB X).length:=by omega
 rw[xK oM,xK oM,zC,zC] at hval
 have h1:=jY hfs
 have h2:c=0:=Classical.byContradiction fun hne=>by
   have:c=1:=by omega
   subst this
   omega
 subst h2
 have e:val ss=X-Y:=by omega
 rw[e] at hr49
 exact hr49
theorem zL5{w0:World}{h0:Mem}(hs:MLe h0 (mem w0)){v v':Value}{X Y:Nat}(hv:Us .u32 h0 v (zB X))(hv':Us .u32 h0 v' (zB Y))(hl:(zB X).length≤1099511627776):
    Calls Tryz.prog 85 #[v,v'] w0 (Ret w0 h0 (fun h r=>∃u,r=.tuple #[u,vI (if X<Y then 7 else 0)]∧Us .u32 h u (zB (X-Y)))):=by
 refine cb2 13 v v' func85 hs ?_
 refine uP ?_
 refine cL (ev2 rfl rfl) call56 (fun w hs=>nQ hs hv hv') fun v8 h1 hh1 hr8=>?_
 subst hr8
 refine go3 ?_
 refine cnd (fun hc9=>?_) fun hc9=>?_
 ·
  have hlt:=gH.1 hc9
  refine go8 ?_
  refine vT rfl rfl rfl ?_
  rw[if_pos hlt,Nat.sub_eq_zero_of_le (Nat.le_of_lt hlt),yR]
  exact⟨_,rfl,Us.nil _ _⟩
 have hge:Y≤X:=Nat.le_of_not_lt fun hc=>hc9 (gH.2 hc)
 refine go6 ?_
 replace hv:=hv.mono hh1
 replace hv':=hv'.mono hh1
 refine cL (ev2 rfl rfl) call130 (fun w hs=>zAC hs hv hv' oM oM) fun v12 h2 hh2 hr12=>?_
 refine go5 ?_
 refine vT rfl rfl rfl ?_
 rw[if_neg oM]
 exact⟨_,rfl,hr12⟩
theorem rX{w0:World}{h0:Mem}(hs:MLe h0 (mem w0)){v v':Value}{xs ys:List Nat}(hv:Us .u32 h0 v xs)(hv':Us .u32 h0 v' ys)(hl:xs.length≤1099511627776)(hl':ys.length≤1099511627776):
    Calls Tryz.prog 47 #[v,v'] w0 (Ret w0 h0 (fun h r=>Us .u32 h r (zB (val xs*val ys)))):=by
 have hfx:Fit xs:=hv.lt
 have hfy:Fit ys:=hv'.lt
 refine cb2 67 v v' func47 hs ?_
 refine vO ?_
 refine gv (wP underlying22 rfl hv') rfl ?_
 refine go1 ?_
 refine qJ (kd:=.u32) (by':=4) (xs.length+ys.length) underlying22 wK rfl rfl rfl rfl rfl oM oM oM oM rfl ?_
 intro v14
 refine vO ?_
 refine gcL (ι:=Nat×List Nat) (fun(k,os)=>(k≤xs.length∧os.length=xs.length+ys.length∧Fit os∧val os=val (xs.take k)*val ys∧∀i,k+ys.length≤i→os.getD i 0=0,[(0,v),(1,v'),(5,v14),(6,vI ↑k)],[.us 127 .u32 v14 os],h0,xs.length-k)) (0,List.replicate (xs.length+ys.length) 0) ?_ ?_
 ·
  exact⟨Nat.zero_le _,by simp,qD _,by rw[fI];simp[val],fun i _=>eA _ _⟩
 intro x hx
 obtain⟨k,os⟩:=x
 dsimp only at hx
 obtain⟨hk,hos,hfo,hval,hz⟩:=hx
 refine yS ?_
 refine go9 ?_
 refine cnd (fun hc18=>?_) fun hc18=>?_
 ·
  refine go6 ?_
  refine asg (v:=vU .u64 0) rfl rfl ?_
  refine go9 ?_
  refine gcL (ι:=Nat×List Nat×Nat) (fun(j,ts,c)=>(j≤ys.length∧ts.length=xs.length+ys.length∧Fit ts∧c<4294967296∧val ts+4294967296^(k+j)*c=val os+4294967296^k*(xs.getD k 0*val (ys.take j))∧∀i,k+ys.length≤i→ts.getD i 0=0,[(0,v),(1,v'),(5,v14),(6,vI ↑k),(7,vU .u64 c),(8,vI ↑j)],[.us 127 .u32 v14 ts],h0,ys.length-j)) (0,os,0) ?_ ?_
  ·
   exact⟨Nat.zero_le _,hos,hfo,by omega,by simp[val],hz⟩
  intro x hx
  obtain⟨j,ts,c⟩:=x
  dsimp only at hx
  obtain⟨hj,hts,hft,hcb,htv,htz⟩:=hx
  refine yS ?_
  have hx1:=hv.get32 k
  have hx2:=hv'.get32 j
  have hx3:=uX hft (k+j)
  have hxy:xs.getD k 0*ys.getD j 0≤4294967295*4294967295:=Nat.mul_le_mul oM oM
  refine go5 ?_
  refine gv (wP underlying22 rfl hv') rfl ?_
  refine go3 ?_
  refine cnd (fun hc24=>?_) fun hc24=>?_
  ·
   refine go5 ?_
   refine gD 22 (qq 0 22 []) (by kernel_rfl) ?_
   refine go3 ?_
   refine w_q rfl (fun h' L' hh hR=>zO (k) underlying22 sizeOf127 rfl rfl (hv.mono hh) oM oM) rfl (w_q rfl (fun h' L' hh hR=>xG isAgg127 rfl (hv.mono hh) oM) rfl ?_)
   refine go3 ?_
   refine w_q rfl (fun h' L' hh hR=>zO (j) underlying22 sizeOf127 rfl rfl (hv'.mono hh) oM oM) rfl (w_q rfl (fun h' L' hh hR=>xG isAgg127 rfl (hv'.mono hh) oM) rfl ?_)
   refine go6 ?_
   refine w_q rfl (fun h' L' hh hR=>qP (hR _ mh0) (k+j) underlying22 sizeOf127 rfl rfl oM oM) rfl (w_q rfl (fun h' L' hh hR=>kK (hR _ mh0) isAgg127 rfl oM) rfl ?_)
   refine tV ?_
   refine gv (yP (A:=[]) (k+j) underlying22 sizeOf127 rfl rfl oM oM) rfl (xZ sizeOf127 rfl rfl oM ?_)
   refine tV ?_
   refine gqL (j+1,ts.set (k+j) ((c+(xs.getD k 0*ys.getD j 0+ts.getD (k+j) 0))%4294967296),(c+(xs.getD k 0*ys.getD j 0+ts.getD (k+j) 0))/2^32) ?_ ?_
   ·
    refine⟨by omega,by simp[hts],aL hft _ oM,by omega,?_,fun i hi=>?_⟩
    · have h1:=aD (xs:=ts) (i:=k+j) oM ((c+(xs.getD k 0*ys.getD j 0+ts.getD (k+j) 0))%4294967296)
      have e:=Nat.div_add_mod (c+(xs.getD k 0*ys.getD j 0+ts.getD (k+j) 0)) 4294967296
      have e2:(2:Nat)^32=4294967296:=rfl
      rw[uD ys j oM,e2]
      have ep:(4294967296:Nat)^(k+(j+1))=4294967296^k*4294967296^j*4294967296:=by rw[←Nat.add_assoc,Nat.pow_succ,Nat.pow_add]
      rw[ep]
      rw[Nat.pow_add] at h1 htv
      generalize (c+(xs.getD k 0*ys.getD j 0+ts.getD (k+j) 0))/4294967296=q at *
      generalize (c+(xs.getD k 0*ys.getD j 0+ts.getD (k+j) 0))%4294967296=r at *
      grind
    · rw[qC oM];exact htz i hi
   omega
  refine go9 ?_
  refine gv (wP underlying22 rfl hv') rfl ?_
  refine go3 ?_
  refine gv (yP (A:=[]) (k+ys.length) underlying22 sizeOf127 rfl rfl oM oM) rfl (xZ sizeOf127 rfl rfl oM ?_)
  refine go8 ?_
  refine gqL (k+1,ts.set (k+ys.length) (c%4294967296)) ?_ ?_
  ·
   have hj:j=ys.length:=by omega
   subst hj
   refine⟨by omega,by simp[hts],aL hft _ oM,?_,fun i hi=>?_⟩
   · have h1:=aD (xs:=ts) (i:=k+ys.length) oM (c%4294967296)
     rw[htz _ (Nat.le_refl _)] at h1
     rw[xK (Nat.le_refl _)] at htv
     rw[Nat.mod_eq_of_lt hcb] at h1 ⊢
     rw[uD xs k oM]
     grind
   · rw[qC oM];exact htz i oM
  omega
 refine go8 ?_
 refine yG (by exact hfo) ?_
 intro h1 hh1 ho
 refine cL (ev1 rfl) call91 (fun w hs=>fE hs ho oM) fun v66 h2 hh2 hr66=>?_
 refine go4 ?_
 refine zD rfl rfl ?_
 rw[hval,xK oM] at hr66
 exact hr66
theorem zNY{w0:World}{h0:Mem}(hs:MLe h0 (mem w0)){v:Value}{X d:Nat}(hv:Us .u32 h0 v (zB X))(hd:d<4294967296)(hl:(zB X).length≤1099511627776):
    Calls Tryz.prog 142 #[v,vU .u32 d] w0 (Ret w0 h0 (fun h r=>Us .u32 h r (zB (X*d)))):=by
 refine cb2 10 v (vU .u32 d) func142 hs ?_
 refine vO ?_
 refine cL (ev1 rfl) call131 (fun w hs=>iT hs oM) fun v8 h1 hh1 hr8=>?_
 have hdl:=kC (n:=d) oM
 replace hv:=hv.mono hh1
 refine cL (ev2 rfl rfl) call47 (fun w hs=>rX hs hv hr8 oM oM) fun v9 h2 hh2 hr9=>?_
 simp only[zC] at hr9
 refine go4 ?_
 refine zD rfl rfl ?_
 exact hr9
end Go.Proofs.YtboaboflnckgoaaGreat
namespace Go.Proofs.YtboaboflnckgoaaGreat
open Bk Go Tryz
set_option linter.unusedVariables false
set_option linter.unusedSimpArgs false
set_option maxRecDepth 10000
set_option maxHeartbeats 1000000
attribute [local irreducible] GL GC GQ W OpV
end Go.Proofs.YtboaboflnckgoaaGreat
namespace Go.Proofs.YtboaboflnckgoaaGreat
open Bk Go Tryz
set_option linter.unusedVariables false
set_option linter.unusedSimpArgs false
set_option maxRecDepth 10000
set_option maxHeartbeats 1000000
attribute [local irreducible] GL GC GQ W OpV
theorem zCI{w0:World}{h0:Mem}(hs:MLe h0 (mem w0)){v:Value}{xs:List Nat}{b:Nat}(hv:Us .u32 h0 v xs)(hb:0<b)(hb':b<4294967296)(hl:xs.length≤1099511627776):
    Calls Tryz.prog 138 #[v,vU .u32 b] w0 (Ret w0 h0 (fun h r=>∃u,r=.tuple #[u,vU .u32 (val xs%b)]∧Us .u32 h u (zB (val xs/b)))):=by
 have hf:Fit xs:=hv.lt
 refine cb2 43 v (vU .u32 b) func138 hs ?_
 refine go3 ?_
 refine asg (v:=vU .u32 0) rfl rfl ?_
 refine go6 ?_
 refine qJ (kd:=.u32) (by':=4) _ underlying22 wK rfl rfl rfl rfl rfl rfl rfl oM oM rfl ?_
 intro v11
 refine go5 ?_
 refine asg (v:=vU .u64 0) rfl rfl ?_
 refine uN ?_
 refine vC (ι:=Nat×List Nat×Nat) (fun(j,qs,r)=>j≤xs.length∧qs.length=xs.length-j∧Fit qs∧r<b∧val (xs.drop j)=b*val qs+r) (fun(j,qs,r)=>[(0,v),(1,vU .u32 b),(6,v11),(7,vU .u64 r),(8,vI (↑j-1))]) (fun(j,qs,r)=>[.us 127 .u32 v11 (kS j qs)]) (fun(j,qs,r)=>h0) (fun(j,qs,r)=>j) (xs.length,[],0) ?_ e5 ?_ rfl ?_
 ·
  exact⟨Nat.le_refl _,by simp,fun x hx=>by simp at hx,hb,by rw[List.drop_of_length_le (Nat.le_refl _)];rfl⟩
 ·
  try dsimp only[List.nil_append,List.cons_append]
  exact congrArg (fun z=>[Res.us 127 .u32 v11 z]) (bU _)
 intro x hx
 obtain⟨j,qs,r⟩:=x
 obtain⟨hj,hql,hfq,hr,hval⟩:=hx
 refine yS ?_
 refine go7 ?_
 refine cnd (fun hc16=>?_) fun hc16=>?_
 ·
  refine go7 ?_
  refine gv (kJ (k:=.u64) (s:=32) (yk:=.u64) (W:=18446744073709551616) rfl rfl rfl rfl) rfl ?_
  refine go2 ?_
  refine gv (zO (j-1) underlying22 sizeOf127 rfl rfl hv oM oM) rfl ?_
  refine go1 ?_
  have hx1:=hv.get32 (j-1)
  refine go1 ?_
  refine gv (tF (k:=.u64) rfl rfl rfl (by simp only[ub];omega) (by simp only[ub];omega)) rfl ?_
  rw[rB oM hx1]
  generalize ht:r*4294967296+xs.getD (j-1) 0=t at *
  have hq:t/b<4294967296:=Nat.div_lt_of_lt_mul (by rw[←ht];have h1:(r+1)*4294967296≤b*4294967296:=Nat.mul_le_mul_right _ hr;omega)
  refine vO ?_
  refine gv (pL (k:=.u64) (W:=18446744073709551616) rfl rfl rfl rfl oM oM) rfl (gv (wQ (k:=.u64) (k':=.u32) (W:=4294967296) underlying130 underlying127 rfl rfl rfl oM) rfl (gv (yP (A:=[]) (j-1) underlying22 sizeOf127 rfl rfl oM (by rw[qQ];omega)) rfl (xZ sizeOf127 rfl rfl (by rw[qQ];omega) ?_)))
  refine go6 ?_
  refine gv (pK (k:=.u64) rfl rfl oM) rfl ?_
  refine go9 ?_
  refine yQ (j-1,t/b::qs,t%b) ?_ ?_ ⟨rfl,rfl,rfl,rfl,?_,trivial⟩ ?_ rfl
  ·
   refine⟨by omega,by simp only[lC];omega,tY.2 ⟨hq,hfq⟩,Nat.mod_lt _ hb,?_⟩
   rw[jH xs (j-1) oM,show j-1+1=j by omega,val]
   exact zCA hval ht.symm rfl rfl
  ·
   dsimp only
   omega
  · exact congrArg some (congrArg vI oM)
  try dsimp only[List.nil_append,List.cons_append]
  rw[bT oM]
 refine go8 ?_
 have hj0:j=0:=by omega
 subst hj0
 rw[pT]
 refine yG (by exact hfq) ?_
 intro h1 hh1 ho
 refine cL (ev1 rfl) call91 (fun w hs=>fE hs ho oM) fun v40 h2 hh2 hr40=>?_
 refine go1 ?_
 refine gv (wQ (k:=.u64) (k':=.u32) (W:=4294967296) underlying130 underlying127 rfl rfl rfl oM) rfl ?_
 refine go5 ?_
 refine vT rfl rfl rfl ?_
 simp only[List.drop_zero] at hval
 have e1:val xs/b=val qs:=by rw[hval,Nat.mul_add_div hb,Nat.div_eq_of_lt hr];omega
 have e2:val xs%b=r:=by rw[hval,Nat.mul_add_mod,Nat.mod_eq_of_lt hr]
 rw[e1,e2]
 exact⟨_,rfl,hr40⟩
theorem zCH{w0:World}{h0:Mem}(hs:MLe h0 (mem w0)){v:Value}{X:Nat}(hv:Us .u32 h0 v (zB X))(hl:(zB X).length≤1099511627776):
    Calls Tryz.prog 197 #[v] w0 (Ret w0 h0 (fun _ r=>r=.string (uV (txt X)))):=by
 have hcl:=zJA (xR X)
 rw[zC] at hcl
 refine cb1 65 v func197 hs ?_
 refine sL ?_
 refine cnd (fun hc11=>?_) fun hc11=>?_
 ·
  have hz0:(zB X).length=0:=by omega
  refine go7 ?_
  refine zD rfl rfl ?_
  have e:X=0:=Classical.byContradiction fun hne=>by have:=yK.2 hne;omega
  rw[e];rfl
 have hnz:(zB X).length≠0:=by omega
 refine go4 ?_
 refine mF (tH (v:=.slice none 0 0) rfl) rfl rfl rfl (zAS (E:=5) (k:=.u8) ?_)
 refine go4 ?_
 refine vC (ι:=Value×Nat×Value×List Nat×Mem) (fun(va,n,vo,ds,hm1)=>MLe h0 hm1∧(Us .u32 hm1 va (zB n)∧n≤X∧ds++eY n=eY (X))) (fun(va,n,vo,ds,hm1)=>[(0,va),(3,vo)]) (fun(va,n,vo,ds,hm1)=>[.us 5 .u8 vo ds]) (fun(va,n,vo,ds,hm1)=>hm1) (fun(va,n,vo,ds,hm1)=>n) (v,X,.slice none 0 0,[],h0) ?_ e2z rfl rfl ?_
 ·
  refine⟨MLe.refl _,?_⟩
  exact⟨hv,Nat.le_refl _,rfl⟩
 intro x hx
 obtain⟨va,n,vo,ds,hm1⟩:=x
 obtain⟨hmhm1,⟨ha,hnle,hds⟩⟩:=hx
 refine yS ?_
 have hlln:(zB n).length≤(zB X).length:=zM hnle
 refine go8 ?_
 refine cnd (fun hc14=>?_) fun hc14=>?_
 ·
  refine go6 ?_
  refine cL (vs:=[_,vU .u32 1000000000]) e2z call138 (fun w hs=>zCI hs ha oM oM oM) fun v17 h1 hh1 hr17=>?_
  obtain⟨u17,rfl,hu17⟩:=hr17
  rw[zC] at hu17 ⊢
  refine tV ?_
  refine vC (ι:=Nat×Nat×Value×List Nat×Mem) (fun(i,x,vo2,ds2,hm2)=>MLe h1 hm2∧(i≤9∧x<10^(9-i)∧ds2++eY (x+10^(9-i)*(n/1000000000))=eY (X))) (fun(i,x,vo2,ds2,hm2)=>[(3,vo2),(4,u17),(5,vU .u32 x),(6,vI ↑i)]) (fun(i,x,vo2,ds2,hm2)=>[.us 5 .u8 vo2 ds2]) (fun(i,x,vo2,ds2,hm2)=>hm2) (fun(i,x,vo2,ds2,hm2)=>9-i) (0,n%1000000000,vo,ds,h1) ?_ e4z rfl rfl ?_
  ·
   refine⟨MLe.refl _,?_⟩
   exact⟨by omega,by omega,by rw[←hds];congr 2;omega⟩
  intro x hx
  obtain⟨i,x,vo2,ds2,hm2⟩:=x
  obtain⟨hmhm2,⟨hi,hxb,hds2⟩⟩:=hx
  refine yS ?_
  have hxm:x<4294967296:=Nat.lt_of_lt_of_le hxb (Nat.le_trans (Nat.pow_le_pow_right oM (show 9-i≤9 by omega)) dC)
  refine go5 ?_
  refine gU 9 30 (vB (((i:Int)<9)∧(0<x∨(0:Int)<↑(zB (n/1000000000)).length))) ?_ ?_
  ·
   refine yB ((i:Int)<9) (fun hg=>?_) (fun hg=>?_)
   ·
    refine gT hg rfl ?_
    refine go3 ?_
    refine gv (lP (k:=.u32) (q:=0) rfl rfl) rfl ?_
    refine gU 5 29 (vB ((0<x)∨((0:Int)<↑(zB (n/1000000000)).length))) ?_ ?_
    ·
     refine yB (0<x) (fun hg=>?_) (fun hg=>?_)
     ·
      refine go1 ?_
      refine gT hg rfl ?_
      refine go6 ?_
      refine gqU ?_
      exact congrArg some (uA hg)
     refine go1 ?_
     refine gF hg rfl ?_
     replace hu17:=hu17.mono hmhm2
     refine go9 ?_
     refine gqU ?_
     exact congrArg some (uC hg)
    refine go2 ?_
    refine gqU ?_
    exact congrArg some (xM hg)
   refine gF hg rfl ?_
   refine go9 ?_
   refine gqU ?_
   exact congrArg some (xN hg)
  refine go2 ?_
  refine cnd (fun hc30=>?_) fun hc30=>?_
  ·
   have hdl2:ds2.length≤(eY (X)).length:=by rw[←hds2];simp
   refine go8 ?_
   refine gv (pK (k:=.u32) (q:=10) rfl rfl oM) rfl (gv (fW (k:=.u32) (p:=48) (W:=4294967296) rfl rfl rfl rfl oM) rfl (gv (wQ (k:=.u32) (k':=.u8) (W:=256) underlying127 underlying5 rfl rfl rfl oM) rfl (zF (kQ (kd:=.u8) underlying212 zMV rfl rfl rfl) rfl rfl rfl ?_)))
   intro v38 r38 hr38
   obtain rfl:=hr38
   refine yG (by intro z hz;simp only[List.mem_singleton] at hz;subst hz;simp only[ub];omega) ?_
   intro h2 hh2 hch
   refine xS (A:=[]) (jF (kd:=.u8) (bytes:=1) underlying212 zMV rfl rfl rfl rfl rfl hch (by simp only[List.length_singleton];omega) (by simp only[List.length_singleton];omega)) rfl rfl rfl ?_
   intro v39 r39 hr39
   obtain rfl:=hr39
   refine go5 ?_
   refine gv (pL (k:=.u32) (q:=10) (W:=4294967296) rfl rfl rfl rfl oM oM) rfl ?_
   refine go9 ?_
   refine yQ (i+1,x/10,v39,ds2++[48+x%10],h2) ?_ ?_ e4z rfl rfl
   ·
    refine⟨(hmhm2.trans hh2),?_⟩
    obtain⟨h9,hor⟩:=hc30
    obtain⟨k,hk⟩:∃k,9-i=k+1:=⟨8-i,by omega⟩
    have hln:=yK (n:=n/1000000000)
    refine⟨by omega,?_,?_⟩
    · rw[show 9-(i+1)=k by omega]
      rw[hk,Nat.pow_succ] at hxb
      omega
    · rw[show 9-(i+1)=k by omega]
      rw[hk,zO4 oM] at hds2
      rw[List.append_assoc]
      exact hds2
   dsimp only
   omega
  refine vO ?_
  refine yQ (u17,n/1000000000,vo2,ds2,hm2) ?_ ?_ e2z rfl rfl
  ·
   refine⟨((hmhm1.trans hh1).trans hmhm2),?_⟩
   replace hu17:=hu17.mono hmhm2
   refine⟨hu17,by omega,?_⟩
   rw[←hds2]
   congr 2
   by_cases h9:i=9
   · subst h9;simp at hxb ⊢;omega
   · have h1:¬(0<x∨(0:Int)<↑(zB (n/1000000000)).length):=fun h=>hc30 ⟨by omega,h⟩
     have h2:n/1000000000=0:=Classical.byContradiction fun hne=>h1 (.inr (by have:=yK.2 hne;omega))
     rw[h2,show x=0 by omega,Nat.mul_zero]
  dsimp only
  have:=yK (n:=n);omega
 have hn0:n=0:=Classical.byContradiction fun hne=>hc14 (by have:=yK.2 hne;omega)
 subst hn0
 rw[zFI,List.append_nil] at hds
 have hdl0:ds.length≤10*(zB X).length:=by rw[hds];exact hcl
 refine go8 ?_
 refine gv (gV (A:=[]) underlying212 rfl) rfl (qJ (kd:=.u8) (by':=1) (ds.length) underlying212 zMV rfl rfl rfl rfl rfl oM oM oM oM rfl ?_)
 intro v45
 refine vO ?_
 refine vC (ι:=Nat) (fun(k:(Nat))=>k≤ds.length) (fun(k:(Nat))=>[(3,vo),(7,v45),(8,vI ↑k)]) (fun(k:(Nat))=>[.us 5 .u8 v45 (kS (ds.length-k) (ds.take k).reverse),.us 5 .u8 vo ds]) (fun(k:(Nat))=>hm1) (fun(k:(Nat))=>ds.length-k) 0 ?_ e3z ?_ rfl ?_
 ·
  exact Nat.zero_le _
 ·
  try dsimp only[List.nil_append,List.cons_append]
  exact congrArg (fun z=>[Res.us 5 .u8 v45 z,Res.us 5 .u8 vo ds]) (bU _)
 intro k hx
 obtain hk:=hx
 refine yS ?_
 refine go5 ?_
 refine gv (gV (A:=[_]) underlying212 rfl) rfl ?_
 refine go3 ?_
 refine cnd (fun hc49=>?_) fun hc49=>?_
 ·
  refine go7 ?_
  refine gv (gV (A:=[_]) underlying212 rfl) rfl ?_
  refine go5 ?_
  refine gv (yP (A:=[_]) (k) underlying212 sizeOf5 rfl rfl oM oM) rfl (gv (kL (A:=[_]) isAgg5 rfl oM) rfl (gv (yP (A:=[]) (ds.length-k-1) underlying212 sizeOf5 rfl rfl oM (by rw[qQ,List.length_reverse,List.length_take];omega)) rfl (xZ sizeOf5 rfl rfl (by rw[qQ,List.length_reverse,List.length_take];omega) ?_)))
  refine go8 ?_
  refine yQ (k+1) ?_ ?_ e3z ?_ rfl
  ·
   omega
  ·
   omega
  try dsimp only[List.nil_append,List.cons_append]
  rw[bT oM,eG ds k oM,List.reverse_append,List.reverse_singleton,List.singleton_append,Nat.sub_sub]
 refine go8 ?_
 have hk2:k=ds.length:=by omega
 rw[hk2,Nat.sub_self,pT,List.take_length]
 refine yG (by intro z hz;rw[hds] at hz;exact zM9 _ z (List.mem_reverse.1 hz)) ?_
 intro h1 hh1 hfin
 refine gv (zF7 underlying212 underlying5 underlying9 rfl hfin) rfl ?_
 refine go4 ?_
 refine zD rfl rfl ?_
 have e:X≠0:=yK.1 oM
 rw[txt,if_neg e,←hds]
end Go.Proofs.YtboaboflnckgoaaGreat
namespace Go.Proofs.YtboaboflnckgoaaGreat
open Bk Go Tryz
set_option linter.unusedVariables false
set_option linter.unusedSimpArgs false
set_option maxRecDepth 10000
set_option maxHeartbeats 1000000
attribute [local irreducible] GL GC GQ W OpV
set_option maxHeartbeats 1000000 in
theorem lW{w0:World}{h0:Mem}(hs:MLe h0 (mem w0)){v:Value}{xs:List Nat}{n:Int}(hv:Us .u32 h0 v xs)(hn:-9223372036854775808≤n)(hn':n<9223372036854775808)(hl:xs.length≤1099511627776):
    Calls Tryz.prog 95 #[v,vI n] w0 (Ret w0 h0 (fun h r=>∃u,r=.tuple #[u,vI (shE n)]∧Us .u32 h u (zB (shN (val xs) n)))):=by
 have hlx:=wR hv.lt
 refine cb2 79 v (vI n) func95 hs ?_
 refine go9 ?_
 refine cL (ev1 rfl) call144 (fun w hs=>uS hs hv) fun v10 h1 hh1 hr10=>?_
 replace hr10:=hr10.2
 refine uN ?_
 refine cnd (fun hc11=>?_) fun hc11=>?_
 ·
  refine go9 ?_
  refine vT rfl rfl rfl ?_
  rw[shE,if_pos oM,shN,if_pos oM,yR]
  exact⟨_,rfl,Us.nil _ _⟩
 refine go7 ?_
 refine cnd (fun hc14=>?_) fun hc14=>?_
 ·
  obtain⟨N,hN⟩:∃N:Nat,n=↑N:=⟨n.toNat,by omega⟩
  have hN2:N≤16384:=by omega
  refine go1 ?_
  refine gD 11 ((0,.q)::(1,.q)::(qq 3 3 [(2,.b 6),(7,.c),(8,.c),(9,.q),(10,.q)])) (by kernel_rfl) ?_
  refine go1 ?_
  refine xJ rfl (fun _ _=>lK (q:=32) rfl rfl oM oM oM) rfl ?_
  rw[show n/32=↑(N/32) by omega]
  refine go2 ?_
  refine xJ rfl (fun _ _=>vX (q:=32) rfl rfl oM oM) rfl ?_
  rw[show n%32=↑(N%32) by omega]
  refine w_b rfl rfl ?_ ?_
  ·
   refine kU (fun X=>oV (kd:=.u32) (by':=4) (N/32) underlying22 wK rfl rfl rfl rfl rfl oM oM oM oM) rfl ?_
   intro v19 r19 hr19
   obtain rfl:=hr19
   refine rS (vs:=[_,_]) call146 e2z (fun w hs=>eQ hs hr10 oM oM) rfl ?_
   intro v23 h2 L23 hh2 hr23
   obtain⟨us23,rfl,hul23,huf23,huv23⟩:=hr23
   refine w_c rfl (pG (A:=[]) (by exact huf23) (by simp) ?_)
   intro h3 hh3 hrz
   refine sR (A:=[]) (fun X=>jF (kd:=.u32) (bytes:=4) underlying22 wK rfl rfl rfl rfl rfl hrz (by rw[lR];omega) (by rw[lR];omega)) rfl (by simp) ?_
   intro v24 r24 hr24
   obtain rfl:=hr24
   refine w_c rfl (pG (A:=[]) (by exact wY (qD _) huf23) (by simp) ?_)
   intro h4 hh4 hcat
   refine sC (ev1 rfl) call144 (fun w hs=>uS hs hcat) fun v25 h5 hh5 hr25=>?_
   replace hr25:=hr25.2
   refine go1 ?_
   refine zDZ (v:=vI (0)) rfl rfl rfl ?_
   refine go5 ?_
   refine vT rfl rfl rfl ?_
   rw[sE,fI,lR,huv23,zC,aU,Nat.zero_add,show 32*(N/32)+N%32=n.toNat by omega] at hr25
   rw[shE,if_neg oM,zFV oM oM]
   exact⟨_,rfl,hr25⟩
  refine rS (vs:=[_,_]) call146 e2z (fun w hs=>eQ hs hr10 oM oM) rfl ?_
  intro v23 h2 L23 hh2 hr23
  obtain⟨us23,rfl,hul23,huf23,huv23⟩:=hr23
  refine kU (fun X=>oV (kd:=.u32) (by':=4) (N/32) underlying22 wK rfl rfl rfl rfl rfl oM oM oM oM) rfl ?_
  intro v19 r19 hr19
  obtain rfl:=hr19
  refine w_c rfl (pG (A:=[_]) (by exact huf23) (by simp) ?_)
  intro h3 hh3 hrz
  refine sR (A:=[]) (fun X=>jF (kd:=.u32) (bytes:=4) underlying22 wK rfl rfl rfl rfl rfl hrz (by rw[lR];omega) (by rw[lR];omega)) rfl (by simp) ?_
  intro v24 r24 hr24
  obtain rfl:=hr24
  refine w_c rfl (pG (A:=[]) (by exact wY (qD _) huf23) (by simp) ?_)
  intro h4 hh4 hcat
  refine sC (ev1 rfl) call144 (fun w hs=>uS hs hcat) fun v25 h5 hh5 hr25=>?_
  replace hr25:=hr25.2
  refine go1 ?_
  refine zDZ (v:=vI (0)) rfl rfl rfl ?_
  refine go5 ?_
  refine vT rfl rfl rfl ?_
  rw[sE,fI,lR,huv23,zC,aU,Nat.zero_add,show 32*(N/32)+N%32=n.toNat by omega] at hr25
  rw[shE,if_neg oM,zFV oM oM]
  exact⟨_,rfl,hr25⟩
 obtain⟨M,hM⟩:∃M:Nat,n= -↑M:=⟨(-n).toNat,by omega⟩
 refine go5 ?_
 refine gv (bJ (p:=-32) rfl rfl oM oM) rfl ?_
 refine go4 ?_
 refine cnd (fun hc26=>?_) fun hc26=>?_
 ·
  refine go9 ?_
  refine vT rfl rfl rfl ?_
  rw[shE,if_neg oM,zCB oM,g8 oM,yR]
  exact⟨_,rfl,Us.nil _ _⟩
 have hMl:M<32*(zB (val xs)).length:=by omega
 refine go7 ?_
 refine gv (lM rfl oM oM) rfl (gv (lK (q:=32) rfl rfl oM oM oM) rfl ?_)
 rw[show -n/32=↑(M/32) by omega]
 refine gv (qH (M/32) underlying22 sizeOf127 rfl rfl hr10.shape oM oM) rfl ?_
 have hsl36:=hr10.sub (lo:=M/32) (hi:=(zB (val xs)).length) oM oM
 rw[List.take_of_length_le (by rw[List.length_drop];omega)] at hsl36
 have hdl:(List.drop (M/32) (zB (val xs))).length=(zB (val xs)).length-M/32:=List.length_drop
 refine qU (vs:=[_]) rfl rfl rfl rfl call103 ⟨rfl,trivial⟩ (fun w hs=>pE hs hsl36 oM) ?_
 intro v37 h2 L37 hh2 hr37
 obtain rfl:=hr37
 refine go1 ?_
 have hRf:Fit (List.drop (M/32) (zB (val xs))):=nF (xR _) _
 have hRv:=jD (xR (val xs)) (M/32)
 rw[zC] at hRv
 generalize List.drop (M/32) (zB (val xs))=Rs at *
 refine go5 ?_
 refine gv (lM rfl oM oM) rfl (gv (vX (q:=32) rfl rfl oM oM) rfl ?_)
 obtain⟨s,hsd⟩:∃s,s=M%32:=⟨_,rfl⟩
 rw[show -n%32=↑s by omega]
 have hs32:s<32:=by omega
 refine go7 ?_
 refine gv (gV (A:=[]) underlying22 rfl) rfl ?_
 refine go4 ?_
 refine vC (ι:=Nat) (fun(k:(Nat))=>k≤Rs.length) (fun(k:(Nat))=>[(6,v37),(7,vI ↑s),(42,vI ↑Rs.length),(43,vI ↑k)]) (fun(k:(Nat))=>[.us 127 .u32 v37 (oD s Rs k)]) (fun(k:(Nat))=>h2) (fun(k:(Nat))=>Rs.length-k) 0 ?_ e4z ?_ rfl ?_
 ·
  exact Nat.zero_le _
 ·
  try dsimp only[List.nil_append,List.cons_append]
  exact congrArg (fun z=>[Res.us 127 .u32 v37 z]) (zEL s Rs)
 intro k hx
 obtain hk:=hx
 refine yS ?_
 refine go6 ?_
 refine cnd (fun hc44=>?_) fun hc44=>?_
 ·
  refine go2 ?_
  refine qK (ι:=Unit) (fun(_u:(Unit))=>True) (fun(_u:(Unit))=>[(6,v37),(7,vI ↑s),(42,vI ↑Rs.length),(43,vI ↑k)]) (fun(_u:(Unit))=>[.us 127 .u32 v37 (oD s Rs (k+1))]) (fun(_u:(Unit))=>h2) ?_ ?_
  ·
   refine uP ?_
   refine gv (yP (A:=[]) (k) underlying22 sizeOf127 rfl rfl oM (by rw[uG oM];omega)) rfl (gv (kL (A:=[]) isAgg127 rfl (by rw[uG oM];omega)) rfl ?_)
   rw[z6 (Nat.le_refl _)]
   have hgr:=uX hRf k
   refine go1 ?_
   refine gv (kI (k:=.u32) (s:=s) (yk:=.i64) rfl rfl rfl (by simp only[ub];omega)) rfl ?_
   have hq1:Rs.getD k 0/2^s<4294967296:=Nat.lt_of_le_of_lt (Nat.div_le_self _ _) hgr
   refine gv (yP (A:=[]) (k) underlying22 sizeOf127 rfl rfl oM (by rw[uG oM];omega)) rfl (xZ sizeOf127 rfl rfl (by rw[uG oM];omega) ?_)
   refine go6 ?_
   refine gU 7 61 (vB (((0:Int)<↑s)∧((↑k:Int)+1<↑Rs.length))) ?_ ?_
   ·
    refine yB ((0:Int)<↑s) (fun hg=>?_) (fun hg=>?_)
    ·
     refine gT hg rfl ?_
     refine go7 ?_
     refine gv (gV (A:=[]) underlying22 rfl) rfl ?_
     rw[lS,uG oM]
     refine go4 ?_
     refine gqU ?_
     exact congrArg some (xM hg)
    refine gF hg rfl ?_
    refine go7 ?_
    refine gqU ?_
    exact congrArg some (xN hg)
   refine go2 ?_
   refine cnd (fun hc61=>?_) fun hc61=>?_
   ·
    refine gD 14 (qq 0 14 [(14,.t)]) (by kernel_rfl) ?_
    refine go2 ?_
    refine w_q rfl (fun h' L' hh hR=>qP (hR _ mh0) (k) underlying22 sizeOf127 rfl rfl oM (by rw[lS,uG oM];omega)) rfl (w_q rfl (fun h' L' hh hR=>kK (hR _ mh0) isAgg127 rfl (by rw[lS,uG oM];omega)) rfl ?_)
    rw[iK (by rw[uG oM];omega)]
    refine go3 ?_
    refine w_q rfl (fun h' L' hh hR=>qP (hR _ mh0) (k+1) underlying22 sizeOf127 rfl rfl oM (by rw[lS,uG oM];omega)) rfl (w_q rfl (fun h' L' hh hR=>kK (hR _ mh0) isAgg127 rfl (by rw[lS,uG oM];omega)) rfl ?_)
    rw[qC oM,z6 oM]
    refine go1 ?_
    refine xJ rfl (fun _ _=>qW (p:=32) rfl rfl oM oM) rfl ?_
    rw[show((32:Int)-↑s)=↑(32-s) by omega]
    refine xJ rfl (fun _ _=>kJ (k:=.u32) (s:=32-s) (yk:=.i64) (W:=4294967296) rfl rfl rfl rfl) rfl (xJ rfl (fun _ _=>tF (k:=.u32) rfl rfl rfl (by simp only[ub];omega) (by simp only[ub];omega)) rfl ?_)
    rw[zL0 hRf oM oM]
    refine w_q rfl (fun h' L' hh hR=>qP (hR _ mh0) (k) underlying22 sizeOf127 rfl rfl oM (by rw[lS,uG oM];omega)) rfl (kV (A:=[]) rfl (aP sizeOf127 rfl rfl (by rw[lS,uG oM];omega)) rfl ?_)
    refine go2 ?_
    refine zN (()) ?_ e4z ?_ rfl
    ·
     trivial
    try dsimp only[List.nil_append,List.cons_append]
    rw[List.set_set,z5 oM]
    try rfl
   refine go2 ?_
   have hlast:Rs.getD k 0/2^s=mT s Rs k:=by
     by_cases h0:s=0
     · rw[h0,zEM hRf oM,Nat.pow_zero,Nat.div_one]
     · exact(zEN hRf oM).symm
   refine zN (()) ?_ e4z ?_ rfl
   ·
    trivial
   try dsimp only[List.nil_append,List.cons_append]
   rw[hlast,z5 oM]
  intro _u hx
  obtain hcut:=hx
  refine yS ?_
  refine go4 ?_
  refine yQ (k+1) ?_ ?_ e4z rfl rfl
  ·
   omega
  omega
 refine go8 ?_
 have hlR:Rs.length≤1099511627776:=by omega
 refine yG (by exact zIX hRf) ?_
 intro h3 hh3 hrr
 refine cL (ev1 rfl) call144 (fun w hs=>uS hs hrr) fun v78 h4 hh4 hr78=>?_
 replace hr78:=hr78.2
 refine go5 ?_
 refine vT rfl rfl rfl ?_
 have hkR:k=Rs.length:=by omega
 rw[hkR,zG2 hRf,hRv,iL,show 32*(M/32)+s=(-n).toNat by omega] at hr78
 rw[shE,if_neg oM,zCB oM]
 exact⟨_,rfl,hr78⟩
theorem zQI{w0:World}{h0:Mem}(hs:MLe h0 (mem w0)){v:Value}{X n:Nat}(hv:Us .u32 h0 v (zB X))(hn:n≤16384)(hl:(zB X).length≤1099511627776):
    Calls Tryz.prog 140 #[v,vI ↑n] w0 (Ret w0 h0 (fun h r=>Us .u32 h r (zB (X*2^n)))):=by
 obtain⟨s,hsd⟩:∃s,s=n%32:=⟨_,rfl⟩
 have hp:2^s≤2147483648:=Nat.pow_le_pow_right (n:=2) oM (show s≤31 by omega)
 have hp0:0<2^s:=Nat.pow_pos oM
 refine cb2 40 v (vI ↑n) func140 hs ?_
 refine go8 ?_
 refine gv (lK (q:=32) rfl rfl oM oM oM) rfl (qJ (kd:=.u32) (by':=4) (n/32) underlying22 wK rfl rfl rfl rfl rfl oM oM oM oM rfl ?_)
 intro v10
 refine go5 ?_
 refine asg (v:=vU .u64 0) rfl rfl ?_
 refine go9 ?_
 refine vC (ι:=Value×List Nat×Nat×Mem) (fun(vo,ss,c,k1)=>MLe h0 k1∧(ss.length≤(zB X).length∧Fit ss∧c<2^s∧val ss+4294967296^ss.length*c=val ((zB X).take ss.length)*2^s)) (fun(vo,ss,c,k1)=>[(0,v),(1,vI ↑n),(5,vo),(6,vU .u64 c),(7,vI ↑ss.length)]) (fun(vo,ss,c,k1)=>[.us 127 .u32 vo (List.replicate (n/32) 0++ss)]) (fun(vo,ss,c,k1)=>k1) (fun(vo,ss,c,k1)=>(zB X).length-ss.length) (v10,[],0,h0) ?_ e5 ?_ rfl ?_
 ·
  refine⟨MLe.refl _,?_⟩
  exact⟨by simp,fun x hx=>by simp at hx,hp0,by simp[val]⟩
 ·
  try dsimp only[List.nil_append,List.cons_append]
  rw[List.append_nil]
 intro x hx
 obtain⟨vo,ss,c,k1⟩:=x
 obtain⟨hmk1,⟨hss,hfs,hc,hval⟩⟩:=hx
 refine yS ?_
 replace hv:=hv.mono hmk1
 refine go9 ?_
 refine cnd (fun hc14=>?_) fun hc14=>?_
 ·
  refine go9 ?_
  refine gv (zO (ss.length) underlying22 sizeOf127 rfl rfl hv oM oM) rfl ?_
  refine go1 ?_
  have hx1:=hv.get32 ss.length
  have hxs:(zB X).getD ss.length 0*2^s<18446744073709551616-4294967296:=by
    have:=Nat.mul_le_mul (show(zB X).getD ss.length 0≤4294967295 by omega) hp
    omega
  refine go2 ?_
  refine gv (vX (q:=32) rfl rfl oM oM) rfl ?_
  rw[show(↑n:Int)%32=↑s by omega]
  refine gv (kJ (k:=.u64) (s:=s) (yk:=.i64) (W:=18446744073709551616) rfl rfl rfl rfl) rfl ?_
  rw[Nat.mod_eq_of_lt oM]
  refine gv (tF (k:=.u64) rfl rfl rfl (by simp only[ub];omega) (by simp only[ub];omega)) rfl ?_
  rw[zKK hc]
  refine go8 ?_
  refine zF (kQ (kd:=.u32) underlying22 wK rfl rfl rfl) rfl rfl rfl ?_
  intro v30 r30 hr30
  obtain rfl:=hr30
  refine yG (by intro z hz;simp only[List.mem_singleton] at hz;subst hz;simp only[ub];omega) ?_
  intro h1 hh1 hch
  refine xS (A:=[]) (jF (kd:=.u32) (bytes:=4) underlying22 wK rfl rfl rfl rfl rfl hch (by simp only[List.length_singleton,lAz,lR];omega) (by simp only[List.length_singleton,lAz,lR];omega)) rfl rfl rfl ?_
  intro v31 r31 hr31
  obtain rfl:=hr31
  refine j5 ?_
  refine yQ (v31,ss++[((zB X).getD ss.length 0*2^s+c)%4294967296],((zB X).getD ss.length 0*2^s+c)/2^32,h1) ?_ ?_ ⟨rfl,rfl,rfl,rfl,?_,trivial⟩ ?_ rfl
  ·
   refine⟨(hmk1.trans hh1),?_⟩
   refine⟨by simp;omega,wY hfs (cS oM),?_,?_⟩
   · refine Nat.div_lt_of_lt_mul ?_
     have:=Nat.mul_le_mul_right (2^s) (show(zB X).getD ss.length 0+1≤2^32 by omega)
     rw[Nat.add_mul] at this
     omega
   · have e:=Nat.div_add_mod ((zB X).getD ss.length 0*2^s+c) 4294967296
     have e2:(2:Nat)^32=4294967296:=rfl
     rw[lAz,List.length_singleton,uD (zB X) _ oM,tP,Nat.pow_succ,e2]
     generalize ((zB X).getD ss.length 0*2^s+c)/4294967296=q at *
     generalize ((zB X).getD ss.length 0*2^s+c)%4294967296=r at *
     grind
  ·
   dsimp only
   simp;omega
  · exact congrArg some (congrArg vI (by simp))
  try dsimp only[List.nil_append,List.cons_append]
  rw[List.append_assoc]
 refine vO ?_
 refine zF (kQ (kd:=.u32) underlying22 wK rfl rfl rfl) rfl rfl rfl ?_
 intro v37 r37 hr37
 obtain rfl:=hr37
 refine yG (by intro z hz;simp only[List.mem_singleton] at hz;subst hz;simp only[ub];omega) ?_
 intro h1 hh1 hch2
 refine xS (A:=[]) (jF (kd:=.u32) (bytes:=4) underlying22 wK rfl rfl rfl rfl rfl hch2 (by simp only[List.length_singleton,lAz,lR];omega) (by simp only[List.length_singleton,lAz,lR];omega)) rfl rfl rfl ?_
 intro v38 r38 hr38
 obtain rfl:=hr38
 refine yG (by exact wY (wY (qD _) hfs) (cS oM)) ?_
 intro h2 hh2 ho
 refine cL (ev1 rfl) call91 (fun w hs=>fE hs ho (by simp;omega)) fun v39 h3 hh3 hr39=>?_
 refine go4 ?_
 refine zD rfl rfl ?_
 have hk:ss.length=(zB X).length:=by omega
 rw[xK oM,zC] at hval
 rw[Nat.mod_eq_of_lt oM,List.append_assoc,sE,fI,lR,tP,hval,aU,Nat.zero_add,show 32*(n/32)+s=n by omega] at hr39
 exact hr39
theorem zQJ{w0:World}{h0:Mem}(hs:MLe h0 (mem w0)){v:Value}{X n:Nat}(hv:Us .u32 h0 v (zB X))(hn:n<9223372036854775808)(hl:(zB X).length≤1099511627776):
    Calls Tryz.prog 143 #[v,vI ↑n] w0 (Ret w0 h0 (fun h r=>Us .u32 h r (zB (X/2^n)))):=by
 obtain⟨s,hsd⟩:∃s,s=n%32:=⟨_,rfl⟩
 refine cb2 55 v (vI ↑n) func143 hs ?_
 refine go9 ?_
 refine gv (lK (q:=32) rfl rfl oM oM oM) rfl ?_
 refine go5 ?_
 refine cnd (fun hc12=>?_) fun hc12=>?_
 ·
  refine go7 ?_
  refine zD rfl rfl ?_
  rw[show X/2^n=0 from g8 oM,yR]
  exact Us.nil _ _
 refine go6 ?_
 refine gv (lK (q:=32) rfl rfl oM oM oM) rfl ?_
 rw[show(↑n:Int)/32=↑(n/32) by omega]
 refine gv (qH (n/32) underlying22 sizeOf127 rfl rfl hv.shape oM oM) rfl ?_
 have hsl16:=hv.sub (lo:=n/32) (hi:=(zB X).length) oM oM
 rw[List.take_of_length_le (by rw[List.length_drop];omega)] at hsl16
 have hdl:(List.drop (n/32) (zB X)).length=(zB X).length-n/32:=List.length_drop
 refine go1 ?_
 have hRf:Fit (List.drop (n/32) (zB X)):=nF (xR _) _
 have hRv:=jD (xR X) (n/32)
 rw[zC] at hRv
 obtain⟨vR,hvR⟩:∃z,z=gJ 1 v (n/32) (zB X).length:=⟨_,rfl⟩
 rw[←hvR] at hsl16 ⊢
 generalize List.drop (n/32) (zB X)=Rs at *
 refine go6 ?_
 refine qJ (kd:=.u32) (by':=4) (Rs.length) underlying22 wK rfl rfl rfl rfl rfl oM oM oM oM rfl ?_
 intro v19
 refine vO ?_
 refine gcL (ι:=List Nat) (fun(ss:(List Nat))=>(ss.length≤Rs.length∧ss=(List.range ss.length).map (mT s Rs),[(0,vR),(1,vI ↑n),(5,v19),(6,vI ↑ss.length)],[.us 127 .u32 v19 (fM ss Rs.length)],h0,Rs.length-ss.length)) [] ?_ ?_
 ·
  exact⟨by simp,rfl⟩
 intro ss hx
 dsimp only at hx
 obtain⟨hss,hsv⟩:=hx
 refine yS ?_
 refine go9 ?_
 refine cnd (fun hc23=>?_) fun hc23=>?_
 ·
  refine go8 ?_
  refine gv (zO (ss.length) underlying22 sizeOf127 rfl rfl hsl16 oM oM) rfl ?_
  refine go1 ?_
  have hg1:=uX hRf ss.length
  have hg2:=uX hRf (ss.length+1)
  refine go4 ?_
  refine qK (ι:=Unit) (fun(_u:(Unit))=>True) (fun(_u:(Unit))=>[(0,vR),(1,vI ↑n),(5,v19),(6,vI ↑ss.length),(7,vU .u64 (Rs.getD ss.length 0+4294967296*Rs.getD (ss.length+1) 0))]) (fun(_u:(Unit))=>[.us 127 .u32 v19 (fM ss Rs.length)]) (fun(_u:(Unit))=>h0) ?_ ?_
  ·
   refine go9 ?_
   refine cnd (fun hc35=>?_) fun hc35=>?_
   ·
    refine go5 ?_
    refine gv (zO (ss.length+1) underlying22 sizeOf127 rfl rfl hsl16 oM oM) rfl ?_
    refine go2 ?_
    refine gv (kJ (k:=.u64) (s:=32) (yk:=.u64) (W:=18446744073709551616) rfl rfl rfl rfl) rfl (gv (tF (k:=.u64) rfl rfl rfl (by simp only[ub];omega) (by simp only[ub];omega)) rfl ?_)
    rw[Nat.or_comm,rB oM oM]
    refine go2 ?_
    refine zN (()) ?_ ⟨rfl,rfl,rfl,rfl,?_,trivial⟩ rfl rfl
    ·
     trivial
    · exact congrArg some (congrArg (vU .u64) oM)
   refine go1 ?_
   refine zN (()) ?_ ⟨rfl,rfl,rfl,rfl,?_,trivial⟩ rfl rfl
   ·
    trivial
   · exact congrArg some (congrArg (vU .u64) (by rw[tB (xs:=Rs) (i:=ss.length+1) oM];omega))
  intro _u hx
  obtain hcut:=hx
  refine yS ?_
  refine go5 ?_
  refine gv (vX (q:=32) rfl rfl oM oM) rfl ?_
  rw[show(↑n:Int)%32=↑s by omega]
  refine gv (kI (k:=.u64) (s:=s) (yk:=.i64) rfl rfl rfl (by simp only[ub];omega)) rfl ?_
  refine go1 ?_
  rw[zPW oM oM]
  refine gv (yP (A:=[]) (ss.length) underlying22 sizeOf127 rfl rfl oM (by rw[vM oM];omega)) rfl (xZ sizeOf127 rfl rfl (by rw[vM oM];omega) ?_)
  refine go8 ?_
  refine gqL (ss++[mT s Rs ss.length]) ?_ ?_ (he:=⟨rfl,rfl,rfl,?_,trivial⟩) (hL:=?_)
  ·
   refine⟨by simp;omega,?_⟩
   rw[lAz,List.length_singleton,List.range_succ,List.map_append,List.map_singleton,←hsv]
  ·
   simp;omega
  · exact congrArg some (congrArg vI (by simp))
  try dsimp only[List.nil_append,List.cons_append]
  rw[sM oM]
 refine go8 ?_
 have hk:ss.length=Rs.length:=by omega
 rw[pS hk]
 refine yG (by rw[hsv];intro z hz;obtain⟨w,_,rfl⟩:=List.mem_map.1 hz;exact zL1 s Rs w) ?_
 intro h1 hh1 ho
 refine cL (ev1 rfl) call91 (fun w hs=>fE hs ho oM) fun v54 h2 hh2 hr54=>?_
 refine go4 ?_
 refine zD rfl rfl ?_
 rw[hsv,hk,zNR hRf,hRv,iL,show 32*(n/32)+s=n by omega] at hr54
 exact hr54
end Go.Proofs.YtboaboflnckgoaaGreat
namespace Go.Proofs.YtboaboflnckgoaaGreat
open Bk Go Tryz
set_option linter.unusedVariables false
set_option linter.unusedSimpArgs false
set_option maxRecDepth 10000
set_option maxHeartbeats 1000000
attribute [local irreducible] GL GC GQ W OpV
theorem eN{w0:World}{h0:Mem}(hs:MLe h0 (mem w0)){v:Value}{X:Nat}(hv:Us .u32 h0 v (zB X)):
    Calls Tryz.prog 137 #[v] w0 (Ret w0 h0 (fun _ r=>r=.tuple #[vU .u64 (if(zB X).length≤2 then X else 0),vB ((zB X).length≤2)])):=by
 have hx0:=hv.get32 0
 have hx1:=hv.get32 1
 have hvl:=zC X
 have hlen:=hv.lt63
 refine cb1 26 v func137 hs ?_
 refine go2 ?_
 refine asg (v:=vU .u64 0) rfl rfl ?_
 refine dG ?_
 refine cnd (fun hc6=>?_) fun hc6=>?_
 ·
  refine go2 ?_
  refine asg (v:=vU .u64 0) rfl rfl ?_
  refine go6 ?_
  refine vT rfl rfl rfl ?_
  have h0:X=0:=Classical.byContradiction fun hne=>by have:=yK.2 hne;omega
  rw[xL oM,if_pos oM,h0]
 refine go6 ?_
 refine cnd (fun hc8=>?_) fun hc8=>?_
 ·
  have hvo:=zBP (xs:=zB X) oM
  refine go3 ?_
  refine gv (zO (q:=0) (0) underlying22 sizeOf127 rfl rfl hv rfl oM) rfl ?_
  refine go9 ?_
  refine vT rfl rfl rfl ?_
  rw[xL oM,if_pos oM,←hvo,zC]
 refine go6 ?_
 refine cnd (fun hc14=>?_) fun hc14=>?_
 ·
  refine go1 ?_
  refine gD 12 (qq 0 12 []) (by kernel_rfl) ?_
  refine go1 ?_
  refine w_q rfl (fun h' L' hh hR=>zO (q:=0) (0) underlying22 sizeOf127 rfl rfl (hv.mono hh) rfl oM) rfl (w_q rfl (fun h' L' hh hR=>xG isAgg127 rfl (hv.mono hh) oM) rfl ?_)
  refine go2 ?_
  refine w_q rfl (fun h' L' hh hR=>zO (q:=1) (1) underlying22 sizeOf127 rfl rfl (hv.mono hh) rfl oM) rfl (w_q rfl (fun h' L' hh hR=>xG isAgg127 rfl (hv.mono hh) oM) rfl ?_)
  refine go1 ?_
  refine xJ rfl (fun _ _=>kJ (k:=.u64) (s:=32) (yk:=.u64) (W:=18446744073709551616) rfl rfl rfl rfl) rfl (xJ rfl (fun _ _=>tF (k:=.u64) rfl rfl rfl (by simp only[ub];omega) (by simp only[ub];omega)) rfl ?_)
  rw[Nat.or_comm,rB oM oM]
  refine go7 ?_
  refine vT rfl rfl rfl ?_
  have h1:=vK (zB X) 1
  have h2:=vK (zB X) 0
  rw[xK oM,zC] at h1
  rw[List.take_zero] at h2
  simp only[val,Nat.zero_add] at h2
  rw[xL oM,if_pos oM]
  have e:(zB X).getD 1 0*4294967296+(zB X).getD 0 0=X:=by omega
  rw[e]
 refine go5 ?_
 refine asg (v:=vU .u64 0) rfl rfl ?_
 refine go4 ?_
 refine vT rfl rfl rfl ?_
 rw[yU oM,if_neg oM]
theorem zA8{w0:World}{h0:Mem}(hs:MLe h0 (mem w0)){v:Value}{X k:Nat}(hv:Us .u32 h0 v (zB X))(hk:k≤4398046511104)(hl:(zB X).length≤4398046511104):
    Calls Tryz.prog 141 #[v,vI ↑k] w0 (Ret w0 h0 (fun h r=>Us .u32 h r (zB (X*4294967296^k)))):=by
 refine cb2 12 v (vI ↑k) func141 hs ?_
 refine sL ?_
 refine cnd (fun hc7=>?_) fun hc7=>?_
 ·
  have h0:X=0:=Classical.byContradiction fun hne=>by have:=yK.2 hne;omega
  refine go7 ?_
  refine zD rfl rfl ?_
  rw[h0,Nat.zero_mul,yR]
  exact Us.nil _ _
 have h0:X≠0:=yK.1 oM
 refine go5 ?_
 refine qJ (kd:=.u32) (by':=4) (k) underlying22 wK rfl rfl rfl rfl rfl oM oM oM oM rfl ?_
 intro v9
 refine go1 ?_
 refine xS (A:=[]) (jF (kd:=.u32) (bytes:=4) underlying22 wK rfl rfl rfl rfl rfl hv (by rw[lR];omega) (by rw[lR];omega)) rfl rfl rfl ?_
 intro v11 r11 hr11
 obtain rfl:=hr11
 refine yG (by exact wY (qD _) (xR _)) ?_
 intro h1 hh1 ho
 refine go4 ?_
 refine zD rfl rfl ?_
 rw[←zIO h0]
 exact ho
set_option maxHeartbeats 1000000 in
theorem zFX{w0:World}{h0:Mem}(hs:MLe h0 (mem w0)){v v':Value}{X Y:Nat}(hv:Us .u32 h0 v (zB X))(hv':Us .u32 h0 v' (zB Y))(hl:(zB X).length≤549755813888)(hl':(zB Y).length≤549755813888):
    Calls Tryz.prog 93 #[v,v'] w0 (Ret w0 h0 (fun h z=>∃q r,z=.tuple #[q,r,vI (if Y=0 then 3 else 0)]∧Us .u32 h q (zB (X/Y))∧Us .u32 h r (zB (if Y=0 then 0 else X%Y)))):=by
 refine cb2 163 v v' func93 hs ?_
 refine uP ?_
 refine gv (wP underlying22 rfl hv') rfl ?_
 refine go3 ?_
 refine cnd (fun hc21=>?_) fun hc21=>?_
 ·
  have hy0:Y=0:=Classical.byContradiction fun hne=>by have:=yK.2 hne;omega
  refine go9 ?_
  refine qX rfl rfl rfl rfl ?_
  rw[hy0,Nat.div_zero,if_pos rfl,if_pos rfl,yR]
  exact⟨_,_,rfl,Us.nil _ _,Us.nil _ _⟩
 have hyne:Y≠0:=yK.1 oM
 refine go7 ?_
 refine cL (ev2 rfl rfl) call56 (fun w hs=>nQ hs hv hv') fun v24 h1 hh1 hr24=>?_
 subst hr24
 refine go3 ?_
 refine cnd (fun hc25=>?_) fun hc25=>?_
 ·
  have hlt:=gH.1 hc25
  refine go3 ?_
  replace hv:=hv.mono hh1
  refine cL (ev1 rfl) call91 (fun w hs=>fE hs hv oM) fun v27 h2 hh2 hr27=>?_
  rw[zC] at hr27
  refine go7 ?_
  refine qX rfl rfl rfl rfl ?_
  rw[Nat.div_eq_of_lt hlt,Nat.mod_eq_of_lt hlt,if_neg hyne,if_neg hyne,yR]
  exact⟨_,_,rfl,Us.nil _ _,hr27⟩
 have hge:Y≤X:=Nat.le_of_not_lt fun hc=>hc25 (gH.2 hc)
 have hlm:=zM hge
 refine go6 ?_
 replace hv:=hv.mono hh1
 refine cL (ev1 rfl) call137 (fun w hs=>eN hs hv) fun v30 h2 hh2 hr30=>?_
 subst hr30
 refine uN ?_
 refine cnd (fun hc33=>?_) fun hc33=>?_
 ·
  have hw:=aI hc33
  have hyw:=aI (n:=Y) oM
  refine go3 ?_
  replace hv':=hv'.mono (hh1.trans hh2)
  refine cL (ev1 rfl) call137 (fun w hs=>eN hs hv') fun v36 h3 hh3 hr36=>?_
  subst hr36
  refine go2 ?_
  rw[if_pos hc33,if_pos (show(zB Y).length≤2 by omega)]
  refine go6 ?_
  refine gD 11 (qq 0 3 (qq 4 3 ((3,.c)::(7,.c)::(qq 8 3 [])))) (by kernel_rfl) ?_
  refine go2 ?_
  refine xJ rfl (fun _ _=>pL (k:=.u64) (W:=18446744073709551616) rfl rfl rfl rfl oM oM) rfl ?_
  refine go2 ?_
  refine xJ rfl (fun _ _=>pK (k:=.u64) rfl rfl oM) rfl ?_
  refine w_c rfl ?_
  have hqle:=Nat.div_le_self X Y
  have hrlt:=Nat.mod_lt X (Nat.pos_of_ne_zero hyne)
  refine sC (ev1 rfl) call131 (fun w hs=>iT hs oM) fun v42 h4 hh4 hr42=>?_
  refine w_c rfl (sC (ev1 rfl) call131 (fun w hs=>iT hs oM) fun v46 h5 hh5 hr46=>?_)
  refine go2 ?_
  refine zDZ (v:=vI (0)) rfl rfl rfl ?_
  refine go4 ?_
  refine qX rfl rfl rfl rfl ?_
  replace hr42:=hr42.mono hh5
  rw[if_neg hyne,if_neg hyne]
  exact⟨_,_,rfl,hr42,hr46⟩
 refine go6 ?_
 replace hv':=hv'.mono (hh1.trans hh2)
 refine gv (wP underlying22 rfl hv') rfl ?_
 refine go3 ?_
 refine cnd (fun hc49=>?_) fun hc49=>?_
 ·
  have hone:(zB Y).length=1:=by omega
  have hb0:(zB Y).getD 0 0≠0:=by have:=tL (n:=Y) oM;rwa [hone] at this
  have hvy:=zBP hone
  rw[zC] at hvy
  refine go4 ?_
  refine gv (zO (q:=0) (0) underlying22 sizeOf127 rfl rfl hv' rfl oM) rfl (gv (xG isAgg127 rfl hv' oM) rfl ?_)
  have hb1:=hv'.get32 0
  replace hv:=hv.mono hh2
  refine cL (ev2 rfl rfl) call138 (fun w hs=>zCI hs hv oM oM oM) fun v55 h3 hh3 hr55=>?_
  obtain⟨u55,rfl,hu55⟩:=hr55
  rw[zC] at hu55 ⊢
  have hrlt:=Nat.mod_lt X (Nat.pos_of_ne_zero hb0)
  refine uN ?_
  refine cL (ev1 rfl) call131 (fun w hs=>iT hs oM) fun v61 h4 hh4 hr61=>?_
  refine go7 ?_
  refine qX rfl rfl rfl rfl ?_
  replace hu55:=hu55.mono hh4
  rw[←hvy] at hu55 hr61
  rw[if_neg hyne,if_neg hyne]
  exact⟨_,_,rfl,hu55,hr61⟩
 have hn2:2≤(zB Y).length:=by omega
 refine go6 ?_
 refine gv (wP underlying22 rfl hv') rfl ?_
 refine go1 ?_
 refine gv (qH ((zB Y).length-1) underlying22 sizeOf127 rfl rfl hv'.shape oM oM) rfl ?_
 have hsl66:=hv'.sub (lo:=(zB Y).length-1) (hi:=(zB Y).length) oM oM
 rw[List.take_of_length_le (by rw[List.length_drop];omega),zLG oM] at hsl66
 have hgt:=hv'.get32 ((zB Y).length-1)
 have htw:=kC (n:=(zB Y).getD ((zB Y).length-1) 0) oM
 have hb32:=bX (n:=(zB Y).getD ((zB Y).length-1) 0) (k:=32) hgt
 refine cL (ev1 rfl) call139 (fun w hs=>zQK hs hsl66 oM) fun v67 h3 hh3 hr67=>?_
 subst hr67
 refine gv (qW (p:=32) rfl rfl oM oM) rfl ?_
 obtain⟨s,hsd⟩:∃s,s=32-xY ((zB Y).getD ((zB Y).length-1) 0):=⟨_,rfl⟩
 rw[show(32:Int)-↑(xY ((zB Y).getD ((zB Y).length-1) 0))=↑s by omega]
 obtain⟨hs32,hvl,hv1⟩:=zC1 (k:=(zB Y).length-1) hyne oM hsd
 refine go7 ?_
 replace hv':=hv'.mono hh3
 refine cL (ev2 rfl rfl) call140 (fun w hs=>zQI hs hv' oM oM) fun v71 h4 hh4 hr71=>?_
 refine go2 ?_
 replace hv:=hv.mono ((hh2.trans hh3).trans hh4)
 refine cL (ev2 rfl rfl) call140 (fun w hs=>zQI hs hv oM oM) fun v74 h5 hh5 hr74=>?_
 refine go2 ?_
 replace hr71:=hr71.mono hh5
 replace hvl:(zB (Y*2^s)).length=(zB Y).length:=by omega
 have hYn:=tN (n:=Y*2^s) (k:=(zB Y).length-1) oM
 generalize hnd:(zB Y).length=n at *
 obtain⟨V,hV⟩:∃V,V=Y*2^s:=⟨_,rfl⟩
 obtain⟨U,hU⟩:∃U,U=X*2^s:=⟨_,rfl⟩
 rw[←hV] at hr71 hvl hv1 hYn
 rw[←hU] at hr74
 have hVd:=zLY hn2 hvl
 rw[zC] at hVd
 have hvr:=jY (gG (xR V) (n-2))
 rw[List.length_take,Nat.min_eq_left oM] at hvr
 have hUl:(zB U).length≤(zB X).length+1:=by rw[hU];exact Nat.le_trans (yC X (2^s)) (Nat.add_le_add_left (vY (k:=1) (by rw[Nat.pow_one];exact Nat.lt_of_lt_of_le (Nat.pow_lt_pow_right dC hs32) dC)) _)
 have hVU:V≤U:=by rw[hV,hU];exact Nat.mul_le_mul_right _ hge
 have hnr:=zM hVU
 rw[hvl] at hnr
 have hst:=zJ6 (uH U) hYn oM hnr
 generalize hrd:(zB U).length=r at *
 have hv1b:=uX (xR V) (n-1)
 refine go6 ?_
 rw[hvl]
 refine go7 ?_
 rw[hrd]
 refine go3 ?_
 refine qJ (kd:=.u32) (by':=4) (r-n+1) underlying22 wK rfl rfl rfl rfl rfl oM oM oM oM rfl ?_
 intro v82
 refine go8 ?_
 rw[hrd]
 refine go6 ?_
 refine vC (ι:=Nat×Value×Nat×List Nat×Mem) (fun(K,vr,R,qs,k1)=>MLe h5 k1∧(Us .u32 k1 vr (zB R)∧K≤r-n+1∧qs.length=r-n+1-K∧Fit qs∧R+4294967296^K*(val qs*V)=U∧R<4294967296^K*V∧(zB R).length≤r)) (fun(K,vr,R,qs,k1)=>[(1,v71),(4,v82),(5,vr),(13,vI ↑s),(14,vI ↑n),(15,vI (↑K-1))]) (fun(K,vr,R,qs,k1)=>[.us 127 .u32 v82 (kS K qs)]) (fun(K,vr,R,qs,k1)=>k1) (fun(K,vr,R,qs,k1)=>K) (r-n+1,v74,U,[],h5) ?_ ⟨?_,?_,?_,?_,?_,?_,trivial⟩ ?_ rfl ?_
 ·
  refine⟨MLe.refl _,?_⟩
  exact⟨hr74,Nat.le_refl _,by simp,fun x hx=>by simp at hx,by simp[val],hst,by omega⟩
 · exact rfl
 · exact rfl
 · exact rfl
 · exact rfl
 · exact rfl
 · exact congrArg some (congrArg vI oM)
 ·
  try dsimp only[List.nil_append,List.cons_append]
  exact congrArg (fun z=>[Res.us 127 .u32 v82 z]) (bU _)
 intro x hx
 obtain⟨K,vr,R,qs,k1⟩:=x
 obtain⟨hmk1,⟨hR,hK,hql,hfq,hval,hlt,hRl⟩⟩:=hx
 refine yS ?_
 refine go7 ?_
 refine cnd (fun hc88=>?_) fun hc88=>?_
 ·
  refine go6 ?_
  refine asg (v:=vU .u64 0) rfl rfl ?_
  refine go2 ?_
  have ha1:=uX (xR R) (K-1+n)
  have ha2:=uX (xR R) (K-1+n-1)
  have ha3:=uX (xR R) (K-1+n-2)
  refine qK (ι:=Unit) (fun(_u:(Unit))=>True) (fun(_u:(Unit))=>[(1,v71),(4,v82),(5,vr),(13,vI ↑s),(14,vI ↑n),(15,vI (↑K-1)),(16,vU .u64 ((zB R).getD (K-1+n) 0))]) (fun(_u:(Unit))=>[.us 127 .u32 v82 (kS K qs)]) (fun(_u:(Unit))=>k1) ?_ ?_
  ·
   refine vO ?_
   refine cnd (fun hc96=>?_) fun hc96=>?_
   ·
    refine go5 ?_
    refine gv (zO (K-1+n) underlying22 sizeOf127 rfl rfl hR oM oM) rfl ?_
    refine go4 ?_
    refine zN (()) ?_ e7 rfl rfl
    trivial
   refine go1 ?_
   refine zN (()) ?_ ⟨rfl,rfl,rfl,rfl,rfl,rfl,?_,trivial⟩ rfl rfl
   ·
    trivial
   · exact congrArg some (congrArg (vU .u64) (by rw[tB (xs:=zB R) oM]))
  intro _u hx
  obtain hcut:=hx
  refine yS ?_
  refine qK (ι:=Unit) (fun(_u:(Unit))=>True) (fun(_u:(Unit))=>[(1,v71),(4,v82),(5,vr),(13,vI ↑s),(14,vI ↑n),(15,vI (↑K-1)),(16,vU .u64 ((zB R).getD (K-1+n) 0*4294967296+(zB R).getD (K-1+n-1) 0))]) (fun(_u:(Unit))=>[.us 127 .u32 v82 (kS K qs)]) (fun(_u:(Unit))=>k1) ?_ ?_
  ·
   refine uP ?_
   refine cnd (fun hc110=>?_) fun hc110=>?_
   ·
    refine go2 ?_
    refine gv (kJ (k:=.u64) (s:=32) (yk:=.u64) (W:=18446744073709551616) rfl rfl rfl rfl) rfl ?_
    refine go5 ?_
    refine gv (zO (K-1+n-1) underlying22 sizeOf127 rfl rfl hR oM oM) rfl ?_
    refine go2 ?_
    refine gv (tF (k:=.u64) rfl rfl rfl (by simp only[ub];omega) (by simp only[ub];omega)) rfl ?_
    rw[rB oM oM]
    refine go2 ?_
    refine zN (()) ?_ e7 rfl rfl
    trivial
   refine go2 ?_
   refine gv (kJ (k:=.u64) (s:=32) (yk:=.u64) (W:=18446744073709551616) rfl rfl rfl rfl) rfl ?_
   refine go2 ?_
   refine zN (()) ?_ ⟨rfl,rfl,rfl,rfl,rfl,rfl,?_,trivial⟩ rfl rfl
   ·
    trivial
   · exact congrArg some (congrArg (vU .u64) (by rw[tB (xs:=zB R) (i:=K-1+n-1) oM];omega))
  intro _u hx
  obtain hcut:=hx
  refine yS ?_
  have hVn:V<4294967296^n:=by rw[←hvl];exact uH V
  have hRn:R<4294967296^(K+n):=Nat.lt_of_lt_of_le hlt (by rw[Nat.pow_add];exact Nat.mul_le_mul_left _ (Nat.le_of_lt hVn))
  have hz0:∀i,K+n≤i→(zB R).getD i 0=0:=fun i hi=>mR (by rw[zC];exact hRn) hi
  obtain⟨wr,hW,hwr⟩:=zEF (j:=K-1) hn2 (fun i hi=>hz0 i oM) (xR R)
  rw[jD (xR R),zC] at hW
  have hWV:=zQL (R:=R) (V:=V) (k:=K-1) (by rw[Nat.sub_add_cancel oM];exact hlt)
  obtain⟨top,htop⟩:∃t,t=(zB R).getD (K-1+n) 0*4294967296+(zB R).getD (K-1+n-1) 0:=⟨_,rfl⟩
  rw[←htop]
  rw[←htop] at hW
  have htb:top<18446744073709551616:=by omega
  have hest:=zON (by rw[hW] at hWV ⊢;exact zQM hVd rfl ha3 hwr oM hWV)
  have hv1p:0<(zB V).getD (n-1) 0:=by omega
  refine go6 ?_
  replace hr71:=hr71.mono hmk1
  refine gv (zO (n-1) underlying22 sizeOf127 rfl rfl hr71 oM oM) rfl ?_
  refine go2 ?_
  refine gv (pL (k:=.u64) (W:=18446744073709551616) rfl rfl rfl rfl oM oM) rfl (gv (zQX (k:=.u64) (q:=4294967295) rfl rfl) rfl ?_)
  rw[Nat.min_def]
  rw[←Nat.min_def]
  refine go7 ?_
  refine gv (wQ (k:=.u64) (k':=.u32) (W:=4294967296) underlying130 underlying127 rfl rfl rfl oM) rfl (cL (ev2 rfl rfl) call142 (fun w hs=>zNY hs hr71 oM oM) fun v136 h6 hh6 hr136=>?_)
  have hlp:=yC V (min (top/(zB V).getD (n-1) 0) 4294967295)
  have hld:=kC (n:=min (top/(zB V).getD (n-1) 0) 4294967295) oM
  refine go1 ?_
  rw[show(↑K:Int)-1=↑(K-1) by omega]
  refine cL (ev2 rfl rfl) call141 (fun w hs=>zA8 hs hr136 oM oM) fun v138 h7 hh7 hr138=>?_
  refine go5 ?_
  refine vC (ι:=Value×Nat×Mem) (fun(vp,d,k2)=>MLe h7 k2∧(Us .u32 k2 vp (zB (V*d*4294967296^(K-1)))∧d≤4294967295∧R<V*(d+1)*4294967296^(K-1))) (fun(vp,d,k2)=>[(1,v71),(4,v82),(5,vr),(13,vI ↑s),(14,vI ↑n),(15,vI ↑(K-1)),(17,vU .u64 d),(18,vp)]) (fun(vp,d,k2)=>[.us 127 .u32 v82 (kS K qs)]) (fun(vp,d,k2)=>k2) (fun(vp,d,k2)=>d) (v138,min (top/(zB V).getD (n-1) 0) 4294967295,h7) ?_ e8 rfl rfl ?_
  ·
   refine⟨MLe.refl _,?_⟩
   exact⟨hr138,Nat.min_le_right _ _,hest⟩
  intro x hx
  obtain⟨vp,d,k2⟩:=x
  obtain⟨hmk2,⟨hp,hdb,hdl⟩⟩:=hx
  refine yS ?_
  refine go5 ?_
  replace hR:=hR.mono ((hh6.trans hh7).trans hmk2)
  refine cL (ev2 rfl rfl) call56 (fun w hs=>nQ hs hp hR) fun v141 h8 hh8 hr141=>?_
  subst hr141
  refine go3 ?_
  refine cnd (fun hc142=>?_) fun hc142=>?_
  ·
   have hgt:=zI7.1 hc142
   have hd1:1≤d:=Nat.pos_of_ne_zero fun h0=>by rw[h0,Nat.mul_zero,Nat.zero_mul] at hgt;omega
   obtain⟨hbk,hbl⟩:=zUA (V:=V) (p:=4294967296^(K-1)) hd1
   refine go6 ?_
   refine gv (bH (k:=.u64) (q:=1) (W:=18446744073709551616) rfl rfl rfl rfl oM oM) rfl ?_
   refine go7 ?_
   replace hr71:=hr71.mono (((hh6.trans hh7).trans hmk2).trans hh8)
   refine cL (ev2 rfl rfl) call141 (fun w hs=>zA8 hs hr71 oM oM) fun v148 h9 hh9 hr148=>?_
   have hlq:=zD9 (V*d) (K-1)
   have hlq2:=yC V d
   have hlq3:=kC (n:=d) oM
   replace hp:=hp.mono (hh8.trans hh9)
   refine cL (ev2 rfl rfl) call130 (fun w hs=>zAC hs hp hr148 hbl oM) fun v149 h10 hh10 hr149=>?_
   rw[hbk] at hr149
   refine go3 ?_
   refine yQ (v149,d-1,h10) ?_ ?_ e8 rfl rfl
   ·
    refine⟨(((hmk2.trans hh8).trans hh9).trans hh10),?_⟩
    exact⟨hr149,by omega,by rw[Nat.sub_add_cancel hd1];exact hgt⟩
   dsimp only
   omega
  have hple:V*d*4294967296^(K-1)≤R:=Nat.le_of_not_lt fun hc=>hc142 (zI7.2 hc)
  refine vO ?_
  refine gv (wQ (k:=.u64) (k':=.u32) (W:=4294967296) underlying130 underlying127 rfl rfl rfl oM) rfl (gv (yP (A:=[]) (K-1) underlying22 sizeOf127 rfl rfl oM (by rw[qQ];omega)) rfl (xZ sizeOf127 rfl rfl (by rw[qQ];omega) ?_))
  refine go5 ?_
  replace hR:=hR.mono hh8
  replace hp:=hp.mono hh8
  refine cL (ev2 rfl rfl) call130 (fun w hs=>zAC hs hR hp hple oM) fun v157 h9 hh9 hr157=>?_
  refine go9 ?_
  refine yQ (K-1,v157,R-V*d*4294967296^(K-1),d::qs,h9) ?_ ?_ ⟨rfl,rfl,rfl,rfl,rfl,?_,trivial⟩ ?_ rfl
  ·
   refine⟨(((((hmk1.trans hh6).trans hh7).trans hmk2).trans hh8).trans hh9),?_⟩
   have eK:(4294967296:Nat)^K=4294967296^(K-1)*4294967296:=by rw[←Nat.pow_succ,Nat.succ_eq_add_one,Nat.sub_add_cancel oM]
   rw[eK] at hval
   have hlm2:=zM (Nat.sub_le R (V*d*4294967296^(K-1)))
   exact⟨hr157,by omega,by simp only[lC];omega,tY.2 ⟨by omega,hfq⟩,zT9 hval hple,yAV hdl hple,by omega⟩
  ·
   dsimp only
   omega
  · exact congrArg some (congrArg vI oM)
  try dsimp only[List.nil_append,List.cons_append]
  rw[bT oM]
 refine go6 ?_
 have hK0:K=0:=by omega
 subst hK0
 rw[pT]
 rw[Nat.pow_zero,Nat.one_mul] at hval hlt
 refine go2 ?_
 refine yG (by exact hfq) ?_
 intro h6 hh6 hq
 refine cL (ev1 rfl) call91 (fun w hs=>fE hs hq oM) fun v159 h7 hh7 hr159=>?_
 refine go2 ?_
 replace hR:=hR.mono (hh6.trans hh7)
 refine cL (ev2 rfl rfl) call143 (fun w hs=>zQJ hs hR oM oM) fun v162 h8 hh8 hr162=>?_
 refine go6 ?_
 refine qX rfl rfl rfl rfl ?_
 replace hr159:=hr159.mono hh8
 obtain⟨e1,e2⟩:=zM4 (X:=X) (Y:=Y) (s:=s) (u:=R) (q:=val qs) oM (by rw[←hV,←hU];exact hval) (by rw[←hV];exact hlt)
 rw[e1] at hr159
 rw[e2] at hr162
 rw[if_neg hyne,if_neg hyne]
 exact⟨_,_,rfl,hr159,hr162⟩
theorem zUC{w0:World}{h0:Mem}(hs:MLe h0 (mem w0)){v v':Value}{A B:Nat}(hv:Us .u32 h0 v (zB A))(hv':Us .u32 h0 v' (zB B))(hl:(zB A).length≤549755813888)(hl':(zB B).length≤549755813888):
    Calls Tryz.prog 92 #[v,v'] w0 (Ret w0 h0 (fun h r=>Us .u32 h r (zB (Nat.gcd A B)))):=by
 obtain⟨G,hG⟩:∃G,G=Nat.gcd A B:=⟨_,rfl⟩
 rw[←hG]
 refine cb2 51 v v' func92 hs ?_
 refine go8 ?_
 refine cL (ev1 rfl) call91 (fun w hs=>fE hs hv oM) fun v13 h1 hh1 hr13=>?_
 rw[zC] at hr13
 refine go1 ?_
 replace hv':=hv'.mono hh1
 refine cL (ev1 rfl) call91 (fun w hs=>fE hs hv' oM) fun v15 h2 hh2 hr15=>?_
 rw[zC] at hr15
 refine go6 ?_
 refine gcL (ι:=Value×Nat×Value×Nat×Mem) (fun(vx,X,vy,Y,k1)=>(MLe h2 k1∧(Us .u32 k1 vx (zB X)∧Us .u32 k1 vy (zB Y)∧Nat.gcd X Y=G∧(zB X).length≤549755813888∧(zB Y).length≤549755813888),[(0,vx),(1,vy)],[],k1,Y)) (v13,A,v15,B,h2) ?_ ?_
 ·
  refine⟨MLe.refl _,?_⟩
  replace hr13:=hr13.mono hh2
  exact⟨hr13,hr15,hG.symm,by omega,by omega⟩
 intro x hx
 obtain⟨vx,X,vy,Y,k1⟩:=x
 dsimp only at hx
 obtain⟨hmk1,⟨ha,hb,hg,hlX,hlY⟩⟩:=hx
 refine yS ?_
 refine go8 ?_
 refine cnd (fun hc18=>?_) fun hc18=>?_
 ·
  have hY0:Y≠0:=yK.1 oM
  refine go6 ?_
  refine cL (ev1 rfl) call137 (fun w hs=>eN hs ha) fun v21 h3 hh3 hr21=>?_
  subst hr21
  refine vO ?_
  replace hb:=hb.mono hh3
  refine cL (ev1 rfl) call137 (fun w hs=>eN hs hb) fun v26 h4 hh4 hr26=>?_
  subst hr26
  refine uP ?_
  refine gU 3 32 (vB (((zB X).length≤2)∧((zB Y).length≤2))) ?_ ?_
  ·
   refine yB ((zB X).length≤2) (fun hg=>?_) (fun hg=>?_)
   ·
    refine gT hg rfl ?_
    refine go4 ?_
    refine gqU ?_
    exact congrArg some (xM hg)
   refine gF hg rfl ?_
   refine go3 ?_
   refine gqU ?_
   exact congrArg some (xN hg)
  refine go2 ?_
  refine cnd (fun hc32=>?_) fun hc32=>?_
  ·
   rw[if_pos hc32.1,if_pos hc32.2]
   have hwx:=aI hc32.1
   have hwy:=aI hc32.2
   refine go2 ?_
   refine gcL (ι:=Nat×Nat) (fun(m,n)=>(Nat.gcd m n=G∧m<18446744073709551616∧n<18446744073709551616,[(5,vU .u64 m),(7,vU .u64 n)],[],h4,n)) (X,Y) ?_ ?_
   ·
    exact⟨hg,hwx,hwy⟩
   intro x hx
   obtain⟨m,n⟩:=x
   dsimp only at hx
   obtain⟨hg3,hm,hn⟩:=hx
   refine yS ?_
   refine go4 ?_
   refine gv (fF (k:=.u64) (q:=0) rfl rfl) rfl ?_
   refine go2 ?_
   refine cnd (fun hc34=>?_) fun hc34=>?_
   ·
    refine go3 ?_
    refine gD 6 (qq 0 6 []) (by kernel_rfl) ?_
    refine go3 ?_
    refine xJ rfl (fun _ _=>pK (k:=.u64) rfl rfl oM) rfl ?_
    refine go4 ?_
    refine gqL (n,m%n) ?_ ?_
    ·
     have hlt:=Nat.mod_lt m (Nat.pos_of_ne_zero hc34)
     exact⟨by rw[nD];exact hg3,hn,by omega⟩
    exact Nat.mod_lt _ (Nat.pos_of_ne_zero hc34)
   refine go8 ?_
   refine cL (ev1 rfl) call131 (fun w hs=>iT hs oM) fun v40 h5 hh5 hr40=>?_
   refine go9 ?_
   refine zD rfl rfl ?_
   have hn0:n=0:=Classical.not_not.1 hc34
   rw[hn0,Nat.gcd_zero_right] at hg3
   rw[←hg3]
   exact hr40
  refine go6 ?_
  replace ha:=ha.mono (hh3.trans hh4)
  replace hb:=hb.mono hh4
  refine cL (ev2 rfl rfl) call93 (fun w hs=>zFX hs ha hb oM oM) fun v44 h5 hh5 hr44=>?_
  obtain⟨q44,r44,rfl,hq44,hr44⟩:=hr44
  rw[if_neg hY0] at hr44
  have hlm:=zM (Nat.le_of_lt (Nat.mod_lt X (Nat.pos_of_ne_zero hY0)))
  refine zAR ?_
  refine gqL (vy,Y,r44,X%Y,h5) ?_ ?_
  ·
   refine⟨(((hmk1.trans hh3).trans hh4).trans hh5),?_⟩
   replace hb:=hb.mono hh5
   exact⟨hb,hr44,by rw[nD];exact hg,hlY,by omega⟩
  exact Nat.mod_lt _ (Nat.pos_of_ne_zero hY0)
 have hY0:Y=0:=Classical.byContradiction fun hne=>by have:=yK.2 hne;omega
 refine uN ?_
 refine zD rfl rfl ?_
 rw[hY0,Nat.gcd_zero_right] at hg
 rw[←hg]
 exact ha
end Go.Proofs.YtboaboflnckgoaaGreat
namespace Go.Proofs.YtboaboflnckgoaaGreat
open Bk Go Tryz
set_option linter.unusedVariables false
set_option linter.unusedSimpArgs false
set_option maxRecDepth 10000
set_option maxHeartbeats 1000000
attribute [local irreducible] GL GC GQ W OpV
theorem zL6{w0:World}{h0:Mem}(hs:MLe h0 (mem w0)):
    Calls Tryz.prog 122 #[] w0 (Ret w0 h0 (fun h r=>Us .u32 h r [1])):=by
 refine cb0 2 func122 hs ?_
 refine go7 ?_
 refine zF (kQ (kd:=.u32) (p:=1) underlying22 wK rfl rfl rfl) rfl rfl rfl ?_
 intro v1 r1 hr1
 obtain rfl:=hr1
 refine yG (by intro z hz;simp only[List.mem_singleton] at hz;subst hz;decide) ?_
 intro h1 hh1 h1
 refine go4 ?_
 refine zD rfl rfl ?_
 exact h1
theorem gR{w0:World}{h0:Mem}(hs:MLe h0 (mem w0)){sa:Bool}{vna vda:Value}{na da:List Nat}(hna:Us .u32 h0 vna na)(hda:Us .u32 h0 vda da):
    Calls Tryz.prog 120 #[.agg #[.bool sa,vna,vda]] w0 (Ret w0 h0 (fun h r=>Us .u32 h r (if da=[] then[1] else da))):=by
 refine cb1 10 (.agg #[.bool sa,vna,vda]) func120 hs ?_
 refine go2 ?_
 refine zF (xD (cs:=[_,_,_]) rfl rfl) rfl rfl rfl ?_
 intro v1 r1 hr1
 obtain⟨b1,rfl,rfl⟩:=hr1
 refine uN ?_
 refine cnd (fun hc6=>?_) fun hc6=>?_
 ·
  refine go2 ?_
  refine cL (vs:=[]) trivial call122 (fun w hs=>zL6 hs) fun v7 h1 hh1 hr7=>?_
  rw[rV] at hr7
  have hlm7:=j2
  refine go5 ?_
  refine zD rfl rfl ?_
  rw[if_pos (List.eq_nil_of_length_eq_zero oM),rV]
  exact hr7
 refine vO ?_
 refine zD rfl rfl ?_
 rw[if_neg (fun h=>hc6 (by rw[h];rfl))]
 exact hda
theorem nR{w0:World}{h0:Mem}(hs:MLe h0 (mem w0)){qa:Rat}{vna vda:Value}(hna:Us .u32 h0 vna (zB qa.num.natAbs))(hda:Us .u32 h0 vda (zB (xT qa.den)))(hl:(zB qa.num.natAbs).length≤1099511627776)(hl':(zB (xT qa.den)).length≤1099511627776):
    Calls Tryz.prog 185 #[.agg #[vB (qa.num<0),vna,vda]] w0 (Ret w0 h0 (fun h r=>wI h r qa)):=by
 refine cb1 12 (.agg #[vB (qa.num<0),vna,vda]) func185 hs ?_
 refine go2 ?_
 refine zF (xD (cs:=[_,_,_]) rfl rfl) rfl rfl rfl ?_
 intro v1 r1 hr1
 obtain⟨b1,rfl,rfl⟩:=hr1
 refine zF (wA (cs:=[vB ((0:Rat).num<0),.slice none 0 0,.slice none 0 0]) yN rfl (by simp only[zb];rfl)) rfl rfl rfl ?_
 intro v2 r2 hr2
 obtain⟨b2,rfl,rfl⟩:=hr2
 refine go3 ?_
 refine gD 9 (qq 0 4 [(5,.q),(6,.q),(4,.c),(7,.c),(8,.c),(9,.t)]) (by kernel_rfl) ?_
 refine go6 ?_
 refine w_c rfl ?_
 refine rS (vs:=[_]) call103 ⟨rfl,trivial⟩ (fun w hs=>pE hs hna oM) rfl ?_
 intro v7 h1 L7 hh1 hr7
 obtain rfl:=hr7
 refine w_c rfl ?_
 replace hda:=hda.mono hh1
 refine rS (vs:=[_]) call103 ⟨rfl,trivial⟩ (fun w hs=>pE hs hda oM) rfl ?_
 intro v10 h2 L10 hh2 hr10
 obtain rfl:=hr10
 refine w_c rfl ?_
 replace hna:=hna.mono (hh1.trans hh2)
 refine pG (A:=[_]) (by exact hna.lt) (by simp only[List.mem_cons,List.not_mem_nil,or_false];rintro r (rfl|rfl) _<;>simp) ?_
 intro h3 hh3 hc1
 replace hda:=hda.mono (hh2.trans hh3)
 refine pG (A:=[]) (by exact hda.lt) (by simp only[List.mem_cons,List.not_mem_nil,or_false];rintro r (rfl|rfl) _<;>simp) ?_
 intro h4 hh4 hc2
 replace hc1:=hc1.mono hh4
 refine zP4 (fun X=>yO (ps':=[(0,_),(1,_),(2,_)]) (vs:=[vB (qa.num<0),v7,v10]) underlying26 yN rfl (vD underlying26) e6z (yX (A:=[]) (B:=[_]) (C:=[_,_]) (cs:=[_]) (off:=0) (size:=1) rfl rfl rfl rfl rfl (yX (A:=[_]) (B:=[_]) (C:=[_]) (cs:=[_]) (off:=1) (size:=1) rfl rfl rfl rfl hc1.cells (yX (A:=[_,_]) (B:=[_]) (C:=[]) (cs:=[_]) (off:=2) (size:=1) rfl rfl rfl rfl hc2.cells vZ)))) rfl (kV (A:=[]) (q':=.var b2 26 [vB (qa.num<0),v7,v10]) rfl (zG (k:=0) (cs:=[_,_,_]) (vs:=[_,_,_]) rfl rfl rfl (ocr rfl (ocu hc1 (ocu hc2 oc0))) zU (bL rfl)) rfl ?_)
 refine go3 ?_
 refine yE (fun E S=>zP rfl (xE (cs:=[_,_,_]) mh0 underlying26 rfl zU rfl) E S) ?_
 exact⟨_,_,rfl,hc1,hc2⟩
end Go.Proofs.YtboaboflnckgoaaGreat
namespace Go.Proofs.YtboaboflnckgoaaGreat
open Bk Go Tryz
set_option linter.unusedVariables false
set_option linter.unusedSimpArgs false
set_option maxRecDepth 10000
set_option maxHeartbeats 1000000
attribute [local irreducible] GL GC GQ W OpV
theorem x0{w0:World}{h0:Mem}(hs:MLe h0 (mem w0)){v:Value}{xs:List Nat}(hv:Us .u32 h0 v xs)(hl:xs.length≤2):
    Calls Tryz.prog 163 #[v] w0 (Ret w0 h0 (fun _ r=>r=vU .u64 (val xs))):=by
 have hf:Fit xs:=hv.lt
 refine cb1 21 v func163 hs ?_
 refine go2 ?_
 refine asg (v:=vU .u64 0) rfl rfl ?_
 refine go4 ?_
 refine asg (v:=vU .u64 0) rfl rfl ?_
 refine uN ?_
 have hd0:val (xs.drop xs.length)=0:=by rw[List.drop_of_length_le (Nat.le_refl _)];rfl
 refine vC (ι:=Nat) (fun(j:(Nat))=>j≤xs.length) (fun(j:(Nat))=>[(0,v),(3,vU .u64 (val (xs.drop j))),(4,vI (↑j-1))]) (fun(j:(Nat))=>[]) (fun(j:(Nat))=>h0) (fun(j:(Nat))=>j) xs.length ?_ ⟨?_,?_,?_,trivial⟩ rfl rfl ?_
 ·
  exact Nat.le_refl _
 · exact rfl
 · exact congrArg some (congrArg (vU .u64) hd0.symm)
 · exact rfl
 intro j hx
 obtain hj:=hx
 refine yS ?_
 refine go7 ?_
 refine cnd (fun hc9=>?_) fun hc9=>?_
 ·
  refine go6 ?_
  refine gv (kJ (k:=.u64) (s:=32) (yk:=.u64) (W:=18446744073709551616) rfl rfl rfl rfl) rfl ?_
  refine go2 ?_
  refine gv (zO (j-1) underlying22 sizeOf127 rfl rfl hv oM oM) rfl ?_
  refine go1 ?_
  have hx1:=hv.get32 (j-1)
  refine go1 ?_
  refine gv (tF (k:=.u64) rfl rfl rfl (by simp only[ub];omega) (by simp only[ub];omega)) rfl ?_
  rw[rB (by
        have h2:=jY (nF hf j)
        rw[List.length_drop] at h2
        have h3:(4294967296:Nat)^(xs.length-j)≤4294967296^1:=Nat.pow_le_pow_right oM oM
        omega) hx1]
  refine go9 ?_
  refine yQ (j-1) ?_ ?_ ⟨rfl,?_,?_,trivial⟩ rfl rfl
  ·
   omega
  ·
   omega
  ·
          rw[jH xs (j-1) oM]
          exact congrArg some (congrArg (vU .u64) (by rw[show j-1+1=j by omega];omega))
  · exact congrArg some (congrArg vI oM)
 refine uN ?_
 refine zD rfl rfl ?_
 rw[show j=0 by omega];rfl
theorem zHO{w0:World}{h0:Mem}(hs:MLe h0 (mem w0)){m n:Nat}(hm0:m<18446744073709551616)(hn0:n<18446744073709551616):
    Calls Tryz.prog 164 #[vU .u64 m,vU .u64 n] w0 (Ret w0 h0 (fun _ r=>r=vU .u64 (Nat.gcd m n))):=by
 refine cb2 12 (vU .u64 m) (vU .u64 n) func164 hs ?_
 refine go2 ?_
 refine asg (v:=vU .u64 0) rfl rfl ?_
 refine go4 ?_
 refine gcL (ι:=Nat×Nat) (fun(x,y)=>(Nat.gcd x y=Nat.gcd m n∧x<18446744073709551616∧y<18446744073709551616,[(0,vU .u64 x),(1,vU .u64 y)],[],h0,y)) (m,n) ?_ ?_
 ·
  exact⟨rfl,hm0,hn0⟩
 intro x hx
 obtain⟨x,y⟩:=x
 dsimp only at hx
 obtain⟨hg3,hm,hn⟩:=hx
 refine yS ?_
 refine go4 ?_
 refine gv (fF (k:=.u64) (q:=0) rfl rfl) rfl ?_
 refine go2 ?_
 refine cnd (fun hc6=>?_) fun hc6=>?_
 ·
  refine go3 ?_
  refine gD 6 (qq 0 6 []) (by kernel_rfl) ?_
  refine go3 ?_
  refine xJ rfl (fun _ _=>pK (k:=.u64) rfl rfl oM) rfl ?_
  refine go4 ?_
  refine gqL (y,x%y) ?_ ?_
  ·
   have hlt:=Nat.mod_lt x (Nat.pos_of_ne_zero hc6)
   exact⟨by rw[nD];exact hg3,hn,by omega⟩
  exact Nat.mod_lt _ (Nat.pos_of_ne_zero hc6)
 refine uN ?_
 refine zD rfl rfl ?_
 have hy0:y=0:=Classical.not_not.1 hc6
 rw[hy0,Nat.gcd_zero_right] at hg3
 rw[hg3]
theorem zQN{w0:World}{h0:Mem}(hs:MLe h0 (mem w0)){n:Int}(hn:-9223372036854775808≤n)(hn':n<9223372036854775808):
    Calls Tryz.prog 121 #[vI n] w0 (Ret w0 h0 (fun h r=>Us .u32 h r (zB n.natAbs))):=by
 refine cb1 12 (vI n) func121 hs ?_
 refine uN ?_
 refine cnd (fun hc4=>?_) fun hc4=>?_
 ·
  have hna:n.natAbs=9223372036854775808:=by omega
  refine go2 ?_
  refine cL (vs:=[vU .u64 9223372036854775808]) ⟨rfl,trivial⟩ call167 (fun w hs=>zK2 hs oM) fun v5 h1 hh1 hr5=>?_
  refine go5 ?_
  refine zD rfl rfl ?_
  rw[hna]
  exact hr5
 refine go6 ?_
 refine gv (lM rfl oM oM) rfl (gv (zHW rfl rfl) rfl (gv (iV (p:=n.natAbs) (k':=.u64) (W:=18446744073709551616) underlying2 underlying130 rfl rfl (congrArg some (congrArg vI oM)) oM) rfl (cL (ev1 rfl) call167 (fun w hs=>zK2 hs oM) fun v11 h1 hh1 hr11=>?_)))
 refine go4 ?_
 refine zD rfl rfl ?_
 exact hr11
end Go.Proofs.YtboaboflnckgoaaGreat
namespace Go.Proofs.YtboaboflnckgoaaGreat
open Bk Go Tryz
set_option linter.unusedVariables false
set_option linter.unusedSimpArgs false
set_option maxRecDepth 10000
set_option maxHeartbeats 1000000
attribute [local irreducible] GL GC GQ W OpV
theorem zEP{w0 w:World}{h0 h:Mem}{v u:Value}{xs:List Nat}{L:List Res}{lo n:Nat}(hu:u=gJ 1 v lo xs.length)(hlo:lo+2≤xs.length)(hn0:n≠0)(hn:n<18446744073709551616)(hs:St w0 h0 (.us 127 .u32 v xs::L) h w):
    Calls Tryz.prog 165 #[u,vU .u64 n] w (sQ w0 h0 (fun g r K=>g=h∧K=.us 127 .u32 v (xs.take lo++zB n++xs.drop (lo+(zB n).length))::L∧r=vI ↑(zB n).length)):=by
 refine rJ (n:=17) (e:=[(0,u),(1,vU .u64 n)]) (vs:=[u,vU .u64 n]) func165 rfl rfl (bL rfl) hs e2z ?_
 refine vO ?_
 refine gv (iF (q:=0) mh0 hu (0) underlying22 sizeOf127 rfl rfl rfl oM) rfl (xZ sizeOf127 rfl rfl oM ?_)
 refine go7 ?_
 refine gv (gB (k:=.u64) (q:=0) rfl rfl) rfl ?_
 refine go2 ?_
 refine cnd (fun hc11=>?_) fun hc11=>?_
 ·
  refine go7 ?_
  refine jU rfl rfl ?_
  have hn1:n<4294967296:=by omega
  refine⟨rfl,?_,by rw[jO hn0 hn1];rfl⟩
  rw[Nat.mod_eq_of_lt hn1,Nat.add_zero,putL oM hn0 hn1]
 refine go8 ?_
 refine gv (iF (q:=1) mh0 (by rw[lS];exact hu) (1) underlying22 sizeOf127 rfl rfl rfl (by rw[lS];omega)) rfl (xZ sizeOf127 rfl rfl (by simp;omega) ?_)
 refine go8 ?_
 refine jU rfl rfl ?_
 have hn1:4294967296≤n:=by omega
 have e1:n/2^32%4294967296=n/4294967296:=by omega
 refine⟨rfl,?_,?_⟩
 · rw[e1,Nat.add_zero,yAY hlo hn hn1]
 · rw[jX oM,jO (t:=n/4294967296) oM oM];rfl
theorem cX{w0:World}{h0:Mem}(hs:MLe h0 (mem w0)){s:Prop}{n d:Nat}(hn:n<18446744073709551616)(hd:d<18446744073709551616)(hd0:d≠0):
    Calls Tryz.prog 118 #[vB s,vU .u64 n,vU .u64 d] w0 (Ret w0 h0 (fun h r=>wI h r (mkRat (sg s n) d))):=by
 refine cb3 50 (vB s) (vU .u64 n) (vU .u64 d) func118 hs ?_
 refine go2 ?_
 refine zF (wA (cs:=[vB ((0:Rat).num<0),.slice none 0 0,.slice none 0 0]) yN rfl (by simp only[zb];rfl)) rfl rfl rfl ?_
 intro v6 r6 hr6
 obtain⟨b6,rfl,rfl⟩:=hr6
 refine go6 ?_
 refine gv (gB (k:=.u64) (q:=0) rfl rfl) rfl ?_
 refine go2 ?_
 refine cnd (fun hc13=>?_) fun hc13=>?_
 ·
  refine go2 ?_
  refine gv (yO (ps':=[]) (vs:=[vB ((0:Rat).num<0),.slice none 0 0,.slice none 0 0]) underlying26 yN rfl (vD underlying26) trivial (by simp only[zb];exact vZ)) rfl (xO (A:=[]) (r':=.var b6 26 [vB ((0:Rat).num<0),.slice none 0 0,.slice none 0 0]) (zG (k:=0) (cs:=[_,_,_]) (vs:=[_,_,_]) rfl rfl rfl rfl zU (bL rfl)) rfl rfl rfl ?_)
  refine go4 ?_
  refine yE (fun E S=>zP rfl (xE (cs:=[_,_,_]) mh0 underlying26 rfl zU rfl) E S) ?_
  rw[hc13,q5]
  exact wI.zero _
 have hn0:n≠0:=by omega
 refine go6 ?_
 refine cL (ev2 rfl rfl) call164 (fun w hs=>zHO hs oM oM) fun v17 h1 hh1 hr17=>?_
 subst hr17
 refine go1 ?_
 have hg0:0<Nat.gcd n d:=Nat.gcd_pos_of_pos_left d oM
 have hn1:n/Nat.gcd n d≠0:=Nat.ne_of_gt (Nat.div_pos (Nat.le_of_dvd oM (Nat.gcd_dvd_left n d)) hg0)
 have hd1:d/Nat.gcd n d≠0:=Nat.ne_of_gt (Nat.div_pos (Nat.le_of_dvd oM (Nat.gcd_dvd_right n d)) hg0)
 have hn2:=Nat.div_le_self n (Nat.gcd n d)
 have hd2:=Nat.div_le_self d (Nat.gcd n d)
 refine go3 ?_
 refine gD 8 (qq 0 8 []) (by kernel_rfl) ?_
 refine go2 ?_
 refine xJ rfl (fun _ _=>pL (k:=.u64) (W:=18446744073709551616) rfl rfl rfl rfl oM oM) rfl ?_
 refine go2 ?_
 refine xJ rfl (fun _ _=>pL (k:=.u64) (W:=18446744073709551616) rfl rfl rfl rfl oM oM) rfl ?_
 refine go2 ?_
 generalize hA:n/Nat.gcd n d=A at *
 generalize hB:d/Nat.gcd n d=B at *
 have hlA:=kC (n:=A) oM
 have hlB:=kC (n:=B) oM
 refine go4 ?_
 refine qJ (kd:=.u32) (by':=4) (q:=4) (q':=4) 4 underlying22 wK rfl rfl rfl rfl rfl rfl rfl oM oM rfl ?_
 intro v24
 refine go7 ?_
 refine oZ (vs:=[_,_]) rfl rfl rfl rfl call165 e2z (fun w hs=>zEP (hs.own_self (.head _)) dC hn1 oM hs) ?_
 intro v27 g27 L27 hr27
 obtain⟨e1,e2,hr27⟩:=hr27
 rw[e1,e2]
 clear e1 e2 g27 L27
 subst hr27
 rw[show List.take 0 (List.replicate 4 0)++zB A++List.drop (0+(zB A).length) (List.replicate 4 0)=zB A++List.replicate (4-(zB A).length) 0 from by rw[List.take_zero,List.nil_append,Nat.zero_add,List.drop_replicate]]
 have hlen4:(zB A++List.replicate (4-(zB A).length) 0).length=4:=by simp;omega
 refine go9 ?_
 refine zR9 (.head _) (fun ad cap hsh hcap=>?_)
 have eq1:kG 1 v24 0 (zB A).length (zB A).length=.slice (if(zB A).length=0 then ad else ad.map (·.add (0*1))) ((zB A).length-0) ((zB A).length-0):=by rw[hsh];rfl
 refine gv (zCM mh0 _ _ underlying22 sizeOf127 rfl rfl rfl rfl rfl oM oM) rfl (gv (yO (ps':=[(0,_),(1,_)]) (vs:=[vB s,kG 1 v24 0 _ _,.slice none 0 0]) underlying26 yN rfl (vD underlying26) e4z (yX (A:=[]) (B:=[_]) (C:=[_,_]) (cs:=[_]) (off:=0) (size:=1) rfl rfl rfl rfl rfl (yX (A:=[_]) (B:=[_]) (C:=[_]) (cs:=[_]) (off:=1) (size:=1) rfl rfl rfl rfl (by rw[eq1];rfl) vZ))) rfl (zF (wA (cs:=[vB ((0:Rat).num<0),.slice none 0 0,.slice none 0 0]) yN rfl (by simp only[zb];rfl)) rfl rfl rfl ?_))
 intro v10 r10 hr10
 obtain⟨b10,rfl,rfl⟩:=hr10
 refine xO (A:=[]) (r':=.var b10 26 [vB s,kG 1 v24 0 _ _,.slice none 0 0]) (zG (k:=0) (cs:=[_,_,_]) (vs:=[vB s,kG 1 v24 0 _ _,.slice none 0 0]) rfl rfl rfl (by rw[eq1];rfl) zU (bL rfl)) rfl rfl rfl ?_
 refine go6 ?_
 refine gv (lP (k:=.u64) (q:=1) rfl rfl) rfl ?_
 refine go2 ?_
 refine cnd (fun hc35=>?_) fun hc35=>?_
 ·
  refine go5 ?_
  refine gv (zCL mh1 _ underlying22 sizeOf127 rfl rfl rfl oM) rfl ?_
  refine go1 ?_
  refine zIV (A:=[_]) ?_
  refine oZ (vs:=[_,_]) rfl rfl rfl rfl call165 e2z (fun w hs=>zEP (lo:=(zB A).length) (by rfl) oM hd1 oM hs) ?_
  intro v41 g41 L41 hr41
  obtain⟨e1,e2,hr41⟩:=hr41
  rw[e1,e2]
  clear e1 e2 g41 L41
  subst hr41
  rw[show List.take (zB A).length (zB A++List.replicate (4-(zB A).length) 0)++zB B++List.drop ((zB A).length+(zB B).length) (zB A++List.replicate (4-(zB A).length) 0)=zB A++zB B++List.replicate (4-(zB A).length-(zB B).length) 0 from by simp]
  have hlen5:(zB A++zB B++List.replicate (4-(zB A).length-(zB B).length) 0).length=4:=by simp;omega
  refine go9 ?_
  have eq2:kG 1 v24 (zB A).length ((zB A).length+(zB B).length) ((zB A).length+(zB B).length)=.slice (if(zB A).length+(zB B).length=(zB A).length then ad else ad.map (·.add ((zB A).length*1))) ((zB A).length+(zB B).length-(zB A).length) ((zB A).length+(zB B).length-(zB A).length):=by rw[hsh];rfl
  refine gv (zD4 mh0 ((zB A).length) ((zB A).length+(zB B).length) ((zB A).length+(zB B).length) underlying22 sizeOf127 rfl rfl rfl rfl oM oM oM oM oM oM) rfl ?_
  refine go1 ?_
  refine xO (A:=[_]) (r':=.var b10 26 [vB s,kG 1 v24 0 _ _,kG 1 v24 ((zB A).length) ((zB A).length+(zB B).length) ((zB A).length+(zB B).length)]) (zG (k:=2) (cs:=[_,_,_]) (vs:=[kG 1 v24 ((zB A).length) ((zB A).length+(zB B).length) ((zB A).length+(zB B).length)]) rfl rfl (by rw[eq2];rfl) (by rw[eq2];rfl) zPV (bL rfl)) rfl rfl rfl ?_
  refine go4 ?_
  refine yG (by first|exact wY (wY (xR A) (xR B)) (qD _)|exact wY (xR A) (qD _)) ?_
  intro h2 hh2 hz
  refine go1 ?_
  refine xO (A:=[_]) (r':=.var b6 26 [vB s,kG 1 v24 0 _ _,kG 1 v24 ((zB A).length) ((zB A).length+(zB B).length) ((zB A).length+(zB B).length)]) (zG (k:=0) (cs:=[_,_,_]) (vs:=[vB s,kG 1 v24 0 _ _,kG 1 v24 ((zB A).length) ((zB A).length+(zB B).length) ((zB A).length+(zB B).length)]) rfl rfl rfl (by rw[eq1,eq2];rfl) zU (bL rfl)) rfl rfl rfl ?_
  refine go3 ?_
  refine yE (fun E S=>zP rfl (xE (cs:=[_,_,_]) mh1 underlying26 rfl zU rfl) E S) ?_
  have z1:=hz.sub3 (lo:=0) (hi:=(zB A).length) (mx:=(zB A).length) oM oM oM
  have z2:=hz.sub3 (lo:=(zB A).length) (hi:=(zB A).length+(zB B).length) (mx:=(zB A).length+(zB B).length) oM oM oM
  refine wI.make hn0 hd0 ?_ ?_
  · rw[hA];simpa using z1
  · rw[hB];rw[cT oM];simpa using z2
 refine go4 ?_
 refine zEB (by first|exact wY (wY (xR A) (xR B)) (qD _)|exact wY (xR A) (qD _)) ?_
 intro h2 hh2 hz
 refine go1 ?_
 refine xO (A:=[_]) (r':=.var b6 26 [vB s,kG 1 v24 0 _ _,.slice none 0 0]) (zG (k:=0) (cs:=[_,_,_]) (vs:=[vB s,kG 1 v24 0 _ _,.slice none 0 0]) rfl rfl rfl (by rw[eq1];rfl) zU (bL rfl)) rfl rfl rfl ?_
 refine go3 ?_
 refine yE (fun E S=>zP rfl (xE (cs:=[_,_,_]) mh1 underlying26 rfl zU rfl) E S) ?_
 have z1:=hz.sub3 (lo:=0) (hi:=(zB A).length) (mx:=(zB A).length) oM oM oM
 refine wI.make hn0 hd0 ?_ ?_
 · rw[hA];simpa using z1
 · rw[hB];rw[show B=1 by omega,pV,yR];exact Us.nil _ _
theorem sT{w0:World}{h0:Mem}(hs:MLe h0 (mem w0)){qa:Rat}{vna vda:Value}(hna:Us .u32 h0 vna (zB qa.num.natAbs))(hda:Us .u32 h0 vda (zB (xT qa.den))):
    Calls Tryz.prog 117 #[.agg #[vB (qa.num<0),vna,vda]] w0 (Ret w0 h0 (fun _ r=>r=.tuple #[vU .u64 (pN qa),vU .u64 (pD qa),vB (fS qa)])):=by
 refine cb1 30 (.agg #[vB (qa.num<0),vna,vda]) func117 hs ?_
 refine go2 ?_
 refine zF (xD (cs:=[_,_,_]) rfl rfl) rfl rfl rfl ?_
 intro v1 r1 hr1
 obtain⟨b1,rfl,rfl⟩:=hr1
 refine asg (v:=vU .u64 0) rfl rfl (asg (v:=vU .u64 0) rfl rfl ?_)
 refine vO ?_
 refine gU 6 14 (vB (((1:Int)<(↑(zB qa.num.natAbs).length:Int))∨((1:Int)<(↑(zB (xT qa.den)).length:Int)))) ?_ ?_
 ·
  refine yB ((1:Int)<(↑(zB qa.num.natAbs).length:Int)) (fun hg=>?_) (fun hg=>?_)
  ·
   refine gT hg rfl ?_
   refine go6 ?_
   refine gqU ?_
   exact congrArg some (uA hg)
  refine gF hg rfl ?_
  refine vO ?_
  refine gqU ?_
  exact congrArg some (uC hg)
 refine go2 ?_
 refine cnd (fun hc14=>?_) fun hc14=>?_
 ·
  have hns:¬fS qa:=zJV hc14
  refine go2 ?_
  refine asg (v:=vU .u64 0) rfl rfl (asg (v:=vU .u64 0) rfl rfl ?_)
  refine go5 ?_
  refine qX rfl rfl rfl rfl ?_
  rw[pN_f hns,pD_f hns,yU hns]
 have hsm:fS qa:=zNQ hc14
 have hsn:=gP hsm
 have hsd:=gQ hsm
 refine go4 ?_
 refine asg (v:=vU .u64 1) rfl rfl ?_
 refine uP ?_
 refine cnd (fun hc18=>?_) fun hc18=>?_
 ·
  have hd1:(zB (xT qa.den)).getD 0 0=qa.den:=zSI hc18
  refine go3 ?_
  refine gv (zO (q:=0) (0) underlying22 sizeOf127 rfl rfl hda rfl oM) rfl ?_
  refine go1 ?_
  rw[hd1]
  refine go8 ?_
  refine cL (ev1 rfl) call163 (fun w hs=>x0 hs hna oM) fun v26 h1 hh1 hr26=>?_
  try simp only[zC] at hr26
  subst hr26
  refine go2 ?_
  refine gv (OpV.tr (by have:=qa.den_nz;omega) (fF (k:=.u64) (q:=0) rfl rfl)) rfl ?_
  refine go6 ?_
  refine qX rfl rfl rfl rfl ?_
  rw[zD2 hsm,zD3 hsm,xL hsm]
 have hd1:qa.den=1:=zSJ hc18 hsm
 refine go6 ?_
 refine cL (ev1 rfl) call163 (fun w hs=>x0 hs hna oM) fun v26 h1 hh1 hr26=>?_
 try simp only[zC] at hr26
 subst hr26
 refine go2 ?_
 refine gv (OpV.tr (by have:=qa.den_nz;omega) (fF (k:=.u64) (q:=0) rfl rfl)) rfl ?_
 refine go6 ?_
 refine qX rfl rfl rfl rfl ?_
 rw[zD2 hsm,zD3 hsm,xL hsm,hd1]
theorem jQ{w0:World}{h0:Mem}(hs:MLe h0 (mem w0)){s:Prop}{vn vd:Value}{xs ys:List Nat}(hn:Us .u32 h0 vn xs)(hd:Us .u32 h0 vd ys)(hl:xs.length≤1000000000000)(hl':ys.length≤1000000000000):
    Calls Tryz.prog 119 #[vB s,vn,vd] w0 (Ret w0 h0 (fun h r=>wI h r (mkRat (sg s (val xs)) (val ys)))):=by
 have hbx:=kT (n:=val xs)
 have hby:=kT (n:=val ys)
 have hlx:=wR hn.lt
 have hly:=wR hd.lt
 refine cb3 68 (vB s) vn vd func119 hs ?_
 refine go2 ?_
 refine zF (wA (cs:=[vB ((0:Rat).num<0),.slice none 0 0,.slice none 0 0]) yN rfl (by simp only[zb];rfl)) rfl rfl rfl ?_
 intro v6 r6 hr6
 obtain⟨b6,rfl,rfl⟩:=hr6
 refine go6 ?_
 refine cL (ev1 rfl) call94 (fun w hs=>pP hs hn oM) fun v9 h1 hh1 hr9=>?_
 try simp only[zC] at hr9
 subst hr9
 refine go1 ?_
 refine uO (ι:=Mem) 5 (fun m_=>MLe h1 m_) (fun _=>[(15,vB (((↑(xY (val (xs))):Int)=(0:Int))∨((↑(xY (val (ys))):Int)=(0:Int)))),(0,vB s),(1,vn),(2,vd),(6,vP b6 0)]) (fun _=>[.var b6 26 [vB ((0:Rat).num<0),.slice none 0 0,.slice none 0 0]]) (fun m_=>m_) ?_ ?_
 ·
  refine yB ((↑(xY (val (xs))):Int)=(0:Int)) (fun hg=>?_) (fun hg=>?_)
  ·
   refine gT hg rfl ?_
   refine go5 ?_
   refine zN h1 (MLe.refl _) ⟨?_,rfl,rfl,rfl,rfl,trivial⟩ rfl rfl
   exact congrArg some (uA hg)
  refine gF hg rfl ?_
  refine go3 ?_
  replace hd:=hd.mono hh1
  refine cL (ev1 rfl) call94 (fun w hs=>pP hs hd oM) fun v13 h2 hh2 hr13=>?_
  try simp only[zC] at hr13
  subst hr13
  refine go4 ?_
  refine zN h2 hh2 ⟨?_,rfl,rfl,rfl,rfl,trivial⟩ rfl rfl
  exact congrArg some (uC hg)
 intro mg1_3 hmmg1_3
 refine tJ ?_
 refine go2 ?_
 refine cnd (fun hc15=>?_) fun hc15=>?_
 ·
  refine go2 ?_
  refine gv (yO (ps':=[]) (vs:=[vB ((0:Rat).num<0),.slice none 0 0,.slice none 0 0]) underlying26 yN rfl (vD underlying26) trivial (by simp only[zb];exact vZ)) rfl (xO (A:=[]) (r':=.var b6 26 [vB ((0:Rat).num<0),.slice none 0 0,.slice none 0 0]) (zG (k:=0) (cs:=[_,_,_]) (vs:=[_,_,_]) rfl rfl rfl rfl zU (bL rfl)) rfl rfl rfl ?_)
  refine go4 ?_
  refine yE (fun E S=>zP rfl (xE (cs:=[_,_,_]) mh0 underlying26 rfl zU rfl) E S) ?_
  rcases hc15 with h|h
  · rw[show val xs=0 by omega,q5];exact wI.zero _
  · rw[show val ys=0 by omega,q4];exact wI.zero _
 have hn0:val xs≠0:=fun h=>hc15 (.inl oM)
 have hd0:val ys≠0:=fun h=>hc15 (.inr oM)
 replace hn:=hn.mono (hh1.trans hmmg1_3)
 refine go8 ?_
 refine gU 5 24 (vB (((↑(xs).length:Int)≤(2:Int))∧((↑(ys).length:Int)≤(2:Int)))) ?_ ?_
 ·
  refine yB ((↑(xs).length:Int)≤(2:Int)) (fun hg=>?_) (fun hg=>?_)
  ·
   refine gT hg rfl ?_
   replace hd:=hd.mono (hh1.trans hmmg1_3)
   refine go8 ?_
   refine gqU ?_
   exact congrArg some (xM hg)
  refine gF hg rfl ?_
  refine go5 ?_
  refine gqU ?_
  exact congrArg some (xN hg)
 refine go2 ?_
 refine cnd (fun hc24=>?_) fun hc24=>?_
 ·
  have hnw:=aI (n:=val xs) oM
  have hdw:=aI (n:=val ys) oM
  refine go4 ?_
  refine cL (ev1 rfl) call163 (fun w hs=>x0 hs hn oM) fun v27 h2 hh2 hr27=>?_
  try simp only[zC] at hr27
  subst hr27
  refine go1 ?_
  replace hd:=hd.mono ((hh1.trans hmmg1_3).trans hh2)
  refine cL (ev1 rfl) call163 (fun w hs=>x0 hs hd oM) fun v29 h3 hh3 hr29=>?_
  try simp only[zC] at hr29
  subst hr29
  refine cL (ev3 rfl rfl rfl) call118 (fun w hs=>cX hs oM oM oM) fun v30 h4 hh4 hr30=>?_
  obtain⟨vn30,vd30,rfl,hn30,hd30⟩:=hr30
  refine xO (A:=[]) (r':=.var b6 26 [vB ((mkRat (sg (s) (val (xs))) (val (ys))).num<0),vn30,vd30]) (zG (k:=0) (cs:=[_,_,_]) (vs:=[_,_,_]) rfl rfl rfl (ocr rfl (ocu hn30 (ocu hd30 oc0))) zU (bL rfl)) rfl rfl rfl ?_
  refine go4 ?_
  refine yE (fun E S=>zP rfl (xE (cs:=[_,_,_]) mh0 underlying26 rfl zU rfl) E S) ?_
  exact⟨_,_,rfl,hn30,hd30⟩
 refine go7 ?_
 replace hd:=hd.mono (hh1.trans hmmg1_3)
 refine cL (ev2 rfl rfl) call166 (fun w hs=>zUY hs hn hd oM oM) fun v33 h2 hh2 hr33=>?_
 try simp only[zC] at hr33
 have hlm33:=iG (val (xs)) (val (ys))
 have hg0:Nat.gcd (val xs) (val ys)≠0:=Nat.ne_of_gt (Nat.gcd_pos_of_pos_left _ oM)
 have hgl:=zM (Nat.le_of_dvd oM (Nat.gcd_dvd_left (val xs) (val ys)))
 refine go6 ?_
 refine cL (ev1 rfl) call94 (fun w hs=>pP hs hr33 oM) fun v35 h3 hh3 hr35=>?_
 try simp only[zC] at hr35
 subst hr35
 refine go3 ?_
 refine cnd (fun hc36=>?_) fun hc36=>?_
 ·
  refine go4 ?_
  replace hn:=hn.mono (hh2.trans hh3)
  replace hr33:=hr33.mono hh3
  refine cL (ev2 rfl rfl) call147 (fun w hs=>eR hs hn hr33 oM oM) fun v40 h4 hh4 hr40=>?_
  obtain⟨q40,r40,rfl,hq40,hr40⟩:=hr40
  try simp only[zC] at hq40 hr40 ⊢
  have hlm40:=zM (Nat.div_le_self (val (xs)) (((Nat.gcd (val (xs)) (val (ys))))))
  have hl7:=zM (Nat.div_le_self (val xs) (Nat.gcd (val xs) (val ys)))
  refine vO ?_
  replace hd:=hd.mono ((hh2.trans hh3).trans hh4)
  replace hr33:=hr33.mono hh4
  refine cL (ev2 rfl rfl) call147 (fun w hs=>eR hs hd hr33 oM oM) fun v47 h5 hh5 hr47=>?_
  obtain⟨q47,r47,rfl,hq47,hr47⟩:=hr47
  try simp only[zC] at hq47 hr47 ⊢
  have hlm47:=zM (Nat.div_le_self (val (ys)) (((Nat.gcd (val (xs)) (val (ys))))))
  have hl8:=zM (Nat.div_le_self (val ys) (Nat.gcd (val xs) (val ys)))
  refine vO ?_
  replace hq40:=hq40.mono hh5
  refine cL (ev2 rfl rfl) call100 (fun w hs=>aG hs hq40 (Us.nil _ _) (by first|omega|(simp only[lN];omega)) (by first|omega|(simp only[lN];omega))) fun v52 h6 hh6 hr52=>?_
  try simp only[zC] at hr52
  have hlm52:=uE ((((val (xs))/(((Nat.gcd (val (xs)) (val (ys)))))))) (val ([]))
  refine go1 ?_
  replace hq47:=hq47.mono hh6
  refine cL (ev2 rfl rfl) call100 (fun w hs=>aG hs hq47 (Us.nil _ _) (by first|omega|(simp only[lN];omega)) (by first|omega|(simp only[lN];omega))) fun v54 h7 hh7 hr54=>?_
  try simp only[zC] at hr54
  have hlm54:=uE ((((val (ys))/(((Nat.gcd (val (xs)) (val (ys)))))))) (val ([]))
  refine vO ?_
  refine gU 6 63 (vB (((↑(zB (((((val (ys))/(((Nat.gcd (val (xs)) (val (ys))))))))+(val ([])))).length:Int)=(1:Int))∧(((zB (((((val (ys))/(((Nat.gcd (val (xs)) (val (ys))))))))+(val ([])))).getD (0) 0)=(1:Nat)))) ?_ ?_
  ·
   refine yB ((↑(zB (((((val (ys))/(((Nat.gcd (val (xs)) (val (ys))))))))+(val ([])))).length:Int)=(1:Int)) (fun hg=>?_) (fun hg=>?_)
   ·
    refine gT hg rfl ?_
    refine go3 ?_
    refine gv (zO (q:=0) (0) underlying22 sizeOf127 rfl rfl hr54 rfl oM) rfl ?_
    refine go3 ?_
    refine gv (gB (k:=.u32) (q:=1) rfl rfl) rfl ?_
    refine go2 ?_
    refine gqU ?_
    exact congrArg some (xM hg)
   refine gF hg rfl ?_
   refine go6 ?_
   refine gqU ?_
   exact congrArg some (xN hg)
  refine go2 ?_
  refine cnd (fun hc63=>?_) fun hc63=>?_
  ·
   refine go9 ?_
   replace hr52:=hr52.mono hh7
   refine gv (yO (ps':=[(0,_),(1,_),(2,_)]) (vs:=[vB s,v52,.slice none 0 0]) underlying26 yN rfl (vD underlying26) e6z (yX (A:=[]) (B:=[_]) (C:=[_,_]) (cs:=[_]) (off:=0) (size:=1) rfl rfl rfl rfl rfl (yX (A:=[_]) (B:=[_]) (C:=[_]) (cs:=[_]) (off:=1) (size:=1) rfl rfl rfl rfl hr52.cells (yX (A:=[_,_]) (B:=[_]) (C:=[]) (cs:=[_]) (off:=2) (size:=1) rfl rfl rfl rfl rfl vZ)))) rfl (xO (A:=[]) (r':=.var b6 26 [vB s,v52,.slice none 0 0]) (zG (k:=0) (cs:=[_,_,_]) (vs:=[_,_,_]) rfl rfl rfl (ocr rfl (ocu hr52 (ocr rfl oc0))) zU (bL rfl)) rfl rfl rfl ?_)
   refine go3 ?_
   refine yE (fun E S=>zP rfl (xE (cs:=[_,_,_]) mh0 underlying26 rfl zU rfl) E S) ?_
   exact wI.fin1 hn0 hd0 hr52 hc63
  refine go7 ?_
  replace hr52:=hr52.mono hh7
  refine gv (yO (ps':=[(0,_),(1,_),(2,_)]) (vs:=[vB s,v52,v54]) underlying26 yN rfl (vD underlying26) e6z (yX (A:=[]) (B:=[_]) (C:=[_,_]) (cs:=[_]) (off:=0) (size:=1) rfl rfl rfl rfl rfl (yX (A:=[_]) (B:=[_]) (C:=[_]) (cs:=[_]) (off:=1) (size:=1) rfl rfl rfl rfl hr52.cells (yX (A:=[_,_]) (B:=[_]) (C:=[]) (cs:=[_]) (off:=2) (size:=1) rfl rfl rfl rfl hr54.cells vZ)))) rfl (xO (A:=[]) (r':=.var b6 26 [vB s,v52,v54]) (zG (k:=0) (cs:=[_,_,_]) (vs:=[_,_,_]) rfl rfl rfl (ocr rfl (ocu hr52 (ocu hr54 oc0))) zU (bL rfl)) rfl rfl rfl ?_)
  refine go3 ?_
  refine yE (fun E S=>zP rfl (xE (cs:=[_,_,_]) mh0 underlying26 rfl zU rfl) E S) ?_
  exact wI.fin hn0 hd0 hr52 hr54 hc63
 refine go5 ?_
 replace hn:=hn.mono (hh2.trans hh3)
 refine cL (ev2 rfl rfl) call100 (fun w hs=>aG hs hn (Us.nil _ _) (by first|omega|(simp only[lN];omega)) (by first|omega|(simp only[lN];omega))) fun v52 h4 hh4 hr52=>?_
 try simp only[zC] at hr52
 have hlm52:=uE (val (xs)) (val ([]))
 refine go1 ?_
 replace hd:=hd.mono ((hh2.trans hh3).trans hh4)
 refine cL (ev2 rfl rfl) call100 (fun w hs=>aG hs hd (Us.nil _ _) (by first|omega|(simp only[lN];omega)) (by first|omega|(simp only[lN];omega))) fun v54 h5 hh5 hr54=>?_
 try simp only[zC] at hr54
 have hlm54:=uE (val (ys)) (val ([]))
 refine vO ?_
 refine gU 6 63 (vB (((↑(zB ((val (ys))+(val ([])))).length:Int)=(1:Int))∧(((zB ((val (ys))+(val ([])))).getD (0) 0)=(1:Nat)))) ?_ ?_
 ·
  refine yB ((↑(zB ((val (ys))+(val ([])))).length:Int)=(1:Int)) (fun hg=>?_) (fun hg=>?_)
  ·
   refine gT hg rfl ?_
   refine go3 ?_
   refine gv (zO (q:=0) (0) underlying22 sizeOf127 rfl rfl hr54 rfl oM) rfl ?_
   refine go3 ?_
   refine gv (gB (k:=.u32) (q:=1) rfl rfl) rfl ?_
   refine go2 ?_
   refine gqU ?_
   exact congrArg some (xM hg)
  refine gF hg rfl ?_
  refine go6 ?_
  refine gqU ?_
  exact congrArg some (xN hg)
 refine go2 ?_
 refine cnd (fun hc63=>?_) fun hc63=>?_
 ·
  refine go9 ?_
  replace hr52:=hr52.mono hh5
  refine gv (yO (ps':=[(0,_),(1,_),(2,_)]) (vs:=[vB s,v52,.slice none 0 0]) underlying26 yN rfl (vD underlying26) e6z (yX (A:=[]) (B:=[_]) (C:=[_,_]) (cs:=[_]) (off:=0) (size:=1) rfl rfl rfl rfl rfl (yX (A:=[_]) (B:=[_]) (C:=[_]) (cs:=[_]) (off:=1) (size:=1) rfl rfl rfl rfl hr52.cells (yX (A:=[_,_]) (B:=[_]) (C:=[]) (cs:=[_]) (off:=2) (size:=1) rfl rfl rfl rfl rfl vZ)))) rfl (xO (A:=[]) (r':=.var b6 26 [vB s,v52,.slice none 0 0]) (zG (k:=0) (cs:=[_,_,_]) (vs:=[_,_,_]) rfl rfl rfl (ocr rfl (ocu hr52 (ocr rfl oc0))) zU (bL rfl)) rfl rfl rfl ?_)
  refine go3 ?_
  refine yE (fun E S=>zP rfl (xE (cs:=[_,_,_]) mh0 underlying26 rfl zU rfl) E S) ?_
  have hg1:=zFL hc36 hg0
  exact wI.fin1 hn0 hd0 (by rw[hg1,Nat.div_one];exact hr52) (by rw[hg1,Nat.div_one];exact hc63)
 refine go7 ?_
 replace hr52:=hr52.mono hh5
 refine gv (yO (ps':=[(0,_),(1,_),(2,_)]) (vs:=[vB s,v52,v54]) underlying26 yN rfl (vD underlying26) e6z (yX (A:=[]) (B:=[_]) (C:=[_,_]) (cs:=[_]) (off:=0) (size:=1) rfl rfl rfl rfl rfl (yX (A:=[_]) (B:=[_]) (C:=[_]) (cs:=[_]) (off:=1) (size:=1) rfl rfl rfl rfl hr52.cells (yX (A:=[_,_]) (B:=[_]) (C:=[]) (cs:=[_]) (off:=2) (size:=1) rfl rfl rfl rfl hr54.cells vZ)))) rfl (xO (A:=[]) (r':=.var b6 26 [vB s,v52,v54]) (zG (k:=0) (cs:=[_,_,_]) (vs:=[_,_,_]) rfl rfl rfl (ocr rfl (ocu hr52 (ocu hr54 oc0))) zU (bL rfl)) rfl rfl rfl ?_)
 refine go3 ?_
 refine yE (fun E S=>zP rfl (xE (cs:=[_,_,_]) mh0 underlying26 rfl zU rfl) E S) ?_
 have hg1:=zFL hc36 hg0
 exact wI.fin hn0 hd0 (by rw[hg1,Nat.div_one];exact hr52) (by rw[hg1,Nat.div_one];exact hr54) (by rw[hg1,Nat.div_one];exact hc63)
end Go.Proofs.YtboaboflnckgoaaGreat
namespace Go.Proofs.YtboaboflnckgoaaGreat
open Bk Go Tryz
set_option linter.unusedVariables false
set_option linter.unusedSimpArgs false
set_option maxRecDepth 10000
set_option maxHeartbeats 1000000
attribute [local irreducible] GL GC GQ W OpV
theorem zHB{w0:World}{h0:Mem}(hs:MLe h0 (mem w0)){v v':Value}{xs ys:List Nat}(hv:Us .u32 h0 v xs)(hv':Us .u32 h0 v' ys):
    Calls Tryz.prog 161 #[v,v'] w0 (Ret w0 h0 (fun _ r=>r=vB (xs=ys))):=by
 have hlen:=hv.lt63
 have hlen':=hv'.lt63
 refine cb2 26 v v' func161 hs ?_
 refine uP ?_
 refine gv (wP underlying22 rfl hv') rfl ?_
 refine go3 ?_
 refine cnd (fun hc10=>?_) fun hc10=>?_
 ·
  refine go7 ?_
  refine zD rfl rfl ?_
  rw[yU (fun e=>hc10 (by rw[e]))]
 have hll:xs.length=ys.length:=by omega
 refine uP ?_
 refine gcL (ι:=Nat) (fun(i:(Nat))=>(i≤xs.length∧xs.take i=ys.take i,[(0,v),(1,v'),(12,vI ↑xs.length),(13,vI ↑i)],[],h0,xs.length-i)) 0 ?_ ?_
 ·
  exact⟨by omega,by simp⟩
 intro i hx
 dsimp only at hx
 obtain⟨hi,ht⟩:=hx
 refine yS ?_
 refine go6 ?_
 refine cnd (fun hc14=>?_) fun hc14=>?_
 ·
  refine uP ?_
  refine gD 9 (qq 0 9 []) (by kernel_rfl) ?_
  refine go2 ?_
  refine w_q rfl (fun h' L' hh hR=>zO (i) underlying22 sizeOf127 rfl rfl (hv.mono hh) oM oM) rfl (w_q rfl (fun h' L' hh hR=>xG isAgg127 rfl (hv.mono hh) oM) rfl ?_)
  refine go2 ?_
  refine w_q rfl (fun h' L' hh hR=>zO (i) underlying22 sizeOf127 rfl rfl (hv'.mono hh) oM oM) rfl (w_q rfl (fun h' L' hh hR=>xG isAgg127 rfl (hv'.mono hh) oM) rfl ?_)
  refine go3 ?_
  refine cnd (fun hc24=>?_) fun hc24=>?_
  ·
   refine uP ?_
   refine zD rfl rfl ?_
   rw[yU (fun e=>hc24 (by rw[e]))]
  refine go7 ?_
  refine gqL (i+1) ?_ ?_ (he:=⟨rfl,rfl,rfl,?_,trivial⟩)
  ·
   refine⟨by omega,?_⟩
   rw[eG xs i oM,eG ys i oM,ht]
   have e:=Classical.not_not.1 hc24
   rw[e]
  ·
   omega
  · exact congrArg some (congrArg vI oM)
 refine uP ?_
 refine zD rfl rfl ?_
 have e1:xs=ys:=by
   have e:i=xs.length:=by omega
   rw[e,List.take_length,hll,List.take_length] at ht
   exact ht
 rw[xL e1]
theorem w3{w0:World}{h0:Mem}(hs:MLe h0 (mem w0)){qa:Rat}{vna vda:Value}(hna:Us .u32 h0 vna (zB qa.num.natAbs))(hda:Us .u32 h0 vda (zB (xT qa.den)))(hqa:lq qa≤100000000000):
    Calls Tryz.prog 51 #[.agg #[vB (qa.num<0),vna,vda]] w0 (Ret w0 h0 (fun _ r=>r=vI (xH qa))):=by
 have hlna:=wE qa
 have hlda:=wO qa
 have hlDa:=wB qa
 refine cb1 11 (.agg #[vB (qa.num<0),vna,vda]) func51 hs ?_
 refine go2 ?_
 refine zF (xD (cs:=[_,_,_]) rfl rfl) rfl rfl rfl ?_
 intro v1 r1 hr1
 obtain⟨b1,rfl,rfl⟩:=hr1
 refine go9 ?_
 refine cL (ev1 rfl) call94 (fun w hs=>pP hs hna oM) fun v6 h1 hh1 hr6=>?_
 try simp only[zC] at hr6
 subst hr6
 refine go4 ?_
 refine cnd (fun hc3=>?_) fun hc3=>?_
 ·
  refine go8 ?_
  refine zD rfl rfl ?_
  rw[aY (zD7 hc3)]
 refine go7 ?_
 refine cnd (fun hc8=>?_) fun hc8=>?_
 ·
  refine go8 ?_
  refine zD rfl rfl ?_
  rw[y0 hc8]
 refine go9 ?_
 refine zD rfl rfl ?_
 rw[z9 (fun h=>hc3 (zED h)) hc8]
theorem zL7{w0:World}{h0:Mem}(hs:MLe h0 (mem w0)){qa:Rat}{vna vda:Value}(hna:Us .u32 h0 vna (zB qa.num.natAbs))(hda:Us .u32 h0 vda (zB (xT qa.den))){qb:Rat}{vnb vdb:Value}(hnb:Us .u32 h0 vnb (zB qb.num.natAbs))(hdb:Us .u32 h0 vdb (zB (xT qb.den)))(hqa:lq qa≤100000000000)(hqb:lq qb≤100000000000):
    Calls Tryz.prog 184 #[.agg #[vB (qa.num<0),vna,vda],.agg #[vB (qb.num<0),vnb,vdb]] w0 (Ret w0 h0 (fun _ r=>r=vI (wG qa qb))):=by
 have hlna:=wE qa
 have hlda:=wO qa
 have hlDa:=wB qa
 have hlnb:=wE qb
 have hldb:=wO qb
 have hlDb:=wB qb
 refine cb2 80 (.agg #[vB (qa.num<0),vna,vda]) (.agg #[vB (qb.num<0),vnb,vdb]) func184 hs ?_
 refine go2 ?_
 refine zF (xD (cs:=[_,_,_]) rfl rfl) rfl rfl rfl ?_
 intro v2 r2 hr2
 obtain⟨b2,rfl,rfl⟩:=hr2
 refine zF (xD (cs:=[_,_,_]) rfl rfl) rfl rfl rfl ?_
 intro v3 r3 hr3
 obtain⟨b3,rfl,rfl⟩:=hr3
 refine go5 ?_
 refine gD 6 [(0,.q),(2,.q),(1,.c),(3,.c),(4,.q),(5,.q)] (by kernel_rfl) ?_
 refine go2 ?_
 refine w_c rfl (sC (ev1 rfl) call51 (fun w hs=>w3 hs hna hda oM) fun v15 h1 hh1 hr15=>?_)
 have hsr15:=wH qa
 subst hr15
 refine w_c rfl ?_
 replace hnb:=hnb.mono hh1
 replace hdb:=hdb.mono hh1
 refine sC (ev1 rfl) call51 (fun w hs=>w3 hs hnb hdb oM) fun v17 h2 hh2 hr17=>?_
 have hsr17:=wH qb
 subst hr17
 refine uP ?_
 refine cnd (fun hc20=>?_) fun hc20=>?_
 ·
  refine go8 ?_
  refine cnd (fun hc23=>?_) fun hc23=>?_
  ·
   refine go8 ?_
   refine zD rfl rfl ?_
   rw[t0 hc20,if_pos hc23]
  refine go9 ?_
  refine zD rfl rfl ?_
  rw[t0 hc20,if_neg hc23]
 have hss:=zHD hc20
 refine go7 ?_
 refine qK (ι:=Mem) (fun(mc:(Mem))=>MLe h2 mc∧(True)) (fun(mc:(Mem))=>[(2,vP b2 0),(7,vI (cN qa qb))]) (fun(mc:(Mem))=>[.var b3 26 [vB (qb.num<0),vnb,vdb],.var b2 26 [vB (qa.num<0),vna,vda]]) (fun(mc:(Mem))=>mc) ?_ ?_
 ·
  refine go3 ?_
  replace hna:=hna.mono (hh1.trans hh2)
  replace hda:=hda.mono (hh1.trans hh2)
  refine cL (ev1 rfl) call117 (fun w hs=>sT hs hna hda) fun v26 h3 hh3 hr26=>?_
  subst hr26
  refine j5 ?_
  replace hda:=hda.mono hh3
  replace hdb:=hdb.mono (hh2.trans hh3)
  refine cL (ev2 rfl rfl) call161 (fun w hs=>zHB hs hda hdb) fun v34 h4 hh4 hr34=>?_
  subst hr34
  refine go2 ?_
  refine cnd (fun hc34=>?_) fun hc34=>?_
  ·
   refine go5 ?_
   replace hna:=hna.mono (hh3.trans hh4)
   replace hnb:=hnb.mono ((hh2.trans hh3).trans hh4)
   refine cL (ev2 rfl rfl) call98 (fun w hs=>eS hs hna hnb) fun v39 h5 hh5 hr39=>?_
   try simp only[zC] at hr39
   subst hr39
   refine go2 ?_
   refine zN (h5) ?_ ⟨rfl,?_,trivial⟩ rfl rfl
   ·
    refine⟨((hh3.trans hh4).trans hh5),?_⟩
    trivial
   · exact congrArg some (congrArg vI ((zZV hc34).symm))
  refine go3 ?_
  replace hnb:=hnb.mono ((hh2.trans hh3).trans hh4)
  replace hdb:=hdb.mono hh4
  refine cL (ev1 rfl) call117 (fun w hs=>sT hs hnb hdb) fun v42 h5 hh5 hr42=>?_
  subst hr42
  refine uN ?_
  refine gU 3 49 (vB ((fS qa)∧(fS qb))) ?_ ?_
  ·
   refine yB (fS qa) (fun hg=>?_) (fun hg=>?_)
   ·
    refine gT hg rfl ?_
    refine go4 ?_
    refine gqU ?_
    exact congrArg some (xM hg)
   refine gF hg rfl ?_
   refine go3 ?_
   refine gqU ?_
   exact congrArg some (xN hg)
  refine go2 ?_
  refine cnd (fun hc49=>?_) fun hc49=>?_
  ·
   have hsa:=hc49.1
   have hsb:=hc49.2
   have hpa:=gP hsa
   have hra:=gQ hsa
   have hpb:=gP hsb
   have hrb:=gQ hsb
   have hm1:=qM hpa hrb
   have hm2:=qM hpb hra
   rw[zD2 hsa,zD3 hsa,zD2 hsb,zD3 hsb]
   refine uP ?_
   refine cnd (fun hc56=>?_) fun hc56=>?_
   ·
    refine go3 ?_
    refine zN (h5) ?_ ⟨rfl,?_,trivial⟩ rfl rfl
    ·
     refine⟨((hh3.trans hh4).trans hh5),?_⟩
     trivial
    · exact congrArg some (congrArg vI ((t6 hc56).symm))
   refine uP ?_
   refine cnd (fun hc63=>?_) fun hc63=>?_
   ·
    refine go3 ?_
    refine zN (h5) ?_ ⟨rfl,?_,trivial⟩ rfl rfl
    ·
     refine⟨((hh3.trans hh4).trans hh5),?_⟩
     trivial
    · exact congrArg some (congrArg vI ((t7 hc63).symm))
   refine go1 ?_
   refine zN (h5) ?_ ⟨rfl,?_,trivial⟩ rfl rfl
   ·
    refine⟨((hh3.trans hh4).trans hh5),?_⟩
    trivial
   · exact congrArg some (congrArg vI ((zAW.2 oM).symm))
  refine gD 12 (qq 0 3 (qq 5 3 [(3,.c),(4,.c),(8,.c),(9,.c),(10,.c),(11,.q)])) (by kernel_rfl) ?_
  refine go6 ?_
  refine w_c rfl ?_
  replace hnb:=hnb.mono hh5
  replace hdb:=hdb.mono hh5
  refine sC (ev1 rfl) call120 (fun w hs=>gR hs hnb hdb) fun v67 h6 hh6 hr67=>?_
  rw[uK] at hr67
  refine w_c rfl ?_
  replace hna:=hna.mono (((hh3.trans hh4).trans hh5).trans hh6)
  refine sC (ev2 rfl rfl) call99 (fun w hs=>fN hs hna hr67 oM oM) fun v68 h7 hh7 hr68=>?_
  try simp only[zC] at hr68
  have hlm68:=yC ((qa.num.natAbs)) ((qb.den))
  refine w_c rfl ?_
  replace hna:=hna.mono hh7
  replace hda:=hda.mono (((hh4.trans hh5).trans hh6).trans hh7)
  refine sC (ev1 rfl) call120 (fun w hs=>gR hs hna hda) fun v72 h8 hh8 hr72=>?_
  rw[uK] at hr72
  refine w_c rfl ?_
  replace hnb:=hnb.mono ((hh6.trans hh7).trans hh8)
  refine sC (ev2 rfl rfl) call99 (fun w hs=>fN hs hnb hr72 oM oM) fun v73 h9 hh9 hr73=>?_
  try simp only[zC] at hr73
  have hlm73:=yC ((qb.num.natAbs)) ((qa.den))
  refine w_c rfl ?_
  replace hr68:=hr68.mono (hh8.trans hh9)
  refine sC (ev2 rfl rfl) call98 (fun w hs=>eS hs hr68 hr73) fun v74 h10 hh10 hr74=>?_
  try simp only[zC] at hr74
  subst hr74
  refine go2 ?_
  refine zN (h10) ?_ e2z rfl rfl
  refine⟨(((((((hh3.trans hh4).trans hh5).trans hh6).trans hh7).trans hh8).trans hh9).trans hh10),?_⟩
  trivial
 intro mc hx
 obtain⟨hmmc,hcut⟩:=hx
 refine yS ?_
 have hcr:=zJB qa qb
 refine go7 ?_
 refine cnd (fun hc76=>?_) fun hc76=>?_
 ·
  refine go3 ?_
  refine gv (lM rfl oM oM) rfl ?_
  refine go5 ?_
  refine zD rfl rfl ?_
  rw[zM5 hss hc76]
 refine go9 ?_
 refine zD rfl rfl ?_
 rw[zI6 hss hc76]
theorem zUH{w0:World}{h0:Mem}(hs:MLe h0 (mem w0)){qa:Rat}{vna vda:Value}(hna:Us .u32 h0 vna (zB qa.num.natAbs))(hda:Us .u32 h0 vda (zB (xT qa.den))){qb:Rat}{vnb vdb:Value}(hnb:Us .u32 h0 vnb (zB qb.num.natAbs))(hdb:Us .u32 h0 vdb (zB (xT qb.den)))(hqa:lq qa≤100000000000)(hqb:lq qb≤100000000000):
    Calls Tryz.prog 76 #[.agg #[vB (qa.num<0),vna,vda],.agg #[vB (qb.num<0),vnb,vdb]] w0 (Ret w0 h0 (fun h r=>wI h r (qa*qb))):=by
 have hlna:=wE qa
 have hlda:=wO qa
 have hlDa:=wB qa
 have hlnb:=wE qb
 have hldb:=wO qb
 have hlDb:=wB qb
 rw[←zRL]
 refine cb2 64 (.agg #[vB (qa.num<0),vna,vda]) (.agg #[vB (qb.num<0),vnb,vdb]) func76 hs ?_
 refine go2 ?_
 refine zF (xD (cs:=[_,_,_]) rfl rfl) rfl rfl rfl ?_
 intro v2 r2 hr2
 obtain⟨b2,rfl,rfl⟩:=hr2
 refine zF (xD (cs:=[_,_,_]) rfl rfl) rfl rfl rfl ?_
 intro v3 r3 hr3
 obtain⟨b3,rfl,rfl⟩:=hr3
 refine zF (wA (cs:=[vB ((0:Rat).num<0),.slice none 0 0,.slice none 0 0]) yN rfl (by simp only[zb];rfl)) rfl rfl rfl ?_
 intro v4 r4 hr4
 obtain⟨b4,rfl,rfl⟩:=hr4
 refine go9 ?_
 refine gU 6 20 (vB (((↑(zB qa.num.natAbs).length:Int)=(0:Int))∨((↑(zB qb.num.natAbs).length:Int)=(0:Int)))) ?_ ?_
 ·
  refine yB ((↑(zB qa.num.natAbs).length:Int)=(0:Int)) (fun hg=>?_) (fun hg=>?_)
  ·
   refine gT hg rfl ?_
   refine go6 ?_
   refine gqU ?_
   exact congrArg some (uA hg)
  refine gF hg rfl ?_
  refine vO ?_
  refine gqU ?_
  exact congrArg some (uC hg)
 refine go2 ?_
 refine cnd (fun hc20=>?_) fun hc20=>?_
 ·
  refine go2 ?_
  refine gv (yO (ps':=[]) (vs:=[vB ((0:Rat).num<0),.slice none 0 0,.slice none 0 0]) underlying26 yN rfl (vD underlying26) trivial (by simp only[zb];exact vZ)) rfl (xO (A:=[]) (r':=.var b4 26 [vB ((0:Rat).num<0),.slice none 0 0,.slice none 0 0]) (zG (k:=0) (cs:=[_,_,_]) (vs:=[_,_,_]) rfl rfl rfl rfl zU (bL rfl)) rfl rfl rfl ?_)
  refine go4 ?_
  refine yE (fun E S=>zP rfl (xE (cs:=[_,_,_]) mh0 underlying26 rfl zU rfl) E S) ?_
  rcases hc20 with h|h
  · rw[pO h,show(0:Rat).num.natAbs=0 from rfl,Nat.zero_mul,q5];exact wI.zero _
  · rw[pO h,show(0:Rat).num.natAbs=0 from rfl,Nat.mul_zero,q5];exact wI.zero _
 refine go6 ?_
 refine cL (ev1 rfl) call117 (fun w hs=>sT hs hna hda) fun v24 h1 hh1 hr24=>?_
 subst hr24
 refine tV ?_
 refine cnd (fun hc28=>?_) fun hc28=>?_
 ·
  have hsa:=hc28
  have hpa:=gP hsa
  have hra:=gQ hsa
  refine go3 ?_
  replace hnb:=hnb.mono hh1
  replace hdb:=hdb.mono hh1
  refine cL (ev1 rfl) call117 (fun w hs=>sT hs hnb hdb) fun v31 h2 hh2 hr31=>?_
  subst hr31
  refine tV ?_
  refine cnd (fun hc35=>?_) fun hc35=>?_
  ·
   have hsb:=hc35
   have hpb:=gP hsb
   have hrb:=gQ hsb
   have hm1:=qM hpa hrb
   have hm2:=qM hpb hra
   have hm3:=qM hra hrb
   have hm4:=qM hpa hpb
   have hm5:=qM hra hpb
   have hd0:qa.den*qb.den≠0:=Nat.mul_ne_zero qa.den_nz qb.den_nz
   simp only[zD2 hsa,zD3 hsa,zD2 hsb,zD3 hsb]
   refine go6 ?_
   refine gv (fV underlying4 rfl rfl) rfl ?_
   refine go6 ?_
   refine cL (ev3 rfl rfl rfl) call118 (fun w hs=>cX hs oM oM oM) fun v47 h3 hh3 hr47=>?_
   obtain⟨vn47,vd47,rfl,hn47,hd47⟩:=hr47
   refine xO (A:=[]) (r':=.var b4 26 [vB ((mkRat (sg (¬((qa.num<0)↔(qb.num<0))) (qa.num.natAbs*qb.num.natAbs)) (qa.den*qb.den)).num<0),vn47,vd47]) (zG (k:=0) (cs:=[_,_,_]) (vs:=[_,_,_]) rfl rfl rfl (ocr rfl (ocu hn47 (ocu hd47 oc0))) zU (bL rfl)) rfl rfl rfl ?_
   refine go4 ?_
   refine yE (fun E S=>zP rfl (xE (cs:=[_,_,_]) mh0 underlying26 rfl zU rfl) E S) ?_
   exact⟨_,_,rfl,hn47,hd47⟩
  refine go3 ?_
  refine gD 16 (qq 0 9 [(10,.q),(12,.q),(9,.c),(11,.c),(13,.c),(14,.c),(15,.c),(16,.t)]) (by kernel_rfl) ?_
  refine go4 ?_
  refine xJ rfl (fun _ _=>fV underlying4 rfl rfl) rfl ?_
  refine go6 ?_
  refine w_c rfl ?_
  replace hna:=hna.mono (hh1.trans hh2)
  replace hnb:=hnb.mono hh2
  refine sC (ev2 rfl rfl) call99 (fun w hs=>fN hs hna hnb oM oM) fun v57 h3 hh3 hr57=>?_
  try simp only[zC] at hr57
  have hlm57:=yC ((qa.num.natAbs)) ((qb.num.natAbs))
  refine w_c rfl ?_
  replace hna:=hna.mono hh3
  replace hda:=hda.mono ((hh1.trans hh2).trans hh3)
  refine sC (ev1 rfl) call120 (fun w hs=>gR hs hna hda) fun v59 h4 hh4 hr59=>?_
  rw[uK] at hr59
  refine w_c rfl ?_
  replace hnb:=hnb.mono (hh3.trans hh4)
  replace hdb:=hdb.mono ((hh2.trans hh3).trans hh4)
  refine sC (ev1 rfl) call120 (fun w hs=>gR hs hnb hdb) fun v61 h5 hh5 hr61=>?_
  rw[uK] at hr61
  refine w_c rfl ?_
  replace hr59:=hr59.mono hh5
  refine sC (ev2 rfl rfl) call99 (fun w hs=>fN hs hr59 hr61 oM oM) fun v62 h6 hh6 hr62=>?_
  try simp only[zC] at hr62
  have hlm62:=yC ((qa.den)) ((qb.den))
  refine w_c rfl ?_
  replace hr57:=hr57.mono ((hh4.trans hh5).trans hh6)
  refine sC (ev3 rfl rfl rfl) call119 (fun w hs=>jQ hs hr57 hr62 oM oM) fun v63 h7 hh7 hr63=>?_
  try simp only[zC] at hr63
  obtain⟨vn63,vd63,rfl,hn63,hd63⟩:=hr63
  refine kV (A:=[]) (q':=.var b4 26 [vB ((mkRat (sg (¬((qa.num<0)↔(qb.num<0))) (((((qa.num.natAbs))*((qb.num.natAbs)))))) (((((qa.den))*((qb.den)))))).num<0),vn63,vd63]) rfl (zG (k:=0) (cs:=[_,_,_]) (vs:=[_,_,_]) rfl rfl rfl (ocr rfl (ocu hn63 (ocu hd63 oc0))) zU (bL rfl)) rfl ?_
  refine go3 ?_
  refine yE (fun E S=>zP rfl (xE (cs:=[_,_,_]) mh0 underlying26 rfl zU rfl) E S) ?_
  exact⟨_,_,rfl,hn63,hd63⟩
 refine go3 ?_
 refine gD 16 (qq 0 9 [(10,.q),(12,.q),(9,.c),(11,.c),(13,.c),(14,.c),(15,.c),(16,.t)]) (by kernel_rfl) ?_
 refine go4 ?_
 refine xJ rfl (fun _ _=>fV underlying4 rfl rfl) rfl ?_
 refine go6 ?_
 refine w_c rfl ?_
 replace hna:=hna.mono hh1
 replace hnb:=hnb.mono hh1
 refine sC (ev2 rfl rfl) call99 (fun w hs=>fN hs hna hnb oM oM) fun v57 h2 hh2 hr57=>?_
 try simp only[zC] at hr57
 have hlm57:=yC ((qa.num.natAbs)) ((qb.num.natAbs))
 refine w_c rfl ?_
 replace hna:=hna.mono hh2
 replace hda:=hda.mono (hh1.trans hh2)
 refine sC (ev1 rfl) call120 (fun w hs=>gR hs hna hda) fun v59 h3 hh3 hr59=>?_
 rw[uK] at hr59
 refine w_c rfl ?_
 replace hnb:=hnb.mono (hh2.trans hh3)
 replace hdb:=hdb.mono ((hh1.trans hh2).trans hh3)
 refine sC (ev1 rfl) call120 (fun w hs=>gR hs hnb hdb) fun v61 h4 hh4 hr61=>?_
 rw[uK] at hr61
 refine w_c rfl ?_
 replace hr59:=hr59.mono hh4
 refine sC (ev2 rfl rfl) call99 (fun w hs=>fN hs hr59 hr61 oM oM) fun v62 h5 hh5 hr62=>?_
 try simp only[zC] at hr62
 have hlm62:=yC ((qa.den)) ((qb.den))
 refine w_c rfl ?_
 replace hr57:=hr57.mono ((hh3.trans hh4).trans hh5)
 refine sC (ev3 rfl rfl rfl) call119 (fun w hs=>jQ hs hr57 hr62 oM oM) fun v63 h6 hh6 hr63=>?_
 try simp only[zC] at hr63
 obtain⟨vn63,vd63,rfl,hn63,hd63⟩:=hr63
 refine kV (A:=[]) (q':=.var b4 26 [vB ((mkRat (sg (¬((qa.num<0)↔(qb.num<0))) (((((qa.num.natAbs))*((qb.num.natAbs)))))) (((((qa.den))*((qb.den)))))).num<0),vn63,vd63]) rfl (zG (k:=0) (cs:=[_,_,_]) (vs:=[_,_,_]) rfl rfl rfl (ocr rfl (ocu hn63 (ocu hd63 oc0))) zU (bL rfl)) rfl ?_
 refine go3 ?_
 refine yE (fun E S=>zP rfl (xE (cs:=[_,_,_]) mh0 underlying26 rfl zU rfl) E S) ?_
 exact⟨_,_,rfl,hn63,hd63⟩
theorem zUG{w0:World}{h0:Mem}(hs:MLe h0 (mem w0)){qa:Rat}{vna vda:Value}(hna:Us .u32 h0 vna (zB qa.num.natAbs))(hda:Us .u32 h0 vda (zB (xT qa.den))){qb:Rat}{vnb vdb:Value}(hnb:Us .u32 h0 vnb (zB qb.num.natAbs))(hdb:Us .u32 h0 vdb (zB (xT qb.den)))(hqa:lq qa≤100000000000)(hqb:lq qb≤100000000000):
    Calls Tryz.prog 74 #[.agg #[vB (qa.num<0),vna,vda],.agg #[vB (qb.num<0),vnb,vdb]] w0 (Ret w0 h0 (fun h r=>∃u,r=.tuple #[u,vI (if qb=0 then 3 else 0)]∧wI h u (if qb=0 then 0 else qa/qb))):=by
 have hlna:=wE qa
 have hlda:=wO qa
 have hlDa:=wB qa
 have hlnb:=wE qb
 have hldb:=wO qb
 have hlDb:=wB qb
 refine cb2 58 (.agg #[vB (qa.num<0),vna,vda]) (.agg #[vB (qb.num<0),vnb,vdb]) func74 hs ?_
 refine go2 ?_
 refine zF (xD (cs:=[_,_,_]) rfl rfl) rfl rfl rfl ?_
 intro v2 r2 hr2
 obtain⟨b2,rfl,rfl⟩:=hr2
 refine zF (xD (cs:=[_,_,_]) rfl rfl) rfl rfl rfl ?_
 intro v3 r3 hr3
 obtain⟨b3,rfl,rfl⟩:=hr3
 refine zF (wA (cs:=[vB ((0:Rat).num<0),.slice none 0 0,.slice none 0 0]) yN rfl (by simp only[zb];rfl)) rfl rfl rfl ?_
 intro v4 r4 hr4
 obtain⟨b4,rfl,rfl⟩:=hr4
 refine go7 ?_
 refine cL (ev1 rfl) call51 (fun w hs=>w3 hs hnb hdb oM) fun v13 h1 hh1 hr13=>?_
 have hsr13:=wH qb
 subst hr13
 refine go3 ?_
 refine cnd (fun hc14=>?_) fun hc14=>?_
 ·
  have hb0:=uR.1 hc14
  rw[if_pos hb0,if_pos hb0]
  refine go2 ?_
  refine gv (yO (ps':=[]) (vs:=[vB ((0:Rat).num<0),.slice none 0 0,.slice none 0 0]) underlying26 yN rfl (vD underlying26) trivial (by simp only[zb];exact vZ)) rfl (xO (A:=[]) (r':=.var b4 26 [vB ((0:Rat).num<0),.slice none 0 0,.slice none 0 0]) (zG (k:=0) (cs:=[_,_,_]) (vs:=[_,_,_]) rfl rfl rfl rfl zU (bL rfl)) rfl rfl rfl ?_)
  refine go5 ?_
  refine yE (fun E S=>vW rfl (xE (cs:=[_,_,_]) mh0 underlying26 rfl zU rfl) (jP rfl) E S) ?_
  exact⟨_,rfl,wI.zero _⟩
 have hb0:qb≠0:=fun h=>hc14 (uR.2 h)
 rw[if_neg hb0,if_neg hb0,←zQO qa hb0]
 have hbn:=zC0.2 hb0
 refine go6 ?_
 replace hna:=hna.mono hh1
 replace hda:=hda.mono hh1
 refine cL (ev1 rfl) call117 (fun w hs=>sT hs hna hda) fun v18 h2 hh2 hr18=>?_
 subst hr18
 refine tV ?_
 refine cnd (fun hc22=>?_) fun hc22=>?_
 ·
  have hsa:=hc22
  have hpa:=gP hsa
  have hra:=gQ hsa
  refine go3 ?_
  replace hnb:=hnb.mono (hh1.trans hh2)
  replace hdb:=hdb.mono (hh1.trans hh2)
  refine cL (ev1 rfl) call117 (fun w hs=>sT hs hnb hdb) fun v25 h3 hh3 hr25=>?_
  subst hr25
  refine tV ?_
  refine cnd (fun hc29=>?_) fun hc29=>?_
  ·
   have hsb:=hc29
   have hpb:=gP hsb
   have hrb:=gQ hsb
   have hm1:=qM hpa hrb
   have hm2:=qM hpb hra
   have hm3:=qM hra hrb
   have hm4:=qM hpa hpb
   have hm5:=qM hra hpb
   have hd0:qa.den*qb.num.natAbs≠0:=Nat.mul_ne_zero qa.den_nz hbn
   simp only[zD2 hsa,zD3 hsa,zD2 hsb,zD3 hsb]
   refine go6 ?_
   refine gv (fV underlying4 rfl rfl) rfl ?_
   refine go6 ?_
   refine cL (ev3 rfl rfl rfl) call118 (fun w hs=>cX hs oM oM oM) fun v41 h4 hh4 hr41=>?_
   obtain⟨vn41,vd41,rfl,hn41,hd41⟩:=hr41
   refine xO (A:=[]) (r':=.var b4 26 [vB ((mkRat (sg (¬((qa.num<0)↔(qb.num<0))) (qa.num.natAbs*qb.den)) (qa.den*qb.num.natAbs)).num<0),vn41,vd41]) (zG (k:=0) (cs:=[_,_,_]) (vs:=[_,_,_]) rfl rfl rfl (ocr rfl (ocu hn41 (ocu hd41 oc0))) zU (bL rfl)) rfl rfl rfl ?_
   refine go5 ?_
   refine yE (fun E S=>vW rfl (xE (cs:=[_,_,_]) mh0 underlying26 rfl zU rfl) (jP rfl) E S) ?_
   exact⟨_,rfl,_,_,rfl,hn41,hd41⟩
  refine go3 ?_
  refine gD 16 (qq 0 8 [(10,.q),(12,.q),(13,.q),(8,.c),(9,.c),(11,.c),(14,.c),(15,.c),(16,.t),(17,.t)]) (by kernel_rfl) ?_
  refine go4 ?_
  refine xJ rfl (fun _ _=>fV underlying4 rfl rfl) rfl ?_
  refine go6 ?_
  refine w_c rfl ?_
  replace hnb:=hnb.mono hh3
  replace hdb:=hdb.mono hh3
  refine sC (ev1 rfl) call120 (fun w hs=>gR hs hnb hdb) fun v50 h4 hh4 hr50=>?_
  rw[uK] at hr50
  refine w_c rfl ?_
  replace hna:=hna.mono ((hh2.trans hh3).trans hh4)
  refine sC (ev2 rfl rfl) call99 (fun w hs=>fN hs hna hr50 oM oM) fun v51 h5 hh5 hr51=>?_
  try simp only[zC] at hr51
  have hlm51:=yC ((qa.num.natAbs)) ((qb.den))
  refine w_c rfl ?_
  replace hna:=hna.mono hh5
  replace hda:=hda.mono (((hh2.trans hh3).trans hh4).trans hh5)
  refine sC (ev1 rfl) call120 (fun w hs=>gR hs hna hda) fun v53 h6 hh6 hr53=>?_
  rw[uK] at hr53
  refine w_c rfl ?_
  replace hnb:=hnb.mono ((hh4.trans hh5).trans hh6)
  refine sC (ev2 rfl rfl) call99 (fun w hs=>fN hs hr53 hnb oM oM) fun v56 h7 hh7 hr56=>?_
  try simp only[zC] at hr56
  have hlm56:=yC ((qa.den)) ((qb.num.natAbs))
  refine w_c rfl ?_
  replace hr51:=hr51.mono (hh6.trans hh7)
  refine sC (ev3 rfl rfl rfl) call119 (fun w hs=>jQ hs hr51 hr56 oM oM) fun v57 h8 hh8 hr57=>?_
  try simp only[zC] at hr57
  obtain⟨vn57,vd57,rfl,hn57,hd57⟩:=hr57
  refine kV (A:=[]) (q':=.var b4 26 [vB ((mkRat (sg (¬((qa.num<0)↔(qb.num<0))) (((((qa.num.natAbs))*((qb.den)))))) (((((qa.den))*((qb.num.natAbs)))))).num<0),vn57,vd57]) rfl (zG (k:=0) (cs:=[_,_,_]) (vs:=[_,_,_]) rfl rfl rfl (ocr rfl (ocu hn57 (ocu hd57 oc0))) zU (bL rfl)) rfl (dR rfl (tH (v:=vI (0)) rfl) rfl ?_)
  refine go3 ?_
  refine yE (fun E S=>vW rfl (xE (cs:=[_,_,_]) mh0 underlying26 rfl zU rfl) (jP rfl) E S) ?_
  exact⟨_,rfl,_,_,rfl,hn57,hd57⟩
 refine go3 ?_
 refine gD 16 (qq 0 8 [(10,.q),(12,.q),(13,.q),(8,.c),(9,.c),(11,.c),(14,.c),(15,.c),(16,.t),(17,.t)]) (by kernel_rfl) ?_
 refine go4 ?_
 refine xJ rfl (fun _ _=>fV underlying4 rfl rfl) rfl ?_
 refine go6 ?_
 refine w_c rfl ?_
 replace hnb:=hnb.mono (hh1.trans hh2)
 replace hdb:=hdb.mono (hh1.trans hh2)
 refine sC (ev1 rfl) call120 (fun w hs=>gR hs hnb hdb) fun v50 h3 hh3 hr50=>?_
 rw[uK] at hr50
 refine w_c rfl ?_
 replace hna:=hna.mono (hh2.trans hh3)
 refine sC (ev2 rfl rfl) call99 (fun w hs=>fN hs hna hr50 oM oM) fun v51 h4 hh4 hr51=>?_
 try simp only[zC] at hr51
 have hlm51:=yC ((qa.num.natAbs)) ((qb.den))
 refine w_c rfl ?_
 replace hna:=hna.mono hh4
 replace hda:=hda.mono ((hh2.trans hh3).trans hh4)
 refine sC (ev1 rfl) call120 (fun w hs=>gR hs hna hda) fun v53 h5 hh5 hr53=>?_
 rw[uK] at hr53
 refine w_c rfl ?_
 replace hnb:=hnb.mono ((hh3.trans hh4).trans hh5)
 refine sC (ev2 rfl rfl) call99 (fun w hs=>fN hs hr53 hnb oM oM) fun v56 h6 hh6 hr56=>?_
 try simp only[zC] at hr56
 have hlm56:=yC ((qa.den)) ((qb.num.natAbs))
 refine w_c rfl ?_
 replace hr51:=hr51.mono (hh5.trans hh6)
 refine sC (ev3 rfl rfl rfl) call119 (fun w hs=>jQ hs hr51 hr56 oM oM) fun v57 h7 hh7 hr57=>?_
 try simp only[zC] at hr57
 obtain⟨vn57,vd57,rfl,hn57,hd57⟩:=hr57
 refine kV (A:=[]) (q':=.var b4 26 [vB ((mkRat (sg (¬((qa.num<0)↔(qb.num<0))) (((((qa.num.natAbs))*((qb.den)))))) (((((qa.den))*((qb.num.natAbs)))))).num<0),vn57,vd57]) rfl (zG (k:=0) (cs:=[_,_,_]) (vs:=[_,_,_]) rfl rfl rfl (ocr rfl (ocu hn57 (ocu hd57 oc0))) zU (bL rfl)) rfl (dR rfl (tH (v:=vI (0)) rfl) rfl ?_)
 refine go3 ?_
 refine yE (fun E S=>vW rfl (xE (cs:=[_,_,_]) mh0 underlying26 rfl zU rfl) (jP rfl) E S) ?_
 exact⟨_,rfl,_,_,rfl,hn57,hd57⟩
theorem zHP{w0:World}{h0:Mem}(hs:MLe h0 (mem w0)){qa:Rat}{vna vda:Value}(hna:Us .u32 h0 vna (zB qa.num.natAbs))(hda:Us .u32 h0 vda (zB (xT qa.den))){qb:Rat}{vnb vdb:Value}(hnb:Us .u32 h0 vnb (zB qb.num.natAbs))(hdb:Us .u32 h0 vdb (zB (xT qb.den)))(hqa:lq qa≤100000000000)(hqb:lq qb≤100000000000){s:Prop}:
    Calls Tryz.prog 115 #[.agg #[vB (qa.num<0),vna,vda],.agg #[vB (qb.num<0),vnb,vdb],vB s] w0 (Ret w0 h0 (fun h r=>wI h r (qa+sgd s qb))):=by
 have hlna:=wE qa
 have hlda:=wO qa
 have hlDa:=wB qa
 have hlnb:=wE qb
 have hldb:=wO qb
 have hlDb:=wB qb
 refine cb3 152 (.agg #[vB (qa.num<0),vna,vda]) (.agg #[vB (qb.num<0),vnb,vdb]) (vB s) func115 hs ?_
 refine go2 ?_
 refine zF (xD (cs:=[_,_,_]) rfl rfl) rfl rfl rfl ?_
 intro v3 r3 hr3
 obtain⟨b3,rfl,rfl⟩:=hr3
 refine zF (xD (cs:=[_,_,_]) rfl rfl) rfl rfl rfl ?_
 intro v4 r4 hr4
 obtain⟨b4,rfl,rfl⟩:=hr4
 refine zF (wA (cs:=[vB ((0:Rat).num<0),.slice none 0 0,.slice none 0 0]) yN rfl (by simp only[zb];rfl)) rfl rfl rfl ?_
 intro v6 r6 hr6
 obtain⟨b6,rfl,rfl⟩:=hr6
 refine go2 ?_
 refine qK (ι:=Mem) (fun(mc:(Mem))=>MLe h0 mc∧(True)) (fun(mc:(Mem))=>[(2,vB s),(3,vP b3 0),(4,vP b4 0),(6,vP b6 0)]) (fun(mc:(Mem))=>[.var b6 26 [vB ((0:Rat).num<0),.slice none 0 0,.slice none 0 0],.var b4 26 [vB (qb.num<0),vnb,vdb],.var b3 26 [vB (qa.num<0),vna,vda]]) (fun(mc:(Mem))=>mc) ?_ ?_
 ·
  refine go3 ?_
  refine cL (ev1 rfl) call117 (fun w hs=>sT hs hna hda) fun v24 h1 hh1 hr24=>?_
  subst hr24
  refine tV ?_
  refine cnd (fun hc28=>?_) fun hc28=>?_
  ·
   have hsa:=hc28
   have hpa:=gP hsa
   have hra:=gQ hsa
   refine go3 ?_
   replace hnb:=hnb.mono hh1
   replace hdb:=hdb.mono hh1
   refine cL (ev1 rfl) call117 (fun w hs=>sT hs hnb hdb) fun v31 h2 hh2 hr31=>?_
   subst hr31
   refine tV ?_
   refine cnd (fun hc35=>?_) fun hc35=>?_
   ·
    have hsb:=hc35
    have hpb:=gP hsb
    have hrb:=gQ hsb
    have hm1:=qM hpa hrb
    have hm2:=qM hpb hra
    have hm3:=qM hra hrb
    have hm4:=qM hpa hpb
    have hm5:=qM hra hpb
    have hd0:qa.den*qb.den≠0:=Nat.mul_ne_zero qa.den_nz qb.den_nz
    simp only[zD2 hsa,zD3 hsa,zD2 hsb,zD3 hsb]
    refine zAR ?_
    refine gv (zQ2 (vs:=[_,_,vU .u64 0]) (yBY _ _) e3z) rfl ?_
    refine sL ?_
    refine gv (oQ underlying4 rfl rfl) rfl ?_
    refine gU 4 56 (vB (((qa.num<0)↔(s))∧((((qa.num.natAbs*qb.den)+(qb.num.natAbs*qa.den))/18446744073709551616)=(0:Nat)))) ?_ ?_
    ·
     refine yB ((qa.num<0)↔(s)) (fun hg=>?_) (fun hg=>?_)
     ·
      refine gT hg rfl ?_
      refine go3 ?_
      refine gv (gB (k:=.u64) (q:=0) rfl rfl) rfl ?_
      refine go2 ?_
      refine gqU ?_
      exact congrArg some (xM hg)
     refine gF hg rfl ?_
     refine go4 ?_
     refine gqU ?_
     exact congrArg some (xN hg)
    refine go3 ?_
    refine cnd (fun hc48=>?_) fun hc48=>?_
    ·
     obtain⟨hss,hcy⟩:=hc48
     refine go7 ?_
     refine cL (ev3 rfl rfl rfl) call118 (fun w hs=>cX hs oM oM oM) fun v62 h3 hh3 hr62=>?_
     obtain⟨vn62,vd62,rfl,hn62,hd62⟩:=hr62
     refine xO (A:=[]) (r':=.var b6 26 [vB ((mkRat (sg (s) (((qa.num.natAbs*qb.den)+(qb.num.natAbs*qa.den))%18446744073709551616)) (qa.den*qb.den)).num<0),vn62,vd62]) (zG (k:=0) (cs:=[_,_,_]) (vs:=[_,_,_]) rfl rfl rfl (ocr rfl (ocu hn62 (ocu hd62 oc0))) zU (bL rfl)) rfl rfl rfl ?_
     refine go5 ?_
     refine yE (fun E S=>zP rfl (xE (cs:=[_,_,_]) mh0 underlying26 rfl zU rfl) E S) ?_
     have e:=Nat.mod_eq_of_lt (a:=qa.num.natAbs*qb.den+qb.num.natAbs*qa.den) (b:=18446744073709551616) oM
     rw[e] at hn62 hd62 ⊢
     rw[zB2 hss]
     exact⟨_,_,rfl,hn62,hd62⟩
    refine go5 ?_
    refine gv (fV underlying4 rfl rfl) rfl ?_
    refine gU 5 72 (vB ((¬((qa.num<0)↔(s)))∧((qb.num.natAbs*qa.den)≤(qa.num.natAbs*qb.den)))) ?_ ?_
    ·
     refine yB (¬((qa.num<0)↔(s))) (fun hg=>?_) (fun hg=>?_)
     ·
      refine gT hg rfl ?_
      refine go8 ?_
      refine gqU ?_
      exact congrArg some (xM hg)
     refine gF hg rfl ?_
     refine go5 ?_
     refine gqU ?_
     exact congrArg some (xN hg)
    refine go3 ?_
    refine cnd (fun hc63=>?_) fun hc63=>?_
    ·
     obtain⟨hss,hge⟩:=hc63
     refine go6 ?_
     refine gv (bH (k:=.u64) (W:=18446744073709551616) rfl rfl rfl rfl oM oM) rfl ?_
     refine go3 ?_
     refine cL (ev3 rfl rfl rfl) call118 (fun w hs=>cX hs oM oM oM) fun v81 h3 hh3 hr81=>?_
     obtain⟨vn81,vd81,rfl,hn81,hd81⟩:=hr81
     refine xO (A:=[]) (r':=.var b6 26 [vB ((mkRat (sg (qa.num<0) ((qa.num.natAbs*qb.den)-(qb.num.natAbs*qa.den))) (qa.den*qb.den)).num<0),vn81,vd81]) (zG (k:=0) (cs:=[_,_,_]) (vs:=[_,_,_]) rfl rfl rfl (ocr rfl (ocu hn81 (ocu hd81 oc0))) zU (bL rfl)) rfl rfl rfl ?_
     refine go5 ?_
     refine yE (fun E S=>zP rfl (xE (cs:=[_,_,_]) mh0 underlying26 rfl zU rfl) E S) ?_
     rw[zBQ hss hge]
     exact⟨_,_,rfl,hn81,hd81⟩
    refine go5 ?_
    refine gv (fV underlying4 rfl rfl) rfl ?_
    refine go3 ?_
    refine cnd (fun hc82=>?_) fun hc82=>?_
    ·
     have hlt:¬qb.num.natAbs*qa.den≤qa.num.natAbs*qb.den:=fun h=>hc63 ⟨hc82,h⟩
     refine go5 ?_
     refine gv (bH (k:=.u64) (W:=18446744073709551616) rfl rfl rfl rfl oM oM) rfl ?_
     refine go3 ?_
     refine cL (ev3 rfl rfl rfl) call118 (fun w hs=>cX hs oM oM oM) fun v94 h3 hh3 hr94=>?_
     obtain⟨vn94,vd94,rfl,hn94,hd94⟩:=hr94
     refine xO (A:=[]) (r':=.var b6 26 [vB ((mkRat (sg (s) ((qb.num.natAbs*qa.den)-(qa.num.natAbs*qb.den))) (qa.den*qb.den)).num<0),vn94,vd94]) (zG (k:=0) (cs:=[_,_,_]) (vs:=[_,_,_]) rfl rfl rfl (ocr rfl (ocu hn94 (ocu hd94 oc0))) zU (bL rfl)) rfl rfl rfl ?_
     refine go5 ?_
     refine yE (fun E S=>zP rfl (xE (cs:=[_,_,_]) mh0 underlying26 rfl zU rfl) E S) ?_
     rw[dZ hc82 oM]
     exact⟨_,_,rfl,hn94,hd94⟩
    refine go2 ?_
    refine zN (h2) ?_ e4z rfl rfl
    refine⟨(hh1.trans hh2),?_⟩
    trivial
   refine go1 ?_
   refine zN (h2) ?_ e4z rfl rfl
   refine⟨(hh1.trans hh2),?_⟩
   trivial
  refine go1 ?_
  refine zN (h1) ?_ e4z rfl rfl
  refine⟨hh1,?_⟩
  trivial
 intro mc hx
 obtain⟨hmmc,hcut⟩:=hx
 refine yS ?_
 refine go1 ?_
 refine gD 9 (qq 0 5 ((5,.c)::(qq 6 3 []))) (by kernel_rfl) ?_
 refine go5 ?_
 refine w_c rfl ?_
 replace hna:=hna.mono hmmc
 replace hda:=hda.mono hmmc
 refine sC (ev1 rfl) call120 (fun w hs=>gR hs hna hda) fun v100 h1 hh1 hr100=>?_
 rw[uK] at hr100
 refine uN ?_
 replace hda:=hda.mono hh1
 replace hdb:=hdb.mono (hmmc.trans hh1)
 refine cL (ev2 rfl rfl) call161 (fun w hs=>zHB hs hda hdb) fun v105 h2 hh2 hr105=>?_
 subst hr105
 refine go3 ?_
 refine cnd (fun hc106=>?_) fun hc106=>?_
 ·
  refine gD 15 ((0,.q)::(1,.q)::(4,.q)::(5,.q)::(8,.q)::(9,.q)::(2,.c)::(3,.c)::(6,.c)::(7,.c)::(10,.c)::(11,.c)::(qq 12 3 [])) (by kernel_rfl) ?_
  refine go6 ?_
  refine w_c rfl ?_
  replace hnb:=hnb.mono ((hmmc.trans hh1).trans hh2)
  replace hdb:=hdb.mono hh2
  refine sC (ev1 rfl) call120 (fun w hs=>gR hs hnb hdb) fun v109 h3 hh3 hr109=>?_
  rw[uK] at hr109
  refine w_c rfl ?_
  replace hna:=hna.mono ((hh1.trans hh2).trans hh3)
  refine sC (ev2 rfl rfl) call99 (fun w hs=>fN hs hna hr109 oM oM) fun v110 h4 hh4 hr110=>?_
  try simp only[zC] at hr110
  have hlm110:=yC ((qa.num.natAbs)) ((qb.den))
  refine w_c rfl ?_
  replace hna:=hna.mono hh4
  replace hda:=hda.mono ((hh2.trans hh3).trans hh4)
  refine sC (ev1 rfl) call120 (fun w hs=>gR hs hna hda) fun v113 h5 hh5 hr113=>?_
  rw[uK] at hr113
  refine w_c rfl ?_
  replace hnb:=hnb.mono ((hh3.trans hh4).trans hh5)
  refine sC (ev2 rfl rfl) call99 (fun w hs=>fN hs hnb hr113 oM oM) fun v114 h6 hh6 hr114=>?_
  try simp only[zC] at hr114
  have hlm114:=yC ((qb.num.natAbs)) ((qa.den))
  refine w_c rfl ?_
  replace hnb:=hnb.mono hh6
  replace hdb:=hdb.mono (((hh3.trans hh4).trans hh5).trans hh6)
  refine sC (ev1 rfl) call120 (fun w hs=>gR hs hnb hdb) fun v117 h7 hh7 hr117=>?_
  rw[uK] at hr117
  refine w_c rfl ?_
  replace hr100:=hr100.mono (((((hh2.trans hh3).trans hh4).trans hh5).trans hh6).trans hh7)
  refine sC (ev2 rfl rfl) call99 (fun w hs=>fN hs hr100 hr117 oM oM) fun v118 h8 hh8 hr118=>?_
  try simp only[zC] at hr118
  have hlm118:=yC ((qa.den)) ((qb.den))
  refine uP ?_
  refine gv (oQ underlying4 rfl rfl) rfl ?_
  refine go2 ?_
  refine cnd (fun hc122=>?_) fun hc122=>?_
  ·
   refine go5 ?_
   replace hr110:=hr110.mono (((hh5.trans hh6).trans hh7).trans hh8)
   replace hr114:=hr114.mono (hh7.trans hh8)
   refine cL (ev2 rfl rfl) call100 (fun w hs=>aG hs hr110 hr114 oM oM) fun v126 h9 hh9 hr126=>?_
   try simp only[zC] at hr126
   have hlm126:=uE (((((qa.num.natAbs))*((qb.den))))) (((((qb.num.natAbs))*((qa.den)))))
   refine go1 ?_
   replace hr118:=hr118.mono hh9
   refine cL (ev3 rfl rfl rfl) call119 (fun w hs=>jQ hs hr126 hr118 oM oM) fun v128 h10 hh10 hr128=>?_
   try simp only[zC] at hr128
   obtain⟨vn128,vd128,rfl,hn128,hd128⟩:=hr128
   refine xO (A:=[]) (r':=.var b6 26 [vB ((mkRat (sg (s) ((((((((qa.num.natAbs))*((qb.den)))))+(((((qb.num.natAbs))*((qa.den))))))))) (((((qa.den))*((qb.den)))))).num<0),vn128,vd128]) (zG (k:=0) (cs:=[_,_,_]) (vs:=[_,_,_]) rfl rfl rfl (ocr rfl (ocu hn128 (ocu hd128 oc0))) zU (bL rfl)) rfl rfl rfl ?_
   refine go4 ?_
   refine yE (fun E S=>zP rfl (xE (cs:=[_,_,_]) mh0 underlying26 rfl zU rfl) E S) ?_
   rw[zB2 hc122]
   exact⟨_,_,rfl,hn128,hd128⟩
  refine go7 ?_
  replace hr110:=hr110.mono (((hh5.trans hh6).trans hh7).trans hh8)
  replace hr114:=hr114.mono (hh7.trans hh8)
  refine cL (ev2 rfl rfl) call162 (fun w hs=>zBW hs hr110 hr114 oM) fun v132 h9 hh9 hr132=>?_
  obtain⟨u132,rfl,hu132⟩:=hr132
  try simp only[zC] at hu132 ⊢
  have hlm132:=zM (Nat.sub_le (((((qa.num.natAbs))*((qb.den))))) (((((qb.num.natAbs))*((qa.den))))))
  refine sL ?_
  refine cnd (fun hc136=>?_) fun hc136=>?_
  ·
   have hge:=zPP hc136
   rw[if_neg hge]
   refine go6 ?_
   replace hr118:=hr118.mono hh9
   refine cL (ev3 rfl rfl rfl) call119 (fun w hs=>jQ hs hu132 hr118 oM oM) fun v141 h10 hh10 hr141=>?_
   try simp only[zC] at hr141
   obtain⟨vn141,vd141,rfl,hn141,hd141⟩:=hr141
   refine xO (A:=[]) (r':=.var b6 26 [vB ((mkRat (sg (qa.num<0) ((((((((qa.num.natAbs))*((qb.den)))))-(((((qb.num.natAbs))*((qa.den))))))))) (((((qa.den))*((qb.den)))))).num<0),vn141,vd141]) (zG (k:=0) (cs:=[_,_,_]) (vs:=[_,_,_]) rfl rfl rfl (ocr rfl (ocu hn141 (ocu hd141 oc0))) zU (bL rfl)) rfl rfl rfl ?_
   refine go4 ?_
   refine yE (fun E S=>zP rfl (xE (cs:=[_,_,_]) mh0 underlying26 rfl zU rfl) E S) ?_
   rw[zBQ hc122 oM]
   exact⟨_,_,rfl,hn141,hd141⟩
  have hlt:=zPQ hc136
  rw[if_pos hlt]
  refine go6 ?_
  replace hr110:=hr110.mono hh9
  replace hr114:=hr114.mono hh9
  refine cL (ev2 rfl rfl) call162 (fun w hs=>zBW hs hr114 hr110 oM) fun v145 h10 hh10 hr145=>?_
  obtain⟨u145,rfl,hu145⟩:=hr145
  try simp only[zC] at hu145 ⊢
  have hlm145:=zM (Nat.sub_le (((((qb.num.natAbs))*((qa.den))))) (((((qa.num.natAbs))*((qb.den))))))
  refine uN ?_
  replace hr118:=hr118.mono (hh9.trans hh10)
  refine cL (ev3 rfl rfl rfl) call119 (fun w hs=>jQ hs hu145 hr118 oM oM) fun v151 h11 hh11 hr151=>?_
  try simp only[zC] at hr151
  obtain⟨vn151,vd151,rfl,hn151,hd151⟩:=hr151
  refine xO (A:=[]) (r':=.var b6 26 [vB ((mkRat (sg (s) ((((((((qb.num.natAbs))*((qa.den)))))-(((((qa.num.natAbs))*((qb.den))))))))) (((((qa.den))*((qb.den)))))).num<0),vn151,vd151]) (zG (k:=0) (cs:=[_,_,_]) (vs:=[_,_,_]) rfl rfl rfl (ocr rfl (ocu hn151 (ocu hd151 oc0))) zU (bL rfl)) rfl rfl rfl ?_
  refine go3 ?_
  refine yE (fun E S=>zP rfl (xE (cs:=[_,_,_]) mh0 underlying26 rfl zU rfl) E S) ?_
  rw[dZ hc122 oM]
  exact⟨_,_,rfl,hn151,hd151⟩
 have hde:=zLQ.1 (Classical.not_not.1 hc106)
 refine go8 ?_
 refine gv (oQ underlying4 rfl rfl) rfl ?_
 refine go2 ?_
 refine cnd (fun hc122=>?_) fun hc122=>?_
 ·
  refine go5 ?_
  replace hna:=hna.mono (hh1.trans hh2)
  replace hnb:=hnb.mono ((hmmc.trans hh1).trans hh2)
  refine cL (ev2 rfl rfl) call100 (fun w hs=>aG hs hna hnb oM oM) fun v126 h3 hh3 hr126=>?_
  try simp only[zC] at hr126
  have hlm126:=uE ((qa.num.natAbs)) ((qb.num.natAbs))
  refine go1 ?_
  replace hr100:=hr100.mono (hh2.trans hh3)
  refine cL (ev3 rfl rfl rfl) call119 (fun w hs=>jQ hs hr126 hr100 oM oM) fun v128 h4 hh4 hr128=>?_
  try simp only[zC] at hr128
  obtain⟨vn128,vd128,rfl,hn128,hd128⟩:=hr128
  refine xO (A:=[]) (r':=.var b6 26 [vB ((mkRat (sg (s) (((((qa.num.natAbs))+((qb.num.natAbs)))))) ((qa.den))).num<0),vn128,vd128]) (zG (k:=0) (cs:=[_,_,_]) (vs:=[_,_,_]) rfl rfl rfl (ocr rfl (ocu hn128 (ocu hd128 oc0))) zU (bL rfl)) rfl rfl rfl ?_
  refine go4 ?_
  refine yE (fun E S=>zP rfl (xE (cs:=[_,_,_]) mh0 underlying26 rfl zU rfl) E S) ?_
  rw[zTE hc122 hde]
  exact⟨_,_,rfl,hn128,hd128⟩
 refine go7 ?_
 replace hna:=hna.mono (hh1.trans hh2)
 replace hnb:=hnb.mono ((hmmc.trans hh1).trans hh2)
 refine cL (ev2 rfl rfl) call162 (fun w hs=>zBW hs hna hnb oM) fun v132 h3 hh3 hr132=>?_
 obtain⟨u132,rfl,hu132⟩:=hr132
 try simp only[zC] at hu132 ⊢
 have hlm132:=zM (Nat.sub_le ((qa.num.natAbs)) ((qb.num.natAbs)))
 refine sL ?_
 refine cnd (fun hc136=>?_) fun hc136=>?_
 ·
  have hge:=zPP hc136
  rw[if_neg hge]
  refine go6 ?_
  replace hr100:=hr100.mono (hh2.trans hh3)
  refine cL (ev3 rfl rfl rfl) call119 (fun w hs=>jQ hs hu132 hr100 oM oM) fun v141 h4 hh4 hr141=>?_
  try simp only[zC] at hr141
  obtain⟨vn141,vd141,rfl,hn141,hd141⟩:=hr141
  refine xO (A:=[]) (r':=.var b6 26 [vB ((mkRat (sg (qa.num<0) (((((qa.num.natAbs))-((qb.num.natAbs)))))) ((qa.den))).num<0),vn141,vd141]) (zG (k:=0) (cs:=[_,_,_]) (vs:=[_,_,_]) rfl rfl rfl (ocr rfl (ocu hn141 (ocu hd141 oc0))) zU (bL rfl)) rfl rfl rfl ?_
  refine go4 ?_
  refine yE (fun E S=>zP rfl (xE (cs:=[_,_,_]) mh0 underlying26 rfl zU rfl) E S) ?_
  rw[zPO hc122 hde oM]
  exact⟨_,_,rfl,hn141,hd141⟩
 have hlt:=zPQ hc136
 rw[if_pos hlt]
 refine go6 ?_
 replace hna:=hna.mono hh3
 replace hnb:=hnb.mono hh3
 refine cL (ev2 rfl rfl) call162 (fun w hs=>zBW hs hnb hna oM) fun v145 h4 hh4 hr145=>?_
 obtain⟨u145,rfl,hu145⟩:=hr145
 try simp only[zC] at hu145 ⊢
 have hlm145:=zM (Nat.sub_le ((qb.num.natAbs)) ((qa.num.natAbs)))
 refine uN ?_
 replace hr100:=hr100.mono ((hh2.trans hh3).trans hh4)
 refine cL (ev3 rfl rfl rfl) call119 (fun w hs=>jQ hs hu145 hr100 oM oM) fun v151 h5 hh5 hr151=>?_
 try simp only[zC] at hr151
 obtain⟨vn151,vd151,rfl,hn151,hd151⟩:=hr151
 refine xO (A:=[]) (r':=.var b6 26 [vB ((mkRat (sg (s) (((((qb.num.natAbs))-((qa.num.natAbs)))))) ((qa.den))).num<0),vn151,vd151]) (zG (k:=0) (cs:=[_,_,_]) (vs:=[_,_,_]) rfl rfl rfl (ocr rfl (ocu hn151 (ocu hd151 oc0))) zU (bL rfl)) rfl rfl rfl ?_
 refine go3 ?_
 refine yE (fun E S=>zP rfl (xE (cs:=[_,_,_]) mh0 underlying26 rfl zU rfl) E S) ?_
 rw[zNO hc122 hde oM]
 exact⟨_,_,rfl,hn151,hd151⟩
end Go.Proofs.YtboaboflnckgoaaGreat
