/- Texts that the proof needs, part 6. -/
import Derived.Test.YtpkaegemlpaenaaGreatK5
import Derived.Scope
set_option linter.unusedVariables false
set_option linter.unusedSimpArgs false
namespace Bk
open Go Go.RowKit
open Classical
section
variable {P:Program}{n:Nat}{w0:World}{h0:Mem}{e:List (Nat×Value)}{L:List Res}{h:Mem}{Q:Exit->Act->World->Prop}
variable {ds:Option Tmp}{ty:TypeId}{ps:String}{af:Array Edge}{gd:Option (Nat×Bool)}
abbrev tB(u:Int×Int):Value:=.agg #[vI u.1,vI u.2]
def lL(es:Array MapEntry)(S:List (Int×Int)):Prop:=es.toList.map (λx=>(x.key,x.val))=S.map λu=>(tB u,Value.bool true)
theorem map_nil:lL #[] []:=rfl
theorem zMB{t:TypeId}:lK P n w0 h0 ⟨ds,.makeMap t none,ty,ps,af,gd⟩ e L h (λu r=>∃b,u=.map (some b)/\r=.blk b (.map #[] 0)):=by
 intro a w D S;refine⟨_,w.alloc (.map #[] 0),.blk w.heap.size (.map #[] 0),?_,World.grownBy_alloc w _ none,zCO w _,λb C=>?_,_,I,I⟩
 · simp[execOp,Instr.makeMap,newObj,Sem.run]
 · simp only[Res.fp,Option.some.injEq] at C
   omega
structure MapTy(P:Program)(mt kt et it:TypeId):Prop where
 m:P.underlying mt=some (.map kt et)
 k:P.underlying kt=some (.array 2 it)
 i:P.underlying it=some (.int .i64)
 sz:∀w,(Go.sizeOf it).run P w=.ok 1 w
 ag:∀w,(isAgg it).run P w=.ok false w
 z:∀w,(zeroValue et).run P w=.ok (.bool false) w
variable {mt kt et it:TypeId}
theorem zVB(T:MapTy P mt kt et it)(x y:Int)(w:World):(part it #[vI x,vI y] 0).run P w=.ok (vI x) w:=by simp[part,Sem.run_bind,T.ag]
theorem zVA(T:MapTy P mt kt et it)(x y:Int)(w:World):(part it #[vI x,vI y] 1).run P w=.ok (vI y) w:=by simp[part,Sem.run_bind,T.ag]
theorem mV{w:World}{r:Nat}{es:Array MapEntry}{clock:Nat}(hb:w.heap[r]?=some (.map es clock)):(getObj r).run P w=.ok (.map es clock) w:=by
 simp[getObj,Sem.run,hb]
theorem zN0{w:World}{r:Nat}{es:Array MapEntry}{clock:Nat}(o:Obj)(hb:w.heap[r]?=some (.map es clock)):(setObj r o).run P w=.ok () {w with heap:=w.heap.setIfInBounds r o}:=by
 simp[setObj,Sem.run,hb]
theorem zSB(T:MapTy P mt kt et it)(u v:Int×Int)(w:World):(Op.equal kt (tB u) (tB v)).run P w=.ok (decide (u=v)) w:=by
 have H:∀(d:Nat) (x y:Int),(Op.equalIn (d+1) it (vI x) (vI y)).run P w=.ok (x==y) w:=λd x y=>by
  unfold Op.equalIn;simp[Sem.run_bind,run_underlying T.i,vI]
 show(Op.equalIn 10000 kt (tB u) (tB v)).run P w=_
 rw[show(10000:Nat)=9999+1 from I,Op.equalIn];simp only[Sem.run_bind,run_underlying T.k,Result.andThen_ok,T.sz];simp only[Std.Legacy.Range.forIn_eq_forIn_range',Std.Legacy.Range.size,Nat.sub_zero,Nat.add_sub_cancel,Nat.div_one,List.range'_succ,List.range'_zero,List.forIn_cons,List.forIn_nil,Nat.zero_mul,Nat.mul_one,Nat.zero_add];have G:∀(x y:Int),(Op.equalIn 9999 it (vI x) (vI y)).run P w=.ok (x==y) w:=λx y=>H 9998 x y;obtain⟨D,C⟩:=u;obtain⟨v1,v2⟩:=v
 by_cases h1:D=v1<;>by_cases h2:C=v2<;>simp[Sem.run_bind,zVB T,zVA T,G,h1,h2]
theorem dB(T:MapTy P mt kt et it)(em:Bool)(u:Int×Int)(w:World):(Instr.checkKey em 10000 kt (tB u)).run P w=.ok () w:=by
 have C:∀(x:Int),(Instr.checkKey em 9999 it (vI x)).run P w=.ok () w:=λx=>by
  rw[show(9999:Nat)=9998+1 from I];unfold Instr.checkKey;simp[Sem.run_bind,run_underlying T.i,vI]
 rw[show(10000:Nat)=9999+1 from I,Instr.checkKey];simp only[Sem.run_bind,run_underlying T.k,Result.andThen_ok];simp only[Std.Legacy.Range.forIn_eq_forIn_range',Std.Legacy.Range.size,Nat.sub_zero,Nat.add_sub_cancel,Nat.div_one,List.range'_succ,List.range'_zero,List.forIn_cons,List.forIn_nil,Nat.zero_mul,Nat.mul_one,Nat.zero_add];simp[Sem.run_bind,T.sz,zVB T,zVA T,C]
theorem zEV(T:MapTy P mt kt et it)(u:Int×Int)(w:World):∀(es:List MapEntry) (S:List (Int×Int)) (i:Nat),es.map (λx=>(x.key,x.val))=S.map (λu=>(tB u,Value.bool true))->
 (u∈S->∃j,(Instr.findAsking kt (tB u) es i).run P w=.ok (some (j,.bool true)) w)/\(u ∉ S->(Instr.findAsking kt (tB u) es i).run P w=.ok none w)
 |[],S,i,hm=>by
  have:S=[]:=by simpa using hm.symm
  subst this;exact⟨λh=>absurd h List.not_mem_nil,λ_=>by simp[Instr.findAsking]⟩
 |x::es,S,i,hm=>by
  match S,hm with
  |v::S,hm=>
   simp only[List.map_cons,List.cons.injEq,Prod.mk.injEq] at hm;obtain⟨⟨J,H⟩,hm⟩:=hm;have G:=zEV T u w es S (i+1) hm;have D:=zSB T u v w;unfold Instr.findAsking;rw[J]
   by_cases huv:u=v
   · refine⟨λ_=>⟨i,?_⟩,λh=>absurd (huv▸List.mem_cons_self) h⟩
     subst huv;have C:decide (u=u)=true:=by simp
     simp only[Sem.run_bind,D,C,Result.andThen_ok];simp[H]
   · have C:decide (u=v)=false:=by simpa using huv
     refine⟨λh=>?_,λh=>?_⟩
     · obtain⟨j,M⟩:=G.1 ((List.mem_cons.1 h).resolve_left huv)
       refine⟨j,?_⟩;simp only[Sem.run_bind,D,C,Result.andThen_ok]
       simpa using M
     · simp only[Sem.run_bind,D,C,Result.andThen_ok]
       simpa using G.2 λe=>h (List.mem_cons_of_mem _ e)
theorem zLD(T:MapTy P mt kt et it)(u:Int×Int)(w:World){es:Array MapEntry}{S:List (Int×Int)}(hm:lL es S):
 (u∈S->∃j,(Instr.findKey kt (tB u) es.toList).run P w=.ok (some (j,.bool true)) w)/\(u ∉ S->(Instr.findKey kt (tB u) es.toList).run P w=.ok none w):=by
 have C:=zEV T u w es.toList S 0 hm;unfold Instr.findKey;simp only[Sem.run_bind,run_underlying T.k,Result.andThen_ok]
 cases hl:es.toList with
 |nil=>
  rw[hl] at C;refine⟨λh=>?_,λ_=>?_⟩
  · unfold lL at hm
    rw[hl] at hm;have:S=[]:=by simpa using hm.symm
    subst this;exact absurd h List.not_mem_nil
  · simp[Instr.findNow]
 |cons x r=>
  rw[hl] at C;have hx:∃v,x.key=tB v:=by
   unfold lL at hm;rw[hl] at hm
   match S,hm with
   |v::S,hm=>
    simp only[List.map_cons,List.cons.injEq,Prod.mk.injEq] at hm;exact⟨v,hm.1.1⟩
  obtain⟨v,D⟩:=hx;have G:Instr.findNow (.array 2 it) (tB u) (x::r) 0=none:=by
   unfold Instr.findNow;rw[D];simp[Instr.sameNow]
  rw[G];exact C
theorem zFB{x y:Operand}{b clock:Nat}{es:Array MapEntry}{S:List (Int×Int)}{u:Int×Int}(T:MapTy P mt kt et it)(hm:.blk b (.map es clock)∈L)(hx:zJ e x=some (.map (some b)))(hy:zJ e y=some (tB u))(r:lL es S):
 OpV P n w0 h0 ⟨ds,.lookup mt x y false,ty,ps,af,gd⟩ e L h (vB (u∈S)):=by
 intro a w G St;have C:w.heap[b]?=some (.map es clock):=St.ok _ hm;have D:=zLD T u w r;simp only[execOp,G.eval hx,G.eval hy,Instr.lookup];simp only[Sem.run_bind,run_underlying T.m,Result.andThen_ok,mV C,dB T]
 by_cases hu:u∈S
 · obtain⟨j,H⟩:=D.1 hu
   rw[xK hu];simp[Sem.run_bind,H,mV C,dB T]
 · rw[yG hu]
   simp[Sem.run_bind,D.2 hu,mV C,dB T,T.z]
theorem zZR{A B:List Res}{x y z:Operand}{b clock:Nat}{es:Array MapEntry}{S:List (Int×Int)}{u:Int×Int}(T:MapTy P mt kt et it)(hx:zJ e x=some (.map (some b)))(hy:zJ e y=some (tB u))(hz:zJ e z=some (.bool true))(r:lL es S)(hu:u ∉ S):
 ∃es',lL es' (S++[u])/\Upd P n w0 h0 ⟨ds,.mapUpdate mt x y z,ty,ps,af,gd⟩ e A (.blk b (.map es clock)) B h (.blk b (.map es' (clock+1))):=by
 refine⟨es.push {key:=tB u,val:=.bool true,born:=clock},?_,?_⟩
 · unfold lL at *
   simp[r]
 · intro a w J St
   have H:w.heap[b]?=some (.map es clock):=St.ok (.blk b (.map es clock)) zoj;have M:=(zLD T u w r).2 hu;refine⟨{w with heap:=w.heap.setIfInBounds b (.map (es.push {key:=tB u,val:=.bool true,born:=clock}) (clock+1))},?_,?_,?_⟩
   · simp only[execOp,J.eval hx,J.eval hy,J.eval hz,Instr.mapUpdate]
     simp[Sem.run_bind,run_underlying T.m,mV H,dB T,M,zN0 _ H]
   · refine⟨I,I,I,by simp,λU O C=>?_⟩
     have G:U≠b:=λe=>C (by simp[Res.fp,e]);simp[Ne.symm G]
   · have D:b<w.heap.size:=(Array.getElem?_eq_some_iff.1 H).1
     show(w.heap.setIfInBounds b _)[b]?=_
     simp[D]
theorem evk{x:Operand}{v w:Value}(h:zJ e x=some v)(q:v=w):zJ e x=some w:=q▸h
theorem zT6{E:TypeId}{i:TypeInfo}{z:Value}(hi:P.info? E=some i)(hz:i.zero=some z)(w:World):(zeroValue E).run P w=.ok z w:=by simp[zeroValue,typeInfo,hi,hz]
theorem zXK{h:Mem}{v:Value}{x y:Int}(r:(rpA 2 rpI).Is h v [x,y]):v=tB (x,y):=by
 obtain⟨cs,⟨_,a,b,rfl,⟨rfl,_⟩,c,d,rfl,⟨rfl,_⟩,e⟩,rfl⟩:=r;rw[show d=[] from e]
 rfl
theorem zTO{ops:Array Oper}{rest:List Oper}{A B:List Res}{x y z:Operand}{b clock:Nat}{es:Array MapEntry}{S:List (Int×Int)}{u:Int×Int}(T:MapTy P mt kt et it)(hx:zJ e x=some (.map (some b)))(hy:zJ e y=some (tB u))(hz:zJ e z=some (.bool true))(r:lL es S)(hu:u ∉ S)
    (k:∀es',lL es' (S++[u])->GL P n w0 h0 ops Q rest e (A++.blk b (.map es' (clock+1))::B) h):GL P n w0 h0 ops Q (⟨none,.mapUpdate mt x y z,ty,ps,af,none⟩::rest) e (A++.blk b (.map es clock)::B) h:=by
 obtain⟨es',C,hu⟩:=zZR (P:=P) (n:=n) (w0:=w0) (h0:=h0) (h:=h) (ds:=none) (ty:=ty) (ps:=ps) (af:=af) (gd:=none) (A:=A) (B:=B) (clock:=clock) T hx hy hz r hu;exact wP hu I I I (k es' C)
end
end Bk
namespace Bk
open Go Go.RowKit
def yCM(w0:World)(h0:Mem)(h:Mem)(X:List Res)(G:Mem->Value->List Res->Prop):Ending->World->Prop:=
 tQ w0 h0 (λg v K=>∃Qs',(Qs'++X).Sublist K/\MLe h g/\G g v Qs')
section
variable {P:Program}{n:Nat}{w0:World}{h0:Mem}{e:List (Nat×Value)}{L:List Res}{h:Mem}{Q:Exit->Act->World->Prop}
variable {ty:TypeId}{ps:String}{af:Array Edge}
theorem zKE{ops:Array Oper}{l:List Oper}{A B:List Res}{r:Res}(k':GL P n w0 h0 ops Q l e (A++r::B) h):GL P n w0 h0 ops Q l e (r::(A++B)) h:=
 λa w E S=>k' a w E (S.perm List.perm_middle.symm)
theorem zKD{ops:Array Oper}{rest:List Oper}{d f:Nat}{xs:List Operand}{ts:Array TypeId}{vs:List Value}{Qs X:List Res}{G:Mem->Value->List Res->Prop}(hp:L.Perm (Qs++X))(hcall:∀args w,(callFunc f args).run P w=.ok (.enter f args) w)(hvs:cK e xs vs)
    (hc:∀w,St w0 h0 (Qs++X) h w->Calls P f vs.toArray w (yCM w0 h0 h X G))(hn:Nat.ble (d+1) n=true)(k:∀v g Qs',MLe h g->G g v Qs'->GL P n w0 h0 ops Q rest ((d,v)::e) (Qs'++X) g):
    GL P n w0 h0 ops Q (⟨some d,.call {callee:=.value (.func f),args:=xs.toArray,argTypes:=ts},ty,ps,af,none⟩::rest) e L h:=by
 intro a w D S;refine nF I I I hn hcall hvs hc ?_ a w D (S.perm hp)
 rintro v g K ⟨Qs',H,C,J⟩
 have:=k v g Qs' C J;exactλa w D S=>this a w D (S.sublist H)
end
section
variable {α β:Type}{h:Mem}
theorem vr_1{π:Rp α}{ρ:Rp β}{cs:List Value}{p:α}{v:Value}{xs:List β}(r:(rpP π rpV).R h cs (p,v))(k:(rpS ρ).Is h v xs):(rpP π (rpS ρ)).R h cs (p,xs):=by
 obtain⟨a,b,e,D,C,_⟩:=r;exact⟨a,b,e,D,by rw[show b=[v] from C];exact zNY k⟩
end
end Bk
namespace Bk
open Classical
section
variable {P:List Pt}{x:List Int}{S T:List PIr}{u:Nat}
theorem zI7(P:List Pt)(x:List Int)(S:List PIr):∀n,(sxE P x S n).length<=S.length+n
  |0=>by show S.length<=_;omega
  |n+1=>by
   have ih:=zI7 P x S n;unfold sxE
   split
   · omega
   · rw[lAz]
     show _+1<=_
     omega
theorem zI9{L:List (List Int)}{b:Nat}(hb:∀l,l<L.length->(L.getD l []).length<=b)(P:List Pt)(S:List PIr):∀n,n<=L.length->(slE P L S n).length<=S.length+n*b
  |0,_=>by show S.length<=_;omega
  |n+1,hn=>by
   have ih:=zI9 hb P S n zoa;have h1:=zI7 P (L.getD n []) (slE P L S n) (L.getD n []).length;have h2:=hb n zoa;have h3:(n+1)*b=n*b+b:=Nat.succ_mul n b
   show(sxE P (L.getD n []) (slE P L S n) (L.getD n []).length).length<=_
   omega
theorem zD0{s:Sd}(h:okS s):∀n,n<=s.2.1.length->(sfE s n).length<=n*1024
  |0,_=>by show([]:List PIr).length<=_;simp
  |n+1,hn=>by
   have ih:=zD0 h n zoa;have h0:=h.2.1 n zoa;have h1:=zI9 h0.2 s.1 (sfE s n) (s.2.1.getD n zA).2.1.length (Nat.le_refl _);have h2:(s.2.1.getD n zA).2.1.length*64<=16*64:=Nat.mul_le_mul_right _ h0.1
   show(slE s.1 (s.2.1.getD n zA).2.1 (sfE s n) (s.2.1.getD n zA).2.1.length).length<=_
   omega
theorem yE0(hT:T=sxE P x S u)(h1:¬(min (x.getD u 0) (x.getD ((u+1)%x.length) 0),max (x.getD u 0) (x.getD ((u+1)%x.length) 0))∈T)(h2:¬P.getD (x.getD u 0).toNat zT=P.getD (x.getD ((u+1)%x.length) 0).toNat zT):T++[(min (x.getD u 0) (x.getD ((u+1)%x.length) 0),max (x.getD u 0) (x.getD ((u+1)%x.length) 0))]=sxE P x S (u+1):=by
 rw[hT] at h1 ⊢;exact(if_neg λe=>e.elim h1 h2).symm
theorem zZ4(hT:T=sxE P x S u)(h1:¬¬(min (x.getD u 0) (x.getD ((u+1)%x.length) 0),max (x.getD u 0) (x.getD ((u+1)%x.length) 0))∈T):T=sxE P x S (u+1):=by
 rw[hT] at h1 ⊢;exact(if_pos (.inl (Classical.not_not.1 h1))).symm
theorem zZ3(hT:T=sxE P x S u)(h2:¬¬P.getD (x.getD u 0).toNat zT=P.getD (x.getD ((u+1)%x.length) 0).toNat zT):T=sxE P x S (u+1):=by
 rw[hT];exact(if_pos (.inr (Classical.not_not.1 h2))).symm
theorem yHL{E:List (List Pt)}{a b:Int}(hE:E=T.map (edP P)):E++[[P.getD (min a b).toNat zT,P.getD (max a b).toNat zT]]=(T++[(min a b,max a b)]).map (edP P):=by
 rw[hE,List.map_append]
 rfl
end
theorem zF1{α:Type}(d:α){l:List α}{x:α}(h:x∈l):∃i,i<l.length/\x=l.getD i d:=by
 obtain⟨i,hi,e⟩:=List.mem_iff_getElem.1 h;refine⟨i,hi,?_⟩;rw[<-e,List.getD_eq_getElem?_getD,List.getElem?_eq_getElem hi]
 rfl
theorem zW7{s:Sd}(h:okS s):zTC (tK s):=by
 refine⟨by rw[g5];exact h.1.1.2,?_,λf D=>?_⟩
 · show((sfE s s.2.1.length).map (edP s.1)).length<=_
   rw[List.length_map];have h1:=zD0 h s.2.1.length (Nat.le_refl _);have h2:=h.1.1.2;omega
 · rw[g5] at D
   rw[zKH D];have h0:=h.2.1 f D;have G:(zAL s.1 (s.2.1.getD f zA).2.1 (s.2.1.getD f zA).2.1.length).length=(s.2.1.getD f zA).2.1.length:=yZ _ _;refine⟨?_,?_,by show(zAL _ _ _).length<=_;rw[G];omega,λx hx=>?_⟩
   · have:=zC2 (s.2.1.getD f zA).1.1
     show 0<=((axI (s.2.1.getD f zA).1.1:Nat):Int)/\((axI (s.2.1.getD f zA).1.1:Nat):Int)<3
     omega
   · have:=zC2 (s.2.1.getD f zA).1.1
     show 0<=((axJ (s.2.1.getD f zA).1.1:Nat):Int)/\((axJ (s.2.1.getD f zA).1.1:Nat):Int)<3
     omega
   · have hx:x∈zAL s.1 (s.2.1.getD f zA).2.1 (s.2.1.getD f zA).2.1.length:=hx
     obtain⟨l,H,rfl⟩:=zF1 [] hx;have C:l<(s.2.1.getD f zA).2.1.length:=by rw[<-G];exact H
     rw[show(zAL s.1 (s.2.1.getD f zA).2.1 (s.2.1.getD f zA).2.1.length).getD l []=zE5 s.1 ((s.2.1.getD f zA).2.1.getD l []) ((s.2.1.getD f zA).2.1.getD l []).length from qF _ _ C,show(zE5 s.1 ((s.2.1.getD f zA).2.1.getD l []) ((s.2.1.getD f zA).2.1.getD l []).length).length=_ from yZ _ _];have:=h0.2 l C;omega
theorem zPA{s:Sd}(h:gC s)(p:Pt):cD (tK s) p<=3*(tK s).2.length+1/\clM (tK s) p (vK ↑(cD (tK s) p)):=by
 obtain⟨h1,h2,_⟩:=iO (gL h) p;rw[zGN h];refine⟨?_,(zRL h p _).2 h2⟩;have:(tK s).2.length=(sfE s s.2.1.length).length:=List.length_map _;omega
noncomputable def inM(md:Md)(p:Pt):Int:=if onA md p then 0 else if 0<wdM md p then 1 else -1
theorem yFK(a b:Rat):-1<=yR a*yR b/\yR a*yR b<=1:=by
 have h1:=yV a;have h2:=yV b;have g:∀x y:Int,-1<=x/\x<=1-> -1<=y/\y<=1-> -1<=x*y/\x*y<=1:=λx y hx hy=>by
  have:x= -1\/x=0\/x=1:=by omega
  rcases this with rfl|rfl|rfl<;>omega
 exact g _ _ h1 h2
theorem zAM{q:Rat}:0<yR q↔0<q:=by
 rw[rO]
 split
 · next h=>subst h;exact⟨λe=>absurd e zod,λe=>absurd e zod⟩
 · next h=>
   split
   · next h2=>exact⟨λe=>absurd e zod,λe=>by grind⟩
   · next h2=>exact⟨λe=>by grind,λe=>by decide⟩
theorem zP1{f:Fm}{p d:Pt}(h:¬skM f p d):whM f (T3.mk (p.x+(if xE f.1.1 d=0 then 0 else(f.1.2-xE f.1.1 p)/xE f.1.1 d)*d.x) (p.y+(if xE f.1.1 d=0 then 0 else(f.1.2-xE f.1.1 p)/xE f.1.1 d)*d.y) (p.z+(if xE f.1.1 d=0 then 0 else(f.1.2-xE f.1.1 p)/xE f.1.1 d)*d.z))=wrM f p d:=by
 have C:¬xE f.1.1 d=0:=λe=>h (.inl (by
  unfold cnM;rw[e,show yR 0=0 from if_pos I];omega))
 rw[if_neg C]
 rfl
end Bk
namespace Bk
open Go Go.RowKit
section
variable {P:Program}{n:Nat}{w0:World}{h0:Mem}{e:List (Nat×Value)}{L:List Res}{h:Mem}{Q:Exit->Act->World->Prop}
theorem zX1{c:Code}(k:GC P n w0 h0 c (Exit.noGoto Q) e L h):GC P n w0 h0 (.scope c) Q e L h:=λa w E S=>wp_scope_straight (k a w E S)
theorem zX2{l:Nat}(k:GQ n w0 h0 Q .normal e L h):GC P n w0 h0 (.label l) Q e L h:=λa w E S=>wp_label (k a w E S)
theorem yJY(k:GQ n w0 h0 Q .ret e L h):GQ n w0 h0 (Exit.noGoto Q) .ret e L h:=k
end
end Bk
namespace Go.Proofs.YtpkaegemlpaenaaGreat
open Bk Go Tryz
set_option maxRecDepth 10000
set_option maxHeartbeats 1000000
attribute [local irreducible] GL GC GQ W OpV
section
variable{w0:World}{h0:Mem}(hs:MLe h0 (mem w0))
include hs
theorem zTA{k m n j:Nat}{vs:Value}{s:Sq}(rs:(tSd k m n j).Is h0 vs s){vf:Value}{f:(Pq×((List (List Int))×(List Nat)))}(rf:(tFc m n).Is h0 vf f)(hcd0:∀u v,u<f.2.1.length->v<(f.2.1.getD u []).length->0<=(f.2.1.getD u []).getD v 0/\(f.2.1.getD u []).getD v 0<s.1.length)(hcd1:s.1.length<=100000)(hcd2:∀u,u<f.2.1.length->(f.2.1.getD u []).length<=10000)(hcd3:f.2.1.length<=10000):
 Calls Tryz.prog 104 #[vs,vf] w0 (Ret w0 h0 (λ_ r=>r=vB (True))):=by
 refine cb2 33 vs vf func104 hs ?_;refine go2 ?_;refine nB rs λb2 aa ad=>(nB rf λb3 Z ac=>(go7 ?_));refine lX (xB bY (Pc.snd (Pc.fst pH)) ac) λG ak=>(go5 ?_);refine gcL (ι:=Nat×Mem) (λ(l,J)=>(MLe h0 J/\(l<=f.2.1.length),[(2,vP b2 0),(10,G),(11,vI (↑(f.2.1).length:Int)),(12,vI ↑l)],[.var b3 53 Z,.var b2 39 aa],J,f.2.1.length-l)) (0,h0) ?_ ?_
 · exact⟨mle,oM⟩
 rintro⟨l,J⟩ ⟨ao,C⟩
 refine yX ?_;have ba:=C;refine gc6 (λU=>?_) λU=>?_
 ·
  refine go6 ?_;refine lX (xI [] l underlying51 tF ak) λav aj=>(lX (xA tF aj) λab ai=>(qA ?_));refine gcL (ι:=Nat×Mem) (λ(u,H)=>(MLe J H/\(u<=(f.2.1.getD l []).length),[(2,vP b2 0),(10,G),(11,vI (↑(f.2.1).length:Int)),(12,vI ↑l),(16,ab),(17,vI (↑((f.2.1.getD l [])).length:Int)),(18,vI ↑u)],[.var b3 53 Z,.var b2 39 aa],H,(f.2.1.getD l []).length-u)) (0,J) ?_ ?_
  · exact⟨mle,oM⟩
  rintro⟨u,H⟩ ⟨an,C⟩
  refine yX ?_;have ax:=C;have bb:=hcd2 l oM;refine gc6 (λO=>?_) λO=>?_
  ·
   obtain⟨az,ay⟩:=hcd0 l u oM oM;refine go6 ?_;refine lX (xI (0:Int) u underlying22 ty3 ai) λau ah=>(lX (xA ty3 ah) λar ae=>?_);obtain⟨rfl,ap,am⟩:=kJ ae;refine go7 ?_;refine gU 7 30 (vB ((((f.2.1.getD l []).getD u (0:Int))<(0:Int))\/((↑(s.1).length:Int)<=((f.2.1.getD l []).getD u (0:Int))))) ?_ ?_
   ·
    refine zY (((f.2.1.getD l []).getD u (0:Int))<(0:Int)) (λM=>?_) (λM=>?_)
    ·
     refine gT M I (go7 ?_);refine gqU ?_;exact congrArg some (vH M)
    refine gF M I (go5 ?_);refine lX (xB vY (Pc.fst pH) ad) λaq aw=>(go6 ?_);refine gqU ?_;exact congrArg some (vJ M)
   refine gc2 (λD=>?_) λD=>?_
   · exact absurd D oM
   refine go7 ?_;refine gqL ((u+1),H) ?_ ?_
   · exact⟨mle,oM⟩
   omega
  refine uE ?_;refine gqL ((l+1),H) ?_ ?_
  · exact⟨mle,oM⟩
  omega
 refine qA ?_;refine zC I I ?_;exact(xK trivial).symm
theorem zLT{k m n j:Nat}{vs:Value}{s:Sq}(rs:(tSd k m n j).Is h0 vs s){vf:Value}{f:(Pq×((List (List Int))×(List Nat)))}(rf:(tFc m n).Is h0 vf f)(hcd0:∀u v,u<f.2.1.length->v<(f.2.1.getD u []).length->0<=(f.2.1.getD u []).getD v 0/\(f.2.1.getD u []).getD v 0<s.1.length)(hcd1:s.1.length<=100000)(hcd2:∀u,u<f.2.1.length->(f.2.1.getD u []).length<=10000)(hcd3:f.2.1.length<=10000):
 Calls Tryz.prog 105 #[vs,vf] w0 (Ret w0 h0 (λh r=>(tLL (k+1)).Is h r (zAL s.1 f.2.1 f.2.1.length))):=by
 refine cb2 39 vs vf func105 hs ?_;refine go2 ?_;refine nB rs λb2 au az=>(nB rf λb3 ar ay=>(uS ?_));refine lX (xB bY (Pc.snd (Pc.fst pH)) ay) λab bh=>(go5 ?_);refine xM 35 1 ?_;have ae:=RL.nil (ρ:=rpS (tPt (k+1))) (h:=h0);refine gcL (ι:=Nat×List (List Tq)×Value×List Value×Mem) (λ(l,D,C,G,ma)=>(MLe h0 ma/\(RL (tLs (k+1)) ma G D/\l<=f.2.1.length/\D=zAL s.1 f.2.1 l),[(2,vP b2 0),(5,C),(12,ab),(13,vI (↑(f.2.1).length:Int)),(14,vI ↑l)],[.gs 35 1 C D.length G,.var b3 53 ar,.var b2 39 au],ma,f.2.1.length-l)) (0,[],(.slice none 0 0),[],h0) ?_ ?_
 · exact⟨mle,ae,by omega,I⟩
 rintro⟨l,D,C,G,ma⟩ ⟨bk,O,ce,hD⟩
 refine yX ?_;have ci:D.length=l:=by rw[hD];exact yZ _ _
 refine gc6 (λao=>?_) λao=>?_
 ·
  refine go6 ?_;refine lX (xI [] l underlying51 tF bh) λbv bg=>(lX (xA tF bg) λax bf=>(mF ?_));refine xM 31 9 ?_;have ad:=RL.nil (ρ:=rpT (rpQ (k+1))) (h:=ma);refine gcL (ι:=Nat×List Tq×Value×List Value×Mem) (λ(u,E,H,J,mb)=>(MLe ma mb/\(RL (tPt (k+1)) mb J E/\u<=(f.2.1.getD l []).length/\E=zE5 s.1 (f.2.1.getD l []) u),[(2,vP b2 0),(5,C),(8,H),(12,ab),(13,vI (↑(f.2.1).length:Int)),(14,vI ↑l),(18,ax),(19,vI (↑((f.2.1.getD l [])).length:Int)),(20,vI ↑u)],[.gs 31 9 H E.length J,.gs 35 1 C D.length G,.var b3 53 ar,.var b2 39 au],mb,(f.2.1.getD l []).length-u)) (0,[],(.slice none 0 0),[],ma) ?_ ?_
  · exact⟨mle,ad,by omega,I⟩
  rintro⟨u,E,H,J,mb⟩ ⟨bj,M,cb,hE⟩
  refine yX ?_;have ch:E.length=u:=by rw[hE];exact yZ _ _
  have cg:=hcd2 l oM;refine gc6 (λan=>?_) λan=>?_
  ·
   obtain⟨cd,cc⟩:=hcd0 l u oM oM;refine go6 ?_;refine lX (xI (0:Int) u underlying22 ty3 bf) λbu be=>(lX (xA ty3 be) λbt bd=>?_);obtain⟨rfl,bl,bi⟩:=kJ bd;refine go6 ?_;refine lX (xB vY (Pc.fst pH) az) λbs bc=>(go1 ?_);refine lX (xI zT (((f.2.1.getD l []).getD u 0).toNat) underlying35 zH bc) λbr bb=>(lX (xA zH bb) λbq ba=>(zI (zL (ρ:=(tPt (k+1))) (m:=1) (xs:=[(s.1.getD (((f.2.1.getD l []).getD u 0).toNat) zT)]) (ps':=[(0,_)]) underlying35 yN I I I (xN (yH oM)) e2z (zD I (Pc.arr (Pc.here _) zT 0 dC) (ba.le (Le.t (Le.q (l:=k+1) oM))) zO) (show 1*9<=16777216 from by decide) nP) I I I ?_))
   rintro bp ca ⟨bn,rfl,ak⟩
   refine zS (A:=[]) (ρ:=(tPt (k+1))) ak ?_;intro h1 am ac;refine xS (A:=[]) (zV (ρ:=(tPt (k+1))) (bytes:=168) underlying35 yN I I I I nP I I M.up ac bO bO) I I I ?_
   rintro aw bz ⟨aq,rfl,aj⟩
   refine go8 ?_;refine gqL ((u+1),(E++[(s.1.getD (((f.2.1.getD l []).getD u 0).toNat) zT)]),aw,aq,h1) ?_ ?_
   · exact⟨mle,aj,by omega,by rw[hE];rfl⟩
   omega
  have eu:u=(f.2.1.getD l []).length:=by omega
  refine go8 ?_;refine zS (A:=[]) (ρ:=(tPt (k+1))) M.up ?_;intro h1 am aa;refine zI (zL (ρ:=(tLs (k+1))) (m:=1) (xs:=[E]) (ps':=[(0,_)]) underlying76 cV I I I wN e2z (zD I (Pc.arr (Pc.here _) [] 0 dC) aa zO) (show 1*1<=16777216 from by decide) nP) I I I ?_
  rintro bo bx ⟨bm,rfl,ai⟩
  refine zS (A:=[]) (ρ:=(tLs (k+1))) ai ?_;intro h2 cf Z;refine xS (A:=[]) (zV (ρ:=(tLs (k+1))) (bytes:=24) underlying76 cV I I I I nP I I O.up Z bO bO) I I I ?_
  rintro av bw ⟨ap,rfl,ah⟩
  refine go8 ?_;refine gqL ((l+1),(D++[E]),av,ap,h2) ?_ ?_
  · exact⟨mle,ah,by omega,by rw[hD,hE,eu];rfl⟩
  omega
 have el:l=f.2.1.length:=by omega
 refine uS ?_;refine wO (A:=[]) (ρ:=(tLs (k+1))) O.up ?_;intro h1 am U;refine zC I I ?_;exact(Rp.Is.cast U (by rw[hD,el]))
theorem zIA{m n k j:Nat}{vf:Value}{f:(Pq×((List (List Tq))×(Int×Int)))}(rf:(rpP (tPl m n) (rpP (tLL k) (rpP rpI rpI))).Is h0 vf f){vp:Value}{p:Tq}(rp:(tPt j).Is h0 vp p)(hcd0:k<=50000)(hcd1:j<=50000)(hcd2:yHB f):
 Calls Tryz.prog 109 #[vf,vp] w0 (Ret w0 h0 (λ_ r=>r=vI (whM f p))):=by
 obtain⟨J,hi2⟩:∃J:Nat,f.2.2.1=↑J:=⟨f.2.2.1.toNat,by have:=hcd2.1;omega⟩;obtain⟨H,G⟩:∃H:Nat,f.2.2.2=↑H:=⟨f.2.2.2.toNat,by have:=hcd2.2.1;omega⟩;have C:=hcd2;unfold yHB at C;rw[hi2,G] at C;refine cb2 13 vf vp func109 hs ?_;refine go2 ?_;refine nB rf λb2 aj D=>(nB rp λb3 ai O=>(go6 ?_));refine lX (xB yEA (Pc.snd (Pc.fst pH)) D) λv6 r6=>(lX (xB zH pH O) λv7 r7=>(go1 ?_));refine lX (xB ty3 (Pc.snd (Pc.snd (Pc.fst pH))) D) λv9 r9=>?_;obtain⟨rfl,ae,ad⟩:=kJ r9;refine go1 ?_;refine lX (xB ty3 (Pc.snd (Pc.snd (Pc.snd pH))) D) λac Z=>?_;obtain⟨rfl,ab,aa⟩:=kJ Z;rw[hi2,G];refine cL (ev4 I I I I) call149 (λw hs=>zOW (i:=J) (j:=H) hs (r6.le (Le.s (Le.s (Le.t (Le.q (l:=j+k) oM))))) (r7.le (Le.t (Le.q (l:=j+k) oM))) oM oM oM (by first|omega|exact C.2.2.2|exact C.2.2.1) (by first|omega|exact C.2.2.2|exact C.2.2.1)) λM h1 ah U=>?_;obtain rfl:M=vI (whZ f.2.1 (pr p J H) J H):=U;refine go4 ?_;refine zC I I ?_;unfold whM;rw[hi2,G];rfl
theorem yBA{k l j:Nat}{vx:Value}{x:(Tq×(Tq×Prop))}(rx:(rpP (tPt k) (rpP (tPt l) rpB)).Is h0 vx x){vd:Value}{d:Tq}(rd:(tPt j).Is h0 vd d)(hcd0:k<=1000000)(hcd1:l<=1000000)(hcd2:j<=1000000):
 Calls Tryz.prog 117 #[vx,vd] w0 (Ret w0 h0 (λ_ r=>r=vB (zGC x d))):=by
 refine cb2 18 vx vd func117 hs ?_;refine go2 ?_;refine nB rx λb2 an C=>(nB rd λb3 am J=>(go7 ?_));refine lX (xB ty4 (Pc.snd (Pc.snd pH)) C) λv6 r6=>?_;obtain rfl:=yF9 r6;refine gc2 (λH=>?_) λH=>?_
 ·
  refine go3 ?_;refine lX (xB zH (Pc.snd (Pc.fst pH)) C) λv8 r8=>(lX (xB zH pH J) λv9 r9=>(cL (ev2 I I) call114 (λw hs=>zH2 hs r8 r9 oM) λak h1 ae G=>?_));replace G:=Rp.Is.le G (Le.t (Le.q (l:=2*j+2*l+3) oM));refine cL (ev1 I) call78 (λw hs=>zLR hs G oM) λO h2 ad ab=>?_;obtain rfl:O=vB ((xH x.2.1 d)=zT):=ab;refine go5 ?_;refine zC I I ?_;exact kA (by unfold zGC;rw[if_pos H])
 refine go5 ?_;refine lX (xB zH (Pc.fst pH) C) λaj aa=>(lX (xB zH pH J) λai Z=>(cL (ev2 I I) call120 (λw hs=>zD3 hs aa Z oM) λah h1 ae D=>?_));replace D:=Rp.Is.le D (Le.q (l:=3*j+3*k+9) oM);refine cL (ev1 I) call122 (λw hs=>rX hs D oM) λM h2 ad U=>?_;obtain rfl:M=vI (yR (xE x.1 d)):=U;have ac:=yV (xE x.1 d);refine go5 ?_;refine zC I I ?_;exact kA (by unfold zGC;rw[if_neg H];exact zQA)
theorem zWO{m n k j:Nat}{vmd:Value}{md:((List (Pq×((List (List Tq))×(Int×Int))))×(List (List Tq)))}(rmd:(rpP (rpS (rpP (tPl m n) (rpP (tLL k) (rpP rpI rpI)))) (rpS (rpA 2 (tPt k)))).Is h0 vmd md){vp:Value}{p:Tq}(rp:(tPt j).Is h0 vp p)(hcd0:k<=20000)(hcd1:j<=20000)(hcd2:m<=20000)(hcd3:n<=20000)(hcd4:zTC md):
 Calls Tryz.prog 70 #[vmd,vp] w0 (Ret w0 h0 (λh r=>r=.tuple #[vI (↑(onJ md p):Int),vB (onA md p)])):=by
 refine cb2 35 vmd vp func70 hs ?_;refine go2 ?_;refine nB rmd λb2 ac ai=>(nB rp λb3 ab O=>(go8 ?_));refine lX (xB yD9 (Pc.fst pH) ai) λv9 r9=>(go5 ?_);refine gcL (ι:=Nat×Mem) (λ(f,ma)=>(MLe h0 ma/\(f<=md.1.length/\∀u,u<f->¬onM md p u),[(3,vP b3 0),(9,v9),(10,vI (↑(md.1).length:Int)),(11,vI ↑f)],[.var b3 31 ab,.var b2 99 ac],ma,md.1.length-f)) (0,h0) ?_ ?_
 · exact⟨mle,by omega,λu h=>by omega⟩
 rintro⟨f,ma⟩ ⟨ax,bi,H⟩
 refine yX ?_;have bg:=hcd4.1;refine gc6 (λZ=>?_) λZ=>?_
 ·
  refine go7 ?_;refine lX (xI fm0 f underlying96 zEI r9) λbe ar=>(lX (xA zEI ar) λbd aq=>(nA (ρ:=(rpP (tPl 1 1) (rpP (tLL 1) (rpP rpI rpI)))) (X:=((zT,(0:Rat)),([],((0:Int),(0:Int))))) oO (yD (yD (xN (yH dC)) (yH dC)) (yD wN (yD wL wL))) λb7 bj ah=>(go1 ?_)));have M:=(Le.p (Le.p (Le.t (Le.q (l:=m+1) oM)) (Le.q (l:=n+1) oM)) (Le.p (Le.s (Le.s (Le.t (Le.q (l:=k+1) oM)))) (Le.refl _))).R ah;refine yB (A:=[]) (uB sizeOf140 pH M (aq.le (Le.p (Le.p (Le.t (Le.q (l:=m+1) oM)) (Le.q (l:=n+1) oM)) (Le.p (Le.s (Le.s (Le.t (Le.q (l:=k+1) oM)))) (Le.refl _))))) λaa C=>(go5 ?_);refine lX (xB bZ (Pc.fst pH) C) λbc ap=>(lX (xB zH pH O) λbb ao=>(cL (ev2 I I) call108 (λw hs=>zS8 hs ap ao oM oM oM) λae h1 bh an=>?_));obtain rfl:ae=vI (sdZ ((md.1.getD f fm0).1) p):=an;have au:=bG ((md.1.getD f fm0).1) p;refine go1 ?_;refine gU 6 26 (vB (((sdZ ((md.1.getD f fm0).1) p)=(0:Int))/\((0:Int)<(↑(((md.1.getD f fm0).2).1).length:Int)))) ?_ ?_
  ·
   refine zY ((sdZ ((md.1.getD f fm0).1) p)=(0:Int)) (λD=>?_) (λD=>?_)
   ·
    refine gT D I (go3 ?_);refine lX (xB yEA (Pc.snd (Pc.fst pH)) C) λba bf=>(go6 ?_);refine gqU ?_;exact congrArg some (xC D)
   refine gF D I (go6 ?_);refine gqU ?_;exact congrArg some (xD D)
  refine qB (ι:=Mem) 6 (λm_=>MLe h1 m_) (λ_=>[(32,vB ((((sdZ ((md.1.getD f fm0).1) p)=(0:Int))/\((0:Int)<(↑(((md.1.getD f fm0).2).1).length:Int)))/\((0:Int)<=(whM (md.1.getD f fm0) p)))),(3,vP b3 0),(9,v9),(10,vI (↑(md.1).length:Int)),(11,vI ↑f),(6,vI ↑f)]) (λ_=>[.var b7 140 aa,.var b3 31 ab,.var b2 99 ac]) (λm_=>m_) ?_ ?_
  ·
   refine zY (((sdZ ((md.1.getD f fm0).1) p)=(0:Int))/\((0:Int)<(↑(((md.1.getD f fm0).2).1).length:Int))) (λD=>?_) (λD=>?_)
   ·
    refine gT D I (go1 ?_);refine lX (xB zEI pH C) λaz am=>(go1 ?_);refine lX (xB zH pH O) λay ak=>(go1 ?_);refine cL (ev2 I I) call109 (λw hs=>zIA hs am ak oM oM (by first|omega|exact hcd4.2.2 f oM)) λad h2 aw aj=>?_;obtain rfl:ad=vI (whM (md.1.getD f fm0) p):=aj;refine go4 ?_;refine zR h2 aw ⟨?_,I,I,I,I,I,trivial⟩ I I;exact congrArg some (xC D)
   refine gF D I (go6 ?_);refine zR h1 (MLe.refl _) ⟨?_,I,I,I,I,I,trivial⟩ I I;exact congrArg some (xD D)
  intro G J;refine tZ ?_;refine gc2 (λU=>?_) λU=>?_
  ·
   have av:onM md p f:=by show((_/\_)/\_);omega
   obtain⟨e1,e2⟩:=zSU oM av H;refine sR ?_;refine wH I I I ?_;rw[e1,xK e2]
  refine go7 ?_;refine yM (A:=[]) ?_;refine gqL ((f+1),G) ?_ ?_
  · exact⟨mle,by omega,xR (Q:=λu=>¬onM md p u) H (by show ¬((_/\_)/\_);omega)⟩
  omega
 obtain⟨e1,e2⟩:=zWE (md:=md) (p:=p) (λu hu=>H u oM);refine uS ?_;refine wH I I I ?_;rw[e1,yG e2];rfl
theorem y5{m n k j:Nat}{vmd:Value}{md:((List (Pq×((List (List Tq))×(Int×Int))))×(List (List Tq)))}(rmd:(rpP (rpS (rpP (tPl m n) (rpP (tLL k) (rpP rpI rpI)))) (rpS (rpA 2 (tPt k)))).Is h0 vmd md){vp:Value}{p:Tq}(rp:(tPt j).Is h0 vp p)(hcd0:k<=10000)(hcd1:j<=10000)(hcd2:zTC md)(hcd3:cD md p<=3*md.2.length+1)(hcd4:clM md p (vK ↑(cD md p))):
 Calls Tryz.prog 74 #[vmd,vp] w0 (Ret w0 h0 (λh r=>(tPt 2).Is h r (vK ↑(cD md p)))):=by
 have fb:=hcd2.2.1;refine cb2 75 vmd vp func74 hs ?_;refine go2 ?_;refine nB rmd λb2 be cb=>(nB rp λb3 bd bh=>(nA (ρ:=(tPt 2)) (X:=zT) yN (xN (yH dC)) λb4 bc ca=>(go2 ?_)));refine zX1 (go9 ?_);refine lX (xB yIM (Pc.snd pH) cb) λbw db=>(go5 ?_);refine xM 153 19 ?_;have bg:=RL.nil (ρ:=rpP (tPt (4*j+4*k+15)) (rpP (tPt (2*k+4)) rpB)) (h:=h0);refine gcL (ι:=Nat×List Ac×Value×List Value×Mem) (λ(q,D,C,H,ma)=>(MLe h0 ma/\(RL (rpP (tPt (4*j+4*k+15)) (rpP (tPt (2*k+4)) rpB)) ma H D/\q<=md.2.length/\D=acT p md.2 q),[(3,vP b3 0),(4,vP b4 0),(5,C),(14,bw),(15,vI (↑(md.2).length:Int)),(16,vI ↑q)],[.gs 153 19 C D.length H,.var b4 31 bc,.var b3 31 bd,.var b2 99 be],ma,md.2.length-q)) (0,[],(.slice none 0 0),[],h0) ?_ ?_
 · exact⟨mle,bg,by omega,I⟩
 rintro⟨q,D,C,H,ma⟩ ⟨dt,U,fa,hD⟩
 refine yX ?_;have fe:D.length=q:=by rw[hD];exact yZ _ _
 refine gc6 (λbp=>?_) λbp=>?_
 ·
  refine go6 ?_;refine lX (xI (List.replicate 2 zT) q underlying97 yCR db) λey da=>(lX (xA yCR da) λew cz=>(nA (ρ:=(rpA 2 (tPt (k+1)))) (X:=(List.replicate 2 zT)) zBH (zKQ 2 (xN (yH oM))) λb7 ff bz=>(yB (A:=[]) (uB sizeOf151 pH bz (cz.le (Le.a (Le.t (Le.q (l:=k+1) oM))))) λdw M=>(go3 ?_))));refine zK 11 _ [(10,(8,153,[.bool false,.slice none 0 0,.slice none 0 0,.bool false,.slice none 0 0,.slice none 0 0,.bool false,.slice none 0 0,.slice none 0 0,.bool false,.slice none 0 0,.slice none 0 0,.bool false,.slice none 0 0,.slice none 0 0,.bool false,.slice none 0 0,.slice none 0 0,.bool false]))] [(0,.q),(1,.q),(2,.q),(4,.q),(5,.q),(6,.q),(3,.c),(7,.c),(8,.c),(9,.q),(10,.a),(11,.t)] zX (qZ.cons I I (uJ nD I I) qZ.nil) (wJ zob) (uK I I kL) (λr hr=>hr) (go1 ?_);refine wX I (xB zH (Pc.arr pH zT 0 dC) M) λev cy=>(wX I (xB zH pH bh) λeu cw=>(go1 ?_));refine wX I (xB zH (Pc.arr pH zT 1 dC) M) λer cu=>(wX I (xB zH pH bh) λep ct=>?_);refine w_c I (sC (ev2 I I) call115 (λw hs=>zJQ hs cy cw oM) λes h1 dj az=>?_);replace az:=Rp.Is.le az (Le.t (Le.q (l:=j+k+3) oM));refine w_c I (sC (ev2 I I) call115 (λw hs=>zJQ hs cu.up ct.up oM) λeo h2 di ay=>?_);replace ay:=Rp.Is.le ay (Le.t (Le.q (l:=j+k+3) oM));refine w_c I (sC (ev2 I I) call114 (λw hs=>zH2 hs az.up ay oM) λen h3 dh ax=>?_);replace ax:=Rp.Is.le ax (Le.t (Le.q (l:=4*j+4*k+15) oM));refine wX I (xV (ρ:=(rpP (tPt (4*j+4*k+15)) (rpP (tPt 1) rpB))) (wE (ps':=[(0,_)]) underlying153 nD I I (zSM underlying153) e2z I (yD (xN (yH oM)) (yD (xN (yH dC)) zRW)) (zD I (Pc.fst (Pc.here _)) ax zO))) λem cq=>?_;refine w_a I I (λb8=>?_);have bx:(rpP (tPt 1) (rpP (tPt 1) rpB)).R h3 [.bool false,.slice none 0 0,.slice none 0 0,.bool false,.slice none 0 0,.slice none 0 0,.bool false,.slice none 0 0,.slice none 0 0,.bool false,.slice none 0 0,.slice none 0 0,.bool false,.slice none 0 0,.slice none 0 0,.bool false,.slice none 0 0,.slice none 0 0,.bool false] (zT,(zT,False)):=(yD (xN (yH dC)) (yD (xN (yH dC)) zRW));have bf:=(Le.p (Le.t (Le.q (l:=4*j+4*k+15) oM)) (Le.refl _)).R bx;refine yJ (A:=[]) I (uB sizeOf153 pH bf cq) λdv ah=>(go6 ?_);refine lX (xB zH (Pc.fst pH) ah) λel cp=>(cL (ev1 I) call78 (λw hs=>zLR hs cp oM) λbv h4 df co=>?_);obtain rfl:bv=vB ((xH (T3.mk (((md.2.getD q (List.replicate 2 zT)).getD 0 zT).x-p.x) (((md.2.getD q (List.replicate 2 zT)).getD 0 zT).y-p.y) (((md.2.getD q (List.replicate 2 zT)).getD 0 zT).z-p.z)) (T3.mk (((md.2.getD q (List.replicate 2 zT)).getD 1 zT).x-p.x) (((md.2.getD q (List.replicate 2 zT)).getD 1 zT).y-p.y) (((md.2.getD q (List.replicate 2 zT)).getD 1 zT).z-p.z)))=zT):=co;refine go1 ?_;refine yB (A:=[]) (uB sizeOf4 (Pc.snd (Pc.snd pH)) ah (yJT _)) λdn J=>(go5 ?_);refine lX (xB ty4 (Pc.snd (Pc.snd pH)) J) λek cn=>?_;obtain rfl:=yF9 cn;refine gc2 (λac=>?_) λac=>?_
  ·
   refine go2 ?_;refine lX (xB zH (Pc.arr pH zT 1 dC) M) λej cm=>(go1 ?_);refine lX (xB zH (Pc.arr pH zT 0 dC) M) λei cl=>(cL (ev2 I I) call115 (λw hs=>zJQ hs cm cl oM) λeh h5 de aw=>?_);replace aw:=Rp.Is.le aw (Le.t (Le.q (l:=2*k+4) oM));refine go1 ?_;have am:=(Le.p (Le.refl _) (Le.p (Le.t (Le.q (l:=2*k+4) oM)) (Le.refl _))).R J;refine yB (A:=[]) (uB sizeOf31 (Pc.snd (Pc.fst pH)) am aw) λdm au=>(go4 ?_);refine lX (xB zP5 pH au) λbu av=>(zI (zL (ρ:=(rpP (tPt (4*j+4*k+15)) (rpP (tPt (2*k+4)) rpB))) (m:=1) (xs:=[(xH (T3.mk (((md.2.getD q (List.replicate 2 zT)).getD 0 zT).x-p.x) (((md.2.getD q (List.replicate 2 zT)).getD 0 zT).y-p.y) (((md.2.getD q (List.replicate 2 zT)).getD 0 zT).z-p.z)) (T3.mk (((md.2.getD q (List.replicate 2 zT)).getD 1 zT).x-p.x) (((md.2.getD q (List.replicate 2 zT)).getD 1 zT).y-p.y) (((md.2.getD q (List.replicate 2 zT)).getD 1 zT).z-p.z)),((T3.mk (((md.2.getD q (List.replicate 2 zT)).getD 1 zT).x-((md.2.getD q (List.replicate 2 zT)).getD 0 zT).x) (((md.2.getD q (List.replicate 2 zT)).getD 1 zT).y-((md.2.getD q (List.replicate 2 zT)).getD 0 zT).y) (((md.2.getD q (List.replicate 2 zT)).getD 1 zT).z-((md.2.getD q (List.replicate 2 zT)).getD 0 zT).z)),(xH (T3.mk (((md.2.getD q (List.replicate 2 zT)).getD 0 zT).x-p.x) (((md.2.getD q (List.replicate 2 zT)).getD 0 zT).y-p.y) (((md.2.getD q (List.replicate 2 zT)).getD 0 zT).z-p.z)) (T3.mk (((md.2.getD q (List.replicate 2 zT)).getD 1 zT).x-p.x) (((md.2.getD q (List.replicate 2 zT)).getD 1 zT).y-p.y) (((md.2.getD q (List.replicate 2 zT)).getD 1 zT).z-p.z)))=zT))]) (ps':=[(0,_)]) underlying150 nD I I I (yD (xN (yH oM)) (yD (xN (yH oM)) zRW)) e2z (zD I (Pc.arr (Pc.here _) (zT,(zT,False)) 0 dC) av zO) (show 1*19<=16777216 from by decide) nP) I I I ?_);intro bt dd bl;obtain⟨bq,rfl,aa⟩:=bl;refine zS (A:=[]) (ρ:=(rpP (tPt (4*j+4*k+15)) (rpP (tPt (2*k+4)) rpB))) aa ?_;intro h6 fd ao;refine xS (A:=[_,_]) (zV (ρ:=(rpP (tPt (4*j+4*k+15)) (rpP (tPt (2*k+4)) rpB))) (bytes:=344) underlying150 nD I I I I nP I I U.up ao bO bO) I I I ?_;intro aj dc bk;obtain⟨ad,rfl,Z⟩:=bk;refine go8 ?_;refine yM (A:=[]) (yM (A:=[]) ?_);refine gqL ((q+1),(D++[(xH (T3.mk (((md.2.getD q (List.replicate 2 zT)).getD 0 zT).x-p.x) (((md.2.getD q (List.replicate 2 zT)).getD 0 zT).y-p.y) (((md.2.getD q (List.replicate 2 zT)).getD 0 zT).z-p.z)) (T3.mk (((md.2.getD q (List.replicate 2 zT)).getD 1 zT).x-p.x) (((md.2.getD q (List.replicate 2 zT)).getD 1 zT).y-p.y) (((md.2.getD q (List.replicate 2 zT)).getD 1 zT).z-p.z)),((T3.mk (((md.2.getD q (List.replicate 2 zT)).getD 1 zT).x-((md.2.getD q (List.replicate 2 zT)).getD 0 zT).x) (((md.2.getD q (List.replicate 2 zT)).getD 1 zT).y-((md.2.getD q (List.replicate 2 zT)).getD 0 zT).y) (((md.2.getD q (List.replicate 2 zT)).getD 1 zT).z-((md.2.getD q (List.replicate 2 zT)).getD 0 zT).z)),(xH (T3.mk (((md.2.getD q (List.replicate 2 zT)).getD 0 zT).x-p.x) (((md.2.getD q (List.replicate 2 zT)).getD 0 zT).y-p.y) (((md.2.getD q (List.replicate 2 zT)).getD 0 zT).z-p.z)) (T3.mk (((md.2.getD q (List.replicate 2 zT)).getD 1 zT).x-p.x) (((md.2.getD q (List.replicate 2 zT)).getD 1 zT).y-p.y) (((md.2.getD q (List.replicate 2 zT)).getD 1 zT).z-p.z)))=zT))]),aj,ad,h6) ?_ ?_
   · exact⟨mle,Z,by omega,ac_t hD ac⟩
   omega
  refine go4 ?_;refine lX (xB zP5 pH J) λbu av=>(zI (zL (ρ:=(rpP (tPt (4*j+4*k+15)) (rpP (tPt 1) rpB))) (m:=1) (xs:=[(xH (T3.mk (((md.2.getD q (List.replicate 2 zT)).getD 0 zT).x-p.x) (((md.2.getD q (List.replicate 2 zT)).getD 0 zT).y-p.y) (((md.2.getD q (List.replicate 2 zT)).getD 0 zT).z-p.z)) (T3.mk (((md.2.getD q (List.replicate 2 zT)).getD 1 zT).x-p.x) (((md.2.getD q (List.replicate 2 zT)).getD 1 zT).y-p.y) (((md.2.getD q (List.replicate 2 zT)).getD 1 zT).z-p.z)),(zT,(xH (T3.mk (((md.2.getD q (List.replicate 2 zT)).getD 0 zT).x-p.x) (((md.2.getD q (List.replicate 2 zT)).getD 0 zT).y-p.y) (((md.2.getD q (List.replicate 2 zT)).getD 0 zT).z-p.z)) (T3.mk (((md.2.getD q (List.replicate 2 zT)).getD 1 zT).x-p.x) (((md.2.getD q (List.replicate 2 zT)).getD 1 zT).y-p.y) (((md.2.getD q (List.replicate 2 zT)).getD 1 zT).z-p.z)))=zT))]) (ps':=[(0,_)]) underlying150 nD I I I (yD (xN (yH oM)) (yD (xN (yH dC)) zRW)) e2z (zD I (Pc.arr (Pc.here _) (zT,(zT,False)) 0 dC) av zO) (show 1*19<=16777216 from by decide) nP) I I I ?_)
  rintro bt dd ⟨bq,rfl,aa⟩
  refine zS (A:=[]) (ρ:=(rpP (tPt (4*j+4*k+15)) (rpP (tPt 1) rpB))) aa ?_;intro h5 de an;refine xS (A:=[_,_]) (zV (ρ:=(rpP (tPt (4*j+4*k+15)) (rpP (tPt (2*k+4)) rpB))) (bytes:=344) underlying150 nD I I I I nP I I U.up (an.le (Le.s (Le.p (Le.refl _) (Le.p (Le.t (Le.q (l:=2*k+4) oM)) (Le.refl _))))) bO bO) I I I ?_
  rintro aj dc ⟨ad,rfl,Z⟩
  refine go8 ?_;refine yM (A:=[]) (yM (A:=[]) ?_);refine gqL ((q+1),(D++[(xH (T3.mk (((md.2.getD q (List.replicate 2 zT)).getD 0 zT).x-p.x) (((md.2.getD q (List.replicate 2 zT)).getD 0 zT).y-p.y) (((md.2.getD q (List.replicate 2 zT)).getD 0 zT).z-p.z)) (T3.mk (((md.2.getD q (List.replicate 2 zT)).getD 1 zT).x-p.x) (((md.2.getD q (List.replicate 2 zT)).getD 1 zT).y-p.y) (((md.2.getD q (List.replicate 2 zT)).getD 1 zT).z-p.z)),(zT,(xH (T3.mk (((md.2.getD q (List.replicate 2 zT)).getD 0 zT).x-p.x) (((md.2.getD q (List.replicate 2 zT)).getD 0 zT).y-p.y) (((md.2.getD q (List.replicate 2 zT)).getD 0 zT).z-p.z)) (T3.mk (((md.2.getD q (List.replicate 2 zT)).getD 1 zT).x-p.x) (((md.2.getD q (List.replicate 2 zT)).getD 1 zT).y-p.y) (((md.2.getD q (List.replicate 2 zT)).getD 1 zT).z-p.z)))=zT))]),aj,ad,h5) ?_ ?_
  · exact⟨mle,Z,by omega,ac_f hD ac⟩
  omega
 have eq:q=md.2.length:=by omega
 rw[eq] at hD;have du:D.length=md.2.length:=by rw[hD];exact yZ _ _
 refine go6 ?_;refine zX2 (go8 ?_);refine gcL (ι:=Nat×Mem) (λ(G,mb)=>(MLe ma mb/\(G<=cD md p),[(4,vP b4 0),(5,C),(9,vI ↑G)],[.gs 153 19 C D.length H,.var b4 31 bc,.var b3 31 bd,.var b2 99 be],mb,cD md p-G)) (0,ma) ?_ ?_
 · exact⟨mle,oM⟩
 rintro⟨G,mb⟩ ⟨dr,bn⟩
 refine yX ?_;have ba:=bn;refine go5 ?_;refine gv (kP mh0 underlying150 I) I (gv (kU (p:=3) I I oM oM) I (gc4 (λai=>?_) λai=>?_))
 ·
  have fc:(0:Int)<=↑G*↑G/\(↑G:Int)*↑G<=36000012000001:=by have h9:G*G<=6000001*6000001:=Nat.mul_le_mul oM oM;rw[<-Int.natCast_mul];omega
  refine go6 ?_;refine cL (vs:=[vI (1)]) ⟨I,trivial⟩ call116 (λw hs=>zCF hs dC dC) λeg h1 dj ck=>(go1 ?_);refine cL (ev1 I) call116 (λw hs=>zCF hs oM oM) λef h2 di cj=>(go2 ?_);refine gv (kU I I oM oM) I (cL (ev1 I) call116 (λw hs=>zCF hs oM oM) λee h3 dh ci=>(lX (xV (ρ:=(tPt 2)) (wD (ps':=[(0,_),(1,_),(2,_)]) underlying31 yN I I sizeOf29 e6z I (xN (yH dC)) (zD I (Pc.tx (Pc.here _)) ck.up (zD I (Pc.ty (Pc.here _)) cj.up (zD I (Pc.tz (Pc.here _)) ci zO))))) λed ch=>(nA (ρ:=(tPt 2)) (X:=zT) yN (xN (yH dC)) λbr dy bj=>(yB (A:=[]) (uB sizeOf31 pH bj ch) λbb ab=>(go6 ?_)))));refine gv (kP mh1 underlying150 I) I (go4 ?_);refine gcL (ι:=Nat×Mem) (λ(u,mc)=>(MLe h3 mc/\(u<=D.length/\∀v,v<u->¬zGC (D.getD v (zT,(zT,False))) (vK ↑G)),[(4,vP b4 0),(5,C),(9,vI ↑G),(10,vP br 0),(63,C),(64,vI (↑D.length:Int)),(65,vI ↑u)],[.var br 31 bb,.gs 153 19 C D.length H,.var b4 31 bc,.var b3 31 bd,.var b2 99 be],mc,D.length-u)) (0,h3) ?_ ?_
  · exact⟨mle,by omega,λv h=>by omega⟩
  rintro⟨u,mc⟩ ⟨dq,ez,bm⟩
  refine yX ?_;refine gc6 (λbo=>?_) λbo=>?_
  ·
   refine go6 ?_;refine gv ((xO u mh1 underlying150 sizeOf153 I I I bO nP).cv (show _=zM 1 C ((u*19+0)) from congrArg (zM 1 C) zok)) I (zKB (F:=λv_=>(rpP (tPt (4*j+4*k+15)) (rpP (tPt (2*k+4)) rpB)).Is mc v_ (D.getD u (zT,(zT,False)))) (wZ zP5 (Pc.arr (Pc.here _) (zT,(zT,False)) u bO) I nP I U.up I) (sW mh1) I ?_);intro ec cg;refine nA (ρ:=(rpP (tPt 1) (rpP (tPt 1) rpB))) (X:=(zT,(zT,False))) nD (yD (xN (yH dC)) (yD (xN (yH dC)) zRW)) λfg dx bi=>?_;have ak:=(Le.p (Le.t (Le.q (l:=4*j+4*k+15) oM)) (Le.p (Le.t (Le.q (l:=2*k+4) oM)) (Le.refl _))).R bi;refine yB (A:=[]) (uB sizeOf153 pH ak cg) λdl ar=>(go4 ?_);refine lX (xB zP5 pH ar) λeb cf=>(lX (xB zH pH ab) λea ce=>(cL (ev2 I I) call117 (λw hs=>yBA hs cf ce oM oM dC) λbs h4 df cd=>?_));obtain rfl:bs=vB (zGC (D.getD u (zT,(zT,False))) (T3.mk (((1:Int):Int):Rat) (((↑G:Int):Int):Rat) ((((↑G:Int)*(↑G:Int)):Int):Rat))):=cd;refine gc2 (λO=>?_) λO=>?_
   ·
    refine sR ?_;refine yM (A:=[]) (yM (A:=[]) ?_);refine gqL ((G+1),h4) ?_ ?_
    · exact⟨mle,zM2 hD hcd4 ba oM O⟩
    (have:=zM2 hD hcd4 ba oM O;omega)
   refine go7 ?_;refine yM (A:=[]) ?_;refine gqL ((u+1),h4) ?_ ?_
   · exact⟨mle,by omega,xR (Q:=λv=>¬zGC (D.getD v (zT,(zT,False))) (vK ↑G)) bm O⟩
   omega
  refine go7 ?_;refine lX (xB zH pH ab) λdz cc=>(yB (A:=[_,_]) (uB sizeOf31 pH ca cc) λdk aq=>(go8 ?_));refine yJY (wT (kE (t:=4) zH mh2 I aq) ?_);intro dp ae ap;refine yW (λE S=>zW I ae E S) ?_;exact(Rp.Is.cast ap (by rw[<-yB7 hD ba (λv hv=>bm v oM)];rfl))
 exact absurd oM ai
theorem zG8{m n k j l:Nat}{vmd:Value}{md:((List (Pq×((List (List Tq))×(Int×Int))))×(List (List Tq)))}(rmd:(rpP (rpS (rpP (tPl m n) (rpP (tLL k) (rpP rpI rpI)))) (rpS (rpA 2 (tPt k)))).Is h0 vmd md){vp:Value}{p:Tq}(rp:(tPt j).Is h0 vp p){vd:Value}{d:Tq}(rd:(tPt l).Is h0 vd d)(hcd0:k<=10000)(hcd1:j<=100)(hcd2:l<=100)(hcd3:m<=1000)(hcd4:n<=1000)(hcd5:zTC md):
 Calls Tryz.prog 79 #[vmd,vp,vd] w0 (Ret w0 h0 (λh r=>r=.tuple #[vI (crA md p d),vI (crB md p d),vB (nbM md p d)])):=by
 refine cb3 77 vmd vp vd func79 hs ?_;refine go2 ?_;refine nB rmd λb3 cm bh=>(nB rp λb4 cl av=>(nB rd λb5 ck au=>(sZ ?_)));refine lX (xB yD9 (Pc.fst pH) bh) λbg cf=>(go5 ?_);refine gcL (ι:=Nat×Mem) (λ(f,ma)=>(MLe h0 ma/\(f<=md.1.length/\∀u,u<f->¬bdM (md.1.getD u fm0) p d),[(4,vP b4 0),(5,vP b5 0),(9,vI (crM md p d f).1),(10,vI (crM md p d f).2),(18,bg),(19,vI (↑(md.1).length:Int)),(20,vI ↑f)],[.var b5 31 ck,.var b4 31 cl,.var b3 99 cm],ma,md.1.length-f)) (0,h0) ?_ ?_
 · exact⟨mle,by omega,λu h=>by omega⟩
 rintro⟨f,ma⟩ ⟨cn,ej,aa⟩
 refine yX ?_;have dy:=hcd5.1;have ek:=zCW md p d f;refine gc6 (λba=>?_) λba=>?_
 ·
  refine go6 ?_;refine lX (xI fm0 f underlying96 zEI cf) λdw ce=>(lX (xA zEI ce) λdv cd=>(nA (ρ:=(rpP (tPl 1 1) (rpP (tLL 1) (rpP rpI rpI)))) (X:=((zT,(0:Rat)),([],((0:Int),(0:Int))))) oO (yD (yD (xN (yH dC)) (yH dC)) (yD wN (yD wL wL))) λeo cv az=>?_));have ar:=(Le.p (Le.p (Le.t (Le.q (l:=m+1) oM)) (Le.q (l:=n+1) oM)) (Le.p (Le.s (Le.s (Le.t (Le.q (l:=k+1) oM)))) (Le.refl _))).R az;refine yB (A:=[]) (uB sizeOf140 pH ar (cd.le (Le.p (Le.p (Le.t (Le.q (l:=m+1) oM)) (Le.q (l:=n+1) oM)) (Le.p (Le.s (Le.s (Le.t (Le.q (l:=k+1) oM)))) (Le.refl _))))) λct O=>(go3 ?_);refine zK 16 _ [(14,(13,29,[.bool false,.slice none 0 0,.slice none 0 0])),(15,(14,29,[.bool false,.slice none 0 0,.slice none 0 0]))] [(0,.q),(1,.q),(2,.q),(3,.q),(5,.q),(6,.q),(7,.q),(8,.q),(9,.q),(10,.q),(11,.q),(4,.c),(12,.c),(13,.c),(14,.a),(15,.a),(16,.t),(17,.t)] zX (qZ.cons I I (uJ xU I I) (qZ.cons I I (uJ xU I I) qZ.nil)) (wJ zob) (uK I I (uK I I kL)) (λr hr=>hr) (go2 ?_);refine wX I (xB zH (Pc.fst (Pc.fst pH)) O) λdu cc=>(wX I (xB zH pH au) λdt cb=>(go2 ?_));refine wX I (xB yC (Pc.fst (Pc.snd pH)) O) λdq ca=>(go2 ?_);refine wX I (xB zH (Pc.fst (Pc.fst pH)) O) λdp bz=>(wX I (xB zH pH av) λdn bx=>?_);refine w_c I (sC (ev2 I I) call120 (λw hs=>zD3 hs cc cb oM) λdr h1 ei ao=>?_);replace ao:=Rp.Is.le ao (Le.q (l:=3*l+3*m+12) oM);refine w_c I (sC (ev2 I I) call120 (λw hs=>zD3 hs bz.up bx.up oM) λdm h2 eh an=>?_);replace an:=Rp.Is.le an (Le.q (l:=3*j+3*m+12) oM);refine w_c I (sC (ev2 I I) call121 (λw hs=>fM hs ca.up an oM) λdl h3 eg am=>?_);replace am:=Rp.Is.le am (Le.q (l:=3*j+3*m+n+14) oM);refine w_a I I (λen=>?_);have ay:(rpQ (3*m+3*l+9)).R h3 [.bool false,.slice none 0 0,.slice none 0 0] (0:Rat):=(yH oM);refine w_a I I (λem=>?_);have ax:(rpQ (n+3*m+3*j+11)).R h3 [.bool false,.slice none 0 0,.slice none 0 0] (0:Rat):=(yH oM);have aq:=(Le.q (l:=3*l+3*m+12) oM).R ay;refine yJ (A:=[_]) I (uB sizeOf29 pH aq ao) λcq ab=>?_;have ap:=(Le.q (l:=3*j+3*m+n+14) oM).R ax;refine yJ (A:=[]) I (uB sizeOf29 pH ap am) λcp ad=>(go4 ?_);refine zK 12 _ [] [(0,.q),(2,.q),(1,.c),(3,.c),(4,.q),(5,.q),(6,.q),(7,.q),(8,.q),(9,.q),(10,.q),(11,.q)] zX nX (wJ zob) nX (λr hr=>hr) (wX I (xB yC pH ab) λdk bw=>(wX I (xB yC pH ad) λdj bu=>?_));refine w_c I (sC (ev1 I) call122 (λw hs=>rX hs bw oM) λbf h4 ee bv=>?_);obtain rfl:bf=vI (yR (xE (((md.1.getD f fm0).1).1) d)):=bv;have ci:=yV (xE (((md.1.getD f fm0).1).1) d);refine w_c I (sC (ev1 I) call122 (λw hs=>rX hs bu.up oM) λbe h5 ed bt=>?_);obtain rfl:be=vI (yR ((((md.1.getD f fm0).1).2)-(xE (((md.1.getD f fm0).1).1) p))):=bt;have ch:=yV ((((md.1.getD f fm0).1).2)-(xE (((md.1.getD f fm0).1).1) p));have dx:=yFK (xE (md.1.getD f fm0).1.1 d) ((md.1.getD f fm0).1.2-xE (md.1.getD f fm0).1.1 p);refine wB I (λ_ _=>kU I I oM oM) I (go2 ?_);refine jB (((yR (xE (((md.1.getD f fm0).1).1) d))*(yR ((((md.1.getD f fm0).1).2)-(xE (((md.1.getD f fm0).1).1) p))))<=(0:Int)) (λZ=>?_) (λZ=>?_)
  ·
   rw[xK Z];refine dT ?_;refine yM (A:=[]) (yM (A:=[]) (yM (A:=[]) ?_));have C:=zM4 (md:=md) (p:=p) (d:=d) (f:=f) (.inl zol);have M:¬bdM (md.1.getD f fm0) p d:=λe=>e.1 (.inl zol);refine gqL ((f+1),h5) ?_ ?_ (he:=⟨I,I,congrArg (λz:Int=>some (vI z)) (by have G:=congrArg Prod.fst C.symm;exact G),congrArg (λz:Int=>some (vI z)) (by have G:=congrArg Prod.snd C.symm;exact G),I,I,I,trivial⟩)
   · exact⟨mle,by omega,xR (Q:=λu=>¬bdM (md.1.getD u fm0) p d) aa M⟩
   omega
  rw[yG Z];refine go1 ?_;refine oX I (xB yEA (Pc.snd (Pc.fst pH)) O) λdi bs=>(yL I I I (λh' L' hh hR=>uL underlying76 I (bs.mono hh)) I (gc4 (λae=>?_) λae=>?_))
  ·
   refine go8 ?_;refine yM (A:=[]) (yM (A:=[]) (yM (A:=[]) ?_));have C:=zM4 (md:=md) (p:=p) (d:=d) (f:=f) (.inr oM);have M:¬bdM (md.1.getD f fm0) p d:=λe=>e.1 (.inr oM);refine gqL ((f+1),h5) ?_ ?_ (he:=⟨I,I,congrArg (λz:Int=>some (vI z)) (by have G:=congrArg Prod.fst C.symm;exact G),congrArg (λz:Int=>some (vI z)) (by have G:=congrArg Prod.snd C.symm;exact G),I,I,I,trivial⟩)
   · exact⟨mle,by omega,xR (Q:=λu=>¬bdM (md.1.getD u fm0) p d) aa M⟩
   omega
  have U:¬skM (md.1.getD f fm0) p d:=λe=>e.elim zol (λe=>ae oM);refine go4 ?_;refine lX (xB yC pH ad) λdh br=>(lX (xB yC pH ab) λdf bq=>(cL (ev2 I I) call123 (λw hs=>zSX hs br bq oM) λde h6 ec bp=>?_));obtain⟨ah,rfl,J⟩:=bp
  change (rpQ ((3*j+3*m+n+14)+(3*l+3*m+12))).Is h6 ah (if(xE (((md.1.getD f fm0).1).1) d)=0 then 0 else((((md.1.getD f fm0).1).2)-(xE (((md.1.getD f fm0).1).1) p))/(xE (((md.1.getD f fm0).1).1) d)) at J
  replace J:=Rp.Is.le J (Le.q (l:=3*j+3*l+6*m+n+26) oM);refine go3 ?_;refine nA (ρ:=(rpQ (n+6*m+3*j+3*l+30))) (X:=(0:Rat)) xU (yH oM) λel cu aw=>(yB (A:=[]) (uB sizeOf29 pH aw (J.le (Le.q (l:=n+6*m+3*j+3*l+30) oM))) λcj ai=>(go4 ?_));refine zK 7 _ [] [(0,.q),(1,.q),(2,.q),(3,.q),(4,.c),(5,.c),(6,.c)] zX nX zob nX (λr hr=>hr) (wX I (xB zEI pH O) λdd bo=>(wX I (xB zH pH av) λdc bn=>(wX I (xB yC pH ai) λdb bm=>(wX I (xB zH pH au) λda bl=>?_))));refine w_c I (sC (ev2 I I) call125 (λw hs=>zSW hs bm bl oM) λcz h7 eb ak=>?_);replace ak:=Rp.Is.le ak (Le.t (Le.q (l:=3*j+4*l+6*m+n+32) oM));refine w_c I (sC (ev2 I I) call124 (λw hs=>yA7 hs bn.up ak oM) λcy h8 ea aj=>?_);replace aj:=Rp.Is.le aj (Le.t (Le.q (l:=4*j+4*l+6*m+n+34) oM));refine w_c I (sC (ev2 I I) call109 (λw hs=>zIA hs bo.up aj oM oM (by first|omega|exact hcd5.2.2 f oM)) λbd G dz bk=>?_);obtain rfl:bd=vI (whM (md.1.getD f fm0) (T3.mk (p.x+((if(xE (((md.1.getD f fm0).1).1) d)=0 then 0 else((((md.1.getD f fm0).1).2)-(xE (((md.1.getD f fm0).1).1) p))/(xE (((md.1.getD f fm0).1).1) d))*d.x)) (p.y+((if(xE (((md.1.getD f fm0).1).1) d)=0 then 0 else((((md.1.getD f fm0).1).2)-(xE (((md.1.getD f fm0).1).1) p))/(xE (((md.1.getD f fm0).1).1) d))*d.y)) (p.z+((if(xE (((md.1.getD f fm0).1).1) d)=0 then 0 else((((md.1.getD f fm0).1).2)-(xE (((md.1.getD f fm0).1).1) p))/(xE (((md.1.getD f fm0).1).1) d))*d.z)))):=bk;refine gc9 (λD=>?_) λD=>?_
  ·
   rw[zP1 U] at D;obtain⟨e1,e2,e3⟩:=yCF (md:=md) (p:=p) (d:=d) (f:=f) oM ⟨U,D⟩;refine tU ?_;refine uX I I I I ?_;rw[e1,e2,yG e3]
  rw[zP1 U] at D;refine gc6 (λH=>?_) λH=>?_
  ·
   rw[zP1 U] at H;refine go2 ?_;refine lX (xB yC pH ab) λcw bj=>(cL (ev1 I) call122 (λw hs=>rX hs bj oM) λbc bb co bi=>?_);obtain rfl:bc=vI (yR (xE (((md.1.getD f fm0).1).1) d)):=bi;have cg:=yV (xE (((md.1.getD f fm0).1).1) d);refine gc3 (λac=>?_) λac=>?_
   ·
    refine uS ?_;refine yM (A:=[]) (yM (A:=[]) (yM (A:=[]) (yM (A:=[]) ?_)));have C:=yCE U H (zAM.1 ac);have M:¬bdM (md.1.getD f fm0) p d:=λe=>D e.2;refine gqL ((f+1),bb) ?_ ?_ (he:=⟨I,I,congrArg (λz:Int=>some (vI z)) (by have G:=congrArg Prod.fst C.symm;exact G),congrArg (λz:Int=>some (vI z)) (by have G:=congrArg Prod.snd C.symm;exact G),I,I,I,trivial⟩)
    · exact⟨mle,by omega,xR (Q:=λu=>¬bdM (md.1.getD u fm0) p d) aa M⟩
    omega
   refine uS ?_;refine yM (A:=[]) (yM (A:=[]) (yM (A:=[]) (yM (A:=[]) ?_)));have C:=yHR U H (λe=>ac (zAM.2 e));have M:¬bdM (md.1.getD f fm0) p d:=λe=>D e.2;refine gqL ((f+1),bb) ?_ ?_ (he:=⟨I,I,congrArg (λz:Int=>some (vI z)) (by have G:=congrArg Prod.fst C.symm;exact G),congrArg (λz:Int=>some (vI z)) (by have G:=congrArg Prod.snd C.symm;exact G),I,I,I,trivial⟩)
   · exact⟨mle,by omega,xR (Q:=λu=>¬bdM (md.1.getD u fm0) p d) aa M⟩
   omega
  rw[zP1 U] at H;refine go8 ?_;refine yM (A:=[]) (yM (A:=[]) (yM (A:=[]) (yM (A:=[]) ?_)));have C:=yHQ U H;have M:¬bdM (md.1.getD f fm0) p d:=λe=>D e.2;refine gqL ((f+1),G) ?_ ?_ (he:=⟨I,I,congrArg (λz:Int=>some (vI z)) (by have G:=congrArg Prod.fst C.symm;exact G),congrArg (λz:Int=>some (vI z)) (by have G:=congrArg Prod.snd C.symm;exact G),I,I,I,trivial⟩)
  · exact⟨mle,by omega,xR (Q:=λu=>¬bdM (md.1.getD u fm0) p d) aa M⟩
  omega
 have ef:f=md.1.length:=by omega
 obtain⟨e1,e2,e3⟩:=yHS (md:=md) (p:=p) (d:=d) (λu hu=>aa u oM);refine sZ ?_;refine uX I I I I ?_;rw[e1,e2,ef,xK e3]
theorem zOX{m n k j:Nat}{vmd:Value}{md:((List (Pq×((List (List Tq))×(Int×Int))))×(List (List Tq)))}(rmd:(rpP (rpS (rpP (tPl m n) (rpP (tLL k) (rpP rpI rpI)))) (rpS (rpA 2 (tPt k)))).Is h0 vmd md){vp:Value}{p:Tq}(rp:(tPt j).Is h0 vp p)(hcd0:k<=10000)(hcd1:j<=100)(hcd2:m<=1000)(hcd3:n<=1000)(hcd4:zTC md)(hcd5:cD md p<=3*md.2.length+1)(hcd6:clM md p (vK ↑(cD md p))):
 Calls Tryz.prog 113 #[vmd,vp] w0 (Ret w0 h0 (λ_ r=>r=vI (crA md p (vK ↑(cD md p))-crB md p (vK ↑(cD md p))))):=by
 have ai:=zIS md p (vK ↑(cD md p));have ad:=hcd4.1;refine cb2 21 vmd vp func113 hs ?_;refine go2 ?_;refine nB rmd λb2 ak D=>(nB rp λb3 aj C=>(go4 ?_));refine zK 13 _ [] [(0,.q),(1,.q),(2,.q),(3,.q),(4,.c),(5,.c),(6,.q),(7,.q),(8,.q),(9,.q),(10,.q),(11,.q),(12,.q)] zX nX (wJ zob) nX (λr hr=>hr) (wX I (xB zRZ pH D) λv9 r9=>(wX I (xB zH pH C) λac O=>(wX I (xB zRZ pH D) λab M=>(wX I (xB zH pH C) λaa J=>?_))));refine w_c I (sC (ev2 I I) call74 (λw hs=>y5 hs M J oM oM (by first|omega|exact hcd4|exact hcd5|exact hcd6) (by first|omega|exact hcd4|exact hcd5|exact hcd6) (by first|omega|exact hcd4|exact hcd5|exact hcd6)) λZ h1 ah H=>?_);refine w_c I (sC (ev3 I I I) call79 (λw hs=>zG8 hs r9.up O.up H oM oM dC oM oM (by first|omega|exact hcd4)) λU h2 ae G=>?_);obtain rfl:=G;refine yBT ?_;refine zC I I ?_
 rfl
theorem zL7{m n k j:Nat}{vmd:Value}{md:((List (Pq×((List (List Tq))×(Int×Int))))×(List (List Tq)))}(rmd:(rpP (rpS (rpP (tPl m n) (rpP (tLL k) (rpP rpI rpI)))) (rpS (rpA 2 (tPt k)))).Is h0 vmd md){vp:Value}{p:Tq}(rp:(tPt j).Is h0 vp p)(hcd0:k<=10000)(hcd1:j<=100)(hcd2:m<=1000)(hcd3:n<=1000)(hcd4:zTC md)(hcd5:cD md p<=3*md.2.length+1)(hcd6:clM md p (vK ↑(cD md p))):
 Calls Tryz.prog 72 #[vmd,vp] w0 (Ret w0 h0 (λh r=>r=.tuple #[vI (wdM md p),vB (¬onA md p)])):=by
 refine cb2 18 vmd vp func72 hs ?_;refine go2 ?_;refine nB rmd λb2 am H=>(nB rp λb3 ak G=>(go7 ?_));refine lX (xB zRZ pH H) λv9 r9=>(lX (xB zH pH G) λah aa=>(cL (ev2 I I) call70 (λw hs=>zWO hs r9 aa oM oM oM oM (by first|omega|exact hcd4)) λae h1 aj Z=>?_));obtain rfl:=Z;refine zKG (λD=>?_) λD=>?_
 ·
  have C:onA md p:=D;refine go8 ?_;refine wH I I I ?_;rw[yG (λe=>e C),show wdM md p=0 from if_pos C]
 have C:¬onA md p:=D;refine go4 ?_;refine lX (xB zRZ pH H) λad U=>(lX (xB zH pH G) λac O=>(cL (ev2 I I) call113 (λw hs=>zOX hs U O oM oM oM oM (by first|omega|exact hcd4|exact hcd5|exact hcd6) (by first|omega|exact hcd4|exact hcd5|exact hcd6) (by first|omega|exact hcd4|exact hcd5|exact hcd6)) λJ h2 ai M=>?_));obtain rfl:J=vI (crA md p (vK ↑(cD md p))-crB md p (vK ↑(cD md p))):=M;have ab:=zIS md p (vK ↑(cD md p));refine go5 ?_;refine wH I I I ?_;rw[xK C,show wdM md p=_ from if_neg C]
end
theorem yJN:MapTy Tryz.prog 138 118 4 3:=⟨underlying138,underlying118,underlying3,sizeOf3,isAgg3,zT6 zXT rfl⟩
theorem yBB{w0 w:World}{h0 h:Mem}{k m n j:Nat}{vs:Value}{s:Sd}(rs:(tSd k m n j).Is h vs s){vl:Value}{l:List Int}(rl:(rpS rpI).Is h vl l){b bm ck:Nat}{cs ces:List Value}{vf ve:Value}{EE:List (List Pt)}{es:Array MapEntry}{T:List PIr}(rb:(rpP rpV rpV).R h cs (vf,ve))(ho0:ve.oneCell'=true)(re:RL (rpA 2 (tPt (k+1))) h ces EE)(hm0:lL es T)(hEE:EE=T.map (edP s.1))(hcd0:∀u,u<l.length->0<=l.getD u 0/\l.getD u 0<s.1.length)(hcd1:l.length<=10000/\T.length<=10000000/\s.1.length<=100000)(hcd2:k<=1000000){L:List Res}(hs:St w0 h0 (.var b 99 cs::.gs 151 18 ve EE.length ces::.blk bm (.map es ck)::L) h w):
 Calls Tryz.prog 107 #[vP b 0,vs,vl,.map (some bm)] w (tQ w0 h0 (λg v K=>∃Qs',(Qs'++L).Sublist K/\MLe h g/\∃cs' ve' ces' es' ck',Qs'=[.var b 99 cs',.gs 151 18 ve' ((sxE s.1 l T l.length).map (edP s.1)).length ces',.blk bm (.map es' ck')]/\(rpP rpV rpV).R g cs' (vf,ve')/\ve'.oneCell'=true/\RL (rpA 2 (tPt (k+1))) g ces' ((sxE s.1 l T l.length).map (edP s.1))/\lL es' (sxE s.1 l T l.length))):=by
 refine qI (n:=77) (e:=[(0,vP b 0),(1,vs),(2,vl),(3,.map (some bm))]) (vs:=[vP b 0,vs,vl,.map (some bm)]) func107 rfl rfl (bL rfl) hs e4z (go2 ?_);refine nB rs λb5 cb ae=>(uE ?_);refine gcL (ι:=Nat×List (List Pt)×List PIr×List Value×Value×List Value×Array MapEntry×Nat×Mem) (λ(u,E2,T2,O,C,M,J,U,ma)=>(MLe h ma/\((rpP rpV rpV).R ma O (vf,C)/\RL (rpA 2 (tPt (k+1))) ma M E2/\C.oneCell'=true/\lL J T2/\u<=l.length/\T2=sxE s.1 l T u/\E2=T2.map (edP s.1)),[(0,vP b 0),(2,vl),(3,.map (some bm)),(5,vP b5 0),(12,vl),(13,vI (↑(l).length:Int)),(14,vI ↑u)],(.var b5 39 cb::.var b 99 O::.gs 151 18 C E2.length M::.blk bm (.map J U)::L),ma,l.length-u)) (0,EE,T,cs,ve,ces,es,ck,h) ?_ ?_
 · exact⟨mle,rb,re,ho0,hm0,by omega,I,hEE⟩
 rintro⟨u,E2,T2,O,C,M,J,U,ma⟩ ⟨ar,G,aa,ab,H,du,ac,ad⟩
 refine yX ?_;have bz:=zI7 s.1 l T u;rw[<-ac] at bz;have dx:E2.length=T2.length:=by rw[ad];exact List.length_map _
 refine gc6 (λav=>?_) λav=>?_
 ·
  have dw:=hcd0 u oM;have dv:=hcd0 ((u+1)%l.length) (Nat.mod_lt _ oM);refine go7 ?_;refine lX (xI (0:Int) u underlying22 ty3 rl) λdq bx=>(lX (xA ty3 bx) λdp bw=>?_);obtain⟨rfl,cj,cf⟩:=kJ bw;refine qA ?_;refine gv (wA I I oM oM) I (lX (xI (0:Int) ((u+1)%l.length) underlying22 ty3 rl (hi:=by exact Nat.mod_lt _ oM)) λdn bv=>(lX (xA ty3 bv) λdm bu=>?_));obtain⟨rfl,ci,ce⟩:=kJ bu;refine go7 ?_;refine gv (zV7 I I) I (go2 ?_);refine gv (zLL I I) I (lX (xV (ρ:=(rpA 2 rpI)) (wD (ps':=[(0,_),(1,_)]) underlying118 dO I I sizeOf3 e4z I (zKQ 2 wL) (zD I (Pc.arr (Pc.here _) (0:Int) 0 dC) (wI oM oM) (zD I (Pc.arr (Pc.here _) (0:Int) 1 dC) (wI oM oM) zO)))) λdl bt=>(nA (ρ:=(rpA 2 rpI)) (X:=(List.replicate 2 (0:Int))) dO (zKQ 2 wL) λea cm aq=>(yB (A:=[]) (uB sizeOf118 pH aq bt) λca D=>(go3 ?_))));refine zK 18 _ [] [(0,.q),(1,.q),(2,.q),(3,.q),(4,.q),(5,.q),(6,.q),(7,.q),(8,.q),(9,.q),(10,.q),(11,.q),(12,.q),(13,.q),(14,.q),(15,.c),(16,.q),(17,.q)] zX nX (wJ zob) nX (λr hr=>hr) (go1 ?_);refine wX I (xB yCS pH D) λdk bs=>(w_q I (λh' L' hh hR=>zFB (u:=((min (l.getD u (0:Int)) (l.getD ((u+1)%l.length) (0:Int))),(max (l.getD u (0:Int)) (l.getD ((u+1)%l.length) (0:Int))))) yJN (hR _ mh4) I (evk I (zXK (bs.mono hh))) H) I (go2 ?_));refine jB (¬(((min (l.getD u (0:Int)) (l.getD ((u+1)%l.length) (0:Int))),(max (l.getD u (0:Int)) (l.getD ((u+1)%l.length) (0:Int))))∈T2)) (λZ=>?_) (λZ=>?_)
  ·
   rw[xK Z];refine go1 ?_;refine oX I (xB vY (Pc.fst pH) ae) λdj br=>(yL I I I (λh' L' hh hR=>yU I) I (oX I (xI zT ((l.getD u (0:Int)).toNat) underlying35 zH br) λdi bq=>(oX I (xA zH bq) λdh bp=>(go1 ?_))));refine oX I (xB vY (Pc.fst pH) ae) λdf bo=>(yL I I I (λh' L' hh hR=>yU I) I (oX I (xI zT ((l.getD ((u+1)%l.length) (0:Int)).toNat) underlying35 zH bo) λde bn=>(oX I (xA zH bn) λdd bl=>?_)));refine w_c I (mT I I (sC (ev2 I I) call119 (λw hs=>zLS hs bp bl oM) λay h1 dz bk=>?_));obtain rfl:ay=vB ((s.1.getD ((l.getD u (0:Int)).toNat) zT)=(s.1.getD ((l.getD ((u+1)%l.length) (0:Int)).toNat) zT)):=bk;refine gc4 (λau=>?_) λau=>?_
   ·
    refine go3 ?_;refine lX (xB yCS pH D) λdc bj=>(zTO (A:=[_,_,_,_]) (u:=((min (l.getD u (0:Int)) (l.getD ((u+1)%l.length) (0:Int))),(max (l.getD u (0:Int)) (l.getD ((u+1)%l.length) (0:Int))))) yJN I (evk I (zXK bj)) I H zol ?_);intro am ak;refine go2 ?_;refine qH (A:=[_,_,_]) 22 [] [(0,.q),(1,.q),(2,.q),(3,.q),(4,.q),(5,.q),(6,.q),(7,.q),(8,.q),(9,.q),(10,.q),(11,.q),(12,.q),(13,.q),(14,.q),(15,.q),(16,.q),(17,.q),(18,.c),(19,.c),(20,.q),(21,.q),(22,.t)] zX nX (wJ zob) nX (go2 ?_);refine wB I (λ_ _=>gH I) I (wB I (λ_ _=>(xW underlying99 I sizeOf97 I).cv (show _=vP b 1 from congrArg (vP b) zok)) I (wX I (aA (xB yIM (Pc.snd pH) G)) λdb bi=>?_));subst bi;refine go1 ?_;refine wX I (xB vY (Pc.fst pH) ae) λda bh=>(go1 ?_);refine wX I (xB ty3 (Pc.arr pH (0:Int) 0 dC) D) λcz bg=>?_;obtain⟨rfl,ch,cd⟩:=kJ bg;refine nK (F:=λv_=>AtP (tPt k) h1 v_ (s.1.getD ((min (l.getD u (0:Int)) (l.getD ((u+1)%l.length) (0:Int))).toNat) zT)) I (rD zT ((min (l.getD u (0:Int)) (l.getD ((u+1)%l.length) (0:Int))).toNat) underlying35 zH I I bh (by(show(min (l.getD u (0:Int)) (l.getD ((u+1)%l.length) (0:Int)))=_;omega)) oM nP) zBA I ?_;intro cy bf;refine wX I (xA zH bf) λcw be=>(go1 ?_);refine wX I (xB vY (Pc.fst pH) ae) λcu bd=>(go1 ?_);refine wX I (xB ty3 (Pc.arr pH (0:Int) 1 dC) D) λct bc=>?_;obtain⟨rfl,cg,cc⟩:=kJ bc;refine nK (F:=λv_=>AtP (tPt k) h1 v_ (s.1.getD ((max (l.getD u (0:Int)) (l.getD ((u+1)%l.length) (0:Int))).toNat) zT)) I (rD zT ((max (l.getD u (0:Int)) (l.getD ((u+1)%l.length) (0:Int))).toNat) underlying35 zH I I bd (by(show(max (l.getD u (0:Int)) (l.getD ((u+1)%l.length) (0:Int)))=_;omega)) oM nP) zBA I ?_;intro cq bb;refine wX I (xA zH bb) λcp ba=>(wX I (xV (ρ:=(rpA 2 (tPt (k+1)))) (wD (ps':=[(0,_),(1,_)]) underlying151 zBH I I sizeOf31 e4z I (zKQ 2 (xN (yH oM))) (zD I (Pc.arr (Pc.here _) zT 0 dC) (be.le (Le.t (Le.q (l:=k+1) oM))) (zD I (Pc.arr (Pc.here _) zT 1 dC) (ba.le (Le.t (Le.q (l:=k+1) oM))) zO)))) λco az=>?_);refine w_c I (jH (λX=>zL (ρ:=(rpA 2 (tPt (k+1)))) (m:=1) (xs:=[[(s.1.getD ((min (l.getD u (0:Int)) (l.getD ((u+1)%l.length) (0:Int))).toNat) zT),(s.1.getD ((max (l.getD u (0:Int)) (l.getD ((u+1)%l.length) (0:Int))).toNat) zT)]]) (ps':=[(0,_)]) underlying97 zBH I I I (zKQ 2 (xN (yH oM))) e2z (zD I (Pc.arr (Pc.here _) (List.replicate 2 zT) 0 dC) az zO) (show 1*18<=16777216 from by decide) nP) I ?_)
    rintro cn dt ⟨cl,rfl,ap⟩
    refine w_c I (xY (A:=[]) (ρ:=(rpA 2 (tPt (k+1)))) ap dK ?_);intro h2 dy ai;refine fR (A:=[_,_,_]) (λX=>uT (zV (ρ:=(rpA 2 (tPt (k+1)))) (bytes:=336) underlying97 zBH I I I I nP I I aa.up ai bO bO)) I (xJ zof) ?_
    rintro ax dr ⟨ah,aw,rfl,ao⟩
    refine wB I (λ_ _=>gH I) I (wB I (λ_ _=>(xW underlying99 I sizeOf97 I).cv (show _=vP b 1 from congrArg (vP b) zok)) I (yJ (A:=[_,_]) I (uB sizeOf97 (Pc.snd pH) G (s4 ah)) λan aj=>(go7 ?_)));refine yM (A:=[]) ?_;refine gqL ((u+1),(E2++[[(s.1.getD ((min (l.getD u (0:Int)) (l.getD ((u+1)%l.length) (0:Int))).toNat) zT),(s.1.getD ((max (l.getD u (0:Int)) (l.getD ((u+1)%l.length) (0:Int))).toNat) zT)]]),(T2++[((min (l.getD u (0:Int)) (l.getD ((u+1)%l.length) (0:Int))),(max (l.getD u (0:Int)) (l.getD ((u+1)%l.length) (0:Int))))]),an,ax,aw,am,(U+1),h2) ?_ ?_
    · exact⟨mle,aj,ao,ah,ak,by omega,yE0 ac zol zol,yHL ad⟩
    omega
   refine go7 ?_;refine yM (A:=[]) ?_;refine gqL ((u+1),E2,T2,O,C,M,J,U,h1) ?_ ?_
   · exact⟨mle,G.up,aa.up,ab,H,by omega,zZ3 ac zol,ad⟩
   omega
  rw[yG Z];refine uE ?_;refine w_c I (lT I I I I (uS ?_));refine yM (A:=[]) ?_;refine gqL ((u+1),E2,T2,O,C,M,J,U,ma) ?_ ?_
  · exact⟨mle,G.up,aa.up,ab,H,by omega,zZ4 ac zol,ad⟩
  omega
 have eu:u=l.length:=by omega
 subst eu ad ac;refine go4 ?_;refine zJ9 I ?_;exact⟨_,(.cons _ (.cons_cons _ (.cons_cons _ (.cons_cons _ (List.Sublist.refl _))))),ar,_,_,_,_,_,I,G.up,ab,aa.up,H⟩
section
variable{w0:World}{h0:Mem}(hs:MLe h0 (mem w0))
include hs
theorem iF{k m n j:Nat}{vs:Value}{s:Sq}(rs:(tSd k m n j).Is h0 vs s)(hcd0:okS s)(hcd1:nmA s)(hcd2:k<=1000000)(hcd3:m<=1000000)(hcd4:n<=1000000):
 Calls Tryz.prog 69 #[vs] w0 (Ret w0 h0 (λh r=>(rpP (rpS (rpP (tPl (m+1) (n+1)) (rpP (tLL (k+1)) (rpP rpI rpI)))) (rpS (rpA 2 (tPt (k+1))))).Is h r (tK s))):=by
 have fy:=hcd0.1.1.1;have fx:=hcd0.1.1.2;refine cb1 57 vs func69 hs ?_;refine go2 ?_;refine nB rs λb1 db av=>(nA (ρ:=(rpP (rpS (rpP (tPl 1 1) (rpP (tLL 1) (rpP rpI rpI)))) (rpS (rpA 2 (tPt 1))))) (X:=([],[])) zPK (yD wN wN) λb2 da di=>(go4 ?_));refine nA (ρ:=(rpP rpV rpV)) (X:=((Value.slice none 0 0),(Value.slice none 0 0))) zPK (yD sT sT) λb3 en dh=>(go4 ?_);refine zI zMB I I I ?_
 rintro fq ft ⟨ay,rfl,rfl⟩
 refine go7 ?_;refine lX (xB fD (Pc.snd (Pc.fst pH)) av) λck ee=>(go5 ?_);refine xM 140 15 ?_;have cm:=RL.nil (ρ:=rpP (tPl (m+1) (n+1)) (rpP (tLL (k+1)) (rpP rpI rpI))) (h:=h0);refine xM 151 18 ?_;have cl:=RL.nil (ρ:=rpA 2 (tPt (k+1))) (h:=h0);refine gcL (ι:=Nat×List Fm×List (List Pt)×List PIr×List Value×Value×List Value×Value×List Value×Array MapEntry×Nat×Mem) (λ(f,FF,E2,T2,U,M,an,O,ad,aa,ak,ma)=>(MLe h0 ma/\((rpP rpV rpV).R ma U (M,O)/\RL (rpP (tPl (m+1) (n+1)) (rpP (tLL (k+1)) (rpP rpI rpI))) ma an FF/\M.oneCell'=true/\RL (rpA 2 (tPt (k+1))) ma ad E2/\O.oneCell'=true/\lL aa T2/\f<=s.2.1.length/\FF=fmT s f/\T2=sfE s f/\E2=T2.map (edP s.1)),[(1,vP b1 0),(2,vP b2 0),(3,vP b3 0),(4,.map (some ay)),(12,ck),(13,vI (↑(s.2.1).length:Int)),(14,vI ↑f)],[.gs 151 18 O E2.length ad,.gs 140 15 M FF.length an,.blk ay (.map aa ak),.var b3 99 U,.var b2 99 da,.var b1 39 db],ma,s.2.1.length-f)) (0,[],[],[],en,(.slice none 0 0),[],(.slice none 0 0),[],#[],0,h0) ?_ ?_
 · exact⟨mle,dh,cm,I,cl,I,map_nil,by omega,I,I,I⟩
 rintro⟨f,FF,E2,T2,U,M,an,O,ad,aa,ak,ma⟩ ⟨er,am,az,cp,aq,bw,bz,ga,cb,cw,cy⟩
 refine yX ?_;have gc:FF.length=f:=by rw[cb];exact yZ _ _
 refine gc6 (λcv=>?_) λcv=>?_
 ·
  have J:=hcd0.2.1 f oM;have fu:=zD0 hcd0 f oM;have gb:=zC2 (s.2.1.getD f zA).1.1;refine go6 ?_;refine lX (xI zA f underlying36 bE ee) λfp ed=>(lX (xA bE ed) λfo ec=>(nA (ρ:=(tFc 1 1)) (X:=((zT,(0:Rat)),([],([]:List Nat)))) jR (yD (yD (xN (yH dC)) (yH dC)) (yD wN gZ)) λb6 gf df=>?_));have bg:=(Le.p (Le.p (Le.t (Le.q (l:=m+1) oM)) (Le.q (l:=n+1) oM)) (Le.refl _)).R df;refine yB (A:=[]) (uB sizeOf53 pH bg (ec.le (Le.p (Le.p (Le.t (Le.q (l:=m+1) oM)) (Le.q (l:=n+1) oM)) (Le.refl _)))) λch H=>(go5 ?_);refine lX (xB bZ (Pc.fst pH) H) λfm eb=>(lX (xV (ρ:=(rpP (tPl (m+1) (n+1)) (rpP (tLL 1) (rpP rpI rpI)))) (wE (ps':=[(0,_)]) underlying140 oO I I (zSN underlying140) e2z I (yD (yD (xN (yH oM)) (yH oM)) (yD wN (yD wL wL))) (zD I (Pc.fst (Pc.here _)) eb zO))) λfl ea=>(nA (ρ:=(rpP (tPl 1 1) (rpP (tLL 1) (rpP rpI rpI)))) (X:=((zT,(0:Rat)),([],((0:Int),(0:Int))))) oO (yD (yD (xN (yH dC)) (yH dC)) (yD wN (yD wL wL))) λb7 ge de=>?_));have bf:=(Le.p (Le.p (Le.t (Le.q (l:=m+1) oM)) (Le.q (l:=n+1) oM)) (Le.refl _)).R de;refine yB (A:=[]) (uB sizeOf140 pH bf ea) λem bt=>(go5 ?_);refine lX (xB qK pH av) λfk dz=>(lX (xB bE pH H) λfj dy=>(cL (ev2 I I) call104 (λw hs=>zTA hs (dz.le (Le.p (Le.refl _) (Le.p (Le.s (Le.p (Le.p (Le.t (Le.q (l:=m+1) oM)) (Le.q (l:=n+1) oM)) (Le.refl _))) (Le.refl _)))) dy (by first|omega|exactλu v C hv=>hcd1 f oM u C v hv|exactλu C=>Nat.le_trans (J.2 u C) dC) (by first|omega|exactλu v C hv=>hcd1 f oM u C v hv|exactλu C=>Nat.le_trans (J.2 u C) dC) (by first|omega|exactλu v C hv=>hcd1 f oM u C v hv|exactλu C=>Nat.le_trans (J.2 u C) dC) (by first|omega|exactλu v C hv=>hcd1 f oM u C v hv|exactλu C=>Nat.le_trans (J.2 u C) dC)) λcj h1 ct dx=>?_));obtain rfl:cj=.bool true:=by rw[show cj=vB (True) from dx,xK (by trivial)]
  refine go5 ?_;refine lX (xB qK pH av) λfi dw=>(lX (xB bE pH H) λfh dv=>(cL (ev2 I I) call105 (λw hs=>zLT hs (dw.le (Le.p (Le.refl _) (Le.p (Le.s (Le.p (Le.p (Le.t (Le.q (l:=m+1) oM)) (Le.q (l:=n+1) oM)) (Le.refl _))) (Le.refl _)))) dv (by first|omega|exactλu v C hv=>hcd1 f oM u C v hv|exactλu C=>Nat.le_trans (J.2 u C) dC) (by first|omega|exactλu v C hv=>hcd1 f oM u C v hv|exactλu C=>Nat.le_trans (J.2 u C) dC) (by first|omega|exactλu v C hv=>hcd1 f oM u C v hv|exactλu C=>Nat.le_trans (J.2 u C) dC) (by first|omega|exactλu v C hv=>hcd1 f oM u C v hv|exactλu C=>Nat.le_trans (J.2 u C) dC)) λfg h2 cq du=>(go1 ?_)));have be:=(Le.p (Le.refl _) (Le.p (Le.s (Le.s (Le.t (Le.q (l:=k+1) oM)))) (Le.refl _))).R bt;refine yB (A:=[]) (uB sizeOf76 (Pc.snd (Pc.fst pH)) be du) λel bs=>(go6 ?_);refine lX (xB zH (Pc.fst (Pc.fst pH)) H) λff dt=>(cL (ev1 I) call106 (λw hs=>zS9 hs dt oM) λfe h3 fz dr=>?_);obtain rfl:=dr;refine go4 ?_;refine yB (A:=[]) (uB sizeOf3 (Pc.snd (Pc.snd (Pc.fst pH))) bs (wI (z:=(↑(axI (((s.2.1.getD f zA).1).1)):Int)) oM oM)) λek br=>(go1 ?_);refine yB (A:=[]) (uB sizeOf3 (Pc.snd (Pc.snd (Pc.snd pH))) br (wI (z:=(↑(axJ (((s.2.1.getD f zA).1).1)):Int)) oM oM)) λcg bq=>(go5 ?_);refine lX (xB bY (Pc.snd (Pc.fst pH)) H) λdd dq=>(go5 ?_);refine gcL (ι:=Nat×List Fm×List (List Pt)×List PIr×List Value×Value×List Value×Value×List Value×Array MapEntry×Nat×Mem) (λ(q,F3,E3,T3,ai,D,ac,G,ab,Z,aj,mb)=>(MLe h3 mb/\((rpP rpV rpV).R mb ai (D,G)/\RL (rpP (tPl (m+1) (n+1)) (rpP (tLL (k+1)) (rpP rpI rpI))) mb ac F3/\D.oneCell'=true/\RL (rpA 2 (tPt (k+1))) mb ab E3/\G.oneCell'=true/\lL Z T3/\q<=(s.2.1.getD f zA).2.1.length/\F3=fmT s f/\T3=slE s.1 (s.2.1.getD f zA).2.1 (sfE s f) q/\E3=T3.map (edP s.1)),[(1,vP b1 0),(2,vP b2 0),(3,vP b3 0),(4,.map (some ay)),(7,vP b7 0),(12,ck),(13,vI (↑(s.2.1).length:Int)),(14,vI ↑f),(38,dd),(39,vI (↑(((s.2.1.getD f zA).2).1).length:Int)),(40,vI ↑q)],[.var b7 140 cg,.var b6 53 ch,.gs 151 18 G E3.length ab,.gs 140 15 D F3.length ac,.blk ay (.map Z aj),.var b3 99 ai,.var b2 99 da,.var b1 39 db],mb,(s.2.1.getD f zA).2.1.length-q)) (0,FF,E2,T2,U,M,an,O,ad,aa,ak,h3) ?_ ?_
  · exact⟨mle,am.up,az.up,cp,aq.up,bw,bz,by omega,cb,cw,cy⟩
  rintro⟨q,F3,E3,T3,ai,D,ac,G,ab,Z,aj,mb⟩ ⟨ep,ah,ap,bv,ao,ar,au,fv,cc,ca,bb⟩
  refine yX ?_;refine gc6 (λcu=>?_) λcu=>?_
  ·
   have fw:=J.2 q oM;have eh:=zI9 J.2 s.1 (sfE s f) q oM;rw[<-ca] at eh;refine go6 ?_;refine lX (xI [] q underlying51 tF dq) λfd dp=>(lX (xA tF dp) λfc dn=>(go4 ?_));refine lX (xB qK pH av) λfb dm=>(go2 ?_);refine iL (A:=[_,_,_,_]) (iL (A:=[_,_,_]) (iL (A:=[_,_,_,_,_]) ?_));refine zKD (vs:=[_,_,_,_]) (Qs:=[_,_,_]) (List.Perm.refl _) call107 e4z (λw hs=>yBB dm dn ah ar ao au bb (λu C=>hcd1 f oM q oM u C) ⟨by omega,by omega,by omega⟩ hcd2 hs) I ?_;intro fa h4 gg ei eg;obtain⟨cf,bc,ax,cd,ci,rfl,bp,bu,bl,bx⟩:=eg;refine zKE (A:=[_,_,_,_,_]) (zKE (A:=[_,_,_]) (zKE (A:=[_,_,_,_]) (go7 ?_)));refine gqL ((q+1),F3,((sxE s.1 ((s.2.1.getD f zA).2.1.getD q []) T3 ((s.2.1.getD f zA).2.1.getD q []).length).map (edP s.1)),(sxE s.1 ((s.2.1.getD f zA).2.1.getD q []) T3 ((s.2.1.getD f zA).2.1.getD q []).length),cf,D,ac,bc,ax,cd,ci,h4) ?_ ?_
   · exact⟨mle,bp,ap.up,bv,bl,bu,bx,by omega,cc,by rw[ca];rfl,I⟩
   omega
  have eq:q=(s.2.1.getD f zA).2.1.length:=by omega
  have es:F3.length=f:=by rw[cc];exact yZ _ _
  refine go7 ?_;refine lX (aA (xB yD9 (Pc.fst pH) ah)) λez dl=>?_;subst dl;refine lX (xB zEI pH bq) λey dk=>(zI (zL (ρ:=(rpP (tPl (m+1) (n+1)) (rpP (tLL (k+1)) (rpP rpI rpI)))) (m:=1) (xs:=[((s.2.1.getD f zA).1,(zAL s.1 (s.2.1.getD f zA).2.1 (s.2.1.getD f zA).2.1.length,((↑(axI (((s.2.1.getD f zA).1).1)):Int),(↑(axJ (((s.2.1.getD f zA).1).1)):Int))))]) (ps':=[(0,_)]) underlying96 oO I I I (yD (yD (xN (yH oM)) (yH oM)) (yD wN (yD wL wL))) e2z (zD I (Pc.arr (Pc.here _) fm0 0 dC) dk zO) (show 1*15<=16777216 from by decide) nP) I I I ?_)
  rintro ew fs ⟨eu,rfl,co⟩
  refine zS (A:=[]) (ρ:=(rpP (tPl (m+1) (n+1)) (rpP (tLL (k+1)) (rpP rpI rpI)))) co ?_;intro h4 ei bj;refine xS (A:=[_,_,_]) (uT (zV (ρ:=(rpP (tPl (m+1) (n+1)) (rpP (tLL (k+1)) (rpP rpI rpI)))) (bytes:=264) underlying96 oO I I I I nP I I ap.up bj bO bO)) I I I ?_
  rintro dc fr ⟨ba,cz,rfl,cn⟩
  refine go1 ?_;refine yB (A:=[_,_,_,_,_]) (uB sizeOf96 (Pc.fst pH) ah (s4 ba)) λce bo=>(go7 ?_);refine yM (A:=[]) (yM (A:=[]) ?_);refine gqL ((f+1),(F3++[((s.2.1.getD f zA).1,(zAL s.1 (s.2.1.getD f zA).2.1 (s.2.1.getD f zA).2.1.length,((↑(axI (((s.2.1.getD f zA).1).1)):Int),(↑(axJ (((s.2.1.getD f zA).1).1)):Int))))]),E3,T3,ce,dc,cz,G,ab,Z,aj,h4) ?_ ?_
  · exact⟨mle,bo,cn,ba,ao.up,ar,au,by omega,by rw[cc];rfl,by rw[ca,eq];rfl,bb⟩
  omega
 have ef:f=s.2.1.length:=by omega
 refine go7 ?_;refine zS (A:=[_]) (ρ:=(rpP (tPl (m+1) (n+1)) (rpP (tLL (k+1)) (rpP rpI rpI)))) az.up ?_;intro h1 ct bi;replace am:=am.mono ct;have ae:(rpP (rpS (rpP (tPl (m+1) (n+1)) (rpP (tLL (k+1)) (rpP rpI rpI)))) rpV).R h1 U (FF,(M,O).2):=yD5 am bi;refine zS (A:=[]) (ρ:=(rpA 2 (tPt (k+1)))) aq.up ?_;intro h2 cq bh;replace ae:=ae.mono cq;have bn:(rpP (rpS (rpP (tPl (m+1) (n+1)) (rpP (tLL (k+1)) (rpP rpI rpI)))) (rpS (rpA 2 (tPt (k+1))))).R h2 U (FF,E2):=vr_1 ae bh;refine lX (xB zRZ pH bn) λev dj=>?_;have bd:=(Le.p (Le.s (Le.p (Le.p (Le.t (Le.q (l:=m+1) oM)) (Le.q (l:=n+1) oM)) (Le.p (Le.s (Le.s (Le.t (Le.q (l:=k+1) oM)))) (Le.refl _)))) (Le.s (Le.a (Le.t (Le.q (l:=k+1) oM))))).R di;refine yB (A:=[_,_]) (uB sizeOf99 pH bd dj) λej bm=>(go3 ?_);refine wT (kE (t:=2) zRZ mh2 I bm) ?_;intro eo aw bk;refine yW (λE S=>zW I aw E S) ?_;exact(Rp.Is.cast bk (by rw[cb,cy,cw,ef];rfl))
theorem yA9{k m n j j2:Nat}{vs:Value}{s:Sq}(rs:(tSd k m n j).Is h0 vs s){vp:Value}{p:Tq}(rp:(tPt j2).Is h0 vp p)(hcd0:okS s)(hcd1:gC s)(hcd2:k<=9000)(hcd3:j2<=90)(hcd4:m<=900)(hcd5:n<=900):
 Calls Tryz.prog 30 #[vs,vp] w0 (Ret w0 h0 (λh r=>r=.tuple #[vI (↑(onJ (tK s) p):Int),vB (onA (tK s) p)])):=by
 have D:=zW7 (s:=s) hcd0;have C:=zPA hcd1 p;refine cb2 12 vs vp func30 hs ?_;refine go2 ?_;refine nB rs λb2 ad H=>(nB rp λb3 ac G=>(go5 ?_));refine zK 8 _ [] [(0,.q),(2,.q),(1,.c),(3,.c),(4,.q),(5,.q),(6,.q),(7,.q)] zX nX zob nX (λr Z=>Z) (wX I (xB qK pH H) λv6 U=>(wX I (xB zH pH G) λv8 M=>?_));refine w_c I (sC (ev1 I) call69 (λw hs=>iF hs U (by first|omega|exact hcd0|exact hcd1|exact gL hcd1|exact D|exact C.1|exact C.2) (by first|omega|exact hcd0|exact hcd1|exact gL hcd1|exact D|exact C.1|exact C.2) oM oM oM) λv7 h1 ab O=>?_);refine w_c I (sC (ev2 I I) call70 (λw hs=>zWO hs O M.up oM oM oM oM (by first|omega|exact hcd0|exact hcd1|exact gL hcd1|exact D|exact C.1|exact C.2)) λv9 h2 aa J=>?_);obtain rfl:=J;refine go7 ?_;refine wH I I I ?_
 rfl
theorem aH{k m n j j2:Nat}{vs:Value}{s:Sq}(rs:(tSd k m n j).Is h0 vs s){vp:Value}{p:Tq}(rp:(tPt j2).Is h0 vp p)(hcd0:okS s)(hcd1:gC s)(hcd2:k<=9000)(hcd3:j2<=90)(hcd4:m<=900)(hcd5:n<=900):
 Calls Tryz.prog 32 #[vs,vp] w0 (Ret w0 h0 (λh r=>r=.tuple #[vI (wdM (tK s) p),vB (¬onA (tK s) p)])):=by
 have D:=zW7 (s:=s) hcd0;have C:=zPA hcd1 p;refine cb2 12 vs vp func32 hs ?_;refine go2 ?_;refine nB rs λb2 ad H=>(nB rp λb3 ac G=>(go5 ?_));refine zK 8 _ [] [(0,.q),(2,.q),(1,.c),(3,.c),(4,.q),(5,.q),(6,.q),(7,.q)] zX nX zob nX (λr Z=>Z) (wX I (xB qK pH H) λv6 U=>(wX I (xB zH pH G) λv8 M=>?_));refine w_c I (sC (ev1 I) call69 (λw hs=>iF hs U (by first|omega|exact hcd0|exact hcd1|exact gL hcd1|exact D|exact C.1|exact C.2) (by first|omega|exact hcd0|exact hcd1|exact gL hcd1|exact D|exact C.1|exact C.2) oM oM oM) λv7 h1 ab O=>?_);refine w_c I (sC (ev2 I I) call72 (λw hs=>zL7 hs O M.up oM oM oM oM (by first|omega|exact hcd0|exact hcd1|exact gL hcd1|exact D|exact C.1|exact C.2) (by first|omega|exact hcd0|exact hcd1|exact gL hcd1|exact D|exact C.1|exact C.2) (by first|omega|exact hcd0|exact hcd1|exact gL hcd1|exact D|exact C.1|exact C.2)) λv9 h2 aa J=>?_);obtain rfl:=J;refine go7 ?_;refine wH I I I ?_
 rfl
theorem zQM{k m n j j2:Nat}{vs:Value}{s:Sq}(rs:(tSd k m n j).Is h0 vs s){vp:Value}{p:Tq}(rp:(tPt j2).Is h0 vp p)(hcd0:okS s)(hcd1:gC s)(hcd2:k<=9000)(hcd3:j2<=90)(hcd4:m<=900)(hcd5:n<=900):
 Calls Tryz.prog 18 #[vs,vp] w0 (Ret w0 h0 (λ_ r=>r=vI (inM (tK s) p))):=by
 refine cb2 19 vs vp func18 hs ?_;refine go2 ?_;refine nB rs λb2 ab H=>(nB rp λb3 aa G=>(go5 ?_));refine lX (xB qK pH H) λv8 U=>(lX (xB zH pH G) λv9 O=>(cL (ev2 I I) call32 (λw hs=>aH hs U O (by first|omega|exact hcd0|exact hcd1|exact gL hcd1|exact hmo|exact hmd.1|exact hmd.2) (by first|omega|exact hcd0|exact hcd1|exact gL hcd1|exact hmo|exact hmd.1|exact hmd.2) oM oM oM oM) λM h1 Z J=>?_));obtain rfl:=J;refine dT ?_;refine cnd (λC=>?_) λC=>?_
 ·
  refine go8 ?_;refine zC I I ?_;unfold inM;rw[if_pos (by simpa using C)]
 refine gc7 (λD=>?_) λD=>?_
 ·
  refine go8 ?_;refine zC I I ?_;unfold inM;rw[if_neg (by simpa using C),if_pos D]
 refine go9 ?_;refine zC I I ?_;unfold inM;rw[if_neg (by simpa using C),if_neg D]
end
end Go.Proofs.YtpkaegemlpaenaaGreat
namespace Bk
open Classical
def zT3(s:Sd)(p v:Pt)(f l k:Nat):Prop:=gp (gl (xG s f) l) k≠gp (gl (xG s f) l) ((k+1)%(gl (xG s f) l).length)/\aC p (gp (gl (xG s f) l) k) (gp (gl (xG s f) l) ((k+1)%(gl (xG s f) l).length)) v
def yF7(s:Sd)(p v:Pt)(f l:Nat):Prop:=∀k,k<(gl (xG s f) l).length->¬zT3 s p v f l k
def yF8(s:Sd)(p v:Pt)(f:Nat):Prop:=∀l,l<(xG s f).length->yF7 s p v f l
theorem yHW{s:Sd}{p v:Pt}(h:∀f,f<s.2.1.length->yF8 s p v f):dW s p v:=λf hf l hl k hk hne e=>h f hf l hl k hk ⟨hne,e⟩
theorem zYO{s:Sd}{p v:Pt}{f l k:Nat}(hf:f<s.2.1.length)(hl:l<(xG s f).length)(hk:k<(gl (xG s f) l).length)(h:zT3 s p v f l k):¬dW s p v:=λe=>e f hf l hl k hk h.1 h.2
section
variable {A B p v:Pt}
theorem zNR:wV A p=wV B p↔A=B:=by
 constructor
 · intro h
   have h1:=congrArg T3.x h;have h2:=congrArg T3.y h;have h3:=congrArg T3.z h;obtain⟨a,b,c⟩:=A;obtain⟨d,e,f⟩:=B;simp only[wV] at h1 h2 h3
   congr 1<;>grind
 · rintro rfl;rfl
theorem zUN:wV (wV B p) (wV A p)=wV B A:=by
 unfold wV
 congr 1<;>grind
theorem yC8(h:xH (wV A p) (wV B p)=zT):aC p A B v↔xH (wV (wV B p) (wV A p)) v=zT:=by
 unfold aC;rw[if_pos h,zUN]
theorem yC7(h:¬xH (wV A p) (wV B p)=zT):aC p A B v↔yR (oR (wV A p) (wV B p) v)=0:=by
 unfold aC;rw[if_neg h];exact zQA.symm
end
theorem zHL(s:Sd)(f:Nat)(q:Pt):-1<=whF s f q/\whF s f q<=1:=by
 unfold whF whZ
 split
 · omega
 · exact zAC _ _ _ _ _
def bdS(s:Sd)(p d:Pt)(f:Nat):Prop:=¬skP s p d f/\whF s f (bJ p d (hnF s p f/cnF s d f))=0
def nbS(s:Sd)(p d:Pt):Prop:=∀f,f<s.2.1.length->¬bdS s p d f
noncomputable def crU(s:Sd)(p d:Pt):Int:=if nbS s p d then(crP s p d s.2.1.length).1 else 0
noncomputable def crV(s:Sd)(p d:Pt):Int:=if nbS s p d then(crP s p d s.2.1.length).2 else 0
def okR(s:Sd)(p d:Pt):Prop:=¬(onB s p\/d=zT)/\nbS s p d
noncomputable def crX(s:Sd)(p d:Pt):Int:=if onB s p\/d=zT then 0 else crU s p d
noncomputable def crY(s:Sd)(p d:Pt):Int:=if onB s p\/d=zT then 0 else crV s p d
theorem yDE{s:Sd}{p d:Pt}(h:onB s p\/d=zT):crX s p d=0/\crY s p d=0/\¬okR s p d:=⟨if_pos h,if_pos h,λe=>e.1 h⟩
theorem yKB{s:Sd}{p d:Pt}{f:Nat}(h:¬(onB s p\/d=zT))(hf:f<s.2.1.length)(hb:bdS s p d f):crX s p d=0/\crY s p d=0/\¬okR s p d:=by
 have C:¬nbS s p d:=λe=>e f hf hb;exact⟨(if_neg h).trans (if_neg C),(if_neg h).trans (if_neg C),λe=>C e.2⟩
theorem zYK{s:Sd}{p d:Pt}(h:¬(onB s p\/d=zT))(hn:∀f,f<s.2.1.length->¬bdS s p d f):crX s p d=(crP s p d s.2.1.length).1/\crY s p d=(crP s p d s.2.1.length).2/\okR s p d:=⟨(if_neg h).trans (if_pos hn),(if_neg h).trans (if_pos hn),h,hn⟩
theorem zCV(s:Sd)(p d:Pt):∀n:Nat,(0<=(crP s p d n).1/\(crP s p d n).1<=n)/\(0<=(crP s p d n).2/\(crP s p d n).2<=n)
  |0=>by
   show(0<=(0:Int)/\(0:Int)<=((0:Nat):Int))/\(0<=(0:Int)/\(0:Int)<=((0:Nat):Int))
   omega
  |n+1=>by
   have ih:=zCV s p d n;unfold crP
   split
   · omega
   · split
     · split
       · show(0<=(crP s p d n).1+1/\(crP s p d n).1+1<=_)/\(0<=(crP s p d n).2/\(crP s p d n).2<=_)
         omega
       · show(0<=(crP s p d n).1/\(crP s p d n).1<=_)/\(0<=(crP s p d n).2+1/\(crP s p d n).2+1<=_)
         omega
     · omega
theorem zIR(s:Sd)(p d:Pt):(0<=crX s p d/\crX s p d<=s.2.1.length)/\(0<=crY s p d/\crY s p d<=s.2.1.length):=by
 have h:=zCV s p d s.2.1.length;unfold crX crY crU crV
 split
 · omega
 · split
   · exact h
   · omega
section
variable {s:Sd}{p d:Pt}{f:Nat}
theorem sk_0(h:yR (cnF s d f)=0):skP s p d f:=by unfold skP;rw[h,Int.zero_mul];exact Int.le_refl 0
theorem zUW(h:¬yR (cnF s d f)=0):skP s p d f↔yR (if cnF s d f=0 then 0 else hnF s p f/cnF s d f)<=0:=by
 have G:¬cnF s d f=0:=λe=>h (if_pos e);unfold skP;rw[if_neg G,u5];generalize cnF s d f=c at *;generalize hnF s p f=t at *;have M:yR (t/c)<=0↔¬0<t/c:=by rw[<-zAM];omega
 rw[M];have J:0<t/c↔(0<c/\0<t)\/(c<0/\t<0):=by
  have H:t=(t/c)*c:=by grind
  generalize t/c=q at *;constructor
  · intro D
    have C:c<0\/c=0\/0<c:=by grind
    rcases C with hc'|hc'|hc'
    · refine .inr ⟨hc',?_⟩
      have:=kG D (show 0< -c by grind);grind
    · exact absurd hc' G
    · exact .inl ⟨hc',by rw[H];exact kG D hc'⟩
  · rintro(⟨h1,h2⟩|⟨h1,h2⟩)
    · refine Rat.not_le.1 λe=>?_
      have:=Rat.mul_le_mul_of_nonneg_right e (Rat.le_of_lt h1);grind
    · refine Rat.not_le.1 λe=>?_
      have:=Rat.mul_le_mul_of_nonneg_right e (show 0<= -c by grind);grind
 rw[J]
theorem zJE(h:¬yR (cnF s d f)=0):whF s f (T3.mk (p.x+(if cnF s d f=0 then 0 else hnF s p f/cnF s d f)*d.x) (p.y+(if cnF s d f=0 then 0 else hnF s p f/cnF s d f)*d.y) (p.z+(if cnF s d f=0 then 0 else hnF s p f/cnF s d f)*d.z))=whF s f (bJ p d (hnF s p f/cnF s d f)):=by
 have C:¬cnF s d f=0:=λe=>h (if_pos e);rw[if_neg C];rfl
theorem zRG(h:skP s p d f):crP s p d (f+1)=crP s p d f:=if_pos h
theorem yHT(h:¬skP s p d f)(h1:whF s f (bJ p d (hnF s p f/cnF s d f))=1)(h2:0<cnF s d f):crP s p d (f+1)=((crP s p d f).1+1,(crP s p d f).2):=(if_neg h).trans ((if_pos h1).trans (if_pos h2))
theorem yKD(h:¬skP s p d f)(h1:whF s f (bJ p d (hnF s p f/cnF s d f))=1)(h2:¬0<cnF s d f):crP s p d (f+1)=((crP s p d f).1,(crP s p d f).2+1):=(if_neg h).trans ((if_pos h1).trans (if_neg h2))
theorem yKC(h:¬skP s p d f)(h1:¬whF s f (bJ p d (hnF s p f/cnF s d f))=1):crP s p d (f+1)=crP s p d f:=(if_neg h).trans (if_neg h1)
end
theorem zWZ{s:Sd}(h:gC s){p d:Pt}(hc:dW s p d):nbS s p d:=λf hf e=>zO3 (zER h) hf hc e.1 e.2
theorem yA3{s:Sd}(h:gC s)(p:Pt):onJ (tK s) p=onI s p:=by
 unfold onJ onI
 by_cases e:onB s p
 · rw[if_pos e,if_pos ((rH h p).2 e)]
   congr 1
   funext f
   refine propext ⟨λh1=>?_,λh1=>?_⟩
   · have C:f<s.2.1.length:=by have:=h1.1;rw[g5] at this;exact this
     exact⟨C,(zD2 h p C).1 h1.2⟩
   · exact⟨by rw[g5];exact h1.1,(zD2 h p h1.1).2 h1.2⟩
 · rw[if_neg e,if_neg λD=>e ((rH h p).1 D)]
theorem yD0{s:Sd}(h:gC s)(p:Pt):crX s p (vK (dirN s p))-crY s p (vK (dirN s p))=zC3 s p/\(okR s p (vK (dirN s p))↔¬onB s p):=by
 have J:=(iO (gL h) p).2.1;have H:=zWZ h J;have hz:=yCQ (dirN s p:Int);unfold zC3
 by_cases e:onB s p
 · obtain⟨G,D,C⟩:=yDE (d:=vK (dirN s p)) (.inl e)
   rw[G,D,if_pos e];exact⟨I,λk=>absurd k C,λk=>absurd e k⟩
 · obtain⟨G,D,C⟩:=zYK (s:=s) (p:=p) (d:=vK (dirN s p)) (λk=>k.elim e hz) H
   rw[G,D,if_neg e];exact⟨zKL s p _ _,λ_=>e,λ_=>C⟩
section
variable {x p y q:Rat}
def lay(x p y q:Rat)(s:List PI)(l:List Pt):Prop:=l.length=s.length/\∀m,m<s.length->pr (gp l m) 0 1=ag x p y q (gI s m)
def arG(s:List PI):Nat->Int
  |0=>0
  |m+1=>arG s m+((gI s m).1*(gI s ((m+1)%s.length)).2-(gI s ((m+1)%s.length)).1*(gI s m).2)
theorem zMQ{s:List PI}{l:List Pt}(h:lay x p y q s l):∀m,m<=s.length->
 uQ l 0 1 m=p*q*((arG s m:Int):Rat)+x*q*(((gI s (m%s.length)).2:Rat)-((gI s 0).2:Rat))-y*p*(((gI s (m%s.length)).1:Rat)-((gI s 0).1:Rat))
 |0,_=>by
  rw[Nat.zero_mod]
  show(0:Rat)=p*q*((0:Int):Rat)+_-_
  have:((0:Int):Rat)=0:=rfl;rw[this];grind
 |m+1,hm=>by
  have ih:=zMQ h m zoa;have e1:=h.2 m zoa;have e2:=h.2 ((m+1)%s.length) (Nat.mod_lt _ zoa);have hmod:m%s.length=m:=Nat.mod_eq_of_lt zoa;rw[hmod] at ih;have a1:(gp l m).at 0=x+p*((gI s m).1:Rat):=congrArg Prod.fst e1;have a2:(gp l m).at 1=y+q*((gI s m).2:Rat):=congrArg Prod.snd e1;have b1:(gp l ((m+1)%s.length)).at 0=x+p*((gI s ((m+1)%s.length)).1:Rat):=congrArg Prod.fst e2;have b2:(gp l ((m+1)%s.length)).at 1=y+q*((gI s ((m+1)%s.length)).2:Rat):=congrArg Prod.snd e2
  show uQ l 0 1 m+((gp l m).at 0*(gp l ((m+1)%l.length)).at 1-(gp l ((m+1)%l.length)).at 0*(gp l m).at 1)=_
  rw[h.1,ih,a1,a2,b1,b2]
  show _=p*q*((arG s m+((gI s m).1*(gI s ((m+1)%s.length)).2-(gI s ((m+1)%s.length)).1*(gI s m).2):Int):Rat)+_-_
  simp only[Rat.intCast_add,Rat.intCast_sub,Rat.intCast_mul];grind
theorem zXJ{s:List PI}{l:List Pt}(h:lay x p y q s l):arZ l 0 1=p*q*((arG s s.length:Int):Rat):=by
 unfold arZ;rw[h.1,zMQ h _ (Nat.le_refl _),Nat.mod_self];grind
theorem zEB(hp:0<p)(hq:0<q){s:List PI}{l:List Pt}(h:lay x p y q s l):yR (arZ l 0 1)=sgI (arG s s.length):=by
 rw[zXJ h,eU (kG hp hq),nS];rfl
theorem zJ5(hp:0<p)(hq:0<q){s:List PI}{l:List Pt}(h:lay x p y q s l)(hb:zR6 s=true):aE l 0 1:=zE3 hp hq h.1 h.2 hb
theorem bR{s:List PI}{l:List Pt}(h:lay x p y q s l){m:Nat}(hm:m<s.length):vV l 0 1 m=ag x p y q (gI s m)/\vT l 0 1 m=ag x p y q (gI s ((m+1)%s.length)):=by
 unfold vV vT;rw[h.1];exact⟨h.2 m hm,h.2 _ (Nat.mod_lt _ zoa)⟩
def btI(a b c:Int):Bool:=decide ((a<=c/\c<=b)\/(b<=c/\c<=a))
def yA5(u v w:PI):Bool:=btI u.1 v.1 w.1&&btI u.2 v.2 w.2&&decide (crI u v w=0)
def csI(u v w:PI):Bool:=decide (¬(u.2<=w.2↔v.2<=w.2)/\((u.2<=w.2/\0<crI u v w)\/(v.2<=w.2/\crI u v w<0)))
def odI(s:List PI)(w:PI):Nat->Bool
  |0=>false
  |m+1=>csI (gI s m) (gI s ((m+1)%s.length)) w != odI s w m
def inI(s:List PI)(w:PI):Int:=if(List.range s.length).any λm=>yA5 (gI s m) (gI s ((m+1)%s.length)) w then 0 else if odI s w s.length then 1 else -1
theorem zZG{a b:Int}(hp:0<p):x+p*(a:Rat)<=x+p*(b:Rat)↔a<=b:=by
 rw[<-Rat.not_lt,zIY hp,Int.not_lt]
theorem yDO(hp:0<p)(hq:0<q)(u v w:PI):onS (ag x p y q u) (ag x p y q v) (ag x p y q w)↔yA5 u v w=true:=by
 have C:cr (ag x p y q u) (ag x p y q v) (ag x p y q w)=0↔crI u v w=0:=by
  rw[yDR];have h0:¬p*q=0:=λe=>absurd (e▸kG hp hq) zod;constructor
  · intro e
    rcases Rat.mul_eq_zero.1 e with e|e
    · exact absurd e h0
    · exact Rat.intCast_inj.1 e
  · intro e
    rw[e];exact Rat.mul_zero _
 unfold onS yA5 qY btI;rw[C,Bool.and_eq_true,Bool.and_eq_true,decide_eq_true_iff,decide_eq_true_iff,decide_eq_true_iff];unfold ag;simp only[zZG hp,zZG hq];constructor
 · rintro⟨a,b,c⟩;exact⟨⟨by omega,by omega⟩,c⟩
 · rintro⟨⟨a,b⟩,c⟩;exact⟨by omega,by omega,c⟩
theorem iZ{n:Int}:0<sgI n↔0<n:=by unfold sgI;split<;>(try split)<;>omega
theorem zP9{n:Int}:sgI n<0↔n<0:=by unfold sgI;split<;>(try split)<;>omega
theorem yKJ(hp:0<p)(hq:0<q)(u v w:PI):jJ (ag x p y q u) (ag x p y q v) (ag x p y q w)↔csI u v w=true:=by
 unfold jJ csI;rw[decide_eq_true_iff,zZF hp hq];unfold orI;rw[iZ,zP9];unfold ag;simp only[zZG hq]
theorem zJ6(hp:0<p)(hq:0<q){s:List PI}{l:List Pt}(h:lay x p y q s l)(w:PI):∀m,m<=s.length->(jV l (ag x p y q w) 0 1 m↔odI s w m=true)
  |0,_=>by simp[jV,odI]
  |m+1,hm=>by
   have ih:=zJ6 hp hq h w m zoa;obtain⟨e1,e2⟩:=bR h (m:=m) zoa;unfold jV odI;rw[e1,e2,yKJ hp hq,ih]
   cases csI (gI s m) (gI s ((m+1)%s.length)) w<;>cases odI s w m<;>simp
theorem yGQ(hp:0<p)(hq:0<q){s:List PI}{l:List Pt}(h:lay x p y q s l)(w:PI):gW l (ag x p y q w) 0 1=inI s w:=by
 unfold gW inI;have h1:(∃m,m<l.length/\onS (vV l 0 1 m) (vT l 0 1 m) (ag x p y q w))↔((List.range s.length).any λm=>yA5 (gI s m) (gI s ((m+1)%s.length)) w)=true:=by
  rw[List.any_eq_true,h.1];constructor
  · rintro⟨m,D,e⟩
    obtain⟨G,C⟩:=bR h D;rw[G,C,yDO hp hq] at e;exact⟨m,List.mem_range.2 D,e⟩
  · rintro⟨m,D,e⟩
    have D:=List.mem_range.1 D;obtain⟨G,C⟩:=bR h D;refine⟨m,D,?_⟩;rw[G,C,yDO hp hq];exact e
 by_cases e:∃m,m<l.length/\onS (vV l 0 1 m) (vT l 0 1 m) (ag x p y q w)
 · rw[if_pos e,if_pos (h1.1 e)]
 · rw[if_neg e,if_neg λH=>e (h1.2 H),h.1]
   by_cases C:jV l (ag x p y q w) 0 1 s.length
   · rw[if_pos C,if_pos ((zJ6 hp hq h w _ (Nat.le_refl _)).1 C)]
   · rw[if_neg C,if_neg λH=>C ((zJ6 hp hq h w _ (Nat.le_refl _)).2 H)]
def dbI(s:List PI):List PI:=s.map λu=>(2*u.1,2*u.2)
def miI(u v:PI):PI:=(u.1+v.1,u.2+v.2)
theorem yHP(s:List PI){m:Nat}(hm:m<s.length):gI (dbI s) m=(2*(gI s m).1,2*(gI s m).2):=by
 unfold gI dbI;rw[List.getD_eq_getElem?_getD,List.getD_eq_getElem?_getD,List.getElem?_map,List.getElem?_eq_getElem hm];rfl
theorem yGR{s:List PI}{l:List Pt}(h:lay x p y q s l):lay x (p/2) y (q/2) (dbI s) l:=by
 have D:(dbI s).length=s.length:=List.length_map _;refine⟨by rw[D];exact h.1,λm C=>?_⟩;rw[D] at C;rw[h.2 m C,yHP s C];unfold ag;have e:∀a:Int,(((2*a:Int)):Rat)=2*(a:Rat):=λa=>by rw[Rat.intCast_mul];rfl
 show(x+p*_,y+q*_)=(x+p/2*(((2*_:Int)):Rat),y+q/2*(((2*_:Int)):Rat))
 rw[e,e];refine Prod.ext ?_ ?_
 · show x+p*_=x+p/2*(2*_);grind
 · show y+q*_=y+q/2*(2*_);grind
theorem yIC(u v:PI):zO9 (ag x p y q u) (ag x p y q v)=ag x (p/2) y (q/2) (miI u v):=by
 have C:zGD=1/2:=zIG.symm.trans I;unfold zO9 ag miI zCJ;rw[C];simp only[Rat.intCast_add];refine Prod.ext ?_ ?_
 · show(x+p*_+(x+p*_))*(1/2)=x+p/2*(_+_);grind
 · show(y+q*_+(y+q*_))*(1/2)=y+q/2*(_+_);grind
def wiB(c s:List PI):Bool:=(List.range s.length).all λm=>decide (inI (dbI c) (miI (gI s m) (gI s ((m+1)%s.length)))=1)
theorem zKS{c l:List Pt}(h:∀m,m<l.length->gW c (zO9 (vV l 0 1 m) (vT l 0 1 m)) 0 1=1):∀m,m<=l.length->pP c l 0 1 m=m
  |0,_=>rfl
  |m+1,hm=>by
   unfold pP;rw[if_pos (h m zoa),zKS h m zoa];omega
theorem zXI(hp:0<p)(hq:0<q){s t:List PI}{c l:List Pt}(hc:lay x p y q s c)(hl:lay x p y q t l)(h:wiB s t=true):wiZ c l 0 1=l.length:=by
 refine zKS (λm C=>?_) _ (Nat.le_refl _);rw[hl.1] at C;obtain⟨G,D⟩:=bR hl C;rw[G,D,yIC,yGQ (p:=p/2) (q:=q/2) zoi zoi (yGR hc)];have:=List.all_eq_true.1 h m (List.mem_range.2 C);exact of_decide_eq_true this
theorem zHX{P:List Pt}(h:0<yR (arZ P 0 1)):cJ P:=zCT λe=>by
 have e':arZ P 0 1=0:=e;rw[e',show yR 0=0 from if_pos rfl] at h;omega
def noX(s t:List PI):Bool:=(List.range s.length).all λa=>(List.range t.length).all λb=>!decide (1<toI (gI s a) (gI s ((a+1)%s.length)) (gI t b) (gI t ((b+1)%t.length)))
theorem yBN(hp:0<p)(hq:0<q){s t:List PI}{c l:List Pt}(hc:lay x p y q s c)(hl:lay x p y q t l)(h:noX s t=true):¬gK c l 0 1:=by
 rintro⟨a,b,D,C,e⟩
 rw[hc.1] at D;rw[hl.1] at C;unfold w5 at e;rw[(bR hc D).1,(bR hc D).2,(bR hl C).1,(bR hl C).2,zNG hp hq] at e;have h1:=List.all_eq_true.1 (List.all_eq_true.1 h a (List.mem_range.2 D)) b (List.mem_range.2 C);rw[Bool.not_eq_true',decide_eq_false_iff_not] at h1;exact h1 e
theorem zWW{P Q:List Pt}(hs:aE P 0 1)(ht:aE Q 0 1)(hl:P.length<=64/\Q.length<=64)(hx:¬gK P Q 0 1)(ha:0<yR (arZ P 0 1))(hw:wiZ P Q 0 1=Q.length):vZ [P,Q] 0 1=0:=by
 have C:∀m,m<[P,Q].length->m=0\/m=1:=λm D=>by have:m<2:=D;omega
 have H:yKG [P,Q] 0 1 1 0 (-1):=⟨⟨ha,hw⟩,.inl zod⟩;have U:pZ [P,Q] 0 1 0= -1:=if_pos ha;have O:0<=tT [P,Q] 0 1 1 2:=by
  have M:tT [P,Q] 0 1 1 1=0:=if_pos H;unfold tT;rw[M]
  split<;>decide
 unfold vZ;rw[if_neg (λe=>by
  rcases e with e|⟨m,D,e⟩
  · have:16<2:=e
    omega
  · rcases C m D with rfl|rfl
    · have:64<P.length:=e
      omega
    · have:64<Q.length:=e
      omega),if_neg (λe=>by
  obtain⟨m,D,e⟩:=e
  rcases C m D with rfl|rfl
  · exact e hs
  · exact e ht),if_neg (λe=>by
  obtain⟨a,b,J,H,e⟩:=e;have:b<2:=H;have:a=0/\b=1:=by omega
  obtain⟨rfl,rfl⟩:=this;exact hx e),if_neg (λe=>by
  rcases e with⟨k,hk,e⟩|⟨a,b,hka,hkb,e⟩
  · rcases C k hk with rfl|rfl
    · exact e.1 ha
    · have:=e.2
      have e2:tT [P,Q] 0 1 1 [P,Q].length=tT [P,Q] 0 1 1 2:=I;omega
  · obtain⟨⟨⟨G,h0⟩,Z⟩,_⟩:=e
    rcases C a hka with rfl|rfl
    · omega
    · rcases C b hkb with rfl|rfl
      · omega
      · exact G I)]
def nsI(S:List (List PI)):Bool:=
 match S with
 |[s]=>zR6 s&&decide (s.length<=64)&&decide (0<arG s s.length)
 |[s,t]=>zR6 s&&zR6 t&&decide (s.length<=64/\t.length<=64)&&noX s t&&decide (0<arG s s.length)&&decide (arG t t.length<0)&&wiB s t
 |_=>false
def yGS(x p y q:Rat)(S:List (List PI))(L:List (List Pt)):Prop:=L.length=S.length/\∀m,m<S.length->lay x p y q (S.getD m []) (gl L m)
theorem zMD(hp:0<p)(hq:0<q){S:List (List PI)}{L:List (List Pt)}(h:yGS x p y q S L)(hb:nsI S=true):vZ L 0 1=0/\ouZ L=1/\∀l,l∈L->cJ l:=by
 match S,hb with
 |[s],hb=>
  match L,h.1 with
  |[l],_=>
   have h0:lay x p y q s l:=h.2 0 (show 0<_ from Nat.zero_lt_succ _);simp only[nsI,Bool.and_eq_true,decide_eq_true_iff] at hb;have C:0<yR (arZ l 0 1):=by rw[zEB hp hq h0];exact iZ.2 hb.2
   refine⟨zFW (zJ5 hp hq h0 hb.1.1) (by rw[h0.1];exact hb.1.2) C,zOL C,λz hz=>?_⟩;rw[List.mem_singleton.1 hz];exact zHX C
 |[s,t],hb=>
  match L,h.1 with
  |[l,k],_=>
   have h0:lay x p y q s l:=h.2 0 (show 0<_ from Nat.zero_lt_succ _);have h1:lay x p y q t k:=h.2 1 (show 1<2 from by decide);simp only[nsI,Bool.and_eq_true,decide_eq_true_iff] at hb;obtain⟨⟨⟨⟨⟨⟨b1,Z⟩,U⟩,O⟩,M⟩,J⟩,H⟩:=hb;have C:0<yR (arZ l 0 1):=by rw[zEB hp hq h0];exact iZ.2 M
   have D:yR (arZ k 0 1)<0:=by rw[zEB hp hq h1];exact zP9.2 J
   refine⟨zWW (zJ5 hp hq h0 b1) (zJ5 hp hq h1 Z) (by rw[h0.1,h1.1];exact U) (yBN hp hq h0 h1 O) C (zXI hp hq h0 h1 H),?_,λz hz=>?_⟩
   · have G:j4 [l,k] 1=1:=if_pos C
     show j4 [l,k] 2=1
     unfold j4;rw[if_neg (show ¬0<yR (arZ (gl [l,k] 1) 0 1) fromλe=>by have:0<yR (arZ k 0 1):=e;omega),G]
   · rcases List.mem_cons.1 hz with rfl|hz
     · exact zHX C
     · rw[List.mem_singleton.1 hz]
       refine zCT λe=>?_;have:arZ k 0 1=0:=e;rw[this,show yR 0=0 from if_pos I] at D;omega
end
abbrev I3:=Int×Int×Int
def aI3(u:I3):Nat->Int
  |0=>u.1|1=>u.2.1|_=>u.2.2
def cP(v u:I3):Pt:=T3.mk ((v.1+u.1:Int):Rat) ((v.2.1+u.2.1:Int):Rat) ((v.2.2+u.2.2:Int):Rat)
def nr3(n:I3):Pt:=T3.mk (n.1:Rat) (n.2.1:Rat) (n.2.2:Rat)
def dt3(n u:I3):Int:=n.1*u.1+n.2.1*u.2.1+n.2.2*u.2.2
abbrev FI:=I3×Int×List (List Int)×List Nat
abbrev SI:=List I3×List FI
abbrev z3:I3:=((0:Int),(0:Int),(0:Int))
abbrev fi0:FI:=(z3,(0:Int),([]:List (List Int)),([]:List Nat))
abbrev g3(P:List I3)(k:Nat):I3:=P.getD k z3
def cPl(v:I3)(f:FI):Pl:=(nr3 f.1,((f.2.1+dt3 f.1 v:Int):Rat))
def zJ1(v:I3)(f:FI)(x:Fc):Prop:=(∃a:Int,(0<a/\a<=1000)/\x.1=scW (1/(a:Rat)) (cPl v f))/\x.2=f.2.2
theorem zXM{a:Int}(h:0<a):(0:Rat)<1/(a:Rat):=by
 rw[Rat.div_def];exact kG zod (Rat.inv_pos.2 (Rat.intCast_pos.2 h))
theorem zQP{v:I3}{f:FI}{x:Fc}(h:zJ1 v f x):∃r:Rat,0<r/\x.1=scW r (cPl v f):=by
 obtain⟨a,C,e⟩:=h.1;exact⟨_,zXM C.1,e⟩
def lM(v:I3)(I:SI)(s:Sd):Prop:=s.1=I.1.map (cP v)/\s.2.2=[]/\s.2.1.length=I.2.length/\∀f,f<I.2.length->zJ1 v (I.2.getD f fi0) (s.2.1.getD f zA)
theorem yDJ(v u:I3)(n:Nat):(cP v u).at n=((aI3 v n+aI3 u n:Int):Rat):=by
 match n with
 |0=>rfl
 |1=>rfl
 |_+2=>rfl
theorem zIH{v:I3}{P:List I3}{k:Nat}(hk:k<P.length):gp (P.map (cP v)) k=cP v (g3 P k):=by
 show(P.map (cP v)).getD k _=cP v (P.getD k z3)
 rw[List.getD_eq_getElem?_getD,List.getD_eq_getElem?_getD,List.getElem?_map,List.getElem?_eq_getElem hk];rfl
theorem yBH(v u:I3)(f:FI)(r:Rat):hgt (scW r (cPl v f)) (cP v u)=r*((dt3 f.1 u-f.2.1:Int):Rat):=by
 unfold hgt scW cPl xE nr3 cP dt3;simp only[Rat.intCast_add,Rat.intCast_sub,Rat.intCast_mul];grind
theorem yGG{v u:I3}{f:FI}{r:Rat}(hr:0<r):sdZ (scW r (cPl v f)) (cP v u)=sgI (dt3 f.1 u-f.2.1):=by
 unfold sdZ;rw[yBH,eU hr,nS];rfl
def iP(n:I3):Nat×Nat:=if 0<n.2.2 then(0,1) else if n.2.2<0 then(1,0) else if 0<n.2.1 then(2,0) else if n.2.1<0 then(0,2) else if 0<n.1 then(1,2) else if n.1<0 then(2,1) else(1,2)
theorem zU7{r:Rat}(hr:0<r)(n:Int):0<r*(n:Rat)↔0<n:=by
 constructor
 · intro h
   refine Int.not_le.1 λe=>?_;have h1:(n:Rat)<=0:=Rat.intCast_nonpos.2 e;have:=Rat.mul_le_mul_of_nonneg_left h1 (Rat.le_of_lt hr);grind
 · intro h
   exact kG hr (Rat.intCast_pos.2 h)
theorem zU8{r:Rat}(hr:0<r)(n:Int):r*(n:Rat)<0↔n<0:=by
 have:=zU7 hr (-n);rw[Rat.intCast_neg] at this;constructor
 · intro h
   have:=this.1 zoi;omega
 · intro h
   have:=this.2 zoa;grind
theorem zW6{v:I3}{f:FI}{r:Rat}(hr:0<r):axI (scW r (cPl v f)).1=(iP f.1).1/\axJ (scW r (cPl v f)).1=(iP f.1).2:=by
 unfold axI axJ iP scW cPl nr3;simp only[zU7 hr,zU8 hr]
 repeat' split
 all_goals first|exact⟨I,I⟩|omega
theorem zU9{v:I3}{f:FI}{r:Rat}(hr:0<r)(h:¬f.1=z3):¬(scW r (cPl v f)).1=zT:=λe=>by
 have g:∀n:Int,r*(n:Rat)=0->n=0:=λn e=>by
  rcases Rat.mul_eq_zero.1 e with e|e
  · rw[e] at hr;exact absurd hr zod
  · exact Rat.intCast_inj.1 e
 have e1:=g _ (congrArg T3.x e);have e2:=g _ (congrArg T3.y e);have e3:=g _ (congrArg T3.z e);exact h (Prod.ext e1 (Prod.ext e2 e3))
def flI(a:Nat×Nat)(P:List I3)(x:List Int):List PI:=x.map λk=>(aI3 (g3 P k.toNat) a.1,aI3 (g3 P k.toNat) a.2)
def lpB(n:Nat)(x:List Int):Bool:=decide (3<=x.length/\x.length<=64)&&(List.range x.length).all λi=>decide (0<=x.getD i 0/\x.getD i 0<n)&&(List.range i).all λk=>!decide (x.getD i 0=x.getD k 0)
theorem zXE{n:Nat}{x:List Int}(hn:n<=512)(h:lpB n x=true):lpP x/\nmL n x:=by
 unfold lpB at h;rw[Bool.and_eq_true,decide_eq_true_iff] at h;have g:∀i,i<x.length->(0<=x.getD i 0/\x.getD i 0<n)/\∀k,k<i->¬x.getD i 0=x.getD k 0:=λi hi=>by
  have h1:=List.all_eq_true.1 h.2 i (List.mem_range.2 hi);rw[Bool.and_eq_true,decide_eq_true_iff] at h1;refine⟨h1.1,λk C=>?_⟩;have h2:=List.all_eq_true.1 h1.2 k (List.mem_range.2 C);rw[Bool.not_eq_true',decide_eq_false_iff_not] at h2;exact h2
 refine⟨⟨h.1,λi hi=>⟨?_,(g i hi).2⟩⟩,λi hi=>(g i hi).1⟩;have:=(g i hi).1;omega
def bd3(u:I3):Bool:=decide ((-1000<=u.1/\u.1<=1000)/\(-1000<=u.2.1/\u.2.1<=1000)/\(-1000<=u.2.2/\u.2.2<=1000))
def faB(P:List I3)(f:FI):Bool:=(bd3 f.1&&decide (-1000<=f.2.1/\f.2.1<=1000))&&(decide (1<=f.2.2.1.length/\f.2.2.1.length<=16)&&f.2.2.1.all (λx=>lpB P.length x&&x.all λk=>decide (dt3 f.1 (g3 P k.toNat)=f.2.1))&&!decide (f.1=z3)&&nsI (f.2.2.1.map (flI (iP f.1) P)))
def dsB(P:List I3):Bool:=(List.range P.length).all λi=>(List.range i).all λk=>!decide (g3 P i=g3 P k)
def chI(I:SI):Bool:=I.1.all bd3&&(decide (I.1.length<=512/\I.2.length<=256)&&I.2.all (faB I.1)&&dsB I.1&&clB (edZ (I.2.map λf=>f.2.2.1)))
theorem zGL{α:Type}(d:α){l k:List α}(hl:l.length=k.length)(h:∀i,i<l.length->l.getD i d=k.getD i d):l=k:=by
 refine List.ext_getElem hl λi h1 h2=>?_;have:=h i h1;rw[List.getD_eq_getElem?_getD,List.getD_eq_getElem?_getD,List.getElem?_eq_getElem h1,List.getElem?_eq_getElem h2] at this;exact this
theorem tL{α β:Type}(g:α->β)(d:α)(e:β){l:List α}{i:Nat}(hi:i<l.length):(l.map g).getD i e=g (l.getD i d):=by
 rw[List.getD_eq_getElem?_getD,List.getD_eq_getElem?_getD,List.getElem?_map,List.getElem?_eq_getElem hi];rfl
section
variable {v:I3}{I:SI}{s:Sd}
theorem zIE(h:lM v I s):vO s=I.2.map λf=>f.2.2.1:=by
 obtain⟨h1,h2,h3,D⟩:=h;refine zGL [] (by rw[sP,List.length_map,h3]) λf C=>?_;rw[sP,h3] at C;rw[mE zoa,tL (λf:FI=>f.2.2.1) fi0 [] C,(D f C).2]
theorem mD{f:Nat}(h:lM v I s)(hb:chI I=true)(hf:f<I.2.length):faB I.1 (I.2.getD f fi0)=true:=by
 unfold chI at hb;replace hb:=(Bool.and_eq_true _ _▸hb).2;rw[Bool.and_eq_true,Bool.and_eq_true,Bool.and_eq_true] at hb;exact List.all_eq_true.1 hb.1.1.2 _ (kY hf)
theorem oG(h:lM v I s):s.1.length=I.1.length:=by rw[h.1,List.length_map]
theorem zGK{P:List I3}{f:FI}(h:faB P f=true){l:Nat}(hl:l<f.2.2.1.length):lpB P.length (f.2.2.1.getD l [])=true/\∀k,k<(f.2.2.1.getD l []).length->dt3 f.1 (g3 P ((f.2.2.1.getD l []).getD k 0).toNat)=f.2.1:=by
 unfold faB at h;replace h:=(Bool.and_eq_true _ _▸h).2;rw[Bool.and_eq_true,Bool.and_eq_true,Bool.and_eq_true] at h;have h1:=List.all_eq_true.1 h.1.1.2 _ (kY (d:=[]) hl);rw[Bool.and_eq_true] at h1;refine⟨h1.1,λk C=>?_⟩;exact of_decide_eq_true (List.all_eq_true.1 h1.2 _ (kY (d:=0) C))
theorem zW5{f:Nat}(h:lM v I s)(hb:chI I=true)(hf:f<I.2.length):nmP s f/\vfP (s.2.1.getD f zA).2.1:=by
 have D:=mD h hb hf;have e:(s.2.1.getD f zA).2.1=(I.2.getD f fi0).2.2.1:=congrArg Prod.fst (h.2.2.2 f hf).2;have H:I.1.length<=512:=by
  unfold chI at hb;replace hb:=(Bool.and_eq_true _ _▸hb).2;rw[Bool.and_eq_true,Bool.and_eq_true,Bool.and_eq_true,decide_eq_true_iff] at hb;exact hb.1.1.1.1
 have h1:1<=(I.2.getD f fi0).2.2.1.length/\(I.2.getD f fi0).2.2.1.length<=16:=by
  have C:=D;unfold faB at C;replace C:=(Bool.and_eq_true _ _▸C).2;rw[Bool.and_eq_true,Bool.and_eq_true,Bool.and_eq_true,decide_eq_true_iff] at C;exact C.1.1.1
 refine⟨λl G=>?_,?_⟩
 · rw[e] at G ⊢
   rw[oG h];exact(zXE H (zGK D G).1).2
 · rw[e]
   exact⟨h1,λl G=>(zXE H (zGK D G).1).1⟩
theorem zQS{f:Nat}(h:lM v I s)(hb:chI I=true)(hf:f<I.2.length):(xG s f).length=(I.2.getD f fi0).2.2.1.length/\∀l,l<(I.2.getD f fi0).2.2.1.length->(gl (xG s f) l).length=((I.2.getD f fi0).2.2.1.getD l []).length/\∀k,k<((I.2.getD f fi0).2.2.1.getD l []).length->gp (gl (xG s f) l) k=cP v (g3 I.1 (((I.2.getD f fi0).2.2.1.getD l []).getD k 0).toNat):=by
 have e:(s.2.1.getD f zA).2.1=(I.2.getD f fi0).2.2.1:=congrArg Prod.fst (h.2.2.2 f hf).2;have D:=(zW5 h hb hf).1;rw[zPR (by rw[h.2.2.1];exact hf) D];refine⟨by rw[<-e];exact yZ _ _,λl J=>?_⟩;have C:l<(s.2.1.getD f zA).2.1.length:=by rw[e];exact J
 have M:gl (zGP s f (s.2.1.getD f zA).2.1.length) l=zE5 s.1 ((s.2.1.getD f zA).2.1.getD l []) ((s.2.1.getD f zA).2.1.getD l []).length:=qF _ _ C;rw[M,e];refine⟨yZ _ _,λk G=>?_⟩;have H:=D l C k (by rw[e];exact G);rw[e,oG h] at H;have O:gp (zE5 s.1 ((I.2.getD f fi0).2.2.1.getD l []) ((I.2.getD f fi0).2.2.1.getD l []).length) k=gp s.1 (((I.2.getD f fi0).2.2.1.getD l []).getD k 0).toNat:=qF _ _ G;rw[O,h.1,zIH zoa]
theorem zQQ{f:Nat}(h:lM v I s)(hb:chI I=true)(hf:f<I.2.length):yGS (aI3 v (iP (I.2.getD f fi0).1).1:Rat) 1 (aI3 v (iP (I.2.getD f fi0).1).2:Rat) 1 ((I.2.getD f fi0).2.2.1.map (flI (iP (I.2.getD f fi0).1) I.1)) (gJ s f):=by
 obtain⟨U,c2⟩:=zQS h hb hf;obtain⟨r,M,H⟩:=zQP (h.2.2.2 f hf);have D:=dP s f;refine⟨by rw[D.1,U,List.length_map],λl G=>?_⟩;rw[List.length_map] at G;obtain⟨O,c4⟩:=c2 l G;rw[tL (flI (iP (I.2.getD f fi0).1) I.1) [] [] G];have J:(gl (gJ s f) l).length=((I.2.getD f fi0).2.2.1.getD l []).length:=by rw[D.2 l];exact O
 refine⟨by rw[J];exact(List.length_map _).symm,λm hm=>?_⟩;have C:m<((I.2.getD f fi0).2.2.1.getD l []).length:=by
  have:(flI (iP (I.2.getD f fi0).1) I.1 ((I.2.getD f fi0).2.2.1.getD l [])).length=((I.2.getD f fi0).2.2.1.getD l []).length:=List.length_map _;omega
 have e1:gl (gJ s f) l=flA (s.2.1.getD f zA).1 (gl (xG s f) l) (gl (xG s f) l).length:=qF _ _ (by rw[U];exact G);have e2:gp (flA (s.2.1.getD f zA).1 (gl (xG s f) l) (gl (xG s f) l).length) m=qC (s.2.1.getD f zA).1 (gp (gl (xG s f) l) m):=qF _ _ (by rw[O];exact C);rw[e1,e2,c4 m C,H];unfold qC;rw[(zW6 M).1,(zW6 M).2,yDJ,yDJ];have Z:gI (flI (iP (I.2.getD f fi0).1) I.1 ((I.2.getD f fi0).2.2.1.getD l [])) m=(aI3 (g3 I.1 (((I.2.getD f fi0).2.2.1.getD l []).getD m 0).toNat) (iP (I.2.getD f fi0).1).1,aI3 (g3 I.1 (((I.2.getD f fi0).2.2.1.getD l []).getD m 0).toNat) (iP (I.2.getD f fi0).1).2):=by
  unfold gI flI;exact tL (λk:Int=>(aI3 (g3 I.1 k.toNat) (iP (I.2.getD f fi0).1).1,aI3 (g3 I.1 k.toNat) (iP (I.2.getD f fi0).1).2)) 0 (0,0) C
 rw[Z];unfold ag pr;rw[Rat.one_mul,Rat.one_mul,<-Rat.intCast_add,<-Rat.intCast_add]
 rfl
theorem zFZ{f:Nat}(h:lM v I s)(hb:chI I=true)(hf:f<I.2.length):vZ (gJ s f) 0 1=0/\ouZ (gJ s f)=1/\∀l,l∈gJ s f->cJ l:=by
 have C:=mD h hb hf;unfold faB at C;replace C:=(Bool.and_eq_true _ _▸C).2;rw[Bool.and_eq_true] at C;exact zMD zod zod (zQQ h hb hf) C.2
theorem yH0{v u w:I3}(h:cP v u=cP v w):u=w:=by
 have G:=Rat.intCast_inj.1 (congrArg T3.x h);have D:=Rat.intCast_inj.1 (congrArg T3.y h);have C:=Rat.intCast_inj.1 (congrArg T3.z h);exact Prod.ext zoa (Prod.ext zoa zoa)
theorem zD8(h:lM v I s)(hb:chI I=true):gC s/\okS s:=by
 have G:=hb;unfold chI at G;replace G:=(Bool.and_eq_true _ _▸G).2;rw[Bool.and_eq_true,Bool.and_eq_true,Bool.and_eq_true,decide_eq_true_iff] at G;obtain⟨⟨⟨aa,_⟩,U⟩,Z⟩:=G;have ac:=oG h;have ab:=h.2.2.1;have H:∀f,f<s.2.1.length->nmP s f/\vfP (s.2.1.getD f zA).2.1:=λf C=>zW5 h hb zoa;have M:vaP (vO s):=⟨by rw[sP];omega,λf C=>by rw[sP] at C;rw[mE C];exact(H f C).2⟩;constructor
 · refine zP6 (yCV ?_ λf C=>⟨(H f C).2,(H f C).1⟩) (yCT λi k hk hi e=>?_) (yCX (λf C=>?_) λf C l hl k hk=>?_) (yC1 λf C=>?_) (yDG M ?_)
   · unfold zNF
     rw[h.2.1]
     show ¬((512<s.1.length\/256<s.2.1.length)\/1024<0)
     omega
   · rw[h.1,zIH zoa,zIH zoa] at e
     have h1:=List.all_eq_true.1 (List.all_eq_true.1 U i (List.mem_range.2 zoa)) k (List.mem_range.2 hk);rw[Bool.not_eq_true',decide_eq_false_iff_not] at h1;exact h1 (yH0 e)
   · obtain⟨r,O,J⟩:=zQP (h.2.2.2 f zoa)
     rw[J];refine zU9 O λe=>?_;have D:=mD h hb (f:=f) zoa;unfold faB at D;replace D:=(Bool.and_eq_true _ _▸D).2;rw[Bool.and_eq_true,Bool.and_eq_true,Bool.not_eq_true',decide_eq_false_iff_not] at D;exact D.1.2 e
   · obtain⟨r,O,J⟩:=zQP (h.2.2.2 f zoa)
     obtain⟨c1,c2⟩:=zQS h hb (f:=f) zoa;obtain⟨c3,c4⟩:=c2 l zoa;rw[c4 k zoa,J,yGG O,(zGK (mD h hb (f:=f) zoa) (l:=l) zoa).2 k zoa,Int.sub_self]
     rfl
   · exact⟨(zFZ h hb zoa).1,(zFZ h hb zoa).2.1⟩
   · rw[zIE h];exact Z
 · refine⟨⟨⟨by omega,by omega⟩,by rw[h.2.1];exact Nat.zero_le _⟩,λf C=>?_,λf C x hx=>(zFZ h hb zoa).2.2 x hx⟩
   have h1:=(H f C).2;exact⟨h1.1.2,λl hl=>(h1.2 l hl).1.2⟩
end
def yBI(u w:I3):Bool:=decide (u.1<w.1\/(u.1=w.1/\(u.2.1<w.2.1\/(u.2.1=w.2.1/\u.2.2<w.2.2))))
theorem yJQ(v u w:I3):lsP (cP v u) (cP v w)↔yBI u w=true:=by
 unfold lsP yBI cP;rw[decide_eq_true_iff];simp only[Rat.intCast_lt_intCast,Rat.intCast_inj];omega
def lsI(I:SI):List (List (List Int)):=I.2.map λf=>f.2.2.1
def zLP(I:SI):List Int:=orB (edZ (lsI I)) (λi k=>yBI (g3 I.1 i) (g3 I.1 k)) I.1.length
def ixJ(o:List Int)(n:Nat):Nat->List Int
  |0=>List.replicate n (0:Int)
  |i+1=>(ixJ o n i).set (o.getD i 0).toNat (i:Int)
def ixI(I:SI):List Int:=ixJ (zLP I) I.1.length (zLP I).length
def nwB(ix x:List Int):List Int:=zSG (qG (λq=>ix.getD (x.getD q 0).toNat 0) x.length)
def zU5{α:Type}(p:Nat->Bool)(g:Nat->α):Nat->List α
  |0=>[]
  |i+1=>zU5 p g i++(if p i then[g i] else[])
def zHE(p:Nat->Bool)(g:Nat->List Int):Nat->List (List Int)
  |0=>[]
  |i+1=>if p i then zHE p g i else iK (zHE p g i) (zDJ (λk=>decide (cE (g i) ((zHE p g i).getD k [])<0)) (zHE p g i).length) (g i)
def poB(P:List I3)(f:FI)(i:Nat):Bool:=decide (0<arG (flI (iP f.1) P (f.2.2.1.getD i [])) (f.2.2.1.getD i []).length)
def nfB(P:List I3)(ix:List Int)(f:FI):FI:=(f.1,f.2.1,zU5 (poB P f) (λi=>nwB ix (f.2.2.1.getD i [])) f.2.2.1.length++zHE (poB P f) (λi=>nwB ix (f.2.2.1.getD i [])) f.2.2.1.length,f.2.2.2)
def nmI(I:SI)(i:Nat):List Nat:=(I.2.getD i fi0).2.2.2
def nrI(I:SI):SI:=((zLP I).map λk=>g3 I.1 k.toNat,(nsB (nmI I) I.2.length).map λi=>nfB I.1 (ixI I) (I.2.getD i fi0))
def nmB(I:SI):Bool:=(List.range I.2.length).all λi=>(List.range i).all λk=>!decide (nmI I i=nmI I k)
theorem zQB{α:Type}{P:Nat->Prop}{p:Nat->Bool}(g:Nat->α):∀n,(∀i,i<n->(P i↔p i=true))->cH P g n=zU5 p g n
  |0,_=>rfl
  |n+1,h=>by
   have ih:=zQB g n λi hi=>h i zoa;have h1:=h n zoa;unfold cH zU5;rw[ih]
   by_cases e:P n
   · rw[if_pos e,if_pos (h1.1 e)]
   · rw[if_neg e,if_neg λe'=>e (h1.2 e')]
theorem zXU{s:Sd}{ix:List Int}{f:Nat}{p:Nat->Bool}{g:Nat->List Int}:∀n,(∀i,i<n->(zDO s f i↔p i=true)/\nfL s ix f i=g i)->s6 s ix f n=zHE p g n
  |0,_=>rfl
  |n+1,h=>by
   have ih:=zXU (s:=s) (ix:=ix) (f:=f) n λi hi=>h i zoa;obtain⟨h1,h2⟩:=h n zoa;unfold s6 zHE;rw[ih,h2,zBT (P:=zXV (g n) (zHE p g n)) (p:=λk=>decide (cE (g n) ((zHE p g n).getD k [])<0)) _ λk hk=>(show cE (g n) ((zHE p g n).getD k [])<0↔_ from decide_eq_true_iff.symm)]
   by_cases e:zDO s f n
   · rw[if_pos e,if_pos (h1.1 e)]
   · rw[if_neg e,if_neg λe'=>e (h1.2 e')]
theorem zNU{q:Rat}(e:yR q=0):q=0:=by
 rw[rO] at e
 split at e
 · assumption
 · split at e<;>exact absurd e zod
theorem yAL(a r:Rat)(pl:Pl):scW a (scW r pl)=scW (a*r) pl:=by
 unfold scW;refine Prod.ext ?_ ?_
 · show T3.mk (a*(r*_)) (a*(r*_)) (a*(r*_))=T3.mk (a*r*_) (a*r*_) (a*r*_)
   rw[Rat.mul_assoc,Rat.mul_assoc,Rat.mul_assoc]
 · show a*(r*_)=a*r*_
   rw[Rat.mul_assoc]
theorem yGU{r:Rat}(hr:0<r){n:Int}(hn:¬n=0):ivA (r*(n:Rat))*r=1/((if n<0 then -n else n:Int):Rat):=by
 have D:¬(n:Rat)=0:=λe=>hn (Rat.intCast_inj.1 e);have C:¬r=0:=λe=>absurd (e▸hr) zod;have hx:¬r*(n:Rat)=0:=λe=>(Rat.mul_eq_zero.1 e).elim C D;have J:iQ (r*(n:Rat))=r*((if n<0 then -n else n:Int):Rat):=by
  have h1:=zU8 hr n;unfold iQ;simp only[lW]
  by_cases h:n<0
  · rw[if_pos (h1.2 h),if_pos h,Rat.intCast_neg];grind
  · rw[if_neg (λe=>h (h1.1 e)),if_neg h]
 have G:¬((if n<0 then -n else n:Int):Rat)=0:=λe=>by
  have:=Rat.intCast_inj.1 e
  split at this<;>omega
 unfold ivA;rw[J,if_neg (λe=>(Rat.mul_eq_zero.1 e).elim C G)];generalize ((if n<0 then -n else n:Int):Rat)=m at G ⊢;have H:((1:Int):Rat)=1:=I;rw[H];grind
theorem yFN{v:I3}{f:FI}{r:Rat}(hr:0<r)(hn:¬f.1=z3)(hb:bd3 f.1=true):∃a:Int,(0<a/\a<=1000)/\scZ (scW r (cPl v f))=scW (1/(a:Rat)) (cPl v f):=by
 unfold bd3 at hb;rw[decide_eq_true_iff] at hb;have g:∀n:Int,-1000<=n/\n<=1000->¬yR (r*(n:Rat))=0->∃a:Int,(0<a/\a<=1000)/\scW (ivA (r*(n:Rat))) (scW r (cPl v f))=scW (1/(a:Rat)) (cPl v f):=λn h1 h2=>by
  have G:¬n=0:=λe=>h2 (by
   rw[e];exact if_pos (Rat.mul_zero _))
  refine⟨if n<0 then -n else n,by split<;>omega,?_⟩;rw[yAL,yGU hr G]
 unfold scZ
 split
 · rename_i e
   exact g _ hb.1 e
 · split
   · rename_i e
     exact g _ hb.2.1 e
   · split
     · rename_i e
       exact g _ hb.2.2 e
     · rename_i e1 e2 e3
       have h:=zU9 (v:=v) hr hn;refine absurd ?_ h;have D:=zNU (Classical.not_not.1 e1);have C:=zNU (Classical.not_not.1 e2);have z3:=zNU (Classical.not_not.1 e3);generalize (scW r (cPl v f)).1=t at D C z3;obtain⟨a,b,c⟩:=t;simp only at D C z3;rw[D,C,z3]
section
variable {v:I3}{I:SI}{s:Sd}
theorem zJ0(h:lM v I s)(hb:chI I=true):fL s=zLP I:=by
 have C:=oG h;unfold fL zLP;rw[zOO (lt:=λi k=>yBI (g3 I.1 i) (g3 I.1 k)) (n:=s.1.length) (λi k hi D=>by rw[h.1,zIH zoa,zIH zoa];exact yJQ _ _ _) _ (Nat.le_refl _),zIE h,C];rfl
theorem zQR(h:lM v I s)(hb:chI I=true):∀i,zHD s i=ixJ (zLP I) I.1.length i
  |0=>by unfold zHD ixJ;rw[oG h]
  |i+1=>by unfold zHD ixJ;rw[zQR h hb i,zJ0 h hb]
theorem yGI(h:lM v I s)(hb:chI I=true):ixZ s=ixI I:=by
 unfold ixZ ixI;rw[zQR h hb,zJ0 h hb]
theorem yGH{f:Nat}(h:lM v I s)(hb:chI I=true)(hf:f<I.2.length):zJ1 v (nfB I.1 (ixI I) (I.2.getD f fi0)) (nfF s (ixZ s) f):=by
 obtain⟨r,hr,M⟩:=zQP (h.2.2.2 f hf);have e:=(h.2.2.2 f hf).2;have e1:(s.2.1.getD f zA).2.1=(I.2.getD f fi0).2.2.1:=congrArg Prod.fst e;have e2:(s.2.1.getD f zA).2.2=(I.2.getD f fi0).2.2.2:=congrArg Prod.snd e;have C:=mD h hb hf;have O:¬(I.2.getD f fi0).1=z3:=by
  unfold faB at C;replace C:=(Bool.and_eq_true _ _▸C).2;rw[Bool.and_eq_true,Bool.and_eq_true,Bool.not_eq_true',decide_eq_false_iff_not] at C;exact C.1.2
 have U:=zQQ h hb hf;have D:∀i,i<(I.2.getD f fi0).2.2.1.length->(zDO s f i↔poB I.1 (I.2.getD f fi0) i=true):=λi hi=>by
  have hl:=U.2 i (by rw[List.length_map];exact hi);rw[tL (flI (iP (I.2.getD f fi0).1) I.1) [] [] hi] at hl;unfold zDO poB;rw[zEB zod zod hl,iZ,decide_eq_true_iff];have:(flI (iP (I.2.getD f fi0).1) I.1 ((I.2.getD f fi0).2.2.1.getD i [])).length=((I.2.getD f fi0).2.2.1.getD i []).length:=List.length_map _;rw[this]
 have G:∀i,nfL s (ixZ s) f i=nwB (ixI I) ((I.2.getD f fi0).2.2.1.getD i []):=λi=>by
  unfold nfL nwB nwL;rw[yGI h hb,e1]
 have Z:bd3 (I.2.getD f fi0).1=true:=by
  unfold faB at C;exact(Bool.and_eq_true _ _▸(Bool.and_eq_true _ _▸C).1).1
 obtain⟨r',J,H⟩:=yFN (v:=v) hr O Z;constructor
 · refine⟨r',J,?_⟩
   show scZ (s.2.1.getD f zA).1=_
   rw[M,H];rfl
 · refine Prod.ext ?_ e2
   show ouL s (ixZ s) f (s.2.1.getD f zA).2.1.length++s6 s (ixZ s) f (s.2.1.getD f zA).2.1.length=_
   rw[e1];have g1:ouL s (ixZ s) f (I.2.getD f fi0).2.2.1.length=zU5 (poB I.1 (I.2.getD f fi0)) (λi=>nwB (ixI I) ((I.2.getD f fi0).2.2.1.getD i [])) (I.2.getD f fi0).2.2.1.length:=by
    unfold ouL;rw[zQB (nfL s (ixZ s) f) _ D]
    congr 1
    funext i
    exact G i
   rw[g1,zXU (p:=poB I.1 (I.2.getD f fi0)) (g:=λi=>nwB (ixI I) ((I.2.getD f fi0).2.2.1.getD i [])) _ λi hi=>⟨D i hi,G i⟩]
   rfl
theorem zW4(h:lM v I s)(hb:chI I=true)(hn:nmB I=true):lM v (nrI I) (nrP s,nrF s,nrE s):=by
 have G:=(zD8 h hb).1;have hl:=oG h;have H:=zJ0 h hb;have D:j8 s s.2.1.length=(nsB (nmI I) I.2.length).map λi=>nfF s (ixZ s) i:=by
  rw[h.2.2.1];refine zJW (n:=I.2.length) (λi hi=>by show(s.2.1.getD i zA).2.2=_;exact congrArg Prod.snd (h.2.2.2 i hi).2) (λi hi k J=>?_) _ (Nat.le_refl _);have h1:=List.all_eq_true.1 (List.all_eq_true.1 hn i (List.mem_range.2 hi)) k (List.mem_range.2 J);rw[Bool.not_eq_true',decide_eq_false_iff_not] at h1;exact h1
 refine⟨?_,?_,?_,?_⟩
 · show nrP s=_
   unfold nrP;rw[if_pos G];unfold zWS;refine zGL zT (by rw[yZ,H];show _=(((zLP I).map _).map _).length;rw[List.length_map,List.length_map]) λi hi=>?_;rw[yZ] at hi;have hg:=mZ (s:=s) (i:=s.1.length) (k:=i) hi;rw[qF _ _ hi]
   show _=(((zLP I).map λk=>g3 I.1 k.toNat).map (cP v)).getD i zT
   rw[H] at hi;rw[tL (cP v) z3 zT (by rw[List.length_map];exact hi),tL (λk:Int=>g3 I.1 k.toNat) 0 z3 hi,<-H,h.1];have:((fL s).getD i 0)=(aG s s.1.length).getD i 0:=rfl;exact zIH zoa
 · show nrE s=[]
   unfold nrE;rw[if_pos G];exact h.2.1
 · show(nrF s).length=((nsB (nmI I) I.2.length).map _).length
   unfold nrF;rw[if_pos G,D,List.length_map,List.length_map]
 · intro f O
   have C:f<(nsB (nmI I) I.2.length).length:=by
    have:((nsB (nmI I) I.2.length).map λi=>nfB I.1 (ixI I) (I.2.getD i fi0)).length=_:=List.length_map _;have M:f<((nsB (nmI I) I.2.length).map λi=>nfB I.1 (ixI I) (I.2.getD i fi0)).length:=O;omega
   have hx:=zJX _ _ _ (kY (d:=0) C);have Z:(nrI I).2.getD f fi0=nfB I.1 (ixI I) (I.2.getD ((nsB (nmI I) I.2.length).getD f 0) fi0):=tL (λi=>nfB I.1 (ixI I) (I.2.getD i fi0)) 0 fi0 C;have U:(nrF s).getD f zA=nfF s (ixZ s) ((nsB (nmI I) I.2.length).getD f 0):=by
    unfold nrF;rw[if_pos G,D];exact tL (λi=>nfF s (ixZ s) i) 0 zA C
   show zJ1 v ((nrI I).2.getD f fi0) ((nrF s).getD f zA)
   rw[Z,U];exact yGH h hb hx
end
def fdI(B:List PI)(p:PI):Nat->Int
  |0=>-1
  |j+1=>if B.getD j (0,0)=p then(j:Int) else fdI B p j
def adI(B:List PI)(p:PI):List PI:=if fdI B p B.length<0 then B++[p] else B
def anI(B:List PI)(p:PI):Int:=if fdI B p B.length<0 then(B.length:Int) else fdI B p B.length
def plI(B x:List PI):Nat->List PI
  |0=>B
  |k+1=>adI (plI B x k) (x.getD k (0,0))
def pnI(B x:List PI):Nat->List Int:=qG λk=>anI (plI B x k) (x.getD k (0,0))
def zVS(T:List (List PI)):Nat->List PI
  |0=>[]
  |i+1=>plI (zVS T i) (T.getD i []) (T.getD i []).length
def bsI(T:List (List PI)):List PI:=zVS T T.length
def bxI(T:List (List PI)):List (List Int):=qG (λi=>pnI (zVS T i) (T.getD i []) (T.getD i []).length) T.length
def ppI(T:List (List PI))(h:Int):List I3:=qG (λi=>(((bsI T).getD (i%(bsI T).length) (0,0)).1,((bsI T).getD (i%(bsI T).length) (0,0)).2,if((bsI T).length:Int)<=(i:Int) then h else 0)) (2*(bsI T).length)
def xaI(T:List (List PI))(i k:Nat):Int:=((bxI T).getD i []).getD k 0
def xbI(T:List (List PI))(i k:Nat):Int:=((bxI T).getD i []).getD ((k+1)%((bxI T).getD i []).length) 0
def snI(T:List (List PI))(h:Int)(i k:Nat):I3:=((g3 (ppI T h) (xbI T i k).toNat).2.1-(g3 (ppI T h) (xaI T i k).toNat).2.1,-((g3 (ppI T h) (xbI T i k).toNat).1-(g3 (ppI T h) (xaI T i k).toNat).1),0)
def sdI(T:List (List PI))(h:Int)(i k:Nat):FI:=(snI T h i k,dt3 (snI T h i k) (g3 (ppI T h) (xaI T i k).toNat),[[xaI T i k,xbI T i k,xbI T i k+((bsI T).length:Int),xaI T i k+((bsI T).length:Int)]],[115,48+i,46,48+k])
def prI(T:List (List PI))(h:Int):SI:=(ppI T h,tO (λi=>qG (λk=>sdI T h i k) ((bxI T).getD i []).length) (bxI T).length++
 [((0,0,-1),0,qG (λi=>zK9 ((bxI T).getD i []) ((bxI T).getD i []).length) (bxI T).length,[98,111,116,116,111,109]),
  ((0,0,1),h,qG (λi=>qG (λk=>((bxI T).getD i []).getD k 0+((bsI T).length:Int)) ((bxI T).getD i []).length) (bxI T).length,[116,111,112])])
def sb3(u w:I3):I3:=(u.1-w.1,u.2.1-w.2.1,u.2.2-w.2.2)
def cx3(a b:I3):I3:=(a.2.1*b.2.2-a.2.2*b.2.1,a.2.2*b.1-a.1*b.2.2,a.1*b.2.1-a.2.1*b.1)
def th3(a b c:I3):I3:=cx3 (sb3 b a) (sb3 c a)
def ng3(n:I3):I3:=(-n.1,-n.2.1,-n.2.2)
def tsI(a b c:I3)(i k:Int)(nm:List Nat):FI:=(th3 a b c,dt3 (th3 a b c) a,[[i,k,3]],nm)
def pyI(A B C T:I3):SI:=([A,B,C,T],[tsI A B T 0 1 [115,48],tsI B C T 1 2 [115,49],tsI C A T 2 0 [115,50],(ng3 (th3 A B C),-dt3 (th3 A B C) A,[[2,1,0]],[98,97,115,101])])
def teI(p c q e f g:Nat):SI:=pyI (0,0,0) (1+p,0,0) (c,1+q,0) (e,f,1+g)
def bxJ(p q r:Int):SI:=([(0,0,0),(0,0,r),(0,q,0),(0,q,r),(p,0,0),(p,0,r),(p,q,0),(p,q,r)],[((-1,0,0),0,[[0,1,3,2]],[120,48]),((1,0,0),p,[[4,6,7,5]],[120,49]),((0,-1,0),0,[[0,4,5,1]],[121,48]),((0,1,0),q,[[2,3,7,6]],[121,49]),((0,0,-1),0,[[0,2,6,4]],[122,48]),((0,0,1),r,[[1,5,7,3]],[122,49])])
def baT:List (List (List PI)):=[[[(0,0),(2,0),(2,1),(1,1),(1,2),(0,2)]],[[(0,0),(3,0),(3,3),(0,3)],[(1,1),(1,2),(2,2),(2,1)]],[[(0,0),(3,0),(3,3),(0,3)],[(1,1),(0,0),(1,2)]],[[(0,0),(1,0),(2,0),(2,2),(0,1)]]]
def trT(a b c:Nat):List (List PI):=[[(0,0),((1+a:Nat),0),((b:Nat),(1+c:Nat))]]
def zCD(I:SI):Bool:=chI I&&nmB I&&chI (nrI I)
def teB(p c q:Nat):Bool:=(List.range 3).all λe=>(List.range 3).all λf=>(List.range 3).all λg=>zCD (teI p c q e f g)
end Bk
namespace Bk
open Go Go.RowKit
open Classical
theorem zEW{α:Type}{ρ σ:Rp α}(P:α->Prop)(hn:ρ.n=σ.n)(k:∀{h cs x},ρ.R h cs x->P x->σ.R h cs x){h:Mem}{cs:List Value}{xs:List α}(r:(rpS ρ).R h cs xs)(hp:∀x,x∈xs->P x):(rpS σ).R h cs xs:=by
 obtain⟨v,ds,e,s,rl⟩:=r;refine⟨v,ds,e,hn▸s,?_⟩
 clear s e
 induction xs generalizing ds with
 |nil=>exact rl
 |cons x xs ih=>
  obtain⟨a,b,e,ra,rb⟩:=rl;exact⟨a,b,e,k ra (hp x (.head _)),ih (λy hy=>hp y (.tail _ hy)) b rb⟩
def sh3(k:Nat)(p:T3 Rat):Prop:=lq p.x<=k/\lq p.y<=k/\lq p.z<=k
end Bk
namespace Bk
open Classical
theorem zQ1{s:Sd}(h:gC s)(p:Pt):inM (tK s) p=inZ s p:=by
 unfold inM inZ;rw[zI0 h]
 by_cases ho:onB s p
 · rw[if_pos ho,if_pos ((rH h p).2 ho)]
 · rw[if_neg ho,if_neg λe=>ho ((rH h p).1 e)]
def smS(k m n j:Nat)(s:Sd):Prop:=(∀p,p∈s.1->lqP k p)/\(∀f,f∈s.2.1->lqP m f.1.1/\lq f.1.2<=n)/\∀e,e∈s.2.2->lq e.2.2<=j
section
variable {h:Mem}{cs:List Go.Value}
theorem zX8{M N m n:Nat}{f:Fc}(r:(rpP (rpP (rpT (rpQ M)) (rpQ N)) (rpP (rpS (rpS rpI)) kS)).R h cs f)(hp:lqP m f.1.1/\lq f.1.2<=n):(rpP (rpP (rpT (rpQ m)) (rpQ n)) (rpP (rpS (rpS rpI)) kS)).R h cs f:=by
 obtain⟨a,b,e,⟨H,G,D,r1,r2⟩,C⟩:=r;exact⟨a,b,e,⟨H,G,D,yJC r1 I hp.1,yJD r2 I hp.2⟩,C⟩
theorem zYB{J j:Nat}{x:En}(r:(rpP rpI (rpP rpI (rpQ J))).R h cs x)(hp:lq x.2.2<=j):(rpP rpI (rpP rpI (rpQ j))).R h cs x:=by
 obtain⟨a,b,e,G,c,d,H,D,C⟩:=r;exact⟨a,b,e,G,c,d,H,D,yJD C I hp⟩
theorem zAS{K M N J k m n j:Nat}{s:Sd}(r:(rpP (rpS (rpT (rpQ K))) (rpP (rpS (rpP (rpP (rpT (rpQ M)) (rpQ N)) (rpP (rpS (rpS rpI)) kS))) (rpS (rpP rpI (rpP rpI (rpQ J)))))).R h cs s)(hp:smS k m n j s):
 (rpP (rpS (rpT (rpQ k))) (rpP (rpS (rpP (rpP (rpT (rpQ m)) (rpQ n)) (rpP (rpS (rpS rpI)) kS))) (rpS (rpP rpI (rpP rpI (rpQ j)))))).R h cs s:=by
 obtain⟨a,b,e,G,c,d,H,D,C⟩:=r;exact⟨a,b,e,zEW (ρ:=rpT (rpQ K)) (σ:=rpT (rpQ k)) (lqP k) I (λr hp=>yJC r I hp) G hp.1,c,d,H,
  zEW (ρ:=rpP (rpP (rpT (rpQ M)) (rpQ N)) (rpP (rpS (rpS rpI)) kS)) (σ:=rpP (rpP (rpT (rpQ m)) (rpQ n)) (rpP (rpS (rpS rpI)) kS)) (λf=>lqP m f.1.1/\lq f.1.2<=n) I zX8 D hp.2.1,
  zEW (ρ:=rpP rpI (rpP rpI (rpQ J))) (σ:=rpP rpI (rpP rpI (rpQ j))) (λx=>lq x.2.2<=j) I zYB C hp.2.2⟩
end
section
variable {a b:Pt}
theorem zXD{k:Nat}{p:Pt}(h:lqP k p)(i:Nat):lq (p.at i)<=k:=by
 match i with
 |0=>exact h.1
 |1=>exact h.2.1
 |_+2=>exact h.2.2
theorem yI0{k:Nat}(hk:2<=k)(ha:lqP k a)(hb:lqP k b):smS k 2 (k+2) 0 (bxS a b):=by
 have h1:lq (1:Rat)<=2:=sY 1 zod zod;have h2:lq (-1:Rat)<=2:=sY (-1) zod zod;have h0:=zBC;refine⟨λp G=>?_,λf C=>?_,λe M=>by cases M⟩
 · obtain⟨u,_,rfl⟩:=List.mem_map.1 G
   obtain⟨J,H,u3⟩:=u;have g:∀(x:Bool) (p q:Rat),lq p<=k->lq q<=k->lq (if x then q else p)<=k:=λx p q G O=>by split<;>assumption
   exact⟨g J _ _ ha.1 hb.1,g H _ _ ha.2.1 hb.2.1,g u3 _ _ ha.2.2 hb.2.2⟩
 · have C:f∈fB3 a b:=C
   obtain⟨i,hi,rfl⟩:=zF1 zA C;have e:=(dQ (a:=a) (b:=b) (f:=i) hi).2;rw[e];generalize kZ i=d;obtain⟨d,x⟩:=d;constructor
   · have g:∀c:Rat,lq c<=2->lqP 2 ((zT).set d c):=λc D=>by
      match d with
      |0=>exact⟨D,by show lq 0<=2;omega,by show lq 0<=2;omega⟩
      |1=>exact⟨by show lq 0<=2;omega,D,by show lq 0<=2;omega⟩
      |_+2=>exact⟨by show lq 0<=2;omega,by show lq 0<=2;omega,D⟩
     refine g _ ?_
     split<;>assumption
   · have h3:=iI (if x then 1 else -1) (if x then b.at d else a.at d)
     have Z:lq (if x then 1 else -1:Rat)<=2:=by split<;>assumption
     have U:lq (if x then b.at d else a.at d)<=k:=by
      split
      · exact zXD hb d
      · exact zXD ha d
     show lq ((if x then 1 else -1)*(if x then b.at d else a.at d))<=k+2
     omega
structure BoxL(k:Nat)(a b:Pt):Prop where
 lq:lqP k b
 ok:eP a b
 h:blH a b
 e:blE a b=0
 oks:okS (bkS a b)
 snd:gC (bkS a b)
 sm:smS k 2 (k+2) 0 (bkS a b)
 onb:∀p,onA (tK (bkS a b)) p↔(∀u,u<3->kI a b p u)/\¬∀u,u<3->sI a b p u
 wd:∀p,¬onA (tK (bkS a b)) p->wdM (tK (bkS a b)) p=cR (∀u,u<3->sI a b p u)
 inb:∀p,inM (tK (bkS a b)) p=if ∀u,u<3->sI a b p u then 1 else if ∀u,u<3->kI a b p u then 0 else -1
theorem zHR{i:Nat}(h:i<3):i=0\/i=1\/i=2:=by omega
theorem boxl{k:Nat}(hk:2<=k)(ha:lqP k a)(hb:lqP k b)(h:∀u,u<3->a.at u<b.at u):BoxL k a b:=by
 have C:a.x<b.x/\a.y<b.y/\a.z<b.z:=⟨h 0 zod,h 1 zod,h 2 zod⟩;have D:∀i,a.at i<b.at i:=λi=>by
  match i with
  |0=>exact C.1
  |1=>exact C.2.1
  |_+2=>exact C.2.2
 have G:eP a b:=by
  intro u M;rw[s7];exact Rat.not_le.2 (h u M)
 have e:=zRR G;have H:=zUT C;have J:∀p,onA (tK (bxS a b)) p↔(∀u,u<3->kI a b p u)/\¬∀u,u<3->sI a b p u:=λp=>(rH H p).trans (zQL D p);refine⟨hb,G,zYY G,zY0 G,?_,?_,?_,?_,?_,?_⟩
 · rw[e]
   exact zPV C ⟨by decide,show 6<=256 by decide⟩ λf U=>⟨_,(dQ (a:=a) (b:=b) U).1⟩
 · rw[e];exact H
 · rw[e];exact yI0 hk ha hb
 · rw[e];exact J
 · rw[e]
   intro p O;rw[zI0 H];exact zP2 D λZ=>O ((rH H p).2 Z)
 · rw[e]
   intro p;rw[zQ1 H];exact yJW D p
end
structure SaneL:Prop where
 b:BoxL 2 (pI 0 0 0) (pI 1 1 1)
 o1:¬onA (tK (bkS (pI 0 0 0) (pI 1 1 1))) (T3.mk (jW 1 2) (jW 1 2) (jW 1 2))
 w1:wdM (tK (bkS (pI 0 0 0) (pI 1 1 1))) (T3.mk (jW 1 2) (jW 1 2) (jW 1 2))=1
 o2:¬onA (tK (bkS (pI 0 0 0) (pI 1 1 1))) (pI 2 0 0)
 w2:wdM (tK (bkS (pI 0 0 0) (pI 1 1 1))) (pI 2 0 0)=0
 i3:inM (tK (bkS (pI 0 0 0) (pI 1 1 1))) (pI 1 1 1)=0
theorem fF:SaneL:=by
 have O:lqP 2 (pI 0 0 0):=⟨sY _ zod zod,sY _ zod zod,sY _ zod zod⟩;have l1:lqP 2 (pI 1 1 1):=⟨sY _ zod zod,sY _ zod zod,sY _ zod zod⟩;have eh:jW 1 2=1/2:=I;have h:=boxl (a:=pI 0 0 0) (b:=pI 1 1 1) (Nat.le_refl 2) O l1 λu C=>by
  rcases zHR C with rfl|rfl|rfl
  · show((0:Int):Rat)<((1:Int):Rat);decide
  · show((0:Int):Rat)<((1:Int):Rat);decide
  · show((0:Int):Rat)<((1:Int):Rat);decide
 have D:∀u,u<3->sI (pI 0 0 0) (pI 1 1 1) (T3.mk (jW 1 2) (jW 1 2) (jW 1 2)) u:=λu C=>by
  rw[eh]
  rcases zHR C with rfl|rfl|rfl
  · show((0:Int):Rat)<1/2/\1/2<((1:Int):Rat);decide +kernel
  · show((0:Int):Rat)<1/2/\1/2<((1:Int):Rat);decide +kernel
  · show((0:Int):Rat)<1/2/\1/2<((1:Int):Rat);decide +kernel
 have Z:¬∀u,u<3->kI (pI 0 0 0) (pI 1 1 1) (pI 2 0 0) u:=λe=>by
  have:=(e 0 zod).2;exact absurd (show((2:Int):Rat)<=((1:Int):Rat) from this) zod
 have M:¬∀u,u<3->sI (pI 0 0 0) (pI 1 1 1) (pI 2 0 0) u:=λe=>by
  have:=(e 0 zod).2;exact absurd (show((2:Int):Rat)<((1:Int):Rat) from this) zod
 have U:∀u,u<3->kI (pI 0 0 0) (pI 1 1 1) (pI 1 1 1) u:=λu C=>by
  rcases zHR C with rfl|rfl|rfl
  · show((0:Int):Rat)<=((1:Int):Rat)/\((1:Int):Rat)<=((1:Int):Rat);decide
  · show((0:Int):Rat)<=((1:Int):Rat)/\((1:Int):Rat)<=((1:Int):Rat);decide
  · show((0:Int):Rat)<=((1:Int):Rat)/\((1:Int):Rat)<=((1:Int):Rat);decide
 have J:¬∀u,u<3->sI (pI 0 0 0) (pI 1 1 1) (pI 1 1 1) u:=λe=>by
  have:=(e 0 zod).2;exact absurd (show((1:Int):Rat)<((1:Int):Rat) from this) zod
 have H:¬onA (tK (bkS (pI 0 0 0) (pI 1 1 1))) (T3.mk (jW 1 2) (jW 1 2) (jW 1 2)):=λe=>((h.onb _).1 e).2 D;have G:¬onA (tK (bkS (pI 0 0 0) (pI 1 1 1))) (pI 2 0 0):=λe=>Z ((h.onb _).1 e).1;refine⟨h,H,?_,G,?_,?_⟩
 · rw[h.wd _ H,aX D]
 · rw[h.wd _ G,kB M]
 · rw[h.inb,if_neg J,if_pos U]
def bxW(a b p:Pt)(i:Nat)(w:Int):Prop:=(∀u,u<i->kI a b p u)/\((w=1/\∀u,u<i->sI a b p u)\/(w=0/\¬∀u,u<i->sI a b p u))
def thN(a b c:Pt):Pt:=xH (wV b a) (wV c a)
noncomputable def thZ(a b c:Pt):Pl:=if thN a b c=zT then zSO else(thN a b c,xE (thN a b c) a)
noncomputable def thE(a b c:Pt):Int:=if thN a b c=zT then 9 else 0
theorem yIQ{a b c:Pt}(h:thN a b c=zT):thZ a b c=zSO/\thE a b c=9:=⟨if_pos h,if_pos h⟩
theorem zUJ{a b c:Pt}(h:¬thN a b c=zT):thZ a b c=(thN a b c,xE (thN a b c) a)/\thE a b c=0:=⟨if_neg h,if_neg h⟩
def opP(pl:Pl):Pl:=(T3.mk (((-1:Int):Rat)*pl.1.x) (((-1:Int):Rat)*pl.1.y) (((-1:Int):Rat)*pl.1.z),-pl.2)
section
variable (l:List Pt)(t:Pt)
noncomputable def pyX(i:Nat):Fc:=(thZ (l.getD i zT) (l.getD ((i+1)%l.length) zT) t,[[(i:Int),(((i+1)%l.length:Nat):Int),(l.length:Int)]],[115]++qN (((i:Int):Int):Rat))
noncomputable def pyT:Nat->List Fc:=qG (pyX l t)
def pyL(n:Nat):Nat->List Int:=qG λi=>(n:Int)-1-(i:Int)
noncomputable def pyB:Fc:=(opP (thZ (l.getD 0 zT) (l.getD 1 zT) (l.getD 2 zT)),[pyL l.length l.length],[98,97,115,101])
noncomputable def pyR:Sd:=(l++[t],pyT l t l.length++[pyB l],[])
def pyH:Prop:=((3<=l.length/\l.length<=64)/\¬thN (l.getD 0 zT) (l.getD 1 zT) (l.getD 2 zT)=zT)/\(zGQ (thZ (l.getD 0 zT) (l.getD 1 zT) (l.getD 2 zT)) l/\0<sdZ (thZ (l.getD 0 zT) (l.getD 1 zT) (l.getD 2 zT)) t)/\okS (pyR l t)
end
def bdV(v:I3):Prop:=(-1000<=v.1/\v.1<=1000)/\(-1000<=v.2.1/\v.2.1<=1000)/\(-1000<=v.2.2/\v.2.2<=1000)
theorem zRS{u:I3}:bd3 u=true↔bdV u:=by unfold bd3 bdV;rw[decide_eq_true_iff]
theorem zD9{a n:Int}(ha:0<a/\a<=1000)(hn:-9223372036854775808<=n)(hn':n<9223372036854775808):lq (1/(a:Rat)*(n:Rat))<=2:=by
 have h:=zBD hn hn' (d:=a) zoa zoa;have e:jW n a=1/(a:Rat)*(n:Rat):=by
  unfold jW;rw[Rat.div_def,Rat.div_def,Rat.one_mul,Rat.mul_comm]
 rw[<-e];exact h
theorem zO5{a b:Int}(ha:-1000<=a/\a<=1000)(hb:-1000<=b/\b<=1000):-1000000<=a*b/\a*b<=1000000:=by
 have h1:=Int.mul_nonneg (show 0<=1000-a by omega) (show 0<=1000-b by omega);have h2:=Int.mul_nonneg (show 0<=1000+a by omega) (show 0<=1000+b by omega);have h3:=Int.mul_nonneg (show 0<=1000-a by omega) (show 0<=1000+b by omega);have C:=Int.mul_nonneg (show 0<=1000+a by omega) (show 0<=1000-b by omega);have J:(1000-a)*(1000-b)=1000000-1000*a-1000*b+a*b:=by grind
 have H:(1000+a)*(1000+b)=1000000+1000*a+1000*b+a*b:=by grind
 have G:(1000-a)*(1000+b)=1000000-1000*a+1000*b-a*b:=by grind
 have D:(1000+a)*(1000-b)=1000000+1000*a-1000*b-a*b:=by grind
 omega
theorem yJ5{n u:I3}(hn:bdV n)(hu:bdV u):-3000000<=dt3 n u/\dt3 n u<=3000000:=by
 have h1:=zO5 hn.1 hu.1;have h2:=zO5 hn.2.1 hu.2.1;have h3:=zO5 hn.2.2 hu.2.2;unfold dt3;omega
theorem yE2{v:I3}{I:SI}{s:Sd}(h:lM v I s)(hb:chI I=true)(hv:bdV v):smS 2 2 2 1 s:=by
 refine⟨λp H=>?_,λf O=>?_,λe J=>?_⟩
 · rw[h.1] at H
   obtain⟨u,M,rfl⟩:=List.mem_map.1 H;have h1:bdV u:=zRS.1 (List.all_eq_true.1 (by unfold chI at hb;exact(Bool.and_eq_true _ _▸hb).1) u M);unfold bdV at h1 hv;exact⟨sY _ zoa zoa,sY _ zoa zoa,sY _ zoa zoa⟩
 · obtain⟨i,hi,rfl⟩:=zF1 zA O
   have C:i<I.2.length:=by rw[<-h.2.2.1];exact hi
   obtain⟨a,G,e⟩:=(h.2.2.2 i C).1;have D:=mD h hb C;unfold faB at D;have h1:=(Bool.and_eq_true _ _▸(Bool.and_eq_true _ _▸D).1);have h2:bdV (I.2.getD i fi0).1:=zRS.1 h1.1;have h3:-1000<=(I.2.getD i fi0).2.1/\(I.2.getD i fi0).2.1<=1000:=of_decide_eq_true h1.2;have U:=yJ5 h2 hv;rw[e];unfold bdV at h2;exact⟨⟨zD9 G zoa zoa,zD9 G zoa zoa,zD9 G zoa zoa⟩,zD9 G zoa zoa⟩
 · rw[h.2.1] at J;cases J
theorem yF4(pl:Pl):scW (1/((1:Int):Rat)) pl=pl:=by
 have e:1/((1:Int):Rat)=1:=by decide +kernel
 rw[e];unfold scW;simp only[Rat.one_mul]
theorem lY{v:I3}{f:FI}{x:Fc}(h1:x.1=cPl v f)(h2:x.2=f.2.2):zJ1 v f x:=⟨⟨1,by decide,by rw[yF4];exact h1⟩,h2⟩
theorem yH5{x y z p q r:Int}(hp:0<p)(hq:0<q)(hr:0<r):lM (x,y,z) (bxJ p q r) (bkS (pI x y z) (pI (x+p) (y+q) (z+r))):=by
 have g:∀a b:Int,0<b->(a:Rat)<((a+b:Int):Rat):=λa b h=>Rat.intCast_lt_intCast.2 zoa;have C:eP (pI x y z) (pI (x+p) (y+q) (z+r)):=by
  intro u D;rw[s7];refine Rat.not_le.2 ?_
  rcases zHR D with rfl|rfl|rfl
  · exact g x p hp
  · exact g y q hq
  · exact g z r hr
 rw[zRR C];refine⟨?_,I,I,λf H=>?_⟩
 · show uB1.map (cU _ _)=_
   simp[uB1,cU,cB,pI,cP,bxJ]
 · have G:f<6:=H
   have e0:((0:Int):Rat)=0:=I;have J:((1:Int):Rat)=1:=I;have:f=0\/f=1\/f=2\/f=3\/f=4\/f=5:=by omega
   rcases this with rfl|rfl|rfl|rfl|rfl|rfl<;>
    (refine lY (Prod.ext ?_ ?_) I<;>simp[bxS,fB3,plD,dN,bxJ,cPl,nr3,dt3,pI,T3.set,T3.at,e0,J,Rat.intCast_add,Rat.intCast_neg]<;>grind)
theorem zMX{α:Type}(d:α)(l k:List α)(i:Nat):(l++k).getD i d=if i<l.length then l.getD i d else k.getD (i-l.length) d:=by
 rw[List.getD_eq_getElem?_getD,List.getElem?_append]
 split<;>rw[List.getD_eq_getElem?_getD]
def zHB(v:I3)(B:List FI)(A:List Fc):Prop:=A.length=B.length/\∀f,f<B.length->zJ1 v (B.getD f fi0) (A.getD f zA)
section
variable {v:I3}
theorem zJ2{B B':List FI}{A A':List Fc}(h:zHB v B A)(h':zHB v B' A'):zHB v (B++B') (A++A'):=by
 refine⟨by rw[lAz,lAz,h.1,h'.1],λf C=>?_⟩;rw[lAz] at C;rw[zMX,zMX,h.1]
 by_cases e:f<B.length
 · rw[if_pos e,if_pos e];exact h.2 f e
 · rw[if_neg e,if_neg e];exact h'.2 _ zoa
theorem zW8:zHB v [] []:=⟨rfl,λf hf=>absurd hf (Nat.not_lt_zero _)⟩
theorem zPC{b:FI}{a:Fc}(h:zJ1 v b a):zHB v [b] [a]:=⟨rfl,λf hf=>by
 have:f=0:=by have:f<1:=hf;omega
 subst this;exact h⟩
theorem zW9{g:Nat->FI}{f:Nat->Fc}:∀n,(∀i,i<n->zJ1 v (g i) (f i))->zHB v (qG g n) (qG f n)
  |0,_=>zW8
  |n+1,h=>zJ2 (zW9 n λi hi=>h i zoa) (zPC (h n zoa))
theorem zQU{g:Nat->List FI}{f:Nat->List Fc}:∀n,(∀i,i<n->zHB v (g i) (f i))->zHB v (tO g n) (tO f n)
  |0,_=>zW8
  |n+1,h=>zJ2 (zQU n λi hi=>h i zoa) (h n zoa)
end
def c2(x y:Int)(u:PI):Pt:=T3.mk ((x+u.1:Int):Rat) ((y+u.2:Int):Rat) (0:Rat)
def baL(x y:Int)(T:List (List PI)):List (List Pt):=T.map λs=>s.map (c2 x y)
section
variable {x y:Int}
theorem zUL(u w:PI):zI6 (c2 x y u) (c2 x y w)↔u=w:=by
 unfold zI6 c2;rw[Rat.intCast_inj,Rat.intCast_inj];constructor
 · rintro⟨h1,h2⟩;exact Prod.ext zoa zoa
 · rintro rfl;exact⟨I,I⟩
theorem zGU(B:List PI){j:Nat}(h:j<B.length):(B.map (c2 x y)).getD j zT=c2 x y (B.getD j (0,0)):=tL _ _ _ h
theorem zX7(B:List PI)(p:PI):∀j,j<=B.length->dU (B.map (c2 x y)) (c2 x y p) j=fdI B p j
  |0,_=>rfl
  |j+1,h=>by
   unfold dU fdI;rw[zX7 B p j zoa,zGU B zoa]
   by_cases e:B.getD j (0,0)=p
   · rw[if_pos e,if_pos ((zUL _ _).2 e)]
   · rw[if_neg e,if_neg λe'=>e ((zUL _ _).1 e')]
theorem zZL(B:List PI)(p:PI):adB (B.map (c2 x y)) (c2 x y p)=(adI B p).map (c2 x y)/\adN (B.map (c2 x y)) (c2 x y p)=anI B p:=by
 unfold adB adN adI anI fdZ;rw[List.length_map,zX7 B p _ (Nat.le_refl _)];constructor
 · split
   · rw[List.map_append];rfl
   · rfl
 · rfl
theorem zOA(B s:List PI):∀k,k<=s.length->plB (B.map (c2 x y)) (s.map (c2 x y)) k=(plI B s k).map (c2 x y)
  |0,_=>rfl
  |k+1,h=>by
   unfold plB plI;rw[zOA B s k zoa,zGU s zoa,(zZL _ _).1]
theorem yFZ(B s:List PI):plN (B.map (c2 x y)) (s.map (c2 x y)) s.length=pnI B s s.length:=iH _ λk hk=>by
 rw[zOA B s k zoa,zGU s hk,(zZL _ _).2]
theorem zGY(T:List (List PI)){i:Nat}(h:i<T.length):(baL x y T).getD i []=(T.getD i []).map (c2 x y):=tL _ _ _ h
theorem zN5(T:List (List PI)):∀i,i<=T.length->ptB (baL x y T) i=(zVS T i).map (c2 x y)
  |0,_=>rfl
  |i+1,h=>by
   unfold ptB zVS;rw[zN5 T i zoa,zGY T zoa,List.length_map];exact zOA _ _ _ (Nat.le_refl _)
theorem zC1(T:List (List PI)):(baL x y T).length=T.length:=List.length_map _
theorem zYT(T:List (List PI)):bsZ (baL x y T)=(bsI T).map (c2 x y):=by
 unfold bsZ bsI;rw[zC1];exact zN5 T _ (Nat.le_refl _)
theorem oW(T:List (List PI)):bxZ (baL x y T)=bxI T:=by
 unfold bxZ bxI;rw[zC1];exact iH _ λi hi=>by rw[zN5 T i zoa,zGY T hi,List.length_map];exact yFZ _ _
theorem dS(T:List (List PI)):(bsZ (baL x y T)).length=(bsI T).length:=by rw[zYT,List.length_map]
section
variable {z h:Int}{T:List (List PI)}
theorem zVW:ppZ (baL x y T) (z:Rat) ((z+h:Int):Rat)=(ppI T h).map (cP (x,y,z)):=by
 have C:(ppI T h).length=2*(bsI T).length:=yZ _ _;refine zGL zT (by rw[zN8,dS,List.length_map,C]) λi hi=>?_;rw[zN8,dS] at hi;rw[tL (cP (x,y,z)) z3 zT zoa];unfold ppZ zSK ppI;rw[dS,qF _ _ hi,qF _ _ hi,zYT,zGU _ (Nat.mod_lt _ zoa)];unfold c2 cP;refine congrArg _ ?_
 by_cases e:((bsI T).length:Int)<=(i:Int)
 · rw[if_pos e,if_pos e]
 · rw[if_neg e,if_neg e]
   show(z:Rat)=((z+0:Int):Rat)
   rw[Int.add_zero]
theorem zN9{k:Int}(h0:0<=k)(h1:k<2*((bsI T).length:Int)):(ppZ (baL x y T) (z:Rat) ((z+h:Int):Rat)).getD k.toNat zT=cP (x,y,z) (g3 (ppI T h) k.toNat):=by
 rw[zVW];have C:(ppI T h).length=2*(bsI T).length:=yZ _ _;exact tL _ _ _ zoa
theorem zKR{i k:Nat}(hi:i<T.length)(hk:k<((bxI T).getD i []).length):0<=xaI T i k/\xaI T i k<(bsI T).length:=by
 have:=zND (L:=baL 0 0 T) (i:=i) (k:=k) (by rw[zC1];exact hi) (by rw[oW];exact hk);rw[oW,dS] at this;exact this
theorem yFM{i k:Nat}(hi:i<T.length)(hk:k<((bxI T).getD i []).length)(h10:i<10/\k<10):zJ1 (x,y,z) (sdI T h i k) (sdF (baL x y T) (z:Rat) ((z+h:Int):Rat) i k):=by
 have C:sdA (baL x y T) i k=xaI T i k:=by unfold sdA xaI;rw[oW]
 have G:sdB (baL x y T) i k=xbI T i k:=by unfold sdB xbI;rw[oW]
 have D:=zKR hi hk;have J:0<=xbI T i k/\xbI T i k<(bsI T).length:=zKR hi (Nat.mod_lt _ zoa);have M:nmS i k=[115,48+i,46,48+k]:=by
  unfold nmS;rw[mQ h10.1,mQ h10.2];rfl
 have H:sdN (baL x y T) (z:Rat) ((z+h:Int):Rat) i k=nr3 (snI T h i k):=by
  unfold sdN;rw[C,G,zN9 D.1 zoa,zN9 J.1 zoa];unfold nr3 snI cP;simp only[Rat.intCast_sub,Rat.intCast_add,Rat.intCast_neg];have e0:((0:Int):Rat)=0:=I;rw[e0]
  congr 1<;>grind
 refine lY ?_ ?_
 · unfold sdF cPl
   refine Prod.ext H ?_
   show xE (sdN _ _ _ i k) _=_
   rw[H,C,zN9 D.1 zoa]
   show xE (nr3 (snI T h i k)) (cP (x,y,z) (g3 (ppI T h) (xaI T i k).toNat))=((dt3 (snI T h i k) (g3 (ppI T h) (xaI T i k).toNat)+dt3 (snI T h i k) (x,y,z):Int):Rat)
   generalize snI T h i k=n;generalize g3 (ppI T h) (xaI T i k).toNat=u;unfold xE nr3 cP dt3;simp only[Rat.intCast_add,Rat.intCast_mul];grind
 · show([[sdA _ i k,sdB _ i k,sdB _ i k+_,sdA _ i k+_]],nmS i k)=_
   rw[C,G,M,dS];rfl
theorem zVU(h10:T.length<=10/\∀i,i<T.length->(T.getD i []).length<=10):lM (x,y,z) (prI T h) (prR (baL x y T) (z:Rat) ((z+h:Int):Rat)):=by
 have C:(bxI T).length=T.length:=yZ _ _;have D:∀i,i<T.length->((bxI T).getD i []).length=(T.getD i []).length:=λi hi=>by
  unfold bxI;rw[qF _ _ hi];exact yZ _ _
 have G:zHB (x,y,z) (prI T h).2 (prR (baL x y T) (z:Rat) ((z+h:Int):Rat)).2.1:=by
  show zHB _ (tO _ _++[_,_]) (zK6 _ _ _ _++[_,_])
  refine zJ2 ?_ (zJ2 (B:=[_]) (A:=[_]) (zPC ?_) (zPC ?_))
  · unfold zK6 sfX
    rw[oW];refine zQU _ λi hi=>zW9 _ λk H=>?_;rw[C] at hi;have:=D i hi;have:=h10.2 i hi;exact yFM hi H ⟨by omega,by omega⟩
  · refine lY ?_ ?_
    · unfold btF cPl nr3 dt3
      refine Prod.ext ?_ ?_
      · show T3.mk (0:Rat) (0:Rat) (-((1:Int):Rat))=T3.mk ((0:Int):Rat) ((0:Int):Rat) ((-1:Int):Rat)
        rw[Rat.intCast_neg];rfl
      · show -(z:Rat)=((0+(0*x+0*y+-1*z):Int):Rat)
        rw[show 0+(0*x+0*y+-1*z)= -z by omega,Rat.intCast_neg]
    · show(zYZ (baL x y T) (bxZ (baL x y T)).length,_)=_
      unfold zYZ;rw[oW]
  · refine lY ?_ ?_
    · unfold tpF cPl nr3 dt3
      refine Prod.ext ?_ ?_
      · show T3.mk (0:Rat) (0:Rat) ((1:Int):Rat)=T3.mk ((0:Int):Rat) ((0:Int):Rat) ((1:Int):Rat)
        rfl
      · show((z+h:Int):Rat)=((h+(0*x+0*y+1*z):Int):Rat)
        rw[show h+(0*x+0*y+1*z)=z+h by omega]
    · show(zUI (baL x y T) (bxZ (baL x y T)).length,_)=_
      unfold zUI tpL;rw[oW,dS]
 exact⟨zVW,I,G.1,G.2⟩
theorem yAZ(h10:(1<=T.length/\T.length<=10)/\∀i,i<T.length->(T.getD i []).length<=10)(hn:nsI T=true)(hh:0<h)(hc:chI (prI T h)=true):(∀s,s∈baL x y T->cJ s)/\prE (baL x y T) (z:Rat) ((z+h:Int):Rat)=0/\okS (prR (baL x y T) (z:Rat) ((z+h:Int):Rat)):=by
 have hly:yGS (x:Rat) 1 (y:Rat) 1 T (baL x y T):=by
  refine⟨zC1 T,λm hm=>?_⟩;rw[show gl (baL x y T) m=(T.getD m []).map (c2 x y) from zGY T hm];refine⟨List.length_map _,λk hk=>?_⟩;rw[show gp ((T.getD m []).map (c2 x y)) k=c2 x y ((T.getD m []).getD k (0,0)) from zGU _ hk];unfold pr ag gI c2;rw[Rat.one_mul,Rat.one_mul,<-Rat.intCast_add,<-Rat.intCast_add];rfl
 obtain⟨n1,n2,n3⟩:=zMD zod zod hly hn;have hm:=zVU (x:=x) (y:=y) (z:=z) (h:=h) ⟨h10.1.2,h10.2⟩;refine⟨n3,(yJI n1 n2 ?_ ?_).1,(zD8 hm hc).2⟩
 · rw[s7]
   exact Rat.not_le.2 (Rat.intCast_lt_intCast.2 zoa)
 · have e1:eO (baL x y T) (baL x y T).length<=64*(baL x y T).length:=zYD (λm hm=>by
    rw[zC1] at hm;rw[zGY T hm,List.length_map];have:=h10.2 m hm;omega) _ (Nat.le_refl _)
   have e2:=zJF (baL x y T) (baL x y T).length;have e3:(bsZ (baL x y T)).length=(ptB (baL x y T) (baL x y T).length).length:=I;have e4:eO (baL x y T) (baL x y T).length<=100:=by
    have g:∀i,i<=T.length->eO (baL x y T) i<=10*i:=λi=>by
     induction i with
     |zero=>exactλ_=>Nat.le_refl _
     |succ i ih=>
      intro hi;have:=ih zoa;have h2:=h10.2 i zoa
      show eO (baL x y T) i+((baL x y T).getD i []).length<=_
      rw[zGY T zoa,List.length_map];omega
    have:=g _ (Nat.le_refl _);rw[zC1];omega
   unfold prB;omega
end
end
theorem yKH:(baT.all λT=>nsI T&&zCD (prI T 1)&&zCD (prI T 2))=true:=by decide +kernel
theorem yIP:((List.range 3).all λa=>(List.range 2).all λb=>(List.range 2).all λc=>nsI (trT a b c)&&zCD (prI (trT a b c) 1)&&zCD (prI (trT a b c) 2))=true:=by decide +kernel
theorem yH4:((List.range 2).all λp=>(List.range 2).all λq=>(List.range 2).all λr=>chI (bxJ (1+p:Nat) (1+q:Nat) (1+r:Nat)))=true:=by decide +kernel
theorem yEX:teB 0 0 0=true:=by decide +kernel
theorem yEW:teB 0 0 1=true:=by decide +kernel
theorem yEV:teB 0 0 2=true:=by decide +kernel
theorem yEU:teB 0 1 0=true:=by decide +kernel
theorem yET:teB 0 1 1=true:=by decide +kernel
theorem yES:teB 0 1 2=true:=by decide +kernel
theorem yER:teB 1 0 0=true:=by decide +kernel
theorem yEQ:teB 1 0 1=true:=by decide +kernel
theorem yEP:teB 1 0 2=true:=by decide +kernel
theorem yEO:teB 1 1 0=true:=by decide +kernel
theorem yEN:teB 1 1 1=true:=by decide +kernel
theorem yEM:teB 1 1 2=true:=by decide +kernel
theorem yEL:teB 2 0 0=true:=by decide +kernel
theorem yEK:teB 2 0 1=true:=by decide +kernel
theorem yEJ:teB 2 0 2=true:=by decide +kernel
theorem yEI:teB 2 1 0=true:=by decide +kernel
theorem yEH:teB 2 1 1=true:=by decide +kernel
theorem yEG:teB 2 1 2=true:=by decide +kernel
theorem yIS{p c q e f g:Nat}(hp:p<3)(hc:c<2)(hq:q<3)(he:e<3)(hf:f<3)(hg:g<3):zCD (teI p c q e f g)=true:=by
 have h:teB p c q=true:=by
  have G:p=0\/p=1\/p=2:=by omega
  have D:c=0\/c=1:=by omega
  have C:q=0\/q=1\/q=2:=by omega
  rcases G with rfl|rfl|rfl<;>rcases D with rfl|rfl<;>rcases C with rfl|rfl|rfl
  · exact yEX
  · exact yEW
  · exact yEV
  · exact yEU
  · exact yET
  · exact yES
  · exact yER
  · exact yEQ
  · exact yEP
  · exact yEO
  · exact yEN
  · exact yEM
  · exact yEL
  · exact yEK
  · exact yEJ
  · exact yEI
  · exact yEH
  · exact yEG
 exact List.all_eq_true.1 (List.all_eq_true.1 (List.all_eq_true.1 h e (List.mem_range.2 he)) f (List.mem_range.2 hf)) g (List.mem_range.2 hg)
theorem yH3{p q r:Nat}(hp:p<2)(hq:q<2)(hr:r<2):chI (bxJ (1+p:Nat) (1+q:Nat) (1+r:Nat))=true:=
 List.all_eq_true.1 (List.all_eq_true.1 (List.all_eq_true.1 yH4 p (List.mem_range.2 hp)) q (List.mem_range.2 hq)) r (List.mem_range.2 hr)
section
variable {v:I3}
theorem yCU(a b c:I3):thN (cP v a) (cP v b) (cP v c)=nr3 (th3 a b c):=by
 unfold thN xH wV nr3 th3 cx3 sb3 cP;simp only[Rat.intCast_sub,Rat.intCast_add,Rat.intCast_mul]
 congr 1<;>grind
theorem yJL{n:I3}:nr3 n=zT↔n=z3:=by
 constructor
 · intro e
   have G:=Rat.intCast_inj.1 (show(n.1:Rat)=((0:Int):Rat) from congrArg T3.x e);have D:=Rat.intCast_inj.1 (show(n.2.1:Rat)=((0:Int):Rat) from congrArg T3.y e);have C:=Rat.intCast_inj.1 (show(n.2.2:Rat)=((0:Int):Rat) from congrArg T3.z e);exact Prod.ext G (Prod.ext D C)
 · rintro rfl;rfl
theorem yHM(n u:I3):xE (nr3 n) (cP v u)=((dt3 n u+dt3 n v:Int):Rat):=by
 unfold xE nr3 cP dt3;simp only[Rat.intCast_add,Rat.intCast_mul];grind
theorem zI4{a b c:I3}(h:¬th3 a b c=z3):thZ (cP v a) (cP v b) (cP v c)=(nr3 (th3 a b c),((dt3 (th3 a b c) a+dt3 (th3 a b c) v:Int):Rat)):=by
 rw[(zUJ (λe=>h (yJL.1 (by rw[<-yCU (v:=v)];exact e)))).1,yCU,yHM]
theorem yFX{A B C T:I3}(h0:¬th3 A B C=z3)(h1:¬th3 A B T=z3)(h2:¬th3 B C T=z3)(h3:¬th3 C A T=z3):lM v (pyI A B C T) (pyR [cP v A,cP v B,cP v C] (cP v T)):=by
 have H:qN (((0:Nat):Int):Rat)=[48]:=mQ (n:=0) zod;have G:qN (((1:Nat):Int):Rat)=[49]:=mQ (n:=1) zod;have D:qN (((2:Nat):Int):Rat)=[50]:=mQ (n:=2) zod;refine⟨I,I,I,λf M=>?_⟩;have J:f<4:=M;have:f=0\/f=1\/f=2\/f=3:=by omega
 rcases this with rfl|rfl|rfl|rfl
 · refine lY ?_ ?_
   · show thZ (cP v A) (cP v B) (cP v T)=_
     rw[zI4 h1];rfl
   · show([[((0:Nat):Int),((1%3:Nat):Int),((3:Nat):Int)]],[115]++qN (((0:Nat):Int):Rat))=_
     rw[H];rfl
 · refine lY ?_ ?_
   · show thZ (cP v B) (cP v C) (cP v T)=_
     rw[zI4 h2];rfl
   · show([[((1:Nat):Int),((2%3:Nat):Int),((3:Nat):Int)]],[115]++qN (((1:Nat):Int):Rat))=_
     rw[G];rfl
 · refine lY ?_ ?_
   · show thZ (cP v C) ([cP v A,cP v B,cP v C].getD ((2+1)%3) zT) (cP v T)=_
     rw[show[cP v A,cP v B,cP v C].getD ((2+1)%3) zT=cP v A from I,zI4 h3];rfl
   · show([[((2:Nat):Int),(((2+1)%3:Nat):Int),((3:Nat):Int)]],[115]++qN (((2:Nat):Int):Rat))=_
     rw[D];rfl
 · refine lY ?_ ?_
   · show opP (thZ (cP v A) (cP v B) (cP v C))=(nr3 (ng3 (th3 A B C)),((-dt3 (th3 A B C) A+dt3 (ng3 (th3 A B C)) v:Int):Rat))
     rw[zI4 h0];generalize th3 A B C=n;unfold opP nr3 ng3 dt3;have O:((-1:Int):Rat)= -1:=I;refine Prod.ext ?_ ?_
     · simp only[Rat.intCast_neg,O]
       congr 1<;>grind
     · simp only[Rat.intCast_neg,Rat.intCast_add,Rat.intCast_mul]
       grind
   · rfl
end
theorem zI5{p c q e f g:Nat}(hp:p<3)(hc:c<2)(hq:q<3)(he:e<3)(hf:f<3)(hg:g<3):(chI (teI p c q e f g)=true/\nmB (teI p c q e f g)=true)/\chI (nrI (teI p c q e f g))=true:=by
 have h:=yIS hp hc hq he hf hg;unfold zCD at h;rw[Bool.and_eq_true,Bool.and_eq_true] at h;exact h
theorem zRN{P:List I3}{F:List FI}(h:chI (P,F)=true){f:Nat}(hf:f<F.length):¬(F.getD f fi0).1=z3:=by
 unfold chI at h;replace h:=(Bool.and_eq_true _ _▸h).2;rw[Bool.and_eq_true,Bool.and_eq_true,Bool.and_eq_true] at h;have C:=List.all_eq_true.1 h.1.1.2 _ (kY (d:=fi0) hf);unfold faB at C;replace C:=(Bool.and_eq_true _ _▸C).2;rw[Bool.and_eq_true,Bool.and_eq_true,Bool.not_eq_true',decide_eq_false_iff_not] at C;exact C.1.2
def teL(x y z:Int)(p c q:Nat):List Pt:=[pI x y z,pI (x+(1+p)) y z,pI (x+c) (y+(1+q)) z]
def teA(x y z:Int)(e f g:Nat):Pt:=pI (x+e) (y+f) (z+(1+g))
theorem zUK{x y z:Int}{p c q e f g:Nat}(hp:p<3)(hc:c<2)(hq:q<3)(he:e<3)(hf:f<3)(hg:g<3):lM (x,y,z) (teI p c q e f g) (pyR (teL x y z p c q) (teA x y z e f g)):=by
 have h:=(zI5 hp hc hq he hf hg).1.1;have H:=zRN h (f:=0) (show 0<4 by decide);have G:=zRN h (f:=1) (show 1<4 by decide);have D:=zRN h (f:=2) (show 2<4 by decide);have J:=zRN h (f:=3) (show 3<4 by decide);have h0:¬th3 (0,0,0) (1+(p:Int),0,0) ((c:Int),1+(q:Int),0)=z3:=λU=>J (by
  show ng3 (th3 _ _ _)=z3
  rw[show th3 _ _ _=z3 from U];rfl)
 have C:=yFX (v:=(x,y,z)) h0 H G D;have O:[cP (x,y,z) (0,0,0),cP (x,y,z) (1+(p:Int),0,0),cP (x,y,z) ((c:Int),1+(q:Int),0)]=teL x y z p c q:=by
  unfold teL cP pI;simp
 have M:cP (x,y,z) ((e:Int),(f:Int),1+(g:Int))=teA x y z e f g:=by
  unfold teA cP pI;simp
 rw[O,M] at C;exact C
theorem zZ2{x y z:Int}{p c q e f g:Nat}:(¬thN ((teL x y z p c q).getD 0 zT) ((teL x y z p c q).getD 1 zT) ((teL x y z p c q).getD 2 zT)=zT)/\zGQ (thZ ((teL x y z p c q).getD 0 zT) ((teL x y z p c q).getD 1 zT) ((teL x y z p c q).getD 2 zT)) (teL x y z p c q)/\0<sdZ (thZ ((teL x y z p c q).getD 0 zT) ((teL x y z p c q).getD 1 zT) ((teL x y z p c q).getD 2 zT)) (teA x y z e f g):=by
 have H:0<(1+(p:Int))*(1+(q:Int)):=Int.mul_pos zoa zoa;have hG:0<(1+(p:Int))*(1+(q:Int))*(1+(g:Int)):=Int.mul_pos H zoa;have hN:thN (pI x y z) (pI (x+(1+p)) y z) (pI (x+c) (y+(1+q)) z)=T3.mk (0:Rat) (0:Rat) (((1+(p:Int))*(1+(q:Int)):Int):Rat):=by
  unfold thN xH wV pI;simp only[Rat.intCast_add,Rat.intCast_mul]
  congr 1<;>grind
 have hz:¬thN (pI x y z) (pI (x+(1+p)) y z) (pI (x+c) (y+(1+q)) z)=zT:=λe=>by
  rw[hN] at e;have:=Rat.intCast_inj.1 (show _=((0:Int):Rat) from congrArg T3.z e);omega
 have hZ:thZ (pI x y z) (pI (x+(1+p)) y z) (pI (x+c) (y+(1+q)) z)=(T3.mk (0:Rat) (0:Rat) (((1+(p:Int))*(1+(q:Int)):Int):Rat),(((1+(p:Int))*(1+(q:Int))*z:Int):Rat)):=by
  rw[(zUJ hz).1,hN];unfold xE pI;simp only[Rat.intCast_mul,Rat.zero_mul,Rat.zero_add]
 generalize hm:(1+(p:Int))*(1+(q:Int))=m at H hG hN hZ;have J:∀X Y Z:Int,sdZ (T3.mk (0:Rat) (0:Rat) ((m:Int):Rat),((m*z:Int):Rat)) (pI X Y Z)=sgI (m*(Z-z)):=λX Y Z=>by
  have:hgt (T3.mk (0:Rat) (0:Rat) ((m:Int):Rat),((m*z:Int):Rat)) (pI X Y Z)=((m*(Z-z):Int):Rat):=by
   unfold hgt xE pI;simp only[Rat.intCast_mul,Rat.intCast_sub];grind
  unfold sdZ;rw[this,nS];rfl
 have aa:∀X Y:Int,sdZ (T3.mk (0:Rat) (0:Rat) ((m:Int):Rat),((m*z:Int):Rat)) (pI X Y z)=0:=λX Y=>by
  rw[J,Int.sub_self,Int.mul_zero];rfl
 have M:axI (T3.mk (0:Rat) (0:Rat) ((m:Int):Rat))=0/\axJ (T3.mk (0:Rat) (0:Rat) ((m:Int):Rat))=1:=⟨if_pos (Rat.intCast_pos.2 H),if_pos (Rat.intCast_pos.2 H)⟩;have D:∀X Y Z:Int,pt2 (T3.mk (0:Rat) (0:Rat) ((m:Int):Rat),((m*z:Int):Rat)) (pI X Y Z)=ag (x:Rat) 1 (y:Rat) 1 (X-x,Y-y):=λX Y Z=>by
  unfold pt2 ag;rw[M.1,M.2];unfold pr pI;simp only[T3.at,Rat.intCast_sub];refine Prod.ext ?_ ?_<;>grind
 refine⟨hz,?_,?_⟩
 · show zGQ (thZ (pI x y z) (pI (x+(1+p)) y z) (pI (x+c) (y+(1+q)) z)) _
   rw[hZ];refine⟨⟨show 3<=3 from Nat.le_refl 3,λe=>?_⟩,λi hi=>?_,λi k hi h2 hk=>?_⟩
   · have:=Rat.intCast_inj.1 (show _=((0:Int):Rat) from congrArg T3.z e)
     omega
   · have G:i<3:=hi
     rcases zHR G with rfl|rfl|rfl<;>exact aa _ _
   · have G:i<3:=hi
     have ab:k<3:=hk;have:k=2:=by omega
     subst this;have C:∀u w t:PI,0<crI u w t->0<orZ (ag (x:Rat) 1 (y:Rat) 1 u) (ag (x:Rat) 1 (y:Rat) 1 w) (ag (x:Rat) 1 (y:Rat) 1 t):=λu w t h=>by
      rw[zZF zod zod];exact iZ.2 h
     have pA:pt2 (T3.mk (0:Rat) (0:Rat) ((m:Int):Rat),((m*z:Int):Rat)) (pI x y z)=ag (x:Rat) 1 (y:Rat) 1 (0,0):=by rw[D,Int.sub_self,Int.sub_self]
     have U:pt2 (T3.mk (0:Rat) (0:Rat) ((m:Int):Rat),((m*z:Int):Rat)) (pI (x+(1+p)) y z)=ag (x:Rat) 1 (y:Rat) 1 (1+(p:Int),0):=by rw[D,Int.sub_self,show x+(1+(p:Int))-x=1+(p:Int) by omega]
     have O:pt2 (T3.mk (0:Rat) (0:Rat) ((m:Int):Rat),((m*z:Int):Rat)) (pI (x+c) (y+(1+q)) z)=ag (x:Rat) 1 (y:Rat) 1 ((c:Int),1+(q:Int)):=by rw[D,show x+(c:Int)-x=(c:Int) by omega,show y+(1+(q:Int))-y=1+(q:Int) by omega]
     have c1:crI (0,0) (1+(p:Int),0) ((c:Int),1+(q:Int))=m:=by rw[<-hm];simp[crI]
     have c2:crI (1+(p:Int),0) ((c:Int),1+(q:Int)) (0,0)=m:=by rw[<-hm];simp[crI];grind
     have c3:crI ((c:Int),1+(q:Int)) (0,0) (1+(p:Int),0)=m:=by rw[<-hm];simp[crI];grind
     have hL:(teL x y z p c q).length=3:=I;have g0:gp (teL x y z p c q) 0=pI x y z:=I;have g1:gp (teL x y z p c q) 1=pI (x+(1+p)) y z:=I;have g2:gp (teL x y z p c q) 2=pI (x+c) (y+(1+q)) z:=I;unfold nx;rw[hL]
     rcases zHR G with rfl|rfl|rfl
     · rw[show(0+1)%3=1 from I,show(0+2)%3=2 from I,g0,g1,g2,pA,U,O]
       exact C _ _ _ (by rw[c1];exact H)
     · rw[show(1+1)%3=2 from I,show(1+2)%3=0 from I,g0,g1,g2,pA,U,O]
       exact C _ _ _ (by rw[c2];exact H)
     · rw[show(2+1)%3=0 from I,show(2+2)%3=1 from I,g0,g1,g2,pA,U,O]
       exact C _ _ _ (by rw[c3];exact H)
 · show 0<sdZ (thZ (pI x y z) (pI (x+(1+p)) y z) (pI (x+c) (y+(1+q)) z)) (pI (x+e) (y+f) (z+(1+g)))
   rw[hZ,J];refine iZ.2 ?_;rw[show z+(1+(g:Int))-z=1+(g:Int) by omega];exact hG
theorem yEE{x y z:Int}{p c q e f g:Nat}(hp:p<3)(hc:c<2)(hq:q<3)(he:e<3)(hf:f<3)(hg:g<3):pyH (teL x y z p c q) (teA x y z e f g):=by
 obtain⟨h1,h2,h3⟩:=zZ2 (x:=x) (y:=y) (z:=z) (p:=p) (c:=c) (q:=q) (e:=e) (f:=f) (g:=g);exact⟨⟨⟨by show 3<=3;decide,by show 3<=64;decide⟩,h1⟩,⟨h2,h3⟩,(zD8 (zUK hp hc hq he hf hg) (zI5 hp hc hq he hf hg).1.1).2⟩
def baF(T:List (List PI)):Prop:=T∈baT\/∃a b c:Nat,(a<3/\b<2/\c<2)/\T=trT a b c
def yB2(I:SI):Prop:=(∃p q r:Nat,(p<2/\q<2/\r<2)/\I=bxJ (1+p:Nat) (1+q:Nat) (1+r:Nat))\/(∃T h,baF T/\(h=1\/h=2)/\I=nrI (prI T h))\/
 ∃p c q e f g:Nat,(p<3/\c<2/\q<3)/\(e<3/\f<3/\g<3)/\I=nrI (teI p c q e f g)
def zKZ(s:Sd):Prop:=∃v I,yB2 I/\bdV v/\lM v I s
theorem yDM{T:List (List PI)}{h:Int}(hT:baF T)(hh:h=1\/h=2):nsI T=true/\zCD (prI T h)=true:=by
 have g:∀T,(nsI T&&zCD (prI T 1)&&zCD (prI T 2))=true->nsI T=true/\zCD (prI T h)=true:=λT e=>by
  rw[Bool.and_eq_true,Bool.and_eq_true] at e
  rcases hh with rfl|rfl
  · exact⟨e.1.1,e.1.2⟩
  · exact⟨e.1.1,e.2⟩
 rcases hT with hT|⟨a,b,c,⟨ha,hb,hc⟩,rfl⟩
 · exact g T (List.all_eq_true.1 yKH T hT)
 · exact g _ (List.all_eq_true.1 (List.all_eq_true.1 (List.all_eq_true.1 yIP a (List.mem_range.2 ha)) b (List.mem_range.2 hb)) c (List.mem_range.2 hc))
theorem zWG{I:SI}(h:zCD I=true):(chI I=true/\nmB I=true)/\chI (nrI I)=true:=by
 unfold zCD at h;rw[Bool.and_eq_true,Bool.and_eq_true] at h;exact h
theorem zX9{I:SI}(h:yB2 I):chI I=true:=by
 rcases h with⟨p,q,r,⟨hp,hq,hr⟩,rfl⟩|⟨T,h,hT,hh,rfl⟩|⟨p,c,q,e,f,g,⟨hp,hc,hq⟩,⟨he,hf,hg⟩,rfl⟩
 · exact yH3 hp hq hr
 · exact(zWG (yDM hT hh).2).2
 · exact(zI5 hp hc hq he hf hg).2
theorem zDZ{s:Sd}(h:zKZ s):(gC s/\okS s)/\smS 2 2 2 1 s:=by
 obtain⟨v,I,D,G,C⟩:=h;exact⟨zD8 C (zX9 D),yE2 C (zX9 D) G⟩
theorem nat_of{z:Int}{n:Nat}(h:0<=z/\z<n):∃m:Nat,m<n/\z=m:=⟨z.toNat,by omega,by omega⟩
section
variable {x y z:Int}(hx:0<=x/\x<3)(hy:0<=y/\y<3)(hz:0<=z/\z<3)
include hx hy hz
theorem zU6{p q r:Int}(hp:0<=p/\p<2)(hq:0<=q/\q<2)(hr:0<=r/\r<2):zKZ (bkS (pI x y z) (pI (x+1+p) (y+1+q) (z+1+r))):=by
 obtain⟨p,G,rfl⟩:=nat_of (n:=2) hp;obtain⟨q,D,rfl⟩:=nat_of (n:=2) hq;obtain⟨r,C,rfl⟩:=nat_of (n:=2) hr;refine⟨(x,y,z),_,.inl ⟨p,q,r,⟨G,D,C⟩,I⟩,⟨by show -1000<=x/\x<=1000;omega,by show -1000<=y/\y<=1000;omega,by show -1000<=z/\z<=1000;omega⟩,?_⟩;rw[show x+1+(p:Int)=x+((1+p:Nat):Int) by omega,show y+1+(q:Int)=y+((1+q:Nat):Int) by omega,show z+1+(r:Int)=z+((1+r:Nat):Int) by omega];exact yH5 zoa zoa zoa
theorem zNX{p c q e f g:Int}(hp:0<=p/\p<3)(hc:0<=c/\c<2)(hq:0<=q/\q<3)(he:0<=e/\e<3)(hf:0<=f/\f<3)(hg:0<=g/\g<3):pyH [pI x y z,pI (x+1+p) y z,pI (x+c) (y+1+q) z] (pI (x+e) (y+f) (z+1+g))/\
 ∃v I,(∃p c q e f g:Nat,(p<3/\c<2/\q<3)/\(e<3/\f<3/\g<3)/\I=nrI (teI p c q e f g))/\bdV v/\lM v I (nrP (pyR [pI x y z,pI (x+1+p) y z,pI (x+c) (y+1+q) z] (pI (x+e) (y+f) (z+1+g))),nrF (pyR [pI x y z,pI (x+1+p) y z,pI (x+c) (y+1+q) z] (pI (x+e) (y+f) (z+1+g))),[]):=by
 obtain⟨p,D,rfl⟩:=nat_of (n:=3) hp;obtain⟨c,M,rfl⟩:=nat_of (n:=2) hc;obtain⟨q,C,rfl⟩:=nat_of (n:=3) hq;obtain⟨e,J,rfl⟩:=nat_of (n:=3) he;obtain⟨f,H,rfl⟩:=nat_of (n:=3) hf;obtain⟨g,G,rfl⟩:=nat_of (n:=3) hg;have Z:=zUK (x:=x) (y:=y) (z:=z) D M C J H G;have h0:=zI5 D M C J H G;have O:=zW4 Z h0.1.1 h0.1.2;have U:=yEE (x:=x) (y:=y) (z:=z) D M C J H G;unfold teL teA at O U;rw[show x+1+(p:Int)=x+(1+p) by omega,show y+1+(q:Int)=y+(1+q) by omega,show z+1+(g:Int)=z+(1+g) by omega];refine⟨U,(x,y,z),_,⟨p,c,q,e,f,g,⟨D,M,C⟩,⟨J,H,G⟩,rfl⟩,⟨by show -1000<=x/\x<=1000;omega,by show -1000<=y/\y<=1000;omega,by show -1000<=z/\z<=1000;omega⟩,?_⟩;have e0:nrE (pyR [pI x y z,pI (x+(1+↑p)) y z,pI (x+↑c) (y+(1+↑q)) z] (pI (x+↑e) (y+↑f) (z+(1+↑g))))=[]:=by unfold nrE;split<;>rfl
 rw[e0] at O;exact O
end
def yIR(s:Sd):Prop:=∃v I,(∃p c q e f g:Nat,(p<3/\c<2/\q<3)/\(e<3/\f<3/\g<3)/\I=nrI (teI p c q e f g))/\bdV v/\lM v I s
theorem zDX{s:Sd}(h:yIR s):zKZ s:=by
 obtain⟨v,I,C,h⟩:=h;exact⟨v,I,.inr (.inr C),h⟩
def baP(L:List (List Pt)):Prop:=∃x y T,(0<=x/\x<2)/\(0<=y/\y<2)/\baF T/\L=baL x y T
theorem yCI{T:List (List PI)}(h:baF T):(1<=T.length/\T.length<=10)/\∀i,i<T.length->(T.getD i []).length<=10:=by
 have g:∀T,T∈baT->(decide (1<=T.length/\T.length<=10)&&T.all λs=>decide (s.length<=10))=true:=λT C=>List.all_eq_true.1 (show(baT.all λT=>decide (1<=T.length/\T.length<=10)&&T.all λs=>decide (s.length<=10))=true by decide) T C
 rcases h with h|⟨a,b,c,_,rfl⟩
 · have:=g T h
   rw[Bool.and_eq_true,decide_eq_true_iff] at this;exact⟨this.1,λi hi=>of_decide_eq_true (List.all_eq_true.1 this.2 _ (kY hi))⟩
 · refine⟨⟨show 1<=1 by decide,show 1<=10 by decide⟩,λi hi=>?_⟩
   have:i=0:=by have:i<1:=hi;omega
   subst this
   show 3<=10;decide
theorem zB9{L:List (List Pt)}(h:baP L){z a:Int}(hz:0<=z/\z<2)(ha:0<=a/\a<2):((∀s,s∈L->cJ s)/\prE L (z:Rat) ((z+1+a:Int):Rat)=0/\okS (prR L (z:Rat) ((z+1+a:Int):Rat)))/\zKZ (prP L (z:Rat) ((z+1+a:Int):Rat),prF L (z:Rat) ((z+1+a:Int):Rat),[]):=by
 obtain⟨x,y,T,hx,hy,G,rfl⟩:=h;have hh:1+a=1\/1+a=2:=by omega
 obtain⟨h1,h2⟩:=yDM G hh;obtain⟨⟨h3,J⟩,M⟩:=zWG h2;have C:=yCI G;have D:=yAZ (x:=x) (y:=y) (z:=z) C h1 zoa h3;rw[show z+1+a=z+(1+a) by omega];refine⟨D,(x,y,z),_,.inr (.inl ⟨T,_,G,hh,I⟩),⟨by show -1000<=x/\x<=1000;omega,by show -1000<=y/\y<=1000;omega,by show -1000<=z/\z<=1000;omega⟩,?_⟩;have H:=zW4 (zVU (x:=x) (y:=y) (z:=z) (h:=1+a) ⟨C.1.2,C.2⟩) h3 J;have e0:nrE (prR (baL x y T) (z:Rat) ((z+(1+a):Int):Rat))=[]:=by unfold nrE;split<;>rfl
 unfold prP prF;rw[if_pos D.2.1,if_pos D.2.1];rw[e0] at H;exact H
def bW(x y:Int):List Int->List Pt
  |a::b::l=>T3.mk ((x+a:Int):Rat) ((y+b:Int):Rat) (0:Rat)::bW x y l
  |_=>[]
theorem zYL{x y:Int}{l:List Int}{u:Nat}{D:List Pt}(hD:D++bW x y (l.drop (2*u))=bW x y l)(h:2*u+1<l.length):(D++[T3.mk ((x+l.getD (2*u) 0:Int):Rat) ((y+l.getD (2*u+1) 0:Int):Rat) (0:Rat)])++bW x y (l.drop (2*(u+1)))=bW x y l:=by
 rw[<-hD,List.append_assoc]
 congr 1
 rw[show l.drop (2*u)=l.getD (2*u) 0::l.getD (2*u+1) 0::l.drop (2*(u+1)) by
  rw[List.drop_eq_getElem_cons zoa,List.drop_eq_getElem_cons zoa,List.getD_eq_getElem?_getD,List.getD_eq_getElem?_getD,List.getElem?_eq_getElem zoa,List.getElem?_eq_getElem zoa]
  rfl]
 rfl
theorem yCG{x y:Int}{l:List Int}{u:Nat}{D:List Pt}(hD:D++bW x y (l.drop (2*u))=bW x y l)(h:¬2*u+1<l.length):D=bW x y l:=by
 have e:bW x y (l.drop (2*u))=[]:=by
  have C:(l.drop (2*u)).length<=1:=by rw[List.length_drop];omega
  match l.drop (2*u),C with
  |[],_=>rfl
  |[_],_=>rfl
 rw[<-hD,e,List.append_nil]
section
variable {x y:Int}(hx:0<=x/\x<2)(hy:0<=y/\y<2)
include hx hy
theorem zY7:baP [bW x y [0,0,2,0,2,1,1,1,1,2,0,2]]:=⟨x,y,_,hx,hy,.inl (.head _),rfl⟩
theorem zY6:baP [bW x y [0,0,3,0,3,3,0,3],bW x y [1,1,1,2,2,2,2,1]]:=⟨x,y,_,hx,hy,.inl (.tail _ (.head _)),rfl⟩
theorem zY5:baP [bW x y [0,0,3,0,3,3,0,3],bW x y [1,1,0,0,1,2]]:=⟨x,y,_,hx,hy,.inl (.tail _ (.tail _ (.head _))),rfl⟩
theorem zY4:baP [bW x y [0,0,1,0,2,0,2,2,0,1]]:=⟨x,y,_,hx,hy,.inl (.tail _ (.tail _ (.tail _ (.head _)))),rfl⟩
theorem zY3{a b c:Int}(ha:0<=a/\a<3)(hb:0<=b/\b<2)(hc:0<=c/\c<2):baP [bW x y [0,0,1+a,0,b,1+c]]:=by
 obtain⟨a,G,rfl⟩:=nat_of (n:=3) ha;obtain⟨b,D,rfl⟩:=nat_of (n:=2) hb;obtain⟨c,C,rfl⟩:=nat_of (n:=2) hc;exact⟨x,y,_,hx,hy,.inr ⟨a,b,c,⟨G,D,C⟩,I⟩,by
  unfold trT;rw[show((1+a:Nat):Int)=1+(a:Int) by omega,show((1+c:Nat):Int)=1+(c:Int) by omega]
  rfl⟩
end
def bxC(c:SI->Bool):Bool:=(List.range 2).all λp=>(List.range 2).all λq=>(List.range 2).all λr=>c (bxJ (1+p:Nat) (1+q:Nat) (1+r:Nat))
def baC(c:SI->Bool):Bool:=baT.all λT=>c (nrI (prI T 1))&&c (nrI (prI T 2))
def trC(c:SI->Bool):Bool:=(List.range 3).all λa=>(List.range 2).all λb=>(List.range 2).all λk=>c (nrI (prI (trT a b k) 1))&&c (nrI (prI (trT a b k) 2))
def teC(c:SI->Bool):Bool:=(List.range 3).all λp=>(List.range 2).all λk=>(List.range 3).all λq=>(List.range 3).all λe=>(List.range 3).all λf=>(List.range 3).all λg=>c (nrI (teI p k q e f g))
theorem yEF{c:SI->Bool}(h:teC c=true){p k q e f g:Nat}(hp:p<3)(hk:k<2)(hq:q<3)(he:e<3)(hf:f<3)(hg:g<3):c (nrI (teI p k q e f g))=true:=
 List.all_eq_true.1 (List.all_eq_true.1 (List.all_eq_true.1 (List.all_eq_true.1 (List.all_eq_true.1 (List.all_eq_true.1 h p (List.mem_range.2 hp)) k (List.mem_range.2 hk)) q (List.mem_range.2 hq)) e (List.mem_range.2 he)) f (List.mem_range.2 hf)) g (List.mem_range.2 hg)
theorem yB1{c:SI->Bool}(hb:bxC c=true)(ha:baC c=true)(hr:trC c=true)(ht:teC c=true){I:SI}(h:yB2 I):c I=true:=by
 rcases h with⟨p,q,r,⟨hp,hq,hr⟩,rfl⟩|⟨T,h,hT,hh,rfl⟩|⟨p,k,q,e,f,g,⟨hp,hk,hq⟩,⟨he,hf,hg⟩,rfl⟩
 · exact List.all_eq_true.1 (List.all_eq_true.1 (List.all_eq_true.1 hb p (List.mem_range.2 hp)) q (List.mem_range.2 hq)) r (List.mem_range.2 hr)
 · rcases hT with hT|⟨a,b,k,⟨ha',hb',hk⟩,rfl⟩
   · have h1:=List.all_eq_true.1 ha T hT
     rw[Bool.and_eq_true] at h1
     rcases hh with rfl|rfl
     · exact h1.1
     · exact h1.2
   · have h1:=List.all_eq_true.1 (List.all_eq_true.1 (List.all_eq_true.1 hr a (List.mem_range.2 ha')) b (List.mem_range.2 hb')) k (List.mem_range.2 hk)
     rw[Bool.and_eq_true] at h1
     rcases hh with rfl|rfl
     · exact h1.1
     · exact h1.2
 · exact yEF ht hp hk hq he hf hg
def somI(I:SI):Bool:=decide (0<I.1.length/\0<I.2.length)
theorem yB0{I:SI}(h:yB2 I):somI I=true:=yB1 (by decide +kernel) (by decide +kernel) (by decide +kernel) (by decide +kernel) h
theorem zZ6{s:Sd}(h:zKZ s):0<s.1.length/\0<s.2.1.length:=by
 obtain⟨v,I,D,G,C⟩:=h;have h1:=of_decide_eq_true (yB0 D);rw[oG C,C.2.2.1];exact h1
section
variable {s:Sd}{p d:Pt}
end
end Bk
namespace Go.Proofs.YtpkaegemlpaenaaGreat
open Bk Go Tryz
set_option maxRecDepth 10000
set_option maxHeartbeats 1000000
attribute [local irreducible] GL GC GQ W OpV
section
variable{w0:World}{h0:Mem}(hs:MLe h0 (mem w0))
include hs
theorem zFP{k m n j j2:Nat}{vs:Value}{s:Sq}(rs:(tSd k m n j).Is h0 vs s){vp:Value}{p:Tq}(rp:(tPt j2).Is h0 vp p)(hcd0:okS s)(hcd1:gC s)(hcd2:k<=9000)(hcd3:j2<=90)(hcd4:m<=900)(hcd5:n<=900):
 Calls Tryz.prog 36 #[vs,vp] w0 (Ret w0 h0 (λh r=>(tPt 2).Is h r (vK ↑(dirN s p)))):=by
 have D:=zW7 (s:=s) hcd0;have C:=zPA hcd1 p;refine cb2 9 vs vp func36 hs ?_;refine go2 ?_;refine nB rs λb2 ah U=>(nB rp λb3 ae O=>(nA (ρ:=(tPt 2)) (X:=zT) yN (xN (yH dC)) λb4 ad M=>(go3 ?_)));refine zK 4 _ [] [(0,.q),(2,.q),(1,.c),(3,.c),(4,.t)] zX nX zob nX (λr hr=>hr) (wX I (xB qK pH U) λv5 r5=>(wX I (xB zH pH O) λv7 r7=>?_));refine w_c I (sC (ev1 I) call69 (λw hs=>iF hs r5 (by first|omega|exact hcd0|exact hcd1|exact gL hcd1|exact D|exact C.1|exact C.2) (by first|omega|exact hcd0|exact hcd1|exact gL hcd1|exact D|exact C.1|exact C.2) oM oM oM) λv6 h1 ac r6=>?_);refine w_c I (sC (ev2 I I) call74 (λw hs=>y5 hs r6 r7.up oM oM (by first|omega|exact hcd0|exact hcd1|exact gL hcd1|exact D|exact C.1|exact C.2) (by first|omega|exact hcd0|exact hcd1|exact gL hcd1|exact D|exact C.1|exact C.2) (by first|omega|exact hcd0|exact hcd1|exact gL hcd1|exact D|exact C.1|exact C.2)) λv8 h2 ab r8=>(yJ (A:=[]) I (uB sizeOf31 pH M r8) λZ J=>(go3 ?_)));refine wT (kE (t:=4) zH mh0 I J) ?_;intro aa G H;refine yW (λE S=>zW I G E S) ?_;exact(Rp.Is.cast H (by rw[zGN hcd1]))
theorem zWN{k l:Nat}{vp:Value}{p:Tq}(rp:(tPt k).Is h0 vp p){vq:Value}{q:Tq}(rq:(tPt l).Is h0 vq q)(hcd0:k<=100000000)(hcd1:l<=100000000):
 Calls Tryz.prog 137 #[vp,vq] w0 (Ret w0 h0 (λ_ r=>r=vB (lsP p q))):=by
 refine cb2 22 vp vq func137 hs ?_;refine go2 ?_;refine nB rp λG ad M=>(nB rq λD ac J=>(uE ?_));refine gcL (ι:=Nat×Mem) (λ(i,ma)=>(MLe h0 ma/\(i<=3/\∀u,u<i->xT (p.at u) (q.at u)=0),[(2,vP G 0),(3,vP D 0),(5,vI ↑i)],[.var D 31 ac,.var G 31 ad],ma,3-i)) (0,h0) ?_ ?_
 · exact⟨mle,by omega,λu h=>by omega⟩
 rintro⟨i,ma⟩ ⟨ae,aj,hi2⟩
 refine yX ?_;refine gc7 (λab=>?_) λab=>?_
 ·
  refine go5 ?_;refine zK 8 _ [] [(0,.q),(1,.q),(2,.q),(3,.q),(4,.q),(5,.q),(6,.c),(7,.q)] zX nX zob nX (λr hr=>hr) (go1 ?_);refine wB I (λ_ _=>(yE (sz:=3) i underlying31 sizeOf29 I I I oM).cv (show _=vP G ((i*3+0)) from congrArg (vP G) oM)) I (wX I (xB yC (Pc.ta pH i oM) M) λai Z=>(go1 ?_));refine wB I (λ_ _=>(yE (sz:=3) i underlying31 sizeOf29 I I I oM).cv (show _=vP D ((i*3+0)) from congrArg (vP D) oM)) I (wX I (xB yC (Pc.ta pH i oM) J) λah U=>?_);refine w_c I (sC (ev2 I I) call17 (λw hs=>fZ hs Z U oM) λH h1 ak O=>?_);obtain rfl:H=vI (xT (p.at i) (q.at i)):=O;have aa:=qV (p.at i) (q.at i);refine gc9 (λC=>?_) λC=>?_
  ·
   refine sR ?_;refine zC I I ?_;exact kA (yJR oM hi2 C)
  refine go8 ?_;refine gqL ((i+1),h1) ?_ ?_
  · exact⟨mle,by omega,xR (Q:=λu=>xT (p.at u) (q.at u)=0) hi2 (Classical.not_not.1 C)⟩
  omega
 have ei:i=3:=by omega
 refine qA ?_;refine zC I I ?_;exact(yG (yGJ λu hu=>hi2 u oM)).symm
theorem zDF{va:Value}{a:(List Int)}(ra:(rpS rpI).Is h0 va a){vb:Value}{b:(List Int)}(rb:(rpS rpI).Is h0 vb b):
 Calls Tryz.prog 139 #[va,vb] w0 (Ret w0 h0 (λ_ r=>r=vI (cE a b))):=by
 have bd:=yI9 ra;have bc:=yI9 rb;refine cb2 48 va vb func139 hs ?_;refine uS ?_;refine gcL (ι:=Nat×Mem) (λ(i,O)=>(MLe h0 O/\((i<=a.length/\i<=b.length)/\∀u,u<i->a.getD u 0=b.getD u 0),[(0,va),(1,vb),(5,vI ↑i)],[],O,a.length-i)) (0,h0) ?_ ?_
 · exact⟨mle,by omega,λu h=>by omega⟩
 rintro⟨i,O⟩ ⟨an,be,hi2⟩
 refine yX ?_;refine go7 ?_;refine gU 6 15 (vB (((↑i:Int)<(↑(a).length:Int))/\((↑i:Int)<(↑(b).length:Int)))) ?_ ?_
 ·
  refine zY ((↑i:Int)<(↑(a).length:Int)) (λG=>?_) (λG=>?_)
  ·
   refine gT G I (uE ?_);refine gqU ?_;exact congrArg some (xC G)
  refine gF G I (go6 ?_);refine gqU ?_;exact congrArg some (xD G)
 refine gc2 (λM=>?_) λM=>?_
 ·
  refine go5 ?_;refine zK 9 _ [] [(0,.q),(1,.q),(2,.q),(3,.q),(4,.q),(5,.q),(6,.q),(7,.q),(8,.q)] zX nX zob nX (λr hr=>hr) (go2 ?_);refine wX I (xI (0:Int) i underlying22 ty3 ra) λbb ah=>(wX I (xA ty3 ah) λba ae=>?_);obtain⟨rfl,ar,am⟩:=kJ ae;refine go2 ?_;refine wX I (xI (0:Int) i underlying22 ty3 rb) λaz ad=>(wX I (xA ty3 ad) λay ac=>?_);obtain⟨rfl,aq,ak⟩:=kJ ac;refine gc3 (λC=>?_) λC=>?_
  ·
   refine go2 ?_;refine zK 9 _ [] [(0,.q),(1,.q),(2,.q),(3,.q),(4,.q),(5,.q),(6,.q),(7,.q),(8,.q)] zX nX zob nX (λr hr=>hr) (go2 ?_);refine wX I (xI (0:Int) i underlying22 ty3 ra) λax ab=>(wX I (xA ty3 ab) λaw aa=>?_);obtain⟨rfl,ap,aj⟩:=kJ aa;refine go2 ?_;refine wX I (xI (0:Int) i underlying22 ty3 rb) λav Z=>(wX I (xA ty3 Z) λau U=>?_);obtain⟨rfl,ao,ai⟩:=kJ U;refine gc3 (λD=>?_) λD=>?_
   ·
    refine uS ?_;refine zC I I ?_;refine congrArg vI ?_;rw[zRJ hi2 oM oM C,if_pos D]
   refine sR ?_;refine zC I I ?_;refine congrArg vI ?_;rw[zRJ hi2 oM oM C,if_neg D]
  refine go8 ?_;refine gqL ((i+1),O) ?_ ?_
  · exact⟨mle,by omega,xR (Q:=λu=>a.getD u 0=b.getD u 0) hi2 (Classical.not_not.1 C)⟩
  omega
 have ei:i=min a.length b.length:=by omega
 refine mF ?_;refine cnd (λJ=>?_) λJ=>?_
 ·
  refine go8 ?_;refine zC I I ?_;refine congrArg vI ?_;rw[zGT hi2 ei,if_pos oM]
 refine zCR (λH=>?_) λH=>?_
 ·
  refine go8 ?_;refine zC I I ?_;refine congrArg vI ?_;rw[zGT hi2 ei,if_neg oM,if_pos oM]
 refine go9 ?_;refine zC I I ?_;refine congrArg vI ?_;rw[zGT hi2 ei,if_neg oM,if_neg oM]
theorem zOU{vx:Value}{x:(List Int)}(rx:(rpS rpI).Is h0 vx x)(hcd0:x.length<=100000):
 Calls Tryz.prog 138 #[vx] w0 (Ret w0 h0 (λh r=>(rpS rpI).Is h r (zSG x))):=by
 refine cb1 29 vx func138 hs ?_;refine mF ?_;refine gcL (ι:=Nat×Mem) (λ(i,D)=>(MLe h0 D/\(i<=x.length),[(0,vx),(3,vI ↑(cI x i)),(4,vI ↑i)],[],D,x.length-i)) (0,h0) ?_ ?_
 · exact⟨mle,oM⟩
 rintro⟨i,D⟩ ⟨ak,O⟩
 refine yX ?_;have bd:=O;have bc:=yC4 x i;refine gc9 (λah=>?_) λah=>?_
 ·
  refine go5 ?_;refine zK 9 _ [] [(0,.q),(1,.q),(2,.q),(3,.q),(4,.q),(5,.q),(6,.q),(7,.q),(8,.q)] zX nX zob nX (λr hr=>hr) (go2 ?_);refine wX I (xI (0:Int) i underlying22 ty3 rx) λaz ae=>(wX I (xA ty3 ae) λay ad=>?_);obtain⟨rfl,an,aj⟩:=kJ ad;refine go2 ?_;refine wX I (xI (0:Int) (cI x i) underlying22 ty3 rx) λax ac=>(wX I (xA ty3 ac) λaw ab=>?_);obtain⟨rfl,am,ai⟩:=kJ ab;refine gc3 (λC=>?_) λC=>?_
  ·
   refine qA ?_;refine gqL ((i+1),D) ?_ ?_ (he:=⟨I,congrArg (λz:Nat=>some (vI ↑z)) (mn_t C),I,trivial⟩)
   · exact⟨mle,oM⟩
   omega
  refine go8 ?_;refine gqL ((i+1),D) ?_ ?_ (he:=⟨I,congrArg (λz:Nat=>some (vI ↑z)) (mn_f C),I,trivial⟩)
  · exact⟨mle,oM⟩
  omega
 have ei:i=x.length:=by omega
 refine go6 ?_;refine zK 9 _ [] [(0,.q),(1,.q),(2,.q),(4,.q),(5,.q),(6,.q),(3,.c),(7,.c),(8,.q)] zX nX zob nX (λr hr=>hr) (go2 ?_);refine nK (F:=λU=>(rpS rpI).Is D U (x.drop (cI x i))) I (zOC (ρ:=rpI) (cI x i) underlying22 sizeOf3 I I rx.up oM oM) zBA I ?_;intro av aa;refine go2 ?_;refine nK (F:=λU=>(rpS rpI).Is D U (x.take (cI x i))) I (zOD (ρ:=rpI) (cI x i) underlying22 sizeOf3 I I rx.up oM oM) zBA I ?_;intro ar Z;refine w_c I (zEU 3 1 ?_);have H:=RL.nil (ρ:=rpI) (h:=D);refine fR (A:=[]) (λX=>zV (ρ:=rpI) (bytes:=8) underlying22 jX I I I I nP I I H aa zon zon) I (xJ zof) ?_
 rintro au bb ⟨ap,rfl,M⟩
 refine w_c I (fR (A:=[]) (λX=>zV (ρ:=rpI) (bytes:=8) underlying22 jX I I I I nP I I M Z zon zon) I (xJ zof) ?_)
 rintro aq ba ⟨ao,rfl,J⟩
 refine go4 ?_;refine wO (A:=[]) (ρ:=rpI) J ?_;intro h1 be G;refine zC I I ?_;exact(Rp.Is.cast G (by rw[ei,List.nil_append];rfl))
theorem zJS{m n k l:Nat}{va:Value}{a:(Pq×((List (List Int))×(List Nat)))}(ra:(tFc m n).Is h0 va a){vb:Value}{b:(Pq×((List (List Int))×(List Nat)))}(rb:(tFc k l).Is h0 vb b)(hcd0:a.2.1.length<=100000)(hcd1:b.2.1.length<=100000):
 Calls Tryz.prog 91 #[va,vb] w0 (Ret w0 h0 (λ_ r=>r=vB (lsF a b))):=by
 refine cb2 53 va vb func91 hs ?_;refine go2 ?_;refine nB ra λb2 au D=>(nB rb λb3 ar C=>(go7 ?_));refine lX (xB ty9 (Pc.snd (Pc.snd pH)) D) λv8 r8=>?_;obtain⟨rfl,aq⟩:=kF r8;refine go1 ?_;refine lX (xB ty9 (Pc.snd (Pc.snd pH)) C) λbi ao=>?_;obtain⟨rfl,aa⟩:=kF ao;refine gv (zV5 (pa:=a.2.2) (pb:=b.2.2) aq aa I I) I (gc2 (λH=>?_) λH=>?_)
 ·
  refine go3 ?_;refine lX (xB ty9 (Pc.snd (Pc.snd pH)) D) λbh an=>?_;obtain⟨rfl,Z⟩:=kF an;refine go1 ?_;refine lX (xB ty9 (Pc.snd (Pc.snd pH)) C) λbg am=>?_;obtain⟨rfl,U⟩:=kF am;refine gv (zV8 (pa:=a.2.2) (pb:=b.2.2) Z U I I) I (go5 ?_);refine zC I I ?_;exact kA (Iff.of_eq (if_neg H).symm)
 have J:a.2.2=b.2.2:=Classical.not_not.1 H;refine go9 ?_;refine gcL (ι:=Nat×Mem) (λ(i,ma)=>(MLe h0 ma/\((i<=a.2.1.length/\i<=b.2.1.length)/\∀u,u<i->cE (a.2.1.getD u []) (b.2.1.getD u [])=0),[(2,vP b2 0),(3,vP b3 0),(5,vI ↑i)],[.var b3 53 ar,.var b2 53 au],ma,a.2.1.length-i)) (0,h0) ?_ ?_
 · exact⟨mle,by omega,λu h=>by omega⟩
 rintro⟨i,ma⟩ ⟨av,bn,hi2⟩
 refine yX ?_;refine go5 ?_;refine lX (xB bY (Pc.snd (Pc.fst pH)) D) λbf bm=>(go2 ?_);refine gU 7 28 (vB (((↑i:Int)<(↑(a.2.1).length:Int))/\((↑i:Int)<(↑(b.2.1).length:Int)))) ?_ ?_
 ·
  refine zY ((↑i:Int)<(↑(a.2.1).length:Int)) (λM=>?_) (λM=>?_)
  ·
   refine gT M I (go5 ?_);refine lX (xB bY (Pc.snd (Pc.fst pH)) C) λbe bl=>(go6 ?_);refine gqU ?_;exact congrArg some (xC M)
  refine gF M I (go7 ?_);refine gqU ?_;exact congrArg some (xD M)
 refine gc2 (λO=>?_) λO=>?_
 ·
  refine go5 ?_;refine zK 12 _ [] [(0,.q),(1,.q),(2,.q),(3,.q),(4,.q),(5,.q),(6,.q),(7,.q),(8,.q),(9,.q),(10,.c),(11,.q)] zX nX (wJ zob) nX (λr hr=>hr) (go1 ?_);refine wX I (xB bY (Pc.snd (Pc.fst pH)) D) λbd ak=>(go1 ?_);refine wX I (xI [] i underlying51 tF ak) λbc aj=>(wX I (xA tF aj) λbb ai=>(go1 ?_));refine wX I (xB bY (Pc.snd (Pc.fst pH)) C) λba ah=>(go1 ?_);refine wX I (xI [] i underlying51 tF ah) λaz ae=>(wX I (xA tF ae) λay ad=>?_);refine w_c I (sC (ev2 I I) call139 (λw hs=>zDF hs ai ad) λab h1 bo ac=>?_);obtain rfl:ab=vI (cE (a.2.1.getD i []) (b.2.1.getD i [])):=ac;have ap:=s8 (a.2.1.getD i []) (b.2.1.getD i []);refine gc9 (λG=>?_) λG=>?_
  ·
   refine sR ?_;refine zC I I ?_;exact kA ((yBJ hi2 oM oM G).symm.trans (Iff.of_eq (if_pos J).symm))
  refine go8 ?_;refine gqL ((i+1),h1) ?_ ?_
  · exact⟨mle,by omega,xR (Q:=λu=>cE (a.2.1.getD u []) (b.2.1.getD u [])=0) hi2 (Classical.not_not.1 G)⟩
  omega
 have ei:i=min a.2.1.length b.2.1.length:=by omega
 refine go8 ?_;refine lX (xB bY (Pc.snd (Pc.fst pH)) D) λax bk=>(go2 ?_);refine lX (xB bY (Pc.snd (Pc.fst pH)) C) λaw bj=>(go6 ?_);refine zC I I ?_;exact kA (Iff.trans oM ((zXB hi2 ei).symm.trans (Iff.of_eq (if_pos J).symm)))
theorem zS4{m n:Nat}{vs:Value}{s:Pq}(rs:(tPl m n).Is h0 vs s)(hcd0:m<=10000000)(hcd1:n<=10000000):
 Calls Tryz.prog 66 #[vs] w0 (Ret w0 h0 (λh r=>(tPl (4*m+10) (m+n+10)).Is h r (scZ s))):=by
 refine cb1 36 vs func66 hs ?_;refine go2 ?_;refine nB rs λb1 be G=>(nA (ρ:=(tPl 1 1)) (X:=(zT,(0:Rat))) sG (yD (xN (yH dC)) (yH dC)) λb2 bd ai=>(go9 ?_));refine gcL (ι:=Nat×Mem) (λ(i,ma)=>(MLe h0 ma/\(i<=3/\∀u,u<i->yR (s.1.at u)=0),[(1,vP b1 0),(2,vP b2 0),(3,vI ↑i)],[.var b2 50 bd,.var b1 50 be],ma,3-i)) (0,h0) ?_ ?_
 · exact⟨mle,by omega,λu h=>by omega⟩
 rintro⟨i,ma⟩ ⟨bg,bx,hi2⟩
 refine yX ?_;refine gc7 (λbb=>?_) λbb=>?_
 ·
  refine go8 ?_;refine gv ((yE (sz:=3) i underlying31 sizeOf29 I I I oM).cv (show _=vP b1 ((i*3+0)) from congrArg (vP b1) oM)) I (lX (xB yC (Pc.fst (Pc.ta pH i oM)) G) λbw az=>(cL (ev1 I) call48 (λw hs=>vM hs az oM) λaj h1 ce ay=>?_));obtain rfl:aj=vI (yR (s.1.at i)):=ay;have ba:=yV (s.1.at i);refine gc3 (λD=>?_) λD=>?_
  ·
   refine go1 ?_;refine zK 13 _ [(10,(4,29,[.bool false,.slice none 0 0,.slice none 0 0]))] [(1,.q),(2,.q),(3,.q),(4,.q),(0,.c),(5,.c),(6,.c),(7,.q),(8,.q),(9,.q),(10,.a),(11,.c),(12,.q)] zX (qZ.cons I I (uJ xU I I) qZ.nil) (wJ zob) (uK I I kL) (λr hr=>hr) (go2 ?_);refine wB I (λ_ _=>(yE (sz:=3) i underlying31 sizeOf29 I I I oM).cv (show _=vP b1 ((i*3+0)) from congrArg (vP b1) oM)) I (wX I (xB yC (Pc.fst (Pc.ta pH i oM)) G) λbu aw=>?_);refine w_c I (sC (vs:=[vI (1)]) ⟨I,trivial⟩ call27 (λw hs=>qT hs dC dC) λbv h2 cd ax=>?_);refine w_c I (sC (ev1 I) call103 (λw hs=>zOQ hs aw.up oM) λbt h3 cc av=>?_);refine w_c I (sC (ev2 I I) call81 (λw hs=>zFH hs ax.up av oM) λbs h4 cb au=>?_);obtain⟨M,rfl,C⟩:=au
   change (rpQ (2+m)).Is h4 M (if(iQ (s.1.at i))=0 then 0 else(((1:Int):Int):Rat)/(iQ (s.1.at i))) at C
   replace C:=Rp.Is.le C (Le.q (l:=m+2) oM);refine go3 ?_;refine w_a I I (λb4=>?_);have ak:(rpQ 1).R h4 [.bool false,.slice none 0 0,.slice none 0 0] (0:Rat):=(yH dC);refine w_c I ?_;have ae:=(Le.q (l:=m+2) oM).R ak;refine sU (A:=[]) (uB sizeOf29 pH ae C) (xJ zof) λbi J=>(go4 ?_);refine zK 9 _ [] [(0,.q),(1,.q),(2,.q),(4,.q),(5,.q),(6,.q),(3,.c),(7,.c),(8,.q),(9,.t)] zX nX zob nX (λr hr=>hr) (wX I (xB yC pH J) λbr ar=>(go1 ?_));refine wX I (xB zH (Pc.fst pH) G) λbq aq=>(wX I (xB yC pH J) λbo ap=>(go1 ?_));refine wX I (xB yC (Pc.snd pH) G) λbn ao=>?_;refine w_c I (sC (ev2 I I) call20 (λw hs=>zFM hs ar aq oM) λbp h5 ca ab=>?_);replace ab:=Rp.Is.le ab (Le.t (Le.q (l:=4*m+7) oM));refine w_c I (sC (ev2 I I) call53 (λw hs=>qS hs ap.up ao.up oM) λbm h6 bz aa=>?_);replace aa:=Rp.Is.le aa (Le.q (l:=m+n+2) oM);refine wX I (xV (ρ:=(tPl (4*m+7) (m+n+2))) (wE (ps':=[(0,_),(1,_)]) underlying50 sG I I (rC underlying50) e4z I (yD (xN (yH oM)) (yH oM)) (zD I (Pc.fst (Pc.here _)) ab.up (zD I (Pc.snd (Pc.here _)) aa zO)))) λbl an=>?_;have ad:=(Le.p (Le.t (Le.q (l:=4*m+7) oM)) (Le.q (l:=m+n+2) oM)).R ai;refine yJ (A:=[_]) I (uB sizeOf50 pH ad an) λbh ah=>(go8 ?_);refine wT (kE (t:=2) bZ mh1 I ah) ?_;intro bj ac U;refine yW (λE S=>zW I ac E S) ?_;exact(Rp.Is.cast (Rp.Is.le U (Le.p (Le.t (Le.q (l:=4*m+10) oM)) (Le.q (l:=m+n+10) oM))) (by exact yI6 oM hi2 D))
  refine go8 ?_;refine gqL ((i+1),h1) ?_ ?_
  · exact⟨mle,by omega,xR (Q:=λu=>yR (s.1.at u)=0) hi2 (Classical.not_not.1 D)⟩
  omega
 have ei:i=3:=by omega
 refine go7 ?_;refine lX (xV (ρ:=(tPl 1 1)) (wE (ps':=[]) underlying50 sG I I (rC underlying50) trivial I (yD (xN (yH dC)) (yH dC)) zO)) λbk am=>(yB (A:=[]) (uB sizeOf50 pH ai am) λbc Z=>(go3 ?_));refine wT (kE (t:=2) bZ mh0 I Z) ?_;intro bf H O;refine yW (λE S=>zW I H E S) ?_;exact(Rp.Is.cast (Rp.Is.le O (Le.p (Le.t (Le.q (l:=4*m+10) oM)) (Le.q (l:=m+n+10) oM))) (by exact yFO λu hu=>hi2 u oM))
theorem zL3{vx:Value}{x:(List Int)}(rx:(rpS rpI).Is h0 vx x)(hcd0:x.length<=100000):
 Calls Tryz.prog 67 #[vx] w0 (Ret w0 h0 (λh r=>(rpS rpI).Is h r (zK9 x x.length))):=by
 refine cb1 20 vx func67 hs ?_;refine yJZ ?_;refine xM 3 1 ?_;have O:=RL.nil (ρ:=rpI) (h:=h0);refine gcL (ι:=Nat×List Int×Value×List Value×Mem) (λ(i,D,C,G,ma)=>(MLe h0 ma/\(RL rpI ma G D/\i<=x.length/\D=zK9 x i),[(0,vx),(3,C),(4,vI (↑x.length-1-↑i))],[.gs 3 1 C D.length G],ma,x.length-i)) (0,[],(.slice none 0 0),[],h0) ?_ ?_ (he:=⟨I,I,congrArg (λz=>some (vI z)) oM,trivial⟩)
 · exact⟨mle,O,by omega,I⟩
 rintro⟨i,D,C,G,ma⟩ ⟨aj,H,au,hD⟩
 refine yX ?_;have av:D.length=i:=by rw[hD];exact yZ _ _
 refine gc7 (λah=>?_) λah=>?_
 ·
  refine go8 ?_;refine lX (xI (0:Int) (x.length-1-i) underlying22 ty3 rx) λap ad=>(lX (xA ty3 ad) λao ac=>?_);obtain⟨rfl,ak,ai⟩:=kJ ac;refine zI (zL (ρ:=rpI) (m:=1) (xs:=[(x.getD (x.length-1-i) (0:Int))]) (ps':=[(0,_)]) underlying22 jX I I I wL e2z (zD I (Pc.arr (Pc.here _) (0:Int) 0 dC) (wI oM oM) zO) (show 1*1<=16777216 from by decide) nP) I I I ?_
  rintro an ar ⟨am,rfl,Z⟩
  refine zS (A:=[]) (ρ:=rpI) Z ?_;intro h1 ae M;refine xS (A:=[]) (zV (ρ:=rpI) (bytes:=8) underlying22 jX I I I I nP I I H.up M bO bO) I I I ?_
  rintro ab aq ⟨aa,rfl,U⟩
  refine go9 ?_;refine gqL ((i+1),(D++[(x.getD (x.length-1-i) (0:Int))]),ab,aa,h1) ?_ ?_ (he:=⟨I,I,congrArg (λz=>some (vI z)) oM,trivial⟩)
  · exact⟨mle,U,by omega,by rw[hD];rfl⟩
  omega
 have ei:i=x.length:=by omega
 refine uS ?_;refine wO (A:=[]) (ρ:=rpI) H.up ?_;intro h1 ae J;refine zC I I ?_;exact(Rp.Is.cast J (by rw[hD,ei]))
theorem zS5{k m n j:Nat}{vs:Value}{s:Sq}(rs:(tSd k m n j).Is h0 vs s)(hcd0:k<=1000)(hcd1:okS s)(hcd2:nmA s):
 Calls Tryz.prog 89 #[vs] w0 (Ret w0 h0 (λh r=>(rpS rpI).Is h r (aG s s.1.length))):=by
 have dx:=hcd1.1.1.1;have dw:=hcd1.1.1.2;have be:=sP s;refine cb1 80 vs func89 hs ?_;refine go2 ?_;refine nB rs λb1 ba aj=>(go6 ?_);refine lX (xB vY (Pc.fst pH) aj) λdq dt=>(go1 ?_);refine zI (zIB (ρ:=rpB) (X:=False) (by':=1) s.1.length underlying162 zXT I I I I zRW I I zok zok bO bO) I I I ?_
 rintro bs du ⟨bn,rfl,bd⟩
 refine go5 ?_;refine lX (xB qK pH aj) λdp ci=>(cL (ev1 I) call136 (λw hs=>zH7 hs ci (by first|omega|exact hcd1.mem) (by first|omega|exact hcd1.mem)) λdn h1 eb ch=>(cL (ev1 I) call135 (λw hs=>zFK hs ch (by first|omega|exactλf hf=>(by rw[be] at hf;rw[mE hf];exact hcd1.2.1 f hf)) (by first|omega|exactλf hf=>(by rw[be] at hf;rw[mE hf];exact hcd1.2.1 f hf))) λbr h2 ea cg=>(go6 ?_)));have ec:=yB5 hcd1;have hE:∀q,q<(edZ (vO s)).length->0<=((edZ (vO s)).getD q e50).1/\((edZ (vO s)).getD q e50).1<↑s.1.length:=λq hq=>zTT hcd2 hq;refine go4 ?_;refine gcL (ι:=Nat×List Prop×Value×List Value×Mem) (λ(i,U,C,O,ma)=>(MLe h2 ma/\(RL rpB ma O U/\(i<=(edZ (vO s)).length/\U.length=s.1.length)/\∀u,u<s.1.length->(U.getD u False↔zI1 (edZ (vO s)) i u)),[(1,vP b1 0),(3,C),(4,br),(5,vI ↑i)],[.gs 4 1 C U.length O,.var b1 39 ba],ma,(edZ (vO s)).length-i)) (0,(List.replicate s.1.length False),bs,bn,h2) ?_ ?_
 · exact⟨mle,bd.up,⟨by omega,List.length_replicate⟩,λu h=>by rw[zSH h];exact⟨False.elim,λ⟨q,h,_⟩=>by omega⟩⟩
 rintro⟨i,U,C,O,ma⟩ ⟨cw,ak,⟨dy,bj⟩,bi⟩
 refine yX ?_;refine gc9 (λbh=>?_) λbh=>?_
 ·
  refine go8 ?_;refine lX (xI e50 i underlying163 y1 cg) λdm cf=>(lX (xF underlying168 sizeOf3 (Pc.fst pH) cf) λdl ce=>(lX (xA ty3 ce) λdk cd=>?_));obtain⟨rfl,cz,cq⟩:=kJ cd;refine gv ((xO (((edZ (vO s)).getD i e50).1.toNat) mh0 underlying162 sizeOf4 I I (by(have:=hE i oM;omega)) (by(have:=hE i oM;omega)) nP).cv (show _=zM 1 C ((((edZ (vO s)).getD i e50).1.toNat*1+0)) from congrArg (zM 1 C) zok)) I (fN (A:=[]) (F:=λc_=>RL rpB ma c_ (U.set (((edZ (vO s)).getD i e50).1.toNat) True)) (cM sizeOf4 (Pc.arr (Pc.here _) False (((edZ (vO s)).getD i e50).1.toNat) (by(have:=hE i oM;omega))) I nP I I ak (yJS) I) ?_);intro bk bc;refine go8 ?_;refine gqL ((i+1),(U.set (((edZ (vO s)).getD i e50).1.toNat) True),C,bk,ma) ?_ ?_
  · exact⟨mle,bc,⟨by omega,by rw[lS];exact bj⟩,zUC bj bi (hE i oM).1 (hE i oM).2⟩
  omega
 have av:∀u,u<s.1.length->(U.getD u False↔zI1 (edZ (vO s)) (edZ (vO s)).length u):=λu hu=>by rw[show(edZ (vO s)).length=i by omega];exact bi u hu
 refine mF ?_;refine xM 3 1 ?_;have bb:=RL.nil (ρ:=rpI) (h:=ma);refine gcL (ι:=Nat×List Int×Value×List Value×Mem) (λ(i,D,H,M,mb)=>(MLe ma mb/\(RL rpI mb M D/\i<=s.1.length/\D=aG s i),[(1,vP b1 0),(3,C),(6,H),(7,vI ↑i)],[.gs 3 1 H D.length M,.gs 4 1 C U.length O,.var b1 39 ba],mb,s.1.length-i)) (0,[],(.slice none 0 0),[],ma) ?_ ?_
 · exact⟨mle,bb,by omega,I⟩
 rintro⟨i,D,H,M,mb⟩ ⟨cu,J,hi2,hD⟩
 refine yX ?_;have ed:D.length<=i:=by rw[hD];exact zON s i
 refine go5 ?_;refine lX (xB vY (Pc.fst pH) aj) λdj dr=>(gc4 (λbg=>?_) λbg=>?_)
 ·
  refine go9 ?_;refine gv ((xO i mh1 underlying162 sizeOf4 I I I bO nP).cv (show _=zM 1 C ((i*1+0)) from congrArg (zM 1 C) zok)) I (zKB (F:=λv_=>rpB.Is mb v_ (U.getD i False)) (wZ ty4 (Pc.arr (Pc.here _) False i bO) I nP I ak.up I) (sW mh1) I ?_);intro di cc;obtain rfl:=yF9 cc;refine gc3 (λae=>?_) λae=>?_
  ·
   refine go9 ?_;refine gqL ((i+1),D,H,M,mb) ?_ ?_
   · exact⟨mle,J,by omega,by rw[hD];exact(if_neg (λe=>ae ((av i oM).2 e))).symm⟩
   omega
  refine go5 ?_;refine gv (kP mh0 underlying22 I) I (go5 ?_);refine gcL (ι:=Nat×Mem) (λ(G,mk)=>(MLe mb mk/\(G<=D.length/\aK (zST s D i) D.length=aK (zST s D i) G),[(1,vP b1 0),(3,C),(6,H),(7,vI ↑i),(8,vI ↑G)],[.gs 3 1 H D.length M,.gs 4 1 C U.length O,.var b1 39 ba],mk,G)) (D.length,mb) ?_ ?_ (he:=e5)
  · exact⟨mle,by omega,I⟩
  rintro⟨G,mk⟩ ⟨ct,dv,ax⟩
  refine yX ?_;refine go2 ?_;refine zK 19 _ [] [(0,.q),(1,.q),(2,.q),(3,.q),(4,.q),(5,.q),(6,.q),(7,.q),(8,.q),(9,.q),(10,.q),(11,.q),(12,.q),(13,.q),(14,.q),(15,.q),(16,.q),(17,.c),(18,.q)] zX nX (wJ zob) nX (λr hr=>hr) (go3 ?_);refine jB ((0:Int)<(↑G:Int)) (λac=>?_) (λac=>?_)
  ·
   rw[xK ac];refine go1 ?_;refine oX I (xB vY (Pc.fst pH) aj) λdh cb=>(yL I I I (λh' L' hh hR=>yU I) I (oX I (xI zT i underlying35 zH cb) λdf ca=>(oX I (xA zH ca) λde bz=>(go1 ?_))));refine oX I (xB vY (Pc.fst pH) aj) λdd bx=>(yL I I I (λh' L' hh hR=>yU I) I (yL I I I (λh' L' hh hR=>yU I) I (go1 ?_)));refine yL I I I (λh' L' hh hR=>(xO (G-1) (hR _ mh0) underlying22 sizeOf3 I I oM oM nP).cv (show _=zM 1 H (((G-1)*1+0)) from congrArg (zM 1 H) zok)) I (lO (F:=λv_=>rpI.Is mk v_ (D.getD (G-1) (0:Int))) I I I (wZ ty3 (Pc.arr (Pc.here _) (0:Int) (G-1) oM) I nP I J.up I) (sW mh0) I ?_);intro dc bw;obtain⟨rfl,cy,cp⟩:=kJ bw;refine lO (F:=λv_=>AtP (tPt k) mk v_ (s.1.getD ((D.getD (G-1) 0).toNat) zT)) I I I (rD zT ((D.getD (G-1) 0).toNat) underlying35 zH I I bx (by(have:=mZ (s:=s) (i:=i) (k:=G-1) (by rw[<-hD];omega);rw[<-hD] at this;omega)) (by(have:=mZ (s:=s) (i:=i) (k:=G-1) (by rw[<-hD];omega);rw[<-hD] at this;omega)) nP) zBA I ?_;intro db bv;refine oX I (xA zH bv) λda bu=>?_;refine w_c I (mT I I (sC (ev2 I I) call137 (λw hs=>zWN hs bz bu oM oM) λbq h3 bf bt=>?_));obtain rfl:bq=vB (lsP (s.1.getD i zT) (s.1.getD ((D.getD (G-1) 0).toNat) zT)):=bt;refine gc3 (λad=>?_) λad=>?_
   ·
    refine go9 ?_;refine gqL ((G-1),h3) ?_ ?_ (he:=⟨I,I,I,I,congrArg (λz=>some (vI z)) oM,trivial⟩)
    · exact⟨mle,by omega,by rw[ax];exact zPU oM ad⟩
    omega
   refine go8 ?_;refine zI (zL (ρ:=rpI) (m:=1) (xs:=[(0:Int)]) (ps':=[(0,_)]) underlying22 jX I I I wL e2z (zD I (Pc.arr (Pc.here _) (0:Int) 0 dC) (wI dC dC) zO) (show 1*1<=16777216 from by decide) nP) I I I ?_
   rintro bp cl ⟨bm,rfl,ai⟩
   refine zS (A:=[]) (ρ:=rpI) ai ?_;intro h4 dz ao;refine xS (A:=[]) (zV (ρ:=rpI) (bytes:=8) underlying22 jX I I I I nP I I J.up ao bO bO) I I I ?_
   rintro Z ck ⟨bl,rfl,ah⟩
   refine go4 ?_;refine lD (A:=[]) (by rw[lAz];exact Nat.succ_pos _) (λob co aa ab=>?_);refine qH (A:=[]) 8 [] [(0,.q),(1,.q),(2,.q),(3,.q),(4,.q),(5,.q),(6,.q),(7,.c)] zX nX zob nX (go3 ?_);refine wB I (λ_ _=>jC (G+1) underlying22 sizeOf3 I I ⟨_,_,aa,ab⟩ oM zoh) I (go2 ?_);refine wB I (λ_ _=>jC G underlying22 sizeOf3 I I ⟨_,_,aa,ab⟩ oM zoh) I ?_;refine w_c I (fR (A:=[]) (λX=>nT (ρ:=rpI) G aa ab underlying22 sizeOf3 I I zoh ah) I (xJ zof) ?_)
   rintro bo cj ⟨cn,rfl,au⟩
   refine go6 ?_;refine gv ((xO G mh0 underlying22 sizeOf3 I I oM (by rw[fE zoh];simp only[lAz,lC,lN];omega) nP).cv (show _=zM 1 Z ((G*1+0)) from congrArg (zM 1 Z) zok)) I (fN (A:=[]) (F:=λc_=>RL rpI h4 c_ ((tW (D++[(0:Int)]) G).set G (↑i:Int))) (cM sizeOf3 (Pc.arr (Pc.here _) (0:Int) G (by rw[fE zoh];simp only[lAz,lC,lN];omega)) I nP I I au (wI oM oM) I) ?_);intro az ar;refine go8 ?_;refine gqL ((i+1),((tW (D++[(0:Int)]) G).set G (↑i:Int)),Z,az,h4) ?_ ?_
   · exact⟨mle,ar,by omega,by rw[nR oM];have aw:aK (zST s D i) D.length=G:=by{rw[ax];exact zGV (λe=>by first|omega|exact ad e.2)};rw[<-aw,hD];exact(if_pos ((av i oM).1 (Classical.not_not.1 ae))).symm⟩
   omega
  rw[yG ac];refine tU ?_;refine w_c I (lT I I I I (uS ?_));refine zI (zL (ρ:=rpI) (m:=1) (xs:=[(0:Int)]) (ps':=[(0,_)]) underlying22 jX I I I wL e2z (zD I (Pc.arr (Pc.here _) (0:Int) 0 dC) (wI dC dC) zO) (show 1*1<=16777216 from by decide) nP) I I I ?_
  rintro bp cl ⟨bm,rfl,ai⟩
  refine zS (A:=[]) (ρ:=rpI) ai ?_;intro h3 bf an;refine xS (A:=[]) (zV (ρ:=rpI) (bytes:=8) underlying22 jX I I I I nP I I J.up an bO bO) I I I ?_
  rintro Z ck ⟨bl,rfl,ah⟩
  refine go4 ?_;refine lD (A:=[]) (by rw[lAz];exact Nat.succ_pos _) (λob co aa ab=>?_);refine qH (A:=[]) 8 [] [(0,.q),(1,.q),(2,.q),(3,.q),(4,.q),(5,.q),(6,.q),(7,.c)] zX nX zob nX (go3 ?_);refine wB I (λ_ _=>jC (G+1) underlying22 sizeOf3 I I ⟨_,_,aa,ab⟩ oM zoh) I (go2 ?_);refine wB I (λ_ _=>jC G underlying22 sizeOf3 I I ⟨_,_,aa,ab⟩ oM zoh) I ?_;refine w_c I (fR (A:=[]) (λX=>nT (ρ:=rpI) G aa ab underlying22 sizeOf3 I I zoh ah) I (xJ zof) ?_)
  rintro bo cj ⟨cm,rfl,aq⟩
  refine go6 ?_;refine gv ((xO G mh0 underlying22 sizeOf3 I I oM (by rw[fE zoh];simp only[lAz,lC,lN];omega) nP).cv (show _=zM 1 Z ((G*1+0)) from congrArg (zM 1 Z) zok)) I (fN (A:=[]) (F:=λc_=>RL rpI h3 c_ ((tW (D++[(0:Int)]) G).set G (↑i:Int))) (cM sizeOf3 (Pc.arr (Pc.here _) (0:Int) G (by rw[fE zoh];simp only[lAz,lC,lN];omega)) I nP I I aq (wI oM oM) I) ?_);intro ay ap;refine go8 ?_;refine gqL ((i+1),((tW (D++[(0:Int)]) G).set G (↑i:Int)),Z,ay,h3) ?_ ?_
  · exact⟨mle,ap,by omega,by rw[nR oM];have aw:aK (zST s D i) D.length=G:=by{rw[ax];exact zGV (λe=>by first|omega|exact ad e.2)};rw[<-aw,hD];exact(if_pos ((av i oM).1 (Classical.not_not.1 ae))).symm⟩
  omega
 have ei:i=s.1.length:=by omega
 refine uS ?_;refine wO (A:=[]) (ρ:=rpI) J.up ?_;intro h3 bf am;refine zC I I ?_;exact(Rp.Is.cast am (by rw[hD,ei]))
theorem zFN{k m n j:Nat}{vs:Value}{s:Sq}(rs:(tSd k m n j).Is h0 vs s){f:Nat}{vix:Value}{ix:(List Int)}(rix:(rpS rpI).Is h0 vix ix)(hcd0:k<=1000)(hcd1:m<=100000)(hcd2:n<=100000)(hcd3:okS s)(hcd4:f<s.2.1.length)(hcd5:nmP s f)(hcd6:ix.length=s.1.length):
 Calls Tryz.prog 90 #[vs,vI ↑f,vix] w0 (Ret w0 h0 (λh r=>(tFc (4*m+11) (m+n+11)).Is h r (nfF s ix f))):=by
 have id:=hcd3.1.1.1;have ic:=hcd3.1.1.2;have eu:=dP s f;have ik:=yHC hcd4 hcd5;have cj:=hcd3.2.1 f hcd4;have ew:=cW (s:=s) (f:=↑f) hcd3.2.1;refine cb3 121 vs (vI ↑f) vix func90 hs ?_;refine go2 ?_;refine nB rs λb3 au ak=>(nA (ρ:=(tFc 1 1)) (X:=((zT,(0:Rat)),([],([]:List Nat)))) jR (yD (yD (xN (yH dC)) (yH dC)) (yD wN gZ)) λb6 ar dc=>(go4 ?_));refine lX (xB qK pH ak) λhp eo=>(go1 ?_);refine cL (ev2 I I) call111 (λw hs=>zFO (f:=f) hs eo oM oM oM (by first|omega|exact hcd3.big) (by first|omega|exact hcd3.big) (by first|omega|exact hcd3.big) (by first|omega|exact hcd3.big)) λao h1 ij en=>(go4 ?_);refine zK 15 _ [(14,(8,53,[.bool false,.slice none 0 0,.slice none 0 0,.bool false,.slice none 0 0,.slice none 0 0,.bool false,.slice none 0 0,.slice none 0 0,.bool false,.slice none 0 0,.slice none 0 0,.slice none 0 0,.string ⟨#[]⟩]))] [(0,.q),(1,.q),(2,.q),(3,.q),(4,.q),(5,.q),(7,.q),(8,.q),(9,.q),(10,.q),(11,.q),(12,.q),(6,.c),(13,.q),(14,.a),(15,.t)] zX (qZ.cons I I (uJ jR I I) qZ.nil) (wJ zob) (uK I I kL) (λr hr=>hr) (go1 ?_);refine wX I (xB fD (Pc.snd (Pc.fst pH)) ak) λho em=>(go1 ?_);refine wX I (xI zA f underlying36 bE em) λhn el=>(wX I (xF underlying53 sizeOf50 (Pc.fst pH) el) λhm ek=>(wX I (xA bZ ek) λhl ej=>(go1 ?_)));refine wX I (xB fD (Pc.snd (Pc.fst pH)) ak) λhj eg=>(go1 ?_);refine wX I (xI zA f underlying36 bE eg) λhf ef=>(wX I (xF underlying53 sizeOf9 (Pc.snd (Pc.snd pH)) ef) λhd ee=>(wX I (xA ty9 ee) λhc ed=>?_));obtain⟨rfl,cp⟩:=kF ed;refine w_c I (sC (ev1 I) call66 (λw hs=>zS4 hs ej oM oM) λhk h2 ii eh=>(wX I (xV (ρ:=(rpP (tPl (4*m+10) (m+n+10)) (rpP rpV kS))) (wE (ps':=[(0,_),(2,_)]) underlying53 jR I I (bK underlying53) e4z I (yD (yD (xN (yH oM)) (yH oM)) (yD sT gZ)) (zD I (Pc.fst (Pc.here _)) eh (zD I (Pc.snd (Pc.snd (Pc.here _))) (cT cp) zO)))) λhb ec=>?_));refine w_a I I (λb8=>?_);have db:(rpP (tPl 1 1) (rpP rpV kS)).R h2 [.bool false,.slice none 0 0,.slice none 0 0,.bool false,.slice none 0 0,.slice none 0 0,.bool false,.slice none 0 0,.slice none 0 0,.bool false,.slice none 0 0,.slice none 0 0,.slice none 0 0,.string ⟨#[]⟩] ((zT,(0:Rat)),((Value.slice none 0 0),([]:List Nat))):=(yD (yD (xN (yH dC)) (yH dC)) (yD sT gZ));have bx:=(Le.p (Le.p (Le.t (Le.q (l:=4*m+10) oM)) (Le.q (l:=m+n+10) oM)) (Le.refl _)).R db;refine yJ (A:=[]) I (uB sizeOf53 pH bx ec) λcq cf=>(tU ?_);refine xM 22 1 ?_;have ca:=RL.nil (ρ:=rpS rpI) (h:=h2);refine xM 22 1 ?_;have bz:=RL.nil (ρ:=rpS rpI) (h:=h2);refine gcL (ι:=Nat×List (List Int)×List (List Int)×List Value×Value×List Value×Value×List Value×Mem) (λ(i,D,G,U,C,M,H,J,ma)=>(MLe h2 ma/\((rpP (tPl (4*m+11) (m+n+11)) (rpP rpV kS)).R ma U (scZ (s.2.1.getD f zA).1,(H,(s.2.1.getD f zA).2.2))/\RL (rpS rpI) ma M D/\RL (rpS rpI) ma J G/\H.oneCell'=true/\i<=(s.2.1.getD f zA).2.1.length/\D=s6 s ix f i/\G=ouL s ix f i),[(1,vI ↑f),(2,vix),(3,vP b3 0),(6,vP b6 0),(7,ao),(8,vP b8 0),(9,C),(10,vI ↑i)],[.gs 22 1 H G.length J,.gs 22 1 C D.length M,.var b8 53 U,.var b6 53 ar,.var b3 39 au],ma,(s.2.1.getD f zA).2.1.length-i)) (0,[],[],cq,(.slice none 0 0),[],(.slice none 0 0),[],h2) ?_ ?_
 · exact⟨mle,((Le.p (Le.p (Le.t (Le.q (l:=4*m+11) oM)) (Le.q (l:=m+n+11) oM)) (Le.refl _)).R cf),ca,bz,I,by omega,I,I⟩
 rintro⟨i,D,G,U,C,M,H,J,ma⟩ ⟨ft,ab,aa,ad,bp,ie,hD,hG⟩
 refine yX ?_;have io:D.length<=i:=by rw[hD];exact zPM s ix f i
 have il:G.length<=i:=by rw[hG];exact pQ _ _ i
 refine gc9 (λco=>?_) λco=>?_
 ·
  refine dT ?_;refine xM 3 1 ?_;have bg:=RL.nil (ρ:=rpI) (h:=ma);refine gcL (ι:=Nat×List Int×Value×List Value×Mem) (λ(q,EL,Z,ah,mb)=>(MLe ma mb/\(RL rpI mb ah EL/\q<=((s.2.1.getD f zA).2.1.getD i []).length/\EL=nwL s ix f i q),[(1,vI ↑f),(2,vix),(3,vP b3 0),(6,vP b6 0),(7,ao),(8,vP b8 0),(9,C),(10,vI ↑i),(11,Z),(12,vI ↑q)],[.gs 3 1 Z EL.length ah,.gs 22 1 H G.length J,.gs 22 1 C D.length M,.var b8 53 U,.var b6 53 ar,.var b3 39 au],mb,((s.2.1.getD f zA).2.1.getD i []).length-q)) (0,[],(.slice none 0 0),[],ma) ?_ ?_
  · exact⟨mle,bg,by omega,I⟩
  rintro⟨q,EL,Z,ah,mb⟩ ⟨fs,aj,ia,hE⟩
  refine yX ?_;have im:EL.length=q:=by rw[hE];exact yZ _ _
  have ci:=cj.2 i oM;refine go5 ?_;refine lX (xB fD (Pc.snd (Pc.fst pH)) ak) λha eb=>(go1 ?_);refine lX (xI zA f underlying36 bE eb) λgz ea=>(lX (xF underlying53 sizeOf51 (Pc.snd (Pc.fst pH)) ea) λgy dz=>(lX (xA bY dz) λgx dy=>(go1 ?_)));refine lX (xI [] i underlying51 tF dy) λgw dx=>(lX (xA tF dx) λgu hq=>(gc4 (λcn=>?_) λcn=>?_))
  ·
   refine go8 ?_;refine lX (xB fD (Pc.snd (Pc.fst pH)) ak) λgt dw=>(go1 ?_);refine lX (xI zA f underlying36 bE dw) λgr dv=>(lX (xF underlying53 sizeOf51 (Pc.snd (Pc.fst pH)) dv) λgq du=>(lX (xA bY du) λgo dt=>(go1 ?_)));refine lX (xI [] i underlying51 tF dt) λgn dr=>(lX (xA tF dr) λgm dq=>(go1 ?_));refine lX (xI (0:Int) q underlying22 ty3 dq) λgk dp=>(lX (xA ty3 dp) λgj dn=>?_);obtain⟨rfl,fv,fp⟩:=kJ dn;refine zKB (F:=λv_=>AtP rpI mb v_ (ix.getD ((((s.2.1.getD f zA).2.1.getD i []).getD q 0).toNat) (0:Int))) (rD (0:Int) ((((s.2.1.getD f zA).2.1.getD i []).getD q 0).toNat) underlying22 ty3 I I rix.up (by(have:=hcd5 i oM q oM;omega)) (by(have:=hcd5 i oM q oM;omega)) nP) zBA I ?_;intro gh dm;refine lX (xA ty3 dm) λgg dl=>?_;obtain⟨rfl,fu,fo⟩:=kJ dl;refine zI (zL (ρ:=rpI) (m:=1) (xs:=[(ix.getD ((((s.2.1.getD f zA).2.1.getD i []).getD q 0).toNat) (0:Int))]) (ps':=[(0,_)]) underlying22 jX I I I wL e2z (zD I (Pc.arr (Pc.here _) (0:Int) 0 dC) (wI oM oM) zO) (show 1*1<=16777216 from by decide) nP) I I I ?_
   rintro gf hw ⟨fx,rfl,ce⟩
   refine zS (A:=[]) (ρ:=rpI) ce ?_;intro h3 cm bc;refine xS (A:=[]) (uT (zV (ρ:=rpI) (bytes:=8) underlying22 jX I I I I nP I I aj.up bc bO bO)) I I I ?_
   rintro da hv ⟨fq,cu,rfl,cd⟩
   refine go9 ?_;refine gqL ((q+1),(EL++[(ix.getD ((((s.2.1.getD f zA).2.1.getD i []).getD q 0).toNat) (0:Int))]),da,cu,h3) ?_ ?_
   · exact⟨mle,cd,by omega,by rw[hE];rfl⟩
   omega
  have eq:q=((s.2.1.getD f zA).2.1.getD i []).length:=by omega
  have ci:=cj.2 i oM;refine go8 ?_;refine zS (A:=[]) (ρ:=rpI) aj.up ?_;intro h3 cm bb;refine cL (ev1 I) call138 (λw hs=>zOU hs bb oM) λbw h4 cl am=>?_;replace am:=Rp.Is.cast (y:=(nfL s ix f i)) am (by rw[hE,eq];rfl);refine go8 ?_;refine lX (xI [] i underlying76 vY en) λge dk=>(lX (xA vY dk) λgc dj=>(cL (ev1 I) call131 (λw hs=>pO hs dj oM (by first|omega|(have:=ew.2 i;rw[<-eu.2 i] at this;omega))) λgb h5 ih di=>(cL (ev1 I) call48 (λw hs=>vM hs di dC) λcz h6 ig dh=>?_)));obtain rfl:cz=vI (yR (uQ ((gJ s f).getD i []) 0 1 ((gJ s f).getD i []).length)):=dh;have ep:=yV (uQ ((gJ s f).getD i []) 0 1 ((gJ s f).getD i []).length);refine gc3 (λac=>?_) λac=>?_
  ·
   refine go3 ?_;refine lX (aA (xB bY (Pc.snd (Pc.fst pH)) ab)) λga df=>?_;subst df;refine go1 ?_;refine zI (zL (ρ:=(rpS rpI)) (m:=1) (xs:=[(nfL s ix f i)]) (ps':=[(0,_)]) underlying51 jE I I I wN e2z (zD I (Pc.arr (Pc.here _) [] 0 dC) am.up zO) (show 1*1<=16777216 from by decide) nP) I I I ?_
   rintro fz hu ⟨fw,rfl,cc⟩
   refine zS (A:=[]) (ρ:=(rpS rpI)) cc ?_;intro h7 br ba;refine xS (A:=[]) (uT (zV (ρ:=(rpS rpI)) (bytes:=24) underlying51 jE I I I I nP I I ad.up ba bO bO)) I I I ?_
   rintro cy ht ⟨av,ct,rfl,cb⟩
   refine go1 ?_;refine yB (A:=[_,_]) (uB sizeOf51 (Pc.snd (Pc.fst pH)) ab (s4 av)) λbu bm=>(qA ?_);refine gqL ((i+1),D,(G++[(nfL s ix f i)]),bu,C,M,cy,ct,h7) ?_ ?_
   · exact⟨mle,bm,aa.up,cb,av,by omega,by rw[hD];exact(if_pos ac).symm,by rw[hG];exact zAQ (p:=zDO s f) ac⟩
   omega
  refine go5 ?_;refine gv (kP mh1 underlying51 I) I (go5 ?_);refine gcL (ι:=Nat×Mem) (λ(O,mk)=>(MLe h6 mk/\(O<=D.length/\aK (zXV (nfL s ix f i) D) D.length=aK (zXV (nfL s ix f i) D) O),[(1,vI ↑f),(2,vix),(3,vP b3 0),(6,vP b6 0),(7,ao),(8,vP b8 0),(9,C),(10,vI ↑i),(11,bw),(13,vI ↑O)],[.gs 22 1 H G.length J,.gs 22 1 C D.length M,.var b8 53 U,.var b6 53 ar,.var b3 39 au],mk,O)) (D.length,h6) ?_ ?_
  · exact⟨mle,by omega,I⟩
  rintro⟨O,mk⟩ ⟨fr,ib,ck⟩
  refine yX ?_;refine go5 ?_;refine qB (ι:=Mem) 10 (λm_=>MLe mk m_) (λ_=>[(97,vB (((0:Int)<(↑O:Int))/\((cE (nfL s ix f i) (D.getD (O-1) []))<(0:Int)))),(1,vI ↑f),(2,vix),(3,vP b3 0),(6,vP b6 0),(7,ao),(8,vP b8 0),(9,C),(10,vI ↑i),(11,bw),(13,vI ↑O)]) (λ_=>[.gs 22 1 H G.length J,.gs 22 1 C D.length M,.var b8 53 U,.var b6 53 ar,.var b3 39 au]) (λm_=>m_) ?_ ?_
  ·
   refine zY ((0:Int)<(↑O:Int)) (λhg=>?_) (λhg=>?_)
   ·
    refine gT hg I (go9 ?_);refine gv ((xO (O-1) mh1 underlying51 sizeOf22 I I oM oM nP).cv (show _=zM 1 C (((O-1)*1+0)) from congrArg (zM 1 C) zok)) I (go1 ?_);refine zKB (F:=λv_=>(rpS rpI).Is mk v_ (D.getD (O-1) [])) (wZ tF (Pc.arr (Pc.here _) [] (O-1) oM) I nP I aa.up I) (sW mh1) I ?_;intro fy de;refine go1 ?_;refine cL (ev2 I I) call139 (λw hs=>zDF hs am.up de) λcw h7 br dd=>?_;obtain rfl:cw=vI (cE (nfL s ix f i) (D.getD (O-1) [])):=dd;have ev:=s8 (nfL s ix f i) (D.getD (O-1) []);refine go4 ?_;refine zR h7 br ⟨?_,I,I,I,I,I,I,I,I,I,I,trivial⟩ I I;exact congrArg some (xC hg)
   refine gF hg I (uE ?_);refine zR mk (MLe.refl _) ⟨?_,I,I,I,I,I,I,I,I,I,I,trivial⟩ I I;exact congrArg some (xD hg)
  intro ap bv;refine tZ ?_;refine gc2 (λan=>?_) λan=>?_
  ·
   refine go9 ?_;refine gqL ((O-1),ap) ?_ ?_ (he:=⟨I,I,I,I,I,I,I,I,I,congrArg (λz=>some (vI z)) oM,trivial⟩)
   · exact⟨mle,by omega,by rw[ck];exact zPU oM an.2⟩
   omega
  refine go8 ?_;refine zI (zL (ρ:=(rpS rpI)) (m:=1) (xs:=[[]]) (ps':=[(0,_)]) underlying51 jE I I I wN e2z (zD I (Pc.arr (Pc.here _) [] 0 dC) (oN _) zO) (show 1*1<=16777216 from by decide) nP) I I I ?_
  rintro fi fm ⟨fc,rfl,bj⟩
  refine zS (A:=[]) (ρ:=(rpS rpI)) bj ?_;intro h7 br az;refine xS (A:=[_]) (uT (zV (ρ:=(rpS rpI)) (bytes:=24) underlying51 jE I I I I nP I I aa.up az bO bO)) I I I ?_
  rintro ai fl ⟨er,fb,rfl,bi⟩
  refine go4 ?_;refine lD (A:=[_]) (by rw[lAz];exact Nat.succ_pos _) (λob ip bn bo=>?_);refine qH (A:=[_]) 8 [] [(0,.q),(1,.q),(2,.q),(3,.q),(4,.q),(5,.q),(6,.q),(7,.c)] zX nX zob nX (go3 ?_);refine wB I (λ_ _=>jC (O+1) underlying51 sizeOf22 I I ⟨_,_,bn,bo⟩ oM zoh) I (go2 ?_);refine wB I (λ_ _=>jC O underlying51 sizeOf22 I I ⟨_,_,bn,bo⟩ oM zoh) I ?_;refine w_c I (fR (A:=[_]) (λX=>nT (ρ:=(rpS rpI)) O bn bo underlying51 sizeOf22 I I zoh bi) I (xJ zof) ?_)
  rintro fh fk ⟨ez,rfl,bf⟩
  refine go6 ?_;refine gv ((xO O mh1 underlying51 sizeOf22 I I oM (by rw[fE zoh];simp only[lAz,lC,lN];omega) nP).cv (show _=zM 1 ai ((O*1+0)) from congrArg (zM 1 ai) zok)) I (fN (A:=[_]) (F:=λc_=>RL (rpS rpI) h7 c_ ((tW (D++[[]]) O).set O (nfL s ix f i))) (cM sizeOf22 (Pc.arr (Pc.here _) [] O (by rw[fE zoh];simp only[lAz,lC,lN];omega)) I nP I I bf am.up I) ?_);intro bt be;refine go8 ?_;refine gqL ((i+1),((tW (D++[[]]) O).set O (nfL s ix f i)),G,U,ai,bt,H,J,h7) ?_ ?_
  · exact⟨mle,ab.up,be,ad.up,bp,by omega,by rw[nR oM];have es:aK (zXV (nfL s ix f i) D) D.length=O:=by{rw[ck];exact zGV (λe=>an ⟨by omega,e.2⟩)};rw[<-es,hD];exact(if_neg ac).symm,by rw[hG];exact zAR (p:=zDO s f) ac⟩
  omega
 have ei:i=(s.2.1.getD f zA).2.1.length:=by omega
 refine go8 ?_;refine lX (aA (xB bY (Pc.snd (Pc.fst pH)) ab)) λfg ch=>?_;subst ch;refine go1 ?_;refine zS (A:=[_]) (ρ:=(rpS rpI)) aa.up ?_;intro h3 cm ay;refine xS (A:=[]) (uT (zV (ρ:=(rpS rpI)) (bytes:=24) underlying51 jE I I I I nP I I ad.up ay bO bO)) I I I ?_
 rintro ff fj ⟨bq,fa,rfl,bh⟩
 refine go1 ?_;refine yB (A:=[_]) (uB sizeOf51 (Pc.snd (Pc.fst pH)) ab (s4 bq)) λbs ae=>(go4 ?_);refine zS (A:=[]) (ρ:=(rpS rpI)) bh ?_;intro h4 cl ax;replace ae:=ae.mono cl;have bl:(tFc (4*m+11) (m+n+11)).R h4 bs ((scZ (s.2.1.getD f zA).1,(H,(s.2.1.getD f zA).2.2)).1,((G++D),((scZ (s.2.1.getD f zA).1,(H,(s.2.1.getD f zA).2.2)).2).2)):=zG1 ae ax;refine lX (xB bE pH bl) λfe cg=>?_;have aw:=(Le.p (Le.p (Le.t (Le.q (l:=4*m+11) oM)) (Le.q (l:=m+n+11) oM)) (Le.refl _)).R dc;refine yB (A:=[_]) (uB sizeOf53 pH aw cg) λey bk=>(go3 ?_);refine wT (kE (t:=6) bE mh1 I bk) ?_;intro fd aq bd;refine yW (λE S=>zW I aq E S) ?_;exact(Rp.Is.cast bd (by rw[hD,hG,ei];rfl))
theorem zS3{k m n j:Nat}{vs:Value}{s:Sq}(rs:(tSd k m n j).Is h0 vs s)(hcd0:s.2.1.length<=100000):
 Calls Tryz.prog 141 #[vs] w0 (Ret w0 h0 (λh r=>(rpS tE5).Is h r (szZ s))):=by
 refine cb1 52 vs func141 hs ?_;refine go2 ?_;refine nB rs λb1 au M=>(sZ ?_);refine xM 200 5 ?_;have ai:=RL.nil (ρ:=rpP rpI (rpP rpI (rpP rpI (rpP rpI rpI)))) (h:=h0);refine gcL (ι:=Nat×List (Int×Int×Int×Int×Int)×Value×List Value×Mem) (λ(f,D,G,H,mf)=>(MLe h0 mf/\(RL tE5 mf H D/\f<=s.2.1.length/\D=yEZ s f),[(1,vP b1 0),(3,G),(4,vI ↑f)],[.gs 200 5 G D.length H,.var b1 39 au],mf,s.2.1.length-f)) (0,[],(.slice none 0 0),[],h0) ?_ ?_
 · exact⟨mle,ai,by omega,I⟩
 rintro⟨f,D,G,H,mf⟩ ⟨bj,J,ci,hD⟩
 refine yX ?_;have cj:D.length<=f:=by rw[hD];exact pQ _ _ f
 refine go5 ?_;refine lX (xB fD (Pc.snd (Pc.fst pH)) M) λv7 r7=>(gc4 (λbi=>?_) λbi=>?_)
 ·
  refine go7 ?_;refine lX (xB fD (Pc.snd (Pc.fst pH)) M) λca bg=>(go1 ?_);refine lX (xI zA f underlying36 bE bg) λbz bf=>(lX (xF underlying53 sizeOf51 (Pc.snd (Pc.fst pH)) bf) λbx be=>(lX (xA bY be) λbw bd=>(cL (ev1 I) call178 (λw hs=>iD hs bd) λax h1 ap bc=>?_)));obtain rfl:ax=vB (vfP (((s.2.1.getD f zA).2).1)):=bc;refine go1 ?_;refine qB (ι:=Mem) 6 (λm_=>MLe h1 m_) (λ_=>[(25,vB ((¬(vfP (((s.2.1.getD f zA).2).1)))\/(¬(nmP s (↑f:Int).toNat)))),(1,vP b1 0),(3,G),(4,vI ↑f)]) (λ_=>[.gs 200 5 G D.length H,.var b1 39 au]) (λm_=>m_) ?_ ?_
  ·
   refine zY (¬(vfP (((s.2.1.getD f zA).2).1))) (λC=>?_) (λC=>?_)
   ·
    refine gT C I (go6 ?_);refine zR h1 (MLe.refl _) ⟨?_,I,I,I,trivial⟩ I I;exact congrArg some (vH C)
   refine gF C I (go1 ?_);refine lX (xB qK pH M) λbv bb=>(go3 ?_);refine cL (ev2 I I) call158 (λw hs=>zH6 hs bb oM oM oM (by first|omega|exact Nat.le_trans (Classical.not_not.1 C).1.2 dC|exactλl hl=>Nat.le_trans ((Classical.not_not.1 C).2 l hl).1.2 dC) (by first|omega|exact Nat.le_trans (Classical.not_not.1 C).1.2 dC|exactλl hl=>Nat.le_trans ((Classical.not_not.1 C).2 l hl).1.2 dC) (by first|omega|exact Nat.le_trans (Classical.not_not.1 C).1.2 dC|exactλl hl=>Nat.le_trans ((Classical.not_not.1 C).2 l hl).1.2 dC)) λaw h2 aa ba=>?_;obtain rfl:aw=vB (nmP s (↑f:Int).toNat):=ba;refine go4 ?_;refine zR h2 aa ⟨?_,I,I,I,trivial⟩ I I;exact congrArg some (vJ C)
  intro U ao;refine tZ ?_;refine gc2 (λO=>?_) λO=>?_
  ·
   have Z:szP s f:=O;refine go3 ?_;refine cL (vs:=[vI (1),_,vI (-1),vI (-1)]) e4z call179 (λw hs=>j7 hs dC dC oM oM dC dC dC dC) λbu h2 aa az=>(zI (zL (ρ:=tE5) (m:=1) (xs:=[dg (1:Int) (↑f:Int) (-1:Int) (-1:Int)]) (ps':=[(0,_)]) underlying133 jL I I I (yD wL (yD wL (yD wL (yD wL wL)))) e2z (zD I (Pc.arr (Pc.here _) e50 0 dC) az zO) (show 1*5<=16777216 from by decide) nP) I I I ?_)
   rintro bt ch ⟨bm,rfl,an⟩
   refine zS (A:=[]) (ρ:=tE5) an ?_;intro h3 bh ah;refine xS (A:=[]) (zV (ρ:=tE5) (bytes:=40) underlying133 jL I I I I nP I I J.up ah bO bO) I I I ?_
   rintro av cg ⟨ar,rfl,am⟩
   refine go9 ?_;refine gqL ((f+1),(D++[dg (1:Int) (↑f:Int) (-1:Int) (-1:Int)]),av,ar,h3) ?_ ?_
   · exact⟨mle,am,by omega,by rw[hD];exact zAQ Z⟩
   omega
  have Z:¬szP s f:=O;refine go8 ?_;refine gqL ((f+1),D,G,H,U) ?_ ?_
  · exact⟨mle,J.up,by omega,by rw[hD];exact zAR Z⟩
  omega
 have ef:f=s.2.1.length:=by omega
 refine go9 ?_;refine lX (xB vY (Pc.fst pH) M) λbs cd=>(go2 ?_);refine gU 6 40 (vB (((512:Int)<(↑(s.1).length:Int))\/((256:Int)<(↑(s.2.1).length:Int)))) ?_ ?_
 ·
  refine zY ((512:Int)<(↑(s.1).length:Int)) (λC=>?_) (λC=>?_)
  ·
   refine gT C I (go6 ?_);refine gqU ?_;exact congrArg some (vH C)
  refine gF C I (go3 ?_);refine lX (xB fD (Pc.snd (Pc.fst pH)) M) λbr cc=>(go6 ?_);refine gqU ?_;exact congrArg some (vJ C)
 refine gU 6 46 (vB ((((512:Int)<(↑(s.1).length:Int))\/((256:Int)<(↑(s.2.1).length:Int)))\/((1024:Int)<(↑(s.2.2).length:Int)))) ?_ ?_
 ·
  refine zY (((512:Int)<(↑(s.1).length:Int))\/((256:Int)<(↑(s.2.1).length:Int))) (λC=>?_) (λC=>?_)
  ·
   refine gT C I (go6 ?_);refine gqU ?_;exact congrArg some (vH C)
  refine gF C I (go3 ?_);refine lX (xB yIN (Pc.snd (Pc.snd pH)) M) λbq cb=>(go6 ?_);refine gqU ?_;exact congrArg some (vJ C)
 refine gc2 (λaq=>?_) λaq=>?_
 ·
  have ab:zNF s:=by unfold zNF;omega
  refine go2 ?_;refine cL (vs:=[vI (2),vI (-1),vI (-1),vI (-1)]) e4z call179 (λw hs=>j7 hs dC dC dC dC dC dC dC dC) λbp h1 ap ay=>(zI (zL (ρ:=tE5) (m:=1) (xs:=[dg (2:Int) (-1:Int) (-1:Int) (-1:Int)]) (ps':=[(0,_)]) underlying133 jL I I I (yD wL (yD wL (yD wL (yD wL wL)))) e2z (zD I (Pc.arr (Pc.here _) e50 0 dC) ay zO) (show 1*5<=16777216 from by decide) nP) I I I ?_)
  rintro bo cf ⟨bl,rfl,ak⟩
  refine zS (A:=[]) (ρ:=tE5) ak ?_;intro h2 aa ae;refine xS (A:=[]) (zV (ρ:=tE5) (bytes:=40) underlying133 jL I I I I nP I I J.up ae bO bO) I I I ?_
  rintro bn ce ⟨bk,rfl,aj⟩
  refine uE ?_;refine wO (A:=[]) (ρ:=tE5) aj ?_;intro h3 bh ad;refine zC I I ?_;exact(Rp.Is.cast ad (by rw[hD,ef];exact(if_pos ab).symm))
 have ab:¬zNF s:=by unfold zNF;omega
 refine go9 ?_;refine wO (A:=[]) (ρ:=tE5) J.up ?_;intro h1 ap ac;refine zC I I ?_;exact(Rp.Is.cast ac (by rw[hD,ef];exact(if_neg ab).symm))
theorem zS1{k m n j:Nat}{vs:Value}{s:Sq}(rs:(tSd k m n j).Is h0 vs s)(hcd0:s.1.length<=100000)(hcd1:k<=100000000):
 Calls Tryz.prog 142 #[vs] w0 (Ret w0 h0 (λh r=>(rpS tE5).Is h r (zKV s s.1.length))):=by
 refine cb1 35 vs func142 hs ?_;refine go2 ?_;refine nB rs λb1 aj U=>(sZ ?_);refine xM 200 5 ?_;have aa:=RL.nil (ρ:=rpP rpI (rpP rpI (rpP rpI (rpP rpI rpI)))) (h:=h0);refine gcL (ι:=Nat×List (Int×Int×Int×Int×Int)×Value×List Value×Mem) (λ(f,D,C,G,mf)=>(MLe h0 mf/\(RL tE5 mf G D/\f<=s.1.length/\D=zKV s f),[(1,vP b1 0),(3,C),(4,vI ↑f)],[.gs 200 5 C D.length G,.var b1 39 aj],mf,s.1.length-f)) (0,[],(.slice none 0 0),[],h0) ?_ ?_
 · exact⟨mle,aa,by omega,I⟩
 rintro⟨f,D,C,G,mf⟩ ⟨ay,H,bo,hD⟩
 refine yX ?_;have bp:D.length<=f:=by rw[hD];exact pQ _ _ f
 refine go5 ?_;refine lX (xB vY (Pc.fst pH) U) λv8 r8=>(gc4 (λah=>?_) λah=>?_)
 ·
  refine uE ?_;refine gcL (ι:=Nat×Mem) (λ(q,mb)=>(MLe mf mb/\(q<=f/\∀u,u<q->¬gp s.1 f=gp s.1 u),[(1,vP b1 0),(3,C),(4,vI ↑f),(5,vI ↑q)],[.gs 200 5 C D.length G,.var b1 39 aj],mb,f-q)) (0,mf) ?_ ?_
  · exact⟨mle,by omega,λu h=>by omega⟩
  rintro⟨q,mb⟩ ⟨az,bl,ad⟩
  refine yX ?_;refine gc8 (λae=>?_) λae=>?_
  ·
   refine go5 ?_;refine zK 11 _ [] [(0,.q),(1,.q),(2,.q),(3,.q),(4,.q),(5,.q),(6,.q),(7,.q),(8,.q),(9,.q),(10,.c)] zX nX zob nX (λr hr=>hr) (go1 ?_);refine wX I (xB vY (Pc.fst pH) U) λbi aw=>(go1 ?_);refine wX I (xI zT f underlying35 zH aw) λbh av=>(wX I (xA zH av) λbg au=>(go1 ?_));refine wX I (xB vY (Pc.fst pH) U) λbf ar=>(go1 ?_);refine wX I (xI zT q underlying35 zH ar) λbe aq=>(wX I (xA zH aq) λbd ap=>?_);refine w_c I (sC (ev2 I I) call35 (λw hs=>dG hs au ap oM) λam h1 ax ao=>?_);obtain rfl:am=vB ((s.1.getD f zT)=(s.1.getD q zT)):=ao;refine gc2 (λJ=>?_) λJ=>?_
   ·
    have Z:twP s f:=⟨q,by omega,J⟩;refine go4 ?_;refine cL (vs:=[vI (37),vI (-1),vI (-1),_]) e4z call179 (λw hs=>j7 hs dC dC dC dC dC dC oM oM) λbc h2 bn an=>(zI (zL (ρ:=tE5) (m:=1) (xs:=[dg (37:Int) (-1:Int) (-1:Int) (↑f:Int)]) (ps':=[(0,_)]) underlying133 jL I I I (yD wL (yD wL (yD wL (yD wL wL)))) e2z (zD I (Pc.arr (Pc.here _) e50 0 dC) an zO) (show 1*5<=16777216 from by decide) nP) I I I ?_)
    rintro bb bk ⟨ba,rfl,ac⟩
    refine zS (A:=[]) (ρ:=tE5) ac ?_;intro h3 bm O;refine xS (A:=[]) (zV (ρ:=tE5) (bytes:=40) underlying133 jL I I I I nP I I H.up O bO bO) I I I ?_
    rintro ak bj ⟨ai,rfl,ab⟩
    refine sZ ?_;refine gqL ((f+1),(D++[dg (37:Int) (-1:Int) (-1:Int) (↑f:Int)]),ak,ai,h3) ?_ ?_
    · exact⟨mle,ab,by omega,by rw[hD];exact zAQ Z⟩
    omega
   refine go8 ?_;refine gqL ((q+1),h1) ?_ ?_
   · exact⟨mle,by omega,xR (Q:=λu=>¬gp s.1 f=gp s.1 u) ad J⟩
   omega
  have Z:¬twP s f:=λ⟨u,h1,h2⟩=>ad u oM h2;refine qA ?_;refine gqL ((f+1),D,C,G,mb) ?_ ?_
  · exact⟨mle,H.up,by omega,by rw[hD];exact zAR Z⟩
  omega
 have ef:f=s.1.length:=by omega
 refine uS ?_;refine wO (A:=[]) (ρ:=tE5) H.up ?_;intro h1 ax M;refine zC I I ?_;exact(Rp.Is.cast M (by rw[hD,ef]))
theorem zOV{k m n j:Nat}{vs:Value}{s:Sq}(rs:(tSd k m n j).Is h0 vs s)(hcd0:k<=1000)(hcd1:m<=100000)(hcd2:n<=100000)(hcd3:s.1.length<=100000)(hcd4:∀f,f<s.2.1.length->(s.2.1.getD f zA).2.1.length<=10000/\∀l,l<(s.2.1.getD f zA).2.1.length->((s.2.1.getD f zA).2.1.getD l []).length<=10000)(hcd5:s.2.1.length<=1000)(hcd6:s.1.length<=100000)(hcd7:∀f,f<s.2.1.length->(s.2.1.getD f zA).2.1.length<=16/\∀l,l<(s.2.1.getD f zA).2.1.length->((s.2.1.getD f zA).2.1.getD l []).length<=64):
 Calls Tryz.prog 143 #[vs] w0 (Ret w0 h0 (λh r=>(rpS tE5).Is h r (plZ s))):=by
 refine cb1 74 vs func143 hs ?_;refine go2 ?_;refine nB rs λb1 aq an=>(dT ?_);refine xM 200 5 ?_;have az:=RL.nil (ρ:=rpP rpI (rpP rpI (rpP rpI (rpP rpI rpI)))) (h:=h0);refine xM 200 5 ?_;have ay:=RL.nil (ρ:=rpP rpI (rpP rpI (rpP rpI (rpP rpI rpI)))) (h:=h0);refine gcL (ι:=Nat×List (Int×Int×Int×Int×Int)×List (Int×Int×Int×Int×Int)×Value×List Value×Value×List Value×Mem) (λ(f,D,G,ab,ac,J,aa,ma)=>(MLe h0 ma/\(RL tE5 ma ac D/\RL tE5 ma aa G/\f<=s.2.1.length/\D=zRX s f/\G=zOP s f),[(1,vP b1 0),(3,ab),(4,J),(5,vI ↑f)],[.gs 200 5 J G.length aa,.gs 200 5 ab D.length ac,.var b1 39 aq],ma,s.2.1.length-f)) (0,[],[],(.slice none 0 0),[],(.slice none 0 0),[],h0) ?_ ?_
 · exact⟨mle,az,ay,by omega,I,I⟩
 rintro⟨f,D,G,ab,ac,J,aa,ma⟩ ⟨cv,ae,ai,em,hD,hG⟩
 refine yX ?_;have eo:D.length<=f:=by rw[hD];exact pQ _ _ f
 have en:G.length<=1024*f:=by rw[hG];exact zWH hcd7 f oM
 have bi:=cW (s:=s) (f:=↑f) hcd7;refine go5 ?_;refine lX (xB fD (Pc.snd (Pc.fst pH)) an) λdz eb=>(gc4 (λbm=>?_) λbm=>?_)
 ·
  refine go4 ?_;refine jG (ι:=List (Int×Int×Int×Int×Int)×Value×List Value×Mem) (λ(ZR,C,H,mz)=>MLe ma mz/\(RL tE5 mz H ZR/\ZR=zRX s (f+1))) (λ(ZR,C,H,mz)=>[(1,vP b1 0),(3,C),(4,J),(5,vI ↑f)]) (λ(ZR,C,H,mz)=>[.gs 200 5 J G.length aa,.gs 200 5 C ZR.length H,.var b1 39 aq]) (λ(ZR,C,H,mz)=>mz) ?_ ?_
  ·
   refine go3 ?_;refine lX (xB fD (Pc.snd (Pc.fst pH)) an) λdy cm=>(go1 ?_);refine lX (xI zA f underlying36 bE cm) λdx cl=>(lX (xF underlying53 sizeOf50 (Pc.fst pH) cl) λdw ck=>(lX (xF underlying50 sizeOf31 (Pc.fst pH) ck) λdv cj=>(lX (xA zH cj) λdu ci=>(cL (ev1 I) call80 (λw hs=>aP hs ci oM) λbs h1 aj ch=>?_))));obtain rfl:bs=vB ((((s.2.1.getD f zA).1).1)=zT):=ch;refine gc2 (λam=>?_) λam=>?_
   ·
    refine go3 ?_;refine cL (vs:=[vI (9),_,vI (-1),vI (-1)]) e4z call179 (λw hs=>j7 hs dC dC oM oM dC dC dC dC) λdt h2 bh cg=>(zI (zL (ρ:=tE5) (m:=1) (xs:=[dg (9:Int) (↑f:Int) (-1:Int) (-1:Int)]) (ps':=[(0,_)]) underlying133 jL I I I (yD wL (yD wL (yD wL (yD wL wL)))) e2z (zD I (Pc.arr (Pc.here _) e50 0 dC) cg zO) (show 1*5<=16777216 from by decide) nP) I I I ?_)
    rintro dr eg ⟨db,rfl,be⟩
    refine zS (A:=[]) (ρ:=tE5) be ?_;intro h3 bg aw;refine xS (A:=[_]) (zV (ρ:=tE5) (bytes:=40) underlying133 jL I I I I nP I I ae.up aw bO bO) I I I ?_
    rintro br ee ⟨bo,rfl,bd⟩
    refine go2 ?_;refine zR ((D++[dg (9:Int) (↑f:Int) (-1:Int) (-1:Int)]),br,bo,h3) ?_ e4z I I;refine⟨((aj.trans bh).trans bg),?_⟩;refine⟨bd,?_⟩;exact(by rw[hD];exact zAQ am)
   refine go1 ?_;refine zR (D,ab,ac,h1) ?_ e4z I I;refine⟨aj,?_⟩;refine⟨ae.up,?_⟩;exact(by rw[hD];exact zAR am)
  rintro⟨ZR,C,H,mz⟩ ⟨cq,hZ⟩
  refine yX ?_;obtain⟨ax,hZ⟩:=hZ;refine go2 ?_;refine lX (xB qK pH an) λdq cf=>(go1 ?_);refine cL (ev2 I I) call118 (λw hs=>iE hs cf oM oM (by first|omega|exact hcd4) (by first|omega|exact hcd4)) λba h1 aj bf=>(go9 ?_);refine gcL (ι:=Nat×List (Int×Int×Int×Int×Int)×Value×List Value×Mem) (λ(l,G1,O,Z,mb)=>(MLe h1 mb/\(RL tE5 mb Z G1/\l<=(xG s ↑f).length/\G1=zOP s f++ofL s f l),[(1,vP b1 0),(3,C),(4,O),(5,vI ↑f),(6,ba),(7,vI ↑l)],[.gs 200 5 O G1.length Z,.gs 200 5 C ZR.length H,.var b1 39 aq],mb,(xG s ↑f).length-l)) (0,G,J,aa,h1) ?_ ?_
  · exact⟨mle,ai.up,by omega,by rw[hG];exact(List.append_nil _).symm⟩
  rintro⟨l,G1,O,Z,mb⟩ ⟨cu,ah,eh,ap⟩
  refine yX ?_;have cp:=zFF (s:=s) hcd7 f l;have cz:G1.length<=1024*f+1024:=by rw[ap,lAz,<-hG];have:=bi.1;omega
  refine gc9 (λbl=>?_) λbl=>?_
  ·
   refine uE ?_;refine gcL (ι:=Nat×List (Int×Int×Int×Int×Int)×Value×List Value×Mem) (λ(i,G2,M,U,mc)=>(MLe mb mc/\(RL tE5 mc U G2/\i<=((xG s ↑f).getD l []).length/\G2=zOP s f++ofL s f l++ofX s f l i),[(1,vP b1 0),(3,C),(4,M),(5,vI ↑f),(6,ba),(7,vI ↑l),(8,vI ↑i)],[.gs 200 5 M G2.length U,.gs 200 5 C ZR.length H,.var b1 39 aq],mc,((xG s ↑f).getD l []).length-i)) (0,G1,O,Z,mb) ?_ ?_
   · exact⟨mle,ah,by omega,by rw[ap];exact(List.append_nil _).symm⟩
   rintro⟨i,G2,M,U,mc⟩ ⟨ct,ad,ej,ao⟩
   refine yX ?_;have cw:=bi.2 l;have co:(ofX s f l i).length<=i:=pQ _ _ i;have cy:G2.length<=1024*f+2048:=by rw[ao,lAz,<-ap];omega
   refine go6 ?_;refine lX (xI [] l underlying76 vY bf) λdp ce=>(lX (xA vY ce) λdn ea=>(gc4 (λbk=>?_) λbk=>?_))
   ·
    refine go5 ?_;refine zK 15 _ [] [(0,.q),(1,.q),(2,.q),(3,.q),(4,.q),(5,.q),(6,.q),(7,.q),(8,.q),(9,.q),(10,.q),(11,.q),(12,.q),(13,.c),(14,.q)] zX nX (wJ zob) nX (λr hr=>hr) (go1 ?_);refine wX I (xB fD (Pc.snd (Pc.fst pH)) an) λdm cd=>(go1 ?_);refine wX I (xI zA f underlying36 bE cd) λdl cc=>(wX I (xF underlying53 sizeOf50 (Pc.fst pH) cc) λdk cb=>(wX I (xA bZ cb) λdj ca=>(go2 ?_)));refine wX I (xI [] l underlying76 vY bf) λdi bz=>(wX I (xA vY bz) λdh bx=>(go1 ?_));refine wX I (xI zT i underlying35 zH bx) λdf bw=>(wX I (xA zH bw) λde bv=>?_);refine w_c I (sC (ev2 I I) call23 (λw hs=>zS0 hs ca bv oM oM oM) λbq h2 bh bu=>?_);obtain rfl:bq=vI (yR (xE ((s.2.1.getD f zA).1).1 (((xG s (↑f:Int)).getD l []).getD i zT)-((s.2.1.getD f zA).1).2)):=bu;have cn:=yV (xE ((s.2.1.getD f zA).1).1 (((xG s (↑f:Int)).getD l []).getD i zT)-((s.2.1.getD f zA).1).2);refine gc3 (λak=>?_) λak=>?_
    ·
     refine go5 ?_;refine cL (vs:=[vI (31),_,_,_]) e4z call179 (λw hs=>j7 hs dC dC oM oM oM oM oM oM) λdd h3 bg bt=>(zI (zL (ρ:=tE5) (m:=1) (xs:=[dg (31:Int) (↑f:Int) (↑l:Int) (↑i:Int)]) (ps':=[(0,_)]) underlying133 jL I I I (yD wL (yD wL (yD wL (yD wL wL)))) e2z (zD I (Pc.arr (Pc.here _) e50 0 dC) bt zO) (show 1*5<=16777216 from by decide) nP) I I I ?_)
     rintro dc ed ⟨da,rfl,bc⟩
     refine zS (A:=[]) (ρ:=tE5) bc ?_;intro h4 ek av;refine xS (A:=[]) (zV (ρ:=tE5) (bytes:=40) underlying133 jL I I I I nP I I ad.up av bO bO) I I I ?_
     rintro bp ec ⟨bn,rfl,bb⟩
     refine go9 ?_;refine gqL ((i+1),(G2++[dg (31:Int) (↑f:Int) (↑l:Int) (↑i:Int)]),bp,bn,h4) ?_ ?_
     · exact⟨mle,bb,by omega,by rw[ao,List.append_assoc,show ofX s f l i++_=_ from zAQ (p:=ofP s f l) ak];rfl⟩
     omega
    refine go8 ?_;refine gqL ((i+1),G2,M,U,h2) ?_ ?_
    · exact⟨mle,ad.up,by omega,by rw[ao,show ofX s f l i=_ from zAR (p:=ofP s f l) ak];rfl⟩
    omega
   have ei:i=((xG s ↑f).getD l []).length:=by omega
   refine qA ?_;refine gqL ((l+1),G2,M,U,mc) ?_ ?_
   · exact⟨mle,ad.up,by omega,by rw[ao,ei,List.append_assoc];rfl⟩
   omega
  have el:l=(xG s ↑f).length:=by omega
  refine qA ?_;refine gqL ((f+1),ZR,G1,C,H,O,Z,mb) ?_ ?_
  · exact⟨mle,ax.up,ah,by omega,hZ,by rw[ap,el];rfl⟩
  omega
 have ef:f=s.2.1.length:=by omega
 refine go9 ?_;refine gv (kP mh1 underlying133 I) I (gc3 (λbj=>?_) λbj=>?_)
 ·
  refine go8 ?_;refine wO (A:=[_]) (ρ:=tE5) ae.up ?_;intro h1 aj au;refine zC I I ?_;exact(Rp.Is.cast au (by rw[hD,ef];exact(if_pos (by rw[<-ef,<-hD];omega)).symm))
 refine go9 ?_;refine wO (A:=[]) (ρ:=tE5) ai.up ?_;intro h1 aj ar;refine zC I I ?_;exact(Rp.Is.cast ar (by rw[hG,ef];exact(if_neg (by rw[<-ef,<-hD];omega)).symm))
theorem zH5{k:Nat}{vL:Value}{L:(List (List Tq))}(rL:(tLL k).Is h0 vL L)(hcd0:k<=100000)(hcd1:∀l,l<L.length->(L.getD l []).length<=1000)(hcd2:L.length<=100000):
 Calls Tryz.prog 86 #[vL] w0 (Ret w0 h0 (λ_ r=>r=vI (ouZ L))):=by
 refine cb1 21 vL func86 hs ?_;refine mF ?_;refine gcL (ι:=Nat×Mem) (λ(m,O)=>(MLe h0 O/\(m<=L.length),[(0,vL),(3,vI (j4 L m)),(4,vI ↑m)],[],O,L.length-m)) (0,h0) ?_ ?_
 · exact⟨mle,oM⟩
 rintro⟨m,O⟩ ⟨aa,ae⟩
 refine yX ?_;have hor:=zAY L m;have ah:=hcd1 m;refine gc9 (λZ=>?_) λZ=>?_
 ·
  refine go8 ?_;refine lX (xI [] m underlying76 vY rL) λad M=>(lX (xA vY M) λac J=>(cL (ev1 I) call131 (λw hs=>pO hs J oM oM) λab h1 aj H=>(cL (ev1 I) call48 (λw hs=>vM hs H dC) λD h2 ai G=>?_)));obtain rfl:D=vI (yR (uQ (L.getD m []) 0 1 (L.getD m []).length)):=G;have U:=yV (uQ (L.getD m []) 0 1 (L.getD m []).length);refine gc3 (λC=>?_) λC=>?_
  ·
   refine uS ?_;refine gqL ((m+1),h2) ?_ ?_ (he:=⟨I,congrArg (λz=>some (vI z)) (ou_t C),I,trivial⟩)
   · exact⟨mle,oM⟩
   omega
  refine go8 ?_;refine gqL ((m+1),h2) ?_ ?_ (he:=⟨I,congrArg (λz=>some (vI z)) (ou_f C),I,trivial⟩)
  · exact⟨mle,oM⟩
  omega
 refine uS ?_;refine zC I I ?_;have em:m=L.length:=by omega
 subst em
 rfl
theorem zS6{k m n j:Nat}{vs:Value}{s:Sq}(rs:(tSd k m n j).Is h0 vs s)(hcd0:k<=1000)(hcd1:m<=100000)(hcd2:n<=100000)(hcd3:okS s):
 Calls Tryz.prog 144 #[vs] w0 (Ret w0 h0 (λh r=>(rpS tE5).Is h r (neZ s))):=by
 have cl:=hcd3.1.1.1;have ck:=hcd3.1.1.2;refine cb1 45 vs func144 hs ?_;refine go2 ?_;refine nB rs λb1 bh aw=>(dT ?_);refine xM 200 5 ?_;have ap:=RL.nil (ρ:=rpP rpI (rpP rpI (rpP rpI (rpP rpI rpI)))) (h:=h0);refine xM 200 5 ?_;have ao:=RL.nil (ρ:=rpP rpI (rpP rpI (rpP rpI (rpP rpI rpI)))) (h:=h0);refine gcL (ι:=Nat×List (Int×Int×Int×Int×Int)×List (Int×Int×Int×Int×Int)×Value×List Value×Value×List Value×Mem) (λ(f,D,G,O,U,J,M,ma)=>(MLe h0 ma/\(RL tE5 ma U D/\RL tE5 ma M G/\f<=s.2.1.length/\D=zYX s f/\G=yGE s f),[(1,vP b1 0),(3,O),(4,J),(5,vI ↑f)],[.gs 200 5 J G.length M,.gs 200 5 O D.length U,.var b1 39 bh],ma,s.2.1.length-f)) (0,[],[],(.slice none 0 0),[],(.slice none 0 0),[],h0) ?_ ?_
 · exact⟨mle,ap,ao,by omega,I,I⟩
 rintro⟨f,D,G,O,U,J,M,ma⟩ ⟨bt,aa,Z,cm,hD,hG⟩
 refine yX ?_;have co:D.length<=f:=by rw[hD];exact pQ _ _ f
 have cn:G.length<=f:=by rw[hG];exact pQ _ _ f
 have bb:=dP s f;have bc:=cW (s:=s) (f:=↑f) hcd3.2.1;have cj:=zME (gJ s f) 0 1;refine go5 ?_;refine lX (xB fD (Pc.snd (Pc.fst pH)) aw) λcd ce=>(gc4 (λbe=>?_) λbe=>?_)
 ·
  refine go6 ?_;refine lX (xB qK pH aw) λcc bq=>(go1 ?_);refine cL (ev2 I I) call111 (λw hs=>zFO (f:=f) hs bq oM oM oM (by first|omega|exact hcd3.big) (by first|omega|exact hcd3.big) (by first|omega|exact hcd3.big) (by first|omega|exact hcd3.big)) λbl h1 ba ax=>(go3 ?_);refine jG (ι:=List (Int×Int×Int×Int×Int)×Value×List Value×Mem) (λ(ZR,H,C,mz)=>MLe h1 mz/\(RL tE5 mz C ZR/\ZR=zYX s (f+1))) (λ(ZR,H,C,mz)=>[(1,vP b1 0),(3,H),(4,J),(5,vI ↑f),(6,bl)]) (λ(ZR,H,C,mz)=>[.gs 200 5 J G.length M,.gs 200 5 H ZR.length C,.var b1 39 bh]) (λ(ZR,H,C,mz)=>mz) ?_ ?_
  ·
   refine go3 ?_;refine cL (ev1 I) call85 (λw hs=>zH3 hs ax oM (by first|omega|exact hcd3.2.2 f oM)) λcb h2 an bp=>?_;obtain⟨ae,rfl,am⟩:=bp
   change (rpS rpI).Is h2 ae (sD (gJ s f) 0 1) at am
   refine sR ?_;refine cnd (λad=>?_) λad=>?_
   ·
    refine go4 ?_;refine cL (vs:=[_,_,vI (-1),vI (-1)]) e4z call179 (λw hs=>j7 hs oM oM oM oM dC dC dC dC) λca h3 az bo=>(zI (zL (ρ:=tE5) (m:=1) (xs:=[dg (vZ (gJ s f) 0 1) (↑f:Int) (-1:Int) (-1:Int)]) (ps':=[(0,_)]) underlying133 jL I I I (yD wL (yD wL (yD wL (yD wL wL)))) e2z (zD I (Pc.arr (Pc.here _) e50 0 dC) bo zO) (show 1*5<=16777216 from by decide) nP) I I I ?_)
    rintro bz ci ⟨bv,rfl,av⟩
    refine zS (A:=[]) (ρ:=tE5) av ?_;intro h4 ay ak;refine xS (A:=[_]) (zV (ρ:=tE5) (bytes:=40) underlying133 jL I I I I nP I I aa.up ak bO bO) I I I ?_
    rintro bk ch ⟨bg,rfl,au⟩
    refine go2 ?_;refine zR ((D++[dg (vZ (gJ s f) 0 1) (↑f:Int) (-1:Int) (-1:Int)]),bk,bg,h4) ?_ e5 I I;refine⟨((an.trans az).trans ay),?_⟩;refine⟨au,?_⟩;exact(by rw[hD];exact zAQ ad)
   refine go1 ?_;refine zR (D,O,U,h2) ?_ e5 I I;refine⟨an,?_⟩;refine⟨aa.up,?_⟩;exact(by rw[hD];exact zAR ad)
  rintro⟨ZR,H,C,mz⟩ ⟨bs,hZ⟩
  refine yX ?_;obtain⟨ab,hZ⟩:=hZ;refine go3 ?_;refine cL (ev1 I) call86 (λw hs=>zH5 hs ax.up oM (by first|omega|exactλl hl=>(by rw[bb.2 l];exact Nat.le_trans (bc.2 l) dC)) (by first|omega|exactλl hl=>(by rw[bb.2 l];exact Nat.le_trans (bc.2 l) dC))) λbj h2 an bn=>?_;obtain rfl:bj=vI (ouZ (gJ s f)):=bn;have br:=zAY (gJ s f) (gJ s f).length;refine gc3 (λac=>?_) λac=>?_
  ·
   refine go3 ?_;refine cL (vs:=[vI (33),_,vI (-1),vI (-1)]) e4z call179 (λw hs=>j7 hs dC dC oM oM dC dC dC dC) λbx h3 az bm=>(zI (zL (ρ:=tE5) (m:=1) (xs:=[dg (33:Int) (↑f:Int) (-1:Int) (-1:Int)]) (ps':=[(0,_)]) underlying133 jL I I I (yD wL (yD wL (yD wL (yD wL wL)))) e2z (zD I (Pc.arr (Pc.here _) e50 0 dC) bm zO) (show 1*5<=16777216 from by decide) nP) I I I ?_)
   rintro bw cg ⟨bu,rfl,ar⟩
   refine zS (A:=[]) (ρ:=tE5) ar ?_;intro h4 ay aj;refine xS (A:=[]) (zV (ρ:=tE5) (bytes:=40) underlying133 jL I I I I nP I I Z.up aj bO bO) I I I ?_
   rintro bi cf ⟨bf,rfl,aq⟩
   refine go9 ?_;refine gqL ((f+1),ZR,(G++[dg (33:Int) (↑f:Int) (-1:Int) (-1:Int)]),H,C,bi,bf,h4) ?_ ?_
   · exact⟨mle,ab.up,aq,by omega,hZ,by rw[hG];exact zAQ ac⟩
   omega
  refine go8 ?_;refine gqL ((f+1),ZR,G,H,C,J,M,h2) ?_ ?_
  · exact⟨mle,ab.up,Z.up,by omega,hZ,by rw[hG];exact zAR ac⟩
  omega
 have ef:f=s.2.1.length:=by omega
 refine go9 ?_;refine gv (kP mh1 underlying133 I) I (gc3 (λbd=>?_) λbd=>?_)
 ·
  refine go8 ?_;refine wO (A:=[_]) (ρ:=tE5) aa.up ?_;intro h1 ba ai;refine zC I I ?_;exact(Rp.Is.cast ai (by rw[hD,ef];exact(if_pos (by rw[<-ef,<-hD];omega)).symm))
 refine go9 ?_;refine wO (A:=[]) (ρ:=tE5) Z.up ?_;intro h1 ba ah;refine zC I I ?_;exact(Rp.Is.cast ah (by rw[hG,ef];exact(if_neg (by rw[<-ef,<-hD];omega)).symm))
theorem zS7{k m n j:Nat}{vs:Value}{s:Sq}(rs:(tSd k m n j).Is h0 vs s)(hcd0:k<=1000)(hcd1:m<=100000)(hcd2:n<=100000)(hcd3:okS s):
 Calls Tryz.prog 97 #[vs] w0 (Ret w0 h0 (λh r=>(rpS tE5).Is h r (zYP s))):=by
 have au:=hcd3.1.1.1;have ar:=hcd3.1.1.2;refine cb1 34 vs func97 hs ?_;refine go2 ?_;refine nB rs λb1 bb C=>(go6 ?_);refine lX (xB qK pH C) λv7 r7=>(cL (ev1 I) call141 (λw hs=>zS3 hs r7 (by first|omega|exact hcd3|exact hcd3.big|exact hcd3.mem|exact hcd3.2.1)) λv8 h1 ba r8=>(zCR (λJ=>?_) λJ=>?_))
 ·
  refine go8 ?_;refine zC I I ?_;exact(Rp.Is.cast r8 (by exact(if_pos oM).symm))
 refine go5 ?_;refine lX (xB qK pH C) λaq ae=>(cL (ev1 I) call142 (λw hs=>zS1 hs ae (by first|omega|exact hcd3|exact hcd3.big|exact hcd3.mem|exact hcd3.2.1) oM) λap h2 az ad=>(zCR (λH=>?_) λH=>?_))
 ·
  refine go8 ?_;refine zC I I ?_;exact(Rp.Is.cast ad (by exact((if_neg oM).trans (if_pos oM)).symm))
 refine go5 ?_;refine lX (xB qK pH C) λao ac=>(cL (ev1 I) call143 (λw hs=>zOV hs ac oM oM oM (by first|omega|exact hcd3|exact hcd3.big|exact hcd3.mem|exact hcd3.2.1) (by first|omega|exact hcd3|exact hcd3.big|exact hcd3.mem|exact hcd3.2.1) (by first|omega|exact hcd3|exact hcd3.big|exact hcd3.mem|exact hcd3.2.1) (by first|omega|exact hcd3|exact hcd3.big|exact hcd3.mem|exact hcd3.2.1) (by first|omega|exact hcd3|exact hcd3.big|exact hcd3.mem|exact hcd3.2.1)) λan h3 ay ab=>(zCR (λG=>?_) λG=>?_))
 ·
  refine go8 ?_;refine zC I I ?_;exact(Rp.Is.cast ab (by exact((if_neg oM).trans ((if_neg oM).trans (if_pos oM))).symm))
 refine go5 ?_;refine lX (xB qK pH C) λam aa=>(cL (ev1 I) call144 (λw hs=>zS6 hs aa oM oM oM (by first|omega|exact hcd3|exact hcd3.big|exact hcd3.mem|exact hcd3.2.1)) λak h4 ax Z=>(zCR (λD=>?_) λD=>?_))
 ·
  refine go8 ?_;refine zC I I ?_;exact(Rp.Is.cast Z (by exact((if_neg oM).trans ((if_neg oM).trans ((if_neg oM).trans (if_pos oM)))).symm))
 refine go4 ?_;refine lX (xB qK pH C) λaj U=>(cL (ev1 I) call136 (λw hs=>zH7 hs U (by first|omega|exact hcd3|exact hcd3.big|exact hcd3.mem|exact hcd3.2.1) (by first|omega|exact hcd3|exact hcd3.big|exact hcd3.mem|exact hcd3.2.1)) λai h5 aw O=>(cL (ev1 I) call145 (λw hs=>zLV hs O) λah h6 av M=>(go4 ?_)));refine zC I I ?_;exact(Rp.Is.cast M (by exact((if_neg oM).trans ((if_neg oM).trans ((if_neg oM).trans (if_neg oM)))).symm))
theorem zS2{k m n j:Nat}{vs:Value}{s:Sq}(rs:(tSd k m n j).Is h0 vs s)(hcd0:k<=1000)(hcd1:m<=100000)(hcd2:n<=100000)(hcd3:okS s):
 Calls Tryz.prog 62 #[vs] w0 (Ret w0 h0 (λ_ r=>r=vB (gC s))):=by
 refine cb1 7 vs func62 hs ?_;refine go2 ?_;refine nB rs λH G C=>(go5 ?_);refine lX (xB qK pH C) λv3 r3=>(cL (ev1 I) call97 (λw hs=>zS7 hs r3 oM oM oM (by first|omega|exact hcd3)) λv4 h1 D r4=>(go6 ?_));refine zC I I ?_;exact kA (by unfold gC;omega)
end
end Go.Proofs.YtpkaegemlpaenaaGreat
