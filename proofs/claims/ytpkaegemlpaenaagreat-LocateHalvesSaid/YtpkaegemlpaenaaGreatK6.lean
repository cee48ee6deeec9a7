/- Texts that the proof needs, part 6. -/
import Derived.Test.YtpkaegemlpaenaaGreatK5
import Derived.Scope
set_option linter.unusedVariables false
set_option linter.unusedSimpArgs false
namespace Bk
open Go Go.RowKit
open Classical
section
variable {P:Program}{n:Nat}{w0:World}{h0:Mem}{e:List (Nat×Value)}{L:List Res}{h:Mem}{Q:Exit->Act->World->Prop}
variable {ds:Option Tmp}{ty:TypeId}{ps:String}{af:Array Edge}{gd:Option (Nat×Bool)}
abbrev tB(u:Int×Int):Value:=.agg #[vI u.1,vI u.2]
def lW(es:Array MapEntry)(S:List (Int×Int)):Prop:=es.toList.map (λx=>(x.key,x.val))=S.map λu=>(tB u,Value.bool true)
theorem map_nil:lW #[] []:=rfl
theorem zME{t:TypeId}:lV P n w0 h0 ⟨ds,.makeMap t none,ty,ps,af,gd⟩ e L h (λu r=>∃b,u=.map (some b)/\r=.blk b (.map #[] 0)):=by
 intro a w D S;refine⟨_,w.alloc (.map #[] 0),.blk w.heap.size (.map #[] 0),?_,World.grownBy_alloc w _ none,zCI w _,λb C=>?_,_,I,I⟩
 · simp[execOp,Instr.makeMap,newObj,Sem.run]
 · simp only[Res.fp,Option.some.injEq] at C
   omega
structure MapTy(P:Program)(mt kt et it:TypeId):Prop where
 m:P.underlying mt=some (.map kt et)
 k:P.underlying kt=some (.array 2 it)
 i:P.underlying it=some (.int .i64)
 sz:∀w,(Go.sizeOf it).run P w=.ok 1 w
 ag:∀w,(isAgg it).run P w=.ok false w
 z:∀w,(zeroValue et).run P w=.ok (.bool false) w
variable {mt kt et it:TypeId}
theorem zV2(T:MapTy P mt kt et it)(x y:Int)(w:World):(part it #[vI x,vI y] 0).run P w=.ok (vI x) w:=by simp[part,Sem.run_bind,T.ag]
theorem zV1(T:MapTy P mt kt et it)(x y:Int)(w:World):(part it #[vI x,vI y] 1).run P w=.ok (vI y) w:=by simp[part,Sem.run_bind,T.ag]
theorem oD{w:World}{r:Nat}{es:Array MapEntry}{clock:Nat}(hb:w.heap[r]?=some (.map es clock)):(getObj r).run P w=.ok (.map es clock) w:=by
 simp[getObj,Sem.run,hb]
theorem zOA{w:World}{r:Nat}{es:Array MapEntry}{clock:Nat}(o:Obj)(hb:w.heap[r]?=some (.map es clock)):(setObj r o).run P w=.ok () {w with heap:=w.heap.setIfInBounds r o}:=by
 simp[setObj,Sem.run,hb]
theorem zSV(T:MapTy P mt kt et it)(u v:Int×Int)(w:World):(Op.equal kt (tB u) (tB v)).run P w=.ok (decide (u=v)) w:=by
 have J:∀(d:Nat) (x y:Int),(Op.equalIn (d+1) it (vI x) (vI y)).run P w=.ok (x==y) w:=λd x y=>by
  unfold Op.equalIn;simp[Sem.run_bind,run_underlying T.i,vI]
 show(Op.equalIn 10000 kt (tB u) (tB v)).run P w=_
 rw[show(10000:Nat)=9999+1 from I,Op.equalIn];simp only[Sem.run_bind,run_underlying T.k,Result.andThen_ok,T.sz];simp only[Std.Legacy.Range.forIn_eq_forIn_range',Std.Legacy.Range.size,Nat.sub_zero,Nat.add_sub_cancel,Nat.div_one,List.range'_succ,List.range'_zero,List.forIn_cons,List.forIn_nil,Nat.zero_mul,Nat.mul_one,Nat.zero_add];have H:∀(x y:Int),(Op.equalIn 9999 it (vI x) (vI y)).run P w=.ok (x==y) w:=λx y=>J 9998 x y;obtain⟨D,C⟩:=u;obtain⟨v1,v2⟩:=v
 by_cases h1:D=v1<;>by_cases h2:C=v2<;>simp[Sem.run_bind,zV2 T,zV1 T,H,h1,h2]
theorem dF(T:MapTy P mt kt et it)(em:Bool)(u:Int×Int)(w:World):(Instr.checkKey em 10000 kt (tB u)).run P w=.ok () w:=by
 have C:∀(x:Int),(Instr.checkKey em 9999 it (vI x)).run P w=.ok () w:=λx=>by
  rw[show(9999:Nat)=9998+1 from I];unfold Instr.checkKey;simp[Sem.run_bind,run_underlying T.i,vI]
 rw[show(10000:Nat)=9999+1 from I,Instr.checkKey];simp only[Sem.run_bind,run_underlying T.k,Result.andThen_ok];simp only[Std.Legacy.Range.forIn_eq_forIn_range',Std.Legacy.Range.size,Nat.sub_zero,Nat.add_sub_cancel,Nat.div_one,List.range'_succ,List.range'_zero,List.forIn_cons,List.forIn_nil,Nat.zero_mul,Nat.mul_one,Nat.zero_add];simp[Sem.run_bind,T.sz,zV2 T,zV1 T,C]
theorem zES(T:MapTy P mt kt et it)(u:Int×Int)(w:World):∀(es:List MapEntry) (S:List (Int×Int)) (i:Nat),es.map (λx=>(x.key,x.val))=S.map (λu=>(tB u,Value.bool true))->
 (u∈S->∃j,(Instr.findAsking kt (tB u) es i).run P w=.ok (some (j,.bool true)) w)/\(u ∉ S->(Instr.findAsking kt (tB u) es i).run P w=.ok none w)
 |[],S,i,hm=>by
  have:S=[]:=by simpa using hm.symm
  subst this;exact⟨λh=>absurd h List.not_mem_nil,λ_=>by simp[Instr.findAsking]⟩
 |x::es,S,i,hm=>by
  match S,hm with
  |v::S,hm=>
   simp only[List.map_cons,List.cons.injEq,Prod.mk.injEq] at hm;obtain⟨⟨hk,H⟩,hm⟩:=hm;have D:=zES T u w es S (i+1) hm;have C:=zSV T u v w;unfold Instr.findAsking;rw[hk]
   by_cases huv:u=v
   · refine⟨λ_=>⟨i,?_⟩,λh=>absurd (huv▸List.mem_cons_self) h⟩
     subst huv;have hd:decide (u=u)=true:=by simp
     simp only[Sem.run_bind,C,hd,Result.andThen_ok];simp[H]
   · have hd:decide (u=v)=false:=by simpa using huv
     refine⟨λh=>?_,λh=>?_⟩
     · obtain⟨j,J⟩:=D.1 ((List.mem_cons.1 h).resolve_left huv)
       refine⟨j,?_⟩;simp only[Sem.run_bind,C,hd,Result.andThen_ok]
       simpa using J
     · simp only[Sem.run_bind,C,hd,Result.andThen_ok]
       simpa using D.2 λe=>h (List.mem_cons_of_mem _ e)
theorem zLK(T:MapTy P mt kt et it)(u:Int×Int)(w:World){es:Array MapEntry}{S:List (Int×Int)}(hm:lW es S):
 (u∈S->∃j,(Instr.findKey kt (tB u) es.toList).run P w=.ok (some (j,.bool true)) w)/\(u ∉ S->(Instr.findKey kt (tB u) es.toList).run P w=.ok none w):=by
 have C:=zES T u w es.toList S 0 hm;unfold Instr.findKey;simp only[Sem.run_bind,run_underlying T.k,Result.andThen_ok]
 cases hl:es.toList with
 |nil=>
  rw[hl] at C;refine⟨λh=>?_,λ_=>?_⟩
  · unfold lW at hm
    rw[hl] at hm;have:S=[]:=by simpa using hm.symm
    subst this;exact absurd h List.not_mem_nil
  · simp[Instr.findNow]
 |cons x r=>
  rw[hl] at C;have hx:∃v,x.key=tB v:=by
   unfold lW at hm;rw[hl] at hm
   match S,hm with
   |v::S,hm=>
    simp only[List.map_cons,List.cons.injEq,Prod.mk.injEq] at hm;exact⟨v,hm.1.1⟩
  obtain⟨v,D⟩:=hx;have H:Instr.findNow (.array 2 it) (tB u) (x::r) 0=none:=by
   unfold Instr.findNow;rw[D];simp[Instr.sameNow]
  rw[H];exact C
theorem zE8{x y:Operand}{b clock:Nat}{es:Array MapEntry}{S:List (Int×Int)}{u:Int×Int}(T:MapTy P mt kt et it)(hm:.blk b (.map es clock)∈L)(hx:zI e x=some (.map (some b)))(hy:zI e y=some (tB u))(r:lW es S):
 OpV P n w0 h0 ⟨ds,.lookup mt x y false,ty,ps,af,gd⟩ e L h (vB (u∈S)):=by
 intro a w D St;have C:w.heap[b]?=some (.map es clock):=St.ok _ hm;have hf:=zLK T u w r;simp only[execOp,D.eval hx,D.eval hy,Instr.lookup];simp only[Sem.run_bind,run_underlying T.m,Result.andThen_ok,oD C,dF T]
 by_cases hu:u∈S
 · obtain⟨j,H⟩:=hf.1 hu
   rw[xT hu];simp[Sem.run_bind,H,oD C,dF T]
 · rw[yM hu]
   simp[Sem.run_bind,hf.2 hu,oD C,dF T,T.z]
theorem yAE{A B:List Res}{x y z:Operand}{b clock:Nat}{es:Array MapEntry}{S:List (Int×Int)}{u:Int×Int}(T:MapTy P mt kt et it)(hx:zI e x=some (.map (some b)))(hy:zI e y=some (tB u))(hz:zI e z=some (.bool true))(r:lW es S)(hu:u ∉ S):
 ∃es',lW es' (S++[u])/\Upd P n w0 h0 ⟨ds,.mapUpdate mt x y z,ty,ps,af,gd⟩ e A (.blk b (.map es clock)) B h (.blk b (.map es' (clock+1))):=by
 refine⟨es.push {key:=tB u,val:=.bool true,born:=clock},?_,?_⟩
 · unfold lW at *
   simp[r]
 · intro a w M St
   have J:w.heap[b]?=some (.map es clock):=St.ok (.blk b (.map es clock)) zoy;have hf:=(zLK T u w r).2 hu;refine⟨{w with heap:=w.heap.setIfInBounds b (.map (es.push {key:=tB u,val:=.bool true,born:=clock}) (clock+1))},?_,?_,?_⟩
   · simp only[execOp,M.eval hx,M.eval hy,M.eval hz,Instr.mapUpdate]
     simp[Sem.run_bind,run_underlying T.m,oD J,dF T,hf,zOA _ J]
   · refine⟨I,I,I,by simp,λU O C=>?_⟩
     have H:U≠b:=λe=>C (by simp[Res.fp,e]);simp[Ne.symm H]
   · have D:b<w.heap.size:=(Array.getElem?_eq_some_iff.1 J).1
     show(w.heap.setIfInBounds b _)[b]?=_
     simp[D]
theorem evk{x:Operand}{v w:Value}(h:zI e x=some v)(q:v=w):zI e x=some w:=q▸h
theorem zUR{E:TypeId}{i:TypeInfo}{z:Value}(hi:P.info? E=some i)(hz:i.zero=some z)(w:World):(zeroValue E).run P w=.ok z w:=by simp[zeroValue,typeInfo,hi,hz]
theorem zYA{h:Mem}{v:Value}{x y:Int}(r:(rpA 2 rpI).Is h v [x,y]):v=tB (x,y):=by
 obtain⟨cs,⟨_,a,b,rfl,⟨rfl,_⟩,c,d,rfl,⟨rfl,_⟩,e⟩,rfl⟩:=r;rw[show d=[] from e]
 rfl
theorem zT9{ops:Array Oper}{rest:List Oper}{A B:List Res}{x y z:Operand}{b clock:Nat}{es:Array MapEntry}{S:List (Int×Int)}{u:Int×Int}(T:MapTy P mt kt et it)(hx:zI e x=some (.map (some b)))(hy:zI e y=some (tB u))(hz:zI e z=some (.bool true))(r:lW es S)(hu:u ∉ S)
    (k:∀es',lW es' (S++[u])->GL P n w0 h0 ops Q rest e (A++.blk b (.map es' (clock+1))::B) h):GL P n w0 h0 ops Q (⟨none,.mapUpdate mt x y z,ty,ps,af,none⟩::rest) e (A++.blk b (.map es clock)::B) h:=by
 obtain⟨es',C,hu⟩:=yAE (P:=P) (n:=n) (w0:=w0) (h0:=h0) (h:=h) (ds:=none) (ty:=ty) (ps:=ps) (af:=af) (gd:=none) (A:=A) (B:=B) (clock:=clock) T hx hy hz r hu;exact wN hu I I I (k es' C)
end
end Bk
namespace Bk
open Go Go.RowKit
def yDC(w0:World)(h0:Mem)(h:Mem)(X:List Res)(G:Mem->Value->List Res->Prop):Ending->World->Prop:=
 tP w0 h0 (λg v K=>∃Qs',(Qs'++X).Sublist K/\MLe h g/\G g v Qs')
section
variable {P:Program}{n:Nat}{w0:World}{h0:Mem}{e:List (Nat×Value)}{L:List Res}{h:Mem}{Q:Exit->Act->World->Prop}
variable {ty:TypeId}{ps:String}{af:Array Edge}
theorem zKH{ops:Array Oper}{l:List Oper}{A B:List Res}{r:Res}(k':GL P n w0 h0 ops Q l e (A++r::B) h):GL P n w0 h0 ops Q l e (r::(A++B)) h:=
 λa w E S=>k' a w E (S.perm List.perm_middle.symm)
theorem zKG{ops:Array Oper}{rest:List Oper}{d f:Nat}{xs:List Operand}{ts:Array TypeId}{vs:List Value}{Qs X:List Res}{G:Mem->Value->List Res->Prop}(hp:L.Perm (Qs++X))(hcall:∀args w,(callFunc f args).run P w=.ok (.enter f args) w)(hvs:cR e xs vs)
    (hc:∀w,St w0 h0 (Qs++X) h w->Calls P f vs.toArray w (yDC w0 h0 h X G))(hn:Nat.ble (d+1) n=true)(k:∀v g Qs',MLe h g->G g v Qs'->GL P n w0 h0 ops Q rest ((d,v)::e) (Qs'++X) g):
    GL P n w0 h0 ops Q (⟨some d,.call {callee:=.value (.func f),args:=xs.toArray,argTypes:=ts},ty,ps,af,none⟩::rest) e L h:=by
 intro a w D S;refine nL I I I hn hcall hvs hc ?_ a w D (S.perm hp)
 rintro v g K ⟨Qs',H,C,J⟩
 have:=k v g Qs' C J;exactλa w D S=>this a w D (S.sublist H)
end
section
variable {α β:Type}{h:Mem}
theorem vr_1{π:Rp α}{ρ:Rp β}{cs:List Value}{p:α}{v:Value}{xs:List β}(r:(rpP π rpV).R h cs (p,v))(k:(rpS ρ).Is h v xs):(rpP π (rpS ρ)).R h cs (p,xs):=by
 obtain⟨a,b,e,D,C,_⟩:=r;exact⟨a,b,e,D,by rw[show b=[v] from C];exact zN8 k⟩
end
end Bk
namespace Bk
open Classical
section
variable {P:List Pt}{x:List Int}{S T:List PIr}{u:Nat}
theorem zI3(P:List Pt)(x:List Int)(S:List PIr):∀n,(sxE P x S n).length<=S.length+n
  |0=>by show S.length<=_;omega
  |n+1=>by
   have ih:=zI3 P x S n;unfold sxE
   split
   · omega
   · rw[lAz]
     show _+1<=_
     omega
theorem zI5{L:List (List Int)}{b:Nat}(hb:∀l,l<L.length->(L.getD l []).length<=b)(P:List Pt)(S:List PIr):∀n,n<=L.length->(slE P L S n).length<=S.length+n*b
  |0,_=>by show S.length<=_;omega
  |n+1,hn=>by
   have ih:=zI5 hb P S n zoq;have h1:=zI3 P (L.getD n []) (slE P L S n) (L.getD n []).length;have h2:=hb n zoq;have h3:(n+1)*b=n*b+b:=Nat.succ_mul n b
   show(sxE P (L.getD n []) (slE P L S n) (L.getD n []).length).length<=_
   omega
theorem zI9{s:Sd}(h:okS s):∀n,n<=s.2.1.length->(sfE s n).length<=n*1024
  |0,_=>by show([]:List PIr).length<=_;simp
  |n+1,hn=>by
   have ih:=zI9 h n zoq;have h0:=h.2.1 n zoq;have h1:=zI5 h0.2 s.1 (sfE s n) (s.2.1.getD n zA).2.1.length (Nat.le_refl _);have h2:(s.2.1.getD n zA).2.1.length*64<=16*64:=Nat.mul_le_mul_right _ h0.1
   show(slE s.1 (s.2.1.getD n zA).2.1 (sfE s n) (s.2.1.getD n zA).2.1.length).length<=_
   omega
theorem yFY(hT:T=sxE P x S u)(h1:¬(min (x.getD u 0) (x.getD ((u+1)%x.length) 0),max (x.getD u 0) (x.getD ((u+1)%x.length) 0))∈T)(h2:¬P.getD (x.getD u 0).toNat zT=P.getD (x.getD ((u+1)%x.length) 0).toNat zT):T++[(min (x.getD u 0) (x.getD ((u+1)%x.length) 0),max (x.getD u 0) (x.getD ((u+1)%x.length) 0))]=sxE P x S (u+1):=by
 rw[hT] at h1 ⊢;exact(if_neg λe=>e.elim h1 h2).symm
theorem yAT(hT:T=sxE P x S u)(h1:¬¬(min (x.getD u 0) (x.getD ((u+1)%x.length) 0),max (x.getD u 0) (x.getD ((u+1)%x.length) 0))∈T):T=sxE P x S (u+1):=by
 rw[hT] at h1 ⊢;exact(if_pos (.inl (Classical.not_not.1 h1))).symm
theorem yAS(hT:T=sxE P x S u)(h2:¬¬P.getD (x.getD u 0).toNat zT=P.getD (x.getD ((u+1)%x.length) 0).toNat zT):T=sxE P x S (u+1):=by
 rw[hT];exact(if_pos (.inr (Classical.not_not.1 h2))).symm
theorem yIO{E:List (List Pt)}{a b:Int}(hE:E=T.map (edP P)):E++[[P.getD (min a b).toNat zT,P.getD (max a b).toNat zT]]=(T++[(min a b,max a b)]).map (edP P):=by
 rw[hE,List.map_append]
 rfl
end
theorem zJ1{α:Type}(d:α){l:List α}{x:α}(h:x∈l):∃i,i<l.length/\x=l.getD i d:=by
 obtain⟨i,hi,e⟩:=List.mem_iff_getElem.1 h;refine⟨i,hi,?_⟩;rw[<-e,zoa,zoc hi]
 rfl
theorem yK1{s:Sd}(h:okS s):zTY (tS s):=by
 refine⟨by rw[zFY];exact h.1.1.2,?_,λf hf=>?_⟩
 · show((sfE s s.2.1.length).map (edP s.1)).length<=_
   rw[List.length_map];have h1:=zI9 h s.2.1.length (Nat.le_refl _);have h2:=h.1.1.2;omega
 · rw[zFY] at hf
   rw[zKK hf];have h0:=h.2.1 f hf;have D:(zAA s.1 (s.2.1.getD f zA).2.1 (s.2.1.getD f zA).2.1.length).length=(s.2.1.getD f zA).2.1.length:=xK _ _;refine⟨?_,?_,by show(zAA _ _ _).length<=_;rw[D];omega,λx hx=>?_⟩
   · have:=zCW (s.2.1.getD f zA).1.1
     show 0<=((axI (s.2.1.getD f zA).1.1:Nat):Int)/\((axI (s.2.1.getD f zA).1.1:Nat):Int)<3
     omega
   · have:=zCW (s.2.1.getD f zA).1.1
     show 0<=((axJ (s.2.1.getD f zA).1.1:Nat):Int)/\((axJ (s.2.1.getD f zA).1.1:Nat):Int)<3
     omega
   · have hx:x∈zAA s.1 (s.2.1.getD f zA).2.1 (s.2.1.getD f zA).2.1.length:=hx
     obtain⟨l,H,rfl⟩:=zJ1 [] hx;have C:l<(s.2.1.getD f zA).2.1.length:=by rw[<-D];exact H
     rw[show(zAA s.1 (s.2.1.getD f zA).2.1 (s.2.1.getD f zA).2.1.length).getD l []=zE2 s.1 ((s.2.1.getD f zA).2.1.getD l []) ((s.2.1.getD f zA).2.1.getD l []).length from qY _ _ C,show(zE2 s.1 ((s.2.1.getD f zA).2.1.getD l []) ((s.2.1.getD f zA).2.1.getD l []).length).length=_ from xK _ _];have:=h0.2 l C;omega
theorem yHL{s:Sd}(h:kZ s)(p:Pt):cG (tS s) p<=3*(tS s).2.length+1/\clM (tS s) p (vK ↑(cG (tS s) p)):=by
 obtain⟨h1,h2,_⟩:=iS (pS h) p;rw[zM8 h];refine⟨?_,(zRZ h p _).2 h2⟩;have:(tS s).2.length=(sfE s s.2.1.length).length:=List.length_map _;omega
noncomputable def inM(md:Md)(p:Pt):Int:=if onA md p then 0 else if 0<wdM md p then 1 else -1
theorem yGK(a b:Rat):-1<=yV a*yV b/\yV a*yV b<=1:=by
 have h1:=xG a;have h2:=xG b;have g:∀x y:Int,-1<=x/\x<=1-> -1<=y/\y<=1-> -1<=x*y/\x*y<=1:=λx y hx hy=>by
  have:x= -1\/x=0\/x=1:=by omega
  rcases this with rfl|rfl|rfl<;>omega
 exact g _ _ h1 h2
theorem zQN{q:Rat}:0<yV q↔0<q:=by
 rw[rK]
 split
 · next h=>subst h;exact⟨λe=>absurd e zot,λe=>absurd e zot⟩
 · next h=>
   split
   · next h2=>exact⟨λe=>absurd e zot,λe=>by grind⟩
   · next h2=>exact⟨λe=>by grind,λe=>by decide⟩
theorem zQA{f:Fm}{p d:Pt}(h:¬skM f p d):whM f (T3.mk (p.x+(if zE f.1.1 d=0 then 0 else(f.1.2-zE f.1.1 p)/zE f.1.1 d)*d.x) (p.y+(if zE f.1.1 d=0 then 0 else(f.1.2-zE f.1.1 p)/zE f.1.1 d)*d.y) (p.z+(if zE f.1.1 d=0 then 0 else(f.1.2-zE f.1.1 p)/zE f.1.1 d)*d.z))=wrM f p d:=by
 have hc:¬zE f.1.1 d=0:=λe=>h (.inl (by
  unfold cnM;rw[e,show yV 0=0 from if_pos I];omega))
 rw[if_neg hc]
 rfl
end Bk
namespace Bk
open Go Go.RowKit
section
variable {P:Program}{n:Nat}{w0:World}{h0:Mem}{e:List (Nat×Value)}{L:List Res}{h:Mem}{Q:Exit->Act->World->Prop}
theorem zYY{c:Code}(k:GC P n w0 h0 c (Exit.noGoto Q) e L h):GC P n w0 h0 (.scope c) Q e L h:=λa w E S=>wp_scope_straight (k a w E S)
theorem zYZ{l:Nat}(k:GQ n w0 h0 Q .normal e L h):GC P n w0 h0 (.label l) Q e L h:=λa w E S=>wp_label (k a w E S)
theorem yLD(k:GQ n w0 h0 Q .ret e L h):GQ n w0 h0 (Exit.noGoto Q) .ret e L h:=k
end
end Bk
namespace Go.Proofs.YtpkaegemlpaenaaGreat
open Bk Go Tryz
set_option maxRecDepth 10000
set_option maxHeartbeats 1000000
attribute [local irreducible] GL GC GQ W OpV
section
variable{w0:World}{h0:Mem}(hs:MLe h0 (mem w0))
include hs
theorem zTV{k m n j:Nat}{vs:Value}{s:Sq}(rs:(tSd k m n j).Is h0 vs s){vf:Value}{f:(Pq×((List (List Int))×(List Nat)))}(rf:(tFc m n).Is h0 vf f)(hcd0:∀u v,u<f.2.1.length->v<(f.2.1.getD u []).length->0<=(f.2.1.getD u []).getD v 0/\(f.2.1.getD u []).getD v 0<s.1.length)(hcd1:s.1.length<=100000)(hcd2:∀u,u<f.2.1.length->(f.2.1.getD u []).length<=10000)(hcd3:f.2.1.length<=10000):
 Calls Tryz.prog 104 #[vs,vf] w0 (Ret w0 h0 (λ_ r=>r=vB (True))):=by
 refine cb2 33 vs vf func104 hs ?_;refine go2 ?_;refine nB rs λb2 ab ae=>(nB rf λb3 aa ad=>(go7 ?_));refine lX (xB bK (Pc.snd (Pc.fst pH)) ad) λH am=>(go5 ?_);refine gcL (ι:=Nat×Mem) (λ(l,M)=>(MLe h0 M/\(l<=f.2.1.length),[(2,vP b2 0),(10,H),(11,vI (↑(f.2.1).length:Int)),(12,vI ↑l)],[.var b3 53 aa,.var b2 39 ab],M,f.2.1.length-l)) (0,h0) ?_ ?_
 · exact⟨mle,oM⟩
 rintro⟨l,M⟩ ⟨ap,C⟩
 refine xC ?_;have bb:=C;refine gc6 (λZ=>?_) λZ=>?_
 ·
  refine go6 ?_;refine lX (xI [] l underlying51 fN am) λaw ak=>(lX (xA fN ak) λac aj=>(qI ?_));refine gcL (ι:=Nat×Mem) (λ(u,J)=>(MLe M J/\(u<=(f.2.1.getD l []).length),[(2,vP b2 0),(10,H),(11,vI (↑(f.2.1).length:Int)),(12,vI ↑l),(16,ac),(17,vI (↑((f.2.1.getD l [])).length:Int)),(18,vI ↑u)],[.var b3 53 aa,.var b2 39 ab],J,(f.2.1.getD l []).length-u)) (0,M) ?_ ?_
  · exact⟨mle,oM⟩
  rintro⟨u,J⟩ ⟨ao,C⟩
  refine xC ?_;have ay:=C;have bc:=hcd2 l oM;refine gc6 (λU=>?_) λU=>?_
  ·
   obtain⟨ba,az⟩:=hcd0 l u oM oM;refine go6 ?_;refine lX (xI (0:Int) u underlying22 ty3 aj) λav ai=>(lX (xA ty3 ai) λau ah=>?_);obtain⟨rfl,aq,an⟩:=kM ah;refine go7 ?_;refine gU 7 30 (vB ((((f.2.1.getD l []).getD u (0:Int))<(0:Int))\/((↑(s.1).length:Int)<=((f.2.1.getD l []).getD u (0:Int))))) ?_ ?_
   ·
    refine zW (((f.2.1.getD l []).getD u (0:Int))<(0:Int)) (λO=>?_) (λO=>?_)
    ·
     refine gT O I (go7 ?_);refine gqU ?_;exact congrArg some (vS O)
    refine gF O I (go5 ?_);refine lX (xB uN (Pc.fst pH) ae) λar ax=>(go6 ?_);refine gqU ?_;exact congrArg some (vT O)
   refine gc2 (λD=>?_) λD=>?_
   · exact absurd D oM
   refine go7 ?_;refine gqL ((u+1),J) ?_ ?_
   · exact⟨mle,oM⟩
   omega
  refine uK ?_;refine gqL ((l+1),J) ?_ ?_
  · exact⟨mle,oM⟩
  omega
 refine qI ?_;refine zC I I ?_;exact(xT trivial).symm
theorem zL0{k m n j:Nat}{vs:Value}{s:Sq}(rs:(tSd k m n j).Is h0 vs s){vf:Value}{f:(Pq×((List (List Int))×(List Nat)))}(rf:(tFc m n).Is h0 vf f)(hcd0:∀u v,u<f.2.1.length->v<(f.2.1.getD u []).length->0<=(f.2.1.getD u []).getD v 0/\(f.2.1.getD u []).getD v 0<s.1.length)(hcd1:s.1.length<=100000)(hcd2:∀u,u<f.2.1.length->(f.2.1.getD u []).length<=10000)(hcd3:f.2.1.length<=10000):
 Calls Tryz.prog 105 #[vs,vf] w0 (Ret w0 h0 (λh r=>(tLL (k+1)).Is h r (zAA s.1 f.2.1 f.2.1.length))):=by
 refine cb2 39 vs vf func105 hs ?_;refine go2 ?_;refine nB rs λb2 av ba=>(nB rf λb3 au az=>(qE ?_));refine lX (xB bK (Pc.snd (Pc.fst pH)) az) λac bi=>(go5 ?_);refine xM 35 1 ?_;have ah:=RL.nil (ρ:=rpS (tPt (k+1))) (h:=h0);refine gcL (ι:=Nat×List (List Tq)×Value×List Value×Mem) (λ(l,D,C,H,ma)=>(MLe h0 ma/\(RL (tLs (k+1)) ma H D/\l<=f.2.1.length/\D=zAA s.1 f.2.1 l),[(2,vP b2 0),(5,C),(12,ac),(13,vI (↑(f.2.1).length:Int)),(14,vI ↑l)],[.gs 35 1 C D.length H,.var b3 53 au,.var b2 39 av],ma,f.2.1.length-l)) (0,[],(.slice none 0 0),[],h0) ?_ ?_
 · exact⟨mle,ah,by omega,I⟩
 rintro⟨l,D,C,H,ma⟩ ⟨bl,U,cf,hD⟩
 refine xC ?_;have cj:D.length=l:=by rw[hD];exact xK _ _
 refine gc6 (λap=>?_) λap=>?_
 ·
  refine go6 ?_;refine lX (xI [] l underlying51 fN bi) λbw bh=>(lX (xA fN bh) λay bg=>(oW ?_));refine xM 31 9 ?_;have ae:=RL.nil (ρ:=rpT (rpQ (k+1))) (h:=ma);refine gcL (ι:=Nat×List Tq×Value×List Value×Mem) (λ(u,E,J,M,mb)=>(MLe ma mb/\(RL (tPt (k+1)) mb M E/\u<=(f.2.1.getD l []).length/\E=zE2 s.1 (f.2.1.getD l []) u),[(2,vP b2 0),(5,C),(8,J),(12,ac),(13,vI (↑(f.2.1).length:Int)),(14,vI ↑l),(18,ay),(19,vI (↑((f.2.1.getD l [])).length:Int)),(20,vI ↑u)],[.gs 31 9 J E.length M,.gs 35 1 C D.length H,.var b3 53 au,.var b2 39 av],mb,(f.2.1.getD l []).length-u)) (0,[],(.slice none 0 0),[],ma) ?_ ?_
  · exact⟨mle,ae,by omega,I⟩
  rintro⟨u,E,J,M,mb⟩ ⟨bk,O,cc,hE⟩
  refine xC ?_;have ci:E.length=u:=by rw[hE];exact xK _ _
  have ch:=hcd2 l oM;refine gc6 (λao=>?_) λao=>?_
  ·
   obtain⟨ce,cd⟩:=hcd0 l u oM oM;refine go6 ?_;refine lX (xI (0:Int) u underlying22 ty3 bg) λbv bf=>(lX (xA ty3 bf) λbu be=>?_);obtain⟨rfl,bm,bj⟩:=kM be;refine go6 ?_;refine lX (xB uN (Pc.fst pH) ba) λbt bd=>(go1 ?_);refine lX (xI zT (((f.2.1.getD l []).getD u 0).toNat) underlying35 zL bd) λbs bc=>(lX (xA zL bc) λbr bb=>(zK (zO (ρ:=(tPt (k+1))) (m:=1) (xs:=[(s.1.getD (((f.2.1.getD l []).getD u 0).toNat) zT)]) (ps':=[(0,_)]) underlying35 yU I I I (xW (yN oM)) e2z (zG I (Pc.arr (Pc.here _) zT 0 dC) (bb.le (Le.t (Le.q (l:=k+1) oM))) zR) zok nP) I I I ?_))
   rintro bq cb ⟨bo,rfl,am⟩
   refine yC (A:=[]) (ρ:=(tPt (k+1))) am ?_;intro h1 an ad;refine xR (A:=[]) (zV (ρ:=(tPt (k+1))) (bytes:=168) underlying35 yU I I I I nP I I O.up ad bO bO) I I I ?_
   rintro ax ca ⟨ar,rfl,ak⟩
   refine go8 ?_;refine gqL ((u+1),(E++[(s.1.getD (((f.2.1.getD l []).getD u 0).toNat) zT)]),ax,ar,h1) ?_ ?_
   · exact⟨mle,ak,by omega,by rw[hE];rfl⟩
   omega
  have eu:u=(f.2.1.getD l []).length:=by omega
  refine go8 ?_;refine yC (A:=[]) (ρ:=(tPt (k+1))) O.up ?_;intro h1 an ab;refine zK (zO (ρ:=(tLs (k+1))) (m:=1) (xs:=[E]) (ps':=[(0,_)]) underlying76 iO I I I vC e2z (zG I (Pc.arr (Pc.here _) [] 0 dC) ab zR) zoj nP) I I I ?_
  rintro bp bz ⟨bn,rfl,aj⟩
  refine yC (A:=[]) (ρ:=(tLs (k+1))) aj ?_;intro h2 cg aa;refine xR (A:=[]) (zV (ρ:=(tLs (k+1))) (bytes:=24) underlying76 iO I I I I nP I I U.up aa bO bO) I I I ?_
  rintro aw bx ⟨aq,rfl,ai⟩
  refine go8 ?_;refine gqL ((l+1),(D++[E]),aw,aq,h2) ?_ ?_
  · exact⟨mle,ai,by omega,by rw[hD,hE,eu];rfl⟩
  omega
 have el:l=f.2.1.length:=by omega
 refine qE ?_;refine vZ (A:=[]) (ρ:=(tLs (k+1))) U.up ?_;intro h1 an Z;refine zC I I ?_;exact(Rp.Is.cast Z (by rw[hD,el]))
theorem zH6{m n k j:Nat}{vf:Value}{f:(Pq×((List (List Tq))×(Int×Int)))}(rf:(rpP (tPl m n) (rpP (tLL k) (rpP rpI rpI))).Is h0 vf f){vp:Value}{p:Tq}(rp:(tPt j).Is h0 vp p)(hcd0:k<=50000)(hcd1:j<=50000)(hcd2:yIE f):
 Calls Tryz.prog 109 #[vf,vp] w0 (Ret w0 h0 (λ_ r=>r=vI (whM f p))):=by
 obtain⟨M,hi2⟩:∃M:Nat,f.2.2.1=↑M:=⟨f.2.2.1.toNat,by have:=hcd2.1;omega⟩;obtain⟨J,H⟩:∃J:Nat,f.2.2.2=↑J:=⟨f.2.2.2.toNat,by have:=hcd2.2.1;omega⟩;have C:=hcd2;unfold yIE at C;rw[hi2,H] at C;refine cb2 13 vf vp func109 hs ?_;refine go2 ?_;refine nB rf λb2 ak D=>(nB rp λb3 aj U=>(go6 ?_));refine lX (xB yE5 (Pc.snd (Pc.fst pH)) D) λv6 r6=>(lX (xB zL pH U) λv7 r7=>(go1 ?_));refine lX (xB ty3 (Pc.snd (Pc.snd (Pc.fst pH))) D) λv9 r9=>?_;obtain⟨rfl,ah,ae⟩:=kM r9;refine go1 ?_;refine lX (xB ty3 (Pc.snd (Pc.snd (Pc.snd pH))) D) λad aa=>?_;obtain⟨rfl,ac,ab⟩:=kM aa;rw[hi2,H];refine cL (ev4 I I I I) call149 (λw hs=>zO3 (i:=M) (j:=J) hs (r6.le (Le.s (Le.s (Le.t (Le.q (l:=j+k) oM))))) (r7.le (Le.t (Le.q (l:=j+k) oM))) oM oM oM (by first|omega|exact C.2.2.2|exact C.2.2.1) (by first|omega|exact C.2.2.2|exact C.2.2.1)) λO h1 ai Z=>?_;obtain rfl:O=vI (whZ f.2.1 (pr p M J) M J):=Z;refine go4 ?_;refine zC I I ?_;unfold whM;rw[hi2,H];rfl
theorem yBW{k l j:Nat}{vx:Value}{x:(Tq×(Tq×Prop))}(rx:(rpP (tPt k) (rpP (tPt l) rpB)).Is h0 vx x){vd:Value}{d:Tq}(rd:(tPt j).Is h0 vd d)(hcd0:k<=1000000)(hcd1:l<=1000000)(hcd2:j<=1000000):
 Calls Tryz.prog 117 #[vx,vd] w0 (Ret w0 h0 (λ_ r=>r=vB (zF9 x d))):=by
 refine cb2 18 vx vd func117 hs ?_;refine go2 ?_;refine nB rx λb2 ao C=>(nB rd λb3 an M=>(go7 ?_));refine lX (xB ty4 (Pc.snd (Pc.snd pH)) C) λv6 r6=>?_;obtain rfl:=yG9 r6;refine gc2 (λJ=>?_) λJ=>?_
 ·
  refine go3 ?_;refine lX (xB zL (Pc.snd (Pc.fst pH)) C) λv8 r8=>(lX (xB zL pH M) λv9 r9=>(cL (ev2 I I) call114 (λw hs=>zHZ hs r8 r9 oM) λam h1 ah H=>?_));replace H:=Rp.Is.le H (Le.t (Le.q (l:=2*j+2*l+3) oM));refine cL (ev1 I) call78 (λw hs=>zLY hs H oM) λU h2 ae ac=>?_;obtain rfl:U=vB ((zY x.2.1 d)=zT):=ac;refine go5 ?_;refine zC I I ?_;exact kD (by unfold zF9;rw[if_pos J])
 refine go5 ?_;refine lX (xB zL (Pc.fst pH) C) λak ab=>(lX (xB zL pH M) λaj aa=>(cL (ev2 I I) call120 (λw hs=>zDU hs ab aa oM) λai h1 ah D=>?_));replace D:=Rp.Is.le D (Le.q (l:=3*j+3*k+9) oM);refine cL (ev1 I) call122 (λw hs=>rW hs D oM) λO h2 ae Z=>?_;obtain rfl:O=vI (yV (zE x.1 d)):=Z;have ad:=xG (zE x.1 d);refine go5 ?_;refine zC I I ?_;exact kD (by unfold zF9;rw[if_neg J];exact yBA)
theorem yHB{m n k j:Nat}{vmd:Value}{md:((List (Pq×((List (List Tq))×(Int×Int))))×(List (List Tq)))}(rmd:(rpP (rpS (rpP (tPl m n) (rpP (tLL k) (rpP rpI rpI)))) (rpS (rpA 2 (tPt k)))).Is h0 vmd md){vp:Value}{p:Tq}(rp:(tPt j).Is h0 vp p)(hcd0:k<=20000)(hcd1:j<=20000)(hcd2:m<=20000)(hcd3:n<=20000)(hcd4:zTY md):
 Calls Tryz.prog 70 #[vmd,vp] w0 (Ret w0 h0 (λh r=>r=.tuple #[vI (↑(onJ md p):Int),vB (onA md p)])):=by
 refine cb2 35 vmd vp func70 hs ?_;refine go2 ?_;refine nB rmd λb2 ad aj=>(nB rp λb3 ac U=>(go8 ?_));refine lX (xB yE4 (Pc.fst pH) aj) λv9 r9=>(go5 ?_);refine gcL (ι:=Nat×Mem) (λ(f,ma)=>(MLe h0 ma/\(f<=md.1.length/\∀u,u<f->¬onM md p u),[(3,vP b3 0),(9,v9),(10,vI (↑(md.1).length:Int)),(11,vI ↑f)],[.var b3 31 ac,.var b2 99 ad],ma,md.1.length-f)) (0,h0) ?_ ?_
 · exact⟨mle,by omega,λu h=>by omega⟩
 rintro⟨f,ma⟩ ⟨ay,bj,J⟩
 refine xC ?_;have bh:=hcd4.1;refine gc6 (λaa=>?_) λaa=>?_
 ·
  refine go7 ?_;refine lX (xI fm0 f underlying96 zED r9) λbf au=>(lX (xA zED au) λbe ar=>(nA (ρ:=(rpP (tPl 1 1) (rpP (tLL 1) (rpP rpI rpI)))) (X:=((zT,(0:Rat)),([],((0:Int),(0:Int))))) oV (yF (yF (xW (yN dC)) (yN dC)) (yF vC (yF wM wM))) λb7 bk ai=>(go1 ?_)));have O:=(Le.p (Le.p (Le.t (Le.q (l:=m+1) oM)) (Le.q (l:=n+1) oM)) (Le.p (Le.s (Le.s (Le.t (Le.q (l:=k+1) oM)))) (Le.refl _))).R ai;refine yI (A:=[]) (uB sizeOf140 pH O (ar.le (Le.p (Le.p (Le.t (Le.q (l:=m+1) oM)) (Le.q (l:=n+1) oM)) (Le.p (Le.s (Le.s (Le.t (Le.q (l:=k+1) oM)))) (Le.refl _))))) λab C=>(go5 ?_);refine lX (xB aV (Pc.fst pH) C) λbd aq=>(lX (xB zL pH U) λbc ap=>(cL (ev2 I I) call108 (λw hs=>zTT hs aq ap oM oM oM) λah h1 bi ao=>?_));obtain rfl:ah=vI (sdZ ((md.1.getD f fm0).1) p):=ao;have av:=bN ((md.1.getD f fm0).1) p;refine go1 ?_;refine gU 6 26 (vB (((sdZ ((md.1.getD f fm0).1) p)=(0:Int))/\((0:Int)<(↑(((md.1.getD f fm0).2).1).length:Int)))) ?_ ?_
  ·
   refine zW ((sdZ ((md.1.getD f fm0).1) p)=(0:Int)) (λD=>?_) (λD=>?_)
   ·
    refine gT D I (go3 ?_);refine lX (xB yE5 (Pc.snd (Pc.fst pH)) C) λbb bg=>(go6 ?_);refine gqU ?_;exact congrArg some (xH D)
   refine gF D I (go6 ?_);refine gqU ?_;exact congrArg some (xJ D)
  refine uY (ι:=Mem) 6 (λm_=>MLe h1 m_) (λ_=>[(32,vB ((((sdZ ((md.1.getD f fm0).1) p)=(0:Int))/\((0:Int)<(↑(((md.1.getD f fm0).2).1).length:Int)))/\((0:Int)<=(whM (md.1.getD f fm0) p)))),(3,vP b3 0),(9,v9),(10,vI (↑(md.1).length:Int)),(11,vI ↑f),(6,vI ↑f)]) (λ_=>[.var b7 140 ab,.var b3 31 ac,.var b2 99 ad]) (λm_=>m_) ?_ ?_
  ·
   refine zW (((sdZ ((md.1.getD f fm0).1) p)=(0:Int))/\((0:Int)<(↑(((md.1.getD f fm0).2).1).length:Int))) (λD=>?_) (λD=>?_)
   ·
    refine gT D I (go1 ?_);refine lX (xB zED pH C) λba an=>(go1 ?_);refine lX (xB zL pH U) λaz am=>(go1 ?_);refine cL (ev2 I I) call109 (λw hs=>zH6 hs an am oM oM (by first|omega|exact hcd4.2.2 f oM)) λae h2 ax ak=>?_;obtain rfl:ae=vI (whM (md.1.getD f fm0) p):=ak;refine go4 ?_;refine zS h2 ax ⟨?_,I,I,I,I,I,trivial⟩ I I;exact congrArg some (xH D)
   refine gF D I (go6 ?_);refine zS h1 (MLe.refl _) ⟨?_,I,I,I,I,I,trivial⟩ I I;exact congrArg some (xJ D)
  intro H M;refine tZ ?_;refine gc2 (λZ=>?_) λZ=>?_
  ·
   have aw:onM md p f:=by show((_/\_)/\_);omega
   obtain⟨e1,e2⟩:=zTC oM aw J;refine pQ ?_;refine wL I I I ?_;rw[e1,xT e2]
  refine go7 ?_;refine xO (A:=[]) ?_;refine gqL ((f+1),H) ?_ ?_
  · exact⟨mle,by omega,vH (Q:=λu=>¬onM md p u) J (by show ¬((_/\_)/\_);omega)⟩
  omega
 obtain⟨e1,e2⟩:=zW3 (md:=md) (p:=p) (λu hu=>J u oM);refine qE ?_;refine wL I I I ?_;rw[e1,yM e2];rfl
theorem zG3{m n k j:Nat}{vmd:Value}{md:((List (Pq×((List (List Tq))×(Int×Int))))×(List (List Tq)))}(rmd:(rpP (rpS (rpP (tPl m n) (rpP (tLL k) (rpP rpI rpI)))) (rpS (rpA 2 (tPt k)))).Is h0 vmd md){vp:Value}{p:Tq}(rp:(tPt j).Is h0 vp p)(hcd0:k<=10000)(hcd1:j<=10000)(hcd2:zTY md)(hcd3:cG md p<=3*md.2.length+1)(hcd4:clM md p (vK ↑(cG md p))):
 Calls Tryz.prog 74 #[vmd,vp] w0 (Ret w0 h0 (λh r=>(tPt 2).Is h r (vK ↑(cG md p)))):=by
 have fc:=hcd2.2.1;refine cb2 75 vmd vp func74 hs ?_;refine go2 ?_;refine nB rmd λb2 bf cc=>(nB rp λb3 be bi=>(nA (ρ:=(tPt 2)) (X:=zT) yU (xW (yN dC)) λb4 bd cb=>(go2 ?_)));refine zYY (go9 ?_);refine lX (xB yJY (Pc.snd pH) cc) λbx dc=>(go5 ?_);refine xM 153 19 ?_;have bh:=RL.nil (ρ:=rpP (tPt (4*j+4*k+15)) (rpP (tPt (2*k+4)) rpB)) (h:=h0);refine gcL (ι:=Nat×List Ac×Value×List Value×Mem) (λ(q,D,C,J,ma)=>(MLe h0 ma/\(RL (rpP (tPt (4*j+4*k+15)) (rpP (tPt (2*k+4)) rpB)) ma J D/\q<=md.2.length/\D=acT p md.2 q),[(3,vP b3 0),(4,vP b4 0),(5,C),(14,bx),(15,vI (↑(md.2).length:Int)),(16,vI ↑q)],[.gs 153 19 C D.length J,.var b4 31 bd,.var b3 31 be,.var b2 99 bf],ma,md.2.length-q)) (0,[],(.slice none 0 0),[],h0) ?_ ?_
 · exact⟨mle,bh,by omega,I⟩
 rintro⟨q,D,C,J,ma⟩ ⟨du,Z,fb,hD⟩
 refine xC ?_;have ff:D.length=q:=by rw[hD];exact xK _ _
 refine gc6 (λbq=>?_) λbq=>?_
 ·
  refine go6 ?_;refine lX (xI ed0 q underlying97 yDH dc) λez db=>(lX (xA yDH db) λey da=>(nA (ρ:=(rpA 2 (tPt (k+1)))) (X:=ed0) zA4 (zKX 2 (xW (yN oM))) λb7 fg ca=>(yI (A:=[]) (uB sizeOf151 pH ca (da.le (Le.a (Le.t (Le.q (l:=k+1) oM))))) λdx O=>(go3 ?_))));refine zJ 11 _ [(10,(8,153,[.bool false,.slice none 0 0,.slice none 0 0,.bool false,.slice none 0 0,.slice none 0 0,.bool false,.slice none 0 0,.slice none 0 0,.bool false,.slice none 0 0,.slice none 0 0,.bool false,.slice none 0 0,.slice none 0 0,.bool false,.slice none 0 0,.slice none 0 0,.bool false]))] [(0,.q),(1,.q),(2,.q),(4,.q),(5,.q),(6,.q),(3,.c),(7,.c),(8,.c),(9,.q),(10,.a),(11,.t)] yA (jS.cons I I (qA nJ I I) jS.nil) (wP zor) (qD I I kW) (λr hr=>hr) (go1 ?_);refine wX I (xB zL (Pc.arr pH zT 0 dC) O) λew cz=>(wX I (xB zL pH bi) λev cy=>(go1 ?_));refine wX I (xB zL (Pc.arr pH zT 1 dC) O) λes cw=>(wX I (xB zL pH bi) λer cu=>?_);refine w_c I (sC (ev2 I I) call115 (λw hs=>zJM hs cz cy oM) λeu h1 dk ba=>?_);replace ba:=Rp.Is.le ba (Le.t (Le.q (l:=j+k+3) oM));refine w_c I (sC (ev2 I I) call115 (λw hs=>zJM hs cw.up cu.up oM) λep h2 dj az=>?_);replace az:=Rp.Is.le az (Le.t (Le.q (l:=j+k+3) oM));refine w_c I (sC (ev2 I I) call114 (λw hs=>zHZ hs ba.up az oM) λeo h3 di ay=>?_);replace ay:=Rp.Is.le ay (Le.t (Le.q (l:=4*j+4*k+15) oM));refine wX I (xV (ρ:=(rpP (tPt (4*j+4*k+15)) (rpP (tPt 1) rpB))) (wE (ps':=[(0,_)]) underlying153 nJ I I (zS5 underlying153) e2z I (yF (xW (yN oM)) (yF (xW (yN dC)) zSA)) (zG I (Pc.fst (Pc.here _)) ay zR))) λen ct=>?_;refine w_a I I (λb8=>?_);have bz:(rpP (tPt 1) (rpP (tPt 1) rpB)).R h3 [.bool false,.slice none 0 0,.slice none 0 0,.bool false,.slice none 0 0,.slice none 0 0,.bool false,.slice none 0 0,.slice none 0 0,.bool false,.slice none 0 0,.slice none 0 0,.bool false,.slice none 0 0,.slice none 0 0,.bool false,.slice none 0 0,.slice none 0 0,.bool false] (zT,(zT,False)):=(yF (xW (yN dC)) (yF (xW (yN dC)) zSA));have bg:=(Le.p (Le.t (Le.q (l:=4*j+4*k+15) oM)) (Le.refl _)).R bz;refine yK (A:=[]) I (uB sizeOf153 pH bg ct) λdw ai=>(go6 ?_);refine lX (xB zL (Pc.fst pH) ai) λem cq=>(cL (ev1 I) call78 (λw hs=>zLY hs cq oM) λbw h4 dh cp=>?_);obtain rfl:bw=vB ((zY (T3.mk (((md.2.getD q ed0).getD 0 zT).x-p.x) (((md.2.getD q ed0).getD 0 zT).y-p.y) (((md.2.getD q ed0).getD 0 zT).z-p.z)) (T3.mk (((md.2.getD q ed0).getD 1 zT).x-p.x) (((md.2.getD q ed0).getD 1 zT).y-p.y) (((md.2.getD q ed0).getD 1 zT).z-p.z)))=zT):=cp;refine go1 ?_;refine yI (A:=[]) (uB sizeOf4 (Pc.snd (Pc.snd pH)) ai (yK8 _)) λdp M=>(go5 ?_);refine lX (xB ty4 (Pc.snd (Pc.snd pH)) M) λel co=>?_;obtain rfl:=yG9 co;refine gc2 (λad=>?_) λad=>?_
  ·
   refine go2 ?_;refine lX (xB zL (Pc.arr pH zT 1 dC) O) λek cn=>(go1 ?_);refine lX (xB zL (Pc.arr pH zT 0 dC) O) λej cm=>(cL (ev2 I I) call115 (λw hs=>zJM hs cn cm oM) λei h5 df ax=>?_);replace ax:=Rp.Is.le ax (Le.t (Le.q (l:=2*k+4) oM));refine go1 ?_;have an:=(Le.p (Le.refl _) (Le.p (Le.t (Le.q (l:=2*k+4) oM)) (Le.refl _))).R M;refine yI (A:=[]) (uB sizeOf31 (Pc.snd (Pc.fst pH)) an ax) λdn av=>(go4 ?_);refine lX (xB zQH pH av) λbv aw=>(zK (zO (ρ:=(rpP (tPt (4*j+4*k+15)) (rpP (tPt (2*k+4)) rpB))) (m:=1) (xs:=[(zY (T3.mk (((md.2.getD q ed0).getD 0 zT).x-p.x) (((md.2.getD q ed0).getD 0 zT).y-p.y) (((md.2.getD q ed0).getD 0 zT).z-p.z)) (T3.mk (((md.2.getD q ed0).getD 1 zT).x-p.x) (((md.2.getD q ed0).getD 1 zT).y-p.y) (((md.2.getD q ed0).getD 1 zT).z-p.z)),((T3.mk (((md.2.getD q ed0).getD 1 zT).x-((md.2.getD q ed0).getD 0 zT).x) (((md.2.getD q ed0).getD 1 zT).y-((md.2.getD q ed0).getD 0 zT).y) (((md.2.getD q ed0).getD 1 zT).z-((md.2.getD q ed0).getD 0 zT).z)),(zY (T3.mk (((md.2.getD q ed0).getD 0 zT).x-p.x) (((md.2.getD q ed0).getD 0 zT).y-p.y) (((md.2.getD q ed0).getD 0 zT).z-p.z)) (T3.mk (((md.2.getD q ed0).getD 1 zT).x-p.x) (((md.2.getD q ed0).getD 1 zT).y-p.y) (((md.2.getD q ed0).getD 1 zT).z-p.z)))=zT))]) (ps':=[(0,_)]) underlying150 nJ I I I (yF (xW (yN oM)) (yF (xW (yN oM)) zSA)) e2z (zG I (Pc.arr (Pc.here _) (zT,(zT,False)) 0 dC) aw zR) zom nP) I I I ?_);intro bu de bm;obtain⟨br,rfl,ab⟩:=bm;refine yC (A:=[]) (ρ:=(rpP (tPt (4*j+4*k+15)) (rpP (tPt (2*k+4)) rpB))) ab ?_;intro h6 fe ap;refine xR (A:=[_,_]) (zV (ρ:=(rpP (tPt (4*j+4*k+15)) (rpP (tPt (2*k+4)) rpB))) (bytes:=344) underlying150 nJ I I I I nP I I Z.up ap bO bO) I I I ?_;intro ak dd bl;obtain⟨ae,rfl,aa⟩:=bl;refine go8 ?_;refine xO (A:=[]) (xO (A:=[]) ?_);refine gqL ((q+1),(D++[(zY (T3.mk (((md.2.getD q ed0).getD 0 zT).x-p.x) (((md.2.getD q ed0).getD 0 zT).y-p.y) (((md.2.getD q ed0).getD 0 zT).z-p.z)) (T3.mk (((md.2.getD q ed0).getD 1 zT).x-p.x) (((md.2.getD q ed0).getD 1 zT).y-p.y) (((md.2.getD q ed0).getD 1 zT).z-p.z)),((T3.mk (((md.2.getD q ed0).getD 1 zT).x-((md.2.getD q ed0).getD 0 zT).x) (((md.2.getD q ed0).getD 1 zT).y-((md.2.getD q ed0).getD 0 zT).y) (((md.2.getD q ed0).getD 1 zT).z-((md.2.getD q ed0).getD 0 zT).z)),(zY (T3.mk (((md.2.getD q ed0).getD 0 zT).x-p.x) (((md.2.getD q ed0).getD 0 zT).y-p.y) (((md.2.getD q ed0).getD 0 zT).z-p.z)) (T3.mk (((md.2.getD q ed0).getD 1 zT).x-p.x) (((md.2.getD q ed0).getD 1 zT).y-p.y) (((md.2.getD q ed0).getD 1 zT).z-p.z)))=zT))]),ak,ae,h6) ?_ ?_
   · exact⟨mle,aa,by omega,ac_t hD ad⟩
   omega
  refine go4 ?_;refine lX (xB zQH pH M) λbv aw=>(zK (zO (ρ:=(rpP (tPt (4*j+4*k+15)) (rpP (tPt 1) rpB))) (m:=1) (xs:=[(zY (T3.mk (((md.2.getD q ed0).getD 0 zT).x-p.x) (((md.2.getD q ed0).getD 0 zT).y-p.y) (((md.2.getD q ed0).getD 0 zT).z-p.z)) (T3.mk (((md.2.getD q ed0).getD 1 zT).x-p.x) (((md.2.getD q ed0).getD 1 zT).y-p.y) (((md.2.getD q ed0).getD 1 zT).z-p.z)),(zT,(zY (T3.mk (((md.2.getD q ed0).getD 0 zT).x-p.x) (((md.2.getD q ed0).getD 0 zT).y-p.y) (((md.2.getD q ed0).getD 0 zT).z-p.z)) (T3.mk (((md.2.getD q ed0).getD 1 zT).x-p.x) (((md.2.getD q ed0).getD 1 zT).y-p.y) (((md.2.getD q ed0).getD 1 zT).z-p.z)))=zT))]) (ps':=[(0,_)]) underlying150 nJ I I I (yF (xW (yN oM)) (yF (xW (yN dC)) zSA)) e2z (zG I (Pc.arr (Pc.here _) (zT,(zT,False)) 0 dC) aw zR) zom nP) I I I ?_)
  rintro bu de ⟨br,rfl,ab⟩
  refine yC (A:=[]) (ρ:=(rpP (tPt (4*j+4*k+15)) (rpP (tPt 1) rpB))) ab ?_;intro h5 df ao;refine xR (A:=[_,_]) (zV (ρ:=(rpP (tPt (4*j+4*k+15)) (rpP (tPt (2*k+4)) rpB))) (bytes:=344) underlying150 nJ I I I I nP I I Z.up (ao.le (Le.s (Le.p (Le.refl _) (Le.p (Le.t (Le.q (l:=2*k+4) oM)) (Le.refl _))))) bO bO) I I I ?_
  rintro ak dd ⟨ae,rfl,aa⟩
  refine go8 ?_;refine xO (A:=[]) (xO (A:=[]) ?_);refine gqL ((q+1),(D++[(zY (T3.mk (((md.2.getD q ed0).getD 0 zT).x-p.x) (((md.2.getD q ed0).getD 0 zT).y-p.y) (((md.2.getD q ed0).getD 0 zT).z-p.z)) (T3.mk (((md.2.getD q ed0).getD 1 zT).x-p.x) (((md.2.getD q ed0).getD 1 zT).y-p.y) (((md.2.getD q ed0).getD 1 zT).z-p.z)),(zT,(zY (T3.mk (((md.2.getD q ed0).getD 0 zT).x-p.x) (((md.2.getD q ed0).getD 0 zT).y-p.y) (((md.2.getD q ed0).getD 0 zT).z-p.z)) (T3.mk (((md.2.getD q ed0).getD 1 zT).x-p.x) (((md.2.getD q ed0).getD 1 zT).y-p.y) (((md.2.getD q ed0).getD 1 zT).z-p.z)))=zT))]),ak,ae,h5) ?_ ?_
  · exact⟨mle,aa,by omega,ac_f hD ad⟩
  omega
 have eq:q=md.2.length:=by omega
 rw[eq] at hD;have dv:D.length=md.2.length:=by rw[hD];exact xK _ _
 refine go6 ?_;refine zYZ (go8 ?_);refine gcL (ι:=Nat×Mem) (λ(H,mb)=>(MLe ma mb/\(H<=cG md p),[(4,vP b4 0),(5,C),(9,vI ↑H)],[.gs 153 19 C D.length J,.var b4 31 bd,.var b3 31 be,.var b2 99 bf],mb,cG md p-H)) (0,ma) ?_ ?_
 · exact⟨mle,oM⟩
 rintro⟨H,mb⟩ ⟨dt,bo⟩
 refine xC ?_;have bb:=bo;refine go5 ?_;refine gv (kL mh0 underlying150 I) I (gv (gJ (p:=3) I I oM oM) I (gc4 (λaj=>?_) λaj=>?_))
 ·
  have fd:(0:Int)<=↑H*↑H/\(↑H:Int)*↑H<=36000012000001:=by have h9:H*H<=6000001*6000001:=Nat.mul_le_mul oM oM;rw[<-Int.natCast_mul];omega
  refine go6 ?_;refine cL (vs:=[vI (1)]) ⟨I,trivial⟩ call116 (λw hs=>zB6 hs dC dC) λeh h1 dk cl=>(go1 ?_);refine cL (ev1 I) call116 (λw hs=>zB6 hs oM oM) λeg h2 dj ck=>(go2 ?_);refine gv (gJ I I oM oM) I (cL (ev1 I) call116 (λw hs=>zB6 hs oM oM) λef h3 di cj=>(lX (xV (ρ:=(tPt 2)) (wJ (ps':=[(0,_),(1,_),(2,_)]) underlying31 yU I I sizeOf29 e6z I (xW (yN dC)) (zG I (Pc.tx (Pc.here _)) cl.up (zG I (Pc.ty (Pc.here _)) ck.up (zG I (Pc.tz (Pc.here _)) cj zR))))) λee ci=>(nA (ρ:=(tPt 2)) (X:=zT) yU (xW (yN dC)) λbs dz bk=>(yI (A:=[]) (uB sizeOf31 pH bk ci) λbc ac=>(go6 ?_)))));refine gv (kL mh1 underlying150 I) I (go4 ?_);refine gcL (ι:=Nat×Mem) (λ(u,mc)=>(MLe h3 mc/\(u<=D.length/\∀v,v<u->¬zF9 (D.getD v (zT,(zT,False))) (vK ↑H)),[(4,vP b4 0),(5,C),(9,vI ↑H),(10,vP bs 0),(63,C),(64,vI (↑D.length:Int)),(65,vI ↑u)],[.var bs 31 bc,.gs 153 19 C D.length J,.var b4 31 bd,.var b3 31 be,.var b2 99 bf],mc,D.length-u)) (0,h3) ?_ ?_
  · exact⟨mle,by omega,λv h=>by omega⟩
  rintro⟨u,mc⟩ ⟨dr,fa,bn⟩
  refine xC ?_;refine gc6 (λbp=>?_) λbp=>?_
  ·
   refine go6 ?_;refine gv ((xN u mh1 underlying150 sizeOf153 I I I bO nP).cv (show _=zM 1 C ((u*19+0)) from congrArg (zM 1 C) zo0)) I (zKE (F:=λv_=>(rpP (tPt (4*j+4*k+15)) (rpP (tPt (2*k+4)) rpB)).Is mc v_ (D.getD u (zT,(zT,False)))) (wZ zQH (Pc.arr (Pc.here _) (zT,(zT,False)) u bO) I nP I Z.up I) (sS mh1) I ?_);intro ed ch;refine nA (ρ:=(rpP (tPt 1) (rpP (tPt 1) rpB))) (X:=(zT,(zT,False))) nJ (yF (xW (yN dC)) (yF (xW (yN dC)) zSA)) λfh dy bj=>?_;have am:=(Le.p (Le.t (Le.q (l:=4*j+4*k+15) oM)) (Le.p (Le.t (Le.q (l:=2*k+4) oM)) (Le.refl _))).R bj;refine yI (A:=[]) (uB sizeOf153 pH am ch) λdm au=>(go4 ?_);refine lX (xB zQH pH au) λec cg=>(lX (xB zL pH ac) λeb cf=>(cL (ev2 I I) call117 (λw hs=>yBW hs cg cf oM oM dC) λbt h4 dh ce=>?_));obtain rfl:bt=vB (zF9 (D.getD u (zT,(zT,False))) (T3.mk (((1:Int):Int):Rat) (((↑H:Int):Int):Rat) ((((↑H:Int)*(↑H:Int)):Int):Rat))):=ce;refine gc2 (λU=>?_) λU=>?_
   ·
    refine pQ ?_;refine xO (A:=[]) (xO (A:=[]) ?_);refine gqL ((H+1),h4) ?_ ?_
    · exact⟨mle,zM7 hD hcd4 bb oM U⟩
    (have:=zM7 hD hcd4 bb oM U;omega)
   refine go7 ?_;refine xO (A:=[]) ?_;refine gqL ((u+1),h4) ?_ ?_
   · exact⟨mle,by omega,vH (Q:=λv=>¬zF9 (D.getD v (zT,(zT,False))) (vK ↑H)) bn U⟩
   omega
  refine go7 ?_;refine lX (xB zL pH ac) λea cd=>(yI (A:=[_,_]) (uB sizeOf31 pH cb cd) λdl ar=>(go8 ?_));refine yLD (uJ (fV (t:=4) zL mh2 I ar) ?_);intro dq ah aq;refine yW (λE S=>yE I ah E S) ?_;exact(Rp.Is.cast aq (by rw[<-yCY hD bb (λv hv=>bn v oM)];rfl))
 exact absurd oM aj
theorem zG4{m n k j l:Nat}{vmd:Value}{md:((List (Pq×((List (List Tq))×(Int×Int))))×(List (List Tq)))}(rmd:(rpP (rpS (rpP (tPl m n) (rpP (tLL k) (rpP rpI rpI)))) (rpS (rpA 2 (tPt k)))).Is h0 vmd md){vp:Value}{p:Tq}(rp:(tPt j).Is h0 vp p){vd:Value}{d:Tq}(rd:(tPt l).Is h0 vd d)(hcd0:k<=10000)(hcd1:j<=1000)(hcd2:l<=300)(hcd3:m<=100)(hcd4:n<=100)(hcd5:zTY md):
 Calls Tryz.prog 79 #[vmd,vp,vd] w0 (Ret w0 h0 (λh r=>r=.tuple #[vI (crA md p d),vI (crB md p d),vB (nbM md p d)])):=by
 refine cb3 77 vmd vp vd func79 hs ?_;refine go2 ?_;refine nB rmd λb3 cn bi=>(nB rp λb4 cm aw=>(nB rd λb5 cl av=>(pP ?_)));refine lX (xB yE4 (Pc.fst pH) bi) λbh cg=>(go5 ?_);refine gcL (ι:=Nat×Mem) (λ(f,ma)=>(MLe h0 ma/\(f<=md.1.length/\∀u,u<f->¬bdM (md.1.getD u fm0) p d),[(4,vP b4 0),(5,vP b5 0),(9,vI (crM md p d f).1),(10,vI (crM md p d f).2),(18,bh),(19,vI (↑(md.1).length:Int)),(20,vI ↑f)],[.var b5 31 cl,.var b4 31 cm,.var b3 99 cn],ma,md.1.length-f)) (0,h0) ?_ ?_
 · exact⟨mle,by omega,λu h=>by omega⟩
 rintro⟨f,ma⟩ ⟨co,ek,ab⟩
 refine xC ?_;have dz:=hcd5.1;have el:=zCQ md p d f;refine gc6 (λbb=>?_) λbb=>?_
 ·
  refine go6 ?_;refine lX (xI fm0 f underlying96 zED cg) λdx cf=>(lX (xA zED cf) λdw ce=>(nA (ρ:=(rpP (tPl 1 1) (rpP (tLL 1) (rpP rpI rpI)))) (X:=((zT,(0:Rat)),([],((0:Int),(0:Int))))) oV (yF (yF (xW (yN dC)) (yN dC)) (yF vC (yF wM wM))) λep cw ba=>?_));have au:=(Le.p (Le.p (Le.t (Le.q (l:=m+1) oM)) (Le.q (l:=n+1) oM)) (Le.p (Le.s (Le.s (Le.t (Le.q (l:=k+1) oM)))) (Le.refl _))).R ba;refine yI (A:=[]) (uB sizeOf140 pH au (ce.le (Le.p (Le.p (Le.t (Le.q (l:=m+1) oM)) (Le.q (l:=n+1) oM)) (Le.p (Le.s (Le.s (Le.t (Le.q (l:=k+1) oM)))) (Le.refl _))))) λcu U=>(go3 ?_);refine zJ 16 _ [(14,(13,29,[.bool false,.slice none 0 0,.slice none 0 0])),(15,(14,29,[.bool false,.slice none 0 0,.slice none 0 0]))] [(0,.q),(1,.q),(2,.q),(3,.q),(5,.q),(6,.q),(7,.q),(8,.q),(9,.q),(10,.q),(11,.q),(4,.c),(12,.c),(13,.c),(14,.a),(15,.a),(16,.t),(17,.t)] yA (jS.cons I I (qA wB I I) (jS.cons I I (qA wB I I) jS.nil)) (wP zor) (qD I I (qD I I kW)) (λr hr=>hr) (go2 ?_);refine wX I (xB zL (Pc.fst (Pc.fst pH)) U) λdv cd=>(wX I (xB zL pH av) λdu cc=>(go2 ?_));refine wX I (xB yD (Pc.fst (Pc.snd pH)) U) λdr cb=>(go2 ?_);refine wX I (xB zL (Pc.fst (Pc.fst pH)) U) λdq ca=>(wX I (xB zL pH aw) λdp bz=>?_);refine w_c I (sC (ev2 I I) call120 (λw hs=>zDU hs cd cc oM) λdt h1 ej ap=>?_);replace ap:=Rp.Is.le ap (Le.q (l:=3*l+3*m+12) oM);refine w_c I (sC (ev2 I I) call120 (λw hs=>zDU hs ca.up bz.up oM) λdn h2 ei ao=>?_);replace ao:=Rp.Is.le ao (Le.q (l:=3*j+3*m+12) oM);refine w_c I (sC (ev2 I I) call121 (λw hs=>fJ hs cb.up ao oM) λdm h3 eh an=>?_);replace an:=Rp.Is.le an (Le.q (l:=3*j+3*m+n+14) oM);refine w_a I I (λeo=>?_);have az:(rpQ (3*m+3*l+9)).R h3 [.bool false,.slice none 0 0,.slice none 0 0] (0:Rat):=(yN oM);refine w_a I I (λen=>?_);have ay:(rpQ (n+3*m+3*j+11)).R h3 [.bool false,.slice none 0 0,.slice none 0 0] (0:Rat):=(yN oM);have ar:=(Le.q (l:=3*l+3*m+12) oM).R az;refine yK (A:=[_]) I (uB sizeOf29 pH ar ap) λct ac=>?_;have aq:=(Le.q (l:=3*j+3*m+n+14) oM).R ay;refine yK (A:=[]) I (uB sizeOf29 pH aq an) λcq ae=>(go4 ?_);refine zJ 12 _ [] [(0,.q),(2,.q),(1,.c),(3,.c),(4,.q),(5,.q),(6,.q),(7,.q),(8,.q),(9,.q),(10,.q),(11,.q)] yA nX (wP zor) nX (λr hr=>hr) (wX I (xB yD pH ac) λdl bx=>(wX I (xB yD pH ae) λdk bv=>?_));refine w_c I (sC (ev1 I) call122 (λw hs=>rW hs bx oM) λbg h4 eg bw=>?_);obtain rfl:bg=vI (yV (zE (((md.1.getD f fm0).1).1) d)):=bw;have cj:=xG (zE (((md.1.getD f fm0).1).1) d);refine w_c I (sC (ev1 I) call122 (λw hs=>rW hs bv.up oM) λbf h5 ee bu=>?_);obtain rfl:bf=vI (yV ((((md.1.getD f fm0).1).2)-(zE (((md.1.getD f fm0).1).1) p))):=bu;have ci:=xG ((((md.1.getD f fm0).1).2)-(zE (((md.1.getD f fm0).1).1) p));have dy:=yGK (zE (md.1.getD f fm0).1.1 d) ((md.1.getD f fm0).1.2-zE (md.1.getD f fm0).1.1 p);refine wC I (λ_ _=>gJ I I oM oM) I (go2 ?_);refine jT (((yV (zE (((md.1.getD f fm0).1).1) d))*(yV ((((md.1.getD f fm0).1).2)-(zE (((md.1.getD f fm0).1).1) p))))<=(0:Int)) (λaa=>?_) (λaa=>?_)
  ·
   rw[xT aa];refine k7 ?_;refine xO (A:=[]) (xO (A:=[]) (xO (A:=[]) ?_));have C:=zNB (md:=md) (p:=p) (d:=d) (f:=f) (.inl zoz);have O:¬bdM (md.1.getD f fm0) p d:=λe=>e.1 (.inl zoz);refine gqL ((f+1),h5) ?_ ?_ (he:=⟨I,I,congrArg (λz:Int=>some (vI z)) (by have H:=congrArg Prod.fst C.symm;exact H),congrArg (λz:Int=>some (vI z)) (by have H:=congrArg Prod.snd C.symm;exact H),I,I,I,trivial⟩)
   · exact⟨mle,by omega,vH (Q:=λu=>¬bdM (md.1.getD u fm0) p d) ab O⟩
   omega
  rw[yM aa];refine go1 ?_;refine oX I (xB yE5 (Pc.snd (Pc.fst pH)) U) λdj bt=>(yS I I I (λh' L' hh hR=>qH underlying76 I (bt.mono hh)) I (gc4 (λah=>?_) λah=>?_))
  ·
   refine go8 ?_;refine xO (A:=[]) (xO (A:=[]) (xO (A:=[]) ?_));have C:=zNB (md:=md) (p:=p) (d:=d) (f:=f) (.inr oM);have O:¬bdM (md.1.getD f fm0) p d:=λe=>e.1 (.inr oM);refine gqL ((f+1),h5) ?_ ?_ (he:=⟨I,I,congrArg (λz:Int=>some (vI z)) (by have H:=congrArg Prod.fst C.symm;exact H),congrArg (λz:Int=>some (vI z)) (by have H:=congrArg Prod.snd C.symm;exact H),I,I,I,trivial⟩)
   · exact⟨mle,by omega,vH (Q:=λu=>¬bdM (md.1.getD u fm0) p d) ab O⟩
   omega
  have Z:¬skM (md.1.getD f fm0) p d:=λe=>e.elim zoz (λe=>ah oM);refine go4 ?_;refine lX (xB yD pH ae) λdi bs=>(lX (xB yD pH ac) λdh br=>(cL (ev2 I I) call123 (λw hs=>zTG hs bs br oM) λdf h6 ed bq=>?_));obtain⟨ai,rfl,M⟩:=bq
  change (rpQ ((3*j+3*m+n+14)+(3*l+3*m+12))).Is h6 ai (if(zE (((md.1.getD f fm0).1).1) d)=0 then 0 else((((md.1.getD f fm0).1).2)-(zE (((md.1.getD f fm0).1).1) p))/(zE (((md.1.getD f fm0).1).1) d)) at M
  replace M:=Rp.Is.le M (Le.q (l:=3*j+3*l+6*m+n+26) oM);refine go3 ?_;refine nA (ρ:=(rpQ (n+6*m+3*j+3*l+30))) (X:=(0:Rat)) wB (yN oM) λem cv ax=>(yI (A:=[]) (uB sizeOf29 pH ax (M.le (Le.q (l:=n+6*m+3*j+3*l+30) oM))) λck aj=>(go4 ?_));refine zJ 7 _ [] [(0,.q),(1,.q),(2,.q),(3,.q),(4,.c),(5,.c),(6,.c)] yA nX zor nX (λr hr=>hr) (wX I (xB zED pH U) λde bp=>(wX I (xB zL pH aw) λdd bo=>(wX I (xB yD pH aj) λdc bn=>(wX I (xB zL pH av) λdb bm=>?_))));refine w_c I (sC (ev2 I I) call125 (λw hs=>zTF hs bn bm oM) λda h7 ec am=>?_);replace am:=Rp.Is.le am (Le.t (Le.q (l:=3*j+4*l+6*m+n+32) oM));refine w_c I (sC (ev2 I I) call124 (λw hs=>yBU hs bo.up am oM) λcz h8 eb ak=>?_);replace ak:=Rp.Is.le ak (Le.t (Le.q (l:=4*j+4*l+6*m+n+34) oM));refine w_c I (sC (ev2 I I) call109 (λw hs=>zH6 hs bp.up ak oM oM (by first|omega|exact hcd5.2.2 f oM)) λbe H ea bl=>?_);obtain rfl:be=vI (whM (md.1.getD f fm0) (T3.mk (p.x+((if(zE (((md.1.getD f fm0).1).1) d)=0 then 0 else((((md.1.getD f fm0).1).2)-(zE (((md.1.getD f fm0).1).1) p))/(zE (((md.1.getD f fm0).1).1) d))*d.x)) (p.y+((if(zE (((md.1.getD f fm0).1).1) d)=0 then 0 else((((md.1.getD f fm0).1).2)-(zE (((md.1.getD f fm0).1).1) p))/(zE (((md.1.getD f fm0).1).1) d))*d.y)) (p.z+((if(zE (((md.1.getD f fm0).1).1) d)=0 then 0 else((((md.1.getD f fm0).1).2)-(zE (((md.1.getD f fm0).1).1) p))/(zE (((md.1.getD f fm0).1).1) d))*d.z)))):=bl;refine gc9 (λD=>?_) λD=>?_
  ·
   rw[zQA Z] at D;obtain⟨e1,e2,e3⟩:=yC5 (md:=md) (p:=p) (d:=d) (f:=f) oM ⟨Z,D⟩;refine sG ?_;refine qN I I I I ?_;rw[e1,e2,yM e3]
  rw[zQA Z] at D;refine gc6 (λJ=>?_) λJ=>?_
  ·
   rw[zQA Z] at J;refine go2 ?_;refine lX (xB yD pH ac) λcy bk=>(cL (ev1 I) call122 (λw hs=>rW hs bk oM) λbd bc cp bj=>?_);obtain rfl:bd=vI (yV (zE (((md.1.getD f fm0).1).1) d)):=bj;have ch:=xG (zE (((md.1.getD f fm0).1).1) d);refine gc3 (λad=>?_) λad=>?_
   ·
    refine qE ?_;refine xO (A:=[]) (xO (A:=[]) (xO (A:=[]) (xO (A:=[]) ?_)));have C:=yC4 Z J (zQN.1 ad);have O:¬bdM (md.1.getD f fm0) p d:=λe=>D e.2;refine gqL ((f+1),bc) ?_ ?_ (he:=⟨I,I,congrArg (λz:Int=>some (vI z)) (by have H:=congrArg Prod.fst C.symm;exact H),congrArg (λz:Int=>some (vI z)) (by have H:=congrArg Prod.snd C.symm;exact H),I,I,I,trivial⟩)
    · exact⟨mle,by omega,vH (Q:=λu=>¬bdM (md.1.getD u fm0) p d) ab O⟩
    omega
   refine qE ?_;refine xO (A:=[]) (xO (A:=[]) (xO (A:=[]) (xO (A:=[]) ?_)));have C:=yIX Z J (λe=>ad (zQN.2 e));have O:¬bdM (md.1.getD f fm0) p d:=λe=>D e.2;refine gqL ((f+1),bc) ?_ ?_ (he:=⟨I,I,congrArg (λz:Int=>some (vI z)) (by have H:=congrArg Prod.fst C.symm;exact H),congrArg (λz:Int=>some (vI z)) (by have H:=congrArg Prod.snd C.symm;exact H),I,I,I,trivial⟩)
   · exact⟨mle,by omega,vH (Q:=λu=>¬bdM (md.1.getD u fm0) p d) ab O⟩
   omega
  rw[zQA Z] at J;refine go8 ?_;refine xO (A:=[]) (xO (A:=[]) (xO (A:=[]) (xO (A:=[]) ?_)));have C:=yIW Z J;have O:¬bdM (md.1.getD f fm0) p d:=λe=>D e.2;refine gqL ((f+1),H) ?_ ?_ (he:=⟨I,I,congrArg (λz:Int=>some (vI z)) (by have H:=congrArg Prod.fst C.symm;exact H),congrArg (λz:Int=>some (vI z)) (by have H:=congrArg Prod.snd C.symm;exact H),I,I,I,trivial⟩)
  · exact⟨mle,by omega,vH (Q:=λu=>¬bdM (md.1.getD u fm0) p d) ab O⟩
  omega
 have ef:f=md.1.length:=by omega
 obtain⟨e1,e2,e3⟩:=yIY (md:=md) (p:=p) (d:=d) (λu hu=>ab u oM);refine pP ?_;refine qN I I I I ?_;rw[e1,e2,ef,xT e3]
theorem zO4{m n k j:Nat}{vmd:Value}{md:((List (Pq×((List (List Tq))×(Int×Int))))×(List (List Tq)))}(rmd:(rpP (rpS (rpP (tPl m n) (rpP (tLL k) (rpP rpI rpI)))) (rpS (rpA 2 (tPt k)))).Is h0 vmd md){vp:Value}{p:Tq}(rp:(tPt j).Is h0 vp p)(hcd0:k<=10000)(hcd1:j<=1000)(hcd2:m<=100)(hcd3:n<=100)(hcd4:zTY md)(hcd5:cG md p<=3*md.2.length+1)(hcd6:clM md p (vK ↑(cG md p))):
 Calls Tryz.prog 113 #[vmd,vp] w0 (Ret w0 h0 (λ_ r=>r=vI (crA md p (vK ↑(cG md p))-crB md p (vK ↑(cG md p))))):=by
 have aj:=zIP md p (vK ↑(cG md p));have ae:=hcd4.1;refine cb2 21 vmd vp func113 hs ?_;refine go2 ?_;refine nB rmd λb2 am D=>(nB rp λb3 ak C=>(go4 ?_));refine zJ 13 _ [] [(0,.q),(1,.q),(2,.q),(3,.q),(4,.c),(5,.c),(6,.q),(7,.q),(8,.q),(9,.q),(10,.q),(11,.q),(12,.q)] yA nX (wP zor) nX (λr hr=>hr) (wX I (xB zSE pH D) λv9 r9=>(wX I (xB zL pH C) λad U=>(wX I (xB zSE pH D) λac O=>(wX I (xB zL pH C) λab M=>?_))));refine w_c I (sC (ev2 I I) call74 (λw hs=>zG3 hs O M oM oM (by first|omega|exact hcd4|exact hcd5|exact hcd6) (by first|omega|exact hcd4|exact hcd5|exact hcd6) (by first|omega|exact hcd4|exact hcd5|exact hcd6)) λaa h1 ai J=>?_);refine w_c I (sC (ev3 I I I) call79 (λw hs=>zG4 hs r9.up U.up J oM oM dC oM oM (by first|omega|exact hcd4)) λZ h2 ah H=>?_);obtain rfl:=H;refine yCK ?_;refine zC I I ?_
 rfl
theorem zMC{m n k j:Nat}{vmd:Value}{md:((List (Pq×((List (List Tq))×(Int×Int))))×(List (List Tq)))}(rmd:(rpP (rpS (rpP (tPl m n) (rpP (tLL k) (rpP rpI rpI)))) (rpS (rpA 2 (tPt k)))).Is h0 vmd md){vp:Value}{p:Tq}(rp:(tPt j).Is h0 vp p)(hcd0:k<=10000)(hcd1:j<=1000)(hcd2:m<=100)(hcd3:n<=100)(hcd4:zTY md)(hcd5:cG md p<=3*md.2.length+1)(hcd6:clM md p (vK ↑(cG md p))):
 Calls Tryz.prog 72 #[vmd,vp] w0 (Ret w0 h0 (λh r=>r=.tuple #[vI (wdM md p),vB (¬onA md p)])):=by
 refine cb2 18 vmd vp func72 hs ?_;refine go2 ?_;refine nB rmd λb2 an J=>(nB rp λb3 am H=>(go7 ?_));refine lX (xB zSE pH J) λv9 r9=>(lX (xB zL pH H) λai ab=>(cL (ev2 I I) call70 (λw hs=>yHB hs r9 ab oM oM oM oM (by first|omega|exact hcd4)) λah h1 ak aa=>?_));obtain rfl:=aa;refine zKJ (λD=>?_) λD=>?_
 ·
  have C:onA md p:=D;refine go8 ?_;refine wL I I I ?_;rw[yM (λe=>e C),show wdM md p=0 from if_pos C]
 have C:¬onA md p:=D;refine go4 ?_;refine lX (xB zSE pH J) λae Z=>(lX (xB zL pH H) λad U=>(cL (ev2 I I) call113 (λw hs=>zO4 hs Z U oM oM oM oM (by first|omega|exact hcd4|exact hcd5|exact hcd6) (by first|omega|exact hcd4|exact hcd5|exact hcd6) (by first|omega|exact hcd4|exact hcd5|exact hcd6)) λM h2 aj O=>?_));obtain rfl:M=vI (crA md p (vK ↑(cG md p))-crB md p (vK ↑(cG md p))):=O;have ac:=zIP md p (vK ↑(cG md p));refine go5 ?_;refine wL I I I ?_;rw[xT C,show wdM md p=_ from if_neg C]
end
theorem yKZ:MapTy Tryz.prog 138 118 4 3:=⟨underlying138,underlying118,underlying3,sizeOf3,isAgg3,zUR zYL rfl⟩
theorem yBX{w0 w:World}{h0 h:Mem}{k m n j:Nat}{vs:Value}{s:Sd}(rs:(tSd k m n j).Is h vs s){vl:Value}{l:List Int}(rl:(rpS rpI).Is h vl l){b bm ck:Nat}{cs ces:List Value}{vf ve:Value}{EE:List (List Pt)}{es:Array MapEntry}{T:List PIr}(rb:(rpP rpV rpV).R h cs (vf,ve))(ho0:ve.oneCell'=true)(re:RL (rpA 2 (tPt (k+1))) h ces EE)(hm0:lW es T)(hEE:EE=T.map (edP s.1))(hcd0:∀u,u<l.length->0<=l.getD u 0/\l.getD u 0<s.1.length)(hcd1:l.length<=10000/\T.length<=10000000/\s.1.length<=100000)(hcd2:k<=1000000){L:List Res}(hs:St w0 h0 (.var b 99 cs::.gs 151 18 ve EE.length ces::.blk bm (.map es ck)::L) h w):
 Calls Tryz.prog 107 #[vP b 0,vs,vl,.map (some bm)] w (tP w0 h0 (λg v K=>∃Qs',(Qs'++L).Sublist K/\MLe h g/\∃cs' ve' ces' es' ck',Qs'=[.var b 99 cs',.gs 151 18 ve' ((sxE s.1 l T l.length).map (edP s.1)).length ces',.blk bm (.map es' ck')]/\(rpP rpV rpV).R g cs' (vf,ve')/\ve'.oneCell'=true/\RL (rpA 2 (tPt (k+1))) g ces' ((sxE s.1 l T l.length).map (edP s.1))/\lW es' (sxE s.1 l T l.length))):=by
 refine cK (n:=77) (e:=[(0,vP b 0),(1,vs),(2,vl),(3,.map (some bm))]) (vs:=[vP b 0,vs,vl,.map (some bm)]) func107 rfl rfl (bL rfl) hs e4z (go2 ?_);refine nB rs λb5 cc ah=>(uK ?_);refine gcL (ι:=Nat×List (List Pt)×List PIr×List Value×Value×List Value×Array MapEntry×Nat×Mem) (λ(u,E2,T2,U,C,O,M,Z,ma)=>(MLe h ma/\((rpP rpV rpV).R ma U (vf,C)/\RL (rpA 2 (tPt (k+1))) ma O E2/\C.oneCell'=true/\lW M T2/\u<=l.length/\T2=sxE s.1 l T u/\E2=T2.map (edP s.1)),[(0,vP b 0),(2,vl),(3,.map (some bm)),(5,vP b5 0),(12,vl),(13,vI (↑(l).length:Int)),(14,vI ↑u)],(.var b5 39 cc::.var b 99 U::.gs 151 18 C E2.length O::.blk bm (.map M Z)::L),ma,l.length-u)) (0,EE,T,cs,ve,ces,es,ck,h) ?_ ?_
 · exact⟨mle,rb,re,ho0,hm0,by omega,I,hEE⟩
 rintro⟨u,E2,T2,U,C,O,M,Z,ma⟩ ⟨au,H,ab,ac,J,dv,ad,ae⟩
 refine xC ?_;have ca:=zI3 s.1 l T u;rw[<-ad] at ca;have dy:E2.length=T2.length:=by rw[ae];exact List.length_map _
 refine gc6 (λaw=>?_) λaw=>?_
 ·
  have dx:=hcd0 u oM;have dw:=hcd0 ((u+1)%l.length) (Nat.mod_lt _ oM);refine go7 ?_;refine lX (xI (0:Int) u underlying22 ty3 rl) λdr bz=>(lX (xA ty3 bz) λdq bx=>?_);obtain⟨rfl,cl,cg⟩:=kM bx;refine qI ?_;refine gv (wF I I oM oM) I (lX (xI (0:Int) ((u+1)%l.length) underlying22 ty3 rl (hi:=by exact Nat.mod_lt _ oM)) λdp bw=>(lX (xA ty3 bw) λdn bv=>?_));obtain⟨rfl,cj,cf⟩:=kM bv;refine go7 ?_;refine gv (zWW I I) I (go2 ?_);refine gv (zLS I I) I (lX (xV (ρ:=(rpA 2 rpI)) (wJ (ps':=[(0,_),(1,_)]) underlying118 dR I I sizeOf3 e4z I (zKX 2 wM) (zG I (Pc.arr (Pc.here _) (0:Int) 0 dC) (jA oM oM) (zG I (Pc.arr (Pc.here _) (0:Int) 1 dC) (jA oM oM) zR)))) λdm bu=>(nA (ρ:=(rpA 2 rpI)) (X:=(List.replicate 2 (0:Int))) dR (zKX 2 wM) λeb cn ar=>(yI (A:=[]) (uB sizeOf118 pH ar bu) λcb D=>(go3 ?_))));refine zJ 18 _ [] [(0,.q),(1,.q),(2,.q),(3,.q),(4,.q),(5,.q),(6,.q),(7,.q),(8,.q),(9,.q),(10,.q),(11,.q),(12,.q),(13,.q),(14,.q),(15,.c),(16,.q),(17,.q)] yA nX (wP zor) nX (λr hr=>hr) (go1 ?_);refine wX I (xB yDI pH D) λdl bt=>(w_q I (λh' L' hh hR=>zE8 (u:=((min (l.getD u (0:Int)) (l.getD ((u+1)%l.length) (0:Int))),(max (l.getD u (0:Int)) (l.getD ((u+1)%l.length) (0:Int))))) yKZ (hR _ mh4) I (evk I (zYA (bt.mono hh))) J) I (go2 ?_));refine jT (¬(((min (l.getD u (0:Int)) (l.getD ((u+1)%l.length) (0:Int))),(max (l.getD u (0:Int)) (l.getD ((u+1)%l.length) (0:Int))))∈T2)) (λaa=>?_) (λaa=>?_)
  ·
   rw[xT aa];refine go1 ?_;refine oX I (xB uN (Pc.fst pH) ah) λdk bs=>(yS I I I (λh' L' hh hR=>yY I) I (oX I (xI zT ((l.getD u (0:Int)).toNat) underlying35 zL bs) λdj br=>(oX I (xA zL br) λdi bq=>(go1 ?_))));refine oX I (xB uN (Pc.fst pH) ah) λdh bp=>(yS I I I (λh' L' hh hR=>yY I) I (oX I (xI zT ((l.getD ((u+1)%l.length) (0:Int)).toNat) underlying35 zL bp) λdf bo=>(oX I (xA zL bo) λde bn=>?_)));refine w_c I (zBX I I (sC (ev2 I I) call119 (λw hs=>zLZ hs bq bn oM) λaz h1 ea bl=>?_));obtain rfl:az=vB ((s.1.getD ((l.getD u (0:Int)).toNat) zT)=(s.1.getD ((l.getD ((u+1)%l.length) (0:Int)).toNat) zT)):=bl;refine gc4 (λav=>?_) λav=>?_
   ·
    refine go3 ?_;refine lX (xB yDI pH D) λdd bk=>(zT9 (A:=[_,_,_,_]) (u:=((min (l.getD u (0:Int)) (l.getD ((u+1)%l.length) (0:Int))),(max (l.getD u (0:Int)) (l.getD ((u+1)%l.length) (0:Int))))) yKZ I (evk I (zYA bk)) I J zoz ?_);intro an am;refine go2 ?_;refine qO (A:=[_,_,_]) 22 [] [(0,.q),(1,.q),(2,.q),(3,.q),(4,.q),(5,.q),(6,.q),(7,.q),(8,.q),(9,.q),(10,.q),(11,.q),(12,.q),(13,.q),(14,.q),(15,.q),(16,.q),(17,.q),(18,.c),(19,.c),(20,.q),(21,.q),(22,.t)] yA nX (wP zor) nX (go2 ?_);refine wC I (λ_ _=>gH I) I (wC I (λ_ _=>(xU underlying99 I sizeOf97 I).cv (show _=vP b 1 from congrArg (vP b) zo0)) I (wX I (aA (xB yJY (Pc.snd pH) H)) λdc bj=>?_));subst bj;refine go1 ?_;refine wX I (xB uN (Pc.fst pH) ah) λdb bi=>(go1 ?_);refine wX I (xB ty3 (Pc.arr pH (0:Int) 0 dC) D) λda bh=>?_;obtain⟨rfl,ci,ce⟩:=kM bh;refine bH (F:=λv_=>AtP (tPt k) h1 v_ (s.1.getD ((min (l.getD u (0:Int)) (l.getD ((u+1)%l.length) (0:Int))).toNat) zT)) I (kT zT ((min (l.getD u (0:Int)) (l.getD ((u+1)%l.length) (0:Int))).toNat) underlying35 zL I I bi (by(show(min (l.getD u (0:Int)) (l.getD ((u+1)%l.length) (0:Int)))=_;omega)) oM nP) oO I ?_;intro cz bg;refine wX I (xA zL bg) λcy bf=>(go1 ?_);refine wX I (xB uN (Pc.fst pH) ah) λcw be=>(go1 ?_);refine wX I (xB ty3 (Pc.arr pH (0:Int) 1 dC) D) λcu bd=>?_;obtain⟨rfl,ch,cd⟩:=kM bd;refine bH (F:=λv_=>AtP (tPt k) h1 v_ (s.1.getD ((max (l.getD u (0:Int)) (l.getD ((u+1)%l.length) (0:Int))).toNat) zT)) I (kT zT ((max (l.getD u (0:Int)) (l.getD ((u+1)%l.length) (0:Int))).toNat) underlying35 zL I I be (by(show(max (l.getD u (0:Int)) (l.getD ((u+1)%l.length) (0:Int)))=_;omega)) oM nP) oO I ?_;intro ct bc;refine wX I (xA zL bc) λcq bb=>(wX I (xV (ρ:=(rpA 2 (tPt (k+1)))) (wJ (ps':=[(0,_),(1,_)]) underlying151 zA4 I I sizeOf31 e4z I (zKX 2 (xW (yN oM))) (zG I (Pc.arr (Pc.here _) zT 0 dC) (bf.le (Le.t (Le.q (l:=k+1) oM))) (zG I (Pc.arr (Pc.here _) zT 1 dC) (bb.le (Le.t (Le.q (l:=k+1) oM))) zR)))) λcp ba=>?_);refine w_c I (jM (λX=>zO (ρ:=(rpA 2 (tPt (k+1)))) (m:=1) (xs:=[[(s.1.getD ((min (l.getD u (0:Int)) (l.getD ((u+1)%l.length) (0:Int))).toNat) zT),(s.1.getD ((max (l.getD u (0:Int)) (l.getD ((u+1)%l.length) (0:Int))).toNat) zT)]]) (ps':=[(0,_)]) underlying97 zA4 I I I (zKX 2 (xW (yN oM))) e2z (zG I (Pc.arr (Pc.here _) ed0 0 dC) ba zR) (show 1*18<=16777216 from by decide) nP) I ?_)
    rintro co du ⟨cm,rfl,aq⟩
    refine w_c I (wA (A:=[]) (ρ:=(rpA 2 (tPt (k+1)))) aq dK ?_);intro h2 dz aj;refine tG (A:=[_,_,_]) (λX=>uS (zV (ρ:=(rpA 2 (tPt (k+1)))) (bytes:=336) underlying97 zA4 I I I I nP I I ab.up aj bO bO)) I (wH zov) ?_
    rintro ay dt ⟨ai,ax,rfl,ap⟩
    refine wC I (λ_ _=>gH I) I (wC I (λ_ _=>(xU underlying99 I sizeOf97 I).cv (show _=vP b 1 from congrArg (vP b) zo0)) I (yK (A:=[_,_]) I (uB sizeOf97 (Pc.snd pH) H (j8 ai)) λao ak=>(go7 ?_)));refine xO (A:=[]) ?_;refine gqL ((u+1),(E2++[[(s.1.getD ((min (l.getD u (0:Int)) (l.getD ((u+1)%l.length) (0:Int))).toNat) zT),(s.1.getD ((max (l.getD u (0:Int)) (l.getD ((u+1)%l.length) (0:Int))).toNat) zT)]]),(T2++[((min (l.getD u (0:Int)) (l.getD ((u+1)%l.length) (0:Int))),(max (l.getD u (0:Int)) (l.getD ((u+1)%l.length) (0:Int))))]),ao,ay,ax,an,(Z+1),h2) ?_ ?_
    · exact⟨mle,ak,ap,ai,am,by omega,yFY ad zoz zoz,yIO ae⟩
    omega
   refine go7 ?_;refine xO (A:=[]) ?_;refine gqL ((u+1),E2,T2,U,C,O,M,Z,h1) ?_ ?_
   · exact⟨mle,H.up,ab.up,ac,J,by omega,yAS ad zoz,ae⟩
   omega
  rw[yM aa];refine uK ?_;refine w_c I (mD I I I I (qE ?_));refine xO (A:=[]) ?_;refine gqL ((u+1),E2,T2,U,C,O,M,Z,ma) ?_ ?_
  · exact⟨mle,H.up,ab.up,ac,J,by omega,yAT ad zoz,ae⟩
  omega
 have eu:u=l.length:=by omega
 subst eu ae ad;refine go4 ?_;refine zKC I ?_;exact⟨_,(.cons _ (.cons_cons _ (.cons_cons _ (.cons_cons _ (List.Sublist.refl _))))),au,_,_,_,_,_,I,H.up,ac,ab.up,J⟩
section
variable{w0:World}{h0:Mem}(hs:MLe h0 (mem w0))
include hs
theorem zMD{k m n j:Nat}{vs:Value}{s:Sq}(rs:(tSd k m n j).Is h0 vs s)(hcd0:okS s)(hcd1:nmA s)(hcd2:k<=1000000)(hcd3:m<=1000000)(hcd4:n<=1000000):
 Calls Tryz.prog 69 #[vs] w0 (Ret w0 h0 (λh r=>(rpP (rpS (rpP (tPl (m+1) (n+1)) (rpP (tLL (k+1)) (rpP rpI rpI)))) (rpS (rpA 2 (tPt (k+1))))).Is h r (tS s))):=by
 have fz:=hcd0.1.1.1;have fy:=hcd0.1.1.2;refine cb1 57 vs func69 hs ?_;refine go2 ?_;refine nB rs λb1 dc aw=>(nA (ρ:=(rpP (rpS (rpP (tPl 1 1) (rpP (tLL 1) (rpP rpI rpI)))) (rpS (rpA 2 (tPt 1))))) (X:=([],[])) zPS (yF vC vC) λb2 db dj=>(go4 ?_));refine nA (ρ:=(rpP rpV rpV)) (X:=((Value.slice none 0 0),(Value.slice none 0 0))) zPS (yF rO rO) λb3 eo di=>(go4 ?_);refine zK zME I I I ?_
 rintro fr fu ⟨az,rfl,rfl⟩
 refine go7 ?_;refine lX (xB fQ (Pc.snd (Pc.fst pH)) aw) λcl eg=>(go5 ?_);refine xM 140 15 ?_;have cn:=RL.nil (ρ:=rpP (tPl (m+1) (n+1)) (rpP (tLL (k+1)) (rpP rpI rpI))) (h:=h0);refine xM 151 18 ?_;have cm:=RL.nil (ρ:=rpA 2 (tPt (k+1))) (h:=h0);refine gcL (ι:=Nat×List Fm×List (List Pt)×List PIr×List Value×Value×List Value×Value×List Value×Array MapEntry×Nat×Mem) (λ(f,FF,E2,T2,Z,O,ao,U,ae,ab,am,ma)=>(MLe h0 ma/\((rpP rpV rpV).R ma Z (O,U)/\RL (rpP (tPl (m+1) (n+1)) (rpP (tLL (k+1)) (rpP rpI rpI))) ma ao FF/\O.oneCell'=true/\RL (rpA 2 (tPt (k+1))) ma ae E2/\U.oneCell'=true/\lW ab T2/\f<=s.2.1.length/\FF=fmT s f/\T2=sfE s f/\E2=T2.map (edP s.1)),[(1,vP b1 0),(2,vP b2 0),(3,vP b3 0),(4,.map (some az)),(12,cl),(13,vI (↑(s.2.1).length:Int)),(14,vI ↑f)],[.gs 151 18 U E2.length ae,.gs 140 15 O FF.length ao,.blk az (.map ab am),.var b3 99 Z,.var b2 99 db,.var b1 39 dc],ma,s.2.1.length-f)) (0,[],[],[],eo,(.slice none 0 0),[],(.slice none 0 0),[],#[],0,h0) ?_ ?_
 · exact⟨mle,di,cn,I,cm,I,map_nil,by omega,I,I,I⟩
 rintro⟨f,FF,E2,T2,Z,O,ao,U,ae,ab,am,ma⟩ ⟨es,an,ba,cq,ar,bx,ca,gb,cc,cy,cz⟩
 refine xC ?_;have ge:FF.length=f:=by rw[cc];exact xK _ _
 refine gc6 (λcw=>?_) λcw=>?_
 ·
  have M:=hcd0.2.1 f oM;have fv:=zI9 hcd0 f oM;have gc:=zCW (s.2.1.getD f zA).1.1;refine go6 ?_;refine lX (xI zA f underlying36 bJ eg) λfq ee=>(lX (xA bJ ee) λfp ed=>(nA (ρ:=(tFc 1 1)) (X:=((zT,(0:Rat)),([],([]:List Nat)))) jU (yF (yF (xW (yN dC)) (yN dC)) (yF vC gY)) λb6 gg dh=>?_));have bh:=(Le.p (Le.p (Le.t (Le.q (l:=m+1) oM)) (Le.q (l:=n+1) oM)) (Le.refl _)).R dh;refine yI (A:=[]) (uB sizeOf53 pH bh (ed.le (Le.p (Le.p (Le.t (Le.q (l:=m+1) oM)) (Le.q (l:=n+1) oM)) (Le.refl _)))) λci J=>(go5 ?_);refine lX (xB aV (Pc.fst pH) J) λfo ec=>(lX (xV (ρ:=(rpP (tPl (m+1) (n+1)) (rpP (tLL 1) (rpP rpI rpI)))) (wE (ps':=[(0,_)]) underlying140 oV I I (zS6 underlying140) e2z I (yF (yF (xW (yN oM)) (yN oM)) (yF vC (yF wM wM))) (zG I (Pc.fst (Pc.here _)) ec zR))) λfm eb=>(nA (ρ:=(rpP (tPl 1 1) (rpP (tLL 1) (rpP rpI rpI)))) (X:=((zT,(0:Rat)),([],((0:Int),(0:Int))))) oV (yF (yF (xW (yN dC)) (yN dC)) (yF vC (yF wM wM))) λb7 gf df=>?_));have bg:=(Le.p (Le.p (Le.t (Le.q (l:=m+1) oM)) (Le.q (l:=n+1) oM)) (Le.refl _)).R df;refine yI (A:=[]) (uB sizeOf140 pH bg eb) λen bu=>(go5 ?_);refine lX (xB gV pH aw) λfl ea=>(lX (xB bJ pH J) λfk dz=>(cL (ev2 I I) call104 (λw hs=>zTV hs (ea.le (Le.p (Le.refl _) (Le.p (Le.s (Le.p (Le.p (Le.t (Le.q (l:=m+1) oM)) (Le.q (l:=n+1) oM)) (Le.refl _))) (Le.refl _)))) dz (by first|omega|exactλu v C hv=>hcd1 f oM u C v hv|exactλu C=>Nat.le_trans (M.2 u C) dC) (by first|omega|exactλu v C hv=>hcd1 f oM u C v hv|exactλu C=>Nat.le_trans (M.2 u C) dC) (by first|omega|exactλu v C hv=>hcd1 f oM u C v hv|exactλu C=>Nat.le_trans (M.2 u C) dC) (by first|omega|exactλu v C hv=>hcd1 f oM u C v hv|exactλu C=>Nat.le_trans (M.2 u C) dC)) λck h1 cu dy=>?_));obtain rfl:ck=.bool true:=by rw[show ck=vB (True) from dy,xT (by trivial)]
  refine go5 ?_;refine lX (xB gV pH aw) λfj dx=>(lX (xB bJ pH J) λfi dw=>(cL (ev2 I I) call105 (λw hs=>zL0 hs (dx.le (Le.p (Le.refl _) (Le.p (Le.s (Le.p (Le.p (Le.t (Le.q (l:=m+1) oM)) (Le.q (l:=n+1) oM)) (Le.refl _))) (Le.refl _)))) dw (by first|omega|exactλu v C hv=>hcd1 f oM u C v hv|exactλu C=>Nat.le_trans (M.2 u C) dC) (by first|omega|exactλu v C hv=>hcd1 f oM u C v hv|exactλu C=>Nat.le_trans (M.2 u C) dC) (by first|omega|exactλu v C hv=>hcd1 f oM u C v hv|exactλu C=>Nat.le_trans (M.2 u C) dC) (by first|omega|exactλu v C hv=>hcd1 f oM u C v hv|exactλu C=>Nat.le_trans (M.2 u C) dC)) λfh h2 ct dv=>(go1 ?_)));have bf:=(Le.p (Le.refl _) (Le.p (Le.s (Le.s (Le.t (Le.q (l:=k+1) oM)))) (Le.refl _))).R bu;refine yI (A:=[]) (uB sizeOf76 (Pc.snd (Pc.fst pH)) bf dv) λem bt=>(go6 ?_);refine lX (xB zL (Pc.fst (Pc.fst pH)) J) λfg du=>(cL (ev1 I) call106 (λw hs=>zTU hs du oM) λff h3 ga dt=>?_);obtain rfl:=dt;refine go4 ?_;refine yI (A:=[]) (uB sizeOf3 (Pc.snd (Pc.snd (Pc.fst pH))) bt (jA (z:=(↑(axI (((s.2.1.getD f zA).1).1)):Int)) oM oM)) λel bs=>(go1 ?_);refine yI (A:=[]) (uB sizeOf3 (Pc.snd (Pc.snd (Pc.snd pH))) bs (jA (z:=(↑(axJ (((s.2.1.getD f zA).1).1)):Int)) oM oM)) λch br=>(go5 ?_);refine lX (xB bK (Pc.snd (Pc.fst pH)) J) λde dr=>(go5 ?_);refine gcL (ι:=Nat×List Fm×List (List Pt)×List PIr×List Value×Value×List Value×Value×List Value×Array MapEntry×Nat×Mem) (λ(q,F3,E3,T3,aj,D,ad,H,ac,aa,ak,mb)=>(MLe h3 mb/\((rpP rpV rpV).R mb aj (D,H)/\RL (rpP (tPl (m+1) (n+1)) (rpP (tLL (k+1)) (rpP rpI rpI))) mb ad F3/\D.oneCell'=true/\RL (rpA 2 (tPt (k+1))) mb ac E3/\H.oneCell'=true/\lW aa T3/\q<=(s.2.1.getD f zA).2.1.length/\F3=fmT s f/\T3=slE s.1 (s.2.1.getD f zA).2.1 (sfE s f) q/\E3=T3.map (edP s.1)),[(1,vP b1 0),(2,vP b2 0),(3,vP b3 0),(4,.map (some az)),(7,vP b7 0),(12,cl),(13,vI (↑(s.2.1).length:Int)),(14,vI ↑f),(38,de),(39,vI (↑(((s.2.1.getD f zA).2).1).length:Int)),(40,vI ↑q)],[.var b7 140 ch,.var b6 53 ci,.gs 151 18 H E3.length ac,.gs 140 15 D F3.length ad,.blk az (.map aa ak),.var b3 99 aj,.var b2 99 db,.var b1 39 dc],mb,(s.2.1.getD f zA).2.1.length-q)) (0,FF,E2,T2,Z,O,ao,U,ae,ab,am,h3) ?_ ?_
  · exact⟨mle,an.up,ba.up,cq,ar.up,bx,ca,by omega,cc,cy,cz⟩
  rintro⟨q,F3,E3,T3,aj,D,ad,H,ac,aa,ak,mb⟩ ⟨er,ai,aq,bw,ap,au,av,fw,cd,cb,bc⟩
  refine xC ?_;refine gc6 (λcv=>?_) λcv=>?_
  ·
   have fx:=M.2 q oM;have ei:=zI5 M.2 s.1 (sfE s f) q oM;rw[<-cb] at ei;refine go6 ?_;refine lX (xI [] q underlying51 fN dr) λfe dq=>(lX (xA fN dq) λfd dp=>(go4 ?_));refine lX (xB gV pH aw) λfc dn=>(go2 ?_);refine iP (A:=[_,_,_,_]) (iP (A:=[_,_,_]) (iP (A:=[_,_,_,_,_]) ?_));refine zKG (vs:=[_,_,_,_]) (Qs:=[_,_,_]) (List.Perm.refl _) call107 e4z (λw hs=>yBX dn dp ai au ap av bc (λu C=>hcd1 f oM q oM u C) ⟨by omega,by omega,by omega⟩ hcd2 hs) I ?_;intro fb h4 gh ej eh;obtain⟨cg,bd,ay,ce,cj,rfl,bq,bv,bm,bz⟩:=eh;refine zKH (A:=[_,_,_,_,_]) (zKH (A:=[_,_,_]) (zKH (A:=[_,_,_,_]) (go7 ?_)));refine gqL ((q+1),F3,((sxE s.1 ((s.2.1.getD f zA).2.1.getD q []) T3 ((s.2.1.getD f zA).2.1.getD q []).length).map (edP s.1)),(sxE s.1 ((s.2.1.getD f zA).2.1.getD q []) T3 ((s.2.1.getD f zA).2.1.getD q []).length),cg,D,ad,bd,ay,ce,cj,h4) ?_ ?_
   · exact⟨mle,bq,aq.up,bw,bm,bv,bz,by omega,cd,by rw[cb];rfl,I⟩
   omega
  have eq:q=(s.2.1.getD f zA).2.1.length:=by omega
  have eu:F3.length=f:=by rw[cd];exact xK _ _
  refine go7 ?_;refine lX (aA (xB yE4 (Pc.fst pH) ai)) λfa dm=>?_;subst dm;refine lX (xB zED pH br) λez dl=>(zK (zO (ρ:=(rpP (tPl (m+1) (n+1)) (rpP (tLL (k+1)) (rpP rpI rpI)))) (m:=1) (xs:=[((s.2.1.getD f zA).1,(zAA s.1 (s.2.1.getD f zA).2.1 (s.2.1.getD f zA).2.1.length,((↑(axI (((s.2.1.getD f zA).1).1)):Int),(↑(axJ (((s.2.1.getD f zA).1).1)):Int))))]) (ps':=[(0,_)]) underlying96 oV I I I (yF (yF (xW (yN oM)) (yN oM)) (yF vC (yF wM wM))) e2z (zG I (Pc.arr (Pc.here _) fm0 0 dC) dl zR) (show 1*15<=16777216 from by decide) nP) I I I ?_)
  rintro ey ft ⟨ev,rfl,cp⟩
  refine yC (A:=[]) (ρ:=(rpP (tPl (m+1) (n+1)) (rpP (tLL (k+1)) (rpP rpI rpI)))) cp ?_;intro h4 ej bk;refine xR (A:=[_,_,_]) (uS (zV (ρ:=(rpP (tPl (m+1) (n+1)) (rpP (tLL (k+1)) (rpP rpI rpI)))) (bytes:=264) underlying96 oV I I I I nP I I aq.up bk bO bO)) I I I ?_
  rintro dd fs ⟨bb,da,rfl,co⟩
  refine go1 ?_;refine yI (A:=[_,_,_,_,_]) (uB sizeOf96 (Pc.fst pH) ai (j8 bb)) λcf bp=>(go7 ?_);refine xO (A:=[]) (xO (A:=[]) ?_);refine gqL ((f+1),(F3++[((s.2.1.getD f zA).1,(zAA s.1 (s.2.1.getD f zA).2.1 (s.2.1.getD f zA).2.1.length,((↑(axI (((s.2.1.getD f zA).1).1)):Int),(↑(axJ (((s.2.1.getD f zA).1).1)):Int))))]),E3,T3,cf,dd,da,H,ac,aa,ak,h4) ?_ ?_
  · exact⟨mle,bp,co,bb,ap.up,au,av,by omega,by rw[cd];rfl,by rw[cb,eq];rfl,bc⟩
  omega
 have ef:f=s.2.1.length:=by omega
 refine go7 ?_;refine yC (A:=[_]) (ρ:=(rpP (tPl (m+1) (n+1)) (rpP (tLL (k+1)) (rpP rpI rpI)))) ba.up ?_;intro h1 cu bj;replace an:=an.mono cu;have ah:(rpP (rpS (rpP (tPl (m+1) (n+1)) (rpP (tLL (k+1)) (rpP rpI rpI)))) rpV).R h1 Z (FF,(O,U).2):=yE0 an bj;refine yC (A:=[]) (ρ:=(rpA 2 (tPt (k+1)))) ar.up ?_;intro h2 ct bi;replace ah:=ah.mono ct;have bo:(rpP (rpS (rpP (tPl (m+1) (n+1)) (rpP (tLL (k+1)) (rpP rpI rpI)))) (rpS (rpA 2 (tPt (k+1))))).R h2 Z (FF,E2):=vr_1 ah bi;refine lX (xB zSE pH bo) λew dk=>?_;have be:=(Le.p (Le.s (Le.p (Le.p (Le.t (Le.q (l:=m+1) oM)) (Le.q (l:=n+1) oM)) (Le.p (Le.s (Le.s (Le.t (Le.q (l:=k+1) oM)))) (Le.refl _)))) (Le.s (Le.a (Le.t (Le.q (l:=k+1) oM))))).R dj;refine yI (A:=[_,_]) (uB sizeOf99 pH be dk) λek bn=>(go3 ?_);refine uJ (fV (t:=2) zSE mh2 I bn) ?_;intro ep ax bl;refine yW (λE S=>yE I ax E S) ?_;exact(Rp.Is.cast bl (by rw[cc,cz,cy,ef];rfl))
theorem oL{k m n j j2:Nat}{vs:Value}{s:Sq}(rs:(tSd k m n j).Is h0 vs s){vp:Value}{p:Tq}(rp:(tPt j2).Is h0 vp p)(hcd0:okS s)(hcd1:kZ s)(hcd2:k<=9000)(hcd3:j2<=900)(hcd4:m<=90)(hcd5:n<=90):
 Calls Tryz.prog 32 #[vs,vp] w0 (Ret w0 h0 (λh r=>r=.tuple #[vI (wdM (tS s) p),vB (¬onA (tS s) p)])):=by
 have D:=yK1 (s:=s) hcd0;have C:=yHL hcd1 p;refine cb2 12 vs vp func32 hs ?_;refine go2 ?_;refine nB rs λb2 ad J=>(nB rp λb3 ac H=>(go5 ?_));refine zJ 8 _ [] [(0,.q),(2,.q),(1,.c),(3,.c),(4,.q),(5,.q),(6,.q),(7,.q)] yA nX zor nX (λr hr=>hr) (wX I (xB gV pH J) λv6 Z=>(wX I (xB zL pH H) λv8 O=>?_));refine w_c I (sC (ev1 I) call69 (λw hs=>zMD hs Z (by first|omega|exact hcd0|exact hcd1|exact pS hcd1|exact D|exact C.1|exact C.2) (by first|omega|exact hcd0|exact hcd1|exact pS hcd1|exact D|exact C.1|exact C.2) oM oM oM) λv7 h1 ab U=>?_);refine w_c I (sC (ev2 I I) call72 (λw hs=>zMC hs U O.up oM oM oM oM (by first|omega|exact hcd0|exact hcd1|exact pS hcd1|exact D|exact C.1|exact C.2) (by first|omega|exact hcd0|exact hcd1|exact pS hcd1|exact D|exact C.1|exact C.2) (by first|omega|exact hcd0|exact hcd1|exact pS hcd1|exact D|exact C.1|exact C.2)) λv9 h2 aa M=>?_);obtain rfl:=M;refine go7 ?_;refine wL I I I ?_
 rfl
theorem zJQ{k m n j j2:Nat}{vs:Value}{s:Sq}(rs:(tSd k m n j).Is h0 vs s){vp:Value}{p:Tq}(rp:(tPt j2).Is h0 vp p)(hcd0:okS s)(hcd1:kZ s)(hcd2:k<=9000)(hcd3:j2<=900)(hcd4:m<=90)(hcd5:n<=90):
 Calls Tryz.prog 18 #[vs,vp] w0 (Ret w0 h0 (λ_ r=>r=vI (inM (tS s) p))):=by
 refine cb2 19 vs vp func18 hs ?_;refine go2 ?_;refine nB rs λb2 ac J=>(nB rp λb3 ab H=>(go5 ?_));refine lX (xB gV pH J) λv8 Z=>(lX (xB zL pH H) λv9 U=>(cL (ev2 I I) call32 (λw hs=>oL hs Z U (by first|omega|exact hcd0|exact hcd1|exact pS hcd1|exact hmo|exact hmd.1|exact hmd.2) (by first|omega|exact hcd0|exact hcd1|exact pS hcd1|exact hmo|exact hmd.1|exact hmd.2) oM oM oM oM) λO h1 aa M=>?_));obtain rfl:=M;refine k7 ?_;refine cnd (λC=>?_) λC=>?_
 ·
  refine go8 ?_;refine zC I I ?_;unfold inM;rw[if_pos (by simpa using C)]
 refine gc7 (λD=>?_) λD=>?_
 ·
  refine go8 ?_;refine zC I I ?_;unfold inM;rw[if_neg (by simpa using C),if_pos D]
 refine go9 ?_;refine zC I I ?_;unfold inM;rw[if_neg (by simpa using C),if_neg D]
end
end Go.Proofs.YtpkaegemlpaenaaGreat
namespace Bk
open Classical
def badE(s:Sd)(p v:Pt)(f l k:Nat):Prop:=gp (gl (xE s f) l) k≠gp (gl (xE s f) l) ((k+1)%(gl (xE s f) l).length)/\lI p (gp (gl (xE s f) l) k) (gp (gl (xE s f) l) ((k+1)%(gl (xE s f) l).length)) v
def okEL(s:Sd)(p v:Pt)(f l:Nat):Prop:=∀k,k<(gl (xE s f) l).length->¬badE s p v f l k
def okEF(s:Sd)(p v:Pt)(f:Nat):Prop:=∀l,l<(xE s f).length->okEL s p v f l
section
variable {A B p v:Pt}
end
theorem zSC(s:Sd)(f:Nat)(q:Pt):-1<=whF s f q/\whF s f q<=1:=by
 unfold whF whZ
 split
 · omega
 · exact zEA _ _ _ _ _
def bdS(s:Sd)(p d:Pt)(f:Nat):Prop:=¬skP s p d f/\whF s f (pO p d (hnF s p f/cnF s d f))=0
def nbS(s:Sd)(p d:Pt):Prop:=∀f,f<s.2.1.length->¬bdS s p d f
noncomputable def crU(s:Sd)(p d:Pt):Int:=if nbS s p d then(crP s p d s.2.1.length).1 else 0
noncomputable def crV(s:Sd)(p d:Pt):Int:=if nbS s p d then(crP s p d s.2.1.length).2 else 0
def okR(s:Sd)(p d:Pt):Prop:=¬(onB s p\/d=zT)/\nbS s p d
noncomputable def crX(s:Sd)(p d:Pt):Int:=if onB s p\/d=zT then 0 else crU s p d
noncomputable def crY(s:Sd)(p d:Pt):Int:=if onB s p\/d=zT then 0 else crV s p d
section
variable {s:Sd}{p d:Pt}{f:Nat}
end
theorem zFS{s:Sd}(h:kZ s){p d:Pt}(hc:zGQ s p d):nbS s p d:=λf hf e=>zO9 (aW h) hf hc e.1 e.2
section
variable {x p y q:Rat}
def lay(x p y q:Rat)(s:List PI)(l:List Pt):Prop:=l.length=s.length/\∀m,m<s.length->pr (gp l m) 0 1=ag x p y q (gI s m)
def arG(s:List PI):Nat->Int
  |0=>0
  |m+1=>arG s m+((gI s m).1*(gI s ((m+1)%s.length)).2-(gI s ((m+1)%s.length)).1*(gI s m).2)
theorem zMT{s:List PI}{l:List Pt}(h:lay x p y q s l):∀m,m<=s.length->
 uP l 0 1 m=p*q*((arG s m:Int):Rat)+x*q*(((gI s (m%s.length)).2:Rat)-((gI s 0).2:Rat))-y*p*(((gI s (m%s.length)).1:Rat)-((gI s 0).1:Rat))
 |0,_=>by
  rw[Nat.zero_mod]
  show(0:Rat)=p*q*((0:Int):Rat)+_-_
  have:((0:Int):Rat)=0:=rfl;rw[this];grind
 |m+1,hm=>by
  have ih:=zMT h m zoq;have e1:=h.2 m zoq;have e2:=h.2 ((m+1)%s.length) (Nat.mod_lt _ zoq);have hmod:m%s.length=m:=zoh zoq;rw[hmod] at ih;have a1:(gp l m).at 0=x+p*((gI s m).1:Rat):=congrArg Prod.fst e1;have a2:(gp l m).at 1=y+q*((gI s m).2:Rat):=congrArg Prod.snd e1;have b1:(gp l ((m+1)%s.length)).at 0=x+p*((gI s ((m+1)%s.length)).1:Rat):=congrArg Prod.fst e2;have b2:(gp l ((m+1)%s.length)).at 1=y+q*((gI s ((m+1)%s.length)).2:Rat):=congrArg Prod.snd e2
  show uP l 0 1 m+((gp l m).at 0*(gp l ((m+1)%l.length)).at 1-(gp l ((m+1)%l.length)).at 0*(gp l m).at 1)=_
  rw[h.1,ih,a1,a2,b1,b2]
  show _=p*q*((arG s m+((gI s m).1*(gI s ((m+1)%s.length)).2-(gI s ((m+1)%s.length)).1*(gI s m).2):Int):Rat)+_-_
  simp only[Rat.intCast_add,Rat.intCast_sub,Rat.intCast_mul];grind
theorem zX5{s:List PI}{l:List Pt}(h:lay x p y q s l):arZ l 0 1=p*q*((arG s s.length:Int):Rat):=by
 unfold arZ;rw[h.1,zMT h _ (Nat.le_refl _),Nat.mod_self];grind
theorem zD4(hp:0<p)(hq:0<q){s:List PI}{l:List Pt}(h:lay x p y q s l):yV (arZ l 0 1)=sgI (arG s s.length):=by
 rw[zX5 h,iA (xD hp hq),mC];rfl
theorem zJ4(hp:0<p)(hq:0<q){s:List PI}{l:List Pt}(h:lay x p y q s l)(hb:zSP s=true):aE l 0 1:=zE0 hp hq h.1 h.2 hb
theorem bU{s:List PI}{l:List Pt}(h:lay x p y q s l){m:Nat}(hm:m<s.length):wV l 0 1 m=ag x p y q (gI s m)/\wU l 0 1 m=ag x p y q (gI s ((m+1)%s.length)):=by
 unfold wV wU;rw[h.1];exact⟨h.2 m hm,h.2 _ (Nat.mod_lt _ zoq)⟩
def btI(a b c:Int):Bool:=decide ((a<=c/\c<=b)\/(b<=c/\c<=a))
def yBS(u v w:PI):Bool:=btI u.1 v.1 w.1&&btI u.2 v.2 w.2&&decide (crI u v w=0)
def csI(u v w:PI):Bool:=decide (¬(u.2<=w.2↔v.2<=w.2)/\((u.2<=w.2/\0<crI u v w)\/(v.2<=w.2/\crI u v w<0)))
def odI(s:List PI)(w:PI):Nat->Bool
  |0=>false
  |m+1=>csI (gI s m) (gI s ((m+1)%s.length)) w != odI s w m
def inI(s:List PI)(w:PI):Int:=if(List.range s.length).any λm=>yBS (gI s m) (gI s ((m+1)%s.length)) w then 0 else if odI s w s.length then 1 else -1
theorem zZ5{a b:Int}(hp:0<p):x+p*(a:Rat)<=x+p*(b:Rat)↔a<=b:=by
 rw[<-Rat.not_lt,zIV hp,Int.not_lt]
theorem yEI(hp:0<p)(hq:0<q)(u v w:PI):onS (ag x p y q u) (ag x p y q v) (ag x p y q w)↔yBS u v w=true:=by
 have hc:cr (ag x p y q u) (ag x p y q v) (ag x p y q w)=0↔crI u v w=0:=by
  rw[yEL];have h0:¬p*q=0:=λe=>absurd (e▸xD hp hq) zot;constructor
  · intro e
    rcases zoe.1 e with e|e
    · exact absurd e h0
    · exact Rat.intCast_inj.1 e
  · intro e
    rw[e];exact Rat.mul_zero _
 unfold onS yBS qP btI;rw[hc,Bool.and_eq_true,Bool.and_eq_true,decide_eq_true_iff,decide_eq_true_iff,decide_eq_true_iff];unfold ag;simp only[zZ5 hp,zZ5 hq];constructor
 · rintro⟨a,b,c⟩;exact⟨⟨by omega,by omega⟩,c⟩
 · rintro⟨⟨a,b⟩,c⟩;exact⟨by omega,by omega,c⟩
theorem dE{n:Int}:0<sgI n↔0<n:=by unfold sgI;split<;>(try split)<;>omega
theorem zQO{n:Int}:sgI n<0↔n<0:=by unfold sgI;split<;>(try split)<;>omega
theorem yL1(hp:0<p)(hq:0<q)(u v w:PI):uO (ag x p y q u) (ag x p y q v) (ag x p y q w)↔csI u v w=true:=by
 unfold uO csI;rw[decide_eq_true_iff,zZ4 hp hq];unfold orI;rw[dE,zQO];unfold ag;simp only[zZ5 hq]
theorem zJ5(hp:0<p)(hq:0<q){s:List PI}{l:List Pt}(h:lay x p y q s l)(w:PI):∀m,m<=s.length->(jD l (ag x p y q w) 0 1 m↔odI s w m=true)
  |0,_=>by simp[jD,odI]
  |m+1,hm=>by
   have ih:=zJ5 hp hq h w m zoq;obtain⟨e1,e2⟩:=bU h (m:=m) zoq;unfold jD odI;rw[e1,e2,yL1 hp hq,ih]
   cases csI (gI s m) (gI s ((m+1)%s.length)) w<;>cases odI s w m<;>simp
theorem zX4(hp:0<p)(hq:0<q){s:List PI}{l:List Pt}(h:lay x p y q s l)(w:PI):gA l (ag x p y q w) 0 1=inI s w:=by
 unfold gA inI;have h1:(∃m,m<l.length/\onS (wV l 0 1 m) (wU l 0 1 m) (ag x p y q w))↔((List.range s.length).any λm=>yBS (gI s m) (gI s ((m+1)%s.length)) w)=true:=by
  rw[List.any_eq_true,h.1];constructor
  · rintro⟨m,D,e⟩
    obtain⟨H,C⟩:=bU h D;rw[H,C,yEI hp hq] at e;exact⟨m,zog.2 D,e⟩
  · rintro⟨m,D,e⟩
    have D:=zog.1 D;obtain⟨H,C⟩:=bU h D;refine⟨m,D,?_⟩;rw[H,C,yEI hp hq];exact e
 by_cases e:∃m,m<l.length/\onS (wV l 0 1 m) (wU l 0 1 m) (ag x p y q w)
 · rw[if_pos e,if_pos (h1.1 e)]
 · rw[if_neg e,if_neg λe'=>e (h1.2 e'),h.1]
   by_cases C:jD l (ag x p y q w) 0 1 s.length
   · rw[if_pos C,if_pos ((zJ5 hp hq h w _ (Nat.le_refl _)).1 C)]
   · rw[if_neg C,if_neg λe'=>C ((zJ5 hp hq h w _ (Nat.le_refl _)).2 e')]
def dbI(s:List PI):List PI:=s.map λu=>(2*u.1,2*u.2)
def miI(u v:PI):PI:=(u.1+v.1,u.2+v.2)
theorem yIT(s:List PI){m:Nat}(hm:m<s.length):gI (dbI s) m=(2*(gI s m).1,2*(gI s m).2):=by
 unfold gI dbI;rw[zoa,zoa,List.getElem?_map,zoc hm];rfl
theorem yHT{s:List PI}{l:List Pt}(h:lay x p y q s l):lay x (p/2) y (q/2) (dbI s) l:=by
 have D:(dbI s).length=s.length:=List.length_map _;refine⟨by rw[D];exact h.1,λm C=>?_⟩;rw[D] at C;rw[h.2 m C,yIT s C];unfold ag;have e:∀a:Int,(((2*a:Int)):Rat)=2*(a:Rat):=λa=>by rw[Rat.intCast_mul];rfl
 show(x+p*_,y+q*_)=(x+p/2*(((2*_:Int)):Rat),y+q/2*(((2*_:Int)):Rat))
 rw[e,e];refine Prod.ext ?_ ?_
 · show x+p*_=x+p/2*(2*_);grind
 · show y+q*_=y+q/2*(2*_);grind
theorem yJO(u v:PI):zPH (ag x p y q u) (ag x p y q v)=ag x (p/2) y (q/2) (miI u v):=by
 have C:zGA=1/2:=zID.symm.trans I;unfold zPH ag miI zCB;rw[C];simp only[Rat.intCast_add];refine Prod.ext ?_ ?_
 · show(x+p*_+(x+p*_))*(1/2)=x+p/2*(_+_);grind
 · show(y+q*_+(y+q*_))*(1/2)=y+q/2*(_+_);grind
def wiB(c s:List PI):Bool:=(List.range s.length).all λm=>decide (inI (dbI c) (miI (gI s m) (gI s ((m+1)%s.length)))=1)
theorem zKY{c l:List Pt}(h:∀m,m<l.length->gA c (zPH (wV l 0 1 m) (wU l 0 1 m)) 0 1=1):∀m,m<=l.length->pR c l 0 1 m=m
  |0,_=>rfl
  |m+1,hm=>by
   unfold pR;rw[if_pos (h m zoq),zKY h m zoq];omega
theorem zX3(hp:0<p)(hq:0<q){s t:List PI}{c l:List Pt}(hc:lay x p y q s c)(hl:lay x p y q t l)(h:wiB s t=true):wiZ c l 0 1=l.length:=by
 refine zKY (λm C=>?_) _ (Nat.le_refl _);rw[hl.1] at C;obtain⟨H,D⟩:=bU hl C;rw[H,D,yJO,zX4 (p:=p/2) (q:=q/2) zow zow (yHT hc)];have:=zob.1 h m (zog.2 C);exact of_decide_eq_true this
theorem zHU{P:List Pt}(h:0<yV (arZ P 0 1)):aD P:=zCM λe=>by
 have e':arZ P 0 1=0:=e;rw[e',show yV 0=0 from if_pos rfl] at h;omega
def noX(s t:List PI):Bool:=(List.range s.length).all λa=>(List.range t.length).all λb=>!decide (1<toI (gI s a) (gI s ((a+1)%s.length)) (gI t b) (gI t ((b+1)%t.length)))
theorem yB8(hp:0<p)(hq:0<q){s t:List PI}{c l:List Pt}(hc:lay x p y q s c)(hl:lay x p y q t l)(h:noX s t=true):¬gM c l 0 1:=by
 rintro⟨a,b,D,C,e⟩
 rw[hc.1] at D;rw[hl.1] at C;unfold y7 at e;rw[(bU hc D).1,(bU hc D).2,(bU hl C).1,(bU hl C).2,zNO hp hq] at e;have h1:=zob.1 (zob.1 h a (zog.2 D)) b (zog.2 C);rw[Bool.not_eq_true',decide_eq_false_iff_not] at h1;exact h1 e
theorem zXK{P Q:List Pt}(hs:aE P 0 1)(ht:aE Q 0 1)(hl:P.length<=64/\Q.length<=64)(hx:¬gM P Q 0 1)(ha:0<yV (arZ P 0 1))(hw:wiZ P Q 0 1=Q.length):vW [P,Q] 0 1=0:=by
 have C:∀m,m<[P,Q].length->m=0\/m=1:=λm D=>by have:m<2:=D;omega
 have J:yLU [P,Q] 0 1 1 0 (-1):=⟨⟨ha,hw⟩,.inl zot⟩;have Z:pZ [P,Q] 0 1 0= -1:=if_pos ha;have U:0<=tR [P,Q] 0 1 1 2:=by
  have O:tR [P,Q] 0 1 1 1=0:=if_pos J;unfold tR;rw[O]
  split<;>decide
 unfold vW;rw[if_neg (λe=>by
  rcases e with e|⟨m,D,e⟩
  · have:16<2:=e
    omega
  · rcases C m D with rfl|rfl
    · have:64<P.length:=e
      omega
    · have:64<Q.length:=e
      omega),if_neg (λe=>by
  obtain⟨m,D,e⟩:=e
  rcases C m D with rfl|rfl
  · exact e hs
  · exact e ht),if_neg (λe=>by
  obtain⟨a,b,M,J,e⟩:=e;have:b<2:=J;have:a=0/\b=1:=by omega
  obtain⟨rfl,rfl⟩:=this;exact hx e),if_neg (λe=>by
  rcases e with⟨k,hk,e⟩|⟨a,b,hka,hkb,e⟩
  · rcases C k hk with rfl|rfl
    · exact e.1 ha
    · have:=e.2
      have e2:tR [P,Q] 0 1 1 [P,Q].length=tR [P,Q] 0 1 1 2:=I;omega
  · obtain⟨⟨⟨H,h0⟩,he⟩,_⟩:=e
    rcases C a hka with rfl|rfl
    · omega
    · rcases C b hkb with rfl|rfl
      · omega
      · exact H I)]
def nsI(S:List (List PI)):Bool:=
 match S with
 |[s]=>zSP s&&decide (s.length<=64)&&decide (0<arG s s.length)
 |[s,t]=>zSP s&&zSP t&&decide (s.length<=64/\t.length<=64)&&noX s t&&decide (0<arG s s.length)&&decide (arG t t.length<0)&&wiB s t
 |_=>false
def yK5(x p y q:Rat)(S:List (List PI))(L:List (List Pt)):Prop:=L.length=S.length/\∀m,m<S.length->lay x p y q (S.getD m []) (gl L m)
theorem zXL(hp:0<p)(hq:0<q){S:List (List PI)}{L:List (List Pt)}(h:yK5 x p y q S L)(hb:nsI S=true):vW L 0 1=0/\ouZ L=1/\∀l,l∈L->aD l:=by
 match S,hb with
 |[s],hb=>
  match L,h.1 with
  |[l],_=>
   have h0:lay x p y q s l:=h.2 0 (show 0<_ from Nat.zero_lt_succ _);simp only[nsI,Bool.and_eq_true,decide_eq_true_iff] at hb;have C:0<yV (arZ l 0 1):=by rw[zD4 hp hq h0];exact dE.2 hb.2
   refine⟨zFR (zJ4 hp hq h0 hb.1.1) (by rw[h0.1];exact hb.1.2) C,zOS C,λz hz=>?_⟩;rw[List.mem_singleton.1 hz];exact zHU C
 |[s,t],hb=>
  match L,h.1 with
  |[l,k],_=>
   have h0:lay x p y q s l:=h.2 0 (show 0<_ from Nat.zero_lt_succ _);have h1:lay x p y q t k:=h.2 1 (show 1<2 from by decide);simp only[nsI,Bool.and_eq_true,decide_eq_true_iff] at hb;obtain⟨⟨⟨⟨⟨⟨b1,b2⟩,Z⟩,U⟩,O⟩,M⟩,J⟩:=hb;have C:0<yV (arZ l 0 1):=by rw[zD4 hp hq h0];exact dE.2 O
   have D:yV (arZ k 0 1)<0:=by rw[zD4 hp hq h1];exact zQO.2 M
   refine⟨zXK (zJ4 hp hq h0 b1) (zJ4 hp hq h1 b2) (by rw[h0.1,h1.1];exact Z) (yB8 hp hq h0 h1 U) C (zX3 hp hq h0 h1 J),?_,λz hz=>?_⟩
   · have H:u6 [l,k] 1=1:=if_pos C
     show u6 [l,k] 2=1
     unfold u6;rw[if_neg (show ¬0<yV (arZ (gl [l,k] 1) 0 1) fromλe=>by have:0<yV (arZ k 0 1):=e;omega),H]
   · rcases List.mem_cons.1 hz with rfl|hz
     · exact zHU C
     · rw[List.mem_singleton.1 hz]
       refine zCM λe=>?_;have:arZ k 0 1=0:=e;rw[this,show yV 0=0 from if_pos I] at D;omega
end
abbrev I3:=Int×Int×Int
def aI3(u:I3):Nat->Int
  |0=>u.1|1=>u.2.1|_=>u.2.2
def cP(v u:I3):Pt:=T3.mk ((v.1+u.1:Int):Rat) ((v.2.1+u.2.1:Int):Rat) ((v.2.2+u.2.2:Int):Rat)
def nr3(n:I3):Pt:=T3.mk (n.1:Rat) (n.2.1:Rat) (n.2.2:Rat)
def dt3(n u:I3):Int:=n.1*u.1+n.2.1*u.2.1+n.2.2*u.2.2
abbrev FI:=I3×Int×List (List Int)×List Nat
abbrev SI:=List I3×List FI
abbrev z3:I3:=((0:Int),(0:Int),(0:Int))
abbrev fi0:FI:=(z3,(0:Int),([]:List (List Int)),([]:List Nat))
abbrev g3(P:List I3)(k:Nat):I3:=P.getD k z3
def cPl(v:I3)(f:FI):Pl:=(nr3 f.1,((f.2.1+dt3 f.1 v:Int):Rat))
def zTX(v:I3)(f:FI)(x:Fc):Prop:=(∃a:Int,(0<a/\a<=1000)/\x.1=scW (1/(a:Rat)) (cPl v f))/\x.2=f.2.2
theorem zYE{a:Int}(h:0<a):(0:Rat)<1/(a:Rat):=by
 rw[Rat.div_def];exact xD zot (Rat.inv_pos.2 (Rat.intCast_pos.2 h))
theorem zFV{v:I3}{f:FI}{x:Fc}(h:zTX v f x):∃r:Rat,0<r/\x.1=scW r (cPl v f):=by
 obtain⟨a,C,e⟩:=h.1;exact⟨_,zYE C.1,e⟩
def aI(v:I3)(I:SI)(s:Sd):Prop:=s.1=I.1.map (cP v)/\s.2.2=[]/\s.2.1.length=I.2.length/\∀f,f<I.2.length->zTX v (I.2.getD f fi0) (s.2.1.getD f zA)
theorem zGR(v u:I3)(n:Nat):(cP v u).at n=((aI3 v n+aI3 u n:Int):Rat):=by
 match n with
 |0=>rfl
 |1=>rfl
 |_+2=>rfl
theorem zDC{v:I3}{P:List I3}{k:Nat}(hk:k<P.length):gp (P.map (cP v)) k=cP v (g3 P k):=by
 show(P.map (cP v)).getD k _=cP v (P.getD k z3)
 rw[zoa,zoa,List.getElem?_map,zoc hk];rfl
theorem zQ4(v u:I3)(f:FI)(r:Rat):hgt (scW r (cPl v f)) (cP v u)=r*((dt3 f.1 u-f.2.1:Int):Rat):=by
 unfold hgt scW cPl zE nr3 cP dt3;simp only[Rat.intCast_add,Rat.intCast_sub,Rat.intCast_mul];grind
theorem yHH{v u:I3}{f:FI}{r:Rat}(hr:0<r):sdZ (scW r (cPl v f)) (cP v u)=sgI (dt3 f.1 u-f.2.1):=by
 unfold sdZ;rw[zQ4,iA hr,mC];rfl
def rJ(n:I3):Nat×Nat:=if 0<n.2.2 then(0,1) else if n.2.2<0 then(1,0) else if 0<n.2.1 then(2,0) else if n.2.1<0 then(0,2) else if 0<n.1 then(1,2) else if n.1<0 then(2,1) else(1,2)
theorem zVY{r:Rat}(hr:0<r)(n:Int):0<r*(n:Rat)↔0<n:=by
 constructor
 · intro h
   refine Int.not_le.1 λe=>?_;have h1:(n:Rat)<=0:=Rat.intCast_nonpos.2 e;have:=Rat.mul_le_mul_of_nonneg_left h1 (Rat.le_of_lt hr);grind
 · intro h
   exact xD hr (Rat.intCast_pos.2 h)
theorem zVZ{r:Rat}(hr:0<r)(n:Int):r*(n:Rat)<0↔n<0:=by
 have:=zVY hr (-n);rw[Rat.intCast_neg] at this;constructor
 · intro h
   have:=this.1 zow;omega
 · intro h
   have:=this.2 zoq;grind
theorem zJ0{v:I3}{f:FI}{r:Rat}(hr:0<r):axI (scW r (cPl v f)).1=(rJ f.1).1/\axJ (scW r (cPl v f)).1=(rJ f.1).2:=by
 unfold axI axJ rJ scW cPl nr3;simp only[zVY hr,zVZ hr]
 repeat' split
 all_goals first|exact⟨I,I⟩|omega
theorem zV0{v:I3}{f:FI}{r:Rat}(hr:0<r)(h:¬f.1=z3):¬(scW r (cPl v f)).1=zT:=λe=>by
 have g:∀n:Int,r*(n:Rat)=0->n=0:=λn e=>by
  rcases zoe.1 e with e|e
  · rw[e] at hr;exact absurd hr zot
  · exact Rat.intCast_inj.1 e
 have e1:=g _ (congrArg T3.x e);have e2:=g _ (congrArg T3.y e);have e3:=g _ (congrArg T3.z e);exact h (Prod.ext e1 (Prod.ext e2 e3))
def flI(a:Nat×Nat)(P:List I3)(x:List Int):List PI:=x.map λk=>(aI3 (g3 P k.toNat) a.1,aI3 (g3 P k.toNat) a.2)
def lpB(n:Nat)(x:List Int):Bool:=decide (3<=x.length/\x.length<=64)&&(List.range x.length).all λi=>decide (0<=x.getD i 0/\x.getD i 0<n)&&(List.range i).all λk=>!decide (x.getD i 0=x.getD k 0)
theorem zXY{n:Nat}{x:List Int}(hn:n<=512)(h:lpB n x=true):lpP x/\nmL n x:=by
 unfold lpB at h;rw[Bool.and_eq_true,decide_eq_true_iff] at h;have g:∀i,i<x.length->(0<=x.getD i 0/\x.getD i 0<n)/\∀k,k<i->¬x.getD i 0=x.getD k 0:=λi hi=>by
  have h1:=zob.1 h.2 i (zog.2 hi);rw[Bool.and_eq_true,decide_eq_true_iff] at h1;refine⟨h1.1,λk hk=>?_⟩;have h2:=zob.1 h1.2 k (zog.2 hk);rw[Bool.not_eq_true',decide_eq_false_iff_not] at h2;exact h2
 refine⟨⟨h.1,λi hi=>⟨?_,(g i hi).2⟩⟩,λi hi=>(g i hi).1⟩;have:=(g i hi).1;omega
def bd3(u:I3):Bool:=decide ((-1000<=u.1/\u.1<=1000)/\(-1000<=u.2.1/\u.2.1<=1000)/\(-1000<=u.2.2/\u.2.2<=1000))
def faB(P:List I3)(f:FI):Bool:=(bd3 f.1&&decide (-1000<=f.2.1/\f.2.1<=1000))&&(decide (1<=f.2.2.1.length/\f.2.2.1.length<=16)&&f.2.2.1.all (λx=>lpB P.length x&&x.all λk=>decide (dt3 f.1 (g3 P k.toNat)=f.2.1))&&!decide (f.1=z3)&&nsI (f.2.2.1.map (flI (rJ f.1) P)))
def dsB(P:List I3):Bool:=(List.range P.length).all λi=>(List.range i).all λk=>!decide (g3 P i=g3 P k)
def chI(I:SI):Bool:=I.1.all bd3&&(decide (I.1.length<=512/\I.2.length<=256)&&I.2.all (faB I.1)&&dsB I.1&&clB (edZ (I.2.map λf=>f.2.2.1)))
theorem zM3{α:Type}(d:α){l k:List α}(hl:l.length=k.length)(h:∀i,i<l.length->l.getD i d=k.getD i d):l=k:=by
 refine List.ext_getElem hl λi h1 h2=>?_;have:=h i h1;rw[zoa,zoa,zoc h1,zoc h2] at this;exact this
theorem rD{α β:Type}(g:α->β)(d:α)(e:β){l:List α}{i:Nat}(hi:i<l.length):(l.map g).getD i e=g (l.getD i d):=by
 rw[zoa,zoa,List.getElem?_map,zoc hi];rfl
section
variable {v:I3}{I:SI}{s:Sd}
theorem zIA(h:aI v I s):wR s=I.2.map λf=>f.2.2.1:=by
 obtain⟨h1,h2,h3,C⟩:=h;refine zM3 [] (by rw[tL,List.length_map,h3]) λf hf=>?_;rw[tL,h3] at hf;rw[aQ zoq,rD (λf:FI=>f.2.2.1) fi0 [] hf,(C f hf).2]
theorem lG{f:Nat}(h:aI v I s)(hb:chI I=true)(hf:f<I.2.length):faB I.1 (I.2.getD f fi0)=true:=by
 unfold chI at hb;replace hb:=(Bool.and_eq_true _ _▸hb).2;rw[Bool.and_eq_true,Bool.and_eq_true,Bool.and_eq_true] at hb;exact zob.1 hb.1.1.2 _ (kA hf)
theorem cA(h:aI v I s):s.1.length=I.1.length:=by rw[h.1,List.length_map]
theorem zBD{P:List I3}{f:FI}(h:faB P f=true){l:Nat}(hl:l<f.2.2.1.length):lpB P.length (f.2.2.1.getD l [])=true/\∀k,k<(f.2.2.1.getD l []).length->dt3 f.1 (g3 P ((f.2.2.1.getD l []).getD k 0).toNat)=f.2.1:=by
 unfold faB at h;replace h:=(Bool.and_eq_true _ _▸h).2;rw[Bool.and_eq_true,Bool.and_eq_true,Bool.and_eq_true] at h;have h1:=zob.1 h.1.1.2 _ (kA (d:=[]) hl);rw[Bool.and_eq_true] at h1;refine⟨h1.1,λk hk=>?_⟩;exact of_decide_eq_true (zob.1 h1.2 _ (kA (d:=0) hk))
theorem zPF{f:Nat}(h:aI v I s)(hb:chI I=true)(hf:f<I.2.length):nmP s f/\vfP (s.2.1.getD f zA).2.1:=by
 have D:=lG h hb hf;have e:(s.2.1.getD f zA).2.1=(I.2.getD f fi0).2.2.1:=congrArg Prod.fst (h.2.2.2 f hf).2;have J:I.1.length<=512:=by
  unfold chI at hb;replace hb:=(Bool.and_eq_true _ _▸hb).2;rw[Bool.and_eq_true,Bool.and_eq_true,Bool.and_eq_true,decide_eq_true_iff] at hb;exact hb.1.1.1.1
 have h1:1<=(I.2.getD f fi0).2.2.1.length/\(I.2.getD f fi0).2.2.1.length<=16:=by
  have C:=D;unfold faB at C;replace C:=(Bool.and_eq_true _ _▸C).2;rw[Bool.and_eq_true,Bool.and_eq_true,Bool.and_eq_true,decide_eq_true_iff] at C;exact C.1.1.1
 refine⟨λl H=>?_,?_⟩
 · rw[e] at H ⊢
   rw[cA h];exact(zXY J (zBD D H).1).2
 · rw[e]
   exact⟨h1,λl H=>(zXY J (zBD D H).1).1⟩
theorem zD0{f:Nat}(h:aI v I s)(hb:chI I=true)(hf:f<I.2.length):(xE s f).length=(I.2.getD f fi0).2.2.1.length/\∀l,l<(I.2.getD f fi0).2.2.1.length->(gl (xE s f) l).length=((I.2.getD f fi0).2.2.1.getD l []).length/\∀k,k<((I.2.getD f fi0).2.2.1.getD l []).length->gp (gl (xE s f) l) k=cP v (g3 I.1 (((I.2.getD f fi0).2.2.1.getD l []).getD k 0).toNat):=by
 have e:(s.2.1.getD f zA).2.1=(I.2.getD f fi0).2.2.1:=congrArg Prod.fst (h.2.2.2 f hf).2;have D:=(zPF h hb hf).1;rw[zP0 (by rw[h.2.2.1];exact hf) D];refine⟨by rw[<-e];exact xK _ _,λl J=>?_⟩;have C:l<(s.2.1.getD f zA).2.1.length:=by rw[e];exact J
 have M:gl (zGJ s f (s.2.1.getD f zA).2.1.length) l=zE2 s.1 ((s.2.1.getD f zA).2.1.getD l []) ((s.2.1.getD f zA).2.1.getD l []).length:=qY _ _ C;rw[M,e];refine⟨xK _ _,λk hk=>?_⟩;have H:=D l C k (by rw[e];exact hk);rw[e,cA h] at H;have O:gp (zE2 s.1 ((I.2.getD f fi0).2.2.1.getD l []) ((I.2.getD f fi0).2.2.1.getD l []).length) k=gp s.1 (((I.2.getD f fi0).2.2.1.getD l []).getD k 0).toNat:=qY _ _ hk;rw[O,h.1,zDC zoq]
theorem zJZ{f:Nat}(h:aI v I s)(hb:chI I=true)(hf:f<I.2.length):yK5 (aI3 v (rJ (I.2.getD f fi0).1).1:Rat) 1 (aI3 v (rJ (I.2.getD f fi0).1).2:Rat) 1 ((I.2.getD f fi0).2.2.1.map (flI (rJ (I.2.getD f fi0).1) I.1)) (gC s f):=by
 obtain⟨Z,c2⟩:=zD0 h hb hf;obtain⟨r,O,J⟩:=zFV (h.2.2.2 f hf);have D:=zA9 s f;refine⟨by rw[D.1,Z,List.length_map],λl H=>?_⟩;rw[List.length_map] at H;obtain⟨U,c4⟩:=c2 l H;rw[rD (flI (rJ (I.2.getD f fi0).1) I.1) [] [] H];have M:(gl (gC s f) l).length=((I.2.getD f fi0).2.2.1.getD l []).length:=by rw[D.2 l];exact U
 refine⟨by rw[M];exact(List.length_map _).symm,λm hm=>?_⟩;have C:m<((I.2.getD f fi0).2.2.1.getD l []).length:=by
  have:(flI (rJ (I.2.getD f fi0).1) I.1 ((I.2.getD f fi0).2.2.1.getD l [])).length=((I.2.getD f fi0).2.2.1.getD l []).length:=List.length_map _;omega
 have e1:gl (gC s f) l=flA (s.2.1.getD f zA).1 (gl (xE s f) l) (gl (xE s f) l).length:=qY _ _ (by rw[Z];exact H);have e2:gp (flA (s.2.1.getD f zA).1 (gl (xE s f) l) (gl (xE s f) l).length) m=uW (s.2.1.getD f zA).1 (gp (gl (xE s f) l) m):=qY _ _ (by rw[U];exact C);rw[e1,e2,c4 m C,J];unfold uW;rw[(zJ0 O).1,(zJ0 O).2,zGR,zGR];have e3:gI (flI (rJ (I.2.getD f fi0).1) I.1 ((I.2.getD f fi0).2.2.1.getD l [])) m=(aI3 (g3 I.1 (((I.2.getD f fi0).2.2.1.getD l []).getD m 0).toNat) (rJ (I.2.getD f fi0).1).1,aI3 (g3 I.1 (((I.2.getD f fi0).2.2.1.getD l []).getD m 0).toNat) (rJ (I.2.getD f fi0).1).2):=by
  unfold gI flI;exact rD (λk:Int=>(aI3 (g3 I.1 k.toNat) (rJ (I.2.getD f fi0).1).1,aI3 (g3 I.1 k.toNat) (rJ (I.2.getD f fi0).1).2)) 0 (0,0) C
 rw[e3];unfold ag pr;rw[Rat.one_mul,Rat.one_mul,<-Rat.intCast_add,<-Rat.intCast_add]
 rfl
theorem zFW{f:Nat}(h:aI v I s)(hb:chI I=true)(hf:f<I.2.length):vW (gC s f) 0 1=0/\ouZ (gC s f)=1/\∀l,l∈gC s f->aD l:=by
 have C:=lG h hb hf;unfold faB at C;replace C:=(Bool.and_eq_true _ _▸C).2;rw[Bool.and_eq_true] at C;exact zXL zot zot (zJZ h hb hf) C.2
theorem yI4{v u w:I3}(h:cP v u=cP v w):u=w:=by
 have H:=Rat.intCast_inj.1 (congrArg T3.x h);have D:=Rat.intCast_inj.1 (congrArg T3.y h);have C:=Rat.intCast_inj.1 (congrArg T3.z h);exact Prod.ext zoq (Prod.ext zoq zoq)
theorem zJX(h:aI v I s)(hb:chI I=true):kZ s/\okS s:=by
 have D:=hb;unfold chI at D;replace D:=(Bool.and_eq_true _ _▸D).2;rw[Bool.and_eq_true,Bool.and_eq_true,Bool.and_eq_true,decide_eq_true_iff] at D;obtain⟨⟨⟨aa,_⟩,U⟩,Z⟩:=D;have ac:=cA h;have ab:=h.2.2.1;have H:∀f,f<s.2.1.length->nmP s f/\vfP (s.2.1.getD f zA).2.1:=λf hf=>zPF h hb zoq;have M:vaP (wR s):=⟨by rw[tL];omega,λf hf=>by rw[tL] at hf;rw[aQ hf];exact(H f hf).2⟩;constructor
 · refine zQK (yDM ?_ λf hf=>⟨(H f hf).2,(H f hf).1⟩) (yDJ λi k hk hi e=>?_) (yDQ (λf hf=>?_) λf hf l hl k hk=>?_) (yDV λf hf=>?_) (yEC M ?_)
   · unfold zNM
     rw[h.2.1]
     show ¬((512<s.1.length\/256<s.2.1.length)\/1024<0)
     omega
   · rw[h.1,zDC zoq,zDC zoq] at e
     have h1:=zob.1 (zob.1 U i (zog.2 zoq)) k (zog.2 hk);rw[Bool.not_eq_true',decide_eq_false_iff_not] at h1;exact h1 (yI4 e)
   · obtain⟨r,O,J⟩:=zFV (h.2.2.2 f zoq)
     rw[J];refine zV0 O λe=>?_;have C:=lG h hb (f:=f) zoq;unfold faB at C;replace C:=(Bool.and_eq_true _ _▸C).2;rw[Bool.and_eq_true,Bool.and_eq_true,Bool.not_eq_true',decide_eq_false_iff_not] at C;exact C.1.2 e
   · obtain⟨r,O,J⟩:=zFV (h.2.2.2 f zoq)
     obtain⟨c1,c2⟩:=zD0 h hb (f:=f) zoq;obtain⟨c3,c4⟩:=c2 l zoq;rw[c4 k zoq,J,yHH O,(zBD (lG h hb (f:=f) zoq) (l:=l) zoq).2 k zoq,Int.sub_self]
     rfl
   · exact⟨(zFW h hb zoq).1,(zFW h hb zoq).2.1⟩
   · rw[zIA h];exact Z
 · refine⟨⟨⟨by omega,by omega⟩,by rw[h.2.1];exact Nat.zero_le _⟩,λf hf=>?_,λf hf x hx=>(zFW h hb zoq).2.2 x hx⟩
   have h1:=(H f hf).2;exact⟨h1.1.2,λl hl=>(h1.2 l hl).1.2⟩
end
def yB3(u w:I3):Bool:=decide (u.1<w.1\/(u.1=w.1/\(u.2.1<w.2.1\/(u.2.1=w.2.1/\u.2.2<w.2.2))))
theorem yK3(v u w:I3):lsP (cP v u) (cP v w)↔yB3 u w=true:=by
 unfold lsP yB3 cP;rw[decide_eq_true_iff];simp only[Rat.intCast_lt_intCast,Rat.intCast_inj];omega
def lsI(I:SI):List (List (List Int)):=I.2.map λf=>f.2.2.1
def zLW(I:SI):List Int:=orB (edZ (lsI I)) (λi k=>yB3 (g3 I.1 i) (g3 I.1 k)) I.1.length
def ixJ(o:List Int)(n:Nat):Nat->List Int
  |0=>List.replicate n (0:Int)
  |i+1=>(ixJ o n i).set (o.getD i 0).toNat (i:Int)
def ixI(I:SI):List Int:=ixJ (zLW I) I.1.length (zLW I).length
def nwB(ix x:List Int):List Int:=zS0 (qG (λq=>ix.getD (x.getD q 0).toNat 0) x.length)
def zVX{α:Type}(p:Nat->Bool)(g:Nat->α):Nat->List α
  |0=>[]
  |i+1=>zVX p g i++(if p i then[g i] else[])
def zHA(p:Nat->Bool)(g:Nat->List Int):Nat->List (List Int)
  |0=>[]
  |i+1=>if p i then zHA p g i else iN (zHA p g i) (zDE (λk=>decide (cH (g i) ((zHA p g i).getD k [])<0)) (zHA p g i).length) (g i)
def poB(P:List I3)(f:FI)(i:Nat):Bool:=decide (0<arG (flI (rJ f.1) P (f.2.2.1.getD i [])) (f.2.2.1.getD i []).length)
def nfB(P:List I3)(ix:List Int)(f:FI):FI:=(f.1,f.2.1,zVX (poB P f) (λi=>nwB ix (f.2.2.1.getD i [])) f.2.2.1.length++zHA (poB P f) (λi=>nwB ix (f.2.2.1.getD i [])) f.2.2.1.length,f.2.2.2)
def nmI(I:SI)(i:Nat):List Nat:=(I.2.getD i fi0).2.2.2
def nrI(I:SI):SI:=((zLW I).map λk=>g3 I.1 k.toNat,(nsB (nmI I) I.2.length).map λi=>nfB I.1 (ixI I) (I.2.getD i fi0))
def nmB(I:SI):Bool:=(List.range I.2.length).all λi=>(List.range i).all λk=>!decide (nmI I i=nmI I k)
theorem zQP{α:Type}{P:Nat->Prop}{p:Nat->Bool}(g:Nat->α):∀n,(∀i,i<n->(P i↔p i=true))->cO P g n=zVX p g n
  |0,_=>rfl
  |n+1,h=>by
   have ih:=zQP g n λi hi=>h i zoq;have h1:=h n zoq;unfold cO zVX;rw[ih]
   by_cases e:P n
   · rw[if_pos e,if_pos (h1.1 e)]
   · rw[if_neg e,if_neg λe'=>e (h1.2 e')]
theorem zYN{s:Sd}{ix:List Int}{f:Nat}{p:Nat->Bool}{g:Nat->List Int}:∀n,(∀i,i<n->(zDJ s f i↔p i=true)/\nfL s ix f i=g i)->j9 s ix f n=zHA p g n
  |0,_=>rfl
  |n+1,h=>by
   have ih:=zYN (s:=s) (ix:=ix) (f:=f) n λi hi=>h i zoq;obtain⟨h1,h2⟩:=h n zoq;unfold j9 zHA;rw[ih,h2,zBK (P:=zYO (g n) (zHA p g n)) (p:=λk=>decide (cH (g n) ((zHA p g n).getD k [])<0)) _ λk hk=>(show cH (g n) ((zHA p g n).getD k [])<0↔_ from decide_eq_true_iff.symm)]
   by_cases e:zDJ s f n
   · rw[if_pos e,if_pos (h1.1 e)]
   · rw[if_neg e,if_neg λe'=>e (h1.2 e')]
theorem zN4{q:Rat}(e:yV q=0):q=0:=by
 rw[rK] at e
 split at e
 · assumption
 · split at e<;>exact absurd e zot
theorem yBB(a r:Rat)(pl:Pl):scW a (scW r pl)=scW (a*r) pl:=by
 unfold scW;refine Prod.ext ?_ ?_
 · show T3.mk (a*(r*_)) (a*(r*_)) (a*(r*_))=T3.mk (a*r*_) (a*r*_) (a*r*_)
   rw[Rat.mul_assoc,Rat.mul_assoc,Rat.mul_assoc]
 · show a*(r*_)=a*r*_
   rw[Rat.mul_assoc]
theorem yHX{r:Rat}(hr:0<r){n:Int}(hn:¬n=0):ivA (r*(n:Rat))*r=1/((if n<0 then -n else n:Int):Rat):=by
 have D:¬(n:Rat)=0:=λe=>hn (Rat.intCast_inj.1 e);have C:¬r=0:=λe=>absurd (e▸hr) zot;have hx:¬r*(n:Rat)=0:=λe=>(zoe.1 e).elim C D;have M:iV (r*(n:Rat))=r*((if n<0 then -n else n:Int):Rat):=by
  have h1:=zVZ hr n;unfold iV;simp only[nG]
  by_cases h:n<0
  · rw[if_pos (h1.2 h),if_pos h,Rat.intCast_neg];grind
  · rw[if_neg (λe=>h (h1.1 e)),if_neg h]
 have H:¬((if n<0 then -n else n:Int):Rat)=0:=λe=>by
  have:=Rat.intCast_inj.1 e
  split at this<;>omega
 unfold ivA;rw[M,if_neg (λe=>(zoe.1 e).elim C H)];generalize ((if n<0 then -n else n:Int):Rat)=m at H ⊢;have J:((1:Int):Rat)=1:=I;rw[J];grind
theorem yGM{v:I3}{f:FI}{r:Rat}(hr:0<r)(hn:¬f.1=z3)(hb:bd3 f.1=true):∃a:Int,(0<a/\a<=1000)/\scZ (scW r (cPl v f))=scW (1/(a:Rat)) (cPl v f):=by
 unfold bd3 at hb;rw[decide_eq_true_iff] at hb;have g:∀n:Int,-1000<=n/\n<=1000->¬yV (r*(n:Rat))=0->∃a:Int,(0<a/\a<=1000)/\scW (ivA (r*(n:Rat))) (scW r (cPl v f))=scW (1/(a:Rat)) (cPl v f):=λn h1 h2=>by
  have H:¬n=0:=λe=>h2 (by
   rw[e];exact if_pos (Rat.mul_zero _))
  refine⟨if n<0 then -n else n,by split<;>omega,?_⟩;rw[yBB,yHX hr H]
 unfold scZ
 split
 · rename_i e
   exact g _ hb.1 e
 · split
   · rename_i e
     exact g _ hb.2.1 e
   · split
     · rename_i e
       exact g _ hb.2.2 e
     · rename_i e1 e2 e3
       have h:=zV0 (v:=v) hr hn;refine absurd ?_ h;have D:=zN4 (Classical.not_not.1 e1);have C:=zN4 (Classical.not_not.1 e2);have z3:=zN4 (Classical.not_not.1 e3);generalize (scW r (cPl v f)).1=t at D C z3;obtain⟨a,b,c⟩:=t;simp only at D C z3;rw[D,C,z3]
section
variable {v:I3}{I:SI}{s:Sd}
theorem zJY(h:aI v I s)(hb:chI I=true):fI s=zLW I:=by
 have C:=cA h;unfold fI zLW;rw[zOV (lt:=λi k=>yB3 (g3 I.1 i) (g3 I.1 k)) (n:=s.1.length) (λi k hi hk=>by rw[h.1,zDC zoq,zDC zoq];exact yK3 _ _ _) _ (Nat.le_refl _),zIA h,C];rfl
theorem zQ3(h:aI v I s)(hb:chI I=true):∀i,zG9 s i=ixJ (zLW I) I.1.length i
  |0=>by unfold zG9 ixJ;rw[cA h]
  |i+1=>by unfold zG9 ixJ;rw[zQ3 h hb i,zJY h hb]
theorem yHK(h:aI v I s)(hb:chI I=true):ixZ s=ixI I:=by
 unfold ixZ ixI;rw[zQ3 h hb,zJY h hb]
theorem yHJ{f:Nat}(h:aI v I s)(hb:chI I=true)(hf:f<I.2.length):zTX v (nfB I.1 (ixI I) (I.2.getD f fi0)) (nfF s (ixZ s) f):=by
 obtain⟨r,hr,O⟩:=zFV (h.2.2.2 f hf);have e:=(h.2.2.2 f hf).2;have e1:(s.2.1.getD f zA).2.1=(I.2.getD f fi0).2.2.1:=congrArg Prod.fst e;have e2:(s.2.1.getD f zA).2.2=(I.2.getD f fi0).2.2.2:=congrArg Prod.snd e;have C:=lG h hb hf;have U:¬(I.2.getD f fi0).1=z3:=by
  unfold faB at C;replace C:=(Bool.and_eq_true _ _▸C).2;rw[Bool.and_eq_true,Bool.and_eq_true,Bool.not_eq_true',decide_eq_false_iff_not] at C;exact C.1.2
 have Z:=zJZ h hb hf;have D:∀i,i<(I.2.getD f fi0).2.2.1.length->(zDJ s f i↔poB I.1 (I.2.getD f fi0) i=true):=λi hi=>by
  have hl:=Z.2 i (by rw[List.length_map];exact hi);rw[rD (flI (rJ (I.2.getD f fi0).1) I.1) [] [] hi] at hl;unfold zDJ poB;rw[zD4 zot zot hl,dE,decide_eq_true_iff];have:(flI (rJ (I.2.getD f fi0).1) I.1 ((I.2.getD f fi0).2.2.1.getD i [])).length=((I.2.getD f fi0).2.2.1.getD i []).length:=List.length_map _;rw[this]
 have H:∀i,nfL s (ixZ s) f i=nwB (ixI I) ((I.2.getD f fi0).2.2.1.getD i []):=λi=>by
  unfold nfL nwB nwL;rw[yHK h hb,e1]
 have aa:bd3 (I.2.getD f fi0).1=true:=by
  unfold faB at C;exact(Bool.and_eq_true _ _▸(Bool.and_eq_true _ _▸C).1).1
 obtain⟨r',M,J⟩:=yGM (v:=v) hr U aa;constructor
 · refine⟨r',M,?_⟩
   show scZ (s.2.1.getD f zA).1=_
   rw[O,J];rfl
 · refine Prod.ext ?_ e2
   show ouL s (ixZ s) f (s.2.1.getD f zA).2.1.length++j9 s (ixZ s) f (s.2.1.getD f zA).2.1.length=_
   rw[e1];have g1:ouL s (ixZ s) f (I.2.getD f fi0).2.2.1.length=zVX (poB I.1 (I.2.getD f fi0)) (λi=>nwB (ixI I) ((I.2.getD f fi0).2.2.1.getD i [])) (I.2.getD f fi0).2.2.1.length:=by
    unfold ouL;rw[zQP (nfL s (ixZ s) f) _ D]
    congr 1
    funext i
    exact H i
   rw[g1,zYN (p:=poB I.1 (I.2.getD f fi0)) (g:=λi=>nwB (ixI I) ((I.2.getD f fi0).2.2.1.getD i [])) _ λi hi=>⟨D i hi,H i⟩]
   rfl
theorem yHI(h:aI v I s)(hb:chI I=true)(hn:nmB I=true):aI v (nrI I) (nrP s,nrF s,nrE s):=by
 have hs:=(zJX h hb).1;have U:=cA h;have H:=zJY h hb;have D:j3 s s.2.1.length=(nsB (nmI I) I.2.length).map λi=>nfF s (ixZ s) i:=by
  rw[h.2.2.1];refine zJS (n:=I.2.length) (λi hi=>by show(s.2.1.getD i zA).2.2=_;exact congrArg Prod.snd (h.2.2.2 i hi).2) (λi hi k hk=>?_) _ (Nat.le_refl _);have h1:=zob.1 (zob.1 hn i (zog.2 hi)) k (zog.2 hk);rw[Bool.not_eq_true',decide_eq_false_iff_not] at h1;exact h1
 refine⟨?_,?_,?_,?_⟩
 · show nrP s=_
   unfold nrP;rw[if_pos hs];unfold zXG;refine zM3 zT (by rw[xK,H];show _=(((zLW I).map _).map _).length;rw[List.length_map,List.length_map]) λi hi=>?_;rw[xK] at hi;have Z:=oH (s:=s) (i:=s.1.length) (k:=i) hi;rw[qY _ _ hi]
   show _=(((zLW I).map λk=>g3 I.1 k.toNat).map (cP v)).getD i zT
   rw[H] at hi;rw[rD (cP v) z3 zT (by rw[List.length_map];exact hi),rD (λk:Int=>g3 I.1 k.toNat) 0 z3 hi,<-H,h.1];have:((fI s).getD i 0)=(aH s s.1.length).getD i 0:=rfl;exact zDC zoq
 · show nrE s=[]
   unfold nrE;rw[if_pos hs];exact h.2.1
 · show(nrF s).length=((nsB (nmI I) I.2.length).map _).length
   unfold nrF;rw[if_pos hs,D,List.length_map,List.length_map]
 · intro f hf
   have C:f<(nsB (nmI I) I.2.length).length:=by
    have:((nsB (nmI I) I.2.length).map λi=>nfB I.1 (ixI I) (I.2.getD i fi0)).length=_:=List.length_map _;have J:f<((nsB (nmI I) I.2.length).map λi=>nfB I.1 (ixI I) (I.2.getD i fi0)).length:=hf;omega
   have hx:=zJT _ _ _ (kA (d:=0) C);have O:(nrI I).2.getD f fi0=nfB I.1 (ixI I) (I.2.getD ((nsB (nmI I) I.2.length).getD f 0) fi0):=rD (λi=>nfB I.1 (ixI I) (I.2.getD i fi0)) 0 fi0 C;have M:(nrF s).getD f zA=nfF s (ixZ s) ((nsB (nmI I) I.2.length).getD f 0):=by
    unfold nrF;rw[if_pos hs,D];exact rD (λi=>nfF s (ixZ s) i) 0 zA C
   show zTX v ((nrI I).2.getD f fi0) ((nrF s).getD f zA)
   rw[O,M];exact yHJ h hb hx
end
def fdI(B:List PI)(p:PI):Nat->Int
  |0=>-1
  |j+1=>if B.getD j (0,0)=p then(j:Int) else fdI B p j
def adI(B:List PI)(p:PI):List PI:=if fdI B p B.length<0 then B++[p] else B
def anI(B:List PI)(p:PI):Int:=if fdI B p B.length<0 then(B.length:Int) else fdI B p B.length
def plI(B x:List PI):Nat->List PI
  |0=>B
  |k+1=>adI (plI B x k) (x.getD k (0,0))
def pnI(B x:List PI):Nat->List Int:=qG λk=>anI (plI B x k) (x.getD k (0,0))
def yGX(T:List (List PI)):Nat->List PI
  |0=>[]
  |i+1=>plI (yGX T i) (T.getD i []) (T.getD i []).length
def bsI(T:List (List PI)):List PI:=yGX T T.length
def bxI(T:List (List PI)):List (List Int):=qG (λi=>pnI (yGX T i) (T.getD i []) (T.getD i []).length) T.length
def ppI(T:List (List PI))(h:Int):List I3:=qG (λi=>(((bsI T).getD (i%(bsI T).length) (0,0)).1,((bsI T).getD (i%(bsI T).length) (0,0)).2,if((bsI T).length:Int)<=(i:Int) then h else 0)) (2*(bsI T).length)
def xaI(T:List (List PI))(i k:Nat):Int:=((bxI T).getD i []).getD k 0
def xbI(T:List (List PI))(i k:Nat):Int:=((bxI T).getD i []).getD ((k+1)%((bxI T).getD i []).length) 0
def snI(T:List (List PI))(h:Int)(i k:Nat):I3:=((g3 (ppI T h) (xbI T i k).toNat).2.1-(g3 (ppI T h) (xaI T i k).toNat).2.1,-((g3 (ppI T h) (xbI T i k).toNat).1-(g3 (ppI T h) (xaI T i k).toNat).1),0)
def sdI(T:List (List PI))(h:Int)(i k:Nat):FI:=(snI T h i k,dt3 (snI T h i k) (g3 (ppI T h) (xaI T i k).toNat),[[xaI T i k,xbI T i k,xbI T i k+((bsI T).length:Int),xaI T i k+((bsI T).length:Int)]],[115,48+i,46,48+k])
def prI(T:List (List PI))(h:Int):SI:=(ppI T h,tN (λi=>qG (λk=>sdI T h i k) ((bxI T).getD i []).length) (bxI T).length++
 [((0,0,-1),0,qG (λi=>zLG ((bxI T).getD i []) ((bxI T).getD i []).length) (bxI T).length,[98,111,116,116,111,109]),
  ((0,0,1),h,qG (λi=>qG (λk=>((bxI T).getD i []).getD k 0+((bsI T).length:Int)) ((bxI T).getD i []).length) (bxI T).length,[116,111,112])])
def sb3(u w:I3):I3:=(u.1-w.1,u.2.1-w.2.1,u.2.2-w.2.2)
def cx3(a b:I3):I3:=(a.2.1*b.2.2-a.2.2*b.2.1,a.2.2*b.1-a.1*b.2.2,a.1*b.2.1-a.2.1*b.1)
def th3(a b c:I3):I3:=cx3 (sb3 b a) (sb3 c a)
def ng3(n:I3):I3:=(-n.1,-n.2.1,-n.2.2)
def tsI(a b c:I3)(i k:Int)(nm:List Nat):FI:=(th3 a b c,dt3 (th3 a b c) a,[[i,k,3]],nm)
def pyI(A B C T:I3):SI:=([A,B,C,T],[tsI A B T 0 1 [115,48],tsI B C T 1 2 [115,49],tsI C A T 2 0 [115,50],(ng3 (th3 A B C),-dt3 (th3 A B C) A,[[2,1,0]],[98,97,115,101])])
def teI(p c q e f g:Nat):SI:=pyI (0,0,0) (1+p,0,0) (c,1+q,0) (e,f,1+g)
def bxJ(p q r:Int):SI:=([(0,0,0),(0,0,r),(0,q,0),(0,q,r),(p,0,0),(p,0,r),(p,q,0),(p,q,r)],[((-1,0,0),0,[[0,1,3,2]],[120,48]),((1,0,0),p,[[4,6,7,5]],[120,49]),((0,-1,0),0,[[0,4,5,1]],[121,48]),((0,1,0),q,[[2,3,7,6]],[121,49]),((0,0,-1),0,[[0,2,6,4]],[122,48]),((0,0,1),r,[[1,5,7,3]],[122,49])])
def baT:List (List (List PI)):=[[[(0,0),(2,0),(2,1),(1,1),(1,2),(0,2)]],[[(0,0),(3,0),(3,3),(0,3)],[(1,1),(1,2),(2,2),(2,1)]],[[(0,0),(3,0),(3,3),(0,3)],[(1,1),(0,0),(1,2)]],[[(0,0),(1,0),(2,0),(2,2),(0,1)]]]
def trT(a b c:Nat):List (List PI):=[[(0,0),((1+a:Nat),0),((b:Nat),(1+c:Nat))]]
def zB4(I:SI):Bool:=chI I&&nmB I&&chI (nrI I)
def teB(p c q:Nat):Bool:=(List.range 3).all λe=>(List.range 3).all λf=>(List.range 3).all λg=>zB4 (teI p c q e f g)
end Bk
namespace Bk
open Go Go.RowKit
open Classical
theorem zET{α:Type}{ρ σ:Rp α}(P:α->Prop)(hn:ρ.n=σ.n)(k:∀{h cs x},ρ.R h cs x->P x->σ.R h cs x){h:Mem}{cs:List Value}{xs:List α}(r:(rpS ρ).R h cs xs)(hp:∀x,x∈xs->P x):(rpS σ).R h cs xs:=by
 obtain⟨v,ds,e,s,rl⟩:=r;refine⟨v,ds,e,hn▸s,?_⟩
 clear s e
 induction xs generalizing ds with
 |nil=>exact rl
 |cons x xs ih=>
  obtain⟨a,b,e,ra,rb⟩:=rl;exact⟨a,b,e,k ra (hp x (.head _)),ih (λy hy=>hp y (.tail _ hy)) b rb⟩
def sh3(k:Nat)(p:T3 Rat):Prop:=lq p.x<=k/\lq p.y<=k/\lq p.z<=k
end Bk
namespace Bk
open Classical
theorem zJ9{s:Sd}(h:kZ s)(p:Pt):inM (tS s) p=inZ s p:=by
 unfold inM inZ;rw[zQF h]
 by_cases ho:onB s p
 · rw[if_pos ho,if_pos ((mO h p).2 ho)]
 · rw[if_neg ho,if_neg λe=>ho ((mO h p).1 e)]
def smS(k m n j:Nat)(s:Sd):Prop:=(∀p,p∈s.1->lqP k p)/\(∀f,f∈s.2.1->lqP m f.1.1/\lq f.1.2<=n)/\∀e,e∈s.2.2->lq e.2.2<=j
section
variable {h:Mem}{cs:List Go.Value}
theorem zY4{M N m n:Nat}{f:Fc}(r:(rpP (rpP (rpT (rpQ M)) (rpQ N)) (rpP (rpS (rpS rpI)) kR)).R h cs f)(hp:lqP m f.1.1/\lq f.1.2<=n):(rpP (rpP (rpT (rpQ m)) (rpQ n)) (rpP (rpS (rpS rpI)) kR)).R h cs f:=by
 obtain⟨a,b,e,⟨J,H,D,r1,r2⟩,C⟩:=r;exact⟨a,b,e,⟨J,H,D,yKO r1 I hp.1,yKP r2 I hp.2⟩,C⟩
theorem zY6{J j:Nat}{x:En}(r:(rpP rpI (rpP rpI (rpQ J))).R h cs x)(hp:lq x.2.2<=j):(rpP rpI (rpP rpI (rpQ j))).R h cs x:=by
 obtain⟨a,b,e,H,c,d,M,D,C⟩:=r;exact⟨a,b,e,H,c,d,M,D,yKP C I hp⟩
theorem zLE{K M N J k m n j:Nat}{s:Sd}(r:(rpP (rpS (rpT (rpQ K))) (rpP (rpS (rpP (rpP (rpT (rpQ M)) (rpQ N)) (rpP (rpS (rpS rpI)) kR))) (rpS (rpP rpI (rpP rpI (rpQ J)))))).R h cs s)(hp:smS k m n j s):
 (rpP (rpS (rpT (rpQ k))) (rpP (rpS (rpP (rpP (rpT (rpQ m)) (rpQ n)) (rpP (rpS (rpS rpI)) kR))) (rpS (rpP rpI (rpP rpI (rpQ j)))))).R h cs s:=by
 obtain⟨a,b,e,H,c,d,O,D,C⟩:=r;exact⟨a,b,e,zET (ρ:=rpT (rpQ K)) (σ:=rpT (rpQ k)) (lqP k) I (λr hp=>yKO r I hp) H hp.1,c,d,O,
  zET (ρ:=rpP (rpP (rpT (rpQ M)) (rpQ N)) (rpP (rpS (rpS rpI)) kR)) (σ:=rpP (rpP (rpT (rpQ m)) (rpQ n)) (rpP (rpS (rpS rpI)) kR)) (λf=>lqP m f.1.1/\lq f.1.2<=n) I zY4 D hp.2.1,
  zET (ρ:=rpP rpI (rpP rpI (rpQ J))) (σ:=rpP rpI (rpP rpI (rpQ j))) (λx=>lq x.2.2<=j) I zY6 C hp.2.2⟩
end
section
variable {a b:Pt}
theorem zXX{k:Nat}{p:Pt}(h:lqP k p)(i:Nat):lq (p.at i)<=k:=by
 match i with
 |0=>exact h.1
 |1=>exact h.2.1
 |_+2=>exact h.2.2
theorem yKD{k:Nat}(hk:2<=k)(ha:lqP k a)(hb:lqP k b):smS k 2 (k+2) 0 (bxS a b):=by
 have h1:lq (1:Rat)<=2:=sT 1 zot zot;have h2:lq (-1:Rat)<=2:=sT (-1) zot zot;have h0:=zAY;refine⟨λp C=>?_,λf hf=>?_,λe J=>by cases J⟩
 · obtain⟨u,_,rfl⟩:=List.mem_map.1 C
   obtain⟨H,D,u3⟩:=u;have g:∀(x:Bool) (p q:Rat),lq p<=k->lq q<=k->lq (if x then q else p)<=k:=λx p q C M=>by split<;>assumption
   exact⟨g H _ _ ha.1 hb.1,g D _ _ ha.2.1 hb.2.1,g u3 _ _ ha.2.2 hb.2.2⟩
 · have hf:f∈fB3 a b:=hf
   obtain⟨i,hi,rfl⟩:=zJ1 zA hf;have e:=(dS (a:=a) (b:=b) (f:=i) hi).2;rw[e];generalize kV i=d;obtain⟨d,x⟩:=d;constructor
   · have g:∀c:Rat,lq c<=2->lqP 2 ((zT).set d c):=λc hc=>by
      match d with
      |0=>exact⟨hc,by show lq 0<=2;omega,by show lq 0<=2;omega⟩
      |1=>exact⟨by show lq 0<=2;omega,hc,by show lq 0<=2;omega⟩
      |_+2=>exact⟨by show lq 0<=2;omega,by show lq 0<=2;omega,hc⟩
     refine g _ ?_
     split<;>assumption
   · have h3:=iL (if x then 1 else -1) (if x then b.at d else a.at d)
     have U:lq (if x then 1 else -1:Rat)<=2:=by split<;>assumption
     have O:lq (if x then b.at d else a.at d)<=k:=by
      split
      · exact zXX hb d
      · exact zXX ha d
     show lq ((if x then 1 else -1)*(if x then b.at d else a.at d))<=k+2
     omega
structure BoxL(k:Nat)(a b:Pt):Prop where
 lq:lqP k b
 ok:iU a b
 h:blH a b
 e:blE a b=0
 oks:okS (bkS a b)
 snd:kZ (bkS a b)
 sm:smS k 2 (k+2) 0 (bkS a b)
 onb:∀p,onA (tS (bkS a b)) p↔(∀u,u<3->kI a b p u)/\¬∀u,u<3->sI a b p u
 wd:∀p,¬onA (tS (bkS a b)) p->wdM (tS (bkS a b)) p=cW (∀u,u<3->sI a b p u)
 inb:∀p,inM (tS (bkS a b)) p=if ∀u,u<3->sI a b p u then 1 else if ∀u,u<3->kI a b p u then 0 else -1
theorem zEJ{i:Nat}(h:i<3):i=0\/i=1\/i=2:=by omega
theorem boxl{k:Nat}(hk:2<=k)(ha:lqP k a)(hb:lqP k b)(h:∀u,u<3->a.at u<b.at u):BoxL k a b:=by
 have C:a.x<b.x/\a.y<b.y/\a.z<b.z:=⟨h 0 zot,h 1 zot,h 2 zot⟩;have D:∀i,a.at i<b.at i:=λi=>by
  match i with
  |0=>exact C.1
  |1=>exact C.2.1
  |_+2=>exact C.2.2
 have H:iU a b:=by
  intro u M;rw[zP1];exact Rat.not_le.2 (h u M)
 have e:=yC7 H;have hs:=zVL C;have J:∀p,onA (tS (bxS a b)) p↔(∀u,u<3->kI a b p u)/\¬∀u,u<3->sI a b p u:=λp=>(mO hs p).trans (zQ0 D p);refine⟨hb,H,yJB H,zZS H,?_,?_,?_,?_,?_,?_⟩
 · rw[e]
   exact zP4 C ⟨by decide,show 6<=256 by decide⟩ λf hf=>⟨_,(dS (a:=a) (b:=b) hf).1⟩
 · rw[e];exact hs
 · rw[e];exact yKD hk ha hb
 · rw[e];exact J
 · rw[e]
   intro p O;rw[zQF hs];exact zQB D λe'=>O ((mO hs p).2 e')
 · rw[e]
   intro p;rw[zJ9 hs];exact yLB D p
end
structure SaneL:Prop where
 b:BoxL 2 (pI 0 0 0) (pI 1 1 1)
 o1:¬onA (tS (bkS (pI 0 0 0) (pI 1 1 1))) (T3.mk (uR 1 2) (uR 1 2) (uR 1 2))
 w1:wdM (tS (bkS (pI 0 0 0) (pI 1 1 1))) (T3.mk (uR 1 2) (uR 1 2) (uR 1 2))=1
 o2:¬onA (tS (bkS (pI 0 0 0) (pI 1 1 1))) (pI 2 0 0)
 w2:wdM (tS (bkS (pI 0 0 0) (pI 1 1 1))) (pI 2 0 0)=0
 i3:inM (tS (bkS (pI 0 0 0) (pI 1 1 1))) (pI 1 1 1)=0
theorem fD:SaneL:=by
 have U:lqP 2 (pI 0 0 0):=⟨sT _ zot zot,sT _ zot zot,sT _ zot zot⟩;have l1:lqP 2 (pI 1 1 1):=⟨sT _ zot zot,sT _ zot zot,sT _ zot zot⟩;have eh:uR 1 2=1/2:=I;have h:=boxl (a:=pI 0 0 0) (b:=pI 1 1 1) (Nat.le_refl 2) U l1 λu C=>by
  rcases zEJ C with rfl|rfl|rfl
  · show((0:Int):Rat)<((1:Int):Rat);decide
  · show((0:Int):Rat)<((1:Int):Rat);decide
  · show((0:Int):Rat)<((1:Int):Rat);decide
 have D:∀u,u<3->sI (pI 0 0 0) (pI 1 1 1) (T3.mk (uR 1 2) (uR 1 2) (uR 1 2)) u:=λu C=>by
  rw[eh]
  rcases zEJ C with rfl|rfl|rfl
  · show((0:Int):Rat)<1/2/\1/2<((1:Int):Rat);decide +kernel
  · show((0:Int):Rat)<1/2/\1/2<((1:Int):Rat);decide +kernel
  · show((0:Int):Rat)<1/2/\1/2<((1:Int):Rat);decide +kernel
 have k2:¬∀u,u<3->kI (pI 0 0 0) (pI 1 1 1) (pI 2 0 0) u:=λe=>by
  have:=(e 0 zot).2;exact absurd (show((2:Int):Rat)<=((1:Int):Rat) from this) zot
 have O:¬∀u,u<3->sI (pI 0 0 0) (pI 1 1 1) (pI 2 0 0) u:=λe=>by
  have:=(e 0 zot).2;exact absurd (show((2:Int):Rat)<((1:Int):Rat) from this) zot
 have Z:∀u,u<3->kI (pI 0 0 0) (pI 1 1 1) (pI 1 1 1) u:=λu C=>by
  rcases zEJ C with rfl|rfl|rfl
  · show((0:Int):Rat)<=((1:Int):Rat)/\((1:Int):Rat)<=((1:Int):Rat);decide
  · show((0:Int):Rat)<=((1:Int):Rat)/\((1:Int):Rat)<=((1:Int):Rat);decide
  · show((0:Int):Rat)<=((1:Int):Rat)/\((1:Int):Rat)<=((1:Int):Rat);decide
 have M:¬∀u,u<3->sI (pI 0 0 0) (pI 1 1 1) (pI 1 1 1) u:=λe=>by
  have:=(e 0 zot).2;exact absurd (show((1:Int):Rat)<((1:Int):Rat) from this) zot
 have J:¬onA (tS (bkS (pI 0 0 0) (pI 1 1 1))) (T3.mk (uR 1 2) (uR 1 2) (uR 1 2)):=λe=>((h.onb _).1 e).2 D;have H:¬onA (tS (bkS (pI 0 0 0) (pI 1 1 1))) (pI 2 0 0):=λe=>k2 ((h.onb _).1 e).1;refine⟨h,J,?_,H,?_,?_⟩
 · rw[h.wd _ J,lE D]
 · rw[h.wd _ H,jZ O]
 · rw[h.inb,if_neg M,if_pos Z]
def bxW(a b p:Pt)(i:Nat)(w:Int):Prop:=(∀u,u<i->kI a b p u)/\((w=1/\∀u,u<i->sI a b p u)\/(w=0/\¬∀u,u<i->sI a b p u))
def thN(a b c:Pt):Pt:=zY (yO b a) (yO c a)
noncomputable def thZ(a b c:Pt):Pl:=if thN a b c=zT then zS7 else(thN a b c,zE (thN a b c) a)
noncomputable def thE(a b c:Pt):Int:=if thN a b c=zT then 9 else 0
theorem yJ5{a b c:Pt}(h:thN a b c=zT):thZ a b c=zS7/\thE a b c=9:=⟨if_pos h,if_pos h⟩
theorem zVA{a b c:Pt}(h:¬thN a b c=zT):thZ a b c=(thN a b c,zE (thN a b c) a)/\thE a b c=0:=⟨if_neg h,if_neg h⟩
def opP(pl:Pl):Pl:=(T3.mk (((-1:Int):Rat)*pl.1.x) (((-1:Int):Rat)*pl.1.y) (((-1:Int):Rat)*pl.1.z),-pl.2)
section
variable (l:List Pt)(t:Pt)
noncomputable def pyX(i:Nat):Fc:=(thZ (l.getD i zT) (l.getD ((i+1)%l.length) zT) t,[[(i:Int),(((i+1)%l.length:Nat):Int),(l.length:Int)]],[115]++qK (((i:Int):Int):Rat))
noncomputable def pyT:Nat->List Fc:=qG (pyX l t)
def pyL(n:Nat):Nat->List Int:=qG λi=>(n:Int)-1-(i:Int)
noncomputable def pyB:Fc:=(opP (thZ (l.getD 0 zT) (l.getD 1 zT) (l.getD 2 zT)),[pyL l.length l.length],[98,97,115,101])
noncomputable def pyR:Sd:=(l++[t],pyT l t l.length++[pyB l],[])
def pyH:Prop:=((3<=l.length/\l.length<=64)/\¬thN (l.getD 0 zT) (l.getD 1 zT) (l.getD 2 zT)=zT)/\(zGM (thZ (l.getD 0 zT) (l.getD 1 zT) (l.getD 2 zT)) l/\0<sdZ (thZ (l.getD 0 zT) (l.getD 1 zT) (l.getD 2 zT)) t)/\okS (pyR l t)
end
def bdV(v:I3):Prop:=(-1000<=v.1/\v.1<=1000)/\(-1000<=v.2.1/\v.2.1<=1000)/\(-1000<=v.2.2/\v.2.2<=1000)
theorem zR5{u:I3}:bd3 u=true↔bdV u:=by unfold bd3 bdV;rw[decide_eq_true_iff]
theorem zD2{a n:Int}(ha:0<a/\a<=1000)(hn:-9223372036854775808<=n)(hn':n<9223372036854775808):lq (1/(a:Rat)*(n:Rat))<=2:=by
 have h:=zD1 hn hn' (d:=a) zoq zoq;have e:uR n a=1/(a:Rat)*(n:Rat):=by
  unfold uR;rw[Rat.div_def,Rat.div_def,Rat.one_mul,Rat.mul_comm]
 rw[<-e];exact h
theorem zPB{a b:Int}(ha:-1000<=a/\a<=1000)(hb:-1000<=b/\b<=1000):-1000000<=a*b/\a*b<=1000000:=by
 have h1:=Int.mul_nonneg (show 0<=1000-a by omega) (show 0<=1000-b by omega);have h2:=Int.mul_nonneg (show 0<=1000+a by omega) (show 0<=1000+b by omega);have h3:=Int.mul_nonneg (show 0<=1000-a by omega) (show 0<=1000+b by omega);have C:=Int.mul_nonneg (show 0<=1000+a by omega) (show 0<=1000-b by omega);have M:(1000-a)*(1000-b)=1000000-1000*a-1000*b+a*b:=by grind
 have J:(1000+a)*(1000+b)=1000000+1000*a+1000*b+a*b:=by grind
 have H:(1000-a)*(1000+b)=1000000-1000*a+1000*b-a*b:=by grind
 have D:(1000+a)*(1000-b)=1000000+1000*a-1000*b-a*b:=by grind
 omega
theorem yLJ{n u:I3}(hn:bdV n)(hu:bdV u):-3000000<=dt3 n u/\dt3 n u<=3000000:=by
 have h1:=zPB hn.1 hu.1;have h2:=zPB hn.2.1 hu.2.1;have h3:=zPB hn.2.2 hu.2.2;unfold dt3;omega
theorem yF2{v:I3}{I:SI}{s:Sd}(h:aI v I s)(hb:chI I=true)(hv:bdV v):smS 2 2 2 1 s:=by
 refine⟨λp J=>?_,λf hf=>?_,λe M=>?_⟩
 · rw[h.1] at J
   obtain⟨u,O,rfl⟩:=List.mem_map.1 J;have h1:bdV u:=zR5.1 (zob.1 (by unfold chI at hb;exact(Bool.and_eq_true _ _▸hb).1) u O);unfold bdV at h1 hv;exact⟨sT _ zoq zoq,sT _ zoq zoq,sT _ zoq zoq⟩
 · obtain⟨i,hi,rfl⟩:=zJ1 zA hf
   have C:i<I.2.length:=by rw[<-h.2.2.1];exact hi
   obtain⟨a,H,e⟩:=(h.2.2.2 i C).1;have D:=lG h hb C;unfold faB at D;have h1:=(Bool.and_eq_true _ _▸(Bool.and_eq_true _ _▸D).1);have h2:bdV (I.2.getD i fi0).1:=zR5.1 h1.1;have h3:-1000<=(I.2.getD i fi0).2.1/\(I.2.getD i fi0).2.1<=1000:=of_decide_eq_true h1.2;have U:=yLJ h2 hv;rw[e];unfold bdV at h2;exact⟨⟨zD2 H zoq zoq,zD2 H zoq zoq,zD2 H zoq zoq⟩,zD2 H zoq zoq⟩
 · rw[h.2.1] at M;cases M
theorem yG5(pl:Pl):scW (1/((1:Int):Rat)) pl=pl:=by
 have e:1/((1:Int):Rat)=1:=by decide +kernel
 rw[e];unfold scW;simp only[Rat.one_mul]
theorem zDZ{v:I3}{f:FI}{x:Fc}(h1:x.1=cPl v f)(h2:x.2=f.2.2):zTX v f x:=⟨⟨1,by decide,by rw[yG5];exact h1⟩,h2⟩
def mirL(v:I3)(B:List FI)(A:List Fc):Prop:=A.length=B.length/\∀f,f<B.length->zTX v (B.getD f fi0) (A.getD f zA)
section
variable {v:I3}
end
def c2(x y:Int)(u:PI):Pt:=T3.mk ((x+u.1:Int):Rat) ((y+u.2:Int):Rat) (0:Rat)
def baL(x y:Int)(T:List (List PI)):List (List Pt):=T.map λs=>s.map (c2 x y)
section
variable {x y:Int}
section
variable {z h:Int}{T:List (List PI)}
end
end
theorem yLV:(baT.all λT=>nsI T&&zB4 (prI T 1)&&zB4 (prI T 2))=true:=by decide +kernel
theorem yJ2:((List.range 3).all λa=>(List.range 2).all λb=>(List.range 2).all λc=>nsI (trT a b c)&&zB4 (prI (trT a b c) 1)&&zB4 (prI (trT a b c) 2))=true:=by decide +kernel
theorem yI9:((List.range 2).all λp=>(List.range 2).all λq=>(List.range 2).all λr=>chI (bxJ (1+p:Nat) (1+q:Nat) (1+r:Nat)))=true:=by decide +kernel
theorem yFV:teB 0 0 0=true:=by decide +kernel
theorem yFU:teB 0 0 1=true:=by decide +kernel
theorem yFT:teB 0 0 2=true:=by decide +kernel
theorem yFS:teB 0 1 0=true:=by decide +kernel
theorem yFR:teB 0 1 1=true:=by decide +kernel
theorem yFQ:teB 0 1 2=true:=by decide +kernel
theorem yFP:teB 1 0 0=true:=by decide +kernel
theorem yFO:teB 1 0 1=true:=by decide +kernel
theorem yFN:teB 1 0 2=true:=by decide +kernel
theorem yFM:teB 1 1 0=true:=by decide +kernel
theorem yFL:teB 1 1 1=true:=by decide +kernel
theorem yFK:teB 1 1 2=true:=by decide +kernel
theorem yFJ:teB 2 0 0=true:=by decide +kernel
theorem yFI:teB 2 0 1=true:=by decide +kernel
theorem yFH:teB 2 0 2=true:=by decide +kernel
theorem yFG:teB 2 1 0=true:=by decide +kernel
theorem yFF:teB 2 1 1=true:=by decide +kernel
theorem yFE:teB 2 1 2=true:=by decide +kernel
theorem yJ6{p c q e f g:Nat}(hp:p<3)(hc:c<2)(hq:q<3)(he:e<3)(hf:f<3)(hg:g<3):zB4 (teI p c q e f g)=true:=by
 have h:teB p c q=true:=by
  have H:p=0\/p=1\/p=2:=by omega
  have D:c=0\/c=1:=by omega
  have C:q=0\/q=1\/q=2:=by omega
  rcases H with rfl|rfl|rfl<;>rcases D with rfl|rfl<;>rcases C with rfl|rfl|rfl
  · exact yFV
  · exact yFU
  · exact yFT
  · exact yFS
  · exact yFR
  · exact yFQ
  · exact yFP
  · exact yFO
  · exact yFN
  · exact yFM
  · exact yFL
  · exact yFK
  · exact yFJ
  · exact yFI
  · exact yFH
  · exact yFG
  · exact yFF
  · exact yFE
 exact zob.1 (zob.1 (zob.1 h e (zog.2 he)) f (zog.2 hf)) g (zog.2 hg)
theorem yI8{p q r:Nat}(hp:p<2)(hq:q<2)(hr:r<2):chI (bxJ (1+p:Nat) (1+q:Nat) (1+r:Nat))=true:=
 zob.1 (zob.1 (zob.1 yI9 p (zog.2 hp)) q (zog.2 hq)) r (zog.2 hr)
section
variable {v:I3}
theorem yDL(a b c:I3):thN (cP v a) (cP v b) (cP v c)=nr3 (th3 a b c):=by
 unfold thN zY yO nr3 th3 cx3 sb3 cP;simp only[Rat.intCast_sub,Rat.intCast_add,Rat.intCast_mul]
 congr 1<;>grind
theorem yKX{n:I3}:nr3 n=zT↔n=z3:=by
 constructor
 · intro e
   have H:=Rat.intCast_inj.1 (show(n.1:Rat)=((0:Int):Rat) from congrArg T3.x e);have D:=Rat.intCast_inj.1 (show(n.2.1:Rat)=((0:Int):Rat) from congrArg T3.y e);have C:=Rat.intCast_inj.1 (show(n.2.2:Rat)=((0:Int):Rat) from congrArg T3.z e);exact Prod.ext H (Prod.ext D C)
 · rintro rfl;rfl
theorem yIQ(n u:I3):zE (nr3 n) (cP v u)=((dt3 n u+dt3 n v:Int):Rat):=by
 unfold zE nr3 cP dt3;simp only[Rat.intCast_add,Rat.intCast_mul];grind
theorem zI1{a b c:I3}(h:¬th3 a b c=z3):thZ (cP v a) (cP v b) (cP v c)=(nr3 (th3 a b c),((dt3 (th3 a b c) a+dt3 (th3 a b c) v:Int):Rat)):=by
 rw[(zVA (λe=>h (yKX.1 (by rw[<-yDL (v:=v)];exact e)))).1,yDL,yIQ]
theorem yGW{A B C T:I3}(h0:¬th3 A B C=z3)(h1:¬th3 A B T=z3)(h2:¬th3 B C T=z3)(h3:¬th3 C A T=z3):aI v (pyI A B C T) (pyR [cP v A,cP v B,cP v C] (cP v T)):=by
 have J:qK (((0:Nat):Int):Rat)=[48]:=t8 (n:=0) zot;have H:qK (((1:Nat):Int):Rat)=[49]:=t8 (n:=1) zot;have D:qK (((2:Nat):Int):Rat)=[50]:=t8 (n:=2) zot;refine⟨I,I,I,λf hf=>?_⟩;have M:f<4:=hf;have:f=0\/f=1\/f=2\/f=3:=by omega
 rcases this with rfl|rfl|rfl|rfl
 · refine zDZ ?_ ?_
   · show thZ (cP v A) (cP v B) (cP v T)=_
     rw[zI1 h1];rfl
   · show([[((0:Nat):Int),((1%3:Nat):Int),((3:Nat):Int)]],[115]++qK (((0:Nat):Int):Rat))=_
     rw[J];rfl
 · refine zDZ ?_ ?_
   · show thZ (cP v B) (cP v C) (cP v T)=_
     rw[zI1 h2];rfl
   · show([[((1:Nat):Int),((2%3:Nat):Int),((3:Nat):Int)]],[115]++qK (((1:Nat):Int):Rat))=_
     rw[H];rfl
 · refine zDZ ?_ ?_
   · show thZ (cP v C) ([cP v A,cP v B,cP v C].getD ((2+1)%3) zT) (cP v T)=_
     rw[show[cP v A,cP v B,cP v C].getD ((2+1)%3) zT=cP v A from I,zI1 h3];rfl
   · show([[((2:Nat):Int),(((2+1)%3:Nat):Int),((3:Nat):Int)]],[115]++qK (((2:Nat):Int):Rat))=_
     rw[D];rfl
 · refine zDZ ?_ ?_
   · show opP (thZ (cP v A) (cP v B) (cP v C))=(nr3 (ng3 (th3 A B C)),((-dt3 (th3 A B C) A+dt3 (ng3 (th3 A B C)) v:Int):Rat))
     rw[zI1 h0];generalize th3 A B C=n;unfold opP nr3 ng3 dt3;have O:((-1:Int):Rat)= -1:=I;refine Prod.ext ?_ ?_
     · simp only[Rat.intCast_neg,O]
       congr 1<;>grind
     · simp only[Rat.intCast_neg,Rat.intCast_add,Rat.intCast_mul]
       grind
   · rfl
end
theorem zEK{p c q e f g:Nat}(hp:p<3)(hc:c<2)(hq:q<3)(he:e<3)(hf:f<3)(hg:g<3):(chI (teI p c q e f g)=true/\nmB (teI p c q e f g)=true)/\chI (nrI (teI p c q e f g))=true:=by
 have h:=yJ6 hp hc hq he hf hg;unfold zB4 at h;rw[Bool.and_eq_true,Bool.and_eq_true] at h;exact h
theorem zR1{P:List I3}{F:List FI}(h:chI (P,F)=true){f:Nat}(hf:f<F.length):¬(F.getD f fi0).1=z3:=by
 unfold chI at h;replace h:=(Bool.and_eq_true _ _▸h).2;rw[Bool.and_eq_true,Bool.and_eq_true,Bool.and_eq_true] at h;have C:=zob.1 h.1.1.2 _ (kA (d:=fi0) hf);unfold faB at C;replace C:=(Bool.and_eq_true _ _▸C).2;rw[Bool.and_eq_true,Bool.and_eq_true,Bool.not_eq_true',decide_eq_false_iff_not] at C;exact C.1.2
def teL(x y z:Int)(p c q:Nat):List Pt:=[pI x y z,pI (x+(1+p)) y z,pI (x+c) (y+(1+q)) z]
def teA(x y z:Int)(e f g:Nat):Pt:=pI (x+e) (y+f) (z+(1+g))
theorem zVC{x y z:Int}{p c q e f g:Nat}(hp:p<3)(hc:c<2)(hq:q<3)(he:e<3)(hf:f<3)(hg:g<3):aI (x,y,z) (teI p c q e f g) (pyR (teL x y z p c q) (teA x y z e f g)):=by
 have h:=(zEK hp hc hq he hf hg).1.1;have J:=zR1 h (f:=0) (show 0<4 by decide);have H:=zR1 h (f:=1) (show 1<4 by decide);have D:=zR1 h (f:=2) (show 2<4 by decide);have M:=zR1 h (f:=3) (show 3<4 by decide);have h0:¬th3 (0,0,0) (1+(p:Int),0,0) ((c:Int),1+(q:Int),0)=z3:=λe'=>M (by
  show ng3 (th3 _ _ _)=z3
  rw[show th3 _ _ _=z3 from e'];rfl)
 have C:=yGW (v:=(x,y,z)) h0 J H D;have U:[cP (x,y,z) (0,0,0),cP (x,y,z) (1+(p:Int),0,0),cP (x,y,z) ((c:Int),1+(q:Int),0)]=teL x y z p c q:=by
  unfold teL cP pI;simp
 have O:cP (x,y,z) ((e:Int),(f:Int),1+(g:Int))=teA x y z e f g:=by
  unfold teA cP pI;simp
 rw[U,O] at C;exact C
theorem yAR{x y z:Int}{p c q e f g:Nat}:(¬thN ((teL x y z p c q).getD 0 zT) ((teL x y z p c q).getD 1 zT) ((teL x y z p c q).getD 2 zT)=zT)/\zGM (thZ ((teL x y z p c q).getD 0 zT) ((teL x y z p c q).getD 1 zT) ((teL x y z p c q).getD 2 zT)) (teL x y z p c q)/\0<sdZ (thZ ((teL x y z p c q).getD 0 zT) ((teL x y z p c q).getD 1 zT) ((teL x y z p c q).getD 2 zT)) (teA x y z e f g):=by
 have hP:0<(1+(p:Int))*(1+(q:Int)):=Int.mul_pos zoq zoq;have hG:0<(1+(p:Int))*(1+(q:Int))*(1+(g:Int)):=Int.mul_pos hP zoq;have hN:thN (pI x y z) (pI (x+(1+p)) y z) (pI (x+c) (y+(1+q)) z)=T3.mk (0:Rat) (0:Rat) (((1+(p:Int))*(1+(q:Int)):Int):Rat):=by
  unfold thN zY yO pI;simp only[Rat.intCast_add,Rat.intCast_mul]
  congr 1<;>grind
 have hz:¬thN (pI x y z) (pI (x+(1+p)) y z) (pI (x+c) (y+(1+q)) z)=zT:=λe=>by
  rw[hN] at e;have:=Rat.intCast_inj.1 (show _=((0:Int):Rat) from congrArg T3.z e);omega
 have hZ:thZ (pI x y z) (pI (x+(1+p)) y z) (pI (x+c) (y+(1+q)) z)=(T3.mk (0:Rat) (0:Rat) (((1+(p:Int))*(1+(q:Int)):Int):Rat),(((1+(p:Int))*(1+(q:Int))*z:Int):Rat)):=by
  rw[(zVA hz).1,hN];unfold zE pI;simp only[Rat.intCast_mul,Rat.zero_mul,Rat.zero_add]
 generalize hm:(1+(p:Int))*(1+(q:Int))=m at hP hG hN hZ;have J:∀X Y Z:Int,sdZ (T3.mk (0:Rat) (0:Rat) ((m:Int):Rat),((m*z:Int):Rat)) (pI X Y Z)=sgI (m*(Z-z)):=λX Y Z=>by
  have:hgt (T3.mk (0:Rat) (0:Rat) ((m:Int):Rat),((m*z:Int):Rat)) (pI X Y Z)=((m*(Z-z):Int):Rat):=by
   unfold hgt zE pI;simp only[Rat.intCast_mul,Rat.intCast_sub];grind
  unfold sdZ;rw[this,mC];rfl
 have aa:∀X Y:Int,sdZ (T3.mk (0:Rat) (0:Rat) ((m:Int):Rat),((m*z:Int):Rat)) (pI X Y z)=0:=λX Y=>by
  rw[J,Int.sub_self,Int.mul_zero];rfl
 have M:axI (T3.mk (0:Rat) (0:Rat) ((m:Int):Rat))=0/\axJ (T3.mk (0:Rat) (0:Rat) ((m:Int):Rat))=1:=⟨if_pos (Rat.intCast_pos.2 hP),if_pos (Rat.intCast_pos.2 hP)⟩;have D:∀X Y Z:Int,pt2 (T3.mk (0:Rat) (0:Rat) ((m:Int):Rat),((m*z:Int):Rat)) (pI X Y Z)=ag (x:Rat) 1 (y:Rat) 1 (X-x,Y-y):=λX Y Z=>by
  unfold pt2 ag;rw[M.1,M.2];unfold pr pI;simp only[T3.at,Rat.intCast_sub];refine Prod.ext ?_ ?_<;>grind
 refine⟨hz,?_,?_⟩
 · show zGM (thZ (pI x y z) (pI (x+(1+p)) y z) (pI (x+c) (y+(1+q)) z)) _
   rw[hZ];refine⟨⟨show 3<=3 from Nat.le_refl 3,λe=>?_⟩,λi hi=>?_,λi k hi h2 hk=>?_⟩
   · have:=Rat.intCast_inj.1 (show _=((0:Int):Rat) from congrArg T3.z e)
     omega
   · have H:i<3:=hi
     rcases zEJ H with rfl|rfl|rfl<;>exact aa _ _
   · have H:i<3:=hi
     have ab:k<3:=hk;have:k=2:=by omega
     subst this;have C:∀u w t:PI,0<crI u w t->0<orZ (ag (x:Rat) 1 (y:Rat) 1 u) (ag (x:Rat) 1 (y:Rat) 1 w) (ag (x:Rat) 1 (y:Rat) 1 t):=λu w t h=>by
      rw[zZ4 zot zot];exact dE.2 h
     have pA:pt2 (T3.mk (0:Rat) (0:Rat) ((m:Int):Rat),((m*z:Int):Rat)) (pI x y z)=ag (x:Rat) 1 (y:Rat) 1 (0,0):=by rw[D,Int.sub_self,Int.sub_self]
     have U:pt2 (T3.mk (0:Rat) (0:Rat) ((m:Int):Rat),((m*z:Int):Rat)) (pI (x+(1+p)) y z)=ag (x:Rat) 1 (y:Rat) 1 (1+(p:Int),0):=by rw[D,Int.sub_self,show x+(1+(p:Int))-x=1+(p:Int) by omega]
     have O:pt2 (T3.mk (0:Rat) (0:Rat) ((m:Int):Rat),((m*z:Int):Rat)) (pI (x+c) (y+(1+q)) z)=ag (x:Rat) 1 (y:Rat) 1 ((c:Int),1+(q:Int)):=by rw[D,show x+(c:Int)-x=(c:Int) by omega,show y+(1+(q:Int))-y=1+(q:Int) by omega]
     have c1:crI (0,0) (1+(p:Int),0) ((c:Int),1+(q:Int))=m:=by rw[<-hm];simp[crI]
     have c2:crI (1+(p:Int),0) ((c:Int),1+(q:Int)) (0,0)=m:=by rw[<-hm];simp[crI];grind
     have c3:crI ((c:Int),1+(q:Int)) (0,0) (1+(p:Int),0)=m:=by rw[<-hm];simp[crI];grind
     have hL:(teL x y z p c q).length=3:=I;have g0:gp (teL x y z p c q) 0=pI x y z:=I;have g1:gp (teL x y z p c q) 1=pI (x+(1+p)) y z:=I;have g2:gp (teL x y z p c q) 2=pI (x+c) (y+(1+q)) z:=I;unfold nx;rw[hL]
     rcases zEJ H with rfl|rfl|rfl
     · rw[show(0+1)%3=1 from I,show(0+2)%3=2 from I,g0,g1,g2,pA,U,O]
       exact C _ _ _ (by rw[c1];exact hP)
     · rw[show(1+1)%3=2 from I,show(1+2)%3=0 from I,g0,g1,g2,pA,U,O]
       exact C _ _ _ (by rw[c2];exact hP)
     · rw[show(2+1)%3=0 from I,show(2+2)%3=1 from I,g0,g1,g2,pA,U,O]
       exact C _ _ _ (by rw[c3];exact hP)
 · show 0<sdZ (thZ (pI x y z) (pI (x+(1+p)) y z) (pI (x+c) (y+(1+q)) z)) (pI (x+e) (y+f) (z+(1+g)))
   rw[hZ,J];refine dE.2 ?_;rw[show z+(1+(g:Int))-z=1+(g:Int) by omega];exact hG
theorem yFD{x y z:Int}{p c q e f g:Nat}(hp:p<3)(hc:c<2)(hq:q<3)(he:e<3)(hf:f<3)(hg:g<3):pyH (teL x y z p c q) (teA x y z e f g):=by
 obtain⟨h1,h2,h3⟩:=yAR (x:=x) (y:=y) (z:=z) (p:=p) (c:=c) (q:=q) (e:=e) (f:=f) (g:=g);exact⟨⟨⟨by show 3<=3;decide,by show 3<=64;decide⟩,h1⟩,⟨h2,h3⟩,(zJX (zVC hp hc hq he hf hg) (zEK hp hc hq he hf hg).1.1).2⟩
def baF(T:List (List PI)):Prop:=T∈baT\/∃a b c:Nat,(a<3/\b<2/\c<2)/\T=trT a b c
def yCT(I:SI):Prop:=(∃p q r:Nat,(p<2/\q<2/\r<2)/\I=bxJ (1+p:Nat) (1+q:Nat) (1+r:Nat))\/(∃T h,baF T/\(h=1\/h=2)/\I=nrI (prI T h))\/
 ∃p c q e f g:Nat,(p<3/\c<2/\q<3)/\(e<3/\f<3/\g<3)/\I=nrI (teI p c q e f g)
def yF0(s:Sd):Prop:=∃v I,yCT I/\bdV v/\aI v I s
theorem yLW{T:List (List PI)}{h:Int}(hT:baF T)(hh:h=1\/h=2):nsI T=true/\zB4 (prI T h)=true:=by
 have g:∀T,(nsI T&&zB4 (prI T 1)&&zB4 (prI T 2))=true->nsI T=true/\zB4 (prI T h)=true:=λT e=>by
  rw[Bool.and_eq_true,Bool.and_eq_true] at e
  rcases hh with rfl|rfl
  · exact⟨e.1.1,e.1.2⟩
  · exact⟨e.1.1,e.2⟩
 rcases hT with hT|⟨a,b,c,⟨ha,hb,hc⟩,rfl⟩
 · exact g T (zob.1 yLV T hT)
 · exact g _ (zob.1 (zob.1 (zob.1 yJ2 a (zog.2 ha)) b (zog.2 hb)) c (zog.2 hc))
theorem yG8{I:SI}(h:zB4 I=true):(chI I=true/\nmB I=true)/\chI (nrI I)=true:=by
 unfold zB4 at h;rw[Bool.and_eq_true,Bool.and_eq_true] at h;exact h
theorem zPY{I:SI}(h:yCT I):chI I=true:=by
 rcases h with⟨p,q,r,⟨hp,hq,hr⟩,rfl⟩|⟨T,h,hT,hh,rfl⟩|⟨p,c,q,e,f,g,⟨hp,hc,hq⟩,⟨he,hf,hg⟩,rfl⟩
 · exact yI8 hp hq hr
 · exact(yG8 (yLW hT hh).2).2
 · exact(zEK hp hc hq he hf hg).2
theorem zQJ{s:Sd}(h:yF0 s):(kZ s/\okS s)/\smS 2 2 2 1 s:=by
 obtain⟨v,I,D,H,C⟩:=h;exact⟨zJX C (zPY D),yF2 C (zPY D) H⟩
theorem nat_of{z:Int}{n:Nat}(h:0<=z/\z<n):∃m:Nat,m<n/\z=m:=⟨z.toNat,by omega,by omega⟩
section
variable {x y z:Int}(hx:0<=x/\x<3)(hy:0<=y/\y<3)(hz:0<=z/\z<3)
include hx hy hz
theorem zN7{p c q e f g:Int}(hp:0<=p/\p<3)(hc:0<=c/\c<2)(hq:0<=q/\q<3)(he:0<=e/\e<3)(hf:0<=f/\f<3)(hg:0<=g/\g<3):pyH [pI x y z,pI (x+1+p) y z,pI (x+c) (y+1+q) z] (pI (x+e) (y+f) (z+1+g))/\
 ∃v I,(∃p c q e f g:Nat,(p<3/\c<2/\q<3)/\(e<3/\f<3/\g<3)/\I=nrI (teI p c q e f g))/\bdV v/\aI v I (nrP (pyR [pI x y z,pI (x+1+p) y z,pI (x+c) (y+1+q) z] (pI (x+e) (y+f) (z+1+g))),nrF (pyR [pI x y z,pI (x+1+p) y z,pI (x+c) (y+1+q) z] (pI (x+e) (y+f) (z+1+g))),[]):=by
 obtain⟨p,D,rfl⟩:=nat_of (n:=3) hp;obtain⟨c,O,rfl⟩:=nat_of (n:=2) hc;obtain⟨q,C,rfl⟩:=nat_of (n:=3) hq;obtain⟨e,M,rfl⟩:=nat_of (n:=3) he;obtain⟨f,J,rfl⟩:=nat_of (n:=3) hf;obtain⟨g,H,rfl⟩:=nat_of (n:=3) hg;have hm:=zVC (x:=x) (y:=y) (z:=z) D O C M J H;have h0:=zEK D O C M J H;have U:=yHI hm h0.1.1 h0.1.2;have Z:=yFD (x:=x) (y:=y) (z:=z) D O C M J H;unfold teL teA at U Z;rw[show x+1+(p:Int)=x+(1+p) by omega,show y+1+(q:Int)=y+(1+q) by omega,show z+1+(g:Int)=z+(1+g) by omega];refine⟨Z,(x,y,z),_,⟨p,c,q,e,f,g,⟨D,O,C⟩,⟨M,J,H⟩,rfl⟩,⟨by show -1000<=x/\x<=1000;omega,by show -1000<=y/\y<=1000;omega,by show -1000<=z/\z<=1000;omega⟩,?_⟩;have e0:nrE (pyR [pI x y z,pI (x+(1+↑p)) y z,pI (x+↑c) (y+(1+↑q)) z] (pI (x+↑e) (y+↑f) (z+(1+↑g))))=[]:=by unfold nrE;split<;>rfl
 rw[e0] at U;exact U
end
def yFC(s:Sd):Prop:=∃v I,(∃p c q e f g:Nat,(p<3/\c<2/\q<3)/\(e<3/\f<3/\g<3)/\I=nrI (teI p c q e f g))/\bdV v/\aI v I s
theorem zI2{s:Sd}(h:yFC s):yF0 s:=by
 obtain⟨v,I,C,h⟩:=h;exact⟨v,I,.inr (.inr C),h⟩
def baP(L:List (List Pt)):Prop:=∃x y T,(0<=x/\x<2)/\(0<=y/\y<2)/\baF T/\L=baL x y T
def corR(x y:Int):List Int->List Pt
  |a::b::l=>T3.mk ((x+a:Int):Rat) ((y+b:Int):Rat) (0:Rat)::corR x y l
  |_=>[]
section
variable {x y:Int}(hx:0<=x/\x<2)(hy:0<=y/\y<2)
include hx hy
end
def bxC(c:SI->Bool):Bool:=(List.range 2).all λp=>(List.range 2).all λq=>(List.range 2).all λr=>c (bxJ (1+p:Nat) (1+q:Nat) (1+r:Nat))
def baC(c:SI->Bool):Bool:=baT.all λT=>c (nrI (prI T 1))&&c (nrI (prI T 2))
def trC(c:SI->Bool):Bool:=(List.range 3).all λa=>(List.range 2).all λb=>(List.range 2).all λk=>c (nrI (prI (trT a b k) 1))&&c (nrI (prI (trT a b k) 2))
def teC(c:SI->Bool):Bool:=(List.range 3).all λp=>(List.range 2).all λk=>(List.range 3).all λq=>(List.range 3).all λe=>(List.range 3).all λf=>(List.range 3).all λg=>c (nrI (teI p k q e f g))
theorem zVD{c:SI->Bool}(h:teC c=true){p k q e f g:Nat}(hp:p<3)(hk:k<2)(hq:q<3)(he:e<3)(hf:f<3)(hg:g<3):c (nrI (teI p k q e f g))=true:=
 zob.1 (zob.1 (zob.1 (zob.1 (zob.1 (zob.1 h p (zog.2 hp)) k (zog.2 hk)) q (zog.2 hq)) e (zog.2 he)) f (zog.2 hf)) g (zog.2 hg)
theorem yCR{c:SI->Bool}(hb:bxC c=true)(ha:baC c=true)(hr:trC c=true)(ht:teC c=true){I:SI}(h:yCT I):c I=true:=by
 rcases h with⟨p,q,r,⟨hp,hq,hr⟩,rfl⟩|⟨T,h,hT,hh,rfl⟩|⟨p,k,q,e,f,g,⟨hp,hk,hq⟩,⟨he,hf,hg⟩,rfl⟩
 · exact zob.1 (zob.1 (zob.1 hb p (zog.2 hp)) q (zog.2 hq)) r (zog.2 hr)
 · rcases hT with hT|⟨a,b,k,⟨ha',hb',hk⟩,rfl⟩
   · have h1:=zob.1 ha T hT
     rw[Bool.and_eq_true] at h1
     rcases hh with rfl|rfl
     · exact h1.1
     · exact h1.2
   · have h1:=zob.1 (zob.1 (zob.1 hr a (zog.2 ha')) b (zog.2 hb')) k (zog.2 hk)
     rw[Bool.and_eq_true] at h1
     rcases hh with rfl|rfl
     · exact h1.1
     · exact h1.2
 · exact zVD ht hp hk hq he hf hg
def somI(I:SI):Bool:=decide (0<I.1.length/\0<I.2.length)
section
variable {s:Sd}{p d:Pt}
end
end Bk
namespace Go.Proofs.YtpkaegemlpaenaaGreat
open Bk Go Tryz
set_option maxRecDepth 10000
set_option maxHeartbeats 1000000
attribute [local irreducible] GL GC GQ W OpV
section
variable{w0:World}{h0:Mem}(hs:MLe h0 (mem w0))
include hs
theorem zXC{k l:Nat}{vp:Value}{p:Tq}(rp:(tPt k).Is h0 vp p){vq:Value}{q:Tq}(rq:(tPt l).Is h0 vq q)(hcd0:k<=100000000)(hcd1:l<=100000000):
 Calls Tryz.prog 137 #[vp,vq] w0 (Ret w0 h0 (λ_ r=>r=vB (lsP p q))):=by
 refine cb2 22 vp vq func137 hs ?_;refine go2 ?_;refine nB rp λH ae O=>(nB rq λD ad M=>(uK ?_));refine gcL (ι:=Nat×Mem) (λ(i,ma)=>(MLe h0 ma/\(i<=3/\∀u,u<i->xS (p.at u) (q.at u)=0),[(2,vP H 0),(3,vP D 0),(5,vI ↑i)],[.var D 31 ad,.var H 31 ae],ma,3-i)) (0,h0) ?_ ?_
 · exact⟨mle,by omega,λu h=>by omega⟩
 rintro⟨i,ma⟩ ⟨ah,ak,hi2⟩
 refine xC ?_;refine gc7 (λac=>?_) λac=>?_
 ·
  refine go5 ?_;refine zJ 8 _ [] [(0,.q),(1,.q),(2,.q),(3,.q),(4,.q),(5,.q),(6,.c),(7,.q)] yA nX zor nX (λr hr=>hr) (go1 ?_);refine wC I (λ_ _=>(yG (sz:=3) i underlying31 sizeOf29 I I I oM).cv (show _=vP H ((i*3+0)) from congrArg (vP H) oM)) I (wX I (xB yD (Pc.ta pH i oM) O) λaj aa=>(go1 ?_));refine wC I (λ_ _=>(yG (sz:=3) i underlying31 sizeOf29 I I I oM).cv (show _=vP D ((i*3+0)) from congrArg (vP D) oM)) I (wX I (xB yD (Pc.ta pH i oM) M) λai Z=>?_);refine w_c I (sC (ev2 I I) call17 (λw hs=>fZ hs aa Z oM) λJ h1 am U=>?_);obtain rfl:J=vI (xS (p.at i) (q.at i)):=U;have ab:=qV (p.at i) (q.at i);refine gc9 (λC=>?_) λC=>?_
  ·
   refine pQ ?_;refine zC I I ?_;exact kD (yK4 oM hi2 C)
  refine go8 ?_;refine gqL ((i+1),h1) ?_ ?_
  · exact⟨mle,by omega,vH (Q:=λu=>xS (p.at u) (q.at u)=0) hi2 (Classical.not_not.1 C)⟩
  omega
 have ei:i=3:=by omega
 refine qI ?_;refine zC I I ?_;exact(yM (yHM λu hu=>hi2 u oM)).symm
theorem zC8{va:Value}{a:(List Int)}(ra:(rpS rpI).Is h0 va a){vb:Value}{b:(List Int)}(rb:(rpS rpI).Is h0 vb b):
 Calls Tryz.prog 139 #[va,vb] w0 (Ret w0 h0 (λ_ r=>r=vI (cH a b))):=by
 have be:=yKL ra;have bd:=yKL rb;refine cb2 48 va vb func139 hs ?_;refine qE ?_;refine gcL (ι:=Nat×Mem) (λ(i,U)=>(MLe h0 U/\((i<=a.length/\i<=b.length)/\∀u,u<i->a.getD u 0=b.getD u 0),[(0,va),(1,vb),(5,vI ↑i)],[],U,a.length-i)) (0,h0) ?_ ?_
 · exact⟨mle,by omega,λu h=>by omega⟩
 rintro⟨i,U⟩ ⟨ao,bf,hi2⟩
 refine xC ?_;refine go7 ?_;refine gU 6 15 (vB (((↑i:Int)<(↑(a).length:Int))/\((↑i:Int)<(↑(b).length:Int)))) ?_ ?_
 ·
  refine zW ((↑i:Int)<(↑(a).length:Int)) (λH=>?_) (λH=>?_)
  ·
   refine gT H I (uK ?_);refine gqU ?_;exact congrArg some (xH H)
  refine gF H I (go6 ?_);refine gqU ?_;exact congrArg some (xJ H)
 refine gc2 (λO=>?_) λO=>?_
 ·
  refine go5 ?_;refine zJ 9 _ [] [(0,.q),(1,.q),(2,.q),(3,.q),(4,.q),(5,.q),(6,.q),(7,.q),(8,.q)] yA nX zor nX (λr hr=>hr) (go2 ?_);refine wX I (xI (0:Int) i underlying22 ty3 ra) λbc ai=>(wX I (xA ty3 ai) λbb ah=>?_);obtain⟨rfl,au,an⟩:=kM ah;refine go2 ?_;refine wX I (xI (0:Int) i underlying22 ty3 rb) λba ae=>(wX I (xA ty3 ae) λaz ad=>?_);obtain⟨rfl,ar,am⟩:=kM ad;refine gc3 (λC=>?_) λC=>?_
  ·
   refine go2 ?_;refine zJ 9 _ [] [(0,.q),(1,.q),(2,.q),(3,.q),(4,.q),(5,.q),(6,.q),(7,.q),(8,.q)] yA nX zor nX (λr hr=>hr) (go2 ?_);refine wX I (xI (0:Int) i underlying22 ty3 ra) λay ac=>(wX I (xA ty3 ac) λax ab=>?_);obtain⟨rfl,aq,ak⟩:=kM ab;refine go2 ?_;refine wX I (xI (0:Int) i underlying22 ty3 rb) λaw aa=>(wX I (xA ty3 aa) λav Z=>?_);obtain⟨rfl,ap,aj⟩:=kM Z;refine gc3 (λD=>?_) λD=>?_
   ·
    refine qE ?_;refine zC I I ?_;refine congrArg vI ?_;rw[zRY hi2 oM oM C,if_pos D]
   refine pQ ?_;refine zC I I ?_;refine congrArg vI ?_;rw[zRY hi2 oM oM C,if_neg D]
  refine go8 ?_;refine gqL ((i+1),U) ?_ ?_
  · exact⟨mle,by omega,vH (Q:=λu=>a.getD u 0=b.getD u 0) hi2 (Classical.not_not.1 C)⟩
  omega
 have ei:i=min a.length b.length:=by omega
 refine oW ?_;refine cnd (λM=>?_) λM=>?_
 ·
  refine go8 ?_;refine zC I I ?_;refine congrArg vI ?_;rw[zGP hi2 ei,if_pos oM]
 refine zDN (λJ=>?_) λJ=>?_
 ·
  refine go8 ?_;refine zC I I ?_;refine congrArg vI ?_;rw[zGP hi2 ei,if_neg oM,if_pos oM]
 refine go9 ?_;refine zC I I ?_;refine congrArg vI ?_;rw[zGP hi2 ei,if_neg oM,if_neg oM]
theorem zO1{vx:Value}{x:(List Int)}(rx:(rpS rpI).Is h0 vx x)(hcd0:x.length<=100000):
 Calls Tryz.prog 138 #[vx] w0 (Ret w0 h0 (λh r=>(rpS rpI).Is h r (zS0 x))):=by
 refine cb1 29 vx func138 hs ?_;refine oW ?_;refine gcL (ι:=Nat×Mem) (λ(i,D)=>(MLe h0 D/\(i<=x.length),[(0,vx),(3,vI ↑(cQ x i)),(4,vI ↑i)],[],D,x.length-i)) (0,h0) ?_ ?_
 · exact⟨mle,oM⟩
 rintro⟨i,D⟩ ⟨am,U⟩
 refine xC ?_;have be:=U;have bd:=yDZ x i;refine gc9 (λai=>?_) λai=>?_
 ·
  refine go5 ?_;refine zJ 9 _ [] [(0,.q),(1,.q),(2,.q),(3,.q),(4,.q),(5,.q),(6,.q),(7,.q),(8,.q)] yA nX zor nX (λr hr=>hr) (go2 ?_);refine wX I (xI (0:Int) i underlying22 ty3 rx) λba ah=>(wX I (xA ty3 ah) λaz ae=>?_);obtain⟨rfl,ao,ak⟩:=kM ae;refine go2 ?_;refine wX I (xI (0:Int) (cQ x i) underlying22 ty3 rx) λay ad=>(wX I (xA ty3 ad) λax ac=>?_);obtain⟨rfl,an,aj⟩:=kM ac;refine gc3 (λC=>?_) λC=>?_
  ·
   refine qI ?_;refine gqL ((i+1),D) ?_ ?_ (he:=⟨I,congrArg (λz:Nat=>some (vI ↑z)) (mn_t C),I,trivial⟩)
   · exact⟨mle,oM⟩
   omega
  refine go8 ?_;refine gqL ((i+1),D) ?_ ?_ (he:=⟨I,congrArg (λz:Nat=>some (vI ↑z)) (mn_f C),I,trivial⟩)
  · exact⟨mle,oM⟩
  omega
 have ei:i=x.length:=by omega
 refine go6 ?_;refine zJ 9 _ [] [(0,.q),(1,.q),(2,.q),(4,.q),(5,.q),(6,.q),(3,.c),(7,.c),(8,.q)] yA nX zor nX (λr hr=>hr) (go2 ?_);refine bH (F:=λZ=>(rpS rpI).Is D Z (x.drop (cQ x i))) I (zOJ (ρ:=rpI) (cQ x i) underlying22 sizeOf3 I I rx.up oM oM) oO I ?_;intro aw ab;refine go2 ?_;refine bH (F:=λZ=>(rpS rpI).Is D Z (x.take (cQ x i))) I (zOK (ρ:=rpI) (cQ x i) underlying22 sizeOf3 I I rx.up oM oM) oO I ?_;intro au aa;refine w_c I (zER 3 1 ?_);have J:=RL.nil (ρ:=rpI) (h:=D);refine tG (A:=[]) (λX=>zV (ρ:=rpI) (bytes:=8) underlying22 gK I I I I nP I I J ab zo3 zo3) I (wH zov) ?_
 rintro av bc ⟨aq,rfl,O⟩
 refine w_c I (tG (A:=[]) (λX=>zV (ρ:=rpI) (bytes:=8) underlying22 gK I I I I nP I I O aa zo3 zo3) I (wH zov) ?_)
 rintro ar bb ⟨ap,rfl,M⟩
 refine go4 ?_;refine vZ (A:=[]) (ρ:=rpI) M ?_;intro h1 bf H;refine zC I I ?_;exact(Rp.Is.cast H (by rw[ei,List.nil_append];rfl))
theorem zJP{m n k l:Nat}{va:Value}{a:(Pq×((List (List Int))×(List Nat)))}(ra:(tFc m n).Is h0 va a){vb:Value}{b:(Pq×((List (List Int))×(List Nat)))}(rb:(tFc k l).Is h0 vb b)(hcd0:a.2.1.length<=100000)(hcd1:b.2.1.length<=100000):
 Calls Tryz.prog 91 #[va,vb] w0 (Ret w0 h0 (λ_ r=>r=vB (lsF a b))):=by
 refine cb2 53 va vb func91 hs ?_;refine go2 ?_;refine nB ra λb2 av D=>(nB rb λb3 au C=>(go7 ?_));refine lX (xB ty9 (Pc.snd (Pc.snd pH)) D) λv8 r8=>?_;obtain⟨rfl,ar⟩:=kF r8;refine go1 ?_;refine lX (xB ty9 (Pc.snd (Pc.snd pH)) C) λbj ap=>?_;obtain⟨rfl,ab⟩:=kF ap;refine gv (zWU (pa:=a.2.2) (pb:=b.2.2) ar ab I I) I (gc2 (λJ=>?_) λJ=>?_)
 ·
  refine go3 ?_;refine lX (xB ty9 (Pc.snd (Pc.snd pH)) D) λbi ao=>?_;obtain⟨rfl,aa⟩:=kF ao;refine go1 ?_;refine lX (xB ty9 (Pc.snd (Pc.snd pH)) C) λbh an=>?_;obtain⟨rfl,Z⟩:=kF an;refine gv (zWX (pa:=a.2.2) (pb:=b.2.2) aa Z I I) I (go5 ?_);refine zC I I ?_;exact kD (Iff.of_eq (if_neg J).symm)
 have M:a.2.2=b.2.2:=Classical.not_not.1 J;refine go9 ?_;refine gcL (ι:=Nat×Mem) (λ(i,ma)=>(MLe h0 ma/\((i<=a.2.1.length/\i<=b.2.1.length)/\∀u,u<i->cH (a.2.1.getD u []) (b.2.1.getD u [])=0),[(2,vP b2 0),(3,vP b3 0),(5,vI ↑i)],[.var b3 53 au,.var b2 53 av],ma,a.2.1.length-i)) (0,h0) ?_ ?_
 · exact⟨mle,by omega,λu h=>by omega⟩
 rintro⟨i,ma⟩ ⟨aw,bo,hi2⟩
 refine xC ?_;refine go5 ?_;refine lX (xB bK (Pc.snd (Pc.fst pH)) D) λbg bn=>(go2 ?_);refine gU 7 28 (vB (((↑i:Int)<(↑(a.2.1).length:Int))/\((↑i:Int)<(↑(b.2.1).length:Int)))) ?_ ?_
 ·
  refine zW ((↑i:Int)<(↑(a.2.1).length:Int)) (λO=>?_) (λO=>?_)
  ·
   refine gT O I (go5 ?_);refine lX (xB bK (Pc.snd (Pc.fst pH)) C) λbf bm=>(go6 ?_);refine gqU ?_;exact congrArg some (xH O)
  refine gF O I (go7 ?_);refine gqU ?_;exact congrArg some (xJ O)
 refine gc2 (λU=>?_) λU=>?_
 ·
  refine go5 ?_;refine zJ 12 _ [] [(0,.q),(1,.q),(2,.q),(3,.q),(4,.q),(5,.q),(6,.q),(7,.q),(8,.q),(9,.q),(10,.c),(11,.q)] yA nX (wP zor) nX (λr hr=>hr) (go1 ?_);refine wX I (xB bK (Pc.snd (Pc.fst pH)) D) λbe am=>(go1 ?_);refine wX I (xI [] i underlying51 fN am) λbd ak=>(wX I (xA fN ak) λbc aj=>(go1 ?_));refine wX I (xB bK (Pc.snd (Pc.fst pH)) C) λbb ai=>(go1 ?_);refine wX I (xI [] i underlying51 fN ai) λba ah=>(wX I (xA fN ah) λaz ae=>?_);refine w_c I (sC (ev2 I I) call139 (λw hs=>zC8 hs aj ae) λac h1 bp ad=>?_);obtain rfl:ac=vI (cH (a.2.1.getD i []) (b.2.1.getD i [])):=ad;have aq:=g5 (a.2.1.getD i []) (b.2.1.getD i []);refine gc9 (λH=>?_) λH=>?_
  ·
   refine pQ ?_;refine zC I I ?_;exact kD ((yB4 hi2 oM oM H).symm.trans (Iff.of_eq (if_pos M).symm))
  refine go8 ?_;refine gqL ((i+1),h1) ?_ ?_
  · exact⟨mle,by omega,vH (Q:=λu=>cH (a.2.1.getD u []) (b.2.1.getD u [])=0) hi2 (Classical.not_not.1 H)⟩
  omega
 have ei:i=min a.2.1.length b.2.1.length:=by omega
 refine go8 ?_;refine lX (xB bK (Pc.snd (Pc.fst pH)) D) λay bl=>(go2 ?_);refine lX (xB bK (Pc.snd (Pc.fst pH)) C) λax bk=>(go6 ?_);refine zC I I ?_;exact kD (Iff.trans oM ((zXV hi2 ei).symm.trans (Iff.of_eq (if_pos M).symm)))
theorem zTN{m n:Nat}{vs:Value}{s:Pq}(rs:(tPl m n).Is h0 vs s)(hcd0:m<=10000000)(hcd1:n<=10000000):
 Calls Tryz.prog 66 #[vs] w0 (Ret w0 h0 (λh r=>(tPl (4*m+10) (m+n+10)).Is h r (scZ s))):=by
 refine cb1 36 vs func66 hs ?_;refine go2 ?_;refine nB rs λb1 bf H=>(nA (ρ:=(tPl 1 1)) (X:=(zT,(0:Rat))) sU (yF (xW (yN dC)) (yN dC)) λb2 be aj=>(go9 ?_));refine gcL (ι:=Nat×Mem) (λ(i,ma)=>(MLe h0 ma/\(i<=3/\∀u,u<i->yV (s.1.at u)=0),[(1,vP b1 0),(2,vP b2 0),(3,vI ↑i)],[.var b2 50 be,.var b1 50 bf],ma,3-i)) (0,h0) ?_ ?_
 · exact⟨mle,by omega,λu h=>by omega⟩
 rintro⟨i,ma⟩ ⟨bh,bz,hi2⟩
 refine xC ?_;refine gc7 (λbc=>?_) λbc=>?_
 ·
  refine go8 ?_;refine gv ((yG (sz:=3) i underlying31 sizeOf29 I I I oM).cv (show _=vP b1 ((i*3+0)) from congrArg (vP b1) oM)) I (lX (xB yD (Pc.fst (Pc.ta pH i oM)) H) λbx ba=>(cL (ev1 I) call48 (λw hs=>qC hs ba oM) λak h1 cf az=>?_));obtain rfl:ak=vI (yV (s.1.at i)):=az;have bb:=xG (s.1.at i);refine gc3 (λD=>?_) λD=>?_
  ·
   refine go1 ?_;refine zJ 13 _ [(10,(4,29,[.bool false,.slice none 0 0,.slice none 0 0]))] [(1,.q),(2,.q),(3,.q),(4,.q),(0,.c),(5,.c),(6,.c),(7,.q),(8,.q),(9,.q),(10,.a),(11,.c),(12,.q)] yA (jS.cons I I (qA wB I I) jS.nil) (wP zor) (qD I I kW) (λr hr=>hr) (go2 ?_);refine wC I (λ_ _=>(yG (sz:=3) i underlying31 sizeOf29 I I I oM).cv (show _=vP b1 ((i*3+0)) from congrArg (vP b1) oM)) I (wX I (xB yD (Pc.fst (Pc.ta pH i oM)) H) λbv ax=>?_);refine w_c I (sC (vs:=[vI (1)]) ⟨I,trivial⟩ call27 (λw hs=>rU hs dC dC) λbw h2 ce ay=>?_);refine w_c I (sC (ev1 I) call103 (λw hs=>zOY hs ax.up oM) λbu h3 cd aw=>?_);refine w_c I (sC (ev2 I I) call81 (λw hs=>zOX hs ay.up aw oM) λbt h4 cc av=>?_);obtain⟨O,rfl,C⟩:=av
   change (rpQ (2+m)).Is h4 O (if(iV (s.1.at i))=0 then 0 else(((1:Int):Int):Rat)/(iV (s.1.at i))) at C
   replace C:=Rp.Is.le C (Le.q (l:=m+2) oM);refine go3 ?_;refine w_a I I (λb4=>?_);have am:(rpQ 1).R h4 [.bool false,.slice none 0 0,.slice none 0 0] (0:Rat):=(yN dC);refine w_c I ?_;have ah:=(Le.q (l:=m+2) oM).R am;refine aY (A:=[]) (uB sizeOf29 pH ah C) (wH zov) λbj M=>(go4 ?_);refine zJ 9 _ [] [(0,.q),(1,.q),(2,.q),(4,.q),(5,.q),(6,.q),(3,.c),(7,.c),(8,.q),(9,.t)] yA nX zor nX (λr hr=>hr) (wX I (xB yD pH M) λbs au=>(go1 ?_));refine wX I (xB zL (Pc.fst pH) H) λbr ar=>(wX I (xB yD pH M) λbp aq=>(go1 ?_));refine wX I (xB yD (Pc.snd pH) H) λbo ap=>?_;refine w_c I (sC (ev2 I I) call20 (λw hs=>zFI hs au ar oM) λbq h5 cb ac=>?_);replace ac:=Rp.Is.le ac (Le.t (Le.q (l:=4*m+7) oM));refine w_c I (sC (ev2 I I) call53 (λw hs=>qT hs aq.up ap.up oM) λbn h6 ca ab=>?_);replace ab:=Rp.Is.le ab (Le.q (l:=m+n+2) oM);refine wX I (xV (ρ:=(tPl (4*m+7) (m+n+2))) (wE (ps':=[(0,_),(1,_)]) underlying50 sU I I (sY underlying50) e4z I (yF (xW (yN oM)) (yN oM)) (zG I (Pc.fst (Pc.here _)) ac.up (zG I (Pc.snd (Pc.here _)) ab zR)))) λbm ao=>?_;have ae:=(Le.p (Le.t (Le.q (l:=4*m+7) oM)) (Le.q (l:=m+n+2) oM)).R aj;refine yK (A:=[_]) I (uB sizeOf50 pH ae ao) λbi ai=>(go8 ?_);refine uJ (fV (t:=2) aV mh1 I ai) ?_;intro bk ad Z;refine yW (λE S=>yE I ad E S) ?_;exact(Rp.Is.cast (Rp.Is.le Z (Le.p (Le.t (Le.q (l:=4*m+10) oM)) (Le.q (l:=m+n+10) oM))) (by exact yKI oM hi2 D))
  refine go8 ?_;refine gqL ((i+1),h1) ?_ ?_
  · exact⟨mle,by omega,vH (Q:=λu=>yV (s.1.at u)=0) hi2 (Classical.not_not.1 D)⟩
  omega
 have ei:i=3:=by omega
 refine go7 ?_;refine lX (xV (ρ:=(tPl 1 1)) (wE (ps':=[]) underlying50 sU I I (sY underlying50) trivial I (yF (xW (yN dC)) (yN dC)) zR)) λbl an=>(yI (A:=[]) (uB sizeOf50 pH aj an) λbd aa=>(go3 ?_));refine uJ (fV (t:=2) aV mh0 I aa) ?_;intro bg J U;refine yW (λE S=>yE I J E S) ?_;exact(Rp.Is.cast (Rp.Is.le U (Le.p (Le.t (Le.q (l:=4*m+10) oM)) (Le.q (l:=m+n+10) oM))) (by exact yGN λu hu=>hi2 u oM))
theorem zL8{vx:Value}{x:(List Int)}(rx:(rpS rpI).Is h0 vx x)(hcd0:x.length<=100000):
 Calls Tryz.prog 67 #[vx] w0 (Ret w0 h0 (λh r=>(rpS rpI).Is h r (zLG x x.length))):=by
 refine cb1 20 vx func67 hs ?_;refine go20 ?_;refine xM 3 1 ?_;have U:=RL.nil (ρ:=rpI) (h:=h0);refine gcL (ι:=Nat×List Int×Value×List Value×Mem) (λ(i,D,C,H,ma)=>(MLe h0 ma/\(RL rpI ma H D/\i<=x.length/\D=zLG x i),[(0,vx),(3,C),(4,vI (↑x.length-1-↑i))],[.gs 3 1 C D.length H],ma,x.length-i)) (0,[],(.slice none 0 0),[],h0) ?_ ?_ (he:=⟨I,I,congrArg (λz=>some (vI z)) oM,trivial⟩)
 · exact⟨mle,U,by omega,I⟩
 rintro⟨i,D,C,H,ma⟩ ⟨ak,J,av,hD⟩
 refine xC ?_;have aw:D.length=i:=by rw[hD];exact xK _ _
 refine gc7 (λai=>?_) λai=>?_
 ·
  refine go8 ?_;refine lX (xI (0:Int) (x.length-1-i) underlying22 ty3 rx) λaq ae=>(lX (xA ty3 ae) λap ad=>?_);obtain⟨rfl,am,aj⟩:=kM ad;refine zK (zO (ρ:=rpI) (m:=1) (xs:=[(x.getD (x.length-1-i) (0:Int))]) (ps':=[(0,_)]) underlying22 gK I I I wM e2z (zG I (Pc.arr (Pc.here _) (0:Int) 0 dC) (jA oM oM) zR) zoj nP) I I I ?_
  rintro ao au ⟨an,rfl,aa⟩
  refine yC (A:=[]) (ρ:=rpI) aa ?_;intro h1 ah O;refine xR (A:=[]) (zV (ρ:=rpI) (bytes:=8) underlying22 gK I I I I nP I I J.up O bO bO) I I I ?_
  rintro ac ar ⟨ab,rfl,Z⟩
  refine go9 ?_;refine gqL ((i+1),(D++[(x.getD (x.length-1-i) (0:Int))]),ac,ab,h1) ?_ ?_ (he:=⟨I,I,congrArg (λz=>some (vI z)) oM,trivial⟩)
  · exact⟨mle,Z,by omega,by rw[hD];rfl⟩
  omega
 have ei:i=x.length:=by omega
 refine qE ?_;refine vZ (A:=[]) (ρ:=rpI) J.up ?_;intro h1 ah M;refine zC I I ?_;exact(Rp.Is.cast M (by rw[hD,ei]))
theorem zTP{k m n j:Nat}{vs:Value}{s:Sq}(rs:(tSd k m n j).Is h0 vs s)(hcd0:k<=1000)(hcd1:okS s)(hcd2:nmA s):
 Calls Tryz.prog 89 #[vs] w0 (Ret w0 h0 (λh r=>(rpS rpI).Is h r (aH s s.1.length))):=by
 have dx:=hcd1.1.1.1;have dw:=hcd1.1.1.2;have be:=tL s;refine cb1 80 vs func89 hs ?_;refine go2 ?_;refine nB rs λb1 ba aj=>(go6 ?_);refine lX (xB uN (Pc.fst pH) aj) λdq dt=>(go1 ?_);refine zK (zH7 (ρ:=rpB) (X:=False) (by':=1) s.1.length underlying162 zYL I I I I zSA I I zo0 zo0 bO bO) I I I ?_
 rintro bs du ⟨bn,rfl,bd⟩
 refine go5 ?_;refine lX (xB gV pH aj) λdp ci=>(cL (ev1 I) call136 (λw hs=>zH4 hs ci (by first|omega|exact hcd1.mem) (by first|omega|exact hcd1.mem)) λdn h1 eb ch=>(cL (ev1 I) call135 (λw hs=>zFG hs ch (by first|omega|exactλf hf=>(by rw[be] at hf;rw[aQ hf];exact hcd1.2.1 f hf)) (by first|omega|exactλf hf=>(by rw[be] at hf;rw[aQ hf];exact hcd1.2.1 f hf))) λbr h2 ea cg=>(go6 ?_)));have ec:=yCX hcd1;have hE:∀q,q<(edZ (wR s)).length->0<=((edZ (wR s)).getD q e50).1/\((edZ (wR s)).getD q e50).1<↑s.1.length:=λq hq=>zUF hcd2 hq;refine go4 ?_;refine gcL (ι:=Nat×List Prop×Value×List Value×Mem) (λ(i,U,C,O,ma)=>(MLe h2 ma/\(RL rpB ma O U/\(i<=(edZ (wR s)).length/\U.length=s.1.length)/\∀u,u<s.1.length->(U.getD u False↔zIY (edZ (wR s)) i u)),[(1,vP b1 0),(3,C),(4,br),(5,vI ↑i)],[.gs 4 1 C U.length O,.var b1 39 ba],ma,(edZ (wR s)).length-i)) (0,(List.replicate s.1.length False),bs,bn,h2) ?_ ?_
 · exact⟨mle,bd.up,⟨by omega,List.length_replicate⟩,λu h=>by rw[zS1 h];exact⟨False.elim,λ⟨q,h,_⟩=>by omega⟩⟩
 rintro⟨i,U,C,O,ma⟩ ⟨cw,ak,⟨dy,bj⟩,bi⟩
 refine xC ?_;refine gc9 (λbh=>?_) λbh=>?_
 ·
  refine go8 ?_;refine lX (xI e50 i underlying163 z6 cg) λdm cf=>(lX (xF underlying168 sizeOf3 (Pc.fst pH) cf) λdl ce=>(lX (xA ty3 ce) λdk cd=>?_));obtain⟨rfl,cz,cq⟩:=kM cd;refine gv ((xN (((edZ (wR s)).getD i e50).1.toNat) mh0 underlying162 sizeOf4 I I (by(have:=hE i oM;omega)) (by(have:=hE i oM;omega)) nP).cv (show _=zM 1 C ((((edZ (wR s)).getD i e50).1.toNat*1+0)) from congrArg (zM 1 C) zo0)) I (fK (A:=[]) (F:=λc_=>RL rpB ma c_ (U.set (((edZ (wR s)).getD i e50).1.toNat) True)) (cS sizeOf4 (Pc.arr (Pc.here _) False (((edZ (wR s)).getD i e50).1.toNat) (by(have:=hE i oM;omega))) I nP I I ak (yK7) I) ?_);intro bk bc;refine go8 ?_;refine gqL ((i+1),(U.set (((edZ (wR s)).getD i e50).1.toNat) True),C,bk,ma) ?_ ?_
  · exact⟨mle,bc,⟨by omega,by rw[lS];exact bj⟩,zU4 bj bi (hE i oM).1 (hE i oM).2⟩
  omega
 have av:∀u,u<s.1.length->(U.getD u False↔zIY (edZ (wR s)) (edZ (wR s)).length u):=λu hu=>by rw[show(edZ (wR s)).length=i by omega];exact bi u hu
 refine oW ?_;refine xM 3 1 ?_;have bb:=RL.nil (ρ:=rpI) (h:=ma);refine gcL (ι:=Nat×List Int×Value×List Value×Mem) (λ(i,D,H,M,mb)=>(MLe ma mb/\(RL rpI mb M D/\i<=s.1.length/\D=aH s i),[(1,vP b1 0),(3,C),(6,H),(7,vI ↑i)],[.gs 3 1 H D.length M,.gs 4 1 C U.length O,.var b1 39 ba],mb,s.1.length-i)) (0,[],(.slice none 0 0),[],ma) ?_ ?_
 · exact⟨mle,bb,by omega,I⟩
 rintro⟨i,D,H,M,mb⟩ ⟨cu,J,hi2,hD⟩
 refine xC ?_;have ed:D.length<=i:=by rw[hD];exact zOU s i
 refine go5 ?_;refine lX (xB uN (Pc.fst pH) aj) λdj dr=>(gc4 (λbg=>?_) λbg=>?_)
 ·
  refine go9 ?_;refine gv ((xN i mh1 underlying162 sizeOf4 I I I bO nP).cv (show _=zM 1 C ((i*1+0)) from congrArg (zM 1 C) zo0)) I (zKE (F:=λv_=>rpB.Is mb v_ (U.getD i False)) (wZ ty4 (Pc.arr (Pc.here _) False i bO) I nP I ak.up I) (sS mh1) I ?_);intro di cc;obtain rfl:=yG9 cc;refine gc3 (λae=>?_) λae=>?_
  ·
   refine go9 ?_;refine gqL ((i+1),D,H,M,mb) ?_ ?_
   · exact⟨mle,J,by omega,by rw[hD];exact(if_neg (λe=>ae ((av i oM).2 e))).symm⟩
   omega
  refine go5 ?_;refine gv (kL mh0 underlying22 I) I (go5 ?_);refine gcL (ι:=Nat×Mem) (λ(kp,mk)=>(MLe mb mk/\(kp<=D.length/\aL (zTB s D i) D.length=aL (zTB s D i) kp),[(1,vP b1 0),(3,C),(6,H),(7,vI ↑i),(8,vI ↑kp)],[.gs 3 1 H D.length M,.gs 4 1 C U.length O,.var b1 39 ba],mk,kp)) (D.length,mb) ?_ ?_ (he:=e5z)
  · exact⟨mle,by omega,I⟩
  rintro⟨kp,mk⟩ ⟨ct,dv,ax⟩
  refine xC ?_;refine go2 ?_;refine zJ 19 _ [] [(0,.q),(1,.q),(2,.q),(3,.q),(4,.q),(5,.q),(6,.q),(7,.q),(8,.q),(9,.q),(10,.q),(11,.q),(12,.q),(13,.q),(14,.q),(15,.q),(16,.q),(17,.c),(18,.q)] yA nX (wP zor) nX (λr hr=>hr) (go3 ?_);refine jT ((0:Int)<(↑kp:Int)) (λac=>?_) (λac=>?_)
  ·
   rw[xT ac];refine go1 ?_;refine oX I (xB uN (Pc.fst pH) aj) λdh cb=>(yS I I I (λh' L' hh hR=>yY I) I (oX I (xI zT i underlying35 zL cb) λdf ca=>(oX I (xA zL ca) λde bz=>(go1 ?_))));refine oX I (xB uN (Pc.fst pH) aj) λdd bx=>(yS I I I (λh' L' hh hR=>yY I) I (yS I I I (λh' L' hh hR=>yY I) I (go1 ?_)));refine yS I I I (λh' L' hh hR=>(xN (kp-1) (hR _ mh0) underlying22 sizeOf3 I I oM oM nP).cv (show _=zM 1 H (((kp-1)*1+0)) from congrArg (zM 1 H) zo0)) I (lY (F:=λv_=>rpI.Is mk v_ (D.getD (kp-1) (0:Int))) I I I (wZ ty3 (Pc.arr (Pc.here _) (0:Int) (kp-1) oM) I nP I J.up I) (sS mh0) I ?_);intro dc bw;obtain⟨rfl,cy,cp⟩:=kM bw;refine lY (F:=λv_=>AtP (tPt k) mk v_ (s.1.getD ((D.getD (kp-1) 0).toNat) zT)) I I I (kT zT ((D.getD (kp-1) 0).toNat) underlying35 zL I I bx (by(have:=oH (s:=s) (i:=i) (k:=kp-1) (by rw[<-hD];omega);rw[<-hD] at this;omega)) (by(have:=oH (s:=s) (i:=i) (k:=kp-1) (by rw[<-hD];omega);rw[<-hD] at this;omega)) nP) oO I ?_;intro db bv;refine oX I (xA zL bv) λda bu=>?_;refine w_c I (zBX I I (sC (ev2 I I) call137 (λw hs=>zXC hs bz bu oM oM) λbq h3 bf bt=>?_));obtain rfl:bq=vB (lsP (s.1.getD i zT) (s.1.getD ((D.getD (kp-1) 0).toNat) zT)):=bt;refine gc3 (λad=>?_) λad=>?_
   ·
    refine go9 ?_;refine gqL ((kp-1),h3) ?_ ?_ (he:=⟨I,I,I,I,congrArg (λz=>some (vI z)) oM,trivial⟩)
    · exact⟨mle,by omega,by rw[ax];exact zP3 oM ad⟩
    omega
   refine go8 ?_;refine zK (zO (ρ:=rpI) (m:=1) (xs:=[(0:Int)]) (ps':=[(0,_)]) underlying22 gK I I I wM e2z (zG I (Pc.arr (Pc.here _) (0:Int) 0 dC) (jA dC dC) zR) zoj nP) I I I ?_
   rintro bp cl ⟨bm,rfl,ai⟩
   refine yC (A:=[]) (ρ:=rpI) ai ?_;intro h4 dz ao;refine xR (A:=[]) (zV (ρ:=rpI) (bytes:=8) underlying22 gK I I I I nP I I J.up ao bO bO) I I I ?_
   rintro Z ck ⟨bl,rfl,ah⟩
   refine go4 ?_;refine lK (A:=[]) (by rw[lAz];exact Nat.succ_pos _) (λob co aa ab=>?_);refine qO (A:=[]) 8 [] [(0,.q),(1,.q),(2,.q),(3,.q),(4,.q),(5,.q),(6,.q),(7,.c)] yA nX zor nX (go3 ?_);refine wC I (λ_ _=>jC (kp+1) underlying22 sizeOf3 I I ⟨_,_,aa,ab⟩ oM zox) I (go2 ?_);refine wC I (λ_ _=>jC kp underlying22 sizeOf3 I I ⟨_,_,aa,ab⟩ oM zox) I ?_;refine w_c I (tG (A:=[]) (λX=>mE (ρ:=rpI) kp aa ab underlying22 sizeOf3 I I zox ah) I (wH zov) ?_)
   rintro bo cj ⟨cn,rfl,au⟩
   refine go6 ?_;refine gv ((xN kp mh0 underlying22 sizeOf3 I I oM (by rw[fC zox];simp only[lAz,lC,lN];omega) nP).cv (show _=zM 1 Z ((kp*1+0)) from congrArg (zM 1 Z) zo0)) I (fK (A:=[]) (F:=λc_=>RL rpI h4 c_ ((tU (D++[(0:Int)]) kp).set kp (↑i:Int))) (cS sizeOf3 (Pc.arr (Pc.here _) (0:Int) kp (by rw[fC zox];simp only[lAz,lC,lN];omega)) I nP I I au (jA oM oM) I) ?_);intro az ar;refine go8 ?_;refine gqL ((i+1),((tU (D++[(0:Int)]) kp).set kp (↑i:Int)),Z,az,h4) ?_ ?_
   · exact⟨mle,ar,by omega,by rw[mB oM];have aw:aL (zTB s D i) D.length=kp:=by{rw[ax];exact zGS (λe=>by first|omega|exact ad e.2)};rw[<-aw,hD];exact(if_pos ((av i oM).1 (Classical.not_not.1 ae))).symm⟩
   omega
  rw[yM ac];refine sG ?_;refine w_c I (mD I I I I (qE ?_));refine zK (zO (ρ:=rpI) (m:=1) (xs:=[(0:Int)]) (ps':=[(0,_)]) underlying22 gK I I I wM e2z (zG I (Pc.arr (Pc.here _) (0:Int) 0 dC) (jA dC dC) zR) zoj nP) I I I ?_
  rintro bp cl ⟨bm,rfl,ai⟩
  refine yC (A:=[]) (ρ:=rpI) ai ?_;intro h3 bf an;refine xR (A:=[]) (zV (ρ:=rpI) (bytes:=8) underlying22 gK I I I I nP I I J.up an bO bO) I I I ?_
  rintro Z ck ⟨bl,rfl,ah⟩
  refine go4 ?_;refine lK (A:=[]) (by rw[lAz];exact Nat.succ_pos _) (λob co aa ab=>?_);refine qO (A:=[]) 8 [] [(0,.q),(1,.q),(2,.q),(3,.q),(4,.q),(5,.q),(6,.q),(7,.c)] yA nX zor nX (go3 ?_);refine wC I (λ_ _=>jC (kp+1) underlying22 sizeOf3 I I ⟨_,_,aa,ab⟩ oM zox) I (go2 ?_);refine wC I (λ_ _=>jC kp underlying22 sizeOf3 I I ⟨_,_,aa,ab⟩ oM zox) I ?_;refine w_c I (tG (A:=[]) (λX=>mE (ρ:=rpI) kp aa ab underlying22 sizeOf3 I I zox ah) I (wH zov) ?_)
  rintro bo cj ⟨cm,rfl,aq⟩
  refine go6 ?_;refine gv ((xN kp mh0 underlying22 sizeOf3 I I oM (by rw[fC zox];simp only[lAz,lC,lN];omega) nP).cv (show _=zM 1 Z ((kp*1+0)) from congrArg (zM 1 Z) zo0)) I (fK (A:=[]) (F:=λc_=>RL rpI h3 c_ ((tU (D++[(0:Int)]) kp).set kp (↑i:Int))) (cS sizeOf3 (Pc.arr (Pc.here _) (0:Int) kp (by rw[fC zox];simp only[lAz,lC,lN];omega)) I nP I I aq (jA oM oM) I) ?_);intro ay ap;refine go8 ?_;refine gqL ((i+1),((tU (D++[(0:Int)]) kp).set kp (↑i:Int)),Z,ay,h3) ?_ ?_
  · exact⟨mle,ap,by omega,by rw[mB oM];have aw:aL (zTB s D i) D.length=kp:=by{rw[ax];exact zGS (λe=>by first|omega|exact ad e.2)};rw[<-aw,hD];exact(if_pos ((av i oM).1 (Classical.not_not.1 ae))).symm⟩
  omega
 have ei:i=s.1.length:=by omega
 refine qE ?_;refine vZ (A:=[]) (ρ:=rpI) J.up ?_;intro h3 bf am;refine zC I I ?_;exact(Rp.Is.cast am (by rw[hD,ei]))
theorem zFK{k m n j:Nat}{vs:Value}{s:Sq}(rs:(tSd k m n j).Is h0 vs s){f:Nat}{vix:Value}{ix:(List Int)}(rix:(rpS rpI).Is h0 vix ix)(hcd0:k<=1000)(hcd1:m<=100000)(hcd2:n<=100000)(hcd3:okS s)(hcd4:f<s.2.1.length)(hcd5:nmP s f)(hcd6:ix.length=s.1.length):
 Calls Tryz.prog 90 #[vs,vI ↑f,vix] w0 (Ret w0 h0 (λh r=>(tFc (4*m+11) (m+n+11)).Is h r (nfF s ix f))):=by
 have ij:=hcd3.1.1.1;have ii:=hcd3.1.1.2;have es:=zA9 s f;have iq:=yIF hcd4 hcd5;have ci:=hcd3.2.1 f hcd4;have ev:=mR (s:=s) (f:=↑f) hcd3.2.1;refine cb3 121 vs (vI ↑f) vix func90 hs ?_;refine go2 ?_;refine nB rs λb3 ar aj=>(nA (ρ:=(tFc 1 1)) (X:=((zT,(0:Rat)),([],([]:List Nat)))) jU (yF (yF (xW (yN dC)) (yN dC)) (yF vC gY)) λb6 aq db=>(go4 ?_));refine lX (xB gV pH aj) λhv en=>(go1 ?_);refine cL (ev2 I I) call111 (λw hs=>zMA (f:=f) hs en oM oM oM (by first|omega|exact hcd3.big) (by first|omega|exact hcd3.big) (by first|omega|exact hcd3.big) (by first|omega|exact hcd3.big)) λan h1 ip em=>(go4 ?_);refine zJ 15 _ [(14,(8,53,[.bool false,.slice none 0 0,.slice none 0 0,.bool false,.slice none 0 0,.slice none 0 0,.bool false,.slice none 0 0,.slice none 0 0,.bool false,.slice none 0 0,.slice none 0 0,.slice none 0 0,.string ⟨#[]⟩]))] [(0,.q),(1,.q),(2,.q),(3,.q),(4,.q),(5,.q),(7,.q),(8,.q),(9,.q),(10,.q),(11,.q),(12,.q),(6,.c),(13,.q),(14,.a),(15,.t)] yA (jS.cons I I (qA jU I I) jS.nil) (wP zor) (qD I I kW) (λr hr=>hr) (go1 ?_);refine wX I (xB fQ (Pc.snd (Pc.fst pH)) aj) λhu el=>(go1 ?_);refine wX I (xI zA f underlying36 bJ el) λhq ek=>(wX I (xF underlying53 sizeOf50 (Pc.fst pH) ek) λhp ej=>(wX I (xA aV ej) λho eh=>(go1 ?_)));refine wX I (xB fQ (Pc.snd (Pc.fst pH)) aj) λhm ef=>(go1 ?_);refine wX I (xI zA f underlying36 bJ ef) λhl ee=>(wX I (xF underlying53 sizeOf9 (Pc.snd (Pc.snd pH)) ee) λhj ed=>(wX I (xA ty9 ed) λhb ec=>?_));obtain⟨rfl,co⟩:=kF ec;refine w_c I (sC (ev1 I) call66 (λw hs=>zTN hs eh oM oM) λhn h2 io eg=>(wX I (xV (ρ:=(rpP (tPl (4*m+10) (m+n+10)) (rpP rpV kR))) (wE (ps':=[(0,_),(2,_)]) underlying53 jU I I (bQ underlying53) e4z I (yF (yF (xW (yN oM)) (yN oM)) (yF rO gY)) (zG I (Pc.fst (Pc.here _)) eg (zG I (Pc.snd (Pc.snd (Pc.here _))) (cZ co) zR)))) λha eb=>?_));refine w_a I I (λb8=>?_);have da:(rpP (tPl 1 1) (rpP rpV kR)).R h2 [.bool false,.slice none 0 0,.slice none 0 0,.bool false,.slice none 0 0,.slice none 0 0,.bool false,.slice none 0 0,.slice none 0 0,.bool false,.slice none 0 0,.slice none 0 0,.slice none 0 0,.string ⟨#[]⟩] ((zT,(0:Rat)),((Value.slice none 0 0),([]:List Nat))):=(yF (yF (xW (yN dC)) (yN dC)) (yF rO gY));have bw:=(Le.p (Le.p (Le.t (Le.q (l:=4*m+10) oM)) (Le.q (l:=m+n+10) oM)) (Le.refl _)).R da;refine yK (A:=[]) I (uB sizeOf53 pH bw eb) λcp ce=>(sG ?_);refine xM 22 1 ?_;have bz:=RL.nil (ρ:=rpS rpI) (h:=h2);refine xM 22 1 ?_;have bx:=RL.nil (ρ:=rpS rpI) (h:=h2);refine gcL (ι:=Nat×List (List Int)×List (List Int)×List Value×Value×List Value×Value×List Value×Mem) (λ(i,D,G,O,C,M,H,J,ma)=>(MLe h2 ma/\((rpP (tPl (4*m+11) (m+n+11)) (rpP rpV kR)).R ma O (scZ (s.2.1.getD f zA).1,(H,(s.2.1.getD f zA).2.2))/\RL (rpS rpI) ma M D/\RL (rpS rpI) ma J G/\H.oneCell'=true/\i<=(s.2.1.getD f zA).2.1.length/\D=j9 s ix f i/\G=ouL s ix f i),[(1,vI ↑f),(2,vix),(3,vP b3 0),(6,vP b6 0),(7,an),(8,vP b8 0),(9,C),(10,vI ↑i)],[.gs 22 1 H G.length J,.gs 22 1 C D.length M,.var b8 53 O,.var b6 53 aq,.var b3 39 ar],ma,(s.2.1.getD f zA).2.1.length-i)) (0,[],[],cp,(.slice none 0 0),[],(.slice none 0 0),[],h2) ?_ ?_
 · exact⟨mle,((Le.p (Le.p (Le.t (Le.q (l:=4*m+11) oM)) (Le.q (l:=m+n+11) oM)) (Le.refl _)).R ce),bz,bx,I,by omega,I,I⟩
 rintro⟨i,D,G,O,C,M,H,J,ma⟩ ⟨fs,aa,Z,ac,bo,ik,hD,hG⟩
 refine xC ?_;have iv:D.length<=i:=by rw[hD];exact zPU s ix f i
 have ir:G.length<=i:=by rw[hG];exact pT _ _ i
 refine gc9 (λcn=>?_) λcn=>?_
 ·
  refine k7 ?_;refine xM 3 1 ?_;have bf:=RL.nil (ρ:=rpI) (h:=ma);refine gcL (ι:=Nat×List Int×Value×List Value×Mem) (λ(q,EL,U,ae,mb)=>(MLe ma mb/\(RL rpI mb ae EL/\q<=((s.2.1.getD f zA).2.1.getD i []).length/\EL=nwL s ix f i q),[(1,vI ↑f),(2,vix),(3,vP b3 0),(6,vP b6 0),(7,an),(8,vP b8 0),(9,C),(10,vI ↑i),(11,U),(12,vI ↑q)],[.gs 3 1 U EL.length ae,.gs 22 1 H G.length J,.gs 22 1 C D.length M,.var b8 53 O,.var b6 53 aq,.var b3 39 ar],mb,((s.2.1.getD f zA).2.1.getD i []).length-q)) (0,[],(.slice none 0 0),[],ma) ?_ ?_
  · exact⟨mle,bf,by omega,I⟩
  rintro⟨q,EL,U,ae,mb⟩ ⟨fr,ai,ig,hE⟩
  refine xC ?_;have iu:EL.length=q:=by rw[hE];exact xK _ _
  have ch:=ci.2 i oM;refine go5 ?_;refine lX (xB fQ (Pc.snd (Pc.fst pH)) aj) λgz ea=>(go1 ?_);refine lX (xI zA f underlying36 bJ ea) λgy dz=>(lX (xF underlying53 sizeOf51 (Pc.snd (Pc.fst pH)) dz) λgx dy=>(lX (xA bK dy) λgw dx=>(go1 ?_)));refine lX (xI [] i underlying51 fN dx) λgu dw=>(lX (xA fN dw) λgt ia=>(gc4 (λcm=>?_) λcm=>?_))
  ·
   refine go8 ?_;refine lX (xB fQ (Pc.snd (Pc.fst pH)) aj) λgr dv=>(go1 ?_);refine lX (xI zA f underlying36 bJ dv) λgq du=>(lX (xF underlying53 sizeOf51 (Pc.snd (Pc.fst pH)) du) λgo dt=>(lX (xA bK dt) λgn dr=>(go1 ?_)));refine lX (xI [] i underlying51 fN dr) λgm dq=>(lX (xA fN dq) λgk dp=>(go1 ?_));refine lX (xI (0:Int) q underlying22 ty3 dp) λgj dn=>(lX (xA ty3 dn) λgh dm=>?_);obtain⟨rfl,fu,fo⟩:=kM dm;refine zKE (F:=λv_=>AtP rpI mb v_ (ix.getD ((((s.2.1.getD f zA).2.1.getD i []).getD q 0).toNat) (0:Int))) (kT (0:Int) ((((s.2.1.getD f zA).2.1.getD i []).getD q 0).toNat) underlying22 ty3 I I rix.up (by(have:=hcd5 i oM q oM;omega)) (by(have:=hcd5 i oM q oM;omega)) nP) oO I ?_;intro gg dl;refine lX (xA ty3 dl) λgf dk=>?_;obtain⟨rfl,ft,fm⟩:=kM dk;refine zK (zO (ρ:=rpI) (m:=1) (xs:=[(ix.getD ((((s.2.1.getD f zA).2.1.getD i []).getD q 0).toNat) (0:Int))]) (ps':=[(0,_)]) underlying22 gK I I I wM e2z (zG I (Pc.arr (Pc.here _) (0:Int) 0 dC) (jA oM oM) zR) zoj nP) I I I ?_
   rintro ge ie ⟨fw,rfl,cd⟩
   refine yC (A:=[]) (ρ:=rpI) cd ?_;intro h3 cl bb;refine xR (A:=[]) (uS (zV (ρ:=rpI) (bytes:=8) underlying22 gK I I I I nP I I ai.up bb bO bO)) I I I ?_
   rintro cz id ⟨fp,ct,rfl,cc⟩
   refine go9 ?_;refine gqL ((q+1),(EL++[(ix.getD ((((s.2.1.getD f zA).2.1.getD i []).getD q 0).toNat) (0:Int))]),cz,ct,h3) ?_ ?_
   · exact⟨mle,cc,by omega,by rw[hE];rfl⟩
   omega
  have eq:q=((s.2.1.getD f zA).2.1.getD i []).length:=by omega
  have ch:=ci.2 i oM;refine go8 ?_;refine yC (A:=[]) (ρ:=rpI) ai.up ?_;intro h3 cl ba;refine cL (ev1 I) call138 (λw hs=>zO1 hs ba oM) λbv h4 ck ak=>?_;replace ak:=Rp.Is.cast (y:=(nfL s ix f i)) ak (by rw[hE,eq];rfl);refine go8 ?_;refine lX (xI [] i underlying76 uN em) λgc dj=>(lX (xA uN dj) λgb di=>(cL (ev1 I) call131 (λw hs=>pM hs di oM (by first|omega|(have:=ev.2 i;rw[<-es.2 i] at this;omega))) λga h5 im dh=>(cL (ev1 I) call48 (λw hs=>qC hs dh dC) λcy h6 il df=>?_)));obtain rfl:cy=vI (yV (uP ((gC s f).getD i []) 0 1 ((gC s f).getD i []).length)):=df;have eo:=xG (uP ((gC s f).getD i []) 0 1 ((gC s f).getD i []).length);refine gc3 (λab=>?_) λab=>?_
  ·
   refine go3 ?_;refine lX (aA (xB bK (Pc.snd (Pc.fst pH)) aa)) λfz de=>?_;subst de;refine go1 ?_;refine zK (zO (ρ:=(rpS rpI)) (m:=1) (xs:=[(nfL s ix f i)]) (ps':=[(0,_)]) underlying51 jF I I I vC e2z (zG I (Pc.arr (Pc.here _) [] 0 dC) ak.up zR) zoj nP) I I I ?_
   rintro fy ic ⟨fv,rfl,cb⟩
   refine yC (A:=[]) (ρ:=(rpS rpI)) cb ?_;intro h7 bq az;refine xR (A:=[]) (uS (zV (ρ:=(rpS rpI)) (bytes:=24) underlying51 jF I I I I nP I I ac.up az bO bO)) I I I ?_
   rintro cw ib ⟨au,cq,rfl,ca⟩
   refine go1 ?_;refine yI (A:=[_,_]) (uB sizeOf51 (Pc.snd (Pc.fst pH)) aa (j8 au)) λbt bl=>(qI ?_);refine gqL ((i+1),D,(G++[(nfL s ix f i)]),bt,C,M,cw,cq,h7) ?_ ?_
   · exact⟨mle,bl,Z.up,ca,au,by omega,by rw[hD];exact(if_pos ab).symm,by rw[hG];exact zAE (p:=zDJ s f) ab⟩
   omega
  refine go5 ?_;refine gv (kL mh1 underlying51 I) I (go5 ?_);refine gcL (ι:=Nat×Mem) (λ(kp,mk)=>(MLe h6 mk/\(kp<=D.length/\aL (zYO (nfL s ix f i) D) D.length=aL (zYO (nfL s ix f i) D) kp),[(1,vI ↑f),(2,vix),(3,vP b3 0),(6,vP b6 0),(7,an),(8,vP b8 0),(9,C),(10,vI ↑i),(11,bv),(13,vI ↑kp)],[.gs 22 1 H G.length J,.gs 22 1 C D.length M,.var b8 53 O,.var b6 53 aq,.var b3 39 ar],mk,kp)) (D.length,h6) ?_ ?_
  · exact⟨mle,by omega,I⟩
  rintro⟨kp,mk⟩ ⟨fq,ih,cj⟩
  refine xC ?_;refine go5 ?_;refine uY (ι:=Mem) 10 (λm_=>MLe mk m_) (λ_=>[(97,vB (((0:Int)<(↑kp:Int))/\((cH (nfL s ix f i) (D.getD (kp-1) []))<(0:Int)))),(1,vI ↑f),(2,vix),(3,vP b3 0),(6,vP b6 0),(7,an),(8,vP b8 0),(9,C),(10,vI ↑i),(11,bv),(13,vI ↑kp)]) (λ_=>[.gs 22 1 H G.length J,.gs 22 1 C D.length M,.var b8 53 O,.var b6 53 aq,.var b3 39 ar]) (λm_=>m_) ?_ ?_
  ·
   refine zW ((0:Int)<(↑kp:Int)) (λhg=>?_) (λhg=>?_)
   ·
    refine gT hg I (go9 ?_);refine gv ((xN (kp-1) mh1 underlying51 sizeOf22 I I oM oM nP).cv (show _=zM 1 C (((kp-1)*1+0)) from congrArg (zM 1 C) zo0)) I (go1 ?_);refine zKE (F:=λv_=>(rpS rpI).Is mk v_ (D.getD (kp-1) [])) (wZ fN (Pc.arr (Pc.here _) [] (kp-1) oM) I nP I Z.up I) (sS mh1) I ?_;intro fx dd;refine go1 ?_;refine cL (ev2 I I) call139 (λw hs=>zC8 hs ak.up dd) λcu h7 bq dc=>?_;obtain rfl:cu=vI (cH (nfL s ix f i) (D.getD (kp-1) [])):=dc;have eu:=g5 (nfL s ix f i) (D.getD (kp-1) []);refine go4 ?_;refine zS h7 bq ⟨?_,I,I,I,I,I,I,I,I,I,I,trivial⟩ I I;exact congrArg some (xH hg)
   refine gF hg I (uK ?_);refine zS mk (MLe.refl _) ⟨?_,I,I,I,I,I,I,I,I,I,I,trivial⟩ I I;exact congrArg some (xJ hg)
  intro ao bu;refine tZ ?_;refine gc2 (λam=>?_) λam=>?_
  ·
   refine go9 ?_;refine gqL ((kp-1),ao) ?_ ?_ (he:=⟨I,I,I,I,I,I,I,I,I,congrArg (λz=>some (vI z)) oM,trivial⟩)
   · exact⟨mle,by omega,by rw[cj];exact zP3 oM am.2⟩
   omega
  refine go8 ?_;refine zK (zO (ρ:=(rpS rpI)) (m:=1) (xs:=[[]]) (ps':=[(0,_)]) underlying51 jF I I I vC e2z (zG I (Pc.arr (Pc.here _) [] 0 dC) (oU _) zR) zoj nP) I I I ?_
  rintro fh fl ⟨fb,rfl,bi⟩
  refine yC (A:=[]) (ρ:=(rpS rpI)) bi ?_;intro h7 bq ay;refine xR (A:=[_]) (uS (zV (ρ:=(rpS rpI)) (bytes:=24) underlying51 jF I I I I nP I I Z.up ay bO bO)) I I I ?_
  rintro ah fk ⟨ep,fa,rfl,bh⟩
  refine go4 ?_;refine lK (A:=[_]) (by rw[lAz];exact Nat.succ_pos _) (λob iw bm bn=>?_);refine qO (A:=[_]) 8 [] [(0,.q),(1,.q),(2,.q),(3,.q),(4,.q),(5,.q),(6,.q),(7,.c)] yA nX zor nX (go3 ?_);refine wC I (λ_ _=>jC (kp+1) underlying51 sizeOf22 I I ⟨_,_,bm,bn⟩ oM zox) I (go2 ?_);refine wC I (λ_ _=>jC kp underlying51 sizeOf22 I I ⟨_,_,bm,bn⟩ oM zox) I ?_;refine w_c I (tG (A:=[_]) (λX=>mE (ρ:=(rpS rpI)) kp bm bn underlying51 sizeOf22 I I zox bh) I (wH zov) ?_)
  rintro fg fj ⟨ey,rfl,be⟩
  refine go6 ?_;refine gv ((xN kp mh1 underlying51 sizeOf22 I I oM (by rw[fC zox];simp only[lAz,lC,lN];omega) nP).cv (show _=zM 1 ah ((kp*1+0)) from congrArg (zM 1 ah) zo0)) I (fK (A:=[_]) (F:=λc_=>RL (rpS rpI) h7 c_ ((tU (D++[[]]) kp).set kp (nfL s ix f i))) (cS sizeOf22 (Pc.arr (Pc.here _) [] kp (by rw[fC zox];simp only[lAz,lC,lN];omega)) I nP I I be ak.up I) ?_);intro bs bd;refine go8 ?_;refine gqL ((i+1),((tU (D++[[]]) kp).set kp (nfL s ix f i)),G,O,ah,bs,H,J,h7) ?_ ?_
  · exact⟨mle,aa.up,bd,ac.up,bo,by omega,by rw[mB oM];have er:aL (zYO (nfL s ix f i) D) D.length=kp:=by{rw[cj];exact zGS (λe=>am ⟨by omega,e.2⟩)};rw[<-er,hD];exact(if_neg ab).symm,by rw[hG];exact zAF (p:=zDJ s f) ab⟩
  omega
 have ei:i=(s.2.1.getD f zA).2.1.length:=by omega
 refine go8 ?_;refine lX (aA (xB bK (Pc.snd (Pc.fst pH)) aa)) λff cg=>?_;subst cg;refine go1 ?_;refine yC (A:=[_]) (ρ:=(rpS rpI)) Z.up ?_;intro h3 cl ax;refine xR (A:=[]) (uS (zV (ρ:=(rpS rpI)) (bytes:=24) underlying51 jF I I I I nP I I ac.up ax bO bO)) I I I ?_
 rintro fe fi ⟨bp,ez,rfl,bg⟩
 refine go1 ?_;refine yI (A:=[_]) (uB sizeOf51 (Pc.snd (Pc.fst pH)) aa (j8 bp)) λbr ad=>(go4 ?_);refine yC (A:=[]) (ρ:=(rpS rpI)) bg ?_;intro h4 ck aw;replace ad:=ad.mono ck;have bk:(tFc (4*m+11) (m+n+11)).R h4 br ((scZ (s.2.1.getD f zA).1,(H,(s.2.1.getD f zA).2.2)).1,((G++D),((scZ (s.2.1.getD f zA).1,(H,(s.2.1.getD f zA).2.2)).2).2)):=zK0 ad aw;refine lX (xB bJ pH bk) λfd cf=>?_;have av:=(Le.p (Le.p (Le.t (Le.q (l:=4*m+11) oM)) (Le.q (l:=m+n+11) oM)) (Le.refl _)).R db;refine yI (A:=[_]) (uB sizeOf53 pH av cf) λew bj=>(go3 ?_);refine uJ (fV (t:=6) bJ mh1 I bj) ?_;intro fc ap bc;refine yW (λE S=>yE I ap E S) ?_;exact(Rp.Is.cast bc (by rw[hD,hG,ei];rfl))
theorem zTM{k m n j:Nat}{vs:Value}{s:Sq}(rs:(tSd k m n j).Is h0 vs s)(hcd0:s.2.1.length<=100000):
 Calls Tryz.prog 141 #[vs] w0 (Ret w0 h0 (λh r=>(rpS tE5).Is h r (szZ s))):=by
 refine cb1 52 vs func141 hs ?_;refine go2 ?_;refine nB rs λb1 av O=>(pP ?_);refine xM 200 5 ?_;have aj:=RL.nil (ρ:=rpP rpI (rpP rpI (rpP rpI (rpP rpI rpI)))) (h:=h0);refine gcL (ι:=Nat×List (Int×Int×Int×Int×Int)×Value×List Value×Mem) (λ(f,D,H,J,mf)=>(MLe h0 mf/\(RL tE5 mf J D/\f<=s.2.1.length/\D=yFX s f),[(1,vP b1 0),(3,H),(4,vI ↑f)],[.gs 200 5 H D.length J,.var b1 39 av],mf,s.2.1.length-f)) (0,[],(.slice none 0 0),[],h0) ?_ ?_
 · exact⟨mle,aj,by omega,I⟩
 rintro⟨f,D,H,J,mf⟩ ⟨bk,M,cj,hD⟩
 refine xC ?_;have ck:D.length<=f:=by rw[hD];exact pT _ _ f
 refine go5 ?_;refine lX (xB fQ (Pc.snd (Pc.fst pH)) O) λv7 r7=>(gc4 (λbj=>?_) λbj=>?_)
 ·
  refine go7 ?_;refine lX (xB fQ (Pc.snd (Pc.fst pH)) O) λcb bh=>(go1 ?_);refine lX (xI zA f underlying36 bJ bh) λca bg=>(lX (xF underlying53 sizeOf51 (Pc.snd (Pc.fst pH)) bg) λbz bf=>(lX (xA bK bf) λbx be=>(cL (ev1 I) call178 (λw hs=>iK hs be) λay h1 aq bd=>?_)));obtain rfl:ay=vB (vfP (((s.2.1.getD f zA).2).1)):=bd;refine go1 ?_;refine uY (ι:=Mem) 6 (λm_=>MLe h1 m_) (λ_=>[(25,vB ((¬(vfP (((s.2.1.getD f zA).2).1)))\/(¬(nmP s (↑f:Int).toNat)))),(1,vP b1 0),(3,H),(4,vI ↑f)]) (λ_=>[.gs 200 5 H D.length J,.var b1 39 av]) (λm_=>m_) ?_ ?_
  ·
   refine zW (¬(vfP (((s.2.1.getD f zA).2).1))) (λC=>?_) (λC=>?_)
   ·
    refine gT C I (go6 ?_);refine zS h1 (MLe.refl _) ⟨?_,I,I,I,trivial⟩ I I;exact congrArg some (vS C)
   refine gF C I (go1 ?_);refine lX (xB gV pH O) λbw bc=>(go3 ?_);refine cL (ev2 I I) call158 (λw hs=>zH3 hs bc oM oM oM (by first|omega|exact Nat.le_trans (Classical.not_not.1 C).1.2 dC|exactλl hl=>Nat.le_trans ((Classical.not_not.1 C).2 l hl).1.2 dC) (by first|omega|exact Nat.le_trans (Classical.not_not.1 C).1.2 dC|exactλl hl=>Nat.le_trans ((Classical.not_not.1 C).2 l hl).1.2 dC) (by first|omega|exact Nat.le_trans (Classical.not_not.1 C).1.2 dC|exactλl hl=>Nat.le_trans ((Classical.not_not.1 C).2 l hl).1.2 dC)) λax h2 ab bb=>?_;obtain rfl:ax=vB (nmP s (↑f:Int).toNat):=bb;refine go4 ?_;refine zS h2 ab ⟨?_,I,I,I,trivial⟩ I I;exact congrArg some (vT C)
  intro Z ap;refine tZ ?_;refine gc2 (λU=>?_) λU=>?_
  ·
   have aa:szP s f:=U;refine go3 ?_;refine cL (vs:=[vI (1),_,vI (-1),vI (-1)]) e4z call179 (λw hs=>j0 hs dC dC oM oM dC dC dC dC) λbv h2 ab ba=>(zK (zO (ρ:=tE5) (m:=1) (xs:=[dg (1:Int) (↑f:Int) (-1:Int) (-1:Int)]) (ps':=[(0,_)]) underlying133 jL I I I (yF wM (yF wM (yF wM (yF wM wM)))) e2z (zG I (Pc.arr (Pc.here _) e50 0 dC) ba zR) zoi nP) I I I ?_)
   rintro bu ci ⟨bn,rfl,ao⟩
   refine yC (A:=[]) (ρ:=tE5) ao ?_;intro h3 bi ai;refine xR (A:=[]) (zV (ρ:=tE5) (bytes:=40) underlying133 jL I I I I nP I I M.up ai bO bO) I I I ?_
   rintro aw ch ⟨au,rfl,an⟩
   refine go9 ?_;refine gqL ((f+1),(D++[dg (1:Int) (↑f:Int) (-1:Int) (-1:Int)]),aw,au,h3) ?_ ?_
   · exact⟨mle,an,by omega,by rw[hD];exact zAE aa⟩
   omega
  have aa:¬szP s f:=U;refine go8 ?_;refine gqL ((f+1),D,H,J,Z) ?_ ?_
  · exact⟨mle,M.up,by omega,by rw[hD];exact zAF aa⟩
  omega
 have ef:f=s.2.1.length:=by omega
 refine go9 ?_;refine lX (xB uN (Pc.fst pH) O) λbt ce=>(go2 ?_);refine gU 6 40 (vB (((512:Int)<(↑(s.1).length:Int))\/((256:Int)<(↑(s.2.1).length:Int)))) ?_ ?_
 ·
  refine zW ((512:Int)<(↑(s.1).length:Int)) (λC=>?_) (λC=>?_)
  ·
   refine gT C I (go6 ?_);refine gqU ?_;exact congrArg some (vS C)
  refine gF C I (go3 ?_);refine lX (xB fQ (Pc.snd (Pc.fst pH)) O) λbs cd=>(go6 ?_);refine gqU ?_;exact congrArg some (vT C)
 refine gU 6 46 (vB ((((512:Int)<(↑(s.1).length:Int))\/((256:Int)<(↑(s.2.1).length:Int)))\/((1024:Int)<(↑(s.2.2).length:Int)))) ?_ ?_
 ·
  refine zW (((512:Int)<(↑(s.1).length:Int))\/((256:Int)<(↑(s.2.1).length:Int))) (λC=>?_) (λC=>?_)
  ·
   refine gT C I (go6 ?_);refine gqU ?_;exact congrArg some (vS C)
  refine gF C I (go3 ?_);refine lX (xB yJZ (Pc.snd (Pc.snd pH)) O) λbr cc=>(go6 ?_);refine gqU ?_;exact congrArg some (vT C)
 refine gc2 (λar=>?_) λar=>?_
 ·
  have ac:zNM s:=by unfold zNM;omega
  refine go2 ?_;refine cL (vs:=[vI (2),vI (-1),vI (-1),vI (-1)]) e4z call179 (λw hs=>j0 hs dC dC dC dC dC dC dC dC) λbq h1 aq az=>(zK (zO (ρ:=tE5) (m:=1) (xs:=[dg (2:Int) (-1:Int) (-1:Int) (-1:Int)]) (ps':=[(0,_)]) underlying133 jL I I I (yF wM (yF wM (yF wM (yF wM wM)))) e2z (zG I (Pc.arr (Pc.here _) e50 0 dC) az zR) zoi nP) I I I ?_)
  rintro bp cg ⟨bm,rfl,am⟩
  refine yC (A:=[]) (ρ:=tE5) am ?_;intro h2 ab ah;refine xR (A:=[]) (zV (ρ:=tE5) (bytes:=40) underlying133 jL I I I I nP I I M.up ah bO bO) I I I ?_
  rintro bo cf ⟨bl,rfl,ak⟩
  refine uK ?_;refine vZ (A:=[]) (ρ:=tE5) ak ?_;intro h3 bi ae;refine zC I I ?_;exact(Rp.Is.cast ae (by rw[hD,ef];exact(if_pos ac).symm))
 have ac:¬zNM s:=by unfold zNM;omega
 refine go9 ?_;refine vZ (A:=[]) (ρ:=tE5) M.up ?_;intro h1 aq ad;refine zC I I ?_;exact(Rp.Is.cast ad (by rw[hD,ef];exact(if_neg ac).symm))
theorem zTK{k m n j:Nat}{vs:Value}{s:Sq}(rs:(tSd k m n j).Is h0 vs s)(hcd0:s.1.length<=100000)(hcd1:k<=100000000):
 Calls Tryz.prog 142 #[vs] w0 (Ret w0 h0 (λh r=>(rpS tE5).Is h r (zK2 s s.1.length))):=by
 refine cb1 35 vs func142 hs ?_;refine go2 ?_;refine nB rs λb1 ak Z=>(pP ?_);refine xM 200 5 ?_;have ab:=RL.nil (ρ:=rpP rpI (rpP rpI (rpP rpI (rpP rpI rpI)))) (h:=h0);refine gcL (ι:=Nat×List (Int×Int×Int×Int×Int)×Value×List Value×Mem) (λ(f,D,C,H,mf)=>(MLe h0 mf/\(RL tE5 mf H D/\f<=s.1.length/\D=zK2 s f),[(1,vP b1 0),(3,C),(4,vI ↑f)],[.gs 200 5 C D.length H,.var b1 39 ak],mf,s.1.length-f)) (0,[],(.slice none 0 0),[],h0) ?_ ?_
 · exact⟨mle,ab,by omega,I⟩
 rintro⟨f,D,C,H,mf⟩ ⟨az,J,bp,hD⟩
 refine xC ?_;have bq:D.length<=f:=by rw[hD];exact pT _ _ f
 refine go5 ?_;refine lX (xB uN (Pc.fst pH) Z) λv8 r8=>(gc4 (λai=>?_) λai=>?_)
 ·
  refine uK ?_;refine gcL (ι:=Nat×Mem) (λ(q,mb)=>(MLe mf mb/\(q<=f/\∀u,u<q->¬gp s.1 f=gp s.1 u),[(1,vP b1 0),(3,C),(4,vI ↑f),(5,vI ↑q)],[.gs 200 5 C D.length H,.var b1 39 ak],mb,f-q)) (0,mf) ?_ ?_
  · exact⟨mle,by omega,λu h=>by omega⟩
  rintro⟨q,mb⟩ ⟨ba,bm,ae⟩
  refine xC ?_;refine gc8 (λah=>?_) λah=>?_
  ·
   refine go5 ?_;refine zJ 11 _ [] [(0,.q),(1,.q),(2,.q),(3,.q),(4,.q),(5,.q),(6,.q),(7,.q),(8,.q),(9,.q),(10,.c)] yA nX zor nX (λr hr=>hr) (go1 ?_);refine wX I (xB uN (Pc.fst pH) Z) λbj ax=>(go1 ?_);refine wX I (xI zT f underlying35 zL ax) λbi aw=>(wX I (xA zL aw) λbh av=>(go1 ?_));refine wX I (xB uN (Pc.fst pH) Z) λbg au=>(go1 ?_);refine wX I (xI zT q underlying35 zL au) λbf ar=>(wX I (xA zL ar) λbe aq=>?_);refine w_c I (sC (ev2 I I) call35 (λw hs=>zH1 hs av aq oM) λan h1 ay ap=>?_);obtain rfl:an=vB ((s.1.getD f zT)=(s.1.getD q zT)):=ap;refine gc2 (λM=>?_) λM=>?_
   ·
    have aa:twP s f:=⟨q,by omega,M⟩;refine go4 ?_;refine cL (vs:=[vI (37),vI (-1),vI (-1),_]) e4z call179 (λw hs=>j0 hs dC dC dC dC dC dC oM oM) λbd h2 bo ao=>(zK (zO (ρ:=tE5) (m:=1) (xs:=[dg (37:Int) (-1:Int) (-1:Int) (↑f:Int)]) (ps':=[(0,_)]) underlying133 jL I I I (yF wM (yF wM (yF wM (yF wM wM)))) e2z (zG I (Pc.arr (Pc.here _) e50 0 dC) ao zR) zoi nP) I I I ?_)
    rintro bc bl ⟨bb,rfl,ad⟩
    refine yC (A:=[]) (ρ:=tE5) ad ?_;intro h3 bn U;refine xR (A:=[]) (zV (ρ:=tE5) (bytes:=40) underlying133 jL I I I I nP I I J.up U bO bO) I I I ?_
    rintro am bk ⟨aj,rfl,ac⟩
    refine pP ?_;refine gqL ((f+1),(D++[dg (37:Int) (-1:Int) (-1:Int) (↑f:Int)]),am,aj,h3) ?_ ?_
    · exact⟨mle,ac,by omega,by rw[hD];exact zAE aa⟩
    omega
   refine go8 ?_;refine gqL ((q+1),h1) ?_ ?_
   · exact⟨mle,by omega,vH (Q:=λu=>¬gp s.1 f=gp s.1 u) ae M⟩
   omega
  have aa:¬twP s f:=λ⟨u,h1,h2⟩=>ae u oM h2;refine qI ?_;refine gqL ((f+1),D,C,H,mb) ?_ ?_
  · exact⟨mle,J.up,by omega,by rw[hD];exact zAF aa⟩
  omega
 have ef:f=s.1.length:=by omega
 refine qE ?_;refine vZ (A:=[]) (ρ:=tE5) J.up ?_;intro h1 ay O;refine zC I I ?_;exact(Rp.Is.cast O (by rw[hD,ef]))
theorem zO2{k m n j:Nat}{vs:Value}{s:Sq}(rs:(tSd k m n j).Is h0 vs s)(hcd0:k<=1000)(hcd1:m<=100000)(hcd2:n<=100000)(hcd3:s.1.length<=100000)(hcd4:∀f,f<s.2.1.length->(s.2.1.getD f zA).2.1.length<=10000/\∀l,l<(s.2.1.getD f zA).2.1.length->((s.2.1.getD f zA).2.1.getD l []).length<=10000)(hcd5:s.2.1.length<=1000)(hcd6:s.1.length<=100000)(hcd7:∀f,f<s.2.1.length->(s.2.1.getD f zA).2.1.length<=16/\∀l,l<(s.2.1.getD f zA).2.1.length->((s.2.1.getD f zA).2.1.getD l []).length<=64):
 Calls Tryz.prog 143 #[vs] w0 (Ret w0 h0 (λh r=>(rpS tE5).Is h r (plZ s))):=by
 refine cb1 74 vs func143 hs ?_;refine go2 ?_;refine nB rs λb1 aq an=>(k7 ?_);refine xM 200 5 ?_;have az:=RL.nil (ρ:=rpP rpI (rpP rpI (rpP rpI (rpP rpI rpI)))) (h:=h0);refine xM 200 5 ?_;have ay:=RL.nil (ρ:=rpP rpI (rpP rpI (rpP rpI (rpP rpI rpI)))) (h:=h0);refine gcL (ι:=Nat×List (Int×Int×Int×Int×Int)×List (Int×Int×Int×Int×Int)×Value×List Value×Value×List Value×Mem) (λ(f,D,G,ab,ac,J,aa,ma)=>(MLe h0 ma/\(RL tE5 ma ac D/\RL tE5 ma aa G/\f<=s.2.1.length/\D=zSB s f/\G=zOW s f),[(1,vP b1 0),(3,ab),(4,J),(5,vI ↑f)],[.gs 200 5 J G.length aa,.gs 200 5 ab D.length ac,.var b1 39 aq],ma,s.2.1.length-f)) (0,[],[],(.slice none 0 0),[],(.slice none 0 0),[],h0) ?_ ?_
 · exact⟨mle,az,ay,by omega,I,I⟩
 rintro⟨f,D,G,ab,ac,J,aa,ma⟩ ⟨cv,ae,ai,em,hD,hG⟩
 refine xC ?_;have eo:D.length<=f:=by rw[hD];exact pT _ _ f
 have en:G.length<=1024*f:=by rw[hG];exact zW5 hcd7 f oM
 have bi:=mR (s:=s) (f:=↑f) hcd7;refine go5 ?_;refine lX (xB fQ (Pc.snd (Pc.fst pH)) an) λdz eb=>(gc4 (λbm=>?_) λbm=>?_)
 ·
  refine go4 ?_;refine jI (ι:=List (Int×Int×Int×Int×Int)×Value×List Value×Mem) (λ(ZR,C,H,mz)=>MLe ma mz/\(RL tE5 mz H ZR/\ZR=zSB s (f+1))) (λ(ZR,C,H,mz)=>[(1,vP b1 0),(3,C),(4,J),(5,vI ↑f)]) (λ(ZR,C,H,mz)=>[.gs 200 5 J G.length aa,.gs 200 5 C ZR.length H,.var b1 39 aq]) (λ(ZR,C,H,mz)=>mz) ?_ ?_
  ·
   refine go3 ?_;refine lX (xB fQ (Pc.snd (Pc.fst pH)) an) λdy cm=>(go1 ?_);refine lX (xI zA f underlying36 bJ cm) λdx cl=>(lX (xF underlying53 sizeOf50 (Pc.fst pH) cl) λdw ck=>(lX (xF underlying50 sizeOf31 (Pc.fst pH) ck) λdv cj=>(lX (xA zL cj) λdu ci=>(cL (ev1 I) call80 (λw hs=>zB7 hs ci oM) λbs h1 aj ch=>?_))));obtain rfl:bs=vB ((((s.2.1.getD f zA).1).1)=zT):=ch;refine gc2 (λam=>?_) λam=>?_
   ·
    refine go3 ?_;refine cL (vs:=[vI (9),_,vI (-1),vI (-1)]) e4z call179 (λw hs=>j0 hs dC dC oM oM dC dC dC dC) λdt h2 bh cg=>(zK (zO (ρ:=tE5) (m:=1) (xs:=[dg (9:Int) (↑f:Int) (-1:Int) (-1:Int)]) (ps':=[(0,_)]) underlying133 jL I I I (yF wM (yF wM (yF wM (yF wM wM)))) e2z (zG I (Pc.arr (Pc.here _) e50 0 dC) cg zR) zoi nP) I I I ?_)
    rintro dr eg ⟨db,rfl,be⟩
    refine yC (A:=[]) (ρ:=tE5) be ?_;intro h3 bg aw;refine xR (A:=[_]) (zV (ρ:=tE5) (bytes:=40) underlying133 jL I I I I nP I I ae.up aw bO bO) I I I ?_
    rintro br ee ⟨bo,rfl,bd⟩
    refine go2 ?_;refine zS ((D++[dg (9:Int) (↑f:Int) (-1:Int) (-1:Int)]),br,bo,h3) ?_ e4z I I;refine⟨((aj.trans bh).trans bg),?_⟩;refine⟨bd,?_⟩;exact(by rw[hD];exact zAE am)
   refine go1 ?_;refine zS (D,ab,ac,h1) ?_ e4z I I;refine⟨aj,?_⟩;refine⟨ae.up,?_⟩;exact(by rw[hD];exact zAF am)
  rintro⟨ZR,C,H,mz⟩ ⟨cq,hZ⟩
  refine xC ?_;obtain⟨ax,hZ⟩:=hZ;refine go2 ?_;refine lX (xB gV pH an) λdq cf=>(go1 ?_);refine cL (ev2 I I) call118 (λw hs=>zC7 hs cf oM oM (by first|omega|exact hcd4) (by first|omega|exact hcd4)) λba h1 aj bf=>(go9 ?_);refine gcL (ι:=Nat×List (Int×Int×Int×Int×Int)×Value×List Value×Mem) (λ(l,G1,O,Z,mb)=>(MLe h1 mb/\(RL tE5 mb Z G1/\l<=(xE s ↑f).length/\G1=zOW s f++ofL s f l),[(1,vP b1 0),(3,C),(4,O),(5,vI ↑f),(6,ba),(7,vI ↑l)],[.gs 200 5 O G1.length Z,.gs 200 5 C ZR.length H,.var b1 39 aq],mb,(xE s ↑f).length-l)) (0,G,J,aa,h1) ?_ ?_
  · exact⟨mle,ai.up,by omega,by rw[hG];exact(List.append_nil _).symm⟩
  rintro⟨l,G1,O,Z,mb⟩ ⟨cu,ah,eh,ap⟩
  refine xC ?_;have cp:=zFC (s:=s) hcd7 f l;have cz:G1.length<=1024*f+1024:=by rw[ap,lAz,<-hG];have:=bi.1;omega
  refine gc9 (λbl=>?_) λbl=>?_
  ·
   refine uK ?_;refine gcL (ι:=Nat×List (Int×Int×Int×Int×Int)×Value×List Value×Mem) (λ(i,G2,M,U,mc)=>(MLe mb mc/\(RL tE5 mc U G2/\i<=((xE s ↑f).getD l []).length/\G2=zOW s f++ofL s f l++ofX s f l i),[(1,vP b1 0),(3,C),(4,M),(5,vI ↑f),(6,ba),(7,vI ↑l),(8,vI ↑i)],[.gs 200 5 M G2.length U,.gs 200 5 C ZR.length H,.var b1 39 aq],mc,((xE s ↑f).getD l []).length-i)) (0,G1,O,Z,mb) ?_ ?_
   · exact⟨mle,ah,by omega,by rw[ap];exact(List.append_nil _).symm⟩
   rintro⟨i,G2,M,U,mc⟩ ⟨ct,ad,ej,ao⟩
   refine xC ?_;have cw:=bi.2 l;have co:(ofX s f l i).length<=i:=pT _ _ i;have cy:G2.length<=1024*f+2048:=by rw[ao,lAz,<-ap];omega
   refine go6 ?_;refine lX (xI [] l underlying76 uN bf) λdp ce=>(lX (xA uN ce) λdn ea=>(gc4 (λbk=>?_) λbk=>?_))
   ·
    refine go5 ?_;refine zJ 15 _ [] [(0,.q),(1,.q),(2,.q),(3,.q),(4,.q),(5,.q),(6,.q),(7,.q),(8,.q),(9,.q),(10,.q),(11,.q),(12,.q),(13,.c),(14,.q)] yA nX (wP zor) nX (λr hr=>hr) (go1 ?_);refine wX I (xB fQ (Pc.snd (Pc.fst pH)) an) λdm cd=>(go1 ?_);refine wX I (xI zA f underlying36 bJ cd) λdl cc=>(wX I (xF underlying53 sizeOf50 (Pc.fst pH) cc) λdk cb=>(wX I (xA aV cb) λdj ca=>(go2 ?_)));refine wX I (xI [] l underlying76 uN bf) λdi bz=>(wX I (xA uN bz) λdh bx=>(go1 ?_));refine wX I (xI zT i underlying35 zL bx) λdf bw=>(wX I (xA zL bw) λde bv=>?_);refine w_c I (sC (ev2 I I) call23 (λw hs=>zTJ hs ca bv oM oM oM) λbq h2 bh bu=>?_);obtain rfl:bq=vI (yV (zE ((s.2.1.getD f zA).1).1 (((xE s (↑f:Int)).getD l []).getD i zT)-((s.2.1.getD f zA).1).2)):=bu;have cn:=xG (zE ((s.2.1.getD f zA).1).1 (((xE s (↑f:Int)).getD l []).getD i zT)-((s.2.1.getD f zA).1).2);refine gc3 (λak=>?_) λak=>?_
    ·
     refine go5 ?_;refine cL (vs:=[vI (31),_,_,_]) e4z call179 (λw hs=>j0 hs dC dC oM oM oM oM oM oM) λdd h3 bg bt=>(zK (zO (ρ:=tE5) (m:=1) (xs:=[dg (31:Int) (↑f:Int) (↑l:Int) (↑i:Int)]) (ps':=[(0,_)]) underlying133 jL I I I (yF wM (yF wM (yF wM (yF wM wM)))) e2z (zG I (Pc.arr (Pc.here _) e50 0 dC) bt zR) zoi nP) I I I ?_)
     rintro dc ed ⟨da,rfl,bc⟩
     refine yC (A:=[]) (ρ:=tE5) bc ?_;intro h4 ek av;refine xR (A:=[]) (zV (ρ:=tE5) (bytes:=40) underlying133 jL I I I I nP I I ad.up av bO bO) I I I ?_
     rintro bp ec ⟨bn,rfl,bb⟩
     refine go9 ?_;refine gqL ((i+1),(G2++[dg (31:Int) (↑f:Int) (↑l:Int) (↑i:Int)]),bp,bn,h4) ?_ ?_
     · exact⟨mle,bb,by omega,by rw[ao,List.append_assoc,show ofX s f l i++_=_ from zAE (p:=ofP s f l) ak];rfl⟩
     omega
    refine go8 ?_;refine gqL ((i+1),G2,M,U,h2) ?_ ?_
    · exact⟨mle,ad.up,by omega,by rw[ao,show ofX s f l i=_ from zAF (p:=ofP s f l) ak];rfl⟩
    omega
   have ei:i=((xE s ↑f).getD l []).length:=by omega
   refine qI ?_;refine gqL ((l+1),G2,M,U,mc) ?_ ?_
   · exact⟨mle,ad.up,by omega,by rw[ao,ei,List.append_assoc];rfl⟩
   omega
  have el:l=(xE s ↑f).length:=by omega
  refine qI ?_;refine gqL ((f+1),ZR,G1,C,H,O,Z,mb) ?_ ?_
  · exact⟨mle,ax.up,ah,by omega,hZ,by rw[ap,el];rfl⟩
  omega
 have ef:f=s.2.1.length:=by omega
 refine go9 ?_;refine gv (kL mh1 underlying133 I) I (gc3 (λbj=>?_) λbj=>?_)
 ·
  refine go8 ?_;refine vZ (A:=[_]) (ρ:=tE5) ae.up ?_;intro h1 aj au;refine zC I I ?_;exact(Rp.Is.cast au (by rw[hD,ef];exact(if_pos (by rw[<-ef,<-hD];omega)).symm))
 refine go9 ?_;refine vZ (A:=[]) (ρ:=tE5) ai.up ?_;intro h1 aj ar;refine zC I I ?_;exact(Rp.Is.cast ar (by rw[hG,ef];exact(if_neg (by rw[<-ef,<-hD];omega)).symm))
theorem zH2{k:Nat}{vL:Value}{L:(List (List Tq))}(rL:(tLL k).Is h0 vL L)(hcd0:k<=100000)(hcd1:∀l,l<L.length->(L.getD l []).length<=1000)(hcd2:L.length<=100000):
 Calls Tryz.prog 86 #[vL] w0 (Ret w0 h0 (λ_ r=>r=vI (ouZ L))):=by
 refine cb1 21 vL func86 hs ?_;refine oW ?_;refine gcL (ι:=Nat×Mem) (λ(m,U)=>(MLe h0 U/\(m<=L.length),[(0,vL),(3,vI (u6 L m)),(4,vI ↑m)],[],U,L.length-m)) (0,h0) ?_ ?_
 · exact⟨mle,oM⟩
 rintro⟨m,U⟩ ⟨ab,ah⟩
 refine xC ?_;have hor:=zAL L m;have ai:=hcd1 m;refine gc9 (λaa=>?_) λaa=>?_
 ·
  refine go8 ?_;refine lX (xI [] m underlying76 uN rL) λae O=>(lX (xA uN O) λad M=>(cL (ev1 I) call131 (λw hs=>pM hs M oM oM) λac h1 ak J=>(cL (ev1 I) call48 (λw hs=>qC hs J dC) λD h2 aj H=>?_)));obtain rfl:D=vI (yV (uP (L.getD m []) 0 1 (L.getD m []).length)):=H;have Z:=xG (uP (L.getD m []) 0 1 (L.getD m []).length);refine gc3 (λC=>?_) λC=>?_
  ·
   refine qE ?_;refine gqL ((m+1),h2) ?_ ?_ (he:=⟨I,congrArg (λz=>some (vI z)) (ou_t C),I,trivial⟩)
   · exact⟨mle,oM⟩
   omega
  refine go8 ?_;refine gqL ((m+1),h2) ?_ ?_ (he:=⟨I,congrArg (λz=>some (vI z)) (ou_f C),I,trivial⟩)
  · exact⟨mle,oM⟩
  omega
 refine qE ?_;refine zC I I ?_;have em:m=L.length:=by omega
 subst em
 rfl
theorem zTQ{k m n j:Nat}{vs:Value}{s:Sq}(rs:(tSd k m n j).Is h0 vs s)(hcd0:k<=1000)(hcd1:m<=100000)(hcd2:n<=100000)(hcd3:okS s):
 Calls Tryz.prog 144 #[vs] w0 (Ret w0 h0 (λh r=>(rpS tE5).Is h r (neZ s))):=by
 have cl:=hcd3.1.1.1;have ck:=hcd3.1.1.2;refine cb1 45 vs func144 hs ?_;refine go2 ?_;refine nB rs λb1 bh aw=>(k7 ?_);refine xM 200 5 ?_;have ap:=RL.nil (ρ:=rpP rpI (rpP rpI (rpP rpI (rpP rpI rpI)))) (h:=h0);refine xM 200 5 ?_;have ao:=RL.nil (ρ:=rpP rpI (rpP rpI (rpP rpI (rpP rpI rpI)))) (h:=h0);refine gcL (ι:=Nat×List (Int×Int×Int×Int×Int)×List (Int×Int×Int×Int×Int)×Value×List Value×Value×List Value×Mem) (λ(f,D,G,O,U,J,M,ma)=>(MLe h0 ma/\(RL tE5 ma U D/\RL tE5 ma M G/\f<=s.2.1.length/\D=zZR s f/\G=yHF s f),[(1,vP b1 0),(3,O),(4,J),(5,vI ↑f)],[.gs 200 5 J G.length M,.gs 200 5 O D.length U,.var b1 39 bh],ma,s.2.1.length-f)) (0,[],[],(.slice none 0 0),[],(.slice none 0 0),[],h0) ?_ ?_
 · exact⟨mle,ap,ao,by omega,I,I⟩
 rintro⟨f,D,G,O,U,J,M,ma⟩ ⟨bt,aa,Z,cm,hD,hG⟩
 refine xC ?_;have co:D.length<=f:=by rw[hD];exact pT _ _ f
 have cn:G.length<=f:=by rw[hG];exact pT _ _ f
 have bb:=zA9 s f;have bc:=mR (s:=s) (f:=↑f) hcd3.2.1;have cj:=zMG (gC s f) 0 1;refine go5 ?_;refine lX (xB fQ (Pc.snd (Pc.fst pH)) aw) λcd ce=>(gc4 (λbe=>?_) λbe=>?_)
 ·
  refine go6 ?_;refine lX (xB gV pH aw) λcc bq=>(go1 ?_);refine cL (ev2 I I) call111 (λw hs=>zMA (f:=f) hs bq oM oM oM (by first|omega|exact hcd3.big) (by first|omega|exact hcd3.big) (by first|omega|exact hcd3.big) (by first|omega|exact hcd3.big)) λbl h1 ba ax=>(go3 ?_);refine jI (ι:=List (Int×Int×Int×Int×Int)×Value×List Value×Mem) (λ(ZR,H,C,mz)=>MLe h1 mz/\(RL tE5 mz C ZR/\ZR=zZR s (f+1))) (λ(ZR,H,C,mz)=>[(1,vP b1 0),(3,H),(4,J),(5,vI ↑f),(6,bl)]) (λ(ZR,H,C,mz)=>[.gs 200 5 J G.length M,.gs 200 5 H ZR.length C,.var b1 39 bh]) (λ(ZR,H,C,mz)=>mz) ?_ ?_
  ·
   refine go3 ?_;refine cL (ev1 I) call85 (λw hs=>zH0 hs ax oM (by first|omega|exact hcd3.2.2 f oM)) λcb h2 an bp=>?_;obtain⟨ae,rfl,am⟩:=bp
   change (rpS rpI).Is h2 ae (sD (gC s f) 0 1) at am
   refine pQ ?_;refine cnd (λad=>?_) λad=>?_
   ·
    refine go4 ?_;refine cL (vs:=[_,_,vI (-1),vI (-1)]) e4z call179 (λw hs=>j0 hs oM oM oM oM dC dC dC dC) λca h3 az bo=>(zK (zO (ρ:=tE5) (m:=1) (xs:=[dg (vW (gC s f) 0 1) (↑f:Int) (-1:Int) (-1:Int)]) (ps':=[(0,_)]) underlying133 jL I I I (yF wM (yF wM (yF wM (yF wM wM)))) e2z (zG I (Pc.arr (Pc.here _) e50 0 dC) bo zR) zoi nP) I I I ?_)
    rintro bz ci ⟨bv,rfl,av⟩
    refine yC (A:=[]) (ρ:=tE5) av ?_;intro h4 ay ak;refine xR (A:=[_]) (zV (ρ:=tE5) (bytes:=40) underlying133 jL I I I I nP I I aa.up ak bO bO) I I I ?_
    rintro bk ch ⟨bg,rfl,au⟩
    refine go2 ?_;refine zS ((D++[dg (vW (gC s f) 0 1) (↑f:Int) (-1:Int) (-1:Int)]),bk,bg,h4) ?_ e5z I I;refine⟨((an.trans az).trans ay),?_⟩;refine⟨au,?_⟩;exact(by rw[hD];exact zAE ad)
   refine go1 ?_;refine zS (D,O,U,h2) ?_ e5z I I;refine⟨an,?_⟩;refine⟨aa.up,?_⟩;exact(by rw[hD];exact zAF ad)
  rintro⟨ZR,H,C,mz⟩ ⟨bs,hZ⟩
  refine xC ?_;obtain⟨ab,hZ⟩:=hZ;refine go3 ?_;refine cL (ev1 I) call86 (λw hs=>zH2 hs ax.up oM (by first|omega|exactλl hl=>(by rw[bb.2 l];exact Nat.le_trans (bc.2 l) dC)) (by first|omega|exactλl hl=>(by rw[bb.2 l];exact Nat.le_trans (bc.2 l) dC))) λbj h2 an bn=>?_;obtain rfl:bj=vI (ouZ (gC s f)):=bn;have br:=zAL (gC s f) (gC s f).length;refine gc3 (λac=>?_) λac=>?_
  ·
   refine go3 ?_;refine cL (vs:=[vI (33),_,vI (-1),vI (-1)]) e4z call179 (λw hs=>j0 hs dC dC oM oM dC dC dC dC) λbx h3 az bm=>(zK (zO (ρ:=tE5) (m:=1) (xs:=[dg (33:Int) (↑f:Int) (-1:Int) (-1:Int)]) (ps':=[(0,_)]) underlying133 jL I I I (yF wM (yF wM (yF wM (yF wM wM)))) e2z (zG I (Pc.arr (Pc.here _) e50 0 dC) bm zR) zoi nP) I I I ?_)
   rintro bw cg ⟨bu,rfl,ar⟩
   refine yC (A:=[]) (ρ:=tE5) ar ?_;intro h4 ay aj;refine xR (A:=[]) (zV (ρ:=tE5) (bytes:=40) underlying133 jL I I I I nP I I Z.up aj bO bO) I I I ?_
   rintro bi cf ⟨bf,rfl,aq⟩
   refine go9 ?_;refine gqL ((f+1),ZR,(G++[dg (33:Int) (↑f:Int) (-1:Int) (-1:Int)]),H,C,bi,bf,h4) ?_ ?_
   · exact⟨mle,ab.up,aq,by omega,hZ,by rw[hG];exact zAE ac⟩
   omega
  refine go8 ?_;refine gqL ((f+1),ZR,G,H,C,J,M,h2) ?_ ?_
  · exact⟨mle,ab.up,Z.up,by omega,hZ,by rw[hG];exact zAF ac⟩
  omega
 have ef:f=s.2.1.length:=by omega
 refine go9 ?_;refine gv (kL mh1 underlying133 I) I (gc3 (λbd=>?_) λbd=>?_)
 ·
  refine go8 ?_;refine vZ (A:=[_]) (ρ:=tE5) aa.up ?_;intro h1 ba ai;refine zC I I ?_;exact(Rp.Is.cast ai (by rw[hD,ef];exact(if_pos (by rw[<-ef,<-hD];omega)).symm))
 refine go9 ?_;refine vZ (A:=[]) (ρ:=tE5) Z.up ?_;intro h1 ba ah;refine zC I I ?_;exact(Rp.Is.cast ah (by rw[hG,ef];exact(if_neg (by rw[<-ef,<-hD];omega)).symm))
theorem zTR{k m n j:Nat}{vs:Value}{s:Sq}(rs:(tSd k m n j).Is h0 vs s)(hcd0:k<=1000)(hcd1:m<=100000)(hcd2:n<=100000)(hcd3:okS s):
 Calls Tryz.prog 97 #[vs] w0 (Ret w0 h0 (λh r=>(rpS tE5).Is h r (zZJ s))):=by
 have av:=hcd3.1.1.1;have au:=hcd3.1.1.2;refine cb1 34 vs func97 hs ?_;refine go2 ?_;refine nB rs λb1 bc C=>(go6 ?_);refine lX (xB gV pH C) λv7 r7=>(cL (ev1 I) call141 (λw hs=>zTM hs r7 (by first|omega|exact hcd3|exact hcd3.big|exact hcd3.mem|exact hcd3.2.1)) λv8 h1 bb r8=>(zDN (λM=>?_) λM=>?_))
 ·
  refine go8 ?_;refine zC I I ?_;exact(Rp.Is.cast r8 (by exact(if_pos oM).symm))
 refine go5 ?_;refine lX (xB gV pH C) λar ah=>(cL (ev1 I) call142 (λw hs=>zTK hs ah (by first|omega|exact hcd3|exact hcd3.big|exact hcd3.mem|exact hcd3.2.1) oM) λaq h2 ba ae=>(zDN (λJ=>?_) λJ=>?_))
 ·
  refine go8 ?_;refine zC I I ?_;exact(Rp.Is.cast ae (by exact((if_neg oM).trans (if_pos oM)).symm))
 refine go5 ?_;refine lX (xB gV pH C) λap ad=>(cL (ev1 I) call143 (λw hs=>zO2 hs ad oM oM oM (by first|omega|exact hcd3|exact hcd3.big|exact hcd3.mem|exact hcd3.2.1) (by first|omega|exact hcd3|exact hcd3.big|exact hcd3.mem|exact hcd3.2.1) (by first|omega|exact hcd3|exact hcd3.big|exact hcd3.mem|exact hcd3.2.1) (by first|omega|exact hcd3|exact hcd3.big|exact hcd3.mem|exact hcd3.2.1) (by first|omega|exact hcd3|exact hcd3.big|exact hcd3.mem|exact hcd3.2.1)) λao h3 az ac=>(zDN (λH=>?_) λH=>?_))
 ·
  refine go8 ?_;refine zC I I ?_;exact(Rp.Is.cast ac (by exact((if_neg oM).trans ((if_neg oM).trans (if_pos oM))).symm))
 refine go5 ?_;refine lX (xB gV pH C) λan ab=>(cL (ev1 I) call144 (λw hs=>zTQ hs ab oM oM oM (by first|omega|exact hcd3|exact hcd3.big|exact hcd3.mem|exact hcd3.2.1)) λam h4 ay aa=>(zDN (λD=>?_) λD=>?_))
 ·
  refine go8 ?_;refine zC I I ?_;exact(Rp.Is.cast aa (by exact((if_neg oM).trans ((if_neg oM).trans ((if_neg oM).trans (if_pos oM)))).symm))
 refine go4 ?_;refine lX (xB gV pH C) λak Z=>(cL (ev1 I) call136 (λw hs=>zH4 hs Z (by first|omega|exact hcd3|exact hcd3.big|exact hcd3.mem|exact hcd3.2.1) (by first|omega|exact hcd3|exact hcd3.big|exact hcd3.mem|exact hcd3.2.1)) λaj h5 ax U=>(cL (ev1 I) call145 (λw hs=>zL1 hs U) λai h6 aw O=>(go4 ?_)));refine zC I I ?_;exact(Rp.Is.cast O (by exact((if_neg oM).trans ((if_neg oM).trans ((if_neg oM).trans (if_neg oM)))).symm))
theorem zTL{k m n j:Nat}{vs:Value}{s:Sq}(rs:(tSd k m n j).Is h0 vs s)(hcd0:k<=1000)(hcd1:m<=100000)(hcd2:n<=100000)(hcd3:okS s):
 Calls Tryz.prog 62 #[vs] w0 (Ret w0 h0 (λ_ r=>r=vB (kZ s))):=by
 refine cb1 7 vs func62 hs ?_;refine go2 ?_;refine nB rs λJ H C=>(go5 ?_);refine lX (xB gV pH C) λv3 r3=>(cL (ev1 I) call97 (λw hs=>zTR hs r3 oM oM oM (by first|omega|exact hcd3)) λv4 h1 D r4=>(go6 ?_));refine zC I I ?_;exact kD (by unfold kZ;omega)
theorem q8{k m n j:Nat}{vs:Value}{s:Sq}(rs:(tSd k m n j).Is h0 vs s)(hcd0:k<=1000)(hcd1:m<=100000)(hcd2:n<=100000)(hcd3:okS s):
 Calls Tryz.prog 47 #[vs] w0 (tP w0 h0 (λh r L_=>∃vF cs,(rpP (tLs (k+1)) (rpP rpV (rpS (rpP rpI (rpP rpI (rpQ (j+1))))))).Is h r (nrP s,(vF,nrE s))/\L_=[.gs 53 14 vF (nrF s).length cs]/\vF.oneCell'=true/\RL (tFc (4*m+12) (m+n+12)) h cs (nrF s))):=by
 have il:=hcd3.1.1.1;have ik:=hcd3.1.1.2;have ij:=hcd3.1.2;refine cb1 100 vs func47 hs ?_;refine go2 ?_;refine nB rs λb1 cu an=>(nA (ρ:=(rpP (tLs 1) (rpP rpV (rpS (rpP rpI (rpP rpI (rpQ 1))))))) (X:=([],((Value.slice none 0 0),[]))) gB (yF vC (yF rO vC)) λb2 ct di=>(go5 ?_));refine lX (xB gV pH an) λhv fh=>(cL (ev1 I) call62 (λw hs=>zTL hs fh oM oM oM (by first|omega|exact hcd3)) λeg h1 iv fg=>?_);obtain rfl:eg=vB (kZ s):=fg;refine gc3 (λai=>?_) λai=>?_
 ·
  refine go2 ?_;refine lX (xV (ρ:=(rpP (tLs 1) (rpP rpV (rpS (rpP rpI (rpP rpI (rpQ 1))))))) (wE (ps':=[]) underlying39 gB I I (pV underlying39) trivial I (yF vC (yF rO vC)) zR)) λhu ff=>(yI (A:=[]) (uB sizeOf39 pH di ff) λgf dh=>(go4 ?_));rw[show nrF s=[] from if_neg ai];refine aR 53 14 ?_;have db:=RL.nil (ρ:=rpP (tPl (4*m+12) (m+n+12)) (rpP tII kR)) (h:=h1);refine uJ (fV (t:=2) gV mh1 I dh) ?_;intro gj cf cz;refine gR (.cons_cons _ (List.nil_sublist _)) (λE S=>yE I cf E S) ?_;exact⟨_,_,(Rp.Is.cast (Rp.Is.le cz (Le.p (Le.s (Le.t (Le.q (l:=k+1) oM))) (Le.p (Le.refl _) (Le.s (Le.p (Le.refl _) (Le.p (Le.refl _) (Le.q (l:=j+1) oM))))))) (by rw[show nrP s=[] from if_neg ai,show nrE s=[] from if_neg ai])),I,I,db⟩
 refine go4 ?_;refine lX (xB gV pH an) λhq fe=>?_;have bd:kZ s:=Classical.not_not.1 ai;have aw:=yF1 bd;have ih:(fI s).length<=s.1.length:=zOU s s.1.length;refine cL (ev1 I) call89 (λw hs=>zTP hs fe oM (by first|omega|exact hcd3|exact aw) (by first|omega|exact hcd3|exact aw)) λee h2 iu bb=>?_;replace bb:=Rp.Is.cast (y:=(fI s)) bb zo0;refine go6 ?_;refine lX (xB uN (Pc.fst pH) an) λhp ib=>(go1 ?_);refine zK (zH7 (ρ:=rpI) (X:=(0:Int)) (by':=8) s.1.length underlying22 gK I I I I wM I I zo0 zo0 bO bO) I I I ?_
 rintro ed ig ⟨dr,rfl,df⟩
 refine go6 ?_;refine lX (xB yJZ (Pc.snd (Pc.snd pH)) an) λho fd=>(zIF 237 5 ?_);have da:=RL.nil (ρ:=rpP rpI (rpP rpI (rpQ j))) (h:=h2);refine xR (A:=[]) (uS (zV (ρ:=(rpP rpI (rpP rpI (rpQ j)))) (bytes:=72) underlying37 yCG I I I I nP I I da fd bO bO)) I I I ?_
 rintro hn ie ⟨fy,gh,rfl,de⟩
 refine yC (A:=[]) (ρ:=(rpP rpI (rpP rpI (rpQ j)))) de ?_;intro h3 ir cy;refine lX (xV (ρ:=(rpP rpV (rpP rpV (rpS (rpP rpI (rpP rpI (rpQ (j+1)))))))) (wE (ps':=[(2,_)]) underlying39 gB I I (pV underlying39) e2z I (yF rO (yF rO vC)) (zG I (Pc.snd (Pc.snd (Pc.here _))) (cy.le (Le.s (Le.p (Le.refl _) (Le.p (Le.refl _) (Le.q (l:=j+1) oM))))) zR))) λhm fc=>(nA (ρ:=(rpP rpV (rpP rpV (rpS (rpP rpI (rpP rpI (rpQ 1))))))) (X:=((Value.slice none 0 0),((Value.slice none 0 0),[]))) gB (yF rO (yF rO vC)) λb5 ja ej=>?_);have cw:=(Le.p (Le.refl _) (Le.p (Le.refl _) (Le.s (Le.p (Le.refl _) (Le.p (Le.refl _) (Le.q (l:=j+1) oM)))))).R ej;refine yI (A:=[]) (uB sizeOf39 pH cw fc) λdm bx=>(go9 ?_);refine xM 31 9 ?_;have bt:=RL.nil (ρ:=rpT (rpQ (k+1))) (h:=h3);refine gcL (ι:=Nat×List Int×List Tq×List Value×Value×List Value×Value×List Value×Mem) (λ(i,IX,PS,U,D,au,O,ar,ma)=>(MLe h3 ma/\((rpP rpV (rpP rpV (rpS (rpP rpI (rpP rpI (rpQ (j+1))))))).R ma U (O,(Value.slice none 0 0,s.2.2))/\RL rpI ma au IX/\RL (tPt (k+1)) ma ar PS/\O.oneCell'=true/\i<=(fI s).length/\IX=zG9 s i/\PS=zXG s i),[(1,vP b1 0),(2,vP b2 0),(3,ee),(4,D),(5,vP b5 0),(6,vI ↑i)],[.gs 31 9 O PS.length ar,.var b5 39 U,.gs 3 1 D IX.length au,.var b2 39 ct,.var b1 39 cu],ma,(fI s).length-i)) (0,(List.replicate s.1.length (0:Int)),[],dm,ed,dr,(.slice none 0 0),[],h3) ?_ ?_
 · exact⟨mle,bx,df.up,bt,I,by omega,I,I⟩
 rintro⟨i,IX,PS,U,D,au,O,ar,ma⟩ ⟨gb,J,ay,ax,fl,im,hI,hP⟩
 refine xC ?_;have ix:IX.length=s.1.length:=by rw[hI];exact zCH s i
 have iw:PS.length=i:=by rw[hP];exact xK _ _
 refine gc9 (λdk=>?_) λdk=>?_
 ·
  refine go9 ?_;refine lX (xI (0:Int) i underlying22 ty3 bb) λhl fb=>(lX (xA ty3 fb) λhj fa=>?_);obtain⟨rfl,ge,fx⟩:=kM fa;refine go1 ?_;refine gv ((xN (((fI s).getD i 0).toNat) mh2 underlying22 sizeOf3 I I (by(have:=oH (s:=s) (i:=s.1.length) (k:=i) (show i<(aH s s.1.length).length by show i<(fI s).length;omega);show _;have h2:0<=(fI s).getD i 0/\(fI s).getD i 0<↑s.1.length:=this;omega)) (by(have:=oH (s:=s) (i:=s.1.length) (k:=i) (show i<(aH s s.1.length).length by show i<(fI s).length;omega);show _;have h2:0<=(fI s).getD i 0/\(fI s).getD i 0<↑s.1.length:=this;omega)) nP).cv (show _=zM 1 D ((((fI s).getD i 0).toNat*1+0)) from congrArg (zM 1 D) zo0)) I (fK (A:=[_,_]) (F:=λc_=>RL rpI ma c_ (IX.set (((fI s).getD i 0).toNat) (↑i:Int))) (cS sizeOf3 (Pc.arr (Pc.here _) (0:Int) (((fI s).getD i 0).toNat) (by(have:=oH (s:=s) (i:=s.1.length) (k:=i) (show i<(aH s s.1.length).length by show i<(fI s).length;omega);show _;have h2:0<=(fI s).getD i 0/\(fI s).getD i 0<↑s.1.length:=this;omega))) I nP I I ay (jA oM oM) I) ?_);intro cq bs;refine go2 ?_;refine qO (A:=[]) 13 [] [(0,.q),(1,.q),(2,.q),(3,.q),(4,.q),(5,.q),(6,.q),(7,.q),(8,.q),(9,.q),(10,.c),(11,.c),(12,.q),(13,.t)] yA nX (wP zor) nX (go1 ?_);refine wX I (aA (xB uN (Pc.fst pH) J)) λhg ez=>?_;subst ez;refine go1 ?_;refine wX I (xB uN (Pc.fst pH) an) λhb ey=>(go2 ?_);refine wX I (xI (0:Int) i underlying22 ty3 bb) λha ew=>(wX I (xA ty3 ew) λgz ev=>?_);obtain⟨rfl,gc,fw⟩:=kM ev;refine bH (F:=λv_=>AtP (tPt k) ma v_ (s.1.getD (((fI s).getD i 0).toNat) zT)) I (kT zT (((fI s).getD i 0).toNat) underlying35 zL I I ey (by(have:=oH (s:=s) (i:=s.1.length) (k:=i) (show i<(aH s s.1.length).length by show i<(fI s).length;omega);show _;have h2:0<=(fI s).getD i 0/\(fI s).getD i 0<↑s.1.length:=this;omega)) (by(have:=oH (s:=s) (i:=s.1.length) (k:=i) (show i<(aH s s.1.length).length by show i<(fI s).length;omega);show _;have h2:0<=(fI s).getD i 0/\(fI s).getD i 0<↑s.1.length:=this;omega)) nP) oO I ?_;intro gy eu;refine wX I (xA zL eu) λgx es=>?_;refine w_c I (jM (λX=>zO (ρ:=(tPt (k+1))) (m:=1) (xs:=[(s.1.getD (((fI s).getD i 0).toNat) zT)]) (ps':=[(0,_)]) underlying35 yU I I I (xW (yN oM)) e2z (zG I (Pc.arr (Pc.here _) zT 0 dC) (es.le (Le.t (Le.q (l:=k+1) oM))) zR) zok nP) I ?_)
  rintro gw id ⟨gg,rfl,dd⟩
  refine w_c I (wA (A:=[]) (ρ:=(tPt (k+1))) dd dK ?_);intro h4 cj bl;refine tG (A:=[]) (λX=>uS (zV (ρ:=(tPt (k+1))) (bytes:=168) underlying35 yU I I I I nP I I ax.up bl bO bO)) I (wH zov) ?_
  rintro ec ic ⟨be,dq,rfl,dc⟩
  refine go1 ?_;replace J:=J.mono cj;refine yK (A:=[_]) I (uB sizeOf35 (Pc.fst pH) J (j8 be)) λcp bw=>(go8 ?_);refine gqL ((i+1),(IX.set (((fI s).getD i 0).toNat) (↑i:Int)),(PS++[(s.1.getD (((fI s).getD i 0).toNat) zT)]),cp,D,cq,ec,dq,h4) ?_ ?_
  · exact⟨mle,bw,bs.up,dc,be,by omega,by rw[hI];rfl,by rw[hP];rfl⟩
  omega
 have ei:i=(fI s).length:=by omega
 refine go8 ?_;refine yC (A:=[]) (ρ:=(tPt (k+1))) ax.up ?_;intro h4 cj bk;replace J:=J.mono cj;have bv:(rpP (tLs (k+1)) (rpP rpV (rpS (rpP rpI (rpP rpI (rpQ (j+1))))))).R h4 U (PS,(O,(Value.slice none 0 0,s.2.2)).2):=yE0 J bk;refine go4 ?_;refine xM 53 14 ?_;have br:=RL.nil (ρ:=rpP (tPl (4*m+12) (m+n+12)) (rpP tII kR)) (h:=h4);refine zGC (A:=[_,_]) (ρ:=rpI) ay.up ?_;intro h5 iq bj;refine gcL (ι:=Nat×List Fc×Value×List Value×Value×List Value×Mem) (λ(f,Z,M,ae,C,ad,mb)=>(MLe h5 mb/\((rpS rpI).Is mb M (ixZ s)/\(rpP (tLs (k+1)) (rpP rpV (rpS (rpP rpI (rpP rpI (rpQ (j+1))))))).R mb ae (PS,(C,s.2.2))/\RL (tFc (4*m+12) (m+n+12)) mb ad Z/\C.oneCell'=true/\f<=s.2.1.length/\Z=j3 s f),[(1,vP b1 0),(2,vP b2 0),(4,M),(5,vP b5 0),(7,vI ↑f)],[.gs 53 14 C Z.length ad,.var b5 39 ae,.var b2 39 ct,.var b1 39 cu],mb,s.2.1.length-f)) (0,[],D,U,(.slice none 0 0),[],h5) ?_ ?_
 · exact⟨mle,(Rp.Is.cast bj (by rw[hI,ei];rfl)),bv.up,br.up,I,by omega,I⟩
 rintro⟨f,Z,M,ae,C,ad,mb⟩ ⟨ga,ak,H,aa,cg,fo,hF⟩
 refine xC ?_;have iy:Z.length=f:=by rw[hF];exact zO8 s f
 have dl:=zXD hcd3 f fo;refine go5 ?_;refine lX (xB fQ (Pc.snd (Pc.fst pH)) an) λgu ia=>(gc4 (λdj=>?_) λdj=>?_)
 ·
  refine go6 ?_;refine lX (xB gV pH an) λgt er=>(go2 ?_);refine cL (ev3 I I I) call90 (λw hs=>zFK (f:=f) hs er ak oM oM oM (by first|omega|exact hcd3|exact aw f oM|exact zCH s _) (by first|omega|exact hcd3|exact aw f oM|exact zCH s _) (by first|omega|exact hcd3|exact aw f oM|exact zCH s _) (by first|omega|exact hcd3|exact aw f oM|exact zCH s _)) λgr h6 ip eq=>(nA (ρ:=(tFc 1 1)) (X:=((zT,(0:Rat)),([],([]:List Nat)))) jU (yF (yF (xW (yN dC)) (yN dC)) (yF vC gY)) λb8 iz eh=>?_);have bg:=(Le.p (Le.p (Le.t (Le.q (l:=4*m+11) oM)) (Le.q (l:=m+n+11) oM)) (Le.refl _)).R eh;refine yI (A:=[]) (uB sizeOf53 pH bg eq) λco am=>(go5 ?_);refine lX (aA (xB fQ (Pc.snd (Pc.fst pH)) H)) λgq ep=>?_;subst ep;refine gv (kL mh1 underlying36 I) I (go5 ?_);refine gcL (ι:=Nat×Mem) (λ(kp,mk)=>(MLe h6 mk/\(kp<=Z.length/\aL (zPJ (nfF s (ixZ s) f) Z) Z.length=aL (zPJ (nfF s (ixZ s) f) Z) kp),[(1,vP b1 0),(2,vP b2 0),(4,M),(5,vP b5 0),(7,vI ↑f),(8,vP b8 0),(9,vI ↑kp)],[.var b8 53 co,.gs 53 14 C Z.length ad,.var b5 39 ae,.var b2 39 ct,.var b1 39 cu],mk,kp)) (Z.length,h6) ?_ ?_
  · exact⟨mle,by omega,I⟩
  rintro⟨kp,mk⟩ ⟨fz,ii,ci⟩
  refine xC ?_;refine go2 ?_;refine zJ 12 _ [] [(0,.q),(1,.q),(2,.q),(3,.q),(4,.q),(5,.q),(6,.q),(7,.q),(8,.q),(9,.q),(10,.c),(11,.q)] yA nX (wP zor) nX (λr hr=>hr) (go3 ?_);refine jT ((0:Int)<(↑kp:Int)) (λaq=>?_) (λaq=>?_)
  ·
   rw[xT aq];refine oX I (xB bJ pH am) λgo eo=>(go1 ?_);refine oX I (aA (xB fQ (Pc.snd (Pc.fst pH)) H)) λgn en=>?_;subst en;refine yS I I I (λh' L' hh hR=>yY I) I (go1 ?_);refine yS I I I (λh' L' hh hR=>(xN (kp-1) (hR _ mh1) underlying36 sizeOf53 I I oM oM nP).cv (show _=zM 1 C (((kp-1)*14+0)) from congrArg (zM 1 C) zo0)) I (lY (F:=λv_=>(tFc (4*m+12) (m+n+12)).Is mk v_ (Z.getD (kp-1) zA)) I I I (wZ bJ (Pc.arr (Pc.here _) zA (kp-1) oM) I nP I aa.up I) (sS mh1) I ?_);intro gm em;refine w_c I (zBX I I (sC (ev2 I I) call91 (λw hs=>zJP hs eo em (by first|omega|exact Nat.le_trans (zFO hcd3 oM) dC|exact Nat.le_trans (dl _ (by rw[hF];exact kA (by rw[<-hF];omega))) dC) (by first|omega|exact Nat.le_trans (zFO hcd3 oM) dC|exact Nat.le_trans (dl _ (by rw[hF];exact kA (by rw[<-hF];omega))) dC)) λeb h7 fm el=>?_));obtain rfl:eb=vB (lsF (nfF s (ixZ s) f) (Z.getD (kp-1) zA)):=el;refine gc3 (λav=>?_) λav=>?_
   ·
    refine go9 ?_;refine gqL ((kp-1),h7) ?_ ?_ (he:=⟨I,I,I,I,I,I,congrArg (λz=>some (vI z)) oM,trivial⟩)
    · exact⟨mle,by omega,by rw[ci];exact zP3 oM av⟩
    omega
   refine go8 ?_;refine lX (aA (xB fQ (Pc.snd (Pc.fst pH)) H)) λea ce=>?_;subst ce;refine lX (xV (ρ:=(tFc 1 1)) (wE (ps':=[]) underlying53 jU I I (bQ underlying53) trivial I (yF (yF (xW (yN dC)) (yN dC)) (yF vC gY)) zR)) λdz cd=>(zK (zO (ρ:=(tFc 1 1)) (m:=1) (xs:=[((zT,(0:Rat)),([],([]:List Nat)))]) (ps':=[(0,_)]) underlying36 jU I I I (yF (yF (xW (yN dC)) (yN dC)) (yF vC gY)) e2z (zG I (Pc.arr (Pc.here _) zA 0 dC) cd zR) zon nP) I I I ?_)
   rintro dy fk ⟨dp,rfl,ba⟩
   refine yC (A:=[]) (ρ:=(tFc 1 1)) ba ?_;intro h8 io bi;refine xR (A:=[_]) (uS (zV (ρ:=(tFc (4*m+12) (m+n+12))) (bytes:=264) underlying36 jU I I I I nP I I aa.up (bi.le (Le.s (Le.p (Le.p (Le.t (Le.q (l:=4*m+12) oM)) (Le.q (l:=m+n+12) oM)) (Le.refl _)))) bO bO)) I I I ?_
   rintro aj fj ⟨ah,dn,rfl,az⟩
   refine go1 ?_;refine yI (A:=[_,_]) (uB sizeOf36 (Pc.snd (Pc.fst pH)) H (j8 ah)) λcn ac=>(go3 ?_);refine lK (A:=[_]) (by rw[lAz];exact Nat.succ_pos _) (λob fu ao ap=>?_);refine qO (A:=[_]) 10 [] [(0,.q),(1,.q),(2,.q),(3,.q),(4,.q),(5,.q),(6,.q),(7,.q),(8,.q),(9,.c)] yA nX zor nX (go1 ?_);refine wX I (aA (xB fQ (Pc.snd (Pc.fst pH)) ac)) λdx cc=>?_;subst cc;refine go2 ?_;refine wC I (λ_ _=>jC (kp+1) underlying36 sizeOf53 I I ⟨_,_,ao,ap⟩ oM zox) I (go1 ?_);refine wX I (aA (xB fQ (Pc.snd (Pc.fst pH)) ac)) λdw cb=>?_;subst cb;refine go1 ?_;refine wC I (λ_ _=>jC kp underlying36 sizeOf53 I I ⟨_,_,ao,ap⟩ oM zox) I ?_;refine w_c I (tG (A:=[_]) (λX=>mE (ρ:=(tFc (4*m+12) (m+n+12))) kp ao ap underlying36 sizeOf53 I I zox az) I (wH zov) ?_)
   rintro dv fi ⟨ft,rfl,bq⟩
   refine go4 ?_;refine lX (aA (xB fQ (Pc.snd (Pc.fst pH)) ac)) λdu ca=>?_;subst ca;refine go1 ?_;refine lX (xB bJ pH am) λdt bz=>(gv ((xN kp mh1 underlying36 sizeOf53 I I oM (by rw[fC zox];simp only[lAz,lC,lN];omega) nP).cv (show _=zM 1 aj ((kp*14+0)) from congrArg (zM 1 aj) zo0)) I (fK (A:=[_]) (F:=λc_=>RL (tFc (4*m+12) (m+n+12)) h8 c_ ((tU (Z++[((zT,(0:Rat)),([],([]:List Nat)))]) kp).set kp (nfF s (ixZ s) f))) (cS sizeOf53 (Pc.arr (Pc.here _) zA kp (by rw[fC zox];simp only[lAz,lC,lN];omega)) I nP I I bq (bz.le (Le.p (Le.p (Le.t (Le.q (l:=4*m+12) oM)) (Le.q (l:=m+n+12) oM)) (Le.refl _))) I) ?_));intro cm bp;refine go8 ?_;refine xO (A:=[]) ?_;refine gqL ((f+1),((tU (Z++[((zT,(0:Rat)),([],([]:List Nat)))]) kp).set kp (nfF s (ixZ s) f)),M,cn,aj,cm,h8) ?_ ?_
   · exact⟨mle,ak.up,ac,bp,ah,by omega,by rw[mB oM];have ch:aL (zPJ (nfF s (ixZ s) f) Z) Z.length=kp:=by{rw[ci];exact zGS (λe=>by first|omega|exact av e.2)};rw[<-ch,hF];rfl⟩
   omega
  rw[yM aq];refine go7 ?_;refine w_c I (mD I I I I (qE ?_));refine lX (aA (xB fQ (Pc.snd (Pc.fst pH)) H)) λea ce=>?_;subst ce;refine lX (xV (ρ:=(tFc 1 1)) (wE (ps':=[]) underlying53 jU I I (bQ underlying53) trivial I (yF (yF (xW (yN dC)) (yN dC)) (yF vC gY)) zR)) λdz cd=>(zK (zO (ρ:=(tFc 1 1)) (m:=1) (xs:=[((zT,(0:Rat)),([],([]:List Nat)))]) (ps':=[(0,_)]) underlying36 jU I I I (yF (yF (xW (yN dC)) (yN dC)) (yF vC gY)) e2z (zG I (Pc.arr (Pc.here _) zA 0 dC) cd zR) zon nP) I I I ?_)
  rintro dy fk ⟨dp,rfl,ba⟩
  refine yC (A:=[]) (ρ:=(tFc 1 1)) ba ?_;intro h7 fm bh;refine xR (A:=[_]) (uS (zV (ρ:=(tFc (4*m+12) (m+n+12))) (bytes:=264) underlying36 jU I I I I nP I I aa.up (bh.le (Le.s (Le.p (Le.p (Le.t (Le.q (l:=4*m+12) oM)) (Le.q (l:=m+n+12) oM)) (Le.refl _)))) bO bO)) I I I ?_
  rintro aj fj ⟨ah,dn,rfl,az⟩
  refine go1 ?_;refine yI (A:=[_,_]) (uB sizeOf36 (Pc.snd (Pc.fst pH)) H (j8 ah)) λcl ab=>(go3 ?_);refine lK (A:=[_]) (by rw[lAz];exact Nat.succ_pos _) (λob fu ao ap=>?_);refine qO (A:=[_]) 10 [] [(0,.q),(1,.q),(2,.q),(3,.q),(4,.q),(5,.q),(6,.q),(7,.q),(8,.q),(9,.c)] yA nX zor nX (go1 ?_);refine wX I (aA (xB fQ (Pc.snd (Pc.fst pH)) ab)) λdx cc=>?_;subst cc;refine go2 ?_;refine wC I (λ_ _=>jC (kp+1) underlying36 sizeOf53 I I ⟨_,_,ao,ap⟩ oM zox) I (go1 ?_);refine wX I (aA (xB fQ (Pc.snd (Pc.fst pH)) ab)) λdw cb=>?_;subst cb;refine go1 ?_;refine wC I (λ_ _=>jC kp underlying36 sizeOf53 I I ⟨_,_,ao,ap⟩ oM zox) I ?_;refine w_c I (tG (A:=[_]) (λX=>mE (ρ:=(tFc (4*m+12) (m+n+12))) kp ao ap underlying36 sizeOf53 I I zox az) I (wH zov) ?_)
  rintro dv fi ⟨fs,rfl,bo⟩
  refine go4 ?_;refine lX (aA (xB fQ (Pc.snd (Pc.fst pH)) ab)) λdu ca=>?_;subst ca;refine go1 ?_;refine lX (xB bJ pH am) λdt bz=>(gv ((xN kp mh1 underlying36 sizeOf53 I I oM (by rw[fC zox];simp only[lAz,lC,lN];omega) nP).cv (show _=zM 1 aj ((kp*14+0)) from congrArg (zM 1 aj) zo0)) I (fK (A:=[_]) (F:=λc_=>RL (tFc (4*m+12) (m+n+12)) h7 c_ ((tU (Z++[((zT,(0:Rat)),([],([]:List Nat)))]) kp).set kp (nfF s (ixZ s) f))) (cS sizeOf53 (Pc.arr (Pc.here _) zA kp (by rw[fC zox];simp only[lAz,lC,lN];omega)) I nP I I bo (bz.le (Le.p (Le.p (Le.t (Le.q (l:=4*m+12) oM)) (Le.q (l:=m+n+12) oM)) (Le.refl _))) I) ?_));intro ck bn;refine go8 ?_;refine xO (A:=[]) ?_;refine gqL ((f+1),((tU (Z++[((zT,(0:Rat)),([],([]:List Nat)))]) kp).set kp (nfF s (ixZ s) f)),M,cl,aj,ck,h7) ?_ ?_
  · exact⟨mle,ak.up,ab,bn,ah,by omega,by rw[mB oM];have ch:aL (zPJ (nfF s (ixZ s) f) Z) Z.length=kp:=by{rw[ci];exact zGS (λe=>by first|omega|exact av e.2)};rw[<-ch,hF];rfl⟩
  omega
 have ef:f=s.2.1.length:=by omega
 refine go7 ?_;refine lX (xB gV pH H) λgk ek=>?_;have bf:=(Le.p (Le.s (Le.t (Le.q (l:=k+1) oM))) (Le.p (Le.refl _) (Le.s (Le.p (Le.refl _) (Le.p (Le.refl _) (Le.q (l:=j+1) oM)))))).R di;refine yI (A:=[_,_]) (uB sizeOf39 pH bf ek) λfr bu=>(go3 ?_);have fq:Z=nrF s:=by rw[hF,ef];exact(if_pos bd).symm
 have fp:PS=nrP s:=by rw[hP,ei];exact(if_pos bd).symm
 subst fq;subst fp;refine uJ (fV (t:=2) gV mh2 I bu) ?_;intro fv bc bm;refine gR (.cons_cons _ (List.nil_sublist _)) (λE S=>yE I bc E S) ?_;exact⟨_,_,(Rp.Is.cast bm (by rw[show nrE s=s.2.2 from if_pos bd])),I,cg,aa.up⟩
end
end Go.Proofs.YtpkaegemlpaenaaGreat
namespace Bk
open Go Go.RowKit
section
variable {P:Program}{n:Nat}{w0:World}{h0:Mem}{e:List (Nat×Value)}{L:List Res}{h:Mem}{Q:Exit->Act->World->Prop}{ds:Option Tmp}{ty:TypeId}{ps:String}{af:Array Edge}{gd:Option (Nat×Bool)}{α β:Type}
variable {E:TypeId}{cs:List Value}{v:Value}{ρ:Rp α}{σ:Rp β}{g:List α->β}{s:List α->β->List α}{xs:List α}{off k:Nat}
theorem zJK{w:World}{h':Mem}(hm:.gs E ρ.n v xs.length cs∈L)(pc:Pc (rpA xs.length ρ) off σ g s)(hp:0<σ.n)(r:RL ρ h cs xs)(S:St w0 h0 L h' w):
 ∃b o',∀d,zM 1 v (off+d)=vP b (o'+off+d):=by
 have hf:off+σ.n<=xs.length*ρ.n:=pc.fits;have D:=r.len;obtain⟨b,o',H,C,_⟩:=zK7 (l:=1) (zJF hm S) zot (show off+1<=cs.length by omega);refine⟨b,o',λd=>?_⟩;rw[C];simp[zM,jR,Nat.add_assoc]
theorem rS{x:Operand}(pc:Pc (rpA xs.length ρ) off σ g s)(hk:k=off)(hp:0<σ.n)(r:RL ρ h cs xs)(hm:.gs E ρ.n v xs.length cs∈L)(hx:zI e x=some (zM 1 v k)):
 OpV P n w0 h0 ⟨ds,.nilCheck x,ty,ps,af,gd⟩ e L h (zM 1 v k):=by
 subst hk;intro a w D S;obtain⟨b,o',H⟩:=zJK hm pc hp r S;have C:=H 0;rw[Nat.add_zero,Nat.add_zero] at C;rw[C] at hx ⊢;exact gH hx a w D S
theorem fW{t:TypeId}{x:Operand}{f:Nat}{fs:Array Field}{fl:Field}{m:Nat}(pc:Pc (rpA xs.length ρ) off σ g s)(hk:k=off)(hp:0<σ.n)(r:RL ρ h cs xs)(hm:.gs E ρ.n v xs.length cs∈L)(ht:P.underlying t=some (.struct fs))(hf:fs[f]?=some fl)(hsz:∀w,(Go.sizeOf fl.type).run P w=.ok (m+1) w)(hx:zI e x=some (zM 1 v k)):
 OpV P n w0 h0 ⟨ds,.fieldAddr t x f,ty,ps,af,gd⟩ e L h (zM 1 v (k+fl.offset)):=by
 subst hk;intro a w D S;obtain⟨b,o',H⟩:=zJK hm pc hp r S;have C:=H 0;rw[Nat.add_zero,Nat.add_zero] at C;rw[H];rw[C] at hx;exact xU ht hf hsz hx a w D S
theorem sM{t E':TypeId}{x y:Operand}{m sz:Nat}{q:Int}(i:Nat)(pc:Pc (rpA xs.length ρ) off σ g s)(hk:k=off)(hp:0<σ.n)(r:RL ρ h cs xs)(hm:.gs E ρ.n v xs.length cs∈L)(ht:P.underlying t=some (.array m E'))(hsz:∀w,(Go.sizeOf E').run P w=.ok sz w)(hx:zI e x=some (zM 1 v k))(hy:zI e y=some (vI q))(hq:q=(i:Int))(hi:i<m):
 OpV P n w0 h0 ⟨ds,.indexAddr t x y,ty,ps,af,gd⟩ e L h (zM 1 v (k+i*sz)):=by
 subst hk;intro a w D S;obtain⟨b,o',H⟩:=zJK hm pc hp r S;have C:=H 0;rw[Nat.add_zero,Nat.add_zero] at C;rw[H];rw[C] at hx;exact yG i ht hsz hx hy hq hi a w D S
end
end Bk
