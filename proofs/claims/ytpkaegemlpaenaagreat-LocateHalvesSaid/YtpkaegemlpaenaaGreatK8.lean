/- Texts that the proof needs, part 8. -/
import Derived.Test.YtpkaegemlpaenaaGreatK7
set_option linter.unusedVariables false
set_option linter.unusedSimpArgs false
namespace Bk
open Classical
def cI(u:PI):P2:=((u.1:Rat),(u.2:Rat))
abbrev BE:=PI×PI×Int
def fBE(e:BE)(y:Int):Int:=e.1.1*(e.2.1.2-e.1.2)+(e.2.1.1-e.1.1)*(y-e.1.2)
def hBE(e:BE):Int:=e.2.1.2-e.1.2
def zX2(k:Int)(a b:BE):Bool:=decide (fBE a k*hBE b<=fBE b k*hBE a)&&decide (fBE a (k+1)*hBE b<=fBE b (k+1)*hBE a)
def mdBE(k:Int)(a b:BE):Bool:=decide ((fBE a k+fBE a (k+1))*hBE b<=(fBE b k+fBE b (k+1))*hBE a)
def zRD(k:Int)(e:BE):List BE->List BE
  |[]=>[e]
  |x::r=>if mdBE k e x then e::x::r else x::zRD k e r
def zVI(k:Int):List BE->List BE
  |[]=>[]
  |x::r=>zRD k x (zVI k r)
def lQ(k:Int):List (PI×PI)->List BE
  |[]=>[]
  |x::r=>if x.1.2<=k/\k<x.2.2 then(x.1,x.2,1)::lQ k r else if x.2.2<=k/\k<x.1.2 then(x.2,x.1,-1)::lQ k r else lQ k r
def zNN(k:Int):List BE->Bool
  |[]=>true
  |[_]=>false
  |[a,b]=>decide (a.2.2= -1/\b.2.2=1)&&zX2 k a b
  |a::b::c::r=>decide (a.2.2= -1/\b.2.2=1)&&zX2 k a b&&zX2 k b c&&zNN k (c::r)
def edI(S:List (List PI)):List (PI×PI):=S.flatMap λs=>(List.range s.length).map λm=>(gI s m,gI s ((m+1)%s.length))
def yJM(lo n:Nat)(S:List (List PI)):Bool:=(edI S).all (λx=>decide (-(lo:Int)<=x.1.2/\x.1.2<=(n:Int))&&decide (-(lo:Int)<=x.2.2/\x.2.2<=(n:Int)))&&(List.range (lo+n)).all λ(k:Nat)=>zNN ((k:Int)-(lo:Int)) (zVI ((k:Int)-(lo:Int)) (lQ ((k:Int)-(lo:Int)) (edI S)))
noncomputable def nD(q:P2):List (PI×PI)->Int
  |[]=>0
  |x::r=>c2Z (cI x.1) (cI x.2) q+nD q r
def cD(q:P2)(e:BE):Prop:=0<cr (cI e.1) (cI e.2.1) q
noncomputable def zEN(q:P2):List BE->Int
  |[]=>0
  |e::r=>(if cD q e then e.2.2 else 0)+zEN q r
theorem zMY{a b:Int}:(a:Rat)<=(b:Rat)↔a<=b:=by rw[<-Rat.not_lt,Rat.intCast_lt_intCast,Int.not_lt]
section
variable {q:P2}{k:Int}(hk:(k:Rat)<=q.2/\q.2<((k+1:Int):Rat))
include hk
theorem zDB(a:Int):(a:Rat)<=q.2↔a<=k:=by
 constructor
 · intro h
   have h1:(a:Rat)<((k+1:Int):Rat):=by grind
   have:=Rat.intCast_lt_intCast.1 h1;omega
 · intro h
   have:=zMY.2 h;grind
theorem zHN:∀E:List (PI×PI),nD q E=zEN q (lQ k E)
  |[]=>rfl
  |x::r=>by
   have ih:=zHN r
   show c2Z (cI x.1) (cI x.2) q+nD q r=zEN q (lQ k (x::r))
   rw[ih];unfold c2Z uO orZ;have e1:(cI x.1).2<=q.2↔x.1.2<=k:=zDB hk x.1.2;have e2:(cI x.2).2<=q.2↔x.2.2<=k:=zDB hk x.2.2;have ec:cr (cI x.2) (cI x.1) q= -cr (cI x.1) (cI x.2) q:=by unfold cr;grind
   simp only[aF,qZ];rw[show lQ k (x::r)=(if x.1.2<=k/\k<x.2.2 then(x.1,x.2,1)::lQ k r else if x.2.2<=k/\k<x.1.2 then(x.2,x.1,-1)::lQ k r else lQ k r) from I]
   by_cases c1:x.1.2<=k/\k<x.2.2
   · rw[if_pos c1]
     show _=(if cD q (x.1,x.2,1) then 1 else 0)+_
     have:cD q (x.1,x.2,1)↔0<cr (cI x.1) (cI x.2) q:=Iff.rfl;have J:¬(cI x.2).2<=q.2:=λe=>by have:=e2.1 e;omega
     have C:(cI x.1).2<=q.2:=e1.2 c1.1
     by_cases h:0<cr (cI x.1) (cI x.2) q
     · rw[if_pos (this.2 h),if_pos ⟨λe=>J (e.1 C),.inl ⟨C,h⟩⟩,if_pos C]
     · rw[if_neg λe=>h (this.1 e),if_neg λe=>e.2.elim (λe=>h e.2) (λe=>J e.1)]
   · rw[if_neg c1]
     by_cases c2:x.2.2<=k/\k<x.1.2
     · rw[if_pos c2]
       show _=(if cD q (x.2,x.1,-1) then -1 else 0)+_
       have:cD q (x.2,x.1,-1)↔cr (cI x.1) (cI x.2) q<0:=by
        show 0<cr (cI x.2) (cI x.1) q↔_
        rw[ec];constructor<;>intro h<;>grind
       have D:¬(cI x.1).2<=q.2:=λe=>by have:=e1.1 e;omega
       have H:(cI x.2).2<=q.2:=e2.2 c2.1
       by_cases h:cr (cI x.1) (cI x.2) q<0
       · rw[if_pos (this.2 h),if_pos ⟨λe=>D (e.2 H),.inr ⟨H,h⟩⟩,if_neg D]
       · rw[if_neg λe=>h (this.1 e),if_neg λe=>e.2.elim (λe=>D e.1) (λe=>h e.2)]
     · rw[if_neg c2,if_neg λe=>e.1 (by rw[e1,e2];omega),Int.zero_add]
omit hk in
theorem zD8:∀E:List (PI×PI),∀e,e∈lQ k E->e.1.2<=k/\k<e.2.1.2
  |[],_,h=>by cases h
  |x::r,e,h=>by
   unfold lQ at h
   split at h
   · rename_i c
     rcases List.mem_cons.1 h with rfl|h
     · exact c
     · exact zD8 r e h
   · split at h
     · rename_i c
       rcases List.mem_cons.1 h with rfl|h
       · exact c
       · exact zD8 r e h
     · exact zD8 r e h
theorem dP{a b:BE}(ha:a.1.2<=k/\k<a.2.1.2)(hb:b.1.2<=k/\k<b.2.1.2)(h:zX2 k a b=true)(hl:cD q a):cD q b:=by
 unfold zX2 at h;rw[Bool.and_eq_true,decide_eq_true_iff,decide_eq_true_iff] at h;have h1:=zMY.2 h.1;have h2:=zMY.2 h.2;have M:(0:Rat)<((hBE a:Int):Rat):=Rat.intCast_pos.2 (by unfold hBE;omega);have J:(0:Rat)<((hBE b:Int):Rat):=Rat.intCast_pos.2 (by unfold hBE;omega);have C:∀e:BE,cr (cI e.1) (cI e.2.1) q=((fBE e k:Int):Rat)+(q.2-(k:Rat))*(((fBE e (k+1):Int):Rat)-((fBE e k:Int):Rat))-((hBE e:Int):Rat)*q.1:=λe=>by
  unfold cr cI fBE hBE;simp only[Rat.intCast_add,Rat.intCast_sub,Rat.intCast_mul];have:((1:Int):Rat)=1:=I;rw[this];grind
 unfold cD at *;rw[C] at hl ⊢;simp only[Rat.intCast_mul] at h1 h2;have H:0<=q.2-(k:Rat):=by grind
 have D:0<=1-(q.2-(k:Rat)):=by
  have:=hk.2;simp only[Rat.intCast_add] at this;have o:((1:Int):Rat)=1:=I;rw[o] at this;grind
 generalize ((hBE a:Int):Rat)=x at *;generalize ((hBE b:Int):Rat)=y at *;generalize ((fBE a k:Int):Rat)=a0 at *;generalize ((fBE a (k+1):Int):Rat)=a1 at *;generalize ((fBE b k:Int):Rat)=b0 at *;generalize ((fBE b (k+1):Int):Rat)=b1 at *;generalize q.2-(k:Rat)=t at *;have Z:=xD J hl;have U:=zod D (show 0<=b0*x-a0*y by grind);have O:=zod H (show 0<=b1*x-a1*y by grind);rw[<-uE M];grind
theorem zR9:∀{B:List BE},(∀e,e∈B->e.1.2<=k/\k<e.2.1.2)->zNN k B=true->(∀e,B.head?=some e->cD q e)->zEN q B=0
  |[],_,_,_=>rfl
  |[_],_,h,_=>Bool.noConfusion h
  |[a,b],hu,h,hh=>by
   unfold zNN at h;rw[Bool.and_eq_true,decide_eq_true_iff] at h;have la:=hh a rfl;have lb:=dP hk (hu a zoy) (hu b zoy) h.2 la
   show(if cD q a then a.2.2 else 0)+((if cD q b then b.2.2 else 0)+0)=0
   rw[if_pos la,if_pos lb,h.1.1,h.1.2];rfl
  |a::b::c::r,hu,h,hh=>by
   unfold zNN at h;rw[Bool.and_eq_true,Bool.and_eq_true,Bool.and_eq_true,decide_eq_true_iff] at h;have la:=hh a rfl;have lb:=dP hk (hu a zoy) (hu b zoy) h.1.1.2 la;have lc:=dP hk (hu b zoy) (hu c zoy) h.1.2 lb;have ih:=zR9 (B:=c::r) (λe he=>hu e (.tail _ (.tail _ he))) h.2 λe he=>by
    have:c=e:=by simpa using he
    exact this▸lc
   show(if cD q a then a.2.2 else 0)+((if cD q b then b.2.2 else 0)+zEN q (c::r))=0
   rw[if_pos la,if_pos lb,h.1.1.1.1,h.1.1.1.2,ih];rfl
theorem zZ1:∀{B:List BE},(∀e,e∈B->e.1.2<=k/\k<e.2.1.2)->zNN k B=true->zEN q B=0\/zEN q B=1
  |[],_,_=>.inl rfl
  |[_],_,h=>Bool.noConfusion h
  |[a,b],hu,h=>by
   unfold zNN at h;rw[Bool.and_eq_true,decide_eq_true_iff] at h;have hl:=dP hk (hu a zoy) (hu b zoy) h.2
   show(if cD q a then a.2.2 else 0)+((if cD q b then b.2.2 else 0)+0)=0\/(if cD q a then a.2.2 else 0)+((if cD q b then b.2.2 else 0)+0)=1
   rw[h.1.1,h.1.2]
   by_cases c1:cD q a
   · rw[if_pos c1,if_pos (hl c1)];exact .inl rfl
   · rw[if_neg c1]
     by_cases c2:cD q b
     · rw[if_pos c2];exact .inr rfl
     · rw[if_neg c2];exact .inl rfl
  |a::b::c::r,hu,h=>by
   unfold zNN at h;rw[Bool.and_eq_true,Bool.and_eq_true,Bool.and_eq_true,decide_eq_true_iff] at h;have hl:=dP hk (hu a zoy) (hu b zoy) h.1.1.2;have hc:=dP hk (hu b zoy) (hu c zoy) h.1.2
   show(if cD q a then a.2.2 else 0)+((if cD q b then b.2.2 else 0)+zEN q (c::r))=0\/(if cD q a then a.2.2 else 0)+((if cD q b then b.2.2 else 0)+zEN q (c::r))=1
   rw[h.1.1.1.1,h.1.1.1.2]
   by_cases c2:cD q b
   · have h0:=zR9 hk (B:=c::r) (λe he=>hu e (.tail _ (.tail _ he))) h.2 λe he=>by
      have:c=e:=by simpa using he
      exact this▸hc c2
     rw[if_pos c2,h0]
     by_cases c1:cD q a
     · rw[if_pos c1];exact .inl I
     · rw[if_neg c1];exact .inr I
   · rw[if_neg c2,if_neg λe=>c2 (hl e)]
     have C:=zZ1 (B:=c::r) (λe he=>hu e (.tail _ (.tail _ he))) h.2;omega
end
theorem zMV(k:Int)(e:BE):∀l,(zRD k e l).Perm (e::l)
  |[]=>.refl _
  |x::r=>by
   unfold zRD
   split
   · exact .refl _
   · exact((zMV k e r).cons x).trans (.swap e x r)
theorem zEO(k:Int):∀l,(zVI k l).Perm l
  |[]=>.refl _
  |x::r=>(zMV k x _).trans ((zEO k r).cons x)
theorem zSK{q:P2}{a b:List BE}(h:a.Perm b):zEN q a=zEN q b:=by
 induction h with
 |nil=>rfl
 |cons x _ ih=>show _+_=_+_;rw[ih]
 |swap x y l=>show(if cD q y then y.2.2 else 0)+((if cD q x then x.2.2 else 0)+_)=(if cD q x then x.2.2 else 0)+((if cD q y then y.2.2 else 0)+_);omega
 |trans _ _ h1 h2=>exact h1.trans h2
theorem yC9{lo n:Nat}{S:List (List PI)}(h:yJM lo n S=true)(q:P2):nD q (edI S)=0\/nD q (edI S)=1:=by
 unfold yJM at h;rw[Bool.and_eq_true] at h;have hk:((q.2.floor:Int):Rat)<=q.2/\q.2<((q.2.floor+1:Int):Rat):=⟨Rat.floor_le q.2,Rat.lt_floor_add_one q.2⟩;generalize q.2.floor=k at hk;rw[zHN hk]
 by_cases hr:-(lo:Int)<=k/\k<n
 · have h1:=zob.1 h.2 (k+lo).toNat (zog.2 zoq)
   rw[show(((k+(lo:Int)).toNat:Int)-(lo:Int))=k by omega] at h1;rw[<-zSK (zEO k _)];exact zZ1 hk (λe he=>zD8 (edI S) e ((zEO k _).mem_iff.1 he)) h1
 · have h0:lQ k (edI S)=[]:=by
    refine List.eq_nil_iff_forall_not_mem.2 λe he=>?_;have aux:∀E:List (PI×PI),(∀x,x∈E->(-(lo:Int)<=x.1.2/\x.1.2<=(n:Int))/\(-(lo:Int)<=x.2.2/\x.2.2<=(n:Int)))->lQ k E=[]:=by
     intro E
     induction E with
     |nil=>intro _;rfl
     |cons x r ih=>
      intro hE;have hx:=hE x (.head _);unfold lQ;rw[if_neg zoq,if_neg zoq];exact ih λy hy=>hE y (.tail _ hy)
    rw[aux _ λx hx=>by
     have:=zob.1 h.1 x hx;rw[Bool.and_eq_true,decide_eq_true_iff,decide_eq_true_iff] at this;exact this] at he
    cases he
   rw[h0];exact .inl I
def zZ2(I:SI):Bool:=I.2.all λf=>yJM 0 4 (f.2.2.1.map (flI (rJ f.1) I.1))
theorem yJK:bxC zZ2=true:=by decide +kernel
theorem yJL:baC zZ2=true:=by decide +kernel
theorem yJI:trC zZ2=true:=by decide +kernel
theorem yJJ:teC zZ2=true:=by decide +kernel
theorem yCS{I:SI}(h:yCT I):zZ2 I=true:=yCR yJK yJL yJI yJJ h
theorem zBU(q:P2):∀a b:List (PI×PI),nD q (a++b)=nD q a+nD q b
  |[],b=>by show _=0+_;rw[Int.zero_add];rfl
  |x::r,b=>by
   show c2Z (cI x.1) (cI x.2) q+nD q (r++b)=c2Z (cI x.1) (cI x.2) q+nD q r+_
   rw[zBU q r b];omega
theorem yD3(a:Nat×Nat)(P:List I3){x:List Int}{m:Nat}(h:m<x.length):gI (flI a P x) m=(aI3 (g3 P (x.getD m 0).toNat) a.1,aI3 (g3 P (x.getD m 0).toNat) a.2):=by
 unfold gI flI;exact rD (λk:Int=>(aI3 (g3 P k.toNat) a.1,aI3 (g3 P k.toNat) a.2)) 0 (0,0) h
theorem yDP(v u:I3)(i j:Nat):pr (cP v u) i j=((cI (aI3 u i,aI3 u j)).1+((aI3 v i:Int):Rat),(cI (aI3 u i,aI3 u j)).2+((aI3 v j:Int):Rat)):=by
 unfold pr cI;rw[zGR,zGR,Rat.intCast_add,Rat.intCast_add];refine Prod.ext ?_ ?_
 · show _+_=_+_;grind
 · show _+_=_+_;grind
section
variable {v:I3}{I:SI}{s:Sd}
theorem yEQ(h:aI v I s)(hb:chI I=true){f:Nat}(hf:f<I.2.length)(q:Pt):∃q':P2,wnS s f q=nD q' (edI ((I.2.getD f fi0).2.2.1.map (flI (rJ (I.2.getD f fi0).1) I.1))):=by
 obtain⟨c1,c2⟩:=zD0 h hb hf;obtain⟨r,hr,hpl⟩:=zFV (h.2.2.2 f hf);have hax:=zJ0 (v:=v) (f:=I.2.getD f fi0) hr;rw[<-hpl] at hax;have hai:axI (yX s f)=(rJ (I.2.getD f fi0).1).1:=hax.1;have haj:axJ (yX s f)=(rJ (I.2.getD f fi0).1).2:=hax.2;refine⟨((pr q (rJ (I.2.getD f fi0).1).1 (rJ (I.2.getD f fi0).1).2).1-((aI3 v (rJ (I.2.getD f fi0).1).1:Int):Rat),(pr q (rJ (I.2.getD f fi0).1).1 (rJ (I.2.getD f fi0).1).2).2-((aI3 v (rJ (I.2.getD f fi0).1).2:Int):Rat)),?_⟩;unfold wnS;rw[hai,haj,c1];generalize hA:rJ (I.2.getD f fi0).1=A at *;generalize hL:(I.2.getD f fi0).2.2.1=L at *;generalize hQ:pr q A.1 A.2=Q;have hq:Q=((Q.1-((aI3 v A.1:Int):Rat))+((aI3 v A.1:Int):Rat),(Q.2-((aI3 v A.2:Int):Rat))+((aI3 v A.2:Int):Rat)):=by
  refine Prod.ext ?_ ?_
  · show _=_-_+_;grind
  · show _=_-_+_;grind
 have hloop:∀l,l<L.length->∀m,m<=(L.getD l []).length->wnT (gl (xE s f) l) Q A.1 A.2 m=nD (Q.1-((aI3 v A.1:Int):Rat),Q.2-((aI3 v A.2:Int):Rat)) ((List.range m).map λm=>(gI (flI A I.1 (L.getD l [])) m,gI (flI A I.1 (L.getD l [])) ((m+1)%(flI A I.1 (L.getD l [])).length))):=by
  intro l hl m;obtain⟨c3,c4⟩:=c2 l hl;have hfl:(flI A I.1 (L.getD l [])).length=(L.getD l []).length:=List.length_map _
  induction m with
  |zero=>intro _;rfl
  |succ m ih=>
   intro hm;rw[List.range_succ,List.map_append,zBU,<-ih zoq]
   show wnT (gl (xE s f) l) Q A.1 A.2 m+c2Z (pr (gp (gl (xE s f) l) m) A.1 A.2) (pr (gp (gl (xE s f) l) ((m+1)%(gl (xE s f) l).length)) A.1 A.2) Q=_+(c2Z (cI (gI (flI A I.1 (L.getD l [])) m)) (cI (gI (flI A I.1 (L.getD l [])) ((m+1)%(flI A I.1 (L.getD l [])).length))) _+0)
   have hmod:(m+1)%(L.getD l []).length<(L.getD l []).length:=Nat.mod_lt _ zoq;rw[c3,hfl,yD3 A I.1 (show m<(L.getD l []).length by omega),yD3 A I.1 hmod,c4 m zoq,c4 _ hmod,yDP,yDP,Int.add_zero]
   congr 1
   refine(congrArg (c2Z _ _) hq).trans ?_;exact zNK (q:=(Q.1-((aI3 v A.1:Int):Rat),Q.2-((aI3 v A.2:Int):Rat))) (((aI3 v A.1:Int):Rat),((aI3 v A.2:Int):Rat))
 have hall:∀n,n<=L.length->wnF (xE s f) Q A.1 A.2 n=nD (Q.1-((aI3 v A.1:Int):Rat),Q.2-((aI3 v A.2:Int):Rat)) (edI ((L.take n).map (flI A I.1))):=by
  intro n
  induction n with
  |zero=>intro _;rfl
  |succ n ih=>
   intro hn;have hn':n<L.length:=by omega
   rw[List.take_succ_eq_append_getElem hn',List.map_append];unfold edI;rw[List.flatMap_append,zBU]
   show wnF (xE s f) Q A.1 A.2 n+wnT (gl (xE s f) n) Q A.1 A.2 (gl (xE s f) n).length=_
   have e:=ih zoq;unfold edI at e;rw[e]
   congr 1
   obtain⟨c3,c4⟩:=c2 n hn';have hg:L[n]=L.getD n []:=by rw[zoa,zoc hn'];rfl
   rw[c3,hloop n hn' _ (Nat.le_refl _),hg]
   show _=nD _ (List.flatMap _ [flI A I.1 (L.getD n [])])
   rw[List.flatMap_cons,List.flatMap_nil,List.append_nil];have hfl:(flI A I.1 (L.getD n [])).length=(L.getD n []).length:=List.length_map _;rw[hfl]
 have:=hall _ (Nat.le_refl _);rw[List.take_length] at this;exact this
end
theorem yFZ{s:Sd}(h:yF0 s):wnP s:=by
 obtain⟨v,I,D,J,C⟩:=h;intro f hf q _;rw[C.2.2.1] at hf;obtain⟨H,e⟩:=yEQ C (zPY D) hf q;rw[e];have h1:=zob.1 (yCS D) _ (kA (d:=fi0) hf);exact yC9 h1 H
def trI(f:FI)(P:List I3):List I3:=(f.2.2.1.getD 0 []).map λk=>g3 P k.toNat
def sc3(a:Nat×Nat)(u:I3):PI:=(3*aI3 u a.1,3*aI3 u a.2)
def sm3(l:List I3):I3:=l.foldl (λs u=>(s.1+u.1,s.2.1+u.2.1,s.2.2+u.2.2)) z3
def zNZ(I:SI):Bool:=(decide (I.1.length=4/\0<I.2.length)&&I.2.all λf=>(I.1.all λu=>decide (dt3 f.1 u<=f.2.1))&&I.1.any λu=>decide (dt3 f.1 u<f.2.1))&&
  (decide ((I.2.getD 0 fi0).2.2.1.length=1/\((I.2.getD 0 fi0).2.2.1.getD 0 []).length=3)&&decide (inI ((trI (I.2.getD 0 fi0) I.1).map (sc3 (rJ (I.2.getD 0 fi0).1))) (aI3 (sm3 (trI (I.2.getD 0 fi0) I.1)) (rJ (I.2.getD 0 fi0).1).1,aI3 (sm3 (trI (I.2.getD 0 fi0) I.1)) (rJ (I.2.getD 0 fi0).1).2)=1)&&
   (List.range I.2.length).all λg=>decide (g=0)||decide (dt3 (I.2.getD g fi0).1 (sm3 (trI (I.2.getD 0 fi0) I.1))<3*(I.2.getD g fi0).2.1))
theorem yFB:teC zNZ=true:=by decide +kernel
section
variable {v:I3}{I:SI}{s:Sd}
theorem zKA(h:aI v I s){f:Nat}(hf:f<I.2.length):∃r:Rat,0<r/\(∀u:I3,hnF s (cP v u) f=r*(((I.2.getD f fi0).2.1-dt3 (I.2.getD f fi0).1 u:Int):Rat))/\∀a b c:I3,3*hnF s (scT (1/3) (xZ (xZ (cP v a) (cP v b)) (cP v c))) f=hnF s (cP v a) f+hnF s (cP v b) f+hnF s (cP v c) f:=by
 obtain⟨r,D,C⟩:=zFV (h.2.2.2 f hf);refine⟨r,D,λu=>?_,λa b c=>?_⟩
 · have h1:=zQ4 v u (I.2.getD f fi0) r
   rw[<-C] at h1;unfold hgt at h1;unfold hnF;rw[Rat.intCast_sub] at h1 ⊢;grind
 · unfold hnF zE scT xZ
   grind
theorem zVB(h:aI v I s)(hb:chI I=true)(ht:zNZ I=true):yEB s:=by
 unfold zNZ at ht;rw[Bool.and_eq_true,Bool.and_eq_true] at ht;intro f hf g D l hl k hk;rw[h.2.2.1] at hf D;obtain⟨c1,c2⟩:=zD0 h hb D;obtain⟨c3,Z⟩:=c2 l zoq;rw[Z k zoq];obtain⟨r,O,h1,_⟩:=zKA h hf;have h2:=h1 (g3 I.1 (((I.2.getD g fi0).2.2.1.getD l []).getD k 0).toNat);have C:=zob.1 ht.1.2 _ (kA (d:=fi0) hf);rw[Bool.and_eq_true] at C;have J:=(zPF h hb D).1;have e:(s.2.1.getD g zA).2.1=(I.2.getD g fi0).2.2.1:=congrArg Prod.fst (h.2.2.2 g D).2;have H:=J l (by rw[e];omega) k (by rw[e];omega);rw[e,cA h] at H;have h3:=of_decide_eq_true (zob.1 C.1 (g3 I.1 (((I.2.getD g fi0).2.2.1.getD l []).getD k 0).toNat) (kA (d:=z3) zoq));have U:(0:Rat)<=(((I.2.getD f fi0).2.1-dt3 (I.2.getD f fi0).1 (g3 I.1 (((I.2.getD g fi0).2.2.1.getD l []).getD k 0).toNat):Int):Rat):=by
  have:=zMY.2 (show(0:Int)<=(I.2.getD f fi0).2.1-dt3 (I.2.getD f fi0).1 (g3 I.1 (((I.2.getD g fi0).2.2.1.getD l []).getD k 0).toNat) by omega);exact this
 have M:=zod (Rat.le_of_lt O) U;rw[<-h2] at M;unfold hnF at M;grind
theorem yAP(h:aI v I s)(hb:chI I=true)(ht:zNZ I=true):∃c0,hnF s c0 0=0/\whF s 0 c0=1/\∀g,g<s.2.1.length->g≠0->0<hnF s c0 g:=by
 unfold zNZ at ht;rw[Bool.and_eq_true,Bool.and_eq_true,Bool.and_eq_true,Bool.and_eq_true,decide_eq_true_iff,decide_eq_true_iff,decide_eq_true_iff] at ht;obtain⟨⟨⟨aq,H⟩,ap⟩,⟨⟨⟨J,ai⟩,ab⟩,aa⟩⟩:=ht;obtain⟨x,y,z,D⟩:∃x y z,(I.2.getD 0 fi0).2.2.1.getD 0 []=[x,y,z]:=by
  match (I.2.getD 0 fi0).2.2.1.getD 0 [],ai with
  |[x,y,z],_=>exact⟨x,y,z,rfl⟩
 have ah:trI (I.2.getD 0 fi0) I.1=[g3 I.1 x.toNat,g3 I.1 y.toNat,g3 I.1 z.toNat]:=by unfold trI;rw[D];rfl
 have O:∀k,k<3->(I.2.getD 0 fi0).2.1-dt3 (I.2.getD 0 fi0).1 (g3 I.1 (((I.2.getD 0 fi0).2.2.1.getD 0 []).getD k 0).toNat)=0:=λk hk=>by
  have:=(zBD (lG h hb H) (l:=0) zoq).2 k zoq;omega
 have hx:=O 0 zot;have hy:=O 1 zot;have hz:=O 2 zot;rw[D] at hx hy hz;replace hx:(I.2.getD 0 fi0).2.1-dt3 (I.2.getD 0 fi0).1 (g3 I.1 x.toNat)=0:=hx;replace hy:(I.2.getD 0 fi0).2.1-dt3 (I.2.getD 0 fi0).1 (g3 I.1 y.toNat)=0:=hy;replace hz:(I.2.getD 0 fi0).2.1-dt3 (I.2.getD 0 fi0).1 (g3 I.1 z.toNat)=0:=hz;rw[ah] at ab aa;generalize hA:g3 I.1 x.toNat=A at *;generalize hB:g3 I.1 y.toNat=B at *;generalize hC:g3 I.1 z.toNat=C at *;refine⟨scT (1/3) (xZ (xZ (cP v A) (cP v B)) (cP v C)),?_,?_,λg hg an=>?_⟩
 · obtain⟨r,hr,h1,h2⟩:=zKA h H
   have:=h2 A B C;rw[h1,h1,h1,hx,hy,hz] at this;have z0:((0:Int):Rat)=0:=rfl;rw[z0] at this;grind
 · -- the loop, laid out by thirds
   have hl:=zJZ h hb H;unfold whF;generalize ao:rJ (I.2.getD 0 fi0).1=a at *;obtain⟨r,hr,ak⟩:=zFV (h.2.2.2 0 H);have U:=zJ0 (v:=v) (f:=I.2.getD 0 fi0) hr;rw[<-ak,ao] at U;obtain⟨ac,am⟩:=hl;rw[List.length_map,J] at ac;obtain⟨Z,ad⟩:∃Z,gC s 0=[Z]:=by
    match gC s 0,ac with
    |[Z],_=>exact⟨Z,rfl⟩
   have h0:=am 0 (by rw[List.length_map,J];decide);rw[ad] at h0;have e0:((I.2.getD 0 fi0).2.2.1.map (flI a I.1)).getD 0 []=flI a I.1 [x,y,z]:=by
    rw[rD (flI a I.1) [] [] (by rw[J];decide),D]
   rw[e0] at h0;have h3:lay (aI3 v a.1:Rat) (1/3) (aI3 v a.2:Rat) (1/3) ([A,B,C].map (sc3 a)) Z:=by
    refine⟨h0.1,λm hm=>?_⟩;have M:m<3:=hm;have h4:=h0.2 m M;refine h4.trans ?_;have e1:gI (flI a I.1 [x,y,z]) m=(aI3 ([A,B,C].getD m z3) a.1,aI3 ([A,B,C].getD m z3) a.2):=by
     rcases zEJ M with rfl|rfl|rfl
     · rw[<-hA];rfl
     · rw[<-hB];rfl
     · rw[<-hC];rfl
    have e2:gI ([A,B,C].map (sc3 a)) m=(3*aI3 ([A,B,C].getD m z3) a.1,3*aI3 ([A,B,C].getD m z3) a.2):=by
     rcases zEJ M with rfl|rfl|rfl<;>rfl
    rw[e1,e2];unfold ag;simp only[Rat.intCast_mul];have o:((3:Int):Rat)=3:=rfl;rw[o];refine Prod.ext ?_ ?_
    · show _=_+1/3*(3*_);grind
    · show _=_+1/3*(3*_);grind
   have h5:=zX4 zow zow h3 (aI3 (sm3 [A,B,C]) a.1,aI3 (sm3 [A,B,C]) a.2);rw[ad,zUW];have aj:pr (uW (s.2.1.getD 0 zA).1 (scT (1/3) (xZ (xZ (cP v A) (cP v B)) (cP v C)))) 0 1=ag (aI3 v a.1:Rat) (1/3) (aI3 v a.2:Rat) (1/3) (aI3 (sm3 [A,B,C]) a.1,aI3 (sm3 [A,B,C]) a.2):=by
    have ae:∀n,(scT (1/3) (xZ (xZ (cP v A) (cP v B)) (cP v C))).at n=(aI3 v n:Rat)+1/3*((aI3 (sm3 [A,B,C]) n:Int):Rat):=λn=>by
     have e1:(scT (1/3) (xZ (xZ (cP v A) (cP v B)) (cP v C))).at n=1/3*((cP v A).at n+(cP v B).at n+(cP v C).at n):=by
      unfold scT xZ
      match n with
      |0=>rfl
      |1=>rfl
      |_+2=>rfl
     have e2:aI3 (sm3 [A,B,C]) n=aI3 A n+aI3 B n+aI3 C n:=by
      unfold sm3
      match n with
      |0=>show(0+A.1+B.1+C.1:Int)=A.1+B.1+C.1;omega
      |1=>show(0+A.2.1+B.2.1+C.2.1:Int)=A.2.1+B.2.1+C.2.1;omega
      |_+2=>show(0+A.2.2+B.2.2+C.2.2:Int)=A.2.2+B.2.2+C.2.2;omega
     rw[e1,e2,zGR,zGR,zGR];simp only[Rat.intCast_add];grind
    unfold pr uW ag;rw[U.1,U.2];refine Prod.ext ?_ ?_
    · exact ae a.1
    · exact ae a.2
   rw[aj,h5];exact ab
 · rw[h.2.2.1] at hg
   obtain⟨r,hr,h1,h2⟩:=zKA h hg;have h3:=zob.1 aa g (zog.2 hg);rw[Bool.or_eq_true,decide_eq_true_iff,decide_eq_true_iff] at h3;have h4:=h3.resolve_left an;have h5:=h2 A B C;rw[h1,h1,h1] at h5;have e3:dt3 (I.2.getD g fi0).1 (sm3 [A,B,C])=dt3 (I.2.getD g fi0).1 A+dt3 (I.2.getD g fi0).1 B+dt3 (I.2.getD g fi0).1 C:=by
    unfold dt3 sm3
    show _*(0+A.1+B.1+C.1)+_*(0+A.2.1+B.2.1+C.2.1)+_*(0+A.2.2+B.2.2+C.2.2)=_
    grind
   have h6:(0:Rat)<(((I.2.getD g fi0).2.1-dt3 (I.2.getD g fi0).1 A:Int):Rat)+(((I.2.getD g fi0).2.1-dt3 (I.2.getD g fi0).1 B:Int):Rat)+(((I.2.getD g fi0).2.1-dt3 (I.2.getD g fi0).1 C:Int):Rat):=by
    rw[<-Rat.intCast_add,<-Rat.intCast_add];exact Rat.intCast_pos.2 zoq
   have h7:=xD hr h6;grind
end
def hlP(P:List Pt):Nat->Pt->Prop
  |0,S=>S=zT
  |i+1,S=>∃S' w,hlP P i S'/\(1/20<=w/\w<=1/4)/\S=xZ S' (scT w (yO (gp P i) (gp P 0)))
theorem yCI{P:List Pt}{i:Nat}{X:Pt}{z:Int}(hX:hlP P i X)(hz:0<=z/\z<5):hlP P (i+1) (xZ X (scT (uR (1+z) 20) (yO (gp P i) (gp P 0)))):=by
 refine⟨X,_,hX,?_,I⟩;have:z=0\/z=1\/z=2\/z=3\/z=4:=by omega
 have C:((20:Int):Rat)=20:=I;unfold uR;rw[C]
 rcases this with rfl|rfl|rfl|rfl|rfl
 · have:((1+0:Int):Rat)=1:=I
   rw[this];exact⟨by grind,by grind⟩
 · have:((1+1:Int):Rat)=2:=I
   rw[this];exact⟨by grind,by grind⟩
 · have:((1+2:Int):Rat)=3:=I
   rw[this];exact⟨by grind,by grind⟩
 · have:((1+3:Int):Rat)=4:=I
   rw[this];exact⟨by grind,by grind⟩
 · have:((1+4:Int):Rat)=5:=I
   rw[this];exact⟨by grind,by grind⟩
theorem yAQ{s:Sd}(h:yFC s):((kZ s/\okS s)/\s.1.length=4/\0<s.2.1.length)/\(∀S,hlP s.1 4 S->inZ s (xZ (gp s.1 0) S)=1)/\∀f q,f<s.2.1.length->0<sdZ (s.2.1.getD f zA).1 q->inZ s q= -1:=by
 have H:=zQJ (zI2 h);have hw:=yFZ (zI2 h);obtain⟨v,I,⟨p,c,q,e,f,g,⟨hp,hc,hq⟩,⟨he,hf,Z⟩,hI⟩,hv,D⟩:=h;have hb:chI I=true:=by rw[hI];exact(zEK hp hc hq he hf Z).2
 have ht:zNZ I=true:=by rw[hI];exact zVD yFB hp hc hq he hf Z
 have ah:=zVB D hb ht;obtain⟨c0,m1,m2,m3⟩:=yAP D hb ht;unfold zNZ at ht;rw[Bool.and_eq_true,Bool.and_eq_true,decide_eq_true_iff] at ht;have ad:s.1.length=4:=by rw[cA D];exact ht.1.1.1
 have ac:0<s.2.1.length:=by rw[D.2.2.1];exact ht.1.1.2
 refine⟨⟨H.1,ad,ac⟩,λS hS=>?_,λf q hf hs=>?_⟩
 · have aa:∀g,g<s.2.1.length->0<hnF s (xZ (gp s.1 0) S) g:=λg Z=>by
    rw[D.2.2.1] at Z;obtain⟨r,hr,h1,_⟩:=zKA D Z;have J:=zob.1 ht.1.2 _ (kA (d:=fi0) Z);rw[Bool.and_eq_true] at J;have hk:∀k,k<4->0<=hnF s (gp s.1 k) g:=λk hk=>by
     rw[D.1,zDC (by rw[<-cA D];omega),h1];have:=of_decide_eq_true (zob.1 J.1 (g3 I.1 k) (kA (d:=z3) (by rw[<-cA D];omega)));exact zod (Rat.le_of_lt hr) (zMY.2 (show(0:Int)<=_ by omega))
    have ab:∃k,k<4/\0<hnF s (gp s.1 k) g:=by
     obtain⟨u,hu,C⟩:=List.any_eq_true.1 J.2;obtain⟨k,hk,rfl⟩:=zJ1 z3 hu;have ae:k<4:=by rw[<-ad,cA D];exact hk
     refine⟨k,ae,?_⟩;rw[D.1,zDC hk,h1];have:=of_decide_eq_true C;have h2:dt3 (I.2.getD g fi0).1 (g3 I.1 k)<(I.2.getD g fi0).2.1:=this;exact xD hr (Rat.intCast_pos.2 zoq)
    obtain⟨S3,M,⟨S2,O,⟨S1,U,⟨S0,w0,am,aq,e0⟩,ap,e1⟩,ao,e2⟩,an,e3⟩:=hS;have ai:S0=zT:=am;have ak:hnF s (xZ (gp s.1 0) S) g=(1-U-O-M)*hnF s (gp s.1 0) g+U*hnF s (gp s.1 1) g+O*hnF s (gp s.1 2) g+M*hnF s (gp s.1 3) g:=by
     rw[e3,e2,e1,e0,ai];have z:(zT:Pt).x=0/\(zT:Pt).y=0/\(zT:Pt).z=0:=⟨rfl,rfl,rfl⟩;unfold hnF zE xZ scT yO;grind
    rw[ak];have k0:=hk 0 zot;have k1:=hk 1 zot;have k2:=hk 2 zot;have k3:=hk 3 zot;have p0:=zod (show 0<=1-U-O-M by grind) k0;have p1:=zod (show 0<=U by grind) k1;have p2:=zod (show 0<=O by grind) k2;have p3:=zod (show 0<=M by grind) k3;obtain⟨k,ae,C⟩:=ab;have aj:k=0\/k=1\/k=2\/k=3:=by omega
    rcases aj with rfl|rfl|rfl|rfl
    · have:=xD (show 0<1-U-O-M by grind) C;grind
    · have:=xD (show 0<U by grind) C;grind
    · have:=xD (show 0<O by grind) C;grind
    · have:=xD (show 0<M by grind) C;grind
   obtain⟨h1,h2⟩:=yLM H.1.1 hw ah ac aa m1 m2 m3;unfold inZ;rw[if_neg h1,h2];rfl
 · have hn:hnF s q f<0:=by
    have:=aF.1 (show 0<yV (hgt (s.2.1.getD f zA).1 q) from hs);unfold hgt at this;unfold hnF;grind
   obtain⟨h1,h2⟩:=yIU H.1.1 hw ah hf hn;unfold inZ;rw[if_neg h1,h2];rfl
end Bk
namespace Go.Proofs.YtpkaegemlpaenaaGreat
open Bk Go Tryz
set_option maxRecDepth 10000
set_option maxHeartbeats 1000000
attribute [local irreducible] GL GC GQ W OpV
set_option maxHeartbeats 1000000 in
theorem j7{w0:World}{h0:Mem}(hs:MLe h0 (mem w0)){vl:Value}{xsl:List Int}(hl:Is h0 vl xsl):
 Calls Tryz.prog 4 #[vl] w0 (Ret w0 h0 (λ_ r=>r=.bool true)):=by
 have eb:=hl.lt63;refine cb1 111 vl func4 hs ?_;refine go9 ?_;refine cL (ev1 I) call9 (λw hs=>zPI hs hl) λie h1 iy bp=>?_;subst bp;refine gc3 (λbs=>?_) λbs=>?_
 ·
  refine go2 ?_;refine cL (vs:=[]) trivial call10 (λw hs=>zF6 hs) λid h2 eh bo=>?_;subst bo;refine go5 ?_;refine zC I I ?_
  rfl
 refine go5 ?_;refine jJ (vs:=[_]) I I I I call11 ⟨I,trivial⟩ (λw hs=>zT0 hs hl.up) ?_;intro ic h2 jh eh bn;obtain⟨ba,rfl,rfl⟩:=bn;refine go6 ?_;refine jG (A:=[]) (vs:=[_]) call19 ⟨I,trivial⟩ (λX w hs=>zJR hl.up zo1 hs) I ?_;intro ib bu im fi ac;obtain⟨dz,C,rfl,fd,bi,ac⟩:=ac;have J:=yAQ bi;have iq:=J.1.2.1;have ir:=J.1.2.2;have iu:=J.1.1.2.1.1.2;refine nA (ρ:=(tSd 1 1 1 1)) (X:=([],([],[]))) gB (yF vC (yF vC vC)) λb4 jg cd=>?_;have bd:=(Le.p (Le.s (Le.t (Le.q (l:=2) dC))) (Le.p (Le.s (Le.p (Le.p (Le.t (Le.q (l:=2) dC)) (Le.q (l:=2) dC)) (Le.refl _))) (Le.refl _))).R cd;refine yI (A:=[]) (uB sizeOf39 pH bd ac) λad H=>(go4 ?_);refine lX (xV (ρ:=(tPt 1)) (wJ (ps':=[]) underlying31 yU I I sizeOf29 trivial I (xW (yN dC)) zR)) λia dw=>(nA (ρ:=(tPt 1)) (X:=zT) yU (xW (yN dC)) λb5 jf cc=>(yI (A:=[]) (uB sizeOf31 pH cc dw) λbv be=>(go6 ?_)));refine lX (xB uN (Pc.fst pH) H) λhv ih=>(go5 ?_);refine gcL (ι:=Nat×T3 Rat×List Value×Nat×Mem) (λ(i,X,U,ab,ma)=>(MLe bu ma/\((tPt (60*i+1)).R ma U X/\ab<=xsl.length/\i<=C.1.length/\hlP C.1 i X),[(3,vP ba 0),(4,vP b4 0),(5,vP b5 0),(22,vI (↑(C.1).length:Int)),(23,vI ↑i)],[.var b5 31 U,.var b4 39 ad,.var ba 72 [vl,vI ↑ab]],ma,C.1.length-i)) (0,zT,bv,dz,bu) ?_ ?_
 · exact⟨mle,((Le.t (Le.q oM)).R be),oM,by omega,I⟩
 rintro⟨i,X,U,ab,ma⟩ ⟨ew,Z,ec,iv,hX⟩
 refine xC ?_;refine gc6 (λbr=>?_) λbr=>?_
 ·
  refine uK ?_;refine qO (A:=[_,_]) 17 [] [(0,.q),(1,.q),(5,.q),(6,.q),(7,.q),(8,.q),(9,.q),(10,.q),(11,.q),(12,.q),(13,.q),(2,.c),(3,.q),(4,.c),(14,.c),(15,.c),(16,.c),(17,.t)] yA nX (wP zor) nX (wX I (xB zL pH Z) λhu dv=>(go2 ?_));refine wX I (xB uN (Pc.fst pH) H) λho dt=>(go1 ?_);refine bH (F:=λv_=>AtP (tPt 2) ma v_ (C.1.getD i zT)) I (kT zT i underlying35 zL I I dt zo0 oM nP) oO I ?_;intro hn dr;refine wX I (xA zL dr) λhm dq=>(go1 ?_);refine wX I (xB uN (Pc.fst pH) H) λhj dp=>(bH (F:=λv_=>AtP (tPt 2) ma v_ (C.1.getD 0 zT)) I (kT (q:=0) zT 0 underlying35 zL I I dp I oM nP) oO I ?_);intro he dn;refine wX I (xA zL dn) λhb dm=>?_;refine w_c I ?_;refine w7 (A:=[_,_]) (vs:=[_,vI (5)]) call13 e2z (λX w hs=>kP hl.up zo1 oM oM hs) I (wH zov) ?_;intro hq je il fh bm;obtain⟨dy,ae,rfl,fc,rfl,ep,eu⟩:=bm;refine wC I (λ_ _=>zQ (p:=1) I I oM oM) I ?_;refine w_c I (sC (vs:=[_,vI (20)]) e2z call21 (λw hs=>iJ hs oM oM dC dC) λhp h3 eg du=>?_);refine w_c I (sC (ev2 I I) call22 (λw hs=>iI hs dq.up dm.up dC) λha h4 ef au=>?_);replace au:=Rp.Is.le au (Le.t (Le.q (l:=5) oM));refine w_c I (sC (ev2 I I) call20 (λw hs=>u9 hs du.up au dC) λgz h5 ee ar=>?_);replace ar:=Rp.Is.le ar (Le.t (Le.q (l:=7) oM));refine w_c I (sC (ev2 I I) call14 (λw hs=>zFD hs dv.up ar oM) λgy h6 ed aq=>?_);replace aq:=Rp.Is.le aq (Le.t (Le.q (l:=60*i+9) oM));have aj:=(Le.t (Le.q (l:=60*i+9) oM)).R Z;refine yK (A:=[]) I (uB sizeOf31 pH aj aq) λaz am=>(go7 ?_);refine gqL ((i+1),(T3.mk (X.x+((uR ((1:Int)+ae) (20:Int))*((C.1.getD i zT).x-(C.1.getD 0 zT).x))) (X.y+((uR ((1:Int)+ae) (20:Int))*((C.1.getD i zT).y-(C.1.getD 0 zT).y))) (X.z+((uR ((1:Int)+ae) (20:Int))*((C.1.getD i zT).z-(C.1.getD 0 zT).z)))),az,dy,h6) ?_ ?_
  · exact⟨mle,((Le.t (Le.q oM)).R am),oM,by omega,yCI hX oM⟩
  omega
 have ei:i=C.1.length:=by omega
 refine go6 ?_;refine zJ 7 _ [(6,(7,31,[.bool false,.slice none 0 0,.slice none 0 0,.bool false,.slice none 0 0,.slice none 0 0,.bool false,.slice none 0 0,.slice none 0 0]))] [(0,.q),(1,.q),(2,.q),(3,.q),(4,.q),(5,.c),(6,.a),(7,.t)] yA (jS.cons I I (qA yU I I) jS.nil) zor (qD I I kW) (λr hr=>hr) (go1 ?_);refine wX I (xB uN (Pc.fst pH) H) λgx dl=>(bH (F:=λv_=>AtP (tPt 2) ma v_ (C.1.getD 0 zT)) I (kT (q:=0) zT 0 underlying35 zL I I dl I oM nP) oO I ?_);intro gw dk;refine wX I (xA zL dk) λgu dj=>(wX I (xB zL pH Z) λgt di=>?_);refine w_c I (sC (ev2 I I) call14 (λw hs=>zFD hs dj di oM) λgs h3 eg ap=>?_);replace ap:=Rp.Is.le ap (Le.t (Le.q (l:=60*i+4) oM));refine w_a I I (λb7=>?_);have cb:(tPt 1).R h3 [.bool false,.slice none 0 0,.slice none 0 0,.bool false,.slice none 0 0,.slice none 0 0,.bool false,.slice none 0 0,.slice none 0 0] zT:=(xW (yN dC));have ai:=(Le.t (Le.q (l:=60*i+4) oM)).R cb;refine yK (A:=[]) I (uB sizeOf31 pH ai ap) λay ak=>(go6 ?_);refine lX (xB fQ (Pc.snd (Pc.fst pH)) H) λgr ig=>(go1 ?_);refine jG (A:=[_,_,_]) (vs:=[_,_]) call13 e2z (λX w hs=>kP hl.up zo1 oM oM hs) I ?_;intro gq bt ik fg bl;obtain⟨ip,D,rfl,fb,rfl,eo,es⟩:=bl;have aw:=w5 J.1.1.1 (f:=D.toNat) oM;have jb:=aw.1.1.1;have ja:=(aw.1.2 0 oM).1.1;have iz:=aw.2 0 oM 0 oM;refine go4 ?_;refine qO (A:=[_,_,_]) 31 [(30,(9,31,[.bool false,.slice none 0 0,.slice none 0 0,.bool false,.slice none 0 0,.slice none 0 0,.bool false,.slice none 0 0,.slice none 0 0]))] [(0,.q),(1,.q),(2,.q),(3,.q),(4,.q),(5,.q),(6,.q),(7,.q),(8,.q),(9,.q),(10,.q),(11,.q),(12,.q),(13,.q),(14,.q),(17,.q),(21,.q),(22,.q),(23,.q),(24,.q),(25,.q),(26,.q),(27,.q),(15,.c),(16,.q),(18,.c),(19,.q),(20,.c),(28,.c),(29,.c),(30,.a),(31,.t)] yA (jS.cons I I (qA yU I I) jS.nil) (wP zor) (qD I I kW) (go1 ?_);refine wX I (xB uN (Pc.fst pH) H) λgo dh=>(go1 ?_);refine wX I (xB fQ (Pc.snd (Pc.fst pH)) H) λgn df=>(go1 ?_);refine wX I (xI zA D.toNat underlying36 bJ df) λgm de=>(wX I (xF underlying53 sizeOf51 (Pc.snd (Pc.fst pH)) de) λgk dd=>(wX I (xA bK dd) λgj dc=>(bH (F:=λv_=>AtP (rpS rpI) bt v_ ((((C.2.1.getD D.toNat zA).2).1).getD 0 [])) I (kT (q:=0) [] 0 underlying51 fN I I dc I oM nP) oO I ?_)));intro gh db;refine wX I (xA fN db) λgg da=>(bH (F:=λv_=>AtP rpI bt v_ (((((C.2.1.getD D.toNat zA).2).1).getD 0 []).getD 0 (0:Int))) I (kT (q:=0) (0:Int) 0 underlying22 ty3 I I da I oM nP) oO I ?_);intro gf cz;refine wX I (xA ty3 cz) λge cy=>?_;obtain⟨rfl,ey,ev⟩:=kM cy;refine wX I (xI zT ((((C.2.1.getD D.toNat zA).2.1.getD 0 []).getD 0 (0:Int)).toNat) underlying35 zL dh) λgc cw=>(wX I (xA zL cw) λgb cv=>(go3 ?_));refine wX I (xB fQ (Pc.snd (Pc.fst pH)) H) λfx ct=>(go1 ?_);refine wX I (xI zA D.toNat underlying36 bJ ct) λfw cq=>(wX I (xF underlying53 sizeOf50 (Pc.fst pH) cq) λfv cp=>(wX I (xF underlying50 sizeOf31 (Pc.fst pH) cp) λfu co=>(wX I (xA zL co) λft cn=>?_)));refine w_c I ?_;refine w7 (A:=[_,_,_]) (vs:=[_,vI (20)]) call13 e2z (λX w hs=>kP hl.up zo1 oM oM hs) I (wH zov) ?_;intro ga jd ij ff bk;obtain⟨io,O,rfl,fa,rfl,en,er⟩:=bk;refine wC I (λ_ _=>zQ (p:=1) I I oM oM) I ?_;refine w_c I ?_;refine w7 (A:=[_,_,_]) (vs:=[_,vI (8)]) call13 e2z (λX w hs=>kP hl.up zo1 oM oM hs) I (wH zov) ?_;intro fz jc ii fe bj;obtain⟨dx,M,rfl,ez,rfl,em,eq⟩:=bj;refine wC I (λ_ _=>zQ (p:=1) I I oM oM) I ?_;refine w_c I (sC (ev2 I I) call21 (λw hs=>iJ hs oM oM oM oM) λfy h4 ef cu=>?_);refine w_c I (sC (ev2 I I) call20 (λw hs=>u9 hs cu cn.up dC) λfs h5 ee ao=>?_);replace ao:=Rp.Is.le ao (Le.t (Le.q (l:=4) oM));refine w_c I (sC (ev2 I I) call14 (λw hs=>zFD hs cv.up ao dC) λfr h6 ed an=>?_);replace an:=Rp.Is.le an (Le.t (Le.q (l:=7) oM))
 refine w_a I I (λb9=>?_);have ca:(tPt 1).R h6 [.bool false,.slice none 0 0,.slice none 0 0,.bool false,.slice none 0 0,.slice none 0 0,.bool false,.slice none 0 0,.slice none 0 0] zT:=(xW (yN dC));have ah:=(Le.t (Le.q (l:=7) dC)).R ca;refine yK (A:=[]) I (uB sizeOf31 pH ah an) λax aa=>(go3 ?_);refine zJ 10 _ [] [(0,.q),(1,.q),(2,.q),(3,.q),(4,.q),(5,.q),(6,.q),(7,.c),(8,.q),(9,.q)] yA nX zor nX (λr hr=>hr) (go1 ?_);refine wX I (xB fQ (Pc.snd (Pc.fst pH)) H) λfq cm=>(go1 ?_);refine wX I (xI zA D.toNat underlying36 bJ cm) λfp cl=>(wX I (xF underlying53 sizeOf50 (Pc.fst pH) cl) λfo ck=>(wX I (xA aV ck) λfm cj=>(wX I (xB zL pH aa) λfl ci=>?_)));refine w_c I (sC (ev2 I I) call23 (λw hs=>zB5 hs cj ci dC dC dC) λbz h7 ix ch=>?_);obtain rfl:bz=vI (sdZ ((C.2.1.getD D.toNat zA).1) (T3.mk ((C.1.getD ((((C.2.1.getD D.toNat zA).2.1.getD 0 []).getD 0 (0:Int)).toNat) zT).x+((uR ((1:Int)+O) ((1:Int)+M))*(((C.2.1.getD D.toNat zA).1).1).x)) ((C.1.getD ((((C.2.1.getD D.toNat zA).2.1.getD 0 []).getD 0 (0:Int)).toNat) zT).y+((uR ((1:Int)+O) ((1:Int)+M))*(((C.2.1.getD D.toNat zA).1).1).y)) ((C.1.getD ((((C.2.1.getD D.toNat zA).2.1.getD 0 []).getD 0 (0:Int)).toNat) zT).z+((uR ((1:Int)+O) ((1:Int)+M))*(((C.2.1.getD D.toNat zA).1).1).z)))):=ch;have ea:=bN ((C.2.1.getD D.toNat zA).1) (T3.mk ((C.1.getD ((((C.2.1.getD D.toNat zA).2.1.getD 0 []).getD 0 (0:Int)).toNat) zT).x+((uR ((1:Int)+O) ((1:Int)+M))*(((C.2.1.getD D.toNat zA).1).1).x)) ((C.1.getD ((((C.2.1.getD D.toNat zA).2.1.getD 0 []).getD 0 (0:Int)).toNat) zT).y+((uR ((1:Int)+O) ((1:Int)+M))*(((C.2.1.getD D.toNat zA).1).1).y)) ((C.1.getD ((((C.2.1.getD D.toNat zA).2.1.getD 0 []).getD 0 (0:Int)).toNat) zT).z+((uR ((1:Int)+O) ((1:Int)+M))*(((C.2.1.getD D.toNat zA).1).1).z)));refine go6 ?_;refine lX (xB gV pH H) λfk cg=>(lX (xB zL pH ak) λfj cf=>(cL (ev2 I I) call18 (λw hs=>zJQ hs cg cf (by first|omega|exact J.1.1.2|exact J.1.1.1) (by first|omega|exact J.1.1.2|exact J.1.1.1) dC oM dC dC) λbx h8 iw ce=>?_));obtain rfl:bx=vI (inM (tS C) (T3.mk ((C.1.getD 0 zT).x+X.x) ((C.1.getD 0 zT).y+X.y) ((C.1.getD 0 zT).z+X.z))):=ce;refine gv (OpV.tr (by exact(zJ9 J.1.1.1 _).trans (J.2.1 _ (by rw[<-J.1.2.1,<-ei];exact hX))) (rA (q:=1) I I)) I (go5 ?_);refine uY (ι:=Mem) 6 (λm_=>MLe h8 m_) (λ_=>[(106,.bool true),(98,.bool true)]) (λ_=>[.var b9 31 ax,.var b7 31 ay,.var b5 31 U,.var b4 39 ad,.var ba 72 [vl,vI ↑dx]]) (λm_=>m_) ?_ ?_
 ·
  refine zW (¬((0:Int)<(sdZ ((C.2.1.getD D.toNat zA).1) (T3.mk ((C.1.getD ((((C.2.1.getD D.toNat zA).2.1.getD 0 []).getD 0 (0:Int)).toNat) zT).x+((uR ((1:Int)+O) ((1:Int)+M))*(((C.2.1.getD D.toNat zA).1).1).x)) ((C.1.getD ((((C.2.1.getD D.toNat zA).2.1.getD 0 []).getD 0 (0:Int)).toNat) zT).y+((uR ((1:Int)+O) ((1:Int)+M))*(((C.2.1.getD D.toNat zA).1).1).y)) ((C.1.getD ((((C.2.1.getD D.toNat zA).2.1.getD 0 []).getD 0 (0:Int)).toNat) zT).z+((uR ((1:Int)+O) ((1:Int)+M))*(((C.2.1.getD D.toNat zA).1).1).z)))))) (λhg=>?_) (λhg=>?_)
  ·
   refine go1 ?_;refine gT hg I (go7 ?_);refine zS h8 (MLe.refl _) ⟨?_,I,trivial⟩ I I;exact I
  refine go1 ?_;refine gF hg I (go1 ?_);refine lX (xB gV pH H) λel bh=>(go1 ?_);refine lX (xB zL pH aa) λek bg=>(go1 ?_);refine cL (ev2 I I) call18 (λw hs=>zJQ hs bh bg (by first|omega|exact J.1.1.2|exact J.1.1.1) (by first|omega|exact J.1.1.2|exact J.1.1.1) dC dC dC dC) λbc h9 bq bf=>?_;obtain rfl:bc=vI (inM (tS C) (T3.mk ((C.1.getD ((((C.2.1.getD D.toNat zA).2.1.getD 0 []).getD 0 (0:Int)).toNat) zT).x+((uR ((1:Int)+O) ((1:Int)+M))*(((C.2.1.getD D.toNat zA).1).1).x)) ((C.1.getD ((((C.2.1.getD D.toNat zA).2.1.getD 0 []).getD 0 (0:Int)).toNat) zT).y+((uR ((1:Int)+O) ((1:Int)+M))*(((C.2.1.getD D.toNat zA).1).1).y)) ((C.1.getD ((((C.2.1.getD D.toNat zA).2.1.getD 0 []).getD 0 (0:Int)).toNat) zT).z+((uR ((1:Int)+O) ((1:Int)+M))*(((C.2.1.getD D.toNat zA).1).1).z)))):=bf;refine go1 ?_;refine gv (OpV.tr (by exact(zJ9 J.1.1.1 _).trans (J.2.2 D.toNat _ oM (by first|assumption|exact Classical.not_not.1 zoz))) (rA (q:=-1) I I)) I (go3 ?_);refine zS h9 bq ⟨?_,I,trivial⟩ I I;exact I
 intro bw bb;refine tZ ?_;refine go3 ?_;refine cL (vs:=[]) trivial call10 (λw hs=>zF6 hs) λej h9 bq av=>?_;subst av;refine go5 ?_;refine zC I I ?_
 rfl
end Go.Proofs.YtpkaegemlpaenaaGreat
