/- Texts that the proof needs, part 7. -/
import Derived.Test.YtboaboflnckgoaaGreatKE6
set_option linter.unusedVariables false
set_option linter.unusedSimpArgs false
noncomputable section
set_option maxRecDepth 10000
set_option maxHeartbeats 1000000
namespace Bk
open Classical
abbrev I3:=Int×Int×Int
def aI3(u:I3):Nat->Int
  |0=>u.1|1=>u.2.1|_=>u.2.2
def cP(v u:I3):Pt:=T3.mk ((v.1+u.1:Int):Rat) ((v.2.1+u.2.1:Int):Rat) ((v.2.2+u.2.2:Int):Rat)
def nr3(n:I3):Pt:=T3.mk (n.1:Rat) (n.2.1:Rat) (n.2.2:Rat)
def dt3(n u:I3):Int:=n.1*u.1+n.2.1*u.2.1+n.2.2*u.2.2
abbrev FI:=I3×Int×List (List Int)×List Nat
abbrev SI:=List I3×List FI
abbrev z3:I3:=((0:Int),(0:Int),(0:Int))
abbrev fi0:FI:=(z3,(0:Int),([]:List (List Int)),([]:List Nat))
abbrev g3(P:List I3)(k:Nat):I3:=P.getD k z3
def cPl(v:I3)(f:FI):Pl:=(nr3 f.1,((f.2.1+dt3 f.1 v:Int):Rat))
def zIZ(v:I3)(f:FI)(x:Fc):Prop:=(∃a:Int,(0<a/\a<=1000)/\x.1=scW (1/(a:Rat)) (cPl v f))/\x.2=f.2.2
theorem zV0{a:Int}(h:0<a):(0:Rat)<1/(a:Rat):=by
 rw[Rat.div_def];exact tM zov (Rat.inv_pos.2 (yni.2 h))
theorem zK8{v:I3}{f:FI}{x:Fc}(h:zIZ v f x):∃r:Rat,0<r/\x.1=scW r (cPl v f):=by
 obtain⟨a,C,e⟩:=h.1;exact⟨_,zV0 C.1,e⟩
def aB(v:I3)(I:SI)(s:Sd):Prop:=s.1=I.1.map (cP v)/\s.2.2=[]/\s.2.1.length=I.2.length/\∀f,f<I.2.length->zIZ v (I.2.getD f fi0) (s.2.1.getD f zA)
theorem yA0(v u:I3)(n:Nat):(cP v u).at n=((aI3 v n+aI3 u n:Int):Rat):=by
 match n with
 |0=>rfl
 |1=>rfl
 |_+2=>rfl
theorem zE5{v:I3}{P:List I3}{k:Nat}(hk:k<P.length):gp (P.map (cP v)) k=cP v (g3 P k):=by
 show(P.map (cP v)).getD k _=cP v (P.getD k z3)
 rw[zoa,zoa,z0u,zoc hk];rfl
theorem zY7(v u:I3)(f:FI)(r:Rat):hgt (scW r (cPl v f)) (cP v u)=r*((dt3 f.1 u-f.2.1:Int):Rat):=by
 unfold hgt scW cPl vZ nr3 cP dt3;simp only[zpe,z7i,zsu];grind
theorem yDL{v u:I3}{f:FI}{r:Rat}(hr:0<r):sdZ (scW r (cPl v f)) (cP v u)=sgI (dt3 f.1 u-f.2.1):=by
 unfold sdZ;rw[zY7,oW hr,t6];rfl
def eY(n:I3):Nat×Nat:=if 0<n.2.2 then(0,1) else if n.2.2<0 then(1,0) else if 0<n.2.1 then(2,0) else if n.2.1<0 then(0,2) else if 0<n.1 then(1,2) else if n.1<0 then(2,1) else(1,2)
theorem zTL{r:Rat}(hr:0<r)(n:Int):0<r*(n:Rat)↔0<n:=by
 constructor
 · intro h
   refine yui.1 λe=>?_;have h1:(n:Rat)<=0:=Rat.intCast_nonpos.2 e;have:=Rat.mul_le_mul_of_nonneg_left h1 (Rat.le_of_lt hr);grind
 · intro h
   exact tM hr (yni.2 h)
theorem zTM{r:Rat}(hr:0<r)(n:Int):r*(n:Rat)<0↔n<0:=by
 have:=zTL hr (-n);rw[z6e] at this;constructor
 · intro h
   have:=this.1 zo2;omega
 · intro h
   have:=this.2 zos;grind
theorem zVE{v:I3}{f:FI}{r:Rat}(hr:0<r):axI (scW r (cPl v f)).1=(eY f.1).1/\axJ (scW r (cPl v f)).1=(eY f.1).2:=by
 unfold axI axJ eY scW cPl nr3;simp only[zTL hr,zTM hr]
 repeat' split
 all_goals first|exact⟨I,I⟩|omega
theorem zTN{v:I3}{f:FI}{r:Rat}(hr:0<r)(h:¬f.1=z3):¬(scW r (cPl v f)).1=zT:=λe=>by
 have g:∀n:Int,r*(n:Rat)=0->n=0:=λn e=>by
  rcases zoe.1 e with e|e
  · rw[e] at hr;exact absurd hr zov
  · exact zre.1 e
 have e1:=g _ (zbi T3.x e);have e2:=g _ (zbi T3.y e);have e3:=g _ (zbi T3.z e);exact h (Prod.ext e1 (Prod.ext e2 e3))
def flI(a:Nat×Nat)(P:List I3)(x:List Int):List PI:=x.map λk=>(aI3 (g3 P k.toNat) a.1,aI3 (g3 P k.toNat) a.2)
def lpB(n:Nat)(x:List Int):Bool:=decide (3<=x.length/\x.length<=64)&&(List.range x.length).all λi=>decide (0<=x.getD i 0/\x.getD i 0<n)&&(List.range i).all λk=>!decide (x.getD i 0=x.getD k 0)
theorem zVS{n:Nat}{x:List Int}(hn:n<=512)(h:lpB n x=true):lpP x/\nmL n x:=by
 unfold lpB at h;rw[zbu,zhi] at h;have g:∀i,i<x.length->(0<=x.getD i 0/\x.getD i 0<n)/\∀k,k<i->¬x.getD i 0=x.getD k 0:=λi hi=>by
  have h1:=zob.1 h.2 i (zog.2 hi);rw[zbu,zhi] at h1;refine⟨h1.1,λk C=>?_⟩;have h2:=zob.1 h1.2 k (zog.2 C);rw[zje,zgu] at h2;exact h2
 refine⟨⟨h.1,λi hi=>⟨?_,(g i hi).2⟩⟩,λi hi=>(g i hi).1⟩;have:=(g i hi).1;omega
def bd3(u:I3):Bool:=decide ((-1000<=u.1/\u.1<=1000)/\(-1000<=u.2.1/\u.2.1<=1000)/\(-1000<=u.2.2/\u.2.2<=1000))
def faB(P:List I3)(f:FI):Bool:=(bd3 f.1&&decide (-1000<=f.2.1/\f.2.1<=1000))&&(decide (1<=f.2.2.1.length/\f.2.2.1.length<=16)&&f.2.2.1.all (λx=>lpB P.length x&&x.all λk=>decide (dt3 f.1 (g3 P k.toNat)=f.2.1))&&!decide (f.1=z3)&&nsI (f.2.2.1.map (flI (eY f.1) P)))
def dsB(P:List I3):Bool:=(List.range P.length).all λi=>(List.range i).all λk=>!decide (g3 P i=g3 P k)
def chI(I:SI):Bool:=I.1.all bd3&&(decide (I.1.length<=512/\I.2.length<=256)&&I.2.all (faB I.1)&&dsB I.1&&clB (edZ (I.2.map λf=>f.2.2.1)))
theorem zFD{α:Type}(d:α){l k:List α}(hl:l.length=k.length)(h:∀i,i<l.length->l.getD i d=k.getD i d):l=k:=by
 refine yre hl λi h1 h2=>?_;have:=h i h1;rw[zoa,zoa,zoc h1,zoc h2] at this;exact this
theorem fX{α β:Type}(g:α->β)(d:α)(e:β){l:List α}{i:Nat}(hi:i<l.length):(l.map g).getD i e=g (l.getD i d):=by
 rw[zoa,zoa,z0u,zoc hi];rfl
section
variable {v:I3}{I:SI}{s:Sd}
theorem zG4(h:aB v I s):vT s=I.2.map λf=>f.2.2.1:=by
 obtain⟨h1,h2,h3,D⟩:=h;refine zFD [] (by rw[tW,zde,h3]) λf C=>?_;rw[tW,h3] at C;rw[nM zos,fX (λf:FI=>f.2.2.1) fi0 [] C,(D f C).2]
theorem nK{f:Nat}(h:aB v I s)(hb:chI I=true)(hf:f<I.2.length):faB I.1 (I.2.getD f fi0)=true:=by
 unfold chI at hb;replace hb:=(zbu _ _▸hb).2;rw[zbu,zbu,zbu] at hb;exact zob.1 hb.1.1.2 _ (kO hf)
theorem mL(h:aB v I s):s.1.length=I.1.length:=by rw[h.1,zde]
theorem zFC{P:List I3}{f:FI}(h:faB P f=true){l:Nat}(hl:l<f.2.2.1.length):lpB P.length (f.2.2.1.getD l [])=true/\∀k,k<(f.2.2.1.getD l []).length->dt3 f.1 (g3 P ((f.2.2.1.getD l []).getD k 0).toNat)=f.2.1:=by
 unfold faB at h;replace h:=(zbu _ _▸h).2;rw[zbu,zbu,zbu] at h;have h1:=zob.1 h.1.1.2 _ (kO (d:=[]) hl);rw[zbu] at h1;refine⟨h1.1,λk C=>?_⟩;exact yau (zob.1 h1.2 _ (kO (d:=0) C))
theorem zIY{f:Nat}(h:aB v I s)(hb:chI I=true)(hf:f<I.2.length):nmP s f/\vfP (s.2.1.getD f zA).2.1:=by
 have D:=nK h hb hf;have e:(s.2.1.getD f zA).2.1=(I.2.getD f fi0).2.2.1:=zbi Prod.fst (h.2.2.2 f hf).2;have H:I.1.length<=512:=by
  unfold chI at hb;replace hb:=(zbu _ _▸hb).2;rw[zbu,zbu,zbu,zhi] at hb;exact hb.1.1.1.1
 have h1:1<=(I.2.getD f fi0).2.2.1.length/\(I.2.getD f fi0).2.2.1.length<=16:=by
  have C:=D;unfold faB at C;replace C:=(zbu _ _▸C).2;rw[zbu,zbu,zbu,zhi] at C;exact C.1.1.1
 refine⟨λl G=>?_,?_⟩
 · rw[e] at G ⊢
   rw[mL h];exact(zVS H (zFC D G).1).2
 · rw[e]
   exact⟨h1,λl G=>(zVS H (zFC D G).1).1⟩
theorem zPT{f:Nat}(h:aB v I s)(hb:chI I=true)(hf:f<I.2.length):(gB s f).length=(I.2.getD f fi0).2.2.1.length/\∀l,l<(I.2.getD f fi0).2.2.1.length->(gl (gB s f) l).length=((I.2.getD f fi0).2.2.1.getD l []).length/\∀k,k<((I.2.getD f fi0).2.2.1.getD l []).length->gp (gl (gB s f) l) k=cP v (g3 I.1 (((I.2.getD f fi0).2.2.1.getD l []).getD k 0).toNat):=by
 have e:(s.2.1.getD f zA).2.1=(I.2.getD f fi0).2.2.1:=zbi Prod.fst (h.2.2.2 f hf).2;have D:=(zIY h hb hf).1;rw[zOQ (by rw[h.2.2.1];exact hf) D];refine⟨by rw[<-e];exact xH _ _,λl J=>?_⟩;have C:l<(s.2.1.getD f zA).2.1.length:=by rw[e];exact J
 have M:gl (zJC s f (s.2.1.getD f zA).2.1.length) l=zFV s.1 ((s.2.1.getD f zA).2.1.getD l []) ((s.2.1.getD f zA).2.1.getD l []).length:=kA _ _ C;rw[M,e];refine⟨xH _ _,λk G=>?_⟩;have H:=D l C k (by rw[e];exact G);rw[e,mL h] at H;have O:gp (zFV s.1 ((I.2.getD f fi0).2.2.1.getD l []) ((I.2.getD f fi0).2.2.1.getD l []).length) k=gp s.1 (((I.2.getD f fi0).2.2.1.getD l []).getD k 0).toNat:=kA _ _ G;rw[O,h.1,zE5 zos]
theorem zPR{f:Nat}(h:aB v I s)(hb:chI I=true)(hf:f<I.2.length):yD5 (aI3 v (eY (I.2.getD f fi0).1).1:Rat) 1 (aI3 v (eY (I.2.getD f fi0).1).2:Rat) 1 ((I.2.getD f fi0).2.2.1.map (flI (eY (I.2.getD f fi0).1) I.1)) (tQ s f):=by
 obtain⟨U,c2⟩:=zPT h hb hf;obtain⟨r,M,H⟩:=zK8 (h.2.2.2 f hf);have D:=zDG s f;refine⟨by rw[D.1,U,zde],λl G=>?_⟩;rw[zde] at G;obtain⟨O,c4⟩:=c2 l G;rw[fX (flI (eY (I.2.getD f fi0).1) I.1) [] [] G];have J:(gl (tQ s f) l).length=((I.2.getD f fi0).2.2.1.getD l []).length:=by rw[D.2 l];exact O
 refine⟨by rw[J];exact(zde _).symm,λm hm=>?_⟩;have C:m<((I.2.getD f fi0).2.2.1.getD l []).length:=by
  have:(flI (eY (I.2.getD f fi0).1) I.1 ((I.2.getD f fi0).2.2.1.getD l [])).length=((I.2.getD f fi0).2.2.1.getD l []).length:=zde _;omega
 have e1:gl (tQ s f) l=flA (s.2.1.getD f zA).1 (gl (gB s f) l) (gl (gB s f) l).length:=kA _ _ (by rw[U];exact G);have e2:gp (flA (s.2.1.getD f zA).1 (gl (gB s f) l) (gl (gB s f) l).length) m=gY (s.2.1.getD f zA).1 (gp (gl (gB s f) l) m):=kA _ _ (by rw[O];exact C);rw[e1,e2,c4 m C,H];unfold gY;rw[(zVE M).1,(zVE M).2,yA0,yA0];have Z:gI (flI (eY (I.2.getD f fi0).1) I.1 ((I.2.getD f fi0).2.2.1.getD l [])) m=(aI3 (g3 I.1 (((I.2.getD f fi0).2.2.1.getD l []).getD m 0).toNat) (eY (I.2.getD f fi0).1).1,aI3 (g3 I.1 (((I.2.getD f fi0).2.2.1.getD l []).getD m 0).toNat) (eY (I.2.getD f fi0).1).2):=by
  unfold gI flI;exact fX (λk:Int=>(aI3 (g3 I.1 k.toNat) (eY (I.2.getD f fi0).1).1,aI3 (g3 I.1 k.toNat) (eY (I.2.getD f fi0).1).2)) 0 (0,0) C
 rw[Z];unfold ag pr;rw[yqu,yqu,<-zpe,<-zpe]
 rfl
theorem zET{f:Nat}(h:aB v I s)(hb:chI I=true)(hf:f<I.2.length):vS (tQ s f) 0 1=0/\ouZ (tQ s f)=1/\∀l,l∈tQ s f->pK l:=by
 have C:=nK h hb hf;unfold faB at C;replace C:=(zbu _ _▸C).2;rw[zbu] at C;exact zK3 zov zov (zPR h hb hf) C.2
theorem yEZ{v u w:I3}(h:cP v u=cP v w):u=w:=by
 have G:=zre.1 (zbi T3.x h);have D:=zre.1 (zbi T3.y h);have C:=zre.1 (zbi T3.z h);exact Prod.ext zos (Prod.ext zos zos)
theorem zC8(h:aB v I s)(hb:chI I=true):oU s/\okS s:=by
 have G:=hb;unfold chI at G;replace G:=(zbu _ _▸G).2;rw[zbu,zbu,zbu,zhi] at G;obtain⟨⟨⟨aa,_⟩,U⟩,Z⟩:=G;have ac:=mL h;have ab:=h.2.2.1;have H:∀f,f<s.2.1.length->nmP s f/\vfP (s.2.1.getD f zA).2.1:=λf C=>zIY h hb zos;have M:vaP (vT s):=⟨by rw[tW];omega,λf C=>by rw[tW] at C;rw[nM C];exact(H f C).2⟩;constructor
 · refine zO5 (yAF ?_ λf C=>⟨(H f C).2,(H f C).1⟩) (yAD λi k hk hi e=>?_) (yAJ (λf C=>?_) λf C l hl k hk=>?_) (yAL λf C=>?_) (yAY M ?_)
   · unfold zOW
     rw[h.2.1]
     show ¬((512<s.1.length\/256<s.2.1.length)\/1024<0)
     omega
   · rw[h.1,zE5 zos,zE5 zos] at e
     have h1:=zob.1 (zob.1 U i (zog.2 zos)) k (zog.2 hk);rw[zje,zgu] at h1;exact h1 (yEZ e)
   · obtain⟨r,O,J⟩:=zK8 (h.2.2.2 f zos)
     rw[J];refine zTN O λe=>?_;have D:=nK h hb (f:=f) zos;unfold faB at D;replace D:=(zbu _ _▸D).2;rw[zbu,zbu,zje,zgu] at D;exact D.1.2 e
   · obtain⟨r,O,J⟩:=zK8 (h.2.2.2 f zos)
     obtain⟨c1,c2⟩:=zPT h hb (f:=f) zos;obtain⟨c3,c4⟩:=c2 l zos;rw[c4 k zos,J,yDL O,(zFC (nK h hb (f:=f) zos) (l:=l) zos).2 k zos,yvi]
     rfl
   · exact⟨(zET h hb zos).1,(zET h hb zos).2.1⟩
   · rw[zG4 h];exact Z
 · refine⟨⟨⟨by omega,by omega⟩,by rw[h.2.1];exact zqe _⟩,λf C=>?_,λf C x hx=>(zET h hb zos).2.2 x hx⟩
   have h1:=(H f C).2;exact⟨h1.1.2,λl hl=>(h1.2 l hl).1.2⟩
end
def zY9(u w:I3):Bool:=decide (u.1<w.1\/(u.1=w.1/\(u.2.1<w.2.1\/(u.2.1=w.2.1/\u.2.2<w.2.2))))
theorem yGD(v u w:I3):lsP (cP v u) (cP v w)↔zY9 u w=true:=by
 unfold lsP zY9 cP;rw[zhi];simp only[yce,zre];omega
def lsI(I:SI):List (List (List Int)):=I.2.map λf=>f.2.2.1
def zKK(I:SI):List Int:=orB (edZ (lsI I)) (λi k=>zY9 (g3 I.1 i) (g3 I.1 k)) I.1.length
def ixJ(o:List Int)(n:Nat):Nat->List Int
  |0=>List.replicate n (0:Int)
  |i+1=>(ixJ o n i).set (o.getD i 0).toNat (i:Int)
def ixI(I:SI):List Int:=ixJ (zKK I) I.1.length (zKK I).length
def nwB(ix x:List Int):List Int:=zRB (uD (λq=>ix.getD (x.getD q 0).toNat 0) x.length)
def zTJ{α:Type}(p:Nat->Bool)(g:Nat->α):Nat->List α
  |0=>[]
  |i+1=>zTJ p g i++(if p i then[g i] else[])
def zF7(p:Nat->Bool)(g:Nat->List Int):Nat->List (List Int)
  |0=>[]
  |i+1=>if p i then zF7 p g i else eS (zF7 p g i) (zCN (λk=>decide (rZ (g i) ((zF7 p g i).getD k [])<0)) (zF7 p g i).length) (g i)
def poB(P:List I3)(f:FI)(i:Nat):Bool:=decide (0<arG (flI (eY f.1) P (f.2.2.1.getD i [])) (f.2.2.1.getD i []).length)
def nfB(P:List I3)(ix:List Int)(f:FI):FI:=(f.1,f.2.1,zTJ (poB P f) (λi=>nwB ix (f.2.2.1.getD i [])) f.2.2.1.length++zF7 (poB P f) (λi=>nwB ix (f.2.2.1.getD i [])) f.2.2.1.length,f.2.2.2)
def nmI(I:SI)(i:Nat):List Nat:=(I.2.getD i fi0).2.2.2
def nrI(I:SI):SI:=((zKK I).map λk=>g3 I.1 k.toNat,(nsB (nmI I) I.2.length).map λi=>nfB I.1 (ixI I) (I.2.getD i fi0))
def nmB(I:SI):Bool:=(List.range I.2.length).all λi=>(List.range i).all λk=>!decide (nmI I i=nmI I k)
theorem zPA{α:Type}{P:Nat->Prop}{p:Nat->Bool}(g:Nat->α):∀n,(∀i,i<n->(P i↔p i=true))->pG P g n=zTJ p g n
  |0,_=>rfl
  |n+1,h=>by
   have ih:=zPA g n λi hi=>h i zos;have h1:=h n zos;unfold pG zTJ;rw[ih]
   by_cases e:P n
   · rw[zau e,zau (h1.1 e)]
   · rw[zae e,zae λe'=>e (h1.2 e')]
theorem zV4{s:Sd}{ix:List Int}{f:Nat}{p:Nat->Bool}{g:Nat->List Int}:∀n,(∀i,i<n->(zCU s f i↔p i=true)/\nfL s ix f i=g i)->w9 s ix f n=zF7 p g n
  |0,_=>rfl
  |n+1,h=>by
   have ih:=zV4 (s:=s) (ix:=ix) (f:=f) n λi hi=>h i zos;obtain⟨h1,h2⟩:=h n zos;unfold w9 zF7;rw[ih,h2,zA2 (P:=zV5 (g n) (zF7 p g n)) (p:=λk=>decide (rZ (g n) ((zF7 p g n).getD k [])<0)) _ λk hk=>(show rZ (g n) ((zF7 p g n).getD k [])<0↔_ from zhi.symm)]
   by_cases e:zCU s f n
   · rw[zau e,zau (h1.1 e)]
   · rw[zae e,zae λe'=>e (h1.2 e')]
theorem zMP{q:Rat}(e:yW q=0):q=0:=by
 rw[pV] at e
 split at e
 · assumption
 · split at e<;>exact absurd e zov
theorem zYD(a r:Rat)(pl:Pl):scW a (scW r pl)=scW (a*r) pl:=by
 unfold scW;refine Prod.ext ?_ ?_
 · show T3.mk (a*(r*_)) (a*(r*_)) (a*(r*_))=T3.mk (a*r*_) (a*r*_) (a*r*_)
   rw[yye,yye,yye]
 · show a*(r*_)=a*r*_
   rw[yye]
theorem yD6{r:Rat}(hr:0<r){n:Int}(hn:¬n=0):ivA (r*(n:Rat))*r=1/((if n<0 then -n else n:Int):Rat):=by
 have D:¬(n:Rat)=0:=λe=>hn (zre.1 e);have C:¬r=0:=λe=>absurd (e▸hr) zov;have hx:¬r*(n:Rat)=0:=λe=>(zoe.1 e).elim C D;have J:eZ (r*(n:Rat))=r*((if n<0 then -n else n:Int):Rat):=by
  have h1:=zTM hr n;unfold eZ;simp only[aP]
  by_cases h:n<0
  · rw[zau (h1.2 h),zau h,z6e];grind
  · rw[zae (λe=>h (h1.1 e)),zae h]
 have G:¬((if n<0 then -n else n:Int):Rat)=0:=λe=>by
  have:=zre.1 e
  split at this<;>omega
 unfold ivA;rw[J,zae (λe=>(zoe.1 e).elim C G)];generalize ((if n<0 then -n else n:Int):Rat)=m at G ⊢;have H:((1:Int):Rat)=1:=I;rw[H];grind
theorem yCV{v:I3}{f:FI}{r:Rat}(hr:0<r)(hn:¬f.1=z3)(hb:bd3 f.1=true):∃a:Int,(0<a/\a<=1000)/\scZ (scW r (cPl v f))=scW (1/(a:Rat)) (cPl v f):=by
 unfold bd3 at hb;rw[zhi] at hb;have g:∀n:Int,-1000<=n/\n<=1000->¬yW (r*(n:Rat))=0->∃a:Int,(0<a/\a<=1000)/\scW (ivA (r*(n:Rat))) (scW r (cPl v f))=scW (1/(a:Rat)) (cPl v f):=λn h1 h2=>by
  have G:¬n=0:=λe=>h2 (by
   rw[e];exact zau (yue _))
  refine⟨if n<0 then -n else n,by split<;>omega,?_⟩;rw[zYD,yD6 hr G]
 unfold scZ
 split
 · rename_i e
   exact g _ hb.1 e
 · split
   · rename_i e
     exact g _ hb.2.1 e
   · split
     · rename_i e
       exact g _ hb.2.2 e
     · rename_i e1 e2 e3
       have h:=zTN (v:=v) hr hn;refine absurd ?_ h;have D:=zMP (zdi e1);have C:=zMP (zdi e2);have z3:=zMP (zdi e3);generalize (scW r (cPl v f)).1=t at D C z3;obtain⟨a,b,c⟩:=t;simp only at D C z3;rw[D,C,z3]
section
variable {v:I3}{I:SI}{s:Sd}
theorem zIX(h:aB v I s)(hb:chI I=true):gX s=zKK I:=by
 have C:=mL h;unfold gX zKK;rw[zNH (lt:=λi k=>zY9 (g3 I.1 i) (g3 I.1 k)) (n:=s.1.length) (λi k hi D=>by rw[h.1,zE5 zos,zE5 zos];exact yGD _ _ _) _ (zbe _),zG4 h,C];rfl
theorem zPS(h:aB v I s)(hb:chI I=true):∀i,zF6 s i=ixJ (zKK I) I.1.length i
  |0=>by unfold zF6 ixJ;rw[mL h]
  |i+1=>by unfold zF6 ixJ;rw[zPS h hb i,zIX h hb]
theorem yDN(h:aB v I s)(hb:chI I=true):ixZ s=ixI I:=by
 unfold ixZ ixI;rw[zPS h hb,zIX h hb]
theorem yDM{f:Nat}(h:aB v I s)(hb:chI I=true)(hf:f<I.2.length):zIZ v (nfB I.1 (ixI I) (I.2.getD f fi0)) (nfF s (ixZ s) f):=by
 obtain⟨r,hr,M⟩:=zK8 (h.2.2.2 f hf);have e:=(h.2.2.2 f hf).2;have e1:(s.2.1.getD f zA).2.1=(I.2.getD f fi0).2.2.1:=zbi Prod.fst e;have e2:(s.2.1.getD f zA).2.2=(I.2.getD f fi0).2.2.2:=zbi Prod.snd e;have C:=nK h hb hf;have O:¬(I.2.getD f fi0).1=z3:=by
  unfold faB at C;replace C:=(zbu _ _▸C).2;rw[zbu,zbu,zje,zgu] at C;exact C.1.2
 have U:=zPR h hb hf;have D:∀i,i<(I.2.getD f fi0).2.2.1.length->(zCU s f i↔poB I.1 (I.2.getD f fi0) i=true):=λi hi=>by
  have hl:=U.2 i (by rw[zde];exact hi);rw[fX (flI (eY (I.2.getD f fi0).1) I.1) [] [] hi] at hl;unfold zCU poB;rw[zDD zov zov hl,iI,zhi];have:(flI (eY (I.2.getD f fi0).1) I.1 ((I.2.getD f fi0).2.2.1.getD i [])).length=((I.2.getD f fi0).2.2.1.getD i []).length:=zde _;rw[this]
 have G:∀i,nfL s (ixZ s) f i=nwB (ixI I) ((I.2.getD f fi0).2.2.1.getD i []):=λi=>by
  unfold nfL nwB nwL;rw[yDN h hb,e1]
 have Z:bd3 (I.2.getD f fi0).1=true:=by
  unfold faB at C;exact(zbu _ _▸(zbu _ _▸C).1).1
 obtain⟨r',J,H⟩:=yCV (v:=v) hr O Z;constructor
 · refine⟨r',J,?_⟩
   show scZ (s.2.1.getD f zA).1=_
   rw[M,H];rfl
 · refine Prod.ext ?_ e2
   show ouL s (ixZ s) f (s.2.1.getD f zA).2.1.length++w9 s (ixZ s) f (s.2.1.getD f zA).2.1.length=_
   rw[e1];have g1:ouL s (ixZ s) f (I.2.getD f fi0).2.2.1.length=zTJ (poB I.1 (I.2.getD f fi0)) (λi=>nwB (ixI I) ((I.2.getD f fi0).2.2.1.getD i [])) (I.2.getD f fi0).2.2.1.length:=by
    unfold ouL;rw[zPA (nfL s (ixZ s) f) _ D]
    congr 1
    funext i
    exact G i
   rw[g1,zV4 (p:=poB I.1 (I.2.getD f fi0)) (g:=λi=>nwB (ixI I) ((I.2.getD f fi0).2.2.1.getD i [])) _ λi hi=>⟨D i hi,G i⟩]
   rfl
theorem zVD(h:aB v I s)(hb:chI I=true)(hn:nmB I=true):aB v (nrI I) (nrP s,nrF s,nrE s):=by
 have G:=(zC8 h hb).1;have hl:=mL h;have H:=zIX h hb;have D:w3 s s.2.1.length=(nsB (nmI I) I.2.length).map λi=>nfF s (ixZ s) i:=by
  rw[h.2.2.1];refine zIS (n:=I.2.length) (λi hi=>by show(s.2.1.getD i zA).2.2=_;exact zbi Prod.snd (h.2.2.2 i hi).2) (λi hi k J=>?_) _ (zbe _);have h1:=zob.1 (zob.1 hn i (zog.2 hi)) k (zog.2 J);rw[zje,zgu] at h1;exact h1
 refine⟨?_,?_,?_,?_⟩
 · show nrP s=_
   unfold nrP;rw[zau G];unfold zU2;refine zFD zT (by rw[xH,H];show _=(((zKK I).map _).map _).length;rw[zde,zde]) λi hi=>?_;rw[xH] at hi;have hg:=mG (s:=s) (i:=s.1.length) (k:=i) hi;rw[kA _ _ hi]
   show _=(((zKK I).map λk=>g3 I.1 k.toNat).map (cP v)).getD i zT
   rw[H] at hi;rw[fX (cP v) z3 zT (by rw[zde];exact hi),fX (λk:Int=>g3 I.1 k.toNat) 0 z3 hi,<-H,h.1];have:((gX s).getD i 0)=(bK s s.1.length).getD i 0:=rfl;exact zE5 zos
 · show nrE s=[]
   unfold nrE;rw[zau G];exact h.2.1
 · show(nrF s).length=((nsB (nmI I) I.2.length).map _).length
   unfold nrF;rw[zau G,D,zde,zde]
 · intro f O
   have C:f<(nsB (nmI I) I.2.length).length:=by
    have:((nsB (nmI I) I.2.length).map λi=>nfB I.1 (ixI I) (I.2.getD i fi0)).length=_:=zde _;have M:f<((nsB (nmI I) I.2.length).map λi=>nfB I.1 (ixI I) (I.2.getD i fi0)).length:=O;omega
   have hx:=zIT _ _ _ (kO (d:=0) C);have Z:(nrI I).2.getD f fi0=nfB I.1 (ixI I) (I.2.getD ((nsB (nmI I) I.2.length).getD f 0) fi0):=fX (λi=>nfB I.1 (ixI I) (I.2.getD i fi0)) 0 fi0 C;have U:(nrF s).getD f zA=nfF s (ixZ s) ((nsB (nmI I) I.2.length).getD f 0):=by
    unfold nrF;rw[zau G,D];exact fX (λi=>nfF s (ixZ s) i) 0 zA C
   show zIZ v ((nrI I).2.getD f fi0) ((nrF s).getD f zA)
   rw[Z,U];exact yDM h hb hx
end
def fdI(B:List PI)(p:PI):Nat->Int
  |0=>-1
  |j+1=>if B.getD j (0,0)=p then(j:Int) else fdI B p j
def adI(B:List PI)(p:PI):List PI:=if fdI B p B.length<0 then B++[p] else B
def anI(B:List PI)(p:PI):Int:=if fdI B p B.length<0 then(B.length:Int) else fdI B p B.length
def plI(B x:List PI):Nat->List PI
  |0=>B
  |k+1=>adI (plI B x k) (x.getD k (0,0))
def pnI(B x:List PI):Nat->List Int:=uD λk=>anI (plI B x k) (x.getD k (0,0))
def zUC(T:List (List PI)):Nat->List PI
  |0=>[]
  |i+1=>plI (zUC T i) (T.getD i []) (T.getD i []).length
def bsI(T:List (List PI)):List PI:=zUC T T.length
def bxI(T:List (List PI)):List (List Int):=uD (λi=>pnI (zUC T i) (T.getD i []) (T.getD i []).length) T.length
def ppI(T:List (List PI))(h:Int):List I3:=uD (λi=>(((bsI T).getD (i%(bsI T).length) (0,0)).1,((bsI T).getD (i%(bsI T).length) (0,0)).2,if((bsI T).length:Int)<=(i:Int) then h else 0)) (2*(bsI T).length)
def xaI(T:List (List PI))(i k:Nat):Int:=((bxI T).getD i []).getD k 0
def xbI(T:List (List PI))(i k:Nat):Int:=((bxI T).getD i []).getD ((k+1)%((bxI T).getD i []).length) 0
def snI(T:List (List PI))(h:Int)(i k:Nat):I3:=((g3 (ppI T h) (xbI T i k).toNat).2.1-(g3 (ppI T h) (xaI T i k).toNat).2.1,-((g3 (ppI T h) (xbI T i k).toNat).1-(g3 (ppI T h) (xaI T i k).toNat).1),0)
def sdI(T:List (List PI))(h:Int)(i k:Nat):FI:=(snI T h i k,dt3 (snI T h i k) (g3 (ppI T h) (xaI T i k).toNat),[[xaI T i k,xbI T i k,xbI T i k+((bsI T).length:Int),xaI T i k+((bsI T).length:Int)]],[115,48+i,46,48+k])
def prI(T:List (List PI))(h:Int):SI:=(ppI T h,jY (λi=>uD (λk=>sdI T h i k) ((bxI T).getD i []).length) (bxI T).length++
 [((0,0,-1),0,uD (λi=>zJ3 ((bxI T).getD i []) ((bxI T).getD i []).length) (bxI T).length,[98,111,116,116,111,109]),
  ((0,0,1),h,uD (λi=>uD (λk=>((bxI T).getD i []).getD k 0+((bsI T).length:Int)) ((bxI T).getD i []).length) (bxI T).length,[116,111,112])])
def sb3(u w:I3):I3:=(u.1-w.1,u.2.1-w.2.1,u.2.2-w.2.2)
def cx3(a b:I3):I3:=(a.2.1*b.2.2-a.2.2*b.2.1,a.2.2*b.1-a.1*b.2.2,a.1*b.2.1-a.2.1*b.1)
def th3(a b c:I3):I3:=cx3 (sb3 b a) (sb3 c a)
def ng3(n:I3):I3:=(-n.1,-n.2.1,-n.2.2)
def tsI(a b c:I3)(i k:Int)(nm:List Nat):FI:=(th3 a b c,dt3 (th3 a b c) a,[[i,k,3]],nm)
def pyI(A B C T:I3):SI:=([A,B,C,T],[tsI A B T 0 1 [115,48],tsI B C T 1 2 [115,49],tsI C A T 2 0 [115,50],(ng3 (th3 A B C),-dt3 (th3 A B C) A,[[2,1,0]],[98,97,115,101])])
def teI(p c q e f g:Nat):SI:=pyI (0,0,0) (1+p,0,0) (c,1+q,0) (e,f,1+g)
def bxJ(p q r:Int):SI:=([(0,0,0),(0,0,r),(0,q,0),(0,q,r),(p,0,0),(p,0,r),(p,q,0),(p,q,r)],[((-1,0,0),0,[[0,1,3,2]],[120,48]),((1,0,0),p,[[4,6,7,5]],[120,49]),((0,-1,0),0,[[0,4,5,1]],[121,48]),((0,1,0),q,[[2,3,7,6]],[121,49]),((0,0,-1),0,[[0,2,6,4]],[122,48]),((0,0,1),r,[[1,5,7,3]],[122,49])])
def baT:List (List (List PI)):=[[[(0,0),(2,0),(2,1),(1,1),(1,2),(0,2)]],[[(0,0),(3,0),(3,3),(0,3)],[(1,1),(1,2),(2,2),(2,1)]],[[(0,0),(3,0),(3,3),(0,3)],[(1,1),(0,0),(1,2)]],[[(0,0),(1,0),(2,0),(2,2),(0,1)]]]
def trT(a b c:Nat):List (List PI):=[[(0,0),((1+a:Nat),0),((b:Nat),(1+c:Nat))]]
def zBN(I:SI):Bool:=chI I&&nmB I&&chI (nrI I)
def teB(p c q:Nat):Bool:=(List.range 3).all λe=>(List.range 3).all λf=>(List.range 3).all λg=>zBN (teI p c q e f g)
end Bk
namespace Bk
open Go Go.RowKit
open Classical
theorem zDX{α:Type}{ρ σ:Rp α}(P:α->Prop)(hn:ρ.n=σ.n)(k:∀{h cs x},ρ.R h cs x->P x->σ.R h cs x){h:Mem}{cs:List Value}{xs:List α}(r:(rpS ρ).R h cs xs)(hp:∀x,x∈xs->P x):(rpS σ).R h cs xs:=by
 obtain⟨v,ds,e,s,rl⟩:=r;refine⟨v,ds,e,hn▸s,?_⟩
 clear s e
 induction xs generalizing ds with
 |nil=>exact rl
 |cons x xs ih=>
  obtain⟨a,b,e,ra,rb⟩:=rl;exact⟨a,b,e,k ra (hp x (.head _)),ih (λy hy=>hp y (.tail _ hy)) b rb⟩
end Bk
namespace Bk
open Classical
def smS(k m n j:Nat)(s:Sd):Prop:=(∀p,p∈s.1->lqP k p)/\(∀f,f∈s.2.1->lqP m f.1.1/\lq f.1.2<=n)/\∀e,e∈s.2.2->lq e.2.2<=j
section
variable {h:Mem}{cs:List Go.Value}
theorem zWG{M N m n:Nat}{f:Fc}(r:(rpP (rpP (rpT (rpQ M)) (rpQ N)) (rpP (rpS (rpS rpI)) kD)).R h cs f)(hp:lqP m f.1.1/\lq f.1.2<=n):(rpP (rpP (rpT (rpQ m)) (rpQ n)) (rpP (rpS (rpS rpI)) kD)).R h cs f:=by
 obtain⟨a,b,e,⟨H,G,D,r1,r2⟩,C⟩:=r;exact⟨a,b,e,⟨H,G,D,zRF r1 I hp.1,zYL r2 I hp.2⟩,C⟩
theorem zWK{J j:Nat}{x:En}(r:(rpP rpI (rpP rpI (rpQ J))).R h cs x)(hp:lq x.2.2<=j):(rpP rpI (rpP rpI (rpQ j))).R h cs x:=by
 obtain⟨a,b,e,G,c,d,H,D,C⟩:=r;exact⟨a,b,e,G,c,d,H,D,zYL C I hp⟩
theorem zDV{K M N J k m n j:Nat}{s:Sd}(r:(rpP (rpS (rpT (rpQ K))) (rpP (rpS (rpP (rpP (rpT (rpQ M)) (rpQ N)) (rpP (rpS (rpS rpI)) kD))) (rpS (rpP rpI (rpP rpI (rpQ J)))))).R h cs s)(hp:smS k m n j s):
 (rpP (rpS (rpT (rpQ k))) (rpP (rpS (rpP (rpP (rpT (rpQ m)) (rpQ n)) (rpP (rpS (rpS rpI)) kD))) (rpS (rpP rpI (rpP rpI (rpQ j)))))).R h cs s:=by
 obtain⟨a,b,e,G,c,d,H,D,C⟩:=r;exact⟨a,b,e,zDX (ρ:=rpT (rpQ K)) (σ:=rpT (rpQ k)) (lqP k) I (λr hp=>zRF r I hp) G hp.1,c,d,H,
  zDX (ρ:=rpP (rpP (rpT (rpQ M)) (rpQ N)) (rpP (rpS (rpS rpI)) kD)) (σ:=rpP (rpP (rpT (rpQ m)) (rpQ n)) (rpP (rpS (rpS rpI)) kD)) (λf=>lqP m f.1.1/\lq f.1.2<=n) I zWG D hp.2.1,
  zDX (ρ:=rpP rpI (rpP rpI (rpQ J))) (σ:=rpP rpI (rpP rpI (rpQ j))) (λx=>lq x.2.2<=j) I zWK C hp.2.2⟩
end
section
variable {a b:Pt}
structure BoxL(k:Nat)(a b:Pt):Prop where
 lq:lqP k b
 ok:oQ a b
 h:blH a b
 e:blE a b=0
 oks:okS (bkS a b)
 snd:oU (bkS a b)
 sm:smS k 2 (k+2) 0 (bkS a b)
 onb:∀p,onA (zI0 (bkS a b)) p↔(∀u,u<3->kI a b p u)/\¬∀u,u<3->sI a b p u
 wd:∀p,¬onA (zI0 (bkS a b)) p->wdM (zI0 (bkS a b)) p=oneI (∀u,u<3->sI a b p u)
 inb:∀p,inM (zI0 (bkS a b)) p=if ∀u,u<3->sI a b p u then 1 else if ∀u,u<3->kI a b p u then 0 else -1
theorem zS3{i:Nat}(h:i<3):i=0\/i=1\/i=2:=by omega
end
structure SaneL:Prop where
 b:BoxL 2 (pI 0 0 0) (pI 1 1 1)
 o1:¬onA (zI0 (bkS (pI 0 0 0) (pI 1 1 1))) (T3.mk (jS 1 2) (jS 1 2) (jS 1 2))
 w1:wdM (zI0 (bkS (pI 0 0 0) (pI 1 1 1))) (T3.mk (jS 1 2) (jS 1 2) (jS 1 2))=1
 o2:¬onA (zI0 (bkS (pI 0 0 0) (pI 1 1 1))) (pI 2 0 0)
 w2:wdM (zI0 (bkS (pI 0 0 0) (pI 1 1 1))) (pI 2 0 0)=0
 i3:inM (zI0 (bkS (pI 0 0 0) (pI 1 1 1))) (pI 1 1 1)=0
def thN(a b c:Pt):Pt:=uC (kT b a) (kT c a)
def thZ(a b c:Pt):Pl:=if thN a b c=zT then zRI else(thN a b c,vZ (thN a b c) a)
def thE(a b c:Pt):Int:=if thN a b c=zT then 9 else 0
theorem yFR{a b c:Pt}(h:thN a b c=zT):thZ a b c=zRI/\thE a b c=9:=⟨zau h,zau h⟩
theorem zS4{a b c:Pt}(h:¬thN a b c=zT):thZ a b c=(thN a b c,vZ (thN a b c) a)/\thE a b c=0:=⟨zae h,zae h⟩
def opP(pl:Pl):Pl:=(T3.mk (((-1:Int):Rat)*pl.1.x) (((-1:Int):Rat)*pl.1.y) (((-1:Int):Rat)*pl.1.z),-pl.2)
section
variable (l:List Pt)(t:Pt)
def pyX(i:Nat):Fc:=(thZ (l.getD i zT) (l.getD ((i+1)%l.length) zT) t,[[(i:Int),(((i+1)%l.length:Nat):Int),(l.length:Int)]],[115]++qF (((i:Int):Int):Rat))
def pyT:Nat->List Fc:=uD (pyX l t)
def pyL(n:Nat):Nat->List Int:=uD λi=>(n:Int)-1-(i:Int)
def pyB:Fc:=(opP (thZ (l.getD 0 zT) (l.getD 1 zT) (l.getD 2 zT)),[pyL l.length l.length],[98,97,115,101])
def pyR:Sd:=(l++[t],pyT l t l.length++[pyB l],[])
def pyH:Prop:=((3<=l.length/\l.length<=64)/\¬thN (l.getD 0 zT) (l.getD 1 zT) (l.getD 2 zT)=zT)/\(zFG (thZ (l.getD 0 zT) (l.getD 1 zT) (l.getD 2 zT)) l/\0<sdZ (thZ (l.getD 0 zT) (l.getD 1 zT) (l.getD 2 zT)) t)/\okS (pyR l t)
end
def bdV(v:I3):Prop:=(-1000<=v.1/\v.1<=1000)/\(-1000<=v.2.1/\v.2.1<=1000)/\(-1000<=v.2.2/\v.2.2<=1000)
theorem zJG{u:I3}:bd3 u=true↔bdV u:=by unfold bd3 bdV;rw[zhi]
theorem mP{a n:Int}(ha:0<a/\a<=1000)(hn:-9223372036854775808<=n)(hn':n<9223372036854775808):lq (1/(a:Rat)*(n:Rat))<=2:=by
 have h:=zDA hn hn' (d:=a) zos zos;have e:jS n a=1/(a:Rat)*(n:Rat):=by
  unfold jS;rw[Rat.div_def,Rat.div_def,yqu,Rat.mul_comm]
 rw[<-e];exact h
theorem zN1{a b:Int}(ha:-1000<=a/\a<=1000)(hb:-1000<=b/\b<=1000):-1000000<=a*b/\a*b<=1000000:=by
 have h1:=yli (show 0<=1000-a by omega) (show 0<=1000-b by omega);have h2:=yli (show 0<=1000+a by omega) (show 0<=1000+b by omega);have h3:=yli (show 0<=1000-a by omega) (show 0<=1000+b by omega);have C:=yli (show 0<=1000+a by omega) (show 0<=1000-b by omega);have J:(1000-a)*(1000-b)=1000000-1000*a-1000*b+a*b:=by grind
 have H:(1000+a)*(1000+b)=1000000+1000*a+1000*b+a*b:=by grind
 have G:(1000-a)*(1000+b)=1000000-1000*a+1000*b-a*b:=by grind
 have D:(1000+a)*(1000-b)=1000000+1000*a-1000*b-a*b:=by grind
 omega
theorem yGO{n u:I3}(hn:bdV n)(hu:bdV u):-3000000<=dt3 n u/\dt3 n u<=3000000:=by
 have h1:=zN1 hn.1 hu.1;have h2:=zN1 hn.2.1 hu.2.1;have h3:=zN1 hn.2.2 hu.2.2;unfold dt3;omega
theorem yCE{v:I3}{I:SI}{s:Sd}(h:aB v I s)(hb:chI I=true)(hv:bdV v):smS 2 2 2 1 s:=by
 refine⟨λp H=>?_,λf O=>?_,λe J=>?_⟩
 · rw[h.1] at H
   obtain⟨u,M,rfl⟩:=zte.1 H;have h1:bdV u:=zJG.1 (zob.1 (by unfold chI at hb;exact(zbu _ _▸hb).1) u M);unfold bdV at h1 hv;exact⟨mO _ zos zos,mO _ zos zos,mO _ zos zos⟩
 · obtain⟨i,hi,rfl⟩:=yDQ zA O
   have C:i<I.2.length:=by rw[<-h.2.2.1];exact hi
   obtain⟨a,G,e⟩:=(h.2.2.2 i C).1;have D:=nK h hb C;unfold faB at D;have h1:=(zbu _ _▸(zbu _ _▸D).1);have h2:bdV (I.2.getD i fi0).1:=zJG.1 h1.1;have h3:-1000<=(I.2.getD i fi0).2.1/\(I.2.getD i fi0).2.1<=1000:=yau h1.2;have U:=yGO h2 hv;rw[e];unfold bdV at h2;exact⟨⟨mP G zos zos,mP G zos zos,mP G zos zos⟩,mP G zos zos⟩
 · rw[h.2.1] at J;cases J
theorem yDC(pl:Pl):scW (1/((1:Int):Rat)) pl=pl:=by
 have e:1/((1:Int):Rat)=1:=by decide +kernel
 rw[e];unfold scW;simp only[yqu]
theorem aR{v:I3}{f:FI}{x:Fc}(h1:x.1=cPl v f)(h2:x.2=f.2.2):zIZ v f x:=⟨⟨1,by decide,by rw[yDC];exact h1⟩,h2⟩
theorem yE4{x y z p q r:Int}(hp:0<p)(hq:0<q)(hr:0<r):aB (x,y,z) (bxJ p q r) (bkS (pI x y z) (pI (x+p) (y+q) (z+r))):=by
 have g:∀a b:Int,0<b->(a:Rat)<((a+b:Int):Rat):=λa b h=>yce.2 zos;have C:oQ (pI x y z) (pI (x+p) (y+q) (z+r)):=by
  intro u D;rw[u5];refine Rat.not_le.2 ?_
  rcases zS3 D with rfl|rfl|rfl
  · exact g x p hp
  · exact g y q hq
  · exact g z r hr
 rw[zQR C];refine⟨?_,I,I,λf H=>?_⟩
 · show uB1.map (cU _ _)=_
   simp[uB1,cU,cB,pI,cP,bxJ]
 · have G:f<6:=H
   have e0:((0:Int):Rat)=0:=I;have J:((1:Int):Rat)=1:=I;have:f=0\/f=1\/f=2\/f=3\/f=4\/f=5:=by omega
   rcases this with rfl|rfl|rfl|rfl|rfl|rfl<;>
    (refine aR (Prod.ext ?_ ?_) I<;>simp[bxS,fB3,plD,dN,bxJ,cPl,nr3,dt3,pI,T3.set,T3.at,e0,J,zpe,z6e]<;>grind)
theorem zLN{α:Type}(d:α)(l k:List α)(i:Nat):(l++k).getD i d=if i<l.length then l.getD i d else k.getD (i-l.length) d:=by
 rw[zoa,List.getElem?_append]
 split<;>rw[zoa]
def zF4(v:I3)(B:List FI)(A:List Fc):Prop:=A.length=B.length/\∀f,f<B.length->zIZ v (B.getD f fi0) (A.getD f zA)
section
variable {v:I3}
theorem zI1{B B':List FI}{A A':List Fc}(h:zF4 v B A)(h':zF4 v B' A'):zF4 v (B++B') (A++A'):=by
 refine⟨by rw[lAz,lAz,h.1,h'.1],λf C=>?_⟩;rw[lAz] at C;rw[zLN,zLN,h.1]
 by_cases e:f<B.length
 · rw[zau e,zau e];exact h.2 f e
 · rw[zae e,zae e];exact h'.2 _ zos
theorem zVI:zF4 v [] []:=⟨rfl,λf hf=>absurd hf (yte _)⟩
theorem zN8{b:FI}{a:Fc}(h:zIZ v b a):zF4 v [b] [a]:=⟨rfl,λf hf=>by
 have:f=0:=by have:f<1:=hf;omega
 subst this;exact h⟩
theorem zVJ{g:Nat->FI}{f:Nat->Fc}:∀n,(∀i,i<n->zIZ v (g i) (f i))->zF4 v (uD g n) (uD f n)
  |0,_=>zVI
  |n+1,h=>zI1 (zVJ n λi hi=>h i zos) (zN8 (h n zos))
theorem zPU{g:Nat->List FI}{f:Nat->List Fc}:∀n,(∀i,i<n->zF4 v (g i) (f i))->zF4 v (jY g n) (jY f n)
  |0,_=>zVI
  |n+1,h=>zI1 (zPU n λi hi=>h i zos) (h n zos)
end
def c2(x y:Int)(u:PI):Pt:=T3.mk ((x+u.1:Int):Rat) ((y+u.2:Int):Rat) (0:Rat)
def baL(x y:Int)(T:List (List PI)):List (List Pt):=T.map λs=>s.map (c2 x y)
section
variable {x y:Int}
theorem zS6(u w:PI):zHX (c2 x y u) (c2 x y w)↔u=w:=by
 unfold zHX c2;rw[zre,zre];constructor
 · rintro⟨h1,h2⟩;exact Prod.ext zos zos
 · rintro rfl;exact⟨I,I⟩
theorem zFI(B:List PI){j:Nat}(h:j<B.length):(B.map (c2 x y)).getD j zT=c2 x y (B.getD j (0,0)):=fX _ _ _ h
theorem zWF(B:List PI)(p:PI):∀j,j<=B.length->iW (B.map (c2 x y)) (c2 x y p) j=fdI B p j
  |0,_=>rfl
  |j+1,h=>by
   unfold iW fdI;rw[zWF B p j zos,zFI B zos]
   by_cases e:B.getD j (0,0)=p
   · rw[zau e,zau ((zS6 _ _).2 e)]
   · rw[zae e,zae λe'=>e ((zS6 _ _).1 e')]
theorem zXN(B:List PI)(p:PI):adB (B.map (c2 x y)) (c2 x y p)=(adI B p).map (c2 x y)/\adN (B.map (c2 x y)) (c2 x y p)=anI B p:=by
 unfold adB adN adI anI fdZ;rw[zde,zWF B p _ (zbe _)];constructor
 · split
   · rw[z1u];rfl
   · rfl
 · rfl
theorem zM3(B s:List PI):∀k,k<=s.length->plB (B.map (c2 x y)) (s.map (c2 x y)) k=(plI B s k).map (c2 x y)
  |0,_=>rfl
  |k+1,h=>by
   unfold plB plI;rw[zM3 B s k zos,zFI s zos,(zXN _ _).1]
theorem yC7(B s:List PI):plN (B.map (c2 x y)) (s.map (c2 x y)) s.length=pnI B s s.length:=aS _ λk hk=>by
 rw[zM3 B s k zos,zFI s hk,(zXN _ _).2]
theorem zFO(T:List (List PI)){i:Nat}(h:i<T.length):(baL x y T).getD i []=(T.getD i []).map (c2 x y):=fX _ _ _ h
theorem zMY(T:List (List PI)):∀i,i<=T.length->ptB (baL x y T) i=(zUC T i).map (c2 x y)
  |0,_=>rfl
  |i+1,h=>by
   unfold ptB zUC;rw[zMY T i zos,zFO T zos,zde];exact zM3 _ _ _ (zbe _)
theorem zB7(T:List (List PI)):(baL x y T).length=T.length:=zde _
theorem zWZ(T:List (List PI)):bsZ (baL x y T)=(bsI T).map (c2 x y):=by
 unfold bsZ bsI;rw[zB7];exact zMY T _ (zbe _)
theorem mY(T:List (List PI)):bxZ (baL x y T)=bxI T:=by
 unfold bxZ bxI;rw[zB7];exact aS _ λi hi=>by rw[zMY T i zos,zFO T hi,zde];exact yC7 _ _
theorem iT(T:List (List PI)):(bsZ (baL x y T)).length=(bsI T).length:=by rw[zWZ,zde]
section
variable {z h:Int}{T:List (List PI)}
theorem zUF:ppZ (baL x y T) (z:Rat) ((z+h:Int):Rat)=(ppI T h).map (cP (x,y,z)):=by
 have C:(ppI T h).length=2*(bsI T).length:=xH _ _;refine zFD zT (by rw[zM1,iT,zde,C]) λi hi=>?_;rw[zM1,iT] at hi;rw[fX (cP (x,y,z)) z3 zT zos];unfold ppZ zRG ppI;rw[iT,kA _ _ hi,kA _ _ hi,zWZ,zFI _ (zcu _ zos)];unfold c2 cP;refine zbi _ ?_
 by_cases e:((bsI T).length:Int)<=(i:Int)
 · rw[zau e,zau e]
 · rw[zae e,zae e]
   show(z:Rat)=((z+0:Int):Rat)
   rw[Int.add_zero]
theorem zM2{k:Int}(h0:0<=k)(h1:k<2*((bsI T).length:Int)):(ppZ (baL x y T) (z:Rat) ((z+h:Int):Rat)).getD k.toNat zT=cP (x,y,z) (g3 (ppI T h) k.toNat):=by
 rw[zUF];have C:(ppI T h).length=2*(bsI T).length:=xH _ _;exact fX _ _ _ zos
theorem zJJ{i k:Nat}(hi:i<T.length)(hk:k<((bxI T).getD i []).length):0<=xaI T i k/\xaI T i k<(bsI T).length:=by
 have:=zL3 (L:=baL 0 0 T) (i:=i) (k:=k) (by rw[zB7];exact hi) (by rw[mY];exact hk);rw[mY,iT] at this;exact this
theorem yCU{i k:Nat}(hi:i<T.length)(hk:k<((bxI T).getD i []).length)(h10:i<10/\k<10):zIZ (x,y,z) (sdI T h i k) (sdF (baL x y T) (z:Rat) ((z+h:Int):Rat) i k):=by
 have C:sdA (baL x y T) i k=xaI T i k:=by unfold sdA xaI;rw[mY]
 have G:sdB (baL x y T) i k=xbI T i k:=by unfold sdB xbI;rw[mY]
 have D:=zJJ hi hk;have J:0<=xbI T i k/\xbI T i k<(bsI T).length:=zJJ hi (zcu _ zos);have M:nmS i k=[115,48+i,46,48+k]:=by
  unfold nmS;rw[nZ h10.1,nZ h10.2];rfl
 have H:sdN (baL x y T) (z:Rat) ((z+h:Int):Rat) i k=nr3 (snI T h i k):=by
  unfold sdN;rw[C,G,zM2 D.1 zos,zM2 J.1 zos];unfold nr3 snI cP;simp only[z7i,zpe,z6e];have e0:((0:Int):Rat)=0:=I;rw[e0]
  congr 1<;>grind
 refine aR ?_ ?_
 · unfold sdF cPl
   refine Prod.ext H ?_
   show vZ (sdN _ _ _ i k) _=_
   rw[H,C,zM2 D.1 zos]
   show vZ (nr3 (snI T h i k)) (cP (x,y,z) (g3 (ppI T h) (xaI T i k).toNat))=((dt3 (snI T h i k) (g3 (ppI T h) (xaI T i k).toNat)+dt3 (snI T h i k) (x,y,z):Int):Rat)
   generalize snI T h i k=n;generalize g3 (ppI T h) (xaI T i k).toNat=u;unfold vZ nr3 cP dt3;simp only[zpe,zsu];grind
 · show([[sdA _ i k,sdB _ i k,sdB _ i k+_,sdA _ i k+_]],nmS i k)=_
   rw[C,G,M,iT];rfl
theorem zUD(h10:T.length<=10/\∀i,i<T.length->(T.getD i []).length<=10):aB (x,y,z) (prI T h) (prR (baL x y T) (z:Rat) ((z+h:Int):Rat)):=by
 have C:(bxI T).length=T.length:=xH _ _;have D:∀i,i<T.length->((bxI T).getD i []).length=(T.getD i []).length:=λi hi=>by
  unfold bxI;rw[kA _ _ hi];exact xH _ _
 have G:zF4 (x,y,z) (prI T h).2 (prR (baL x y T) (z:Rat) ((z+h:Int):Rat)).2.1:=by
  show zF4 _ (jY _ _++[_,_]) (zJZ _ _ _ _++[_,_])
  refine zI1 ?_ (zI1 (B:=[_]) (A:=[_]) (zN8 ?_) (zN8 ?_))
  · unfold zJZ sfX
    rw[mY];refine zPU _ λi hi=>zVJ _ λk H=>?_;rw[C] at hi;have:=D i hi;have:=h10.2 i hi;exact yCU hi H ⟨by omega,by omega⟩
  · refine aR ?_ ?_
    · unfold btF cPl nr3 dt3
      refine Prod.ext ?_ ?_
      · show T3.mk (0:Rat) (0:Rat) (-((1:Int):Rat))=T3.mk ((0:Int):Rat) ((0:Int):Rat) ((-1:Int):Rat)
        rw[z6e];rfl
      · show -(z:Rat)=((0+(0*x+0*y+-1*z):Int):Rat)
        rw[show 0+(0*x+0*y+-1*z)= -z by omega,z6e]
    · show(zW5 (baL x y T) (bxZ (baL x y T)).length,_)=_
      unfold zW5;rw[mY]
  · refine aR ?_ ?_
    · unfold tpF cPl nr3 dt3
      refine Prod.ext ?_ ?_
      · show T3.mk (0:Rat) (0:Rat) ((1:Int):Rat)=T3.mk ((0:Int):Rat) ((0:Int):Rat) ((1:Int):Rat)
        rfl
      · show((z+h:Int):Rat)=((h+(0*x+0*y+1*z):Int):Rat)
        rw[show h+(0*x+0*y+1*z)=z+h by omega]
    · show(zS2 (baL x y T) (bxZ (baL x y T)).length,_)=_
      unfold zS2 tpL;rw[mY,iT]
 exact⟨zUF,I,G.1,G.2⟩
theorem zYU(h10:(1<=T.length/\T.length<=10)/\∀i,i<T.length->(T.getD i []).length<=10)(hn:nsI T=true)(hh:0<h)(hc:chI (prI T h)=true):(∀s,s∈baL x y T->pK s)/\prE (baL x y T) (z:Rat) ((z+h:Int):Rat)=0/\okS (prR (baL x y T) (z:Rat) ((z+h:Int):Rat)):=by
 have hly:yD5 (x:Rat) 1 (y:Rat) 1 T (baL x y T):=by
  refine⟨zB7 T,λm hm=>?_⟩;rw[show gl (baL x y T) m=(T.getD m []).map (c2 x y) from zFO T hm];refine⟨zde _,λk hk=>?_⟩;rw[show gp ((T.getD m []).map (c2 x y)) k=c2 x y ((T.getD m []).getD k (0,0)) from zFI _ hk];unfold pr ag gI c2;rw[yqu,yqu,<-zpe,<-zpe];rfl
 obtain⟨n1,n2,n3⟩:=zK3 zov zov hly hn;have hm:=zUD (x:=x) (y:=y) (z:=z) (h:=h) ⟨h10.1.2,h10.2⟩;refine⟨n3,(yF3 n1 n2 ?_ ?_).1,(zC8 hm hc).2⟩
 · rw[u5]
   exact Rat.not_le.2 (yce.2 zos)
 · have e1:oP (baL x y T) (baL x y T).length<=64*(baL x y T).length:=zWL (λm hm=>by
    rw[zB7] at hm;rw[zFO T hm,zde];have:=h10.2 m hm;omega) _ (zbe _)
   have e2:=zH5 (baL x y T) (baL x y T).length;have e3:(bsZ (baL x y T)).length=(ptB (baL x y T) (baL x y T).length).length:=I;have e4:oP (baL x y T) (baL x y T).length<=100:=by
    have g:∀i,i<=T.length->oP (baL x y T) i<=10*i:=λi=>by
     induction i with
     |zero=>exactλ_=>zbe _
     |succ i ih=>
      intro hi;have:=ih zos;have h2:=h10.2 i zos
      show oP (baL x y T) i+((baL x y T).getD i []).length<=_
      rw[zFO T zos,zde];omega
    have:=g _ (zbe _);rw[zB7];omega
   unfold prB;omega
end
end
theorem yGW:(baT.all λT=>nsI T&&zBN (prI T 1)&&zBN (prI T 2))=true:=by decide +kernel
theorem yFQ:((List.range 3).all λa=>(List.range 2).all λb=>(List.range 2).all λc=>nsI (trT a b c)&&zBN (prI (trT a b c) 1)&&zBN (prI (trT a b c) 2))=true:=by decide +kernel
theorem yE3:((List.range 2).all λp=>(List.range 2).all λq=>(List.range 2).all λr=>chI (bxJ (1+p:Nat) (1+q:Nat) (1+r:Nat)))=true:=by decide +kernel
theorem yB9:teB 0 0 0=true:=by decide +kernel
theorem yB8:teB 0 0 1=true:=by decide +kernel
theorem yB7:teB 0 0 2=true:=by decide +kernel
theorem yB6:teB 0 1 0=true:=by decide +kernel
theorem yB5:teB 0 1 1=true:=by decide +kernel
theorem yB4:teB 0 1 2=true:=by decide +kernel
theorem yB3:teB 1 0 0=true:=by decide +kernel
theorem yB2:teB 1 0 1=true:=by decide +kernel
theorem yB1:teB 1 0 2=true:=by decide +kernel
theorem yB0:teB 1 1 0=true:=by decide +kernel
theorem yBZ:teB 1 1 1=true:=by decide +kernel
theorem yBY:teB 1 1 2=true:=by decide +kernel
theorem yBX:teB 2 0 0=true:=by decide +kernel
theorem yBW:teB 2 0 1=true:=by decide +kernel
theorem yBV:teB 2 0 2=true:=by decide +kernel
theorem yBU:teB 2 1 0=true:=by decide +kernel
theorem yBT:teB 2 1 1=true:=by decide +kernel
theorem yBS:teB 2 1 2=true:=by decide +kernel
theorem yFT{p c q e f g:Nat}(hp:p<3)(hc:c<2)(hq:q<3)(he:e<3)(hf:f<3)(hg:g<3):zBN (teI p c q e f g)=true:=by
 have h:teB p c q=true:=by
  have G:p=0\/p=1\/p=2:=by omega
  have D:c=0\/c=1:=by omega
  have C:q=0\/q=1\/q=2:=by omega
  rcases G with rfl|rfl|rfl<;>rcases D with rfl|rfl<;>rcases C with rfl|rfl|rfl
  · exact yB9
  · exact yB8
  · exact yB7
  · exact yB6
  · exact yB5
  · exact yB4
  · exact yB3
  · exact yB2
  · exact yB1
  · exact yB0
  · exact yBZ
  · exact yBY
  · exact yBX
  · exact yBW
  · exact yBV
  · exact yBU
  · exact yBT
  · exact yBS
 exact zob.1 (zob.1 (zob.1 h e (zog.2 he)) f (zog.2 hf)) g (zog.2 hg)
theorem yE2{p q r:Nat}(hp:p<2)(hq:q<2)(hr:r<2):chI (bxJ (1+p:Nat) (1+q:Nat) (1+r:Nat))=true:=
 zob.1 (zob.1 (zob.1 yE3 p (zog.2 hp)) q (zog.2 hq)) r (zog.2 hr)
section
variable {v:I3}
theorem yAE(a b c:I3):thN (cP v a) (cP v b) (cP v c)=nr3 (th3 a b c):=by
 unfold thN uC kT nr3 th3 cx3 sb3 cP;simp only[z7i,zpe,zsu]
 congr 1<;>grind
theorem yF6{n:I3}:nr3 n=zT↔n=z3:=by
 constructor
 · intro e
   have G:=zre.1 (show(n.1:Rat)=((0:Int):Rat) from zbi T3.x e);have D:=zre.1 (show(n.2.1:Rat)=((0:Int):Rat) from zbi T3.y e);have C:=zre.1 (show(n.2.2:Rat)=((0:Int):Rat) from zbi T3.z e);exact Prod.ext G (Prod.ext D C)
 · rintro rfl;rfl
theorem yEO(n u:I3):vZ (nr3 n) (cP v u)=((dt3 n u+dt3 n v:Int):Rat):=by
 unfold vZ nr3 cP dt3;simp only[zpe,zsu];grind
theorem zHV{a b c:I3}(h:¬th3 a b c=z3):thZ (cP v a) (cP v b) (cP v c)=(nr3 (th3 a b c),((dt3 (th3 a b c) a+dt3 (th3 a b c) v:Int):Rat)):=by
 rw[(zS4 (λe=>h (yF6.1 (by rw[<-yAE (v:=v)];exact e)))).1,yAE,yEO]
theorem yC5{A B C T:I3}(h0:¬th3 A B C=z3)(h1:¬th3 A B T=z3)(h2:¬th3 B C T=z3)(h3:¬th3 C A T=z3):aB v (pyI A B C T) (pyR [cP v A,cP v B,cP v C] (cP v T)):=by
 have H:qF (((0:Nat):Int):Rat)=[48]:=nZ (n:=0) zov;have G:qF (((1:Nat):Int):Rat)=[49]:=nZ (n:=1) zov;have D:qF (((2:Nat):Int):Rat)=[50]:=nZ (n:=2) zov;refine⟨I,I,I,λf M=>?_⟩;have J:f<4:=M;have:f=0\/f=1\/f=2\/f=3:=by omega
 rcases this with rfl|rfl|rfl|rfl
 · refine aR ?_ ?_
   · show thZ (cP v A) (cP v B) (cP v T)=_
     rw[zHV h1];rfl
   · show([[((0:Nat):Int),((1%3:Nat):Int),((3:Nat):Int)]],[115]++qF (((0:Nat):Int):Rat))=_
     rw[H];rfl
 · refine aR ?_ ?_
   · show thZ (cP v B) (cP v C) (cP v T)=_
     rw[zHV h2];rfl
   · show([[((1:Nat):Int),((2%3:Nat):Int),((3:Nat):Int)]],[115]++qF (((1:Nat):Int):Rat))=_
     rw[G];rfl
 · refine aR ?_ ?_
   · show thZ (cP v C) ([cP v A,cP v B,cP v C].getD ((2+1)%3) zT) (cP v T)=_
     rw[show[cP v A,cP v B,cP v C].getD ((2+1)%3) zT=cP v A from I,zHV h3];rfl
   · show([[((2:Nat):Int),(((2+1)%3:Nat):Int),((3:Nat):Int)]],[115]++qF (((2:Nat):Int):Rat))=_
     rw[D];rfl
 · refine aR ?_ ?_
   · show opP (thZ (cP v A) (cP v B) (cP v C))=(nr3 (ng3 (th3 A B C)),((-dt3 (th3 A B C) A+dt3 (ng3 (th3 A B C)) v:Int):Rat))
     rw[zHV h0];generalize th3 A B C=n;unfold opP nr3 ng3 dt3;have O:((-1:Int):Rat)= -1:=I;refine Prod.ext ?_ ?_
     · simp only[z6e,O]
       congr 1<;>grind
     · simp only[z6e,zpe,zsu]
       grind
   · rfl
end
theorem zHW{p c q e f g:Nat}(hp:p<3)(hc:c<2)(hq:q<3)(he:e<3)(hf:f<3)(hg:g<3):(chI (teI p c q e f g)=true/\nmB (teI p c q e f g)=true)/\chI (nrI (teI p c q e f g))=true:=by
 have h:=yFT hp hc hq he hf hg;unfold zBN at h;rw[zbu,zbu] at h;exact h
theorem zQM{P:List I3}{F:List FI}(h:chI (P,F)=true){f:Nat}(hf:f<F.length):¬(F.getD f fi0).1=z3:=by
 unfold chI at h;replace h:=(zbu _ _▸h).2;rw[zbu,zbu,zbu] at h;have C:=zob.1 h.1.1.2 _ (kO (d:=fi0) hf);unfold faB at C;replace C:=(zbu _ _▸C).2;rw[zbu,zbu,zje,zgu] at C;exact C.1.2
def teL(x y z:Int)(p c q:Nat):List Pt:=[pI x y z,pI (x+(1+p)) y z,pI (x+c) (y+(1+q)) z]
def teA(x y z:Int)(e f g:Nat):Pt:=pI (x+e) (y+f) (z+(1+g))
theorem zS5{x y z:Int}{p c q e f g:Nat}(hp:p<3)(hc:c<2)(hq:q<3)(he:e<3)(hf:f<3)(hg:g<3):aB (x,y,z) (teI p c q e f g) (pyR (teL x y z p c q) (teA x y z e f g)):=by
 have h:=(zHW hp hc hq he hf hg).1.1;have H:=zQM h (f:=0) (show 0<4 by decide);have G:=zQM h (f:=1) (show 1<4 by decide);have D:=zQM h (f:=2) (show 2<4 by decide);have J:=zQM h (f:=3) (show 3<4 by decide);have h0:¬th3 (0,0,0) (1+(p:Int),0,0) ((c:Int),1+(q:Int),0)=z3:=λU=>J (by
  show ng3 (th3 _ _ _)=z3
  rw[show th3 _ _ _=z3 from U];rfl)
 have C:=yC5 (v:=(x,y,z)) h0 H G D;have O:[cP (x,y,z) (0,0,0),cP (x,y,z) (1+(p:Int),0,0),cP (x,y,z) ((c:Int),1+(q:Int),0)]=teL x y z p c q:=by
  unfold teL cP pI;simp
 have M:cP (x,y,z) ((e:Int),(f:Int),1+(g:Int))=teA x y z e f g:=by
  unfold teA cP pI;simp
 rw[O,M] at C;exact C
theorem zXZ{x y z:Int}{p c q e f g:Nat}:(¬thN ((teL x y z p c q).getD 0 zT) ((teL x y z p c q).getD 1 zT) ((teL x y z p c q).getD 2 zT)=zT)/\zFG (thZ ((teL x y z p c q).getD 0 zT) ((teL x y z p c q).getD 1 zT) ((teL x y z p c q).getD 2 zT)) (teL x y z p c q)/\0<sdZ (thZ ((teL x y z p c q).getD 0 zT) ((teL x y z p c q).getD 1 zT) ((teL x y z p c q).getD 2 zT)) (teA x y z e f g):=by
 have H:0<(1+(p:Int))*(1+(q:Int)):=Int.mul_pos zos zos;have hG:0<(1+(p:Int))*(1+(q:Int))*(1+(g:Int)):=Int.mul_pos H zos;have hN:thN (pI x y z) (pI (x+(1+p)) y z) (pI (x+c) (y+(1+q)) z)=T3.mk (0:Rat) (0:Rat) (((1+(p:Int))*(1+(q:Int)):Int):Rat):=by
  unfold thN uC kT pI;simp only[zpe,zsu]
  congr 1<;>grind
 have hz:¬thN (pI x y z) (pI (x+(1+p)) y z) (pI (x+c) (y+(1+q)) z)=zT:=λe=>by
  rw[hN] at e;have:=zre.1 (show _=((0:Int):Rat) from zbi T3.z e);omega
 have hZ:thZ (pI x y z) (pI (x+(1+p)) y z) (pI (x+c) (y+(1+q)) z)=(T3.mk (0:Rat) (0:Rat) (((1+(p:Int))*(1+(q:Int)):Int):Rat),(((1+(p:Int))*(1+(q:Int))*z:Int):Rat)):=by
  rw[(zS4 hz).1,hN];unfold vZ pI;simp only[zsu,Rat.zero_mul,Rat.zero_add]
 generalize hm:(1+(p:Int))*(1+(q:Int))=m at H hG hN hZ;have J:∀X Y Z:Int,sdZ (T3.mk (0:Rat) (0:Rat) ((m:Int):Rat),((m*z:Int):Rat)) (pI X Y Z)=sgI (m*(Z-z)):=λX Y Z=>by
  have:hgt (T3.mk (0:Rat) (0:Rat) ((m:Int):Rat),((m*z:Int):Rat)) (pI X Y Z)=((m*(Z-z):Int):Rat):=by
   unfold hgt vZ pI;simp only[zsu,z7i];grind
  unfold sdZ;rw[this,t6];rfl
 have aa:∀X Y:Int,sdZ (T3.mk (0:Rat) (0:Rat) ((m:Int):Rat),((m*z:Int):Rat)) (pI X Y z)=0:=λX Y=>by
  rw[J,yvi,Int.mul_zero];rfl
 have M:axI (T3.mk (0:Rat) (0:Rat) ((m:Int):Rat))=0/\axJ (T3.mk (0:Rat) (0:Rat) ((m:Int):Rat))=1:=⟨zau (yni.2 H),zau (yni.2 H)⟩;have D:∀X Y Z:Int,pt2 (T3.mk (0:Rat) (0:Rat) ((m:Int):Rat),((m*z:Int):Rat)) (pI X Y Z)=ag (x:Rat) 1 (y:Rat) 1 (X-x,Y-y):=λX Y Z=>by
  unfold pt2 ag;rw[M.1,M.2];unfold pr pI;simp only[T3.at,z7i];refine Prod.ext ?_ ?_<;>grind
 refine⟨hz,?_,?_⟩
 · show zFG (thZ (pI x y z) (pI (x+(1+p)) y z) (pI (x+c) (y+(1+q)) z)) _
   rw[hZ];refine⟨⟨show 3<=3 from zbe 3,λe=>?_⟩,λi hi=>?_,λi k hi h2 hk=>?_⟩
   · have:=zre.1 (show _=((0:Int):Rat) from zbi T3.z e)
     omega
   · have G:i<3:=hi
     rcases zS3 G with rfl|rfl|rfl<;>exact aa _ _
   · have G:i<3:=hi
     have ab:k<3:=hk;have:k=2:=by omega
     subst this;have C:∀u w t:PI,0<crI u w t->0<orZ (ag (x:Rat) 1 (y:Rat) 1 u) (ag (x:Rat) 1 (y:Rat) 1 w) (ag (x:Rat) 1 (y:Rat) 1 t):=λu w t h=>by
      rw[zXH zov zov];exact iI.2 h
     have pA:pt2 (T3.mk (0:Rat) (0:Rat) ((m:Int):Rat),((m*z:Int):Rat)) (pI x y z)=ag (x:Rat) 1 (y:Rat) 1 (0,0):=by rw[D,yvi,yvi]
     have U:pt2 (T3.mk (0:Rat) (0:Rat) ((m:Int):Rat),((m*z:Int):Rat)) (pI (x+(1+p)) y z)=ag (x:Rat) 1 (y:Rat) 1 (1+(p:Int),0):=by rw[D,yvi,show x+(1+(p:Int))-x=1+(p:Int) by omega]
     have O:pt2 (T3.mk (0:Rat) (0:Rat) ((m:Int):Rat),((m*z:Int):Rat)) (pI (x+c) (y+(1+q)) z)=ag (x:Rat) 1 (y:Rat) 1 ((c:Int),1+(q:Int)):=by rw[D,show x+(c:Int)-x=(c:Int) by omega,show y+(1+(q:Int))-y=1+(q:Int) by omega]
     have c1:crI (0,0) (1+(p:Int),0) ((c:Int),1+(q:Int))=m:=by rw[<-hm];simp[crI]
     have c2:crI (1+(p:Int),0) ((c:Int),1+(q:Int)) (0,0)=m:=by rw[<-hm];simp[crI];grind
     have c3:crI ((c:Int),1+(q:Int)) (0,0) (1+(p:Int),0)=m:=by rw[<-hm];simp[crI];grind
     have hL:(teL x y z p c q).length=3:=I;have g0:gp (teL x y z p c q) 0=pI x y z:=I;have g1:gp (teL x y z p c q) 1=pI (x+(1+p)) y z:=I;have g2:gp (teL x y z p c q) 2=pI (x+c) (y+(1+q)) z:=I;unfold nx;rw[hL]
     rcases zS3 G with rfl|rfl|rfl
     · rw[show(0+1)%3=1 from I,show(0+2)%3=2 from I,g0,g1,g2,pA,U,O]
       exact C _ _ _ (by rw[c1];exact H)
     · rw[show(1+1)%3=2 from I,show(1+2)%3=0 from I,g0,g1,g2,pA,U,O]
       exact C _ _ _ (by rw[c2];exact H)
     · rw[show(2+1)%3=0 from I,show(2+2)%3=1 from I,g0,g1,g2,pA,U,O]
       exact C _ _ _ (by rw[c3];exact H)
 · show 0<sdZ (thZ (pI x y z) (pI (x+(1+p)) y z) (pI (x+c) (y+(1+q)) z)) (pI (x+e) (y+f) (z+(1+g)))
   rw[hZ,J];refine iI.2 ?_;rw[show z+(1+(g:Int))-z=1+(g:Int) by omega];exact hG
theorem yBQ{x y z:Int}{p c q e f g:Nat}(hp:p<3)(hc:c<2)(hq:q<3)(he:e<3)(hf:f<3)(hg:g<3):pyH (teL x y z p c q) (teA x y z e f g):=by
 obtain⟨h1,h2,h3⟩:=zXZ (x:=x) (y:=y) (z:=z) (p:=p) (c:=c) (q:=q) (e:=e) (f:=f) (g:=g);exact⟨⟨⟨by show 3<=3;decide,by show 3<=64;decide⟩,h1⟩,⟨h2,h3⟩,(zC8 (zS5 hp hc hq he hf hg) (zHW hp hc hq he hf hg).1.1).2⟩
def baF(T:List (List PI)):Prop:=T∈baT\/∃a b c:Nat,(a<3/\b<2/\c<2)/\T=trT a b c
def yEM(I:SI):Prop:=(∃p q r:Nat,(p<2/\q<2/\r<2)/\I=bxJ (1+p:Nat) (1+q:Nat) (1+r:Nat))\/(∃T h,baF T/\(h=1\/h=2)/\I=nrI (prI T h))\/
 ∃p c q e f g:Nat,(p<3/\c<2/\q<3)/\(e<3/\f<3/\g<3)/\I=nrI (teI p c q e f g)
def zH0(s:Sd):Prop:=∃v I,yEM I/\bdV v/\aB v I s
theorem yA1{T:List (List PI)}{h:Int}(hT:baF T)(hh:h=1\/h=2):nsI T=true/\zBN (prI T h)=true:=by
 have g:∀T,(nsI T&&zBN (prI T 1)&&zBN (prI T 2))=true->nsI T=true/\zBN (prI T h)=true:=λT e=>by
  rw[zbu,zbu] at e
  rcases hh with rfl|rfl
  · exact⟨e.1.1,e.1.2⟩
  · exact⟨e.1.1,e.2⟩
 rcases hT with hT|⟨a,b,c,⟨ha,hb,hc⟩,rfl⟩
 · exact g T (zob.1 yGW T hT)
 · exact g _ (zob.1 (zob.1 (zob.1 yFQ a (zog.2 ha)) b (zog.2 hb)) c (zog.2 hc))
theorem zUT{I:SI}(h:zBN I=true):(chI I=true/\nmB I=true)/\chI (nrI I)=true:=by
 unfold zBN at h;rw[zbu,zbu] at h;exact h
theorem zOO{I:SI}(h:yEM I):chI I=true:=by
 rcases h with⟨p,q,r,⟨hp,hq,hr⟩,rfl⟩|⟨T,h,hT,hh,rfl⟩|⟨p,c,q,e,f,g,⟨hp,hc,hq⟩,⟨he,hf,hg⟩,rfl⟩
 · exact yE2 hp hq hr
 · exact(zUT (yA1 hT hh).2).2
 · exact(zHW hp hc hq he hf hg).2
theorem zC3{s:Sd}(h:zH0 s):(oU s/\okS s)/\smS 2 2 2 1 s:=by
 obtain⟨v,I,D,G,C⟩:=h;exact⟨zC8 C (zOO D),yCE C (zOO D) G⟩
theorem nat_of{z:Int}{n:Nat}(h:0<=z/\z<n):∃m:Nat,m<n/\z=m:=⟨z.toNat,by omega,by omega⟩
section
variable {x y z:Int}(hx:0<=x/\x<3)(hy:0<=y/\y<3)(hz:0<=z/\z<3)
include hx hy hz
theorem zTK{p q r:Int}(hp:0<=p/\p<2)(hq:0<=q/\q<2)(hr:0<=r/\r<2):zH0 (bkS (pI x y z) (pI (x+1+p) (y+1+q) (z+1+r))):=by
 obtain⟨p,G,rfl⟩:=nat_of (n:=2) hp;obtain⟨q,D,rfl⟩:=nat_of (n:=2) hq;obtain⟨r,C,rfl⟩:=nat_of (n:=2) hr;refine⟨(x,y,z),_,.inl ⟨p,q,r,⟨G,D,C⟩,I⟩,⟨by show -1000<=x/\x<=1000;omega,by show -1000<=y/\y<=1000;omega,by show -1000<=z/\z<=1000;omega⟩,?_⟩;rw[show x+1+(p:Int)=x+((1+p:Nat):Int) by omega,show y+1+(q:Int)=y+((1+q:Nat):Int) by omega,show z+1+(r:Int)=z+((1+r:Nat):Int) by omega];exact yE4 zos zos zos
theorem zMS{p c q e f g:Int}(hp:0<=p/\p<3)(hc:0<=c/\c<2)(hq:0<=q/\q<3)(he:0<=e/\e<3)(hf:0<=f/\f<3)(hg:0<=g/\g<3):pyH [pI x y z,pI (x+1+p) y z,pI (x+c) (y+1+q) z] (pI (x+e) (y+f) (z+1+g))/\
 ∃v I,(∃p c q e f g:Nat,(p<3/\c<2/\q<3)/\(e<3/\f<3/\g<3)/\I=nrI (teI p c q e f g))/\bdV v/\aB v I (nrP (pyR [pI x y z,pI (x+1+p) y z,pI (x+c) (y+1+q) z] (pI (x+e) (y+f) (z+1+g))),nrF (pyR [pI x y z,pI (x+1+p) y z,pI (x+c) (y+1+q) z] (pI (x+e) (y+f) (z+1+g))),[]):=by
 obtain⟨p,D,rfl⟩:=nat_of (n:=3) hp;obtain⟨c,M,rfl⟩:=nat_of (n:=2) hc;obtain⟨q,C,rfl⟩:=nat_of (n:=3) hq;obtain⟨e,J,rfl⟩:=nat_of (n:=3) he;obtain⟨f,H,rfl⟩:=nat_of (n:=3) hf;obtain⟨g,G,rfl⟩:=nat_of (n:=3) hg;have Z:=zS5 (x:=x) (y:=y) (z:=z) D M C J H G;have h0:=zHW D M C J H G;have O:=zVD Z h0.1.1 h0.1.2;have U:=yBQ (x:=x) (y:=y) (z:=z) D M C J H G;unfold teL teA at O U;rw[show x+1+(p:Int)=x+(1+p) by omega,show y+1+(q:Int)=y+(1+q) by omega,show z+1+(g:Int)=z+(1+g) by omega];refine⟨U,(x,y,z),_,⟨p,c,q,e,f,g,⟨D,M,C⟩,⟨J,H,G⟩,rfl⟩,⟨by show -1000<=x/\x<=1000;omega,by show -1000<=y/\y<=1000;omega,by show -1000<=z/\z<=1000;omega⟩,?_⟩;have e0:nrE (pyR [pI x y z,pI (x+(1+↑p)) y z,pI (x+↑c) (y+(1+↑q)) z] (pI (x+↑e) (y+↑f) (z+(1+↑g))))=[]:=by unfold nrE;split<;>rfl
 rw[e0] at O;exact O
end
def yFS(s:Sd):Prop:=∃v I,(∃p c q e f g:Nat,(p<3/\c<2/\q<3)/\(e<3/\f<3/\g<3)/\I=nrI (teI p c q e f g))/\bdV v/\aB v I s
theorem zC0{s:Sd}(h:yFS s):zH0 s:=by
 obtain⟨v,I,C,h⟩:=h;exact⟨v,I,.inr (.inr C),h⟩
def baP(L:List (List Pt)):Prop:=∃x y T,(0<=x/\x<2)/\(0<=y/\y<2)/\baF T/\L=baL x y T
theorem zZ6{T:List (List PI)}(h:baF T):(1<=T.length/\T.length<=10)/\∀i,i<T.length->(T.getD i []).length<=10:=by
 have g:∀T,T∈baT->(decide (1<=T.length/\T.length<=10)&&T.all λs=>decide (s.length<=10))=true:=λT C=>zob.1 (show(baT.all λT=>decide (1<=T.length/\T.length<=10)&&T.all λs=>decide (s.length<=10))=true by decide) T C
 rcases h with h|⟨a,b,c,_,rfl⟩
 · have:=g T h
   rw[zbu,zhi] at this;exact⟨this.1,λi hi=>yau (zob.1 this.2 _ (kO hi))⟩
 · refine⟨⟨show 1<=1 by decide,show 1<=10 by decide⟩,λi hi=>?_⟩
   have:i=0:=by have:i<1:=hi;omega
   subst this
   show 3<=10;decide
theorem zBJ{L:List (List Pt)}(h:baP L){z a:Int}(hz:0<=z/\z<2)(ha:0<=a/\a<2):((∀s,s∈L->pK s)/\prE L (z:Rat) ((z+1+a:Int):Rat)=0/\okS (prR L (z:Rat) ((z+1+a:Int):Rat)))/\zH0 (prP L (z:Rat) ((z+1+a:Int):Rat),prF L (z:Rat) ((z+1+a:Int):Rat),[]):=by
 obtain⟨x,y,T,hx,hy,G,rfl⟩:=h;have hh:1+a=1\/1+a=2:=by omega
 obtain⟨h1,h2⟩:=yA1 G hh;obtain⟨⟨h3,J⟩,M⟩:=zUT h2;have C:=zZ6 G;have D:=zYU (x:=x) (y:=y) (z:=z) C h1 zos h3;rw[show z+1+a=z+(1+a) by omega];refine⟨D,(x,y,z),_,.inr (.inl ⟨T,_,G,hh,I⟩),⟨by show -1000<=x/\x<=1000;omega,by show -1000<=y/\y<=1000;omega,by show -1000<=z/\z<=1000;omega⟩,?_⟩;have H:=zVD (zUD (x:=x) (y:=y) (z:=z) (h:=1+a) ⟨C.1.2,C.2⟩) h3 J;have e0:nrE (prR (baL x y T) (z:Rat) ((z+(1+a):Int):Rat))=[]:=by unfold nrE;split<;>rfl
 unfold prP prF;rw[zau D.2.1,zau D.2.1];rw[e0] at H;exact H
def cZ(x y:Int):List Int->List Pt
  |a::b::l=>T3.mk ((x+a:Int):Rat) ((y+b:Int):Rat) (0:Rat)::cZ x y l
  |_=>[]
theorem zWS{x y:Int}{l:List Int}{u:Nat}{D:List Pt}(hD:D++cZ x y (l.drop (2*u))=cZ x y l)(h:2*u+1<l.length):(D++[T3.mk ((x+l.getD (2*u) 0:Int):Rat) ((y+l.getD (2*u+1) 0:Int):Rat) (0:Rat)])++cZ x y (l.drop (2*(u+1)))=cZ x y l:=by
 rw[<-hD,zii]
 congr 1
 rw[show l.drop (2*u)=l.getD (2*u) 0::l.getD (2*u+1) 0::l.drop (2*(u+1)) by
  rw[yei zos,yei zos,zoa,zoa,zoc zos,zoc zos]
  rfl]
 rfl
theorem zZ2{x y:Int}{l:List Int}{u:Nat}{D:List Pt}(hD:D++cZ x y (l.drop (2*u))=cZ x y l)(h:¬2*u+1<l.length):D=cZ x y l:=by
 have e:cZ x y (l.drop (2*u))=[]:=by
  have C:(l.drop (2*u)).length<=1:=by rw[zhe];omega
  match l.drop (2*u),C with
  |[],_=>rfl
  |[_],_=>rfl
 rw[<-hD,e,zli]
section
variable {x y:Int}(hx:0<=x/\x<2)(hy:0<=y/\y<2)
include hx hy
theorem zXB:baP [cZ x y [0,0,2,0,2,1,1,1,1,2,0,2]]:=⟨x,y,_,hx,hy,.inl (.head _),rfl⟩
theorem zXA:baP [cZ x y [0,0,3,0,3,3,0,3],cZ x y [1,1,1,2,2,2,2,1]]:=⟨x,y,_,hx,hy,.inl (.tail _ (.head _)),rfl⟩
theorem zW9:baP [cZ x y [0,0,3,0,3,3,0,3],cZ x y [1,1,0,0,1,2]]:=⟨x,y,_,hx,hy,.inl (.tail _ (.tail _ (.head _))),rfl⟩
theorem zW8:baP [cZ x y [0,0,1,0,2,0,2,2,0,1]]:=⟨x,y,_,hx,hy,.inl (.tail _ (.tail _ (.tail _ (.head _)))),rfl⟩
theorem zW7{a b c:Int}(ha:0<=a/\a<3)(hb:0<=b/\b<2)(hc:0<=c/\c<2):baP [cZ x y [0,0,1+a,0,b,1+c]]:=by
 obtain⟨a,G,rfl⟩:=nat_of (n:=3) ha;obtain⟨b,D,rfl⟩:=nat_of (n:=2) hb;obtain⟨c,C,rfl⟩:=nat_of (n:=2) hc;exact⟨x,y,_,hx,hy,.inr ⟨a,b,c,⟨G,D,C⟩,I⟩,by
  unfold trT;rw[show((1+a:Nat):Int)=1+(a:Int) by omega,show((1+c:Nat):Int)=1+(c:Int) by omega]
  rfl⟩
end
end Bk
namespace Go.Proofs.YtboaboflnckgoaaGreat
open Bk Go Tryz
attribute [local irreducible] GL GC GQ W OpV
set_option maxHeartbeats 1000000 in
theorem zNY{w0 w:World}{h0 h:Mem}{b k:Nat}{vl:Value}{xs:List Int}(hl:Is h vl xs)(hk:k<=xs.length){L:List Res}(hs:St w0 h0 (.var b 97 [vl,vI ↑k]::L) h w):
 Calls prog 57 #[vP b 0] w (u9 w0 h0 h L (λg r q'=>∃k':Nat,∃m:Sq,q'=.var b 97 [vl,vI ↑k']/\k'<=xs.length/\zH0 m/\(tSd 2 2 2 1).Is g r m)):=by
 have cc:=hl.lt63;refine kS (n:=39) (e:=[(0,vP b 0)]) (vs:=[vP b 0]) func57 rfl rfl (bL rfl) hs ⟨rfl,y1i⟩ (go2 ?_);refine nA (ρ:=(tSd 1 1 1 1)) (X:=([],([],[]))) jM (yF wJ (yF wJ wJ)) λb2 dn bq=>(go5 ?_);refine yX (A:=[_]) (vs:=[_,vI (3)]) call33 e2z (λX w hs=>vN hl zoy oM oM hs) I ?_;intro v9 g9 q9 bw bs;obtain⟨k9,O,rfl,df,rfl,bb,bc⟩:=bs;refine go1 ?_;refine yX (A:=[_]) (vs:=[_,vI (3)]) call33 e2z (λX w hs=>vN hl.up zoy oM oM hs) I ?_;intro cq dl cz bn bh;obtain⟨de,D,rfl,ch,rfl,ai,ao⟩:=bh;refine go1 ?_;refine yX (A:=[_]) (vs:=[_,vI (3)]) call33 e2z (λX w hs=>vN hl.up zoy oM oM hs) I ?_;intro cp dk cy bm bg;obtain⟨dd,C,rfl,cg,rfl,ah,an⟩:=bg;refine uQ ?_;refine cL (ev3 I I I) call45 (λw hs=>fR hs oM oM oM oM oM oM) λco h1 bv aw=>?_;replace aw:=Rp.Is.cast (y:=(pI O D C)) aw zo0;refine go3 ?_;refine yX (A:=[_]) (vs:=[_,vI (2)]) call33 e2z (λX w hs=>vN hl.up zoy oM oM hs) I ?_;intro cn dj cw bl bf;obtain⟨dc,M,rfl,cf,rfl,ae,am⟩:=bf;refine go4 ?_;refine yX (A:=[_]) (vs:=[_,vI (2)]) call33 e2z (λX w hs=>vN hl.up zoy oM oM hs) I ?_;intro cm di cv bk be;obtain⟨db,J,rfl,ce,rfl,ad,ak⟩:=be;refine go4 ?_;refine yX (A:=[_]) (vs:=[_,vI (2)]) call33 e2z (λX w hs=>vN hl.up zoy oM oM hs) I ?_;intro cl dh cu bj bd;obtain⟨da,H,rfl,cd,rfl,ac,aj⟩:=bd;refine go1 ?_;refine cL (ev3 I I I) call45 (λw hs=>fR hs oM oM oM oM oM oM) λck h2 bu av=>?_;replace av:=Rp.Is.cast (y:=(pI (O+1+M) (D+1+J) (C+1+H))) av zo0;refine uU (vs:=[_,_]) I I I I call35 e2z (λw hs=>zG2 hs aw.up av dC dC (by first|omega|exactλe=>zW4 e)) ?_;intro cj h3 dp bt Z;obtain⟨ct,ca,bo,rfl,Z,rfl,cb,G⟩:=Z
 change RL (tFc (10000*2+10000*2+20000) (10000*2+10000*2+20000)) h3 bo (blF (pI O D C) (pI (O+1+M) (D+1+J) (C+1+H))) at G
 replace Z:=Rp.Is.le Z (Le.p (Le.s (Le.t (Le.q (l:=48) oM))) (Le.refl _));replace G:=(Le.p (Le.p (Le.t (Le.q (l:=60000) oM)) (Le.q (l:=60000) oM)) (Le.refl _)).rl G;refine go3 ?_;refine nA (ρ:=(rpP (tLs 1) (rpP rpV (rpS (rpP rpI (rpP rpI (rpQ 1))))))) (X:=([],((Value.slice none 0 0),[]))) jM (yF wJ (yF sR wJ)) λb6 dm bp=>?_;have ax:=(Le.p (Le.s (Le.t (Le.q (l:=48) dC))) (Le.p (Le.refl _) (Le.s (Le.p (Le.refl _) (Le.p (Le.refl _) (Le.q (l:=6) dC)))))).R bp;refine zV (A:=[]) (uB sizeOf50 pH ax Z) λaa U=>(go5 ?_);refine zW (A:=[_]) (ρ:=(tFc 60000 60000)) G ?_;intro h4 bi ay;replace U:=U.mono bi;have ba:(tSd 48 60000 60000 6).R h4 aa (blP (pI O D C) (pI (O+1+M) (D+1+J) (C+1+H)),(blF (pI O D C) (pI (O+1+M) (D+1+J) (C+1+H)),[])):=zFS U ay;have az:(tSd 48 60000 60000 6).R h4 aa (bkS (pI O D C) (pI (O+1+M) (D+1+J) (C+1+H))):=Rp.castR ba zo0;have au:(tSd 2 2 2 1).R h4 aa (bkS (pI O D C) (pI (O+1+M) (D+1+J) (C+1+H))):=zDV az (zC3 (zTK ⟨bb,bc⟩ ⟨ai,ao⟩ ⟨ah,an⟩ ⟨ae,am⟩ ⟨ad,ak⟩ ⟨ac,aj⟩)).2;refine lX (xB jH pH au) λci br=>?_;have ap:=(Le.p (Le.s (Le.t (Le.q (l:=2) dC))) (Le.p (Le.s (Le.p (Le.p (Le.t (Le.q (l:=2) dC)) (Le.q (l:=2) dC)) (Le.refl _))) (Le.refl _))).R bq;refine zV (A:=[_]) (uB sizeOf50 pH ap br) λbx ar=>(go3 ?_);refine xW (jA (t:=2) jH mh1 I ar) ?_;intro bz ab aq;refine pT (λE S=>zQ I ab E S) ?_;exact⟨_,(.cons _ (.cons _ (zti _))),(((((((((bw.trans bn).trans bm).trans bv).trans bl).trans bk).trans bj).trans bu).trans bt).trans bi),_,_,I,by omega,(zTK ⟨bb,bc⟩ ⟨ai,ao⟩ ⟨ah,an⟩ ⟨ae,am⟩ ⟨ad,ak⟩ ⟨ac,aj⟩),aq⟩
section
variable{w0:World}{h0:Mem}(hs:MLe h0 (mem w0))
include hs
theorem zGV{m l k:Nat}{vs:Value}{s:Pq}(rs:(tPl m l).Is h0 vs s){vp:Value}{p:Tq}(rp:(tPt k).Is h0 vp p)(hcd0:k<=100000000)(hcd1:l<=100000000)(hcd2:m<=100000000):
 Calls prog 153 #[vs,vp] w0 (Ret w0 h0 (λ_ r=>r=vI (sdZ s p))):=by
 refine cb2 13 vs vp func153 hs ?_;refine go2 ?_;refine nB rs λb2 ah D=>(nB rp λb3 ae H=>(go4 ?_));refine zK 9 _ [] [(0,.q),(1,.q),(2,.q),(4,.q),(5,.q),(3,.c),(6,.c),(7,.c),(8,.q)] yC nX zot nX (λr hr=>hr) (go1 ?_);refine wX I (xB zO (y2i pH) D) λv6 r6=>(wX I (xB zO pH H) λv7 r7=>(go1 ?_));refine wX I (xB yI (y2u pH) D) λaa O=>?_;refine w_c I (sC (ev2 I I) call44 (λw hs=>cQ hs r6 r7 oM) λv8 h1 ad J=>?_);replace J:=Rp.Is.le J (Le.q (l:=3*k+3*m+9) oM);refine w_c I (sC (ev2 I I) call16 (λw hs=>fP hs J O.up oM) λZ h2 ac C=>?_);replace C:=Rp.Is.le C (Le.q (l:=3*k+l+3*m+10) oM);refine w_c I (sC (ev1 I) call17 (λw hs=>uK hs C oM) λG h3 ab M=>?_);obtain rfl:G=vI (yW ((vZ s.1 p)-s.2)):=M;have U:=wB ((vZ s.1 p)-s.2);refine go4 ?_;refine zD I I ?_
 rfl
theorem zAF{k:Nat}{va:Value}{a:Tq}(ra:(tPt k).Is h0 va a){vb:Value}{b:Tq}(rb:(tPt k).Is h0 vb b){vc:Value}{c:Tq}(rc:(tPt k).Is h0 vc c)(hcd0:k<=100000):
 Calls prog 151 #[va,vb,vc] w0 (Ret w0 h0 (λh r=>∃u0,r=.tuple #[u0,vI (thE a b c)]/\(tPl (50*k+200) (200*k+900)).Is h u0 (thZ a b c))):=by
 refine cb3 24 va vb vc func151 hs ?_;refine go2 ?_;refine nB ra λb3 cb M=>(nB rb λb4 ca an=>(nB rc λb5 bz am=>(nA (ρ:=(tPl 1 1)) (X:=(zT,(0:Rat))) sE (yF (xE (yE dC)) (yE dC)) λb6 bx ai=>(go4 ?_))));refine zK 8 _ [(7,(8,53,y3e))] [(0,.q),(1,.q),(3,.q),(4,.q),(2,.c),(5,.c),(6,.c),(7,.a),(8,.t)] yC (jZ.cons I I (qR yM I I) jZ.nil) zot (qU I I gM) (λr hr=>hr) (wX I (xB zO pH an) λv9 r9=>(wX I (xB zO pH M) λbr az=>(wX I (xB zO pH am) λbp ay=>(wX I (xB zO pH M) λbo ax=>?_))));refine w_c I (sC (ev2 I I) call125 (λw hs=>zAD hs r9 az oM) λbq h1 bw aa=>?_);replace aa:=Rp.Is.le aa (Le.t (Le.q (l:=2*k+1) oM));refine w_c I (sC (ev2 I I) call125 (λw hs=>zAD hs ay.up ax.up oM) λbn h2 bv Z=>?_);replace Z:=Rp.Is.le Z (Le.t (Le.q (l:=2*k+1) oM));refine w_c I (sC (ev2 I I) call43 (λw hs=>y8 hs aa.up Z oM) λbm h3 bu U=>?_);replace U:=Rp.Is.le U (Le.t (Le.q (l:=8*k+7) oM));refine w_a I I (λb8=>?_);have ak:(tPt 1).R h3 y3e zT:=(xE (yE dC));have ad:=(Le.t (Le.q (l:=8*k+7) oM)).R ak;refine yJ (A:=[]) I (uB sizeOf53 pH ad U) λbd D=>(go5 ?_);refine lX (xB zO pH D) λbl aw=>(cL (ev1 I) call42 (λw hs=>nH hs aw oM) λaj h4 bt av=>?_);obtain rfl:aj=vB ((uC (T3.mk (b.x-a.x) (b.y-a.y) (b.z-a.z)) (T3.mk (c.x-a.x) (c.y-a.y) (c.z-a.z)))=zT):=av;refine gc2 (λC=>?_) λC=>?_
 ·
  refine go2 ?_;refine lX (xV (ρ:=(tPl 1 1)) (xK (ps':=[]) underlying80 sE I I (sJ underlying80) trivial I (yF (xE (yE dC)) (yE dC)) zN)) λbk au=>(zV (A:=[_]) (uB sizeOf80 pH ai au) λbc ah=>(go5 ?_));refine xW (jA (t:=6) iU mh1 I ah) ?_;intro be ab ae;refine yG (λE S=>vO I ab (jE I) E S) ?_;refine⟨_,?_,(Rp.Is.cast (Rp.Is.le ae (Le.p (Le.t (Le.q (l:=50*k+200) oM)) (Le.q (l:=200*k+900) oM))) (by obtain⟨e1,e2⟩:=yFR C;rw[e1]))⟩;obtain⟨e1,e2⟩:=yFR C;rw[e2]
 refine go3 ?_;refine zK 5 _ [] [(0,.q),(1,.q),(2,.q),(3,.c),(4,.q),(5,.t),(6,.t)] yC nX zot nX (λr hr=>hr) (wX I (xB zO pH D) λbj ar=>(wX I (xB zO pH D) λbi aq=>(wX I (xB zO pH M) λbh ap=>?_)));refine w_c I (sC (ev2 I I) call44 (λw hs=>cQ hs aq ap oM) λbg h5 bs O=>?_);replace O:=Rp.Is.le O (Le.q (l:=27*k+30) oM);refine wX I (xV (ρ:=(tPl (8*k+7) (27*k+30))) (xK (ps':=[(0,_),(1,_)]) underlying80 sE I I (sJ underlying80) e4z I (yF (xE (yE oM)) (yE oM)) (zC I (y2i (y1u _)) ar.up (zC I (y2u (y1u _)) O zN)))) λbf ao=>?_;have ac:=(Le.p (Le.t (Le.q (l:=8*k+7) oM)) (Le.q (l:=27*k+30) oM)).R ai;refine yJ (A:=[_]) I (uB sizeOf80 pH ac ao) λbb J=>(iB I (fZ (v:=vI (0)) I) I (go3 ?_));refine xW (jA (t:=6) iU mh1 I J) ?_;intro ba G H;refine yG (λE S=>vO I G (jE I) E S) ?_;refine⟨_,?_,(Rp.Is.cast (Rp.Is.le H (Le.p (Le.t (Le.q (l:=50*k+200) oM)) (Le.q (l:=200*k+900) oM))) (by obtain⟨e1,e2⟩:=zS4 C;rw[e1];rfl))⟩;obtain⟨e1,e2⟩:=zS4 C;rw[e2]
theorem zAG{m l:Nat}{vpl:Value}{pl:Pq}(rpl:(tPl m l).Is h0 vpl pl)(hcd0:m<=1000000)(hcd1:l<=1000000):
 Calls prog 79 #[vpl] w0 (Ret w0 h0 (λh r=>(tPl (3*m+10) (l+1)).Is h r (opP pl))):=by
 refine cb1 11 vpl func79 hs ?_;refine go2 ?_;refine nB rpl λb1 ah J=>(nA (ρ:=(tPl 1 1)) (X:=(zT,(0:Rat))) sE (yF (xE (yE dC)) (yE dC)) λb2 ae M=>(go3 ?_));refine zK 8 _ [] [(1,.q),(2,.q),(4,.q),(5,.q),(0,.c),(3,.c),(6,.c),(7,.q),(8,.t)] yC nX zot nX (λr hr=>hr) (go1 ?_);refine wX I (xB zO (y2i pH) J) λv5 r5=>(go1 ?_);refine wX I (xB yI (y2u pH) J) λv8 r8=>?_;refine w_c I (sC (vs:=[vI (-1)]) ⟨I,y1i⟩ call39 (λw hs=>qP hs dC dC) λv3 h1 ad r3=>?_);refine w_c I (sC (ev2 I I) call111 (λw hs=>zNL hs r3 r5.up oM) λv6 h2 ac r6=>?_);refine w_c I (sC (ev1 I) call31 (λw hs=>mI hs r8.up oM) λv9 h3 ab r9=>(wX I (xV (ρ:=(tPl (m+2) (l+1))) (xK (ps':=[(0,_),(1,_)]) underlying80 sE I I (sJ underlying80) e4z I (yF (xE (yE oM)) (yE oM)) (zC I (y2i (y1u _)) r6.up (zC I (y2u (y1u _)) (r9.le (Le.q (l:=l+1) oM)) zN)))) λaa O=>?_));have D:=(Le.p (Le.t (Le.q (l:=m+2) oM)) (Le.q (l:=l+1) oM)).R M;refine yJ (A:=[]) I (uB sizeOf80 pH D O) λU H=>(go3 ?_);refine xW (jA (t:=2) iU mh0 I H) ?_;intro Z C G;refine yG (λE S=>zQ I C E S) ?_;exact(Rp.Is.le G (Le.p (Le.t (Le.q (l:=3*m+10) oM)) (Le.refl _)))
end
end Go.Proofs.YtboaboflnckgoaaGreat
namespace Bk
open Classical
def zR9(c:Pl)(l:List Pt):Nat->Rat
  |0=>0
  |m+1=>zR9 c l m+hgt c (gp l m)
theorem zWM{pl:Pl}{a b c:Pt}(hn:¬pl.1=zT)(ha:sdZ pl a=0)(hb:sdZ pl b=0)(hc:sdZ pl c=0):yW (lH (kT b a) (kT c a) pl.1)<=0↔¬0<orZ (pt2 pl a) (pt2 pl b) (pt2 pl c):=by
 rw[<-yEP hn ha hb hc,yEQ];omega
end Bk
namespace Go.Proofs.YtboaboflnckgoaaGreat
open Bk Go Tryz
attribute [local irreducible] GL GC GQ W OpV
theorem zUV{w0:World}{h0:Mem}(hs:MLe h0 (mem w0)){k l m:Nat}{va:Value}{a:Tq}(ra:(tPt k).Is h0 va a){vb:Value}{b:Tq}(rb:(tPt l).Is h0 vb b){vc:Value}{c:Tq}(rc:(tPt m).Is h0 vc c)(hcd0:k<=100000000)(hcd1:l<=100000000)(hcd2:m<=100000000):
 Calls prog 66 #[va,vb,vc] w0 (Ret w0 h0 (λh r=>(rpQ (3*k+6*l+6*m+18)).Is h r (lH a b c))):=by
 refine cb3 12 va vb vc func66 hs ?_;refine go2 ?_;refine nB ra λb3 an Z=>(nB rb λb4 am U=>(nB rc λb5 ak O=>(nA (ρ:=(rpQ 1)) (X:=(0:Rat)) yS (yE dC) λb6 aj M=>(go3 ?_))));refine zK 5 _ [] [(0,.q),(1,.q),(2,.q),(3,.c),(4,.c),(5,.t)] yC nX zot nX (λr hr=>hr) (wX I (xB zO pH Z) λv7 r7=>(wX I (xB zO pH U) λv8 r8=>(wX I (xB zO pH O) λv9 r9=>?_)));refine w_c I (sC (ev2 I I) call43 (λw hs=>y8 hs r8 r9 oM) λae h1 ai aa=>?_);refine w_c I (sC (ev2 I I) call44 (λw hs=>cQ hs r7.up aa oM) λad h2 ah C=>?_);replace C:=Rp.Is.le C (Le.q (l:=3*k+6*l+6*m+18) oM);have G:=(Le.q (l:=3*k+6*l+6*m+18) oM).R M;refine yJ (A:=[]) I (uB sizeOf26 pH G C) λab J=>(go3 ?_);refine xW (jA (t:=6) yI mh0 I J) ?_;intro ac D H;refine yG (λE S=>zQ I D E S) ?_;exact H
theorem zNP{w0:World}{h0:Mem}(hs:MLe h0 (mem w0)){k n m:Nat}{vl:Value}{l:(List Tq)}(rl:(tLs k).Is h0 vl l){vs:Value}{s:Pq}(rs:(tPl n m).Is h0 vs s)(hcd0:k<=10000000)(hcd1:m<=10000000)(hcd2:n<=1000000)(hcd3:l.length<=100000):
 Calls prog 152 #[vl,vs] w0 (Ret w0 h0 (λ_ r=>r=vB (zFG s l))):=by
 have dd:=zOX s.1;refine cb2 73 vl vs func152 hs ?_;refine go2 ?_;refine nB rs λb3 U ab=>(iV ?_);refine uZ (ι:=Mem) 5 (λm_=>MLe h0 m_) (λ_=>[(20,vB (((↑(l).length:Int)<(3:Int))\/(s.1=zT))),(0,vl),(3,vP b3 0),(5,vI (↑(l).length:Int))]) (λ_=>[.var b3 80 U]) (λm_=>m_) ?_ ?_
 ·
  refine yD ((↑(l).length:Int)<(3:Int)) (λhg=>?_) (λhg=>?_)
  ·
   refine gT hg I (go5 ?_);refine zS h0 (MLe.refl _) ⟨?_,I,I,I,y1i⟩ I I;exact y0e (vV hg)
  refine gF hg I (go3 ?_);refine lX (xB zO (y2i pH) ab) λcu bs=>(go1 ?_);refine cL (ev1 I) call42 (λw hs=>nH hs bs oM) λay h1 ah br=>?_;obtain rfl:ay=vB (s.1=zT):=br;refine go2 ?_;refine zS h1 ah ⟨?_,I,I,I,y1i⟩ I I;exact y0e (vW hg)
 intro H am;refine sD ?_;refine gc2 (λD=>?_) λD=>?_
 ·
  refine go7 ?_;refine zD I I ?_;exact(yV (λe=>D.elim (λh=>by have:=e.1.1;omega) (λh=>e.1.2 h))).symm
 have hN:¬s.1=zT:=λe=>D (.inr e);have h3:3<=l.length:=by have h:=D;omega
 refine go9 ?_;refine gcL (ι:=Nat×Mem) (λ(i,ma)=>(MLe H ma/\(i<=l.length/\∀u,u<i->sdZ s (gp l u)=0),[(0,vl),(3,vP b3 0),(5,vI (↑(l).length:Int)),(6,vI ↑i)],[.var b3 80 U],ma,l.length-i)) (0,H) ?_ ?_
 · exact⟨mle,by omega,λu h=>by omega⟩
 rintro⟨i,ma⟩ ⟨bz,cz,hi2⟩
 refine yQ ?_;refine gc8 (λar=>?_) λar=>?_
 ·
  refine go5 ?_;refine zK 7 _ [] (zai 0 5 [(5,.c),(6,.q)]) yC nX zot nX (λr hr=>hr) (wX I (xB iU pH ab) λct bq=>(go2 ?_));refine wX I (xI zT i underlying46 zO rl) λcq bp=>(wX I (xA zO bp) λcp bo=>?_);refine w_c I (sC (ev2 I I) call153 (λw hs=>zGV hs bq bo oM oM oM) λax h1 ah bn=>?_);obtain rfl:ax=vI (sdZ s (l.getD i zT)):=bn;have bu:=zJ2 s (l.getD i zT);refine gc3 (λM=>?_) λM=>?_
  ·
   refine qG ?_;refine zD I I ?_;exact(yV (λe=>M (e.2.1 i oM))).symm
  refine go8 ?_;refine gqL ((i+1),h1) ?_ ?_
  · exact⟨mle,by omega,qA (Q:=λu=>sdZ s (gp l u)=0) hi2 (zdi M)⟩
  omega
 have hS:∀u,u<l.length->sdZ s (gp l u)=0:=λu hu=>hi2 u oM;refine uV ?_;refine gcL (ι:=Nat×Mem) (λ(i,mb)=>(MLe ma mb/\(i<=l.length/\∀u,u<i->∀C,2<=C->C<l.length->0<orZ (pt2 s (gp l u)) (pt2 s (nx l u)) (pt2 s (gp l ((u+C)%l.length)))),[(0,vl),(3,vP b3 0),(5,vI (↑(l).length:Int)),(7,vI ↑i)],[.var b3 80 U],mb,l.length-i)) (0,ma) ?_ ?_
 · exact⟨mle,by omega,λu h=>by omega⟩
 rintro⟨i,mb⟩ ⟨bx,cy,ao⟩
 refine yQ ?_;refine gc8 (λaq=>?_) λaq=>?_
 ·
  refine go5 ?_;refine zK 15 _ [(11,(8,53,y3e)),(12,(9,53,y3e))] (zai 0 11 [(11,.a),(12,.a),(13,.c),(14,.c)]) yC (jZ.cons I I (qR yM I I) (jZ.cons I I (qR yM I I) jZ.nil)) (wV zot) (qU I I (qU I I gM)) (λr hr=>hr) (go2 ?_);refine wX I (xI zT i underlying46 zO rl) λco bm=>(wX I (xA zO bm) λcn bl=>(go4 ?_));refine wK I (λ_ _=>wO I I oM oM) I (wX I (xI zT ((i+1)%l.length) underlying46 zO rl (hi:=by exact zcu _ oM)) λcm bk=>(wX I (xA zO bk) λcl bj=>?_));refine w_a I I (λb8=>?_);have ba:(tPt (k+1)).R mb y3e zT:=(xE (yE oM));refine w_a I I (λb9=>?_);have az:(tPt (k+1)).R mb y3e zT:=(xE (yE oM));refine w_c I (rR (A:=[_]) (uB sizeOf53 pH ba (bl.le (Le.t (Le.q (l:=k+1) oM)))) (xU zox) λav Z=>?_);refine w_c I (rR (A:=[]) (uB sizeOf53 pH az (bj.le (Le.t (Le.q (l:=k+1) oM)))) (xU zox) λau aj=>(go8 ?_));refine gcL (ι:=Nat×Mem) (λ(q,mq)=>(MLe mb mq/\((2<=q/\q<=l.length)/\∀C,2<=C->C<q->0<orZ (pt2 s (gp l i)) (pt2 s (nx l i)) (pt2 s (gp l ((i+C)%l.length)))),[(0,vl),(3,vP b3 0),(5,vI (↑(l).length:Int)),(7,vI ↑i),(8,vP b8 0),(9,vP b9 0),(10,vI ↑q)],[.var b9 53 au,.var b8 53 av,.var b3 80 U],mq,l.length-q)) (2,mb) ?_ ?_
  · exact⟨mle,⟨by omega,by omega⟩,λC G O=>by omega⟩
  rintro⟨q,mq⟩ ⟨bw,⟨cw,cv⟩,an⟩
  refine yQ ?_;refine gc8 (λap=>?_) λap=>?_
  ·
   refine qG ?_;refine gv (wO I I oM oM) I (lX (xI zT ((i+q)%l.length) underlying46 zO rl (hi:=by exact zcu _ oM)) λck bi=>(lX (xA zO bi) λcj bh=>(nA (ρ:=(tPt (k+1))) (X:=zT) yM (xE (yE oM)) λde ca ak=>(zV (A:=[]) (uB sizeOf53 pH ak (bh.le (Le.t (Le.q (l:=k+1) oM)))) λbv aa=>(go3 ?_)))));refine zK 11 _ [] [(0,.q),(1,.q),(3,.q),(4,.q),(6,.q),(7,.q),(2,.c),(5,.c),(8,.c),(9,.c),(10,.q)] yC nX zot nX (λr hr=>hr) (wX I (xB zO pH aj) λci bg=>(wX I (xB zO pH Z) λch bf=>(wX I (xB zO pH aa) λcf be=>(wX I (xB zO pH Z) λce bd=>(go1 ?_)))));refine wX I (xB zO (y2i pH) ab) λcc bc=>?_;refine w_c I (sC (ev2 I I) call125 (λw hs=>zAD hs bg bf oM) λcg h1 ah ae=>?_);replace ae:=Rp.Is.le ae (Le.t (Le.q (l:=2*k+3) oM));refine w_c I (sC (ev2 I I) call125 (λw hs=>zAD hs be.up bd.up oM) λcd h2 dc ad=>?_);replace ad:=Rp.Is.le ad (Le.t (Le.q (l:=2*k+3) oM));refine w_c I (sC (ev3 I I I) call66 (λw hs=>zUV hs ae.up ad bc.up oM oM oM) λcb h3 db ac=>?_);replace ac:=Rp.Is.le ac (Le.q (l:=18*k+6*n+45) oM);refine w_c I (sC (ev1 I) call17 (λw hs=>uK hs ac oM) λaw h4 da bb=>?_);obtain rfl:aw=vI (yW (lH (T3.mk ((l.getD ((i+1)%l.length) zT).x-(l.getD i zT).x) ((l.getD ((i+1)%l.length) zT).y-(l.getD i zT).y) ((l.getD ((i+1)%l.length) zT).z-(l.getD i zT).z)) (T3.mk ((l.getD ((i+q)%l.length) zT).x-(l.getD i zT).x) ((l.getD ((i+q)%l.length) zT).y-(l.getD i zT).y) ((l.getD ((i+q)%l.length) zT).z-(l.getD i zT).z)) s.1)):=bb;have bt:=wB (lH (T3.mk ((l.getD ((i+1)%l.length) zT).x-(l.getD i zT).x) ((l.getD ((i+1)%l.length) zT).y-(l.getD i zT).y) ((l.getD ((i+1)%l.length) zT).z-(l.getD i zT).z)) (T3.mk ((l.getD ((i+q)%l.length) zT).x-(l.getD i zT).x) ((l.getD ((i+q)%l.length) zT).y-(l.getD i zT).y) ((l.getD ((i+q)%l.length) zT).z-(l.getD i zT).z)) s.1);refine gc3 (λJ=>?_) λJ=>?_
   ·
    have ai:¬0<orZ (pt2 s (gp l i)) (pt2 s (nx l i)) (pt2 s (gp l ((i+q)%l.length))):=(zWM hN (hS i oM) (hS ((i+1)%l.length) (zcu _ oM)) (hS ((i+q)%l.length) (zcu _ oM))).1 J;refine iV ?_;refine zD I I ?_;exact(yV (λe=>ai (e.2.2 i q oM oM oM))).symm
   have ai:0<orZ (pt2 s (gp l i)) (pt2 s (nx l i)) (pt2 s (gp l ((i+q)%l.length))):=zdi (λe=>J ((zWM hN (hS i oM) (hS ((i+1)%l.length) (zcu _ oM)) (hS ((i+q)%l.length) (zcu _ oM))).2 e));refine go8 ?_;refine uO (A:=[]) ?_;refine gqL ((q+1),h4) ?_ ?_
   · exact⟨mle,⟨by omega,by omega⟩,λC G O=>by rcases zpi.1 O with e|e;exact an C G e;subst e;exact ai⟩
   omega
  refine qG ?_;refine uO (A:=[]) (uO (A:=[]) ?_);refine gqL ((i+1),mq) ?_ ?_
  · exact⟨mle,by omega,qA (Q:=λu=>∀C,2<=C->C<l.length->0<orZ (pt2 s (gp l u)) (pt2 s (nx l u)) (pt2 s (gp l ((u+C)%l.length)))) ao (λC G O=>an C G oM)⟩
  omega
 have hE:∀u C,u<l.length->2<=C->C<l.length->0<orZ (pt2 s (gp l u)) (pt2 s (nx l u)) (pt2 s (gp l ((u+C)%l.length))):=λu C hu G O=>ao u oM C G O;refine qG ?_;refine zD I I ?_;exact(xR ⟨⟨h3,hN⟩,hS,hE⟩).symm
set_option maxHeartbeats 1000000 in
theorem zKW{w0:World}{h0:Mem}(hs:MLe h0 (mem w0)){k:Nat}{vl:Value}{l:(List Tq)}(rl:(tLs k).Is h0 vl l){vt:Value}{t:Tq}(rt:(tPt k).Is h0 vt t)(hcd0:k<=10)(hcd1:pyH l t):
 Calls prog 105 #[vl,vt] w0 (rG w0 h0 (λh r L_=>∃u0 vF cs,r=.tuple #[u0,vI 0]/\(rpP (tLs (k+2)) (rpP rpV (rpS (rpP rpI (rpP rpI (rpQ 6)))))).Is h u0 (nrP (pyR l t),(vF,[]))/\L_=[.gs 83 14 vF (nrF (pyR l t)).length cs]/\vF.oneCell'=true/\RL (tFc (1000*k+5000) (1000*k+5000)) h cs (nrF (pyR l t)))):=by
 have je:=hcd1.1.1;obtain⟨jk,gq⟩:=zS4 hcd1.1.2;refine cb2 113 vl vt func105 hs ?_;refine go2 ?_;refine nB rt λb3 dk cz=>(nA (ρ:=(rpP (tLs 1) (rpP rpV (rpS (rpP rpI (rpP rpI (rpQ 1))))))) (X:=([],((Value.slice none 0 0),[]))) jM (yF wJ (yF sR wJ)) λb4 dj fj=>(oO ?_));refine cnd (λbm=>?_) λbm=>?_
 · exact absurd bm oM
 refine gc9 (λbl=>?_) λbl=>?_
 · exact absurd bl oM
 refine go3 ?_;refine zK 16 _ [(13,(7,80,[.bool false,.slice none 0 0,.slice none 0 0,.bool false,.slice none 0 0,.slice none 0 0,.bool false,.slice none 0 0,.slice none 0 0,.bool false,.slice none 0 0,.slice none 0 0]))] (zai 0 9 [(9,.c),(10,.q),(11,.q),(12,.q),(13,.a),(14,.c),(15,.q)]) yC (jZ.cons I I (qR sE I I) jZ.nil) (wV zot) (qU I I gM) (λr hr=>hr) (go1 ?_);refine lJ (F:=λv_=>AtP (tPt k) h0 v_ (l.getD 0 zT)) I (rT (q:=0) zT 0 underlying46 zO I I rl I oM nP) zBT I ?_;intro iw gg;refine wX I (xA zO gg) λiv gf=>(go1 ?_);refine lJ (F:=λv_=>AtP (tPt k) h0 v_ (l.getD 1 zT)) I (rT (q:=1) zT 1 underlying46 zO I I rl I oM nP) zBT I ?_;intro iu ge;refine wX I (xA zO ge) λir gc=>(go1 ?_);refine lJ (F:=λv_=>AtP (tPt k) h0 v_ (l.getD 2 zT)) I (rT (q:=2) zT 2 underlying46 zO I I rl I oM nP) zBT I ?_;intro iq gb;refine wX I (xA zO gb) λip ga=>?_;refine w_c I (sC (ev3 I I I) call151 (λw hs=>zAF hs gf gc ga oM) λio h1 jh fz=>?_);obtain⟨bp,rfl,ax⟩:=fz
 change (tPl (50*k+200) (200*k+900)).Is h1 bp (thZ (l.getD 0 zT) (l.getD 1 zT) (l.getD 2 zT)) at ax
 refine go3 ?_;refine w_a I I (λb7=>?_);have fi:(tPl 1 1).R h1 [.bool false,.slice none 0 0,.slice none 0 0,.bool false,.slice none 0 0,.slice none 0 0,.bool false,.slice none 0 0,.slice none 0 0,.bool false,.slice none 0 0,.slice none 0 0] (zT,(0:Rat)):=(yF (xE (yE dC)) (yE dC));refine w_c I ?_;have dt:=(Le.p (Le.t (Le.q (l:=50*k+200) oM)) (Le.q (l:=200*k+900) oM)).R fi;refine rR (A:=[]) (uB sizeOf80 pH dt ax) (xU zox) λbb au=>(go7 ?_);refine gv (OpV.fa (by rw[gq];exactλe=>e I) (lZ (q:=0) I I)) I (go4 ?_);refine lX (xB iU pH au) λim fy=>(go1 ?_);refine cL (ev2 I I) call152 (λw hs=>zNP hs rl.up fy oM oM oM (by first|omega|exact hcd1.2.1.1)) λfh h2 jg fx=>?_;obtain rfl:fh=vB (zFG (thZ (l.getD 0 zT) (l.getD 1 zT) (l.getD 2 zT)) l):=fx;refine go3 ?_;refine uZ (ι:=Mem) 6 (λm_=>MLe h2 m_) (λ_=>[(49,vB ((¬(zFG (thZ (l.getD 0 zT) (l.getD 1 zT) (l.getD 2 zT)) l))\/((sdZ (thZ (l.getD 0 zT) (l.getD 1 zT) (l.getD 2 zT)) t)<=(0:Int)))),(0,vl),(3,vP b3 0),(4,vP b4 0),(6,vI (↑(l).length:Int)),(7,vP b7 0)]) (λ_=>[.var b7 80 bb,.var b4 50 dj,.var b3 53 dk]) (λm_=>m_) ?_ ?_
 ·
  refine yD (¬(zFG (thZ (l.getD 0 zT) (l.getD 1 zT) (l.getD 2 zT)) l)) (λhg=>?_) (λhg=>?_)
  ·
   refine gT hg I (go6 ?_);refine zS h2 (MLe.refl _) ⟨?_,I,I,I,I,I,y1i⟩ I I;exact y0e (vV hg)
  refine gF hg I (go1 ?_);refine lX (xB iU pH au) λil fw=>(go1 ?_);refine lX (xB zO pH cz) λik fv=>(go1 ?_);refine cL (ev2 I I) call153 (λw hs=>zGV hs fw fv oM oM oM) λfg h3 aa fu=>?_;obtain rfl:fg=vI (sdZ (thZ (l.getD 0 zT) (l.getD 1 zT) (l.getD 2 zT)) t):=fu;have gm:=zJ2 (thZ (l.getD 0 zT) (l.getD 1 zT) (l.getD 2 zT)) t;refine go4 ?_;refine zS h3 aa ⟨?_,I,I,I,I,I,y1i⟩ I I;exact y0e (vW hg)
 intro ae em;refine sD ?_;refine gc2 (λbk=>?_) λbk=>?_
 ·
  rcases bk with e|e
  exact absurd hcd1.2.1.1 e;have:=hcd1.2.1.2;omega
 refine go2 ?_;refine qK (ι:=Nat×List Value×Mem) (λ(D,H,mc)=>MLe ae mc/\((rpP (tLs (k+1)) (rpP rpV (rpS (rpP rpI (rpP rpI (rpQ 1)))))).R mc H ((l++[t]),((Value.slice none 0 0),([]:List En)))/\True)) (λ(D,H,mc)=>[(0,vl),(3,vP b3 0),(4,vP b4 0),(6,vI (↑(l).length:Int)),(7,vP b7 0),(9,vP D 0)]) (λ(D,H,mc)=>[.var D 50 H,.var b7 80 bb,.var b4 50 dj,.var b3 53 dk]) (λ(D,H,mc)=>mc) ?_ ?_
 ·
  refine zK 7 _ [(6,(9,50,[.slice none 0 0,.slice none 0 0,.slice none 0 0]))] [(0,.q),(2,.q),(1,.b 3),(4,.c),(5,.c),(6,.a),(7,.t)] yC (jZ.cons I I (qR jM I I) jZ.nil) zot (qU I I gM) (λr hr=>hr) (go1 ?_);refine wX I (xB zO pH cz) λij ec=>?_;refine w_b I I ?_ ?_
  ·
   refine zDW 53 9 ?_;have dv:=RL.nil (ρ:=rpT (rpQ k)) (h:=ae);refine gR (A:=[]) (λX=>uW (yA (ρ:=(tPt k)) (bytes:=168) underlying46 yM I I I I nP I I dv rl.up bO bO)) I (xU zox) ?_
   rintro ff gk ⟨el,ev,rfl,G⟩
   refine qX (λX=>zL (ρ:=(tPt (k+1))) (m:=1) (xs:=[t]) (ps':=[(0,_)]) underlying46 yM I I I (xE (yE oM)) e2z (zC I (y1e (y1u _) zT 0 dC) (ec.le (Le.t (Le.q (l:=k+1) oM))) zN) zok nP) I ?_;intro fe gj ej;obtain⟨eu,rfl,aq⟩:=ej;refine w_c I (xJ (A:=[]) (ρ:=(tPt (k+1))) aq dK ?_);intro h3 aa du;replace G:=G.mono aa;have dr:=(Le.t (Le.q (l:=k+1) oM)).rl G;refine gR (A:=[]) (λX=>uW (yA (ρ:=(tPt (k+1))) (bytes:=168) underlying46 yM I I I I nP I I dr du bO bO)) I (xU zox) ?_
   rintro fd gi ⟨ek,es,rfl,ap⟩
   refine w_c I (xJ (A:=[]) (ρ:=(tPt (k+1))) ap dK ?_);intro h4 ak ch;refine sX (xV (ρ:=(rpP (tLs (k+1)) (rpP rpV (rpS (rpP rpI (rpP rpI (rpQ 1))))))) (xK (ps':=[(0,_)]) underlying50 jM I I (rS underlying50) e2z I (yF wJ (yF sR wJ)) (zC I (y2i (y1u _)) ch zN))) λfc da=>?_;refine w_a I I (λb9=>?_);have cy:(rpP (tLs 1) (rpP rpV (rpS (rpP rpI (rpP rpI (rpQ 1)))))).R h4 [.slice none 0 0,.slice none 0 0,.slice none 0 0] ([],((Value.slice none 0 0),[])):=(yF wJ (yF sR wJ));have bu:=(Le.p (Le.s (Le.t (Le.q (l:=k+1) oM))) (Le.refl _)).R cy;refine yJ (A:=[]) I (uB sizeOf50 pH bu da) λdi cw=>(go1 ?_);refine zS (b9,di,h4) ?_ e6 I I;refine⟨(aa.trans ak),?_⟩;refine⟨cw,?_⟩
   trivial
  refine qX (λX=>zL (ρ:=(tPt (k+1))) (m:=1) (xs:=[t]) (ps':=[(0,_)]) underlying46 yM I I I (xE (yE oM)) e2z (zC I (y1e (y1u _) zT 0 dC) (ec.le (Le.t (Le.q (l:=k+1) oM))) zN) zok nP) I ?_
  rintro fe gj ⟨eu,rfl,aq⟩
  refine zDW 53 9 ?_;have cl:=RL.nil (ρ:=rpT (rpQ k)) (h:=ae);refine gR (A:=[]) (λX=>uW (yA (ρ:=(tPt k)) (bytes:=168) underlying46 yM I I I I nP I I cl rl.up bO bO)) I (xU zox) ?_
  rintro ff gk ⟨el,ev,rfl,G⟩
  refine w_c I (xJ (A:=[_]) (ρ:=(tPt (k+1))) aq dK ?_);intro h3 aa cg;replace G:=G.mono aa;have bt:=(Le.t (Le.q (l:=k+1) oM)).rl G;refine gR (A:=[]) (λX=>uW (yA (ρ:=(tPt (k+1))) (bytes:=168) underlying46 yM I I I I nP I I bt cg bO bO)) I (xU zox) ?_
  rintro fd gi ⟨ek,es,rfl,ap⟩
  refine w_c I (xJ (A:=[]) (ρ:=(tPt (k+1))) ap dK ?_);intro h4 ak cf;refine sX (xV (ρ:=(rpP (tLs (k+1)) (rpP rpV (rpS (rpP rpI (rpP rpI (rpQ 1))))))) (xK (ps':=[(0,_)]) underlying50 jM I I (rS underlying50) e2z I (yF wJ (yF sR wJ)) (zC I (y2i (y1u _)) cf zN))) λfc da=>?_;refine w_a I I (λb9=>?_);have cy:(rpP (tLs 1) (rpP rpV (rpS (rpP rpI (rpP rpI (rpQ 1)))))).R h4 [.slice none 0 0,.slice none 0 0,.slice none 0 0] ([],((Value.slice none 0 0),[])):=(yF wJ (yF sR wJ));have bs:=(Le.p (Le.s (Le.t (Le.q (l:=k+1) oM))) (Le.refl _)).R cy;refine yJ (A:=[]) I (uB sizeOf50 pH bs da) λdh cv=>(go1 ?_);refine zS (b9,dh,h4) ?_ e6 I I;refine⟨(aa.trans ak),?_⟩;refine⟨cv,?_⟩
  trivial
 rintro⟨D,H,mc⟩ ⟨hn,bj⟩
 refine yQ ?_;obtain⟨ea,bj⟩:=bj;refine uV ?_;refine xC 3 1 ?_;have ck:=RL.nil (ρ:=rpI) (h:=mc);refine xC 83 14 ?_;have cj:=RL.nil (ρ:=rpP (tPl (150*k+700) (200*k+901)) (rpP tII kD)) (h:=mc);refine gcL (ι:=Nat×List Int×List Fc×List Value×Value×List Value×Value×List Value×Mem) (λ(i,LN,FF,aj,O,ai,C,ah,ma)=>(MLe mc ma/\((rpP (tLs (k+1)) (rpP rpV (rpS (rpP rpI (rpP rpI (rpQ 1)))))).R ma aj ((l++[t]),(C,([]:List En)))/\RL rpI ma ai LN/\RL (tFc (150*k+700) (200*k+901)) ma ah FF/\C.oneCell'=true/\i<=l.length/\LN=pyL l.length i/\FF=pyT l t i),[(0,vl),(3,vP b3 0),(4,vP b4 0),(6,vI (↑(l).length:Int)),(7,vP b7 0),(9,vP D 0),(10,O),(11,vI ↑i)],[.gs 83 14 C FF.length ah,.gs 3 1 O LN.length ai,.var D 50 aj,.var b7 80 bb,.var b4 50 dj,.var b3 53 dk],ma,l.length-i)) (0,[],[],H,(.slice none 0 0),[],(.slice none 0 0),[],mc) ?_ ?_
 · exact⟨mle,ea,ck,cj,I,by omega,I,I⟩
 rintro⟨i,LN,FF,aj,O,ai,C,ah,ma⟩ ⟨ho,Z,ao,an,gn,jf,bf,bg⟩
 refine yQ ?_;have ji:LN.length=i:=by rw[bf];exact xH _ _
 have jj:FF.length=i:=by rw[bg];exact xH _ _
 refine gc8 (λeo=>?_) λeo=>?_
 ·
  have jb:=j3 (((i:Int):Int):Rat);have jc:=mO (i:Int) oM oM;have jd:=Int.emod_nonneg ((↑i:Int)+1) (b:=(↑l.length:Int)) oM;have hm:=Int.emod_lt_of_pos ((↑i:Int)+1) (b:=(↑l.length:Int)) oM;refine qG ?_;refine zF (zL (ρ:=rpI) (m:=1) (xs:=[(((↑(l).length:Int)-(1:Int))-(↑i:Int))]) (ps':=[(0,_)]) underlying32 jJ I I I wN e2z (zC I (y1e (y1u _) (0:Int) 0 dC) (wA oM oM) zN) zoj nP) I I I ?_
  rintro ii ja ⟨hq,rfl,dz⟩
  refine zW (A:=[]) (ρ:=rpI) dz ?_;intro h3 aa ce;refine xL (A:=[_]) (uW (yA (ρ:=rpI) (bytes:=8) underlying32 jJ I I I I nP I I ao.up ce bO bO)) I I I ?_
  rintro fb iz ⟨hl,er,rfl,dy⟩
  refine go8 ?_;refine gv (wO I I oM oM) I (go4 ?_);refine zK 16 _ [(13,(13,80,[.bool false,.slice none 0 0,.slice none 0 0,.bool false,.slice none 0 0,.slice none 0 0,.bool false,.slice none 0 0,.slice none 0 0,.bool false,.slice none 0 0,.slice none 0 0]))] (zai 0 9 [(9,.c),(10,.q),(11,.q),(12,.q),(13,.a),(14,.c),(15,.q)]) yC (jZ.cons I I (qR sE I I) jZ.nil) (wV zot) (qU I I gM) (λr hr=>hr) (go2 ?_);refine wX I (xI zT i underlying46 zO rl) λih ft=>(wX I (xA zO ft) λig fs=>(go2 ?_));refine wX I (xI zT ((i+1)%l.length) underlying46 zO rl (hi:=by exact zcu _ oM)) λie fr=>(wX I (xA zO fr) λid fq=>(wX I (xB zO pH cz) λic fp=>?_));refine w_c I (sC (ev3 I I I) call151 (λw hs=>zAF hs fs fq fp oM) λib h4 ak fo=>?_);obtain⟨bo,rfl,aw⟩:=fo
  change (tPl (50*k+200) (200*k+900)).Is h4 bo (thZ (l.getD i zT) (l.getD ((i+1)%l.length) zT) t) at aw
  refine go3 ?_;refine w_a I I (λjl=>?_);have eb:(tPl 1 1).R h4 [.bool false,.slice none 0 0,.slice none 0 0,.bool false,.slice none 0 0,.slice none 0 0,.bool false,.slice none 0 0,.slice none 0 0,.bool false,.slice none 0 0,.slice none 0 0] (zT,(0:Rat)):=(yF (xE (yE dC)) (yE dC));refine w_c I ?_;have br:=(Le.p (Le.t (Le.q (l:=50*k+200) oM)) (Le.q (l:=200*k+900) oM)).R eb;refine rR (A:=[]) (uB sizeOf80 pH br aw) (xU zox) λgt cu=>(go3 ?_);refine jD (A:=[_]) 15 [] (zai 0 6 [(8,.q),(0,.x [10] [6,7] [9,10]),(11,.c),(12,.c),(13,.c),(14,.q),(15,.t)]) yC nX zot nX (go1 ?_);refine wX I (bY (xB gK (y2u (y2i pH)) Z)) λia fm=>?_;subst fm;refine wX I (xB iU pH cu) λhw fl=>(go4 ?_);refine yBI (N:=4) I ?_;refine zCR I I I I ?x2 ?x3
  case' x2=>
   refine qX (λX=>zL (ρ:=rpI) (m:=3) (xs:=[(↑i:Int),(((↑i:Int)+(1:Int))%(↑(l).length:Int)),(↑(l).length:Int)]) (ps':=[(0,_),(1,_),(2,_)]) underlying32 jJ I I I wN e6 (zC I (y1e (y1u _) (0:Int) 0 dC) (wA oM oM) (zC I (y1e (y1u _) (0:Int) 1 dC) (wA oM oM) (zC I (y1e (y1u _) (0:Int) 2 dC) (wA oM oM) zN))) zom nP) I ?_
   rintro ez gh ⟨eq,rfl,J⟩
   refine zCR I I I I ?x4 ?x5
   case' x4=>
    refine xJ (A:=[]) (ρ:=rpI) J dK ?_;intro h5 be cd;refine qX (λX=>zL (ρ:=(rpS rpI)) (m:=1) (xs:=[[(↑i:Int),(((↑i:Int)+(1:Int))%(↑(l).length:Int)),(↑(l).length:Int)]]) (ps':=[(0,_)]) underlying81 jC I I I wJ e2z (zC I (y1e (y1u _) [] 0 dC) cd zN) zoj nP) I ?_;intro dn eg ay;obtain⟨bn,rfl,ab⟩:=ay;refine zMA I I (sC (ev1 I) call126 (λw hs=>wZ hs oM oM) λdm h6 bd av=>?_);obtain⟨rfl,az⟩:=jW av;refine yFL I (bD I (λ_ _=>wT (pa:=([115]:List Nat)) (pb:=(qF (((↑i:Int):Int):Rat))) I I zou) I (dT ?_));replace ab:=ab.mono bd
   case' x5=>
    refine sC (ev1 I) call126 (λw hs=>wZ hs oM oM) λdm h5 be av=>?_;obtain⟨rfl,az⟩:=jW av;refine yAC I I (bD I (λ_ _=>wT (pa:=([115]:List Nat)) (pb:=(qF (((↑i:Int):Int):Rat))) I I zou) I (j0 I I ?_));replace J:=J.mono be;refine xJ (A:=[]) (ρ:=rpI) J dK ?_;intro h6 bd cc;refine qX (λX=>zL (ρ:=(rpS rpI)) (m:=1) (xs:=[[(↑i:Int),(((↑i:Int)+(1:Int))%(↑(l).length:Int)),(↑(l).length:Int)]]) (ps':=[(0,_)]) underlying81 jC I I I wJ e2z (zC I (y1e (y1u _) [] 0 dC) cc zN) zoj nP) I ?_;intro dn eg ay;obtain⟨bn,rfl,ab⟩:=ay;refine dT ?_
  case' x3=>
   refine sC (ev1 I) call126 (λw hs=>wZ hs oM oM) λdm h5 be av=>?_;obtain⟨rfl,az⟩:=jW av;refine yAC I I (bD I (λ_ _=>wT (pa:=([115]:List Nat)) (pb:=(qF (((↑i:Int):Int):Rat))) I I zou) I (j0 I I (qX (λX=>zL (ρ:=rpI) (m:=3) (xs:=[(↑i:Int),(((↑i:Int)+(1:Int))%(↑(l).length:Int)),(↑(l).length:Int)]) (ps':=[(0,_),(1,_),(2,_)]) underlying32 jJ I I I wN e6 (zC I (y1e (y1u _) (0:Int) 0 dC) (wA oM oM) (zC I (y1e (y1u _) (0:Int) 1 dC) (wA oM oM) (zC I (y1e (y1u _) (0:Int) 2 dC) (wA oM oM) zN))) zom nP) I ?_)))
   rintro ez gh ⟨eq,rfl,J⟩
   refine j0 I I (xJ (A:=[]) (ρ:=rpI) J dK ?_);intro h6 bd cb;refine qX (λX=>zL (ρ:=(rpS rpI)) (m:=1) (xs:=[[(↑i:Int),(((↑i:Int)+(1:Int))%(↑(l).length:Int)),(↑(l).length:Int)]]) (ps':=[(0,_)]) underlying81 jC I I I wJ e2z (zC I (y1e (y1u _) [] 0 dC) cb zN) zoj nP) I ?_
   rintro dn eg ⟨bn,rfl,ab⟩
   refine dT ?_
  all_goals
   refine w_c I (xJ (A:=[]) (ρ:=(rpS rpI)) ab dK ?_);intro h7 en ca;refine sX (xV (ρ:=(tFc (50*k+200) (200*k+900))) (xK (ps':=[(0,_),(1,_),(2,_)]) underlying83 qI I I (cI underlying83) e6 I (yF (yF (xE (yE oM)) (yE oM)) (yF wJ kB)) (zC I (y2i (y1u _)) fl.up (zC I (y2u (y2i (y1u _))) ca (zC I (y2u (y2u (y1u _))) (pS ((show ByB [115] by unfold ByB;decide).app az)) zN))))) λhv fk=>?_;refine w_c I (qX (λX=>zL (ρ:=(tFc (50*k+200) (200*k+900))) (m:=1) (xs:=[(thZ (l.getD i zT) (l.getD ((i+1)%l.length) zT) t,([[(↑i:Int),(((↑i:Int)+(1:Int))%(↑(l).length:Int)),(↑(l).length:Int)]],(([115]:List Nat)++(qF (((↑i:Int):Int):Rat)))))]) (ps':=[(0,_)]) underlying47 qI I I I (yF (yF (xE (yE oM)) (yE oM)) (yF wJ kB)) e2z (zC I (y1e (y1u _) zA 0 dC) fk zN) zon nP) I ?_)
   rintro hu iy ⟨hp,rfl,dx⟩
   refine w_c I (xJ (A:=[]) (ρ:=(tFc (50*k+200) (200*k+900))) dx dK ?_);intro h8 go bz;refine gR (A:=[_]) (λX=>uW (yA (ρ:=(tFc (150*k+700) (200*k+901))) (bytes:=264) underlying47 qI I I I I nP I I an.up (bz.le (Le.s (Le.p (Le.p (Le.t (Le.q (l:=150*k+700) oM)) (Le.q (l:=200*k+901) oM)) (Le.refl _)))) bO bO)) I (xU zox) ?_
   rintro ey ix ⟨bi,ep,rfl,dw⟩
   refine go1 ?_;refine yJ (A:=[_,_,_]) I (uB sizeOf47 (y2u (y2i pH)) Z (zBX bi)) λdf ct=>(go8 ?_);refine uO (A:=[]) ?_;refine gqL ((i+1),(LN++[(((↑(l).length:Int)-(1:Int))-(↑i:Int))]),(FF++[(thZ (l.getD i zT) (l.getD ((i+1)%l.length) zT) t,([[(↑i:Int),(((↑i:Int)+(1:Int))%(↑(l).length:Int)),(↑(l).length:Int)]],(([115]:List Nat)++(qF (((↑i:Int):Int):Rat)))))]),df,fb,er,ey,ep,h8) ?_ ?_
   · exact⟨mle,ct,dy.up,dw,bi,by omega,by rw[bf];rfl,by rw[bg];rfl⟩
   omega
 have ei:i=l.length:=by omega
 rw[ei] at bf bg;refine go6 ?_;refine zE8 (A:=[_]) (ρ:=rpI) ao.up ?_;intro h3 aa am;refine jD (A:=[]) 10 [] [(0,.q),(1,.q),(2,.q),(4,.q),(0,.x [] [3] [5]),(6,.c),(7,.c),(8,.c),(9,.q),(10,.t)] yC nX zot nX (go1 ?_);refine wX I (bY (xB gK (y2u (y2i pH)) Z)) λhf ef=>?_;subst ef;refine wX I (xB iU pH au) λhe bh=>(go1 ?_);refine yBI (N:=2) I ?_;refine zCR I I I I ?x6 ?x7
 case' x6=>
  refine sC (ev1 I) call79 (λw hs=>zAG hs bh oM oM) λdq h4 ak M=>?_;replace M:=Rp.Is.le M (Le.p (Le.t (Le.q (l:=150*k+610) oM)) (Le.q (l:=200*k+901) oM));refine zMA I I (qX (λX=>zL (ρ:=(rpS rpI)) (m:=1) (xs:=[LN]) (ps':=[(0,_)]) underlying81 jC I I I wJ e2z (zC I (y1e (y1u _) [] 0 dC) am.up zN) zoj nP) I ?_);intro dp eh db;obtain⟨dl,rfl,ar⟩:=db;refine dT ?_
 case' x7=>
  refine qX (λX=>zL (ρ:=(rpS rpI)) (m:=1) (xs:=[LN]) (ps':=[(0,_)]) underlying81 jC I I I wJ e2z (zC I (y1e (y1u _) [] 0 dC) am.up zN) zoj nP) I ?_
  rintro dp eh ⟨dl,rfl,ar⟩
  refine j0 I I (sC (ev1 I) call79 (λw hs=>zAG hs bh oM oM) λdq h4 ak M=>?_);replace M:=Rp.Is.le M (Le.p (Le.t (Le.q (l:=150*k+610) oM)) (Le.q (l:=200*k+901) oM));refine dT ?_
 all_goals
  refine w_c I (xJ (A:=[]) (ρ:=(rpS rpI)) ar.up dK ?_);intro h5 be bx;refine sX (xV (ρ:=(tFc (150*k+610) (200*k+901))) (xK (ps':=[(0,_),(1,_),(2,_)]) underlying83 qI I I (cI underlying83) e6 I (yF (yF (xE (yE oM)) (yE oM)) (yF wJ kB)) (zC I (y2i (y1u _)) M.up (zC I (y2u (y2i (y1u _))) bx (zC I (y2u (y2u (y1u _))) (pS (show ByB [98,97,115,101] by unfold ByB;decide)) zN))))) λhd ee=>?_;refine w_c I (qX (λX=>zL (ρ:=(tFc (150*k+610) (200*k+901))) (m:=1) (xs:=[(opP (thZ (l.getD 0 zT) (l.getD 1 zT) (l.getD 2 zT)),([LN],([98,97,115,101]:List Nat)))]) (ps':=[(0,_)]) underlying47 qI I I I (yF (yF (xE (yE oM)) (yE oM)) (yF wJ kB)) e2z (zC I (y1e (y1u _) zA 0 dC) ee zN) zon nP) I ?_)
  rintro hc hk ⟨gw,rfl,cn⟩
  refine w_c I (xJ (A:=[]) (ρ:=(tFc (150*k+610) (200*k+901))) cn dK ?_);intro h6 bd bw;refine gR (A:=[]) (λX=>uW (yA (ρ:=(tFc (150*k+700) (200*k+901))) (bytes:=264) underlying47 qI I I I I nP I I an.up (bw.le (Le.s (Le.p (Le.p (Le.t (Le.q (l:=150*k+700) oM)) (Le.refl _)) (Le.refl _)))) bO bO)) I (xU zox) ?_
  rintro ha hj ⟨dd,gu,rfl,cm⟩
  refine go1 ?_;refine yJ (A:=[_]) I (uB sizeOf47 (y2u (y2i pH)) Z (zBX dd)) λba ad=>(go4 ?_);refine zW (A:=[]) (ρ:=(tFc (150*k+700) (200*k+901))) cm ?_;intro h7 en bv;replace ad:=ad.mono en;have cq:(tSd (k+1) (150*k+700) (200*k+901) 1).R h7 ba (((l++[t]),(C,([]:List En))).1,((FF++[(opP (thZ (l.getD 0 zT) (l.getD 1 zT) (l.getD 2 zT)),([LN],([98,97,115,101]:List Nat)))]),(((l++[t]),(C,([]:List En))).2).2)):=zFS ad bv;have cp:(tSd (k+1) (150*k+700) (200*k+901) 1).R h7 ba (pyR l t):=Rp.castR cq (by rw[bg,bf];rfl);refine lX (xB jH pH cp) λgz ed=>?_;refine uU (vs:=[_]) I I I I call82 ⟨I,y1i⟩ (λw hs=>y9 hs ed oM oM oM (by first|omega|exact hcd1.2.2|exact hcd1.2.1.1)) ?_;intro gy h8 ht go ac;obtain⟨ew,de,ac,rfl,dc,U⟩:=ac
  change RL (tFc (4*(150*k+700)+12) ((150*k+700)+(200*k+901)+12)) h8 de (nrF (pyR l t)) at U
  replace ac:=Rp.Is.le ac (Le.p (Le.s (Le.t (Le.q (l:=k+2) oM))) (Le.p (Le.refl _) (Le.s (Le.p (Le.refl _) (Le.p (Le.refl _) (Le.q (l:=2) oM))))));replace U:=(Le.p (Le.p (Le.t (Le.q (l:=600*k+2812) oM)) (Le.q (l:=350*k+1613) oM)) (Le.refl _)).rl U;have bq:=(Le.p (Le.s (Le.t (Le.q (l:=k+2) oM))) (Le.p (Le.refl _) (Le.s (Le.p (Le.refl _) (Le.p (Le.refl _) (Le.q (l:=2) dC)))))).R fj;refine zV (A:=[_,_,_]) (uB sizeOf50 pH bq ac) λgr co=>(go4 ?_);refine xW (jA (t:=4) jH mh3 I co) ?_;intro gx bc ci;refine gG (.cons_cons _ (zse _)) (λE S=>vO I bc (jE I) E S) ?_;exact⟨_,_,_,I,(Rp.Is.cast (Rp.Is.le ci (Le.p (Le.refl _) (Le.p (Le.refl _) (Le.s (Le.p (Le.refl _) (Le.p (Le.refl _) (Le.q (l:=6) dC))))))) (by rw[show nrE (pyR l t)=[] from by unfold nrE;split<;>rfl])),I,dc,((Le.p (Le.p (Le.t (Le.q (l:=1000*k+5000) oM)) (Le.q (l:=1000*k+5000) oM)) (Le.refl _)).rl U)⟩
set_option maxHeartbeats 1000000 in
theorem zIP{w0 w:World}{h0 h:Mem}{b k:Nat}{vl:Value}{xs:List Int}(hl:Is h vl xs)(hk:k<=xs.length){L:List Res}(hs:St w0 h0 (.var b 97 [vl,vI ↑k]::L) h w):
 Calls prog 59 #[vP b 0] w (u9 w0 h0 h L (λg r q'=>∃k':Nat,∃m:Sq,q'=.var b 97 [vl,vI ↑k']/\k'<=xs.length/\yFS m/\(tSd 2 2 2 1).Is g r m)):=by
 have db:=hl.lt63;refine kS (n:=57) (e:=[(0,vP b 0)]) (vs:=[vP b 0]) func59 rfl rfl (bL rfl) hs ⟨rfl,y1i⟩ (go2 ?_);refine nA (ρ:=(tSd 1 1 1 1)) (X:=([],([],[]))) jM (yF wJ (yF wJ wJ)) λb2 fh ck=>(go5 ?_);refine yX (A:=[_]) (vs:=[_,vI (3)]) call33 e2z (λX w hs=>vN hl zoy oM oM hs) I ?_;intro v9 g9 q9 cv cm;obtain⟨k9,G,rfl,ew,rfl,bj,bk⟩:=cm;refine go1 ?_;refine yX (A:=[_]) (vs:=[_,vI (3)]) call33 e2z (λX w hs=>vN hl.up zoy oM oM hs) I ?_;intro ec ff em ch bx;obtain⟨ev,D,rfl,dk,rfl,an,ax⟩:=bx;refine go1 ?_;refine yX (A:=[_]) (vs:=[_,vI (3)]) call33 e2z (λX w hs=>vN hl.up zoy oM oM hs) I ?_;intro eb fe el cg bw;obtain⟨eu,C,rfl,dj,rfl,am,aw⟩:=bw;refine uQ ?_;refine cL (ev3 I I I) call45 (λw hs=>fR hs oM oM oM oM oM oM) λea h1 cu bi=>?_;replace bi:=Rp.Is.cast (y:=(pI G D C)) bi zo0;refine go3 ?_;refine yX (A:=[_]) (vs:=[_,vI (3)]) call33 e2z (λX w hs=>vN hl.up zoy oM oM hs) I ?_;intro dz fd ek cf bv;obtain⟨es,M,rfl,di,rfl,ak,av⟩:=bv;refine go3 ?_;refine cL (ev3 I I I) call45 (λw hs=>fR hs oM oM oM oM oM oM) λdy h2 ct bh=>?_;replace bh:=Rp.Is.cast (y:=(pI (G+1+M) D C)) bh zo0;refine go2 ?_;refine yX (A:=[_]) (vs:=[_,vI (2)]) call33 e2z (λX w hs=>vN hl.up zoy oM oM hs) I ?_;intro dx fc ej ce bu;obtain⟨er,J,rfl,dh,rfl,aj,au⟩:=bu;refine go4 ?_;refine yX (A:=[_]) (vs:=[_,vI (3)]) call33 e2z (λX w hs=>vN hl.up zoy oM oM hs) I ?_;intro dw fb ei cd bt;obtain⟨eq,H,rfl,df,rfl,ai,ar⟩:=bt;refine go2 ?_;refine cL (ev3 I I I) call45 (λw hs=>fR hs oM oM oM oM oM oM) λdv h3 cq bg=>?_;replace bg:=Rp.Is.cast (y:=(pI (G+J) (D+1+H) C)) bg zo0;refine zF (zL (ρ:=(tPt 2)) (m:=3) (xs:=[(pI G D C),(pI (G+1+M) D C),(pI (G+J) (D+1+H) C)]) (ps':=[(0,_),(1,_),(2,_)]) underlying46 yM I I I (xE (yE dC)) e6 (zC I (y1e (y1u _) zT 0 dC) bi.up (zC I (y1e (y1u _) zT 1 dC) bh.up (zC I (y1e (y1u _) zT 2 dC) bg zN))) zol nP) I I I ?_
 rintro du eh ⟨dl,rfl,bo⟩
 refine go2 ?_;refine yX (A:=[_,_]) (vs:=[_,vI (3)]) call33 e2z (λX w hs=>vN hl.up zoy oM oM hs) I ?_;intro dt fa eg cc bs;obtain⟨ep,Z,rfl,de,rfl,ah,aq⟩:=bs;refine go3 ?_;refine yX (A:=[_,_]) (vs:=[_,vI (3)]) call33 e2z (λX w hs=>vN hl.up zoy oM oM hs) I ?_;intro dr ez ef cb br;obtain⟨eo,U,rfl,dd,rfl,ae,ap⟩:=br;refine go4 ?_;refine yX (A:=[_,_]) (vs:=[_,vI (3)]) call33 e2z (λX w hs=>vN hl.up zoy oM oM hs) I ?_;intro dq ey ee ca bq;obtain⟨en,O,rfl,dc,rfl,ad,ao⟩:=bq;refine go1 ?_;refine cL (ev3 I I I) call45 (λw hs=>fR hs oM oM oM oM oM oM) λdp h4 cp bf=>?_;replace bf:=Rp.Is.cast (y:=(pI (G+Z) (D+U) (C+1+O))) bf zo0;refine zW (A:=[]) (ρ:=(tPt 2)) bo.up ?_;intro h5 co bn;refine uU (vs:=[_,_]) I I I I call105 e2z (λw hs=>zKW hs bn bf.up dC (by first|omega|exact(zMS ⟨bj,bk⟩ ⟨an,ax⟩ ⟨am,aw⟩ ⟨ak,av⟩ ⟨aj,au⟩ ⟨ai,ar⟩ ⟨ah,aq⟩ ⟨ae,ap⟩ ⟨ad,ao⟩).1)) ?_;intro dn h6 fi cn ac;obtain⟨ed,cz,ci,rfl,ac,rfl,da,aa⟩:=ac
 change RL (tFc (1000*2+5000) (1000*2+5000)) h6 ci (nrF (pyR [(pI G D C),(pI (G+1+M) D C),(pI (G+J) (D+1+H) C)] (pI (G+Z) (D+U) (C+1+O)))) at aa
 replace ac:=Rp.Is.le ac (Le.p (Le.s (Le.t (Le.q (l:=4) oM))) (Le.refl _));replace aa:=(Le.p (Le.p (Le.t (Le.q (l:=7000) oM)) (Le.q (l:=7000) oM)) (Le.refl _)).rl aa;refine go3 ?_;refine nA (ρ:=(rpP (tLs 1) (rpP rpV (rpS (rpP rpI (rpP rpI (rpQ 1))))))) (X:=([],((Value.slice none 0 0),[]))) jM (yF wJ (yF sR wJ)) λb6 fg cj=>?_;have bl:=(Le.p (Le.s (Le.t (Le.q (l:=4) dC))) (Le.p (Le.refl _) (Le.s (Le.p (Le.refl _) (Le.p (Le.refl _) (Le.q (l:=6) dC)))))).R cj;refine zV (A:=[]) (uB sizeOf50 pH bl ac) λay ab=>(go5 ?_);refine zW (A:=[_]) (ρ:=(tFc 7000 7000)) aa ?_;intro h7 bz bm;replace ab:=ab.mono bz;have bp:(tSd 4 7000 7000 6).R h7 ay (nrP (pyR [(pI G D C),(pI (G+1+M) D C),(pI (G+J) (D+1+H) C)] (pI (G+Z) (D+U) (C+1+O))),(nrF (pyR [(pI G D C),(pI (G+1+M) D C),(pI (G+J) (D+1+H) C)] (pI (G+Z) (D+U) (C+1+O))),[])):=zFS ab bm;have be:(tSd 4 7000 7000 6).R h7 ay (nrP (pyR [(pI G D C),(pI (G+1+M) D C),(pI (G+J) (D+1+H) C)] (pI (G+Z) (D+U) (C+1+O))),nrF (pyR [(pI G D C),(pI (G+1+M) D C),(pI (G+J) (D+1+H) C)] (pI (G+Z) (D+U) (C+1+O))),([]:List En)):=Rp.castR bp zo0;have bd:(tSd 2 2 2 1).R h7 ay (nrP (pyR [(pI G D C),(pI (G+1+M) D C),(pI (G+J) (D+1+H) C)] (pI (G+Z) (D+U) (C+1+O))),nrF (pyR [(pI G D C),(pI (G+1+M) D C),(pI (G+J) (D+1+H) C)] (pI (G+Z) (D+U) (C+1+O))),([]:List En)):=zDV be (zC3 (zC0 (zMS ⟨bj,bk⟩ ⟨an,ax⟩ ⟨am,aw⟩ ⟨ak,av⟩ ⟨aj,au⟩ ⟨ai,ar⟩ ⟨ah,aq⟩ ⟨ae,ap⟩ ⟨ad,ao⟩).2)).2;refine lX (xB jH pH bd) λdm cl=>?_;have ba:=(Le.p (Le.s (Le.t (Le.q (l:=2) dC))) (Le.p (Le.s (Le.p (Le.p (Le.t (Le.q (l:=2) dC)) (Le.q (l:=2) dC)) (Le.refl _))) (Le.refl _))).R ck;refine zV (A:=[_]) (uB sizeOf50 pH ba cl) λcw bc=>(go3 ?_);refine xW (jA (t:=2) jH mh1 I bc) ?_;intro cy az bb;refine pT (λE S=>zQ I az E S) ?_;exact⟨_,(.cons _ (.cons _ (zti _))),(((((((((((((((cv.trans ch).trans cg).trans cu).trans cf).trans ct).trans ce).trans cd).trans cq).trans cc).trans cb).trans ca).trans cp).trans co).trans cn).trans bz),_,_,I,by omega,(zMS ⟨bj,bk⟩ ⟨an,ax⟩ ⟨am,aw⟩ ⟨ak,av⟩ ⟨aj,au⟩ ⟨ai,ar⟩ ⟨ah,aq⟩ ⟨ae,ap⟩ ⟨ad,ao⟩).2,bb⟩
theorem kK{w0:World}{h0:Mem}(hs:MLe h0 (mem w0)){x:Int}(hx1:-9223372036854775808<=x)(hx2:x<9223372036854775808){y:Int}(hy1:-9223372036854775808<=y)(hy2:y<9223372036854775808){vl:Value}{l:(List Int)}(rl:(rpS rpI).Is h0 vl l)(hcd0:(-1000<=x/\x<=1000)/\-1000<=y/\y<=1000)(hcd1:∀q,q∈l-> -1000<=q/\q<=1000)(hcd2:l.length<=1000):
 Calls prog 150 #[vI x,vI y,vl] w0 (Ret w0 h0 (λh r=>(tLs 2).Is h r (cZ x y l))):=by
 refine cb3 36 (vI x) (vI y) vl func150 hs ?_;refine oO ?_;refine xC 53 9 ?_;have O:=RL.nil (ρ:=rpT (rpQ 2)) (h:=h0);refine gcL (ι:=Nat×List Tq×Value×List Value×Mem) (λ(u,D,C,G,ma)=>(MLe h0 ma/\(RL (tPt 2) ma G D/\(2*u<=l.length+1/\D.length=u)/\D++cZ x y (l.drop (2*u))=cZ x y l),[(0,vI x),(1,vI y),(2,vl),(7,C),(8,vI (2*↑u))],[.gs 53 9 C D.length G],ma,l.length+2-2*u)) (0,[],(.slice none 0 0),[],h0) ?_ ?_
 · exact⟨mle,O,⟨by omega,I⟩,I⟩
 rintro⟨u,D,C,G,ma⟩ ⟨ar,H,⟨bh,ao⟩,hD⟩
 refine yQ ?_;refine zAV (λaa=>?_) λaa=>?_
 ·
  have bj:=hcd1 _ (kO (d:=0) (show 2*u<l.length by omega));have bi:=hcd1 _ (kO (d:=0) (show 2*u+1<l.length by omega));refine go4 ?_;refine jD (A:=[]) 20 [] (zai 0 7 (zai 8 7 [(7,.c),(15,.c),(16,.c),(17,.c),(18,.c),(19,.q)])) yC nX (wV zot) nX (go4 ?_);refine wX I (xI (0:Int) (2*u) underlying32 ty3 rl) λbe am=>(wX I (xA ty3 am) λbd ak=>?_);obtain⟨rfl,av,aq⟩:=kF ak;refine go5 ?_;refine wX I (xI (0:Int) (2*u+1) underlying32 ty3 rl) λbb ai=>(wX I (xA ty3 ai) λba ah=>?_);obtain⟨rfl,au,ap⟩:=kF ah;refine go1 ?_;refine w_c I (sC (ev1 I) call39 (λw hs=>qP hs oM oM) λbc h1 an aj=>?_);refine w_c I (sC (ev1 I) call39 (λw hs=>qP hs oM oM) λaz h2 bl ae=>?_);refine w_c I (sX (xV (ρ:=(tPt 2)) (wL (ps':=[(0,_),(1,_)]) underlying53 yM I I sizeOf26 e4z I (xE (yE dC)) (zC I (y2e (y1u _)) aj.up (zC I (y3i (y1u _)) ae zN)))) λay ad=>?_);refine w_c I (qX (λX=>zL (ρ:=(tPt 2)) (m:=1) (xs:=[(T3.mk (((x+(l.getD (2*u) (0:Int))):Int):Rat) (((y+(l.getD (2*u+1) (0:Int))):Int):Rat) (0:Rat))]) (ps':=[(0,_)]) underlying46 yM I I I (xE (yE dC)) e2z (zC I (y1e (y1u _) zT 0 dC) ad zN) zok nP) I ?_)
  rintro ax bg ⟨aw,rfl,Z⟩
  refine w_c I (xJ (A:=[]) (ρ:=(tPt 2)) Z dK ?_);intro h3 bk M;refine gR (A:=[]) (λX=>yA (ρ:=(tPt 2)) (bytes:=168) underlying46 yM I I I I nP I I H.up M bO bO) I (xU zox) ?_
  rintro ac bf ⟨ab,rfl,U⟩
  refine go9 ?_;refine gqL ((u+1),(D++[(T3.mk (((x+(l.getD (2*u) (0:Int))):Int):Rat) (((y+(l.getD (2*u+1) (0:Int))):Int):Rat) (0:Rat))]),ac,ab,h3) ?_ ?_ (he:=⟨I,I,I,I,zbi (λz=>some (vI z)) oM,y1i⟩)
  · exact⟨mle,U,⟨by omega,by rw[lAz,ao];rfl⟩,zWS hD oM⟩
  omega
 refine uV ?_;refine xP (A:=[]) (ρ:=(tPt 2)) H.up ?_;intro h1 an J;refine zD I I ?_;exact(Rp.Is.cast J (by exact zZ2 hD oM))
set_option maxHeartbeats 1000000 in
theorem zK0{w0 w:World}{h0 h:Mem}{b k:Nat}{vl:Value}{xs:List Int}(hl:Is h vl xs)(hk:k<=xs.length){L:List Res}(hs:St w0 h0 (.var b 97 [vl,vI ↑k]::L) h w):
 Calls prog 104 #[vP b 0] w (u9 w0 h0 h L (λg r q'=>∃k':Nat,∃m:List (List Tq),q'=.var b 97 [vl,vI ↑k']/\k'<=xs.length/\baP m/\(tLL 2).Is g r m)):=by
 have cn:=hl.lt63;refine kS (n:=60) (e:=[(0,vP b 0)]) (vs:=[vP b 0]) func104 rfl rfl (bL rfl) hs ⟨rfl,y1i⟩ (go8 ?_);refine yX (A:=[]) (vs:=[_,vI (2)]) call33 e2z (λX w hs=>vN hl zoy oM oM hs) I ?_;intro v6 g6 q6 aj ck;obtain⟨k6,z6,rfl,ff,rfl,D,H⟩:=ck;refine go1 ?_;refine yX (A:=[]) (vs:=[_,vI (2)]) call33 e2z (λX w hs=>vN hl.up zoy oM oM hs) I ?_;intro v8 g8 q8 ai cj;obtain⟨k8,z8,rfl,fe,rfl,C,G⟩:=cj;refine go8 ?_;refine yX (A:=[]) (vs:=[_,vI (6)]) call33 e2z (λX w hs=>vN hl.up zoy oM oM hs) I ?_;intro eh fj ez ah bt;obtain⟨fd,di,rfl,ct,rfl,cl,cm⟩:=bt;refine gc9 (λcb=>?_) λcb=>?_
 ·
  refine go4 ?_;refine zF (zL (ρ:=rpI) (m:=12) (xs:=[(0:Int),(0:Int),(2:Int),(0:Int),(2:Int),(1:Int),(1:Int),(1:Int),(1:Int),(2:Int),(0:Int),(2:Int)]) (ps':=[(0,_),(1,_),(2,_),(3,_),(4,_),(5,_),(6,_),(7,_),(8,_),(9,_),(10,_),(11,_)]) underlying32 jJ I I I wN ⟨I,I,I,I,I,I,I,I,I,I,I,I,I,I,I,I,I,I,I,I,I,I,I,I,y1i⟩ (zC I (y1e (y1u _) (0:Int) 0 dC) (wA dC dC) (zC I (y1e (y1u _) (0:Int) 1 dC) (wA dC dC) (zC I (y1e (y1u _) (0:Int) 2 dC) (wA dC dC) (zC I (y1e (y1u _) (0:Int) 3 dC) (wA dC dC) (zC I (y1e (y1u _) (0:Int) 4 dC) (wA dC dC) (zC I (y1e (y1u _) (0:Int) 5 dC) (wA dC dC) (zC I (y1e (y1u _) (0:Int) 6 dC) (wA dC dC) (zC I (y1e (y1u _) (0:Int) 7 dC) (wA dC dC) (zC I (y1e (y1u _) (0:Int) 8 dC) (wA dC dC) (zC I (y1e (y1u _) (0:Int) 9 dC) (wA dC dC) (zC I (y1e (y1u _) (0:Int) 10 dC) (wA dC dC) (zC I (y1e (y1u _) (0:Int) 11 dC) (wA dC dC) zN)))))))))))) (show 12*1<=16777216 from by decide) nP) I I I ?_
  rintro eg ey ⟨dh,rfl,bp⟩
  refine zW (A:=[]) (ρ:=rpI) bp ?_;intro h1 U bd;refine cL (ev3 I I I) call150 (λw hs=>kK hs oM oM oM oM bd (by first|omega|exact zce rfl|(intro q J;simp only[zfi,zgi,or_false] at J;omega)) (by first|omega|exact zce rfl|(intro q J;simp only[zfi,zgi,or_false] at J;omega)) (by first|omega|exact zce rfl|(intro q J;simp only[zfi,zgi,or_false] at J;omega))) λef h2 O ci=>(zF (zL (ρ:=(tLs 2)) (m:=1) (xs:=[cZ z6 z8 [(0:Int),(0:Int),(2:Int),(0:Int),(2:Int),(1:Int),(1:Int),(1:Int),(1:Int),(2:Int),(0:Int),(2:Int)]]) (ps':=[(0,_)]) underlying115 rY I I I wJ e2z (zC I (y1e (y1u _) [] 0 dC) ci zN) zoj nP) I I I ?_)
  rintro ee ew ⟨df,rfl,bo⟩
  refine go6 ?_;refine xP (A:=[]) (ρ:=(tLs 2)) bo ?_;intro h3 M bc;refine uY I I ?_;exact⟨_,(zti _),(((((aj.trans ai).trans ah).trans U).trans O).trans M),_,_,I,by omega,(by first|exact zXB ⟨D,H⟩ ⟨C,G⟩|exact zXA ⟨D,H⟩ ⟨C,G⟩|exact zW9 ⟨D,H⟩ ⟨C,G⟩|exact zW8 ⟨D,H⟩ ⟨C,G⟩|exact zW7 ⟨D,H⟩ ⟨C,G⟩ ⟨ab,ae⟩ ⟨aa,ad⟩ ⟨Z,ac⟩),bc⟩
 refine gc6 (λca=>?_) λca=>?_
 ·
  refine go4 ?_;refine zF (zL (ρ:=rpI) (m:=8) (xs:=[(0:Int),(0:Int),(3:Int),(0:Int),(3:Int),(3:Int),(0:Int),(3:Int)]) (ps':=[(0,_),(1,_),(2,_),(3,_),(4,_),(5,_),(6,_),(7,_)]) underlying32 jJ I I I wN ⟨I,I,I,I,I,I,I,I,I,I,I,I,I,I,I,I,y1i⟩ (zC I (y1e (y1u _) (0:Int) 0 dC) (wA dC dC) (zC I (y1e (y1u _) (0:Int) 1 dC) (wA dC dC) (zC I (y1e (y1u _) (0:Int) 2 dC) (wA dC dC) (zC I (y1e (y1u _) (0:Int) 3 dC) (wA dC dC) (zC I (y1e (y1u _) (0:Int) 4 dC) (wA dC dC) (zC I (y1e (y1u _) (0:Int) 5 dC) (wA dC dC) (zC I (y1e (y1u _) (0:Int) 6 dC) (wA dC dC) (zC I (y1e (y1u _) (0:Int) 7 dC) (wA dC dC) zN)))))))) zop nP) I I I ?_
  rintro ed ev ⟨de,rfl,bn⟩
  refine zW (A:=[]) (ρ:=rpI) bn ?_;intro h1 U bb;refine cL (ev3 I I I) call150 (λw hs=>kK hs oM oM oM oM bb (by first|omega|exact zce rfl|(intro q J;simp only[zfi,zgi,or_false] at J;omega)) (by first|omega|exact zce rfl|(intro q J;simp only[zfi,zgi,or_false] at J;omega)) (by first|omega|exact zce rfl|(intro q J;simp only[zfi,zgi,or_false] at J;omega))) λec h2 O ch=>(go2 ?_);refine zF (zL (ρ:=rpI) (m:=8) (xs:=[(1:Int),(1:Int),(1:Int),(2:Int),(2:Int),(2:Int),(2:Int),(1:Int)]) (ps':=[(0,_),(1,_),(2,_),(3,_),(4,_),(5,_),(6,_),(7,_)]) underlying32 jJ I I I wN ⟨I,I,I,I,I,I,I,I,I,I,I,I,I,I,I,I,y1i⟩ (zC I (y1e (y1u _) (0:Int) 0 dC) (wA dC dC) (zC I (y1e (y1u _) (0:Int) 1 dC) (wA dC dC) (zC I (y1e (y1u _) (0:Int) 2 dC) (wA dC dC) (zC I (y1e (y1u _) (0:Int) 3 dC) (wA dC dC) (zC I (y1e (y1u _) (0:Int) 4 dC) (wA dC dC) (zC I (y1e (y1u _) (0:Int) 5 dC) (wA dC dC) (zC I (y1e (y1u _) (0:Int) 6 dC) (wA dC dC) (zC I (y1e (y1u _) (0:Int) 7 dC) (wA dC dC) zN)))))))) zop nP) I I I ?_
  rintro eb eu ⟨dd,rfl,bm⟩
  refine zW (A:=[]) (ρ:=rpI) bm ?_;intro h3 M av;refine cL (ev3 I I I) call150 (λw hs=>kK hs oM oM oM oM av (by first|omega|exact zce rfl|(intro q J;simp only[zfi,zgi,or_false] at J;omega)) (by first|omega|exact zce rfl|(intro q J;simp only[zfi,zgi,or_false] at J;omega)) (by first|omega|exact zce rfl|(intro q J;simp only[zfi,zgi,or_false] at J;omega))) λea h4 ax cg=>(zF (zL (ρ:=(tLs 2)) (m:=2) (xs:=[cZ z6 z8 [(0:Int),(0:Int),(3:Int),(0:Int),(3:Int),(3:Int),(0:Int),(3:Int)],cZ z6 z8 [(1:Int),(1:Int),(1:Int),(2:Int),(2:Int),(2:Int),(2:Int),(1:Int)]]) (ps':=[(0,_),(1,_)]) underlying115 rY I I I wJ e4z (zC I (y1e (y1u _) [] 0 dC) ch.up (zC I (y1e (y1u _) [] 1 dC) cg zN)) zoq nP) I I I ?_)
  rintro dz es ⟨dc,rfl,bl⟩
  refine go6 ?_;refine xP (A:=[]) (ρ:=(tLs 2)) bl ?_;intro h5 aw au;refine uY I I ?_;exact⟨_,(zti _),(((((((aj.trans ai).trans ah).trans U).trans O).trans M).trans ax).trans aw),_,_,I,by omega,(by first|exact zXB ⟨D,H⟩ ⟨C,G⟩|exact zXA ⟨D,H⟩ ⟨C,G⟩|exact zW9 ⟨D,H⟩ ⟨C,G⟩|exact zW8 ⟨D,H⟩ ⟨C,G⟩|exact zW7 ⟨D,H⟩ ⟨C,G⟩ ⟨ab,ae⟩ ⟨aa,ad⟩ ⟨Z,ac⟩),au⟩
 refine gc6 (λbz=>?_) λbz=>?_
 ·
  refine go4 ?_;refine zF (zL (ρ:=rpI) (m:=8) (xs:=[(0:Int),(0:Int),(3:Int),(0:Int),(3:Int),(3:Int),(0:Int),(3:Int)]) (ps':=[(0,_),(1,_),(2,_),(3,_),(4,_),(5,_),(6,_),(7,_)]) underlying32 jJ I I I wN ⟨I,I,I,I,I,I,I,I,I,I,I,I,I,I,I,I,y1i⟩ (zC I (y1e (y1u _) (0:Int) 0 dC) (wA dC dC) (zC I (y1e (y1u _) (0:Int) 1 dC) (wA dC dC) (zC I (y1e (y1u _) (0:Int) 2 dC) (wA dC dC) (zC I (y1e (y1u _) (0:Int) 3 dC) (wA dC dC) (zC I (y1e (y1u _) (0:Int) 4 dC) (wA dC dC) (zC I (y1e (y1u _) (0:Int) 5 dC) (wA dC dC) (zC I (y1e (y1u _) (0:Int) 6 dC) (wA dC dC) (zC I (y1e (y1u _) (0:Int) 7 dC) (wA dC dC) zN)))))))) zop nP) I I I ?_
  rintro dy er ⟨db,rfl,bk⟩
  refine zW (A:=[]) (ρ:=rpI) bk ?_;intro h1 U ar;refine cL (ev3 I I I) call150 (λw hs=>kK hs oM oM oM oM ar (by first|omega|exact zce rfl|(intro q J;simp only[zfi,zgi,or_false] at J;omega)) (by first|omega|exact zce rfl|(intro q J;simp only[zfi,zgi,or_false] at J;omega)) (by first|omega|exact zce rfl|(intro q J;simp only[zfi,zgi,or_false] at J;omega))) λdx h2 O cf=>(go2 ?_);refine zF (zL (ρ:=rpI) (m:=6) (xs:=[(1:Int),(1:Int),(0:Int),(0:Int),(1:Int),(2:Int)]) (ps':=[(0,_),(1,_),(2,_),(3,_),(4,_),(5,_)]) underlying32 jJ I I I wN e12 (zC I (y1e (y1u _) (0:Int) 0 dC) (wA dC dC) (zC I (y1e (y1u _) (0:Int) 1 dC) (wA dC dC) (zC I (y1e (y1u _) (0:Int) 2 dC) (wA dC dC) (zC I (y1e (y1u _) (0:Int) 3 dC) (wA dC dC) (zC I (y1e (y1u _) (0:Int) 4 dC) (wA dC dC) (zC I (y1e (y1u _) (0:Int) 5 dC) (wA dC dC) zN)))))) zor nP) I I I ?_
  rintro dw eq ⟨da,rfl,bj⟩
  refine zW (A:=[]) (ρ:=rpI) bj ?_;intro h3 M aq;refine cL (ev3 I I I) call150 (λw hs=>kK hs oM oM oM oM aq (by first|omega|exact zce rfl|(intro q J;simp only[zfi,zgi,or_false] at J;omega)) (by first|omega|exact zce rfl|(intro q J;simp only[zfi,zgi,or_false] at J;omega)) (by first|omega|exact zce rfl|(intro q J;simp only[zfi,zgi,or_false] at J;omega))) λdv h4 ax ce=>(zF (zL (ρ:=(tLs 2)) (m:=2) (xs:=[cZ z6 z8 [(0:Int),(0:Int),(3:Int),(0:Int),(3:Int),(3:Int),(0:Int),(3:Int)],cZ z6 z8 [(1:Int),(1:Int),(0:Int),(0:Int),(1:Int),(2:Int)]]) (ps':=[(0,_),(1,_)]) underlying115 rY I I I wJ e4z (zC I (y1e (y1u _) [] 0 dC) cf.up (zC I (y1e (y1u _) [] 1 dC) ce zN)) zoq nP) I I I ?_)
  rintro du ep ⟨cz,rfl,bi⟩
  refine go6 ?_;refine xP (A:=[]) (ρ:=(tLs 2)) bi ?_;intro h5 aw ap;refine uY I I ?_;exact⟨_,(zti _),(((((((aj.trans ai).trans ah).trans U).trans O).trans M).trans ax).trans aw),_,_,I,by omega,(by first|exact zXB ⟨D,H⟩ ⟨C,G⟩|exact zXA ⟨D,H⟩ ⟨C,G⟩|exact zW9 ⟨D,H⟩ ⟨C,G⟩|exact zW8 ⟨D,H⟩ ⟨C,G⟩|exact zW7 ⟨D,H⟩ ⟨C,G⟩ ⟨ab,ae⟩ ⟨aa,ad⟩ ⟨Z,ac⟩),ap⟩
 refine gc6 (λbx=>?_) λbx=>?_
 ·
  refine go4 ?_;refine zF (zL (ρ:=rpI) (m:=10) (xs:=[(0:Int),(0:Int),(1:Int),(0:Int),(2:Int),(0:Int),(2:Int),(2:Int),(0:Int),(1:Int)]) (ps':=[(0,_),(1,_),(2,_),(3,_),(4,_),(5,_),(6,_),(7,_),(8,_),(9,_)]) underlying32 jJ I I I wN ⟨I,I,I,I,I,I,I,I,I,I,I,I,I,I,I,I,I,I,I,I,y1i⟩ (zC I (y1e (y1u _) (0:Int) 0 dC) (wA dC dC) (zC I (y1e (y1u _) (0:Int) 1 dC) (wA dC dC) (zC I (y1e (y1u _) (0:Int) 2 dC) (wA dC dC) (zC I (y1e (y1u _) (0:Int) 3 dC) (wA dC dC) (zC I (y1e (y1u _) (0:Int) 4 dC) (wA dC dC) (zC I (y1e (y1u _) (0:Int) 5 dC) (wA dC dC) (zC I (y1e (y1u _) (0:Int) 6 dC) (wA dC dC) (zC I (y1e (y1u _) (0:Int) 7 dC) (wA dC dC) (zC I (y1e (y1u _) (0:Int) 8 dC) (wA dC dC) (zC I (y1e (y1u _) (0:Int) 9 dC) (wA dC dC) zN)))))))))) (show 10*1<=16777216 from by decide) nP) I I I ?_
  rintro dt eo ⟨cy,rfl,bh⟩
  refine zW (A:=[]) (ρ:=rpI) bh ?_;intro h1 U ao;refine cL (ev3 I I I) call150 (λw hs=>kK hs oM oM oM oM ao (by first|omega|exact zce rfl|(intro q J;simp only[zfi,zgi,or_false] at J;omega)) (by first|omega|exact zce rfl|(intro q J;simp only[zfi,zgi,or_false] at J;omega)) (by first|omega|exact zce rfl|(intro q J;simp only[zfi,zgi,or_false] at J;omega))) λdr h2 O cd=>(zF (zL (ρ:=(tLs 2)) (m:=1) (xs:=[cZ z6 z8 [(0:Int),(0:Int),(1:Int),(0:Int),(2:Int),(0:Int),(2:Int),(2:Int),(0:Int),(1:Int)]]) (ps':=[(0,_)]) underlying115 rY I I I wJ e2z (zC I (y1e (y1u _) [] 0 dC) cd zN) zoj nP) I I I ?_)
  rintro dq en ⟨cw,rfl,bg⟩
  refine go6 ?_;refine xP (A:=[]) (ρ:=(tLs 2)) bg ?_;intro h3 M an;refine uY I I ?_;exact⟨_,(zti _),(((((aj.trans ai).trans ah).trans U).trans O).trans M),_,_,I,by omega,(by first|exact zXB ⟨D,H⟩ ⟨C,G⟩|exact zXA ⟨D,H⟩ ⟨C,G⟩|exact zW9 ⟨D,H⟩ ⟨C,G⟩|exact zW8 ⟨D,H⟩ ⟨C,G⟩|exact zW7 ⟨D,H⟩ ⟨C,G⟩ ⟨ab,ae⟩ ⟨aa,ad⟩ ⟨Z,ac⟩),an⟩
 refine go8 ?_;refine yX (A:=[]) (vs:=[_,vI (3)]) call33 e2z (λX w hs=>vN hl.up zoy oM oM hs) I ?_;intro dp fi em bw bs;obtain⟨fc,ba,rfl,cq,rfl,ab,ae⟩:=bs;refine gv (zY (p:=1) I I oM oM) I (go1 ?_);refine yX (A:=[]) (vs:=[_,vI (2)]) call33 e2z (λX w hs=>vN hl.up zoy oM oM hs) I ?_;intro dn fh el bv br;obtain⟨fb,az,rfl,cp,rfl,aa,ad⟩:=br;refine go1 ?_;refine yX (A:=[]) (vs:=[_,vI (2)]) call33 e2z (λX w hs=>vN hl.up zoy oM oM hs) I ?_;intro dm fg ek bu bq;obtain⟨fa,ay,rfl,co,rfl,Z,ac⟩:=bq;refine gv (zY (p:=1) I I oM oM) I (zF (zL (ρ:=rpI) (m:=6) (xs:=[(0:Int),(0:Int),((1:Int)+ba),(0:Int),az,((1:Int)+ay)]) (ps':=[(0,_),(1,_),(2,_),(3,_),(4,_),(5,_)]) underlying32 jJ I I I wN e12 (zC I (y1e (y1u _) (0:Int) 0 dC) (wA dC dC) (zC I (y1e (y1u _) (0:Int) 1 dC) (wA dC dC) (zC I (y1e (y1u _) (0:Int) 2 dC) (wA oM oM) (zC I (y1e (y1u _) (0:Int) 3 dC) (wA dC dC) (zC I (y1e (y1u _) (0:Int) 4 dC) (wA oM oM) (zC I (y1e (y1u _) (0:Int) 5 dC) (wA oM oM) zN)))))) zor nP) I I I ?_)
 rintro dl ej ⟨cv,rfl,bf⟩
 refine zW (A:=[]) (ρ:=rpI) bf ?_;intro h1 U am;refine cL (ev3 I I I) call150 (λw hs=>kK hs oM oM oM oM am (by first|omega|exact zce rfl|(intro q J;simp only[zfi,zgi,or_false] at J;omega)) (by first|omega|exact zce rfl|(intro q J;simp only[zfi,zgi,or_false] at J;omega)) (by first|omega|exact zce rfl|(intro q J;simp only[zfi,zgi,or_false] at J;omega))) λdk h2 O cc=>(zF (zL (ρ:=(tLs 2)) (m:=1) (xs:=[cZ z6 z8 [(0:Int),(0:Int),((1:Int)+ba),(0:Int),az,((1:Int)+ay)]]) (ps':=[(0,_)]) underlying115 rY I I I wJ e2z (zC I (y1e (y1u _) [] 0 dC) cc zN) zoj nP) I I I ?_)
 rintro dj ei ⟨cu,rfl,be⟩
 refine go4 ?_;refine xP (A:=[]) (ρ:=(tLs 2)) be ?_;intro h3 M ak;refine uY I I ?_;exact⟨_,(zti _),((((((((aj.trans ai).trans ah).trans bw).trans bv).trans bu).trans U).trans O).trans M),_,_,I,by omega,(by first|exact zXB ⟨D,H⟩ ⟨C,G⟩|exact zXA ⟨D,H⟩ ⟨C,G⟩|exact zW9 ⟨D,H⟩ ⟨C,G⟩|exact zW8 ⟨D,H⟩ ⟨C,G⟩|exact zW7 ⟨D,H⟩ ⟨C,G⟩ ⟨ab,ae⟩ ⟨aa,ad⟩ ⟨Z,ac⟩),ak⟩
set_option maxHeartbeats 1000000 in
theorem zIR{w0 w:World}{h0 h:Mem}{b k:Nat}{vl:Value}{xs:List Int}(hl:Is h vl xs)(hk:k<=xs.length){L:List Res}(hs:St w0 h0 (.var b 97 [vl,vI ↑k]::L) h w):
 Calls prog 58 #[vP b 0] w (u9 w0 h0 h L (λg r q'=>∃k':Nat,∃m:Sq,q'=.var b 97 [vl,vI ↑k']/\k'<=xs.length/\zH0 m/\(tSd 2 2 2 1).Is g r m)):=by
 have bl:=hl.lt63;refine kS (n:=23) (e:=[(0,vP b 0)]) (vs:=[vP b 0]) func58 rfl rfl (bL rfl) hs ⟨rfl,y1i⟩ (go2 ?_);refine nA (ρ:=(tSd 1 1 1 1)) (X:=([],([],[]))) jM (yF wJ (yF wJ wJ)) λb2 ce ay=>(go5 ?_);refine yX (A:=[_]) (vs:=[_,vI (2)]) call33 e2z (λX w hs=>vN hl zoy oM oM hs) I ?_;intro v7 g7 q7 bg bc;obtain⟨k7,M,rfl,ca,rfl,U,Z⟩:=bc;refine go6 ?_;refine yX (A:=[_]) (vs:=[_]) call104 ⟨I,y1i⟩ (λX w hs=>zK0 hl.up zoy hs) I ?_;intro bt cc bw av ac;obtain⟨bz,J,rfl,bn,G,ac⟩:=ac;refine go1 ?_;refine cL (ev1 I) call39 (λw hs=>qP hs oM oM) λbs h1 bf bb=>(go3 ?_);refine yX (A:=[_]) (vs:=[_,vI (2)]) call33 e2z (λX w hs=>vN hl.up zoy oM oM hs) I ?_;intro br cb bv au aq;obtain⟨bx,H,rfl,bm,rfl,C,D⟩:=aq;refine go1 ?_;refine cL (ev1 I) call39 (λw hs=>qP hs oM oM) λbq h2 be ba=>?_;refine uU (vs:=[_,_,_]) I I I I call81 e3z (λw hs=>zGY hs ac.up bb.up ba dC dC dC (by first|omega|exact(zBJ G ⟨U,Z⟩ ⟨C,D⟩).1.1|exactλ_=>(zBJ G ⟨U,Z⟩ ⟨C,D⟩).1.2.2) (by first|omega|exact(zBJ G ⟨U,Z⟩ ⟨C,D⟩).1.1|exactλ_=>(zBJ G ⟨U,Z⟩ ⟨C,D⟩).1.2.2)) ?_;intro bp h3 cf bd ab;obtain⟨bu,bj,aw,rfl,ab,rfl,bk,O⟩:=ab
 change RL (tFc (1000*2+1000*2+1000*2+2000) (1000*2+1000*2+1000*2+2000)) h3 aw (prF J ((M:Int):Rat) ((((M+(1:Int))+H):Int):Rat)) at O
 replace ab:=Rp.Is.le ab (Le.p (Le.s (Le.t (Le.q (l:=26) oM))) (Le.refl _));replace O:=(Le.p (Le.p (Le.t (Le.q (l:=8000) oM)) (Le.q (l:=8000) oM)) (Le.refl _)).rl O;refine go3 ?_;refine nA (ρ:=(rpP (tLs 1) (rpP rpV (rpS (rpP rpI (rpP rpI (rpQ 1))))))) (X:=([],((Value.slice none 0 0),[]))) jM (yF wJ (yF sR wJ)) λb4 cd ax=>?_;have am:=(Le.p (Le.s (Le.t (Le.q (l:=26) dC))) (Le.p (Le.refl _) (Le.s (Le.p (Le.refl _) (Le.p (Le.refl _) (Le.q (l:=5) dC)))))).R ax;refine zV (A:=[]) (uB sizeOf50 pH am ab) λad aa=>(go5 ?_);refine zW (A:=[_]) (ρ:=(tFc 8000 8000)) O ?_;intro h4 ar an;replace aa:=aa.mono ar;have ap:(tSd 26 8000 8000 5).R h4 ad (prP J ((M:Int):Rat) ((((M+(1:Int))+H):Int):Rat),(prF J ((M:Int):Rat) ((((M+(1:Int))+H):Int):Rat),[])):=zFS aa an;have ao:(tSd 26 8000 8000 5).R h4 ad (prP J ((M:Int):Rat) ((M+1+H:Int):Rat),prF J ((M:Int):Rat) ((M+1+H:Int):Rat),([]:List En)):=Rp.castR ap zo0;have ak:(tSd 2 2 2 1).R h4 ad (prP J ((M:Int):Rat) ((M+1+H:Int):Rat),prF J ((M:Int):Rat) ((M+1+H:Int):Rat),([]:List En)):=zDV ao (zC3 (zBJ G ⟨U,Z⟩ ⟨C,D⟩).2).2;refine lX (xB jH pH ak) λbo az=>?_;have ah:=(Le.p (Le.s (Le.t (Le.q (l:=2) dC))) (Le.p (Le.s (Le.p (Le.p (Le.t (Le.q (l:=2) dC)) (Le.q (l:=2) dC)) (Le.refl _))) (Le.refl _))).R ay;refine zV (A:=[_]) (uB sizeOf50 pH ah az) λbh aj=>(go3 ?_);refine xW (jA (t:=2) jH mh1 I aj) ?_;intro bi ae ai;refine pT (λE S=>zQ I ae E S) ?_;exact⟨_,(.cons _ (.cons _ (zti _))),((((((bg.trans av).trans bf).trans au).trans be).trans bd).trans ar),_,_,I,by omega,(zBJ G ⟨U,Z⟩ ⟨C,D⟩).2,ai⟩
set_option maxHeartbeats 1000000 in
theorem zIQ{w0 w:World}{h0 h:Mem}{b k:Nat}{vl:Value}{xs:List Int}(hl:Is h vl xs)(hk:k<=xs.length){L:List Res}(hs:St w0 h0 (.var b 97 [vl,vI ↑k]::L) h w):
 Calls prog 21 #[vP b 0] w (u9 w0 h0 h L (λg r q'=>∃k':Nat,∃m:Sq,q'=.var b 97 [vl,vI ↑k']/\k'<=xs.length/\zH0 m/\(tSd 2 2 2 1).Is g r m)):=by
 have ay:=hl.lt63;refine kS (n:=15) (e:=[(0,vP b 0)]) (vs:=[vP b 0]) func21 rfl rfl (bL rfl) hs ⟨rfl,y1i⟩ (go2 ?_);refine nA (ρ:=(tSd 1 1 1 1)) (X:=([],([],[]))) jM (yF wJ (yF wJ wJ)) λb2 bt aa=>(go6 ?_);refine yX (A:=[_]) (vs:=[_,vI (5)]) call33 e2z (λX w hs=>vN hl zoy oM oM hs) I ?_;intro v4 g4 q4 ah aq;obtain⟨k4,z4,rfl,bq,rfl,bn,bo⟩:=aq;refine gc9 (λav=>?_) λav=>?_
 ·
  refine go3 ?_;refine yX (A:=[_]) (vs:=[_]) call57 ⟨I,y1i⟩ (λX w hs=>zNY hl.up zoy hs) I ?_;intro v8 g8 q8 ar ae;obtain⟨k8,p8,rfl,bp,ab,ae⟩:=ae;have aj:=(Le.p (Le.s (Le.t (Le.q (l:=2) dC))) (Le.p (Le.s (Le.p (Le.p (Le.t (Le.q (l:=2) dC)) (Le.q (l:=2) dC)) (Le.refl _))) (Le.refl _))).R aa;refine zV (A:=[]) (uB sizeOf50 pH aj ae) λbc an=>(go5 ?_);refine xW (jA (t:=2) jH mh0 I an) ?_;intro be ad ak;refine pT (λE S=>zQ I ad E S) ?_;exact⟨_,(.cons _ (zti _)),(ah.trans ar),_,_,I,by omega,(by first|exact ab|exact D|exact zC0 C),ak⟩
 refine gc6 (λau=>?_) λau=>?_
 ·
  refine go3 ?_;refine yX (A:=[_]) (vs:=[_]) call58 ⟨I,y1i⟩ (λX w hs=>zIR hl.up zoy hs) I ?_;intro bg bs bi ap H;obtain⟨bm,bk,rfl,ba,D,H⟩:=H;have ai:=(Le.p (Le.s (Le.t (Le.q (l:=2) dC))) (Le.p (Le.s (Le.p (Le.p (Le.t (Le.q (l:=2) dC)) (Le.q (l:=2) dC)) (Le.refl _))) (Le.refl _))).R aa;refine zV (A:=[]) (uB sizeOf50 pH ai H) λbb am=>(go5 ?_);refine xW (jA (t:=2) jH mh0 I am) ?_;intro bd ac U;refine pT (λE S=>zQ I ac E S) ?_;exact⟨_,(.cons _ (zti _)),(ah.trans ap),_,_,I,by omega,(by first|exact ab|exact D|exact zC0 C),U⟩
 refine go6 ?_;refine yX (A:=[_]) (vs:=[_]) call59 ⟨I,y1i⟩ (λX w hs=>zIP hl.up zoy hs) I ?_;intro bf br bh ao G;obtain⟨bl,bj,rfl,az,C,G⟩:=G;have M:=(Le.p (Le.s (Le.t (Le.q (l:=2) dC))) (Le.p (Le.s (Le.p (Le.p (Le.t (Le.q (l:=2) dC)) (Le.q (l:=2) dC)) (Le.refl _))) (Le.refl _))).R aa;refine zV (A:=[]) (uB sizeOf50 pH M G) λaw Z=>(go3 ?_);refine xW (jA (t:=2) jH mh0 I Z) ?_;intro ax J O;refine pT (λE S=>zQ I J E S) ?_;exact⟨_,(.cons _ (zti _)),(ah.trans ao),_,_,I,by omega,(by first|exact ab|exact D|exact zC0 C),O⟩
theorem zE2{w0:World}{h0:Mem}(hs:MLe h0 (mem w0))(hsf:SaneF):
 Calls prog 8 #[] w0 (Ret w0 h0 (λ_ r=>r=.bool true)):=by
 refine cb0 90 func8 hs ?_;refine go7 ?_;refine cL (vs:=[vI (2)]) ⟨I,y1i⟩ call39 (λw hs=>qP hs dC dC) λep h1 fa cn=>(cL (vs:=[_,vI (1)]) e2z call13 (λw hs=>eL hs cn dC dC dC) λeo h2 ez cm=>?_);obtain⟨ai,rfl,G⟩:=cm
 change (rpP (rpQ (2+140)) (rpQ (2+140))).Is h2 ai (eP (((2:Int):Int):Rat) (1:Int),eQ (((2:Int):Int):Rat) (1:Int)) at G
 replace G:=Rp.Is.le G (Le.p (Le.q (l:=142) oM) (Le.q (l:=142) oM));refine go3 ?_;refine nA (ρ:=(rpP (rpQ 1) (rpQ 1))) (X:=((0:Rat),(0:Rat))) fS (yF (yE dC) (yE dC)) λb1 ft bh=>?_;have bb:=(Le.p (Le.q (l:=142) dC) (Le.q (l:=142) dC)).R bh;refine zV (A:=[]) (uB sizeOf34 pH bb G) λdn ac=>(go5 ?_);refine cL (vs:=[vI (9),vI (4)]) e2z call10 (λw hs=>zCH hs dC dC dC dC) λen h3 ey cl=>(cL (vs:=[_,vI (1)]) e2z call13 (λw hs=>eL hs cl dC dC dC) λem h4 ew ck=>?_);obtain⟨ah,rfl,D⟩:=ck
 change (rpP (rpQ (2+140)) (rpQ (2+140))).Is h4 ah (eP (jS (9:Int) (4:Int)) (1:Int),eQ (jS (9:Int) (4:Int)) (1:Int)) at D
 replace D:=Rp.Is.le D (Le.p (Le.q (l:=142) oM) (Le.q (l:=142) oM));refine go3 ?_;refine nA (ρ:=(rpP (rpQ 1) (rpQ 1))) (X:=((0:Rat),(0:Rat))) fS (yF (yE dC) (yE dC)) λb3 fs bg=>?_;have ba:=(Le.p (Le.q (l:=142) dC) (Le.q (l:=142) dC)).R bg;refine zV (A:=[]) (uB sizeOf34 pH ba D) λdm ab=>(go5 ?_);refine cL (vs:=[vI (0),vI (0),vI (0)]) e3z call45 (λw hs=>fR hs dC dC dC dC dC dC) λel h5 ev cj=>(cL (vs:=[vI (2),vI (2),vI (2)]) e3z call45 (λw hs=>fR hs dC dC dC dC dC dC) λek h6 eu ci=>?_);refine uU (vs:=[_,_]) I I I I call35 e2z (λw hs=>zG2 hs cj.up ci dC dC (by first|omega|exact hsf.h)) ?_;intro ej h7 fu es Z;obtain⟨eq,cu,bc,rfl,Z,rfl,cv,O⟩:=Z
 change RL (tFc (10000*2+10000*2+20000) (10000*2+10000*2+20000)) h7 bc (blF (T3.mk (((0:Int):Int):Rat) (((0:Int):Int):Rat) (((0:Int):Int):Rat)) (T3.mk (((2:Int):Int):Rat) (((2:Int):Int):Rat) (((2:Int):Int):Rat))) at O
 replace Z:=Rp.Is.le Z (Le.p (Le.s (Le.t (Le.q (l:=48) oM))) (Le.refl _));replace O:=(Le.p (Le.p (Le.t (Le.q (l:=60000) oM)) (Le.q (l:=60000) oM)) (Le.refl _)).rl O;refine go3 ?_;refine nA (ρ:=(rpP (tLs 1) (rpP rpV (rpS (rpP rpI (rpP rpI (rpQ 1))))))) (X:=([],((Value.slice none 0 0),[]))) jM (yF wJ (yF sR wJ)) λb5 fr bf=>?_;have am:=(Le.p (Le.s (Le.t (Le.q (l:=48) dC))) (Le.p (Le.refl _) (Le.s (Le.p (Le.refl _) (Le.p (Le.refl _) (Le.q (l:=6) dC)))))).R bf;refine zV (A:=[]) (uB sizeOf50 pH am Z) λaa M=>(go5 ?_);refine zW (A:=[_]) (ρ:=(tFc 60000 60000)) O ?_;intro h8 co an;replace M:=M.mono co;have ap:(tSd 48 60000 60000 6).R h8 aa (blP (T3.mk (((0:Int):Int):Rat) (((0:Int):Int):Rat) (((0:Int):Int):Rat)) (T3.mk (((2:Int):Int):Rat) (((2:Int):Int):Rat) (((2:Int):Int):Rat)),(blF (T3.mk (((0:Int):Int):Rat) (((0:Int):Int):Rat) (((0:Int):Int):Rat)) (T3.mk (((2:Int):Int):Rat) (((2:Int):Int):Rat) (((2:Int):Int):Rat)),[])):=zFS M an;have J:(tSd 48 60000 60000 6).R h8 aa (bkS (pI 0 0 0) (pI 2 2 2)):=Rp.castR ap zo0;refine lX (xB jH pH J) λei ch=>(cL (ev1 I) call25 (λw hs=>zNU hs ch dC (by first|omega|exact hsf.ok.1.1|exact hsf.ok.1.2|exact hsf.ok.2.1) (by first|omega|exact hsf.ok.1.1|exact hsf.ok.1.2|exact hsf.ok.2.1) (by first|omega|exact hsf.ok.1.1|exact hsf.ok.1.2|exact hsf.ok.2.1)) λeh h9 er cg=>?_);obtain⟨ae,rfl,C⟩:=cg
 change (tPt (50000*48+300000)).Is h9 ae (cnS (bkS (pI 0 0 0) (pI 2 2 2))) at C
 replace C:=Rp.Is.le C (Le.t (Le.q (l:=2700000) oM));refine go3 ?_;refine nA (ρ:=(tPt 1)) (X:=zT) yM (xE (yE dC)) λb7 fq be=>?_;have ak:=(Le.t (Le.q (l:=2700000) dC)).R be;refine zV (A:=[]) (uB sizeOf53 pH ak C) λct ao=>(go5 ?_);refine lX (xB jH pH J) λeg cf=>(cL (vs:=[_,vI (0)]) e2z call40 (λw hs=>zIO hs cf dC dC dC (by first|omega|exact hsf.ok.1.1|exact hsf.ok.1.2|exact hsf.ok.2.1|exact hsf.ok.2.2) (by first|omega|exact hsf.ok.1.1|exact hsf.ok.1.2|exact hsf.ok.2.1|exact hsf.ok.2.2) (by first|omega|exact hsf.ok.1.1|exact hsf.ok.1.2|exact hsf.ok.2.1|exact hsf.ok.2.2) (by first|omega|exact hsf.ok.1.1|exact hsf.ok.1.2|exact hsf.ok.2.1|exact hsf.ok.2.2) oM oM) λef cp dl ce=>?_);obtain⟨ad,rfl,U⟩:=ce
 change (rpP (rpQ 400000) (rpQ 400000)).Is cp ad (arS (bkS (pI 0 0 0) (pI 2 2 2)) (0:Int) (bkS (pI 0 0 0) (pI 2 2 2)).2.1.length) at U
 refine go3 ?_;refine nA (ρ:=(rpP (rpQ 1) (rpQ 1))) (X:=((0:Rat),(0:Rat))) fS (yF (yE dC) (yE dC)) λb9 fp bd=>?_;have aj:=(Le.p (Le.q (l:=400000) dC) (Le.q (l:=400000) dC)).R bd;refine zV (A:=[]) (uB sizeOf34 pH aj U) λcq H=>(go4 ?_);refine zK 54 _ [] (zai 0 4 ((4,.c)::(5,.c)::zai 6 4 ((10,.c)::(11,.c)::zai 12 9 ((21,.c)::(22,.q)::(23,.q)::(24,.q)::(25,.c)::(26,.c)::(27,.c)::zai 28 6 ((34,.c)::(35,.c)::zai 36 7 ((43,.c)::(44,.c)::zai 45 6 [(51,.c),(52,.q),(53,.q)])))))) yC nX (wV zot) nX (λr hr=>hr) (wK I (λ_ _=>OpV.tr (by exact zN2.1) (yY I)) I (go2 ?_));refine oX I (xB yI (y2i pH) ac) λee cd=>?_;refine w_c I (bH I I (sC (vs:=[vI (1)]) ⟨I,y1i⟩ call39 (λw hs=>qP hs dC dC) λed fo dk cc=>?_));refine w_c I (bH I I (sC (ev2 I I) call15 (λw hs=>qT hs cd.up cc dC) λaz fm dj cb=>?_));obtain rfl:az=.bool true:=by rw[show az=vB ((eP (((2:Int):Int):Rat) (1:Int))=(((1:Int):Int):Rat)) from cb,xR (by exact zN2.2.1)]
 refine go3 ?_;refine oX I (xB yI (y2u pH) ac) λec ca=>?_;refine w_c I (bH I I (sC (vs:=[vI (3),vI (2)]) e2z call10 (λw hs=>zCH hs dC dC dC dC) λeb fl di bz=>?_));refine w_c I (bH I I (sC (ev2 I I) call15 (λw hs=>qT hs ca.up bz dC) λay fk dh bx=>?_));obtain rfl:ay=.bool true:=by rw[show ay=vB ((eQ (((2:Int):Int):Rat) (1:Int))=(jS (3:Int) (2:Int))) from bx,xR (by exact zN2.2.2)]
 refine go2 ?_;refine yU I I I (λh' L' hh hR=>OpV.tr (by exact yAM.1) (yY I)) I (go3 ?_);refine oX I (xB yI (y2i pH) ab) λea bw=>(go1 ?_);refine oX I (xB yI (y2u pH) ab) λdz bv=>?_;refine w_c I (bH I I (sC (ev2 I I) call15 (λw hs=>qT hs bw bv dC) λax fj df bu=>?_));obtain rfl:ax=.bool true:=by rw[show ax=vB ((eP (jS (9:Int) (4:Int)) (1:Int))=(eQ (jS (9:Int) (4:Int)) (1:Int))) from bu,xR (by exact yAM.2)]
 refine go2 ?_;refine oX I (xB jH pH J) λdy bt=>?_;refine w_c I (bH I I (sC (ev1 I) call26 (λw hs=>zNS hs bt dC (by first|omega|exact hsf.ok.1.1|exact hsf.ok.1.2|exact hsf.ok.2.1) (by first|omega|exact hsf.ok.1.1|exact hsf.ok.1.2|exact hsf.ok.2.1) (by first|omega|exact hsf.ok.1.1|exact hsf.ok.1.2|exact hsf.ok.2.1)) λdx fi de aq=>?_));replace aq:=Rp.Is.le aq (Le.q (l:=1060004) oM);refine w_c I (bH I I (sC (vs:=[vI (8)]) ⟨I,y1i⟩ call39 (λw hs=>qP hs dC dC) λdw fh dd bs=>?_));refine w_c I (bH I I (sC (ev2 I I) call15 (λw hs=>qT hs aq.up bs dC) λaw fg dc br=>?_));obtain rfl:aw=.bool true:=by rw[show aw=vB ((zCS (bkS (pI 0 0 0) (pI 2 2 2))/((6:Int):Rat))=(((8:Int):Int):Rat)) from br,xR (by exact hsf.vol)]
 refine go2 ?_;refine yU I I I (λh' L' hh hR=>OpV.tr (by exact hsf.cen.2) (yY I)) I (go2 ?_);refine oX I (xB zO pH ao) λdv bq=>?_;refine w_c I (bH I I (sC (vs:=[vI (1),vI (1),vI (1)]) e3z call45 (λw hs=>fR hs dC dC dC dC dC dC) λdu ff db bp=>?_));refine w_c I (bH I I (sC (ev2 I I) call27 (λw hs=>zBP hs bq.up bp dC) λav fe da bo=>?_));obtain rfl:av=.bool true:=by rw[show av=vB ((cnS (bkS (pI 0 0 0) (pI 2 2 2)))=(T3.mk (((1:Int):Int):Rat) (((1:Int):Int):Rat) (((1:Int):Int):Rat))) from bo,xR (by exact hsf.cen.1)]
 refine go2 ?_;refine yU I I I (λh' L' hh hR=>OpV.tr (by trivial) (yY I)) I (go3 ?_);refine oX I (xB yI (y2i pH) H) λdt bn=>?_;refine w_c I (bH I I (sC (vs:=[vI (24)]) ⟨I,y1i⟩ call39 (λw hs=>qP hs dC dC) λdr fd cz bm=>?_));refine w_c I (bH I I (sC (ev2 I I) call15 (λw hs=>qT hs bn.up bm dC) λau fc cy bl=>?_));obtain rfl:au=.bool true:=by rw[show au=vB (((arS (bkS (pI 0 0 0) (pI 2 2 2)) (0:Int) (bkS (pI 0 0 0) (pI 2 2 2)).2.1.length).1)=(((24:Int):Int):Rat)) from bl,xR (by exact zbi Prod.fst hsf.area)]
 refine go3 ?_;refine oX I (xB yI (y2u pH) H) λdq bk=>(go1 ?_);refine oX I (xB yI (y2i pH) H) λdp bj=>?_;refine w_c I (bH I I (sC (ev2 I I) call15 (λw hs=>qT hs bk bj dC) λar fb cw bi=>?_));obtain rfl:ar=.bool true:=by rw[show ar=vB (((arS (bkS (pI 0 0 0) (pI 2 2 2)) (0:Int) (bkS (pI 0 0 0) (pI 2 2 2)).2.1.length).2)=((arS (bkS (pI 0 0 0) (pI 2 2 2)) (0:Int) (bkS (pI 0 0 0) (pI 2 2 2)).2.1.length).1)) from bi,xR (by rw[hsf.area])]
 refine go5 ?_;refine zD I I ?_
 rfl
end Go.Proofs.YtboaboflnckgoaaGreat
namespace Bk
open Classical
variable {a b:Pt}
def zCT(a b:Pt)(f:Nat):Rat:=if f<2 then(b.y-a.y)*(b.z-a.z) else if f<4 then(b.z-a.z)*(b.x-a.x) else(b.x-a.x)*(b.y-a.y)
theorem six{f:Nat}(h:f<6):f=0\/f=1\/f=2\/f=3\/f=4\/f=5:=by omega
theorem zXF{f:Nat}(h:f<6):vZ (arV (bxS a b) ((fB3 a b).getD f zA)) (arV (bxS a b) ((fB3 a b).getD f zA))=zCT a b f*zCT a b f:=by
 have g:∀(i j k l:Nat) (c:Fc),i<8->j<8->k<8->l<8->c.2.1=[[(i:Int),(j:Int),(k:Int),(l:Int)]]->arV (bxS a b) c=scT (1/2) (j7 [T3.mk (cC a b i) (cC a b j) (cC a b k),T3.mk (cC a b i) (cC a b k) (cC a b l)]):=λi j k l c hi G D C e=>by
  unfold arV;rw[e];exact zbi (λz=>scT (1/2) (j7 z)) (u4 i j k l hi G D C)
 rcases six h with rfl|rfl|rfl|rfl|rfl|rfl
 · rw[g 0 1 3 2 _ zov zov zov zov I]
   simp only[j7,List.foldl,vZ,uC,kT,rD,scT,cC,cU,cB,uB1,zxu,z0i,if_true,z4e,if_false,zT,zCT];generalize a.x=p;generalize a.y=q;generalize a.z=r;generalize b.x=u;generalize b.y=v;generalize b.z=w;grind
 · rw[g 4 6 7 5 _ zov zov zov zov I]
   simp only[j7,List.foldl,vZ,uC,kT,rD,scT,cC,cU,cB,uB1,zxu,z0i,if_true,z4e,if_false,zT,zCT];generalize a.x=p;generalize a.y=q;generalize a.z=r;generalize b.x=u;generalize b.y=v;generalize b.z=w;grind
 · rw[g 0 4 5 1 _ zov zov zov zov I]
   simp only[j7,List.foldl,vZ,uC,kT,rD,scT,cC,cU,cB,uB1,zxu,z0i,if_true,z4e,if_false,zT,zCT];generalize a.x=p;generalize a.y=q;generalize a.z=r;generalize b.x=u;generalize b.y=v;generalize b.z=w;grind
 · rw[g 2 3 7 6 _ zov zov zov zov I]
   simp only[j7,List.foldl,vZ,uC,kT,rD,scT,cC,cU,cB,uB1,zxu,z0i,if_true,z4e,if_false,zT,zCT];generalize a.x=p;generalize a.y=q;generalize a.z=r;generalize b.x=u;generalize b.y=v;generalize b.z=w;grind
 · rw[g 0 2 6 4 _ zov zov zov zov I]
   simp only[j7,List.foldl,vZ,uC,kT,rD,scT,cC,cU,cB,uB1,zxu,z0i,if_true,z4e,if_false,zT,zCT];generalize a.x=p;generalize a.y=q;generalize a.z=r;generalize b.x=u;generalize b.y=v;generalize b.z=w;grind
 · rw[g 1 5 7 3 _ zov zov zov zov I]
   simp only[j7,List.foldl,vZ,uC,kT,rD,scT,cC,cU,cB,uB1,zxu,z0i,if_true,z4e,if_false,zT,zCT];generalize a.x=p;generalize a.y=q;generalize a.z=r;generalize b.x=u;generalize b.y=v;generalize b.z=w;grind
theorem zLB{f:Nat}(h:f<6):∃i j k l:Nat,i<8/\j<8/\k<8/\l<8/\((fB3 a b).getD f zA).2.1=[[(i:Int),(j:Int),(k:Int),(l:Int)]]:=by
 rcases six h with rfl|rfl|rfl|rfl|rfl|rfl
 · exact⟨0,1,3,2,by decide,by decide,by decide,by decide,I⟩
 · exact⟨4,6,7,5,by decide,by decide,by decide,by decide,I⟩
 · exact⟨0,4,5,1,by decide,by decide,by decide,by decide,I⟩
 · exact⟨2,3,7,6,by decide,by decide,by decide,by decide,I⟩
 · exact⟨0,2,6,4,by decide,by decide,by decide,by decide,I⟩
 · exact⟨1,5,7,3,by decide,by decide,by decide,by decide,I⟩
theorem yAT{i j k l:Nat}(hi:i<8)(hj:j<8)(hk:k<8)(hl:l<8){u v:Nat}(hu:u<1)(hv:v<4):0<=(([[(i:Int),(j:Int),(k:Int),(l:Int)]]:List (List Int)).getD u []).getD v 0/\(([[(i:Int),(j:Int),(k:Int),(l:Int)]]:List (List Int)).getD u []).getD v 0<((8:Nat):Int):=by
 have h0:u=0:=by omega
 subst h0;have:v=0\/v=1\/v=2\/v=3:=by omega
 rcases this with rfl|rfl|rfl|rfl
 · show 0<=(i:Int)/\(i:Int)<((8:Nat):Int);omega
 · show 0<=(j:Int)/\(j:Int)<((8:Nat):Int);omega
 · show 0<=(k:Int)/\(k:Int)<((8:Nat):Int);omega
 · show 0<=(l:Int)/\(l:Int)<((8:Nat):Int);omega
theorem yF8(h:∀f,f<6->lq (zCT a b f*zCT a b f)<=200):yF9 (bxS a b):=by
 refine⟨⟨λf D l O m Z=>?_,λf D=>?_⟩,⟨λf D=>⟨λu v G U=>?_,λu G=>?_,?_⟩,?_,?_⟩,λf D=>?_⟩
 · have C:f<6:=D
   obtain⟨i,j,k,q,hi,M,J,H,e⟩:=zLB (a:=a) (b:=b) C
   change l<((fB3 a b).getD f zA).2.1.length at O
   change m<(((fB3 a b).getD f zA).2.1.getD l []).length at Z
   show 0<=(((fB3 a b).getD f zA).2.1.getD l []).getD m 0/\(((fB3 a b).getD f zA).2.1.getD l []).getD m 0<_
   rw[e] at O Z ⊢;have h0:l=0:=by have:l<1:=O;omega
   subst h0;exact yAT hi M J H zov Z
 · have C:f<6:=D
   obtain⟨i,j,k,q,hi,M,J,H,e⟩:=zLB (a:=a) (b:=b) C
   show((fB3 a b).getD f zA).2.1.length<=10000/\∀l,l<((fB3 a b).getD f zA).2.1.length->(((fB3 a b).getD f zA).2.1.getD l []).length<=10000
   rw[e];refine⟨show 1<=10000 by decide,λl O=>?_⟩;have h0:l=0:=by have:l<1:=O;omega
   subst h0
   show 4<=10000
   decide
 · have C:f<6:=D
   obtain⟨i,j,k,q,hi,M,J,H,e⟩:=zLB (a:=a) (b:=b) C
   change u<((fB3 a b).getD f zA).2.1.length at G
   change v<(((fB3 a b).getD f zA).2.1.getD u []).length at U
   show 0<=(((fB3 a b).getD f zA).2.1.getD u []).getD v 0/\(((fB3 a b).getD f zA).2.1.getD u []).getD v 0<_
   rw[e] at G U ⊢;have h0:u=0:=by have:u<1:=G;omega
   subst h0;exact yAT hi M J H zov U
 · have C:f<6:=D
   obtain⟨i,j,k,q,hi,M,J,H,e⟩:=zLB (a:=a) (b:=b) C
   change u<((fB3 a b).getD f zA).2.1.length at G
   show(((fB3 a b).getD f zA).2.1.getD u []).length<=1000
   rw[e] at G ⊢;have h0:u=0:=by have:u<1:=G;omega
   subst h0
   show 4<=1000
   decide
 · have C:f<6:=D
   obtain⟨i,j,k,q,hi,M,J,H,e⟩:=zLB (a:=a) (b:=b) C
   show((fB3 a b).getD f zA).2.1.length<=1000
   rw[e]
   show 1<=1000
   decide
 · show 6<=1000
   decide
 · show(bF (bxS a b) (fB3 a b) 6).length<=1000
   rw[zO0]
   show 12<=1000
   decide
 · show lq (vZ (arV (bxS a b) ((fB3 a b).getD f zA)) (arV (bxS a b) ((fB3 a b).getD f zA)))<=200
   rw[zXF D];exact h f D
theorem yGT(h:a.x<b.x/\a.y<b.y/\a.z<b.z):cnO (bxS a b)/\cnS (bxS a b)=scT (1/2) (rD a b):=by
 have G:0<(b.x-a.x)*(b.y-a.y)*(b.z-a.z):=tM (tM zo2 zo2) zo2;have H:((4:Int):Rat)=4:=I;have h1:((1:Int):Rat)=1:=I;have C:((4:Int):Rat)*zCS (bxS a b)=24*((b.x-a.x)*(b.y-a.y)*(b.z-a.z)):=by rw[zSV,H];grind
 have D:cnO (bxS a b):=by unfold cnO;rw[C];grind
 refine⟨D,?_⟩;unfold cnS;rw[zae D,C,yEW,h1];generalize (b.x-a.x)*(b.y-a.y)*(b.z-a.z)=V at G;unfold scT rD;rw[oE];refine⟨?_,?_,?_⟩<;>simp only<;>grind
theorem yGB{n:Int}(h:n=0){q:Rat}(hq:q=4*4):eP q n=4/\eQ q n=4:=by
 subst h;subst hq;have h0:¬(4*4:Rat)<0:=by decide +kernel
 have H:¬((yW (4*4:Rat)<0\/(0:Int)<0)\/64<(0:Int)):=λe=>by
  rcases e with(e|e)|e
  · exact h0 (qW.1 e)
  · omega
  · omega
 obtain⟨G,D,Z,U⟩:=zEQ H;have O:flN (4*4:Rat) (kN 0)=16:=by decide +kernel
 have M:sqN 16=4:=zMJ zov zov;have J:kN 0=0:=by decide
 have C:gS (4*4:Rat) 0=4:=by
  unfold gS;rw[O,M,J];unfold ovQ
  decide +kernel
 rw[G,D,<-zTU h0 (by rw[C]),C];exact⟨I,I⟩
theorem zTO:SaneF:=by
 have hI:∀n:Int,(pI 0 0 0).x=((0:Int):Rat)/\(pI 2 2 2).x=((2:Int):Rat):=λ_=>⟨I,I⟩;have hlt:(pI 0 0 0).x<(pI 2 2 2).x/\(pI 0 0 0).y<(pI 2 2 2).y/\(pI 0 0 0).z<(pI 2 2 2).z:=by
  have:((0:Int):Rat)<((2:Int):Rat):=by decide +kernel
  exact⟨this,this,this⟩
 have hbl:oQ (pI 0 0 0) (pI 2 2 2):=by
  have g:¬0<=wQ ((0:Int):Rat) ((2:Int):Rat):=by rw[u5];decide +kernel
  intro u hu;have:u=0\/u=1\/u=2:=by omega
  rcases this with rfl|rfl|rfl<;>exact g
 have hb:=zQR hbl;have h4:∀f,zCT (pI 0 0 0) (pI 2 2 2) f=4:=λf=>by
  have:(((2:Int):Rat)-((0:Int):Rat))*(((2:Int):Rat)-((0:Int):Rat))=4:=by decide +kernel
  unfold zCT
  split
  · exact this
  · split
    · exact this
    · exact this
 refine⟨λ_=>zW4 hbl,?_,?_,?_,?_⟩
 · rw[hb]
   refine yF8 λf hf=>?_;rw[h4 f];have h1:(4*4:Rat)=((16:Int):Rat):=by decide +kernel
   have:=mO 16 zov zov;rw[h1];omega
 · rw[hb,zSV]
   show 6*((((2:Int):Rat)-((0:Int):Rat))*(((2:Int):Rat)-((0:Int):Rat))*(((2:Int):Rat)-((0:Int):Rat)))/((6:Int):Rat)=((8:Int):Rat)
   decide +kernel
 · rw[hb]
   obtain⟨h1,h2⟩:=yGT hlt;refine⟨?_,h1⟩;rw[h2];have:1/2*(((0:Int):Rat)+((2:Int):Rat))=((1:Int):Rat):=by decide +kernel
   unfold scT rD pI;rw[oE];exact⟨this,this,this⟩
 · rw[hb]
   have hr:∀f,f<6->eP (vZ (arV (bxS (pI 0 0 0) (pI 2 2 2)) ((fB3 (pI 0 0 0) (pI 2 2 2)).getD f zA)) (arV (bxS (pI 0 0 0) (pI 2 2 2)) ((fB3 (pI 0 0 0) (pI 2 2 2)).getD f zA))) 0=4/\eQ (vZ (arV (bxS (pI 0 0 0) (pI 2 2 2)) ((fB3 (pI 0 0 0) (pI 2 2 2)).getD f zA)) (arV (bxS (pI 0 0 0) (pI 2 2 2)) ((fB3 (pI 0 0 0) (pI 2 2 2)).getD f zA))) 0=4:=λf hf=>yGB I (by rw[zXF hf,h4 f]);have hs:∀i:Nat,i<=6->arS (bxS (pI 0 0 0) (pI 2 2 2)) 0 i=((i:Rat)*4,(i:Rat)*4):=by
    intro i
    induction i with
    |zero=>intro _;unfold arS;refine Prod.ext ?_ ?_<;>(show(0:Rat)=((0:Nat):Rat)*4;decide +kernel)
    |succ i ih=>
     intro hi;obtain⟨r1,r2⟩:=hr i zos;have e:=ih zos;have ec:((i+1:Nat):Rat)=(i:Rat)+1:=by rw[yti];rfl
     unfold arS;rw[e];refine Prod.ext ?_ ?_
     · show(i:Rat)*4+eP (vZ (arV (bxS (pI 0 0 0) (pI 2 2 2)) ((fB3 (pI 0 0 0) (pI 2 2 2)).getD i zA)) (arV (bxS (pI 0 0 0) (pI 2 2 2)) ((fB3 (pI 0 0 0) (pI 2 2 2)).getD i zA))) 0=_
       rw[r1,ec];grind
     · show(i:Rat)*4+eQ (vZ (arV (bxS (pI 0 0 0) (pI 2 2 2)) ((fB3 (pI 0 0 0) (pI 2 2 2)).getD i zA)) (arV (bxS (pI 0 0 0) (pI 2 2 2)) ((fB3 (pI 0 0 0) (pI 2 2 2)).getD i zA))) 0=_
       rw[r2,ec];grind
   show arS (bxS (pI 0 0 0) (pI 2 2 2)) 0 6=_
   rw[hs 6 zov];refine Prod.ext ?_ ?_<;>(show((6:Nat):Rat)*4=((24:Int):Rat);decide +kernel)
def bxC(c:SI->Bool):Bool:=(List.range 2).all λp=>(List.range 2).all λq=>(List.range 2).all λr=>c (bxJ (1+p:Nat) (1+q:Nat) (1+r:Nat))
def baC(c:SI->Bool):Bool:=baT.all λT=>c (nrI (prI T 1))&&c (nrI (prI T 2))
def trC(c:SI->Bool):Bool:=(List.range 3).all λa=>(List.range 2).all λb=>(List.range 2).all λk=>c (nrI (prI (trT a b k) 1))&&c (nrI (prI (trT a b k) 2))
def teC(c:SI->Bool):Bool:=(List.range 3).all λp=>(List.range 2).all λk=>(List.range 3).all λq=>(List.range 3).all λe=>(List.range 3).all λf=>(List.range 3).all λg=>c (nrI (teI p k q e f g))
theorem yBR{c:SI->Bool}(h:teC c=true){p k q e f g:Nat}(hp:p<3)(hk:k<2)(hq:q<3)(he:e<3)(hf:f<3)(hg:g<3):c (nrI (teI p k q e f g))=true:=
 zob.1 (zob.1 (zob.1 (zob.1 (zob.1 (zob.1 h p (zog.2 hp)) k (zog.2 hk)) q (zog.2 hq)) e (zog.2 he)) f (zog.2 hf)) g (zog.2 hg)
theorem zZU{c:SI->Bool}(hb:bxC c=true)(ha:baC c=true)(hr:trC c=true)(ht:teC c=true){I:SI}(h:yEM I):c I=true:=by
 rcases h with⟨p,q,r,⟨hp,hq,hr⟩,rfl⟩|⟨T,h,hT,hh,rfl⟩|⟨p,k,q,e,f,g,⟨hp,hk,hq⟩,⟨he,hf,hg⟩,rfl⟩
 · exact zob.1 (zob.1 (zob.1 hb p (zog.2 hp)) q (zog.2 hq)) r (zog.2 hr)
 · rcases hT with hT|⟨a,b,k,⟨ha',hb',hk⟩,rfl⟩
   · have h1:=zob.1 ha T hT
     rw[zbu] at h1
     rcases hh with rfl|rfl
     · exact h1.1
     · exact h1.2
   · have h1:=zob.1 (zob.1 (zob.1 hr a (zog.2 ha')) b (zog.2 hb')) k (zog.2 hk)
     rw[zbu] at h1
     rcases hh with rfl|rfl
     · exact h1.1
     · exact h1.2
 · exact yBR ht hp hk hq he hf hg
abbrev TI:=I3×I3×I3
def ad3(u w:I3):I3:=(u.1+w.1,u.2.1+w.2.1,u.2.2+w.2.2)
def fnI(P:List I3)(l:List Int)(q:Nat):TI:=(g3 P (l.getD 0 0).toNat,g3 P (l.getD (q+1) 0).toNat,g3 P (l.getD (q+2) 0).toNat)
def faI(P:List I3)(ls:List (List Int)):List TI:=jY (λi=>uD (fnI P (ls.getD i [])) ((ls.getD i []).length-2)) ls.length
def suI(T:List TI):I3:=T.foldl (λa t=>ad3 a (th3 t.1 t.2.1 t.2.2)) z3
def cT3(v:I3)(t:TI):Tri:=T3.mk (cP v t.1) (cP v t.2.1) (cP v t.2.2)
theorem zG7{α β:Type}(g:Nat->α)(p:α->β):∀k,(uD g k).map p=uD (λm=>p (g m)) k
  |0=>rfl
  |k+1=>by
   show(uD g k++[g k]).map p=uD (λm=>p (g m)) k++[p (g k)]
   rw[z1u,zG7 g p k];rfl
theorem zEV{α β:Type}(g:Nat->List α)(p:α->β):∀k,(jY g k).map p=jY (λm=>(g m).map p) k
  |0=>rfl
  |k+1=>by
   show(jY g k++g k).map p=jY (λm=>(g m).map p) k++(g k).map p
   rw[z1u,zEV g p k]
theorem zHG{α:Type}{g h:Nat->List α}:∀k,(∀m,m<k->g m=h m)->jY g k=jY h k
  |0,_=>rfl
  |k+1,e=>by
   show jY g k++g k=jY h k++h k
   rw[zHG k λm hm=>e m zos,e k zos]
theorem zZ1(v a b c:I3):uC (kT (cP v b) (cP v a)) (kT (cP v c) (cP v a))=nr3 (th3 a b c):=by
 unfold uC kT cP nr3 th3 cx3 sb3;simp only[zpe,z7i,zsu]
 congr 1<;>grind
theorem zL7(a b:I3):rD (nr3 a) (nr3 b)=nr3 (ad3 a b):=by
 unfold rD nr3 ad3;simp only[zpe]
theorem zO4(v:I3):∀(T:List TI) (a:I3),(T.map (cT3 v)).foldl (λa t=>rD a (uC (kT t.y t.x) (kT t.z t.x))) (nr3 a)=nr3 (T.foldl (λa t=>ad3 a (th3 t.1 t.2.1 t.2.2)) a)
  |[],a=>rfl
  |t::T,a=>by
   rw[zxe,zxi,zxi,<-zO4 v T]
   congr 1
   show rD (nr3 a) (uC (kT (cP v t.2.1) (cP v t.1)) (kT (cP v t.2.2) (cP v t.1)))=_
   rw[zZ1,zL7]
theorem yF7:nr3 z3=zT:=rfl
def vcI(I:SI)(f:Nat):I3:=suI (faI I.1 (I.2.getD f fi0).2.2.1)
def svI(I:SI):Nat->I3
  |0=>z3
  |n+1=>ad3 (svI I n) (vcI I n)
def zSO(I:SI):Bool:=(List.range I.2.length).all (λf=>decide (cx3 (vcI I f) (I.2.getD f fi0).1=z3)&&decide (0<dt3 (vcI I f) (I.2.getD f fi0).1)&&bd3 (vcI I f)&&bd3 (svI I f)&&decide ((faI I.1 (I.2.getD f fi0).2.2.1).length<=1000))&&decide (svI I I.2.length=z3)
def avS(s:Sd):Nat->Pt
  |0=>zT
  |n+1=>rD (avS s n) (arV s (s.2.1.getD n zA))
theorem yF0{h:Mem}{v:Go.Value}{a:Pt}{k l:Nat}(r:(rpT (rpQ k)).Is h v a)(hl:lqP l a):(rpT (rpQ l)).Is h v a:=by
 obtain⟨cs,r,e⟩:=r;exact⟨cs,zRF r I hl,e⟩
theorem zYC(u:I3):scT (1/2) (nr3 u)=T3.mk (1/((2:Int):Rat)*(u.1:Rat)) (1/((2:Int):Rat)*(u.2.1:Rat)) (1/((2:Int):Rat)*(u.2.2:Rat)):=rfl
theorem zVR{u:I3}(h:bd3 u=true):lqP 2 (scT (1/2) (nr3 u)):=by
 have h:=zJG.1 h;unfold bdV at h;rw[zYC];exact⟨mP zov zos zos,mP zov zos zos,mP zov zos zos⟩
theorem yFX:scT (1/2) (nr3 z3)=zT:=by
 rw[yF7];unfold scT;rw[oE];exact⟨yue _,yue _,yue _⟩
theorem yCY(q:Rat)(a b:Pt):rD (scT q a) (scT q b)=scT q (rD a b):=by
 unfold rD scT
 congr 1<;>grind
section
variable {v:I3}{I:SI}{s:Sd}(h:aB v I s)(hb:chI I=true)
include h hb
theorem zQB{f:Nat}(hf:f<I.2.length):kZ s (s.2.1.getD f zA).2.1 (s.2.1.getD f zA).2.1.length=(faI I.1 (I.2.getD f fi0).2.2.1).map (cT3 v):=by
 have e:(s.2.1.getD f zA).2.1=(I.2.getD f fi0).2.2.1:=zbi Prod.fst (h.2.2.2 f hf).2;have C:=(zIY h hb hf).1;unfold kZ faI;rw[zEV,e];refine zHG _ λi hi=>?_;rw[zG7];refine aS _ λq H=>?_;have C:=C i (by rw[e];exact hi);rw[e] at C;have g:∀k,k<((I.2.getD f fi0).2.2.1.getD i []).length->pnA s (((I.2.getD f fi0).2.2.1.getD i []).getD k 0)=cP v (g3 I.1 (((I.2.getD f fi0).2.2.1.getD i []).getD k 0).toNat):=λk G=>by
  have D:=C k G;rw[mL h] at D;unfold pnA;rw[h.1];exact zE5 zos
 unfold yGM cT3 fnI;rw[g 0 zos,g (q+1) zos,g (q+2) zos]
theorem zJH{f:Nat}(hf:f<I.2.length):arV s (s.2.1.getD f zA)=scT (1/2) (nr3 (vcI I f)):=by
 unfold arV;rw[zQB h hb hf];exact zbi _ (zO4 v _ z3)
theorem zOZ:∀n,n<=I.2.length->avS s n=scT (1/2) (nr3 (svI I n))
  |0,_=>by
   exact yFX.symm
  |n+1,hn=>by
   show rD (avS s n) (arV s (s.2.1.getD n zA))=_
   rw[zOZ n zos,zJH h hb zos,yCY,zL7];rfl
theorem zZ5(hc:zSO I=true):(∀f,f<s.2.1.length->((zOM s (s.2.1.getD f zA)/\0<(s.2.1.getD f zA).2.1.length)/\(kZ s (s.2.1.getD f zA).2.1 (s.2.1.getD f zA).2.1.length).length<=1000)/\(lqP 2 (arV s (s.2.1.getD f zA))/\lqP 2 (avS s f))/\uC (arV s (s.2.1.getD f zA)) (s.2.1.getD f zA).1.1=zT/\0<vZ (arV s (s.2.1.getD f zA)) (s.2.1.getD f zA).1.1)/\avS s s.2.1.length=zT:=by
 unfold zSO at hc;rw[zbu,zhi] at hc;have U:=h.2.2.1;refine⟨λf C=>?_,by rw[U,zOZ h hb _ (zbe _),hc.2];exact yFX⟩;rw[U] at C;have h1:=zob.1 hc.1 f (zog.2 C);rw[zbu,zbu,zbu,zbu,zhi,zhi,zhi] at h1;obtain⟨⟨⟨⟨h1,h2⟩,h3⟩,h4⟩,h5⟩:=h1;obtain⟨r,hr,O⟩:=zK8 (h.2.2.2 f C);obtain⟨hn,J⟩:=zIY h hb C;have Z:(s.2.1.getD f zA).1.1=scT r (nr3 (I.2.getD f fi0).1):=by rw[O];rfl
 refine⟨⟨⟨⟨λu w M hw=>hn u M w hw,λu M=>?_,?_⟩,J.1.1⟩,by rw[zQB h hb C,zde];exact h5⟩,⟨by rw[zJH h hb C];exact zVR h3,by rw[zOZ h hb f zos];exact zVR h4⟩,?_,?_⟩
 · have:=(J.2 u M).1.2;omega
 · have:=J.1.2;omega
 · rw[zJH h hb C,Z]
   have H:=zbi Prod.fst h1;have G:=zbi (λz:I3=>z.2.1) h1;have D:=zbi (λz:I3=>z.2.2) h1;generalize vcI I f=a at H G D ⊢;generalize (I.2.getD f fi0).1=n at H G D ⊢;have c:=λx y z w:Int=>(show((x*y-z*w:Int):Rat)=(x:Rat)*(y:Rat)-(z:Rat)*(w:Rat) by rw[z7i,zsu,zsu]);have H:=zbi (λz:Int=>(z:Rat)) H;have G:=zbi (λz:Int=>(z:Rat)) G;have D:=zbi (λz:Int=>(z:Rat)) D;unfold cx3 at H G D;simp only[c] at H G D;have e0:((0:Int):Rat)=0:=rfl;rw[e0] at H G D;unfold uC scT nr3;rw[oE];exact⟨by show _=(0:Rat);grind,by show _=(0:Rat);grind,by show _=(0:Rat);grind⟩
 · rw[zJH h hb C,Z]
   generalize vcI I f=a at h2 ⊢;generalize (I.2.getD f fi0).1=n at h2 ⊢;have e:vZ (scT (1/2) (nr3 a)) (scT r (nr3 n))=(1/2*r)*((dt3 a n:Int):Rat):=by
    unfold vZ scT nr3 dt3;simp only[zpe,zsu];grind
   rw[e];exact tM (tM (by decide +kernel) hr) (yni.2 h2)
end
theorem yE9:bxC zSO=true:=by decide +kernel
theorem yFA:baC zSO=true:=by decide +kernel
theorem yE7:trC zSO=true:=by decide +kernel
theorem yE8:teC zSO=true:=by decide +kernel
theorem zQS{s:Sd}(h:zH0 s):(∀f,f<s.2.1.length->((zOM s (s.2.1.getD f zA)/\0<(s.2.1.getD f zA).2.1.length)/\(kZ s (s.2.1.getD f zA).2.1 (s.2.1.getD f zA).2.1.length).length<=1000)/\(lqP 2 (arV s (s.2.1.getD f zA))/\lqP 2 (avS s f))/\uC (arV s (s.2.1.getD f zA)) (s.2.1.getD f zA).1.1=zT/\0<vZ (arV s (s.2.1.getD f zA)) (s.2.1.getD f zA).1.1)/\avS s s.2.1.length=zT:=by
 obtain⟨v,I,C,G,D⟩:=h;exact zZ5 D (zOO C) (zZU yE9 yFA yE7 yE8 C)
theorem yFB{s:Sd}(h:zH0 s){f:Nat}(hf:f<=s.2.1.length):lqP 2 (avS s f):=by
 have hb:=zQS h
 rcases ztu f s.2.1.length with h1|h1
 · exact(hb.1 f h1).2.1.2
 · rw[show f=s.2.1.length by omega,hb.2]
   exact zEX zov
end Bk
namespace Go.Proofs.YtboaboflnckgoaaGreat
open Bk Go Tryz
attribute [local irreducible] GL GC GQ W OpV
set_option maxHeartbeats 1000000 in
theorem zAR{w0:World}{h0:Mem}(hs:MLe h0 (mem w0)){vl:Value}{xsl:List Int}(hl:Is h0 vl xsl):
 Calls prog 7 #[vl] w0 (Ret w0 h0 (λ_ r=>r=.bool true)):=by
 have cg:=hl.lt63;have ap:SaneF:=zTO;refine cb1 59 vl func7 hs ?_;refine go9 ?_;refine cL (ev1 I) call19 (λw hs=>zN7 hs hl) λv9 h1 eg ce=>?_;subst ce;refine gc3 (λaw=>?_) λaw=>?_
 ·
  refine go2 ?_;refine cL (vs:=[]) trivial call8 (λw hs=>zE2 hs ap) λdw h2 ck au=>?_;subst au;refine go5 ?_;refine zD I I ?_
  rfl
 refine go5 ?_;refine uU (vs:=[_]) I I I I call20 ⟨I,y1i⟩ (λw hs=>zR1 hs hl.up) ?_;intro dv h2 em ck ar;obtain⟨co,rfl,rfl⟩:=ar;refine go6 ?_;refine yX (A:=[]) (vs:=[_]) call21 ⟨I,y1i⟩ (λX w hs=>zIQ hl.up zoy hs) I ?_;intro du ay dy ct aa;obtain⟨cb,C,rfl,cq,Z,aa⟩:=aa;have cd:=zC3 Z;have ax:=zQS Z;have ea:=cd.1.2.1.1;refine nA (ρ:=(tSd 1 1 1 1)) (X:=([],([],[]))) jM (yF wJ (yF wJ wJ)) λb4 el bf=>?_;have an:=(Le.p (Le.s (Le.t (Le.q (l:=2) dC))) (Le.p (Le.s (Le.p (Le.p (Le.t (Le.q (l:=2) dC)) (Le.q (l:=2) dC)) (Le.refl _))) (Le.refl _))).R bf;refine zV (A:=[]) (uB sizeOf50 pH an aa) λba G=>(go4 ?_);refine lX (xV (ρ:=(tPt 1)) (wL (ps':=[]) underlying53 yM I I sizeOf26 trivial I (xE (yE dC)) zN)) λdt ca=>(nA (ρ:=(tPt 2)) (X:=zT) yM (xE (yE dC)) λb5 ek be=>(zV (A:=[]) (uB sizeOf53 pH be (ca.le (Le.t (Le.q (l:=2) dC)))) λaz ao=>(go6 ?_)));refine lX (xB gK (y2u (y2i pH)) G) λdr dx=>(go5 ?_);refine gcL (ι:=Nat×List Value×Nat×Mem) (λ(i,ab,H,ma)=>(MLe ay ma/\((tPt 2).R ma ab (avS C i)/\H<=xsl.length/\i<=C.2.1.length),[(4,vP b4 0),(5,vP b5 0),(19,vI (↑(C.2.1).length:Int)),(20,vI ↑i)],[.var b5 53 ab,.var b4 50 ba,.var co 97 [vl,vI ↑H]],ma,C.2.1.length-i)) (0,az,cb,ay) ?_ ?_
 · exact⟨mle,ao,oM,oM⟩
 rintro⟨i,ab,H,ma⟩ ⟨cp,O,ch,eb⟩
 refine yQ ?_;refine gc6 (λav=>?_) λav=>?_
 ·
  obtain⟨⟨⟨M,eh⟩,J⟩,⟨cf,dz⟩,cm,cl⟩:=ax.1 i oM;refine uV ?_;refine lX (xB jH pH G) λdq bz=>(go1 ?_);refine cL (ev2 I I) call41 (λw hs=>zF2 (f:=i) hs bz (by first|omega|exact M|exact J) (by first|omega|exact M|exact J) (by first|omega|exact M|exact J) (by first|omega|exact M|exact J) dC (by first|omega|exact M|exact J) (by first|omega|exact M|exact J)) λbc h3 cj U=>?_;replace U:=Rp.Is.le U (Le.t (Le.q (l:=140010) oM));replace U:(tPt 2).Is h3 bc (arV C (C.2.1.getD i zA)):=(yF0 U cf);refine nA (ρ:=(tPt 2)) (X:=zT) yM (xE (yE dC)) λb7 ej bd=>(zV (A:=[]) (uB sizeOf53 pH bd U) λcn D=>(go4 ?_));refine lX (xB zO pH O) λdp bx=>(lX (xB zO pH D) λdn bw=>(cL (ev2 I I) call34 (λw hs=>zUW hs bx bw dC) λdm h4 ci ai=>?_));replace ai:=Rp.Is.le ai (Le.t (Le.q (l:=5) oM));have ac:=(Le.t (Le.q (l:=5) dC)).R O;refine zV (A:=[_]) (uB sizeOf53 pH ac ai) λaj ad=>(go3 ?_);refine zK 24 _ [] (zai 0 8 ((8,.c)::(9,.c)::zai 10 10 [(20,.c),(21,.c),(22,.q),(23,.q)])) yC nX (wV zot) nX (λr hr=>hr) (wX I (xB zO pH D) λdl bv=>(go1 ?_));refine wX I (xB gK (y2u (y2i pH)) G) λdk bu=>(go1 ?_);refine wX I (xI zA i underlying47 fD bu) λdj bt=>(wX I (xF underlying83 sizeOf80 (y2i pH) bt) λdi bs=>(wX I (xF underlying80 sizeOf53 (y2i pH) bs) λdh br=>(wX I (xA zO br) λdf bq=>?_)));refine w_c I (sC (ev2 I I) call43 (λw hs=>y8 hs bv bq dC) λde h5 ef ah=>?_);replace ah:=Rp.Is.le ah (Le.t (Le.q (l:=11) oM));refine w_c I (sC (ev1 I) call42 (λw hs=>nH hs ah dC) λam h6 ee bp=>?_);obtain rfl:am=.bool true:=by rw[show am=vB ((uC (arV C (C.2.1.getD i zA)) (((C.2.1.getD i zA).1).1))=zT) from bp,xR (by exact cm)]
  refine wK I (λ_ _=>zKF I) I (go1 ?_);refine oX I (xB zO pH D) λdd bo=>(go1 ?_);refine oX I (xB gK (y2u (y2i pH)) G) λdc bn=>(yU I I I (λh' L' hh hR=>yY I) I (oX I (xI zA i underlying47 fD bn) λdb bm=>(oX I (xF underlying83 sizeOf80 (y2i pH) bm) λda bl=>(oX I (xF underlying80 sizeOf53 (y2i pH) bl) λcz bk=>(oX I (xA zO bk) λcy bj=>?_)))));refine w_c I (bH I I (sC (ev2 I I) call44 (λw hs=>cQ hs bo bj dC) λcw h7 ed ae=>?_));replace ae:=Rp.Is.le ae (Le.q (l:=21) oM);refine w_c I (bH I I (sC (ev1 I) call17 (λw hs=>uK hs ae dC) λbb h8 ec bi=>?_));obtain rfl:bb=vI (yW (vZ (arV C (C.2.1.getD i zA)) (((C.2.1.getD i zA).1).1))):=bi;have cc:=wB (vZ (arV C (C.2.1.getD i zA)) (((C.2.1.getD i zA).1).1));refine yU I I I (λh' L' hh hR=>OpV.fa (by have:=iG.2 cl;omega) (s9 (q:=0) I I)) I (qG ?_);refine uO (A:=[]) ?_;refine gqL ((i+1),aj,H,h8) ?_ ?_
  · exact⟨mle,(zRF ad.up I (yFB Z oM)),oM,oM⟩
  omega
 have ei:i=C.2.1.length:=by omega
 refine go7 ?_;refine lX (xB zO pH O) λcv bh=>(cL (ev1 I) call42 (λw hs=>nH hs bh dC) λak h3 cj bg=>?_);obtain rfl:ak=.bool true:=by rw[show ak=vB ((avS C i)=zT) from bg,xR (by rw[ei];exact ax.2)]
 refine go2 ?_;refine cL (vs:=[]) trivial call8 (λw hs=>zE2 hs ap) λcu h4 ci aq=>?_;subst aq;refine go5 ?_;refine zD I I ?_
 rfl
end Go.Proofs.YtboaboflnckgoaaGreat
