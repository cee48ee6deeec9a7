/- Texts that the proof needs, part 8. -/
import Derived.Test.YtboaboflnckgoaaGreatKF7
set_option linter.unusedVariables false
set_option linter.unusedSimpArgs false
namespace Bk
open Classical
def aT3(m:Mp)(t:TI):Tri:=T3.mk (qT m (nr3 t.1)) (qT m (nr3 t.2.1)) (qT m (nr3 t.2.2))
def d3I(t:TI):Int:=dt3 t.1 (cx3 t.2.1 t.2.2)
def smI(t:TI):I3:=ad3 (ad3 t.1 t.2.1) t.2.2
def xpI(t:TI):I3:=th3 t.1 t.2.1 t.2.2
def sc3(n:Int)(u:I3):I3:=(n*u.1,n*u.2.1,n*u.2.2)
def sdI3(T:List TI)(a:Int):Int:=T.foldl (λa t=>a+d3I t) a
def scI(T:List TI)(a:I3):I3:=T.foldl (λa t=>ad3 a (sc3 (d3I t) (smI t))) a
def mxF(a:TI)(t:TI):TI:=(ad3 a.1 (sc3 (smI t).1 (xpI t)),ad3 a.2.1 (sc3 (smI t).2.1 (xpI t)),ad3 a.2.2 (sc3 (smI t).2.2 (xpI t)))
def mxI(T:List TI)(a:TI):TI:=T.foldl mxF a
theorem zIO(a b:I3):nr3 (ad3 a b)=qF (nr3 a) (nr3 b):=(zZO a b).symm
theorem zWT(n:Int)(u:I3):nr3 (sc3 n u)=scT (n:Rat) (nr3 u):=by
 unfold nr3 sc3 scT;simp only[zuu]
theorem yFO(t:TI):tB (nr3 t.1) (nr3 t.2.1) (nr3 t.2.2)=((d3I t:Int):Rat):=by
 unfold tB xO xC nr3 d3I dt3 cx3;simp only[zni,z7u,zuu]
theorem yIQ(t:TI):xC (kZ (nr3 t.2.1) (nr3 t.1)) (kZ (nr3 t.2.2) (nr3 t.1))=nr3 (xpI t):=by
 unfold xC kZ nr3 xpI th3 cx3 sb3;simp only[z7u,zuu]
theorem zYM(m:Mp)(t:TI):tB (aT3 m t).x (aT3 m t).y (aT3 m t).z=qG m*((d3I t:Int):Rat)+xO (kvM m) (nr3 (xpI t)):=by
 show tB (qT m _) (qT m _) (qT m _)=_
 rw[yB7,yFO,yIQ]
theorem zP8(k a b:Pt):xO k (qF a b)=xO k a+xO k b:=by unfold xO qF;simp only;grind
def suF(T:List TI)(a:I3):I3:=T.foldl (λa t=>ad3 a (xpI t)) a
theorem zQO(m:Mp):∀(T:List TI) (x:Int) (y:I3),(T.map (aT3 m)).foldl (λa t=>a+tB t.x t.y t.z) (qG m*(x:Rat)+xO (kvM m) (nr3 y))=qG m*((sdI3 T x:Int):Rat)+xO (kvM m) (nr3 (suF T y))
  |[],_,_=>rfl
  |t::T,x,y=>by
   rw[zxe,zyu,zYM];have e:qG m*(x:Rat)+xO (kvM m) (nr3 y)+(qG m*((d3I t:Int):Rat)+xO (kvM m) (nr3 (xpI t)))=qG m*((x+d3I t:Int):Rat)+xO (kvM m) (nr3 (ad3 y (xpI t))):=by
    rw[zIO,zP8,zni];grind
   rw[e,zQO m T];rfl
def qvM(k:Pt)(M:TI):Pt:=T3.mk (xO k (nr3 M.1)) (xO k (nr3 M.2.1)) (xO k (nr3 M.2.2))
def cfM(m:Mp)(S:I3)(D:Int)(M:TI)(A:I3):Pt:=qF (scT (qG m) (qV m (nr3 S))) (qF (scT (3*(qG m*(D:Rat))+3*xO (kvM m) (nr3 A)) m.2) (qV m (qvM (kvM m) M)))
theorem yIB(m:Mp)(t:TI):smT (aT3 m t)=qF (qV m (nr3 (smI t))) (scT 3 m.2):=by
 show qF (qF (qT m _) (qT m _)) (qT m _)=_
 unfold smI qT;rw[zIO,zIO,iJ,iJ];unfold qF scT;rw[gH];exact⟨by simp only;grind,by simp only;grind,by simp only;grind⟩
theorem yAW(k:Pt)(M:TI)(t:TI):qvM k (mxF M t)=qF (qvM k M) (scT (xO k (nr3 (xpI t))) (nr3 (smI t))):=by
 unfold qvM mxF;simp only[zIO,zWT,zP8];generalize nr3 (xpI t)=r;have e:∀q,xO k (scT q r)=q*xO k r:=λq=>by unfold xO scT;simp only;grind
 simp only[e];unfold qF scT;rw[gH];exact⟨by simp only[nr3];grind,by simp only[nr3];grind,by simp only[nr3];grind⟩
theorem yCB(m:Mp)(S:I3)(D:Int)(M:TI)(A:I3)(t:TI):qF (cfM m S D M A) (scT (tB (aT3 m t).x (aT3 m t).y (aT3 m t).z) (smT (aT3 m t)))=cfM m (ad3 S (sc3 (d3I t) (smI t))) (D+d3I t) (mxF M t) (ad3 A (xpI t)):=by
 unfold cfM;rw[zYM,yIB,yAW,zIO,zIO,zWT,zP8,iJ,iJ,dX,dX,zni];generalize xO (kvM m) (nr3 (xpI t))=r;generalize xO (kvM m) (nr3 A)=a;generalize qV m (nr3 (smI t))=s;generalize qV m (nr3 S)=S';generalize qV m (qvM (kvM m) M)=Q;generalize qG m=v;unfold qF scT;rw[gH];exact⟨by simp only;grind,by simp only;grind,by simp only;grind⟩
theorem zQP(m:Mp):∀(T:List TI) (S:I3) (D:Int) (M:TI) (A:I3),(T.map (aT3 m)).foldl (λa t=>qF a (scT (tB t.x t.y t.z) (smT t))) (cfM m S D M A)=cfM m (scI T S) (sdI3 T D) (mxI T M) (suF T A)
  |[],_,_,_,_=>rfl
  |t::T,S,D,M,A=>by
   rw[zxe,zyu,yCB,zQP m T];rfl
def idI(D:Int):TI:=((D,0,0),(0,D,0),(0,0,D))
structure GdT(T:List TI)(D:Int)(S:I3):Prop where
 d:sdI3 T 0=D
 s:scI T z3=S
 a:suF T z3=z3
 m:mxI T (z3,z3,z3)=idI D
theorem zR2(k:Pt):xO k (nr3 z3)=0:=by
 unfold xO nr3;have e:((0:Int):Rat)=0:=I;simp only[e];grind
theorem zNY(m:Mp){T:List TI}{D:Int}{S:I3}(h:GdT T D S):u4 (T.map (aT3 m))=qG m*(D:Rat):=by
 have e:=zQO m T 0 z3;rw[h.d,h.a,zR2,show((0:Int):Rat)=0 from I] at e;have e0:qG m*0+0=0:=by grind
 have C:qG m*(D:Rat)+0=qG m*(D:Rat):=by grind
 rw[e0,C] at e;exact e
theorem zYX(m:Mp){T:List TI}{D:Int}{S:I3}(h:GdT T D S):zHD (T.map (aT3 m))=scT (qG m) (qF (qV m (nr3 S)) (scT (4*(D:Rat)) m.2)):=by
 have e:=zQP m T z3 0 (z3,z3,z3) z3;rw[h.d,h.s,h.a,h.m] at e;have H:qV m zT=zT:=by
  unfold qV xO;rw[gH];exact⟨by show _=(0:Rat);simp only;grind,by show _=(0:Rat);simp only;grind,by show _=(0:Rat);simp only;grind⟩
 have e0:cfM m z3 0 (z3,z3,z3) z3=zT:=by
  unfold cfM;have G:qvM (kvM m) (z3,z3,z3)=zT:=by
   unfold qvM;rw[zR2]
  rw[zR2,G,yIS,H,show((0:Int):Rat)=0 from I];unfold qF scT;rw[gH];exact⟨by show _=(0:Rat);simp only;grind,by show _=(0:Rat);simp only;grind,by show _=(0:Rat);simp only;grind⟩
 rw[e0] at e;refine e.trans ?_;unfold cfM;have C:qvM (kvM m) (idI D)=scT (D:Rat) (kvM m):=by
  unfold qvM idI xO nr3 scT;have e:((0:Int):Rat)=0:=I;rw[gH];exact⟨by simp only[e];grind,by simp only[e];grind,by simp only[e];grind⟩
 rw[zR2,C,dX,zZ1];unfold qF scT;rw[gH];exact⟨by simp only;grind,by simp only;grind,by simp only;grind⟩
def tC(I:SI):List TI:=kK (λf=>faI I.1 (I.2.getD f fi0).2.2.1) I.2.length
def idM:T3 Pt:=T3.mk (T3.mk 1 0 0) (T3.mk 0 1 0) (T3.mk 0 0 1)
theorem zDL(v u:I3):cP v u=qT (idM,nr3 v) (nr3 u):=by
 unfold cP qT qF qV xO idM nr3;simp only[zni];rw[gH];exact⟨by simp only;grind,by simp only;grind,by simp only;grind⟩
theorem zK0(m:Mp)(v u:I3):qT m (cP v u)=qT (m.1,qT m (nr3 v)) (nr3 u):=by
 unfold cP qT qF qV xO nr3;simp only[zni];rw[gH];exact⟨by simp only;grind,by simp only;grind,by simp only;grind⟩
abbrev zSH(g:Pt->Pt)(t:Tri):Tri:=T3.mk (g t.x) (g t.y) (g t.z)
theorem zCK{v:I3}{I:SI}{s:Sd}(h:cO v I s)(hb:chI I=true):rX s s.2.1 s.2.1.length=(tC I).map (aT3 (idM,nr3 v)):=by
 unfold rX tC;rw[lG,h.2.2.1];refine mV _ λf C=>?_;rw[yB2 h hb C];refine yhi λt _=>?_;unfold cT3 aT3;rw[zDL,zDL,zDL]
theorem zNQ{s t:Sd}{g:Pt->Pt}(h1:t.1=s.1.map g)(h2:t.2.1.length=s.2.1.length)(h3:∀f,f<s.2.1.length->(t.2.1.getD f zA).2.1=(s.2.1.getD f zA).2.1)(hn:nmA s):rX t t.2.1 t.2.1.length=(rX s s.2.1 s.2.1.length).map (zSH g):=by
 unfold rX;rw[lG,h2];refine mV _ λf D=>?_;unfold fO;rw[lG,h3 f D];refine mV _ λi hi=>?_;unfold zKU;rw[zC9];refine tE _ λq J=>?_;have C:∀k,k<((s.2.1.getD f zA).2.1.getD i []).length->pnA t (((s.2.1.getD f zA).2.1.getD i []).getD k 0)=g (pnA s (((s.2.1.getD f zA).2.1.getD i []).getD k 0)):=λk G=>by
  have H:=hn f D i hi k G;unfold pnA;rw[h1];exact jR _ _ _ zos
 unfold yGZ zSH;rw[C 0 zos,C (q+1) zos,C (q+2) zos]
theorem zNX(w:Pt):qG (idM,w)=1:=by
 unfold qG tB xO xC idM;simp only;grind
theorem zZ2(w p:Pt):qV (idM,w) p=p:=by
 unfold qV xO idM;rw[gH];exact⟨by simp only;grind,by simp only;grind,by simp only;grind⟩
def mmC(I:SI):Bool:=decide (0<sdI3 (tC I) 0)&&decide ((tC I).length<=1000)&&decide (suF (tC I) z3=z3)&&decide (mxI (tC I) (z3,z3,z3)=idI (sdI3 (tC I) 0))&&
  decide (sdI3 (tC (zED I)) 0= -sdI3 (tC I) 0)&&decide ((tC (zED I)).length<=1000)&&decide (suF (tC (zED I)) z3=z3)&&decide (mxI (tC (zED I)) (z3,z3,z3)=idI (-sdI3 (tC I) 0))&&decide (scI (tC (zED I)) z3=sc3 (-1) (scI (tC I) z3))
theorem yI1:bxC mmC=true:=by decide +kernel
theorem yI2:baC mmC=true:=by decide +kernel
theorem yIZ:trC mmC=true:=by decide +kernel
theorem yI0:teC mmC=true:=by decide +kernel
theorem yG0{I:SI}(h:zYG I):((0<sdI3 (tC I) 0/\(tC I).length<=1000)/\GdT (tC I) (sdI3 (tC I) 0) (scI (tC I) z3))/\(tC (zED I)).length<=1000/\GdT (tC (zED I)) (-sdI3 (tC I) 0) (sc3 (-1) (scI (tC I) z3)):=by
 have h:=zRY yI1 yI2 yIZ yI0 h;unfold mmC at h;simp only[zbu,zie] at h;obtain⟨⟨⟨⟨⟨⟨⟨⟨h1,h2⟩,h3⟩,M⟩,J⟩,H⟩,G⟩,D⟩,C⟩:=h;exact⟨⟨⟨h1,h2⟩,rfl,rfl,h3,M⟩,H,J,C,G,D⟩
def zBY(s:Sd):Prop:=nmA s/\(∀f,f<s.2.1.length->(s.2.1.getD f zA).2.1.length<=10000/\∀l,l<(s.2.1.getD f zA).2.1.length->((s.2.1.getD f zA).2.1.getD l []).length<=10000)/\zM7 s s.2.1
theorem zW6{v:I3}{I:SI}{s:Sd}(h:cO v I s)(hb:chI I=true)(hl:(tC I).length<=1000):zBY s:=by
 have D:=λf C=>zKF (f:=f) h hb C;have M:=h.2.2.1;have J:=(zBX h hb).2.1.1.2;refine⟨λf C=>(D f zos).1,λf C=>?_,λf C=>?_,by omega,by rw[zCK h hb,zde];exact hl⟩
 · obtain⟨_,h1,h2⟩:=D f zos
   exact⟨by omega,λl hl=>by have:=(h2 l hl).1.2;omega⟩
 · obtain⟨h0,h1,h2⟩:=D f zos
   exact⟨λu w G H=>h0 u G w H,λu G=>by have:=(h2 u G).1.2;omega,by omega⟩
theorem yBD{s t:Sd}{g:Pt->Pt}(h1:t.1=s.1.map g)(h2:t.2.1.length=s.2.1.length)(h3:∀f,f<s.2.1.length->(t.2.1.getD f zA).2.1=(s.2.1.getD f zA).2.1)(hk:zBY s):zBY t:=by
 obtain⟨C,M,J,O,H⟩:=hk;have D:t.1.length=s.1.length:=by rw[h1,zde]
 refine⟨λf G=>?_,λf G=>?_,λf G=>?_,by omega,by rw[zNQ h1 h2 h3 C,zde];exact H⟩
 · have:=C f zos
   unfold nmP at this ⊢;rw[h3 f zos,D];exact this
 · rw[h3 f zos];exact M f zos
 · have:=J f zos
   unfold yB1 inR at this ⊢;rw[h3 f zos,D];exact this
theorem zQL{q:Rat}(h:q<0):cM q= -q:=zau ((pT _).2 h)
theorem zQM{q:Rat}(h:¬q<0):cM q=q:=zae λe=>h ((pT _).1 e)
structure MvM(m:Mp)(s t:Sd):Prop where
 ks:zBY s
 kt:zBY t
 kf:zBY (flS s)
 os:cnO s
 ot:cnO t
 c:qT m (cnS s)=cnS t
 v:pX t/((6:Int):Rat)=cM (qG m)*(pX s/((6:Int):Rat))
 f:pX (flS s)/((6:Int):Rat)= -(pX s/((6:Int):Rat))
 p:0<pX s/((6:Int):Rat)
theorem yBA{m:Mp}{s:Sd}(hs:zJG s)(hz:¬qG m=0):MvM m s (mvS m s):=by
 obtain⟨v,I,hI,hv,Z⟩:=hs;obtain⟨⟨⟨hD,hl⟩,g1⟩,ai,g2⟩:=yG0 hI;have hb:=zP7 hI;have H:=zW9 Z;have M:=zYF hI;have ks:=zW6 Z hb hl;have kf:=zW6 H M ai;have v1:pX s=((sdI3 (tC I) 0:Int):Rat):=by
  unfold pX;rw[zCK Z hb,zNY _ g1,zNX,yku]
 have v2:pX (flS s)=((-sdI3 (tC I) 0:Int):Rat):=by
  unfold pX;rw[zCK H M,zNY _ g2,zNX,yku]
 have c1:zQD s=qF (nr3 (scI (tC I) z3)) (scT (4*((sdI3 (tC I) 0:Int):Rat)) (nr3 v)):=by
  unfold zQD;rw[zCK Z hb,zYX _ g1,zNX,zZ2];unfold scT qF;rw[gH];exact⟨by simp only;grind,by simp only;grind,by simp only;grind⟩
 -- what is yIY has the triangles of the solid, or of the solid turned inside out
 have ad:∃D:Int,∃S:I3,∃T:List TI,(GdT T D S/\zBY (mvS m s)/\rX (mvS m s) (mvS m s).2.1 (mvS m s).2.1.length=T.map (aT3 (m.1,qT m (nr3 v))))/\qG m*(D:Rat)=cM (qG m)*((sdI3 (tC I) 0:Int):Rat)/\scT (qG m) (nr3 S)=scT (cM (qG m)) (nr3 (scI (tC I) z3)):=by
  have h2:∀x:Sd,x.2.1.length=s.2.1.length->(mvS m s).2.1.length=x.2.1.length:=λx hx=>by rw[hx];exact zde _
  have hg:∀f,f<s.2.1.length->((mvS m s).2.1.getD f zA).2.1=mvL m (s.2.1.getD f zA).2.1:=λf hf=>zbi (λz:Fc=>z.2.1) (jR (mvF m (s.1.map (qT m))) zA zA hf);have ac:∀(J:SI) (T:List TI) (x:Sd),x.1=s.1->cO v J x->chI J=true->T=tC J->(∀f,f<x.2.1.length->((mvS m s).2.1.getD f zA).2.1=(x.2.1.getD f zA).2.1)->x.2.1.length=s.2.1.length->zBY x->zBY (mvS m s)/\rX (mvS m s) (mvS m s).2.1 (mvS m s).2.1.length=T.map (aT3 (m.1,qT m (nr3 v))):=λJ T x U hx hc hT h3 aa kx=>by
   refine⟨yBD (g:=qT m) (by rw[U];rfl) (h2 x aa) h3 kx,?_⟩;rw[zNQ (g:=qT m) (by rw[U];rfl) (h2 x aa) h3 kx.1,zCK hx hc,hT,yuu];refine yhi λt _=>?_
   show zSH (qT m) (aT3 (idM,nr3 v) t)=_
   unfold aT3 zSH;simp only;rw[<-zDL,<-zDL,<-zDL,zK0,zK0,zK0]
  by_cases hn:qG m<0
  · have hL:∀L,mvL m L=rvL L L.length:=λL=>by unfold mvL;rw[zau (qX.2 hn)]
    refine⟨_,_,_,⟨g2,ac (zED I) _ (flS s) rfl H M rfl (λf hf=>?_) (zde _) kf⟩,?_,?_⟩
    · have ab:f<s.2.1.length:=by have:(flS s).2.1.length=s.2.1.length:=zde _;omega
      rw[hg f ab,hL,show(flS s).2.1.getD f zA=fcS (s.2.1.getD f zA) from jR _ _ _ ab];rfl
    · rw[zQL hn,zui];grind
    · rw[zQL hn,zWT,zui]
      unfold scT;rw[gH,show((1:Int):Rat)=1 from rfl];exact⟨by simp only;grind,by simp only;grind,by simp only;grind⟩
  · have hL:∀L,mvL m L=L:=λL=>by unfold mvL;rw[zae (λe=>hn (qX.1 e)),yAJ]
    refine⟨_,_,_,⟨g1,ac I _ s rfl Z hb rfl (λf hf=>by rw[hg f hf,hL]) rfl ks⟩,?_,?_⟩
    · rw[zQM hn]
    · rw[zQM hn]
 obtain⟨D,S,T,⟨gt,kt,hT⟩,eD,eS⟩:=ad;have O:0<cM (qG m):=by
  by_cases hn:qG m<0
  · rw[zQL hn];grind
  · rw[zQM hn];grind
 have v3:pX (mvS m s)=cM (qG m)*((sdI3 (tC I) 0:Int):Rat):=by
  unfold pX;rw[hT,zNY _ gt];exact eD
 have ae:qG (m.1,qT m (nr3 v))=qG m:=rfl;have ah:∀p,qV (m.1,qT m (nr3 v)) p=qV m p:=λp=>rfl;have c3:zQD (mvS m s)=scT (cM (qG m)) (qF (qV m (nr3 (scI (tC I) z3))) (scT (4*((sdI3 (tC I) 0:Int):Rat)) (qT m (nr3 v)))):=by
  unfold zQD;rw[hT,zYX _ gt,ae,ah];have U:scT (qG m) (qV m (nr3 S))=scT (cM (qG m)) (qV m (nr3 (scI (tC I) z3))):=by rw[<-dX,eS,dX]
  have e2:∀(q a:Rat) (x y:Pt),scT q (qF x (scT a y))=qF (scT q x) (scT (q*a) y):=λq a x y=>by
   unfold scT qF;rw[gH];exact⟨by simp only;grind,by simp only;grind,by simp only;grind⟩
  rw[e2,e2,U,show qG m*(4*(D:Rat))=cM (qG m)*(4*((sdI3 (tC I) 0:Int):Rat)) by grind]
 have G:(0:Rat)<((sdI3 (tC I) 0:Int):Rat):=ype.2 hD;have e6:∀q:Rat,q/((6:Int):Rat)=(1/((6:Int):Rat))*q:=λq=>by rw[yzu,yzu];grind
 have h6:(0:Rat)<1/((6:Int):Rat):=zM1 zov;have e4:((4:Int):Rat)=4:=rfl;have os:cnO s:=by
  unfold cnO;rw[v1,e4];grind
 have ot:cnO (mvS m s):=by
  unfold cnO;have:=tV O G;rw[v3,e4];grind
 refine⟨ks,kt,kf,os,ot,?_,?_,?_,?_⟩
 · unfold cnS
   rw[zae os,zae ot,c1,c3,v1,v3,e4,show((1:Int):Rat)=1 from rfl];generalize nr3 (scI (tC I) z3)=C;generalize nr3 v=w;generalize ((sdI3 (tC I) 0:Int):Rat)=D at G ⊢;generalize cM (qG m)=a at O ⊢;have i1:1/(4*D)*(4*D)=1:=y0i zo2;have i2:1/(4*(a*D))*a=1/(4*D):=by
    have h1:=tV O G;have i3:1/(4*(a*D))*(4*(a*D))=1:=y0i zo2;have:(1/(4*(a*D))*a-1/(4*D))*(4*D)=0:=by grind
    rcases zoe.1 this with e|e<;>grind
   have U:∀(q r:Rat) (x:Pt),scT q (scT r x)=scT (q*r) x:=λq r x=>by
    unfold scT;rw[gH];exact⟨by simp only;grind,by simp only;grind,by simp only;grind⟩
   have e2:∀(x y:Pt),scT (1/(4*D)) (qF x (scT (4*D) y))=qF (scT (1/(4*D)) x) y:=λx y=>by
    generalize 1/(4*D)=i at i1 ⊢;unfold scT qF;rw[gH];exact⟨by simp only;grind,by simp only;grind,by simp only;grind⟩
   rw[U,i2,e2,e2];generalize 1/(4*D)=i;unfold qT;rw[iJ,dX];unfold qF;rw[gH];exact⟨by simp only;grind,by simp only;grind,by simp only;grind⟩
 · rw[v3,v1,e6,e6];grind
 · rw[v2,v1,e6,e6,zui];grind
 · rw[v1,e6]
   exact tV h6 G
theorem zW2{m:Mp}{s:Sd}(hs:zJG s)(hz:¬qG m=0):MvM m s (mvR m s):=by
 unfold mvR;rw[zae hz];exact yBA hs hz
end Bk
namespace Go.Proofs.YtboaboflnckgoaaGreat
open Bk Go Tryz
set_option maxRecDepth 10000
set_option maxHeartbeats 1000000
attribute [local irreducible] GL GC GQ W OpV
set_option maxHeartbeats 1000000 in
theorem zPK{w0 w:World}{h0 h:Mem}{b k:Nat}{vl:Value}{xs:List Int}(hl:Is h vl xs)(hk:k<=xs.length){L:List Res}(hs:St w0 h0 (.var b 97 [vl,vI ↑k]::L) h w):
 Calls prog 57 #[vP b 0] w (bC w0 h0 h L (λg r q'=>∃k':Nat,∃m:Sq,q'=.var b 97 [vl,vI ↑k']/\k'<=xs.length/\zJG m/\(tSd 2 2 2 1).Is g r m)):=by
 have cc:=hl.lt63;refine jE (n:=39) (e:=[(0,vP b 0)]) (vs:=[vP b 0]) func57 rfl rfl (bL rfl) hs ⟨rfl,y3i⟩ (go2 ?_);refine nA (ρ:=(tSd 1 1 1 1)) (X:=([],([],[]))) qC (yF wD (yF wD wD)) λb2 dn bq=>(go5 ?_);refine yL (A:=[_]) (vs:=[_,vI (3)]) call33 e2z (λX w hs=>vJ hl zow oM oM hs) I ?_;intro v9 g9 q9 bw bs;obtain⟨k9,O,rfl,df,rfl,bb,bc⟩:=bs;refine go1 ?_;refine yL (A:=[_]) (vs:=[_,vI (3)]) call33 e2z (λX w hs=>vJ hl.up zow oM oM hs) I ?_;intro cq dl cz bn bh;obtain⟨de,D,rfl,ch,rfl,ai,ao⟩:=bh;refine go1 ?_;refine yL (A:=[_]) (vs:=[_,vI (3)]) call33 e2z (λX w hs=>vJ hl.up zow oM oM hs) I ?_;intro cp dk cy bm bg;obtain⟨dd,C,rfl,cg,rfl,ah,an⟩:=bg;refine qE ?_;refine cL (ev3 I I I) call45 (λw hs=>tO hs oM oM oM oM oM oM) λco h1 bv aw=>?_;replace aw:=Rp.Is.cast (y:=(pI O D C)) aw zoz;refine go3 ?_;refine yL (A:=[_]) (vs:=[_,vI (2)]) call33 e2z (λX w hs=>vJ hl.up zow oM oM hs) I ?_;intro cn dj cw bl bf;obtain⟨dc,M,rfl,cf,rfl,ae,am⟩:=bf;refine go4 ?_;refine yL (A:=[_]) (vs:=[_,vI (2)]) call33 e2z (λX w hs=>vJ hl.up zow oM oM hs) I ?_;intro cm di cv bk be;obtain⟨db,J,rfl,ce,rfl,ad,ak⟩:=be;refine go4 ?_;refine yL (A:=[_]) (vs:=[_,vI (2)]) call33 e2z (λX w hs=>vJ hl.up zow oM oM hs) I ?_;intro cl dh cu bj bd;obtain⟨da,H,rfl,cd,rfl,ac,aj⟩:=bd;refine go1 ?_;refine cL (ev3 I I I) call45 (λw hs=>tO hs oM oM oM oM oM oM) λck h2 bu av=>?_;replace av:=Rp.Is.cast (y:=(pI (O+1+M) (D+1+J) (C+1+H))) av zoz;refine uH (vs:=[_,_]) I I I I call35 e2z (λw hs=>zIM hs aw.up av dC dC (by first|omega|exactλe=>zY6 e)) ?_;intro cj h3 dp bt Z;obtain⟨ct,ca,bo,rfl,Z,rfl,cb,G⟩:=Z
 change RL (tFc (10000*2+10000*2+20000) (10000*2+10000*2+20000)) h3 bo (blF (pI O D C) (pI (O+1+M) (D+1+J) (C+1+H))) at G
 replace Z:=Rp.Is.le Z (Le.p (Le.s (Le.t (Le.q (l:=48) oM))) (Le.refl _));replace G:=(Le.p (Le.p (Le.t (Le.q (l:=60000) oM)) (Le.q (l:=60000) oM)) (Le.refl _)).rl G;refine go3 ?_;refine nA (ρ:=(rpP (tLs 1) (rpP rpV (rpS (rpP rpI (rpP rpI (rpQ 1))))))) (X:=([],((Value.slice none 0 0),[]))) qC (yF wD (yF fG wD)) λb6 dm bp=>?_;have ax:=(Le.p (Le.s (Le.t (Le.q (l:=48) dC))) (Le.p (Le.refl _) (Le.s (Le.p (Le.refl _) (Le.p (Le.refl _) (Le.q (l:=6) dC)))))).R bp;refine zU (A:=[]) (uB sizeOf50 pH ax Z) λaa U=>(go5 ?_);refine zX (A:=[_]) (ρ:=(tFc 60000 60000)) G ?_;intro h4 bi ay;replace U:=U.mono bi;have ba:(tSd 48 60000 60000 6).R h4 aa (blP (pI O D C) (pI (O+1+M) (D+1+J) (C+1+H)),(blF (pI O D C) (pI (O+1+M) (D+1+J) (C+1+H)),[])):=zD8 U ay;have az:(tSd 48 60000 60000 6).R h4 aa (bkS (pI O D C) (pI (O+1+M) (D+1+J) (C+1+H))):=Rp.castR ba zoz;have au:(tSd 2 2 2 1).R h4 aa (bkS (pI O D C) (pI (O+1+M) (D+1+J) (C+1+H))):=zFC az (zEL (zVB ⟨bb,bc⟩ ⟨ai,ao⟩ ⟨ah,an⟩ ⟨ae,am⟩ ⟨ad,ak⟩ ⟨ac,aj⟩)).2;refine lX (xB qP pH au) λci br=>?_;have ap:=(Le.p (Le.s (Le.t (Le.q (l:=2) dC))) (Le.p (Le.s (Le.p (Le.p (Le.t (Le.q (l:=2) dC)) (Le.q (l:=2) dC)) (Le.refl _))) (Le.refl _))).R bq;refine zU (A:=[_]) (uB sizeOf50 pH ap br) λbx ar=>(go3 ?_);refine xH (qK (t:=2) qP mh1 I ar) ?_;intro bz ab aq;refine fK (λE S=>zS I ab E S) ?_;exact⟨_,(.cons _ (.cons _ (zme _))),(((((((((bw.trans bn).trans bm).trans bv).trans bl).trans bk).trans bj).trans bu).trans bt).trans bi),_,_,I,by omega,(zVB ⟨bb,bc⟩ ⟨ai,ao⟩ ⟨ah,an⟩ ⟨ae,am⟩ ⟨ad,ak⟩ ⟨ac,aj⟩),aq⟩
set_option maxHeartbeats 1000000 in
theorem zMD{w0:World}{h0:Mem}(hs:MLe h0 (mem w0)){k:Nat}{vl:Value}{l:(List Tq)}(rl:(tLs k).Is h0 vl l){vt:Value}{t:Tq}(rt:(tPt k).Is h0 vt t)(hcd0:k<=10)(hcd1:pyH l t):
 Calls prog 105 #[vl,vt] w0 (rA w0 h0 (λh r L_=>∃u0 vF cs,r=.tuple #[u0,vI 0]/\(rpP (tLs (k+2)) (rpP rpV (rpS (rpP rpI (rpP rpI (rpQ 6)))))).Is h u0 (nrP (pyR l t),(vF,[]))/\L_=[.gs 83 14 vF (nrF (pyR l t)).length cs]/\vF.oneCell'=true/\RL (tFc (1000*k+5000) (1000*k+5000)) h cs (nrF (pyR l t)))):=by
 have je:=hcd1.1.1;obtain⟨jk,gq⟩:=zUV hcd1.1.2;refine cb2 113 vl vt func105 hs ?_;refine go2 ?_;refine nB rt λb3 dk cz=>(nA (ρ:=(rpP (tLs 1) (rpP rpV (rpS (rpP rpI (rpP rpI (rpQ 1))))))) (X:=([],((Value.slice none 0 0),[]))) qC (yF wD (yF fG wD)) λb4 dj fj=>(iD ?_));refine cnd (λbm=>?_) λbm=>?_
 · exact absurd bm oM
 refine gc9 (λbl=>?_) λbl=>?_
 · exact absurd bl oM
 refine go3 ?_;refine zK 16 _ [(13,(7,80,[.bool false,.slice none 0 0,.slice none 0 0,.bool false,.slice none 0 0,.slice none 0 0,.bool false,.slice none 0 0,.slice none 0 0,.bool false,.slice none 0 0,.slice none 0 0]))] (zai 0 9 [(9,.c),(10,.q),(11,.q),(12,.q),(13,.a),(14,.c),(15,.q)]) yA (jT.cons I I (uX sU I I) jT.nil) (wV zot) (qA I I kO) (λr hr=>hr) (go1 ?_);refine tA (F:=λv_=>AtP (tPt k) h0 v_ (l.getD 0 zT)) I (sO (q:=0) zT 0 underlying46 zR I I rl I oM nP) zAL I ?_;intro iw gg;refine wX I (xA zR gg) λiv gf=>(go1 ?_);refine tA (F:=λv_=>AtP (tPt k) h0 v_ (l.getD 1 zT)) I (sO (q:=1) zT 1 underlying46 zR I I rl I oM nP) zAL I ?_;intro iu ge;refine wX I (xA zR ge) λir gc=>(go1 ?_);refine tA (F:=λv_=>AtP (tPt k) h0 v_ (l.getD 2 zT)) I (sO (q:=2) zT 2 underlying46 zR I I rl I oM nP) zAL I ?_;intro iq gb;refine wX I (xA zR gb) λip ga=>?_;refine w_c I (sC (ev3 I I I) call151 (λw hs=>zBS hs gf gc ga oM) λio h1 jh fz=>?_);obtain⟨bp,rfl,ax⟩:=fz
 change (tPl (50*k+200) (200*k+900)).Is h1 bp (thZ (l.getD 0 zT) (l.getD 1 zT) (l.getD 2 zT)) at ax
 refine go3 ?_;refine w_a I I (λb7=>?_);have fi:(tPl 1 1).R h1 [.bool false,.slice none 0 0,.slice none 0 0,.bool false,.slice none 0 0,.slice none 0 0,.bool false,.slice none 0 0,.slice none 0 0,.bool false,.slice none 0 0,.slice none 0 0] (zT,(0:Rat)):=(yF (yS (yE dC)) (yE dC));refine w_c I ?_;have dt:=(Le.p (Le.t (Le.q (l:=50*k+200) oM)) (Le.q (l:=200*k+900) oM)).R fi;refine cD (A:=[]) (uB sizeOf80 pH dt ax) (wA zox) λbb au=>(go7 ?_);refine gv (OpV.fa (by rw[gq];exactλe=>e I) (mI (q:=0) I I)) I (go4 ?_);refine lX (xB iI pH au) λim fy=>(go1 ?_);refine cL (ev2 I I) call152 (λw hs=>zPC hs rl.up fy oM oM oM (by first|omega|exact hcd1.2.1.1)) λfh h2 jg fx=>?_;obtain rfl:fh=vB (zGZ (thZ (l.getD 0 zT) (l.getD 1 zT) (l.getD 2 zT)) l):=fx;refine go3 ?_;refine qM (ι:=Mem) 6 (λm_=>MLe h2 m_) (λ_=>[(49,vB ((¬(zGZ (thZ (l.getD 0 zT) (l.getD 1 zT) (l.getD 2 zT)) l))\/((sdZ (thZ (l.getD 0 zT) (l.getD 1 zT) (l.getD 2 zT)) t)<=(0:Int)))),(0,vl),(3,vP b3 0),(4,vP b4 0),(6,vI (↑(l).length:Int)),(7,vP b7 0)]) (λ_=>[.var b7 80 bb,.var b4 50 dj,.var b3 53 dk]) (λm_=>m_) ?_ ?_
 ·
  refine yK (¬(zGZ (thZ (l.getD 0 zT) (l.getD 1 zT) (l.getD 2 zT)) l)) (λhg=>?_) (λhg=>?_)
  ·
   refine gT hg I (go6 ?_);refine zY h2 (MLe.refl _) ⟨?_,I,I,I,I,I,y3i⟩ I I;exact y2e (uL hg)
  refine gF hg I (go1 ?_);refine lX (xB iI pH au) λil fw=>(go1 ?_);refine lX (xB zR pH cz) λik fv=>(go1 ?_);refine cL (ev2 I I) call153 (λw hs=>zIB hs fw fv oM oM oM) λfg h3 aa fu=>?_;obtain rfl:fg=vI (sdZ (thZ (l.getD 0 zT) (l.getD 1 zT) (l.getD 2 zT)) t):=fu;have gm:=zLL (thZ (l.getD 0 zT) (l.getD 1 zT) (l.getD 2 zT)) t;refine go4 ?_;refine zY h3 aa ⟨?_,I,I,I,I,I,y3i⟩ I I;exact y2e (uM hg)
 intro ae em;refine rN ?_;refine gc2 (λbk=>?_) λbk=>?_
 ·
  rcases bk with e|e
  exact absurd hcd1.2.1.1 e;have:=hcd1.2.1.2;omega
 refine go2 ?_;refine jC (ι:=Nat×List Value×Mem) (λ(D,H,mc)=>MLe ae mc/\((rpP (tLs (k+1)) (rpP rpV (rpS (rpP rpI (rpP rpI (rpQ 1)))))).R mc H ((l++[t]),((Value.slice none 0 0),([]:List En)))/\True)) (λ(D,H,mc)=>[(0,vl),(3,vP b3 0),(4,vP b4 0),(6,vI (↑(l).length:Int)),(7,vP b7 0),(9,vP D 0)]) (λ(D,H,mc)=>[.var D 50 H,.var b7 80 bb,.var b4 50 dj,.var b3 53 dk]) (λ(D,H,mc)=>mc) ?_ ?_
 ·
  refine zK 7 _ [(6,(9,50,[.slice none 0 0,.slice none 0 0,.slice none 0 0]))] [(0,.q),(2,.q),(1,.b 3),(4,.c),(5,.c),(6,.a),(7,.t)] yA (jT.cons I I (uX qC I I) jT.nil) zot (qA I I kO) (λr hr=>hr) (go1 ?_);refine wX I (xB zR pH cz) λij ec=>?_;refine w_b I I ?_ ?_
  ·
   refine iN 53 9 ?_;have dv:=RL.nil (ρ:=rpT (rpQ k)) (h:=ae);refine gV (A:=[]) (λX=>uN (yB (ρ:=(tPt k)) (bytes:=168) underlying46 yO I I I I nP I I dv rl.up bO bO)) I (wA zox) ?_
   rintro ff gk ⟨el,ev,rfl,G⟩
   refine jN (λX=>zN (ρ:=(tPt (k+1))) (m:=1) (xs:=[t]) (ps':=[(0,_)]) underlying46 yO I I I (yS (yE oM)) e2z (zC I (y3e (y3u _) zT 0 dC) (ec.le (Le.t (Le.q (l:=k+1) oM))) zQ) zok nP) I ?_;intro fe gj ej;obtain⟨eu,rfl,aq⟩:=ej;refine w_c I (xT (A:=[]) (ρ:=(tPt (k+1))) aq dK ?_);intro h3 aa du;replace G:=G.mono aa;have dr:=(Le.t (Le.q (l:=k+1) oM)).rl G;refine gV (A:=[]) (λX=>uN (yB (ρ:=(tPt (k+1))) (bytes:=168) underlying46 yO I I I I nP I I dr du bO bO)) I (wA zox) ?_
   rintro fd gi ⟨ek,es,rfl,ap⟩
   refine w_c I (xT (A:=[]) (ρ:=(tPt (k+1))) ap dK ?_);intro h4 ak ch;refine sX (xV (ρ:=(rpP (tLs (k+1)) (rpP rpV (rpS (rpP rpI (rpP rpI (rpQ 1))))))) (xE (ps':=[(0,_)]) underlying50 qC I I (sN underlying50) e2z I (yF wD (yF fG wD)) (zC I (y4i (y3u _)) ch zQ))) λfc da=>?_;refine w_a I I (λb9=>?_);have cy:(rpP (tLs 1) (rpP rpV (rpS (rpP rpI (rpP rpI (rpQ 1)))))).R h4 [.slice none 0 0,.slice none 0 0,.slice none 0 0] ([],((Value.slice none 0 0),[])):=(yF wD (yF fG wD));have bu:=(Le.p (Le.s (Le.t (Le.q (l:=k+1) oM))) (Le.refl _)).R cy;refine yG (A:=[]) I (uB sizeOf50 pH bu da) λdi cw=>(go1 ?_);refine zY (b9,di,h4) ?_ e6z I I;refine⟨(aa.trans ak),?_⟩;refine⟨cw,?_⟩
   trivial
  refine jN (λX=>zN (ρ:=(tPt (k+1))) (m:=1) (xs:=[t]) (ps':=[(0,_)]) underlying46 yO I I I (yS (yE oM)) e2z (zC I (y3e (y3u _) zT 0 dC) (ec.le (Le.t (Le.q (l:=k+1) oM))) zQ) zok nP) I ?_
  rintro fe gj ⟨eu,rfl,aq⟩
  refine iN 53 9 ?_;have cl:=RL.nil (ρ:=rpT (rpQ k)) (h:=ae);refine gV (A:=[]) (λX=>uN (yB (ρ:=(tPt k)) (bytes:=168) underlying46 yO I I I I nP I I cl rl.up bO bO)) I (wA zox) ?_
  rintro ff gk ⟨el,ev,rfl,G⟩
  refine w_c I (xT (A:=[_]) (ρ:=(tPt (k+1))) aq dK ?_);intro h3 aa cg;replace G:=G.mono aa;have bt:=(Le.t (Le.q (l:=k+1) oM)).rl G;refine gV (A:=[]) (λX=>uN (yB (ρ:=(tPt (k+1))) (bytes:=168) underlying46 yO I I I I nP I I bt cg bO bO)) I (wA zox) ?_
  rintro fd gi ⟨ek,es,rfl,ap⟩
  refine w_c I (xT (A:=[]) (ρ:=(tPt (k+1))) ap dK ?_);intro h4 ak cf;refine sX (xV (ρ:=(rpP (tLs (k+1)) (rpP rpV (rpS (rpP rpI (rpP rpI (rpQ 1))))))) (xE (ps':=[(0,_)]) underlying50 qC I I (sN underlying50) e2z I (yF wD (yF fG wD)) (zC I (y4i (y3u _)) cf zQ))) λfc da=>?_;refine w_a I I (λb9=>?_);have cy:(rpP (tLs 1) (rpP rpV (rpS (rpP rpI (rpP rpI (rpQ 1)))))).R h4 [.slice none 0 0,.slice none 0 0,.slice none 0 0] ([],((Value.slice none 0 0),[])):=(yF wD (yF fG wD));have bs:=(Le.p (Le.s (Le.t (Le.q (l:=k+1) oM))) (Le.refl _)).R cy;refine yG (A:=[]) I (uB sizeOf50 pH bs da) λdh cv=>(go1 ?_);refine zY (b9,dh,h4) ?_ e6z I I;refine⟨(aa.trans ak),?_⟩;refine⟨cv,?_⟩
  trivial
 rintro⟨D,H,mc⟩ ⟨hn,bj⟩
 refine yW ?_;obtain⟨ea,bj⟩:=bj;refine jF ?_;refine xK 3 1 ?_;have ck:=RL.nil (ρ:=rpI) (h:=mc);refine xK 83 14 ?_;have cj:=RL.nil (ρ:=rpP (tPl (150*k+700) (200*k+901)) (rpP tII uP)) (h:=mc);refine gcL (ι:=Nat×List Int×List Fc×List Value×Value×List Value×Value×List Value×Mem) (λ(i,LN,FF,aj,O,ai,C,ah,ma)=>(MLe mc ma/\((rpP (tLs (k+1)) (rpP rpV (rpS (rpP rpI (rpP rpI (rpQ 1)))))).R ma aj ((l++[t]),(C,([]:List En)))/\RL rpI ma ai LN/\RL (tFc (150*k+700) (200*k+901)) ma ah FF/\C.oneCell'=true/\i<=l.length/\LN=pyL l.length i/\FF=pyT l t i),[(0,vl),(3,vP b3 0),(4,vP b4 0),(6,vI (↑(l).length:Int)),(7,vP b7 0),(9,vP D 0),(10,O),(11,vI ↑i)],[.gs 83 14 C FF.length ah,.gs 3 1 O LN.length ai,.var D 50 aj,.var b7 80 bb,.var b4 50 dj,.var b3 53 dk],ma,l.length-i)) (0,[],[],H,(.slice none 0 0),[],(.slice none 0 0),[],mc) ?_ ?_
 · exact⟨mle,ea,ck,cj,I,by omega,I,I⟩
 rintro⟨i,LN,FF,aj,O,ai,C,ah,ma⟩ ⟨ho,Z,ao,an,gn,jf,bf,bg⟩
 refine yW ?_;have ji:LN.length=i:=by rw[bf];exact xZ _ _
 have jj:FF.length=i:=by rw[bg];exact xZ _ _
 refine gc8 (λeo=>?_) λeo=>?_
 ·
  have jb:=zA3 (((i:Int):Int):Rat);have jc:=nR (i:Int) oM oM;have jd:=Int.emod_nonneg ((↑i:Int)+1) (b:=(↑l.length:Int)) oM;have hm:=Int.emod_lt_of_pos ((↑i:Int)+1) (b:=(↑l.length:Int)) oM;refine jI ?_;refine zH (zN (ρ:=rpI) (m:=1) (xs:=[(((↑(l).length:Int)-(1:Int))-(↑i:Int))]) (ps':=[(0,_)]) underlying32 jV I I I wY e2z (zC I (y3e (y3u _) (0:Int) 0 dC) (wL oM oM) zQ) zoj nP) I I I ?_
  rintro ii ja ⟨hq,rfl,dz⟩
  refine zX (A:=[]) (ρ:=rpI) dz ?_;intro h3 aa ce;refine xU (A:=[_]) (uN (yB (ρ:=rpI) (bytes:=8) underlying32 jV I I I I nP I I ao.up ce bO bO)) I I I ?_
  rintro fb iz ⟨hl,er,rfl,dy⟩
  refine go8 ?_;refine gv (vC I I oM oM) I (go4 ?_);refine zK 16 _ [(13,(13,80,[.bool false,.slice none 0 0,.slice none 0 0,.bool false,.slice none 0 0,.slice none 0 0,.bool false,.slice none 0 0,.slice none 0 0,.bool false,.slice none 0 0,.slice none 0 0]))] (zai 0 9 [(9,.c),(10,.q),(11,.q),(12,.q),(13,.a),(14,.c),(15,.q)]) yA (jT.cons I I (uX sU I I) jT.nil) (wV zot) (qA I I kO) (λr hr=>hr) (go2 ?_);refine wX I (xI zT i underlying46 zR rl) λih ft=>(wX I (xA zR ft) λig fs=>(go2 ?_));refine wX I (xI zT ((i+1)%l.length) underlying46 zR rl (hi:=by exact zcu _ oM)) λie fr=>(wX I (xA zR fr) λid fq=>(wX I (xB zR pH cz) λic fp=>?_));refine w_c I (sC (ev3 I I I) call151 (λw hs=>zBS hs fs fq fp oM) λib h4 ak fo=>?_);obtain⟨bo,rfl,aw⟩:=fo
  change (tPl (50*k+200) (200*k+900)).Is h4 bo (thZ (l.getD i zT) (l.getD ((i+1)%l.length) zT) t) at aw
  refine go3 ?_;refine w_a I I (λjl=>?_);have eb:(tPl 1 1).R h4 [.bool false,.slice none 0 0,.slice none 0 0,.bool false,.slice none 0 0,.slice none 0 0,.bool false,.slice none 0 0,.slice none 0 0,.bool false,.slice none 0 0,.slice none 0 0] (zT,(0:Rat)):=(yF (yS (yE dC)) (yE dC));refine w_c I ?_;have br:=(Le.p (Le.t (Le.q (l:=50*k+200) oM)) (Le.q (l:=200*k+900) oM)).R eb;refine cD (A:=[]) (uB sizeOf80 pH br aw) (wA zox) λgt cu=>(go3 ?_);refine jS (A:=[_]) 15 [] (zai 0 6 [(8,.q),(0,.x [10] [6,7] [9,10]),(11,.c),(12,.c),(13,.c),(14,.q),(15,.t)]) yA nX zot nX (go1 ?_);refine wX I (fN (xB gG (y4u (y4i pH)) Z)) λia fm=>?_;subst fm;refine wX I (xB iI pH cu) λhw fl=>(go4 ?_);refine yDO (N:=4) I ?_;refine zD7 I I I I ?x2 ?x3
  case' x2=>
   refine jN (λX=>zN (ρ:=rpI) (m:=3) (xs:=[(↑i:Int),(((↑i:Int)+(1:Int))%(↑(l).length:Int)),(↑(l).length:Int)]) (ps':=[(0,_),(1,_),(2,_)]) underlying32 jV I I I wY e6z (zC I (y3e (y3u _) (0:Int) 0 dC) (wL oM oM) (zC I (y3e (y3u _) (0:Int) 1 dC) (wL oM oM) (zC I (y3e (y3u _) (0:Int) 2 dC) (wL oM oM) zQ))) zoo nP) I ?_
   rintro ez gh ⟨eq,rfl,J⟩
   refine zD7 I I I I ?x4 ?x5
   case' x4=>
    refine xT (A:=[]) (ρ:=rpI) J dK ?_;intro h5 be cd;refine jN (λX=>zN (ρ:=(rpS rpI)) (m:=1) (xs:=[[(↑i:Int),(((↑i:Int)+(1:Int))%(↑(l).length:Int)),(↑(l).length:Int)]]) (ps':=[(0,_)]) underlying81 jH I I I wD e2z (zC I (y3e (y3u _) [] 0 dC) cd zQ) zoj nP) I ?_;intro dn eg ay;obtain⟨bn,rfl,ab⟩:=ay;refine zNV I I (sC (ev1 I) call126 (λw hs=>vY hs oM oM) λdm h6 bd av=>?_);obtain⟨rfl,az⟩:=kV av;refine yH3 I (aD I (λ_ _=>vS (pa:=([115]:List Nat)) (pb:=(qZ (((↑i:Int):Int):Rat))) I I zou) I (s6 ?_));replace ab:=ab.mono bd
   case' x5=>
    refine sC (ev1 I) call126 (λw hs=>vY hs oM oM) λdm h5 be av=>?_;obtain⟨rfl,az⟩:=kV av;refine yCJ I I (aD I (λ_ _=>vS (pa:=([115]:List Nat)) (pb:=(qZ (((↑i:Int):Int):Rat))) I I zou) I (zAZ I I ?_));replace J:=J.mono be;refine xT (A:=[]) (ρ:=rpI) J dK ?_;intro h6 bd cc;refine jN (λX=>zN (ρ:=(rpS rpI)) (m:=1) (xs:=[[(↑i:Int),(((↑i:Int)+(1:Int))%(↑(l).length:Int)),(↑(l).length:Int)]]) (ps':=[(0,_)]) underlying81 jH I I I wD e2z (zC I (y3e (y3u _) [] 0 dC) cc zQ) zoj nP) I ?_;intro dn eg ay;obtain⟨bn,rfl,ab⟩:=ay;refine s6 ?_
  case' x3=>
   refine sC (ev1 I) call126 (λw hs=>vY hs oM oM) λdm h5 be av=>?_;obtain⟨rfl,az⟩:=kV av;refine yCJ I I (aD I (λ_ _=>vS (pa:=([115]:List Nat)) (pb:=(qZ (((↑i:Int):Int):Rat))) I I zou) I (zAZ I I (jN (λX=>zN (ρ:=rpI) (m:=3) (xs:=[(↑i:Int),(((↑i:Int)+(1:Int))%(↑(l).length:Int)),(↑(l).length:Int)]) (ps':=[(0,_),(1,_),(2,_)]) underlying32 jV I I I wY e6z (zC I (y3e (y3u _) (0:Int) 0 dC) (wL oM oM) (zC I (y3e (y3u _) (0:Int) 1 dC) (wL oM oM) (zC I (y3e (y3u _) (0:Int) 2 dC) (wL oM oM) zQ))) zoo nP) I ?_)))
   rintro ez gh ⟨eq,rfl,J⟩
   refine zAZ I I (xT (A:=[]) (ρ:=rpI) J dK ?_);intro h6 bd cb;refine jN (λX=>zN (ρ:=(rpS rpI)) (m:=1) (xs:=[[(↑i:Int),(((↑i:Int)+(1:Int))%(↑(l).length:Int)),(↑(l).length:Int)]]) (ps':=[(0,_)]) underlying81 jH I I I wD e2z (zC I (y3e (y3u _) [] 0 dC) cb zQ) zoj nP) I ?_
   rintro dn eg ⟨bn,rfl,ab⟩
   refine s6 ?_
  all_goals
   refine w_c I (xT (A:=[]) (ρ:=(rpS rpI)) ab dK ?_);intro h7 en ca;refine sX (xV (ρ:=(tFc (50*k+200) (200*k+900))) (xE (ps':=[(0,_),(1,_),(2,_)]) underlying83 qJ I I (bP underlying83) e6z I (yF (yF (yS (yE oM)) (yE oM)) (yF wD kE)) (zC I (y4i (y3u _)) fl.up (zC I (y4u (y4i (y3u _))) ca (zC I (y4u (y4u (y3u _))) (bA ((show ByB [115] by unfold ByB;decide).app az)) zQ))))) λhv fk=>?_;refine w_c I (jN (λX=>zN (ρ:=(tFc (50*k+200) (200*k+900))) (m:=1) (xs:=[(thZ (l.getD i zT) (l.getD ((i+1)%l.length) zT) t,([[(↑i:Int),(((↑i:Int)+(1:Int))%(↑(l).length:Int)),(↑(l).length:Int)]],(([115]:List Nat)++(qZ (((↑i:Int):Int):Rat)))))]) (ps':=[(0,_)]) underlying47 qJ I I I (yF (yF (yS (yE oM)) (yE oM)) (yF wD kE)) e2z (zC I (y3e (y3u _) zA 0 dC) fk zQ) zom nP) I ?_)
   rintro hu iy ⟨hp,rfl,dx⟩
   refine w_c I (xT (A:=[]) (ρ:=(tFc (50*k+200) (200*k+900))) dx dK ?_);intro h8 go bz;refine gV (A:=[_]) (λX=>uN (yB (ρ:=(tFc (150*k+700) (200*k+901))) (bytes:=264) underlying47 qJ I I I I nP I I an.up (bz.le (Le.s (Le.p (Le.p (Le.t (Le.q (l:=150*k+700) oM)) (Le.q (l:=200*k+901) oM)) (Le.refl _)))) bO bO)) I (wA zox) ?_
   rintro ey ix ⟨bi,ep,rfl,dw⟩
   refine go1 ?_;refine yG (A:=[_,_,_]) I (uB sizeOf47 (y4u (y4i pH)) Z (dF bi)) λdf ct=>(go8 ?_);refine uR (A:=[]) ?_;refine gqL ((i+1),(LN++[(((↑(l).length:Int)-(1:Int))-(↑i:Int))]),(FF++[(thZ (l.getD i zT) (l.getD ((i+1)%l.length) zT) t,([[(↑i:Int),(((↑i:Int)+(1:Int))%(↑(l).length:Int)),(↑(l).length:Int)]],(([115]:List Nat)++(qZ (((↑i:Int):Int):Rat)))))]),df,fb,er,ey,ep,h8) ?_ ?_
   · exact⟨mle,ct,dy.up,dw,bi,by omega,by rw[bf];rfl,by rw[bg];rfl⟩
   omega
 have ei:i=l.length:=by omega
 rw[ei] at bf bg;refine go6 ?_;refine zGS (A:=[_]) (ρ:=rpI) ao.up ?_;intro h3 aa am;refine jS (A:=[]) 10 [] [(0,.q),(1,.q),(2,.q),(4,.q),(0,.x [] [3] [5]),(6,.c),(7,.c),(8,.c),(9,.q),(10,.t)] yA nX zot nX (go1 ?_);refine wX I (fN (xB gG (y4u (y4i pH)) Z)) λhf ef=>?_;subst ef;refine wX I (xB iI pH au) λhe bh=>(go1 ?_);refine yDO (N:=2) I ?_;refine zD7 I I I I ?x6 ?x7
 case' x6=>
  refine sC (ev1 I) call79 (λw hs=>oQ hs bh oM oM) λdq h4 ak M=>?_;replace M:=Rp.Is.le M (Le.p (Le.t (Le.q (l:=150*k+610) oM)) (Le.q (l:=200*k+901) oM));refine zNV I I (jN (λX=>zN (ρ:=(rpS rpI)) (m:=1) (xs:=[LN]) (ps':=[(0,_)]) underlying81 jH I I I wD e2z (zC I (y3e (y3u _) [] 0 dC) am.up zQ) zoj nP) I ?_);intro dp eh db;obtain⟨dl,rfl,ar⟩:=db;refine s6 ?_
 case' x7=>
  refine jN (λX=>zN (ρ:=(rpS rpI)) (m:=1) (xs:=[LN]) (ps':=[(0,_)]) underlying81 jH I I I wD e2z (zC I (y3e (y3u _) [] 0 dC) am.up zQ) zoj nP) I ?_
  rintro dp eh ⟨dl,rfl,ar⟩
  refine zAZ I I (sC (ev1 I) call79 (λw hs=>oQ hs bh oM oM) λdq h4 ak M=>?_);replace M:=Rp.Is.le M (Le.p (Le.t (Le.q (l:=150*k+610) oM)) (Le.q (l:=200*k+901) oM));refine s6 ?_
 all_goals
  refine w_c I (xT (A:=[]) (ρ:=(rpS rpI)) ar.up dK ?_);intro h5 be bx;refine sX (xV (ρ:=(tFc (150*k+610) (200*k+901))) (xE (ps':=[(0,_),(1,_),(2,_)]) underlying83 qJ I I (bP underlying83) e6z I (yF (yF (yS (yE oM)) (yE oM)) (yF wD kE)) (zC I (y4i (y3u _)) M.up (zC I (y4u (y4i (y3u _))) bx (zC I (y4u (y4u (y3u _))) (bA (show ByB [98,97,115,101] by unfold ByB;decide)) zQ))))) λhd ee=>?_;refine w_c I (jN (λX=>zN (ρ:=(tFc (150*k+610) (200*k+901))) (m:=1) (xs:=[(opP (thZ (l.getD 0 zT) (l.getD 1 zT) (l.getD 2 zT)),([LN],([98,97,115,101]:List Nat)))]) (ps':=[(0,_)]) underlying47 qJ I I I (yF (yF (yS (yE oM)) (yE oM)) (yF wD kE)) e2z (zC I (y3e (y3u _) zA 0 dC) ee zQ) zom nP) I ?_)
  rintro hc hk ⟨gw,rfl,cn⟩
  refine w_c I (xT (A:=[]) (ρ:=(tFc (150*k+610) (200*k+901))) cn dK ?_);intro h6 bd bw;refine gV (A:=[]) (λX=>uN (yB (ρ:=(tFc (150*k+700) (200*k+901))) (bytes:=264) underlying47 qJ I I I I nP I I an.up (bw.le (Le.s (Le.p (Le.p (Le.t (Le.q (l:=150*k+700) oM)) (Le.refl _)) (Le.refl _)))) bO bO)) I (wA zox) ?_
  rintro ha hj ⟨dd,gu,rfl,cm⟩
  refine go1 ?_;refine yG (A:=[_]) I (uB sizeOf47 (y4u (y4i pH)) Z (dF dd)) λba ad=>(go4 ?_);refine zX (A:=[]) (ρ:=(tFc (150*k+700) (200*k+901))) cm ?_;intro h7 en bv;replace ad:=ad.mono en;have cq:(tSd (k+1) (150*k+700) (200*k+901) 1).R h7 ba (((l++[t]),(C,([]:List En))).1,((FF++[(opP (thZ (l.getD 0 zT) (l.getD 1 zT) (l.getD 2 zT)),([LN],([98,97,115,101]:List Nat)))]),(((l++[t]),(C,([]:List En))).2).2)):=zD8 ad bv;have cp:(tSd (k+1) (150*k+700) (200*k+901) 1).R h7 ba (pyR l t):=Rp.castR cq (by rw[bg,bf];rfl);refine lX (xB qP pH cp) λgz ed=>?_;refine uH (vs:=[_]) I I I I call82 ⟨I,y3i⟩ (λw hs=>zAG hs ed oM oM oM (by first|omega|exact hcd1.2.2|exact hcd1.2.1.1)) ?_;intro gy h8 ht go ac;obtain⟨ew,de,ac,rfl,dc,U⟩:=ac
  change RL (tFc (4*(150*k+700)+12) ((150*k+700)+(200*k+901)+12)) h8 de (nrF (pyR l t)) at U
  replace ac:=Rp.Is.le ac (Le.p (Le.s (Le.t (Le.q (l:=k+2) oM))) (Le.p (Le.refl _) (Le.s (Le.p (Le.refl _) (Le.p (Le.refl _) (Le.q (l:=2) oM))))));replace U:=(Le.p (Le.p (Le.t (Le.q (l:=600*k+2812) oM)) (Le.q (l:=350*k+1613) oM)) (Le.refl _)).rl U;have bq:=(Le.p (Le.s (Le.t (Le.q (l:=k+2) oM))) (Le.p (Le.refl _) (Le.s (Le.p (Le.refl _) (Le.p (Le.refl _) (Le.q (l:=2) dC)))))).R fj;refine zU (A:=[_,_,_]) (uB sizeOf50 pH bq ac) λgr co=>(go4 ?_);refine xH (qK (t:=4) qP mh3 I co) ?_;intro gx bc ci;refine kX (.cons_cons _ (zru _)) (λE S=>vG I bc (qQ I) E S) ?_;exact⟨_,_,_,I,(Rp.Is.cast (Rp.Is.le ci (Le.p (Le.refl _) (Le.p (Le.refl _) (Le.s (Le.p (Le.refl _) (Le.p (Le.refl _) (Le.q (l:=6) dC))))))) (by rw[show nrE (pyR l t)=[] from by unfold nrE;split<;>rfl])),I,dc,((Le.p (Le.p (Le.t (Le.q (l:=1000*k+5000) oM)) (Le.q (l:=1000*k+5000) oM)) (Le.refl _)).rl U)⟩
set_option maxHeartbeats 1000000 in
theorem zJ5{w0 w:World}{h0 h:Mem}{b k:Nat}{vl:Value}{xs:List Int}(hl:Is h vl xs)(hk:k<=xs.length){L:List Res}(hs:St w0 h0 (.var b 97 [vl,vI ↑k]::L) h w):
 Calls prog 59 #[vP b 0] w (bC w0 h0 h L (λg r q'=>∃k':Nat,∃m:Sq,q'=.var b 97 [vl,vI ↑k']/\k'<=xs.length/\yH9 m/\(tSd 2 2 2 1).Is g r m)):=by
 have db:=hl.lt63;refine jE (n:=57) (e:=[(0,vP b 0)]) (vs:=[vP b 0]) func59 rfl rfl (bL rfl) hs ⟨rfl,y3i⟩ (go2 ?_);refine nA (ρ:=(tSd 1 1 1 1)) (X:=([],([],[]))) qC (yF wD (yF wD wD)) λb2 fh ck=>(go5 ?_);refine yL (A:=[_]) (vs:=[_,vI (3)]) call33 e2z (λX w hs=>vJ hl zow oM oM hs) I ?_;intro v9 g9 q9 cv cm;obtain⟨k9,G,rfl,ew,rfl,bj,bk⟩:=cm;refine go1 ?_;refine yL (A:=[_]) (vs:=[_,vI (3)]) call33 e2z (λX w hs=>vJ hl.up zow oM oM hs) I ?_;intro ec ff em ch bx;obtain⟨ev,D,rfl,dk,rfl,an,ax⟩:=bx;refine go1 ?_;refine yL (A:=[_]) (vs:=[_,vI (3)]) call33 e2z (λX w hs=>vJ hl.up zow oM oM hs) I ?_;intro eb fe el cg bw;obtain⟨eu,C,rfl,dj,rfl,am,aw⟩:=bw;refine qE ?_;refine cL (ev3 I I I) call45 (λw hs=>tO hs oM oM oM oM oM oM) λea h1 cu bi=>?_;replace bi:=Rp.Is.cast (y:=(pI G D C)) bi zoz;refine go3 ?_;refine yL (A:=[_]) (vs:=[_,vI (3)]) call33 e2z (λX w hs=>vJ hl.up zow oM oM hs) I ?_;intro dz fd ek cf bv;obtain⟨es,M,rfl,di,rfl,ak,av⟩:=bv;refine go3 ?_;refine cL (ev3 I I I) call45 (λw hs=>tO hs oM oM oM oM oM oM) λdy h2 ct bh=>?_;replace bh:=Rp.Is.cast (y:=(pI (G+1+M) D C)) bh zoz;refine go2 ?_;refine yL (A:=[_]) (vs:=[_,vI (2)]) call33 e2z (λX w hs=>vJ hl.up zow oM oM hs) I ?_;intro dx fc ej ce bu;obtain⟨er,J,rfl,dh,rfl,aj,au⟩:=bu;refine go4 ?_;refine yL (A:=[_]) (vs:=[_,vI (3)]) call33 e2z (λX w hs=>vJ hl.up zow oM oM hs) I ?_;intro dw fb ei cd bt;obtain⟨eq,H,rfl,df,rfl,ai,ar⟩:=bt;refine go2 ?_;refine cL (ev3 I I I) call45 (λw hs=>tO hs oM oM oM oM oM oM) λdv h3 cq bg=>?_;replace bg:=Rp.Is.cast (y:=(pI (G+J) (D+1+H) C)) bg zoz;refine zH (zN (ρ:=(tPt 2)) (m:=3) (xs:=[(pI G D C),(pI (G+1+M) D C),(pI (G+J) (D+1+H) C)]) (ps':=[(0,_),(1,_),(2,_)]) underlying46 yO I I I (yS (yE dC)) e6z (zC I (y3e (y3u _) zT 0 dC) bi.up (zC I (y3e (y3u _) zT 1 dC) bh.up (zC I (y3e (y3u _) zT 2 dC) bg zQ))) zol nP) I I I ?_
 rintro du eh ⟨dl,rfl,bo⟩
 refine go2 ?_;refine yL (A:=[_,_]) (vs:=[_,vI (3)]) call33 e2z (λX w hs=>vJ hl.up zow oM oM hs) I ?_;intro dt fa eg cc bs;obtain⟨ep,Z,rfl,de,rfl,ah,aq⟩:=bs;refine go3 ?_;refine yL (A:=[_,_]) (vs:=[_,vI (3)]) call33 e2z (λX w hs=>vJ hl.up zow oM oM hs) I ?_;intro dr ez ef cb br;obtain⟨eo,U,rfl,dd,rfl,ae,ap⟩:=br;refine go4 ?_;refine yL (A:=[_,_]) (vs:=[_,vI (3)]) call33 e2z (λX w hs=>vJ hl.up zow oM oM hs) I ?_;intro dq ey ee ca bq;obtain⟨en,O,rfl,dc,rfl,ad,ao⟩:=bq;refine go1 ?_;refine cL (ev3 I I I) call45 (λw hs=>tO hs oM oM oM oM oM oM) λdp h4 cp bf=>?_;replace bf:=Rp.Is.cast (y:=(pI (G+Z) (D+U) (C+1+O))) bf zoz;refine zX (A:=[]) (ρ:=(tPt 2)) bo.up ?_;intro h5 co bn;refine uH (vs:=[_,_]) I I I I call105 e2z (λw hs=>zMD hs bn bf.up dC (by first|omega|exact(zOE ⟨bj,bk⟩ ⟨an,ax⟩ ⟨am,aw⟩ ⟨ak,av⟩ ⟨aj,au⟩ ⟨ai,ar⟩ ⟨ah,aq⟩ ⟨ae,ap⟩ ⟨ad,ao⟩).1)) ?_;intro dn h6 fi cn ac;obtain⟨ed,cz,ci,rfl,ac,rfl,da,aa⟩:=ac
 change RL (tFc (1000*2+5000) (1000*2+5000)) h6 ci (nrF (pyR [(pI G D C),(pI (G+1+M) D C),(pI (G+J) (D+1+H) C)] (pI (G+Z) (D+U) (C+1+O)))) at aa
 replace ac:=Rp.Is.le ac (Le.p (Le.s (Le.t (Le.q (l:=4) oM))) (Le.refl _));replace aa:=(Le.p (Le.p (Le.t (Le.q (l:=7000) oM)) (Le.q (l:=7000) oM)) (Le.refl _)).rl aa;refine go3 ?_;refine nA (ρ:=(rpP (tLs 1) (rpP rpV (rpS (rpP rpI (rpP rpI (rpQ 1))))))) (X:=([],((Value.slice none 0 0),[]))) qC (yF wD (yF fG wD)) λb6 fg cj=>?_;have bl:=(Le.p (Le.s (Le.t (Le.q (l:=4) dC))) (Le.p (Le.refl _) (Le.s (Le.p (Le.refl _) (Le.p (Le.refl _) (Le.q (l:=6) dC)))))).R cj;refine zU (A:=[]) (uB sizeOf50 pH bl ac) λay ab=>(go5 ?_);refine zX (A:=[_]) (ρ:=(tFc 7000 7000)) aa ?_;intro h7 bz bm;replace ab:=ab.mono bz;have bp:(tSd 4 7000 7000 6).R h7 ay (nrP (pyR [(pI G D C),(pI (G+1+M) D C),(pI (G+J) (D+1+H) C)] (pI (G+Z) (D+U) (C+1+O))),(nrF (pyR [(pI G D C),(pI (G+1+M) D C),(pI (G+J) (D+1+H) C)] (pI (G+Z) (D+U) (C+1+O))),[])):=zD8 ab bm;have be:(tSd 4 7000 7000 6).R h7 ay (nrP (pyR [(pI G D C),(pI (G+1+M) D C),(pI (G+J) (D+1+H) C)] (pI (G+Z) (D+U) (C+1+O))),nrF (pyR [(pI G D C),(pI (G+1+M) D C),(pI (G+J) (D+1+H) C)] (pI (G+Z) (D+U) (C+1+O))),([]:List En)):=Rp.castR bp zoz;have bd:(tSd 2 2 2 1).R h7 ay (nrP (pyR [(pI G D C),(pI (G+1+M) D C),(pI (G+J) (D+1+H) C)] (pI (G+Z) (D+U) (C+1+O))),nrF (pyR [(pI G D C),(pI (G+1+M) D C),(pI (G+J) (D+1+H) C)] (pI (G+Z) (D+U) (C+1+O))),([]:List En)):=zFC be (zEL (zEI (zOE ⟨bj,bk⟩ ⟨an,ax⟩ ⟨am,aw⟩ ⟨ak,av⟩ ⟨aj,au⟩ ⟨ai,ar⟩ ⟨ah,aq⟩ ⟨ae,ap⟩ ⟨ad,ao⟩).2)).2;refine lX (xB qP pH bd) λdm cl=>?_;have ba:=(Le.p (Le.s (Le.t (Le.q (l:=2) dC))) (Le.p (Le.s (Le.p (Le.p (Le.t (Le.q (l:=2) dC)) (Le.q (l:=2) dC)) (Le.refl _))) (Le.refl _))).R ck;refine zU (A:=[_]) (uB sizeOf50 pH ba cl) λcw bc=>(go3 ?_);refine xH (qK (t:=2) qP mh1 I bc) ?_;intro cy az bb;refine fK (λE S=>zS I az E S) ?_;exact⟨_,(.cons _ (.cons _ (zme _))),(((((((((((((((cv.trans ch).trans cg).trans cu).trans cf).trans ct).trans ce).trans cd).trans cq).trans cc).trans cb).trans ca).trans cp).trans co).trans cn).trans bz),_,_,I,by omega,(zOE ⟨bj,bk⟩ ⟨an,ax⟩ ⟨am,aw⟩ ⟨ak,av⟩ ⟨aj,au⟩ ⟨ai,ar⟩ ⟨ah,aq⟩ ⟨ae,ap⟩ ⟨ad,ao⟩).2,bb⟩
theorem gK{w0:World}{h0:Mem}(hs:MLe h0 (mem w0)){x:Int}(hx1:-9223372036854775808<=x)(hx2:x<9223372036854775808){y:Int}(hy1:-9223372036854775808<=y)(hy2:y<9223372036854775808){vl:Value}{l:(List Int)}(rl:(rpS rpI).Is h0 vl l)(hcd0:(-1000<=x/\x<=1000)/\-1000<=y/\y<=1000)(hcd1:∀q,q∈l-> -1000<=q/\q<=1000)(hcd2:l.length<=1000):
 Calls prog 150 #[vI x,vI y,vl] w0 (Ret w0 h0 (λh r=>(tLs 2).Is h r (aA x y l))):=by
 refine cb3 36 (vI x) (vI y) vl func150 hs ?_;refine iD ?_;refine xK 53 9 ?_;have O:=RL.nil (ρ:=rpT (rpQ 2)) (h:=h0);refine gcL (ι:=Nat×List Tq×Value×List Value×Mem) (λ(u,D,C,G,ma)=>(MLe h0 ma/\(RL (tPt 2) ma G D/\(2*u<=l.length+1/\D.length=u)/\D++aA x y (l.drop (2*u))=aA x y l),[(0,vI x),(1,vI y),(2,vl),(7,C),(8,vI (2*↑u))],[.gs 53 9 C D.length G],ma,l.length+2-2*u)) (0,[],(.slice none 0 0),[],h0) ?_ ?_
 · exact⟨mle,O,⟨by omega,I⟩,I⟩
 rintro⟨u,D,C,G,ma⟩ ⟨ar,H,⟨bh,ao⟩,hD⟩
 refine yW ?_;refine u6 (λaa=>?_) λaa=>?_
 ·
  have bj:=hcd1 _ (gM (d:=0) (show 2*u<l.length by omega));have bi:=hcd1 _ (gM (d:=0) (show 2*u+1<l.length by omega));refine go4 ?_;refine jS (A:=[]) 20 [] (zai 0 7 (zai 8 7 [(7,.c),(15,.c),(16,.c),(17,.c),(18,.c),(19,.q)])) yA nX (wV zot) nX (go4 ?_);refine wX I (xI (0:Int) (2*u) underlying32 ty3 rl) λbe am=>(wX I (xA ty3 am) λbd ak=>?_);obtain⟨rfl,av,aq⟩:=gJ ak;refine go5 ?_;refine wX I (xI (0:Int) (2*u+1) underlying32 ty3 rl) λbb ai=>(wX I (xA ty3 ai) λba ah=>?_);obtain⟨rfl,au,ap⟩:=gJ ah;refine go1 ?_;refine w_c I (sC (ev1 I) call39 (λw hs=>qI hs oM oM) λbc h1 an aj=>?_);refine w_c I (sC (ev1 I) call39 (λw hs=>qI hs oM oM) λaz h2 bl ae=>?_);refine w_c I (sX (xV (ρ:=(tPt 2)) (wI (ps':=[(0,_),(1,_)]) underlying53 yO I I sizeOf26 e4z I (yS (yE dC)) (zC I (y4e (y3u _)) aj.up (zC I (y5i (y3u _)) ae zQ)))) λay ad=>?_);refine w_c I (jN (λX=>zN (ρ:=(tPt 2)) (m:=1) (xs:=[(T3.mk (((x+(l.getD (2*u) (0:Int))):Int):Rat) (((y+(l.getD (2*u+1) (0:Int))):Int):Rat) (0:Rat))]) (ps':=[(0,_)]) underlying46 yO I I I (yS (yE dC)) e2z (zC I (y3e (y3u _) zT 0 dC) ad zQ) zok nP) I ?_)
  rintro ax bg ⟨aw,rfl,Z⟩
  refine w_c I (xT (A:=[]) (ρ:=(tPt 2)) Z dK ?_);intro h3 bk M;refine gV (A:=[]) (λX=>yB (ρ:=(tPt 2)) (bytes:=168) underlying46 yO I I I I nP I I H.up M bO bO) I (wA zox) ?_
  rintro ac bf ⟨ab,rfl,U⟩
  refine go9 ?_;refine gqL ((u+1),(D++[(T3.mk (((x+(l.getD (2*u) (0:Int))):Int):Rat) (((y+(l.getD (2*u+1) (0:Int))):Int):Rat) (0:Rat))]),ac,ab,h3) ?_ ?_ (he:=⟨I,I,I,I,zbi (λz=>some (vI z)) oM,y3i⟩)
  · exact⟨mle,U,⟨by omega,by rw[lAz,ao];rfl⟩,zYS hD oM⟩
  omega
 refine jF ?_;refine wR (A:=[]) (ρ:=(tPt 2)) H.up ?_;intro h1 an J;refine zF I I ?_;exact(Rp.Is.cast J (by exact yCA hD oM))
set_option maxHeartbeats 1000000 in
theorem zMH{w0 w:World}{h0 h:Mem}{b k:Nat}{vl:Value}{xs:List Int}(hl:Is h vl xs)(hk:k<=xs.length){L:List Res}(hs:St w0 h0 (.var b 97 [vl,vI ↑k]::L) h w):
 Calls prog 104 #[vP b 0] w (bC w0 h0 h L (λg r q'=>∃k':Nat,∃m:List (List Tq),q'=.var b 97 [vl,vI ↑k']/\k'<=xs.length/\baP m/\(tLL 2).Is g r m)):=by
 have cn:=hl.lt63;refine jE (n:=60) (e:=[(0,vP b 0)]) (vs:=[vP b 0]) func104 rfl rfl (bL rfl) hs ⟨rfl,y3i⟩ (go8 ?_);refine yL (A:=[]) (vs:=[_,vI (2)]) call33 e2z (λX w hs=>vJ hl zow oM oM hs) I ?_;intro v6 g6 q6 aj ck;obtain⟨k6,z6,rfl,ff,rfl,D,H⟩:=ck;refine go1 ?_;refine yL (A:=[]) (vs:=[_,vI (2)]) call33 e2z (λX w hs=>vJ hl.up zow oM oM hs) I ?_;intro v8 g8 q8 ai cj;obtain⟨k8,z8,rfl,fe,rfl,C,G⟩:=cj;refine go8 ?_;refine yL (A:=[]) (vs:=[_,vI (6)]) call33 e2z (λX w hs=>vJ hl.up zow oM oM hs) I ?_;intro eh fj ez ah bt;obtain⟨fd,di,rfl,ct,rfl,cl,cm⟩:=bt;refine gc9 (λcb=>?_) λcb=>?_
 ·
  refine go4 ?_;refine zH (zN (ρ:=rpI) (m:=12) (xs:=[(0:Int),(0:Int),(2:Int),(0:Int),(2:Int),(1:Int),(1:Int),(1:Int),(1:Int),(2:Int),(0:Int),(2:Int)]) (ps':=[(0,_),(1,_),(2,_),(3,_),(4,_),(5,_),(6,_),(7,_),(8,_),(9,_),(10,_),(11,_)]) underlying32 jV I I I wY ⟨I,I,I,I,I,I,I,I,I,I,I,I,I,I,I,I,I,I,I,I,I,I,I,I,y3i⟩ (zC I (y3e (y3u _) (0:Int) 0 dC) (wL dC dC) (zC I (y3e (y3u _) (0:Int) 1 dC) (wL dC dC) (zC I (y3e (y3u _) (0:Int) 2 dC) (wL dC dC) (zC I (y3e (y3u _) (0:Int) 3 dC) (wL dC dC) (zC I (y3e (y3u _) (0:Int) 4 dC) (wL dC dC) (zC I (y3e (y3u _) (0:Int) 5 dC) (wL dC dC) (zC I (y3e (y3u _) (0:Int) 6 dC) (wL dC dC) (zC I (y3e (y3u _) (0:Int) 7 dC) (wL dC dC) (zC I (y3e (y3u _) (0:Int) 8 dC) (wL dC dC) (zC I (y3e (y3u _) (0:Int) 9 dC) (wL dC dC) (zC I (y3e (y3u _) (0:Int) 10 dC) (wL dC dC) (zC I (y3e (y3u _) (0:Int) 11 dC) (wL dC dC) zQ)))))))))))) (show 12*1<=16777216 from by decide) nP) I I I ?_
  rintro eg ey ⟨dh,rfl,bp⟩
  refine zX (A:=[]) (ρ:=rpI) bp ?_;intro h1 U bd;refine cL (ev3 I I I) call150 (λw hs=>gK hs oM oM oM oM bd (by first|omega|exact zce rfl|(intro q J;simp only[zfi,zgi,or_false] at J;omega)) (by first|omega|exact zce rfl|(intro q J;simp only[zfi,zgi,or_false] at J;omega)) (by first|omega|exact zce rfl|(intro q J;simp only[zfi,zgi,or_false] at J;omega))) λef h2 O ci=>(zH (zN (ρ:=(tLs 2)) (m:=1) (xs:=[aA z6 z8 [(0:Int),(0:Int),(2:Int),(0:Int),(2:Int),(1:Int),(1:Int),(1:Int),(1:Int),(2:Int),(0:Int),(2:Int)]]) (ps':=[(0,_)]) underlying115 lH I I I wD e2z (zC I (y3e (y3u _) [] 0 dC) ci zQ) zoj nP) I I I ?_)
  rintro ee ew ⟨df,rfl,bo⟩
  refine go6 ?_;refine wR (A:=[]) (ρ:=(tLs 2)) bo ?_;intro h3 M bc;refine qL I I ?_;exact⟨_,(zme _),(((((aj.trans ai).trans ah).trans U).trans O).trans M),_,_,I,by omega,(by first|exact zZD ⟨D,H⟩ ⟨C,G⟩|exact zZC ⟨D,H⟩ ⟨C,G⟩|exact zZB ⟨D,H⟩ ⟨C,G⟩|exact zZA ⟨D,H⟩ ⟨C,G⟩|exact zY9 ⟨D,H⟩ ⟨C,G⟩ ⟨ab,ae⟩ ⟨aa,ad⟩ ⟨Z,ac⟩),bc⟩
 refine gc6 (λca=>?_) λca=>?_
 ·
  refine go4 ?_;refine zH (zN (ρ:=rpI) (m:=8) (xs:=[(0:Int),(0:Int),(3:Int),(0:Int),(3:Int),(3:Int),(0:Int),(3:Int)]) (ps':=[(0,_),(1,_),(2,_),(3,_),(4,_),(5,_),(6,_),(7,_)]) underlying32 jV I I I wY ⟨I,I,I,I,I,I,I,I,I,I,I,I,I,I,I,I,y3i⟩ (zC I (y3e (y3u _) (0:Int) 0 dC) (wL dC dC) (zC I (y3e (y3u _) (0:Int) 1 dC) (wL dC dC) (zC I (y3e (y3u _) (0:Int) 2 dC) (wL dC dC) (zC I (y3e (y3u _) (0:Int) 3 dC) (wL dC dC) (zC I (y3e (y3u _) (0:Int) 4 dC) (wL dC dC) (zC I (y3e (y3u _) (0:Int) 5 dC) (wL dC dC) (zC I (y3e (y3u _) (0:Int) 6 dC) (wL dC dC) (zC I (y3e (y3u _) (0:Int) 7 dC) (wL dC dC) zQ)))))))) zop nP) I I I ?_
  rintro ed ev ⟨de,rfl,bn⟩
  refine zX (A:=[]) (ρ:=rpI) bn ?_;intro h1 U bb;refine cL (ev3 I I I) call150 (λw hs=>gK hs oM oM oM oM bb (by first|omega|exact zce rfl|(intro q J;simp only[zfi,zgi,or_false] at J;omega)) (by first|omega|exact zce rfl|(intro q J;simp only[zfi,zgi,or_false] at J;omega)) (by first|omega|exact zce rfl|(intro q J;simp only[zfi,zgi,or_false] at J;omega))) λec h2 O ch=>(go2 ?_);refine zH (zN (ρ:=rpI) (m:=8) (xs:=[(1:Int),(1:Int),(1:Int),(2:Int),(2:Int),(2:Int),(2:Int),(1:Int)]) (ps':=[(0,_),(1,_),(2,_),(3,_),(4,_),(5,_),(6,_),(7,_)]) underlying32 jV I I I wY ⟨I,I,I,I,I,I,I,I,I,I,I,I,I,I,I,I,y3i⟩ (zC I (y3e (y3u _) (0:Int) 0 dC) (wL dC dC) (zC I (y3e (y3u _) (0:Int) 1 dC) (wL dC dC) (zC I (y3e (y3u _) (0:Int) 2 dC) (wL dC dC) (zC I (y3e (y3u _) (0:Int) 3 dC) (wL dC dC) (zC I (y3e (y3u _) (0:Int) 4 dC) (wL dC dC) (zC I (y3e (y3u _) (0:Int) 5 dC) (wL dC dC) (zC I (y3e (y3u _) (0:Int) 6 dC) (wL dC dC) (zC I (y3e (y3u _) (0:Int) 7 dC) (wL dC dC) zQ)))))))) zop nP) I I I ?_
  rintro eb eu ⟨dd,rfl,bm⟩
  refine zX (A:=[]) (ρ:=rpI) bm ?_;intro h3 M av;refine cL (ev3 I I I) call150 (λw hs=>gK hs oM oM oM oM av (by first|omega|exact zce rfl|(intro q J;simp only[zfi,zgi,or_false] at J;omega)) (by first|omega|exact zce rfl|(intro q J;simp only[zfi,zgi,or_false] at J;omega)) (by first|omega|exact zce rfl|(intro q J;simp only[zfi,zgi,or_false] at J;omega))) λea h4 ax cg=>(zH (zN (ρ:=(tLs 2)) (m:=2) (xs:=[aA z6 z8 [(0:Int),(0:Int),(3:Int),(0:Int),(3:Int),(3:Int),(0:Int),(3:Int)],aA z6 z8 [(1:Int),(1:Int),(1:Int),(2:Int),(2:Int),(2:Int),(2:Int),(1:Int)]]) (ps':=[(0,_),(1,_)]) underlying115 lH I I I wD e4z (zC I (y3e (y3u _) [] 0 dC) ch.up (zC I (y3e (y3u _) [] 1 dC) cg zQ)) zoq nP) I I I ?_)
  rintro dz es ⟨dc,rfl,bl⟩
  refine go6 ?_;refine wR (A:=[]) (ρ:=(tLs 2)) bl ?_;intro h5 aw au;refine qL I I ?_;exact⟨_,(zme _),(((((((aj.trans ai).trans ah).trans U).trans O).trans M).trans ax).trans aw),_,_,I,by omega,(by first|exact zZD ⟨D,H⟩ ⟨C,G⟩|exact zZC ⟨D,H⟩ ⟨C,G⟩|exact zZB ⟨D,H⟩ ⟨C,G⟩|exact zZA ⟨D,H⟩ ⟨C,G⟩|exact zY9 ⟨D,H⟩ ⟨C,G⟩ ⟨ab,ae⟩ ⟨aa,ad⟩ ⟨Z,ac⟩),au⟩
 refine gc6 (λbz=>?_) λbz=>?_
 ·
  refine go4 ?_;refine zH (zN (ρ:=rpI) (m:=8) (xs:=[(0:Int),(0:Int),(3:Int),(0:Int),(3:Int),(3:Int),(0:Int),(3:Int)]) (ps':=[(0,_),(1,_),(2,_),(3,_),(4,_),(5,_),(6,_),(7,_)]) underlying32 jV I I I wY ⟨I,I,I,I,I,I,I,I,I,I,I,I,I,I,I,I,y3i⟩ (zC I (y3e (y3u _) (0:Int) 0 dC) (wL dC dC) (zC I (y3e (y3u _) (0:Int) 1 dC) (wL dC dC) (zC I (y3e (y3u _) (0:Int) 2 dC) (wL dC dC) (zC I (y3e (y3u _) (0:Int) 3 dC) (wL dC dC) (zC I (y3e (y3u _) (0:Int) 4 dC) (wL dC dC) (zC I (y3e (y3u _) (0:Int) 5 dC) (wL dC dC) (zC I (y3e (y3u _) (0:Int) 6 dC) (wL dC dC) (zC I (y3e (y3u _) (0:Int) 7 dC) (wL dC dC) zQ)))))))) zop nP) I I I ?_
  rintro dy er ⟨db,rfl,bk⟩
  refine zX (A:=[]) (ρ:=rpI) bk ?_;intro h1 U ar;refine cL (ev3 I I I) call150 (λw hs=>gK hs oM oM oM oM ar (by first|omega|exact zce rfl|(intro q J;simp only[zfi,zgi,or_false] at J;omega)) (by first|omega|exact zce rfl|(intro q J;simp only[zfi,zgi,or_false] at J;omega)) (by first|omega|exact zce rfl|(intro q J;simp only[zfi,zgi,or_false] at J;omega))) λdx h2 O cf=>(go2 ?_);refine zH (zN (ρ:=rpI) (m:=6) (xs:=[(1:Int),(1:Int),(0:Int),(0:Int),(1:Int),(2:Int)]) (ps':=[(0,_),(1,_),(2,_),(3,_),(4,_),(5,_)]) underlying32 jV I I I wY e12 (zC I (y3e (y3u _) (0:Int) 0 dC) (wL dC dC) (zC I (y3e (y3u _) (0:Int) 1 dC) (wL dC dC) (zC I (y3e (y3u _) (0:Int) 2 dC) (wL dC dC) (zC I (y3e (y3u _) (0:Int) 3 dC) (wL dC dC) (zC I (y3e (y3u _) (0:Int) 4 dC) (wL dC dC) (zC I (y3e (y3u _) (0:Int) 5 dC) (wL dC dC) zQ)))))) zor nP) I I I ?_
  rintro dw eq ⟨da,rfl,bj⟩
  refine zX (A:=[]) (ρ:=rpI) bj ?_;intro h3 M aq;refine cL (ev3 I I I) call150 (λw hs=>gK hs oM oM oM oM aq (by first|omega|exact zce rfl|(intro q J;simp only[zfi,zgi,or_false] at J;omega)) (by first|omega|exact zce rfl|(intro q J;simp only[zfi,zgi,or_false] at J;omega)) (by first|omega|exact zce rfl|(intro q J;simp only[zfi,zgi,or_false] at J;omega))) λdv h4 ax ce=>(zH (zN (ρ:=(tLs 2)) (m:=2) (xs:=[aA z6 z8 [(0:Int),(0:Int),(3:Int),(0:Int),(3:Int),(3:Int),(0:Int),(3:Int)],aA z6 z8 [(1:Int),(1:Int),(0:Int),(0:Int),(1:Int),(2:Int)]]) (ps':=[(0,_),(1,_)]) underlying115 lH I I I wD e4z (zC I (y3e (y3u _) [] 0 dC) cf.up (zC I (y3e (y3u _) [] 1 dC) ce zQ)) zoq nP) I I I ?_)
  rintro du ep ⟨cz,rfl,bi⟩
  refine go6 ?_;refine wR (A:=[]) (ρ:=(tLs 2)) bi ?_;intro h5 aw ap;refine qL I I ?_;exact⟨_,(zme _),(((((((aj.trans ai).trans ah).trans U).trans O).trans M).trans ax).trans aw),_,_,I,by omega,(by first|exact zZD ⟨D,H⟩ ⟨C,G⟩|exact zZC ⟨D,H⟩ ⟨C,G⟩|exact zZB ⟨D,H⟩ ⟨C,G⟩|exact zZA ⟨D,H⟩ ⟨C,G⟩|exact zY9 ⟨D,H⟩ ⟨C,G⟩ ⟨ab,ae⟩ ⟨aa,ad⟩ ⟨Z,ac⟩),ap⟩
 refine gc6 (λbx=>?_) λbx=>?_
 ·
  refine go4 ?_;refine zH (zN (ρ:=rpI) (m:=10) (xs:=[(0:Int),(0:Int),(1:Int),(0:Int),(2:Int),(0:Int),(2:Int),(2:Int),(0:Int),(1:Int)]) (ps':=[(0,_),(1,_),(2,_),(3,_),(4,_),(5,_),(6,_),(7,_),(8,_),(9,_)]) underlying32 jV I I I wY ⟨I,I,I,I,I,I,I,I,I,I,I,I,I,I,I,I,I,I,I,I,y3i⟩ (zC I (y3e (y3u _) (0:Int) 0 dC) (wL dC dC) (zC I (y3e (y3u _) (0:Int) 1 dC) (wL dC dC) (zC I (y3e (y3u _) (0:Int) 2 dC) (wL dC dC) (zC I (y3e (y3u _) (0:Int) 3 dC) (wL dC dC) (zC I (y3e (y3u _) (0:Int) 4 dC) (wL dC dC) (zC I (y3e (y3u _) (0:Int) 5 dC) (wL dC dC) (zC I (y3e (y3u _) (0:Int) 6 dC) (wL dC dC) (zC I (y3e (y3u _) (0:Int) 7 dC) (wL dC dC) (zC I (y3e (y3u _) (0:Int) 8 dC) (wL dC dC) (zC I (y3e (y3u _) (0:Int) 9 dC) (wL dC dC) zQ)))))))))) (show 10*1<=16777216 from by decide) nP) I I I ?_
  rintro dt eo ⟨cy,rfl,bh⟩
  refine zX (A:=[]) (ρ:=rpI) bh ?_;intro h1 U ao;refine cL (ev3 I I I) call150 (λw hs=>gK hs oM oM oM oM ao (by first|omega|exact zce rfl|(intro q J;simp only[zfi,zgi,or_false] at J;omega)) (by first|omega|exact zce rfl|(intro q J;simp only[zfi,zgi,or_false] at J;omega)) (by first|omega|exact zce rfl|(intro q J;simp only[zfi,zgi,or_false] at J;omega))) λdr h2 O cd=>(zH (zN (ρ:=(tLs 2)) (m:=1) (xs:=[aA z6 z8 [(0:Int),(0:Int),(1:Int),(0:Int),(2:Int),(0:Int),(2:Int),(2:Int),(0:Int),(1:Int)]]) (ps':=[(0,_)]) underlying115 lH I I I wD e2z (zC I (y3e (y3u _) [] 0 dC) cd zQ) zoj nP) I I I ?_)
  rintro dq en ⟨cw,rfl,bg⟩
  refine go6 ?_;refine wR (A:=[]) (ρ:=(tLs 2)) bg ?_;intro h3 M an;refine qL I I ?_;exact⟨_,(zme _),(((((aj.trans ai).trans ah).trans U).trans O).trans M),_,_,I,by omega,(by first|exact zZD ⟨D,H⟩ ⟨C,G⟩|exact zZC ⟨D,H⟩ ⟨C,G⟩|exact zZB ⟨D,H⟩ ⟨C,G⟩|exact zZA ⟨D,H⟩ ⟨C,G⟩|exact zY9 ⟨D,H⟩ ⟨C,G⟩ ⟨ab,ae⟩ ⟨aa,ad⟩ ⟨Z,ac⟩),an⟩
 refine go8 ?_;refine yL (A:=[]) (vs:=[_,vI (3)]) call33 e2z (λX w hs=>vJ hl.up zow oM oM hs) I ?_;intro dp fi em bw bs;obtain⟨fc,ba,rfl,cq,rfl,ab,ae⟩:=bs;refine gv (zV (p:=1) I I oM oM) I (go1 ?_);refine yL (A:=[]) (vs:=[_,vI (2)]) call33 e2z (λX w hs=>vJ hl.up zow oM oM hs) I ?_;intro dn fh el bv br;obtain⟨fb,az,rfl,cp,rfl,aa,ad⟩:=br;refine go1 ?_;refine yL (A:=[]) (vs:=[_,vI (2)]) call33 e2z (λX w hs=>vJ hl.up zow oM oM hs) I ?_;intro dm fg ek bu bq;obtain⟨fa,ay,rfl,co,rfl,Z,ac⟩:=bq;refine gv (zV (p:=1) I I oM oM) I (zH (zN (ρ:=rpI) (m:=6) (xs:=[(0:Int),(0:Int),((1:Int)+ba),(0:Int),az,((1:Int)+ay)]) (ps':=[(0,_),(1,_),(2,_),(3,_),(4,_),(5,_)]) underlying32 jV I I I wY e12 (zC I (y3e (y3u _) (0:Int) 0 dC) (wL dC dC) (zC I (y3e (y3u _) (0:Int) 1 dC) (wL dC dC) (zC I (y3e (y3u _) (0:Int) 2 dC) (wL oM oM) (zC I (y3e (y3u _) (0:Int) 3 dC) (wL dC dC) (zC I (y3e (y3u _) (0:Int) 4 dC) (wL oM oM) (zC I (y3e (y3u _) (0:Int) 5 dC) (wL oM oM) zQ)))))) zor nP) I I I ?_)
 rintro dl ej ⟨cv,rfl,bf⟩
 refine zX (A:=[]) (ρ:=rpI) bf ?_;intro h1 U am;refine cL (ev3 I I I) call150 (λw hs=>gK hs oM oM oM oM am (by first|omega|exact zce rfl|(intro q J;simp only[zfi,zgi,or_false] at J;omega)) (by first|omega|exact zce rfl|(intro q J;simp only[zfi,zgi,or_false] at J;omega)) (by first|omega|exact zce rfl|(intro q J;simp only[zfi,zgi,or_false] at J;omega))) λdk h2 O cc=>(zH (zN (ρ:=(tLs 2)) (m:=1) (xs:=[aA z6 z8 [(0:Int),(0:Int),((1:Int)+ba),(0:Int),az,((1:Int)+ay)]]) (ps':=[(0,_)]) underlying115 lH I I I wD e2z (zC I (y3e (y3u _) [] 0 dC) cc zQ) zoj nP) I I I ?_)
 rintro dj ei ⟨cu,rfl,be⟩
 refine go4 ?_;refine wR (A:=[]) (ρ:=(tLs 2)) be ?_;intro h3 M ak;refine qL I I ?_;exact⟨_,(zme _),((((((((aj.trans ai).trans ah).trans bw).trans bv).trans bu).trans U).trans O).trans M),_,_,I,by omega,(by first|exact zZD ⟨D,H⟩ ⟨C,G⟩|exact zZC ⟨D,H⟩ ⟨C,G⟩|exact zZB ⟨D,H⟩ ⟨C,G⟩|exact zZA ⟨D,H⟩ ⟨C,G⟩|exact zY9 ⟨D,H⟩ ⟨C,G⟩ ⟨ab,ae⟩ ⟨aa,ad⟩ ⟨Z,ac⟩),ak⟩
set_option maxHeartbeats 1000000 in
theorem zJ7{w0 w:World}{h0 h:Mem}{b k:Nat}{vl:Value}{xs:List Int}(hl:Is h vl xs)(hk:k<=xs.length){L:List Res}(hs:St w0 h0 (.var b 97 [vl,vI ↑k]::L) h w):
 Calls prog 58 #[vP b 0] w (bC w0 h0 h L (λg r q'=>∃k':Nat,∃m:Sq,q'=.var b 97 [vl,vI ↑k']/\k'<=xs.length/\zJG m/\(tSd 2 2 2 1).Is g r m)):=by
 have bl:=hl.lt63;refine jE (n:=23) (e:=[(0,vP b 0)]) (vs:=[vP b 0]) func58 rfl rfl (bL rfl) hs ⟨rfl,y3i⟩ (go2 ?_);refine nA (ρ:=(tSd 1 1 1 1)) (X:=([],([],[]))) qC (yF wD (yF wD wD)) λb2 ce ay=>(go5 ?_);refine yL (A:=[_]) (vs:=[_,vI (2)]) call33 e2z (λX w hs=>vJ hl zow oM oM hs) I ?_;intro v7 g7 q7 bg bc;obtain⟨k7,M,rfl,ca,rfl,U,Z⟩:=bc;refine go6 ?_;refine yL (A:=[_]) (vs:=[_]) call104 ⟨I,y3i⟩ (λX w hs=>zMH hl.up zow hs) I ?_;intro bt cc bw av ac;obtain⟨bz,J,rfl,bn,G,ac⟩:=ac;refine go1 ?_;refine cL (ev1 I) call39 (λw hs=>qI hs oM oM) λbs h1 bf bb=>(go3 ?_);refine yL (A:=[_]) (vs:=[_,vI (2)]) call33 e2z (λX w hs=>vJ hl.up zow oM oM hs) I ?_;intro br cb bv au aq;obtain⟨bx,H,rfl,bm,rfl,C,D⟩:=aq;refine go1 ?_;refine cL (ev1 I) call39 (λw hs=>qI hs oM oM) λbq h2 be ba=>?_;refine uH (vs:=[_,_,_]) I I I I call81 e3z (λw hs=>zIH hs ac.up bb.up ba dC dC dC (by first|omega|exact(zCZ G ⟨U,Z⟩ ⟨C,D⟩).1.1|exactλ_=>(zCZ G ⟨U,Z⟩ ⟨C,D⟩).1.2.2) (by first|omega|exact(zCZ G ⟨U,Z⟩ ⟨C,D⟩).1.1|exactλ_=>(zCZ G ⟨U,Z⟩ ⟨C,D⟩).1.2.2)) ?_;intro bp h3 cf bd ab;obtain⟨bu,bj,aw,rfl,ab,rfl,bk,O⟩:=ab
 change RL (tFc (1000*2+1000*2+1000*2+2000) (1000*2+1000*2+1000*2+2000)) h3 aw (prF J ((M:Int):Rat) ((((M+(1:Int))+H):Int):Rat)) at O
 replace ab:=Rp.Is.le ab (Le.p (Le.s (Le.t (Le.q (l:=26) oM))) (Le.refl _));replace O:=(Le.p (Le.p (Le.t (Le.q (l:=8000) oM)) (Le.q (l:=8000) oM)) (Le.refl _)).rl O;refine go3 ?_;refine nA (ρ:=(rpP (tLs 1) (rpP rpV (rpS (rpP rpI (rpP rpI (rpQ 1))))))) (X:=([],((Value.slice none 0 0),[]))) qC (yF wD (yF fG wD)) λb4 cd ax=>?_;have am:=(Le.p (Le.s (Le.t (Le.q (l:=26) dC))) (Le.p (Le.refl _) (Le.s (Le.p (Le.refl _) (Le.p (Le.refl _) (Le.q (l:=5) dC)))))).R ax;refine zU (A:=[]) (uB sizeOf50 pH am ab) λad aa=>(go5 ?_);refine zX (A:=[_]) (ρ:=(tFc 8000 8000)) O ?_;intro h4 ar an;replace aa:=aa.mono ar;have ap:(tSd 26 8000 8000 5).R h4 ad (prP J ((M:Int):Rat) ((((M+(1:Int))+H):Int):Rat),(prF J ((M:Int):Rat) ((((M+(1:Int))+H):Int):Rat),[])):=zD8 aa an;have ao:(tSd 26 8000 8000 5).R h4 ad (prP J ((M:Int):Rat) ((M+1+H:Int):Rat),prF J ((M:Int):Rat) ((M+1+H:Int):Rat),([]:List En)):=Rp.castR ap zoz;have ak:(tSd 2 2 2 1).R h4 ad (prP J ((M:Int):Rat) ((M+1+H:Int):Rat),prF J ((M:Int):Rat) ((M+1+H:Int):Rat),([]:List En)):=zFC ao (zEL (zCZ G ⟨U,Z⟩ ⟨C,D⟩).2).2;refine lX (xB qP pH ak) λbo az=>?_;have ah:=(Le.p (Le.s (Le.t (Le.q (l:=2) dC))) (Le.p (Le.s (Le.p (Le.p (Le.t (Le.q (l:=2) dC)) (Le.q (l:=2) dC)) (Le.refl _))) (Le.refl _))).R ay;refine zU (A:=[_]) (uB sizeOf50 pH ah az) λbh aj=>(go3 ?_);refine xH (qK (t:=2) qP mh1 I aj) ?_;intro bi ae ai;refine fK (λE S=>zS I ae E S) ?_;exact⟨_,(.cons _ (.cons _ (zme _))),((((((bg.trans av).trans bf).trans au).trans be).trans bd).trans ar),_,_,I,by omega,(zCZ G ⟨U,Z⟩ ⟨C,D⟩).2,ai⟩
set_option maxHeartbeats 1000000 in
theorem zJ6{w0 w:World}{h0 h:Mem}{b k:Nat}{vl:Value}{xs:List Int}(hl:Is h vl xs)(hk:k<=xs.length){L:List Res}(hs:St w0 h0 (.var b 97 [vl,vI ↑k]::L) h w):
 Calls prog 21 #[vP b 0] w (bC w0 h0 h L (λg r q'=>∃k':Nat,∃m:Sq,q'=.var b 97 [vl,vI ↑k']/\k'<=xs.length/\zJG m/\(tSd 2 2 2 1).Is g r m)):=by
 have ay:=hl.lt63;refine jE (n:=15) (e:=[(0,vP b 0)]) (vs:=[vP b 0]) func21 rfl rfl (bL rfl) hs ⟨rfl,y3i⟩ (go2 ?_);refine nA (ρ:=(tSd 1 1 1 1)) (X:=([],([],[]))) qC (yF wD (yF wD wD)) λb2 bt aa=>(go6 ?_);refine yL (A:=[_]) (vs:=[_,vI (5)]) call33 e2z (λX w hs=>vJ hl zow oM oM hs) I ?_;intro v4 g4 q4 ah aq;obtain⟨k4,z4,rfl,bq,rfl,bn,bo⟩:=aq;refine gc9 (λav=>?_) λav=>?_
 ·
  refine go3 ?_;refine yL (A:=[_]) (vs:=[_]) call57 ⟨I,y3i⟩ (λX w hs=>zPK hl.up zow hs) I ?_;intro v8 g8 q8 ar ae;obtain⟨k8,p8,rfl,bp,ab,ae⟩:=ae;have aj:=(Le.p (Le.s (Le.t (Le.q (l:=2) dC))) (Le.p (Le.s (Le.p (Le.p (Le.t (Le.q (l:=2) dC)) (Le.q (l:=2) dC)) (Le.refl _))) (Le.refl _))).R aa;refine zU (A:=[]) (uB sizeOf50 pH aj ae) λbc an=>(go5 ?_);refine xH (qK (t:=2) qP mh0 I an) ?_;intro be ad ak;refine fK (λE S=>zS I ad E S) ?_;exact⟨_,(.cons _ (zme _)),(ah.trans ar),_,_,I,by omega,(by first|exact ab|exact D|exact zEI C),ak⟩
 refine gc6 (λau=>?_) λau=>?_
 ·
  refine go3 ?_;refine yL (A:=[_]) (vs:=[_]) call58 ⟨I,y3i⟩ (λX w hs=>zJ7 hl.up zow hs) I ?_;intro bg bs bi ap H;obtain⟨bm,bk,rfl,ba,D,H⟩:=H;have ai:=(Le.p (Le.s (Le.t (Le.q (l:=2) dC))) (Le.p (Le.s (Le.p (Le.p (Le.t (Le.q (l:=2) dC)) (Le.q (l:=2) dC)) (Le.refl _))) (Le.refl _))).R aa;refine zU (A:=[]) (uB sizeOf50 pH ai H) λbb am=>(go5 ?_);refine xH (qK (t:=2) qP mh0 I am) ?_;intro bd ac U;refine fK (λE S=>zS I ac E S) ?_;exact⟨_,(.cons _ (zme _)),(ah.trans ap),_,_,I,by omega,(by first|exact ab|exact D|exact zEI C),U⟩
 refine go6 ?_;refine yL (A:=[_]) (vs:=[_]) call59 ⟨I,y3i⟩ (λX w hs=>zJ5 hl.up zow hs) I ?_;intro bf br bh ao G;obtain⟨bl,bj,rfl,az,C,G⟩:=G;have M:=(Le.p (Le.s (Le.t (Le.q (l:=2) dC))) (Le.p (Le.s (Le.p (Le.p (Le.t (Le.q (l:=2) dC)) (Le.q (l:=2) dC)) (Le.refl _))) (Le.refl _))).R aa;refine zU (A:=[]) (uB sizeOf50 pH M G) λaw Z=>(go3 ?_);refine xH (qK (t:=2) qP mh0 I Z) ?_;intro ax J O;refine fK (λE S=>zS I J E S) ?_;exact⟨_,(.cons _ (zme _)),(ah.trans ao),_,_,I,by omega,(by first|exact ab|exact D|exact zEI C),O⟩
set_option maxHeartbeats 1000000 in
theorem zEC{w0:World}{h0:Mem}(hs:MLe h0 (mem w0)){vl:Value}{xsl:List Int}(hl:Is h0 vl xsl):
 Calls prog 5 #[vl] w0 (Ret w0 h0 (λ_ r=>r=.bool true)):=by
 have dc:=hl.lt63;have ba:SaneF:=zVF;refine cb1 87 vl func5 hs ?_;refine go9 ?_;refine cL (ev1 I) call19 (λw hs=>zPT hs hl) λfr h1 ga bn=>?_;subst bn;refine gc3 (λbo=>?_) λbo=>?_
 ·
  refine go2 ?_;refine cL (vs:=[]) trivial call8 (λw hs=>zAQ hs ba) λfq h2 dh bm=>?_;subst bm;refine go5 ?_;refine zF I I ?_
  rfl
 refine go5 ?_;refine uH (vs:=[_]) I I I I call20 ⟨I,y3i⟩ (λw hs=>zTP hs hl.up) ?_;intro fp h2 gy dh bl;obtain⟨gu,rfl,rfl⟩:=bl;refine go6 ?_;refine yL (A:=[]) (vs:=[_]) call21 ⟨I,y3i⟩ (λX w hs=>zJ6 hl.up zow hs) I ?_;intro fo go ft ea ac;obtain⟨fv,G,rfl,dm,ah,ac⟩:=ac;have D:=zEL ah;refine go1 ?_;refine yL (A:=[]) (vs:=[_]) call22 ⟨I,y3i⟩ (λX w hs=>zPJ hl.up zow hs) I ?_;intro fm gn fs dz ab;obtain⟨fu,H,rfl,dl,ab⟩:=ab;refine nA (ρ:=(tSd 1 1 1 1)) (X:=([],([],[]))) qC (yF wD (yF wD wD)) λb4 gt bu=>(nA (ρ:=(rpP (rpT (tPt 1)) (tPt 1))) (X:=((T3.mk zT zT zT),zT)) eB (yF (yS (yS (yE dC))) (yS (yE dC))) λb5 gs bt=>?_);have bg:=(Le.p (Le.s (Le.t (Le.q (l:=2) dC))) (Le.p (Le.s (Le.p (Le.p (Le.t (Le.q (l:=2) dC)) (Le.q (l:=2) dC)) (Le.refl _))) (Le.refl _))).R bu;refine zU (A:=[_]) (uB sizeOf50 pH bg ac) λed aa=>?_;have bf:=(Le.p (Le.t (Le.t (Le.q (l:=2) dC))) (Le.t (Le.q (l:=2) dC))).R bt;refine zU (A:=[]) (uB sizeOf56 pH bf ab) λec Z=>(go4 ?_);refine lX (xB qP pH aa) λfl cy=>(lX (xB zA1 pH Z) λfk cw=>(cL (ev2 I I) call23 (λw hs=>zWP hs cy cw (by first|omega|exact D.1.2|exact D.1.1|exact C.ks.1|exact C.ks.2.1|exact C.ks.2.2|exact C.kt.1|exact C.kt.2.1|exact C.kt.2.2|exact C.kf.1|exact C.kf.2.1|exact C.kf.2.2) (by first|omega|exact D.1.2|exact D.1.1|exact C.ks.1|exact C.ks.2.1|exact C.ks.2.2|exact C.kt.1|exact C.kt.2.1|exact C.kt.2.2|exact C.kf.1|exact C.kf.2.1|exact C.kf.2.2) dC dC dC dC dC dC dC dC dC dC dC) λfj h3 fz cv=>?_));obtain⟨ak,rfl,O⟩:=cv
 change (tSd (3*2+3*2+2+10) (600*2+20*2+2000) (600*2+20*2+9*2+3*2+2+2000) 1).Is h3 ak (mvR H G) at O
 replace O:=Rp.Is.le O (Le.p (Le.s (Le.t (Le.q (l:=24) oM))) (Le.p (Le.s (Le.p (Le.p (Le.t (Le.q (l:=3240) oM)) (Le.q (l:=3266) oM)) (Le.refl _))) (Le.refl _)));refine go3 ?_;refine nA (ρ:=(tSd 1 1 1 1)) (X:=([],([],[]))) qC (yF wD (yF wD wD)) λb6 gr bs=>?_;have be:=(Le.p (Le.s (Le.t (Le.q (l:=24) dC))) (Le.p (Le.s (Le.p (Le.p (Le.t (Le.q (l:=3240) dC)) (Le.q (l:=3266) dC)) (Le.refl _))) (Le.refl _))).R bs;refine zU (A:=[]) (uB sizeOf50 pH be O) λeb ae=>(u6 (λad=>?_) λad=>?_)
 ·
  have hz:qG H=0:=zdi λe=>ad (zae e);refine go2 ?_;refine lX (xB zA1 pH Z) λfi cu=>(cL (ev1 I) call24 (λw hs=>nC hs cu dC) λfh h4 df az=>?_);replace az:=Rp.Is.le az (Le.q (l:=48) oM);refine cL (ev1 I) call17 (λw hs=>vX hs az dC) λbq h5 de ct=>?_;obtain rfl:bq=vI (yU (qG H)):=ct;have da:=xW (qG H);refine gv (OpV.tr (by rw[hz];exact zSU) (mN (q:=0) I I)) I (go2 ?_);refine cL (vs:=[]) trivial call8 (λw hs=>zAQ hs ba) λfg h6 dd bk=>?_;subst bk;refine go6 ?_;refine zF I I ?_
  rfl
 have db:¬qG H=0:=λe=>ad (by rw[zau e];decide);have C:=zW2 ah db;refine go4 ?_;refine lX (xB qP pH aa) λff cq=>(cL (ev1 I) call25 (λw hs=>zAI hs cq dC (by first|omega|exact D.1.2|exact D.1.1|exact C.ks.1|exact C.ks.2.1|exact C.ks.2.2|exact C.kt.1|exact C.kt.2.1|exact C.kt.2.2|exact C.kf.1|exact C.kf.2.1|exact C.kf.2.2) (by first|omega|exact D.1.2|exact D.1.1|exact C.ks.1|exact C.ks.2.1|exact C.ks.2.2|exact C.kt.1|exact C.kt.2.1|exact C.kt.2.2|exact C.kf.1|exact C.kf.2.1|exact C.kf.2.2) (by first|omega|exact D.1.2|exact D.1.1|exact C.ks.1|exact C.ks.2.1|exact C.ks.2.2|exact C.kt.1|exact C.kt.2.1|exact C.kt.2.2|exact C.kf.1|exact C.kf.2.1|exact C.kf.2.2)) λfe h4 df cp=>?_);obtain⟨aj,rfl,M⟩:=cp
 change (tPt (50000*2+300000)).Is h4 aj (cnS G) at M
 replace M:=Rp.Is.le M (Le.t (Le.q (l:=400000) oM));rw[wB (show(cnO G) from C.os)];refine go3 ?_;refine nA (ρ:=(tPt 1)) (X:=zT) yO (yS (yE dC)) λb8 gq br=>?_;have ao:=(Le.t (Le.q (l:=400000) dC)).R br;refine zU (A:=[]) (uB sizeOf53 pH ao M) λdk aq=>(go5 ?_);refine lX (xB qP pH ae) λfd co=>(cL (ev1 I) call25 (λw hs=>zAI hs co dC (by first|omega|exact D.1.2|exact D.1.1|exact C.ks.1|exact C.ks.2.1|exact C.ks.2.2|exact C.kt.1|exact C.kt.2.1|exact C.kt.2.2|exact C.kf.1|exact C.kf.2.1|exact C.kf.2.2) (by first|omega|exact D.1.2|exact D.1.1|exact C.ks.1|exact C.ks.2.1|exact C.ks.2.2|exact C.kt.1|exact C.kt.2.1|exact C.kt.2.2|exact C.kf.1|exact C.kf.2.1|exact C.kf.2.2) (by first|omega|exact D.1.2|exact D.1.1|exact C.ks.1|exact C.ks.2.1|exact C.ks.2.2|exact C.kt.1|exact C.kt.2.1|exact C.kt.2.2|exact C.kf.1|exact C.kf.2.1|exact C.kf.2.2)) λfc h5 de cn=>?_);obtain⟨ai,rfl,J⟩:=cn
 change (tPt (50000*24+300000)).Is h5 ai (cnS (mvR H G)) at J
 replace J:=Rp.Is.le J (Le.t (Le.q (l:=1500000) oM));rw[wB (show(cnO (mvR H G)) from C.ot)];refine go3 ?_;refine nA (ρ:=(tPt 1)) (X:=zT) yO (yS (yE dC)) λgx ef bi=>?_;have an:=(Le.t (Le.q (l:=1500000) dC)).R bi;refine zU (A:=[]) (uB sizeOf53 pH an J) λdj ap=>(go5 ?_);refine lX (xB qP pH aa) λfb cm=>(cL (ev1 I) call26 (λw hs=>oR hs cm dC (by first|omega|exact D.1.2|exact D.1.1|exact C.ks.1|exact C.ks.2.1|exact C.ks.2.2|exact C.kt.1|exact C.kt.2.1|exact C.kt.2.2|exact C.kf.1|exact C.kf.2.1|exact C.kf.2.2) (by first|omega|exact D.1.2|exact D.1.1|exact C.ks.1|exact C.ks.2.1|exact C.ks.2.2|exact C.kt.1|exact C.kt.2.1|exact C.kt.2.2|exact C.kf.1|exact C.kf.2.1|exact C.kf.2.2) (by first|omega|exact D.1.2|exact D.1.1|exact C.ks.1|exact C.ks.2.1|exact C.ks.2.2|exact C.kt.1|exact C.kt.2.1|exact C.kt.2.2|exact C.kf.1|exact C.kf.2.1|exact C.kf.2.2)) λfa h6 dd ay=>?_);replace ay:=Rp.Is.le ay (Le.q (l:=140004) oM);refine nA (ρ:=(rpQ 1)) (X:=(0:Rat)) yR (yE dC) λgw ee bh=>?_;have am:=(Le.q (l:=140004) dC).R bh;refine zU (A:=[]) (uB sizeOf26 pH am ay) λdi U=>(go3 ?_);refine zK 38 _ [] (zai 0 7 [(8,.q),(7,.c),(9,.c),(10,.q),(11,.q),(12,.q),(14,.q),(17,.q),(13,.c),(15,.c),(16,.c),(18,.c),(19,.c),(20,.q),(21,.q),(22,.q),(25,.q),(23,.c),(24,.c),(26,.c),(27,.c),(28,.q),(29,.q),(30,.q),(31,.c),(32,.q),(33,.q),(34,.q),(35,.c),(36,.q),(37,.q)]) yA nX (wV zot) nX (λr hr=>hr) (go2 ?_);refine xG I I I (λh' L' hh hR=>xL I) I (go2 ?_);refine oX I (xB zA1 pH Z) λez cl=>(oX I (xB zR pH aq) λey ck=>(oX I (xB zR pH ap) λev cj=>?_));refine w_c I (rC I I (sC (ev2 I I) call28 (λw hs=>zF0 hs cl ck dC dC dC) λew h7 fy ax=>?_));replace ax:=Rp.Is.le ax (Le.t (Le.q (l:=1200018) oM));refine w_c I (rC I I (sC (ev2 I I) call27 (λw hs=>x0 hs ax cj.up dC) λbd h8 fx ci=>?_));obtain rfl:bd=.bool true:=by rw[show bd=vB ((qT H (cnS G))=(cnS (mvR H G))) from ci,wB (by exact C.c)]
 refine go2 ?_;refine oX I (xB qP pH ae) λeu ch=>(oX I (xB zA1 pH Z) λer cg=>(oX I (xB yJ pH U) λeo ce=>?_));refine w_c I (rC I I (sC (ev1 I) call26 (λw hs=>oR hs ch dC (by first|omega|exact D.1.2|exact D.1.1|exact C.ks.1|exact C.ks.2.1|exact C.ks.2.2|exact C.kt.1|exact C.kt.2.1|exact C.kt.2.2|exact C.kf.1|exact C.kf.2.1|exact C.kf.2.2) (by first|omega|exact D.1.2|exact D.1.1|exact C.ks.1|exact C.ks.2.1|exact C.ks.2.2|exact C.kt.1|exact C.kt.2.1|exact C.kt.2.2|exact C.kf.1|exact C.kf.2.1|exact C.kf.2.2) (by first|omega|exact D.1.2|exact D.1.1|exact C.ks.1|exact C.ks.2.1|exact C.ks.2.2|exact C.kt.1|exact C.kt.2.1|exact C.kt.2.2|exact C.kf.1|exact C.kf.2.1|exact C.kf.2.2)) λes h9 fw aw=>?_));replace aw:=Rp.Is.le aw (Le.q (l:=580004) oM);refine w_c I (rC I I (sC (ev1 I) call24 (λw hs=>nC hs cg.up dC) λeq gm dy av=>?_));replace av:=Rp.Is.le av (Le.q (l:=48) oM);refine w_c I (rC I I (sC (ev1 I) call29 (λw hs=>zFV hs av dC) λep gk dx cf=>?_));refine w_c I (rC I I (sC (ev2 I I) call9 (λw hs=>qS hs cf ce.up dC) λen gj dw au=>?_));replace au:=Rp.Is.le au (Le.q (l:=140052) oM);refine w_c I (rC I I (sC (ev2 I I) call15 (λw hs=>qH hs aw.up au dC) λbc gi dv cd=>?_));obtain rfl:bc=.bool true:=by rw[show bc=vB ((pX (mvR H G)/((6:Int):Rat))=((cM (qG H))*(pX G/((6:Int):Rat)))) from cd,wB (by exact C.v)]
 refine go2 ?_;refine oX I (xB qP pH aa) λem cc=>(oX I (xB yJ pH U) λej ca=>?_);refine w_c I (rC I I (sC (ev1 I) call30 (λw hs=>zWR hs cc (by first|omega|exact D.1.2|exact D.1.1|exact C.ks.1|exact C.ks.2.1|exact C.ks.2.2|exact C.kt.1|exact C.kt.2.1|exact C.kt.2.2|exact C.kf.1|exact C.kf.2.1|exact C.kf.2.2) dC dC dC dC) λel gh du cb=>?_));refine w_c I (rC I I (sC (ev1 I) call26 (λw hs=>oR hs cb dC (by first|omega|exact D.1.2|exact D.1.1|exact C.ks.1|exact C.ks.2.1|exact C.ks.2.2|exact C.kt.1|exact C.kt.2.1|exact C.kt.2.2|exact C.kf.1|exact C.kf.2.1|exact C.kf.2.2) (by first|omega|exact D.1.2|exact D.1.1|exact C.ks.1|exact C.ks.2.1|exact C.ks.2.2|exact C.kt.1|exact C.kt.2.1|exact C.kt.2.2|exact C.kf.1|exact C.kf.2.1|exact C.kf.2.2) (by first|omega|exact D.1.2|exact D.1.1|exact C.ks.1|exact C.ks.2.1|exact C.ks.2.2|exact C.kt.1|exact C.kt.2.1|exact C.kt.2.2|exact C.kf.1|exact C.kf.2.1|exact C.kf.2.2)) λek gg dt ar=>?_));replace ar:=Rp.Is.le ar (Le.q (l:=140004) oM);refine w_c I (rC I I (sC (ev1 I) call31 (λw hs=>lE hs ca.up dC) λei gf dr bz=>?_));refine w_c I (rC I I (sC (ev2 I I) call15 (λw hs=>qH hs ar.up bz dC) λbb ge dq bx=>?_));obtain rfl:bb=.bool true:=by rw[show bb=vB ((pX (flS G)/((6:Int):Rat))=(-(pX G/((6:Int):Rat)))) from bx,wB (by exact C.f)]
 refine go2 ?_;refine oX I (xB yJ pH U) λeh bw=>?_;refine w_c I (rC I I (sC (ev1 I) call17 (λw hs=>vX hs bw dC) λbp gc dp bv=>?_));obtain rfl:bp=vI (yU (pX G/((6:Int):Rat))):=bv;have cz:=xW (pX G/((6:Int):Rat));refine xG I I I (λh' L' hh hR=>OpV.tr (by exact y0.2 C.p) (aY (q:=0) I I)) I (go2 ?_);refine w_c I (rC I I (sC (vs:=[]) trivial call8 (λw hs=>zAQ hs ba) λeg gb dn bj=>?_));subst bj;refine go5 ?_;refine zF I I ?_
 rfl
end Go.Proofs.YtboaboflnckgoaaGreat
