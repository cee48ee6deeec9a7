/- Texts that the proof needs, part 8. -/
import Derived.Test.YtpkaegemlpaenaaGreatKC7
set_option linter.unusedVariables false
set_option linter.unusedSimpArgs false
namespace Bk
open Classical
section
variable {v:I3}
theorem yDL(a b c:I3):thN (cP v a) (cP v b) (cP v c)=nr3 (th3 a b c):=by
 unfold thN xQ uL nr3 th3 cx3 sb3 cP;simp only[Rat.intCast_sub,Rat.intCast_add,Rat.intCast_mul]
 congr 1<;>grind
theorem yKQ{n:I3}:nr3 n=zT↔n=z3:=by
 constructor
 · intro e
   have G:=Rat.intCast_inj.1 (show(n.1:Rat)=((0:Int):Rat) from congrArg T3.x e);have D:=Rat.intCast_inj.1 (show(n.2.1:Rat)=((0:Int):Rat) from congrArg T3.y e);have C:=Rat.intCast_inj.1 (show(n.2.2:Rat)=((0:Int):Rat) from congrArg T3.z e);exact Prod.ext G (Prod.ext D C)
 · rintro rfl;rfl
theorem yIG(n u:I3):xH (nr3 n) (cP v u)=((dt3 n u+dt3 n v:Int):Rat):=by
 unfold xH nr3 cP dt3;simp only[Rat.intCast_add,Rat.intCast_mul];grind
theorem zJN{a b c:I3}(h:¬th3 a b c=z3):thZ (cP v a) (cP v b) (cP v c)=(nr3 (th3 a b c),((dt3 (th3 a b c) a+dt3 (th3 a b c) v:Int):Rat)):=by
 rw[(zU4 (λe=>h (yKQ.1 (by rw[<-yDL (v:=v)];exact e)))).1,yDL,yIG]
theorem yGQ{A B C T:I3}(h0:¬th3 A B C=z3)(h1:¬th3 A B T=z3)(h2:¬th3 B C T=z3)(h3:¬th3 C A T=z3):aJ v (pyI A B C T) (pyR [cP v A,cP v B,cP v C] (cP v T)):=by
 have H:qP (((0:Nat):Int):Rat)=[48]:=mW (n:=0) zow;have G:qP (((1:Nat):Int):Rat)=[49]:=mW (n:=1) zow;have D:qP (((2:Nat):Int):Rat)=[50]:=mW (n:=2) zow;refine⟨I,I,I,λf M=>?_⟩;have J:f<4:=M;have:f=0\/f=1\/f=2\/f=3:=by omega
 rcases this with rfl|rfl|rfl|rfl
 · refine nC ?_ ?_
   · show thZ (cP v A) (cP v B) (cP v T)=_
     rw[zJN h1];rfl
   · show([[((0:Nat):Int),((1%3:Nat):Int),((3:Nat):Int)]],[115]++qP (((0:Nat):Int):Rat))=_
     rw[H];rfl
 · refine nC ?_ ?_
   · show thZ (cP v B) (cP v C) (cP v T)=_
     rw[zJN h2];rfl
   · show([[((1:Nat):Int),((2%3:Nat):Int),((3:Nat):Int)]],[115]++qP (((1:Nat):Int):Rat))=_
     rw[G];rfl
 · refine nC ?_ ?_
   · show thZ (cP v C) ([cP v A,cP v B,cP v C].getD ((2+1)%3) zT) (cP v T)=_
     rw[show[cP v A,cP v B,cP v C].getD ((2+1)%3) zT=cP v A from I,zJN h3];rfl
   · show([[((2:Nat):Int),(((2+1)%3:Nat):Int),((3:Nat):Int)]],[115]++qP (((2:Nat):Int):Rat))=_
     rw[D];rfl
 · refine nC ?_ ?_
   · show opP (thZ (cP v A) (cP v B) (cP v C))=(nr3 (ng3 (th3 A B C)),((-dt3 (th3 A B C) A+dt3 (ng3 (th3 A B C)) v:Int):Rat))
     rw[zJN h0];generalize th3 A B C=n;unfold opP nr3 ng3 dt3;have O:((-1:Int):Rat)= -1:=I;refine Prod.ext ?_ ?_
     · simp only[Rat.intCast_neg,O]
       congr 1<;>grind
     · simp only[Rat.intCast_neg,Rat.intCast_add,Rat.intCast_mul]
       grind
   · rfl
end
theorem zJO{p c q e f g:Nat}(hp:p<3)(hc:c<2)(hq:q<3)(he:e<3)(hf:f<3)(hg:g<3):(chI (teI p c q e f g)=true/\nmB (teI p c q e f g)=true)/\chI (nrI (teI p c q e f g))=true:=by
 have h:=yJX hp hc hq he hf hg;unfold zCP at h;rw[Bool.and_eq_true,Bool.and_eq_true] at h;exact h
theorem zR8{P:List I3}{F:List FI}(h:chI (P,F)=true){f:Nat}(hf:f<F.length):¬(F.getD f fi0).1=z3:=by
 unfold chI at h;replace h:=(Bool.and_eq_true _ _▸h).2;rw[Bool.and_eq_true,Bool.and_eq_true,Bool.and_eq_true] at h;have C:=zob.1 h.1.1.2 _ (gC (d:=fi0) hf);unfold faB at C;replace C:=(Bool.and_eq_true _ _▸C).2;rw[Bool.and_eq_true,Bool.and_eq_true,Bool.not_eq_true',decide_eq_false_iff_not] at C;exact C.1.2
def teL(x y z:Int)(p c q:Nat):List Pt:=[pI x y z,pI (x+(1+p)) y z,pI (x+c) (y+(1+q)) z]
def teA(x y z:Int)(e f g:Nat):Pt:=pI (x+e) (y+f) (z+(1+g))
theorem zU5{x y z:Int}{p c q e f g:Nat}(hp:p<3)(hc:c<2)(hq:q<3)(he:e<3)(hf:f<3)(hg:g<3):aJ (x,y,z) (teI p c q e f g) (pyR (teL x y z p c q) (teA x y z e f g)):=by
 have h:=(zJO hp hc hq he hf hg).1.1;have H:=zR8 h (f:=0) (show 0<4 by decide);have G:=zR8 h (f:=1) (show 1<4 by decide);have D:=zR8 h (f:=2) (show 2<4 by decide);have J:=zR8 h (f:=3) (show 3<4 by decide);have h0:¬th3 (0,0,0) (1+(p:Int),0,0) ((c:Int),1+(q:Int),0)=z3:=λU=>J (by
  show ng3 (th3 _ _ _)=z3
  rw[show th3 _ _ _=z3 from U];rfl)
 have C:=yGQ (v:=(x,y,z)) h0 H G D;have O:[cP (x,y,z) (0,0,0),cP (x,y,z) (1+(p:Int),0,0),cP (x,y,z) ((c:Int),1+(q:Int),0)]=teL x y z p c q:=by
  unfold teL cP pI;simp
 have M:cP (x,y,z) ((e:Int),(f:Int),1+(g:Int))=teA x y z e f g:=by
  unfold teA cP pI;simp
 rw[O,M] at C;exact C
theorem yAT{x y z:Int}{p c q e f g:Nat}:(¬thN ((teL x y z p c q).getD 0 zT) ((teL x y z p c q).getD 1 zT) ((teL x y z p c q).getD 2 zT)=zT)/\zG7 (thZ ((teL x y z p c q).getD 0 zT) ((teL x y z p c q).getD 1 zT) ((teL x y z p c q).getD 2 zT)) (teL x y z p c q)/\0<sdZ (thZ ((teL x y z p c q).getD 0 zT) ((teL x y z p c q).getD 1 zT) ((teL x y z p c q).getD 2 zT)) (teA x y z e f g):=by
 have H:0<(1+(p:Int))*(1+(q:Int)):=Int.mul_pos zot zot;have hG:0<(1+(p:Int))*(1+(q:Int))*(1+(g:Int)):=Int.mul_pos H zot;have hN:thN (pI x y z) (pI (x+(1+p)) y z) (pI (x+c) (y+(1+q)) z)=T3.mk (0:Rat) (0:Rat) (((1+(p:Int))*(1+(q:Int)):Int):Rat):=by
  unfold thN xQ uL pI;simp only[Rat.intCast_add,Rat.intCast_mul]
  congr 1<;>grind
 have hz:¬thN (pI x y z) (pI (x+(1+p)) y z) (pI (x+c) (y+(1+q)) z)=zT:=λe=>by
  rw[hN] at e;have:=Rat.intCast_inj.1 (show _=((0:Int):Rat) from congrArg T3.z e);omega
 have hZ:thZ (pI x y z) (pI (x+(1+p)) y z) (pI (x+c) (y+(1+q)) z)=(T3.mk (0:Rat) (0:Rat) (((1+(p:Int))*(1+(q:Int)):Int):Rat),(((1+(p:Int))*(1+(q:Int))*z:Int):Rat)):=by
  rw[(zU4 hz).1,hN];unfold xH pI;simp only[Rat.intCast_mul,Rat.zero_mul,Rat.zero_add]
 generalize hm:(1+(p:Int))*(1+(q:Int))=m at H hG hN hZ;have J:∀X Y Z:Int,sdZ (T3.mk (0:Rat) (0:Rat) ((m:Int):Rat),((m*z:Int):Rat)) (pI X Y Z)=sgI (m*(Z-z)):=λX Y Z=>by
  have:hgt (T3.mk (0:Rat) (0:Rat) ((m:Int):Rat),((m*z:Int):Rat)) (pI X Y Z)=((m*(Z-z):Int):Rat):=by
   unfold hgt xH pI;simp only[Rat.intCast_mul,Rat.intCast_sub];grind
  unfold sdZ;rw[this,mA];rfl
 have aa:∀X Y:Int,sdZ (T3.mk (0:Rat) (0:Rat) ((m:Int):Rat),((m*z:Int):Rat)) (pI X Y z)=0:=λX Y=>by
  rw[J,Int.sub_self,Int.mul_zero];rfl
 have M:axI (T3.mk (0:Rat) (0:Rat) ((m:Int):Rat))=0/\axJ (T3.mk (0:Rat) (0:Rat) ((m:Int):Rat))=1:=⟨if_pos (Rat.intCast_pos.2 H),if_pos (Rat.intCast_pos.2 H)⟩;have D:∀X Y Z:Int,pt2 (T3.mk (0:Rat) (0:Rat) ((m:Int):Rat),((m*z:Int):Rat)) (pI X Y Z)=ag (x:Rat) 1 (y:Rat) 1 (X-x,Y-y):=λX Y Z=>by
  unfold pt2 ag;rw[M.1,M.2];unfold pr pI;simp only[T3.at,Rat.intCast_sub];refine Prod.ext ?_ ?_<;>grind
 refine⟨hz,?_,?_⟩
 · show zG7 (thZ (pI x y z) (pI (x+(1+p)) y z) (pI (x+c) (y+(1+q)) z)) _
   rw[hZ];refine⟨⟨show 3<=3 from Nat.le_refl 3,λe=>?_⟩,λi hi=>?_,λi k hi h2 hk=>?_⟩
   · have:=Rat.intCast_inj.1 (show _=((0:Int):Rat) from congrArg T3.z e)
     omega
   · have G:i<3:=hi
     rcases zIA G with rfl|rfl|rfl<;>exact aa _ _
   · have G:i<3:=hi
     have ab:k<3:=hk;have:k=2:=by omega
     subst this;have C:∀u w t:PI,0<crI u w t->0<orZ (ag (x:Rat) 1 (y:Rat) 1 u) (ag (x:Rat) 1 (y:Rat) 1 w) (ag (x:Rat) 1 (y:Rat) 1 t):=λu w t h=>by
      rw[zZ5 zow zow];exact dE.2 h
     have pA:pt2 (T3.mk (0:Rat) (0:Rat) ((m:Int):Rat),((m*z:Int):Rat)) (pI x y z)=ag (x:Rat) 1 (y:Rat) 1 (0,0):=by rw[D,Int.sub_self,Int.sub_self]
     have U:pt2 (T3.mk (0:Rat) (0:Rat) ((m:Int):Rat),((m*z:Int):Rat)) (pI (x+(1+p)) y z)=ag (x:Rat) 1 (y:Rat) 1 (1+(p:Int),0):=by rw[D,Int.sub_self,show x+(1+(p:Int))-x=1+(p:Int) by omega]
     have O:pt2 (T3.mk (0:Rat) (0:Rat) ((m:Int):Rat),((m*z:Int):Rat)) (pI (x+c) (y+(1+q)) z)=ag (x:Rat) 1 (y:Rat) 1 ((c:Int),1+(q:Int)):=by rw[D,show x+(c:Int)-x=(c:Int) by omega,show y+(1+(q:Int))-y=1+(q:Int) by omega]
     have c1:crI (0,0) (1+(p:Int),0) ((c:Int),1+(q:Int))=m:=by rw[<-hm];simp[crI]
     have c2:crI (1+(p:Int),0) ((c:Int),1+(q:Int)) (0,0)=m:=by rw[<-hm];simp[crI];grind
     have c3:crI ((c:Int),1+(q:Int)) (0,0) (1+(p:Int),0)=m:=by rw[<-hm];simp[crI];grind
     have hL:(teL x y z p c q).length=3:=I;have g0:gp (teL x y z p c q) 0=pI x y z:=I;have g1:gp (teL x y z p c q) 1=pI (x+(1+p)) y z:=I;have g2:gp (teL x y z p c q) 2=pI (x+c) (y+(1+q)) z:=I;unfold nx;rw[hL]
     rcases zIA G with rfl|rfl|rfl
     · rw[show(0+1)%3=1 from I,show(0+2)%3=2 from I,g0,g1,g2,pA,U,O]
       exact C _ _ _ (by rw[c1];exact H)
     · rw[show(1+1)%3=2 from I,show(1+2)%3=0 from I,g0,g1,g2,pA,U,O]
       exact C _ _ _ (by rw[c2];exact H)
     · rw[show(2+1)%3=0 from I,show(2+2)%3=1 from I,g0,g1,g2,pA,U,O]
       exact C _ _ _ (by rw[c3];exact H)
 · show 0<sdZ (thZ (pI x y z) (pI (x+(1+p)) y z) (pI (x+c) (y+(1+q)) z)) (pI (x+e) (y+f) (z+(1+g)))
   rw[hZ,J];refine dE.2 ?_;rw[show z+(1+(g:Int))-z=1+(g:Int) by omega];exact hG
theorem yE5{x y z:Int}{p c q e f g:Nat}(hp:p<3)(hc:c<2)(hq:q<3)(he:e<3)(hf:f<3)(hg:g<3):pyH (teL x y z p c q) (teA x y z e f g):=by
 obtain⟨h1,h2,h3⟩:=yAT (x:=x) (y:=y) (z:=z) (p:=p) (c:=c) (q:=q) (e:=e) (f:=f) (g:=g);exact⟨⟨⟨by show 3<=3;decide,by show 3<=64;decide⟩,h1⟩,⟨h2,h3⟩,(zBM (zU5 hp hc hq he hf hg) (zJO hp hc hq he hf hg).1.1).2⟩
def baF(T:List (List PI)):Prop:=T∈baT\/∃a b c:Nat,(a<3/\b<2/\c<2)/\T=trT a b c
def zY1(I:SI):Prop:=(∃p q r:Nat,(p<2/\q<2/\r<2)/\I=bxJ (1+p:Nat) (1+q:Nat) (1+r:Nat))\/(∃T h,baF T/\(h=1\/h=2)/\I=nrI (prI T h))\/
 ∃p c q e f g:Nat,(p<3/\c<2/\q<3)/\(e<3/\f<3/\g<3)/\I=nrI (teI p c q e f g)
def zHJ(s:Sd):Prop:=∃v I,zY1 I/\bdV v/\aJ v I s
theorem yED{T:List (List PI)}{h:Int}(hT:baF T)(hh:h=1\/h=2):nsI T=true/\zCP (prI T h)=true:=by
 have g:∀T,(nsI T&&zCP (prI T 1)&&zCP (prI T 2))=true->nsI T=true/\zCP (prI T h)=true:=λT e=>by
  rw[Bool.and_eq_true,Bool.and_eq_true] at e
  rcases hh with rfl|rfl
  · exact⟨e.1.1,e.1.2⟩
  · exact⟨e.1.1,e.2⟩
 rcases hT with hT|⟨a,b,c,⟨ha,hb,hc⟩,rfl⟩
 · exact g T (zob.1 yLN T hT)
 · exact g _ (zob.1 (zob.1 (zob.1 yJU a (zog.2 ha)) b (zog.2 hb)) c (zog.2 hc))
theorem zW1{I:SI}(h:zCP I=true):(chI I=true/\nmB I=true)/\chI (nrI I)=true:=by
 unfold zCP at h;rw[Bool.and_eq_true,Bool.and_eq_true] at h;exact h
theorem zY0{I:SI}(h:zY1 I):chI I=true:=by
 rcases h with⟨p,q,r,⟨hp,hq,hr⟩,rfl⟩|⟨T,h,hT,hh,rfl⟩|⟨p,c,q,e,f,g,⟨hp,hc,hq⟩,⟨he,hf,hg⟩,rfl⟩
 · exact yI8 hp hq hr
 · exact(zW1 (yED hT hh).2).2
 · exact(zJO hp hc hq he hf hg).2
theorem zAV{s:Sd}(h:zHJ s):(gK s/\okS s)/\smS 2 2 2 1 s:=by
 obtain⟨v,I,D,G,C⟩:=h;exact⟨zBM C (zY0 D),zVG C (zY0 D) G⟩
theorem nat_of{z:Int}{n:Nat}(h:0<=z/\z<n):∃m:Nat,m<n/\z=m:=⟨z.toNat,by omega,by omega⟩
section
variable {x y z:Int}(hx:0<=x/\x<3)(hy:0<=y/\y<3)(hz:0<=z/\z<3)
include hx hy hz
theorem zVS{p q r:Int}(hp:0<=p/\p<2)(hq:0<=q/\q<2)(hr:0<=r/\r<2):zHJ (bkS (pI x y z) (pI (x+1+p) (y+1+q) (z+1+r))):=by
 obtain⟨p,G,rfl⟩:=nat_of (n:=2) hp;obtain⟨q,D,rfl⟩:=nat_of (n:=2) hq;obtain⟨r,C,rfl⟩:=nat_of (n:=2) hr;refine⟨(x,y,z),_,.inl ⟨p,q,r,⟨G,D,C⟩,I⟩,⟨by show -1000<=x/\x<=1000;omega,by show -1000<=y/\y<=1000;omega,by show -1000<=z/\z<=1000;omega⟩,?_⟩;rw[show x+1+(p:Int)=x+((1+p:Nat):Int) by omega,show y+1+(q:Int)=y+((1+q:Nat):Int) by omega,show z+1+(r:Int)=z+((1+r:Nat):Int) by omega];exact yJA zot zot zot
theorem zOK{p c q e f g:Int}(hp:0<=p/\p<3)(hc:0<=c/\c<2)(hq:0<=q/\q<3)(he:0<=e/\e<3)(hf:0<=f/\f<3)(hg:0<=g/\g<3):pyH [pI x y z,pI (x+1+p) y z,pI (x+c) (y+1+q) z] (pI (x+e) (y+f) (z+1+g))/\
 ∃v I,(∃p c q e f g:Nat,(p<3/\c<2/\q<3)/\(e<3/\f<3/\g<3)/\I=nrI (teI p c q e f g))/\bdV v/\aJ v I (nrP (pyR [pI x y z,pI (x+1+p) y z,pI (x+c) (y+1+q) z] (pI (x+e) (y+f) (z+1+g))),nrF (pyR [pI x y z,pI (x+1+p) y z,pI (x+c) (y+1+q) z] (pI (x+e) (y+f) (z+1+g))),[]):=by
 obtain⟨p,D,rfl⟩:=nat_of (n:=3) hp;obtain⟨c,M,rfl⟩:=nat_of (n:=2) hc;obtain⟨q,C,rfl⟩:=nat_of (n:=3) hq;obtain⟨e,J,rfl⟩:=nat_of (n:=3) he;obtain⟨f,H,rfl⟩:=nat_of (n:=3) hf;obtain⟨g,G,rfl⟩:=nat_of (n:=3) hg;have Z:=zU5 (x:=x) (y:=y) (z:=z) D M C J H G;have h0:=zJO D M C J H G;have O:=zXR Z h0.1.1 h0.1.2;have U:=yE5 (x:=x) (y:=y) (z:=z) D M C J H G;unfold teL teA at O U;rw[show x+1+(p:Int)=x+(1+p) by omega,show y+1+(q:Int)=y+(1+q) by omega,show z+1+(g:Int)=z+(1+g) by omega];refine⟨U,(x,y,z),_,⟨p,c,q,e,f,g,⟨D,M,C⟩,⟨J,H,G⟩,rfl⟩,⟨by show -1000<=x/\x<=1000;omega,by show -1000<=y/\y<=1000;omega,by show -1000<=z/\z<=1000;omega⟩,?_⟩;have e0:nrE (pyR [pI x y z,pI (x+(1+↑p)) y z,pI (x+↑c) (y+(1+↑q)) z] (pI (x+↑e) (y+↑f) (z+(1+↑g))))=[]:=by unfold nrE;split<;>rfl
 rw[e0] at O;exact O
end
def yJW(s:Sd):Prop:=∃v I,(∃p c q e f g:Nat,(p<3/\c<2/\q<3)/\(e<3/\f<3/\g<3)/\I=nrI (teI p c q e f g))/\bdV v/\aJ v I s
theorem zEF{s:Sd}(h:yJW s):zHJ s:=by
 obtain⟨v,I,C,h⟩:=h;exact⟨v,I,.inr (.inr C),h⟩
def baP(L:List (List Pt)):Prop:=∃x y T,(0<=x/\x<2)/\(0<=y/\y<2)/\baF T/\L=baL x y T
theorem yDA{T:List (List PI)}(h:baF T):(1<=T.length/\T.length<=10)/\∀i,i<T.length->(T.getD i []).length<=10:=by
 have g:∀T,T∈baT->(decide (1<=T.length/\T.length<=10)&&T.all λs=>decide (s.length<=10))=true:=λT C=>zob.1 (show(baT.all λT=>decide (1<=T.length/\T.length<=10)&&T.all λs=>decide (s.length<=10))=true by decide) T C
 rcases h with h|⟨a,b,c,_,rfl⟩
 · have:=g T h
   rw[Bool.and_eq_true,decide_eq_true_iff] at this;exact⟨this.1,λi hi=>of_decide_eq_true (zob.1 this.2 _ (gC hi))⟩
 · refine⟨⟨show 1<=1 by decide,show 1<=10 by decide⟩,λi hi=>?_⟩
   have:i=0:=by have:i<1:=hi;omega
   subst this
   show 3<=10;decide
theorem zCL{L:List (List Pt)}(h:baP L){z a:Int}(hz:0<=z/\z<2)(ha:0<=a/\a<2):((∀s,s∈L->cQ s)/\prE L (z:Rat) ((z+1+a:Int):Rat)=0/\okS (prR L (z:Rat) ((z+1+a:Int):Rat)))/\zHJ (prP L (z:Rat) ((z+1+a:Int):Rat),prF L (z:Rat) ((z+1+a:Int):Rat),[]):=by
 obtain⟨x,y,T,hx,hy,G,rfl⟩:=h;have hh:1+a=1\/1+a=2:=by omega
 obtain⟨h1,h2⟩:=yED G hh;obtain⟨⟨h3,J⟩,M⟩:=zW1 h2;have C:=yDA G;have D:=yBQ (x:=x) (y:=y) (z:=z) C h1 zot h3;rw[show z+1+a=z+(1+a) by omega];refine⟨D,(x,y,z),_,.inr (.inl ⟨T,_,G,hh,I⟩),⟨by show -1000<=x/\x<=1000;omega,by show -1000<=y/\y<=1000;omega,by show -1000<=z/\z<=1000;omega⟩,?_⟩;have H:=zXR (zWF (x:=x) (y:=y) (z:=z) (h:=1+a) ⟨C.1.2,C.2⟩) h3 J;have e0:nrE (prR (baL x y T) (z:Rat) ((z+(1+a):Int):Rat))=[]:=by unfold nrE;split<;>rfl
 unfold prP prF;rw[if_pos D.2.1,if_pos D.2.1];rw[e0] at H;exact H
def aB(x y:Int):List Int->List Pt
  |a::b::l=>T3.mk ((x+a:Int):Rat) ((y+b:Int):Rat) (0:Rat)::aB x y l
  |_=>[]
theorem zZC{x y:Int}{l:List Int}{u:Nat}{D:List Pt}(hD:D++aB x y (l.drop (2*u))=aB x y l)(h:2*u+1<l.length):(D++[T3.mk ((x+l.getD (2*u) 0:Int):Rat) ((y+l.getD (2*u+1) 0:Int):Rat) (0:Rat)])++aB x y (l.drop (2*(u+1)))=aB x y l:=by
 rw[<-hD,List.append_assoc]
 congr 1
 rw[show l.drop (2*u)=l.getD (2*u) 0::l.getD (2*u+1) 0::l.drop (2*(u+1)) by
  rw[List.drop_eq_getElem_cons zot,List.drop_eq_getElem_cons zot,zoa,zoa,zoc zot,zoc zot]
  rfl]
 rfl
theorem yC8{x y:Int}{l:List Int}{u:Nat}{D:List Pt}(hD:D++aB x y (l.drop (2*u))=aB x y l)(h:¬2*u+1<l.length):D=aB x y l:=by
 have e:aB x y (l.drop (2*u))=[]:=by
  have C:(l.drop (2*u)).length<=1:=by rw[List.length_drop];omega
  match l.drop (2*u),C with
  |[],_=>rfl
  |[_],_=>rfl
 rw[<-hD,e,List.append_nil]
section
variable {x y:Int}(hx:0<=x/\x<2)(hy:0<=y/\y<2)
include hx hy
theorem zZX:baP [aB x y [0,0,2,0,2,1,1,1,1,2,0,2]]:=⟨x,y,_,hx,hy,.inl (.head _),rfl⟩
theorem zZW:baP [aB x y [0,0,3,0,3,3,0,3],aB x y [1,1,1,2,2,2,2,1]]:=⟨x,y,_,hx,hy,.inl (.tail _ (.head _)),rfl⟩
theorem zZV:baP [aB x y [0,0,3,0,3,3,0,3],aB x y [1,1,0,0,1,2]]:=⟨x,y,_,hx,hy,.inl (.tail _ (.tail _ (.head _))),rfl⟩
theorem zZU:baP [aB x y [0,0,1,0,2,0,2,2,0,1]]:=⟨x,y,_,hx,hy,.inl (.tail _ (.tail _ (.tail _ (.head _)))),rfl⟩
theorem zZT{a b c:Int}(ha:0<=a/\a<3)(hb:0<=b/\b<2)(hc:0<=c/\c<2):baP [aB x y [0,0,1+a,0,b,1+c]]:=by
 obtain⟨a,G,rfl⟩:=nat_of (n:=3) ha;obtain⟨b,D,rfl⟩:=nat_of (n:=2) hb;obtain⟨c,C,rfl⟩:=nat_of (n:=2) hc;exact⟨x,y,_,hx,hy,.inr ⟨a,b,c,⟨G,D,C⟩,I⟩,by
  unfold trT;rw[show((1+a:Nat):Int)=1+(a:Int) by omega,show((1+c:Nat):Int)=1+(c:Int) by omega]
  rfl⟩
end
def bxC(c:SI->Bool):Bool:=(List.range 2).all λp=>(List.range 2).all λq=>(List.range 2).all λr=>c (bxJ (1+p:Nat) (1+q:Nat) (1+r:Nat))
def baC(c:SI->Bool):Bool:=baT.all λT=>c (nrI (prI T 1))&&c (nrI (prI T 2))
def trC(c:SI->Bool):Bool:=(List.range 3).all λa=>(List.range 2).all λb=>(List.range 2).all λk=>c (nrI (prI (trT a b k) 1))&&c (nrI (prI (trT a b k) 2))
def teC(c:SI->Bool):Bool:=(List.range 3).all λp=>(List.range 2).all λk=>(List.range 3).all λq=>(List.range 3).all λe=>(List.range 3).all λf=>(List.range 3).all λg=>c (nrI (teI p k q e f g))
theorem yE6{c:SI->Bool}(h:teC c=true){p k q e f g:Nat}(hp:p<3)(hk:k<2)(hq:q<3)(he:e<3)(hf:f<3)(hg:g<3):c (nrI (teI p k q e f g))=true:=
 zob.1 (zob.1 (zob.1 (zob.1 (zob.1 (zob.1 h p (zog.2 hp)) k (zog.2 hk)) q (zog.2 hq)) e (zog.2 he)) f (zog.2 hf)) g (zog.2 hg)
theorem zRU{c:SI->Bool}(hb:bxC c=true)(ha:baC c=true)(hr:trC c=true)(ht:teC c=true){I:SI}(h:zY1 I):c I=true:=by
 rcases h with⟨p,q,r,⟨hp,hq,hr⟩,rfl⟩|⟨T,h,hT,hh,rfl⟩|⟨p,k,q,e,f,g,⟨hp,hk,hq⟩,⟨he,hf,hg⟩,rfl⟩
 · exact zob.1 (zob.1 (zob.1 hb p (zog.2 hp)) q (zog.2 hq)) r (zog.2 hr)
 · rcases hT with hT|⟨a,b,k,⟨ha',hb',hk⟩,rfl⟩
   · have h1:=zob.1 ha T hT
     rw[Bool.and_eq_true] at h1
     rcases hh with rfl|rfl
     · exact h1.1
     · exact h1.2
   · have h1:=zob.1 (zob.1 (zob.1 hr a (zog.2 ha')) b (zog.2 hb')) k (zog.2 hk)
     rw[Bool.and_eq_true] at h1
     rcases hh with rfl|rfl
     · exact h1.1
     · exact h1.2
 · exact yE6 ht hp hk hq he hf hg
def somI(I:SI):Bool:=decide (0<I.1.length/\0<I.2.length)
theorem yCS{I:SI}(h:zY1 I):somI I=true:=zRU (by decide +kernel) (by decide +kernel) (by decide +kernel) (by decide +kernel) h
theorem zQP{s:Sd}(h:zHJ s):0<s.1.length/\0<s.2.1.length:=by
 obtain⟨v,I,D,G,C⟩:=h;have h1:=of_decide_eq_true (yCS D);rw[oL C,C.2.2.1];exact h1
section
variable {s:Sd}{p d:Pt}
theorem yIK(h:gK s)(hc:¬(onA (gL s) p\/d=zT)):crX s p d=crA (gL s) p d/\crY s p d=crB (gL s) p d/\(okR s p d↔nbM (gL s) p d):=by
 have h1:¬(onB s p\/d=zT):=λe=>hc (e.imp_left (bT h p).2);obtain⟨D,C⟩:=yC4 h p d;exact⟨(if_neg h1).trans D.symm,(if_neg h1).trans C.symm,λe=>(zCU h p d).2 e.2,λe=>⟨h1,(zCU h p d).1 e⟩⟩
theorem yC5(h:gK s)(hc:onA (gL s) p\/d=zT):crX s p d=0/\crY s p d=0/\¬okR s p d:=yD5 (hc.imp_left (bT h p).1)
end
end Bk
namespace Go.Proofs.YtpkaegemlpaenaaGreat
open Bk Go Tryz
set_option maxRecDepth 10000
set_option maxHeartbeats 1000000
attribute [local irreducible] GL GC GQ W OpV
theorem zF6{w0:World}{h0:Mem}(hs:MLe h0 (mem w0)){k m n j j2 l2:Nat}{vs:Value}{s:Sq}(rs:(tSd k m n j).Is h0 vs s){vp:Value}{p:Tq}(rp:(tPt j2).Is h0 vp p){vd:Value}{d:Tq}(rd:(tPt l2).Is h0 vd d)(hcd0:okS s)(hcd1:gK s)(hcd2:k<=9000)(hcd3:j2<=900)(hcd4:l2<=300)(hcd5:m<=90)(hcd6:n<=90):
 Calls Tryz.prog 41 #[vs,vp,vd] w0 (Ret w0 h0 (λh r=>r=.tuple #[vI (crX s p d),vI (crY s p d),vB (okR s p d)])):=by
 have D:=yDX (s:=s) hcd0;refine cb3 32 vs vp vd func41 hs ?_;refine go2 ?_;refine nB rs λb3 ax ad=>(nB rp λb4 aw M=>(nB rd λb5 av J=>(go7 ?_)));refine lX (xB jB pH ad) λbh ar=>(cL (ev1 I) call69 (λw hs=>zDW hs ar (by first|omega|exact hcd0|exact hcd1|exact cS hcd1|exact D|rfl) (by first|omega|exact hcd0|exact hcd1|exact cS hcd1|exact D|rfl) oM oM oM) λbg h1 bj aq=>(nA (ρ:=(rpP (rpS (rpP (tPl 1 1) (rpP (tLL 1) (rpP rpI rpI)))) (rpS (rpA 2 (tPt 1))))) (X:=([],[])) zKV (yC wG wG) λb9 bk ac=>?_));have H:=(Le.p (Le.s (Le.p (Le.p (Le.t (Le.q (l:=m+1) oM)) (Le.q (l:=n+1) oM)) (Le.p (Le.s (Le.s (Le.t (Le.q (l:=k+1) oM)))) (Le.refl _)))) (Le.s (Le.a (Le.t (Le.q (l:=k+1) oM))))).R ac;refine zW (A:=[]) (uB sizeOf99 pH H aq) λaa G=>(go5 ?_);refine lX (xB zLJ pH G) λbf ap=>(lX (xB zM pH M) λbe ao=>(cL (ev2 I I) call70 (λw hs=>zXB hs ap ao oM oM oM oM (by first|omega|exact D)) λbd h2 bi an=>?_));obtain rfl:=an;refine uG ?_;refine qB (ι:=Mem) 4 (λm_=>MLe h2 m_) (λ_=>[(24,vB ((onA (gL s) p)\/(d=zT))),(4,vP b4 0),(5,vP b5 0),(9,vP b9 0)]) (λ_=>[.var b9 99 aa,.var b5 31 av,.var b4 31 aw,.var b3 39 ax]) (λm_=>m_) ?_ ?_
 ·
  refine zY (onA (gL s) p) (λZ=>?_) (λZ=>?_)
  ·
   refine gT Z I (go4 ?_);refine zS h2 (MLe.refl _) ⟨?_,I,I,I,trivial⟩ I I;exact congrArg some (vD Z)
  refine gF Z I (go1 ?_);refine lX (xB zM pH J) λbc am=>(go1 ?_);refine cL (ev1 I) call78 (λw hs=>zFV hs am oM) λab h3 U ak=>?_;obtain rfl:ab=vB (d=zT):=ak;refine go2 ?_;refine zS h3 U ⟨?_,I,I,I,trivial⟩ I I;exact congrArg some (vG Z)
 intro au O;refine tY ?_;refine gc2 (λC=>?_) λC=>?_
 ·
  obtain⟨e1,e2,e3⟩:=yC5 (d:=d) hcd1 C;refine go9 ?_;refine uN I I I I ?_;rw[e1,e2,yH e3]
 obtain⟨e1,e2,e3⟩:=yIK (d:=d) hcd1 C;refine go4 ?_;refine lX (xB zLJ pH G) λbb aj=>(lX (xB zM pH M) λba ai=>(lX (xB zM pH J) λaz ah=>(cL (ev3 I I I) call79 (λw hs=>w7 hs aj ai ah oM oM oM oM oM (by first|omega|exact D)) λay h3 U ae=>?_)));obtain rfl:=ae;refine go9 ?_;refine uN I I I I ?_;rw[e1,e2,kF e3]
set_option maxHeartbeats 1000000 in
theorem zPO{w0 w:World}{h0 h:Mem}{b k:Nat}{vl:Value}{xs:List Int}(hl:Is h vl xs)(hk:k<=xs.length){L:List Res}(hs:St w0 h0 (.var b 72 [vl,vI ↑k]::L) h w):
 Calls Tryz.prog 57 #[vP b 0] w (rB w0 h0 h L (λg r q'=>∃k':Nat,∃m:Sq,q'=.var b 72 [vl,vI ↑k']/\k'<=xs.length/\zHJ m/\(tSd 2 2 2 1).Is g r m)):=by
 have cc:=hl.lt63;refine uF (n:=39) (e:=[(0,vP b 0)]) (vs:=[vP b 0]) func57 rfl rfl (bL rfl) hs ⟨rfl,trivial⟩ (go2 ?_);refine nA (ρ:=(tSd 1 1 1 1)) (X:=([],([],[]))) qS (yC wG (yC wG wG)) λb2 dn bq=>(go5 ?_);refine yD (A:=[_]) (vs:=[_,vI (3)]) call13 e2z (λX w hs=>xW hl zox oM oM hs) I ?_;intro v9 g9 q9 bw bs;obtain⟨k9,O,rfl,df,rfl,bb,bc⟩:=bs;refine go1 ?_;refine yD (A:=[_]) (vs:=[_,vI (3)]) call13 e2z (λX w hs=>xW hl.up zox oM oM hs) I ?_;intro cq dl cz bn bh;obtain⟨de,D,rfl,ch,rfl,ai,ao⟩:=bh;refine go1 ?_;refine yD (A:=[_]) (vs:=[_,vI (3)]) call13 e2z (λX w hs=>xW hl.up zox oM oM hs) I ?_;intro cp dk cy bm bg;obtain⟨dd,C,rfl,cg,rfl,ah,an⟩:=bg;refine uG ?_;refine cL (ev3 I I I) call12 (λw hs=>fC hs oM oM oM oM oM oM) λco h1 bv aw=>?_;replace aw:=Rp.Is.cast (y:=(pI O D C)) aw zo3;refine go3 ?_;refine yD (A:=[_]) (vs:=[_,vI (2)]) call13 e2z (λX w hs=>xW hl.up zox oM oM hs) I ?_;intro cn dj cw bl bf;obtain⟨dc,M,rfl,cf,rfl,ae,am⟩:=bf;refine go4 ?_;refine yD (A:=[_]) (vs:=[_,vI (2)]) call13 e2z (λX w hs=>xW hl.up zox oM oM hs) I ?_;intro cm di cv bk be;obtain⟨db,J,rfl,ce,rfl,ad,ak⟩:=be;refine go4 ?_;refine yD (A:=[_]) (vs:=[_,vI (2)]) call13 e2z (λX w hs=>xW hl.up zox oM oM hs) I ?_;intro cl dh cu bj bd;obtain⟨da,H,rfl,cd,rfl,ac,aj⟩:=bd;refine go1 ?_;refine cL (ev3 I I I) call12 (λw hs=>fC hs oM oM oM oM oM oM) λck h2 bu av=>?_;replace av:=Rp.Is.cast (y:=(pI (O+1+M) (D+1+J) (C+1+H))) av zo3;refine qA (vs:=[_,_]) I I I I call15 e2z (λw hs=>zIT hs aw.up av dC dC (by first|omega|exactλe=>zZO e)) ?_;intro cj h3 dp bt Z;obtain⟨ct,ca,bo,rfl,Z,rfl,cb,G⟩:=Z
 change RL (tFc (10000*2+10000*2+20000) (10000*2+10000*2+20000)) h3 bo (blF (pI O D C) (pI (O+1+M) (D+1+J) (C+1+H))) at G
 replace Z:=Rp.Is.le Z (Le.p (Le.s (Le.t (Le.q (l:=48) oM))) (Le.refl _));replace G:=(Le.p (Le.p (Le.t (Le.q (l:=60000) oM)) (Le.q (l:=60000) oM)) (Le.refl _)).rl G;refine go3 ?_;refine nA (ρ:=(rpP (tLs 1) (rpP rpV (rpS (rpP rpI (rpP rpI (rpQ 1))))))) (X:=([],((Value.slice none 0 0),[]))) qS (yC wG (yC gV wG)) λb6 dm bp=>?_;have ax:=(Le.p (Le.s (Le.t (Le.q (l:=48) dC))) (Le.p (Le.refl _) (Le.s (Le.p (Le.refl _) (Le.p (Le.refl _) (Le.q (l:=6) dC)))))).R bp;refine zW (A:=[]) (uB sizeOf39 pH ax Z) λaa U=>(go5 ?_);refine zP (A:=[_]) (ρ:=(tFc 60000 60000)) G ?_;intro h4 bi ay;replace U:=U.mono bi;have ba:(tSd 48 60000 60000 6).R h4 aa (blP (pI O D C) (pI (O+1+M) (D+1+J) (C+1+H)),(blF (pI O D C) (pI (O+1+M) (D+1+J) (C+1+H)),[])):=zEV U ay;have az:(tSd 48 60000 60000 6).R h4 aa (bkS (pI O D C) (pI (O+1+M) (D+1+J) (C+1+H))):=Rp.castR ba zo3;have au:(tSd 2 2 2 1).R h4 aa (bkS (pI O D C) (pI (O+1+M) (D+1+J) (C+1+H))):=zA4 az (zAV (zVS ⟨bb,bc⟩ ⟨ai,ao⟩ ⟨ah,an⟩ ⟨ae,am⟩ ⟨ad,ak⟩ ⟨ac,aj⟩)).2;refine lX (xB jB pH au) λci br=>?_;have ap:=(Le.p (Le.s (Le.t (Le.q (l:=2) dC))) (Le.p (Le.s (Le.p (Le.p (Le.t (Le.q (l:=2) dC)) (Le.q (l:=2) dC)) (Le.refl _))) (Le.refl _))).R bq;refine zW (A:=[_]) (uB sizeOf39 pH ap br) λbx ar=>(go3 ?_);refine wT (kJ (t:=2) jB mh1 I ar) ?_;intro bz ab aq;refine jK (λE S=>zV I ab E S) ?_;exact⟨_,(.cons _ (.cons _ (List.Sublist.refl _))),(((((((((bw.trans bn).trans bm).trans bv).trans bl).trans bk).trans bj).trans bu).trans bt).trans bi),_,_,I,by omega,(zVS ⟨bb,bc⟩ ⟨ai,ao⟩ ⟨ah,an⟩ ⟨ae,am⟩ ⟨ad,ak⟩ ⟨ac,aj⟩),aq⟩
set_option maxHeartbeats 1000000 in
theorem zMO{w0:World}{h0:Mem}(hs:MLe h0 (mem w0)){k:Nat}{vl:Value}{l:(List Tq)}(rl:(tLs k).Is h0 vl l){vt:Value}{t:Tq}(rt:(tPt k).Is h0 vt t)(hcd0:k<=10)(hcd1:pyH l t):
 Calls Tryz.prog 52 #[vl,vt] w0 (fW w0 h0 (λh r L_=>∃u0 vF cs,r=.tuple #[u0,vI 0]/\(rpP (tLs (k+2)) (rpP rpV (rpS (rpP rpI (rpP rpI (rpQ 6)))))).Is h u0 (nrP (pyR l t),(vF,[]))/\L_=[.gs 53 14 vF (nrF (pyR l t)).length cs]/\vF.oneCell'=true/\RL (tFc (1000*k+5000) (1000*k+5000)) h cs (nrF (pyR l t)))):=by
 have je:=hcd1.1.1;obtain⟨jk,gr⟩:=zU4 hcd1.1.2;refine cb2 113 vl vt func52 hs ?_;refine go2 ?_;refine nB rt λb3 dk cz=>(nA (ρ:=(rpP (tLs 1) (rpP rpV (rpS (rpP rpI (rpP rpI (rpQ 1))))))) (X:=([],((Value.slice none 0 0),[]))) qS (yC wG (yC gV wG)) λb4 dj fj=>(nR ?_));refine cnd (λbm=>?_) λbm=>?_
 · exact absurd bm oM
 refine gc9 (λbl=>?_) λbl=>?_
 · exact absurd bl oM
 refine go3 ?_;refine zK 16 _ [(13,(7,50,[.bool false,.slice none 0 0,.slice none 0 0,.bool false,.slice none 0 0,.slice none 0 0,.bool false,.slice none 0 0,.slice none 0 0,.bool false,.slice none 0 0,.slice none 0 0]))] [(0,.q),(1,.q),(2,.q),(3,.q),(4,.q),(5,.q),(6,.q),(7,.q),(8,.q),(9,.c),(10,.q),(11,.q),(12,.q),(13,.a),(14,.c),(15,.q)] yA (jM.cons I I (uR sM I I) jM.nil) (wJ zou) (uU I I kU) (λr hr=>hr) (go1 ?_);refine aD (F:=λv_=>AtP (tPt k) h0 v_ (l.getD 0 zT)) I (rI (q:=0) zT 0 underlying35 zM I I rl I oM nP) zBN I ?_;intro iw gg;refine wX I (xA zM gg) λiv gf=>(go1 ?_);refine aD (F:=λv_=>AtP (tPt k) h0 v_ (l.getD 1 zT)) I (rI (q:=1) zT 1 underlying35 zM I I rl I oM nP) zBN I ?_;intro iu ge;refine wX I (xA zM ge) λir gc=>(go1 ?_);refine aD (F:=λv_=>AtP (tPt k) h0 v_ (l.getD 2 zT)) I (rI (q:=2) zT 2 underlying35 zM I I rl I oM nP) zBN I ?_;intro iq gb;refine wX I (xA zM gb) λip ga=>?_;refine w_c I (sC (ev3 I I I) call93 (λw hs=>zBH hs gf gc ga oM) λio h1 jh fz=>?_);obtain⟨bp,rfl,ax⟩:=fz
 change (tPl (50*k+200) (200*k+900)).Is h1 bp (thZ (l.getD 0 zT) (l.getD 1 zT) (l.getD 2 zT)) at ax
 refine go3 ?_;refine w_a I I (λb7=>?_);have fi:(tPl 1 1).R h1 [.bool false,.slice none 0 0,.slice none 0 0,.bool false,.slice none 0 0,.slice none 0 0,.bool false,.slice none 0 0,.slice none 0 0,.bool false,.slice none 0 0,.slice none 0 0] (zT,(0:Rat)):=(yC (xO (yI dC)) (yI dC));refine w_c I ?_;have dt:=(Le.p (Le.t (Le.q (l:=50*k+200) oM)) (Le.q (l:=200*k+900) oM)).R fi;refine pY (A:=[]) (uB sizeOf50 pH dt ax) (xJ zoy) λbb au=>(go7 ?_);refine gv (OpV.fa (by rw[gr];exactλe=>e I) (bR (q:=0) I I)) I (go4 ?_);refine lX (xB bG pH au) λim fy=>(go1 ?_);refine cL (ev2 I I) call94 (λw hs=>zPF hs rl.up fy oM oM oM (by first|omega|exact hcd1.2.1.1)) λfh h2 jg fx=>?_;obtain rfl:fh=vB (zG7 (thZ (l.getD 0 zT) (l.getD 1 zT) (l.getD 2 zT)) l):=fx;refine go3 ?_;refine qB (ι:=Mem) 6 (λm_=>MLe h2 m_) (λ_=>[(49,vB ((¬(zG7 (thZ (l.getD 0 zT) (l.getD 1 zT) (l.getD 2 zT)) l))\/((sdZ (thZ (l.getD 0 zT) (l.getD 1 zT) (l.getD 2 zT)) t)<=(0:Int)))),(0,vl),(3,vP b3 0),(4,vP b4 0),(6,vI (↑(l).length:Int)),(7,vP b7 0)]) (λ_=>[.var b7 50 bb,.var b4 39 dj,.var b3 31 dk]) (λm_=>m_) ?_ ?_
 ·
  refine zY (¬(zG7 (thZ (l.getD 0 zT) (l.getD 1 zT) (l.getD 2 zT)) l)) (λhg=>?_) (λhg=>?_)
  ·
   refine gT hg I (go6 ?_);refine zS h2 (MLe.refl _) ⟨?_,I,I,I,I,I,trivial⟩ I I;exact congrArg some (vD hg)
  refine gF hg I (go1 ?_);refine lX (xB bG pH au) λil fw=>(go1 ?_);refine lX (xB zM pH cz) λik fv=>(go1 ?_);refine cL (ev2 I I) call23 (λw hs=>zCQ hs fw fv oM oM oM) λfg h3 aa fu=>?_;obtain rfl:fg=vI (sdZ (thZ (l.getD 0 zT) (l.getD 1 zT) (l.getD 2 zT)) t):=fu;have gn:=bJ (thZ (l.getD 0 zT) (l.getD 1 zT) (l.getD 2 zT)) t;refine go4 ?_;refine zS h3 aa ⟨?_,I,I,I,I,I,trivial⟩ I I;exact congrArg some (vG hg)
 intro ae em;refine tY ?_;refine gc2 (λbk=>?_) λbk=>?_
 ·
  rcases bk with e|e
  exact absurd hcd1.2.1.1 e;have:=hcd1.2.1.2;omega
 refine go2 ?_;refine qZ (ι:=Nat×List Value×Mem) (λ(D,H,mc)=>MLe ae mc/\((rpP (tLs (k+1)) (rpP rpV (rpS (rpP rpI (rpP rpI (rpQ 1)))))).R mc H ((l++[t]),((Value.slice none 0 0),([]:List En)))/\True)) (λ(D,H,mc)=>[(0,vl),(3,vP b3 0),(4,vP b4 0),(6,vI (↑(l).length:Int)),(7,vP b7 0),(9,vP D 0)]) (λ(D,H,mc)=>[.var D 39 H,.var b7 50 bb,.var b4 39 dj,.var b3 31 dk]) (λ(D,H,mc)=>mc) ?_ ?_
 ·
  refine zK 7 _ [(6,(9,39,[.slice none 0 0,.slice none 0 0,.slice none 0 0]))] [(0,.q),(2,.q),(1,.b 3),(4,.c),(5,.c),(6,.a),(7,.t)] yA (jM.cons I I (uR qS I I) jM.nil) zou (uU I I kU) (λr hr=>hr) (go1 ?_);refine wX I (xB zM pH cz) λij ec=>?_;refine w_b I I ?_ ?_
  ·
   refine iB 31 9 ?_;have dv:=RL.nil (ρ:=rpT (rpQ k)) (h:=ae);refine fF (A:=[]) (λX=>vX (zU (ρ:=(tPt k)) (bytes:=168) underlying35 yM I I I I nP I I dv rl.up bO bO)) I (xJ zoy) ?_
   rintro ff gm ⟨el,ev,rfl,G⟩
   refine jN (λX=>zL (ρ:=(tPt (k+1))) (m:=1) (xs:=[t]) (ps':=[(0,_)]) underlying35 yM I I I (xO (yI oM)) e2z (zD I (Pc.arr (Pc.here _) zT 0 dC) (ec.le (Le.t (Le.q (l:=k+1) oM))) zO) zok nP) I ?_;intro fe gk ej;obtain⟨eu,rfl,aq⟩:=ej;refine w_c I (xS (A:=[]) (ρ:=(tPt (k+1))) aq dK ?_);intro h3 aa du;replace G:=G.mono aa;have dr:=(Le.t (Le.q (l:=k+1) oM)).rl G;refine fF (A:=[]) (λX=>vX (zU (ρ:=(tPt (k+1))) (bytes:=168) underlying35 yM I I I I nP I I dr du bO bO)) I (xJ zoy) ?_
   rintro fd gj ⟨ek,es,rfl,ap⟩
   refine w_c I (xS (A:=[]) (ρ:=(tPt (k+1))) ap dK ?_);intro h4 ak ch;refine sX (xV (ρ:=(rpP (tLs (k+1)) (rpP rpV (rpS (rpP rpI (rpP rpI (rpQ 1))))))) (xZ (ps':=[(0,_)]) underlying39 qS I I (rH underlying39) e2z I (yC wG (yC gV wG)) (zD I (Pc.fst (Pc.here _)) ch zO))) λfc da=>?_;refine w_a I I (λb9=>?_);have cy:(rpP (tLs 1) (rpP rpV (rpS (rpP rpI (rpP rpI (rpQ 1)))))).R h4 [.slice none 0 0,.slice none 0 0,.slice none 0 0] ([],((Value.slice none 0 0),[])):=(yC wG (yC gV wG));have bu:=(Le.p (Le.s (Le.t (Le.q (l:=k+1) oM))) (Le.refl _)).R cy;refine yK (A:=[]) I (uB sizeOf39 pH bu da) λdi cw=>(go1 ?_);refine zS (b9,di,h4) ?_ e6z I I;refine⟨(aa.trans ak),?_⟩;refine⟨cw,?_⟩
   trivial
  refine jN (λX=>zL (ρ:=(tPt (k+1))) (m:=1) (xs:=[t]) (ps':=[(0,_)]) underlying35 yM I I I (xO (yI oM)) e2z (zD I (Pc.arr (Pc.here _) zT 0 dC) (ec.le (Le.t (Le.q (l:=k+1) oM))) zO) zok nP) I ?_
  rintro fe gk ⟨eu,rfl,aq⟩
  refine iB 31 9 ?_;have cl:=RL.nil (ρ:=rpT (rpQ k)) (h:=ae);refine fF (A:=[]) (λX=>vX (zU (ρ:=(tPt k)) (bytes:=168) underlying35 yM I I I I nP I I cl rl.up bO bO)) I (xJ zoy) ?_
  rintro ff gm ⟨el,ev,rfl,G⟩
  refine w_c I (xS (A:=[_]) (ρ:=(tPt (k+1))) aq dK ?_);intro h3 aa cg;replace G:=G.mono aa;have bt:=(Le.t (Le.q (l:=k+1) oM)).rl G;refine fF (A:=[]) (λX=>vX (zU (ρ:=(tPt (k+1))) (bytes:=168) underlying35 yM I I I I nP I I bt cg bO bO)) I (xJ zoy) ?_
  rintro fd gj ⟨ek,es,rfl,ap⟩
  refine w_c I (xS (A:=[]) (ρ:=(tPt (k+1))) ap dK ?_);intro h4 ak cf;refine sX (xV (ρ:=(rpP (tLs (k+1)) (rpP rpV (rpS (rpP rpI (rpP rpI (rpQ 1))))))) (xZ (ps':=[(0,_)]) underlying39 qS I I (rH underlying39) e2z I (yC wG (yC gV wG)) (zD I (Pc.fst (Pc.here _)) cf zO))) λfc da=>?_;refine w_a I I (λb9=>?_);have cy:(rpP (tLs 1) (rpP rpV (rpS (rpP rpI (rpP rpI (rpQ 1)))))).R h4 [.slice none 0 0,.slice none 0 0,.slice none 0 0] ([],((Value.slice none 0 0),[])):=(yC wG (yC gV wG));have bs:=(Le.p (Le.s (Le.t (Le.q (l:=k+1) oM))) (Le.refl _)).R cy;refine yK (A:=[]) I (uB sizeOf39 pH bs da) λdh cv=>(go1 ?_);refine zS (b9,dh,h4) ?_ e6z I I;refine⟨(aa.trans ak),?_⟩;refine⟨cv,?_⟩
  trivial
 rintro⟨D,H,mc⟩ ⟨hn,bj⟩
 refine yW ?_;obtain⟨ea,bj⟩:=bj;refine uV ?_;refine xG 3 1 ?_;have ck:=RL.nil (ρ:=rpI) (h:=mc);refine xG 53 14 ?_;have cj:=RL.nil (ρ:=rpP (tPl (150*k+700) (200*k+901)) (rpP tII qI)) (h:=mc);refine gcL (ι:=Nat×List Int×List Fc×List Value×Value×List Value×Value×List Value×Mem) (λ(i,LN,FF,aj,O,ai,C,ah,ma)=>(MLe mc ma/\((rpP (tLs (k+1)) (rpP rpV (rpS (rpP rpI (rpP rpI (rpQ 1)))))).R ma aj ((l++[t]),(C,([]:List En)))/\RL rpI ma ai LN/\RL (tFc (150*k+700) (200*k+901)) ma ah FF/\C.oneCell'=true/\i<=l.length/\LN=pyL l.length i/\FF=pyT l t i),[(0,vl),(3,vP b3 0),(4,vP b4 0),(6,vI (↑(l).length:Int)),(7,vP b7 0),(9,vP D 0),(10,O),(11,vI ↑i)],[.gs 53 14 C FF.length ah,.gs 3 1 O LN.length ai,.var D 39 aj,.var b7 50 bb,.var b4 39 dj,.var b3 31 dk],ma,l.length-i)) (0,[],[],H,(.slice none 0 0),[],(.slice none 0 0),[],mc) ?_ ?_
 · exact⟨mle,ea,ck,cj,I,by omega,I,I⟩
 rintro⟨i,LN,FF,aj,O,ai,C,ah,ma⟩ ⟨ho,Z,ao,an,go,jf,bf,bg⟩
 refine yW ?_;have ji:LN.length=i:=by rw[bf];exact yY _ _
 have jj:FF.length=i:=by rw[bg];exact yY _ _
 refine gc8 (λeo=>?_) λeo=>?_
 ·
  have jb:=zAQ (((i:Int):Int):Rat);have jc:=sL (i:Int) oM oM;have jd:=Int.emod_nonneg ((↑i:Int)+1) (b:=(↑l.length:Int)) oM;have hm:=Int.emod_lt_of_pos ((↑i:Int)+1) (b:=(↑l.length:Int)) oM;refine qM ?_;refine zG (zL (ρ:=rpI) (m:=1) (xs:=[(((↑(l).length:Int)-(1:Int))-(↑i:Int))]) (ps':=[(0,_)]) underlying22 jV I I I wL e2z (zD I (Pc.arr (Pc.here _) (0:Int) 0 dC) (wH oM oM) zO) zoj nP) I I I ?_
  rintro ii ja ⟨hq,rfl,dz⟩
  refine zP (A:=[]) (ρ:=rpI) dz ?_;intro h3 aa ce;refine xL (A:=[_]) (vX (zU (ρ:=rpI) (bytes:=8) underlying22 jV I I I I nP I I ao.up ce bO bO)) I I I ?_
  rintro fb iz ⟨hl,er,rfl,dy⟩
  refine go8 ?_;refine gv (wC I I oM oM) I (go4 ?_);refine zK 16 _ [(13,(13,50,[.bool false,.slice none 0 0,.slice none 0 0,.bool false,.slice none 0 0,.slice none 0 0,.bool false,.slice none 0 0,.slice none 0 0,.bool false,.slice none 0 0,.slice none 0 0]))] [(0,.q),(1,.q),(2,.q),(3,.q),(4,.q),(5,.q),(6,.q),(7,.q),(8,.q),(9,.c),(10,.q),(11,.q),(12,.q),(13,.a),(14,.c),(15,.q)] yA (jM.cons I I (uR sM I I) jM.nil) (wJ zou) (uU I I kU) (λr hr=>hr) (go2 ?_);refine wX I (xI zT i underlying35 zM rl) λih ft=>(wX I (xA zM ft) λig fs=>(go2 ?_));refine wX I (xI zT ((i+1)%l.length) underlying35 zM rl (hi:=by exact Nat.mod_lt _ oM)) λie fr=>(wX I (xA zM fr) λid fq=>(wX I (xB zM pH cz) λic fp=>?_));refine w_c I (sC (ev3 I I I) call93 (λw hs=>zBH hs fs fq fp oM) λib h4 ak fo=>?_);obtain⟨bo,rfl,aw⟩:=fo
  change (tPl (50*k+200) (200*k+900)).Is h4 bo (thZ (l.getD i zT) (l.getD ((i+1)%l.length) zT) t) at aw
  refine go3 ?_;refine w_a I I (λjl=>?_);have eb:(tPl 1 1).R h4 [.bool false,.slice none 0 0,.slice none 0 0,.bool false,.slice none 0 0,.slice none 0 0,.bool false,.slice none 0 0,.slice none 0 0,.bool false,.slice none 0 0,.slice none 0 0] (zT,(0:Rat)):=(yC (xO (yI dC)) (yI dC));refine w_c I ?_;have br:=(Le.p (Le.t (Le.q (l:=50*k+200) oM)) (Le.q (l:=200*k+900) oM)).R eb;refine pY (A:=[]) (uB sizeOf50 pH br aw) (xJ zoy) λgu cu=>(go3 ?_);refine qG (A:=[_]) 15 [] [(0,.q),(1,.q),(2,.q),(3,.q),(4,.q),(5,.q),(8,.q),(0,.x [10] [6,7] [9,10]),(11,.c),(12,.c),(13,.c),(14,.q),(15,.t)] yA nX zou nX (go1 ?_);refine wX I (tX (xB kR (Pc.snd (Pc.fst pH)) Z)) λia fm=>?_;subst fm;refine wX I (xB bG pH cu) λhw fl=>(go4 ?_);refine yEU (N:=4) I ?_;refine zD4 I I I I ?x2 ?x3
  case' x2=>
   refine jN (λX=>zL (ρ:=rpI) (m:=3) (xs:=[(↑i:Int),(((↑i:Int)+(1:Int))%(↑(l).length:Int)),(↑(l).length:Int)]) (ps':=[(0,_),(1,_),(2,_)]) underlying22 jV I I I wL e6z (zD I (Pc.arr (Pc.here _) (0:Int) 0 dC) (wH oM oM) (zD I (Pc.arr (Pc.here _) (0:Int) 1 dC) (wH oM oM) (zD I (Pc.arr (Pc.here _) (0:Int) 2 dC) (wH oM oM) zO))) zop nP) I ?_
   rintro ez gh ⟨eq,rfl,J⟩
   refine zD4 I I I I ?x4 ?x5
   case' x4=>
    refine xS (A:=[]) (ρ:=rpI) J dK ?_;intro h5 be cd;refine jN (λX=>zL (ρ:=(rpS rpI)) (m:=1) (xs:=[[(↑i:Int),(((↑i:Int)+(1:Int))%(↑(l).length:Int)),(↑(l).length:Int)]]) (ps':=[(0,_)]) underlying51 qX I I I wG e2z (zD I (Pc.arr (Pc.here _) [] 0 dC) cd zO) zoj nP) I ?_;intro dn eg ay;obtain⟨bn,rfl,ab⟩:=ay;refine zN7 I I (sC (ev1 I) call88 (λw hs=>vM hs oM oM) λdm h6 bd av=>?_);obtain⟨rfl,az⟩:=kL av;refine yJO I (aC I (λ_ _=>wY (pa:=([115]:List Nat)) (pb:=(qP (((↑i:Int):Int):Rat))) I I zov) I (j3 ?_));replace ab:=ab.mono bd
   case' x5=>
    refine sC (ev1 I) call88 (λw hs=>vM hs oM oM) λdm h5 be av=>?_;obtain⟨rfl,az⟩:=kL av;refine yDF I I (aC I (λ_ _=>wY (pa:=([115]:List Nat)) (pb:=(qP (((↑i:Int):Int):Rat))) I I zov) I (zAL I I ?_));replace J:=J.mono be;refine xS (A:=[]) (ρ:=rpI) J dK ?_;intro h6 bd cc;refine jN (λX=>zL (ρ:=(rpS rpI)) (m:=1) (xs:=[[(↑i:Int),(((↑i:Int)+(1:Int))%(↑(l).length:Int)),(↑(l).length:Int)]]) (ps':=[(0,_)]) underlying51 qX I I I wG e2z (zD I (Pc.arr (Pc.here _) [] 0 dC) cc zO) zoj nP) I ?_;intro dn eg ay;obtain⟨bn,rfl,ab⟩:=ay;refine j3 ?_
  case' x3=>
   refine sC (ev1 I) call88 (λw hs=>vM hs oM oM) λdm h5 be av=>?_;obtain⟨rfl,az⟩:=kL av;refine yDF I I (aC I (λ_ _=>wY (pa:=([115]:List Nat)) (pb:=(qP (((↑i:Int):Int):Rat))) I I zov) I (zAL I I (jN (λX=>zL (ρ:=rpI) (m:=3) (xs:=[(↑i:Int),(((↑i:Int)+(1:Int))%(↑(l).length:Int)),(↑(l).length:Int)]) (ps':=[(0,_),(1,_),(2,_)]) underlying22 jV I I I wL e6z (zD I (Pc.arr (Pc.here _) (0:Int) 0 dC) (wH oM oM) (zD I (Pc.arr (Pc.here _) (0:Int) 1 dC) (wH oM oM) (zD I (Pc.arr (Pc.here _) (0:Int) 2 dC) (wH oM oM) zO))) zop nP) I ?_)))
   rintro ez gh ⟨eq,rfl,J⟩
   refine zAL I I (xS (A:=[]) (ρ:=rpI) J dK ?_);intro h6 bd cb;refine jN (λX=>zL (ρ:=(rpS rpI)) (m:=1) (xs:=[[(↑i:Int),(((↑i:Int)+(1:Int))%(↑(l).length:Int)),(↑(l).length:Int)]]) (ps':=[(0,_)]) underlying51 qX I I I wG e2z (zD I (Pc.arr (Pc.here _) [] 0 dC) cb zO) zoj nP) I ?_
   rintro dn eg ⟨bn,rfl,ab⟩
   refine j3 ?_
  all_goals
   refine w_c I (xS (A:=[]) (ρ:=(rpS rpI)) ab dK ?_);intro h7 en ca;refine sX (xV (ρ:=(tFc (50*k+200) (200*k+900))) (xZ (ps':=[(0,_),(1,_),(2,_)]) underlying53 jE I I (bN underlying53) e6z I (yC (yC (xO (yI oM)) (yI oM)) (yC wG gH)) (zD I (Pc.fst (Pc.here _)) fl.up (zD I (Pc.snd (Pc.fst (Pc.here _))) ca (zD I (Pc.snd (Pc.snd (Pc.here _))) (cY ((show ByB [115] by unfold ByB;decide).app az)) zO))))) λhv fk=>?_;refine w_c I (jN (λX=>zL (ρ:=(tFc (50*k+200) (200*k+900))) (m:=1) (xs:=[(thZ (l.getD i zT) (l.getD ((i+1)%l.length) zT) t,([[(↑i:Int),(((↑i:Int)+(1:Int))%(↑(l).length:Int)),(↑(l).length:Int)]],(([115]:List Nat)++(qP (((↑i:Int):Int):Rat)))))]) (ps':=[(0,_)]) underlying36 jE I I I (yC (yC (xO (yI oM)) (yI oM)) (yC wG gH)) e2z (zD I (Pc.arr (Pc.here _) zA 0 dC) fk zO) zom nP) I ?_)
   rintro hu iy ⟨hp,rfl,dx⟩
   refine w_c I (xS (A:=[]) (ρ:=(tFc (50*k+200) (200*k+900))) dx dK ?_);intro h8 gq bz;refine fF (A:=[_]) (λX=>vX (zU (ρ:=(tFc (150*k+700) (200*k+901))) (bytes:=264) underlying36 jE I I I I nP I I an.up (bz.le (Le.s (Le.p (Le.p (Le.t (Le.q (l:=150*k+700) oM)) (Le.q (l:=200*k+901) oM)) (Le.refl _)))) bO bO)) I (xJ zoy) ?_
   rintro ey ix ⟨bi,ep,rfl,dw⟩
   refine go1 ?_;refine yK (A:=[_,_,_]) I (uB sizeOf36 (Pc.snd (Pc.fst pH)) Z (oS bi)) λdf ct=>(go8 ?_);refine yO (A:=[]) ?_;refine gqL ((i+1),(LN++[(((↑(l).length:Int)-(1:Int))-(↑i:Int))]),(FF++[(thZ (l.getD i zT) (l.getD ((i+1)%l.length) zT) t,([[(↑i:Int),(((↑i:Int)+(1:Int))%(↑(l).length:Int)),(↑(l).length:Int)]],(([115]:List Nat)++(qP (((↑i:Int):Int):Rat)))))]),df,fb,er,ey,ep,h8) ?_ ?_
   · exact⟨mle,ct,dy.up,dw,bi,by omega,by rw[bf];rfl,by rw[bg];rfl⟩
   omega
 have ei:i=l.length:=by omega
 rw[ei] at bf bg;refine go6 ?_;refine zGX (A:=[_]) (ρ:=rpI) ao.up ?_;intro h3 aa am;refine qG (A:=[]) 10 [] [(0,.q),(1,.q),(2,.q),(4,.q),(0,.x [] [3] [5]),(6,.c),(7,.c),(8,.c),(9,.q),(10,.t)] yA nX zou nX (go1 ?_);refine wX I (tX (xB kR (Pc.snd (Pc.fst pH)) Z)) λhf ef=>?_;subst ef;refine wX I (xB bG pH au) λhe bh=>(go1 ?_);refine yEU (N:=2) I ?_;refine zD4 I I I I ?x6 ?x7
 case' x6=>
  refine sC (ev1 I) call76 (λw hs=>oI hs bh oM oM) λdq h4 ak M=>?_;replace M:=Rp.Is.le M (Le.p (Le.t (Le.q (l:=150*k+610) oM)) (Le.q (l:=200*k+901) oM));refine zN7 I I (jN (λX=>zL (ρ:=(rpS rpI)) (m:=1) (xs:=[LN]) (ps':=[(0,_)]) underlying51 qX I I I wG e2z (zD I (Pc.arr (Pc.here _) [] 0 dC) am.up zO) zoj nP) I ?_);intro dp eh db;obtain⟨dl,rfl,ar⟩:=db;refine j3 ?_
 case' x7=>
  refine jN (λX=>zL (ρ:=(rpS rpI)) (m:=1) (xs:=[LN]) (ps':=[(0,_)]) underlying51 qX I I I wG e2z (zD I (Pc.arr (Pc.here _) [] 0 dC) am.up zO) zoj nP) I ?_
  rintro dp eh ⟨dl,rfl,ar⟩
  refine zAL I I (sC (ev1 I) call76 (λw hs=>oI hs bh oM oM) λdq h4 ak M=>?_);replace M:=Rp.Is.le M (Le.p (Le.t (Le.q (l:=150*k+610) oM)) (Le.q (l:=200*k+901) oM));refine j3 ?_
 all_goals
  refine w_c I (xS (A:=[]) (ρ:=(rpS rpI)) ar.up dK ?_);intro h5 be bx;refine sX (xV (ρ:=(tFc (150*k+610) (200*k+901))) (xZ (ps':=[(0,_),(1,_),(2,_)]) underlying53 jE I I (bN underlying53) e6z I (yC (yC (xO (yI oM)) (yI oM)) (yC wG gH)) (zD I (Pc.fst (Pc.here _)) M.up (zD I (Pc.snd (Pc.fst (Pc.here _))) bx (zD I (Pc.snd (Pc.snd (Pc.here _))) (cY (show ByB [98,97,115,101] by unfold ByB;decide)) zO))))) λhd ee=>?_;refine w_c I (jN (λX=>zL (ρ:=(tFc (150*k+610) (200*k+901))) (m:=1) (xs:=[(opP (thZ (l.getD 0 zT) (l.getD 1 zT) (l.getD 2 zT)),([LN],([98,97,115,101]:List Nat)))]) (ps':=[(0,_)]) underlying36 jE I I I (yC (yC (xO (yI oM)) (yI oM)) (yC wG gH)) e2z (zD I (Pc.arr (Pc.here _) zA 0 dC) ee zO) zom nP) I ?_)
  rintro hc hk ⟨gx,rfl,cn⟩
  refine w_c I (xS (A:=[]) (ρ:=(tFc (150*k+610) (200*k+901))) cn dK ?_);intro h6 bd bw;refine fF (A:=[]) (λX=>vX (zU (ρ:=(tFc (150*k+700) (200*k+901))) (bytes:=264) underlying36 jE I I I I nP I I an.up (bw.le (Le.s (Le.p (Le.p (Le.t (Le.q (l:=150*k+700) oM)) (Le.refl _)) (Le.refl _)))) bO bO)) I (xJ zoy) ?_
  rintro hb hj ⟨dd,gw,rfl,cm⟩
  refine go1 ?_;refine yK (A:=[_]) I (uB sizeOf36 (Pc.snd (Pc.fst pH)) Z (oS dd)) λba ad=>(go4 ?_);refine zP (A:=[]) (ρ:=(tFc (150*k+700) (200*k+901))) cm ?_;intro h7 en bv;replace ad:=ad.mono en;have cq:(tSd (k+1) (150*k+700) (200*k+901) 1).R h7 ba (((l++[t]),(C,([]:List En))).1,((FF++[(opP (thZ (l.getD 0 zT) (l.getD 1 zT) (l.getD 2 zT)),([LN],([98,97,115,101]:List Nat)))]),(((l++[t]),(C,([]:List En))).2).2)):=zEV ad bv;have cp:(tSd (k+1) (150*k+700) (200*k+901) 1).R h7 ba (pyR l t):=Rp.castR cq (by rw[bg,bf];rfl);refine lX (xB jB pH cp) λha ed=>?_;refine qA (vs:=[_]) I I I I call47 ⟨I,trivial⟩ (λw hs=>s7 hs ed oM oM oM (by first|omega|exact hcd1.2.2|exact hcd1.2.1.1)) ?_;intro gz h8 ht gq ac;obtain⟨ew,de,ac,rfl,dc,U⟩:=ac
  change RL (tFc (4*(150*k+700)+12) ((150*k+700)+(200*k+901)+12)) h8 de (nrF (pyR l t)) at U
  replace ac:=Rp.Is.le ac (Le.p (Le.s (Le.t (Le.q (l:=k+2) oM))) (Le.p (Le.refl _) (Le.s (Le.p (Le.refl _) (Le.p (Le.refl _) (Le.q (l:=2) oM))))));replace U:=(Le.p (Le.p (Le.t (Le.q (l:=600*k+2812) oM)) (Le.q (l:=350*k+1613) oM)) (Le.refl _)).rl U;have bq:=(Le.p (Le.s (Le.t (Le.q (l:=k+2) oM))) (Le.p (Le.refl _) (Le.s (Le.p (Le.refl _) (Le.p (Le.refl _) (Le.q (l:=2) dC)))))).R fj;refine zW (A:=[_,_,_]) (uB sizeOf39 pH bq ac) λgt co=>(go4 ?_);refine wT (kJ (t:=4) jB mh3 I co) ?_;intro gy bc ci;refine kO (.cons_cons _ (List.nil_sublist _)) (λE S=>jS I bc (tE I) E S) ?_;exact⟨_,_,_,I,(Rp.Is.cast (Rp.Is.le ci (Le.p (Le.refl _) (Le.p (Le.refl _) (Le.s (Le.p (Le.refl _) (Le.p (Le.refl _) (Le.q (l:=6) dC))))))) (by rw[show nrE (pyR l t)=[] from by unfold nrE;split<;>rfl])),I,dc,((Le.p (Le.p (Le.t (Le.q (l:=1000*k+5000) oM)) (Le.q (l:=1000*k+5000) oM)) (Le.refl _)).rl U)⟩
set_option maxHeartbeats 1000000 in
theorem zKE{w0 w:World}{h0 h:Mem}{b k:Nat}{vl:Value}{xs:List Int}(hl:Is h vl xs)(hk:k<=xs.length){L:List Res}(hs:St w0 h0 (.var b 72 [vl,vI ↑k]::L) h w):
 Calls Tryz.prog 19 #[vP b 0] w (rB w0 h0 h L (λg r q'=>∃k':Nat,∃m:Sq,q'=.var b 72 [vl,vI ↑k']/\k'<=xs.length/\yJW m/\(tSd 2 2 2 1).Is g r m)):=by
 have db:=hl.lt63;refine uF (n:=57) (e:=[(0,vP b 0)]) (vs:=[vP b 0]) func19 rfl rfl (bL rfl) hs ⟨rfl,trivial⟩ (go2 ?_);refine nA (ρ:=(tSd 1 1 1 1)) (X:=([],([],[]))) qS (yC wG (yC wG wG)) λb2 fh ck=>(go5 ?_);refine yD (A:=[_]) (vs:=[_,vI (3)]) call13 e2z (λX w hs=>xW hl zox oM oM hs) I ?_;intro v9 g9 q9 cv cm;obtain⟨k9,G,rfl,ew,rfl,bj,bk⟩:=cm;refine go1 ?_;refine yD (A:=[_]) (vs:=[_,vI (3)]) call13 e2z (λX w hs=>xW hl.up zox oM oM hs) I ?_;intro ec ff em ch bx;obtain⟨ev,D,rfl,dk,rfl,an,ax⟩:=bx;refine go1 ?_;refine yD (A:=[_]) (vs:=[_,vI (3)]) call13 e2z (λX w hs=>xW hl.up zox oM oM hs) I ?_;intro eb fe el cg bw;obtain⟨eu,C,rfl,dj,rfl,am,aw⟩:=bw;refine uG ?_;refine cL (ev3 I I I) call12 (λw hs=>fC hs oM oM oM oM oM oM) λea h1 cu bi=>?_;replace bi:=Rp.Is.cast (y:=(pI G D C)) bi zo3;refine go3 ?_;refine yD (A:=[_]) (vs:=[_,vI (3)]) call13 e2z (λX w hs=>xW hl.up zox oM oM hs) I ?_;intro dz fd ek cf bv;obtain⟨es,M,rfl,di,rfl,ak,av⟩:=bv;refine go3 ?_;refine cL (ev3 I I I) call12 (λw hs=>fC hs oM oM oM oM oM oM) λdy h2 ct bh=>?_;replace bh:=Rp.Is.cast (y:=(pI (G+1+M) D C)) bh zo3;refine go2 ?_;refine yD (A:=[_]) (vs:=[_,vI (2)]) call13 e2z (λX w hs=>xW hl.up zox oM oM hs) I ?_;intro dx fc ej ce bu;obtain⟨er,J,rfl,dh,rfl,aj,au⟩:=bu;refine go4 ?_;refine yD (A:=[_]) (vs:=[_,vI (3)]) call13 e2z (λX w hs=>xW hl.up zox oM oM hs) I ?_;intro dw fb ei cd bt;obtain⟨eq,H,rfl,df,rfl,ai,ar⟩:=bt;refine go2 ?_;refine cL (ev3 I I I) call12 (λw hs=>fC hs oM oM oM oM oM oM) λdv h3 cq bg=>?_;replace bg:=Rp.Is.cast (y:=(pI (G+J) (D+1+H) C)) bg zo3;refine zG (zL (ρ:=(tPt 2)) (m:=3) (xs:=[(pI G D C),(pI (G+1+M) D C),(pI (G+J) (D+1+H) C)]) (ps':=[(0,_),(1,_),(2,_)]) underlying35 yM I I I (xO (yI dC)) e6z (zD I (Pc.arr (Pc.here _) zT 0 dC) bi.up (zD I (Pc.arr (Pc.here _) zT 1 dC) bh.up (zD I (Pc.arr (Pc.here _) zT 2 dC) bg zO))) zol nP) I I I ?_
 rintro du eh ⟨dl,rfl,bo⟩
 refine go2 ?_;refine yD (A:=[_,_]) (vs:=[_,vI (3)]) call13 e2z (λX w hs=>xW hl.up zox oM oM hs) I ?_;intro dt fa eg cc bs;obtain⟨ep,Z,rfl,de,rfl,ah,aq⟩:=bs;refine go3 ?_;refine yD (A:=[_,_]) (vs:=[_,vI (3)]) call13 e2z (λX w hs=>xW hl.up zox oM oM hs) I ?_;intro dr ez ef cb br;obtain⟨eo,U,rfl,dd,rfl,ae,ap⟩:=br;refine go4 ?_;refine yD (A:=[_,_]) (vs:=[_,vI (3)]) call13 e2z (λX w hs=>xW hl.up zox oM oM hs) I ?_;intro dq ey ee ca bq;obtain⟨en,O,rfl,dc,rfl,ad,ao⟩:=bq;refine go1 ?_;refine cL (ev3 I I I) call12 (λw hs=>fC hs oM oM oM oM oM oM) λdp h4 cp bf=>?_;replace bf:=Rp.Is.cast (y:=(pI (G+Z) (D+U) (C+1+O))) bf zo3;refine zP (A:=[]) (ρ:=(tPt 2)) bo.up ?_;intro h5 co bn;refine qA (vs:=[_,_]) I I I I call52 e2z (λw hs=>zMO hs bn bf.up dC (by first|omega|exact(zOK ⟨bj,bk⟩ ⟨an,ax⟩ ⟨am,aw⟩ ⟨ak,av⟩ ⟨aj,au⟩ ⟨ai,ar⟩ ⟨ah,aq⟩ ⟨ae,ap⟩ ⟨ad,ao⟩).1)) ?_;intro dn h6 fi cn ac;obtain⟨ed,cz,ci,rfl,ac,rfl,da,aa⟩:=ac
 change RL (tFc (1000*2+5000) (1000*2+5000)) h6 ci (nrF (pyR [(pI G D C),(pI (G+1+M) D C),(pI (G+J) (D+1+H) C)] (pI (G+Z) (D+U) (C+1+O)))) at aa
 replace ac:=Rp.Is.le ac (Le.p (Le.s (Le.t (Le.q (l:=4) oM))) (Le.refl _));replace aa:=(Le.p (Le.p (Le.t (Le.q (l:=7000) oM)) (Le.q (l:=7000) oM)) (Le.refl _)).rl aa;refine go3 ?_;refine nA (ρ:=(rpP (tLs 1) (rpP rpV (rpS (rpP rpI (rpP rpI (rpQ 1))))))) (X:=([],((Value.slice none 0 0),[]))) qS (yC wG (yC gV wG)) λb6 fg cj=>?_;have bl:=(Le.p (Le.s (Le.t (Le.q (l:=4) dC))) (Le.p (Le.refl _) (Le.s (Le.p (Le.refl _) (Le.p (Le.refl _) (Le.q (l:=6) dC)))))).R cj;refine zW (A:=[]) (uB sizeOf39 pH bl ac) λay ab=>(go5 ?_);refine zP (A:=[_]) (ρ:=(tFc 7000 7000)) aa ?_;intro h7 bz bm;replace ab:=ab.mono bz;have bp:(tSd 4 7000 7000 6).R h7 ay (nrP (pyR [(pI G D C),(pI (G+1+M) D C),(pI (G+J) (D+1+H) C)] (pI (G+Z) (D+U) (C+1+O))),(nrF (pyR [(pI G D C),(pI (G+1+M) D C),(pI (G+J) (D+1+H) C)] (pI (G+Z) (D+U) (C+1+O))),[])):=zEV ab bm;have be:(tSd 4 7000 7000 6).R h7 ay (nrP (pyR [(pI G D C),(pI (G+1+M) D C),(pI (G+J) (D+1+H) C)] (pI (G+Z) (D+U) (C+1+O))),nrF (pyR [(pI G D C),(pI (G+1+M) D C),(pI (G+J) (D+1+H) C)] (pI (G+Z) (D+U) (C+1+O))),([]:List En)):=Rp.castR bp zo3;have bd:(tSd 2 2 2 1).R h7 ay (nrP (pyR [(pI G D C),(pI (G+1+M) D C),(pI (G+J) (D+1+H) C)] (pI (G+Z) (D+U) (C+1+O))),nrF (pyR [(pI G D C),(pI (G+1+M) D C),(pI (G+J) (D+1+H) C)] (pI (G+Z) (D+U) (C+1+O))),([]:List En)):=zA4 be (zAV (zEF (zOK ⟨bj,bk⟩ ⟨an,ax⟩ ⟨am,aw⟩ ⟨ak,av⟩ ⟨aj,au⟩ ⟨ai,ar⟩ ⟨ah,aq⟩ ⟨ae,ap⟩ ⟨ad,ao⟩).2)).2;refine lX (xB jB pH bd) λdm cl=>?_;have ba:=(Le.p (Le.s (Le.t (Le.q (l:=2) dC))) (Le.p (Le.s (Le.p (Le.p (Le.t (Le.q (l:=2) dC)) (Le.q (l:=2) dC)) (Le.refl _))) (Le.refl _))).R ck;refine zW (A:=[_]) (uB sizeOf39 pH ba cl) λcw bc=>(go3 ?_);refine wT (kJ (t:=2) jB mh1 I bc) ?_;intro cy az bb;refine jK (λE S=>zV I az E S) ?_;exact⟨_,(.cons _ (.cons _ (List.Sublist.refl _))),(((((((((((((((cv.trans ch).trans cg).trans cu).trans cf).trans ct).trans ce).trans cd).trans cq).trans cc).trans cb).trans ca).trans cp).trans co).trans cn).trans bz),_,_,I,by omega,(zOK ⟨bj,bk⟩ ⟨an,ax⟩ ⟨am,aw⟩ ⟨ak,av⟩ ⟨aj,au⟩ ⟨ai,ar⟩ ⟨ah,aq⟩ ⟨ae,ap⟩ ⟨ad,ao⟩).2,bb⟩
theorem gA{w0:World}{h0:Mem}(hs:MLe h0 (mem w0)){x:Int}(hx1:-9223372036854775808<=x)(hx2:x<9223372036854775808){y:Int}(hy1:-9223372036854775808<=y)(hy2:y<9223372036854775808){vl:Value}{l:(List Int)}(rl:(rpS rpI).Is h0 vl l)(hcd0:(-1000<=x/\x<=1000)/\-1000<=y/\y<=1000)(hcd1:∀q,q∈l-> -1000<=q/\q<=1000)(hcd2:l.length<=1000):
 Calls Tryz.prog 140 #[vI x,vI y,vl] w0 (Ret w0 h0 (λh r=>(tLs 2).Is h r (aB x y l))):=by
 refine cb3 36 (vI x) (vI y) vl func140 hs ?_;refine nR ?_;refine xG 31 9 ?_;have O:=RL.nil (ρ:=rpT (rpQ 2)) (h:=h0);refine gcL (ι:=Nat×List Tq×Value×List Value×Mem) (λ(u,D,C,G,ma)=>(MLe h0 ma/\(RL (tPt 2) ma G D/\(2*u<=l.length+1/\D.length=u)/\D++aB x y (l.drop (2*u))=aB x y l),[(0,vI x),(1,vI y),(2,vl),(7,C),(8,vI (2*↑u))],[.gs 31 9 C D.length G],ma,l.length+2-2*u)) (0,[],(.slice none 0 0),[],h0) ?_ ?_
 · exact⟨mle,O,⟨by omega,I⟩,I⟩
 rintro⟨u,D,C,G,ma⟩ ⟨ar,H,⟨bh,ao⟩,hD⟩
 refine yW ?_;refine zC5 (λaa=>?_) λaa=>?_
 ·
  have bj:=hcd1 _ (gC (d:=0) (show 2*u<l.length by omega));have bi:=hcd1 _ (gC (d:=0) (show 2*u+1<l.length by omega));refine go4 ?_;refine qG (A:=[]) 20 [] [(0,.q),(1,.q),(2,.q),(3,.q),(4,.q),(5,.q),(6,.q),(8,.q),(9,.q),(10,.q),(11,.q),(12,.q),(13,.q),(14,.q),(7,.c),(15,.c),(16,.c),(17,.c),(18,.c),(19,.q)] yA nX (wJ zou) nX (go4 ?_);refine wX I (xI (0:Int) (2*u) underlying22 ty3 rl) λbe am=>(wX I (xA ty3 am) λbd ak=>?_);obtain⟨rfl,av,aq⟩:=kS ak;refine go5 ?_;refine wX I (xI (0:Int) (2*u+1) underlying22 ty3 rl) λbb ai=>(wX I (xA ty3 ai) λba ah=>?_);obtain⟨rfl,au,ap⟩:=kS ah;refine go1 ?_;refine w_c I (sC (ev1 I) call27 (λw hs=>kM hs oM oM) λbc h1 an aj=>?_);refine w_c I (sC (ev1 I) call27 (λw hs=>kM hs oM oM) λaz h2 bl ae=>?_);refine w_c I (sX (xV (ρ:=(tPt 2)) (wB (ps':=[(0,_),(1,_)]) underlying31 yM I I sizeOf29 e4z I (xO (yI dC)) (zD I (Pc.tx (Pc.here _)) aj.up (zD I (Pc.ty (Pc.here _)) ae zO)))) λay ad=>?_);refine w_c I (jN (λX=>zL (ρ:=(tPt 2)) (m:=1) (xs:=[(T3.mk (((x+(l.getD (2*u) (0:Int))):Int):Rat) (((y+(l.getD (2*u+1) (0:Int))):Int):Rat) (0:Rat))]) (ps':=[(0,_)]) underlying35 yM I I I (xO (yI dC)) e2z (zD I (Pc.arr (Pc.here _) zT 0 dC) ad zO) zok nP) I ?_)
  rintro ax bg ⟨aw,rfl,Z⟩
  refine w_c I (xS (A:=[]) (ρ:=(tPt 2)) Z dK ?_);intro h3 bk M;refine fF (A:=[]) (λX=>zU (ρ:=(tPt 2)) (bytes:=168) underlying35 yM I I I I nP I I H.up M bO bO) I (xJ zoy) ?_
  rintro ac bf ⟨ab,rfl,U⟩
  refine go9 ?_;refine gqL ((u+1),(D++[(T3.mk (((x+(l.getD (2*u) (0:Int))):Int):Rat) (((y+(l.getD (2*u+1) (0:Int))):Int):Rat) (0:Rat))]),ac,ab,h3) ?_ ?_ (he:=⟨I,I,I,I,congrArg (λz=>some (vI z)) oM,trivial⟩)
  · exact⟨mle,U,⟨by omega,by rw[lAz,ao];rfl⟩,zZC hD oM⟩
  omega
 refine uV ?_;refine wS (A:=[]) (ρ:=(tPt 2)) H.up ?_;intro h1 an J;refine zC I I ?_;exact(Rp.Is.cast J (by exact yC8 hD oM))
set_option maxHeartbeats 1000000 in
theorem zMU{w0 w:World}{h0 h:Mem}{b k:Nat}{vl:Value}{xs:List Int}(hl:Is h vl xs)(hk:k<=xs.length){L:List Res}(hs:St w0 h0 (.var b 72 [vl,vI ↑k]::L) h w):
 Calls Tryz.prog 95 #[vP b 0] w (rB w0 h0 h L (λg r q'=>∃k':Nat,∃m:List (List Tq),q'=.var b 72 [vl,vI ↑k']/\k'<=xs.length/\baP m/\(tLL 2).Is g r m)):=by
 have cn:=hl.lt63;refine uF (n:=60) (e:=[(0,vP b 0)]) (vs:=[vP b 0]) func95 rfl rfl (bL rfl) hs ⟨rfl,trivial⟩ (go8 ?_);refine yD (A:=[]) (vs:=[_,vI (2)]) call13 e2z (λX w hs=>xW hl zox oM oM hs) I ?_;intro v6 g6 q6 aj ck;obtain⟨k6,z6,rfl,ff,rfl,D,H⟩:=ck;refine go1 ?_;refine yD (A:=[]) (vs:=[_,vI (2)]) call13 e2z (λX w hs=>xW hl.up zox oM oM hs) I ?_;intro v8 g8 q8 ai cj;obtain⟨k8,z8,rfl,fe,rfl,C,G⟩:=cj;refine go8 ?_;refine yD (A:=[]) (vs:=[_,vI (6)]) call13 e2z (λX w hs=>xW hl.up zox oM oM hs) I ?_;intro eh fj ez ah bt;obtain⟨fd,di,rfl,ct,rfl,cl,cm⟩:=bt;refine gc9 (λcb=>?_) λcb=>?_
 ·
  refine go4 ?_;refine zG (zL (ρ:=rpI) (m:=12) (xs:=[(0:Int),(0:Int),(2:Int),(0:Int),(2:Int),(1:Int),(1:Int),(1:Int),(1:Int),(2:Int),(0:Int),(2:Int)]) (ps':=[(0,_),(1,_),(2,_),(3,_),(4,_),(5,_),(6,_),(7,_),(8,_),(9,_),(10,_),(11,_)]) underlying22 jV I I I wL ⟨I,I,I,I,I,I,I,I,I,I,I,I,I,I,I,I,I,I,I,I,I,I,I,I,trivial⟩ (zD I (Pc.arr (Pc.here _) (0:Int) 0 dC) (wH dC dC) (zD I (Pc.arr (Pc.here _) (0:Int) 1 dC) (wH dC dC) (zD I (Pc.arr (Pc.here _) (0:Int) 2 dC) (wH dC dC) (zD I (Pc.arr (Pc.here _) (0:Int) 3 dC) (wH dC dC) (zD I (Pc.arr (Pc.here _) (0:Int) 4 dC) (wH dC dC) (zD I (Pc.arr (Pc.here _) (0:Int) 5 dC) (wH dC dC) (zD I (Pc.arr (Pc.here _) (0:Int) 6 dC) (wH dC dC) (zD I (Pc.arr (Pc.here _) (0:Int) 7 dC) (wH dC dC) (zD I (Pc.arr (Pc.here _) (0:Int) 8 dC) (wH dC dC) (zD I (Pc.arr (Pc.here _) (0:Int) 9 dC) (wH dC dC) (zD I (Pc.arr (Pc.here _) (0:Int) 10 dC) (wH dC dC) (zD I (Pc.arr (Pc.here _) (0:Int) 11 dC) (wH dC dC) zO)))))))))))) (show 12*1<=16777216 from by decide) nP) I I I ?_
  rintro eg ey ⟨dh,rfl,bp⟩
  refine zP (A:=[]) (ρ:=rpI) bp ?_;intro h1 U bd;refine cL (ev3 I I I) call140 (λw hs=>gA hs oM oM oM oM bd (by first|omega|exact Nat.le_of_ble_eq_true rfl|(intro q J;simp only[List.mem_cons,List.not_mem_nil,or_false] at J;omega)) (by first|omega|exact Nat.le_of_ble_eq_true rfl|(intro q J;simp only[List.mem_cons,List.not_mem_nil,or_false] at J;omega)) (by first|omega|exact Nat.le_of_ble_eq_true rfl|(intro q J;simp only[List.mem_cons,List.not_mem_nil,or_false] at J;omega))) λef h2 O ci=>(zG (zL (ρ:=(tLs 2)) (m:=1) (xs:=[aB z6 z8 [(0:Int),(0:Int),(2:Int),(0:Int),(2:Int),(1:Int),(1:Int),(1:Int),(1:Int),(2:Int),(0:Int),(2:Int)]]) (ps':=[(0,_)]) underlying76 cZ I I I wG e2z (zD I (Pc.arr (Pc.here _) [] 0 dC) ci zO) zoj nP) I I I ?_)
  rintro ee ew ⟨df,rfl,bo⟩
  refine go6 ?_;refine wS (A:=[]) (ρ:=(tLs 2)) bo ?_;intro h3 M bc;refine qF I I ?_;exact⟨_,(List.Sublist.refl _),(((((aj.trans ai).trans ah).trans U).trans O).trans M),_,_,I,by omega,(by first|exact zZX ⟨D,H⟩ ⟨C,G⟩|exact zZW ⟨D,H⟩ ⟨C,G⟩|exact zZV ⟨D,H⟩ ⟨C,G⟩|exact zZU ⟨D,H⟩ ⟨C,G⟩|exact zZT ⟨D,H⟩ ⟨C,G⟩ ⟨ab,ae⟩ ⟨aa,ad⟩ ⟨Z,ac⟩),bc⟩
 refine gc6 (λca=>?_) λca=>?_
 ·
  refine go4 ?_;refine zG (zL (ρ:=rpI) (m:=8) (xs:=[(0:Int),(0:Int),(3:Int),(0:Int),(3:Int),(3:Int),(0:Int),(3:Int)]) (ps':=[(0,_),(1,_),(2,_),(3,_),(4,_),(5,_),(6,_),(7,_)]) underlying22 jV I I I wL ⟨I,I,I,I,I,I,I,I,I,I,I,I,I,I,I,I,trivial⟩ (zD I (Pc.arr (Pc.here _) (0:Int) 0 dC) (wH dC dC) (zD I (Pc.arr (Pc.here _) (0:Int) 1 dC) (wH dC dC) (zD I (Pc.arr (Pc.here _) (0:Int) 2 dC) (wH dC dC) (zD I (Pc.arr (Pc.here _) (0:Int) 3 dC) (wH dC dC) (zD I (Pc.arr (Pc.here _) (0:Int) 4 dC) (wH dC dC) (zD I (Pc.arr (Pc.here _) (0:Int) 5 dC) (wH dC dC) (zD I (Pc.arr (Pc.here _) (0:Int) 6 dC) (wH dC dC) (zD I (Pc.arr (Pc.here _) (0:Int) 7 dC) (wH dC dC) zO)))))))) zoq nP) I I I ?_
  rintro ed ev ⟨de,rfl,bn⟩
  refine zP (A:=[]) (ρ:=rpI) bn ?_;intro h1 U bb;refine cL (ev3 I I I) call140 (λw hs=>gA hs oM oM oM oM bb (by first|omega|exact Nat.le_of_ble_eq_true rfl|(intro q J;simp only[List.mem_cons,List.not_mem_nil,or_false] at J;omega)) (by first|omega|exact Nat.le_of_ble_eq_true rfl|(intro q J;simp only[List.mem_cons,List.not_mem_nil,or_false] at J;omega)) (by first|omega|exact Nat.le_of_ble_eq_true rfl|(intro q J;simp only[List.mem_cons,List.not_mem_nil,or_false] at J;omega))) λec h2 O ch=>(go2 ?_);refine zG (zL (ρ:=rpI) (m:=8) (xs:=[(1:Int),(1:Int),(1:Int),(2:Int),(2:Int),(2:Int),(2:Int),(1:Int)]) (ps':=[(0,_),(1,_),(2,_),(3,_),(4,_),(5,_),(6,_),(7,_)]) underlying22 jV I I I wL ⟨I,I,I,I,I,I,I,I,I,I,I,I,I,I,I,I,trivial⟩ (zD I (Pc.arr (Pc.here _) (0:Int) 0 dC) (wH dC dC) (zD I (Pc.arr (Pc.here _) (0:Int) 1 dC) (wH dC dC) (zD I (Pc.arr (Pc.here _) (0:Int) 2 dC) (wH dC dC) (zD I (Pc.arr (Pc.here _) (0:Int) 3 dC) (wH dC dC) (zD I (Pc.arr (Pc.here _) (0:Int) 4 dC) (wH dC dC) (zD I (Pc.arr (Pc.here _) (0:Int) 5 dC) (wH dC dC) (zD I (Pc.arr (Pc.here _) (0:Int) 6 dC) (wH dC dC) (zD I (Pc.arr (Pc.here _) (0:Int) 7 dC) (wH dC dC) zO)))))))) zoq nP) I I I ?_
  rintro eb eu ⟨dd,rfl,bm⟩
  refine zP (A:=[]) (ρ:=rpI) bm ?_;intro h3 M av;refine cL (ev3 I I I) call140 (λw hs=>gA hs oM oM oM oM av (by first|omega|exact Nat.le_of_ble_eq_true rfl|(intro q J;simp only[List.mem_cons,List.not_mem_nil,or_false] at J;omega)) (by first|omega|exact Nat.le_of_ble_eq_true rfl|(intro q J;simp only[List.mem_cons,List.not_mem_nil,or_false] at J;omega)) (by first|omega|exact Nat.le_of_ble_eq_true rfl|(intro q J;simp only[List.mem_cons,List.not_mem_nil,or_false] at J;omega))) λea h4 ax cg=>(zG (zL (ρ:=(tLs 2)) (m:=2) (xs:=[aB z6 z8 [(0:Int),(0:Int),(3:Int),(0:Int),(3:Int),(3:Int),(0:Int),(3:Int)],aB z6 z8 [(1:Int),(1:Int),(1:Int),(2:Int),(2:Int),(2:Int),(2:Int),(1:Int)]]) (ps':=[(0,_),(1,_)]) underlying76 cZ I I I wG e4z (zD I (Pc.arr (Pc.here _) [] 0 dC) ch.up (zD I (Pc.arr (Pc.here _) [] 1 dC) cg zO)) zor nP) I I I ?_)
  rintro dz es ⟨dc,rfl,bl⟩
  refine go6 ?_;refine wS (A:=[]) (ρ:=(tLs 2)) bl ?_;intro h5 aw au;refine qF I I ?_;exact⟨_,(List.Sublist.refl _),(((((((aj.trans ai).trans ah).trans U).trans O).trans M).trans ax).trans aw),_,_,I,by omega,(by first|exact zZX ⟨D,H⟩ ⟨C,G⟩|exact zZW ⟨D,H⟩ ⟨C,G⟩|exact zZV ⟨D,H⟩ ⟨C,G⟩|exact zZU ⟨D,H⟩ ⟨C,G⟩|exact zZT ⟨D,H⟩ ⟨C,G⟩ ⟨ab,ae⟩ ⟨aa,ad⟩ ⟨Z,ac⟩),au⟩
 refine gc6 (λbz=>?_) λbz=>?_
 ·
  refine go4 ?_;refine zG (zL (ρ:=rpI) (m:=8) (xs:=[(0:Int),(0:Int),(3:Int),(0:Int),(3:Int),(3:Int),(0:Int),(3:Int)]) (ps':=[(0,_),(1,_),(2,_),(3,_),(4,_),(5,_),(6,_),(7,_)]) underlying22 jV I I I wL ⟨I,I,I,I,I,I,I,I,I,I,I,I,I,I,I,I,trivial⟩ (zD I (Pc.arr (Pc.here _) (0:Int) 0 dC) (wH dC dC) (zD I (Pc.arr (Pc.here _) (0:Int) 1 dC) (wH dC dC) (zD I (Pc.arr (Pc.here _) (0:Int) 2 dC) (wH dC dC) (zD I (Pc.arr (Pc.here _) (0:Int) 3 dC) (wH dC dC) (zD I (Pc.arr (Pc.here _) (0:Int) 4 dC) (wH dC dC) (zD I (Pc.arr (Pc.here _) (0:Int) 5 dC) (wH dC dC) (zD I (Pc.arr (Pc.here _) (0:Int) 6 dC) (wH dC dC) (zD I (Pc.arr (Pc.here _) (0:Int) 7 dC) (wH dC dC) zO)))))))) zoq nP) I I I ?_
  rintro dy er ⟨db,rfl,bk⟩
  refine zP (A:=[]) (ρ:=rpI) bk ?_;intro h1 U ar;refine cL (ev3 I I I) call140 (λw hs=>gA hs oM oM oM oM ar (by first|omega|exact Nat.le_of_ble_eq_true rfl|(intro q J;simp only[List.mem_cons,List.not_mem_nil,or_false] at J;omega)) (by first|omega|exact Nat.le_of_ble_eq_true rfl|(intro q J;simp only[List.mem_cons,List.not_mem_nil,or_false] at J;omega)) (by first|omega|exact Nat.le_of_ble_eq_true rfl|(intro q J;simp only[List.mem_cons,List.not_mem_nil,or_false] at J;omega))) λdx h2 O cf=>(go2 ?_);refine zG (zL (ρ:=rpI) (m:=6) (xs:=[(1:Int),(1:Int),(0:Int),(0:Int),(1:Int),(2:Int)]) (ps':=[(0,_),(1,_),(2,_),(3,_),(4,_),(5,_)]) underlying22 jV I I I wL e12 (zD I (Pc.arr (Pc.here _) (0:Int) 0 dC) (wH dC dC) (zD I (Pc.arr (Pc.here _) (0:Int) 1 dC) (wH dC dC) (zD I (Pc.arr (Pc.here _) (0:Int) 2 dC) (wH dC dC) (zD I (Pc.arr (Pc.here _) (0:Int) 3 dC) (wH dC dC) (zD I (Pc.arr (Pc.here _) (0:Int) 4 dC) (wH dC dC) (zD I (Pc.arr (Pc.here _) (0:Int) 5 dC) (wH dC dC) zO)))))) zos nP) I I I ?_
  rintro dw eq ⟨da,rfl,bj⟩
  refine zP (A:=[]) (ρ:=rpI) bj ?_;intro h3 M aq;refine cL (ev3 I I I) call140 (λw hs=>gA hs oM oM oM oM aq (by first|omega|exact Nat.le_of_ble_eq_true rfl|(intro q J;simp only[List.mem_cons,List.not_mem_nil,or_false] at J;omega)) (by first|omega|exact Nat.le_of_ble_eq_true rfl|(intro q J;simp only[List.mem_cons,List.not_mem_nil,or_false] at J;omega)) (by first|omega|exact Nat.le_of_ble_eq_true rfl|(intro q J;simp only[List.mem_cons,List.not_mem_nil,or_false] at J;omega))) λdv h4 ax ce=>(zG (zL (ρ:=(tLs 2)) (m:=2) (xs:=[aB z6 z8 [(0:Int),(0:Int),(3:Int),(0:Int),(3:Int),(3:Int),(0:Int),(3:Int)],aB z6 z8 [(1:Int),(1:Int),(0:Int),(0:Int),(1:Int),(2:Int)]]) (ps':=[(0,_),(1,_)]) underlying76 cZ I I I wG e4z (zD I (Pc.arr (Pc.here _) [] 0 dC) cf.up (zD I (Pc.arr (Pc.here _) [] 1 dC) ce zO)) zor nP) I I I ?_)
  rintro du ep ⟨cz,rfl,bi⟩
  refine go6 ?_;refine wS (A:=[]) (ρ:=(tLs 2)) bi ?_;intro h5 aw ap;refine qF I I ?_;exact⟨_,(List.Sublist.refl _),(((((((aj.trans ai).trans ah).trans U).trans O).trans M).trans ax).trans aw),_,_,I,by omega,(by first|exact zZX ⟨D,H⟩ ⟨C,G⟩|exact zZW ⟨D,H⟩ ⟨C,G⟩|exact zZV ⟨D,H⟩ ⟨C,G⟩|exact zZU ⟨D,H⟩ ⟨C,G⟩|exact zZT ⟨D,H⟩ ⟨C,G⟩ ⟨ab,ae⟩ ⟨aa,ad⟩ ⟨Z,ac⟩),ap⟩
 refine gc6 (λbx=>?_) λbx=>?_
 ·
  refine go4 ?_;refine zG (zL (ρ:=rpI) (m:=10) (xs:=[(0:Int),(0:Int),(1:Int),(0:Int),(2:Int),(0:Int),(2:Int),(2:Int),(0:Int),(1:Int)]) (ps':=[(0,_),(1,_),(2,_),(3,_),(4,_),(5,_),(6,_),(7,_),(8,_),(9,_)]) underlying22 jV I I I wL ⟨I,I,I,I,I,I,I,I,I,I,I,I,I,I,I,I,I,I,I,I,trivial⟩ (zD I (Pc.arr (Pc.here _) (0:Int) 0 dC) (wH dC dC) (zD I (Pc.arr (Pc.here _) (0:Int) 1 dC) (wH dC dC) (zD I (Pc.arr (Pc.here _) (0:Int) 2 dC) (wH dC dC) (zD I (Pc.arr (Pc.here _) (0:Int) 3 dC) (wH dC dC) (zD I (Pc.arr (Pc.here _) (0:Int) 4 dC) (wH dC dC) (zD I (Pc.arr (Pc.here _) (0:Int) 5 dC) (wH dC dC) (zD I (Pc.arr (Pc.here _) (0:Int) 6 dC) (wH dC dC) (zD I (Pc.arr (Pc.here _) (0:Int) 7 dC) (wH dC dC) (zD I (Pc.arr (Pc.here _) (0:Int) 8 dC) (wH dC dC) (zD I (Pc.arr (Pc.here _) (0:Int) 9 dC) (wH dC dC) zO)))))))))) (show 10*1<=16777216 from by decide) nP) I I I ?_
  rintro dt eo ⟨cy,rfl,bh⟩
  refine zP (A:=[]) (ρ:=rpI) bh ?_;intro h1 U ao;refine cL (ev3 I I I) call140 (λw hs=>gA hs oM oM oM oM ao (by first|omega|exact Nat.le_of_ble_eq_true rfl|(intro q J;simp only[List.mem_cons,List.not_mem_nil,or_false] at J;omega)) (by first|omega|exact Nat.le_of_ble_eq_true rfl|(intro q J;simp only[List.mem_cons,List.not_mem_nil,or_false] at J;omega)) (by first|omega|exact Nat.le_of_ble_eq_true rfl|(intro q J;simp only[List.mem_cons,List.not_mem_nil,or_false] at J;omega))) λdr h2 O cd=>(zG (zL (ρ:=(tLs 2)) (m:=1) (xs:=[aB z6 z8 [(0:Int),(0:Int),(1:Int),(0:Int),(2:Int),(0:Int),(2:Int),(2:Int),(0:Int),(1:Int)]]) (ps':=[(0,_)]) underlying76 cZ I I I wG e2z (zD I (Pc.arr (Pc.here _) [] 0 dC) cd zO) zoj nP) I I I ?_)
  rintro dq en ⟨cw,rfl,bg⟩
  refine go6 ?_;refine wS (A:=[]) (ρ:=(tLs 2)) bg ?_;intro h3 M an;refine qF I I ?_;exact⟨_,(List.Sublist.refl _),(((((aj.trans ai).trans ah).trans U).trans O).trans M),_,_,I,by omega,(by first|exact zZX ⟨D,H⟩ ⟨C,G⟩|exact zZW ⟨D,H⟩ ⟨C,G⟩|exact zZV ⟨D,H⟩ ⟨C,G⟩|exact zZU ⟨D,H⟩ ⟨C,G⟩|exact zZT ⟨D,H⟩ ⟨C,G⟩ ⟨ab,ae⟩ ⟨aa,ad⟩ ⟨Z,ac⟩),an⟩
 refine go8 ?_;refine yD (A:=[]) (vs:=[_,vI (3)]) call13 e2z (λX w hs=>xW hl.up zox oM oM hs) I ?_;intro dp fi em bw bs;obtain⟨fc,ba,rfl,cq,rfl,ab,ae⟩:=bs;refine gv (zR (p:=1) I I oM oM) I (go1 ?_);refine yD (A:=[]) (vs:=[_,vI (2)]) call13 e2z (λX w hs=>xW hl.up zox oM oM hs) I ?_;intro dn fh el bv br;obtain⟨fb,az,rfl,cp,rfl,aa,ad⟩:=br;refine go1 ?_;refine yD (A:=[]) (vs:=[_,vI (2)]) call13 e2z (λX w hs=>xW hl.up zox oM oM hs) I ?_;intro dm fg ek bu bq;obtain⟨fa,ay,rfl,co,rfl,Z,ac⟩:=bq;refine gv (zR (p:=1) I I oM oM) I (zG (zL (ρ:=rpI) (m:=6) (xs:=[(0:Int),(0:Int),((1:Int)+ba),(0:Int),az,((1:Int)+ay)]) (ps':=[(0,_),(1,_),(2,_),(3,_),(4,_),(5,_)]) underlying22 jV I I I wL e12 (zD I (Pc.arr (Pc.here _) (0:Int) 0 dC) (wH dC dC) (zD I (Pc.arr (Pc.here _) (0:Int) 1 dC) (wH dC dC) (zD I (Pc.arr (Pc.here _) (0:Int) 2 dC) (wH oM oM) (zD I (Pc.arr (Pc.here _) (0:Int) 3 dC) (wH dC dC) (zD I (Pc.arr (Pc.here _) (0:Int) 4 dC) (wH oM oM) (zD I (Pc.arr (Pc.here _) (0:Int) 5 dC) (wH oM oM) zO)))))) zos nP) I I I ?_)
 rintro dl ej ⟨cv,rfl,bf⟩
 refine zP (A:=[]) (ρ:=rpI) bf ?_;intro h1 U am;refine cL (ev3 I I I) call140 (λw hs=>gA hs oM oM oM oM am (by first|omega|exact Nat.le_of_ble_eq_true rfl|(intro q J;simp only[List.mem_cons,List.not_mem_nil,or_false] at J;omega)) (by first|omega|exact Nat.le_of_ble_eq_true rfl|(intro q J;simp only[List.mem_cons,List.not_mem_nil,or_false] at J;omega)) (by first|omega|exact Nat.le_of_ble_eq_true rfl|(intro q J;simp only[List.mem_cons,List.not_mem_nil,or_false] at J;omega))) λdk h2 O cc=>(zG (zL (ρ:=(tLs 2)) (m:=1) (xs:=[aB z6 z8 [(0:Int),(0:Int),((1:Int)+ba),(0:Int),az,((1:Int)+ay)]]) (ps':=[(0,_)]) underlying76 cZ I I I wG e2z (zD I (Pc.arr (Pc.here _) [] 0 dC) cc zO) zoj nP) I I I ?_)
 rintro dj ei ⟨cu,rfl,be⟩
 refine go4 ?_;refine wS (A:=[]) (ρ:=(tLs 2)) be ?_;intro h3 M ak;refine qF I I ?_;exact⟨_,(List.Sublist.refl _),((((((((aj.trans ai).trans ah).trans bw).trans bv).trans bu).trans U).trans O).trans M),_,_,I,by omega,(by first|exact zZX ⟨D,H⟩ ⟨C,G⟩|exact zZW ⟨D,H⟩ ⟨C,G⟩|exact zZV ⟨D,H⟩ ⟨C,G⟩|exact zZU ⟨D,H⟩ ⟨C,G⟩|exact zZT ⟨D,H⟩ ⟨C,G⟩ ⟨ab,ae⟩ ⟨aa,ad⟩ ⟨Z,ac⟩),ak⟩
set_option maxHeartbeats 1000000 in
theorem zKG{w0 w:World}{h0 h:Mem}{b k:Nat}{vl:Value}{xs:List Int}(hl:Is h vl xs)(hk:k<=xs.length){L:List Res}(hs:St w0 h0 (.var b 72 [vl,vI ↑k]::L) h w):
 Calls Tryz.prog 58 #[vP b 0] w (rB w0 h0 h L (λg r q'=>∃k':Nat,∃m:Sq,q'=.var b 72 [vl,vI ↑k']/\k'<=xs.length/\zHJ m/\(tSd 2 2 2 1).Is g r m)):=by
 have bl:=hl.lt63;refine uF (n:=23) (e:=[(0,vP b 0)]) (vs:=[vP b 0]) func58 rfl rfl (bL rfl) hs ⟨rfl,trivial⟩ (go2 ?_);refine nA (ρ:=(tSd 1 1 1 1)) (X:=([],([],[]))) qS (yC wG (yC wG wG)) λb2 ce ay=>(go5 ?_);refine yD (A:=[_]) (vs:=[_,vI (2)]) call13 e2z (λX w hs=>xW hl zox oM oM hs) I ?_;intro v7 g7 q7 bg bc;obtain⟨k7,M,rfl,ca,rfl,U,Z⟩:=bc;refine go6 ?_;refine yD (A:=[_]) (vs:=[_]) call95 ⟨I,trivial⟩ (λX w hs=>zMU hl.up zox hs) I ?_;intro bt cc bw av ac;obtain⟨bz,J,rfl,bn,G,ac⟩:=ac;refine go1 ?_;refine cL (ev1 I) call27 (λw hs=>kM hs oM oM) λbs h1 bf bb=>(go3 ?_);refine yD (A:=[_]) (vs:=[_,vI (2)]) call13 e2z (λX w hs=>xW hl.up zox oM oM hs) I ?_;intro br cb bv au aq;obtain⟨bx,H,rfl,bm,rfl,C,D⟩:=aq;refine go1 ?_;refine cL (ev1 I) call27 (λw hs=>kM hs oM oM) λbq h2 be ba=>?_;refine qA (vs:=[_,_,_]) I I I I call46 e3z (λw hs=>zIP hs ac.up bb.up ba dC dC dC (by first|omega|exact(zCL G ⟨U,Z⟩ ⟨C,D⟩).1.1|exactλ_=>(zCL G ⟨U,Z⟩ ⟨C,D⟩).1.2.2) (by first|omega|exact(zCL G ⟨U,Z⟩ ⟨C,D⟩).1.1|exactλ_=>(zCL G ⟨U,Z⟩ ⟨C,D⟩).1.2.2)) ?_;intro bp h3 cf bd ab;obtain⟨bu,bj,aw,rfl,ab,rfl,bk,O⟩:=ab
 change RL (tFc (1000*2+1000*2+1000*2+2000) (1000*2+1000*2+1000*2+2000)) h3 aw (prF J ((M:Int):Rat) ((((M+(1:Int))+H):Int):Rat)) at O
 replace ab:=Rp.Is.le ab (Le.p (Le.s (Le.t (Le.q (l:=26) oM))) (Le.refl _));replace O:=(Le.p (Le.p (Le.t (Le.q (l:=8000) oM)) (Le.q (l:=8000) oM)) (Le.refl _)).rl O;refine go3 ?_;refine nA (ρ:=(rpP (tLs 1) (rpP rpV (rpS (rpP rpI (rpP rpI (rpQ 1))))))) (X:=([],((Value.slice none 0 0),[]))) qS (yC wG (yC gV wG)) λb4 cd ax=>?_;have am:=(Le.p (Le.s (Le.t (Le.q (l:=26) dC))) (Le.p (Le.refl _) (Le.s (Le.p (Le.refl _) (Le.p (Le.refl _) (Le.q (l:=5) dC)))))).R ax;refine zW (A:=[]) (uB sizeOf39 pH am ab) λad aa=>(go5 ?_);refine zP (A:=[_]) (ρ:=(tFc 8000 8000)) O ?_;intro h4 ar an;replace aa:=aa.mono ar;have ap:(tSd 26 8000 8000 5).R h4 ad (prP J ((M:Int):Rat) ((((M+(1:Int))+H):Int):Rat),(prF J ((M:Int):Rat) ((((M+(1:Int))+H):Int):Rat),[])):=zEV aa an;have ao:(tSd 26 8000 8000 5).R h4 ad (prP J ((M:Int):Rat) ((M+1+H:Int):Rat),prF J ((M:Int):Rat) ((M+1+H:Int):Rat),([]:List En)):=Rp.castR ap zo3;have ak:(tSd 2 2 2 1).R h4 ad (prP J ((M:Int):Rat) ((M+1+H:Int):Rat),prF J ((M:Int):Rat) ((M+1+H:Int):Rat),([]:List En)):=zA4 ao (zAV (zCL G ⟨U,Z⟩ ⟨C,D⟩).2).2;refine lX (xB jB pH ak) λbo az=>?_;have ah:=(Le.p (Le.s (Le.t (Le.q (l:=2) dC))) (Le.p (Le.s (Le.p (Le.p (Le.t (Le.q (l:=2) dC)) (Le.q (l:=2) dC)) (Le.refl _))) (Le.refl _))).R ay;refine zW (A:=[_]) (uB sizeOf39 pH ah az) λbh aj=>(go3 ?_);refine wT (kJ (t:=2) jB mh1 I aj) ?_;intro bi ae ai;refine jK (λE S=>zV I ae E S) ?_;exact⟨_,(.cons _ (.cons _ (List.Sublist.refl _))),((((((bg.trans av).trans bf).trans au).trans be).trans bd).trans ar),_,_,I,by omega,(zCL G ⟨U,Z⟩ ⟨C,D⟩).2,ai⟩
set_option maxHeartbeats 1000000 in
theorem zKF{w0 w:World}{h0 h:Mem}{b k:Nat}{vl:Value}{xs:List Int}(hl:Is h vl xs)(hk:k<=xs.length){L:List Res}(hs:St w0 h0 (.var b 72 [vl,vI ↑k]::L) h w):
 Calls Tryz.prog 24 #[vP b 0] w (rB w0 h0 h L (λg r q'=>∃k':Nat,∃m:Sq,q'=.var b 72 [vl,vI ↑k']/\k'<=xs.length/\zHJ m/\(tSd 2 2 2 1).Is g r m)):=by
 have ay:=hl.lt63;refine uF (n:=15) (e:=[(0,vP b 0)]) (vs:=[vP b 0]) func24 rfl rfl (bL rfl) hs ⟨rfl,trivial⟩ (go2 ?_);refine nA (ρ:=(tSd 1 1 1 1)) (X:=([],([],[]))) qS (yC wG (yC wG wG)) λb2 bt aa=>(go6 ?_);refine yD (A:=[_]) (vs:=[_,vI (5)]) call13 e2z (λX w hs=>xW hl zox oM oM hs) I ?_;intro v4 g4 q4 ah aq;obtain⟨k4,z4,rfl,bq,rfl,bn,bo⟩:=aq;refine gc9 (λav=>?_) λav=>?_
 ·
  refine go3 ?_;refine yD (A:=[_]) (vs:=[_]) call57 ⟨I,trivial⟩ (λX w hs=>zPO hl.up zox hs) I ?_;intro v8 g8 q8 ar ae;obtain⟨k8,p8,rfl,bp,ab,ae⟩:=ae;have aj:=(Le.p (Le.s (Le.t (Le.q (l:=2) dC))) (Le.p (Le.s (Le.p (Le.p (Le.t (Le.q (l:=2) dC)) (Le.q (l:=2) dC)) (Le.refl _))) (Le.refl _))).R aa;refine zW (A:=[]) (uB sizeOf39 pH aj ae) λbc an=>(go5 ?_);refine wT (kJ (t:=2) jB mh0 I an) ?_;intro be ad ak;refine jK (λE S=>zV I ad E S) ?_;exact⟨_,(.cons _ (List.Sublist.refl _)),(ah.trans ar),_,_,I,by omega,(by first|exact ab|exact D|exact zEF C),ak⟩
 refine gc6 (λau=>?_) λau=>?_
 ·
  refine go3 ?_;refine yD (A:=[_]) (vs:=[_]) call58 ⟨I,trivial⟩ (λX w hs=>zKG hl.up zox hs) I ?_;intro bg bs bi ap H;obtain⟨bm,bk,rfl,ba,D,H⟩:=H;have ai:=(Le.p (Le.s (Le.t (Le.q (l:=2) dC))) (Le.p (Le.s (Le.p (Le.p (Le.t (Le.q (l:=2) dC)) (Le.q (l:=2) dC)) (Le.refl _))) (Le.refl _))).R aa;refine zW (A:=[]) (uB sizeOf39 pH ai H) λbb am=>(go5 ?_);refine wT (kJ (t:=2) jB mh0 I am) ?_;intro bd ac U;refine jK (λE S=>zV I ac E S) ?_;exact⟨_,(.cons _ (List.Sublist.refl _)),(ah.trans ap),_,_,I,by omega,(by first|exact ab|exact D|exact zEF C),U⟩
 refine go6 ?_;refine yD (A:=[_]) (vs:=[_]) call19 ⟨I,trivial⟩ (λX w hs=>zKE hl.up zox hs) I ?_;intro bf br bh ao G;obtain⟨bl,bj,rfl,az,C,G⟩:=G;have M:=(Le.p (Le.s (Le.t (Le.q (l:=2) dC))) (Le.p (Le.s (Le.p (Le.p (Le.t (Le.q (l:=2) dC)) (Le.q (l:=2) dC)) (Le.refl _))) (Le.refl _))).R aa;refine zW (A:=[]) (uB sizeOf39 pH M G) λaw Z=>(go3 ?_);refine wT (kJ (t:=2) jB mh0 I Z) ?_;intro ax J O;refine jK (λE S=>zV I J E S) ?_;exact⟨_,(.cons _ (List.Sublist.refl _)),(ah.trans ao),_,_,I,by omega,(by first|exact ab|exact D|exact zEF C),O⟩
theorem zDY{w0 w:World}{h0 h:Mem}{b k0 k m n j:Nat}{vl:Value}{xs:List Int}(hl:Is h vl xs)(hk:k0<=xs.length){vs:Value}{s:Sd}(rs:(tSd k m n j).Is h vs s)(hcd0:0<s.1.length)(hcd1:s.1.length<=1000)(hcd2:2<=k/\k<=1000){L:List Res}(hs:St w0 h0 (.var b 72 [vl,vI ↑k0]::L) h w):
 Calls Tryz.prog 25 #[vP b 0,vs] w (rB w0 h0 h L (λg r q'=>∃k':Nat,∃m:T3 Rat,q'=.var b 72 [vl,vI ↑k']/\k'<=xs.length/\(tPt (13*k+33)).Is g r m)):=by
 have de:=hl.lt63;refine uF (n:=55) (e:=[(0,vP b 0),(1,vs)]) (vs:=[vP b 0,vs]) func25 rfl rfl (bL rfl) hs e2z (go2 ?_);refine nB rs λb3 ft O=>(nA (ρ:=(tPt 2)) (X:=zT) yM (xO (yI dC)) λb4 fs M=>(go3 ?_));refine qG (A:=[_,_]) 22 [(18,(5,31,[.bool false,.slice none 0 0,.slice none 0 0,.bool false,.slice none 0 0,.slice none 0 0,.bool false,.slice none 0 0,.slice none 0 0])),(19,(6,31,[.bool false,.slice none 0 0,.slice none 0 0,.bool false,.slice none 0 0,.slice none 0 0,.bool false,.slice none 0 0,.slice none 0 0]))] [(0,.q),(1,.q),(2,.q),(3,.q),(4,.q),(5,.q),(9,.q),(10,.q),(11,.q),(12,.q),(13,.q),(14,.q),(6,.c),(7,.q),(8,.q),(15,.c),(16,.q),(17,.q),(18,.a),(19,.a),(20,.c),(21,.c)] yA (jM.cons I I (uR yM I I) (jM.cons I I (uR yM I I) jM.nil)) (wJ zou) (uU I I (uU I I kU)) (go1 ?_);refine wX I (xB uO (Pc.fst pH) O) λv8 r8=>(go2 ?_);refine wX I (xB uO (Pc.fst pH) O) λey cj=>(w_q I (λh' L' hh hR=>uY underlying35 I (cj.mono hh)) I (go1 ?_));refine wX I (xB uO (Pc.fst pH) O) λes cg=>(go2 ?_);refine wX I (xB uO (Pc.fst pH) O) λer cf=>(w_q I (λh' L' hh hR=>uY underlying35 I (cf.mono hh)) I ?_);refine w_c I ?_;refine aW (A:=[_,_]) (vs:=[_,_]) call13 e2z (λX w hs=>xW hl zox oM oM hs) I (xJ zoy) ?_;intro ew fr fe H bh;obtain⟨fl,bq,rfl,dl,rfl,cw,dc⟩:=bh;refine wX I (xI zT bq.toNat underlying35 zM r8) λev ci=>(wX I (xA zM ci) λeu ch=>?_);refine w_c I ?_;refine aW (A:=[_,_]) (vs:=[_,_]) call13 e2z (λX w hs=>xW hl.up zox oM oM hs) I (xJ zoy) ?_;intro eq bo fd G bg;obtain⟨fk,bp,rfl,dk,rfl,cv,db⟩:=bg;refine wX I (xI zT bp.toNat underlying35 zM cg) λep ce=>(wX I (xA zM ce) λeo cd=>?_);refine w_a I I (λb5=>?_);have bs:(tPt k).R bo [.bool false,.slice none 0 0,.slice none 0 0,.bool false,.slice none 0 0,.slice none 0 0,.bool false,.slice none 0 0,.slice none 0 0] zT:=(xO (yI oM));refine w_a I I (λb6=>?_);have br:(tPt k).R bo [.bool false,.slice none 0 0,.slice none 0 0,.bool false,.slice none 0 0,.slice none 0 0,.bool false,.slice none 0 0,.slice none 0 0] zT:=(xO (yI oM));refine w_c I (pY (A:=[_]) (uB sizeOf31 pH bs ch) (xJ zo9) λdp C=>?_);refine w_c I (pY (A:=[]) (uB sizeOf31 pH br cd) (xJ zo9) λdn ab=>(go6 ?_));refine yD (A:=[_,_,_,_]) (vs:=[_,vI (5)]) call13 e2z (λX w hs=>xW hl.up zox oM oM hs) I ?_;intro en fq fc D bf;obtain⟨fj,dt,rfl,dj,rfl,cu,da⟩:=bf;refine gc9 (λbn=>?_) λbn=>?_
 ·
  refine go2 ?_;refine lX (xB zM pH C) λem cc=>?_;have ba:=(Le.t (Le.q (l:=k+2) oM)).R M;refine zW (A:=[_,_]) (uB sizeOf31 pH ba (cc.le (Le.t (Le.q (l:=k+2) oM)))) λdm bc=>(go5 ?_);refine wT (kJ (t:=4) zM mh2 I bc) ?_;intro du av bb;refine jK (λE S=>zV I av E S) ?_;exact⟨_,(.cons _ (.cons _ (.cons _ (.cons _ (List.Sublist.refl _))))),((H.trans G).trans D),_,_,I,by omega,(Rp.Is.le bb (Le.t (Le.q (l:=13*k+33) oM)))⟩
 refine gc6 (λbm=>?_) λbm=>?_
 ·
  refine go1 ?_;refine qG (A:=[_,_,_,_]) 9 [] [(0,.q),(1,.q),(4,.q),(5,.q),(2,.c),(3,.c),(6,.c),(7,.c),(8,.c),(9,.t)] yA nX zou nX (wX I (xB zM pH C) λel cb=>(go1 ?_));refine wX I (xB zM pH ab) λei bz=>(wX I (xB zM pH C) λeh bx=>?_);refine w_c I ?_;refine aW (A:=[_,_,_,_]) (vs:=[_,vI (99)]) call13 e2z (λX w hs=>xW hl.up zox oM oM hs) I (xJ zoy) ?_;intro ek fp fb bk be;obtain⟨fi,dr,rfl,di,rfl,ct,cz⟩:=be;refine w_c I (sC (ev1 I) call59 (λw hs=>zMR hs oM oM) λej h1 az ca=>?_);refine w_c I (sC (ev2 I I) call22 (λw hs=>lE hs bz.up bx.up oM) λeg h2 ay au=>?_);replace au:=Rp.Is.le au (Le.t (Le.q (l:=2*k+1) oM));refine w_c I (sC (ev2 I I) call20 (λw hs=>oF hs ca.up au oM) λef h3 ax ar=>?_);replace ar:=Rp.Is.le ar (Le.t (Le.q (l:=2*k+3) oM));refine w_c I (sC (ev2 I I) call14 (λw hs=>zFW hs cb.up ar oM) λee h4 aw aq=>?_);replace aq:=Rp.Is.le aq (Le.t (Le.q (l:=3*k+4) oM));have ad:=(Le.t (Le.q (l:=3*k+4) oM)).R M;refine yK (A:=[_,_]) I (uB sizeOf31 pH ad aq) λcm am=>(go5 ?_);refine wT (kJ (t:=4) zM mh2 I am) ?_;intro cp aa ai;refine jK (λE S=>zV I aa E S) ?_;exact⟨_,(.cons _ (.cons _ (.cons _ (.cons _ (List.Sublist.refl _))))),(((((((H.trans G).trans D).trans bk).trans az).trans ay).trans ax).trans aw),_,_,I,by omega,(Rp.Is.le ai (Le.t (Le.q (l:=13*k+33) oM)))⟩
 refine gc6 (λbl=>?_) λbl=>?_
 ·
  refine go1 ?_;refine qG (A:=[_,_,_,_]) 10 [] [(0,.q),(1,.q),(5,.q),(6,.q),(2,.c),(3,.q),(4,.c),(7,.c),(8,.c),(9,.c),(10,.t)] yA nX zou nX (wX I (xB zM pH C) λed bw=>(go1 ?_));refine wX I (xB zM pH ab) λea bu=>(wX I (xB zM pH C) λdz bt=>?_);refine w_c I ?_;refine aW (A:=[_,_,_,_]) (vs:=[_,vI (9)]) call13 e2z (λX w hs=>xW hl.up zox oM oM hs) I (xJ zoy) ?_;intro ec fo fa bj bd;obtain⟨fh,dq,rfl,dh,rfl,cq,cy⟩:=bd;refine go1 ?_;refine w_c I (sC (vs:=[_,vI (2)]) e2z call21 (λw hs=>iJ hs oM oM dC dC) λeb h1 az bv=>?_);refine w_c I (sC (ev2 I I) call22 (λw hs=>lE hs bu.up bt.up oM) λdy h2 ay ap=>?_);replace ap:=Rp.Is.le ap (Le.t (Le.q (l:=2*k+1) oM));refine w_c I (sC (ev2 I I) call20 (λw hs=>oF hs bv.up ap oM) λdx h3 ax ao=>?_);replace ao:=Rp.Is.le ao (Le.t (Le.q (l:=2*k+3) oM));refine w_c I (sC (ev2 I I) call14 (λw hs=>zFW hs bw.up ao oM) λdw h4 aw an=>?_);replace an:=Rp.Is.le an (Le.t (Le.q (l:=3*k+4) oM));have ac:=(Le.t (Le.q (l:=3*k+4) oM)).R M;refine yK (A:=[_,_]) I (uB sizeOf31 pH ac an) λcl ak=>(go5 ?_);refine wT (kJ (t:=4) zM mh2 I ak) ?_;intro co Z ah;refine jK (λE S=>zV I Z E S) ?_;exact⟨_,(.cons _ (.cons _ (.cons _ (.cons _ (List.Sublist.refl _))))),(((((((H.trans G).trans D).trans bj).trans az).trans ay).trans ax).trans aw),_,_,I,by omega,(Rp.Is.le ah (Le.t (Le.q (l:=13*k+33) oM)))⟩
 refine go6 ?_;refine yD (A:=[_,_,_,_]) (vs:=[_]) call16 ⟨I,trivial⟩ (λX w hs=>zMT hl.up zox hs) I ?_;intro dv fm ez bi J;obtain⟨fg,ff,rfl,df,dd,J⟩:=J;refine zW (A:=[_,_]) (uB sizeOf31 pH M J) λck aj=>(go3 ?_);refine wT (kJ (t:=4) zM mh2 I aj) ?_;intro cn U ae;refine jK (λE S=>zV I U E S) ?_;exact⟨_,(.cons _ (.cons _ (.cons _ (.cons _ (List.Sublist.refl _))))),(((H.trans G).trans D).trans bi),_,_,I,by omega,(Rp.Is.le ae (Le.t (Le.q (l:=13*k+33) oM)))⟩
theorem zGR{w0:World}{h0:Mem}(hs:MLe h0 (mem w0)):
 Calls Tryz.prog 10 #[] w0 (Ret w0 h0 (λ_ r=>r=.bool true)):=by
 refine cb0 48 func10 hs ?_;refine go7 ?_;refine cL (vs:=[vI (0),vI (0),vI (0)]) e3z call12 (λw hs=>fC hs dC dC dC dC dC dC) λv9 h1 cb r9=>(cL (vs:=[vI (1),vI (1),vI (1)]) e3z call12 (λw hs=>fC hs dC dC dC dC dC dC) λbs h2 ca ay=>?_);refine qA (vs:=[_,_]) I I I I call15 e2z (λw hs=>zIT hs r9.up ay dC dC (by first|omega|exact fM.b.oks|exact fM.b.snd|exactλ_=>fM.b.h)) ?_;intro br h3 cf bz J;obtain⟨bt,bb,ac,rfl,J,rfl,bc,D⟩:=J
 change RL (tFc (10000*2+10000*2+20000) (10000*2+10000*2+20000)) h3 ac (blF (T3.mk (((0:Int):Int):Rat) (((0:Int):Int):Rat) (((0:Int):Int):Rat)) (T3.mk (((1:Int):Int):Rat) (((1:Int):Int):Rat) (((1:Int):Int):Rat))) at D
 replace J:=Rp.Is.le J (Le.p (Le.s (Le.t (Le.q (l:=48) oM))) (Le.refl _));replace D:=(Le.p (Le.p (Le.t (Le.q (l:=60000) oM)) (Le.q (l:=60000) oM)) (Le.refl _)).rl D;refine go3 ?_;refine nA (ρ:=(rpP (tLs 1) (rpP rpV (rpS (rpP rpI (rpP rpI (rpQ 1))))))) (X:=([],((Value.slice none 0 0),[]))) qS (yC wG (yC gV wG)) λb1 ce ah=>?_;have ab:=(Le.p (Le.s (Le.t (Le.q (l:=48) dC))) (Le.p (Le.refl _) (Le.s (Le.p (Le.refl _) (Le.p (Le.refl _) (Le.q (l:=6) dC)))))).R ah;refine zW (A:=[]) (uB sizeOf39 pH ab J) λM H=>(go5 ?_);refine cL (vs:=[vI (1),vI (2)]) e2z call21 (λw hs=>iJ hs dC dC dC dC) λbq h4 ba ax=>(nA (ρ:=(rpQ 1)) (X:=(0:Rat)) xR (yI dC) λb3 cd ae=>?_);have aa:=(Le.q (l:=2) dC).R ae;refine zW (A:=[]) (uB sizeOf29 pH aa ax) λbe G=>(go4 ?_);refine zP (A:=[_,_]) (ρ:=(tFc 60000 60000)) D.up ?_;intro h5 az O;replace H:=H.mono (ba.trans az);have Z:(tSd 48 60000 60000 6).R h5 M (blP (T3.mk (((0:Int):Int):Rat) (((0:Int):Int):Rat) (((0:Int):Int):Rat)) (T3.mk (((1:Int):Int):Rat) (((1:Int):Int):Rat) (((1:Int):Int):Rat)),(blF (T3.mk (((0:Int):Int):Rat) (((0:Int):Int):Rat) (((0:Int):Int):Rat)) (T3.mk (((1:Int):Int):Rat) (((1:Int):Int):Rat) (((1:Int):Int):Rat)),[])):=zEV H O;have U:(tSd 48 60000 60000 6).R h5 M (bkS (pI 0 0 0) (pI 1 1 1)):=Rp.castR Z zo3;have C:(tSd 2 2 4 0).R h5 M (bkS (pI 0 0 0) (pI 1 1 1)):=zA4 U fM.b.sm;refine lX (xB jB pH C) λbp aw=>(lX (xB yE pH G) λbo av=>(lX (xB yE pH G) λbn au=>(lX (xB yE pH G) λbm ar=>(lX (xV (ρ:=(tPt 2)) (wB (ps':=[(0,_),(1,_),(2,_)]) underlying31 yM I I sizeOf29 e6z I (xO (yI dC)) (zD I (Pc.tx (Pc.here _)) av (zD I (Pc.ty (Pc.here _)) au (zD I (Pc.tz (Pc.here _)) ar zO))))) λbl aq=>(cL (ev2 I I) call32 (λw hs=>oJ hs aw aq (by first|omega|exact fM.b.oks|exact fM.b.snd|exactλ_=>fM.b.h) (by first|omega|exact fM.b.oks|exact fM.b.snd|exactλ_=>fM.b.h) dC dC dC dC) λbk h6 bx ap=>?_)))));obtain rfl:=ap;refine go8 ?_;refine zK 8 _ [] [(0,.q),(1,.c),(2,.c),(3,.q),(4,.q),(5,.q),(6,.q),(7,.q)] yA nX zou nX (λr hr=>hr) (wX I (xB jB pH C) λbj ao=>?_);refine w_c I (sC (vs:=[vI (2),vI (0),vI (0)]) e3z call12 (λw hs=>fC hs dC dC dC dC dC dC) λbi h7 bw an=>?_);refine w_c I (sC (ev2 I I) call32 (λw hs=>oJ hs ao.up an (by first|omega|exact fM.b.oks|exact fM.b.snd|exactλ_=>fM.b.h) (by first|omega|exact fM.b.oks|exact fM.b.snd|exactλ_=>fM.b.h) dC dC dC dC) λbh h8 bv am=>?_);obtain rfl:=am;refine go8 ?_;refine zK 19 _ [] [(0,.q),(1,.q),(2,.q),(3,.q),(4,.q),(5,.q),(6,.q),(7,.q),(8,.q),(9,.q),(10,.q),(11,.q),(12,.q),(13,.q),(14,.c),(15,.c),(16,.q),(17,.q),(18,.q)] yA nX (wJ zou) nX (λr hr=>hr) (wI I (λ_ _=>OpV.tr (by exact fM.o1) (yZ I)) I (go1 ?_));refine yS I I I (λh' L' hh hR=>yZ I) I (yS I I I (λh' L' hh hR=>OpV.tr (by exact fM.w1) (bS (q:=1) I I)) I (go2 ?_));refine yS I I I (λh' L' hh hR=>OpV.tr (by exact fM.o2) (yZ I)) I (go2 ?_);refine yS I I I (λh' L' hh hR=>yZ I) I (yS I I I (λh' L' hh hR=>OpV.tr (by exact fM.w2) (bS (q:=0) I I)) I (go2 ?_));refine oX I (xB jB pH C) λbg ak=>?_;refine w_c I (zA6 I I (sC (vs:=[vI (1),vI (1),vI (1)]) e3z call12 (λw hs=>fC hs dC dC dC dC dC dC) λbf h9 bu aj=>?_));refine w_c I (zA6 I I (sC (ev2 I I) call18 (λw hs=>yBZ hs ak.up aj (by first|omega|exact fM.b.oks|exact fM.b.snd|exactλ_=>fM.b.h) (by first|omega|exact fM.b.oks|exact fM.b.snd|exactλ_=>fM.b.h) dC dC dC dC) λad cc bd ai=>?_));obtain rfl:ad=vI (inM (gL (bkS (pI 0 0 0) (pI 1 1 1))) (T3.mk (((1:Int):Int):Rat) (((1:Int):Int):Rat) (((1:Int):Int):Rat))):=ai;refine yS I I I (λh' L' hh hR=>OpV.tr (by exact fM.i3) (bS (q:=0) I I)) I (go5 ?_);refine zC I I ?_
 rfl
end Go.Proofs.YtpkaegemlpaenaaGreat
namespace Bk
def ngI(u:I3):I3:=(-u.1,-u.2.1,-u.2.2)
def flF(f:FI):FI:=(ngI f.1,-f.2.1,rvL f.2.2.1 f.2.2.1.length,f.2.2.2)
def yCP(I:SI):SI:=(I.1,I.2.map flF)
theorem yKR(v:I3)(f:FI)(r:Rat):opP (scW r (cPl v f))=scW r (cPl v (flF f)):=by
 have e:∀n:Int,((-1:Int):Rat)*(r*(n:Rat))=r*((-n:Int):Rat):=λn=>by
  rw[Rat.intCast_neg n,show(((-1:Int):Rat))= -(1:Rat) from I];grind
 refine Prod.ext ?_ ?_
 · exact T3.mk.injEq _ _ _ _ _ _▸⟨e _,e _,e _⟩
 · show -(r*((f.2.1+dt3 f.1 v:Int):Rat))=r*((-f.2.1+dt3 (ngI f.1) v:Int):Rat)
   have:-f.2.1+dt3 (ngI f.1) v= -(f.2.1+dt3 f.1 v):=by unfold dt3 ngI;simp only[Int.neg_mul];omega
   rw[this,Rat.intCast_neg];grind
theorem zM1{v:I3}{I:SI}{s:Sd}(h:aJ v I s):aJ v (yCP I) (flS s):=by
 obtain⟨h1,h2,h3,G⟩:=h;refine⟨h1,h2,by show(s.2.1.map fcS).length=(I.2.map flF).length;rw[List.length_map,List.length_map,h3],λf C=>?_⟩;have C:f<I.2.length:=by have:f<(I.2.map flF).length:=C;rwa [List.length_map] at this
 have O:(yCP I).2.getD f fi0=flF (I.2.getD f fi0):=gQ _ _ _ C;have M:(flS s).2.1.getD f zA=fcS (s.2.1.getD f zA):=gQ _ _ _ zot;rw[O,M];obtain⟨⟨a,D,J⟩,H⟩:=G f C;refine⟨⟨a,D,?_⟩,?_⟩
 · show opP (s.2.1.getD f zA).1=_
   rw[J,yKR]
 · show(rvL (s.2.1.getD f zA).2.1 (s.2.1.getD f zA).2.1.length,(s.2.1.getD f zA).2.2)=_
   rw[H];rfl
def chF(I:SI):Bool:=chI (yCP I)
theorem yIW:bxC chF=true:=by decide +kernel
theorem yIX:baC chF=true:=by decide +kernel
theorem yIU:trC chF=true:=by decide +kernel
def teP(c:SI->Bool)(p k:Nat):Bool:=(List.range 3).all λq=>(List.range 3).all λe=>(List.range 3).all λf=>(List.range 3).all λg=>c (nrI (teI p k q e f g))
theorem yI3:teP chF 0 0=true:=by decide +kernel
theorem yI2:teP chF 0 1=true:=by decide +kernel
theorem yI1:teP chF 1 0=true:=by decide +kernel
theorem yI0:teP chF 1 1=true:=by decide +kernel
theorem yIZ:teP chF 2 0=true:=by decide +kernel
theorem yIY:teP chF 2 1=true:=by decide +kernel
theorem yIV:teC chF=true:=by
 refine zob.2 λp C=>zob.2 λk D=>?_;have C:=zog.1 C;have D:=zog.1 D
 show teP chF p k=true
 match p,k,C,D with
 |0,0,_,_=>exact yI3
 |0,1,_,_=>exact yI2
 |1,0,_,_=>exact yI1
 |1,1,_,_=>exact yI0
 |2,0,_,_=>exact yIZ
 |2,1,_,_=>exact yIY
 |_+3,_,h,_=>exact absurd h zot
 |_,_+2,_,h=>exact absurd h zot
theorem zNK{I:SI}(h:zY1 I):chI (yCP I)=true:=zRU (c:=chF) yIW yIX yIU yIV h
theorem zVC{s:Sd}(h:zHJ s):(gK (flS s)/\okS (flS s))/\smS 2 2 2 1 (flS s):=by
 obtain⟨v,I,D,G,C⟩:=h;exact⟨zBM (zM1 C) (zNK D),zVG (zM1 C) (zNK D) G⟩
theorem zJS{s:Sd}(h:zHJ s):0<(flS s).1.length:=(zQP h).1
end Bk
namespace Go.Proofs.YtpkaegemlpaenaaGreat
open Bk Go Tryz
set_option maxRecDepth 10000
set_option maxHeartbeats 1000000
attribute [local irreducible] GL GC GQ W OpV
theorem zKH{w0 w:World}{h0 h:Mem}{b k:Nat}{vl:Value}{xs:List Int}(hl:Is h vl xs)(hk:k<=xs.length){L:List Res}(hs:St w0 h0 (.var b 72 [vl,vI ↑k]::L) h w):
 Calls Tryz.prog 40 #[vP b 0] w (rB w0 h0 h L (λg r q'=>∃k':Nat,∃m:T3 Rat,q'=.var b 72 [vl,vI ↑k']/\k'<=xs.length/\(tPt 2).Is g r m)):=by
 have ac:=hl.lt63;refine uF (n:=10) (e:=[(0,vP b 0)]) (vs:=[vP b 0]) func40 rfl rfl (bL rfl) hs ⟨rfl,trivial⟩ (go2 ?_);refine nA (ρ:=(tPt 1)) (X:=zT) yM (xO (yI dC)) λb2 ak U=>(go5 ?_);refine yD (A:=[_]) (vs:=[_]) call77 ⟨I,trivial⟩ (λX w hs=>nN hl zox hs) I ?_;intro v4 g4 q4 ab H;obtain⟨k4,p4,rfl,aj,H⟩:=H;refine go1 ?_;refine yD (A:=[_]) (vs:=[_]) call77 ⟨I,trivial⟩ (λX w hs=>nN hl.up zox hs) I ?_;intro v6 g6 q6 aa G;obtain⟨k6,p6,rfl,ai,G⟩:=G;refine go1 ?_;refine yD (A:=[_]) (vs:=[_]) call77 ⟨I,trivial⟩ (λX w hs=>nN hl.up zox hs) I ?_;intro v8 g8 q8 Z D;obtain⟨k8,p8,rfl,ah,D⟩:=D;refine lX (xV (ρ:=(tPt 2)) (wB (ps':=[(0,_),(1,_),(2,_)]) underlying31 yM I I sizeOf29 e6z I (xO (yI dC)) (zD I (Pc.tx (Pc.here _)) H.up (zD I (Pc.ty (Pc.here _)) G.up (zD I (Pc.tz (Pc.here _)) D zO))))) λv9 r9=>?_;have J:=(Le.t (Le.q (l:=2) dC)).R U;refine zW (A:=[]) (uB sizeOf31 pH J r9) λad O=>(go3 ?_);refine wT (kJ (t:=2) zM mh0 I O) ?_;intro ae C M;refine jK (λE S=>zV I C E S) ?_;exact⟨_,(.cons _ (List.Sublist.refl _)),((ab.trans aa).trans Z),_,_,I,by omega,M⟩
set_option maxHeartbeats 1000000 in
theorem eT{w0:World}{h0:Mem}(hs:MLe h0 (mem w0)){vl:Value}{xsl:List Int}(hl:Is h0 vl xsl):
 Calls Tryz.prog 7 #[vl] w0 (Ret w0 h0 (λ_ r=>r=.bool true)):=by
 have cn:=hl.lt63;refine cb1 72 vl func7 hs ?_;refine go9 ?_;refine cL (ev1 I) call9 (λw hs=>zPW hs hl) λei h1 ew bj=>?_;subst bj;refine gc3 (λbo=>?_) λbo=>?_
 ·
  refine go2 ?_;refine cL (vs:=[]) trivial call10 (λw hs=>zGR hs) λeh h2 co bi=>?_;subst bi;refine go5 ?_;refine zC I I ?_
  rfl
 refine go5 ?_;refine qA (vs:=[_]) I I I I call11 ⟨I,trivial⟩ (λw hs=>zTY hs hl.up) ?_;intro eg h2 fg co bh;obtain⟨ac,rfl,rfl⟩:=bh;refine go6 ?_;refine yD (A:=[]) (vs:=[_]) call24 ⟨I,trivial⟩ (λX w hs=>zKF hl.up zox hs) I ?_;intro ef cu eo di am;obtain⟨er,bc,rfl,de,Z,am⟩:=am;have M:=zAV Z;refine nA (ρ:=(tSd 1 1 1 1)) (X:=([],([],[]))) qS (yC wG (yC wG wG)) λb4 fd bv=>?_;have bb:=(Le.p (Le.s (Le.t (Le.q (l:=2) dC))) (Le.p (Le.s (Le.p (Le.p (Le.t (Le.q (l:=2) dC)) (Le.q (l:=2) dC)) (Le.refl _))) (Le.refl _))).R bv;refine zW (A:=[]) (uB sizeOf39 pH bb am) λbp ad=>(go2 ?_);refine qZ (ι:=Sd×List Value×Nat×Mem) (λ(S,J,G,mc)=>MLe cu mc/\((tSd 2 2 2 1).R mc J S/\G<=xsl.length/\((gK S/\okS S)/\smS 2 2 2 1 S)/\0<S.1.length)) (λ(S,J,G,mc)=>[(3,vP ac 0),(4,vP b4 0)]) (λ(S,J,G,mc)=>[.var b4 39 J,.var ac 72 [vl,vI ↑G]]) (λ(S,J,G,mc)=>mc) ?_ ?_
 ·
  refine go3 ?_;refine yD (A:=[_]) (vs:=[_,vI (3)]) call38 e2z (λX w hs=>iL hl.up zox oM oM hs) I ?_;intro ee ct en ap bg;obtain⟨bd,ff,rfl,dd,rfl⟩:=bg;refine gc2 (λbn=>?_) λbn=>?_
  ·
   refine go1 ?_;refine lX (xB jB pH ad) λed cj=>(cL (ev1 I) call39 (λw hs=>zXA hs cj (by first|omega|exact M.1.2|exact M.1.1) dC dC dC dC) λec h3 an ci=>(zW (A:=[]) (uB sizeOf39 pH ad ci) λba ar=>(go1 ?_)));refine zS ((flS bc),ba,bd,h3) ?_ e2z I I;refine⟨(ap.trans an),?_⟩;refine⟨ar,oM,?_⟩;exact⟨zVC Z,zJS Z⟩
  refine go1 ?_;refine zS (bc,bp,bd,ct) ?_ e2z I I;refine⟨ap,?_⟩;refine⟨ad.up,oM,?_⟩;exact⟨zAV Z,(zQP Z).1⟩
 rintro⟨S,J,G,mc⟩ ⟨cw,O⟩
 refine yW ?_;obtain⟨U,bs,O⟩:=O;obtain⟨M,es⟩:=O;refine go7 ?_;refine gcL (ι:=Nat×Nat×Mem) (λ(i,ab,ma)=>(MLe mc ma/\(ab<=xsl.length/\i<=3),[(3,vP ac 0),(4,vP b4 0),(5,vI ↑i)],[.var b4 39 J,.var ac 72 [vl,vI ↑ab]],ma,3-i)) (0,G,mc) ?_ ?_
 · exact⟨mle,oM,oM⟩
 rintro⟨i,ab,ma⟩ ⟨cy,br,eu⟩
 refine yW ?_;refine gc7 (λbm=>?_) λbm=>?_
 ·
  refine go7 ?_;refine lX (xB jB pH U) λeb ch=>?_;refine yD (A:=[_]) (vs:=[_,_]) call25 e2z (λX w hs=>zDY hl.up zox ch oM (by have:=M.1.2.1.1.1;omega) dC hs) I ?_;intro ea ez em dh ak;obtain⟨eq,aw,rfl,dc,ak⟩:=ak;refine go1 ?_;refine yD (A:=[_]) (vs:=[_]) call40 ⟨I,trivial⟩ (λX w hs=>zKH hl.up zox hs) I ?_;intro dz cq el df aj;obtain⟨ep,ck,rfl,db,aj⟩:=aj;refine nA (ρ:=(tPt 59)) (X:=zT) yM (xO (yI dC)) λb6 fc bu=>(nA (ρ:=(tPt 239)) (X:=zT) yM (xO (yI dC)) λb7 fb bt=>(zW (A:=[_]) (uB sizeOf31 pH bu ak) λaz aa=>(zW (A:=[]) (uB sizeOf31 pH bt (aj.le (Le.t (Le.q (l:=239) dC)))) λay ah=>(go2 ?_))));refine qZ (ι:=T3 Rat×List Value×Nat×Mem) (λ(D,H,C,md)=>MLe cq md/\((tPt 239).R md H D/\C<=xsl.length/\True)) (λ(D,H,C,md)=>[(3,vP ac 0),(4,vP b4 0),(5,vI ↑i),(6,vP b6 0),(7,vP b7 0)]) (λ(D,H,C,md)=>[.var b7 31 H,.var b6 31 az,.var b4 39 J,.var ac 72 [vl,vI ↑C]]) (λ(D,H,C,md)=>md) ?_ ?_
  ·
   refine go3 ?_;refine yD (A:=[_,_,_]) (vs:=[_,vI (4)]) call38 e2z (λX w hs=>iL hl.up zox oM oM hs) I ?_;intro dy cp ek ao bf;obtain⟨cm,fe,rfl,da,rfl⟩:=bf;refine gc2 (λbl=>?_) λbl=>?_
   ·
    refine qG (A:=[_,_,_]) 5 [] [(0,.q),(1,.q),(3,.q),(2,.c),(4,.c),(5,.t)] yA nX zou nX (go1 ?_);refine wX I (xB jB pH U) λdx cg=>(wX I (xB zM pH aa) λdv cf=>?_);refine w_c I ?_;refine aW (A:=[_,_,_]) (vs:=[_,_]) call25 e2z (λX w hs=>zDY hl.up zox cg oM (by have:=M.1.2.1.1.1;omega) dC hs) I (xJ zoy) ?_;intro dw ey ej bk ai;obtain⟨cl,av,rfl,cz,ai⟩:=ai;refine w_c I (sC (ev2 I I) call22 (λw hs=>lE hs ai cf.up dC) λdu h3 an au=>?_);replace au:=Rp.Is.le au (Le.t (Le.q (l:=119) oM));refine yK (A:=[]) I (uB sizeOf31 pH ah (au.le (Le.t (Le.q (l:=239) dC)))) λax aq=>(go1 ?_);refine zS ((T3.mk (av.x-aw.x) (av.y-aw.y) (av.z-aw.z)),ax,cl,h3) ?_ e5 I I;refine⟨((ao.trans bk).trans an),?_⟩;refine⟨aq,oM,?_⟩
    trivial
   refine go1 ?_;refine zS (ck,ay,cm,cp) ?_ e5 I I;refine⟨ao,?_⟩;refine⟨ah.up,oM,?_⟩
   trivial
  rintro⟨D,H,C,md⟩ ⟨cv,O⟩
  refine yW ?_;obtain⟨ae,bq,O⟩:=O;refine go2 ?_;refine lX (xB jB pH U) λdt ce=>(lX (xB zM pH aa) λdr cd=>(lX (xB zM pH ae) λdq cc=>(cL (ev3 I I I) call41 (λw hs=>zF6 hs ce cd cc (by first|omega|exact M.1.2|exact M.1.1) (by first|omega|exact M.1.2|exact M.1.1) dC dC dC dC dC) λdp h3 an cb=>?_)));obtain rfl:=cb;refine qM ?_;refine lX (xB jB pH U) λdn ca=>(lX (xB zM pH aa) λdm bz=>(lX (xB zM pH ae) λdl bx=>(cL (ev3 I I I) call42 (λw hs=>zD7 hs ca bz bx (by first|omega|exact M.1.2|exact M.1.1) dC dC) λdk h4 ev bw=>?_)));obtain rfl:=bw;refine sO ?_;refine gv (OpV.fa (by exactλe=>e I) (bR I I)) I (go6 ?_);refine gv (OpV.fa (by exactλe=>e I) (bR I I)) I (go7 ?_);refine gv (OpV.fa (by exactλe=>e Iff.rfl) (tO underlying4 I I)) I (uV ?_);refine yO (A:=[]) (yO (A:=[]) ?_);refine gqL ((i+1),C,h4) ?_ ?_
  · exact⟨mle,oM,oM⟩
  omega
 refine go7 ?_;refine cL (vs:=[]) trivial call10 (λw hs=>zGR hs) λdj h3 an be=>?_;subst be;refine go4 ?_;refine zC I I ?_
 rfl
end Go.Proofs.YtpkaegemlpaenaaGreat
