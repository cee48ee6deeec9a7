/- Texts that the proof needs, part 3. -/
import Derived.Test.YtpkaegemlpaenaaGreatK2
import Derived.Test.YtpkaegemlpaenaaGreatProg
import Derived.KernelRfl
import Derived.Laws.Externs
namespace Bk
set_option linter.unusedVariables false
set_option linter.unusedSimpArgs false
open Classical
theorem pW{α:Type}{p:Nat→Prop}{g:Nat→α}:∀{n},(∀i,i<n→¬p i)→cQ p g n=[]
  |0,_=>rfl
  |n+1,h=>by
   rw[←dU (h n (by omega))];exact pW fun i hi=>h i (by omega)
theorem zAL{α:Type}{g:Nat→List α}:∀{n},(∀i,i<n→g i=[])→rW g n=[]
  |0,_=>rfl
  |n+1,h=>by
   show rW g n++g n=[]
   rw[h n (by omega),zAL fun i hi=>h i (by omega)];rfl
def tmB(E:List E5)(a b:Int):Nat→Int
  |0=>0
  |m+1=>if(E.getD m ((0:Int),(0:Int),(0:Int),(0:Int),(0:Int))).1=a∧(E.getD m ((0:Int),(0:Int),(0:Int),(0:Int),(0:Int))).2.1=b then tmB E a b m+1 else tmB E a b m
theorem zJ0(E:List E5)(a b:Int):∀m,dL E a b m=tmB E a b m
  |0=>rfl
  |m+1=>by
   unfold dL tmB;rw[zJ0 E a b m]
   by_cases h:zWX (E.getD m ((0:Int),(0:Int),(0:Int),(0:Int),(0:Int))) a b
   · rw[if_pos h];exact(if_pos h).symm
   · rw[if_neg h];exact(if_neg h).symm
def clB(E:List E5):Bool:=(List.range E.length).all fun i=>!decide (tmB E (E.getD i ((0:Int),(0:Int),(0:Int),(0:Int),(0:Int))).2.1 (E.getD i ((0:Int),(0:Int),(0:Int),(0:Int),(0:Int))).1 E.length<tmB E (E.getD i ((0:Int),(0:Int),(0:Int),(0:Int),(0:Int))).1 (E.getD i ((0:Int),(0:Int),(0:Int),(0:Int),(0:Int))).2.1 E.length)
theorem yDN{F:List (List (List Int))}(hv:vaP F)(h:clB (edZ F)=true):clZ F=[]:=by
 unfold clZ;rw[if_pos hv];unfold yA9;refine pW fun i hi=>?_;have h1:=List.all_eq_true.1 h i (List.mem_range.2 hi);rw[Bool.not_eq_true',decide_eq_false_iff_not] at h1;unfold yDD tmZ;rw[zJ0,zJ0];exact h1
theorem yB3{s:Sd}(hb:¬zL5 s)(hf:∀f,f<s.2.1.length→vfP (s.2.1.getD f zA).2.1∧nmP s f):szZ s=[]:=by
 unfold szZ;rw[if_neg hb];exact pW fun f z e=>by
  rcases e with e|e
  · exact e (hf f z).1
  · exact e (hf f z).2
theorem yB1{s:Sd}(h:∀i k,k<i→i<s.1.length→¬gp s.1 i=gp s.1 k):zHG s s.1.length=[]:=pW fun i hi e=>by
 obtain⟨k,hk,e⟩:=e;exact h i k hk hi e
theorem yCT{s:Sd}(hz:∀f,f<s.2.1.length→¬(s.2.1.getD f zA).1.1=zT)(ho:∀f,f<s.2.1.length→∀l,l<(uH s f).length→∀k,k<(gl (uH s f) l).length→sdZ (s.2.1.getD f zA).1 (gp (gl (uH s f) l) k)=0):plZ s=[]:=by
 have h1:zNU s s.2.1.length=[]:=pW fun f z e=>hz f z e;have h2:zKT s s.2.1.length=[]:=zAL fun f z=>zAL fun l C=>pW fun k D e=>e (ho f z l C k D);unfold plZ;rw[h1,h2];rfl
theorem yCX{s:Sd}(h:∀f,f<s.2.1.length→vS (fT s f) 0 1=0∧ouZ (fT s f)=1):neZ s=[]:=by
 have h1:zT3 s s.2.1.length=[]:=pW fun f z e=>e (h f z).1;have h2:zZ2 s s.2.1.length=[]:=pW fun f z e=>e (h f z).2;unfold neZ;rw[h1,h2];rfl
theorem zU2{s:Sd}(h1:szZ s=[])(h2:zHG s s.1.length=[])(h3:plZ s=[])(h4:neZ s=[])(h5:clZ (wZ s)=[]):fX s:=by
 unfold fX zTT;rw[h1,h2,h3,h4,h5];rfl
theorem yDK{s:Sd}{f:Nat}{i j k l:Int}(hf:f<s.2.1.length)(hn:nmP s f)(hl:(s.2.1.getD f zA).2.1=[[i,j,k,l]]):uH s f=[[gp s.1 i.toNat,gp s.1 j.toNat,gp s.1 k.toNat,gp s.1 l.toNat]]:=by
 rw[zTQ hf hn,hl];unfold zEK;rw[hl];rfl
theorem zM7{s:Sd}{f:Nat}{A B C D:Pt}(h:uH s f=[[A,B,C,D]]):fT s f=[[qY (s.2.1.getD f zA).1 A,qY (s.2.1.getD f zA).1 B,qY (s.2.1.getD f zA).1 C,qY (s.2.1.getD f zA).1 D]]:=by
 unfold fT;rw[h];rfl
theorem zZJ{x p y q:Rat}(hp:0<p)(hq:0<q){l:List Pt}{t:List PI}(ht:t=[(0,0),(1,0),(1,1),(0,1)]∨t=[(1,0),(1,1),(0,1),(0,0)]∨t=[(1,1),(0,1),(0,0),(1,0)]∨t=[(0,1),(0,0),(1,0),(1,1)])
    (hl:l=t.map fun u=>T3.mk (x+p*(u.1:Rat)) (y+q*(u.2:Rat)) (0:Rat)):vS [l] 0 1=0∧ouZ [l]=1:=by
 have M:t.length=4:=by rcases ht with rfl|rfl|rfl|rfl<;>rfl
 have C:l.length=t.length:=by rw[hl,List.length_map]
 have H:∀m,m<t.length→pr (gp l m) 0 1=ag x p y q (gI t m):=fun m G=>by
  rw[hl];unfold gp gI;rw[List.getD_eq_getElem?_getD,List.getD_eq_getElem?_getD,List.getElem?_map,List.getElem?_eq_getElem G]
  rfl
 have D:aU l 0 1:=zHZ hp hq C H (by rcases ht with rfl|rfl|rfl|rfl<;>decide +kernel);have e0:((0:Int):Rat)=0:=rfl;have J:((1:Int):Rat)=1:=rfl;have I:arZ l 0 1=2*(p*q):=by
  unfold arZ
  rcases ht with rfl|rfl|rfl|rfl<;>(subst hl;simp[uT,gp,T3.at,e0,J];grind)
 have z:0<xC (arZ l 0 1):=by
  rw[I,eD];have:=sG hp hq;grind
 exact⟨zIT D (by omega) z,zRT z⟩
end Bk
namespace Bk
set_option linter.unusedVariables false
set_option linter.unusedSimpArgs false
open Classical
abbrev Dir:=Nat×Bool
def dI:Dir→Nat
  |(2,true)=>0|(2,false)=>1|(1,true)=>2|(1,false)=>0|(_,true)=>1|(_,false)=>2
def dJ:Dir→Nat
  |(2,true)=>1|(2,false)=>0|(1,true)=>0|(1,false)=>2|(_,true)=>2|(_,false)=>1
def dN(d:Dir)(c:Rat):Pt:=(zT).set d.1 (if d.2 then c else -c)
def zPX(u:B3):Nat→Bool
  |0=>u.1|1=>u.2.1|_=>u.2.2
def bI(x:Bool):Int:=if x then 1 else 0
def pI2(d:Dir)(u:B3):PI:=(bI (zPX u (dI d)),bI (zPX u (dJ d)))
variable {a b:Pt}
theorem zX0(u:B3)(i:Nat):(cU a b u).at i=if zPX u i then b.at i else a.at i:=by
 obtain⟨C,z,u3⟩:=u
 match i with
 |0=>rfl
 |1=>rfl
 |n+2=>rfl
theorem zTU(u:B3)(i:Nat):(cU a b u).at i=a.at i+(b.at i-a.at i)*((bI (zPX u i):Int):Rat):=by
 rw[zX0];have e0:((0:Int):Rat)=0:=rfl;have z:((1:Int):Rat)=1:=rfl;unfold bI
 split
 · rw[z];grind
 · rw[e0];grind
theorem zHA{d:Dir}{c:Rat}(hd:d.1<3)(hc:0<c):axI (dN d c)=dI d∧axJ (dN d c)=dJ d∧¬dN d c=zT:=by
 obtain⟨C,D⟩:=d;have h3:C=0∨C=1∨C=2:=by have:C<3:=hd;omega
 have H:¬dN (C,D) c=zT:=fun e=>by
  have h1:=congrArg T3.x e;have h2:=congrArg T3.y e;have G:=congrArg T3.z e
  rcases h3 with rfl|rfl|rfl<;>cases D<;>simp[dN,T3.set] at h1 h2 G<;>grind
 refine⟨?_,?_,H⟩
 · rcases h3 with rfl|rfl|rfl<;>cases D<;>simp[dN,T3.set,axI,dI]<;>grind
 · rcases h3 with rfl|rfl|rfl<;>cases D<;>simp[dN,T3.set,axJ,dJ]<;>grind
def zB0(d:Dir)(us:List B3):Bool:=(us.all fun u=>zPX u d.1==d.2)&&(decide (us.map (pI2 d)=[(0,0),(1,0),(1,1),(0,1)])||decide (us.map (pI2 d)=[(1,0),(1,1),(0,1),(0,0)])||decide (us.map (pI2 d)=[(1,1),(0,1),(0,0),(1,0)])||decide (us.map (pI2 d)=[(0,1),(0,0),(1,0),(1,1)]))
theorem zNA{d:Dir}{c o:Rat}(hd:d.1<3)(hc:0<c)(u:B3):qY (dN d c,o) (cU a b u)=T3.mk (a.at (dI d)+(b.at (dI d)-a.at (dI d))*(((pI2 d u).1:Int):Rat)) (a.at (dJ d)+(b.at (dJ d)-a.at (dJ d))*(((pI2 d u).2:Int):Rat)) (0:Rat):=by
 unfold qY;rw[(zHA hd hc).1,(zHA hd hc).2.1,zTU,zTU];rfl
theorem zFJ{d:Dir}{c o:Rat}(hd:d.1<3)(hc:0<c)(h:∀i,a.at i<b.at i){us:List B3}(ht:zB0 d us=true):vS [us.map fun u=>qY (dN d c,o) (cU a b u)] 0 1=0∧ouZ [us.map fun u=>qY (dN d c,o) (cU a b u)]=1:=by
 unfold zB0 at ht;simp only[Bool.and_eq_true,Bool.or_eq_true,decide_eq_true_iff] at ht;refine zZJ (x:=a.at (dI d)) (p:=b.at (dI d)-a.at (dI d)) (y:=a.at (dJ d)) (q:=b.at (dJ d)-a.at (dJ d)) (t:=us.map (pI2 d)) (by have:=h (dI d);grind) (by have:=h (dJ d);grind) ?_ ?_
 · rcases ht.2 with((h1|h1)|h1)|h1
   · exact .inl h1
   · exact .inr (.inl h1)
   · exact .inr (.inr (.inl h1))
   · exact .inr (.inr (.inr h1))
 · rw[List.map_map]
   exact List.map_congr_left fun u _=>zNA hd hc u
theorem zPM{d:Dir}{c:Rat}(hd:d.1<3){u:B3}(hu:zPX u d.1=d.2):sdZ (dN d c,(if d.2 then c else -c)*(if d.2 then b.at d.1 else a.at d.1)) (cU a b u)=0:=by
 unfold sdZ hgt;have e:=zX0 (a:=a) (b:=b) u d.1;rw[hu] at e;obtain⟨z,C⟩:=d;have h3:z=0∨z=1∨z=2:=by have:z<3:=hd;omega
 have h0:wO (dN (z,C) c) (cU a b u)=(if C then c else -c)*(cU a b u).at z:=by
  rcases h3 with rfl|rfl|rfl<;>(simp only[wO,dN,T3.set,T3.at];grind)
 rw[h0,e];refine if_pos ?_
 show _*_-_*_=(0:Rat)
 grind
abbrev u0:B3:=(false,false,false)
def nG(a b:Pt)(us:List B3)(d:Dir)(f:Fc):Prop:=
 d.1<3∧∃c,0<c∧f.1=(dN d c,(if d.2 then c else -c)*(if d.2 then b.at d.1 else a.at d.1))∧∃i j k l:Nat,f.2.1=[[(i:Int),(j:Int),(k:Int),(l:Int)]]∧(i<us.length∧j<us.length∧k<us.length∧l<us.length)∧zB0 d [us.getD i u0,us.getD j u0,us.getD k u0,us.getD l u0]=true
section
variable {us:List B3}{F:List Fc}
theorem zT1{d:Dir}{f:Nat}(h:nG a b us d (F.getD f zA)):nmP (us.map (cU a b),F,[]) f:=by
 obtain⟨_,c,_,_,i,j,k,l,J,⟨h1,h2,h3,M⟩,_⟩:=h;intro m I q H
 show 0≤_∧_<(((us.map (cU a b)).length:Nat):Int)
 rw[List.length_map];have C:m<((F.getD f zA).2.1).length:=I;have z:q<(((F.getD f zA).2.1).getD m []).length:=H
 show 0≤(((F.getD f zA).2.1).getD m []).getD q 0∧(((F.getD f zA).2.1).getD m []).getD q 0<_
 rw[J] at C z ⊢;have D:m=0:=by have:m<1:=C;omega
 subst D;have G:q<4:=z;have:q=0∨q=1∨q=2∨q=3:=by omega
 rcases this with rfl|rfl|rfl|rfl
 · show 0≤(i:Int)∧(i:Int)<_;omega
 · show 0≤(j:Int)∧(j:Int)<_;omega
 · show 0≤(k:Int)∧(k:Int)<_;omega
 · show 0≤(l:Int)∧(l:Int)<_;omega
theorem j7{d:Dir}{f:Nat}(hf:f<F.length)(h:nG a b us d (F.getD f zA)):∃vs:List B3,zB0 d vs=true∧vs.length=4∧uH (us.map (cU a b),F,[]) f=[vs.map (cU a b)]:=by
 have C:=zT1 h;obtain⟨_,c,_,_,i,j,k,l,D,⟨h1,h2,h3,G⟩,z⟩:=h;refine⟨[us.getD i u0,us.getD j u0,us.getD k u0,us.getD l u0],z,rfl,?_⟩;rw[yDK (s:=(us.map (cU a b),F,[])) hf C D]
 show[[gp (us.map (cU a b)) _,gp (us.map (cU a b)) _,gp (us.map (cU a b)) _,gp (us.map (cU a b)) _]]=_
 rw[Int.toNat_natCast,Int.toNat_natCast,Int.toNat_natCast,Int.toNat_natCast,w9 h1,w9 h2,w9 h3,w9 G];rfl
theorem zG9(h:a.x<b.x∧a.y<b.y∧a.z<b.z)(hn:∀i k,k<i→i<us.length→¬us.getD i u0=us.getD k u0)(hu:us.length≤512∧F.length≤256)(hF:∀f,f<F.length→∃d,nG a b us d (F.getD f zA))(hv:∀f,f<F.length→vfP (F.getD f zA).2.1)
    (hva:vaP (wZ (us.map (cU a b),F,[])))(hc:clB (edZ (wZ (us.map (cU a b),F,[])))=true):fX (us.map (cU a b),F,[]):=by
 have ae:∀i,a.at i<b.at i:=fun i=>match i with
  |0=>h.1|1=>h.2.1|_+2=>h.2.2
 have ab:(us.map (cU a b)).length=us.length:=List.length_map _;refine zU2 (yB3 (fun e=>?_) fun f D=>?_) (yB1 fun i k ad hi e=>?_) (yCT (fun f D=>?_) fun f D l hl k hk=>?_) (yCX fun f D=>?_) (yDN hva hc)
 · rcases e with(e|e)|e
   · have O:512<(us.map (cU a b)).length:=e
     omega
   · have O:256<F.length:=e
     omega
   · have O:1024<([]:List En).length:=e
     simp at O
 · obtain⟨d,J⟩:=hF f D
   exact⟨hv f D,zT1 J⟩
 · have aa:i<us.length:=by rw[←ab];exact hi
   have O:gp (us.map (cU a b)) i=gp (us.map (cU a b)) k:=e;rw[w9 aa,w9 (by omega)] at O;exact hn i k ad aa (yBB h.1 h.2.1 h.2.2 O)
 · obtain⟨d,C,c,G,Z,_⟩:=hF f D
   show ¬(F.getD f zA).1.1=zT
   rw[Z];exact(zHA C G).2.2
 · obtain⟨d,J⟩:=hF f D
   obtain⟨H,U,h4,M⟩:=j7 D J;obtain⟨C,c,G,Z,_⟩:=J;rw[M] at hl hk ⊢;have ac:l=0:=by have:l<1:=hl;omega
   subst ac;have I:k<(H.map (cU a b)).length:=hk;rw[List.length_map] at I
   show sdZ (F.getD f zA).1 (gp (H.map (cU a b)) k)=0
   rw[Z,w9 I];refine zPM C ?_;unfold zB0 at U;simp only[Bool.and_eq_true] at U;have h9:=List.all_eq_true.1 U.1 (H.getD k u0) (bW I);exact eq_of_beq h9
 · obtain⟨d,J⟩:=hF f D
   obtain⟨H,U,h4,M⟩:=j7 D J;obtain⟨C,c,G,Z,_⟩:=J;have e:fT (us.map (cU a b),F,[]) f=[H.map fun u=>qY (F.getD f zA).1 (cU a b u)]:=by
    obtain⟨v1,v2,v3,v4,rfl⟩:∃v1 v2 v3 v4,H=[v1,v2,v3,v4]:=by
     match H,h4 with
     |[v1,v2,v3,v4],_=>exact⟨_,_,_,_,rfl⟩
    exact zM7 M
   rw[e,Z];exact zFJ C G ae U
end
end Bk
namespace Bk
set_option linter.unusedVariables false
set_option linter.unusedSimpArgs false
open Classical
instance decLp(x:List Int):Decidable (lpP x):=by unfold lpP;exact inferInstance
instance decVf(L:List (List Int)):Decidable (vfP L):=by unfold vfP;exact inferInstance
instance decVa(F:List (List (List Int))):Decidable (vaP F):=by unfold vaP;exact inferInstance
variable {a b:Pt}
theorem zEW{N M:Pt}{o r:Rat}(h1:N=M)(h2:o=r):(N,o)=(M,r):=by rw[h1,h2]
theorem zNC(h:a.x<b.x∧a.y<b.y∧a.z<b.z):nG a b uB0 (1,false) ((fB0 a b).getD 0 zA)∧nG a b uB0 (0,true) ((fB0 a b).getD 1 zA)∧nG a b uB0 (1,true) ((fB0 a b).getD 2 zA)∧nG a b uB0 (0,false) ((fB0 a b).getD 3 zA)∧nG a b uB0 (2,false) ((fB0 a b).getD 4 zA)∧nG a b uB0 (2,true) ((fB0 a b).getD 5 zA):=by
 obtain⟨G,D,C⟩:=h;refine⟨?_,?_,?_,?_,?_,?_⟩
 · refine⟨by decide,b.x-a.x,by grind,zEW ?_ ?_,0,1,5,4,rfl,by decide,by decide⟩
   · show T3.mk (a.y-a.y) (-(b.x-a.x)) (0:Rat)=T3.mk 0 (-(b.x-a.x)) 0
     rw[fV];refine⟨?_,rfl,rfl⟩;show a.y-a.y=0;grind
   · show wO (T3.mk (a.y-a.y) (-(b.x-a.x)) (0:Rat)) (T3.mk a.x a.y a.z)= -(b.x-a.x)*a.y
     unfold wO;simp only;grind
 · refine⟨by decide,b.y-a.y,by grind,zEW ?_ ?_,1,2,6,5,rfl,by decide,by decide⟩
   · show T3.mk (b.y-a.y) (-(b.x-b.x)) (0:Rat)=T3.mk (b.y-a.y) 0 0
     rw[fV];refine⟨rfl,?_,rfl⟩;show -(b.x-b.x)=0;grind
   · show wO (T3.mk (b.y-a.y) (-(b.x-b.x)) (0:Rat)) (T3.mk b.x a.y a.z)=(b.y-a.y)*b.x
     unfold wO;simp only;grind
 · refine⟨by decide,b.x-a.x,by grind,zEW ?_ ?_,2,3,7,6,rfl,by decide,by decide⟩
   · show T3.mk (b.y-b.y) (-(a.x-b.x)) (0:Rat)=T3.mk 0 (b.x-a.x) 0
     rw[fV];refine⟨?_,?_,rfl⟩
     · show b.y-b.y=0;grind
     · show -(a.x-b.x)=b.x-a.x;grind
   · show wO (T3.mk (b.y-b.y) (-(a.x-b.x)) (0:Rat)) (T3.mk b.x b.y a.z)=(b.x-a.x)*b.y
     unfold wO;simp only;grind
 · refine⟨by decide,b.y-a.y,by grind,zEW ?_ ?_,3,0,4,7,rfl,by decide,by decide⟩
   · show T3.mk (a.y-b.y) (-(a.x-a.x)) (0:Rat)=T3.mk (-(b.y-a.y)) 0 0
     rw[fV];refine⟨?_,?_,rfl⟩
     · show a.y-b.y= -(b.y-a.y);grind
     · show -(a.x-a.x)=0;grind
   · show wO (T3.mk (a.y-b.y) (-(a.x-a.x)) (0:Rat)) (T3.mk a.x b.y a.z)= -(b.y-a.y)*a.x
     unfold wO;simp only;grind
 · refine⟨by decide,1,by decide,zEW rfl ?_,3,2,1,0,rfl,by decide,by decide⟩
   show -a.z= -1*a.z
   grind
 · refine⟨by decide,1,by decide,zEW rfl ?_,4,5,6,7,rfl,by decide,by decide⟩
   show b.z=1*b.z
   grind
theorem zND(h:a.x<b.x∧a.y<b.y∧a.z<b.z):∀f,f<(fB0 a b).length→∃d,nG a b uB0 d ((fB0 a b).getD f zA):=by
 intro f D;have C:f<6:=D;obtain⟨h0,h1,h2,h3,H,G⟩:=zNC h;have:f=0∨f=1∨f=2∨f=3∨f=4∨f=5:=by omega
 rcases this with rfl|rfl|rfl|rfl|rfl|rfl
 · exact⟨_,h0⟩
 · exact⟨_,h1⟩
 · exact⟨_,h2⟩
 · exact⟨_,h3⟩
 · exact⟨_,H⟩
 · exact⟨_,G⟩
theorem zES(h:a.x<b.x∧a.y<b.y∧a.z<b.z):fX (pB0 a b,fB0 a b,[]):=by
 have g:∀i,i<uB0.length→∀k,k<i→¬uB0.getD i u0=uB0.getD k u0:=by decide +kernel
 rw[nQ];refine zG9 h (fun i k C hi=>g i hi k C) ⟨by decide,show 6≤256 by decide⟩ (zND h) (fun f G=>?_) ?_ ?_
 · have D:f<6:=G
   have:f=0∨f=1∨f=2∨f=3∨f=4∨f=5:=by omega
   rcases this with rfl|rfl|rfl|rfl|rfl|rfl
   · show vfP [[0,1,5,4]];decide +kernel
   · show vfP [[1,2,6,5]];decide +kernel
   · show vfP [[2,3,7,6]];decide +kernel
   · show vfP [[3,0,4,7]];decide +kernel
   · show vfP [[3,2,1,0]];decide +kernel
   · show vfP [[4,5,6,7]];decide +kernel
 · rw[←nQ,oO];decide +kernel
 · rw[←nQ,oO];decide +kernel
end Bk
namespace Bk
set_option linter.unusedVariables false
set_option linter.unusedSimpArgs false
open Classical
variable {a b:Pt}
def ixB(o:List Int)(n:Nat):Nat→List Int
  |0=>List.replicate n (0:Int)
  |i+1=>(ixB o n i).set (o.getD i 0).toNat (i:Int)
theorem zLL{s:Sd}{o:List Int}(h:fM s=o):∀i,zLM s i=ixB o s.1.length i
  |0=>rfl
  |i+1=>by unfold zLM ixB;rw[zLL h i,h]
theorem zSV(h:a.x<b.x∧a.y<b.y∧a.z<b.z):ixZ (pB0 a b,fB0 a b,[])=[0,4,6,2,1,5,7,3]:=by
 have C:=zIA h.1 h.2.1 h.2.2;unfold ixZ;rw[zLL C,C]
 show ixB _ 8 8=_
 decide
def uB1:List B3:=[(false,false,false),(false,false,true),(false,true,false),(false,true,true),(true,false,false),(true,false,true),(true,true,false),(true,true,true)]
theorem zR9(h:a.x<b.x∧a.y<b.y∧a.z<b.z):nrP (pB0 a b,fB0 a b,[])=uB1.map (cU a b):=by
 have C:=zIA h.1 h.2.1 h.2.2;unfold nrP;rw[if_pos (zES h)];unfold zV3;rw[C];rfl
theorem zMP(h:a.x<b.x∧a.y<b.y∧a.z<b.z){us:List B3}{F:List Fc}{f:Nat}(hf:f<F.length){d:Dir}(hd:nG a b us d (F.getD f zA)):zH4 (us.map (cU a b),F,[]) f 0:=by
 have H:∀i,a.at i<b.at i:=fun i=>match i with
  |0=>h.1|1=>h.2.1|_+2=>h.2.2
 obtain⟨I,M,Z,D⟩:=j7 hf hd;obtain⟨C,c,G,O,_⟩:=hd;obtain⟨v1,v2,v3,v4,rfl⟩:∃v1 v2 v3 v4,I=[v1,v2,v3,v4]:=by
  match I,Z with
  |[v1,v2,v3,v4],_=>exact⟨_,_,_,_,rfl⟩
 have e:fT (us.map (cU a b),F,[]) f=[[v1,v2,v3,v4].map fun u=>qY (F.getD f zA).1 (cU a b u)]:=zM7 D;have J:=(zFJ (o:=(F.getD f zA).1.2) C G H M).2;unfold zH4;rw[e];have e2:(F.getD f zA).1=(dN d c,(F.getD f zA).1.2):=by rw[O]
 rw[e2];refine Classical.byContradiction fun U=>?_;have h0:ouZ [[v1,v2,v3,v4].map fun u=>qY (dN d c,(F.getD f zA).1.2) (cU a b u)]=0:=if_neg U;rw[h0] at J;exact absurd J (by decide)
theorem zZG{d:Dir}{c r:Rat}(hd:d.1<3)(hc:0<c):scZ (dN d c,(if d.2 then c else -c)*r)=(dN d 1,(if d.2 then 1 else -1)*r):=by
 obtain⟨D,H⟩:=d;have h3:D=0∨D=1∨D=2:=by have:D<3:=hd;omega
 have G:∀{x:Rat},x≠0→¬xC x=0:=fun{x} hx e=>by unfold xC at e;rw[if_neg hx] at e;split at e<;>omega
 have M:xC 0=0:=if_pos rfl;have C:c≠0:=by grind
 have z:-c≠0:=by grind
 have O:ivA c*c=1∧ivA (-c)*c=1:=by
  have U:((1:Int):Rat)=1:=rfl;have J:¬c.num<0:=Int.not_lt.2 (Rat.num_nonneg.2 (Rat.le_of_lt hc));have I:(-c).num<0:=Int.not_le.1 fun e=>by have:=Rat.num_nonneg.1 e;grind
  have a1:iZ c=c:=if_neg J;have Z:iZ (-c)=c:=by
   have:iZ (-c)= - -c:=if_pos I;rw[this];grind
  unfold ivA;rw[a1,Z,if_neg C,U];grind
 rcases h3 with rfl|rfl|rfl<;>cases H<;>simp[scZ,dN,T3.set,M,G C,G z,scW]<;>grind
end Bk
namespace Bk
set_option linter.unusedVariables false
set_option linter.unusedSimpArgs false
open Classical
variable {a b:Pt}
def plD(a b:Pt)(d:Dir):Pl:=(dN d 1,(if d.2 then 1 else -1)*(if d.2 then b.at d.1 else a.at d.1))
theorem cM(h:a.x<b.x∧a.y<b.y∧a.z<b.z){us:List B3}{F:List Fc}{f:Nat}(hf:f<F.length){d:Dir}(hd:nG a b us d (F.getD f zA))(ix:List Int){x:List Int}(hx:(F.getD f zA).2.1=[x]):
 nfF (us.map (cU a b),F,[]) ix f=(plD a b d,[zQ3 (jL (fun q=>ix.getD (x.getD q 0).toNat 0) x.length)],(F.getD f zA).2.2):=by
 have H:=zMP h hf hd;obtain⟨D,c,G,C,_⟩:=hd;unfold nfF
 show(scZ (F.getD f zA).1,ouL (us.map (cU a b),F,[]) ix f ((F.getD f zA).2.1).length++zBE (us.map (cU a b),F,[]) ix f ((F.getD f zA).2.1).length,(F.getD f zA).2.2)=_
 rw[C,zZG D G,hx];have M:ouL (us.map (cU a b),F,[]) ix f 1=[nfL (us.map (cU a b),F,[]) ix f 0]:=by
  unfold ouL;rw[←dT H];rfl
 have J:zBE (us.map (cU a b),F,[]) ix f 1=[]:=if_pos H
 show(_,ouL _ ix f 1++zBE _ ix f 1,_)=_
 rw[M,J];have I:nfL (us.map (cU a b),F,[]) ix f 0=zQ3 (jL (fun q=>ix.getD (x.getD q 0).toNat 0) x.length):=by
  unfold nfL nwL
  show zQ3 (jL (fun q=>ix.getD ((((F.getD f zA).2.1).getD 0 []).getD q 0).toNat 0) (((F.getD f zA).2.1).getD 0 []).length)=_
  rw[hx];rfl
 rw[I];rfl
theorem zSB(h:a.x<b.x∧a.y<b.y∧a.z<b.z)(ix:List Int)(hix:ix=[0,4,6,2,1,5,7,3]):
 nfF (pB0 a b,fB0 a b,[]) ix 0=(plD a b (1,false),[[0,4,5,1]],nmS 0 0)∧nfF (pB0 a b,fB0 a b,[]) ix 1=(plD a b (0,true),[[4,6,7,5]],nmS 0 1)∧nfF (pB0 a b,fB0 a b,[]) ix 2=(plD a b (1,true),[[2,3,7,6]],nmS 0 2)∧
 nfF (pB0 a b,fB0 a b,[]) ix 3=(plD a b (0,false),[[0,1,3,2]],nmS 0 3)∧nfF (pB0 a b,fB0 a b,[]) ix 4=(plD a b (2,false),[[0,2,6,4]],[98,111,116,116,111,109])∧nfF (pB0 a b,fB0 a b,[]) ix 5=(plD a b (2,true),[[1,5,7,3]],[116,111,112]):=by
 subst hix;have g:=zNC h;rw[nQ];refine⟨?_,?_,?_,?_,?_,?_⟩
 · rw[cM h (F:=fB0 a b) (f:=0) (show 0<6 by decide) g.1 _ (x:=[0,1,5,4]) rfl];rfl
 · rw[cM h (F:=fB0 a b) (f:=1) (show 1<6 by decide) g.2.1 _ (x:=[1,2,6,5]) rfl];rfl
 · rw[cM h (F:=fB0 a b) (f:=2) (show 2<6 by decide) g.2.2.1 _ (x:=[2,3,7,6]) rfl];rfl
 · rw[cM h (F:=fB0 a b) (f:=3) (show 3<6 by decide) g.2.2.2.1 _ (x:=[3,0,4,7]) rfl];rfl
 · rw[cM h (F:=fB0 a b) (f:=4) (show 4<6 by decide) g.2.2.2.2.1 _ (x:=[3,2,1,0]) rfl];rfl
 · rw[cM h (F:=fB0 a b) (f:=5) (show 5<6 by decide) g.2.2.2.2.2 _ (x:=[4,5,6,7]) rfl];rfl
end Bk
namespace Bk
set_option linter.unusedVariables false
set_option linter.unusedSimpArgs false
open Classical
def lsB:List Nat→List Nat→Bool
  |[],[]=>false
  |[],_::_=>true
  |_::_,[]=>false
  |x::a,y::b=>if x=y then lsB a b else decide (x<y)
theorem zSM:∀a b:List Nat,lsN a b↔lsB a b=true
  |[],[]=>by simp[lsN,lsB]
  |[],_::_=>by simp[lsN,lsB]
  |_::_,[]=>by simp[lsN,lsB]
  |x::a,y::b=>by
   have ih:=zSM a b
   by_cases h:x=y
   · simp[lsN,lsB,h,ih]
   · simp[lsN,lsB,h]
def nsB(nm:Nat→List Nat):Nat→List Nat
  |0=>[]
  |f+1=>eT (nsB nm f) (zDU (fun k=>lsB (nm f) (nm ((nsB nm f).getD k 0))) (nsB nm f).length) f
theorem zK7(nm:Nat→List Nat):∀f x,x∈nsB nm f→x<f
  |f+1,x,h=>by
   unfold nsB eT at h
   rcases List.mem_append.1 h with h|h
   · have:=zK7 nm f x (List.mem_of_mem_take h);omega
   · rcases List.mem_cons.1 h with rfl|h
     · omega
     · have:=zK7 nm f x (List.mem_of_mem_drop h);omega
theorem zS0{α β:Type}(g:α→β)(l:List α)(k:Nat)(x:α):eT (l.map g) k (g x)=(eT l k x).map g:=by
 unfold eT;rw[List.map_append,List.map_cons,List.map_take,List.map_drop]
theorem zK6{s:Sd}{nm:Nat→List Nat}{n:Nat}(hn:∀i,i<n→(nfF s (ixZ s) i).2.2=nm i)(hd:∀i,i<n→∀k,k<i→¬nm i=nm k):∀f,f≤n→y3 s f=(nsB nm f).map fun i=>nfF s (ixZ s) i
  |0,_=>rfl
  |f+1,hf=>by
   have ih:=zK6 hn hd f (by omega);unfold y3 nsB;have hb:cV (zLF (nfF s (ixZ s) f) (y3 s f)) (y3 s f).length=zDU (fun k=>lsB (nm f) (nm ((nsB nm f).getD k 0))) (nsB nm f).length:=by
    rw[ih,List.length_map];refine zDT _ fun k z=>?_;have C:=zK7 nm f _ (bW (d:=0) z);have e:((nsB nm f).map fun i=>nfF s (ixZ s) i).getD k zA=nfF s (ixZ s) ((nsB nm f).getD k 0):=by
     rw[List.getD_eq_getElem?_getD,List.getElem?_map,List.getElem?_eq_getElem z,List.getD_eq_getElem?_getD,List.getElem?_eq_getElem z];rfl
    unfold zLF lsF;rw[e,hn f (by omega),hn _ (by omega),if_neg (hd f (by omega) _ C)];exact zSM _ _
   rw[hb,ih,zS0]
variable {a b:Pt}
def nm0(i:Nat):List Nat:=([[115,48,46,48],[115,48,46,49],[115,48,46,50],[115,48,46,51],[98,111,116,116,111,109],[116,111,112]]:List (List Nat)).getD i []
def fB1(a b:Pt):List Fc:=[(plD a b (2,false),[[0,2,6,4]],[98,111,116,116,111,109]),(plD a b (1,false),[[0,4,5,1]],[115,48,46,48]),(plD a b (0,true),[[4,6,7,5]],[115,48,46,49]),(plD a b (1,true),[[2,3,7,6]],[115,48,46,50]),(plD a b (0,false),[[0,1,3,2]],[115,48,46,51]),(plD a b (2,true),[[1,5,7,3]],[116,111,112])]
theorem zR8(h:a.x<b.x∧a.y<b.y∧a.z<b.z):nrF (pB0 a b,fB0 a b,[])=fB1 a b:=by
 have C:=zSV h;obtain⟨h0,h1,h2,h3,G,D⟩:=zSB h _ C;rw[zZ0 (by decide)] at h0 h1 h2 h3;have H:∀i,i<6→(nfF (pB0 a b,fB0 a b,[]) (ixZ (pB0 a b,fB0 a b,[])) i).2.2=nm0 i:=fun i hi=>by
  have:i=0∨i=1∨i=2∨i=3∨i=4∨i=5:=by omega
  rcases this with rfl|rfl|rfl|rfl|rfl|rfl
  · rw[h0];rfl
  · rw[h1];rfl
  · rw[h2];rfl
  · rw[h3];rfl
  · rw[G];rfl
  · rw[D];rfl
 have I:∀i,i<6→∀k,k<i→¬nm0 i=nm0 k:=by decide
 unfold nrF;rw[if_pos (zES h)]
 show y3 _ 6=_
 rw[zK6 H I 6 (Nat.le_refl _),show nsB nm0 6=[4,0,1,2,3,5] by decide];simp only[List.map_cons,List.map_nil];rw[h0,h1,h2,h3,G,D]
 rfl
end Bk
namespace Bk
set_option linter.unusedVariables false
set_option linter.unusedSimpArgs false
open Classical
variable {a b:Pt}
def fB2(a b:Pt):List Fc:=[(plD a b (2,false),[[0,2,6,4]],[122,48]),(plD a b (1,false),[[0,4,5,1]],[121,48]),(plD a b (0,true),[[4,6,7,5]],[120,49]),(plD a b (1,true),[[2,3,7,6]],[121,49]),(plD a b (0,false),[[0,1,3,2]],[120,48]),(plD a b (2,true),[[1,5,7,3]],[122,49])]
theorem zVT(h:oT a b):prP (blL a b) a.z b.z=uB1.map (cU a b)∧prF (blL a b) a.z b.z=fB1 a b:=by
 have C:=zNR h;have D:=zT4 h;rw[(zW6 h).1] at D;unfold prP prF;rw[if_pos D,if_pos D,zH2 C.1 C.2.1];exact⟨zR9 C,zR8 C⟩
theorem zNS(h:oT a b):blS a b=(uB1.map (cU a b),fB2 a b,[]):=by
 obtain⟨h1,h2⟩:=zVT h;unfold blS blG;rw[zUQ,h1,h2];refine congrArg (fun z=>(uB1.map (cU a b),z,([]:List En))) ?_;simp only[fB1,fB2,List.map_cons,List.map_nil,rnF];simp[rnN]
end Bk
namespace Bk
set_option linter.unusedVariables false
set_option linter.unusedSimpArgs false
open Classical
variable {a b:Pt}
theorem zG3:nG a b uB1 (2,false) ((fB2 a b).getD 0 zA)∧nG a b uB1 (1,false) ((fB2 a b).getD 1 zA)∧nG a b uB1 (0,true) ((fB2 a b).getD 2 zA)∧nG a b uB1 (1,true) ((fB2 a b).getD 3 zA)∧nG a b uB1 (0,false) ((fB2 a b).getD 4 zA)∧nG a b uB1 (2,true) ((fB2 a b).getD 5 zA):=
 ⟨⟨by decide,1,by decide,rfl,0,2,6,4,rfl,by decide,by decide⟩,⟨by decide,1,by decide,rfl,0,4,5,1,rfl,by decide,by decide⟩,⟨by decide,1,by decide,rfl,4,6,7,5,rfl,by decide,by decide⟩,⟨by decide,1,by decide,rfl,2,3,7,6,rfl,by decide,by decide⟩,⟨by decide,1,by decide,rfl,0,1,3,2,rfl,by decide,by decide⟩,⟨by decide,1,by decide,rfl,1,5,7,3,rfl,by decide,by decide⟩⟩
theorem iT:wZ (uB1.map (cU a b),fB2 a b,[])=[[[0,2,6,4]],[[0,4,5,1]],[[4,6,7,5]],[[2,3,7,6]],[[0,1,3,2]],[[1,5,7,3]]]:=rfl
theorem zQG(h:a.x<b.x∧a.y<b.y∧a.z<b.z):fX (uB1.map (cU a b),fB2 a b,[]):=by
 have g:∀i,i<uB1.length→∀k,k<i→¬uB1.getD i u0=uB1.getD k u0:=by decide +kernel
 obtain⟨h0,h1,h2,h3,I,H⟩:=zG3 (a:=a) (b:=b);refine zG9 h (fun i k G hi=>g i hi k G) ⟨by decide,show 6≤256 by decide⟩ (fun f D=>?_) (fun f D=>?_) ?_ ?_
 · have C:f<6:=D
   have:f=0∨f=1∨f=2∨f=3∨f=4∨f=5:=by omega
   rcases this with rfl|rfl|rfl|rfl|rfl|rfl
   · exact⟨_,h0⟩
   · exact⟨_,h1⟩
   · exact⟨_,h2⟩
   · exact⟨_,h3⟩
   · exact⟨_,I⟩
   · exact⟨_,H⟩
 · have C:f<6:=D
   have:f=0∨f=1∨f=2∨f=3∨f=4∨f=5:=by omega
   rcases this with rfl|rfl|rfl|rfl|rfl|rfl
   · show vfP [[0,2,6,4]];decide +kernel
   · show vfP [[0,4,5,1]];decide +kernel
   · show vfP [[4,6,7,5]];decide +kernel
   · show vfP [[2,3,7,6]];decide +kernel
   · show vfP [[0,1,3,2]];decide +kernel
   · show vfP [[1,5,7,3]];decide +kernel
 · rw[iT];decide +kernel
 · rw[iT];decide +kernel
end Bk
namespace Bk
set_option linter.unusedVariables false
set_option linter.unusedSimpArgs false
open Classical
variable {a b:Pt}
theorem zMS(h:a.x<b.x∧a.y<b.y∧a.z<b.z):fM (uB1.map (cU a b),fB2 a b,[])=[0,1,2,3,4,5,6,7]:=by
 rw[zEZ h.1 h.2.1 h.2.2,iT]
 decide +kernel
theorem zWF(h:a.x<b.x∧a.y<b.y∧a.z<b.z):ixZ (uB1.map (cU a b),fB2 a b,[])=[0,1,2,3,4,5,6,7]:=by
 have C:=zMS h;unfold ixZ;rw[zLL C,C]
 show ixB _ 8 8=_
 decide
def fB3(a b:Pt):List Fc:=[(plD a b (0,false),[[0,1,3,2]],[120,48]),(plD a b (0,true),[[4,6,7,5]],[120,49]),(plD a b (1,false),[[0,4,5,1]],[121,48]),(plD a b (1,true),[[2,3,7,6]],[121,49]),(plD a b (2,false),[[0,2,6,4]],[122,48]),(plD a b (2,true),[[1,5,7,3]],[122,49])]
def nm1(i:Nat):List Nat:=([[122,48],[121,48],[120,49],[121,49],[120,48],[122,49]]:List (List Nat)).getD i []
theorem zV4(h:a.x<b.x∧a.y<b.y∧a.z<b.z)(ix:List Int)(hix:ix=[0,1,2,3,4,5,6,7]):∀i,i<6→nfF (uB1.map (cU a b),fB2 a b,[]) ix i=(fB2 a b).getD i zA:=by
 subst hix;obtain⟨h0,h1,h2,h3,D,C⟩:=zG3 (a:=a) (b:=b);intro i hi;have:i=0∨i=1∨i=2∨i=3∨i=4∨i=5:=by omega
 rcases this with rfl|rfl|rfl|rfl|rfl|rfl
 · rw[cM h (F:=fB2 a b) (f:=0) (show 0<6 by decide) h0 _ (x:=[0,2,6,4]) rfl];rfl
 · rw[cM h (F:=fB2 a b) (f:=1) (show 1<6 by decide) h1 _ (x:=[0,4,5,1]) rfl];rfl
 · rw[cM h (F:=fB2 a b) (f:=2) (show 2<6 by decide) h2 _ (x:=[4,6,7,5]) rfl];rfl
 · rw[cM h (F:=fB2 a b) (f:=3) (show 3<6 by decide) h3 _ (x:=[2,3,7,6]) rfl];rfl
 · rw[cM h (F:=fB2 a b) (f:=4) (show 4<6 by decide) D _ (x:=[0,1,3,2]) rfl];rfl
 · rw[cM h (F:=fB2 a b) (f:=5) (show 5<6 by decide) C _ (x:=[1,5,7,3]) rfl];rfl
theorem zL2(h:oT a b):blP a b=uB1.map (cU a b)∧blF a b=fB3 a b:=by
 have C:=zNR h;obtain⟨_,M,J⟩:=zW6 h;rw[M,J,zNS h];have G:=zQG C;have H:=zMS C;have D:=zWF C;refine⟨?_,?_⟩
 · unfold nrP
   rw[if_pos G];unfold zV3;rw[H];rfl
 · have z:=zV4 C _ D
   have I:∀i,i<6→(nfF (uB1.map (cU a b),fB2 a b,[]) (ixZ (uB1.map (cU a b),fB2 a b,[])) i).2.2=nm1 i:=fun i hi=>by
    rw[z i hi];have:i=0∨i=1∨i=2∨i=3∨i=4∨i=5:=by omega
    rcases this with rfl|rfl|rfl|rfl|rfl|rfl<;>rfl
   unfold nrF;rw[if_pos G]
   show y3 _ 6=_
   rw[zK6 I (by decide) 6 (Nat.le_refl _),show nsB nm1 6=[4,2,1,3,0,5] by decide];simp only[List.map_cons,List.map_nil];rw[z 0 (by decide),z 1 (by decide),z 2 (by decide),z 3 (by decide),z 4 (by decide),z 5 (by decide)]
   rfl
end Bk
namespace Bk
set_option linter.unusedVariables false
set_option linter.unusedSimpArgs false
open Classical
variable {a b:Pt}
theorem zH3{P:List Pt}(h:0<xC (arZ P 0 1)):lZ P:=zPL fun e=>by
 have:arZ P 0 1=0:=e;rw[this] at h;exact absurd h (by decide)
theorem zL1(h:a.x<b.x∧a.y<b.y∧a.z<b.z){us:List B3}{F:List Fc}(hu:us.length≤512∧F.length≤256)(hF:∀f,f<F.length→∃d,nG a b us d (F.getD f zA)):okS (us.map (cU a b),F,[]):=by
 refine⟨⟨⟨?_,?_⟩,Nat.zero_le _⟩,fun f C=>?_,fun f C x J=>?_⟩
 · show(us.map (cU a b)).length≤1000
   rw[List.length_map];omega
 · show F.length≤1000
   omega
 · obtain⟨d,_,c,_,_,i,j,k,l,U,_⟩:=hF f C
   show(F.getD f zA).2.1.length≤16∧∀l,l<(F.getD f zA).2.1.length→((F.getD f zA).2.1.getD l []).length≤64
   rw[U];refine⟨show 1≤16 by decide,fun m O=>?_⟩;have G:m=0:=by have:m<1:=O;omega
   subst G
   show 4≤64
   decide
 · obtain⟨d,M⟩:=hF f C
   have D:=zMP h C M;obtain⟨I,ht,Z,H⟩:=j7 C M;obtain⟨v1,v2,v3,v4,rfl⟩:∃v1 v2 v3 v4,I=[v1,v2,v3,v4]:=by
    match I,Z with
    |[v1,v2,v3,v4],_=>exact⟨_,_,_,_,rfl⟩
   have e:fT (us.map (cU a b),F,[]) f=[[v1,v2,v3,v4].map fun u=>qY (F.getD f zA).1 (cU a b u)]:=zM7 H;unfold zH4 at D;rw[e] at D J;rw[List.mem_singleton.1 J];exact zH3 D
theorem yBI(h:oT a b):blH a b:=by
 have z:=zNR h;refine⟨fun x C=>?_,fun _=>?_,?_⟩
 · have:x=bB a b:=List.mem_singleton.1 C
   rw[this];exact zH3 (zT7 z.1 z.2.1)
 · rw[zH2 z.1 z.2.1,nQ]
   exact zL1 z ⟨by decide,show 6≤256 by decide⟩ (zND z)
 · rw[zNS h]
   obtain⟨h0,h1,h2,h3,I,H⟩:=zG3 (a:=a) (b:=b);refine zL1 z ⟨by decide,show 6≤256 by decide⟩ fun f G=>?_;have D:f<6:=G;have:f=0∨f=1∨f=2∨f=3∨f=4∨f=5:=by omega
   rcases this with rfl|rfl|rfl|rfl|rfl|rfl
   · exact⟨_,h0⟩
   · exact⟨_,h1⟩
   · exact⟨_,h2⟩
   · exact⟨_,h3⟩
   · exact⟨_,I⟩
   · exact⟨_,H⟩
end Bk
namespace Bk
set_option linter.unusedVariables false
set_option linter.unusedSimpArgs false
open Classical
def yCY(r:Rat)(n:Int):Prop:=¬((xC r<0∨n<0)∨64<n)
noncomputable def mrLo(r:Rat)(n:Int):Rat:=if yCY r n then zEU r n else 0
noncomputable def mrHi(r:Rat)(n:Int):Rat:=if yCY r n then yCL r n else 0
theorem zLX{a b:Rat}:0≤yP a b↔b≤a:=by unfold yP;grind
end Bk
namespace Bk
set_option linter.unusedVariables false
set_option linter.unusedSimpArgs false
open Classical
abbrev Tri:=T3 Pt
def pnA(s:Sd)(i:Int):Pt:=s.1.getD i.toNat zT
def inR(s:Sd)(i:Int):Prop:=0≤i∧i<s.1.length
def cnT(s:Sd)(l:List Int):Tri:=T3.mk (pnA s (l.getD 0 0)) (pnA s (l.getD 1 0)) (pnA s (l.getD 2 0))
def cnTo(s:Sd)(l:List Int):Nat→Tri
  |0=>T3.mk zT zT zT
  |i+1=>(cnTo s l i).set i (pnA s (l.getD i 0))
def fanT(s:Sd)(l:List Int)(q:Nat):Tri:=T3.mk (pnA s (l.getD 0 0)) (pnA s (l.getD (q+1) 0)) (pnA s (l.getD (q+2) 0))
def fanL(s:Sd)(l:List Int):Nat→List Tri:=jL (fanT s l)
def yDC(s:Sd)(ls:List (List Int)):Nat→List Tri:=rW fun i=>fanL s (ls.getD i []) ((ls.getD i []).length-2)
def yBO(s:Sd)(F:List Fc):Nat→List Tri:=rW fun f=>yDC s (F.getD f zA).2.1 (F.getD f zA).2.1.length
def smT(t:Tri):Pt:=cW (cW t.x t.y) t.z
def scT(q:Rat)(p:Pt):Pt:=T3.mk (q*p.x) (q*p.y) (q*p.z)
def sumD(l:List Tri):Rat:=l.foldl (fun a t=>a+zEJ t.x t.y t.z) 0
def sumC(l:List Tri):Pt:=l.foldl (fun a t=>cW a (scT (zEJ t.x t.y t.z) (smT t))) zT
def sumV(l:List Tri):Pt:=l.foldl (fun a t=>cW a (wH (qL t.y t.x) (qL t.z t.x))) zT
def zUM(s:Sd):Rat:=sumD (yBO s s.2.1 s.2.1.length)
def cenS(s:Sd):Pt:=sumC (yBO s s.2.1 s.2.1.length)
def arV(s:Sd)(f:Fc):Pt:=scT (1/2) (sumV (yDC s f.2.1 f.2.1.length))
def lqP(k:Nat)(p:Pt):Prop:=lq p.x≤k∧lq p.y≤k∧lq p.z≤k
def lqT(k:Nat)(t:Tri):Prop:=lqP k t.x∧lqP k t.y∧lqP k t.z
theorem zSQ{k l:Nat}{p:Pt}(h:lqP k p)(hkl:k≤l):lqP l p:=⟨Nat.le_trans h.1 hkl,Nat.le_trans h.2.1 hkl,Nat.le_trans h.2.2 hkl⟩
theorem yCN{h:Mem}{cs:List Go.Value}{a b:Pt}{k l:Nat}(r:(rpT (rpQ k)).R h cs a)(e:a=b)(hl:lqP l b):(rpT (rpQ l)).R h cs b:=by
 subst e;obtain⟨x,_,rfl,⟨G,_⟩,y,z,rfl,⟨D,_⟩,⟨C,_⟩⟩:=r;exact⟨x,_,rfl,⟨G,hl.1⟩,y,z,rfl,⟨D,hl.2.1⟩,⟨C,hl.2.2⟩⟩
def fcOk(s:Sd)(f:Fc):Prop:=(∀u v,u<f.2.1.length→v<(f.2.1.getD u []).length→inR s ((f.2.1.getD u []).getD v 0))∧(∀u,u<f.2.1.length→(f.2.1.getD u []).length≤1000)∧f.2.1.length≤1000
def fsOk(s:Sd)(F:List Fc):Prop:=(∀i,i<F.length→fcOk s (F.getD i zA))∧F.length≤1000∧(yBO s F F.length).length≤1000
noncomputable def cnS(s:Sd):Pt:=if((4:Int):Rat)*zUM s=0 then zT else scT (((1:Int):Rat)/(((4:Int):Rat)*zUM s)) (cenS s)
def cnO(s:Sd):Prop:=¬((4:Int):Rat)*zUM s=0
noncomputable def arS(s:Sd)(d:Int):Nat→Rat×Rat
  |0=>(0,0)
  |i+1=>((arS s d i).1+mrLo (wO (arV s (s.2.1.getD i zA)) (arV s (s.2.1.getD i zA))) d,(arS s d i).2+mrHi (wO (arV s (s.2.1.getD i zA)) (arV s (s.2.1.getD i zA))) d)
def arOk(s:Sd):Prop:=∀i,i<s.2.1.length→lq (wO (arV s (s.2.1.getD i zA)) (arV s (s.2.1.getD i zA)))≤200
end Bk
namespace Bk
set_option linter.unusedVariables false
set_option linter.unusedSimpArgs false
open Classical
def pI(a b c:Int):Pt:=T3.mk (a:Rat) (b:Rat) (c:Rat)
noncomputable def bkS(a b:Pt):Sd:=(blP a b,blF a b,[])
def lgS(s:Sd):Prop:=∀f,f<s.2.1.length→(s.2.1.getD f zA).2.1.length≤10000∧∀l,l<(s.2.1.getD f zA).2.1.length→((s.2.1.getD f zA).2.1.getD l []).length≤10000
def msOk(s:Sd):Prop:=(nmA s∧lgS s)∧fsOk s s.2.1∧arOk s
structure SaneF:Prop where
 h:oT (pI 0 0 0) (pI 2 2 2)→blH (pI 0 0 0) (pI 2 2 2)
 ok:msOk (bkS (pI 0 0 0) (pI 2 2 2))
 vol:zUM (bkS (pI 0 0 0) (pI 2 2 2))/((6:Int):Rat)=((8:Int):Rat)
 cen:cnS (bkS (pI 0 0 0) (pI 2 2 2))=pI 1 1 1∧cnO (bkS (pI 0 0 0) (pI 2 2 2))
 area:arS (bkS (pI 0 0 0) (pI 2 2 2)) 0 (bkS (pI 0 0 0) (pI 2 2 2)).2.1.length=(((24:Int):Rat),((24:Int):Rat))
end Bk
namespace Bk
set_option linter.unusedVariables false
set_option linter.unusedSimpArgs false
open Classical
variable {a b:Pt}
def bxS(a b:Pt):Sd:=(uB1.map (cU a b),fB3 a b,[])
theorem zW7(h:oT a b):bkS a b=bxS a b:=by
 obtain⟨h1,h2⟩:=zL2 h;unfold bkS bxS;rw[h1,h2]
def cC(a b:Pt)(i:Nat):Pt:=cU a b (uB1.getD i u0)
end Bk
namespace Bk
set_option linter.unusedVariables false
set_option linter.unusedSimpArgs false
open Classical
noncomputable def whF(s:Sd)(f:Nat)(q:Pt):Int:=whZ (fT s f) (pr (qY (s.2.1.getD f zA).1 q) 0 1) 0 1
def cnF(s:Sd)(d:Pt)(f:Nat):Rat:=wO (s.2.1.getD f zA).1.1 d
def hnF(s:Sd)(p:Pt)(f:Nat):Rat:=(s.2.1.getD f zA).1.2-wO (s.2.1.getD f zA).1.1 p
def aV(p d:Pt)(t:Rat):Pt:=cW p (scT t d)
def skP(s:Sd)(p d:Pt)(f:Nat):Prop:=xC (cnF s d f)*xC (hnF s p f)≤0
noncomputable def crE(s:Sd)(p d:Pt)(f:Nat):Int:=if skP s p d f then 0 else if whF s f (aV p d (hnF s p f/cnF s d f))=1 then(if 0<cnF s d f then 1 else -1) else 0
noncomputable def crS(s:Sd)(p d:Pt):Nat→Int
  |0=>0
  |n+1=>crS s p d n+crE s p d n
theorem t0{c h:Rat}:xC c*xC h≤0↔¬((0<c∧0<h)∨(c<0∧h<0)):=by
 have r1:=yY c;have r2:=yY h;have I:=eD (q:=c);have H:=qO (q:=c);have G:=eD (q:=h);have D:=qO (q:=h);have C:xC c= -1∨xC c=0∨xC c=1:=by omega
 have z:xC h= -1∨xC h=0∨xC h=1:=by omega
 rw[←I,←H,←G,←D]
 rcases C with e1|e1|e1<;>rcases z with e2|e2|e2<;>rw[e1,e2]<;>simp
theorem zPG(l:List Pt)(p:P2)(i j:Nat):fS l p i j=0∨fS l p i j=1∨fS l p i j= -1:=by
 unfold fS
 split
 · exact .inl rfl
 · split
   · exact .inr (.inl rfl)
   · exact .inr (.inr rfl)
theorem zYC(l:List Pt)(p:P2)(i j:Nat):whZ [l] p i j=fS l p i j:=by
 have e:∀m,m<[l].length→[l].getD m []=l:=fun m C=>by
  have:m=0:=by have:m<1:=C;omega
  subst this;rfl
 unfold whZ
 rcases zPG l p i j with h|h|h
 · rw[if_pos ⟨0,Nat.zero_lt_succ _,h⟩,h]
 · rw[if_neg (fun⟨m,C,z⟩=>by rw[e m C,h] at z;exact absurd z (by decide))]
   show(if fS l p i j=1 then _ else _)=_
   rw[if_pos h,h];rfl
 · rw[if_neg (fun⟨m,C,z⟩=>by rw[e m C,h] at z;exact absurd z (by decide))]
   show(if fS l p i j=1 then _ else _)=_
   rw[if_neg (by rw[h];decide),h];rfl
section
variable {a b:Pt}
def sI(a b q:Pt)(v:Nat):Prop:=a.at v<q.at v∧q.at v<b.at v
def kI(a b q:Pt)(v:Nat):Prop:=a.at v≤q.at v∧q.at v≤b.at v
theorem zZK{d:Dir}{c o:Rat}(hd:d.1<3)(hc:0<c){vs:List B3}(h4:vs.length=4)(ht:zB0 d vs=true):
 zZL (vs.map fun u=>qY (dN d c,o) (cU a b u)) 0 1 (a.at (dI d)) (a.at (dJ d)) (b.at (dI d)) (b.at (dJ d)):=by
 have e0:∀x y:Rat,x+(y-x)*((0:Int):Rat)=x:=fun x y=>by have:((0:Int):Rat)=0:=rfl;rw[this];grind
 have C:∀x y:Rat,x+(y-x)*((1:Int):Rat)=y:=fun x y=>by have:((1:Int):Rat)=1:=rfl;rw[this];grind
 obtain⟨H,v1,v2,v3,rfl⟩:∃H v1 v2 v3,vs=[H,v1,v2,v3]:=by
  match vs,h4 with
  |[_,_,_,_],_=>exact⟨_,_,_,_,rfl⟩
 unfold zB0 at ht;simp only[Bool.and_eq_true,Bool.or_eq_true,decide_eq_true_iff,List.map_cons,List.map_nil,List.cons.injEq,and_true] at ht;have z:∀u:B3,pr (qY (dN d c,o) (cU a b u)) 0 1=(a.at (dI d)+(b.at (dI d)-a.at (dI d))*(((pI2 d u).1:Int):Rat),a.at (dJ d)+(b.at (dJ d)-a.at (dJ d))*(((pI2 d u).2:Int):Rat)):=fun u=>by
  rw[zNA hd hc];rfl
 have D:∀m:Nat,m<4→m=0∨m=1∨m=2∨m=3:=fun m h=>by omega
 refine⟨rfl,?_⟩
 rcases ht.2 with((⟨q0,q1,q2,q3⟩|⟨q0,q1,q2,q3⟩)|⟨q0,q1,q2,q3⟩)|⟨q0,q1,q2,q3⟩
 · refine⟨0,by decide,fun m G=>?_⟩
   rcases D m G with rfl|rfl|rfl|rfl
   · refine(z H).trans ?_;rw[q0];simp only[e0,C];rfl
   · refine(z v1).trans ?_;rw[q1];simp only[e0,C];rfl
   · refine(z v2).trans ?_;rw[q2];simp only[e0,C];rfl
   · refine(z v3).trans ?_;rw[q3];simp only[e0,C];rfl
 · refine⟨1,by decide,fun m G=>?_⟩
   rcases D m G with rfl|rfl|rfl|rfl
   · refine(z H).trans ?_;rw[q0];simp only[e0,C];rfl
   · refine(z v1).trans ?_;rw[q1];simp only[e0,C];rfl
   · refine(z v2).trans ?_;rw[q2];simp only[e0,C];rfl
   · refine(z v3).trans ?_;rw[q3];simp only[e0,C];rfl
 · refine⟨2,by decide,fun m G=>?_⟩
   rcases D m G with rfl|rfl|rfl|rfl
   · refine(z H).trans ?_;rw[q0];simp only[e0,C];rfl
   · refine(z v1).trans ?_;rw[q1];simp only[e0,C];rfl
   · refine(z v2).trans ?_;rw[q2];simp only[e0,C];rfl
   · refine(z v3).trans ?_;rw[q3];simp only[e0,C];rfl
 · refine⟨3,by decide,fun m G=>?_⟩
   rcases D m G with rfl|rfl|rfl|rfl
   · refine(z H).trans ?_;rw[q0];simp only[e0,C];rfl
   · refine(z v1).trans ?_;rw[q1];simp only[e0,C];rfl
   · refine(z v2).trans ?_;rw[q2];simp only[e0,C];rfl
   · refine(z v3).trans ?_;rw[q3];simp only[e0,C];rfl
def kD(f:Nat):Dir:=(f/2,f%2==1)
theorem eR{f:Nat}(hf:f<6):nG a b uB1 (kD f) ((fB3 a b).getD f zA)∧((fB3 a b).getD f zA).1=plD a b (kD f):=by
 have:f=0∨f=1∨f=2∨f=3∨f=4∨f=5:=by omega
 have h1:(0:Rat)<1:=by decide
 rcases this with rfl|rfl|rfl|rfl|rfl|rfl
 · exact⟨⟨by decide,1,h1,rfl,0,1,3,2,rfl,⟨by decide,by decide,by decide,by decide⟩,by decide⟩,rfl⟩
 · exact⟨⟨by decide,1,h1,rfl,4,6,7,5,rfl,⟨by decide,by decide,by decide,by decide⟩,by decide⟩,rfl⟩
 · exact⟨⟨by decide,1,h1,rfl,0,4,5,1,rfl,⟨by decide,by decide,by decide,by decide⟩,by decide⟩,rfl⟩
 · exact⟨⟨by decide,1,h1,rfl,2,3,7,6,rfl,⟨by decide,by decide,by decide,by decide⟩,by decide⟩,rfl⟩
 · exact⟨⟨by decide,1,h1,rfl,0,2,6,4,rfl,⟨by decide,by decide,by decide,by decide⟩,by decide⟩,rfl⟩
 · exact⟨⟨by decide,1,h1,rfl,1,5,7,3,rfl,⟨by decide,by decide,by decide,by decide⟩,by decide⟩,rfl⟩
theorem zWR{f:Nat}(hf:f<6):(kD f).1<3:=by show f/2<3;omega
theorem zXF(h:∀i,a.at i<b.at i){f:Nat}(hf:f<6)(q:Pt):
 whF (bxS a b) f q=if(kI a b q (dI (kD f))∧kI a b q (dJ (kD f)))∧¬(sI a b q (dI (kD f))∧sI a b q (dJ (kD f))) then 0 else if sI a b q (dI (kD f))∧sI a b q (dJ (kD f)) then 1 else -1:=by
 obtain⟨hb,H⟩:=eR (a:=a) (b:=b) hf;obtain⟨U,ht,h4,O⟩:=j7 (F:=fB3 a b) hf hb;obtain⟨v1,v2,v3,v4,rfl⟩:∃v1 v2 v3 v4,U=[v1,v2,v3,v4]:=by
  match U,h4 with
  |[_,_,_,_],_=>exact⟨_,_,_,_,rfl⟩
 have e:fT (bxS a b) f=[[v1,v2,v3,v4].map fun u=>qY (plD a b (kD f)) (cU a b u)]:=by
  have:=zM7 (s:=bxS a b) (f:=f) O;rw[this]
  show[[qY ((fB3 a b).getD f zA).1 _,qY ((fB3 a b).getD f zA).1 _,qY ((fB3 a b).getD f zA).1 _,qY ((fB3 a b).getD f zA).1 _]]=_
  rw[H];rfl
 have Z:=zWR hf;have h1:(0:Rat)<1:=by decide
 have I:=zHA (d:=kD f) Z h1;have hq:pr (qY ((bxS a b).2.1.getD f zA).1 q) 0 1=(q.at (dI (kD f)),q.at (dJ (kD f))):=by
  show pr (qY ((fB3 a b).getD f zA).1 q) 0 1=_
  rw[H];unfold qY plD;rw[I.1,I.2.1];rfl
 have J:zZL ([v1,v2,v3,v4].map fun u=>qY (plD a b (kD f)) (cU a b u)) 0 1 (a.at (dI (kD f))) (a.at (dJ (kD f))) (b.at (dI (kD f))) (b.at (dJ (kD f))):=zZK Z h1 h4 ht;unfold whF;rw[e,hq,zYC,zSX (h _) (h _) J];have g1:bdP (a.at (dI (kD f))) (a.at (dJ (kD f))) (b.at (dI (kD f))) (b.at (dJ (kD f))) (q.at (dI (kD f)),q.at (dJ (kD f)))↔(kI a b q (dI (kD f))∧kI a b q (dJ (kD f)))∧¬(sI a b q (dI (kD f))∧sI a b q (dJ (kD f))):=by
  unfold bdP kI sI;constructor
  · rintro⟨⟨G,D,C,z⟩,M⟩
    exact⟨⟨⟨G,D⟩,C,z⟩,fun e=>M ⟨e.1.1,e.1.2,e.2.1,e.2.2⟩⟩
  · rintro⟨⟨⟨G,D⟩,C,z⟩,M⟩
    exact⟨⟨G,D,C,z⟩,fun e=>M ⟨⟨e.1,e.2.1⟩,e.2.2.1,e.2.2.2⟩⟩
 have g2:zLQ (a.at (dI (kD f))) (a.at (dJ (kD f))) (b.at (dI (kD f))) (b.at (dJ (kD f))) (q.at (dI (kD f)),q.at (dJ (kD f)))↔sI a b q (dI (kD f))∧sI a b q (dJ (kD f)):=by
  unfold zLQ sI;constructor
  · rintro⟨G,D,C,z⟩
    exact⟨⟨G,D⟩,C,z⟩
  · rintro⟨⟨G,D⟩,C,z⟩
    exact⟨G,D,C,z⟩
 by_cases k1:(kI a b q (dI (kD f))∧kI a b q (dJ (kD f)))∧¬(sI a b q (dI (kD f))∧sI a b q (dJ (kD f)))
 · rw[if_pos (g1.2 k1),if_pos k1]
 · rw[if_neg fun e=>k1 (g1.1 e),if_neg k1]
   by_cases k2:sI a b q (dI (kD f))∧sI a b q (dJ (kD f))
   · rw[if_pos (g2.2 k2),if_pos k2]
   · rw[if_neg fun e=>k2 (g2.1 e),if_neg k2]
end
end Bk
namespace Bk
set_option linter.unusedVariables false
set_option linter.unusedSimpArgs false
open Classical
def lV(p A B v:Pt):Prop:=if wH (qL A p) (qL B p)=zT then wH (qL B A) v=zT else zEJ (qL A p) (qL B p) v=0
def vK(k:Int):Pt:=T3.mk ((1:Int):Rat) (k:Rat) ((k*k:Int):Rat)
theorem zFL(a b:Pt):wH a b=zT↔wH b a=zT:=by
 unfold wH;rw[fV,fV];constructor<;>rintro⟨h1,h2,h3⟩<;>simp only at h1 h2 h3 ⊢<;>exact⟨by grind,by grind,by grind⟩
theorem zI7{p A B v:Pt}(h:lV p A B v):lV p B A v:=by
 unfold lV at *
 by_cases hc:wH (qL A p) (qL B p)=zT
 · rw[if_pos hc] at h
   rw[if_pos ((zFL _ _).1 hc)];unfold wH qL at *;rw[fV] at *;obtain⟨h1,h2,h3⟩:=h;simp only at h1 h2 h3 ⊢;exact⟨by grind,by grind,by grind⟩
 · rw[if_neg hc] at h
   rw[if_neg fun e=>hc ((zFL _ _).2 e)];unfold zEJ wO wH qL at *;simp only at h ⊢;grind
theorem zKD{j k:Nat}(h:j≠k):((j:Int):Rat)≠((k:Int):Rat):=fun e=>h (by have:=Rat.intCast_inj.1 e;omega)
theorem yDA{p A B:Pt}(hAB:A≠B){i j k:Nat}(h1:i≠j)(h2:i≠k)(h3:j≠k)(hi:lV p A B (vK i))(hj:lV p A B (vK j))(hk:lV p A B (vK k)):False:=by
 have D:=zKD h1;have e2:=zKD h2;have Z:=zKD h3;have H:((1:Int):Rat)=1:=rfl;have G:∀n:Nat,((((n:Int)*(n:Int):Int)):Rat)=((n:Int):Rat)*((n:Int):Rat):=fun n=>Rat.intCast_mul _ _;unfold lV at *
 by_cases hc:wH (qL A p) (qL B p)=zT
 · rw[if_pos hc] at hi hj
   refine hAB ?_;unfold vK at hi hj;rw[G,H] at hi hj;generalize ((i:Int):Rat)=x at *;generalize ((j:Int):Rat)=y at *;unfold wH qL at hi hj;rw[fV] at hi hj ⊢;obtain⟨a1,J,I⟩:=hi;obtain⟨b1,b2,b3⟩:=hj;simp only at a1 J I b1 b2 b3;have g:(B.x-A.x)*(x-y)=0:=by grind
   have C:B.x-A.x=0:=by
    rcases Rat.mul_eq_zero.1 g with g|g
    · exact g
    · exact absurd (by grind) D
   rw[C] at J I;exact⟨by grind,by grind,by grind⟩
 · rw[if_neg hc] at hi hj hk
   refine hc ?_;unfold vK at hi hj hk;rw[G,H] at hi hj hk;generalize ((i:Int):Rat)=x at *;generalize ((j:Int):Rat)=y at *;generalize ((k:Int):Rat)=z at *;have e:∀t:Rat,zEJ (qL A p) (qL B p) (T3.mk 1 t (t*t))=(wH (qL A p) (qL B p)).x+(wH (qL A p) (qL B p)).y*t+(wH (qL A p) (qL B p)).z*(t*t):=fun t=>by
    unfold zEJ wO wH;simp only;grind
   rw[e] at hi hj hk;generalize wH (qL A p) (qL B p)=n at *;have C:(x-y)*(n.y+n.z*(x+y))=0:=by grind
   have U:(x-z)*(n.y+n.z*(x+z))=0:=by grind
   have m1:n.y+n.z*(x+y)=0:=by
    rcases Rat.mul_eq_zero.1 C with g|g
    · exact absurd (by grind) D
    · exact g
   have m2:n.y+n.z*(x+z)=0:=by
    rcases Rat.mul_eq_zero.1 U with g|g
    · exact absurd (by grind) e2
    · exact g
   have O:n.z*(y-z)=0:=by grind
   have M:n.z=0:=by
    rcases Rat.mul_eq_zero.1 O with g|g
    · exact g
    · exact absurd (by grind) Z
   rw[fV];exact⟨by grind,by grind,M⟩
theorem zA6{α:Type}(q:α→Bool):∀l:List α,(l.filter q).length+(l.filter fun x=>!q x).length=l.length
  |[]=>rfl
  |x::l=>by
   have ih:=zA6 q l;rw[List.filter_cons,List.filter_cons]
   cases h:q x<;>simp<;>omega
theorem zYQ{q:Nat→Prop}{l:List Nat}(hn:l.Nodup)(hq:∀x,x∈l→q x)(h:∀i j k,i≠j→i≠k→j≠k→q i→q j→q k→False):l.length≤2:=by
 match l,hn with
 |[],_=>simp
 |[_],_=>simp
 |[_,_],_=>simp
 |a::b::c::r,hn=>
  simp only[List.nodup_cons,List.mem_cons,not_or] at hn;exact(h a b c hn.1.1 hn.1.2.1 hn.2.1.1 (hq a (by simp)) (hq b (by simp)) (hq c (by simp))).elim
theorem zRK{α:Type}(bad:α→Nat→Prop):∀(E:List α) (K:List Nat),K.Nodup→2*E.length<K.length→(∀e,e∈E→∀i j k,i≠j→i≠k→j≠k→bad e i→bad e j→bad e k→False)→∃k,k∈K∧∀e,e∈E→¬bad e k
  |[],K,_,hl,_=>by
   match K,hl with
   |k::K,_=>exact⟨k,by simp,fun e he=>by cases he⟩
  |e::E,K,hn,hl,h3=>by
   have hb:=zA6 (fun k=>decide (bad e k)) K;have h2:(K.filter fun k=>decide (bad e k)).length≤2:=zYQ (q:=bad e) (hn.filter _) (fun x hx=>by simpa using(List.mem_filter.1 hx).2) (h3 e (.head _));rw[lC] at hl;obtain⟨k,hk,hg⟩:=zRK bad E (K.filter fun k=>!decide (bad e k)) (hn.filter _) (by omega) fun x hx=>h3 x (.tail _ hx);have hm:=List.mem_filter.1 hk;refine⟨k,hm.1,fun x hx=>?_⟩
   rcases List.mem_cons.1 hx with rfl|hx
   · simpa using hm.2
   · exact hg x hx
theorem zST{q:Nat→Prop}:∀n,q n→∃k,k≤n∧q k∧∀j,j<k→¬q j:=by
 intro n
 induction n using Nat.strongRecOn with
 |_ n ih=>
  intro hn
  by_cases h:∃j,j<n∧q j
  · obtain⟨j,hj,hq⟩:=h
    obtain⟨k,h1,h2,h3⟩:=ih j hj hq;exact⟨k,by omega,h2,h3⟩
  · exact⟨n,Nat.le_refl n,hn,fun j hj hq=>h ⟨j,hj,hq⟩⟩
theorem zDD{q:Nat→Prop}(h:∃n,q n):∃k,q k∧∀j,j<k→¬q j:=by
 obtain⟨n,z⟩:=h;obtain⟨k,_,h2⟩:=zST n z;exact⟨k,h2⟩
noncomputable def mC(q:Nat→Prop):Nat:=if h:∃n,q n then Classical.choose (zDD h) else 0
theorem iV{q:Nat→Prop}{n:Nat}(h:q n):mC q≤n∧q (mC q)∧∀j,j<mC q→¬q j:=by
 have D:∃n,q n:=⟨n,h⟩;have z:=Classical.choose_spec (zDD D);have e:mC q=Classical.choose (zDD D):=dif_pos D;rw[e];exact⟨Nat.not_lt.1 fun C=>z.2 n C h,z.1,z.2⟩
end Bk
namespace Bk
set_option linter.unusedVariables false
set_option linter.unusedSimpArgs false
open Classical
theorem zM9{pl:Pl}{l:List Pt}{m:Nat}(h:m<l.length):gp (flA pl l l.length) m=qY pl (gp l m):=kB (fun i=>qY pl (gp l i)) (T3.mk (0:Rat) 0 0) h
theorem zTE(pl:Pl)(l:List Pt)(p:Pt):fS (flA pl l l.length) (pr (qY pl p) 0 1) 0 1=fS l (pr p (axI pl.1) (axJ pl.1)) (axI pl.1) (axJ pl.1):=by
 have hl:(flA pl l l.length).length=l.length:=xL _ _;have eA:∀m,m<l.length→vT (flA pl l l.length) 0 1 m=vT l (axI pl.1) (axJ pl.1) m:=fun m h=>by
  unfold vT;rw[zM9 h];rfl
 have eB:∀m,m<l.length→vO (flA pl l l.length) 0 1 m=vO l (axI pl.1) (axJ pl.1) m:=fun m h=>by
  unfold vO;rw[hl,zM9 (Nat.mod_lt _ (by omega))];rfl
 have eo:∀m,m≤l.length→jR (flA pl l l.length) (pr (qY pl p) 0 1) 0 1 m=jR l (pr p (axI pl.1) (axJ pl.1)) (axI pl.1) (axJ pl.1) m:=by
  intro m
  induction m with
  |zero=>intro _;rfl
  |succ m ih=>
   intro h
   show((jF _ _ _∧¬jR _ _ _ _ m)∨(¬jF _ _ _∧jR _ _ _ _ m))=((jF _ _ _∧¬jR _ _ _ _ m)∨(¬jF _ _ _∧jR _ _ _ _ m))
   rw[ih (by omega),eA m (by omega),eB m (by omega)];rfl
 have ee:(∃m,m<(flA pl l l.length).length∧onS (vT (flA pl l l.length) 0 1 m) (vO (flA pl l l.length) 0 1 m) (pr (qY pl p) 0 1))=(∃m,m<l.length∧onS (vT l (axI pl.1) (axJ pl.1) m) (vO l (axI pl.1) (axJ pl.1) m) (pr p (axI pl.1) (axJ pl.1))):=by
  refine propext ⟨?_,?_⟩
  · rintro⟨m,h,k⟩
    rw[hl] at h;rw[eA m h,eB m h] at k;exact⟨m,h,k⟩
  · rintro⟨m,h,k⟩
    refine⟨m,by rw[hl];exact h,?_⟩;rw[eA m h,eB m h];exact k
 have eo':=eo l.length (Nat.le_refl _);rw[←hl] at eo';unfold fS
 by_cases h:∃m,m<l.length∧onS (vT l (axI pl.1) (axJ pl.1) m) (vO l (axI pl.1) (axJ pl.1) m) (pr p (axI pl.1) (axJ pl.1))
 · rw[if_pos (ee.mpr h),if_pos h]
 · rw[if_neg fun e=>h (ee.mp e),if_neg h]
   rw[hl] at eo' ⊢
   by_cases h2:jR l (pr p (axI pl.1) (axJ pl.1)) (axI pl.1) (axJ pl.1) l.length
   · rw[if_pos (eo'.mpr h2),if_pos h2]
   · rw[if_neg fun e=>h2 (eo'.mp e),if_neg h2]
theorem zM8(s:Sd)(f:Nat)(p:Pt):whF s f p=whZ (uH s f) (pr p (axI (s.2.1.getD f zA).1.1) (axJ (s.2.1.getD f zA).1.1)) (axI (s.2.1.getD f zA).1.1) (axJ (s.2.1.getD f zA).1.1):=by
 unfold whF;generalize he:(s.2.1.getD f zA).1=pl;have hl:(fT s f).length=(uH s f).length:=(zBR s f).1;have hg:∀m,m<(uH s f).length→(fT s f).getD m []=flA pl (gl (uH s f) m) (gl (uH s f) m).length:=fun m h=>by
  subst he;exact kB (fun i=>flA (s.2.1.getD f zA).1 (gl (uH s f) i) (gl (uH s f) i).length) [] h
 have hi:∀m,m<(uH s f).length→fS ((fT s f).getD m []) (pr (qY pl p) 0 1) 0 1=fS ((uH s f).getD m []) (pr p (axI pl.1) (axJ pl.1)) (axI pl.1) (axJ pl.1):=fun m h=>by
  rw[hg m h];exact zTE pl _ p
 have ht:∀m,m≤(uH s f).length→dB (fT s f) (pr (qY pl p) 0 1) 0 1 m=dB (uH s f) (pr p (axI pl.1) (axJ pl.1)) (axI pl.1) (axJ pl.1) m:=by
  intro m
  induction m with
  |zero=>intro _;rfl
  |succ m ih=>
   intro h
   show(if _ then _ else _)=(if _ then _ else _)
   rw[ih (by omega),hi m (by omega)]
 have ee:(∃m,m<(fT s f).length∧fS ((fT s f).getD m []) (pr (qY pl p) 0 1) 0 1=0)=(∃m,m<(uH s f).length∧fS ((uH s f).getD m []) (pr p (axI pl.1) (axJ pl.1)) (axI pl.1) (axJ pl.1)=0):=by
  refine propext ⟨?_,?_⟩
  · rintro⟨m,h,k⟩
    rw[hl] at h;rw[hi m h] at k;exact⟨m,h,k⟩
  · rintro⟨m,h,k⟩
    refine⟨m,by rw[hl];exact h,?_⟩;rw[hi m h];exact k
 unfold whZ
 by_cases h:∃m,m<(uH s f).length∧fS ((uH s f).getD m []) (pr p (axI pl.1) (axJ pl.1)) (axI pl.1) (axJ pl.1)=0
 · rw[if_pos (ee.mpr h),if_pos h]
 · rw[if_neg fun e=>h (ee.mp e),if_neg h,hl]
   exact ht _ (Nat.le_refl _)
theorem zXE(L:List (List Pt))(p:P2)(i j:Nat):∀m,dB L p i j m≠0
  |0=>by unfold dB;decide
  |m+1=>by
   have:=zXE L p i j m;unfold dB
   split<;>omega
theorem yDM{N A B q:Pt}{D:Rat}(hN:¬N.at (axK N)=0)(hA:wO N A=D)(hB:wO N B=D)(hq:wO N q=D)(hc:cr (pr A (axI N) (axJ N)) (pr B (axI N) (axJ N)) (pr q (axI N) (axJ N))=0):wH (qL B A) (qL q A)=zT:=by
 obtain⟨H,G,C⟩:=N;obtain⟨a1,a2,a3⟩:=A;obtain⟨b1,Z,U⟩:=B;obtain⟨O,M,J⟩:=q;unfold wO at hA hB hq;unfold wH qL;rw[fV];simp only at hA hB hq ⊢;have z:∀I x:Rat,I≠0→I*x=0→x=0:=fun I x h e=>(Rat.mul_eq_zero.1 e).resolve_left h
 rcases zXA ⟨H,G,C⟩ with⟨e1,e2,e3⟩|⟨e1,e2,e3⟩|⟨e1,e2,e3⟩|⟨e1,e2,e3⟩|⟨e1,e2,e3⟩|⟨e1,e2,e3⟩<;>rw[e1,e2] at hc<;>rw[e3] at hN<;>simp only[cr,pr,T3.at] at hc hN
 · exact⟨z C _ hN (by grind),z C _ hN (by grind),by grind⟩
 · exact⟨z C _ hN (by grind),z C _ hN (by grind),by grind⟩
 · exact⟨z G _ hN (by grind),by grind,z G _ hN (by grind)⟩
 · exact⟨z G _ hN (by grind),by grind,z G _ hN (by grind)⟩
 · exact⟨by grind,z H _ hN (by grind),z H _ hN (by grind)⟩
 · exact⟨by grind,z H _ hN (by grind),z H _ hN (by grind)⟩
theorem yAM{p d A B:Pt}{t:Rat}(ht:t≠0)(h:wH (qL B A) (qL (aV p d t) A)=zT):lV p A B d:=by
 obtain⟨J,I,H⟩:=p;obtain⟨a1,a2,a3⟩:=A;obtain⟨b1,b2,Z⟩:=B;obtain⟨U,O,M⟩:=d;have z:∀x:Rat,t*x=0→x=0:=fun x e=>(Rat.mul_eq_zero.1 e).resolve_left ht;unfold lV;unfold wH qL aV cW scT at h;rw[fV] at h;obtain⟨h1,h2,h3⟩:=h;simp only at h1 h2 h3
 split
 · rename_i hc
   unfold wH qL at *;rw[fV] at *;obtain⟨G,D,C⟩:=hc;simp only at G D C ⊢;exact⟨z _ (by grind),z _ (by grind),z _ (by grind)⟩
 · refine z _ ?_
   unfold zEJ wO wH qL;simp only;grind
def zG6(s:Sd)(p v:Pt):Prop:=∀f,f<s.2.1.length→∀l,l<(uH s f).length→∀k,k<(gl (uH s f) l).length→gp (gl (uH s f) l) k≠gp (gl (uH s f) l) ((k+1)%(gl (uH s f) l).length)→¬lV p (gp (gl (uH s f) l) k) (gp (gl (uH s f) l) ((k+1)%(gl (uH s f) l).length)) v
def zXS(s:Sd):Prop:=∀f,f<s.2.1.length→¬(s.2.1.getD f zA).1.1=zT∧∀l,l<(uH s f).length→∀k,k<(gl (uH s f) l).length→wO (s.2.1.getD f zA).1.1 (gp (gl (uH s f) l) k)=(s.2.1.getD f zA).1.2∧gp (gl (uH s f) l) k≠gp (gl (uH s f) l) ((k+1)%(gl (uH s f) l).length)
theorem zWV(N p d:Pt)(t:Rat):wO N (aV p d t)=wO N p+t*wO N d:=by
 unfold wO aV cW scT;simp only;grind
theorem zUL{L:List (List Pt)}{p:P2}{i j:Nat}(h:whZ L p i j=0):∃m,m<L.length∧∃k,k<(gl L m).length∧onS (vT (gl L m) i j k) (vO (gl L m) i j k) p:=by
 unfold whZ at h
 split at h
 · rename_i h1
   obtain⟨m,D,z⟩:=h1;unfold fS at z
   split at z
   · rename_i h2
     obtain⟨k,G,C⟩:=h2;exact⟨m,D,k,G,C⟩
   · split at z<;>exact absurd z (by decide)
 · exact absurd h (zXE _ _ _ _ _)
theorem zSA{s:Sd}{p d:Pt}{f:Nat}(hs:zXS s)(hf:f<s.2.1.length)(hc:zG6 s p d)(hk:¬skP s p d f):whF s f (aV p d (hnF s p f/cnF s d f))≠0:=by
 intro h0;rw[zM8] at h0;obtain⟨l,G,k,C,M⟩:=zUL h0;obtain⟨H,z⟩:=hs f hf;have O:cnF s d f≠0:=fun e=>hk (by unfold skP;rw[t0,e];grind);have I:hnF s p f/cnF s d f≠0:=fun e=>hk (by
  have:hnF s p f=0:=by
   have h1:hnF s p f=hnF s p f/cnF s d f*cnF s d f:=by generalize cnF s d f=c at *;grind
   rw[e] at h1;grind
  unfold skP;rw[t0,this];grind)
 have J:wO (s.2.1.getD f zA).1.1 (aV p d (hnF s p f/cnF s d f))=(s.2.1.getD f zA).1.2:=by
  rw[zWV];have h1:hnF s p f/cnF s d f*cnF s d f=hnF s p f:=by generalize cnF s d f=c at *;grind
  have h2:wO (s.2.1.getD f zA).1.1 d=cnF s d f:=rfl;rw[h2,h1];unfold hnF;grind
 obtain⟨hA,D⟩:=z l G k C;have Z:=(z l G ((k+1)%(gl (uH s f) l).length) (Nat.mod_lt _ (by omega))).1;have U:¬(s.2.1.getD f zA).1.1.at (axK (s.2.1.getD f zA).1.1)=0:=fun e=>H ((zW9 _).1 e);exact hc f hf l G k C D (yAM I (yDM U hA Z J M.2.2))
end Bk
namespace Bk
set_option linter.unusedVariables false
set_option linter.unusedSimpArgs false
open Classical
abbrev PIr:=Int×Int
def mmI(a b:Int):PIr:=(min a b,max a b)
def ptI(P:List Pt)(i:Int):Pt:=gp P i.toNat
noncomputable def sxE(P:List Pt)(x:List Int)(S:List PIr):Nat→List PIr
  |0=>S
  |k+1=>if mmI (x.getD k 0) (x.getD ((k+1)%x.length) 0)∈sxE P x S k∨ptI P (x.getD k 0)=ptI P (x.getD ((k+1)%x.length) 0) then sxE P x S k else sxE P x S k++[mmI (x.getD k 0) (x.getD ((k+1)%x.length) 0)]
noncomputable def slE(P:List Pt)(L:List (List Int))(S:List PIr):Nat→List PIr
  |0=>S
  |l+1=>sxE P (L.getD l []) (slE P L S l) (L.getD l []).length
noncomputable def sfE(s:Sd):Nat→List PIr
  |0=>[]
  |f+1=>slE s.1 (s.2.1.getD f zA).2.1 (sfE s f) (s.2.1.getD f zA).2.1.length
def ptP(P:List Pt)(e:PIr):Pt×Pt:=(ptI P e.1,ptI P e.2)
def isE(P:List Pt)(x:List Int)(n:Nat)(e:PIr):Prop:=∃k,k<n∧e=mmI (x.getD k 0) (x.getD ((k+1)%x.length) 0)∧ptI P (x.getD k 0)≠ptI P (x.getD ((k+1)%x.length) 0)
theorem zQC(P:List Pt)(x:List Int)(S:List PIr)(e:PIr):∀n,e∈sxE P x S n↔e∈S∨isE P x n e
  |0=>⟨.inl,fun h=>h.elim id fun⟨_,h,_⟩=>absurd h (Nat.not_lt_zero _)⟩
  |n+1=>by
   have ih:=zQC P x S e n;have hs:isE P x (n+1) e↔isE P x n e∨(e=mmI (x.getD n 0) (x.getD ((n+1)%x.length) 0)∧ptI P (x.getD n 0)≠ptI P (x.getD ((n+1)%x.length) 0)):=by
    constructor
    · rintro⟨k,z,h⟩
      rcases Nat.lt_succ_iff_lt_or_eq.1 z with h1|rfl
      · exact .inl ⟨k,h1,h⟩
      · exact .inr h
    · rintro(⟨k,z,h⟩|h)
      · exact⟨k,by omega,h⟩
      · exact⟨n,by omega,h⟩
   unfold sxE
   by_cases hc:mmI (x.getD n 0) (x.getD ((n+1)%x.length) 0)∈sxE P x S n∨ptI P (x.getD n 0)=ptI P (x.getD ((n+1)%x.length) 0)
   · rw[if_pos hc,ih,hs]
     constructor
     · rintro(h|h)
       · exact .inl h
       · exact .inr (.inl h)
     · rintro(h|h|⟨h1,h2⟩)
       · exact .inl h
       · exact .inr h
       · rcases hc with hc|hc
         · rw[←h1] at hc
           exact ih.1 hc
         · exact absurd hc h2
   · rw[if_neg hc,List.mem_append,ih,hs,List.mem_singleton]
     constructor
     · rintro((h|h)|h)
       · exact .inl h
       · exact .inr (.inl h)
       · exact .inr (.inr ⟨h,fun e=>hc (.inr e)⟩)
     · rintro(h|h|⟨h1,_⟩)
       · exact .inl (.inl h)
       · exact .inl (.inr h)
       · exact .inr h1
theorem zQJ(P:List Pt)(L:List (List Int))(S:List PIr)(e:PIr):∀n,e∈slE P L S n↔e∈S∨∃l,l<n∧isE P (L.getD l []) (L.getD l []).length e
  |0=>⟨.inl,fun h=>h.elim id fun⟨_,h,_⟩=>absurd h (Nat.not_lt_zero _)⟩
  |n+1=>by
   unfold slE;rw[zQC,zQJ P L S e n];constructor
   · rintro((h|⟨l,hl,h⟩)|h)
     · exact .inl h
     · exact .inr ⟨l,by omega,h⟩
     · exact .inr ⟨n,by omega,h⟩
   · rintro(h|⟨l,hl,h⟩)
     · exact .inl (.inl h)
     · rcases Nat.lt_succ_iff_lt_or_eq.1 hl with h1|rfl
       · exact .inl (.inr ⟨l,h1,h⟩)
       · exact .inr h
theorem zF4(s:Sd)(e:PIr):∀n,e∈sfE s n↔∃f,f<n∧∃l,l<(s.2.1.getD f zA).2.1.length∧isE s.1 ((s.2.1.getD f zA).2.1.getD l []) ((s.2.1.getD f zA).2.1.getD l []).length e
  |0=>⟨fun h=>absurd h List.not_mem_nil,fun⟨_,h,_⟩=>absurd h (Nat.not_lt_zero _)⟩
  |n+1=>by
   unfold sfE;rw[zQJ,zF4 s e n];constructor
   · rintro(⟨f,hf,h⟩|h)
     · exact⟨f,by omega,h⟩
     · exact⟨n,by omega,h⟩
   · rintro⟨f,hf,h⟩
     rcases Nat.lt_succ_iff_lt_or_eq.1 hf with h1|rfl
     · exact .inl ⟨f,h1,h⟩
     · exact .inr h
theorem zLW{s:Sd}{f:Nat}(hf:f<s.2.1.length)(hn:nmP s f):(uH s f).length=(s.2.1.getD f zA).2.1.length∧∀l,l<(s.2.1.getD f zA).2.1.length→(gl (uH s f) l).length=((s.2.1.getD f zA).2.1.getD l []).length∧∀k,k<((s.2.1.getD f zA).2.1.getD l []).length→gp (gl (uH s f) l) k=ptI s.1 (((s.2.1.getD f zA).2.1.getD l []).getD k 0):=by
 have e:uH s f=zEK s f (s.2.1.getD f zA).2.1.length:=by
  unfold uH;rw[if_pos ⟨⟨by omega,by omega⟩,by rw[Int.toNat_natCast];exact hn⟩,Int.toNat_natCast]
 rw[e];refine⟨xL _ _,fun l z=>?_⟩;have D:gl (zEK s f (s.2.1.getD f zA).2.1.length) l=zF7 s.1 ((s.2.1.getD f zA).2.1.getD l []) ((s.2.1.getD f zA).2.1.getD l []).length:=kB _ _ z;rw[D];exact⟨xL _ _,fun k C=>kB (fun k=>gp s.1 (((s.2.1.getD f zA).2.1.getD l []).getD k 0).toNat) _ C⟩
theorem zS4{P:List Pt}{p v:Pt}(a b:Int):lV p (ptI P (mmI a b).1) (ptI P (mmI a b).2) v↔lV p (ptI P a) (ptI P b) v:=by
 unfold mmI
 by_cases h:a≤b
 · show lV p (ptI P (min a b)) (ptI P (max a b)) v↔_
   rw[Int.min_eq_left h,Int.max_eq_right h]
 · show lV p (ptI P (min a b)) (ptI P (max a b)) v↔_
   rw[Int.min_eq_right (by omega),Int.max_eq_left (by omega)];exact⟨zI7,zI7⟩
theorem zNM{s:Sd}(hn:nmA s)(p v:Pt):zG6 s p v↔∀e,e∈sfE s s.2.1.length→¬lV p (ptI s.1 e.1) (ptI s.1 e.2) v:=by
 constructor
 · intro h e M
   obtain⟨f,C,l,J,k,D,rfl,z⟩:=(zF4 s e _).1 M;obtain⟨O,I⟩:=zLW C (hn f C);obtain⟨H,G⟩:=I l J;rw[zS4];have:=h f C l (by omega) k (by omega);rw[H,G k D,G _ (Nat.mod_lt _ (by omega))] at this;exact this z
 · intro h f C l J k D z
   obtain⟨O,I⟩:=zLW C (hn f C);obtain⟨H,G⟩:=I l (by omega);rw[H] at D z ⊢;rw[G k D,G _ (Nat.mod_lt _ (by omega))] at z ⊢;rw[←zS4];exact h _ ((zF4 s _ _).2 ⟨f,C,l,by omega,k,D,rfl,z⟩)
theorem yCG{s:Sd}{e:PIr}{n:Nat}(he:e∈sfE s n):ptI s.1 e.1≠ptI s.1 e.2:=by
 obtain⟨f,G,l,C,k,D,rfl,z⟩:=(zF4 s e n).1 he;generalize ((s.2.1.getD f zA).2.1.getD l []).getD k 0=a at *;generalize ((s.2.1.getD f zA).2.1.getD l []).getD ((k+1)%((s.2.1.getD f zA).2.1.getD l []).length) 0=b at *;unfold mmI
 by_cases h:a≤b
 · show ptI s.1 (min a b)≠ptI s.1 (max a b)
   rw[Int.min_eq_left h,Int.max_eq_right h];exact z
 · show ptI s.1 (min a b)≠ptI s.1 (max a b)
   rw[Int.min_eq_right (by omega),Int.max_eq_left (by omega)];exact z.symm
noncomputable def zLU(s:Sd)(p:Pt):Nat:=mC fun k=>zG6 s p (vK k)
theorem zDN{s:Sd}(hn:nmA s)(p:Pt):zLU s p≤2*(sfE s s.2.1.length).length∧zG6 s p (vK (zLU s p))∧∀j:Nat,j<zLU s p→¬zG6 s p (vK j):=by
 obtain⟨k,C,D⟩:=zRK (fun(e:PIr) (k:Nat)=>lV p (ptI s.1 e.1) (ptI s.1 e.2) (vK k)) (sfE s s.2.1.length) (List.range (2*(sfE s s.2.1.length).length+1)) List.nodup_range (by rw[List.length_range];omega) fun e G i j k h1 h2 h3 a b c=>yDA (yCG G) h1 h2 h3 a b c;have z:zG6 s p (vK k):=(zNM hn p _).2 D;obtain⟨h1,h2,h3⟩:=iV (q:=fun k:Nat=>zG6 s p (vK k)) z;have:=List.mem_range.1 C;exact⟨by unfold zLU;omega,h2,h3⟩
end Bk
namespace Bk
set_option linter.unusedVariables false
set_option linter.unusedSimpArgs false
open Classical
theorem zDJ{α:Type}{g:Nat→List α}:∀{n},rW g n=[]→∀i,i<n→g i=[]
  |0,_,i,h=>absurd h (Nat.not_lt_zero i)
  |n+1,e,i,h=>by
   have e':rW g n++g n=[]:=e;rw[List.append_eq_nil_iff] at e'
   rcases Nat.lt_succ_iff_lt_or_eq.1 h with h1|rfl
   · exact zDJ e'.1 i h1
   · exact e'.2
theorem g9{s:Sd}(h:fX s):szZ s=[]∧zHG s s.1.length=[]∧plZ s=[]∧neZ s=[]∧clZ (wZ s)=[]:=by
 unfold fX zTT at h
 by_cases h1:0<(szZ s).length
 · rw[if_pos h1] at h;omega
 · rw[if_neg h1] at h
   by_cases h2:0<(zHG s s.1.length).length
   · rw[if_pos h2] at h;omega
   · rw[if_neg h2] at h
     by_cases h3:0<(plZ s).length
     · rw[if_pos h3] at h;omega
     · rw[if_neg h3] at h
       by_cases h4:0<(neZ s).length
       · rw[if_pos h4] at h;omega
       · rw[if_neg h4] at h
         exact⟨List.eq_nil_of_length_eq_zero (by omega),List.eq_nil_of_length_eq_zero (by omega),List.eq_nil_of_length_eq_zero (by omega),List.eq_nil_of_length_eq_zero (by omega),List.eq_nil_of_length_eq_zero h⟩
theorem zB4{s:Sd}(h:fX s){f:Nat}(hf:f<s.2.1.length):vfP (s.2.1.getD f zA).2.1∧nmP s f:=by
 have z:=(g9 h).1;unfold szZ at z
 by_cases hb:zL5 s
 · rw[if_pos hb] at z;simp at z
 · rw[if_neg hb] at z
   have:=(eF (p:=szP s) _).1 z f hf;unfold szP at this;exact⟨Classical.not_not.1 fun e=>this (.inl e),Classical.not_not.1 fun e=>this (.inr e)⟩
theorem bH{s:Sd}(h:fX s):nmA s:=fun f hf=>(zB4 h hf).2
theorem zU1{s:Sd}(h:fX s){i k:Nat}(hi:i<s.1.length)(hk:k<s.1.length)(hne:i≠k):gp s.1 i≠gp s.1 k:=by
 have z:=(eF (p:=twP s) _).1 (g9 h).2.1;intro e
 rcases Nat.lt_or_gt_of_ne hne with h1|h1
 · exact z k hk ⟨i,h1,e.symm⟩
 · exact z i hi ⟨k,h1,e⟩
theorem zHJ{s:Sd}(h:fX s):zXS s:=by
 have D:=(g9 h).2.2.1;unfold plZ at D
 by_cases hz:0<(zNU s s.2.1.length).length
 · rw[if_pos hz] at D;rw[D] at hz;exact absurd hz (by decide)
 · rw[if_neg hz] at D
   have J:=(eF (p:=zrP s) _).1 (List.eq_nil_of_length_eq_zero (Nat.le_zero.1 (Nat.not_lt.1 hz)));intro f I;obtain⟨hv,M⟩:=zB4 h I;obtain⟨c1,c2⟩:=zLW I M;refine⟨J f I,fun l hl k H=>⟨?_,?_⟩⟩
   · have o1:=zDJ (zDJ D f I) l hl
     have Z:=(eF (p:=ofP s f l) _).1 o1 k H;have O:=Classical.not_not.1 Z;unfold sdZ hgt at O;have:=uC.1 O;grind
   · have z:l<(s.2.1.getD f zA).2.1.length:=by omega
     obtain⟨c3,U⟩:=c2 l z;rw[c3] at H ⊢;have C:=hv.2 l z;have G:(k+1)%((s.2.1.getD f zA).2.1.getD l []).length<((s.2.1.getD f zA).2.1.getD l []).length:=Nat.mod_lt _ (by omega);rw[U k H,U _ G];have n1:=M l z k H;have n2:=M l z _ G;have aa:((s.2.1.getD f zA).2.1.getD l []).getD k 0≠((s.2.1.getD f zA).2.1.getD l []).getD ((k+1)%((s.2.1.getD f zA).2.1.getD l []).length) 0:=by
      generalize ((s.2.1.getD f zA).2.1.getD l [])=x at *;have h3:=C.1.1
      rcases Nat.lt_or_ge (k+1) x.length with h4|h4
      · rw[Nat.mod_eq_of_lt h4]
        exact fun e=>(C.2 (k+1) h4).2 k (by omega) e.symm
      · have e0:k+1=x.length:=by omega
        rw[e0,Nat.mod_self];exact(C.2 k H).2 0 (by omega)
     exact zU1 h (by omega) (by omega) (by omega)
end Bk
namespace Bk
set_option linter.unusedVariables false
set_option linter.unusedSimpArgs false
open Classical
variable {a b p d:Pt}
theorem yA7{f:Nat}(hf:f<6):cnF (bxS a b) d f=if f%2=1 then d.at (f/2) else-d.at (f/2):=by
 unfold cnF;have e:((bxS a b).2.1.getD f zA).1.1=dN (kD f) 1:=congrArg Prod.fst (eR (a:=a) (b:=b) hf).2;rw[e];have:f=0∨f=1∨f=2∨f=3∨f=4∨f=5:=by omega
 rcases this with rfl|rfl|rfl|rfl|rfl|rfl<;>(simp[kD,dN,T3.set,wO,T3.at];try grind)
theorem yAL{f:Nat}(hf:f<6):hnF (bxS a b) p f=if f%2=1 then b.at (f/2)-p.at (f/2) else p.at (f/2)-a.at (f/2):=by
 unfold hnF;have e:((bxS a b).2.1.getD f zA).1=plD a b (kD f):=(eR (a:=a) (b:=b) hf).2;rw[e];have:f=0∨f=1∨f=2∨f=3∨f=4∨f=5:=by omega
 rcases this with rfl|rfl|rfl|rfl|rfl|rfl<;>(simp[kD,plD,dN,T3.set,wO,T3.at];try grind)
theorem zYD(h:∀i,a.at i<b.at i){u s:Nat}(hu:u<3)(hs:s<2)(q:Pt):
 (whF (bxS a b) (2*u+s) q=0↔(kI a b q ((u+1)%3)∧kI a b q ((u+2)%3))∧¬(sI a b q ((u+1)%3)∧sI a b q ((u+2)%3)))∧(whF (bxS a b) (2*u+s) q=1↔sI a b q ((u+1)%3)∧sI a b q ((u+2)%3)):=by
 have D:∀v,sI a b q v→kI a b q v:=fun v e=>⟨Rat.le_of_lt e.1,Rat.le_of_lt e.2⟩;have z:∀v w,whF (bxS a b) (2*u+s) q=(if(kI a b q v∧kI a b q w)∧¬(sI a b q v∧sI a b q w) then 0 else if sI a b q v∧sI a b q w then 1 else -1)→
  (whF (bxS a b) (2*u+s) q=0↔(kI a b q v∧kI a b q w)∧¬(sI a b q v∧sI a b q w))∧(whF (bxS a b) (2*u+s) q=1↔sI a b q v∧sI a b q w):=fun v w e=>by
  rw[e]
  by_cases h1:(kI a b q v∧kI a b q w)∧¬(sI a b q v∧sI a b q w)
  · rw[if_pos h1]
    exact⟨⟨fun _=>h1,fun _=>rfl⟩,fun e=>absurd e (by decide),fun e=>absurd e h1.2⟩
  · rw[if_neg h1]
    by_cases h2:sI a b q v∧sI a b q w
    · rw[if_pos h2]
      exact⟨⟨fun e=>absurd e (by decide),fun e=>absurd e h1⟩,fun _=>h2,fun _=>rfl⟩
    · rw[if_neg h2]
      exact⟨⟨fun e=>absurd e (by decide),fun e=>absurd e h1⟩,fun e=>absurd e (by decide),fun e=>absurd e h2⟩
 have e:=zXF h (f:=2*u+s) (by omega) q;have C:∀v w,((kI a b q v∧kI a b q w)∧¬(sI a b q v∧sI a b q w))=((kI a b q w∧kI a b q v)∧¬(sI a b q w∧sI a b q v))∧(sI a b q v∧sI a b q w)=(sI a b q w∧sI a b q v):=fun v w=>by
  constructor<;>(apply propext;constructor<;>grind)
 have:(u=0∨u=1∨u=2)∧(s=0∨s=1):=by omega
 rcases this with⟨rfl|rfl|rfl,rfl|rfl⟩
 · have k:=z 2 1 e;rw[(C 2 1).1,(C 2 1).2] at k;exact k
 · exact z 1 2 e
 · have k:=z 0 2 e;rw[(C 0 2).1,(C 0 2).2] at k;exact k
 · exact z 2 0 e
 · have k:=z 1 0 e;rw[(C 1 0).1,(C 1 0).2] at k;exact k
 · exact z 0 1 e
theorem iN(t:Rat):∀u,(aV p d t).at u=p.at u+t*d.at u
  |0=>rfl
  |1=>rfl
  |_+2=>rfl
theorem rB{x l t:Rat}(hx:0<x):l*x<t*x↔l<t:=by
 constructor
 · intro h
   refine Rat.not_le.1 fun e=>?_;have:0≤(l-t)*x:=Rat.mul_nonneg (by grind) (Rat.le_of_lt hx);grind
 · intro h
   have:=sG (show 0<t-l by grind) hx;grind
theorem nW{x l t:Rat}(hx:0<x):l*x≤t*x↔l≤t:=by
 rw[←Rat.not_lt,←Rat.not_lt,rB hx]
structure Ax(a b p d:Pt)(M:Rat)(u:Nat)(l h:Rat):Prop where
 lt:l<h
 z:d.at u=0→l= -M∧h=M
 n:d.at u≠0→(-M<l∧l<M)∧-M<h∧h<M
 s:∀t,-M<t→t<M→(sI a b (aV p d t) u↔l<t∧t<h)
 k:∀t,-M<t→t<M→(kI a b (aV p d t) u↔l≤t∧t≤h)
 pos:0<d.at u→l*d.at u=a.at u-p.at u∧h*d.at u=b.at u-p.at u
 neg:d.at u<0→l*d.at u=b.at u-p.at u∧h*d.at u=a.at u-p.at u
theorem yBM{M:Rat}{u:Nat}(hab:a.at u<b.at u)(hd:0<d.at u){l h:Rat}(hl:l*d.at u=a.at u-p.at u)(hh:h*d.at u=b.at u-p.at u)(hM:(-M<l∧l<M)∧-M<h∧h<M):Ax a b p d M u l h:=by
 refine⟨?_,fun e=>by grind,fun _=>hM,fun t _ _=>?_,fun t _ _=>?_,fun _=>⟨hl,hh⟩,fun e=>by grind⟩
 · rw[←rB hd];grind
 · unfold sI;rw[iN,←rB (l:=l) hd,←rB (l:=t) hd];constructor<;>intro h<;>constructor<;>grind
 · unfold kI;rw[iN,←nW (l:=l) hd,←nW (l:=t) hd];constructor<;>intro h<;>constructor<;>grind
theorem yBN{M:Rat}{u:Nat}(hab:a.at u<b.at u)(hd:d.at u<0){l h:Rat}(hl:l*d.at u=b.at u-p.at u)(hh:h*d.at u=a.at u-p.at u)(hM:(-M<l∧l<M)∧-M<h∧h<M):Ax a b p d M u l h:=by
 have z:0< -d.at u:=by grind
 refine⟨?_,fun e=>by grind,fun _=>hM,fun t _ _=>?_,fun t _ _=>?_,fun e=>by grind,fun _=>⟨hl,hh⟩⟩
 · rw[←rB z];grind
 · unfold sI;rw[iN,←rB (l:=l) z,←rB (l:=t) z];constructor<;>intro h<;>constructor<;>grind
 · unfold kI;rw[iN,←nW (l:=l) z,←nW (l:=t) z];constructor<;>intro h<;>constructor<;>grind
theorem zT8{M:Rat}{u:Nat}(hM:0<M)(hd:d.at u=0)(hs:sI a b p u):Ax a b p d M u (-M) M:=by
 have e:∀t,(aV p d t).at u=p.at u:=fun t=>by rw[iN,hd];grind
 refine⟨by grind,fun _=>⟨rfl,rfl⟩,fun h=>absurd hd h,fun t h1 h2=>?_,fun t h1 h2=>?_,fun h=>by grind,fun h=>by grind⟩
 · unfold sI at *;rw[e];exact⟨fun _=>⟨h1,h2⟩,fun _=>hs⟩
 · unfold kI;unfold sI at hs;rw[e];exact⟨fun _=>⟨Rat.le_of_lt h1,Rat.le_of_lt h2⟩,fun _=>⟨Rat.le_of_lt hs.1,Rat.le_of_lt hs.2⟩⟩
theorem yDL{s:Sd}{f:Nat}{t:Rat}(hc:cnF s d f≠0)(ht:hnF s p f=t*cnF s d f):(skP s p d f↔¬0<t)∧hnF s p f/cnF s d f=t:=by
 refine⟨?_,?_⟩
 · unfold skP
   rw[t0,ht];generalize cnF s d f=c at *;refine not_congr ⟨?_,fun h0=>?_⟩
   · rintro(⟨h1,h2⟩|⟨h1,h2⟩)
     · refine Rat.not_le.1 fun e=>?_
       have:0≤(-t)*c:=Rat.mul_nonneg (by grind) (Rat.le_of_lt h1);grind
     · refine Rat.not_le.1 fun e=>?_
       have:0≤(-t)*(-c):=Rat.mul_nonneg (by grind) (by grind);grind
   · by_cases h1:0<c
     · exact .inl ⟨h1,sG h0 h1⟩
     · have:=sG h0 (show 0< -c by grind)
       exact .inr ⟨by grind,by grind⟩
 · rw[ht]
   generalize cnF s d f=c at *;grind
theorem q8(hab:∀i,a.at i<b.at i){M:Rat}{u s:Nat}(hu:u<3)(hs:s<2){t lv hv lw hw:Rat}(V:Ax a b p d M ((u+1)%3) lv hv)(W:Ax a b p d M ((u+2)%3) lw hw)(h1:-M<t)(h2:t<M)
    (hc:cnF (bxS a b) d (2*u+s)≠0)(ht:hnF (bxS a b) p (2*u+s)=t*cnF (bxS a b) d (2*u+s)):
    crE (bxS a b) p d (2*u+s)=(if 0<cnF (bxS a b) d (2*u+s) then 1 else -1)*pK (exI t lv hv lw hw)∧((¬skP (bxS a b) p d (2*u+s)→whF (bxS a b) (2*u+s) (aV p d (hnF (bxS a b) p (2*u+s)/cnF (bxS a b) d (2*u+s)))≠0)→oK t lv hv lw hw):=by
 obtain⟨C,D⟩:=yDL hc ht;obtain⟨w0,z⟩:=zYD hab hu hs (aV p d t);rw[V.s t h1 h2,W.s t h1 h2] at w0 z;rw[V.k t h1 h2,W.k t h1 h2] at w0;refine⟨?_,?_⟩
 · unfold crE
   rw[D]
   by_cases h0:0<t
   · rw[if_neg fun e=>C.1 e h0]
     by_cases hw1:(lv<t∧t<hv)∧lw<t∧t<hw
     · rw[if_pos (z.2 hw1),bS (show exI t lv hv lw hw from⟨h0,hw1⟩),Int.mul_one]
     · rw[if_neg fun e=>hw1 (z.1 e),jC (show ¬exI t lv hv lw hw from fun e=>hw1 e.2),Int.mul_zero]
   · rw[if_pos (C.2 h0),jC (show ¬exI t lv hv lw hw from fun e=>h0 e.1),Int.mul_zero]
 · intro G h0 I H
   rw[D] at G;exact Classical.not_not.1 fun e=>G (fun k=>C.1 k h0) (w0.2 ⟨⟨I,H⟩,e⟩)
theorem yAZ{M t lv hv lw hw:Rat}{v w:Nat}(V:Ax a b p d M v lv hv):¬exI M lv hv lw hw:=fun e=>by
 by_cases h:d.at v=0
 · have:=(V.z h).2;unfold exI at e;grind
 · have:=(V.n h).2.2;unfold exI at e;grind
theorem zDX(hab:∀i,a.at i<b.at i){M:Rat}(hM:0<M){u:Nat}(hu:u<3){l h lv hv lw hw:Rat}(U:Ax a b p d M u l h)(V:Ax a b p d M ((u+1)%3) lv hv)(W:Ax a b p d M ((u+2)%3) lw hw)
    (hz:d.at u=0→d.at ((u+1)%3)≠0∨d.at ((u+2)%3)≠0)(hb:∀f,f<6→¬skP (bxS a b) p d f→whF (bxS a b) f (aV p d (hnF (bxS a b) p f/cnF (bxS a b) d f))≠0):
    crE (bxS a b) p d (2*u)+crE (bxS a b) p d (2*u+1)=pK (exI h lv hv lw hw)-pK (enI l lv hv lw hw)∧oK h lv hv lw hw∧oK l lv hv lw hw:=by
 have G:cnF (bxS a b) d (2*u+0)= -d.at u:=by rw[yA7 (by omega),if_neg (by omega),show(2*u+0)/2=u by omega]
 have D:cnF (bxS a b) d (2*u+1)=d.at u:=by rw[yA7 (by omega),if_pos (by omega),show(2*u+1)/2=u by omega]
 have n0:hnF (bxS a b) p (2*u+0)=p.at u-a.at u:=by rw[yAL (by omega),if_neg (by omega),show(2*u+0)/2=u by omega]
 have n1:hnF (bxS a b) p (2*u+1)=b.at u-p.at u:=by rw[yAL (by omega),if_pos (by omega),show(2*u+1)/2=u by omega]
 by_cases hd:d.at u=0
 · obtain⟨el,eh⟩:=U.z hd
   have J:crE (bxS a b) p d (2*u+0)=0:=by
    unfold crE;refine if_pos ?_;unfold skP;rw[t0,G,hd];grind
   have z1:crE (bxS a b) p d (2*u+1)=0:=by
    unfold crE;refine if_pos ?_;unfold skP;rw[t0,D,hd];grind
   have x1:¬exI h lv hv lw hw:=by rw[eh];exact yAZ (t:=M) (w:=0) V
   have x2:¬enI l lv hv lw hw:=fun e=>by unfold enI at e;grind
   refine⟨?_,?_,fun e=>by grind⟩
   · rw[Nat.add_zero] at J
     rw[J,z1,jC x1,jC x2];rfl
   · intro _ e2 e3
     rcases hz hd with k|k
     · have:=(V.n k).2.2;grind
     · have:=(W.n k).2.2;grind
 · obtain⟨⟨m1,m2⟩,m3,m4⟩:=U.n hd
   by_cases hp:0<d.at u
   · obtain⟨Z,O⟩:=U.pos hp
     obtain⟨r1,H⟩:=q8 hab hu (s:=1) (by decide) V W m3 m4 (by rw[D];exact hd) (by rw[n1,D,O]);obtain⟨C,I⟩:=q8 hab hu (s:=0) (by decide) V W m1 m2 (by rw[G];grind) (by rw[n0,G];grind);refine⟨?_,H (hb _ (by omega)),I (hb _ (by omega))⟩;rw[D,if_pos hp] at r1;rw[G,if_neg (by grind)] at C;rw[Nat.add_zero] at C;rw[C,r1]
     show -1*pK (exI l lv hv lw hw)+_=_-pK (exI l lv hv lw hw)
     omega
   · obtain⟨Z,O⟩:=U.neg (by grind)
     obtain⟨r1,H⟩:=q8 hab hu (s:=1) (by decide) V W m1 m2 (by rw[D];exact hd) (by rw[n1,D,Z]);obtain⟨C,I⟩:=q8 hab hu (s:=0) (by decide) V W m3 m4 (by rw[G];grind) (by rw[n0,G];grind);refine⟨?_,I (hb _ (by omega)),H (hb _ (by omega))⟩;rw[D,if_neg hp] at r1;rw[G,if_pos (by grind)] at C;rw[Nat.add_zero] at C;rw[C,r1]
     show _+-1*pK (exI l lv hv lw hw)=_-pK (exI l lv hv lw hw)
     omega
end Bk
namespace Bk
set_option linter.unusedVariables false
set_option linter.unusedSimpArgs false
open Classical
variable {a b p d:Pt}
theorem zX2:∀xs:List Rat,∃M:Rat,0<M∧∀x,x∈xs→-M<x∧x<M
  |[]=>⟨1,by decide,fun x hx=>by cases hx⟩
  |y::xs=>by
   obtain⟨M,hM,h⟩:=zX2 xs
   by_cases hy:0≤y
   · refine⟨M+y,by grind,fun x hx=>?_⟩
     rcases List.mem_cons.1 hx with rfl|hx
     · exact⟨by grind,by grind⟩
     · have:=h x hx;exact⟨by grind,by grind⟩
   · refine⟨M-y,by grind,fun x hx=>?_⟩
     rcases List.mem_cons.1 hx with rfl|hx
     · exact⟨by grind,by grind⟩
     · have:=h x hx;exact⟨by grind,by grind⟩
theorem zBS{x y:Rat}(h:y≠0):x/y*y=x:=by grind
theorem zT9{u:Nat}(hab:a.at u<b.at u)(hs:d.at u=0→sI a b p u):∃(g:Rat→Rat×Rat) (xs:List Rat),∀M,0<M→(∀x,x∈xs→-M<x∧x<M)→Ax a b p d M u (g M).1 (g M).2:=by
 by_cases h0:d.at u=0
 · exact⟨fun M=>(-M,M),[],fun M C _=>zT8 C h0 (hs h0)⟩
 · by_cases hp:0<d.at u
   · exact⟨fun _=>((a.at u-p.at u)/d.at u,(b.at u-p.at u)/d.at u),[(a.at u-p.at u)/d.at u,(b.at u-p.at u)/d.at u],fun M C z=>yBM hab hp (zBS h0) (zBS h0) ⟨z _ (by simp),z _ (by simp)⟩⟩
   · exact⟨fun _=>((b.at u-p.at u)/d.at u,(a.at u-p.at u)/d.at u),[(b.at u-p.at u)/d.at u,(a.at u-p.at u)/d.at u],fun M C z=>yBN hab (by grind) (zBS h0) (zBS h0) ⟨z _ (by simp),z _ (by simp)⟩⟩
theorem yDE{t l2 h2 l3 h3:Rat}:exI t l2 h2 l3 h3=exI t l3 h3 l2 h2:=propext ⟨fun e=>⟨e.1,e.2.2,e.2.1⟩,fun e=>⟨e.1,e.2.2,e.2.1⟩⟩
theorem yDG{t l2 h2 l3 h3:Rat}:enI t l2 h2 l3 h3=enI t l3 h3 l2 h2:=propext ⟨fun e=>⟨e.1,e.2.2,e.2.1⟩,fun e=>⟨e.1,e.2.2,e.2.1⟩⟩
theorem zXM{t l2 h2 l3 h3:Rat}(k:oK t l2 h2 l3 h3):oK t l3 h3 l2 h2:=fun e c1 c2=>⟨(k e c2 c1).2,(k e c2 c1).1⟩
theorem yB2{d:Pt}(h:d≠zT):d.at 0≠0∨d.at 1≠0∨d.at 2≠0:=by
 by_cases h0:d.at 0=0
 · by_cases h1:d.at 1=0
   · by_cases h2:d.at 2=0
     · exact absurd (fV.2 ⟨h0,h1,h2⟩) h
     · exact .inr (.inr h2)
   · exact .inr (.inl h1)
 · exact .inl h0
theorem zW2(hab:∀i,a.at i<b.at i){v:Nat}(hv:v<3)(h0:d.at v=0)(hs:¬sI a b p v){u s:Nat}(hu:u<3)(hs2:s<2):crE (bxS a b) p d (2*u+s)=0:=by
 unfold crE
 by_cases hk:skP (bxS a b) p d (2*u+s)
 · exact if_pos hk
 · rw[if_neg hk]
   refine if_neg fun e=>?_;have C:=(zYD hab hu hs2 _).2.1 e;have D:∀t,(aV p d t).at v=p.at v:=fun t=>by rw[iN,h0];grind
   have z:∀t,¬sI a b (aV p d t) v:=fun t h=>hs (by unfold sI at *;rw[D] at h;exact h)
   by_cases huv:u=v
   · refine hk ?_
     unfold skP;rw[t0,yA7 (by omega),show(2*u+s)/2=v by omega,h0]
     split<;>grind
   · have:v=(u+1)%3∨v=(u+2)%3:=by omega
     rcases this with e1|e1
     · exact z _ (e1▸C.1)
     · exact z _ (e1▸C.2)
theorem zT0(hab:∀i,a.at i<b.at i)(hd:d≠zT)(hon:(∀u,u<3→kI a b p u)→∀u,u<3→sI a b p u)(hb:∀f,f<6→¬skP (bxS a b) p d f→whF (bxS a b) f (aV p d (hnF (bxS a b) p f/cnF (bxS a b) d f))≠0):
 crS (bxS a b) p d 6=pK (∀u,u<3→sI a b p u):=by
 have e6:crS (bxS a b) p d 6=(crE (bxS a b) p d (2*0)+crE (bxS a b) p d (2*0+1))+(crE (bxS a b) p d (2*1)+crE (bxS a b) p d (2*1+1))+(crE (bxS a b) p d (2*2)+crE (bxS a b) p d (2*2+1)):=by
  show 0+crE (bxS a b) p d 0+crE (bxS a b) p d 1+crE (bxS a b) p d 2+crE (bxS a b) p d 3+crE (bxS a b) p d 4+crE (bxS a b) p d 5=_
  simp only[Nat.reduceMul,Nat.reduceAdd];omega
 by_cases hall:∀u,u<3→d.at u=0→sI a b p u
 · obtain⟨g0,x0,A0⟩:=zT9 (p:=p) (d:=d) (hab 0) (hall 0 (by decide))
   obtain⟨g1,x1,A1⟩:=zT9 (p:=p) (d:=d) (hab 1) (hall 1 (by decide));obtain⟨g2,x2,A2⟩:=zT9 (p:=p) (d:=d) (hab 2) (hall 2 (by decide));obtain⟨M,D,hx⟩:=zX2 (x0++(x1++x2));have I:=A0 M D fun x h=>hx x (by simp[h]);have H:=A1 M D fun x h=>hx x (by simp[h]);have G:=A2 M D fun x h=>hx x (by simp[h])
   clear A0 A1 A2 hx
   generalize (g0 M).1=l1 at *;generalize (g0 M).2=h1 at *;generalize (g1 M).1=l2 at *;generalize (g1 M).2=h2 at *;generalize (g2 M).1=l3 at *;generalize (g2 M).2=h3 at *;have nz:=yB2 hd;obtain⟨s0,k0,m0⟩:=zDX hab D (u:=0) (by decide) I H G (fun e=>nz.elim (fun k=>absurd e k) id) hb;obtain⟨s1,k1,m1⟩:=zDX hab D (u:=1) (by decide) H G I (fun e=>nz.elim (fun k=>.inr k) fun k=>k.elim (fun k=>absurd e k) fun k=>.inl k) hb;obtain⟨s2,k2,m2⟩:=zDX hab D (u:=2) (by decide) G I H (fun e=>nz.elim (fun k=>.inl k) fun k=>k.elim (fun k=>.inr k) fun k=>absurd e k) hb;rw[e6,s0,s1,s2,yDE (t:=h2),yDG (t:=l2)];have r0:∀u,(aV p d 0).at u=p.at u:=fun u=>by rw[iN];grind
   have aa:-M<0:=by grind
   have C:∀{u l h},Ax a b p d M u l h→(sI a b p u↔l<0∧0<h):=fun{u l h} A=>by
    have:=A.s 0 aa D;unfold sI at *;rw[r0] at this;exact this
   have kv:∀{u l h},Ax a b p d M u l h→(kI a b p u↔l≤0∧0≤h):=fun{u l h} A=>by
    have:=A.k 0 aa D;unfold kI at *;rw[r0] at this;exact this
   have Z:=yAC I.lt H.lt G.lt k0 (zXM k1) k2 m0 (zXM m1) m2 fun c0 c1 c2=>by
    have J:=hon fun u hu=>by
     have:u=0∨u=1∨u=2:=by omega
     rcases this with rfl|rfl|rfl
     · exact(kv I).2 c0
     · exact(kv H).2 c1
     · exact(kv G).2 c2
    exact⟨(C I).1 (J 0 (by decide)),(C H).1 (J 1 (by decide)),(C G).1 (J 2 (by decide))⟩
   have U:((l1<0∧0<h1)∧(l2<0∧0<h2)∧l3<0∧0<h3)=(∀u,u<3→sI a b p u):=propext ⟨fun e u hu=>by
    have:u=0∨u=1∨u=2:=by omega
    rcases this with rfl|rfl|rfl
    · exact(C I).2 e.1
    · exact(C H).2 e.2.1
    · exact(C G).2 e.2.2,fun e=>⟨(C I).1 (e 0 (by decide)),(C H).1 (e 1 (by decide)),(C G).1 (e 2 (by decide))⟩⟩
   rw[U] at Z;omega
 · obtain⟨v,hv⟩:=Classical.not_forall.1 hall
   obtain⟨O,hv⟩:=Classical.not_imp.1 hv;obtain⟨h0,J⟩:=Classical.not_imp.1 hv;have z:∀u s,u<3→s<2→crE (bxS a b) p d (2*u+s)=0:=fun u s hu h2=>zW2 hab O h0 J hu h2;rw[e6,z 0 1 (by decide) (by decide),z 1 1 (by decide) (by decide),z 2 1 (by decide) (by decide),show crE (bxS a b) p d (2*0)=0 from z 0 0 (by decide) (by decide),show crE (bxS a b) p d (2*1)=0 from z 1 0 (by decide) (by decide),show crE (bxS a b) p d (2*2)=0 from z 2 0 (by decide) (by decide),jC fun e=>J (e v O)]
   rfl
end Bk
namespace Bk
set_option linter.unusedVariables false
set_option linter.unusedSimpArgs false
open Classical
def onP(s:Sd)(p:Pt)(f:Nat):Prop:=sdZ (s.2.1.getD f zA).1 p=0∧0≤whF s f p
def onB(s:Sd)(p:Pt):Prop:=∃f,f<s.2.1.length∧onP s p f
noncomputable def onI(s:Sd)(p:Pt):Nat:=if onB s p then mC fun f=>f<s.2.1.length∧onP s p f else 0
noncomputable def crP(s:Sd)(p d:Pt):Nat→Int×Int
  |0=>(0,0)
  |n+1=>if skP s p d n then crP s p d n else if whF s n (aV p d (hnF s p n/cnF s d n))=1 then(if 0<cnF s d n then((crP s p d n).1+1,(crP s p d n).2) else((crP s p d n).1,(crP s p d n).2+1)) else crP s p d n
theorem zNI(s:Sd)(p d:Pt):∀n,(crP s p d n).1-(crP s p d n).2=crS s p d n
  |0=>rfl
  |n+1=>by
   have ih:=zNI s p d n;unfold crP crS crE
   split
   · omega
   · split
     · split
       · show(crP s p d n).1+1-(crP s p d n).2=_;omega
       · show(crP s p d n).1-((crP s p d n).2+1)=_;omega
     · omega
noncomputable def zHC(s:Sd)(p:Pt):Int:=if onB s p then 0 else crS s p (vK (zLU s p)) s.2.1.length
noncomputable def inZ(s:Sd)(p:Pt):Int:=if onB s p then 0 else if 0<zHC s p then 1 else -1
theorem yBV(k:Int):vK k≠zT:=fun e=>by
 have:=congrArg T3.x e;have e1:((1:Int):Rat)=0:=this;exact absurd e1 (by decide)
section
variable {a b:Pt}
theorem zQH(h:a.x<b.x∧a.y<b.y∧a.z<b.z):fX (bxS a b):=by
 have g:∀i,i<uB1.length→∀k,k<i→¬uB1.getD i u0=uB1.getD k u0:=by decide +kernel
 have D:wZ (uB1.map (cU a b),fB3 a b,[])=[[[0,1,3,2]],[[4,6,7,5]],[[0,4,5,1]],[[2,3,7,6]],[[0,2,6,4]],[[1,5,7,3]]]:=rfl;refine zG9 h (fun i k G hi=>g i hi k G) ⟨by decide,show 6≤256 by decide⟩ (fun f C=>⟨_,(eR (a:=a) (b:=b) C).1⟩) (fun f C=>?_) ?_ ?_
 · have H:f<6:=C
   have:f=0∨f=1∨f=2∨f=3∨f=4∨f=5:=by omega
   rcases this with rfl|rfl|rfl|rfl|rfl|rfl
   · show vfP [[0,1,3,2]];decide +kernel
   · show vfP [[4,6,7,5]];decide +kernel
   · show vfP [[0,4,5,1]];decide +kernel
   · show vfP [[2,3,7,6]];decide +kernel
   · show vfP [[0,2,6,4]];decide +kernel
   · show vfP [[1,5,7,3]];decide +kernel
 · rw[D];decide +kernel
 · rw[D];decide +kernel
theorem zMU(h:∀i,a.at i<b.at i)(p:Pt):onB (bxS a b) p↔(∀u,u<3→kI a b p u)∧¬∀u,u<3→sI a b p u:=by
 have hk:∀v,sI a b p v→kI a b p v:=fun v e=>⟨Rat.le_of_lt e.1,Rat.le_of_lt e.2⟩;have z:∀u s,u<3→s<2→(onP (bxS a b) p (2*u+s)↔(if s=1 then b.at u=p.at u else p.at u=a.at u)∧kI a b p ((u+1)%3)∧kI a b p ((u+2)%3)):=fun u s H O=>by
  obtain⟨w0,J⟩:=zYD h H O p;have hw:0≤whF (bxS a b) (2*u+s) p↔kI a b p ((u+1)%3)∧kI a b p ((u+2)%3):=by
   constructor
   · intro e
     by_cases h0:whF (bxS a b) (2*u+s) p=0
     · exact(w0.1 h0).1
     · have h1:whF (bxS a b) (2*u+s) p=1:=by
        rw[zXF h (by omega)] at e h0 ⊢
        split at e
        · rename_i hc;rw[if_pos hc] at h0;exact absurd rfl h0
        · split at e
          · rename_i hc hc2;rw[if_neg hc,if_pos hc2]
          · exact absurd e (by decide)
       exact⟨hk _ (J.1 h1).1,hk _ (J.1 h1).2⟩
   · intro e
     by_cases hs2:sI a b p ((u+1)%3)∧sI a b p ((u+2)%3)
     · rw[J.2 hs2];decide
     · rw[w0.2 ⟨e,hs2⟩];exact Int.le_refl 0
  unfold onP;rw[hw];have M:sdZ ((bxS a b).2.1.getD (2*u+s) zA).1 p=0↔hnF (bxS a b) p (2*u+s)=0:=by
   unfold sdZ hgt hnF;rw[uC];constructor<;>intro e<;>grind
  rw[M,yAL (by omega),show(2*u+s)/2=u by omega]
  by_cases e1:s=1
  · rw[if_pos (by omega),if_pos e1]
    constructor
    · rintro⟨e,k⟩;exact⟨by grind,k⟩
    · rintro⟨e,k⟩;exact⟨by grind,k⟩
  · rw[if_neg (by omega),if_neg e1]
    constructor
    · rintro⟨e,k⟩;exact⟨by grind,k⟩
    · rintro⟨e,k⟩;exact⟨by grind,k⟩
 have I:∀u,u<3→∀q:Nat→Prop,q u→q ((u+1)%3)→q ((u+2)%3)→∀v,v<3→q v:=fun u H q h0 h1 h2 v hv=>by
  have:v=u∨v=(u+1)%3∨v=(u+2)%3:=by omega
  rcases this with rfl|rfl|rfl<;>assumption
 constructor
 · rintro⟨f,hf,ho⟩
   have ab:f<6:=hf;have e:f=2*(f/2)+f%2:=by omega
   rw[e] at ho;obtain⟨h1,h2,h3⟩:=(z (f/2) (f%2) (by omega) (by omega)).1 ho;have aa:=h (f/2);have D:kI a b p (f/2):=by
    unfold kI
    by_cases e1:f%2=1
    · rw[if_pos e1] at h1;exact⟨by grind,by grind⟩
    · rw[if_neg e1] at h1;exact⟨by grind,by grind⟩
   refine⟨I (f/2) (by omega) _ D h2 h3,fun O=>?_⟩;have:=O (f/2) (by omega);unfold sI at this
   by_cases e1:f%2=1
   · rw[if_pos e1] at h1;grind
   · rw[if_neg e1] at h1;grind
 · rintro⟨G,hn⟩
   obtain⟨u,H⟩:=Classical.not_forall.1 hn;obtain⟨C,H⟩:=Classical.not_imp.1 H;have D:=G u C;unfold sI at H;unfold kI at D;have Z:=G ((u+1)%3) (by omega);have U:=G ((u+2)%3) (by omega)
   by_cases e:p.at u=a.at u
   · exact⟨2*u+0,show 2*u+0<6 by omega,(z u 0 C (by decide)).2 ⟨by rw[if_neg (by decide)];exact e,Z,U⟩⟩
   · exact⟨2*u+1,show 2*u+1<6 by omega,(z u 1 C (by decide)).2 ⟨by rw[if_pos rfl];grind,Z,U⟩⟩
theorem zL9(h:∀i,a.at i<b.at i){p:Pt}(ho:¬onB (bxS a b) p):zHC (bxS a b) p=pK (∀u,u<3→sI a b p u):=by
 have C:=zQH (a:=a) (b:=b) ⟨h 0,h 1,h 2⟩;have G:=zDN (bH C) p;unfold zHC;rw[if_neg ho];refine zT0 h (yBV _) (fun z=>Classical.not_not.1 fun e=>ho ((zMU h p).2 ⟨z,e⟩)) fun f D z=>zSA (zHJ C) D G.2.1 z
theorem yC9(h:∀i,a.at i<b.at i)(p:Pt):inZ (bxS a b) p=if ∀u,u<3→sI a b p u then 1 else if ∀u,u<3→kI a b p u then 0 else -1:=by
 unfold inZ
 by_cases ho:onB (bxS a b) p
 · obtain⟨h1,h2⟩:=(zMU h p).1 ho
   rw[if_pos ho,if_neg h2,if_pos h1]
 · rw[if_neg ho,zL9 h ho]
   by_cases hs:∀u,u<3→sI a b p u
   · rw[bS hs,if_pos (by decide),if_pos hs]
   · rw[jC hs,if_neg (by decide),if_neg hs,if_neg fun e=>ho ((zMU h p).2 ⟨e,hs⟩)]
end
end Bk
namespace Bk
set_option linter.unusedVariables false
set_option linter.unusedSimpArgs false
open Classical
abbrev Fm:=Pl×List (List Pt)×Int×Int
abbrev Md:=List Fm×List (List Pt)
abbrev ed0:List Pt:=List.replicate 2 zT
abbrev fm0:Fm:=(zVV,([]:List (List Pt)),(0:Int),(0:Int))
def dP(P:List Pt)(L:List (List Int)):Nat→List (List Pt):=jL fun l=>zF7 P (L.getD l []) (L.getD l []).length
noncomputable def fmF(s:Sd)(f:Fc):Fm:=(f.1,dP s.1 f.2.1 f.2.1.length,(↑(axI f.1.1):Int),(↑(axJ f.1.1):Int))
def edP(P:List Pt)(e:PIr):List Pt:=[ptI P e.1,ptI P e.2]
noncomputable def fmT(s:Sd):Nat→List Fm:=jL fun f=>fmF s (s.2.1.getD f zA)
noncomputable def fN(s:Sd):Md:=(fmT s s.2.1.length,(sfE s s.2.1.length).map (edP s.1))
noncomputable def whM(f:Fm)(p:Pt):Int:=whZ f.2.1 (pr p f.2.2.1.toNat f.2.2.2.toNat) f.2.2.1.toNat f.2.2.2.toNat
def onM(md:Md)(p:Pt)(f:Nat):Prop:=(sdZ (md.1.getD f fm0).1 p=0∧0<(md.1.getD f fm0).2.1.length)∧0≤whM (md.1.getD f fm0) p
def onA(md:Md)(p:Pt):Prop:=∃f,f<md.1.length∧onM md p f
noncomputable def onJ(md:Md)(p:Pt):Nat:=if onA md p then mC fun f=>f<md.1.length∧onM md p f else 0
def cnM(f:Fm)(d:Pt):Rat:=wO f.1.1 d
def hnM(f:Fm)(p:Pt):Rat:=f.1.2-wO f.1.1 p
def skM(f:Fm)(p d:Pt):Prop:=xC (cnM f d)*xC (hnM f p)≤0∨f.2.1.length=0
noncomputable def wrM(f:Fm)(p d:Pt):Int:=whM f (aV p d (hnM f p/cnM f d))
def bdM(f:Fm)(p d:Pt):Prop:=¬skM f p d∧wrM f p d=0
noncomputable def crM(md:Md)(p d:Pt):Nat→Int×Int
  |0=>(0,0)
  |n+1=>if skM (md.1.getD n fm0) p d then crM md p d n else if wrM (md.1.getD n fm0) p d=1 then(if 0<cnM (md.1.getD n fm0) d then((crM md p d n).1+1,(crM md p d n).2) else((crM md p d n).1,(crM md p d n).2+1)) else crM md p d n
def nbM(md:Md)(p d:Pt):Prop:=∀f,f<md.1.length→¬bdM (md.1.getD f fm0) p d
def clM(md:Md)(p v:Pt):Prop:=∀q,q<md.2.length→¬lV p ((md.2.getD q ed0).getD 0 zT) ((md.2.getD q ed0).getD 1 zT) v
noncomputable def rY(md:Md)(p:Pt):Nat:=mC fun k=>clM md p (vK k)
def yAT(f:Fm):Prop:=(0≤f.2.2.1∧f.2.2.1<3)∧(0≤f.2.2.2∧f.2.2.2<3)∧f.2.1.length≤1000∧∀x,x∈f.2.1→x.length≤1000
def zO7(md:Md):Prop:=md.1.length≤1000∧md.2.length≤2000000∧∀f,f<md.1.length→yAT (md.1.getD f fm0)
theorem zON{md:Md}{p:Pt}{f:Nat}(hf:f<md.1.length)(h:onM md p f)(hl:∀u,u<f→¬onM md p u):onJ md p=f∧onA md p:=by
 have z:onA md p:=⟨f,hf,h⟩;obtain⟨h1,h2,h3⟩:=iV (q:=fun f=>f<md.1.length∧onM md p f) ⟨hf,h⟩;refine⟨?_,z⟩;unfold onJ;rw[if_pos z]
 rcases Nat.lt_or_ge (mC fun f=>f<md.1.length∧onM md p f) f with h4|h4
 · exact absurd h2.2 (hl _ h4)
 · omega
theorem zRX{md:Md}{p:Pt}(h:∀f,f<md.1.length→¬onM md p f):onJ md p=0∧¬onA md p:=by
 have z:¬onA md p:=fun⟨f,C,e⟩=>h f C e;exact⟨if_neg z,z⟩
theorem zVG{q:Rat}:xC q=0↔q=0:=by
 refine⟨fun e=>?_,cX⟩;rw[rN] at e
 split at e
 · assumption
 · split at e<;>exact absurd e (by decide)
abbrev Ac:=Pt×Pt×Prop
def zDG(x:Ac)(d:Pt):Prop:=if x.2.2 then wH x.2.1 d=zT else wO x.1 d=0
noncomputable def acF(p:Pt)(e:List Pt):Ac:=(wH (qL (e.getD 0 zT) p) (qL (e.getD 1 zT) p),if wH (qL (e.getD 0 zT) p) (qL (e.getD 1 zT) p)=zT then qL (e.getD 1 zT) (e.getD 0 zT) else zT,wH (qL (e.getD 0 zT) p) (qL (e.getD 1 zT) p)=zT)
noncomputable def acT(p:Pt)(E:List (List Pt)):Nat→List Ac:=jL fun q=>acF p (E.getD q ed0)
theorem zWY(a b d:Pt):wO (wH a b) d=zEJ a b d:=by
 unfold zEJ wO wH;grind
theorem zS5(p d:Pt)(e:List Pt):zDG (acF p e) d↔lV p (e.getD 0 zT) (e.getD 1 zT) d:=by
 unfold zDG lV acF
 by_cases h:wH (qL (e.getD 0 zT) p) (qL (e.getD 1 zT) p)=zT
 · simp only[h,if_true]
 · simp only[h,if_false]
   rw[show wO (wH (qL (e.getD 0 zT) p) (qL (e.getD 1 zT) p)) d=zEJ (qL (e.getD 0 zT) p) (qL (e.getD 1 zT) p) d from zWY _ _ _]
noncomputable def crA(md:Md)(p d:Pt):Int:=if nbM md p d then(crM md p d md.1.length).1 else 0
noncomputable def crB(md:Md)(p d:Pt):Int:=if nbM md p d then(crM md p d md.1.length).2 else 0
theorem zAN(md:Md)(p d:Pt):∀n:Nat,(0≤(crM md p d n).1∧(crM md p d n).1≤n)∧(0≤(crM md p d n).2∧(crM md p d n).2≤n)
  |0=>by
   show(0≤(0:Int)∧(0:Int)≤((0:Nat):Int))∧(0≤(0:Int)∧(0:Int)≤((0:Nat):Int))
   omega
  |n+1=>by
   have ih:=zAN md p d n;unfold crM
   split
   · omega
   · split
     · split
       · show(0≤(crM md p d n).1+1∧(crM md p d n).1+1≤_)∧(0≤(crM md p d n).2∧(crM md p d n).2≤_)
         omega
       · show(0≤(crM md p d n).1∧(crM md p d n).1≤_)∧(0≤(crM md p d n).2+1∧(crM md p d n).2+1≤_)
         omega
     · omega
section
variable {md:Md}{p d:Pt}{f:Nat}
theorem zJH(h:skM (md.1.getD f fm0) p d):crM md p d (f+1)=crM md p d f:=if_pos h
theorem zW3(h:¬skM (md.1.getD f fm0) p d)(h1:wrM (md.1.getD f fm0) p d=1)(h2:0<cnM (md.1.getD f fm0) d):crM md p d (f+1)=((crM md p d f).1+1,(crM md p d f).2):=(if_neg h).trans ((if_pos h1).trans (if_pos h2))
theorem yA5(h:¬skM (md.1.getD f fm0) p d)(h1:wrM (md.1.getD f fm0) p d=1)(h2:¬0<cnM (md.1.getD f fm0) d):crM md p d (f+1)=((crM md p d f).1,(crM md p d f).2+1):=(if_neg h).trans ((if_pos h1).trans (if_neg h2))
theorem yA4(h:¬skM (md.1.getD f fm0) p d)(h1:¬wrM (md.1.getD f fm0) p d=1):crM md p d (f+1)=crM md p d f:=(if_neg h).trans (if_neg h1)
theorem zW4(hf:f<md.1.length)(h:bdM (md.1.getD f fm0) p d):crA md p d=0∧crB md p d=0∧¬nbM md p d:=by
 have z:¬nbM md p d:=fun e=>e f hf h;exact⟨if_neg z,if_neg z,z⟩
theorem yA6(h:∀f,f<md.1.length→¬bdM (md.1.getD f fm0) p d):crA md p d=(crM md p d md.1.length).1∧crB md p d=(crM md p d md.1.length).2∧nbM md p d:=⟨if_pos h,if_pos h,h⟩
end
theorem ac_t{p:Pt}{E:List (List Pt)}{q:Nat}{D:List Ac}(hD:D=acT p E q)(h:wH (qL ((E.getD q ed0).getD 0 zT) p) (qL ((E.getD q ed0).getD 1 zT) p)=zT):D++[(wH (qL ((E.getD q ed0).getD 0 zT) p) (qL ((E.getD q ed0).getD 1 zT) p),(qL ((E.getD q ed0).getD 1 zT) ((E.getD q ed0).getD 0 zT),wH (qL ((E.getD q ed0).getD 0 zT) p) (qL ((E.getD q ed0).getD 1 zT) p)=zT))]=acT p E (q+1):=by
 rw[hD]
 show _=acT p E q++[acF p (E.getD q ed0)]
 unfold acF;rw[if_pos h]
theorem ac_f{p:Pt}{E:List (List Pt)}{q:Nat}{D:List Ac}(hD:D=acT p E q)(h:¬wH (qL ((E.getD q ed0).getD 0 zT) p) (qL ((E.getD q ed0).getD 1 zT) p)=zT):D++[(wH (qL ((E.getD q ed0).getD 0 zT) p) (qL ((E.getD q ed0).getD 1 zT) p),(zT,wH (qL ((E.getD q ed0).getD 0 zT) p) (qL ((E.getD q ed0).getD 1 zT) p)=zT))]=acT p E (q+1):=by
 rw[hD]
 show _=acT p E q++[acF p (E.getD q ed0)]
 unfold acF;rw[if_neg h]
abbrev ac0:Ac:=(zT,(zT,False))
theorem zUJ{p v:Pt}{md:Md}{u:Nat}(hu:u<md.2.length):zDG ((acT p md.2 md.2.length).getD u ac0) v↔lV p ((md.2.getD u ed0).getD 0 zT) ((md.2.getD u ed0).getD 1 zT) v:=by
 rw[show(acT p md.2 md.2.length).getD u ac0=acF p (md.2.getD u ed0) from kB _ ac0 hu];exact zS5 p v _
theorem zJE{p:Pt}{md:Md}{D:List Ac}{u kk:Nat}(hD:D=acT p md.2 md.2.length)(hc:clM md p (vK ↑(rY md p)))(hk:kk≤rY md p)(hu:u<D.length)(h:zDG (D.getD u ac0) (vK ↑kk)):kk+1≤rY md p:=by
 have z:D.length=md.2.length:=by rw[hD];exact xL _ _
 rcases Nat.lt_or_ge kk (rY md p) with h1|h1
 · exact h1
 · have e:kk=rY md p:=by omega
   rw[e,hD] at h;exact absurd ((zUJ (by omega)).1 h) (hc u (by omega))
theorem zWW{p:Pt}{md:Md}{D:List Ac}{kk:Nat}(hD:D=acT p md.2 md.2.length)(hk:kk≤rY md p)(h:∀v,v<D.length→¬zDG (D.getD v ac0) (vK ↑kk)):kk=rY md p:=by
 have G:D.length=md.2.length:=by rw[hD];exact xL _ _
 have C:clM md p (vK ↑kk):=fun q z e=>by
  refine h q (by omega) ?_;rw[hD];exact(zUJ z).2 e
 have h1:rY md p≤kk:=(iV (q:=fun k=>clM md p (vK k)) C).1;omega
theorem zFN(md:Md)(p d:Pt):(0≤crA md p d∧crA md p d≤md.1.length)∧(0≤crB md p d∧crB md p d≤md.1.length):=by
 have h:=zAN md p d md.1.length;unfold crA crB
 split
 · exact h
 · omega
noncomputable def wdM(md:Md)(p:Pt):Int:=if onA md p then 0 else crA md p (vK ↑(rY md p))-crB md p (vK ↑(rY md p))
theorem zG2{s:Sd}{f:Nat}(hf:f<s.2.1.length):(fN s).1.getD f fm0=fmF s (s.2.1.getD f zA):=kB _ fm0 hf
theorem zC7(s:Sd):(fN s).1.length=s.2.1.length:=xL _ _
theorem zVD{s:Sd}{f:Nat}(hf:f<s.2.1.length)(hn:nmP s f):uH s f=dP s.1 (s.2.1.getD f zA).2.1 (s.2.1.getD f zA).2.1.length:=by
 unfold uH;rw[if_pos ⟨⟨by omega,by omega⟩,by simpa using hn⟩]
 rfl
theorem zMB{s:Sd}{f:Nat}(hf:f<s.2.1.length)(hn:nmP s f)(p:Pt):whM (fmF s (s.2.1.getD f zA)) p=whF s f p:=by
 rw[zM8,zVD hf hn];unfold whM fmF;simp only[Int.toNat_natCast]
theorem zFC{s:Sd}(h:fX s){f:Nat}(hf:f<s.2.1.length):0<(s.2.1.getD f zA).2.1.length:=(zB4 h hf).1.1.1
theorem zMT{s:Sd}(h:fX s)(p:Pt){f:Nat}(hf:f<s.2.1.length):onM (fN s) p f↔onP s p f:=by
 unfold onM onP;rw[zG2 hf,zMB hf (zB4 h hf).2];have h1:0<(fmF s (s.2.1.getD f zA)).2.1.length:=by
  show 0<(dP _ _ _).length
  rw[show(dP s.1 (s.2.1.getD f zA).2.1 (s.2.1.getD f zA).2.1.length).length=_ from xL _ _];exact zFC h hf
 exact⟨fun e=>⟨e.1.1,e.2⟩,fun e=>⟨⟨e.1,h1⟩,e.2⟩⟩
theorem lQ{s:Sd}(h:fX s)(p:Pt):onA (fN s) p↔onB s p:=by
 unfold onA onB;rw[zC7];exact⟨fun⟨f,z,e⟩=>⟨f,z,(zMT h p z).1 e⟩,fun⟨f,z,e⟩=>⟨f,z,(zMT h p z).2 e⟩⟩
theorem zF2{s:Sd}(h:fX s)(p d:Pt){f:Nat}(hf:f<s.2.1.length):skM (fmF s (s.2.1.getD f zA)) p d↔skP s p d f:=by
 have h1:(fmF s (s.2.1.getD f zA)).2.1.length≠0:=by
  show(dP _ _ _).length≠0
  rw[show(dP s.1 (s.2.1.getD f zA).2.1 (s.2.1.getD f zA).2.1.length).length=_ from xL _ _];have:=zFC h hf;omega
 exact⟨fun e=>e.resolve_right h1,fun e=>.inl e⟩
theorem zL7{s:Sd}(h:fX s)(p d:Pt){f:Nat}(hf:f<s.2.1.length):wrM (fmF s (s.2.1.getD f zA)) p d=whF s f (aV p d (hnF s p f/cnF s d f)):=zMB hf (zB4 h hf).2 _
theorem zNH{s:Sd}(h:fX s)(p d:Pt):∀n,n≤s.2.1.length→crM (fN s) p d n=crP s p d n
  |0,_=>rfl
  |n+1,hn=>by
   unfold crM crP;rw[zG2 (by omega),zNH h p d n (by omega),zL7 h p d (by omega)]
   by_cases e:skP s p d n
   · rw[if_pos e,if_pos ((zF2 h p d (by omega)).2 e)]
   · rw[if_neg e,if_neg fun e'=>e ((zF2 h p d (by omega)).1 e')]
     rfl
theorem zTK(P:List Pt)(S:List PIr){q:Nat}(hq:q<S.length):(S.map (edP P)).getD q ed0=edP P S[q]:=by
 rw[List.getD_eq_getElem?_getD,List.getElem?_map,List.getElem?_eq_getElem hq]
 rfl
theorem zNN{s:Sd}(h:fX s)(p v:Pt):clM (fN s) p v↔zG6 s p v:=by
 rw[zNM (bH h)];unfold clM fN;simp only[List.length_map];constructor
 · intro e x C
   obtain⟨q,z,rfl⟩:=List.mem_iff_getElem.1 C;have:=e q z;rw[zTK _ _ z] at this;exact this
 · intro e q z
   have:=e _ (List.getElem_mem z);rw[zTK _ _ z];exact this
theorem zJF{s:Sd}(h:fX s)(p:Pt):rY (fN s) p=zLU s p:=by
 unfold rY zLU
 congr 1
 funext k
 exact propext (zNN h p _)
theorem zV6{s:Sd}(h:fX s){p d:Pt}(hc:zG6 s p d):nbM (fN s) p d:=by
 intro f z e;rw[zC7] at z;rw[zG2 z] at e;have C:¬skP s p d f:=fun D=>e.1 ((zF2 h p d z).2 D);have h0:=e.2;rw[zL7 h p d z] at h0;exact zSA (zHJ h) z hc C h0
theorem zMC{s:Sd}(h:fX s)(p:Pt):wdM (fN s) p=zHC s p:=by
 unfold wdM zHC;rw[zJF h]
 by_cases ho:onB s p
 · rw[if_pos ho,if_pos ((lQ h p).2 ho)]
 · rw[if_neg ho,if_neg fun e=>ho ((lQ h p).1 e)]
   have z:=zV6 h (zDN (bH h) p).2.1;unfold crA crB;rw[if_pos z,if_pos z,zC7,zNH h _ _ _ (Nat.le_refl _)];exact zNI s p _ _
end Bk
namespace Bk
set_option linter.unusedVariables false
set_option linter.unusedSimpArgs false
open Go Go.RowKit
open Classical
section
variable {α β γ:Type}
variable {P:Program}{n:Nat}{w0:World}{h0:Mem}{e:List (Nat×Value)}{L:List Res}{h:Mem}{Q:Exit→Act→World→Prop}
variable {ds:Option Tmp}{ty:TypeId}{ps:String}{af:Array Edge}{gd:Option (Nat×Bool)}
theorem St.nilown{w:World}(s:St w0 h0 L h w)(E k:Nat):St w0 h0 (.gs E k (.slice none 0 0) 0 []::L) h w:=by
 refine⟨s.below,s.le,s.sub,s.fresh,?_,?_,?_⟩
 · intro r z
   rcases List.mem_cons.1 z with rfl|z
   · exact World.ownsRow_nil w _ E k
   · exact s.ok r z
 · intro r z b C
   rcases List.mem_cons.1 z with rfl|z
   · simp[Res.fp,Value.ownBlock] at C
   · exact s.own r z b C
 · refine List.pairwise_cons.2 ⟨fun r z b C=>?_,s.apart⟩
   simp[Res.fp,Value.ownBlock] at C
theorem xH{c:Code}(E k:Nat)(g:GC P n w0 h0 c Q e (.gs E k (.slice none 0 0) 0 []::L) h):GC P n w0 h0 c Q e L h:=fun a w Ev S=>g a w Ev (S.nilown E k)
theorem zFF{ops:Array Oper}{l:List Oper}(E k:Nat)(g:GL P n w0 h0 ops Q l e (.gs E k (.slice none 0 0) 0 []::L) h):GL P n w0 h0 ops Q l e L h:=fun a w Ev S=>g a w Ev (S.nilown E k)
theorem bC{x:Exit}(E k:Nat)(g:GQ n w0 h0 Q x e (.gs E k (.slice none 0 0) 0 []::L) h):GQ n w0 h0 Q x e L h:=fun a w Ev S=>g a w Ev (S.nilown E k)
theorem zQT{ops:Array Oper}{R:List Res}{o:Oper}{W':List (Nat×Value)→List Res→Mem→Prop}(E k:Nat)(g:jJ P n w0 h0 ops R o e (.gs E k (.slice none 0 0) 0 []::L) h W'):jJ P n w0 h0 ops R o e L h W':=by
 intro X a w M S;refine(g X a w M (S.nilown E k)).mono ?_
 rintro U O ⟨H,L',g,G,D,J,I⟩
 exact⟨H,L',g,G,fun hh q C=>D (fun y z=>List.mem_cons_of_mem _ (hh y z)) q C,J,I⟩
theorem zPA(a:List Value)(m:Nat):(madeCells a.toArray (m*a.length)).toList=(List.replicate m a).flatten:=by
 unfold madeCells;rw[Array.toList_map,Array.toList_range]
 induction m with
 |zero=>simp
 |succ m ih=>
  rw[Nat.succ_mul,Nat.add_comm,List.range_add,List.map_append,List.map_map,List.replicate_succ,List.flatten_cons,←ih]
  congr 1
  · apply List.ext_getElem?
    intro j
    by_cases hj:j<a.length
    · simp[hj,Nat.mod_eq_of_lt hj]
    · simp[hj]
  · apply List.map_congr_left
    intro j _;simp
theorem zMK{ρ:Rp α}{a:List Value}{x:α}(m:Nat)(r:ρ.R h a x):RL ρ h (madeCells a.toArray (m*ρ.n)).toList (List.replicate m x):=by
 rw[←ρ.len r,zPA];exact(zHB (h:=h) m r).2
theorem zE9{t E:TypeId}{i:TypeInfo}{z:Value}{zs:List Value}{x y:Operand}{q q':Int}{by':Nat}{ρ:Rp α}{X:α}(m:Nat)(ht:P.underlying t=some (.slice E))(hi:P.info? E=some i)(hz:i.zero=some z)(hzc:z.cells=zs.toArray)(hsize:i.size=ρ.n)(hby:i.bytes=by')(rz:ρ.R h zs X)
    (hx:zG e x=some (vI q))(hy:zG e y=some (vI q'))(hq:q=(m:Int))(hq':q'=(m:Int))(hb:by'*m≤281474976710656)(hm:m<9223372036854775808):
    aE P n w0 h0 ⟨ds,.makeSlice t x y,ty,ps,af,gd⟩ e L h (fun v r=>∃cs,r=.gs E ρ.n v (List.replicate m X).length cs∧RL ρ h cs (List.replicate m X)):=by
 subst hq;subst hq';subst hby;intro a w G S;obtain⟨H,I,C,D⟩:=run_make_full (P:=P) w w0.heap.size t E i z ρ.n ht hi hz hsize .i64 .i64 m hb (by unfold maxLen;omega) S.below.size;rw[hzc] at C;refine⟨_,H,.gs E ρ.n (.slice (some ⟨w.heap.size,0,none⟩) m m) m (madeCells zs.toArray (m*ρ.n)).toList,?_,D,C,fun b hb=>?_,_,by rw[lR],zMK m rz⟩
 · simp only[execOp,G.eval hx,G.eval hy,vI]
   simp[I]
 · simp only[Res.fp,Value.ownBlock,Option.some.injEq] at hb
   omega
theorem zU{t E:TypeId}{i:TypeInfo}{z:Value}{zs:List Value}{parts:List (Nat×Operand)}{ps':List (Nat×Value)}{m:Nat}{ρ:Rp α}{X:α}{xs:List α}(ht:P.underlying t=some (.slice E))(hi:P.info? E=some i)(hz:i.zero=some z)(hzc:z.cells=zs.toArray)(hsize:i.size=ρ.n)(rz:ρ.R h zs X)
    (hp:mO e parts ps')(hf:zFT (rpA m ρ) h (fun i=>some (i*ρ.n,ρ.n)) (List.replicate m X) ps' xs)(hm:m*ρ.n≤16777216)(hn:0<ρ.n):
    aE P n w0 h0 ⟨ds,.buildSlice t m parts.toArray,ty,ps,af,gd⟩ e L h (fun v r=>∃cs,r=.gs E ρ.n v xs.length cs∧RL ρ h cs xs):=by
 obtain⟨cs,⟨G,I⟩,H⟩:=hf (madeCells zs.toArray (m*ρ.n)).toList ⟨List.length_replicate,zMK m rz⟩;have J:=I.len;rw[G] at J;intro a w Ev S;have O:(parts.toArray.map fun(p:Nat×Operand)=>(p.1,a.eval p.2)).toList=ps':=by
  rw[List.map_toArray];exact hp.eval Ev
 refine⟨.slice (some ⟨w.heap.size,0,none⟩) m m,w.alloc (.cells cs.toArray E),.gs E ρ.n (.slice (some ⟨w.heap.size,0,none⟩) m m) m cs,?_,World.grownBy_alloc w _ none,?_,fun b Z=>?_,cs,by rw[G],I⟩
 · have U:¬(m*ρ.n>16777216):=by omega
   simp only[execOp,Instr.buildSlice];rw[show(parts.toArray.map fun(i,x)=>(i,a.eval x)).toList=ps' from O];have M:(zeroValue E).run P w=.ok z w:=by simp[zeroValue,typeInfo,hi,hz]
   have C:Instr.fill (fun i=>some (i*ρ.n,ρ.n)) (madeCells zs.toArray (m*ρ.n)) ps'=some cs.toArray:=by
    simpa using H
   have D:∀w,(Go.sizeOf E).run P w=.ok ρ.n w:=fun w=>by simp[Go.sizeOf,typeInfo,hi,hsize]
   by_cases h0:m*ρ.n=0
   · rw[h0] at C
     simp only[madeCells,Array.range_zero',Array.map_empty] at C;simp[run_underlying ht,D,newRow,newObj,Sem.run,h0,Array.range_zero',C]
   · unfold madeCells at C
     simp only[List.size_toArray,List.getElem!_toArray,List.getElem!_eq_getElem?_getD] at C;simp[run_underlying ht,D,h0,U,M,hzc,C,newRow,newObj,Sem.run]
 · have:=World.ownsRow_lit (w:=w) (base:=w0.heap.size) (e:=E) (size:=ρ.n) cs.toArray m S.below.size (by unfold maxLen;have:=Nat.le_mul_of_pos_right m hn;omega) (by simpa using J)
   exact this
 · simp only[Res.fp,Value.ownBlock,Option.some.injEq] at Z
   omega
theorem zX{A B:List Res}{t E:TypeId}{i:TypeInfo}{z:Value}{bytes:Nat}{v v':Value}{cs:List Value}{x y:Operand}{ρ:Rp α}{xs ys:List α}(ht:P.underlying t=some (.slice E))(hi:P.info? E=some i)(hz:i.zero=some z)(hsize:i.size=ρ.n)(hby:i.bytes=bytes)
    (hzs:z.cells.size=ρ.n)(hk:0<ρ.n)(hx:zG e x=some v)(hy:zG e y=some v')(r:RL ρ h cs xs)(hv':(rpS ρ).Is h v' ys)(hlen:xs.length+ys.length<9223372036854775808)(hb':(xs.length+ys.length)*bytes≤140737488355328):
    zA8 P n w0 h0 ⟨ds,.call {callee:=.builtin .append,args:=#[x,y],argTypes:=#[t,t]},ty,ps,af,gd⟩ e A (.gs E ρ.n v xs.length cs) B h (fun u r'=>∃cs',r'=.gs E ρ.n u (xs++ys).length cs'∧RL ρ h cs' (xs++ys)):=by
 obtain⟨C,H,r2⟩:=zOO hv';intro a w M S;obtain⟨u,D,r',h1,h2,h3,J,I⟩:=zCD (A:=A) (B:=B) (v:=v) (cs:=cs) (m:=xs.length) (ds:=ds) (ty:=ty) (ps:=ps) (af:=af) (gd:=gd) ht hi hz hsize hby hzs hk hx hy H (fun u G=>List.all_eq_true.1 r2.one u G) hlen hb' a w M S;exact⟨u,D,r',h1,h2,h3,J,cs++C,by rw[I,lAz],r.append r2⟩
theorem zGB{E k m:Nat}{v:Value}{cs:List Value}{w:World}(hm:.gs E k v m cs∈L)(S:St w0 h0 L h w):Sl (mem w) k v m cs:=by
 obtain⟨A,B,rfl⟩:=List.append_of_mem hm;exact z4 S
theorem zZS(k:Nat)(v:Value)(i:Nat):zJ k v i=zJ 1 v (i*k):=by
 unfold zJ;rw[Nat.mul_one]
theorem jU{E k m:Nat}{v:Value}{cs:List Value}{t E':TypeId}{x:Operand}(hm:.gs E k v m cs∈L)(ht:P.underlying t=some (.slice E'))(hx:zG e x=some v):
 OpV P n w0 h0 ⟨ds,.call {callee:=.builtin .len,args:=#[x],argTypes:=#[t]},ty,ps,af,gd⟩ e L h (vI (m:Int)):=
 fun a w Ev S=>lL (L:=L) (h:=h) ht hx (zGB hm S).one a w Ev S
theorem xD{E m k:Nat}{cs:List Value}{v:Value}{t E':TypeId}{x y:Operand}{q:Int}(i:Nat)(hm:.gs E k v m cs∈L)(ht:P.underlying t=some (.slice E'))(hsz:∀w,(Go.sizeOf E').run P w=.ok k w)(hx:zG e x=some v)(hy:zG e y=some (vI q))
    (hq:q=(i:Int))(hi:i<m)(hk:0<k):OpV P n w0 h0 ⟨ds,.indexAddr t x y,ty,ps,af,gd⟩ e L h (zJ 1 v (i*k)):=by
 intro a w C S;have z:St w (mem w) [] (mem w) w:=St.begin (MLe.refl _);rw[←zZS];exact oI (n:=n) (w0:=w) (h0:=mem w) (L:=[]) (h:=mem w) i ht hsz hx hy (zGB hm S) hq hi hk a w C z
theorem zHK{k m o l:Nat}{v:Value}{cs:List Value}{w:World}(s:Sl (mem w) k v m cs)(hl:0<l)(ho:o+l≤cs.length):∃b o',zJ 1 v o=vP b (o'+o)∧v=.slice (some ⟨b,o',none⟩) m (match v with| .slice _ _ c=>c|_=>0)∧w.rangeAt b (o'+o) ((cs.drop o).take l):=by
 obtain⟨a,I,rfl,h1,h2,h3,G⟩:=s;obtain⟨b,o',rfl,_⟩:=G o (by omega);refine⟨b,o',by simp[zJ,qV],rfl,?_⟩;intro j u z;rw[List.getElem?_take] at z
 split at z
 · rw[List.getElem?_drop] at z
   obtain⟨C,_⟩:=List.getElem?_eq_some_iff.1 z;obtain⟨M,J,H,D⟩:=G _ C;simp only[Option.some.injEq,Addr.mk.injEq,and_true] at H;obtain⟨rfl,rfl⟩:=H;rw[z] at D;have:=aB (MLe.refl _) D
   rwa [←Nat.add_assoc] at this
 · cases z
theorem wL{t E:TypeId}{x:Operand}{k off:Nat}{cs:List Value}{v:Value}{ρ:Rp α}{σ:Rp β}{g:List α→β}{s:List α→β→List α}{xs:List α}{Z:β}(T:TyOk P t σ.n σ.agg)(pc:Pc (rpA xs.length ρ) off σ g s)(ho:k=off)(hp:0<σ.n)(hx:zG e x=some (zJ 1 v k))(r:RL ρ h cs xs)(hZ:g xs=Z):
 OpX P n w0 h0 ⟨ds,.load t x,ty,ps,af,gd⟩ e [.gs E ρ.n v xs.length cs] h (fun u=>σ.Is h u Z):=by
 subst hZ;subst ho;have h1:=pc.get (h:=h) ⟨rfl,r⟩;have I:k+σ.n≤xs.length*ρ.n:=pc.fits;have H:=r.len;refine⟨_,fun L' h' _ C a w G S=>?_,_,h1,rfl⟩;obtain⟨b,o',D,_,z⟩:=zHK (zGB (C (.gs E ρ.n v xs.length cs) (.head _)) S) hp (show k+σ.n≤cs.length by omega);rw[D] at hx;have:=y9 (P:=P) (w:=w) T h1 z;simp[execOp,G.eval hx,this]
theorem aW{base E k g cap m:Nat}:∀(vs:List Value) (off:Nat) (cs:List Value) (w:World),w.ownsRow base E k (.slice (some ⟨g,0,none⟩) m cap) m cs→
 (w.setCells g off vs).ownsRow base E k (.slice (some ⟨g,0,none⟩) m cap) m (iA cs off vs)∧w.grownBy (w.setCells g off vs) (some g)
 |[],off,cs,w,hw=>⟨hw,⟨rfl,rfl,rfl,Nat.le_refl _,fun _ _ _=>rfl⟩⟩
 |v::r,off,cs,w,hw=>by
  obtain⟨h1,h2⟩:=hw.stored off v;obtain⟨h3,h4⟩:=aW r (off+1) (cs.set off v) _ h1;have e1:iA cs off (v::r)=iA (cs.set off v) (off+1) r:=by
   unfold iA;rw[List.zipIdx_cons,List.foldl_cons,Nat.add_zero,List.zipIdx_succ,List.foldl_map]
   congr 1
   funext c p
   rw[show off+(p.2+1)=off+1+p.2 by omega]
  refine⟨by rw[World.setCells,e1];exact h3,?_⟩;refine⟨h4.os.trans h2.os,h4.tape.trans h2.tape,h4.output.trans h2.output,Nat.le_trans h2.size h4.size,?_⟩;intro D C z;have H:=h2.block D C z;have G:=h4.block D (Nat.lt_of_lt_of_le C h2.size) z;rw[World.setCells,G,H]
theorem pE{E t:TypeId}{k off:Nat}{cs:List Value}{u v:Value}{x y:Operand}{ρ:Rp α}{σ:Rp β}{g:List α→β}{s:List α→β→List α}{xs Z:List α}{Y:β}(hsz:∀w,(Go.sizeOf t).run P w=.ok σ.n w)(pc:Pc (rpA xs.length ρ) off σ g s)(ho:k=off)(hp:0<σ.n)(hx:zG e x=some (zJ 1 v k))(hy:zG e y=some u)(r:RL ρ h cs xs)(ry:σ.Is h u Y)(hZ:s xs Y=Z):
 ∃cs',RL ρ h cs' Z∧∀A B,Upd P n w0 h0 ⟨ds,.store t x y,ty,ps,af,gd⟩ e A (.gs E ρ.n v xs.length cs) B h (.gs E ρ.n v Z.length cs'):=by
 subst hZ;subst ho;obtain⟨G,H,hv⟩:=ry.cells;have O:=σ.len H;have aa:=r.len;have hf:k+σ.n≤xs.length*ρ.n:=pc.fits;obtain⟨M,J⟩:=pc.set (h:=h) ⟨rfl,r⟩ H;refine⟨iA cs k G,?_,?_⟩
 · rw[zCG _ _ _ (by omega),O]
   exact J
 · intro A B a w Ev S
   rw[M];have D:w.ownsRow w0.heap.size E ρ.n v xs.length cs:=S.ok (.gs E ρ.n v xs.length cs) (by simp);have z:=D;obtain⟨_,hr⟩:=D
   rcases hr with⟨rfl,hm0⟩|⟨b,cap,cur,rfl,hbg,hg,hnc,hcm,hcs,htake⟩
   · rw[hm0] at hf;omega
   · have I:zJ 1 (.slice (some ⟨b,0,none⟩) xs.length cap) k=vP b k:=by simp[zJ,qV]
     rw[I] at hx;obtain⟨h1,h2⟩:=aW G k cs w z;refine⟨w.setCells b k G,?_,h2,h1⟩;have C:=run_storeCells_cells (P:=P) b k G 0 w (fun j hj=>by
      have U:=z.cellAt (k+j) (by omega);rw[List.getElem?_eq_getElem (by omega)] at U;simp[U]) (fun j hj=>by simpa using z.frozenAt (k+j)) (fun u hu=>List.all_eq_true.1 (σ.one H) u hu)
     simp only[Nat.add_zero] at C;simp[execOp,Ev.eval hx,Ev.eval hy,Instr.storeAt,Instr.sureAddr,storeVar,hsz,hv,O,C]
section
variable {A B:List Res}{op:Op}{E k m:Nat}{v:Value}{cs:List Value}{F:Nat→List Value→Prop}
theorem gJ{ops:Array Oper}{rest:List Oper}{m':Nat}{F:List Value→Prop}(hv:∃cs',F cs'∧∀A B,Upd P n w0 h0 ⟨none,op,ty,ps,af,none⟩ e A (.gs E k v m cs) B h (.gs E k v m' cs'))
    (kk:∀cs',F cs'→GL P n w0 h0 ops Q rest e (A++.gs E k v m' cs'::B) h):GL P n w0 h0 ops Q (⟨none,op,ty,ps,af,none⟩::rest) e (A++.gs E k v m cs::B) h:=by
 obtain⟨cs',C,z⟩:=hv;exact xZ (z A B) rfl rfl rfl (kk cs' C)
end
theorem St.freezex{A B:List Res}{E:Nat}{v:Value}{cs:List Value}{ρ:Rp α}{xs:List α}{w:World}(r:RL ρ h cs xs)(S:St w0 h0 (A++.gs E ρ.n v xs.length cs::B) h w):∃h',MLe h h'∧(rpS ρ).Is h' v xs∧St w0 h0 (A++B) h' w:=by
 have z:=S.ok (.gs E ρ.n v xs.length cs) (by simp);have G:=z;obtain⟨I,H⟩:=z
 rcases H with⟨rfl,hm0⟩|⟨g,cap,cur,rfl,hb,hg,hn,hm,hcs,ht⟩
 · have D:xs=[]:=List.eq_nil_of_length_eq_zero hm0
   subst D;exact⟨h,MLe.refl h,mD h,S.drop⟩
 · obtain⟨J,C⟩:=S.freeze (b:=g) (o:=.cells cur E (0,0)) rfl hg
   refine⟨_,C,zWG ⟨_,cap,rfl,hn,hm,I,fun i hi=>⟨g,0,rfl,?_⟩⟩ (r.mono C),J⟩;unfold cell;simp only[if_true,Nat.zero_add];rw[←ht,List.getElem?_take,if_pos (by omega)];simp
section
variable {A B:List Res}{E:Nat}{v:Value}{cs:List Value}{ρ:Rp α}{xs:List α}
theorem zY{ops:Array Oper}{l:List Oper}(r:RL ρ h cs xs)(k:∀h',MLe h h'→(rpS ρ).Is h' v xs→GL P n w0 h0 ops Q l e (A++B) h'):GL P n w0 h0 ops Q l e (A++.gs E ρ.n v xs.length cs::B) h:=by
 intro a w G S;obtain⟨h',z,C,D⟩:=S.freezex r;exact k h' z C a w G D
theorem zLS{c:Code}(r:RL ρ h cs xs)(k:∀h',MLe h h'→(rpS ρ).Is h' v xs→GC P n w0 h0 c Q e (A++B) h'):GC P n w0 h0 c Q e (A++.gs E ρ.n v xs.length cs::B) h:=by
 intro a w G S;obtain⟨h',z,C,D⟩:=S.freezex r;exact k h' z C a w G D
theorem vJ{x:Exit}(r:RL ρ h cs xs)(k:∀h',MLe h h'→(rpS ρ).Is h' v xs→GQ n w0 h0 Q x e (A++B) h'):GQ n w0 h0 Q x e (A++.gs E ρ.n v xs.length cs::B) h:=by
 intro a w G S;obtain⟨h',z,C,D⟩:=S.freezex r;exact k h' z C a w G D
theorem vC{o:Oper}{ops:Array Oper}{R:List Res}{W':List (Nat×Value)→List Res→Mem→Prop}(r:RL ρ h cs xs)(hR:∀q∈R,q∈A++.gs E ρ.n v xs.length cs::B→q∈A++B)
    (k:∀h',MLe h h'→(rpS ρ).Is h' v xs→jJ P n w0 h0 ops R o e (A++B) h' W'):jJ P n w0 h0 ops R o e (A++.gs E ρ.n v xs.length cs::B) h W':=by
 intro X a w Ev S;have Z:St w0 h0 (A++.gs E ρ.n v xs.length cs::(B++X)) h w:=by simpa using S
 obtain⟨h',z,D,S'⟩:=Z.freezex r;have U:St w0 h0 ((A++B)++X) h' w:=by simpa using S'
 refine(k h' z D X a w Ev U).mono ?_
 rintro v' w' ⟨J,L',g,I,H,O,M⟩
 exact⟨J,L',g,z.trans I,fun hh q G=>H (fun y C=>hR y C (hh y C)) q G,O,M⟩
end
end
end Bk
namespace Bk
set_option linter.unusedVariables false
set_option linter.unusedSimpArgs false
open Go Go.RowKit
def yDW(w0:World)(h0:Mem)(h:Mem)(L:List Res)(G:Mem→Value→Res→Res→Prop):Ending→World→Prop:=
 tK w0 h0 (fun g v K=>∃q' o,(o::q'::L).Sublist K∧MLe h g∧G g v q' o)
section
variable {P:Program}{n:Nat}{w0:World}{h0:Mem}{e:List (Nat×Value)}{L:List Res}{h:Mem}{Q:Exit→Act→World→Prop}
variable {ty:TypeId}{ps:String}{af:Array Edge}
end
end Bk
namespace Bk
set_option linter.unusedVariables false
set_option linter.unusedSimpArgs false
open Go Go.RowKit
open Classical
section
variable {P:Program}{n:Nat}{w0:World}{h0:Mem}{e:List (Nat×Value)}{L:List Res}{h:Mem}{Q:Exit→Act→World→Prop}
variable {ds:Option Tmp}{ty:TypeId}{ps:String}{af:Array Edge}{gd:Option (Nat×Bool)}
abbrev gZ(u:Int×Int):Value:=.agg #[vI u.1,vI u.2]
def aF(es:Array MapEntry)(S:List (Int×Int)):Prop:=es.toList.map (fun x=>(x.key,x.val))=S.map fun u=>(gZ u,Value.bool true)
theorem map_nil:aF #[] []:=rfl
theorem zIR{t:TypeId}:aE P n w0 h0 ⟨ds,.makeMap t none,ty,ps,af,gd⟩ e L h (fun u r=>∃b,u=.map (some b)∧r=.blk b (.map #[] 0)):=by
 intro a w C S;refine⟨_,w.alloc (.map #[] 0),.blk w.heap.size (.map #[] 0),?_,World.grownBy_alloc w _ none,zAI w _,fun b z=>?_,_,rfl,rfl⟩
 · simp[execOp,Instr.makeMap,newObj,Sem.run]
 · simp only[Res.fp,Option.some.injEq] at z
   omega
structure MapTy(P:Program)(mt kt et it:TypeId):Prop where
 m:P.underlying mt=some (.map kt et)
 k:P.underlying kt=some (.array 2 it)
 i:P.underlying it=some (.int .i64)
 sz:∀w,(Go.sizeOf it).run P w=.ok 1 w
 ag:∀w,(isAgg it).run P w=.ok false w
 z:∀w,(zeroValue et).run P w=.ok (.bool false) w
variable {mt kt et it:TypeId}
theorem zQV(T:MapTy P mt kt et it)(x y:Int)(w:World):(part it #[vI x,vI y] 0).run P w=.ok (vI x) w:=by simp[part,Sem.run_bind,T.ag]
theorem zQU(T:MapTy P mt kt et it)(x y:Int)(w:World):(part it #[vI x,vI y] 1).run P w=.ok (vI y) w:=by simp[part,Sem.run_bind,T.ag]
theorem nN{w:World}{r:Nat}{es:Array MapEntry}{clock:Nat}(hb:w.heap[r]?=some (.map es clock)):(getObj r).run P w=.ok (.map es clock) w:=by
 simp[getObj,Sem.run,hb]
theorem zKA{w:World}{r:Nat}{es:Array MapEntry}{clock:Nat}(o:Obj)(hb:w.heap[r]?=some (.map es clock)):(setObj r o).run P w=.ok () {w with heap:=w.heap.setIfInBounds r o}:=by
 simp[setObj,Sem.run,hb]
theorem zN8(T:MapTy P mt kt et it)(u v:Int×Int)(w:World):(Op.equal kt (gZ u) (gZ v)).run P w=.ok (decide (u=v)) w:=by
 have G:∀(d:Nat) (x y:Int),(Op.equalIn (d+1) it (vI x) (vI y)).run P w=.ok (x==y) w:=fun d x y=>by
  unfold Op.equalIn;simp[Sem.run_bind,run_underlying T.i,vI]
 show(Op.equalIn 10000 kt (gZ u) (gZ v)).run P w=_
 rw[show(10000:Nat)=9999+1 from rfl,Op.equalIn];simp only[Sem.run_bind,run_underlying T.k,Result.andThen_ok,T.sz];simp only[Std.Legacy.Range.forIn_eq_forIn_range',Std.Legacy.Range.size,Nat.sub_zero,Nat.add_sub_cancel,Nat.div_one,List.range'_succ,List.range'_zero,List.forIn_cons,List.forIn_nil,Nat.zero_mul,Nat.mul_one,Nat.zero_add];have D:∀(x y:Int),(Op.equalIn 9999 it (vI x) (vI y)).run P w=.ok (x==y) w:=fun x y=>G 9998 x y;obtain⟨C,z⟩:=u;obtain⟨v1,v2⟩:=v
 by_cases h1:C=v1<;>by_cases h2:z=v2<;>simp[Sem.run_bind,zQV T,zQU T,D,h1,h2]
theorem eG(T:MapTy P mt kt et it)(em:Bool)(u:Int×Int)(w:World):(Instr.checkKey em 10000 kt (gZ u)).run P w=.ok () w:=by
 have z:∀(x:Int),(Instr.checkKey em 9999 it (vI x)).run P w=.ok () w:=fun x=>by
  rw[show(9999:Nat)=9998+1 from rfl];unfold Instr.checkKey;simp[Sem.run_bind,run_underlying T.i,vI]
 rw[show(10000:Nat)=9999+1 from rfl,Instr.checkKey];simp only[Sem.run_bind,run_underlying T.k,Result.andThen_ok];simp only[Std.Legacy.Range.forIn_eq_forIn_range',Std.Legacy.Range.size,Nat.sub_zero,Nat.add_sub_cancel,Nat.div_one,List.range'_succ,List.range'_zero,List.forIn_cons,List.forIn_nil,Nat.zero_mul,Nat.mul_one,Nat.zero_add];simp[Sem.run_bind,T.sz,zQV T,zQU T,z]
theorem zB8(T:MapTy P mt kt et it)(u:Int×Int)(w:World):∀(es:List MapEntry) (S:List (Int×Int)) (i:Nat),es.map (fun x=>(x.key,x.val))=S.map (fun u=>(gZ u,Value.bool true))→
 (u∈S→∃j,(Instr.findAsking kt (gZ u) es i).run P w=.ok (some (j,.bool true)) w)∧(u ∉ S→(Instr.findAsking kt (gZ u) es i).run P w=.ok none w)
 |[],S,i,hm=>by
  have:S=[]:=by simpa using hm.symm
  subst this;exact⟨fun h=>absurd h List.not_mem_nil,fun _=>by simp[Instr.findAsking]⟩
 |x::es,S,i,hm=>by
  match S,hm with
  |v::S,hm=>
   simp only[List.map_cons,List.cons.injEq,Prod.mk.injEq] at hm;obtain⟨⟨H,G⟩,hm⟩:=hm;have D:=zB8 T u w es S (i+1) hm;have C:=zN8 T u v w;unfold Instr.findAsking;rw[H]
   by_cases huv:u=v
   · refine⟨fun _=>⟨i,?_⟩,fun h=>absurd (huv▸List.mem_cons_self) h⟩
     subst huv;have z:decide (u=u)=true:=by simp
     simp only[Sem.run_bind,C,z,Result.andThen_ok];simp[G]
   · have z:decide (u=v)=false:=by simpa using huv
     refine⟨fun h=>?_,fun h=>?_⟩
     · obtain⟨j,I⟩:=D.1 ((List.mem_cons.1 h).resolve_left huv)
       refine⟨j,?_⟩;simp only[Sem.run_bind,C,z,Result.andThen_ok]
       simpa using I
     · simp only[Sem.run_bind,C,z,Result.andThen_ok]
       simpa using D.2 fun e=>h (List.mem_cons_of_mem _ e)
theorem zHW(T:MapTy P mt kt et it)(u:Int×Int)(w:World){es:Array MapEntry}{S:List (Int×Int)}(hm:aF es S):
 (u∈S→∃j,(Instr.findKey kt (gZ u) es.toList).run P w=.ok (some (j,.bool true)) w)∧(u ∉ S→(Instr.findKey kt (gZ u) es.toList).run P w=.ok none w):=by
 have z:=zB8 T u w es.toList S 0 hm;unfold Instr.findKey;simp only[Sem.run_bind,run_underlying T.k,Result.andThen_ok]
 cases hl:es.toList with
 |nil=>
  rw[hl] at z;refine⟨fun h=>?_,fun _=>?_⟩
  · unfold aF at hm
    rw[hl] at hm;have:S=[]:=by simpa using hm.symm
    subst this;exact absurd h List.not_mem_nil
  · simp[Instr.findNow]
 |cons x r=>
  rw[hl] at z;have C:∃v,x.key=gZ v:=by
   unfold aF at hm;rw[hl] at hm
   match S,hm with
   |v::S,hm=>
    simp only[List.map_cons,List.cons.injEq,Prod.mk.injEq] at hm;exact⟨v,hm.1.1⟩
  obtain⟨v,D⟩:=C;have G:Instr.findNow (.array 2 it) (gZ u) (x::r) 0=none:=by
   unfold Instr.findNow;rw[D];simp[Instr.sameNow]
  rw[G];exact z
theorem zCM{x y:Operand}{b clock:Nat}{es:Array MapEntry}{S:List (Int×Int)}{u:Int×Int}(T:MapTy P mt kt et it)(hm:.blk b (.map es clock)∈L)(hx:zG e x=some (.map (some b)))(hy:zG e y=some (gZ u))(r:aF es S):
 OpV P n w0 h0 ⟨ds,.lookup mt x y false,ty,ps,af,gd⟩ e L h (vB (u∈S)):=by
 intro a w G St;have C:w.heap[b]?=some (.map es clock):=St.ok _ hm;have D:=zHW T u w r;simp only[execOp,G.eval hx,G.eval hy,Instr.lookup];simp only[Sem.run_bind,run_underlying T.m,Result.andThen_ok,nN C,eG T]
 by_cases hu:u∈S
 · obtain⟨j,H⟩:=D.1 hu
   rw[xE hu];simp[Sem.run_bind,H,nN C,eG T]
 · rw[yJ hu]
   simp[Sem.run_bind,D.2 hu,nN C,eG T,T.z]
theorem zUO{A B:List Res}{x y z:Operand}{b clock:Nat}{es:Array MapEntry}{S:List (Int×Int)}{u:Int×Int}(T:MapTy P mt kt et it)(hx:zG e x=some (.map (some b)))(hy:zG e y=some (gZ u))(hz:zG e z=some (.bool true))(r:aF es S)(hu:u ∉ S):
 ∃es',aF es' (S++[u])∧Upd P n w0 h0 ⟨ds,.mapUpdate mt x y z,ty,ps,af,gd⟩ e A (.blk b (.map es clock)) B h (.blk b (.map es' (clock+1))):=by
 refine⟨es.push {key:=gZ u,val:=.bool true,born:=clock},?_,?_⟩
 · unfold aF at *
   simp[r]
 · intro a w I St
   have H:w.heap[b]?=some (.map es clock):=St.ok (.blk b (.map es clock)) (by simp);have J:=(zHW T u w r).2 hu;refine⟨{w with heap:=w.heap.setIfInBounds b (.map (es.push {key:=gZ u,val:=.bool true,born:=clock}) (clock+1))},?_,?_,?_⟩
   · simp only[execOp,I.eval hx,I.eval hy,I.eval hz,Instr.mapUpdate]
     simp[Sem.run_bind,run_underlying T.m,nN H,eG T,J,zKA _ H]
   · refine⟨rfl,rfl,rfl,by simp,fun O M C=>?_⟩
     have G:O≠b:=fun e=>C (by simp[Res.fp,e]);simp[Ne.symm G]
   · have D:b<w.heap.size:=(Array.getElem?_eq_some_iff.1 H).1
     show(w.heap.setIfInBounds b _)[b]?=_
     simp[D]
theorem evk{x:Operand}{v w:Value}(h:zG e x=some v)(q:v=w):zG e x=some w:=q▸h
theorem zP0{E:TypeId}{i:TypeInfo}{z:Value}(hi:P.info? E=some i)(hz:i.zero=some z)(w:World):(zeroValue E).run P w=.ok z w:=by simp[zeroValue,typeInfo,hi,hz]
theorem zSU{h:Mem}{v:Value}{x y:Int}(r:(rpA 2 rpI).Is h v [x,y]):v=gZ (x,y):=by
 obtain⟨cs,⟨_,a,b,rfl,⟨rfl,_⟩,c,d,rfl,⟨rfl,_⟩,e⟩,rfl⟩:=r;rw[show d=[] from e]
 rfl
theorem zPI{ops:Array Oper}{rest:List Oper}{A B:List Res}{x y z:Operand}{b clock:Nat}{es:Array MapEntry}{S:List (Int×Int)}{u:Int×Int}(T:MapTy P mt kt et it)(hx:zG e x=some (.map (some b)))(hy:zG e y=some (gZ u))(hz:zG e z=some (.bool true))(r:aF es S)(hu:u ∉ S)
    (k:∀es',aF es' (S++[u])→GL P n w0 h0 ops Q rest e (A++.blk b (.map es' (clock+1))::B) h):GL P n w0 h0 ops Q (⟨none,.mapUpdate mt x y z,ty,ps,af,none⟩::rest) e (A++.blk b (.map es clock)::B) h:=by
 obtain⟨es',C,hu⟩:=zUO (P:=P) (n:=n) (w0:=w0) (h0:=h0) (h:=h) (ds:=none) (ty:=ty) (ps:=ps) (af:=af) (gd:=none) (A:=A) (B:=B) (clock:=clock) T hx hy hz r hu;exact xZ hu rfl rfl rfl (k es' C)
end
end Bk
namespace Bk
set_option linter.unusedVariables false
set_option linter.unusedSimpArgs false
open Go Go.RowKit
def zXD(w0:World)(h0:Mem)(h:Mem)(X:List Res)(G:Mem→Value→List Res→Prop):Ending→World→Prop:=
 tK w0 h0 (fun g v K=>∃Qs',(Qs'++X).Sublist K∧MLe h g∧G g v Qs')
section
variable {P:Program}{n:Nat}{w0:World}{h0:Mem}{e:List (Nat×Value)}{L:List Res}{h:Mem}{Q:Exit→Act→World→Prop}
variable {ty:TypeId}{ps:String}{af:Array Edge}
theorem zGZ{ops:Array Oper}{l:List Oper}{A B:List Res}{r:Res}(k':GL P n w0 h0 ops Q l e (A++r::B) h):GL P n w0 h0 ops Q l e (r::(A++B)) h:=
 fun a w E S=>k' a w E (S.perm List.perm_middle.symm)
theorem zGY{ops:Array Oper}{rest:List Oper}{d f:Nat}{xs:List Operand}{ts:Array TypeId}{vs:List Value}{Qs X:List Res}{G:Mem→Value→List Res→Prop}(hp:L.Perm (Qs++X))(hcall:∀args w,(callFunc f args).run P w=.ok (.enter f args) w)(hvs:pC e xs vs)
    (hc:∀w,St w0 h0 (Qs++X) h w→Calls P f vs.toArray w (zXD w0 h0 h X G))(hn:Nat.ble (d+1) n=true)(k:∀v g Qs',MLe h g→G g v Qs'→GL P n w0 h0 ops Q rest ((d,v)::e) (Qs'++X) g):
    GL P n w0 h0 ops Q (⟨some d,.call {callee:=.value (.func f),args:=xs.toArray,argTypes:=ts},ty,ps,af,none⟩::rest) e L h:=by
 intro a w C S;refine aP rfl rfl rfl hn hcall hvs hc ?_ a w C (S.perm hp)
 rintro v g K ⟨Qs',D,z,H⟩
 have:=k v g Qs' z H;exact fun a w C S=>this a w C (S.sublist D)
end
section
variable {α β:Type}{h:Mem}
theorem vr_1{π:Rp α}{ρ:Rp β}{cs:List Value}{p:α}{v:Value}{xs:List β}(r:(rpP π rpV).R h cs (p,v))(k:(rpS ρ).Is h v xs):(rpP π (rpS ρ)).R h cs (p,xs):=by
 obtain⟨a,b,e,C,z,_⟩:=r;exact⟨a,b,e,C,by rw[show b=[v] from z];exact zJ7 k⟩
end
end Bk
namespace Bk
set_option linter.unusedVariables false
set_option linter.unusedSimpArgs false
open Classical
section
variable {P:List Pt}{x:List Int}{S T:List PIr}{u:Nat}
theorem zFZ(P:List Pt)(x:List Int)(S:List PIr):∀n,(sxE P x S n).length≤S.length+n
  |0=>by show S.length≤_;omega
  |n+1=>by
   have ih:=zFZ P x S n;unfold sxE
   split
   · omega
   · rw[lAz]
     show _+1≤_
     omega
theorem zF1{L:List (List Int)}{b:Nat}(hb:∀l,l<L.length→(L.getD l []).length≤b)(P:List Pt)(S:List PIr):∀n,n≤L.length→(slE P L S n).length≤S.length+n*b
  |0,_=>by show S.length≤_;omega
  |n+1,hn=>by
   have ih:=zF1 hb P S n (by omega);have h1:=zFZ P (L.getD n []) (slE P L S n) (L.getD n []).length;have h2:=hb n (by omega);have h3:(n+1)*b=n*b+b:=Nat.succ_mul n b
   show(sxE P (L.getD n []) (slE P L S n) (L.getD n []).length).length≤_
   omega
theorem zF5{s:Sd}(h:okS s):∀n,n≤s.2.1.length→(sfE s n).length≤n*1024
  |0,_=>by show([]:List PIr).length≤_;simp
  |n+1,hn=>by
   have ih:=zF5 h n (by omega);have h0:=h.2.1 n (by omega);have h1:=zF1 h0.2 s.1 (sfE s n) (s.2.1.getD n zA).2.1.length (Nat.le_refl _);have h2:(s.2.1.getD n zA).2.1.length*64≤16*64:=Nat.mul_le_mul_right _ h0.1
   show(slE s.1 (s.2.1.getD n zA).2.1 (sfE s n) (s.2.1.getD n zA).2.1.length).length≤_
   omega
theorem zYU(hT:T=sxE P x S u)(h1:¬(min (x.getD u 0) (x.getD ((u+1)%x.length) 0),max (x.getD u 0) (x.getD ((u+1)%x.length) 0))∈T)(h2:¬P.getD (x.getD u 0).toNat zT=P.getD (x.getD ((u+1)%x.length) 0).toNat zT):T++[(min (x.getD u 0) (x.getD ((u+1)%x.length) 0),max (x.getD u 0) (x.getD ((u+1)%x.length) 0))]=sxE P x S (u+1):=by
 rw[hT] at h1 ⊢;exact(if_neg fun e=>e.elim h1 h2).symm
theorem zU0(hT:T=sxE P x S u)(h1:¬¬(min (x.getD u 0) (x.getD ((u+1)%x.length) 0),max (x.getD u 0) (x.getD ((u+1)%x.length) 0))∈T):T=sxE P x S (u+1):=by
 rw[hT] at h1 ⊢;exact(if_pos (.inl (Classical.not_not.1 h1))).symm
theorem zUZ(hT:T=sxE P x S u)(h2:¬¬P.getD (x.getD u 0).toNat zT=P.getD (x.getD ((u+1)%x.length) 0).toNat zT):T=sxE P x S (u+1):=by
 rw[hT];exact(if_pos (.inr (Classical.not_not.1 h2))).symm
theorem yA3{E:List (List Pt)}{a b:Int}(hE:E=T.map (edP P)):E++[[P.getD (min a b).toNat zT,P.getD (max a b).toNat zT]]=(T++[(min a b,max a b)]).map (edP P):=by
 rw[hE,List.map_append]
 rfl
end
theorem zSK{α:Type}(d:α){l:List α}{x:α}(h:x∈l):∃i,i<l.length∧x=l.getD i d:=by
 obtain⟨i,hi,e⟩:=List.mem_iff_getElem.1 h;refine⟨i,hi,?_⟩;rw[←e,List.getD_eq_getElem?_getD,List.getElem?_eq_getElem hi]
 rfl
theorem yC1{s:Sd}(h:okS s):zO7 (fN s):=by
 refine⟨by rw[zC7];exact h.1.1.2,?_,fun f D=>?_⟩
 · show((sfE s s.2.1.length).map (edP s.1)).length≤_
   rw[List.length_map];have h1:=zF5 h s.2.1.length (Nat.le_refl _);have h2:=h.1.1.2;omega
 · rw[zC7] at D
   rw[zG2 D];have h0:=h.2.1 f D;have G:(dP s.1 (s.2.1.getD f zA).2.1 (s.2.1.getD f zA).2.1.length).length=(s.2.1.getD f zA).2.1.length:=xL _ _;refine⟨?_,?_,by show(dP _ _ _).length≤_;rw[G];omega,fun x C=>?_⟩
   · have:=zDY (s.2.1.getD f zA).1.1
     show 0≤((axI (s.2.1.getD f zA).1.1:Nat):Int)∧((axI (s.2.1.getD f zA).1.1:Nat):Int)<3
     omega
   · have:=zDY (s.2.1.getD f zA).1.1
     show 0≤((axJ (s.2.1.getD f zA).1.1:Nat):Int)∧((axJ (s.2.1.getD f zA).1.1:Nat):Int)<3
     omega
   · have C:x∈dP s.1 (s.2.1.getD f zA).2.1 (s.2.1.getD f zA).2.1.length:=C
     obtain⟨l,H,rfl⟩:=zSK [] C;have z:l<(s.2.1.getD f zA).2.1.length:=by rw[←G];exact H
     rw[show(dP s.1 (s.2.1.getD f zA).2.1 (s.2.1.getD f zA).2.1.length).getD l []=zF7 s.1 ((s.2.1.getD f zA).2.1.getD l []) ((s.2.1.getD f zA).2.1.getD l []).length from kB _ _ z,show(zF7 s.1 ((s.2.1.getD f zA).2.1.getD l []) ((s.2.1.getD f zA).2.1.getD l []).length).length=_ from xL _ _];have:=h0.2 l z;omega
theorem zZ4{s:Sd}(h:fX s)(p:Pt):rY (fN s) p≤3*(fN s).2.length+1∧clM (fN s) p (vK ↑(rY (fN s) p)):=by
 obtain⟨h1,h2,_⟩:=zDN (bH h) p;rw[zJF h];refine⟨?_,(zNN h p _).2 h2⟩;have:(fN s).2.length=(sfE s s.2.1.length).length:=List.length_map _;omega
noncomputable def inM(md:Md)(p:Pt):Int:=if onA md p then 0 else if 0<wdM md p then 1 else -1
theorem zZD(a b:Rat):-1≤xC a*xC b∧xC a*xC b≤1:=by
 have h1:=yY a;have h2:=yY b;have g:∀x y:Int,-1≤x∧x≤1→-1≤y∧y≤1→-1≤x*y∧x*y≤1:=fun x y C z=>by
  have:x= -1∨x=0∨x=1:=by omega
  rcases this with rfl|rfl|rfl<;>omega
 exact g _ _ h1 h2
theorem zMJ{q:Rat}:0<xC q↔0<q:=by
 rw[rN]
 split
 · next h=>subst h;exact⟨fun e=>absurd e (by decide),fun e=>absurd e (by decide)⟩
 · next h=>
   split
   · next h2=>exact⟨fun e=>absurd e (by decide),fun e=>by grind⟩
   · next h2=>exact⟨fun e=>by grind,fun e=>by decide⟩
theorem zL8{f:Fm}{p d:Pt}(h:¬skM f p d):whM f (T3.mk (p.x+(if wO f.1.1 d=0 then 0 else(f.1.2-wO f.1.1 p)/wO f.1.1 d)*d.x) (p.y+(if wO f.1.1 d=0 then 0 else(f.1.2-wO f.1.1 p)/wO f.1.1 d)*d.y) (p.z+(if wO f.1.1 d=0 then 0 else(f.1.2-wO f.1.1 p)/wO f.1.1 d)*d.z))=wrM f p d:=by
 have C:¬wO f.1.1 d=0:=fun e=>h (.inl (by
  unfold cnM;rw[e,show xC 0=0 from if_pos rfl];omega))
 rw[if_neg C]
 rfl
end Bk
namespace Bk
set_option linter.unusedVariables false
set_option linter.unusedSimpArgs false
open Go Go.RowKit
open Classical
theorem zB9{α:Type}{ρ σ:Rp α}(P:α→Prop)(hn:ρ.n=σ.n)(k:∀{h cs x},ρ.R h cs x→P x→σ.R h cs x){h:Mem}{cs:List Value}{xs:List α}(r:(rpS ρ).R h cs xs)(hp:∀x,x∈xs→P x):(rpS σ).R h cs xs:=by
 obtain⟨v,ds,e,s,rl⟩:=r;refine⟨v,ds,e,hn▸s,?_⟩
 clear s e
 induction xs generalizing ds with
 |nil=>exact rl
 |cons x xs ih=>
  obtain⟨a,b,e,ra,rb⟩:=rl;exact⟨a,b,e,k ra (hp x (.head _)),ih (fun y hy=>hp y (.tail _ hy)) b rb⟩
def sh3(k:Nat)(p:T3 Rat):Prop:=lq p.x≤k∧lq p.y≤k∧lq p.z≤k
end Bk
namespace Bk
set_option linter.unusedVariables false
set_option linter.unusedSimpArgs false
open Classical
theorem zWI{s:Sd}(h:fX s)(p:Pt):inM (fN s) p=inZ s p:=by
 unfold inM inZ;rw[zMC h]
 by_cases ho:onB s p
 · rw[if_pos ho,if_pos ((lQ h p).2 ho)]
 · rw[if_neg ho,if_neg fun e=>ho ((lQ h p).1 e)]
def smS(k m n j:Nat)(s:Sd):Prop:=(∀p,p∈s.1→lqP k p)∧(∀f,f∈s.2.1→lqP m f.1.1∧lq f.1.2≤n)∧∀e,e∈s.2.2→lq e.2.2≤j
section
variable {h:Mem}{cs:List Go.Value}
theorem zTH{M N m n:Nat}{f:Fc}(r:(rpP (rpP (rpT (rpQ M)) (rpQ N)) (rpP (rpS (rpS rpI)) kF)).R h cs f)(hp:lqP m f.1.1∧lq f.1.2≤n):(rpP (rpP (rpT (rpQ m)) (rpQ n)) (rpP (rpS (rpS rpI)) kF)).R h cs f:=by
 obtain⟨a,b,e,⟨G,D,C,r1,r2⟩,z⟩:=r;exact⟨a,b,e,⟨G,D,C,yCN r1 rfl hp.1,yCO r2 rfl hp.2⟩,z⟩
theorem zTJ{J j:Nat}{x:En}(r:(rpP rpI (rpP rpI (rpQ J))).R h cs x)(hp:lq x.2.2≤j):(rpP rpI (rpP rpI (rpQ j))).R h cs x:=by
 obtain⟨a,b,e,D,c,d,G,C,z⟩:=r;exact⟨a,b,e,D,c,d,G,C,yCO z rfl hp⟩
theorem zHR{K M N J k m n j:Nat}{s:Sd}(r:(rpP (rpS (rpT (rpQ K))) (rpP (rpS (rpP (rpP (rpT (rpQ M)) (rpQ N)) (rpP (rpS (rpS rpI)) kF))) (rpS (rpP rpI (rpP rpI (rpQ J)))))).R h cs s)(hp:smS k m n j s):
 (rpP (rpS (rpT (rpQ k))) (rpP (rpS (rpP (rpP (rpT (rpQ m)) (rpQ n)) (rpP (rpS (rpS rpI)) kF))) (rpS (rpP rpI (rpP rpI (rpQ j)))))).R h cs s:=by
 obtain⟨a,b,e,D,c,d,G,C,z⟩:=r;exact⟨a,b,e,zB9 (ρ:=rpT (rpQ K)) (σ:=rpT (rpQ k)) (lqP k) rfl (fun r hp=>yCN r rfl hp) D hp.1,c,d,G,
  zB9 (ρ:=rpP (rpP (rpT (rpQ M)) (rpQ N)) (rpP (rpS (rpS rpI)) kF)) (σ:=rpP (rpP (rpT (rpQ m)) (rpQ n)) (rpP (rpS (rpS rpI)) kF)) (fun f=>lqP m f.1.1∧lq f.1.2≤n) rfl zTH C hp.2.1,
  zB9 (ρ:=rpP rpI (rpP rpI (rpQ J))) (σ:=rpP rpI (rpP rpI (rpQ j))) (fun x=>lq x.2.2≤j) rfl zTJ z hp.2.2⟩
end
theorem zSW{k:Nat}{h:Mem}{v:Go.Value}{p:Pt}(r:(rpT (rpQ k)).Is h v p):lqP k p:=by
 obtain⟨cs,⟨x,_,rfl,⟨_,G⟩,y,z,rfl,⟨_,D⟩,⟨_,C⟩⟩,_⟩:=r;exact⟨G,D,C⟩
section
variable {a b:Pt}
theorem zSR{k:Nat}{p:Pt}(h:lqP k p)(i:Nat):lq (p.at i)≤k:=by
 match i with
 |0=>exact h.1
 |1=>exact h.2.1
 |_+2=>exact h.2.2
theorem yCA{k:Nat}(hk:2≤k)(ha:lqP k a)(hb:lqP k b):smS k 2 (k+2) 0 (bxS a b):=by
 have h1:lq (1:Rat)≤2:=cO 1 (by decide) (by decide);have h2:lq (-1:Rat)≤2:=cO (-1) (by decide) (by decide);have h0:=y8;refine⟨fun p D=>?_,fun f z=>?_,fun e I=>by cases I⟩
 · obtain⟨u,_,rfl⟩:=List.mem_map.1 D
   obtain⟨H,G,u3⟩:=u;have g:∀(x:Bool) (p q:Rat),lq p≤k→lq q≤k→lq (if x then q else p)≤k:=fun x p q D J=>by split<;>assumption
   exact⟨g H _ _ ha.1 hb.1,g G _ _ ha.2.1 hb.2.1,g u3 _ _ ha.2.2 hb.2.2⟩
 · have z:f∈fB3 a b:=z
   obtain⟨i,hi,rfl⟩:=zSK zA z;have e:=(eR (a:=a) (b:=b) (f:=i) hi).2;rw[e];generalize kD i=d;obtain⟨d,x⟩:=d;constructor
   · have g:∀c:Rat,lq c≤2→lqP 2 ((zT).set d c):=fun c C=>by
      match d with
      |0=>exact⟨C,by show lq 0≤2;omega,by show lq 0≤2;omega⟩
      |1=>exact⟨by show lq 0≤2;omega,C,by show lq 0≤2;omega⟩
      |_+2=>exact⟨by show lq 0≤2;omega,by show lq 0≤2;omega,C⟩
     refine g _ ?_
     split<;>assumption
   · have h3:=zC9 (if x then 1 else -1) (if x then b.at d else a.at d)
     have O:lq (if x then 1 else -1:Rat)≤2:=by split<;>assumption
     have M:lq (if x then b.at d else a.at d)≤k:=by
      split
      · exact zSR hb d
      · exact zSR ha d
     show lq ((if x then 1 else -1)*(if x then b.at d else a.at d))≤k+2
     omega
structure BoxL(k:Nat)(a b:Pt):Prop where
 lq:lqP k b
 ok:oT a b
 h:blH a b
 e:blE a b=0
 oks:okS (bkS a b)
 snd:fX (bkS a b)
 sm:smS k 2 (k+2) 0 (bkS a b)
 onb:∀p,onA (fN (bkS a b)) p↔(∀u,u<3→kI a b p u)∧¬∀u,u<3→sI a b p u
 wd:∀p,¬onA (fN (bkS a b)) p→wdM (fN (bkS a b)) p=pK (∀u,u<3→sI a b p u)
 inb:∀p,inM (fN (bkS a b)) p=if ∀u,u<3→sI a b p u then 1 else if ∀u,u<3→kI a b p u then 0 else -1
theorem zMG{i:Nat}(h:i<3):i=0∨i=1∨i=2:=by omega
theorem yDO{k:Nat}(hk:2≤k)(ha:lqP k a)(hb:lqP k b)(h:∀u,u<3→a.at u<b.at u):BoxL k a b:=by
 have C:a.x<b.x∧a.y<b.y∧a.z<b.z:=⟨h 0 (by decide),h 1 (by decide),h 2 (by decide)⟩;have D:∀i,a.at i<b.at i:=fun i=>by
  match i with
  |0=>exact C.1
  |1=>exact C.2.1
  |_+2=>exact C.2.2
 have G:oT a b:=by
  intro u J;rw[zLX];exact Rat.not_le.2 (h u J)
 have e:=zW7 G;have H:=zQH C;have I:∀p,onA (fN (bxS a b)) p↔(∀u,u<3→kI a b p u)∧¬∀u,u<3→sI a b p u:=fun p=>(lQ H p).trans (zMU D p);refine⟨hb,G,yBI G,zT4 G,?_,?_,?_,?_,?_,?_⟩
 · rw[e]
   exact zL1 C ⟨by decide,show 6≤256 by decide⟩ fun f O=>⟨_,(eR (a:=a) (b:=b) O).1⟩
 · rw[e];exact H
 · rw[e];exact yCA hk ha hb
 · rw[e];exact I
 · rw[e]
   intro p M;rw[zMC H];exact zL9 D fun U=>M ((lQ H p).2 U)
 · rw[e]
   intro p;rw[zWI H];exact yC9 D p
end
structure SaneL:Prop where
 b:BoxL 2 (pI 0 0 0) (pI 1 1 1)
 o1:¬onA (fN (bkS (pI 0 0 0) (pI 1 1 1))) (T3.mk (kG 1 2) (kG 1 2) (kG 1 2))
 w1:wdM (fN (bkS (pI 0 0 0) (pI 1 1 1))) (T3.mk (kG 1 2) (kG 1 2) (kG 1 2))=1
 o2:¬onA (fN (bkS (pI 0 0 0) (pI 1 1 1))) (pI 2 0 0)
 w2:wdM (fN (bkS (pI 0 0 0) (pI 1 1 1))) (pI 2 0 0)=0
 i3:inM (fN (bkS (pI 0 0 0) (pI 1 1 1))) (pI 1 1 1)=0
theorem gB:SaneL:=by
 have J:lqP 2 (pI 0 0 0):=⟨cO _ (by decide) (by decide),cO _ (by decide) (by decide),cO _ (by decide) (by decide)⟩;have l1:lqP 2 (pI 1 1 1):=⟨cO _ (by decide) (by decide),cO _ (by decide) (by decide),cO _ (by decide) (by decide)⟩;have U:kG 1 2=1/2:=rfl;have h:=yDO (a:=pI 0 0 0) (b:=pI 1 1 1) (Nat.le_refl 2) J l1 fun u z=>by
  rcases zMG z with rfl|rfl|rfl
  · show((0:Int):Rat)<((1:Int):Rat);decide
  · show((0:Int):Rat)<((1:Int):Rat);decide
  · show((0:Int):Rat)<((1:Int):Rat);decide
 have C:∀u,u<3→sI (pI 0 0 0) (pI 1 1 1) (T3.mk (kG 1 2) (kG 1 2) (kG 1 2)) u:=fun u z=>by
  rw[U]
  rcases zMG z with rfl|rfl|rfl
  · show((0:Int):Rat)<1/2∧1/2<((1:Int):Rat);decide +kernel
  · show((0:Int):Rat)<1/2∧1/2<((1:Int):Rat);decide +kernel
  · show((0:Int):Rat)<1/2∧1/2<((1:Int):Rat);decide +kernel
 have O:¬∀u,u<3→kI (pI 0 0 0) (pI 1 1 1) (pI 2 0 0) u:=fun e=>by
  have:=(e 0 (by decide)).2;exact absurd (show((2:Int):Rat)≤((1:Int):Rat) from this) (by decide)
 have I:¬∀u,u<3→sI (pI 0 0 0) (pI 1 1 1) (pI 2 0 0) u:=fun e=>by
  have:=(e 0 (by decide)).2;exact absurd (show((2:Int):Rat)<((1:Int):Rat) from this) (by decide)
 have M:∀u,u<3→kI (pI 0 0 0) (pI 1 1 1) (pI 1 1 1) u:=fun u z=>by
  rcases zMG z with rfl|rfl|rfl
  · show((0:Int):Rat)≤((1:Int):Rat)∧((1:Int):Rat)≤((1:Int):Rat);decide
  · show((0:Int):Rat)≤((1:Int):Rat)∧((1:Int):Rat)≤((1:Int):Rat);decide
  · show((0:Int):Rat)≤((1:Int):Rat)∧((1:Int):Rat)≤((1:Int):Rat);decide
 have H:¬∀u,u<3→sI (pI 0 0 0) (pI 1 1 1) (pI 1 1 1) u:=fun e=>by
  have:=(e 0 (by decide)).2;exact absurd (show((1:Int):Rat)<((1:Int):Rat) from this) (by decide)
 have G:¬onA (fN (bkS (pI 0 0 0) (pI 1 1 1))) (T3.mk (kG 1 2) (kG 1 2) (kG 1 2)):=fun e=>((h.onb _).1 e).2 C;have D:¬onA (fN (bkS (pI 0 0 0) (pI 1 1 1))) (pI 2 0 0):=fun e=>O ((h.onb _).1 e).1;refine⟨h,G,?_,D,?_,?_⟩
 · rw[h.wd _ G,bS C]
 · rw[h.wd _ D,jC I]
 · rw[h.inb,if_neg H,if_pos M]
theorem yBH{x y z p q r:Int}(hp:0≤p)(hq:0≤q)(hr:0≤r):∀u,u<3→(pI x y z).at u<(cW (pI x y z) (pI (1+p) (1+q) (1+r))).at u:=by
 have g:∀a b:Int,0≤b→(a:Rat)<(a:Rat)+((1+b:Int):Rat):=fun a b D=>by
  have:(0:Rat)<((1+b:Int):Rat):=Rat.intCast_pos.2 (by omega);grind
 intro u C
 rcases zMG C with rfl|rfl|rfl
 · exact g x p hp
 · exact g y q hq
 · exact g z r hr
theorem zBT{a b:Rat}:yP a b<0↔a<b:=by unfold yP;grind
theorem zLY{a b:Rat}:yP a b=0↔a=b:=by unfold yP;grind
theorem zTX{a b p:Pt}{i:Nat}(hi:i<3)(h:yP (p.at i) (a.at i)<0∨yP (b.at i) (p.at i)<0){k:Nat}(hb:BoxL k a b):inM (fN (bkS a b)) p= -1:=by
 have z:¬kI a b p i:=fun e=>by
  unfold kI at e
  rcases h with h|h
  · exact absurd (zBT.1 h) (Rat.not_lt.2 e.1)
  · exact absurd (zBT.1 h) (Rat.not_lt.2 e.2)
 rw[hb.inb,if_neg fun e=>z ⟨Rat.le_of_lt (e i hi).1,Rat.le_of_lt (e i hi).2⟩,if_neg fun e=>z (e i hi)]
def bxW(a b p:Pt)(i:Nat)(w:Int):Prop:=(∀u,u<i→kI a b p u)∧((w=1∧∀u,u<i→sI a b p u)∨(w=0∧¬∀u,u<i→sI a b p u))
theorem zW5{a b p:Pt}:bxW a b p 0 1:=⟨fun u h=>by omega,.inl ⟨rfl,fun u h=>by omega⟩⟩
theorem zX1{a b p:Pt}{i:Nat}{w:Int}(h:bxW a b p i w)(h1:¬yP (p.at i) (a.at i)<0)(h2:¬yP (b.at i) (p.at i)<0):kI a b p i:=⟨Rat.not_lt.1 fun e=>h1 (zBT.2 e),Rat.not_lt.1 fun e=>h2 (zBT.2 e)⟩
theorem yBG{a b p:Pt}{i:Nat}{w:Int}(h:bxW a b p i w)(h1:¬yP (p.at i) (a.at i)<0)(h2:¬yP (b.at i) (p.at i)<0)(h3:¬yP (p.at i) (a.at i)=0)(h4:¬yP (b.at i) (p.at i)=0):bxW a b p (i+1) w:=by
 have C:=zX1 h h1 h2;have D:sI a b p i:=by
  rw[zLY] at h3 h4;unfold kI at C;unfold sI;constructor<;>grind
 have st:∀(Q:Nat→Prop),(∀u,u<i→Q u)→Q i→∀u,u<i+1→Q u:=fun Q G hi u z=>by
  rcases Nat.lt_succ_iff_lt_or_eq.1 z with h|rfl
  · exact G u h
  · exact hi
 refine⟨st _ h.1 C,h.2.elim (fun e=>.inl ⟨e.1,st _ e.2 D⟩) (fun e=>.inr ⟨e.1,fun H=>e.2 fun u z=>H u (by omega)⟩)⟩
theorem yBF{a b p:Pt}{i:Nat}{w:Int}(h:bxW a b p i w)(h1:¬yP (p.at i) (a.at i)<0)(h2:¬yP (b.at i) (p.at i)<0)(h3:yP (p.at i) (a.at i)=0∨yP (b.at i) (p.at i)=0):bxW a b p (i+1) 0:=by
 have D:=zX1 h h1 h2;have C:¬sI a b p i:=by
  rw[zLY,zLY] at h3;unfold sI
  rintro⟨H,G⟩
  rcases h3 with h3|h3<;>grind
 refine⟨fun u z=>?_,.inr ⟨rfl,fun e=>C (e i (by omega))⟩⟩
 rcases Nat.lt_succ_iff_lt_or_eq.1 z with h'|rfl
 · exact h.1 u h'
 · exact D
theorem zTZ{a b p:Pt}{w:Int}(h:bxW a b p 3 w){k:Nat}(hb:BoxL k a b):inM (fN (bkS a b)) p=w:=by
 rw[hb.inb]
 rcases h.2 with⟨e,hs⟩|⟨e,hs⟩
 · rw[if_pos hs,e]
 · rw[if_neg hs,if_pos h.1,e]
end Bk
namespace Go.Proofs.YtpkaegemlpaenaaGreat
open Bk Go Tryz
theorem yC8:Tryz.prog.info? 2=some Tryz.t2:=by kernel_rfl
theorem fO:Tryz.prog.info? 3=some Tryz.t3:=by kernel_rfl
theorem zS3:Tryz.prog.info? 4=some Tryz.t4:=by kernel_rfl
theorem zM3:Tryz.prog.info? 5=some Tryz.t5:=by kernel_rfl
theorem yC7:Tryz.prog.info? 9=some Tryz.t9:=by kernel_rfl
theorem jP:Tryz.prog.info? 22=some Tryz.t22:=by kernel_rfl
theorem yAK:Tryz.prog.info? 27=some Tryz.t27:=by kernel_rfl
theorem xS:Tryz.prog.info? 29=some Tryz.t29:=by kernel_rfl
theorem yX:Tryz.prog.info? 31=some Tryz.t31:=by kernel_rfl
theorem oP:Tryz.prog.info? 35=some Tryz.t35:=by kernel_rfl
theorem yAJ:Tryz.prog.info? 36=some Tryz.t36:=by kernel_rfl
theorem yAI:Tryz.prog.info? 37=some Tryz.t37:=by kernel_rfl
theorem tX:Tryz.prog.info? 39=some Tryz.t39:=by kernel_rfl
theorem mE:Tryz.prog.info? 50=some Tryz.t50:=by kernel_rfl
theorem zLO:Tryz.prog.info? 51=some Tryz.t51:=by kernel_rfl
theorem kU:Tryz.prog.info? 53=some Tryz.t53:=by kernel_rfl
theorem yAH:Tryz.prog.info? 56=some Tryz.t56:=by kernel_rfl
theorem yAG:Tryz.prog.info? 58=some Tryz.t58:=by kernel_rfl
theorem zS2:Tryz.prog.info? 72=some Tryz.t72:=by kernel_rfl
theorem yAF:Tryz.prog.info? 76=some Tryz.t76:=by kernel_rfl
theorem yAE:Tryz.prog.info? 96=some Tryz.t96:=by kernel_rfl
theorem yAD:Tryz.prog.info? 97=some Tryz.t97:=by kernel_rfl
theorem zLN:Tryz.prog.info? 99=some Tryz.t99:=by kernel_rfl
theorem eQ:Tryz.prog.info? 118=some Tryz.t118:=by kernel_rfl
theorem vW:Tryz.prog.info? 124=some Tryz.t124:=by kernel_rfl
theorem mF:Tryz.prog.info? 140=some Tryz.t140:=by kernel_rfl
theorem w7:Tryz.prog.info? 151=some Tryz.t151:=by kernel_rfl
theorem aN:Tryz.prog.info? 153=some Tryz.t153:=by kernel_rfl
theorem zBQ:Tryz.prog.info? 168=some Tryz.t168:=by kernel_rfl
theorem qQ:Tryz.prog.info? 200=some Tryz.t200:=by kernel_rfl
theorem zWH:Tryz.prog.info? 237=some Tryz.t237:=by kernel_rfl
theorem yCE:(Tryz.prog.info? 2).map (·.size)=some 1:=by rw[yC8];rfl
theorem zXJ:(Tryz.prog.info? 3).map (·.size)=some 1:=by rw[fO];rfl
theorem zQK:(Tryz.prog.info? 4).map (·.size)=some 1:=by rw[zS3];rfl
theorem yCD:(Tryz.prog.info? 5).map (·.size)=some 1:=by rw[zM3];rfl
theorem yCC:(Tryz.prog.info? 9).map (·.size)=some 1:=by rw[yC7];rfl
theorem zZB:(Tryz.prog.info? 22).map (·.size)=some 1:=by rw[jP];rfl
theorem zQL:(Tryz.prog.info? 27).map (·.size)=some 1:=by rw[yAK];rfl
theorem yC:(Tryz.prog.info? 29).map (·.size)=some 3:=by rw[xS];rfl
theorem uL{fs:Array Go.Field}(hu:Tryz.prog.underlying 29=some (.struct fs))(w:Go.World):(fs.mapM fun(f:Go.Field)=>do pure (f.offset,←Go.sizeOf f.type)).run Tryz.prog w=.ok #[(0,1),(1,1),(2,1)] w:=by
 rw[underlying29] at hu
 cases hu
 simp[sizeOf4,sizeOf27,sizeOf27]
theorem zZA:(Tryz.prog.info? 31).map (·.size)=some 9:=by rw[yX];rfl
theorem zY9:(Tryz.prog.info? 35).map (·.size)=some 1:=by rw[oP];rfl
theorem zY8:(Tryz.prog.info? 36).map (·.size)=some 1:=by rw[yAJ];rfl
theorem zY7:(Tryz.prog.info? 37).map (·.size)=some 1:=by rw[yAI];rfl
theorem zY6:(Tryz.prog.info? 39).map (·.size)=some 3:=by rw[tX];rfl
theorem bK{fs:Array Go.Field}(hu:Tryz.prog.underlying 39=some (.struct fs))(w:Go.World):(fs.mapM fun(f:Go.Field)=>do pure (f.offset,←Go.sizeOf f.type)).run Tryz.prog w=.ok #[(0,1),(1,1),(2,1)] w:=by
 rw[underlying39] at hu
 cases hu
 simp[sizeOf35,sizeOf36,sizeOf37]
theorem zY5:(Tryz.prog.info? 50).map (·.size)=some 12:=by rw[mE];rfl
theorem bJ{fs:Array Go.Field}(hu:Tryz.prog.underlying 50=some (.struct fs))(w:Go.World):(fs.mapM fun(f:Go.Field)=>do pure (f.offset,←Go.sizeOf f.type)).run Tryz.prog w=.ok #[(0,9),(9,3)] w:=by
 rw[underlying50] at hu
 cases hu
 simp[sizeOf31,sizeOf29]
theorem zY4:(Tryz.prog.info? 51).map (·.size)=some 1:=by rw[zLO];rfl
theorem zY3:(Tryz.prog.info? 53).map (·.size)=some 14:=by rw[kU];rfl
theorem lI{fs:Array Go.Field}(hu:Tryz.prog.underlying 53=some (.struct fs))(w:Go.World):(fs.mapM fun(f:Go.Field)=>do pure (f.offset,←Go.sizeOf f.type)).run Tryz.prog w=.ok #[(0,12),(12,1),(13,1)] w:=by
 rw[underlying53] at hu
 cases hu
 simp[sizeOf50,sizeOf51,sizeOf9]
theorem zY2:(Tryz.prog.info? 56).map (·.size)=some 27:=by rw[yAH];rfl
theorem zY1:(Tryz.prog.info? 58).map (·.size)=some 36:=by rw[yAG];rfl
theorem zY0:(Tryz.prog.info? 72).map (·.size)=some 2:=by rw[zS2];rfl
theorem zRH{fs:Array Go.Field}(hu:Tryz.prog.underlying 72=some (.struct fs))(w:Go.World):(fs.mapM fun(f:Go.Field)=>do pure (f.offset,←Go.sizeOf f.type)).run Tryz.prog w=.ok #[(0,1),(1,1)] w:=by
 rw[underlying72] at hu
 cases hu
 simp[sizeOf22,sizeOf3]
theorem zYZ:(Tryz.prog.info? 76).map (·.size)=some 1:=by rw[yAF];rfl
theorem zYY:(Tryz.prog.info? 96).map (·.size)=some 1:=by rw[yAE];rfl
theorem zYX:(Tryz.prog.info? 97).map (·.size)=some 1:=by rw[yAD];rfl
theorem zYW:(Tryz.prog.info? 99).map (·.size)=some 2:=by rw[zLN];rfl
theorem zVA:(Tryz.prog.info? 118).map (·.size)=some 2:=by rw[eQ];rfl
theorem zU9:(Tryz.prog.info? 124).map (·.size)=some 1:=by rw[vW];rfl
theorem zU8:(Tryz.prog.info? 140).map (·.size)=some 15:=by rw[mF];rfl
theorem zOI{fs:Array Go.Field}(hu:Tryz.prog.underlying 140=some (.struct fs))(w:Go.World):(fs.mapM fun(f:Go.Field)=>do pure (f.offset,←Go.sizeOf f.type)).run Tryz.prog w=.ok #[(0,12),(12,1),(13,1),(14,1)] w:=by
 rw[underlying140] at hu
 cases hu
 simp[sizeOf50,sizeOf76,sizeOf3,sizeOf3]
theorem zU7:(Tryz.prog.info? 151).map (·.size)=some 18:=by rw[w7];rfl
theorem zU6:(Tryz.prog.info? 153).map (·.size)=some 19:=by rw[aN];rfl
theorem zOH{fs:Array Go.Field}(hu:Tryz.prog.underlying 153=some (.struct fs))(w:Go.World):(fs.mapM fun(f:Go.Field)=>do pure (f.offset,←Go.sizeOf f.type)).run Tryz.prog w=.ok #[(0,9),(9,9),(18,1)] w:=by
 rw[underlying153] at hu
 cases hu
 simp[sizeOf31,sizeOf31,sizeOf4]
theorem zU5:(Tryz.prog.info? 168).map (·.size)=some 5:=by rw[zBQ];rfl
theorem zOG{fs:Array Go.Field}(hu:Tryz.prog.underlying 168=some (.struct fs))(w:Go.World):(fs.mapM fun(f:Go.Field)=>do pure (f.offset,←Go.sizeOf f.type)).run Tryz.prog w=.ok #[(0,1),(1,1),(2,1),(3,1),(4,1)] w:=by
 rw[underlying168] at hu
 cases hu
 simp[sizeOf3,sizeOf3,sizeOf3,sizeOf3,sizeOf3]
theorem zU4:(Tryz.prog.info? 200).map (·.size)=some 5:=by rw[qQ];rfl
theorem s6{fs:Array Go.Field}(hu:Tryz.prog.underlying 200=some (.struct fs))(w:Go.World):(fs.mapM fun(f:Go.Field)=>do pure (f.offset,←Go.sizeOf f.type)).run Tryz.prog w=.ok #[(0,1),(1,1),(2,1),(3,1),(4,1)] w:=by
 rw[underlying200] at hu
 cases hu
 simp[sizeOf40,sizeOf3,sizeOf3,sizeOf3,sizeOf3]
theorem zUI:Tryz.prog.funcs[194]?=some (Tryz.prog.funcs[194]!):=by kernel_rfl
theorem yDU(x y:Nat)(w:World):(callFunc 194 #[vU .u64 x,vU .u64 y,vU .u64 0]).run Tryz.prog w=.ok (.value (.tuple #[vU .u64 ((x+y)%18446744073709551616),vU .u64 ((x+y)/18446744073709551616)])) w:=by
 unfold vU;rw[run_callFunc_extern zUI (by kernel_rfl) (by kernel_rfl) (by kernel_rfl) (e:=add64Entry) (by kernel_rfl),run_add64 x y (0:Nat) (by omega) (by omega) (by omega) (by omega)];simp only[Result.andThen]
 congr 5<;>omega
theorem yA:Tryz.prog.follows .mixedOrders=true:=by kernel_rfl
end Go.Proofs.YtpkaegemlpaenaaGreat
namespace Bk
set_option linter.unusedVariables false
set_option linter.unusedSimpArgs false
open Go Go.RowKit
def k8(o:Oper):Nat:=o.after.toList.foldl (fun a e=>if Region.binds .any e then a |||(1 <<< e.on) else a) 0
theorem mZ(k j:Nat):(1 <<< k).testBit j=decide (j=k):=by
 rw[Nat.one_shiftLeft,Nat.testBit_two_pow];exact Bool.eq_iff_iff.2 (by simp[eq_comm])
theorem mM(o:Oper)(k:Nat):(k8 o).testBit k=true↔∃e∈o.after,Region.binds .any e=true∧e.on=k:=by
 have key:∀(l:List Edge) (a:Nat),(l.foldl (fun a e=>if Region.binds .any e then a |||(1 <<< e.on) else a) a).testBit k=true↔a.testBit k=true∨∃e∈l,Region.binds .any e=true∧e.on=k:=by
  intro l
  induction l with
  |nil=>intro a;simp
  |cons e l ih=>
   intro a;rw[List.foldl_cons,ih]
   by_cases hb:Region.binds .any e=true
   · rw[if_pos hb,Nat.testBit_or,mZ]
     simp only[Bool.or_eq_true,decide_eq_true_eq,List.mem_cons,exists_eq_or_imp,hb,true_and,or_assoc];constructor
     · rintro(h|h|h)
       · exact .inl h
       · exact .inr (.inl h.symm)
       · exact .inr (.inr h)
     · rintro(h|h|h)
       · exact .inl h
       · exact .inr (.inl h.symm)
       · exact .inr (.inr h)
   · rw[if_neg hb]
     simp only[List.mem_cons,exists_eq_or_imp,hb,false_and,false_or];simp
 unfold k8;rw[key];simp
def zJA(ops:Array Oper)(ams:List Nat)(i:Nat):Nat:=(List.range ops.size).foldl (fun a j=>if j==i||(ams.getD j 0).testBit i||(ops.getD i default).apart ops (ops.getD j default) then a |||(1 <<< j) else a) 0
theorem zLT(ops:Array Oper)(ams:List Nat)(i k:Nat):(zJA ops ams i).testBit k=true→k<ops.size∧(k=i∨(ams.getD k 0).testBit i=true∨(ops.getD i default).apart ops (ops.getD k default)=true):=by
 have key:∀(l:List Nat) (a:Nat),(l.foldl (fun a j=>if j==i||(ams.getD j 0).testBit i||(ops.getD i default).apart ops (ops.getD j default) then a |||(1 <<< j) else a) a).testBit k=true→a.testBit k=true∨(k∈l∧(k=i∨(ams.getD k 0).testBit i=true∨(ops.getD i default).apart ops (ops.getD k default)=true)):=by
  intro l
  induction l with
  |nil=>intro a h;exact .inl h
  |cons j l ih=>
   intro a h;rw[List.foldl_cons] at h
   rcases ih _ h with h1|⟨h1,h2⟩
   · split at h1
     · rename_i hc
       rw[Nat.testBit_or,mZ] at h1;simp only[Bool.or_eq_true,decide_eq_true_eq] at h1
       rcases h1 with h1|h1
       · exact .inl h1
       · subst h1
         simp only[Bool.or_eq_true,beq_iff_eq,or_assoc] at hc;exact .inr ⟨.head _,hc⟩
     · exact .inl h1
   · exact .inr ⟨.tail _ h1,h2⟩
 intro h
 rcases key _ _ h with h1|⟨h1,h2⟩
 · simp at h1
 · exact⟨List.mem_range.1 h1,h2⟩
def eL(ams:List Nat)(x i:Nat):Bool:=!x.testBit i&&(ams.getD i 0&&&x==ams.getD i 0)
def sT(ams:List Nat)(n x:Nat):List Nat:=(List.range n).filter (eL ams x)
def aC(x:Nat)(l:List Nat):Nat:=l.foldl (fun x i=>x |||(1 <<< i)) x
def nF(ops:Array Oper)(n m:Nat)(ams frs:List Nat):List (Nat×Kd)→Nat→List Nat→Bool
  |[],x,pend=>pend.isEmpty&&(sT ams n x).isEmpty
  |(i,.q)::r,x,pend=>decide (i<m)&&decide (i<n)&&eL ams x i&&((frs.getD i 0 |||x)&&&(1 <<< n-1)==1 <<< n-1)&&!pend.contains i&&
     ((List.range n).all fun k=>decide (k<m)||(ams.getD k 0).testBit i||zAT ops k i)&&nF ops n m ams frs r (x |||(1 <<< i)) pend
  |(i,.a)::r,x,pend=>pend.contains i&&(sT ams n (aC x (pend.filter (· != i)))==[i])&&nF ops n m ams frs r (x |||(1 <<< i)) (pend.filter (· != i))
  |(i,.c)::r,x,pend=>decide (i<m)&&!pend.contains i&&(sT ams n (aC x pend)==[i])&&nF ops n m ams frs r (x |||(1 <<< i)) pend
  |(i,.b j)::r,x,pend=>decide (i<m)&&decide (j<m)&&!pend.contains i&&!pend.contains j&&decide (i≠j)&&(sT ams n (aC x pend)==[i,j])&&
     (sT ams n (aC (x |||(1 <<< i)) pend)==[j])&&(sT ams n (aC (x |||(1 <<< j)) pend)==[i])&&nF ops n m ams frs r ((x |||(1 <<< i)) |||(1 <<< j)) pend
  |(i,.t)::r,x,pend=>pend.isEmpty&&(r.all fun y=>match y.2 with| .t=>true|_=>false)&&decide (m≤i)&&(sT ams n x==[i])&&nF ops n m ams frs r (x |||(1 <<< i)) []
  |(i,.p)::r,x,pend=>decide (i<m)&&decide (i<n)&&eL ams x i&&((frs.getD i 0 |||x)&&&(1 <<< n-1)==1 <<< n-1)&&!pend.contains i&&nF ops n m ams frs r (x |||(1 <<< i)) pend
  |(i,.d i2 j)::r,x,pend=>(decide (i<m)&&decide (i2<m)&&decide (j<m)&&!pend.contains i&&!pend.contains i2&&!pend.contains j)&&(decide (i≠i2)&&decide (i≠j)&&decide (i2≠j))&&
     (sT ams n (aC x pend)==[i,j])&&(sT ams n (aC (x |||(1 <<< i)) pend)==[i2,j])&&(sT ams n (aC (x |||(1 <<< j)) pend)==[i])&&
     (sT ams n (aC ((x |||(1 <<< i)) |||(1 <<< i2)) pend)==[j])&&(sT ams n (aC ((x |||(1 <<< i)) |||(1 <<< j)) pend)==[i2])&&
     nF ops n m ams frs r (((x |||(1 <<< i)) |||(1 <<< i2)) |||(1 <<< j)) pend
  |(_,.m _ _)::_,_,_=>false
  |(_,.x _ _ _)::_,_,_=>false
section
variable {ops:Array Oper}{ams frs:List Nat}
def eV(ops:Array Oper)(b:Array Bool)(x:Nat):Prop:=b.size=ops.size∧∀i,i<ops.size→b[i]?=some (x.testBit i)
theorem eV.getF{b:Array Bool}{x:Nat}(h:eV ops b x){i:Nat}(hi:i<ops.size)(d:Bool):b.getD i d=x.testBit i:=by
 rw[Array.getD_eq_getD_getElem?,h.2 i hi];rfl
theorem eV.set{b:Array Bool}{x:Nat}(h:eV ops b x)(i:Nat):eV ops (b.setIfInBounds i true) (x |||(1 <<< i)):=by
 refine⟨by simpa using h.1,fun k z=>?_⟩;rw[Nat.testBit_or,mZ,Array.getElem?_setIfInBounds]
 by_cases e:i=k
 · subst e
   have:i<b.size:=by rw[h.1];exact z
   simp[this]
 · rw[if_neg e,h.2 k z]
   simp[Ne.symm e]
theorem eV.setAll{b:Array Bool}{x:Nat}(h:eV ops b x):∀(l:List Nat),eV ops (setAll b l) (aC x l):=by
 intro l
 induction l generalizing b x with
 |nil=>exact h
 |cons i l ih=>exact ih (h.set i)
theorem eV.start:eV ops (Array.replicate ops.size false) 0:=⟨by simp,fun i hi=>by simp[hi]⟩
def mR(ops:Array Oper)(ams frs:List Nat):Bool:=(ops.toList.map k8==ams)&&((List.range ops.size).map (zJA ops ams)==frs)
theorem zJ1(h:mR ops ams frs=true){i:Nat}(hi:i<ops.size):ams.getD i 0=k8 (ops.getD i default):=by
 simp only[mR,Bool.and_eq_true,beq_iff_eq] at h;rw[←h.1,List.getD_eq_getElem?_getD,List.getElem?_map,Array.getElem?_toList,Array.getD_eq_getD_getElem?];simp[hi]
theorem zYS(h:mR ops ams frs=true){i:Nat}(hi:i<ops.size):frs.getD i 0=zJA ops ams i:=by
 simp only[mR,Bool.and_eq_true,beq_iff_eq] at h;rw[←h.2,List.getD_eq_getElem?_getD,List.getElem?_map];simp[hi]
theorem zXL(hl:∀o∈ops,∀e∈o.after,e.on<ops.size){i:Nat}(hi:i<ops.size){e:Edge}(he:e∈(ops.getD i default).after):e.on<ops.size:=by
 refine hl _ ?_ e he;rw[Array.getD_eq_getD_getElem?,Array.getElem?_eq_getElem hi];exact Array.getElem_mem hi
theorem zKB(ht:mR ops ams frs=true)(hl:∀o∈ops,∀e∈o.after,e.on<ops.size){b:Array Bool}{x i:Nat}(hs:eV ops b x)(hi:i<ops.size):
 eL ams x i=(!b.getD i true&&((ops[i]?).map (·.after.all fun e=>!Region.binds .any e||b.getD e.on false)).getD false):=by
 unfold eL;rw[hs.getF hi,zJ1 ht hi]
 congr 1
 have D:ops[i]?=some (ops.getD i default):=lW hi;rw[D];simp only[Option.map_some,Option.getD_some];rw[Bool.eq_iff_iff,beq_iff_eq,Array.all_eq_true_iff_forall_mem];constructor
 · intro h e z
   by_cases C:Region.binds .any e=true
   · have h1:=(mM (ops.getD i default) e.on).2 ⟨e,z,C,rfl⟩
     rw[←h,Nat.testBit_and,Bool.and_eq_true] at h1;rw[hs.getF (zXL hl hi z),h1.2];simp
   · simp[C]
 · intro h
   apply Nat.eq_of_testBit_eq
   intro k;rw[Nat.testBit_and]
   by_cases hk:(k8 (ops.getD i default)).testBit k=true
   · obtain⟨e,z,C,rfl⟩:=(mM _ _).1 hk
     have h1:=h e z;rw[C,hs.getF (zXL hl hi z)] at h1;simp at h1;rw[hk,h1];rfl
   · have:(k8 (ops.getD i default)).testBit k=false:=by simpa using hk
     rw[this];rfl
theorem jT(ht:mR ops ams frs=true)(hl:∀o∈ops,∀e∈o.after,e.on<ops.size){b:Array Bool}{x:Nat}(hs:eV ops b x):Region.ready .any ops b=sT ams ops.size x:=by
 unfold Region.ready sT
 apply List.filter_congr
 intro i hi;exact(zKB ht hl hs (List.mem_range.1 hi)).symm
theorem oE(ht:mR ops ams frs=true)(hl:∀o∈ops,∀e∈o.after,e.on<ops.size){b:Array Bool}{x i:Nat}(hs:eV ops b x)(hi:i<ops.size)(h:eL ams x i=true):(Region.ready .any ops b).contains i=true:=by
 rw[jT ht hl hs];unfold sT;simp[hi,h]
theorem zO8{y n k:Nat}(h:y&&&(1 <<< n-1)=1 <<< n-1)(hk:k<n):y.testBit k=true:=by
 have h1:(1 <<< n-1).testBit k=true:=by rw[Nat.one_shiftLeft,Nat.testBit_two_pow_sub_one];simpa using hk
 rw[←h,Nat.testBit_and,Bool.and_eq_true] at h1;exact h1.1
theorem zM5(ht:mR ops ams frs=true){b:Array Bool}{x i:Nat}(hs:eV ops b x)(hi:i<ops.size)(h:(frs.getD i 0 |||x)&&&(1 <<< ops.size-1)=1 <<< ops.size-1):Region.free .any ops b i=true:=by
 unfold Region.free;rw[lW hi];simp only[List.all_eq_true,List.mem_range];intro j z;have h1:=zO8 h z;rw[Nat.testBit_or,Bool.or_eq_true,zYS ht hi] at h1;rw[lW z,hs.getF z];simp only[Bool.or_eq_true,beq_iff_eq]
 rcases h1 with h1|h1
 · obtain⟨_,h2|h2|h2⟩:=zLT _ _ _ _ h1
   · exact .inl (.inl h2)
   · rw[zJ1 ht z] at h2
     obtain⟨e,D,G,C⟩:=(mM _ _).1 h2;refine .inr (.inl ?_);rw[Array.any_eq_true'];exact⟨e,D,by simp[G,C]⟩
   · exact .inr (.inr h2)
 · exact .inl (.inr h1)
theorem zP3(ht:mR ops ams frs=true){k i:Nat}(hk:k<ops.size)(h:(ams.getD k 0).testBit i=true):zAT ops k i=true:=by
 rw[zJ1 ht hk] at h;obtain⟨e,C,D,z⟩:=(mM _ _).1 h;unfold zAT;rw[Array.any_eq_true'];refine⟨e,C,?_⟩;rw[D,z];simp[g5]
theorem aT(ht:mR ops ams frs=true)(hl:∀o∈ops,∀e∈o.after,e.on<ops.size){m:Nat}:∀(ord:List (Nat×Kd)) (b:Array Bool) (x:Nat) (pend:List Nat),eV ops b x→nF ops ops.size m ams frs ord x pend=true→chk ops m ord b pend=true
  |[],b,x,pend,hs,h=>by
   simp only[nF,Bool.and_eq_true] at h;simp only[chk,Bool.and_eq_true,jT ht hl hs];exact h
  |(i,.q)::r,b,x,pend,hs,h=>by
   simp only[nF,Bool.and_eq_true,beq_iff_eq,decide_eq_true_eq] at h;obtain⟨⟨⟨⟨⟨⟨h1,h2⟩,h3⟩,h4⟩,h5⟩,h6⟩,h7⟩:=h;simp only[chk,Bool.and_eq_true,decide_eq_true_eq];refine⟨⟨⟨⟨⟨h1,oE ht hl hs h2 h3⟩,zM5 ht hs h2 h4⟩,h5⟩,?_⟩,aT ht hl r _ _ _ (hs.set i) h7⟩;rw[List.all_eq_true] at h6 ⊢;intro k hk;have:=h6 k hk;simp only[Bool.or_eq_true] at this ⊢
   rcases this with(h8|h8)|h8
   · exact .inl h8
   · exact .inr (zP3 ht (List.mem_range.1 hk) h8)
   · exact .inr h8
  |(i,.a)::r,b,x,pend,hs,h=>by
   simp only[nF,Bool.and_eq_true] at h;obtain⟨⟨h1,h2⟩,h3⟩:=h;simp only[chk,Bool.and_eq_true,jT ht hl (hs.setAll _)];exact⟨⟨h1,h2⟩,aT ht hl r _ _ _ (hs.set i) h3⟩
  |(i,.c)::r,b,x,pend,hs,h=>by
   simp only[nF,Bool.and_eq_true] at h;obtain⟨⟨⟨h1,h2⟩,h3⟩,h4⟩:=h;simp only[chk,Bool.and_eq_true,jT ht hl (hs.setAll _)];exact⟨⟨⟨h1,h2⟩,h3⟩,aT ht hl r _ _ _ (hs.set i) h4⟩
  |(i,.b j)::r,b,x,pend,hs,h=>by
   simp only[nF,Bool.and_eq_true] at h;obtain⟨⟨⟨⟨⟨⟨⟨⟨h1,h2⟩,h3⟩,h4⟩,h5⟩,h6⟩,h7⟩,h8⟩,h9⟩:=h;simp only[chk,Bool.and_eq_true,jT ht hl (hs.setAll _),jT ht hl ((hs.set i).setAll _),jT ht hl ((hs.set j).setAll _)];exact⟨⟨⟨⟨⟨⟨⟨⟨h1,h2⟩,h3⟩,h4⟩,h5⟩,h6⟩,h7⟩,h8⟩,aT ht hl r _ _ _ ((hs.set i).set j) h9⟩
  |(i,.t)::r,b,x,pend,hs,h=>by
   simp only[nF,Bool.and_eq_true] at h;obtain⟨⟨⟨⟨h1,h2⟩,h3⟩,h4⟩,h5⟩:=h;simp only[chk,Bool.and_eq_true,jT ht hl hs];exact⟨⟨⟨⟨h1,h2⟩,h3⟩,h4⟩,aT ht hl r _ _ _ (hs.set i) h5⟩
  |(i,.p)::r,b,x,pend,hs,h=>by
   simp only[nF,Bool.and_eq_true,beq_iff_eq,decide_eq_true_eq] at h;obtain⟨⟨⟨⟨⟨h1,h2⟩,h3⟩,h4⟩,h5⟩,h7⟩:=h;simp only[chk,Bool.and_eq_true,decide_eq_true_eq];exact⟨⟨⟨⟨h1,oE ht hl hs h2 h3⟩,zM5 ht hs h2 h4⟩,h5⟩,aT ht hl r _ _ _ (hs.set i) h7⟩
  |(i,.d i2 j)::r,b,x,pend,hs,h=>by
   simp only[nF,Bool.and_eq_true] at h;obtain⟨⟨⟨⟨⟨⟨⟨h1,h2⟩,h3⟩,h4⟩,h5⟩,h6⟩,h7⟩,h8⟩:=h;simp only[chk,Bool.and_eq_true,jT ht hl (hs.setAll _),jT ht hl ((hs.set i).setAll _),jT ht hl ((hs.set j).setAll _),jT ht hl (((hs.set i).set i2).setAll _),jT ht hl (((hs.set i).set j).setAll _)];exact⟨⟨⟨⟨⟨⟨⟨h1,h2⟩,h3⟩,h4⟩,h5⟩,h6⟩,h7⟩,aT ht hl r _ _ _ (((hs.set i).set i2).set j) h8⟩
  |(_,.m _ _)::_,_,_,_,_,h=>by simp[nF] at h
  |(_,.x _ _ _)::_,_,_,_,_,h=>by simp[nF] at h
def zLZ(l:List Oper)(m:Nat)(ams frs:List Nat)(al:Als)(ord:List (Nat×Kd)):Bool:=
 Region.noSelect l.toArray&&rZ l.toArray al&&(al.all fun x=>decide (x.1<m))&&(l.all fun o=>o.after.all fun e=>decide (e.on<l.length))&&mR l.toArray ams frs&&nF l.toArray l.length m ams frs ord 0 (al.map (·.1))
theorem yBA{l:List Oper}{m:Nat}{al:Als}{ord:List (Nat×Kd)}(ams frs:List Nat)(h:zLZ l m ams frs al ord=true):
 (Region.noSelect l.toArray&&rZ l.toArray al&&(al.all fun x=>decide (x.1<m))&&chk l.toArray m ord (Array.replicate l.length false) (al.map (·.1)))=true:=by
 simp only[zLZ,Bool.and_eq_true] at h;obtain⟨⟨⟨⟨⟨h1,h2⟩,h3⟩,I⟩,H⟩,G⟩:=h;simp only[Bool.and_eq_true];refine⟨⟨⟨h1,h2⟩,h3⟩,?_⟩;have C:∀o∈l.toArray,∀e∈o.after,e.on<l.toArray.size:=by
  intro o z e D;have:=List.all_eq_true.1 I o (by simpa using z);have:=Array.all_eq_true_iff_forall_mem.1 this e D
  simpa using this
 exact aT H C ord _ 0 _ eV.start G
end
end Bk
namespace Go.Proofs.YtpkaegemlpaenaaGreat
open Bk Go Tryz
theorem ty3:TyOk Tryz.prog 3 1 false:=⟨sizeOf3,isAgg3⟩
theorem ty4:TyOk Tryz.prog 4 1 false:=⟨sizeOf4,isAgg4⟩
theorem ty9:TyOk Tryz.prog 9 1 false:=⟨sizeOf9,isAgg9⟩
theorem fG:TyOk Tryz.prog 22 1 false:=⟨sizeOf22,isAgg22⟩
theorem yB:TyOk Tryz.prog 29 3 true:=⟨sizeOf29,isAgg29⟩
theorem zN:TyOk Tryz.prog 31 9 true:=⟨sizeOf31,isAgg31⟩
theorem uJ:TyOk Tryz.prog 35 1 false:=⟨sizeOf35,isAgg35⟩
theorem tT:TyOk Tryz.prog 36 1 false:=⟨sizeOf36,isAgg36⟩
theorem yBZ:TyOk Tryz.prog 37 1 false:=⟨sizeOf37,isAgg37⟩
theorem fF:TyOk Tryz.prog 39 3 true:=⟨sizeOf39,isAgg39⟩
theorem dE:TyOk Tryz.prog 50 12 true:=⟨sizeOf50,isAgg50⟩
theorem cK:TyOk Tryz.prog 51 1 false:=⟨sizeOf51,isAgg51⟩
theorem bG:TyOk Tryz.prog 53 14 true:=⟨sizeOf53,isAgg53⟩
theorem zYN:TyOk Tryz.prog 76 1 false:=⟨sizeOf76,isAgg76⟩
theorem zYM:TyOk Tryz.prog 96 1 false:=⟨sizeOf96,isAgg96⟩
theorem yBY:TyOk Tryz.prog 97 1 false:=⟨sizeOf97,isAgg97⟩
theorem zNW:TyOk Tryz.prog 99 2 true:=⟨sizeOf99,isAgg99⟩
theorem zXH:TyOk Tryz.prog 118 2 true:=⟨sizeOf118,isAgg118⟩
theorem zBY:TyOk Tryz.prog 140 15 true:=⟨sizeOf140,isAgg140⟩
theorem zXG:TyOk Tryz.prog 151 18 true:=⟨sizeOf151,isAgg151⟩
theorem zME:TyOk Tryz.prog 153 19 true:=⟨sizeOf153,isAgg153⟩
theorem eZ:TyOk Tryz.prog 168 5 true:=⟨sizeOf168,isAgg168⟩
theorem yB0:TyOk Tryz.prog 200 5 true:=⟨sizeOf200,isAgg200⟩
end Go.Proofs.YtpkaegemlpaenaaGreat
namespace Bk
set_option linter.unusedVariables false
set_option linter.unusedSimpArgs false
open Go Go.RowKit
section
variable {P:Program}{n:Nat}{w0:World}{h0:Mem}{e:List (Nat×Value)}{h:Mem}{ds:Option Tmp}{ty:TypeId}{ps:String}{af:Array Edge}{gd:Option (Nat×Bool)}{α:Type}
theorem zKI{ρ:Rp α}{xs:List α}{v:Value}{t E:TypeId}{x lo:Operand}{p:Int}(i:Nat)(ht:P.underlying t=some (.slice E))(hsz:∀w,(Go.sizeOf E).run P w=.ok ρ.n w)(hx:zG e x=some v)(hl:zG e lo=some (vI p))(r:(rpS ρ).Is h v xs)
    (hp:p=(i:Int))(hi:i≤xs.length):OpX P n w0 h0 ⟨ds,.slice t x (some lo) none none,ty,ps,af,gd⟩ e [] h (fun u=>(rpS ρ).Is h u (xs.drop i)):=by
 obtain⟨cs,s,C⟩:=zOO r;refine zRM (fun L' h'=>qH i ht hsz hx hl s.shape hp hi) ?_;have D:=s.sub hi (Nat.le_refl _);have z:=C.len;rw[List.take_of_length_le (by rw[List.length_drop,z,←Nat.sub_mul];exact Nat.le_refl _)] at D;exact zWG (by rw[List.length_drop];exact D) (C.drop i)
end
end Bk
namespace Bk
set_option linter.unusedVariables false
set_option linter.unusedSimpArgs false
open Go Go.RowKit
section
variable {P:Program}{n:Nat}{w0:World}{h0:Mem}{e:List (Nat×Value)}{L:List Res}{h:Mem}{Q:Exit→Act→World→Prop}{ds:Option Tmp}{ty:TypeId}{ps:String}{af:Array Edge}{gd:Option (Nat×Bool)}{α:Type}
theorem zKJ{ρ:Rp α}{xs:List α}{v:Value}{t E:TypeId}{x hu:Operand}{p:Int}(i:Nat)(ht:P.underlying t=some (.slice E))(hsz:∀w,(Go.sizeOf E).run P w=.ok ρ.n w)(hx:zG e x=some v)(hl:zG e hu=some (vI p))(r:(rpS ρ).Is h v xs)
    (hp:p=(i:Int))(hi:i≤xs.length):OpX P n w0 h0 ⟨ds,.slice t x none (some hu) none,ty,ps,af,gd⟩ e [] h (fun u=>(rpS ρ).Is h u (xs.take i)):=by
 obtain⟨cs,s,z⟩:=zOO r;refine zRM (fun L' h'=>iO i ht hsz hx hl s.shape hp hi) ?_;have C:=s.sub (Nat.zero_le i) hi;have D:=z.len;rw[Nat.zero_mul,List.drop_zero,Nat.sub_zero] at C;exact zWG (by rw[List.length_take,Nat.min_eq_left hi];exact C) (z.take i)
theorem zMY:∀(a b:List Nat),ByB a→ByB b→(Op.bytesLess (a.map UInt8.ofNat) (b.map UInt8.ofNat)=true↔lsN a b)
  |[],[],_,_=>by simp[Op.bytesLess,lsN]
  |[],y::b,_,_=>by simp[Op.bytesLess,lsN]
  |x::a,[],_,_=>by simp[Op.bytesLess,lsN]
  |x::a,y::b,ha,hb=>by
   have hx:x<256:=ha x (.head _);have hy:y<256:=hb y (.head _);have ih:=zMY a b (fun z hz=>ha z (.tail _ hz)) (fun z hz=>hb z (.tail _ hz));have e1:(UInt8.ofNat x<UInt8.ofNat y)↔x<y:=by
    rw[UInt8.lt_iff_toNat_lt,UInt8.toNat_ofNat',UInt8.toNat_ofNat',Nat.mod_eq_of_lt (by simpa using hx),Nat.mod_eq_of_lt (by simpa using hy)]
   have C:(UInt8.ofNat x=UInt8.ofNat y)↔x=y:=by
    rw[←UInt8.toNat_inj,UInt8.toNat_ofNat',UInt8.toNat_ofNat',Nat.mod_eq_of_lt (by simpa using hx),Nat.mod_eq_of_lt (by simpa using hy)]
   show((decide (UInt8.ofNat x<UInt8.ofNat y)||(UInt8.ofNat x==UInt8.ofNat y&&Op.bytesLess _ _))=true)↔(if x=y then lsN a b else x<y)
   rw[Bool.or_eq_true,Bool.and_eq_true,decide_eq_true_eq,beq_iff_eq,e1,C,ih]
   split
   · rename_i hxy;subst hxy;exact⟨fun h=>h.elim (fun h=>absurd h (Nat.lt_irrefl _)) fun h=>h.2,fun h=>.inr ⟨rfl,h⟩⟩
   · rename_i hxy;exact⟨fun h=>h.elim id fun h=>absurd h.1 hxy,.inl⟩
theorem zRQ{pa pb:List Nat}{t yt:TypeId}{x y:Operand}(ha:ByB pa)(hb:ByB pb)(hx:zG e x=some (.string (uU pa)))(hy:zG e y=some (.string (uU pb))):OpV P n w0 h0 ⟨ds,.binOp .lss t x y yt,ty,ps,af,gd⟩ e L h (vB (lsN pa pb)):=by
 have z:Op.bytesLess (uU pa).toList (uU pb).toList=true↔lsN pa pb:=by
  rw[ByteArray.toList_eq,ByteArray.toList_eq];exact zMY pa pb ha hb
 have D:vB (lsN pa pb)=.bool (Op.bytesLess (uU pa).toList (uU pb).toList):=by
  by_cases hp:lsN pa pb
  · rw[xE hp,z.2 hp]
  · rw[yJ hp,Bool.eq_false_iff.2 fun e=>hp (z.1 e)]
 rw[D];intro a w C S;simp only[execOp,C.eval hx,C.eval hy,binOp];simp[eqGuard,Op.stringOp]
theorem bY{A B:List Res}{E k m:Nat}{v:Value}{cs:List Value}{c:Code}(hm:0<m)(g:∀b cap,v=.slice (some ⟨b,0,none⟩) m cap→m≤cap→GC P n w0 h0 c Q e (A++.gs E k v m cs::B) h):GC P n w0 h0 c Q e (A++.gs E k v m cs::B) h:=by
 intro a w C S;obtain⟨_,z⟩:w.ownsRow w0.heap.size E k v m cs:=S.ok (.gs E k v m cs) (by simp)
 rcases z with⟨_,h0⟩|⟨b,cap,cur,hv,_,_,hc,_⟩
 · omega
 · exact g b cap hv hc a w C S
theorem fC{fn:Func}{v:Value}{L':List Res}{RO:Mem→Value→List Res→Prop}(hs:L'.Sublist L)(hres:∀{a:Act} {w:World},Env n e a→St w0 h0 L h w→(results fn a.tmps).run P w=.ok v w)(hR:RO h v L'):GQ n w0 h0 (bodyPost P fn (tK w0 h0 RO)) .ret e L h:=by
 intro a w E S;exact bodyPost_ret (hres E S) E.defers ⟨_,h,L',rfl,hR,S.sublist hs⟩
def fZ(xs:List α)(i:Nat):List α:=xs.take (i+1)++(xs.drop i).take (xs.length-i-1)
theorem gA{xs:List α}{i:Nat}(h:i<xs.length):(fZ xs i).length=xs.length:=by
 unfold fZ;rw[lAz,List.length_take,List.length_take,List.length_drop];omega
theorem zQP{ρ:Rp α}{cs:List Value}{xs:List α}{i:Nat}(hi:i<xs.length)(r:RL ρ h cs xs):RL ρ h (iA cs ((i+1)*ρ.n) ((cs.drop (i*ρ.n)).take ((xs.length-i-1)*ρ.n))) (fZ xs i):=by
 have C:=r.len;have h1:=(r.drop i).take (xs.length-i-1);have h2:=r.take (i+1);have G:xs.length*ρ.n=(i+1)*ρ.n+(xs.length-i-1)*ρ.n:=by rw[←Nat.add_mul];congr 1;omega
 have D:(i+1)*ρ.n=i*ρ.n+ρ.n:=Nat.succ_mul _ _;have z:((cs.drop (i*ρ.n)).take ((xs.length-i-1)*ρ.n)).length=(xs.length-i-1)*ρ.n:=by rw[List.length_take,List.length_drop];omega
 rw[zCG _ _ _ (by omega),z,show cs.drop ((i+1)*ρ.n+(xs.length-i-1)*ρ.n)=[] from List.drop_of_length_le (by omega),List.append_nil];exact h2.append h1
theorem lD{l:List α}{z x:α}{k:Nat}(h:k≤l.length):(fZ (l++[z]) k).set k x=eT l k x:=by
 unfold fZ eT;have G:(l++[z]).length-k-1=l.length-k:=by rw[lAz,List.length_singleton];omega
 have D:((l++[z]).drop k).take (l.length-k)=l.drop k:=by
  rw[List.drop_append_of_le_length h,List.take_append_of_le_length (by rw[List.length_drop];omega),List.take_of_length_le (by rw[List.length_drop];omega)]
 have C:k<(l++[z]).length:=by rw[lAz,List.length_singleton];omega
 rw[G,D,List.take_succ_eq_append_getElem C,List.append_assoc,List.set_append_right _ _ (by rw[List.length_take];omega),List.length_take,show k-min k (l++[z]).length=0 by omega];rw[List.take_append_of_le_length h]
 rfl
theorem lF{A B:List Res}{t E b cap:Nat}{v:Value}{cs:List Value}{x y:Operand}{ρ:Rp α}{xs:List α}(i:Nat)(hv:v=.slice (some ⟨b,0,none⟩) xs.length cap)(hmc:xs.length≤cap)(ht:P.underlying t=some (.slice E))(hsz:∀w,(Go.sizeOf E).run P w=.ok ρ.n w)
    (hx:zG e x=some (gL ρ.n v (i+1) xs.length))(hy:zG e y=some (gL ρ.n v i xs.length))(hi:i<xs.length)(r:RL ρ h cs xs):
    zA8 P n w0 h0 ⟨ds,.call {callee:=.builtin .copy,args:=#[x,y],argTypes:=#[t,t]},ty,ps,af,gd⟩ e A (.gs E ρ.n v xs.length cs) B h (fun u r'=>∃cs',r'=.gs E ρ.n v (fZ xs i).length cs'∧RL ρ h cs' (fZ xs i)):=by
 intro a w O S;have C:w.ownsRow w0.heap.size E ρ.n v xs.length cs:=S.ok (.gs E ρ.n v xs.length cs) (by simp);have ad:=C.1;subst hv;have ab:=zQP hi r;have e1:xs.length*ρ.n=(i+1)*ρ.n+(xs.length-i-1)*ρ.n:=by rw[←Nat.add_mul];congr 1;omega
 have e2:(i+1)*ρ.n=i*ρ.n+ρ.n:=Nat.succ_mul _ _;have H:((cs.drop (i*ρ.n)).take ((xs.length-i-1)*ρ.n)).length=(xs.length-i-1)*ρ.n:=by rw[List.length_take,List.length_drop];omega
 have I:∀j u,((cs.drop (i*ρ.n)).take ((xs.length-i-1)*ρ.n))[j]?=some u→cs[i*ρ.n+j]?=some u:=fun j u D=>by
  rw[List.getElem?_take] at D
  split at D
  · rwa [List.getElem?_drop] at D
  · cases D
 have M:∀u∈(cs.drop (i*ρ.n)).take ((xs.length-i-1)*ρ.n),u.oneCell'=true:=fun u hu=>List.all_eq_true.1 r.one u (List.mem_of_mem_drop (List.mem_of_mem_take hu));generalize (cs.drop (i*ρ.n)).take ((xs.length-i-1)*ρ.n)=vs at *;obtain⟨h1,h2⟩:=aW vs ((i+1)*ρ.n) cs w C;have aa:=gA (xs:=xs) hi;have z:(loadCells ⟨b,i*ρ.n,none⟩ ((xs.length-i-1)*ρ.n)).run P w=.ok vs.toArray w:=by
  have:=run_loadCells_list (P:=P) (w:=w) ⟨b,i*ρ.n,none⟩ vs fun j u D=>by
   have h3:=C.cellAt (i*ρ.n+j) (by have:=(List.getElem?_eq_some_iff.1 (I j u D)).1;omega);rw[I j u D] at h3;rw[show(⟨b,i*ρ.n,none⟩:Addr).add j=⟨b,i*ρ.n+j,none⟩ from qV _ _ _];exact h3
  rwa [H] at this
 have J:=run_storeCells_cells (P:=P) b ((i+1)*ρ.n) vs 0 w (fun j D=>by
  have h4:=C.cellAt ((i+1)*ρ.n+j) (by omega);rw[List.getElem?_eq_getElem (by omega)] at h4;simp[h4]) (fun j D=>by simpa using C.frozenAt ((i+1)*ρ.n+j)) M
 simp only[Nat.add_zero] at J;refine⟨vI ↑(xs.length-i-1),w.setCells b ((i+1)*ρ.n) vs,.gs E ρ.n (.slice (some ⟨b,0,none⟩) xs.length cap) xs.length (iA cs ((i+1)*ρ.n) vs),?_,h2,h1,fun b' hb=>.inl hb,_,by rw[aa],ab⟩;have G:Nat.min (xs.length-i) (xs.length-(i+1))=xs.length-i-1:=by show min _ _=_;omega
 have ac:¬cap=i:=by omega
 simp only[gL,ac,if_false,Option.map_some] at hx hy;rw[show(⟨b,0,none⟩:Addr).add (i*ρ.n)=⟨b,i*ρ.n,none⟩ by simp[qV]] at hy
 by_cases hc:cap=i+1
 · have U:xs.length-i-1=0:=by omega
   have Z:vs=[]:=List.eq_nil_of_length_eq_zero (by rw[H,U,Nat.zero_mul]);subst Z;simp only[hc,if_true] at hx;rw[U,Nat.zero_mul] at z;simp[execOp,resolve,invoke,builtin,O.eval hx,O.eval hy,Builtin.copy_,run_underlying ht,Builtin.lenOf,Builtin.firstCells,hsz,G,U,z,storeCells,World.setCells,goInt,vI]
 · simp only[hc,if_false] at hx
   rw[show(⟨b,0,none⟩:Addr).add ((i+1)*ρ.n)=⟨b,(i+1)*ρ.n,none⟩ by simp[qV]] at hx;simp[execOp,resolve,invoke,builtin,O.eval hx,O.eval hy,Builtin.copy_,run_underlying ht,Builtin.lenOf,Builtin.firstCells,hsz,G,z,J,goInt,vI]
end
end Bk
namespace Bk
set_option linter.unusedVariables false
set_option linter.unusedSimpArgs false
open Go Go.RowKit
open Classical
abbrev tII:Rp (List (List Int)):=rpS (rpS rpI)
abbrev tE5:Rp (Int×Int×Int×Int×Int):=rpP rpI (rpP rpI (rpP rpI (rpP rpI rpI)))
abbrev tPt(k:Nat):Rp (T3 Rat):=rpT (rpQ k)
abbrev tLs(k:Nat):Rp (List (T3 Rat)):=rpS (rpT (rpQ k))
abbrev tLL(k:Nat):Rp (List (List (T3 Rat))):=rpS (rpS (rpT (rpQ k)))
abbrev tPl(k l:Nat):Rp (T3 Rat×Rat):=rpP (rpT (rpQ k)) (rpQ l)
abbrev Tq:=T3 Rat
abbrev Pq:=T3 Rat×Rat
abbrev Sq:=List (T3 Rat)×List ((T3 Rat×Rat)×List (List Int)×List Nat)×List (Int×Int×Rat)
abbrev tFc(k l:Nat):Rp ((T3 Rat×Rat)×List (List Int)×List Nat):=rpP (rpP (rpT (rpQ k)) (rpQ l)) (rpP (rpS (rpS rpI)) kF)
abbrev tSd(k m n j:Nat):Rp Sq:=rpP (rpS (rpT (rpQ k))) (rpP (rpS (rpP (rpP (rpT (rpQ m)) (rpQ n)) (rpP (rpS (rpS rpI)) kF))) (rpS (rpP rpI (rpP rpI (rpQ j)))))
abbrev zZ(p:T3 Rat):T3 Rat:=T3.mk p.x p.y (0:Rat)
abbrev pU(PP:List (T3 Rat))(sB:Value)(j:Int):T3 Rat:=((PP,(sB,([]:List (Int×Int×Rat)))).1).getD j.toNat zT
abbrev nU(PP:List (T3 Rat))(sB:Value)(I:List Int)(q:Nat):T3 Rat:=T3.mk ((((PP,(sB,([]:List (Int×Int×Rat)))).1).getD ((I.getD ((q+1)%I.length) 0).toNat) zT).y-(((PP,(sB,([]:List (Int×Int×Rat)))).1).getD ((I.getD q 0).toNat) zT).y) (-((((PP,(sB,([]:List (Int×Int×Rat)))).1).getD ((I.getD ((q+1)%I.length) 0).toNat) zT).x-(((PP,(sB,([]:List (Int×Int×Rat)))).1).getD ((I.getD q 0).toNat) zT).x)) (0:Rat)
abbrev lU(I:List Int)(q:Nat)(BB:List (T3 Rat)):List Int:=[(I.getD q (0:Int)),(I.getD ((q+1)%I.length) (0:Int)),((I.getD ((q+1)%I.length) (0:Int))+(↑BB.length:Int)),((I.getD q (0:Int))+(↑BB.length:Int))]
abbrev e50:Int×Int×Int×Int×Int:=((0:Int),((0:Int),((0:Int),((0:Int),(0:Int)))))
theorem dK{R A B:List Res}{q:Res}(hR:∀r∈R,r∈A++B:=by first|(simp;done)|grind):∀r∈R,r∈A++q::B→r∈A++B:=zPP hR
theorem oM{p:Prop}(f:p:=by omega):p:=f
theorem dC{p:Prop}(f:p:=by decide):p:=f
theorem rP{p:Prop}(f:p:=by first|rfl|(push_cast;rfl)):p:=f
theorem nP{p:Prop}(f:p:=by exact Nat.le_of_ble_eq_true rfl):p:=f
theorem bO{p:Prop}(f:p:=by first|omega|(simp only[lAz,lC,lN,lR,lS];omega)):p:=f
theorem mle{h h':Mem}(f:MLe h h':=by with_reducible repeat (first|exact MLe.refl _|assumption|refine MLe.trans ?_ (by assumption))):MLe h h':=f
theorem Rp.Is.up{α:Type}{ρ:Rp α}{h h':Mem}{v:Value}{x:α}(r:ρ.Is h v x)(hm:MLe h h':=by exact mle):ρ.Is h' v x:=r.mono hm
theorem Rp.R.up{α:Type}{ρ:Rp α}{h h':Mem}{cs:List Value}{x:α}(r:ρ.R h cs x)(hm:MLe h h':=by exact mle):ρ.R h' cs x:=Rp.mono ρ hm r
theorem RL.up{α:Type}{ρ:Rp α}{h h':Mem}{cs:List Value}{xs:List α}(r:RL ρ h cs xs)(hm:MLe h h':=by exact mle):RL ρ h' cs xs:=RL.mono hm r
theorem AtP.up{α:Type}{ρ:Rp α}{h h':Mem}{p:Value}{X:α}(r:AtP ρ h p X)(hm:MLe h h':=by exact mle):AtP ρ h' p X:=r.mono hm
theorem Us.up{k:IntKind}{h h':Mem}{v:Value}{xs:List Nat}(r:Us k h v xs)(hm:MLe h h':=by exact mle):Us k h' v xs:=r.mono hm
class Und(P:Program)(t:TypeId) where
 d:TypeDesc
 h:P.underlying t=some d
class Siz(P:Program)(t:TypeId) where
 k:Nat
 h:∀w,(Go.sizeOf t).run P w=.ok k w
class Agg(P:Program)(t:TypeId) where
 b:Bool
 h:∀w,(isAgg t).run P w=.ok b w
class Inf(P:Program)(t:TypeId) where
 k:Nat
 h:(P.info? t).map (·.size)=some k
theorem uu{P:Program}{t:TypeId}{d:TypeDesc}(f:P.underlying t=some d:=by exact Und.h):P.underlying t=some d:=f
theorem uz{P:Program}{t:TypeId}{k:Nat}(f:∀w,(Go.sizeOf t).run P w=.ok k w:=by exact Siz.h):∀w,(Go.sizeOf t).run P w=.ok k w:=f
theorem ua{P:Program}{t:TypeId}{k:Bool}(f:∀w,(isAgg t).run P w=.ok k w:=by exact Agg.h):∀w,(isAgg t).run P w=.ok k w:=f
theorem us_{P:Program}{t:TypeId}{k:Nat}(f:(P.info? t).map (·.size)=some k:=by exact Inf.h):(P.info? t).map (·.size)=some k:=f
section
variable {α β γ:Type}
variable {P:Program}{n:Nat}{w0:World}{h0:Mem}{e:List (Nat×Value)}{L:List Res}{h:Mem}{Q:Exit→Act→World→Prop}
variable {ds:Option Tmp}{ty:TypeId}{ps:String}{af:Array Edge}{gd:Option (Nat×Bool)}
variable {ops:Array Oper}{rest:List Oper}{RR:List Res}{al:Als}{d i:Nat}{op:Op}{v:Value}{r:List (Nat×Kd)}{g t:Nat}{b:Bool}
theorem xV{o:Oper}{R:List Res}{ρ:Rp α}{X Z:α}(hv:OpX P n w0 h0 o e R h (fun u=>ρ.Is h u X))(hZ:X=Z:=by first|(dsimp only<;>exact rfl)|exact rfl):OpX P n w0 h0 o e R h (fun u=>ρ.Is h u Z):=hZ▸hv
theorem mmx{L R:List Res}(f:∀r∈R,r∈L:=by first|exact zC6|exact tW mh0|exact tW mh1|exact tW mh2|exact tW mh3|exact tW mh4|exact tW mh5|exact tW mh6|exact tW mh7|exact tW (.tail _ mh7)|exact tW (.tail _ (.tail _ mh7))|exact tW (.tail _ (.tail _ (.tail _ mh7)))):∀r∈R,r∈L:=f
theorem lX{R:List Res}{F:Value→Prop}(hv:OpX P n w0 h0 ⟨some d,op,ty,ps,af,none⟩ e R h F)(k:∀v,F v→GL P n w0 h0 ops Q rest ((d,v)::e) L h)(hR:∀r∈R,r∈L:=by exact mmx)(hn:Nat.ble (d+1) n=true:=by exact rfl):GL P n w0 h0 ops Q (⟨some d,op,ty,ps,af,none⟩::rest) e L h:=zGW hv hR hn k
theorem wX{R:List Res}{F:Value→Prop}(ho:ops.getD i default=⟨some d,op,ty,ps,af,none⟩)(hv:OpX P n w0 h0 ⟨some d,op,ty,ps,af,none⟩ e R h F)(k:∀v,F v→W P n w0 h0 ops Q RR al r ((d,v)::e) L h)(hR:∀r∈R,r∈RR:=by exact mmx)(hn:Nat.ble (d+1) n=true:=by exact rfl):W P n w0 h0 ops Q RR al ((i,.q)::r) e L h:=mS ho hv hR hn k
theorem xX{K:List (Nat×Value)→List Res→Mem→Prop}{R:List Res}{F:Value→Prop}(ho:ops.getD i default=⟨some d,op,ty,ps,af,none⟩)(hv:OpX P n w0 h0 ⟨some d,op,ty,ps,af,none⟩ e R h F)(k:∀v,F v→K ((d,v)::e) L h)(hR:∀r∈R,r∈RR:=by exact mmx)(hn:Nat.ble (d+1) n=true:=by exact rfl):SQ P n w0 h0 ops RR i e L h K:=x_qx ho hv hR hn k
theorem oX{R:List Res}{F:Value→Prop}(ho:ops.getD i default=⟨some d,op,ty,ps,af,some (g,b)⟩)(hv:OpX P n w0 h0 ⟨some d,op,ty,ps,af,none⟩ e R h F)(k:∀v,F v→W P n w0 h0 ops Q RR al r ((d,v)::e) L h)(ht:(ops[g]?).bind (·.dst)=some t:=by exact rfl)(he:e.lookup t=some (.bool b):=by exact rfl)(hR:∀r∈R,r∈RR:=by exact mmx)(hn:Nat.ble (d+1) n=true:=by exact rfl):W P n w0 h0 ops Q RR al ((i,.q)::r) e L h:=aH ho ht he hv hR hn k
theorem sX{W':List (Nat×Value)→List Res→Mem→Prop}{R:List Res}{F:Value→Prop}(hv:OpX P n w0 h0 ⟨some d,op,ty,ps,af,none⟩ e R h F)(k:∀v,F v→W' ((d,v)::e) L h)(hR:∀r∈R,r∈L:=by exact mmx)(hn:Nat.ble (d+1) n=true:=by exact rfl):jJ P n w0 h0 ops RR ⟨some d,op,ty,ps,af,none⟩ e L h W':=s_x hv hR hn k
theorem xB{t E:TypeId}{x:Operand}{b k off:Nat}{cs:List Value}{ρ:Rp α}{σ:Rp β}{g:α→β}{s:α→β→α}{X:α}{Z:β}(T:TyOk P t σ.n σ.agg)(pc:Pc ρ off σ g s){h1:Mem}(r:ρ.R h1 cs X)(hx:zG e x=some (vP b k):=by exact rfl)(ho:k=off:=by exact rfl)(hZ:g X=Z:=by first|(dsimp only<;>exact rfl)|exact rfl)(hm:MLe h1 h:=by exact mle):
 OpX P n w0 h0 ⟨ds,.load t x,ty,ps,af,gd⟩ e [.var b E cs] h (fun u=>σ.Is h u Z):=zH5 T pc ho hx (r.up hm) hZ
theorem xA{t:TypeId}{x:Operand}{p:Value}{ρ:Rp α}{X:α}(T:TyOk P t ρ.n ρ.agg){h1:Mem}(r:AtP ρ h1 p X)(hx:zG e x=some p:=by exact rfl)(hm:MLe h1 h:=by exact mle):OpX P n w0 h0 ⟨ds,.load t x,ty,ps,af,gd⟩ e [] h (fun u=>ρ.Is h u X):=zKK T hx (r.up hm)
theorem xI{t E:TypeId}{x y:Operand}{q:Int}{v:Value}{ρ:Rp α}{xs:List α}(d:α)(i:Nat)(ht:P.underlying t=some (.slice E))(T:TyOk P E ρ.n ρ.agg){h1:Mem}(r:(rpS ρ).Is h1 v xs)(hx:zG e x=some v:=by exact rfl)(hy:zG e y=some (vI q):=by exact rfl)(hq:q=(i:Int):=by first|exact rfl|(push_cast;exact rfl)|omega)(hi:i<xs.length:=by omega)(hp:0<ρ.n:=by exact Nat.le_of_ble_eq_true rfl)(hm:MLe h1 h:=by exact mle):
 OpX P n w0 h0 ⟨ds,.indexAddr t x y,ty,ps,af,gd⟩ e [] h (fun u=>AtP ρ h u (xs.getD i d)):=bN d i ht T hx hy (r.up hm) hq hi hp
theorem xF{t:TypeId}{x:Operand}{f off m:Nat}{fs:Array Field}{fl:Field}{p:Value}{ρ:Rp α}{σ:Rp β}{g:α→β}{s:α→β→α}{X:α}{Z:β}(ht:P.underlying t=some (.struct fs))(hsz:∀w,(Go.sizeOf fl.type).run P w=.ok (m+1) w)(pc:Pc ρ off σ g s){h1:Mem}(r:AtP ρ h1 p X)(hf:fs[f]?=some fl:=by exact rfl)(ho:fl.offset=off:=by exact rfl)(hx:zG e x=some p:=by exact rfl)(hZ:g X=Z:=by first|(dsimp only<;>exact rfl)|exact rfl)(hm:MLe h1 h:=by exact mle):
 OpX P n w0 h0 ⟨ds,.fieldAddr t x f,ty,ps,af,gd⟩ e [] h (fun u=>AtP σ h u Z):=zOJ ht hf hsz pc ho hx (r.up hm) hZ
theorem uB{E t:TypeId}{b k off:Nat}{cs:List Value}{v:Value}{x y:Operand}{ρ:Rp α}{σ:Rp β}{g:α→β}{s:α→β→α}{X Z:α}{Y:β}(hsz:∀w,(Go.sizeOf t).run P w=.ok σ.n w)(pc:Pc ρ off σ g s){h1 h2:Mem}(r:ρ.R h1 cs X)(ry:σ.Is h2 v Y)(hx:zG e x=some (vP b k):=by exact rfl)(ho:k=off:=by exact rfl)(hy:zG e y=some v:=by exact rfl)(hZ:s X Y=Z:=by first|(dsimp only<;>exact rfl)|exact rfl)(hm:MLe h1 h:=by exact mle)(hm2:MLe h2 h:=by exact mle):
 ∃cs',ρ.R h cs' Z∧∀A B,Upd P n w0 h0 ⟨ds,.store t x y,ty,ps,af,gd⟩ e A (.var b E cs) B h (.var b E cs'):=zUP hsz pc ho hx hy (r.up hm) (ry.up hm2) hZ
theorem pH{ρ:Rp α}:Pc ρ 0 ρ (fun x=>x) (fun _ y=>y):=Pc.here ρ
theorem ev1{x:Operand}{v:Value}(hx:zG e x=some v):pC e [x] [v]:=⟨hx,trivial⟩
theorem ev2{x y:Operand}{v u:Value}(hx:zG e x=some v)(hy:zG e y=some u):pC e [x,y] [v,u]:=⟨hx,hy,trivial⟩
theorem ev3{x y z:Operand}{v u s:Value}(hx:zG e x=some v)(hy:zG e y=some u)(hz:zG e z=some s):pC e [x,y,z] [v,u,s]:=⟨hx,hy,hz,trivial⟩
theorem ev4{x y z a:Operand}{v u s c:Value}(hx:zG e x=some v)(hy:zG e y=some u)(hz:zG e z=some s)(ha:zG e a=some c):pC e [x,y,z,a] [v,u,s,c]:=⟨hx,hy,hz,ha,trivial⟩
theorem cL{f:Nat}{xs:List Operand}{ts:Array TypeId}{vs:List Value}{R:Mem→Value→Prop}(hvs:pC e xs vs)(hcall:∀args w,(callFunc f args).run P w=.ok (.enter f args) w)(hc:∀w,MLe h (mem w)→Calls P f vs.toArray w (Ret w h R))(k:∀v h',MLe h h'→R h' v→GL P n w0 h0 ops Q rest ((d,v)::e) L h')(hn:Nat.ble (d+1) n=true:=by exact rfl):
 GL P n w0 h0 ops Q (⟨some d,.call {callee:=.value (.func f),args:=xs.toArray,argTypes:=ts},ty,ps,af,none⟩::rest) e L h:=zWN (o:=⟨some d,.call {callee:=.value (.func f),args:=xs.toArray,argTypes:=ts},ty,ps,af,none⟩) rfl rfl rfl hn hcall hvs hc k
theorem sC{W':List (Nat×Value)→List Res→Mem→Prop}{f:Nat}{xs:List Operand}{ts:Array TypeId}{vs:List Value}{R':Mem→Value→Prop}(hvs:pC e xs vs)(hcall:∀args w,(callFunc f args).run P w=.ok (.enter f args) w)(hc:∀w,MLe h (mem w)→Calls P f vs.toArray w (Ret w h R'))(k:∀v h',MLe h h'→R' h' v→W' ((d,v)::e) L h')(hn:Nat.ble (d+1) n=true:=by exact rfl):
 jJ P n w0 h0 ops RR ⟨some d,.call {callee:=.value (.func f),args:=xs.toArray,argTypes:=ts},ty,ps,af,none⟩ e L h W':=zZI hcall hvs hc hn k
theorem nB{E:TypeId}{x:Operand}{v:Value}{ρ:Rp α}{X:α}{h1:Mem}(r:ρ.Is h1 v X)(k:∀b cs,ρ.R h cs X→GL P n w0 h0 ops Q rest ((d,vP b 0)::e) (.var b E cs::L) h)(hx:zG e x=some v:=by exact rfl)(hn:Nat.ble (d+1) n=true:=by exact rfl)(hm:MLe h1 h:=by exact mle):GL P n w0 h0 ops Q (⟨some d,.box E x,ty,ps,af,none⟩::rest) e L h:=
 zI (zSD hx (r.up hm)) rfl rfl hn fun v q C=>by obtain⟨b,cs,rfl,rfl,z⟩:=C;exact k b cs z
theorem nA{E:TypeId}{i:TypeInfo}{z:Value}{cs:List Value}{ρ:Rp α}{X:α}(hi:P.info? E=some i)(r:ρ.R h cs X)(k:∀b cs,ρ.R h cs X→GL P n w0 h0 ops Q rest ((d,vP b 0)::e) (.var b E cs::L) h)(hz:i.zero=some z:=by exact rfl)(hc:z.cells=cs.toArray:=by exact rfl)(hn:Nat.ble (d+1) n=true:=by exact rfl):GL P n w0 h0 ops Q (⟨some d,.alloc E,ty,ps,af,none⟩::rest) e L h:=
 zI (zK8 hi hz hc r) rfl rfl hn fun v q D=>by obtain⟨b,cs,rfl,rfl,C⟩:=D;exact k b cs C
theorem cnd{c:Operand}{x y:Code}{p:Prop}(kt:p→GC P n w0 h0 x Q e L h)(kf:¬p→GC P n w0 h0 y Q e L h)(hc:zG e c=some (vB p):=by exact rfl):GC P n w0 h0 (.cond c x y) Q e L h:=zWO hc kt kf
theorem gT{p:Prop}{v:Operand}(hg:p)(hv:zG e v=some (vB p))(k:GL P n w0 h0 ops Q rest ((d,.bool true)::e) L h)(hn:Nat.ble (d+1) n=true:=by exact rfl):GL P n w0 h0 ops Q (⟨some d,.move v,ty,ps,af,none⟩::rest) e L h:=mG (yQ (hv.trans (congrArg some (xE hg)))) rfl rfl hn k
theorem gF{p:Prop}{v:Operand}(hg:¬p)(hv:zG e v=some (vB p))(k:GL P n w0 h0 ops Q rest ((d,.bool false)::e) L h)(hn:Nat.ble (d+1) n=true:=by exact rfl):GL P n w0 h0 ops Q (⟨some d,.move v,ty,ps,af,none⟩::rest) e L h:=mG (yQ (hv.trans (congrArg some (yJ hg)))) rfl rfl hn k
theorem gU{l:List Oper}(j t:Nat)(v:Value)(kx:GL P n w0 h0 ops (Exit.then (fun a w=>∃i:Unit,True∧Env n ((t,v)::e) a∧St w0 h0 L h w) Q) (l.take j) e L h)(ky:GL P n w0 h0 ops Q (l.drop j) ((t,v)::e) L h):GL P n w0 h0 ops Q l e L h:=uS j (fun _=>True) (fun _=>(t,v)::e) (fun _=>L) (fun _=>h) kx fun _ _=>ky
@[reducible] def zPZ:List Nat→List (Nat×Value)→List (Nat×Value)→Prop
  |_,[],_=>True
  |s,(t,v)::r,e=>(if s.contains t then True else e.lookup t=some v)∧zPZ (t::s) r e
theorem zPZ.look{e:List (Nat×Value)}:∀{e0:List (Nat×Value)} {s:List Nat},zPZ s e0 e→∀t v,s.contains t=false→e0.lookup t=some v→e.lookup t=some v
  |[],_,_,t,v,_,h=>by simp at h
  |(k,u)::r,s,hs,t,v,hn,h=>by
   simp only[List.lookup_cons] at h
   by_cases ht:t=k
   · subst ht
     simp at h;subst h;have:=hs.1
     rwa [if_neg (by rw[hn];simp)] at this
   · have h1:(t==k)=false:=by simpa using ht
     rw[h1] at h;refine zPZ.look hs.2 t v ?_ h;rw[List.contains_cons,h1,hn];rfl
theorem Env.subS{e0:List (Nat×Value)}{a:Act}(E:Env n e a)(h:zPZ [] e0 e):Env n e0 a:=⟨E.defers,E.size,fun t v ht=>E.get t v (h.look t v rfl ht)⟩
theorem gqU{e0:List (Nat×Value)}{t:Nat}{v:Value}(hv:e.lookup t=some v)(hs:zPZ [t] e0 e:=by repeat (first|exact trivial|refine⟨by first|exact rfl|exact trivial,?_⟩)):GQ n w0 h0 (Exit.then (fun a w=>∃i:Unit,True∧Env n ((t,v)::e0) a∧St w0 h0 L h w) Q) .normal e L h:=fun a w E S=>⟨(),trivial,E.subS ⟨hv,hs⟩,S⟩
theorem gcL{ι:Type}{c:Code}{A:Prop}(S:ι→Prop×List (Nat×Value)×List Res×Mem×Nat)(i0:ι)(hi0:A)(round:∀i,(S i).1→GC P n w0 h0 c (Exit.then (fun a w=>∃j,((S j).1∧(S j).2.2.2.2<(S i).2.2.2.2)∧Env n (S j).2.1 a∧St w0 h0 (S j).2.2.1 (S j).2.2.2.1 w) Q) (S i).2.1 (S i).2.2.1 (S i).2.2.2.1)
    (hA:(S i0).1=A:=by first|(dsimp only<;>exact rfl)|exact rfl)(he:Sub (S i0).2.1 e:=by repeat (first|exact trivial|refine⟨rfl,?_⟩))(hL:(S i0).2.2.1=L:=by exact rfl)(hh:(S i0).2.2.2.1=h:=by exact rfl):GC P n w0 h0 (.loop c) Q e L h:=
 kE (fun i=>(S i).1) (fun i=>(S i).2.1) (fun i=>(S i).2.2.1) (fun i=>(S i).2.2.2.1) (fun i=>(S i).2.2.2.2) i0 (hA▸hi0) he hL hh round
theorem gqL{ι:Type}{A:Prop}{B M m:Nat}{S:ι→Prop×List (Nat×Value)×List Res×Mem×Nat}(i:ι)(hi:A)(hm:B<M)(hA:(S i).1=A:=by first|(dsimp only<;>exact rfl)|exact rfl)(hB:(S i).2.2.2.2=B:=by first|(dsimp only<;>exact rfl)|exact rfl)(hM:m=M:=by first|(dsimp only<;>exact rfl)|exact rfl)(he:Sub (S i).2.1 e:=by repeat (first|exact trivial|refine⟨rfl,?_⟩))(hL:(S i).2.2.1=L:=by exact rfl)(hh:(S i).2.2.2.1=h:=by exact rfl):
 GQ n w0 h0 (Exit.then (fun a w=>∃j,((S j).1∧(S j).2.2.2.2<m)∧Env n (S j).2.1 a∧St w0 h0 (S j).2.2.1 (S j).2.2.2.1 w) Q) .normal e L h:=
 qS (inv:=fun i=>(S i).1) (ev:=fun i=>(S i).2.1) (Lv:=fun i=>(S i).2.2.1) (hv:=fun i=>(S i).2.2.2.1) (μ:=fun i=>(S i).2.2.2.2) i (hA▸hi) (by rw[hM];exact hB▸hm) he hL hh
theorem cb0{f:FuncId}{fn:Func}{c:Code}{R:Ending→World→Prop}(n:Nat)(hf:P.funcs[f]?=some fn)(hs:MLe h0 (mem w0))(k:GC P n w0 h0 c (bodyPost P fn R) [] [] h0)(hb:fn.body=some c:=by exact rfl)(hn:fn.ntmps=n:=by exact rfl)(hl:([]:List Value).length≤n:=by exact Nat.le_of_ble_eq_true rfl):Calls P f #[] w0 R:=qM (e:=[]) (vs:=[]) hf hb hn hl hs trivial k
theorem cb1{f:FuncId}{fn:Func}{c:Code}{R:Ending→World→Prop}(n:Nat)(v:Value)(hf:P.funcs[f]?=some fn)(hs:MLe h0 (mem w0))(k:GC P n w0 h0 c (bodyPost P fn R) [(0,v)] [] h0)(hb:fn.body=some c:=by exact rfl)(hn:fn.ntmps=n:=by exact rfl)(hl:[v].length≤n:=by exact Nat.le_of_ble_eq_true rfl):Calls P f #[v] w0 R:=qM (e:=[(0,v)]) (vs:=[v]) hf hb hn hl hs ⟨rfl,trivial⟩ k
theorem cb2{f:FuncId}{fn:Func}{c:Code}{R:Ending→World→Prop}(n:Nat)(v u:Value)(hf:P.funcs[f]?=some fn)(hs:MLe h0 (mem w0))(k:GC P n w0 h0 c (bodyPost P fn R) [(0,v),(1,u)] [] h0)(hb:fn.body=some c:=by exact rfl)(hn:fn.ntmps=n:=by exact rfl)(hl:[v,u].length≤n:=by exact Nat.le_of_ble_eq_true rfl):Calls P f #[v,u] w0 R:=qM (e:=[(0,v),(1,u)]) (vs:=[v,u]) hf hb hn hl hs e2z k
theorem cb3{f:FuncId}{fn:Func}{c:Code}{R:Ending→World→Prop}(n:Nat)(v u s:Value)(hf:P.funcs[f]?=some fn)(hs:MLe h0 (mem w0))(k:GC P n w0 h0 c (bodyPost P fn R) [(0,v),(1,u),(2,s)] [] h0)(hb:fn.body=some c:=by exact rfl)(hn:fn.ntmps=n:=by exact rfl)(hl:[v,u,s].length≤n:=by exact Nat.le_of_ble_eq_true rfl):Calls P f #[v,u,s] w0 R:=qM (e:=[(0,v),(1,u),(2,s)]) (vs:=[v,u,s]) hf hb hn hl hs e3z k
def qq(a:Nat):Nat→List (Nat×Kd)→List (Nat×Kd)
  |0,r=>r
  |n+1,r=>(a,.q)::qq (a+1) n r
def frz(m:Nat)(l:List Nat):List Nat:=l.map (m-·)
theorem yW{c:Code}{e':List (Nat×Value)}{L':List Res}{h':Mem}(k:GC P n w0 h0 c Q e' L' h')(he:e=e':=by first|(dsimp only<;>exact rfl)|exact rfl)(hL:L=L':=by first|(dsimp only<;>exact rfl)|exact rfl)(hh:h=h':=by first|(dsimp only<;>exact rfl)|exact rfl):GC P n w0 h0 c Q e L h:=by subst he hL hh;exact k
theorem sE{l:List Oper}{e':List (Nat×Value)}{L':List Res}{h':Mem}(k:GL P n w0 h0 ops Q l e' L' h')(he:e=e':=by first|(dsimp only<;>exact rfl)|exact rfl)(hL:L=L':=by first|(dsimp only<;>exact rfl)|exact rfl)(hh:h=h':=by first|(dsimp only<;>exact rfl)|exact rfl):GL P n w0 h0 ops Q l e L h:=by subst he hL hh;exact k
end
end Bk
namespace Bk
set_option linter.unusedVariables false
open Go Go.RowKit
def frc(x:Nat)(f:Nat→Bool):Bool:=match x with|0=>f 0|n+1=>f (n+1)
theorem yAR(x:Nat)(f:Nat→Bool):frc x f=f x:=by cases x<;>rfl
def zWP:List Nat→(List Nat→Bool)→Bool
  |[],f=>f []
  |x::r,f=>frc x fun y=>zWP r fun ys=>f (y::ys)
theorem zM6:∀(l:List Nat) (f:List Nat→Bool),zWP l f=f l
  |[],f=>rfl
  |x::r,f=>by show frc x _=_;rw[yAR,zM6 r]
def zNO(l:List Oper)(m:Nat)(al:Als)(ord:List (Nat×Kd)):Bool:=
 Region.noSelect l.toArray&&rZ l.toArray al&&(al.all fun x=>decide (x.1<m))&&(l.all fun o=>o.after.all fun e=>decide (e.on<l.length))&&(zWP (l.map k8) fun ams=>zWP ((List.range l.length).map (zJA l.toArray ams)) fun frs=>nF l.toArray l.length m ams frs ord 0 (al.map (·.1)))
theorem wI{l:List Oper}{m:Nat}{al:Als}{ord:List (Nat×Kd)}(h:zNO l m al ord=true):
 (Region.noSelect l.toArray&&rZ l.toArray al&&(al.all fun x=>decide (x.1<m))&&chk l.toArray m ord (Array.replicate l.length false) (al.map (·.1)))=true:=by
 refine yBA (l.map k8) ((List.range l.length).map (zJA l.toArray (l.map k8))) ?_;simp only[zNO,Bool.and_eq_true,zM6] at h;simp only[zLZ,Bool.and_eq_true];exact⟨⟨h.1,by simp[mR]⟩,h.2⟩
end Bk
namespace Go.Proofs.YtpkaegemlpaenaaGreat
open Bk Go Tryz
set_option linter.unusedVariables false
instance:Und Tryz.prog 2:=⟨_,underlying2⟩
instance:Und Tryz.prog 3:=⟨_,underlying3⟩
instance:Und Tryz.prog 4:=⟨_,underlying4⟩
instance:Und Tryz.prog 5:=⟨_,underlying5⟩
instance:Und Tryz.prog 9:=⟨_,underlying9⟩
instance:Und Tryz.prog 22:=⟨_,underlying22⟩
instance:Und Tryz.prog 25:=⟨_,underlying25⟩
instance:Und Tryz.prog 27:=⟨_,underlying27⟩
instance:Und Tryz.prog 28:=⟨_,underlying28⟩
instance:Und Tryz.prog 29:=⟨_,underlying29⟩
instance:Und Tryz.prog 30:=⟨_,underlying30⟩
instance:Und Tryz.prog 31:=⟨_,underlying31⟩
instance:Und Tryz.prog 35:=⟨_,underlying35⟩
instance:Und Tryz.prog 36:=⟨_,underlying36⟩
instance:Und Tryz.prog 37:=⟨_,underlying37⟩
instance:Und Tryz.prog 38:=⟨_,underlying38⟩
instance:Und Tryz.prog 39:=⟨_,underlying39⟩
instance:Und Tryz.prog 40:=⟨_,underlying40⟩
instance:Und Tryz.prog 49:=⟨_,underlying49⟩
instance:Und Tryz.prog 50:=⟨_,underlying50⟩
instance:Und Tryz.prog 51:=⟨_,underlying51⟩
instance:Und Tryz.prog 52:=⟨_,underlying52⟩
instance:Und Tryz.prog 53:=⟨_,underlying53⟩
instance:Und Tryz.prog 56:=⟨_,underlying56⟩
instance:Und Tryz.prog 57:=⟨_,underlying57⟩
instance:Und Tryz.prog 58:=⟨_,underlying58⟩
instance:Und Tryz.prog 71:=⟨_,underlying71⟩
instance:Und Tryz.prog 72:=⟨_,underlying72⟩
instance:Und Tryz.prog 74:=⟨_,underlying74⟩
instance:Und Tryz.prog 76:=⟨_,underlying76⟩
instance:Und Tryz.prog 96:=⟨_,underlying96⟩
instance:Und Tryz.prog 97:=⟨_,underlying97⟩
instance:Und Tryz.prog 98:=⟨_,underlying98⟩
instance:Und Tryz.prog 99:=⟨_,underlying99⟩
instance:Und Tryz.prog 110:=⟨_,underlying110⟩
instance:Und Tryz.prog 117:=⟨_,underlying117⟩
instance:Und Tryz.prog 118:=⟨_,underlying118⟩
instance:Und Tryz.prog 124:=⟨_,underlying124⟩
instance:Und Tryz.prog 125:=⟨_,underlying125⟩
instance:Und Tryz.prog 133:=⟨_,underlying133⟩
instance:Und Tryz.prog 138:=⟨_,underlying138⟩
instance:Und Tryz.prog 139:=⟨_,underlying139⟩
instance:Und Tryz.prog 140:=⟨_,underlying140⟩
instance:Und Tryz.prog 150:=⟨_,underlying150⟩
instance:Und Tryz.prog 151:=⟨_,underlying151⟩
instance:Und Tryz.prog 152:=⟨_,underlying152⟩
instance:Und Tryz.prog 153:=⟨_,underlying153⟩
instance:Und Tryz.prog 162:=⟨_,underlying162⟩
instance:Und Tryz.prog 163:=⟨_,underlying163⟩
instance:Und Tryz.prog 165:=⟨_,underlying165⟩
instance:Und Tryz.prog 167:=⟨_,underlying167⟩
instance:Und Tryz.prog 168:=⟨_,underlying168⟩
instance:Und Tryz.prog 199:=⟨_,underlying199⟩
instance:Und Tryz.prog 200:=⟨_,underlying200⟩
instance:Und Tryz.prog 215:=⟨_,underlying215⟩
instance:Und Tryz.prog 236:=⟨_,underlying236⟩
instance:Und Tryz.prog 237:=⟨_,underlying237⟩
instance:Siz Tryz.prog 2:=⟨_,sizeOf2⟩
instance:Siz Tryz.prog 3:=⟨_,sizeOf3⟩
instance:Siz Tryz.prog 4:=⟨_,sizeOf4⟩
instance:Siz Tryz.prog 5:=⟨_,sizeOf5⟩
instance:Siz Tryz.prog 9:=⟨_,sizeOf9⟩
instance:Siz Tryz.prog 22:=⟨_,sizeOf22⟩
instance:Siz Tryz.prog 27:=⟨_,sizeOf27⟩
instance:Siz Tryz.prog 29:=⟨_,sizeOf29⟩
instance:Siz Tryz.prog 31:=⟨_,sizeOf31⟩
instance:Siz Tryz.prog 35:=⟨_,sizeOf35⟩
instance:Siz Tryz.prog 36:=⟨_,sizeOf36⟩
instance:Siz Tryz.prog 37:=⟨_,sizeOf37⟩
instance:Siz Tryz.prog 39:=⟨_,sizeOf39⟩
instance:Siz Tryz.prog 50:=⟨_,sizeOf50⟩
instance:Siz Tryz.prog 51:=⟨_,sizeOf51⟩
instance:Siz Tryz.prog 53:=⟨_,sizeOf53⟩
instance:Siz Tryz.prog 56:=⟨_,sizeOf56⟩
instance:Siz Tryz.prog 58:=⟨_,sizeOf58⟩
instance:Siz Tryz.prog 76:=⟨_,sizeOf76⟩
instance:Siz Tryz.prog 96:=⟨_,sizeOf96⟩
instance:Siz Tryz.prog 97:=⟨_,sizeOf97⟩
instance:Siz Tryz.prog 99:=⟨_,sizeOf99⟩
instance:Siz Tryz.prog 118:=⟨_,sizeOf118⟩
instance:Siz Tryz.prog 124:=⟨_,sizeOf124⟩
instance:Siz Tryz.prog 140:=⟨_,sizeOf140⟩
instance:Siz Tryz.prog 151:=⟨_,sizeOf151⟩
instance:Siz Tryz.prog 153:=⟨_,sizeOf153⟩
instance:Siz Tryz.prog 168:=⟨_,sizeOf168⟩
instance:Siz Tryz.prog 200:=⟨_,sizeOf200⟩
instance:Agg Tryz.prog 2:=⟨_,isAgg2⟩
instance:Agg Tryz.prog 3:=⟨_,isAgg3⟩
instance:Agg Tryz.prog 4:=⟨_,isAgg4⟩
instance:Agg Tryz.prog 5:=⟨_,isAgg5⟩
instance:Agg Tryz.prog 9:=⟨_,isAgg9⟩
instance:Agg Tryz.prog 22:=⟨_,isAgg22⟩
instance:Agg Tryz.prog 27:=⟨_,isAgg27⟩
instance:Agg Tryz.prog 29:=⟨_,isAgg29⟩
instance:Agg Tryz.prog 31:=⟨_,isAgg31⟩
instance:Agg Tryz.prog 35:=⟨_,isAgg35⟩
instance:Agg Tryz.prog 36:=⟨_,isAgg36⟩
instance:Agg Tryz.prog 37:=⟨_,isAgg37⟩
instance:Agg Tryz.prog 39:=⟨_,isAgg39⟩
instance:Agg Tryz.prog 50:=⟨_,isAgg50⟩
instance:Agg Tryz.prog 51:=⟨_,isAgg51⟩
instance:Agg Tryz.prog 53:=⟨_,isAgg53⟩
instance:Agg Tryz.prog 56:=⟨_,isAgg56⟩
instance:Agg Tryz.prog 58:=⟨_,isAgg58⟩
instance:Agg Tryz.prog 76:=⟨_,isAgg76⟩
instance:Agg Tryz.prog 96:=⟨_,isAgg96⟩
instance:Agg Tryz.prog 97:=⟨_,isAgg97⟩
instance:Agg Tryz.prog 99:=⟨_,isAgg99⟩
instance:Agg Tryz.prog 118:=⟨_,isAgg118⟩
instance:Agg Tryz.prog 124:=⟨_,isAgg124⟩
instance:Agg Tryz.prog 140:=⟨_,isAgg140⟩
instance:Agg Tryz.prog 151:=⟨_,isAgg151⟩
instance:Agg Tryz.prog 153:=⟨_,isAgg153⟩
instance:Agg Tryz.prog 200:=⟨_,isAgg200⟩
instance:Inf Tryz.prog 2:=⟨_,yCE⟩
instance:Inf Tryz.prog 3:=⟨_,zXJ⟩
instance:Inf Tryz.prog 4:=⟨_,zQK⟩
instance:Inf Tryz.prog 5:=⟨_,yCD⟩
instance:Inf Tryz.prog 9:=⟨_,yCC⟩
instance:Inf Tryz.prog 22:=⟨_,zZB⟩
instance:Inf Tryz.prog 27:=⟨_,zQL⟩
instance:Inf Tryz.prog 29:=⟨_,yC⟩
instance:Inf Tryz.prog 31:=⟨_,zZA⟩
instance:Inf Tryz.prog 35:=⟨_,zY9⟩
instance:Inf Tryz.prog 36:=⟨_,zY8⟩
instance:Inf Tryz.prog 37:=⟨_,zY7⟩
instance:Inf Tryz.prog 39:=⟨_,zY6⟩
instance:Inf Tryz.prog 50:=⟨_,zY5⟩
instance:Inf Tryz.prog 51:=⟨_,zY4⟩
instance:Inf Tryz.prog 53:=⟨_,zY3⟩
instance:Inf Tryz.prog 56:=⟨_,zY2⟩
instance:Inf Tryz.prog 58:=⟨_,zY1⟩
instance:Inf Tryz.prog 72:=⟨_,zY0⟩
instance:Inf Tryz.prog 76:=⟨_,zYZ⟩
instance:Inf Tryz.prog 96:=⟨_,zYY⟩
instance:Inf Tryz.prog 97:=⟨_,zYX⟩
instance:Inf Tryz.prog 99:=⟨_,zYW⟩
instance:Inf Tryz.prog 118:=⟨_,zVA⟩
instance:Inf Tryz.prog 124:=⟨_,zU9⟩
instance:Inf Tryz.prog 140:=⟨_,zU8⟩
instance:Inf Tryz.prog 151:=⟨_,zU7⟩
instance:Inf Tryz.prog 153:=⟨_,zU6⟩
instance:Inf Tryz.prog 168:=⟨_,zU5⟩
instance:Inf Tryz.prog 200:=⟨_,zU4⟩
theorem zKO{P:Program}{n:Nat}{w0:World}{h0 h:Mem}{e:List (Nat×Value)}{L:List Res}{ds:Option Tmp}{ty:TypeId}{ps:String}{af:Array Edge}{gd:Option (Nat×Bool)}{t:TypeId}{x:Operand}{b k:Nat}{E:TypeId}{cs:List Value}{u v s:Value}{d:TypeDesc}(hm:.var b E cs∈L)(hu:P.underlying t=some d)(hd:d.isRow=true)(hi:(P.info? t).map (·.size)=some 3)(hx:zG e x=some (vP b k))(hv:(cs.drop k).take 3=[u,v,s]):OpV P n w0 h0 ⟨ds,.load t x,ty,ps,af,gd⟩ e L h (.agg #[u,v,s]):=zH8 (vs:=[u,v,s]) hm hu hd hi hx hv
theorem ov{P:Program}{n:Nat}{w0:World}{h0 h:Mem}{o:Oper}{e:List (Nat×Value)}{L:List Res}{v:Value}(f:OpV P n w0 h0 o e L h v:=by first|exact yG rfl rfl|exact lO rfl rfl|exact sD rfl rfl|exact zCO rfl rfl|exact fK rfl rfl|exact oF rfl rfl|exact zP rfl rfl (by omega) (by omega)|exact qE rfl rfl (by omega) (by omega)|exact wM uu rfl (by with_reducible first|assumption|exact Us.up (by assumption))|exact uP uu rfl (by with_reducible first|assumption|exact Rp.Is.up (by assumption))|exact kS (vs:=[_,_]) rfl rfl|exact kS (vs:=[_,_,_]) rfl rfl|exact pF rfl rfl|exact(xJ uu (by simp only[List.getElem?_toArray,List.getElem?_cons_succ,List.getElem?_cons_zero]<;>exact rfl) uz rfl).cv (congrArg (vP _) (by(simp only[Nat.reduceAdd,Nat.reduceMul,Nat.zero_add,Nat.add_zero,Nat.zero_mul])<;>exact rfl))|exact(zV 0 uu uz rfl rfl rfl (by decide)).cv (congrArg (vP _) (by(simp only[Nat.reduceAdd,Nat.reduceMul,Nat.zero_add,Nat.add_zero,Nat.zero_mul])<;>exact rfl))|exact(zV 1 uu uz rfl rfl rfl (by decide)).cv (congrArg (vP _) (by(simp only[Nat.reduceAdd,Nat.reduceMul,Nat.zero_add,Nat.add_zero,Nat.zero_mul])<;>exact rfl))|exact(zV 2 uu uz rfl rfl rfl (by decide)).cv (congrArg (vP _) (by(simp only[Nat.reduceAdd,Nat.reduceMul,Nat.zero_add,Nat.add_zero,Nat.zero_mul])<;>exact rfl))|exact zKO (by first|exact mh0|exact mh1|exact mh2|exact mh3|exact mh4|exact mh5) uu (by exact rfl) us_ rfl rfl|exact pG rfl rfl|exact zKL rfl|exact gE rfl rfl|exact fJ rfl rfl|exact zCL rfl rfl|exact rS rfl rfl|exact lM rfl rfl|exact oH (by first|exact mh0|exact mh1|exact mh2|exact mh3|exact mh4|exact mh5) ua rfl rfl|exact gW (k:=.u64) (k':=.u32) (W:=4294967296) uu uu rfl rfl rfl|exact wN (k:=.u32) (k':=.u64) (W:=18446744073709551616) uu uu rfl rfl rfl (by omega)|exact tB (k:=.u64) (W:=18446744073709551616) rfl rfl rfl rfl (by omega)|exact oG (k:=.u64) (W:=18446744073709551616) rfl rfl rfl rfl (by omega)|exact gC (k:=.u64) (s:=32) (yk:=.u64) rfl rfl rfl (by simp only[ub];omega)|exact xO ua rfl (by with_reducible first|assumption|exact Us.up (by assumption)) (by omega)):OpV P n w0 h0 o e L h v:=f
theorem ovq{P:Program}{n:Nat}{w0:World}{h0 h:Mem}{o:Oper}{e:List (Nat×Value)}{v:Value}(f:∀h' L',OpV P n w0 h0 o e L' h' v:=by intro h' L';first|exact yG rfl rfl|exact lO rfl rfl|exact sD rfl rfl|exact zCO rfl rfl|exact fK rfl rfl|exact oF rfl rfl|exact zP rfl rfl (by omega) (by omega)|exact qE rfl rfl (by omega) (by omega)|exact wM uu rfl (by with_reducible first|assumption|exact Us.up (by assumption))|exact uP uu rfl (by with_reducible first|assumption|exact Rp.Is.up (by assumption))|exact kS (vs:=[_,_]) rfl rfl|exact kS (vs:=[_,_,_]) rfl rfl|exact pF rfl rfl|exact(xJ uu (by simp only[List.getElem?_toArray,List.getElem?_cons_succ,List.getElem?_cons_zero]<;>exact rfl) uz rfl).cv (congrArg (vP _) (by(simp only[Nat.reduceAdd,Nat.reduceMul,Nat.zero_add,Nat.add_zero,Nat.zero_mul])<;>exact rfl))|exact(zV 0 uu uz rfl rfl rfl (by decide)).cv (congrArg (vP _) (by(simp only[Nat.reduceAdd,Nat.reduceMul,Nat.zero_add,Nat.add_zero,Nat.zero_mul])<;>exact rfl))|exact(zV 1 uu uz rfl rfl rfl (by decide)).cv (congrArg (vP _) (by(simp only[Nat.reduceAdd,Nat.reduceMul,Nat.zero_add,Nat.add_zero,Nat.zero_mul])<;>exact rfl))|exact(zV 2 uu uz rfl rfl rfl (by decide)).cv (congrArg (vP _) (by(simp only[Nat.reduceAdd,Nat.reduceMul,Nat.zero_add,Nat.add_zero,Nat.zero_mul])<;>exact rfl))|exact zKO (by first|exact mh0|exact mh1|exact mh2|exact mh3|exact mh4|exact mh5) uu (by exact rfl) us_ rfl rfl|exact pG rfl rfl|exact zKL rfl|exact gE rfl rfl|exact fJ rfl rfl|exact zCL rfl rfl|exact rS rfl rfl|exact lM rfl rfl|exact oH (by first|exact mh0|exact mh1|exact mh2|exact mh3|exact mh4|exact mh5) ua rfl rfl|exact gW (k:=.u64) (k':=.u32) (W:=4294967296) uu uu rfl rfl rfl|exact wN (k:=.u32) (k':=.u64) (W:=18446744073709551616) uu uu rfl rfl rfl (by omega)|exact tB (k:=.u64) (W:=18446744073709551616) rfl rfl rfl rfl (by omega)|exact oG (k:=.u64) (W:=18446744073709551616) rfl rfl rfl rfl (by omega)|exact gC (k:=.u64) (s:=32) (yk:=.u64) rfl rfl rfl (by simp only[ub];omega)|exact xO ua rfl (by with_reducible first|assumption|exact Us.up (by assumption)) (by omega)):∀h' L',OpV P n w0 h0 o e L' h' v:=f
theorem zVJ{α:Type}{ρ:Rp α}{h h':Mem}{v:Value}{x:α}(r:ρ.Is h v x)(hh:MLe h h'):ρ.Is h' v x:=r.mono hh
theorem ovm{P:Program}{n:Nat}{w0:World}{h0 h:Mem}{o:Oper}{e:List (Nat×Value)}{R:List Res}{v:Value}(f:∀h' L',MLe h h'→(∀r∈R,r∈L')→OpV P n w0 h0 o e L' h' v:=by intro h' L' hh hR;first|exact yG rfl rfl|exact lO rfl rfl|exact sD rfl rfl|exact zCO rfl rfl|exact fK rfl rfl|exact oF rfl rfl|exact zP rfl rfl (by omega) (by omega)|exact qE rfl rfl (by omega) (by omega)|exact wM uu rfl (Us.mono (by with_reducible first|assumption|exact Us.up (by assumption)) hh)|exact uP uu rfl (zVJ (by with_reducible first|assumption|exact Rp.Is.up (by assumption)) hh)|exact kS (vs:=[_,_]) rfl rfl|exact kS (vs:=[_,_,_]) rfl rfl|exact pF rfl rfl|exact(xJ uu (by simp only[List.getElem?_toArray,List.getElem?_cons_succ,List.getElem?_cons_zero]<;>exact rfl) uz rfl).cv (congrArg (vP _) (by(simp only[Nat.reduceAdd,Nat.reduceMul,Nat.zero_add,Nat.add_zero,Nat.zero_mul])<;>exact rfl))|exact(zV 0 uu uz rfl rfl rfl (by decide)).cv (congrArg (vP _) (by(simp only[Nat.reduceAdd,Nat.reduceMul,Nat.zero_add,Nat.add_zero,Nat.zero_mul])<;>exact rfl))|exact(zV 1 uu uz rfl rfl rfl (by decide)).cv (congrArg (vP _) (by(simp only[Nat.reduceAdd,Nat.reduceMul,Nat.zero_add,Nat.add_zero,Nat.zero_mul])<;>exact rfl))|exact(zV 2 uu uz rfl rfl rfl (by decide)).cv (congrArg (vP _) (by(simp only[Nat.reduceAdd,Nat.reduceMul,Nat.zero_add,Nat.add_zero,Nat.zero_mul])<;>exact rfl))|exact zKO (hR _ (by first|exact mh0|exact mh1|exact mh2|exact mh3|exact mh4|exact mh5)) uu (by exact rfl) us_ rfl rfl|exact pG rfl rfl|exact zKL rfl|exact gE rfl rfl|exact fJ rfl rfl|exact zCL rfl rfl|exact rS rfl rfl|exact lM rfl rfl|exact oH (hR _ (by first|exact mh0|exact mh1|exact mh2|exact mh3|exact mh4|exact mh5)) ua rfl rfl|exact gW (k:=.u64) (k':=.u32) (W:=4294967296) uu uu rfl rfl rfl|exact wN (k:=.u32) (k':=.u64) (W:=18446744073709551616) uu uu rfl rfl rfl (by omega)|exact tB (k:=.u64) (W:=18446744073709551616) rfl rfl rfl rfl (by omega)|exact oG (k:=.u64) (W:=18446744073709551616) rfl rfl rfl rfl (by omega)|exact gC (k:=.u64) (s:=32) (yk:=.u64) rfl rfl rfl (by simp only[ub];omega)|exact xO ua rfl (Us.mono (by with_reducible first|assumption|exact Us.up (by assumption)) hh) (by omega)):∀h' L',MLe h h'→(∀r∈R,r∈L')→OpV P n w0 h0 o e L' h' v:=f
theorem isGC{P:Program}{n:Nat}{w0:World}{h0 h:Mem}{Q:Exit→Act→World→Prop}{e:List (Nat×Value)}{L:List Res}{c:Code}(k:GC P n w0 h0 c Q e L h):GC P n w0 h0 c Q e L h:=k
theorem isGQ{n:Nat}{w0:World}{h0 h:Mem}{Q:Exit→Act→World→Prop}{e:List (Nat×Value)}{L:List Res}{x:Exit}(k:GQ n w0 h0 Q x e L h):GQ n w0 h0 Q x e L h:=k
theorem isGL{P:Program}{n:Nat}{w0:World}{h0 h:Mem}{Q:Exit→Act→World→Prop}{e:List (Nat×Value)}{L:List Res}{ops:Array Oper}{l:List Oper}(k:GL P n w0 h0 ops Q l e L h):GL P n w0 h0 ops Q l e L h:=k
theorem isW{P:Program}{n:Nat}{w0:World}{h0 h:Mem}{Q:Exit→Act→World→Prop}{e:List (Nat×Value)}{L:List Res}{R:List Res}{ops:Array Oper}{al:Als}{r:List (Nat×Kd)}(k:W P n w0 h0 ops Q R al r e L h):W P n w0 h0 ops Q R al r e L h:=k
structure Kp(p:Prop):Prop where out:p
theorem isGV{P:Program}{n:Nat}{w0:World}{h0 h:Mem}{Q:Exit→Act→World→Prop}{e:List (Nat×Value)}{L:List Res}{ops:Array Oper}{rest:List Oper}{d:Nat}{op:Op}{ty:TypeId}{ps:String}{af:Array Edge}(k:GL P n w0 h0 ops Q (⟨some d,op,ty,ps,af,none⟩::rest) e L h):GL P n w0 h0 ops Q (⟨some d,op,ty,ps,af,none⟩::rest) e L h:=k
theorem isMV{P:Program}{n:Nat}{w0:World}{h0 h:Mem}{Q:Exit→Act→World→Prop}{e:List (Nat×Value)}{L:List Res}{ops:Array Oper}{rest:List Oper}{d:Nat}{x:Operand}{ty:TypeId}{ps:String}{af:Array Edge}(k:GL P n w0 h0 ops Q (⟨some d,.move x,ty,ps,af,none⟩::rest) e L h):GL P n w0 h0 ops Q (⟨some d,.move x,ty,ps,af,none⟩::rest) e L h:=k
theorem isAS{P:Program}{n:Nat}{w0:World}{h0 h:Mem}{Q:Exit→Act→World→Prop}{e:List (Nat×Value)}{L:List Res}{ops:Array Oper}{rest:List Oper}{d:Nat}{x:Operand}{ty:TypeId}{ps:String}{af:Array Edge}(k:GL P n w0 h0 ops Q (⟨some d,.assign x,ty,ps,af,none⟩::rest) e L h):GL P n w0 h0 ops Q (⟨some d,.assign x,ty,ps,af,none⟩::rest) e L h:=k
theorem st{G G':Prop}(k:G')(f:Kp G'→G:=by intro k;first|((with_reducible refine isGL ?_);first|((with_reducible refine isMV ?_);first|exact mv (v:=vI _) rfl rfl k.out|exact mv rfl rfl k.out)|((with_reducible refine isAS ?_);first|exact asg (v:=vI _) rfl rfl k.out|exact asg rfl rfl k.out)|with_reducible exact zR k.out|((with_reducible refine isGV ?_);refine gv ov rfl ?_;exact k.out)|exact aX rfl rfl rfl rfl rfl rfl k.out|exact iF rfl rfl rfl k.out|exact zWM rfl rfl rfl rfl rfl k.out|exact zR k.out|exact mv (v:=vI _) rfl rfl k.out|exact mv rfl rfl k.out|exact asg (v:=vI _) rfl rfl k.out|exact asg rfl rfl k.out|(refine gv ov rfl ?_;exact k.out))|((with_reducible refine isGC ?_);first|with_reducible exact zM k.out|with_reducible exact zE k.out|with_reducible exact wR k.out|with_reducible exact uK k.out|with_reducible exact kY k.out|with_reducible exact bX k.out|exact zFG rfl k.out|exact zFH rfl k.out)|((with_reducible refine isGQ ?_);first|with_reducible exact zF k.out|with_reducible exact sH k.out|with_reducible exact uF k.out|with_reducible exact kX k.out|with_reducible exact aO k.out|with_reducible exact zM4 k.out|exact zGT rfl k.out)|((with_reducible refine isW ?_);first|with_reducible exact pA k.out|exact uW rfl rfl rfl k.out|exact zHE rfl rfl rfl k.out|exact wT rfl rfl rfl rfl rfl k.out|exact zP4 rfl rfl rfl rfl k.out|(refine xN rfl ovq rfl ?_;exact k.out)|(refine w_q rfl ovm rfl ?_;exact k.out)|(refine yM rfl rfl rfl ovm rfl ?_;exact k.out)|exact pA k.out)):G:=f ⟨k⟩
theorem go1{G G':Prop}(k:G')(f:Kp G'→G:=by intro k;refine st ?_;exact k.out):G:=f ⟨k⟩
theorem go2{G G':Prop}(k:G')(f:Kp G'→G:=by intro k;refine st ?_;refine st ?_;exact k.out):G:=f ⟨k⟩
theorem go3{G G':Prop}(k:G')(f:Kp G'→G:=by intro k;refine st ?_;refine st ?_;refine st ?_;exact k.out):G:=f ⟨k⟩
theorem go4{G G':Prop}(k:G')(f:Kp G'→G:=by intro k;refine st ?_;refine st ?_;refine st ?_;refine st ?_;exact k.out):G:=f ⟨k⟩
theorem go5{G G':Prop}(k:G')(f:Kp G'→G:=by intro k;refine st ?_;refine st ?_;refine st ?_;refine st ?_;refine st ?_;exact k.out):G:=f ⟨k⟩
theorem go6{G G':Prop}(k:G')(f:Kp G'→G:=by intro k;refine st ?_;refine st ?_;refine st ?_;refine st ?_;refine st ?_;refine st ?_;exact k.out):G:=f ⟨k⟩
theorem go7{G G':Prop}(k:G')(f:Kp G'→G:=by intro k;refine st ?_;refine st ?_;refine st ?_;refine st ?_;refine st ?_;refine st ?_;refine st ?_;exact k.out):G:=f ⟨k⟩
theorem go8{G G':Prop}(k:G')(f:Kp G'→G:=by intro k;refine st ?_;refine st ?_;refine st ?_;refine st ?_;refine st ?_;refine st ?_;refine st ?_;refine st ?_;exact k.out):G:=f ⟨k⟩
theorem go9{G G':Prop}(k:G')(f:Kp G'→G:=by intro k;refine go8 ?_;refine st ?_;exact k.out):G:=f ⟨k⟩
theorem uA{G G':Prop}(k:G')(f:Kp G'→G:=by intro k;refine go8 ?_;refine st ?_;refine st ?_;exact k.out):G:=f ⟨k⟩
theorem qA{G G':Prop}(k:G')(f:Kp G'→G:=by intro k;refine go8 ?_;refine st ?_;refine st ?_;refine st ?_;exact k.out):G:=f ⟨k⟩
theorem uQ{G G':Prop}(k:G')(f:Kp G'→G:=by intro k;refine go8 ?_;refine st ?_;refine st ?_;refine st ?_;refine st ?_;exact k.out):G:=f ⟨k⟩
theorem rM{G G':Prop}(k:G')(f:Kp G'→G:=by intro k;refine go8 ?_;refine st ?_;refine st ?_;refine st ?_;refine st ?_;refine st ?_;exact k.out):G:=f ⟨k⟩
theorem tG{G G':Prop}(k:G')(f:Kp G'→G:=by intro k;refine go8 ?_;refine st ?_;refine st ?_;refine st ?_;refine st ?_;refine st ?_;refine st ?_;exact k.out):G:=f ⟨k⟩
theorem rV{G G':Prop}(k:G')(f:Kp G'→G:=by intro k;refine go8 ?_;refine st ?_;refine st ?_;refine st ?_;refine st ?_;refine st ?_;refine st ?_;refine st ?_;exact k.out):G:=f ⟨k⟩
theorem iX{G G':Prop}(k:G')(f:Kp G'→G:=by intro k;refine go8 ?_;refine go8 ?_;exact k.out):G:=f ⟨k⟩
theorem mW{G G':Prop}(k:G')(f:Kp G'→G:=by intro k;refine go8 ?_;refine go8 ?_;refine st ?_;exact k.out):G:=f ⟨k⟩
theorem zWL{G G':Prop}(k:G')(f:Kp G'→G:=by intro k;refine go8 ?_;refine go8 ?_;refine st ?_;refine st ?_;exact k.out):G:=f ⟨k⟩
theorem zS7{G G':Prop}(k:G')(f:Kp G'→G:=by intro k;refine go8 ?_;refine go8 ?_;refine st ?_;refine st ?_;refine st ?_;exact k.out):G:=f ⟨k⟩
theorem go20{G G':Prop}(k:G')(f:Kp G'→G:=by intro k;refine go8 ?_;refine go8 ?_;refine st ?_;refine st ?_;refine st ?_;refine st ?_;exact k.out):G:=f ⟨k⟩
theorem go22{G G':Prop}(k:G')(f:Kp G'→G:=by intro k;refine go8 ?_;refine go8 ?_;refine st ?_;refine st ?_;refine st ?_;refine st ?_;refine st ?_;refine st ?_;exact k.out):G:=f ⟨k⟩
theorem go23{G G':Prop}(k:G')(f:Kp G'→G:=by intro k;refine go8 ?_;refine go8 ?_;refine st ?_;refine st ?_;refine st ?_;refine st ?_;refine st ?_;refine st ?_;refine st ?_;exact k.out):G:=f ⟨k⟩
theorem go30{G G':Prop}(k:G')(f:Kp G'→G:=by intro k;refine go8 ?_;refine go8 ?_;refine go8 ?_;refine st ?_;refine st ?_;refine st ?_;refine st ?_;refine st ?_;refine st ?_;exact k.out):G:=f ⟨k⟩
theorem gc2{G G1 G2:Prop}{p:Prop}(kt:p→G1)(kf:¬p→G2)(f:(p→Kp G1)→(¬p→Kp G2)→G:=by intro a b;refine st ?_;refine st ?_;exact cnd (fun h=>(a h).out) fun h=>(b h).out):G:=f (fun h=>⟨kt h⟩) fun h=>⟨kf h⟩
theorem gc3{G G1 G2:Prop}{p:Prop}(kt:p→G1)(kf:¬p→G2)(f:(p→Kp G1)→(¬p→Kp G2)→G:=by intro a b;refine st ?_;refine st ?_;refine st ?_;exact cnd (fun h=>(a h).out) fun h=>(b h).out):G:=f (fun h=>⟨kt h⟩) fun h=>⟨kf h⟩
theorem gc4{G G1 G2:Prop}{p:Prop}(kt:p→G1)(kf:¬p→G2)(f:(p→Kp G1)→(¬p→Kp G2)→G:=by intro a b;refine st ?_;refine st ?_;refine st ?_;refine st ?_;exact cnd (fun h=>(a h).out) fun h=>(b h).out):G:=f (fun h=>⟨kt h⟩) fun h=>⟨kf h⟩
theorem gc5{G G1 G2:Prop}{p:Prop}(kt:p→G1)(kf:¬p→G2)(f:(p→Kp G1)→(¬p→Kp G2)→G:=by intro a b;refine st ?_;refine st ?_;refine st ?_;refine st ?_;refine st ?_;exact cnd (fun h=>(a h).out) fun h=>(b h).out):G:=f (fun h=>⟨kt h⟩) fun h=>⟨kf h⟩
theorem gc6{G G1 G2:Prop}{p:Prop}(kt:p→G1)(kf:¬p→G2)(f:(p→Kp G1)→(¬p→Kp G2)→G:=by intro a b;refine st ?_;refine st ?_;refine st ?_;refine st ?_;refine st ?_;refine st ?_;exact cnd (fun h=>(a h).out) fun h=>(b h).out):G:=f (fun h=>⟨kt h⟩) fun h=>⟨kf h⟩
theorem gc7{G G1 G2:Prop}{p:Prop}(kt:p→G1)(kf:¬p→G2)(f:(p→Kp G1)→(¬p→Kp G2)→G:=by intro a b;refine st ?_;refine st ?_;refine st ?_;refine st ?_;refine st ?_;refine st ?_;refine st ?_;exact cnd (fun h=>(a h).out) fun h=>(b h).out):G:=f (fun h=>⟨kt h⟩) fun h=>⟨kf h⟩
theorem gc8{G G1 G2:Prop}{p:Prop}(kt:p→G1)(kf:¬p→G2)(f:(p→Kp G1)→(¬p→Kp G2)→G:=by intro a b;refine st ?_;refine st ?_;refine st ?_;refine st ?_;refine st ?_;refine st ?_;refine st ?_;refine st ?_;exact cnd (fun h=>(a h).out) fun h=>(b h).out):G:=f (fun h=>⟨kt h⟩) fun h=>⟨kf h⟩
theorem gc9{G G1 G2:Prop}{p:Prop}(kt:p→G1)(kf:¬p→G2)(f:(p→Kp G1)→(¬p→Kp G2)→G:=by intro a b;refine st ?_;refine st ?_;refine st ?_;refine st ?_;refine st ?_;refine st ?_;refine st ?_;refine st ?_;refine st ?_;exact cnd (fun h=>(a h).out) fun h=>(b h).out):G:=f (fun h=>⟨kt h⟩) fun h=>⟨kf h⟩
theorem zBF{G G1 G2:Prop}{p:Prop}(kt:p→G1)(kf:¬p→G2)(f:(p→Kp G1)→(¬p→Kp G2)→G:=by intro a b;refine st ?_;refine st ?_;refine st ?_;refine st ?_;refine st ?_;refine st ?_;refine st ?_;refine st ?_;refine st ?_;refine st ?_;exact cnd (fun h=>(a h).out) fun h=>(b h).out):G:=f (fun h=>⟨kt h⟩) fun h=>⟨kf h⟩
theorem zAK{G G1 G2:Prop}{p:Prop}(kt:p→G1)(kf:¬p→G2)(f:(p→Kp G1)→(¬p→Kp G2)→G:=by intro a b;refine st ?_;refine st ?_;refine st ?_;refine st ?_;refine st ?_;refine st ?_;refine st ?_;refine st ?_;refine st ?_;refine st ?_;refine st ?_;exact cnd (fun h=>(a h).out) fun h=>(b h).out):G:=f (fun h=>⟨kt h⟩) fun h=>⟨kf h⟩
theorem zG1{G G1 G2:Prop}{p:Prop}(kt:p→G1)(kf:¬p→G2)(f:(p→Kp G1)→(¬p→Kp G2)→G:=by intro a b;refine st ?_;refine st ?_;refine st ?_;refine st ?_;refine st ?_;refine st ?_;refine st ?_;refine st ?_;refine st ?_;refine st ?_;refine st ?_;refine st ?_;exact cnd (fun h=>(a h).out) fun h=>(b h).out):G:=f (fun h=>⟨kt h⟩) fun h=>⟨kf h⟩
end Go.Proofs.YtpkaegemlpaenaaGreat
namespace Go.Proofs.YtpkaegemlpaenaaGreat
open Bk Go Tryz
set_option linter.unusedVariables false
set_option linter.unusedSimpArgs false
set_option maxRecDepth 10000
set_option maxHeartbeats 1000000
attribute [local irreducible] GL GC GQ W OpV
theorem qR{w0:World}{h0:Mem}(hs:MLe h0 (mem w0)){v:Value}{xs:List Nat}(hv:Us .u32 h0 v xs):
 Calls Tryz.prog 196 #[v] w0 (Ret w0 h0 (fun h r=>r=gL 1 v 0 (zB (val xs)).length∧Us .u32 h r (zB (val xs)))):=by
 have H:=hv.lt63;refine cb1 21 v func196 hs ?_;refine tG ?_;refine gcL (ι:=Nat) (fun(k:(Nat))=>(k≤xs.length∧∀i,k≤i→xs.getD i 0=0,[(0,v),(3,vI ↑k)],[],h0,k)) xs.length ?_ ?_
 · exact⟨Nat.le_refl _,fun i hi=>by rw[List.getD_eq_getElem?_getD,List.getElem?_eq_none hi];rfl⟩
 rintro k ⟨I,G⟩
 refine yW ?_;refine go5 ?_;refine gU 8 15 (vB (((0:Int)<↑k)∧(xs.getD (k-1) 0=0))) ?_ ?_
 ·
  refine zS ((0:Int)<↑k) (fun D=>?_) (fun D=>?_)
  ·
   refine gT D rfl (go7 ?_);refine gv (zO (k-1) underlying27 sizeOf124 rfl rfl hv oM oM) rfl (go3 ?_);refine gv (gE (k:=.u32) (q:=0) rfl rfl) rfl (go2 ?_);refine gqU ?_;exact congrArg some (yU D)
  refine gF D rfl (go8 ?_);refine gqU ?_;exact congrArg some (yV D)
 refine gc2 (fun z=>?_) fun z=>?_
 ·
  refine go9 ?_;refine gqL (k-1) ?_ ?_ (he:=⟨rfl,?_,trivial⟩)
  ·
   exact⟨by omega,fun i hi=>by
    by_cases e:i=k-1
    · rw[e];exact z.2
    · exact G i oM⟩
  · have:=z.1;omega
  · exact congrArg some (congrArg vI (by have:=z.1;omega))
 refine go9 ?_;refine gv (iO _ underlying27 sizeOf124 rfl rfl hv.shape rfl oM) rfl ?_;have C:=hv.sub (lo:=0) (hi:=_) oM oM;refine go4 ?_;refine zC rfl rfl ?_;have e:(xs.drop 0).take (k-0)=zB (val xs):=zEQ hv.lt I G (by
  by_cases h0:k=0
  · exact .inl h0
  · exact .inr fun h1=>z ⟨by omega,h1⟩)
 rw[e] at C;have J:(zB (val xs)).length=k:=by
  rw[←e,List.length_take,List.length_drop];omega
 refine⟨?_,C⟩;rw[J]
theorem zK9{w0:World}{h0:Mem}(hs:MLe h0 (mem w0)){n:Nat}(hn:n<18446744073709551616):
 Calls Tryz.prog 192 #[vU .u64 n] w0 (Ret w0 h0 (fun h r=>Us .u32 h r (zB n))):=by
 refine cb1 10 (vU .u64 n) func192 hs ?_;refine uQ ?_;refine zI (zC1 (kd:=.u32) underlying27 vW rfl rfl rfl rfl) rfl rfl rfl ?_;intro M O C;obtain rfl:=C;refine yL (by intro x D;simp only[List.mem_cons,List.not_mem_nil,or_false] at D;simp only[ub];omega) ?_;intro h1 H I;refine cL (ev1 rfl) call196 (fun w hs=>qR hs I) fun J h2 G z=>?_;replace z:=z.2;refine go4 ?_;refine zC rfl rfl ?_;have e:val [n%4294967296,n/2^32%4294967296]=n:=by simp only[val];omega
 rw[e] at z;exact z
theorem zBP{w0:World}{h0:Mem}(hs:MLe h0 (mem w0)){v v':Value}{xs ys:List Nat}(hv:Us .u32 h0 v xs)(hv':Us .u32 h0 v' ys):
 Calls Tryz.prog 204 #[v,v'] w0 (Ret w0 h0 (fun _ r=>r=vI (sM (val xs) (val ys)))):=by
 refine cb2 45 v v' func204 hs ?_;refine go8 ?_;refine cL (ev1 rfl) call196 (fun w hs=>qR hs hv) fun v7 h1 ab z=>?_;replace z:=z.2;refine go1 ?_;replace hv':=hv'.mono ab;refine cL (ev1 rfl) call196 (fun w hs=>qR hs hv') fun v9 h2 aa C=>?_;replace C:=C.2;replace z:=z.mono aa;generalize hA:zB (val xs)=AA at *;generalize hB:zB (val ys)=BB at *;have U:val AA=val xs:=by rw[←hA,zD]
 have H:val BB=val ys:=by rw[←hB,zD]
 have fA:Fit AA:=z.lt;have fB:Fit BB:=C.lt;have lA:=z.lt63;have lB:=C.lt63;refine tG ?_;refine cnd (fun O=>?_) fun O=>?_
 ·
  refine zBF (fun M=>?_) fun M=>?_
  ·
   refine go8 ?_;refine zC rfl rfl ?_;rw[j5 (sP (by rw[hA,hB];omega))]
  refine go9 ?_;refine zC rfl rfl ?_;rw[j6 (sP (by rw[hA,hB];omega))]
 have hl:AA.length=BB.length:=by omega
 refine uQ ?_;refine gcL (ι:=Nat) (fun(j:(Nat))=>(j≤AA.length∧AA.drop j=BB.drop j,[(0,v7),(1,v9),(5,vI (↑j-1))],[],h2,j)) AA.length ?_ ?_
 · exact⟨Nat.le_refl _,by rw[List.drop_of_length_le (Nat.le_refl _),List.drop_of_length_le oM]⟩
 rintro j ⟨hj,I⟩
 refine yW ?_;refine gc7 (fun J=>?_) fun J=>?_
 ·
  refine go5 ?_;refine zL 9 _ [] [(0,.q),(1,.q),(2,.q),(3,.q),(4,.q),(5,.q),(6,.q),(7,.q),(8,.q)] yA nX (by kernel_rfl) nX (fun r Z=>Z) (go2 ?_);refine w_q rfl (fun h' L' hh hR=>zO (j-1) underlying27 sizeOf124 rfl rfl (z.mono hh) oM oM) rfl (w_q rfl (fun h' L' hh hR=>xO isAgg124 rfl (z.mono hh) oM) rfl (go2 ?_));refine w_q rfl (fun h' L' hh hR=>zO (j-1) underlying27 sizeOf124 rfl rfl (C.mono hh) oM oM) rfl (w_q rfl (fun h' L' hh hR=>xO isAgg124 rfl (C.mono hh) oM) rfl (gc3 (fun G=>?_) fun G=>?_))
  ·
   refine go2 ?_;refine zL 9 _ [] [(0,.q),(1,.q),(2,.q),(3,.q),(4,.q),(5,.q),(6,.q),(7,.q),(8,.q)] yA nX (by kernel_rfl) nX (fun r Z=>Z) (go2 ?_);refine w_q rfl (fun h' L' hh hR=>zO (j-1) underlying27 sizeOf124 rfl rfl (z.mono hh) oM oM) rfl (w_q rfl (fun h' L' hh hR=>xO isAgg124 rfl (z.mono hh) oM) rfl (go2 ?_));refine w_q rfl (fun h' L' hh hR=>zO (j-1) underlying27 sizeOf124 rfl rfl (C.mono hh) oM oM) rfl (w_q rfl (fun h' L' hh hR=>xO isAgg124 rfl (C.mono hh) oM) rfl (gc3 (fun D=>?_) fun D=>?_))
   ·
    refine uQ ?_;refine zC rfl rfl ?_;rw[←U,←H,j5 (zBI fA hl oM hj I D)]
   refine rM ?_;refine zC rfl rfl ?_;rw[←U,←H,j6 (zBI fB hl.symm oM oM I.symm oM)]
  refine go8 ?_;refine gqL (j-1) ?_ ?_ (he:=⟨rfl,rfl,?_,trivial⟩)
  ·
   refine⟨by omega,?_⟩;rw[fD AA (j-1) oM,fD BB (j-1) oM];have e:j-1+1=j:=by omega
   rw[e,I,Classical.not_not.1 G]
  · omega
  · exact congrArg some (congrArg vI oM)
 refine qA ?_;refine zC rfl rfl ?_;have h0:j=0:=by omega
 subst h0;simp only[List.drop_zero] at I;rw[←U,←H,I,zNK]
theorem zB6{w0:World}{h0:Mem}(hs:MLe h0 (mem w0)){v:Value}{xs:List Nat}(hv:Us .u32 h0 v xs)(hl:xs.length≤1099511627776):
 Calls Tryz.prog 207 #[v] w0 (tK w0 h0 (fun _ r L=>L=[.us 124 .u32 r xs])):=by
 refine cb1 8 v func207 hs ?_;refine go9 ?_;refine gv (zKQ underlying27 rfl (let ⟨a,c,hv⟩:=hv.one;⟨a,_,c,hv⟩)) rfl (gc2 (fun z=>?_) fun z=>?_)
 ·
  refine go3 ?_;refine zAJ (E:=124) (k:=.u32) (go4 ?_);refine jQ rfl rfl ?_;obtain⟨m,H,rfl⟩:=z;have G:xs=[]:=hv.nil_of;subst G
  rfl
 refine go4 ?_;refine zI (zC2 (kd:=.u32) underlying27 vW rfl rfl) rfl rfl rfl ?_;intro J O D;obtain rfl:=D;refine go1 ?_;refine xK (A:=[]) (kQ (kd:=.u32) (bytes:=4) underlying27 vW rfl rfl rfl rfl rfl hv (by simp only[lN];omega) (by simp only[lN];omega)) rfl rfl rfl ?_;intro I M C;obtain rfl:=C;refine go4 ?_;refine jQ rfl rfl ?_
 rfl
theorem eN{w0:World}{h0:Mem}(hs:MLe h0 (mem w0)){v v':Value}{xs ys:List Nat}(hv:Us .u32 h0 v xs)(hv':Us .u32 h0 v' ys)(hl:xs.length≤1099511627776)(hl':ys.length≤1099511627776):
 Calls Tryz.prog 191 #[v,v'] w0 (Ret w0 h0 (fun h r=>Us .u32 h r (zB (val xs+val ys)))):=by
 refine cb2 58 v v' func191 hs ?_;refine go5 ?_;refine qN (ι:=Value×List Nat×Value×List Nat) (fun(H,C,J,D)=>Us .u32 h0 H C∧Us .u32 h0 J D∧D.length≤C.length∧val C+val D=val xs+val ys∧C.length≤1099511627776) (fun(H,C,J,D)=>[(0,H),(1,J)]) (fun(H,C,J,D)=>[]) (fun(H,C,J,D)=>h0) ?_ ?_
 ·
  refine go5 ?_;refine gv (wM underlying27 rfl hv') rfl (gc3 (fun ac=>?_) fun ac=>?_)
  ·
   refine go6 ?_;refine zQ (v',ys,v,xs) ?_ e2z rfl rfl;exact⟨hv',hv,by omega,by omega,hl'⟩
  refine go1 ?_;refine zQ (v,xs,v',ys) ?_ e2z rfl rfl;exact⟨hv,hv',by omega,rfl,hl⟩
 rintro⟨H,C,J,D⟩ ⟨ha,hb,am,U,an⟩
 refine yW ?_;refine go5 ?_;refine qC (kd:=.u32) (by':=4) (C.length+1) underlying27 vW rfl rfl rfl rfl rfl oM oM oM oM rfl ?_;intro I;refine go5 ?_;refine asg (v:=vU .u64 0) rfl rfl (qA ?_);refine kE (ι:=List Nat×Nat) (fun(z,c)=>z.length≤C.length∧Fit z∧c≤1∧val z+4294967296^z.length*c=val (C.take z.length)+val (D.take z.length)) (fun(z,c)=>[(0,H),(1,J),(5,I),(6,vU .u64 c),(20,H),(21,vI ↑C.length),(22,vI ↑z.length)]) (fun(z,c)=>[.us 124 .u32 I (fU z (C.length+1))]) (fun(z,c)=>h0) (fun(z,c)=>C.length-z.length) ([],0) ?_ e7 rfl rfl ?_
 · exact⟨by simp,fun x hx=>by simp at hx,by omega,by simp[val]⟩
 rintro⟨z,c⟩ ⟨ak,Z,aq,O⟩
 refine yW ?_;refine gc6 (fun ab=>?_) fun ab=>?_
 ·
  refine go7 ?_;refine gv (zO _ underlying27 sizeOf124 rfl rfl ha rfl oM) rfl (go1 ?_);have aj:=ha.get32 z.length;have ai:=hb.get32 z.length;refine rM ?_;refine qN (ι:=Unit) (fun(_u:(Unit))=>True) (fun(_u:(Unit))=>[(0,H),(1,J),(5,I),(6,vU .u64 (c+C.getD z.length 0+D.getD z.length 0)),(7,vI ↑z.length),(20,H),(21,vI ↑C.length),(22,vI ↑z.length)]) (fun(_u:(Unit))=>[.us 124 .u32 I (fU z (C.length+1))]) (fun(_u:(Unit))=>h0) ?_ ?_
  ·
   refine gc8 (fun aa=>?_) fun aa=>?_
   ·
    refine go4 ?_;refine gv (zO _ underlying27 sizeOf124 rfl rfl hb rfl oM) rfl (go5 ?_);refine zQ (()) ?_ e8 rfl rfl
    trivial
   refine go1 ?_;refine zQ (()) ?_ ⟨rfl,rfl,rfl,?_,rfl,rfl,rfl,rfl,trivial⟩ rfl rfl
   · trivial
   · exact congrArg some (congrArg (vU .u64) (by rw[tI (xs:=D) oM];omega))
  rintro _u ae
  refine yW ?_;refine go6 ?_;refine gv (yR (A:=[]) _ underlying27 sizeOf124 rfl rfl rfl (by rw[vN oM];omega)) rfl (wC sizeOf124 rfl rfl (by rw[vN oM];omega) (rM ?_));refine qS (z++[(c+C.getD z.length 0+D.getD z.length 0)%4294967296],(c+C.getD z.length 0+D.getD z.length 0)/2^32) ?_ ?_ ⟨rfl,rfl,rfl,rfl,rfl,rfl,?_,trivial⟩ ?_ rfl
  ·
   have ad:z.length<C.length:=by omega
   refine⟨by simp;omega,vX Z (cS oM),by omega,?_⟩;rw[lAz,List.length_singleton,vY C _ ad,vM D,tY,Nat.pow_succ];have e:=Nat.div_add_mod (c+C.getD z.length 0+D.getD z.length 0) 4294967296;have e2:(2:Nat)^32=4294967296:=rfl;rw[e2];generalize (c+C.getD z.length 0+D.getD z.length 0)/4294967296=q at *;generalize (c+C.getD z.length 0+D.getD z.length 0)%4294967296=r at *;grind
  ·
   dsimp only;simp;omega
  · exact congrArg some (congrArg vI (by simp))
  try dsimp only[List.nil_append,List.cons_append]
  rw[rD oM]
 refine uQ ?_;refine gv (yR (A:=[]) (C.length) underlying27 sizeOf124 rfl rfl (by rfl) (by rw[vN oM];omega)) rfl (wC sizeOf124 rfl rfl (by rw[vN oM];omega) (go5 ?_));have hk:z.length=C.length:=by omega
 have M:(fU z (C.length+1)).set C.length (c%4294967296)=z++[c%4294967296]:=by
  rw[←hk,rD oM,cF (by simp)]
 refine yL (by rw[M];exact vX Z (cS oM)) ?_;intro h1 ap ho;refine cL (ev1 rfl) call196 (fun w hs=>qR hs ho) fun ah h2 ao G=>?_;replace G:=G.2;refine go4 ?_;refine zC rfl rfl ?_;have e:val (z++[c%4294967296])=val xs+val ys:=by
  rw[tY,Nat.mod_eq_of_lt oM,O,xQ oM,xQ oM];exact U
 rw[M,e] at G;exact G
theorem zBN{w0:World}{h0:Mem}(hs:MLe h0 (mem w0)){v v':Value}{xs ys:List Nat}(hv:Us .u32 h0 v xs)(hv':Us .u32 h0 v' ys)(hl:xs.length≤1099511627776):
 Calls Tryz.prog 195 #[v,v'] w0 (Ret w0 h0 (fun h r=>∃u,r=.tuple #[u,vI (if val xs<val ys then 7 else 0)]∧Us .u32 h u (zB (val xs-val ys)))):=by
 refine cb2 54 v v' func195 hs ?_;refine qA ?_;refine cL (ev2 rfl rfl) call204 (fun w hs=>zBP hs hv hv') fun ak h1 Z U=>?_;subst U;refine gc3 (fun G=>?_) fun G=>?_
 ·
  have I:=sL.1 G;refine go8 ?_;refine xY rfl rfl rfl ?_;rw[if_pos I,Nat.sub_eq_zero_of_le (Nat.le_of_lt I),yZ];exact⟨_,rfl,Us.nil _ _⟩
 have ah:val ys≤val xs:=Nat.le_of_not_lt fun hc=>G (sL.2 hc);refine go5 ?_;replace hv':=hv'.mono Z;refine cL (ev1 rfl) call196 (fun w hs=>qR hs hv') fun M h2 ae D=>?_;replace D:=D.2;replace hv:=hv.mono (Z.trans ae);refine go7 ?_;refine qC (kd:=.u32) (by':=4) _ underlying27 vW rfl rfl rfl rfl rfl rfl rfl oM oM rfl ?_;intro H;refine go5 ?_;refine asg (v:=vU .u64 0) rfl rfl (qA ?_);refine kE (ι:=List Nat×Nat) (fun(z,c)=>z.length≤xs.length∧Fit z∧c≤1∧val z+val ((zB (val ys)).take z.length)=val (xs.take z.length)+4294967296^z.length*c) (fun(z,c)=>[(1,M),(6,H),(7,vU .u64 c),(21,v),(22,vI ↑xs.length),(23,vI ↑z.length)]) (fun(z,c)=>[.us 124 .u32 H (fU z xs.length)]) (fun(z,c)=>h2) (fun(z,c)=>xs.length-z.length) ([],0) ?_ e6z rfl rfl ?_
 · exact⟨by simp,fun x hx=>by simp at hx,by omega,by simp[val]⟩
 rintro⟨z,c⟩ ⟨ao,J,ar,O⟩
 refine yW ?_;refine gc6 (fun ab=>?_) fun ab=>?_
 ·
  refine go7 ?_;refine gv (zO _ underlying27 sizeOf124 rfl rfl hv rfl oM) rfl (go1 ?_);have an:=hv.get32 z.length;have am:=D.get32 z.length;refine uA ?_;refine qN (ι:=Unit) (fun(_u:(Unit))=>True) (fun(_u:(Unit))=>[(1,M),(6,H),(8,vI ↑z.length),(9,vU .u32 (xs.getD z.length 0)),(10,vU .u64 (c+(zB (val ys)).getD z.length 0)),(21,v),(22,vI ↑xs.length),(23,vI ↑z.length)]) (fun(_u:(Unit))=>[.us 124 .u32 H (fU z xs.length)]) (fun(_u:(Unit))=>h2) ?_ ?_
  ·
   refine gc8 (fun aa=>?_) fun aa=>?_
   ·
    refine go4 ?_;refine gv (zO _ underlying27 sizeOf124 rfl rfl D rfl oM) rfl (go5 ?_);refine zQ (()) ?_ e8 rfl rfl
    trivial
   refine go1 ?_;refine zQ (()) ?_ ⟨rfl,rfl,rfl,rfl,?_,rfl,rfl,rfl,trivial⟩ rfl rfl
   · trivial
   · exact congrArg some (congrArg (vU .u64) (by rw[tI (xs:=zB (val ys)) oM];omega))
  rintro _u ai
  refine yW ?_;refine go5 ?_;refine gv (lJ (k:=.u64) (W:=18446744073709551616) rfl rfl rfl rfl oM) rfl (go9 ?_);refine gv (yR (A:=[]) _ underlying27 sizeOf124 rfl rfl rfl (by rw[vN oM];omega)) rfl (wC sizeOf124 rfl rfl (by rw[vN oM];omega) (go4 ?_));refine gv (gC (k:=.u64) (s:=63) (yk:=.u64) rfl rfl rfl (by simp only[ub];omega)) rfl (go8 ?_);generalize hX:xs.getD z.length 0=X at *;generalize hY:(zB (val ys)).getD z.length 0=Y at *;refine qS (z++[(X+18446744073709551616-(c+Y))%18446744073709551616%4294967296],(X+18446744073709551616-(c+Y))%18446744073709551616/2^63) ?_ ?_ ⟨rfl,rfl,rfl,rfl,rfl,?_,trivial⟩ ?_ rfl
  ·
   have I:z.length<xs.length:=by omega
   refine⟨by simp;omega,vX J (cS oM),by omega,?_⟩;rw[lAz,List.length_singleton,vY xs _ I,vM (zB (val ys)),tY,Nat.pow_succ,hX,hY];have e:(X+18446744073709551616-(c+Y))%18446744073709551616%4294967296+c+Y=X+4294967296*((X+18446744073709551616-(c+Y))%18446744073709551616/2^63):=by omega
   generalize (X+18446744073709551616-(c+Y))%18446744073709551616/2^63=q at *;generalize (X+18446744073709551616-(c+Y))%18446744073709551616%4294967296=r at *;grind
  ·
   dsimp only;simp;omega
  · exact congrArg some (congrArg vI (by simp))
  try dsimp only[List.nil_append,List.cons_append]
  rw[rD oM]
 refine go8 ?_;have hk:z.length=xs.length:=by omega
 rw[cF hk];refine yL (by exact J) ?_;intro h3 ad ho;refine cL (ev1 rfl) call196 (fun w hs=>qR hs ho) fun aj h4 ac C=>?_;replace C:=C.2;refine go5 ?_;refine xY rfl rfl rfl ?_;replace hv:=hv.mono (ad.trans ac);rw[if_neg oM];refine⟨_,rfl,?_⟩;have e:val z=val xs-val ys:=by
  have aq:(zB (val ys)).length≤xs.length:=Nat.le_trans (yF ah) (uE hv.lt);rw[xQ oM,zD,xQ oM] at O;have h1:=jW J;have h2:c=0:=Classical.byContradiction fun ap=>by
   have:c=1:=by omega
   subst this;omega
  subst h2;omega
 rw[e] at C;exact C
theorem tO{w0:World}{h0:Mem}(hs:MLe h0 (mem w0)){v v':Value}{xs ys:List Nat}(hv:Us .u32 h0 v xs)(hv':Us .u32 h0 v' ys)(hl:xs.length≤1099511627776)(hl':ys.length≤1099511627776):
 Calls Tryz.prog 165 #[v,v'] w0 (Ret w0 h0 (fun h r=>Us .u32 h r (zB (val xs*val ys)))):=by
 have ar:Fit xs:=hv.lt;have aq:Fit ys:=hv'.lt;refine cb2 69 v v' func165 hs ?_;refine uA ?_;refine gv (wM underlying27 rfl hv') rfl (go1 ?_);refine qC (kd:=.u32) (by':=4) (xs.length+ys.length) underlying27 vW rfl rfl rfl rfl rfl oM oM oM oM rfl ?_;intro G;refine uQ ?_;refine gcL (ι:=Nat×List Nat) (fun(k,H)=>(k≤xs.length∧H.length=xs.length+ys.length∧Fit H∧val H=val (xs.take k)*val ys∧∀i,k+ys.length≤i→H.getD i 0=0,[(1,v'),(5,G),(17,v),(18,vI ↑xs.length),(19,vI ↑k)],[.us 124 .u32 G H],h0,xs.length-k)) (0,List.replicate (xs.length+ys.length) 0) ?_ ?_
 · exact⟨Nat.zero_le _,by simp,jA _,by rw[pP];simp[val],fun i _=>oR _ _⟩
 rintro⟨k,H⟩ ⟨hk,ab,O,I,hz⟩
 refine yW ?_;refine gc6 (fun ad=>?_) fun ad=>?_
 ·
  refine go7 ?_;refine gv (zO _ underlying27 sizeOf124 rfl rfl hv rfl oM) rfl (go1 ?_);have an:=hv.get32 k;refine go8 ?_;refine gv (gE (k:=.u32) (q:=0) rfl rfl) rfl (gc2 (fun D=>?_) fun D=>?_)
  ·
   have U:xs.getD k 0=0:=D;refine go8 ?_;refine gqL (k+1,H) ?_ ?_
   · exact⟨by omega,ab,O,by rw[I,vY xs k oM,U];simp,fun i hi=>hz i oM⟩
   omega
  have U:xs.getD k 0≠0:=D;refine go4 ?_;refine asg (v:=vU .u64 0) rfl rfl (go6 ?_);refine gv (wM underlying27 rfl hv') rfl (go4 ?_);refine gcL (ι:=Nat×List Nat×Nat) (fun(j,z,c)=>(j≤ys.length∧z.length=xs.length+ys.length∧Fit z∧c<4294967296∧val z+4294967296^(k+j)*c=val H+4294967296^k*(xs.getD k 0*val (ys.take j))∧∀i,k+ys.length≤i→z.getD i 0=0,[(1,v'),(5,G),(6,vI ↑k),(7,vU .u32 (xs.getD k 0)),(8,vU .u64 c),(17,v),(18,vI ↑xs.length),(19,vI ↑k),(26,v'),(27,vI ↑ys.length),(28,vI ↑j)],[.us 124 .u32 G z],h0,ys.length-j)) (0,H,0) ?_ ?_
  · exact⟨Nat.zero_le _,ab,O,by omega,by simp[val],hz⟩
  rintro⟨j,z,c⟩ ⟨hj,aa,M,ah,Z,J⟩
  refine yW ?_;refine gc6 (fun ac=>?_) fun ac=>?_
  ·
   refine go7 ?_;refine gv (zO _ underlying27 sizeOf124 rfl rfl hv' rfl oM) rfl (gv (xO isAgg124 rfl hv' oM) rfl ?_);have am:=hv'.get32 j;have ak:=qB M (k+j);have aj:xs.getD k 0*ys.getD j 0≤4294967295*4294967295:=Nat.mul_le_mul oM oM;refine iX ?_;refine gv (yR (A:=[]) (k+j) underlying27 sizeOf124 rfl rfl oM oM) rfl (gv (gN (A:=[]) isAgg124 rfl oM) rfl (tG ?_));refine gv (yR (A:=[]) (k+j) underlying27 sizeOf124 rfl rfl oM oM) rfl (wC sizeOf124 rfl rfl oM (rM ?_));refine gqL (j+1,z.set (k+j) ((c+(xs.getD k 0*ys.getD j 0+z.getD (k+j) 0))%4294967296),(c+(xs.getD k 0*ys.getD j 0+z.getD (k+j) 0))/2^32) ?_ ?_
   ·
    refine⟨by omega,by simp[aa],aQ M _ oM,by omega,?_,fun i hi=>?_⟩
    · have h1:=aI (xs:=z) (i:=k+j) oM ((c+(xs.getD k 0*ys.getD j 0+z.getD (k+j) 0))%4294967296)
      have e:=Nat.div_add_mod (c+(xs.getD k 0*ys.getD j 0+z.getD (k+j) 0)) 4294967296;have e2:(2:Nat)^32=4294967296:=rfl;rw[vY ys j oM,e2];have ep:(4294967296:Nat)^(k+(j+1))=4294967296^k*4294967296^j*4294967296:=by rw[←Nat.add_assoc,Nat.pow_succ,Nat.pow_add]
      rw[ep];rw[Nat.pow_add] at h1 Z;generalize (c+(xs.getD k 0*ys.getD j 0+z.getD (k+j) 0))/4294967296=q at *;generalize (c+(xs.getD k 0*ys.getD j 0+z.getD (k+j) 0))%4294967296=r at *;grind
    · rw[qJ oM];exact J i hi
   omega
  refine go9 ?_;refine gv (wM underlying27 rfl hv') rfl (go3 ?_);refine gv (yR (A:=[]) (k+ys.length) underlying27 sizeOf124 rfl rfl oM oM) rfl (wC sizeOf124 rfl rfl oM (go7 ?_));refine gqL (k+1,z.set (k+ys.length) (c%4294967296)) ?_ ?_
  ·
   have hj:j=ys.length:=by omega
   subst hj;refine⟨by omega,by simp[aa],aQ M _ oM,?_,fun i hi=>?_⟩
   · have h1:=aI (xs:=z) (i:=k+ys.length) oM (c%4294967296)
     rw[J _ (Nat.le_refl _)] at h1;rw[xQ (Nat.le_refl _)] at Z;rw[Nat.mod_eq_of_lt ah] at h1 ⊢;rw[vY xs k oM];grind
   · rw[qJ oM];exact J i oM
  omega
 refine go8 ?_;refine yL (by exact O) ?_;intro h1 ap ho;refine cL (ev1 rfl) call196 (fun w hs=>qR hs ho) fun ai h2 ao C=>?_;replace C:=C.2;refine go4 ?_;refine zC rfl rfl ?_;have ae:k=xs.length:=by omega
 rw[I,ae,xQ (Nat.le_refl _)] at C;exact C
end Go.Proofs.YtpkaegemlpaenaaGreat
