/- Texts that the proof needs, part 6. -/
import Derived.Test.YtlpflnindligbaaGreatKA5
set_option linter.unusedVariables false
set_option linter.unusedSimpArgs false
noncomputable section
set_option maxRecDepth 10000
set_option maxHeartbeats 1000000
open List renaming length→A1,getD→A0,toArray→Am
open Array renaming setIfInBounds→D9
open Go renaming World→AP,Value→A2,Act→Av,Operand→Ag,Program→D,Oper→AY,Exit→BH,TypeId→Ab
namespace Bk
open Classical
section
variable {x p y q:Rat}
def Ds(x p y q:Rat)(s:List PI)(l:List Pt):Prop:=A1 l=A1 s/\∀m,m<A1 s->pr (gp l m) 0 1=ag x p y q (gI s m)
def H2(s:List PI):Nat->Int
  |0=>0
  |m+1=>H2 s m+((gI s m).1*(gI s ((m+1)%A1 s)).2-(gI s ((m+1)%A1 s)).1*(gI s m).2)
theorem Zk{s:List PI}{l:List Pt}(h:Ds x p y q s l):∀m,m<=A1 s->
 qN l 0 1 m=p*q*((H2 s m:Int):Rat)+x*q*(((gI s (m%A1 s)).2:Rat)-((gI s 0).2:Rat))-y*p*(((gI s (m%A1 s)).1:Rat)-((gI s 0).1:Rat))
 |0,_=>by
  rw[Nat.zero_mod]
  show(0:Rat)=p*q*((0:Int):Rat)+_-_
  have:((0:Int):Rat)=0:=rfl;rw[this];grind
 |m+1,hm=>by
  have ih:=Zk h m A3;have e1:=h.2 m A3;have e2:=h.2 ((m+1)%A1 s) (BQ _ A3);have hmod:m%A1 s=m:=CG A3;rw[hmod] at ih;have a1:(gp l m).at 0=x+p*((gI s m).1:Rat):=AJ Prod.fst e1;have a2:(gp l m).at 1=y+q*((gI s m).2:Rat):=AJ Prod.snd e1;have b1:(gp l ((m+1)%A1 s)).at 0=x+p*((gI s ((m+1)%A1 s)).1:Rat):=AJ Prod.fst e2;have b2:(gp l ((m+1)%A1 s)).at 1=y+q*((gI s ((m+1)%A1 s)).2:Rat):=AJ Prod.snd e2
  show qN l 0 1 m+((gp l m).at 0*(gp l ((m+1)%A1 l)).at 1-(gp l ((m+1)%A1 l)).at 0*(gp l m).at 1)=_
  rw[h.1,ih,a1,a2,b1,b2]
  show _=p*q*((H2 s m+((gI s m).1*(gI s ((m+1)%A1 s)).2-(gI s ((m+1)%A1 s)).1*(gI s m).2):Int):Rat)+_-_
  simp only[Dn,Et,Dq];grind
theorem nw{s:List PI}{l:List Pt}(h:Ds x p y q s l):C2 l 0 1=p*q*((H2 s (A1 s):Int):Rat):=by
 unfold C2;rw[h.1,Zk h _ (B1 _),Nat.mod_self];grind
theorem Mt(hp:0<p)(hq:0<q){s:List PI}{l:List Pt}(h:Ds x p y q s l):yK (C2 l 0 1)=HW (H2 s (A1 s)):=by
 rw[nw h,dL (nF hp hq),mV];rfl
theorem SR(hp:0<p)(hq:0<q){s:List PI}{l:List Pt}(h:Ds x p y q s l)(hb:J6 s=true):aV l 0 1:=Rl hp hq h.1 h.2 hb
theorem aH{s:List PI}{l:List Pt}(h:Ds x p y q s l){m:Nat}(hm:m<A1 s):qJ l 0 1 m=ag x p y q (gI s m)/\qI l 0 1 m=ag x p y q (gI s ((m+1)%A1 s)):=by
 unfold qJ qI;rw[h.1];exact⟨h.2 m hm,h.2 _ (BQ _ A3)⟩
def RG(a b c:Int):Bool:=decide ((a<=c/\c<=b)\/(b<=c/\c<=a))
def Oj(u v w:PI):Bool:=RG u.1 v.1 w.1&&RG u.2 v.2 w.2&&decide (EY u v w=0)
def Of(u v w:PI):Bool:=decide (¬(u.2<=w.2↔v.2<=w.2)/\((u.2<=w.2/\0<EY u v w)\/(v.2<=w.2/\EY u v w<0)))
def Jk(s:List PI)(w:PI):Nat->Bool
  |0=>false
  |m+1=>Of (gI s m) (gI s ((m+1)%A1 s)) w != Jk s w m
def Qd(s:List PI)(w:PI):Int:=if(List.range (A1 s)).any λm=>Oj (gI s m) (gI s ((m+1)%A1 s)) w then 0 else if Jk s w (A1 s) then 1 else -1
theorem SN{a b:Int}(hp:0<p):x+p*(a:Rat)<=x+p*(b:Rat)↔a<=b:=by
 rw[<-Rat.not_lt,K2 hp,IQ]
theorem Z5(hp:0<p)(hq:0<q)(u v w:PI):BX (ag x p y q u) (ag x p y q v) (ag x p y q w)↔Oj u v w=true:=by
 have C:cr (ag x p y q u) (ag x p y q v) (ag x p y q w)=0↔EY u v w=0:=by
  rw[Y4];have h0:¬p*q=0:=λe=>absurd (e▸nF hp hq) Aa;constructor
  · intro e
    rcases IU.1 e with e|e
    · exact absurd e h0
    · exact EF.1 e
  · intro e
    rw[e];exact Rat.mul_zero _
 unfold BX Oj fF RG;rw[C,Ap,Ap,CE,CE,CE];unfold ag;simp only[SN hp,SN hq];constructor
 · rintro⟨a,b,c⟩;exact⟨⟨A3,A3⟩,c⟩
 · rintro⟨⟨a,b⟩,c⟩;exact⟨A3,A3,c⟩
theorem u5{n:Int}:0<HW n↔0<n:=by unfold HW;split<;>(try split)<;>omega
theorem VF{n:Int}:HW n<0↔n<0:=by unfold HW;split<;>(try split)<;>omega
theorem v5(hp:0<p)(hq:0<q)(u v w:PI):aT (ag x p y q u) (ag x p y q v) (ag x p y q w)↔Of u v w=true:=by
 unfold aT Of;rw[CE,Sj hp hq];unfold EK;rw[u5,VF];unfold ag;simp only[SN hq]
theorem Pj(hp:0<p)(hq:0<q){s:List PI}{l:List Pt}(h:Ds x p y q s l)(w:PI):∀m,m<=A1 s->(sE l (ag x p y q w) 0 1 m↔Jk s w m=true)
  |0,_=>by simp[sE,Jk]
  |m+1,hm=>by
   have ih:=Pj hp hq h w m A3;obtain⟨e1,e2⟩:=aH h (m:=m) A3;unfold sE Jk;rw[e1,e2,v5 hp hq,ih]
   cases Of (gI s m) (gI s ((m+1)%A1 s)) w<;>cases Jk s w m<;>simp
theorem mg(hp:0<p)(hq:0<q){s:List PI}{l:List Pt}(h:Ds x p y q s l)(w:PI):aS l (ag x p y q w) 0 1=Qd s w:=by
 unfold aS Qd;have h1:(∃m,m<A1 l/\BX (qJ l 0 1 m) (qI l 0 1 m) (ag x p y q w))↔((List.range (A1 s)).any λm=>Oj (gI s m) (gI s ((m+1)%A1 s)) w)=true:=by
  rw[OH,h.1];constructor
  · rintro⟨m,D,e⟩
    obtain⟨H,C⟩:=aH h D;rw[H,C,Z5 hp hq] at e;exact⟨m,C3.2 D,e⟩
  · rintro⟨m,D,e⟩
    have D:=C3.1 D;obtain⟨H,C⟩:=aH h D;refine⟨m,D,?_⟩;rw[H,C,Z5 hp hq];exact e
 by_cases e:∃m,m<A1 l/\BX (qJ l 0 1 m) (qI l 0 1 m) (ag x p y q w)
 · rw[AC e,AC (h1.1 e)]
 · rw[A8 e,A8 λJ=>e (h1.2 J),h.1]
   by_cases C:sE l (ag x p y q w) 0 1 (A1 s)
   · rw[AC C,AC ((Pj hp hq h w _ (B1 _)).1 C)]
   · rw[A8 C,A8 λJ=>C ((Pj hp hq h w _ (B1 _)).2 J)]
def L1(s:List PI):List PI:=s.map λu=>(2*u.1,2*u.2)
def Qb(u v:PI):PI:=(u.1+v.1,u.2+v.2)
theorem cc(s:List PI){m:Nat}(hm:m<A1 s):gI (L1 s) m=(2*(gI s m).1,2*(gI s m).2):=by
 unfold gI L1;rw[Au,Au,FA,BV hm];rfl
theorem fz{s:List PI}{l:List Pt}(h:Ds x p y q s l):Ds x (p/2) y (q/2) (L1 s) l:=by
 have D:A1 (L1 s)=A1 s:=Bu _;refine⟨by rw[D];exact h.1,λm C=>?_⟩;rw[D] at C;rw[h.2 m C,cc s C];unfold ag;have e:∀a:Int,(((2*a:Int)):Rat)=2*(a:Rat):=λa=>by rw[Dq];rfl
 show(x+p*_,y+q*_)=(x+p/2*(((2*_:Int)):Rat),y+q/2*(((2*_:Int)):Rat))
 rw[e,e];refine Prod.ext ?_ ?_
 · show x+p*_=x+p/2*(2*_);grind
 · show y+q*_=y+q/2*(2*_);grind
theorem tq(u v:PI):Ij (ag x p y q u) (ag x p y q v)=ag x (p/2) y (q/2) (Qb u v):=by
 have C:aI=1/2:=TZ.symm.trans I;unfold Ij ag Qb iX;rw[C];simp only[Dn];refine Prod.ext ?_ ?_
 · show(x+p*_+(x+p*_))*(1/2)=x+p/2*(_+_);grind
 · show(y+q*_+(y+q*_))*(1/2)=y+q/2*(_+_);grind
def WT(c s:List PI):Bool:=(List.range (A1 s)).all λm=>decide (Qd (L1 c) (Qb (gI s m) (gI s ((m+1)%A1 s)))=1)
theorem V6{c l:List Pt}(h:∀m,m<A1 l->aS c (Ij (qJ l 0 1 m) (qI l 0 1 m)) 0 1=1):∀m,m<=A1 l->cO c l 0 1 m=m
  |0,_=>rfl
  |m+1,hm=>by
   unfold cO;rw[AC (h m A3),V6 h m A3];omega
theorem cj(hp:0<p)(hq:0<q){s t:List PI}{c l:List Pt}(hc:Ds x p y q s c)(hl:Ds x p y q t l)(h:WT s t=true):Iu c l 0 1=A1 l:=by
 refine V6 (λm C=>?_) _ (B1 _);rw[hl.1] at C;obtain⟨H,D⟩:=aH hl C;rw[H,D,tq,mg (p:=p/2) (q:=q/2) Bo Bo (fz hc)];have:=Bb.1 h m (C3.2 C);exact JY this
theorem Yi{P:List Pt}(h:0<yK (C2 P 0 1)):bG P:=Qy λe=>by
 have e':C2 P 0 1=0:=e;rw[e',show yK 0=0 from AC rfl] at h;omega
def Wt(s t:List PI):Bool:=(List.range (A1 s)).all λa=>(List.range (A1 t)).all λb=>!decide (1<Kk (gI s a) (gI s ((a+1)%A1 s)) (gI t b) (gI t ((b+1)%A1 t)))
theorem g8(hp:0<p)(hq:0<q){s t:List PI}{c l:List Pt}(hc:Ds x p y q s c)(hl:Ds x p y q t l)(h:Wt s t=true):¬fE c l 0 1:=by
 rintro⟨a,b,D,C,e⟩
 rw[hc.1] at D;rw[hl.1] at C;unfold Gf at e;rw[(aH hc D).1,(aH hc D).2,(aH hl C).1,(aH hl C).2,WF hp hq] at e;have h1:=Bb.1 (Bb.1 h a (C3.2 D)) b (C3.2 C);rw[D6,DH] at h1;exact h1 e
theorem uk{P Q:List Pt}(hs:aV P 0 1)(ht:aV Q 0 1)(hl:A1 P<=64/\A1 Q<=64)(hx:¬fE P Q 0 1)(ha:0<yK (C2 P 0 1))(hw:Iu P Q 0 1=A1 Q):uK [P,Q] 0 1=0:=by
 have C:∀m,m<[P,Q].length->m=0\/m=1:=λm D=>by have:m<2:=D;omega
 have J:YW [P,Q] 0 1 1 0 (-1):=⟨⟨ha,hw⟩,.inl Aa⟩;have p0:pZ [P,Q] 0 1 0= -1:=AC ha;have Z:0<=pK [P,Q] 0 1 1 2:=by
  have U:pK [P,Q] 0 1 1 1=0:=AC J;unfold pK;rw[U]
  split<;>decide
 unfold uK;rw[A8 (λe=>by
  rcases e with e|⟨m,D,e⟩
  · have:16<2:=e
    omega
  · rcases C m D with rfl|rfl
    · have:64<A1 P:=e
      omega
    · have:64<A1 Q:=e
      omega),A8 (λe=>by
  obtain⟨m,D,e⟩:=e
  rcases C m D with rfl|rfl
  · exact e hs
  · exact e ht),A8 (λe=>by
  obtain⟨a,b,M,J,e⟩:=e;have:b<2:=J;have:a=0/\b=1:=by omega
  obtain⟨rfl,rfl⟩:=this;exact hx e),A8 (λe=>by
  rcases e with⟨k,hk,e⟩|⟨a,b,hka,hkb,e⟩
  · rcases C k hk with rfl|rfl
    · exact e.1 ha
    · have:=e.2
      have e2:pK [P,Q] 0 1 1 [P,Q].length=pK [P,Q] 0 1 1 2:=I;omega
  · obtain⟨⟨⟨H,h0⟩,he⟩,_⟩:=e
    rcases C a hka with rfl|rfl
    · omega
    · rcases C b hkb with rfl|rfl
      · omega
      · exact H I)]
def GZ(S:List (List PI)):Bool:=
 match S with
 |[s]=>J6 s&&decide (A1 s<=64)&&decide (0<H2 s (A1 s))
 |[s,t]=>J6 s&&J6 t&&decide (A1 s<=64/\A1 t<=64)&&Wt s t&&decide (0<H2 s (A1 s))&&decide (H2 t (A1 t)<0)&&WT s t
 |_=>false
def No(x p y q:Rat)(S:List (List PI))(L:List (List Pt)):Prop:=A1 L=A1 S/\∀m,m<A1 S->Ds x p y q (A0 S m []) (gl L m)
theorem Z8(hp:0<p)(hq:0<q){S:List (List PI)}{L:List (List Pt)}(h:No x p y q S L)(hb:GZ S=true):uK L 0 1=0/\E4 L=1/\∀l,l∈L->bG l:=by
 match S,hb with
 |[s],hb=>
  match L,h.1 with
  |[l],_=>
   have h0:Ds x p y q s l:=h.2 0 (show 0<_ from OY _);simp only[GZ,Ap,CE] at hb;have C:0<yK (C2 l 0 1):=by rw[Mt hp hq h0];exact u5.2 hb.2
   refine⟨RT (SR hp hq h0 hb.1.1) (by rw[h0.1];exact hb.1.2) C,SK C,λz hz=>?_⟩;rw[DP.1 hz];exact Yi C
 |[s,t],hb=>
  match L,h.1 with
  |[l,k],_=>
   have h0:Ds x p y q s l:=h.2 0 (show 0<_ from OY _);have h1:Ds x p y q t k:=h.2 1 (show 1<2 from by decide);simp only[GZ,Ap,CE] at hb;obtain⟨⟨⟨⟨⟨⟨b1,b2⟩,b3⟩,Z⟩,U⟩,M⟩,J⟩:=hb;have C:0<yK (C2 l 0 1):=by rw[Mt hp hq h0];exact u5.2 U
   have D:yK (C2 k 0 1)<0:=by rw[Mt hp hq h1];exact VF.2 M
   refine⟨uk (SR hp hq h0 b1) (SR hp hq h1 b2) (by rw[h0.1,h1.1];exact b3) (g8 hp hq h0 h1 Z) C (cj hp hq h0 h1 J),?_,λz hz=>?_⟩
   · have H:EX [l,k] 1=1:=AC C
     show EX [l,k] 2=1
     unfold EX;rw[A8 (show ¬0<yK (C2 (gl [l,k] 1) 0 1) fromλe=>by have:0<yK (C2 k 0 1):=e;omega),H]
   · rcases BY.1 hz with rfl|hz
     · exact Yi C
     · rw[DP.1 hz]
       refine Qy λe=>?_;have:C2 k 0 1=0:=e;rw[this,show yK 0=0 from AC I] at D;omega
end
abbrev I3:=Int×Int×Int
def Gb(u:I3):Nat->Int
  |0=>u.1|1=>u.2.1|_=>u.2.2
def cP(v u:I3):Pt:=T3.mk ((v.1+u.1:Int):Rat) ((v.2.1+u.2.1:Int):Rat) ((v.2.2+u.2.2:Int):Rat)
def CV(n:I3):Pt:=T3.mk (n.1:Rat) (n.2.1:Rat) (n.2.2:Rat)
def Cl(n u:I3):Int:=n.1*u.1+n.2.1*u.2.1+n.2.2*u.2.2
abbrev J:=I3×Int×List (List Int)×List Nat
abbrev SI:=List I3×List J
abbrev z3:I3:=((0:Int),(0:Int),(0:Int))
abbrev BN:J:=(z3,(0:Int),([]:List (List Int)),([]:List Nat))
abbrev g3(P:List I3)(k:Nat):I3:=A0 P k z3
def EV(v:I3)(f:J):Pl:=(CV f.1,((f.2.1+Cl f.1 v:Int):Rat))
def HJ(v:I3)(f:J)(x:Fc):Prop:=(∃a:Int,(0<a/\a<=1000)/\x.1=C8 (1/(a:Rat)) (EV v f))/\x.2=f.2.2
theorem Uu{a:Int}(h:0<a):(0:Rat)<1/(a:Rat):=by
 rw[Rat.div_def];exact nF Aa (Rat.inv_pos.2 (ON.2 h))
theorem q1{v:I3}{f:J}{x:Fc}(h:HJ v f x):∃r:Rat,0<r/\x.1=C8 r (EV v f):=by
 obtain⟨a,C,e⟩:=h.1;exact⟨_,Uu C.1,e⟩
def mO(v:I3)(I:SI)(s:Sd):Prop:=s.1=I.1.map (cP v)/\s.2.2=[]/\A1 s.2.1=A1 I.2/\∀f,f<A1 I.2->HJ v (A0 I.2 f BN) (A0 s.2.1 f zA)
theorem PB{v:I3}{P:List I3}{k:Nat}(hk:k<A1 P):gp (P.map (cP v)) k=cP v (g3 P k):=by
 show A0 (P.map (cP v)) k _=cP v (A0 P k z3)
 rw[Au,Au,FA,BV hk];rfl
def oT(n:I3):Nat×Nat:=if 0<n.2.2 then(0,1) else if n.2.2<0 then(1,0) else if 0<n.2.1 then(2,0) else if n.2.1<0 then(0,2) else if 0<n.1 then(1,2) else if n.1<0 then(2,1) else(1,2)
theorem am{r:Rat}(hr:0<r)(n:Int):0<r*(n:Rat)↔0<n:=by
 constructor
 · intro h
   refine Jn.1 λe=>?_;have h1:(n:Rat)<=0:=Rat.intCast_nonpos.2 e;have:=Rat.mul_le_mul_of_nonneg_left h1 (Rat.le_of_lt hr);grind
 · intro h
   exact nF hr (ON.2 h)
theorem V7{r:Rat}(hr:0<r)(n:Int):r*(n:Rat)<0↔n<0:=by
 have:=am hr (-n);rw[Gv] at this;constructor
 · intro h
   have:=this.1 Bo;omega
 · intro h
   have:=this.2 A3;grind
theorem ZK{v:I3}{f:J}{r:Rat}(hr:0<r):As (C8 r (EV v f)).1=(oT f.1).1/\At (C8 r (EV v f)).1=(oT f.1).2:=by
 unfold As At oT C8 EV CV;simp only[am hr,V7 hr]
 repeat' split
 all_goals first|exact⟨I,I⟩|omega
theorem hm{v:I3}{f:J}{r:Rat}(hr:0<r)(h:¬f.1=z3):¬(C8 r (EV v f)).1=zT:=λe=>by
 have g:∀n:Int,r*(n:Rat)=0->n=0:=λn e=>by
  rcases IU.1 e with e|e
  · rw[e] at hr;exact absurd hr Aa
  · exact EF.1 e
 have e1:=g _ (AJ T3.x e);have e2:=g _ (AJ T3.y e);have e3:=g _ (AJ T3.z e);exact h (Prod.ext e1 (Prod.ext e2 e3))
def Gg(a:Nat×Nat)(P:List I3)(x:List Int):List PI:=x.map λk=>(Gb (g3 P k.toNat) a.1,Gb (g3 P k.toNat) a.2)
def O1(n:Nat)(x:List Int):Bool:=decide (3<=A1 x/\A1 x<=64)&&(List.range (A1 x)).all λi=>decide (0<=A0 x i 0/\A0 x i 0<n)&&(List.range i).all λk=>!decide (A0 x i 0=A0 x k 0)
theorem YM{n:Nat}{x:List Int}(hn:n<=512)(h:O1 n x=true):Ji x/\NV n x:=by
 unfold O1 at h;rw[Ap,CE] at h;have g:∀i,i<A1 x->(0<=A0 x i 0/\A0 x i 0<n)/\∀k,k<i->¬A0 x i 0=A0 x k 0:=λi hi=>by
  have h1:=Bb.1 h.2 i (C3.2 hi);rw[Ap,CE] at h1;refine⟨h1.1,λk C=>?_⟩;have h2:=Bb.1 h1.2 k (C3.2 C);rw[D6,DH] at h2;exact h2
 refine⟨⟨h.1,λi hi=>⟨?_,(g i hi).2⟩⟩,λi hi=>(g i hi).1⟩;have:=(g i hi).1;omega
def Jo(u:I3):Bool:=decide ((-1000<=u.1/\u.1<=1000)/\(-1000<=u.2.1/\u.2.1<=1000)/\(-1000<=u.2.2/\u.2.2<=1000))
def FL(P:List I3)(f:J):Bool:=(Jo f.1&&decide (-1000<=f.2.1/\f.2.1<=1000))&&(decide (1<=A1 f.2.2.1/\A1 f.2.2.1<=16)&&f.2.2.1.all (λx=>O1 (A1 P) x&&x.all λk=>decide (Cl f.1 (g3 P k.toNat)=f.2.1))&&!decide (f.1=z3)&&GZ (f.2.2.1.map (Gg (oT f.1) P)))
def js(P:List I3):Bool:=(List.range (A1 P)).all λi=>(List.range i).all λk=>!decide (g3 P i=g3 P k)
def CS(I:SI):Bool:=I.1.all Jo&&(decide (A1 I.1<=512/\A1 I.2<=256)&&I.2.all (FL I.1)&&js I.1&&SX (Bg (I.2.map λf=>f.2.2.1)))
theorem oN{α:Type}(d:α){l k:List α}(hl:A1 l=A1 k)(h:∀i,i<A1 l->A0 l i d=A0 k i d):l=k:=by
 refine LA hl λi h1 h2=>?_;have:=h i h1;rw[Au,Au,BV h1,BV h2] at this;exact this
theorem sG{α β:Type}(g:α->β)(d:α)(e:β){l:List α}{i:Nat}(hi:i<A1 l):A0 (l.map g) i e=g (A0 l i d):=by
 rw[Au,Au,FA,BV hi];rfl
def cQ(w:Pt)(u:I3):Pt:=T3.mk (w.x+(u.1:Rat)) (w.y+(u.2.1:Rat)) (w.z+(u.2.2:Rat))
def Hr(w:Pt)(f:J):Pl:=(CV f.1,(f.2.1:Rat)+wL (CV f.1) w)
def H7(w:Pt)(I:SI)(s:Sd):Prop:=s.1=I.1.map (cQ w)/\s.2.2=[]/\A1 s.2.1=A1 I.2/\∀f,f<A1 I.2->(∃r:Rat,0<r/\(A0 s.2.1 f zA).1=C8 r (Hr w (A0 I.2 f BN)))/\(A0 s.2.1 f zA).2=(A0 I.2 f BN).2.2
theorem Wk(w:Pt)(u:I3)(n:Nat):(cQ w u).at n=w.at n+((Gb u n:Int):Rat):=by
 match n with
 |0=>rfl
 |1=>rfl
 |_+2=>rfl
theorem RI{w:Pt}{P:List I3}{k:Nat}(hk:k<A1 P):gp (P.map (cQ w)) k=cQ w (g3 P k):=by
 show A0 (P.map (cQ w)) k _=cQ w (A0 P k z3)
 rw[Au,Au,FA,BV hk];rfl
theorem od{w:Pt}{u:I3}{f:J}{r:Rat}(hr:0<r):B7 (C8 r (Hr w f)) (cQ w u)=HW (Cl f.1 u-f.2.1):=by
 have e:Cr (C8 r (Hr w f)) (cQ w u)=r*((Cl f.1 u-f.2.1:Int):Rat):=by
  unfold Cr C8 Hr wL CV cQ Cl;simp only[Dn,Et,Dq];grind
 unfold B7;rw[e,dL hr,mV];rfl
section
variable {v:Pt}{I:SI}{s:Sd}
theorem V9(h:H7 v I s):uM s=I.2.map λf=>f.2.2.1:=by
 obtain⟨h1,h2,h3,D⟩:=h;refine oN [] (by rw[rR,Bu,h3]) λf C=>?_;rw[rR,h3] at C;rw[oG A3,sG (λf:J=>f.2.2.1) BN [] C,(D f C).2]
theorem Lc{f:Nat}(h:H7 v I s)(hb:CS I=true)(hf:f<A1 I.2):FL I.1 (A0 I.2 f BN)=true:=by
 unfold CS at hb;replace hb:=(Ap _ _▸hb).2;rw[Ap,Ap,Ap] at hb;exact Bb.1 hb.1.1.2 _ (kX hf)
theorem MT(h:H7 v I s):A1 s.1=A1 I.1:=by rw[h.1,Bu]
theorem RP{P:List I3}{f:J}(h:FL P f=true){l:Nat}(hl:l<A1 f.2.2.1):O1 (A1 P) (A0 f.2.2.1 l [])=true/\∀k,k<A1 (A0 f.2.2.1 l [])->Cl f.1 (g3 P (A0 (A0 f.2.2.1 l []) k 0).toNat)=f.2.1:=by
 unfold FL at h;replace h:=(Ap _ _▸h).2;rw[Ap,Ap,Ap] at h;have h1:=Bb.1 h.1.1.2 _ (kX (d:=[]) hl);rw[Ap] at h1;refine⟨h1.1,λk C=>?_⟩;exact JY (Bb.1 h1.2 _ (kX (d:=0) C))
theorem Ss{f:Nat}(h:H7 v I s)(hb:CS I=true)(hf:f<A1 I.2):DB s f/\CB (A0 s.2.1 f zA).2.1:=by
 have D:=Lc h hb hf;have e:(A0 s.2.1 f zA).2.1=(A0 I.2 f BN).2.2.1:=AJ Prod.fst (h.2.2.2 f hf).2;have J:A1 I.1<=512:=by
  unfold CS at hb;replace hb:=(Ap _ _▸hb).2;rw[Ap,Ap,Ap,CE] at hb;exact hb.1.1.1.1
 have h1:1<=A1 (A0 I.2 f BN).2.2.1/\A1 (A0 I.2 f BN).2.2.1<=16:=by
  have C:=D;unfold FL at C;replace C:=(Ap _ _▸C).2;rw[Ap,Ap,Ap,CE] at C;exact C.1.1.1
 refine⟨λl H=>?_,?_⟩
 · rw[e] at H ⊢
   rw[MT h];exact(YM J (RP D H).1).2
 · rw[e]
   exact⟨h1,λl H=>(YM J (RP D H).1).1⟩
theorem Ze{f:Nat}(h:H7 v I s)(hn:DB s f)(hf:f<A1 I.2):A1 (jP s f)=A1 (A0 I.2 f BN).2.2.1/\∀l,l<A1 (A0 I.2 f BN).2.2.1->A1 (gl (jP s f) l)=A1 (A0 (A0 I.2 f BN).2.2.1 l [])/\∀k,k<A1 (A0 (A0 I.2 f BN).2.2.1 l [])->gp (gl (jP s f) l) k=cQ v (g3 I.1 (A0 (A0 (A0 I.2 f BN).2.2.1 l []) k 0).toNat):=by
 have e:(A0 s.2.1 f zA).2.1=(A0 I.2 f BN).2.2.1:=AJ Prod.fst (h.2.2.2 f hf).2;rw[SH (by rw[h.2.2.1];exact hf) hn];refine⟨by rw[<-e];exact xN _ _,λl J=>?_⟩;have C:l<A1 (A0 s.2.1 f zA).2.1:=by rw[e];exact J
 have M:gl (Gq s f (A1 (A0 s.2.1 f zA).2.1)) l=FO s.1 (A0 (A0 s.2.1 f zA).2.1 l []) (A1 (A0 (A0 s.2.1 f zA).2.1 l [])):=jB _ _ C;rw[M,e];refine⟨xN _ _,λk D=>?_⟩;have H:=hn l C k (by rw[e];exact D);rw[e,MT h] at H;have U:gp (FO s.1 (A0 (A0 I.2 f BN).2.2.1 l []) (A1 (A0 (A0 I.2 f BN).2.2.1 l []))) k=gp s.1 (A0 (A0 (A0 I.2 f BN).2.2.1 l []) k 0).toNat:=jB _ _ D;rw[U,h.1,RI A3]
theorem VO{f:Nat}(h:H7 v I s)(hn:DB s f)(hf:f<A1 I.2):No (v.at (oT (A0 I.2 f BN).1).1) 1 (v.at (oT (A0 I.2 f BN).1).2) 1 ((A0 I.2 f BN).2.2.1.map (Gg (oT (A0 I.2 f BN).1) I.1)) (sS s f):=by
 obtain⟨c1,c2⟩:=Ze h hn hf;obtain⟨r,U,J⟩:=(h.2.2.2 f hf).1;have D:=On s f;refine⟨by rw[D.1,c1,Bu],λl H=>?_⟩;rw[Bu] at H;obtain⟨Z,c4⟩:=c2 l H;rw[sG (Gg (oT (A0 I.2 f BN).1) I.1) [] [] H];have M:A1 (gl (sS s f) l)=A1 (A0 (A0 I.2 f BN).2.2.1 l []):=by rw[D.2 l];exact Z
 refine⟨by rw[M];exact(Bu _).symm,λm hm=>?_⟩;have C:m<A1 (A0 (A0 I.2 f BN).2.2.1 l []):=by
  have:A1 (Gg (oT (A0 I.2 f BN).1) I.1 (A0 (A0 I.2 f BN).2.2.1 l []))=A1 (A0 (A0 I.2 f BN).2.2.1 l []):=Bu _;omega
 have e1:gl (sS s f) l=Ik (A0 s.2.1 f zA).1 (gl (jP s f) l) (A1 (gl (jP s f) l)):=jB _ _ (by rw[c1];exact H);have e2:gp (Ik (A0 s.2.1 f zA).1 (gl (jP s f) l) (A1 (gl (jP s f) l))) m=jO (A0 s.2.1 f zA).1 (gp (gl (jP s f) l) m):=jB _ _ (by rw[Z];exact C);rw[e1,e2,c4 m C,J];unfold jO;rw[show As (C8 r (Hr v (A0 I.2 f BN))).1=_ from(ZK (v:=z3) U).1,show At (C8 r (Hr v (A0 I.2 f BN))).1=_ from(ZK (v:=z3) U).2,Wk,Wk];have e3:gI (Gg (oT (A0 I.2 f BN).1) I.1 (A0 (A0 I.2 f BN).2.2.1 l [])) m=(Gb (g3 I.1 (A0 (A0 (A0 I.2 f BN).2.2.1 l []) m 0).toNat) (oT (A0 I.2 f BN).1).1,Gb (g3 I.1 (A0 (A0 (A0 I.2 f BN).2.2.1 l []) m 0).toNat) (oT (A0 I.2 f BN).1).2):=by
  unfold gI Gg;exact sG (λk:Int=>(Gb (g3 I.1 k.toNat) (oT (A0 I.2 f BN).1).1,Gb (g3 I.1 k.toNat) (oT (A0 I.2 f BN).1).2)) 0 (0,0) C
 rw[e3];unfold ag pr;rw[Ia,Ia]
 rfl
theorem Qi{f:Nat}(h:H7 v I s)(hb:CS I=true)(hf:f<A1 I.2):uK (sS s f) 0 1=0/\E4 (sS s f)=1/\∀l,l∈sS s f->bG l:=by
 have C:=Lc h hb hf;unfold FL at C;replace C:=(Ap _ _▸C).2;rw[Ap] at C;exact Z8 Aa Aa (VO h (Ss h hb hf).1 hf) C.2
theorem ed{v:Pt}{u w:I3}(h:cQ v u=cQ v w):u=w:=by
 have g:∀(a:Rat) (x y:Int),a+(x:Rat)=a+(y:Rat)->x=y:=λa x y e=>EF.1 Bo;exact Prod.ext (g _ _ _ (AJ T3.x h)) (Prod.ext (g _ _ _ (AJ T3.y h)) (g _ _ _ (AJ T3.z h)))
theorem jt(h:H7 v I s)(hb:CS I=true):aP s/\CF s:=by
 have J:=hb;unfold CS at J;replace J:=(Ap _ _▸J).2;rw[Ap,Ap,Ap,CE] at J;obtain⟨⟨⟨ac,_⟩,aa⟩,ab⟩:=J;have ae:=MT h;have ad:=h.2.2.1;have D:∀f,f<A1 s.2.1->DB s f/\CB (A0 s.2.1 f zA).2.1:=λf C=>Ss h hb A3;have U:Gy (uM s):=⟨by rw[rR];omega,λf C=>by rw[rR] at C;rw[oG C];exact(D f C).2⟩;constructor
 · refine XN (a6 ?_ λf C=>⟨(D f C).2,(D f C).1⟩) (Vo λi k hk hi e=>?_) (Z9 (λf C=>?_) λf C l hl k hk=>?_) (VG λf C=>?_) (V3 U ?_)
   · unfold Hz
     rw[h.2.1]
     show ¬((512<A1 s.1\/256<A1 s.2.1)\/1024<0)
     omega
   · rw[h.1,RI A3,RI A3] at e
     have h1:=Bb.1 (Bb.1 aa i (C3.2 A3)) k (C3.2 hk);rw[D6,DH] at h1;exact h1 (ed e)
   · obtain⟨r,Z,M⟩:=(h.2.2.2 f A3).1
     rw[M];refine hm (v:=z3) Z λe=>?_;have H:=Lc h hb (f:=f) A3;unfold FL at H;replace H:=(Ap _ _▸H).2;rw[Ap,Ap,D6,DH] at H;exact H.1.2 e
   · obtain⟨r,Z,M⟩:=(h.2.2.2 f A3).1
     obtain⟨c1,c2⟩:=Ze h (D f A3).1 (f:=f) A3;obtain⟨c3,c4⟩:=c2 l A3;rw[c4 k A3,M,od Z,(RP (Lc h hb (f:=f) A3) (l:=l) A3).2 k A3,LZ]
     rfl
   · exact⟨(Qi h hb A3).1,(Qi h hb A3).2.1⟩
   · rw[V9 h];exact ab
 · refine⟨⟨⟨A3,A3⟩,by rw[h.2.1];exact Ci _⟩,λf C=>?_,λf C x hx=>(Qi h hb A3).2.2 x hx⟩
   have h1:=(D f C).2;exact⟨h1.1.2,λl hl=>(h1.2 l hl).1.2⟩
end
theorem bl(v u:I3):cP v u=cQ (CV v) u:=by
 unfold cP cQ CV;simp only[Dn]
theorem kl(v:I3)(f:J):EV v f=Hr (CV v) f:=by
 unfold EV Hr;refine Prod.ext I ?_;unfold Cl wL CV;simp only[Dn,Dq]
theorem Wq(v:I3)(n:Nat):(CV v).at n=((Gb v n:Int):Rat):=by
 match n with
 |0=>rfl
 |1=>rfl
 |_+2=>rfl
section
variable {v:I3}{I:SI}{s:Sd}
theorem JW(h:mO v I s):H7 (CV v) I s:=by
 obtain⟨h1,h2,h3,H⟩:=h;refine⟨h1.trans (Mg λu _=>bl v u),h2,h3,λf C=>?_⟩;obtain⟨⟨a,D,e⟩,J⟩:=H f C;exact⟨⟨_,Uu D.1,by rw[e,kl]⟩,J⟩
theorem ep(h:mO v I s):uM s=I.2.map λf=>f.2.2.1:=V9 (JW h)
theorem Wv{f:Nat}(h:mO v I s)(hb:CS I=true)(hf:f<A1 I.2):FL I.1 (A0 I.2 f BN)=true:=Lc (JW h) hb hf
theorem RU(h:mO v I s):A1 s.1=A1 I.1:=MT (JW h)
theorem py{f:Nat}(h:mO v I s)(hb:CS I=true)(hf:f<A1 I.2):DB s f/\CB (A0 s.2.1 f zA).2.1:=Ss (JW h) hb hf
theorem h6{f:Nat}(h:mO v I s)(hb:CS I=true)(hf:f<A1 I.2):No (Gb v (oT (A0 I.2 f BN).1).1:Rat) 1 (Gb v (oT (A0 I.2 f BN).1).2:Rat) 1 ((A0 I.2 f BN).2.2.1.map (Gg (oT (A0 I.2 f BN).1) I.1)) (sS s f):=by
 have:=VO (JW h) (py h hb hf).1 hf;rw[Wq,Wq] at this;exact this
theorem MH(h:mO v I s)(hb:CS I=true):aP s/\CF s:=jt (JW h) hb
end
def Oq(u w:I3):Bool:=decide (u.1<w.1\/(u.1=w.1/\(u.2.1<w.2.1\/(u.2.1=w.2.1/\u.2.2<w.2.2))))
theorem eb(v u w:I3):Dk (cP v u) (cP v w)↔Oq u w=true:=by
 unfold Dk Oq cP;rw[CE];simp only[L4,EF];omega
def ke(I:SI):List (List (List Int)):=I.2.map λf=>f.2.2.1
def HS(I:SI):List Int:=G2 (Bg (ke I)) (λi k=>Oq (g3 I.1 i) (g3 I.1 k)) (A1 I.1)
def Kq(o:List Int)(n:Nat):Nat->List Int
  |0=>List.replicate n (0:Int)
  |i+1=>(Kq o n i).set (A0 o i 0).toNat (i:Int)
def Fh(I:SI):List Int:=Kq (HS I) (A1 I.1) (A1 (HS I))
def KB(ix x:List Int):List Int:=J8 (qB (λq=>A0 ix (A0 x q 0).toNat 0) (A1 x))
def Ko{α:Type}(p:Nat->Bool)(g:Nat->α):Nat->List α
  |0=>[]
  |i+1=>Ko p g i++(if p i then[g i] else[])
def G4(p:Nat->Bool)(g:Nat->List Int):Nat->List (List Int)
  |0=>[]
  |i+1=>if p i then G4 p g i else y5 (G4 p g i) (Ht (λk=>decide (cZ (g i) (A0 (G4 p g i) k [])<0)) (A1 (G4 p g i))) (g i)
def Ju(P:List I3)(f:J)(i:Nat):Bool:=decide (0<H2 (Gg (oT f.1) P (A0 f.2.2.1 i [])) (A1 (A0 f.2.2.1 i [])))
def Jg(P:List I3)(ix:List Int)(f:J):J:=(f.1,f.2.1,Ko (Ju P f) (λi=>KB ix (A0 f.2.2.1 i [])) (A1 f.2.2.1)++G4 (Ju P f) (λi=>KB ix (A0 f.2.2.1 i [])) (A1 f.2.2.1),f.2.2.2)
def GW(I:SI)(i:Nat):List Nat:=(A0 I.2 i BN).2.2.2
def G7(I:SI):SI:=((HS I).map λk=>g3 I.1 k.toNat,(DJ (GW I) (A1 I.2)).map λi=>Jg I.1 (Fh I) (A0 I.2 i BN))
def NK(I:SI):Bool:=(List.range (A1 I.2)).all λi=>(List.range i).all λk=>!decide (GW I i=GW I k)
theorem ae{α:Type}{P:Nat->Prop}{p:Nat->Bool}(g:Nat->α):∀n,(∀i,i<n->(P i↔p i=true))->bC P g n=Ko p g n
  |0,_=>rfl
  |n+1,h=>by
   have ih:=ae g n λi hi=>h i A3;have h1:=h n A3;unfold bC Ko;rw[ih]
   by_cases e:P n
   · rw[AC e,AC (h1.1 e)]
   · rw[A8 e,A8 λe'=>e (h1.2 e')]
theorem Tv{s:Sd}{ix:List Int}{f:Nat}{p:Nat->Bool}{g:Nat->List Int}:∀n,(∀i,i<n->(FG s f i↔p i=true)/\D8 s ix f i=g i)->EM s ix f n=G4 p g n
  |0,_=>rfl
  |n+1,h=>by
   have ih:=Tv (s:=s) (ix:=ix) (f:=f) n λi hi=>h i A3;obtain⟨h1,h2⟩:=h n A3;unfold EM G4;rw[ih,h2,O3 (P:=M2 (g n) (G4 p g n)) (p:=λk=>decide (cZ (g n) (A0 (G4 p g n) k [])<0)) _ λk hk=>(show cZ (g n) (A0 (G4 p g n) k [])<0↔_ from CE.symm)]
   by_cases e:FG s f n
   · rw[AC e,AC (h1.1 e)]
   · rw[A8 e,A8 λe'=>e (h1.2 e')]
theorem Iq{q:Rat}(e:yK q=0):q=0:=by
 rw[pQ] at e
 split at e
 · assumption
 · split at e<;>exact absurd e Aa
theorem pp(a r:Rat)(pl:Pl):C8 a (C8 r pl)=C8 (a*r) pl:=by
 unfold C8;refine Prod.ext ?_ ?_
 · show T3.mk (a*(r*_)) (a*(r*_)) (a*(r*_))=T3.mk (a*r*_) (a*r*_) (a*r*_)
   rw[N2,N2,N2]
 · show a*(r*_)=a*r*_
   rw[N2]
theorem dd{r:Rat}(hr:0<r){n:Int}(hn:¬n=0):D3 (r*(n:Rat))*r=1/((if n<0 then -n else n:Int):Rat):=by
 have D:¬(n:Rat)=0:=λe=>hn (EF.1 e);have C:¬r=0:=λe=>absurd (e▸hr) Aa;have hx:¬r*(n:Rat)=0:=λe=>(IU.1 e).elim C D;have M:rJ (r*(n:Rat))=r*((if n<0 then -n else n:Int):Rat):=by
  have h1:=V7 hr n;unfold rJ;simp only[cK]
  by_cases h:n<0
  · rw[AC (h1.2 h),AC h,Gv];grind
  · rw[A8 (λe=>h (h1.1 e)),A8 h]
 have H:¬((if n<0 then -n else n:Int):Rat)=0:=λe=>by
  have:=EF.1 e
  split at this<;>omega
 unfold D3;rw[M,A8 (λe=>(IU.1 e).elim C H)];generalize ((if n<0 then -n else n:Int):Rat)=m at H ⊢;have J:((1:Int):Rat)=1:=I;rw[J];grind
theorem rF{n:I3}{D r:Rat}{B:Int}(hr:0<r)(hn:¬n=z3)(hb:(-B<=n.1/\n.1<=B)/\(-B<=n.2.1/\n.2.1<=B)/\(-B<=n.2.2/\n.2.2<=B)):∃a:Int,(0<a/\a<=B)/\Bc (C8 r (CV n,D))=C8 (1/(a:Rat)) (CV n,D):=by
 have g:∀x:Int,-B<=x/\x<=B->¬yK (r*(x:Rat))=0->∃a:Int,(0<a/\a<=B)/\C8 (D3 (r*(x:Rat))) (C8 r (CV n,D))=C8 (1/(a:Rat)) (CV n,D):=λx h1 h2=>by
  have C:¬x=0:=λe=>h2 (by
   rw[e];exact AC (Rat.mul_zero _))
  refine⟨if x<0 then -x else x,by split<;>omega,?_⟩;rw[pp,dd hr C]
 unfold Bc
 split
 · rename_i e
   exact g _ hb.1 e
 · split
   · rename_i e
     exact g _ hb.2.1 e
   · split
     · rename_i e
       exact g _ hb.2.2 e
     · rename_i e1 e2 e3
       have J:r*(n.1:Rat)=0:=Iq (Br e1);have H:r*(n.2.1:Rat)=0:=Iq (Br e2);have z3:r*(n.2.2:Rat)=0:=Iq (Br e3);have q:∀x:Int,r*(x:Rat)=0->x=0:=λx e=>EF.1 ((IU.1 e).resolve_left λe=>by rw[e] at hr;exact absurd hr Aa);exact absurd (Prod.ext (q _ J) (Prod.ext (q _ H) (q _ z3))) hn
theorem q9{v:I3}{f:J}{r:Rat}(hr:0<r)(hn:¬f.1=z3)(hb:Jo f.1=true):∃a:Int,(0<a/\a<=1000)/\Bc (C8 r (EV v f))=C8 (1/(a:Rat)) (EV v f):=rF hr hn (JY hb)
section
variable {v:I3}{I:SI}{s:Sd}
theorem PH(h:mO v I s)(hb:CS I=true):fU s=HS I:=by
 have C:=RU h;unfold fU HS;rw[R1 (lt:=λi k=>Oq (g3 I.1 i) (g3 I.1 k)) (n:=A1 s.1) (λi k hi D=>by rw[h.1,PB A3,PB A3];exact eb _ _ _) _ (B1 _),ep h,C];rfl
theorem ZE(h:mO v I s)(hb:CS I=true):∀i,GG s i=Kq (HS I) (A1 I.1) i
  |0=>by unfold GG Kq;rw[RU h]
  |i+1=>by unfold GG Kq;rw[ZE h hb i,PH h hb]
theorem ou(h:mO v I s)(hb:CS I=true):CC s=Fh I:=by
 unfold CC Fh;rw[ZE h hb,PH h hb]
theorem il{f:Nat}(h:mO v I s)(hb:CS I=true)(hf:f<A1 I.2):HJ v (Jg I.1 (Fh I) (A0 I.2 f BN)) (CI s (CC s) f):=by
 obtain⟨r,hr,U⟩:=q1 (h.2.2.2 f hf);have e:=(h.2.2.2 f hf).2;have e1:(A0 s.2.1 f zA).2.1=(A0 I.2 f BN).2.2.1:=AJ Prod.fst e;have e2:(A0 s.2.1 f zA).2.2=(A0 I.2 f BN).2.2.2:=AJ Prod.snd e;have C:=Wv h hb hf;have Z:¬(A0 I.2 f BN).1=z3:=by
  unfold FL at C;replace C:=(Ap _ _▸C).2;rw[Ap,Ap,D6,DH] at C;exact C.1.2
 have aa:=h6 h hb hf;have D:∀i,i<A1 (A0 I.2 f BN).2.2.1->(FG s f i↔Ju I.1 (A0 I.2 f BN) i=true):=λi hi=>by
  have hl:=aa.2 i (by rw[Bu];exact hi);rw[sG (Gg (oT (A0 I.2 f BN).1) I.1) [] [] hi] at hl;unfold FG Ju;rw[Mt Aa Aa hl,u5,CE];have:A1 (Gg (oT (A0 I.2 f BN).1) I.1 (A0 (A0 I.2 f BN).2.2.1 i []))=A1 (A0 (A0 I.2 f BN).2.2.1 i []):=Bu _;rw[this]
 have H:∀i,D8 s (CC s) f i=KB (Fh I) (A0 (A0 I.2 f BN).2.2.1 i []):=λi=>by
  unfold D8 KB Ni;rw[ou h hb,e1]
 have ab:Jo (A0 I.2 f BN).1=true:=by
  unfold FL at C;exact(Ap _ _▸(Ap _ _▸C).1).1
 obtain⟨r',M,J⟩:=q9 (v:=v) hr Z ab;constructor
 · refine⟨r',M,?_⟩
   show Bc (A0 s.2.1 f zA).1=_
   rw[U,J];rfl
 · refine Prod.ext ?_ e2
   show FW s (CC s) f (A1 (A0 s.2.1 f zA).2.1)++EM s (CC s) f (A1 (A0 s.2.1 f zA).2.1)=_
   rw[e1];have g1:FW s (CC s) f (A1 (A0 I.2 f BN).2.2.1)=Ko (Ju I.1 (A0 I.2 f BN)) (λi=>KB (Fh I) (A0 (A0 I.2 f BN).2.2.1 i [])) (A1 (A0 I.2 f BN).2.2.1):=by
    unfold FW;rw[ae (D8 s (CC s) f) _ D]
    congr 1
    funext i
    exact H i
   rw[g1,Tv (p:=Ju I.1 (A0 I.2 f BN)) (g:=λi=>KB (Fh I) (A0 (A0 I.2 f BN).2.2.1 i [])) _ λi hi=>⟨D i hi,H i⟩]
   rfl
theorem TY(h:mO v I s)(hb:CS I=true)(hn:NK I=true):mO v (G7 I) (Di s,Cb s,E7 s):=by
 have H:=(MH h hb).1;have hl:=RU h;have J:=PH h hb;have D:EJ s (A1 s.2.1)=(DJ (GW I) (A1 I.2)).map λi=>CI s (CC s) i:=by
  rw[h.2.2.1];refine Oy (n:=A1 I.2) (λi hi=>by show(A0 s.2.1 i zA).2.2=_;exact AJ Prod.snd (h.2.2.2 i hi).2) (λi hi k M=>?_) _ (B1 _);have h1:=Bb.1 (Bb.1 hn i (C3.2 hi)) k (C3.2 M);rw[D6,DH] at h1;exact h1
 refine⟨?_,?_,?_,?_⟩
 · show Di s=_
   unfold Di;rw[AC H];unfold KW;refine oN zT (by rw[xN,J];show _=A1 (((HS I).map _).map _);rw[Bu,Bu]) λi hi=>?_;rw[xN] at hi;have hg:=eP (s:=s) (i:=A1 s.1) (k:=i) hi;rw[jB _ _ hi]
   show _=A0 (((HS I).map λk=>g3 I.1 k.toNat).map (cP v)) i zT
   rw[J] at hi;rw[sG (cP v) z3 zT (by rw[Bu];exact hi),sG (λk:Int=>g3 I.1 k.toNat) 0 z3 hi,<-J,h.1];have:(A0 (fU s) i 0)=A0 (aY s (A1 s.1)) i 0:=rfl;exact PB A3
 · show E7 s=[]
   unfold E7;rw[AC H];exact h.2.1
 · show(A1 (Cb s))=A1 ((DJ (GW I) (A1 I.2)).map _)
   unfold Cb;rw[AC H,D,Bu,Bu]
 · intro f Z
   have C:f<A1 (DJ (GW I) (A1 I.2)):=by
    have:A1 ((DJ (GW I) (A1 I.2)).map λi=>Jg I.1 (Fh I) (A0 I.2 i BN))=_:=Bu _;have U:f<A1 ((DJ (GW I) (A1 I.2)).map λi=>Jg I.1 (Fh I) (A0 I.2 i BN)):=Z;omega
   have hx:=Mc _ _ _ (kX (d:=0) C);have e1:A0 (G7 I).2 f BN=Jg I.1 (Fh I) (A0 I.2 (A0 (DJ (GW I) (A1 I.2)) f 0) BN):=sG (λi=>Jg I.1 (Fh I) (A0 I.2 i BN)) 0 BN C;have e2:A0 (Cb s) f zA=CI s (CC s) (A0 (DJ (GW I) (A1 I.2)) f 0):=by
    unfold Cb;rw[AC H,D];exact sG (λi=>CI s (CC s) i) 0 zA C
   show HJ v (A0 (G7 I).2 f BN) (A0 (Cb s) f zA)
   rw[e1,e2];exact il h hb hx
end
def HD(q:Pl):Pl:=if ¬yK q.1.x=0 then(if yK q.1.x<0 then CZ q else q) else if ¬yK q.1.y=0 then(if yK q.1.y<0 then CZ q else q) else if ¬yK q.1.z=0 then(if yK q.1.z<0 then CZ q else q) else q
def kM(pl:Pl):Pl:=HD (Bc pl)
theorem OA(x:Rat):((-1:Int):Rat)*x= -x:=by rw[show(((-1:Int):Rat))= -(1:Rat) from I];grind
theorem hI{x:Rat}(h:¬yK x=0):(¬x=0)/\(0<x->D3 x*x=1)/\(x<0->D3 x*x= -1):=by
 have hx:¬x=0:=λe=>h (by rw[e];exact AC I);have J:x<0->rJ x= -x:=λe=>AC ((cK x).2 e);have H:0<x->rJ x=x:=λe=>A8 λM=>by have:=(cK x).1 M;grind
 have D:((1:Int):Rat)=1:=I;refine⟨hx,λh=>?_,λh=>?_⟩
 · unfold D3
   rw[H h,A8 hx,D];exact MD hx
 · unfold D3
   have C:¬-x=0:=by grind
   rw[J h,A8 C,D];have:=MD (a:=1) C;grind
theorem TP:D3 1=1:=by
 have h1:rJ 1=1:=A8 Aa;unfold D3;rw[h1,A8 Aa]
 decide +kernel
theorem T0(q:Pl):C8 1 q=q:=by
 unfold C8;simp only[Ia]
theorem IX:yK 1=1:=by
 unfold yK;rw[A8 Aa,A8 Aa]
theorem Hm:yK 0=0:=AC rfl
def Ye(q:Pl):Prop:=q.1.x=1\/(q.1.x=0/\(q.1.y=1\/(q.1.y=0/\q.1.z=1)))
theorem fl{q:Pl}(h:Ye q):kM q=q:=by
 have C:¬(1:Int)=0:=by decide
 have D:¬(1:Int)<0:=by decide
 unfold kM;have e:Bc q=q:=by
  unfold Bc
  rcases h with h|⟨h0,h|⟨h1,h⟩⟩
  · rw[h,IX,AC C,TP,T0]
  · rw[h0,h,Hm,IX,A8 (λe=>e I),AC C,TP,T0]
  · rw[h0,h1,h,Hm,IX,A8 (λe=>e I),A8 (λe=>e I),AC C,TP,T0]
 rw[e];unfold HD
 rcases h with h|⟨h0,h|⟨h1,h⟩⟩
 · rw[h,IX,AC C,A8 D]
 · rw[h0,h,Hm,IX,A8 (λe=>e I),AC C,A8 D]
 · rw[h0,h1,h,Hm,IX,A8 (λe=>e I),A8 (λe=>e I),AC C,A8 D]
theorem Zp{pl:Pl}(h:pl.1=zT):kM pl=FZ:=by
 have e:Bc pl=FZ:=by
  unfold Bc;rw[h,show yK (zT:Pt).x=0 from Hm,A8 (λe=>e I),A8 (λe=>e I),A8 (λe=>e I)]
 unfold kM;rw[e];unfold HD;rw[show yK (FZ:Pl).1.x=0 from Hm,A8 (λe=>e I),A8 (λe=>e I),A8 (λe=>e I)]
theorem mu{pl:Pl}(h:¬pl.1=zT):Ye (kM pl):=by
 -- the first component that is not zero comes to 1
 have D:∀x:Rat,¬yK x=0->∀q:Pl,q=C8 (D3 x) pl->∀c:Pl->Rat,(∀r:Rat,c (C8 r pl)=r*x)->(c (CZ q)= -c q)->c (if yK (c q)<0 then CZ q else q)=1/\¬yK (c q)=0:=λx hx q hq c hc ho=>by
  obtain⟨h0,h1,h2⟩:=hI hx;have e:c q=D3 x*x:=by rw[hq,hc]
  rcases(show 0<x\/x<0 by grind) with hp|hp
  · rw[h1 hp] at e
    rw[e,IX,A8 Aa];exact⟨e,Aa⟩
  · rw[h2 hp] at e
    have s:yK (-1:Rat)= -1:=by
     unfold yK;rw[A8 Aa,AC Aa]
    rw[e,s,AC Aa,ho,e];exact⟨Aa,Aa⟩
 have U:∀r y:Rat,yK y=0->r*y=0:=λr y hy=>by rw[Iq hy];exact Rat.mul_zero r
 have C:∀(q:Pl) (b:Prop) [Decidable b] (c:Pl->Rat),c q=0->c (CZ q)= -c q->c (if b then CZ q else q)=0:=λq b _ c h1 h2=>by
  split
  · rw[h2,h1];decide +kernel
  · exact h1
 have Z:∀q:Pl,(CZ q).1.x= -q.1.x:=λq=>OA _;have oy:∀q:Pl,(CZ q).1.y= -q.1.y:=λq=>OA _;have oz:∀q:Pl,(CZ q).1.z= -q.1.z:=λq=>OA _;unfold kM
 by_cases hx:yK pl.1.x=0
 · by_cases hy:yK pl.1.y=0
   · by_cases hz:yK pl.1.z=0
     · exact absurd (cF.2 ⟨Iq hx,Iq hy,Iq hz⟩) h
     · have e:Bc pl=C8 (D3 pl.1.z) pl:=by
        unfold Bc;rw[A8 (λe=>e hx),A8 (λe=>e hy),AC hz]
       obtain⟨M,J⟩:=D _ hz _ e (λq=>q.1.z) (λr=>I) (oz _);have H:(Bc pl).1.x=0:=by rw[e];exact U _ _ hx
       have y0:(Bc pl).1.y=0:=by rw[e];exact U _ _ hy
       unfold HD;rw[H,y0,Hm,A8 (λe=>e I),A8 (λe=>e I),AC J];exact .inr ⟨C _ _ (λq=>q.1.x) H (Z _),.inr ⟨C _ _ (λq=>q.1.y) y0 (oy _),M⟩⟩
   · have e:Bc pl=C8 (D3 pl.1.y) pl:=by
      unfold Bc;rw[A8 (λe=>e hx),AC hy]
     obtain⟨M,J⟩:=D _ hy _ e (λq=>q.1.y) (λr=>I) (oy _);have H:(Bc pl).1.x=0:=by rw[e];exact U _ _ hx
     unfold HD;rw[H,Hm,A8 (λe=>e I),AC J];exact .inr ⟨C _ _ (λq=>q.1.x) H (Z _),.inl M⟩
 · have e:Bc pl=C8 (D3 pl.1.x) pl:=by
    unfold Bc;rw[AC hx]
   obtain⟨M,J⟩:=D _ hx _ e (λq=>q.1.x) (λr=>I) (Z _);unfold HD;rw[AC J];exact .inl M
theorem XS(pl:Pl):kM (kM pl)=kM pl:=by
 by_cases h:pl.1=zT
 · rw[Zp h];exact Zp I
 · exact fl (mu h)
def F4(acc:List Pl)(p:Pl):List Pl:=if kM p∈acc then acc else acc++[kM p]
theorem Jz{q:Rat}:(32:Nat) ∉ qF q:=by
 have h:∀n,(32:Nat) ∉ BZ n:=λn C=>by
  have D:=Nt n;unfold GI at D;have:=Bb.1 D 32 C;exact absurd this Aa
 unfold qF;intro C
 rcases Cy.1 C with C|C
 · rcases Cy.1 C with C|C
   · split at C
     · exact absurd (DP.1 C) Aa
     · exact absurd C Bv
   · exact h _ C
 · split at C
   · exact absurd C Bv
   · rcases Cy.1 C with C|C
     · exact absurd (DP.1 C) Aa
     · exact h _ C
theorem M8:∀{a b r s:List Nat},(32:Nat) ∉ a->(32:Nat) ∉ b->a++32::r=b++32::s->a=b/\r=s
  |[],[],r,s,_,_,h=>⟨rfl,(List.cons.inj h).2⟩
  |[],y::b,r,s,_,hb,h=>absurd (by rw[(List.cons.inj h).1];exact LB) hb
  |x::a,[],r,s,ha,_,h=>absurd (by rw[<-(List.cons.inj h).1];exact LB) ha
  |x::a,y::b,r,s,ha,hb,h=>by
   obtain⟨h1,h2⟩:=List.cons.inj h;obtain⟨e1,e2⟩:=M8 (λe=>ha (FV _ e)) (λe=>hb (FV _ e)) h2;exact⟨by rw[h1,e1],e2⟩
theorem P6{a b:Rat}(ha:lq a<=60)(hb:lq b<=60)(h:qF a=qF b):a=b:=by
 have h1:=Xv ha;have h2:=Xv hb;rw[h,h2] at h1;exact(AJ Prod.snd h1).symm
def Ec(pl:Pl):List Nat:=((qF pl.2++([32]++qF pl.1.x))++([32]++qF pl.1.y))++([32]++qF pl.1.z)
def nG(k:Nat)(pl:Pl):Prop:=(lq pl.1.x<=k/\lq pl.1.y<=k/\lq pl.1.z<=k)/\lq pl.2<=k
theorem ey{a b:Pl}(ha:nG 60 a)(hb:nG 60 b)(h:Ec a=Ec b):a=b:=by
 have e:∀pl:Pl,Ec pl=qF pl.2++32::(qF pl.1.x++32::(qF pl.1.y++32::qF pl.1.z)):=λpl=>by
  unfold Ec;simp only[Ck,Fs,Fg]
 rw[e,e] at h;obtain⟨h1,h⟩:=M8 Jz Jz h;obtain⟨h2,h⟩:=M8 Jz Jz h;obtain⟨h3,C⟩:=M8 Jz Jz h;exact Prod.ext (cF.2 ⟨P6 ha.1.1 hb.1.1 h2,P6 ha.1.2.1 hb.1.2.1 h3,P6 ha.1.2.2 hb.1.2.2 C⟩) (P6 ha.2 hb.2 h1)
theorem lg{a:Pl}{l:List Pl}(ha:nG 60 a)(hl:∀q,q∈l->nG 60 q):Ec a∈l.map Ec↔a∈l:=by
 constructor
 · intro h
   obtain⟨q,C,e⟩:=Cp.1 h;rw[<-ey (hl q C) ha e];exact C
 · exactλh=>Cp.2 ⟨a,h,I⟩
def NA(pl:Pl)(a b:Pt):Pl:=(xS (qX b a) pl.1,wL (xS (qX b a) pl.1) a)
def Lq(l:List Pt):Nat->Pt
  |0=>zT
  |m+1=>G0 (Lq l m) (gp l m)
def tS(l:List Pt):Pt:=if (A1 l)=0 then zT else T3.mk (sQ 1 ↑(A1 l)*(Lq l (A1 l)).x) (sQ 1 ↑(A1 l)*(Lq l (A1 l)).y) (sQ 1 ↑(A1 l)*(Lq l (A1 l)).z)
def K0(c:Pl)(l:List Pt):Nat->Rat
  |0=>0
  |m+1=>K0 c l m+Cr c (gp l m)
theorem Ur{pl:Pl}{a b c:Pt}(hn:¬pl.1=zT)(ha:B7 pl a=0)(hb:B7 pl b=0)(hc:B7 pl c=0):yK (FF (qX b a) (qX c a) pl.1)<=0↔¬0<Ai (CL pl a) (CL pl b) (CL pl c):=by
 rw[<-mm hn ha hb hc,m8];omega
def QQ(s:Pl)(x0 y0 x1 y1:Rat):List Pt:=[bF s (T3.mk x0 y0 (0:Rat)),bF s (T3.mk x1 y0 (0:Rat)),bF s (T3.mk x1 y1 (0:Rat)),bF s (T3.mk x0 y1 (0:Rat))]
def ET(s:Pl)(ps:List Pt):Nat->Pt
  |0=>jO s (gp ps 0)
  |m+1=>T3.mk (s6 (ET s ps m).x (jO s (gp ps m)).x) (s6 (ET s ps m).y (jO s (gp ps m)).y) (ET s ps m).z
def ED(s:Pl)(ps:List Pt):Nat->Pt
  |0=>jO s (gp ps 0)
  |m+1=>T3.mk (s7 (ED s ps m).x (jO s (gp ps m)).x) (s7 (ED s ps m).y (jO s (gp ps m)).y) (ED s ps m).z
def IM(s:Pl)(ps:List Pt):List Pt:=
 if (A1 ps)=0\/s.1=zT then[] else QQ s ((ET s ps (A1 ps)).x-((1:Int):Rat)) ((ET s ps (A1 ps)).y-((1:Int):Rat)) ((ED s ps (A1 ps)).x+((1:Int):Rat)) ((ED s ps (A1 ps)).y+((1:Int):Rat))
theorem WP(ps:List Pt)(i:Nat):A0 (ps.drop 1) i (T3.mk (0:Rat) 0 0)=gp ps (i+1):=by
 unfold gp;rw[Au,Au,F5,Nat.add_comm]
def HL(s:Pl)(ps:List Pt)(i:Nat):Nat->List Rat
  |0=>[(ET s ps (i+1)).x,(ET s ps (i+1)).y]
  |1=>[(ET s ps (i+2)).x,(ET s ps (i+1)).y]
  |_=>[(ET s ps (i+2)).x,(ET s ps (i+2)).y]
def HF(s:Pl)(ps:List Pt)(i:Nat):Nat->List Rat
  |0=>[(ED s ps (i+1)).x,(ED s ps (i+1)).y]
  |1=>[(ED s ps (i+2)).x,(ED s ps (i+1)).y]
  |_=>[(ED s ps (i+2)).x,(ED s ps (i+2)).y]
theorem d9(s:Pl)(ps:List Pt):HL s ps 0 0=[(gp ps 0).at (As s.1),(gp ps 0).at (At s.1)]:=by
 show[s6 (jO s (gp ps 0)).x (jO s (gp ps 0)).x,s6 (jO s (gp ps 0)).y (jO s (gp ps 0)).y]=_
 rw[YH,YH];rfl
theorem qd(s:Pl)(ps:List Pt):HF s ps 0 0=[(gp ps 0).at (As s.1),(gp ps 0).at (At s.1)]:=by
 show[s7 (jO s (gp ps 0)).x (jO s (gp ps 0)).x,s7 (jO s (gp ps 0)).y (jO s (gp ps 0)).y]=_
 rw[V4,V4];rfl
theorem i7(s:Pl)(ps:List Pt)(i:Nat){j:Nat}(hj:j<2):(HL s ps i j).set j (s6 (A0 (HL s ps i j) j 0) ([(A0 (ps.drop 1) i (T3.mk (0:Rat) 0 0)).at (As s.1),(A0 (ps.drop 1) i (T3.mk (0:Rat) 0 0)).at (At s.1)].getD j 0))=HL s ps i (j+1):=by
 rw[WP]
 match j,hj with
 |0,_=>rfl
 |1,_=>rfl
theorem rd(s:Pl)(ps:List Pt)(i:Nat){j:Nat}(hj:j<2):(HF s ps i j).set j (s7 (A0 (HF s ps i j) j 0) ([(A0 (ps.drop 1) i (T3.mk (0:Rat) 0 0)).at (As s.1),(A0 (ps.drop 1) i (T3.mk (0:Rat) 0 0)).at (At s.1)].getD j 0))=HF s ps i (j+1):=by
 rw[WP]
 match j,hj with
 |0,_=>rfl
 |1,_=>rfl
def LV(s:Pl)(X:List Pt):Nat->List Pt
  |0=>[]
  |j+1=>LV s X j++[bF s (A0 X j (T3.mk (0:Rat) 0 0))]
theorem U8(s:Pl)(X:List Pt):∀j,A1 (LV s X j)=j
  |0=>rfl
  |j+1=>by rw[LV,BJ,U8 s X j];rfl
def HG(x y u v:Rat):List Pt:=[T3.mk x y (0:Rat),T3.mk u y (0:Rat),T3.mk u v (0:Rat),T3.mk x v (0:Rat)]
end Bk
namespace Bk
open Go Go.RowKit
open Classical
theorem MZ{α:Type}{ρ σ:Rp α}(P:α->Prop)(hn:ρ.n=σ.n)(k:∀{h cs x},ρ.R h cs x->P x->σ.R h cs x){h:A4}{cs:List A2}{xs:List α}(r:(AS ρ).R h cs xs)(hp:∀x,x∈xs->P x):(AS σ).R h cs xs:=by
 obtain⟨v,ds,e,s,rl⟩:=r;refine⟨v,ds,e,hn▸s,?_⟩
 clear s e
 induction xs generalizing ds with
 |nil=>exact rl
 |cons x xs ih=>
  obtain⟨a,b,e,ra,rb⟩:=rl;exact⟨a,b,e,k ra (hp x (.head _)),ih (λy hy=>hp y (.tail _ hy)) b rb⟩
def Mw(k:Nat)(p:T3 Rat):Prop:=lq p.x<=k/\lq p.y<=k/\lq p.z<=k
theorem ob{K k:Nat}{h:A4}{cs:List A2}{p:T3 Rat}(r:(Bd (AE K)).R h cs p)(hp:Mw k p):(Bd (AE k)).R h cs p:=by
 obtain⟨a,b,e,H,c,d,J,D,C⟩:=r;exact⟨a,b,e,⟨H.1,hp.1⟩,c,d,J,⟨D.1,hp.2.1⟩,⟨C.1,hp.2.2⟩⟩
theorem mf{α:Type}{ρ σ:Rp α}(P:α->Prop)(k:∀{h cs x},ρ.R h cs x->P x->σ.R h cs x){h:A4}{ds:List A2}{xs:List α}(rl:RL ρ h ds xs)(hp:∀x,x∈xs->P x):RL σ h ds xs:=by
 induction xs generalizing ds with
 |nil=>exact rl
 |cons x xs ih=>
  obtain⟨a,b,e,ra,rb⟩:=rl;exact⟨a,b,e,k ra (hp x (.head _)),ih rb (λy hy=>hp y (.tail _ hy))⟩
theorem su{K k:Nat}{h:A4}{ds:List A2}{xs:List (List (T3 Rat))}(s:RL (AS (Bd (AE K))) h ds xs)(hp:∀x,x∈xs->∀p,p∈x->Mw k p):RL (AS (Bd (AE k))) h ds xs:=
 mf (ρ:=AS (Bd (AE K))) (σ:=AS (Bd (AE k))) (λx=>∀p,p∈x->Mw k p) (λr hx=>MZ (ρ:=Bd (AE K)) (σ:=Bd (AE k)) (Mw k) rfl ob r hx) s hp
end Bk
namespace Bk
open Classical
def K4(k m n j:Nat)(s:Sd):Prop:=(∀p,p∈s.1->Ft k p)/\(∀f,f∈s.2.1->Ft m f.1.1/\lq f.1.2<=n)/\∀e,e∈s.2.2->lq e.2.2<=j
section
variable {h:A4}{cs:List Go.Value}
theorem is{M N m n:Nat}{f:Fc}(r:(A6 (A6 (Bd (AE M)) (AE N)) (A6 (AS (AS A9)) wQ)).R h cs f)(hp:Ft m f.1.1/\lq f.1.2<=n):(A6 (A6 (Bd (AE m)) (AE n)) (A6 (AS (AS A9)) wQ)).R h cs f:=by
 obtain⟨a,b,e,⟨J,H,D,r1,r2⟩,C⟩:=r;exact⟨a,b,e,⟨J,H,D,PM r1 I hp.1,Sb r2 I hp.2⟩,C⟩
theorem gc{J j:Nat}{x:En}(r:(A6 A9 (A6 A9 (AE J))).R h cs x)(hp:lq x.2.2<=j):(A6 A9 (A6 A9 (AE j))).R h cs x:=by
 obtain⟨a,b,e,H,c,d,M,D,C⟩:=r;exact⟨a,b,e,H,c,d,M,D,Sb C I hp⟩
theorem OX{K M N J k m n j:Nat}{s:Sd}(r:(A6 (AS (Bd (AE K))) (A6 (AS (A6 (A6 (Bd (AE M)) (AE N)) (A6 (AS (AS A9)) wQ))) (AS (A6 A9 (A6 A9 (AE J)))))).R h cs s)(hp:K4 k m n j s):
 (A6 (AS (Bd (AE k))) (A6 (AS (A6 (A6 (Bd (AE m)) (AE n)) (A6 (AS (AS A9)) wQ))) (AS (A6 A9 (A6 A9 (AE j)))))).R h cs s:=by
 obtain⟨a,b,e,H,c,d,U,D,C⟩:=r;exact⟨a,b,e,MZ (ρ:=Bd (AE K)) (σ:=Bd (AE k)) (Ft k) I (λr hp=>PM r I hp) H hp.1,c,d,U,
  MZ (ρ:=A6 (A6 (Bd (AE M)) (AE N)) (A6 (AS (AS A9)) wQ)) (σ:=A6 (A6 (Bd (AE m)) (AE n)) (A6 (AS (AS A9)) wQ)) (λf=>Ft m f.1.1/\lq f.1.2<=n) I is D hp.2.1,
  MZ (ρ:=A6 A9 (A6 A9 (AE J))) (σ:=A6 A9 (A6 A9 (AE j))) (λx=>lq x.2.2<=j) I gc C hp.2.2⟩
end
section
variable {a b:Pt}
structure dc(k:Nat)(a b:Pt):Prop where
 lq:Ft k b
 ok:dD a b
 h:Ki a b
 e:L2 a b=0
 oks:CF (Cw a b)
 snd:aP (Cw a b)
 sm:K4 k 2 (k+2) 0 (Cw a b)
 onb:∀p,Dg (aF (Cw a b)) p↔(∀u,u<3->kI a b p u)/\¬∀u,u<3->sI a b p u
 wd:∀p,¬Dg (aF (Cw a b)) p->Do (aF (Cw a b)) p=hR (∀u,u<3->sI a b p u)
 inb:∀p,Uq (aF (Cw a b)) p=if ∀u,u<3->sI a b p u then 1 else if ∀u,u<3->kI a b p u then 0 else -1
theorem Ox{i:Nat}(h:i<3):i=0\/i=1\/i=2:=by omega
end
structure vw:Prop where
 b:dc 2 (pI 0 0 0) (pI 1 1 1)
 o1:¬Dg (aF (Cw (pI 0 0 0) (pI 1 1 1))) (T3.mk (sQ 1 2) (sQ 1 2) (sQ 1 2))
 w1:Do (aF (Cw (pI 0 0 0) (pI 1 1 1))) (T3.mk (sQ 1 2) (sQ 1 2) (sQ 1 2))=1
 o2:¬Dg (aF (Cw (pI 0 0 0) (pI 1 1 1))) (pI 2 0 0)
 w2:Do (aF (Cw (pI 0 0 0) (pI 1 1 1))) (pI 2 0 0)=0
 i3:Uq (aF (Cw (pI 0 0 0) (pI 1 1 1))) (pI 1 1 1)=0
theorem UF{p:Pt}:p=zT↔p.x=0/\p.y=0/\p.z=0:=cF
theorem wF{u a b:Pt}(h1:wL a u=0)(h2:wL b u=0):wL (xS a b) (xS a b)*u.x=wL u (xS a b)*(xS a b).x/\wL (xS a b) (xS a b)*u.y=wL u (xS a b)*(xS a b).y/\wL (xS a b) (xS a b)*u.z=wL u (xS a b)*(xS a b).z:=by
 have H:u.y*(xS a b).z-u.z*(xS a b).y=0:=by unfold xS wL at *;simp only at *;grind
 have D:u.z*(xS a b).x-u.x*(xS a b).z=0:=by unfold xS wL at *;simp only at *;grind
 have C:u.x*(xS a b).y-u.y*(xS a b).x=0:=by unfold xS wL at *;simp only at *;grind
 generalize xS a b=w at *;unfold wL;refine⟨?_,?_,?_⟩<;>grind
section
variable {pl c:Pl}{l:List Pt}
end
abbrev DW(ps:List Pl)(m:Nat):Pl:=A0 ps m (T3.mk (0:Rat) 0 0,(0:Rat))
section
variable (W:List Pt->Prop)
def EW(x:List Pt):List (List Pt):=if 0<A1 x/\W x then[x] else[]
def sY(c:Pl)(L:List (List Pt)):Nat->List (List Pt)
  |0=>[]
  |m+1=>sY c L m++EW W (sN c (A0 L m []))++EW W (gS c (A0 L m []))
def xZ(l:List Pt)(ps:List Pl):Nat->List (List Pt)
  |0=>[l]
  |m+1=>sY W (DW ps m) (xZ l ps m) (A1 (xZ l ps m))
def JH(l:List Pt)(ps:List Pl):List (List Pt):=if (A1 l)=0 then[] else xZ W l ps (A1 ps)
end
def J0(W:List Pt->Prop)(l:List Pt)(ps:List Pl):Prop:=∀m,m<=A1 ps->∀x,x∈xZ W l ps m->(∀p,p∈x->Ft 3010 p)/\A1 x<=32
theorem J0.gd{W:List Pt->Prop}{l:List Pt}{ps:List Pl}(h:J0 W l ps){m q:Nat}(hm:m<=A1 ps):A1 (A0 (xZ W l ps m) q [])<=32:=by
 rcases DR q (A1 (xZ W l ps m)) with h1|h1
 · exact(h m hm _ (by rw[Au,BV h1];exact Ep h1)).2
 · rw[Au,F0 h1];exact Ci _
section
variable {W:List Pt->Prop}{c:Pl}{L P:List (List Pt)}{m:Nat}
theorem OW{x:List Pt}(h:0<A1 x/\W x):P++[x]=P++EW W x:=by unfold EW;rw[AC h]
theorem Nw{x:List Pt}(h:¬(0<A1 x/\W x)):P=P++EW W x:=by unfold EW;rw[A8 h,Ce]
theorem Ov(hP:P=sY W c L m)(h1:0<A1 (sN c (A0 L m []))/\W (sN c (A0 L m [])))(h2:0<A1 (gS c (A0 L m []))/\W (gS c (A0 L m []))):P++[sN c (A0 L m [])]++[gS c (A0 L m [])]=sY W c L (m+1):=by
 rw[OW (P:=P) h1,OW h2,hP];rfl
theorem Nf(hP:P=sY W c L m)(h1:0<A1 (sN c (A0 L m []))/\W (sN c (A0 L m [])))(h2:¬(0<A1 (gS c (A0 L m []))/\W (gS c (A0 L m [])))):P++[sN c (A0 L m [])]=sY W c L (m+1):=by
 rw[OW (P:=P) h1,Nw (P:=P++_) h2,hP];rfl
theorem Nd(hP:P=sY W c L m)(h1:¬(0<A1 (sN c (A0 L m []))/\W (sN c (A0 L m []))))(h2:0<A1 (gS c (A0 L m []))/\W (gS c (A0 L m []))):P++[gS c (A0 L m [])]=sY W c L (m+1):=by
 rw[OW (P:=P) h2,hP]
 show _=sY W c L m++EW W _++EW W _
 rw[<-Nw h1]
theorem Ow(hP:P=sY W c L m)(h1:¬(0<A1 (sN c (A0 L m []))/\W (sN c (A0 L m []))))(h2:¬(0<A1 (gS c (A0 L m []))/\W (gS c (A0 L m [])))):P=sY W c L (m+1):=by
 show _=sY W c L m++EW W _++EW W _
 rw[<-Nw h1,<-Nw h2,hP]
theorem a8(x:List Pt):A1 (EW W x)<=1:=by unfold EW;split<;>simp
theorem PK(c:Pl)(L:List (List Pt)):∀m,A1 (sY W c L m)<=2*m
  |0=>B1 _
  |m+1=>by
   have h:=PK c L m
   show List.length (_++_++_)<=_
   rw[BJ,BJ];have h1:=a8 (W:=W) (sN c (A0 L m []));have h2:=a8 (W:=W) (gS c (A0 L m []));omega
theorem TF(l:List Pt)(ps:List Pl):∀m,A1 (xZ W l ps m)<=2^m
  |0=>B1 _
  |m+1=>by
   have h:=TF l ps m;have h2:=PK (W:=W) (DW ps m) (xZ W l ps m) (A1 (xZ W l ps m));rw[CT];exact Ao h2 A3
theorem Vx{l:List Pt}{ps:List Pl}{m:Nat}(hm:m<=32):A1 (xZ W l ps m)<=4294967296:=Ao (TF l ps m) (Ao (D0 Aa hm) Aa)
end
def KP(W:List Pt->Prop)(c:Pl)(x:List Pt):List (List Pt):=EW W (sN c x)++EW W (gS c x)
theorem UX{W:List Pt->Prop}(c:Pl)(L:List (List Pt)):∀m,m<=A1 L->sY W c L m=(L.take m).flatMap (KP W c)
  |0,_=>by rw[HT];rfl
  |m+1,hm=>by
   show sY W c L m++_++_=_
   rw[UX c L m A3,HE (show m<A1 L by omega),List.flatMap_append,Ck]
   congr 1
   show _=KP W c L[m]++[]
   rw[Ce,Au,BV (show m<A1 L by omega)];rfl
theorem de{W:List Pt->Prop}(l:List Pt)(ps:List Pl)(m:Nat):xZ W l ps (m+1)=(xZ W l ps m).flatMap (KP W (DW ps m)):=by
 show sY W _ _ _=_
 rw[UX _ _ _ (B1 _),ER]
abbrev Wn:=Int×(Int×(List Rat×List Rat))
def KJ(ps:List Pt)(i j:Nat):Nat->List Rat
  |0=>[(gp ps 0).at i,(gp ps 0).at j]
  |m+1=>[s6 (A0 (KJ ps i j m) 0 0) ((gp ps m).at i),s6 (A0 (KJ ps i j m) 1 0) ((gp ps m).at j)]
def JQ(ps:List Pt)(i j:Nat):Nat->List Rat
  |0=>[(gp ps 0).at i,(gp ps 0).at j]
  |m+1=>[s7 (A0 (JQ ps i j m) 0 0) ((gp ps m).at i),s7 (A0 (JQ ps i j m) 1 0) ((gp ps m).at j)]
def NG(ps:List Pt)(i j q:Nat):Nat->List Rat
  |0=>KJ ps i j q
  |u+1=>(NG ps i j q u).set u (s6 (A0 (NG ps i j q u) u 0) ([(gp ps q).at i,(gp ps q).at j].getD u 0))
def ME(ps:List Pt)(i j q:Nat):Nat->List Rat
  |0=>JQ ps i j q
  |u+1=>(ME ps i j q u).set u (s7 (A0 (ME ps i j q u) u 0) ([(gp ps q).at i,(gp ps q).at j].getD u 0))
theorem eJ(ps:List Pt)(i j q:Nat):((i:Int),((j:Int),(NG ps i j q 2,ME ps i j q 2)))=((i:Int),((j:Int),(KJ ps i j (q+1),JQ ps i j (q+1)))):=by cases q<;>rfl
def Tt(ps:List Pt)(i j:Nat):Wn:=((i:Int),(j:Int),KJ ps i j (A1 ps),JQ ps i j (A1 ps))
def Cm(w:Wn)(k:Nat):Nat:=if k=0 then w.1.toNat else w.2.1.toNat
def F7(w:Wn)(l:List Pt)(k m:Nat):Prop:=∃q,q<m/\A0 w.2.2.1 k 0<(gp l q).at (Cm w k)
def El(w:Wn)(l:List Pt)(k m:Nat):Prop:=∃q,q<m/\(gp l q).at (Cm w k)<A0 w.2.2.2 k 0
def uE(w:Wn)(l:List Pt):Prop:=∀k,k<2->F7 w l k (A1 l)/\El w l k (A1 l)
theorem x9(w:Wn)(l:List Pt)(k m:Nat):F7 w l k (m+1)↔F7 w l k m\/A0 w.2.2.1 k 0<(gp l m).at (Cm w k):=by
 constructor
 · rintro⟨q,C,e⟩
   rcases Dp.1 C with h|rfl
   · exact .inl ⟨q,h,e⟩
   · exact .inr e
 · rintro(⟨q,C,e⟩|e)
   · exact⟨q,A3,e⟩
   · exact⟨m,A3,e⟩
theorem x6(w:Wn)(l:List Pt)(k m:Nat):El w l k (m+1)↔El w l k m\/(gp l m).at (Cm w k)<A0 w.2.2.2 k 0:=by
 constructor
 · rintro⟨q,C,e⟩
   rcases Dp.1 C with h|rfl
   · exact .inl ⟨q,h,e⟩
   · exact .inr e
 · rintro(⟨q,C,e⟩|e)
   · exact⟨q,A3,e⟩
   · exact⟨m,A3,e⟩
theorem vm(w:Wn)(l:List Pt)(k:Nat):¬F7 w l k 0:=λ⟨q,h,_⟩=>by omega
theorem nf(w:Wn)(l:List Pt)(k:Nat):¬El w l k 0:=λ⟨q,h,_⟩=>by omega
theorem MS{w:Wn}{l:List Pt}{u q:Nat}(h:¬F7 w l u q):0<wA ((gp l q).at (Cm w u)) (A0 w.2.2.1 u 0)↔F7 w l u (q+1):=by
 rw[x9,oP];exact⟨.inr,λe=>e.resolve_left h⟩
theorem Ng{w:Wn}{l:List Pt}{u q:Nat}(h:¬El w l u q):wA ((gp l q).at (Cm w u)) (A0 w.2.2.2 u 0)<0↔El w l u (q+1):=by
 rw[x6,rI];exact⟨.inr,λe=>e.resolve_left h⟩
theorem kr{w:Wn}{u:Nat}(hu:u<2)(h1:0<=w.1/\w.1<3)(h2:0<=w.2.1/\w.2.1<3):[w.1,w.2.1].getD u 0=((Cm w u:Nat):Int)/\Cm w u<3:=by
 unfold Cm;have:u=0\/u=1:=by omega
 rcases this with rfl|rfl
 · exact⟨by show w.1=_;rw[AC I];omega,by rw[AC I];omega⟩
 · exact⟨by show w.2.1=_;rw[A8 Aa];omega,by rw[A8 Aa];omega⟩
def pG(L:List (List Pt)):Nat->List Pt
  |0=>[]
  |m+1=>pG L m++A0 L m []
def JJ(pl:Pl)(l:List Pt)(U:List Pl):Nat->List Pl
  |0=>U
  |k+1=>JJ pl l U k++[NA pl (gp l k) (nx l k)]
def Hj(pl:Pl)(L:List (List Pt)):Nat->List Pl
  |0=>[]
  |m+1=>JJ pl (A0 L m []) (Hj pl L m) (A1 (A0 L m []))
theorem Rd(pl:Pl)(l:List Pt)(U:List Pl):∀m,A1 (JJ pl l U m)=A1 U+m
  |0=>rfl
  |m+1=>by
   show List.length (_++_)=_
   rw[BJ,Rd pl l U m];rfl
theorem RM{pl:Pl}{L:List (List Pt)}:∀m,A1 (Hj pl L m)=A1 (pG L m)
  |0=>rfl
  |m+1=>by
   show List.length (JJ _ _ _ _)=List.length (_++_)
   rw[Rd,BJ,RM m]
theorem ng{k K:Nat}{c:Pl}(h:nG k c)(hk:k<=K):nG K c:=⟨⟨Ao h.1.1 hk,Ao h.1.2.1 hk,Ao h.1.2.2 hk⟩,Ao h.2 hk⟩
theorem t8{L:List (List Pt)}{n:Nat}(h:∀u,u<A1 L->A1 (A0 L u [])<=n){x:List Pt}(hx:x∈L):A1 x<=n:=by
 obtain⟨i,hi,rfl⟩:=Jj [] hx;exact h i hi
def Gp(pl:Pl)(L:List (List Pt))(x:List Pt):Prop:=Hi L (pr (tS x) (As pl.1) (At pl.1)) (As pl.1) (At pl.1)=1
abbrev Ga:=List Pt×(Pl×List Nat)
abbrev CN:Ga:=([],((zT,(0:Rat)),[]))
def Gc(pl:Pl)(nm:List Nat)(L:List (List Pt))(P:List (List Pt)):Nat->List Ga
  |0=>[]
  |m+1=>Gc pl nm L P m++if Gp pl L (A0 P m []) then[(A0 P m [],(pl,nm))] else[]
def lT(pl:Pl)(L:List (List Pt)):Wn:=Tt (pG L (A1 L)) (As pl.1) (At pl.1)
def F6(pl:Pl)(L:List (List Pt))(ps:List Pl):List Pl:=ps++Hj pl L (A1 L)
def aX(W:List Pt->Prop)(pl:Pl)(L:List (List Pt))(ps:List Pl):List (List Pt):=JH W (IM pl (pG L (A1 L))) (F6 pl L ps)
def fZ(pl:Pl)(nm:List Nat)(L:List (List Pt))(ps:List Pl):List Ga:=Gc pl nm L (aX (uE (lT pl L)) pl L ps) (A1 (aX (uE (lT pl L)) pl L ps))
theorem Rk(pl:Pl)(nm:List Nat)(L:List (List Pt))(P:List (List Pt)):∀m,m<=A1 P->Gc pl nm L P m=((P.take m).filter λx=>decide (Gp pl L x)).map λx=>(x,(pl,nm))
  |0,_=>by rw[HT];rfl
  |m+1,hm=>by
   have e:A0 P m []=P[m]:=by rw[Au,BV (show m<A1 P by omega)];rfl
   show Gc pl nm L P m++_=_
   rw[Rk pl nm L P m A3,HE (show m<A1 P by omega),List.filter_append,FK,e]
   congr 1
   by_cases h:Gp pl L P[m]
   · rw[AC h];simp[h]
   · rw[A8 h];simp[h]
theorem Nu(pl:Pl)(nm:List Nat)(L:List (List Pt))(P:List (List Pt)):∀m,A1 (Gc pl nm L P m)<=m
  |0=>B1 _
  |m+1=>by
   have h:=Nu pl nm L P m
   show List.length (_++_)<=_
   rw[BJ]
   split
   · show _+1<=_;omega
   · show _+0<=_;omega
theorem kn{pl:Pl}{nm:List Nat}{L:List (List Pt)}{P:List (List Pt)}{m:Nat}(h:Gp pl L (A0 P m [])):Gc pl nm L P m++[(A0 P m [],(pl,nm))]=Gc pl nm L P (m+1):=by show _=_++_;rw[AC h]
theorem l8{pl:Pl}{nm:List Nat}{L:List (List Pt)}{P:List (List Pt)}{m:Nat}(h:¬Gp pl L (A0 P m [])):Gc pl nm L P m=Gc pl nm L P (m+1):=by show _=_++_;rw[A8 h,Ce]
section
variable {k m K:Nat}{pl:Pl}{L:List (List Pt)}{ps:List Pl}
end
section
variable {pl:Pl}{L:List (List Pt)}{x:List Pt}
end
def nS(pl:Pl)(L:List (List Pt))(ps:List Pl):Prop:=((¬A1 (pG L (A1 L))=0)/\¬pl.1=zT)/\J0 (uE (lT pl L)) (IM pl (pG L (A1 L))) (F6 pl L ps)/\A1 ps+A1 (pG L (A1 L))<=28
theorem XT(L:List (List Pt)){m:Nat}:∀{n},m<=n->A1 (pG L m)<=A1 (pG L n)
  |0,h=>by rw[Nat.le_zero.1 h];exact B1 _
  |n+1,h=>by
   show _<=List.length (_++_)
   rw[BJ]
   rcases Nat.le_succ_iff.1 h with h|rfl
   · exact Ao (XT L h) (Nat.le_add_right _ _)
   · show List.length (_++_)<=_
     rw[BJ];exact B1 _
theorem Se(pl:Pl)(L:List (List Pt))(ps:List Pl):A1 (F6 pl L ps)=A1 ps+A1 (pG L (A1 L)):=by
 unfold F6;rw[BJ,RM]
theorem m4{W:List Pt->Prop}{pl:Pl}{L:List (List Pt)}{ps:List Pl}(h:A1 ps+A1 (pG L (A1 L))<=28):A1 (aX W pl L ps)<=4294967296:=by
 unfold aX JH
 split
 · exact Ci _
 · exact Vx (by rw[Se];omega)
theorem J0.prt{W:List Pt->Prop}{pl:Pl}{L:List (List Pt)}{ps:List Pl}(h:J0 W (IM pl (pG L (A1 L))) (F6 pl L ps)):∀x,x∈aX W pl L ps->A1 x<=32:=λx hx=>by
 unfold aX JH at hx
 split at hx
 · exact absurd hx Bv
 · exact(h _ (B1 _) x hx).2
theorem bx{pl:Pl}{nm:List Nat}{L:List (List Pt)}{ps:List Pl}{x:Ga}(hx:x∈fZ pl nm L ps):x.1∈aX (uE (lT pl L)) pl L ps/\x.2=(pl,nm):=by
 unfold fZ at hx;rw[Rk _ _ _ _ _ (B1 _),ER] at hx;obtain⟨y,hy,rfl⟩:=Cp.1 hx;exact⟨(HU.1 hy).1,I⟩
theorem Y7{pl:Pl}{L:List (List Pt)}{ps:List Pl}(h:A1 ps+A1 (pG L (A1 L))<=20)(nm:List Nat):A1 (fZ pl nm L ps)<=1048576:=by
 refine Ao (Nu _ _ _ _ _) ?_;unfold aX JH
 split
 · exact Ci _
 · refine Ao (TF _ _ _) (Ao (D0 Aa (show _<=20 from ?_)) Aa)
   rw[Se];exact h
section
variable {pl:Pl}{L:List (List Pt)}{ps:List Pl}
theorem nS.len(h:nS pl L ps):A1 (F6 pl L ps)<=28:=by rw[Se];exact h.2.2
theorem nS.sub(h:nS pl L ps){m:Nat}(hm:m<=A1 L):A1 (pG L m)<=28:=by
 have h1:=XT L hm;have h2:=h.2.2;omega
theorem nS.one(h:nS pl L ps){m:Nat}(hm:m<A1 L):A1 (A0 L m [])<=28:=by
 have h1:A1 (pG L m++A0 L m [])<=28:=h.sub (m:=m+1) hm;rw[BJ] at h1;omega
theorem nS.cnt(h:nS pl L ps){W:List Pt->Prop}:A1 (aX W pl L ps)<=4294967296:=m4 h.2.2
theorem nS.prt3(h:nS pl L ps)(nm:List Nat)(x:Ga)(hx:x∈fZ pl nm L ps):A1 x.1<=32:=h.2.1.prt _ (bx hx).1
theorem nS.prt2(h:nS pl L ps)(nm:List Nat)(x:Ga)(hx:x∈fZ pl nm L ps):A1 x.1<=100000:=Ao (h.prt3 nm x hx) Aa
end
section
variable {pl:Pl}{L:List (List Pt)}{ps:List Pl}
end
end Bk
namespace Bk
theorem mH{α:Type}{P:Prop}{d:Decidable P}{b:Bool}(h:P↔b=true)(x y:α):(@ite α P d x y)=if b=true then x else y:=by
 by_cases e:P
 · rw[AC e,AC (h.1 e)]
 · rw[A8 e,A8 λk=>e (h.2 k)]
theorem iO{n:Nat}{f:Nat->Bool}{P:Nat->Prop}(h:∀q,q<n->(P q↔f q=true)):(∃q,q<n/\P q)↔(List.range n).any f=true:=by
 rw[OH];constructor
 · rintro⟨q,C,e⟩;exact⟨q,C3.2 C,(h q C).1 e⟩
 · rintro⟨q,C,e⟩;exact⟨q,C3.1 C,(h q (C3.1 C)).2 e⟩
theorem Nh{n:Nat}{f:Nat->Bool}{P:Nat->Prop}(h:∀q,q<n->(P q↔f q=true)):(∀q,q<n->P q)↔(List.range n).all f=true:=by
 rw[Bb];exact⟨λe q C=>(h q (C3.1 C)).1 (e q (C3.1 C)),λe q C=>(h q C).2 (e q (C3.2 C))⟩
theorem gC{P Q:Prop}{a b:Bool}(h:P↔a=true)(k:Q↔b=true):(P/\Q)↔(a&&b)=true:=by rw[Ap,h,k]
theorem Ir{P Q:Prop}{a b:Bool}(h:P↔a=true)(k:Q↔b=true):(P\/Q)↔(a||b)=true:=by rw[Eb,h,k]
theorem eZ{P:Prop}{a:Bool}(h:P↔a=true):¬P↔(!a)=true:=by rw[h];cases a<;>simp
theorem C{P:Prop} [Decidable P]:P↔decide P=true:=(CE).symm
def xC(pl:Pl)(l:List Pt)(m:Nat):Bool:=decide (B7 pl (gp l m)*B7 pl (nx l m)<0)
theorem YB(pl:Pl)(l:List Pt)(m:Nat):xP pl l m↔xC pl l m=true:=(CE (p:=B7 pl (gp l m)*B7 pl (nx l m)<0)).symm
def S7(pl:Pl)(l:List Pt):Nat->List Pt
  |0=>[]
  |m+1=>S7 pl l m++(if B7 pl (gp l m)<=0 then[gp l m] else[])++(if xC pl l m=true then[DL pl (gp l m) (nx l m)] else[])
def Qo(pl:Pl)(l:List Pt):Nat->List Pt
  |0=>[]
  |m+1=>Qo pl l m++(if 0<=B7 pl (gp l m) then[gp l m] else[])++(if xC pl l m=true then[DL pl (gp l m) (nx l m)] else[])
theorem Wl(pl:Pl)(l:List Pt):∀m,Ej pl l m=S7 pl l m
  |0=>rfl
  |m+1=>by
   show _++_++_=_++_++_
   rw[Wl pl l m,mH (P:=xP pl l m) (b:=xC pl l m) (YB pl l m)]
theorem YY(pl:Pl)(l:List Pt):∀m,Ed pl l m=Qo pl l m
  |0=>rfl
  |m+1=>by
   show _++_++_=_++_++_
   rw[YY pl l m,mH (P:=xP pl l m) (b:=xC pl l m) (YB pl l m)]
def pm(pl:Pl)(l:List Pt):Bool:=(List.range (A1 l)).any λq=>decide (B7 pl (gp l q)<0)
def TT(pl:Pl)(l:List Pt):Bool:=(List.range (A1 l)).any λq=>decide (0<B7 pl (gp l q))
def Q8(pl:Pl)(l:List Pt):List Pt:=if(pm pl l||!TT pl l)=true then S7 pl l (A1 l) else[]
def PF(pl:Pl)(l:List Pt):List Pt:=if TT pl l=true then Qo pl l (A1 l) else[]
theorem ce(pl:Pl)(l:List Pt):sN pl l=Q8 pl l:=by
 unfold sN Q8;rw[Wl];exact mH (Ir ((Pd _).trans (iO λq _=>C)) (eZ ((Od _).trans (iO λq _=>C)))) _ _
theorem tr(pl:Pl)(l:List Pt):gS pl l=PF pl l:=by
 unfold gS PF;rw[YY];exact mH ((Od _).trans (iO λq _=>C)) _ _
section
variable {W:List Pt->Prop}(w:List Pt->Bool)
def Q6(x:List Pt):List (List Pt):=if(decide (0<A1 x)&&w x)=true then[x] else[]
def Oe(c:Pl)(x:List Pt):List (List Pt):=Q6 w (Q8 c x)++Q6 w (PF c x)
def IF(L:List (List Pt)):List Pl->List (List Pt)
  |[]=>L
  |c::ps=>IF (L.flatMap (Oe w c)) ps
theorem ez(hw:∀x,W x↔w x=true)(c:Pl)(x:List Pt):KP W c x=Oe w c x:=by
 unfold KP Oe EW Q6;rw[ce,tr,mH (gC C (hw _)),mH (gC C (hw _))]
theorem um(L:List (List Pt))(c:Pl):∀ps:List Pl,IF w L (ps++[c])=(IF w L ps).flatMap (Oe w c):=λps=>by
 induction ps generalizing L with
 |nil=>rfl
 |cons a ps ih=>exact ih _
theorem TB(hw:∀x,W x↔w x=true)(l:List Pt)(ps:List Pl):∀m,m<=A1 ps->xZ W l ps m=IF w [l] (ps.take m)
  |0,_=>by rw[HT];rfl
  |m+1,hm=>by
   have e:DW ps m=ps[m]:=by unfold DW;rw[Au,BV (show m<A1 ps by omega)];rfl
   rw[de,TB hw l ps m A3,HE (show m<A1 ps by omega),um,e]
   congr 1
   funext x
   exact ez w hw _ _
end
def KR(w:Wn)(l:List Pt):Bool:=(List.range 2).all λk=>(List.range (A1 l)).any (λq=>decide (A0 w.2.2.1 k 0<(gp l q).at (Cm w k)))&&(List.range (A1 l)).any (λq=>decide ((gp l q).at (Cm w k)<A0 w.2.2.2 k 0))
theorem Z3(w:Wn)(l:List Pt):uE w l↔KR w l=true:=Nh λk _=>gC (iO λq _=>C) (iO λq _=>C)
def YK(a b x:Rat):Bool:=(decide (a<=x)&&decide (x<=b))||(decide (x<=a)&&decide (b<=x))
def Yy(u v p:P2):Bool:=YK u.1 v.1 p.1&&(YK u.2 v.2 p.2&&decide (cr u v p=0))
theorem ow(u v p:P2):BX u v p↔Yy u v p=true:=gC (Ir (gC C C) (gC C C)) (gC (Ir (gC C C) (gC C C)) C)
def TD(a b p:P2):Bool:=(decide (a.2<=p.2) != decide (b.2<=p.2))&&((decide (a.2<=p.2)&&decide (0<Ai a b p))||(decide (b.2<=p.2)&&decide (Ai a b p<0)))
theorem br(a b p:P2):aT a b p↔TD a b p=true:=by
 refine gC ?_ (Ir (gC C C) (gC C C))
 by_cases h:a.2<=p.2<;>by_cases k:b.2<=p.2<;>simp[h,k]
def NN(l:List Pt)(p:P2)(i j:Nat):Nat->Bool
  |0=>false
  |m+1=>TD (qJ l i j m) (qI l i j m) p != NN l p i j m
theorem TR(l:List Pt)(p:P2)(i j:Nat):∀m,sE l p i j m↔NN l p i j m=true
  |0=>⟨λh=>h.elim,λh=>absurd (show false=true from h) Aa⟩
  |m+1=>by
   show(_\/_)↔(_ != _)=true
   rw[TR l p i j m,br]
   cases TD (qJ l i j m) (qI l i j m) p<;>cases NN l p i j m<;>simp
def Kn(l:List Pt)(p:P2)(i j:Nat):Int:=if((List.range (A1 l)).any λm=>Yy (qJ l i j m) (qI l i j m) p)=true then 0 else if NN l p i j (A1 l)=true then 1 else -1
theorem Un(l:List Pt)(p:P2)(i j:Nat):aS l p i j=Kn l p i j:=by
 unfold aS Kn;rw[mH (iO λm _=>ow _ _ _),mH (TR l p i j _)]
def KA(L:List (List Pt))(p:P2)(i j:Nat):Nat->Int
  |0=>-1
  |m+1=>if Kn (A0 L m []) p i j=1 then -KA L p i j m else KA L p i j m
theorem WO(L:List (List Pt))(p:P2)(i j:Nat):∀m,FI L p i j m=KA L p i j m
  |0=>rfl
  |m+1=>by
   show(if aS (A0 L m []) p i j=1 then -FI L p i j m else FI L p i j m)=if Kn (A0 L m []) p i j=1 then -KA L p i j m else KA L p i j m
   rw[WO L p i j m,Un]
def OT(L:List (List Pt))(p:P2)(i j:Nat):Int:=if((List.range (A1 L)).any λm=>decide (Kn (A0 L m []) p i j=0))=true then 0 else KA L p i j (A1 L)
theorem Xe(L:List (List Pt))(p:P2)(i j:Nat):Hi L p i j=OT L p i j:=by
 unfold Hi OT;rw[WO];refine mH (iO λm _=>?_) _ _;rw[Un];exact C
def J9(s:Pl)(ps:List Pt):List Pt:=if(decide (A1 ps=0)||(decide (s.1.x=0)&&(decide (s.1.y=0)&&decide (s.1.z=0))))=true then[] else QQ s ((ET s ps (A1 ps)).x-((1:Int):Rat)) ((ET s ps (A1 ps)).y-((1:Int):Rat)) ((ED s ps (A1 ps)).x+((1:Int):Rat)) ((ED s ps (A1 ps)).y+((1:Int):Rat))
theorem Tu(s:Pl)(ps:List Pt):IM s ps=J9 s ps:=mH (Ir C (UF.trans (gC C (gC C C)))) _ _
def Sm(pl:Pl)(L:List (List Pt))(x:List Pt):Bool:=decide (OT L (pr (tS x) (As pl.1) (At pl.1)) (As pl.1) (At pl.1)=1)
theorem gm(pl:Pl)(L:List (List Pt))(x:List Pt):Gp pl L x↔Sm pl L x=true:=by
 unfold Gp Sm;rw[Xe];exact C
def P1(pl:Pl)(L:List (List Pt))(ps:List Pl):List (List Pt):=(if(A1 (J9 pl (pG L (A1 L))))=0 then[] else IF (KR (lT pl L)) [J9 pl (pG L (A1 L))] (F6 pl L ps)).filter (Sm pl L)
theorem Vy(pl:Pl)(nm:List Nat)(L:List (List Pt))(ps:List Pl):fZ pl nm L ps=(P1 pl L ps).map λx=>(x,(pl,nm)):=by
 unfold fZ;rw[Rk _ _ _ _ _ (B1 _),ER];unfold P1
 congr 1
 have e:aX (uE (lT pl L)) pl L ps=if(A1 (J9 pl (pG L (A1 L))))=0 then[] else IF (KR (lT pl L)) [J9 pl (pG L (A1 L))] (F6 pl L ps):=by
  unfold aX JH;rw[Tu]
  split
  · rfl
  · rw[TB (KR (lT pl L)) (Z3 _) _ _ _ (B1 _),ER]
 rw[e];exact S5 λx _=>He.2 ((@decide_eq_true_iff _ (_)).trans (gm pl L x))
end Bk
namespace Bk
open Go Go.RowKit
open Classical
abbrev H4:Sd:=([],[],[])
def J5(s:Sd)(acc:List Pl):Nat->List Pl
  |0=>acc
  |i+1=>F4 (J5 s acc i) (A0 s.2.1 i zA).1
def qE(l:List Sd):Nat->List Pl
  |0=>[]
  |m+1=>J5 (A0 l m H4) (qE l m) (A1 (A0 l m H4).2.1)
theorem Yn{acc:List Pl}{p:Pl}(h:¬kM p∈acc):acc++[kM p]=F4 acc p:=(A8 h).symm
theorem Tn{acc:List Pl}{p:Pl}(h:kM p∈acc):acc=F4 acc p:=(AC h).symm
section
variable {s:Pl}{i:Nat}
theorem Xu(h:∀u,u<3->yK ((Bc s).1.at u)=0):Bc s=kM s:=by
 unfold kM HD;exact((A8 (λe=>e (h 0 Aa))).trans ((A8 (λe=>e (h 1 Aa))).trans (A8 (λe=>e (h 2 Aa))))).symm
theorem Wp(hi:i<3)(h:∀u,u<i->yK ((Bc s).1.at u)=0)(hn:¬yK ((Bc s).1.at i)=0):kM s=if yK ((Bc s).1.at i)<0 then CZ (Bc s) else Bc s:=by
 unfold kM HD
 match i,hi with
 |0,_=>exact AC hn
 |1,_=>exact(A8 (λe=>e (h 0 Aa))).trans (AC hn)
 |2,_=>exact(A8 (λe=>e (h 0 Aa))).trans ((A8 (λe=>e (h 1 Aa))).trans (AC hn))
theorem X0(hi:i<3)(h:∀u,u<i->yK ((Bc s).1.at u)=0)(hn:yK ((Bc s).1.at i)=1):Bc s=kM s:=by
 rw[Wp hi h A3,A8 A3]
theorem W2(hi:i<3)(h:∀u,u<i->yK ((Bc s).1.at u)=0)(hn:yK ((Bc s).1.at i)= -1):CZ (Bc s)=kM s:=by
 rw[Wp hi h A3,AC A3]
end
def R4(acc:List Pl)(p:Pl):Prop:=∃i,i<A1 acc/\kM p=kM (A0 acc i FZ)
def H6(k n:Nat)(acc:List Pl):Prop:=(∀q,q∈acc->kM q=q/\nG k q)/\A1 acc<=n
theorem S9{m:Nat}{r:Rat}{pl:Pl}(hr:lq r<=m+2)(h:nG m pl):nG (2*m+2) (C8 r pl):=by
 obtain⟨⟨h1,h2,h3⟩,C⟩:=h;have g:∀x:Rat,lq x<=m->lq (r*x)<=2*m+2:=λx hx=>by have:=iC r x;omega
 exact⟨⟨g _ h1,g _ h2,g _ h3⟩,g _ C⟩
theorem Y6{m:Nat}{pl:Pl}(h:nG m pl):nG m (CZ pl):=by
 have g:∀x:Rat,lq x<=m->lq (((-1:Int):Rat)*x)<=m:=λx hx=>by rw[OA,z5];exact hx
 exact⟨⟨g _ h.1.1,g _ h.1.2.1,g _ h.1.2.2⟩,by show lq (-pl.2)<=m;rw[z5];exact h.2⟩
theorem VR{m:Nat}{pl:Pl}(h:nG m pl):nG (2*m+2) (kM pl):=by
 have C:∀x:Rat,lq x<=m->lq (D3 x)<=m+2:=λx hx=>by
  have h1:lq ((1:Int):Rat)<=2:=mP 1 Aa Aa;have h2:=QM x;have h3:=Qx ((1:Int):Rat) (rJ x);unfold D3;omega
 have h1:nG (2*m+2) (Bc pl):=by
  unfold Bc
  split
  · exact S9 (C _ h.1.1) h
  · split
    · exact S9 (C _ h.1.2.1) h
    · split
      · exact S9 (C _ h.1.2.2) h
      · have:lq (0:Rat)<=2*m+2:=by rw[Lh];omega
        exact⟨⟨this,this,this⟩,this⟩
 unfold kM HD
 repeat' split
 all_goals first|exact Y6 h1|exact h1
theorem hN{k n m:Nat}{acc:List Pl}{p:Pl}(h:H6 k n acc)(hp:nG m p)(hk:2*m+2<=k):H6 k (n+1) (F4 acc p):=by
 unfold F4
 split
 · exact⟨h.1,by have:=h.2;omega⟩
 · refine⟨λq C=>?_,by rw[BJ];have:=h.2;show _+1<=_;omega⟩
   rcases Cy.1 C with h1|h1
   · exact h.1 q h1
   · rw[DP.1 h1]
     have:=VR hp;exact⟨XS _,⟨⟨by have:=this.1.1;omega,by have:=this.1.2.1;omega,by have:=this.1.2.2;omega⟩,by have:=this.2;omega⟩⟩
theorem QG{k m n:Nat}{s:Sd}{acc:List Pl}(h:H6 k n acc)(hs:∀f,f∈s.2.1->nG m f.1)(hk:2*m+2<=k):∀i,i<=A1 s.2.1->H6 k (n+i) (J5 s acc i)
  |0,_=>h
  |i+1,hi=>hN (QG h hs hk i A3) (hs _ (by rw[Au,BV (show i<A1 s.2.1 by omega)];exact Ep _)) hk
theorem RB{k m c:Nat}{l:List Sd}(hs:∀s,s∈l->(∀f,f∈s.2.1->nG m f.1)/\A1 s.2.1<=c)(hk:2*m+2<=k):∀i,i<=A1 l->H6 k (i*c) (qE l i)
  |0,_=>⟨λq h=>absurd h Bv,Ci _⟩
  |i+1,hi=>by
   have ih:=RB hs hk i A3;have h1:=hs (A0 l i H4) (by rw[Au,BV (show i<A1 l by omega)];exact Ep _);have h2:=QG ih h1.1 hk (A1 (A0 l i H4).2.1) (B1 _);refine⟨h2.1,?_⟩;have:=h2.2;rw[IH];exact Ao this A3
theorem o7{k n:Nat}{acc:List Pl}(h:H6 k n acc)(p:Pl):R4 acc p↔kM p∈acc:=by
 constructor
 · rintro⟨i,hi,e⟩
   have C:A0 acc i FZ∈acc:=by rw[Au,BV hi];exact Ep _
   rw[e,(h.1 _ C).1];exact C
 · intro C
   obtain⟨i,hi,e⟩:=J4 C;refine⟨i,hi,?_⟩;rw[Au,BV hi]
   show _=kM acc[i]
   rw[e,XS]
theorem d2{n:Nat}{acc:List Pl}{p:Pl}(h:H6 60 n acc)(hp:nG 4 p):Ec (kM p)∈acc.map Ec↔kM p∈acc:=by
 have h1:=VR hp;exact lg ⟨⟨by have:=h1.1.1;omega,by have:=h1.1.2.1;omega,by have:=h1.1.2.2;omega⟩,by have:=h1.2;omega⟩ λq C=>(h.1 q C).2
theorem bW{α:Type}{l:List α}{i:Nat}{d:α}(h:i<A1 l):A0 l i d∈l:=by
 rw[Au,BV h];exact Ep h
def Es(l:List Sd):Prop:=A1 l<=10/\∀s,s∈l->(∀f,f∈s.2.1->nG 4 f.1)/\A1 s.2.1<=1000
theorem Es.at{l:List Sd}(h:Es l){i j:Nat}(hi:i<A1 l)(hj:j<=A1 (A0 l i H4).2.1):H6 60 11000 (J5 (A0 l i H4) (qE l i) j):=by
 have h1:=QG (RB h.2 (k:=60) Aa i A3) (h.2 _ (bW hi)).1 Aa j hj;have h2:=(h.2 _ (bW (d:=H4) hi)).2;have h3:=h.1;exact⟨h1.1,Ao h1.2 A3⟩
theorem Es.pl{l:List Sd}(h:Es l){i j:Nat}(hi:i<A1 l)(hj:j<A1 (A0 l i H4).2.1):nG 4 (A0 (A0 l i H4).2.1 j zA).1:=(h.2 _ (bW hi)).1 _ (bW hj)
theorem Es.all{l:List Sd}(h:Es l):H6 60 10000 (qE l (A1 l)):=by
 have h1:=RB h.2 (k:=60) Aa (A1 l) (B1 _);exact⟨h1.1,Ao h1.2 (by have:=h.1;omega)⟩
theorem nh{m l:Nat}{h:A4}{v:A2}{s:Pl}(r:(A6 (Bd (AE m)) (AE l)).Is h v s):(lq s.1.x<=m/\lq s.1.y<=m/\lq s.1.z<=m)/\lq s.2<=l:=by
 obtain⟨cs,⟨a,b,e,⟨a1,b1,U,J,c1,Z,M,D,C⟩,H⟩,_⟩:=r;exact⟨⟨J.2,D.2,C.2⟩,H.2⟩
def JC(a b:Pl):Bool:=(decide (a.1.x=b.1.x)&&(decide (a.1.y=b.1.y)&&decide (a.1.z=b.1.z)))&&decide (a.2=b.2)
theorem RD{a b:Pl}:JC a b=true↔a=b:=by
 unfold JC;rw[Ap,Ap,Ap,CE,CE,CE,CE];exact⟨λh=>Prod.ext (cF.2 h.1) h.2,λh=>by rw[h];exact⟨⟨I,I,I⟩,I⟩⟩
def OO:List Pl->List Pl->Bool
  |[],[]=>true
  |a::l,b::m=>JC a b&&OO l m
  |_,_=>false
theorem U1:∀{a b:List Pl},OO a b=true->a=b
  |[],[],_=>rfl
  |[],_::_,h=>absurd (show false=true from h) Aa
  |_::_,[],h=>absurd (show false=true from h) Aa
  |a::l,b::m,h=>by
   have h':(JC a b&&OO l m)=true:=h;rw[Ap] at h';rw[RD.1 h'.1,U1 h'.2]
def Y2(acc:List Pl)(p:Pl):List Pl:=if(acc.any λq=>JC q (kM p))=true then acc else acc++[kM p]
theorem Jb(acc:List Pl)(p:Pl):F4 acc p=Y2 acc p:=by
 have e:kM p∈acc↔(acc.any λq=>JC q (kM p))=true:=by
  rw[OH];exact⟨λh=>⟨_,h,RD.2 I⟩,λ⟨q,C,h⟩=>by rw[<-RD.1 h];exact C⟩
 unfold F4 Y2
 by_cases h:kM p∈acc
 · rw[AC h,AC (e.1 h)]
 · rw[A8 h,A8 λk=>h (e.2 k)]
def Z:Pt:=T3.mk 0 0 0
def U:Pt:=T3.mk 1 1 1
def DI:List Pl:=[(T3.mk 1 0 0,0),(T3.mk 1 0 0,1),(T3.mk 0 1 0,0),(T3.mk 0 1 0,1),(T3.mk 0 0 1,0),(T3.mk 0 0 1,1)]
theorem TK:qE [CJ Z U] 1=DI:=by
 refine U1 ?_
 show OO (F4 (F4 (F4 (F4 (F4 (F4 [] _) _) _) _) _) _) DI=true
 rw[Jb,Jb,Jb,Jb,Jb,Jb]
 decide +kernel
end Bk
namespace Bk
def Zu(pl:Pl)(c n:Pt):Prop:=wL pl.1 n=0\/pl.2-wL pl.1 c=0
def qD(pl:Pl)(c n:Pt):Rat:=if wL pl.1 n=0 then 0 else(pl.2-wL pl.1 c)/wL pl.1 n
def CD(ps:List Pl)(c n:Pt):Nat->Rat
  |0=>0
  |m+1=>if qD (DW ps m) c n=0 then CD ps c n m else if CD ps c n m=0\/rJ (qD (DW ps m) c n)<CD ps c n m then rJ (qD (DW ps m) c n) else CD ps c n m
theorem ch{pl:Pl}{c n:Pt}:qD pl c n=0↔Zu pl c n:=by
 unfold qD Zu
 by_cases h:wL pl.1 n=0
 · rw[AC h];exact⟨λ_=>.inl h,λ_=>I⟩
 · rw[A8 h]
   have C:=MD (a:=pl.2-wL pl.1 c) h;constructor
   · intro e
     rw[e,Nn] at C;exact .inr C.symm
   · rintro(e|e)
     · exact absurd e h
     · rw[e,Rat.div_def,Nn]
def Hq(ps:List Pl)(c n:Pt):Rat:=if CD ps c n (A1 ps)=0 then((1:Int):Rat) else iX 0 (CD ps c n (A1 ps))
def aQ(x:List Pt)(pl:Pl)(ps:List Pl):Pt×Pt:=(G0 (tS x) (FR (Hq ps (tS x) pl.1) pl.1),qX (tS x) (FR (Hq ps (tS x) pl.1) pl.1))
theorem ZQ{x:List Pt}{pl:Pl}{ps:List Pl}{t:Rat}(h:Hq ps (tS x) pl.1=t):G0 (tS x) (FR t pl.1)=(aQ x pl ps).1:=by unfold aQ;rw[h]
theorem Yp{x:List Pt}{pl:Pl}{ps:List Pl}{t:Rat}(h:Hq ps (tS x) pl.1=t):qX (tS x) (FR t pl.1)=(aQ x pl ps).2:=by unfold aQ;rw[h]
section
variable {ps:List Pl}{c n:Pt}{m:Nat}
theorem cA(h:qD (DW ps m) c n=0):CD ps c n m=CD ps c n (m+1):=(AC h).symm
theorem hH(h:¬qD (DW ps m) c n=0)(h1:CD ps c n m=0\/rJ (qD (DW ps m) c n)<CD ps c n m):rJ (qD (DW ps m) c n)=CD ps c n (m+1):=((A8 h).trans (AC h1)).symm
theorem e2(h:¬qD (DW ps m) c n=0)(h1:¬(CD ps c n m=0\/rJ (qD (DW ps m) c n)<CD ps c n m)):CD ps c n m=CD ps c n (m+1):=((A8 h).trans (A8 h1)).symm
end
theorem ji{pl:Pl}{c n:Pt}(h:¬(if wL pl.1 n=0 then(3:Int) else 0)=0\/yK (qD pl c n)=0):qD pl c n=0:=by
 rcases h with h|h
 · by_cases e:wL pl.1 n=0
   · exact ch.2 (.inl e)
   · rw[A8 e] at h;exact absurd I h
 · exact Lw.1 h
theorem ve{pl:Pl}{c n:Pt}(h:¬(¬(if wL pl.1 n=0 then(3:Int) else 0)=0\/yK (qD pl c n)=0)):¬qD pl c n=0:=λe=>h (.inr (by rw[e];exact AC rfl))
theorem Tb{ps:List Pl}{c n:Pt}(h:yK (CD ps c n (A1 ps))=0):Hq ps c n=((1:Int):Rat):=AC (Lw.1 h)
theorem Vb{ps:List Pl}{c n:Pt}(h:¬yK (CD ps c n (A1 ps))=0):Hq ps c n=iX 0 (CD ps c n (A1 ps)):=A8 λe=>h (by rw[e];exact AC rfl)
def x5(md:Md)(p:Pt):Prop:=CW md p<=3*A1 md.2+1/\G9 md p (vK ↑(CW md p))
def Gx(s:Sd)(ps:List Pl)(x:Ga):Prop:=Do (aF s) (aQ x.1 x.2.1 ps).1=0/\Do (aF s) (aQ x.1 x.2.1 ps).2=1
def GK(s:Sd)(ps:List Pl)(f:Nat):List Ga:=fZ (A0 s.2.1 f zA).1 (A0 s.2.1 f zA).2.2 (jP s f) ps
def Lr(s:Sd):Prop:=∀f,f<A1 s.2.1->∀x,x∈GK s (qE [s] 1) f->Gx s (qE [s] 1) x
theorem gf:aI=1/2:=by
 have h:=t6;refine Rat.ext ?_ ?_
 · rw[h.1];decide +kernel
 · rw[h.2];decide +kernel
def JT(ps:List Pl)(c n:Pt):Rat:=if CD ps c n (A1 ps)=0 then((1:Int):Rat) else(0+CD ps c n (A1 ps))*(1/2)
theorem iq(ps:List Pl)(c n:Pt):Hq ps c n=JT ps c n:=by
 unfold Hq JT iX;rw[gf]
theorem Ww:aP (CJ Z U):=pB ⟨by decide +kernel,by decide +kernel,by decide +kernel⟩
def Fe(f:Nat):List (List Pt):=wG (CR.map (cU Z U)) (A0 (D4 Z U) f zA).2.1 (A1 (A0 (D4 Z U) f zA).2.1)
theorem QS{f:Nat}(hf:f<6):jP (CJ Z U) f=Fe f:=w9 (s:=CJ Z U) hf (eC Ww f hf)
def OE(p:Pt):Bool:=decide (p.x=0)&&(decide (p.y=0)&&decide (p.z=0))
theorem NS(p:Pt):p=zT↔OE p=true:=UF.trans (gC C (gC C C))
def ZP(p q:Pt):Bool:=decide (p.x=q.x)&&(decide (p.y=q.y)&&decide (p.z=q.z))
theorem gq(p q:Pt):p=q↔ZP p q=true:=cF.trans (gC C (gC C C))
def QK(p A B v:Pt):Bool:=if OE (xS (qX A p) (qX B p))=true then OE (xS (qX B A) v) else decide (FF (qX A p) (qX B p) v=0)
theorem tu(p A B v:Pt):KC p A B v↔QK p A B v=true:=by
 unfold KC QK
 by_cases h:xS (qX A p) (qX B p)=zT
 · rw[AC h,AC ((NS _).1 h)];exact NS _
 · rw[A8 h,A8 λe=>h ((NS _).2 e)];exact C
section
variable {md:Md}{p v d:Pt}
def Lt(md:Md)(p v:Pt):Bool:=(List.range (A1 md.2)).all λq=>!QK p (A0 (A0 md.2 q B6) 0 zT) (A0 (A0 md.2 q B6) 1 zT) v
theorem WA:G9 md p v↔Lt md p v=true:=Nh λq _=>eZ (tu _ _ _ _)
def R9(f:Fm)(p d:Pt):Bool:=decide (yK (GH f d)*yK (MG f p)<=0)||decide (A1 f.2.1=0)
theorem Yz{f:Fm}:HI f p d↔R9 f p d=true:=Ir C C
def Ml(f:Fm)(p d:Pt):Int:=OT f.2.1 (pr (NL p d (MG f p/GH f d)) f.2.2.1.toNat f.2.2.2.toNat) f.2.2.1.toNat f.2.2.2.toNat
theorem Yk{f:Fm}:IB f p d=Ml f p d:=Xe _ _ _ _
def Ud(md:Md)(p d:Pt):Bool:=(List.range (A1 md.1)).all λf=>!(!R9 (A0 md.1 f BG) p d&&decide (Ml (A0 md.1 f BG) p d=0))
theorem nc:IR md p d↔Ud md p d=true:=Nh λf _=>eZ (gC (eZ Yz) (by rw[Yk];exact C))
def Ix(md:Md)(p d:Pt):Nat->Int
  |0=>0
  |n+1=>if R9 (A0 md.1 n BG) p d=true then Ix md p d n else if decide (Ml (A0 md.1 n BG) p d=1)=true then(if decide (0<GH (A0 md.1 n BG) d)=true then Ix md p d n+1 else Ix md p d n-1) else Ix md p d n
theorem Wg:∀n,(Bw md p d n).1-(Bw md p d n).2=Ix md p d n
  |0=>rfl
  |n+1=>by
   have ih:=Wg n;unfold Bw Ix;rw[mH Yz,Yk,mH (P:=Ml (A0 md.1 n BG) p d=1) C,mH (P:=0<GH (A0 md.1 n BG) d) C]
   split
   · exact ih
   · split
     · split
       · show(Bw md p d n).1+1-(Bw md p d n).2=_;omega
       · show(Bw md p d n).1-((Bw md p d n).2+1)=_;omega
     · exact ih
def HQ(md:Md)(p:Pt):Nat:=((List.range 12).find? λk:Nat=>Lt md p (vK (k:Int))).getD 0
def L0(md:Md)(p:Pt):Bool:=(Lt md p (vK (HQ md p:Int))&&decide (HQ md p<=3*A1 md.2+1))&&(List.range (HQ md p)).all λj=>!Lt md p (vK (j:Int))
theorem Sg(h:L0 md p=true):CW md p=HQ md p/\x5 md p:=by
 unfold L0 at h;rw[Ap,Ap,CE] at h;obtain⟨h1,h2,h3⟩:=SJ (q:=λk:Nat=>G9 md p (vK k)) (n:=HQ md p) (WA.2 h.1.1);have h0:CW md p=HQ md p:=by
  refine Nat.le_antisymm h1 (Da.1 λe=>?_);have C:=Bb.1 h.2 _ (C3.2 e);rw[show Lt md p (vK ((CW md p:Nat):Int))=true from WA.1 h2] at C;exact absurd C Aa
 exact⟨h0,by rw[h0];exact h.1.2,h2⟩
def Mh(md:Md)(p:Pt)(w:Int):Bool:=Ud md p (vK (HQ md p:Int))&&decide (Ix md p (vK (HQ md p:Int)) (A1 md.1)=w)
theorem Wf{w:Int}(h:L0 md p=true)(hw:Mh md p w=true):¬Dg md p->Do md p=w:=λho=>by
 unfold Mh at hw;rw[Ap,CE] at hw;refine(A8 ho).trans ?_;rw[(Sg h).1];have hn:=nc.2 hw.1;rw[show GP md p _=_ from AC hn,show GX md p _=_ from AC hn,Wg,hw.2]
def aq(md:Md)(p:Pt):Bool:=(List.range (A1 md.1)).all λf=>!decide (B7 (A0 md.1 f BG).1 p=0)
theorem rr(h:aq md p=true):¬Dg md p:=λ⟨f,hf,e⟩=>(Nh λf _=>eZ (P:=B7 (A0 md.1 f BG).1 p=0) C).2 h f hf e.1.1
def SC(md:Md)(p:Pt):Bool:=L0 md p&&Mh md p 0
def Rs(md:Md)(p:Pt):Bool:=L0 md p&&(Mh md p 1&&aq md p)
theorem ek(h:SC md p=true):Do md p=0/\x5 md p:=by
 unfold SC at h;rw[Ap] at h;exact⟨Classical.byCases (λe:Dg md p=>AC e) (Wf h.1 h.2),(Sg h.1).2⟩
theorem qw(h:Rs md p=true):Do md p=1/\x5 md p:=by
 unfold Rs at h;rw[Ap,Ap] at h;exact⟨Wf h.1 h.2.1 (rr h.2.2),(Sg h.1).2⟩
end
def K8(P:List Pt)(x:List Int)(S:List D7):Nat->List D7
  |0=>S
  |k+1=>if(decide (MB (A0 x k 0) (A0 x ((k+1)%A1 x) 0)∈K8 P x S k)||ZP (Ja P (A0 x k 0)) (Ja P (A0 x ((k+1)%A1 x) 0)))=true then K8 P x S k else K8 P x S k++[MB (A0 x k 0) (A0 x ((k+1)%A1 x) 0)]
theorem UJ(P:List Pt)(x:List Int)(S:List D7):∀n,DD P x S n=K8 P x S n
  |0=>rfl
  |k+1=>by
   unfold DD K8;rw[UJ P x S k];exact mH (Ir C (gq _ _)) _ _
def Mr(P:List Pt)(L:List (List Int))(S:List D7):Nat->List D7
  |0=>S
  |l+1=>K8 P (A0 L l []) (Mr P L S l) (A1 (A0 L l []))
theorem W5(P:List Pt)(L:List (List Int))(S:List D7):∀n,H5 P L S n=Mr P L S n
  |0=>rfl
  |l+1=>by unfold H5 Mr;rw[W5 P L S l,UJ]
def M5(s:Sd):Nat->List D7
  |0=>[]
  |f+1=>Mr s.1 (A0 s.2.1 f zA).2.1 (M5 s f) (A1 (A0 s.2.1 f zA).2.1)
theorem XH(s:Sd):∀n,Fq s n=M5 s n
  |0=>rfl
  |f+1=>by unfold Fq M5;rw[XH s f,W5]
def I1:Md:=(NT (CJ Z U) 6,(M5 (CJ Z U) 6).map (FH (CJ Z U).1))
theorem rn:aF (CJ Z U)=I1:=by
 unfold aF I1;rw[XH];rfl
def ir(f:Nat):Bool:=(P1 (A0 (D4 Z U) f zA).1 (Fe f) DI).all λx=>
 SC I1 (G0 (tS x) (FR (JT DI (tS x) (A0 (D4 Z U) f zA).1.1) (A0 (D4 Z U) f zA).1.1))&&Rs I1 (qX (tS x) (FR (JT DI (tS x) (A0 (D4 Z U) f zA).1.1) (A0 (D4 Z U) f zA).1.1))
theorem om:(List.range 6).all ir=true:=by decide +kernel
theorem s3:A1 (P1 (A0 (D4 Z U) 0 zA).1 (Fe 0) DI)=1:=by decide +kernel
theorem rm:A1 (GK (CJ Z U) DI 0)=1:=by
 unfold GK;rw[Vy,Bu];have:=QS (f:=0) Aa;rw[show((0:Nat):Int)=0 from I] at this ⊢;rw[this];exact s3
theorem UG{f:Nat}(hf:f<6){x:Ga}(hx:x∈GK (CJ Z U) DI f):Gx (CJ Z U) DI x/\x5 (aF (CJ Z U)) (aQ x.1 x.2.1 DI).1/\x5 (aF (CJ Z U)) (aQ x.1 x.2.1 DI).2:=by
 unfold GK at hx;rw[Vy,QS hf] at hx;obtain⟨y,hy,rfl⟩:=Cp.1 hx;have C:=Bb.1 (Bb.1 om f (C3.2 hf)) y hy;rw[Ap] at C;have e:aQ y (A0 (D4 Z U) f zA).1 DI=(G0 (tS y) (FR (JT DI (tS y) (A0 (D4 Z U) f zA).1.1) (A0 (D4 Z U) f zA).1.1),qX (tS y) (FR (JT DI (tS y) (A0 (D4 Z U) f zA).1.1) (A0 (D4 Z U) f zA).1.1)):=by
  unfold aQ;rw[iq]
 unfold Gx;rw[rn]
 show(Do I1 (aQ y (A0 (D4 Z U) f zA).1 DI).1=0/\Do I1 (aQ y (A0 (D4 Z U) f zA).1 DI).2=1)/\x5 I1 (aQ y (A0 (D4 Z U) f zA).1 DI).1/\x5 I1 (aQ y (A0 (D4 Z U) f zA).1 DI).2
 rw[e];have h1:=ek C.1;have h2:=qw C.2;exact⟨⟨h1.1,h2.1⟩,h1.2,h2.2⟩
def KT(s:Sd)(ps:List Pl)(f:Int):List Ga:=if(A1 (jP s f))=0 then[] else GK s ps f.toNat
section
variable {s:Sd}{ps:List Pl}{f:Int}
theorem rE(h:A1 (jP s f)=0):[]=KT s ps f:=(AC h).symm
theorem ea(hf:0<=f/\f<A1 s.2.1)(hn:Dv s)(h:¬A1 (jP s f)=0):fZ (A0 s.2.1 f.toNat zA).1 (A0 s.2.1 f.toNat zA).2.2 (wG s.1 (A0 s.2.1 f.toNat zA).2.1 (A1 (A0 s.2.1 f.toNat zA).2.1)) ps=KT s ps f:=by
 unfold KT GK;rw[A8 h,w9 A3 (hn _ A3)]
theorem RF(h:¬(0<=f/\f<A1 s.2.1)):[]=jP s f:=(A8 λe=>h e.1).symm
theorem ew(h:0<=f/\f<A1 s.2.1)(hn:Dv s):wG s.1 (A0 s.2.1 f.toNat zA).2.1 (A1 (A0 s.2.1 f.toNat zA).2.1)=jP s f:=by
 have h1:=w9 (f:=f.toNat) A3 (hn _ A3);rw[show((f.toNat:Nat):Int)=f by omega] at h1;exact h1.symm
end
def Oa(s:Sd)(ps:List Pl)(f:Int):Prop:=∀g:Nat,f=g->g<A1 s.2.1->nS (A0 s.2.1 g zA).1 (jP s g) ps/\A1 ps+A1 (pG (jP s g) (A1 (jP s g)))<=20
theorem Oa.pc{s:Sd}{ps:List Pl}{f:Int}(h:Oa s ps f)(hn:Dv s){g:Nat}(e:f=g)(hg:g<A1 s.2.1):nS (A0 s.2.1 g zA).1 (wG s.1 (A0 s.2.1 g zA).2.1 (A1 (A0 s.2.1 g zA).2.1)) ps/\A1 ps+A1 (pG (wG s.1 (A0 s.2.1 g zA).2.1 (A1 (A0 s.2.1 g zA).2.1)) (A1 (wG s.1 (A0 s.2.1 g zA).2.1 (A1 (A0 s.2.1 g zA).2.1))))<=20:=by
 have:=h g e hg;rw[w9 hg (hn g hg)] at this;exact this
def JL(s:Sd):Prop:=Es [s]/\∀f,f<A1 s.2.1->nS (A0 s.2.1 f zA).1 (jP s f) (qE [s] 1)/\∀x,x∈GK s (qE [s] 1) f->x5 (aF s) (aQ x.1 x.2.1 (qE [s] 1)).1/\x5 (aF s) (aQ x.1 x.2.1 (qE [s] 1)).2
section
variable {s:Sd}
theorem JL.pc(h:JL s)(hn:Dv s){f:Nat}(hf:f<A1 s.2.1):nS (A0 s.2.1 f zA).1 (wG s.1 (A0 s.2.1 f zA).2.1 (A1 (A0 s.2.1 f zA).2.1)) (qE [s] [s].length):=by
 have:=(h.2 f hf).1;rw[w9 hf (hn f hf)] at this;exact this
theorem nS.pcn{pl:Pl}{L:List (List Pt)}{ps:List Pl}(h:nS pl L ps)(nm:List Nat):A1 (fZ pl nm L ps)<=4294967296:=Ao (Nu _ _ _ _ _) h.cnt
theorem nS.some{pl:Pl}{L:List (List Pt)}{ps:List Pl}(h:nS pl L ps):¬A1 L=0:=λe=>h.1.1 (by rw[e];rfl)
theorem PZ(hn:Dv s){f:Nat}(hf:f<A1 s.2.1):GK s (qE [s] 1) f=fZ (A0 s.2.1 f zA).1 (A0 s.2.1 f zA).2.2 (wG s.1 (A0 s.2.1 f zA).2.1 (A1 (A0 s.2.1 f zA).2.1)) (qE [s] [s].length):=by
 unfold GK;rw[w9 hf (hn f hf)]
 rfl
theorem JL.dr(h:JL s)(hn:Dv s){f q:Nat}(hf:f<A1 s.2.1)(hq:q<A1 (fZ (A0 s.2.1 f zA).1 (A0 s.2.1 f zA).2.2 (wG s.1 (A0 s.2.1 f zA).2.1 (A1 (A0 s.2.1 f zA).2.1)) (qE [s] [s].length))):x5 (aF s) (aQ (A0 (fZ (A0 s.2.1 f zA).1 (A0 s.2.1 f zA).2.2 (wG s.1 (A0 s.2.1 f zA).2.1 (A1 (A0 s.2.1 f zA).2.1)) (qE [s] [s].length)) q CN).1 (A0 (fZ (A0 s.2.1 f zA).1 (A0 s.2.1 f zA).2.2 (wG s.1 (A0 s.2.1 f zA).2.1 (A1 (A0 s.2.1 f zA).2.1)) (qE [s] [s].length)) q CN).2.1 (qE [s] [s].length)).1/\x5 (aF s) (aQ (A0 (fZ (A0 s.2.1 f zA).1 (A0 s.2.1 f zA).2.2 (wG s.1 (A0 s.2.1 f zA).2.1 (A1 (A0 s.2.1 f zA).2.1)) (qE [s] [s].length)) q CN).1 (A0 (fZ (A0 s.2.1 f zA).1 (A0 s.2.1 f zA).2.2 (wG s.1 (A0 s.2.1 f zA).2.1 (A1 (A0 s.2.1 f zA).2.1)) (qE [s] [s].length)) q CN).2.1 (qE [s] [s].length)).2:=(h.2 f hf).2 _ (by rw[PZ hn hf];exact bW hq)
theorem hc(hn:Dv s){f q:Nat}(hf:f<A1 s.2.1)(hq:q<A1 (fZ (A0 s.2.1 f zA).1 (A0 s.2.1 f zA).2.2 (wG s.1 (A0 s.2.1 f zA).2.1 (A1 (A0 s.2.1 f zA).2.1)) (qE [s] [s].length)))(h:¬Gx s (qE [s] [s].length) (A0 (fZ (A0 s.2.1 f zA).1 (A0 s.2.1 f zA).2.2 (wG s.1 (A0 s.2.1 f zA).2.1 (A1 (A0 s.2.1 f zA).2.1)) (qE [s] [s].length)) q CN)):¬Lr s:=λk=>h (k f hf _ (by rw[PZ hn hf];exact bW hq))
theorem gu(hn:Dv s)(h:∀f,f<A1 s.2.1->∀q,q<A1 (fZ (A0 s.2.1 f zA).1 (A0 s.2.1 f zA).2.2 (wG s.1 (A0 s.2.1 f zA).2.1 (A1 (A0 s.2.1 f zA).2.1)) (qE [s] [s].length))->Gx s (qE [s] [s].length) (A0 (fZ (A0 s.2.1 f zA).1 (A0 s.2.1 f zA).2.2 (wG s.1 (A0 s.2.1 f zA).2.1 (A1 (A0 s.2.1 f zA).2.1)) (qE [s] [s].length)) q CN)):Lr s:=λf hf x hx=>by
 rw[PZ hn hf] at hx;obtain⟨q,hq,rfl⟩:=Jj CN hx;exact h f hf q hq
end
end Bk
namespace Go.Proofs.YtlpflnindligbaaGreat
open Bk Go Tryz
attribute [local irreducible] GL GC GQ W OpV
theorem Yq{w0:AP}{h0:A4}(hs:MLe h0 (BE w0)){k m n j:Nat}{vs:A2}{s:Sq}(rs:(BT k m n j).Is h0 vs s){f:Int}(hf1:-9223372036854775808<=f)(hf2:f<9223372036854775808)(H0:CF s)(H1:Dv s)(H2:k<=100000):
 Ae 59 #[vs,vI f] w0 h0 (λh r=>(C1 (k+3)).Is h r (jP s f)):=by
 have bf:=H0.1.1.1;have be:=H0.1.1.2;refine B0 32 vs (vI f) func59 hs ?_;refine A5 ?_;refine nB rs λb2 bj J=>(AR ?_);refine zG 19 _ [] (Ah 0 16 [(16,.c),(17,.q),(18,.q)]) zX nX (xU Ac) nX (λr hr=>hr) (AN ?_);refine qC (f<(0:Int)) (λU=>?_) (λU=>?_)
 ·
  rw[yU U];refine tQ ?_;refine AB I (bD I I I I (uF ?_));refine zC I I ?_;exact(Rp.Is.cast (tP _) (by exact RF O))
 rw[yH U];refine yS I I I (λh' L' hh hR=>xK I) I (A7 ?_);refine oX I (xB kO (AQ (AT pH)) J) λbd aq=>(yS I I I (λh' L' hh hR=>jK underlying29 I (aq.mono hh)) I (AN ?_));refine qC ((↑(A1 (s.2.1)):Int)<=f) (λM=>?_) (λM=>?_)
 ·
  rw[yU M];refine AZ ?_;refine AB I (bD I I I I (uF ?_));refine zC I I ?_;exact(Rp.Is.cast (tP _) (by exact RF O))
 rw[yH M];refine oX I (xB jG pH J) λbc ap=>(A7 ?_);refine oX I (xB kO (AQ (AT pH)) J) λbb ao=>(yS I I I (λh' L' hh hR=>xK I) I (oX I (xI zA f.toNat underlying29 tT ao) λba an=>(oX I (xA tT an) λaz am=>?_)));refine AB I (ES I I (sC (AK I I) call115 (λw hs=>so hs ap am (by first|omega|exactλu v C H=>H1 f.toNat O u C v H|exactλu C=>Ao ((H0.2.1 f.toNat O).2 u C) dC|exact Ao (H0.2.1 f.toNat O).1 dC) (by first|omega|exactλu v C H=>H1 f.toNat O u C v H|exactλu C=>Ao ((H0.2.1 f.toNat O).2 u C) dC|exact Ao (H0.2.1 f.toNat O).1 dC) (by first|omega|exactλu v C H=>H1 f.toNat O u C v H|exactλu C=>Ao ((H0.2.1 f.toNat O).2 u C) dC|exact Ao (H0.2.1 f.toNat O).1 dC) (by first|omega|exactλu v C H=>H1 f.toNat O u C v H|exactλu C=>Ao ((H0.2.1 f.toNat O).2 u C) dC|exact Ao (H0.2.1 f.toNat O).1 dC)) λaa h1 bi ak=>?_));obtain rfl:aa=.bool true:=by rw[show aa=vB (True) from ak,yU (by trivial)]
 refine yS I I I (λh' L' hh hR=>XD I) I (Af ?_);refine zG 9 _ [] (Ah 0 6 [(6,.c),(7,.c),(8,.q)]) zX nX Ac nX (λr hr=>hr) ?_;have D:=H0.2.1 f.toNat O;have ab:A1 (wG s.1 (A0 s.2.1 f.toNat zA).2.1 (A1 (A0 s.2.1 f.toNat zA).2.1))=A1 (A0 s.2.1 f.toNat zA).2.1:=xN _ _;have ac:∀x,x∈wG s.1 (A0 s.2.1 f.toNat zA).2.1 (A1 (A0 s.2.1 f.toNat zA).2.1)->A1 x<=100000:=λx hx=>by
  obtain⟨i,hi,rfl⟩:=Ru hx;have:=D.2 i hi
  show(A1 (FO _ _ _))<=_
  unfold FO;rw[xN];omega
 refine wX I (xB jG pH J) λay aj=>(A7 ?_);refine wX I (xB kO (AQ (AT pH)) J) λax ai=>(A7 ?_);refine wX I (xI zA f.toNat underlying29 tT ai) λaw ah=>(wX I (xA tT ah) λav ae=>?_);refine AB I (sC (AK I I) call117 (λw hs=>dW hs aj ae (by first|omega|exactλu v C H=>H1 f.toNat O u C v H|exactλu C=>Ao (D.2 u C) dC|exact Ao D.1 dC) (by first|omega|exactλu v C H=>H1 f.toNat O u C v H|exactλu C=>Ao (D.2 u C) dC|exact Ao D.1 dC) (by first|omega|exactλu v C H=>H1 f.toNat O u C v H|exactλu C=>Ao (D.2 u C) dC|exact Ao D.1 dC) (by first|omega|exactλu v C H=>H1 f.toNat O u C v H|exactλu C=>Ao (D.2 u C) dC|exact Ao D.1 dC)) λau h2 bh ad=>?_);refine AB I (sC (AU I) call116 (λw hs=>cz hs ad O (by first|omega|exact ac|(rw[show(A1 (wG _ _ _))=_ from ab];omega)) (by first|omega|exact ac|(rw[show(A1 (wG _ _ _))=_ from ab];omega))) λar h3 bg Z=>?_);replace Z:=Rp.Is.le Z (Le.s (Le.s (AI (k+3))));refine AF ?_;refine zC I I ?_;exact(Rp.Is.cast Z (by exact ew O H1))
set_option maxHeartbeats 1000000 in
section
variable{w0:AP}{h0:A4}(hs:MLe h0 (BE w0))
include hs
theorem jl{k n m:Nat}{vl:A2}{l:(List Tq)}(rl:(Aq k).Is h0 vl l){vs:A2}{s:Pq}(rs:(Aj n m).Is h0 vs s)(H0:k<=50000000)(H1:m<=1000000)(H2:n<=1000000)(H3:A1 l<=100000):
 Ae 185 #[vl,vs] w0 h0 (λh r=>∃u0 u1,r=.tuple #[u0,u1]/\(Aq (12*k+3*m+9*n+62)).Is h u0 (sN s l)/\(Aq (12*k+3*m+9*n+62)).Is h u1 (gS s l)):=by
 refine B0 110 vl vs func185 hs ?_;refine A5 ?_;refine nB rs λb3 bn cz=>(AX ?_);refine zE (lK (ρ:=A9) (X:=(0:Int)) (by':=8) (A1 l) underlying22 kT I I I I wT I I B5 B5 O O) I I I ?_
 rintro dy hg ⟨du,rfl,cw⟩
 refine L7 ?_;refine An (ι:=Nat×List Int×Int×Int×A2×List A2×A4) (λ(i,SD,lo,hi,C,ah,ma)=>(MLe h0 ma/\(RL A9 ma ah SD/\((i<=A1 l/\A1 SD=A1 l)/\∀u,u<i->A0 SD u (0:Int)=B7 s (gp l u))/\((lo<0↔Jy s l i)/\lo<=0)/\((0<hi↔Hc s l i)/\0<=hi)/\-1<=lo/\hi<=1),[(0,vl),(3,vP b3 0),(4,.slice none 0 0),(5,.slice none 0 0),(6,C),(7,vI lo),(8,vI hi),(18,vl),(19,vI (↑(A1 (l)):Int)),(20,vI ↑i)],[.gs 3 1 C (A1 SD) ah,.var b3 45 bn],ma,A1 l-i)) (0,(List.replicate (A1 l) (0:Int)),(0:Int),(0:Int),dy,du,h0) ?_ ?_
 · exact⟨AM,cw,⟨⟨A3,Hu⟩,λu h=>by omega⟩,⟨⟨λh=>by omega,λh=>h.elim⟩,A3⟩,⟨⟨λh=>by omega,λh=>h.elim⟩,A3⟩,A3,A3⟩
 rintro⟨i,SD,lo,hi,C,ah,ma⟩ ⟨fm,aw,⟨⟨ew,BA⟩,dh⟩,bb,aq,hk,bc⟩
 refine yO ?_;have hj:=sV s (gp l i);refine Ba (λdp=>?_) λdp=>?_
 ·
  refine Af ?_;refine lX (xI zT i underlying28 zI rl) λha eu=>(lX (xA zI eu) λgz es=>(nA (ρ:=(AD (k+1))) (X:=zT) yA (yN (zR O)) λhn ga dc=>(A7 ?_)));refine zP (A:=[]) (uB sizeOf43 pH dc (es.le (AI (k+1)))) λfw cy=>(AZ ?_);refine lX (xB qZ pH cz) λgy er=>(lX (xB zI pH cy) λgx eq=>(cL (AK I I) call199 (λw hs=>Yg hs er eq O O O) λdx h1 bc ep=>?_));obtain rfl:dx=vI (B7 s (A0 l i zT)):=ep;have ev:=sV s (A0 l i zT);refine gv ((yG i Ax underlying22 sizeOf3 I I I bO nP).cv (show _=zH 1 C ((i*1+0)) from AJ (zH 1 C) B5)) I (kQ (A:=[_]) (F:=λc_=>RL A9 h1 c_ (SD.set i (B7 s (A0 l i zT)))) (tD sizeOf3 (AO (AA _) (0:Int) i bO) I nP I I aw.up (vC O O) I) ?_);intro dq be;refine A5 ?_;refine zG 14 _ [] (Ah 0 14 []) zX nX (xU Ac) nX (λr hr=>hr) (AN ?_);refine B3 I (λh' L' hh hR=>(yG i (hR _ Ax) underlying22 sizeOf3 I I I bO nP).cv (show _=zH 1 C ((i*1+0)) from AJ (zH 1 C) B5)) I (fL (F:=λv_=>A9.Is h1 v_ (A0 (SD.set i (B7 s (A0 l i zT))) i (0:Int))) I (xO B8 (AO (AA _) (0:Int) i bO) I nP I be I) (gH Ax) I ?_);intro gw eo;obtain⟨rfl,ft,fi⟩:=jV eo;refine wK I (λ_ _=>V2 I I) I (AN ?_);refine B3 I (λh' L' hh hR=>(yG i (hR _ Ax) underlying22 sizeOf3 I I I bO nP).cv (show _=zH 1 C ((i*1+0)) from AJ (zH 1 C) B5)) I (fL (F:=λv_=>A9.Is h1 v_ (A0 (SD.set i (B7 s (A0 l i zT))) i (0:Int))) I (xO B8 (AO (AA _) (0:Int) i bO) I nP I be I) (gH Ax) I ?_);intro gu en;obtain⟨rfl,fs,fh⟩:=jV en;refine wK I (λ_ _=>T5 I I) I (Ak ?_);refine yE (A:=[]) ?_;refine Ad ((i+1),(SD.set i (B7 s (A0 l i zT))),(min lo (B7 s (gp l i))),(max hi (B7 s (gp l i))),C,dq,h1) ?_ ?_ (he:=⟨I,I,I,I,I,AJ (λz=>some (vI z)) (by rw[WJ O];rfl),AJ (λz=>some (vI z)) (by rw[WJ O];rfl),I,I,I,AW⟩)
  · exact⟨AM,be,⟨⟨A3,by rw[lS];exact BA⟩,MI (f:=λu=>B7 s (gp l u)) O dh I⟩,ry bb.1 bb.2,ih aq.1 aq.2,A3,A3⟩
  omega
 have ei:i=A1 l:=by omega
 have hS:∀u,u<A1 l->A0 SD u (0:Int)=B7 s (gp l u):=λu hu=>dh u O;rw[ei] at bb aq;refine fJ ?_;refine Bq (λdn=>?_) λdn=>?_
 ·
  refine vV ?_;refine wS I I I ?_;refine⟨_,_,?_,(Rp.Is.cast (Rp.Is.le rl.up (Le.s (AI (12*k+3*m+9*n+62)))) (by exact(VS (by rw[<-aq.1];omega)).1.symm)),(Rp.Is.cast (tP _) (by exact(VS (by rw[<-aq.1];omega)).2.symm))⟩
  rfl
 refine DV (λdm=>?_) λdm=>?_
 ·
  refine vV ?_;refine wS I I I ?_;refine⟨_,_,?_,(Rp.Is.cast (tP _) (by exact(ZH (by rw[<-aq.1];omega) (by rw[<-bb.1];omega)).1.symm)),(Rp.Is.cast (Rp.Is.le rl.up (Le.s (AI (12*k+3*m+9*n+62)))) (by exact(ZH (by rw[<-aq.1];omega) (by rw[<-bb.1];omega)).2.symm))⟩
  rfl
 refine uF ?_;refine yX 43 9 ?_;have co:=RL.nil (ρ:=Bd (AE (12*k+3*m+9*n+62))) (h:=ma);refine yX 43 9 ?_;have cn:=RL.nil (ρ:=Bd (AE (12*k+3*m+9*n+62))) (h:=ma);refine An (ι:=Nat×List Tq×List Tq×A2×List A2×A2×List A2×A4) (λ(i,B,F,am,ar,aa,ai,mb)=>(MLe ma mb/\(RL (AD (12*k+3*m+9*n+62)) mb ar B/\RL (AD (12*k+3*m+9*n+62)) mb ai F/\(i<=A1 l/\B=Ej s l i)/\F=Ed s l i),[(0,vl),(3,vP b3 0),(4,am),(5,aa),(6,C),(52,vl),(53,vI (↑(A1 (l)):Int)),(54,vI ↑i)],[.gs 43 9 aa (A1 F) ai,.gs 43 9 am (A1 B) ar,.gs 3 1 C (A1 SD) ah,.var b3 45 bn],mb,A1 l-i)) (0,[],[],(.slice none 0 0),[],(.slice none 0 0),[],ma) ?_ ?_
 · exact⟨AM,co,cn,⟨A3,I⟩,I⟩
 rintro⟨i,B,F,am,ar,aa,ai,mb⟩ ⟨fl,ay,ax,⟨ew,hB⟩,hF⟩
 refine yO ?_;have ez:=N7 s l i;have ey:=Mf s l i;have hm:A1 B<=2*i:=by rw[hB];exact ez
 have hl:A1 F<=2*i:=by rw[hF];exact ey
 refine Ba (λdl=>?_) λdl=>?_
 ·
  have dk:=hS i O;have dj:=hS ((i+1)%A1 l) (BQ _ O);have df:=sV s (gp l i);have de:=sV s (gp l ((i+1)%A1 l));refine Af ?_;refine lX (xI zT i underlying28 zI rl) λgt em=>(lX (xA zI em) λgr el=>(nA (ρ:=(AD (k+1))) (X:=zT) yA (yN (zR O)) λbp fz db=>(A7 ?_)));refine zP (A:=[]) (uB sizeOf43 pH db (el.le (AI (k+1)))) λbd az=>(AX ?_);refine gv (wI I I O O) I (AN ?_);refine jD (ι:=List Tq×A2×List A2×A4) (λ(B1,D,M,mk)=>MLe mb mk/\(RL (AD (12*k+3*m+9*n+62)) mk M B1/\B1=Fz s l i)) (λ(B1,D,M,mk)=>[(0,vl),(3,vP b3 0),(4,D),(5,aa),(6,C),(11,vI ↑i),(12,vP bp 0),(13,vI (((↑i:Int)+(1:Int))%(↑(A1 (l)):Int))),(52,vl),(53,vI (↑(A1 (l)):Int)),(54,vI ↑i)]) (λ(B1,D,M,mk)=>[.var bp 43 bd,.gs 43 9 aa (A1 F) ai,.gs 43 9 D (A1 B1) M,.gs 3 1 C (A1 SD) ah,.var b3 45 bn]) (λ(B1,D,M,mk)=>mk) ?_ ?_
  ·
   refine AF ?_;refine gv ((yG i DT underlying22 sizeOf3 I I I bO nP).cv (show _=zH 1 C ((i*1+0)) from AJ (zH 1 C) B5)) I (nT (F:=λv_=>A9.Is mb v_ (A0 SD i (0:Int))) (xO B8 (AO (AA _) (0:Int) i bO) I nP I aw.up I) (gH DT) I ?_);intro gq ek;obtain⟨rfl,fr,fg⟩:=jV ek;refine B4 (λbm=>?_) λbm=>?_
   ·
    have bi:B7 s (gp l i)<=0:=by rw[<-hS i O];exact bm
    refine A5 ?_;refine lX (xB zI pH az) λgo eh=>(zE (zL (ρ:=(AD (k+1))) (m:=1) (xs:=[(A0 l i zT)]) (ps':=[(0,_)]) underlying28 yA I I I (yN (zR O)) Al (zD I (AO (AA _) zT 0 dC) eh zO) Dm nP) I I I ?_)
    rintro gn hf ⟨fy,rfl,cu⟩
    refine zQ (A:=[]) (ρ:=(AD (k+1))) cu ?_;intro h1 bc cg;refine yY (A:=[_,_]) (zN (ρ:=(AD (12*k+3*m+9*n+62))) (bytes:=168) underlying28 yA I I I I nP I I ay.up (cg.le (Le.s (AI (12*k+3*m+9*n+62)))) bO bO) I I I ?_
    rintro dw hd ⟨dt,rfl,ct⟩
    refine A5 ?_;refine zV ((B++[(A0 l i zT)]),dw,dt,h1) ?_ ⟨I,I,I,I,I,I,I,I,I,I,I,AW⟩ I I;refine⟨bc,?_⟩;refine⟨ct,?_⟩;exact(by first|exact b2 hB bi|exact YU hB bi)
   have bi:¬B7 s (gp l i)<=0:=by rw[<-hS i O];exact bm
   refine A7 ?_;refine zV (B,am,ar,mb) ?_ ⟨I,I,I,I,I,I,I,I,I,I,I,AW⟩ I I;refine⟨MLe.refl _,?_⟩;refine⟨ay.up,?_⟩;exact(by first|exact b2 hB bi|exact YU hB bi)
  rintro⟨B1,D,M,mk⟩ ⟨fj,ae⟩
  refine yO ?_;obtain⟨ao,ae⟩:=ae;have fv:A1 B1<=2*i+1:=by rw[ae];exact ho s l i
  refine jD (ι:=List Tq×A2×List A2×A4) (λ(F1,U,Z,mc)=>MLe mk mc/\(RL (AD (12*k+3*m+9*n+62)) mc Z F1/\F1=Fw s l i)) (λ(F1,U,Z,mc)=>[(0,vl),(3,vP b3 0),(4,D),(5,U),(6,C),(11,vI ↑i),(12,vP bp 0),(13,vI (((↑i:Int)+(1:Int))%(↑(A1 (l)):Int))),(52,vl),(53,vI (↑(A1 (l)):Int)),(54,vI ↑i)]) (λ(F1,U,Z,mc)=>[.var bp 43 bd,.gs 43 9 U (A1 F1) Z,.gs 43 9 D (A1 B1) M,.gs 3 1 C (A1 SD) ah,.var b3 45 bn]) (λ(F1,U,Z,mc)=>mc) ?_ ?_
  ·
   refine AF ?_;refine gv ((yG i DT underlying22 sizeOf3 I I I bO nP).cv (show _=zH 1 C ((i*1+0)) from AJ (zH 1 C) B5)) I (nT (F:=λv_=>A9.Is mk v_ (A0 SD i (0:Int))) (xO B8 (AO (AA _) (0:Int) i bO) I nP I aw.up I) (gH DT) I ?_);intro gm eg;obtain⟨rfl,fq,ff⟩:=jV eg;refine B4 (λbl=>?_) λbl=>?_
   ·
    have bh:0<=B7 s (gp l i):=by rw[<-hS i O];exact bl
    refine A5 ?_;refine lX (xB zI pH az) λgk ef=>(zE (zL (ρ:=(AD (k+1))) (m:=1) (xs:=[(A0 l i zT)]) (ps':=[(0,_)]) underlying28 yA I I I (yN (zR O)) Al (zD I (AO (AA _) zT 0 dC) ef zO) Dm nP) I I I ?_)
    rintro gj hc ⟨fx,rfl,cq⟩
    refine zQ (A:=[]) (ρ:=(AD (k+1))) cq ?_;intro h1 bc cf;refine yY (A:=[_]) (zN (ρ:=(AD (12*k+3*m+9*n+62))) (bytes:=168) underlying28 yA I I I I nP I I ax.up (cf.le (Le.s (AI (12*k+3*m+9*n+62)))) bO bO) I I I ?_
    rintro dv hb ⟨dr,rfl,cp⟩
    refine A5 ?_;refine zV ((F++[(A0 l i zT)]),dv,dr,h1) ?_ ⟨I,I,I,I,I,I,I,I,I,I,I,AW⟩ I I;refine⟨bc,?_⟩;refine⟨cp,?_⟩;exact(by first|exact Vm hF bh|exact U3 hF bh)
   have bh:¬0<=B7 s (gp l i):=by rw[<-hS i O];exact bl
   refine A7 ?_;refine zV (F,aa,ai,mk) ?_ ⟨I,I,I,I,I,I,I,I,I,I,I,AW⟩ I I;refine⟨MLe.refl _,?_⟩;refine⟨ax.up,?_⟩;exact(by first|exact Vm hF bh|exact U3 hF bh)
  rintro⟨F1,U,Z,mc⟩ ⟨fk,ad⟩
  refine yO ?_;obtain⟨an,ad⟩:=ad;have fu:A1 F1<=2*i+1:=by rw[ad];exact uc s l i
  refine A7 ?_;refine zG 10 _ [] (Ah 0 10 []) zX nX Ac nX (λr hr=>hr) (A5 ?_);refine B3 I (λh' L' hh hR=>(yG i (hR _ DT) underlying22 sizeOf3 I I I bO nP).cv (show _=zH 1 C ((i*1+0)) from AJ (zH 1 C) B5)) I (fL (F:=λv_=>A9.Is mc v_ (A0 SD i (0:Int))) I (xO B8 (AO (AA _) (0:Int) i bO) I nP I aw.up I) (gH DT) I ?_);intro gi ee;obtain⟨rfl,fp,fe⟩:=jV ee;refine A5 ?_;refine B3 I (λh' L' hh hR=>(yG ((i+1)%A1 l) (hR _ DT) underlying22 sizeOf3 I I rP (by rw[BA];exact BQ _ O) nP).cv (show _=zH 1 C ((((i+1)%A1 l)*1+0)) from AJ (zH 1 C) B5)) I (fL (F:=λv_=>A9.Is mc v_ (A0 SD ((i+1)%A1 l) (0:Int))) I (xO B8 (AO (AA _) (0:Int) ((i+1)%A1 l) (by rw[BA];exact BQ _ O)) I nP I aw.up I) (gH DT) I ?_);intro gh ed;obtain⟨rfl,fo,fd⟩:=jV ed;refine wK I (λ_ _=>gM I I (by rw[dk,dj];have:=lL df de;omega) (by rw[dk,dj];have:=lL df de;omega)) I (B4 (λbk=>?_) λbk=>?_)
  ·
   have J:xP s l i:=by have h:=bk;rw[hS i O,hS ((i+1)%A1 l) (BQ _ O)] at h;exact h
   refine A7 ?_;refine zG 8 _ [(7,(14,43,Em))] (Ah 0 6 [(6,.c),(7,.a),(8,.t)]) zX (uY.cons I I (vG yA I I) uY.nil) Ac (vH I I qT) (λr hr=>hr) (wX I (xB qZ pH cz) λgg ec=>(wX I (xB zI pH az) λgf eb=>(A5 ?_)));refine wX I (xI zT ((i+1)%A1 l) underlying28 zI rl (hi:=by exact BQ _ O)) λge ea=>(wX I (xA zI ea) λgc dz=>?_);refine AB I (sC (BM I I I) call230 (λw hs=>hp hs ec eb (dz.le (AI (k+1))) O O O) λgb h1 bc ch=>?_);replace ch:=Rp.Is.le ch (AI (12*k+3*m+9*n+62));refine CA I I (λfa=>?_);have da:(AD 1).R h1 Em zT:=(yN (zR dC));have bv:=(AI (12*k+3*m+9*n+62)).R da;refine yD (A:=[]) I (uB sizeOf43 pH bv ch) λck bf=>(A5 ?_);refine zG 10 [.var fa 43 ck,.var bp 43 bd,.gs 3 1 C (A1 SD) ah,.var b3 45 bn] [] [(0,.q),(1,.q),(4,.q),(5,.q),(2,.d 3 6),(7,.c),(8,.q),(9,.q)] zX nX Ac nX (by intro r hr;simp only[BY,Cy,Bv,or_false] at hr ⊢<;>grind) (A7 ?_);refine wX I (xB zI pH bf) λfc br=>(A7 ?_);refine wX I (xB zI pH bf) λfb bg=>?_;refine Zq I I I ?_ ?_
   ·
    refine tV (λX=>zL (ρ:=(AD (12*k+3*m+9*n+62))) (m:=1) (xs:=[DL s (A0 l i zT) (A0 l ((i+1)%A1 l) zT)]) (ps':=[(0,_)]) underlying28 yA I I I (yN (zR O)) Al (zD I (AO (AA _) zT 0 dC) br zO) Dm nP) I ?_
    rintro cm dd ⟨cl,rfl,ap⟩
    refine⟨?_,?_⟩
    ·
     refine vX (A:=[]) (ρ:=(AD (12*k+3*m+9*n+62))) ap dK ?_;intro h2 bj ce;refine kP (A:=[_,_,_]) (λX=>zN (ρ:=(AD (12*k+3*m+9*n+62))) (bytes:=168) underlying28 yA I I I I nP I I ao.up ce bO bO) I (yP BU) ?_;intro av bu cj;obtain⟨ak,rfl,ac⟩:=cj;refine tV (λX=>zL (ρ:=(AD (12*k+3*m+9*n+62))) (m:=1) (xs:=[DL s (A0 l i zT) (A0 l ((i+1)%A1 l) zT)]) (ps':=[(0,_)]) underlying28 yA I I I (yN (zR O)) Al (zD I (AO (AA _) zT 0 dC) bg.up zO) Dm nP) I ?_;intro bq bt ba;obtain⟨bo,rfl,H⟩:=ba;refine AB I (vX (A:=[]) (ρ:=(AD (12*k+3*m+9*n+62))) H dK ?_);intro h3 di cd;refine kP (A:=[_,_]) (λX=>zN (ρ:=(AD (12*k+3*m+9*n+62))) (bytes:=168) underlying28 yA I I I I nP I I an.up cd bO bO) I (yP BU) ?_;intro au bs ci;obtain⟨aj,rfl,ab⟩:=ci;refine Ak ?_;refine yE (A:=[]) (yE (A:=[]) ?_);refine Ad ((i+1),(B1++[DL s (A0 l i zT) (A0 l ((i+1)%A1 l) zT)]),(F1++[DL s (A0 l i zT) (A0 l ((i+1)%A1 l) zT)]),av,ak,au,aj,h3) ?_ ?_
     · exact⟨AM,ac.up,ab,⟨A3,(by first|exact OV ae J|exact Ob ae J)⟩,(by first|exact O0 ad J|exact My ad J)⟩
     omega
    refine tV (λX=>zL (ρ:=(AD (12*k+3*m+9*n+62))) (m:=1) (xs:=[DL s (A0 l i zT) (A0 l ((i+1)%A1 l) zT)]) (ps':=[(0,_)]) underlying28 yA I I I (yN (zR O)) Al (zD I (AO (AA _) zT 0 dC) bg.up zO) Dm nP) I ?_;intro bq bt ba;obtain⟨bo,rfl,H⟩:=ba;refine vX (A:=[_]) (ρ:=(AD (12*k+3*m+9*n+62))) ap dK ?_;intro h2 bj cc;refine kP (A:=[_,_,_,_]) (λX=>zN (ρ:=(AD (12*k+3*m+9*n+62))) (bytes:=168) underlying28 yA I I I I nP I I ao.up cc bO bO) I (yP BU) ?_
    rintro av bu ⟨ak,rfl,ac⟩
    refine AB I ?_;replace H:=H.mono bj;refine vX (A:=[]) (ρ:=(AD (12*k+3*m+9*n+62))) H dK ?_;intro h3 di cb;refine kP (A:=[_,_]) (λX=>zN (ρ:=(AD (12*k+3*m+9*n+62))) (bytes:=168) underlying28 yA I I I I nP I I an.up cb bO bO) I (yP BU) ?_
    rintro au bs ⟨aj,rfl,ab⟩
    refine Ak ?_;refine yE (A:=[]) (yE (A:=[]) ?_);refine Ad ((i+1),(B1++[DL s (A0 l i zT) (A0 l ((i+1)%A1 l) zT)]),(F1++[DL s (A0 l i zT) (A0 l ((i+1)%A1 l) zT)]),av,ak,au,aj,h3) ?_ ?_
    · exact⟨AM,ac.up,ab,⟨A3,(by first|exact OV ae J|exact Ob ae J)⟩,(by first|exact O0 ad J|exact My ad J)⟩
    omega
   refine tV (λX=>zL (ρ:=(AD (12*k+3*m+9*n+62))) (m:=1) (xs:=[DL s (A0 l i zT) (A0 l ((i+1)%A1 l) zT)]) (ps':=[(0,_)]) underlying28 yA I I I (yN (zR O)) Al (zD I (AO (AA _) zT 0 dC) bg.up zO) Dm nP) I ?_
   rintro bq bt ⟨bo,rfl,H⟩
   refine tV (λX=>zL (ρ:=(AD (12*k+3*m+9*n+62))) (m:=1) (xs:=[DL s (A0 l i zT) (A0 l ((i+1)%A1 l) zT)]) (ps':=[(0,_)]) underlying28 yA I I I (yN (zR O)) Al (zD I (AO (AA _) zT 0 dC) br zO) Dm nP) I ?_
   rintro cm dd ⟨cl,rfl,ap⟩
   refine vX (A:=[]) (ρ:=(AD (12*k+3*m+9*n+62))) ap dK ?_;intro h2 bj ca;refine kP (A:=[_,_,_,_]) (λX=>zN (ρ:=(AD (12*k+3*m+9*n+62))) (bytes:=168) underlying28 yA I I I I nP I I ao.up ca bO bO) I (yP BU) ?_
   rintro av bu ⟨ak,rfl,ac⟩
   refine AB I ?_;replace H:=H.mono bj;refine vX (A:=[]) (ρ:=(AD (12*k+3*m+9*n+62))) H dK ?_;intro h3 di bz;refine kP (A:=[_,_]) (λX=>zN (ρ:=(AD (12*k+3*m+9*n+62))) (bytes:=168) underlying28 yA I I I I nP I I an.up bz bO bO) I (yP BU) ?_
   rintro au bs ⟨aj,rfl,ab⟩
   refine Ak ?_;refine yE (A:=[]) (yE (A:=[]) ?_);refine Ad ((i+1),(B1++[DL s (A0 l i zT) (A0 l ((i+1)%A1 l) zT)]),(F1++[DL s (A0 l i zT) (A0 l ((i+1)%A1 l) zT)]),av,ak,au,aj,h3) ?_ ?_
   · exact⟨AM,ac.up,ab,⟨A3,(by first|exact OV ae J|exact Ob ae J)⟩,(by first|exact O0 ad J|exact My ad J)⟩
   omega
  have J:¬xP s l i:=by have h:=bk;rw[hS i O,hS ((i+1)%A1 l) (BQ _ O)] at h;exact h
  refine Af ?_;refine yE (A:=[]) ?_;refine Ad ((i+1),B1,F1,D,M,U,Z,mc) ?_ ?_
  · exact⟨AM,ao.up,an.up,⟨A3,(by first|exact OV ae J|exact Ob ae J)⟩,(by first|exact O0 ad J|exact My ad J)⟩
  omega
 have ej:i=A1 l:=by omega
 rw[ej] at hB hF;refine fJ ?_;refine xR (A:=[_]) (ρ:=(AD (12*k+3*m+9*n+62))) ay.up ?_;intro h1 bc bx;refine xR (A:=[]) (ρ:=(AD (12*k+3*m+9*n+62))) ax.up ?_;intro h2 bj bw;refine wS I I I ?_;refine⟨_,_,?_,(Rp.Is.cast bx.up (by rw[hB];exact(Ym (by rw[<-aq.1];omega) (by rw[<-bb.1];omega)).1.symm)),(Rp.Is.cast bw (by rw[hF];exact(Ym (by rw[<-aq.1];omega) (by rw[<-bb.1];omega)).2.symm))⟩
 rfl
theorem io{k:Nat}{vps:A2}{ps:(List Tq)}(rps:(Aq k).Is h0 vps ps){i:Nat}{j:Nat}(H0:0<A1 ps)(H1:i<3)(H2:j<3)(H3:k<=1000000):
 Ae 123 #[vps,vI ↑i,vI ↑j] w0 h0 (λh r=>(A6 A9 (A6 A9 (A6 (BO 2 (AE (k+2))) (BO 2 (AE (k+2)))))).Is h r (Tt ps i j)):=by
 have dx:=G6 rps;refine Cs 68 vps (vI ↑i) (vI ↑j) func123 hs ?_;refine A5 ?_
 let eX0:=((0:Int),((0:Int),((List.replicate 2 (0:Rat)),(List.replicate 2 (0:Rat)))))
 refine nA (ρ:=(A6 A9 (A6 A9 (A6 (BO 2 (AE (k+1))) (BO 2 (AE (k+1))))))) (X:=eX0) O8 (zW wT (zW wT (zW (lQ 2 (zR O)) (lQ 2 (zR O))))) λb6 bp bu=>(AZ ?_);refine lX (xV (ρ:=(A6 A9 (A6 A9 (A6 (BO 2 (AE 1)) (BO 2 (AE 1)))))) (xL (ps':=[(0,_),(1,_)]) underlying144 O8 I I (ld underlying144) BR I (zW wT (zW wT (zW (lQ 2 (zR dC)) (lQ 2 (zR dC))))) (zD I (AT (AA _)) (vC O O) (zD I (AQ (AT (AA _))) (vC O O) zO)))) λdu cl=>(nA (ρ:=(A6 A9 (A6 A9 (A6 (BO 2 (AE 1)) (BO 2 (AE 1)))))) (X:=eX0) O8 (zW wT (zW wT (zW (lQ 2 (zR dC)) (lQ 2 (zR dC))))) λH dz bt=>(zP (A:=[]) (uB sizeOf144 pH bt cl) λcz bj=>(AN ?_)));refine zG 12 _ [] (Ah 0 12 [(12,.t)]) zX nX (xU Ac) nX (λr hr=>hr) (A5 ?_);refine fL (F:=λv_=>C4 (AD k) h0 v_ (A0 ps 0 zT)) I (kW (q:=0) zT 0 underlying28 zI I I rps I O nP) rW I ?_;intro dt ck;refine fL (F:=λv_=>C4 (AE k) h0 v_ ((A0 ps 0 zT).at i)) I (cI i underlying43 sizeOf41 (Pc.ta (AA _) i O) I I I ck I O I) rW I ?_;intro dr cj;refine wX I (xA zU cj) λdq ci=>(A5 ?_);refine fL (F:=λv_=>C4 (AD k) h0 v_ (A0 ps 0 zT)) I (kW (q:=0) zT 0 underlying28 zI I I rps I O nP) rW I ?_;intro dp ch;refine fL (F:=λv_=>C4 (AE k) h0 v_ ((A0 ps 0 zT).at j)) I (cI j underlying43 sizeOf41 (Pc.ta (AA _) j O) I I I ch I O I) rW I ?_;intro dn cg;refine wX I (xA zU cg) λdm cf=>(wX I (xV (ρ:=(BO 2 (AE (k+1)))) (xD (ps':=[(0,_),(1,_)]) underlying142 g5 I I sizeOf41 BR I (lQ 2 (zR O)) (zD I (AO (AA _) (0:Rat) 0 dC) (ci.le (AL (k+1))) (zD I (AO (AA _) (0:Rat) 1 dC) (cf.le (AL (k+1))) zO)))) λdl ce=>(A7 ?_));have bh:=(Le.p (Le.refl _) (Le.p (Le.refl _) (Le.p (Le.a (AL (k+1))) (Le.refl _)))).R bj;refine yD (A:=[]) I (uB sizeOf142 (AQ (AQ (AT pH))) bh ce) λcy aj=>(AR ?_);refine lX (xB eK (AQ (AQ (AT pH))) aj) λdk cd=>(A7 ?_);have bg:=(Le.p (Le.refl _) (Le.p (Le.refl _) (Le.p (Le.refl _) (Le.a (AL (k+1)))))).R aj;refine zP (A:=[]) (uB sizeOf142 (AQ (AQ (AQ pH))) bg cd) λbo bi=>(uG ?_);refine An (ι:=Nat×List A2×A4) (λ(q,U,ma)=>(MLe h0 ma/\((A6 A9 (A6 A9 (A6 (BO 2 (AE (k+1))) (BO 2 (AE (k+1)))))).R ma U ((↑i:Int),((↑j:Int),(KJ ps i j q,JQ ps i j q)))/\q<=A1 ps),[(1,vI ↑i),(2,vI ↑j),(6,vP b6 0),(7,vP H 0),(30,vps),(31,vI (↑(A1 (ps)):Int)),(32,vI ↑q)],[.var H 144 U,.var b6 144 bp],ma,A1 ps-q)) (0,bo,h0) ?_ ?_
 · exact⟨AM,bi,O⟩
 rintro⟨q,U,ma⟩ ⟨cw,ab,bl⟩
 refine yO ?_;have dw:=bl;refine Ba (λbn=>?_) λbn=>?_
 ·
  refine AZ ?_;refine lX (xI zT q underlying28 zI rps) λdj cc=>(lX (xA zI cc) λdi cb=>(nA (ρ:=(AD 1)) (X:=zT) yA (yN (zR dC)) λb9 dy bs=>?_));have am:=(AI (k+1)).R bs;refine zP (A:=[]) (uB sizeOf43 pH am (cb.le (AI (k+1)))) λbc aa=>(AN ?_);refine zG 8 _ [] (Ah 0 8 []) zX nX Ac nX (λr hr=>hr) (A7 ?_);refine wK I (λ_ _=>(zM (sz:=3) i underlying43 sizeOf41 I I I O).cv (show _=vP b9 ((i*3+0)) from AJ (vP b9) O)) I (wX I (xB zU (Pc.ta pH i O) aa) λdh ca=>(A7 ?_));refine wK I (λ_ _=>(zM (sz:=3) j underlying43 sizeOf41 I I I O).cv (show _=vP b9 ((j*3+0)) from AJ (vP b9) O)) I (wX I (xB zU (Pc.ta pH j O) aa) λdf bz=>(wX I (xV (ρ:=(BO 2 (AE (k+1)))) (xD (ps':=[(0,_),(1,_)]) underlying142 g5 I I sizeOf41 BR I (lQ 2 (zR O)) (zD I (AO (AA _) (0:Rat) 0 dC) ca (zD I (AO (AA _) (0:Rat) 1 dC) bz zO)))) λbr bx=>(lV (v:=vI (0)) I I I (AN ?_))));refine An (ι:=Nat×List A2×A4) (λ(u,M,mb)=>(MLe ma mb/\((A6 A9 (A6 A9 (A6 (BO 2 (AE (k+1))) (BO 2 (AE (k+1)))))).R mb M ((↑i:Int),((↑j:Int),(NG ps i j q u,ME ps i j q u)))/\u<=2),[(1,vI ↑i),(2,vI ↑j),(6,vP b6 0),(7,vP H 0),(30,vps),(31,vI (↑(A1 (ps)):Int)),(32,vI ↑q),(42,br),(43,vI ↑u)],[.var b9 43 bc,.var H 144 M,.var b6 144 bp],mb,2-u)) (0,U,ma) ?_ ?_
  · exact⟨AM,(Rp.castR ab I),O⟩
  rintro⟨u,M,mb⟩ ⟨cu,C,dv⟩
  refine yO ?_;refine Ba (λbm=>?_) λbm=>?_
  ·
   refine Af ?_;refine nT (F:=λv_=>(AE (k+1)).Is mb v_ ([((A0 ps q zT).at i),((A0 ps q zT).at j)].getD u (0:Rat))) (dR u underlying142 zU (AO (AA _) (0:Rat) u O) I I I I bx.up I O I) rW I ?_;intro de bw;refine nA (ρ:=(AE 1)) (X:=(0:Rat)) yQ (zR dC) λea da bk=>(A7 ?_);have ak:=(AL (k+1)).R bk;refine zP (A:=[]) (uB sizeOf41 pH ak bw) λcq Z=>(A5 ?_);refine qM (A:=[_,_]) 20 [] (Ah 0 5 [(6,.q),(8,.q),(9,.q),(10,.q),(12,.q),(14,.q),(17,.q),(5,.d 7 11),(15,.q),(13,.c),(16,.c),(18,.q),(19,.c)]) zX nX (xU Ac) nX (AF ?_);refine wK I (λ_ _=>(zM (sz:=3) u underlying142 sizeOf41 I I I O).cv (show _=vP H ((1+(1+(u*3+0)))) from AJ (vP H) O)) I (wX I (xB zU pH Z) λdd ay=>(A5 ?_))
   let eX1:=((1+(1+(6+(u*3+0)))))
   refine wK I (λ_ _=>(zM (sz:=3) u underlying142 sizeOf41 I I I O).cv (show _=vP H eX1 from AJ (vP H) O)) I (wX I (xB zU pH Z) λdc ax=>(A5 ?_));refine Zq I I I ?_ ?_
   ·
    refine sX (xB zU (AQ (AQ (AT (AO pH (0:Rat) u O)))) C) λbq ae=>?_;refine⟨?_,?_⟩
    ·
     refine sC (AK I I) call182 (λw hs=>j0 hs ae ay O) λbf h1 ai D=>(sX (xB zU (AQ (AQ (AQ (AO pH (0:Rat) u O)))) C) λbe J=>(wK I (λ_ _=>(zM (sz:=3) u underlying142 sizeOf41 I I I O).cv (show _=vP H ((1+(1+(u*3+0)))) from AJ (vP H) O)) I ?_));refine AB I (sC (AK I I) call183 (λw hs=>j1 hs J ax.up O) λbd h2 ad ac=>?_);refine AB I ?_;replace D:=D.mono ad;refine kB (A:=[_,_]) (uB sizeOf41 (AQ (AQ (AT (AO pH (0:Rat) u O)))) C D) (yP BU) λcp aw=>(wK I (λ_ _=>(zM (sz:=3) u underlying142 sizeOf41 I I I O).cv (show _=vP H eX1 from AJ (vP H) O)) I ?_);refine AB I (kB (A:=[_,_]) (uB sizeOf41 (AQ (AQ (AQ (AO pH (0:Rat) u O)))) aw ac) (yP BU) λbb av=>(Af ?_));refine yE (A:=[]) ?_;refine Ad ((u+1),bb,h2) ?_ ?_
     · exact⟨AM,(Rp.castR av I),O⟩
     omega
    refine sX (xB zU (AQ (AQ (AQ (AO pH (0:Rat) u O)))) C) λbe J=>(sC (AK I I) call182 (λw hs=>j0 hs ae ay O) λbf h1 ai D=>(wK I (λ_ _=>(zM (sz:=3) u underlying142 sizeOf41 I I I O).cv (show _=vP H ((1+(1+(u*3+0)))) from AJ (vP H) O)) I ?_));refine AB I ?_;replace J:=J.mono ai;refine sC (AK I I) call183 (λw hs=>j1 hs J ax.up O) λbd h2 ad ac=>?_;refine AB I ?_;replace D:=D.mono ad;refine kB (A:=[_,_]) (uB sizeOf41 (AQ (AQ (AT (AO pH (0:Rat) u O)))) C D) (yP BU) λco au=>(wK I (λ_ _=>(zM (sz:=3) u underlying142 sizeOf41 I I I O).cv (show _=vP H eX1 from AJ (vP H) O)) I ?_);refine AB I (kB (A:=[_,_]) (uB sizeOf41 (AQ (AQ (AQ (AO pH (0:Rat) u O)))) au ac) (yP BU) λba ar=>(Af ?_));refine yE (A:=[]) ?_;refine Ad ((u+1),ba,h2) ?_ ?_
    · exact⟨AM,(Rp.castR ar I),O⟩
    omega
   refine sX (xB zU (AQ (AQ (AQ (AO pH (0:Rat) u O)))) C) λbe J=>(sX (xB zU (AQ (AQ (AT (AO pH (0:Rat) u O)))) C) λbq ae=>(sC (AK I I) call182 (λw hs=>j0 hs ae ay O) λbf h1 ai D=>(wK I (λ_ _=>(zM (sz:=3) u underlying142 sizeOf41 I I I O).cv (show _=vP H ((1+(1+(u*3+0)))) from AJ (vP H) O)) I ?_)));refine AB I ?_;replace J:=J.mono ai;refine sC (AK I I) call183 (λw hs=>j1 hs J ax.up O) λbd h2 ad ac=>?_;refine AB I ?_;replace D:=D.mono ad;refine kB (A:=[_,_]) (uB sizeOf41 (AQ (AQ (AT (AO pH (0:Rat) u O)))) C D) (yP BU) λcn aq=>(wK I (λ_ _=>(zM (sz:=3) u underlying142 sizeOf41 I I I O).cv (show _=vP H eX1 from AJ (vP H) O)) I ?_);refine AB I (kB (A:=[_,_]) (uB sizeOf41 (AQ (AQ (AQ (AO pH (0:Rat) u O)))) aq ac) (yP BU) λaz ap=>(Af ?_));refine yE (A:=[]) ?_;refine Ad ((u+1),az,h2) ?_ ?_
   · exact⟨AM,(Rp.castR ap I),O⟩
   omega
  have eu:u=2:=by omega
  refine vV ?_;refine yE (A:=[]) ?_;refine Ad ((q+1),M,mb) ?_ ?_
  · exact⟨AM,(Rp.castR C.up (by rw[eu];exact eJ ps i j q)),O⟩
  omega
 have eq:q=A1 ps:=by omega
 refine Af ?_;refine lX (xB QO pH ab) λdb bv=>(zP (A:=[_]) (uB sizeOf144 pH bu bv) λcm ao=>(AN ?_));refine xW (qV (t:=6) QO Ax I ao) ?_;intro ct ah an;refine yI (λE S=>zS I ah E S) ?_;exact(Rp.Is.cast (Rp.Is.le an (Le.p (Le.refl _) (Le.p (Le.refl _) (Le.p (Le.a (AL (k+2))) (Le.a (AL (k+2))))))) (by rw[eq];rfl))
theorem RN{n k:Nat}{vw:A2}{w:(Int×(Int×((List Rat)×(List Rat))))}(rw:(A6 A9 (A6 A9 (A6 (BO 2 (AE n)) (BO 2 (AE n))))).Is h0 vw w){vl:A2}{l:(List Tq)}(rl:(Aq k).Is h0 vl l)(H0:0<=w.1/\w.1<3)(H1:0<=w.2.1/\w.2.1<3)(H2:k<=1000000)(H3:n<=1000000):
 Ae 125 #[vw,vl] w0 h0 (λ_ r=>r=vB (uE w l)):=by
 have cd:=G6 rl;refine B0 58 vw vl func125 hs ?_;refine A5 ?_;refine nB rw λb2 aw Z=>(Af ?_);refine lX (xB B8 (AT pH) Z) λca bi=>?_;obtain⟨rfl,bq,bn⟩:=jV bi;refine A7 ?_;refine lX (xB B8 (AQ (AT pH)) Z) λbz bh=>?_;obtain⟨rfl,bp,bm⟩:=jV bh;refine lX (xV (ρ:=(BO 2 A9)) (xD (ps':=[(0,_),(1,_)]) underlying187 j8 I I sizeOf3 BR I (lQ 2 wT) (zD I (AO (AA _) (0:Int) 0 dC) (vC O O) (zD I (AO (AA _) (0:Int) 1 dC) (vC O O) zO)))) λam bg=>(AF ?_);refine An (ι:=Nat×A4) (λ(u,ma)=>(MLe h0 ma/\(u<=2/\∀v,v<u->F7 w l v (A1 l)/\El w l v (A1 l)),[(1,vl),(2,vP b2 0),(15,am),(16,vI ↑u)],[.var b2 144 aw],ma,2-u)) (0,h0) ?_ ?_
 · exact⟨AM,A3,λv h=>by omega⟩
 rintro⟨u,ma⟩ ⟨H,cb,ap⟩
 refine yO ?_;refine Ba (λav=>?_) λav=>?_
 ·
  obtain⟨aj,D⟩:=kr (w:=w) (u:=u) O O O;refine Af ?_;refine nT (F:=λv_=>A9.Is ma v_ ([w.1,w.2.1].getD u (0:Int))) (dR u underlying187 B8 (AO (AA _) (0:Int) u O) I I I I bg.up I O I) rW I ?_;intro bx bf;obtain⟨rfl,bo,bl⟩:=jV bf;refine Jl ?_;refine gB (ι:=Nat×A4) (λ(q,mb)=>MLe ma mb/\(q<=A1 l)) (λ(q,mb)=>[(1,vl),(2,vP b2 0),(5,vI ↑u),(6,vI ([w.1,w.2.1].getD u (0:Int))),(7,vB (F7 w l u q)),(8,vB (El w l u q)),(15,am),(16,vI ↑u),(20,vl),(21,vI (↑(A1 (l)):Int)),(22,vI ↑q)]) (λ(q,mb)=>[.var b2 144 aw]) (λ(q,mb)=>mb) (λ(q,mb)=>A1 l-q) (0,ma) ?_ ⟨?_,?_,?_,?_,?_,?_,?_,?_,?_,?_,?_,AW⟩ I I ?_
  ·
   refine⟨MLe.refl _,?_⟩;exact O
  · exact I
  · exact I
  · exact I
  · exact I
  · exact AV (yH (vm w l u)).symm
  · exact AV (yH (nf w l u)).symm
  · exact I
  · exact I
  · exact I
  · exact I
  · exact I
  rintro⟨q,mb⟩ ⟨C,cc⟩
  refine yO ?_;refine Ba (λau=>?_) λau=>?_
  ·
   refine AZ ?_;refine lX (xI zT q underlying28 zI rl) λbw be=>(lX (xA zI be) λbv bd=>(nA (ρ:=(AD 1)) (X:=zT) yA (yN (zR dC)) λM bs ao=>?_));have an:=(AI (k+1)).R ao;refine zP (A:=[]) (uB sizeOf43 pH an (bd.le (AI (k+1)))) λbr U=>(AN ?_);refine zG 13 _ [] (Ah 0 9 [(9,.c),(10,.q),(11,.q),(12,.q)]) zX nX (xU Ac) nX (λr hr=>hr) (A5 ?_);refine qC (F7 w l u q) (λac=>?_) (λac=>?_)
   ·
    replace rw:=rw.mono (H.trans C);rw[yU ac];refine Af ?_;refine AB I (bD I I I I (AR ?_));refine zG 13 _ [] (Ah 0 9 [(9,.c),(10,.q),(11,.q),(12,.q)]) zX nX (xU Ac) nX (λr hr=>hr) (A5 ?_);refine qC (El w l u q) (λab=>?_) (λab=>?_)
    ·
     rw[yU ab];refine Af ?_;refine AB I (bD I I I I (vV ?_));refine yE (A:=[]) ?_;refine qL ((q+1),mb) ?_ ?_ ⟨I,I,I,I,?_,?_,I,I,I,I,I,AW⟩ I I
     ·
      refine⟨C,?_⟩;exact O
     ·
      dsimp only;omega
     · first|exact AV (yU (by rw[x9];exact .inl Bl)).symm|exact AV (qQ (MS Bl))
     · first|exact AV (yU (by rw[x6];exact .inl Bl)).symm|exact AV (qQ (Ng Bl))
    rw[yH ab];refine yS I I I (λh' L' hh hR=>xK I) I (yS I I I (λh' L' hh hR=>(zM (sz:=3) (Cm w u) underlying43 sizeOf41 I I (by exact aj) (by exact D)).cv (show _=vP M (((Cm w u)*3+0)) from AJ (vP M) O)) I (oX I (xB zU (Pc.ta pH (Cm w u) (by exact D)) U) λay ai=>(yS I I I (λh' L' hh hR=>xK I) I (A7 ?_))));refine yS I I I (λh' L' hh hR=>(zM (sz:=3) u underlying142 sizeOf41 I I I O).cv (show _=vP b2 ((1+(1+(6+(u*3+0))))) from AJ (vP b2) O)) I (oX I (xB zU (AQ (AQ (AQ (AO pH (0:Rat) u O)))) Z) λax ah=>?_);refine AB I (ES I I (sC (AK I I) call87 (λw hs=>sJ hs ai ah O) λad h1 J ae=>?_));obtain rfl:ad=vI (wA ((A0 l q zT).at (Cm w u)) (A0 w.2.2.2 u (0:Rat))):=ae;have ak:=uJ ((A0 l q zT).at (Cm w u)) (A0 w.2.2.2 u (0:Rat));refine vV ?_;refine yE (A:=[]) ?_;refine qL ((q+1),h1) ?_ ?_ ⟨I,I,I,I,?_,?_,I,I,I,I,I,AW⟩ I I
    ·
     refine⟨(C.trans J),?_⟩;exact O
    ·
     dsimp only;omega
    replace rw:=rw.mono J
    · first|exact AV (yU (by rw[x9];exact .inl Bl)).symm|exact AV (qQ (MS Bl))
    · first|exact AV (yU (by rw[x6];exact .inl Bl)).symm|exact AV (qQ (Ng Bl))
   replace rw:=rw.mono (H.trans C);rw[yH ac];refine yS I I I (λh' L' hh hR=>xK I) I (yS I I I (λh' L' hh hR=>(zM (sz:=3) (Cm w u) underlying43 sizeOf41 I I (by exact aj) (by exact D)).cv (show _=vP M (((Cm w u)*3+0)) from AJ (vP M) O)) I (oX I (xB zU (Pc.ta pH (Cm w u) (by exact D)) U) λbu bc=>(yS I I I (λh' L' hh hR=>xK I) I (A7 ?_))));refine yS I I I (λh' L' hh hR=>(zM (sz:=3) u underlying142 sizeOf41 I I I O).cv (show _=vP b2 ((1+(1+(u*3+0)))) from AJ (vP b2) O)) I (oX I (xB zU (AQ (AQ (AT (AO pH (0:Rat) u O)))) Z) λbt bb=>?_);refine AB I (ES I I (sC (AK I I) call87 (λw hs=>sJ hs bc bb O) λaz h1 J ba=>?_));obtain rfl:az=vI (wA ((A0 l q zT).at (Cm w u)) (A0 w.2.2.1 u (0:Rat))):=ba;have bj:=uJ ((A0 l q zT).at (Cm w u)) (A0 w.2.2.1 u (0:Rat));refine AR ?_;refine zG 13 _ [] (Ah 0 9 [(9,.c),(10,.q),(11,.q),(12,.q)]) zX nX (xU Ac) nX (λr hr=>hr) (A5 ?_);refine qC (El w l u q) (λaa=>?_) (λaa=>?_)
   ·
    replace rw:=rw.mono J;rw[yU aa];refine Af ?_;refine AB I (bD I I I I (vV ?_));refine yE (A:=[]) ?_;refine qL ((q+1),h1) ?_ ?_ ⟨I,I,I,I,?_,?_,I,I,I,I,I,AW⟩ I I
    ·
     refine⟨(C.trans J),?_⟩;exact O
    ·
     dsimp only;omega
    · first|exact AV (yU (by rw[x9];exact .inl Bl)).symm|exact AV (qQ (MS Bl))
    · first|exact AV (yU (by rw[x6];exact .inl Bl)).symm|exact AV (qQ (Ng Bl))
   replace rw:=rw.mono J;rw[yH aa];refine yS I I I (λh' L' hh hR=>xK I) I (yS I I I (λh' L' hh hR=>(zM (sz:=3) (Cm w u) underlying43 sizeOf41 I I (by exact aj) (by exact D)).cv (show _=vP M (((Cm w u)*3+0)) from AJ (vP M) O)) I (oX I (xB zU (Pc.ta pH (Cm w u) (by exact D)) U) λay ai=>(yS I I I (λh' L' hh hR=>xK I) I (A7 ?_))));refine yS I I I (λh' L' hh hR=>(zM (sz:=3) u underlying142 sizeOf41 I I I O).cv (show _=vP b2 ((1+(1+(6+(u*3+0))))) from AJ (vP b2) O)) I (oX I (xB zU (AQ (AQ (AQ (AO pH (0:Rat) u O)))) Z) λax ah=>?_);refine AB I (ES I I (sC (AK I I) call87 (λw hs=>sJ hs ai ah O) λad h2 aq ae=>?_));obtain rfl:ad=vI (wA ((A0 l q zT).at (Cm w u)) (A0 w.2.2.2 u (0:Rat))):=ae;have ak:=uJ ((A0 l q zT).at (Cm w u)) (A0 w.2.2.2 u (0:Rat));refine vV ?_;refine yE (A:=[]) ?_;refine qL ((q+1),h2) ?_ ?_ ⟨I,I,I,I,?_,?_,I,I,I,I,I,AW⟩ I I
   ·
    refine⟨((C.trans J).trans aq),?_⟩;exact O
   ·
    dsimp only;omega
   replace rw:=rw.mono aq
   · first|exact AV (yU (by rw[x9];exact .inl Bl)).symm|exact AV (qQ (MS Bl))
   · first|exact AV (yU (by rw[x6];exact .inl Bl)).symm|exact AV (qQ (Ng Bl))
  have eq:q=A1 l:=by omega
  refine Ak ?_;refine gU 4 56 (vB ((¬(F7 w l u q))\/(¬(El w l u q)))) ?_ ?_
  ·
   refine zY (¬(F7 w l u q)) (λhg=>?_) (λhg=>?_)
   ·
    refine gT hg I (AF ?_);refine Ay ?_;exact AV (vN hg)
   refine gF hg I (AZ ?_);refine Ay ?_;exact AV (vO hg)
  refine BB (λar=>?_) λar=>?_
  ·
   refine uG ?_;refine zC I I ?_;replace rw:=rw.mono (H.trans C);exact(yH (λe=>by have:=e u O;rw[<-eq] at this;grind)).symm
  have bk:F7 w l u q/\El w l u q:=by grind
  refine Af ?_;refine qL ((u+1),mb) ?_ ?_ BR I I
  ·
   refine⟨(H.trans C),?_⟩;replace rw:=rw.mono (H.trans C);exact⟨A3,wZ (Q:=λv=>F7 w l v (A1 l)/\El w l v (A1 l)) ap (by rw[<-eq];exact bk)⟩
  dsimp only;omega
 have eu:u=2:=by omega
 refine uG ?_;refine zC I I ?_;exact(yU (λv hv=>ap v O)).symm
end
end Go.Proofs.YtlpflnindligbaaGreat
namespace Bk
open Go Go.RowKit
open Classical
section
variable {P:D}{n:Nat}{w0:AP}{h0:A4}{e:List (Nat×A2)}{L:List AG}{h:A4}
variable {ds:Option Tmp}{ty:Ab}{ps:String}{af:Array Edge}{gd:Option (Nat×Bool)}
abbrev vM(f:Nat)(first:List A2):A2:=.func (.func f) (Am first) #[]
theorem nq{f:Nat}{xs:List Ag}{vs:List A2}(hvs:pP e xs vs):OpV P n w0 h0 ⟨ds,.makeFunc (.func f) (Am xs) #[],ty,ps,af,gd⟩ e L h (vM f vs):=by
 intro a w C S;have:(Am xs).map a.eval=vs.toArray:=by rw[Ey,C.evals hvs]
 simp[execOp,Instr.makeFunc,this]
theorem T2{x:Ag}{f:Nat}{fs:List A2}{xs:List Ag}{ts:Array Ab}{vs:List A2}(hcall:∀args w,(callFunc f args).run P w=.ok (.enter f args) w)(hx:zK e x=some (vM f fs))(hvs:pP e xs vs):
 Ny P n ⟨ds,.call {callee:=.value x,args:=Am xs,argTypes:=ts},ty,ps,af,gd⟩ e f (Am (fs++vs)):=by
 intro a w D;have C:(Am xs).map a.eval=vs.toArray:=by rw[Ey,D.evals hvs]
 simp only[execOp,resolve,D.eval hx];simp[Deferred.ofValue,invoke,hcall,C]
end
end Bk
namespace Go.Proofs.YtlpflnindligbaaGreat
open Bk Go Tryz
attribute [local irreducible] GL GC GQ W OpV
set_option maxHeartbeats 1000000 in
section
variable{w0:AP}{h0:A4}(hs:MLe h0 (BE w0))
include hs
theorem ki{n:Nat}{vl:A2}{l:(List Tq)}(rl:(Aq 3010).Is h0 vl l){vps:A2}{ps:(List Pq)}(rps:(AS (Aj 100 100)).Is h0 vps ps){vw:A2}{w:(Int×(Int×((List Rat)×(List Rat))))}(rw:(A6 A9 (A6 A9 (A6 (BO 2 (AE n)) (BO 2 (AE n))))).Is h0 vw w)(H0:J0 (uE w) l ps)(H1:A1 ps<=32)(H2:0<=w.1/\w.1<3)(H3:0<=w.2.1/\w.2.1<3)(H4:n<=1000000):
 Calls prog 124 #[vl,vps,vM 125 [vw]] w0 (Bh w0 h0 (λh r=>(C1 3010).Is h r (JH (uE w) l ps))):=by
 have cu:=(H0 0 (Ci _) l (.head _)).2;refine Cs 66 vl vps (vM 125 [vw]) func124 hs ?_;refine tQ ?_;refine Bq (λbr=>?_) λbr=>?_
 ·
  have hz:A1 l=0:=by omega
  refine Af ?_;refine zC I I ?_;exact(Rp.Is.cast (tP _) (by exact(AC hz).symm))
 have hz:¬A1 l=0:=by omega
 refine AR ?_;refine zE (zL (ρ:=(Aq 3010)) (m:=1) (xs:=[l]) (ps':=[(0,_)]) underlying61 fW I I I wC Al (zD I (AO (AA _) [] 0 dC) rl zO) CO nP) I I I ?_
 rintro bw ct ⟨bt,rfl,bl⟩
 refine uF ?_;refine An (ι:=Nat×A2×List A2×A4) (λ(i,C,ab,ma)=>(MLe h0 ma/\(RL (Aq 3010) ma ab (xZ (uE w) l ps i)/\i<=A1 ps),[(2,vM 125 [vw]),(7,C),(20,vps),(21,vI (↑(A1 (ps)):Int)),(22,vI ↑i)],[.gs 28 1 C (A1 (xZ (uE w) l ps i)) ab],ma,A1 ps-i)) (0,bw,bt,h0) ?_ ?_
 · exact⟨AM,bl,O⟩
 rintro⟨i,C,ab,ma⟩ ⟨ay,aw,ai⟩
 refine yO ?_;have cy:=ai;have da:=Vx (W:=uE w) (l:=l) (ps:=ps) (m:=i) O;refine Ba (λbq=>?_) λbq=>?_
 ·
  refine AZ ?_;refine lX (xI (zT,(0:Rat)) i underlying36 qZ rps) λco ce=>(lX (xA qZ ce) λcn cd=>(nA (ρ:=(Aj 1 1)) (X:=(zT,(0:Rat))) uV (zW (yN (zR dC)) (zR dC)) λb9 de bx=>?_));have bi:=(Le.p (AI 100) (AL 100)).R bx;refine zP (A:=[]) (uB sizeOf45 pH bi cd) λam bm=>(uG ?_);refine gv (qR Ax underlying61 I) I (AF ?_);refine yX 28 1 ?_;have bj:=RL.nil (ρ:=AS (AD 37400)) (h:=ma);refine An (ι:=Nat×List (List Tq)×A2×List A2×A4) (λ(j,NX,D,aa,mb)=>(MLe ma mb/\(RL (Aq 37400) mb aa NX/\j<=A1 (xZ (uE w) l ps i)/\NX=sY (uE w) (DW ps i) (xZ (uE w) l ps i) j),[(2,vM 125 [vw]),(9,vP b9 0),(10,D),(20,vps),(21,vI (↑(A1 (ps)):Int)),(22,vI ↑i),(26,C),(27,vI (↑(A1 (xZ (uE w) l ps i)):Int)),(28,vI ↑j)],[.gs 28 1 D (A1 NX) aa,.var b9 45 am,.gs 28 1 C (A1 (xZ (uE w) l ps i)) ab],mb,A1 (xZ (uE w) l ps i)-j)) (0,[],(.slice none 0 0),[],ma) ?_ ?_
  · exact⟨AM,bj,A3,I⟩
  rintro⟨j,NX,D,aa,mb⟩ ⟨bn,ai⟩
  refine yO ?_;replace rw:=rw.mono (ay.trans bn);obtain⟨ae,ai⟩:=ai;obtain⟨cw,hP⟩:=ai;have dd:A1 NX<=2*j:=by rw[hP];exact PK _ _ _
  refine Ba (λbp=>?_) λbp=>?_
  ·
   have cz:=H0.gd (m:=i) (q:=j) O;have db:=b7 (A0 ps i (zT,(0:Rat))) (A0 (xZ (uE w) l ps i) j []);have dc:=rb (A0 ps i (zT,(0:Rat))) (A0 (xZ (uE w) l ps i) j []);refine AZ ?_;refine gv ((yG j C6 underlying61 sizeOf28 I I I bO nP).cv (show _=zH 1 C ((j*1+0)) from AJ (zH 1 C) B5)) I (nT (F:=λv_=>(Aq 3010).Is mb v_ (A0 (xZ (uE w) l ps i) j [])) (xO uN (AO (AA _) [] j bO) I nP I aw.up I) (gH C6) I ?_);intro cm cc;refine AZ ?_;refine lX (xB qZ pH bm) λcl cb=>(cL (AK I I) call185 (λw hs=>jl hs cc cb dC dC dC O) λck h1 au ca=>?_);obtain⟨ap,ad,rfl,Z,M⟩:=ca
   change (Aq (12*3010+3*100+9*100+62)).Is h1 ap (sN (A0 ps i (zT,(0:Rat))) (A0 (xZ (uE w) l ps i) j [])) at Z
   replace Z:=Rp.Is.le Z (Le.s (AI 37382))
   change (Aq (12*3010+3*100+9*100+62)).Is h1 ad (gS (A0 ps i (zT,(0:Rat))) (A0 (xZ (uE w) l ps i) j [])) at M
   replace M:=Rp.Is.le M (Le.s (AI 37382));refine tQ ?_;refine uH (ι:=A4) 5 (λm_=>MLe h1 m_) (λ_=>[(45,vB (((0:Int)<(↑(A1 (sN (A0 ps i (zT,(0:Rat))) (A0 (xZ (uE w) l ps i) j []))):Int))/\(uE w (sN (A0 ps i (zT,(0:Rat))) (A0 (xZ (uE w) l ps i) j []))))),(2,vM 125 [vw]),(9,vP b9 0),(10,D),(20,vps),(21,vI (↑(A1 (ps)):Int)),(22,vI ↑i),(26,C),(27,vI (↑(A1 (xZ (uE w) l ps i)):Int)),(28,vI ↑j),(13,ap),(14,ad)]) (λ_=>[.gs 28 1 D (A1 NX) aa,.var b9 45 am,.gs 28 1 C (A1 (xZ (uE w) l ps i)) ab]) (λm_=>m_) ?_ ?_
   ·
    refine zY ((0:Int)<(↑(A1 (sN (A0 ps i (zT,(0:Rat))) (A0 (xZ (uE w) l ps i) j []))):Int)) (λhg=>?_) (λhg=>?_)
    ·
     refine gT hg I (AR ?_);replace rw:=rw.mono au;refine oJ (T2 (vs:=[_]) call125 I ⟨I,AW⟩) I I I (λw hs=>RN hs rw Z DK DK dC O) ?_;intro bv h2 ao bz;obtain rfl:bv=vB (uE w (sN (A0 ps i (zT,(0:Rat))) (A0 (xZ (uE w) l ps i) j []))):=bz;refine A5 ?_;refine zV h2 ao ⟨?_,I,I,I,I,I,I,I,I,I,I,I,AW⟩ I I;exact AV (xE hg)
    refine gF hg I (AR ?_);refine zV h1 (MLe.refl _) ⟨?_,I,I,I,I,I,I,I,I,I,I,I,AW⟩ I I;exact AV (xG hg)
   intro aj ac;refine fM ?_;refine BB (λak=>?_) λak=>?_
   ·
    have J:0<A1 (sN (A0 ps i (zT,(0:Rat))) (A0 (xZ (uE w) l ps i) j []))/\uE w (sN (A0 ps i (zT,(0:Rat))) (A0 (xZ (uE w) l ps i) j [])):=⟨by have h:=ak.1;omega,ak.2⟩;refine AN ?_;refine zE (zL (ρ:=(Aq 37382)) (m:=1) (xs:=[sN (A0 ps i (zT,(0:Rat))) (A0 (xZ (uE w) l ps i) j [])]) (ps':=[(0,_)]) underlying61 fW I I I wC Al (zD I (AO (AA _) [] 0 dC) Z.up zO) CO nP) I I I ?_
    rintro cj cq ⟨ci,rfl,bk⟩
    refine zQ (A:=[]) (ρ:=(Aq 37382)) bk ?_;intro h2 ao bg;refine yY (A:=[]) (zN (ρ:=(Aq 37400)) (bytes:=24) underlying61 fW I I I I nP I I ae.up (bg.le (Le.s (Le.s (AI 37400)))) bO bO) I I I ?_
    rintro bc cp ⟨az,rfl,ax⟩
    refine AX ?_;refine uH (ι:=A4) 5 (λm_=>MLe h2 m_) (λ_=>[(57,vB (((0:Int)<(↑(A1 (gS (A0 ps i (zT,(0:Rat))) (A0 (xZ (uE w) l ps i) j []))):Int))/\(uE w (gS (A0 ps i (zT,(0:Rat))) (A0 (xZ (uE w) l ps i) j []))))),(2,vM 125 [vw]),(9,vP b9 0),(20,vps),(21,vI (↑(A1 (ps)):Int)),(22,vI ↑i),(26,C),(27,vI (↑(A1 (xZ (uE w) l ps i)):Int)),(28,vI ↑j),(14,ad),(10,bc)]) (λ_=>[.gs 28 1 bc (A1 (NX++[sN (A0 ps i (zT,(0:Rat))) (A0 (xZ (uE w) l ps i) j [])])) az,.var b9 45 am,.gs 28 1 C (A1 (xZ (uE w) l ps i)) ab]) (λm_=>m_) ?_ ?_
    ·
     refine zY ((0:Int)<(↑(A1 (gS (A0 ps i (zT,(0:Rat))) (A0 (xZ (uE w) l ps i) j []))):Int)) (λhg=>?_) (λhg=>?_)
     ·
      refine gT hg I (AR ?_);replace rw:=rw.mono ((au.trans ac).trans ao);refine oJ (T2 (vs:=[_]) call125 I ⟨I,AW⟩) I I I (λw hs=>RN hs rw M.up DK DK dC O) ?_;intro bb h3 bo bh;obtain rfl:bb=vB (uE w (gS (A0 ps i (zT,(0:Rat))) (A0 (xZ (uE w) l ps i) j []))):=bh;refine A5 ?_;refine zV h3 bo ⟨?_,I,I,I,I,I,I,I,I,I,I,AW⟩ I I;exact AV (xE hg)
     refine gF hg I (AR ?_);refine zV h2 (MLe.refl _) ⟨?_,I,I,I,I,I,I,I,I,I,I,AW⟩ I I;exact AV (xG hg)
    intro ah an;refine fM ?_;refine BB (λU=>?_) λU=>?_
    ·
     have H:0<A1 (gS (A0 ps i (zT,(0:Rat))) (A0 (xZ (uE w) l ps i) j []))/\uE w (gS (A0 ps i (zT,(0:Rat))) (A0 (xZ (uE w) l ps i) j [])):=⟨by have h:=U.1;omega,U.2⟩;refine AN ?_;refine zE (zL (ρ:=(Aq 37382)) (m:=1) (xs:=[gS (A0 ps i (zT,(0:Rat))) (A0 (xZ (uE w) l ps i) j [])]) (ps':=[(0,_)]) underlying61 fW I I I wC Al (zD I (AO (AA _) [] 0 dC) M.up zO) CO nP) I I I ?_
     rintro bu cg ⟨bs,rfl,ar⟩
     refine zQ (A:=[]) (ρ:=(Aq 37382)) ar ?_;intro h3 bo bf;refine yY (A:=[]) (zN (ρ:=(Aq 37400)) (bytes:=24) underlying61 fW I I I I nP I I ax.up (bf.le (Le.s (Le.s (AI 37400)))) bO bO) I I I ?_
     rintro ba cf ⟨av,rfl,aq⟩
     refine AX ?_;refine Ad ((j+1),((NX++[sN (A0 ps i (zT,(0:Rat))) (A0 (xZ (uE w) l ps i) j [])])++[gS (A0 ps i (zT,(0:Rat))) (A0 (xZ (uE w) l ps i) j [])]),ba,av,h3) ?_ ?_
     · exact⟨AM,aq,A3,(by first|exact Ov hP J H|exact Nf hP J H|exact Nd hP J H|exact Ow hP J H)⟩
     omega
    have H:¬(0<A1 (gS (A0 ps i (zT,(0:Rat))) (A0 (xZ (uE w) l ps i) j []))/\uE w (gS (A0 ps i (zT,(0:Rat))) (A0 (xZ (uE w) l ps i) j []))):=λe=>U ⟨by have h:=e.1;omega,e.2⟩;refine Af ?_;refine Ad ((j+1),(NX++[sN (A0 ps i (zT,(0:Rat))) (A0 (xZ (uE w) l ps i) j [])]),bc,az,ah) ?_ ?_
    · exact⟨AM,ax.up,A3,(by first|exact Ov hP J H|exact Nf hP J H|exact Nd hP J H|exact Ow hP J H)⟩
    omega
   have J:¬(0<A1 (sN (A0 ps i (zT,(0:Rat))) (A0 (xZ (uE w) l ps i) j []))/\uE w (sN (A0 ps i (zT,(0:Rat))) (A0 (xZ (uE w) l ps i) j []))):=λe=>ak ⟨by have h:=e.1;omega,e.2⟩;refine Af ?_;refine uH (ι:=A4) 5 (λm_=>MLe aj m_) (λ_=>[(57,vB (((0:Int)<(↑(A1 (gS (A0 ps i (zT,(0:Rat))) (A0 (xZ (uE w) l ps i) j []))):Int))/\(uE w (gS (A0 ps i (zT,(0:Rat))) (A0 (xZ (uE w) l ps i) j []))))),(2,vM 125 [vw]),(9,vP b9 0),(10,D),(20,vps),(21,vI (↑(A1 (ps)):Int)),(22,vI ↑i),(26,C),(27,vI (↑(A1 (xZ (uE w) l ps i)):Int)),(28,vI ↑j),(14,ad)]) (λ_=>[.gs 28 1 D (A1 NX) aa,.var b9 45 am,.gs 28 1 C (A1 (xZ (uE w) l ps i)) ab]) (λm_=>m_) ?_ ?_
   ·
    refine zY ((0:Int)<(↑(A1 (gS (A0 ps i (zT,(0:Rat))) (A0 (xZ (uE w) l ps i) j []))):Int)) (λhg=>?_) (λhg=>?_)
    ·
     refine gT hg I (AR ?_);replace rw:=rw.mono (au.trans ac);refine oJ (T2 (vs:=[_]) call125 I ⟨I,AW⟩) I I I (λw hs=>RN hs rw M.up DK DK dC O) ?_;intro bb h2 ao bh;obtain rfl:bb=vB (uE w (gS (A0 ps i (zT,(0:Rat))) (A0 (xZ (uE w) l ps i) j []))):=bh;refine A5 ?_;refine zV h2 ao ⟨?_,I,I,I,I,I,I,I,I,I,I,AW⟩ I I;exact AV (xE hg)
    refine gF hg I (AR ?_);refine zV aj (MLe.refl _) ⟨?_,I,I,I,I,I,I,I,I,I,I,AW⟩ I I;exact AV (xG hg)
   intro ah an;refine fM ?_;refine BB (λU=>?_) λU=>?_
   ·
    have H:0<A1 (gS (A0 ps i (zT,(0:Rat))) (A0 (xZ (uE w) l ps i) j []))/\uE w (gS (A0 ps i (zT,(0:Rat))) (A0 (xZ (uE w) l ps i) j [])):=⟨by have h:=U.1;omega,U.2⟩;refine AN ?_;refine zE (zL (ρ:=(Aq 37382)) (m:=1) (xs:=[gS (A0 ps i (zT,(0:Rat))) (A0 (xZ (uE w) l ps i) j [])]) (ps':=[(0,_)]) underlying61 fW I I I wC Al (zD I (AO (AA _) [] 0 dC) M.up zO) CO nP) I I I ?_
    rintro bu cg ⟨bs,rfl,ar⟩
    refine zQ (A:=[]) (ρ:=(Aq 37382)) ar ?_;intro h2 ao be;refine yY (A:=[]) (zN (ρ:=(Aq 37400)) (bytes:=24) underlying61 fW I I I I nP I I ae.up (be.le (Le.s (Le.s (AI 37400)))) bO bO) I I I ?_
    rintro ba cf ⟨av,rfl,aq⟩
    refine AX ?_;refine Ad ((j+1),(NX++[gS (A0 ps i (zT,(0:Rat))) (A0 (xZ (uE w) l ps i) j [])]),ba,av,h2) ?_ ?_
    · exact⟨AM,aq,A3,(by first|exact Ov hP J H|exact Nf hP J H|exact Nd hP J H|exact Ow hP J H)⟩
    omega
   have H:¬(0<A1 (gS (A0 ps i (zT,(0:Rat))) (A0 (xZ (uE w) l ps i) j []))/\uE w (gS (A0 ps i (zT,(0:Rat))) (A0 (xZ (uE w) l ps i) j []))):=λe=>U ⟨by have h:=e.1;omega,e.2⟩;refine Af ?_;refine Ad ((j+1),NX,D,aa,ah) ?_ ?_
   · exact⟨AM,ae.up,A3,(by first|exact Ov hP J H|exact Nf hP J H|exact Nd hP J H|exact Ow hP J H)⟩
   omega
  have ch:NX=xZ (uE w) l ps (i+1):=by rw[hP,show j=A1 (xZ (uE w) l ps i) by omega];rfl
  subst ch;refine rX ?_;refine yE (A:=[_]) (yE (A:=[_]) ?_);refine Ad ((i+1),D,aa,mb) ?_ ?_
  · exact⟨AM,(su ae.up (λx hx=>(H0 (i+1) O x hx).1)),O⟩
  omega
 have ei:i=A1 ps:=by omega
 refine uF ?_;refine xR (A:=[]) (ρ:=(Aq 3010)) aw.up ?_;intro h1 au bd;refine zC I I ?_;replace rw:=rw.mono (ay.trans au);exact(Rp.Is.cast bd (by rw[ei];exact(A8 hz).symm))
theorem hA{m l k:Nat}{vs:A2}{s:Pq}(rs:(Aj m l).Is h0 vs s){va:A2}{a:Tq}(ra:(AD k).Is h0 va a){vb:A2}{b:Tq}(rb:(AD k).Is h0 vb b)(H0:k<=50000000)(H1:l<=50000000)(H2:m<=50000000):
 Ae 120 #[vs,va,vb] w0 h0 (λh r=>(Aj (4*k+2*m+7) (15*k+6*m+30)).Is h r (NA s a b)):=by
 refine Cs 19 vs va vb func120 hs ?_;refine A5 ?_;refine nB rs λb3 bh ah=>(nB ra λb4 bg ab=>(nB rb λb5 bf ae=>(nA (ρ:=(Aj 2 2)) (X:=(zT,(0:Rat))) uV (zW (yN (zR dC)) (zR dC)) λb6 be ad=>(AN ?_))))
 let eX0:List A2:=Em
 refine zG 7 _ [(6,(7,43,eX0))] [(0,.q),(1,.q),(3,.q),(4,.q),(2,.c),(5,.c),(6,.a),(7,.t)] zX (uY.cons I I (vG yA I I) uY.nil) Ac (vH I I qT) (λr hr=>hr) (wX I (xB zI pH ae) λv8 r8=>(wX I (xB zI pH ab) λv9 r9=>(A7 ?_)));refine wX I (xB zI (AT pH) ah) λaz an=>?_;refine AB I (sC (AK I I) call92 (λw hs=>eR hs r8 r9 O) λba h1 bd J=>?_);replace J:=Rp.Is.le J (AI (2*k+2));refine AB I (sC (AK I I) call180 (λw hs=>Pe hs J an.up O) λay h2 bc H=>?_);replace H:=Rp.Is.le H (AI (4*k+2*m+7));refine CA I I (λb7=>?_);have ac:(AD (4*k+2*m+7)).R h2 eX0 zT:=(yN (zR O));refine yD (A:=[]) I (uB sizeOf43 pH ac H) λap C=>(AN ?_);refine zG 5 _ [] [(0,.q),(1,.q),(2,.q),(3,.c),(4,.q),(5,.t)] zX nX Ac nX (λr hr=>hr) (wX I (xB zI pH C) λax am=>(wX I (xB zI pH C) λaw ak=>(wX I (xB zI pH ab) λav aj=>?_)));refine AB I (sC (AK I I) call84 (λw hs=>mD hs ak aj O) λau h3 bb D=>?_);replace D:=Rp.Is.le D (AL (15*k+6*m+30));refine wX I (xV (ρ:=(Aj (4*k+2*m+7) (15*k+6*m+30))) (xL (ps':=[(0,_),(1,_)]) underlying45 uV I I (fP underlying45) BR I (zW (yN (zR O)) (zR O)) (zD I (AT (AA _)) am.up (zD I (AQ (AA _)) D zO)))) λar ai=>?_;have U:=(Le.p (AI (4*k+2*m+7)) (AL (15*k+6*m+30))).R ad;refine yD (A:=[_]) I (uB sizeOf45 pH U ai) λao aa=>(AN ?_);refine xW (qV (t:=6) qZ Ax I aa) ?_;intro aq M Z;refine yI (λE S=>zS I M E S) ?_;exact Z
theorem Zc{k:Nat}{vl:A2}{l:(List Tq)}(rl:(Aq k).Is h0 vl l)(H0:k<=10000000)(H1:A1 l<=32):
 Ae 81 #[vl] w0 h0 (λh r=>(AD (32*k+110)).Is h r (tS l)):=by
 refine BI 30 vl func81 hs ?_;refine A5 ?_;refine nA (ρ:=(AD 2)) (X:=zT) yA (yN (zR dC)) λb2 bm am=>(AF ?_);refine nA (ρ:=(AD 1)) (X:=zT) yA (yN (zR dC)) λb3 bl aw=>(uG ?_);refine An (ι:=Nat×Nat×List A2×A4) (λ(i,q,D,ma)=>(MLe h0 ma/\((AD q).R ma D (Lq l i)/\i<=A1 l/\q<=(k+3)*i+1),[(0,vl),(2,vP b2 0),(3,vP b3 0),(8,vl),(9,vI (↑(A1 (l)):Int)),(10,vI ↑i)],[.var b3 43 D,.var b2 43 bm],ma,A1 l-i)) (0,1,bl,h0) ?_ ?_
 · exact⟨AM,aw,A3,A3⟩
 rintro⟨i,q,D,ma⟩ ⟨br,C,ce,cd⟩
 refine yO ?_;have be:=Dz (k+3) (show i<=32 by omega);refine Ba (λar=>?_) λar=>?_
 ·
  refine AZ ?_;refine lX (xI zT i underlying28 zI rl) λcc bd=>(lX (xA zI bd) λcb bc=>(nA (ρ:=(AD (k+1))) (X:=zT) yA (yN (zR O)) λb5 ch av=>(zP (A:=[]) (uB sizeOf43 pH av (bc.le (AI (k+1)))) λbk ah=>(AN ?_))));refine lX (xB zI pH C) λca bb=>(lX (xB zI pH ah) λbz ba=>(cL (AK I I) call91 (λw hs=>Lx hs bb ba O) λbx h1 bg aj=>?_));replace aj:=Rp.Is.le aj (AI (k+q+3));have U:=(AI (k+q+3)).R C;refine zP (A:=[_]) (uB sizeOf43 pH U aj) λak ae=>(Af ?_);refine yE (A:=[]) ?_;refine Ad ((i+1),(q+(k+3)),ak,h1) ?_ ?_
  · exact⟨AM,(Rp.castR (Le.R (AI (q+(k+3))) ae) I),A3,by rw[Nat.mul_succ];omega⟩
  omega
 have ei:i=A1 l:=by omega
 have be:=Dz (k+3) (show i<=32 by omega);refine Ak ?_;refine cL (vs:=[vI (1),_]) Al call149 (λw hs=>ib hs O O O O) λbw h1 bg an=>?_;obtain⟨_,rfl,bp,bq,rfl,ao,ap⟩:=an;have bf:=MF (n:=(1:Int)) (d:=(↑(A1 (l)):Int)) O O O O;refine AN ?_;refine nA (ρ:=(AE 2)) (X:=(0:Rat)) yQ (zR dC) λb6 cg au=>(zP (A:=[]) (uB sizeOf41 pH au (oI ⟨_,_,I,ao,ap⟩ O)) λbj ad=>(iY (λaq=>?_) λaq=>?_))
 ·
  have hz:A1 l=0:=by grind
  refine A5 ?_;refine lX (xV (ρ:=(AD 1)) (xD (ps':=[]) underlying43 yA I I sizeOf41 trivial I (yN (zR dC)) zO)) λbv az=>(zP (A:=[_,_]) (uB sizeOf43 pH am (az.le (AI 2))) λbi ac=>(AF ?_));refine xW (qV (t:=2) zI C6 I ac) ?_;intro bo J aa;refine yI (λE S=>zS I J E S) ?_;exact(Rp.Is.cast (Rp.Is.le aa (AI (32*k+110))) (by exact(AC hz).symm))
 have hz:¬A1 l=0:=by grind
 refine AF ?_;refine lX (xB zU pH ad) λbu ay=>(lX (xB zI pH C) λbt ax=>(cL (AK I I) call90 (λw hs=>bJ hs ay ax O) λbs h2 cf ai=>?_));replace ai:=Rp.Is.le ai (AI (q+4));have M:=(AI (q+4)).R am;refine zP (A:=[_,_]) (uB sizeOf43 pH M ai) λbh ab=>(AN ?_);refine xW (qV (t:=2) zI C6 I ab) ?_;intro bn H Z;refine yI (λE S=>zS I H E S) ?_;exact(Rp.Is.cast (Rp.Is.le Z (AI (32*k+110))) (by rw[ei];exact(A8 hz).symm))
theorem hB{m l k:Nat}{vs:A2}{s:Pq}(rs:(Aj m l).Is h0 vs s){vps:A2}{ps:(List Tq)}(rps:(Aq k).Is h0 vps ps)(H0:k<=10000)(H1:l<=10000)(H2:m<=10000):
 Ae 121 #[vs,vps] w0 h0 (λh r=>∃u0,r=.tuple #[u0,vB (¬(A1 ps=0\/s.1=zT))]/\(Aq (4*k+l+4*m+60)).Is h u0 (IM s ps)):=by
 have ke:=G6 rps;have ki:=x7 s.1;refine B0 154 vs vps func121 hs ?_;refine A5 ?_;refine nB rs λb2 bf co=>(vV ?_);refine uH (ι:=A4) 5 (λm_=>MLe h0 m_) (λ_=>[(28,vB (((↑(A1 (ps)):Int)=(0:Int))\/(s.1=zT))),(1,vps),(2,vP b2 0)]) (λ_=>[.var b2 45 bf]) (λm_=>m_) ?_ ?_
 ·
  refine zY ((↑(A1 (ps)):Int)=(0:Int)) (λhg=>?_) (λhg=>?_)
  ·
   refine gT hg I (AR ?_);refine zV h0 (MLe.refl _) ⟨?_,I,I,AW⟩ I I;exact AV (vN hg)
  refine gF hg I (AN ?_);refine lX (xB zI (AT pH) co) λkb gq=>(A7 ?_);refine cL (AU I) call181 (λw hs=>SY hs gq O) λff h1 en go=>?_;obtain rfl:ff=vB (s.1=zT):=go;refine A5 ?_;refine zV h1 en ⟨?_,I,I,AW⟩ I I;exact AV (vO hg)
 intro gr el;refine fM ?_;refine BB (λbd=>?_) λbd=>?_
 ·
  have hz:A1 ps=0\/s.1=zT:=bd.imp (λe=>by omega) id;refine AX ?_;refine wS I I I ?_;refine⟨_,?_,(Rp.Is.cast (tP _) (by exact(AC hz).symm))⟩;rw[yH (λe=>e hz)]
 have hz:¬(A1 ps=0\/s.1=zT):=λe=>bd (e.imp (λe=>by omega) id);have kd:0<A1 ps:=by omega
 refine AR ?_;refine lX (xB zI (AT pH) co) λka gn=>(cL (AU I) call122 (λw hs=>j4 hs gn O) λjz h1 en gm=>?_);obtain rfl:=gm;refine AX ?_;refine zG 26 _ [(22,(8,142,[.bool false,.slice none 0 0,.slice none 0 0,.bool false,.slice none 0 0,.slice none 0 0])),(23,(9,142,[.bool false,.slice none 0 0,.slice none 0 0,.bool false,.slice none 0 0,.slice none 0 0]))] (Ah 0 22 [(22,.a),(23,.a),(24,.c),(25,.c)]) zX (uY.cons I I (vG g5 I I) (uY.cons I I (vG g5 I I) uY.nil)) (xU Ac) (vH I I (vH I I qT)) (λr hr=>hr) (A5 ?_);refine fL (F:=λv_=>C4 (AD k) h1 v_ (A0 ps 0 zT)) I (kW (q:=0) zT 0 underlying28 zI I I rps.up I O nP) rW I ?_;intro jy gk;refine fL (F:=λv_=>C4 (AE k) h1 v_ ((A0 ps 0 zT).at (As s.1))) I (cI (As s.1) underlying43 sizeOf41 (Pc.ta (AA _) (As s.1) (by exact bR _)) I I I gk B5 (by exact bR _) I) rW I ?_;intro jx gj;refine wX I (xA zU gj) λjw gi=>(A5 ?_);refine fL (F:=λv_=>C4 (AD k) h1 v_ (A0 ps 0 zT)) I (kW (q:=0) zT 0 underlying28 zI I I rps.up I O nP) rW I ?_;intro jv gh;refine fL (F:=λv_=>C4 (AE k) h1 v_ ((A0 ps 0 zT).at (At s.1))) I (cI (At s.1) underlying43 sizeOf41 (Pc.ta (AA _) (At s.1) (by exact bQ _)) I I I gh B5 (by exact bQ _) I) rW I ?_;intro ju gg;refine wX I (xA zU gg) λjt gf=>(wX I (xV (ρ:=(BO 2 (AE (k+1)))) (xD (ps':=[(0,_),(1,_)]) underlying142 g5 I I sizeOf41 BR I (lQ 2 (zR O)) (zD I (AO (AA _) (0:Rat) 0 dC) (gi.le (AL (k+1))) (zD I (AO (AA _) (0:Rat) 1 dC) (gf.le (AL (k+1))) zO)))) λjs ge=>(A5 ?_));refine fL (F:=λv_=>C4 (AD k) h1 v_ (A0 ps 0 zT)) I (kW (q:=0) zT 0 underlying28 zI I I rps.up I O nP) rW I ?_;intro jr gc;refine fL (F:=λv_=>C4 (AE k) h1 v_ ((A0 ps 0 zT).at (As s.1))) I (cI (As s.1) underlying43 sizeOf41 (Pc.ta (AA _) (As s.1) (by exact bR _)) I I I gc B5 (by exact bR _) I) rW I ?_;intro jq gb;refine wX I (xA zU gb) λjp ga=>(A5 ?_);refine fL (F:=λv_=>C4 (AD k) h1 v_ (A0 ps 0 zT)) I (kW (q:=0) zT 0 underlying28 zI I I rps.up I O nP) rW I ?_;intro jo fz;refine fL (F:=λv_=>C4 (AE k) h1 v_ ((A0 ps 0 zT).at (At s.1))) I (cI (At s.1) underlying43 sizeOf41 (Pc.ta (AA _) (At s.1) (by exact bQ _)) I I I fz B5 (by exact bQ _) I) rW I ?_;intro jn fy;refine wX I (xA zU fy) λjm fx=>(wX I (xV (ρ:=(BO 2 (AE (k+1)))) (xD (ps':=[(0,_),(1,_)]) underlying142 g5 I I sizeOf41 BR I (lQ 2 (zR O)) (zD I (AO (AA _) (0:Rat) 0 dC) (ga.le (AL (k+1))) (zD I (AO (AA _) (0:Rat) 1 dC) (fx.le (AL (k+1))) zO)))) λjl fw=>?_);refine CA I I (λb8=>?_);have fh:(BO 2 (AE (k+3))).R h1 [.bool false,.slice none 0 0,.slice none 0 0,.bool false,.slice none 0 0,.slice none 0 0] (List.replicate 2 (0:Rat)):=(lQ 2 (zR O));refine CA I I (λb9=>?_);have fg:(BO 2 (AE (k+3))).R h1 [.bool false,.slice none 0 0,.slice none 0 0,.bool false,.slice none 0 0,.slice none 0 0] (List.replicate 2 (0:Rat)):=(lQ 2 (zR O));refine AB I (kB (A:=[_]) (uB sizeOf142 pH fh (ge.le (Le.a (AL (k+3))))) (yP BU) λer df=>?_);refine AB I (kB (A:=[]) (uB sizeOf142 pH fg (fw.le (Le.a (AL (k+3))))) (yP BU) λeq de=>(AZ ?_));refine nT (F:=λv_=>(Aq k).Is h1 v_ (ps.drop 1)) (XB (ρ:=(AD k)) (p:=1) 1 underlying28 sizeOf43 I I rps.up I O) rW I ?_;intro da fv;refine AR ?_;refine An (ι:=Nat×List A2×List A2×A4) (λ(i,ap,ao,ma)=>(MLe h1 ma/\((BO 2 (AE (k+3))).R ma ap (HL s ps i 0)/\(BO 2 (AE (k+3))).R ma ao (HF s ps i 0)/\i+1<=A1 ps),[(2,vP b2 0),(6,vI (↑(As s.1):Int)),(7,vI (↑(At s.1):Int)),(8,vP b8 0),(9,vP b9 0),(58,da),(59,vI (↑(A1 ((ps.drop 1))):Int)),(60,vI ↑i)],[.var b9 142 ao,.var b8 142 ap,.var b2 45 bf],ma,A1 ps-i)) (0,er,eq,h1) ?_ ?_
 · exact⟨AM,(Rp.castR df (d9 s ps).symm),(Rp.castR de (qd s ps).symm),O⟩
 rintro⟨i,ap,ao,ma⟩ ⟨ir,av,au,ba⟩
 refine yO ?_;have kg:=ba;refine Ba (λbc=>?_) λbc=>?_
 ·
  refine AZ ?_;refine lX (xI zT i underlying28 zI fv) λjk fu=>(lX (xA zI fu) λjj ft=>(nA (ρ:=(AD (k+1))) (X:=zT) yA (yN (zR O)) λbg iy dl=>(zP (A:=[]) (uB sizeOf43 pH dl (ft.le (AI (k+1)))) λep az=>(AN ?_))));refine zG 9 _ [] (Ah 0 6 [(8,.q),(6,.c),(7,.c)]) zX nX Ac nX (λr hr=>hr) (A7 ?_);refine wK I (λ_ _=>(zM (sz:=3) (As s.1) underlying43 sizeOf41 I I B5 (by exact bR _)).cv (show _=vP bg (((As s.1)*3+0)) from AJ (vP bg) O)) I (wX I (xB zU (Pc.ta pH (As s.1) (by exact bR _)) az) λji fs=>(A7 ?_));refine wK I (λ_ _=>(zM (sz:=3) (At s.1) underlying43 sizeOf41 I I B5 (by exact bQ _)).cv (show _=vP bg (((At s.1)*3+0)) from AJ (vP bg) O)) I (wX I (xB zU (Pc.ta pH (At s.1) (by exact bQ _)) az) λjh fr=>(lV (v:=vI (0)) I I I ?_));refine AB I (tV (λX=>zL (ρ:=(AE (k+1))) (m:=2) (xs:=[((A0 (ps.drop 1) i zT).at (As s.1)),((A0 (ps.drop 1) i zT).at (At s.1))]) (ps':=[(0,_),(1,_)]) underlying196 yQ I I I (zR O) BR (zD I (AO (AA _) (0:Rat) 0 dC) fs (zD I (AO (AA _) (0:Rat) 1 dC) fr zO)) (show 2*3<=16777216 from by decide) nP) I ?_)
  rintro bh kc ⟨es,rfl,dd⟩
  refine AB I (Oo (λX=>(qR Ar underlying196 I).cv (show _=vI (2:Int) from I)) I (AN ?_));refine An (ι:=Nat×List A2×List A2×A4) (λ(j,aj,ai,mb)=>(MLe ma mb/\((BO 2 (AE (k+3))).R mb aj (HL s ps i j)/\(BO 2 (AE (k+3))).R mb ai (HF s ps i j)/\j<=2),[(2,vP b2 0),(6,vI (↑(As s.1):Int)),(7,vI (↑(At s.1):Int)),(8,vP b8 0),(9,vP b9 0),(58,da),(59,vI (↑(A1 ((ps.drop 1))):Int)),(60,vI ↑i),(70,bh),(71,vI (2:Int)),(72,vI ↑j)],[.gs 41 3 bh [((A0 (ps.drop 1) i zT).at (As s.1)),((A0 (ps.drop 1) i zT).at (At s.1))].length es,.var bg 43 ep,.var b9 142 ai,.var b8 142 aj,.var b2 45 bf],mb,2-j)) (0,ap,ao,ma) ?_ ?_
  · exact⟨AM,av,au,O⟩
  rintro⟨j,aj,ai,mb⟩ ⟨iq,am,ak,ba⟩
  refine yO ?_;have hj:=ba;refine Ba (λeo=>?_) λeo=>?_
  ·
   refine Af ?_;refine gv ((yG j Ar underlying196 sizeOf41 I I I bO nP).cv (show _=zH 1 bh ((j*3+0)) from AJ (zH 1 bh) B5)) I (nT (F:=λv_=>(AE (k+1)).Is mb v_ ([((A0 (ps.drop 1) i zT).at (As s.1)),((A0 (ps.drop 1) i zT).at (At s.1))].getD j (0:Rat))) (xO zU (AO (AA _) (0:Rat) j bO) I nP I dd.up I) (gH Ar) I ?_);intro jg fq;refine nA (ρ:=(AE (k+1))) (X:=(0:Rat)) yQ (zR O) λkl ix dk=>(A7 ?_);refine zP (A:=[]) (uB sizeOf41 pH dk fq) λhb ay=>(A5 ?_);refine zG 13 _ [] ((0,.q)::(1,.p)::Ah 2 4 (Ah 7 4 [(6,.c),(12,.q),(11,.c),(13,.t),(14,.t),(15,.t)])) zX nX (xU Ac) nX (λr hr=>hr) (A7 ?_);refine L5 (⟨.inl I,I⟩) I I (A7 ?_);refine wK I (λ_ _=>(zM (sz:=3) j underlying142 sizeOf41 I I I O).cv (show _=vP b8 ((j*3+0)) from AJ (vP b8) O)) I (wX I (xB zU (AO pH (0:Rat) j O) am) λjf fp=>(wX I (xB zU pH ay) λje fo=>(A7 ?_)));refine wK I (λ_ _=>(zM (sz:=3) j underlying142 sizeOf41 I I I O).cv (show _=vP b9 ((j*3+0)) from AJ (vP b9) O)) I (wX I (xB zU (AO pH (0:Rat) j O) ak) λjc fl=>(wX I (xB zU pH ay) λjb fk=>?_));refine AB I (sC (AK I I) call182 (λw hs=>j0 hs fp (fo.le (AL (k+3))) O) λjd h2 gw fm=>(wK I (λ_ _=>(zM (sz:=3) j underlying142 sizeOf41 I I I O).cv (show _=vP b8 ((j*3+0)) from AJ (vP b8) O)) I ?_));refine AB I (sC (AK I I) call183 (λw hs=>j1 hs fl.up (fk.up.le (AL (k+3))) O) λja h3 bv fj=>(yD (A:=[_,_,_,_]) I (uB sizeOf41 (AO pH (0:Rat) j O) am fm) λcw cn=>(nW I ((zM (sz:=3) j underlying142 sizeOf41 I I I O).cv (show _=vP b9 ((j*3+0)) from AJ (vP b9) O)) I (yD (A:=[_,_,_]) I (uB sizeOf41 (AO pH (0:Rat) j O) ak fj) λcu cm=>(Af ?_)))));refine yE (A:=[]) ?_;refine Ad ((j+1),cw,cu,h3) ?_ ?_
   · exact⟨AM,(Rp.castR cn (i7 s ps i O)),(Rp.castR cm (rd s ps i O)),O⟩
   omega
  refine vV ?_;refine yE (A:=[]) (yE (A:=[]) ?_);refine Ad ((i+1),aj,ai,mb) ?_ ?_
  · exact⟨AM,(Rp.castR am.up (by rw[show j=2 by omega];rfl)),(Rp.castR ak.up (by rw[show j=2 by omega];rfl)),(by have h:=bc;simp only[Cn] at h;omega)⟩
  omega
 have ei:i+1=A1 ps:=by have h:=bc;simp only[Cn] at h;omega
 refine Af ?_;refine cL (vs:=[vI (1)]) ⟨I,AW⟩ call89 (λw hs=>bK hs dC dC) λiz h2 gw fi=>(nA (ρ:=(AE 2)) (X:=(0:Rat)) yQ (zR dC) λeu iw dj=>(zP (A:=[]) (uB sizeOf41 pH dj fi) λbe ae=>(A5 ?_)));refine jD (ι:=Rat×Rat×Rat×Rat×List A2×List A2×A4) (λ(x,y,u,v,H,D,mc)=>MLe h2 mc/\((BO 2 (AE (k+9))).R mc H [x,y]/\(BO 2 (AE (k+9))).R mc D [u,v]/\QQ s x y u v=IM s ps)) (λ(x,y,u,v,H,D,mc)=>[(2,vP b2 0),(8,vP b8 0),(9,vP b9 0)]) (λ(x,y,u,v,H,D,mc)=>[.var eu 41 be,.var b9 142 D,.var b8 142 H,.var b2 45 bf]) (λ(x,y,u,v,H,D,mc)=>mc) ?_ ?_
 ·
  refine AZ ?_;refine fC (A5 ?_);refine gv (OpV.tr dC (yW (q:=2) I I)) I (fJ ?_);refine zG 13 _ [] ((0,.q)::(1,.p)::Ah 2 4 (Ah 7 4 [(6,.c),(12,.q),(11,.c),(13,.t),(14,.t),(15,.t)])) zX nX (xU Ac) nX (λr hr=>hr) (A7 ?_);refine L5 (⟨.inl I,I⟩) I I (A5 ?_);refine wX I (xB zU (AO pH (0:Rat) 0 dC) av) λfe bu=>(wX I (xB zU pH ae) λfc bs=>(A5 ?_));refine wX I (xB zU (AO pH (0:Rat) 0 dC) au) λez bq=>(wX I (xB zU pH ae) λew bo=>?_);refine AB I (sC (AK I I) call83 (λw hs=>jM hs bu bs O) λbm h3 bv aa=>?_)
  change (AE ((k+3)+2+1)).Is h3 bm ((A0 (HL s ps i 0) 0 (0:Rat))-(((1:Int):Int):Rat)) at aa
  replace aa:=Rp.Is.le aa (AL (k+6));refine A7 ?_;refine AB I (sC (AK I I) call156 (λw hs=>rO hs bq.up bo.up O) λbk h4 em U=>?_)
  change (AE ((k+3)+2+1)).Is h4 bk ((A0 (HF s ps i 0) 0 (0:Rat))+(((1:Int):Int):Rat)) at U
  replace U:=Rp.Is.le U (AL (k+6));have cb:=(Le.a (AL (k+6))).R av;refine yD (A:=[_,_]) I (uB sizeOf41 (AO pH (0:Rat) 0 dC) cb aa) λha ax=>(nW I ((zM (sz:=3) 0 underlying142 sizeOf41 I I I dC).cv (show _=vP b9 0 from AJ (vP b9) B5)) I ?_);have ca:=(Le.a (AL (k+6))).R au;refine yD (A:=[_]) I (uB sizeOf41 (AO pH (0:Rat) 0 dC) ca U) λgz aw=>(AF ?_);refine gv ((yF (q:=1) I I O O).cv (show _=vI (1) from I)) I (A5 ?_);refine wJ (A5 ?_);refine gv (OpV.tr dC (yW (q:=2) I I)) I (fJ ?_);refine zG 13 _ [] ((0,.q)::(1,.p)::Ah 2 4 (Ah 7 4 [(6,.c),(12,.q),(11,.c),(13,.t),(14,.t),(15,.t)])) zX nX (xU Ac) nX (λr hr=>hr) (A7 ?_);refine L5 (⟨.inl I,I⟩) I I (A5 ?_);refine wX I (xB zU (AO pH (0:Rat) 1 dC) ax) λfd bt=>(wX I (xB zU pH ae) λfb br=>(A5 ?_));refine wX I (xB zU (AO pH (0:Rat) 1 dC) aw) λey bp=>(wX I (xB zU pH ae) λev bn=>?_);refine AB I (sC (AK I I) call83 (λw hs=>jM hs bt br O) λbl h5 gu Z=>?_)
  change (AE ((k+6)+2+1)).Is h5 bl ((A0 ((HL s ps i 0).set 0 ((A0 (HL s ps i 0) 0 (0:Rat))-(((1:Int):Int):Rat))) 1 (0:Rat))-(((1:Int):Int):Rat)) at Z
  replace Z:=Rp.Is.le Z (AL (k+9));refine A7 ?_;refine AB I (sC (AK I I) call156 (λw hs=>rO hs bp.up bn.up O) λbj h6 gt M=>?_)
  change (AE ((k+6)+2+1)).Is h6 bj ((A0 ((HF s ps i 0).set 0 ((A0 (HF s ps i 0) 0 (0:Rat))+(((1:Int):Int):Rat))) 1 (0:Rat))+(((1:Int):Int):Rat)) at M
  replace M:=Rp.Is.le M (AL (k+9));have bz:=(Le.a (AL (k+9))).R ax;refine yD (A:=[_,_]) I (uB sizeOf41 (AO pH (0:Rat) 1 dC) bz Z) λct cl=>(nW I ((zM (sz:=3) 1 underlying142 sizeOf41 I I I dC).cv (show _=vP b9 3 from AJ (vP b9) B5)) I ?_);have bx:=(Le.a (AL (k+9))).R aw;refine yD (A:=[_]) I (uB sizeOf41 (AO pH (0:Rat) 1 dC) bx M) λcq ck=>(AF ?_);refine gv ((yF (q:=1) I I O O).cv (show _=vI (2) from I)) I (A5 ?_);refine wJ (A5 ?_);refine gv (OpV.fa dC (yW (q:=2) I I)) I (AX ?_);refine zV (((ET s ps (i+1)).x-((1:Int):Rat)),((ET s ps (i+1)).y-((1:Int):Rat)),((ED s ps (i+1)).x+((1:Int):Rat)),((ED s ps (i+1)).y+((1:Int):Rat)),ct,cq,h6) ?_ EQ I I;refine⟨(((bv.trans em).trans gu).trans gt),?_⟩;refine⟨(Rp.castR cl I),(Rp.castR ck I),?_⟩;exact(by rw[ei];exact(A8 hz).symm)
 rintro⟨x,y,u,v,H,D,mc⟩ ⟨ip,bb⟩
 refine yO ?_;obtain⟨ad,ac,bb⟩:=bb;refine Ak ?_;refine lX (xB zU (AO pH (0:Rat) 0 dC) ad) λij ek=>(A7 ?_);refine lX (xB zU (AO pH (0:Rat) 1 dC) ad) λii eh=>(lX (xV (ρ:=(AE 1)) (xL (ps':=[]) underlying41 yQ I I (vW underlying41) trivial I (zR dC) zO)) λih eg=>(lX (xV (ρ:=(AD (k+9))) (xD (ps':=[(0,_),(1,_),(2,_)]) underlying43 yA I I sizeOf41 e6 I (yN (zR O)) (zD I (BL (AA _)) ek (zD I (BC (AA _)) eh (zD I (Bi (AA _)) (eg.le (AL (k+9))) zO))))) λig ef=>(A7 ?_)));refine lX (xB zU (AO pH (0:Rat) 0 dC) ac) λie ee=>(A7 ?_);refine lX (xB zU (AO pH (0:Rat) 1 dC) ad) λic ed=>(lX (xV (ρ:=(AE 1)) (xL (ps':=[]) underlying41 yQ I I (vW underlying41) trivial I (zR dC) zO)) λib ec=>(lX (xV (ρ:=(AD (k+9))) (xD (ps':=[(0,_),(1,_),(2,_)]) underlying43 yA I I sizeOf41 e6 I (yN (zR O)) (zD I (BL (AA _)) ee (zD I (BC (AA _)) ed (zD I (Bi (AA _)) (ec.le (AL (k+9))) zO))))) λia eb=>(A7 ?_)));refine lX (xB zU (AO pH (0:Rat) 0 dC) ac) λhw ea=>(A7 ?_);refine lX (xB zU (AO pH (0:Rat) 1 dC) ac) λhv dz=>(lX (xV (ρ:=(AE 1)) (xL (ps':=[]) underlying41 yQ I I (vW underlying41) trivial I (zR dC) zO)) λhu dy=>(lX (xV (ρ:=(AD (k+9))) (xD (ps':=[(0,_),(1,_),(2,_)]) underlying43 yA I I sizeOf41 e6 I (yN (zR O)) (zD I (BL (AA _)) ea (zD I (BC (AA _)) dz (zD I (Bi (AA _)) (dy.le (AL (k+9))) zO))))) λht dx=>(A7 ?_)));refine lX (xB zU (AO pH (0:Rat) 0 dC) ad) λhq dw=>(A7 ?_);refine lX (xB zU (AO pH (0:Rat) 1 dC) ac) λhp dv=>(lX (xV (ρ:=(AE 1)) (xL (ps':=[]) underlying41 yQ I I (vW underlying41) trivial I (zR dC) zO)) λho du=>(lX (xV (ρ:=(AD (k+9))) (xD (ps':=[(0,_),(1,_),(2,_)]) underlying43 yA I I sizeOf41 e6 I (yN (zR O)) (zD I (BL (AA _)) dw (zD I (BC (AA _)) dv (zD I (Bi (AA _)) (du.le (AL (k+9))) zO))))) λhn dt=>(zE (zL (ρ:=(AD (k+9))) (m:=4) (xs:=[(T3.mk ([x,y].getD 0 (0:Rat)) ([x,y].getD 1 (0:Rat)) (0:Rat)),(T3.mk ([u,v].getD 0 (0:Rat)) ([x,y].getD 1 (0:Rat)) (0:Rat)),(T3.mk ([u,v].getD 0 (0:Rat)) ([u,v].getD 1 (0:Rat)) (0:Rat)),(T3.mk ([x,y].getD 0 (0:Rat)) ([u,v].getD 1 (0:Rat)) (0:Rat))]) (ps':=[(0,_),(1,_),(2,_),(3,_)]) underlying28 yA I I I (yN (zR O)) e8 (zD I (AO (AA _) zT 0 dC) ef (zD I (AO (AA _) zT 1 dC) eb (zD I (AO (AA _) zT 2 dC) dx (zD I (AO (AA _) zT 3 dC) dt zO)))) Zw nP) I I I ?_)))
 rintro dc im ⟨cz,rfl,ch⟩
 refine gv ((qR Ar underlying28 I).cv (show _=vI (4:Int) from I)) I (AF ?_);refine yX 43 9 ?_;have ce:=RL.nil (ρ:=Bd (AE (4*k+l+4*m+60))) (h:=mc);refine An (ι:=Nat×A2×List A2×A2×List A2×A4) (λ(j,C,ah,ab,an,md)=>(MLe mc md/\(RL (AD (k+9)) md ah (HG x y u v)/\RL (AD (4*k+l+4*m+60)) md an (LV s (HG x y u v) j)/\j<=4),[(2,vP b2 0),(16,ab),(136,C),(137,vI (4:Int)),(138,vI ↑j)],[.gs 43 9 ab (A1 (LV s (HG x y u v) j)) an,.gs 43 9 C (A1 (HG x y u v)) ah,.var eu 41 be,.var b9 142 D,.var b8 142 H,.var b2 45 bf],md,4-j)) (0,dc,cz,(.slice none 0 0),[],mc) ?_ ?_
 · exact⟨AM,ch,ce,O⟩
 rintro⟨j,C,ah,ab,an,md⟩ ⟨io,ar,aq,hj⟩
 refine yO ?_;have kf:=U8 s (HG x y u v) j;have kh:A1 (HG x y u v)=4:=I;refine Ba (λcp=>?_) λcp=>?_
 ·
  refine AZ ?_;refine gv ((yG j Ax underlying28 sizeOf43 I I I bO nP).cv (show _=zH 1 C ((j*9+0)) from AJ (zH 1 C) B5)) I (nT (F:=λv_=>(AD (k+9)).Is md v_ (A0 (HG x y u v) j zT)) (xO zI (AO (AA _) zT j bO) I nP I ar I) (gH Ax) I ?_);intro hm dr;refine nA (ρ:=(AD (k+3))) (X:=zT) yA (yN (zR O)) λkk iv di=>?_;have bw:=(AI (k+9)).R di;refine zP (A:=[]) (uB sizeOf43 pH bw dr) λgy cj=>(AF ?_);refine lX (xB qZ pH co) λhl dq=>(lX (xB zI pH cj) λhk dp=>(cL (AK I I) call184 (λw hs=>ug hs dq dp O O O) λhf h3 bv dn=>?_));obtain⟨bi,rfl,J⟩:=dn
  change (AD (4*(k+9)+l+4*m+9)).Is h3 bi (bF s (A0 (HG x y u v) j zT)) at J
  replace J:=Rp.Is.le J (AI (4*k+l+4*m+45));refine AN ?_;refine nA (ρ:=(AD (4*k+l+4*m+60))) (X:=zT) yA (yN (zR O)) λkj iu dh=>(zP (A:=[]) (uB sizeOf43 pH dh (J.le (AI (4*k+l+4*m+60)))) λgx ci=>(AR ?_));refine lX (xB zI pH ci) λhe dm=>(zE (zL (ρ:=(AD (4*k+l+4*m+60))) (m:=1) (xs:=[bF s (A0 (HG x y u v) j zT)]) (ps':=[(0,_)]) underlying28 yA I I I (yN (zR O)) Al (zD I (AO (AA _) zT 0 dC) dm zO) Dm nP) I I I ?_)
  rintro hd il ⟨hc,rfl,cg⟩
  refine zQ (A:=[]) (ρ:=(AD (4*k+l+4*m+60))) cg ?_;intro h4 em cd;refine yY (A:=[_,_]) (zN (ρ:=(AD (4*k+l+4*m+60))) (bytes:=168) underlying28 yA I I I I nP I I aq.up cd bO bO) I I I ?_
  rintro db ik ⟨cy,rfl,cf⟩
  refine AX ?_;refine yE (A:=[]) (yE (A:=[]) ?_);refine Ad ((j+1),C,ah,db,cy,h4) ?_ ?_
  · exact⟨AM,ar.up,cf,O⟩
  omega
 have ej:j=4:=by omega
 refine tQ ?_;refine xR (A:=[]) (ρ:=(AD (4*k+l+4*m+60))) aq.up ?_;intro h3 bv cc;refine wS I I I ?_;refine⟨_,?_,(Rp.Is.cast cc (by rw[ej];exact bb))⟩;rw[yU hz]
end
set_option maxHeartbeats 2000000 in
theorem ZY{w0:AP}{h0:A4}(hs:MLe h0 (BE w0)){k m n j:Nat}{vs:A2}{s:Sq}(rs:(BT k m n j).Is h0 vs s){vf:A2}{f:(Pq×((List (List Int))×(List Nat)))}(rf:(BP m n).Is h0 vf f){vps:A2}{ps:(List Pq)}(rps:(AS (Aj 100 100)).Is h0 vps ps)(H0:∀u v,u<A1 f.2.1->v<A1 (A0 f.2.1 u [])->0<=A0 (A0 f.2.1 u []) v 0/\A0 (A0 f.2.1 u []) v 0<A1 s.1)(H1:A1 s.1<=100000)(H2:∀u,u<A1 f.2.1->A1 (A0 f.2.1 u [])<=10000)(H3:A1 f.2.1<=1000)(H4:k<=2)(H5:m<=2)(H6:n<=2)(H7:nS f.1 (wG s.1 f.2.1 (A1 f.2.1)) ps):
 Ae 61 #[vs,vf,vps] w0 h0 (λh r=>(AS (A6 (Aq 3010) (A6 (Aj (m+2) (n+2)) wQ))).Is h r (fZ f.1 f.2.2 (wG s.1 f.2.1 (A1 f.2.1)) ps)):=by
 have gk:A1 (wG s.1 f.2.1 (A1 f.2.1))=A1 f.2.1:=xN _ _;have ha:=H7.len;have ek:=H7.2.2;have hc:=bR f.1.1;have hb:=bQ f.1.1;have go:0<A1 (pG (wG s.1 f.2.1 (A1 f.2.1)) (A1 (wG s.1 f.2.1 (A1 f.2.1)))):=Cu H7.1.1;have ao:∀u,u<A1 (wG s.1 f.2.1 (A1 f.2.1))->A1 (A0 (wG s.1 f.2.1 (A1 f.2.1)) u [])<=28:=λu hu=>H7.one hu;have dv:∀u,u<=A1 (wG s.1 f.2.1 (A1 f.2.1))->A1 (pG (wG s.1 f.2.1 (A1 f.2.1)) u)<=28:=λu hu=>H7.sub hu;refine Cs 112 vs vf vps func61 hs ?_;refine A5 ?_;refine nB rs λb3 bt da=>(nB rf λb4 bs ae=>(AR ?_));refine lX (xB jG pH da) λfx dt=>(lX (xB tT pH ae) λfw dr=>(cL (AK I I) call117 (λw hs=>dW hs dt dr DK DK DK DK) λah h1 gx cj=>(X6 ?_)));refine yX 43 9 ?_;have bz:=RL.nil (ρ:=Bd (AE (k+3))) (h:=h1);refine yX 45 12 ?_;have bx:=RL.nil (ρ:=A6 (AD 100) (AE 100)) (h:=h1);refine An (ι:=Nat×A2×List A2×A2×List A2×A4) (λ(u,ai,aq,ac,ad,ma)=>(MLe h1 ma/\(RL (AD (k+3)) ma aq (pG (wG s.1 f.2.1 (A1 f.2.1)) u)/\RL (Aj 100 100) ma ad (Hj f.1 (wG s.1 f.2.1 (A1 f.2.1)) u)/\u<=A1 (wG s.1 f.2.1 (A1 f.2.1))),[(2,vps),(4,vP b4 0),(7,ah),(8,ai),(9,ac),(26,ah),(27,vI (↑(A1 (wG s.1 f.2.1 (A1 f.2.1))):Int)),(28,vI ↑u)],[.gs 45 12 ac (A1 (Hj f.1 (wG s.1 f.2.1 (A1 f.2.1)) u)) ad,.gs 43 9 ai (A1 (pG (wG s.1 f.2.1 (A1 f.2.1)) u)) aq,.var b4 53 bs,.var b3 32 bt],ma,A1 (wG s.1 f.2.1 (A1 f.2.1))-u)) (0,(.slice none 0 0),[],(.slice none 0 0),[],h1) ?_ ?_
 · exact⟨AM,bz,bx,O⟩
 rintro⟨u,ai,aq,ac,ad,ma⟩ ⟨en,aw,av,ap⟩
 refine yO ?_;have du:=ap;have gn:=dv u du;have gi:=RM (pl:=f.1) (L:=(wG s.1 f.2.1 (A1 f.2.1))) u;refine Ba (λcp=>?_) λcp=>?_
 ·
  have gj:=ao u O;refine AZ ?_;refine lX (xI [] u underlying61 uN cj) λfv dq=>(lX (xA uN dq) λbv ar=>(Af ?_));refine yY (A:=[_]) (zN (ρ:=(AD (k+3))) (bytes:=168) underlying28 yA I I I I nP I I aw (ar.le (Le.s (AI (k+3)))) bO bO) I I I ?_
  rintro cz ge ⟨ct,rfl,cf⟩
  refine uG ?_;refine An (ι:=Nat×A2×List A2×A2×List A2×A4) (λ(v,Z,D,H,U,mb)=>(MLe ma mb/\(RL (AD (k+3)) mb D (pG (wG s.1 f.2.1 (A1 f.2.1)) (u+1))/\RL (Aj 100 100) mb U (JJ f.1 (A0 (wG s.1 f.2.1 (A1 f.2.1)) u []) (Hj f.1 (wG s.1 f.2.1 (A1 f.2.1)) u) v)/\v<=A1 (A0 (wG s.1 f.2.1 (A1 f.2.1)) u [])),[(2,vps),(4,vP b4 0),(7,ah),(8,Z),(9,H),(11,bv),(26,ah),(27,vI (↑(A1 (wG s.1 f.2.1 (A1 f.2.1))):Int)),(28,vI ↑u),(35,bv),(36,vI (↑(A1 ((A0 (wG s.1 f.2.1 (A1 f.2.1)) u []))):Int)),(37,vI ↑v)],[.gs 45 12 H (A1 (JJ f.1 (A0 (wG s.1 f.2.1 (A1 f.2.1)) u []) (Hj f.1 (wG s.1 f.2.1 (A1 f.2.1)) u) v)) U,.gs 43 9 Z (A1 (pG (wG s.1 f.2.1 (A1 f.2.1)) (u+1))) D,.var b4 53 bs,.var b3 32 bt],mb,A1 (A0 (wG s.1 f.2.1 (A1 f.2.1)) u [])-v)) (0,cz,ct,ac,ad,ma) ?_ ?_
  · exact⟨AM,cf,av,O⟩
  rintro⟨v,Z,D,H,U,mb⟩ ⟨em,am,ak,ap⟩
  refine yO ?_;have gh:=ap;have gg:=Rd f.1 (A0 (wG s.1 f.2.1 (A1 f.2.1)) u []) (Hj f.1 (wG s.1 f.2.1 (A1 f.2.1)) u) v;refine Ba (λco=>?_) λco=>?_
  ·
   refine Af ?_;refine lX (xI zT v underlying28 zI ar) λfu dp=>(lX (xA zI dp) λft dn=>(nA (ρ:=(AD 1)) (X:=zT) yA (yN (zR dC)) λhd fa ch=>(A7 ?_)));have bb:=(AI (k+1)).R ch;refine zP (A:=[]) (uB sizeOf43 pH bb dn) λeb bl=>(A5 ?_);refine qM (A:=[_]) 16 [] (Ah 0 12 [(12,.c),(13,.c),(14,.c),(15,.q)]) zX nX (xU Ac) nX (A5 ?_);refine wX I (xB qZ (AT pH) ae) λfs dm=>(wX I (xB zI pH bl) λfr dl=>(AF ?_));refine B3 I (λh' L' hh hR=>jK underlying28 I (ar.up.mono hh)) I (wK I (λ_ _=>wI I I O O) I (wX I (xI zT ((v+1)%A1 (A0 (wG s.1 f.2.1 (A1 f.2.1)) u [])) underlying28 zI ar (hi:=by exact BQ _ O)) λfq dk=>(wX I (xA zI dk) λfp dj=>?_)));refine AB I (sC (BM I I I) call120 (λw hs=>hA hs dm dl dj O O O) λcy h2 dy an=>?_);replace an:=Rp.Is.le an (Le.p (AI (4*k+2*m+11)) (AL (15*k+6*m+45)));replace an:(Aj 100 100).Is h2 cy (NA f.1 (A0 (A0 (wG s.1 f.2.1 (A1 f.2.1)) u []) v zT) (A0 (A0 (wG s.1 f.2.1 (A1 f.2.1)) u []) ((v+1)%A1 (A0 (wG s.1 f.2.1 (A1 f.2.1)) u [])) zT)):=(an.le (Le.p (Le.t (Le.q O)) (Le.q O)));refine AB I (tV (λX=>zL (ρ:=(Aj 100 100)) (m:=1) (xs:=[NA f.1 (A0 (A0 (wG s.1 f.2.1 (A1 f.2.1)) u []) v zT) (A0 (A0 (wG s.1 f.2.1 (A1 f.2.1)) u []) ((v+1)%A1 (A0 (wG s.1 f.2.1 (A1 f.2.1)) u [])) zT)]) (ps':=[(0,_)]) underlying36 uV I I I (zW (yN (zR dC)) (zR dC)) Al (zD I (AO (AA _) (zT,(0:Rat)) 0 dC) an zO) SS nP) I ?_)
   rintro fo gc ⟨ey,rfl,ce⟩
   refine AB I (vX (A:=[]) (ρ:=(Aj 100 100)) ce dK ?_);intro h3 dx bg;refine kP (A:=[_]) (λX=>zN (ρ:=(Aj 100 100)) (bytes:=224) underlying36 uV I I I I nP I I ak.up bg bO bO) I (yP BU) ?_
   rintro cw gb ⟨cq,rfl,cd⟩
   refine AX ?_;refine yE (A:=[]) ?_;refine Ad ((v+1),Z,D,cw,cq,h3) ?_ ?_
   · exact⟨AM,am.up,cd,O⟩
   omega
  have ev:v=A1 (A0 (wG s.1 f.2.1 (A1 f.2.1)) u []):=by omega
  subst ev;refine vV ?_;refine Ad ((u+1),Z,D,H,U,mb) ?_ ?_
  · exact⟨AM,am.up,ak.up,O⟩
  omega
 have eu:u=A1 (wG s.1 f.2.1 (A1 f.2.1)):=by omega
 subst eu;refine AX ?_;refine lX (xB qZ (AT pH) ae) λfm di=>(A7 ?_);refine zQ (A:=[_]) (ρ:=(AD (k+3))) aw ?_;intro h2 dy aj;refine cL (AK I I) call121 (λw hs=>hB hs di.up aj O O O) λfl h3 dx dh=>?_;obtain⟨ay,rfl,J⟩:=dh
 change (Aq (4*(k+3)+n+4*m+60)).Is h3 ay (IM f.1 (pG (wG s.1 f.2.1 (A1 f.2.1)) (A1 (wG s.1 f.2.1 (A1 f.2.1))))) at J
 replace J:=Rp.Is.le J (Le.s (AI (4*k+4*m+n+72)));refine fJ ?_;refine Bq (λax=>?_) λax=>?_
 · exact absurd (λh=>h.elim H7.1.1 H7.1.2) ax
 refine AZ ?_;refine lX (xB zI (AT (AT pH)) ae) λfk df=>(cL (AU I) call122 (λw hs=>j4 hs df O) λfj h4 gw de=>?_);obtain rfl:=de;refine uF ?_;refine cL (BM I I I) call123 (λw hs=>io (i:=(As f.1.1)) (j:=(At f.1.1)) hs aj.up O O O O) λfi h5 gu bo=>?_;replace bo:=Rp.Is.le bo (Le.p (Le.refl _) (Le.p (Le.refl _) (Le.p (Le.a (AL (k+5))) (Le.a (AL (k+5))))));refine nA (ρ:=(A6 A9 (A6 A9 (A6 (BO 2 (AE 1)) (BO 2 (AE 1)))))) (X:=((0:Int),((0:Int),((List.replicate 2 (0:Rat)),(List.replicate 2 (0:Rat)))))) O8 (zW wT (zW wT (zW (lQ 2 (zR dC)) (lQ 2 (zR dC))))) λed ez cg=>?_;have ba:=(Le.p (Le.refl _) (Le.p (Le.refl _) (Le.p (Le.a (AL (k+5))) (Le.a (AL (k+5)))))).R cg;refine zP (A:=[]) (uB sizeOf144 pH ba bo) λbr bk=>(AF ?_);refine zE (zL (ρ:=(Aj 1 1)) (m:=0) (xs:=([]:List Pq)) (ps':=[]) underlying36 uV I I I (zW (yN (zR dC)) (zR dC)) trivial zO (show 0*12<=16777216 from by decide) nP) I I I ?_
 rintro fh ga ⟨ew,rfl,cc⟩
 refine A7 ?_;have az:=(Le.p (AI 100) (AL 100)).rl cc;refine yY (A:=[]) (zN (ρ:=(Aj 100 100)) (bytes:=224) underlying36 uV I I I I nP I I az rps.up bO bO) I I I ?_
 rintro fg fz ⟨es,rfl,cb⟩
 refine A7 ?_;refine zQ (A:=[_,_]) (ρ:=(Aj 100 100)) av.up ?_;intro h6 gt bf;refine yY (A:=[]) (zN (ρ:=(Aj 100 100)) (bytes:=224) underlying36 uV I I I I nP I I cb.up bf bO bO) I I I ?_
 rintro ff fy ⟨er,rfl,ca⟩
 refine tQ ?_;refine lX (xB QO pH bk) λfe dd=>(gv (nq (f:=125) (vs:=[_]) ⟨I,AW⟩) I (zQ (A:=[]) (ρ:=(Aj 100 100)) ca ?_));intro h7 gr be;refine cL (BM I I I) call124 (λw hs=>ki hs (J.up.le (Le.s (AI 3010))) be dd.up (by first|omega|exact H7.2.1|(show(A1 (F6 f.1 (wG s.1 f.2.1 (A1 f.2.1)) ps))<=32;omega)|(show(0:Int)<=((As f.1.1:Nat):Int)/\((As f.1.1:Nat):Int)<3;omega)|(show(0:Int)<=((At f.1.1:Nat):Int)/\((At f.1.1:Nat):Int)<3;omega)) (by first|omega|exact H7.2.1|(show(A1 (F6 f.1 (wG s.1 f.2.1 (A1 f.2.1)) ps))<=32;omega)|(show(0:Int)<=((As f.1.1:Nat):Int)/\((As f.1.1:Nat):Int)<3;omega)|(show(0:Int)<=((At f.1.1:Nat):Int)/\((At f.1.1:Nat):Int)<3;omega)) (by first|omega|exact H7.2.1|(show(A1 (F6 f.1 (wG s.1 f.2.1 (A1 f.2.1)) ps))<=32;omega)|(show(0:Int)<=((As f.1.1:Nat):Int)/\((As f.1.1:Nat):Int)<3;omega)|(show(0:Int)<=((At f.1.1:Nat):Int)/\((At f.1.1:Nat):Int)<3;omega)) (by first|omega|exact H7.2.1|(show(A1 (F6 f.1 (wG s.1 f.2.1 (A1 f.2.1)) ps))<=32;omega)|(show(0:Int)<=((As f.1.1:Nat):Int)/\((As f.1.1:Nat):Int)<3;omega)|(show(0:Int)<=((At f.1.1:Nat):Int)/\((At f.1.1:Nat):Int)<3;omega)) O) λcv h8 gq bn=>?_;replace bn:=Rp.Is.cast (y:=(aX (uE (lT f.1 (wG s.1 f.2.1 (A1 f.2.1)))) f.1 (wG s.1 f.2.1 (A1 f.2.1)) ps)) bn B5;refine AR ?_;refine yX 57 14 ?_;have bh:=RL.nil (ρ:=A6 (Aq 3010) (A6 (Aj (m+2) (n+2)) wQ)) (h:=h8);refine An (ι:=Nat×List ((List Tq)×(Pq×(List Nat)))×A2×List A2×A4) (λ(q,OU,C,M,mc)=>(MLe h8 mc/\(RL (A6 (Aq 3010) (A6 (Aj (m+2) (n+2)) wQ)) mc M OU/\q<=A1 (aX (uE (lT f.1 (wG s.1 f.2.1 (A1 f.2.1)))) f.1 (wG s.1 f.2.1 (A1 f.2.1)) ps)/\OU=Gc f.1 f.2.2 (wG s.1 f.2.1 (A1 f.2.1)) (aX (uE (lT f.1 (wG s.1 f.2.1 (A1 f.2.1)))) f.1 (wG s.1 f.2.1 (A1 f.2.1)) ps) q),[(4,vP b4 0),(7,ah),(16,vI (↑(As f.1.1):Int)),(17,vI (↑(At f.1.1):Int)),(20,C),(88,cv),(89,vI (↑(A1 ((aX (uE (lT f.1 (wG s.1 f.2.1 (A1 f.2.1)))) f.1 (wG s.1 f.2.1 (A1 f.2.1)) ps))):Int)),(90,vI ↑q)],[.gs 57 14 C (A1 OU) M,.var ed 144 br,.var b4 53 bs,.var b3 32 bt],mc,A1 (aX (uE (lT f.1 (wG s.1 f.2.1 (A1 f.2.1)))) f.1 (wG s.1 f.2.1 (A1 f.2.1)) ps)-q)) (0,[],(.slice none 0 0),[],h8) ?_ ?_
 · exact⟨AM,bh,A3,I⟩
 rintro⟨q,OU,C,M,mc⟩ ⟨el,aa,gm,au⟩
 refine yO ?_;have gz:=H7.cnt (W:=uE (lT f.1 (wG s.1 f.2.1 (A1 f.2.1))));have gy:A1 OU<=q:=by rw[au];exact Nu f.1 f.2.2 (wG s.1 f.2.1 (A1 f.2.1)) (aX (uE (lT f.1 (wG s.1 f.2.1 (A1 f.2.1)))) f.1 (wG s.1 f.2.1 (A1 f.2.1)) ps) q
 refine Ba (λcn=>?_) λcn=>?_
 ·
  have gf:=H7.2.1.prt _ (kX (l:=(aX (uE (lT f.1 (wG s.1 f.2.1 (A1 f.2.1)))) f.1 (wG s.1 f.2.1 (A1 f.2.1)) ps)) (d:=[]) (i:=q) O);refine AZ ?_;refine lX (xI [] q underlying61 uN bn) λfd dc=>(lX (xA uN dc) λfc ci=>(Af ?_));refine cL (AU I) call81 (λw hs=>Zc hs ci dC O) λfb h9 dw bm=>?_;replace bm:=Rp.Is.le bm (AI 96430);refine A5 ?_;refine cL (IL I I I I) call126 (λw hs=>Uy (i:=(As f.1.1)) (j:=(At f.1.1)) hs (cj.up.le (Le.s (Le.s (AI (k+96430))))) (bm.le (AI (k+96430))) (by first|omega|exactλx hx=>Ao (t8 ao hx) dC) (by first|omega|exactλx hx=>Ao (t8 ao hx) dC) O (by first|omega|exactλx hx=>Ao (t8 ao hx) dC) (by first|omega|exactλx hx=>Ao (t8 ao hx) dC)) λcu ea ep db=>?_;obtain rfl:cu=vI (Hi (wG s.1 f.2.1 (A1 f.2.1)) (pr (tS (A0 (aX (uE (lT f.1 (wG s.1 f.2.1 (A1 f.2.1)))) f.1 (wG s.1 f.2.1 (A1 f.2.1)) ps) q [])) (As f.1.1) (At f.1.1)) (As f.1.1) (At f.1.1)):=db;refine B4 (λab=>?_) λab=>?_
  ·
   have bp:Gp f.1 (wG s.1 f.2.1 (A1 f.2.1)) (A0 (aX (uE (lT f.1 (wG s.1 f.2.1 (A1 f.2.1)))) f.1 (wG s.1 f.2.1 (A1 f.2.1)) ps) q []):=ab;refine AF ?_;refine lX (xB qZ (AT pH) ae) λeh cm=>(A7 ?_);refine lX (xB Hd (AQ (AQ pH)) ae) λeg cl=>?_;obtain⟨rfl,bq⟩:=tJ cl;refine lX (xV (ρ:=(A6 (Aq 3010) (A6 (Aj (m+1) (n+1)) wQ))) (xL (ps':=[(0,_),(1,_),(2,_)]) underlying57 y6 I I (a1 underlying57) e6 I (zW wC (zW (zW (yN (zR O)) (zR O)) jQ)) (zD I (AT (AA _)) ci.up (zD I (AQ (AT (AA _))) (cm.le (Le.p (AI (m+1)) (AL (n+1)))) (zD I (AQ (AQ (AA _))) (fV bq) zO))))) λef ck=>(zE (zL (ρ:=(A6 (Aq 3010) (A6 (Aj (m+1) (n+1)) wQ))) (m:=1) (xs:=[((A0 (aX (uE (lT f.1 (wG s.1 f.2.1 (A1 f.2.1)))) f.1 (wG s.1 f.2.1 (A1 f.2.1)) ps) q []),(f.1,f.2.2))]) (ps':=[(0,_)]) underlying48 y6 I I I (zW wC (zW (zW (yN (zR O)) (zR O)) jQ)) Al (zD I (AO (AA _) CN 0 dC) ck zO) IY nP) I I I ?_)
   rintro ee ej ⟨ec,rfl,bj⟩
   refine zQ (A:=[]) (ρ:=(A6 (Aq 3010) (A6 (Aj (m+1) (n+1)) wQ))) bj ?_;intro dz eo bd;refine yY (A:=[]) (zN (ρ:=(A6 (Aq 3010) (A6 (Aj (m+2) (n+2)) wQ))) (bytes:=264) underlying48 y6 I I I I nP I I aa.up (bd.le (Le.s (Le.p (Le.refl _) (Le.p (Le.p (AI (m+2)) (AL (n+2))) (Le.refl _))))) bO bO) I I I ?_
   rintro bw ei ⟨bu,rfl,bi⟩
   refine AX ?_;refine Ad ((q+1),(OU++[((A0 (aX (uE (lT f.1 (wG s.1 f.2.1 (A1 f.2.1)))) f.1 (wG s.1 f.2.1 (A1 f.2.1)) ps) q []),(f.1,f.2.2))]),bw,bu,dz) ?_ ?_
   · exact⟨AM,bi,A3,by rw[au];exact kn bp⟩
   omega
  have bp:¬Gp f.1 (wG s.1 f.2.1 (A1 f.2.1)) (A0 (aX (uE (lT f.1 (wG s.1 f.2.1 (A1 f.2.1)))) f.1 (wG s.1 f.2.1 (A1 f.2.1)) ps) q []):=ab;refine Af ?_;refine Ad ((q+1),OU,C,M,ea) ?_ ?_
  · exact⟨AM,aa.up,A3,by rw[au];exact l8 bp⟩
  omega
 have eq:q=A1 (aX (uE (lT f.1 (wG s.1 f.2.1 (A1 f.2.1)))) f.1 (wG s.1 f.2.1 (A1 f.2.1)) ps):=by omega
 refine uF ?_;refine xR (A:=[]) (ρ:=(A6 (Aq 3010) (A6 (Aj (m+2) (n+2)) wQ))) aa.up ?_;intro h9 dw bc;refine zC I I ?_;exact(Rp.Is.cast bc (by rw[au,eq];rfl))
end Go.Proofs.YtlpflnindligbaaGreat
namespace Bk
open Go Go.RowKit
open Classical
section
variable {P:D}{n:Nat}{w0:AP}{h0:A4}{e:List (Nat×A2)}{L:List AG}{h:A4}{Q:BH->Av->AP->Prop}
variable {ds:Option Tmp}{ty:Ab}{ps:String}{af:Array Edge}{gd:Option (Nat×Bool)}
abbrev s5(b:List Nat):A2:=.string (uR b)
def Hy(es:Array MapEntry)(S:List (List Nat)):Prop:=es.toList.map (λx=>(x.key,x.val))=S.map (λu=>(s5 u,A2.bool true))/\∀u,u∈S->BK u
theorem qy:Hy #[] []:=⟨rfl,λu h=>absurd h Bv⟩
structure Ks(P:D)(mt kt et:Ab):Prop where
 m:P.underlying mt=some (.map kt et)
 k:P.underlying kt=some .string
 z:∀w,(zeroValue et).run P w=.ok (.bool false) w
variable {mt kt et:Ab}
theorem eG(T:Ks P mt kt et)(em:Bool)(u:List Nat)(w:AP):(Instr.checkKey em 10000 kt (s5 u)).run P w=.ok () w:=by
 rw[show(10000:Nat)=9999+1 from I,Instr.checkKey];simp only[Sem.run_bind,run_underlying T.k,Result.andThen_ok]
 rfl
theorem ZB(a b:ByteArray):(a==b)=decide (a=b):=by
 show(a.data==b.data)=decide (a=b)
 rw[He,beq_iff_eq,CE];exact⟨ByteArray.ext,AJ _⟩
theorem Xl{u:List Nat}(hu:BK u):∀(es:List MapEntry) (S:List (List Nat)) (i:Nat),es.map (λx=>(x.key,x.val))=S.map (λu=>(s5 u,A2.bool true))->(∀v,v∈S->BK v)->
 (u∈S->∃j,Instr.findNow .string (s5 u) es i=some (some (j,.bool true)))/\(u ∉ S->Instr.findNow .string (s5 u) es i=some none)
 |[],S,i,hm,_=>by
  have:S=[]:=by simpa using hm.symm
  subst this;exact⟨λh=>absurd h Bv,λ_=>I⟩
 |x::es,S,i,hm,hb=>by
  match S,hm,hb with
  |v::S,hm,hb=>
   simp only[Dx,List.cons.injEq,Prod.mk.injEq] at hm;obtain⟨⟨M,J⟩,hm⟩:=hm;have H:=Xl hu es S (i+1) hm λz hz=>hb z (FV _ hz);have hi:=Sx hu (hb v LB);unfold Instr.findNow;rw[M,J]
   by_cases huv:u=v
   · have D:Instr.sameNow .string (s5 u) (s5 v)=some true:=by
      subst huv
      show some (uR u==uR u)=some true
      rw[ZB];simp
     rw[D];exact⟨λ_=>⟨i,I⟩,λh=>absurd (huv▸LB) h⟩
   · have D:Instr.sameNow .string (s5 u) (s5 v)=some false:=by
      have C:uR u≠uR v:=λe=>huv (hi.1 e)
      show some (uR u==uR v)=some false
      rw[ZB];simpa using C
     rw[D];exact⟨λh=>H.1 ((BY.1 h).resolve_left huv),λh=>H.2 λe=>h (FV _ e)⟩
theorem Wo(T:Ks P mt kt et){u:List Nat}(hu:BK u)(w:AP){es:Array MapEntry}{S:List (List Nat)}(hm:Hy es S):
 (u∈S->∃j,(Instr.findKey kt (s5 u) es.toList).run P w=.ok (some (j,.bool true)) w)/\(u ∉ S->(Instr.findKey kt (s5 u) es.toList).run P w=.ok none w):=by
 have C:=Xl hu es.toList S 0 hm.1 hm.2;unfold Instr.findKey;simp only[Sem.run_bind,run_underlying T.k,Result.andThen_ok];constructor
 · intro h
   obtain⟨j,D⟩:=C.1 h;exact⟨j,by rw[D];rfl⟩
 · intro h
   rw[C.2 h];rfl
theorem rh{x y:Ag}{b clock:Nat}{es:Array MapEntry}{S:List (List Nat)}{u:List Nat}(T:Ks P mt kt et)(hu:BK u)(hm:.blk b (.map es clock)∈L)(hx:zK e x=some (.map (some b)))(hy:zK e y=some (s5 u))(r:Hy es S):
 OpV P n w0 h0 ⟨ds,.lookup mt x y false,ty,ps,af,gd⟩ e L h (vB (u∈S)):=by
 intro a w H St;have C:w.heap[b]?=some (.map es clock):=St.ok _ hm;have D:=Wo T hu w r;simp only[execOp,H.eval hx,H.eval hy,Instr.lookup];simp only[Sem.run_bind,run_underlying T.m,Result.andThen_ok,sW C,eG T]
 by_cases hu:u∈S
 · obtain⟨j,J⟩:=D.1 hu
   rw[yU hu];simp[Sem.run_bind,J,sW C,eG T]
 · rw[yH hu]
   simp[Sem.run_bind,D.2 hu,sW C,eG T,T.z]
theorem dp{ops:Array AY}{rest:List AY}{A B:List AG}{x y z:Ag}{b clock:Nat}{es:Array MapEntry}{S:List (List Nat)}{u:List Nat}(T:Ks P mt kt et)(hbu:BK u)(hx:zK e x=some (.map (some b)))(hy:zK e y=some (s5 u))(hz:zK e z=some (.bool true))(r:Hy es S)(hu:u ∉ S)
    (k:∀es',Hy es' (S++[u])->GL P n w0 h0 ops Q rest e (A++.blk b (.map es' (clock+1))::B) h):GL P n w0 h0 ops Q (⟨none,.mapUpdate mt x y z,ty,ps,af,none⟩::rest) e (A++.blk b (.map es clock)::B) h:=by
 have hm:Hy (es.push {key:=s5 u,val:=.bool true,born:=clock}) (S++[u]):=by
  refine⟨?_,λv C=>?_⟩
  · simp[r.1]
  · rcases Cy.1 C with C|C
    · exact r.2 v C
    · rw[DP.1 C];exact hbu
 have D:EH P n w0 h0 ⟨none,.mapUpdate mt x y z,ty,ps,af,none⟩ e A (.blk b (.map es clock)) B h (.blk b (.map (es.push {key:=s5 u,val:=.bool true,born:=clock}) (clock+1))):=by
  intro a w Z St;have U:w.heap[b]?=some (.map es clock):=St.ok (.blk b (.map es clock)) B9;have hf:=(Wo T hbu w r).2 hu;refine⟨{w with heap:=D9 w.heap b (.map (es.push {key:=s5 u,val:=.bool true,born:=clock}) (clock+1))},?_,?_,?_⟩
  · simp only[execOp,Z.eval hx,Z.eval hy,Z.eval hz,Instr.mapUpdate]
    simp[Sem.run_bind,run_underlying T.m,sW U,eG T,hf,an _ U]
  · refine⟨I,I,I,B9,λb' aa H=>?_⟩
    have M:b'≠b:=λe=>H (by simp[AG.fp,e]);simp[Ne.symm M]
  · have J:b<w.heap.size:=(Eo.1 U).1
    show(D9 w.heap b _)[b]?=_
    simp[J]
 exact xY D I I I (k _ hm)
end
end Bk
namespace Go.Proofs.YtlpflnindligbaaGreat
open Bk Go Tryz
attribute [local irreducible] GL GC GQ W OpV
section
variable{w0:AP}{h0:A4}(hs:MLe h0 (BE w0))
include hs
theorem vE{k:Nat}{va:A2}{a:Rat}(ra:(AE k).Is h0 va a)(H0:k<=10000000000):Ae 107 #[va] w0 h0 (λh r=>(AE k).Is h r (-a)):=by
 obtain⟨H,J,rfl,C,D,M⟩:=uL ra;have h1:=wW a;have h2:=wO a;exact(hQ hs C D O O).mono (kC λh r x=>oI x (by have:=z5 a;omega))
theorem XF{k:Nat}{va:A2}{a:Rat}(ra:(AE k).Is h0 va a)(H0:k<=10000000000):Ae 86 #[va] w0 h0 (λh r=>(AE k).Is h r ((rJ a))):=by
 obtain⟨H,J,rfl,C,D,M⟩:=uL ra;have h1:=wW a;have h2:=wO a;exact(cv hs C D O O).mono (kC λh r x=>oI x (by have:=QM a;omega))
theorem eU{k:Nat}{va:A2}{a:Rat}(ra:(AE k).Is h0 va a)(H0:k<=1000):Ae 108 #[va] w0 h0 (λh r=>wQ.Is h r (qF a)):=by
 obtain⟨H,J,rfl,C,D,M⟩:=uL ra;exact(sy hs C D O).mono (kC λh r x=>x▸fV (XK a))
theorem b5{m n:Nat}{vs:A2}{s:Pq}(rs:(Aj m n).Is h0 vs s)(H0:m<=10000000)(H1:n<=10000000):
 Ae 106 #[vs] w0 h0 (λh r=>(Aj (4*m+10) (m+n+10)).Is h r (Bc s)):=by
 refine BI 36 vs func106 hs ?_;refine A5 ?_;refine nB rs λb1 bf H=>(nA (ρ:=(Aj 1 1)) (X:=(zT,(0:Rat))) uV (zW (yN (zR dC)) (zR dC)) λb2 be ak=>(Ak ?_));refine An (ι:=Nat×A4) (λ(i,ma)=>(MLe h0 ma/\(i<=3/\∀u,u<i->yK (s.1.at u)=0),[(1,vP b1 0),(2,vP b2 0),(6,vI ↑i)],[.var b2 45 be,.var b1 45 bf],ma,3-i)) (0,h0) ?_ ?_
 · exact⟨AM,A3,λu h=>by omega⟩
 rintro⟨i,ma⟩ ⟨bh,ca,BA⟩
 refine yO ?_;refine Ba (λbd=>?_) λbd=>?_
 ·
  refine rX ?_;refine gv ((zM (sz:=3) i underlying43 sizeOf41 I I I O).cv (show _=vP b1 ((i*3+0)) from AJ (vP b1) O)) I (lX (xB zU (AT (Pc.ta pH i O)) H) λbz bb=>(cL (AU I) call85 (λw hs=>kV hs bb O) λam h1 cg ba=>?_));obtain rfl:am=vI (yK (s.1.at i)):=ba;have bc:=yZ (s.1.at i);refine B4 (λD=>?_) λD=>?_
  ·
   refine AX ?_;refine Ad ((i+1),h1) ?_ ?_
   · exact⟨AM,A3,wZ (Q:=λu=>yK (s.1.at u)=0) BA D⟩
   omega
  refine AN ?_;refine zG 13 _ [(10,(4,41,[.bool false,.slice none 0 0,.slice none 0 0]))] (Ah 1 4 [(0,.c),(5,.c),(6,.c),(7,.q),(8,.q),(9,.q),(10,.a),(11,.c),(12,.q)]) zX (uY.cons I I (vG yQ I I) uY.nil) (xU Ac) (vH I I qT) (λr hr=>hr) (A5 ?_);refine wK I (λ_ _=>(zM (sz:=3) i underlying43 sizeOf41 I I I O).cv (show _=vP b1 ((i*3+0)) from AJ (vP b1) O)) I (wX I (xB zU (AT (Pc.ta pH i O)) H) λbw ay=>?_);refine AB I (sC (vs:=[vI (1)]) ⟨I,AW⟩ call89 (λw hs=>bK hs dC dC) λbx h2 cf az=>?_);refine AB I (sC (AU I) call86 (λw hs=>XF hs ay.up O) λbv h3 ce ax=>?_);refine AB I (sC (AK I I) call82 (λw hs=>oF hs az.up ax O) λbu h4 cd aw=>?_);obtain⟨U,rfl,C⟩:=aw
  change (AE (2+m)).Is h4 U (if(rJ (s.1.at i))=0 then 0 else(((1:Int):Int):Rat)/(rJ (s.1.at i))) at C
  replace C:=Rp.Is.le C (AL (m+2));refine AN ?_;refine CA I I (λb4=>?_);have an:(AE 1).R h4 [.bool false,.slice none 0 0,.slice none 0 0] (0:Rat):=(zR dC);refine AB I ?_;have ah:=(AL (m+2)).R an;refine kB (A:=[]) (uB sizeOf41 pH ah C) (yP BU) λbk M=>(AF ?_);refine zG 9 _ [] [(0,.q),(1,.q),(2,.q),(4,.q),(5,.q),(6,.q),(3,.c),(7,.c),(8,.q),(9,.t)] zX nX Ac nX (λr hr=>hr) (wX I (xB zU pH M) λbt av=>(A7 ?_));refine wX I (xB zI (AT pH) H) λbs au=>(wX I (xB zU pH M) λbq ar=>(A7 ?_));refine wX I (xB zU (AQ pH) H) λbp aq=>?_;refine AB I (sC (AK I I) call90 (λw hs=>bJ hs av au O) λbr h5 cc ac=>?_);replace ac:=Rp.Is.le ac (AI (2*m+4));refine AB I (sC (AK I I) call157 (λw hs=>jN hs ar.up aq.up O) λbo h6 cb ab=>?_);replace ab:=Rp.Is.le ab (AL (m+n+2));refine wX I (xV (ρ:=(Aj (2*m+4) (m+n+2))) (xL (ps':=[(0,_),(1,_)]) underlying45 uV I I (fP underlying45) BR I (zW (yN (zR O)) (zR O)) (zD I (AT (AA _)) ac.up (zD I (AQ (AA _)) ab zO)))) λbn ap=>?_;have ae:=(Le.p (AI (2*m+4)) (AL (m+n+2))).R ak;refine yD (A:=[_]) I (uB sizeOf45 pH ae ap) λbj aj=>(AX ?_);refine xW (qV (t:=2) qZ Ax I aj) ?_;intro bl ad ai;refine yI (λE S=>zS I ad E S) ?_;exact(Rp.Is.cast (Rp.Is.le ai (Le.p (AI (4*m+10)) (AL (m+n+10)))) (by exact YG O BA D))
 have ei:i=3:=by omega
 refine Af ?_;refine lX (xV (ρ:=(Aj 1 1)) (xL (ps':=[]) underlying45 uV I I (fP underlying45) trivial I (zW (yN (zR dC)) (zR dC)) zO)) λbm ao=>(zP (A:=[]) (uB sizeOf45 pH ak ao) λbi aa=>(AN ?_));refine xW (qV (t:=2) qZ Ar I aa) ?_;intro bg J Z;refine yI (λE S=>zS I J E S) ?_;exact(Rp.Is.cast (Rp.Is.le Z (Le.p (AI (4*m+10)) (AL (m+n+10)))) (by exact UE λu hu=>BA u O))
theorem o9{m n:Nat}{vs:A2}{s:Pq}(rs:(Aj m n).Is h0 vs s)(H0:m<=1000000)(H1:n<=1000000):
 Ae 51 #[vs] w0 h0 (λh r=>(Aj (4*m+14) (m+n+14)).Is h r (kM s)):=by
 refine BI 29 vs func51 hs ?_;refine A5 ?_;refine nB rs λb1 cc ap=>(nA (ρ:=(Aj 1 1)) (X:=(zT,(0:Rat))) uV (zW (yN (zR dC)) (zR dC)) λb2 bh am=>(AF ?_));refine lX (xB qZ pH ap) λv4 r4=>(cL (AU I) call106 (λw hs=>b5 hs r4 O O) λv5 h1 cb r5=>?_);have ac:=(Le.p (AI (4*m+10)) (AL (m+n+10))).R ap;refine zP (A:=[_]) (uB sizeOf45 pH ac r5) λao C=>(Ak ?_);refine An (ι:=Nat×A4) (λ(i,ma)=>(MLe h1 ma/\(i<=3/\∀u,u<i->yK ((Bc s).1.at u)=0),[(1,vP b1 0),(2,vP b2 0),(6,vI ↑i)],[.var b2 45 bh,.var b1 45 ao],ma,3-i)) (0,h1) ?_ ?_
 · exact⟨AM,A3,λu h=>by omega⟩
 rintro⟨i,ma⟩ ⟨bl,bv,BA⟩
 refine yO ?_;refine Ba (λbd=>?_) λbd=>?_
 ·
  refine fJ ?_;refine gv ((zM (sz:=3) i underlying43 sizeOf41 I I I O).cv (show _=vP b1 ((i*3+0)) from AJ (vP b1) O)) I (lX (xB zU (AT (Pc.ta pH i O)) C) λbu bb=>(cL (AU I) call85 (λw hs=>kV hs bb O) λaq h2 ca ba=>?_));obtain rfl:aq=vI (yK (((Bc s).1).at i)):=ba;have bc:=yZ (((Bc s).1).at i);refine Bj (λU=>?_) λU=>?_
  ·
   refine A5 ?_;refine lX (xB qZ pH C) λbt az=>?_;have ab:=(Le.p (AI (4*m+10)) (AL (m+n+10))).R am;refine zP (A:=[]) (uB sizeOf45 pH ab az) λbg ak=>(Ak ?_);refine xW (qV (t:=2) qZ Ar I ak) ?_;intro bk J ah;refine yI (λE S=>zS I J E S) ?_;exact(Rp.Is.cast (Rp.Is.le ah (Le.p (AI (4*m+14)) (AL (m+n+14)))) (by exact X0 O BA U))
  refine Ba (λM=>?_) λM=>?_
  ·
   refine A7 ?_;refine zG 8 _ [] [(1,.q),(2,.q),(4,.q),(5,.q),(0,.c),(3,.c),(6,.c),(7,.q),(8,.t)] zX nX Ac nX (λr hr=>hr) (A7 ?_);refine wX I (xB zI (AT pH) C) λbr ax=>(A7 ?_);refine wX I (xB zU (AQ pH) C) λbp aw=>?_;refine AB I (sC (vs:=[vI (-1)]) ⟨I,AW⟩ call89 (λw hs=>bK hs dC dC) λbs h3 bz ay=>?_);refine AB I (sC (AK I I) call90 (λw hs=>bJ hs ay ax.up O) λbq h4 bx an=>?_);replace an:=Rp.Is.le an (AI (4*m+14));refine AB I (sC (AU I) call107 (λw hs=>vE hs aw.up O) λbo h5 bw av=>(wX I (xV (ρ:=(Aj (4*m+14) (m+n+10))) (xL (ps':=[(0,_),(1,_)]) underlying45 uV I I (fP underlying45) BR I (zW (yN (zR O)) (zR O)) (zD I (AT (AA _)) an.up (zD I (AQ (AA _)) av zO)))) λbn au=>?_));have aa:=(Le.p (AI (4*m+14)) (AL (m+n+10))).R am;refine yD (A:=[]) I (uB sizeOf45 pH aa au) λbf aj=>(Ak ?_);refine xW (qV (t:=2) qZ Ar I aj) ?_;intro bj H ae;refine yI (λE S=>zS I H E S) ?_;exact(Rp.Is.cast (Rp.Is.le ae (Le.p (Le.refl _) (AL (m+n+14)))) (by exact W2 O BA M))
  refine AX ?_;have hz:yK ((Bc s).1.at i)=0:=by have:=yZ ((Bc s).1.at i);omega
  refine Ad ((i+1),h2) ?_ ?_
  · exact⟨AM,A3,wZ (Q:=λu=>yK ((Bc s).1.at u)=0) BA hz⟩
  omega
 have ei:i=3:=by omega
 refine Af ?_;refine lX (xB qZ pH C) λbm ar=>?_;have Z:=(Le.p (AI (4*m+10)) (AL (m+n+10))).R am;refine zP (A:=[]) (uB sizeOf45 pH Z ar) λbe ai=>(AN ?_);refine xW (qV (t:=2) qZ Ar I ai) ?_;intro bi D ad;refine yI (λE S=>zS I D E S) ?_;exact(Rp.Is.cast (Rp.Is.le ad (Le.p (AI (4*m+14)) (AL (m+n+14)))) (by exact Xu λu hu=>BA u O))
theorem U5{m l:Nat}{vs:A2}{s:Pq}(rs:(Aj m l).Is h0 vs s)(H0:m<=2000000000)(H1:l<=2000000000):
 Ae 53 #[vs] w0 h0 (λh r=>(Aj (m+1) (l+1)).Is h r s):=by
 refine BI 10 vs func53 hs ?_;refine A5 ?_;refine nB rs λb1 ae M=>(nA (ρ:=(Aj 1 1)) (X:=(zT,(0:Rat))) uV (zW (yN (zR dC)) (zR dC)) λb2 ad U=>(AN ?_));refine zG 7 _ [] [(0,.q),(1,.q),(3,.q),(4,.q),(2,.c),(5,.c),(6,.q),(7,.t)] zX nX Ac nX (λr hr=>hr) (A7 ?_);refine wX I (xB zI (AT pH) M) λv4 r4=>(A7 ?_);refine wX I (xB zU (AQ pH) M) λv7 r7=>?_;refine AB I (sC (AU I) call109 (λw hs=>VV hs r4 O) λv5 h1 ac r5=>?_);refine AB I (sC (AU I) call110 (λw hs=>lJ hs r7.up O) λv8 h2 ab r8=>(wX I (xV (ρ:=(Aj (m+1) (l+1))) (xL (ps':=[(0,_),(1,_)]) underlying45 uV I I (fP underlying45) BR I (zW (yN (zR O)) (zR O)) (zD I (AT (AA _)) r5.up (zD I (AQ (AA _)) (r8.le (AL (l+1))) zO)))) λv9 r9=>?_));have D:=(Le.p (AI (m+1)) (AL (l+1))).R U;refine yD (A:=[]) I (uB sizeOf45 pH D r9) λZ J=>(AN ?_);refine xW (qV (t:=2) qZ Ar I J) ?_;intro aa C H;refine yI (λE S=>zS I C E S) ?_;exact H
theorem lb{m l:Nat}{vs:A2}{s:Pq}(rs:(Aj m l).Is h0 vs s)(H0:m<=60)(H1:l<=60):
 Ae 52 #[vs] w0 h0 (λh r=>wQ.Is h r (Ec s)):=by
 obtain⟨⟨bw,bv,bu⟩,bt⟩:=nh rs;have bs:=cR s.1.x;have br:=cR s.1.y;have bq:=cR s.1.z;have bp:=cR s.2;refine BI 21 vs func52 hs ?_;refine A5 ?_;refine nB rs λb1 cc ax=>(AZ ?_);refine lX (xB zU (AQ pH) ax) λv7 r7=>(cL (AU I) call108 (λw hs=>eU hs r7 O) λv8 h1 cb r8=>?_);obtain⟨rfl,be⟩:=tJ r8;refine Af ?_;refine lX (xB zI (AT pH) ax) λbo aw=>(AF ?_);refine fC (A5 ?_);refine gv (OpV.tr dC (yW (q:=3) I I)) I (vV ?_);refine nT (F:=λv_=>(AE m).Is h1 v_ s.1.x) (dR 0 underlying43 zU (BL (AA _)) I I I I aw I dC I) rW I ?_;intro bd av;refine nA (ρ:=(AE 1)) (X:=(0:Rat)) yQ (zR dC) λbn bk an=>?_;have ae:=(AL (m+1)).R an;refine zP (A:=[]) (uB sizeOf41 pH ae (av.le (AL (m+1)))) λbh aj=>(AF ?_);refine lX (xB zU pH aj) λba aq=>(cL (AU I) call108 (λw hs=>eU hs aq O) λab h2 ca H=>?_)
 change wQ.Is h2 ab (qF s.1.x) at H
 obtain⟨rfl,U⟩:=tJ H;refine gv (jL (pa:=([32]:List Nat)) (pb:=(qF s.1.x)) I I DS) I (gv (jL (pa:=(qF s.2)) (pb:=(([32]:List Nat)++(qF s.1.x))) I I DS) I (AR ?_));refine gv ((yF (q:=1) I I O O).cv (show _=vI (1) from I)) I (A5 ?_);refine wJ (A5 ?_);refine gv (OpV.tr dC (yW (q:=3) I I)) I (vV ?_);refine nT (F:=λv_=>(AE m).Is h2 v_ s.1.y) (dR 1 underlying43 zU (BC (AA _)) I I I I aw.up I dC I) rW I ?_;intro bc au;refine nA (ρ:=(AE 1)) (X:=(0:Rat)) yQ (zR dC) λbm bj am=>?_;have ad:=(AL (m+1)).R am;refine zP (A:=[]) (uB sizeOf41 pH ad (au.le (AL (m+1)))) λbg ai=>(AF ?_);refine lX (xB zU pH ai) λaz ap=>(cL (AU I) call108 (λw hs=>eU hs ap O) λaa h3 bz D=>?_)
 change wQ.Is h3 aa (qF s.1.y) at D
 obtain⟨rfl,M⟩:=tJ D;refine gv (jL (pa:=([32]:List Nat)) (pb:=(qF s.1.y)) I I DS) I (gv (jL (pa:=((qF s.2)++(([32]:List Nat)++(qF s.1.x)))) (pb:=(([32]:List Nat)++(qF s.1.y))) I I DS) I (AR ?_));refine gv ((yF (q:=1) I I O O).cv (show _=vI (2) from I)) I (A5 ?_);refine wJ (A5 ?_);refine gv (OpV.tr dC (yW (q:=3) I I)) I (vV ?_);refine nT (F:=λv_=>(AE m).Is h3 v_ s.1.z) (dR 2 underlying43 zU (Bi (AA _)) I I I I aw.up I dC I) rW I ?_;intro bb ar;refine nA (ρ:=(AE 1)) (X:=(0:Rat)) yQ (zR dC) λbl bi ak=>?_;have ac:=(AL (m+1)).R ak;refine zP (A:=[]) (uB sizeOf41 pH ac (ar.le (AL (m+1)))) λbf ah=>(AF ?_);refine lX (xB zU pH ah) λay ao=>(cL (AU I) call108 (λw hs=>eU hs ao O) λZ h4 bx C=>?_)
 change wQ.Is h4 Z (qF s.1.z) at C
 obtain⟨rfl,J⟩:=tJ C;refine gv (jL (pa:=([32]:List Nat)) (pb:=(qF s.1.z)) I I DS) I (gv (jL (pa:=(((qF s.2)++(([32]:List Nat)++(qF s.1.x)))++(([32]:List Nat)++(qF s.1.y)))) (pb:=(([32]:List Nat)++(qF s.1.z))) I I DS) I (AR ?_));refine gv ((yF (q:=1) I I O O).cv (show _=vI (3) from I)) I (A5 ?_);refine wJ (A5 ?_);refine gv (OpV.fa dC (yW (q:=3) I I)) I (y7 ?_);refine zC I I ?_;exact(fV (((be.app ((show BK [32] by unfold BK;decide).app U)).app ((show BK [32] by unfold BK;decide).app M)).app ((show BK [32] by unfold BK;decide).app J)))
theorem fD{k m n a b:Nat}{vx:A2}{x:((List Tq)×(Pq×(List Nat)))}(rx:(A6 (Aq k) (A6 (Aj m n) wQ)).Is h0 vx x){vps:A2}{ps:(List Pq)}(rps:(AS (Aj a b)).Is h0 vps ps)(H0:k<=3100)(H1:m<=100)(H2:n<=100)(H3:a<=100)(H4:b<=120)(H5:A1 x.1<=32):
 Ae 35 #[vx,vps] w0 h0 (λh r=>∃u0 u1,r=.tuple #[u0,u1]/\(AD 400000).Is h u0 ((aQ x.1 x.2.1 ps).1)/\(AD 400000).Is h u1 ((aQ x.1 x.2.1 ps).2)):=by
 have hk:=G6 rps;refine B0 78 vx vps func35 hs ?_;refine A5 ?_;refine nB rx λb2 cn cv=>(nA (ρ:=(AD 1)) (X:=zT) yA (yN (zR dC)) λb4 cm cu=>(nA (ρ:=(AD 1)) (X:=zT) yA (yN (zR dC)) λb5 cl ct=>(AN ?_)))
 let eX1:List A2:=Em
 refine zG 10 _ [(6,(6,43,eX1)),(7,(7,43,eX1))] [(0,.q),(1,.q),(3,.q),(4,.q),(5,.q),(2,.c),(6,.a),(7,.a),(8,.c),(9,.c)] zX (uY.cons I I (vG yA I I) (uY.cons I I (vG yA I I) uY.nil)) Ac (vH I I (vH I I qT)) (λr hr=>hr) (A7 ?_);refine wX I (xB uN (AT pH) cv) λhf fc=>(A5 ?_);refine wX I (xB zI (AQ (AT (AT pH))) cv) λhd fa=>?_;refine AB I (sC (AU I) call81 (λw hs=>Zc hs fc O O) λhe h1 hl fb=>?_);refine CA I I (λb6=>?_);have dz:(AD 1).R h1 eX1 zT:=(yN (zR dC));refine CA I I (λb7=>?_);have dy:(AD 1).R h1 eX1 zT:=(yN (zR dC));refine AB I ?_;have cq:=(AI (32*k+110)).R dz;refine kB (A:=[_]) (uB sizeOf43 pH cq fb) (yP BU) λav M=>?_;refine AB I ?_;have cp:=(AI (m+1)).R dy;refine kB (A:=[]) (uB sizeOf43 pH cp (fa.le (AI (m+1)))) (yP BU) λau ai=>(AF ?_);refine nA (ρ:=(AE 1)) (X:=(0:Rat)) yQ (zR dC) λb8 ft dx=>(uG ?_);refine An (ι:=Nat×List A2×A4) (λ(q,H,ma)=>(MLe h1 ma/\((AE (6*a+b+96*k+3*m+400)).R ma H (CD ps (tS x.1) x.2.1.1 q)/\q<=A1 ps),[(4,vP b4 0),(5,vP b5 0),(6,vP b6 0),(7,vP b7 0),(8,vP b8 0),(21,vps),(22,vI (↑(A1 (ps)):Int)),(23,vI ↑q)],[.var b8 41 H,.var b7 43 au,.var b6 43 av,.var b5 43 cl,.var b4 43 cm,.var b2 57 cn],ma,A1 ps-q)) (0,ft,h1) ?_ ?_
 · exact⟨AM,((Le.q O).R dx),O⟩
 rintro⟨q,H,ma⟩ ⟨fz,C,hj⟩
 refine yO ?_;refine Ba (λde=>?_) λde=>?_
 ·
  refine AZ ?_;refine lX (xI (zT,(0:Rat)) q underlying36 qZ rps) λhc ez=>(lX (xA qZ ez) λhb ey=>(nA (ρ:=(Aj 1 1)) (X:=(zT,(0:Rat))) uV (zW (yN (zR dC)) (zR dC)) λdh gb cz=>?_));have co:=(Le.p (AI (a+1)) (AL (b+1))).R cz;refine zP (A:=[]) (uB sizeOf45 pH co (ey.le (Le.p (AI (a+1)) (AL (b+1))))) λaw aa=>(AN ?_);refine zG 18 _ [(15,(11,41,[.bool false,.slice none 0 0,.slice none 0 0]))] (Ah 0 5 [(7,.q),(8,.q),(9,.q),(5,.c),(6,.c),(10,.c),(11,.c),(12,.q),(13,.q),(14,.q),(15,.a),(16,.c),(17,.q)]) zX (uY.cons I I (vG yQ I I) uY.nil) (xU Ac) (vH I I qT) (λr hr=>hr) (A7 ?_);refine wX I (xB zU (AQ pH) aa) λha ew=>(A7 ?_);refine wX I (xB zI (AT pH) aa) λgz ev=>(wX I (xB zI pH M) λgy eu=>(A7 ?_));refine wX I (xB zI (AT pH) aa) λgu es=>(wX I (xB zI pH ai) λgt er=>?_);refine AB I (sC (AK I I) call84 (λw hs=>mD hs ev eu O) λgx h2 fi cf=>?_);replace cf:=Rp.Is.le cf (AL (3*a+96*k+342));refine AB I (sC (AK I I) call83 (λw hs=>jM hs ew.up cf O) λgw h3 fh ce=>?_);replace ce:=Rp.Is.le ce (AL (3*a+b+96*k+344));refine AB I (sC (AK I I) call84 (λw hs=>mD hs es.up er.up O) λgs h4 dd cd=>?_);replace cd:=Rp.Is.le cd (AL (3*a+3*m+15));refine AB I (sC (AK I I) call82 (λw hs=>oF hs ce.up cd O) λgr h5 bc ep=>?_);obtain⟨be,rfl,J⟩:=ep
  let eX2:=(wL ((A0 ps q (zT,(0:Rat))).1) x.2.1.1)
  let eX0:=(if eX2=0 then 0 else(((A0 ps q (zT,(0:Rat))).2)-(wL ((A0 ps q (zT,(0:Rat))).1) (tS x.1)))/eX2)
  change (AE ((3*a+b+96*k+344)+(3*a+3*m+15))).Is h5 be eX0 at J
  replace J:=Rp.Is.le J (AL (6*a+b+96*k+3*m+359));refine AN ?_;refine CA I I (λbd=>?_);have cy:(AE 1).R h5 [.bool false,.slice none 0 0,.slice none 0 0] (0:Rat):=(zR dC);refine AB I ?_;have bm:=(AL (6*a+b+96*k+3*m+359)).R cy;refine kB (A:=[]) (uB sizeOf41 pH bm J) (yP BU) λck Z=>(AX ?_);refine uH (ι:=A4) 5 (λm_=>MLe h5 m_) (λ_=>[(48,vB (((if eX2=0 then 3 else 0)≠(0:Int))\/((yK eX0)=(0:Int)))),(4,vP b4 0),(5,vP b5 0),(6,vP b6 0),(7,vP b7 0),(8,vP b8 0),(21,vps),(22,vI (↑(A1 (ps)):Int)),(23,vI ↑q),(11,vP bd 0)]) (λ_=>[.var bd 41 ck,.var dh 45 aw,.var b8 41 H,.var b7 43 au,.var b6 43 av,.var b5 43 cl,.var b4 43 cm,.var b2 57 cn]) (λm_=>m_) ?_ ?_
  ·
   refine zY ((if eX2=0 then 3 else 0)≠(0:Int)) (λhg=>?_) (λhg=>?_)
   ·
    refine gT hg I (AR ?_);refine zV h5 (MLe.refl _) ⟨?_,I,I,I,I,I,I,I,I,I,AW⟩ I I;exact AV (vN hg)
   refine gF hg I (A7 ?_);refine lX (xB zU pH Z) λgq eo=>(A7 ?_);refine cL (AU I) call85 (λw hs=>kV hs eo O) λdw h6 ah en=>?_;obtain rfl:dw=vI (yK eX0):=en;have ff:=yZ eX0;refine AF ?_;refine zV h6 ah ⟨?_,I,I,I,I,I,I,I,I,I,AW⟩ I I;exact AV (vO hg)
  intro cg db;refine fM ?_;refine BB (λar=>?_) λar=>?_
  ·
   have bb:(qD (DW ps q) (tS x.1) x.2.1.1)=0:=ji ar;refine AX ?_;refine yE (A:=[]) (yE (A:=[]) ?_);refine Ad ((q+1),H,cg) ?_ ?_
   · exact⟨AM,(Rp.castR C.up (cA bb)),O⟩
   omega
  have bb:¬(qD (DW ps q) (tS x.1) x.2.1.1)=0:=ve ar;refine AF ?_;refine lX (xB zU pH Z) λgo em=>(cL (AU I) call86 (λw hs=>XF hs em O) λgn h6 ah el=>(zP (A:=[]) (uB sizeOf41 pH Z el) λcj an=>(AF ?_)));refine lX (xB zU pH C) λgm ek=>(cL (AU I) call85 (λw hs=>kV hs ek O) λdv h7 dc ej=>?_);obtain rfl:dv=vI (yK (CD ps (tS x.1) x.2.1.1 q)):=ej;have fe:=yZ (CD ps (tS x.1) x.2.1.1 q);refine A7 ?_;refine uH (ι:=A4) 6 (λm_=>MLe h7 m_) (λ_=>[(59,vB (((yK (CD ps (tS x.1) x.2.1.1 q))=(0:Int))\/((wA (rJ eX0) (CD ps (tS x.1) x.2.1.1 q))<(0:Int)))),(4,vP b4 0),(5,vP b5 0),(6,vP b6 0),(7,vP b7 0),(8,vP b8 0),(21,vps),(22,vI (↑(A1 (ps)):Int)),(23,vI ↑q),(11,vP bd 0)]) (λ_=>[.var bd 41 cj,.var dh 45 aw,.var b8 41 H,.var b7 43 au,.var b6 43 av,.var b5 43 cl,.var b4 43 cm,.var b2 57 cn]) (λm_=>m_) ?_ ?_
  ·
   refine zY ((yK (CD ps (tS x.1) x.2.1.1 q))=(0:Int)) (λhg=>?_) (λhg=>?_)
   ·
    refine gT hg I (AZ ?_);refine zV h7 (MLe.refl _) ⟨?_,I,I,I,I,I,I,I,I,I,AW⟩ I I;exact AV (vN hg)
   refine gF hg I (A7 ?_);refine lX (xB zU pH an) λgk ei=>(A7 ?_);refine lX (xB zU pH C) λgj eh=>(A7 ?_);refine cL (AK I I) call87 (λw hs=>sJ hs ei eh O) λdu h8 fg eg=>?_;obtain rfl:du=vI (wA (rJ eX0) (CD ps (tS x.1) x.2.1.1 q)):=eg;have fj:=uJ (rJ eX0) (CD ps (tS x.1) x.2.1.1 q);refine AF ?_;refine zV h8 fg ⟨?_,I,I,I,I,I,I,I,I,I,AW⟩ I I;exact AV (vO hg)
  intro ap da;refine fM ?_;refine BB (λaq=>?_) λaq=>?_
  ·
   have ch:CD ps (tS x.1) x.2.1.1 q=0\/rJ (qD (DW ps q) (tS x.1) x.2.1.1)<CD ps (tS x.1) x.2.1.1 q:=aq.imp Lw.1 rI.1;refine A7 ?_;refine lX (xB zU pH an) λgi ef=>(zP (A:=[_,_]) (uB sizeOf41 pH C (ef.le (AL (6*a+b+96*k+3*m+400)))) λci bw=>(Af ?_));refine yE (A:=[]) (yE (A:=[]) ?_);refine Ad ((q+1),ci,ap) ?_ ?_
   · exact⟨AM,(Rp.castR bw (hH bb ch)),O⟩
   omega
  have ch:¬(CD ps (tS x.1) x.2.1.1 q=0\/rJ (qD (DW ps q) (tS x.1) x.2.1.1)<CD ps (tS x.1) x.2.1.1 q):=λe=>aq (e.imp Lw.2 rI.2);refine Af ?_;refine yE (A:=[]) (yE (A:=[]) ?_);refine Ad ((q+1),H,ap) ?_ ?_
  · exact⟨AM,(Rp.castR C.up (e2 bb ch)),O⟩
  omega
 have eq:q=A1 ps:=by omega
 subst eq;refine Af ?_;refine lX (xV (ρ:=(AE 1)) (xL (ps':=[]) underlying41 yQ I I (vW underlying41) trivial I (zR dC) zO)) λgh ee=>(lX (xB zU pH C) λgg ed=>(cL (AK I I) call88 (λw hs=>kq hs ee ed O) λgf h2 fi cc=>?_));replace cc:=Rp.Is.le cc (AL (6*a+b+96*k+3*m+403));refine nA (ρ:=(AE 1)) (X:=(0:Rat)) yQ (zR dC) λhm ga cw=>?_;have bl:=(AL (6*a+b+96*k+3*m+403)).R cw;refine zP (A:=[]) (uB sizeOf41 pH bl cc) λfs am=>(AR ?_);refine lX (xB zU pH C) λge ec=>(cL (AU I) call85 (λw hs=>kV hs ec O) λdt h3 fh eb=>?_);obtain rfl:dt=vI (yK (CD ps (tS x.1) x.2.1.1 (A1 ps))):=eb;have fd:=yZ (CD ps (tS x.1) x.2.1.1 (A1 ps));refine B4 (λU=>?_) λU=>?_
 ·
  refine A7 ?_;refine cL (vs:=[vI (1)]) ⟨I,AW⟩ call89 (λw hs=>bK hs dC dC) λgc h4 dd ea=>(zP (A:=[]) (uB sizeOf41 pH am (ea.le (AL (6*a+b+96*k+3*m+403)))) λfr bv=>(AF ?_));refine lX (xB zU pH bv) λdr cb=>(lX (xB zI pH ai) λdq ca=>(cL (AK I I) call90 (λw hs=>bJ hs cb ca O) λdp h5 bc ae=>?_));replace ae:=Rp.Is.le ae (AI (6*a+b+96*k+4*m+406));refine nA (ρ:=(AD 1)) (X:=zT) yA (yN (zR dC)) λfu df ao=>?_;have bk:=(AI (6*a+b+96*k+4*m+406)).R ao;refine zP (A:=[]) (uB sizeOf43 pH bk ae) λfq ak=>(AN ?_);refine zG 6 _ [] [(0,.q),(1,.q),(3,.q),(4,.q),(2,.c),(5,.c),(6,.t),(7,.t)] zX nX Ac nX (λr hr=>hr) (wX I (xB zI pH M) λdn bz=>(wX I (xB zI pH ak) λdm bx=>(wX I (xB zI pH M) λdk ad=>(wX I (xB zI pH ak) λdj ac=>?_))));refine AB I (sC (AK I I) call91 (λw hs=>Lx hs bz bx O) λdl h6 ah D=>?_);replace D:=Rp.Is.le D (AI (6*a+b+128*k+4*m+518));refine AB I ?_;replace ad:=ad.mono ah;replace ac:=ac.mono ah;refine sC (AK I I) call92 (λw hs=>eR hs ad ac O) λdi h7 dc ab=>?_;replace ab:=Rp.Is.le ab (AI (6*a+b+128*k+4*m+518));have bj:=(AI (6*a+b+128*k+4*m+518)).R cu;replace D:=D.mono dc;refine yD (A:=[_,_,_,_,_,_]) I (uB sizeOf43 pH bj D) λfp bu=>?_;have bi:=(AI (6*a+b+128*k+4*m+518)).R ct;refine yD (A:=[_,_,_,_,_]) I (uB sizeOf43 pH bi ab) λfo bt=>(AN ?_);refine xW (qV (t:=4) zI Ew I bu) ?_;intro fy ba bq;refine xW (qV (t:=5) zI F8 I bt) ?_;intro fx az bp;refine yI (λE S=>qG I ba az E S) ?_;refine⟨_,_,?_,(Rp.Is.cast (Rp.Is.le bq (AI 400000)) (by exact ZQ (Tb U))),(Rp.Is.cast (Rp.Is.le bp (AI 400000)) (by exact Yp (Tb U)))⟩
  rfl
 refine AF ?_;refine lX (xB zU pH am) λdr cb=>(lX (xB zI pH ai) λdq ca=>(cL (AK I I) call90 (λw hs=>bJ hs cb ca O) λdp h4 dd ae=>?_));replace ae:=Rp.Is.le ae (AI (6*a+b+96*k+4*m+406));refine nA (ρ:=(AD 1)) (X:=zT) yA (yN (zR dC)) λfu df ao=>?_;have bh:=(AI (6*a+b+96*k+4*m+406)).R ao;refine zP (A:=[]) (uB sizeOf43 pH bh ae) λfm aj=>(AN ?_);refine zG 6 _ [] [(0,.q),(1,.q),(3,.q),(4,.q),(2,.c),(5,.c),(6,.t),(7,.t)] zX nX Ac nX (λr hr=>hr) (wX I (xB zI pH M) λdn bz=>(wX I (xB zI pH aj) λdm bx=>(wX I (xB zI pH M) λdk ad=>(wX I (xB zI pH aj) λdj ac=>?_))));refine AB I (sC (AK I I) call91 (λw hs=>Lx hs bz bx O) λdl h5 bc D=>?_);replace D:=Rp.Is.le D (AI (6*a+b+128*k+4*m+518));refine AB I ?_;replace ad:=ad.mono bc;replace ac:=ac.mono bc;refine sC (AK I I) call92 (λw hs=>eR hs ad ac O) λdi h6 ah ab=>?_;replace ab:=Rp.Is.le ab (AI (6*a+b+128*k+4*m+518));have bg:=(AI (6*a+b+128*k+4*m+518)).R cu;replace D:=D.mono ah;refine yD (A:=[_,_,_,_,_,_]) I (uB sizeOf43 pH bg D) λfl bs=>?_;have bf:=(AI (6*a+b+128*k+4*m+518)).R ct;refine yD (A:=[_,_,_,_,_]) I (uB sizeOf43 pH bf ab) λfk br=>(AN ?_);refine xW (qV (t:=4) zI Ew I bs) ?_;intro fw ay bo;refine xW (qV (t:=5) zI F8 I br) ?_;intro fv ax bn;refine yI (λE S=>qG I ay ax E S) ?_;refine⟨_,_,?_,(Rp.Is.cast (Rp.Is.le bo (AI 400000)) (by exact ZQ (Vb U))),(Rp.Is.cast (Rp.Is.le bn (AI 400000)) (by exact Yp (Vb U)))⟩
 rfl
end
theorem TQ:Ks prog 84 9 4:=⟨underlying84,underlying9,YI OM rfl⟩
theorem eY{w0:AP}{h0:A4}(hs:MLe h0 (BE w0)){k m n j:Nat}{vl:A2}{l:(List Sq)}(rl:(AS (BT k m n j)).Is h0 vl l)(H0:Es l)(H1:m<=4)(H2:n<=4):
 Ae 15 #[vl] w0 h0 (λh r=>(AS (Aj (4*m+40) (m+n+40))).Is h r (qE l (A1 l))):=by
 have ci:=H0.1;refine BI 44 vl func15 hs ?_;refine Af ?_;refine zE Ys I I I ?_
 rintro cy db ⟨am,rfl,rfl⟩
 refine nH ?_;refine yX 45 12 ?_;have be:=RL.nil (ρ:=A6 (AD (4*m+40)) (AE (m+n+40))) (h:=h0);refine An (ι:=Nat×List Pq×List (List Nat)×A2×List A2×Array MapEntry×Nat×A4) (λ(i,OU,T,aa,ad,ac,ai,ma)=>(MLe h0 ma/\(RL (Aj (4*m+40) (m+n+40)) ma ad OU/\Hy ac T/\i<=A1 l/\OU=qE l i/\T=OU.map Ec),[(3,.map (some am)),(4,aa),(12,vl),(13,vI (↑(A1 (l)):Int)),(14,vI ↑i)],[.gs 45 12 aa (A1 OU) ad,.blk am (.map ac ai)],ma,A1 l-i)) (0,[],[],(.slice none 0 0),[],#[],0,h0) ?_ ?_
 · exact⟨AM,be,qy,A3,I,I⟩
 rintro⟨i,OU,T,aa,ad,ac,ai,ma⟩ ⟨ch,an,bh,dd,hO,hT⟩
 refine yO ?_;refine Ba (λbj=>?_) λbj=>?_
 ·
  have di:A1 (A0 l i ([],([],[]))).2.1<=1000:=(H0.2 _ (bW O)).2;refine AZ ?_;refine lX (xI ([],([],[])) i underlying27 jG rl) λcw ca=>(lX (xA jG ca) λcv bz=>(nA (ρ:=(BT 1 1 1 1)) (X:=([],([],[]))) qS (zW wC (zW wC wC)) λb6 dl bq=>?_));have bd:=(Le.p (Le.s (AI (k+1))) (Le.p (Le.s (Le.p (Le.p (AI (m+1)) (AL (n+1))) (Le.refl _))) (Le.s (Le.p (Le.refl _) (Le.p (Le.refl _) (AL (j+1))))))).R bq;refine zP (A:=[]) (uB sizeOf32 pH bd (bz.le (Le.p (Le.s (AI (k+1))) (Le.p (Le.s (Le.p (Le.p (AI (m+1)) (AL (n+1))) (Le.refl _))) (Le.s (Le.p (Le.refl _) (Le.p (Le.refl _) (AL (j+1))))))))) λbk aw=>(AR ?_);refine lX (xB kO (AQ (AT pH)) aw) λbn bx=>(AR ?_);refine An (ι:=Nat×List Pq×List (List Nat)×A2×List A2×Array MapEntry×Nat×A4) (λ(j,OV,U,C,H,D,J,mb)=>(MLe ma mb/\(RL (Aj (4*m+40) (m+n+40)) mb H OV/\Hy D U/\j<=A1 (A0 l i ([],([],[]))).2.1/\OV=J5 (A0 l i ([],([],[]))) (qE l i) j/\U=OV.map Ec),[(3,.map (some am)),(4,C),(12,vl),(13,vI (↑(A1 (l)):Int)),(14,vI ↑i),(19,bn),(20,vI (↑(A1 (((A0 l i ([],([],[]))).2).1)):Int)),(21,vI ↑j)],[.var b6 32 bk,.gs 45 12 C (A1 OV) H,.blk am (.map D J)],mb,A1 (A0 l i ([],([],[]))).2.1-j)) (0,OU,T,aa,ad,ac,ai,ma) ?_ ?_
  · exact⟨AM,an,bh,A3,hO,hT⟩
  rintro⟨j,OV,U,C,H,D,J,mb⟩ ⟨cg,Z,M,cc,ak,aj⟩
  refine yO ?_;refine Ba (λbi=>?_) λbi=>?_
  ·
   have az:=H0.at (i:=i) (j:=j) O cc;have cb:=H0.pl (i:=i) (j:=j) O (show j<A1 (A0 l i ([],([],[]))).2.1 by omega);rw[<-ak] at az;have bb:=d2 az cb;rw[<-aj] at bb;have dc:=az.2;refine AZ ?_;refine lX (xI zA j underlying29 tT bx) λcu bw=>(lX (xA tT bw) λct bv=>(nA (ρ:=(BP 1 1)) (X:=((zT,(0:Rat)),([],([]:List Nat)))) jR (zW (zW (yN (zR dC)) (zR dC)) (zW wC jQ)) λb8 dk bp=>?_));have aq:=(Le.p (Le.p (AI (m+1)) (AL (n+1))) (Le.refl _)).R bp;refine zP (A:=[]) (uB sizeOf53 pH aq bv) λcf av=>(AR ?_);refine lX (xB qZ (AT pH) av) λcq bu=>(cL (AU I) call51 (λw hs=>o9 hs bu O O) λcp h1 cd ay=>?_);replace ay:=Rp.Is.le ay (Le.p (AI (4*m+18)) (AL (m+n+16)));refine nA (ρ:=(Aj 1 1)) (X:=(zT,(0:Rat))) uV (zW (yN (zR dC)) (zR dC)) λb9 dj bo=>?_;have ap:=(Le.p (AI (4*m+18)) (AL (m+n+16))).R bo;refine zP (A:=[]) (uB sizeOf45 pH ap ay) λce ae=>(AF ?_);refine lX (xB qZ pH ae) λco bt=>(cL (AU I) call52 (λw hs=>lb hs bt O O) λcn h2 dh bs=>?_);obtain⟨rfl,ao⟩:=tJ bs;refine Af ?_;refine gv (rh (u:=(Ec (kM ((A0 (((A0 l i ([],([],[]))).2).1) j zA).1)))) TQ ao Eg I I M) I (B4 (λab=>?_) λab=>?_)
   ·
    have ah:=λe=>ab (bb.2 e);refine AF ?_;refine dp (A:=[_,_,_,_]) (u:=(Ec (kM ((A0 (((A0 l i ([],([],[]))).2).1) j zA).1)))) TQ ao I I I M (by exact ab) ?_;intro bc ba;refine AF ?_;refine lX (xB qZ pH ae) λcm br=>(cL (AU I) call53 (λw hs=>U5 hs br O O) λcl h3 df ax=>?_);replace ax:=Rp.Is.le ax (Le.p (AI (4*m+19)) (AL (m+n+17)));refine zE (zL (ρ:=(Aj (4*m+19) (m+n+17))) (m:=1) (xs:=[(kM ((A0 (((A0 l i ([],([],[]))).2).1) j zA).1))]) (ps':=[(0,_)]) underlying36 uV I I I (zW (yN (zR O)) (zR O)) Al (zD I (AO (AA _) (zT,(0:Rat)) 0 dC) ax zO) SS nP) I I I ?_
    rintro ck da ⟨cj,rfl,bg⟩
    refine zQ (A:=[]) (ρ:=(Aj (4*m+19) (m+n+17))) bg ?_;intro h4 de au;refine yY (A:=[_,_,_]) (zN (ρ:=(Aj (4*m+40) (m+n+40))) (bytes:=224) underlying36 uV I I I I nP I I Z.up (au.le (Le.s (Le.p (AI (4*m+40)) (AL (m+n+40))))) bO bO) I I I ?_
    rintro bm cz ⟨bl,rfl,bf⟩
    refine AX ?_;refine yE (A:=[]) (yE (A:=[]) ?_);refine Ad ((j+1),(OV++[(kM ((A0 (((A0 l i ([],([],[]))).2).1) j zA).1))]),(U++[(Ec (kM ((A0 (((A0 l i ([],([],[]))).2).1) j zA).1)))]),bm,bl,bc,(J+1),h4) ?_ ?_
    · exact⟨AM,bf,ba,A3,by rw[ak] at ah ⊢;exact Yn ah,by rw[FK,<-aj];rfl⟩
    omega
   have ah:=bb.1 (Br ab);refine Af ?_;refine yE (A:=[]) (yE (A:=[]) ?_);refine Ad ((j+1),OV,U,C,H,D,J,h2) ?_ ?_
   · exact⟨AM,Z.up,M,A3,by rw[ak] at ah ⊢;exact Tn ah,aj⟩
   omega
  have ej:j=A1 (A0 l i ([],([],[]))).2.1:=by omega
  refine vV ?_;refine yE (A:=[]) ?_;refine Ad ((i+1),OV,U,C,H,D,J,mb) ?_ ?_
  · exact⟨AM,Z.up,M,A3,by rw[ak,ej];rfl,aj⟩
  omega
 have ei:i=A1 l:=by omega
 refine uF ?_;refine xR (A:=[]) (ρ:=(Aj (4*m+40) (m+n+40))) an ?_;intro h1 cd ar;refine zC I I ?_;exact(Rp.Is.cast ar (by rw[hO,ei]))
end Go.Proofs.YtlpflnindligbaaGreat
