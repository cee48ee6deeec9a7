/- Texts that the proof needs, part 2. -/
import Derived.Test.YtlpflnindligbaaGreatKA1
set_option linter.unusedVariables false
set_option linter.unusedSimpArgs false
noncomputable section
open List renaming length→A1,getD→A0,toArray→Am
open Int renaming natAbs→AH
open Go renaming World→AP,Value→A2,Act→Av,Operand→Ag,Program→D,Oper→AY,Exit→BH,TypeId→Ab,IntKind→B2
namespace Bk
open Go Go.RowKit
open Classical
def sg(s:Prop)(n:Nat):Int:=if s then -(n:Int) else n
theorem iV{s:Prop}(h:s)(n:Nat):sg s n= -(n:Int):=AC h
theorem eD{s:Prop}(h:¬s)(n:Nat):sg s n=n:=A8 h
theorem u4(s:Prop)(n:Nat):AH (sg s n)=n:=by
 by_cases h:s
 · rw[iV h];omega
 · rw[eD h];omega
theorem l5(s:Prop):sg s 0=0:=by
 by_cases h:s
 · rw[iV h];omega
 · rw[eD h];omega
theorem Uc(s:Prop)(n:Nat):sg s n<0↔s/\n≠0:=by
 by_cases h:s
 · rw[iV h];exact⟨λh1=>⟨h,A3⟩,λh1=>by omega⟩
 · rw[eD h];exact⟨λh1=>by omega,λh1=>absurd h1.1 h⟩
theorem ml(s:Prop){n g:Nat}(h:g∣n):sg s n/(g:Int)=sg s (n/g):=by
 by_cases hs:s
 · rw[iV hs,iV hs]
   obtain⟨k,rfl⟩:=h
   rcases KX g with h0|h0
   · subst h0;simp
   · rw[Nat.mul_div_cancel_left _ h0,Fa,<-Int.mul_neg,Int.mul_ediv_cancel_left _ A3]
 · rw[eD hs,eD hs];omega
theorem ll(q:Rat):sg (q.num<0) (AH q.num)=q.num:=by
 by_cases h:q.num<0
 · rw[iV h];omega
 · rw[eD h];omega
def wH(d:Nat):Nat:=if d=1 then 0 else d
theorem aN:wH 1=0:=rfl
theorem bY{d:Nat}(h:d≠1):wH d=d:=A8 h
theorem iJ{d:Nat}(h0:d≠0):zB (wH d)=[]↔d=1:=by
 by_cases h:d=1
 · subst h;rw[aN,xT];simp
 · rw[bY h]
   exact⟨λe=>by have:=yJ.2 h0;rw[e] at this;simp at this,λe=>absurd e h⟩
theorem qH(q:Rat):(if zB (wH q.den)=[] then[1] else zB (wH q.den))=zB q.den:=by
 by_cases h:q.den=1
 · rw[AC ((iJ q.den_nz).2 h),h,gK A3 A3]
 · rw[A8 (λe=>h ((iJ q.den_nz).1 e)),bY h]
def vJ(h:A4)(v:A2)(q:Rat):Prop:=∃vn vd,v=.agg #[vB (q.num<0),vn,vd]/\Us .u32 h vn (zB (AH q.num))/\Us .u32 h vd (zB (wH q.den))
theorem zb:vB ((0:Rat).num<0)=.bool false:=yH Aa
theorem V5(h:A4):Us .u32 h (.slice none 0 0) (zB (AH (0:Rat).num)):=by
 have:zB (AH (0:Rat).num)=[]:=xT;rw[this];exact Us.nil _ _
theorem VB(h:A4):Us .u32 h (.slice none 0 0) (zB (wH (0:Rat).den)):=by
 have:zB (wH (0:Rat).den)=[]:=xT;rw[this];exact Us.nil _ _
theorem vJ.zero(h:A4):vJ h (.agg #[vB ((0:Rat).num<0),.slice none 0 0,.slice none 0 0]) 0:=⟨_,_,rfl,V5 _,VB _⟩
theorem j6{s:Prop}{n d:Nat}(hd:d≠0):(mkRat (sg s n) d).num=sg s (n/Nat.gcd n d):=by
 rw[Rat.num_mkRat,A8 hd,u4,Nv];exact ml s (NP n d)
theorem PO{s:Prop}{n d:Nat}(hd:d≠0):(mkRat (sg s n) d).den=d/Nat.gcd n d:=by
 rw[Rat.den_mkRat,A8 hd,u4,Nv]
theorem vJ.make{h:A4}{s:Prop}{n d:Nat}{vn vd:A2}(hn0:n≠0)(hd0:d≠0)(hn:Us .u32 h vn (zB (n/Nat.gcd n d)))(hd:Us .u32 h vd (zB (wH (d/Nat.gcd n d)))):vJ h (.agg #[vB s,vn,vd]) (mkRat (sg s n) d):=by
 have C:n/Nat.gcd n d≠0:=by
  have h1:=NP n d;have h2:=MO d (Cu hn0);exact JN (Nat.div_pos (OC (Cu hn0) h1) h2)
 refine⟨vn,vd,?_,?_,?_⟩
 · have:vB ((mkRat (sg s n) d).num<0)=vB s:=by
    rw[j6 hd0];exact qQ ⟨λh=>((Uc _ _).1 h).1,λh=>(Uc _ _).2 ⟨h,C⟩⟩
   rw[this]
 · rw[j6 hd0,u4];exact hn
 · rw[PO hd0];exact hd
def rJ(q:Rat):Rat:=if q.num<0 then -q else q
theorem Ps(q:Rat):(rJ q).num=AH q.num:=by
 unfold rJ
 by_cases h:q.num<0
 · rw[AC h,Rat.neg_num];omega
 · rw[A8 h];omega
theorem VI(q:Rat):(rJ q).den=q.den:=by
 unfold rJ
 by_cases h:q.num<0
 · rw[AC h,Rat.neg_den]
 · rw[A8 h]
theorem vJ.abs{h:A4}{q:Rat}{vn vd:A2}(hn:Us .u32 h vn (zB (AH q.num)))(hd:Us .u32 h vd (zB (wH q.den))):vJ h (.agg #[.bool false,vn,vd]) (rJ q):=by
 refine⟨vn,vd,?_,?_,?_⟩
 · rw[yH (by rw[Ps];omega)]
 · rw[Ps];exact hn
 · rw[VI];exact hd
theorem vJ.negB{h:A4}{q:Rat}{vn vd:A2}(hn:Us .u32 h vn (zB (AH q.num)))(hd:Us .u32 h vd (zB (wH q.den))):vJ h (.agg #[vB (¬q.num<0/\(0:Int)<↑(A1 (zB (AH q.num)))),vn,vd]) (-q):=by
 refine⟨vn,vd,?_,?_,?_⟩
 · have:vB ((-q).num<0)=vB (¬q.num<0/\(0:Int)<↑(A1 (zB (AH q.num)))):=by
    have h1:=yJ (n:=AH q.num);rw[Rat.neg_num];exact qQ ⟨λh=>⟨A3,A3⟩,λh=>by omega⟩
   rw[this]
 · rw[Rat.neg_num,Int.natAbs_neg];exact hn
 · rw[Rat.neg_den];exact hd
theorem k5{m n k:Nat}(h1:A1 (zB m)<=k)(h2:A1 (zB n)<=k):A1 (zB (m+n))<=k+1:=by
 refine qO ?_;have D:=DO (uT m) (D0 Aa h1);have C:=DO (uT n) (D0 Aa h2);rw[CT];generalize 4294967296^k=p at *;omega
theorem s2{xs:List Nat}{lo n:Nat}(h:lo+1<=A1 xs)(h0:n≠0)(hn:n<4294967296):xs.set lo n=xs.take lo++zB n++xs.drop (lo+A1 (zB n)):=by
 rw[gK h0 hn,Qn,AC A3];simp
theorem td{xs:List Nat}{lo n:Nat}(h:lo+2<=A1 xs)(hn:n<18446744073709551616)(hn':4294967296<=n):(xs.set lo (n%4294967296)).set (lo+1) (n/4294967296)=xs.take lo++zB n++xs.drop (lo+A1 (zB n)):=by
 have e:zB n=[n%4294967296,n/4294967296]:=by rw[gJ A3,gK (t:=n/4294967296) A3 A3]
 rw[e]
 apply List.ext_getElem?
 intro i;simp only[Mv,lS,List.getElem?_append,BJ,By,lC,lN,Dj,F5]
 rcases Nat.lt_trichotomy i lo with hi|hi|hi
 · rw[A8 A3,A8 A3,AC A3,AC A3,AC A3]
 · subst hi
   rw[A8 A3,AC I,AC A3,AC A3,A8 A3];simp[show min i (A1 xs)=i by omega]
 · by_cases h1:i=lo+1
   · subst h1
     rw[AC I,AC A3,AC A3,A8 A3];simp[show min lo (A1 xs)=lo by omega]
   · rw[A8 A3,A8 A3,A8 A3]
     congr 1
     omega
def rz(s:Prop)(n:Rat):Rat:=if s then -n else n
theorem dO{s:Prop}(h:s)(n:Rat):rz s n= -n:=AC h
theorem iW{s:Prop}(h:¬s)(n:Rat):rz s n=n:=A8 h
theorem cY(s:Prop)(n d:Nat):mkRat (sg s n) d=rz s n/d:=by
 rw[Rat.mkRat_eq_div]
 by_cases h:s
 · rw[iV h,dO h,Gv];rfl
 · rw[eD h,iW h];rfl
theorem kS(q:Rat):mkRat (sg (q.num<0) (AH q.num)) q.den=q:=by rw[ll,Rat.mkRat_self]
theorem lD{d:Nat}(h:d≠0):(d:Rat)≠0:=λe=>h (Rat.natCast_eq_zero_iff.1 e)
theorem KM(s:Prop)(d:Nat):mkRat (sg s 0) d=0:=by rw[l5,Rat.zero_mkRat]
theorem QY(s:Prop)(n:Nat):mkRat (sg s n) 0=0:=by rw[Rat.mkRat_zero]
theorem Nb{s t:Prop}(h:s↔t)(n d:Nat):mkRat (sg s n) d=mkRat (sg t n) d:=by rw[propext h]
theorem XX(s:Prop){n m d e:Nat}(hd:d≠0)(he:e≠0):mkRat (sg s n) d+mkRat (sg s m) e=mkRat (sg s (n*e+m*d)) (d*e):=by
 rw[cY,cY,cY,FQ,Rat.natCast_add,FQ,FQ];have h1:=lD hd;have h2:=lD he;generalize (d:Rat)=D at *;generalize (e:Rat)=E at *;generalize (n:Rat)=N at *;generalize (m:Rat)=M at *
 by_cases h:s
 · rw[dO h,dO h,dO h];grind
 · rw[iW h,iW h,iW h];grind
theorem SU{s t:Prop}(hst:¬(s↔t)){n m d e:Nat}(hd:d≠0)(he:e≠0)(hle:m*d<=n*e):mkRat (sg s n) d+mkRat (sg t m) e=mkRat (sg s (n*e-m*d)) (d*e):=by
 have H:((n*e-m*d:Nat):Rat)=n*e-m*d:=by
  have h3:n*e-m*d+m*d=n*e:=by omega
  have J:((n*e-m*d+m*d:Nat):Rat)=((n*e:Nat):Rat):=by rw[h3]
  rw[Rat.natCast_add,FQ,FQ] at J;generalize ((n*e-m*d:Nat):Rat)=X at *;grind
 rw[cY,cY,cY,H,FQ];have h1:=lD hd;have h2:=lD he;generalize (d:Rat)=D at *;generalize (e:Rat)=E at *;generalize (n:Rat)=N at *;generalize (m:Rat)=M at *
 by_cases h:s
 · have C:¬t:=λC=>hst ⟨λ_=>C,λ_=>h⟩
   rw[dO h,iW C,dO h];grind
 · have C:t:=C7 λC=>hst ⟨λa=>absurd a h,λa=>absurd a C⟩
   rw[iW h,dO C,iW h];grind
theorem Um{s t:Prop}(hst:¬(s↔t)){n m d e:Nat}(hd:d≠0)(he:e≠0)(hle:n*e<=m*d):mkRat (sg s n) d+mkRat (sg t m) e=mkRat (sg t (m*d-n*e)) (d*e):=by
 rw[Rat.add_comm,SU (λh=>hst h.symm) he hd hle,Dw e d]
theorem Zd(s t:Prop)(n m d e:Nat):mkRat (sg s n) d*mkRat (sg t m) e=mkRat (sg (¬(s↔t)) (n*m)) (d*e):=by
 rw[Rat.mkRat_mul_mkRat]
 congr 1
 by_cases h:s<;>by_cases h':t
 · rw[iV h,iV h',eD (by simp[h,h']),Fa,Int.neg_mul_neg]
 · rw[iV h,eD h',iV (by simp[h,h']),Fa,Lo]
 · rw[eD h,iV h',iV (by simp[h,h']),Fa,Int.mul_neg]
 · rw[eD h,eD h',eD (by simp[h,h']),Fa]
theorem Qr(s t:Prop){n m d e:Nat}(hd:d≠0)(hm:m≠0)(he:e≠0):mkRat (sg s n) d/mkRat (sg t m) e=mkRat (sg (¬(s↔t)) (n*e)) (d*m):=by
 rw[cY,cY,cY,FQ,FQ];have h1:=lD hd;have h2:=lD hm;have h3:=lD he;generalize (d:Rat)=D at *;generalize (e:Rat)=E at *;generalize (n:Rat)=N at *;generalize (m:Rat)=M at *
 by_cases h:s<;>by_cases h':t
 · rw[dO h,dO h',iW (by simp[h,h'])];grind
 · rw[dO h,iW h',dO (by simp[h,h'])];grind
 · rw[iW h,dO h',dO (by simp[h,h'])];grind
 · rw[iW h,iW h',iW (by simp[h,h'])];grind
theorem tx(s:Prop)(n d:Nat):-mkRat (sg s n) d=mkRat (sg (¬s) n) d:=by
 rw[Rat.neg_mkRat]
 congr 1
 by_cases h:s
 · rw[iV h,eD (by simp[h])];omega
 · rw[eD h,iV h]
theorem Rr(s:Prop)(n d:Nat){k:Nat}(hk:k≠0):mkRat (sg s (n*k)) (d*k)=mkRat (sg s n) d:=by
 rw[cY,cY,FQ,FQ];have h1:=lD hk
 by_cases hd:d=0
 · subst hd
   have:((0:Nat):Rat)=0:=I;rw[this];grind
 have h2:=lD hd;generalize (d:Rat)=D at *;generalize (k:Rat)=K at *;generalize (n:Rat)=N at *
 by_cases h:s
 · rw[dO h,dO h];grind
 · rw[iW h,iW h];grind
def lq(q:Rat):Nat:=max (A1 (zB (AH q.num))) (A1 (zB q.den))
theorem wW(q:Rat):A1 (zB (AH q.num))<=lq q:=Nat.le_max_left _ _
theorem vT(q:Rat):A1 (zB q.den)<=lq q:=Nat.le_max_right _ _
theorem dm(d:Nat):A1 (zB (wH d))<=A1 (zB d):=by
 by_cases h:d=1
 · subst h;rw[aN,xT];simp
 · rw[bY h];exact B1 _
theorem wO(q:Rat):A1 (zB (wH q.den))<=lq q:=Ao (dm _) (vT q)
theorem Jv(q:Rat):0<lq q:=DO (yJ.2 q.den_nz) (vT q)
theorem GA{s:Prop}{n d k:Nat}(hn:A1 (zB n)<=k)(hd:A1 (zB d)<=k)(hk:0<k):lq (mkRat (sg s n) d)<=k:=by
 by_cases h0:d=0
 · subst h0
   rw[QY];refine Nat.max_le.2 ⟨?_,?_⟩
   · have:(zB (AH (0:Rat).num))=[]:=xT
     rw[this];simp
   · have:zB (0:Rat).den=[1]:=by rw[show(0:Rat).den=1 from I,gJ A3,xT]
     rw[this];exact hk
 · refine Nat.max_le.2 ⟨?_,?_⟩
   · rw[j6 h0,u4]
     exact Ao (yL (E1 _ _)) hn
   · rw[PO h0]
     exact Ao (yL (E1 _ _)) hd
theorem Lh:lq 0=1:=by
 have h:=GA (s:=False) (n:=0) (d:=0) (k:=1) (by rw[xT];simp) (by rw[xT];simp) A3;rw[QY] at h;have:=Jv 0;omega
theorem z5(q:Rat):lq (-q)=lq q:=by unfold lq;rw[Rat.neg_num,Rat.neg_den,Int.natAbs_neg]
theorem QM(q:Rat):lq (rJ q)=lq q:=by unfold lq;rw[Ps,VI,Int.natAbs_natCast]
theorem iC(a b:Rat):lq (a*b)<=lq a+lq b:=by
 rw[<-kS a,<-kS b,Zd,kS,kS];have h1:=wW a;have h2:=wW b;have h3:=vT a;have D:=vT b;have C:=Jv a;exact GA (Ao (yV _ _) A3) (Ao (yV _ _) A3) A3
theorem iD(a b:Rat):lq (a+b)<=lq a+lq b+1:=by
 have h1:=wW a;have h2:=wW b;have h3:=vT a;have M:=vT b;have J:=Jv a;have H:=yV (AH a.num) b.den;have D:=yV (AH b.num) a.den;have C:=yV a.den b.den;have e:a+b=mkRat (sg (a.num<0) (AH a.num)) a.den+mkRat (sg (b.num<0) (AH b.num)) b.den:=by rw[kS,kS]
 rw[e]
 by_cases h:(a.num<0)↔(b.num<0)
 · rw[Nb h,XX _ a.den_nz b.den_nz]
   refine GA (Ao (k5 ?_ ?_) (B1 _)) A3 A3
   · omega
   · omega
 · rcases Nat.le_total (AH b.num*a.den) (AH a.num*b.den) with hle|hle
   · rw[SU h a.den_nz b.den_nz hle]
     exact GA (Ao (yL (HC _ _)) A3) A3 A3
   · rw[Um h a.den_nz b.den_nz hle]
     exact GA (Ao (yL (HC _ _)) A3) A3 A3
theorem Ke(a b:Rat):lq (a-b)<=lq a+lq b+1:=by
 rw[Qw];have:=iD a (-b);rw[z5] at this;exact this
theorem Lb{q:Rat}:AH q.num≠0↔q≠0:=by
 rw[Int.natAbs_ne_zero];exact not_congr Rat.num_eq_zero
theorem bz(a b:Rat):lq (a/b)<=lq a+lq b:=by
 have h1:=wW a;have h2:=wW b;have h3:=vT a;have D:=vT b;have C:=Jv a
 by_cases hb:b=0
 · subst hb
   have:a/0=0:=by grind
   rw[this,Lh];omega
 have e:a/b=mkRat (sg (a.num<0) (AH a.num)) a.den/mkRat (sg (b.num<0) (AH b.num)) b.den:=by rw[kS,kS]
 rw[e,Qr _ _ a.den_nz (Lb.2 hb) b.den_nz];exact GA (Ao (yV _ _) A3) (Ao (yV _ _) A3) A3
def wA(a b:Rat):Int:=if a<b then -1 else if a=b then 0 else 1
def yK(q:Rat):Int:=if q=0 then 0 else if q.num<0 then -1 else 1
theorem Zh(s:Prop){n m d e:Nat}(hd:d≠0)(he:e≠0):mkRat (sg s n) d<mkRat (sg s m) e↔if s then m*d<n*e else n*e<m*d:=by
 have C:∀x y:Nat,(x:Rat)<(y:Rat)↔x<y:=λx y=>by rw[Rat.natCast_lt_natCast]
 have h1:(0:Rat)<(d:Rat):=by rw[show(0:Rat)=((0:Nat):Rat) from I,C];omega
 have h2:(0:Rat)<(e:Rat):=by rw[show(0:Rat)=((0:Nat):Rat) from I,C];omega
 rw[cY,cY,<-C,<-C,FQ,FQ,Rat.div_lt_iff h1];generalize (d:Rat)=D at *;generalize (e:Rat)=E at *;generalize (n:Rat)=N at *;generalize (m:Rat)=M at *;have H:∀X:Rat,X/E*D=X*D/E:=λX=>by grind
 rw[H,Rat.lt_div_iff h2]
 by_cases h:s
 · rw[dO h,dO h,AC h];grind
 · rw[iW h,iW h,A8 h]
theorem Vp(s:Prop){n m d e:Nat}(hd:d≠0)(he:e≠0):mkRat (sg s n) d=mkRat (sg s m) e↔n*e=m*d:=by
 rw[Rat.mkRat_eq_iff hd he]
 by_cases h:s
 · rw[iV h,iV h]
   rw[Lo,Lo,Int.neg_inj,<-Fa,<-Fa];omega
 · rw[eD h,eD h,<-Fa,<-Fa];omega
theorem oz(s:Prop){n m d e:Nat}(hd:d≠0)(he:e≠0):wA (mkRat (sg s n) d) (mkRat (sg s m) e)=if s then -(cD (n*e) (m*d)) else cD (n*e) (m*d):=by
 unfold wA cD
 by_cases h:s
 · simp only[Zh s hd he,Vp s hd he,AC h]
   by_cases h1:m*d<n*e
   · rw[AC h1,A8 A3,A8 A3]
   · rw[A8 h1]
     by_cases h2:n*e=m*d
     · rw[AC h2,A8 A3];rfl
     · rw[A8 h2,AC A3];rfl
 · simp only[Zh s hd he,Vp s hd he,A8 h]
theorem Vs(a b:Rat)(h:(a.num<0)↔(b.num<0)):wA a b=if a.num<0 then -(cD (AH a.num*b.den) (AH b.num*a.den)) else cD (AH a.num*b.den) (AH b.num*a.den):=by
 have:=oz (a.num<0) (n:=AH a.num) (m:=AH b.num) a.den_nz b.den_nz;rw[kS,Nb h,kS] at this;rw[this]
 by_cases h:a.num<0
 · rw[AC h,AC h]
 · rw[A8 h,A8 h]
theorem cK(q:Rat):q.num<0↔q<0:=by
 have:=Rat.num_nonneg (q:=q);rw[<-Rat.not_le,<-this];omega
theorem OD{a b:Rat}(h:yK a≠yK b):wA a b=if yK a<yK b then -1 else 1:=by
 have D:yK a=if a=0 then 0 else if a<0 then -1 else 1:=by unfold yK;simp only[cK]
 have C:yK b=if b=0 then 0 else if b<0 then -1 else 1:=by unfold yK;simp only[cK]
 rw[D,C] at h ⊢;unfold wA
 clear D C
 grind
theorem yZ(q:Rat):-1<=yK q/\yK q<=1:=by
 unfold yK
 split
 · omega
 · split<;>omega
theorem uJ(a b:Rat):-1<=wA a b/\wA a b<=1:=by
 unfold wA
 split
 · omega
 · split<;>omega
theorem rI{a b:Rat}:wA a b<0↔a<b:=by
 unfold wA
 by_cases h:a<b
 · simp[h]
 · by_cases h':a=b
   · simp[h']
   · simp[h,h']
theorem oP{a b:Rat}:0<wA a b↔b<a:=by
 unfold wA
 by_cases h:a<b
 · simp[h];grind
 · by_cases h':a=b
   · simp[h']
   · simp[h,h'];grind
theorem lP{a b:Rat}:wA a b=0↔a=b:=by
 unfold wA
 by_cases h:a<b
 · simp[h];grind
 · by_cases h':a=b
   · simp[h']
   · simp[h,h']
def sT(q:Rat):Prop:=A1 (zB (AH q.num))<=1/\A1 (zB (wH q.den))<=1
theorem qc{q:Rat}(h:(1:Int)<↑(A1 (zB (AH q.num)))\/(1:Int)<↑(A1 (zB (wH q.den)))):¬sT q:=λ⟨h1,h2⟩=>by omega
theorem r6{q:Rat}(h:¬((1:Int)<↑(A1 (zB (AH q.num)))\/(1:Int)<↑(A1 (zB (wH q.den))))):sT q:=⟨A3,A3⟩
theorem mG{n:Nat}(h:A1 (zB n)<=1):n<4294967296:=by
 have:=DO (uT n) (D0 Aa h);omega
theorem hC{d:Nat}(h:(↑(A1 (zB (wH d))):Int)=1):A0 (zB (wH d)) 0 0=d:=by
 by_cases h1:d=1
 · subst h1;rw[aN,xT] at h;simp at h
 · rw[bY h1] at h ⊢
   have h3:=mG (n:=d) A3;have C:d≠0:=yJ.1 A3;rw[gK C h3];rfl
theorem mw{d:Nat}(h0:d≠0)(h:¬(↑(A1 (zB (wH d))):Int)=1)(h1:A1 (zB (wH d))<=1):d=1:=by
 by_cases h2:d=1
 · exact h2
 · rw[bY h2] at h h1
   have:=yJ.2 h0;omega
theorem p0{q:Rat}(h:¬(↑(A1 (zB (wH q.den))):Int)=1)(hs:sT q):q.den=1:=mw q.den_nz h hs.2
theorem tF{q:Rat}(h:sT q):AH q.num<4294967296:=mG h.1
theorem tG{q:Rat}(h:sT q):q.den<4294967296:=by
 by_cases h1:q.den=1
 · omega
 · have h2:=h.2
   rw[bY h1] at h2;exact mG h2
def pN(q:Rat):Nat:=if sT q then (AH q.num) else 0
def pD(q:Rat):Nat:=if sT q then q.den else 0
theorem GO{q:Rat}(h:sT q):pN q=AH q.num:=AC h
theorem oj{q:Rat}(h:¬sT q):pN q=0:=A8 h
theorem G1{q:Rat}(h:sT q):pD q=q.den:=AC h
theorem mq{q:Rat}(h:¬sT q):pD q=0:=A8 h
theorem mR{n:Nat}:uO n=0↔n=0:=by
 unfold uO
 by_cases h:n=0
 · simp[h]
 · simp[h]
theorem iF{Y:Nat}:((↑(A1 (zB Y)):Int)=1/\A0 (zB Y) 0 0=1)↔Y=1:=by
 constructor
 · intro⟨h1,h2⟩
   have h3:=mG (n:=Y) A3;have C:Y≠0:=yJ.1 A3;rw[gK C h3] at h2;exact h2
 · intro h
   subst h;rw[gK A3 A3];exact⟨I,I⟩
theorem Zy{n:Nat}(h:¬(1:Int)<↑(uO n))(h0:n≠0):n=1:=by
 have h1:=iB n;have h2:=D0 (n:=2) Aa (show uO n<=1 by omega);omega
theorem vJ.fin{h:A4}{s:Prop}{n d:Nat}{vn vd:A2}(hn0:n≠0)(hd0:d≠0)(hn:Us .u32 h vn (zB (n/Nat.gcd n d)))(hd:Us .u32 h vd (zB (d/Nat.gcd n d)))(h1:¬((↑(A1 (zB (d/Nat.gcd n d))):Int)=1/\A0 (zB (d/Nat.gcd n d)) 0 0=1)):vJ h (.agg #[vB s,vn,vd]) (mkRat (sg s n) d):=
 vJ.make hn0 hd0 hn (by rw[bY (λe=>h1 (iF.2 e))];exact hd)
theorem vJ.fin1{h:A4}{s:Prop}{n d:Nat}{vn:A2}(hn0:n≠0)(hd0:d≠0)(hn:Us .u32 h vn (zB (n/Nat.gcd n d)))(h1:(↑(A1 (zB (d/Nat.gcd n d))):Int)=1/\A0 (zB (d/Nat.gcd n d)) 0 0=1):vJ h (.agg #[vB s,vn,.slice none 0 0]) (mkRat (sg s n) d):=
 vJ.make hn0 hd0 hn (by rw[iF.1 h1,aN,xT];exact Us.nil _ _)
theorem oE:[1]=zB 1:=(gK A3 A3).symm
theorem N6:A1 (zB 1)=1:=by rw[<-oE];rfl
theorem X7(m n:Nat):A1 (zB (Nat.gcd m n))<=max (A1 (zB m)) (A1 (zB n)):=by
 by_cases h:m=0
 · subst h;rw[Nat.gcd_zero_left];omega
 · have:=yL (Nat.gcd_le_left n (Cu h))
   omega
theorem lG{q:Rat}(h:q=0):yK q=0:=AC h
theorem Ok{q:Rat}(h:q.num<0):yK q= -1:=by
 unfold yK;rw[A8 (λe=>by rw[e] at h;exact absurd h Aa),AC h]
theorem M9{q:Rat}(h:q≠0)(h':¬q.num<0):yK q=1:=by unfold yK;rw[A8 h,A8 h']
theorem fe{q:Rat}(h:(↑(uO (AH q.num)):Int)=0):q=0:=by
 have:=(mR (n:=AH q.num)).1 A3;exact Rat.num_eq_zero.1 A3
theorem m5{q:Rat}(h:q=0):(↑(uO (AH q.num)):Int)=0:=by subst h;decide
theorem Qv{a b:Rat}:zB (wH a.den)=zB (wH b.den)↔a.den=b.den:=by
 refine⟨λh=>?_,λh=>by rw[h]⟩;have h1:=j7 h;have D:=a.den_nz;have C:=b.den_nz;unfold wH at h1
 split at h1<;>split at h1<;>omega
theorem lr{a b:Rat}(h1:a.num=b.num)(h2:a.den=b.den):a=b:=by
 rw[<-Rat.mkRat_self a,<-Rat.mkRat_self b,h1,h2]
theorem W6{a b:Rat}:(((a.num<0↔b.num<0)/\zB (AH a.num)=zB (AH b.num))/\zB (wH a.den)=zB (wH b.den))↔a=b:=by
 refine⟨λ⟨⟨h1,h2⟩,h3⟩=>lr ?_ (Qv.1 h3),λh=>by subst h;simp⟩;have:=j7 h2;omega
theorem Y5{a b:Rat}(h:¬yK a≠yK b):a.num<0↔b.num<0:=by
 have h:=Br h
 by_cases h1:a.num<0<;>by_cases h2:b.num<0
 · simp[h1,h2]
 · rw[Ok h1] at h
   by_cases h3:b=0
   · rw[lG h3] at h;omega
   · rw[M9 h3 h2] at h;omega
 · rw[Ok h2] at h
   by_cases h3:a=0
   · rw[lG h3] at h;omega
   · rw[M9 h3 h1] at h;omega
 · simp[h1,h2]
def cN(a b:Rat):Int:=cD (AH a.num*b.den) (AH b.num*a.den)
theorem Ua(a b:Rat):-1<=cN a b/\cN a b<=1:=by
 unfold cN cD
 split
 · omega
 · split<;>omega
theorem WI{a b:Rat}(h:a.num<0↔b.num<0)(hn:a.num<0):wA a b= -(cN a b):=by rw[Vs a b h,AC hn];rfl
theorem Xz{a b:Rat}(h:a.num<0↔b.num<0)(hn:¬a.num<0):wA a b=cN a b:=by rw[Vs a b h,A8 hn];rfl
theorem k8{a b:Rat}(h:zB (wH a.den)=zB (wH b.den)):cN a b=cD (AH a.num) (AH b.num):=by
 unfold cN cD;rw[Qv.1 h];have C:=Cu b.den_nz
 by_cases h1:AH a.num<AH b.num
 · rw[AC h1,AC (Ll h1 C)]
 · rw[A8 h1,A8 (λe=>h1 (Nat.lt_of_mul_lt_mul_right e))]
   by_cases h2:AH a.num=AH b.num
   · rw[AC h2,h2,AC I]
   · rw[A8 h2,A8 (λe=>h2 (Nat.eq_of_mul_eq_mul_right C e))]
theorem jJ{m n:Nat}(hm:m<4294967296)(hn:n<4294967296):m*n<=18446744065119617025:=by
 have:=Fl (show m<=4294967295 by omega) (show n<=4294967295 by omega);omega
def EL(s:Prop)(b:Rat):Rat:=mkRat (sg s (AH b.num)) b.den
theorem Nx(b:Rat):EL (b.num<0) b=b:=kS b
theorem gx(b:Rat):EL (¬b.num<0) b= -b:=by
 unfold EL;rw[<-tx,kS]
theorem Xi(s:Prop)(b:Rat):lq (EL s b)<=lq b:=GA (wW b) (vT b) (Jv b)
theorem Nz{a b:Rat}{s:Prop}(h:(a.num<0)↔s):a+EL s b=mkRat (sg s (AH a.num*b.den+AH b.num*a.den)) (a.den*b.den):=by
 have:=XX s (n:=AH a.num) (m:=AH b.num) a.den_nz b.den_nz;rw[<-Nb h (AH a.num),kS] at this;exact this
theorem OQ{a b:Rat}{s:Prop}(h:¬((a.num<0)↔s))(hle:AH b.num*a.den<=AH a.num*b.den):a+EL s b=mkRat (sg (a.num<0) (AH a.num*b.den-AH b.num*a.den)) (a.den*b.den):=by
 have:=SU h (n:=AH a.num) (m:=AH b.num) a.den_nz b.den_nz hle;rw[kS] at this;exact this
theorem O5{a b:Rat}{s:Prop}(h:¬((a.num<0)↔s))(hle:AH a.num*b.den<=AH b.num*a.den):a+EL s b=mkRat (sg s (AH b.num*a.den-AH a.num*b.den)) (a.den*b.den):=by
 have:=Um h (n:=AH a.num) (m:=AH b.num) a.den_nz b.den_nz hle;rw[kS] at this;exact this
theorem t3{a b:Rat}{s:Prop}(h:(a.num<0)↔s)(hd:a.den=b.den):a+EL s b=mkRat (sg s (AH a.num+AH b.num)) a.den:=by
 rw[Nz h,<-hd,<-EP,Rr _ _ _ a.den_nz]
theorem qz{a b:Rat}{s:Prop}(h:¬((a.num<0)↔s))(hd:a.den=b.den)(hle:AH b.num<=AH a.num):a+EL s b=mkRat (sg (a.num<0) (AH a.num-AH b.num)) a.den:=by
 rw[OQ h (by rw[<-hd];exact CP _ hle),<-hd,<-KY,Rr _ _ _ a.den_nz]
theorem e4{a b:Rat}{s:Prop}(h:¬((a.num<0)↔s))(hd:a.den=b.den)(hle:AH a.num<=AH b.num):a+EL s b=mkRat (sg s (AH b.num-AH a.num)) a.den:=by
 rw[O5 h (by rw[<-hd];exact CP _ hle),<-hd,<-KY,Rr _ _ _ a.den_nz]
theorem b1(a b:Rat):mkRat (sg (¬((a.num<0)↔(b.num<0))) (AH a.num*AH b.num)) (a.den*b.den)=a*b:=by
 rw[<-Zd,kS,kS]
theorem U7(a:Rat){b:Rat}(hb:b≠0):mkRat (sg (¬((a.num<0)↔(b.num<0))) (AH a.num*b.den)) (a.den*AH b.num)=a/b:=by
 rw[<-Qr _ _ a.den_nz (Lb.2 hb) b.den_nz,kS,kS]
theorem aE{q:Rat}(h:(↑(A1 (zB (AH q.num))):Int)=0):q=0:=by
 refine C7 λC=>?_;have:=yJ.2 (Lb.2 C);omega
theorem qK{q:Rat}:yK q=0↔q=0:=by
 refine⟨λh=>?_,lG⟩;unfold yK at h
 by_cases h1:q=0
 · exact h1
 · rw[A8 h1] at h;split at h<;>omega
def s6(a b:Rat):Rat:=if b<a then b else a
def s7(a b:Rat):Rat:=if a<b then b else a
theorem k2{a b:Rat}(h:wA b a<0):s6 a b=b:=AC (rI.1 h)
theorem p2{a b:Rat}(h:¬wA b a<0):s6 a b=a:=A8 (λe=>h (rI.2 e))
theorem bh{a b:Rat}(h:0<wA b a):s7 a b=b:=AC (oP.1 h)
theorem qf{a b:Rat}(h:¬0<wA b a):s7 a b=a:=A8 (λe=>h (oP.2 e))
theorem h9(a b:Rat):lq (s6 a b)<=max (lq a) (lq b):=by unfold s6;split<;>omega
theorem dt(a b:Rat):lq (s7 a b)<=max (lq a) (lq b):=by unfold s7;split<;>omega
def aI:Rat:=mkRat (sg False 1) 2
theorem t6:aI.num=1/\aI.den=2:=by
 unfold aI;rw[j6 A3,PO A3,eD id];exact⟨I,I⟩
theorem vn{h:A4}{v:A2}(s:Us .u32 h v (zB 1)):Us .u32 h v (zB (AH aI.num)):=by
 rw[t6.1];exact s
theorem b8{h:A4}{v:A2}(s:Us .u32 h v [2]):Us .u32 h v (zB (wH aI.den)):=by
 rw[t6.2,bY A3,gK A3 A3];exact s
theorem mh:vB (aI.num<0)=.bool false:=yH (by rw[t6.1];decide)
theorem Tc:lq aI<=1:=GA (by rw[gK A3 A3];simp) (by rw[gK A3 A3];simp) A3
theorem ms:aI=1/2:=by
 unfold aI;rw[cY,iW id]
 rfl
def iX(a b:Rat):Rat:=(a+b)*aI
theorem UC(a b:Rat):lq (iX a b)<=lq a+lq b+2:=by
 have h1:=iC (a+b) aI;have h2:=iD a b;have h3:=Tc;unfold iX;omega
def kN(k:Int):Nat:=(min (max k 0) 4096).toNat
theorem Qx(a b:Rat):lq (if b=0 then 0 else a/b)<=lq a+lq b:=by
 have:=bz a b;have h1:=Jv a
 split
 · rw[Lh];omega
 · exact this
theorem Ut{p:Prop} [Decidable p](h:(if p then 7 else 0:Int)=0):¬p:=by
 intro C;rw[AC C] at h;omega
theorem Ty{p:Prop} [Decidable p](h:¬(if p then 7 else 0:Int)=0):p:=by
 refine C7 λC=>h ?_;rw[A8 C]
def MV(q:Rat):Int:=max (↑(uO (AH q.num)):Int) ↑(uO q.den)
theorem kH{n:Int}(h1:-9223372036854775808<=n)(h2:n<9223372036854775808):A1 (zB (AH n))<=2:=gP A3
def sQ(n d:Int):Rat:=(n:Rat)/(d:Rat)
theorem Rn(n:Int):sQ n 0=0:=by
 unfold sQ;have:((0:Int):Rat)=0:=I;rw[this];grind
theorem MR(n:Int):mkRat (sg (n<0) (AH n)) 1=(n:Rat):=by
 have e:sg (n<0) (AH n)=n:=by
  by_cases h:n<0
  · rw[iV h];omega
  · rw[eD h];omega
 rw[e,Rat.mkRat_one]
theorem QL{n d:Int}(hd:d≠0):mkRat (sg (¬((n<0)↔(d<0))) (AH n)) (AH d)=sQ n d:=by
 unfold sQ;rw[<-MR n,<-MR d,Qr _ _ A3 A3 A3,F9,IS]
theorem mP(n:Int)(h1:-9223372036854775808<=n)(h2:n<9223372036854775808):lq (n:Rat)<=2:=by
 rw[<-MR];exact GA (kH h1 h2) (by rw[N6];omega) A3
theorem MF{n d:Int}(h1:-9223372036854775808<=n)(h2:n<9223372036854775808)(h3:-9223372036854775808<=d)(h4:d<9223372036854775808):lq (sQ n d)<=2:=by
 by_cases hd:d=0
 · subst hd;rw[Rn,Lh];omega
 · rw[<-QL hd];exact GA (kH h1 h2) (kH h3 h4) A3
theorem Uf{xs:List Nat}:(↑(A1 xs):Int)=0↔xs=[]:=⟨λh=>DG A3,λh=>by rw[h];rfl⟩
theorem WW{g:Nat}(h:¬((↑(A1 (zB g)):Int)≠1\/A0 (zB g) 0 0≠1)):g=1:=
 iF.1 ⟨Br λe=>h (.inl e),Br λe=>h (.inr e)⟩
theorem te{a b:Rat}:(((a.num<0)↔(b.num<0))/\cD (AH a.num) (AH b.num)=0)/\cD (wH a.den) (wH b.den)=0↔a=b:=by
 rw[Rb,Rb,<-W6];constructor
 · rintro⟨⟨h1,h2⟩,h3⟩
   exact⟨⟨h1,by rw[h2]⟩,by rw[h3]⟩
 · rintro⟨⟨h1,h2⟩,h3⟩
   exact⟨⟨h1,j7 h2⟩,j7 h3⟩
theorem bd{q:Rat}:(↑(A1 (zB (AH q.num))):Int)=0↔q=0:=by
 refine⟨aE,λh=>?_⟩;subst h;rw[show(AH (0:Rat).num)=0 from I,xT];rfl
theorem a2{q:Rat}(h:¬(↑(A1 (zB (AH q.num))):Int)=0):q≠0:=λe=>h (bd.2 e)
theorem tp{a b:Rat}(h:(a.num<0)↔(b.num<0)):mkRat (sg (a.num<0) (AH a.num*b.den+AH b.num*a.den)) (a.den*b.den)=a+b:=by
 have:=Nz (a:=a) (b:=b) h;rw[Nx,Nb h.symm] at this;exact this.symm
theorem gk{a b:Rat}(h:¬((a.num<0)↔(b.num<0)))(hle:AH b.num*a.den<=AH a.num*b.den):mkRat (sg (a.num<0) (AH a.num*b.den-AH b.num*a.den)) (a.den*b.den)=a+b:=by
 have:=OQ (a:=a) (b:=b) h hle;rw[Nx] at this;exact this.symm
theorem hu{a b:Rat}(h:¬((a.num<0)↔(b.num<0)))(hle:AH a.num*b.den<=AH b.num*a.den):mkRat (sg (b.num<0) (AH b.num*a.den-AH a.num*b.den)) (a.den*b.den)=a+b:=by
 have:=O5 (a:=a) (b:=b) h hle;rw[Nx] at this;exact this.symm
theorem dv{h:A4}{v:A2}{n:Int}(s:Us .u32 h v (zB (AH n))):Us .u32 h v (zB (AH (n:Rat).num)):=by
 rw[Rat.num_intCast];exact s
theorem jd{h:A4}{n:Int}:Us .u32 h (.slice none 0 0) (zB (wH (n:Rat).den)):=by
 rw[Rat.den_intCast,aN,xT];exact Us.nil _ _
theorem vJ.int{h:A4}{v:A2}{n:Int}(s:Us .u32 h v (zB (AH n))):vJ h (.agg #[vB (n<0),v,.slice none 0 0]) (n:Rat):=
 ⟨v,.slice none 0 0,by rw[Rat.num_intCast],dv s,jd⟩
theorem TZ:sQ 1 2=aI:=by rw[ms];rfl
end Bk
namespace Bk
open Go Go.RowKit
def gR(k:Nat)(v:A2)(lo hi mx:Nat):A2:=
 match v with
 | .slice a _ _=>.slice (if mx=lo then a else a.map (·.add (lo*k))) (hi-lo) (mx-lo)
 |_=>undef
section
variable {P:D}{n:Nat}{w0:AP}{h0:A4}{e:List (Nat×A2)}{L:List AG}{h:A4}{Q:BH->Av->AP->Prop}
variable {ds:Option Tmp}{ty:Ab}{ps:String}{af:Array Edge}{gd:Option (Nat×Bool)}
theorem Sl.sub3{h:A4}{k:Nat}{v:A2}{m:Nat}{cs:List A2}(s:Sl h k v m cs){lo hi mx:Nat}(h1:lo<=hi)(h2:hi<=mx)(h3:mx<=m):Sl h k (gR k v lo hi mx) (hi-lo) ((cs.drop (lo*k)).take ((hi-lo)*k)):=by
 obtain⟨a,aa,rfl,h4,h5,h6,Z⟩:=s;refine⟨_,_,I,A3,A3,?_,λi J=>?_⟩
 · rw[By,Cn,h6]
   have:=CP k (show lo+(hi-lo)<=m by omega);rw[EP] at this;omega
 · rw[By,Cn] at J
   have D:i<(hi-lo)*k:=by omega
   have C:0<(hi-lo)*k:=by omega
   have H:lo<hi:=by
    rcases DR lo hi with h'|h'
    · exact h'
    · rw[show hi-lo=0 by omega,E2] at C;omega
   obtain⟨b,o,U,M⟩:=Z (lo*k+i) A3;subst U;refine⟨b,o+lo*k,by rw[A8 A3];simp[kD],?_⟩;rw[Dj,AC D,F5,<-M,FP]
theorem Us.sub3{k:B2}{h:A4}{v:A2}{xs:List Nat}(s:Us k h v xs){lo hi mx:Nat}(h1:lo<=hi)(h2:hi<=mx)(h3:mx<=A1 xs):Us k h (gR 1 v lo hi mx) ((xs.drop lo).take (hi-lo)):=by
 have:=s.sl.sub3 h1 h2 h3;simp only[F9] at this;refine⟨?_,λx hx=>s.lt x (IJ (HH hx))⟩;have C:A1 ((xs.drop lo).take (hi-lo))=hi-lo:=by rw[By,Cn];omega
 rw[C]
 simpa[us] using this
theorem St.own_shape{E:Nat}{k:B2}{v:A2}{xs:List Nat}{w:AP}(S:St w0 h0 L h w)(hm:.us E k v xs∈L):∃a cap,v=.slice a (A1 xs) cap/\A1 xs<=cap/\cap<=maxLen/\(0<A1 xs->∃g,a=some ⟨g,0,none⟩):=by
 obtain⟨D,C⟩:=S.ok _ hm
 rcases C with⟨rfl,h0'⟩|⟨g,cap,cur,rfl,hb,hg,hn,hcm,hcs,ht⟩
 · exact⟨none,0,by rw[h0'],A3,A3,λh=>by omega⟩
 · exact⟨_,cap,I,hn,hcm,λ_=>⟨g,I⟩⟩
theorem St.own_self{E:Nat}{k:B2}{v:A2}{xs:List Nat}{w:AP}(S:St w0 h0 L h w)(hm:.us E k v xs∈L):v=tA 1 v 0 (A1 xs):=by
 obtain⟨a,C,rfl,h1,h2,h3⟩:=S.own_shape hm;simp only[tA,E2,H3]
 by_cases hc:C=0
 · rw[AC hc]
 · rw[A8 hc]
   cases a with
   |none=>rfl
   |some x=>
    obtain⟨b,o,D⟩:=x;simp[Addr.add]
theorem pd{E:Nat}{k:B2}{v:A2}{xs:List Nat}{t E':Ab}{x lo:Ag}{p:Int}(hm:.us E k v xs∈L)(i:Nat)(ht:P.underlying t=some (.slice E'))(hsz:∀w,(Go.sizeOf E').run P w=.ok 1 w)(hx:zK e x=some v)(hl:zK e lo=some (vI p))
    (hp:p=(i:Int))(h1:i<=A1 xs):OpV P n w0 h0 ⟨ds,.slice t x (some lo) none none,ty,ps,af,gd⟩ e L h (tA 1 v i (A1 xs)):=by
 intro a w M S;obtain⟨J,C,D,H,_⟩:=S.own_shape hm;exact jU i ht hsz hx hl ⟨J,C,D,H⟩ hp h1 a w M S
theorem ph{t E:Ab}{w:AP}(ht:P.underlying t=some (.slice E))(hsz:∀w,(Go.sizeOf E).run P w=.ok 1 w)(a:Option Addr)(m cap lo hi mx:Nat)(h1:lo<=hi)(h2:hi<=mx)(h3:mx<=cap):
 (Instr.sliceAt t (.slice a m cap) (some (vI lo)) (some (vI hi)) (some (vI mx))).run P w=.ok (gR 1 (.slice a m cap) lo hi mx) w:=by
 simp[Instr.sliceAt,Instr.slice,run_underlying ht,Instr.sliceBounds,Instr.sliceBound,asIntOf,vI,hsz,gR,h1,h2,h3]
theorem el{t E:Ab}{w:AP}(ht:P.underlying t=some (.slice E))(hsz:∀w,(Go.sizeOf E).run P w=.ok 1 w)(a:Option Addr)(m cap hi mx:Nat)(h2:hi<=mx)(h3:mx<=cap):
 (Instr.sliceAt t (.slice a m cap) none (some (vI hi)) (some (vI mx))).run P w=.ok (gR 1 (.slice a m cap) 0 hi mx) w:=by
 simp[Instr.sliceAt,Instr.slice,run_underlying ht,Instr.sliceBounds,Instr.sliceBound,asIntOf,vI,hsz,gR,h2,h3]
theorem qu{E:Nat}{k:B2}{v:A2}{xs:List Nat}{t E':Ab}{x lo hi mx:Ag}{p q r:Int}(hm:.us E k v xs∈L)(i j l:Nat)(ht:P.underlying t=some (.slice E'))(hsz:∀w,(Go.sizeOf E').run P w=.ok 1 w)(hx:zK e x=some v)(hl:zK e lo=some (vI p))(hh:zK e hi=some (vI q))(hmx:zK e mx=some (vI r))
    (hp:p=(i:Int))(hq:q=(j:Int))(hr:r=(l:Int))(h1:i<=j)(h2:j<=l)(h3:l<=A1 xs):OpV P n w0 h0 ⟨ds,.slice t x (some lo) (some hi) (some mx),ty,ps,af,gd⟩ e L h (gR 1 v i j l):=by
 subst hp;subst hq;subst hr;intro a w C S;obtain⟨H,D,rfl,J,_⟩:=S.own_shape hm;have:=ph (P:=P) (w:=w) ht hsz H (A1 xs) D i j l h1 h2 A3;simp[execOp,C.eval hx,C.eval hl,C.eval hh,C.eval hmx,this]
theorem lk{E:Nat}{k:B2}{v:A2}{xs:List Nat}{t E':Ab}{x hi mx:Ag}{q r:Int}(hm:.us E k v xs∈L)(j l:Nat)(ht:P.underlying t=some (.slice E'))(hsz:∀w,(Go.sizeOf E').run P w=.ok 1 w)(hx:zK e x=some v)(hh:zK e hi=some (vI q))(hmx:zK e mx=some (vI r))
    (hq:q=(j:Int))(hr:r=(l:Int))(h2:j<=l)(h3:l<=A1 xs):OpV P n w0 h0 ⟨ds,.slice t x none (some hi) (some mx),ty,ps,af,gd⟩ e L h (gR 1 v 0 j l):=by
 subst hq;subst hr;intro a w D S;obtain⟨H,C,rfl,J,_⟩:=S.own_shape hm;have:=el (P:=P) (w:=w) ht hsz H (A1 xs) C j l h2 A3;simp[execOp,D.eval hx,D.eval hh,D.eval hmx,this]
theorem W7{E:Nat}{k:B2}{v u:A2}{xs:List Nat}{t E':Ab}{x y:Ag}{q:Int}{lo:Nat}(hm:.us E k v xs∈L)(hu:u=tA 1 v lo (A1 xs))(i:Nat)(ht:P.underlying t=some (.slice E'))(hsz:∀w,(Go.sizeOf E').run P w=.ok 1 w)(hx:zK e x=some u)(hy:zK e y=some (vI q))
    (hq:q=(i:Int))(hi:lo+i<A1 xs):OpV P n w0 h0 ⟨ds,.indexAddr t x y,ty,ps,af,gd⟩ e L h (zH 1 v (lo+i)):=by
 subst hq;subst hu;intro a w H S;obtain⟨ad,D,rfl,Z,U,M⟩:=S.own_shape hm;obtain⟨g,rfl⟩:=M A3;have C:¬D=lo:=by omega
 have h2:(i:Int)<((A1 xs-lo:Nat):Int):=by omega
 have h3:(0:Int)<=(i:Int):=by omega
 simp only[tA,A8 C,LN,kD,F9,E6] at hx;simp[execOp,H.eval hx,H.eval hy,Instr.indexAt,asIntOf,vI,run_underlying ht,h2,h3,hsz,zH,kD];intro J;omega
theorem o8{ops:Array AY}{l:List AY}{E:Nat}{k:B2}{v:A2}{xs:List Nat}(hm:.us E k v xs∈L)(k':∀a cap,v=.slice a (A1 xs) cap->A1 xs<=cap->GL P n w0 h0 ops Q l e L h):GL P n w0 h0 ops Q l e L h:=by
 intro a w J S;obtain⟨H,cap,C,D,_⟩:=S.own_shape hm;exact k' H cap C D a w J S
theorem y8{ops:Array AY}{l:List AY}{A B:List AG}{r:AG}(k':GL P n w0 h0 ops Q l e (r::(A++B)) h):GL P n w0 h0 ops Q l e (A++r::B) h:=
 λa w Ev S=>k' a w Ev (S.perm J2)
theorem tm{f:Nat}{xs:List Ag}{ts:Array Ab}{vs:List A2}{v:A2}(hcall:∀w,(callFunc f vs.toArray).run P w=.ok (.value v) w)(hvs:pP e xs vs):
 OpV P n w0 h0 ⟨ds,.call {callee:=.value (.func f),args:=Am xs,argTypes:=ts},ty,ps,af,gd⟩ e L h v:=by
 intro a w D S;have C:(Am xs).map a.eval=vs.toArray:=by rw[Ey,D.evals hvs]
 simp only[execOp,resolve,Av.eval];simp[Deferred.ofValue,invoke,hcall,C]
theorem uY.nil{ops:Array AY}:uY P n ops []:=λx hx=>by cases hx
theorem uY.cons{ops:Array AY}{i d E:Nat}{cs:List A2}{al:Co}(hop:(ops.getD i default).op=.alloc E)(hd:Nat.ble (d+1) n=true)(hz:∀w,∃z,(zeroValue E).run P w=.ok z w/\z.cells=Am cs)(h:uY P n ops al):uY P n ops ((i,(d,E,cs))::al):=by
 intro x hx
 rcases BY.1 hx with rfl|hx
 · refine⟨Bm hd,λa w=>?_,λJ H=>?_⟩
   · obtain⟨z,D,C⟩:=hz w
     simp only[execOp,hop,Instr.alloc,Hg,I9];simp[D,newVar,newRow,newObj,Sem.run,C]
   · simp only[hop,I9] at H
     cases H
 · exact h x hx
theorem vG{E:Ab}{i:TypeInfo}{z:A2}{cs:List A2}(hi:P.info? E=some i)(hz:i.zero=some z)(hc:z.cells=Am cs)(w:AP):∃z,(zeroValue E).run P w=.ok z w/\z.cells=Am cs:=
 ⟨z,by simp[zeroValue,typeInfo,hi,hz],hc⟩
theorem qT{e:List (Nat×A2)}{al:Co}:∀x∈([]:Co),al.lookup x.1=some x.2/\e.lookup x.2.1=none:=λx hx=>by cases hx
theorem vH{e:List (Nat×A2)}{al al':Co}{y:Nat×(Nat×Ab×List A2)}(h1:al.lookup y.1=some y.2)(h2:e.lookup y.2.1=none)(h:∀x∈al',al.lookup x.1=some x.2/\e.lookup x.2.1=none):∀x∈y::al',al.lookup x.1=some x.2/\e.lookup x.2.1=none:=by
 intro x hx
 rcases BY.1 hx with rfl|hx
 · exact⟨h1,h2⟩
 · exact h x hx
end
end Bk
namespace Bk
open Go Go.RowKit
open Classical
section
variable {P:D}{n:Nat}{w0:AP}{h0:A4}{e:List (Nat×A2)}{L:List AG}{h:A4}{Q:BH->Av->AP->Prop}
variable {ds:Option Tmp}{ty:Ab}{ps:String}{af:Array Edge}{gd:Option (Nat×Bool)}
def LH(P:D)(c:Code)(Q:BH->Av->AP->Prop)(a:Av)(w:AP):Prop:=
 ∀(b:Frame) (k:List Item) (cs:List Frame),∃x a' w',Q x a' w'/\Arrives P (lone (b.at a (.code c::.inLoop c::k)) cs w) b k cs x a' w'
theorem YT{c:Code}{a:Av}{w:AP}(hw:c.wp P (BH.then (LH P c Q) Q) a w):LH P c Q a w:=by
 intro b k cs;obtain⟨x,M,J,H,C⟩:=hw b (.inLoop c::k) cs
 cases x with
 |normal=>
  obtain⟨Z,a2,w2,U,D⟩:=H b k cs;exact⟨Z,a2,w2,U,.of_steps (Steps.trans C (.one step_inLoop)) D⟩
 |exit id=>exact⟨_,M,J,H,.pass (x:=.inLoop c) rfl (λ_ _=>.inl B9) C⟩
 |goto l=>exact⟨_,M,J,H,.pass (x:=.inLoop c) rfl (λ_ _=>.inl B9) C⟩
 |ret=>exact⟨_,M,J,H,.pass (x:=.inLoop c) rfl (λ_ _=>.inl B9) C⟩
 |panic ch=>exact⟨_,M,J,H,.pass (x:=.inLoop c) rfl (λ_ _=>.inl B9) C⟩
 |outgrown=>exact⟨_,M,J,H,.pass (x:=.inLoop c) rfl (λ_ _=>.inl B9) C⟩
theorem fC{c:Code}(k:GC P n w0 h0 c (BH.then (LH P c Q) Q) e L h):GC P n w0 h0 (.loop c) Q e L h:=by
 intro a w E S b H cs;obtain⟨x,M,D,J,C⟩:=YT (k a w E S) b H cs;exact⟨x,M,D,J,.of_steps (.one step_loop) C⟩
theorem wJ{c:Code}(k:GC P n w0 h0 c (BH.then (LH P c Q) Q) e L h):GQ n w0 h0 (BH.then (LH P c Q) Q) .normal e L h:=
 λa w E S=>YT (k a w E S)
theorem OpV.cv{o:AY}{v v':A2}(hv:OpV P n w0 h0 o e L h v)(e':v=v'):OpV P n w0 h0 o e L h v':=e'▸hv
end
end Bk
namespace Bk
open Go Go.RowKit
section
variable {P:D}{n:Nat}{w0:AP}{h0:A4}{e:List (Nat×A2)}{L:List AG}{h:A4}
variable {ds:Option Tmp}{ty:Ab}{ps:String}{af:Array Edge}{gd:Option (Nat×Bool)}
theorem gX{x:Ag}{b k:Nat}(hx:zK e x=some (vP b k)):OpV P n w0 h0 ⟨ds,.nilCheck x,ty,ps,af,gd⟩ e L h (vP b k):=by
 intro a w C S;simp[execOp,C.eval hx]
theorem zM{t E:Ab}{x y:Ag}{b k m sz:Nat}{q:Int}(i:Nat)(ht:P.underlying t=some (.array m E))(hsz:∀w,(Go.sizeOf E).run P w=.ok sz w)(hx:zK e x=some (vP b k))(hy:zK e y=some (vI q))(hq:q=(i:Int))(hi:i<m):
 OpV P n w0 h0 ⟨ds,.indexAddr t x y,ty,ps,af,gd⟩ e L h (vP b (k+i*sz)):=by
 subst hq;intro a w C S;simp[execOp,C.eval hx,C.eval hy,Instr.indexAt,vI,asIntOf,run_underlying ht,hsz,Instr.sureAddr,hi,kD]
theorem g6{t E:Ab}{m sz:Nat}{i:TypeInfo}{z:A2}{parts:List (Nat×Ag)}{ps':List (Nat×A2)}{vs:List A2}(ht:P.underlying t=some (.array m E))(hi:P.info? t=some i)(hz:i.zero=some z)
    (hsz:∀w,(Go.sizeOf E).run P w=.ok sz w)(hp:iR e parts ps')(hf:Instr.fill (λi=>some (i*sz,sz)) z.cells ps'=some vs.toArray):
    OpV P n w0 h0 ⟨ds,.build t (Am parts),ty,ps,af,gd⟩ e L h (.agg vs.toArray):=by
 intro a w H S;have D:((Am parts).map λ(p:Nat×Ag)=>(p.1,a.eval p.2)).toList=ps':=by
  rw[Ey];exact hp.eval H
 have C:(zeroValue t).run P w=.ok z w:=by simp[zeroValue,typeInfo,hi,hz]
 simp only[execOp,Instr.build];rw[show((Am parts).map λ(i,x)=>(i,a.eval x)).toList=ps' from D];simp only[Sem.run_bind,C,Result.andThen_ok,run_underlying ht,hsz,hf]
 rfl
end
theorem nm{x:Int}(h:(Lit.int .i64 x).wf=true):-9223372036854775808<=x/\x<9223372036854775808:=by
 simp only[Lit.wf,Ap,CH] at h;simp[B2.min,B2.max,B2.signed,B2.bits] at h;omega
theorem Yx{xs:List Nat}(h:∀x∈xs,x<256):X1 (uR xs)=xs:=by
 simp only[X1,uR,Oz]
 conv=>rhs;rw[<-List.map_id xs]
 refine Mg λx hx=>?_;simp only[Function.comp,id];exact CG (h x hx)
end Bk
namespace Bk
open Go Go.RowKit
open Classical
structure Is(h:A4)(v:A2)(xs:List Int):Prop where
 sl:Sl h 1 v (A1 xs) (xs.map vI)
 rng:∀x∈xs,-9223372036854775808<=x/\x<9223372036854775808
theorem Is.mono{h h':A4}{v:A2}{xs:List Int}(s:Is h v xs)(hh:MLe h h'):Is h' v xs:=⟨s.sl.mono hh,s.rng⟩
theorem Is.nil(h:A4):Is h (.slice none 0 0) []:=⟨Sl.nil h 1,B9⟩
theorem Is.one{h:A4}{v:A2}{xs:List Int}(s:Is h v xs):∃a cap,v=.slice a (A1 xs) cap:=s.sl.one
theorem Is.lt63{h:A4}{v:A2}{xs:List Int}(s:Is h v xs):A1 xs<9223372036854775808:=s.sl.lt63
theorem Is.cells{h:A4}{v:A2}{xs:List Int}(s:Is h v xs):v.cells=[v].toArray:=by
 obtain⟨a,C,rfl⟩:=s.one
 rfl
theorem is_of_row{w:AP}{a:Option Addr}{len cap:Nat}{zs:List Int}
    (h:(a=none/\len=0/\cap=0/\zs=[])\/∃x,a=some x/\len<=cap/\cap<=maxLen/\A1 zs=cap/\(∀i,i<A1 zs->w.cell? (x.add i)=some (.int .i64 (A0 zs i 0)))/\∀n∈zs,(Lit.int .i64 n).wf=true):
    ∃xs:List Int,Is (BE w) (.slice a len cap) xs:=by
 rcases h with⟨rfl,rfl,rfl,rfl⟩|⟨x,rfl,h1,h2,h3,h4,h5⟩
 · exact⟨[],Is.nil _⟩
 · refine⟨zs.take len,⟨?_,?_⟩⟩
   · have M:A1 (zs.take len)=len:=by simp;omega
     rw[M];refine⟨_,cap,I,h1,h2,by simp;omega,λi hi=>?_⟩;have D:i<len:=by simp at hi;omega
     have H:=h4 i A3;have C:(x.add 0).spot=none:=AP.cell?_spot (h4 0 A3);obtain⟨b,o,U⟩:=x;simp[Addr.add] at C;subst C;refine⟨b,o,I,?_⟩;rw[kD] at H;rw[v8 H,FA,Dj,AC D,BV A3];rw[Au,BV A3]
     rfl
   · intro n J
     exact nm (h5 n (HH J))
section
variable {P:D}{n:Nat}{w0:AP}{h0:A4}{e:List (Nat×A2)}{L:List AG}{h:A4}{Q:BH->Av->AP->Prop}
variable {ds:Option Tmp}{ty:Ab}{ps:String}{af:Array Edge}{gd:Option (Nat×Bool)}
theorem To{v:A2}{xs:List Int}{t E:Ab}{x:Ag}(ht:P.underlying t=some (.slice E))(hx:zK e x=some v)(hv:Is h v xs):
 OpV P n w0 h0 ⟨ds,.call {callee:=.builtin .len,args:=#[x],argTypes:=#[t]},ty,ps,af,gd⟩ e L h (vI (A1 xs:Int)):=oC ht hx hv.one
theorem fa{v:A2}{xs:List Int}{t E:Ab}{x y:Ag}{q:Int}(i:Nat)(ht:P.underlying t=some (.slice E))(hsz:∀w,(Go.sizeOf E).run P w=.ok 1 w)(hx:zK e x=some v)(hy:zK e y=some (vI q))
    (hv:Is h v xs)(hq:q=(i:Int))(hi:i<A1 xs):OpV P n w0 h0 ⟨ds,.indexAddr t x y,ty,ps,af,gd⟩ e L h (zH 1 v i):=dV i ht hsz hx hy hv.sl hq hi A3
theorem ut{v:A2}{xs:List Int}{t:Ab}{x:Ag}{i:Nat}(ha:∀w,(isAgg t).run P w=.ok false w)(hx:zK e x=some (zH 1 v i))(hv:Is h v xs)(hi:i<A1 xs):
 OpV P n w0 h0 ⟨ds,.load t x,ty,ps,af,gd⟩ e L h (vI (A0 xs i 0)):=
 PU ha hx hv.sl (by rw[FA,BV hi,Au,BV hi];rfl)
theorem vA{t yt:Ab}{x y:Ag}{p q:Int}(hx:zK e x=some (vI p))(hy:zK e y=some (vI q))(h3:0<q):
 OpV P n w0 h0 ⟨ds,.binOp .rem t x y yt,ty,ps,af,gd⟩ e L h (vI (p.tmod q)):=by
 intro a w E S;have C:q≠0:=by omega
 simp[execOp,E.eval hx,E.eval hy,vI,wB,binOp,Op.intDiv,C]
end
def Im(w0:AP)(h0:A4)(h:A4)(L:List AG)(G:A4->A2->AG->Prop):Ending->AP->Prop:=
 gV w0 h0 (λg v K=>∃q',(q'::L).Sublist K/\MLe h g/\G g v q')
section
variable {P:D}{n:Nat}{w0:AP}{h0:A4}{e:List (Nat×A2)}{L:List AG}{h:A4}{Q:BH->Av->AP->Prop}
variable {ty:Ab}{ps:String}{af:Array Edge}
theorem xJ{ops:Array AY}{rest:List AY}{d f:Nat}{xs:List Ag}{ts:Array Ab}{vs:List A2}{A B:List AG}{q:AG}{G:A4->A2->AG->Prop}(hcall:∀args w,(callFunc f args).run P w=.ok (.enter f args) w)(hvs:pP e xs vs)
    (hc:∀X w,St w0 h0 (q::X) h w->Calls P f vs.toArray w (Im w0 h0 h X G))(hn:Nat.ble (d+1) n=true)(k:∀v g q',MLe h g->G g v q'->GL P n w0 h0 ops Q rest ((d,v)::e) (A++q'::B) g):
    GL P n w0 h0 ops Q (⟨some d,.call {callee:=.value (.func f),args:=Am xs,argTypes:=ts},ty,ps,af,none⟩::rest) e (A++q::B) h:=by
 refine y8 ?_;refine aK I I I hn hcall hvs (hc (A++B)) ?_
 rintro v g K ⟨q',D,C,H⟩
 have:=k v g q' C H;exactλa w J S=>this a w J ((S.sublist D).perm J2.symm)
section
variable {ops:Array AY}{R:List AG}{d:Nat}
theorem ZN{A B:List AG}{q:AG}:∀r∈A++B,r∈A++q::B:=by
 intro r C;simp only[Cy,BY] at C ⊢
 rcases C with h|h
 · exact .inl h
 · exact .inr (.inr h)
theorem qM{Q:BH->Av->AP->Prop}{id:Nat}{l:List AY}{A B:List AG}{q:AG}(m:Nat)(al:Co)(ord:List (Nat×Kd))(hm:P.follows .mixedOrders=true)(hal:uY P n (Am l) al)
    (hchk:(Region.noSelect (Am l)&&bA (Am l) al&&(al.all λx=>decide (x.1<m))&&C0 (Am l) m ord (Array.replicate (A1 l) false) (al.map (·.1)))=true)(hae:∀x∈al,al.lookup x.1=some x.2/\e.lookup x.2.1=none)
    (k:W P n w0 h0 (Am l) Q (A++B) al ord e (A++q::B) h):GC P n w0 h0 (.region id (Am l) true) Q e (A++q::B) h:=zG m (A++B) al ord hm hal hchk hae ZN k
theorem yP{R A B:List AG}{q:AG}(hR:∀r∈R,r∈A++B):∀r∈R,∀q',r∈A++q::B->r∈A++q'::B:=λr hr q' _=>ZN r (hR r hr)
end
end
def JU(p q:Int):Int:=if p.tmod q<0 then p.tmod q+q else p.tmod q
theorem X8(p:Int){q:Int}(hq:0<q):-q<p.tmod q/\p.tmod q<q:=by
 have h1:=Int.tmod_lt_of_pos p hq;have h2:=Int.tmod_lt_of_pos (-p) hq;rw[Int.neg_tmod] at h2;omega
theorem ec(p:Int){q:Int}(hq:0<q):0<=JU p q/\JU p q<q:=by
 have:=X8 p hq;unfold JU
 split<;>omega
theorem cq{v:A2}(h:v.oneCell'=true):v.cells=#[v]:=by cases v<;>simp[A2.oneCell'] at h<;>rfl
structure Rp(α:Type) where
 n:Nat
 agg:Bool
 R:A4->List A2->α->Prop
 len:∀{h cs x},R h cs x->A1 cs=n
 mono:∀{h h' cs x},MLe h h'->R h cs x->R h' cs x
 one:∀{h cs x},R h cs x->cs.all (·.oneCell')=true
 cell:agg=false->n=1
section
variable {α β γ δ:Type}
def Rp.val(ρ:Rp α)(cs:List A2):A2:=if ρ.agg then .agg (Am cs) else cs.headD undef
def Rp.Is(ρ:Rp α)(h:A4)(v:A2)(x:α):Prop:=∃cs,ρ.R h cs x/\v=ρ.val cs
theorem Rp.Is.mono{ρ:Rp α}{h h':A4}{v:A2}{x:α}(s:ρ.Is h v x)(hh:MLe h h'):ρ.Is h' v x:=by
 obtain⟨cs,r,e⟩:=s;exact⟨cs,ρ.mono hh r,e⟩
theorem Rp.single{ρ:Rp α}{h:A4}{cs:List A2}{x:α}(r:ρ.R h cs x)(ha:ρ.agg=false):∃c,cs=[c]/\c.oneCell'=true:=by
 have h1:=ρ.len r;have h2:=ρ.one r;rw[ρ.cell ha] at h1
 match cs,h1 with
 |[c],_=>exact⟨c,rfl,by simpa using h2⟩
theorem Rp.cells_val{ρ:Rp α}{h:A4}{cs:List A2}{x:α}(r:ρ.R h cs x):(ρ.val cs).cells=Am cs:=by
 unfold Rp.val
 split
 · rfl
 · rename_i ha
   obtain⟨c,rfl,C⟩:=Rp.single r (by simpa using ha);exact cq C
theorem Rp.Is.cells{ρ:Rp α}{h:A4}{v:A2}{x:α}(s:ρ.Is h v x):∃cs,ρ.R h cs x/\v.cells=Am cs:=by
 obtain⟨cs,r,rfl⟩:=s;exact⟨cs,r,Rp.cells_val r⟩
theorem Rp.Is.cast{ρ:Rp α}{h:A4}{v:A2}{x y:α}(s:ρ.Is h v x)(e:x=y):ρ.Is h v y:=e▸s
def RL(ρ:Rp α)(h:A4):List A2->List α->Prop
  |cs,[]=>cs=[]
  |cs,x::xs=>∃a b,cs=a++b/\ρ.R h a x/\RL ρ h b xs
theorem RL.len{ρ:Rp α}{h:A4}:∀{xs:List α} {cs:List A2},RL ρ h cs xs->A1 cs=A1 xs*ρ.n
  |[],_,r=>by rw[r];simp
  |x::xs,_,⟨a,b,e,r,s⟩=>by rw[e,BJ,ρ.len r,s.len,lC,EP];omega
theorem RL.mono{ρ:Rp α}{h h':A4}(hh:MLe h h'):∀{xs:List α} {cs:List A2},RL ρ h cs xs->RL ρ h' cs xs
  |[],_,r=>r
  |_::_,_,⟨a,b,e,r,s⟩=>⟨a,b,e,ρ.mono hh r,s.mono hh⟩
theorem RL.one{ρ:Rp α}{h:A4}:∀{xs:List α} {cs:List A2},RL ρ h cs xs->cs.all (·.oneCell')=true
  |[],_,r=>by rw[r];rfl
  |_::_,_,⟨a,b,e,r,s⟩=>by rw[e,List.all_append,ρ.one r,s.one];rfl
theorem RL.append{ρ:Rp α}{h:A4}:∀{xs ys:List α} {cs ds:List A2},RL ρ h cs xs->RL ρ h ds ys->RL ρ h (cs++ds) (xs++ys)
  |[],_,_,_,r,s=>by rw[r];exact s
  |_::_,_,_,_,⟨a,b,e,r,s⟩,t=>⟨a,_,by rw[e,Ck],r,s.append t⟩
theorem RL.nil{ρ:Rp α}{h:A4}:RL ρ h [] []:=rfl
theorem RL.drop{ρ:Rp α}{h:A4}:∀{xs:List α} {cs:List A2} (i:Nat),RL ρ h cs xs->RL ρ h (cs.drop (i*ρ.n)) (xs.drop i)
  |_,_,0,r=>by simpa using r
  |[],_,i+1,r=>by rw[r];simp[RL]
  |_::xs,_,i+1,⟨a,b,e,r,s⟩=>by
   rw[e,show(i+1)*ρ.n=A1 a+i*ρ.n by rw[ρ.len r,EP];omega,<-HM,LQ];exact s.drop i
theorem RL.take{ρ:Rp α}{h:A4}:∀{xs:List α} {cs:List A2} (i:Nat),RL ρ h cs xs->RL ρ h (cs.take (i*ρ.n)) (xs.take i)
  |_,_,0,r=>by simp[RL]
  |[],_,i+1,r=>by rw[r];simp[RL]
  |_::xs,_,i+1,⟨a,b,e,r,s⟩=>by
   rw[e,show(i+1)*ρ.n=A1 a+i*ρ.n by rw[ρ.len r,EP];omega,Rh];exact⟨a,_,rfl,r,s.take i⟩
theorem RL.get{ρ:Rp α}{h:A4}{xs:List α}{cs:List A2}{i:Nat}{x:α}(r:RL ρ h cs xs)(hx:xs[i]?=some x):ρ.R h ((cs.drop (i*ρ.n)).take ρ.n) x:=by
 have h1:=r.drop i;obtain⟨hi,e⟩:=Hk.1 hx;rw[JB hi,e] at h1;obtain⟨a,b,D,C,_⟩:=h1;rw[D,<-ρ.len C,List.take_left];exact C
theorem RL.set{ρ:Rp α}{h:A4}{xs:List α}{cs ds:List A2}{i:Nat}{y:α}(r:RL ρ h cs xs)(hi:i<A1 xs)(hd:ρ.R h ds y):RL ρ h (cs.take (i*ρ.n)++ds++cs.drop (i*ρ.n+ρ.n)) (xs.set i y):=by
 have h1:=r.take i;have h2:=r.drop (i+1);rw[EP,IS] at h2;rw[Qn,AC hi,Ck];exact h1.append ⟨ds,_,I,hd,h2⟩
def AE(k:Nat):Rp Rat where
 n:=3
 agg:=true
 R h cs q:=(∃vn vd,cs=[vB (q.num<0),vn,vd]/\Us .u32 h vn (zB (AH q.num))/\Us .u32 h vd (zB (wH q.den)))/\lq q<=k
 len:=by rintro h cs q ⟨⟨vn,vd,rfl,_⟩,_⟩;rfl
 mono:=by
  rintro h h' cs q hh ⟨⟨vn,vd,rfl,h1,h2⟩,h3⟩
  exact⟨⟨vn,vd,rfl,h1.mono hh,h2.mono hh⟩,h3⟩
 one:=by
  rintro h cs q ⟨⟨vn,vd,rfl,h1,h2⟩,h3⟩
  exact BW rfl (Aw h1 (Aw h2 Bf))
 cell:=by simp
def A9:Rp Int where
 n:=1
 agg:=false
 R _ cs z:=cs=[vI z]/\-9223372036854775808<=z/\z<9223372036854775808
 len:=by rintro h cs z ⟨rfl,_⟩;rfl
 mono:=λ_ r=>r
 one:=by rintro h cs z ⟨rfl,_⟩;rfl
 cell:=λ_=>rfl
def DE:Rp Prop where
 n:=1
 agg:=false
 R _ cs p:=cs=[vB p]
 len:=by rintro h cs p rfl;rfl
 mono:=λ_ r=>r
 one:=by rintro h cs p rfl;rfl
 cell:=λ_=>rfl
def A6(ρ:Rp α)(σ:Rp β):Rp (α×β) where
 n:=ρ.n+σ.n
 agg:=true
 R h cs x:=∃a b,cs=a++b/\ρ.R h a x.1/\σ.R h b x.2
 len:=by rintro h cs x ⟨a,b,rfl,h1,h2⟩;rw[BJ,ρ.len h1,σ.len h2]
 mono:=by rintro h h' cs x hh ⟨a,b,rfl,h1,h2⟩;exact⟨a,b,rfl,ρ.mono hh h1,σ.mono hh h2⟩
 one:=by rintro h cs x ⟨a,b,rfl,h1,h2⟩;rw[List.all_append,ρ.one h1,σ.one h2];rfl
 cell:=by simp
@[ext] structure T3(α:Type) where
 x:α
 y:α
 z:α
abbrev zT:T3 Rat:=T3.mk (0:Rat) 0 0
def T3.at(p:T3 α):Nat->α
  |0=>p.x
  |1=>p.y
  |_=>p.z
def T3.set(p:T3 α):Nat->α->T3 α
  |0,a=>⟨a,p.y,p.z⟩
  |1,a=>⟨p.x,a,p.z⟩
  |_,a=>⟨p.x,p.y,a⟩
def Bd(ρ:Rp α):Rp (T3 α) where
 n:=ρ.n+(ρ.n+ρ.n)
 agg:=true
 R h cs p:=(A6 ρ (A6 ρ ρ)).R h cs (p.x,p.y,p.z)
 len:=λr=>(A6 ρ (A6 ρ ρ)).len r
 mono:=λhh r=>(A6 ρ (A6 ρ ρ)).mono hh r
 one:=λr=>(A6 ρ (A6 ρ ρ)).one r
 cell:=by simp
def BO(k:Nat)(ρ:Rp α):Rp (List α) where
 n:=k*ρ.n
 agg:=true
 R h cs xs:=A1 xs=k/\RL ρ h cs xs
 len:=by rintro h cs xs ⟨rfl,r⟩;exact r.len
 mono:=λhh r=>⟨r.1,r.2.mono hh⟩
 one:=λr=>r.2.one
 cell:=by simp
def AS(ρ:Rp α):Rp (List α) where
 n:=1
 agg:=false
 R h cs xs:=∃v ds,cs=[v]/\Sl h ρ.n v (A1 xs) ds/\RL ρ h ds xs
 len:=by rintro h cs xs ⟨v,ds,rfl,_⟩;rfl
 mono:=by rintro h h' cs xs hh ⟨v,ds,rfl,h1,h2⟩;exact⟨v,ds,rfl,h1.mono hh,h2.mono hh⟩
 one:=by
  rintro h cs xs ⟨v,ds,rfl,h1,h2⟩
  obtain⟨a,cap,rfl⟩:=h1.one
  rfl
 cell:=λ_=>rfl
theorem vC{h:A4}{z:Int}(h1:-9223372036854775808<=z)(h2:z<9223372036854775808):A9.Is h (vI z) z:=⟨_,⟨rfl,h1,h2⟩,rfl⟩
theorem jV{h:A4}{v:A2}{z:Int}(s:A9.Is h v z):v=vI z/\-9223372036854775808<=z/\z<9223372036854775808:=by
 obtain⟨cs,⟨rfl,h1,h2⟩,rfl⟩:=s;exact⟨I,h1,h2⟩
theorem Z2{h:A4}(p:Prop):DE.Is h (vB p) p:=⟨_,rfl,rfl⟩
theorem Qg{h:A4}{v:A2}{p:Prop}(s:DE.Is h v p):v=vB p:=by
 obtain⟨cs,rfl,rfl⟩:=s
 rfl
theorem oI{h:A4}{v:A2}{q:Rat}{k:Nat}(s:vJ h v q)(hk:lq q<=k):(AE k).Is h v q:=by
 obtain⟨C,D,rfl,h1,h2⟩:=s;exact⟨_,⟨⟨C,D,I,h1,h2⟩,hk⟩,I⟩
theorem nj{h:A4}{v:A2}{q:Rat}{k:Nat}(s:(AE k).Is h v q):vJ h v q/\lq q<=k:=by
 obtain⟨cs,⟨⟨C,D,rfl,h1,h2⟩,H⟩,rfl⟩:=s;exact⟨⟨C,D,I,h1,h2⟩,H⟩
theorem uL{h:A4}{v:A2}{q:Rat}{k:Nat}(s:(AE k).Is h v q):∃vn vd,v=.agg #[vB (q.num<0),vn,vd]/\Us .u32 h vn (zB (AH q.num))/\Us .u32 h vd (zB (wH q.den))/\lq q<=k:=by
 obtain⟨cs,⟨⟨vn,vd,rfl,h1,h2⟩,C⟩,rfl⟩:=s;exact⟨vn,vd,I,h1,h2,C⟩
theorem O6{ρ:Rp α}{h:A4}{v:A2}{xs:List α}{ds:List A2}(s:Sl h ρ.n v (A1 xs) ds)(r:RL ρ h ds xs):(AS ρ).Is h v xs:=⟨_,⟨v,ds,rfl,s,r⟩,rfl⟩
theorem Io{ρ:Rp α}{h:A4}{v:A2}{xs:List α}(s:(AS ρ).Is h v xs):∃ds,Sl h ρ.n v (A1 xs) ds/\RL ρ h ds xs:=by
 obtain⟨cs,⟨v,ds,rfl,h1,h2⟩,rfl⟩:=s;exact⟨ds,h1,h2⟩
theorem tP{ρ:Rp α}(h:A4):(AS ρ).Is h (.slice none 0 0) []:=O6 (Sl.nil h _) rfl
theorem G6{ρ:Rp α}{h:A4}{v:A2}{xs:List α}(s:(AS ρ).Is h v xs):A1 xs<9223372036854775808:=by
 obtain⟨ds,h1,_⟩:=Io s;exact h1.lt63
theorem Zl{ρ:Rp α}{h:A4}{v:A2}{xs:List α}(s:(AS ρ).Is h v xs):∃a cap,v=.slice a (A1 xs) cap:=by
 obtain⟨ds,h1,_⟩:=Io s;exact h1.one
structure Le(ρ σ:Rp α):Prop where
 n:ρ.n=σ.n
 agg:ρ.agg=σ.agg
 R:∀{h cs x},ρ.R h cs x->σ.R h cs x
theorem Le.refl(ρ:Rp α):Le ρ ρ:=⟨rfl,rfl,id⟩
theorem Le.q{k l:Nat}(h:k<=l):Le (AE k) (AE l):=⟨rfl,rfl,λ⟨a,b⟩=>⟨a,Ao b h⟩⟩
theorem Le.p{ρ ρ':Rp α}{σ σ':Rp β}(h:Le ρ ρ')(k:Le σ σ'):Le (A6 ρ σ) (A6 ρ' σ'):=⟨by show ρ.n+σ.n=ρ'.n+σ'.n;rw[h.n,k.n],rfl,λ⟨a,b,e,r,s⟩=>⟨a,b,e,h.R r,k.R s⟩⟩
theorem Le.t{ρ ρ':Rp α}(h:Le ρ ρ'):Le (Bd ρ) (Bd ρ'):=⟨by show ρ.n+(ρ.n+ρ.n)=ρ'.n+(ρ'.n+ρ'.n);rw[h.n],rfl,λr=>(Le.p h (Le.p h h)).R r⟩
theorem AL{k:Nat}(l:Nat)(h:k<=l:=by omega):Le (AE k) (AE l):=Le.q h
theorem AI{k:Nat}(l:Nat)(h:k<=l:=by omega):Le (Bd (AE k)) (Bd (AE l)):=Le.t (Le.q h)
theorem Le.rl{ρ ρ':Rp α}(h:Le ρ ρ'){m:A4}:∀{xs:List α} {cs:List A2},RL ρ m cs xs->RL ρ' m cs xs
  |[],_,r=>r
  |_::_,_,⟨a,b,e,r,s⟩=>⟨a,b,e,h.R r,h.rl s⟩
theorem Le.a{k:Nat}{ρ ρ':Rp α}(h:Le ρ ρ'):Le (BO k ρ) (BO k ρ'):=⟨by show k*ρ.n=k*ρ'.n;rw[h.n],rfl,λr=>⟨r.1,h.rl r.2⟩⟩
theorem Le.s{ρ ρ':Rp α}(h:Le ρ ρ'):Le (AS ρ) (AS ρ'):=⟨rfl,rfl,λ⟨v,ds,e,s,r⟩=>⟨v,ds,e,h.n▸s,h.rl r⟩⟩
theorem Rp.Is.le{ρ σ:Rp α}{h:A4}{v:A2}{x:α}(s:ρ.Is h v x)(k:Le ρ σ):σ.Is h v x:=by
 obtain⟨cs,r,rfl⟩:=s;exact⟨cs,k.R r,by unfold Rp.val;rw[k.agg]⟩
structure Pc(ρ:Rp α)(off:Nat)(σ:Rp β)(g:α->β)(s:α->β->α):Prop where
 fits:off+σ.n<=ρ.n
 get:∀{h cs x},ρ.R h cs x->σ.R h ((cs.drop off).take σ.n) (g x)
 set:∀{h cs x ds y},ρ.R h cs x->σ.R h ds y->ρ.R h (cs.take off++ds++cs.drop (off+σ.n)) (s x y)
theorem Pc.here(ρ:Rp α):Pc ρ 0 ρ (λx=>x) (λ_ y=>y):=by
 refine⟨A3,λr=>?_,λ{h cs x ds y} r s=>?_⟩
 · have:=ρ.len r
   rw[Ha,<-this,ER];exact r
 · have:=ρ.len r
   rw[E6,<-this,List.drop_length,HT,Fg,Ce];exact s
theorem Pc.fst{ρ:Rp α}{σ:Rp β}{τ:Rp γ}{off:Nat}{g:α->γ}{s:α->γ->α}(p:Pc ρ off τ g s):Pc (A6 ρ σ) off τ (λx=>g x.1) (λx y=>(s x.1 y,x.2)):=by
 have M:=p.fits;refine⟨by show off+τ.n<=ρ.n+σ.n;omega,?_,?_⟩
 · rintro h cs x ⟨a,b,rfl,C,D⟩
   have J:=ρ.len C;have:=p.get C
   rwa [S4 A3,N3 (by rw[Cn];omega)]
 · rintro h cs x ds y ⟨a,b,rfl,C,D⟩ H
   have J:=ρ.len C;refine⟨_,b,?_,p.set C H,D⟩;rw[N3 A3,S4 A3];simp[Ck]
theorem Pc.snd{ρ:Rp α}{σ:Rp β}{τ:Rp γ}{off:Nat}{g:β->γ}{s:β->γ->β}(p:Pc σ off τ g s):Pc (A6 ρ σ) (ρ.n+off) τ (λx=>g x.2) (λx y=>(x.1,s x.2 y)):=by
 have M:=p.fits;refine⟨by show ρ.n+off+τ.n<=ρ.n+σ.n;omega,?_,?_⟩
 · rintro h cs x ⟨a,b,rfl,C,D⟩
   have H:=ρ.len C;have:=p.get D
   rwa [<-H,<-HM,LQ]
 · rintro h cs x ds y ⟨a,b,rfl,C,D⟩ J
   have H:=ρ.len C;refine⟨a,_,?_,C,p.set D J⟩;rw[<-H,Rh,FP,<-HM,LQ];simp[Ck]
theorem Pc.tx{ρ:Rp α}{τ:Rp γ}{off:Nat}{g:α->γ}{s:α->γ->α}(p:Pc ρ off τ g s):Pc (Bd ρ) off τ (λx=>g x.x) (λx y=>⟨s x.x y,x.y,x.z⟩):=by
 have q:Pc (A6 ρ (A6 ρ ρ)) off τ _ _:=p.fst;exact⟨q.fits,λr=>q.get r,λr d=>q.set r d⟩
theorem Pc.ty{ρ:Rp α}{τ:Rp γ}{off:Nat}{g:α->γ}{s:α->γ->α}(p:Pc ρ off τ g s):Pc (Bd ρ) (ρ.n+off) τ (λx=>g x.y) (λx y=>⟨x.x,s x.y y,x.z⟩):=by
 have q:Pc (A6 ρ (A6 ρ ρ)) (ρ.n+off) τ _ _:=(Pc.fst (σ:=ρ) p).snd;exact⟨q.fits,λr=>q.get r,λr d=>q.set r d⟩
theorem Pc.tz{ρ:Rp α}{τ:Rp γ}{off:Nat}{g:α->γ}{s:α->γ->α}(p:Pc ρ off τ g s):Pc (Bd ρ) (ρ.n+(ρ.n+off)) τ (λx=>g x.z) (λx y=>⟨x.x,x.y,s x.z y⟩):=by
 have q:Pc (A6 ρ (A6 ρ ρ)) (ρ.n+(ρ.n+off)) τ _ _:=(Pc.snd (ρ:=ρ) p).snd;exact⟨q.fits,λr=>q.get r,λr d=>q.set r d⟩
theorem Pc.ta{ρ:Rp α}{τ:Rp γ}{off:Nat}{g:α->γ}{s:α->γ->α}(p:Pc ρ off τ g s)(i:Nat)(hi:i<3):Pc (Bd ρ) (i*ρ.n+off) τ (λx=>g (x.at i)) (λx y=>x.set i (s (x.at i) y)):=by
 match i,hi with
 |0,_=>rw[E2,E6];exact p.tx
 |1,_=>rw[IS];exact p.ty
 |2,_=>rw[show 2*ρ.n+off=ρ.n+(ρ.n+off) by omega];exact p.tz
theorem Pc.arr{ρ:Rp α}{τ:Rp γ}{off k:Nat}{g:α->γ}{s:α->γ->α}(p:Pc ρ off τ g s)(d:α)(i:Nat)(hi:i<k):Pc (BO k ρ) (i*ρ.n+off) τ (λx=>g (A0 x i d)) (λx y=>x.set i (s (A0 x i d) y)):=by
 have hf:=p.fits;have Z:i*ρ.n+ρ.n<=k*ρ.n:=by rw[<-IH];exact CP _ hi
 have hx:∀{x:List α},A1 x=k->x[i]?=some (A0 x i d):=by
  intro x C;rw[Au,BV A3];rfl
 refine⟨by show i*ρ.n+off+τ.n<=k*ρ.n;omega,?_,?_⟩
 · rintro h cs x ⟨C,r⟩
   have h1:=p.get (r.get (hx C));rw[List.drop_take,List.take_take,Dy A3,HM] at h1;exact h1
 · rintro h cs x ds y ⟨C,r⟩ H
   have J:=r.len;rw[C] at J;refine⟨by simpa using C,?_⟩;have h1:=r.set (i:=i) A3 (p.set (r.get (hx C)) H);have e:cs.take (i*ρ.n)++(((cs.drop (i*ρ.n)).take ρ.n).take off++ds++((cs.drop (i*ρ.n)).take ρ.n).drop (off+τ.n))++cs.drop (i*ρ.n+ρ.n)=cs.take (i*ρ.n+off)++ds++cs.drop (i*ρ.n+off+τ.n):=by
    rw[List.take_take,Dy A3,List.drop_take,HM];have U:cs.take (i*ρ.n+off)=cs.take (i*ρ.n)++(cs.drop (i*ρ.n)).take off:=List.take_add;have M:cs.drop (i*ρ.n+off+τ.n)=(cs.drop (i*ρ.n+(off+τ.n))).take (ρ.n-(off+τ.n))++cs.drop (i*ρ.n+ρ.n):=by
     have D:=Kh (ρ.n-(off+τ.n)) (cs.drop (i*ρ.n+(off+τ.n)));rw[HM,show i*ρ.n+(off+τ.n)+(ρ.n-(off+τ.n))=i*ρ.n+ρ.n by omega] at D;rw[FP (i*ρ.n)];exact D.symm
    rw[U,M];simp[Ck]
   rw[<-e];exact h1
theorem zR{k:Nat}{h:A4}(hk:1<=k):(AE k).R h [.bool false,.slice none 0 0,.slice none 0 0] 0:=by
 refine⟨⟨_,_,?_,V5 h,VB h⟩,by rw[Lh];exact hk⟩;rw[yH (show ¬(0:Rat).num<0 by decide)]
theorem wT{h:A4}:A9.R h [.int .i64 0] 0:=⟨rfl,Aa,Aa⟩
theorem J7{h:A4}:DE.R h [.bool false] False:=by show _=_;rw[yH (p:=False) id]
theorem zW{ρ:Rp α}{σ:Rp β}{h:A4}{a b:List A2}{x:α}{y:β}(r:ρ.R h a x)(s:σ.R h b y):(A6 ρ σ).R h (a++b) (x,y):=⟨a,b,rfl,r,s⟩
theorem yN{ρ:Rp α}{h:A4}{a:List A2}{x:α}(r:ρ.R h a x):(Bd ρ).R h (a++(a++a)) ⟨x,x,x⟩:=⟨a,_,rfl,r,a,a,rfl,r,r⟩
theorem wC{ρ:Rp α}{h:A4}:(AS ρ).R h [.slice none 0 0] []:=⟨_,[],rfl,Sl.nil h _,rfl⟩
theorem lQ{ρ:Rp α}{h:A4}{a:List A2}{x:α}(k:Nat)(r:ρ.R h a x):(BO k ρ).R h (List.replicate k a).flatten (List.replicate k x):=by
 refine⟨Hu,?_⟩
 induction k with
 |zero=>rfl
 |succ k ih=>rw[Ku,Ku];exact⟨a,_,I,r,ih⟩
end
structure C9(P:D)(t:Ab)(n:Nat)(agg:Bool):Prop where
 sz:∀w,(Go.sizeOf t).run P w=.ok n w
 ag:∀w,(isAgg t).run P w=.ok agg w
section
variable {α β γ:Type}
variable {P:D}{n:Nat}{w0:AP}{h0:A4}{e:List (Nat×A2)}{L:List AG}{h:A4}{Q:BH->Av->AP->Prop}
variable {ds:Option Tmp}{ty:Ab}{ps:String}{af:Array Edge}{gd:Option (Nat×Bool)}
theorem Pa:∀(vs:List A2) (k:Nat) (cs:List A2),k+vs.length<=A1 cs->GJ cs k vs=cs.take k++vs++cs.drop (k+vs.length):=by
 have key:∀(vs:List A2) (j k:Nat) (cs:List A2),k+j+vs.length<=A1 cs->(vs.zipIdx j).foldl (λc p=>c.set (k+p.2) p.1) cs=cs.take (k+j)++vs++cs.drop (k+j+vs.length):=by
  intro vs
  induction vs with
  |nil=>intro j k cs hl;simp
  |cons v vs ih=>
   intro j k cs hl;simp only[lC] at hl;rw[Je,Hl,ih (j+1) k _ (by rw[lS];omega)];rw[Qn,AC A3];have h1:A1 (cs.take (k+j))=k+j:=by rw[By];omega
   have e1:(cs.take (k+j)++v::cs.drop (k+j+1)).take (k+(j+1))=cs.take (k+j)++[v]:=by
    rw[show k+(j+1)=A1 (cs.take (k+j))+1 by omega,Rh];rfl
   have e2:(cs.take (k+j)++v::cs.drop (k+j+1)).drop (k+(j+1)+vs.length)=cs.drop (k+j+(vs.length+1)):=by
    rw[show k+(j+1)+vs.length=A1 (cs.take (k+j))+(vs.length+1) by omega,<-HM,LQ,List.drop_succ_cons,HM]
    congr 1;omega
   rw[e1,e2];simp
 intro vs k cs hl;exact key vs 0 k cs A3
def CQ(P:D)(n:Nat)(w0:AP)(h0:A4)(o:AY)(e:List (Nat×A2))(R:List AG)(h:A4)(F:A2->Prop):Prop:=
 ∃v,(∀L' h',MLe h h'->(∀r∈R,r∈L')->OpV P n w0 h0 o e L' h' v)/\F v
theorem nT{ops:Array AY}{rest:List AY}{d:Nat}{op:Op}{R:List AG}{F:A2->Prop}(hv:CQ P n w0 h0 ⟨some d,op,ty,ps,af,none⟩ e R h F)(hR:∀r∈R,r∈L)(hn:Nat.ble (d+1) n=true)
    (k:∀v,F v->GL P n w0 h0 ops Q rest ((d,v)::e) L h):GL P n w0 h0 ops Q (⟨some d,op,ty,ps,af,none⟩::rest) e L h:=by
 obtain⟨v,hv,C⟩:=hv;exact mQ (hv L h (MLe.refl h) hR) I I hn (k v C)
section
variable {ops:Array AY}{RR:List AG}{al:Co}{d i:Nat}{op:Op}{v:A2}{r:List (Nat×Kd)}{g t:Nat}{b:Bool}
theorem fL{R:List AG}{F:A2->Prop}(ho:ops.getD i default=⟨some d,op,ty,ps,af,none⟩)(hv:CQ P n w0 h0 ⟨some d,op,ty,ps,af,none⟩ e R h F)(hR:∀r∈R,r∈RR)(hn:Nat.ble (d+1) n=true)
    (k:∀v,F v->W P n w0 h0 ops Q RR al r ((d,v)::e) L h):W P n w0 h0 ops Q RR al ((i,.q)::r) e L h:=by
 obtain⟨v,hv,H⟩:=hv;exact B3 ho (λh' L' hh D=>hv L' h' hh λr C=>D r (hR r C)) hn (k v H)
theorem nu{K:List (Nat×A2)->List AG->A4->Prop}{R:List AG}{F:A2->Prop}(ho:ops.getD i default=⟨some d,op,ty,ps,af,none⟩)(hv:CQ P n w0 h0 ⟨some d,op,ty,ps,af,none⟩ e R h F)(hR:∀r∈R,r∈RR)(hn:Nat.ble (d+1) n=true)
    (k:∀v,F v->K ((d,v)::e) L h):SQ P n w0 h0 ops RR i e L h K:=by
 obtain⟨v,hv,H⟩:=hv;exact XJ ho (λh' L' hh D=>hv L' h' hh λr C=>D r (hR r C)) hn (k v H)
theorem nY{R:List AG}{F:A2->Prop}(ho:ops.getD i default=⟨some d,op,ty,ps,af,some (g,b)⟩)(ht:(ops[g]?).bind (·.dst)=some t)(he:e.lookup t=some (.bool b))(hv:CQ P n w0 h0 ⟨some d,op,ty,ps,af,none⟩ e R h F)(hR:∀r∈R,r∈RR)(hn:Nat.ble (d+1) n=true)
    (k:∀v,F v->W P n w0 h0 ops Q RR al r ((d,v)::e) L h):W P n w0 h0 ops Q RR al ((i,.q)::r) e L h:=by
 obtain⟨v,hv,H⟩:=hv;exact yS ho ht he (λh' L' hh D=>hv L' h' hh λr C=>D r (hR r C)) hn (k v H)
theorem sd{W':List (Nat×A2)->List AG->A4->Prop}{R:List AG}{F:A2->Prop}(hv:CQ P n w0 h0 ⟨some d,op,ty,ps,af,none⟩ e R h F)(hR:∀r∈R,r∈L)(hn:Nat.ble (d+1) n=true)
    (k:∀v,F v->W' ((d,v)::e) L h):qP P n w0 h0 ops RR ⟨some d,op,ty,ps,af,none⟩ e L h W':=by
 obtain⟨v,hv,D⟩:=hv;exact Oo (λX=>hv (L++X) h (MLe.refl h) λr C=>I8 _ (hR r C)) hn (k v D)
end
theorem rW{L:List AG}:∀r∈([]:List AG),r∈L:=λr hr=>by cases hr
theorem gH{L:List AG}{r:AG}(hr:r∈L):∀x∈[r],x∈L:=λx hx=>by cases hx with|head=>exact hr|tail _ h=>cases h
theorem da{E:Ab}{σ:Rp β}{cs:List A2}{off:Nat}{y:β}(T:C9 P E σ.n σ.agg)(r:σ.R h ((cs.drop off).take σ.n) y)(w:AP):(part E (Am cs) off).run P w=.ok (σ.val ((cs.drop off).take σ.n)) w:=by
 simp only[part,Sem.run_bind,T.ag,Result.andThen_ok];unfold Rp.val
 cases ha:σ.agg with
 |true=>simp[Sem.run_bind,T.sz,List.extract_toArray,List.extract_eq_take_drop,List.take_drop]
 |false=>
  obtain⟨c,C,_⟩:=Rp.single r ha;rw[C];have h1:cs[off]?=some c:=by
   have h2:((cs.drop off).take σ.n)[0]?=some c:=by rw[C];rfl
   rw[Dj] at h2
   split at h2
   · rw[F5] at h2;simpa using h2
   · cases h2
  simp[h1]
theorem dR{t E:Ab}{x y:Ag}{m off:Nat}{q:Int}{v:A2}{ρ:Rp α}{σ:Rp β}{g:α->β}{s:α->β->α}{X:α}{Z:β}(i:Nat)(ht:P.underlying t=some (.array m E))(T:C9 P E σ.n σ.agg)(pc:Pc ρ off σ g s)(ho:i*σ.n=off)(ha:ρ.agg=true)(hx:zK e x=some v)(hy:zK e y=some (vI q))
    (r:ρ.Is h v X)(hq:q=(i:Int))(hi:i<m)(hZ:g X=Z):CQ P n w0 h0 ⟨ds,.index t x y,ty,ps,af,gd⟩ e [] h (λu=>σ.Is h u Z):=by
 subst hZ;obtain⟨cs,r,rfl⟩:=r;subst ho;subst hq;have h1:=pc.get r;refine⟨_,λL' h' _ _ a w C S=>?_,_,h1,I⟩;have D:ρ.val cs=.agg (Am cs):=by unfold Rp.val;rw[ha];rfl
 rw[D] at hx;simp[execOp,C.eval hx,C.eval hy,Instr.index,vI,asIntOf,run_underlying ht,T.sz,hi,da T h1]
theorem Ot{t:Ab}{σ:Rp β}{cs:List A2}{y:β}{w:AP}{b o:Nat}(T:C9 P t σ.n σ.agg)(r:σ.R h cs y)(hc:w.rangeAt b o cs):(Instr.loadAt t (vP b o)).run P w=.ok (σ.val cs) w:=by
 have C:=σ.len r;simp only[Instr.loadAt,Instr.sureAddr,loadVar,Sem.run_bind,T.ag,Result.andThen_ok,Sem.run_pure];unfold Rp.val
 cases ha:σ.agg with
 |true=>
  have D:(loadCells ⟨b,o,none⟩ (A1 cs)).run P w=.ok (Am cs) w:=run_loadCells_list (P:=P) w ⟨b,o,none⟩ cs (λj v H=>by rw[Addr.add_mid];exact hc j v H);rw[C] at D;simp[Sem.run_bind,T.sz,D]
 |false=>
  obtain⟨c,rfl,_⟩:=Rp.single r ha;have:=hc 0 c I;simp only[Cq] at this;simp[Go.load,Sem.run,this]
theorem az{t E:Ab}{x:Ag}{b k off:Nat}{cs:List A2}{ρ:Rp α}{σ:Rp β}{g:α->β}{s:α->β->α}{X:α}{Z:β}(T:C9 P t σ.n σ.agg)(pc:Pc ρ off σ g s)(ho:k=off)(hx:zK e x=some (vP b k))(r:ρ.R h cs X)(hZ:g X=Z):
 CQ P n w0 h0 ⟨ds,.load t x,ty,ps,af,gd⟩ e [.var b E cs] h (λu=>σ.Is h u Z):=by
 subst hZ;subst ho;have h1:=pc.get r;refine⟨_,λL' h' _ H a w J S=>?_,_,h1,I⟩;have C:w.heap[b]?=some (.cells (Am cs) E):=S.ok (.var b E cs) (H _ (.head _));have D:=Ot (P:=P) (w:=w) T h1 (w4 C k _ (by rw[σ.len h1]));simp[execOp,J.eval hx,D]
def C4(ρ:Rp α)(h:A4)(p:A2)(X:α):Prop:=∃b o cs,p=vP b o/\ρ.R h cs X/\∀j u,cs[j]?=some u->cell h b (o+j)=some u
theorem C4.mono{ρ:Rp α}{h h':A4}{p:A2}{X:α}(s:C4 ρ h p X)(hh:MLe h h'):C4 ρ h' p X:=by
 obtain⟨b,o,cs,e,r,D⟩:=s;exact⟨b,o,cs,e,ρ.mono hh r,λj u C=>TC hh (D j u C)⟩
theorem kW{t E:Ab}{x y:Ag}{q:Int}{v:A2}{ρ:Rp α}{xs:List α}(d:α)(i:Nat)(ht:P.underlying t=some (.slice E))(T:C9 P E ρ.n ρ.agg)(hx:zK e x=some v)(hy:zK e y=some (vI q))(r:(AS ρ).Is h v xs)(hq:q=(i:Int))(hi:i<A1 xs)(hp:0<ρ.n):
 CQ P n w0 h0 ⟨ds,.indexAddr t x y,ty,ps,af,gd⟩ e [] h (λu=>C4 ρ h u (A0 xs i d)):=by
 obtain⟨cs,M,U⟩:=Io r;have J:xs[i]?=some (A0 xs i d):=by rw[Au,BV hi];rfl
 have hg:=U.get J;have C:=U.len;have hm:i*ρ.n+ρ.n<=A1 cs:=by rw[C,<-IH];exact CP _ hi
 refine⟨zH ρ.n v i,λL' h' hh _=>dV i ht T.sz hx hy (M.mono hh) hq hi hp,?_⟩;have h0:(cs[i*ρ.n+0]?)=some (cs[i*ρ.n]'A3):=by rw[Cq,BV]
 obtain⟨b,o,Z,_⟩:=M.cell h0;refine⟨b,o,_,Z,hg,λj u D=>?_⟩;rw[Dj] at D
 split at D
 · rw[F5] at D
   obtain⟨b',o',H,hc⟩:=M.cell D;rw[Z] at H;simp only[A2.pointer.injEq,Option.some.injEq,Addr.mk.injEq] at H;rw[H.1,H.2.1];exact hc
 · cases D
theorem v6{t:Ab}{x:Ag}{p:A2}{ρ:Rp α}{X:α}(T:C9 P t ρ.n ρ.agg)(hx:zK e x=some p)(r:C4 ρ h p X):CQ P n w0 h0 ⟨ds,.load t x,ty,ps,af,gd⟩ e [] h (λu=>ρ.Is h u X):=by
 obtain⟨b,o,cs,rfl,r,H⟩:=r;refine⟨_,λL' h' hh _ a w J S=>?_,_,r,I⟩;have C:=Ot (P:=P) (w:=w) T r (λj u D=>nM (hh.trans S.sub) (H j u D));simp[execOp,J.eval hx,C]
theorem mb{t:Ab}{x:Ag}{f off m:Nat}{fs:Array Field}{fl:Field}{p:A2}{ρ:Rp α}{σ:Rp β}{g:α->β}{s:α->β->α}{X:α}{Z:β}(ht:P.underlying t=some (.struct fs))(hf:fs[f]?=some fl)(hsz:∀w,(Go.sizeOf fl.type).run P w=.ok (m+1) w)(pc:Pc ρ off σ g s)(ho:fl.offset=off)(hx:zK e x=some p)(r:C4 ρ h p X)(hZ:g X=Z):
 CQ P n w0 h0 ⟨ds,.fieldAddr t x f,ty,ps,af,gd⟩ e [] h (λu=>C4 σ h u Z):=by
 subst hZ;obtain⟨b,o,cs,rfl,r,D⟩:=r;subst ho;refine⟨_,λL' h' hh _=>fI ht hf hsz hx,b,_,_,I,pc.get r,λj u C=>?_⟩;rw[Dj] at C
 split at C
 · rw[F5] at C
   have:=D _ _ C
   rwa [<-FP] at this
 · cases C
theorem cI{t E:Ab}{x y:Ag}{m off:Nat}{q:Int}{p:A2}{ρ:Rp α}{σ:Rp β}{g:α->β}{s:α->β->α}{X:α}{Z:β}(i:Nat)(ht:P.underlying t=some (.array m E))(hsz:∀w,(Go.sizeOf E).run P w=.ok σ.n w)(pc:Pc ρ off σ g s)(ho:i*σ.n=off)(hx:zK e x=some p)(hy:zK e y=some (vI q))(r:C4 ρ h p X)(hq:q=(i:Int))(hi:i<m)(hZ:g X=Z):
 CQ P n w0 h0 ⟨ds,.indexAddr t x y,ty,ps,af,gd⟩ e [] h (λu=>C4 σ h u Z):=by
 subst hZ;obtain⟨b,o,cs,rfl,r,D⟩:=r;subst ho;refine⟨_,λL' h' hh _=>zM i ht hsz hx hy hq hi,b,_,_,I,pc.get r,λj u C=>?_⟩;rw[Dj] at C
 split at C
 · rw[F5] at C
   have:=D _ _ C
   rwa [<-FP] at this
 · cases C
theorem jK{v:A2}{ρ:Rp α}{xs:List α}{t E:Ab}{x:Ag}(ht:P.underlying t=some (.slice E))(hx:zK e x=some v)(r:(AS ρ).Is h v xs):
 OpV P n w0 h0 ⟨ds,.call {callee:=.builtin .len,args:=#[x],argTypes:=#[t]},ty,ps,af,gd⟩ e L h (vI (A1 xs:Int)):=oC ht hx (Zl r)
theorem sk{E t:Ab}{b k off:Nat}{cs:List A2}{v:A2}{x y:Ag}{ρ:Rp α}{σ:Rp β}{g:α->β}{s:α->β->α}{X Z:α}{Y:β}(hsz:∀w,(Go.sizeOf t).run P w=.ok σ.n w)(pc:Pc ρ off σ g s)(ho:k=off)(hx:zK e x=some (vP b k))(hy:zK e y=some v)(r:ρ.R h cs X)(ry:σ.Is h v Y)(hZ:s X Y=Z):
 ∃cs',ρ.R h cs' Z/\∀A B,EH P n w0 h0 ⟨ds,.store t x y,ty,ps,af,gd⟩ e A (.var b E cs) B h (.var b E cs'):=by
 subst hZ;subst ho;obtain⟨H,M,hv⟩:=ry.cells;have hl:=σ.len M;have aa:=ρ.len r;have hf:=pc.fits;refine⟨GJ cs k H,?_,?_⟩
 · rw[Pa _ _ _ A3,hl]
   exact pc.set r M
 · intro A B a w Ev S
   have U:w.heap[b]?=some (.cells (Am cs) E):=S.ok (.var b E cs) B9;obtain⟨h2,h3⟩:=eE H k cs w U;refine⟨w.setCells b k H,?_,h3,h2⟩;have C:w.there b k (A1 H):=by
    intro j J;have:k+j<A1 cs:=by omega
    refine⟨?_,?_⟩
    · unfold AP.cell?
      simp[U,this]
    · simp[AP.frozen?,U]
   have D:=run_storeCells_cells (P:=P) b k H 0 w (λj J=>by simpa using(C j J).1) (λj J=>by simpa using(C j J).2) (λu hu=>Bb.1 (σ.one M) u hu);simp only[Cq] at D;simp[execOp,Ev.eval hx,Ev.eval hy,Instr.storeAt,Instr.sureAddr,storeVar,hsz,hv,hl,D]
theorem zP{ops:Array AY}{rest:List AY}{A B:List AG}{op:Op}{b:Nat}{E:Ab}{cs:List A2}{F:List A2->Prop}(hv:∃cs',F cs'/\∀A B,EH P n w0 h0 ⟨none,op,ty,ps,af,none⟩ e A (.var b E cs) B h (.var b E cs'))
    (k:∀cs',F cs'->GL P n w0 h0 ops Q rest e (A++.var b E cs'::B) h):GL P n w0 h0 ops Q (⟨none,op,ty,ps,af,none⟩::rest) e (A++.var b E cs::B) h:=by
 obtain⟨cs',D,C⟩:=hv;exact xY (C A B) I I I (k cs' D)
theorem yD{ops:Array AY}{RR:List AG}{al:Co}{i:Nat}{r:List (Nat×Kd)}{A B:List AG}{op:Op}{b:Nat}{E:Ab}{cs:List A2}{F:List A2->Prop}(ho:ops.getD i default=⟨none,op,ty,ps,af,none⟩)(hv:∃cs',F cs'/\∀A B,EH P n w0 h0 ⟨none,op,ty,ps,af,none⟩ e A (.var b E cs) B h (.var b E cs'))
    (k:∀cs',F cs'->W P n w0 h0 ops Q RR al r e (A++.var b E cs'::B) h):W P n w0 h0 ops Q RR al ((i,.t)::r) e (A++.var b E cs::B) h:=by
 obtain⟨cs',D,C⟩:=hv;exact tC ho (C A B) I (k cs' D)
theorem kB{ops:Array AY}{R:List AG}{W':List (Nat×A2)->List AG->A4->Prop}{A B:List AG}{op:Op}{b:Nat}{E:Ab}{cs:List A2}{F:List A2->Prop}(hv:∃cs',F cs'/\∀A B,EH P n w0 h0 ⟨none,op,ty,ps,af,none⟩ e A (.var b E cs) B h (.var b E cs'))
    (hR:∀r∈R,∀q',r∈A++.var b E cs::B->r∈A++q'::B)(k:∀cs',F cs'->W' e (A++.var b E cs'::B) h):qP P n w0 h0 ops R ⟨none,op,ty,ps,af,none⟩ e (A++.var b E cs::B) h W':=by
 obtain⟨cs',hF,M⟩:=hv;intro X a w Ev S;have J:St w0 h0 (A++.var b E cs::(B++X)) h w:=by simpa using S
 unfold qY;rw[AC (wn I)];obtain⟨w',C,H,D⟩:=M A (B++X) a w Ev J;rw[C];refine⟨λd' U=>(by cases U),A++.var b E cs'::B,h,MLe.refl h,λhh r C=>hR r C _ (hh r C),?_,k cs' hF⟩;have:=J.grown H D λb Z=>.inl Z
 simpa using this
theorem ns{E:Ab}{x:Ag}{v:A2}{ρ:Rp α}{X:α}(hx:zK e x=some v)(r:ρ.Is h v X):
 aU P n w0 h0 ⟨ds,.box E x,ty,ps,af,gd⟩ e L h (λu q=>∃b cs,u=vP b 0/\q=.var b E cs/\ρ.R h cs X):=by
 obtain⟨cs,H,J⟩:=r.cells;intro a w Ev S;obtain⟨D,C,q,h1,h2,h3,Z,b,U,M⟩:=wE (n:=n) (ds:=ds) (ty:=ty) (ps:=ps) (af:=af) (gd:=gd) (L:=L) (E:=E) hx J a w Ev S;exact⟨D,C,q,h1,h2,h3,Z,b,cs,U,M,H⟩
theorem cb{E:Ab}{i:TypeInfo}{z:A2}{cs:List A2}{ρ:Rp α}{X:α}(hi:P.info? E=some i)(hz:i.zero=some z)(hc:z.cells=Am cs)(r:ρ.R h cs X):
 aU P n w0 h0 ⟨ds,.alloc E,ty,ps,af,gd⟩ e L h (λu q=>∃b cs,u=vP b 0/\q=.var b E cs/\ρ.R h cs X):=by
 intro a w U S;obtain⟨D,C,q,h1,h2,h3,M,b,J,H⟩:=vD (n:=n) (ds:=ds) (ty:=ty) (ps:=ps) (af:=af) (gd:=gd) (e:=e) (L:=L) (h:=h) hi hz hc a w U S;exact⟨D,C,q,h1,h2,h3,M,b,cs,J,H,r⟩
def Jq(ρ:Rp α)(h:A4)(place:Nat->Option (Nat×Nat))(X:α)(parts:List (Nat×A2))(X':α):Prop:=
 ∀cs,ρ.R h cs X->∃cs',ρ.R h cs' X'/\Instr.fill place (Am cs) parts=some (Am cs')
theorem zO{ρ:Rp α}{place:Nat->Option (Nat×Nat)}{X:α}:Jq ρ h place X [] X:=λcs r=>⟨cs,r,rfl⟩
theorem zD{ρ:Rp α}{σ:Rp β}{place:Nat->Option (Nat×Nat)}{X X':α}{Y:β}{i off:Nat}{v:A2}{rest:List (Nat×A2)}{g:α->β}{s:α->β->α}(hp:place i=some (off,σ.n))(pc:Pc ρ off σ g s)(ry:σ.Is h v Y)(k:Jq ρ h place (s X Y) rest X'):Jq ρ h place X ((i,v)::rest) X':=by
 intro cs r;obtain⟨vs,D,J⟩:=ry.cells;have U:=σ.len D;have M:=ρ.len r;have hf:=pc.fits;obtain⟨C,H,e'⟩:=k _ (pc.set r D);refine⟨C,H,?_⟩;have Z:cs=cs.take off++(cs.drop off).take σ.n++cs.drop (off+σ.n):=by
  rw[Ck,<-HM,Kh,Kh]
 rw[Z];exact wV hp (by rw[By];omega) (by rw[By,Cn];omega) U J e'
theorem xL{t:Ab}{i:TypeInfo}{z:A2}{zs:List A2}{fs:Array Field}{places:Array (Nat×Nat)}{parts:List (Nat×Ag)}{ps':List (Nat×A2)}{ρ:Rp α}{X X':α}(ht:P.underlying t=some (.struct fs))(hi:P.info? t=some i)(hz:i.zero=some z)(hzc:z.cells=Am zs)
    (hpl:∀w,(fs.mapM λ(f:Field)=>do pure (f.offset,<-Go.sizeOf f.type)).run P w=.ok places w)(hp:iR e parts ps')(ha:ρ.agg=true)(rz:ρ.R h zs X)(hf:Jq ρ h (places[·]?) X ps' X'):
    CQ P n w0 h0 ⟨ds,.build t (Am parts),ty,ps,af,gd⟩ e [] h (λu=>ρ.Is h u X'):=by
 obtain⟨C,D,H⟩:=hf zs rz;refine⟨.agg (Am C),λL' h' _ _=>xQ ht hi hz hpl hp (by rw[hzc];exact H),C,D,?_⟩;unfold Rp.val;rw[ha];rfl
theorem xD{t E:Ab}{m sz:Nat}{i:TypeInfo}{z:A2}{zs:List A2}{parts:List (Nat×Ag)}{ps':List (Nat×A2)}{ρ:Rp α}{X X':α}(ht:P.underlying t=some (.array m E))(hi:P.info? t=some i)(hz:i.zero=some z)(hzc:z.cells=Am zs)
    (hsz:∀w,(Go.sizeOf E).run P w=.ok sz w)(hp:iR e parts ps')(ha:ρ.agg=true)(rz:ρ.R h zs X)(hf:Jq ρ h (λi=>some (i*sz,sz)) X ps' X'):
    CQ P n w0 h0 ⟨ds,.build t (Am parts),ty,ps,af,gd⟩ e [] h (λu=>ρ.Is h u X'):=by
 obtain⟨C,D,H⟩:=hf zs rz;refine⟨.agg (Am C),λL' h' _ _=>g6 ht hi hz hsz hp (by rw[hzc];exact H),C,D,?_⟩;unfold Rp.val;rw[ha];rfl
theorem kC{R R':A4->A2->Prop}(k:∀h r,R h r->R' h r)(x:Ending)(w:AP)(s:Bh w0 h0 R x w):Bh w0 h0 R' x w:=by
 obtain⟨v,h,e,r,S⟩:=s;exact⟨v,h,e,k h v r,S⟩
theorem qm{h:A4}:DE.Is h (.bool true) True:=(yU trivial)▸Z2 True
theorem Rp.castR{ρ:Rp α}{cs:List A2}{x y:α}(r:ρ.R h cs x)(e:x=y):ρ.R h cs y:=e▸r
theorem Rp.R.mono{ρ:Rp α}{h':A4}{cs:List A2}{x:α}(r:ρ.R h cs x)(hh:MLe h h'):ρ.R h' cs x:=Rp.mono ρ hh r
theorem qV{t:Nat}{T E:Ab}{b:Nat}{cs:List A2}{ρ:Rp α}{X:α}(tok:C9 P T ρ.n ρ.agg)(hm:.var b E cs∈L)(hx:zK e (.tmp t)=some (vP b 0))(r:ρ.R h cs X):∃v,RV P n w0 h0 (.cell t T) e L h v/\ρ.Is h v X:=by
 refine⟨ρ.val cs,?_,cs,r,I⟩;intro a w D S;have C:w.heap[b]?=some (.cells (Am cs) E):=S.ok _ hm;have:=D.eval hx;simp only[Av.eval] at this;have h2:=Ot (P:=P) tok r (w4 C 0 cs B9);simp only[Instr.loadAt,Instr.sureAddr,Sem.run_bind,Sem.run_pure,Result.andThen_ok] at h2;simp[LP,this,asAddr,h2]
theorem xW{r:ResultVar}{F:A2->Prop}{x:BH}(s:∃v,RV P n w0 h0 r e L h v/\F v)(k:∀v,RV P n w0 h0 r e L h v->F v->GQ n w0 h0 Q x e L h):GQ n w0 h0 Q x e L h:=by
 obtain⟨v,a,b⟩:=s;exact k v a b
theorem Ts{o:AY}{v:A2}{F:A2->Prop}(hv:∀L' h',OpV P n w0 h0 o e L' h' v)(hF:F v):CQ P n w0 h0 o e [] h F:=⟨v,λL' h' _ _=>hv L' h',hF⟩
end
section
variable {P:D}{n:Nat}{w0:AP}{h0:A4}{e:List (Nat×A2)}{L:List AG}{h:A4}{Q:BH->Av->AP->Prop}
variable {ds:Option Tmp}{ty:Ab}{ps:String}{af:Array Edge}{gd:Option (Nat×Bool)}
theorem qC{G:Prop}(p:Prop)(kt:p->G)(kf:¬p->G):G:=Classical.byCases kt kf
abbrev vF(f:Nat)(cap:List A2):A2:=.func (.func f) #[] (Am cap)
def Ny(P:D)(n:Nat)(o:AY)(e:List (Nat×A2))(f:Nat)(args:Array A2):Prop:=∀a w,Bp n e a->(execOp a.eval o).run P w=.ok (.enter f args) w
theorem sH{x:Ag}{f:Nat}{cap:List A2}{xs:List Ag}{ts:Array Ab}{vs:List A2}(hcall:∀args w,(callFunc f args).run P w=.ok (.enter f args) w)(hx:zK e x=some (vF f cap))(hvs:pP e xs vs):
 Ny P n ⟨ds,.call {callee:=.value x,args:=Am xs,argTypes:=ts},ty,ps,af,gd⟩ e f (Am (vs++cap)):=by
 intro a w D;have C:(Am xs).map a.eval=vs.toArray:=by rw[Ey,D.evals hvs]
 simp only[execOp,resolve,D.eval hx];simp[Deferred.ofValue,invoke,hcall,C]
theorem oJ{ops:Array AY}{rest:List AY}{o:AY}{d f:Nat}{args:Array A2}{R:A4->A2->Prop}(he:Ny P n o e f args)(hg:o.guard=none)(hd:o.dst=some d)(hn:Nat.ble (d+1) n=true)
    (hc:∀w,MLe h (BE w)->Calls P f args w (Bh w h R))(k:∀v h',MLe h h'->R h' v->GL P n w0 h0 ops Q rest ((d,v)::e) L h'):GL P n w0 h0 ops Q (o::rest) e L h:=by
 intro a w E S;refine wpList_plain hg λK D=>?_;unfold AY.wp;rw[he a w E,AY.upon_enter];refine(hc w S.sub).mono ?_
 rintro M J ⟨v,h',rfl,hR,C⟩
 have H:=S.call C;rw[hd];exact D _ _ (k v h' C.le hR _ _ (E.put (Bm hn)) H)
theorem eI{W':List (Nat×A2)->List AG->A4->Prop}{ops:Array AY}{R:List AG}{op:Op}{g t d:Nat}{b:Bool}(ht:(ops[g]?).bind (·.dst)=some t)(he:e.lookup t=some undef)(hn:Nat.ble (d+1) n=true)(k:W' ((d,undef)::e) L h):
 qP P n w0 h0 ops R ⟨some d,op,ty,ps,af,some (g,b)⟩ e L h W':=by
 intro X a w E S;have C:Region.wanted ⟨some d,op,ty,ps,af,some (g,b)⟩ (yielded ops a.tmps)=false:=by
  have:=E.get t _ he;simp[Region.wanted,yielded,ht,this,undef]
 unfold qY;rw[A8 (by simp[C])];exact⟨λH D=>(by cases D;exact Bm hn),L,h,MLe.refl h,λhh=>hh,S,k⟩
theorem en{R A B:List AG}{q:AG}(hR:∀r∈R,r∈A++B):∀r∈R,r∈A++q::B->r∈A++B:=λr hr _=>hR r hr
section
variable {ops:Array AY}{R:List AG}{d:Nat}{op:Op}
theorem aW{W':List (Nat×A2)->List AG->A4->Prop}{f:Nat}{args:Array A2}{R':A4->A2->Prop}(he:Ny P n ⟨some d,op,ty,ps,af,none⟩ e f args)(hn:Nat.ble (d+1) n=true)
    (hc:∀w,MLe h (BE w)->Calls P f args w (Bh w h R'))(k:∀v h',MLe h h'->R' h' v->W' ((d,v)::e) L h'):qP P n w0 h0 ops R ⟨some d,op,ty,ps,af,none⟩ e L h W':=by
 intro X a w E S;unfold qY;rw[AC (wn I),he a w E];refine(hc w S.sub).mono ?_
 rintro M D ⟨v,h',rfl,hR,C⟩
 have J:St w0 h0 (L++X) h' D:=S.call C;exact⟨v,I,λU H=>(by cases H;exact Bm hn),L,h',C.le,λhh=>hh,J,k v h' C.le hR⟩
end
end
section
variable {α β γ:Type}
variable {P:D}{n:Nat}{w0:AP}{h0:A4}{e:List (Nat×A2)}{L:List AG}{h:A4}{Q:BH->Av->AP->Prop}
variable {ds:Option Tmp}{ty:Ab}{ps:String}{af:Array Edge}{gd:Option (Nat×Bool)}
theorem St.nilown{w:AP}(s:St w0 h0 L h w)(E k:Nat):St w0 h0 (.gs E k (.slice none 0 0) 0 []::L) h w:=by
 refine⟨s.below,s.le,s.sub,s.fresh,?_,?_,?_⟩
 · intro r C
   rcases BY.1 C with rfl|C
   · exact AP.ownsRow_nil w _ E k
   · exact s.ok r C
 · intro r C b D
   rcases BY.1 C with rfl|C
   · simp[AG.fp,A2.ownBlock] at D
   · exact s.own r C b D
 · refine Ih.2 ⟨λr C b D=>?_,s.apart⟩
   simp[AG.fp,A2.ownBlock] at D
theorem yX{c:Code}(E k:Nat)(g:GC P n w0 h0 c Q e (.gs E k (.slice none 0 0) 0 []::L) h):GC P n w0 h0 c Q e L h:=λa w Ev S=>g a w Ev (S.nilown E k)
theorem So{ops:Array AY}{l:List AY}(E k:Nat)(g:GL P n w0 h0 ops Q l e (.gs E k (.slice none 0 0) 0 []::L) h):GL P n w0 h0 ops Q l e L h:=λa w Ev S=>g a w Ev (S.nilown E k)
theorem lM{x:BH}(E k:Nat)(g:GQ n w0 h0 Q x e (.gs E k (.slice none 0 0) 0 []::L) h):GQ n w0 h0 Q x e L h:=λa w Ev S=>g a w Ev (S.nilown E k)
theorem dM{ops:Array AY}{R:List AG}{o:AY}{W':List (Nat×A2)->List AG->A4->Prop}(E k:Nat)(g:qP P n w0 h0 ops R o e (.gs E k (.slice none 0 0) 0 []::L) h W'):qP P n w0 h0 ops R o e L h W':=by
 intro X a w Z S;refine(g X a w Z (S.nilown E k)).mono ?_
 rintro v' w' ⟨J,L',g,H,D,U,M⟩
 exact⟨J,L',g,H,λhh q C=>D (λy hy=>FV _ (hh y hy)) q C,U,M⟩
theorem je(a:List A2)(m:Nat):(madeCells (Am a) (m*A1 a)).toList=(List.replicate m a).flatten:=by
 unfold madeCells;rw[Array.toList_map,Array.toList_range]
 induction m with
 |zero=>simp
 |succ m ih=>
  rw[IH,Nat.add_comm,List.range_add,FK,Oz,Ku,List.flatten_cons,<-ih]
  congr 1
  · apply List.ext_getElem?
    intro j
    by_cases hj:j<A1 a
    · simp[hj,CG hj]
    · simp[hj]
  · apply Mg
    intro j _;simp
theorem Te{ρ:Rp α}{a:List A2}{x:α}(m:Nat)(r:ρ.R h a x):RL ρ h (madeCells (Am a) (m*ρ.n)).toList (List.replicate m x):=by
 rw[<-ρ.len r,je];exact(lQ (h:=h) m r).2
theorem lK{t E:Ab}{i:TypeInfo}{z:A2}{zs:List A2}{x y:Ag}{q q':Int}{by':Nat}{ρ:Rp α}{X:α}(m:Nat)(ht:P.underlying t=some (.slice E))(hi:P.info? E=some i)(hz:i.zero=some z)(hzc:z.cells=Am zs)(hsize:i.size=ρ.n)(hby:i.bytes=by')(rz:ρ.R h zs X)
    (hx:zK e x=some (vI q))(hy:zK e y=some (vI q'))(hq:q=(m:Int))(hq':q'=(m:Int))(hb:by'*m<=281474976710656)(hm:m<9223372036854775808):
    aU P n w0 h0 ⟨ds,.makeSlice t x y,ty,ps,af,gd⟩ e L h (λv r=>∃cs,r=.gs E ρ.n v (A1 (List.replicate m X)) cs/\RL ρ h cs (List.replicate m X)):=by
 subst hq;subst hq';subst hby;intro a w H S;obtain⟨J,M,C,D⟩:=run_make_full (P:=P) w w0.heap.size t E i z ρ.n ht hi hz hsize .i64 .i64 m hb (by unfold maxLen;omega) S.below.size;rw[hzc] at C;refine⟨_,J,.gs E ρ.n (.slice (some ⟨w.heap.size,0,none⟩) m m) m (madeCells (Am zs) (m*ρ.n)).toList,?_,D,C,λb hb=>?_,_,by rw[lR],Te m rz⟩
 · simp only[execOp,H.eval hx,H.eval hy,vI]
   simp[M]
 · simp only[AG.fp,A2.ownBlock,Option.some.injEq] at hb
   omega
theorem zL{t E:Ab}{i:TypeInfo}{z:A2}{zs:List A2}{parts:List (Nat×Ag)}{ps':List (Nat×A2)}{m:Nat}{ρ:Rp α}{X:α}{xs:List α}(ht:P.underlying t=some (.slice E))(hi:P.info? E=some i)(hz:i.zero=some z)(hzc:z.cells=Am zs)(hsize:i.size=ρ.n)(rz:ρ.R h zs X)
    (hp:iR e parts ps')(hf:Jq (BO m ρ) h (λi=>some (i*ρ.n,ρ.n)) (List.replicate m X) ps' xs)(hm:m*ρ.n<=16777216)(hn:0<ρ.n):
    aU P n w0 h0 ⟨ds,.buildSlice t m (Am parts),ty,ps,af,gd⟩ e L h (λv r=>∃cs,r=.gs E ρ.n v (A1 xs) cs/\RL ρ h cs xs):=by
 obtain⟨cs,⟨H,M⟩,J⟩:=hf (madeCells (Am zs) (m*ρ.n)).toList ⟨Hu,Te m rz⟩;have U:=M.len;rw[H] at U;intro a w Ev S;have aa:((Am parts).map λ(p:Nat×Ag)=>(p.1,a.eval p.2)).toList=ps':=by
  rw[Ey];exact hp.eval Ev
 refine⟨.slice (some ⟨w.heap.size,0,none⟩) m m,w.alloc (.cells (Am cs) E),.gs E ρ.n (.slice (some ⟨w.heap.size,0,none⟩) m m) m cs,?_,AP.grownBy_alloc w _ none,?_,λb hb=>?_,cs,by rw[H],M⟩
 · have ab:¬(m*ρ.n>16777216):=by omega
   simp only[execOp,Instr.buildSlice];rw[show((Am parts).map λ(i,x)=>(i,a.eval x)).toList=ps' from aa];have Z:(zeroValue E).run P w=.ok z w:=by simp[zeroValue,typeInfo,hi,hz]
   have C:Instr.fill (λi=>some (i*ρ.n,ρ.n)) (madeCells (Am zs) (m*ρ.n)) ps'=some (Am cs):=by
    simpa using J
   have D:∀w,(Go.sizeOf E).run P w=.ok ρ.n w:=λw=>by simp[Go.sizeOf,typeInfo,hi,hsize]
   by_cases h0:m*ρ.n=0
   · rw[h0] at C
     simp only[madeCells,Array.range_zero',Array.map_empty] at C;simp[run_underlying ht,D,newRow,newObj,Sem.run,h0,Array.range_zero',C]
   · unfold madeCells at C
     simp only[RX,List.getElem!_toArray,List.getElem!_eq_getElem?_getD] at C;simp[run_underlying ht,D,h0,ab,Z,hzc,C,newRow,newObj,Sem.run]
 · have:=AP.ownsRow_lit (w:=w) (base:=w0.heap.size) (e:=E) (size:=ρ.n) (Am cs) m S.below.size (by unfold maxLen;have:=Nat.le_mul_of_pos_right m hn;omega) (by simpa using U)
   exact this
 · simp only[AG.fp,A2.ownBlock,Option.some.injEq] at hb
   omega
theorem zN{A B:List AG}{t E:Ab}{i:TypeInfo}{z:A2}{bytes:Nat}{v v':A2}{cs:List A2}{x y:Ag}{ρ:Rp α}{xs ys:List α}(ht:P.underlying t=some (.slice E))(hi:P.info? E=some i)(hz:i.zero=some z)(hsize:i.size=ρ.n)(hby:i.bytes=bytes)
    (hzs:z.cells.size=ρ.n)(hk:0<ρ.n)(hx:zK e x=some v)(hy:zK e y=some v')(r:RL ρ h cs xs)(hv':(AS ρ).Is h v' ys)(hlen:A1 xs+A1 ys<9223372036854775808)(hb':(A1 xs+A1 ys)*bytes<=140737488355328):
    Hw P n w0 h0 ⟨ds,.call {callee:=.builtin .append,args:=#[x,y],argTypes:=#[t,t]},ty,ps,af,gd⟩ e A (.gs E ρ.n v (A1 xs) cs) B h (λu r'=>∃cs',r'=.gs E ρ.n u (A1 (xs++ys)) cs'/\RL ρ h cs' (xs++ys)):=by
 obtain⟨C,J,r2⟩:=Io hv';intro a w Z S;obtain⟨u,D,r',h1,h2,h3,U,M⟩:=US (A:=A) (B:=B) (v:=v) (cs:=cs) (m:=A1 xs) (ds:=ds) (ty:=ty) (ps:=ps) (af:=af) (gd:=gd) ht hi hz hsize hby hzs hk hx hy J (λu H=>Bb.1 r2.one u H) hlen hb' a w Z S;exact⟨u,D,r',h1,h2,h3,U,cs++C,by rw[M,BJ],r.append r2⟩
theorem Ms{E k m:Nat}{v:A2}{cs:List A2}{w:AP}(hm:.gs E k v m cs∈L)(S:St w0 h0 L h w):Sl (BE w) k v m cs:=by
 obtain⟨A,B,rfl⟩:=N8 hm;exact Nm S
theorem vl(k:Nat)(v:A2)(i:Nat):zH k v i=zH 1 v (i*k):=by
 unfold zH;rw[F9]
theorem qR{E k m:Nat}{v:A2}{cs:List A2}{t E':Ab}{x:Ag}(hm:.gs E k v m cs∈L)(ht:P.underlying t=some (.slice E'))(hx:zK e x=some v):
 OpV P n w0 h0 ⟨ds,.call {callee:=.builtin .len,args:=#[x],argTypes:=#[t]},ty,ps,af,gd⟩ e L h (vI (m:Int)):=
 λa w Ev S=>oC (L:=L) (h:=h) ht hx (Ms hm S).one a w Ev S
theorem yG{E m k:Nat}{cs:List A2}{v:A2}{t E':Ab}{x y:Ag}{q:Int}(i:Nat)(hm:.gs E k v m cs∈L)(ht:P.underlying t=some (.slice E'))(hsz:∀w,(Go.sizeOf E').run P w=.ok k w)(hx:zK e x=some v)(hy:zK e y=some (vI q))
    (hq:q=(i:Int))(hi:i<m)(hk:0<k):OpV P n w0 h0 ⟨ds,.indexAddr t x y,ty,ps,af,gd⟩ e L h (zH 1 v (i*k)):=by
 intro a w D S;have C:St w (BE w) [] (BE w) w:=St.begin (MLe.refl _);rw[<-vl];exact dV (n:=n) (w0:=w) (h0:=BE w) (L:=[]) (h:=BE w) i ht hsz hx hy (Ms hm S) hq hi hk a w D C
theorem Xh{k m o l:Nat}{v:A2}{cs:List A2}{w:AP}(s:Sl (BE w) k v m cs)(hl:0<l)(ho:o+l<=A1 cs):∃b o',zH 1 v o=vP b (o'+o)/\v=.slice (some ⟨b,o',none⟩) m (match v with| .slice _ _ c=>c|_=>0)/\w.rangeAt b (o'+o) ((cs.drop o).take l):=by
 obtain⟨a,U,rfl,h1,h2,h3,J⟩:=s;obtain⟨b,o',rfl,_⟩:=J o A3;refine⟨b,o',by simp[zH,kD],I,?_⟩;intro j u C;rw[Dj] at C
 split at C
 · rw[F5] at C
   obtain⟨D,_⟩:=Hk.1 C;obtain⟨b2,Z,M,H⟩:=J _ D;simp only[Option.some.injEq,Addr.mk.injEq,and_true] at M;obtain⟨rfl,rfl⟩:=M;rw[C] at H;have:=nM (MLe.refl _) H
   rwa [<-FP] at this
 · cases C
theorem xO{t E:Ab}{x:Ag}{k off:Nat}{cs:List A2}{v:A2}{ρ:Rp α}{σ:Rp β}{g:List α->β}{s:List α->β->List α}{xs:List α}{Z:β}(T:C9 P t σ.n σ.agg)(pc:Pc (BO (A1 xs) ρ) off σ g s)(ho:k=off)(hp:0<σ.n)(hx:zK e x=some (zH 1 v k))(r:RL ρ h cs xs)(hZ:g xs=Z):
 CQ P n w0 h0 ⟨ds,.load t x,ty,ps,af,gd⟩ e [.gs E ρ.n v (A1 xs) cs] h (λu=>σ.Is h u Z):=by
 subst hZ;subst ho;have h1:=pc.get (h:=h) ⟨I,r⟩;have U:k+σ.n<=A1 xs*ρ.n:=pc.fits;have M:=r.len;refine⟨_,λL' h' _ D a w J S=>?_,_,h1,I⟩;obtain⟨b,o',H,_,C⟩:=Xh (Ms (D (.gs E ρ.n v (A1 xs) cs) (.head _)) S) hp (show k+σ.n<=A1 cs by omega);rw[H] at hx;have:=Ot (P:=P) (w:=w) T h1 C;simp[execOp,J.eval hx,this]
theorem mN{base E k g cap m:Nat}:∀(vs:List A2) (off:Nat) (cs:List A2) (w:AP),w.ownsRow base E k (.slice (some ⟨g,0,none⟩) m cap) m cs->
 (w.setCells g off vs).ownsRow base E k (.slice (some ⟨g,0,none⟩) m cap) m (GJ cs off vs)/\w.grownBy (w.setCells g off vs) (some g)
 |[],off,cs,w,hw=>⟨hw,⟨rfl,rfl,rfl,B1 _,λ_ _ _=>rfl⟩⟩
 |v::r,off,cs,w,hw=>by
  obtain⟨h1,h2⟩:=hw.stored off v;obtain⟨h3,h4⟩:=mN r (off+1) (cs.set off v) _ h1;have e1:GJ cs off (v::r)=GJ (cs.set off v) (off+1) r:=by
   unfold GJ;rw[Je,Hl,Cq,List.zipIdx_succ,List.foldl_map]
   congr 1
   funext c p
   rw[show off+(p.2+1)=off+1+p.2 by omega]
  refine⟨by rw[AP.setCells,e1];exact h3,?_⟩;refine⟨h4.os.trans h2.os,h4.tape.trans h2.tape,h4.output.trans h2.output,Ao h2.size h4.size,?_⟩;intro H D C;have M:=h2.block H D C;have J:=h4.block H (DO D h2.size) C;rw[AP.setCells,J,M]
theorem tD{E t:Ab}{k off:Nat}{cs:List A2}{u v:A2}{x y:Ag}{ρ:Rp α}{σ:Rp β}{g:List α->β}{s:List α->β->List α}{xs Z:List α}{Y:β}(hsz:∀w,(Go.sizeOf t).run P w=.ok σ.n w)(pc:Pc (BO (A1 xs) ρ) off σ g s)(ho:k=off)(hp:0<σ.n)(hx:zK e x=some (zH 1 v k))(hy:zK e y=some u)(r:RL ρ h cs xs)(ry:σ.Is h u Y)(hZ:s xs Y=Z):
 ∃cs',RL ρ h cs' Z/\∀A B,EH P n w0 h0 ⟨ds,.store t x y,ty,ps,af,gd⟩ e A (.gs E ρ.n v (A1 xs) cs) B h (.gs E ρ.n v (A1 Z) cs'):=by
 subst hZ;subst ho;obtain⟨J,M,hv⟩:=ry.cells;have hl:=σ.len M;have ac:=r.len;have hf:k+σ.n<=A1 xs*ρ.n:=pc.fits;obtain⟨ab,aa⟩:=pc.set (h:=h) ⟨I,r⟩ M;refine⟨GJ cs k J,?_,?_⟩
 · rw[Pa _ _ _ A3,hl]
   exact aa
 · intro A B a w Ev S
   rw[ab];have H:w.ownsRow w0.heap.size E ρ.n v (A1 xs) cs:=S.ok (.gs E ρ.n v (A1 xs) cs) B9;have C:=H;obtain⟨_,hr⟩:=H
   rcases hr with⟨rfl,hm0⟩|⟨b,cap,cur,rfl,hbg,hg,hnc,hcm,hcs,htake⟩
   · rw[hm0] at hf;omega
   · have U:zH 1 (.slice (some ⟨b,0,none⟩) (A1 xs) cap) k=vP b k:=by simp[zH,kD]
     rw[U] at hx;obtain⟨h1,h2⟩:=mN J k cs w C;refine⟨w.setCells b k J,?_,h2,h1⟩;have D:=run_storeCells_cells (P:=P) b k J 0 w (λj hj=>by
      have h4:=C.cellAt (k+j) A3;rw[BV A3] at h4;simp[h4]) (λj hj=>by simpa using C.frozenAt (k+j)) (λu hu=>Bb.1 (σ.one M) u hu)
     simp only[Cq] at D;simp[execOp,Ev.eval hx,Ev.eval hy,Instr.storeAt,Instr.sureAddr,storeVar,hsz,hv,hl,D]
section
variable {A B:List AG}{op:Op}{E k m:Nat}{v:A2}{cs:List A2}{F:Nat->List A2->Prop}
theorem kQ{ops:Array AY}{rest:List AY}{m':Nat}{F:List A2->Prop}(hv:∃cs',F cs'/\∀A B,EH P n w0 h0 ⟨none,op,ty,ps,af,none⟩ e A (.gs E k v m cs) B h (.gs E k v m' cs'))
    (kk:∀cs',F cs'->GL P n w0 h0 ops Q rest e (A++.gs E k v m' cs'::B) h):GL P n w0 h0 ops Q (⟨none,op,ty,ps,af,none⟩::rest) e (A++.gs E k v m cs::B) h:=by
 obtain⟨cs',D,C⟩:=hv;exact xY (C A B) I I I (kk cs' D)
theorem TX{ops:Array AY}{RR:List AG}{al:Co}{i:Nat}{r:List (Nat×Kd)}{m':Nat}{F:List A2->Prop}(ho:ops.getD i default=⟨none,op,ty,ps,af,none⟩)(hv:∃cs',F cs'/\∀A B,EH P n w0 h0 ⟨none,op,ty,ps,af,none⟩ e A (.gs E k v m cs) B h (.gs E k v m' cs'))
    (kk:∀cs',F cs'->W P n w0 h0 ops Q RR al r e (A++.gs E k v m' cs'::B) h):W P n w0 h0 ops Q RR al ((i,.t)::r) e (A++.gs E k v m cs::B) h:=by
 obtain⟨cs',D,C⟩:=hv;exact tC ho (C A B) I (kk cs' D)
end
theorem St.freezex{A B:List AG}{E:Nat}{v:A2}{cs:List A2}{ρ:Rp α}{xs:List α}{w:AP}(r:RL ρ h cs xs)(S:St w0 h0 (A++.gs E ρ.n v (A1 xs) cs::B) h w):∃h',MLe h h'/\(AS ρ).Is h' v xs/\St w0 h0 (A++B) h' w:=by
 have C:=S.ok (.gs E ρ.n v (A1 xs) cs) B9;have J:=C;obtain⟨U,M⟩:=C
 rcases M with⟨rfl,hm0⟩|⟨g,cap,cur,rfl,hb,hg,hn,hm,hcs,ht⟩
 · have H:xs=[]:=DG hm0
   subst H;exact⟨h,MLe.refl h,tP h,S.drop⟩
 · obtain⟨Z,D⟩:=S.freeze (b:=g) (o:=.cells cur E (0,0)) I hg
   refine⟨_,D,O6 ⟨_,cap,I,hn,hm,U,λi hi=>⟨g,0,I,?_⟩⟩ (r.mono D),Z⟩;unfold cell;simp only[if_true,E6];rw[<-ht,Dj,AC A3];simp
section
variable {A B:List AG}{E:Nat}{v:A2}{cs:List A2}{ρ:Rp α}{xs:List α}
theorem zQ{ops:Array AY}{l:List AY}(r:RL ρ h cs xs)(k:∀h',MLe h h'->(AS ρ).Is h' v xs->GL P n w0 h0 ops Q l e (A++B) h'):GL P n w0 h0 ops Q l e (A++.gs E ρ.n v (A1 xs) cs::B) h:=by
 intro a w J S;obtain⟨h',C,D,H⟩:=S.freezex r;exact k h' C D a w J H
theorem UO{c:Code}(r:RL ρ h cs xs)(k:∀h',MLe h h'->(AS ρ).Is h' v xs->GC P n w0 h0 c Q e (A++B) h'):GC P n w0 h0 c Q e (A++.gs E ρ.n v (A1 xs) cs::B) h:=by
 intro a w J S;obtain⟨h',C,D,H⟩:=S.freezex r;exact k h' C D a w J H
theorem xR{x:BH}(r:RL ρ h cs xs)(k:∀h',MLe h h'->(AS ρ).Is h' v xs->GQ n w0 h0 Q x e (A++B) h'):GQ n w0 h0 Q x e (A++.gs E ρ.n v (A1 xs) cs::B) h:=by
 intro a w J S;obtain⟨h',C,D,H⟩:=S.freezex r;exact k h' C D a w J H
theorem vX{o:AY}{ops:Array AY}{R:List AG}{W':List (Nat×A2)->List AG->A4->Prop}(r:RL ρ h cs xs)(hR:∀q∈R,q∈A++.gs E ρ.n v (A1 xs) cs::B->q∈A++B)
    (k:∀h',MLe h h'->(AS ρ).Is h' v xs->qP P n w0 h0 ops R o e (A++B) h' W'):qP P n w0 h0 ops R o e (A++.gs E ρ.n v (A1 xs) cs::B) h W':=by
 intro X a w Ev S;have S1:St w0 h0 (A++.gs E ρ.n v (A1 xs) cs::(B++X)) h w:=by simpa using S
 obtain⟨h',C,D,S'⟩:=S1.freezex r;have S2:St w0 h0 ((A++B)++X) h' w:=by simpa using S'
 refine(k h' C D X a w Ev S2).mono ?_
 rintro v' w' ⟨U,L',g,M,J,S3,Z⟩
 exact⟨U,L',g,C.trans M,λhh q H=>J (λy hy=>hR y hy (hh y hy)) q H,S3,Z⟩
end
end
end Bk
namespace Bk
open Go Go.RowKit
def Gu(o:AY):Nat:=o.after.toList.foldl (λa e=>if Region.binds .any e then a |||(1 <<< e.on) else a) 0
theorem dG(k j:Nat):(1 <<< k).testBit j=decide (j=k):=by
 rw[Nat.one_shiftLeft,Nat.testBit_two_pow];exact He.2 (by simp[eq_comm])
theorem iP(o:AY)(k:Nat):(Gu o).testBit k=true↔∃e∈o.after,Region.binds .any e=true/\e.on=k:=by
 have key:∀(l:List Edge) (a:Nat),(l.foldl (λa e=>if Region.binds .any e then a |||(1 <<< e.on) else a) a).testBit k=true↔a.testBit k=true\/∃e∈l,Region.binds .any e=true/\e.on=k:=by
  intro l
  induction l with
  |nil=>intro a;simp
  |cons e l ih=>
   intro a;rw[Hl,ih]
   by_cases hb:Region.binds .any e=true
   · rw[AC hb,Mm,dG]
     simp only[Eb,CH,BY,exists_eq_or_imp,hb,true_and,or_assoc];constructor
     · rintro(h|h|h)
       · exact .inl h
       · exact .inr (.inl h.symm)
       · exact .inr (.inr h)
     · rintro(h|h|h)
       · exact .inl h
       · exact .inr (.inl h.symm)
       · exact .inr (.inr h)
   · rw[A8 hb]
     simp only[BY,exists_eq_or_imp,hb,false_and,false_or];simp
 unfold Gu;rw[key];simp
def KZ(ops:Array AY)(ams:List Nat)(i:Nat):Nat:=(List.range ops.size).foldl (λa j=>if j==i||(ams.getD j 0).testBit i||(ops.getD i default).apart ops (ops.getD j default) then a |||(1 <<< j) else a) 0
theorem fk(ops:Array AY)(ams:List Nat)(i k:Nat):(KZ ops ams i).testBit k=true->k<ops.size/\(k=i\/(ams.getD k 0).testBit i=true\/(ops.getD i default).apart ops (ops.getD k default)=true):=by
 have key:∀(l:List Nat) (a:Nat),(l.foldl (λa j=>if j==i||(ams.getD j 0).testBit i||(ops.getD i default).apart ops (ops.getD j default) then a |||(1 <<< j) else a) a).testBit k=true->a.testBit k=true\/(k∈l/\(k=i\/(ams.getD k 0).testBit i=true\/(ops.getD i default).apart ops (ops.getD k default)=true)):=by
  intro l
  induction l with
  |nil=>intro a h;exact .inl h
  |cons j l ih=>
   intro a h;rw[Hl] at h
   rcases ih _ h with h1|⟨h1,h2⟩
   · split at h1
     · rename_i hc
       rw[Mm,dG] at h1;simp only[Eb,CH] at h1
       rcases h1 with h1|h1
       · exact .inl h1
       · subst h1
         simp only[Eb,beq_iff_eq,or_assoc] at hc;exact .inr ⟨.head _,hc⟩
     · exact .inl h1
   · exact .inr ⟨.tail _ h1,h2⟩
 intro h
 rcases key _ _ h with h1|⟨h1,h2⟩
 · simp at h1
 · exact⟨C3.1 h1,h2⟩
def q5(ams:List Nat)(x i:Nat):Bool:=!x.testBit i&&(ams.getD i 0&&&x==ams.getD i 0)
def pW(ams:List Nat)(n x:Nat):List Nat:=(List.range n).filter (q5 ams x)
def nN(x:Nat)(l:List Nat):Nat:=l.foldl (λx i=>x |||(1 <<< i)) x
def oR(ops:Array AY)(n m:Nat)(ams frs:List Nat):List (Nat×Kd)->Nat->List Nat->Bool
  |[],x,pend=>pend.isEmpty&&(pW ams n x).isEmpty
  |(i,.q)::r,x,pend=>decide (i<m)&&decide (i<n)&&q5 ams x i&&((A0 frs i 0 |||x)&&&(1 <<< n-1)==1 <<< n-1)&&!pend.contains i&&
     ((List.range n).all λk=>decide (k<m)||(ams.getD k 0).testBit i||Hb ops k i)&&oR ops n m ams frs r (x |||(1 <<< i)) pend
  |(i,.a)::r,x,pend=>pend.contains i&&(pW ams n (nN x (pend.filter (· != i)))==[i])&&oR ops n m ams frs r (x |||(1 <<< i)) (pend.filter (· != i))
  |(i,.c)::r,x,pend=>decide (i<m)&&!pend.contains i&&(pW ams n (nN x pend)==[i])&&oR ops n m ams frs r (x |||(1 <<< i)) pend
  |(i,.b j)::r,x,pend=>decide (i<m)&&decide (j<m)&&!pend.contains i&&!pend.contains j&&decide (i≠j)&&(pW ams n (nN x pend)==[i,j])&&
     (pW ams n (nN (x |||(1 <<< i)) pend)==[j])&&(pW ams n (nN (x |||(1 <<< j)) pend)==[i])&&oR ops n m ams frs r ((x |||(1 <<< i)) |||(1 <<< j)) pend
  |(i,.t)::r,x,pend=>pend.isEmpty&&(r.all λy=>match y.2 with| .t=>true|_=>false)&&decide (m<=i)&&(pW ams n x==[i])&&oR ops n m ams frs r (x |||(1 <<< i)) []
  |(i,.p)::r,x,pend=>decide (i<m)&&decide (i<n)&&q5 ams x i&&((A0 frs i 0 |||x)&&&(1 <<< n-1)==1 <<< n-1)&&!pend.contains i&&oR ops n m ams frs r (x |||(1 <<< i)) pend
  |(i,.d i2 j)::r,x,pend=>(decide (i<m)&&decide (i2<m)&&decide (j<m)&&!pend.contains i&&!pend.contains i2&&!pend.contains j)&&(decide (i≠i2)&&decide (i≠j)&&decide (i2≠j))&&
     (pW ams n (nN x pend)==[i,j])&&(pW ams n (nN (x |||(1 <<< i)) pend)==[i2,j])&&(pW ams n (nN (x |||(1 <<< j)) pend)==[i])&&
     (pW ams n (nN ((x |||(1 <<< i)) |||(1 <<< i2)) pend)==[j])&&(pW ams n (nN ((x |||(1 <<< i)) |||(1 <<< j)) pend)==[i2])&&
     oR ops n m ams frs r (((x |||(1 <<< i)) |||(1 <<< i2)) |||(1 <<< j)) pend
  |(_,.m _ _)::_,_,_=>false
  |(_,.x _ _ _)::_,_,_=>false
section
variable {ops:Array AY}{ams frs:List Nat}
def EA(ops:Array AY)(b:Array Bool)(x:Nat):Prop:=b.size=ops.size/\∀i,i<ops.size->b[i]?=some (x.testBit i)
theorem EA.getF{b:Array Bool}{x:Nat}(h:EA ops b x){i:Nat}(hi:i<ops.size)(d:Bool):b.getD i d=x.testBit i:=by
 rw[EG,h.2 i hi];rfl
theorem EA.set{b:Array Bool}{x:Nat}(h:EA ops b x)(i:Nat):EA ops (b.setIfInBounds i true) (x |||(1 <<< i)):=by
 refine⟨by simpa using h.1,λk C=>?_⟩;rw[Mm,dG,KI]
 by_cases e:i=k
 · subst e
   have:i<b.size:=by rw[h.1];exact C
   simp[this]
 · rw[A8 e,h.2 k C]
   simp[Ne.symm e]
theorem EA.setAll{b:Array Bool}{x:Nat}(h:EA ops b x):∀(l:List Nat),EA ops (Bt b l) (nN x l):=by
 intro l
 induction l generalizing b x with
 |nil=>exact h
 |cons i l ih=>exact ih (h.set i)
theorem EA.start:EA ops (Array.replicate ops.size false) 0:=⟨B9,λi hi=>by simp[hi]⟩
def iU(ops:Array AY)(ams frs:List Nat):Bool:=(ops.toList.map Gu==ams)&&((List.range ops.size).map (KZ ops ams)==frs)
theorem S1(h:iU ops ams frs=true){i:Nat}(hi:i<ops.size):ams.getD i 0=Gu (ops.getD i default):=by
 simp only[iU,Ap,beq_iff_eq] at h;rw[<-h.1,Au,FA,Array.getElem?_toList,EG];simp[hi]
theorem i9(h:iU ops ams frs=true){i:Nat}(hi:i<ops.size):A0 frs i 0=KZ ops ams i:=by
 simp only[iU,Ap,beq_iff_eq] at h;rw[<-h.2,Au,FA];simp[hi]
theorem VT(hl:∀o∈ops,∀e∈o.after,e.on<ops.size){i:Nat}(hi:i<ops.size){e:Edge}(he:e∈(ops.getD i default).after):e.on<ops.size:=by
 refine hl _ ?_ e he;rw[EG,Array.getElem?_eq_getElem hi];exact Array.getElem_mem hi
theorem bb(ht:iU ops ams frs=true)(hl:∀o∈ops,∀e∈o.after,e.on<ops.size){b:Array Bool}{x i:Nat}(hs:EA ops b x)(hi:i<ops.size):
 q5 ams x i=(!b.getD i true&&((ops[i]?).map (·.after.all λe=>!Region.binds .any e||b.getD e.on false)).getD false):=by
 unfold q5;rw[hs.getF hi,S1 ht hi]
 congr 1
 have H:ops[i]?=some (ops.getD i default):=oK hi;rw[H];simp only[LN,L8];rw[He,beq_iff_eq,UA];constructor
 · intro h e C
   by_cases D:Region.binds .any e=true
   · have h1:=(iP (ops.getD i default) e.on).2 ⟨e,C,D,I⟩
     rw[<-h,Nat.testBit_and,Ap] at h1;rw[hs.getF (VT hl hi C),h1.2];simp
   · simp[D]
 · intro h
   apply Nat.eq_of_testBit_eq
   intro k;rw[Nat.testBit_and]
   by_cases hk:(Gu (ops.getD i default)).testBit k=true
   · obtain⟨e,C,D,rfl⟩:=(iP _ _).1 hk
     have h1:=h e C;rw[D,hs.getF (VT hl hi C)] at h1;simp at h1;rw[hk,h1];rfl
   · have:(Gu (ops.getD i default)).testBit k=false:=by simpa using hk
     rw[this];rfl
theorem gG(ht:iU ops ams frs=true)(hl:∀o∈ops,∀e∈o.after,e.on<ops.size){b:Array Bool}{x:Nat}(hs:EA ops b x):Region.ready .any ops b=pW ams ops.size x:=by
 unfold Region.ready pW
 apply S5
 intro i hi;exact(bb ht hl hs (C3.1 hi)).symm
theorem dQ(ht:iU ops ams frs=true)(hl:∀o∈ops,∀e∈o.after,e.on<ops.size){b:Array Bool}{x i:Nat}(hs:EA ops b x)(hi:i<ops.size)(h:q5 ams x i=true):(Region.ready .any ops b).contains i=true:=by
 rw[gG ht hl hs];unfold pW;simp[hi,h]
theorem se{y n k:Nat}(h:y&&&(1 <<< n-1)=1 <<< n-1)(hk:k<n):y.testBit k=true:=by
 have h1:(1 <<< n-1).testBit k=true:=by rw[Nat.one_shiftLeft,Nat.testBit_two_pow_sub_one];simpa using hk
 rw[<-h,Nat.testBit_and,Ap] at h1;exact h1.1
theorem YF(ht:iU ops ams frs=true){b:Array Bool}{x i:Nat}(hs:EA ops b x)(hi:i<ops.size)(h:(A0 frs i 0 |||x)&&&(1 <<< ops.size-1)=1 <<< ops.size-1):Region.free .any ops b i=true:=by
 unfold Region.free;rw[oK hi];simp only[Bb,C3];intro j C;have h1:=se h C;rw[Mm,Eb,i9 ht hi] at h1;rw[oK C,hs.getF C];simp only[Eb,beq_iff_eq]
 rcases h1 with h1|h1
 · obtain⟨_,h2|h2|h2⟩:=fk _ _ _ _ h1
   · exact .inl (.inl h2)
   · rw[S1 ht C] at h2
     obtain⟨e,H,J,D⟩:=(iP _ _).1 h2;refine .inr (.inl ?_);rw[Nk];exact⟨e,H,by simp[J,D]⟩
   · exact .inr (.inr h2)
 · exact .inl (.inr h1)
theorem gw(ht:iU ops ams frs=true){k i:Nat}(hk:k<ops.size)(h:(ams.getD k 0).testBit i=true):Hb ops k i=true:=by
 rw[S1 ht hk] at h;obtain⟨e,D,H,C⟩:=(iP _ _).1 h;unfold Hb;rw[Nk];refine⟨e,D,?_⟩;rw[H,C];simp[JO]
theorem mM(ht:iU ops ams frs=true)(hl:∀o∈ops,∀e∈o.after,e.on<ops.size){m:Nat}:∀(ord:List (Nat×Kd)) (b:Array Bool) (x:Nat) (pend:List Nat),EA ops b x->oR ops ops.size m ams frs ord x pend=true->C0 ops m ord b pend=true
  |[],b,x,pend,hs,h=>by
   simp only[oR,Ap] at h;simp only[C0,Ap,gG ht hl hs];exact h
  |(i,.q)::r,b,x,pend,hs,h=>by
   simp only[oR,Ap,beq_iff_eq,CH] at h;obtain⟨⟨⟨⟨⟨⟨h1,h2⟩,h3⟩,h4⟩,h5⟩,h6⟩,h7⟩:=h;simp only[C0,Ap,CH];refine⟨⟨⟨⟨⟨h1,dQ ht hl hs h2 h3⟩,YF ht hs h2 h4⟩,h5⟩,?_⟩,mM ht hl r _ _ _ (hs.set i) h7⟩;rw[Bb] at h6 ⊢;intro k hk;have:=h6 k hk;simp only[Eb] at this ⊢
   rcases this with(h8|h8)|h8
   · exact .inl h8
   · exact .inr (gw ht (C3.1 hk) h8)
   · exact .inr h8
  |(i,.a)::r,b,x,pend,hs,h=>by
   simp only[oR,Ap] at h;obtain⟨⟨h1,h2⟩,h3⟩:=h;simp only[C0,Ap,gG ht hl (hs.setAll _)];exact⟨⟨h1,h2⟩,mM ht hl r _ _ _ (hs.set i) h3⟩
  |(i,.c)::r,b,x,pend,hs,h=>by
   simp only[oR,Ap] at h;obtain⟨⟨⟨h1,h2⟩,h3⟩,h4⟩:=h;simp only[C0,Ap,gG ht hl (hs.setAll _)];exact⟨⟨⟨h1,h2⟩,h3⟩,mM ht hl r _ _ _ (hs.set i) h4⟩
  |(i,.b j)::r,b,x,pend,hs,h=>by
   simp only[oR,Ap] at h;obtain⟨⟨⟨⟨⟨⟨⟨⟨h1,h2⟩,h3⟩,h4⟩,h5⟩,h6⟩,h7⟩,h8⟩,h9⟩:=h;simp only[C0,Ap,gG ht hl (hs.setAll _),gG ht hl ((hs.set i).setAll _),gG ht hl ((hs.set j).setAll _)];exact⟨⟨⟨⟨⟨⟨⟨⟨h1,h2⟩,h3⟩,h4⟩,h5⟩,h6⟩,h7⟩,h8⟩,mM ht hl r _ _ _ ((hs.set i).set j) h9⟩
  |(i,.t)::r,b,x,pend,hs,h=>by
   simp only[oR,Ap] at h;obtain⟨⟨⟨⟨h1,h2⟩,h3⟩,h4⟩,h5⟩:=h;simp only[C0,Ap,gG ht hl hs];exact⟨⟨⟨⟨h1,h2⟩,h3⟩,h4⟩,mM ht hl r _ _ _ (hs.set i) h5⟩
  |(i,.p)::r,b,x,pend,hs,h=>by
   simp only[oR,Ap,beq_iff_eq,CH] at h;obtain⟨⟨⟨⟨⟨h1,h2⟩,h3⟩,h4⟩,h5⟩,h7⟩:=h;simp only[C0,Ap,CH];exact⟨⟨⟨⟨h1,dQ ht hl hs h2 h3⟩,YF ht hs h2 h4⟩,h5⟩,mM ht hl r _ _ _ (hs.set i) h7⟩
  |(i,.d i2 j)::r,b,x,pend,hs,h=>by
   simp only[oR,Ap] at h;obtain⟨⟨⟨⟨⟨⟨⟨h1,h2⟩,h3⟩,h4⟩,h5⟩,h6⟩,h7⟩,h8⟩:=h;simp only[C0,Ap,gG ht hl (hs.setAll _),gG ht hl ((hs.set i).setAll _),gG ht hl ((hs.set j).setAll _),gG ht hl (((hs.set i).set i2).setAll _),gG ht hl (((hs.set i).set j).setAll _)];exact⟨⟨⟨⟨⟨⟨⟨h1,h2⟩,h3⟩,h4⟩,h5⟩,h6⟩,h7⟩,mM ht hl r _ _ _ (((hs.set i).set i2).set j) h8⟩
  |(_,.m _ _)::_,_,_,_,_,h=>by simp[oR] at h
  |(_,.x _ _ _)::_,_,_,_,_,h=>by simp[oR] at h
def Rv(l:List AY)(m:Nat)(ams frs:List Nat)(al:Co)(ord:List (Nat×Kd)):Bool:=
 Region.noSelect (Am l)&&bA (Am l) al&&(al.all λx=>decide (x.1<m))&&(l.all λo=>o.after.all λe=>decide (e.on<A1 l))&&iU (Am l) ams frs&&oR (Am l) (A1 l) m ams frs ord 0 (al.map (·.1))
theorem tn{l:List AY}{m:Nat}{al:Co}{ord:List (Nat×Kd)}(ams frs:List Nat)(h:Rv l m ams frs al ord=true):
 (Region.noSelect (Am l)&&bA (Am l) al&&(al.all λx=>decide (x.1<m))&&C0 (Am l) m ord (Array.replicate (A1 l) false) (al.map (·.1)))=true:=by
 simp only[Rv,Ap] at h;obtain⟨⟨⟨⟨⟨h1,h2⟩,h3⟩,U⟩,M⟩,J⟩:=h;simp only[Ap];refine⟨⟨⟨h1,h2⟩,h3⟩,?_⟩;have D:∀o∈Am l,∀e∈o.after,e.on<(Am l).size:=by
  intro o C e H;have:=Bb.1 U o (by simpa using C);have:=UA.1 this e H
  simpa using this
 exact mM M D ord _ 0 _ EA.start J
end
end Bk
namespace Go.Proofs.YtlpflnindligbaaGreat
open Bk Go Tryz
theorem B8:C9 prog 3 1 false:=⟨sizeOf3,isAgg3⟩
theorem QB:C9 prog 4 1 false:=⟨sizeOf4,isAgg4⟩
theorem Hd:C9 prog 9 1 false:=⟨sizeOf9,isAgg9⟩
theorem fH:C9 prog 22 1 false:=⟨sizeOf22,isAgg22⟩
theorem uN:C9 prog 28 1 false:=⟨sizeOf28,isAgg28⟩
theorem kO:C9 prog 29 1 false:=⟨sizeOf29,isAgg29⟩
theorem SV:C9 prog 30 1 false:=⟨sizeOf30,isAgg30⟩
theorem jG:C9 prog 32 3 true:=⟨sizeOf32,isAgg32⟩
theorem zU:C9 prog 41 3 true:=⟨sizeOf41,isAgg41⟩
theorem zI:C9 prog 43 9 true:=⟨sizeOf43,isAgg43⟩
theorem qZ:C9 prog 45 12 true:=⟨sizeOf45,isAgg45⟩
theorem cM:C9 prog 51 1 false:=⟨sizeOf51,isAgg51⟩
theorem tT:C9 prog 53 14 true:=⟨sizeOf53,isAgg53⟩
theorem IN:C9 prog 57 14 true:=⟨sizeOf57,isAgg57⟩
theorem R5:C9 prog 61 1 false:=⟨sizeOf61,isAgg61⟩
theorem SW:C9 prog 103 1 false:=⟨sizeOf103,isAgg103⟩
theorem Zi:C9 prog 104 1 false:=⟨sizeOf104,isAgg104⟩
theorem HY:C9 prog 106 2 true:=⟨sizeOf106,isAgg106⟩
theorem eK:C9 prog 142 6 true:=⟨sizeOf142,isAgg142⟩
theorem QO:C9 prog 144 14 true:=⟨sizeOf144,isAgg144⟩
theorem IT:C9 prog 161 15 true:=⟨sizeOf161,isAgg161⟩
theorem Wj:C9 prog 187 2 true:=⟨sizeOf187,isAgg187⟩
theorem ee:C9 prog 207 5 true:=⟨sizeOf207,isAgg207⟩
theorem GB:C9 prog 214 5 true:=⟨sizeOf214,isAgg214⟩
theorem Zm:C9 prog 216 18 true:=⟨sizeOf216,isAgg216⟩
theorem O9:C9 prog 246 19 true:=⟨sizeOf246,isAgg246⟩
end Go.Proofs.YtlpflnindligbaaGreat
namespace Bk
open Go Go.RowKit
section
variable {P:D}{n:Nat}{w0:AP}{h0:A4}{e:List (Nat×A2)}{h:A4}{ds:Option Tmp}{ty:Ab}{ps:String}{af:Array Edge}{gd:Option (Nat×Bool)}{α:Type}
theorem XB{ρ:Rp α}{xs:List α}{v:A2}{t E:Ab}{x lo:Ag}{p:Int}(i:Nat)(ht:P.underlying t=some (.slice E))(hsz:∀w,(Go.sizeOf E).run P w=.ok ρ.n w)(hx:zK e x=some v)(hl:zK e lo=some (vI p))(r:(AS ρ).Is h v xs)
    (hp:p=(i:Int))(hi:i<=A1 xs):CQ P n w0 h0 ⟨ds,.slice t x (some lo) none none,ty,ps,af,gd⟩ e [] h (λu=>(AS ρ).Is h u (xs.drop i)):=by
 obtain⟨cs,s,D⟩:=Io r;refine Ts (λL' h'=>jU i ht hsz hx hl s.shape hp hi) ?_;have H:=s.sub hi (B1 _);have C:=D.len;rw[Hn (by rw[Cn,C,<-KY];exact B1 _)] at H;exact O6 (by rw[Cn];exact H) (D.drop i)
end
def BK(bs:List Nat):Prop:=∀x∈bs,x<256
theorem BK.nil:BK []:=λx hx=>by cases hx
theorem BK.app{a b:List Nat}(ha:BK a)(hb:BK b):BK (a++b):=λx hx=>(Cy.1 hx).elim (ha x) (hb x)
theorem ZG(n:Nat):BK (BZ n):=sv n
theorem qb(a b:List Nat):uR a++uR b=uR (a++b):=by
 apply ByteArray.ext
 simp[uR]
theorem Sx{a b:List Nat}(ha:BK a)(hb:BK b):uR a=uR b↔a=b:=
 ⟨λh=>by rw[<-Yx ha,<-Yx hb,h],λh=>by rw[h]⟩
section
variable {P:D}{n:Nat}{w0:AP}{h0:A4}{e:List (Nat×A2)}{L:List AG}{h:A4}
variable {ds:Option Tmp}{ty:Ab}{ps:String}{af:Array Edge}{gd:Option (Nat×Bool)}
theorem jL{pa pb:List Nat}{t yt:Ab}{x y:Ag}(hx:zK e x=some (.string (uR pa)))(hy:zK e y=some (.string (uR pb)))(hlen:A1 pa+A1 pb<=9223372036854775807):
 OpV P n w0 h0 ⟨ds,.binOp .add t x y yt,ty,ps,af,gd⟩ e L h (.string (uR (pa++pb))):=by
 intro a w C S;have h1:=Us.str_size (xs:=pa);have h2:=Us.str_size (xs:=pb);have h3:¬(((uR pa).size+(uR pb).size:Nat):Int)>B2.i64.max:=by
  have:B2.i64.max=9223372036854775807:=I;rw[this];omega
 have D:(Op.stringOp .add (uR pa) (uR pb)).run P w=.ok (.string (uR (pa++pb))) w:=by
  simp only[Op.stringOp];rw[A8 h3,qb]
  rfl
 simp only[execOp,C.eval hx,C.eval hy];simp[eqGuard,binOp,D]
theorem oD{pa pb:List Nat}{t yt:Ab}{x y:Ag}(ha:BK pa)(hb:BK pb)(hx:zK e x=some (.string (uR pa)))(hy:zK e y=some (.string (uR pb))):OpV P n w0 h0 ⟨ds,.binOp .eql t x y yt,ty,ps,af,gd⟩ e L h (vB (pa=pb)):=by
 have:=hV (P:=P) (n:=n) (w0:=w0) (h0:=h0) (L:=L) (h:=h) (ds:=ds) (ty:=ty) (ps:=ps) (af:=af) (gd:=gd) (t:=t) (yt:=yt) hx hy;rw[qQ (Sx ha hb)] at this;exact this
theorem pt{pa pb:List Nat}{t yt:Ab}{x y:Ag}(ha:BK pa)(hb:BK pb)(hx:zK e x=some (.string (uR pa)))(hy:zK e y=some (.string (uR pb))):OpV P n w0 h0 ⟨ds,.binOp .neq t x y yt,ty,ps,af,gd⟩ e L h (vB (pa≠pb)):=by
 have h1:((uR pa).toList==(uR pb).toList)=@decide (uR pa=uR pb) (Classical.propDecidable _):=by
  rw[He];simp only[beq_iff_eq,CH];exact⟨λhh=>by
   have h2:(uR pa).data.toList=(uR pb).data.toList:=by
    rwa [ByteArray.toList_eq,ByteArray.toList_eq] at hh
   exact ByteArray.ext (Array.toList_inj.1 h2),λhh=>by rw[hh]⟩
 rw[<-qQ (not_congr (Sx ha hb))];intro a w C S;simp only[execOp,C.eval hx,C.eval hy,binOp,vB];simp[eqGuard,Op.stringOp,h1]
end
end Bk
namespace Bk
open Go Go.RowKit
open Classical
def qF(q:Rat):List Nat:=(if q.num<0 then[45] else[])++BZ (AH q.num)++(if wH q.den=0 then[] else[47]++BZ (wH q.den))
theorem XK(q:Rat):BK (qF q):=by
 unfold qF;refine BK.app (BK.app ?_ (ZG _)) ?_
 · split
   · unfold BK;decide
   · exact BK.nil
 · split
   · exact BK.nil
   · exact BK.app (by unfold BK;decide) (ZG _)
theorem cR(q:Rat):A1 (qF q)<=20*lq q+4:=by
 unfold qF;have h1:=mA (AH q.num);have h2:=mA (wH q.den);have h3:=wW q;have C:=wO q;have J:A1 (if q.num<0 then[45] else([]:List Nat))<=1:=by split<;>simp
 have H:A1 (if wH q.den=0 then[] else[47]++BZ (wH q.den))<=1+A1 (BZ (wH q.den)):=by split<;>simp<;>omega
 rw[BJ,BJ];have D:A1 (zB (wH q.den))<=lq q:=C;omega
theorem bX{q:Rat}:(0:Int)<↑(A1 (zB (wH q.den)))↔¬wH q.den=0:=by
 have:=yJ (n:=wH q.den);omega
theorem Tj{q:Rat}(h1:q.num<0)(h2:¬(0:Int)<↑(A1 (zB (wH q.den)))):[45]++BZ (AH q.num)=qF q:=by
 unfold qF;rw[AC h1,AC (Br λe=>h2 (bX.2 e)),Ce]
theorem UH{q:Rat}(h1:q.num<0)(h2:(0:Int)<↑(A1 (zB (wH q.den)))):[45]++BZ (AH q.num)++([47]++BZ (wH q.den))=qF q:=by
 unfold qF;rw[AC h1,A8 (bX.1 h2)]
theorem Xw{q:Rat}(h1:¬q.num<0)(h2:¬(0:Int)<↑(A1 (zB (wH q.den)))):BZ (AH q.num)=qF q:=by
 unfold qF;rw[A8 h1,AC (Br λe=>h2 (bX.2 e)),Ce,Fg]
theorem Yd{q:Rat}(h1:¬q.num<0)(h2:(0:Int)<↑(A1 (zB (wH q.den)))):BZ (AH q.num)++([47]++BZ (wH q.den))=qF q:=by
 unfold qF;rw[A8 h1,A8 (bX.1 h2),Fg]
def M:List Nat->Nat
  |[]=>0
  |b::bs=>if 48<=b/\b<=57 then M bs+1 else 0
theorem tl(bs:List Nat):GI (bs.take (M bs))=true:=by
 induction bs with
 |nil=>rfl
 |cons b bs ih=>
  rw[M]
  split
  · rename_i h
    rw[List.take_succ_cons];simp only[GI,M0,Ap,CH];exact⟨h,ih⟩
  · rfl
theorem tg{bs:List Nat}:M bs=A1 bs↔GI bs=true:=by
 constructor
 · intro h
   have:=tl bs;rw[h,ER] at this;exact this
 · intro h
   induction bs with
   |nil=>rfl
   |cons b bs ih=>
    simp only[GI,M0,Ap,CH] at h;rw[M,AC h.1,ih h.2,lC]
theorem hZ{a b:List Nat}(h:GI a=true):M (a++b)=A1 a+M b:=by
 induction a with
 |nil=>simp
 |cons x a ih=>
  simp only[GI,M0,Ap,CH] at h;rw[Fs,M,AC h.1,ih h.2,lC];omega
def Ky(s:List Nat):List Nat:=if s.drop 1≠[]/\(A0 (s.drop 1) 0 0=43\/A0 (s.drop 1) 0 0=45) then(s.drop 1).drop 1 else s.drop 1
def qe(s:List Nat):Prop:=s.drop 1≠[]/\A0 (s.drop 1) 0 0=45
def ad(s:List Nat):Prop:=(A0 s 0 0=101\/A0 s 0 0=69)/\Ky s≠[]/\A1 (Ky s)<=3/\M (Ky s)=A1 (Ky s)
def aa(s:List Nat):Nat:=if ad s then DQ (Ky s) else 0
def K5(s:Prop)(n d:Nat):Int×Rat:=if(2048:Int)<MV (mkRat (sg s n) d) then(2,0) else(0,mkRat (sg s n) d)
def Jh(s:Prop)(n d:Nat)(r:List Nat):Int×Rat:=
 if r=[] then K5 s n d else if ad r then(if qe r then K5 s n (d*10^aa r) else K5 s (n*10^aa r) d) else(4,0)
def MY(r:List Nat):Prop:=r≠[]/\A0 r 0 0=47
def XY(r:List Nat):Prop:=r≠[]/\A0 r 0 0=46
def IA(s:Prop)(bs:List Nat):Int×Rat:=
 if M bs=0 then(4,0) else
 if MY (bs.drop (M bs)) then
  (if(bs.drop (M bs)).drop 1=[]\/M ((bs.drop (M bs)).drop 1)≠A1 ((bs.drop (M bs)).drop 1) then(4,0) else if DQ ((bs.drop (M bs)).drop 1)=0 then(3,0) else Jh s (DQ (bs.take (M bs))) (DQ ((bs.drop (M bs)).drop 1)) [])
 else if XY (bs.drop (M bs)) then
  (if M ((bs.drop (M bs)).drop 1)=0 then(4,0) else Jh s (DQ (bs.take (M bs)++((bs.drop (M bs)).drop 1).take (M ((bs.drop (M bs)).drop 1)))) (10^M ((bs.drop (M bs)).drop 1)) ((bs.drop (M bs)).drop (M ((bs.drop (M bs)).drop 1)+1)))
 else Jh s (DQ (bs.take (M bs))) 1 (bs.drop (M bs))
def Jp(bs:List Nat):Prop:=(0:Int)<↑(A1 bs)/\A0 bs 0 0=45
def Ln(bs:List Nat):List Nat:=if Jp bs then bs.drop 1 else bs
theorem ma{bs:List Nat}(h:Jp bs):Ln bs=bs.drop 1:=AC h
theorem l7{bs:List Nat}(h:¬Jp bs):Ln bs=bs:=A8 h
def UL(bs:List Nat):Int×Rat:=if 4096<A1 bs then(2,0) else IA (Jp bs) (Ln bs)
theorem hv{s:Prop}{b r:List Nat}(h:M b≠0)(hr:r=b.drop (M b))(h1:MY r)(h2:¬(r.drop 1=[]\/M (r.drop 1)≠A1 (r.drop 1)))(h3:DQ (r.drop 1)≠0):IA s b=Jh s (DQ (b.take (M b))) (DQ (r.drop 1)) []:=by
 subst hr;unfold IA;rw[A8 h,AC h1,A8 h2,A8 h3]
theorem jy{s:Prop}{b r:List Nat}(h:M b≠0)(hr:r=b.drop (M b))(h0:¬MY r)(h1:¬XY r):IA s b=Jh s (DQ (b.take (M b))) 1 r:=by
 subst hr;unfold IA;rw[A8 h,A8 h0,A8 h1]
theorem Tx(s:Prop)(n d:Nat):Jh s n d []=K5 s n d:=AC rfl
theorem ue{s:Prop}{n d:Nat}(h:¬(2048:Int)<MV (mkRat (sg s n) d)):K5 s n d=(0,mkRat (sg s n) d):=A8 h
theorem ej{bs:List Nat}(h:¬(4096:Int)<↑(A1 bs)):UL bs=IA (Jp bs) (Ln bs):=A8 A3
theorem tb{q:Rat}(h:lq q<=64):MV q<=2048:=by
 have h1:=Wa (AH q.num);have h2:=Wa q.den;have h3:=wW q;have C:=vT q;unfold MV;omega
theorem ur(n:Nat)(rest:List Nat):A0 (BZ n++rest) 0 0≠45/\(0:Nat)<A1 (BZ n++rest):=by
 have h1:=RZ n;have h2:=rt (Nt n) (i:=0) h1;have h3:A0 (BZ n++rest) 0 0=A0 (BZ n) 0 0:=by
  rw[Au,Au,P5 h1]
 rw[h3,BJ];omega
theorem sA{s:Prop}{n:Nat}{t:List Nat}(ht:t=[]\/∃d,d≠0/\t=47::BZ d):IA s (BZ n++t)=K5 s n (if t=[] then 1 else DQ (t.drop 1)):=by
 have H:M (BZ n++t)=A1 (BZ n):=by
  rw[hZ (Nt n)]
  rcases ht with h|⟨d,_,h⟩
  · rw[h];rfl
  · rw[h];rfl
 have h0:M (BZ n++t)≠0:=by have:=RZ n;omega
 have D:t=(BZ n++t).drop (M (BZ n++t)):=by rw[H,LQ]
 have C:(BZ n++t).take (M (BZ n++t))=BZ n:=by rw[H,List.take_left]
 rcases ht with h|⟨d,hd0,h⟩
 · rw[AC h,jy h0 D (λe=>e.1 h) (λe=>e.1 h),C,Mq,h,Tx]
 · have J:MY t:=by rw[h];exact⟨B9,I⟩
   have h1:t.drop 1=BZ d:=by rw[h];rfl
   have h2:¬(t.drop 1=[]\/M (t.drop 1)≠A1 (t.drop 1)):=by
    rw[h1]
    rintro(e|e)
    · have:=RZ d;rw[e] at this;simp at this
    · exact e (tg.2 (Nt d))
   rw[A8 (by rw[h];simp),hv h0 D J h2 (by rw[h1,Mq];exact hd0),C,Mq,Tx]
theorem Xv{q:Rat}(h:lq q<=60):UL (qF q)=(0,q):=by
 have M:=cR q;rw[ej A3];have J:∃t,qF q=(if q.num<0 then[45] else[])++(BZ (AH q.num)++t)/\(t=[]\/∃d,d≠0/\t=47::BZ d)/\(if t=[] then 1 else DQ (t.drop 1))=q.den:=by
  unfold qF
  by_cases h1:q.den=1
  · refine⟨[],?_,.inl I,by rw[AC I,h1]⟩
    rw[AC (show wH q.den=0 by rw[h1];rfl)];simp
  · refine⟨47::BZ q.den,?_,.inr ⟨q.den,q.den_nz,I⟩,?_⟩
    · rw[bY h1,A8 q.den_nz]
      simp
    · rw[A8 B9]
      exact Mq q.den
 obtain⟨t,h1,h2,h3⟩:=J;have C:Jp (qF q)↔q.num<0:=by
  rw[h1]
  by_cases hs:q.num<0
  · rw[AC hs]
    exact⟨λ_=>hs,λ_=>⟨by simp;omega,I⟩⟩
  · rw[A8 hs]
    exact⟨λe=>absurd e.2 (ur _ _).1,λe=>absurd e hs⟩
 have H:Ln (qF q)=BZ (AH q.num)++t:=by
  by_cases hs:q.num<0
  · rw[ma (C.2 hs),h1,AC hs];rfl
  · rw[l7 (λe=>hs (C.1 e)),h1,A8 hs];rfl
 rw[H,propext C,sA h2,h3];have D:mkRat (sg (q.num<0) (AH q.num)) q.den=q:=kS q;rw[ue (by rw[D];have:=tb (q:=q) A3;omega),D]
theorem lA{n:Nat}(h0:n≠0)(h:n<10):BZ n=[48+n]:=by
 unfold BZ;rw[A8 h0,OB h0,show n/10=0 by omega,s0,CG h];rfl
theorem pQ(q:Rat):yK q=if q=0 then 0 else if q<0 then -1 else 1:=by unfold yK;simp only[cK]
theorem Wm(a b:Rat):wA a b= -wA b a:=by unfold wA;grind
theorem SG(a b:Rat):wA a b=yK (a-b):=by rw[pQ];unfold wA;grind
theorem KK(a b:Rat):a<b\/a=b\/b<a:=by grind
theorem cg(a b c:Rat):wA (a*c) (b*c)=wA a b*yK c:=by
 rw[pQ]
 by_cases h0:c=0
 · subst h0
   have:wA (a*0) (b*0)=0:=lP.2 Bo;rw[this,AC I,Int.mul_zero]
 · rw[A8 h0]
   by_cases hc:c<0
   · rw[AC hc]
     rcases KK a b with h|h|h
     · have h1:b*c<a*c:=by
        have:=HK h (c:=-c) Bo;grind
       unfold wA;grind
     · subst h;unfold wA;simp
     · have h1:a*c<b*c:=by
        have:=HK h (c:=-c) Bo;grind
       unfold wA;grind
   · rw[A8 hc]
     have C:0<c:=by grind
     rcases KK a b with h|h|h
     · have h1:=HK h C
       unfold wA;grind
     · subst h;unfold wA;simp
     · have h1:=HK h C
       unfold wA;grind
theorem lL{x y:Int}(hx:-1<=x/\x<=1)(hy:-1<=y/\y<=1):-1<=x*y/\x*y<=1:=by
 have:x= -1\/x=0\/x=1:=by omega
 rcases this with h|h|h<;>subst h<;>omega
theorem kF{a b:Rat}:wA a b<=0↔a<=b:=by
 have h:=oP (a:=a) (b:=b);constructor
 · intro h1
   refine Rat.not_lt.1 λe=>?_;have:=h.2 e;omega
 · intro h1
   have:¬0<wA a b:=λe=>Rat.not_lt.2 h1 (h.1 e);omega
theorem RY(a b:Rat):a<=b\/b<=a:=by grind
theorem YH(a:Rat):s6 a a=a:=by unfold s6;split<;>rfl
theorem V4(a:Rat):s7 a a=a:=by unfold s7;split<;>rfl
theorem ah{a b c:Rat}(h:a<=b)(hc:0<=c):a*c<=b*c:=K3 h hc
theorem Qm(x:Rat):0<=x*x:=by
 rcases RY 0 x with h|h
 · have:=ah h h;grind
 · have:=ah (a:=0) (b:=-x) (c:=-x) Bo Bo;grind
theorem dh(n:Nat):∃m,m*m<=n/\n<(m+1)*(m+1):=by
 induction n with
 |zero=>exact⟨0,Aa,Aa⟩
 |succ n ih=>
  obtain⟨m,h1,h2⟩:=ih
  by_cases h:(m+1)*(m+1)<=n+1
  · refine⟨m+1,h,?_⟩
    have:(m+1)*(m+1)<(m+1+1)*(m+1+1):=Nat.mul_self_lt_mul_self A3;omega
  · exact⟨m,A3,A3⟩
def ss(n:Nat):Nat:=Classical.choose (dh n)
theorem Sb{h:A4}{cs:List A2}{a b:Rat}{k l:Nat}(r:(AE k).R h cs a)(e:a=b)(hl:lq b<=l):(AE l).R h cs b:=by
 subst e;exact⟨r.1,hl⟩
def Xf(a K:Nat):Rat:=(a:Rat)/((2^K:Nat):Rat)
def cm(q:Rat)(K:Nat):Nat:=AH q.num*2^K*2^K/q.den
def Kl(q:Rat)(k:Int):Rat:=Xf (ss (cm q (kN k))) (kN k)
theorem VW{x y c:Rat}(hc:0<c):x<=y↔x*c<=y*c:=by
 constructor
 · intro h;exact K3 h Bo
 · intro h
   refine Rat.not_lt.1 λe=>?_;have:=HK e hc;grind
def uv(h:Rat)(k:Int):Rat:=if h<0 then 0 else if Kl h k*Kl h k<h then Kl h k+Xf 1 (kN k) else Kl h k
theorem Rj{q:Rat}:0<yK q↔0<q:=by
 rw[pQ]
 by_cases h0:q=0
 · rw[AC h0,h0]
   constructor
   · intro h;omega
   · intro h;exact absurd h (Rat.lt_irrefl)
 · rw[A8 h0]
   by_cases h1:q<0
   · rw[AC h1]
     constructor
     · intro h;omega
     · intro h;grind
   · rw[A8 h1]
     constructor
     · intro h;grind
     · intro h;omega
theorem kZ{q:Rat}:yK q<0↔q<0:=by
 rw[pQ]
 by_cases h0:q=0
 · rw[AC h0,h0]
   constructor
   · intro h;omega
   · intro h;exact absurd h (Rat.lt_irrefl)
 · rw[A8 h0]
   by_cases h1:q<0
   · rw[AC h1];simp[h1]
   · rw[A8 h1]
     constructor
     · intro h;omega
     · intro h;grind
abbrev Pt:=T3 Rat
abbrev P2:=Rat×Rat
def pr(p:Pt)(i j:Nat):P2:=(p.at i,p.at j)
theorem NZ{c:Prop} [Decidable c](a b:Pt)(i j:Nat):pr (if c then a else b) i j=if c then pr a i j else pr b i j:=by split<;>rfl
def cr(u v w:P2):Rat:=(v.1-u.1)*(w.2-u.2)-(v.2-u.2)*(w.1-u.1)
def Ai(u v w:P2):Int:=yK (cr u v w)
def fF(a b x:Rat):Prop:=(a<=x/\x<=b)\/(x<=a/\b<=x)
def BX(u v p:P2):Prop:=fF u.1 v.1 p.1/\fF u.2 v.2 p.2/\cr u v p=0
def kR(a b c d:Rat):Prop:=(a<c/\a<d/\b<c/\b<d)\/(c<a/\d<a/\c<b/\d<b)
def lx(u v:P2):Prop:=u.1<v.1\/(u.1=v.1/\u.2<v.2)
def De(u v:P2):P2:=if lx v u then v else u
def BA(u v:P2):P2:=if lx v u then u else v
def iQ(a b c d:P2):Int:=
 if lx (if lx d b then d else b) (if lx a c then c else a) then 0 else if lx (if lx a c then c else a) (if lx d b then d else b) then 3
 else if((if lx a c then c else a)=a\/(if lx a c then c else a)=b)/\((if lx a c then c else a)=c\/(if lx a c then c else a)=d) then 1 else 2
def nQ(a b c d:P2):Int:=iQ (De a b) (BA a b) (De c d) (BA c d)
def tE(a b c d:P2):Int:=
 if kR a.1 b.1 c.1 d.1\/kR a.2 b.2 c.2 d.2 then 0
 else if Ai a b c=0/\Ai a b d=0/\Ai c d a=0/\Ai c d b=0 then nQ a b c d
 else if 0<Ai a b c*Ai a b d\/0<Ai c d a*Ai c d b then 0
 else if(Ai a b c=0\/Ai a b d=0)/\(Ai c d a=0\/Ai c d b=0) then 1 else 2
def HX(a b c d:P2):Int:=
 if lx (if lx d b then d else b) (if lx a c then c else a) then 0 else if(if lx a c then c else a)≠(if lx d b then d else b) then 3
 else if((if lx a c then c else a)=a\/(if lx a c then c else a)=b)/\((if lx a c then c else a)=c\/(if lx a c then c else a)=d)/\BX a b (if lx a c then c else a)/\BX c d (if lx a c then c else a) then 1
 else if BX a b (if lx a c then c else a)/\BX c d (if lx a c then c else a) then 2 else 0
def w8(a b c d:P2):Int:=if(a=b/\BX c d a)\/(c=d/\BX a b c) then 2 else 0
def OI(a b c d:P2):Int:=
 if Ai a b c=0/\Ai a b d=0/\Ai c d a=0/\Ai c d b=0 then HX a b c d
 else if a=b\/c=d then w8 a b c d
 else if 0<Ai a b c*Ai a b d\/0<Ai c d a*Ai c d b then 0
 else if a=c\/a=d\/b=c\/b=d then 1 else 2
def oZ(a b c d:P2):Int:=OI (De a b) (BA a b) (De c d) (BA c d)
def CM(ax ay bx by' cx cy:Rat):Rat:=(bx-ax)*(cy-ay)-(by'-ay)*(cx-ax)
theorem o5{D e u v:Rat}(hD:0<D)(h0:0<=e)(h1:e<=D)(h:D*u=v*e):(0<=v->0<=u/\u<=v)/\(v<=0->v<=u/\u<=0):=by
 constructor
 · intro H
   constructor
   · refine Rat.not_lt.1 λC=>?_
     have h2:=HK C hD;have h3:=Hp H h0;grind
   · refine Rat.not_lt.1 λC=>?_
     have h2:=HK C hD;have h3:=K3 h1 H;grind
 · intro H
   constructor
   · refine Rat.not_lt.1 λC=>?_
     have h2:=HK C hD;have h3:=K3 h1 (c:=-v) Bo;grind
   · refine Rat.not_lt.1 λC=>?_
     have h2:=HK C hD;have h3:=Hp (a:=-v) (b:=e) Bo h0;grind
theorem Ti{a b:Rat}(h:a<=b):a<b\/a=b:=by grind
theorem rD{a b:Rat}(h:a*b=0):a=0\/b=0:=IU.1 h
def F3(ax ay bx by':Rat):Prop:=ax<bx\/(ax=bx/\ay<by')
theorem Sc{ax ay bx by':Rat}:¬F3 bx by' ax ay↔ax<bx\/(ax=bx/\ay<=by'):=by
 unfold F3;grind
theorem QI{ax ay bx by' px py:Rat}(hs:¬F3 bx by' ax ay)(hc:CM ax ay bx by' px py=0):
 (¬F3 px py ax ay/\¬F3 bx by' px py)↔(fF ax bx px/\fF ay by' py):=by
 rw[Sc] at hs;rw[Sc,Sc];unfold CM at hc;unfold fF
 rcases hs with hs|⟨hx,hy⟩
 · have M:0<bx-ax:=by grind
   have J:(bx-ax)*(py-ay)=(by'-ay)*(px-ax):=by grind
   constructor
   · rintro⟨h1,h2⟩
     have h3:0<=px-ax:=by grind
     have C:px-ax<=bx-ax:=by grind
     obtain⟨H,D⟩:=o5 M h3 C J;refine⟨.inl ⟨Bo,Bo⟩,?_⟩
     rcases RY ay by' with h7|h7
     · have:=H Bo;grind
     · have:=D Bo;grind
   · rintro⟨h1,h2⟩
     have h3:ax<=px/\px<=bx:=by grind
     constructor
     · rcases Ti h3.1 with C|C
       · exact .inl C
       · refine .inr ⟨C,?_⟩
         have H:(bx-ax)*(py-ay)=0:=by grind
         rcases rD H with D|D<;>grind
     · rcases Ti h3.2 with C|C
       · exact .inl C
       · refine .inr ⟨C,?_⟩
         have H:(bx-ax)*(py-by')=0:=by grind
         rcases rD H with D|D<;>grind
 · subst hx
   grind
theorem aj{a b x:Rat}:fF a b x↔fF b a x:=by unfold fF;grind
theorem Xo(ax ay bx by' cx cy:Rat):CM bx by' ax ay cx cy= -CM ax ay bx by' cx cy:=by unfold CM;grind
theorem du{ax ay bx by' px py:Rat}:(CM ax ay bx by' px py=0/\(if F3 bx by' ax ay then ¬F3 px py bx by'/\¬F3 ax ay px py else ¬F3 px py ax ay/\¬F3 bx by' px py))↔(fF ax bx px/\fF ay by' py/\CM ax ay bx by' px py=0):=by
 by_cases hc:CM ax ay bx by' px py=0
 · simp only[hc,true_and,and_true]
   by_cases hl:F3 bx by' ax ay
   · rw[AC hl]
     have h1:¬F3 ax ay bx by':=by unfold F3 at *;grind
     have h2:CM bx by' ax ay px py=0:=by rw[Xo,hc];grind
     rw[QI h1 h2,aj,aj (a:=by')]
   · rw[A8 hl]
     exact QI hl hc
 · simp[hc]
theorem W9{ux uy vx vy wx wy:Rat}(h:ux≠0\/uy≠0)(h1:vx*uy=vy*ux)(h2:wx*uy=wy*ux):vx*wy=vy*wx:=by
 rcases h with h|h
 · have e:ux*(vx*wy-vy*wx)=0:=by grind
   rcases rD e with h3|h3
   · exact absurd h3 h
   · grind
 · have e:uy*(vx*wy-vy*wx)=0:=by grind
   rcases rD e with h3|h3
   · exact absurd h3 h
   · grind
theorem i2{ax ay bx by' cx cy dx dy:Rat}(hp:CM ax ay bx by' cx cy=0)(hr:CM cx cy dx dy ax ay=0):
 (ax=cx/\ay=cy)\/(CM ax ay bx by' dx dy=0/\CM cx cy dx dy bx by'=0):=by
 by_cases h:ax=cx/\ay=cy
 · exact .inl h
 · refine .inr ?_
   have C:cx-ax≠0\/cy-ay≠0:=by grind
   have h1:(bx-ax)*(cy-ay)=(by'-ay)*(cx-ax):=by unfold CM at hp;grind
   have h2:(dx-ax)*(cy-ay)=(dy-ay)*(cx-ax):=by unfold CM at hr;grind
   have h3:=W9 C h1 h2;unfold CM;constructor<;>grind
theorem oy{ax ay bx by' cx cy dx dy:Rat}(hpq:CM ax ay bx by' cx cy≠CM ax ay bx by' dx dy)(h1:CM ax ay bx by' cx cy*CM ax ay bx by' dx dy<=0)(h2:CM cx cy dx dy ax ay*CM cx cy dx dy bx by'<=0)(hrs:CM cx cy dx dy ax ay≠CM cx cy dx dy bx by'):
 ∃x y,fF ax bx x/\fF ay by' y/\fF cx dx x/\fF cy dy y:=by
 obtain⟨p,U⟩:∃p,p=CM ax ay bx by' cx cy:=⟨_,I⟩;obtain⟨q,M⟩:∃q,q=CM ax ay bx by' dx dy:=⟨_,I⟩;obtain⟨r,J⟩:∃r,r=CM cx cy dx dy ax ay:=⟨_,I⟩;obtain⟨s,es⟩:∃s,s=CM cx cy dx dy bx by':=⟨_,I⟩;rw[<-U,<-M] at hpq h1;rw[<-J,<-es] at hrs h2;have hw:∀{u v:Rat},u≠v->u*v<=0->0<=u/(u-v)/\u/(u-v)<=1:=by
  intro u v ab ac;have h3:u-v≠0:=by grind
  have D:0<(u-v)*(u-v):=by
   rcases KK (u-v) 0 with h|h|h
   · have:=GN (a:=-(u-v)) (b:=-(u-v)) Bo Bo;grind
   · exact absurd h h3
   · exact GN h h
  have e:u/(u-v)*((u-v)*(u-v))=u*(u-v):=by grind
  have h5:0<=u*u:=Qm u;have h6:0<=v*v:=Qm v;constructor
  · rw[VW D,e];grind
  · rw[VW D,e];grind
 obtain⟨t1,t2⟩:=hw hpq h1;obtain⟨w1,w2⟩:=hw hrs h2;have H:∀{u v t:Rat},0<=t->t<=1->fF u v (u+t*(v-u)):=by
  intro u v t h3 D;unfold fF
  rcases RY u v with h5|h5
  · left
    have h6:=Hp h3 (show 0<=v-u by grind);have h7:=K3 D (show 0<=v-u by grind);constructor<;>grind
  · right
    have h6:=Hp h3 (show 0<=u-v by grind);have h7:=K3 D (show 0<=u-v by grind);constructor<;>grind
 have C:p-q≠0:=by grind
 have aa:r-s≠0:=by grind
 have K0:p-q= -(r-s):=by rw[U,M,J,es];unfold CM;grind
 have ex:cx+p/(p-q)*(dx-cx)=ax+r/(r-s)*(bx-ax):=by
  have e1:(p-q)*(cx+p/(p-q)*(dx-cx))=(p-q)*(ax+r/(r-s)*(bx-ax)):=by
   have e2:(p-q)*(cx+p/(p-q)*(dx-cx))=(p-q)*cx+p*(dx-cx):=by grind
   have e3:(p-q)*(ax+r/(r-s)*(bx-ax))=(p-q)*ax-r*(bx-ax):=by grind
   rw[e2,e3,U,M,J];unfold CM;grind
  have Z:(p-q)*((cx+p/(p-q)*(dx-cx))-(ax+r/(r-s)*(bx-ax)))=0:=by grind
  rcases rD Z with h|h
  · exact absurd h C
  · grind
 have ey:cy+p/(p-q)*(dy-cy)=ay+r/(r-s)*(by'-ay):=by
  have e1:(p-q)*(cy+p/(p-q)*(dy-cy))=(p-q)*(ay+r/(r-s)*(by'-ay)):=by
   have e2:(p-q)*(cy+p/(p-q)*(dy-cy))=(p-q)*cy+p*(dy-cy):=by grind
   have e3:(p-q)*(ay+r/(r-s)*(by'-ay))=(p-q)*ay-r*(by'-ay):=by grind
   rw[e2,e3,U,M,J];unfold CM;grind
  have Z:(p-q)*((cy+p/(p-q)*(dy-cy))-(ay+r/(r-s)*(by'-ay)))=0:=by grind
  rcases rD Z with h|h
  · exact absurd h C
  · grind
 exact⟨_,_,ex▸H w1 w2,ey▸H w1 w2,H t1 t2,H t1 t2⟩
theorem bZ{a b c d x:Rat}(h:kR a b c d)(h1:fF a b x)(h2:fF c d x):False:=by unfold kR fF at *;grind
theorem TS(u v w:P2):cr u v w=CM u.1 u.2 v.1 v.2 w.1 w.2:=rfl
theorem fT{u v w:P2}:Ai u v w=0↔cr u v w=0:=qK
theorem pY{u v:P2}:¬lx v u↔lx u v\/u=v:=by
 unfold lx;rw[Prod.ext_iff];grind
theorem iA(u:P2):¬lx u u:=by unfold lx;grind
theorem bV{u v:P2}(h:lx u v):¬lx v u:=by unfold lx at *;grind
theorem Oh{u v w:P2}(h:lx u v)(k:lx v w):lx u w:=by unfold lx at *;grind
theorem jw{a b p:P2}:(Ai a b p=0/\(if lx b a then ¬lx p b/\¬lx a p else ¬lx p a/\¬lx b p))↔BX a b p:=by
 rw[fT];exact du
theorem eQ{a b p:P2}(hs:¬lx b a)(hc:cr a b p=0):(¬lx p a/\¬lx b p)↔BX a b p:=by
 have:=QI hs hc;unfold BX;rw[<-and_assoc,and_iff_left hc];exact this
theorem iM(a b c:P2):cr b a c= -cr a b c:=Xo _ _ _ _ _ _
theorem KN(a b c:P2):Ai b a c= -Ai a b c:=by
 unfold Ai;rw[iM,pQ,pQ];grind
theorem mL(a c:P2):cr a a c=0:=by unfold cr;grind
theorem OJ(a c:P2):cr a c c=0:=by unfold cr;grind
theorem t9(a c:P2):cr a c a=0:=by unfold cr;grind
theorem TW{a b c d:Rat}:kR b a c d↔kR a b c d:=by unfold kR;grind
theorem WE{a b c d:Rat}:kR a b d c↔kR a b c d:=by unfold kR;grind
theorem ZX(a b:P2):De a b=De b a:=by
 unfold De
 by_cases h:lx b a
 · rw[AC h,A8 (bV h)]
 · rw[A8 h]
   rcases pY.1 h with h1|h1
   · rw[AC h1]
   · rw[h1,A8 (iA _)]
theorem Yh(a b:P2):BA a b=BA b a:=by
 unfold BA
 by_cases h:lx b a
 · rw[AC h,A8 (bV h)]
 · rw[A8 h]
   rcases pY.1 h with h1|h1
   · rw[AC h1]
   · rw[h1,A8 (iA _)]
theorem YD(a b c d:P2):tE b a c d=tE a b c d:=by
 have e:nQ b a c d=nQ a b c d:=by unfold nQ;rw[ZX b a,Yh b a]
 unfold tE;rw[e,TW,TW (a:=a.2),KN a b c,KN a b d];have h1:-Ai a b c*-Ai a b d=Ai a b c*Ai a b d:=by grind
 have h2:Ai c d b*Ai c d a=Ai c d a*Ai c d b:=Int.mul_comm _ _;rw[h1,h2];have h3:(-Ai a b c=0/\-Ai a b d=0/\Ai c d b=0/\Ai c d a=0)↔(Ai a b c=0/\Ai a b d=0/\Ai c d a=0/\Ai c d b=0):=by grind
 have C:((-Ai a b c=0\/-Ai a b d=0)/\(Ai c d b=0\/Ai c d a=0))↔((Ai a b c=0\/Ai a b d=0)/\(Ai c d a=0\/Ai c d b=0)):=by grind
 simp only[h3,C]
theorem a9(a b c d:P2):tE a b d c=tE a b c d:=by
 have e:nQ a b d c=nQ a b c d:=by unfold nQ;rw[ZX d c,Yh d c]
 unfold tE;rw[e,WE,WE (a:=a.2),KN c d a,KN c d b];have h1:-Ai c d a*-Ai c d b=Ai c d a*Ai c d b:=by grind
 have h2:Ai a b d*Ai a b c=Ai a b c*Ai a b d:=Int.mul_comm _ _;rw[h1,h2];have h3:(Ai a b d=0/\Ai a b c=0/\-Ai c d a=0/\-Ai c d b=0)↔(Ai a b c=0/\Ai a b d=0/\Ai c d a=0/\Ai c d b=0):=by grind
 have C:((Ai a b d=0\/Ai a b c=0)/\(-Ai c d a=0\/-Ai c d b=0))↔((Ai a b c=0\/Ai a b d=0)/\(Ai c d a=0\/Ai c d b=0)):=by grind
 simp only[h3,C]
theorem fv(a b c d:P2):tE a b c d=tE (De a b) (BA a b) (De c d) (BA c d):=by
 unfold De BA
 split
 · split
   · rw[YD,a9]
   · rw[YD]
 · split
   · rw[a9]
   · rfl
theorem NU(a b:P2):¬lx (BA a b) (De a b):=by
 unfold De BA
 split
 · rename_i h;exact bV h
 · rename_i h;exact h
theorem iE{a b:P2}(h:¬lx b a):De a b=a/\BA a b=b:=⟨A8 h,A8 h⟩
theorem pg{a b c d:P2}(hab:¬lx b a)(hcd:¬lx d c)(h1:cr a b c=0)(h2:cr a b d=0)(h3:cr c d a=0)(h4:cr c d b=0)(hap:kR a.1 b.1 c.1 d.1\/kR a.2 b.2 c.2 d.2):lx b c\/lx d a:=by
 rcases hap with hap|hap
 · unfold kR at hap
   unfold lx;grind
 · -- the order yPU the line is that of the second coordinate, or its reverse
   rw[pY] at hab hcd;refine C7 λJ=>?_;have H:¬lx b c:=λe=>J (.inl e);have D:¬lx d a:=λe=>J (.inr e);rw[pY] at H D
   -- c ≤ b and a ≤ d in the order of the line: the segments share a point
   have C:BX a b c\/BX c d a:=by
    by_cases e:lx c a
    · right
      refine(eQ (pY.2 hcd) h3).1 ⟨?_,?_⟩
      · exact bV e
      · exact pY.2 D
    · left
      refine(eQ (pY.2 hab) h1).1 ⟨e,pY.2 H⟩
   rcases C with⟨_,hb,_⟩|⟨_,hb,_⟩
   · exact bZ hap hb (by unfold fF;grind)
   · exact bZ hap (x:=a.2) (by unfold fF;grind) hb
theorem nb{a b c d:P2}(hab:¬lx b a)(hcd:¬lx d c)(h1:cr a b c=0)(h2:cr a b d=0)(h3:cr c d a=0)(h4:cr c d b=0):HX a b c d=iQ a b c d:=by
 unfold HX iQ
 by_cases hh:lx (if lx d b then d else b) (if lx a c then c else a)
 · rw[AC hh,AC hh]
 · rw[A8 hh,A8 hh]
   by_cases he:(if lx a c then c else a)=(if lx d b then d else b)
   · rw[A8 (λe=>e he),A8 (show ¬lx (if lx a c then c else a) (if lx d b then d else b) by rw[he];exact iA _)]
     have C:BX a b (if lx a c then c else a)/\BX c d (if lx a c then c else a):=by
      have Z:¬lx (if lx a c then c else a) a:=by
       split
       · rename_i h;exact bV h
       · exact iA _
      have U:¬lx (if lx a c then c else a) c:=by
       split
       · exact iA _
       · rename_i h;exact h
      have M:¬lx b (if lx a c then c else a):=by
       rw[he]
       split
       · rename_i h;exact bV h
       · exact iA _
      have J:¬lx d (if lx a c then c else a):=by
       rw[he]
       split
       · exact iA _
       · rename_i h;exact h
      have H:cr a b (if lx a c then c else a)=0:=by
       split
       · exact h1
       · exact t9 a b
      have D:cr c d (if lx a c then c else a)=0:=by
       split
       · exact t9 c d
       · exact h3
      exact⟨(eQ hab H).1 ⟨Z,M⟩,(eQ hcd D).1 ⟨U,J⟩⟩
     by_cases hx:((if lx a c then c else a)=a\/(if lx a c then c else a)=b)/\((if lx a c then c else a)=c\/(if lx a c then c else a)=d)
     · rw[AC ⟨hx.1,hx.2,C⟩,AC hx]
     · rw[A8 (λe=>hx ⟨e.1,e.2.1⟩),AC C,A8 hx]
   · rw[AC he,AC ((pY.1 hh).resolve_right he)]
theorem qn{x y:Rat}:0<yK x*yK y↔0<x*y:=by
 have h1:=pQ x;have h2:=pQ y
 rcases KK x 0 with hx|hx|hx<;>rcases KK y 0 with hy|hy|hy
 · have:=GN (a:=-x) (b:=-y) Bo Bo
   have D:yK x= -1:=by grind
   have C:yK y= -1:=by grind
   rw[D,C];grind
 · subst hy;have e:x*0=0:=by grind
   have C:yK 0=0:=by grind
   rw[e,C];simp
 · have:=GN (a:=-x) (b:=y) Bo hy
   have D:yK x= -1:=by grind
   have C:yK y=1:=by grind
   rw[D,C];grind
 · subst hx;have e:0*y=0:=by grind
   have C:yK 0=0:=by grind
   rw[e,C];simp
 · subst hx;have e:0*y=0:=by grind
   have C:yK 0=0:=by grind
   rw[e,C];simp
 · subst hx;have e:0*y=0:=by grind
   have C:yK 0=0:=by grind
   rw[e,C];simp
 · have:=GN (a:=x) (b:=-y) hx Bo
   have D:yK x=1:=by grind
   have C:yK y= -1:=by grind
   rw[D,C];grind
 · subst hy;have e:x*0=0:=by grind
   have C:yK 0=0:=by grind
   rw[e,C];simp
 · have:=GN hx hy
   have D:yK x=1:=by grind
   have C:yK y=1:=by grind
   rw[D,C];grind
theorem eO{a b c d e f:P2}:0<Ai a b c*Ai d e f↔0<cr a b c*cr d e f:=qn
theorem Y1{a b c d:P2}(hn:¬(cr a b c=0/\cr a b d=0/\cr c d a=0/\cr c d b=0)):((cr a b c=0\/cr a b d=0)/\(cr c d a=0\/cr c d b=0))↔(a=c\/a=d\/b=c\/b=d):=by
 have D:∀u v w:P2,cr u v w= -cr v u w:=λu v w=>iM v u w;constructor
 · rintro⟨h1,h2⟩
   -- one end of each
   have C:∀{p q r s:P2},cr p q r=0->cr r s p=0->p=r\/(cr p q s=0/\cr r s q=0):=by
    intro p q r s J H
    rcases i2 J H with h|h
    · exact .inl (Prod.ext h.1 h.2)
    · exact .inr h
   rcases h1 with h1|h1<;>rcases h2 with h2|h2
   · rcases C h1 h2 with h|h
     · exact .inl h
     · exact absurd ⟨h1,h.1,h2,h.2⟩ hn
   · rcases C (p:=b) (q:=a) (r:=c) (s:=d) (by rw[iM,h1];grind) h2 with h|h
     · exact .inr (.inr (.inl h))
     · exact absurd ⟨h1,by rw[D,h.1];grind,h.2,h2⟩ hn
   · rcases C (p:=a) (q:=b) (r:=d) (s:=c) h1 (by rw[iM,h2];grind) with h|h
     · exact .inr (.inl h)
     · exact absurd ⟨h.1,h1,h2,by rw[D,h.2];grind⟩ hn
   · rcases C (p:=b) (q:=a) (r:=d) (s:=c) (by rw[iM,h1];grind) (by rw[iM,h2];grind) with h|h
     · exact .inr (.inr (.inr h))
     · exact absurd ⟨by rw[D,h.1];grind,h1,by rw[D,h.2];grind,h2⟩ hn
 · rintro(h|h|h|h)
   · subst h;exact⟨.inl (t9 a b),.inl (t9 a d)⟩
   · subst h;exact⟨.inr (t9 a b),.inl (OJ c a)⟩
   · subst h;exact⟨.inl (OJ a b),.inr (t9 b d)⟩
   · subst h;exact⟨.inr (OJ a b),.inr (OJ c b)⟩
theorem gy{a b c d:P2}(hab:¬lx b a)(hcd:¬lx d c):tE a b c d=OI a b c d:=by
 unfold tE OI;simp only[fT]
 by_cases hz:cr a b c=0/\cr a b d=0/\cr c d a=0/\cr c d b=0
 · obtain⟨h1,h2,h3,h4⟩:=hz
   rw[AC (show cr a b c=0/\cr a b d=0/\cr c d a=0/\cr c d b=0 from⟨h1,h2,h3,h4⟩),AC (show cr a b c=0/\cr a b d=0/\cr c d a=0/\cr c d b=0 from⟨h1,h2,h3,h4⟩),nb hab hcd h1 h2 h3 h4];unfold nQ;rw[(iE hab).1,(iE hab).2,(iE hcd).1,(iE hcd).2]
   by_cases C:kR a.1 b.1 c.1 d.1\/kR a.2 b.2 c.2 d.2
   · rw[AC C]
     have D:=pg hab hcd h1 h2 h3 h4 C;unfold iQ;rw[AC]
     rcases D with D|D
     · have e1:lx a c:=by
        rcases pY.1 hab with e|e
        · exact Oh e D
        · rw[e];exact D
       have e2:¬lx d b:=by
        refine bV ?_
        rcases pY.1 hcd with e|e
        · exact Oh D e
        · rw[<-e];exact D
       rw[A8 e2,AC e1];exact D
     · have e1:¬lx a c:=by
        refine bV ?_
        rcases pY.1 hcd with e|e
        · exact Oh e D
        · rw[e];exact D
       have e2:lx d b:=by
        rcases pY.1 hab with e|e
        · exact Oh D e
        · rw[<-e];exact D
       rw[AC e2,A8 e1];exact D
   · rw[A8 C]
 · rw[A8 hz,A8 hz]
   by_cases hd:a=b\/c=d
   · rw[AC hd]
     have e0:w8 a b c d=0:=by
      unfold w8;rw[A8]
      rintro(⟨e,h⟩|⟨e,h⟩)
      · subst e
        exact hz ⟨mL _ _,mL _ _,h.2.2,h.2.2⟩
      · subst e
        exact hz ⟨h.2.2,h.2.2,mL _ _,mL _ _⟩
     rw[e0]
     by_cases C:kR a.1 b.1 c.1 d.1\/kR a.2 b.2 c.2 d.2
     · rw[AC C]
     · rw[A8 C,AC]
       rw[eO,eO];have H:∀x:Rat,x≠0->0<x*x:=by
        intro x hx
        rcases KK x 0 with h|h|h
        · have:=GN (a:=-x) (b:=-x) Bo Bo;grind
        · exact absurd h hx
        · exact GN h h
       rcases hd with e|e
       · subst e
         right
         refine H _ λh=>?_;exact hz ⟨mL _ _,mL _ _,h,h⟩
       · subst e
         left
         refine H _ λh=>?_;exact hz ⟨h,h,mL _ _,mL _ _⟩
   · rw[A8 hd]
     by_cases hs:0<Ai a b c*Ai a b d\/0<Ai c d a*Ai c d b
     · rw[AC hs,AC hs]
       split<;>rfl
     · rw[A8 hs,A8 hs]
       rw[eO,eO] at hs;have J:cr a b c*cr a b d<=0:=Rat.not_lt.1 λe=>hs (.inl e);have ab:cr c d a*cr c d b<=0:=Rat.not_lt.1 λe=>hs (.inr e);have U:¬(kR a.1 b.1 c.1 d.1\/kR a.2 b.2 c.2 d.2):=by
        intro C;have aa:∀{p q r s:P2},p≠q->cr p q r=0->cr p q s=0->cr r s p=0/\cr r s q=0:=by
         intro p q r s ac k1 k2;have hu:q.1-p.1≠0\/q.2-p.2≠0:=by
          refine C7 λe=>ac (Prod.ext ?_ ?_)<;>grind
         have k3:(r.1-p.1)*(q.2-p.2)=(r.2-p.2)*(q.1-p.1):=by unfold cr at k1;grind
         have k4:(s.1-p.1)*(q.2-p.2)=(s.2-p.2)*(q.1-p.1):=by unfold cr at k2;grind
         have k5:=W9 hu k3 k4;unfold cr;constructor<;>grind
        have K0:cr a b c-cr a b d= -(cr c d a-cr c d b):=by unfold cr;grind
        have M:cr a b c≠cr a b d:=by
         intro e;rw[e] at J;have h5:=Qm (cr a b d);have h6:cr a b d*cr a b d=0:=by grind
         have Z:cr a b d=0:=by rcases rD h6 with h|h<;>exact h
         obtain⟨h8,h9⟩:=aa (λe=>hd (.inl e)) (by rw[e];exact Z) Z;exact hz ⟨by rw[e];exact Z,Z,h8,h9⟩
        obtain⟨x,y,k1,k2,k3,k4⟩:=oy (ax:=a.1) (ay:=a.2) (bx:=b.1) (by':=b.2) (cx:=c.1) (cy:=c.2) (dx:=d.1) (dy:=d.2) M J ab (by intro e;apply M;rw[TS c d a,TS c d b,e] at K0;grind)
        rcases C with h|h
        · exact bZ h k1 k3
        · exact bZ h k2 k4
       rw[A8 U]
       by_cases he:(cr a b c=0\/cr a b d=0)/\(cr c d a=0\/cr c d b=0)
       · rw[AC he,AC ((Y1 hz).1 he)]
       · rw[A8 he,A8 (λe=>he ((Y1 hz).2 e))]
theorem U0(a b c d:P2):tE a b c d=oZ a b c d:=by
 rw[fv];unfold oZ;exact gy (NU a b) (NU c d)
theorem Uj(a b c d:P2):tE c d a b=tE a b c d:=by
 have D:∀(a b c d:P2),¬lx b a->¬lx d c->iQ c d a b=iQ a b c d:=by
  intro a b c d _ _;unfold iQ;have U:(if lx c a then a else c)=(if lx a c then c else a):=by
   by_cases h:lx a c
   · rw[AC h,A8 (bV h)]
   · rw[A8 h]
     rcases pY.1 h with h1|h1
     · rw[AC h1]
     · rw[h1,A8 (iA _)]
  have M:(if lx b d then b else d)=(if lx d b then d else b):=by
   by_cases h:lx d b
   · rw[AC h,A8 (bV h)]
   · rw[A8 h]
     rcases pY.1 h with h1|h1
     · rw[AC h1]
     · rw[h1,A8 (iA _)]
  rw[U,M];simp only[and_comm]
 have C:∀{a b c d:Rat},kR c d a b↔kR a b c d:=by intro a b c d;unfold kR;grind
 unfold tE;have e:nQ c d a b=nQ a b c d:=D _ _ _ _ (NU a b) (NU c d);rw[e,C (a:=a.1) (b:=b.1) (c:=c.1) (d:=d.1),C (a:=a.2) (b:=b.2) (c:=c.2) (d:=d.2)];have h3:(Ai c d a=0/\Ai c d b=0/\Ai a b c=0/\Ai a b d=0)↔(Ai a b c=0/\Ai a b d=0/\Ai c d a=0/\Ai c d b=0):=by grind
 have J:(0<Ai c d a*Ai c d b\/0<Ai a b c*Ai a b d)↔(0<Ai a b c*Ai a b d\/0<Ai c d a*Ai c d b):=or_comm;have H:((Ai c d a=0\/Ai c d b=0)/\(Ai a b c=0\/Ai a b d=0))↔((Ai a b c=0\/Ai a b d=0)/\(Ai c d a=0\/Ai c d b=0)):=and_comm;simp only[h3,J,H]
def Be(q:Rat):Int:=if q.den≠1\/1<A1 (zB (AH q.num)) then 0 else q.num
def Bs(q:Rat):Prop:=q.den=1/\AH q.num<268435456
theorem sr{n:Nat}(h:n<4294967296):A1 (zB n)<=1:=qO (by rw[Nat.pow_one];exact h)
theorem XW{q:Rat}(h:Bs q):A1 (zB (AH q.num))<=1:=sr (by have:=h.2;omega)
theorem rU{q:Rat}(h:Bs q):q=((Be q:Int):Rat)/\-268435456<Be q/\Be q<268435456:=by
 have h1:=XW h;have e:Be q=q.num:=by unfold Be;rw[A8];rintro(e|e);exact e h.1;omega
 have h2:=h.2;refine⟨?_,by rw[e];omega,by rw[e];omega⟩;rw[e];have h3:=Rat.divInt_eq_div q.num q.den;rw[Rat.num_divInt_den,h.1] at h3;rw[h3];have D:((1:Nat):Int)=1:=I;have:((q.num:Rat)/((((1:Nat):Int)):Rat))=(q.num:Rat):=by rw[D];have C:((1:Int):Rat)=1:=I;rw[C];grind
 rw[this];rw[h3] at *;simp
theorem cf{q:Rat}(h:(0:Int)<↑(A1 (zB (wH q.den)))\/(1:Int)<↑(A1 (zB (AH q.num)))):Be q=0/\¬Bs q:=by
 have h1:q.den≠1\/1<A1 (zB (AH q.num)):=by
  rcases h with h|h
  · left;intro e;rw[e,aN,xT] at h;simp at h
  · right;omega
 refine⟨AC h1,λC=>?_⟩
 rcases h1 with e|e
 · exact e C.1
 · have:=XW C;omega
theorem Ro{q:Rat}(h:¬((0:Int)<↑(A1 (zB (wH q.den)))\/(1:Int)<↑(A1 (zB (AH q.num))))):q.den=1/\A1 (zB (AH q.num))<=1:=by
 refine⟨(iJ q.den_nz).1 ?_,A3⟩;have:A1 (zB (wH q.den))=0:=by omega
 exact DG this
theorem Wh{q:Rat}(h:¬((0:Int)<↑(A1 (zB (wH q.den)))\/(1:Int)<↑(A1 (zB (AH q.num))))):Be q=q.num:=by
 obtain⟨h1,h2⟩:=Ro h;unfold Be;rw[A8]
 rintro(e|e)
 · exact e h1
 · omega
theorem bn{q:Rat}(h:¬((0:Int)<↑(A1 (zB (wH q.den)))\/(1:Int)<↑(A1 (zB (AH q.num)))))(h0:(↑(A1 (zB (AH q.num))):Int)=0):Be q=0/\Bs q:=by
 obtain⟨h1,h2⟩:=Ro h;have C:AH q.num=0:=by
  refine C7 λe=>?_;have:=yJ.2 e;omega
 refine⟨by rw[Wh h];omega,h1,A3⟩
theorem ju{q:Rat}(h:¬((0:Int)<↑(A1 (zB (wH q.den)))\/(1:Int)<↑(A1 (zB (AH q.num)))))(h0:¬(↑(A1 (zB (AH q.num))):Int)=0):A0 (zB (AH q.num)) 0 0=AH q.num/\AH q.num<4294967296/\(Bs q↔AH q.num<268435456):=by
 obtain⟨h1,h2⟩:=Ro h;have h3:=L9 (xs:=zB (AH q.num)) A3;rw[zF] at h3;have C:=uT (AH q.num);have D:A1 (zB (AH q.num))=1:=by omega
 rw[D,Nat.pow_one] at C;exact⟨h3.symm,C,λe=>e.2,λe=>⟨h1,e⟩⟩
theorem X5{x y:Int}{p q:Prop}(h1:x=y)(h2:p↔q):A2.tuple #[vI x,vB p]=.tuple #[vI y,vB q]:=by subst h1;rw[qQ h2]
theorem Zf{u v:Int}(h1:-536870912<u)(h2:u<536870912)(h3:-536870912<v)(h4:v<536870912):-288230376151711744<=u*v/\u*v<=288230376151711744:=by
 have C:∀{a b:Int},0<=a->a<536870912->0<=b->b<536870912->0<=a*b/\a*b<=288230376151711744:=by
  intro a b M J D H;have Z:=Iw M D;have U:a*b<=536870912*536870912:=Int.mul_le_mul A3 A3 D A3;omega
 rcases Mp 0 u with hu|hu<;>rcases Mp 0 v with hv|hv
 · have:=C hu h2 hv h4;omega
 · have:=C hu h2 (b:=-v) A3 A3
   rw[Int.mul_neg] at this;omega
 · have:=C (a:=-u) A3 A3 hv h4
   rw[Lo] at this;omega
 · have:=C (a:=-u) (b:=-v) A3 A3 A3 A3
   rw[Int.neg_mul_neg] at this;omega
def GF(n:Int):Int:=if 0<n then 1 else if n<0 then -1 else 0
theorem mV(n:Int):yK (n:Rat)=GF n:=by
 rw[pQ];unfold GF;have h0:((n:Rat)=0)↔n=0:=by
  have e:(0:Rat)=((0:Int):Rat):=I;rw[e,EF]
 have h1:((n:Rat)<0)↔n<0:=by
  have e:(0:Rat)=((0:Int):Rat):=I;rw[e,L4]
 simp only[h0,h1]
 split
 · rename_i h;subst h;simp
 · split
   · rw[A8 A3]
   · rw[AC A3]
theorem hk{a b c:P2}(h1:Bs a.1/\Bs a.2)(h2:Bs b.1/\Bs b.2)(h3:Bs c.1/\Bs c.2):
 GF ((Be b.1-Be a.1)*(Be c.2-Be a.2)-(Be b.2-Be a.2)*(Be c.1-Be a.1))=Ai a b c:=by
 rw[<-mV];unfold Ai cr
 congr 1
 rw[Et,Dq,Dq,Et,Et,Et,Et];rw[<-(rU h1.1).1,<-(rU h1.2).1,<-(rU h2.1).1,<-(rU h2.2).1,<-(rU h3.1).1,<-(rU h3.2).1]
theorem hq(a b c:P2):wA ((b.1-a.1)*(c.2-a.2)) ((b.2-a.2)*(c.1-a.1))=Ai a b c:=by rw[SG];rfl
theorem sD(a b c:P2):-1<=Ai a b c/\Ai a b c<=1:=yZ _
theorem Qz{a b:Pt}{i j:Nat}:pr a i j=pr b i j↔a.at i=b.at i/\a.at j=b.at j:=by unfold pr;rw[Prod.ext_iff]
theorem tf{a b x:Rat}:((wA a x<=0/\wA x b<=0)\/(0<=wA a x/\0<=wA x b))↔fF a b x:=by
 have h1:=kF (a:=a) (b:=x);have h2:=kF (a:=x) (b:=b);have h3:=Wm a x;have H:=Wm x b;have D:=kF (a:=x) (b:=a);have C:=kF (a:=b) (b:=x);unfold fF;rw[<-h1,<-h2,<-D,<-C];omega
theorem Xs{a b:Pt}{i j:Nat}:(wA (a.at i) (b.at i)<0\/(wA (a.at i) (b.at i)=0/\wA (a.at j) (b.at j)<0))↔lx (pr a i j) (pr b i j):=by
 rw[rI,lP,rI];rfl
def FY(a b:Pt)(i j:Nat):Pt:=if lx (pr b i j) (pr a i j) then b else a
def Fv(a b:Pt)(i j:Nat):Pt:=if lx (pr b i j) (pr a i j) then a else b
def MC(a c:Pt)(i j:Nat):Pt:=if lx (pr a i j) (pr c i j) then c else a
def N4(b d:Pt)(i j:Nat):Pt:=if lx (pr d i j) (pr b i j) then d else b
def gp(l:List Pt)(m:Nat):Pt:=A0 l m (T3.mk (0:Rat) 0 0)
def qN(l:List Pt)(i j:Nat):Nat->Rat
  |0=>0
  |m+1=>qN l i j m+((gp l m).at i*(gp l ((m+1)%A1 l)).at j-(gp l ((m+1)%A1 l)).at i*(gp l m).at j)
theorem hD(a b c:Pt):yK (qN [a,b,c] 0 1 3)=Ai (pr a 0 1) (pr b 0 1) (pr c 0 1):=by
 have:qN [a,b,c] 0 1 3=cr (pr a 0 1) (pr b 0 1) (pr c 0 1):=by
  simp[qN,gp,pr,cr,T3.at];grind
 unfold Ai;rw[this]
def aT(a b p:P2):Prop:=¬(a.2<=p.2↔b.2<=p.2)/\((a.2<=p.2/\0<Ai a b p)\/(b.2<=p.2/\Ai a b p<0))
def qJ(l:List Pt)(i j m:Nat):P2:=pr (gp l m) i j
def qI(l:List Pt)(i j m:Nat):P2:=pr (gp l ((m+1)%A1 l)) i j
def sE(l:List Pt)(p:P2)(i j:Nat):Nat->Prop
  |0=>False
  |m+1=>(aT (qJ l i j m) (qI l i j m) p/\¬sE l p i j m)\/(¬aT (qJ l i j m) (qI l i j m) p/\sE l p i j m)
def aS(l:List Pt)(p:P2)(i j:Nat):Int:=
 if ∃m,m<A1 l/\BX (qJ l i j m) (qI l i j m) p then 0 else if sE l p i j (A1 l) then 1 else -1
theorem Xa{l:List Pt}{p:P2}{i j m:Nat}(hm:m<A1 l)(h:BX (qJ l i j m) (qI l i j m) p):0=aS l p i j:=(AC ⟨m,hm,h⟩).symm
theorem Z1{l:List Pt}{p:P2}{i j n:Nat}(hn:¬n<A1 l)(hn2:n<=A1 l)(h:∀q,q<n->¬BX (qJ l i j q) (qI l i j q) p)(ho:sE l p i j n):1=aS l p i j:=by
 have e:n=A1 l:=by omega
 subst e;unfold aS;rw[A8 (λ⟨m,D,C⟩=>h m D C),AC ho]
theorem Vz{l:List Pt}{p:P2}{i j n:Nat}(hn:¬n<A1 l)(hn2:n<=A1 l)(h:∀q,q<n->¬BX (qJ l i j q) (qI l i j q) p)(ho:¬sE l p i j n):-1=aS l p i j:=by
 have e:n=A1 l:=by omega
 subst e;unfold aS;rw[A8 (λ⟨m,D,C⟩=>h m D C),A8 ho]
theorem KQ{l:List Pt}{p:P2}{i j n:Nat}(h:∀q,q<n->¬BX (qJ l i j q) (qI l i j q) p)(h1:¬BX (qJ l i j n) (qI l i j n) p):∀q,q<n+1->¬BX (qJ l i j q) (qI l i j q) p:=λq hq=>by
 rcases Dp.1 hq with h2|h2
 · exact h q h2
 · subst h2;exact h1
theorem pz{l:List Pt}{p:P2}{i j n:Nat}(h:(qJ l i j n).2<=p.2↔(qI l i j n).2<=p.2):sE l p i j n=sE l p i j (n+1):=by
 have:¬aT (qJ l i j n) (qI l i j n) p:=λC=>C.1 h
 show _=(_\/_)
 simp[this]
theorem k4{l:List Pt}{p:P2}{i j n:Nat}(h:¬((qJ l i j n).2<=p.2↔(qI l i j n).2<=p.2))(h1:((qJ l i j n).2<=p.2/\0<Ai (qJ l i j n) (qI l i j n) p)\/((qI l i j n).2<=p.2/\Ai (qJ l i j n) (qI l i j n) p<0)):(¬sE l p i j n)=sE l p i j (n+1):=by
 have:aT (qJ l i j n) (qI l i j n) p:=⟨h,h1⟩
 show _=(_\/_)
 simp[this]
theorem jg{l:List Pt}{p:P2}{i j n:Nat}(h1:¬(((qJ l i j n).2<=p.2/\0<Ai (qJ l i j n) (qI l i j n) p)\/((qI l i j n).2<=p.2/\Ai (qJ l i j n) (qI l i j n) p<0))):sE l p i j n=sE l p i j (n+1):=by
 have:¬aT (qJ l i j n) (qI l i j n) p:=λC=>h1 C.2
 show _=(_\/_)
 simp[this]
theorem qt{a b:Pt}(h:¬wA a.x b.x=0):wA a.x b.x<0↔lx (pr a 0 1) (pr b 0 1):=by
 have h2:=Xs (a:=a) (b:=b) (i:=0) (j:=1);rw[<-h2];exact⟨.inl,λe=>e.elim id λe=>absurd e.1 h⟩
theorem mc{a b:Pt}(h:¬¬wA a.x b.x=0):wA a.y b.y<0↔lx (pr a 0 1) (pr b 0 1):=by
 have h1:=Br h;have h2:=Xs (a:=a) (b:=b) (i:=0) (j:=1);rw[<-h2];exact⟨λe=>.inr ⟨h1,e⟩,λe=>e.elim (λe=>absurd h1 (by have:wA a.x b.x<0:=e;omega)) λe=>e.2⟩
theorem Q4(a b:Pt)(i j:Nat):pr (FY a b i j) i j=De (pr a i j) (pr b i j):=NZ _ _ _ _
theorem TA(a b:Pt)(i j:Nat):pr (Fv a b i j) i j=BA (pr a i j) (pr b i j):=NZ _ _ _ _
theorem Pn{a b p:Pt}{i j:Nat}:(Ai (pr (FY a b i j) i j) (pr (Fv a b i j) i j) (pr p i j)=0/\¬lx (pr p i j) (pr (FY a b i j) i j)/\¬lx (pr (Fv a b i j) i j) (pr p i j))↔BX (pr a i j) (pr b i j) (pr p i j):=by
 rw[Q4,TA,<-jw,fT,fT];unfold De BA
 split
 · rw[iM]
   grind
 · exact Iff.rfl
def Ie(a b c d lo hi:Pt):Int:=
 if lx (pr hi 0 1) (pr lo 0 1) then 0 else if ¬pr lo 0 1=pr hi 0 1 then 3
 else if(((pr lo 0 1=pr a 0 1\/pr lo 0 1=pr b 0 1)/\(pr lo 0 1=pr c 0 1\/pr lo 0 1=pr d 0 1))/\BX (pr a 0 1) (pr b 0 1) (pr lo 0 1))/\BX (pr c 0 1) (pr d 0 1) (pr lo 0 1) then 1
 else if BX (pr a 0 1) (pr b 0 1) (pr lo 0 1)/\BX (pr c 0 1) (pr d 0 1) (pr lo 0 1) then 2 else 0
theorem Kf{a b c d lo hi:Pt}(h1:lo=MC a c 0 1)(h2:hi=N4 b d 0 1):Ie a b c d lo hi=HX (pr a 0 1) (pr b 0 1) (pr c 0 1) (pr d 0 1):=by
 have D:pr lo 0 1=if lx (pr a 0 1) (pr c 0 1) then pr c 0 1 else pr a 0 1:=by rw[h1];exact NZ _ _ _ _
 have C:pr hi 0 1=if lx (pr d 0 1) (pr b 0 1) then pr d 0 1 else pr b 0 1:=by rw[h2];exact NZ _ _ _ _
 unfold Ie HX;rw[D,C];simp only[and_assoc,ne_eq]
def IE(a b c d:Pt):Int:=
 if((Ai (pr a 0 1) (pr b 0 1) (pr c 0 1)=0/\Ai (pr a 0 1) (pr b 0 1) (pr d 0 1)=0)/\Ai (pr c 0 1) (pr d 0 1) (pr a 0 1)=0)/\Ai (pr c 0 1) (pr d 0 1) (pr b 0 1)=0 then HX (pr a 0 1) (pr b 0 1) (pr c 0 1) (pr d 0 1)
 else if pr a 0 1=pr b 0 1\/pr c 0 1=pr d 0 1 then w8 (pr a 0 1) (pr b 0 1) (pr c 0 1) (pr d 0 1)
 else if 0<Ai (pr a 0 1) (pr b 0 1) (pr c 0 1)*Ai (pr a 0 1) (pr b 0 1) (pr d 0 1)\/0<Ai (pr c 0 1) (pr d 0 1) (pr a 0 1)*Ai (pr c 0 1) (pr d 0 1) (pr b 0 1) then 0
 else if((pr a 0 1=pr c 0 1\/pr a 0 1=pr d 0 1)\/pr b 0 1=pr c 0 1)\/pr b 0 1=pr d 0 1 then 1 else 2
theorem LU{a b c d A B C D:Pt}(h1:A=FY (T3.mk a.x a.y 0) (T3.mk b.x b.y 0) 0 1)(h2:B=Fv (T3.mk a.x a.y 0) (T3.mk b.x b.y 0) 0 1)(h3:C=FY (T3.mk c.x c.y 0) (T3.mk d.x d.y 0) 0 1)(h4:D=Fv (T3.mk c.x c.y 0) (T3.mk d.x d.y 0) 0 1):
 IE A B C D=oZ (pr a 0 1) (pr b 0 1) (pr c 0 1) (pr d 0 1):=by
 have U:pr A 0 1=De (pr a 0 1) (pr b 0 1):=by rw[h1];exact Q4 _ _ _ _
 have M:pr B 0 1=BA (pr a 0 1) (pr b 0 1):=by rw[h2];exact TA _ _ _ _
 have J:pr C 0 1=De (pr c 0 1) (pr d 0 1):=by rw[h3];exact Q4 _ _ _ _
 have H:pr D 0 1=BA (pr c 0 1) (pr d 0 1):=by rw[h4];exact TA _ _ _ _
 unfold IE oZ OI;rw[U,M,J,H];simp only[and_assoc,or_assoc]
end Bk
namespace Bk
open Classical
def Fk(a b:Pt):Pt:=if 0<wA a.y b.y then b else a
def Gh(a b:Pt):Pt:=if 0<wA a.y b.y then a else b
theorem WZ(a b p:Pt):((wA (Fk a b).y p.y<=0/\wA p.y (Gh a b).y<0)/\0<Ai (pr (Fk a b) 0 1) (pr (Gh a b) 0 1) (pr p 0 1))↔aT (pr a 0 1) (pr b 0 1) (pr p 0 1):=by
 unfold Fk Gh aT;rw[kF,rI];have J:(pr a 0 1).2=a.y:=I;have H:(pr b 0 1).2=b.y:=I;have D:(pr p 0 1).2=p.y:=I;rw[J,H,D]
 by_cases h:0<wA a.y b.y
 · have h1:=oP.1 h
   rw[AC h,AC h,KN (pr a 0 1) (pr b 0 1)];constructor
   · rintro⟨⟨h2,h3⟩,C⟩
     exact⟨λe=>by grind,.inr ⟨h2,A3⟩⟩
   · rintro⟨h2,h3|h3⟩
     · exact absurd ⟨λ_=>by grind,λ_=>h3.1⟩ h2
     · exact⟨⟨h3.1,Bo⟩,A3⟩
 · have h1:¬b.y<a.y:=λe=>h (oP.2 e)
   rw[A8 h,A8 h];constructor
   · rintro⟨⟨h2,h3⟩,C⟩
     exact⟨λe=>by grind,.inl ⟨h2,C⟩⟩
   · rintro⟨h2,h3|h3⟩
     · exact⟨⟨h3.1,Bo⟩,h3.2⟩
     · exact absurd ⟨λ_=>h3.1,λ_=>by grind⟩ h2
theorem mj{l:List Pt}{p:P2}{i j n:Nat}(h:aT (qJ l i j n) (qI l i j n) p):(¬sE l p i j n)=sE l p i j (n+1):=by
 show _=(_\/_)
 simp[h]
theorem or{l:List Pt}{p:P2}{i j n:Nat}(h:¬aT (qJ l i j n) (qI l i j n) p):sE l p i j n=sE l p i j (n+1):=by
 show _=(_\/_)
 simp[h]
def FI(L:List (List Pt))(p:P2)(i j:Nat):Nat->Int
  |0=>-1
  |m+1=>if aS (A0 L m []) p i j=1 then -(FI L p i j m) else FI L p i j m
def Hi(L:List (List Pt))(p:P2)(i j:Nat):Int:=if ∃m,m<A1 L/\aS (A0 L m []) p i j=0 then 0 else FI L p i j (A1 L)
theorem ZT(L:List (List Pt))(p:P2)(i j:Nat):∀m,-1<=FI L p i j m/\FI L p i j m<=1
  |0=>by unfold FI;omega
  |m+1=>by
   have h:=ZT L p i j m;unfold FI
   split<;>omega
theorem fs{L:List (List Pt)}{p:P2}{i j m:Nat}(h1:¬m<A1 L)(h2:m<=A1 L)(h:∀q,q<m->¬aS (A0 L q []) p i j=0):FI L p i j m=Hi L p i j:=by
 have e:m=A1 L:=by omega
 subst e;exact(A8 λ⟨q,C,hz⟩=>h q C hz).symm
theorem Wr{L:List (List Pt)}{p:P2}{i j m:Nat}(h:∀q,q<m->¬aS (A0 L q []) p i j=0)(h1:¬aS (A0 L m []) p i j=0):∀q,q<m+1->¬aS (A0 L q []) p i j=0:=λq hq=>by
 rcases Dp.1 hq with h2|h2
 · exact h q h2
 · subst h2;exact h1
theorem tk{L:List (List Pt)}{n:Nat}(h:∀x,x∈L->A1 x<=n)(m:Nat):A1 (A0 L m [])<=n:=by
 rw[Au]
 rcases DR m (A1 L) with h1|h1
 · rw[BV h1]
   exact h _ (Ep h1)
 · rw[F0 h1]
   exact Ci _
def YC(R:Nat->Nat->Prop)(n a:Nat):Prop:=∀p q,p<a->p<q->q<n->R p q
def XA(l:List Pt)(i j p q:Nat):Prop:=¬pr (gp l p) i j=pr (gp l q) i j
def JZ(n p q:Nat):Int:=if q=p+1\/(p=0/\q+1=n) then 1 else 0
def Oc(l:List Pt)(i j p q:Nat):Prop:=tE (qJ l i j p) (qI l i j p) (qJ l i j q) (qI l i j q)=JZ (A1 l) p q
def aV(l:List Pt)(i j:Nat):Prop:=3<=A1 l/\YC (XA l i j) (A1 l) (A1 l)/\YC (Oc l i j) (A1 l) (A1 l)
theorem hK{n p q:Nat}(h:q=p+1\/(p=0/\q+1=n)):(1:Int)=JZ n p q:=(AC h).symm
theorem p5{n p q:Nat}(h:¬(q=p+1\/(p=0/\q+1=n))):(0:Int)=JZ n p q:=(A8 h).symm
def Gf(a b:List Pt)(i j p q:Nat):Prop:=1<tE (qJ a i j p) (qI a i j p) (qJ b i j q) (qI b i j q)
def fE(a b:List Pt)(i j:Nat):Prop:=∃p q,p<A1 a/\q<b.length/\Gf a b i j p q
theorem o6{Q:Nat->Nat->Prop}{p q n:Nat}(h:∀v,v<q->¬Q p v)(h1:¬Q p q):∀v,v<q+1->¬Q p v:=λv hv=>by
 rcases Dp.1 hv with h2|h2
 · exact h v h2
 · subst h2;exact h1
theorem wZ{Q:Nat->Prop}{q:Nat}(h:∀v,v<q->Q v)(h1:Q q):∀v,v<q+1->Q v:=λv hv=>by
 rcases Dp.1 hv with h2|h2
 · exact h v h2
 · subst h2;exact h1
theorem eh{Q:Nat->Nat->Prop}{p q n:Nat}(h:∀u v,u<p->v<n->¬Q u v)(h1:∀v,v<q->¬Q p v)(hq:n<=q):∀u v,u<p+1->v<n->¬Q u v:=λu v hu hv=>by
 rcases Dp.1 hu with h2|h2
 · exact h u v h2 hv
 · subst h2;exact h1 v A3
theorem mr{Q:Nat->Nat->Prop}{p q:Nat}(h:∀u v,v<p->u<v->¬Q u v)(h1:∀u,u<q->¬Q u p)(hq:p<=q):∀u v,v<p+1->u<v->¬Q u v:=λu v hv hu=>by
 rcases Dp.1 hv with h2|h2
 · exact h u v h2 hu
 · subst h2;exact h1 u A3
def Ij(u v:P2):P2:=(iX u.1 v.1,iX u.2 v.2)
def cO(c l:List Pt)(i j:Nat):Nat->Int
  |0=>0
  |m+1=>if aS c (Ij (qJ l i j m) (qI l i j m)) i j=1 then cO c l i j m+1 else cO c l i j m
theorem oW(c l:List Pt)(i j:Nat):∀m,0<=cO c l i j m/\cO c l i j m<=m
  |0=>by unfold cO;omega
  |m+1=>by
   have h:=oW c l i j m;unfold cO
   split<;>omega
theorem gj{c l:List Pt}{i j m:Nat}{p:P2}(hp:p=Ij (qJ l i j m) (qI l i j m))(h:aS c p i j=1):cO c l i j m+1=cO c l i j (m+1):=by subst hp;exact(AC h).symm
theorem mp{c l:List Pt}{i j m:Nat}{p:P2}(hp:p=Ij (qJ l i j m) (qI l i j m))(h:¬aS c p i j=1):cO c l i j m=cO c l i j (m+1):=by subst hp;exact(A8 h).symm
def C2(l:List Pt)(i j:Nat):Rat:=qN l i j (A1 l)
def Iu(c l:List Pt)(i j:Nat):Int:=cO c l i j (A1 l)
abbrev gl(L:List (List Pt))(m:Nat):List Pt:=A0 L m []
def YW(L:List (List Pt))(i j k m:Nat)(best:Int):Prop:=
 (0<yK (C2 (gl L m) i j)/\Iu (gl L m) (gl L k) i j=↑(A1 (gl L k)))/\(best<0\/wA (C2 (gl L m) i j) (C2 (gl L best.toNat) i j)<0)
def pK(L:List (List Pt))(i j k:Nat):Nat->Int
  |0=>-1
  |m+1=>if YW L i j k m (pK L i j k m) then ↑m else pK L i j k m
theorem Rz(L:List (List Pt))(i j k:Nat):∀m,-1<=pK L i j k m/\pK L i j k m<m
  |0=>by unfold pK;omega
  |m+1=>by
   have h:=Rz L i j k m;unfold pK
   split<;>omega
def pZ(L:List (List Pt))(i j k:Nat):Int:=if 0<yK (C2 (gl L k) i j) then -1 else pK L i j k (A1 L)
def Ez(L:List (List Pt))(i j a b:Nat):Prop:=((¬b=a/\0<=pZ L i j a)/\pZ L i j b=pZ L i j a)/\0<Iu (gl L b) (gl L a) i j
def iS(L:List (List Pt))(i j k:Nat):Prop:=¬0<yK (C2 (gl L k) i j)/\pK L i j k (A1 L)<0
def uK(L:List (List Pt))(i j:Nat):Int:=
 if 16<A1 L\/∃m,m<A1 L/\64<A1 (gl L m) then 2
 else if ∃m,m<A1 L/\¬aV (gl L m) i j then 8
 else if ∃a b,a<b/\b<A1 L/\fE (gl L a) (gl L b) i j then 32
 else if(∃k,k<A1 L/\iS L i j k)\/∃a b,a<A1 L/\b<A1 L/\Ez L i j a b then 33 else 0
def rC(L:List (List Pt))(i j:Nat):List Int:=if uK L i j=0 then(List.range (A1 L)).map (pZ L i j) else[]
theorem MM{L:List (List Pt)}{i j:Nat}(h:16<A1 L\/∃m,m<A1 L/\64<A1 (gl L m)):uK L i j=2/\rC L i j=[]:=by
 have e:uK L i j=2:=AC h;exact⟨e,A8 (by rw[e];decide)⟩
theorem V1{L:List (List Pt)}{i j:Nat}(h1:¬16<A1 L)(h2:∀m,m<A1 L->¬64<A1 (gl L m))(h:∃m,m<A1 L/\¬aV (gl L m) i j):uK L i j=8/\rC L i j=[]:=by
 have e:uK L i j=8:=by
  unfold uK;rw[A8 (by rintro(h|⟨m,C,h⟩);exact h1 h;exact h2 m C h),AC h]
 exact⟨e,A8 (by rw[e];decide)⟩
theorem Wd{L:List (List Pt)}{i j:Nat}(h1:¬16<A1 L)(h2:∀m,m<A1 L->¬64<A1 (gl L m))(h3:∀m,m<A1 L->aV (gl L m) i j)(h:∃a b,a<b/\b<A1 L/\fE (gl L a) (gl L b) i j):uK L i j=32/\rC L i j=[]:=by
 have e:uK L i j=32:=by
  unfold uK;rw[A8 (by rintro(h|⟨m,C,h⟩);exact h1 h;exact h2 m C h),A8 (by rintro⟨m,C,h⟩;exact h (h3 m C)),AC h]
 exact⟨e,A8 (by rw[e];decide)⟩
theorem M7{L:List (List Pt)}{i j:Nat}(h1:¬16<A1 L)(h2:∀m,m<A1 L->¬64<A1 (gl L m))(h3:∀m,m<A1 L->aV (gl L m) i j)(h4:∀a b,b<A1 L->a<b->¬fE (gl L a) (gl L b) i j)
    (h:(∃k,k<A1 L/\iS L i j k)\/∃a b,a<A1 L/\b<A1 L/\Ez L i j a b):uK L i j=33/\rC L i j=[]:=by
 have e:uK L i j=33:=by
  unfold uK;rw[A8 (by rintro(h|⟨m,C,h⟩);exact h1 h;exact h2 m C h),A8 (by rintro⟨m,C,h⟩;exact h (h3 m C)),A8 (by rintro⟨a,b,H,D,h⟩;exact h4 a b D H h),AC h]
 exact⟨e,A8 (by rw[e];decide)⟩
theorem h8{O:List Int}{n:Nat}{f:Nat->Int}(hl:A1 O=n)(h:∀q,q<n->A0 O q 0=f q):O=(List.range n).map f:=by
 refine LA (by simp[hl]) λq h1 h2=>?_;have h3:=h q A3;rw[Au,BV h1] at h3;simp only[L8] at h3;simp[h3]
theorem XG{L:List (List Pt)}{i j:Nat}{O:List Int}(h1:¬16<A1 L)(h2:∀m,m<A1 L->¬64<A1 (gl L m))(h3:∀m,m<A1 L->aV (gl L m) i j)(h4:∀a b,b<A1 L->a<b->¬fE (gl L a) (gl L b) i j)
    (h5:∀k,k<A1 L->¬iS L i j k)(h6:∀a b,a<A1 L->b<A1 L->¬Ez L i j a b)(hl:A1 O=A1 L)(hO:∀q,q<A1 L->A0 O q 0=pZ L i j q):uK L i j=0/\rC L i j=O:=by
 have e:uK L i j=0:=by
  unfold uK;rw[A8 (by rintro(h|⟨m,C,h⟩);exact h1 h;exact h2 m C h),A8 (by rintro⟨m,C,h⟩;exact h (h3 m C)),A8 (by rintro⟨a,b,H,D,h⟩;exact h4 a b D H h),
   A8 (by rintro(⟨k,J,h⟩|⟨a,b,H,D,h⟩);exact h5 k J h;exact h6 a b H D h)]
 exact⟨e,by unfold rC;rw[AC e];exact(h8 hl hO).symm⟩
theorem Ux{α:Type}{l:List α}{k q:Nat}{x d:α}(hk:k<A1 l):A0 (l.set k x) q d=if q=k then x else A0 l q d:=by
 rw[Au,Au,Mv]
 by_cases h:k=q
 · rw[AC h,AC hk,AC h.symm];rfl
 · rw[A8 h,A8 (λe=>h e.symm)]
theorem MI{α:Type}{l:List α}{k:Nat}{x d:α}{f:Nat->α}(hk:k<A1 l)(h:∀q,q<k->A0 l q d=f q)(hx:x=f k):∀q,q<k+1->A0 (l.set k x) q d=f q:=λq hq=>by
 rw[Ux hk]
 split
 · rename_i e;rw[e,hx]
 · exact h q A3
theorem WJ{α:Type}{l:List α}{k:Nat}{x d:α}(hk:k<A1 l):A0 (l.set k x) k d=x:=by rw[Ux hk,AC I]
end Bk
namespace Bk
open Classical
open Go Go.RowKit
def wQ:Rp (List Nat) where
 n:=1
 agg:=false
 R _ cs s:=cs=[.string (uR s)]/\BK s
 len:=by rintro h cs s ⟨rfl,_⟩;rfl
 mono:=λ_ r=>r
 one:=by rintro h cs s ⟨rfl,_⟩;rfl
 cell:=λ_=>rfl
theorem fV{h:A4}{s:List Nat}(hb:BK s):wQ.Is h (.string (uR s)) s:=⟨_,⟨rfl,hb⟩,rfl⟩
theorem tJ{h:A4}{v:A2}{s:List Nat}(r:wQ.Is h v s):v=.string (uR s)/\BK s:=by
 obtain⟨cs,⟨rfl,C⟩,rfl⟩:=r;exact⟨I,C⟩
theorem jQ{h:A4}:wQ.R h [.string ⟨#[]⟩] []:=⟨rfl,BK.nil⟩
def Dr:List Nat->List Nat->Prop
  |[],[]=>False
  |[],_::_=>True
  |_::_,[]=>False
  |x::a,y::b=>if x=y then Dr a b else x<y
def Az:Rp A2 where
 n:=1
 agg:=false
 R _ cs v:=cs=[v]/\v.oneCell'=true
 len:=by rintro h cs v ⟨rfl,_⟩;rfl
 mono:=λ_ r=>r
 one:=by rintro h cs v ⟨rfl,hv⟩;simp[hv]
 cell:=λ_=>rfl
theorem oH{h:A4}{v:A2}(hv:v.oneCell'=true):Az.Is h v v:=⟨_,⟨rfl,hv⟩,rfl⟩
theorem PV{h:A4}{u v:A2}(r:Az.Is h u v):v=u:=by
 obtain⟨cs,⟨rfl,C⟩,rfl⟩:=r
 rfl
theorem fG{h:A4}:Az.R h [.slice none 0 0] (.slice none 0 0):=⟨rfl,rfl⟩
section
variable {α β γ δ:Type}{h:A4}
theorem MJ{ρ:Rp α}{v:A2}{xs:List α}(r:(AS ρ).Is h v xs):(AS ρ).R h [v] xs:=by
 obtain⟨cs,⟨u,ds,rfl,s,C⟩,rfl⟩:=r;exact⟨_,ds,I,s,C⟩
theorem Fr{π:Rp α}{ρ:Rp β}{τ:Rp γ}{cs:List A2}{p:α}{v:A2}{s:γ}{xs:List β}(r:(A6 π (A6 Az τ)).R h cs (p,(v,s)))(k:(AS ρ).Is h v xs):(A6 π (A6 (AS ρ) τ)).R h cs (p,(xs,s)):=by
 obtain⟨a,b,e,H,c,d,J,⟨D,_⟩,C⟩:=r;exact⟨a,b,e,H,c,d,J,by rw[show c=[v] from D];exact MJ k,C⟩
theorem Me{ρ:Rp β}{τ:Rp γ}{cs:List A2}{v:A2}{s:γ}{xs:List β}(r:(A6 Az τ).R h cs (v,s))(k:(AS ρ).Is h v xs):(A6 (AS ρ) τ).R h cs (xs,s):=by
 obtain⟨c,d,H,⟨D,_⟩,C⟩:=r;exact⟨c,d,H,by rw[show c=[v] from D];exact MJ k,C⟩
end
section
variable {P:D}{n:Nat}{w0:AP}{h0:A4}{e:List (Nat×A2)}{L:List AG}{h:A4}
theorem jx{E k m:Nat}{v:A2}{cs:List A2}{base:Nat}{w:AP}(hok:(AG.gs E k v m cs).ok base w):v.oneCell'=true:=by
 obtain⟨_,C⟩:=hok
 rcases C with⟨rfl,_⟩|⟨g,cap,cur,rfl,_⟩<;>rfl
theorem uD{o:AY}{A B:List AG}{r:AG}{E k m:Nat}{G:List A2->Prop}(hv:Hw P n w0 h0 o e A r B h (λu r'=>∃cs',r'=.gs E k u m cs'/\G cs')):Hw P n w0 h0 o e A r B h (λu r'=>u.oneCell'=true/\∃cs',r'=.gs E k u m cs'/\G cs'):=by
 intro a w J S;obtain⟨v,C,r',h1,h2,h3,H,cs',rfl,D⟩:=hv a w J S;exact⟨v,C,_,h1,h2,h3,H,jx h3,cs',I,D⟩
theorem sR{o:AY}{R:List AG}{Z:A2}(hv:CQ P n w0 h0 o e R h (λu=>Az.Is h u Z)):CQ P n w0 h0 o e R h (λu=>Z=u):=by
 obtain⟨v,a,b⟩:=hv;exact⟨v,a,PV b⟩
end
section
variable {α β:Type}
def qB(g:Nat->α):Nat->List α
  |0=>[]
  |i+1=>qB g i++[g i]
def rY(g:Nat->List α):Nat->List α
  |0=>[]
  |i+1=>rY g i++g i
def bC(p:Nat->Prop)(g:Nat->α):Nat->List α
  |0=>[]
  |i+1=>bC p g i++(if p i then[g i] else[])
theorem HO{p:Nat->Prop}{g:Nat->α}{i:Nat}(h:p i):bC p g i++[g i]=bC p g (i+1):=by show _=_++_;rw[AC h]
theorem H8{p:Nat->Prop}{g:Nat->α}{i:Nat}(h:¬p i):bC p g i=bC p g (i+1):=by show _=_++_;rw[A8 h,Ce]
theorem T6{p:Nat->Prop}{g:Nat->α}:∀n,bC p g n=[]↔∀i,i<n->¬p i
  |0=>⟨λ_ i h=>absurd h (IZ i),λ_=>rfl⟩
  |n+1=>by
   show _++_=[]↔_
   rw[List.append_eq_nil_iff,T6 n];constructor
   · rintro⟨h1,h2⟩ i hi
     rcases Dp.1 hi with h|h
     · exact h1 i h
     · subst h;intro e;rw[AC e] at h2;exact absurd h2 B9
   · intro h
     exact⟨λi hi=>h i A3,A8 (h n A3)⟩
theorem cS(p:Nat->Prop)(g:Nat->α):∀n,A1 (bC p g n)<=n
  |0=>B1 _
  |n+1=>by
   have:=cS p g n
   show List.length (_++_)<=_
   rw[BJ]
   split<;>simp<;>omega
theorem xN(g:Nat->α):∀n,A1 (qB g n)=n
  |0=>rfl
  |n+1=>by show List.length (_++_)=_;rw[BJ,xN g n];rfl
theorem jB(g:Nat->α)(d:α):∀{n i},i<n->A0 (qB g n) i d=g i
  |0,i,h=>absurd h (IZ i)
  |n+1,i,h=>by
   show A0 (qB g n++[g n]) i d=_
   rcases Dp.1 h with h|h
   · rw[Au,P5 (by rw[xN];exact h),<-Au];exact jB g d h
   · subst h
     rw[Au,Pr (by rw[xN];exact B1 _),xN,M3];rfl
theorem aG{g g':Nat->α}:∀n,(∀i,i<n->g i=g' i)->qB g n=qB g' n
  |0,_=>rfl
  |n+1,h=>by show _++_=_++_;rw[aG n λi hi=>h i A3,h n A3]
theorem XR{l:List α}(d:α){i:Nat}(h:i<A1 l):l.take (i+1)=l.take i++[A0 l i d]:=by
 rw[HE h,Au,BV h];rfl
theorem Yc{L:List (List α)}{n:Nat}(h:∀x,x∈L->A1 x<=n)(m:Nat):A1 (A0 L m [])<=n:=by
 rw[Au]
 rcases DR m (A1 L) with h1|h1
 · rw[BV h1];exact h _ (Ep h1)
 · rw[F0 h1];exact Ci _
theorem Ru{g:Nat->α}{x:α}:∀{n},x∈qB g n->∃i,i<n/\x=g i
  |0,h=>absurd h Bv
  |n+1,h=>by
   rcases Cy.1 (show x∈qB g n++[g n] from h) with h|h
   · obtain⟨i,hi,e⟩:=Ru h;exact⟨i,A3,e⟩
   · exact⟨n,A3,DP.1 h⟩
theorem QU{g:Nat->List α}{x:α}:∀{n},x∈rY g n->∃i,i<n/\x∈g i
  |0,h=>absurd h Bv
  |n+1,h=>by
   rcases Cy.1 (show x∈rY g n++g n from h) with h|h
   · obtain⟨i,hi,e⟩:=QU h;exact⟨i,A3,e⟩
   · exact⟨n,A3,h⟩
theorem kX{l:List α}{d:α}{i:Nat}(h:i<A1 l):A0 l i d∈l:=by
 rw[Au,BV h];exact Ep h
def lE(p:Nat->Prop):Nat->Nat
  |0=>0
  |k+1=>if p k then lE p k else k+1
theorem Sv{p:Nat->Prop}{k:Nat}(hk:0<k)(h:p (k-1)):lE p k=lE p (k-1):=by
 match k,hk with
 |k+1,_=>exact AC h
theorem LI{p:Nat->Prop}{k:Nat}(h:¬(0<k/\p (k-1))):lE p k=k:=by
 match k with
 |0=>rfl
 |k+1=>exact A8 λe=>h ⟨A3,e⟩
theorem NO(p:Nat->Prop):∀k,lE p k<=k
  |0=>B1 _
  |k+1=>by
   have:=NO p k;unfold lE
   split<;>omega
def y5(l:List α)(k:Nat)(x:α):List α:=l.take k++x::l.drop k
theorem QR(l:List α){k:Nat}(x:α)(h:k<=A1 l):A1 (y5 l k x)=A1 l+1:=by
 unfold y5;rw[BJ,lC,By,Cn];omega
theorem d3{n u:Nat}(h:u<n):A0 (List.replicate n False) u False↔False:=by
 rw[Au,List.getElem?_replicate,AC h];exact Iff.rfl
end
end Bk
namespace Bk
open Go Go.RowKit
section
variable {P:D}{n:Nat}{w0:AP}{h0:A4}{e:List (Nat×A2)}{L:List AG}{h:A4}{Q:BH->Av->AP->Prop}{ds:Option Tmp}{ty:Ab}{ps:String}{af:Array Edge}{gd:Option (Nat×Bool)}{α:Type}
theorem XZ{ρ:Rp α}{xs:List α}{v:A2}{t E:Ab}{x hu:Ag}{p:Int}(i:Nat)(ht:P.underlying t=some (.slice E))(hsz:∀w,(Go.sizeOf E).run P w=.ok ρ.n w)(hx:zK e x=some v)(hl:zK e hu=some (vI p))(r:(AS ρ).Is h v xs)
    (hp:p=(i:Int))(hi:i<=A1 xs):CQ P n w0 h0 ⟨ds,.slice t x none (some hu) none,ty,ps,af,gd⟩ e [] h (λu=>(AS ρ).Is h u (xs.take i)):=by
 obtain⟨cs,s,C⟩:=Io r;refine Ts (λL' h'=>T9 i ht hsz hx hl s.shape hp hi) ?_;have D:=s.sub (Ci i) hi;have H:=C.len;rw[E2,Ha,H3] at D;exact O6 (by rw[By,Dy hi];exact D) (C.take i)
theorem Tk:∀(a b:List Nat),BK a->BK b->(Op.bytesLess (a.map UInt8.ofNat) (b.map UInt8.ofNat)=true↔Dr a b)
  |[],[],_,_=>by simp[Op.bytesLess,Dr]
  |[],y::b,_,_=>by simp[Op.bytesLess,Dr]
  |x::a,[],_,_=>by simp[Op.bytesLess,Dr]
  |x::a,y::b,ha,hb=>by
   have hx:x<256:=ha x (.head _);have hy:y<256:=hb y (.head _);have ih:=Tk a b (λz hz=>ha z (.tail _ hz)) (λz hz=>hb z (.tail _ hz));have e1:(UInt8.ofNat x<UInt8.ofNat y)↔x<y:=by
    rw[UInt8.lt_iff_toNat_lt,UInt8.toNat_ofNat',UInt8.toNat_ofNat',CG (by simpa using hx),CG (by simpa using hy)]
   have C:(UInt8.ofNat x=UInt8.ofNat y)↔x=y:=by
    rw[<-UInt8.toNat_inj,UInt8.toNat_ofNat',UInt8.toNat_ofNat',CG (by simpa using hx),CG (by simpa using hy)]
   show((decide (UInt8.ofNat x<UInt8.ofNat y)||(UInt8.ofNat x==UInt8.ofNat y&&Op.bytesLess _ _))=true)↔(if x=y then Dr a b else x<y)
   rw[Eb,Ap,CH,beq_iff_eq,e1,C,ih]
   split
   · rename_i hxy;subst hxy;exact⟨λh=>h.elim (λh=>absurd h (KD _)) λh=>h.2,λh=>.inr ⟨I,h⟩⟩
   · rename_i hxy;exact⟨λh=>h.elim id λh=>absurd h.1 hxy,.inl⟩
theorem kz{pa pb:List Nat}{t yt:Ab}{x y:Ag}(ha:BK pa)(hb:BK pb)(hx:zK e x=some (.string (uR pa)))(hy:zK e y=some (.string (uR pb))):OpV P n w0 h0 ⟨ds,.binOp .lss t x y yt,ty,ps,af,gd⟩ e L h (vB (Dr pa pb)):=by
 have C:Op.bytesLess (uR pa).toList (uR pb).toList=true↔Dr pa pb:=by
  rw[ByteArray.toList_eq,ByteArray.toList_eq];exact Tk pa pb ha hb
 have H:vB (Dr pa pb)=.bool (Op.bytesLess (uR pa).toList (uR pb).toList):=by
  by_cases hp:Dr pa pb
  · rw[yU hp,C.2 hp]
  · rw[yH hp,Bool.eq_false_iff.2 λe=>hp (C.1 e)]
 rw[H];intro a w D S;simp only[execOp,D.eval hx,D.eval hy,binOp];simp[eqGuard,Op.stringOp]
theorem nI{A B:List AG}{E k m:Nat}{v:A2}{cs:List A2}{c:Code}(hm:0<m)(g:∀b cap,v=.slice (some ⟨b,0,none⟩) m cap->m<=cap->GC P n w0 h0 c Q e (A++.gs E k v m cs::B) h):GC P n w0 h0 c Q e (A++.gs E k v m cs::B) h:=by
 intro a w D S;obtain⟨_,C⟩:w.ownsRow w0.heap.size E k v m cs:=S.ok (.gs E k v m cs) B9
 rcases C with⟨_,h0⟩|⟨b,cap,cur,hv,_,_,hc,_⟩
 · omega
 · exact g b cap hv hc a w D S
theorem kE{fn:Func}{v:A2}{L':List AG}{RO:A4->A2->List AG->Prop}(hs:L'.Sublist L)(hres:∀{a:Av} {w:AP},Bp n e a->St w0 h0 L h w->(results fn a.tmps).run P w=.ok v w)(hR:RO h v L'):GQ n w0 h0 (bodyPost P fn (gV w0 h0 RO)) .ret e L h:=by
 intro a w E S;exact bodyPost_ret (hres E S) E.defers ⟨_,h,L',I,hR,S.sublist hs⟩
def sU(xs:List α)(i:Nat):List α:=xs.take (i+1)++(xs.drop i).take (A1 xs-i-1)
theorem fO{xs:List α}{i:Nat}(h:i<A1 xs):A1 (sU xs i)=A1 xs:=by
 unfold sU;rw[BJ,By,By,Cn];omega
theorem lf{ρ:Rp α}{cs:List A2}{xs:List α}{i:Nat}(hi:i<A1 xs)(r:RL ρ h cs xs):RL ρ h (GJ cs ((i+1)*ρ.n) ((cs.drop (i*ρ.n)).take ((A1 xs-i-1)*ρ.n))) (sU xs i):=by
 have D:=r.len;have h1:=(r.drop i).take (A1 xs-i-1);have h2:=r.take (i+1);have J:A1 xs*ρ.n=(i+1)*ρ.n+(A1 xs-i-1)*ρ.n:=by rw[<-EP];congr 1;omega
 have H:(i+1)*ρ.n=i*ρ.n+ρ.n:=IH _ _;have C:A1 ((cs.drop (i*ρ.n)).take ((A1 xs-i-1)*ρ.n))=(A1 xs-i-1)*ρ.n:=by rw[By,Cn];omega
 rw[Pa _ _ _ A3,C,show cs.drop ((i+1)*ρ.n+(A1 xs-i-1)*ρ.n)=[] from EB A3,Ce];exact h2.append h1
theorem mU{l:List α}{z x:α}{k:Nat}(h:k<=A1 l):(sU (l++[z]) k).set k x=y5 l k x:=by
 unfold sU y5;have H:A1 (l++[z])-k-1=A1 l-k:=by rw[BJ,E5];omega
 have D:((l++[z]).drop k).take (A1 l-k)=l.drop k:=by
  rw[S4 h,N3 (by rw[Cn];omega),Hn (by rw[Cn];omega)]
 have C:k<A1 (l++[z]):=by rw[BJ,E5];omega
 rw[H,D,HE C,Ck,Nc _ _ (by rw[By];omega),By,show k-min k (A1 (l++[z]))=0 by omega];rw[N3 h]
 rfl
theorem mW{A B:List AG}{t E b cap:Nat}{v:A2}{cs:List A2}{x y:Ag}{ρ:Rp α}{xs:List α}(i:Nat)(hv:v=.slice (some ⟨b,0,none⟩) (A1 xs) cap)(hmc:A1 xs<=cap)(ht:P.underlying t=some (.slice E))(hsz:∀w,(Go.sizeOf E).run P w=.ok ρ.n w)
    (hx:zK e x=some (tA ρ.n v (i+1) (A1 xs)))(hy:zK e y=some (tA ρ.n v i (A1 xs)))(hi:i<A1 xs)(r:RL ρ h cs xs):
    Hw P n w0 h0 ⟨ds,.call {callee:=.builtin .copy,args:=#[x,y],argTypes:=#[t,t]},ty,ps,af,gd⟩ e A (.gs E ρ.n v (A1 xs) cs) B h (λu r'=>∃cs',r'=.gs E ρ.n v (A1 (sU xs i)) cs'/\RL ρ h cs' (sU xs i)):=by
 intro a w Ev S;have D:w.ownsRow w0.heap.size E ρ.n v (A1 xs) cs:=S.ok (.gs E ρ.n v (A1 xs) cs) B9;have ah:=D.1;subst hv;have ad:=lf hi r;have e1:A1 xs*ρ.n=(i+1)*ρ.n+(A1 xs-i-1)*ρ.n:=by rw[<-EP];congr 1;omega
 have e2:(i+1)*ρ.n=i*ρ.n+ρ.n:=IH _ _;have M:A1 ((cs.drop (i*ρ.n)).take ((A1 xs-i-1)*ρ.n))=(A1 xs-i-1)*ρ.n:=by rw[By,Cn];omega
 have U:∀j u,((cs.drop (i*ρ.n)).take ((A1 xs-i-1)*ρ.n))[j]?=some u->cs[i*ρ.n+j]?=some u:=λj u H=>by
  rw[Dj] at H
  split at H
  · rwa [F5] at H
  · cases H
 have aa:∀u∈(cs.drop (i*ρ.n)).take ((A1 xs-i-1)*ρ.n),u.oneCell'=true:=λu hu=>Bb.1 r.one u (IJ (HH hu));generalize (cs.drop (i*ρ.n)).take ((A1 xs-i-1)*ρ.n)=vs at *;obtain⟨h1,h2⟩:=mN vs ((i+1)*ρ.n) cs w D;have ac:=fO (xs:=xs) hi;have C:(loadCells ⟨b,i*ρ.n,none⟩ ((A1 xs-i-1)*ρ.n)).run P w=.ok vs.toArray w:=by
  have:=run_loadCells_list (P:=P) (w:=w) ⟨b,i*ρ.n,none⟩ vs λj u H=>by
   have h3:=D.cellAt (i*ρ.n+j) (by have:=(Hk.1 (U j u H)).1;omega);rw[U j u H] at h3;rw[show(⟨b,i*ρ.n,none⟩:Addr).add j=⟨b,i*ρ.n+j,none⟩ from kD _ _ _];exact h3
  rwa [M] at this
 have Z:=run_storeCells_cells (P:=P) b ((i+1)*ρ.n) vs 0 w (λj H=>by
  have h4:=D.cellAt ((i+1)*ρ.n+j) A3;rw[BV A3] at h4;simp[h4]) (λj H=>by simpa using D.frozenAt ((i+1)*ρ.n+j)) aa
 simp only[Cq] at Z;refine⟨vI ↑(A1 xs-i-1),w.setCells b ((i+1)*ρ.n) vs,.gs E ρ.n (.slice (some ⟨b,0,none⟩) (A1 xs) cap) (A1 xs) (GJ cs ((i+1)*ρ.n) vs),?_,h2,h1,λb' hb=>.inl hb,_,by rw[ac],ad⟩;have J:Nat.min (A1 xs-i) (A1 xs-(i+1))=A1 xs-i-1:=by show min _ _=_;omega
 have ae:¬cap=i:=by omega
 simp only[tA,ae,if_false,LN] at hx hy;rw[show(⟨b,0,none⟩:Addr).add (i*ρ.n)=⟨b,i*ρ.n,none⟩ by simp[kD]] at hy
 by_cases hc:cap=i+1
 · have hz:A1 xs-i-1=0:=by omega
   have ab:vs=[]:=DG (by rw[M,hz,E2]);subst ab;simp only[hc,if_true] at hx;rw[hz,E2] at C;simp[execOp,resolve,invoke,builtin,Ev.eval hx,Ev.eval hy,Builtin.copy_,run_underlying ht,Builtin.lenOf,Builtin.firstCells,hsz,J,hz,C,storeCells,AP.setCells,goInt,vI]
 · simp only[hc,if_false] at hx
   rw[show(⟨b,0,none⟩:Addr).add ((i+1)*ρ.n)=⟨b,(i+1)*ρ.n,none⟩ by simp[kD]] at hx;simp[execOp,resolve,invoke,builtin,Ev.eval hx,Ev.eval hy,Builtin.copy_,run_underlying ht,Builtin.lenOf,Builtin.firstCells,hsz,J,C,Z,goInt,vI]
end
end Bk
namespace Bk
open Go Go.RowKit
open Classical
abbrev Cv:Rp (List (List Int)):=AS (AS A9)
abbrev BS:Rp (Int×Int×Int×Int×Int):=A6 A9 (A6 A9 (A6 A9 (A6 A9 A9)))
abbrev AD(k:Nat):Rp (T3 Rat):=Bd (AE k)
abbrev Aq(k:Nat):Rp (List (T3 Rat)):=AS (Bd (AE k))
abbrev C1(k:Nat):Rp (List (List (T3 Rat))):=AS (AS (Bd (AE k)))
abbrev Aj(k l:Nat):Rp (T3 Rat×Rat):=A6 (Bd (AE k)) (AE l)
abbrev Tq:=T3 Rat
abbrev Pq:=T3 Rat×Rat
abbrev Sq:=List (T3 Rat)×List ((T3 Rat×Rat)×List (List Int)×List Nat)×List (Int×Int×Rat)
abbrev BP(k l:Nat):Rp ((T3 Rat×Rat)×List (List Int)×List Nat):=A6 (A6 (Bd (AE k)) (AE l)) (A6 (AS (AS A9)) wQ)
abbrev BT(k m n j:Nat):Rp Sq:=A6 (AS (Bd (AE k))) (A6 (AS (A6 (A6 (Bd (AE m)) (AE n)) (A6 (AS (AS A9)) wQ))) (AS (A6 A9 (A6 A9 (AE j)))))
abbrev zZ(p:T3 Rat):T3 Rat:=T3.mk p.x p.y (0:Rat)
abbrev pU(PP:List (T3 Rat))(sB:A2)(j:Int):T3 Rat:=A0 ((PP,(sB,([]:List (Int×Int×Rat)))).1) j.toNat zT
abbrev nU(PP:List (T3 Rat))(sB:A2)(I:List Int)(q:Nat):T3 Rat:=T3.mk ((A0 ((PP,(sB,([]:List (Int×Int×Rat)))).1) ((A0 I ((q+1)%A1 I) 0).toNat) zT).y-(A0 ((PP,(sB,([]:List (Int×Int×Rat)))).1) ((A0 I q 0).toNat) zT).y) (-((A0 ((PP,(sB,([]:List (Int×Int×Rat)))).1) ((A0 I ((q+1)%A1 I) 0).toNat) zT).x-(A0 ((PP,(sB,([]:List (Int×Int×Rat)))).1) ((A0 I q 0).toNat) zT).x)) (0:Rat)
abbrev lU(I:List Int)(q:Nat)(BB:List (T3 Rat)):List Int:=[(A0 I q (0:Int)),(A0 I ((q+1)%A1 I) (0:Int)),((A0 I ((q+1)%A1 I) (0:Int))+(↑(A1 BB):Int)),((A0 I q (0:Int))+(↑(A1 BB):Int))]
abbrev Bx:Int×Int×Int×Int×Int:=((0:Int),((0:Int),((0:Int),((0:Int),(0:Int)))))
theorem dK{R A B:List AG}{q:AG}(hR:∀r∈R,r∈A++B:=by first|(simp;done)|grind):∀r∈R,r∈A++q::B->r∈A++B:=en hR
theorem O{p:Prop}(f:p:=by omega):p:=f
theorem dC{p:Prop}(f:p:=by decide):p:=f
theorem rP{p:Prop}(f:p:=by first|rfl|(push_cast;rfl)):p:=f
theorem nP{p:Prop}(f:p:=by exact Bm I):p:=f
theorem bO{p:Prop}(f:p:=by first|omega|(simp only[BJ,lC,lN,lR,lS];omega)):p:=f
theorem AM{h h':A4}(f:MLe h h':=by with_reducible repeat (first|exact MLe.refl _|assumption|refine MLe.trans ?_ Bl)):MLe h h':=f
theorem Rp.Is.up{α:Type}{ρ:Rp α}{h h':A4}{v:A2}{x:α}(r:ρ.Is h v x)(hm:MLe h h':=by exact AM):ρ.Is h' v x:=r.mono hm
theorem Rp.R.up{α:Type}{ρ:Rp α}{h h':A4}{cs:List A2}{x:α}(r:ρ.R h cs x)(hm:MLe h h':=by exact AM):ρ.R h' cs x:=Rp.mono ρ hm r
theorem RL.up{α:Type}{ρ:Rp α}{h h':A4}{cs:List A2}{xs:List α}(r:RL ρ h cs xs)(hm:MLe h h':=by exact AM):RL ρ h' cs xs:=RL.mono hm r
theorem C4.up{α:Type}{ρ:Rp α}{h h':A4}{p:A2}{X:α}(r:C4 ρ h p X)(hm:MLe h h':=by exact AM):C4 ρ h' p X:=r.mono hm
theorem Us.up{k:B2}{h h':A4}{v:A2}{xs:List Nat}(r:Us k h v xs)(hm:MLe h h':=by exact AM):Us k h' v xs:=r.mono hm
class Und(P:D)(t:Ab) where
 d:TypeDesc
 h:P.underlying t=some d
class Siz(P:D)(t:Ab) where
 k:Nat
 h:∀w,(Go.sizeOf t).run P w=.ok k w
class Agg(P:D)(t:Ab) where
 b:Bool
 h:∀w,(isAgg t).run P w=.ok b w
class Inf(P:D)(t:Ab) where
 k:Nat
 h:(P.info? t).map (·.size)=some k
theorem uu{P:D}{t:Ab}{d:TypeDesc}(f:P.underlying t=some d:=by exact Und.h):P.underlying t=some d:=f
theorem uz{P:D}{t:Ab}{k:Nat}(f:∀w,(Go.sizeOf t).run P w=.ok k w:=by exact Siz.h):∀w,(Go.sizeOf t).run P w=.ok k w:=f
theorem ua{P:D}{t:Ab}{k:Bool}(f:∀w,(isAgg t).run P w=.ok k w:=by exact Agg.h):∀w,(isAgg t).run P w=.ok k w:=f
theorem PT{P:D}{t:Ab}{k:Nat}(f:(P.info? t).map (·.size)=some k:=by exact Inf.h):(P.info? t).map (·.size)=some k:=f
section
variable {α β γ:Type}
variable {P:D}{n:Nat}{w0:AP}{h0:A4}{e:List (Nat×A2)}{L:List AG}{h:A4}{Q:BH->Av->AP->Prop}
variable {ds:Option Tmp}{ty:Ab}{ps:String}{af:Array Edge}{gd:Option (Nat×Bool)}
variable {ops:Array AY}{rest:List AY}{RR:List AG}{al:Co}{d i:Nat}{op:Op}{v:A2}{r:List (Nat×Kd)}{g t:Nat}{b:Bool}
theorem xV{o:AY}{R:List AG}{ρ:Rp α}{X Z:α}(hv:CQ P n w0 h0 o e R h (λu=>ρ.Is h u X))(hZ:X=Z:=by first|(dsimp only<;>exact I)|exact I):CQ P n w0 h0 o e R h (λu=>ρ.Is h u Z):=hZ▸hv
theorem LG{L R:List AG}(f:∀r∈R,r∈L:=by first|exact rW|exact gH Ar|exact gH Ax|exact gH C6|exact gH DT|exact gH Eg|exact gH F8|exact gH Ew|exact gH H9|exact gH (.tail _ H9)|exact gH (.tail _ (.tail _ H9))|exact gH (.tail _ (.tail _ (.tail _ H9)))):∀r∈R,r∈L:=f
theorem lX{R:List AG}{F:A2->Prop}(hv:CQ P n w0 h0 ⟨some d,op,ty,ps,af,none⟩ e R h F)(k:∀v,F v->GL P n w0 h0 ops Q rest ((d,v)::e) L h)(hR:∀r∈R,r∈L:=by exact LG)(hn:Nat.ble (d+1) n=true:=by exact I):GL P n w0 h0 ops Q (⟨some d,op,ty,ps,af,none⟩::rest) e L h:=nT hv hR hn k
theorem wX{R:List AG}{F:A2->Prop}(ho:ops.getD i default=⟨some d,op,ty,ps,af,none⟩)(hv:CQ P n w0 h0 ⟨some d,op,ty,ps,af,none⟩ e R h F)(k:∀v,F v->W P n w0 h0 ops Q RR al r ((d,v)::e) L h)(hR:∀r∈R,r∈RR:=by exact LG)(hn:Nat.ble (d+1) n=true:=by exact I):W P n w0 h0 ops Q RR al ((i,.q)::r) e L h:=fL ho hv hR hn k
theorem xX{K:List (Nat×A2)->List AG->A4->Prop}{R:List AG}{F:A2->Prop}(ho:ops.getD i default=⟨some d,op,ty,ps,af,none⟩)(hv:CQ P n w0 h0 ⟨some d,op,ty,ps,af,none⟩ e R h F)(k:∀v,F v->K ((d,v)::e) L h)(hR:∀r∈R,r∈RR:=by exact LG)(hn:Nat.ble (d+1) n=true:=by exact I):SQ P n w0 h0 ops RR i e L h K:=nu ho hv hR hn k
theorem oX{R:List AG}{F:A2->Prop}(ho:ops.getD i default=⟨some d,op,ty,ps,af,some (g,b)⟩)(hv:CQ P n w0 h0 ⟨some d,op,ty,ps,af,none⟩ e R h F)(k:∀v,F v->W P n w0 h0 ops Q RR al r ((d,v)::e) L h)(ht:(ops[g]?).bind (·.dst)=some t:=by exact I)(he:e.lookup t=some (.bool b):=by exact I)(hR:∀r∈R,r∈RR:=by exact LG)(hn:Nat.ble (d+1) n=true:=by exact I):W P n w0 h0 ops Q RR al ((i,.q)::r) e L h:=nY ho ht he hv hR hn k
theorem sX{W':List (Nat×A2)->List AG->A4->Prop}{R:List AG}{F:A2->Prop}(hv:CQ P n w0 h0 ⟨some d,op,ty,ps,af,none⟩ e R h F)(k:∀v,F v->W' ((d,v)::e) L h)(hR:∀r∈R,r∈L:=by exact LG)(hn:Nat.ble (d+1) n=true:=by exact I):qP P n w0 h0 ops RR ⟨some d,op,ty,ps,af,none⟩ e L h W':=sd hv hR hn k
theorem xB{t E:Ab}{x:Ag}{b k off:Nat}{cs:List A2}{ρ:Rp α}{σ:Rp β}{g:α->β}{s:α->β->α}{X:α}{Z:β}(T:C9 P t σ.n σ.agg)(pc:Pc ρ off σ g s){h1:A4}(r:ρ.R h1 cs X)(hx:zK e x=some (vP b k):=by exact I)(ho:k=off:=by exact I)(hZ:g X=Z:=by first|(dsimp only<;>exact I)|exact I)(hm:MLe h1 h:=by exact AM):
 CQ P n w0 h0 ⟨ds,.load t x,ty,ps,af,gd⟩ e [.var b E cs] h (λu=>σ.Is h u Z):=az T pc ho hx (r.up hm) hZ
theorem xA{t:Ab}{x:Ag}{p:A2}{ρ:Rp α}{X:α}(T:C9 P t ρ.n ρ.agg){h1:A4}(r:C4 ρ h1 p X)(hx:zK e x=some p:=by exact I)(hm:MLe h1 h:=by exact AM):CQ P n w0 h0 ⟨ds,.load t x,ty,ps,af,gd⟩ e [] h (λu=>ρ.Is h u X):=v6 T hx (r.up hm)
theorem xI{t E:Ab}{x y:Ag}{q:Int}{v:A2}{ρ:Rp α}{xs:List α}(d:α)(i:Nat)(ht:P.underlying t=some (.slice E))(T:C9 P E ρ.n ρ.agg){h1:A4}(r:(AS ρ).Is h1 v xs)(hx:zK e x=some v:=by exact I)(hy:zK e y=some (vI q):=by exact I)(hq:q=(i:Int):=by first|exact rfl|(push_cast;exact I)|omega)(hi:i<A1 xs:=by omega)(hp:0<ρ.n:=by exact Bm I)(hm:MLe h1 h:=by exact AM):
 CQ P n w0 h0 ⟨ds,.indexAddr t x y,ty,ps,af,gd⟩ e [] h (λu=>C4 ρ h u (A0 xs i d)):=kW d i ht T hx hy (r.up hm) hq hi hp
theorem xF{t:Ab}{x:Ag}{f off m:Nat}{fs:Array Field}{fl:Field}{p:A2}{ρ:Rp α}{σ:Rp β}{g:α->β}{s:α->β->α}{X:α}{Z:β}(ht:P.underlying t=some (.struct fs))(hsz:∀w,(Go.sizeOf fl.type).run P w=.ok (m+1) w)(pc:Pc ρ off σ g s){h1:A4}(r:C4 ρ h1 p X)(hf:fs[f]?=some fl:=by exact I)(ho:fl.offset=off:=by exact I)(hx:zK e x=some p:=by exact I)(hZ:g X=Z:=by first|(dsimp only<;>exact I)|exact I)(hm:MLe h1 h:=by exact AM):
 CQ P n w0 h0 ⟨ds,.fieldAddr t x f,ty,ps,af,gd⟩ e [] h (λu=>C4 σ h u Z):=mb ht hf hsz pc ho hx (r.up hm) hZ
theorem uB{E t:Ab}{b k off:Nat}{cs:List A2}{v:A2}{x y:Ag}{ρ:Rp α}{σ:Rp β}{g:α->β}{s:α->β->α}{X Z:α}{Y:β}(hsz:∀w,(Go.sizeOf t).run P w=.ok σ.n w)(pc:Pc ρ off σ g s){h1 h2:A4}(r:ρ.R h1 cs X)(ry:σ.Is h2 v Y)(hx:zK e x=some (vP b k):=by exact I)(ho:k=off:=by exact I)(hy:zK e y=some v:=by exact I)(hZ:s X Y=Z:=by first|(dsimp only<;>exact I)|exact I)(hm:MLe h1 h:=by exact AM)(hm2:MLe h2 h:=by exact AM):
 ∃cs',ρ.R h cs' Z/\∀A B,EH P n w0 h0 ⟨ds,.store t x y,ty,ps,af,gd⟩ e A (.var b E cs) B h (.var b E cs'):=sk hsz pc ho hx hy (r.up hm) (ry.up hm2) hZ
theorem pH{ρ:Rp α}:Pc ρ 0 ρ (λx=>x) (λ_ y=>y):=Pc.here ρ
theorem AU{x:Ag}{v:A2}(hx:zK e x=some v):pP e [x] [v]:=⟨hx,AW⟩
theorem AK{x y:Ag}{v u:A2}(hx:zK e x=some v)(hy:zK e y=some u):pP e [x,y] [v,u]:=⟨hx,hy,AW⟩
theorem BM{x y z:Ag}{v u s:A2}(hx:zK e x=some v)(hy:zK e y=some u)(hz:zK e z=some s):pP e [x,y,z] [v,u,s]:=⟨hx,hy,hz,AW⟩
theorem IL{x y z a:Ag}{v u s c:A2}(hx:zK e x=some v)(hy:zK e y=some u)(hz:zK e z=some s)(ha:zK e a=some c):pP e [x,y,z,a] [v,u,s,c]:=⟨hx,hy,hz,ha,AW⟩
theorem cL{f:Nat}{xs:List Ag}{ts:Array Ab}{vs:List A2}{R:A4->A2->Prop}(hvs:pP e xs vs)(hcall:∀args w,(callFunc f args).run P w=.ok (.enter f args) w)(hc:∀w,MLe h (BE w)->Calls P f vs.toArray w (Bh w h R))(k:∀v h',MLe h h'->R h' v->GL P n w0 h0 ops Q rest ((d,v)::e) L h')(hn:Nat.ble (d+1) n=true:=by exact I):
 GL P n w0 h0 ops Q (⟨some d,.call {callee:=.value (.func f),args:=Am xs,argTypes:=ts},ty,ps,af,none⟩::rest) e L h:=p3 (o:=⟨some d,.call {callee:=.value (.func f),args:=Am xs,argTypes:=ts},ty,ps,af,none⟩) rfl rfl rfl hn hcall hvs hc k
theorem sC{W':List (Nat×A2)->List AG->A4->Prop}{f:Nat}{xs:List Ag}{ts:Array Ab}{vs:List A2}{R':A4->A2->Prop}(hvs:pP e xs vs)(hcall:∀args w,(callFunc f args).run P w=.ok (.enter f args) w)(hc:∀w,MLe h (BE w)->Calls P f vs.toArray w (Bh w h R'))(k:∀v h',MLe h h'->R' h' v->W' ((d,v)::e) L h')(hn:Nat.ble (d+1) n=true:=by exact I):
 qP P n w0 h0 ops RR ⟨some d,.call {callee:=.value (.func f),args:=Am xs,argTypes:=ts},ty,ps,af,none⟩ e L h W':=dy hcall hvs hc hn k
theorem nB{E:Ab}{x:Ag}{v:A2}{ρ:Rp α}{X:α}{h1:A4}(r:ρ.Is h1 v X)(k:∀b cs,ρ.R h cs X->GL P n w0 h0 ops Q rest ((d,vP b 0)::e) (.var b E cs::L) h)(hx:zK e x=some v:=by exact I)(hn:Nat.ble (d+1) n=true:=by exact I)(hm:MLe h1 h:=by exact AM):GL P n w0 h0 ops Q (⟨some d,.box E x,ty,ps,af,none⟩::rest) e L h:=
 zE (ns hx (r.up hm)) I I hn λv q D=>by obtain⟨b,cs,rfl,rfl,C⟩:=D;exact k b cs C
theorem nA{E:Ab}{i:TypeInfo}{z:A2}{cs:List A2}{ρ:Rp α}{X:α}(hi:P.info? E=some i)(r:ρ.R h cs X)(k:∀b cs,ρ.R h cs X->GL P n w0 h0 ops Q rest ((d,vP b 0)::e) (.var b E cs::L) h)(hz:i.zero=some z:=by exact I)(hc:z.cells=Am cs:=by exact I)(hn:Nat.ble (d+1) n=true:=by exact I):GL P n w0 h0 ops Q (⟨some d,.alloc E,ty,ps,af,none⟩::rest) e L h:=
 zE (cb hi hz hc r) I I hn λv q D=>by obtain⟨b,cs,rfl,rfl,C⟩:=D;exact k b cs C
theorem Bq{c:Ag}{x y:Code}{p:Prop}(kt:p->GC P n w0 h0 x Q e L h)(kf:¬p->GC P n w0 h0 y Q e L h)(hc:zK e c=some (vB p):=by exact I):GC P n w0 h0 (.cond c x y) Q e L h:=ay hc kt kf
theorem gT{p:Prop}{v:Ag}(hg:p)(hv:zK e v=some (vB p))(k:GL P n w0 h0 ops Q rest ((d,.bool true)::e) L h)(hn:Nat.ble (d+1) n=true:=by exact I):GL P n w0 h0 ops Q (⟨some d,.move v,ty,ps,af,none⟩::rest) e L h:=mQ (xK (hv.trans (AV (yU hg)))) I I hn k
theorem gF{p:Prop}{v:Ag}(hg:¬p)(hv:zK e v=some (vB p))(k:GL P n w0 h0 ops Q rest ((d,.bool false)::e) L h)(hn:Nat.ble (d+1) n=true:=by exact I):GL P n w0 h0 ops Q (⟨some d,.move v,ty,ps,af,none⟩::rest) e L h:=mQ (xK (hv.trans (AV (yH hg)))) I I hn k
theorem gU{l:List AY}(j t:Nat)(v:A2)(kx:GL P n w0 h0 ops (BH.then (λa w=>∃i:Unit,True/\Bp n ((t,v)::e) a/\St w0 h0 L h w) Q) (l.take j) e L h)(ky:GL P n w0 h0 ops Q (l.drop j) ((t,v)::e) L h):GL P n w0 h0 ops Q l e L h:=uH j (λ_=>True) (λ_=>(t,v)::e) (λ_=>L) (λ_=>h) kx λ_ _=>ky
@[reducible] def Jm:List Nat->List (Nat×A2)->List (Nat×A2)->Prop
  |_,[],_=>True
  |s,(t,v)::r,e=>(if s.contains t then True else e.lookup t=some v)/\Jm (t::s) r e
theorem Jm.look{e:List (Nat×A2)}:∀{e0:List (Nat×A2)} {s:List Nat},Jm s e0 e->∀t v,s.contains t=false->e0.lookup t=some v->e.lookup t=some v
  |[],_,_,t,v,_,h=>by simp at h
  |(k,u)::r,s,hs,t,v,hn,h=>by
   simp only[HB] at h
   by_cases ht:t=k
   · subst ht
     simp at h;subst h;have:=hs.1
     rwa [A8 (by rw[hn];simp)] at this
   · have h1:(t==k)=false:=by simpa using ht
     rw[h1] at h;refine Jm.look hs.2 t v ?_ h;rw[List.contains_cons,h1,hn];rfl
theorem Bp.subS{e0:List (Nat×A2)}{a:Av}(E:Bp n e a)(h:Jm [] e0 e):Bp n e0 a:=⟨E.defers,E.size,λt v ht=>E.get t v (h.look t v rfl ht)⟩
theorem Ay{e0:List (Nat×A2)}{t:Nat}{v:A2}(hv:e.lookup t=some v)(hs:Jm [t] e0 e:=by repeat (first|exact trivial|refine⟨by first|exact rfl|exact trivial,?_⟩)):GQ n w0 h0 (BH.then (λa w=>∃i:Unit,True/\Bp n ((t,v)::e0) a/\St w0 h0 L h w) Q) .normal e L h:=λa w E S=>⟨(),AW,E.subS ⟨hv,hs⟩,S⟩
theorem An{ι:Type}{c:Code}{A:Prop}(S:ι->Prop×List (Nat×A2)×List AG×A4×Nat)(i0:ι)(hi0:A)(round:∀i,(S i).1->GC P n w0 h0 c (BH.then (λa w=>∃j,((S j).1/\(S j).2.2.2.2<(S i).2.2.2.2)/\Bp n (S j).2.1 a/\St w0 h0 (S j).2.2.1 (S j).2.2.2.1 w) Q) (S i).2.1 (S i).2.2.1 (S i).2.2.2.1)
    (hA:(S i0).1=A:=by first|(dsimp only<;>exact I)|exact I)(he:Ee (S i0).2.1 e:=by repeat (first|exact trivial|refine⟨I,?_⟩))(hL:(S i0).2.2.1=L:=by exact I)(hh:(S i0).2.2.2.1=h:=by exact I):GC P n w0 h0 (.loop c) Q e L h:=
 gB (λi=>(S i).1) (λi=>(S i).2.1) (λi=>(S i).2.2.1) (λi=>(S i).2.2.2.1) (λi=>(S i).2.2.2.2) i0 (hA▸hi0) he hL hh round
theorem Ad{ι:Type}{A:Prop}{B M m:Nat}{S:ι->Prop×List (Nat×A2)×List AG×A4×Nat}(i:ι)(hi:A)(hm:B<M)(hA:(S i).1=A:=by first|(dsimp only<;>exact I)|exact I)(hB:(S i).2.2.2.2=B:=by first|(dsimp only<;>exact I)|exact I)(hM:m=M:=by first|(dsimp only<;>exact I)|exact I)(he:Ee (S i).2.1 e:=by repeat (first|exact trivial|refine⟨I,?_⟩))(hL:(S i).2.2.1=L:=by exact I)(hh:(S i).2.2.2.1=h:=by exact I):
 GQ n w0 h0 (BH.then (λa w=>∃j,((S j).1/\(S j).2.2.2.2<m)/\Bp n (S j).2.1 a/\St w0 h0 (S j).2.2.1 (S j).2.2.2.1 w) Q) .normal e L h:=
 qL (inv:=λi=>(S i).1) (ev:=λi=>(S i).2.1) (Lv:=λi=>(S i).2.2.1) (hv:=λi=>(S i).2.2.2.1) (μ:=λi=>(S i).2.2.2.2) i (hA▸hi) (by rw[hM];exact hB▸hm) he hL hh
theorem UT{f:FuncId}{fn:Func}{c:Code}{R:Ending->AP->Prop}(n:Nat)(hf:P.funcs[f]?=some fn)(hs:MLe h0 (BE w0))(k:GC P n w0 h0 c (bodyPost P fn R) [] [] h0)(hb:fn.body=some c:=by exact I)(hn:fn.ntmps=n:=by exact I)(hl:A1 ([]:List A2)<=n:=by exact Bm I):Calls P f #[] w0 R:=kA (e:=[]) (vs:=[]) hf hb hn hl hs trivial k
theorem BI{f:FuncId}{fn:Func}{c:Code}{R:Ending->AP->Prop}(n:Nat)(v:A2)(hf:P.funcs[f]?=some fn)(hs:MLe h0 (BE w0))(k:GC P n w0 h0 c (bodyPost P fn R) [(0,v)] [] h0)(hb:fn.body=some c:=by exact I)(hn:fn.ntmps=n:=by exact I)(hl:[v].length<=n:=by exact Bm I):Calls P f #[v] w0 R:=kA (e:=[(0,v)]) (vs:=[v]) hf hb hn hl hs ⟨I,AW⟩ k
theorem B0{f:FuncId}{fn:Func}{c:Code}{R:Ending->AP->Prop}(n:Nat)(v u:A2)(hf:P.funcs[f]?=some fn)(hs:MLe h0 (BE w0))(k:GC P n w0 h0 c (bodyPost P fn R) [(0,v),(1,u)] [] h0)(hb:fn.body=some c:=by exact I)(hn:fn.ntmps=n:=by exact I)(hl:[v,u].length<=n:=by exact Bm I):Calls P f #[v,u] w0 R:=kA (e:=[(0,v),(1,u)]) (vs:=[v,u]) hf hb hn hl hs Al k
theorem Cs{f:FuncId}{fn:Func}{c:Code}{R:Ending->AP->Prop}(n:Nat)(v u s:A2)(hf:P.funcs[f]?=some fn)(hs:MLe h0 (BE w0))(k:GC P n w0 h0 c (bodyPost P fn R) [(0,v),(1,u),(2,s)] [] h0)(hb:fn.body=some c:=by exact I)(hn:fn.ntmps=n:=by exact I)(hl:[v,u,s].length<=n:=by exact Bm I):Calls P f #[v,u,s] w0 R:=kA (e:=[(0,v),(1,u),(2,s)]) (vs:=[v,u,s]) hf hb hn hl hs EQ k
theorem yO{c:Code}{e':List (Nat×A2)}{L':List AG}{h':A4}(k:GC P n w0 h0 c Q e' L' h')(he:e=e':=by first|(dsimp only<;>exact I)|exact I)(hL:L=L':=by first|(dsimp only<;>exact I)|exact I)(hh:h=h':=by first|(dsimp only<;>exact I)|exact I):GC P n w0 h0 c Q e L h:=by subst he hL hh;exact k
theorem fM{l:List AY}{e':List (Nat×A2)}{L':List AG}{h':A4}(k:GL P n w0 h0 ops Q l e' L' h')(he:e=e':=by first|(dsimp only<;>exact I)|exact I)(hL:L=L':=by first|(dsimp only<;>exact I)|exact I)(hh:h=h':=by first|(dsimp only<;>exact I)|exact I):GL P n w0 h0 ops Q l e L h:=by subst he hL hh;exact k
end
end Bk
namespace Bk
open Go Go.RowKit
def QX(x:Nat)(f:Nat->Bool):Bool:=match x with|0=>f 0|n+1=>f (n+1)
theorem iw(x:Nat)(f:Nat->Bool):QX x f=f x:=by cases x<;>rfl
def OG:List Nat->(List Nat->Bool)->Bool
  |[],f=>f []
  |x::r,f=>QX x λy=>OG r λys=>f (y::ys)
theorem Wi:∀(l:List Nat) (f:List Nat->Bool),OG l f=f l
  |[],f=>rfl
  |x::r,f=>by show QX x _=_;rw[iw,Wi r]
def Tg(l:List AY)(m:Nat)(al:Co)(ord:List (Nat×Kd)):Bool:=
 Region.noSelect (Am l)&&bA (Am l) al&&(al.all λx=>decide (x.1<m))&&(l.all λo=>o.after.all λe=>decide (e.on<A1 l))&&(OG (l.map Gu) λams=>OG ((List.range (A1 l)).map (KZ (Am l) ams)) λfrs=>oR (Am l) (A1 l) m ams frs ord 0 (al.map (·.1)))
theorem xU{l:List AY}{m:Nat}{al:Co}{ord:List (Nat×Kd)}(h:Tg l m al ord=true):
 (Region.noSelect (Am l)&&bA (Am l) al&&(al.all λx=>decide (x.1<m))&&C0 (Am l) m ord (Array.replicate (A1 l) false) (al.map (·.1)))=true:=by
 refine tn (l.map Gu) ((List.range (A1 l)).map (KZ (Am l) (l.map Gu))) ?_;simp only[Tg,Ap,Wi] at h;simp only[Rv,Ap];exact⟨⟨h.1,by simp[iU]⟩,h.2⟩
end Bk
namespace Go.Proofs.YtlpflnindligbaaGreat
open Bk Go Tryz
instance:Und prog 22:=⟨_,underlying22⟩
instance:Und prog 27:=⟨_,underlying27⟩
instance:Und prog 28:=⟨_,underlying28⟩
instance:Und prog 29:=⟨_,underlying29⟩
instance:Und prog 30:=⟨_,underlying30⟩
instance:Und prog 32:=⟨_,underlying32⟩
instance:Und prog 36:=⟨_,underlying36⟩
instance:Und prog 39:=⟨_,underlying39⟩
instance:Und prog 41:=⟨_,underlying41⟩
instance:Und prog 43:=⟨_,underlying43⟩
instance:Und prog 45:=⟨_,underlying45⟩
instance:Und prog 48:=⟨_,underlying48⟩
instance:Und prog 51:=⟨_,underlying51⟩
instance:Und prog 53:=⟨_,underlying53⟩
instance:Und prog 57:=⟨_,underlying57⟩
instance:Und prog 61:=⟨_,underlying61⟩
instance:Und prog 80:=⟨_,underlying80⟩
instance:Und prog 101:=⟨_,underlying101⟩
instance:Und prog 103:=⟨_,underlying103⟩
instance:Und prog 104:=⟨_,underlying104⟩
instance:Und prog 106:=⟨_,underlying106⟩
instance:Und prog 142:=⟨_,underlying142⟩
instance:Und prog 144:=⟨_,underlying144⟩
instance:Und prog 157:=⟨_,underlying157⟩
instance:Und prog 161:=⟨_,underlying161⟩
instance:Und prog 169:=⟨_,underlying169⟩
instance:Und prog 176:=⟨_,underlying176⟩
instance:Und prog 187:=⟨_,underlying187⟩
instance:Und prog 210:=⟨_,underlying210⟩
instance:Und prog 216:=⟨_,underlying216⟩
instance:Und prog 246:=⟨_,underlying246⟩
instance:Siz prog 3:=⟨_,sizeOf3⟩
instance:Siz prog 4:=⟨_,sizeOf4⟩
instance:Siz prog 9:=⟨_,sizeOf9⟩
instance:Siz prog 22:=⟨_,sizeOf22⟩
instance:Siz prog 28:=⟨_,sizeOf28⟩
instance:Siz prog 29:=⟨_,sizeOf29⟩
instance:Siz prog 30:=⟨_,sizeOf30⟩
instance:Siz prog 39:=⟨_,sizeOf39⟩
instance:Siz prog 41:=⟨_,sizeOf41⟩
instance:Siz prog 43:=⟨_,sizeOf43⟩
instance:Siz prog 45:=⟨_,sizeOf45⟩
instance:Siz prog 51:=⟨_,sizeOf51⟩
instance:Siz prog 61:=⟨_,sizeOf61⟩
instance:Siz prog 103:=⟨_,sizeOf103⟩
instance:Siz prog 104:=⟨_,sizeOf104⟩
instance:Siz prog 142:=⟨_,sizeOf142⟩
instance:Agg prog 3:=⟨_,isAgg3⟩
instance:Agg prog 4:=⟨_,isAgg4⟩
instance:Agg prog 22:=⟨_,isAgg22⟩
instance:Agg prog 39:=⟨_,isAgg39⟩
instance:Agg prog 176:=⟨_,isAgg176⟩
instance:Inf prog 41:=⟨_,yC⟩
theorem SZ{P:D}{n:Nat}{w0:AP}{h0 h:A4}{e:List (Nat×A2)}{L:List AG}{ds:Option Tmp}{ty:Ab}{ps:String}{af:Array Edge}{gd:Option (Nat×Bool)}{t:Ab}{x:Ag}{b k:Nat}{E:Ab}{cs:List A2}{u v s:A2}{d:TypeDesc}(hm:.var b E cs∈L)(hu:P.underlying t=some d)(hd:d.isRow=true)(hi:(P.info? t).map (·.size)=some 3)(hx:zK e x=some (vP b k))(hv:(cs.drop k).take 3=[u,v,s]):OpV P n w0 h0 ⟨ds,.load t x,ty,ps,af,gd⟩ e L h (.agg #[u,v,s]):=vp (vs:=[u,v,s]) hm hu hd hi hx hv
theorem ov{P:D}{n:Nat}{w0:AP}{h0 h:A4}{o:AY}{e:List (Nat×A2)}{L:List AG}{v:A2}(f:OpV P n w0 h0 o e L h v:=by first|exact yW I rfl|exact Mb I rfl|exact aD I rfl|exact PC I rfl|exact nD I rfl|exact dS I rfl|exact yF I I A3 A3|exact jA I I A3 A3|exact uA uu I (by with_reducible first|assumption|exact Us.up Bl)|exact jK uu I (by with_reducible first|assumption|exact Rp.Is.up Bl)|exact rA (vs:=[_,_]) I rfl|exact rA (vs:=[_,_,_]) I rfl|exact lI I rfl|exact(fI uu (by simp only[TJ,LS,TO]<;>exact I) uz I).cv (AJ (vP _) FE)|exact(zM 0 uu uz I I I Aa).cv (AJ (vP _) FE)|exact(zM 1 uu uz I I I Aa).cv (AJ (vP _) FE)|exact(zM 2 uu uz I I I Aa).cv (AJ (vP _) FE)|exact SZ (by first|exact Ar|exact Ax|exact C6|exact DT|exact Eg|exact F8) uu (by exact I) PT I rfl|exact oA I rfl|exact Qp rfl|exact fS I rfl|exact tX I rfl|exact TM I rfl|exact cW I rfl|exact nC I rfl|exact dU (by first|exact Ar|exact Ax|exact C6|exact DT|exact Eg|exact F8) ua I rfl|exact tI (k:=.u64) (k':=.u32) (W:=4294967296) uu uu I I rfl|exact vY (k:=.u32) (k':=.u64) (W:=18446744073709551616) uu uu I I I A3|exact tZ (k:=.u64) (W:=18446744073709551616) I I I I A3|exact dT (k:=.u64) (W:=18446744073709551616) I I I I A3|exact fQ (k:=.u64) (s:=32) (yk:=.u64) I I I (by simp only[ub];omega)|exact wN ua I (by with_reducible first|assumption|exact Us.up Bl) A3):OpV P n w0 h0 o e L h v:=f
theorem i4{P:D}{n:Nat}{w0:AP}{h0 h:A4}{o:AY}{e:List (Nat×A2)}{v:A2}(f:∀h' L',OpV P n w0 h0 o e L' h' v:=by intro h' L';first|exact yW I rfl|exact Mb I rfl|exact aD I rfl|exact PC I rfl|exact nD I rfl|exact dS I rfl|exact yF I I A3 A3|exact jA I I A3 A3|exact uA uu I (by with_reducible first|assumption|exact Us.up Bl)|exact jK uu I (by with_reducible first|assumption|exact Rp.Is.up Bl)|exact rA (vs:=[_,_]) I rfl|exact rA (vs:=[_,_,_]) I rfl|exact lI I rfl|exact(fI uu (by simp only[TJ,LS,TO]<;>exact I) uz I).cv (AJ (vP _) FE)|exact(zM 0 uu uz I I I Aa).cv (AJ (vP _) FE)|exact(zM 1 uu uz I I I Aa).cv (AJ (vP _) FE)|exact(zM 2 uu uz I I I Aa).cv (AJ (vP _) FE)|exact SZ (by first|exact Ar|exact Ax|exact C6|exact DT|exact Eg|exact F8) uu (by exact I) PT I rfl|exact oA I rfl|exact Qp rfl|exact fS I rfl|exact tX I rfl|exact TM I rfl|exact cW I rfl|exact nC I rfl|exact dU (by first|exact Ar|exact Ax|exact C6|exact DT|exact Eg|exact F8) ua I rfl|exact tI (k:=.u64) (k':=.u32) (W:=4294967296) uu uu I I rfl|exact vY (k:=.u32) (k':=.u64) (W:=18446744073709551616) uu uu I I I A3|exact tZ (k:=.u64) (W:=18446744073709551616) I I I I A3|exact dT (k:=.u64) (W:=18446744073709551616) I I I I A3|exact fQ (k:=.u64) (s:=32) (yk:=.u64) I I I (by simp only[ub];omega)|exact wN ua I (by with_reducible first|assumption|exact Us.up Bl) A3):∀h' L',OpV P n w0 h0 o e L' h' v:=f
theorem m9{α:Type}{ρ:Rp α}{h h':A4}{v:A2}{x:α}(r:ρ.Is h v x)(hh:MLe h h'):ρ.Is h' v x:=r.mono hh
theorem VP{P:D}{n:Nat}{w0:AP}{h0 h:A4}{o:AY}{e:List (Nat×A2)}{R:List AG}{v:A2}(f:∀h' L',MLe h h'->(∀r∈R,r∈L')->OpV P n w0 h0 o e L' h' v:=by intro h' L' hh hR;first|exact yW I rfl|exact Mb I rfl|exact aD I rfl|exact PC I rfl|exact nD I rfl|exact dS I rfl|exact yF I I A3 A3|exact jA I I A3 A3|exact uA uu I (Us.mono (by with_reducible first|assumption|exact Us.up Bl) hh)|exact jK uu I (m9 (by with_reducible first|assumption|exact Rp.Is.up Bl) hh)|exact rA (vs:=[_,_]) I rfl|exact rA (vs:=[_,_,_]) I rfl|exact lI I rfl|exact(fI uu (by simp only[TJ,LS,TO]<;>exact I) uz I).cv (AJ (vP _) FE)|exact(zM 0 uu uz I I I Aa).cv (AJ (vP _) FE)|exact(zM 1 uu uz I I I Aa).cv (AJ (vP _) FE)|exact(zM 2 uu uz I I I Aa).cv (AJ (vP _) FE)|exact SZ (hR _ (by first|exact Ar|exact Ax|exact C6|exact DT|exact Eg|exact F8)) uu (by exact I) PT I rfl|exact oA I rfl|exact Qp rfl|exact fS I rfl|exact tX I rfl|exact TM I rfl|exact cW I rfl|exact nC I rfl|exact dU (hR _ (by first|exact Ar|exact Ax|exact C6|exact DT|exact Eg|exact F8)) ua I rfl|exact tI (k:=.u64) (k':=.u32) (W:=4294967296) uu uu I I rfl|exact vY (k:=.u32) (k':=.u64) (W:=18446744073709551616) uu uu I I I A3|exact tZ (k:=.u64) (W:=18446744073709551616) I I I I A3|exact dT (k:=.u64) (W:=18446744073709551616) I I I I A3|exact fQ (k:=.u64) (s:=32) (yk:=.u64) I I I (by simp only[ub];omega)|exact wN ua I (Us.mono (by with_reducible first|assumption|exact Us.up Bl) hh) A3):∀h' L',MLe h h'->(∀r∈R,r∈L')->OpV P n w0 h0 o e L' h' v:=f
theorem l0{P:D}{n:Nat}{w0:AP}{h0 h:A4}{Q:BH->Av->AP->Prop}{e:List (Nat×A2)}{L:List AG}{c:Code}(k:GC P n w0 h0 c Q e L h):GC P n w0 h0 c Q e L h:=k
theorem c7{n:Nat}{w0:AP}{h0 h:A4}{Q:BH->Av->AP->Prop}{e:List (Nat×A2)}{L:List AG}{x:BH}(k:GQ n w0 h0 Q x e L h):GQ n w0 h0 Q x e L h:=k
theorem t0{P:D}{n:Nat}{w0:AP}{h0 h:A4}{Q:BH->Av->AP->Prop}{e:List (Nat×A2)}{L:List AG}{ops:Array AY}{l:List AY}(k:GL P n w0 h0 ops Q l e L h):GL P n w0 h0 ops Q l e L h:=k
theorem e9{P:D}{n:Nat}{w0:AP}{h0 h:A4}{Q:BH->Av->AP->Prop}{e:List (Nat×A2)}{L:List AG}{R:List AG}{ops:Array AY}{al:Co}{r:List (Nat×Kd)}(k:W P n w0 h0 ops Q R al r e L h):W P n w0 h0 ops Q R al r e L h:=k
structure Kp(p:Prop):Prop where out:p
theorem n5{P:D}{n:Nat}{w0:AP}{h0 h:A4}{Q:BH->Av->AP->Prop}{e:List (Nat×A2)}{L:List AG}{ops:Array AY}{rest:List AY}{d:Nat}{op:Op}{ty:Ab}{ps:String}{af:Array Edge}(k:GL P n w0 h0 ops Q (⟨some d,op,ty,ps,af,none⟩::rest) e L h):GL P n w0 h0 ops Q (⟨some d,op,ty,ps,af,none⟩::rest) e L h:=k
theorem n4{P:D}{n:Nat}{w0:AP}{h0 h:A4}{Q:BH->Av->AP->Prop}{e:List (Nat×A2)}{L:List AG}{ops:Array AY}{rest:List AY}{d:Nat}{x:Ag}{ty:Ab}{ps:String}{af:Array Edge}(k:GL P n w0 h0 ops Q (⟨some d,.move x,ty,ps,af,none⟩::rest) e L h):GL P n w0 h0 ops Q (⟨some d,.move x,ty,ps,af,none⟩::rest) e L h:=k
theorem i5{P:D}{n:Nat}{w0:AP}{h0 h:A4}{Q:BH->Av->AP->Prop}{e:List (Nat×A2)}{L:List AG}{ops:Array AY}{rest:List AY}{d:Nat}{x:Ag}{ty:Ab}{ps:String}{af:Array Edge}(k:GL P n w0 h0 ops Q (⟨some d,.assign x,ty,ps,af,none⟩::rest) e L h):GL P n w0 h0 ops Q (⟨some d,.assign x,ty,ps,af,none⟩::rest) e L h:=k
theorem st{G G':Prop}(k:G')(f:Kp G'->G:=by intro k;first|((with_reducible refine t0 ?_);first|((with_reducible refine n4 ?_);first|exact mv (v:=vI _) I I k.out|exact mv I I k.out)|((with_reducible refine i5 ?_);first|exact BF (v:=vI _) I I k.out|exact BF I I k.out)|with_reducible exact wU k.out|((with_reducible refine n5 ?_);refine gv ov I ?_;exact k.out)|exact J3 I I I I I I k.out|exact JD I I I k.out|exact o0 I I I I I k.out|exact wU k.out|exact mv (v:=vI _) I I k.out|exact mv I I k.out|exact BF (v:=vI _) I I k.out|exact BF I I k.out|(refine gv ov I ?_;exact k.out))|((with_reducible refine l0 ?_);first|with_reducible exact wD k.out|with_reducible exact yM k.out|with_reducible exact fX k.out|with_reducible exact pT k.out|with_reducible exact mJ k.out|with_reducible exact LJ k.out|exact WC I k.out|exact c8 I k.out)|((with_reducible refine c7 ?_);first|with_reducible exact xH k.out|with_reducible exact Gn k.out|with_reducible exact rT k.out|with_reducible exact mI k.out|with_reducible exact OL k.out|with_reducible exact NI k.out|exact T4 I k.out)|((with_reducible refine e9 ?_);first|with_reducible exact Ic k.out|exact lV I I I k.out|exact Kz I I I k.out|exact kG I I I I I k.out|exact i1 I I I I k.out|(refine wK I i4 I ?_;exact k.out)|(refine B3 I VP I ?_;exact k.out)|(refine yS I I I VP I ?_;exact k.out)|exact Ic k.out)):G:=f ⟨k⟩
theorem A7{G G':Prop}(k:G')(f:Kp G'->G:=by intro k;refine st ?_;exact k.out):G:=f ⟨k⟩
theorem A5{G G':Prop}(k:G')(f:Kp G'->G:=by intro k;refine st ?_;refine st ?_;exact k.out):G:=f ⟨k⟩
theorem AN{G G':Prop}(k:G')(f:Kp G'->G:=by intro k;refine st ?_;refine st ?_;refine st ?_;exact k.out):G:=f ⟨k⟩
theorem AF{G G':Prop}(k:G')(f:Kp G'->G:=by intro k;refine st ?_;refine st ?_;refine st ?_;refine st ?_;exact k.out):G:=f ⟨k⟩
theorem AR{G G':Prop}(k:G')(f:Kp G'->G:=by intro k;refine st ?_;refine st ?_;refine st ?_;refine st ?_;refine st ?_;exact k.out):G:=f ⟨k⟩
theorem AZ{G G':Prop}(k:G')(f:Kp G'->G:=by intro k;refine st ?_;refine st ?_;refine st ?_;refine st ?_;refine st ?_;refine st ?_;exact k.out):G:=f ⟨k⟩
theorem Af{G G':Prop}(k:G')(f:Kp G'->G:=by intro k;refine st ?_;refine st ?_;refine st ?_;refine st ?_;refine st ?_;refine st ?_;refine st ?_;exact k.out):G:=f ⟨k⟩
theorem AX{G G':Prop}(k:G')(f:Kp G'->G:=by intro k;refine st ?_;refine st ?_;refine st ?_;refine st ?_;refine st ?_;refine st ?_;refine st ?_;refine st ?_;exact k.out):G:=f ⟨k⟩
theorem Ak{G G':Prop}(k:G')(f:Kp G'->G:=by intro k;refine AX ?_;refine st ?_;exact k.out):G:=f ⟨k⟩
theorem vV{G G':Prop}(k:G')(f:Kp G'->G:=by intro k;refine AX ?_;refine st ?_;refine st ?_;exact k.out):G:=f ⟨k⟩
theorem uG{G G':Prop}(k:G')(f:Kp G'->G:=by intro k;refine AX ?_;refine st ?_;refine st ?_;refine st ?_;exact k.out):G:=f ⟨k⟩
theorem uF{G G':Prop}(k:G')(f:Kp G'->G:=by intro k;refine AX ?_;refine st ?_;refine st ?_;refine st ?_;refine st ?_;exact k.out):G:=f ⟨k⟩
theorem tQ{G G':Prop}(k:G')(f:Kp G'->G:=by intro k;refine AX ?_;refine st ?_;refine st ?_;refine st ?_;refine st ?_;refine st ?_;exact k.out):G:=f ⟨k⟩
theorem fJ{G G':Prop}(k:G')(f:Kp G'->G:=by intro k;refine AX ?_;refine st ?_;refine st ?_;refine st ?_;refine st ?_;refine st ?_;refine st ?_;exact k.out):G:=f ⟨k⟩
theorem rX{G G':Prop}(k:G')(f:Kp G'->G:=by intro k;refine AX ?_;refine st ?_;refine st ?_;refine st ?_;refine st ?_;refine st ?_;refine st ?_;refine st ?_;exact k.out):G:=f ⟨k⟩
theorem y7{G G':Prop}(k:G')(f:Kp G'->G:=by intro k;refine AX ?_;refine AX ?_;exact k.out):G:=f ⟨k⟩
theorem nH{G G':Prop}(k:G')(f:Kp G'->G:=by intro k;refine AX ?_;refine AX ?_;refine st ?_;exact k.out):G:=f ⟨k⟩
theorem L7{G G':Prop}(k:G')(f:Kp G'->G:=by intro k;refine AX ?_;refine AX ?_;refine st ?_;refine st ?_;exact k.out):G:=f ⟨k⟩
theorem Jl{G G':Prop}(k:G')(f:Kp G'->G:=by intro k;refine AX ?_;refine AX ?_;refine st ?_;refine st ?_;refine st ?_;exact k.out):G:=f ⟨k⟩
theorem qi{G G':Prop}(k:G')(f:Kp G'->G:=by intro k;refine AX ?_;refine AX ?_;refine st ?_;refine st ?_;refine st ?_;refine st ?_;exact k.out):G:=f ⟨k⟩
theorem X6{G G':Prop}(k:G')(f:Kp G'->G:=by intro k;refine AX ?_;refine AX ?_;refine st ?_;refine st ?_;refine st ?_;refine st ?_;refine st ?_;refine st ?_;exact k.out):G:=f ⟨k⟩
theorem fi{G G':Prop}(k:G')(f:Kp G'->G:=by intro k;refine AX ?_;refine AX ?_;refine st ?_;refine st ?_;refine st ?_;refine st ?_;refine st ?_;refine st ?_;refine st ?_;exact k.out):G:=f ⟨k⟩
theorem k1{G G':Prop}(k:G')(f:Kp G'->G:=by intro k;refine AX ?_;refine AX ?_;refine AX ?_;exact k.out):G:=f ⟨k⟩
theorem bs{G G':Prop}(k:G')(f:Kp G'->G:=by intro k;refine AX ?_;refine AX ?_;refine AX ?_;refine st ?_;refine st ?_;refine st ?_;refine st ?_;refine st ?_;refine st ?_;exact k.out):G:=f ⟨k⟩
theorem BB{G G1 G2:Prop}{p:Prop}(kt:p->G1)(kf:¬p->G2)(f:(p->Kp G1)->(¬p->Kp G2)->G:=by intro a b;refine st ?_;refine st ?_;exact Bq (λh=>(a h).out) λh=>(b h).out):G:=f (λh=>⟨kt h⟩) λh=>⟨kf h⟩
theorem B4{G G1 G2:Prop}{p:Prop}(kt:p->G1)(kf:¬p->G2)(f:(p->Kp G1)->(¬p->Kp G2)->G:=by intro a b;refine st ?_;refine st ?_;refine st ?_;exact Bq (λh=>(a h).out) λh=>(b h).out):G:=f (λh=>⟨kt h⟩) λh=>⟨kf h⟩
theorem Ca{G G1 G2:Prop}{p:Prop}(kt:p->G1)(kf:¬p->G2)(f:(p->Kp G1)->(¬p->Kp G2)->G:=by intro a b;refine st ?_;refine st ?_;refine st ?_;refine st ?_;exact Bq (λh=>(a h).out) λh=>(b h).out):G:=f (λh=>⟨kt h⟩) λh=>⟨kf h⟩
theorem VA{G G1 G2:Prop}{p:Prop}(kt:p->G1)(kf:¬p->G2)(f:(p->Kp G1)->(¬p->Kp G2)->G:=by intro a b;refine st ?_;refine st ?_;refine st ?_;refine st ?_;refine st ?_;exact Bq (λh=>(a h).out) λh=>(b h).out):G:=f (λh=>⟨kt h⟩) λh=>⟨kf h⟩
theorem Ba{G G1 G2:Prop}{p:Prop}(kt:p->G1)(kf:¬p->G2)(f:(p->Kp G1)->(¬p->Kp G2)->G:=by intro a b;refine st ?_;refine st ?_;refine st ?_;refine st ?_;refine st ?_;refine st ?_;exact Bq (λh=>(a h).out) λh=>(b h).out):G:=f (λh=>⟨kt h⟩) λh=>⟨kf h⟩
theorem DV{G G1 G2:Prop}{p:Prop}(kt:p->G1)(kf:¬p->G2)(f:(p->Kp G1)->(¬p->Kp G2)->G:=by intro a b;refine st ?_;refine st ?_;refine st ?_;refine st ?_;refine st ?_;refine st ?_;refine st ?_;exact Bq (λh=>(a h).out) λh=>(b h).out):G:=f (λh=>⟨kt h⟩) λh=>⟨kf h⟩
theorem DU{G G1 G2:Prop}{p:Prop}(kt:p->G1)(kf:¬p->G2)(f:(p->Kp G1)->(¬p->Kp G2)->G:=by intro a b;refine st ?_;refine st ?_;refine st ?_;refine st ?_;refine st ?_;refine st ?_;refine st ?_;refine st ?_;exact Bq (λh=>(a h).out) λh=>(b h).out):G:=f (λh=>⟨kt h⟩) λh=>⟨kf h⟩
theorem Bj{G G1 G2:Prop}{p:Prop}(kt:p->G1)(kf:¬p->G2)(f:(p->Kp G1)->(¬p->Kp G2)->G:=by intro a b;refine st ?_;refine st ?_;refine st ?_;refine st ?_;refine st ?_;refine st ?_;refine st ?_;refine st ?_;refine st ?_;exact Bq (λh=>(a h).out) λh=>(b h).out):G:=f (λh=>⟨kt h⟩) λh=>⟨kf h⟩
theorem iY{G G1 G2:Prop}{p:Prop}(kt:p->G1)(kf:¬p->G2)(f:(p->Kp G1)->(¬p->Kp G2)->G:=by intro a b;refine st ?_;refine st ?_;refine st ?_;refine st ?_;refine st ?_;refine st ?_;refine st ?_;refine st ?_;refine st ?_;refine st ?_;exact Bq (λh=>(a h).out) λh=>(b h).out):G:=f (λh=>⟨kt h⟩) λh=>⟨kf h⟩
theorem EI{G G1 G2:Prop}{p:Prop}(kt:p->G1)(kf:¬p->G2)(f:(p->Kp G1)->(¬p->Kp G2)->G:=by intro a b;refine st ?_;refine st ?_;refine st ?_;refine st ?_;refine st ?_;refine st ?_;refine st ?_;refine st ?_;refine st ?_;refine st ?_;refine st ?_;exact Bq (λh=>(a h).out) λh=>(b h).out):G:=f (λh=>⟨kt h⟩) λh=>⟨kf h⟩
theorem Fj{G G1 G2:Prop}{p:Prop}(kt:p->G1)(kf:¬p->G2)(f:(p->Kp G1)->(¬p->Kp G2)->G:=by intro a b;refine st ?_;refine st ?_;refine st ?_;refine st ?_;refine st ?_;refine st ?_;refine st ?_;refine st ?_;refine st ?_;refine st ?_;refine st ?_;refine st ?_;exact Bq (λh=>(a h).out) λh=>(b h).out):G:=f (λh=>⟨kt h⟩) λh=>⟨kf h⟩
end Go.Proofs.YtlpflnindligbaaGreat
