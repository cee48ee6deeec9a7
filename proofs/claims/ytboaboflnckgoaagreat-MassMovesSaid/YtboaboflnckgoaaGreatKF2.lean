/- Texts that the proof needs, part 2. -/
import Derived.Test.YtboaboflnckgoaaGreatKF1
set_option linter.unusedVariables false
set_option linter.unusedSimpArgs false
noncomputable section
namespace Bk
open Go Go.RowKit
open Classical
def sg(s:Prop)(n:Nat):Int:=if s then -(n:Int) else n
theorem iB{s:Prop}(h:s)(n:Nat):sg s n= -(n:Int):=zau h
theorem mB{s:Prop}(h:¬s)(n:Nat):sg s n=n:=zae h
theorem y5(s:Prop)(n:Nat):(sg s n).natAbs=n:=by
 by_cases h:s
 · rw[iB h];omega
 · rw[mB h];omega
theorem yAH(s:Prop):sg s 0=0:=by
 by_cases h:s
 · rw[iB h];omega
 · rw[mB h];omega
theorem zU8(s:Prop)(n:Nat):sg s n<0↔s/\n≠0:=by
 by_cases h:s
 · rw[iB h];exact⟨λh1=>⟨h,by omega⟩,λh1=>by omega⟩
 · rw[mB h];exact⟨λh1=>by omega,λh1=>absurd h1.1 h⟩
theorem yE2(s:Prop){n g:Nat}(h:g∣n):sg s n/(g:Int)=sg s (n/g):=by
 by_cases hs:s
 · rw[iB hs,iB hs]
   obtain⟨k,rfl⟩:=h
   rcases ydi g with h0|h0
   · subst h0;simp
   · rw[Nat.mul_div_cancel_left _ h0,zeu,<-Int.mul_neg,Int.mul_ediv_cancel_left _ zos]
 · rw[mB hs,mB hs];omega
theorem yE1(q:Rat):sg (q.num<0) q.num.natAbs=q.num:=by
 by_cases h:q.num<0
 · rw[iB h];omega
 · rw[mB h];omega
def wM(d:Nat):Nat:=if d=1 then 0 else d
theorem bZ:wM 1=0:=rfl
theorem aN{d:Nat}(h:d≠1):wM d=d:=zae h
theorem eH{d:Nat}(h0:d≠0):zB (wM d)=[]↔d=1:=by
 by_cases h:d=1
 · subst h;rw[bZ,yY];simp
 · rw[aN h]
   exact⟨λe=>by have:=yQ.2 h0;rw[e] at this;simp at this,λe=>absurd e h⟩
theorem qB(q:Rat):(if zB (wM q.den)=[] then[1] else zB (wM q.den))=zB q.den:=by
 by_cases h:q.den=1
 · rw[zau ((eH q.den_nz).2 h),h,kM zos zos]
 · rw[zae (λe=>h ((eH q.den_nz).1 e)),aN h]
def vD(h:Mem)(v:Value)(q:Rat):Prop:=∃vn vd,v=.agg #[vB (q.num<0),vn,vd]/\Us .u32 h vn (zB q.num.natAbs)/\Us .u32 h vd (zB (wM q.den))
theorem zb:vB ((0:Rat).num<0)=.bool false:=yZ zov
theorem zDR(h:Mem):Us .u32 h (.slice none 0 0) (zB (0:Rat).num.natAbs):=by
 have:zB (0:Rat).num.natAbs=[]:=yY;rw[this];exact Us.nil _ _
theorem zDS(h:Mem):Us .u32 h (.slice none 0 0) (zB (wM (0:Rat).den)):=by
 have:zB (wM (0:Rat).den)=[]:=yY;rw[this];exact Us.nil _ _
theorem vD.zero(h:Mem):vD h (.agg #[vB ((0:Rat).num<0),.slice none 0 0,.slice none 0 0]) 0:=⟨_,_,rfl,zDR _,zDS _⟩
theorem zC7{s:Prop}{n d:Nat}(hd:d≠0):(mkRat (sg s n) d).num=sg s (n/Nat.gcd n d):=by
 rw[Rat.num_mkRat,zae hd,y5,y2u];exact yE2 s (yse n d)
theorem zIQ{s:Prop}{n d:Nat}(hd:d≠0):(mkRat (sg s n) d).den=d/Nat.gcd n d:=by
 rw[Rat.den_mkRat,zae hd,y5,y2u]
theorem vD.make{h:Mem}{s:Prop}{n d:Nat}{vn vd:Value}(hn0:n≠0)(hd0:d≠0)(hn:Us .u32 h vn (zB (n/Nat.gcd n d)))(hd:Us .u32 h vd (zB (wM (d/Nat.gcd n d)))):vD h (.agg #[vB s,vn,vd]) (mkRat (sg s n) d):=by
 have C:n/Nat.gcd n d≠0:=by
  have h1:=yse n d;have h2:=yhe d (zfe hn0);exact ymi (Nat.div_pos (y0u (zfe hn0) h1) h2)
 refine⟨vn,vd,?_,?_,?_⟩
 · have:vB ((mkRat (sg s n) d).num<0)=vB s:=by
    rw[zC7 hd0];exact tZ ⟨λh=>((zU8 _ _).1 h).1,λh=>(zU8 _ _).2 ⟨h,C⟩⟩
   rw[this]
 · rw[zC7 hd0,y5];exact hn
 · rw[zIQ hd0];exact hd
def cM(q:Rat):Rat:=if q.num<0 then -q else q
theorem zG9(q:Rat):(cM q).num=q.num.natAbs:=by
 unfold cM
 by_cases h:q.num<0
 · rw[zau h,Rat.neg_num];omega
 · rw[zae h];omega
theorem zNT(q:Rat):(cM q).den=q.den:=by
 unfold cM
 by_cases h:q.num<0
 · rw[zau h,Rat.neg_den]
 · rw[zae h]
theorem vD.abs{h:Mem}{q:Rat}{vn vd:Value}(hn:Us .u32 h vn (zB q.num.natAbs))(hd:Us .u32 h vd (zB (wM q.den))):vD h (.agg #[.bool false,vn,vd]) (cM q):=by
 refine⟨vn,vd,?_,?_,?_⟩
 · rw[yZ (by rw[zG9];omega)]
 · rw[zG9];exact hn
 · rw[zNT];exact hd
theorem vD.negB{h:Mem}{q:Rat}{vn vd:Value}(hn:Us .u32 h vn (zB q.num.natAbs))(hd:Us .u32 h vd (zB (wM q.den))):vD h (.agg #[vB (¬q.num<0/\(0:Int)<↑(zB q.num.natAbs).length),vn,vd]) (-q):=by
 refine⟨vn,vd,?_,?_,?_⟩
 · have:vB ((-q).num<0)=vB (¬q.num<0/\(0:Int)<↑(zB q.num.natAbs).length):=by
    have h1:=yQ (n:=q.num.natAbs);rw[Rat.neg_num];exact tZ ⟨λh=>⟨by omega,by omega⟩,λh=>by omega⟩
   rw[this]
 · rw[Rat.neg_num,Int.natAbs_neg];exact hn
 · rw[Rat.neg_den];exact hd
theorem zGJ{m n k:Nat}(h1:(zB m).length<=k)(h2:(zB n).length<=k):(zB (m+n)).length<=k+1:=by
 refine uS ?_;have D:=zku (uZ m) (zii zov h1);have C:=zku (uZ n) (zii zov h2);rw[zke];generalize 4294967296^k=p at *;omega
theorem putL{xs:List Nat}{lo n:Nat}(h:lo+1<=xs.length)(h0:n≠0)(hn:n<4294967296):xs.set lo n=xs.take lo++zB n++xs.drop (lo+(zB n).length):=by
 rw[kM h0 hn,yfu,zau zos];simp
theorem yIK{xs:List Nat}{lo n:Nat}(h:lo+2<=xs.length)(hn:n<18446744073709551616)(hn':4294967296<=n):(xs.set lo (n%4294967296)).set (lo+1) (n/4294967296)=xs.take lo++zB n++xs.drop (lo+(zB n).length):=by
 have e:zB n=[n%4294967296,n/4294967296]:=by rw[gD zos,kM (t:=n/4294967296) zos zos]
 rw[e]
 apply List.ext_getElem?
 intro i;simp only[y1e,lS,List.getElem?_append,lAz,zei,lC,lN,zmu,zxi]
 rcases Nat.lt_trichotomy i lo with hi|hi|hi
 · rw[zae zos,zae zos,zau zos,zau zos,zau zos]
 · subst hi
   rw[zae zos,zau I,zau zos,zau zos,zae zos];simp[show min i xs.length=i by omega]
 · by_cases h1:i=lo+1
   · subst h1
     rw[zau I,zau zos,zau zos,zae zos];simp[show min lo xs.length=lo by omega]
   · rw[zae zos,zae zos,zae zos]
     congr 1
     omega
def rz(s:Prop)(n:Rat):Rat:=if s then -n else n
theorem iO{s:Prop}(h:s)(n:Rat):rz s n= -n:=zau h
theorem iC{s:Prop}(h:¬s)(n:Rat):rz s n=n:=zae h
theorem cG(s:Prop)(n d:Nat):mkRat (sg s n) d=rz s n/d:=by
 rw[Rat.mkRat_eq_div]
 by_cases h:s
 · rw[iB h,iO h,zui];rfl
 · rw[mB h,iC h];rfl
theorem gA(q:Rat):mkRat (sg (q.num<0) q.num.natAbs) q.den=q:=by rw[yE1,Rat.mkRat_self]
theorem aO{d:Nat}(h:d≠0):(d:Rat)≠0:=λe=>h (Rat.natCast_eq_zero_iff.1 e)
theorem zBW(s:Prop)(d:Nat):mkRat (sg s 0) d=0:=by rw[yAH,Rat.zero_mkRat]
theorem zBV(s:Prop)(n:Nat):mkRat (sg s n) 0=0:=by rw[Rat.mkRat_zero]
theorem zKD{s t:Prop}(h:s↔t)(n d:Nat):mkRat (sg s n) d=mkRat (sg t n) d:=by rw[propext h]
theorem zW7(s:Prop){n m d e:Nat}(hd:d≠0)(he:e≠0):mkRat (sg s n) d+mkRat (sg s m) e=mkRat (sg s (n*e+m*d)) (d*e):=by
 rw[cG,cG,cG,zsi,yvu,zsi,zsi];have h1:=aO hd;have h2:=aO he;generalize (d:Rat)=D at *;generalize (e:Rat)=E at *;generalize (n:Rat)=N at *;generalize (m:Rat)=M at *
 by_cases h:s
 · rw[iO h,iO h,iO h];grind
 · rw[iC h,iC h,iC h];grind
theorem zPP{s t:Prop}(hst:¬(s↔t)){n m d e:Nat}(hd:d≠0)(he:e≠0)(hle:m*d<=n*e):mkRat (sg s n) d+mkRat (sg t m) e=mkRat (sg s (n*e-m*d)) (d*e):=by
 have G:((n*e-m*d:Nat):Rat)=n*e-m*d:=by
  have h3:n*e-m*d+m*d=n*e:=by omega
  have H:((n*e-m*d+m*d:Nat):Rat)=((n*e:Nat):Rat):=by rw[h3]
  rw[yvu,zsi,zsi] at H;generalize ((n*e-m*d:Nat):Rat)=X at *;grind
 rw[cG,cG,cG,G,zsi];have h1:=aO hd;have h2:=aO he;generalize (d:Rat)=D at *;generalize (e:Rat)=E at *;generalize (n:Rat)=N at *;generalize (m:Rat)=M at *
 by_cases h:s
 · have C:¬t:=λC=>hst ⟨λ_=>C,λ_=>h⟩
   rw[iO h,iC C,iO h];grind
 · have C:t:=zdu λC=>hst ⟨λa=>absurd a h,λa=>absurd a C⟩
   rw[iC h,iO C,iC h];grind
theorem zRA{s t:Prop}(hst:¬(s↔t)){n m d e:Nat}(hd:d≠0)(he:e≠0)(hle:n*e<=m*d):mkRat (sg s n) d+mkRat (sg t m) e=mkRat (sg t (m*d-n*e)) (d*e):=by
 rw[Rat.add_comm,zPP (λh=>hst h.symm) he hd hle,ztu e d]
theorem zW5(s t:Prop)(n m d e:Nat):mkRat (sg s n) d*mkRat (sg t m) e=mkRat (sg (¬(s↔t)) (n*m)) (d*e):=by
 rw[Rat.mkRat_mul_mkRat]
 congr 1
 by_cases h:s<;>by_cases h':t
 · rw[iB h,iB h',mB (by simp[h,h']),zeu,Int.neg_mul_neg]
 · rw[iB h,mB h',iB (by simp[h,h']),zeu,Int.neg_mul]
 · rw[mB h,iB h',iB (by simp[h,h']),zeu,Int.mul_neg]
 · rw[mB h,mB h',mB (by simp[h,h']),zeu]
theorem zPQ(s t:Prop){n m d e:Nat}(hd:d≠0)(hm:m≠0)(he:e≠0):mkRat (sg s n) d/mkRat (sg t m) e=mkRat (sg (¬(s↔t)) (n*e)) (d*m):=by
 rw[cG,cG,cG,zsi,zsi];have h1:=aO hd;have h2:=aO hm;have h3:=aO he;generalize (d:Rat)=D at *;generalize (e:Rat)=E at *;generalize (n:Rat)=N at *;generalize (m:Rat)=M at *
 by_cases h:s<;>by_cases h':t
 · rw[iO h,iO h',iC (by simp[h,h'])];grind
 · rw[iO h,iC h',iO (by simp[h,h'])];grind
 · rw[iC h,iO h',iO (by simp[h,h'])];grind
 · rw[iC h,iC h',iC (by simp[h,h'])];grind
theorem yFV(s:Prop)(n d:Nat):-mkRat (sg s n) d=mkRat (sg (¬s) n) d:=by
 rw[Rat.neg_mkRat]
 congr 1
 by_cases h:s
 · rw[iB h,mB (by simp[h])];omega
 · rw[mB h,iB h]
theorem zGC(s:Prop)(n d:Nat){k:Nat}(hk:k≠0):mkRat (sg s (n*k)) (d*k)=mkRat (sg s n) d:=by
 rw[cG,cG,zsi,zsi];have h1:=aO hk
 by_cases hd:d=0
 · subst hd
   have:((0:Nat):Rat)=0:=I;rw[this];grind
 have h2:=aO hd;generalize (d:Rat)=D at *;generalize (k:Rat)=K at *;generalize (n:Rat)=N at *
 by_cases h:s
 · rw[iO h,iO h];grind
 · rw[iC h,iC h];grind
def lq(q:Rat):Nat:=max (zB q.num.natAbs).length (zB q.den).length
theorem wT(q:Rat):(zB q.num.natAbs).length<=lq q:=Nat.le_max_left _ _
theorem vO(q:Rat):(zB q.den).length<=lq q:=Nat.le_max_right _ _
theorem zYP(d:Nat):(zB (wM d)).length<=(zB d).length:=by
 by_cases h:d=1
 · subst h;rw[bZ,yY];simp
 · rw[aN h];exact zbe _
theorem wQ(q:Rat):(zB (wM q.den)).length<=lq q:=zci (zYP _) (vO q)
theorem zAM(q:Rat):0<lq q:=zku (yQ.2 q.den_nz) (vO q)
theorem eW{s:Prop}{n d k:Nat}(hn:(zB n).length<=k)(hd:(zB d).length<=k)(hk:0<k):lq (mkRat (sg s n) d)<=k:=by
 by_cases h0:d=0
 · subst h0
   rw[zBV];refine Nat.max_le.2 ⟨?_,?_⟩
   · have:(zB (0:Rat).num.natAbs)=[]:=yY
     rw[this];simp
   · have:zB (0:Rat).den=[1]:=by rw[show(0:Rat).den=1 from I,gD zos,yY]
     rw[this];exact hk
 · refine Nat.max_le.2 ⟨?_,?_⟩
   · rw[zC7 h0,y5]
     exact zci (zW (zki _ _)) hn
   · rw[zIQ h0]
     exact zci (zW (zki _ _)) hd
theorem cH:lq 0=1:=by
 have h:=eW (s:=False) (n:=0) (d:=0) (k:=1) (by rw[yY];simp) (by rw[yY];simp) zos;rw[zBV] at h;have:=zAM 0;omega
theorem zGG(q:Rat):lq (-q)=lq q:=by unfold lq;rw[Rat.neg_num,Rat.neg_den,Int.natAbs_neg]
theorem yF7(q:Rat):lq (cM q)=lq q:=by unfold lq;rw[zG9,zNT,Int.natAbs_natCast]
theorem pK(a b:Rat):lq (a*b)<=lq a+lq b:=by
 rw[<-gA a,<-gA b,zW5,gA,gA];have h1:=wT a;have h2:=wT b;have h3:=vO a;have D:=vO b;have C:=zAM a;exact eW (zci (yM _ _) zos) (zci (yM _ _) zos) zos
theorem kW(a b:Rat):lq (a+b)<=lq a+lq b+1:=by
 have h1:=wT a;have h2:=wT b;have h3:=vO a;have J:=vO b;have H:=zAM a;have G:=yM a.num.natAbs b.den;have D:=yM b.num.natAbs a.den;have C:=yM a.den b.den;have e:a+b=mkRat (sg (a.num<0) a.num.natAbs) a.den+mkRat (sg (b.num<0) b.num.natAbs) b.den:=by rw[gA,gA]
 rw[e]
 by_cases h:(a.num<0)↔(b.num<0)
 · rw[zKD h,zW7 _ a.den_nz b.den_nz]
   refine eW (zci (zGJ ?_ ?_) (zbe _)) zos zos
   · omega
   · omega
 · rcases Nat.le_total (b.num.natAbs*a.den) (a.num.natAbs*b.den) with hle|hle
   · rw[zPP h a.den_nz b.den_nz hle]
     exact eW (zci (zW (yju _ _)) zos) zos zos
   · rw[zRA h a.den_nz b.den_nz hle]
     exact eW (zci (zW (yju _ _)) zos) zos zos
theorem oW(a b:Rat):lq (a-b)<=lq a+lq b+1:=by
 rw[yze];have:=kW a (-b);rw[zGG] at this;exact this
theorem zF4{q:Rat}:q.num.natAbs≠0↔q≠0:=by
 rw[Int.natAbs_ne_zero];exact not_congr Rat.num_eq_zero
theorem yF4(a b:Rat):lq (a/b)<=lq a+lq b:=by
 have h1:=wT a;have h2:=wT b;have h3:=vO a;have D:=vO b;have C:=zAM a
 by_cases hb:b=0
 · subst hb
   have:a/0=0:=by grind
   rw[this,cH];omega
 have e:a/b=mkRat (sg (a.num<0) a.num.natAbs) a.den/mkRat (sg (b.num<0) b.num.natAbs) b.den:=by rw[gA,gA]
 rw[e,zPQ _ _ a.den_nz (zF4.2 hb) b.den_nz];exact eW (zci (yM _ _) zos) (zci (yM _ _) zos) zos
def vH(a b:Rat):Int:=if a<b then -1 else if a=b then 0 else 1
def yU(q:Rat):Int:=if q=0 then 0 else if q.num<0 then -1 else 1
theorem yCV(s:Prop){n m d e:Nat}(hd:d≠0)(he:e≠0):mkRat (sg s n) d<mkRat (sg s m) e↔if s then m*d<n*e else n*e<m*d:=by
 have C:∀x y:Nat,(x:Rat)<(y:Rat)↔x<y:=λx y=>by rw[ysu]
 have h1:(0:Rat)<(d:Rat):=by rw[show(0:Rat)=((0:Nat):Rat) from I,C];omega
 have h2:(0:Rat)<(e:Rat):=by rw[show(0:Rat)=((0:Nat):Rat) from I,C];omega
 rw[cG,cG,<-C,<-C,zsi,zsi,Rat.div_lt_iff h1];generalize (d:Rat)=D at *;generalize (e:Rat)=E at *;generalize (n:Rat)=N at *;generalize (m:Rat)=M at *;have G:∀X:Rat,X/E*D=X*D/E:=λX=>by grind
 rw[G,Rat.lt_div_iff h2]
 by_cases h:s
 · rw[iO h,iO h,zau h];grind
 · rw[iC h,iC h,zae h]
theorem yC1(s:Prop){n m d e:Nat}(hd:d≠0)(he:e≠0):mkRat (sg s n) d=mkRat (sg s m) e↔n*e=m*d:=by
 rw[Rat.mkRat_eq_iff hd he]
 by_cases h:s
 · rw[iB h,iB h]
   rw[Int.neg_mul,Int.neg_mul,Int.neg_inj,<-zeu,<-zeu];omega
 · rw[mB h,mB h,<-zeu,<-zeu];omega
theorem yG7(s:Prop){n m d e:Nat}(hd:d≠0)(he:e≠0):vH (mkRat (sg s n) d) (mkRat (sg s m) e)=if s then -(sZ (n*e) (m*d)) else sZ (n*e) (m*d):=by
 unfold vH sZ
 by_cases h:s
 · simp only[yCV s hd he,yC1 s hd he,zau h]
   by_cases h1:m*d<n*e
   · rw[zau h1,zae zos,zae zos]
   · rw[zae h1]
     by_cases h2:n*e=m*d
     · rw[zau h2,zae zos];rfl
     · rw[zae h2,zau zos];rfl
 · simp only[yCV s hd he,yC1 s hd he,zae h]
theorem zNG(a b:Rat)(h:(a.num<0)↔(b.num<0)):vH a b=if a.num<0 then -(sZ (a.num.natAbs*b.den) (b.num.natAbs*a.den)) else sZ (a.num.natAbs*b.den) (b.num.natAbs*a.den):=by
 have:=yG7 (a.num<0) (n:=a.num.natAbs) (m:=b.num.natAbs) a.den_nz b.den_nz;rw[gA,zKD h,gA] at this;rw[this]
 by_cases h:a.num<0
 · rw[zau h,zau h]
 · rw[zae h,zae h]
theorem pT(q:Rat):q.num<0↔q<0:=by
 have:=yxe (q:=q);rw[<-Rat.not_le,<-this];omega
theorem zCC{a b:Rat}(h:yU a≠yU b):vH a b=if yU a<yU b then -1 else 1:=by
 have D:yU a=if a=0 then 0 else if a<0 then -1 else 1:=by unfold yU;simp only[pT]
 have C:yU b=if b=0 then 0 else if b<0 then -1 else 1:=by unfold yU;simp only[pT]
 rw[D,C] at h ⊢;unfold vH
 clear D C
 grind
theorem xW(q:Rat):-1<=yU q/\yU q<=1:=by
 unfold yU
 split
 · omega
 · split<;>omega
theorem gQ(a b:Rat):-1<=vH a b/\vH a b<=1:=by
 unfold vH
 split
 · omega
 · split<;>omega
theorem aB{a b:Rat}:vH a b<0↔a<b:=by
 unfold vH
 by_cases h:a<b
 · simp[h]
 · by_cases h':a=b
   · simp[h']
   · simp[h,h']
theorem dQ{a b:Rat}:0<vH a b↔b<a:=by
 unfold vH
 by_cases h:a<b
 · simp[h];grind
 · by_cases h':a=b
   · simp[h']
   · simp[h,h'];grind
theorem aV{a b:Rat}:vH a b=0↔a=b:=by
 unfold vH
 by_cases h:a<b
 · simp[h];grind
 · by_cases h':a=b
   · simp[h']
   · simp[h,h']
def sK(q:Rat):Prop:=(zB q.num.natAbs).length<=1/\(zB (wM q.den)).length<=1
theorem zN9{q:Rat}(h:(1:Int)<↑(zB q.num.natAbs).length\/(1:Int)<↑(zB (wM q.den)).length):¬sK q:=λ⟨h1,h2⟩=>by omega
theorem zSR{q:Rat}(h:¬((1:Int)<↑(zB q.num.natAbs).length\/(1:Int)<↑(zB (wM q.den)).length)):sK q:=⟨by omega,by omega⟩
theorem nG{n:Nat}(h:(zB n).length<=1):n<4294967296:=by
 have:=zku (uZ n) (zii zov h);omega
theorem zYN{d:Nat}(h:(↑(zB (wM d)).length:Int)=1):(zB (wM d)).getD 0 0=d:=by
 by_cases h1:d=1
 · subst h1;rw[bZ,yY] at h;simp at h
 · rw[aN h1] at h ⊢
   have h3:=nG (n:=d) zos;have C:d≠0:=yQ.1 zos;rw[kM C h3];rfl
theorem zT8{d:Nat}(h0:d≠0)(h:¬(↑(zB (wM d)).length:Int)=1)(h1:(zB (wM d)).length<=1):d=1:=by
 by_cases h2:d=1
 · exact h2
 · rw[aN h2] at h h1
   have:=yQ.2 h0;omega
theorem zYO{q:Rat}(h:¬(↑(zB (wM q.den)).length:Int)=1)(hs:sK q):q.den=1:=zT8 q.den_nz h hs.2
theorem tG{q:Rat}(h:sK q):q.num.natAbs<4294967296:=nG h.1
theorem tH{q:Rat}(h:sK q):q.den<4294967296:=by
 by_cases h1:q.den=1
 · omega
 · have h2:=h.2
   rw[aN h1] at h2;exact nG h2
def pN(q:Rat):Nat:=if sK q then q.num.natAbs else 0
def pD(q:Rat):Nat:=if sK q then q.den else 0
theorem zHE{q:Rat}(h:sK q):pN q=q.num.natAbs:=zau h
theorem pN_f{q:Rat}(h:¬sK q):pN q=0:=zae h
theorem zHF{q:Rat}(h:sK q):pD q=q.den:=zau h
theorem pD_f{q:Rat}(h:¬sK q):pD q=0:=zae h
theorem fM{n:Nat}:wU n=0↔n=0:=by
 unfold wU
 by_cases h:n=0
 · simp[h]
 · simp[h]
theorem oZ{Y:Nat}:((↑(zB Y).length:Int)=1/\(zB Y).getD 0 0=1)↔Y=1:=by
 constructor
 · intro⟨h1,h2⟩
   have h3:=nG (n:=Y) zos;have C:Y≠0:=yQ.1 zos;rw[kM C h3] at h2;exact h2
 · intro h
   subst h;rw[kM zos zos];exact⟨I,I⟩
theorem zI5{n:Nat}(h:¬(1:Int)<↑(wU n))(h0:n≠0):n=1:=by
 have h1:=aK n;have h2:=zii (n:=2) zov (show wU n<=1 by omega);omega
theorem vD.fin{h:Mem}{s:Prop}{n d:Nat}{vn vd:Value}(hn0:n≠0)(hd0:d≠0)(hn:Us .u32 h vn (zB (n/Nat.gcd n d)))(hd:Us .u32 h vd (zB (d/Nat.gcd n d)))(h1:¬((↑(zB (d/Nat.gcd n d)).length:Int)=1/\(zB (d/Nat.gcd n d)).getD 0 0=1)):vD h (.agg #[vB s,vn,vd]) (mkRat (sg s n) d):=
 vD.make hn0 hd0 hn (by rw[aN (λe=>h1 (oZ.2 e))];exact hd)
theorem vD.fin1{h:Mem}{s:Prop}{n d:Nat}{vn:Value}(hn0:n≠0)(hd0:d≠0)(hn:Us .u32 h vn (zB (n/Nat.gcd n d)))(h1:(↑(zB (d/Nat.gcd n d)).length:Int)=1/\(zB (d/Nat.gcd n d)).getD 0 0=1):vD h (.agg #[vB s,vn,.slice none 0 0]) (mkRat (sg s n) d):=
 vD.make hn0 hd0 hn (by rw[oZ.1 h1,bZ,yY];exact Us.nil _ _)
theorem cX:[1]=zB 1:=(kM zos zos).symm
theorem zB5:(zB 1).length=1:=by rw[<-cX];rfl
theorem j8(m n:Nat):(zB (Nat.gcd m n)).length<=max (zB m).length (zB n).length:=by
 by_cases h:m=0
 · subst h;rw[Nat.gcd_zero_left];omega
 · have:=zW (Nat.gcd_le_left n (zfe h))
   omega
theorem mA{q:Rat}(h:q=0):yU q=0:=zau h
theorem zBD{q:Rat}(h:q.num<0):yU q= -1:=by
 unfold yU;rw[zae (λe=>by rw[e] at h;exact absurd h zov),zau h]
theorem zBC{q:Rat}(h:q≠0)(h':¬q.num<0):yU q=1:=by unfold yU;rw[zae h,zae h']
theorem zHJ{q:Rat}(h:(↑(wU q.num.natAbs):Int)=0):q=0:=by
 have:=(fM (n:=q.num.natAbs)).1 zos;exact Rat.num_eq_zero.1 zos
theorem zHQ{q:Rat}(h:q=0):(↑(wU q.num.natAbs):Int)=0:=by subst h;decide
theorem zP9{a b:Rat}:zB (wM a.den)=zB (wM b.den)↔a.den=b.den:=by
 refine⟨λh=>?_,λh=>by rw[h]⟩;have h1:=w7 h;have C:=a.den_nz;have hb:=b.den_nz;unfold wM at h1
 split at h1<;>split at h1<;>omega
theorem yFB{a b:Rat}(h1:a.num=b.num)(h2:a.den=b.den):a=b:=by
 rw[<-Rat.mkRat_self a,<-Rat.mkRat_self b,h1,h2]
theorem zVG{a b:Rat}:(((a.num<0↔b.num<0)/\zB a.num.natAbs=zB b.num.natAbs)/\zB (wM a.den)=zB (wM b.den))↔a=b:=by
 refine⟨λ⟨⟨h1,h2⟩,h3⟩=>yFB ?_ (zP9.1 h3),λh=>by subst h;simp⟩;have:=w7 h2;omega
theorem zLG{a b:Rat}(h:¬yU a≠yU b):a.num<0↔b.num<0:=by
 have h:=zdi h
 by_cases h1:a.num<0<;>by_cases h2:b.num<0
 · simp[h1,h2]
 · rw[zBD h1] at h
   by_cases h3:b=0
   · rw[mA h3] at h;omega
   · rw[zBC h3 h2] at h;omega
 · rw[zBD h2] at h
   by_cases h3:a=0
   · rw[mA h3] at h;omega
   · rw[zBC h3 h1] at h;omega
 · simp[h1,h2]
def cN(a b:Rat):Int:=sZ (a.num.natAbs*b.den) (b.num.natAbs*a.den)
theorem zNM(a b:Rat):-1<=cN a b/\cN a b<=1:=by
 unfold cN sZ
 split
 · omega
 · split<;>omega
theorem zR5{a b:Rat}(h:a.num<0↔b.num<0)(hn:a.num<0):vH a b= -(cN a b):=by rw[zNG a b h,zau hn];rfl
theorem zNH{a b:Rat}(h:a.num<0↔b.num<0)(hn:¬a.num<0):vH a b=cN a b:=by rw[zNG a b h,zae hn];rfl
theorem yHN{a b:Rat}(h:zB (wM a.den)=zB (wM b.den)):cN a b=sZ a.num.natAbs b.num.natAbs:=by
 unfold cN sZ;rw[zP9.1 h];have C:=zfe b.den_nz
 by_cases h1:a.num.natAbs<b.num.natAbs
 · rw[zau h1,zau (zte h1 C)]
 · rw[zae h1,zae (λe=>h1 (Nat.lt_of_mul_lt_mul_right e))]
   by_cases h2:a.num.natAbs=b.num.natAbs
   · rw[zau h2,h2,zau I]
   · rw[zae h2,zae (λe=>h2 (Nat.eq_of_mul_eq_mul_right C e))]
theorem jK{m n:Nat}(hm:m<4294967296)(hn:n<4294967296):m*n<=18446744065119617025:=by
 have:=z6e (show m<=4294967295 by omega) (show n<=4294967295 by omega);omega
def sgd(s:Prop)(b:Rat):Rat:=mkRat (sg s b.num.natAbs) b.den
theorem zBE(b:Rat):sgd (b.num<0) b=b:=gA b
theorem yAG(b:Rat):sgd (¬b.num<0) b= -b:=by
 unfold sgd;rw[<-yFV,gA]
theorem zXH(s:Prop)(b:Rat):lq (sgd s b)<=lq b:=eW (wT b) (vO b) (zAM b)
theorem zE0{a b:Rat}{s:Prop}(h:(a.num<0)↔s):a+sgd s b=mkRat (sg s (a.num.natAbs*b.den+b.num.natAbs*a.den)) (a.den*b.den):=by
 have:=zW7 s (n:=a.num.natAbs) (m:=b.num.natAbs) a.den_nz b.den_nz;rw[<-zKD h a.num.natAbs,gA] at this;exact this
theorem zEJ{a b:Rat}{s:Prop}(h:¬((a.num<0)↔s))(hle:b.num.natAbs*a.den<=a.num.natAbs*b.den):a+sgd s b=mkRat (sg (a.num<0) (a.num.natAbs*b.den-b.num.natAbs*a.den)) (a.den*b.den):=by
 have:=zPP h (n:=a.num.natAbs) (m:=b.num.natAbs) a.den_nz b.den_nz hle;rw[gA] at this;exact this
theorem zA8{a b:Rat}{s:Prop}(h:¬((a.num<0)↔s))(hle:a.num.natAbs*b.den<=b.num.natAbs*a.den):a+sgd s b=mkRat (sg s (b.num.natAbs*a.den-a.num.natAbs*b.den)) (a.den*b.den):=by
 have:=zRA h (n:=a.num.natAbs) (m:=b.num.natAbs) a.den_nz b.den_nz hle;rw[gA] at this;exact this
theorem zZM{a b:Rat}{s:Prop}(h:(a.num<0)↔s)(hd:a.den=b.den):a+sgd s b=mkRat (sg s (a.num.natAbs+b.num.natAbs)) a.den:=by
 rw[zE0 h,<-hd,<-z2u,zGC _ _ _ a.den_nz]
theorem zUY{a b:Rat}{s:Prop}(h:¬((a.num<0)↔s))(hd:a.den=b.den)(hle:b.num.natAbs<=a.num.natAbs):a+sgd s b=mkRat (sg (a.num<0) (a.num.natAbs-b.num.natAbs)) a.den:=by
 rw[zEJ h (by rw[<-hd];exact zfu _ hle),<-hd,<-yye,zGC _ _ _ a.den_nz]
theorem zSO{a b:Rat}{s:Prop}(h:¬((a.num<0)↔s))(hd:a.den=b.den)(hle:a.num.natAbs<=b.num.natAbs):a+sgd s b=mkRat (sg s (b.num.natAbs-a.num.natAbs)) a.den:=by
 rw[zA8 h (by rw[<-hd];exact zfu _ hle),<-hd,<-yye,zGC _ _ _ a.den_nz]
theorem zW3(a b:Rat):mkRat (sg (¬((a.num<0)↔(b.num<0))) (a.num.natAbs*b.num.natAbs)) (a.den*b.den)=a*b:=by
 rw[<-zW5,gA,gA]
theorem zV1(a:Rat){b:Rat}(hb:b≠0):mkRat (sg (¬((a.num<0)↔(b.num<0))) (a.num.natAbs*b.den)) (a.den*b.num.natAbs)=a/b:=by
 rw[<-zPQ _ _ a.den_nz (zF4.2 hb) b.den_nz,gA,gA]
theorem bT{q:Rat}(h:(↑(zB q.num.natAbs).length:Int)=0):q=0:=by
 refine zdu λC=>?_;have:=yQ.2 (zF4.2 C);omega
theorem uJ{q:Rat}:yU q=0↔q=0:=by
 refine⟨λh=>?_,mA⟩;unfold yU at h
 by_cases h1:q=0
 · exact h1
 · rw[zae h1] at h;split at h<;>omega
def zGE(a b:Rat):Rat:=if b<a then b else a
def mQ(a b:Rat):Rat:=if a<b then b else a
theorem yFZ{a b:Rat}(h:vH b a<0):zGE a b=b:=zau (aB.1 h)
theorem yF0{a b:Rat}(h:¬vH b a<0):zGE a b=a:=zae (λe=>h (aB.2 e))
theorem yF1{a b:Rat}(h:0<vH b a):mQ a b=b:=zau (dQ.1 h)
theorem yF2{a b:Rat}(h:¬0<vH b a):mQ a b=a:=zae (λe=>h (dQ.2 e))
theorem zXJ(a b:Rat):lq (zGE a b)<=max (lq a) (lq b):=by unfold zGE;split<;>omega
theorem zXK(a b:Rat):lq (mQ a b)<=max (lq a) (lq b):=by unfold mQ;split<;>omega
def zGN:Rat:=mkRat (sg False 1) 2
theorem yBK:lq zGN<=1:=eW (by rw[kM zos zos];simp) (by rw[kM zos zos];simp) zos
theorem zX1:zGN=1/2:=by
 unfold zGN;rw[cG,iC id]
 rfl
def zC8(a b:Rat):Rat:=(a+b)*zGN
theorem yF5(a b:Rat):lq (zC8 a b)<=lq a+lq b+2:=by
 have h1:=pK (a+b) zGN;have h2:=kW a b;have h3:=yBK;unfold zC8;omega
def kN(k:Int):Nat:=(min (max k 0) 4096).toNat
theorem yA1{k:Nat}(h:k<=4096):(zB (2^k)).length<=129:=by
 have e:(4294967296:Nat)^129=2^(32*129):=(ycu 2 32 129).symm;have C:k<32*129:=by omega
 generalize 32*129=m at *;refine uS ?_;rw[e];exact yve zov C
theorem zEQ(a b:Rat):lq (if b=0 then 0 else a/b)<=lq a+lq b:=by
 have:=yF4 a b;have h1:=zAM a
 split
 · rw[cH];omega
 · exact this
theorem zUZ{p:Prop} [Decidable p](h:(if p then 7 else 0:Int)=0):¬p:=by
 intro C;rw[zau C] at h;omega
theorem zU0{p:Prop} [Decidable p](h:¬(if p then 7 else 0:Int)=0):p:=by
 refine zdu λC=>h ?_;rw[zae C]
theorem fJ{n:Int}(h1:-9223372036854775808<=n)(h2:n<9223372036854775808):(zB n.natAbs).length<=2:=gL zos
def kJ(n d:Int):Rat:=(n:Rat)/(d:Rat)
theorem zGF(n:Int):kJ n 0=0:=by
 unfold kJ;have:((0:Int):Rat)=0:=I;rw[this];grind
theorem zKO(n:Int):mkRat (sg (n<0) n.natAbs) 1=(n:Rat):=by
 have e:sg (n<0) n.natAbs=n:=by
  by_cases h:n<0
  · rw[iB h];omega
  · rw[mB h];omega
 rw[e,Rat.mkRat_one]
theorem zMR{n d:Int}(hd:d≠0):mkRat (sg (¬((n<0)↔(d<0))) n.natAbs) d.natAbs=kJ n d:=by
 unfold kJ;rw[<-zKO n,<-zKO d,zPQ _ _ zos zos zos,z9u,yfi]
theorem nR(n:Int)(h1:-9223372036854775808<=n)(h2:n<9223372036854775808):lq (n:Rat)<=2:=by
 rw[<-zKO];exact eW (fJ h1 h2) (by rw[zB5];omega) zos
theorem zB0{n d:Int}(h1:-9223372036854775808<=n)(h2:n<9223372036854775808)(h3:-9223372036854775808<=d)(h4:d<9223372036854775808):lq (kJ n d)<=2:=by
 by_cases hd:d=0
 · subst hd;rw[zGF,cH];omega
 · rw[<-zMR hd];exact eW (fJ h1 h2) (fJ h3 h4) zos
def dV(ys:List Nat):Nat:=if ys=[] then 1 else val ys
theorem yDP(ys:List Nat):val (if ys=[] then[1] else ys)=dV ys:=by
 unfold dV
 split
 · rfl
 · rfl
theorem yB8{ys:List Nat}(h:(0:Int)<↑ys.length/\(↑(wU (val ys)):Int)=0):dV ys=0:=by
 unfold dV;rw[zae (λe=>by rw[e] at h;simp at h)];exact fM.1 zos
theorem yJI{ys:List Nat}(h:¬((0:Int)<↑ys.length/\(↑(wU (val ys)):Int)=0)):dV ys≠0:=by
 unfold dV
 split
 · omega
 · rename_i h1
   intro h2;have h3:wU (val ys)=0:=fM.2 h2;have C:0<ys.length:=List.length_pos_iff.2 h1;exact h ⟨by omega,by omega⟩
theorem yG6(ys:List Nat):(if ys=[] then[1] else ys).length<=ys.length+1:=by
 split
 · simp
 · omega
theorem zGK{xs:List Nat}:(↑xs.length:Int)=0↔xs=[]:=⟨λh=>zof zos,λh=>by rw[h];rfl⟩
theorem zGR{g:Nat}(h:¬((↑(zB g).length:Int)≠1\/(zB g).getD 0 0≠1)):g=1:=
 oZ.1 ⟨zdi λe=>h (.inl e),zdi λe=>h (.inr e)⟩
theorem zYT{a b:Rat}:(((a.num<0)↔(b.num<0))/\sZ a.num.natAbs b.num.natAbs=0)/\sZ (wM a.den) (wM b.den)=0↔a=b:=by
 rw[zDJ,zDJ,<-zVG];constructor
 · rintro⟨⟨h1,h2⟩,h3⟩
   exact⟨⟨h1,by rw[h2]⟩,by rw[h3]⟩
 · rintro⟨⟨h1,h2⟩,h3⟩
   exact⟨⟨h1,w7 h2⟩,w7 h3⟩
theorem yBO{q:Rat}:(↑(zB q.num.natAbs).length:Int)=0↔q=0:=by
 refine⟨bT,λh=>?_⟩;subst h;rw[show(0:Rat).num.natAbs=0 from I,yY];rfl
theorem zF3{q:Rat}(h:¬(↑(zB q.num.natAbs).length:Int)=0):q≠0:=λe=>h (yBO.2 e)
theorem zZN{a b:Rat}(h:(a.num<0)↔(b.num<0)):mkRat (sg (a.num<0) (a.num.natAbs*b.den+b.num.natAbs*a.den)) (a.den*b.den)=a+b:=by
 have:=zE0 (a:=a) (b:=b) h;rw[zBE,zKD h.symm] at this;exact this.symm
theorem yHY{a b:Rat}(h:¬((a.num<0)↔(b.num<0)))(hle:b.num.natAbs*a.den<=a.num.natAbs*b.den):mkRat (sg (a.num<0) (a.num.natAbs*b.den-b.num.natAbs*a.den)) (a.den*b.den)=a+b:=by
 have:=zEJ (a:=a) (b:=b) h hle;rw[zBE] at this;exact this.symm
theorem yHX{a b:Rat}(h:¬((a.num<0)↔(b.num<0)))(hle:a.num.natAbs*b.den<=b.num.natAbs*a.den):mkRat (sg (b.num<0) (b.num.natAbs*a.den-a.num.natAbs*b.den)) (a.den*b.den)=a+b:=by
 have:=zA8 (a:=a) (b:=b) h hle;rw[zBE] at this;exact this.symm
theorem zNZ{h:Mem}{v:Value}{n:Int}(s:Us .u32 h v (zB n.natAbs)):Us .u32 h v (zB (n:Rat).num.natAbs):=by
 rw[Rat.num_intCast];exact s
theorem zN0{h:Mem}{n:Int}:Us .u32 h (.slice none 0 0) (zB (wM (n:Rat).den)):=by
 rw[Rat.den_intCast,bZ,yY];exact Us.nil _ _
theorem vD.int{h:Mem}{v:Value}{n:Int}(s:Us .u32 h v (zB n.natAbs)):vD h (.agg #[vB (n<0),v,.slice none 0 0]) (n:Rat):=
 ⟨v,.slice none 0 0,by rw[Rat.num_intCast],zNZ s,zN0⟩
theorem zIW:kJ 1 2=zGN:=by rw[zX1];rfl
def numQ(s:Prop)(xs ys:List Nat):Rat:=mkRat (sg s (val xs)) (dV ys)
theorem zRK(s:Prop)(xs ys:List Nat):lq (numQ s xs ys)<=max (zB (val xs)).length (zB (dV ys)).length+1:=eW zos zos zos
theorem zRL(s:Prop)(xs ys:List Nat):lq (mkRat (sg s (val xs)) (dV ys))<=max (zB (val xs)).length (zB (dV ys)).length+1:=zRK s xs ys
end Bk
namespace Bk
open Go Go.RowKit
def gR(k:Nat)(v:Value)(lo hi mx:Nat):Value:=
 match v with
 | .slice a _ _=>.slice (if mx=lo then a else a.map (·.add (lo*k))) (hi-lo) (mx-lo)
 |_=>undef
section
variable {P:Program}{n:Nat}{w0:World}{h0:Mem}{e:List (Nat×Value)}{L:List Res}{h:Mem}{Q:Exit->Act->World->Prop}
variable {ds:Option Tmp}{ty:TypeId}{ps:String}{af:Array Edge}{gd:Option (Nat×Bool)}
theorem Sl.sub3{h:Mem}{k:Nat}{v:Value}{m:Nat}{cs:List Value}(s:Sl h k v m cs){lo hi mx:Nat}(h1:lo<=hi)(h2:hi<=mx)(h3:mx<=m):Sl h k (gR k v lo hi mx) (hi-lo) ((cs.drop (lo*k)).take ((hi-lo)*k)):=by
 obtain⟨a,Z,rfl,h4,h5,U,O⟩:=s;refine⟨_,_,I,by omega,by omega,?_,λi H=>?_⟩
 · rw[zei,zhe,U]
   have:=zfu k (show lo+(hi-lo)<=m by omega);rw[z2u] at this;omega
 · rw[zei,zhe] at H
   have D:i<(hi-lo)*k:=by omega
   have C:0<(hi-lo)*k:=by omega
   have G:lo<hi:=by
    rcases zve lo hi with h'|h'
    · exact h'
    · rw[show hi-lo=0 by omega,zvu] at C;omega
   obtain⟨b,o,M,J⟩:=O (lo*k+i) zos;subst M;refine⟨b,o+lo*k,by rw[zae zos];simp[kA],?_⟩;rw[zmu,zau D,zxi,<-J,z3u]
theorem Us.sub3{k:IntKind}{h:Mem}{v:Value}{xs:List Nat}(s:Us k h v xs){lo hi mx:Nat}(h1:lo<=hi)(h2:hi<=mx)(h3:mx<=xs.length):Us k h (gR 1 v lo hi mx) ((xs.drop lo).take (hi-lo)):=by
 have:=s.sl.sub3 h1 h2 h3;simp only[z9u] at this;refine⟨?_,λx hx=>s.lt x (z5e (zwe hx))⟩;have C:((xs.drop lo).take (hi-lo)).length=hi-lo:=by rw[zei,zhe];omega
 rw[C]
 simpa[us] using this
theorem St.own_shape{E:Nat}{k:IntKind}{v:Value}{xs:List Nat}{w:World}(S:St w0 h0 L h w)(hm:.us E k v xs∈L):∃a cap,v=.slice a xs.length cap/\xs.length<=cap/\cap<=maxLen/\(0<xs.length->∃g,a=some ⟨g,0,none⟩):=by
 obtain⟨D,C⟩:=S.ok _ hm
 rcases C with⟨rfl,h0'⟩|⟨g,cap,cur,rfl,hb,hg,hn,hcm,hcs,ht⟩
 · exact⟨none,0,by rw[h0'],by omega,by omega,λh=>by omega⟩
 · exact⟨_,cap,I,hn,hcm,λ_=>⟨g,I⟩⟩
theorem St.own_self{E:Nat}{k:IntKind}{v:Value}{xs:List Nat}{w:World}(S:St w0 h0 L h w)(hm:.us E k v xs∈L):v=tD 1 v 0 xs.length:=by
 obtain⟨a,C,rfl,h1,h2,h3⟩:=S.own_shape hm;simp only[tD,zvu,ylu]
 by_cases hc:C=0
 · rw[zau hc]
 · rw[zae hc]
   cases a with
   |none=>rfl
   |some x=>
    obtain⟨b,o,D⟩:=x;simp[Addr.add]
theorem zFO{E:Nat}{k:IntKind}{v:Value}{xs:List Nat}{t E':TypeId}{x lo:Operand}{p:Int}(hm:.us E k v xs∈L)(i:Nat)(ht:P.underlying t=some (.slice E'))(hsz:∀w,(Go.sizeOf E').run P w=.ok 1 w)(hx:zM e x=some v)(hl:zM e lo=some (vI p))
    (hp:p=(i:Int))(h1:i<=xs.length):OpV P n w0 h0 ⟨ds,.slice t x (some lo) none none,ty,ps,af,gd⟩ e L h (tD 1 v i xs.length):=by
 intro a w J S;obtain⟨H,C,D,G,_⟩:=S.own_shape hm;exact jG i ht hsz hx hl ⟨H,C,D,G⟩ hp h1 a w J S
theorem zOG{t E:TypeId}{w:World}(ht:P.underlying t=some (.slice E))(hsz:∀w,(Go.sizeOf E).run P w=.ok 1 w)(a:Option Addr)(m cap lo hi mx:Nat)(h1:lo<=hi)(h2:hi<=mx)(h3:mx<=cap):
 (Instr.sliceAt t (.slice a m cap) (some (vI lo)) (some (vI hi)) (some (vI mx))).run P w=.ok (gR 1 (.slice a m cap) lo hi mx) w:=by
 simp[Instr.sliceAt,Instr.slice,run_underlying ht,Instr.sliceBounds,Instr.sliceBound,asIntOf,vI,hsz,gR,h1,h2,h3]
theorem zLO{t E:TypeId}{w:World}(ht:P.underlying t=some (.slice E))(hsz:∀w,(Go.sizeOf E).run P w=.ok 1 w)(a:Option Addr)(m cap hi mx:Nat)(h2:hi<=mx)(h3:mx<=cap):
 (Instr.sliceAt t (.slice a m cap) none (some (vI hi)) (some (vI mx))).run P w=.ok (gR 1 (.slice a m cap) 0 hi mx) w:=by
 simp[Instr.sliceAt,Instr.slice,run_underlying ht,Instr.sliceBounds,Instr.sliceBound,asIntOf,vI,hsz,gR,h2,h3]
theorem zHG{E:Nat}{k:IntKind}{v:Value}{xs:List Nat}{t E':TypeId}{x lo hi mx:Operand}{p q r:Int}(hm:.us E k v xs∈L)(i j l:Nat)(ht:P.underlying t=some (.slice E'))(hsz:∀w,(Go.sizeOf E').run P w=.ok 1 w)(hx:zM e x=some v)(hl:zM e lo=some (vI p))(hh:zM e hi=some (vI q))(hmx:zM e mx=some (vI r))
    (hp:p=(i:Int))(hq:q=(j:Int))(hr:r=(l:Int))(h1:i<=j)(h2:j<=l)(h3:l<=xs.length):OpV P n w0 h0 ⟨ds,.slice t x (some lo) (some hi) (some mx),ty,ps,af,gd⟩ e L h (gR 1 v i j l):=by
 subst hp;subst hq;subst hr;intro a w C S;obtain⟨G,D,rfl,H,_⟩:=S.own_shape hm;have:=zOG (P:=P) (w:=w) ht hsz G xs.length D i j l h1 h2 zos;simp[execOp,C.eval hx,C.eval hl,C.eval hh,C.eval hmx,this]
theorem zFP{E:Nat}{k:IntKind}{v:Value}{xs:List Nat}{t E':TypeId}{x hi mx:Operand}{q r:Int}(hm:.us E k v xs∈L)(j l:Nat)(ht:P.underlying t=some (.slice E'))(hsz:∀w,(Go.sizeOf E').run P w=.ok 1 w)(hx:zM e x=some v)(hh:zM e hi=some (vI q))(hmx:zM e mx=some (vI r))
    (hq:q=(j:Int))(hr:r=(l:Int))(h2:j<=l)(h3:l<=xs.length):OpV P n w0 h0 ⟨ds,.slice t x none (some hi) (some mx),ty,ps,af,gd⟩ e L h (gR 1 v 0 j l):=by
 subst hq;subst hr;intro a w D S;obtain⟨G,C,rfl,H,_⟩:=S.own_shape hm;have:=zLO (P:=P) (w:=w) ht hsz G xs.length C j l h2 zos;simp[execOp,D.eval hx,D.eval hh,D.eval hmx,this]
theorem j6{E:Nat}{k:IntKind}{v u:Value}{xs:List Nat}{t E':TypeId}{x y:Operand}{q:Int}{lo:Nat}(hm:.us E k v xs∈L)(hu:u=tD 1 v lo xs.length)(i:Nat)(ht:P.underlying t=some (.slice E'))(hsz:∀w,(Go.sizeOf E').run P w=.ok 1 w)(hx:zM e x=some u)(hy:zM e y=some (vI q))
    (hq:q=(i:Int))(hi:lo+i<xs.length):OpV P n w0 h0 ⟨ds,.indexAddr t x y,ty,ps,af,gd⟩ e L h (zI 1 v (lo+i)):=by
 subst hq;subst hu;intro a w G S;obtain⟨U,D,rfl,O,M,J⟩:=S.own_shape hm;obtain⟨g,rfl⟩:=J zos;have C:¬D=lo:=by omega
 have h2:(i:Int)<((xs.length-lo:Nat):Int):=by omega
 have h3:(0:Int)<=(i:Int):=by omega
 simp only[tD,zae C,ypi,kA,z9u,zvi] at hx;simp[execOp,G.eval hx,G.eval hy,Instr.indexAt,asIntOf,vI,run_underlying ht,h2,h3,hsz,zI,kA];intro H;omega
theorem zX4{ops:Array Oper}{l:List Oper}{E:Nat}{k:IntKind}{v:Value}{xs:List Nat}(hm:.us E k v xs∈L)(k':∀a cap,v=.slice a xs.length cap->xs.length<=cap->GL P n w0 h0 ops Q l e L h):GL P n w0 h0 ops Q l e L h:=by
 intro a w H S;obtain⟨G,cap,C,D,_⟩:=S.own_shape hm;exact k' G cap C D a w H S
theorem zM4{ops:Array Oper}{l:List Oper}{A B:List Res}{r:Res}(k':GL P n w0 h0 ops Q l e (r::(A++B)) h):GL P n w0 h0 ops Q l e (A++r::B) h:=
 λa w Ev S=>k' a w Ev (S.perm yne)
theorem zWH{f:Nat}{xs:List Operand}{ts:Array TypeId}{vs:List Value}{v:Value}(hcall:∀w,(callFunc f vs.toArray).run P w=.ok (.value v) w)(hvs:aC e xs vs):
 OpV P n w0 h0 ⟨ds,.call {callee:=.value (.func f),args:=xs.toArray,argTypes:=ts},ty,ps,af,gd⟩ e L h v:=by
 intro a w D S;have C:xs.toArray.map a.eval=vs.toArray:=by rw[z0u,D.evals hvs]
 simp only[execOp,resolve,Act.eval];simp[Deferred.ofValue,invoke,hcall,C]
theorem jT.nil{ops:Array Oper}:jT P n ops []:=λx hx=>by cases hx
theorem jT.cons{ops:Array Oper}{i d E:Nat}{cs:List Value}{al:Als}(hop:(ops.getD i default).op=.alloc E)(hd:Nat.ble (d+1) n=true)(hz:∀w,∃z,(zeroValue E).run P w=.ok z w/\z.cells=cs.toArray)(h:jT P n ops al):jT P n ops ((i,(d,E,cs))::al):=by
 intro x hx
 rcases zfi.1 hx with rfl|hx
 · refine⟨zce hd,λa w=>?_,λH G=>?_⟩
   · obtain⟨z,D,C⟩:=hz w
     simp only[execOp,hop,Instr.alloc,zK5,zTV];simp[D,newVar,newRow,newObj,Sem.run,C]
   · simp only[hop,zTV] at G
     cases G
 · exact h x hx
theorem uX{E:TypeId}{i:TypeInfo}{z:Value}{cs:List Value}(hi:P.info? E=some i)(hz:i.zero=some z)(hc:z.cells=cs.toArray)(w:World):∃z,(zeroValue E).run P w=.ok z w/\z.cells=cs.toArray:=
 ⟨z,by simp[zeroValue,typeInfo,hi,hz],hc⟩
theorem kO{e:List (Nat×Value)}{al:Als}:∀x∈([]:Als),al.lookup x.1=some x.2/\e.lookup x.2.1=none:=λx hx=>by cases hx
theorem qA{e:List (Nat×Value)}{al al':Als}{y:Nat×(Nat×TypeId×List Value)}(h1:al.lookup y.1=some y.2)(h2:e.lookup y.2.1=none)(h:∀x∈al',al.lookup x.1=some x.2/\e.lookup x.2.1=none):∀x∈y::al',al.lookup x.1=some x.2/\e.lookup x.2.1=none:=by
 intro x hx
 rcases zfi.1 hx with rfl|hx
 · exact⟨h1,h2⟩
 · exact h x hx
end
end Bk
namespace Bk
open Go Go.RowKit
open Classical
def yDF(h:Mem):List Value->List Rat->Prop
  |cs,[]=>cs=[]
  |cs,q::qs=>∃vn vd rest,cs=vB (q.num<0)::vn::vd::rest/\Us .u32 h vn (zB q.num.natAbs)/\Us .u32 h vd (zB (wM q.den))/\yDF h rest qs
def zK1(h:Mem)(v:Value)(qs:List Rat):Prop:=∃cs,v=.agg cs.toArray/\yDF h cs qs
section
variable {P:Program}{n:Nat}{w0:World}{h0:Mem}{e:List (Nat×Value)}{L:List Res}{h:Mem}{Q:Exit->Act->World->Prop}
variable {ds:Option Tmp}{ty:TypeId}{ps:String}{af:Array Edge}{gd:Option (Nat×Bool)}
def zNU(P:Program)(c:Code)(Q:Exit->Act->World->Prop)(a:Act)(w:World):Prop:=
 ∀(b:Frame) (k:List Item) (cs:List Frame),∃x a' w',Q x a' w'/\Arrives P (lone (b.at a (.code c::.inLoop c::k)) cs w) b k cs x a' w'
theorem zMU{c:Code}{a:Act}{w:World}(hw:c.wp P (Exit.then (zNU P c Q) Q) a w):zNU P c Q a w:=by
 intro b k cs;obtain⟨x,J,H,G,C⟩:=hw b (.inLoop c::k) cs
 cases x with
 |normal=>
  obtain⟨O,Z,U,M,D⟩:=G b k cs;exact⟨O,Z,U,M,.of_steps (Steps.trans C (.one step_inLoop)) D⟩
 |exit id=>exact⟨_,J,H,G,.pass (x:=.inLoop c) rfl (λ_ _=>.inl zo1) C⟩
 |goto l=>exact⟨_,J,H,G,.pass (x:=.inLoop c) rfl (λ_ _=>.inl zo1) C⟩
 |ret=>exact⟨_,J,H,G,.pass (x:=.inLoop c) rfl (λ_ _=>.inl zo1) C⟩
 |panic ch=>exact⟨_,J,H,G,.pass (x:=.inLoop c) rfl (λ_ _=>.inl zo1) C⟩
 |outgrown=>exact⟨_,J,H,G,.pass (x:=.inLoop c) rfl (λ_ _=>.inl zo1) C⟩
theorem gN{c:Code}(k:GC P n w0 h0 c (Exit.then (zNU P c Q) Q) e L h):GC P n w0 h0 (.loop c) Q e L h:=by
 intro a w E S b G cs;obtain⟨x,J,D,H,C⟩:=zMU (k a w E S) b G cs;exact⟨x,J,D,H,.of_steps (.one step_loop) C⟩
theorem xM{c:Code}(k:GC P n w0 h0 c (Exit.then (zNU P c Q) Q) e L h):GQ n w0 h0 (Exit.then (zNU P c Q) Q) .normal e L h:=
 λa w E S=>zMU (k a w E S)
theorem OpV.cv{o:Oper}{v v':Value}(hv:OpV P n w0 h0 o e L h v)(e':v=v'):OpV P n w0 h0 o e L h v':=e'▸hv
end
end Bk
namespace Bk
open Go Go.RowKit
section
variable {P:Program}{n:Nat}{w0:World}{h0:Mem}{e:List (Nat×Value)}{L:List Res}{h:Mem}
variable {ds:Option Tmp}{ty:TypeId}{ps:String}{af:Array Edge}{gd:Option (Nat×Bool)}
theorem sP{x:Operand}{b k:Nat}(hx:zM e x=some (vP b k)):OpV P n w0 h0 ⟨ds,.nilCheck x,ty,ps,af,gd⟩ e L h (vP b k):=by
 intro a w C S;simp[execOp,C.eval hx]
theorem zP{t E:TypeId}{x y:Operand}{b k m sz:Nat}{q:Int}(i:Nat)(ht:P.underlying t=some (.array m E))(hsz:∀w,(Go.sizeOf E).run P w=.ok sz w)(hx:zM e x=some (vP b k))(hy:zM e y=some (vI q))(hq:q=(i:Int))(hi:i<m):
 OpV P n w0 h0 ⟨ds,.indexAddr t x y,ty,ps,af,gd⟩ e L h (vP b (k+i*sz)):=by
 subst hq;intro a w C S;simp[execOp,C.eval hx,C.eval hy,Instr.indexAt,vI,asIntOf,run_underlying ht,hsz,Instr.sureAddr,hi,kA]
theorem zJV{t E:TypeId}{m sz:Nat}{i:TypeInfo}{z:Value}{parts:List (Nat×Operand)}{ps':List (Nat×Value)}{vs:List Value}(ht:P.underlying t=some (.array m E))(hi:P.info? t=some i)(hz:i.zero=some z)
    (hsz:∀w,(Go.sizeOf E).run P w=.ok sz w)(hp:eU e parts ps')(hf:Instr.fill (λi=>some (i*sz,sz)) z.cells ps'=some vs.toArray):
    OpV P n w0 h0 ⟨ds,.build t parts.toArray,ty,ps,af,gd⟩ e L h (.agg vs.toArray):=by
 intro a w G S;have D:(parts.toArray.map λ(p:Nat×Operand)=>(p.1,a.eval p.2)).toList=ps':=by
  rw[z0u];exact hp.eval G
 have C:(zeroValue t).run P w=.ok z w:=by simp[zeroValue,typeInfo,hi,hz]
 simp only[execOp,Instr.build];rw[show(parts.toArray.map λ(i,x)=>(i,a.eval x)).toList=ps' from D];simp only[Sem.run_bind,C,Result.andThen_ok,run_underlying ht,hsz,hf]
 rfl
end
theorem zTX{x:Int}(h:(Lit.int .i64 x).wf=true):-9223372036854775808<=x/\x<9223372036854775808:=by
 simp only[Lit.wf,zbu,zhi] at h;simp[IntKind.min,IntKind.max,IntKind.signed,IntKind.bits] at h;omega
theorem zI3{xs:List Nat}(h:∀x∈xs,x<256):byt (qW xs)=xs:=by
 simp only[byt,qW,yuu]
 conv=>rhs;rw[<-List.map_id xs]
 refine yhi λx hx=>?_;simp only[Function.comp,id];exact zoh (h x hx)
end Bk
namespace Bk
open Go Go.RowKit
open Classical
structure Is(h:Mem)(v:Value)(xs:List Int):Prop where
 sl:Sl h 1 v xs.length (xs.map vI)
 rng:∀x∈xs,-9223372036854775808<=x/\x<9223372036854775808
theorem Is.mono{h h':Mem}{v:Value}{xs:List Int}(s:Is h v xs)(hh:MLe h h'):Is h' v xs:=⟨s.sl.mono hh,s.rng⟩
theorem Is.nil(h:Mem):Is h (.slice none 0 0) []:=⟨Sl.nil h 1,by simp⟩
theorem Is.one{h:Mem}{v:Value}{xs:List Int}(s:Is h v xs):∃a cap,v=.slice a xs.length cap:=s.sl.one
theorem Is.lt63{h:Mem}{v:Value}{xs:List Int}(s:Is h v xs):xs.length<9223372036854775808:=s.sl.lt63
theorem Is.cells{h:Mem}{v:Value}{xs:List Int}(s:Is h v xs):v.cells=[v].toArray:=by
 obtain⟨a,C,rfl⟩:=s.one
 rfl
theorem is_of_row{w:World}{a:Option Addr}{len cap:Nat}{zs:List Int}
    (h:(a=none/\len=0/\cap=0/\zs=[])\/∃x,a=some x/\len<=cap/\cap<=maxLen/\zs.length=cap/\(∀i,i<zs.length->w.cell? (x.add i)=some (.int .i64 (zs.getD i 0)))/\∀n∈zs,(Lit.int .i64 n).wf=true):
    ∃xs:List Int,Is (mem w) (.slice a len cap) xs:=by
 rcases h with⟨rfl,rfl,rfl,rfl⟩|⟨x,rfl,h1,h2,h3,h4,h5⟩
 · exact⟨[],Is.nil _⟩
 · refine⟨zs.take len,⟨?_,?_⟩⟩
   · have J:(zs.take len).length=len:=by simp;omega
     rw[J];refine⟨_,cap,I,h1,h2,by simp;omega,λi hi=>?_⟩;have D:i<len:=by simp at hi;omega
     have G:=h4 i zos;have C:(x.add 0).spot=none:=World.cell?_spot (h4 0 zos);obtain⟨b,o,M⟩:=x;simp[Addr.add] at C;subst C;refine⟨b,o,I,?_⟩;rw[kA] at G;rw[zHP G,zwi,zmu,zau D,zoc zos];rw[zoa,zoc zos]
     rfl
   · intro n H
     exact zTX (h5 n (zwe H))
section
variable {P:Program}{n:Nat}{w0:World}{h0:Mem}{e:List (Nat×Value)}{L:List Res}{h:Mem}{Q:Exit->Act->World->Prop}
variable {ds:Option Tmp}{ty:TypeId}{ps:String}{af:Array Edge}{gd:Option (Nat×Bool)}
theorem zH8{v:Value}{xs:List Int}{t E:TypeId}{x:Operand}(ht:P.underlying t=some (.slice E))(hx:zM e x=some v)(hv:Is h v xs):
 OpV P n w0 h0 ⟨ds,.call {callee:=.builtin .len,args:=#[x],argTypes:=#[t]},ty,ps,af,gd⟩ e L h (vI (xs.length:Int)):=mK ht hx hv.one
theorem zL1{v:Value}{xs:List Int}{t E:TypeId}{x y:Operand}{q:Int}(i:Nat)(ht:P.underlying t=some (.slice E))(hsz:∀w,(Go.sizeOf E).run P w=.ok 1 w)(hx:zM e x=some v)(hy:zM e y=some (vI q))
    (hv:Is h v xs)(hq:q=(i:Int))(hi:i<xs.length):OpV P n w0 h0 ⟨ds,.indexAddr t x y,ty,ps,af,gd⟩ e L h (zI 1 v i):=iU i ht hsz hx hy hv.sl hq hi zos
theorem zOY{v:Value}{xs:List Int}{t:TypeId}{x:Operand}{i:Nat}(ha:∀w,(isAgg t).run P w=.ok false w)(hx:zM e x=some (zI 1 v i))(hv:Is h v xs)(hi:i<xs.length):
 OpV P n w0 h0 ⟨ds,.load t x,ty,ps,af,gd⟩ e L h (vI (xs.getD i 0)):=
 zFR ha hx hv.sl (by rw[zwi,zoc hi,zoa,zoc hi];rfl)
theorem zS9{t yt:TypeId}{x y:Operand}{p q:Int}(hx:zM e x=some (vI p))(hy:zM e y=some (vI q))(h3:0<q):
 OpV P n w0 h0 ⟨ds,.binOp .rem t x y yt,ty,ps,af,gd⟩ e L h (vI (p.tmod q)):=by
 intro a w E S;have C:q≠0:=by omega
 simp[execOp,E.eval hx,E.eval hy,vI,xQ,binOp,Op.intDiv,C]
end
def bC(w0:World)(h0:Mem)(h:Mem)(L:List Res)(G:Mem->Value->Res->Prop):Ending->World->Prop:=
 rA w0 h0 (λg v K=>∃q',(q'::L).Sublist K/\MLe h g/\G g v q')
section
variable {P:Program}{n:Nat}{w0:World}{h0:Mem}{e:List (Nat×Value)}{L:List Res}{h:Mem}{Q:Exit->Act->World->Prop}
variable {ty:TypeId}{ps:String}{af:Array Edge}
theorem yL{ops:Array Oper}{rest:List Oper}{d f:Nat}{xs:List Operand}{ts:Array TypeId}{vs:List Value}{A B:List Res}{q:Res}{G:Mem->Value->Res->Prop}(hcall:∀args w,(callFunc f args).run P w=.ok (.enter f args) w)(hvs:aC e xs vs)
    (hc:∀X w,St w0 h0 (q::X) h w->Calls P f vs.toArray w (bC w0 h0 h X G))(hn:Nat.ble (d+1) n=true)(k:∀v g q',MLe h g->G g v q'->GL P n w0 h0 ops Q rest ((d,v)::e) (A++q'::B) g):
    GL P n w0 h0 ops Q (⟨some d,.call {callee:=.value (.func f),args:=xs.toArray,argTypes:=ts},ty,ps,af,none⟩::rest) e (A++q::B) h:=by
 refine zM4 ?_;refine dL I I I hn hcall hvs (hc (A++B)) ?_
 rintro v g K ⟨q',D,C,H⟩
 have:=k v g q' C H;exactλa w J S=>this a w J ((S.sublist D).perm yne.symm)
section
variable {ops:Array Oper}{R:List Res}{d:Nat}
theorem zMQ{A B:List Res}{q:Res}:∀r∈A++B,r∈A++q::B:=by
 intro r C;simp only[zpi,zfi] at C ⊢
 rcases C with h|h
 · exact .inl h
 · exact .inr (.inr h)
theorem jS{Q:Exit->Act->World->Prop}{id:Nat}{l:List Oper}{A B:List Res}{q:Res}(m:Nat)(al:Als)(ord:List (Nat×Kd))(hm:P.follows .mixedOrders=true)(hal:jT P n l.toArray al)
    (hchk:(Region.noSelect l.toArray&&cK l.toArray al&&(al.all λx=>decide (x.1<m))&&chk l.toArray m ord (Array.replicate l.length false) (al.map (·.1)))=true)(hae:∀x∈al,al.lookup x.1=some x.2/\e.lookup x.2.1=none)
    (k:W P n w0 h0 l.toArray Q (A++B) al ord e (A++q::B) h):GC P n w0 h0 (.region id l.toArray true) Q e (A++q::B) h:=zK m (A++B) al ord hm hal hchk hae zMQ k
theorem wA{R A B:List Res}{q:Res}(hR:∀r∈R,r∈A++B):∀r∈R,∀q',r∈A++q::B->r∈A++q'::B:=λr hr q' _=>zMQ r (hR r hr)
end
end
def zTN(p q:Int):Int:=if p.tmod q<0 then p.tmod q+q else p.tmod q
theorem zE6(p:Int){q:Int}(hq:0<q):-q<p.tmod q/\p.tmod q<q:=by
 have h1:=Int.tmod_lt_of_pos p hq;have h2:=Int.tmod_lt_of_pos (-p) hq;rw[Int.neg_tmod] at h2;omega
theorem zPO(p:Int){q:Int}(hq:0<q):0<=zTN p q/\zTN p q<q:=by
 have:=zE6 p hq;unfold zTN
 split<;>omega
theorem zUC{v:Value}(h:v.oneCell'=true):v.cells=#[v]:=by cases v<;>simp[Value.oneCell'] at h<;>rfl
structure Rp(α:Type) where
 n:Nat
 agg:Bool
 R:Mem->List Value->α->Prop
 len:∀{h cs x},R h cs x->cs.length=n
 mono:∀{h h' cs x},MLe h h'->R h cs x->R h' cs x
 one:∀{h cs x},R h cs x->cs.all (·.oneCell')=true
 cell:agg=false->n=1
section
variable {α β γ δ:Type}
def Rp.val(ρ:Rp α)(cs:List Value):Value:=if ρ.agg then .agg cs.toArray else cs.headD undef
def Rp.Is(ρ:Rp α)(h:Mem)(v:Value)(x:α):Prop:=∃cs,ρ.R h cs x/\v=ρ.val cs
theorem Rp.Is.mono{ρ:Rp α}{h h':Mem}{v:Value}{x:α}(s:ρ.Is h v x)(hh:MLe h h'):ρ.Is h' v x:=by
 obtain⟨cs,r,e⟩:=s;exact⟨cs,ρ.mono hh r,e⟩
theorem Rp.single{ρ:Rp α}{h:Mem}{cs:List Value}{x:α}(r:ρ.R h cs x)(ha:ρ.agg=false):∃c,cs=[c]/\c.oneCell'=true:=by
 have h1:=ρ.len r;have h2:=ρ.one r;rw[ρ.cell ha] at h1
 match cs,h1 with
 |[c],_=>exact⟨c,rfl,by simpa using h2⟩
theorem Rp.cells_val{ρ:Rp α}{h:Mem}{cs:List Value}{x:α}(r:ρ.R h cs x):(ρ.val cs).cells=cs.toArray:=by
 unfold Rp.val
 split
 · rfl
 · rename_i ha
   obtain⟨c,rfl,C⟩:=Rp.single r (by simpa using ha);exact zUC C
theorem Rp.Is.cells{ρ:Rp α}{h:Mem}{v:Value}{x:α}(s:ρ.Is h v x):∃cs,ρ.R h cs x/\v.cells=cs.toArray:=by
 obtain⟨cs,r,rfl⟩:=s;exact⟨cs,r,Rp.cells_val r⟩
theorem Rp.Is.cast{ρ:Rp α}{h:Mem}{v:Value}{x y:α}(s:ρ.Is h v x)(e:x=y):ρ.Is h v y:=e▸s
def RL(ρ:Rp α)(h:Mem):List Value->List α->Prop
  |cs,[]=>cs=[]
  |cs,x::xs=>∃a b,cs=a++b/\ρ.R h a x/\RL ρ h b xs
theorem RL.len{ρ:Rp α}{h:Mem}:∀{xs:List α} {cs:List Value},RL ρ h cs xs->cs.length=xs.length*ρ.n
  |[],_,r=>by rw[r];simp
  |x::xs,_,⟨a,b,e,r,s⟩=>by rw[e,lAz,ρ.len r,s.len,lC,z2u];omega
theorem RL.mono{ρ:Rp α}{h h':Mem}(hh:MLe h h'):∀{xs:List α} {cs:List Value},RL ρ h cs xs->RL ρ h' cs xs
  |[],_,r=>r
  |_::_,_,⟨a,b,e,r,s⟩=>⟨a,b,e,ρ.mono hh r,s.mono hh⟩
theorem RL.one{ρ:Rp α}{h:Mem}:∀{xs:List α} {cs:List Value},RL ρ h cs xs->cs.all (·.oneCell')=true
  |[],_,r=>by rw[r];rfl
  |_::_,_,⟨a,b,e,r,s⟩=>by rw[e,List.all_append,ρ.one r,s.one];rfl
theorem RL.append{ρ:Rp α}{h:Mem}:∀{xs ys:List α} {cs ds:List Value},RL ρ h cs xs->RL ρ h ds ys->RL ρ h (cs++ds) (xs++ys)
  |[],_,_,_,r,s=>by rw[r];exact s
  |_::_,_,_,_,⟨a,b,e,r,s⟩,t=>⟨a,_,by rw[e,zhu],r,s.append t⟩
theorem RL.nil{ρ:Rp α}{h:Mem}:RL ρ h [] []:=rfl
theorem RL.drop{ρ:Rp α}{h:Mem}:∀{xs:List α} {cs:List Value} (i:Nat),RL ρ h cs xs->RL ρ h (cs.drop (i*ρ.n)) (xs.drop i)
  |_,_,0,r=>by simpa using r
  |[],_,i+1,r=>by rw[r];simp[RL]
  |_::xs,_,i+1,⟨a,b,e,r,s⟩=>by
   rw[e,show(i+1)*ρ.n=a.length+i*ρ.n by rw[ρ.len r,z2u];omega,<-z9i,yyi];exact s.drop i
theorem RL.take{ρ:Rp α}{h:Mem}:∀{xs:List α} {cs:List Value} (i:Nat),RL ρ h cs xs->RL ρ h (cs.take (i*ρ.n)) (xs.take i)
  |_,_,0,r=>by simp[RL]
  |[],_,i+1,r=>by rw[r];simp[RL]
  |_::xs,_,i+1,⟨a,b,e,r,s⟩=>by
   rw[e,show(i+1)*ρ.n=a.length+i*ρ.n by rw[ρ.len r,z2u];omega,yni];exact⟨a,_,rfl,r,s.take i⟩
theorem RL.get{ρ:Rp α}{h:Mem}{xs:List α}{cs:List Value}{i:Nat}{x:α}(r:RL ρ h cs xs)(hx:xs[i]?=some x):ρ.R h ((cs.drop (i*ρ.n)).take ρ.n) x:=by
 have h1:=r.drop i;obtain⟨hi,e⟩:=zwu.1 hx;rw[z3e hi,e] at h1;obtain⟨a,b,D,C,_⟩:=h1;rw[D,<-ρ.len C,List.take_left];exact C
theorem RL.set{ρ:Rp α}{h:Mem}{xs:List α}{cs ds:List Value}{i:Nat}{y:α}(r:RL ρ h cs xs)(hi:i<xs.length)(hd:ρ.R h ds y):RL ρ h (cs.take (i*ρ.n)++ds++cs.drop (i*ρ.n+ρ.n)) (xs.set i y):=by
 have h1:=r.take i;have h2:=r.drop (i+1);rw[z2u,yfi] at h2;rw[yfu,zau hi,zhu];exact h1.append ⟨ds,_,I,hd,h2⟩
def rpQ(k:Nat):Rp Rat where
 n:=3
 agg:=true
 R h cs q:=(∃vn vd,cs=[vB (q.num<0),vn,vd]/\Us .u32 h vn (zB q.num.natAbs)/\Us .u32 h vd (zB (wM q.den)))/\lq q<=k
 len:=by rintro h cs q ⟨⟨vn,vd,rfl,_⟩,_⟩;rfl
 mono:=by
  rintro h h' cs q hh ⟨⟨vn,vd,rfl,h1,h2⟩,h3⟩
  exact⟨⟨vn,vd,rfl,h1.mono hh,h2.mono hh⟩,h3⟩
 one:=by
  rintro h cs q ⟨⟨vn,vd,rfl,h1,h2⟩,h3⟩
  exact ocr rfl (ocu h1 (ocu h2 oc0))
 cell:=by simp
def rpI:Rp Int where
 n:=1
 agg:=false
 R _ cs z:=cs=[vI z]/\-9223372036854775808<=z/\z<9223372036854775808
 len:=by rintro h cs z ⟨rfl,_⟩;rfl
 mono:=λ_ r=>r
 one:=by rintro h cs z ⟨rfl,_⟩;rfl
 cell:=λ_=>rfl
def rpB:Rp Prop where
 n:=1
 agg:=false
 R _ cs p:=cs=[vB p]
 len:=by rintro h cs p rfl;rfl
 mono:=λ_ r=>r
 one:=by rintro h cs p rfl;rfl
 cell:=λ_=>rfl
def rpP(ρ:Rp α)(σ:Rp β):Rp (α×β) where
 n:=ρ.n+σ.n
 agg:=true
 R h cs x:=∃a b,cs=a++b/\ρ.R h a x.1/\σ.R h b x.2
 len:=by rintro h cs x ⟨a,b,rfl,h1,h2⟩;rw[lAz,ρ.len h1,σ.len h2]
 mono:=by rintro h h' cs x hh ⟨a,b,rfl,h1,h2⟩;exact⟨a,b,rfl,ρ.mono hh h1,σ.mono hh h2⟩
 one:=by rintro h cs x ⟨a,b,rfl,h1,h2⟩;rw[List.all_append,ρ.one h1,σ.one h2];rfl
 cell:=by simp
@[ext] structure T3(α:Type) where
 x:α
 y:α
 z:α
abbrev zT:T3 Rat:=T3.mk (0:Rat) 0 0
def T3.at(p:T3 α):Nat->α
  |0=>p.x
  |1=>p.y
  |_=>p.z
def T3.set(p:T3 α):Nat->α->T3 α
  |0,a=>⟨a,p.y,p.z⟩
  |1,a=>⟨p.x,a,p.z⟩
  |_,a=>⟨p.x,p.y,a⟩
def rpT(ρ:Rp α):Rp (T3 α) where
 n:=ρ.n+(ρ.n+ρ.n)
 agg:=true
 R h cs p:=(rpP ρ (rpP ρ ρ)).R h cs (p.x,p.y,p.z)
 len:=λr=>(rpP ρ (rpP ρ ρ)).len r
 mono:=λhh r=>(rpP ρ (rpP ρ ρ)).mono hh r
 one:=λr=>(rpP ρ (rpP ρ ρ)).one r
 cell:=by simp
def rpA(k:Nat)(ρ:Rp α):Rp (List α) where
 n:=k*ρ.n
 agg:=true
 R h cs xs:=xs.length=k/\RL ρ h cs xs
 len:=by rintro h cs xs ⟨rfl,r⟩;exact r.len
 mono:=λhh r=>⟨r.1,r.2.mono hh⟩
 one:=λr=>r.2.one
 cell:=by simp
def rpS(ρ:Rp α):Rp (List α) where
 n:=1
 agg:=false
 R h cs xs:=∃v ds,cs=[v]/\Sl h ρ.n v xs.length ds/\RL ρ h ds xs
 len:=by rintro h cs xs ⟨v,ds,rfl,_⟩;rfl
 mono:=by rintro h h' cs xs hh ⟨v,ds,rfl,h1,h2⟩;exact⟨v,ds,rfl,h1.mono hh,h2.mono hh⟩
 one:=by
  rintro h cs xs ⟨v,ds,rfl,h1,h2⟩
  obtain⟨a,cap,rfl⟩:=h1.one
  rfl
 cell:=λ_=>rfl
theorem wL{h:Mem}{z:Int}(h1:-9223372036854775808<=z)(h2:z<9223372036854775808):rpI.Is h (vI z) z:=⟨_,⟨rfl,h1,h2⟩,rfl⟩
theorem gJ{h:Mem}{v:Value}{z:Int}(s:rpI.Is h v z):v=vI z/\-9223372036854775808<=z/\z<9223372036854775808:=by
 obtain⟨cs,⟨rfl,h1,h2⟩,rfl⟩:=s;exact⟨I,h1,h2⟩
theorem is_b{h:Mem}(p:Prop):rpB.Is h (vB p) p:=⟨_,rfl,rfl⟩
theorem of_b{h:Mem}{v:Value}{p:Prop}(s:rpB.Is h v p):v=vB p:=by
 obtain⟨cs,rfl,rfl⟩:=s
 rfl
theorem mS{h:Mem}{v:Value}{q:Rat}{k:Nat}(s:vD h v q)(hk:lq q<=k):(rpQ k).Is h v q:=by
 obtain⟨C,D,rfl,h1,h2⟩:=s;exact⟨_,⟨⟨C,D,I,h1,h2⟩,hk⟩,I⟩
theorem yIP{h:Mem}{v:Value}{q:Rat}{k:Nat}(s:(rpQ k).Is h v q):vD h v q/\lq q<=k:=by
 obtain⟨cs,⟨⟨C,D,rfl,h1,h2⟩,G⟩,rfl⟩:=s;exact⟨⟨C,D,I,h1,h2⟩,G⟩
theorem qR{h:Mem}{v:Value}{q:Rat}{k:Nat}(s:(rpQ k).Is h v q):∃vn vd,v=.agg #[vB (q.num<0),vn,vd]/\Us .u32 h vn (zB q.num.natAbs)/\Us .u32 h vd (zB (wM q.den))/\lq q<=k:=by
 obtain⟨cs,⟨⟨vn,vd,rfl,h1,h2⟩,C⟩,rfl⟩:=s;exact⟨vn,vd,I,h1,h2,C⟩
theorem yBS{ρ:Rp α}{h:Mem}{v:Value}{xs:List α}{ds:List Value}(s:Sl h ρ.n v xs.length ds)(r:RL ρ h ds xs):(rpS ρ).Is h v xs:=⟨_,⟨v,ds,rfl,s,r⟩,rfl⟩
theorem zTC{ρ:Rp α}{h:Mem}{v:Value}{xs:List α}(s:(rpS ρ).Is h v xs):∃ds,Sl h ρ.n v xs.length ds/\RL ρ h ds xs:=by
 obtain⟨cs,⟨v,ds,rfl,h1,h2⟩,rfl⟩:=s;exact⟨ds,h1,h2⟩
theorem eA{ρ:Rp α}(h:Mem):(rpS ρ).Is h (.slice none 0 0) []:=yBS (Sl.nil h _) rfl
theorem yIH{ρ:Rp α}{h:Mem}{v:Value}{xs:List α}(s:(rpS ρ).Is h v xs):xs.length<9223372036854775808:=by
 obtain⟨ds,h1,_⟩:=zTC s;exact h1.lt63
theorem yIG{ρ:Rp α}{h:Mem}{v:Value}{xs:List α}(s:(rpS ρ).Is h v xs):∃a cap,v=.slice a xs.length cap:=by
 obtain⟨ds,h1,_⟩:=zTC s;exact h1.one
structure Le(ρ σ:Rp α):Prop where
 n:ρ.n=σ.n
 agg:ρ.agg=σ.agg
 R:∀{h cs x},ρ.R h cs x->σ.R h cs x
theorem Le.refl(ρ:Rp α):Le ρ ρ:=⟨rfl,rfl,id⟩
theorem Le.q{k l:Nat}(h:k<=l):Le (rpQ k) (rpQ l):=⟨rfl,rfl,λ⟨a,b⟩=>⟨a,zci b h⟩⟩
theorem Le.p{ρ ρ':Rp α}{σ σ':Rp β}(h:Le ρ ρ')(k:Le σ σ'):Le (rpP ρ σ) (rpP ρ' σ'):=⟨by show ρ.n+σ.n=ρ'.n+σ'.n;rw[h.n,k.n],rfl,λ⟨a,b,e,r,s⟩=>⟨a,b,e,h.R r,k.R s⟩⟩
theorem Le.t{ρ ρ':Rp α}(h:Le ρ ρ'):Le (rpT ρ) (rpT ρ'):=⟨by show ρ.n+(ρ.n+ρ.n)=ρ'.n+(ρ'.n+ρ'.n);rw[h.n],rfl,λr=>(Le.p h (Le.p h h)).R r⟩
theorem Le.rl{ρ ρ':Rp α}(h:Le ρ ρ'){m:Mem}:∀{xs:List α} {cs:List Value},RL ρ m cs xs->RL ρ' m cs xs
  |[],_,r=>r
  |_::_,_,⟨a,b,e,r,s⟩=>⟨a,b,e,h.R r,h.rl s⟩
theorem Le.s{ρ ρ':Rp α}(h:Le ρ ρ'):Le (rpS ρ) (rpS ρ'):=⟨rfl,rfl,λ⟨v,ds,e,s,r⟩=>⟨v,ds,e,h.n▸s,h.rl r⟩⟩
theorem Rp.Is.le{ρ σ:Rp α}{h:Mem}{v:Value}{x:α}(s:ρ.Is h v x)(k:Le ρ σ):σ.Is h v x:=by
 obtain⟨cs,r,rfl⟩:=s;exact⟨cs,k.R r,by unfold Rp.val;rw[k.agg]⟩
structure Pc(ρ:Rp α)(off:Nat)(σ:Rp β)(g:α->β)(s:α->β->α):Prop where
 fits:off+σ.n<=ρ.n
 get:∀{h cs x},ρ.R h cs x->σ.R h ((cs.drop off).take σ.n) (g x)
 set:∀{h cs x ds y},ρ.R h cs x->σ.R h ds y->ρ.R h (cs.take off++ds++cs.drop (off+σ.n)) (s x y)
theorem Pc.here(ρ:Rp α):Pc ρ 0 ρ (λx=>x) (λ_ y=>y):=by
 refine⟨by omega,λr=>?_,λ{h cs x ds y} r s=>?_⟩
 · have:=ρ.len r
   rw[ybu,<-this,zue];exact r
 · have:=ρ.len r
   rw[zvi,<-this,List.drop_length,ymu,zge,zli];exact s
theorem Pc.fst{ρ:Rp α}{σ:Rp β}{τ:Rp γ}{off:Nat}{g:α->γ}{s:α->γ->α}(p:Pc ρ off τ g s):Pc (rpP ρ σ) off τ (λx=>g x.1) (λx y=>(s x.1 y,x.2)):=by
 have J:=p.fits;refine⟨by show off+τ.n<=ρ.n+σ.n;omega,?_,?_⟩
 · rintro h cs x ⟨a,b,rfl,C,D⟩
   have H:=ρ.len C;have:=p.get C
   rwa [yli zos,yae (by rw[zhe];omega)]
 · rintro h cs x ds y ⟨a,b,rfl,C,D⟩ G
   have H:=ρ.len C;refine⟨_,b,?_,p.set C G,D⟩;rw[yae zos,yli zos];simp[zhu]
theorem Pc.snd{ρ:Rp α}{σ:Rp β}{τ:Rp γ}{off:Nat}{g:β->γ}{s:β->γ->β}(p:Pc σ off τ g s):Pc (rpP ρ σ) (ρ.n+off) τ (λx=>g x.2) (λx y=>(x.1,s x.2 y)):=by
 have J:=p.fits;refine⟨by show ρ.n+off+τ.n<=ρ.n+σ.n;omega,?_,?_⟩
 · rintro h cs x ⟨a,b,rfl,C,D⟩
   have G:=ρ.len C;have:=p.get D
   rwa [<-G,<-z9i,yyi]
 · rintro h cs x ds y ⟨a,b,rfl,C,D⟩ H
   have G:=ρ.len C;refine⟨a,_,?_,C,p.set D H⟩;rw[<-G,yni,z3u,<-z9i,yyi];simp[zhu]
theorem Pc.tx{ρ:Rp α}{τ:Rp γ}{off:Nat}{g:α->γ}{s:α->γ->α}(p:Pc ρ off τ g s):Pc (rpT ρ) off τ (λx=>g x.x) (λx y=>⟨s x.x y,x.y,x.z⟩):=by
 have q:Pc (rpP ρ (rpP ρ ρ)) off τ _ _:=p.fst;exact⟨q.fits,λr=>q.get r,λr d=>q.set r d⟩
theorem Pc.ty{ρ:Rp α}{τ:Rp γ}{off:Nat}{g:α->γ}{s:α->γ->α}(p:Pc ρ off τ g s):Pc (rpT ρ) (ρ.n+off) τ (λx=>g x.y) (λx y=>⟨x.x,s x.y y,x.z⟩):=by
 have q:Pc (rpP ρ (rpP ρ ρ)) (ρ.n+off) τ _ _:=(Pc.fst (σ:=ρ) p).snd;exact⟨q.fits,λr=>q.get r,λr d=>q.set r d⟩
theorem Pc.tz{ρ:Rp α}{τ:Rp γ}{off:Nat}{g:α->γ}{s:α->γ->α}(p:Pc ρ off τ g s):Pc (rpT ρ) (ρ.n+(ρ.n+off)) τ (λx=>g x.z) (λx y=>⟨x.x,x.y,s x.z y⟩):=by
 have q:Pc (rpP ρ (rpP ρ ρ)) (ρ.n+(ρ.n+off)) τ _ _:=(Pc.snd (ρ:=ρ) p).snd;exact⟨q.fits,λr=>q.get r,λr d=>q.set r d⟩
theorem Pc.ta{ρ:Rp α}{τ:Rp γ}{off:Nat}{g:α->γ}{s:α->γ->α}(p:Pc ρ off τ g s)(i:Nat)(hi:i<3):Pc (rpT ρ) (i*ρ.n+off) τ (λx=>g (x.at i)) (λx y=>x.set i (s (x.at i) y)):=by
 match i,hi with
 |0,_=>rw[zvu,zvi];exact p.tx
 |1,_=>rw[yfi];exact p.ty
 |2,_=>rw[show 2*ρ.n+off=ρ.n+(ρ.n+off) by omega];exact p.tz
theorem Pc.arr{ρ:Rp α}{τ:Rp γ}{off k:Nat}{g:α->γ}{s:α->γ->α}(p:Pc ρ off τ g s)(d:α)(i:Nat)(hi:i<k):Pc (rpA k ρ) (i*ρ.n+off) τ (λx=>g (x.getD i d)) (λx y=>x.set i (s (x.getD i d) y)):=by
 have U:=p.fits;have O:i*ρ.n+ρ.n<=k*ρ.n:=by rw[<-ygi];exact zfu _ hi
 have hx:∀{x:List α},x.length=k->x[i]?=some (x.getD i d):=by
  intro x C;rw[zoa,zoc zos];rfl
 refine⟨by show i*ρ.n+off+τ.n<=k*ρ.n;omega,?_,?_⟩
 · rintro h cs x ⟨C,r⟩
   have h1:=p.get (r.get (hx C));rw[List.drop_take,List.take_take,zre zos,z9i] at h1;exact h1
 · rintro h cs x ds y ⟨C,r⟩ G
   have H:=r.len;rw[C] at H;refine⟨by simpa using C,?_⟩;have h1:=r.set (i:=i) zos (p.set (r.get (hx C)) G);have e:cs.take (i*ρ.n)++(((cs.drop (i*ρ.n)).take ρ.n).take off++ds++((cs.drop (i*ρ.n)).take ρ.n).drop (off+τ.n))++cs.drop (i*ρ.n+ρ.n)=cs.take (i*ρ.n+off)++ds++cs.drop (i*ρ.n+off+τ.n):=by
    rw[List.take_take,zre zos,List.drop_take,z9i];have M:cs.take (i*ρ.n+off)=cs.take (i*ρ.n)++(cs.drop (i*ρ.n)).take off:=List.take_add;have J:cs.drop (i*ρ.n+off+τ.n)=(cs.drop (i*ρ.n+(off+τ.n))).take (ρ.n-(off+τ.n))++cs.drop (i*ρ.n+ρ.n):=by
     have D:=yei (ρ.n-(off+τ.n)) (cs.drop (i*ρ.n+(off+τ.n)));rw[z9i,show i*ρ.n+(off+τ.n)+(ρ.n-(off+τ.n))=i*ρ.n+ρ.n by omega] at D;rw[z3u (i*ρ.n)];exact D.symm
    rw[M,J];simp[zhu]
   rw[<-e];exact h1
theorem yE{k:Nat}{h:Mem}(hk:1<=k):(rpQ k).R h [.bool false,.slice none 0 0,.slice none 0 0] 0:=by
 refine⟨⟨_,_,?_,zDR h,zDS h⟩,by rw[cH];exact hk⟩;rw[yZ (show ¬(0:Rat).num<0 by decide)]
theorem wY{h:Mem}:rpI.R h [.int .i64 0] 0:=⟨rfl,by decide,by decide⟩
theorem zr_b{h:Mem}:rpB.R h [.bool false] False:=by show _=_;rw[yZ (p:=False) id]
theorem yF{ρ:Rp α}{σ:Rp β}{h:Mem}{a b:List Value}{x:α}{y:β}(r:ρ.R h a x)(s:σ.R h b y):(rpP ρ σ).R h (a++b) (x,y):=⟨a,b,rfl,r,s⟩
theorem yS{ρ:Rp α}{h:Mem}{a:List Value}{x:α}(r:ρ.R h a x):(rpT ρ).R h (a++(a++a)) ⟨x,x,x⟩:=⟨a,_,rfl,r,a,a,rfl,r,r⟩
theorem wD{ρ:Rp α}{h:Mem}:(rpS ρ).R h [.slice none 0 0] []:=⟨_,[],rfl,Sl.nil h _,rfl⟩
theorem yDH{ρ:Rp α}{h:Mem}{a:List Value}{x:α}(k:Nat)(r:ρ.R h a x):(rpA k ρ).R h (List.replicate k a).flatten (List.replicate k x):=by
 refine⟨yde,?_⟩
 induction k with
 |zero=>rfl
 |succ k ih=>rw[ygu,ygu];exact⟨a,_,I,r,ih⟩
end
structure TyOk(P:Program)(t:TypeId)(n:Nat)(agg:Bool):Prop where
 sz:∀w,(Go.sizeOf t).run P w=.ok n w
 ag:∀w,(isAgg t).run P w=.ok agg w
section
variable {α β γ:Type}
variable {P:Program}{n:Nat}{w0:World}{h0:Mem}{e:List (Nat×Value)}{L:List Res}{h:Mem}{Q:Exit->Act->World->Prop}
variable {ds:Option Tmp}{ty:TypeId}{ps:String}{af:Array Edge}{gd:Option (Nat×Bool)}
theorem zFL:∀(vs:List Value) (k:Nat) (cs:List Value),k+vs.length<=cs.length->j5 cs k vs=cs.take k++vs++cs.drop (k+vs.length):=by
 have key:∀(vs:List Value) (j k:Nat) (cs:List Value),k+j+vs.length<=cs.length->(vs.zipIdx j).foldl (λc p=>c.set (k+p.2) p.1) cs=cs.take (k+j)++vs++cs.drop (k+j+vs.length):=by
  intro vs
  induction vs with
  |nil=>intro j k cs hl;simp
  |cons v vs ih=>
   intro j k cs hl;simp only[lC] at hl;rw[yfe,zyu,ih (j+1) k _ (by rw[lS];omega)];rw[yfu,zau zos];have h1:(cs.take (k+j)).length=k+j:=by rw[zei];omega
   have e1:(cs.take (k+j)++v::cs.drop (k+j+1)).take (k+(j+1))=cs.take (k+j)++[v]:=by
    rw[show k+(j+1)=(cs.take (k+j)).length+1 by omega,yni];rfl
   have e2:(cs.take (k+j)++v::cs.drop (k+j+1)).drop (k+(j+1)+vs.length)=cs.drop (k+j+(vs.length+1)):=by
    rw[show k+(j+1)+vs.length=(cs.take (k+j)).length+(vs.length+1) by omega,<-z9i,yyi,List.drop_succ_cons,z9i]
    congr 1;omega
   rw[e1,e2];simp
 intro vs k cs hl;exact key vs 0 k cs zos
def OpX(P:Program)(n:Nat)(w0:World)(h0:Mem)(o:Oper)(e:List (Nat×Value))(R:List Res)(h:Mem)(F:Value->Prop):Prop:=
 ∃v,(∀L' h',MLe h h'->(∀r∈R,r∈L')->OpV P n w0 h0 o e L' h' v)/\F v
theorem zGQ{ops:Array Oper}{rest:List Oper}{d:Nat}{op:Op}{R:List Res}{F:Value->Prop}(hv:OpX P n w0 h0 ⟨some d,op,ty,ps,af,none⟩ e R h F)(hR:∀r∈R,r∈L)(hn:Nat.ble (d+1) n=true)
    (k:∀v,F v->GL P n w0 h0 ops Q rest ((d,v)::e) L h):GL P n w0 h0 ops Q (⟨some d,op,ty,ps,af,none⟩::rest) e L h:=by
 obtain⟨v,hv,C⟩:=hv;exact eE (hv L h (MLe.refl h) hR) I I hn (k v C)
section
variable {ops:Array Oper}{RR:List Res}{al:Als}{d i:Nat}{op:Op}{v:Value}{r:List (Nat×Kd)}{g t:Nat}{b:Bool}
theorem tA{R:List Res}{F:Value->Prop}(ho:ops.getD i default=⟨some d,op,ty,ps,af,none⟩)(hv:OpX P n w0 h0 ⟨some d,op,ty,ps,af,none⟩ e R h F)(hR:∀r∈R,r∈RR)(hn:Nat.ble (d+1) n=true)
    (k:∀v,F v->W P n w0 h0 ops Q RR al r ((d,v)::e) L h):W P n w0 h0 ops Q RR al ((i,.q)::r) e L h:=by
 obtain⟨v,hv,G⟩:=hv;exact w_q ho (λh' L' hh D=>hv L' h' hh λr C=>D r (hR r C)) hn (k v G)
theorem x_qx{K:List (Nat×Value)->List Res->Mem->Prop}{R:List Res}{F:Value->Prop}(ho:ops.getD i default=⟨some d,op,ty,ps,af,none⟩)(hv:OpX P n w0 h0 ⟨some d,op,ty,ps,af,none⟩ e R h F)(hR:∀r∈R,r∈RR)(hn:Nat.ble (d+1) n=true)
    (k:∀v,F v->K ((d,v)::e) L h):SQ P n w0 h0 ops RR i e L h K:=by
 obtain⟨v,hv,G⟩:=hv;exact x_q ho (λh' L' hh D=>hv L' h' hh λr C=>D r (hR r C)) hn (k v G)
theorem lV{R:List Res}{F:Value->Prop}(ho:ops.getD i default=⟨some d,op,ty,ps,af,some (g,b)⟩)(ht:(ops[g]?).bind (·.dst)=some t)(he:e.lookup t=some (.bool b))(hv:OpX P n w0 h0 ⟨some d,op,ty,ps,af,none⟩ e R h F)(hR:∀r∈R,r∈RR)(hn:Nat.ble (d+1) n=true)
    (k:∀v,F v->W P n w0 h0 ops Q RR al r ((d,v)::e) L h):W P n w0 h0 ops Q RR al ((i,.q)::r) e L h:=by
 obtain⟨v,hv,G⟩:=hv;exact xG ho ht he (λh' L' hh D=>hv L' h' hh λr C=>D r (hR r C)) hn (k v G)
theorem s_x{W':List (Nat×Value)->List Res->Mem->Prop}{R:List Res}{F:Value->Prop}(hv:OpX P n w0 h0 ⟨some d,op,ty,ps,af,none⟩ e R h F)(hR:∀r∈R,r∈L)(hn:Nat.ble (d+1) n=true)
    (k:∀v,F v->W' ((d,v)::e) L h):jW P n w0 h0 ops RR ⟨some d,op,ty,ps,af,none⟩ e L h W':=by
 obtain⟨v,hv,D⟩:=hv;exact zVH (λX=>hv (L++X) h (MLe.refl h) λr C=>z6u _ (hR r C)) hn (k v D)
end
theorem zAL{L:List Res}:∀r∈([]:List Res),r∈L:=λr hr=>by cases hr
theorem kH{L:List Res}{r:Res}(hr:r∈L):∀x∈[r],x∈L:=λx hx=>by cases hx with|head=>exact hr|tail _ h=>cases h
theorem zB2{t:TypeId}{σ:Rp β}{cs:List Value}{y:β}{w:World}{b o:Nat}(T:TyOk P t σ.n σ.agg)(r:σ.R h cs y)(hc:w.rangeAt b o cs):(Instr.loadAt t (vP b o)).run P w=.ok (σ.val cs) w:=by
 have C:=σ.len r;simp only[Instr.loadAt,Instr.sureAddr,loadVar,Sem.run_bind,T.ag,Result.andThen_ok,Sem.run_pure];unfold Rp.val
 cases ha:σ.agg with
 |true=>
  have D:(loadCells ⟨b,o,none⟩ cs.length).run P w=.ok cs.toArray w:=run_loadCells_list (P:=P) w ⟨b,o,none⟩ cs (λj v G=>by rw[Addr.add_mid];exact hc j v G);rw[C] at D;simp[Sem.run_bind,T.sz,D]
 |false=>
  obtain⟨c,rfl,_⟩:=Rp.single r ha;have:=hc 0 c I;simp only[zmi] at this;simp[Go.load,Sem.run,this]
theorem kG{t E:TypeId}{x:Operand}{b k off:Nat}{cs:List Value}{ρ:Rp α}{σ:Rp β}{g:α->β}{s:α->β->α}{X:α}{Z:β}(T:TyOk P t σ.n σ.agg)(pc:Pc ρ off σ g s)(ho:k=off)(hx:zM e x=some (vP b k))(r:ρ.R h cs X)(hZ:g X=Z):
 OpX P n w0 h0 ⟨ds,.load t x,ty,ps,af,gd⟩ e [.var b E cs] h (λu=>σ.Is h u Z):=by
 subst hZ;subst ho;have h1:=pc.get r;refine⟨_,λL' h' _ G a w H S=>?_,_,h1,I⟩;have C:w.heap[b]?=some (.cells cs.toArray E):=S.ok (.var b E cs) (G _ (.head _));have D:=zB2 (P:=P) (w:=w) T h1 (dU C k _ (by rw[σ.len h1]));simp[execOp,H.eval hx,D]
def AtP(ρ:Rp α)(h:Mem)(p:Value)(X:α):Prop:=∃b o cs,p=vP b o/\ρ.R h cs X/\∀j u,cs[j]?=some u->cell h b (o+j)=some u
theorem AtP.mono{ρ:Rp α}{h h':Mem}{p:Value}{X:α}(s:AtP ρ h p X)(hh:MLe h h'):AtP ρ h' p X:=by
 obtain⟨b,o,cs,e,r,D⟩:=s;exact⟨b,o,cs,e,ρ.mono hh r,λj u C=>zDK hh (D j u C)⟩
theorem sO{t E:TypeId}{x y:Operand}{q:Int}{v:Value}{ρ:Rp α}{xs:List α}(d:α)(i:Nat)(ht:P.underlying t=some (.slice E))(T:TyOk P E ρ.n ρ.agg)(hx:zM e x=some v)(hy:zM e y=some (vI q))(r:(rpS ρ).Is h v xs)(hq:q=(i:Int))(hi:i<xs.length)(hp:0<ρ.n):
 OpX P n w0 h0 ⟨ds,.indexAddr t x y,ty,ps,af,gd⟩ e [] h (λu=>AtP ρ h u (xs.getD i d)):=by
 obtain⟨cs,J,M⟩:=zTC r;have H:xs[i]?=some (xs.getD i d):=by rw[zoa,zoc hi];rfl
 have U:=M.get H;have C:=M.len;have hm:i*ρ.n+ρ.n<=cs.length:=by rw[C,<-ygi];exact zfu _ hi
 refine⟨zI ρ.n v i,λL' h' hh _=>iU i ht T.sz hx hy (J.mono hh) hq hi hp,?_⟩;have h0:(cs[i*ρ.n+0]?)=some (cs[i*ρ.n]'zos):=by rw[zmi,zoc]
 obtain⟨b,o,O,_⟩:=J.cell h0;refine⟨b,o,_,O,U,λj u D=>?_⟩;rw[zmu] at D
 split at D
 · rw[zxi] at D
   obtain⟨b',o',G,Z⟩:=J.cell D;rw[O] at G;simp only[Value.pointer.injEq,Option.some.injEq,Addr.mk.injEq] at G;rw[G.1,G.2.1];exact Z
 · cases D
theorem zOW{t:TypeId}{x:Operand}{p:Value}{ρ:Rp α}{X:α}(T:TyOk P t ρ.n ρ.agg)(hx:zM e x=some p)(r:AtP ρ h p X):OpX P n w0 h0 ⟨ds,.load t x,ty,ps,af,gd⟩ e [] h (λu=>ρ.Is h u X):=by
 obtain⟨b,o,cs,rfl,r,G⟩:=r;refine⟨_,λL' h' hh _ a w H S=>?_,_,r,I⟩;have C:=zB2 (P:=P) (w:=w) T r (λj u D=>lL (hh.trans S.sub) (G j u D));simp[execOp,H.eval hx,C]
theorem zS8{t:TypeId}{x:Operand}{f off m:Nat}{fs:Array Field}{fl:Field}{p:Value}{ρ:Rp α}{σ:Rp β}{g:α->β}{s:α->β->α}{X:α}{Z:β}(ht:P.underlying t=some (.struct fs))(hf:fs[f]?=some fl)(hsz:∀w,(Go.sizeOf fl.type).run P w=.ok (m+1) w)(pc:Pc ρ off σ g s)(ho:fl.offset=off)(hx:zM e x=some p)(r:AtP ρ h p X)(hZ:g X=Z):
 OpX P n w0 h0 ⟨ds,.fieldAddr t x f,ty,ps,af,gd⟩ e [] h (λu=>AtP σ h u Z):=by
 subst hZ;obtain⟨b,o,cs,rfl,r,D⟩:=r;subst ho;refine⟨_,λL' h' hh _=>wN ht hf hsz hx,b,_,_,I,pc.get r,λj u C=>?_⟩;rw[zmu] at C
 split at C
 · rw[zxi] at C
   have:=D _ _ C
   rwa [<-z3u] at this
 · cases C
theorem zH7{t E:TypeId}{x y:Operand}{m off:Nat}{q:Int}{p:Value}{ρ:Rp α}{σ:Rp β}{g:α->β}{s:α->β->α}{X:α}{Z:β}(i:Nat)(ht:P.underlying t=some (.array m E))(hsz:∀w,(Go.sizeOf E).run P w=.ok σ.n w)(pc:Pc ρ off σ g s)(ho:i*σ.n=off)(hx:zM e x=some p)(hy:zM e y=some (vI q))(r:AtP ρ h p X)(hq:q=(i:Int))(hi:i<m)(hZ:g X=Z):
 OpX P n w0 h0 ⟨ds,.indexAddr t x y,ty,ps,af,gd⟩ e [] h (λu=>AtP σ h u Z):=by
 subst hZ;obtain⟨b,o,cs,rfl,r,D⟩:=r;subst ho;refine⟨_,λL' h' hh _=>zP i ht hsz hx hy hq hi,b,_,_,I,pc.get r,λj u C=>?_⟩;rw[zmu] at C
 split at C
 · rw[zxi] at C
   have:=D _ _ C
   rwa [<-z3u] at this
 · cases C
theorem jA{v:Value}{ρ:Rp α}{xs:List α}{t E:TypeId}{x:Operand}(ht:P.underlying t=some (.slice E))(hx:zM e x=some v)(r:(rpS ρ).Is h v xs):
 OpV P n w0 h0 ⟨ds,.call {callee:=.builtin .len,args:=#[x],argTypes:=#[t]},ty,ps,af,gd⟩ e L h (vI (xs.length:Int)):=mK ht hx (yIG r)
theorem pY{E t:TypeId}{b k off:Nat}{cs:List Value}{v:Value}{x y:Operand}{ρ:Rp α}{σ:Rp β}{g:α->β}{s:α->β->α}{X Z:α}{Y:β}(hsz:∀w,(Go.sizeOf t).run P w=.ok σ.n w)(pc:Pc ρ off σ g s)(ho:k=off)(hx:zM e x=some (vP b k))(hy:zM e y=some v)(r:ρ.R h cs X)(ry:σ.Is h v Y)(hZ:s X Y=Z):
 ∃cs',ρ.R h cs' Z/\∀A B,Upd P n w0 h0 ⟨ds,.store t x y,ty,ps,af,gd⟩ e A (.var b E cs) B h (.var b E cs'):=by
 subst hZ;subst ho;obtain⟨vs,H,U⟩:=ry.cells;have M:=σ.len H;have aa:=ρ.len r;have hf:=pc.fits;refine⟨j5 cs k vs,?_,?_⟩
 · rw[zFL _ _ _ zos,M]
   exact pc.set r H
 · intro A B a w O S
   have J:w.heap[b]?=some (.cells cs.toArray E):=S.ok (.var b E cs) zo1;obtain⟨h2,h3⟩:=oG vs k cs w J;refine⟨w.setCells b k vs,?_,h3,h2⟩;have C:w.there b k vs.length:=by
    intro j G;have:k+j<cs.length:=by omega
    refine⟨?_,?_⟩
    · unfold World.cell?
      simp[J,this]
    · simp[World.frozen?,J]
   have D:=run_storeCells_cells (P:=P) b k vs 0 w (λj G=>by simpa using(C j G).1) (λj G=>by simpa using(C j G).2) (λu hu=>zob.1 (σ.one H) u hu);simp only[zmi] at D;simp[execOp,O.eval hx,O.eval hy,Instr.storeAt,Instr.sureAddr,storeVar,hsz,U,M,D]
theorem zU{ops:Array Oper}{rest:List Oper}{A B:List Res}{op:Op}{b:Nat}{E:TypeId}{cs:List Value}{F:List Value->Prop}(hv:∃cs',F cs'/\∀A B,Upd P n w0 h0 ⟨none,op,ty,ps,af,none⟩ e A (.var b E cs) B h (.var b E cs'))
    (k:∀cs',F cs'->GL P n w0 h0 ops Q rest e (A++.var b E cs'::B) h):GL P n w0 h0 ops Q (⟨none,op,ty,ps,af,none⟩::rest) e (A++.var b E cs::B) h:=by
 obtain⟨cs',D,C⟩:=hv;exact xY (C A B) I I I (k cs' D)
theorem yG{ops:Array Oper}{RR:List Res}{al:Als}{i:Nat}{r:List (Nat×Kd)}{A B:List Res}{op:Op}{b:Nat}{E:TypeId}{cs:List Value}{F:List Value->Prop}(ho:ops.getD i default=⟨none,op,ty,ps,af,none⟩)(hv:∃cs',F cs'/\∀A B,Upd P n w0 h0 ⟨none,op,ty,ps,af,none⟩ e A (.var b E cs) B h (.var b E cs'))
    (k:∀cs',F cs'->W P n w0 h0 ops Q RR al r e (A++.var b E cs'::B) h):W P n w0 h0 ops Q RR al ((i,.t)::r) e (A++.var b E cs::B) h:=by
 obtain⟨cs',D,C⟩:=hv;exact gS ho (C A B) I (k cs' D)
theorem cD{ops:Array Oper}{R:List Res}{W':List (Nat×Value)->List Res->Mem->Prop}{A B:List Res}{op:Op}{b:Nat}{E:TypeId}{cs:List Value}{F:List Value->Prop}(hv:∃cs',F cs'/\∀A B,Upd P n w0 h0 ⟨none,op,ty,ps,af,none⟩ e A (.var b E cs) B h (.var b E cs'))
    (hR:∀r∈R,∀q',r∈A++.var b E cs::B->r∈A++q'::B)(k:∀cs',F cs'->W' e (A++.var b E cs'::B) h):jW P n w0 h0 ops R ⟨none,op,ty,ps,af,none⟩ e (A++.var b E cs::B) h W':=by
 obtain⟨cs',O,J⟩:=hv;intro X a w U S;have H:St w0 h0 (A++.var b E cs::(B++X)) h w:=by simpa using S
 unfold qU;rw[zau (wn I)];obtain⟨Z,C,G,D⟩:=J A (B++X) a w U H;rw[C];refine⟨λd' M=>(by cases M),A++.var b E cs'::B,h,MLe.refl h,λhh r C=>hR r C _ (hh r C),?_,k cs' O⟩;have:=H.grown G D λb hb=>.inl hb
 simpa using this
theorem zMK{E:TypeId}{x:Operand}{v:Value}{ρ:Rp α}{X:α}(hx:zM e x=some v)(r:ρ.Is h v X):
 nL P n w0 h0 ⟨ds,.box E x,ty,ps,af,gd⟩ e L h (λu q=>∃b cs,u=vP b 0/\q=.var b E cs/\ρ.R h cs X):=by
 obtain⟨cs,G,H⟩:=r.cells;intro a w U S;obtain⟨D,C,q,h1,h2,h3,O,b,M,J⟩:=xS (n:=n) (ds:=ds) (ty:=ty) (ps:=ps) (af:=af) (gd:=gd) (L:=L) (E:=E) hx H a w U S;exact⟨D,C,q,h1,h2,h3,O,b,cs,M,J,G⟩
theorem zAK{E:TypeId}{i:TypeInfo}{z:Value}{cs:List Value}{ρ:Rp α}{X:α}(hi:P.info? E=some i)(hz:i.zero=some z)(hc:z.cells=cs.toArray)(r:ρ.R h cs X):
 nL P n w0 h0 ⟨ds,.alloc E,ty,ps,af,gd⟩ e L h (λu q=>∃b cs,u=vP b 0/\q=.var b E cs/\ρ.R h cs X):=by
 intro a w M S;obtain⟨D,C,q,h1,h2,h3,J,b,H,G⟩:=wJ (n:=n) (ds:=ds) (ty:=ty) (ps:=ps) (af:=af) (gd:=gd) (e:=e) (L:=L) (h:=h) hi hz hc a w M S;exact⟨D,C,q,h1,h2,h3,J,b,cs,H,G,r⟩
def zI7(ρ:Rp α)(h:Mem)(place:Nat->Option (Nat×Nat))(X:α)(parts:List (Nat×Value))(X':α):Prop:=
 ∀cs,ρ.R h cs X->∃cs',ρ.R h cs' X'/\Instr.fill place cs.toArray parts=some cs'.toArray
theorem zQ{ρ:Rp α}{place:Nat->Option (Nat×Nat)}{X:α}:zI7 ρ h place X [] X:=λcs r=>⟨cs,r,rfl⟩
theorem zC{ρ:Rp α}{σ:Rp β}{place:Nat->Option (Nat×Nat)}{X X':α}{Y:β}{i off:Nat}{v:Value}{rest:List (Nat×Value)}{g:α->β}{s:α->β->α}(hp:place i=some (off,σ.n))(pc:Pc ρ off σ g s)(ry:σ.Is h v Y)(k:zI7 ρ h place (s X Y) rest X'):zI7 ρ h place X ((i,v)::rest) X':=by
 intro cs r;obtain⟨vs,D,H⟩:=ry.cells;have M:=σ.len D;have J:=ρ.len r;have Z:=pc.fits;obtain⟨C,G,U⟩:=k _ (pc.set r D);refine⟨C,G,?_⟩;have O:cs=cs.take off++(cs.drop off).take σ.n++cs.drop (off+σ.n):=by
  rw[zhu,<-z9i,yei,yei]
 rw[O];exact xN hp (by rw[zei];omega) (by rw[zei,zhe];omega) M H U
theorem xE{t:TypeId}{i:TypeInfo}{z:Value}{zs:List Value}{fs:Array Field}{places:Array (Nat×Nat)}{parts:List (Nat×Operand)}{ps':List (Nat×Value)}{ρ:Rp α}{X X':α}(ht:P.underlying t=some (.struct fs))(hi:P.info? t=some i)(hz:i.zero=some z)(hzc:z.cells=zs.toArray)
    (hpl:∀w,(fs.mapM λ(f:Field)=>do pure (f.offset,<-Go.sizeOf f.type)).run P w=.ok places w)(hp:eU e parts ps')(ha:ρ.agg=true)(rz:ρ.R h zs X)(hf:zI7 ρ h (places[·]?) X ps' X'):
    OpX P n w0 h0 ⟨ds,.build t parts.toArray,ty,ps,af,gd⟩ e [] h (λu=>ρ.Is h u X'):=by
 obtain⟨C,D,G⟩:=hf zs rz;refine⟨.agg C.toArray,λL' h' _ _=>yV ht hi hz hpl hp (by rw[hzc];exact G),C,D,?_⟩;unfold Rp.val;rw[ha];rfl
theorem wI{t E:TypeId}{m sz:Nat}{i:TypeInfo}{z:Value}{zs:List Value}{parts:List (Nat×Operand)}{ps':List (Nat×Value)}{ρ:Rp α}{X X':α}(ht:P.underlying t=some (.array m E))(hi:P.info? t=some i)(hz:i.zero=some z)(hzc:z.cells=zs.toArray)
    (hsz:∀w,(Go.sizeOf E).run P w=.ok sz w)(hp:eU e parts ps')(ha:ρ.agg=true)(rz:ρ.R h zs X)(hf:zI7 ρ h (λi=>some (i*sz,sz)) X ps' X'):
    OpX P n w0 h0 ⟨ds,.build t parts.toArray,ty,ps,af,gd⟩ e [] h (λu=>ρ.Is h u X'):=by
 obtain⟨C,D,G⟩:=hf zs rz;refine⟨.agg C.toArray,λL' h' _ _=>zJV ht hi hz hsz hp (by rw[hzc];exact G),C,D,?_⟩;unfold Rp.val;rw[ha];rfl
theorem kC{R R':Mem->Value->Prop}(k:∀h r,R h r->R' h r)(x:Ending)(w:World)(s:Ret w0 h0 R x w):Ret w0 h0 R' x w:=by
 obtain⟨v,h,e,r,S⟩:=s;exact⟨v,h,e,k h v r,S⟩
theorem yJA{h:Mem}:rpB.Is h (.bool true) True:=(wB trivial)▸is_b True
theorem Rp.castR{ρ:Rp α}{cs:List Value}{x y:α}(r:ρ.R h cs x)(e:x=y):ρ.R h cs y:=e▸r
theorem Rp.R.mono{ρ:Rp α}{h':Mem}{cs:List Value}{x:α}(r:ρ.R h cs x)(hh:MLe h h'):ρ.R h' cs x:=Rp.mono ρ hh r
theorem qK{t:Nat}{T E:TypeId}{b:Nat}{cs:List Value}{ρ:Rp α}{X:α}(tok:TyOk P T ρ.n ρ.agg)(hm:.var b E cs∈L)(hx:zM e (.tmp t)=some (vP b 0))(r:ρ.R h cs X):∃v,RV P n w0 h0 (.cell t T) e L h v/\ρ.Is h v X:=by
 refine⟨ρ.val cs,?_,cs,r,I⟩;intro a w D S;have C:w.heap[b]?=some (.cells cs.toArray E):=S.ok _ hm;have:=D.eval hx;simp only[Act.eval] at this;have h2:=zB2 (P:=P) tok r (dU C 0 cs zo1);simp only[Instr.loadAt,Instr.sureAddr,Sem.run_bind,Sem.run_pure,Result.andThen_ok] at h2;simp[zFG,this,asAddr,h2]
theorem xH{r:ResultVar}{F:Value->Prop}{x:Exit}(s:∃v,RV P n w0 h0 r e L h v/\F v)(k:∀v,RV P n w0 h0 r e L h v->F v->GQ n w0 h0 Q x e L h):GQ n w0 h0 Q x e L h:=by
 obtain⟨v,a,b⟩:=s;exact k v a b
theorem zWA{o:Oper}{v:Value}{F:Value->Prop}(hv:∀L' h',OpV P n w0 h0 o e L' h' v)(hF:F v):OpX P n w0 h0 o e [] h F:=⟨v,λL' h' _ _=>hv L' h',hF⟩
end
section
variable {P:Program}{n:Nat}{w0:World}{h0:Mem}{e:List (Nat×Value)}{L:List Res}{h:Mem}{Q:Exit->Act->World->Prop}
variable {ds:Option Tmp}{ty:TypeId}{ps:String}{af:Array Edge}{gd:Option (Nat×Bool)}
theorem tJ{G:Prop}(p:Prop)(kt:p->G)(kf:¬p->G):G:=Classical.byCases kt kf
abbrev vF(f:Nat)(cap:List Value):Value:=.func (.func f) #[] cap.toArray
def zZR(P:Program)(n:Nat)(o:Oper)(e:List (Nat×Value))(f:Nat)(args:Array Value):Prop:=∀a w,Env n e a->(execOp a.eval o).run P w=.ok (.enter f args) w
theorem cI{x:Operand}{f:Nat}{cap:List Value}{xs:List Operand}{ts:Array TypeId}{vs:List Value}(hcall:∀args w,(callFunc f args).run P w=.ok (.enter f args) w)(hx:zM e x=some (vF f cap))(hvs:aC e xs vs):
 zZR P n ⟨ds,.call {callee:=.value x,args:=xs.toArray,argTypes:=ts},ty,ps,af,gd⟩ e f (vs++cap).toArray:=by
 intro a w D;have C:xs.toArray.map a.eval=vs.toArray:=by rw[z0u,D.evals hvs]
 simp only[execOp,resolve,D.eval hx];simp[Deferred.ofValue,invoke,hcall,C]
theorem yE7{W':List (Nat×Value)->List Res->Mem->Prop}{ops:Array Oper}{R:List Res}{op:Op}{g t d:Nat}{b:Bool}(ht:(ops[g]?).bind (·.dst)=some t)(he:e.lookup t=some undef)(hn:Nat.ble (d+1) n=true)(k:W' ((d,undef)::e) L h):
 jW P n w0 h0 ops R ⟨some d,op,ty,ps,af,some (g,b)⟩ e L h W':=by
 intro X a w E S;have C:Region.wanted ⟨some d,op,ty,ps,af,some (g,b)⟩ (yielded ops a.tmps)=false:=by
  have:=E.get t _ he;simp[Region.wanted,yielded,ht,this,undef]
 unfold qU;rw[zae (by simp[C])];exact⟨λG D=>(by cases D;exact zce hn),L,h,MLe.refl h,λhh=>hh,S,k⟩
theorem zT5{R A B:List Res}{q:Res}(hR:∀r∈R,r∈A++B):∀r∈R,r∈A++q::B->r∈A++B:=λr hr _=>hR r hr
section
variable {ops:Array Oper}{R:List Res}{d:Nat}{op:Op}
theorem aH{W':List (Nat×Value)->List Res->Mem->Prop}{f:Nat}{args:Array Value}{R':Mem->Value->Prop}(he:zZR P n ⟨some d,op,ty,ps,af,none⟩ e f args)(hn:Nat.ble (d+1) n=true)
    (hc:∀w,MLe h (mem w)->Calls P f args w (Ret w h R'))(k:∀v h',MLe h h'->R' h' v->W' ((d,v)::e) L h'):jW P n w0 h0 ops R ⟨some d,op,ty,ps,af,none⟩ e L h W':=by
 intro X a w E S;unfold qU;rw[zau (wn I),he a w E];refine(hc w S.sub).mono ?_
 rintro J D ⟨v,h',rfl,hR,C⟩
 have H:St w0 h0 (L++X) h' D:=S.call C;exact⟨v,I,λM G=>(by cases G;exact zce hn),L,h',C.le,λhh=>hh,H,k v h' C.le hR⟩
end
end
section
variable {α β γ:Type}
variable {P:Program}{n:Nat}{w0:World}{h0:Mem}{e:List (Nat×Value)}{L:List Res}{h:Mem}{Q:Exit->Act->World->Prop}
variable {ds:Option Tmp}{ty:TypeId}{ps:String}{af:Array Edge}{gd:Option (Nat×Bool)}
theorem St.nilown{w:World}(s:St w0 h0 L h w)(E k:Nat):St w0 h0 (.gs E k (.slice none 0 0) 0 []::L) h w:=by
 refine⟨s.below,s.le,s.sub,s.fresh,?_,?_,?_⟩
 · intro r C
   rcases zfi.1 C with rfl|C
   · exact World.ownsRow_nil w _ E k
   · exact s.ok r C
 · intro r C b hb
   rcases zfi.1 C with rfl|C
   · simp[Res.fp,Value.ownBlock] at hb
   · exact s.own r C b hb
 · refine z8u.2 ⟨λr C b hb=>?_,s.apart⟩
   simp[Res.fp,Value.ownBlock] at hb
theorem xK{c:Code}(E k:Nat)(g:GC P n w0 h0 c Q e (.gs E k (.slice none 0 0) 0 []::L) h):GC P n w0 h0 c Q e L h:=λa w Ev S=>g a w Ev (S.nilown E k)
theorem zDE{ops:Array Oper}{l:List Oper}(E k:Nat)(g:GL P n w0 h0 ops Q l e (.gs E k (.slice none 0 0) 0 []::L) h):GL P n w0 h0 ops Q l e L h:=λa w Ev S=>g a w Ev (S.nilown E k)
theorem aS{x:Exit}(E k:Nat)(g:GQ n w0 h0 Q x e (.gs E k (.slice none 0 0) 0 []::L) h):GQ n w0 h0 Q x e L h:=λa w Ev S=>g a w Ev (S.nilown E k)
theorem iN{ops:Array Oper}{R:List Res}{o:Oper}{W':List (Nat×Value)->List Res->Mem->Prop}(E k:Nat)(g:jW P n w0 h0 ops R o e (.gs E k (.slice none 0 0) 0 []::L) h W'):jW P n w0 h0 ops R o e L h W':=by
 intro X a w O S;refine(g X a w O (S.nilown E k)).mono ?_
 rintro Z U ⟨H,L',g,G,D,M,J⟩
 exact⟨H,L',g,G,λhh q C=>D (λy hy=>z6i _ (hh y hy)) q C,M,J⟩
theorem zTQ(a:List Value)(m:Nat):(madeCells a.toArray (m*a.length)).toList=(List.replicate m a).flatten:=by
 unfold madeCells;rw[Array.toList_map,Array.toList_range]
 induction m with
 |zero=>simp
 |succ m ih=>
  rw[ygi,Nat.add_comm,List.range_add,z2i,yuu,ygu,List.flatten_cons,<-ih]
  congr 1
  · apply List.ext_getElem?
    intro j
    by_cases hj:j<a.length
    · simp[hj,zoh hj]
    · simp[hj]
  · apply yhi
    intro j _;simp
theorem zQV{ρ:Rp α}{a:List Value}{x:α}(m:Nat)(r:ρ.R h a x):RL ρ h (madeCells a.toArray (m*ρ.n)).toList (List.replicate m x):=by
 rw[<-ρ.len r,zTQ];exact(yDH (h:=h) m r).2
theorem zIP{t E:TypeId}{i:TypeInfo}{z:Value}{zs:List Value}{x y:Operand}{q q':Int}{by':Nat}{ρ:Rp α}{X:α}(m:Nat)(ht:P.underlying t=some (.slice E))(hi:P.info? E=some i)(hz:i.zero=some z)(hzc:z.cells=zs.toArray)(hsize:i.size=ρ.n)(hby:i.bytes=by')(rz:ρ.R h zs X)
    (hx:zM e x=some (vI q))(hy:zM e y=some (vI q'))(hq:q=(m:Int))(hq':q'=(m:Int))(hb:by'*m<=281474976710656)(hm:m<9223372036854775808):
    nL P n w0 h0 ⟨ds,.makeSlice t x y,ty,ps,af,gd⟩ e L h (λv r=>∃cs,r=.gs E ρ.n v (List.replicate m X).length cs/\RL ρ h cs (List.replicate m X)):=by
 subst hq;subst hq';subst hby;intro a w G S;obtain⟨H,J,C,D⟩:=run_make_full (P:=P) w w0.heap.size t E i z ρ.n ht hi hz hsize .i64 .i64 m hb (by unfold maxLen;omega) S.below.size;rw[hzc] at C;refine⟨_,H,.gs E ρ.n (.slice (some ⟨w.heap.size,0,none⟩) m m) m (madeCells zs.toArray (m*ρ.n)).toList,?_,D,C,λb hb=>?_,_,by rw[lR],zQV m rz⟩
 · simp only[execOp,G.eval hx,G.eval hy,vI]
   simp[J]
 · simp only[Res.fp,Value.ownBlock,Option.some.injEq] at hb
   omega
theorem zN{t E:TypeId}{i:TypeInfo}{z:Value}{zs:List Value}{parts:List (Nat×Operand)}{ps':List (Nat×Value)}{m:Nat}{ρ:Rp α}{X:α}{xs:List α}(ht:P.underlying t=some (.slice E))(hi:P.info? E=some i)(hz:i.zero=some z)(hzc:z.cells=zs.toArray)(hsize:i.size=ρ.n)(rz:ρ.R h zs X)
    (hp:eU e parts ps')(hf:zI7 (rpA m ρ) h (λi=>some (i*ρ.n,ρ.n)) (List.replicate m X) ps' xs)(hm:m*ρ.n<=16777216)(hn:0<ρ.n):
    nL P n w0 h0 ⟨ds,.buildSlice t m parts.toArray,ty,ps,af,gd⟩ e L h (λv r=>∃cs,r=.gs E ρ.n v xs.length cs/\RL ρ h cs xs):=by
 obtain⟨cs,⟨G,J⟩,H⟩:=hf (madeCells zs.toArray (m*ρ.n)).toList ⟨yde,zQV m rz⟩;have M:=J.len;rw[G] at M;intro a w Ev S;have U:(parts.toArray.map λ(p:Nat×Operand)=>(p.1,a.eval p.2)).toList=ps':=by
  rw[z0u];exact hp.eval Ev
 refine⟨.slice (some ⟨w.heap.size,0,none⟩) m m,w.alloc (.cells cs.toArray E),.gs E ρ.n (.slice (some ⟨w.heap.size,0,none⟩) m m) m cs,?_,World.grownBy_alloc w _ none,?_,λb hb=>?_,cs,by rw[G],J⟩
 · have Z:¬(m*ρ.n>16777216):=by omega
   simp only[execOp,Instr.buildSlice];rw[show(parts.toArray.map λ(i,x)=>(i,a.eval x)).toList=ps' from U];have O:(zeroValue E).run P w=.ok z w:=by simp[zeroValue,typeInfo,hi,hz]
   have C:Instr.fill (λi=>some (i*ρ.n,ρ.n)) (madeCells zs.toArray (m*ρ.n)) ps'=some cs.toArray:=by
    simpa using H
   have D:∀w,(Go.sizeOf E).run P w=.ok ρ.n w:=λw=>by simp[Go.sizeOf,typeInfo,hi,hsize]
   by_cases h0:m*ρ.n=0
   · rw[h0] at C
     simp only[madeCells,Array.range_zero',Array.map_empty] at C;simp[run_underlying ht,D,newRow,newObj,Sem.run,h0,Array.range_zero',C]
   · unfold madeCells at C
     simp only[y1i,List.getElem!_toArray,List.getElem!_eq_getElem?_getD] at C;simp[run_underlying ht,D,h0,Z,O,hzc,C,newRow,newObj,Sem.run]
 · have:=World.ownsRow_lit (w:=w) (base:=w0.heap.size) (e:=E) (size:=ρ.n) cs.toArray m S.below.size (by unfold maxLen;have:=Nat.le_mul_of_pos_right m hn;omega) (by simpa using M)
   exact this
 · simp only[Res.fp,Value.ownBlock,Option.some.injEq] at hb
   omega
theorem yB{A B:List Res}{t E:TypeId}{i:TypeInfo}{z:Value}{bytes:Nat}{v v':Value}{cs:List Value}{x y:Operand}{ρ:Rp α}{xs ys:List α}(ht:P.underlying t=some (.slice E))(hi:P.info? E=some i)(hz:i.zero=some z)(hsize:i.size=ρ.n)(hby:i.bytes=bytes)
    (hzs:z.cells.size=ρ.n)(hk:0<ρ.n)(hx:zM e x=some v)(hy:zM e y=some v')(r:RL ρ h cs xs)(hv':(rpS ρ).Is h v' ys)(hlen:xs.length+ys.length<9223372036854775808)(hb':(xs.length+ys.length)*bytes<=140737488355328):
    zD5 P n w0 h0 ⟨ds,.call {callee:=.builtin .append,args:=#[x,y],argTypes:=#[t,t]},ty,ps,af,gd⟩ e A (.gs E ρ.n v xs.length cs) B h (λu r'=>∃cs',r'=.gs E ρ.n u (xs++ys).length cs'/\RL ρ h cs' (xs++ys)):=by
 obtain⟨C,H,r2⟩:=zTC hv';intro a w O S;obtain⟨u,D,r',h1,h2,h3,M,J⟩:=zFH (A:=A) (B:=B) (v:=v) (cs:=cs) (m:=xs.length) (ds:=ds) (ty:=ty) (ps:=ps) (af:=af) (gd:=gd) ht hi hz hsize hby hzs hk hx hy H (λu G=>zob.1 r2.one u G) hlen hb' a w O S;exact⟨u,D,r',h1,h2,h3,M,cs++C,by rw[J,lAz],r.append r2⟩
theorem zJR{E k m:Nat}{v:Value}{cs:List Value}{w:World}(hm:.gs E k v m cs∈L)(S:St w0 h0 L h w):Sl (mem w) k v m cs:=by
 obtain⟨A,B,rfl⟩:=yri hm;exact zBM S
theorem yFJ(k:Nat)(v:Value)(i:Nat):zI k v i=zI 1 v (i*k):=by
 unfold zI;rw[z9u]
theorem jU{E k m:Nat}{v:Value}{cs:List Value}{t E':TypeId}{x:Operand}(hm:.gs E k v m cs∈L)(ht:P.underlying t=some (.slice E'))(hx:zM e x=some v):
 OpV P n w0 h0 ⟨ds,.call {callee:=.builtin .len,args:=#[x],argTypes:=#[t]},ty,ps,af,gd⟩ e L h (vI (m:Int)):=
 λa w Ev S=>mK (L:=L) (h:=h) ht hx (zJR hm S).one a w Ev S
theorem yP{E m k:Nat}{cs:List Value}{v:Value}{t E':TypeId}{x y:Operand}{q:Int}(i:Nat)(hm:.gs E k v m cs∈L)(ht:P.underlying t=some (.slice E'))(hsz:∀w,(Go.sizeOf E').run P w=.ok k w)(hx:zM e x=some v)(hy:zM e y=some (vI q))
    (hq:q=(i:Int))(hi:i<m)(hk:0<k):OpV P n w0 h0 ⟨ds,.indexAddr t x y,ty,ps,af,gd⟩ e L h (zI 1 v (i*k)):=by
 intro a w D S;have C:St w (mem w) [] (mem w) w:=St.begin (MLe.refl _);rw[<-yFJ];exact iU (n:=n) (w0:=w) (h0:=mem w) (L:=[]) (h:=mem w) i ht hsz hx hy (zJR hm S) hq hi hk a w D C
theorem zLD{k m o l:Nat}{v:Value}{cs:List Value}{w:World}(s:Sl (mem w) k v m cs)(hl:0<l)(ho:o+l<=cs.length):∃b o',zI 1 v o=vP b (o'+o)/\v=.slice (some ⟨b,o',none⟩) m (match v with| .slice _ _ c=>c|_=>0)/\w.rangeAt b (o'+o) ((cs.drop o).take l):=by
 obtain⟨a,M,rfl,h1,h2,h3,H⟩:=s;obtain⟨b,o',rfl,_⟩:=H o zos;refine⟨b,o',by simp[zI,kA],I,?_⟩;intro j u C;rw[zmu] at C
 split at C
 · rw[zxi] at C
   obtain⟨D,_⟩:=zwu.1 C;obtain⟨U,O,J,G⟩:=H _ D;simp only[Option.some.injEq,Addr.mk.injEq,and_true] at J;obtain⟨rfl,rfl⟩:=J;rw[C] at G;have:=lL (MLe.refl _) G
   rwa [<-z3u] at this
 · cases C
theorem xP{t E:TypeId}{x:Operand}{k off:Nat}{cs:List Value}{v:Value}{ρ:Rp α}{σ:Rp β}{g:List α->β}{s:List α->β->List α}{xs:List α}{Z:β}(T:TyOk P t σ.n σ.agg)(pc:Pc (rpA xs.length ρ) off σ g s)(ho:k=off)(hp:0<σ.n)(hx:zM e x=some (zI 1 v k))(r:RL ρ h cs xs)(hZ:g xs=Z):
 OpX P n w0 h0 ⟨ds,.load t x,ty,ps,af,gd⟩ e [.gs E ρ.n v xs.length cs] h (λu=>σ.Is h u Z):=by
 subst hZ;subst ho;have h1:=pc.get (h:=h) ⟨I,r⟩;have M:k+σ.n<=xs.length*ρ.n:=pc.fits;have J:=r.len;refine⟨_,λL' h' _ D a w H S=>?_,_,h1,I⟩;obtain⟨b,o',G,_,C⟩:=zLD (zJR (D (.gs E ρ.n v xs.length cs) (.head _)) S) hp (show k+σ.n<=cs.length by omega);rw[G] at hx;have:=zB2 (P:=P) (w:=w) T h1 C;simp[execOp,H.eval hx,this]
theorem nN{base E k g cap m:Nat}:∀(vs:List Value) (off:Nat) (cs:List Value) (w:World),w.ownsRow base E k (.slice (some ⟨g,0,none⟩) m cap) m cs->
 (w.setCells g off vs).ownsRow base E k (.slice (some ⟨g,0,none⟩) m cap) m (j5 cs off vs)/\w.grownBy (w.setCells g off vs) (some g)
 |[],off,cs,w,hw=>⟨hw,⟨rfl,rfl,rfl,zbe _,λ_ _ _=>rfl⟩⟩
 |v::r,off,cs,w,hw=>by
  obtain⟨h1,h2⟩:=hw.stored off v;obtain⟨h3,h4⟩:=nN r (off+1) (cs.set off v) _ h1;have e1:j5 cs off (v::r)=j5 (cs.set off v) (off+1) r:=by
   unfold j5;rw[yfe,zyu,zmi,List.zipIdx_succ,List.foldl_map]
   congr 1
   funext c p
   rw[show off+(p.2+1)=off+1+p.2 by omega]
  refine⟨by rw[World.setCells,e1];exact h3,?_⟩;refine⟨h4.os.trans h2.os,h4.tape.trans h2.tape,h4.output.trans h2.output,zci h2.size h4.size,?_⟩;intro G D C;have J:=h2.block G D C;have H:=h4.block G (zku D h2.size) C;rw[World.setCells,H,J]
theorem sD{E t:TypeId}{k off:Nat}{cs:List Value}{u v:Value}{x y:Operand}{ρ:Rp α}{σ:Rp β}{g:List α->β}{s:List α->β->List α}{xs Z:List α}{Y:β}(hsz:∀w,(Go.sizeOf t).run P w=.ok σ.n w)(pc:Pc (rpA xs.length ρ) off σ g s)(ho:k=off)(hp:0<σ.n)(hx:zM e x=some (zI 1 v k))(hy:zM e y=some u)(r:RL ρ h cs xs)(ry:σ.Is h u Y)(hZ:s xs Y=Z):
 ∃cs',RL ρ h cs' Z/\∀A B,Upd P n w0 h0 ⟨ds,.store t x y,ty,ps,af,gd⟩ e A (.gs E ρ.n v xs.length cs) B h (.gs E ρ.n v Z.length cs'):=by
 subst hZ;subst ho;obtain⟨vs,H,hv⟩:=ry.cells;have U:=σ.len H;have aa:=r.len;have hf:k+σ.n<=xs.length*ρ.n:=pc.fits;obtain⟨O,M⟩:=pc.set (h:=h) ⟨I,r⟩ H;refine⟨j5 cs k vs,?_,?_⟩
 · rw[zFL _ _ _ zos,U]
   exact M
 · intro A B a w Ev S
   rw[O];have G:w.ownsRow w0.heap.size E ρ.n v xs.length cs:=S.ok (.gs E ρ.n v xs.length cs) zo1;have C:=G;obtain⟨_,hr⟩:=G
   rcases hr with⟨rfl,hm0⟩|⟨b,cap,cur,rfl,hbg,hg,hnc,hcm,hcs,htake⟩
   · rw[hm0] at hf;omega
   · have J:zI 1 (.slice (some ⟨b,0,none⟩) xs.length cap) k=vP b k:=by simp[zI,kA]
     rw[J] at hx;obtain⟨h1,h2⟩:=nN vs k cs w C;refine⟨w.setCells b k vs,?_,h2,h1⟩;have D:=run_storeCells_cells (P:=P) b k vs 0 w (λj hj=>by
      have h4:=C.cellAt (k+j) zos;rw[zoc zos] at h4;simp[h4]) (λj hj=>by simpa using C.frozenAt (k+j)) (λu hu=>zob.1 (σ.one H) u hu)
     simp only[zmi] at D;simp[execOp,Ev.eval hx,Ev.eval hy,Instr.storeAt,Instr.sureAddr,storeVar,hsz,hv,U,D]
section
variable {A B:List Res}{op:Op}{E k m:Nat}{v:Value}{cs:List Value}{F:Nat->List Value->Prop}
theorem fW{ops:Array Oper}{rest:List Oper}{m':Nat}{F:List Value->Prop}(hv:∃cs',F cs'/\∀A B,Upd P n w0 h0 ⟨none,op,ty,ps,af,none⟩ e A (.gs E k v m cs) B h (.gs E k v m' cs'))
    (kk:∀cs',F cs'->GL P n w0 h0 ops Q rest e (A++.gs E k v m' cs'::B) h):GL P n w0 h0 ops Q (⟨none,op,ty,ps,af,none⟩::rest) e (A++.gs E k v m cs::B) h:=by
 obtain⟨cs',D,C⟩:=hv;exact xY (C A B) I I I (kk cs' D)
theorem nW{ops:Array Oper}{RR:List Res}{al:Als}{i:Nat}{r:List (Nat×Kd)}{m':Nat}{F:List Value->Prop}(ho:ops.getD i default=⟨none,op,ty,ps,af,none⟩)(hv:∃cs',F cs'/\∀A B,Upd P n w0 h0 ⟨none,op,ty,ps,af,none⟩ e A (.gs E k v m cs) B h (.gs E k v m' cs'))
    (kk:∀cs',F cs'->W P n w0 h0 ops Q RR al r e (A++.gs E k v m' cs'::B) h):W P n w0 h0 ops Q RR al ((i,.t)::r) e (A++.gs E k v m cs::B) h:=by
 obtain⟨cs',D,C⟩:=hv;exact gS ho (C A B) I (kk cs' D)
end
theorem St.freezex{A B:List Res}{E:Nat}{v:Value}{cs:List Value}{ρ:Rp α}{xs:List α}{w:World}(r:RL ρ h cs xs)(S:St w0 h0 (A++.gs E ρ.n v xs.length cs::B) h w):∃h',MLe h h'/\(rpS ρ).Is h' v xs/\St w0 h0 (A++B) h' w:=by
 have C:=S.ok (.gs E ρ.n v xs.length cs) zo1;have H:=C;obtain⟨M,J⟩:=C
 rcases J with⟨rfl,hm0⟩|⟨g,cap,cur,rfl,hb,hg,hn,hm,hcs,ht⟩
 · have G:xs=[]:=zof hm0
   subst G;exact⟨h,MLe.refl h,eA h,S.drop⟩
 · obtain⟨O,D⟩:=S.freeze (b:=g) (o:=.cells cur E (0,0)) I hg
   refine⟨_,D,yBS ⟨_,cap,I,hn,hm,M,λi hi=>⟨g,0,I,?_⟩⟩ (r.mono D),O⟩;unfold cell;simp only[if_true,zvi];rw[<-ht,zmu,zau zos];simp
section
variable {A B:List Res}{E:Nat}{v:Value}{cs:List Value}{ρ:Rp α}{xs:List α}
theorem zX{ops:Array Oper}{l:List Oper}(r:RL ρ h cs xs)(k:∀h',MLe h h'->(rpS ρ).Is h' v xs->GL P n w0 h0 ops Q l e (A++B) h'):GL P n w0 h0 ops Q l e (A++.gs E ρ.n v xs.length cs::B) h:=by
 intro a w H S;obtain⟨h',C,D,G⟩:=S.freezex r;exact k h' C D a w H G
theorem zGS{c:Code}(r:RL ρ h cs xs)(k:∀h',MLe h h'->(rpS ρ).Is h' v xs->GC P n w0 h0 c Q e (A++B) h'):GC P n w0 h0 c Q e (A++.gs E ρ.n v xs.length cs::B) h:=by
 intro a w H S;obtain⟨h',C,D,G⟩:=S.freezex r;exact k h' C D a w H G
theorem wR{x:Exit}(r:RL ρ h cs xs)(k:∀h',MLe h h'->(rpS ρ).Is h' v xs->GQ n w0 h0 Q x e (A++B) h'):GQ n w0 h0 Q x e (A++.gs E ρ.n v xs.length cs::B) h:=by
 intro a w H S;obtain⟨h',C,D,G⟩:=S.freezex r;exact k h' C D a w H G
theorem xT{o:Oper}{ops:Array Oper}{R:List Res}{W':List (Nat×Value)->List Res->Mem->Prop}(r:RL ρ h cs xs)(hR:∀q∈R,q∈A++.gs E ρ.n v xs.length cs::B->q∈A++B)
    (k:∀h',MLe h h'->(rpS ρ).Is h' v xs->jW P n w0 h0 ops R o e (A++B) h' W'):jW P n w0 h0 ops R o e (A++.gs E ρ.n v xs.length cs::B) h W':=by
 intro X a w Ev S;have S1:St w0 h0 (A++.gs E ρ.n v xs.length cs::(B++X)) h w:=by simpa using S
 obtain⟨h',C,D,S'⟩:=S1.freezex r;have Z:St w0 h0 ((A++B)++X) h' w:=by simpa using S'
 refine(k h' C D X a w Ev Z).mono ?_
 rintro v' w' ⟨M,L',g,J,H,U,O⟩
 exact⟨M,L',g,C.trans J,λhh q G=>H (λy hy=>hR y hy (hh y hy)) q G,U,O⟩
end
end
end Bk
namespace Bk
open Go Go.RowKit
def zCJ(o:Oper):Nat:=o.after.toList.foldl (λa e=>if Region.binds .any e then a |||(1 <<< e.on) else a) 0
theorem iK(k j:Nat):(1 <<< k).testBit j=decide (j=k):=by
 rw[Nat.one_shiftLeft,Nat.testBit_two_pow];exact yie.2 (by simp[eq_comm])
theorem eR(o:Oper)(k:Nat):(zCJ o).testBit k=true↔∃e∈o.after,Region.binds .any e=true/\e.on=k:=by
 have key:∀(l:List Edge) (a:Nat),(l.foldl (λa e=>if Region.binds .any e then a |||(1 <<< e.on) else a) a).testBit k=true↔a.testBit k=true\/∃e∈l,Region.binds .any e=true/\e.on=k:=by
  intro l
  induction l with
  |nil=>intro a;simp
  |cons e l ih=>
   intro a;rw[zyu,ih]
   by_cases hb:Region.binds .any e=true
   · rw[zau hb,yyu,iK]
     simp only[zyi,zhi,zfi,exists_eq_or_imp,hb,true_and,or_assoc];constructor
     · rintro(h|h|h)
       · exact .inl h
       · exact .inr (.inl h.symm)
       · exact .inr (.inr h)
     · rintro(h|h|h)
       · exact .inl h
       · exact .inr (.inl h.symm)
       · exact .inr (.inr h)
   · rw[zae hb]
     simp only[zfi,exists_eq_or_imp,hb,false_and,false_or];simp
 unfold zCJ;rw[key];simp
def zM8(ops:Array Oper)(ams:List Nat)(i:Nat):Nat:=(List.range ops.size).foldl (λa j=>if j==i||(ams.getD j 0).testBit i||(ops.getD i default).apart ops (ops.getD j default) then a |||(1 <<< j) else a) 0
theorem zP5(ops:Array Oper)(ams:List Nat)(i k:Nat):(zM8 ops ams i).testBit k=true->k<ops.size/\(k=i\/(ams.getD k 0).testBit i=true\/(ops.getD i default).apart ops (ops.getD k default)=true):=by
 have key:∀(l:List Nat) (a:Nat),(l.foldl (λa j=>if j==i||(ams.getD j 0).testBit i||(ops.getD i default).apart ops (ops.getD j default) then a |||(1 <<< j) else a) a).testBit k=true->a.testBit k=true\/(k∈l/\(k=i\/(ams.getD k 0).testBit i=true\/(ops.getD i default).apart ops (ops.getD k default)=true)):=by
  intro l
  induction l with
  |nil=>intro a h;exact .inl h
  |cons j l ih=>
   intro a h;rw[zyu] at h
   rcases ih _ h with h1|⟨h1,h2⟩
   · split at h1
     · rename_i hc
       rw[yyu,iK] at h1;simp only[zyi,zhi] at h1
       rcases h1 with h1|h1
       · exact .inl h1
       · subst h1
         simp only[zyi,beq_iff_eq,or_assoc] at hc;exact .inr ⟨.head _,hc⟩
     · exact .inl h1
   · exact .inr ⟨.tail _ h1,h2⟩
 intro h
 rcases key _ _ h with h1|⟨h1,h2⟩
 · simp at h1
 · exact⟨zog.1 h1,h2⟩
def y8(ams:List Nat)(x i:Nat):Bool:=!x.testBit i&&(ams.getD i 0&&&x==ams.getD i 0)
def pF(ams:List Nat)(n x:Nat):List Nat:=(List.range n).filter (y8 ams x)
def lM(x:Nat)(l:List Nat):Nat:=l.foldl (λx i=>x |||(1 <<< i)) x
def mZ(ops:Array Oper)(n m:Nat)(ams frs:List Nat):List (Nat×Kd)->Nat->List Nat->Bool
  |[],x,pend=>pend.isEmpty&&(pF ams n x).isEmpty
  |(i,.q)::r,x,pend=>decide (i<m)&&decide (i<n)&&y8 ams x i&&((frs.getD i 0 |||x)&&&(1 <<< n-1)==1 <<< n-1)&&!pend.contains i&&
     ((List.range n).all λk=>decide (k<m)||(ams.getD k 0).testBit i||zDQ ops k i)&&mZ ops n m ams frs r (x |||(1 <<< i)) pend
  |(i,.a)::r,x,pend=>pend.contains i&&(pF ams n (lM x (pend.filter (· != i)))==[i])&&mZ ops n m ams frs r (x |||(1 <<< i)) (pend.filter (· != i))
  |(i,.c)::r,x,pend=>decide (i<m)&&!pend.contains i&&(pF ams n (lM x pend)==[i])&&mZ ops n m ams frs r (x |||(1 <<< i)) pend
  |(i,.b j)::r,x,pend=>decide (i<m)&&decide (j<m)&&!pend.contains i&&!pend.contains j&&decide (i≠j)&&(pF ams n (lM x pend)==[i,j])&&
     (pF ams n (lM (x |||(1 <<< i)) pend)==[j])&&(pF ams n (lM (x |||(1 <<< j)) pend)==[i])&&mZ ops n m ams frs r ((x |||(1 <<< i)) |||(1 <<< j)) pend
  |(i,.t)::r,x,pend=>pend.isEmpty&&(r.all λy=>match y.2 with| .t=>true|_=>false)&&decide (m<=i)&&(pF ams n x==[i])&&mZ ops n m ams frs r (x |||(1 <<< i)) []
  |(i,.p)::r,x,pend=>decide (i<m)&&decide (i<n)&&y8 ams x i&&((frs.getD i 0 |||x)&&&(1 <<< n-1)==1 <<< n-1)&&!pend.contains i&&mZ ops n m ams frs r (x |||(1 <<< i)) pend
  |(i,.d i2 j)::r,x,pend=>(decide (i<m)&&decide (i2<m)&&decide (j<m)&&!pend.contains i&&!pend.contains i2&&!pend.contains j)&&(decide (i≠i2)&&decide (i≠j)&&decide (i2≠j))&&
     (pF ams n (lM x pend)==[i,j])&&(pF ams n (lM (x |||(1 <<< i)) pend)==[i2,j])&&(pF ams n (lM (x |||(1 <<< j)) pend)==[i])&&
     (pF ams n (lM ((x |||(1 <<< i)) |||(1 <<< i2)) pend)==[j])&&(pF ams n (lM ((x |||(1 <<< i)) |||(1 <<< j)) pend)==[i2])&&
     mZ ops n m ams frs r (((x |||(1 <<< i)) |||(1 <<< i2)) |||(1 <<< j)) pend
  |(_,.m _ _)::_,_,_=>false
  |(_,.x _ _ _)::_,_,_=>false
section
variable {ops:Array Oper}{ams frs:List Nat}
def j1(ops:Array Oper)(b:Array Bool)(x:Nat):Prop:=b.size=ops.size/\∀i,i<ops.size->b[i]?=some (x.testBit i)
theorem j1.getF{b:Array Bool}{x:Nat}(h:j1 ops b x){i:Nat}(hi:i<ops.size)(d:Bool):b.getD i d=x.testBit i:=by
 rw[zji,h.2 i hi];rfl
theorem j1.set{b:Array Bool}{x:Nat}(h:j1 ops b x)(i:Nat):j1 ops (b.setIfInBounds i true) (x |||(1 <<< i)):=by
 refine⟨by simpa using h.1,λk C=>?_⟩;rw[yyu,iK,z1e]
 by_cases e:i=k
 · subst e
   have:i<b.size:=by rw[h.1];exact C
   simp[this]
 · rw[zae e,h.2 k C]
   simp[Ne.symm e]
theorem j1.setAll{b:Array Bool}{x:Nat}(h:j1 ops b x):∀(l:List Nat),j1 ops (setAll b l) (lM x l):=by
 intro l
 induction l generalizing b x with
 |nil=>exact h
 |cons i l ih=>exact ih (h.set i)
theorem j1.start:j1 ops (Array.replicate ops.size false) 0:=⟨by simp,λi hi=>by simp[hi]⟩
def eZ(ops:Array Oper)(ams frs:List Nat):Bool:=(ops.toList.map zCJ==ams)&&((List.range ops.size).map (zM8 ops ams)==frs)
theorem zN4(h:eZ ops ams frs=true){i:Nat}(hi:i<ops.size):ams.getD i 0=zCJ (ops.getD i default):=by
 simp only[eZ,zbu,beq_iff_eq] at h;rw[<-h.1,zoa,zwi,Array.getElem?_toList,zji];simp[hi]
theorem yEI(h:eZ ops ams frs=true){i:Nat}(hi:i<ops.size):frs.getD i 0=zM8 ops ams i:=by
 simp only[eZ,zbu,beq_iff_eq] at h;rw[<-h.2,zoa,zwi];simp[hi]
theorem yCQ(hl:∀o∈ops,∀e∈o.after,e.on<ops.size){i:Nat}(hi:i<ops.size){e:Edge}(he:e∈(ops.getD i default).after):e.on<ops.size:=by
 refine hl _ ?_ e he;rw[zji,Array.getElem?_eq_getElem hi];exact Array.getElem_mem hi
theorem zOJ(ht:eZ ops ams frs=true)(hl:∀o∈ops,∀e∈o.after,e.on<ops.size){b:Array Bool}{x i:Nat}(hs:j1 ops b x)(hi:i<ops.size):
 y8 ams x i=(!b.getD i true&&((ops[i]?).map (·.after.all λe=>!Region.binds .any e||b.getD e.on false)).getD false):=by
 unfold y8;rw[hs.getF hi,zN4 ht hi]
 congr 1
 have D:ops[i]?=some (ops.getD i default):=mT hi;rw[D];simp only[ypi,Option.getD_some];rw[yie,beq_iff_eq,yti];constructor
 · intro h e C
   by_cases hb:Region.binds .any e=true
   · have h1:=(eR (ops.getD i default) e.on).2 ⟨e,C,hb,I⟩
     rw[<-h,Nat.testBit_and,zbu] at h1;rw[hs.getF (yCQ hl hi C),h1.2];simp
   · simp[hb]
 · intro h
   apply Nat.eq_of_testBit_eq
   intro k;rw[Nat.testBit_and]
   by_cases hk:(zCJ (ops.getD i default)).testBit k=true
   · obtain⟨e,C,hb,rfl⟩:=(eR _ _).1 hk
     have h1:=h e C;rw[hb,hs.getF (yCQ hl hi C)] at h1;simp at h1;rw[hk,h1];rfl
   · have:(zCJ (ops.getD i default)).testBit k=false:=by simpa using hk
     rw[this];rfl
theorem gB(ht:eZ ops ams frs=true)(hl:∀o∈ops,∀e∈o.after,e.on<ops.size){b:Array Bool}{x:Nat}(hs:j1 ops b x):Region.ready .any ops b=pF ams ops.size x:=by
 unfold Region.ready pF
 apply List.filter_congr
 intro i hi;exact(zOJ ht hl hs (zog.1 hi)).symm
theorem iR(ht:eZ ops ams frs=true)(hl:∀o∈ops,∀e∈o.after,e.on<ops.size){b:Array Bool}{x i:Nat}(hs:j1 ops b x)(hi:i<ops.size)(h:y8 ams x i=true):(Region.ready .any ops b).contains i=true:=by
 rw[gB ht hl hs];unfold pF;simp[hi,h]
theorem zTO{y n k:Nat}(h:y&&&(1 <<< n-1)=1 <<< n-1)(hk:k<n):y.testBit k=true:=by
 have h1:(1 <<< n-1).testBit k=true:=by rw[Nat.one_shiftLeft,Nat.testBit_two_pow_sub_one];simpa using hk
 rw[<-h,Nat.testBit_and,zbu] at h1;exact h1.1
theorem zRU(ht:eZ ops ams frs=true){b:Array Bool}{x i:Nat}(hs:j1 ops b x)(hi:i<ops.size)(h:(frs.getD i 0 |||x)&&&(1 <<< ops.size-1)=1 <<< ops.size-1):Region.free .any ops b i=true:=by
 unfold Region.free;rw[mT hi];simp only[zob,zog];intro j C;have h1:=zTO h C;rw[yyu,zyi,yEI ht hi] at h1;rw[mT C,hs.getF C];simp only[zyi,beq_iff_eq]
 rcases h1 with h1|h1
 · obtain⟨_,h2|h2|h2⟩:=zP5 _ _ _ _ h1
   · exact .inl (.inl h2)
   · rw[zN4 ht C] at h2
     obtain⟨e,G,hb,D⟩:=(eR _ _).1 h2;refine .inr (.inl ?_);rw[yqi];exact⟨e,G,by simp[hb,D]⟩
   · exact .inr (.inr h2)
 · exact .inl (.inr h1)
theorem zUJ(ht:eZ ops ams frs=true){k i:Nat}(hk:k<ops.size)(h:(ams.getD k 0).testBit i=true):zDQ ops k i=true:=by
 rw[zN4 ht hk] at h;obtain⟨e,D,hb,C⟩:=(eR _ _).1 h;unfold zDQ;rw[yqi];refine⟨e,D,?_⟩;rw[hb,C];simp[zCN]
theorem nK(ht:eZ ops ams frs=true)(hl:∀o∈ops,∀e∈o.after,e.on<ops.size){m:Nat}:∀(ord:List (Nat×Kd)) (b:Array Bool) (x:Nat) (pend:List Nat),j1 ops b x->mZ ops ops.size m ams frs ord x pend=true->chk ops m ord b pend=true
  |[],b,x,pend,hs,h=>by
   simp only[mZ,zbu] at h;simp only[chk,zbu,gB ht hl hs];exact h
  |(i,.q)::r,b,x,pend,hs,h=>by
   simp only[mZ,zbu,beq_iff_eq,zhi] at h;obtain⟨⟨⟨⟨⟨⟨h1,h2⟩,h3⟩,h4⟩,h5⟩,h6⟩,h7⟩:=h;simp only[chk,zbu,zhi];refine⟨⟨⟨⟨⟨h1,iR ht hl hs h2 h3⟩,zRU ht hs h2 h4⟩,h5⟩,?_⟩,nK ht hl r _ _ _ (hs.set i) h7⟩;rw[zob] at h6 ⊢;intro k hk;have:=h6 k hk;simp only[zyi] at this ⊢
   rcases this with(h8|h8)|h8
   · exact .inl h8
   · exact .inr (zUJ ht (zog.1 hk) h8)
   · exact .inr h8
  |(i,.a)::r,b,x,pend,hs,h=>by
   simp only[mZ,zbu] at h;obtain⟨⟨h1,h2⟩,h3⟩:=h;simp only[chk,zbu,gB ht hl (hs.setAll _)];exact⟨⟨h1,h2⟩,nK ht hl r _ _ _ (hs.set i) h3⟩
  |(i,.c)::r,b,x,pend,hs,h=>by
   simp only[mZ,zbu] at h;obtain⟨⟨⟨h1,h2⟩,h3⟩,h4⟩:=h;simp only[chk,zbu,gB ht hl (hs.setAll _)];exact⟨⟨⟨h1,h2⟩,h3⟩,nK ht hl r _ _ _ (hs.set i) h4⟩
  |(i,.b j)::r,b,x,pend,hs,h=>by
   simp only[mZ,zbu] at h;obtain⟨⟨⟨⟨⟨⟨⟨⟨h1,h2⟩,h3⟩,h4⟩,h5⟩,h6⟩,h7⟩,h8⟩,h9⟩:=h;simp only[chk,zbu,gB ht hl (hs.setAll _),gB ht hl ((hs.set i).setAll _),gB ht hl ((hs.set j).setAll _)];exact⟨⟨⟨⟨⟨⟨⟨⟨h1,h2⟩,h3⟩,h4⟩,h5⟩,h6⟩,h7⟩,h8⟩,nK ht hl r _ _ _ ((hs.set i).set j) h9⟩
  |(i,.t)::r,b,x,pend,hs,h=>by
   simp only[mZ,zbu] at h;obtain⟨⟨⟨⟨h1,h2⟩,h3⟩,h4⟩,h5⟩:=h;simp only[chk,zbu,gB ht hl hs];exact⟨⟨⟨⟨h1,h2⟩,h3⟩,h4⟩,nK ht hl r _ _ _ (hs.set i) h5⟩
  |(i,.p)::r,b,x,pend,hs,h=>by
   simp only[mZ,zbu,beq_iff_eq,zhi] at h;obtain⟨⟨⟨⟨⟨h1,h2⟩,h3⟩,h4⟩,h5⟩,h7⟩:=h;simp only[chk,zbu,zhi];exact⟨⟨⟨⟨h1,iR ht hl hs h2 h3⟩,zRU ht hs h2 h4⟩,h5⟩,nK ht hl r _ _ _ (hs.set i) h7⟩
  |(i,.d i2 j)::r,b,x,pend,hs,h=>by
   simp only[mZ,zbu] at h;obtain⟨⟨⟨⟨⟨⟨⟨h1,h2⟩,h3⟩,h4⟩,h5⟩,h6⟩,h7⟩,h8⟩:=h;simp only[chk,zbu,gB ht hl (hs.setAll _),gB ht hl ((hs.set i).setAll _),gB ht hl ((hs.set j).setAll _),gB ht hl (((hs.set i).set i2).setAll _),gB ht hl (((hs.set i).set j).setAll _)];exact⟨⟨⟨⟨⟨⟨⟨h1,h2⟩,h3⟩,h4⟩,h5⟩,h6⟩,h7⟩,nK ht hl r _ _ _ (((hs.set i).set i2).set j) h8⟩
  |(_,.m _ _)::_,_,_,_,_,h=>by simp[mZ] at h
  |(_,.x _ _ _)::_,_,_,_,_,h=>by simp[mZ] at h
def zQC(l:List Oper)(m:Nat)(ams frs:List Nat)(al:Als)(ord:List (Nat×Kd)):Bool:=
 Region.noSelect l.toArray&&cK l.toArray al&&(al.all λx=>decide (x.1<m))&&(l.all λo=>o.after.all λe=>decide (e.on<l.length))&&eZ l.toArray ams frs&&mZ l.toArray l.length m ams frs ord 0 (al.map (·.1))
theorem yG9{l:List Oper}{m:Nat}{al:Als}{ord:List (Nat×Kd)}(ams frs:List Nat)(h:zQC l m ams frs al ord=true):
 (Region.noSelect l.toArray&&cK l.toArray al&&(al.all λx=>decide (x.1<m))&&chk l.toArray m ord (Array.replicate l.length false) (al.map (·.1)))=true:=by
 simp only[zQC,zbu] at h;obtain⟨⟨⟨⟨⟨h1,h2⟩,h3⟩,M⟩,J⟩,H⟩:=h;simp only[zbu];refine⟨⟨⟨h1,h2⟩,h3⟩,?_⟩;have D:∀o∈l.toArray,∀e∈o.after,e.on<l.toArray.size:=by
  intro o C e G;have:=zob.1 M o (by simpa using C);have:=yti.1 this e G
  simpa using this
 exact nK J D ord _ 0 _ j1.start H
end
end Bk
namespace Go.Proofs.YtboaboflnckgoaaGreat
open Bk Go Tryz
theorem ty3:TyOk prog 3 1 false:=⟨sizeOf3,isAgg3⟩
theorem ty4:TyOk prog 4 1 false:=⟨sizeOf4,isAgg4⟩
theorem ty9:TyOk prog 9 1 false:=⟨sizeOf9,isAgg9⟩
theorem yJ:TyOk prog 26 3 true:=⟨sizeOf26,isAgg26⟩
theorem fR:TyOk prog 32 1 false:=⟨sizeOf32,isAgg32⟩
theorem zK6:TyOk prog 34 6 true:=⟨sizeOf34,isAgg34⟩
theorem qD:TyOk prog 46 1 false:=⟨sizeOf46,isAgg46⟩
theorem gG:TyOk prog 47 1 false:=⟨sizeOf47,isAgg47⟩
theorem yDT:TyOk prog 48 1 false:=⟨sizeOf48,isAgg48⟩
theorem qP:TyOk prog 50 3 true:=⟨sizeOf50,isAgg50⟩
theorem zR:TyOk prog 53 9 true:=⟨sizeOf53,isAgg53⟩
theorem yH5:TyOk prog 54 27 true:=⟨sizeOf54,isAgg54⟩
theorem zA1:TyOk prog 56 36 true:=⟨sizeOf56,isAgg56⟩
theorem iI:TyOk prog 80 12 true:=⟨sizeOf80,isAgg80⟩
theorem rQ:TyOk prog 81 1 false:=⟨sizeOf81,isAgg81⟩
theorem sJ:TyOk prog 83 14 true:=⟨sizeOf83,isAgg83⟩
theorem eV:TyOk prog 108 27 true:=⟨sizeOf108,isAgg108⟩
theorem j4:TyOk prog 193 5 true:=⟨sizeOf193,isAgg193⟩
theorem yH6:TyOk prog 200 5 true:=⟨sizeOf200,isAgg200⟩
end Go.Proofs.YtboaboflnckgoaaGreat
namespace Bk
open Go Go.RowKit
section
variable {P:Program}{n:Nat}{w0:World}{h0:Mem}{e:List (Nat×Value)}{h:Mem}{ds:Option Tmp}{ty:TypeId}{ps:String}{af:Array Edge}{gd:Option (Nat×Bool)}{α:Type}
theorem zOU{ρ:Rp α}{xs:List α}{v:Value}{t E:TypeId}{x lo:Operand}{p:Int}(i:Nat)(ht:P.underlying t=some (.slice E))(hsz:∀w,(Go.sizeOf E).run P w=.ok ρ.n w)(hx:zM e x=some v)(hl:zM e lo=some (vI p))(r:(rpS ρ).Is h v xs)
    (hp:p=(i:Int))(hi:i<=xs.length):OpX P n w0 h0 ⟨ds,.slice t x (some lo) none none,ty,ps,af,gd⟩ e [] h (λu=>(rpS ρ).Is h u (xs.drop i)):=by
 obtain⟨cs,s,D⟩:=zTC r;refine zWA (λL' h'=>jG i ht hsz hx hl s.shape hp hi) ?_;have G:=s.sub hi (zbe _);have C:=D.len;rw[zxu (by rw[zhe,C,<-yye];exact zbe _)] at G;exact yBS (by rw[zhe];exact G) (D.drop i)
end
def ByB(bs:List Nat):Prop:=∀x∈bs,x<256
theorem ByB.nil:ByB []:=λx hx=>by cases hx
theorem ByB.app{a b:List Nat}(ha:ByB a)(hb:ByB b):ByB (a++b):=λx hx=>(zpi.1 hx).elim (ha x) (hb x)
theorem zSB(n:Nat):ByB (txt n):=yDU n
theorem zJF(a b:List Nat):qW a++qW b=qW (a++b):=by
 apply ByteArray.ext
 simp[qW]
theorem zHX{a b:List Nat}(ha:ByB a)(hb:ByB b):qW a=qW b↔a=b:=
 ⟨λh=>by rw[<-zI3 ha,<-zI3 hb,h],λh=>by rw[h]⟩
section
variable {P:Program}{n:Nat}{w0:World}{h0:Mem}{e:List (Nat×Value)}{L:List Res}{h:Mem}
variable {ds:Option Tmp}{ty:TypeId}{ps:String}{af:Array Edge}{gd:Option (Nat×Bool)}
theorem vS{pa pb:List Nat}{t yt:TypeId}{x y:Operand}(hx:zM e x=some (.string (qW pa)))(hy:zM e y=some (.string (qW pb)))(hlen:pa.length+pb.length<=9223372036854775807):
 OpV P n w0 h0 ⟨ds,.binOp .add t x y yt,ty,ps,af,gd⟩ e L h (.string (qW (pa++pb))):=by
 intro a w C S;have h1:=Us.str_size (xs:=pa);have h2:=Us.str_size (xs:=pb);have h3:¬(((qW pa).size+(qW pb).size:Nat):Int)>IntKind.i64.max:=by
  have:IntKind.i64.max=9223372036854775807:=I;rw[this];omega
 have D:(Op.stringOp .add (qW pa) (qW pb)).run P w=.ok (.string (qW (pa++pb))) w:=by
  simp only[Op.stringOp];rw[zae h3,zJF]
  rfl
 simp only[execOp,C.eval hx,C.eval hy];simp[eqGuard,binOp,D]
theorem mM{pa pb:List Nat}{t yt:TypeId}{x y:Operand}(ha:ByB pa)(hb:ByB pb)(hx:zM e x=some (.string (qW pa)))(hy:zM e y=some (.string (qW pb))):OpV P n w0 h0 ⟨ds,.binOp .eql t x y yt,ty,ps,af,gd⟩ e L h (vB (pa=pb)):=by
 have:=zO1 (P:=P) (n:=n) (w0:=w0) (h0:=h0) (L:=L) (h:=h) (ds:=ds) (ty:=ty) (ps:=ps) (af:=af) (gd:=gd) (t:=t) (yt:=yt) hx hy;rw[tZ (zHX ha hb)] at this;exact this
theorem zWC{pa pb:List Nat}{t yt:TypeId}{x y:Operand}(ha:ByB pa)(hb:ByB pb)(hx:zM e x=some (.string (qW pa)))(hy:zM e y=some (.string (qW pb))):OpV P n w0 h0 ⟨ds,.binOp .neq t x y yt,ty,ps,af,gd⟩ e L h (vB (pa≠pb)):=by
 have h1:((qW pa).toList==(qW pb).toList)=@decide (qW pa=qW pb) (Classical.propDecidable _):=by
  rw[yie];simp only[beq_iff_eq,zhi];exact⟨λhh=>by
   have h2:(qW pa).data.toList=(qW pb).data.toList:=by
    rwa [ByteArray.toList_eq,ByteArray.toList_eq] at hh
   exact ByteArray.ext (Array.toList_inj.1 h2),λhh=>by rw[hh]⟩
 rw[<-tZ (not_congr (zHX ha hb))];intro a w C S;simp only[execOp,C.eval hx,C.eval hy,binOp,vB];simp[eqGuard,Op.stringOp,h1]
end
end Bk
namespace Bk
open Go Go.RowKit
open Classical
def qZ(q:Rat):List Nat:=(if q.num<0 then[45] else[])++txt q.num.natAbs++(if wM q.den=0 then[] else[47]++txt (wM q.den))
theorem zYZ(q:Rat):ByB (qZ q):=by
 unfold qZ;refine ByB.app (ByB.app ?_ (zSB _)) ?_
 · split
   · unfold ByB;decide
   · exact ByB.nil
 · split
   · exact ByB.nil
   · exact ByB.app (by unfold ByB;decide) (zSB _)
theorem zA3(q:Rat):(qZ q).length<=20*lq q+4:=by
 unfold qZ;have h1:=zA2 q.num.natAbs;have h2:=zA2 (wM q.den);have h3:=wT q;have C:=wQ q;have H:(if q.num<0 then[45] else([]:List Nat)).length<=1:=by split<;>simp
 have G:(if wM q.den=0 then[] else[47]++txt (wM q.den)).length<=1+(txt (wM q.den)).length:=by split<;>simp<;>omega
 rw[lAz,lAz];have D:(zB (wM q.den)).length<=lq q:=C;omega
theorem bG{q:Rat}:(0:Int)<↑(zB (wM q.den)).length↔¬wM q.den=0:=by
 have:=yQ (n:=wM q.den);omega
theorem zZY{q:Rat}(h1:q.num<0)(h2:¬(0:Int)<↑(zB (wM q.den)).length):[45]++txt q.num.natAbs=qZ q:=by
 unfold qZ;rw[zau h1,zau (zdi λe=>h2 (bG.2 e)),zli]
theorem yDV{q:Rat}(h1:q.num<0)(h2:(0:Int)<↑(zB (wM q.den)).length):[45]++txt q.num.natAbs++([47]++txt (wM q.den))=qZ q:=by
 unfold qZ;rw[zau h1,zae (bG.1 h2)]
theorem zZ0{q:Rat}(h1:¬q.num<0)(h2:¬(0:Int)<↑(zB (wM q.den)).length):txt q.num.natAbs=qZ q:=by
 unfold qZ;rw[zae h1,zau (zdi λe=>h2 (bG.2 e)),zli,zge]
theorem zZZ{q:Rat}(h1:¬q.num<0)(h2:(0:Int)<↑(zB (wM q.den)).length):txt q.num.natAbs++([47]++txt (wM q.den))=qZ q:=by
 unfold qZ;rw[zae h1,zae (bG.1 h2),zge]
theorem zZX{n:Nat}(h0:n≠0)(h:n<10):txt n=[48+n]:=by
 unfold txt;rw[zae h0,zNK h0,show n/10=0 by omega,zI2,zoh h];rfl
theorem bD(q:Rat):yU q=if q=0 then 0 else if q<0 then -1 else 1:=by unfold yU;simp only[pT]
theorem zYU(a b:Rat):vH a b=yU (a-b):=by rw[bD];unfold vH;grind
theorem zDA(a b:Rat):a<b\/a=b\/b<a:=by grind
theorem zYV(a b c:Rat):vH (a*c) (b*c)=vH a b*yU c:=by
 rw[bD]
 by_cases h0:c=0
 · subst h0
   have:vH (a*0) (b*0)=0:=aV.2 zo2;rw[this,zau I,Int.mul_zero]
 · rw[zae h0]
   by_cases hc:c<0
   · rw[zau hc]
     rcases zDA a b with h|h|h
     · have h1:b*c<a*c:=by
        have:=zqe h (c:=-c) zo2;grind
       unfold vH;grind
     · subst h;unfold vH;simp
     · have h1:a*c<b*c:=by
        have:=zqe h (c:=-c) zo2;grind
       unfold vH;grind
   · rw[zae hc]
     have C:0<c:=by grind
     rcases zDA a b with h|h|h
     · have h1:=zqe h C
       unfold vH;grind
     · subst h;unfold vH;simp
     · have h1:=zqe h C
       unfold vH;grind
theorem w6{x y:Int}(hx:-1<=x/\x<=1)(hy:-1<=y/\y<=1):-1<=x*y/\x*y<=1:=by
 have:x= -1\/x=0\/x=1:=by omega
 rcases this with h|h|h<;>subst h<;>omega
theorem zQB{a b:Rat}:vH a b<=0↔a<=b:=by
 have h:=dQ (a:=a) (b:=b);constructor
 · intro h1
   refine Rat.not_lt.1 λe=>?_;have:=h.2 e;omega
 · intro h1
   have:¬0<vH a b:=λe=>Rat.not_lt.2 h1 (h.1 e);omega
theorem zP0(a b:Rat):a<=b\/b<=a:=by grind
theorem zIS(a:Rat):zGE a a=a:=by unfold zGE;split<;>rfl
theorem zIT(a:Rat):mQ a a=a:=by unfold mQ;split<;>rfl
theorem yBF{a b:Rat}(h:a<=b):mQ a b=b:=by
 unfold mQ
 by_cases h1:a<b
 · rw[zau h1]
 · rw[zae h1];grind
theorem zMO{a b c:Rat}(h:a<=b)(hc:0<=c):a*c<=b*c:=zze h hc
theorem zCP(x:Rat):0<=x*x:=by
 rcases zP0 0 x with h|h
 · have:=zMO h h;grind
 · have:=zMO (a:=0) (b:=-x) (c:=-x) zo2 zo2;grind
theorem zCQ(n:Nat):∃m,m*m<=n/\n<(m+1)*(m+1):=by
 induction n with
 |zero=>exact⟨0,by decide,by decide⟩
 |succ n ih=>
  obtain⟨m,h1,h2⟩:=ih
  by_cases h:(m+1)*(m+1)<=n+1
  · refine⟨m+1,h,?_⟩
    have:(m+1)*(m+1)<(m+1+1)*(m+1+1):=Nat.mul_self_lt_mul_self zos;omega
  · exact⟨m,by omega,by omega⟩
def sqN(n:Nat):Nat:=Classical.choose (zCQ n)
theorem zCR(n:Nat):sqN n*sqN n<=n:=(Classical.choose_spec (zCQ n)).1
theorem yEK(n:Nat):n<(sqN n+1)*(sqN n+1):=(Classical.choose_spec (zCQ n)).2
theorem zEK{a b:Nat}(h:a<=b):a*a<=b*b:=z6e h h
theorem zP1{n m:Nat}:m<=sqN n↔m*m<=n:=by
 constructor
 · intro h
   exact zci (zEK h) (zCR n)
 · intro h
   refine zdu λe=>?_;have h1:=zEK (show sqN n+1<=m by omega);have h2:=yEK n;omega
theorem zN6{n m:Nat}(h1:m*m<=n)(h2:n<(m+1)*(m+1)):sqN n=m:=by
 have h3:=zP1.2 h1;have C:¬m+1<=sqN n:=λe=>by have:=zP1.1 e;omega
 omega
theorem zE9(n:Nat):sqN n<=n:=by
 rcases ydi (sqN n) with h|h
 · omega
 · have h1:=zCR n
   have h2:=zpu (sqN n) (show 1<=sqN n from h);omega
theorem zTL{n x:Nat}(hx:0<x):sqN n<=(x+n/x)/2:=by
 refine zdu λe=>?_;have H:=zCR n;generalize sqN n=s at *;have h1:x+n/x+1<=2*s:=by omega
 have h2:=yxi n hx;obtain⟨t,G⟩:∃t,n/x+1+x+t=2*s:=⟨2*s-(n/x+1+x),by omega⟩;have h3:n<x*(n/x+1):=h2;generalize n/x=q at *
 -- x (q + 1) <= x (2 s - x) <= s s
 have C:(x:Int)*((q:Int)+1)<=(s:Int)*s:=by
  have D:(q:Int)+1=2*s-x-t:=by omega
  rw[D];have O:0<=((s:Int)-x)*((s:Int)-x):=by
   rcases Int.le_total 0 ((s:Int)-x) with h|h
   · exact yme h h
   · exact Int.mul_nonneg_of_nonpos_of_nonpos h h
  have M:0<=(x:Int)*t:=yme zos zos;grind
 have J:((x*(q+1):Nat):Int)<=((s*s:Nat):Int):=by rw[zeu,zeu,Int.natCast_add];exact C
 omega
theorem zMJ{n x:Nat}(hx:0<x)(h:sqN n<=x)(hs:x<=(x+n/x)/2):x=sqN n:=by
 have h1:x<=n/x:=by omega
 have h2:x*x<=n:=zci (zpu x h1) (Nat.mul_div_le n x);have:=zP1.2 h2;omega
theorem zKA(n:Nat):sqN n<=2^((wU n+1)/2):=by
 refine zdu λe=>?_;have h1:=zEK (show 2^((wU n+1)/2)<=sqN n by omega);have h2:=zCR n;have h3:=aK n;rw[<-zlu] at h1;have C:2^wU n<=2^((wU n+1)/2+(wU n+1)/2):=zii zos zos;omega
theorem reb{h:Mem}{v:Value}{a b:Rat}{k l:Nat}(r:(rpQ k).Is h v a)(e:a=b)(hl:lq b<=l):(rpQ l).Is h v b:=by
 subst e;exact mS (yIP r).1 hl
theorem zVX{h:Mem}{cs:List Value}{a b:Rat}{k l:Nat}(r:(rpQ k).R h cs a)(e:a=b)(hl:lq b<=l):(rpQ l).R h cs b:=by
 subst e;exact⟨r.1,hl⟩
def ovQ(a K:Nat):Rat:=(a:Rat)/((2^K:Nat):Rat)
theorem zV9(K:Nat):(0:Rat)<((2^K:Nat):Rat):=by
 have:(0:Rat)=((0:Nat):Rat):=I;rw[this,ysu];exact zqu zos
theorem yIN(K:Nat):((2^K:Nat):Rat)≠0:=by have:=zV9 K;grind
theorem zPW(a b:Nat):lq ((a:Rat)/(b:Rat))<=max (zB a).length (zB b).length+1:=by
 have h1:=zRK False [] [];rw[show(a:Rat)/(b:Rat)=mkRat (sg False a) b by
  rw[mB id,Rat.mkRat_eq_div];rfl]
 exact eW zos zos zos
theorem zJQ{K:Nat}(h:K<=4096):(zB (2^K)).length<=129:=by
 have:=yA1 (k:=K) h;omega
theorem yCW{a K m:Nat}(hK:K<=4096)(ha:(zB a).length<=m):lq (ovQ a K)<=max m 129+1:=by
 have h1:=zPW a (2^K);have h2:=zJQ hK;unfold ovQ;omega
theorem zQ2(K:Nat):ovQ 0 K=0:=by
 unfold ovQ;have:((0:Nat):Rat)=0:=I;rw[this];grind
def flN(q:Rat)(K:Nat):Nat:=q.num.natAbs*2^K*2^K/q.den
def fT(q:Rat)(k:Int):Rat:=ovQ (sqN (flN q (kN k))) (kN k)
theorem zAP{x y c:Rat}(hc:0<c):x<=y↔x*c<=y*c:=by
 constructor
 · intro h;exact zze h zo2
 · intro h
   refine Rat.not_lt.1 λe=>?_;have:=zqe e hc;grind
theorem zR4(q:Rat):(0:Rat)<(q.den:Rat):=by
 have:(0:Rat)=((0:Nat):Rat):=I;rw[this,ysu];exact zfe q.den_nz
theorem num_nonneg{q:Rat}(h:0<=q):(q.num.natAbs:Int)=q.num:=Int.natAbs_of_nonneg (yxe.2 h)
theorem yBB{q:Rat}(h:0<=q):q*(q.den:Rat)=(q.num.natAbs:Rat):=by
 have h1:q*(q.den:Rat)=(q.num:Rat):=by
  have h2:=Rat.divInt_eq_div q.num q.den;rw[Rat.num_divInt_den] at h2;replace h2:(q.num:Rat)/(q.den:Rat)=q:=h2.symm;have h3:=zR4 q;generalize (q.num:Rat)=x at *;generalize (q.den:Rat)=y at *;grind
 rw[h1,<-num_nonneg h];rfl
theorem yFI(a b K:Nat):ovQ a K+ovQ b K=ovQ (a+b) K:=by
 unfold ovQ;rw[yvu];have:=yIN K;grind
def zHC(q:Rat)(K:Nat):Nat:=(q.num.natAbs/q.den+1)*2^K
theorem yDX(q:Rat)(K:Nat):flN q K<zHC q K*zHC q K:=by
 have G:=zfe q.den_nz;have h1:=yxi q.num.natAbs G;rw[ztu] at h1;unfold flN zHC;rw[Nat.div_lt_iff_lt_mul G];generalize q.num.natAbs/q.den+1=N at *;generalize q.num.natAbs=X at *;generalize q.den=D at *;have C:0<2^K:=zqu zos;generalize 2^K=P at *;have H:1<=N:=by
  rcases ydi N with h|h
  · rw[h] at h1;omega
  · exact h
 have h2:X*P*P<N*D*P*P:=zte (zte h1 C) C;have h3:N*D*P*P<=N*(N*D*P*P):=Nat.le_mul_of_pos_left _ H;have e:N*P*(N*P)*D=N*(N*D*P*P):=by grind
 omega
theorem zJB{q:Rat}{k:Nat}(h:lq q<=k)(K:Nat)(hK:K<=4096):(zB (zHC q K)).length<=k+131:=by
 unfold zHC;have h1:=yM (q.num.natAbs/q.den+1) (2^K);have h2:=zJQ hK;have h3:=uW (q.num.natAbs/q.den) 1;have H:=zW (zki q.num.natAbs q.den);have G:=wT q;have D:(zB 1).length=1:=by rw[kM zos zos];rfl
 have C:=zAM q;omega
theorem zXI{q:Rat}{k a:Nat}(h:lq q<=k){K:Nat}(hK:K<=4096)(ha:a<=zHC q K):lq (ovQ a K)<=k+140:=by
 have h1:=zJB h K hK;have h2:=zW ha;have h3:=yCW (a:=a) hK (zci h2 h1);omega
theorem iQ(q:Rat)(K:Nat):sqN (flN q K)<=zHC q K:=by
 refine ybe λe=>?_;have h1:=yDX q K;have h2:=zCR (flN q K);have h3:=zEK (ydu e);omega
theorem yBJ{q:Rat}{k:Nat}(h:lq q<=k)(n:Int):lq (fT q n)<=k+140:=zXI h (by unfold kN;omega) (iQ q _)
theorem zLC:sqN 0=0:=by have:=zE9 0;omega
theorem zVQ{X:Nat}(h:(↑(wU X):Int)=0):zB (sqN X)=[]:=by
 have h1:X=0:=fM.1 zos;rw[h1,zLC,yY]
theorem zLF{X:Nat}(h:(zB X).length<=1000):shN 1 ((↑(wU X)+1)/2)=2^((wU X+1)/2):=by
 have h1:=zG4 X;have e:((↑(wU X)+1)/2:Int)=(((wU X+1)/2:Nat):Int):=by omega
 rw[e,zJH zos zos,yfi]
 rfl
theorem zOA(Y:Nat):shN Y (-1)=Y/2:=by
 rw[zFB zos]
 rfl
theorem zN5{X K:Nat}(h:(zB X).length<=K):(zB (2^((wU X+1)/2))).length<=K+1:=by
 have h1:=zG4 X;refine zci (zW (zii zos (show(wU X+1)/2<=32*K by omega))) ?_;refine uS (k:=K+1) ?_;rw[show(4294967296:Nat)=2^32 from I,<-ycu];exact yve zos zos
theorem zSP{X:Nat}(h:(zB X).length<=1000):(zB (2^((wU X+1)/2))).length<=1001:=zN5 h
theorem zJJ(X k:Nat)(hk:k<=4096):shN X (k:Int)=X*2^k:=by rw[zJH zos zos];rfl
theorem s9{q:Rat}{k K:Nat}(h:lq q<=k)(hK:K<=4096):(zB (q.num.natAbs*2^K)).length<=k+129/\(zB (q.num.natAbs*2^K*2^K)).length<=k+258/\(zB (flN q K)).length<=k+258:=by
 have h1:=yM q.num.natAbs (2^K);have h2:=yM (q.num.natAbs*2^K) (2^K);have h3:=zJQ hK;have D:=wT q;have C:=zW (zki (q.num.natAbs*2^K*2^K) q.den);unfold flN;omega
theorem zQ8(a K:Nat):mkRat (sg False (val (zB a))) (dV (zB (2^K)))=ovQ a K:=by
 have C:2^K≠0:=ymi (zqu zos);have h0:zB (2^K)≠[]:=λe=>by
  have:=yQ.2 C;rw[e] at this;simp at this
 unfold dV;rw[zae h0,zE,zE,mB id,Rat.mkRat_eq_div]
 rfl
def zGB(q:Rat)(K:Nat):Prop:=q.num.natAbs*2^K*2^K%q.den≠0
theorem zWG{q:Rat}(hq:0<=q)(K:Nat):(zGB q K\/sZ (sqN (flN q K)*sqN (flN q K)) (flN q K)<0)↔fT q=fT q/\ovQ (sqN (flN q K)) K*ovQ (sqN (flN q K)) K<q:=by
 have G:=zV9 K;have O:=zR4 q;have M:=yBB hq;have U:(0:Rat)<((2^K:Nat):Rat)*((2^K:Nat):Rat)*(q.den:Rat):=z8i (z8i G G) O;have C:q<=ovQ (sqN (flN q K)) K*ovQ (sqN (flN q K)) K↔q.num.natAbs*2^K*2^K<=sqN (flN q K)*sqN (flN q K)*q.den:=by
  rw[zAP U];generalize sqN (flN q K)=a;have J:ovQ a K*ovQ a K*(((2^K:Nat):Rat)*((2^K:Nat):Rat)*(q.den:Rat))=((a*a*q.den:Nat):Rat):=by
   rw[zsi,zsi];unfold ovQ;generalize ((2^K:Nat):Rat)=P at *;grind
  have H:q*(((2^K:Nat):Rat)*((2^K:Nat):Rat)*(q.den:Rat))=((q.num.natAbs*2^K*2^K:Nat):Rat):=by
   rw[zsi,zsi,<-M];grind
  rw[J,H,Rat.natCast_le_natCast]
 have h1:=zCR (flN q K);have D:=zfe q.den_nz;have h2:flN q K*q.den+q.num.natAbs*2^K*2^K%q.den=q.num.natAbs*2^K*2^K:=by
  unfold flN;rw[ztu];exact z4i _ _
 rw[fZ];unfold zGB;generalize q.num.natAbs*2^K*2^K=X at *;generalize hr:X%q.den=r at *;generalize hs:sqN (flN q K)*sqN (flN q K)=s at *;generalize flN q K=F at *;constructor
 · intro h
   refine⟨I,Rat.not_le.1 λe=>?_⟩;have h3:=C.1 e
   rcases h with h|h
   · have:=zfu q.den h1
     omega
   · have h4:=zte h D
     omega
 · rintro⟨_,h⟩
   refine zdu λe=>?_;have J:¬r≠0:=λh=>e (.inl h);have H:¬s<F:=λh=>e (.inr h);have Z:s=F:=by omega
   refine Rat.not_le.2 h (C.2 ?_);rw[Z];omega
def zSV(l h:Rat)(k:Int):Rat:=if h<0 then 0 else fT (mQ l 0) k
def zCU(h:Rat)(k:Int):Rat:=if h<0 then 0 else if fT h k*fT h k<h then fT h k+ovQ 1 (kN k) else fT h k
def rtE(h:Rat):Int:=if h<0 then 7 else 0
theorem zX9(K:Nat):flN 0 K=0:=by
 unfold flN;have:(0:Rat).num.natAbs=0:=I;rw[this,zvu,zvu,Nat.zero_div]
theorem zOH(k:Int):fT 0 k=0:=by unfold fT;rw[zX9,zLC,zQ2]
def loN(l:Rat)(K:Nat):Nat:=if 0<yU l then sqN (flN l K) else 0
theorem y0{q:Rat}:0<yU q↔0<q:=by
 rw[bD]
 by_cases h0:q=0
 · rw[zau h0,h0]
   constructor
   · intro h;omega
   · intro h;exact absurd h (Rat.lt_irrefl)
 · rw[zae h0]
   by_cases h1:q<0
   · rw[zau h1]
     constructor
     · intro h;omega
     · intro h;grind
   · rw[zae h1]
     constructor
     · intro h;grind
     · intro h;omega
theorem qX{q:Rat}:yU q<0↔q<0:=by
 rw[bD]
 by_cases h0:q=0
 · rw[zau h0,h0]
   constructor
   · intro h;omega
   · intro h;exact absurd h (Rat.lt_irrefl)
 · rw[zae h0]
   by_cases h1:q<0
   · rw[zau h1];simp[h1]
   · rw[zae h1]
     constructor
     · intro h;omega
     · intro h;grind
theorem yI8(l:Rat)(k:Int):ovQ (loN l (kN k)) (kN k)=fT (mQ l 0) k:=by
 unfold loN
 by_cases h:0<yU l
 · rw[zau h]
   have h1:=y0.1 h;have h2:mQ l 0=l:=by unfold mQ;rw[zae zo2]
   rw[h2];rfl
 · rw[zae h,zQ2]
   have h1:¬0<l:=λe=>h (y0.2 e);have h2:mQ l 0=0:=yBF zo2;rw[h2,zOH]
def hiN(q:Rat)(K:Nat):Nat:=if zGB q K\/sZ (sqN (flN q K)*sqN (flN q K)) (flN q K)<0 then sqN (flN q K)+1 else sqN (flN q K)
theorem yC0{q:Rat}(h:¬q<0)(k:Int):ovQ (hiN q (kN k)) (kN k)=zCU q k:=by
 have h0:0<=q:=by grind
 have h1:=zWG h0 (kN k);unfold zCU hiN;rw[zae h]
 by_cases h2:fT q k*fT q k<q
 · rw[zau h2,zau (h1.2 ⟨I,h2⟩),<-yFI];rfl
 · rw[zae h2,zae (λe=>h2 (h1.1 e).2)];rfl
theorem zXM{q:Rat}{k:Nat}(h:lq q<=k)(n:Int):lq (ovQ (hiN q (kN n)) (kN n))<=k+140/\(zB (hiN q (kN n))).length<=k+133:=by
 have C:kN n<=4096:=by unfold kN;omega
 have h1:hiN q (kN n)<=zHC q (kN n)+1:=by
  have:=iQ q (kN n);unfold hiN;split<;>omega
 have h2:=zW h1;have h3:=uW (zHC q (kN n)) 1;have H:=zJB h (kN n) C;have G:(zB 1).length=1:=by rw[kM zos zos];rfl
 have D:(zB (hiN q (kN n))).length<=k+133:=by omega
 exact⟨by have:=yCW (a:=hiN q (kN n)) C D;omega,D⟩
theorem yF6{q:Rat}{k:Nat}(h:lq q<=k)(n:Int):lq (ovQ (loN q (kN n)) (kN n))<=k+140/\(zB (loN q (kN n))).length<=k+131:=by
 have C:kN n<=4096:=by unfold kN;omega
 have h1:loN q (kN n)<=zHC q (kN n):=by
  have:=iQ q (kN n);unfold loN;split<;>omega
 exact⟨zXI h C h1,zci (zW h1) (zJB h _ C)⟩
theorem zMI{n x:Nat}(hx:0<x)(h:sqN n<=x)(e:(x+n/x)/2=0):n=0:=by
 have h0:n/x=0/\x=1:=by generalize n/x=q at *;omega
 obtain⟨h1,h2⟩:=h0;rw[h2,z2e] at h1;exact h1
theorem zZ7{h:Mem}{v:Value}{s:Rat×Rat}{k l:Nat}(r:(rpP (rpQ k) (rpQ l)).Is h v s):lq s.1<=k/\lq s.2<=l:=by
 obtain⟨cs,⟨a,b,_,r1,r2⟩,_⟩:=r;exact⟨r1.2,r2.2⟩
theorem yAK{h:Rat}{k:Int}(h0:¬h<0)(h1:¬fT h k*fT h k<h):fT h k=zCU h k:=by unfold zCU;rw[zae h0,zae h1]
theorem yBI{q:Rat}{k:Nat}(h:lq q<=k)(h0:¬q<0)(n:Int):lq (zCU q n)<=k+140:=by
 rw[<-yC0 h0];exact(zXM h n).1
theorem zVS(X d:Nat):(zB (if wM d=0 then 0 else X%wM d)).length<=(zB X).length:=by
 refine zW ?_
 split
 · omega
 · exact Nat.mod_le _ _
abbrev Sp:=Rat×Rat
theorem zQ4{h:Mem}{v:Value}{s:Sp}{k l:Nat}(r:(rpP (rpQ k) (rpQ l)).Is h v s):∃a b c d,v=.agg #[vB (s.1.num<0),a,b,vB (s.2.num<0),c,d]/\Us .u32 h a (zB s.1.num.natAbs)/\Us .u32 h b (zB (wM s.1.den))/\Us .u32 h c (zB s.2.num.natAbs)/\Us .u32 h d (zB (wM s.2.den))/\lq s.1<=k/\lq s.2<=l:=by
 obtain⟨cs,⟨_,_,rfl,⟨⟨a,b,rfl,h1,h2⟩,h3⟩,⟨⟨c,d,rfl,G,D⟩,C⟩⟩,rfl⟩:=r;exact⟨a,b,c,d,I,h1,h2,G,D,h3,C⟩
theorem yCX{h:Mem}{v:Value}{p q:Rat}{k l:Nat}(r:zK1 h v [p,q])(hp:lq p<=k)(hq:lq q<=l):(rpP (rpQ k) (rpQ l)).Is h v (p,q):=by
 obtain⟨cs,rfl,a,b,_,rfl,h1,h2,c,d,_,rfl,D,C,rfl⟩:=r;exact⟨_,⟨_,_,I,⟨⟨a,b,I,h1,h2⟩,hp⟩,⟨⟨c,d,I,D,C⟩,hq⟩⟩,I⟩
def addS(a b:Sp):Sp:=(a.1+b.1,a.2+b.2)
theorem zOI{w0:World}{h0 h:Mem}{L:List Res}{G G':Mem->Value->Res->Prop}(k:∀g v q,G g v q->G' g v q)(x:Ending)(w:World)(s:bC w0 h0 h L G x w):bC w0 h0 h L G' x w:=by
 obtain⟨v,g,K,e,⟨q,h1,h2,h3⟩,S⟩:=s;exact⟨v,g,K,e,⟨q,h1,h2,k _ _ _ h3⟩,S⟩
abbrev Pt:=T3 Rat
abbrev P2:=Rat×Rat
def pr(p:Pt)(i j:Nat):P2:=(p.at i,p.at j)
theorem zJN{c:Prop} [Decidable c](a b:Pt)(i j:Nat):pr (if c then a else b) i j=if c then pr a i j else pr b i j:=by split<;>rfl
def cr(u v w:P2):Rat:=(v.1-u.1)*(w.2-u.2)-(v.2-u.2)*(w.1-u.1)
def orZ(u v w:P2):Int:=yU (cr u v w)
def rJ(a b x:Rat):Prop:=(a<=x/\x<=b)\/(x<=a/\b<=x)
def onS(u v p:P2):Prop:=rJ u.1 v.1 p.1/\rJ u.2 v.2 p.2/\cr u v p=0
def kL(a b c d:Rat):Prop:=(a<c/\a<d/\b<c/\b<d)\/(c<a/\d<a/\c<b/\d<b)
def lx(u v:P2):Prop:=u.1<v.1\/(u.1=v.1/\u.2<v.2)
def lo2(u v:P2):P2:=if lx v u then v else u
def hi2(u v:P2):P2:=if lx v u then u else v
def eT(a b c d:P2):Int:=
 if lx (if lx d b then d else b) (if lx a c then c else a) then 0 else if lx (if lx a c then c else a) (if lx d b then d else b) then 3
 else if((if lx a c then c else a)=a\/(if lx a c then c else a)=b)/\((if lx a c then c else a)=c\/(if lx a c then c else a)=d) then 1 else 2
def lP(a b c d:P2):Int:=eT (lo2 a b) (hi2 a b) (lo2 c d) (hi2 c d)
def tF(a b c d:P2):Int:=
 if kL a.1 b.1 c.1 d.1\/kL a.2 b.2 c.2 d.2 then 0
 else if orZ a b c=0/\orZ a b d=0/\orZ c d a=0/\orZ c d b=0 then lP a b c d
 else if 0<orZ a b c*orZ a b d\/0<orZ c d a*orZ c d b then 0
 else if(orZ a b c=0\/orZ a b d=0)/\(orZ c d a=0\/orZ c d b=0) then 1 else 2
def zD2(a b c d:P2):Int:=
 if lx (if lx d b then d else b) (if lx a c then c else a) then 0 else if(if lx a c then c else a)≠(if lx d b then d else b) then 3
 else if((if lx a c then c else a)=a\/(if lx a c then c else a)=b)/\((if lx a c then c else a)=c\/(if lx a c then c else a)=d)/\onS a b (if lx a c then c else a)/\onS c d (if lx a c then c else a) then 1
 else if onS a b (if lx a c then c else a)/\onS c d (if lx a c then c else a) then 2 else 0
def dZ(a b c d:P2):Int:=if(a=b/\onS c d a)\/(c=d/\onS a b c) then 2 else 0
def zJA(a b c d:P2):Int:=
 if orZ a b c=0/\orZ a b d=0/\orZ c d a=0/\orZ c d b=0 then zD2 a b c d
 else if a=b\/c=d then dZ a b c d
 else if 0<orZ a b c*orZ a b d\/0<orZ c d a*orZ c d b then 0
 else if a=c\/a=d\/b=c\/b=d then 1 else 2
def oF(a b c d:P2):Int:=zJA (lo2 a b) (hi2 a b) (lo2 c d) (hi2 c d)
def cr2(ax ay bx by' cx cy:Rat):Rat:=(bx-ax)*(cy-ay)-(by'-ay)*(cx-ax)
theorem zJP{D e u v:Rat}(hD:0<D)(h0:0<=e)(h1:e<=D)(h:D*u=v*e):(0<=v->0<=u/\u<=v)/\(v<=0->v<=u/\u<=0):=by
 constructor
 · intro G
   constructor
   · refine Rat.not_lt.1 λC=>?_
     have h2:=zqe C hD;have h3:=zod G h0;grind
   · refine Rat.not_lt.1 λC=>?_
     have h2:=zqe C hD;have h3:=zze h1 G;grind
 · intro G
   constructor
   · refine Rat.not_lt.1 λC=>?_
     have h2:=zqe C hD;have h3:=zze h1 (c:=-v) zo2;grind
   · refine Rat.not_lt.1 λC=>?_
     have h2:=zqe C hD;have h3:=zod (a:=-v) (b:=e) zo2 h0;grind
theorem zMZ{a b:Rat}(h:a<=b):a<b\/a=b:=by grind
theorem sT{a b:Rat}(h:a*b=0):a=0\/b=0:=zoe.1 h
def lex(ax ay bx by':Rat):Prop:=ax<bx\/(ax=bx/\ay<by')
theorem zKL{ax ay bx by':Rat}:¬lex bx by' ax ay↔ax<bx\/(ax=bx/\ay<=by'):=by
 unfold lex;grind
theorem zC2{ax ay bx by' px py:Rat}(hs:¬lex bx by' ax ay)(hc:cr2 ax ay bx by' px py=0):
 (¬lex px py ax ay/\¬lex bx by' px py)↔(rJ ax bx px/\rJ ay by' py):=by
 rw[zKL] at hs;rw[zKL,zKL];unfold cr2 at hc;unfold rJ
 rcases hs with hs|⟨hx,hy⟩
 · have J:0<bx-ax:=by grind
   have H:(bx-ax)*(py-ay)=(by'-ay)*(px-ax):=by grind
   constructor
   · rintro⟨h1,h2⟩
     have h3:0<=px-ax:=by grind
     have C:px-ax<=bx-ax:=by grind
     obtain⟨G,D⟩:=zJP J h3 C H;refine⟨.inl ⟨by grind,by grind⟩,?_⟩
     rcases zP0 ay by' with h7|h7
     · have:=G zo2;grind
     · have:=D zo2;grind
   · rintro⟨h1,h2⟩
     have h3:ax<=px/\px<=bx:=by grind
     constructor
     · rcases zMZ h3.1 with C|C
       · exact .inl C
       · refine .inr ⟨C,?_⟩
         have G:(bx-ax)*(py-ay)=0:=by grind
         rcases sT G with D|D<;>grind
     · rcases zMZ h3.2 with C|C
       · exact .inl C
       · refine .inr ⟨C,?_⟩
         have G:(bx-ax)*(py-by')=0:=by grind
         rcases sT G with D|D<;>grind
 · subst hx
   grind
theorem zG6{a b x:Rat}:rJ a b x↔rJ b a x:=by unfold rJ;grind
theorem zNF(ax ay bx by' cx cy:Rat):cr2 bx by' ax ay cx cy= -cr2 ax ay bx by' cx cy:=by unfold cr2;grind
theorem yFL{ax ay bx by' px py:Rat}:(cr2 ax ay bx by' px py=0/\(if lex bx by' ax ay then ¬lex px py bx by'/\¬lex ax ay px py else ¬lex px py ax ay/\¬lex bx by' px py))↔(rJ ax bx px/\rJ ay by' py/\cr2 ax ay bx by' px py=0):=by
 by_cases hc:cr2 ax ay bx by' px py=0
 · simp only[hc,true_and,and_true]
   by_cases hl:lex bx by' ax ay
   · rw[zau hl]
     have h1:¬lex ax ay bx by':=by unfold lex at *;grind
     have h2:cr2 bx by' ax ay px py=0:=by rw[zNF,hc];grind
     rw[zC2 h1 h2,zG6,zG6 (a:=by')]
   · rw[zae hl]
     exact zC2 hl hc
 · simp[hc]
theorem zI1{ux uy vx vy wx wy:Rat}(h:ux≠0\/uy≠0)(h1:vx*uy=vy*ux)(h2:wx*uy=wy*ux):vx*wy=vy*wx:=by
 rcases h with h|h
 · have e:ux*(vx*wy-vy*wx)=0:=by grind
   rcases sT e with h3|h3
   · exact absurd h3 h
   · grind
 · have e:uy*(vx*wy-vy*wx)=0:=by grind
   rcases sT e with h3|h3
   · exact absurd h3 h
   · grind
theorem zT3{ax ay bx by' cx cy dx dy:Rat}(hp:cr2 ax ay bx by' cx cy=0)(hr:cr2 cx cy dx dy ax ay=0):
 (ax=cx/\ay=cy)\/(cr2 ax ay bx by' dx dy=0/\cr2 cx cy dx dy bx by'=0):=by
 by_cases h:ax=cx/\ay=cy
 · exact .inl h
 · refine .inr ?_
   have C:cx-ax≠0\/cy-ay≠0:=by grind
   have h1:(bx-ax)*(cy-ay)=(by'-ay)*(cx-ax):=by unfold cr2 at hp;grind
   have h2:(dx-ax)*(cy-ay)=(dy-ay)*(cx-ax):=by unfold cr2 at hr;grind
   have h3:=zI1 C h1 h2;unfold cr2;constructor<;>grind
theorem zNE{ax ay bx by' cx cy dx dy:Rat}(hpq:cr2 ax ay bx by' cx cy≠cr2 ax ay bx by' dx dy)(h1:cr2 ax ay bx by' cx cy*cr2 ax ay bx by' dx dy<=0)(h2:cr2 cx cy dx dy ax ay*cr2 cx cy dx dy bx by'<=0)(hrs:cr2 cx cy dx dy ax ay≠cr2 cx cy dx dy bx by'):
 ∃x y,rJ ax bx x/\rJ ay by' y/\rJ cx dx x/\rJ cy dy y:=by
 obtain⟨p,J⟩:∃p,p=cr2 ax ay bx by' cx cy:=⟨_,I⟩;obtain⟨q,H⟩:∃q,q=cr2 ax ay bx by' dx dy:=⟨_,I⟩;obtain⟨r,G⟩:∃r,r=cr2 cx cy dx dy ax ay:=⟨_,I⟩;obtain⟨s,es⟩:∃s,s=cr2 cx cy dx dy bx by':=⟨_,I⟩;rw[<-J,<-H] at hpq h1;rw[<-G,<-es] at hrs h2;have hw:∀{u v:Rat},u≠v->u*v<=0->0<=u/(u-v)/\u/(u-v)<=1:=by
  intro u v ab ac;have h3:u-v≠0:=by grind
  have D:0<(u-v)*(u-v):=by
   rcases zDA (u-v) 0 with h|h|h
   · have:=z8i (a:=-(u-v)) (b:=-(u-v)) zo2 zo2;grind
   · exact absurd h h3
   · exact z8i h h
  have e:u/(u-v)*((u-v)*(u-v))=u*(u-v):=by grind
  have h5:0<=u*u:=zCP u;have h6:0<=v*v:=zCP v;constructor
  · rw[zAP D,e];grind
  · rw[zAP D,e];grind
 obtain⟨t1,t2⟩:=hw hpq h1;obtain⟨w1,Z⟩:=hw hrs h2;have hb:∀{u v t:Rat},0<=t->t<=1->rJ u v (u+t*(v-u)):=by
  intro u v t h3 D;unfold rJ
  rcases zP0 u v with h5|h5
  · left
    have h6:=zod h3 (show 0<=v-u by grind);have h7:=zze D (show 0<=v-u by grind);constructor<;>grind
  · right
    have h6:=zod h3 (show 0<=u-v by grind);have h7:=zze D (show 0<=u-v by grind);constructor<;>grind
 have C:p-q≠0:=by grind
 have aa:r-s≠0:=by grind
 have zTY:p-q= -(r-s):=by rw[J,H,G,es];unfold cr2;grind
 have ex:cx+p/(p-q)*(dx-cx)=ax+r/(r-s)*(bx-ax):=by
  have e1:(p-q)*(cx+p/(p-q)*(dx-cx))=(p-q)*(ax+r/(r-s)*(bx-ax)):=by
   have U:(p-q)*(cx+p/(p-q)*(dx-cx))=(p-q)*cx+p*(dx-cx):=by grind
   have O:(p-q)*(ax+r/(r-s)*(bx-ax))=(p-q)*ax-r*(bx-ax):=by grind
   rw[U,O,J,H,G];unfold cr2;grind
  have M:(p-q)*((cx+p/(p-q)*(dx-cx))-(ax+r/(r-s)*(bx-ax)))=0:=by grind
  rcases sT M with h|h
  · exact absurd h C
  · grind
 have ey:cy+p/(p-q)*(dy-cy)=ay+r/(r-s)*(by'-ay):=by
  have e1:(p-q)*(cy+p/(p-q)*(dy-cy))=(p-q)*(ay+r/(r-s)*(by'-ay)):=by
   have U:(p-q)*(cy+p/(p-q)*(dy-cy))=(p-q)*cy+p*(dy-cy):=by grind
   have O:(p-q)*(ay+r/(r-s)*(by'-ay))=(p-q)*ay-r*(by'-ay):=by grind
   rw[U,O,J,H,G];unfold cr2;grind
  have M:(p-q)*((cy+p/(p-q)*(dy-cy))-(ay+r/(r-s)*(by'-ay)))=0:=by grind
  rcases sT M with h|h
  · exact absurd h C
  · grind
 exact⟨_,_,ex▸hb w1 Z,ey▸hb w1 Z,hb t1 t2,hb t1 t2⟩
theorem bH{a b c d x:Rat}(h:kL a b c d)(h1:rJ a b x)(h2:rJ c d x):False:=by unfold kL rJ at *;grind
theorem yC3(u v w:P2):cr u v w=cr2 u.1 u.2 v.1 v.2 w.1 w.2:=rfl
theorem zBP{u v w:P2}:orZ u v w=0↔cr u v w=0:=uJ
theorem pJ{u v:P2}:¬lx v u↔lx u v\/u=v:=by
 unfold lx;rw[Prod.ext_iff];grind
theorem oV(u:P2):¬lx u u:=by unfold lx;grind
theorem bF{u v:P2}(h:lx u v):¬lx v u:=by unfold lx at *;grind
theorem zBZ{u v w:P2}(h:lx u v)(k:lx v w):lx u w:=by unfold lx at *;grind
theorem yA3{a b p:P2}:(orZ a b p=0/\(if lx b a then ¬lx p b/\¬lx a p else ¬lx p a/\¬lx b p))↔onS a b p:=by
 rw[zBP];exact yFL
theorem oO{a b p:P2}(hs:¬lx b a)(hc:cr a b p=0):(¬lx p a/\¬lx b p)↔onS a b p:=by
 have:=zC2 hs hc;unfold onS;rw[<-and_assoc,and_iff_left hc];exact this
theorem eO(a b c:P2):cr b a c= -cr a b c:=zNF _ _ _ _ _ _
theorem zBO(a b c:P2):orZ b a c= -orZ a b c:=by
 unfold orZ;rw[eO,bD,bD];grind
theorem nJ(a c:P2):cr a a c=0:=by unfold cr;grind
theorem zKX(a c:P2):cr a c c=0:=by unfold cr;grind
theorem w8(a c:P2):cr a c a=0:=by unfold cr;grind
theorem zD4{a b c d:Rat}:kL b a c d↔kL a b c d:=by unfold kL;grind
theorem zCI{a b c d:Rat}:kL a b d c↔kL a b c d:=by unfold kL;grind
theorem zMV(a b:P2):lo2 a b=lo2 b a:=by
 unfold lo2
 by_cases h:lx b a
 · rw[zau h,zae (bF h)]
 · rw[zae h]
   rcases pJ.1 h with h1|h1
   · rw[zau h1]
   · rw[h1,zae (oV _)]
theorem zM2(a b:P2):hi2 a b=hi2 b a:=by
 unfold hi2
 by_cases h:lx b a
 · rw[zau h,zae (bF h)]
 · rw[zae h]
   rcases pJ.1 h with h1|h1
   · rw[zau h1]
   · rw[h1,zae (oV _)]
theorem zDU(a b c d:P2):tF b a c d=tF a b c d:=by
 have e:lP b a c d=lP a b c d:=by unfold lP;rw[zMV b a,zM2 b a]
 unfold tF;rw[e,zD4,zD4 (a:=a.2),zBO a b c,zBO a b d];have h1:-orZ a b c*-orZ a b d=orZ a b c*orZ a b d:=by grind
 have h2:orZ c d b*orZ c d a=orZ c d a*orZ c d b:=Int.mul_comm _ _;rw[h1,h2];have h3:(-orZ a b c=0/\-orZ a b d=0/\orZ c d b=0/\orZ c d a=0)↔(orZ a b c=0/\orZ a b d=0/\orZ c d a=0/\orZ c d b=0):=by grind
 have C:((-orZ a b c=0\/-orZ a b d=0)/\(orZ c d b=0\/orZ c d a=0))↔((orZ a b c=0\/orZ a b d=0)/\(orZ c d a=0\/orZ c d b=0)):=by grind
 simp only[h3,C]
theorem zDT(a b c d:P2):tF a b d c=tF a b c d:=by
 have e:lP a b d c=lP a b c d:=by unfold lP;rw[zMV d c,zM2 d c]
 unfold tF;rw[e,zCI,zCI (a:=a.2),zBO c d a,zBO c d b];have h1:-orZ c d a*-orZ c d b=orZ c d a*orZ c d b:=by grind
 have h2:orZ a b d*orZ a b c=orZ a b c*orZ a b d:=Int.mul_comm _ _;rw[h1,h2];have h3:(orZ a b d=0/\orZ a b c=0/\-orZ c d a=0/\-orZ c d b=0)↔(orZ a b c=0/\orZ a b d=0/\orZ c d a=0/\orZ c d b=0):=by grind
 have C:((orZ a b d=0\/orZ a b c=0)/\(-orZ c d a=0\/-orZ c d b=0))↔((orZ a b c=0\/orZ a b d=0)/\(orZ c d a=0\/orZ c d b=0)):=by grind
 simp only[h3,C]
theorem zI9(a b c d:P2):tF a b c d=tF (lo2 a b) (hi2 a b) (lo2 c d) (hi2 c d):=by
 unfold lo2 hi2
 split
 · split
   · rw[zDU,zDT]
   · rw[zDU]
 · split
   · rw[zDT]
   · rfl
theorem zRQ(a b:P2):¬lx (hi2 a b) (lo2 a b):=by
 unfold lo2 hi2
 split
 · rename_i h;exact bF h
 · rename_i h;exact h
theorem oY{a b:P2}(h:¬lx b a):lo2 a b=a/\hi2 a b=b:=⟨zae h,zae h⟩
theorem zPY{a b c d:P2}(hab:¬lx b a)(hcd:¬lx d c)(h1:cr a b c=0)(h2:cr a b d=0)(h3:cr c d a=0)(h4:cr c d b=0)(hap:kL a.1 b.1 c.1 d.1\/kL a.2 b.2 c.2 d.2):lx b c\/lx d a:=by
 rcases hap with hap|hap
 · unfold kL at hap
   unfold lx;grind
 · -- the order along the line is that of the second coordinate, or its reverse
   rw[pJ] at hab hcd;refine zdu λH=>?_;have G:¬lx b c:=λe=>H (.inl e);have D:¬lx d a:=λe=>H (.inr e);rw[pJ] at G D
   -- c ≤ b and a ≤ d in the order of the line: the segments share a point
   have C:onS a b c\/onS c d a:=by
    by_cases e:lx c a
    · right
      refine(oO (pJ.2 hcd) h3).1 ⟨?_,?_⟩
      · exact bF e
      · exact pJ.2 D
    · left
      refine(oO (pJ.2 hab) h1).1 ⟨e,pJ.2 G⟩
   rcases C with⟨_,hb,_⟩|⟨_,hb,_⟩
   · exact bH hap hb (by unfold rJ;grind)
   · exact bH hap (x:=a.2) (by unfold rJ;grind) hb
theorem yBN{a b c d:P2}(hab:¬lx b a)(hcd:¬lx d c)(h1:cr a b c=0)(h2:cr a b d=0)(h3:cr c d a=0)(h4:cr c d b=0):zD2 a b c d=eT a b c d:=by
 unfold zD2 eT
 by_cases hh:lx (if lx d b then d else b) (if lx a c then c else a)
 · rw[zau hh,zau hh]
 · rw[zae hh,zae hh]
   by_cases he:(if lx a c then c else a)=(if lx d b then d else b)
   · rw[zae (λe=>e he),zae (show ¬lx (if lx a c then c else a) (if lx d b then d else b) by rw[he];exact oV _)]
     have C:onS a b (if lx a c then c else a)/\onS c d (if lx a c then c else a):=by
      have O:¬lx (if lx a c then c else a) a:=by
       split
       · rename_i h;exact bF h
       · exact oV _
      have M:¬lx (if lx a c then c else a) c:=by
       split
       · exact oV _
       · rename_i h;exact h
      have J:¬lx b (if lx a c then c else a):=by
       rw[he]
       split
       · rename_i h;exact bF h
       · exact oV _
      have H:¬lx d (if lx a c then c else a):=by
       rw[he]
       split
       · exact oV _
       · rename_i h;exact h
      have G:cr a b (if lx a c then c else a)=0:=by
       split
       · exact h1
       · exact w8 a b
      have D:cr c d (if lx a c then c else a)=0:=by
       split
       · exact w8 c d
       · exact h3
      exact⟨(oO hab G).1 ⟨O,J⟩,(oO hcd D).1 ⟨M,H⟩⟩
     by_cases hx:((if lx a c then c else a)=a\/(if lx a c then c else a)=b)/\((if lx a c then c else a)=c\/(if lx a c then c else a)=d)
     · rw[zau ⟨hx.1,hx.2,C⟩,zau hx]
     · rw[zae (λe=>hx ⟨e.1,e.2.1⟩),zau C,zae hx]
   · rw[zau he,zau ((pJ.1 hh).resolve_right he)]
theorem zLH{x y:Rat}:0<yU x*yU y↔0<x*y:=by
 have h1:=bD x;have h2:=bD y
 rcases zDA x 0 with hx|hx|hx<;>rcases zDA y 0 with hy|hy|hy
 · have:=z8i (a:=-x) (b:=-y) zo2 zo2
   have D:yU x= -1:=by grind
   have C:yU y= -1:=by grind
   rw[D,C];grind
 · subst hy;have e:x*0=0:=by grind
   have C:yU 0=0:=by grind
   rw[e,C];simp
 · have:=z8i (a:=-x) (b:=y) zo2 hy
   have D:yU x= -1:=by grind
   have C:yU y=1:=by grind
   rw[D,C];grind
 · subst hx;have e:0*y=0:=by grind
   have C:yU 0=0:=by grind
   rw[e,C];simp
 · subst hx;have e:0*y=0:=by grind
   have C:yU 0=0:=by grind
   rw[e,C];simp
 · subst hx;have e:0*y=0:=by grind
   have C:yU 0=0:=by grind
   rw[e,C];simp
 · have:=z8i (a:=x) (b:=-y) hx zo2
   have D:yU x=1:=by grind
   have C:yU y= -1:=by grind
   rw[D,C];grind
 · subst hy;have e:x*0=0:=by grind
   have C:yU 0=0:=by grind
   rw[e,C];simp
 · have:=z8i hx hy
   have D:yU x=1:=by grind
   have C:yU y=1:=by grind
   rw[D,C];grind
theorem oL{a b c d e f:P2}:0<orZ a b c*orZ d e f↔0<cr a b c*cr d e f:=zLH
theorem zR1{a b c d:P2}(hn:¬(cr a b c=0/\cr a b d=0/\cr c d a=0/\cr c d b=0)):((cr a b c=0\/cr a b d=0)/\(cr c d a=0\/cr c d b=0))↔(a=c\/a=d\/b=c\/b=d):=by
 have D:∀u v w:P2,cr u v w= -cr v u w:=λu v w=>eO v u w;constructor
 · rintro⟨h1,h2⟩
   -- one end of each
   have C:∀{p q r s:P2},cr p q r=0->cr r s p=0->p=r\/(cr p q s=0/\cr r s q=0):=by
    intro p q r s H G
    rcases zT3 H G with h|h
    · exact .inl (Prod.ext h.1 h.2)
    · exact .inr h
   rcases h1 with h1|h1<;>rcases h2 with h2|h2
   · rcases C h1 h2 with h|h
     · exact .inl h
     · exact absurd ⟨h1,h.1,h2,h.2⟩ hn
   · rcases C (p:=b) (q:=a) (r:=c) (s:=d) (by rw[eO,h1];grind) h2 with h|h
     · exact .inr (.inr (.inl h))
     · exact absurd ⟨h1,by rw[D,h.1];grind,h.2,h2⟩ hn
   · rcases C (p:=a) (q:=b) (r:=d) (s:=c) h1 (by rw[eO,h2];grind) with h|h
     · exact .inr (.inl h)
     · exact absurd ⟨h.1,h1,h2,by rw[D,h.2];grind⟩ hn
   · rcases C (p:=b) (q:=a) (r:=d) (s:=c) (by rw[eO,h1];grind) (by rw[eO,h2];grind) with h|h
     · exact .inr (.inr (.inr h))
     · exact absurd ⟨by rw[D,h.1];grind,h1,by rw[D,h.2];grind,h2⟩ hn
 · rintro(h|h|h|h)
   · subst h;exact⟨.inl (w8 a b),.inl (w8 a d)⟩
   · subst h;exact⟨.inr (w8 a b),.inl (zKX c a)⟩
   · subst h;exact⟨.inl (zKX a b),.inr (w8 b d)⟩
   · subst h;exact⟨.inr (zKX a b),.inr (zKX c b)⟩
theorem zZ4{a b c d:P2}(hab:¬lx b a)(hcd:¬lx d c):tF a b c d=zJA a b c d:=by
 unfold tF zJA;simp only[zBP]
 by_cases hz:cr a b c=0/\cr a b d=0/\cr c d a=0/\cr c d b=0
 · obtain⟨h1,h2,h3,U⟩:=hz
   rw[zau (show cr a b c=0/\cr a b d=0/\cr c d a=0/\cr c d b=0 from⟨h1,h2,h3,U⟩),zau (show cr a b c=0/\cr a b d=0/\cr c d a=0/\cr c d b=0 from⟨h1,h2,h3,U⟩),yBN hab hcd h1 h2 h3 U];unfold lP;rw[(oY hab).1,(oY hab).2,(oY hcd).1,(oY hcd).2]
   by_cases C:kL a.1 b.1 c.1 d.1\/kL a.2 b.2 c.2 d.2
   · rw[zau C]
     have D:=zPY hab hcd h1 h2 h3 U C;unfold eT;rw[zau]
     rcases D with D|D
     · have e1:lx a c:=by
        rcases pJ.1 hab with e|e
        · exact zBZ e D
        · rw[e];exact D
       have e2:¬lx d b:=by
        refine bF ?_
        rcases pJ.1 hcd with e|e
        · exact zBZ D e
        · rw[<-e];exact D
       rw[zae e2,zau e1];exact D
     · have e1:¬lx a c:=by
        refine bF ?_
        rcases pJ.1 hcd with e|e
        · exact zBZ e D
        · rw[e];exact D
       have e2:lx d b:=by
        rcases pJ.1 hab with e|e
        · exact zBZ D e
        · rw[<-e];exact D
       rw[zau e2,zae e1];exact D
   · rw[zae C]
 · rw[zae hz,zae hz]
   by_cases hd:a=b\/c=d
   · rw[zau hd]
     have e0:dZ a b c d=0:=by
      unfold dZ;rw[zae]
      rintro(⟨e,h⟩|⟨e,h⟩)
      · subst e
        exact hz ⟨nJ _ _,nJ _ _,h.2.2,h.2.2⟩
      · subst e
        exact hz ⟨h.2.2,h.2.2,nJ _ _,nJ _ _⟩
     rw[e0]
     by_cases C:kL a.1 b.1 c.1 d.1\/kL a.2 b.2 c.2 d.2
     · rw[zau C]
     · rw[zae C,zau]
       rw[oL,oL];have G:∀x:Rat,x≠0->0<x*x:=by
        intro x hx
        rcases zDA x 0 with h|h|h
        · have:=z8i (a:=-x) (b:=-x) zo2 zo2;grind
        · exact absurd h hx
        · exact z8i h h
       rcases hd with e|e
       · subst e
         right
         refine G _ λh=>?_;exact hz ⟨nJ _ _,nJ _ _,h,h⟩
       · subst e
         left
         refine G _ λh=>?_;exact hz ⟨h,h,nJ _ _,nJ _ _⟩
   · rw[zae hd]
     by_cases hs:0<orZ a b c*orZ a b d\/0<orZ c d a*orZ c d b
     · rw[zau hs,zau hs]
       split<;>rfl
     · rw[zae hs,zae hs]
       rw[oL,oL] at hs;have H:cr a b c*cr a b d<=0:=Rat.not_lt.1 λe=>hs (.inl e);have aa:cr c d a*cr c d b<=0:=Rat.not_lt.1 λe=>hs (.inr e);have M:¬(kL a.1 b.1 c.1 d.1\/kL a.2 b.2 c.2 d.2):=by
        intro C;have Z:∀{p q r s:P2},p≠q->cr p q r=0->cr p q s=0->cr r s p=0/\cr r s q=0:=by
         intro p q r s ab k1 k2;have hu:q.1-p.1≠0\/q.2-p.2≠0:=by
          refine zdu λe=>ab (Prod.ext ?_ ?_)<;>grind
         have k3:(r.1-p.1)*(q.2-p.2)=(r.2-p.2)*(q.1-p.1):=by unfold cr at k1;grind
         have k4:(s.1-p.1)*(q.2-p.2)=(s.2-p.2)*(q.1-p.1):=by unfold cr at k2;grind
         have k5:=zI1 hu k3 k4;unfold cr;constructor<;>grind
        have zTY:cr a b c-cr a b d= -(cr c d a-cr c d b):=by unfold cr;grind
        have J:cr a b c≠cr a b d:=by
         intro e;rw[e] at H;have h5:=zCP (cr a b d);have h6:cr a b d*cr a b d=0:=by grind
         have O:cr a b d=0:=by rcases sT h6 with h|h<;>exact h
         obtain⟨h8,h9⟩:=Z (λe=>hd (.inl e)) (by rw[e];exact O) O;exact hz ⟨by rw[e];exact O,O,h8,h9⟩
        obtain⟨x,y,k1,k2,k3,k4⟩:=zNE (ax:=a.1) (ay:=a.2) (bx:=b.1) (by':=b.2) (cx:=c.1) (cy:=c.2) (dx:=d.1) (dy:=d.2) J H aa (by intro e;apply J;rw[yC3 c d a,yC3 c d b,e] at zTY;grind)
        rcases C with h|h
        · exact bH h k1 k3
        · exact bH h k2 k4
       rw[zae M]
       by_cases he:(cr a b c=0\/cr a b d=0)/\(cr c d a=0\/cr c d b=0)
       · rw[zau he,zau ((zR1 hz).1 he)]
       · rw[zae he,zae (λe=>he ((zR1 hz).2 e))]
theorem zK9(a b c d:P2):tF a b c d=oF a b c d:=by
 rw[zI9];unfold oF;exact zZ4 (zRQ a b) (zRQ c d)
theorem zE5(a b c d:P2):tF c d a b=tF a b c d:=by
 have D:∀(a b c d:P2),¬lx b a->¬lx d c->eT c d a b=eT a b c d:=by
  intro a b c d _ _;unfold eT;have M:(if lx c a then a else c)=(if lx a c then c else a):=by
   by_cases h:lx a c
   · rw[zau h,zae (bF h)]
   · rw[zae h]
     rcases pJ.1 h with h1|h1
     · rw[zau h1]
     · rw[h1,zae (oV _)]
  have J:(if lx b d then b else d)=(if lx d b then d else b):=by
   by_cases h:lx d b
   · rw[zau h,zae (bF h)]
   · rw[zae h]
     rcases pJ.1 h with h1|h1
     · rw[zau h1]
     · rw[h1,zae (oV _)]
  rw[M,J];simp only[and_comm]
 have C:∀{a b c d:Rat},kL c d a b↔kL a b c d:=by intro a b c d;unfold kL;grind
 unfold tF;have e:lP c d a b=lP a b c d:=D _ _ _ _ (zRQ a b) (zRQ c d);rw[e,C (a:=a.1) (b:=b.1) (c:=c.1) (d:=d.1),C (a:=a.2) (b:=b.2) (c:=c.2) (d:=d.2)];have h3:(orZ c d a=0/\orZ c d b=0/\orZ a b c=0/\orZ a b d=0)↔(orZ a b c=0/\orZ a b d=0/\orZ c d a=0/\orZ c d b=0):=by grind
 have H:(0<orZ c d a*orZ c d b\/0<orZ a b c*orZ a b d)↔(0<orZ a b c*orZ a b d\/0<orZ c d a*orZ c d b):=or_comm;have G:((orZ c d a=0\/orZ c d b=0)/\(orZ a b c=0\/orZ a b d=0))↔((orZ a b c=0\/orZ a b d=0)/\(orZ c d a=0\/orZ c d b=0)):=and_comm;simp only[h3,H,G]
def yIE(n:Int):Int:=if 0<n then 1 else if n<0 then -1 else 0
theorem zBB(n:Int):yU (n:Rat)=yIE n:=by
 rw[bD];unfold yIE;have h0:((n:Rat)=0)↔n=0:=by
  have e:(0:Rat)=((0:Int):Rat):=I;rw[e,zsu]
 have h1:((n:Rat)<0)↔n<0:=by
  have e:(0:Rat)=((0:Int):Rat):=I;rw[e,yce]
 simp only[h0,h1]
 split
 · rename_i h;subst h;simp
 · split
   · rw[zae zos]
   · rw[zau zos]
theorem rS(a b c:P2):-1<=orZ a b c/\orZ a b c<=1:=xW _
theorem zV4{a b:Pt}{i j:Nat}:pr a i j=pr b i j↔a.at i=b.at i/\a.at j=b.at j:=by unfold pr;rw[Prod.ext_iff]
theorem zMY{a b:Pt}{i j:Nat}:(vH (a.at i) (b.at i)<0\/(vH (a.at i) (b.at i)=0/\vH (a.at j) (b.at j)<0))↔lx (pr a i j) (pr b i j):=by
 rw[aB,aV,aB];rfl
def loT(a b:Pt)(i j:Nat):Pt:=if lx (pr b i j) (pr a i j) then b else a
def hiT(a b:Pt)(i j:Nat):Pt:=if lx (pr b i j) (pr a i j) then a else b
def mxT(a c:Pt)(i j:Nat):Pt:=if lx (pr a i j) (pr c i j) then c else a
def mnT(b d:Pt)(i j:Nat):Pt:=if lx (pr d i j) (pr b i j) then d else b
def gp(l:List Pt)(m:Nat):Pt:=l.getD m (T3.mk (0:Rat) 0 0)
def uU(l:List Pt)(i j:Nat):Nat->Rat
  |0=>0
  |m+1=>uU l i j m+((gp l m).at i*(gp l ((m+1)%l.length)).at j-(gp l ((m+1)%l.length)).at i*(gp l m).at j)
theorem zZ3(a b c:Pt):yU (uU [a,b,c] 0 1 3)=orZ (pr a 0 1) (pr b 0 1) (pr c 0 1):=by
 have:uU [a,b,c] 0 1 3=cr (pr a 0 1) (pr b 0 1) (pr c 0 1):=by
  simp[uU,gp,pr,cr,T3.at];grind
 unfold orZ;rw[this]
def dP(a b p:P2):Prop:=¬(a.2<=p.2↔b.2<=p.2)/\((a.2<=p.2/\0<orZ a b p)\/(b.2<=p.2/\orZ a b p<0))
def gP(l:List Pt)(i j m:Nat):P2:=pr (gp l m) i j
def gO(l:List Pt)(i j m:Nat):P2:=pr (gp l ((m+1)%l.length)) i j
def bS(l:List Pt)(p:P2)(i j:Nat):Nat->Prop
  |0=>False
  |m+1=>(dP (gP l i j m) (gO l i j m) p/\¬bS l p i j m)\/(¬dP (gP l i j m) (gO l i j m) p/\bS l p i j m)
def zAR(l:List Pt)(p:P2)(i j:Nat):Int:=
 if ∃m,m<l.length/\onS (gP l i j m) (gO l i j m) p then 0 else if bS l p i j l.length then 1 else -1
theorem yGI{l:List Pt}{p:P2}{i j m:Nat}(hm:m<l.length)(h:onS (gP l i j m) (gO l i j m) p):0=zAR l p i j:=(zau ⟨m,hm,h⟩).symm
theorem yGJ{l:List Pt}{p:P2}{i j n:Nat}(hn:¬n<l.length)(hn2:n<=l.length)(h:∀q,q<n->¬onS (gP l i j q) (gO l i j q) p)(ho:bS l p i j n):1=zAR l p i j:=by
 have e:n=l.length:=by omega
 subst e;unfold zAR;rw[zae (λ⟨m,D,C⟩=>h m D C),zau ho]
theorem yBT{l:List Pt}{p:P2}{i j n:Nat}(hn:¬n<l.length)(hn2:n<=l.length)(h:∀q,q<n->¬onS (gP l i j q) (gO l i j q) p)(ho:¬bS l p i j n):-1=zAR l p i j:=by
 have e:n=l.length:=by omega
 subst e;unfold zAR;rw[zae (λ⟨m,D,C⟩=>h m D C),zae ho]
theorem zQ5{l:List Pt}{p:P2}{i j n:Nat}(h:∀q,q<n->¬onS (gP l i j q) (gO l i j q) p)(h1:¬onS (gP l i j n) (gO l i j n) p):∀q,q<n+1->¬onS (gP l i j q) (gO l i j q) p:=λq hq=>by
 rcases znu.1 hq with h2|h2
 · exact h q h2
 · subst h2;exact h1
theorem yGB{a b:Pt}(h:¬vH a.x b.x=0):vH a.x b.x<0↔lx (pr a 0 1) (pr b 0 1):=by
 have h2:=zMY (a:=a) (b:=b) (i:=0) (j:=1);rw[<-h2];exact⟨.inl,λe=>e.elim id λe=>absurd e.1 h⟩
theorem yGA{a b:Pt}(h:¬¬vH a.x b.x=0):vH a.y b.y<0↔lx (pr a 0 1) (pr b 0 1):=by
 have h1:=zdi h;have h2:=zMY (a:=a) (b:=b) (i:=0) (j:=1);rw[<-h2];exact⟨λe=>.inr ⟨h1,e⟩,λe=>e.elim (λe=>absurd h1 (by have:vH a.x b.x<0:=e;omega)) λe=>e.2⟩
theorem zOO(a b:Pt)(i j:Nat):pr (loT a b i j) i j=lo2 (pr a i j) (pr b i j):=zJN _ _ _ _
theorem zOP(a b:Pt)(i j:Nat):pr (hiT a b i j) i j=hi2 (pr a i j) (pr b i j):=zJN _ _ _ _
theorem yFM{a b p:Pt}{i j:Nat}:(orZ (pr (loT a b i j) i j) (pr (hiT a b i j) i j) (pr p i j)=0/\¬lx (pr p i j) (pr (loT a b i j) i j)/\¬lx (pr (hiT a b i j) i j) (pr p i j))↔onS (pr a i j) (pr b i j) (pr p i j):=by
 rw[zOO,zOP,<-yA3,zBP,zBP];unfold lo2 hi2
 split
 · rw[eO]
   grind
 · exact Iff.rfl
def zGI(a b c d lo hi:Pt):Int:=
 if lx (pr hi 0 1) (pr lo 0 1) then 0 else if ¬pr lo 0 1=pr hi 0 1 then 3
 else if(((pr lo 0 1=pr a 0 1\/pr lo 0 1=pr b 0 1)/\(pr lo 0 1=pr c 0 1\/pr lo 0 1=pr d 0 1))/\onS (pr a 0 1) (pr b 0 1) (pr lo 0 1))/\onS (pr c 0 1) (pr d 0 1) (pr lo 0 1) then 1
 else if onS (pr a 0 1) (pr b 0 1) (pr lo 0 1)/\onS (pr c 0 1) (pr d 0 1) (pr lo 0 1) then 2 else 0
theorem zGH{a b c d lo hi:Pt}(h1:lo=mxT a c 0 1)(h2:hi=mnT b d 0 1):zGI a b c d lo hi=zD2 (pr a 0 1) (pr b 0 1) (pr c 0 1) (pr d 0 1):=by
 have D:pr lo 0 1=if lx (pr a 0 1) (pr c 0 1) then pr c 0 1 else pr a 0 1:=by rw[h1];exact zJN _ _ _ _
 have C:pr hi 0 1=if lx (pr d 0 1) (pr b 0 1) then pr d 0 1 else pr b 0 1:=by rw[h2];exact zJN _ _ _ _
 unfold zGI zD2;rw[D,C];simp only[and_assoc,ne_eq]
def s7(a b c d:Pt):Int:=
 if((orZ (pr a 0 1) (pr b 0 1) (pr c 0 1)=0/\orZ (pr a 0 1) (pr b 0 1) (pr d 0 1)=0)/\orZ (pr c 0 1) (pr d 0 1) (pr a 0 1)=0)/\orZ (pr c 0 1) (pr d 0 1) (pr b 0 1)=0 then zD2 (pr a 0 1) (pr b 0 1) (pr c 0 1) (pr d 0 1)
 else if pr a 0 1=pr b 0 1\/pr c 0 1=pr d 0 1 then dZ (pr a 0 1) (pr b 0 1) (pr c 0 1) (pr d 0 1)
 else if 0<orZ (pr a 0 1) (pr b 0 1) (pr c 0 1)*orZ (pr a 0 1) (pr b 0 1) (pr d 0 1)\/0<orZ (pr c 0 1) (pr d 0 1) (pr a 0 1)*orZ (pr c 0 1) (pr d 0 1) (pr b 0 1) then 0
 else if((pr a 0 1=pr c 0 1\/pr a 0 1=pr d 0 1)\/pr b 0 1=pr c 0 1)\/pr b 0 1=pr d 0 1 then 1 else 2
theorem zA4{a b c d A B C D:Pt}(h1:A=loT (T3.mk a.x a.y 0) (T3.mk b.x b.y 0) 0 1)(h2:B=hiT (T3.mk a.x a.y 0) (T3.mk b.x b.y 0) 0 1)(h3:C=loT (T3.mk c.x c.y 0) (T3.mk d.x d.y 0) 0 1)(h4:D=hiT (T3.mk c.x c.y 0) (T3.mk d.x d.y 0) 0 1):
 s7 A B C D=oF (pr a 0 1) (pr b 0 1) (pr c 0 1) (pr d 0 1):=by
 have M:pr A 0 1=lo2 (pr a 0 1) (pr b 0 1):=by rw[h1];exact zOO _ _ _ _
 have J:pr B 0 1=hi2 (pr a 0 1) (pr b 0 1):=by rw[h2];exact zOP _ _ _ _
 have H:pr C 0 1=lo2 (pr c 0 1) (pr d 0 1):=by rw[h3];exact zOO _ _ _ _
 have G:pr D 0 1=hi2 (pr c 0 1) (pr d 0 1):=by rw[h4];exact zOP _ _ _ _
 unfold s7 oF zJA;rw[M,J,H,G];simp only[and_assoc,or_assoc]
end Bk
namespace Bk
open Classical
def zCL(a b:Pt):Pt:=if 0<vH a.y b.y then b else a
def zD6(a b:Pt):Pt:=if 0<vH a.y b.y then a else b
theorem zGY(a b p:Pt):((vH (zCL a b).y p.y<=0/\vH p.y (zD6 a b).y<0)/\0<orZ (pr (zCL a b) 0 1) (pr (zD6 a b) 0 1) (pr p 0 1))↔dP (pr a 0 1) (pr b 0 1) (pr p 0 1):=by
 unfold zCL zD6 dP;rw[zQB,aB];have H:(pr a 0 1).2=a.y:=I;have G:(pr b 0 1).2=b.y:=I;have D:(pr p 0 1).2=p.y:=I;rw[H,G,D]
 by_cases h:0<vH a.y b.y
 · have h1:=dQ.1 h
   rw[zau h,zau h,zBO (pr a 0 1) (pr b 0 1)];constructor
   · rintro⟨⟨h2,h3⟩,C⟩
     exact⟨λe=>by grind,.inr ⟨h2,by omega⟩⟩
   · rintro⟨h2,h3|h3⟩
     · exact absurd ⟨λ_=>by grind,λ_=>h3.1⟩ h2
     · exact⟨⟨h3.1,by grind⟩,by omega⟩
 · have h1:¬b.y<a.y:=λe=>h (dQ.2 e)
   rw[zae h,zae h];constructor
   · rintro⟨⟨h2,h3⟩,C⟩
     exact⟨λe=>by grind,.inl ⟨h2,C⟩⟩
   · rintro⟨h2,h3|h3⟩
     · exact⟨⟨h3.1,by grind⟩,h3.2⟩
     · exact absurd ⟨λ_=>h3.1,λ_=>by grind⟩ h2
theorem yFN{l:List Pt}{p:P2}{i j n:Nat}(h:dP (gP l i j n) (gO l i j n) p):(¬bS l p i j n)=bS l p i j (n+1):=by
 show _=(_\/_)
 simp[h]
theorem yA5{l:List Pt}{p:P2}{i j n:Nat}(h:¬dP (gP l i j n) (gO l i j n) p):bS l p i j n=bS l p i j (n+1):=by
 show _=(_\/_)
 simp[h]
def yDK(L:List (List Pt))(p:P2)(i j:Nat):Nat->Int
  |0=>-1
  |m+1=>if zAR (L.getD m []) p i j=1 then -(yDK L p i j m) else yDK L p i j m
def whZ(L:List (List Pt))(p:P2)(i j:Nat):Int:=if ∃m,m<L.length/\zAR (L.getD m []) p i j=0 then 0 else yDK L p i j L.length
def zQ1(R:Nat->Nat->Prop)(n a:Nat):Prop:=∀p q,p<a->p<q->q<n->R p q
def yJH(l:List Pt)(i j p q:Nat):Prop:=¬pr (gp l p) i j=pr (gp l q) i j
def zHR(n p q:Nat):Int:=if q=p+1\/(p=0/\q+1=n) then 1 else 0
def okT(l:List Pt)(i j p q:Nat):Prop:=tF (gP l i j p) (gO l i j p) (gP l i j q) (gO l i j q)=zHR l.length p q
def aG(l:List Pt)(i j:Nat):Prop:=3<=l.length/\zQ1 (yJH l i j) l.length l.length/\zQ1 (okT l i j) l.length l.length
theorem yDL{n p q:Nat}(h:q=p+1\/(p=0/\q+1=n)):(1:Int)=zHR n p q:=(zau h).symm
theorem yDM{n p q:Nat}(h:¬(q=p+1\/(p=0/\q+1=n))):(0:Int)=zHR n p q:=(zae h).symm
def s4(a b:List Pt)(i j p q:Nat):Prop:=1<tF (gP a i j p) (gO a i j p) (gP b i j q) (gO b i j q)
def fD(a b:List Pt)(i j:Nat):Prop:=∃p q,p<a.length/\q<b.length/\s4 a b i j p q
theorem zVP{Q:Nat->Nat->Prop}{p q n:Nat}(h:∀v,v<q->¬Q p v)(h1:¬Q p q):∀v,v<q+1->¬Q p v:=λv hv=>by
 rcases znu.1 hv with h2|h2
 · exact h v h2
 · subst h2;exact h1
theorem qN{Q:Nat->Prop}{q:Nat}(h:∀v,v<q->Q v)(h1:Q q):∀v,v<q+1->Q v:=λv hv=>by
 rcases znu.1 hv with h2|h2
 · exact h v h2
 · subst h2;exact h1
theorem zS4{Q:Nat->Nat->Prop}{p q n:Nat}(h:∀u v,u<p->v<n->¬Q u v)(h1:∀v,v<q->¬Q p v)(hq:n<=q):∀u v,u<p+1->v<n->¬Q u v:=λu v hu hv=>by
 rcases znu.1 hu with h2|h2
 · exact h u v h2 hv
 · subst h2;exact h1 v zos
theorem zUQ{Q:Nat->Nat->Prop}{p q:Nat}(h:∀u v,v<p->u<v->¬Q u v)(h1:∀u,u<q->¬Q u p)(hq:p<=q):∀u v,v<p+1->u<v->¬Q u v:=λu v hv hu=>by
 rcases znu.1 hv with h2|h2
 · exact h u v h2 hu
 · subst h2;exact h1 u zos
def zPR(u v:P2):P2:=(zC8 u.1 v.1,zC8 u.2 v.2)
def pW(c l:List Pt)(i j:Nat):Nat->Int
  |0=>0
  |m+1=>if zAR c (zPR (gP l i j m) (gO l i j m)) i j=1 then pW c l i j m+1 else pW c l i j m
theorem oC(c l:List Pt)(i j:Nat):∀m,0<=pW c l i j m/\pW c l i j m<=m
  |0=>by unfold pW;omega
  |m+1=>by
   have h:=oC c l i j m;unfold pW
   split<;>omega
theorem yDI{c l:List Pt}{i j m:Nat}{p:P2}(hp:p=zPR (gP l i j m) (gO l i j m))(h:zAR c p i j=1):pW c l i j m+1=pW c l i j (m+1):=by subst hp;exact(zau h).symm
theorem yDJ{c l:List Pt}{i j m:Nat}{p:P2}(hp:p=zPR (gP l i j m) (gO l i j m))(h:¬zAR c p i j=1):pW c l i j m=pW c l i j (m+1):=by subst hp;exact(zae h).symm
def arZ(l:List Pt)(i j:Nat):Rat:=uU l i j l.length
def wiZ(c l:List Pt)(i j:Nat):Int:=pW c l i j l.length
abbrev gl(L:List (List Pt))(m:Nat):List Pt:=L.getD m []
def yJN(L:List (List Pt))(i j k m:Nat)(best:Int):Prop:=
 (0<yU (arZ (gl L m) i j)/\wiZ (gl L m) (gl L k) i j=↑(gl L k).length)/\(best<0\/vH (arZ (gl L m) i j) (arZ (gl L best.toNat) i j)<0)
def sG(L:List (List Pt))(i j k:Nat):Nat->Int
  |0=>-1
  |m+1=>if yJN L i j k m (sG L i j k m) then ↑m else sG L i j k m
theorem zC1(L:List (List Pt))(i j k:Nat):∀m,-1<=sG L i j k m/\sG L i j k m<m
  |0=>by unfold sG;omega
  |m+1=>by
   have h:=zC1 L i j k m;unfold sG
   split<;>omega
def pZ(L:List (List Pt))(i j k:Nat):Int:=if 0<yU (arZ (gl L k) i j) then -1 else sG L i j k L.length
def zCS(L:List (List Pt))(i j a b:Nat):Prop:=((¬b=a/\0<=pZ L i j a)/\pZ L i j b=pZ L i j a)/\0<wiZ (gl L b) (gl L a) i j
def eX(L:List (List Pt))(i j k:Nat):Prop:=¬0<yU (arZ (gl L k) i j)/\sG L i j k L.length<0
def uF(L:List (List Pt))(i j:Nat):Int:=
 if 16<L.length\/∃m,m<L.length/\64<(gl L m).length then 2
 else if ∃m,m<L.length/\¬aG (gl L m) i j then 8
 else if ∃a b,a<b/\b<L.length/\fD (gl L a) (gl L b) i j then 32
 else if(∃k,k<L.length/\eX L i j k)\/∃a b,a<L.length/\b<L.length/\zCS L i j a b then 33 else 0
def sS(L:List (List Pt))(i j:Nat):List Int:=if uF L i j=0 then(List.range L.length).map (pZ L i j) else[]
theorem zKB{L:List (List Pt)}{i j:Nat}(h:16<L.length\/∃m,m<L.length/\64<(gl L m).length):uF L i j=2/\sS L i j=[]:=by
 have e:uF L i j=2:=zau h;exact⟨e,zae (by rw[e];decide)⟩
theorem zW0{L:List (List Pt)}{i j:Nat}(h1:¬16<L.length)(h2:∀m,m<L.length->¬64<(gl L m).length)(h:∃m,m<L.length/\¬aG (gl L m) i j):uF L i j=8/\sS L i j=[]:=by
 have e:uF L i j=8:=by
  unfold uF;rw[zae (by rintro(h|⟨m,C,h⟩);exact h1 h;exact h2 m C h),zau h]
 exact⟨e,zae (by rw[e];decide)⟩
theorem zQ9{L:List (List Pt)}{i j:Nat}(h1:¬16<L.length)(h2:∀m,m<L.length->¬64<(gl L m).length)(h3:∀m,m<L.length->aG (gl L m) i j)(h:∃a b,a<b/\b<L.length/\fD (gl L a) (gl L b) i j):uF L i j=32/\sS L i j=[]:=by
 have e:uF L i j=32:=by
  unfold uF;rw[zae (by rintro(h|⟨m,C,h⟩);exact h1 h;exact h2 m C h),zae (by rintro⟨m,C,h⟩;exact h (h3 m C)),zau h]
 exact⟨e,zae (by rw[e];decide)⟩
theorem zEO{L:List (List Pt)}{i j:Nat}(h1:¬16<L.length)(h2:∀m,m<L.length->¬64<(gl L m).length)(h3:∀m,m<L.length->aG (gl L m) i j)(h4:∀a b,b<L.length->a<b->¬fD (gl L a) (gl L b) i j)
    (h:(∃k,k<L.length/\eX L i j k)\/∃a b,a<L.length/\b<L.length/\zCS L i j a b):uF L i j=33/\sS L i j=[]:=by
 have e:uF L i j=33:=by
  unfold uF;rw[zae (by rintro(h|⟨m,C,h⟩);exact h1 h;exact h2 m C h),zae (by rintro⟨m,C,h⟩;exact h (h3 m C)),zae (by rintro⟨a,b,D,hb,h⟩;exact h4 a b hb D h),zau h]
 exact⟨e,zae (by rw[e];decide)⟩
theorem zXP{O:List Int}{n:Nat}{f:Nat->Int}(hl:O.length=n)(h:∀q,q<n->O.getD q 0=f q):O=(List.range n).map f:=by
 refine List.ext_getElem (by simp[hl]) λq h1 h2=>?_;have h3:=h q zos;rw[zoa,zoc h1] at h3;simp only[Option.getD_some] at h3;simp[h3]
theorem zW1{L:List (List Pt)}{i j:Nat}{O:List Int}(h1:¬16<L.length)(h2:∀m,m<L.length->¬64<(gl L m).length)(h3:∀m,m<L.length->aG (gl L m) i j)(h4:∀a b,b<L.length->a<b->¬fD (gl L a) (gl L b) i j)
    (h5:∀k,k<L.length->¬eX L i j k)(h6:∀a b,a<L.length->b<L.length->¬zCS L i j a b)(hl:O.length=L.length)(hO:∀q,q<L.length->O.getD q 0=pZ L i j q):uF L i j=0/\sS L i j=O:=by
 have e:uF L i j=0:=by
  unfold uF;rw[zae (by rintro(h|⟨m,C,h⟩);exact h1 h;exact h2 m C h),zae (by rintro⟨m,C,h⟩;exact h (h3 m C)),zae (by rintro⟨a,b,D,hb,h⟩;exact h4 a b hb D h),
   zae (by rintro(⟨k,G,h⟩|⟨a,b,D,hb,h⟩);exact h5 k G h;exact h6 a b D hb h)]
 exact⟨e,by unfold sS;rw[zau e];exact(zXP hl hO).symm⟩
end Bk
namespace Bk
open Classical
open Go Go.RowKit
def uP:Rp (List Nat) where
 n:=1
 agg:=false
 R _ cs s:=cs=[.string (qW s)]/\ByB s
 len:=by rintro h cs s ⟨rfl,_⟩;rfl
 mono:=λ_ r=>r
 one:=by rintro h cs s ⟨rfl,_⟩;rfl
 cell:=λ_=>rfl
theorem bA{h:Mem}{s:List Nat}(hb:ByB s):uP.Is h (.string (qW s)) s:=⟨_,⟨rfl,hb⟩,rfl⟩
theorem kV{h:Mem}{v:Value}{s:List Nat}(r:uP.Is h v s):v=.string (qW s)/\ByB s:=by
 obtain⟨cs,⟨rfl,hb⟩,rfl⟩:=r;exact⟨I,hb⟩
theorem kE{h:Mem}:uP.R h [.string ⟨#[]⟩] []:=⟨rfl,ByB.nil⟩
def lsN:List Nat->List Nat->Prop
  |[],[]=>False
  |[],_::_=>True
  |_::_,[]=>False
  |x::a,y::b=>if x=y then lsN a b else x<y
def rpV:Rp Value where
 n:=1
 agg:=false
 R _ cs v:=cs=[v]/\v.oneCell'=true
 len:=by rintro h cs v ⟨rfl,_⟩;rfl
 mono:=λ_ r=>r
 one:=by rintro h cs v ⟨rfl,hv⟩;simp[hv]
 cell:=λ_=>rfl
theorem dF{h:Mem}{v:Value}(hv:v.oneCell'=true):rpV.Is h v v:=⟨_,⟨rfl,hv⟩,rfl⟩
theorem yIO{h:Mem}{u v:Value}(r:rpV.Is h u v):v=u:=by
 obtain⟨cs,⟨rfl,C⟩,rfl⟩:=r
 rfl
theorem fG{h:Mem}:rpV.R h [.slice none 0 0] (.slice none 0 0):=⟨rfl,rfl⟩
section
variable {α β γ δ:Type}{h:Mem}
theorem zOF{ρ:Rp α}{v:Value}{xs:List α}(r:(rpS ρ).Is h v xs):(rpS ρ).R h [v] xs:=by
 obtain⟨cs,⟨u,ds,rfl,s,C⟩,rfl⟩:=r;exact⟨_,ds,I,s,C⟩
theorem zD8{π:Rp α}{ρ:Rp β}{τ:Rp γ}{cs:List Value}{p:α}{v:Value}{s:γ}{xs:List β}(r:(rpP π (rpP rpV τ)).R h cs (p,(v,s)))(k:(rpS ρ).Is h v xs):(rpP π (rpP (rpS ρ) τ)).R h cs (p,(xs,s)):=by
 obtain⟨a,b,e,G,c,d,H,⟨D,_⟩,C⟩:=r;exact⟨a,b,e,G,c,d,H,by rw[show c=[v] from D];exact zOF k,C⟩
theorem zZS{ρ:Rp β}{τ:Rp γ}{cs:List Value}{v:Value}{s:γ}{xs:List β}(r:(rpP rpV τ).R h cs (v,s))(k:(rpS ρ).Is h v xs):(rpP (rpS ρ) τ).R h cs (xs,s):=by
 obtain⟨c,d,G,⟨D,_⟩,C⟩:=r;exact⟨c,d,G,by rw[show c=[v] from D];exact zOF k,C⟩
end
section
variable {P:Program}{n:Nat}{w0:World}{h0:Mem}{e:List (Nat×Value)}{L:List Res}{h:Mem}
theorem yGQ{E k m:Nat}{v:Value}{cs:List Value}{base:Nat}{w:World}(hok:(Res.gs E k v m cs).ok base w):v.oneCell'=true:=by
 obtain⟨_,C⟩:=hok
 rcases C with⟨rfl,_⟩|⟨g,cap,cur,rfl,_⟩<;>rfl
theorem uN{o:Oper}{A B:List Res}{r:Res}{E k m:Nat}{G:List Value->Prop}(hv:zD5 P n w0 h0 o e A r B h (λu r'=>∃cs',r'=.gs E k u m cs'/\G cs')):zD5 P n w0 h0 o e A r B h (λu r'=>u.oneCell'=true/\∃cs',r'=.gs E k u m cs'/\G cs'):=by
 intro a w J S;obtain⟨v,C,r',h1,h2,h3,H,cs',rfl,D⟩:=hv a w J S;exact⟨v,C,_,h1,h2,h3,H,yGQ h3,cs',I,D⟩
theorem fN{o:Oper}{R:List Res}{Z:Value}(hv:OpX P n w0 h0 o e R h (λu=>rpV.Is h u Z)):OpX P n w0 h0 o e R h (λu=>Z=u):=by
 obtain⟨v,a,b⟩:=hv;exact⟨v,a,yIO b⟩
end
section
variable {α β:Type}
def uG(g:Nat->α):Nat->List α
  |0=>[]
  |i+1=>uG g i++[g i]
def kK(g:Nat->List α):Nat->List α
  |0=>[]
  |i+1=>kK g i++g i
def cQ(p:Nat->Prop)(g:Nat->α):Nat->List α
  |0=>[]
  |i+1=>cQ p g i++(if p i then[g i] else[])
theorem zBF{p:Nat->Prop}{g:Nat->α}{i:Nat}(h:p i):cQ p g i++[g i]=cQ p g (i+1):=by show _=_++_;rw[zau h]
theorem zBG{p:Nat->Prop}{g:Nat->α}{i:Nat}(h:¬p i):cQ p g i=cQ p g (i+1):=by show _=_++_;rw[zae h,zli]
theorem zJI{p:Nat->Prop}{g:Nat->α}:∀n,cQ p g n=[]↔∀i,i<n->¬p i
  |0=>⟨λ_ i h=>absurd h (z4u i),λ_=>rfl⟩
  |n+1=>by
   show _++_=[]↔_
   rw[List.append_eq_nil_iff,zJI n];constructor
   · rintro⟨h1,h2⟩ i hi
     rcases znu.1 hi with h|h
     · exact h1 i h
     · subst h;intro e;rw[zau e] at h2;exact absurd h2 zo1
   · intro h
     exact⟨λi hi=>h i zos,zae (h n zos)⟩
theorem cA(p:Nat->Prop)(g:Nat->α):∀n,(cQ p g n).length<=n
  |0=>zbe _
  |n+1=>by
   have:=cA p g n
   show List.length (_++_)<=_
   rw[lAz]
   split<;>simp<;>omega
theorem xZ(g:Nat->α):∀n,(uG g n).length=n
  |0=>rfl
  |n+1=>by show List.length (_++_)=_;rw[lAz,xZ g n];rfl
theorem jL(g:Nat->α)(d:α):∀{n i},i<n->(uG g n).getD i d=g i
  |0,i,h=>absurd h (z4u i)
  |n+1,i,h=>by
   show(uG g n++[g n]).getD i d=_
   rcases znu.1 h with h|h
   · rw[zoa,ypu (by rw[xZ];exact h),<-zoa];exact jL g d h
   · subst h
     rw[zoa,you (by rw[xZ];exact zbe _),xZ,yue];rfl
theorem tE{g g':Nat->α}:∀n,(∀i,i<n->g i=g' i)->uG g n=uG g' n
  |0,_=>rfl
  |n+1,h=>by show _++_=_++_;rw[tE n λi hi=>h i zos,h n zos]
theorem zHV{l:List α}(d:α){i:Nat}(h:i<l.length):l.take (i+1)=l.take i++[l.getD i d]:=by
 rw[zye h,zoa,zoc h];rfl
theorem zM5{L:List (List α)}{n:Nat}(h:∀x,x∈L->x.length<=n)(m:Nat):(L.getD m []).length<=n:=by
 rw[zoa]
 rcases zve m L.length with h1|h1
 · rw[zoc h1];exact h _ (ynu h1)
 · rw[zse h1];exact zri _
theorem zKI{g:Nat->α}{x:α}:∀{n},x∈uG g n->∃i,i<n/\x=g i
  |0,h=>absurd h zgi
  |n+1,h=>by
   rcases zpi.1 (show x∈uG g n++[g n] from h) with h|h
   · obtain⟨i,hi,e⟩:=zKI h;exact⟨i,by omega,e⟩
   · exact⟨n,by omega,zpe.1 h⟩
theorem dO{g:Nat->List α}{x:α}:∀{n},x∈kK g n->∃i,i<n/\x∈g i
  |0,h=>absurd h zgi
  |n+1,h=>by
   rcases zpi.1 (show x∈kK g n++g n from h) with h|h
   · obtain⟨i,hi,e⟩:=dO h;exact⟨i,by omega,e⟩
   · exact⟨n,by omega,h⟩
theorem gM{l:List α}{d:α}{i:Nat}(h:i<l.length):l.getD i d∈l:=by
 rw[zoa,zoc h];exact ynu h
def aP(p:Nat->Prop):Nat->Nat
  |0=>0
  |k+1=>if p k then aP p k else k+1
theorem zQE{p:Nat->Prop}{k:Nat}(hk:0<k)(h:p (k-1)):aP p k=aP p (k-1):=by
 match k,hk with
 |k+1,_=>exact zau h
theorem zG2{p:Nat->Prop}{k:Nat}(h:¬(0<k/\p (k-1))):aP p k=k:=by
 match k with
 |0=>rfl
 |k+1=>exact zae λe=>h ⟨by omega,e⟩
theorem zEY(p:Nat->Prop):∀k,aP p k<=k
  |0=>zbe _
  |k+1=>by
   have:=zEY p k;unfold aP
   split<;>omega
def dG(l:List α)(k:Nat)(x:α):List α:=l.take k++x::l.drop k
theorem zGL(l:List α){k:Nat}(x:α)(h:k<=l.length):(dG l k x).length=l.length+1:=by
 unfold dG;rw[lAz,lC,zei,zhe];omega
theorem zS2{n u:Nat}(h:u<n):(List.replicate n False).getD u False↔False:=by
 rw[zoa,List.getElem?_replicate,zau h];exact Iff.rfl
end
end Bk
namespace Bk
open Go Go.RowKit
section
variable {P:Program}{n:Nat}{w0:World}{h0:Mem}{e:List (Nat×Value)}{L:List Res}{h:Mem}{Q:Exit->Act->World->Prop}{ds:Option Tmp}{ty:TypeId}{ps:String}{af:Array Edge}{gd:Option (Nat×Bool)}{α:Type}
theorem zOV{ρ:Rp α}{xs:List α}{v:Value}{t E:TypeId}{x hu:Operand}{p:Int}(i:Nat)(ht:P.underlying t=some (.slice E))(hsz:∀w,(Go.sizeOf E).run P w=.ok ρ.n w)(hx:zM e x=some v)(hl:zM e hu=some (vI p))(r:(rpS ρ).Is h v xs)
    (hp:p=(i:Int))(hi:i<=xs.length):OpX P n w0 h0 ⟨ds,.slice t x none (some hu) none,ty,ps,af,gd⟩ e [] h (λu=>(rpS ρ).Is h u (xs.take i)):=by
 obtain⟨cs,s,C⟩:=zTC r;refine zWA (λL' h'=>zAC i ht hsz hx hl s.shape hp hi) ?_;have D:=s.sub (zri i) hi;have G:=C.len;rw[zvu,ybu,ylu] at D;exact yBS (by rw[zei,zre hi];exact D) (C.take i)
theorem zRG:∀(a b:List Nat),ByB a->ByB b->(Op.bytesLess (a.map UInt8.ofNat) (b.map UInt8.ofNat)=true↔lsN a b)
  |[],[],_,_=>by simp[Op.bytesLess,lsN]
  |[],y::b,_,_=>by simp[Op.bytesLess,lsN]
  |x::a,[],_,_=>by simp[Op.bytesLess,lsN]
  |x::a,y::b,ha,hb=>by
   have hx:x<256:=ha x (.head _);have hy:y<256:=hb y (.head _);have ih:=zRG a b (λz hz=>ha z (.tail _ hz)) (λz hz=>hb z (.tail _ hz));have e1:(UInt8.ofNat x<UInt8.ofNat y)↔x<y:=by
    rw[UInt8.lt_iff_toNat_lt,UInt8.toNat_ofNat',UInt8.toNat_ofNat',zoh (by simpa using hx),zoh (by simpa using hy)]
   have C:(UInt8.ofNat x=UInt8.ofNat y)↔x=y:=by
    rw[<-UInt8.toNat_inj,UInt8.toNat_ofNat',UInt8.toNat_ofNat',zoh (by simpa using hx),zoh (by simpa using hy)]
   show((decide (UInt8.ofNat x<UInt8.ofNat y)||(UInt8.ofNat x==UInt8.ofNat y&&Op.bytesLess _ _))=true)↔(if x=y then lsN a b else x<y)
   rw[zyi,zbu,zhi,beq_iff_eq,e1,C,ih]
   split
   · rename_i hxy;subst hxy;exact⟨λh=>h.elim (λh=>absurd h (yii _)) λh=>h.2,λh=>.inr ⟨I,h⟩⟩
   · rename_i hxy;exact⟨λh=>h.elim id λh=>absurd h.1 hxy,.inl⟩
theorem zWF{pa pb:List Nat}{t yt:TypeId}{x y:Operand}(ha:ByB pa)(hb:ByB pb)(hx:zM e x=some (.string (qW pa)))(hy:zM e y=some (.string (qW pb))):OpV P n w0 h0 ⟨ds,.binOp .lss t x y yt,ty,ps,af,gd⟩ e L h (vB (lsN pa pb)):=by
 have C:Op.bytesLess (qW pa).toList (qW pb).toList=true↔lsN pa pb:=by
  rw[ByteArray.toList_eq,ByteArray.toList_eq];exact zRG pa pb ha hb
 have G:vB (lsN pa pb)=.bool (Op.bytesLess (qW pa).toList (qW pb).toList):=by
  by_cases hp:lsN pa pb
  · rw[wB hp,C.2 hp]
  · rw[yZ hp,Bool.eq_false_iff.2 λe=>hp (C.1 e)]
 rw[G];intro a w D S;simp only[execOp,D.eval hx,D.eval hy,binOp];simp[eqGuard,Op.stringOp]
theorem lI{A B:List Res}{E k m:Nat}{v:Value}{cs:List Value}{c:Code}(hm:0<m)(g:∀b cap,v=.slice (some ⟨b,0,none⟩) m cap->m<=cap->GC P n w0 h0 c Q e (A++.gs E k v m cs::B) h):GC P n w0 h0 c Q e (A++.gs E k v m cs::B) h:=by
 intro a w D S;obtain⟨_,C⟩:w.ownsRow w0.heap.size E k v m cs:=S.ok (.gs E k v m cs) zo1
 rcases C with⟨_,h0⟩|⟨b,cap,cur,hv,_,_,hc,_⟩
 · omega
 · exact g b cap hv hc a w D S
theorem kX{fn:Func}{v:Value}{L':List Res}{RO:Mem->Value->List Res->Prop}(hs:L'.Sublist L)(hres:∀{a:Act} {w:World},Env n e a->St w0 h0 L h w->(results fn a.tmps).run P w=.ok v w)(hR:RO h v L'):GQ n w0 h0 (bodyPost P fn (rA w0 h0 RO)) .ret e L h:=by
 intro a w E S;exact bodyPost_ret (hres E S) E.defers ⟨_,h,L',I,hR,S.sublist hs⟩
def sL(xs:List α)(i:Nat):List α:=xs.take (i+1)++(xs.drop i).take (xs.length-i-1)
theorem fS{xs:List α}{i:Nat}(h:i<xs.length):(sL xs i).length=xs.length:=by
 unfold sL;rw[lAz,zei,zei,zhe];omega
theorem zU7{ρ:Rp α}{cs:List Value}{xs:List α}{i:Nat}(hi:i<xs.length)(r:RL ρ h cs xs):RL ρ h (j5 cs ((i+1)*ρ.n) ((cs.drop (i*ρ.n)).take ((xs.length-i-1)*ρ.n))) (sL xs i):=by
 have D:=r.len;have h1:=(r.drop i).take (xs.length-i-1);have h2:=r.take (i+1);have H:xs.length*ρ.n=(i+1)*ρ.n+(xs.length-i-1)*ρ.n:=by rw[<-z2u];congr 1;omega
 have G:(i+1)*ρ.n=i*ρ.n+ρ.n:=ygi _ _;have C:((cs.drop (i*ρ.n)).take ((xs.length-i-1)*ρ.n)).length=(xs.length-i-1)*ρ.n:=by rw[zei,zhe];omega
 rw[zFL _ _ _ zos,C,show cs.drop ((i+1)*ρ.n+(xs.length-i-1)*ρ.n)=[] from zle zos,zli];exact h2.append h1
theorem nZ{l:List α}{z x:α}{k:Nat}(h:k<=l.length):(sL (l++[z]) k).set k x=dG l k x:=by
 unfold sL dG;have G:(l++[z]).length-k-1=l.length-k:=by rw[lAz,zju];omega
 have D:((l++[z]).drop k).take (l.length-k)=l.drop k:=by
  rw[yli h,yae (by rw[zhe];omega),zxu (by rw[zhe];omega)]
 have C:k<(l++[z]).length:=by rw[lAz,zju];omega
 rw[G,D,zye C,zhu,yle _ _ (by rw[zei];omega),zei,show k-min k (l++[z]).length=0 by omega];rw[yae h]
 rfl
theorem mC{A B:List Res}{t E b cap:Nat}{v:Value}{cs:List Value}{x y:Operand}{ρ:Rp α}{xs:List α}(i:Nat)(hv:v=.slice (some ⟨b,0,none⟩) xs.length cap)(hmc:xs.length<=cap)(ht:P.underlying t=some (.slice E))(hsz:∀w,(Go.sizeOf E).run P w=.ok ρ.n w)
    (hx:zM e x=some (tD ρ.n v (i+1) xs.length))(hy:zM e y=some (tD ρ.n v i xs.length))(hi:i<xs.length)(r:RL ρ h cs xs):
    zD5 P n w0 h0 ⟨ds,.call {callee:=.builtin .copy,args:=#[x,y],argTypes:=#[t,t]},ty,ps,af,gd⟩ e A (.gs E ρ.n v xs.length cs) B h (λu r'=>∃cs',r'=.gs E ρ.n v (sL xs i).length cs'/\RL ρ h cs' (sL xs i)):=by
 intro a w Z S;have D:w.ownsRow w0.heap.size E ρ.n v xs.length cs:=S.ok (.gs E ρ.n v xs.length cs) zo1;have ae:=D.1;subst hv;have ac:=zU7 hi r;have e1:xs.length*ρ.n=(i+1)*ρ.n+(xs.length-i-1)*ρ.n:=by rw[<-z2u];congr 1;omega
 have e2:(i+1)*ρ.n=i*ρ.n+ρ.n:=ygi _ _;have J:((cs.drop (i*ρ.n)).take ((xs.length-i-1)*ρ.n)).length=(xs.length-i-1)*ρ.n:=by rw[zei,zhe];omega
 have M:∀j u,((cs.drop (i*ρ.n)).take ((xs.length-i-1)*ρ.n))[j]?=some u->cs[i*ρ.n+j]?=some u:=λj u G=>by
  rw[zmu] at G
  split at G
  · rwa [zxi] at G
  · cases G
 have U:∀u∈(cs.drop (i*ρ.n)).take ((xs.length-i-1)*ρ.n),u.oneCell'=true:=λu hu=>zob.1 r.one u (z5e (zwe hu));generalize (cs.drop (i*ρ.n)).take ((xs.length-i-1)*ρ.n)=vs at *;obtain⟨h1,h2⟩:=nN vs ((i+1)*ρ.n) cs w D;have ab:=fS (xs:=xs) hi;have C:(loadCells ⟨b,i*ρ.n,none⟩ ((xs.length-i-1)*ρ.n)).run P w=.ok vs.toArray w:=by
  have:=run_loadCells_list (P:=P) (w:=w) ⟨b,i*ρ.n,none⟩ vs λj u G=>by
   have h3:=D.cellAt (i*ρ.n+j) (by have:=(zwu.1 (M j u G)).1;omega);rw[M j u G] at h3;rw[show(⟨b,i*ρ.n,none⟩:Addr).add j=⟨b,i*ρ.n+j,none⟩ from kA _ _ _];exact h3
  rwa [J] at this
 have O:=run_storeCells_cells (P:=P) b ((i+1)*ρ.n) vs 0 w (λj G=>by
  have h4:=D.cellAt ((i+1)*ρ.n+j) zos;rw[zoc zos] at h4;simp[h4]) (λj G=>by simpa using D.frozenAt ((i+1)*ρ.n+j)) U
 simp only[zmi] at O;refine⟨vI ↑(xs.length-i-1),w.setCells b ((i+1)*ρ.n) vs,.gs E ρ.n (.slice (some ⟨b,0,none⟩) xs.length cap) xs.length (j5 cs ((i+1)*ρ.n) vs),?_,h2,h1,λb' hb=>.inl hb,_,by rw[ab],ac⟩;have H:Nat.min (xs.length-i) (xs.length-(i+1))=xs.length-i-1:=by show min _ _=_;omega
 have ad:¬cap=i:=by omega
 simp only[tD,ad,if_false,ypi] at hx hy;rw[show(⟨b,0,none⟩:Addr).add (i*ρ.n)=⟨b,i*ρ.n,none⟩ by simp[kA]] at hy
 by_cases hc:cap=i+1
 · have hz:xs.length-i-1=0:=by omega
   have aa:vs=[]:=zof (by rw[J,hz,zvu]);subst aa;simp only[hc,if_true] at hx;rw[hz,zvu] at C;simp[execOp,resolve,invoke,builtin,Z.eval hx,Z.eval hy,Builtin.copy_,run_underlying ht,Builtin.lenOf,Builtin.firstCells,hsz,H,hz,C,storeCells,World.setCells,goInt,vI]
 · simp only[hc,if_false] at hx
   rw[show(⟨b,0,none⟩:Addr).add ((i+1)*ρ.n)=⟨b,(i+1)*ρ.n,none⟩ by simp[kA]] at hx;simp[execOp,resolve,invoke,builtin,Z.eval hx,Z.eval hy,Builtin.copy_,run_underlying ht,Builtin.lenOf,Builtin.firstCells,hsz,H,C,O,goInt,vI]
end
end Bk
namespace Bk
open Go Go.RowKit
open Classical
abbrev tII:Rp (List (List Int)):=rpS (rpS rpI)
abbrev tE5:Rp (Int×Int×Int×Int×Int):=rpP rpI (rpP rpI (rpP rpI (rpP rpI rpI)))
abbrev tPt(k:Nat):Rp (T3 Rat):=rpT (rpQ k)
abbrev tLs(k:Nat):Rp (List (T3 Rat)):=rpS (rpT (rpQ k))
abbrev tLL(k:Nat):Rp (List (List (T3 Rat))):=rpS (rpS (rpT (rpQ k)))
abbrev tPl(k l:Nat):Rp (T3 Rat×Rat):=rpP (rpT (rpQ k)) (rpQ l)
abbrev Tq:=T3 Rat
abbrev Pq:=T3 Rat×Rat
abbrev Sq:=List (T3 Rat)×List ((T3 Rat×Rat)×List (List Int)×List Nat)×List (Int×Int×Rat)
abbrev tFc(k l:Nat):Rp ((T3 Rat×Rat)×List (List Int)×List Nat):=rpP (rpP (rpT (rpQ k)) (rpQ l)) (rpP (rpS (rpS rpI)) uP)
abbrev tSd(k m n j:Nat):Rp Sq:=rpP (rpS (rpT (rpQ k))) (rpP (rpS (rpP (rpP (rpT (rpQ m)) (rpQ n)) (rpP (rpS (rpS rpI)) uP))) (rpS (rpP rpI (rpP rpI (rpQ j)))))
abbrev zZ(p:T3 Rat):T3 Rat:=T3.mk p.x p.y (0:Rat)
abbrev pU(PP:List (T3 Rat))(sB:Value)(j:Int):T3 Rat:=((PP,(sB,([]:List (Int×Int×Rat)))).1).getD j.toNat zT
abbrev nU(PP:List (T3 Rat))(sB:Value)(I:List Int)(q:Nat):T3 Rat:=T3.mk ((((PP,(sB,([]:List (Int×Int×Rat)))).1).getD ((I.getD ((q+1)%I.length) 0).toNat) zT).y-(((PP,(sB,([]:List (Int×Int×Rat)))).1).getD ((I.getD q 0).toNat) zT).y) (-((((PP,(sB,([]:List (Int×Int×Rat)))).1).getD ((I.getD ((q+1)%I.length) 0).toNat) zT).x-(((PP,(sB,([]:List (Int×Int×Rat)))).1).getD ((I.getD q 0).toNat) zT).x)) (0:Rat)
abbrev lU(I:List Int)(q:Nat)(BB:List (T3 Rat)):List Int:=[(I.getD q (0:Int)),(I.getD ((q+1)%I.length) (0:Int)),((I.getD ((q+1)%I.length) (0:Int))+(↑BB.length:Int)),((I.getD q (0:Int))+(↑BB.length:Int))]
abbrev e50:Int×Int×Int×Int×Int:=((0:Int),((0:Int),((0:Int),((0:Int),(0:Int)))))
theorem dK{R A B:List Res}{q:Res}(hR:∀r∈R,r∈A++B:=by first|(simp;done)|grind):∀r∈R,r∈A++q::B->r∈A++B:=zT5 hR
theorem oM{p:Prop}(f:p:=by omega):p:=f
theorem dC{p:Prop}(f:p:=by decide):p:=f
theorem rP{p:Prop}(f:p:=by first|rfl|(push_cast;rfl)):p:=f
theorem nP{p:Prop}(f:p:=by exact zce I):p:=f
theorem bO{p:Prop}(f:p:=by first|omega|(simp only[lAz,lC,lN,lR,lS];omega)):p:=f
theorem mle{h h':Mem}(f:MLe h h':=by with_reducible repeat (first|exact MLe.refl _|assumption|refine MLe.trans ?_ zo3)):MLe h h':=f
theorem Rp.Is.up{α:Type}{ρ:Rp α}{h h':Mem}{v:Value}{x:α}(r:ρ.Is h v x)(hm:MLe h h':=by exact mle):ρ.Is h' v x:=r.mono hm
theorem Rp.R.up{α:Type}{ρ:Rp α}{h h':Mem}{cs:List Value}{x:α}(r:ρ.R h cs x)(hm:MLe h h':=by exact mle):ρ.R h' cs x:=Rp.mono ρ hm r
theorem RL.up{α:Type}{ρ:Rp α}{h h':Mem}{cs:List Value}{xs:List α}(r:RL ρ h cs xs)(hm:MLe h h':=by exact mle):RL ρ h' cs xs:=RL.mono hm r
theorem AtP.up{α:Type}{ρ:Rp α}{h h':Mem}{p:Value}{X:α}(r:AtP ρ h p X)(hm:MLe h h':=by exact mle):AtP ρ h' p X:=r.mono hm
theorem Us.up{k:IntKind}{h h':Mem}{v:Value}{xs:List Nat}(r:Us k h v xs)(hm:MLe h h':=by exact mle):Us k h' v xs:=r.mono hm
class Und(P:Program)(t:TypeId) where
 d:TypeDesc
 h:P.underlying t=some d
class Siz(P:Program)(t:TypeId) where
 k:Nat
 h:∀w,(Go.sizeOf t).run P w=.ok k w
class Agg(P:Program)(t:TypeId) where
 b:Bool
 h:∀w,(isAgg t).run P w=.ok b w
class Inf(P:Program)(t:TypeId) where
 k:Nat
 h:(P.info? t).map (·.size)=some k
theorem uu{P:Program}{t:TypeId}{d:TypeDesc}(f:P.underlying t=some d:=by exact Und.h):P.underlying t=some d:=f
theorem uz{P:Program}{t:TypeId}{k:Nat}(f:∀w,(Go.sizeOf t).run P w=.ok k w:=by exact Siz.h):∀w,(Go.sizeOf t).run P w=.ok k w:=f
theorem ua{P:Program}{t:TypeId}{k:Bool}(f:∀w,(isAgg t).run P w=.ok k w:=by exact Agg.h):∀w,(isAgg t).run P w=.ok k w:=f
theorem us_{P:Program}{t:TypeId}{k:Nat}(f:(P.info? t).map (·.size)=some k:=by exact Inf.h):(P.info? t).map (·.size)=some k:=f
section
variable {α β γ:Type}
variable {P:Program}{n:Nat}{w0:World}{h0:Mem}{e:List (Nat×Value)}{L:List Res}{h:Mem}{Q:Exit->Act->World->Prop}
variable {ds:Option Tmp}{ty:TypeId}{ps:String}{af:Array Edge}{gd:Option (Nat×Bool)}
variable {ops:Array Oper}{rest:List Oper}{RR:List Res}{al:Als}{d i:Nat}{op:Op}{v:Value}{r:List (Nat×Kd)}{g t:Nat}{b:Bool}
theorem xV{o:Oper}{R:List Res}{ρ:Rp α}{X Z:α}(hv:OpX P n w0 h0 o e R h (λu=>ρ.Is h u X))(hZ:X=Z:=by first|(dsimp only<;>exact I)|exact I):OpX P n w0 h0 o e R h (λu=>ρ.Is h u Z):=hZ▸hv
theorem mmx{L R:List Res}(f:∀r∈R,r∈L:=by first|exact zAL|exact kH mh0|exact kH mh1|exact kH mh2|exact kH mh3|exact kH mh4|exact kH mh5|exact kH mh6|exact kH mh7|exact kH (.tail _ mh7)|exact kH (.tail _ (.tail _ mh7))|exact kH (.tail _ (.tail _ (.tail _ mh7)))):∀r∈R,r∈L:=f
theorem lX{R:List Res}{F:Value->Prop}(hv:OpX P n w0 h0 ⟨some d,op,ty,ps,af,none⟩ e R h F)(k:∀v,F v->GL P n w0 h0 ops Q rest ((d,v)::e) L h)(hR:∀r∈R,r∈L:=by exact mmx)(hn:Nat.ble (d+1) n=true:=by exact I):GL P n w0 h0 ops Q (⟨some d,op,ty,ps,af,none⟩::rest) e L h:=zGQ hv hR hn k
theorem wX{R:List Res}{F:Value->Prop}(ho:ops.getD i default=⟨some d,op,ty,ps,af,none⟩)(hv:OpX P n w0 h0 ⟨some d,op,ty,ps,af,none⟩ e R h F)(k:∀v,F v->W P n w0 h0 ops Q RR al r ((d,v)::e) L h)(hR:∀r∈R,r∈RR:=by exact mmx)(hn:Nat.ble (d+1) n=true:=by exact I):W P n w0 h0 ops Q RR al ((i,.q)::r) e L h:=tA ho hv hR hn k
theorem xX{K:List (Nat×Value)->List Res->Mem->Prop}{R:List Res}{F:Value->Prop}(ho:ops.getD i default=⟨some d,op,ty,ps,af,none⟩)(hv:OpX P n w0 h0 ⟨some d,op,ty,ps,af,none⟩ e R h F)(k:∀v,F v->K ((d,v)::e) L h)(hR:∀r∈R,r∈RR:=by exact mmx)(hn:Nat.ble (d+1) n=true:=by exact I):SQ P n w0 h0 ops RR i e L h K:=x_qx ho hv hR hn k
theorem oX{R:List Res}{F:Value->Prop}(ho:ops.getD i default=⟨some d,op,ty,ps,af,some (g,b)⟩)(hv:OpX P n w0 h0 ⟨some d,op,ty,ps,af,none⟩ e R h F)(k:∀v,F v->W P n w0 h0 ops Q RR al r ((d,v)::e) L h)(ht:(ops[g]?).bind (·.dst)=some t:=by exact I)(he:e.lookup t=some (.bool b):=by exact I)(hR:∀r∈R,r∈RR:=by exact mmx)(hn:Nat.ble (d+1) n=true:=by exact I):W P n w0 h0 ops Q RR al ((i,.q)::r) e L h:=lV ho ht he hv hR hn k
theorem sX{W':List (Nat×Value)->List Res->Mem->Prop}{R:List Res}{F:Value->Prop}(hv:OpX P n w0 h0 ⟨some d,op,ty,ps,af,none⟩ e R h F)(k:∀v,F v->W' ((d,v)::e) L h)(hR:∀r∈R,r∈L:=by exact mmx)(hn:Nat.ble (d+1) n=true:=by exact I):jW P n w0 h0 ops RR ⟨some d,op,ty,ps,af,none⟩ e L h W':=s_x hv hR hn k
theorem xB{t E:TypeId}{x:Operand}{b k off:Nat}{cs:List Value}{ρ:Rp α}{σ:Rp β}{g:α->β}{s:α->β->α}{X:α}{Z:β}(T:TyOk P t σ.n σ.agg)(pc:Pc ρ off σ g s){h1:Mem}(r:ρ.R h1 cs X)(hx:zM e x=some (vP b k):=by exact I)(ho:k=off:=by exact I)(hZ:g X=Z:=by first|(dsimp only<;>exact I)|exact I)(hm:MLe h1 h:=by exact mle):
 OpX P n w0 h0 ⟨ds,.load t x,ty,ps,af,gd⟩ e [.var b E cs] h (λu=>σ.Is h u Z):=kG T pc ho hx (r.up hm) hZ
theorem xA{t:TypeId}{x:Operand}{p:Value}{ρ:Rp α}{X:α}(T:TyOk P t ρ.n ρ.agg){h1:Mem}(r:AtP ρ h1 p X)(hx:zM e x=some p:=by exact I)(hm:MLe h1 h:=by exact mle):OpX P n w0 h0 ⟨ds,.load t x,ty,ps,af,gd⟩ e [] h (λu=>ρ.Is h u X):=zOW T hx (r.up hm)
theorem xI{t E:TypeId}{x y:Operand}{q:Int}{v:Value}{ρ:Rp α}{xs:List α}(d:α)(i:Nat)(ht:P.underlying t=some (.slice E))(T:TyOk P E ρ.n ρ.agg){h1:Mem}(r:(rpS ρ).Is h1 v xs)(hx:zM e x=some v:=by exact I)(hy:zM e y=some (vI q):=by exact I)(hq:q=(i:Int):=by first|exact rfl|(push_cast;exact I)|omega)(hi:i<xs.length:=by omega)(hp:0<ρ.n:=by exact zce I)(hm:MLe h1 h:=by exact mle):
 OpX P n w0 h0 ⟨ds,.indexAddr t x y,ty,ps,af,gd⟩ e [] h (λu=>AtP ρ h u (xs.getD i d)):=sO d i ht T hx hy (r.up hm) hq hi hp
theorem xF{t:TypeId}{x:Operand}{f off m:Nat}{fs:Array Field}{fl:Field}{p:Value}{ρ:Rp α}{σ:Rp β}{g:α->β}{s:α->β->α}{X:α}{Z:β}(ht:P.underlying t=some (.struct fs))(hsz:∀w,(Go.sizeOf fl.type).run P w=.ok (m+1) w)(pc:Pc ρ off σ g s){h1:Mem}(r:AtP ρ h1 p X)(hf:fs[f]?=some fl:=by exact I)(ho:fl.offset=off:=by exact I)(hx:zM e x=some p:=by exact I)(hZ:g X=Z:=by first|(dsimp only<;>exact I)|exact I)(hm:MLe h1 h:=by exact mle):
 OpX P n w0 h0 ⟨ds,.fieldAddr t x f,ty,ps,af,gd⟩ e [] h (λu=>AtP σ h u Z):=zS8 ht hf hsz pc ho hx (r.up hm) hZ
theorem uB{E t:TypeId}{b k off:Nat}{cs:List Value}{v:Value}{x y:Operand}{ρ:Rp α}{σ:Rp β}{g:α->β}{s:α->β->α}{X Z:α}{Y:β}(hsz:∀w,(Go.sizeOf t).run P w=.ok σ.n w)(pc:Pc ρ off σ g s){h1 h2:Mem}(r:ρ.R h1 cs X)(ry:σ.Is h2 v Y)(hx:zM e x=some (vP b k):=by exact I)(ho:k=off:=by exact I)(hy:zM e y=some v:=by exact I)(hZ:s X Y=Z:=by first|(dsimp only<;>exact I)|exact I)(hm:MLe h1 h:=by exact mle)(hm2:MLe h2 h:=by exact mle):
 ∃cs',ρ.R h cs' Z/\∀A B,Upd P n w0 h0 ⟨ds,.store t x y,ty,ps,af,gd⟩ e A (.var b E cs) B h (.var b E cs'):=pY hsz pc ho hx hy (r.up hm) (ry.up hm2) hZ
theorem pH{ρ:Rp α}:Pc ρ 0 ρ (λx=>x) (λ_ y=>y):=Pc.here ρ
theorem ev1{x:Operand}{v:Value}(hx:zM e x=some v):aC e [x] [v]:=⟨hx,y3i⟩
theorem ev2{x y:Operand}{v u:Value}(hx:zM e x=some v)(hy:zM e y=some u):aC e [x,y] [v,u]:=⟨hx,hy,y3i⟩
theorem ev3{x y z:Operand}{v u s:Value}(hx:zM e x=some v)(hy:zM e y=some u)(hz:zM e z=some s):aC e [x,y,z] [v,u,s]:=⟨hx,hy,hz,y3i⟩
theorem ev4{x y z a:Operand}{v u s c:Value}(hx:zM e x=some v)(hy:zM e y=some u)(hz:zM e z=some s)(ha:zM e a=some c):aC e [x,y,z,a] [v,u,s,c]:=⟨hx,hy,hz,ha,y3i⟩
theorem cL{f:Nat}{xs:List Operand}{ts:Array TypeId}{vs:List Value}{R:Mem->Value->Prop}(hvs:aC e xs vs)(hcall:∀args w,(callFunc f args).run P w=.ok (.enter f args) w)(hc:∀w,MLe h (mem w)->Calls P f vs.toArray w (Ret w h R))(k:∀v h',MLe h h'->R h' v->GL P n w0 h0 ops Q rest ((d,v)::e) L h')(hn:Nat.ble (d+1) n=true:=by exact I):
 GL P n w0 h0 ops Q (⟨some d,.call {callee:=.value (.func f),args:=xs.toArray,argTypes:=ts},ty,ps,af,none⟩::rest) e L h:=yBW (o:=⟨some d,.call {callee:=.value (.func f),args:=xs.toArray,argTypes:=ts},ty,ps,af,none⟩) rfl rfl rfl hn hcall hvs hc k
theorem sC{W':List (Nat×Value)->List Res->Mem->Prop}{f:Nat}{xs:List Operand}{ts:Array TypeId}{vs:List Value}{R':Mem->Value->Prop}(hvs:aC e xs vs)(hcall:∀args w,(callFunc f args).run P w=.ok (.enter f args) w)(hc:∀w,MLe h (mem w)->Calls P f vs.toArray w (Ret w h R'))(k:∀v h',MLe h h'->R' h' v->W' ((d,v)::e) L h')(hn:Nat.ble (d+1) n=true:=by exact I):
 jW P n w0 h0 ops RR ⟨some d,.call {callee:=.value (.func f),args:=xs.toArray,argTypes:=ts},ty,ps,af,none⟩ e L h W':=yE8 hcall hvs hc hn k
theorem nB{E:TypeId}{x:Operand}{v:Value}{ρ:Rp α}{X:α}{h1:Mem}(r:ρ.Is h1 v X)(k:∀b cs,ρ.R h cs X->GL P n w0 h0 ops Q rest ((d,vP b 0)::e) (.var b E cs::L) h)(hx:zM e x=some v:=by exact I)(hn:Nat.ble (d+1) n=true:=by exact I)(hm:MLe h1 h:=by exact mle):GL P n w0 h0 ops Q (⟨some d,.box E x,ty,ps,af,none⟩::rest) e L h:=
 zH (zMK hx (r.up hm)) I I hn λv q D=>by obtain⟨b,cs,rfl,rfl,C⟩:=D;exact k b cs C
theorem nA{E:TypeId}{i:TypeInfo}{z:Value}{cs:List Value}{ρ:Rp α}{X:α}(hi:P.info? E=some i)(r:ρ.R h cs X)(k:∀b cs,ρ.R h cs X->GL P n w0 h0 ops Q rest ((d,vP b 0)::e) (.var b E cs::L) h)(hz:i.zero=some z:=by exact I)(hc:z.cells=cs.toArray:=by exact I)(hn:Nat.ble (d+1) n=true:=by exact I):GL P n w0 h0 ops Q (⟨some d,.alloc E,ty,ps,af,none⟩::rest) e L h:=
 zH (zAK hi hz hc r) I I hn λv q D=>by obtain⟨b,cs,rfl,rfl,C⟩:=D;exact k b cs C
theorem cnd{c:Operand}{x y:Code}{p:Prop}(kt:p->GC P n w0 h0 x Q e L h)(kf:¬p->GC P n w0 h0 y Q e L h)(hc:zM e c=some (vB p):=by exact I):GC P n w0 h0 (.cond c x y) Q e L h:=yBX hc kt kf
theorem gT{p:Prop}{v:Operand}(hg:p)(hv:zM e v=some (vB p))(k:GL P n w0 h0 ops Q rest ((d,.bool true)::e) L h)(hn:Nat.ble (d+1) n=true:=by exact I):GL P n w0 h0 ops Q (⟨some d,.move v,ty,ps,af,none⟩::rest) e L h:=eE (xL (hv.trans (y2e (wB hg)))) I I hn k
theorem gF{p:Prop}{v:Operand}(hg:¬p)(hv:zM e v=some (vB p))(k:GL P n w0 h0 ops Q rest ((d,.bool false)::e) L h)(hn:Nat.ble (d+1) n=true:=by exact I):GL P n w0 h0 ops Q (⟨some d,.move v,ty,ps,af,none⟩::rest) e L h:=eE (xL (hv.trans (y2e (yZ hg)))) I I hn k
theorem gU{l:List Oper}(j t:Nat)(v:Value)(kx:GL P n w0 h0 ops (Exit.then (λa w=>∃i:Unit,True/\Env n ((t,v)::e) a/\St w0 h0 L h w) Q) (l.take j) e L h)(ky:GL P n w0 h0 ops Q (l.drop j) ((t,v)::e) L h):GL P n w0 h0 ops Q l e L h:=qM j (λ_=>True) (λ_=>(t,v)::e) (λ_=>L) (λ_=>h) kx λ_ _=>ky
@[reducible] def zUG:List Nat->List (Nat×Value)->List (Nat×Value)->Prop
  |_,[],_=>True
  |s,(t,v)::r,e=>(if s.contains t then True else e.lookup t=some v)/\zUG (t::s) r e
theorem zUG.look{e:List (Nat×Value)}:∀{e0:List (Nat×Value)} {s:List Nat},zUG s e0 e->∀t v,s.contains t=false->e0.lookup t=some v->e.lookup t=some v
  |[],_,_,t,v,_,h=>by simp at h
  |(k,u)::r,s,hs,t,v,hn,h=>by
   simp only[z5i] at h
   by_cases ht:t=k
   · subst ht
     simp at h;subst h;have:=hs.1
     rwa [zae (by rw[hn];simp)] at this
   · have h1:(t==k)=false:=by simpa using ht
     rw[h1] at h;refine zUG.look hs.2 t v ?_ h;rw[List.contains_cons,h1,hn];rfl
theorem Env.subS{e0:List (Nat×Value)}{a:Act}(E:Env n e a)(h:zUG [] e0 e):Env n e0 a:=⟨E.defers,E.size,λt v ht=>E.get t v (h.look t v rfl ht)⟩
theorem gqU{e0:List (Nat×Value)}{t:Nat}{v:Value}(hv:e.lookup t=some v)(hs:zUG [t] e0 e:=by repeat (first|exact trivial|refine⟨by first|exact rfl|exact trivial,?_⟩)):GQ n w0 h0 (Exit.then (λa w=>∃i:Unit,True/\Env n ((t,v)::e0) a/\St w0 h0 L h w) Q) .normal e L h:=λa w E S=>⟨(),y3i,E.subS ⟨hv,hs⟩,S⟩
theorem gcL{ι:Type}{c:Code}{A:Prop}(S:ι->Prop×List (Nat×Value)×List Res×Mem×Nat)(i0:ι)(hi0:A)(round:∀i,(S i).1->GC P n w0 h0 c (Exit.then (λa w=>∃j,((S j).1/\(S j).2.2.2.2<(S i).2.2.2.2)/\Env n (S j).2.1 a/\St w0 h0 (S j).2.2.1 (S j).2.2.2.1 w) Q) (S i).2.1 (S i).2.2.1 (S i).2.2.2.1)
    (hA:(S i0).1=A:=by first|(dsimp only<;>exact I)|exact I)(he:Sub (S i0).2.1 e:=by repeat (first|exact trivial|refine⟨I,?_⟩))(hL:(S i0).2.2.1=L:=by exact I)(hh:(S i0).2.2.2.1=h:=by exact I):GC P n w0 h0 (.loop c) Q e L h:=
 kQ (λi=>(S i).1) (λi=>(S i).2.1) (λi=>(S i).2.2.1) (λi=>(S i).2.2.2.1) (λi=>(S i).2.2.2.2) i0 (hA▸hi0) he hL hh round
theorem gqL{ι:Type}{A:Prop}{B M m:Nat}{S:ι->Prop×List (Nat×Value)×List Res×Mem×Nat}(i:ι)(hi:A)(hm:B<M)(hA:(S i).1=A:=by first|(dsimp only<;>exact I)|exact I)(hB:(S i).2.2.2.2=B:=by first|(dsimp only<;>exact I)|exact I)(hM:m=M:=by first|(dsimp only<;>exact I)|exact I)(he:Sub (S i).2.1 e:=by repeat (first|exact trivial|refine⟨I,?_⟩))(hL:(S i).2.2.1=L:=by exact I)(hh:(S i).2.2.2.1=h:=by exact I):
 GQ n w0 h0 (Exit.then (λa w=>∃j,((S j).1/\(S j).2.2.2.2<m)/\Env n (S j).2.1 a/\St w0 h0 (S j).2.2.1 (S j).2.2.2.1 w) Q) .normal e L h:=
 jM (inv:=λi=>(S i).1) (ev:=λi=>(S i).2.1) (Lv:=λi=>(S i).2.2.1) (hv:=λi=>(S i).2.2.2.1) (μ:=λi=>(S i).2.2.2.2) i (hA▸hi) (by rw[hM];exact hB▸hm) he hL hh
theorem cb0{f:FuncId}{fn:Func}{c:Code}{R:Ending->World->Prop}(n:Nat)(hf:P.funcs[f]?=some fn)(hs:MLe h0 (mem w0))(k:GC P n w0 h0 c (bodyPost P fn R) [] [] h0)(hb:fn.body=some c:=by exact I)(hn:fn.ntmps=n:=by exact I)(hl:([]:List Value).length<=n:=by exact zce I):Calls P f #[] w0 R:=fF (e:=[]) (vs:=[]) hf hb hn hl hs trivial k
theorem cb1{f:FuncId}{fn:Func}{c:Code}{R:Ending->World->Prop}(n:Nat)(v:Value)(hf:P.funcs[f]?=some fn)(hs:MLe h0 (mem w0))(k:GC P n w0 h0 c (bodyPost P fn R) [(0,v)] [] h0)(hb:fn.body=some c:=by exact I)(hn:fn.ntmps=n:=by exact I)(hl:[v].length<=n:=by exact zce I):Calls P f #[v] w0 R:=fF (e:=[(0,v)]) (vs:=[v]) hf hb hn hl hs ⟨I,y3i⟩ k
theorem cb2{f:FuncId}{fn:Func}{c:Code}{R:Ending->World->Prop}(n:Nat)(v u:Value)(hf:P.funcs[f]?=some fn)(hs:MLe h0 (mem w0))(k:GC P n w0 h0 c (bodyPost P fn R) [(0,v),(1,u)] [] h0)(hb:fn.body=some c:=by exact I)(hn:fn.ntmps=n:=by exact I)(hl:[v,u].length<=n:=by exact zce I):Calls P f #[v,u] w0 R:=fF (e:=[(0,v),(1,u)]) (vs:=[v,u]) hf hb hn hl hs e2z k
theorem cb3{f:FuncId}{fn:Func}{c:Code}{R:Ending->World->Prop}(n:Nat)(v u s:Value)(hf:P.funcs[f]?=some fn)(hs:MLe h0 (mem w0))(k:GC P n w0 h0 c (bodyPost P fn R) [(0,v),(1,u),(2,s)] [] h0)(hb:fn.body=some c:=by exact I)(hn:fn.ntmps=n:=by exact I)(hl:[v,u,s].length<=n:=by exact zce I):Calls P f #[v,u,s] w0 R:=fF (e:=[(0,v),(1,u),(2,s)]) (vs:=[v,u,s]) hf hb hn hl hs e3z k
theorem yW{c:Code}{e':List (Nat×Value)}{L':List Res}{h':Mem}(k:GC P n w0 h0 c Q e' L' h')(he:e=e':=by first|(dsimp only<;>exact I)|exact I)(hL:L=L':=by first|(dsimp only<;>exact I)|exact I)(hh:h=h':=by first|(dsimp only<;>exact I)|exact I):GC P n w0 h0 c Q e L h:=by subst he hL hh;exact k
theorem rN{l:List Oper}{e':List (Nat×Value)}{L':List Res}{h':Mem}(k:GL P n w0 h0 ops Q l e' L' h')(he:e=e':=by first|(dsimp only<;>exact I)|exact I)(hL:L=L':=by first|(dsimp only<;>exact I)|exact I)(hh:h=h':=by first|(dsimp only<;>exact I)|exact I):GL P n w0 h0 ops Q l e L h:=by subst he hL hh;exact k
end
end Bk
namespace Bk
open Go Go.RowKit
def frc(x:Nat)(f:Nat->Bool):Bool:=match x with|0=>f 0|n+1=>f (n+1)
theorem yGU(x:Nat)(f:Nat->Bool):frc x f=f x:=by cases x<;>rfl
def yBY:List Nat->(List Nat->Bool)->Bool
  |[],f=>f []
  |x::r,f=>frc x λy=>yBY r λys=>f (y::ys)
theorem zRV:∀(l:List Nat) (f:List Nat->Bool),yBY l f=f l
  |[],f=>rfl
  |x::r,f=>by show frc x _=_;rw[yGU,zRV r]
def zR8(l:List Oper)(m:Nat)(al:Als)(ord:List (Nat×Kd)):Bool:=
 Region.noSelect l.toArray&&cK l.toArray al&&(al.all λx=>decide (x.1<m))&&(l.all λo=>o.after.all λe=>decide (e.on<l.length))&&(yBY (l.map zCJ) λams=>yBY ((List.range l.length).map (zM8 l.toArray ams)) λfrs=>mZ l.toArray l.length m ams frs ord 0 (al.map (·.1)))
theorem wV{l:List Oper}{m:Nat}{al:Als}{ord:List (Nat×Kd)}(h:zR8 l m al ord=true):
 (Region.noSelect l.toArray&&cK l.toArray al&&(al.all λx=>decide (x.1<m))&&chk l.toArray m ord (Array.replicate l.length false) (al.map (·.1)))=true:=by
 refine yG9 (l.map zCJ) ((List.range l.length).map (zM8 l.toArray (l.map zCJ))) ?_;simp only[zR8,zbu,zRV] at h;simp only[zQC,zbu];exact⟨⟨h.1,by simp[eZ]⟩,h.2⟩
end Bk
namespace Go.Proofs.YtboaboflnckgoaaGreat
open Bk Go Tryz
instance:Und prog 2:=⟨_,underlying2⟩
instance:Und prog 3:=⟨_,underlying3⟩
instance:Und prog 4:=⟨_,underlying4⟩
instance:Und prog 5:=⟨_,underlying5⟩
instance:Und prog 9:=⟨_,underlying9⟩
instance:Und prog 22:=⟨_,underlying22⟩
instance:Und prog 23:=⟨_,underlying23⟩
instance:Und prog 25:=⟨_,underlying25⟩
instance:Und prog 26:=⟨_,underlying26⟩
instance:Und prog 27:=⟨_,underlying27⟩
instance:Und prog 30:=⟨_,underlying30⟩
instance:Und prog 32:=⟨_,underlying32⟩
instance:Und prog 33:=⟨_,underlying33⟩
instance:Und prog 34:=⟨_,underlying34⟩
instance:Und prog 39:=⟨_,underlying39⟩
instance:Und prog 44:=⟨_,underlying44⟩
instance:Und prog 46:=⟨_,underlying46⟩
instance:Und prog 47:=⟨_,underlying47⟩
instance:Und prog 48:=⟨_,underlying48⟩
instance:Und prog 49:=⟨_,underlying49⟩
instance:Und prog 50:=⟨_,underlying50⟩
instance:Und prog 52:=⟨_,underlying52⟩
instance:Und prog 53:=⟨_,underlying53⟩
instance:Und prog 54:=⟨_,underlying54⟩
instance:Und prog 55:=⟨_,underlying55⟩
instance:Und prog 56:=⟨_,underlying56⟩
instance:Und prog 58:=⟨_,underlying58⟩
instance:Und prog 73:=⟨_,underlying73⟩
instance:Und prog 79:=⟨_,underlying79⟩
instance:Und prog 80:=⟨_,underlying80⟩
instance:Und prog 81:=⟨_,underlying81⟩
instance:Und prog 82:=⟨_,underlying82⟩
instance:Und prog 83:=⟨_,underlying83⟩
instance:Und prog 96:=⟨_,underlying96⟩
instance:Und prog 97:=⟨_,underlying97⟩
instance:Und prog 106:=⟨_,underlying106⟩
instance:Und prog 108:=⟨_,underlying108⟩
instance:Und prog 115:=⟨_,underlying115⟩
instance:Und prog 116:=⟨_,underlying116⟩
instance:Und prog 117:=⟨_,underlying117⟩
instance:Und prog 127:=⟨_,underlying127⟩
instance:Und prog 130:=⟨_,underlying130⟩
instance:Und prog 137:=⟨_,underlying137⟩
instance:Und prog 153:=⟨_,underlying153⟩
instance:Und prog 175:=⟨_,underlying175⟩
instance:Und prog 189:=⟨_,underlying189⟩
instance:Und prog 190:=⟨_,underlying190⟩
instance:Und prog 192:=⟨_,underlying192⟩
instance:Und prog 193:=⟨_,underlying193⟩
instance:Und prog 196:=⟨_,underlying196⟩
instance:Und prog 199:=⟨_,underlying199⟩
instance:Und prog 200:=⟨_,underlying200⟩
instance:Und prog 209:=⟨_,underlying209⟩
instance:Und prog 212:=⟨_,underlying212⟩
instance:Und prog 232:=⟨_,underlying232⟩
instance:Und prog 233:=⟨_,underlying233⟩
instance:Siz prog 3:=⟨_,sizeOf3⟩
instance:Siz prog 4:=⟨_,sizeOf4⟩
instance:Siz prog 5:=⟨_,sizeOf5⟩
instance:Siz prog 9:=⟨_,sizeOf9⟩
instance:Siz prog 22:=⟨_,sizeOf22⟩
instance:Siz prog 26:=⟨_,sizeOf26⟩
instance:Siz prog 32:=⟨_,sizeOf32⟩
instance:Siz prog 34:=⟨_,sizeOf34⟩
instance:Siz prog 46:=⟨_,sizeOf46⟩
instance:Siz prog 47:=⟨_,sizeOf47⟩
instance:Siz prog 48:=⟨_,sizeOf48⟩
instance:Siz prog 50:=⟨_,sizeOf50⟩
instance:Siz prog 53:=⟨_,sizeOf53⟩
instance:Siz prog 54:=⟨_,sizeOf54⟩
instance:Siz prog 56:=⟨_,sizeOf56⟩
instance:Siz prog 73:=⟨_,sizeOf73⟩
instance:Siz prog 80:=⟨_,sizeOf80⟩
instance:Siz prog 81:=⟨_,sizeOf81⟩
instance:Siz prog 83:=⟨_,sizeOf83⟩
instance:Siz prog 108:=⟨_,sizeOf108⟩
instance:Siz prog 116:=⟨_,sizeOf116⟩
instance:Siz prog 117:=⟨_,sizeOf117⟩
instance:Siz prog 127:=⟨_,sizeOf127⟩
instance:Siz prog 193:=⟨_,sizeOf193⟩
instance:Siz prog 200:=⟨_,sizeOf200⟩
instance:Agg prog 3:=⟨_,isAgg3⟩
instance:Agg prog 4:=⟨_,isAgg4⟩
instance:Agg prog 5:=⟨_,isAgg5⟩
instance:Agg prog 9:=⟨_,isAgg9⟩
instance:Agg prog 22:=⟨_,isAgg22⟩
instance:Agg prog 26:=⟨_,isAgg26⟩
instance:Agg prog 32:=⟨_,isAgg32⟩
instance:Agg prog 34:=⟨_,isAgg34⟩
instance:Agg prog 46:=⟨_,isAgg46⟩
instance:Agg prog 47:=⟨_,isAgg47⟩
instance:Agg prog 48:=⟨_,isAgg48⟩
instance:Agg prog 50:=⟨_,isAgg50⟩
instance:Agg prog 53:=⟨_,isAgg53⟩
instance:Agg prog 54:=⟨_,isAgg54⟩
instance:Agg prog 56:=⟨_,isAgg56⟩
instance:Agg prog 73:=⟨_,isAgg73⟩
instance:Agg prog 80:=⟨_,isAgg80⟩
instance:Agg prog 81:=⟨_,isAgg81⟩
instance:Agg prog 83:=⟨_,isAgg83⟩
instance:Agg prog 108:=⟨_,isAgg108⟩
instance:Agg prog 116:=⟨_,isAgg116⟩
instance:Agg prog 117:=⟨_,isAgg117⟩
instance:Agg prog 127:=⟨_,isAgg127⟩
instance:Agg prog 200:=⟨_,isAgg200⟩
instance:Inf prog 3:=⟨_,yCN⟩
instance:Inf prog 4:=⟨_,zU4⟩
instance:Inf prog 5:=⟨_,yID⟩
instance:Inf prog 9:=⟨_,yIC⟩
instance:Inf prog 22:=⟨_,zU5⟩
instance:Inf prog 26:=⟨_,yC⟩
instance:Inf prog 32:=⟨_,yE0⟩
instance:Inf prog 34:=⟨_,s8⟩
instance:Inf prog 46:=⟨_,yEZ⟩
instance:Inf prog 47:=⟨_,yEY⟩
instance:Inf prog 48:=⟨_,yEX⟩
instance:Inf prog 50:=⟨_,yEW⟩
instance:Inf prog 53:=⟨_,yEV⟩
instance:Inf prog 54:=⟨_,yEU⟩
instance:Inf prog 56:=⟨_,yET⟩
instance:Inf prog 73:=⟨_,yES⟩
instance:Inf prog 80:=⟨_,yER⟩
instance:Inf prog 81:=⟨_,yEQ⟩
instance:Inf prog 83:=⟨_,yEP⟩
instance:Inf prog 97:=⟨_,yEO⟩
instance:Inf prog 108:=⟨_,yAD⟩
instance:Inf prog 116:=⟨_,yAC⟩
instance:Inf prog 117:=⟨_,yAB⟩
instance:Inf prog 127:=⟨_,yAA⟩
instance:Inf prog 193:=⟨_,zZ9⟩
instance:Inf prog 200:=⟨_,zZ8⟩
theorem zO0{P:Program}{n:Nat}{w0:World}{h0 h:Mem}{e:List (Nat×Value)}{L:List Res}{ds:Option Tmp}{ty:TypeId}{ps:String}{af:Array Edge}{gd:Option (Nat×Bool)}{t:TypeId}{x:Operand}{b k:Nat}{E:TypeId}{cs:List Value}{u v s:Value}{d:TypeDesc}(hm:.var b E cs∈L)(hu:P.underlying t=some d)(hd:d.isRow=true)(hi:(P.info? t).map (·.size)=some 3)(hx:zM e x=some (vP b k))(hv:(cs.drop k).take 3=[u,v,s]):OpV P n w0 h0 ⟨ds,.load t x,ty,ps,af,gd⟩ e L h (.agg #[u,v,s]):=zL0 (vs:=[u,v,s]) hm hu hd hi hx hv
theorem ov{P:Program}{n:Nat}{w0:World}{h0 h:Mem}{o:Oper}{e:List (Nat×Value)}{L:List Res}{v:Value}(f:OpV P n w0 h0 o e L h v:=by first|exact yH I rfl|exact aY I rfl|exact aZ I rfl|exact zFS I rfl|exact mN I rfl|exact mI I rfl|exact zV I I zos zos|exact jY I I zos zos|exact vT uu I (by with_reducible first|assumption|exact Us.up zo3)|exact jA uu I (by with_reducible first|assumption|exact Rp.Is.up zo3)|exact fH (vs:=[_,_]) I rfl|exact fH (vs:=[_,_,_]) I rfl|exact cV I rfl|exact(wN uu (by simp only[yui,ybi,yre]<;>exact I) uz I).cv (zbi (vP _) zoy)|exact(zP 0 uu uz I I I zov).cv (zbi (vP _) zoy)|exact(zP 1 uu uz I I I zov).cv (zbi (vP _) zoy)|exact(zP 2 uu uz I I I zov).cv (zbi (vP _) zoy)|exact zO0 (by first|exact mh0|exact mh1|exact mh2|exact mh3|exact mh4|exact mh5) uu (by exact I) us_ I rfl|exact cW I rfl|exact zOX rfl|exact fU I rfl|exact tT I rfl|exact zFQ I rfl|exact cE I rfl|exact mL I rfl|exact iT (by first|exact mh0|exact mh1|exact mh2|exact mh3|exact mh4|exact mh5) ua I rfl|exact tL (k:=.u64) (k':=.u32) (W:=4294967296) uu uu I I rfl|exact vV (k:=.u32) (k':=.u64) (W:=18446744073709551616) uu uu I I I zos|exact sR (k:=.u64) (W:=18446744073709551616) I I I I zos|exact iS (k:=.u64) (W:=18446744073709551616) I I I I zos|exact gW (k:=.u64) (s:=32) (yk:=.u64) I I I (by simp only[ub];omega)|exact wC ua I (by with_reducible first|assumption|exact Us.up zo3) zos):OpV P n w0 h0 o e L h v:=f
theorem ovq{P:Program}{n:Nat}{w0:World}{h0 h:Mem}{o:Oper}{e:List (Nat×Value)}{v:Value}(f:∀h' L',OpV P n w0 h0 o e L' h' v:=by intro h' L';first|exact yH I rfl|exact aY I rfl|exact aZ I rfl|exact zFS I rfl|exact mN I rfl|exact mI I rfl|exact zV I I zos zos|exact jY I I zos zos|exact vT uu I (by with_reducible first|assumption|exact Us.up zo3)|exact jA uu I (by with_reducible first|assumption|exact Rp.Is.up zo3)|exact fH (vs:=[_,_]) I rfl|exact fH (vs:=[_,_,_]) I rfl|exact cV I rfl|exact(wN uu (by simp only[yui,ybi,yre]<;>exact I) uz I).cv (zbi (vP _) zoy)|exact(zP 0 uu uz I I I zov).cv (zbi (vP _) zoy)|exact(zP 1 uu uz I I I zov).cv (zbi (vP _) zoy)|exact(zP 2 uu uz I I I zov).cv (zbi (vP _) zoy)|exact zO0 (by first|exact mh0|exact mh1|exact mh2|exact mh3|exact mh4|exact mh5) uu (by exact I) us_ I rfl|exact cW I rfl|exact zOX rfl|exact fU I rfl|exact tT I rfl|exact zFQ I rfl|exact cE I rfl|exact mL I rfl|exact iT (by first|exact mh0|exact mh1|exact mh2|exact mh3|exact mh4|exact mh5) ua I rfl|exact tL (k:=.u64) (k':=.u32) (W:=4294967296) uu uu I I rfl|exact vV (k:=.u32) (k':=.u64) (W:=18446744073709551616) uu uu I I I zos|exact sR (k:=.u64) (W:=18446744073709551616) I I I I zos|exact iS (k:=.u64) (W:=18446744073709551616) I I I I zos|exact gW (k:=.u64) (s:=32) (yk:=.u64) I I I (by simp only[ub];omega)|exact wC ua I (by with_reducible first|assumption|exact Us.up zo3) zos):∀h' L',OpV P n w0 h0 o e L' h' v:=f
theorem yAN{α:Type}{ρ:Rp α}{h h':Mem}{v:Value}{x:α}(r:ρ.Is h v x)(hh:MLe h h'):ρ.Is h' v x:=r.mono hh
theorem ovm{P:Program}{n:Nat}{w0:World}{h0 h:Mem}{o:Oper}{e:List (Nat×Value)}{R:List Res}{v:Value}(f:∀h' L',MLe h h'->(∀r∈R,r∈L')->OpV P n w0 h0 o e L' h' v:=by intro h' L' hh hR;first|exact yH I rfl|exact aY I rfl|exact aZ I rfl|exact zFS I rfl|exact mN I rfl|exact mI I rfl|exact zV I I zos zos|exact jY I I zos zos|exact vT uu I (Us.mono (by with_reducible first|assumption|exact Us.up zo3) hh)|exact jA uu I (yAN (by with_reducible first|assumption|exact Rp.Is.up zo3) hh)|exact fH (vs:=[_,_]) I rfl|exact fH (vs:=[_,_,_]) I rfl|exact cV I rfl|exact(wN uu (by simp only[yui,ybi,yre]<;>exact I) uz I).cv (zbi (vP _) zoy)|exact(zP 0 uu uz I I I zov).cv (zbi (vP _) zoy)|exact(zP 1 uu uz I I I zov).cv (zbi (vP _) zoy)|exact(zP 2 uu uz I I I zov).cv (zbi (vP _) zoy)|exact zO0 (hR _ (by first|exact mh0|exact mh1|exact mh2|exact mh3|exact mh4|exact mh5)) uu (by exact I) us_ I rfl|exact cW I rfl|exact zOX rfl|exact fU I rfl|exact tT I rfl|exact zFQ I rfl|exact cE I rfl|exact mL I rfl|exact iT (hR _ (by first|exact mh0|exact mh1|exact mh2|exact mh3|exact mh4|exact mh5)) ua I rfl|exact tL (k:=.u64) (k':=.u32) (W:=4294967296) uu uu I I rfl|exact vV (k:=.u32) (k':=.u64) (W:=18446744073709551616) uu uu I I I zos|exact sR (k:=.u64) (W:=18446744073709551616) I I I I zos|exact iS (k:=.u64) (W:=18446744073709551616) I I I I zos|exact gW (k:=.u64) (s:=32) (yk:=.u64) I I I (by simp only[ub];omega)|exact wC ua I (Us.mono (by with_reducible first|assumption|exact Us.up zo3) hh) zos):∀h' L',MLe h h'->(∀r∈R,r∈L')->OpV P n w0 h0 o e L' h' v:=f
theorem isGC{P:Program}{n:Nat}{w0:World}{h0 h:Mem}{Q:Exit->Act->World->Prop}{e:List (Nat×Value)}{L:List Res}{c:Code}(k:GC P n w0 h0 c Q e L h):GC P n w0 h0 c Q e L h:=k
theorem isGQ{n:Nat}{w0:World}{h0 h:Mem}{Q:Exit->Act->World->Prop}{e:List (Nat×Value)}{L:List Res}{x:Exit}(k:GQ n w0 h0 Q x e L h):GQ n w0 h0 Q x e L h:=k
theorem isGL{P:Program}{n:Nat}{w0:World}{h0 h:Mem}{Q:Exit->Act->World->Prop}{e:List (Nat×Value)}{L:List Res}{ops:Array Oper}{l:List Oper}(k:GL P n w0 h0 ops Q l e L h):GL P n w0 h0 ops Q l e L h:=k
theorem isW{P:Program}{n:Nat}{w0:World}{h0 h:Mem}{Q:Exit->Act->World->Prop}{e:List (Nat×Value)}{L:List Res}{R:List Res}{ops:Array Oper}{al:Als}{r:List (Nat×Kd)}(k:W P n w0 h0 ops Q R al r e L h):W P n w0 h0 ops Q R al r e L h:=k
structure Kp(p:Prop):Prop where out:p
theorem isGV{P:Program}{n:Nat}{w0:World}{h0 h:Mem}{Q:Exit->Act->World->Prop}{e:List (Nat×Value)}{L:List Res}{ops:Array Oper}{rest:List Oper}{d:Nat}{op:Op}{ty:TypeId}{ps:String}{af:Array Edge}(k:GL P n w0 h0 ops Q (⟨some d,op,ty,ps,af,none⟩::rest) e L h):GL P n w0 h0 ops Q (⟨some d,op,ty,ps,af,none⟩::rest) e L h:=k
theorem isMV{P:Program}{n:Nat}{w0:World}{h0 h:Mem}{Q:Exit->Act->World->Prop}{e:List (Nat×Value)}{L:List Res}{ops:Array Oper}{rest:List Oper}{d:Nat}{x:Operand}{ty:TypeId}{ps:String}{af:Array Edge}(k:GL P n w0 h0 ops Q (⟨some d,.move x,ty,ps,af,none⟩::rest) e L h):GL P n w0 h0 ops Q (⟨some d,.move x,ty,ps,af,none⟩::rest) e L h:=k
theorem isAS{P:Program}{n:Nat}{w0:World}{h0 h:Mem}{Q:Exit->Act->World->Prop}{e:List (Nat×Value)}{L:List Res}{ops:Array Oper}{rest:List Oper}{d:Nat}{x:Operand}{ty:TypeId}{ps:String}{af:Array Edge}(k:GL P n w0 h0 ops Q (⟨some d,.assign x,ty,ps,af,none⟩::rest) e L h):GL P n w0 h0 ops Q (⟨some d,.assign x,ty,ps,af,none⟩::rest) e L h:=k
theorem st{G G':Prop}(k:G')(f:Kp G'->G:=by intro k;first|((with_reducible refine isGL ?_);first|((with_reducible refine isMV ?_);first|exact mv (v:=vI _) I I k.out|exact mv I I k.out)|((with_reducible refine isAS ?_);first|exact asg (v:=vI _) I I k.out|exact asg I I k.out)|with_reducible exact zO k.out|((with_reducible refine isGV ?_);refine gv ov I ?_;exact k.out)|exact nS I I I I I I k.out|exact t7 I I I k.out|exact yBV I I I I I k.out|exact zO k.out|exact mv (v:=vI _) I I k.out|exact mv I I k.out|exact asg (v:=vI _) I I k.out|exact asg I I k.out|(refine gv ov I ?_;exact k.out))|((with_reducible refine isGC ?_);first|with_reducible exact zL k.out|with_reducible exact zD k.out|with_reducible exact xJ k.out|with_reducible exact wW k.out|with_reducible exact kR k.out|with_reducible exact aF k.out|exact kS I k.out|exact aU I k.out)|((with_reducible refine isGQ ?_);first|with_reducible exact zG k.out|with_reducible exact kY k.out|with_reducible exact vQ k.out|with_reducible exact kP k.out|with_reducible exact nH k.out|with_reducible exact zRT k.out|exact zKP I k.out)|((with_reducible refine isW ?_);first|with_reducible exact fP k.out|exact wZ I I I k.out|exact zHA I I I k.out|exact uD I I I I I k.out|exact zUK I I I I k.out|(refine xD I ovq I ?_;exact k.out)|(refine w_q I ovm I ?_;exact k.out)|(refine xG I I I ovm I ?_;exact k.out)|exact fP k.out)):G:=f ⟨k⟩
theorem go1{G G':Prop}(k:G')(f:Kp G'->G:=by intro k;refine st ?_;exact k.out):G:=f ⟨k⟩
theorem go2{G G':Prop}(k:G')(f:Kp G'->G:=by intro k;refine st ?_;refine st ?_;exact k.out):G:=f ⟨k⟩
theorem go3{G G':Prop}(k:G')(f:Kp G'->G:=by intro k;refine st ?_;refine st ?_;refine st ?_;exact k.out):G:=f ⟨k⟩
theorem go4{G G':Prop}(k:G')(f:Kp G'->G:=by intro k;refine st ?_;refine st ?_;refine st ?_;refine st ?_;exact k.out):G:=f ⟨k⟩
theorem go5{G G':Prop}(k:G')(f:Kp G'->G:=by intro k;refine st ?_;refine st ?_;refine st ?_;refine st ?_;refine st ?_;exact k.out):G:=f ⟨k⟩
theorem go6{G G':Prop}(k:G')(f:Kp G'->G:=by intro k;refine st ?_;refine st ?_;refine st ?_;refine st ?_;refine st ?_;refine st ?_;exact k.out):G:=f ⟨k⟩
theorem go7{G G':Prop}(k:G')(f:Kp G'->G:=by intro k;refine st ?_;refine st ?_;refine st ?_;refine st ?_;refine st ?_;refine st ?_;refine st ?_;exact k.out):G:=f ⟨k⟩
theorem go8{G G':Prop}(k:G')(f:Kp G'->G:=by intro k;refine st ?_;refine st ?_;refine st ?_;refine st ?_;refine st ?_;refine st ?_;refine st ?_;refine st ?_;exact k.out):G:=f ⟨k⟩
theorem go9{G G':Prop}(k:G')(f:Kp G'->G:=by intro k;refine go8 ?_;refine st ?_;exact k.out):G:=f ⟨k⟩
theorem qE{G G':Prop}(k:G')(f:Kp G'->G:=by intro k;refine go8 ?_;refine st ?_;refine st ?_;exact k.out):G:=f ⟨k⟩
theorem jI{G G':Prop}(k:G')(f:Kp G'->G:=by intro k;refine go8 ?_;refine st ?_;refine st ?_;refine st ?_;exact k.out):G:=f ⟨k⟩
theorem jF{G G':Prop}(k:G')(f:Kp G'->G:=by intro k;refine go8 ?_;refine st ?_;refine st ?_;refine st ?_;refine st ?_;exact k.out):G:=f ⟨k⟩
theorem pV{G G':Prop}(k:G')(f:Kp G'->G:=by intro k;refine go8 ?_;refine st ?_;refine st ?_;refine st ?_;refine st ?_;refine st ?_;exact k.out):G:=f ⟨k⟩
theorem rT{G G':Prop}(k:G')(f:Kp G'->G:=by intro k;refine go8 ?_;refine st ?_;refine st ?_;refine st ?_;refine st ?_;refine st ?_;refine st ?_;exact k.out):G:=f ⟨k⟩
theorem u5{G G':Prop}(k:G')(f:Kp G'->G:=by intro k;refine go8 ?_;refine st ?_;refine st ?_;refine st ?_;refine st ?_;refine st ?_;refine st ?_;refine st ?_;exact k.out):G:=f ⟨k⟩
theorem zDD{G G':Prop}(k:G')(f:Kp G'->G:=by intro k;refine go8 ?_;refine go8 ?_;exact k.out):G:=f ⟨k⟩
theorem iD{G G':Prop}(k:G')(f:Kp G'->G:=by intro k;refine go8 ?_;refine go8 ?_;refine st ?_;exact k.out):G:=f ⟨k⟩
theorem zX3{G G':Prop}(k:G')(f:Kp G'->G:=by intro k;refine go8 ?_;refine go8 ?_;refine st ?_;refine st ?_;exact k.out):G:=f ⟨k⟩
theorem yJC{G G':Prop}(k:G')(f:Kp G'->G:=by intro k;refine go8 ?_;refine go8 ?_;refine st ?_;refine st ?_;refine st ?_;exact k.out):G:=f ⟨k⟩
theorem go20{G G':Prop}(k:G')(f:Kp G'->G:=by intro k;refine go8 ?_;refine go8 ?_;refine st ?_;refine st ?_;refine st ?_;refine st ?_;exact k.out):G:=f ⟨k⟩
theorem go22{G G':Prop}(k:G')(f:Kp G'->G:=by intro k;refine go8 ?_;refine go8 ?_;refine st ?_;refine st ?_;refine st ?_;refine st ?_;refine st ?_;refine st ?_;exact k.out):G:=f ⟨k⟩
theorem go23{G G':Prop}(k:G')(f:Kp G'->G:=by intro k;refine go8 ?_;refine go8 ?_;refine st ?_;refine st ?_;refine st ?_;refine st ?_;refine st ?_;refine st ?_;refine st ?_;exact k.out):G:=f ⟨k⟩
theorem go30{G G':Prop}(k:G')(f:Kp G'->G:=by intro k;refine go8 ?_;refine go8 ?_;refine go8 ?_;refine st ?_;refine st ?_;refine st ?_;refine st ?_;refine st ?_;refine st ?_;exact k.out):G:=f ⟨k⟩
theorem gc2{G G1 G2:Prop}{p:Prop}(kt:p->G1)(kf:¬p->G2)(f:(p->Kp G1)->(¬p->Kp G2)->G:=by intro a b;refine st ?_;refine st ?_;exact cnd (λh=>(a h).out) λh=>(b h).out):G:=f (λh=>⟨kt h⟩) λh=>⟨kf h⟩
theorem gc3{G G1 G2:Prop}{p:Prop}(kt:p->G1)(kf:¬p->G2)(f:(p->Kp G1)->(¬p->Kp G2)->G:=by intro a b;refine st ?_;refine st ?_;refine st ?_;exact cnd (λh=>(a h).out) λh=>(b h).out):G:=f (λh=>⟨kt h⟩) λh=>⟨kf h⟩
theorem gc4{G G1 G2:Prop}{p:Prop}(kt:p->G1)(kf:¬p->G2)(f:(p->Kp G1)->(¬p->Kp G2)->G:=by intro a b;refine st ?_;refine st ?_;refine st ?_;refine st ?_;exact cnd (λh=>(a h).out) λh=>(b h).out):G:=f (λh=>⟨kt h⟩) λh=>⟨kf h⟩
theorem gc5{G G1 G2:Prop}{p:Prop}(kt:p->G1)(kf:¬p->G2)(f:(p->Kp G1)->(¬p->Kp G2)->G:=by intro a b;refine st ?_;refine st ?_;refine st ?_;refine st ?_;refine st ?_;exact cnd (λh=>(a h).out) λh=>(b h).out):G:=f (λh=>⟨kt h⟩) λh=>⟨kf h⟩
theorem gc6{G G1 G2:Prop}{p:Prop}(kt:p->G1)(kf:¬p->G2)(f:(p->Kp G1)->(¬p->Kp G2)->G:=by intro a b;refine st ?_;refine st ?_;refine st ?_;refine st ?_;refine st ?_;refine st ?_;exact cnd (λh=>(a h).out) λh=>(b h).out):G:=f (λh=>⟨kt h⟩) λh=>⟨kf h⟩
theorem gc7{G G1 G2:Prop}{p:Prop}(kt:p->G1)(kf:¬p->G2)(f:(p->Kp G1)->(¬p->Kp G2)->G:=by intro a b;refine st ?_;refine st ?_;refine st ?_;refine st ?_;refine st ?_;refine st ?_;refine st ?_;exact cnd (λh=>(a h).out) λh=>(b h).out):G:=f (λh=>⟨kt h⟩) λh=>⟨kf h⟩
theorem gc8{G G1 G2:Prop}{p:Prop}(kt:p->G1)(kf:¬p->G2)(f:(p->Kp G1)->(¬p->Kp G2)->G:=by intro a b;refine st ?_;refine st ?_;refine st ?_;refine st ?_;refine st ?_;refine st ?_;refine st ?_;refine st ?_;exact cnd (λh=>(a h).out) λh=>(b h).out):G:=f (λh=>⟨kt h⟩) λh=>⟨kf h⟩
theorem gc9{G G1 G2:Prop}{p:Prop}(kt:p->G1)(kf:¬p->G2)(f:(p->Kp G1)->(¬p->Kp G2)->G:=by intro a b;refine st ?_;refine st ?_;refine st ?_;refine st ?_;refine st ?_;refine st ?_;refine st ?_;refine st ?_;refine st ?_;exact cnd (λh=>(a h).out) λh=>(b h).out):G:=f (λh=>⟨kt h⟩) λh=>⟨kf h⟩
theorem u6{G G1 G2:Prop}{p:Prop}(kt:p->G1)(kf:¬p->G2)(f:(p->Kp G1)->(¬p->Kp G2)->G:=by intro a b;refine st ?_;refine st ?_;refine st ?_;refine st ?_;refine st ?_;refine st ?_;refine st ?_;refine st ?_;refine st ?_;refine st ?_;exact cnd (λh=>(a h).out) λh=>(b h).out):G:=f (λh=>⟨kt h⟩) λh=>⟨kf h⟩
theorem zGT{G G1 G2:Prop}{p:Prop}(kt:p->G1)(kf:¬p->G2)(f:(p->Kp G1)->(¬p->Kp G2)->G:=by intro a b;refine st ?_;refine st ?_;refine st ?_;refine st ?_;refine st ?_;refine st ?_;refine st ?_;refine st ?_;refine st ?_;refine st ?_;refine st ?_;exact cnd (λh=>(a h).out) λh=>(b h).out):G:=f (λh=>⟨kt h⟩) λh=>⟨kf h⟩
theorem zKT{G G1 G2:Prop}{p:Prop}(kt:p->G1)(kf:¬p->G2)(f:(p->Kp G1)->(¬p->Kp G2)->G:=by intro a b;refine st ?_;refine st ?_;refine st ?_;refine st ?_;refine st ?_;refine st ?_;refine st ?_;refine st ?_;refine st ?_;refine st ?_;refine st ?_;refine st ?_;exact cnd (λh=>(a h).out) λh=>(b h).out):G:=f (λh=>⟨kt h⟩) λh=>⟨kf h⟩
end Go.Proofs.YtboaboflnckgoaaGreat
