/- Texts that the proof needs, part 2. -/
import Derived.Test.YtpkaegemlpaenaaGreatKH1
set_option linter.unusedVariables false
set_option linter.unusedSimpArgs false
noncomputable section
namespace Bk
open Go Go.RowKit
open Classical
def sg(s:Prop)(n:Nat):Int:=if s then -(n:Int) else n
theorem iI{s:Prop}(h:s)(n:Nat):sg s n= -(n:Int):=zau h
theorem iJ{s:Prop}(h:¬s)(n:Nat):sg s n=n:=zae h
theorem y7(s:Prop)(n:Nat):(sg s n).natAbs=n:=by
 by_cases h:s
 · rw[iI h];omega
 · rw[iJ h];omega
theorem yEZ(s:Prop):sg s 0=0:=by
 by_cases h:s
 · rw[iI h];omega
 · rw[iJ h];omega
theorem zYY(s:Prop)(n:Nat):sg s n<0↔s/\n≠0:=by
 by_cases h:s
 · rw[iI h];exact⟨λh1=>⟨h,zot⟩,λh1=>by omega⟩
 · rw[iJ h];exact⟨λh1=>by omega,λh1=>absurd h1.1 h⟩
theorem yJJ(s:Prop){n g:Nat}(h:g∣n):sg s n/(g:Int)=sg s (n/g):=by
 by_cases hs:s
 · rw[iI hs,iI hs]
   obtain⟨k,rfl⟩:=h
   rcases yii g with h0|h0
   · subst h0;simp
   · rw[Nat.mul_div_cancel_left _ h0,zeu,<-Int.mul_neg,Int.mul_ediv_cancel_left _ zot]
 · rw[iJ hs,iJ hs];omega
theorem yJH(q:Rat):sg (q.num<0) q.num.natAbs=q.num:=by
 by_cases h:q.num<0
 · rw[iI h];omega
 · rw[iJ h];omega
def vC(d:Nat):Nat:=if d=1 then 0 else d
theorem aC:vC 1=0:=rfl
theorem nQ{d:Nat}(h:d≠1):vC d=d:=zae h
theorem eS{d:Nat}(h0:d≠0):zB (vC d)=[]↔d=1:=by
 by_cases h:d=1
 · subst h;rw[aC,xM];simp
 · rw[nQ h]
   exact⟨λe=>by have:=yP.2 h0;rw[e] at this;simp at this,λe=>absurd e h⟩
theorem qD(q:Rat):(if zB (vC q.den)=[] then[1] else zB (vC q.den))=zB q.den:=by
 by_cases h:q.den=1
 · rw[zau ((eS q.den_nz).2 h),h,gW zot zot]
 · rw[zae (λe=>h ((eS q.den_nz).1 e)),nQ h]
def vQ(h:Mem)(v:Value)(q:Rat):Prop:=∃vn vd,v=.agg #[vB (q.num<0),vn,vd]/\Us .u32 h vn (zB q.num.natAbs)/\Us .u32 h vd (zB (vC q.den))
theorem zb:vB ((0:Rat).num<0)=.bool false:=yM zox
theorem zEH(h:Mem):Us .u32 h (.slice none 0 0) (zB (0:Rat).num.natAbs):=by
 have:zB (0:Rat).num.natAbs=[]:=xM;rw[this];exact Us.nil _ _
theorem zEI(h:Mem):Us .u32 h (.slice none 0 0) (zB (vC (0:Rat).den)):=by
 have:zB (vC (0:Rat).den)=[]:=xM;rw[this];exact Us.nil _ _
theorem vQ.zero(h:Mem):vQ h (.agg #[vB ((0:Rat).num<0),.slice none 0 0,.slice none 0 0]) 0:=⟨_,_,rfl,zEH _,zEI _⟩
theorem zDO{s:Prop}{n d:Nat}(hd:d≠0):(mkRat (sg s n) d).num=sg s (n/Nat.gcd n d):=by
 rw[Rat.num_mkRat,zae hd,y7,y2e];exact yJJ s (yte n d)
theorem zKA{s:Prop}{n d:Nat}(hd:d≠0):(mkRat (sg s n) d).den=d/Nat.gcd n d:=by
 rw[Rat.den_mkRat,zae hd,y7,y2e]
theorem vQ.make{h:Mem}{s:Prop}{n d:Nat}{vn vd:Value}(hn0:n≠0)(hd0:d≠0)(hn:Us .u32 h vn (zB (n/Nat.gcd n d)))(hd:Us .u32 h vd (zB (vC (d/Nat.gcd n d)))):vQ h (.agg #[vB s,vn,vd]) (mkRat (sg s n) d):=by
 have C:n/Nat.gcd n d≠0:=by
  have h1:=yte n d;have h2:=yhu d (zii hn0);exact yru (Nat.div_pos (y0e (zii hn0) h1) h2)
 refine⟨vn,vd,?_,?_,?_⟩
 · have:vB ((mkRat (sg s n) d).num<0)=vB s:=by
    rw[zDO hd0];exact kS ⟨λh=>((zYY _ _).1 h).1,λh=>(zYY _ _).2 ⟨h,C⟩⟩
   rw[this]
 · rw[zDO hd0,y7];exact hn
 · rw[zKA hd0];exact hd
def iB(q:Rat):Rat:=if q.num<0 then -q else q
theorem zIN(q:Rat):(iB q).num=q.num.natAbs:=by
 unfold iB
 by_cases h:q.num<0
 · rw[zau h,Rat.neg_num];omega
 · rw[zae h];omega
theorem zP8(q:Rat):(iB q).den=q.den:=by
 unfold iB
 by_cases h:q.num<0
 · rw[zau h,Rat.neg_den]
 · rw[zae h]
theorem vQ.abs{h:Mem}{q:Rat}{vn vd:Value}(hn:Us .u32 h vn (zB q.num.natAbs))(hd:Us .u32 h vd (zB (vC q.den))):vQ h (.agg #[.bool false,vn,vd]) (iB q):=by
 refine⟨vn,vd,?_,?_,?_⟩
 · rw[yM (by rw[zIN];omega)]
 · rw[zIN];exact hn
 · rw[zP8];exact hd
theorem vQ.negB{h:Mem}{q:Rat}{vn vd:Value}(hn:Us .u32 h vn (zB q.num.natAbs))(hd:Us .u32 h vd (zB (vC q.den))):vQ h (.agg #[vB (¬q.num<0/\(0:Int)<↑(zB q.num.natAbs).length),vn,vd]) (-q):=by
 refine⟨vn,vd,?_,?_,?_⟩
 · have:vB ((-q).num<0)=vB (¬q.num<0/\(0:Int)<↑(zB q.num.natAbs).length):=by
    have h1:=yP (n:=q.num.natAbs);rw[Rat.neg_num];exact kS ⟨λh=>⟨zot,zot⟩,λh=>by omega⟩
   rw[this]
 · rw[Rat.neg_num,Int.natAbs_neg];exact hn
 · rw[Rat.neg_den];exact hd
theorem zHQ{m n k:Nat}(h1:(zB m).length<=k)(h2:(zB n).length<=k):(zB (m+n)).length<=k+1:=by
 refine qL ?_;have D:=zme (uZ m) (zju zox h1);have C:=zme (uZ n) (zju zox h2);rw[zni];generalize 4294967296^k=p at *;omega
theorem putL{xs:List Nat}{lo n:Nat}(h:lo+1<=xs.length)(h0:n≠0)(hn:n<4294967296):xs.set lo n=xs.take lo++zB n++xs.drop (lo+(zB n).length):=by
 rw[gW h0 hn,yfi,zau zot];simp
theorem yNG{xs:List Nat}{lo n:Nat}(h:lo+2<=xs.length)(hn:n<18446744073709551616)(hn':4294967296<=n):(xs.set lo (n%4294967296)).set (lo+1) (n/4294967296)=xs.take lo++zB n++xs.drop (lo+(zB n).length):=by
 have e:zB n=[n%4294967296,n/4294967296]:=by rw[gE zot,gW (t:=n/4294967296) zot zot]
 rw[e]
 apply List.ext_getElem?
 intro i;simp only[y2i,lS,List.getElem?_append,lAz,zei,lC,lN,zpe,zxu]
 rcases Nat.lt_trichotomy i lo with hi|hi|hi
 · rw[zae zot,zae zot,zau zot,zau zot,zau zot]
 · subst hi
   rw[zae zot,zau I,zau zot,zau zot,zae zot];simp[show min i xs.length=i by omega]
 · by_cases h1:i=lo+1
   · subst h1
     rw[zau I,zau zot,zau zot,zae zot];simp[show min lo xs.length=lo by omega]
   · rw[zae zot,zae zot,zae zot]
     congr 1
     omega
def rz(s:Prop)(n:Rat):Rat:=if s then -n else n
theorem iV{s:Prop}(h:s)(n:Rat):rz s n= -n:=zau h
theorem iK{s:Prop}(h:¬s)(n:Rat):rz s n=n:=zae h
theorem cO(s:Prop)(n d:Nat):mkRat (sg s n) d=rz s n/d:=by
 rw[Rat.mkRat_eq_div]
 by_cases h:s
 · rw[iI h,iV h,z8e];rfl
 · rw[iJ h,iK h];rfl
theorem gB(q:Rat):mkRat (sg (q.num<0) q.num.natAbs) q.den=q:=by rw[yJH,Rat.mkRat_self]
theorem aN{d:Nat}(h:d≠0):(d:Rat)≠0:=λe=>h (Rat.natCast_eq_zero_iff.1 e)
theorem zB4(s:Prop)(d:Nat):mkRat (sg s 0) d=0:=by rw[yEZ,Rat.zero_mkRat]
theorem zHG(s:Prop)(n:Nat):mkRat (sg s n) 0=0:=by rw[Rat.mkRat_zero]
theorem zL4{s t:Prop}(h:s↔t)(n d:Nat):mkRat (sg s n) d=mkRat (sg t n) d:=by rw[propext h]
theorem yA3(s:Prop){n m d e:Nat}(hd:d≠0)(he:e≠0):mkRat (sg s n) d+mkRat (sg s m) e=mkRat (sg s (n*e+m*d)) (d*e):=by
 rw[cO,cO,cO,zzu,Rat.natCast_add,zzu,zzu];have h1:=aN hd;have h2:=aN he;generalize (d:Rat)=D at *;generalize (e:Rat)=E at *;generalize (n:Rat)=N at *;generalize (m:Rat)=M at *
 by_cases h:s
 · rw[iV h,iV h,iV h];grind
 · rw[iK h,iK h,iK h];grind
theorem zR5{s t:Prop}(hst:¬(s↔t)){n m d e:Nat}(hd:d≠0)(he:e≠0)(hle:m*d<=n*e):mkRat (sg s n) d+mkRat (sg t m) e=mkRat (sg s (n*e-m*d)) (d*e):=by
 have C:((n*e-m*d:Nat):Rat)=n*e-m*d:=by
  have h3:n*e-m*d+m*d=n*e:=by omega
  have H:((n*e-m*d+m*d:Nat):Rat)=((n*e:Nat):Rat):=by rw[h3]
  rw[Rat.natCast_add,zzu,zzu] at H;generalize ((n*e-m*d:Nat):Rat)=X at *;grind
 rw[cO,cO,cO,C,zzu];have h1:=aN hd;have h2:=aN he;generalize (d:Rat)=D at *;generalize (e:Rat)=E at *;generalize (n:Rat)=N at *;generalize (m:Rat)=M at *
 by_cases h:s
 · have ht:¬t:=λht=>hst ⟨λ_=>ht,λ_=>h⟩
   rw[iV h,iK ht,iV h];grind
 · have ht:t:=zdu λht=>hst ⟨λa=>absurd a h,λa=>absurd a ht⟩
   rw[iK h,iV ht,iK h];grind
theorem zTR{s t:Prop}(hst:¬(s↔t)){n m d e:Nat}(hd:d≠0)(he:e≠0)(hle:n*e<=m*d):mkRat (sg s n) d+mkRat (sg t m) e=mkRat (sg t (m*d-n*e)) (d*e):=by
 rw[Rat.add_comm,zR5 (λh=>hst h.symm) he hd hle,zyu e d]
theorem yA2(s t:Prop)(n m d e:Nat):mkRat (sg s n) d*mkRat (sg t m) e=mkRat (sg (¬(s↔t)) (n*m)) (d*e):=by
 rw[Rat.mkRat_mul_mkRat]
 congr 1
 by_cases h:s<;>by_cases h':t
 · rw[iI h,iI h',iJ (by simp[h,h']),zeu,Int.neg_mul_neg]
 · rw[iI h,iJ h',iI (by simp[h,h']),zeu,yze]
 · rw[iJ h,iI h',iI (by simp[h,h']),zeu,Int.mul_neg]
 · rw[iJ h,iJ h',iJ (by simp[h,h']),zeu]
theorem zR6(s t:Prop){n m d e:Nat}(hd:d≠0)(hm:m≠0)(he:e≠0):mkRat (sg s n) d/mkRat (sg t m) e=mkRat (sg (¬(s↔t)) (n*e)) (d*m):=by
 rw[cO,cO,cO,zzu,zzu];have h1:=aN hd;have h2:=aN hm;have h3:=aN he;generalize (d:Rat)=D at *;generalize (e:Rat)=E at *;generalize (n:Rat)=N at *;generalize (m:Rat)=M at *
 by_cases h:s<;>by_cases h':t
 · rw[iV h,iV h',iK (by simp[h,h'])];grind
 · rw[iV h,iK h',iV (by simp[h,h'])];grind
 · rw[iK h,iV h',iV (by simp[h,h'])];grind
 · rw[iK h,iK h',iK (by simp[h,h'])];grind
theorem yKU(s:Prop)(n d:Nat):-mkRat (sg s n) d=mkRat (sg (¬s) n) d:=by
 rw[Rat.neg_mkRat]
 congr 1
 by_cases h:s
 · rw[iI h,iJ (by simp[h])];omega
 · rw[iJ h,iI h]
theorem zHH(s:Prop)(n d:Nat){k:Nat}(hk:k≠0):mkRat (sg s (n*k)) (d*k)=mkRat (sg s n) d:=by
 rw[cO,cO,zzu,zzu];have h1:=aN hk
 by_cases hd:d=0
 · subst hd
   have:((0:Nat):Rat)=0:=I;rw[this];grind
 have h2:=aN hd;generalize (d:Rat)=D at *;generalize (k:Rat)=K at *;generalize (n:Rat)=N at *
 by_cases h:s
 · rw[iV h,iV h];grind
 · rw[iK h,iK h];grind
def lq(q:Rat):Nat:=max (zB q.num.natAbs).length (zB q.den).length
theorem uG(q:Rat):(zB q.num.natAbs).length<=lq q:=Nat.le_max_left _ _
theorem uF(q:Rat):(zB q.den).length<=lq q:=Nat.le_max_right _ _
theorem yC1(d:Nat):(zB (vC d)).length<=(zB d).length:=by
 by_cases h:d=1
 · subst h;rw[aC,xM];simp
 · rw[nQ h];exact zbe _
theorem vS(q:Rat):(zB (vC q.den)).length<=lq q:=zci (yC1 _) (uF q)
theorem zDR(q:Rat):0<lq q:=zme (yP.2 q.den_nz) (uF q)
theorem s5{s:Prop}{n d k:Nat}(hn:(zB n).length<=k)(hd:(zB d).length<=k)(hk:0<k):lq (mkRat (sg s n) d)<=k:=by
 by_cases h0:d=0
 · subst h0
   rw[zHG];refine Nat.max_le.2 ⟨?_,?_⟩
   · have:(zB (0:Rat).num.natAbs)=[]:=xM
     rw[this];simp
   · have:zB (0:Rat).den=[1]:=by rw[show(0:Rat).den=1 from I,gE zot,xM]
     rw[this];exact hk
 · refine Nat.max_le.2 ⟨?_,?_⟩
   · rw[zDO h0,y7]
     exact zci (yL (zti _ _)) hn
   · rw[zKA h0]
     exact zci (yL (zti _ _)) hd
theorem zFJ:lq 0=1:=by
 have h:=s5 (s:=False) (n:=0) (d:=0) (k:=1) (by rw[xM];simp) (by rw[xM];simp) zot;rw[zHG] at h;have:=zDR 0;omega
theorem zSC(q:Rat):lq (-q)=lq q:=by unfold lq;rw[Rat.neg_num,Rat.neg_den,Int.natAbs_neg]
theorem yK1(q:Rat):lq (iB q)=lq q:=by unfold lq;rw[zIN,zP8,Int.natAbs_natCast]
theorem zAS(a b:Rat):lq (a*b)<=lq a+lq b:=by
 rw[<-gB a,<-gB b,yA2,gB,gB];have h1:=uG a;have h2:=uG b;have h3:=uF a;have D:=uF b;have C:=zDR a;exact s5 (zci (yO _ _) zot) (zci (yO _ _) zot) zot
theorem lH(a b:Rat):lq (a+b)<=lq a+lq b+1:=by
 have h1:=uG a;have h2:=uG b;have h3:=uF a;have M:=uF b;have J:=zDR a;have H:=yO a.num.natAbs b.den;have D:=yO b.num.natAbs a.den;have C:=yO a.den b.den;have e:a+b=mkRat (sg (a.num<0) a.num.natAbs) a.den+mkRat (sg (b.num<0) b.num.natAbs) b.den:=by rw[gB,gB]
 rw[e]
 by_cases h:(a.num<0)↔(b.num<0)
 · rw[zL4 h,yA3 _ a.den_nz b.den_nz]
   refine s5 (zci (zHQ ?_ ?_) (zbe _)) zot zot
   · omega
   · omega
 · rcases Nat.le_total (b.num.natAbs*a.den) (a.num.natAbs*b.den) with hle|hle
   · rw[zR5 h a.den_nz b.den_nz hle]
     exact s5 (zci (yL (yiu _ _)) zot) zot zot
   · rw[zTR h a.den_nz b.den_nz hle]
     exact s5 (zci (yL (yiu _ _)) zot) zot zot
theorem zHN(a b:Rat):lq (a-b)<=lq a+lq b+1:=by
 rw[y0u];have:=lH a (-b);rw[zSC] at this;exact this
theorem zG8{q:Rat}:q.num.natAbs≠0↔q≠0:=by
 rw[Int.natAbs_ne_zero];exact not_congr Rat.num_eq_zero
theorem yKZ(a b:Rat):lq (a/b)<=lq a+lq b:=by
 have h1:=uG a;have h2:=uG b;have h3:=uF a;have D:=uF b;have C:=zDR a
 by_cases hb:b=0
 · subst hb
   have:a/0=0:=by grind
   rw[this,zFJ];omega
 have e:a/b=mkRat (sg (a.num<0) a.num.natAbs) a.den/mkRat (sg (b.num<0) b.num.natAbs) b.den:=by rw[gB,gB]
 rw[e,zR6 _ _ a.den_nz (zG8.2 hb) b.den_nz];exact s5 (zci (yO _ _) zot) (zci (yO _ _) zot) zot
def xZ(a b:Rat):Int:=if a<b then -1 else if a=b then 0 else 1
def yQ(q:Rat):Int:=if q=0 then 0 else if q.num<0 then -1 else 1
theorem yHJ(s:Prop){n m d e:Nat}(hd:d≠0)(he:e≠0):mkRat (sg s n) d<mkRat (sg s m) e↔if s then m*d<n*e else n*e<m*d:=by
 have C:∀x y:Nat,(x:Rat)<(y:Rat)↔x<y:=λx y=>by rw[Rat.natCast_lt_natCast]
 have h1:(0:Rat)<(d:Rat):=by rw[show(0:Rat)=((0:Nat):Rat) from I,C];omega
 have h2:(0:Rat)<(e:Rat):=by rw[show(0:Rat)=((0:Nat):Rat) from I,C];omega
 rw[cO,cO,<-C,<-C,zzu,zzu,Rat.div_lt_iff h1];generalize (d:Rat)=D at *;generalize (e:Rat)=E at *;generalize (n:Rat)=N at *;generalize (m:Rat)=M at *;have H:∀X:Rat,X/E*D=X*D/E:=λX=>by grind
 rw[H,Rat.lt_div_iff h2]
 by_cases h:s
 · rw[iV h,iV h,zau h];grind
 · rw[iK h,iK h,zae h]
theorem yHP(s:Prop){n m d e:Nat}(hd:d≠0)(he:e≠0):mkRat (sg s n) d=mkRat (sg s m) e↔n*e=m*d:=by
 rw[Rat.mkRat_eq_iff hd he]
 by_cases h:s
 · rw[iI h,iI h]
   rw[yze,yze,Int.neg_inj,<-zeu,<-zeu];omega
 · rw[iJ h,iJ h,<-zeu,<-zeu];omega
theorem yLW(s:Prop){n m d e:Nat}(hd:d≠0)(he:e≠0):xZ (mkRat (sg s n) d) (mkRat (sg s m) e)=if s then -(pQ (n*e) (m*d)) else pQ (n*e) (m*d):=by
 unfold xZ pQ
 by_cases h:s
 · simp only[yHJ s hd he,yHP s hd he,zau h]
   by_cases h1:m*d<n*e
   · rw[zau h1,zae zot,zae zot]
   · rw[zae h1]
     by_cases h2:n*e=m*d
     · rw[zau h2,zae zot];rfl
     · rw[zae h2,zau zot];rfl
 · simp only[yHJ s hd he,yHP s hd he,zae h]
theorem zPV(a b:Rat)(h:(a.num<0)↔(b.num<0)):xZ a b=if a.num<0 then -(pQ (a.num.natAbs*b.den) (b.num.natAbs*a.den)) else pQ (a.num.natAbs*b.den) (b.num.natAbs*a.den):=by
 have:=yLW (a.num<0) (n:=a.num.natAbs) (m:=b.num.natAbs) a.den_nz b.den_nz;rw[gB,zL4 h,gB] at this;rw[this]
 by_cases h:a.num<0
 · rw[zau h,zau h]
 · rw[zae h,zae h]
theorem pY(q:Rat):q.num<0↔q<0:=by
 have:=Rat.num_nonneg (q:=q);rw[<-Rat.not_le,<-this];omega
theorem zCP{a b:Rat}(h:yQ a≠yQ b):xZ a b=if yQ a<yQ b then -1 else 1:=by
 have D:yQ a=if a=0 then 0 else if a<0 then -1 else 1:=by unfold yQ;simp only[pY]
 have C:yQ b=if b=0 then 0 else if b<0 then -1 else 1:=by unfold yQ;simp only[pY]
 rw[D,C] at h ⊢;unfold xZ
 clear D C
 grind
theorem xC(q:Rat):-1<=yQ q/\yQ q<=1:=by
 unfold yQ
 split
 · omega
 · split<;>omega
theorem jC(a b:Rat):-1<=xZ a b/\xZ a b<=1:=by
 unfold xZ
 split
 · omega
 · split<;>omega
theorem oA{a b:Rat}:xZ a b<0↔a<b:=by
 unfold xZ
 by_cases h:a<b
 · simp[h]
 · by_cases h':a=b
   · simp[h']
   · simp[h,h']
theorem zIE{a b:Rat}:0<xZ a b↔b<a:=by
 unfold xZ
 by_cases h:a<b
 · simp[h];grind
 · by_cases h':a=b
   · simp[h']
   · simp[h,h'];grind
theorem aV{a b:Rat}:xZ a b=0↔a=b:=by
 unfold xZ
 by_cases h:a<b
 · simp[h];grind
 · by_cases h':a=b
   · simp[h']
   · simp[h,h']
def sJ(q:Rat):Prop:=(zB q.num.natAbs).length<=1/\(zB (vC q.den)).length<=1
theorem zQO{q:Rat}(h:(1:Int)<↑(zB q.num.natAbs).length\/(1:Int)<↑(zB (vC q.den)).length):¬sJ q:=λ⟨h1,h2⟩=>by omega
theorem zVJ{q:Rat}(h:¬((1:Int)<↑(zB q.num.natAbs).length\/(1:Int)<↑(zB (vC q.den)).length)):sJ q:=⟨zot,zot⟩
theorem nK{n:Nat}(h:(zB n).length<=1):n<4294967296:=by
 have:=zme (uZ n) (zju zox h);omega
theorem yCZ{d:Nat}(h:(↑(zB (vC d)).length:Int)=1):(zB (vC d)).getD 0 0=d:=by
 by_cases h1:d=1
 · subst h1;rw[aC,xM] at h;simp at h
 · rw[nQ h1] at h ⊢
   have h3:=nK (n:=d) zot;have C:d≠0:=yP.1 zot;rw[gW C h3];rfl
theorem zXH{d:Nat}(h0:d≠0)(h:¬(↑(zB (vC d)).length:Int)=1)(h1:(zB (vC d)).length<=1):d=1:=by
 by_cases h2:d=1
 · exact h2
 · rw[nQ h2] at h h1
   have:=yP.2 h0;omega
theorem yC0{q:Rat}(h:¬(↑(zB (vC q.den)).length:Int)=1)(hs:sJ q):q.den=1:=zXH q.den_nz h hs.2
theorem tF{q:Rat}(h:sJ q):q.num.natAbs<4294967296:=nK h.1
theorem tG{q:Rat}(h:sJ q):q.den<4294967296:=by
 by_cases h1:q.den=1
 · omega
 · have h2:=h.2
   rw[nQ h1] at h2;exact nK h2
def pN(q:Rat):Nat:=if sJ q then q.num.natAbs else 0
def pD(q:Rat):Nat:=if sJ q then q.den else 0
theorem zIR{q:Rat}(h:sJ q):pN q=q.num.natAbs:=zau h
theorem pN_f{q:Rat}(h:¬sJ q):pN q=0:=zae h
theorem zIS{q:Rat}(h:sJ q):pD q=q.den:=zau h
theorem pD_f{q:Rat}(h:¬sJ q):pD q=0:=zae h
theorem mA{n:Nat}:uU n=0↔n=0:=by
 unfold uU
 by_cases h:n=0
 · simp[h]
 · simp[h]
theorem eG{Y:Nat}:((↑(zB Y).length:Int)=1/\(zB Y).getD 0 0=1)↔Y=1:=by
 constructor
 · intro⟨h1,h2⟩
   have h3:=nK (n:=Y) zot;have C:Y≠0:=yP.1 zot;rw[gW C h3] at h2;exact h2
 · intro h
   subst h;rw[gW zot zot];exact⟨I,I⟩
theorem zKQ{n:Nat}(h:¬(1:Int)<↑(uU n))(h0:n≠0):n=1:=by
 have h1:=eE n;have h2:=zju (n:=2) zox (show uU n<=1 by omega);omega
theorem vQ.fin{h:Mem}{s:Prop}{n d:Nat}{vn vd:Value}(hn0:n≠0)(hd0:d≠0)(hn:Us .u32 h vn (zB (n/Nat.gcd n d)))(hd:Us .u32 h vd (zB (d/Nat.gcd n d)))(h1:¬((↑(zB (d/Nat.gcd n d)).length:Int)=1/\(zB (d/Nat.gcd n d)).getD 0 0=1)):vQ h (.agg #[vB s,vn,vd]) (mkRat (sg s n) d):=
 vQ.make hn0 hd0 hn (by rw[nQ (λe=>h1 (eG.2 e))];exact hd)
theorem vQ.fin1{h:Mem}{s:Prop}{n d:Nat}{vn:Value}(hn0:n≠0)(hd0:d≠0)(hn:Us .u32 h vn (zB (n/Nat.gcd n d)))(h1:(↑(zB (d/Nat.gcd n d)).length:Int)=1/\(zB (d/Nat.gcd n d)).getD 0 0=1):vQ h (.agg #[vB s,vn,.slice none 0 0]) (mkRat (sg s n) d):=
 vQ.make hn0 hd0 hn (by rw[eG.1 h1,aC,xM];exact Us.nil _ _)
theorem w5:[1]=zB 1:=(gW zot zot).symm
theorem zMC:(zB 1).length=1:=by rw[<-w5];rfl
theorem s6(m n:Nat):(zB (Nat.gcd m n)).length<=max (zB m).length (zB n).length:=by
 by_cases h:m=0
 · subst h;rw[Nat.gcd_zero_left];omega
 · have:=yL (Nat.gcd_le_left n (zii h))
   omega
theorem aP{q:Rat}(h:q=0):yQ q=0:=zau h
theorem zBG{q:Rat}(h:q.num<0):yQ q= -1:=by
 unfold yQ;rw[zae (λe=>by rw[e] at h;exact absurd h zox),zau h]
theorem zBF{q:Rat}(h:q≠0)(h':¬q.num<0):yQ q=1:=by unfold yQ;rw[zae h,zae h']
theorem zIY{q:Rat}(h:(↑(uU q.num.natAbs):Int)=0):q=0:=by
 have:=(mA (n:=q.num.natAbs)).1 zot;exact Rat.num_eq_zero.1 zot
theorem zJB{q:Rat}(h:q=0):(↑(uU q.num.natAbs):Int)=0:=by subst h;decide
theorem zSP{a b:Rat}:zB (vC a.den)=zB (vC b.den)↔a.den=b.den:=by
 refine⟨λh=>?_,λh=>by rw[h]⟩;have h1:=u6 h;have ha:=a.den_nz;have C:=b.den_nz;unfold vC at h1
 split at h1<;>split at h1<;>omega
theorem yJT{a b:Rat}(h1:a.num=b.num)(h2:a.den=b.den):a=b:=by
 rw[<-Rat.mkRat_self a,<-Rat.mkRat_self b,h1,h2]
theorem zNQ{a b:Rat}:(((a.num<0↔b.num<0)/\zB a.num.natAbs=zB b.num.natAbs)/\zB (vC a.den)=zB (vC b.den))↔a=b:=by
 refine⟨λ⟨⟨h1,h2⟩,h3⟩=>yJT ?_ (zSP.1 h3),λh=>by subst h;simp⟩;have:=u6 h2;omega
theorem zNL{a b:Rat}(h:¬yQ a≠yQ b):a.num<0↔b.num<0:=by
 have h:=zdi h
 by_cases h1:a.num<0<;>by_cases h2:b.num<0
 · simp[h1,h2]
 · rw[zBG h1] at h
   by_cases h3:b=0
   · rw[aP h3] at h;omega
   · rw[zBF h3 h2] at h;omega
 · rw[zBG h2] at h
   by_cases h3:a=0
   · rw[aP h3] at h;omega
   · rw[zBF h3 h1] at h;omega
 · simp[h1,h2]
def cN(a b:Rat):Int:=pQ (a.num.natAbs*b.den) (b.num.natAbs*a.den)
theorem zP1(a b:Rat):-1<=cN a b/\cN a b<=1:=by
 unfold cN pQ
 split
 · omega
 · split<;>omega
theorem zUN{a b:Rat}(h:a.num<0↔b.num<0)(hn:a.num<0):xZ a b= -(cN a b):=by rw[zPV a b h,zau hn];rfl
theorem zPW{a b:Rat}(h:a.num<0↔b.num<0)(hn:¬a.num<0):xZ a b=cN a b:=by rw[zPV a b h,zae hn];rfl
theorem yL0{a b:Rat}(h:zB (vC a.den)=zB (vC b.den)):cN a b=pQ a.num.natAbs b.num.natAbs:=by
 unfold cN pQ;rw[zSP.1 h];have C:=zii b.den_nz
 by_cases h1:a.num.natAbs<b.num.natAbs
 · rw[zau h1,zau (z8u h1 C)]
 · rw[zae h1,zae (λe=>h1 (Nat.lt_of_mul_lt_mul_right e))]
   by_cases h2:a.num.natAbs=b.num.natAbs
   · rw[zau h2,h2,zau I]
   · rw[zae h2,zae (λe=>h2 (Nat.eq_of_mul_eq_mul_right C e))]
theorem jE{m n:Nat}(hm:m<4294967296)(hn:n<4294967296):m*n<=18446744065119617025:=by
 have:=z7u (show m<=4294967295 by omega) (show n<=4294967295 by omega);omega
def sgd(s:Prop)(b:Rat):Rat:=mkRat (sg s b.num.natAbs) b.den
theorem zBH(b:Rat):sgd (b.num<0) b=b:=gB b
theorem yEY(b:Rat):sgd (¬b.num<0) b= -b:=by
 unfold sgd;rw[<-yKU,gB]
theorem yA9(s:Prop)(b:Rat):lq (sgd s b)<=lq b:=s5 (uG b) (uF b) (zDR b)
theorem zFV{a b:Rat}{s:Prop}(h:(a.num<0)↔s):a+sgd s b=mkRat (sg s (a.num.natAbs*b.den+b.num.natAbs*a.den)) (a.den*b.den):=by
 have:=yA3 s (n:=a.num.natAbs) (m:=b.num.natAbs) a.den_nz b.den_nz;rw[<-zL4 h a.num.natAbs,gB] at this;exact this
theorem zFB{a b:Rat}{s:Prop}(h:¬((a.num<0)↔s))(hle:b.num.natAbs*a.den<=a.num.natAbs*b.den):a+sgd s b=mkRat (sg (a.num<0) (a.num.natAbs*b.den-b.num.natAbs*a.den)) (a.den*b.den):=by
 have:=zR5 h (n:=a.num.natAbs) (m:=b.num.natAbs) a.den_nz b.den_nz hle;rw[gB] at this;exact this
theorem zBB{a b:Rat}{s:Prop}(h:¬((a.num<0)↔s))(hle:a.num.natAbs*b.den<=b.num.natAbs*a.den):a+sgd s b=mkRat (sg s (b.num.natAbs*a.den-a.num.natAbs*b.den)) (a.den*b.den):=by
 have:=zTR h (n:=a.num.natAbs) (m:=b.num.natAbs) a.den_nz b.den_nz hle;rw[gB] at this;exact this
theorem yD2{a b:Rat}{s:Prop}(h:(a.num<0)↔s)(hd:a.den=b.den):a+sgd s b=mkRat (sg s (a.num.natAbs+b.num.natAbs)) a.den:=by
 rw[zFV h,<-hd,<-z2u,zHH _ _ _ a.den_nz]
theorem zYK{a b:Rat}{s:Prop}(h:¬((a.num<0)↔s))(hd:a.den=b.den)(hle:b.num.natAbs<=a.num.natAbs):a+sgd s b=mkRat (sg (a.num<0) (a.num.natAbs-b.num.natAbs)) a.den:=by
 rw[zFB h (by rw[<-hd];exact zgi _ hle),<-hd,<-yzi,zHH _ _ _ a.den_nz]
theorem zVH{a b:Rat}{s:Prop}(h:¬((a.num<0)↔s))(hd:a.den=b.den)(hle:a.num.natAbs<=b.num.natAbs):a+sgd s b=mkRat (sg s (b.num.natAbs-a.num.natAbs)) a.den:=by
 rw[zBB h (by rw[<-hd];exact zgi _ hle),<-hd,<-yzi,zHH _ _ _ a.den_nz]
theorem yAZ(a b:Rat):mkRat (sg (¬((a.num<0)↔(b.num<0))) (a.num.natAbs*b.num.natAbs)) (a.den*b.den)=a*b:=by
 rw[<-yA2,gB,gB]
theorem zZK(a:Rat){b:Rat}(hb:b≠0):mkRat (sg (¬((a.num<0)↔(b.num<0))) (a.num.natAbs*b.den)) (a.den*b.num.natAbs)=a/b:=by
 rw[<-zR6 _ _ a.den_nz (zG8.2 hb) b.den_nz,gB,gB]
theorem bX{q:Rat}(h:(↑(zB q.num.natAbs).length:Int)=0):q=0:=by
 refine zdu λC=>?_;have:=yP.2 (zG8.2 C);omega
theorem uL{q:Rat}:yQ q=0↔q=0:=by
 refine⟨λh=>?_,aP⟩;unfold yQ at h
 by_cases h1:q=0
 · exact h1
 · rw[zae h1] at h;split at h<;>omega
def zHX:Rat:=mkRat (sg False 1) 2
theorem yFU:lq zHX<=1:=s5 (by rw[gW zot zot];simp) (by rw[gW zot zot];simp) zot
theorem yB9:zHX=1/2:=by
 unfold zHX;rw[cO,iK id]
 rfl
def zDP(a b:Rat):Rat:=(a+b)*zHX
theorem yK0(a b:Rat):lq (zDP a b)<=lq a+lq b+2:=by
 have h1:=zAS (a+b) zHX;have h2:=lH a b;have h3:=yFU;unfold zDP;omega
def kN(k:Int):Nat:=(min (max k 0) 4096).toNat
theorem zFK(a b:Rat):lq (if b=0 then 0 else a/b)<=lq a+lq b:=by
 have:=yKZ a b;have h1:=zDR a
 split
 · rw[zFJ];omega
 · exact this
theorem zYL{p:Prop} [Decidable p](h:(if p then 7 else 0:Int)=0):¬p:=by
 intro C;rw[zau C] at h;omega
theorem zYM{p:Prop} [Decidable p](h:¬(if p then 7 else 0:Int)=0):p:=by
 refine zdu λC=>h ?_;rw[zae C]
theorem fI{n:Int}(h1:-9223372036854775808<=n)(h2:n<9223372036854775808):(zB n.natAbs).length<=2:=gN zot
def kP(n d:Int):Rat:=(n:Rat)/(d:Rat)
theorem zHL(n:Int):kP n 0=0:=by
 unfold kP;have:((0:Int):Rat)=0:=I;rw[this];grind
theorem zMI(n:Int):mkRat (sg (n<0) n.natAbs) 1=(n:Rat):=by
 have e:sg (n<0) n.natAbs=n:=by
  by_cases h:n<0
  · rw[iI h];omega
  · rw[iJ h];omega
 rw[e,Rat.mkRat_one]
theorem zO3{n d:Int}(hd:d≠0):mkRat (sg (¬((n<0)↔(d<0))) n.natAbs) d.natAbs=kP n d:=by
 unfold kP;rw[<-zMI n,<-zMI d,zR6 _ _ zot zot zot,z6e,yne]
theorem dG(n:Int)(h1:-9223372036854775808<=n)(h2:n<9223372036854775808):lq (n:Rat)<=2:=by
 rw[<-zMI];exact s5 (fI h1 h2) (by rw[zMC];omega) zot
theorem zB7{n d:Int}(h1:-9223372036854775808<=n)(h2:n<9223372036854775808)(h3:-9223372036854775808<=d)(h4:d<9223372036854775808):lq (kP n d)<=2:=by
 by_cases hd:d=0
 · subst hd;rw[zHL,zFJ];omega
 · rw[<-zO3 hd];exact s5 (fI h1 h2) (fI h3 h4) zot
theorem zO9{xs:List Nat}:(↑xs.length:Int)=0↔xs=[]:=⟨λh=>zof zot,λh=>by rw[h];rfl⟩
theorem zHZ{g:Nat}(h:¬((↑(zB g).length:Int)≠1\/(zB g).getD 0 0≠1)):g=1:=
 eG.1 ⟨zdi λe=>h (.inl e),zdi λe=>h (.inr e)⟩
theorem yC6{a b:Rat}:(((a.num<0)↔(b.num<0))/\pQ a.num.natAbs b.num.natAbs=0)/\pQ (vC a.den) (vC b.den)=0↔a=b:=by
 rw[zD6,zD6,<-zNQ];constructor
 · rintro⟨⟨h1,h2⟩,h3⟩
   exact⟨⟨h1,by rw[h2]⟩,by rw[h3]⟩
 · rintro⟨⟨h1,h2⟩,h3⟩
   exact⟨⟨h1,u6 h2⟩,u6 h3⟩
theorem yFX{q:Rat}:(↑(zB q.num.natAbs).length:Int)=0↔q=0:=by
 refine⟨bX,λh=>?_⟩;subst h;rw[show(0:Rat).num.natAbs=0 from I,xM];rfl
theorem zG7{q:Rat}(h:¬(↑(zB q.num.natAbs).length:Int)=0):q≠0:=λe=>h (yFX.2 e)
theorem yD3{a b:Rat}(h:(a.num<0)↔(b.num<0)):mkRat (sg (a.num<0) (a.num.natAbs*b.den+b.num.natAbs*a.den)) (a.den*b.den)=a+b:=by
 have:=zFV (a:=a) (b:=b) h;rw[zBH,zL4 h.symm] at this;exact this.symm
theorem yMI{a b:Rat}(h:¬((a.num<0)↔(b.num<0)))(hle:b.num.natAbs*a.den<=a.num.natAbs*b.den):mkRat (sg (a.num<0) (a.num.natAbs*b.den-b.num.natAbs*a.den)) (a.den*b.den)=a+b:=by
 have:=zFB (a:=a) (b:=b) h hle;rw[zBH] at this;exact this.symm
theorem yMH{a b:Rat}(h:¬((a.num<0)↔(b.num<0)))(hle:a.num.natAbs*b.den<=b.num.natAbs*a.den):mkRat (sg (b.num<0) (b.num.natAbs*a.den-a.num.natAbs*b.den)) (a.den*b.den)=a+b:=by
 have:=zBB (a:=a) (b:=b) h hle;rw[zBH] at this;exact this.symm
theorem zQE{h:Mem}{v:Value}{n:Int}(s:Us .u32 h v (zB n.natAbs)):Us .u32 h v (zB (n:Rat).num.natAbs):=by
 rw[Rat.num_intCast];exact s
theorem zQF{h:Mem}{n:Int}:Us .u32 h (.slice none 0 0) (zB (vC (n:Rat).den)):=by
 rw[Rat.den_intCast,aC,xM];exact Us.nil _ _
theorem vQ.int{h:Mem}{v:Value}{n:Int}(s:Us .u32 h v (zB n.natAbs)):vQ h (.agg #[vB (n<0),v,.slice none 0 0]) (n:Rat):=
 ⟨v,.slice none 0 0,by rw[Rat.num_intCast],zQE s,zQF⟩
theorem zKC:kP 1 2=zHX:=by rw[yB9];rfl
end Bk
namespace Bk
open Go Go.RowKit
def gV(k:Nat)(v:Value)(lo hi mx:Nat):Value:=
 match v with
 | .slice a _ _=>.slice (if mx=lo then a else a.map (·.add (lo*k))) (hi-lo) (mx-lo)
 |_=>undef
section
variable {P:Program}{n:Nat}{w0:World}{h0:Mem}{e:List (Nat×Value)}{L:List Res}{h:Mem}{Q:Exit->Act->World->Prop}
variable {ds:Option Tmp}{ty:TypeId}{ps:String}{af:Array Edge}{gd:Option (Nat×Bool)}
theorem Sl.sub3{h:Mem}{k:Nat}{v:Value}{m:Nat}{cs:List Value}(s:Sl h k v m cs){lo hi mx:Nat}(h1:lo<=hi)(h2:hi<=mx)(h3:mx<=m):Sl h k (gV k v lo hi mx) (hi-lo) ((cs.drop (lo*k)).take ((hi-lo)*k)):=by
 obtain⟨a,U,rfl,h4,Z,O,M⟩:=s;refine⟨_,_,I,zot,zot,?_,λi J=>?_⟩
 · rw[zei,ziu,O]
   have:=zgi k (show lo+(hi-lo)<=m by omega);rw[z2u] at this;omega
 · rw[zei,ziu] at J
   have D:i<(hi-lo)*k:=by omega
   have C:0<(hi-lo)*k:=by omega
   have H:lo<hi:=by
    rcases zte lo hi with h'|h'
    · exact h'
    · rw[show hi-lo=0 by omega,zwe] at C;omega
   obtain⟨b,o,ha,hc⟩:=M (lo*k+i) zot;subst ha;refine⟨b,o+lo*k,by rw[zae zot];simp[jY],?_⟩;rw[zpe,zau D,zxu,<-hc,z3e]
theorem Us.sub3{k:IntKind}{h:Mem}{v:Value}{xs:List Nat}(s:Us k h v xs){lo hi mx:Nat}(h1:lo<=hi)(h2:hi<=mx)(h3:mx<=xs.length):Us k h (gV 1 v lo hi mx) ((xs.drop lo).take (hi-lo)):=by
 have:=s.sl.sub3 h1 h2 h3;simp only[z6e] at this;refine⟨?_,λx hx=>s.lt x (z7i (z2e hx))⟩;have C:((xs.drop lo).take (hi-lo)).length=hi-lo:=by rw[zei,ziu];omega
 rw[C]
 simpa[us] using this
theorem St.own_shape{E:Nat}{k:IntKind}{v:Value}{xs:List Nat}{w:World}(S:St w0 h0 L h w)(hm:.us E k v xs∈L):∃a cap,v=.slice a xs.length cap/\xs.length<=cap/\cap<=maxLen/\(0<xs.length->∃g,a=some ⟨g,0,none⟩):=by
 obtain⟨D,C⟩:=S.ok _ hm
 rcases C with⟨rfl,h0'⟩|⟨g,cap,cur,rfl,hb,hg,hn,hcm,hcs,ht⟩
 · exact⟨none,0,by rw[h0'],zot,zot,λh=>by omega⟩
 · exact⟨_,cap,I,hn,hcm,λ_=>⟨g,I⟩⟩
theorem St.own_self{E:Nat}{k:IntKind}{v:Value}{xs:List Nat}{w:World}(S:St w0 h0 L h w)(hm:.us E k v xs∈L):v=tB 1 v 0 xs.length:=by
 obtain⟨a,C,rfl,h1,h2,h3⟩:=S.own_shape hm;simp only[tB,zwe,ydu]
 by_cases hc:C=0
 · rw[zau hc]
 · rw[zae hc]
   cases a with
   |none=>rfl
   |some x=>
    obtain⟨b,o,D⟩:=x;simp[Addr.add]
theorem zGQ{E:Nat}{k:IntKind}{v:Value}{xs:List Nat}{t E':TypeId}{x lo:Operand}{p:Int}(hm:.us E k v xs∈L)(i:Nat)(ht:P.underlying t=some (.slice E'))(hsz:∀w,(Go.sizeOf E').run P w=.ok 1 w)(hx:zH e x=some v)(hl:zH e lo=some (vI p))
    (hp:p=(i:Int))(h1:i<=xs.length):OpV P n w0 h0 ⟨ds,.slice t x (some lo) none none,ty,ps,af,gd⟩ e L h (tB 1 v i xs.length):=by
 intro a w J S;obtain⟨H,C,D,hc,_⟩:=S.own_shape hm;exact jI i ht hsz hx hl ⟨H,C,D,hc⟩ hp h1 a w J S
theorem zQT{t E:TypeId}{w:World}(ht:P.underlying t=some (.slice E))(hsz:∀w,(Go.sizeOf E).run P w=.ok 1 w)(a:Option Addr)(m cap lo hi mx:Nat)(h1:lo<=hi)(h2:hi<=mx)(h3:mx<=cap):
 (Instr.sliceAt t (.slice a m cap) (some (vI lo)) (some (vI hi)) (some (vI mx))).run P w=.ok (gV 1 (.slice a m cap) lo hi mx) w:=by
 simp[Instr.sliceAt,Instr.slice,run_underlying ht,Instr.sliceBounds,Instr.sliceBound,asIntOf,vI,hsz,gV,h1,h2,h3]
theorem zNT{t E:TypeId}{w:World}(ht:P.underlying t=some (.slice E))(hsz:∀w,(Go.sizeOf E).run P w=.ok 1 w)(a:Option Addr)(m cap hi mx:Nat)(h2:hi<=mx)(h3:mx<=cap):
 (Instr.sliceAt t (.slice a m cap) none (some (vI hi)) (some (vI mx))).run P w=.ok (gV 1 (.slice a m cap) 0 hi mx) w:=by
 simp[Instr.sliceAt,Instr.slice,run_underlying ht,Instr.sliceBounds,Instr.sliceBound,asIntOf,vI,hsz,gV,h2,h3]
theorem zIT{E:Nat}{k:IntKind}{v:Value}{xs:List Nat}{t E':TypeId}{x lo hi mx:Operand}{p q r:Int}(hm:.us E k v xs∈L)(i j l:Nat)(ht:P.underlying t=some (.slice E'))(hsz:∀w,(Go.sizeOf E').run P w=.ok 1 w)(hx:zH e x=some v)(hl:zH e lo=some (vI p))(hh:zH e hi=some (vI q))(hmx:zH e mx=some (vI r))
    (hp:p=(i:Int))(hq:q=(j:Int))(hr:r=(l:Int))(h1:i<=j)(h2:j<=l)(h3:l<=xs.length):OpV P n w0 h0 ⟨ds,.slice t x (some lo) (some hi) (some mx),ty,ps,af,gd⟩ e L h (gV 1 v i j l):=by
 subst hp;subst hq;subst hr;intro a w C S;obtain⟨H,D,rfl,hc,_⟩:=S.own_shape hm;have:=zQT (P:=P) (w:=w) ht hsz H xs.length D i j l h1 h2 zot;simp[execOp,C.eval hx,C.eval hl,C.eval hh,C.eval hmx,this]
theorem zGR{E:Nat}{k:IntKind}{v:Value}{xs:List Nat}{t E':TypeId}{x hi mx:Operand}{q r:Int}(hm:.us E k v xs∈L)(j l:Nat)(ht:P.underlying t=some (.slice E'))(hsz:∀w,(Go.sizeOf E').run P w=.ok 1 w)(hx:zH e x=some v)(hh:zH e hi=some (vI q))(hmx:zH e mx=some (vI r))
    (hq:q=(j:Int))(hr:r=(l:Int))(h2:j<=l)(h3:l<=xs.length):OpV P n w0 h0 ⟨ds,.slice t x none (some hi) (some mx),ty,ps,af,gd⟩ e L h (gV 1 v 0 j l):=by
 subst hq;subst hr;intro a w D S;obtain⟨H,C,rfl,hc,_⟩:=S.own_shape hm;have:=zNT (P:=P) (w:=w) ht hsz H xs.length C j l h2 zot;simp[execOp,D.eval hx,D.eval hh,D.eval hmx,this]
theorem s0{E:Nat}{k:IntKind}{v u:Value}{xs:List Nat}{t E':TypeId}{x y:Operand}{q:Int}{lo:Nat}(hm:.us E k v xs∈L)(hu:u=tB 1 v lo xs.length)(i:Nat)(ht:P.underlying t=some (.slice E'))(hsz:∀w,(Go.sizeOf E').run P w=.ok 1 w)(hx:zH e x=some u)(hy:zH e y=some (vI q))
    (hq:q=(i:Int))(hi:lo+i<xs.length):OpV P n w0 h0 ⟨ds,.indexAddr t x y,ty,ps,af,gd⟩ e L h (zI 1 v (lo+i)):=by
 subst hq;subst hu;intro a w H S;obtain⟨U,D,rfl,hc,O,M⟩:=S.own_shape hm;obtain⟨g,rfl⟩:=M zot;have C:¬D=lo:=by omega
 have h2:(i:Int)<((xs.length-lo:Nat):Int):=by omega
 have h3:(0:Int)<=(i:Int):=by omega
 simp only[tB,zae C,yoe,jY,z6e,zyi] at hx;simp[execOp,H.eval hx,H.eval hy,Instr.indexAt,asIntOf,vI,run_underlying ht,h2,h3,hsz,zI,jY];intro J;omega
theorem yCE{ops:Array Oper}{l:List Oper}{E:Nat}{k:IntKind}{v:Value}{xs:List Nat}(hm:.us E k v xs∈L)(k':∀a cap,v=.slice a xs.length cap->xs.length<=cap->GL P n w0 h0 ops Q l e L h):GL P n w0 h0 ops Q l e L h:=by
 intro a w H S;obtain⟨D,cap,C,hc,_⟩:=S.own_shape hm;exact k' D cap C hc a w H S
theorem dR{ops:Array Oper}{l:List Oper}{A B:List Res}{r:Res}(k':GL P n w0 h0 ops Q l e (r::(A++B)) h):GL P n w0 h0 ops Q l e (A++r::B) h:=
 λa w Ev S=>k' a w Ev (S.perm yci)
theorem zZ4{f:Nat}{xs:List Operand}{ts:Array TypeId}{vs:List Value}{v:Value}(hcall:∀w,(callFunc f vs.toArray).run P w=.ok (.value v) w)(hvs:bD e xs vs):
 OpV P n w0 h0 ⟨ds,.call {callee:=.value (.func f),args:=xs.toArray,argTypes:=ts},ty,ps,af,gd⟩ e L h v:=by
 intro a w D S;have C:xs.toArray.map a.eval=vs.toArray:=by rw[z0e,D.evals hvs]
 simp only[execOp,resolve,Act.eval];simp[Deferred.ofValue,invoke,hcall,C]
theorem jD.nil{ops:Array Oper}:jD P n ops []:=λx hx=>by cases hx
theorem jD.cons{ops:Array Oper}{i d E:Nat}{cs:List Value}{al:Als}(hop:(ops.getD i default).op=.alloc E)(hd:Nat.ble (d+1) n=true)(hz:∀w,∃z,(zeroValue E).run P w=.ok z w/\z.cells=cs.toArray)(h:jD P n ops al):jD P n ops ((i,(d,E,cs))::al):=by
 intro x hx
 rcases zfu.1 hx with rfl|hx
 · refine⟨zce hd,λa w=>?_,λJ H=>?_⟩
   · obtain⟨z,D,C⟩:=hz w
     simp only[execOp,hop,Instr.alloc,zNB,zW2];simp[D,newVar,newRow,newObj,Sem.run,C]
   · simp only[hop,zW2] at H
     cases H
 · exact h x hx
theorem uM{E:TypeId}{i:TypeInfo}{z:Value}{cs:List Value}(hi:P.info? E=some i)(hz:i.zero=some z)(hc:z.cells=cs.toArray)(w:World):∃z,(zeroValue E).run P w=.ok z w/\z.cells=cs.toArray:=
 ⟨z,by simp[zeroValue,typeInfo,hi,hz],hc⟩
theorem kF{e:List (Nat×Value)}{al:Als}:∀x∈([]:Als),al.lookup x.1=some x.2/\e.lookup x.2.1=none:=λx hx=>by cases hx
theorem uN{e:List (Nat×Value)}{al al':Als}{y:Nat×(Nat×TypeId×List Value)}(h1:al.lookup y.1=some y.2)(h2:e.lookup y.2.1=none)(h:∀x∈al',al.lookup x.1=some x.2/\e.lookup x.2.1=none):∀x∈y::al',al.lookup x.1=some x.2/\e.lookup x.2.1=none:=by
 intro x hx
 rcases zfu.1 hx with rfl|hx
 · exact⟨h1,h2⟩
 · exact h x hx
end
end Bk
namespace Bk
open Go Go.RowKit
open Classical
section
variable {P:Program}{n:Nat}{w0:World}{h0:Mem}{e:List (Nat×Value)}{L:List Res}{h:Mem}{Q:Exit->Act->World->Prop}
variable {ds:Option Tmp}{ty:TypeId}{ps:String}{af:Array Edge}{gd:Option (Nat×Bool)}
def zP9(P:Program)(c:Code)(Q:Exit->Act->World->Prop)(a:Act)(w:World):Prop:=
 ∀(b:Frame) (k:List Item) (cs:List Frame),∃x a' w',Q x a' w'/\Arrives P (lone (b.at a (.code c::.inLoop c::k)) cs w) b k cs x a' w'
theorem zO4{c:Code}{a:Act}{w:World}(hw:c.wp P (Exit.then (zP9 P c Q) Q) a w):zP9 P c Q a w:=by
 intro b k cs;obtain⟨x,M,J,H,C⟩:=hw b (.inLoop c::k) cs
 cases x with
 |normal=>
  obtain⟨U,a2,Z,O,D⟩:=H b k cs;exact⟨U,a2,Z,O,.of_steps (Steps.trans C (.one step_inLoop)) D⟩
 |exit id=>exact⟨_,M,J,H,.pass (x:=.inLoop c) rfl (λ_ _=>.inl zo3) C⟩
 |goto l=>exact⟨_,M,J,H,.pass (x:=.inLoop c) rfl (λ_ _=>.inl zo3) C⟩
 |ret=>exact⟨_,M,J,H,.pass (x:=.inLoop c) rfl (λ_ _=>.inl zo3) C⟩
 |panic ch=>exact⟨_,M,J,H,.pass (x:=.inLoop c) rfl (λ_ _=>.inl zo3) C⟩
 |outgrown=>exact⟨_,M,J,H,.pass (x:=.inLoop c) rfl (λ_ _=>.inl zo3) C⟩
theorem fX{c:Code}(k:GC P n w0 h0 c (Exit.then (zP9 P c Q) Q) e L h):GC P n w0 h0 (.loop c) Q e L h:=by
 intro a w E S b H cs;obtain⟨x,M,D,J,C⟩:=zO4 (k a w E S) b H cs;exact⟨x,M,D,J,.of_steps (.one step_loop) C⟩
theorem wK{c:Code}(k:GC P n w0 h0 c (Exit.then (zP9 P c Q) Q) e L h):GQ n w0 h0 (Exit.then (zP9 P c Q) Q) .normal e L h:=
 λa w E S=>zO4 (k a w E S)
theorem OpV.cv{o:Oper}{v v':Value}(hv:OpV P n w0 h0 o e L h v)(e':v=v'):OpV P n w0 h0 o e L h v':=e'▸hv
end
end Bk
namespace Bk
open Go Go.RowKit
section
variable {P:Program}{n:Nat}{w0:World}{h0:Mem}{e:List (Nat×Value)}{L:List Res}{h:Mem}
variable {ds:Option Tmp}{ty:TypeId}{ps:String}{af:Array Edge}{gd:Option (Nat×Bool)}
theorem gY{x:Operand}{b k:Nat}(hx:zH e x=some (vP b k)):OpV P n w0 h0 ⟨ds,.nilCheck x,ty,ps,af,gd⟩ e L h (vP b k):=by
 intro a w C S;simp[execOp,C.eval hx]
theorem zW{t E:TypeId}{x y:Operand}{b k m sz:Nat}{q:Int}(i:Nat)(ht:P.underlying t=some (.array m E))(hsz:∀w,(Go.sizeOf E).run P w=.ok sz w)(hx:zH e x=some (vP b k))(hy:zH e y=some (vI q))(hq:q=(i:Int))(hi:i<m):
 OpV P n w0 h0 ⟨ds,.indexAddr t x y,ty,ps,af,gd⟩ e L h (vP b (k+i*sz)):=by
 subst hq;intro a w C S;simp[execOp,C.eval hx,C.eval hy,Instr.indexAt,vI,asIntOf,run_underlying ht,hsz,Instr.sureAddr,hi,jY]
theorem zLL{t E:TypeId}{m sz:Nat}{i:TypeInfo}{z:Value}{parts:List (Nat×Operand)}{ps':List (Nat×Value)}{vs:List Value}(ht:P.underlying t=some (.array m E))(hi:P.info? t=some i)(hz:i.zero=some z)
    (hsz:∀w,(Go.sizeOf E).run P w=.ok sz w)(hp:iC e parts ps')(hf:Instr.fill (λi=>some (i*sz,sz)) z.cells ps'=some vs.toArray):
    OpV P n w0 h0 ⟨ds,.build t parts.toArray,ty,ps,af,gd⟩ e L h (.agg vs.toArray):=by
 intro a w H S;have D:(parts.toArray.map λ(p:Nat×Operand)=>(p.1,a.eval p.2)).toList=ps':=by
  rw[z0e];exact hp.eval H
 have C:(zeroValue t).run P w=.ok z w:=by simp[zeroValue,typeInfo,hi,hz]
 simp only[execOp,Instr.build];rw[show(parts.toArray.map λ(i,x)=>(i,a.eval x)).toList=ps' from D];simp only[Sem.run_bind,C,Result.andThen_ok,run_underlying ht,hsz,hf]
 rfl
end
theorem zW4{x:Int}(h:(Lit.int .i64 x).wf=true):-9223372036854775808<=x/\x<9223372036854775808:=by
 simp only[Lit.wf,zbu,zhi] at h;simp[IntKind.min,IntKind.max,IntKind.signed,IntKind.bits] at h;omega
theorem zKO{xs:List Nat}(h:∀x∈xs,x<256):byt (qR xs)=xs:=by
 simp only[byt,qR,yri]
 conv=>rhs;rw[<-List.map_id xs]
 refine yge λx hx=>?_;simp only[Function.comp,id];exact zoh (h x hx)
end Bk
namespace Bk
open Go Go.RowKit
open Classical
structure Is(h:Mem)(v:Value)(xs:List Int):Prop where
 sl:Sl h 1 v xs.length (xs.map vI)
 rng:∀x∈xs,-9223372036854775808<=x/\x<9223372036854775808
theorem Is.mono{h h':Mem}{v:Value}{xs:List Int}(s:Is h v xs)(hh:MLe h h'):Is h' v xs:=⟨s.sl.mono hh,s.rng⟩
theorem Is.nil(h:Mem):Is h (.slice none 0 0) []:=⟨Sl.nil h 1,zo3⟩
theorem Is.one{h:Mem}{v:Value}{xs:List Int}(s:Is h v xs):∃a cap,v=.slice a xs.length cap:=s.sl.one
theorem Is.lt63{h:Mem}{v:Value}{xs:List Int}(s:Is h v xs):xs.length<9223372036854775808:=s.sl.lt63
theorem Is.cells{h:Mem}{v:Value}{xs:List Int}(s:Is h v xs):v.cells=[v].toArray:=by
 obtain⟨a,C,rfl⟩:=s.one
 rfl
theorem is_of_row{w:World}{a:Option Addr}{len cap:Nat}{zs:List Int}
    (h:(a=none/\len=0/\cap=0/\zs=[])\/∃x,a=some x/\len<=cap/\cap<=maxLen/\zs.length=cap/\(∀i,i<zs.length->w.cell? (x.add i)=some (.int .i64 (zs.getD i 0)))/\∀n∈zs,(Lit.int .i64 n).wf=true):
    ∃xs:List Int,Is (mem w) (.slice a len cap) xs:=by
 rcases h with⟨rfl,rfl,rfl,rfl⟩|⟨x,rfl,h1,h2,h3,h4,h5⟩
 · exact⟨[],Is.nil _⟩
 · refine⟨zs.take len,⟨?_,?_⟩⟩
   · have J:(zs.take len).length=len:=by simp;omega
     rw[J];refine⟨_,cap,I,h1,h2,by simp;omega,λi hi=>?_⟩;have D:i<len:=by simp at hi;omega
     have hc:=h4 i zot;have C:(x.add 0).spot=none:=World.cell?_spot (h4 0 zot);obtain⟨b,o,M⟩:=x;simp[Addr.add] at C;subst C;refine⟨b,o,I,?_⟩;rw[jY] at hc;rw[zJA hc,zvi,zpe,zau D,zoc zot];rw[zoa,zoc zot]
     rfl
   · intro n H
     exact zW4 (h5 n (z2e H))
section
variable {P:Program}{n:Nat}{w0:World}{h0:Mem}{e:List (Nat×Value)}{L:List Res}{h:Mem}{Q:Exit->Act->World->Prop}
variable {ds:Option Tmp}{ty:TypeId}{ps:String}{af:Array Edge}{gd:Option (Nat×Bool)}
theorem zJS{v:Value}{xs:List Int}{t E:TypeId}{x:Operand}(ht:P.underlying t=some (.slice E))(hx:zH e x=some v)(hv:Is h v xs):
 OpV P n w0 h0 ⟨ds,.call {callee:=.builtin .len,args:=#[x],argTypes:=#[t]},ty,ps,af,gd⟩ e L h (vI (xs.length:Int)):=mS ht hx hv.one
theorem zN7{v:Value}{xs:List Int}{t E:TypeId}{x y:Operand}{q:Int}(i:Nat)(ht:P.underlying t=some (.slice E))(hsz:∀w,(Go.sizeOf E).run P w=.ok 1 w)(hx:zH e x=some v)(hy:zH e y=some (vI q))
    (hv:Is h v xs)(hq:q=(i:Int))(hi:i<xs.length):OpV P n w0 h0 ⟨ds,.indexAddr t x y,ty,ps,af,gd⟩ e L h (zI 1 v i):=dB i ht hsz hx hy hv.sl hq hi zot
theorem zRC{v:Value}{xs:List Int}{t:TypeId}{x:Operand}{i:Nat}(ha:∀w,(isAgg t).run P w=.ok false w)(hx:zH e x=some (zI 1 v i))(hv:Is h v xs)(hi:i<xs.length):
 OpV P n w0 h0 ⟨ds,.load t x,ty,ps,af,gd⟩ e L h (vI (xs.getD i 0)):=
 zGV ha hx hv.sl (by rw[zvi,zoc hi,zoa,zoc hi];rfl)
theorem zV6{t yt:TypeId}{x y:Operand}{p q:Int}(hx:zH e x=some (vI p))(hy:zH e y=some (vI q))(h3:0<q):
 OpV P n w0 h0 ⟨ds,.binOp .rem t x y yt,ty,ps,af,gd⟩ e L h (vI (p.tmod q)):=by
 intro a w E S;have C:q≠0:=by omega
 simp[execOp,E.eval hx,E.eval hy,vI,xT,binOp,Op.intDiv,C]
theorem zV7{t yt:TypeId}{x y:Operand}{p q:Int}(hx:zH e x=some (vI p))(hy:zH e y=some (vI q))(h1:-9223372036854775808<=p)(h2:p<9223372036854775808)(h3:0<q):
 OpV P n w0 h0 ⟨ds,.binOp .quo t x y yt,ty,ps,af,gd⟩ e L h (vI (p.tdiv q)):=by
 intro a w E S;have H:q≠0:=by omega
 have C:-9223372036854775808<=p.tdiv q/\p.tdiv q<9223372036854775808:=by
  rcases yve 0 p with hp|hp
  · rw[yee hp]
    have M:0<=p/q:=Int.ediv_nonneg hp zot;have J:p/q<=p:=Int.ediv_le_self q hp;omega
  · have D:(-p).tdiv q=(-p)/q:=yee zot
    rw[Int.neg_tdiv] at D;have M:0<=(-p)/q:=Int.ediv_nonneg zot zot;have J:(-p)/q<= -p:=Int.ediv_le_self q zot;omega
 simp[execOp,E.eval hx,E.eval hy,vI,xT,binOp,Op.intDiv,H,zAD (x:=p.tdiv q) C.1 C.2]
end
def lQ(w0:World)(h0:Mem)(h:Mem)(L:List Res)(G:Mem->Value->Res->Prop):Ending->World->Prop:=
 tP w0 h0 (λg v K=>∃q',(q'::L).Sublist K/\MLe h g/\G g v q')
section
variable {P:Program}{n:Nat}{w0:World}{h0:Mem}{e:List (Nat×Value)}{L:List Res}{h:Mem}{Q:Exit->Act->World->Prop}
variable {ty:TypeId}{ps:String}{af:Array Edge}
theorem yH{ops:Array Oper}{rest:List Oper}{d f:Nat}{xs:List Operand}{ts:Array TypeId}{vs:List Value}{A B:List Res}{q:Res}{G:Mem->Value->Res->Prop}(hcall:∀args w,(callFunc f args).run P w=.ok (.enter f args) w)(hvs:bD e xs vs)
    (hc:∀X w,St w0 h0 (q::X) h w->Calls P f vs.toArray w (lQ w0 h0 h X G))(hn:Nat.ble (d+1) n=true)(k:∀v g q',MLe h g->G g v q'->GL P n w0 h0 ops Q rest ((d,v)::e) (A++q'::B) g):
    GL P n w0 h0 ops Q (⟨some d,.call {callee:=.value (.func f),args:=xs.toArray,argTypes:=ts},ty,ps,af,none⟩::rest) e (A++q::B) h:=by
 refine dR ?_;refine nM I I I hn hcall hvs (hc (A++B)) ?_
 rintro v g K ⟨q',D,C,H⟩
 have:=k v g q' C H;exactλa w J S=>this a w J ((S.sublist D).perm yci.symm)
section
variable {ops:Array Oper}{R:List Res}{d:Nat}
theorem oO{W':List (Nat×Value)->List Res->Mem->Prop}{f:Nat}{xs:List Operand}{ts:Array TypeId}{vs:List Value}{A B:List Res}{q:Res}{G:Mem->Value->Res->Prop}(hcall:∀args w,(callFunc f args).run P w=.ok (.enter f args) w)(hvs:bD e xs vs)
    (hc:∀X w,St w0 h0 (q::X) h w->Calls P f vs.toArray w (lQ w0 h0 h X G))(hn:Nat.ble (d+1) n=true)(hR:∀r∈R,∀q',r∈A++q::B->r∈A++q'::B)
    (k:∀v g q',MLe h g->G g v q'->W' ((d,v)::e) (A++q'::B) g):
    kB P n w0 h0 ops R ⟨some d,.call {callee:=.value (.func f),args:=xs.toArray,argTypes:=ts},ty,ps,af,none⟩ e (A++q::B) h W':=by
 intro X a w E S;have Z:St w0 h0 (q::(A++B++X)) h w:=S.perm zo3;unfold qV;rw[zau (wn I)];have C:xs.toArray.map a.eval=vs.toArray:=by rw[z0e,E.evals hvs]
 have H:(execOp a.eval ⟨some d,.call {callee:=.value (.func f),args:=xs.toArray,argTypes:=ts},ty,ps,af,none⟩).run P w=.ok (.enter f vs.toArray) w:=by
  simp only[execOp,resolve,Act.eval];simp[Deferred.ofValue,invoke,hcall,C]
 rw[H];refine(hc _ w Z).mono ?_
 rintro e' J ⟨v,g,K,rfl,⟨q',M,D,O⟩,S'⟩
 have U:St w0 h0 (A++q'::B++X) g J:=(S'.sublist M).perm (by simpa using yci.symm);exact⟨v,I,λd' hd=>(by cases hd;exact zce hn),A++q'::B,g,D,λhh r H=>hR r H q' (hh r H),U,k v g q' D O⟩
theorem zO1{A B:List Res}{q:Res}:∀r∈A++B,r∈A++q::B:=by
 intro r C;simp only[zmu,zfu] at C ⊢
 rcases C with h|h
 · exact .inl h
 · exact .inr (.inr h)
theorem qJ{Q:Exit->Act->World->Prop}{id:Nat}{l:List Oper}{A B:List Res}{q:Res}(m:Nat)(al:Als)(ord:List (Nat×Kd))(hm:P.follows .mixedOrders=true)(hal:jD P n l.toArray al)
    (hchk:(Region.noSelect l.toArray&&cX l.toArray al&&(al.all λx=>decide (x.1<m))&&chk l.toArray m ord (Array.replicate l.length false) (al.map (·.1)))=true)(hae:∀x∈al,al.lookup x.1=some x.2/\e.lookup x.2.1=none)
    (k:W P n w0 h0 l.toArray Q (A++B) al ord e (A++q::B) h):GC P n w0 h0 (.region id l.toArray true) Q e (A++q::B) h:=zJ m (A++B) al ord hm hal hchk hae zO1 k
theorem xO{R A B:List Res}{q:Res}(hR:∀r∈R,r∈A++B):∀r∈R,∀q',r∈A++q::B->r∈A++q'::B:=λr hr q' _=>zO1 r (hR r hr)
end
end
def zAQ(p q:Int):Int:=if p.tmod q<0 then p.tmod q+q else p.tmod q
theorem zF6(p:Int){q:Int}(hq:0<q):-q<p.tmod q/\p.tmod q<q:=by
 have h1:=Int.tmod_lt_of_pos p hq;have h2:=Int.tmod_lt_of_pos (-p) hq;rw[Int.neg_tmod] at h2;omega
theorem zAP(p:Int){q:Int}(hq:0<q):0<=zAQ p q/\zAQ p q<q:=by
 have:=zF6 p hq;unfold zAQ
 split<;>omega
def yHC(n:Int):Int:=1+zAQ (n.tdiv 17) 12
def zZX(n:Int):Rat:=kP (zAQ n (yHC n+1)) (yHC n)
theorem zXL{v:Value}(h:v.oneCell'=true):v.cells=#[v]:=by cases v<;>simp[Value.oneCell'] at h<;>rfl
structure Rp(α:Type) where
 n:Nat
 agg:Bool
 R:Mem->List Value->α->Prop
 len:∀{h cs x},R h cs x->cs.length=n
 mono:∀{h h' cs x},MLe h h'->R h cs x->R h' cs x
 one:∀{h cs x},R h cs x->cs.all (·.oneCell')=true
 cell:agg=false->n=1
section
variable {α β γ δ:Type}
def Rp.val(ρ:Rp α)(cs:List Value):Value:=if ρ.agg then .agg cs.toArray else cs.headD undef
def Rp.Is(ρ:Rp α)(h:Mem)(v:Value)(x:α):Prop:=∃cs,ρ.R h cs x/\v=ρ.val cs
theorem Rp.Is.mono{ρ:Rp α}{h h':Mem}{v:Value}{x:α}(s:ρ.Is h v x)(hh:MLe h h'):ρ.Is h' v x:=by
 obtain⟨cs,r,e⟩:=s;exact⟨cs,ρ.mono hh r,e⟩
theorem Rp.single{ρ:Rp α}{h:Mem}{cs:List Value}{x:α}(r:ρ.R h cs x)(ha:ρ.agg=false):∃c,cs=[c]/\c.oneCell'=true:=by
 have h1:=ρ.len r;have h2:=ρ.one r;rw[ρ.cell ha] at h1
 match cs,h1 with
 |[c],_=>exact⟨c,rfl,by simpa using h2⟩
theorem Rp.cells_val{ρ:Rp α}{h:Mem}{cs:List Value}{x:α}(r:ρ.R h cs x):(ρ.val cs).cells=cs.toArray:=by
 unfold Rp.val
 split
 · rfl
 · rename_i ha
   obtain⟨c,rfl,hc⟩:=Rp.single r (by simpa using ha);exact zXL hc
theorem Rp.Is.cells{ρ:Rp α}{h:Mem}{v:Value}{x:α}(s:ρ.Is h v x):∃cs,ρ.R h cs x/\v.cells=cs.toArray:=by
 obtain⟨cs,r,rfl⟩:=s;exact⟨cs,r,Rp.cells_val r⟩
theorem Rp.Is.cast{ρ:Rp α}{h:Mem}{v:Value}{x y:α}(s:ρ.Is h v x)(e:x=y):ρ.Is h v y:=e▸s
def RL(ρ:Rp α)(h:Mem):List Value->List α->Prop
  |cs,[]=>cs=[]
  |cs,x::xs=>∃a b,cs=a++b/\ρ.R h a x/\RL ρ h b xs
theorem RL.len{ρ:Rp α}{h:Mem}:∀{xs:List α} {cs:List Value},RL ρ h cs xs->cs.length=xs.length*ρ.n
  |[],_,r=>by rw[r];simp
  |x::xs,_,⟨a,b,e,r,s⟩=>by rw[e,lAz,ρ.len r,s.len,lC,z2u];omega
theorem RL.mono{ρ:Rp α}{h h':Mem}(hh:MLe h h'):∀{xs:List α} {cs:List Value},RL ρ h cs xs->RL ρ h' cs xs
  |[],_,r=>r
  |_::_,_,⟨a,b,e,r,s⟩=>⟨a,b,e,ρ.mono hh r,s.mono hh⟩
theorem RL.one{ρ:Rp α}{h:Mem}:∀{xs:List α} {cs:List Value},RL ρ h cs xs->cs.all (·.oneCell')=true
  |[],_,r=>by rw[r];rfl
  |_::_,_,⟨a,b,e,r,s⟩=>by rw[e,List.all_append,ρ.one r,s.one];rfl
theorem RL.append{ρ:Rp α}{h:Mem}:∀{xs ys:List α} {cs ds:List Value},RL ρ h cs xs->RL ρ h ds ys->RL ρ h (cs++ds) (xs++ys)
  |[],_,_,_,r,s=>by rw[r];exact s
  |_::_,_,_,_,⟨a,b,e,r,s⟩,t=>⟨a,_,by rw[e,zki],r,s.append t⟩
theorem RL.nil{ρ:Rp α}{h:Mem}:RL ρ h [] []:=rfl
theorem RL.drop{ρ:Rp α}{h:Mem}:∀{xs:List α} {cs:List Value} (i:Nat),RL ρ h cs xs->RL ρ h (cs.drop (i*ρ.n)) (xs.drop i)
  |_,_,0,r=>by simpa using r
  |[],_,i+1,r=>by rw[r];simp[RL]
  |_::xs,_,i+1,⟨a,b,e,r,s⟩=>by
   rw[e,show(i+1)*ρ.n=a.length+i*ρ.n by rw[ρ.len r,z2u];omega,<-z9e,yyu];exact s.drop i
theorem RL.take{ρ:Rp α}{h:Mem}:∀{xs:List α} {cs:List Value} (i:Nat),RL ρ h cs xs->RL ρ h (cs.take (i*ρ.n)) (xs.take i)
  |_,_,0,r=>by simp[RL]
  |[],_,i+1,r=>by rw[r];simp[RL]
  |_::xs,_,i+1,⟨a,b,e,r,s⟩=>by
   rw[e,show(i+1)*ρ.n=a.length+i*ρ.n by rw[ρ.len r,z2u];omega,yle];exact⟨a,_,rfl,r,s.take i⟩
theorem RL.get{ρ:Rp α}{h:Mem}{xs:List α}{cs:List Value}{i:Nat}{x:α}(r:RL ρ h cs xs)(hx:xs[i]?=some x):ρ.R h ((cs.drop (i*ρ.n)).take ρ.n) x:=by
 have h1:=r.drop i;obtain⟨hi,e⟩:=zxi.1 hx;rw[z4e hi,e] at h1;obtain⟨a,b,D,C,_⟩:=h1;rw[D,<-ρ.len C,List.take_left];exact C
theorem RL.set{ρ:Rp α}{h:Mem}{xs:List α}{cs ds:List Value}{i:Nat}{y:α}(r:RL ρ h cs xs)(hi:i<xs.length)(hd:ρ.R h ds y):RL ρ h (cs.take (i*ρ.n)++ds++cs.drop (i*ρ.n+ρ.n)) (xs.set i y):=by
 have h1:=r.take i;have h2:=r.drop (i+1);rw[z2u,yne] at h2;rw[yfi,zau hi,zki];exact h1.append ⟨ds,_,I,hd,h2⟩
def rpQ(k:Nat):Rp Rat where
 n:=3
 agg:=true
 R h cs q:=(∃vn vd,cs=[vB (q.num<0),vn,vd]/\Us .u32 h vn (zB q.num.natAbs)/\Us .u32 h vd (zB (vC q.den)))/\lq q<=k
 len:=by rintro h cs q ⟨⟨vn,vd,rfl,_⟩,_⟩;rfl
 mono:=by
  rintro h h' cs q hh ⟨⟨vn,vd,rfl,h1,h2⟩,h3⟩
  exact⟨⟨vn,vd,rfl,h1.mono hh,h2.mono hh⟩,h3⟩
 one:=by
  rintro h cs q ⟨⟨vn,vd,rfl,h1,h2⟩,h3⟩
  exact ocr rfl (ocu h1 (ocu h2 oc0))
 cell:=by simp
def rpI:Rp Int where
 n:=1
 agg:=false
 R _ cs z:=cs=[vI z]/\-9223372036854775808<=z/\z<9223372036854775808
 len:=by rintro h cs z ⟨rfl,_⟩;rfl
 mono:=λ_ r=>r
 one:=by rintro h cs z ⟨rfl,_⟩;rfl
 cell:=λ_=>rfl
def rpB:Rp Prop where
 n:=1
 agg:=false
 R _ cs p:=cs=[vB p]
 len:=by rintro h cs p rfl;rfl
 mono:=λ_ r=>r
 one:=by rintro h cs p rfl;rfl
 cell:=λ_=>rfl
def rpP(ρ:Rp α)(σ:Rp β):Rp (α×β) where
 n:=ρ.n+σ.n
 agg:=true
 R h cs x:=∃a b,cs=a++b/\ρ.R h a x.1/\σ.R h b x.2
 len:=by rintro h cs x ⟨a,b,rfl,h1,h2⟩;rw[lAz,ρ.len h1,σ.len h2]
 mono:=by rintro h h' cs x hh ⟨a,b,rfl,h1,h2⟩;exact⟨a,b,rfl,ρ.mono hh h1,σ.mono hh h2⟩
 one:=by rintro h cs x ⟨a,b,rfl,h1,h2⟩;rw[List.all_append,ρ.one h1,σ.one h2];rfl
 cell:=by simp
@[ext] structure T3(α:Type) where
 x:α
 y:α
 z:α
abbrev zT:T3 Rat:=T3.mk (0:Rat) 0 0
def T3.at(p:T3 α):Nat->α
  |0=>p.x
  |1=>p.y
  |_=>p.z
def T3.set(p:T3 α):Nat->α->T3 α
  |0,a=>⟨a,p.y,p.z⟩
  |1,a=>⟨p.x,a,p.z⟩
  |_,a=>⟨p.x,p.y,a⟩
def rpT(ρ:Rp α):Rp (T3 α) where
 n:=ρ.n+(ρ.n+ρ.n)
 agg:=true
 R h cs p:=(rpP ρ (rpP ρ ρ)).R h cs (p.x,p.y,p.z)
 len:=λr=>(rpP ρ (rpP ρ ρ)).len r
 mono:=λhh r=>(rpP ρ (rpP ρ ρ)).mono hh r
 one:=λr=>(rpP ρ (rpP ρ ρ)).one r
 cell:=by simp
def rpA(k:Nat)(ρ:Rp α):Rp (List α) where
 n:=k*ρ.n
 agg:=true
 R h cs xs:=xs.length=k/\RL ρ h cs xs
 len:=by rintro h cs xs ⟨rfl,r⟩;exact r.len
 mono:=λhh r=>⟨r.1,r.2.mono hh⟩
 one:=λr=>r.2.one
 cell:=by simp
def rpS(ρ:Rp α):Rp (List α) where
 n:=1
 agg:=false
 R h cs xs:=∃v ds,cs=[v]/\Sl h ρ.n v xs.length ds/\RL ρ h ds xs
 len:=by rintro h cs xs ⟨v,ds,rfl,_⟩;rfl
 mono:=by rintro h h' cs xs hh ⟨v,ds,rfl,h1,h2⟩;exact⟨v,ds,rfl,h1.mono hh,h2.mono hh⟩
 one:=by
  rintro h cs xs ⟨v,ds,rfl,h1,h2⟩
  obtain⟨a,cap,rfl⟩:=h1.one
  rfl
 cell:=λ_=>rfl
theorem wM{h:Mem}{z:Int}(h1:-9223372036854775808<=z)(h2:z<9223372036854775808):rpI.Is h (vI z) z:=⟨_,⟨rfl,h1,h2⟩,rfl⟩
theorem kX{h:Mem}{v:Value}{z:Int}(s:rpI.Is h v z):v=vI z/\-9223372036854775808<=z/\z<9223372036854775808:=by
 obtain⟨cs,⟨rfl,h1,h2⟩,rfl⟩:=s;exact⟨I,h1,h2⟩
theorem yNY{h:Mem}(p:Prop):rpB.Is h (vB p) p:=⟨_,rfl,rfl⟩
theorem yJ7{h:Mem}{v:Value}{p:Prop}(s:rpB.Is h v p):v=vB p:=by
 obtain⟨cs,rfl,rfl⟩:=s
 rfl
theorem j6{h:Mem}{v:Value}{q:Rat}{k:Nat}(s:vQ h v q)(hk:lq q<=k):(rpQ k).Is h v q:=by
 obtain⟨C,D,rfl,h1,h2⟩:=s;exact⟨_,⟨⟨C,D,I,h1,h2⟩,hk⟩,I⟩
theorem of_q{h:Mem}{v:Value}{q:Rat}{k:Nat}(s:(rpQ k).Is h v q):vQ h v q/\lq q<=k:=by
 obtain⟨cs,⟨⟨C,D,rfl,h1,h2⟩,hk⟩,rfl⟩:=s;exact⟨⟨C,D,I,h1,h2⟩,hk⟩
theorem qM{h:Mem}{v:Value}{q:Rat}{k:Nat}(s:(rpQ k).Is h v q):∃vn vd,v=.agg #[vB (q.num<0),vn,vd]/\Us .u32 h vn (zB q.num.natAbs)/\Us .u32 h vd (zB (vC q.den))/\lq q<=k:=by
 obtain⟨cs,⟨⟨vn,vd,rfl,h1,h2⟩,hk⟩,rfl⟩:=s;exact⟨vn,vd,I,h1,h2,hk⟩
theorem yF5{ρ:Rp α}{h:Mem}{v:Value}{xs:List α}{ds:List Value}(s:Sl h ρ.n v xs.length ds)(r:RL ρ h ds xs):(rpS ρ).Is h v xs:=⟨_,⟨v,ds,rfl,s,r⟩,rfl⟩
theorem zWB{ρ:Rp α}{h:Mem}{v:Value}{xs:List α}(s:(rpS ρ).Is h v xs):∃ds,Sl h ρ.n v xs.length ds/\RL ρ h ds xs:=by
 obtain⟨cs,⟨v,ds,rfl,h1,h2⟩,rfl⟩:=s;exact⟨ds,h1,h2⟩
theorem eL{ρ:Rp α}(h:Mem):(rpS ρ).Is h (.slice none 0 0) []:=yF5 (Sl.nil h _) rfl
theorem yNA{ρ:Rp α}{h:Mem}{v:Value}{xs:List α}(s:(rpS ρ).Is h v xs):xs.length<9223372036854775808:=by
 obtain⟨ds,h1,_⟩:=zWB s;exact h1.lt63
theorem yM9{ρ:Rp α}{h:Mem}{v:Value}{xs:List α}(s:(rpS ρ).Is h v xs):∃a cap,v=.slice a xs.length cap:=by
 obtain⟨ds,h1,_⟩:=zWB s;exact h1.one
structure Le(ρ σ:Rp α):Prop where
 n:ρ.n=σ.n
 agg:ρ.agg=σ.agg
 R:∀{h cs x},ρ.R h cs x->σ.R h cs x
theorem Le.refl(ρ:Rp α):Le ρ ρ:=⟨rfl,rfl,id⟩
theorem Le.q{k l:Nat}(h:k<=l):Le (rpQ k) (rpQ l):=⟨rfl,rfl,λ⟨a,b⟩=>⟨a,zci b h⟩⟩
theorem Le.p{ρ ρ':Rp α}{σ σ':Rp β}(h:Le ρ ρ')(k:Le σ σ'):Le (rpP ρ σ) (rpP ρ' σ'):=⟨by show ρ.n+σ.n=ρ'.n+σ'.n;rw[h.n,k.n],rfl,λ⟨a,b,e,r,s⟩=>⟨a,b,e,h.R r,k.R s⟩⟩
theorem Le.t{ρ ρ':Rp α}(h:Le ρ ρ'):Le (rpT ρ) (rpT ρ'):=⟨by show ρ.n+(ρ.n+ρ.n)=ρ'.n+(ρ'.n+ρ'.n);rw[h.n],rfl,λr=>(Le.p h (Le.p h h)).R r⟩
theorem Le.rl{ρ ρ':Rp α}(h:Le ρ ρ'){m:Mem}:∀{xs:List α} {cs:List Value},RL ρ m cs xs->RL ρ' m cs xs
  |[],_,r=>r
  |_::_,_,⟨a,b,e,r,s⟩=>⟨a,b,e,h.R r,h.rl s⟩
theorem Le.a{k:Nat}{ρ ρ':Rp α}(h:Le ρ ρ'):Le (rpA k ρ) (rpA k ρ'):=⟨by show k*ρ.n=k*ρ'.n;rw[h.n],rfl,λr=>⟨r.1,h.rl r.2⟩⟩
theorem Le.s{ρ ρ':Rp α}(h:Le ρ ρ'):Le (rpS ρ) (rpS ρ'):=⟨rfl,rfl,λ⟨v,ds,e,s,r⟩=>⟨v,ds,e,h.n▸s,h.rl r⟩⟩
theorem Rp.Is.le{ρ σ:Rp α}{h:Mem}{v:Value}{x:α}(s:ρ.Is h v x)(k:Le ρ σ):σ.Is h v x:=by
 obtain⟨cs,r,rfl⟩:=s;exact⟨cs,k.R r,by unfold Rp.val;rw[k.agg]⟩
structure Pc(ρ:Rp α)(off:Nat)(σ:Rp β)(g:α->β)(s:α->β->α):Prop where
 fits:off+σ.n<=ρ.n
 get:∀{h cs x},ρ.R h cs x->σ.R h ((cs.drop off).take σ.n) (g x)
 set:∀{h cs x ds y},ρ.R h cs x->σ.R h ds y->ρ.R h (cs.take off++ds++cs.drop (off+σ.n)) (s x y)
theorem Pc.here(ρ:Rp α):Pc ρ 0 ρ (λx=>x) (λ_ y=>y):=by
 refine⟨zot,λr=>?_,λ{h cs x ds y} r s=>?_⟩
 · have:=ρ.len r
   rw[ycu,<-this,z6i];exact r
 · have:=ρ.len r
   rw[zyi,<-this,List.drop_length,List.take_zero,zhe,zqi];exact s
theorem Pc.fst{ρ:Rp α}{σ:Rp β}{τ:Rp γ}{off:Nat}{g:α->γ}{s:α->γ->α}(p:Pc ρ off τ g s):Pc (rpP ρ σ) off τ (λx=>g x.1) (λx y=>(s x.1 y,x.2)):=by
 have hf:=p.fits;refine⟨by show off+τ.n<=ρ.n+σ.n;omega,?_,?_⟩
 · rintro h cs x ⟨a,b,rfl,C,D⟩
   have J:=ρ.len C;have:=p.get C
   rwa [yje zot,ybi (by rw[ziu];omega)]
 · rintro h cs x ds y ⟨a,b,rfl,C,D⟩ H
   have J:=ρ.len C;refine⟨_,b,?_,p.set C H,D⟩;rw[ybi zot,yje zot];simp[zki]
theorem Pc.snd{ρ:Rp α}{σ:Rp β}{τ:Rp γ}{off:Nat}{g:β->γ}{s:β->γ->β}(p:Pc σ off τ g s):Pc (rpP ρ σ) (ρ.n+off) τ (λx=>g x.2) (λx y=>(x.1,s x.2 y)):=by
 have hf:=p.fits;refine⟨by show ρ.n+off+τ.n<=ρ.n+σ.n;omega,?_,?_⟩
 · rintro h cs x ⟨a,b,rfl,C,D⟩
   have H:=ρ.len C;have:=p.get D
   rwa [<-H,<-z9e,yyu]
 · rintro h cs x ds y ⟨a,b,rfl,C,D⟩ J
   have H:=ρ.len C;refine⟨a,_,?_,C,p.set D J⟩;rw[<-H,yle,z3e,<-z9e,yyu];simp[zki]
theorem Pc.tx{ρ:Rp α}{τ:Rp γ}{off:Nat}{g:α->γ}{s:α->γ->α}(p:Pc ρ off τ g s):Pc (rpT ρ) off τ (λx=>g x.x) (λx y=>⟨s x.x y,x.y,x.z⟩):=by
 have q:Pc (rpP ρ (rpP ρ ρ)) off τ _ _:=p.fst;exact⟨q.fits,λr=>q.get r,λr d=>q.set r d⟩
theorem Pc.ty{ρ:Rp α}{τ:Rp γ}{off:Nat}{g:α->γ}{s:α->γ->α}(p:Pc ρ off τ g s):Pc (rpT ρ) (ρ.n+off) τ (λx=>g x.y) (λx y=>⟨x.x,s x.y y,x.z⟩):=by
 have q:Pc (rpP ρ (rpP ρ ρ)) (ρ.n+off) τ _ _:=(Pc.fst (σ:=ρ) p).snd;exact⟨q.fits,λr=>q.get r,λr d=>q.set r d⟩
theorem Pc.tz{ρ:Rp α}{τ:Rp γ}{off:Nat}{g:α->γ}{s:α->γ->α}(p:Pc ρ off τ g s):Pc (rpT ρ) (ρ.n+(ρ.n+off)) τ (λx=>g x.z) (λx y=>⟨x.x,x.y,s x.z y⟩):=by
 have q:Pc (rpP ρ (rpP ρ ρ)) (ρ.n+(ρ.n+off)) τ _ _:=(Pc.snd (ρ:=ρ) p).snd;exact⟨q.fits,λr=>q.get r,λr d=>q.set r d⟩
theorem Pc.ta{ρ:Rp α}{τ:Rp γ}{off:Nat}{g:α->γ}{s:α->γ->α}(p:Pc ρ off τ g s)(i:Nat)(hi:i<3):Pc (rpT ρ) (i*ρ.n+off) τ (λx=>g (x.at i)) (λx y=>x.set i (s (x.at i) y)):=by
 match i,hi with
 |0,_=>rw[zwe,zyi];exact p.tx
 |1,_=>rw[yne];exact p.ty
 |2,_=>rw[show 2*ρ.n+off=ρ.n+(ρ.n+off) by omega];exact p.tz
theorem Pc.arr{ρ:Rp α}{τ:Rp γ}{off k:Nat}{g:α->γ}{s:α->γ->α}(p:Pc ρ off τ g s)(d:α)(i:Nat)(hi:i<k):Pc (rpA k ρ) (i*ρ.n+off) τ (λx=>g (x.getD i d)) (λx y=>x.set i (s (x.getD i d) y)):=by
 have hf:=p.fits;have O:i*ρ.n+ρ.n<=k*ρ.n:=by rw[<-ysi];exact zgi _ hi
 have hx:∀{x:List α},x.length=k->x[i]?=some (x.getD i d):=by
  intro x C;rw[zoa,zoc zot];rfl
 refine⟨by show i*ρ.n+off+τ.n<=k*ρ.n;omega,?_,?_⟩
 · rintro h cs x ⟨C,r⟩
   have h1:=p.get (r.get (hx C));rw[List.drop_take,List.take_take,ztu zot,z9e] at h1;exact h1
 · rintro h cs x ds y ⟨C,r⟩ H
   have hc:=r.len;rw[C] at hc;refine⟨by simpa using C,?_⟩;have h1:=r.set (i:=i) zot (p.set (r.get (hx C)) H);have e:cs.take (i*ρ.n)++(((cs.drop (i*ρ.n)).take ρ.n).take off++ds++((cs.drop (i*ρ.n)).take ρ.n).drop (off+τ.n))++cs.drop (i*ρ.n+ρ.n)=cs.take (i*ρ.n+off)++ds++cs.drop (i*ρ.n+off+τ.n):=by
    rw[List.take_take,ztu zot,List.drop_take,z9e];have M:cs.take (i*ρ.n+off)=cs.take (i*ρ.n)++(cs.drop (i*ρ.n)).take off:=List.take_add;have J:cs.drop (i*ρ.n+off+τ.n)=(cs.drop (i*ρ.n+(off+τ.n))).take (ρ.n-(off+τ.n))++cs.drop (i*ρ.n+ρ.n):=by
     have D:=yei (ρ.n-(off+τ.n)) (cs.drop (i*ρ.n+(off+τ.n)));rw[z9e,show i*ρ.n+(off+τ.n)+(ρ.n-(off+τ.n))=i*ρ.n+ρ.n by omega] at D;rw[z3e (i*ρ.n)];exact D.symm
    rw[M,J];simp[zki]
   rw[<-e];exact h1
theorem yE{k:Nat}{h:Mem}(hk:1<=k):(rpQ k).R h [.bool false,.slice none 0 0,.slice none 0 0] 0:=by
 refine⟨⟨_,_,?_,zEH h,zEI h⟩,by rw[zFJ];exact hk⟩;rw[yM (show ¬(0:Rat).num<0 by decide)]
theorem wQ{h:Mem}:rpI.R h [.int .i64 0] 0:=⟨rfl,zox,zox⟩
theorem zU4{h:Mem}:rpB.R h [.bool false] False:=by show _=_;rw[yM (p:=False) id]
theorem yA{ρ:Rp α}{σ:Rp β}{h:Mem}{a b:List Value}{x:α}{y:β}(r:ρ.R h a x)(s:σ.R h b y):(rpP ρ σ).R h (a++b) (x,y):=⟨a,b,rfl,r,s⟩
theorem yR{ρ:Rp α}{h:Mem}{a:List Value}{x:α}(r:ρ.R h a x):(rpT ρ).R h (a++(a++a)) ⟨x,x,x⟩:=⟨a,_,rfl,r,a,a,rfl,r,r⟩
theorem wC{ρ:Rp α}{h:Mem}:(rpS ρ).R h [.slice none 0 0] []:=⟨_,[],rfl,Sl.nil h _,rfl⟩
theorem zM7{ρ:Rp α}{h:Mem}{a:List Value}{x:α}(k:Nat)(r:ρ.R h a x):(rpA k ρ).R h (List.replicate k a).flatten (List.replicate k x):=by
 refine⟨yde,?_⟩
 induction k with
 |zero=>rfl
 |succ k ih=>rw[ygi,ygi];exact⟨a,_,I,r,ih⟩
end
structure TyOk(P:Program)(t:TypeId)(n:Nat)(agg:Bool):Prop where
 sz:∀w,(Go.sizeOf t).run P w=.ok n w
 ag:∀w,(isAgg t).run P w=.ok agg w
section
variable {α β γ:Type}
variable {P:Program}{n:Nat}{w0:World}{h0:Mem}{e:List (Nat×Value)}{L:List Res}{h:Mem}{Q:Exit->Act->World->Prop}
variable {ds:Option Tmp}{ty:TypeId}{ps:String}{af:Array Edge}{gd:Option (Nat×Bool)}
theorem zGM:∀(vs:List Value) (k:Nat) (cs:List Value),k+vs.length<=cs.length->t9 cs k vs=cs.take k++vs++cs.drop (k+vs.length):=by
 have key:∀(vs:List Value) (j k:Nat) (cs:List Value),k+j+vs.length<=cs.length->(vs.zipIdx j).foldl (λc p=>c.set (k+p.2) p.1) cs=cs.take (k+j)++vs++cs.drop (k+j+vs.length):=by
  intro vs
  induction vs with
  |nil=>intro j k cs hl;simp
  |cons v vs ih=>
   intro j k cs hl;simp only[lC] at hl;rw[yfu,yae,ih (j+1) k _ (by rw[lS];omega)];rw[yfi,zau zot];have h1:(cs.take (k+j)).length=k+j:=by rw[zei];omega
   have e1:(cs.take (k+j)++v::cs.drop (k+j+1)).take (k+(j+1))=cs.take (k+j)++[v]:=by
    rw[show k+(j+1)=(cs.take (k+j)).length+1 by omega,yle];rfl
   have e2:(cs.take (k+j)++v::cs.drop (k+j+1)).drop (k+(j+1)+vs.length)=cs.drop (k+j+(vs.length+1)):=by
    rw[show k+(j+1)+vs.length=(cs.take (k+j)).length+(vs.length+1) by omega,<-z9e,yyu,List.drop_succ_cons,z9e]
    congr 1;omega
   rw[e1,e2];simp
 intro vs k cs hl;exact key vs 0 k cs zot
def OpX(P:Program)(n:Nat)(w0:World)(h0:Mem)(o:Oper)(e:List (Nat×Value))(R:List Res)(h:Mem)(F:Value->Prop):Prop:=
 ∃v,(∀L' h',MLe h h'->(∀r∈R,r∈L')->OpV P n w0 h0 o e L' h' v)/\F v
theorem zI5{ops:Array Oper}{rest:List Oper}{d:Nat}{op:Op}{R:List Res}{F:Value->Prop}(hv:OpX P n w0 h0 ⟨some d,op,ty,ps,af,none⟩ e R h F)(hR:∀r∈R,r∈L)(hn:Nat.ble (d+1) n=true)
    (k:∀v,F v->GL P n w0 h0 ops Q rest ((d,v)::e) L h):GL P n w0 h0 ops Q (⟨some d,op,ty,ps,af,none⟩::rest) e L h:=by
 obtain⟨v,hv,C⟩:=hv;exact eP (hv L h (MLe.refl h) hR) I I hn (k v C)
section
variable {ops:Array Oper}{RR:List Res}{al:Als}{d i:Nat}{op:Op}{v:Value}{r:List (Nat×Kd)}{g t:Nat}{b:Bool}
theorem cY{R:List Res}{F:Value->Prop}(ho:ops.getD i default=⟨some d,op,ty,ps,af,none⟩)(hv:OpX P n w0 h0 ⟨some d,op,ty,ps,af,none⟩ e R h F)(hR:∀r∈R,r∈RR)(hn:Nat.ble (d+1) n=true)
    (k:∀v,F v->W P n w0 h0 ops Q RR al r ((d,v)::e) L h):W P n w0 h0 ops Q RR al ((i,.q)::r) e L h:=by
 obtain⟨v,hv,H⟩:=hv;exact w_q ho (λh' L' hh D=>hv L' h' hh λr C=>D r (hR r C)) hn (k v H)
theorem x_qx{K:List (Nat×Value)->List Res->Mem->Prop}{R:List Res}{F:Value->Prop}(ho:ops.getD i default=⟨some d,op,ty,ps,af,none⟩)(hv:OpX P n w0 h0 ⟨some d,op,ty,ps,af,none⟩ e R h F)(hR:∀r∈R,r∈RR)(hn:Nat.ble (d+1) n=true)
    (k:∀v,F v->K ((d,v)::e) L h):SQ P n w0 h0 ops RR i e L h K:=by
 obtain⟨v,hv,H⟩:=hv;exact x_q ho (λh' L' hh D=>hv L' h' hh λr C=>D r (hR r C)) hn (k v H)
theorem lZ{R:List Res}{F:Value->Prop}(ho:ops.getD i default=⟨some d,op,ty,ps,af,some (g,b)⟩)(ht:(ops[g]?).bind (·.dst)=some t)(he:e.lookup t=some (.bool b))(hv:OpX P n w0 h0 ⟨some d,op,ty,ps,af,none⟩ e R h F)(hR:∀r∈R,r∈RR)(hn:Nat.ble (d+1) n=true)
    (k:∀v,F v->W P n w0 h0 ops Q RR al r ((d,v)::e) L h):W P n w0 h0 ops Q RR al ((i,.q)::r) e L h:=by
 obtain⟨v,hv,H⟩:=hv;exact yV ho ht he (λh' L' hh D=>hv L' h' hh λr C=>D r (hR r C)) hn (k v H)
theorem s_x{W':List (Nat×Value)->List Res->Mem->Prop}{R:List Res}{F:Value->Prop}(hv:OpX P n w0 h0 ⟨some d,op,ty,ps,af,none⟩ e R h F)(hR:∀r∈R,r∈L)(hn:Nat.ble (d+1) n=true)
    (k:∀v,F v->W' ((d,v)::e) L h):kB P n w0 h0 ops RR ⟨some d,op,ty,ps,af,none⟩ e L h W':=by
 obtain⟨v,hv,D⟩:=hv;exact yM8 (λX=>hv (L++X) h (MLe.refl h) λr C=>zqe _ (hR r C)) hn (k v D)
end
theorem j5{L:List Res}:∀r∈([]:List Res),r∈L:=λr hr=>by cases hr
theorem tM{L:List Res}{r:Res}(hr:r∈L):∀x∈[r],x∈L:=λx hx=>by cases hx with|head=>exact hr|tail _ h=>cases h
theorem zB8{t:TypeId}{σ:Rp β}{cs:List Value}{y:β}{w:World}{b o:Nat}(T:TyOk P t σ.n σ.agg)(r:σ.R h cs y)(hc:w.rangeAt b o cs):(Instr.loadAt t (vP b o)).run P w=.ok (σ.val cs) w:=by
 have C:=σ.len r;simp only[Instr.loadAt,Instr.sureAddr,loadVar,Sem.run_bind,T.ag,Result.andThen_ok,Sem.run_pure];unfold Rp.val
 cases ha:σ.agg with
 |true=>
  have D:(loadCells ⟨b,o,none⟩ cs.length).run P w=.ok cs.toArray w:=run_loadCells_list (P:=P) w ⟨b,o,none⟩ cs (λj v H=>by rw[Addr.add_mid];exact hc j v H);rw[C] at D;simp[Sem.run_bind,T.sz,D]
 |false=>
  obtain⟨c,rfl,_⟩:=Rp.single r ha;have:=hc 0 c I;simp only[zpi] at this;simp[Go.load,Sem.run,this]
theorem zN3{t E:TypeId}{x:Operand}{b k off:Nat}{cs:List Value}{ρ:Rp α}{σ:Rp β}{g:α->β}{s:α->β->α}{X:α}{Z:β}(T:TyOk P t σ.n σ.agg)(pc:Pc ρ off σ g s)(ho:k=off)(hx:zH e x=some (vP b k))(r:ρ.R h cs X)(hZ:g X=Z):
 OpX P n w0 h0 ⟨ds,.load t x,ty,ps,af,gd⟩ e [.var b E cs] h (λu=>σ.Is h u Z):=by
 subst hZ;subst ho;have h1:=pc.get r;refine⟨_,λL' h' _ D a w H S=>?_,_,h1,I⟩;have hw:w.heap[b]?=some (.cells cs.toArray E):=S.ok (.var b E cs) (D _ (.head _));have C:=zB8 (P:=P) (w:=w) T h1 (dZ hw k _ (by rw[σ.len h1]));simp[execOp,H.eval hx,C]
def AtP(ρ:Rp α)(h:Mem)(p:Value)(X:α):Prop:=∃b o cs,p=vP b o/\ρ.R h cs X/\∀j u,cs[j]?=some u->cell h b (o+j)=some u
theorem AtP.mono{ρ:Rp α}{h h':Mem}{p:Value}{X:α}(s:AtP ρ h p X)(hh:MLe h h'):AtP ρ h' p X:=by
 obtain⟨b,o,cs,e,r,hc⟩:=s;exact⟨b,o,cs,e,ρ.mono hh r,λj u C=>zD7 hh (hc j u C)⟩
theorem tT{t E:TypeId}{x y:Operand}{q:Int}{v:Value}{ρ:Rp α}{xs:List α}(d:α)(i:Nat)(ht:P.underlying t=some (.slice E))(T:TyOk P E ρ.n ρ.agg)(hx:zH e x=some v)(hy:zH e y=some (vI q))(r:(rpS ρ).Is h v xs)(hq:q=(i:Int))(hi:i<xs.length)(hp:0<ρ.n):
 OpX P n w0 h0 ⟨ds,.indexAddr t x y,ty,ps,af,gd⟩ e [] h (λu=>AtP ρ h u (xs.getD i d)):=by
 obtain⟨cs,hs,M⟩:=zWB r;have J:xs[i]?=some (xs.getD i d):=by rw[zoa,zoc hi];rfl
 have U:=M.get J;have C:=M.len;have Z:i*ρ.n+ρ.n<=cs.length:=by rw[C,<-ysi];exact zgi _ hi
 refine⟨zI ρ.n v i,λL' h' hh _=>dB i ht T.sz hx hy (hs.mono hh) hq hi hp,?_⟩;have h0:(cs[i*ρ.n+0]?)=some (cs[i*ρ.n]'zot):=by rw[zpi,zoc]
 obtain⟨b,o,O,_⟩:=hs.cell h0;refine⟨b,o,_,O,U,λj u D=>?_⟩;rw[zpe] at D
 split at D
 · rw[zxu] at D
   obtain⟨b',o',H,hc⟩:=hs.cell D;rw[O] at H;simp only[Value.pointer.injEq,Option.some.injEq,Addr.mk.injEq] at H;rw[H.1,H.2.1];exact hc
 · cases D
theorem zRA{t:TypeId}{x:Operand}{p:Value}{ρ:Rp α}{X:α}(T:TyOk P t ρ.n ρ.agg)(hx:zH e x=some p)(r:AtP ρ h p X):OpX P n w0 h0 ⟨ds,.load t x,ty,ps,af,gd⟩ e [] h (λu=>ρ.Is h u X):=by
 obtain⟨b,o,cs,rfl,r,hc⟩:=r;refine⟨_,λL' h' hh _ a w H S=>?_,_,r,I⟩;have C:=zB8 (P:=P) (w:=w) T r (λj u D=>lL (hh.trans S.sub) (hc j u D));simp[execOp,H.eval hx,C]
theorem zV5{t:TypeId}{x:Operand}{f off m:Nat}{fs:Array Field}{fl:Field}{p:Value}{ρ:Rp α}{σ:Rp β}{g:α->β}{s:α->β->α}{X:α}{Z:β}(ht:P.underlying t=some (.struct fs))(hf:fs[f]?=some fl)(hsz:∀w,(Go.sizeOf fl.type).run P w=.ok (m+1) w)(pc:Pc ρ off σ g s)(ho:fl.offset=off)(hx:zH e x=some p)(r:AtP ρ h p X)(hZ:g X=Z):
 OpX P n w0 h0 ⟨ds,.fieldAddr t x f,ty,ps,af,gd⟩ e [] h (λu=>AtP σ h u Z):=by
 subst hZ;obtain⟨b,o,cs,rfl,r,hc⟩:=r;subst ho;refine⟨_,λL' h' hh _=>fH ht hf hsz hx,b,_,_,I,pc.get r,λj u C=>?_⟩;rw[zpe] at C
 split at C
 · rw[zxu] at C
   have:=hc _ _ C
   rwa [<-z3e] at this
 · cases C
theorem zJR{t E:TypeId}{x y:Operand}{m off:Nat}{q:Int}{p:Value}{ρ:Rp α}{σ:Rp β}{g:α->β}{s:α->β->α}{X:α}{Z:β}(i:Nat)(ht:P.underlying t=some (.array m E))(hsz:∀w,(Go.sizeOf E).run P w=.ok σ.n w)(pc:Pc ρ off σ g s)(ho:i*σ.n=off)(hx:zH e x=some p)(hy:zH e y=some (vI q))(r:AtP ρ h p X)(hq:q=(i:Int))(hi:i<m)(hZ:g X=Z):
 OpX P n w0 h0 ⟨ds,.indexAddr t x y,ty,ps,af,gd⟩ e [] h (λu=>AtP σ h u Z):=by
 subst hZ;obtain⟨b,o,cs,rfl,r,hc⟩:=r;subst ho;refine⟨_,λL' h' hh _=>zW i ht hsz hx hy hq hi,b,_,_,I,pc.get r,λj u C=>?_⟩;rw[zpe] at C
 split at C
 · rw[zxu] at C
   have:=hc _ _ C
   rwa [<-z3e] at this
 · cases C
theorem jN{v:Value}{ρ:Rp α}{xs:List α}{t E:TypeId}{x:Operand}(ht:P.underlying t=some (.slice E))(hx:zH e x=some v)(r:(rpS ρ).Is h v xs):
 OpV P n w0 h0 ⟨ds,.call {callee:=.builtin .len,args:=#[x],argTypes:=#[t]},ty,ps,af,gd⟩ e L h (vI (xs.length:Int)):=mS ht hx (yM9 r)
theorem yED{E t:TypeId}{b k off:Nat}{cs:List Value}{v:Value}{x y:Operand}{ρ:Rp α}{σ:Rp β}{g:α->β}{s:α->β->α}{X Z:α}{Y:β}(hsz:∀w,(Go.sizeOf t).run P w=.ok σ.n w)(pc:Pc ρ off σ g s)(ho:k=off)(hx:zH e x=some (vP b k))(hy:zH e y=some v)(r:ρ.R h cs X)(ry:σ.Is h v Y)(hZ:s X Y=Z):
 ∃cs',ρ.R h cs' Z/\∀A B,Upd P n w0 h0 ⟨ds,.store t x y,ty,ps,af,gd⟩ e A (.var b E cs) B h (.var b E cs'):=by
 subst hZ;subst ho;obtain⟨vs,J,U⟩:=ry.cells;have M:=σ.len J;have aa:=ρ.len r;have hf:=pc.fits;refine⟨t9 cs k vs,?_,?_⟩
 · rw[zGM _ _ _ zot,M]
   exact pc.set r J
 · intro A B a w O S
   have hw:w.heap[b]?=some (.cells cs.toArray E):=S.ok (.var b E cs) zo3;obtain⟨h2,h3⟩:=oL vs k cs w hw;refine⟨w.setCells b k vs,?_,h3,h2⟩;have C:w.there b k vs.length:=by
    intro j H;have:k+j<cs.length:=by omega
    refine⟨?_,?_⟩
    · unfold World.cell?
      simp[hw,this]
    · simp[World.frozen?,hw]
   have D:=run_storeCells_cells (P:=P) b k vs 0 w (λj H=>by simpa using(C j H).1) (λj H=>by simpa using(C j H).2) (λu hu=>zob.1 (σ.one J) u hu);simp only[zpi] at D;simp[execOp,O.eval hx,O.eval hy,Instr.storeAt,Instr.sureAddr,storeVar,hsz,U,M,D]
theorem zP{ops:Array Oper}{rest:List Oper}{A B:List Res}{op:Op}{b:Nat}{E:TypeId}{cs:List Value}{F:List Value->Prop}(hv:∃cs',F cs'/\∀A B,Upd P n w0 h0 ⟨none,op,ty,ps,af,none⟩ e A (.var b E cs) B h (.var b E cs'))
    (k:∀cs',F cs'->GL P n w0 h0 ops Q rest e (A++.var b E cs'::B) h):GL P n w0 h0 ops Q (⟨none,op,ty,ps,af,none⟩::rest) e (A++.var b E cs::B) h:=by
 obtain⟨cs',D,C⟩:=hv;exact wT (C A B) I I I (k cs' D)
theorem yG{ops:Array Oper}{RR:List Res}{al:Als}{i:Nat}{r:List (Nat×Kd)}{A B:List Res}{op:Op}{b:Nat}{E:TypeId}{cs:List Value}{F:List Value->Prop}(ho:ops.getD i default=⟨none,op,ty,ps,af,none⟩)(hv:∃cs',F cs'/\∀A B,Upd P n w0 h0 ⟨none,op,ty,ps,af,none⟩ e A (.var b E cs) B h (.var b E cs'))
    (k:∀cs',F cs'->W P n w0 h0 ops Q RR al r e (A++.var b E cs'::B) h):W P n w0 h0 ops Q RR al ((i,.t)::r) e (A++.var b E cs::B) h:=by
 obtain⟨cs',D,C⟩:=hv;exact cF ho (C A B) I (k cs' D)
theorem bF{ops:Array Oper}{R:List Res}{W':List (Nat×Value)->List Res->Mem->Prop}{A B:List Res}{op:Op}{b:Nat}{E:TypeId}{cs:List Value}{F:List Value->Prop}(hv:∃cs',F cs'/\∀A B,Upd P n w0 h0 ⟨none,op,ty,ps,af,none⟩ e A (.var b E cs) B h (.var b E cs'))
    (hR:∀r∈R,∀q',r∈A++.var b E cs::B->r∈A++q'::B)(k:∀cs',F cs'->W' e (A++.var b E cs'::B) h):kB P n w0 h0 ops R ⟨none,op,ty,ps,af,none⟩ e (A++.var b E cs::B) h W':=by
 obtain⟨cs',U,M⟩:=hv;intro X a w Z S;have J:St w0 h0 (A++.var b E cs::(B++X)) h w:=by simpa using S
 unfold qV;rw[zau (wn I)];obtain⟨w',C,H,D⟩:=M A (B++X) a w Z J;rw[C];refine⟨λd' hd=>(by cases hd),A++.var b E cs'::B,h,MLe.refl h,λhh r C=>hR r C _ (hh r C),?_,k cs' U⟩;have:=J.grown H D λb O=>.inl O
 simpa using this
theorem yAS{E:TypeId}{x:Operand}{v:Value}{ρ:Rp α}{X:α}(hx:zH e x=some v)(r:ρ.Is h v X):
 lT P n w0 h0 ⟨ds,.box E x,ty,ps,af,gd⟩ e L h (λu q=>∃b cs,u=vP b 0/\q=.var b E cs/\ρ.R h cs X):=by
 obtain⟨cs,H,hc⟩:=r.cells;intro a w U S;obtain⟨D,C,q,h1,h2,h3,O,b,M,J⟩:=vG (n:=n) (ds:=ds) (ty:=ty) (ps:=ps) (af:=af) (gd:=gd) (L:=L) (E:=E) hx hc a w U S;exact⟨D,C,q,h1,h2,h3,O,b,cs,M,J,H⟩
theorem zRZ{E:TypeId}{i:TypeInfo}{z:Value}{cs:List Value}{ρ:Rp α}{X:α}(hi:P.info? E=some i)(hz:i.zero=some z)(hc:z.cells=cs.toArray)(r:ρ.R h cs X):
 lT P n w0 h0 ⟨ds,.alloc E,ty,ps,af,gd⟩ e L h (λu q=>∃b cs,u=vP b 0/\q=.var b E cs/\ρ.R h cs X):=by
 intro a w O S;obtain⟨D,C,q,h1,h2,h3,M,b,J,H⟩:=vY (n:=n) (ds:=ds) (ty:=ty) (ps:=ps) (af:=af) (gd:=gd) (e:=e) (L:=L) (h:=h) hi hz hc a w O S;exact⟨D,C,q,h1,h2,h3,M,b,cs,J,H,r⟩
def zKS(ρ:Rp α)(h:Mem)(place:Nat->Option (Nat×Nat))(X:α)(parts:List (Nat×Value))(X':α):Prop:=
 ∀cs,ρ.R h cs X->∃cs',ρ.R h cs' X'/\Instr.fill place cs.toArray parts=some cs'.toArray
theorem zN{ρ:Rp α}{place:Nat->Option (Nat×Nat)}{X:α}:zKS ρ h place X [] X:=λcs r=>⟨cs,r,rfl⟩
theorem zD{ρ:Rp α}{σ:Rp β}{place:Nat->Option (Nat×Nat)}{X X':α}{Y:β}{i off:Nat}{v:Value}{rest:List (Nat×Value)}{g:α->β}{s:α->β->α}(hp:place i=some (off,σ.n))(pc:Pc ρ off σ g s)(ry:σ.Is h v Y)(k:zKS ρ h place (s X Y) rest X'):zKS ρ h place X ((i,v)::rest) X':=by
 intro cs r;obtain⟨vs,D,J⟩:=ry.cells;have O:=σ.len D;have M:=ρ.len r;have hf:=pc.fits;obtain⟨C,H,e'⟩:=k _ (pc.set r D);refine⟨C,H,?_⟩;have U:cs=cs.take off++(cs.drop off).take σ.n++cs.drop (off+σ.n):=by
  rw[zki,<-z9e,yei,yei]
 rw[U];exact vO hp (by rw[zei];omega) (by rw[zei,ziu];omega) O J e'
theorem xN{t:TypeId}{i:TypeInfo}{z:Value}{zs:List Value}{fs:Array Field}{places:Array (Nat×Nat)}{parts:List (Nat×Operand)}{ps':List (Nat×Value)}{ρ:Rp α}{X X':α}(ht:P.underlying t=some (.struct fs))(hi:P.info? t=some i)(hz:i.zero=some z)(hzc:z.cells=zs.toArray)
    (hpl:∀w,(fs.mapM λ(f:Field)=>do pure (f.offset,<-Go.sizeOf f.type)).run P w=.ok places w)(hp:iC e parts ps')(ha:ρ.agg=true)(rz:ρ.R h zs X)(hf:zKS ρ h (places[·]?) X ps' X'):
    OpX P n w0 h0 ⟨ds,.build t parts.toArray,ty,ps,af,gd⟩ e [] h (λu=>ρ.Is h u X'):=by
 obtain⟨C,D,e'⟩:=hf zs rz;refine⟨.agg C.toArray,λL' h' _ _=>wJ ht hi hz hpl hp (by rw[hzc];exact e'),C,D,?_⟩;unfold Rp.val;rw[ha];rfl
theorem xS{t E:TypeId}{m sz:Nat}{i:TypeInfo}{z:Value}{zs:List Value}{parts:List (Nat×Operand)}{ps':List (Nat×Value)}{ρ:Rp α}{X X':α}(ht:P.underlying t=some (.array m E))(hi:P.info? t=some i)(hz:i.zero=some z)(hzc:z.cells=zs.toArray)
    (hsz:∀w,(Go.sizeOf E).run P w=.ok sz w)(hp:iC e parts ps')(ha:ρ.agg=true)(rz:ρ.R h zs X)(hf:zKS ρ h (λi=>some (i*sz,sz)) X ps' X'):
    OpX P n w0 h0 ⟨ds,.build t parts.toArray,ty,ps,af,gd⟩ e [] h (λu=>ρ.Is h u X'):=by
 obtain⟨C,D,e'⟩:=hf zs rz;refine⟨.agg C.toArray,λL' h' _ _=>zLL ht hi hz hsz hp (by rw[hzc];exact e'),C,D,?_⟩;unfold Rp.val;rw[ha];rfl
theorem gA{R R':Mem->Value->Prop}(k:∀h r,R h r->R' h r)(x:Ending)(w:World)(s:Ret w0 h0 R x w):Ret w0 h0 R' x w:=by
 obtain⟨v,h,e,r,S⟩:=s;exact⟨v,h,e,k h v r,S⟩
theorem yNX{h:Mem}:rpB.Is h (.bool true) True:=(xW trivial)▸yNY True
theorem Rp.castR{ρ:Rp α}{cs:List Value}{x y:α}(r:ρ.R h cs x)(e:x=y):ρ.R h cs y:=e▸r
theorem Rp.R.mono{ρ:Rp α}{h':Mem}{cs:List Value}{x:α}(r:ρ.R h cs x)(hh:MLe h h'):ρ.R h' cs x:=Rp.mono ρ hh r
theorem jG{t:Nat}{T E:TypeId}{b:Nat}{cs:List Value}{ρ:Rp α}{X:α}(tok:TyOk P T ρ.n ρ.agg)(hm:.var b E cs∈L)(hx:zH e (.tmp t)=some (vP b 0))(r:ρ.R h cs X):∃v,RV P n w0 h0 (.cell t T) e L h v/\ρ.Is h v X:=by
 refine⟨ρ.val cs,?_,cs,r,I⟩;intro a w C S;have hw:w.heap[b]?=some (.cells cs.toArray E):=S.ok _ hm;have:=C.eval hx;simp only[Act.eval] at this;have h2:=zB8 (P:=P) tok r (dZ hw 0 cs zo3);simp only[Instr.loadAt,Instr.sureAddr,Sem.run_bind,Sem.run_pure,Result.andThen_ok] at h2;simp[zGH,this,asAddr,h2]
theorem wG{r:ResultVar}{F:Value->Prop}{x:Exit}(s:∃v,RV P n w0 h0 r e L h v/\F v)(k:∀v,RV P n w0 h0 r e L h v->F v->GQ n w0 h0 Q x e L h):GQ n w0 h0 Q x e L h:=by
 obtain⟨v,a,b⟩:=s;exact k v a b
theorem zZY{o:Oper}{v:Value}{F:Value->Prop}(hv:∀L' h',OpV P n w0 h0 o e L' h' v)(hF:F v):OpX P n w0 h0 o e [] h F:=⟨v,λL' h' _ _=>hv L' h',hF⟩
end
section
variable {P:Program}{n:Nat}{w0:World}{h0:Mem}{e:List (Nat×Value)}{L:List Res}{h:Mem}{Q:Exit->Act->World->Prop}
variable {ds:Option Tmp}{ty:TypeId}{ps:String}{af:Array Edge}{gd:Option (Nat×Bool)}
theorem jZ{G:Prop}(p:Prop)(kt:p->G)(kf:¬p->G):G:=Classical.byCases kt kf
abbrev vF(f:Nat)(cap:List Value):Value:=.func (.func f) #[] cap.toArray
def yD7(P:Program)(n:Nat)(o:Oper)(e:List (Nat×Value))(f:Nat)(args:Array Value):Prop:=∀a w,Env n e a->(execOp a.eval o).run P w=.ok (.enter f args) w
theorem cT{x:Operand}{f:Nat}{cap:List Value}{xs:List Operand}{ts:Array TypeId}{vs:List Value}(hcall:∀args w,(callFunc f args).run P w=.ok (.enter f args) w)(hx:zH e x=some (vF f cap))(hvs:bD e xs vs):
 yD7 P n ⟨ds,.call {callee:=.value x,args:=xs.toArray,argTypes:=ts},ty,ps,af,gd⟩ e f (vs++cap).toArray:=by
 intro a w D;have C:xs.toArray.map a.eval=vs.toArray:=by rw[z0e,D.evals hvs]
 simp only[execOp,resolve,D.eval hx];simp[Deferred.ofValue,invoke,hcall,C]
theorem yJP{W':List (Nat×Value)->List Res->Mem->Prop}{ops:Array Oper}{R:List Res}{op:Op}{g t d:Nat}{b:Bool}(ht:(ops[g]?).bind (·.dst)=some t)(he:e.lookup t=some undef)(hn:Nat.ble (d+1) n=true)(k:W' ((d,undef)::e) L h):
 kB P n w0 h0 ops R ⟨some d,op,ty,ps,af,some (g,b)⟩ e L h W':=by
 intro X a w E S;have hw:Region.wanted ⟨some d,op,ty,ps,af,some (g,b)⟩ (yielded ops a.tmps)=false:=by
  have:=E.get t _ he;simp[Region.wanted,yielded,ht,this,undef]
 unfold qV;rw[zae (by simp[hw])];exact⟨λC hd=>(by cases hd;exact zce hn),L,h,MLe.refl h,λhh=>hh,S,k⟩
theorem zXF{R A B:List Res}{q:Res}(hR:∀r∈R,r∈A++B):∀r∈R,r∈A++q::B->r∈A++B:=λr hr _=>hR r hr
section
variable {ops:Array Oper}{R:List Res}{d:Nat}{op:Op}
theorem aK{W':List (Nat×Value)->List Res->Mem->Prop}{f:Nat}{args:Array Value}{R':Mem->Value->Prop}(he:yD7 P n ⟨some d,op,ty,ps,af,none⟩ e f args)(hn:Nat.ble (d+1) n=true)
    (hc:∀w,MLe h (mem w)->Calls P f args w (Ret w h R'))(k:∀v h',MLe h h'->R' h' v->W' ((d,v)::e) L h'):kB P n w0 h0 ops R ⟨some d,op,ty,ps,af,none⟩ e L h W':=by
 intro X a w E S;unfold qV;rw[zau (wn I),he a w E];refine(hc w S.sub).mono ?_
 rintro e' D ⟨v,h',rfl,hR,C⟩
 have H:St w0 h0 (L++X) h' D:=S.call C;exact⟨v,I,λJ hd=>(by cases hd;exact zce hn),L,h',C.le,λhh=>hh,H,k v h' C.le hR⟩
end
end
section
variable {α β γ:Type}
variable {P:Program}{n:Nat}{w0:World}{h0:Mem}{e:List (Nat×Value)}{L:List Res}{h:Mem}{Q:Exit->Act->World->Prop}
variable {ds:Option Tmp}{ty:TypeId}{ps:String}{af:Array Edge}{gd:Option (Nat×Bool)}
theorem St.nilown{w:World}(s:St w0 h0 L h w)(E k:Nat):St w0 h0 (.gs E k (.slice none 0 0) 0 []::L) h w:=by
 refine⟨s.below,s.le,s.sub,s.fresh,?_,?_,?_⟩
 · intro r C
   rcases zfu.1 C with rfl|C
   · exact World.ownsRow_nil w _ E k
   · exact s.ok r C
 · intro r C b D
   rcases zfu.1 C with rfl|C
   · simp[Res.fp,Value.ownBlock] at D
   · exact s.own r C b D
 · refine z9u.2 ⟨λr C b D=>?_,s.apart⟩
   simp[Res.fp,Value.ownBlock] at D
theorem xJ{c:Code}(E k:Nat)(g:GC P n w0 h0 c Q e (.gs E k (.slice none 0 0) 0 []::L) h):GC P n w0 h0 c Q e L h:=λa w Ev S=>g a w Ev (S.nilown E k)
theorem zDY{ops:Array Oper}{l:List Oper}(E k:Nat)(g:GL P n w0 h0 ops Q l e (.gs E k (.slice none 0 0) 0 []::L) h):GL P n w0 h0 ops Q l e L h:=λa w Ev S=>g a w Ev (S.nilown E k)
theorem aT{x:Exit}(E k:Nat)(g:GQ n w0 h0 Q x e (.gs E k (.slice none 0 0) 0 []::L) h):GQ n w0 h0 Q x e L h:=λa w Ev S=>g a w Ev (S.nilown E k)
theorem iU{ops:Array Oper}{R:List Res}{o:Oper}{W':List (Nat×Value)->List Res->Mem->Prop}(E k:Nat)(g:kB P n w0 h0 ops R o e (.gs E k (.slice none 0 0) 0 []::L) h W'):kB P n w0 h0 ops R o e L h W':=by
 intro X a w M S;refine(g X a w M (S.nilown E k)).mono ?_
 rintro U O ⟨hd,L',g,D,hk,J,H⟩
 exact⟨hd,L',g,D,λhh q C=>hk (λy hy=>z3i _ (hh y hy)) q C,J,H⟩
theorem zWY(a:List Value)(m:Nat):(madeCells a.toArray (m*a.length)).toList=(List.replicate m a).flatten:=by
 unfold madeCells;rw[Array.toList_map,Array.toList_range]
 induction m with
 |zero=>simp
 |succ m ih=>
  rw[ysi,Nat.add_comm,List.range_add,zle,yri,ygi,List.flatten_cons,<-ih]
  congr 1
  · apply List.ext_getElem?
    intro j
    by_cases hj:j<a.length
    · simp[hj,zoh hj]
    · simp[hj]
  · apply yge
    intro j _;simp
theorem zTG{ρ:Rp α}{a:List Value}{x:α}(m:Nat)(r:ρ.R h a x):RL ρ h (madeCells a.toArray (m*ρ.n)).toList (List.replicate m x):=by
 rw[<-ρ.len r,zWY];exact(zM7 (h:=h) m r).2
theorem zJ8{t E:TypeId}{i:TypeInfo}{z:Value}{zs:List Value}{x y:Operand}{q q':Int}{by':Nat}{ρ:Rp α}{X:α}(m:Nat)(ht:P.underlying t=some (.slice E))(hi:P.info? E=some i)(hz:i.zero=some z)(hzc:z.cells=zs.toArray)(hsize:i.size=ρ.n)(hby:i.bytes=by')(rz:ρ.R h zs X)
    (hx:zH e x=some (vI q))(hy:zH e y=some (vI q'))(hq:q=(m:Int))(hq':q'=(m:Int))(hb:by'*m<=281474976710656)(hm:m<9223372036854775808):
    lT P n w0 h0 ⟨ds,.makeSlice t x y,ty,ps,af,gd⟩ e L h (λv r=>∃cs,r=.gs E ρ.n v (List.replicate m X).length cs/\RL ρ h cs (List.replicate m X)):=by
 subst hq;subst hq';subst hby;intro a w H S;obtain⟨J,M,C,D⟩:=run_make_full (P:=P) w w0.heap.size t E i z ρ.n ht hi hz hsize .i64 .i64 m hb (by unfold maxLen;omega) S.below.size;rw[hzc] at C;refine⟨_,J,.gs E ρ.n (.slice (some ⟨w.heap.size,0,none⟩) m m) m (madeCells zs.toArray (m*ρ.n)).toList,?_,D,C,λb hb=>?_,_,by rw[lR],zTG m rz⟩
 · simp only[execOp,H.eval hx,H.eval hy,vI]
   simp[M]
 · simp only[Res.fp,Value.ownBlock,Option.some.injEq] at hb
   omega
theorem zL{t E:TypeId}{i:TypeInfo}{z:Value}{zs:List Value}{parts:List (Nat×Operand)}{ps':List (Nat×Value)}{m:Nat}{ρ:Rp α}{X:α}{xs:List α}(ht:P.underlying t=some (.slice E))(hi:P.info? E=some i)(hz:i.zero=some z)(hzc:z.cells=zs.toArray)(hsize:i.size=ρ.n)(rz:ρ.R h zs X)
    (hp:iC e parts ps')(hf:zKS (rpA m ρ) h (λi=>some (i*ρ.n,ρ.n)) (List.replicate m X) ps' xs)(hm:m*ρ.n<=16777216)(hn:0<ρ.n):
    lT P n w0 h0 ⟨ds,.buildSlice t m parts.toArray,ty,ps,af,gd⟩ e L h (λv r=>∃cs,r=.gs E ρ.n v xs.length cs/\RL ρ h cs xs):=by
 obtain⟨cs,⟨H,M⟩,J⟩:=hf (madeCells zs.toArray (m*ρ.n)).toList ⟨yde,zTG m rz⟩;have O:=M.len;rw[H] at O;intro a w Ev S;have Z:(parts.toArray.map λ(p:Nat×Operand)=>(p.1,a.eval p.2)).toList=ps':=by
  rw[z0e];exact hp.eval Ev
 refine⟨.slice (some ⟨w.heap.size,0,none⟩) m m,w.alloc (.cells cs.toArray E),.gs E ρ.n (.slice (some ⟨w.heap.size,0,none⟩) m m) m cs,?_,World.grownBy_alloc w _ none,?_,λb hb=>?_,cs,by rw[H],M⟩
 · have aa:¬(m*ρ.n>16777216):=by omega
   simp only[execOp,Instr.buildSlice];rw[show(parts.toArray.map λ(i,x)=>(i,a.eval x)).toList=ps' from Z];have U:(zeroValue E).run P w=.ok z w:=by simp[zeroValue,typeInfo,hi,hz]
   have C:Instr.fill (λi=>some (i*ρ.n,ρ.n)) (madeCells zs.toArray (m*ρ.n)) ps'=some cs.toArray:=by
    simpa using J
   have D:∀w,(Go.sizeOf E).run P w=.ok ρ.n w:=λw=>by simp[Go.sizeOf,typeInfo,hi,hsize]
   by_cases h0:m*ρ.n=0
   · rw[h0] at C
     simp only[madeCells,Array.range_zero',Array.map_empty] at C;simp[run_underlying ht,D,newRow,newObj,Sem.run,h0,Array.range_zero',C]
   · unfold madeCells at C
     simp only[y1e,List.getElem!_toArray,List.getElem!_eq_getElem?_getD] at C;simp[run_underlying ht,D,h0,aa,U,hzc,C,newRow,newObj,Sem.run]
 · have:=World.ownsRow_lit (w:=w) (base:=w0.heap.size) (e:=E) (size:=ρ.n) cs.toArray m S.below.size (by unfold maxLen;have:=Nat.le_mul_of_pos_right m hn;omega) (by simpa using O)
   exact this
 · simp only[Res.fp,Value.ownBlock,Option.some.injEq] at hb
   omega
theorem zR{A B:List Res}{t E:TypeId}{i:TypeInfo}{z:Value}{bytes:Nat}{v v':Value}{cs:List Value}{x y:Operand}{ρ:Rp α}{xs ys:List α}(ht:P.underlying t=some (.slice E))(hi:P.info? E=some i)(hz:i.zero=some z)(hsize:i.size=ρ.n)(hby:i.bytes=bytes)
    (hzs:z.cells.size=ρ.n)(hk:0<ρ.n)(hx:zH e x=some v)(hy:zH e y=some v')(r:RL ρ h cs xs)(hv':(rpS ρ).Is h v' ys)(hlen:xs.length+ys.length<9223372036854775808)(hb':(xs.length+ys.length)*bytes<=140737488355328):
    zEZ P n w0 h0 ⟨ds,.call {callee:=.builtin .append,args:=#[x,y],argTypes:=#[t,t]},ty,ps,af,gd⟩ e A (.gs E ρ.n v xs.length cs) B h (λu r'=>∃cs',r'=.gs E ρ.n u (xs++ys).length cs'/\RL ρ h cs' (xs++ys)):=by
 obtain⟨C,hs,r2⟩:=zWB hv';intro a w O S;obtain⟨u,D,r',h1,h2,h3,M,J⟩:=zGI (A:=A) (B:=B) (v:=v) (cs:=cs) (m:=xs.length) (ds:=ds) (ty:=ty) (ps:=ps) (af:=af) (gd:=gd) ht hi hz hsize hby hzs hk hx hy hs (λu H=>zob.1 r2.one u H) hlen hb' a w O S;exact⟨u,D,r',h1,h2,h3,M,cs++C,by rw[J,lAz],r.append r2⟩
theorem zLH{E k m:Nat}{v:Value}{cs:List Value}{w:World}(hm:.gs E k v m cs∈L)(S:St w0 h0 L h w):Sl (mem w) k v m cs:=by
 obtain⟨A,B,rfl⟩:=yqu hm;exact zBP S
theorem yJ1(k:Nat)(v:Value)(i:Nat):zI k v i=zI 1 v (i*k):=by
 unfold zI;rw[z6e]
theorem jO{E k m:Nat}{v:Value}{cs:List Value}{t E':TypeId}{x:Operand}(hm:.gs E k v m cs∈L)(ht:P.underlying t=some (.slice E'))(hx:zH e x=some v):
 OpV P n w0 h0 ⟨ds,.call {callee:=.builtin .len,args:=#[x],argTypes:=#[t]},ty,ps,af,gd⟩ e L h (vI (m:Int)):=
 λa w Ev S=>mS (L:=L) (h:=h) ht hx (zLH hm S).one a w Ev S
theorem yZ{E m k:Nat}{cs:List Value}{v:Value}{t E':TypeId}{x y:Operand}{q:Int}(i:Nat)(hm:.gs E k v m cs∈L)(ht:P.underlying t=some (.slice E'))(hsz:∀w,(Go.sizeOf E').run P w=.ok k w)(hx:zH e x=some v)(hy:zH e y=some (vI q))
    (hq:q=(i:Int))(hi:i<m)(hk:0<k):OpV P n w0 h0 ⟨ds,.indexAddr t x y,ty,ps,af,gd⟩ e L h (zI 1 v (i*k)):=by
 intro a w D S;have C:St w (mem w) [] (mem w) w:=St.begin (MLe.refl _);rw[<-yJ1];exact dB (n:=n) (w0:=w) (h0:=mem w) (L:=[]) (h:=mem w) i ht hsz hx hy (zLH hm S) hq hi hk a w D C
theorem zNI{k m o l:Nat}{v:Value}{cs:List Value}{w:World}(s:Sl (mem w) k v m cs)(hl:0<l)(ho:o+l<=cs.length):∃b o',zI 1 v o=vP b (o'+o)/\v=.slice (some ⟨b,o',none⟩) m (match v with| .slice _ _ c=>c|_=>0)/\w.rangeAt b (o'+o) ((cs.drop o).take l):=by
 obtain⟨a,M,rfl,h1,h2,h3,H⟩:=s;obtain⟨b,o',rfl,_⟩:=H o zot;refine⟨b,o',by simp[zI,jY],I,?_⟩;intro j u C;rw[zpe] at C
 split at C
 · rw[zxu] at C
   obtain⟨D,_⟩:=zxi.1 C;obtain⟨U,O,J,hc⟩:=H _ D;simp only[Option.some.injEq,Addr.mk.injEq,and_true] at J;obtain⟨rfl,rfl⟩:=J;rw[C] at hc;have:=lL (MLe.refl _) hc
   rwa [<-z3e] at this
 · cases C
theorem wO{t E:TypeId}{x:Operand}{k off:Nat}{cs:List Value}{v:Value}{ρ:Rp α}{σ:Rp β}{g:List α->β}{s:List α->β->List α}{xs:List α}{Z:β}(T:TyOk P t σ.n σ.agg)(pc:Pc (rpA xs.length ρ) off σ g s)(ho:k=off)(hp:0<σ.n)(hx:zH e x=some (zI 1 v k))(r:RL ρ h cs xs)(hZ:g xs=Z):
 OpX P n w0 h0 ⟨ds,.load t x,ty,ps,af,gd⟩ e [.gs E ρ.n v xs.length cs] h (λu=>σ.Is h u Z):=by
 subst hZ;subst ho;have h1:=pc.get (h:=h) ⟨I,r⟩;have hf:k+σ.n<=xs.length*ρ.n:=pc.fits;have M:=r.len;refine⟨_,λL' h' _ D a w J S=>?_,_,h1,I⟩;obtain⟨b,o',H,_,C⟩:=zNI (zLH (D (.gs E ρ.n v xs.length cs) (.head _)) S) hp (show k+σ.n<=cs.length by omega);rw[H] at hx;have:=zB8 (P:=P) (w:=w) T h1 C;simp[execOp,J.eval hx,this]
theorem nW{base E k g cap m:Nat}:∀(vs:List Value) (off:Nat) (cs:List Value) (w:World),w.ownsRow base E k (.slice (some ⟨g,0,none⟩) m cap) m cs->
 (w.setCells g off vs).ownsRow base E k (.slice (some ⟨g,0,none⟩) m cap) m (t9 cs off vs)/\w.grownBy (w.setCells g off vs) (some g)
 |[],off,cs,w,hw=>⟨hw,⟨rfl,rfl,rfl,zbe _,λ_ _ _=>rfl⟩⟩
 |v::r,off,cs,w,hw=>by
  obtain⟨h1,h2⟩:=hw.stored off v;obtain⟨h3,h4⟩:=nW r (off+1) (cs.set off v) _ h1;have e1:t9 cs off (v::r)=t9 (cs.set off v) (off+1) r:=by
   unfold t9;rw[yfu,yae,zpi,List.zipIdx_succ,List.foldl_map]
   congr 1
   funext c p
   rw[show off+(p.2+1)=off+1+p.2 by omega]
  refine⟨by rw[World.setCells,e1];exact h3,?_⟩;refine⟨h4.os.trans h2.os,h4.tape.trans h2.tape,h4.output.trans h2.output,zci h2.size h4.size,?_⟩;intro H D C;have M:=h2.block H D C;have J:=h4.block H (zme D h2.size) C;rw[World.setCells,J,M]
theorem rI{E t:TypeId}{k off:Nat}{cs:List Value}{u v:Value}{x y:Operand}{ρ:Rp α}{σ:Rp β}{g:List α->β}{s:List α->β->List α}{xs Z:List α}{Y:β}(hsz:∀w,(Go.sizeOf t).run P w=.ok σ.n w)(pc:Pc (rpA xs.length ρ) off σ g s)(ho:k=off)(hp:0<σ.n)(hx:zH e x=some (zI 1 v k))(hy:zH e y=some u)(r:RL ρ h cs xs)(ry:σ.Is h u Y)(hZ:s xs Y=Z):
 ∃cs',RL ρ h cs' Z/\∀A B,Upd P n w0 h0 ⟨ds,.store t x y,ty,ps,af,gd⟩ e A (.gs E ρ.n v xs.length cs) B h (.gs E ρ.n v Z.length cs'):=by
 subst hZ;subst ho;obtain⟨vs,J,hv⟩:=ry.cells;have hl:=σ.len J;have aa:=r.len;have hf:k+σ.n<=xs.length*ρ.n:=pc.fits;obtain⟨U,O⟩:=pc.set (h:=h) ⟨I,r⟩ J;refine⟨t9 cs k vs,?_,?_⟩
 · rw[zGM _ _ _ zot,hl]
   exact O
 · intro A B a w Ev S
   rw[U];have H:w.ownsRow w0.heap.size E ρ.n v xs.length cs:=S.ok (.gs E ρ.n v xs.length cs) zo3;have C:=H;obtain⟨_,hr⟩:=H
   rcases hr with⟨rfl,hm0⟩|⟨b,cap,cur,rfl,hbg,hg,hnc,hcm,hcs,htake⟩
   · rw[hm0] at hf;omega
   · have M:zI 1 (.slice (some ⟨b,0,none⟩) xs.length cap) k=vP b k:=by simp[zI,jY]
     rw[M] at hx;obtain⟨h1,h2⟩:=nW vs k cs w C;refine⟨w.setCells b k vs,?_,h2,h1⟩;have D:=run_storeCells_cells (P:=P) b k vs 0 w (λj hj=>by
      have h4:=C.cellAt (k+j) zot;rw[zoc zot] at h4;simp[h4]) (λj hj=>by simpa using C.frozenAt (k+j)) (λu hu=>zob.1 (σ.one J) u hu)
     simp only[zpi] at D;simp[execOp,Ev.eval hx,Ev.eval hy,Instr.storeAt,Instr.sureAddr,storeVar,hsz,hv,hl,D]
section
variable {A B:List Res}{op:Op}{E k m:Nat}{v:Value}{cs:List Value}{F:Nat->List Value->Prop}
theorem fW{ops:Array Oper}{rest:List Oper}{m':Nat}{F:List Value->Prop}(hv:∃cs',F cs'/\∀A B,Upd P n w0 h0 ⟨none,op,ty,ps,af,none⟩ e A (.gs E k v m cs) B h (.gs E k v m' cs'))
    (kk:∀cs',F cs'->GL P n w0 h0 ops Q rest e (A++.gs E k v m' cs'::B) h):GL P n w0 h0 ops Q (⟨none,op,ty,ps,af,none⟩::rest) e (A++.gs E k v m cs::B) h:=by
 obtain⟨cs',D,C⟩:=hv;exact wT (C A B) I I I (kk cs' D)
theorem zC0{ops:Array Oper}{RR:List Res}{al:Als}{i:Nat}{r:List (Nat×Kd)}{m':Nat}{F:List Value->Prop}(ho:ops.getD i default=⟨none,op,ty,ps,af,none⟩)(hv:∃cs',F cs'/\∀A B,Upd P n w0 h0 ⟨none,op,ty,ps,af,none⟩ e A (.gs E k v m cs) B h (.gs E k v m' cs'))
    (kk:∀cs',F cs'->W P n w0 h0 ops Q RR al r e (A++.gs E k v m' cs'::B) h):W P n w0 h0 ops Q RR al ((i,.t)::r) e (A++.gs E k v m cs::B) h:=by
 obtain⟨cs',D,C⟩:=hv;exact cF ho (C A B) I (kk cs' D)
end
theorem St.freezex{A B:List Res}{E:Nat}{v:Value}{cs:List Value}{ρ:Rp α}{xs:List α}{w:World}(r:RL ρ h cs xs)(S:St w0 h0 (A++.gs E ρ.n v xs.length cs::B) h w):∃h',MLe h h'/\(rpS ρ).Is h' v xs/\St w0 h0 (A++B) h' w:=by
 have C:=S.ok (.gs E ρ.n v xs.length cs) zo3;have J:=C;obtain⟨O,M⟩:=C
 rcases M with⟨rfl,hm0⟩|⟨g,cap,cur,rfl,hb,hg,hn,hm,hcs,ht⟩
 · have H:xs=[]:=zof hm0
   subst H;exact⟨h,MLe.refl h,eL h,S.drop⟩
 · obtain⟨U,D⟩:=S.freeze (b:=g) (o:=.cells cur E (0,0)) I hg
   refine⟨_,D,yF5 ⟨_,cap,I,hn,hm,O,λi hi=>⟨g,0,I,?_⟩⟩ (r.mono D),U⟩;unfold cell;simp only[if_true,zyi];rw[<-ht,zpe,zau zot];simp
section
variable {A B:List Res}{E:Nat}{v:Value}{cs:List Value}{ρ:Rp α}{xs:List α}
theorem zQ{ops:Array Oper}{l:List Oper}(r:RL ρ h cs xs)(k:∀h',MLe h h'->(rpS ρ).Is h' v xs->GL P n w0 h0 ops Q l e (A++B) h'):GL P n w0 h0 ops Q l e (A++.gs E ρ.n v xs.length cs::B) h:=by
 intro a w H S;obtain⟨h',C,hs,D⟩:=S.freezex r;exact k h' C hs a w H D
theorem zH1{c:Code}(r:RL ρ h cs xs)(k:∀h',MLe h h'->(rpS ρ).Is h' v xs->GC P n w0 h0 c Q e (A++B) h'):GC P n w0 h0 c Q e (A++.gs E ρ.n v xs.length cs::B) h:=by
 intro a w H S;obtain⟨h',C,hs,D⟩:=S.freezex r;exact k h' C hs a w H D
theorem wW{x:Exit}(r:RL ρ h cs xs)(k:∀h',MLe h h'->(rpS ρ).Is h' v xs->GQ n w0 h0 Q x e (A++B) h'):GQ n w0 h0 Q x e (A++.gs E ρ.n v xs.length cs::B) h:=by
 intro a w H S;obtain⟨h',C,hs,D⟩:=S.freezex r;exact k h' C hs a w H D
theorem xY{o:Oper}{ops:Array Oper}{R:List Res}{W':List (Nat×Value)->List Res->Mem->Prop}(r:RL ρ h cs xs)(hR:∀q∈R,q∈A++.gs E ρ.n v xs.length cs::B->q∈A++B)
    (k:∀h',MLe h h'->(rpS ρ).Is h' v xs->kB P n w0 h0 ops R o e (A++B) h' W'):kB P n w0 h0 ops R o e (A++.gs E ρ.n v xs.length cs::B) h W':=by
 intro X a w Ev S;have U:St w0 h0 (A++.gs E ρ.n v xs.length cs::(B++X)) h w:=by simpa using S
 obtain⟨h',C,hs,Z⟩:=U.freezex r;have O:St w0 h0 ((A++B)++X) h' w:=by simpa using Z
 refine(k h' C hs X a w Ev O).mono ?_
 rintro v' w' ⟨hd,L',g,H,hk,M,J⟩
 exact⟨hd,L',g,C.trans H,λhh q D=>hk (λy hy=>hR y hy (hh y hy)) q D,M,J⟩
end
end
end Bk
namespace Bk
open Go Go.RowKit
def zCX(o:Oper):Nat:=o.after.toList.foldl (λa e=>if Region.binds .any e then a |||(1 <<< e.on) else a) 0
theorem iQ(k j:Nat):(1 <<< k).testBit j=decide (j=k):=by
 rw[Nat.one_shiftLeft,Nat.testBit_two_pow];exact yeu.2 (by simp[eq_comm])
theorem eZ(o:Oper)(k:Nat):(zCX o).testBit k=true↔∃e∈o.after,Region.binds .any e=true/\e.on=k:=by
 have key:∀(l:List Edge) (a:Nat),(l.foldl (λa e=>if Region.binds .any e then a |||(1 <<< e.on) else a) a).testBit k=true↔a.testBit k=true\/∃e∈l,Region.binds .any e=true/\e.on=k:=by
  intro l
  induction l with
  |nil=>intro a;simp
  |cons e l ih=>
   intro a;rw[yae,ih]
   by_cases hb:Region.binds .any e=true
   · rw[zau hb,yye,iQ]
     simp only[zxe,zhi,zfu,exists_eq_or_imp,hb,true_and,or_assoc];constructor
     · rintro(h|h|h)
       · exact .inl h
       · exact .inr (.inl h.symm)
       · exact .inr (.inr h)
     · rintro(h|h|h)
       · exact .inl h
       · exact .inr (.inl h.symm)
       · exact .inr (.inr h)
   · rw[zae hb]
     simp only[zfu,exists_eq_or_imp,hb,false_and,false_or];simp
 unfold zCX;rw[key];simp
def zPL(ops:Array Oper)(ams:List Nat)(i:Nat):Nat:=(List.range ops.size).foldl (λa j=>if j==i||(ams.getD j 0).testBit i||(ops.getD i default).apart ops (ops.getD j default) then a |||(1 <<< j) else a) 0
theorem zSN(ops:Array Oper)(ams:List Nat)(i k:Nat):(zPL ops ams i).testBit k=true->k<ops.size/\(k=i\/(ams.getD k 0).testBit i=true\/(ops.getD i default).apart ops (ops.getD k default)=true):=by
 have key:∀(l:List Nat) (a:Nat),(l.foldl (λa j=>if j==i||(ams.getD j 0).testBit i||(ops.getD i default).apart ops (ops.getD j default) then a |||(1 <<< j) else a) a).testBit k=true->a.testBit k=true\/(k∈l/\(k=i\/(ams.getD k 0).testBit i=true\/(ops.getD i default).apart ops (ops.getD k default)=true)):=by
  intro l
  induction l with
  |nil=>intro a h;exact .inl h
  |cons j l ih=>
   intro a h;rw[yae] at h
   rcases ih _ h with h1|⟨h1,h2⟩
   · split at h1
     · rename_i hc
       rw[yye,iQ] at h1;simp only[zxe,zhi] at h1
       rcases h1 with h1|h1
       · exact .inl h1
       · subst h1
         simp only[zxe,beq_iff_eq,or_assoc] at hc;exact .inr ⟨.head _,hc⟩
     · exact .inl h1
   · exact .inr ⟨.tail _ h1,h2⟩
 intro h
 rcases key _ _ h with h1|⟨h1,h2⟩
 · simp at h1
 · exact⟨zog.1 h1,h2⟩
def w4(ams:List Nat)(x i:Nat):Bool:=!x.testBit i&&(ams.getD i 0&&&x==ams.getD i 0)
def pF(ams:List Nat)(n x:Nat):List Nat:=(List.range n).filter (w4 ams x)
def lM(x:Nat)(l:List Nat):Nat:=l.foldl (λx i=>x |||(1 <<< i)) x
def oD(ops:Array Oper)(n m:Nat)(ams frs:List Nat):List (Nat×Kd)->Nat->List Nat->Bool
  |[],x,pend=>pend.isEmpty&&(pF ams n x).isEmpty
  |(i,.q)::r,x,pend=>decide (i<m)&&decide (i<n)&&w4 ams x i&&((frs.getD i 0 |||x)&&&(1 <<< n-1)==1 <<< n-1)&&!pend.contains i&&
     ((List.range n).all λk=>decide (k<m)||(ams.getD k 0).testBit i||zEG ops k i)&&oD ops n m ams frs r (x |||(1 <<< i)) pend
  |(i,.a)::r,x,pend=>pend.contains i&&(pF ams n (lM x (pend.filter (· != i)))==[i])&&oD ops n m ams frs r (x |||(1 <<< i)) (pend.filter (· != i))
  |(i,.c)::r,x,pend=>decide (i<m)&&!pend.contains i&&(pF ams n (lM x pend)==[i])&&oD ops n m ams frs r (x |||(1 <<< i)) pend
  |(i,.b j)::r,x,pend=>decide (i<m)&&decide (j<m)&&!pend.contains i&&!pend.contains j&&decide (i≠j)&&(pF ams n (lM x pend)==[i,j])&&
     (pF ams n (lM (x |||(1 <<< i)) pend)==[j])&&(pF ams n (lM (x |||(1 <<< j)) pend)==[i])&&oD ops n m ams frs r ((x |||(1 <<< i)) |||(1 <<< j)) pend
  |(i,.t)::r,x,pend=>pend.isEmpty&&(r.all λy=>match y.2 with| .t=>true|_=>false)&&decide (m<=i)&&(pF ams n x==[i])&&oD ops n m ams frs r (x |||(1 <<< i)) []
  |(i,.p)::r,x,pend=>decide (i<m)&&decide (i<n)&&w4 ams x i&&((frs.getD i 0 |||x)&&&(1 <<< n-1)==1 <<< n-1)&&!pend.contains i&&oD ops n m ams frs r (x |||(1 <<< i)) pend
  |(i,.d i2 j)::r,x,pend=>(decide (i<m)&&decide (i2<m)&&decide (j<m)&&!pend.contains i&&!pend.contains i2&&!pend.contains j)&&(decide (i≠i2)&&decide (i≠j)&&decide (i2≠j))&&
     (pF ams n (lM x pend)==[i,j])&&(pF ams n (lM (x |||(1 <<< i)) pend)==[i2,j])&&(pF ams n (lM (x |||(1 <<< j)) pend)==[i])&&
     (pF ams n (lM ((x |||(1 <<< i)) |||(1 <<< i2)) pend)==[j])&&(pF ams n (lM ((x |||(1 <<< i)) |||(1 <<< j)) pend)==[i2])&&
     oD ops n m ams frs r (((x |||(1 <<< i)) |||(1 <<< i2)) |||(1 <<< j)) pend
  |(_,.m _ _)::_,_,_=>false
  |(_,.x _ _ _)::_,_,_=>false
section
variable {ops:Array Oper}{ams frs:List Nat}
def j9(ops:Array Oper)(b:Array Bool)(x:Nat):Prop:=b.size=ops.size/\∀i,i<ops.size->b[i]?=some (x.testBit i)
theorem j9.getF{b:Array Bool}{x:Nat}(h:j9 ops b x){i:Nat}(hi:i<ops.size)(d:Bool):b.getD i d=x.testBit i:=by
 rw[zie,h.2 i hi];rfl
theorem j9.set{b:Array Bool}{x:Nat}(h:j9 ops b x)(i:Nat):j9 ops (b.setIfInBounds i true) (x |||(1 <<< i)):=by
 refine⟨by simpa using h.1,λk hk=>?_⟩;rw[yye,iQ,z2i]
 by_cases e:i=k
 · subst e
   have:i<b.size:=by rw[h.1];exact hk
   simp[this]
 · rw[zae e,h.2 k hk]
   simp[Ne.symm e]
theorem j9.setAll{b:Array Bool}{x:Nat}(h:j9 ops b x):∀(l:List Nat),j9 ops (setAll b l) (lM x l):=by
 intro l
 induction l generalizing b x with
 |nil=>exact h
 |cons i l ih=>exact ih (h.set i)
theorem j9.start:j9 ops (Array.replicate ops.size false) 0:=⟨zo3,λi hi=>by simp[hi]⟩
def iH(ops:Array Oper)(ams frs:List Nat):Bool:=(ops.toList.map zCX==ams)&&((List.range ops.size).map (zPL ops ams)==frs)
theorem zQM(h:iH ops ams frs=true){i:Nat}(hi:i<ops.size):ams.getD i 0=zCX (ops.getD i default):=by
 simp only[iH,zbu,beq_iff_eq] at h;rw[<-h.1,zoa,zvi,Array.getElem?_toList,zie];simp[hi]
theorem yJC(h:iH ops ams frs=true){i:Nat}(hi:i<ops.size):frs.getD i 0=zPL ops ams i:=by
 simp only[iH,zbu,beq_iff_eq] at h;rw[<-h.2,zoa,zvi];simp[hi]
theorem yHD(hl:∀o∈ops,∀e∈o.after,e.on<ops.size){i:Nat}(hi:i<ops.size){e:Edge}(he:e∈(ops.getD i default).after):e.on<ops.size:=by
 refine hl _ ?_ e he;rw[zie,Array.getElem?_eq_getElem hi];exact Array.getElem_mem hi
theorem zQV(ht:iH ops ams frs=true)(hl:∀o∈ops,∀e∈o.after,e.on<ops.size){b:Array Bool}{x i:Nat}(hs:j9 ops b x)(hi:i<ops.size):
 w4 ams x i=(!b.getD i true&&((ops[i]?).map (·.after.all λe=>!Region.binds .any e||b.getD e.on false)).getD false):=by
 unfold w4;rw[hs.getF hi,zQM ht hi]
 congr 1
 have H:ops[i]?=some (ops.getD i default):=mW hi;rw[H];simp only[yoe,Option.getD_some];rw[yeu,beq_iff_eq,yui];constructor
 · intro h e C
   by_cases D:Region.binds .any e=true
   · have h1:=(eZ (ops.getD i default) e.on).2 ⟨e,C,D,I⟩
     rw[<-h,Nat.testBit_and,zbu] at h1;rw[hs.getF (yHD hl hi C),h1.2];simp
   · simp[D]
 · intro h
   apply Nat.eq_of_testBit_eq
   intro k;rw[Nat.testBit_and]
   by_cases hk:(zCX (ops.getD i default)).testBit k=true
   · obtain⟨e,C,D,rfl⟩:=(eZ _ _).1 hk
     have h1:=h e C;rw[D,hs.getF (yHD hl hi C)] at h1;simp at h1;rw[hk,h1];rfl
   · have:(zCX (ops.getD i default)).testBit k=false:=by simpa using hk
     rw[this];rfl
theorem gD(ht:iH ops ams frs=true)(hl:∀o∈ops,∀e∈o.after,e.on<ops.size){b:Array Bool}{x:Nat}(hs:j9 ops b x):Region.ready .any ops b=pF ams ops.size x:=by
 unfold Region.ready pF
 apply List.filter_congr
 intro i hi;exact(zQV ht hl hs (zog.1 hi)).symm
theorem iY(ht:iH ops ams frs=true)(hl:∀o∈ops,∀e∈o.after,e.on<ops.size){b:Array Bool}{x i:Nat}(hs:j9 ops b x)(hi:i<ops.size)(h:w4 ams x i=true):(Region.ready .any ops b).contains i=true:=by
 rw[gD ht hl hs];unfold pF;simp[hi,h]
theorem zWV{y n k:Nat}(h:y&&&(1 <<< n-1)=1 <<< n-1)(hk:k<n):y.testBit k=true:=by
 have h1:(1 <<< n-1).testBit k=true:=by rw[Nat.one_shiftLeft,Nat.testBit_two_pow_sub_one];simpa using hk
 rw[<-h,Nat.testBit_and,zbu] at h1;exact h1.1
theorem zUA(ht:iH ops ams frs=true){b:Array Bool}{x i:Nat}(hs:j9 ops b x)(hi:i<ops.size)(h:(frs.getD i 0 |||x)&&&(1 <<< ops.size-1)=1 <<< ops.size-1):Region.free .any ops b i=true:=by
 unfold Region.free;rw[mW hi];simp only[zob,zog];intro j C;have h1:=zWV h C;rw[yye,zxe,yJC ht hi] at h1;rw[mW C,hs.getF C];simp only[zxe,beq_iff_eq]
 rcases h1 with h1|h1
 · obtain⟨_,h2|h2|h2⟩:=zSN _ _ _ _ h1
   · exact .inl (.inl h2)
   · rw[zQM ht C] at h2
     obtain⟨e,H,J,D⟩:=(eZ _ _).1 h2;refine .inr (.inl ?_);rw[ypu];exact⟨e,H,by simp[J,D]⟩
   · exact .inr (.inr h2)
 · exact .inl (.inr h1)
theorem zXU(ht:iH ops ams frs=true){k i:Nat}(hk:k<ops.size)(h:(ams.getD k 0).testBit i=true):zEG ops k i=true:=by
 rw[zQM ht hk] at h;obtain⟨e,D,H,C⟩:=(eZ _ _).1 h;unfold zEG;rw[ypu];refine⟨e,D,?_⟩;rw[H,C];simp[zCZ]
theorem nS(ht:iH ops ams frs=true)(hl:∀o∈ops,∀e∈o.after,e.on<ops.size){m:Nat}:∀(ord:List (Nat×Kd)) (b:Array Bool) (x:Nat) (pend:List Nat),j9 ops b x->oD ops ops.size m ams frs ord x pend=true->chk ops m ord b pend=true
  |[],b,x,pend,hs,h=>by
   simp only[oD,zbu] at h;simp only[chk,zbu,gD ht hl hs];exact h
  |(i,.q)::r,b,x,pend,hs,h=>by
   simp only[oD,zbu,beq_iff_eq,zhi] at h;obtain⟨⟨⟨⟨⟨⟨h1,h2⟩,h3⟩,h4⟩,h5⟩,h6⟩,h7⟩:=h;simp only[chk,zbu,zhi];refine⟨⟨⟨⟨⟨h1,iY ht hl hs h2 h3⟩,zUA ht hs h2 h4⟩,h5⟩,?_⟩,nS ht hl r _ _ _ (hs.set i) h7⟩;rw[zob] at h6 ⊢;intro k hk;have:=h6 k hk;simp only[zxe] at this ⊢
   rcases this with(h8|h8)|h8
   · exact .inl h8
   · exact .inr (zXU ht (zog.1 hk) h8)
   · exact .inr h8
  |(i,.a)::r,b,x,pend,hs,h=>by
   simp only[oD,zbu] at h;obtain⟨⟨h1,h2⟩,h3⟩:=h;simp only[chk,zbu,gD ht hl (hs.setAll _)];exact⟨⟨h1,h2⟩,nS ht hl r _ _ _ (hs.set i) h3⟩
  |(i,.c)::r,b,x,pend,hs,h=>by
   simp only[oD,zbu] at h;obtain⟨⟨⟨h1,h2⟩,h3⟩,h4⟩:=h;simp only[chk,zbu,gD ht hl (hs.setAll _)];exact⟨⟨⟨h1,h2⟩,h3⟩,nS ht hl r _ _ _ (hs.set i) h4⟩
  |(i,.b j)::r,b,x,pend,hs,h=>by
   simp only[oD,zbu] at h;obtain⟨⟨⟨⟨⟨⟨⟨⟨h1,h2⟩,h3⟩,h4⟩,h5⟩,h6⟩,h7⟩,h8⟩,h9⟩:=h;simp only[chk,zbu,gD ht hl (hs.setAll _),gD ht hl ((hs.set i).setAll _),gD ht hl ((hs.set j).setAll _)];exact⟨⟨⟨⟨⟨⟨⟨⟨h1,h2⟩,h3⟩,h4⟩,h5⟩,h6⟩,h7⟩,h8⟩,nS ht hl r _ _ _ ((hs.set i).set j) h9⟩
  |(i,.t)::r,b,x,pend,hs,h=>by
   simp only[oD,zbu] at h;obtain⟨⟨⟨⟨h1,h2⟩,h3⟩,h4⟩,h5⟩:=h;simp only[chk,zbu,gD ht hl hs];exact⟨⟨⟨⟨h1,h2⟩,h3⟩,h4⟩,nS ht hl r _ _ _ (hs.set i) h5⟩
  |(i,.p)::r,b,x,pend,hs,h=>by
   simp only[oD,zbu,beq_iff_eq,zhi] at h;obtain⟨⟨⟨⟨⟨h1,h2⟩,h3⟩,h4⟩,h5⟩,h7⟩:=h;simp only[chk,zbu,zhi];exact⟨⟨⟨⟨h1,iY ht hl hs h2 h3⟩,zUA ht hs h2 h4⟩,h5⟩,nS ht hl r _ _ _ (hs.set i) h7⟩
  |(i,.d i2 j)::r,b,x,pend,hs,h=>by
   simp only[oD,zbu] at h;obtain⟨⟨⟨⟨⟨⟨⟨h1,h2⟩,h3⟩,h4⟩,h5⟩,h6⟩,h7⟩,h8⟩:=h;simp only[chk,zbu,gD ht hl (hs.setAll _),gD ht hl ((hs.set i).setAll _),gD ht hl ((hs.set j).setAll _),gD ht hl (((hs.set i).set i2).setAll _),gD ht hl (((hs.set i).set j).setAll _)];exact⟨⟨⟨⟨⟨⟨⟨h1,h2⟩,h3⟩,h4⟩,h5⟩,h6⟩,h7⟩,nS ht hl r _ _ _ (((hs.set i).set i2).set j) h8⟩
  |(_,.m _ _)::_,_,_,_,_,h=>by simp[oD] at h
  |(_,.x _ _ _)::_,_,_,_,_,h=>by simp[oD] at h
def zSR(l:List Oper)(m:Nat)(ams frs:List Nat)(al:Als)(ord:List (Nat×Kd)):Bool:=
 Region.noSelect l.toArray&&cX l.toArray al&&(al.all λx=>decide (x.1<m))&&(l.all λo=>o.after.all λe=>decide (e.on<l.length))&&iH l.toArray ams frs&&oD l.toArray l.length m ams frs ord 0 (al.map (·.1))
theorem yLX{l:List Oper}{m:Nat}{al:Als}{ord:List (Nat×Kd)}(ams frs:List Nat)(h:zSR l m ams frs al ord=true):
 (Region.noSelect l.toArray&&cX l.toArray al&&(al.all λx=>decide (x.1<m))&&chk l.toArray m ord (Array.replicate l.length false) (al.map (·.1)))=true:=by
 simp only[zSR,zbu] at h;obtain⟨⟨⟨⟨⟨h1,h2⟩,h3⟩,O⟩,M⟩,J⟩:=h;simp only[zbu];refine⟨⟨⟨h1,h2⟩,h3⟩,?_⟩;have D:∀o∈l.toArray,∀e∈o.after,e.on<l.toArray.size:=by
  intro o C e H;have:=zob.1 O o (by simpa using C);have:=yui.1 this e H
  simpa using this
 exact nS M D ord _ 0 _ j9.start J
end
end Bk
namespace Go.Proofs.YtpkaegemlpaenaaGreat
open Bk Go Tryz
theorem ty3:TyOk prog 3 1 false:=⟨sizeOf3,isAgg3⟩
theorem ty4:TyOk prog 4 1 false:=⟨sizeOf4,isAgg4⟩
theorem ty9:TyOk prog 9 1 false:=⟨sizeOf9,isAgg9⟩
theorem fL:TyOk prog 22 1 false:=⟨sizeOf22,isAgg22⟩
theorem yC:TyOk prog 29 3 true:=⟨sizeOf29,isAgg29⟩
theorem zK:TyOk prog 31 9 true:=⟨sizeOf31,isAgg31⟩
theorem uQ:TyOk prog 35 1 false:=⟨sizeOf35,isAgg35⟩
theorem fN:TyOk prog 36 1 false:=⟨sizeOf36,isAgg36⟩
theorem yIM:TyOk prog 37 1 false:=⟨sizeOf37,isAgg37⟩
theorem jP:TyOk prog 39 3 true:=⟨sizeOf39,isAgg39⟩
theorem lW:TyOk prog 50 12 true:=⟨sizeOf50,isAgg50⟩
theorem cC:TyOk prog 51 1 false:=⟨sizeOf51,isAgg51⟩
theorem bE:TyOk prog 53 14 true:=⟨sizeOf53,isAgg53⟩
theorem yMS:TyOk prog 56 27 true:=⟨sizeOf56,isAgg56⟩
theorem zE2:TyOk prog 58 36 true:=⟨sizeOf58,isAgg58⟩
theorem yIL:TyOk prog 76 1 false:=⟨sizeOf76,isAgg76⟩
theorem yIK:TyOk prog 96 1 false:=⟨sizeOf96,isAgg96⟩
theorem yMR:TyOk prog 97 1 false:=⟨sizeOf97,isAgg97⟩
theorem zU8:TyOk prog 99 2 true:=⟨sizeOf99,isAgg99⟩
theorem yG5:TyOk prog 118 2 true:=⟨sizeOf118,isAgg118⟩
theorem zF2:TyOk prog 140 15 true:=⟨sizeOf140,isAgg140⟩
theorem yG4:TyOk prog 151 18 true:=⟨sizeOf151,isAgg151⟩
theorem zS5:TyOk prog 153 19 true:=⟨sizeOf153,isAgg153⟩
theorem t8:TyOk prog 168 5 true:=⟨sizeOf168,isAgg168⟩
theorem yMT:TyOk prog 200 5 true:=⟨sizeOf200,isAgg200⟩
end Go.Proofs.YtpkaegemlpaenaaGreat
namespace Bk
open Go Go.RowKit
section
variable {P:Program}{n:Nat}{w0:World}{h0:Mem}{e:List (Nat×Value)}{h:Mem}{ds:Option Tmp}{ty:TypeId}{ps:String}{af:Array Edge}{gd:Option (Nat×Bool)}{α:Type}
theorem zQ8{ρ:Rp α}{xs:List α}{v:Value}{t E:TypeId}{x lo:Operand}{p:Int}(i:Nat)(ht:P.underlying t=some (.slice E))(hsz:∀w,(Go.sizeOf E).run P w=.ok ρ.n w)(hx:zH e x=some v)(hl:zH e lo=some (vI p))(r:(rpS ρ).Is h v xs)
    (hp:p=(i:Int))(hi:i<=xs.length):OpX P n w0 h0 ⟨ds,.slice t x (some lo) none none,ty,ps,af,gd⟩ e [] h (λu=>(rpS ρ).Is h u (xs.drop i)):=by
 obtain⟨cs,s,D⟩:=zWB r;refine zZY (λL' h'=>jI i ht hsz hx hl s.shape hp hi) ?_;have hs:=s.sub hi (zbe _);have C:=D.len;rw[zvu (by rw[ziu,C,<-yzi];exact zbe _)] at hs;exact yF5 (by rw[ziu];exact hs) (D.drop i)
end
def ByB(bs:List Nat):Prop:=∀x∈bs,x<256
theorem ByB.nil:ByB []:=λx hx=>by cases hx
theorem ByB.app{a b:List Nat}(ha:ByB a)(hb:ByB b):ByB (a++b):=λx hx=>(zmu.1 hx).elim (ha x) (hb x)
theorem zUU(n:Nat):ByB (txt n):=yIN n
theorem zK2(a b:List Nat):qR a++qR b=qR (a++b):=by
 apply ByteArray.ext
 simp[qR]
theorem zJL{a b:List Nat}(ha:ByB a)(hb:ByB b):qR a=qR b↔a=b:=
 ⟨λh=>by rw[<-zKO ha,<-zKO hb,h],λh=>by rw[h]⟩
section
variable {P:Program}{n:Nat}{w0:World}{h0:Mem}{e:List (Nat×Value)}{L:List Res}{h:Mem}
variable {ds:Option Tmp}{ty:TypeId}{ps:String}{af:Array Edge}{gd:Option (Nat×Bool)}
theorem vN{pa pb:List Nat}{t yt:TypeId}{x y:Operand}(hx:zH e x=some (.string (qR pa)))(hy:zH e y=some (.string (qR pb)))(hlen:pa.length+pb.length<=9223372036854775807):
 OpV P n w0 h0 ⟨ds,.binOp .add t x y yt,ty,ps,af,gd⟩ e L h (.string (qR (pa++pb))):=by
 intro a w C S;have h1:=Us.str_size (xs:=pa);have h2:=Us.str_size (xs:=pb);have h3:¬(((qR pa).size+(qR pb).size:Nat):Int)>IntKind.i64.max:=by
  have:IntKind.i64.max=9223372036854775807:=I;rw[this];omega
 have D:(Op.stringOp .add (qR pa) (qR pb)).run P w=.ok (.string (qR (pa++pb))) w:=by
  simp only[Op.stringOp];rw[zae h3,zK2]
  rfl
 simp only[execOp,C.eval hx,C.eval hy];simp[eqGuard,binOp,D]
theorem mU{pa pb:List Nat}{t yt:TypeId}{x y:Operand}(ha:ByB pa)(hb:ByB pb)(hx:zH e x=some (.string (qR pa)))(hy:zH e y=some (.string (qR pb))):OpV P n w0 h0 ⟨ds,.binOp .eql t x y yt,ty,ps,af,gd⟩ e L h (vB (pa=pb)):=by
 have:=zRF (P:=P) (n:=n) (w0:=w0) (h0:=h0) (L:=L) (h:=h) (ds:=ds) (ty:=ty) (ps:=ps) (af:=af) (gd:=gd) (t:=t) (yt:=yt) hx hy;rw[kS (zJL ha hb)] at this;exact this
theorem zZ0{pa pb:List Nat}{t yt:TypeId}{x y:Operand}(ha:ByB pa)(hb:ByB pb)(hx:zH e x=some (.string (qR pa)))(hy:zH e y=some (.string (qR pb))):OpV P n w0 h0 ⟨ds,.binOp .neq t x y yt,ty,ps,af,gd⟩ e L h (vB (pa≠pb)):=by
 have h1:((qR pa).toList==(qR pb).toList)=@decide (qR pa=qR pb) (Classical.propDecidable _):=by
  rw[yeu];simp only[beq_iff_eq,zhi];exact⟨λhh=>by
   have h2:(qR pa).data.toList=(qR pb).data.toList:=by
    rwa [ByteArray.toList_eq,ByteArray.toList_eq] at hh
   exact ByteArray.ext (Array.toList_inj.1 h2),λhh=>by rw[hh]⟩
 rw[<-kS (not_congr (zJL ha hb))];intro a w C S;simp only[execOp,C.eval hx,C.eval hy,binOp,vB];simp[eqGuard,Op.stringOp,h1]
end
end Bk
namespace Bk
open Go Go.RowKit
open Classical
def qS(q:Rat):List Nat:=(if q.num<0 then[45] else[])++txt q.num.natAbs++(if vC q.den=0 then[] else[47]++txt (vC q.den))
theorem yDB(q:Rat):ByB (qS q):=by
 unfold qS;refine ByB.app (ByB.app ?_ (zUU _)) ?_
 · split
   · unfold ByB;decide
   · exact ByB.nil
 · split
   · exact ByB.nil
   · exact ByB.app (by unfold ByB;decide) (zUU _)
theorem zA7(q:Rat):(qS q).length<=20*lq q+4:=by
 unfold qS;have h1:=zA6 q.num.natAbs;have h2:=zA6 (vC q.den);have h3:=uG q;have C:=vS q;have J:(if q.num<0 then[45] else([]:List Nat)).length<=1:=by split<;>simp
 have H:(if vC q.den=0 then[] else[47]++txt (vC q.den)).length<=1+(txt (vC q.den)).length:=by split<;>simp<;>omega
 rw[lAz,lAz];have D:(zB (vC q.den)).length<=lq q:=C;omega
theorem bQ{q:Rat}:(0:Int)<↑(zB (vC q.den)).length↔¬vC q.den=0:=by
 have:=yP (n:=vC q.den);omega
theorem yEI{q:Rat}(h1:q.num<0)(h2:¬(0:Int)<↑(zB (vC q.den)).length):[45]++txt q.num.natAbs=qS q:=by
 unfold qS;rw[zau h1,zau (zdi λe=>h2 (bQ.2 e)),zqi]
theorem yIO{q:Rat}(h1:q.num<0)(h2:(0:Int)<↑(zB (vC q.den)).length):[45]++txt q.num.natAbs++([47]++txt (vC q.den))=qS q:=by
 unfold qS;rw[zau h1,zae (bQ.1 h2)]
theorem yEK{q:Rat}(h1:¬q.num<0)(h2:¬(0:Int)<↑(zB (vC q.den)).length):txt q.num.natAbs=qS q:=by
 unfold qS;rw[zae h1,zau (zdi λe=>h2 (bQ.2 e)),zqi,zhe]
theorem yEJ{q:Rat}(h1:¬q.num<0)(h2:(0:Int)<↑(zB (vC q.den)).length):txt q.num.natAbs++([47]++txt (vC q.den))=qS q:=by
 unfold qS;rw[zae h1,zae (bQ.1 h2),zhe]
theorem yEH{n:Nat}(h0:n≠0)(h:n<10):txt n=[48+n]:=by
 unfold txt;rw[zae h0,zPZ h0,show n/10=0 by omega,zKN,zoh h];rfl
theorem rW(q:Rat):yQ q=if q=0 then 0 else if q<0 then -1 else 1:=by unfold yQ;simp only[pY]
theorem zKM(a b:Rat):xZ a b= -xZ b a:=by unfold xZ;grind
theorem zID(a b:Rat):xZ a b=yQ (a-b):=by rw[rW];unfold xZ;grind
theorem zDQ(a b:Rat):a<b\/a=b\/b<a:=by grind
theorem yC7(a b c:Rat):xZ (a*c) (b*c)=xZ a b*yQ c:=by
 rw[rW]
 by_cases h0:c=0
 · subst h0
   have:xZ (a*0) (b*0)=0:=aV.2 zo0;rw[this,zau I,Int.mul_zero]
 · rw[zae h0]
   by_cases hc:c<0
   · rw[zau hc]
     rcases zDQ a b with h|h|h
     · have h1:b*c<a*c:=by
        have:=zsu h (c:=-c) zo0;grind
       unfold xZ;grind
     · subst h;unfold xZ;simp
     · have h1:a*c<b*c:=by
        have:=zsu h (c:=-c) zo0;grind
       unfold xZ;grind
   · rw[zae hc]
     have C:0<c:=by grind
     rcases zDQ a b with h|h|h
     · have h1:=zsu h C
       unfold xZ;grind
     · subst h;unfold xZ;simp
     · have h1:=zsu h C
       unfold xZ;grind
theorem w7{x y:Int}(hx:-1<=x/\x<=1)(hy:-1<=y/\y<=1):-1<=x*y/\x*y<=1:=by
 have:x= -1\/x=0\/x=1:=by omega
 rcases this with h|h|h<;>subst h<;>omega
theorem kA{a b:Rat}:xZ a b<=0↔a<=b:=by
 have h:=zIE (a:=a) (b:=b);constructor
 · intro h1
   refine Rat.not_lt.1 λe=>?_;have:=h.2 e;omega
 · intro h1
   have:¬0<xZ a b:=λe=>Rat.not_lt.2 h1 (h.1 e);omega
theorem zSG(a b:Rat):a<=b\/b<=a:=by grind
theorem zOZ{a b c:Rat}(h:a<=b)(hc:0<=c):a*c<=b*c:=zze h hc
theorem zC6(x:Rat):0<=x*x:=by
 rcases zSG 0 x with h|h
 · have:=zOZ h h;grind
 · have:=zOZ (a:=0) (b:=-x) (c:=-x) zo0 zo0;grind
theorem zVI(n:Nat):∃m,m*m<=n/\n<(m+1)*(m+1):=by
 induction n with
 |zero=>exact⟨0,zox,zox⟩
 |succ n ih=>
  obtain⟨m,h1,h2⟩:=ih
  by_cases h:(m+1)*(m+1)<=n+1
  · refine⟨m+1,h,?_⟩
    have:(m+1)*(m+1)<(m+1+1)*(m+1+1):=Nat.mul_self_lt_mul_self zot;omega
  · exact⟨m,zot,zot⟩
def sqN(n:Nat):Nat:=Classical.choose (zVI n)
theorem yNF{h:Mem}{cs:List Value}{a b:Rat}{k l:Nat}(r:(rpQ k).R h cs a)(e:a=b)(hl:lq b<=l):(rpQ l).R h cs b:=by
 subst e;exact⟨r.1,hl⟩
def ovQ(a K:Nat):Rat:=(a:Rat)/((2^K:Nat):Rat)
def flN(q:Rat)(K:Nat):Nat:=q.num.natAbs*2^K*2^K/q.den
def zNY(q:Rat)(k:Int):Rat:=ovQ (sqN (flN q (kN k))) (kN k)
theorem zHS{x y c:Rat}(hc:0<c):x<=y↔x*c<=y*c:=by
 constructor
 · intro h;exact zze h zo0
 · intro h
   refine Rat.not_lt.1 λe=>?_;have:=zsu e hc;grind
def rtHi(h:Rat)(k:Int):Rat:=if h<0 then 0 else if zNY h k*zNY h k<h then zNY h k+ovQ 1 (kN k) else zNY h k
theorem oK{q:Rat}:0<yQ q↔0<q:=by
 rw[rW]
 by_cases h0:q=0
 · rw[zau h0,h0]
   constructor
   · intro h;omega
   · intro h;exact absurd h (y1i)
 · rw[zae h0]
   by_cases h1:q<0
   · rw[zau h1]
     constructor
     · intro h;omega
     · intro h;grind
   · rw[zae h1]
     constructor
     · intro h;grind
     · intro h;omega
theorem qW{q:Rat}:yQ q<0↔q<0:=by
 rw[rW]
 by_cases h0:q=0
 · rw[zau h0,h0]
   constructor
   · intro h;omega
   · intro h;exact absurd h (y1i)
 · rw[zae h0]
   by_cases h1:q<0
   · rw[zau h1];simp[h1]
   · rw[zae h1]
     constructor
     · intro h;omega
     · intro h;grind
abbrev Pt:=T3 Rat
abbrev P2:=Rat×Rat
def pr(p:Pt)(i j:Nat):P2:=(p.at i,p.at j)
theorem zLE{c:Prop} [Decidable c](a b:Pt)(i j:Nat):pr (if c then a else b) i j=if c then pr a i j else pr b i j:=by split<;>rfl
def cr(u v w:P2):Rat:=(v.1-u.1)*(w.2-u.2)-(v.2-u.2)*(w.1-u.1)
def orZ(u v w:P2):Int:=yQ (cr u v w)
def kR(a b x:Rat):Prop:=(a<=x/\x<=b)\/(x<=a/\b<=x)
def onS(u v p:P2):Prop:=kR u.1 v.1 p.1/\kR u.2 v.2 p.2/\cr u v p=0
def kK(a b c d:Rat):Prop:=(a<c/\a<d/\b<c/\b<d)\/(c<a/\d<a/\c<b/\d<b)
def lx(u v:P2):Prop:=u.1<v.1\/(u.1=v.1/\u.2<v.2)
def lo2(u v:P2):P2:=if lx v u then v else u
def hi2(u v:P2):P2:=if lx v u then u else v
def iA(a b c d:P2):Int:=
 if lx (if lx d b then d else b) (if lx a c then c else a) then 0 else if lx (if lx a c then c else a) (if lx d b then d else b) then 3
 else if((if lx a c then c else a)=a\/(if lx a c then c else a)=b)/\((if lx a c then c else a)=c\/(if lx a c then c else a)=d) then 1 else 2
def lP(a b c d:P2):Int:=iA (lo2 a b) (hi2 a b) (lo2 c d) (hi2 c d)
def tE(a b c d:P2):Int:=
 if kK a.1 b.1 c.1 d.1\/kK a.2 b.2 c.2 d.2 then 0
 else if orZ a b c=0/\orZ a b d=0/\orZ c d a=0/\orZ c d b=0 then lP a b c d
 else if 0<orZ a b c*orZ a b d\/0<orZ c d a*orZ c d b then 0
 else if(orZ a b c=0\/orZ a b d=0)/\(orZ c d a=0\/orZ c d b=0) then 1 else 2
def zEU(a b c d:P2):Int:=
 if lx (if lx d b then d else b) (if lx a c then c else a) then 0 else if(if lx a c then c else a)≠(if lx d b then d else b) then 3
 else if((if lx a c then c else a)=a\/(if lx a c then c else a)=b)/\((if lx a c then c else a)=c\/(if lx a c then c else a)=d)/\onS a b (if lx a c then c else a)/\onS c d (if lx a c then c else a) then 1
 else if onS a b (if lx a c then c else a)/\onS c d (if lx a c then c else a) then 2 else 0
def y6(a b c d:P2):Int:=if(a=b/\onS c d a)\/(c=d/\onS a b c) then 2 else 0
def zKX(a b c d:P2):Int:=
 if orZ a b c=0/\orZ a b d=0/\orZ c d a=0/\orZ c d b=0 then zEU a b c d
 else if a=b\/c=d then y6 a b c d
 else if 0<orZ a b c*orZ a b d\/0<orZ c d a*orZ c d b then 0
 else if a=c\/a=d\/b=c\/b=d then 1 else 2
def oJ(a b c d:P2):Int:=zKX (lo2 a b) (hi2 a b) (lo2 c d) (hi2 c d)
def cr2(ax ay bx by' cx cy:Rat):Rat:=(bx-ax)*(cy-ay)-(by'-ay)*(cx-ax)
theorem zLG{D e u v:Rat}(hD:0<D)(h0:0<=e)(h1:e<=D)(h:D*u=v*e):(0<=v->0<=u/\u<=v)/\(v<=0->v<=u/\u<=0):=by
 constructor
 · intro H
   constructor
   · refine Rat.not_lt.1 λC=>?_
     have h2:=zsu C hD;have h3:=zod H h0;grind
   · refine Rat.not_lt.1 λC=>?_
     have h2:=zsu C hD;have h3:=zze h1 H;grind
 · intro H
   constructor
   · refine Rat.not_lt.1 λC=>?_
     have h2:=zsu C hD;have h3:=zze h1 (c:=-v) zo0;grind
   · refine Rat.not_lt.1 λC=>?_
     have h2:=zsu C hD;have h3:=zod (a:=-v) (b:=e) zo0 h0;grind
theorem zPA{a b:Rat}(h:a<=b):a<b\/a=b:=by grind
theorem sT{a b:Rat}(h:a*b=0):a=0\/b=0:=zoe.1 h
def lex(ax ay bx by':Rat):Prop:=ax<bx\/(ax=bx/\ay<by')
theorem zMB{ax ay bx by':Rat}:¬lex bx by' ax ay↔ax<bx\/(ax=bx/\ay<=by'):=by
 unfold lex;grind
theorem zDH{ax ay bx by' px py:Rat}(hs:¬lex bx by' ax ay)(hc:cr2 ax ay bx by' px py=0):
 (¬lex px py ax ay/\¬lex bx by' px py)↔(kR ax bx px/\kR ay by' py):=by
 rw[zMB] at hs;rw[zMB,zMB];unfold cr2 at hc;unfold kR
 rcases hs with hs|⟨hx,hy⟩
 · have M:0<bx-ax:=by grind
   have J:(bx-ax)*(py-ay)=(by'-ay)*(px-ax):=by grind
   constructor
   · rintro⟨h1,h2⟩
     have h3:0<=px-ax:=by grind
     have C:px-ax<=bx-ax:=by grind
     obtain⟨H,D⟩:=zLG M h3 C J;refine⟨.inl ⟨zo0,zo0⟩,?_⟩
     rcases zSG ay by' with h7|h7
     · have:=H zo0;grind
     · have:=D zo0;grind
   · rintro⟨h1,h2⟩
     have h3:ax<=px/\px<=bx:=by grind
     constructor
     · rcases zPA h3.1 with C|C
       · exact .inl C
       · refine .inr ⟨C,?_⟩
         have H:(bx-ax)*(py-ay)=0:=by grind
         rcases sT H with D|D<;>grind
     · rcases zPA h3.2 with C|C
       · exact .inl C
       · refine .inr ⟨C,?_⟩
         have H:(bx-ax)*(py-by')=0:=by grind
         rcases sT H with D|D<;>grind
 · subst hx
   grind
theorem zIL{a b x:Rat}:kR a b x↔kR b a x:=by unfold kR;grind
theorem zPU(ax ay bx by' cx cy:Rat):cr2 bx by' ax ay cx cy= -cr2 ax ay bx by' cx cy:=by unfold cr2;grind
theorem yJ4{ax ay bx by' px py:Rat}:(cr2 ax ay bx by' px py=0/\(if lex bx by' ax ay then ¬lex px py bx by'/\¬lex ax ay px py else ¬lex px py ax ay/\¬lex bx by' px py))↔(kR ax bx px/\kR ay by' py/\cr2 ax ay bx by' px py=0):=by
 by_cases hc:cr2 ax ay bx by' px py=0
 · simp only[hc,true_and,and_true]
   by_cases hl:lex bx by' ax ay
   · rw[zau hl]
     have h1:¬lex ax ay bx by':=by unfold lex at *;grind
     have h2:cr2 bx by' ax ay px py=0:=by rw[zPU,hc];grind
     rw[zDH h1 h2,zIL,zIL (a:=by')]
   · rw[zae hl]
     exact zDH hl hc
 · simp[hc]
theorem zKK{ux uy vx vy wx wy:Rat}(h:ux≠0\/uy≠0)(h1:vx*uy=vy*ux)(h2:wx*uy=wy*ux):vx*wy=vy*wx:=by
 rcases h with h|h
 · have e:ux*(vx*wy-vy*wx)=0:=by grind
   rcases sT e with h3|h3
   · exact absurd h3 h
   · grind
 · have e:uy*(vx*wy-vy*wx)=0:=by grind
   rcases sT e with h3|h3
   · exact absurd h3 h
   · grind
theorem zXD{ax ay bx by' cx cy dx dy:Rat}(hp:cr2 ax ay bx by' cx cy=0)(hr:cr2 cx cy dx dy ax ay=0):
 (ax=cx/\ay=cy)\/(cr2 ax ay bx by' dx dy=0/\cr2 cx cy dx dy bx by'=0):=by
 by_cases h:ax=cx/\ay=cy
 · exact .inl h
 · refine .inr ?_
   have C:cx-ax≠0\/cy-ay≠0:=by grind
   have h1:(bx-ax)*(cy-ay)=(by'-ay)*(cx-ax):=by unfold cr2 at hp;grind
   have h2:(dx-ax)*(cy-ay)=(dy-ay)*(cx-ax):=by unfold cr2 at hr;grind
   have h3:=zKK C h1 h2;unfold cr2;constructor<;>grind
theorem zPS{ax ay bx by' cx cy dx dy:Rat}(hpq:cr2 ax ay bx by' cx cy≠cr2 ax ay bx by' dx dy)(h1:cr2 ax ay bx by' cx cy*cr2 ax ay bx by' dx dy<=0)(h2:cr2 cx cy dx dy ax ay*cr2 cx cy dx dy bx by'<=0)(hrs:cr2 cx cy dx dy ax ay≠cr2 cx cy dx dy bx by'):
 ∃x y,kR ax bx x/\kR ay by' y/\kR cx dx x/\kR cy dy y:=by
 obtain⟨p,O⟩:∃p,p=cr2 ax ay bx by' cx cy:=⟨_,I⟩;obtain⟨q,M⟩:∃q,q=cr2 ax ay bx by' dx dy:=⟨_,I⟩;obtain⟨r,J⟩:∃r,r=cr2 cx cy dx dy ax ay:=⟨_,I⟩;obtain⟨s,es⟩:∃s,s=cr2 cx cy dx dy bx by':=⟨_,I⟩;rw[<-O,<-M] at hpq h1;rw[<-J,<-es] at hrs h2;have hw:∀{u v:Rat},u≠v->u*v<=0->0<=u/(u-v)/\u/(u-v)<=1:=by
  intro u v ab ac;have h3:u-v≠0:=by grind
  have D:0<(u-v)*(u-v):=by
   rcases zDQ (u-v) 0 with h|h|h
   · have:=ydi (a:=-(u-v)) (b:=-(u-v)) zo0 zo0;grind
   · exact absurd h h3
   · exact ydi h h
  have e:u/(u-v)*((u-v)*(u-v))=u*(u-v):=by grind
  have h5:0<=u*u:=zC6 u;have h6:0<=v*v:=zC6 v;constructor
  · rw[zHS D,e];grind
  · rw[zHS D,e];grind
 obtain⟨t1,t2⟩:=hw hpq h1;obtain⟨w1,w2⟩:=hw hrs h2;have H:∀{u v t:Rat},0<=t->t<=1->kR u v (u+t*(v-u)):=by
  intro u v t h3 D;unfold kR
  rcases zSG u v with h5|h5
  · left
    have h6:=zod h3 (show 0<=v-u by grind);have h7:=zze D (show 0<=v-u by grind);constructor<;>grind
  · right
    have h6:=zod h3 (show 0<=u-v by grind);have h7:=zze D (show 0<=u-v by grind);constructor<;>grind
 have C:p-q≠0:=by grind
 have aa:r-s≠0:=by grind
 have zW5:p-q= -(r-s):=by rw[O,M,J,es];unfold cr2;grind
 have ex:cx+p/(p-q)*(dx-cx)=ax+r/(r-s)*(bx-ax):=by
  have e1:(p-q)*(cx+p/(p-q)*(dx-cx))=(p-q)*(ax+r/(r-s)*(bx-ax)):=by
   have e2:(p-q)*(cx+p/(p-q)*(dx-cx))=(p-q)*cx+p*(dx-cx):=by grind
   have Z:(p-q)*(ax+r/(r-s)*(bx-ax))=(p-q)*ax-r*(bx-ax):=by grind
   rw[e2,Z,O,M,J];unfold cr2;grind
  have U:(p-q)*((cx+p/(p-q)*(dx-cx))-(ax+r/(r-s)*(bx-ax)))=0:=by grind
  rcases sT U with h|h
  · exact absurd h C
  · grind
 have ey:cy+p/(p-q)*(dy-cy)=ay+r/(r-s)*(by'-ay):=by
  have e1:(p-q)*(cy+p/(p-q)*(dy-cy))=(p-q)*(ay+r/(r-s)*(by'-ay)):=by
   have e2:(p-q)*(cy+p/(p-q)*(dy-cy))=(p-q)*cy+p*(dy-cy):=by grind
   have Z:(p-q)*(ay+r/(r-s)*(by'-ay))=(p-q)*ay-r*(by'-ay):=by grind
   rw[e2,Z,O,M,J];unfold cr2;grind
  have U:(p-q)*((cy+p/(p-q)*(dy-cy))-(ay+r/(r-s)*(by'-ay)))=0:=by grind
  rcases sT U with h|h
  · exact absurd h C
  · grind
 exact⟨_,_,ex▸H w1 w2,ey▸H w1 w2,H t1 t2,H t1 t2⟩
theorem bR{a b c d x:Rat}(h:kK a b c d)(h1:kR a b x)(h2:kR c d x):False:=by unfold kK kR at *;grind
theorem yHS(u v w:P2):cr u v w=cr2 u.1 u.2 v.1 v.2 w.1 w.2:=rfl
theorem fT{u v w:P2}:orZ u v w=0↔cr u v w=0:=uL
theorem pO{u v:P2}:¬lx v u↔lx u v\/u=v:=by
 unfold lx;rw[Prod.ext_iff];grind
theorem eD(u:P2):¬lx u u:=by unfold lx;grind
theorem bP{u v:P2}(h:lx u v):¬lx v u:=by unfold lx at *;grind
theorem zB6{u v w:P2}(h:lx u v)(k:lx v w):lx u w:=by unfold lx at *;grind
theorem yFF{a b p:P2}:(orZ a b p=0/\(if lx b a then ¬lx p b/\¬lx a p else ¬lx p a/\¬lx b p))↔onS a b p:=by
 rw[fT];exact yJ4
theorem oU{a b p:P2}(hs:¬lx b a)(hc:cr a b p=0):(¬lx p a/\¬lx b p)↔onS a b p:=by
 have:=zDH hs hc;unfold onS;rw[<-and_assoc,and_iff_left hc];exact this
theorem eV(a b c:P2):cr b a c= -cr a b c:=zPU _ _ _ _ _ _
theorem zBT(a b c:P2):orZ b a c= -orZ a b c:=by
 unfold orZ;rw[eV,rW,rW];grind
theorem nR(a c:P2):cr a a c=0:=by unfold cr;grind
theorem zM2(a c:P2):cr a c c=0:=by unfold cr;grind
theorem j0(a c:P2):cr a c a=0:=by unfold cr;grind
theorem zEY{a b c d:Rat}:kK b a c d↔kK a b c d:=by unfold kK;grind
theorem zCW{a b c d:Rat}:kK a b d c↔kK a b c d:=by unfold kK;grind
theorem zO5(a b:P2):lo2 a b=lo2 b a:=by
 unfold lo2
 by_cases h:lx b a
 · rw[zau h,zae (bP h)]
 · rw[zae h]
   rcases pO.1 h with h1|h1
   · rw[zau h1]
   · rw[h1,zae (eD _)]
theorem zPH(a b:P2):hi2 a b=hi2 b a:=by
 unfold hi2
 by_cases h:lx b a
 · rw[zau h,zae (bP h)]
 · rw[zae h]
   rcases pO.1 h with h1|h1
   · rw[zau h1]
   · rw[h1,zae (eD _)]
theorem zEK(a b c d:P2):tE b a c d=tE a b c d:=by
 have e:lP b a c d=lP a b c d:=by unfold lP;rw[zO5 b a,zPH b a]
 unfold tE;rw[e,zEY,zEY (a:=a.2),zBT a b c,zBT a b d];have h1:-orZ a b c*-orZ a b d=orZ a b c*orZ a b d:=by grind
 have h2:orZ c d b*orZ c d a=orZ c d a*orZ c d b:=Int.mul_comm _ _;rw[h1,h2];have h3:(-orZ a b c=0/\-orZ a b d=0/\orZ c d b=0/\orZ c d a=0)↔(orZ a b c=0/\orZ a b d=0/\orZ c d a=0/\orZ c d b=0):=by grind
 have C:((-orZ a b c=0\/-orZ a b d=0)/\(orZ c d b=0\/orZ c d a=0))↔((orZ a b c=0\/orZ a b d=0)/\(orZ c d a=0\/orZ c d b=0)):=by grind
 simp only[h3,C]
theorem zEJ(a b c d:P2):tE a b d c=tE a b c d:=by
 have e:lP a b d c=lP a b c d:=by unfold lP;rw[zO5 d c,zPH d c]
 unfold tE;rw[e,zCW,zCW (a:=a.2),zBT c d a,zBT c d b];have h1:-orZ c d a*-orZ c d b=orZ c d a*orZ c d b:=by grind
 have h2:orZ a b d*orZ a b c=orZ a b c*orZ a b d:=Int.mul_comm _ _;rw[h1,h2];have h3:(orZ a b d=0/\orZ a b c=0/\-orZ c d a=0/\-orZ c d b=0)↔(orZ a b c=0/\orZ a b d=0/\orZ c d a=0/\orZ c d b=0):=by grind
 have C:((orZ a b d=0\/orZ a b c=0)/\(-orZ c d a=0\/-orZ c d b=0))↔((orZ a b c=0\/orZ a b d=0)/\(orZ c d a=0\/orZ c d b=0)):=by grind
 simp only[h3,C]
theorem zKW(a b c d:P2):tE a b c d=tE (lo2 a b) (hi2 a b) (lo2 c d) (hi2 c d):=by
 unfold lo2 hi2
 split
 · split
   · rw[zEK,zEJ]
   · rw[zEK]
 · split
   · rw[zEJ]
   · rfl
theorem zT0(a b:P2):¬lx (hi2 a b) (lo2 a b):=by
 unfold lo2 hi2
 split
 · rename_i h;exact bP h
 · rename_i h;exact h
theorem eF{a b:P2}(h:¬lx b a):lo2 a b=a/\hi2 a b=b:=⟨zae h,zae h⟩
theorem zSD{a b c d:P2}(hab:¬lx b a)(hcd:¬lx d c)(h1:cr a b c=0)(h2:cr a b d=0)(h3:cr c d a=0)(h4:cr c d b=0)(hap:kK a.1 b.1 c.1 d.1\/kK a.2 b.2 c.2 d.2):lx b c\/lx d a:=by
 rcases hap with hap|hap
 · unfold kK at hap
   unfold lx;grind
 · -- the order along the line is that of the second coordinate, or its reverse
   rw[pO] at hab hcd;refine zdu λJ=>?_;have H:¬lx b c:=λe=>J (.inl e);have D:¬lx d a:=λe=>J (.inr e);rw[pO] at H D
   -- c ≤ b and a ≤ d in the order of the line: the segments share a point
   have C:onS a b c\/onS c d a:=by
    by_cases e:lx c a
    · right
      refine(oU (pO.2 hcd) h3).1 ⟨?_,?_⟩
      · exact bP e
      · exact pO.2 D
    · left
      refine(oU (pO.2 hab) h1).1 ⟨e,pO.2 H⟩
   rcases C with⟨_,hb,_⟩|⟨_,hb,_⟩
   · exact bR hap hb (by unfold kR;grind)
   · exact bR hap (x:=a.2) (by unfold kR;grind) hb
theorem yFW{a b c d:P2}(hab:¬lx b a)(hcd:¬lx d c)(h1:cr a b c=0)(h2:cr a b d=0)(h3:cr c d a=0)(h4:cr c d b=0):zEU a b c d=iA a b c d:=by
 unfold zEU iA
 by_cases hh:lx (if lx d b then d else b) (if lx a c then c else a)
 · rw[zau hh,zau hh]
 · rw[zae hh,zae hh]
   by_cases he:(if lx a c then c else a)=(if lx d b then d else b)
   · rw[zae (λe=>e he),zae (show ¬lx (if lx a c then c else a) (if lx d b then d else b) by rw[he];exact eD _)]
     have C:onS a b (if lx a c then c else a)/\onS c d (if lx a c then c else a):=by
      have U:¬lx (if lx a c then c else a) a:=by
       split
       · rename_i h;exact bP h
       · exact eD _
      have O:¬lx (if lx a c then c else a) c:=by
       split
       · exact eD _
       · rename_i h;exact h
      have M:¬lx b (if lx a c then c else a):=by
       rw[he]
       split
       · rename_i h;exact bP h
       · exact eD _
      have J:¬lx d (if lx a c then c else a):=by
       rw[he]
       split
       · exact eD _
       · rename_i h;exact h
      have H:cr a b (if lx a c then c else a)=0:=by
       split
       · exact h1
       · exact j0 a b
      have D:cr c d (if lx a c then c else a)=0:=by
       split
       · exact j0 c d
       · exact h3
      exact⟨(oU hab H).1 ⟨U,M⟩,(oU hcd D).1 ⟨O,J⟩⟩
     by_cases hx:((if lx a c then c else a)=a\/(if lx a c then c else a)=b)/\((if lx a c then c else a)=c\/(if lx a c then c else a)=d)
     · rw[zau ⟨hx.1,hx.2,C⟩,zau hx]
     · rw[zae (λe=>hx ⟨e.1,e.2.1⟩),zau C,zae hx]
   · rw[zau he,zau ((pO.1 hh).resolve_right he)]
theorem zNM{x y:Rat}:0<yQ x*yQ y↔0<x*y:=by
 have h1:=rW x;have h2:=rW y
 rcases zDQ x 0 with hx|hx|hx<;>rcases zDQ y 0 with hy|hy|hy
 · have:=ydi (a:=-x) (b:=-y) zo0 zo0
   have D:yQ x= -1:=by grind
   have C:yQ y= -1:=by grind
   rw[D,C];grind
 · subst hy;have e:x*0=0:=by grind
   have C:yQ 0=0:=by grind
   rw[e,C];simp
 · have:=ydi (a:=-x) (b:=y) zo0 hy
   have D:yQ x= -1:=by grind
   have C:yQ y=1:=by grind
   rw[D,C];grind
 · subst hx;have e:0*y=0:=by grind
   have C:yQ 0=0:=by grind
   rw[e,C];simp
 · subst hx;have e:0*y=0:=by grind
   have C:yQ 0=0:=by grind
   rw[e,C];simp
 · subst hx;have e:0*y=0:=by grind
   have C:yQ 0=0:=by grind
   rw[e,C];simp
 · have:=ydi (a:=x) (b:=-y) hx zo0
   have D:yQ x=1:=by grind
   have C:yQ y= -1:=by grind
   rw[D,C];grind
 · subst hy;have e:x*0=0:=by grind
   have C:yQ 0=0:=by grind
   rw[e,C];simp
 · have:=ydi hx hy
   have D:yQ x=1:=by grind
   have C:yQ y=1:=by grind
   rw[D,C];grind
theorem oS{a b c d e f:P2}:0<orZ a b c*orZ d e f↔0<cr a b c*cr d e f:=zNM
theorem zUH{a b c d:P2}(hn:¬(cr a b c=0/\cr a b d=0/\cr c d a=0/\cr c d b=0)):((cr a b c=0\/cr a b d=0)/\(cr c d a=0\/cr c d b=0))↔(a=c\/a=d\/b=c\/b=d):=by
 have D:∀u v w:P2,cr u v w= -cr v u w:=λu v w=>eV v u w;constructor
 · rintro⟨h1,h2⟩
   -- one end of each
   have C:∀{p q r s:P2},cr p q r=0->cr r s p=0->p=r\/(cr p q s=0/\cr r s q=0):=by
    intro p q r s J H
    rcases zXD J H with h|h
    · exact .inl (Prod.ext h.1 h.2)
    · exact .inr h
   rcases h1 with h1|h1<;>rcases h2 with h2|h2
   · rcases C h1 h2 with h|h
     · exact .inl h
     · exact absurd ⟨h1,h.1,h2,h.2⟩ hn
   · rcases C (p:=b) (q:=a) (r:=c) (s:=d) (by rw[eV,h1];grind) h2 with h|h
     · exact .inr (.inr (.inl h))
     · exact absurd ⟨h1,by rw[D,h.1];grind,h.2,h2⟩ hn
   · rcases C (p:=a) (q:=b) (r:=d) (s:=c) h1 (by rw[eV,h2];grind) with h|h
     · exact .inr (.inl h)
     · exact absurd ⟨h.1,h1,h2,by rw[D,h.2];grind⟩ hn
   · rcases C (p:=b) (q:=a) (r:=d) (s:=c) (by rw[eV,h1];grind) (by rw[eV,h2];grind) with h|h
     · exact .inr (.inr (.inr h))
     · exact absurd ⟨by rw[D,h.1];grind,h1,by rw[D,h.2];grind,h2⟩ hn
 · rintro(h|h|h|h)
   · subst h;exact⟨.inl (j0 a b),.inl (j0 a d)⟩
   · subst h;exact⟨.inr (j0 a b),.inl (zM2 c a)⟩
   · subst h;exact⟨.inl (zM2 a b),.inr (j0 b d)⟩
   · subst h;exact⟨.inr (zM2 a b),.inr (zM2 c b)⟩
theorem yEO{a b c d:P2}(hab:¬lx b a)(hcd:¬lx d c):tE a b c d=zKX a b c d:=by
 unfold tE zKX;simp only[fT]
 by_cases hz:cr a b c=0/\cr a b d=0/\cr c d a=0/\cr c d b=0
 · obtain⟨h1,h2,h3,Z⟩:=hz
   rw[zau (show cr a b c=0/\cr a b d=0/\cr c d a=0/\cr c d b=0 from⟨h1,h2,h3,Z⟩),zau (show cr a b c=0/\cr a b d=0/\cr c d a=0/\cr c d b=0 from⟨h1,h2,h3,Z⟩),yFW hab hcd h1 h2 h3 Z];unfold lP;rw[(eF hab).1,(eF hab).2,(eF hcd).1,(eF hcd).2]
   by_cases C:kK a.1 b.1 c.1 d.1\/kK a.2 b.2 c.2 d.2
   · rw[zau C]
     have D:=zSD hab hcd h1 h2 h3 Z C;unfold iA;rw[zau]
     rcases D with D|D
     · have e1:lx a c:=by
        rcases pO.1 hab with e|e
        · exact zB6 e D
        · rw[e];exact D
       have e2:¬lx d b:=by
        refine bP ?_
        rcases pO.1 hcd with e|e
        · exact zB6 D e
        · rw[<-e];exact D
       rw[zae e2,zau e1];exact D
     · have e1:¬lx a c:=by
        refine bP ?_
        rcases pO.1 hcd with e|e
        · exact zB6 e D
        · rw[e];exact D
       have e2:lx d b:=by
        rcases pO.1 hab with e|e
        · exact zB6 D e
        · rw[<-e];exact D
       rw[zau e2,zae e1];exact D
   · rw[zae C]
 · rw[zae hz,zae hz]
   by_cases hd:a=b\/c=d
   · rw[zau hd]
     have e0:y6 a b c d=0:=by
      unfold y6;rw[zae]
      rintro(⟨e,h⟩|⟨e,h⟩)
      · subst e
        exact hz ⟨nR _ _,nR _ _,h.2.2,h.2.2⟩
      · subst e
        exact hz ⟨h.2.2,h.2.2,nR _ _,nR _ _⟩
     rw[e0]
     by_cases C:kK a.1 b.1 c.1 d.1\/kK a.2 b.2 c.2 d.2
     · rw[zau C]
     · rw[zae C,zau]
       rw[oS,oS];have H:∀x:Rat,x≠0->0<x*x:=by
        intro x hx
        rcases zDQ x 0 with h|h|h
        · have:=ydi (a:=-x) (b:=-x) zo0 zo0;grind
        · exact absurd h hx
        · exact ydi h h
       rcases hd with e|e
       · subst e
         right
         refine H _ λh=>?_;exact hz ⟨nR _ _,nR _ _,h,h⟩
       · subst e
         left
         refine H _ λh=>?_;exact hz ⟨h,h,nR _ _,nR _ _⟩
   · rw[zae hd]
     by_cases hs:0<orZ a b c*orZ a b d\/0<orZ c d a*orZ c d b
     · rw[zau hs,zau hs]
       split<;>rfl
     · rw[zae hs,zae hs]
       rw[oS,oS] at hs;have J:cr a b c*cr a b d<=0:=Rat.not_lt.1 λe=>hs (.inl e);have ab:cr c d a*cr c d b<=0:=Rat.not_lt.1 λe=>hs (.inr e);have O:¬(kK a.1 b.1 c.1 d.1\/kK a.2 b.2 c.2 d.2):=by
        intro C;have aa:∀{p q r s:P2},p≠q->cr p q r=0->cr p q s=0->cr r s p=0/\cr r s q=0:=by
         intro p q r s ac k1 k2;have hu:q.1-p.1≠0\/q.2-p.2≠0:=by
          refine zdu λe=>ac (Prod.ext ?_ ?_)<;>grind
         have k3:(r.1-p.1)*(q.2-p.2)=(r.2-p.2)*(q.1-p.1):=by unfold cr at k1;grind
         have k4:(s.1-p.1)*(q.2-p.2)=(s.2-p.2)*(q.1-p.1):=by unfold cr at k2;grind
         have k5:=zKK hu k3 k4;unfold cr;constructor<;>grind
        have zW5:cr a b c-cr a b d= -(cr c d a-cr c d b):=by unfold cr;grind
        have M:cr a b c≠cr a b d:=by
         intro e;rw[e] at J;have h5:=zC6 (cr a b d);have h6:cr a b d*cr a b d=0:=by grind
         have U:cr a b d=0:=by rcases sT h6 with h|h<;>exact h
         obtain⟨h8,h9⟩:=aa (λe=>hd (.inl e)) (by rw[e];exact U) U;exact hz ⟨by rw[e];exact U,U,h8,h9⟩
        obtain⟨x,y,k1,k2,k3,k4⟩:=zPS (ax:=a.1) (ay:=a.2) (bx:=b.1) (by':=b.2) (cx:=c.1) (cy:=c.2) (dx:=d.1) (dy:=d.2) M J ab (by intro e;apply M;rw[yHS c d a,yHS c d b,e] at zW5;grind)
        rcases C with h|h
        · exact bR h k1 k3
        · exact bR h k2 k4
       rw[zae O]
       by_cases he:(cr a b c=0\/cr a b d=0)/\(cr c d a=0\/cr c d b=0)
       · rw[zau he,zau ((zUH hz).1 he)]
       · rw[zae he,zae (λe=>he ((zUH hz).2 e))]
theorem zNF(a b c d:P2):tE a b c d=oJ a b c d:=by
 rw[zKW];unfold oJ;exact yEO (zT0 a b) (zT0 c d)
theorem zF5(a b c d:P2):tE c d a b=tE a b c d:=by
 have D:∀(a b c d:P2),¬lx b a->¬lx d c->iA c d a b=iA a b c d:=by
  intro a b c d _ _;unfold iA;have O:(if lx c a then a else c)=(if lx a c then c else a):=by
   by_cases h:lx a c
   · rw[zau h,zae (bP h)]
   · rw[zae h]
     rcases pO.1 h with h1|h1
     · rw[zau h1]
     · rw[h1,zae (eD _)]
  have M:(if lx b d then b else d)=(if lx d b then d else b):=by
   by_cases h:lx d b
   · rw[zau h,zae (bP h)]
   · rw[zae h]
     rcases pO.1 h with h1|h1
     · rw[zau h1]
     · rw[h1,zae (eD _)]
  rw[O,M];simp only[and_comm]
 have C:∀{a b c d:Rat},kK c d a b↔kK a b c d:=by intro a b c d;unfold kK;grind
 unfold tE;have e:lP c d a b=lP a b c d:=D _ _ _ _ (zT0 a b) (zT0 c d);rw[e,C (a:=a.1) (b:=b.1) (c:=c.1) (d:=d.1),C (a:=a.2) (b:=b.2) (c:=c.2) (d:=d.2)];have h3:(orZ c d a=0/\orZ c d b=0/\orZ a b c=0/\orZ a b d=0)↔(orZ a b c=0/\orZ a b d=0/\orZ c d a=0/\orZ c d b=0):=by grind
 have J:(0<orZ c d a*orZ c d b\/0<orZ a b c*orZ a b d)↔(0<orZ a b c*orZ a b d\/0<orZ c d a*orZ c d b):=or_comm;have H:((orZ c d a=0\/orZ c d b=0)/\(orZ a b c=0\/orZ a b d=0))↔((orZ a b c=0\/orZ a b d=0)/\(orZ c d a=0\/orZ c d b=0)):=and_comm;simp only[h3,J,H]
def smZ(q:Rat):Int:=if q.den≠1\/1<(zB q.num.natAbs).length then 0 else q.num
def smB(q:Rat):Prop:=q.den=1/\q.num.natAbs<268435456
theorem zSF{n:Nat}(h:n<4294967296):(zB n).length<=1:=qL (by rw[Nat.pow_one];exact h)
theorem zS9{q:Rat}(h:smB q):(zB q.num.natAbs).length<=1:=zSF (by have:=h.2;omega)
theorem rH{q:Rat}(h:smB q):q=((smZ q:Int):Rat)/\-268435456<smZ q/\smZ q<268435456:=by
 have h1:=zS9 h;have e:smZ q=q.num:=by unfold smZ;rw[zae];rintro(e|e);exact e h.1;omega
 have h2:=h.2;refine⟨?_,by rw[e];omega,by rw[e];omega⟩;rw[e];have h3:=Rat.divInt_eq_div q.num q.den;rw[Rat.num_divInt_den,h.1] at h3;rw[h3];have D:((1:Nat):Int)=1:=I;have:((q.num:Rat)/((((1:Nat):Int)):Rat))=(q.num:Rat):=by rw[D];have C:((1:Int):Rat)=1:=I;rw[C];grind
 rw[this];rw[h3] at *;simp
theorem yM4{q:Rat}(h:(0:Int)<↑(zB (vC q.den)).length\/(1:Int)<↑(zB q.num.natAbs).length):smZ q=0/\¬smB q:=by
 have h1:q.den≠1\/1<(zB q.num.natAbs).length:=by
  rcases h with h|h
  · left;intro e;rw[e,aC,xM] at h;simp at h
  · right;omega
 refine⟨zau h1,λC=>?_⟩
 rcases h1 with e|e
 · exact e C.1
 · have:=zS9 C;omega
theorem zQP{q:Rat}(h:¬((0:Int)<↑(zB (vC q.den)).length\/(1:Int)<↑(zB q.num.natAbs).length)):q.den=1/\(zB q.num.natAbs).length<=1:=by
 refine⟨(eS q.den_nz).1 ?_,zot⟩;have:(zB (vC q.den)).length=0:=by omega
 exact zof this
theorem zYR{q:Rat}(h:¬((0:Int)<↑(zB (vC q.den)).length\/(1:Int)<↑(zB q.num.natAbs).length)):smZ q=q.num:=by
 obtain⟨h1,h2⟩:=zQP h;unfold smZ;rw[zae]
 rintro(e|e)
 · exact e h1
 · omega
theorem yM3{q:Rat}(h:¬((0:Int)<↑(zB (vC q.den)).length\/(1:Int)<↑(zB q.num.natAbs).length))(h0:(↑(zB q.num.natAbs).length:Int)=0):smZ q=0/\smB q:=by
 obtain⟨h1,h2⟩:=zQP h;have C:q.num.natAbs=0:=by
  refine zdu λe=>?_;have:=yP.2 e;omega
 refine⟨by rw[zYR h];omega,h1,zot⟩
theorem yEU{q:Rat}(h:¬((0:Int)<↑(zB (vC q.den)).length\/(1:Int)<↑(zB q.num.natAbs).length))(h0:¬(↑(zB q.num.natAbs).length:Int)=0):(zB q.num.natAbs).getD 0 0=q.num.natAbs/\q.num.natAbs<4294967296/\(smB q↔q.num.natAbs<268435456):=by
 obtain⟨h1,h2⟩:=zQP h;have h3:=zA5 (xs:=zB q.num.natAbs) zot;rw[zE] at h3;have C:=uZ q.num.natAbs;have D:(zB q.num.natAbs).length=1:=by omega
 rw[D,Nat.pow_one] at C;exact⟨h3.symm,C,λe=>e.2,λe=>⟨h1,e⟩⟩
theorem zJH{x y:Int}{p q:Prop}(h1:x=y)(h2:p↔q):Value.tuple #[vI x,vB p]=.tuple #[vI y,vB q]:=by subst h1;rw[kS h2]
theorem zZM{u v:Int}(h1:-536870912<u)(h2:u<536870912)(h3:-536870912<v)(h4:v<536870912):-288230376151711744<=u*v/\u*v<=288230376151711744:=by
 have C:∀{a b:Int},0<=a->a<536870912->0<=b->b<536870912->0<=a*b/\a*b<=288230376151711744:=by
  intro a b ha J D H;have O:=ylu ha D;have M:a*b<=536870912*536870912:=Int.mul_le_mul zot zot D zot;omega
 rcases yve 0 u with hu|hu<;>rcases yve 0 v with hv|hv
 · have:=C hu h2 hv h4;omega
 · have:=C hu h2 (b:=-v) zot zot
   rw[Int.mul_neg] at this;omega
 · have:=C (a:=-u) zot zot hv h4
   rw[yze] at this;omega
 · have:=C (a:=-u) (b:=-v) zot zot zot zot
   rw[Int.neg_mul_neg] at this;omega
def zIQ(n:Int):Int:=if 0<n then 1 else if n<0 then -1 else 0
theorem mH(n:Int):yQ (n:Rat)=zIQ n:=by
 rw[rW];unfold zIQ;have h0:((n:Rat)=0)↔n=0:=by
  have e:(0:Rat)=((0:Int):Rat):=I;rw[e,zqu]
 have h1:((n:Rat)<0)↔n<0:=by
  have e:(0:Rat)=((0:Int):Rat):=I;rw[e,z1u]
 simp only[h0,h1]
 split
 · rename_i h;subst h;simp
 · split
   · rw[zae zot]
   · rw[zau zot]
theorem zZ6{a b c:P2}(h1:smB a.1/\smB a.2)(h2:smB b.1/\smB b.2)(h3:smB c.1/\smB c.2):
 zIQ ((smZ b.1-smZ a.1)*(smZ c.2-smZ a.2)-(smZ b.2-smZ a.2)*(smZ c.1-smZ a.1))=orZ a b c:=by
 rw[<-mH];unfold orZ cr
 congr 1
 rw[zru,zji,zji,zru,zru,zru,zru];rw[<-(rH h1.1).1,<-(rH h1.2).1,<-(rH h2.1).1,<-(rH h2.2).1,<-(rH h3.1).1,<-(rH h3.2).1]
theorem yJ2(a b c:P2):xZ ((b.1-a.1)*(c.2-a.2)) ((b.2-a.2)*(c.1-a.1))=orZ a b c:=by rw[zID];rfl
theorem tV(a b c:P2):-1<=orZ a b c/\orZ a b c<=1:=xC _
theorem zZO{a b:Pt}{i j:Nat}:pr a i j=pr b i j↔a.at i=b.at i/\a.at j=b.at j:=by unfold pr;rw[Prod.ext_iff]
theorem yDM{a b x:Rat}:((xZ a x<=0/\xZ x b<=0)\/(0<=xZ a x/\0<=xZ x b))↔kR a b x:=by
 have h1:=kA (a:=a) (b:=x);have h2:=kA (a:=x) (b:=b);have h3:=zKM a x;have H:=zKM x b;have D:=kA (a:=x) (b:=a);have C:=kA (a:=b) (b:=x);unfold kR;rw[<-h1,<-h2,<-D,<-C];omega
theorem zO8{a b:Pt}{i j:Nat}:(xZ (a.at i) (b.at i)<0\/(xZ (a.at i) (b.at i)=0/\xZ (a.at j) (b.at j)<0))↔lx (pr a i j) (pr b i j):=by
 rw[oA,aV,oA];rfl
def loT(a b:Pt)(i j:Nat):Pt:=if lx (pr b i j) (pr a i j) then b else a
def hiT(a b:Pt)(i j:Nat):Pt:=if lx (pr b i j) (pr a i j) then a else b
def mxT(a c:Pt)(i j:Nat):Pt:=if lx (pr a i j) (pr c i j) then c else a
def mnT(b d:Pt)(i j:Nat):Pt:=if lx (pr d i j) (pr b i j) then d else b
def gp(l:List Pt)(m:Nat):Pt:=l.getD m (T3.mk (0:Rat) 0 0)
def uV(l:List Pt)(i j:Nat):Nat->Rat
  |0=>0
  |m+1=>uV l i j m+((gp l m).at i*(gp l ((m+1)%l.length)).at j-(gp l ((m+1)%l.length)).at i*(gp l m).at j)
theorem yEN(a b c:Pt):yQ (uV [a,b,c] 0 1 3)=orZ (pr a 0 1) (pr b 0 1) (pr c 0 1):=by
 have:uV [a,b,c] 0 1 3=cr (pr a 0 1) (pr b 0 1) (pr c 0 1):=by
  simp[uV,gp,pr,cr,T3.at];grind
 unfold orZ;rw[this]
def kW(a b p:P2):Prop:=¬(a.2<=p.2↔b.2<=p.2)/\((a.2<=p.2/\0<orZ a b p)\/(b.2<=p.2/\orZ a b p<0))
def vV(l:List Pt)(i j m:Nat):P2:=pr (gp l m) i j
def vT(l:List Pt)(i j m:Nat):P2:=pr (gp l ((m+1)%l.length)) i j
def kM(l:List Pt)(p:P2)(i j:Nat):Nat->Prop
  |0=>False
  |m+1=>(kW (vV l i j m) (vT l i j m) p/\¬kM l p i j m)\/(¬kW (vV l i j m) (vT l i j m) p/\kM l p i j m)
def kL(l:List Pt)(p:P2)(i j:Nat):Int:=
 if ∃m,m<l.length/\onS (vV l i j m) (vT l i j m) p then 0 else if kM l p i j l.length then 1 else -1
theorem yBR{l:List Pt}{p:P2}{i j m:Nat}(hm:m<l.length)(h:onS (vV l i j m) (vT l i j m) p):0=kL l p i j:=(zau ⟨m,hm,h⟩).symm
theorem yBS{l:List Pt}{p:P2}{i j n:Nat}(hn:¬n<l.length)(hn2:n<=l.length)(h:∀q,q<n->¬onS (vV l i j q) (vT l i j q) p)(ho:kM l p i j n):1=kL l p i j:=by
 have e:n=l.length:=by omega
 subst e;unfold kL;rw[zae (λ⟨m,D,C⟩=>h m D C),zau ho]
theorem zT4{l:List Pt}{p:P2}{i j n:Nat}(hn:¬n<l.length)(hn2:n<=l.length)(h:∀q,q<n->¬onS (vV l i j q) (vT l i j q) p)(ho:¬kM l p i j n):-1=kL l p i j:=by
 have e:n=l.length:=by omega
 subst e;unfold kL;rw[zae (λ⟨m,D,C⟩=>h m D C),zae ho]
theorem zBU{l:List Pt}{p:P2}{i j n:Nat}(h:∀q,q<n->¬onS (vV l i j q) (vT l i j q) p)(h1:¬onS (vV l i j n) (vT l i j n) p):∀q,q<n+1->¬onS (vV l i j q) (vT l i j q) p:=λq hq=>by
 rcases zhu.1 hq with h2|h2
 · exact h q h2
 · subst h2;exact h1
theorem yAF{l:List Pt}{p:P2}{i j n:Nat}(h:(vV l i j n).2<=p.2↔(vT l i j n).2<=p.2):kM l p i j n=kM l p i j (n+1):=by
 have:¬kW (vV l i j n) (vT l i j n) p:=λhc=>hc.1 h
 show _=(_\/_)
 simp[this]
theorem yAG{l:List Pt}{p:P2}{i j n:Nat}(h:¬((vV l i j n).2<=p.2↔(vT l i j n).2<=p.2))(h1:((vV l i j n).2<=p.2/\0<orZ (vV l i j n) (vT l i j n) p)\/((vT l i j n).2<=p.2/\orZ (vV l i j n) (vT l i j n) p<0)):(¬kM l p i j n)=kM l p i j (n+1):=by
 have:kW (vV l i j n) (vT l i j n) p:=⟨h,h1⟩
 show _=(_\/_)
 simp[this]
theorem yAE{l:List Pt}{p:P2}{i j n:Nat}(h1:¬(((vV l i j n).2<=p.2/\0<orZ (vV l i j n) (vT l i j n) p)\/((vT l i j n).2<=p.2/\orZ (vV l i j n) (vT l i j n) p<0))):kM l p i j n=kM l p i j (n+1):=by
 have:¬kW (vV l i j n) (vT l i j n) p:=λhc=>h1 hc.2
 show _=(_\/_)
 simp[this]
theorem yK4{a b:Pt}(h:¬xZ a.x b.x=0):xZ a.x b.x<0↔lx (pr a 0 1) (pr b 0 1):=by
 have h2:=zO8 (a:=a) (b:=b) (i:=0) (j:=1);rw[<-h2];exact⟨.inl,λe=>e.elim id λe=>absurd e.1 h⟩
theorem yK3{a b:Pt}(h:¬¬xZ a.x b.x=0):xZ a.y b.y<0↔lx (pr a 0 1) (pr b 0 1):=by
 have h1:=zdi h;have h2:=zO8 (a:=a) (b:=b) (i:=0) (j:=1);rw[<-h2];exact⟨λe=>.inr ⟨h1,e⟩,λe=>e.elim (λe=>absurd h1 (by have:xZ a.x b.x<0:=e;omega)) λe=>e.2⟩
theorem zQ0(a b:Pt)(i j:Nat):pr (loT a b i j) i j=lo2 (pr a i j) (pr b i j):=zLE _ _ _ _
theorem zQ1(a b:Pt)(i j:Nat):pr (hiT a b i j) i j=hi2 (pr a i j) (pr b i j):=zLE _ _ _ _
theorem yJ5{a b p:Pt}{i j:Nat}:(orZ (pr (loT a b i j) i j) (pr (hiT a b i j) i j) (pr p i j)=0/\¬lx (pr p i j) (pr (loT a b i j) i j)/\¬lx (pr (hiT a b i j) i j) (pr p i j))↔onS (pr a i j) (pr b i j) (pr p i j):=by
 rw[zQ0,zQ1,<-yFF,fT,fT];unfold lo2 hi2
 split
 · rw[eV]
   grind
 · exact Iff.rfl
def zHP(a b c d lo hi:Pt):Int:=
 if lx (pr hi 0 1) (pr lo 0 1) then 0 else if ¬pr lo 0 1=pr hi 0 1 then 3
 else if(((pr lo 0 1=pr a 0 1\/pr lo 0 1=pr b 0 1)/\(pr lo 0 1=pr c 0 1\/pr lo 0 1=pr d 0 1))/\onS (pr a 0 1) (pr b 0 1) (pr lo 0 1))/\onS (pr c 0 1) (pr d 0 1) (pr lo 0 1) then 1
 else if onS (pr a 0 1) (pr b 0 1) (pr lo 0 1)/\onS (pr c 0 1) (pr d 0 1) (pr lo 0 1) then 2 else 0
theorem zHO{a b c d lo hi:Pt}(h1:lo=mxT a c 0 1)(h2:hi=mnT b d 0 1):zHP a b c d lo hi=zEU (pr a 0 1) (pr b 0 1) (pr c 0 1) (pr d 0 1):=by
 have D:pr lo 0 1=if lx (pr a 0 1) (pr c 0 1) then pr c 0 1 else pr a 0 1:=by rw[h1];exact zLE _ _ _ _
 have C:pr hi 0 1=if lx (pr d 0 1) (pr b 0 1) then pr d 0 1 else pr b 0 1:=by rw[h2];exact zLE _ _ _ _
 unfold zHP zEU;rw[D,C];simp only[and_assoc,ne_eq]
def zAE(a b c d:Pt):Int:=
 if((orZ (pr a 0 1) (pr b 0 1) (pr c 0 1)=0/\orZ (pr a 0 1) (pr b 0 1) (pr d 0 1)=0)/\orZ (pr c 0 1) (pr d 0 1) (pr a 0 1)=0)/\orZ (pr c 0 1) (pr d 0 1) (pr b 0 1)=0 then zEU (pr a 0 1) (pr b 0 1) (pr c 0 1) (pr d 0 1)
 else if pr a 0 1=pr b 0 1\/pr c 0 1=pr d 0 1 then y6 (pr a 0 1) (pr b 0 1) (pr c 0 1) (pr d 0 1)
 else if 0<orZ (pr a 0 1) (pr b 0 1) (pr c 0 1)*orZ (pr a 0 1) (pr b 0 1) (pr d 0 1)\/0<orZ (pr c 0 1) (pr d 0 1) (pr a 0 1)*orZ (pr c 0 1) (pr d 0 1) (pr b 0 1) then 0
 else if((pr a 0 1=pr c 0 1\/pr a 0 1=pr d 0 1)\/pr b 0 1=pr c 0 1)\/pr b 0 1=pr d 0 1 then 1 else 2
theorem zA8{a b c d A B C D:Pt}(h1:A=loT (T3.mk a.x a.y 0) (T3.mk b.x b.y 0) 0 1)(h2:B=hiT (T3.mk a.x a.y 0) (T3.mk b.x b.y 0) 0 1)(h3:C=loT (T3.mk c.x c.y 0) (T3.mk d.x d.y 0) 0 1)(h4:D=hiT (T3.mk c.x c.y 0) (T3.mk d.x d.y 0) 0 1):
 zAE A B C D=oJ (pr a 0 1) (pr b 0 1) (pr c 0 1) (pr d 0 1):=by
 have O:pr A 0 1=lo2 (pr a 0 1) (pr b 0 1):=by rw[h1];exact zQ0 _ _ _ _
 have M:pr B 0 1=hi2 (pr a 0 1) (pr b 0 1):=by rw[h2];exact zQ1 _ _ _ _
 have J:pr C 0 1=lo2 (pr c 0 1) (pr d 0 1):=by rw[h3];exact zQ0 _ _ _ _
 have H:pr D 0 1=hi2 (pr c 0 1) (pr d 0 1):=by rw[h4];exact zQ1 _ _ _ _
 unfold zAE oJ zKX;rw[O,M,J,H];simp only[and_assoc,or_assoc]
end Bk
namespace Bk
open Classical
def zCY(a b:Pt):Pt:=if 0<xZ a.y b.y then b else a
def zE0(a b:Pt):Pt:=if 0<xZ a.y b.y then a else b
theorem zIA(a b p:Pt):((xZ (zCY a b).y p.y<=0/\xZ p.y (zE0 a b).y<0)/\0<orZ (pr (zCY a b) 0 1) (pr (zE0 a b) 0 1) (pr p 0 1))↔kW (pr a 0 1) (pr b 0 1) (pr p 0 1):=by
 unfold zCY zE0 kW;rw[kA,oA];have J:(pr a 0 1).2=a.y:=I;have H:(pr b 0 1).2=b.y:=I;have D:(pr p 0 1).2=p.y:=I;rw[J,H,D]
 by_cases h:0<xZ a.y b.y
 · have h1:=zIE.1 h
   rw[zau h,zau h,zBT (pr a 0 1) (pr b 0 1)];constructor
   · rintro⟨⟨h2,h3⟩,C⟩
     exact⟨λe=>by grind,.inr ⟨h2,zot⟩⟩
   · rintro⟨h2,h3|h3⟩
     · exact absurd ⟨λ_=>by grind,λ_=>h3.1⟩ h2
     · exact⟨⟨h3.1,zo0⟩,zot⟩
 · have h1:¬b.y<a.y:=λe=>h (zIE.2 e)
   rw[zae h,zae h];constructor
   · rintro⟨⟨h2,h3⟩,C⟩
     exact⟨λe=>by grind,.inl ⟨h2,C⟩⟩
   · rintro⟨h2,h3|h3⟩
     · exact⟨⟨h3.1,zo0⟩,h3.2⟩
     · exact absurd ⟨λ_=>h3.1,λ_=>by grind⟩ h2
theorem yJ8{l:List Pt}{p:P2}{i j n:Nat}(h:kW (vV l i j n) (vT l i j n) p):(¬kM l p i j n)=kM l p i j (n+1):=by
 show _=(_\/_)
 simp[h]
theorem yFH{l:List Pt}{p:P2}{i j n:Nat}(h:¬kW (vV l i j n) (vT l i j n) p):kM l p i j n=kM l p i j (n+1):=by
 show _=(_\/_)
 simp[h]
def mD(L:List (List Pt))(p:P2)(i j:Nat):Nat->Int
  |0=>-1
  |m+1=>if kL (L.getD m []) p i j=1 then -(mD L p i j m) else mD L p i j m
def whZ(L:List (List Pt))(p:P2)(i j:Nat):Int:=if ∃m,m<L.length/\kL (L.getD m []) p i j=0 then 0 else mD L p i j L.length
theorem zFX(L:List (List Pt))(p:P2)(i j:Nat):∀m,-1<=mD L p i j m/\mD L p i j m<=1
  |0=>by unfold mD;omega
  |m+1=>by
   have h:=zFX L p i j m;unfold mD
   split<;>omega
theorem yIA{L:List (List Pt)}{p:P2}{i j m:Nat}(h1:¬m<L.length)(h2:m<=L.length)(h:∀q,q<m->¬kL (L.getD q []) p i j=0):mD L p i j m=whZ L p i j:=by
 have e:m=L.length:=by omega
 subst e;exact(zae λ⟨q,C,hz⟩=>h q C hz).symm
theorem zS1{L:List (List Pt)}{p:P2}{i j m:Nat}(h:∀q,q<m->¬kL (L.getD q []) p i j=0)(h1:¬kL (L.getD m []) p i j=0):∀q,q<m+1->¬kL (L.getD q []) p i j=0:=λq hq=>by
 rcases zhu.1 hq with h2|h2
 · exact h q h2
 · subst h2;exact h1
theorem yCG{L:List (List Pt)}{n:Nat}(h:∀x,x∈L->x.length<=n)(m:Nat):(L.getD m []).length<=n:=by
 rw[zoa]
 rcases zte m L.length with h1|h1
 · rw[zoc h1]
   exact h _ (ybe h1)
 · rw[zre h1]
   exact zuu _
def zTM(R:Nat->Nat->Prop)(n a:Nat):Prop:=∀p q,p<a->p<q->q<n->R p q
def yN9(l:List Pt)(i j p q:Nat):Prop:=¬pr (gp l p) i j=pr (gp l q) i j
def zJE(n p q:Nat):Int:=if q=p+1\/(p=0/\q+1=n) then 1 else 0
def okT(l:List Pt)(i j p q:Nat):Prop:=tE (vV l i j p) (vT l i j p) (vV l i j q) (vT l i j q)=zJE l.length p q
def aJ(l:List Pt)(i j:Nat):Prop:=3<=l.length/\zTM (yN9 l i j) l.length l.length/\zTM (okT l i j) l.length l.length
theorem yIC{n p q:Nat}(h:q=p+1\/(p=0/\q+1=n)):(1:Int)=zJE n p q:=(zau h).symm
theorem yID{n p q:Nat}(h:¬(q=p+1\/(p=0/\q+1=n))):(0:Int)=zJE n p q:=(zae h).symm
def zAA(a b:List Pt)(i j p q:Nat):Prop:=1<tE (vV a i j p) (vT a i j p) (vV b i j q) (vT b i j q)
def fC(a b:List Pt)(i j:Nat):Prop:=∃p q,p<a.length/\q<b.length/\zAA a b i j p q
theorem zZA{Q:Nat->Nat->Prop}{p q n:Nat}(h:∀v,v<q->¬Q p v)(h1:¬Q p q):∀v,v<q+1->¬Q p v:=λv hv=>by
 rcases zhu.1 hv with h2|h2
 · exact h v h2
 · subst h2;exact h1
theorem vZ{Q:Nat->Prop}{q:Nat}(h:∀v,v<q->Q v)(h1:Q q):∀v,v<q+1->Q v:=λv hv=>by
 rcases zhu.1 hv with h2|h2
 · exact h v h2
 · subst h2;exact h1
theorem zVZ{Q:Nat->Nat->Prop}{p q n:Nat}(h:∀u v,u<p->v<n->¬Q u v)(h1:∀v,v<q->¬Q p v)(hq:n<=q):∀u v,u<p+1->v<n->¬Q u v:=λu v hu hv=>by
 rcases zhu.1 hu with h2|h2
 · exact h u v h2 hv
 · subst h2;exact h1 v zot
theorem zYB{Q:Nat->Nat->Prop}{p q:Nat}(h:∀u v,v<p->u<v->¬Q u v)(h1:∀u,u<q->¬Q u p)(hq:p<=q):∀u v,v<p+1->u<v->¬Q u v:=λu v hv hu=>by
 rcases zhu.1 hv with h2|h2
 · exact h u v h2 hu
 · subst h2;exact h1 u zot
def zR8(u v:P2):P2:=(zDP u.1 v.1,zDP u.2 v.2)
def cE(c l:List Pt)(i j:Nat):Nat->Int
  |0=>0
  |m+1=>if kL c (zR8 (vV l i j m) (vT l i j m)) i j=1 then cE c l i j m+1 else cE c l i j m
theorem oH(c l:List Pt)(i j:Nat):∀m,0<=cE c l i j m/\cE c l i j m<=m
  |0=>by unfold cE;omega
  |m+1=>by
   have h:=oH c l i j m;unfold cE
   split<;>omega
theorem yH8{c l:List Pt}{i j m:Nat}{p:P2}(hp:p=zR8 (vV l i j m) (vT l i j m))(h:kL c p i j=1):cE c l i j m+1=cE c l i j (m+1):=by subst hp;exact(zau h).symm
theorem yH9{c l:List Pt}{i j m:Nat}{p:P2}(hp:p=zR8 (vV l i j m) (vT l i j m))(h:¬kL c p i j=1):cE c l i j m=cE c l i j (m+1):=by subst hp;exact(zae h).symm
def arZ(l:List Pt)(i j:Nat):Rat:=uV l i j l.length
def wiZ(c l:List Pt)(i j:Nat):Int:=cE c l i j l.length
abbrev gl(L:List (List Pt))(m:Nat):List Pt:=L.getD m []
def yOF(L:List (List Pt))(i j k m:Nat)(best:Int):Prop:=
 (0<yQ (arZ (gl L m) i j)/\wiZ (gl L m) (gl L k) i j=↑(gl L k).length)/\(best<0\/xZ (arZ (gl L m) i j) (arZ (gl L best.toNat) i j)<0)
def sG(L:List (List Pt))(i j k:Nat):Nat->Int
  |0=>-1
  |m+1=>if yOF L i j k m (sG L i j k m) then ↑m else sG L i j k m
theorem zDG(L:List (List Pt))(i j k:Nat):∀m,-1<=sG L i j k m/\sG L i j k m<m
  |0=>by unfold sG;omega
  |m+1=>by
   have h:=zDG L i j k m;unfold sG
   split<;>omega
def pZ(L:List (List Pt))(i j k:Nat):Int:=if 0<yQ (arZ (gl L k) i j) then -1 else sG L i j k L.length
def zC8(L:List (List Pt))(i j a b:Nat):Prop:=((¬b=a/\0<=pZ L i j a)/\pZ L i j b=pZ L i j a)/\0<wiZ (gl L b) (gl L a) i j
def iF(L:List (List Pt))(i j k:Nat):Prop:=¬0<yQ (arZ (gl L k) i j)/\sG L i j k L.length<0
def uC(L:List (List Pt))(i j:Nat):Int:=
 if 16<L.length\/∃m,m<L.length/\64<(gl L m).length then 2
 else if ∃m,m<L.length/\¬aJ (gl L m) i j then 8
 else if ∃a b,a<b/\b<L.length/\fC (gl L a) (gl L b) i j then 32
 else if(∃k,k<L.length/\iF L i j k)\/∃a b,a<L.length/\b<L.length/\zC8 L i j a b then 33 else 0
def sS(L:List (List Pt))(i j:Nat):List Int:=if uC L i j=0 then(List.range L.length).map (pZ L i j) else[]
theorem zL0{L:List (List Pt)}{i j:Nat}(h:16<L.length\/∃m,m<L.length/\64<(gl L m).length):uC L i j=2/\sS L i j=[]:=by
 have e:uC L i j=2:=zau h;exact⟨e,zae (by rw[e];decide)⟩
theorem yAU{L:List (List Pt)}{i j:Nat}(h1:¬16<L.length)(h2:∀m,m<L.length->¬64<(gl L m).length)(h:∃m,m<L.length/\¬aJ (gl L m) i j):uC L i j=8/\sS L i j=[]:=by
 have e:uC L i j=8:=by
  unfold uC;rw[zae (by rintro(h|⟨m,C,h⟩);exact h1 h;exact h2 m C h),zau h]
 exact⟨e,zae (by rw[e];decide)⟩
theorem zTP{L:List (List Pt)}{i j:Nat}(h1:¬16<L.length)(h2:∀m,m<L.length->¬64<(gl L m).length)(h3:∀m,m<L.length->aJ (gl L m) i j)(h:∃a b,a<b/\b<L.length/\fC (gl L a) (gl L b) i j):uC L i j=32/\sS L i j=[]:=by
 have e:uC L i j=32:=by
  unfold uC;rw[zae (by rintro(h|⟨m,C,h⟩);exact h1 h;exact h2 m C h),zae (by rintro⟨m,C,h⟩;exact h (h3 m C)),zau h]
 exact⟨e,zae (by rw[e];decide)⟩
theorem zFF{L:List (List Pt)}{i j:Nat}(h1:¬16<L.length)(h2:∀m,m<L.length->¬64<(gl L m).length)(h3:∀m,m<L.length->aJ (gl L m) i j)(h4:∀a b,b<L.length->a<b->¬fC (gl L a) (gl L b) i j)
    (h:(∃k,k<L.length/\iF L i j k)\/∃a b,a<L.length/\b<L.length/\zC8 L i j a b):uC L i j=33/\sS L i j=[]:=by
 have e:uC L i j=33:=by
  unfold uC;rw[zae (by rintro(h|⟨m,C,h⟩);exact h1 h;exact h2 m C h),zae (by rintro⟨m,C,h⟩;exact h (h3 m C)),zae (by rintro⟨a,b,ha,D,h⟩;exact h4 a b D ha h),zau h]
 exact⟨e,zae (by rw[e];decide)⟩
theorem yBC{O:List Int}{n:Nat}{f:Nat->Int}(hl:O.length=n)(h:∀q,q<n->O.getD q 0=f q):O=(List.range n).map f:=by
 refine List.ext_getElem (by simp[hl]) λq h1 h2=>?_;have h3:=h q zot;rw[zoa,zoc h1] at h3;simp only[Option.getD_some] at h3;simp[h3]
theorem yAV{L:List (List Pt)}{i j:Nat}{O:List Int}(h1:¬16<L.length)(h2:∀m,m<L.length->¬64<(gl L m).length)(h3:∀m,m<L.length->aJ (gl L m) i j)(h4:∀a b,b<L.length->a<b->¬fC (gl L a) (gl L b) i j)
    (h5:∀k,k<L.length->¬iF L i j k)(h6:∀a b,a<L.length->b<L.length->¬zC8 L i j a b)(hl:O.length=L.length)(hO:∀q,q<L.length->O.getD q 0=pZ L i j q):uC L i j=0/\sS L i j=O:=by
 have e:uC L i j=0:=by
  unfold uC;rw[zae (by rintro(h|⟨m,C,h⟩);exact h1 h;exact h2 m C h),zae (by rintro⟨m,C,h⟩;exact h (h3 m C)),zae (by rintro⟨a,b,ha,D,h⟩;exact h4 a b D ha h),
   zae (by rintro(⟨k,hk,h⟩|⟨a,b,ha,D,h⟩);exact h5 k hk h;exact h6 a b ha D h)]
 exact⟨e,by unfold sS;rw[zau e];exact(yBC hl hO).symm⟩
end Bk
namespace Bk
open Classical
open Go Go.RowKit
def qF:Rp (List Nat) where
 n:=1
 agg:=false
 R _ cs s:=cs=[.string (qR s)]/\ByB s
 len:=by rintro h cs s ⟨rfl,_⟩;rfl
 mono:=λ_ r=>r
 one:=by rintro h cs s ⟨rfl,_⟩;rfl
 cell:=λ_=>rfl
theorem bK{h:Mem}{s:List Nat}(hb:ByB s):qF.Is h (.string (qR s)) s:=⟨_,⟨rfl,hb⟩,rfl⟩
theorem kU{h:Mem}{v:Value}{s:List Nat}(r:qF.Is h v s):v=.string (qR s)/\ByB s:=by
 obtain⟨cs,⟨rfl,C⟩,rfl⟩:=r;exact⟨I,C⟩
theorem gS{h:Mem}:qF.R h [.string ⟨#[]⟩] []:=⟨rfl,ByB.nil⟩
def lsN:List Nat->List Nat->Prop
  |[],[]=>False
  |[],_::_=>True
  |_::_,[]=>False
  |x::a,y::b=>if x=y then lsN a b else x<y
def rpV:Rp Value where
 n:=1
 agg:=false
 R _ cs v:=cs=[v]/\v.oneCell'=true
 len:=by rintro h cs v ⟨rfl,_⟩;rfl
 mono:=λ_ r=>r
 one:=by rintro h cs v ⟨rfl,hv⟩;simp[hv]
 cell:=λ_=>rfl
theorem eH{h:Mem}{v:Value}(hv:v.oneCell'=true):rpV.Is h v v:=⟨_,⟨rfl,hv⟩,rfl⟩
theorem yNK{h:Mem}{u v:Value}(r:rpV.Is h u v):v=u:=by
 obtain⟨cs,⟨rfl,C⟩,rfl⟩:=r
 rfl
theorem fD{h:Mem}:rpV.R h [.slice none 0 0] (.slice none 0 0):=⟨rfl,rfl⟩
section
variable {α β γ δ:Type}{h:Mem}
theorem zLB{ρ:Rp α}{v:Value}{xs:List α}(r:(rpS ρ).Is h v xs):(rpS ρ).R h [v] xs:=by
 obtain⟨cs,⟨u,ds,rfl,s,C⟩,rfl⟩:=r;exact⟨_,ds,I,s,C⟩
theorem zFZ{π:Rp α}{ρ:Rp β}{τ:Rp γ}{cs:List Value}{p:α}{v:Value}{s:γ}{xs:List β}(r:(rpP π (rpP rpV τ)).R h cs (p,(v,s)))(k:(rpS ρ).Is h v xs):(rpP π (rpP (rpS ρ) τ)).R h cs (p,(xs,s)):=by
 obtain⟨a,b,e,H,c,d,e',⟨D,_⟩,C⟩:=r;exact⟨a,b,e,H,c,d,e',by rw[show c=[v] from D];exact zLB k,C⟩
theorem yD9{ρ:Rp β}{τ:Rp γ}{cs:List Value}{v:Value}{s:γ}{xs:List β}(r:(rpP rpV τ).R h cs (v,s))(k:(rpS ρ).Is h v xs):(rpP (rpS ρ) τ).R h cs (xs,s):=by
 obtain⟨c,d,e',⟨D,_⟩,C⟩:=r;exact⟨c,d,e',by rw[show c=[v] from D];exact zLB k,C⟩
end
section
variable {P:Program}{n:Nat}{w0:World}{h0:Mem}{e:List (Nat×Value)}{L:List Res}{h:Mem}
theorem yLE{E k m:Nat}{v:Value}{cs:List Value}{base:Nat}{w:World}(hok:(Res.gs E k v m cs).ok base w):v.oneCell'=true:=by
 obtain⟨_,C⟩:=hok
 rcases C with⟨rfl,_⟩|⟨g,cap,cur,rfl,_⟩<;>rfl
theorem uK{o:Oper}{A B:List Res}{r:Res}{E k m:Nat}{G:List Value->Prop}(hv:zEZ P n w0 h0 o e A r B h (λu r'=>∃cs',r'=.gs E k u m cs'/\G cs')):zEZ P n w0 h0 o e A r B h (λu r'=>u.oneCell'=true/\∃cs',r'=.gs E k u m cs'/\G cs'):=by
 intro a w J S;obtain⟨v,C,r',h1,h2,h3,H,cs',rfl,D⟩:=hv a w J S;exact⟨v,C,_,h1,h2,h3,H,yLE h3,cs',I,D⟩
theorem sN{o:Oper}{R:List Res}{Z:Value}(hv:OpX P n w0 h0 o e R h (λu=>rpV.Is h u Z)):OpX P n w0 h0 o e R h (λu=>Z=u):=by
 obtain⟨v,a,b⟩:=hv;exact⟨v,a,yNK b⟩
end
section
variable {α β:Type}
def wS(g:Nat->α):Nat->List α
  |0=>[]
  |i+1=>wS g i++[g i]
def gP(g:Nat->List α):Nat->List α
  |0=>[]
  |i+1=>gP g i++g i
def bA(p:Nat->Prop)(g:Nat->α):Nat->List α
  |0=>[]
  |i+1=>bA p g i++(if p i then[g i] else[])
theorem zBI{p:Nat->Prop}{g:Nat->α}{i:Nat}(h:p i):bA p g i++[g i]=bA p g (i+1):=by show _=_++_;rw[zau h]
theorem zBJ{p:Nat->Prop}{g:Nat->α}{i:Nat}(h:¬p i):bA p g i=bA p g (i+1):=by show _=_++_;rw[zae h,zqi]
theorem oN{p:Nat->Prop}{g:Nat->α}:∀n,bA p g n=[]↔∀i,i<n->¬p i
  |0=>⟨λ_ i h=>absurd h (z0i i),λ_=>rfl⟩
  |n+1=>by
   show _++_=[]↔_
   rw[List.append_eq_nil_iff,oN n];constructor
   · rintro⟨h1,h2⟩ i hi
     rcases zhu.1 hi with h|h
     · exact h1 i h
     · subst h;intro e;rw[zau e] at h2;exact absurd h2 zo3
   · intro h
     exact⟨λi hi=>h i zot,zae (h n zot)⟩
theorem cJ(p:Nat->Prop)(g:Nat->α):∀n,(bA p g n).length<=n
  |0=>zbe _
  |n+1=>by
   have:=cJ p g n
   show List.length (_++_)<=_
   rw[lAz]
   split<;>simp<;>omega
theorem yW(g:Nat->α):∀n,(wS g n).length=n
  |0=>rfl
  |n+1=>by show List.length (_++_)=_;rw[lAz,yW g n];rfl
theorem uE(g:Nat->α)(d:α):∀{n i},i<n->(wS g n).getD i d=g i
  |0,i,h=>absurd h (z0i i)
  |n+1,i,h=>by
   show(wS g n++[g n]).getD i d=_
   rcases zhu.1 h with h|h
   · rw[zoa,ypi (by rw[yW];exact h),<-zoa];exact uE g d h
   · subst h
     rw[zoa,yni (by rw[yW];exact zbe _),yW,yvi];rfl
theorem tD{g g':Nat->α}:∀n,(∀i,i<n->g i=g' i)->wS g n=wS g' n
  |0,_=>rfl
  |n+1,h=>by show _++_=_++_;rw[tD n λi hi=>h i zot,h n zot]
theorem zJJ{l:List α}(d:α){i:Nat}(h:i<l.length):l.take (i+1)=l.take i++[l.getD i d]:=by
 rw[zue h,zoa,zoc h];rfl
theorem zPJ{L:List (List α)}{n:Nat}(h:∀x,x∈L->x.length<=n)(m:Nat):(L.getD m []).length<=n:=by
 rw[zoa]
 rcases zte m L.length with h1|h1
 · rw[zoc h1];exact h _ (ybe h1)
 · rw[zre h1];exact zuu _
theorem zTV{g:Nat->α}{x:α}:∀{n},x∈wS g n->∃i,i<n/\x=g i
  |0,h=>absurd h zge
  |n+1,h=>by
   rcases zmu.1 (show x∈wS g n++[g n] from h) with h|h
   · obtain⟨i,hi,e⟩:=zTV h;exact⟨i,zot,e⟩
   · exact⟨n,zot,zui.1 h⟩
theorem zH3{g:Nat->List α}{x:α}:∀{n},x∈gP g n->∃i,i<n/\x∈g i
  |0,h=>absurd h zge
  |n+1,h=>by
   rcases zmu.1 (show x∈gP g n++g n from h) with h|h
   · obtain⟨i,hi,e⟩:=zH3 h;exact⟨i,zot,e⟩
   · exact⟨n,zot,h⟩
theorem kJ{l:List α}{d:α}{i:Nat}(h:i<l.length):l.getD i d∈l:=by
 rw[zoa,zoc h];exact ybe h
def aO(p:Nat->Prop):Nat->Nat
  |0=>0
  |k+1=>if p k then aO p k else k+1
theorem zSS{p:Nat->Prop}{k:Nat}(hk:0<k)(h:p (k-1)):aO p k=aO p (k-1):=by
 match k,hk with
 |k+1,_=>exact zau h
theorem zII{p:Nat->Prop}{k:Nat}(h:¬(0<k/\p (k-1))):aO p k=k:=by
 match k with
 |0=>rfl
 |k+1=>exact zae λe=>h ⟨zot,e⟩
theorem zFS(p:Nat->Prop):∀k,aO p k<=k
  |0=>zbe _
  |k+1=>by
   have:=zFS p k;unfold aO
   split<;>omega
def dM(l:List α)(k:Nat)(x:α):List α:=l.take k++x::l.drop k
theorem zHV(l:List α){k:Nat}(x:α)(h:k<=l.length):(dM l k x).length=l.length+1:=by
 unfold dM;rw[lAz,lC,zei,ziu];omega
theorem zVX{n u:Nat}(h:u<n):(List.replicate n False).getD u False↔False:=by
 rw[zoa,List.getElem?_replicate,zau h];exact Iff.rfl
end
end Bk
namespace Bk
open Go Go.RowKit
section
variable {P:Program}{n:Nat}{w0:World}{h0:Mem}{e:List (Nat×Value)}{L:List Res}{h:Mem}{Q:Exit->Act->World->Prop}{ds:Option Tmp}{ty:TypeId}{ps:String}{af:Array Edge}{gd:Option (Nat×Bool)}{α:Type}
theorem zQ9{ρ:Rp α}{xs:List α}{v:Value}{t E:TypeId}{x hu:Operand}{p:Int}(i:Nat)(ht:P.underlying t=some (.slice E))(hsz:∀w,(Go.sizeOf E).run P w=.ok ρ.n w)(hx:zH e x=some v)(hl:zH e hu=some (vI p))(r:(rpS ρ).Is h v xs)
    (hp:p=(i:Int))(hi:i<=xs.length):OpX P n w0 h0 ⟨ds,.slice t x none (some hu) none,ty,ps,af,gd⟩ e [] h (λu=>(rpS ρ).Is h u (xs.take i)):=by
 obtain⟨cs,s,C⟩:=zWB r;refine zZY (λL' h'=>zAI i ht hsz hx hl s.shape hp hi) ?_;have hs:=s.sub (zuu i) hi;have D:=C.len;rw[zwe,ycu,ydu] at hs;exact yF5 (by rw[zei,ztu hi];exact hs) (C.take i)
theorem zTX:∀(a b:List Nat),ByB a->ByB b->(Op.bytesLess (a.map UInt8.ofNat) (b.map UInt8.ofNat)=true↔lsN a b)
  |[],[],_,_=>by simp[Op.bytesLess,lsN]
  |[],y::b,_,_=>by simp[Op.bytesLess,lsN]
  |x::a,[],_,_=>by simp[Op.bytesLess,lsN]
  |x::a,y::b,ha,hb=>by
   have hx:x<256:=ha x (.head _);have hy:y<256:=hb y (.head _);have ih:=zTX a b (λz hz=>ha z (.tail _ hz)) (λz hz=>hb z (.tail _ hz));have e1:(UInt8.ofNat x<UInt8.ofNat y)↔x<y:=by
    rw[UInt8.lt_iff_toNat_lt,UInt8.toNat_ofNat',UInt8.toNat_ofNat',zoh (by simpa using hx),zoh (by simpa using hy)]
   have C:(UInt8.ofNat x=UInt8.ofNat y)↔x=y:=by
    rw[<-UInt8.toNat_inj,UInt8.toNat_ofNat',UInt8.toNat_ofNat',zoh (by simpa using hx),zoh (by simpa using hy)]
   show((decide (UInt8.ofNat x<UInt8.ofNat y)||(UInt8.ofNat x==UInt8.ofNat y&&Op.bytesLess _ _))=true)↔(if x=y then lsN a b else x<y)
   rw[zxe,zbu,zhi,beq_iff_eq,e1,C,ih]
   split
   · rename_i hxy;subst hxy;exact⟨λh=>h.elim (λh=>absurd h (ytu _)) λh=>h.2,λh=>.inr ⟨I,h⟩⟩
   · rename_i hxy;exact⟨λh=>h.elim id λh=>absurd h.1 hxy,.inl⟩
theorem zZ3{pa pb:List Nat}{t yt:TypeId}{x y:Operand}(ha:ByB pa)(hb:ByB pb)(hx:zH e x=some (.string (qR pa)))(hy:zH e y=some (.string (qR pb))):OpV P n w0 h0 ⟨ds,.binOp .lss t x y yt,ty,ps,af,gd⟩ e L h (vB (lsN pa pb)):=by
 have C:Op.bytesLess (qR pa).toList (qR pb).toList=true↔lsN pa pb:=by
  rw[ByteArray.toList_eq,ByteArray.toList_eq];exact zTX pa pb ha hb
 have hk:vB (lsN pa pb)=.bool (Op.bytesLess (qR pa).toList (qR pb).toList):=by
  by_cases hp:lsN pa pb
  · rw[xW hp,C.2 hp]
  · rw[yM hp,Bool.eq_false_iff.2 λe=>hp (C.1 e)]
 rw[hk];intro a w D S;simp only[execOp,D.eval hx,D.eval hy,binOp];simp[eqGuard,Op.stringOp]
theorem lI{A B:List Res}{E k m:Nat}{v:Value}{cs:List Value}{c:Code}(hm:0<m)(g:∀b cap,v=.slice (some ⟨b,0,none⟩) m cap->m<=cap->GC P n w0 h0 c Q e (A++.gs E k v m cs::B) h):GC P n w0 h0 c Q e (A++.gs E k v m cs::B) h:=by
 intro a w D S;obtain⟨_,C⟩:w.ownsRow w0.heap.size E k v m cs:=S.ok (.gs E k v m cs) zo3
 rcases C with⟨_,h0⟩|⟨b,cap,cur,hv,_,_,hc,_⟩
 · omega
 · exact g b cap hv hc a w D S
theorem kV{fn:Func}{v:Value}{L':List Res}{RO:Mem->Value->List Res->Prop}(hs:L'.Sublist L)(hres:∀{a:Act} {w:World},Env n e a->St w0 h0 L h w->(results fn a.tmps).run P w=.ok v w)(hR:RO h v L'):GQ n w0 h0 (bodyPost P fn (tP w0 h0 RO)) .ret e L h:=by
 intro a w E S;exact bodyPost_ret (hres E S) E.defers ⟨_,h,L',I,hR,S.sublist hs⟩
def sK(xs:List α)(i:Nat):List α:=xs.take (i+1)++(xs.drop i).take (xs.length-i-1)
theorem fP{xs:List α}{i:Nat}(h:i<xs.length):(sK xs i).length=xs.length:=by
 unfold sK;rw[lAz,zei,zei,ziu];omega
theorem zYX{ρ:Rp α}{cs:List Value}{xs:List α}{i:Nat}(hi:i<xs.length)(r:RL ρ h cs xs):RL ρ h (t9 cs ((i+1)*ρ.n) ((cs.drop (i*ρ.n)).take ((xs.length-i-1)*ρ.n))) (sK xs i):=by
 have D:=r.len;have h1:=(r.drop i).take (xs.length-i-1);have h2:=r.take (i+1);have J:xs.length*ρ.n=(i+1)*ρ.n+(xs.length-i-1)*ρ.n:=by rw[<-z2u];congr 1;omega
 have H:(i+1)*ρ.n=i*ρ.n+ρ.n:=ysi _ _;have C:((cs.drop (i*ρ.n)).take ((xs.length-i-1)*ρ.n)).length=(xs.length-i-1)*ρ.n:=by rw[zei,ziu];omega
 rw[zGM _ _ _ zot,C,show cs.drop ((i+1)*ρ.n+(xs.length-i-1)*ρ.n)=[] from znu zot,zqi];exact h2.append h1
theorem mG{l:List α}{z x:α}{k:Nat}(h:k<=l.length):(sK (l++[z]) k).set k x=dM l k x:=by
 unfold sK dM;have D:(l++[z]).length-k-1=l.length-k:=by rw[lAz,zke];omega
 have C:((l++[z]).drop k).take (l.length-k)=l.drop k:=by
  rw[yje h,ybi (by rw[ziu];omega),zvu (by rw[ziu];omega)]
 have hk:k<(l++[z]).length:=by rw[lAz,zke];omega
 rw[D,C,zue hk,zki,yke _ _ (by rw[zei];omega),zei,show k-min k (l++[z]).length=0 by omega];rw[ybi h]
 rfl
theorem mK{A B:List Res}{t E b cap:Nat}{v:Value}{cs:List Value}{x y:Operand}{ρ:Rp α}{xs:List α}(i:Nat)(hv:v=.slice (some ⟨b,0,none⟩) xs.length cap)(hmc:xs.length<=cap)(ht:P.underlying t=some (.slice E))(hsz:∀w,(Go.sizeOf E).run P w=.ok ρ.n w)
    (hx:zH e x=some (tB ρ.n v (i+1) xs.length))(hy:zH e y=some (tB ρ.n v i xs.length))(hi:i<xs.length)(r:RL ρ h cs xs):
    zEZ P n w0 h0 ⟨ds,.call {callee:=.builtin .copy,args:=#[x,y],argTypes:=#[t,t]},ty,ps,af,gd⟩ e A (.gs E ρ.n v xs.length cs) B h (λu r'=>∃cs',r'=.gs E ρ.n v (sK xs i).length cs'/\RL ρ h cs' (sK xs i)):=by
 intro a w Ev S;have D:w.ownsRow w0.heap.size E ρ.n v xs.length cs:=S.ok (.gs E ρ.n v xs.length cs) zo3;have ae:=D.1;subst hv;have ac:=zYX hi r;have e1:xs.length*ρ.n=(i+1)*ρ.n+(xs.length-i-1)*ρ.n:=by rw[<-z2u];congr 1;omega
 have e2:(i+1)*ρ.n=i*ρ.n+ρ.n:=ysi _ _;have M:((cs.drop (i*ρ.n)).take ((xs.length-i-1)*ρ.n)).length=(xs.length-i-1)*ρ.n:=by rw[zei,ziu];omega
 have O:∀j u,((cs.drop (i*ρ.n)).take ((xs.length-i-1)*ρ.n))[j]?=some u->cs[i*ρ.n+j]?=some u:=λj u H=>by
  rw[zpe] at H
  split at H
  · rwa [zxu] at H
  · cases H
 have Z:∀u∈(cs.drop (i*ρ.n)).take ((xs.length-i-1)*ρ.n),u.oneCell'=true:=λu hu=>zob.1 r.one u (z7i (z2e hu));generalize (cs.drop (i*ρ.n)).take ((xs.length-i-1)*ρ.n)=vs at *;obtain⟨h1,h2⟩:=nW vs ((i+1)*ρ.n) cs w D;have ab:=fP (xs:=xs) hi;have C:(loadCells ⟨b,i*ρ.n,none⟩ ((xs.length-i-1)*ρ.n)).run P w=.ok vs.toArray w:=by
  have:=run_loadCells_list (P:=P) (w:=w) ⟨b,i*ρ.n,none⟩ vs λj u H=>by
   have h3:=D.cellAt (i*ρ.n+j) (by have:=(zxi.1 (O j u H)).1;omega);rw[O j u H] at h3;rw[show(⟨b,i*ρ.n,none⟩:Addr).add j=⟨b,i*ρ.n+j,none⟩ from jY _ _ _];exact h3
  rwa [M] at this
 have U:=run_storeCells_cells (P:=P) b ((i+1)*ρ.n) vs 0 w (λj H=>by
  have h4:=D.cellAt ((i+1)*ρ.n+j) zot;rw[zoc zot] at h4;simp[h4]) (λj H=>by simpa using D.frozenAt ((i+1)*ρ.n+j)) Z
 simp only[zpi] at U;refine⟨vI ↑(xs.length-i-1),w.setCells b ((i+1)*ρ.n) vs,.gs E ρ.n (.slice (some ⟨b,0,none⟩) xs.length cap) xs.length (t9 cs ((i+1)*ρ.n) vs),?_,h2,h1,λb' hb=>.inl hb,_,by rw[ab],ac⟩;have J:Nat.min (xs.length-i) (xs.length-(i+1))=xs.length-i-1:=by show min _ _=_;omega
 have ad:¬cap=i:=by omega
 simp only[tB,ad,if_false,yoe] at hx hy;rw[show(⟨b,0,none⟩:Addr).add (i*ρ.n)=⟨b,i*ρ.n,none⟩ by simp[jY]] at hy
 by_cases hc:cap=i+1
 · have hz:xs.length-i-1=0:=by omega
   have aa:vs=[]:=zof (by rw[M,hz,zwe]);subst aa;simp only[hc,if_true] at hx;rw[hz,zwe] at C;simp[execOp,resolve,invoke,builtin,Ev.eval hx,Ev.eval hy,Builtin.copy_,run_underlying ht,Builtin.lenOf,Builtin.firstCells,hsz,J,hz,C,storeCells,World.setCells,goInt,vI]
 · simp only[hc,if_false] at hx
   rw[show(⟨b,0,none⟩:Addr).add ((i+1)*ρ.n)=⟨b,(i+1)*ρ.n,none⟩ by simp[jY]] at hx;simp[execOp,resolve,invoke,builtin,Ev.eval hx,Ev.eval hy,Builtin.copy_,run_underlying ht,Builtin.lenOf,Builtin.firstCells,hsz,J,C,U,goInt,vI]
end
end Bk
namespace Bk
open Go Go.RowKit
open Classical
abbrev tII:Rp (List (List Int)):=rpS (rpS rpI)
abbrev tE5:Rp (Int×Int×Int×Int×Int):=rpP rpI (rpP rpI (rpP rpI (rpP rpI rpI)))
abbrev tPt(k:Nat):Rp (T3 Rat):=rpT (rpQ k)
abbrev tLs(k:Nat):Rp (List (T3 Rat)):=rpS (rpT (rpQ k))
abbrev tLL(k:Nat):Rp (List (List (T3 Rat))):=rpS (rpS (rpT (rpQ k)))
abbrev tPl(k l:Nat):Rp (T3 Rat×Rat):=rpP (rpT (rpQ k)) (rpQ l)
abbrev Tq:=T3 Rat
abbrev Pq:=T3 Rat×Rat
abbrev Sq:=List (T3 Rat)×List ((T3 Rat×Rat)×List (List Int)×List Nat)×List (Int×Int×Rat)
abbrev tFc(k l:Nat):Rp ((T3 Rat×Rat)×List (List Int)×List Nat):=rpP (rpP (rpT (rpQ k)) (rpQ l)) (rpP (rpS (rpS rpI)) qF)
abbrev tSd(k m n j:Nat):Rp Sq:=rpP (rpS (rpT (rpQ k))) (rpP (rpS (rpP (rpP (rpT (rpQ m)) (rpQ n)) (rpP (rpS (rpS rpI)) qF))) (rpS (rpP rpI (rpP rpI (rpQ j)))))
abbrev zZ(p:T3 Rat):T3 Rat:=T3.mk p.x p.y (0:Rat)
abbrev pU(PP:List (T3 Rat))(sB:Value)(j:Int):T3 Rat:=((PP,(sB,([]:List (Int×Int×Rat)))).1).getD j.toNat zT
abbrev nU(PP:List (T3 Rat))(sB:Value)(I:List Int)(q:Nat):T3 Rat:=T3.mk ((((PP,(sB,([]:List (Int×Int×Rat)))).1).getD ((I.getD ((q+1)%I.length) 0).toNat) zT).y-(((PP,(sB,([]:List (Int×Int×Rat)))).1).getD ((I.getD q 0).toNat) zT).y) (-((((PP,(sB,([]:List (Int×Int×Rat)))).1).getD ((I.getD ((q+1)%I.length) 0).toNat) zT).x-(((PP,(sB,([]:List (Int×Int×Rat)))).1).getD ((I.getD q 0).toNat) zT).x)) (0:Rat)
abbrev lU(I:List Int)(q:Nat)(BB:List (T3 Rat)):List Int:=[(I.getD q (0:Int)),(I.getD ((q+1)%I.length) (0:Int)),((I.getD ((q+1)%I.length) (0:Int))+(↑BB.length:Int)),((I.getD q (0:Int))+(↑BB.length:Int))]
abbrev e50:Int×Int×Int×Int×Int:=((0:Int),((0:Int),((0:Int),((0:Int),(0:Int)))))
theorem dK{R A B:List Res}{q:Res}(hR:∀r∈R,r∈A++B:=by first|(simp;done)|grind):∀r∈R,r∈A++q::B->r∈A++B:=zXF hR
theorem oM{p:Prop}(f:p:=by omega):p:=f
theorem dC{p:Prop}(f:p:=by decide):p:=f
theorem rP{p:Prop}(f:p:=by first|rfl|(push_cast;rfl)):p:=f
theorem nP{p:Prop}(f:p:=by exact zce I):p:=f
theorem bO{p:Prop}(f:p:=by first|omega|(simp only[lAz,lC,lN,lR,lS];omega)):p:=f
theorem mle{h h':Mem}(f:MLe h h':=by with_reducible repeat (first|exact MLe.refl _|assumption|refine MLe.trans ?_ zo4)):MLe h h':=f
theorem Rp.Is.up{α:Type}{ρ:Rp α}{h h':Mem}{v:Value}{x:α}(r:ρ.Is h v x)(hm:MLe h h':=by exact mle):ρ.Is h' v x:=r.mono hm
theorem Rp.R.up{α:Type}{ρ:Rp α}{h h':Mem}{cs:List Value}{x:α}(r:ρ.R h cs x)(hm:MLe h h':=by exact mle):ρ.R h' cs x:=Rp.mono ρ hm r
theorem RL.up{α:Type}{ρ:Rp α}{h h':Mem}{cs:List Value}{xs:List α}(r:RL ρ h cs xs)(hm:MLe h h':=by exact mle):RL ρ h' cs xs:=RL.mono hm r
theorem AtP.up{α:Type}{ρ:Rp α}{h h':Mem}{p:Value}{X:α}(r:AtP ρ h p X)(hm:MLe h h':=by exact mle):AtP ρ h' p X:=r.mono hm
theorem Us.up{k:IntKind}{h h':Mem}{v:Value}{xs:List Nat}(r:Us k h v xs)(hm:MLe h h':=by exact mle):Us k h' v xs:=r.mono hm
class Und(P:Program)(t:TypeId) where
 d:TypeDesc
 h:P.underlying t=some d
class Siz(P:Program)(t:TypeId) where
 k:Nat
 h:∀w,(Go.sizeOf t).run P w=.ok k w
class Agg(P:Program)(t:TypeId) where
 b:Bool
 h:∀w,(isAgg t).run P w=.ok b w
class Inf(P:Program)(t:TypeId) where
 k:Nat
 h:(P.info? t).map (·.size)=some k
theorem uu{P:Program}{t:TypeId}{d:TypeDesc}(f:P.underlying t=some d:=by exact Und.h):P.underlying t=some d:=f
theorem uz{P:Program}{t:TypeId}{k:Nat}(f:∀w,(Go.sizeOf t).run P w=.ok k w:=by exact Siz.h):∀w,(Go.sizeOf t).run P w=.ok k w:=f
theorem ua{P:Program}{t:TypeId}{k:Bool}(f:∀w,(isAgg t).run P w=.ok k w:=by exact Agg.h):∀w,(isAgg t).run P w=.ok k w:=f
theorem us_{P:Program}{t:TypeId}{k:Nat}(f:(P.info? t).map (·.size)=some k:=by exact Inf.h):(P.info? t).map (·.size)=some k:=f
section
variable {α β γ:Type}
variable {P:Program}{n:Nat}{w0:World}{h0:Mem}{e:List (Nat×Value)}{L:List Res}{h:Mem}{Q:Exit->Act->World->Prop}
variable {ds:Option Tmp}{ty:TypeId}{ps:String}{af:Array Edge}{gd:Option (Nat×Bool)}
variable {ops:Array Oper}{rest:List Oper}{RR:List Res}{al:Als}{d i:Nat}{op:Op}{v:Value}{r:List (Nat×Kd)}{g t:Nat}{b:Bool}
theorem xV{o:Oper}{R:List Res}{ρ:Rp α}{X Z:α}(hv:OpX P n w0 h0 o e R h (λu=>ρ.Is h u X))(hZ:X=Z:=by first|(dsimp only<;>exact I)|exact I):OpX P n w0 h0 o e R h (λu=>ρ.Is h u Z):=hZ▸hv
theorem mmx{L R:List Res}(f:∀r∈R,r∈L:=by first|exact j5|exact tM mh0|exact tM mh1|exact tM mh2|exact tM mh3|exact tM mh4|exact tM mh5|exact tM mh6|exact tM mh7|exact tM (.tail _ mh7)|exact tM (.tail _ (.tail _ mh7))|exact tM (.tail _ (.tail _ (.tail _ mh7)))):∀r∈R,r∈L:=f
theorem lX{R:List Res}{F:Value->Prop}(hv:OpX P n w0 h0 ⟨some d,op,ty,ps,af,none⟩ e R h F)(k:∀v,F v->GL P n w0 h0 ops Q rest ((d,v)::e) L h)(hR:∀r∈R,r∈L:=by exact mmx)(hn:Nat.ble (d+1) n=true:=by exact I):GL P n w0 h0 ops Q (⟨some d,op,ty,ps,af,none⟩::rest) e L h:=zI5 hv hR hn k
theorem wX{R:List Res}{F:Value->Prop}(ho:ops.getD i default=⟨some d,op,ty,ps,af,none⟩)(hv:OpX P n w0 h0 ⟨some d,op,ty,ps,af,none⟩ e R h F)(k:∀v,F v->W P n w0 h0 ops Q RR al r ((d,v)::e) L h)(hR:∀r∈R,r∈RR:=by exact mmx)(hn:Nat.ble (d+1) n=true:=by exact I):W P n w0 h0 ops Q RR al ((i,.q)::r) e L h:=cY ho hv hR hn k
theorem xX{K:List (Nat×Value)->List Res->Mem->Prop}{R:List Res}{F:Value->Prop}(ho:ops.getD i default=⟨some d,op,ty,ps,af,none⟩)(hv:OpX P n w0 h0 ⟨some d,op,ty,ps,af,none⟩ e R h F)(k:∀v,F v->K ((d,v)::e) L h)(hR:∀r∈R,r∈RR:=by exact mmx)(hn:Nat.ble (d+1) n=true:=by exact I):SQ P n w0 h0 ops RR i e L h K:=x_qx ho hv hR hn k
theorem oX{R:List Res}{F:Value->Prop}(ho:ops.getD i default=⟨some d,op,ty,ps,af,some (g,b)⟩)(hv:OpX P n w0 h0 ⟨some d,op,ty,ps,af,none⟩ e R h F)(k:∀v,F v->W P n w0 h0 ops Q RR al r ((d,v)::e) L h)(ht:(ops[g]?).bind (·.dst)=some t:=by exact I)(he:e.lookup t=some (.bool b):=by exact I)(hR:∀r∈R,r∈RR:=by exact mmx)(hn:Nat.ble (d+1) n=true:=by exact I):W P n w0 h0 ops Q RR al ((i,.q)::r) e L h:=lZ ho ht he hv hR hn k
theorem sX{W':List (Nat×Value)->List Res->Mem->Prop}{R:List Res}{F:Value->Prop}(hv:OpX P n w0 h0 ⟨some d,op,ty,ps,af,none⟩ e R h F)(k:∀v,F v->W' ((d,v)::e) L h)(hR:∀r∈R,r∈L:=by exact mmx)(hn:Nat.ble (d+1) n=true:=by exact I):kB P n w0 h0 ops RR ⟨some d,op,ty,ps,af,none⟩ e L h W':=s_x hv hR hn k
theorem xB{t E:TypeId}{x:Operand}{b k off:Nat}{cs:List Value}{ρ:Rp α}{σ:Rp β}{g:α->β}{s:α->β->α}{X:α}{Z:β}(T:TyOk P t σ.n σ.agg)(pc:Pc ρ off σ g s){h1:Mem}(r:ρ.R h1 cs X)(hx:zH e x=some (vP b k):=by exact I)(ho:k=off:=by exact I)(hZ:g X=Z:=by first|(dsimp only<;>exact I)|exact I)(hm:MLe h1 h:=by exact mle):
 OpX P n w0 h0 ⟨ds,.load t x,ty,ps,af,gd⟩ e [.var b E cs] h (λu=>σ.Is h u Z):=zN3 T pc ho hx (r.up hm) hZ
theorem xA{t:TypeId}{x:Operand}{p:Value}{ρ:Rp α}{X:α}(T:TyOk P t ρ.n ρ.agg){h1:Mem}(r:AtP ρ h1 p X)(hx:zH e x=some p:=by exact I)(hm:MLe h1 h:=by exact mle):OpX P n w0 h0 ⟨ds,.load t x,ty,ps,af,gd⟩ e [] h (λu=>ρ.Is h u X):=zRA T hx (r.up hm)
theorem xI{t E:TypeId}{x y:Operand}{q:Int}{v:Value}{ρ:Rp α}{xs:List α}(d:α)(i:Nat)(ht:P.underlying t=some (.slice E))(T:TyOk P E ρ.n ρ.agg){h1:Mem}(r:(rpS ρ).Is h1 v xs)(hx:zH e x=some v:=by exact I)(hy:zH e y=some (vI q):=by exact I)(hq:q=(i:Int):=by first|exact rfl|(push_cast;exact I)|omega)(hi:i<xs.length:=by omega)(hp:0<ρ.n:=by exact zce I)(hm:MLe h1 h:=by exact mle):
 OpX P n w0 h0 ⟨ds,.indexAddr t x y,ty,ps,af,gd⟩ e [] h (λu=>AtP ρ h u (xs.getD i d)):=tT d i ht T hx hy (r.up hm) hq hi hp
theorem xF{t:TypeId}{x:Operand}{f off m:Nat}{fs:Array Field}{fl:Field}{p:Value}{ρ:Rp α}{σ:Rp β}{g:α->β}{s:α->β->α}{X:α}{Z:β}(ht:P.underlying t=some (.struct fs))(hsz:∀w,(Go.sizeOf fl.type).run P w=.ok (m+1) w)(pc:Pc ρ off σ g s){h1:Mem}(r:AtP ρ h1 p X)(hf:fs[f]?=some fl:=by exact I)(ho:fl.offset=off:=by exact I)(hx:zH e x=some p:=by exact I)(hZ:g X=Z:=by first|(dsimp only<;>exact I)|exact I)(hm:MLe h1 h:=by exact mle):
 OpX P n w0 h0 ⟨ds,.fieldAddr t x f,ty,ps,af,gd⟩ e [] h (λu=>AtP σ h u Z):=zV5 ht hf hsz pc ho hx (r.up hm) hZ
theorem uB{E t:TypeId}{b k off:Nat}{cs:List Value}{v:Value}{x y:Operand}{ρ:Rp α}{σ:Rp β}{g:α->β}{s:α->β->α}{X Z:α}{Y:β}(hsz:∀w,(Go.sizeOf t).run P w=.ok σ.n w)(pc:Pc ρ off σ g s){h1 h2:Mem}(r:ρ.R h1 cs X)(ry:σ.Is h2 v Y)(hx:zH e x=some (vP b k):=by exact I)(ho:k=off:=by exact I)(hy:zH e y=some v:=by exact I)(hZ:s X Y=Z:=by first|(dsimp only<;>exact I)|exact I)(hm:MLe h1 h:=by exact mle)(hm2:MLe h2 h:=by exact mle):
 ∃cs',ρ.R h cs' Z/\∀A B,Upd P n w0 h0 ⟨ds,.store t x y,ty,ps,af,gd⟩ e A (.var b E cs) B h (.var b E cs'):=yED hsz pc ho hx hy (r.up hm) (ry.up hm2) hZ
theorem pH{ρ:Rp α}:Pc ρ 0 ρ (λx=>x) (λ_ y=>y):=Pc.here ρ
theorem ev1{x:Operand}{v:Value}(hx:zH e x=some v):bD e [x] [v]:=⟨hx,y5i⟩
theorem ev2{x y:Operand}{v u:Value}(hx:zH e x=some v)(hy:zH e y=some u):bD e [x,y] [v,u]:=⟨hx,hy,y5i⟩
theorem ev3{x y z:Operand}{v u s:Value}(hx:zH e x=some v)(hy:zH e y=some u)(hz:zH e z=some s):bD e [x,y,z] [v,u,s]:=⟨hx,hy,hz,y5i⟩
theorem ev4{x y z a:Operand}{v u s c:Value}(hx:zH e x=some v)(hy:zH e y=some u)(hz:zH e z=some s)(ha:zH e a=some c):bD e [x,y,z,a] [v,u,s,c]:=⟨hx,hy,hz,ha,y5i⟩
theorem cL{f:Nat}{xs:List Operand}{ts:Array TypeId}{vs:List Value}{R:Mem->Value->Prop}(hvs:bD e xs vs)(hcall:∀args w,(callFunc f args).run P w=.ok (.enter f args) w)(hc:∀w,MLe h (mem w)->Calls P f vs.toArray w (Ret w h R))(k:∀v h',MLe h h'->R h' v->GL P n w0 h0 ops Q rest ((d,v)::e) L h')(hn:Nat.ble (d+1) n=true:=by exact I):
 GL P n w0 h0 ops Q (⟨some d,.call {callee:=.value (.func f),args:=xs.toArray,argTypes:=ts},ty,ps,af,none⟩::rest) e L h:=yGB (o:=⟨some d,.call {callee:=.value (.func f),args:=xs.toArray,argTypes:=ts},ty,ps,af,none⟩) rfl rfl rfl hn hcall hvs hc k
theorem sC{W':List (Nat×Value)->List Res->Mem->Prop}{f:Nat}{xs:List Operand}{ts:Array TypeId}{vs:List Value}{R':Mem->Value->Prop}(hvs:bD e xs vs)(hcall:∀args w,(callFunc f args).run P w=.ok (.enter f args) w)(hc:∀w,MLe h (mem w)->Calls P f vs.toArray w (Ret w h R'))(k:∀v h',MLe h h'->R' h' v->W' ((d,v)::e) L h')(hn:Nat.ble (d+1) n=true:=by exact I):
 kB P n w0 h0 ops RR ⟨some d,.call {callee:=.value (.func f),args:=xs.toArray,argTypes:=ts},ty,ps,af,none⟩ e L h W':=yJQ hcall hvs hc hn k
theorem nB{E:TypeId}{x:Operand}{v:Value}{ρ:Rp α}{X:α}{h1:Mem}(r:ρ.Is h1 v X)(k:∀b cs,ρ.R h cs X->GL P n w0 h0 ops Q rest ((d,vP b 0)::e) (.var b E cs::L) h)(hx:zH e x=some v:=by exact I)(hn:Nat.ble (d+1) n=true:=by exact I)(hm:MLe h1 h:=by exact mle):GL P n w0 h0 ops Q (⟨some d,.box E x,ty,ps,af,none⟩::rest) e L h:=
 zG (yAS hx (r.up hm)) I I hn λv q D=>by obtain⟨b,cs,rfl,rfl,C⟩:=D;exact k b cs C
theorem nA{E:TypeId}{i:TypeInfo}{z:Value}{cs:List Value}{ρ:Rp α}{X:α}(hi:P.info? E=some i)(r:ρ.R h cs X)(k:∀b cs,ρ.R h cs X->GL P n w0 h0 ops Q rest ((d,vP b 0)::e) (.var b E cs::L) h)(hz:i.zero=some z:=by exact I)(hc:z.cells=cs.toArray:=by exact I)(hn:Nat.ble (d+1) n=true:=by exact I):GL P n w0 h0 ops Q (⟨some d,.alloc E,ty,ps,af,none⟩::rest) e L h:=
 zG (zRZ hi hz hc r) I I hn λv q D=>by obtain⟨b,cs,rfl,rfl,C⟩:=D;exact k b cs C
theorem cnd{c:Operand}{x y:Code}{p:Prop}(kt:p->GC P n w0 h0 x Q e L h)(kf:¬p->GC P n w0 h0 y Q e L h)(hc:zH e c=some (vB p):=by exact I):GC P n w0 h0 (.cond c x y) Q e L h:=yGC hc kt kf
theorem gT{p:Prop}{v:Operand}(hg:p)(hv:zH e v=some (vB p))(k:GL P n w0 h0 ops Q rest ((d,.bool true)::e) L h)(hn:Nat.ble (d+1) n=true:=by exact I):GL P n w0 h0 ops Q (⟨some d,.move v,ty,ps,af,none⟩::rest) e L h:=eP (xG (hv.trans (y4e (xW hg)))) I I hn k
theorem gF{p:Prop}{v:Operand}(hg:¬p)(hv:zH e v=some (vB p))(k:GL P n w0 h0 ops Q rest ((d,.bool false)::e) L h)(hn:Nat.ble (d+1) n=true:=by exact I):GL P n w0 h0 ops Q (⟨some d,.move v,ty,ps,af,none⟩::rest) e L h:=eP (xG (hv.trans (y4e (yM hg)))) I I hn k
theorem gU{l:List Oper}(j t:Nat)(v:Value)(kx:GL P n w0 h0 ops (Exit.then (λa w=>∃i:Unit,True/\Env n ((t,v)::e) a/\St w0 h0 L h w) Q) (l.take j) e L h)(ky:GL P n w0 h0 ops Q (l.drop j) ((t,v)::e) L h):GL P n w0 h0 ops Q l e L h:=qH j (λ_=>True) (λ_=>(t,v)::e) (λ_=>L) (λ_=>h) kx λ_ _=>ky
@[reducible] def zXP:List Nat->List (Nat×Value)->List (Nat×Value)->Prop
  |_,[],_=>True
  |s,(t,v)::r,e=>(if s.contains t then True else e.lookup t=some v)/\zXP (t::s) r e
theorem zXP.look{e:List (Nat×Value)}:∀{e0:List (Nat×Value)} {s:List Nat},zXP s e0 e->∀t v,s.contains t=false->e0.lookup t=some v->e.lookup t=some v
  |[],_,_,t,v,_,h=>by simp at h
  |(k,u)::r,s,hs,t,v,hn,h=>by
   simp only[z5u] at h
   by_cases ht:t=k
   · subst ht
     simp at h;subst h;have:=hs.1
     rwa [zae (by rw[hn];simp)] at this
   · have h1:(t==k)=false:=by simpa using ht
     rw[h1] at h;refine zXP.look hs.2 t v ?_ h;rw[List.contains_cons,h1,hn];rfl
theorem Env.subS{e0:List (Nat×Value)}{a:Act}(E:Env n e a)(h:zXP [] e0 e):Env n e0 a:=⟨E.defers,E.size,λt v ht=>E.get t v (h.look t v rfl ht)⟩
theorem gqU{e0:List (Nat×Value)}{t:Nat}{v:Value}(hv:e.lookup t=some v)(hs:zXP [t] e0 e:=by repeat (first|exact trivial|refine⟨by first|exact rfl|exact trivial,?_⟩)):GQ n w0 h0 (Exit.then (λa w=>∃i:Unit,True/\Env n ((t,v)::e0) a/\St w0 h0 L h w) Q) .normal e L h:=λa w E S=>⟨(),y5i,E.subS ⟨hv,hs⟩,S⟩
theorem gcL{ι:Type}{c:Code}{A:Prop}(S:ι->Prop×List (Nat×Value)×List Res×Mem×Nat)(i0:ι)(hi0:A)(round:∀i,(S i).1->GC P n w0 h0 c (Exit.then (λa w=>∃j,((S j).1/\(S j).2.2.2.2<(S i).2.2.2.2)/\Env n (S j).2.1 a/\St w0 h0 (S j).2.2.1 (S j).2.2.2.1 w) Q) (S i).2.1 (S i).2.2.1 (S i).2.2.2.1)
    (hA:(S i0).1=A:=by first|(dsimp only<;>exact I)|exact I)(he:Sub (S i0).2.1 e:=by repeat (first|exact trivial|refine⟨I,?_⟩))(hL:(S i0).2.2.1=L:=by exact I)(hh:(S i0).2.2.2.1=h:=by exact I):GC P n w0 h0 (.loop c) Q e L h:=
 gR (λi=>(S i).1) (λi=>(S i).2.1) (λi=>(S i).2.2.1) (λi=>(S i).2.2.2.1) (λi=>(S i).2.2.2.2) i0 (hA▸hi0) he hL hh round
theorem gqL{ι:Type}{A:Prop}{B M m:Nat}{S:ι->Prop×List (Nat×Value)×List Res×Mem×Nat}(i:ι)(hi:A)(hm:B<M)(hA:(S i).1=A:=by first|(dsimp only<;>exact I)|exact I)(hB:(S i).2.2.2.2=B:=by first|(dsimp only<;>exact I)|exact I)(hM:m=M:=by first|(dsimp only<;>exact I)|exact I)(he:Sub (S i).2.1 e:=by repeat (first|exact trivial|refine⟨I,?_⟩))(hL:(S i).2.2.1=L:=by exact I)(hh:(S i).2.2.2.1=h:=by exact I):
 GQ n w0 h0 (Exit.then (λa w=>∃j,((S j).1/\(S j).2.2.2.2<m)/\Env n (S j).2.1 a/\St w0 h0 (S j).2.2.1 (S j).2.2.2.1 w) Q) .normal e L h:=
 jW (inv:=λi=>(S i).1) (ev:=λi=>(S i).2.1) (Lv:=λi=>(S i).2.2.1) (hv:=λi=>(S i).2.2.2.1) (μ:=λi=>(S i).2.2.2.2) i (hA▸hi) (by rw[hM];exact hB▸hm) he hL hh
theorem cb0{f:FuncId}{fn:Func}{c:Code}{R:Ending->World->Prop}(n:Nat)(hf:P.funcs[f]?=some fn)(hs:MLe h0 (mem w0))(k:GC P n w0 h0 c (bodyPost P fn R) [] [] h0)(hb:fn.body=some c:=by exact I)(hn:fn.ntmps=n:=by exact I)(hl:([]:List Value).length<=n:=by exact zce I):Calls P f #[] w0 R:=jT (e:=[]) (vs:=[]) hf hb hn hl hs trivial k
theorem cb1{f:FuncId}{fn:Func}{c:Code}{R:Ending->World->Prop}(n:Nat)(v:Value)(hf:P.funcs[f]?=some fn)(hs:MLe h0 (mem w0))(k:GC P n w0 h0 c (bodyPost P fn R) [(0,v)] [] h0)(hb:fn.body=some c:=by exact I)(hn:fn.ntmps=n:=by exact I)(hl:[v].length<=n:=by exact zce I):Calls P f #[v] w0 R:=jT (e:=[(0,v)]) (vs:=[v]) hf hb hn hl hs ⟨I,y5i⟩ k
theorem cb2{f:FuncId}{fn:Func}{c:Code}{R:Ending->World->Prop}(n:Nat)(v u:Value)(hf:P.funcs[f]?=some fn)(hs:MLe h0 (mem w0))(k:GC P n w0 h0 c (bodyPost P fn R) [(0,v),(1,u)] [] h0)(hb:fn.body=some c:=by exact I)(hn:fn.ntmps=n:=by exact I)(hl:[v,u].length<=n:=by exact zce I):Calls P f #[v,u] w0 R:=jT (e:=[(0,v),(1,u)]) (vs:=[v,u]) hf hb hn hl hs e2z k
theorem cb3{f:FuncId}{fn:Func}{c:Code}{R:Ending->World->Prop}(n:Nat)(v u s:Value)(hf:P.funcs[f]?=some fn)(hs:MLe h0 (mem w0))(k:GC P n w0 h0 c (bodyPost P fn R) [(0,v),(1,u),(2,s)] [] h0)(hb:fn.body=some c:=by exact I)(hn:fn.ntmps=n:=by exact I)(hl:[v,u,s].length<=n:=by exact zce I):Calls P f #[v,u,s] w0 R:=jT (e:=[(0,v),(1,u),(2,s)]) (vs:=[v,u,s]) hf hb hn hl hs e3z k
theorem yY{c:Code}{e':List (Nat×Value)}{L':List Res}{h':Mem}(k:GC P n w0 h0 c Q e' L' h')(he:e=e':=by first|(dsimp only<;>exact I)|exact I)(hL:L=L':=by first|(dsimp only<;>exact I)|exact I)(hh:h=h':=by first|(dsimp only<;>exact I)|exact I):GC P n w0 h0 c Q e L h:=by subst he hL hh;exact k
theorem rA{l:List Oper}{e':List (Nat×Value)}{L':List Res}{h':Mem}(k:GL P n w0 h0 ops Q l e' L' h')(he:e=e':=by first|(dsimp only<;>exact I)|exact I)(hL:L=L':=by first|(dsimp only<;>exact I)|exact I)(hh:h=h':=by first|(dsimp only<;>exact I)|exact I):GL P n w0 h0 ops Q l e L h:=by subst he hL hh;exact k
end
end Bk
namespace Bk
open Go Go.RowKit
def frc(x:Nat)(f:Nat->Bool):Bool:=match x with|0=>f 0|n+1=>f (n+1)
theorem yLI(x:Nat)(f:Nat->Bool):frc x f=f x:=by cases x<;>rfl
def yGD:List Nat->(List Nat->Bool)->Bool
  |[],f=>f []
  |x::r,f=>frc x λy=>yGD r λys=>f (y::ys)
theorem zUB:∀(l:List Nat) (f:List Nat->Bool),yGD l f=f l
  |[],f=>rfl
  |x::r,f=>by show frc x _=_;rw[yLI,zUB r]
def zUR(l:List Oper)(m:Nat)(al:Als)(ord:List (Nat×Kd)):Bool:=
 Region.noSelect l.toArray&&cX l.toArray al&&(al.all λx=>decide (x.1<m))&&(l.all λo=>o.after.all λe=>decide (e.on<l.length))&&(yGD (l.map zCX) λams=>yGD ((List.range l.length).map (zPL l.toArray ams)) λfrs=>oD l.toArray l.length m ams frs ord 0 (al.map (·.1)))
theorem wL{l:List Oper}{m:Nat}{al:Als}{ord:List (Nat×Kd)}(h:zUR l m al ord=true):
 (Region.noSelect l.toArray&&cX l.toArray al&&(al.all λx=>decide (x.1<m))&&chk l.toArray m ord (Array.replicate l.length false) (al.map (·.1)))=true:=by
 refine yLX (l.map zCX) ((List.range l.length).map (zPL l.toArray (l.map zCX))) ?_;simp only[zUR,zbu,zUB] at h;simp only[zSR,zbu];exact⟨⟨h.1,by simp[iH]⟩,h.2⟩
end Bk
namespace Go.Proofs.YtpkaegemlpaenaaGreat
open Bk Go Tryz
instance:Und prog 22:=⟨_,underlying22⟩
instance:Und prog 27:=⟨_,underlying27⟩
instance:Und prog 29:=⟨_,underlying29⟩
instance:Und prog 31:=⟨_,underlying31⟩
instance:Und prog 35:=⟨_,underlying35⟩
instance:Und prog 36:=⟨_,underlying36⟩
instance:Und prog 37:=⟨_,underlying37⟩
instance:Und prog 39:=⟨_,underlying39⟩
instance:Und prog 50:=⟨_,underlying50⟩
instance:Und prog 51:=⟨_,underlying51⟩
instance:Und prog 53:=⟨_,underlying53⟩
instance:Und prog 56:=⟨_,underlying56⟩
instance:Und prog 58:=⟨_,underlying58⟩
instance:Und prog 72:=⟨_,underlying72⟩
instance:Und prog 76:=⟨_,underlying76⟩
instance:Und prog 96:=⟨_,underlying96⟩
instance:Und prog 97:=⟨_,underlying97⟩
instance:Und prog 99:=⟨_,underlying99⟩
instance:Und prog 118:=⟨_,underlying118⟩
instance:Und prog 124:=⟨_,underlying124⟩
instance:Und prog 125:=⟨_,underlying125⟩
instance:Und prog 133:=⟨_,underlying133⟩
instance:Und prog 140:=⟨_,underlying140⟩
instance:Und prog 151:=⟨_,underlying151⟩
instance:Und prog 153:=⟨_,underlying153⟩
instance:Und prog 163:=⟨_,underlying163⟩
instance:Und prog 165:=⟨_,underlying165⟩
instance:Siz prog 3:=⟨_,sizeOf3⟩
instance:Siz prog 4:=⟨_,sizeOf4⟩
instance:Siz prog 9:=⟨_,sizeOf9⟩
instance:Siz prog 22:=⟨_,sizeOf22⟩
instance:Siz prog 27:=⟨_,sizeOf27⟩
instance:Siz prog 29:=⟨_,sizeOf29⟩
instance:Siz prog 31:=⟨_,sizeOf31⟩
instance:Siz prog 35:=⟨_,sizeOf35⟩
instance:Siz prog 36:=⟨_,sizeOf36⟩
instance:Siz prog 37:=⟨_,sizeOf37⟩
instance:Siz prog 50:=⟨_,sizeOf50⟩
instance:Siz prog 51:=⟨_,sizeOf51⟩
instance:Siz prog 56:=⟨_,sizeOf56⟩
instance:Siz prog 76:=⟨_,sizeOf76⟩
instance:Siz prog 96:=⟨_,sizeOf96⟩
instance:Siz prog 97:=⟨_,sizeOf97⟩
instance:Agg prog 3:=⟨_,isAgg3⟩
instance:Agg prog 4:=⟨_,isAgg4⟩
instance:Agg prog 22:=⟨_,isAgg22⟩
instance:Agg prog 27:=⟨_,isAgg27⟩
instance:Agg prog 124:=⟨_,isAgg124⟩
instance:Inf prog 29:=⟨_,yF⟩
theorem zRE{P:Program}{n:Nat}{w0:World}{h0 h:Mem}{e:List (Nat×Value)}{L:List Res}{ds:Option Tmp}{ty:TypeId}{ps:String}{af:Array Edge}{gd:Option (Nat×Bool)}{t:TypeId}{x:Operand}{b k:Nat}{E:TypeId}{cs:List Value}{u v s:Value}{d:TypeDesc}(hm:.var b E cs∈L)(hu:P.underlying t=some d)(hd:d.isRow=true)(hi:(P.info? t).map (·.size)=some 3)(hx:zH e x=some (vP b k))(hv:(cs.drop k).take 3=[u,v,s]):OpV P n w0 h0 ⟨ds,.load t x,ty,ps,af,gd⟩ e L h (.agg #[u,v,s]):=zN6 (vs:=[u,v,s]) hm hu hd hi hx hv
theorem ov{P:Program}{n:Nat}{w0:World}{h0 h:Mem}{o:Oper}{e:List (Nat×Value)}{L:List Res}{v:Value}(f:OpV P n w0 h0 o e L h v:=by first|exact yS I rfl|exact zBR I rfl|exact bW I rfl|exact zGW I rfl|exact rR I rfl|exact zBQ I rfl|exact yD I I zot zot|exact qT I I zot zot|exact vW uu I (by with_reducible first|assumption|exact Us.up zo4)|exact jN uu I (by with_reducible first|assumption|exact Rp.Is.up zo4)|exact sP (vs:=[_,_]) I rfl|exact sP (vs:=[_,_,_]) I rfl|exact mP I rfl|exact(fH uu (by simp only[yuu,ybu,ysu]<;>exact I) uz I).cv (zbi (vP _) zoz)|exact(zW 0 uu uz I I I zox).cv (zbi (vP _) zoz)|exact(zW 1 uu uz I I I zox).cv (zbi (vP _) zoz)|exact(zW 2 uu uz I I I zox).cv (zbi (vP _) zoz)|exact zRE (by first|exact mh0|exact mh1|exact mh2|exact mh3|exact mh4|exact mh5) uu (by exact I) us_ I rfl|exact mQ I rfl|exact zRB rfl|exact fS I rfl|exact tU I rfl|exact zGT I rfl|exact cK I rfl|exact mT I rfl|exact dA (by first|exact mh0|exact mh1|exact mh2|exact mh3|exact mh4|exact mh5) ua I rfl|exact tI (k:=.u64) (k':=.u32) (W:=4294967296) uu uu I I rfl|exact vX (k:=.u32) (k':=.u64) (W:=18446744073709551616) uu uu I I I zot|exact sQ (k:=.u64) (W:=18446744073709551616) I I I I zot|exact iZ (k:=.u64) (W:=18446744073709551616) I I I I zot|exact fQ (k:=.u64) (s:=32) (yk:=.u64) I I I (by simp only[ub];omega)|exact wB ua I (by with_reducible first|assumption|exact Us.up zo4) zot):OpV P n w0 h0 o e L h v:=f
theorem ovq{P:Program}{n:Nat}{w0:World}{h0 h:Mem}{o:Oper}{e:List (Nat×Value)}{v:Value}(f:∀h' L',OpV P n w0 h0 o e L' h' v:=by intro h' L';first|exact yS I rfl|exact zBR I rfl|exact bW I rfl|exact zGW I rfl|exact rR I rfl|exact zBQ I rfl|exact yD I I zot zot|exact qT I I zot zot|exact vW uu I (by with_reducible first|assumption|exact Us.up zo4)|exact jN uu I (by with_reducible first|assumption|exact Rp.Is.up zo4)|exact sP (vs:=[_,_]) I rfl|exact sP (vs:=[_,_,_]) I rfl|exact mP I rfl|exact(fH uu (by simp only[yuu,ybu,ysu]<;>exact I) uz I).cv (zbi (vP _) zoz)|exact(zW 0 uu uz I I I zox).cv (zbi (vP _) zoz)|exact(zW 1 uu uz I I I zox).cv (zbi (vP _) zoz)|exact(zW 2 uu uz I I I zox).cv (zbi (vP _) zoz)|exact zRE (by first|exact mh0|exact mh1|exact mh2|exact mh3|exact mh4|exact mh5) uu (by exact I) us_ I rfl|exact mQ I rfl|exact zRB rfl|exact fS I rfl|exact tU I rfl|exact zGT I rfl|exact cK I rfl|exact mT I rfl|exact dA (by first|exact mh0|exact mh1|exact mh2|exact mh3|exact mh4|exact mh5) ua I rfl|exact tI (k:=.u64) (k':=.u32) (W:=4294967296) uu uu I I rfl|exact vX (k:=.u32) (k':=.u64) (W:=18446744073709551616) uu uu I I I zot|exact sQ (k:=.u64) (W:=18446744073709551616) I I I I zot|exact iZ (k:=.u64) (W:=18446744073709551616) I I I I zot|exact fQ (k:=.u64) (s:=32) (yk:=.u64) I I I (by simp only[ub];omega)|exact wB ua I (by with_reducible first|assumption|exact Us.up zo4) zot):∀h' L',OpV P n w0 h0 o e L' h' v:=f
theorem yE2{α:Type}{ρ:Rp α}{h h':Mem}{v:Value}{x:α}(r:ρ.Is h v x)(hh:MLe h h'):ρ.Is h' v x:=r.mono hh
theorem ovm{P:Program}{n:Nat}{w0:World}{h0 h:Mem}{o:Oper}{e:List (Nat×Value)}{R:List Res}{v:Value}(f:∀h' L',MLe h h'->(∀r∈R,r∈L')->OpV P n w0 h0 o e L' h' v:=by intro h' L' hh hR;first|exact yS I rfl|exact zBR I rfl|exact bW I rfl|exact zGW I rfl|exact rR I rfl|exact zBQ I rfl|exact yD I I zot zot|exact qT I I zot zot|exact vW uu I (Us.mono (by with_reducible first|assumption|exact Us.up zo4) hh)|exact jN uu I (yE2 (by with_reducible first|assumption|exact Rp.Is.up zo4) hh)|exact sP (vs:=[_,_]) I rfl|exact sP (vs:=[_,_,_]) I rfl|exact mP I rfl|exact(fH uu (by simp only[yuu,ybu,ysu]<;>exact I) uz I).cv (zbi (vP _) zoz)|exact(zW 0 uu uz I I I zox).cv (zbi (vP _) zoz)|exact(zW 1 uu uz I I I zox).cv (zbi (vP _) zoz)|exact(zW 2 uu uz I I I zox).cv (zbi (vP _) zoz)|exact zRE (hR _ (by first|exact mh0|exact mh1|exact mh2|exact mh3|exact mh4|exact mh5)) uu (by exact I) us_ I rfl|exact mQ I rfl|exact zRB rfl|exact fS I rfl|exact tU I rfl|exact zGT I rfl|exact cK I rfl|exact mT I rfl|exact dA (hR _ (by first|exact mh0|exact mh1|exact mh2|exact mh3|exact mh4|exact mh5)) ua I rfl|exact tI (k:=.u64) (k':=.u32) (W:=4294967296) uu uu I I rfl|exact vX (k:=.u32) (k':=.u64) (W:=18446744073709551616) uu uu I I I zot|exact sQ (k:=.u64) (W:=18446744073709551616) I I I I zot|exact iZ (k:=.u64) (W:=18446744073709551616) I I I I zot|exact fQ (k:=.u64) (s:=32) (yk:=.u64) I I I (by simp only[ub];omega)|exact wB ua I (Us.mono (by with_reducible first|assumption|exact Us.up zo4) hh) zot):∀h' L',MLe h h'->(∀r∈R,r∈L')->OpV P n w0 h0 o e L' h' v:=f
theorem isGC{P:Program}{n:Nat}{w0:World}{h0 h:Mem}{Q:Exit->Act->World->Prop}{e:List (Nat×Value)}{L:List Res}{c:Code}(k:GC P n w0 h0 c Q e L h):GC P n w0 h0 c Q e L h:=k
theorem isGQ{n:Nat}{w0:World}{h0 h:Mem}{Q:Exit->Act->World->Prop}{e:List (Nat×Value)}{L:List Res}{x:Exit}(k:GQ n w0 h0 Q x e L h):GQ n w0 h0 Q x e L h:=k
theorem isGL{P:Program}{n:Nat}{w0:World}{h0 h:Mem}{Q:Exit->Act->World->Prop}{e:List (Nat×Value)}{L:List Res}{ops:Array Oper}{l:List Oper}(k:GL P n w0 h0 ops Q l e L h):GL P n w0 h0 ops Q l e L h:=k
theorem isW{P:Program}{n:Nat}{w0:World}{h0 h:Mem}{Q:Exit->Act->World->Prop}{e:List (Nat×Value)}{L:List Res}{R:List Res}{ops:Array Oper}{al:Als}{r:List (Nat×Kd)}(k:W P n w0 h0 ops Q R al r e L h):W P n w0 h0 ops Q R al r e L h:=k
structure Kp(p:Prop):Prop where out:p
theorem isGV{P:Program}{n:Nat}{w0:World}{h0 h:Mem}{Q:Exit->Act->World->Prop}{e:List (Nat×Value)}{L:List Res}{ops:Array Oper}{rest:List Oper}{d:Nat}{op:Op}{ty:TypeId}{ps:String}{af:Array Edge}(k:GL P n w0 h0 ops Q (⟨some d,op,ty,ps,af,none⟩::rest) e L h):GL P n w0 h0 ops Q (⟨some d,op,ty,ps,af,none⟩::rest) e L h:=k
theorem isMV{P:Program}{n:Nat}{w0:World}{h0 h:Mem}{Q:Exit->Act->World->Prop}{e:List (Nat×Value)}{L:List Res}{ops:Array Oper}{rest:List Oper}{d:Nat}{x:Operand}{ty:TypeId}{ps:String}{af:Array Edge}(k:GL P n w0 h0 ops Q (⟨some d,.move x,ty,ps,af,none⟩::rest) e L h):GL P n w0 h0 ops Q (⟨some d,.move x,ty,ps,af,none⟩::rest) e L h:=k
theorem isAS{P:Program}{n:Nat}{w0:World}{h0 h:Mem}{Q:Exit->Act->World->Prop}{e:List (Nat×Value)}{L:List Res}{ops:Array Oper}{rest:List Oper}{d:Nat}{x:Operand}{ty:TypeId}{ps:String}{af:Array Edge}(k:GL P n w0 h0 ops Q (⟨some d,.assign x,ty,ps,af,none⟩::rest) e L h):GL P n w0 h0 ops Q (⟨some d,.assign x,ty,ps,af,none⟩::rest) e L h:=k
theorem st{G G':Prop}(k:G')(f:Kp G'->G:=by intro k;first|((with_reducible refine isGL ?_);first|((with_reducible refine isMV ?_);first|exact mv (v:=vI _) I I k.out|exact mv I I k.out)|((with_reducible refine isAS ?_);first|exact asg (v:=vI _) I I k.out|exact asg I I k.out)|with_reducible exact wN k.out|((with_reducible refine isGV ?_);refine gv ov I ?_;exact k.out)|exact zDX I I I I I I k.out|exact zKE I I I k.out|exact yGA I I I I I k.out|exact wN k.out|exact mv (v:=vI _) I I k.out|exact mv I I k.out|exact asg (v:=vI _) I I k.out|exact asg I I k.out|(refine gv ov I ?_;exact k.out))|((with_reducible refine isGC ?_);first|with_reducible exact wA k.out|with_reducible exact yI k.out|with_reducible exact fY k.out|with_reducible exact rZ k.out|with_reducible exact nN k.out|with_reducible exact zH0 k.out|exact zKF I k.out|exact zXA I k.out)|((with_reducible refine isGQ ?_);first|with_reducible exact yX k.out|with_reducible exact zCG k.out|with_reducible exact rG k.out|with_reducible exact nL k.out|with_reducible exact zFR k.out|with_reducible exact zT7 k.out|exact zMP I k.out)|((with_reducible refine isW ?_);first|with_reducible exact zFY k.out|exact mE I I I k.out|exact zXV I I I k.out|exact kC I I I I I k.out|exact zXW I I I I k.out|(refine wZ I ovq I ?_;exact k.out)|(refine w_q I ovm I ?_;exact k.out)|(refine yV I I I ovm I ?_;exact k.out)|exact zFY k.out)):G:=f ⟨k⟩
theorem go1{G G':Prop}(k:G')(f:Kp G'->G:=by intro k;refine st ?_;exact k.out):G:=f ⟨k⟩
theorem go2{G G':Prop}(k:G')(f:Kp G'->G:=by intro k;refine st ?_;refine st ?_;exact k.out):G:=f ⟨k⟩
theorem go3{G G':Prop}(k:G')(f:Kp G'->G:=by intro k;refine st ?_;refine st ?_;refine st ?_;exact k.out):G:=f ⟨k⟩
theorem go4{G G':Prop}(k:G')(f:Kp G'->G:=by intro k;refine st ?_;refine st ?_;refine st ?_;refine st ?_;exact k.out):G:=f ⟨k⟩
theorem go5{G G':Prop}(k:G')(f:Kp G'->G:=by intro k;refine st ?_;refine st ?_;refine st ?_;refine st ?_;refine st ?_;exact k.out):G:=f ⟨k⟩
theorem go6{G G':Prop}(k:G')(f:Kp G'->G:=by intro k;refine st ?_;refine st ?_;refine st ?_;refine st ?_;refine st ?_;refine st ?_;exact k.out):G:=f ⟨k⟩
theorem go7{G G':Prop}(k:G')(f:Kp G'->G:=by intro k;refine st ?_;refine st ?_;refine st ?_;refine st ?_;refine st ?_;refine st ?_;refine st ?_;exact k.out):G:=f ⟨k⟩
theorem go8{G G':Prop}(k:G')(f:Kp G'->G:=by intro k;refine st ?_;refine st ?_;refine st ?_;refine st ?_;refine st ?_;refine st ?_;refine st ?_;refine st ?_;exact k.out):G:=f ⟨k⟩
theorem go9{G G':Prop}(k:G')(f:Kp G'->G:=by intro k;refine go8 ?_;refine st ?_;exact k.out):G:=f ⟨k⟩
theorem uR{G G':Prop}(k:G')(f:Kp G'->G:=by intro k;refine go8 ?_;refine st ?_;refine st ?_;exact k.out):G:=f ⟨k⟩
theorem qE{G G':Prop}(k:G')(f:Kp G'->G:=by intro k;refine go8 ?_;refine st ?_;refine st ?_;refine st ?_;exact k.out):G:=f ⟨k⟩
theorem qC{G G':Prop}(k:G')(f:Kp G'->G:=by intro k;refine go8 ?_;refine st ?_;refine st ?_;refine st ?_;refine st ?_;exact k.out):G:=f ⟨k⟩
theorem rS{G G':Prop}(k:G')(f:Kp G'->G:=by intro k;refine go8 ?_;refine st ?_;refine st ?_;refine st ?_;refine st ?_;refine st ?_;exact k.out):G:=f ⟨k⟩
theorem sH{G G':Prop}(k:G')(f:Kp G'->G:=by intro k;refine go8 ?_;refine st ?_;refine st ?_;refine st ?_;refine st ?_;refine st ?_;refine st ?_;exact k.out):G:=f ⟨k⟩
theorem cD{G G':Prop}(k:G')(f:Kp G'->G:=by intro k;refine go8 ?_;refine st ?_;refine st ?_;refine st ?_;refine st ?_;refine st ?_;refine st ?_;refine st ?_;exact k.out):G:=f ⟨k⟩
theorem dQ{G G':Prop}(k:G')(f:Kp G'->G:=by intro k;refine go8 ?_;refine go8 ?_;exact k.out):G:=f ⟨k⟩
theorem nY{G G':Prop}(k:G')(f:Kp G'->G:=by intro k;refine go8 ?_;refine go8 ?_;refine st ?_;exact k.out):G:=f ⟨k⟩
theorem yF9{G G':Prop}(k:G')(f:Kp G'->G:=by intro k;refine go8 ?_;refine go8 ?_;refine st ?_;refine st ?_;exact k.out):G:=f ⟨k⟩
theorem yCD{G G':Prop}(k:G')(f:Kp G'->G:=by intro k;refine go8 ?_;refine go8 ?_;refine st ?_;refine st ?_;refine st ?_;exact k.out):G:=f ⟨k⟩
theorem go20{G G':Prop}(k:G')(f:Kp G'->G:=by intro k;refine go8 ?_;refine go8 ?_;refine st ?_;refine st ?_;refine st ?_;refine st ?_;exact k.out):G:=f ⟨k⟩
theorem go22{G G':Prop}(k:G')(f:Kp G'->G:=by intro k;refine go8 ?_;refine go8 ?_;refine st ?_;refine st ?_;refine st ?_;refine st ?_;refine st ?_;refine st ?_;exact k.out):G:=f ⟨k⟩
theorem go23{G G':Prop}(k:G')(f:Kp G'->G:=by intro k;refine go8 ?_;refine go8 ?_;refine st ?_;refine st ?_;refine st ?_;refine st ?_;refine st ?_;refine st ?_;refine st ?_;exact k.out):G:=f ⟨k⟩
theorem go24{G G':Prop}(k:G')(f:Kp G'->G:=by intro k;refine go8 ?_;refine go8 ?_;refine go8 ?_;exact k.out):G:=f ⟨k⟩
theorem go30{G G':Prop}(k:G')(f:Kp G'->G:=by intro k;refine go8 ?_;refine go8 ?_;refine go8 ?_;refine st ?_;refine st ?_;refine st ?_;refine st ?_;refine st ?_;refine st ?_;exact k.out):G:=f ⟨k⟩
theorem gc2{G G1 G2:Prop}{p:Prop}(kt:p->G1)(kf:¬p->G2)(f:(p->Kp G1)->(¬p->Kp G2)->G:=by intro a b;refine st ?_;refine st ?_;exact cnd (λh=>(a h).out) λh=>(b h).out):G:=f (λh=>⟨kt h⟩) λh=>⟨kf h⟩
theorem gc3{G G1 G2:Prop}{p:Prop}(kt:p->G1)(kf:¬p->G2)(f:(p->Kp G1)->(¬p->Kp G2)->G:=by intro a b;refine st ?_;refine st ?_;refine st ?_;exact cnd (λh=>(a h).out) λh=>(b h).out):G:=f (λh=>⟨kt h⟩) λh=>⟨kf h⟩
theorem gc4{G G1 G2:Prop}{p:Prop}(kt:p->G1)(kf:¬p->G2)(f:(p->Kp G1)->(¬p->Kp G2)->G:=by intro a b;refine st ?_;refine st ?_;refine st ?_;refine st ?_;exact cnd (λh=>(a h).out) λh=>(b h).out):G:=f (λh=>⟨kt h⟩) λh=>⟨kf h⟩
theorem gc5{G G1 G2:Prop}{p:Prop}(kt:p->G1)(kf:¬p->G2)(f:(p->Kp G1)->(¬p->Kp G2)->G:=by intro a b;refine st ?_;refine st ?_;refine st ?_;refine st ?_;refine st ?_;exact cnd (λh=>(a h).out) λh=>(b h).out):G:=f (λh=>⟨kt h⟩) λh=>⟨kf h⟩
theorem gc6{G G1 G2:Prop}{p:Prop}(kt:p->G1)(kf:¬p->G2)(f:(p->Kp G1)->(¬p->Kp G2)->G:=by intro a b;refine st ?_;refine st ?_;refine st ?_;refine st ?_;refine st ?_;refine st ?_;exact cnd (λh=>(a h).out) λh=>(b h).out):G:=f (λh=>⟨kt h⟩) λh=>⟨kf h⟩
theorem gc7{G G1 G2:Prop}{p:Prop}(kt:p->G1)(kf:¬p->G2)(f:(p->Kp G1)->(¬p->Kp G2)->G:=by intro a b;refine st ?_;refine st ?_;refine st ?_;refine st ?_;refine st ?_;refine st ?_;refine st ?_;exact cnd (λh=>(a h).out) λh=>(b h).out):G:=f (λh=>⟨kt h⟩) λh=>⟨kf h⟩
theorem gc8{G G1 G2:Prop}{p:Prop}(kt:p->G1)(kf:¬p->G2)(f:(p->Kp G1)->(¬p->Kp G2)->G:=by intro a b;refine st ?_;refine st ?_;refine st ?_;refine st ?_;refine st ?_;refine st ?_;refine st ?_;refine st ?_;exact cnd (λh=>(a h).out) λh=>(b h).out):G:=f (λh=>⟨kt h⟩) λh=>⟨kf h⟩
theorem gc9{G G1 G2:Prop}{p:Prop}(kt:p->G1)(kf:¬p->G2)(f:(p->Kp G1)->(¬p->Kp G2)->G:=by intro a b;refine st ?_;refine st ?_;refine st ?_;refine st ?_;refine st ?_;refine st ?_;refine st ?_;refine st ?_;refine st ?_;exact cnd (λh=>(a h).out) λh=>(b h).out):G:=f (λh=>⟨kt h⟩) λh=>⟨kf h⟩
theorem zAY{G G1 G2:Prop}{p:Prop}(kt:p->G1)(kf:¬p->G2)(f:(p->Kp G1)->(¬p->Kp G2)->G:=by intro a b;refine st ?_;refine st ?_;refine st ?_;refine st ?_;refine st ?_;refine st ?_;refine st ?_;refine st ?_;refine st ?_;refine st ?_;exact cnd (λh=>(a h).out) λh=>(b h).out):G:=f (λh=>⟨kt h⟩) λh=>⟨kf h⟩
theorem zD0{G G1 G2:Prop}{p:Prop}(kt:p->G1)(kf:¬p->G2)(f:(p->Kp G1)->(¬p->Kp G2)->G:=by intro a b;refine st ?_;refine st ?_;refine st ?_;refine st ?_;refine st ?_;refine st ?_;refine st ?_;refine st ?_;refine st ?_;refine st ?_;refine st ?_;exact cnd (λh=>(a h).out) λh=>(b h).out):G:=f (λh=>⟨kt h⟩) λh=>⟨kf h⟩
theorem zI8{G G1 G2:Prop}{p:Prop}(kt:p->G1)(kf:¬p->G2)(f:(p->Kp G1)->(¬p->Kp G2)->G:=by intro a b;refine st ?_;refine st ?_;refine st ?_;refine st ?_;refine st ?_;refine st ?_;refine st ?_;refine st ?_;refine st ?_;refine st ?_;refine st ?_;refine st ?_;exact cnd (λh=>(a h).out) λh=>(b h).out):G:=f (λh=>⟨kt h⟩) λh=>⟨kf h⟩
end Go.Proofs.YtpkaegemlpaenaaGreat
