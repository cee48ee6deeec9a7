/- Texts that the proof needs, part 2. -/
import Derived.Test.YtpkaegemlpaenaaGreatKC1
set_option linter.unusedVariables false
set_option linter.unusedSimpArgs false
namespace Bk
open Go Go.RowKit
open Classical
noncomputable def sg(s:Prop)(n:Nat):Int:=if s then -(n:Int) else n
theorem eQ{s:Prop}(h:s)(n:Nat):sg s n= -(n:Int):=if_pos h
theorem eR{s:Prop}(h:¬s)(n:Nat):sg s n=n:=if_neg h
theorem dD(s:Prop)(n:Nat):(sg s n).natAbs=n:=by
 by_cases h:s
 · rw[eQ h];omega
 · rw[eR h];omega
theorem yBA(s:Prop):sg s 0=0:=by
 by_cases h:s
 · rw[eQ h];omega
 · rw[eR h];omega
theorem zVP(s:Prop)(n:Nat):sg s n<0↔s/\n≠0:=by
 by_cases h:s
 · rw[eQ h];exact⟨λh1=>⟨h,by omega⟩,λh1=>by omega⟩
 · rw[eR h];exact⟨λh1=>by omega,λh1=>absurd h1.1 h⟩
theorem yGB(s:Prop){n g:Nat}(h:g∣n):sg s n/(g:Int)=sg s (n/g):=by
 by_cases hs:s
 · rw[eQ hs,eQ hs]
   obtain⟨k,rfl⟩:=h
   rcases Nat.eq_zero_or_pos g with h0|h0
   · subst h0;simp
   · rw[Nat.mul_div_cancel_left _ h0,Int.natCast_mul,<-Int.mul_neg,Int.mul_ediv_cancel_left _ zot]
 · rw[eR hs,eR hs];omega
theorem yF9(q:Rat):sg (q.num<0) q.num.natAbs=q.num:=by
 by_cases h:q.num<0
 · rw[eQ h];omega
 · rw[eR h];omega
def wU(d:Nat):Nat:=if d=1 then 0 else d
theorem aA:wU 1=0:=rfl
theorem nJ{d:Nat}(h:d≠1):wU d=d:=if_neg h
theorem oZ{d:Nat}(h0:d≠0):zB (wU d)=[]↔d=1:=by
 by_cases h:d=1
 · subst h;rw[aA,xK];simp
 · rw[nJ h]
   exact⟨λe=>by have:=yP.2 h0;rw[e] at this;simp at this,λe=>absurd e h⟩
theorem qH(q:Rat):(if zB (wU q.den)=[] then[1] else zB (wU q.den))=zB q.den:=by
 by_cases h:q.den=1
 · rw[if_pos ((oZ q.den_nz).2 h),h,gM zot zot]
 · rw[if_neg (λe=>h ((oZ q.den_nz).1 e)),nJ h]
def vC(h:Mem)(v:Value)(q:Rat):Prop:=∃vn vd,v=.agg #[vB (q.num<0),vn,vd]/\Us .u32 h vn (zB q.num.natAbs)/\Us .u32 h vd (zB (wU q.den))
theorem zb:vB ((0:Rat).num<0)=.bool false:=yH zow
theorem zDJ(h:Mem):Us .u32 h (.slice none 0 0) (zB (0:Rat).num.natAbs):=by
 have:zB (0:Rat).num.natAbs=[]:=xK;rw[this];exact Us.nil _ _
theorem zDK(h:Mem):Us .u32 h (.slice none 0 0) (zB (wU (0:Rat).den)):=by
 have:zB (wU (0:Rat).den)=[]:=xK;rw[this];exact Us.nil _ _
theorem vC.zero(h:Mem):vC h (.agg #[vB ((0:Rat).num<0),.slice none 0 0,.slice none 0 0]) 0:=⟨_,_,rfl,zDJ _,zDK _⟩
theorem zCV{s:Prop}{n d:Nat}(hd:d≠0):(mkRat (sg s n) d).num=sg s (n/Nat.gcd n d):=by
 rw[Rat.num_mkRat,if_neg hd,dD,Nat.gcd_comm];exact yGB s (Nat.gcd_dvd_left n d)
theorem zIY{s:Prop}{n d:Nat}(hd:d≠0):(mkRat (sg s n) d).den=d/Nat.gcd n d:=by
 rw[Rat.den_mkRat,if_neg hd,dD,Nat.gcd_comm]
theorem vC.make{h:Mem}{s:Prop}{n d:Nat}{vn vd:Value}(hn0:n≠0)(hd0:d≠0)(hn:Us .u32 h vn (zB (n/Nat.gcd n d)))(hd:Us .u32 h vd (zB (wU (d/Nat.gcd n d)))):vC h (.agg #[vB s,vn,vd]) (mkRat (sg s n) d):=by
 have C:n/Nat.gcd n d≠0:=by
  have h1:=Nat.gcd_dvd_left n d;have h2:=Nat.gcd_pos_of_pos_left d (Nat.pos_of_ne_zero hn0);exact Nat.ne_of_gt (Nat.div_pos (Nat.le_of_dvd (Nat.pos_of_ne_zero hn0) h1) h2)
 refine⟨vn,vd,?_,?_,?_⟩
 · have:vB ((mkRat (sg s n) d).num<0)=vB s:=by
    rw[zCV hd0];exact kF ⟨λh=>((zVP _ _).1 h).1,λh=>(zVP _ _).2 ⟨h,C⟩⟩
   rw[this]
 · rw[zCV hd0,dD];exact hn
 · rw[zIY hd0];exact hd
noncomputable def iU(q:Rat):Rat:=if q.num<0 then -q else q
theorem zHH(q:Rat):(iU q).num=q.num.natAbs:=by
 unfold iU
 by_cases h:q.num<0
 · rw[if_pos h,Rat.neg_num];omega
 · rw[if_neg h];omega
theorem zN5(q:Rat):(iU q).den=q.den:=by
 unfold iU
 by_cases h:q.num<0
 · rw[if_pos h,Rat.neg_den]
 · rw[if_neg h]
theorem vC.abs{h:Mem}{q:Rat}{vn vd:Value}(hn:Us .u32 h vn (zB q.num.natAbs))(hd:Us .u32 h vd (zB (wU q.den))):vC h (.agg #[.bool false,vn,vd]) (iU q):=by
 refine⟨vn,vd,?_,?_,?_⟩
 · rw[yH (by rw[zHH];omega)]
 · rw[zHH];exact hn
 · rw[zN5];exact hd
theorem vC.negB{h:Mem}{q:Rat}{vn vd:Value}(hn:Us .u32 h vn (zB q.num.natAbs))(hd:Us .u32 h vd (zB (wU q.den))):vC h (.agg #[vB (¬q.num<0/\(0:Int)<↑(zB q.num.natAbs).length),vn,vd]) (-q):=by
 refine⟨vn,vd,?_,?_,?_⟩
 · have:vB ((-q).num<0)=vB (¬q.num<0/\(0:Int)<↑(zB q.num.natAbs).length):=by
    have h1:=yP (n:=q.num.natAbs);rw[Rat.neg_num];exact kF ⟨λh=>⟨by omega,by omega⟩,λh=>by omega⟩
   rw[this]
 · rw[Rat.neg_num,Int.natAbs_neg];exact hn
 · rw[Rat.neg_den];exact hd
theorem zGO{m n k:Nat}(h1:(zB m).length<=k)(h2:(zB n).length<=k):(zB (m+n)).length<=k+1:=by
 refine qN ?_;have D:=Nat.lt_of_lt_of_le (qC m) (Nat.pow_le_pow_right zow h1);have C:=Nat.lt_of_lt_of_le (qC n) (Nat.pow_le_pow_right zow h2);rw[Nat.pow_succ];generalize 4294967296^k=p at *;omega
theorem putL{xs:List Nat}{lo n:Nat}(h:lo+1<=xs.length)(h0:n≠0)(hn:n<4294967296):xs.set lo n=xs.take lo++zB n++xs.drop (lo+(zB n).length):=by
 rw[gM h0 hn,List.set_eq_take_append_cons_drop,if_pos zot];simp
theorem yKK{xs:List Nat}{lo n:Nat}(h:lo+2<=xs.length)(hn:n<18446744073709551616)(hn':4294967296<=n):(xs.set lo (n%4294967296)).set (lo+1) (n/4294967296)=xs.take lo++zB n++xs.drop (lo+(zB n).length):=by
 have e:zB n=[n%4294967296,n/4294967296]:=by rw[kX zot,gM (t:=n/4294967296) zot zot]
 rw[e]
 apply List.ext_getElem?
 intro i;simp only[List.getElem?_set,lS,List.getElem?_append,lAz,List.length_take,lC,lN,List.getElem?_take,List.getElem?_drop]
 rcases Nat.lt_trichotomy i lo with hi|hi|hi
 · rw[if_neg zot,if_neg zot,if_pos zot,if_pos zot,if_pos zot]
 · subst hi
   rw[if_neg zot,if_pos I,if_pos zot,if_pos zot,if_neg zot];simp[show min i xs.length=i by omega]
 · by_cases h1:i=lo+1
   · subst h1
     rw[if_pos I,if_pos zot,if_pos zot,if_neg zot];simp[show min lo xs.length=lo by omega]
   · rw[if_neg zot,if_neg zot,if_neg zot]
     congr 1
     omega
noncomputable def rz(s:Prop)(n:Rat):Rat:=if s then -n else n
theorem iC{s:Prop}(h:s)(n:Rat):rz s n= -n:=if_pos h
theorem eS{s:Prop}(h:¬s)(n:Rat):rz s n=n:=if_neg h
theorem cF(s:Prop)(n d:Nat):mkRat (sg s n) d=rz s n/d:=by
 rw[Rat.mkRat_eq_div]
 by_cases h:s
 · rw[eQ h,iC h,Rat.intCast_neg];rfl
 · rw[eR h,eS h];rfl
theorem kT(q:Rat):mkRat (sg (q.num<0) q.num.natAbs) q.den=q:=by rw[yF9,Rat.mkRat_self]
theorem aL{d:Nat}(h:d≠0):(d:Rat)≠0:=λe=>h (Rat.natCast_eq_zero_iff.1 e)
theorem zBL(s:Prop)(d:Nat):mkRat (sg s 0) d=0:=by rw[yBA,Rat.zero_mkRat]
theorem zGE(s:Prop)(n:Nat):mkRat (sg s n) 0=0:=by rw[Rat.mkRat_zero]
theorem zKL{s t:Prop}(h:s↔t)(n d:Nat):mkRat (sg s n) d=mkRat (sg t n) d:=by rw[propext h]
theorem zXQ(s:Prop){n m d e:Nat}(hd:d≠0)(he:e≠0):mkRat (sg s n) d+mkRat (sg s m) e=mkRat (sg s (n*e+m*d)) (d*e):=by
 rw[cF,cF,cF,Rat.natCast_mul,Rat.natCast_add,Rat.natCast_mul,Rat.natCast_mul];have h1:=aL hd;have h2:=aL he;generalize (d:Rat)=D at *;generalize (e:Rat)=E at *;generalize (n:Rat)=N at *;generalize (m:Rat)=M at *
 by_cases h:s
 · rw[iC h,iC h,iC h];grind
 · rw[eS h,eS h,eS h];grind
theorem zPS{s t:Prop}(hst:¬(s↔t)){n m d e:Nat}(hd:d≠0)(he:e≠0)(hle:m*d<=n*e):mkRat (sg s n) d+mkRat (sg t m) e=mkRat (sg s (n*e-m*d)) (d*e):=by
 have G:((n*e-m*d:Nat):Rat)=n*e-m*d:=by
  have h3:n*e-m*d+m*d=n*e:=by omega
  have H:((n*e-m*d+m*d:Nat):Rat)=((n*e:Nat):Rat):=by rw[h3]
  rw[Rat.natCast_add,Rat.natCast_mul,Rat.natCast_mul] at H;generalize ((n*e-m*d:Nat):Rat)=X at *;grind
 rw[cF,cF,cF,G,Rat.natCast_mul];have h1:=aL hd;have h2:=aL he;generalize (d:Rat)=D at *;generalize (e:Rat)=E at *;generalize (n:Rat)=N at *;generalize (m:Rat)=M at *
 by_cases h:s
 · have C:¬t:=λC=>hst ⟨λ_=>C,λ_=>h⟩
   rw[iC h,eS C,iC h];grind
 · have C:t:=Classical.byContradiction λC=>hst ⟨λa=>absurd a h,λa=>absurd a C⟩
   rw[eS h,iC C,eS h];grind
theorem zQ7{s t:Prop}(hst:¬(s↔t)){n m d e:Nat}(hd:d≠0)(he:e≠0)(hle:n*e<=m*d):mkRat (sg s n) d+mkRat (sg t m) e=mkRat (sg t (m*d-n*e)) (d*e):=by
 rw[Rat.add_comm,zPS (λh=>hst h.symm) he hd hle,Nat.mul_comm e d]
theorem zXP(s t:Prop)(n m d e:Nat):mkRat (sg s n) d*mkRat (sg t m) e=mkRat (sg (¬(s↔t)) (n*m)) (d*e):=by
 rw[Rat.mkRat_mul_mkRat]
 congr 1
 by_cases h:s<;>by_cases h':t
 · rw[eQ h,eQ h',eR (by simp[h,h']),Int.natCast_mul,Int.neg_mul_neg]
 · rw[eQ h,eR h',eQ (by simp[h,h']),Int.natCast_mul,Int.neg_mul]
 · rw[eR h,eQ h',eQ (by simp[h,h']),Int.natCast_mul,Int.mul_neg]
 · rw[eR h,eR h',eR (by simp[h,h']),Int.natCast_mul]
theorem zPT(s t:Prop){n m d e:Nat}(hd:d≠0)(hm:m≠0)(he:e≠0):mkRat (sg s n) d/mkRat (sg t m) e=mkRat (sg (¬(s↔t)) (n*e)) (d*m):=by
 rw[cF,cF,cF,Rat.natCast_mul,Rat.natCast_mul];have h1:=aL hd;have h2:=aL hm;have h3:=aL he;generalize (d:Rat)=D at *;generalize (e:Rat)=E at *;generalize (n:Rat)=N at *;generalize (m:Rat)=M at *
 by_cases h:s<;>by_cases h':t
 · rw[iC h,iC h',eS (by simp[h,h'])];grind
 · rw[iC h,eS h',iC (by simp[h,h'])];grind
 · rw[eS h,iC h',iC (by simp[h,h'])];grind
 · rw[eS h,eS h',eS (by simp[h,h'])];grind
theorem yG6(s:Prop)(n d:Nat):-mkRat (sg s n) d=mkRat (sg (¬s) n) d:=by
 rw[Rat.neg_mkRat]
 congr 1
 by_cases h:s
 · rw[eQ h,eR (by simp[h])];omega
 · rw[eR h,eQ h]
theorem zGF(s:Prop)(n d:Nat){k:Nat}(hk:k≠0):mkRat (sg s (n*k)) (d*k)=mkRat (sg s n) d:=by
 rw[cF,cF,Rat.natCast_mul,Rat.natCast_mul];have h1:=aL hk
 by_cases hd:d=0
 · subst hd
   have:((0:Nat):Rat)=0:=I;rw[this];grind
 have h2:=aL hd;generalize (d:Rat)=D at *;generalize (k:Rat)=K at *;generalize (n:Rat)=N at *
 by_cases h:s
 · rw[iC h,iC h];grind
 · rw[eS h,eS h];grind
def lq(q:Rat):Nat:=max (zB q.num.natAbs).length (zB q.den).length
theorem uE(q:Rat):(zB q.num.natAbs).length<=lq q:=Nat.le_max_left _ _
theorem uC(q:Rat):(zB q.den).length<=lq q:=Nat.le_max_right _ _
theorem zY9(d:Nat):(zB (wU d)).length<=(zB d).length:=by
 by_cases h:d=1
 · subst h;rw[aA,xK];simp
 · rw[nJ h];exact Nat.le_refl _
theorem vZ(q:Rat):(zB (wU q.den)).length<=lq q:=Nat.le_trans (zY9 _) (uC q)
theorem zCY(q:Rat):0<lq q:=Nat.lt_of_lt_of_le (yP.2 q.den_nz) (uC q)
theorem w8{s:Prop}{n d k:Nat}(hn:(zB n).length<=k)(hd:(zB d).length<=k)(hk:0<k):lq (mkRat (sg s n) d)<=k:=by
 by_cases h0:d=0
 · subst h0
   rw[zGE];refine Nat.max_le.2 ⟨?_,?_⟩
   · have:(zB (0:Rat).num.natAbs)=[]:=xK
     rw[this];simp
   · have:zB (0:Rat).den=[1]:=by rw[show(0:Rat).den=1 from I,kX zot,xK]
     rw[this];exact hk
 · refine Nat.max_le.2 ⟨?_,?_⟩
   · rw[zCV h0,dD]
     exact Nat.le_trans (yL (Nat.div_le_self _ _)) hn
   · rw[zIY h0]
     exact Nat.le_trans (yL (Nat.div_le_self _ _)) hd
theorem zBP:lq 0=1:=by
 have h:=w8 (s:=False) (n:=0) (d:=0) (k:=1) (by rw[xK];simp) (by rw[xK];simp) zot;rw[zGE] at h;have:=zCY 0;omega
theorem zGL(q:Rat):lq (-q)=lq q:=by unfold lq;rw[Rat.neg_num,Rat.neg_den,Int.natAbs_neg]
theorem yHE(q:Rat):lq (iU q)=lq q:=by unfold lq;rw[zHH,zN5,Int.natAbs_natCast]
theorem iN(a b:Rat):lq (a*b)<=lq a+lq b:=by
 rw[<-kT a,<-kT b,zXP,kT,kT];have h1:=uE a;have h2:=uE b;have h3:=uC a;have D:=uC b;have C:=zCY a;exact w8 (Nat.le_trans (yN _ _) zot) (Nat.le_trans (yN _ _) zot) zot
theorem lF(a b:Rat):lq (a+b)<=lq a+lq b+1:=by
 have h1:=uE a;have h2:=uE b;have h3:=uC a;have J:=uC b;have H:=zCY a;have G:=yN a.num.natAbs b.den;have D:=yN b.num.natAbs a.den;have C:=yN a.den b.den;have e:a+b=mkRat (sg (a.num<0) a.num.natAbs) a.den+mkRat (sg (b.num<0) b.num.natAbs) b.den:=by rw[kT,kT]
 rw[e]
 by_cases h:(a.num<0)↔(b.num<0)
 · rw[zKL h,zXQ _ a.den_nz b.den_nz]
   refine w8 (Nat.le_trans (zGO ?_ ?_) (Nat.le_refl _)) zot zot
   · omega
   · omega
 · rcases Nat.le_total (b.num.natAbs*a.den) (a.num.natAbs*b.den) with hle|hle
   · rw[zPS h a.den_nz b.den_nz hle]
     exact w8 (Nat.le_trans (yL (Nat.sub_le _ _)) zot) zot zot
   · rw[zQ7 h a.den_nz b.den_nz hle]
     exact w8 (Nat.le_trans (yL (Nat.sub_le _ _)) zot) zot zot
theorem zGK(a b:Rat):lq (a-b)<=lq a+lq b+1:=by
 rw[Rat.sub_eq_add_neg];have:=lF a (-b);rw[zGL] at this;exact this
theorem zF8{q:Rat}:q.num.natAbs≠0↔q≠0:=by
 rw[Int.natAbs_ne_zero];exact not_congr Rat.num_eq_zero
theorem yHC(a b:Rat):lq (a/b)<=lq a+lq b:=by
 have h1:=uE a;have h2:=uE b;have h3:=uC a;have D:=uC b;have C:=zCY a
 by_cases hb:b=0
 · subst hb
   have:a/0=0:=by grind
   rw[this,zBP];omega
 have e:a/b=mkRat (sg (a.num<0) a.num.natAbs) a.den/mkRat (sg (b.num<0) b.num.natAbs) b.den:=by rw[kT,kT]
 rw[e,zPT _ _ a.den_nz (zF8.2 hb) b.den_nz];exact w8 (Nat.le_trans (yN _ _) zot) (Nat.le_trans (yN _ _) zot) zot
noncomputable def xT(a b:Rat):Int:=if a<b then -1 else if a=b then 0 else 1
noncomputable def yR(q:Rat):Int:=if q=0 then 0 else if q.num<0 then -1 else 1
theorem yDY(s:Prop){n m d e:Nat}(hd:d≠0)(he:e≠0):mkRat (sg s n) d<mkRat (sg s m) e↔if s then m*d<n*e else n*e<m*d:=by
 have C:∀x y:Nat,(x:Rat)<(y:Rat)↔x<y:=λx y=>by rw[Rat.natCast_lt_natCast]
 have h1:(0:Rat)<(d:Rat):=by rw[show(0:Rat)=((0:Nat):Rat) from I,C];omega
 have h2:(0:Rat)<(e:Rat):=by rw[show(0:Rat)=((0:Nat):Rat) from I,C];omega
 rw[cF,cF,<-C,<-C,Rat.natCast_mul,Rat.natCast_mul,Rat.div_lt_iff h1];generalize (d:Rat)=D at *;generalize (e:Rat)=E at *;generalize (n:Rat)=N at *;generalize (m:Rat)=M at *;have G:∀X:Rat,X/E*D=X*D/E:=λX=>by grind
 rw[G,Rat.lt_div_iff h2]
 by_cases h:s
 · rw[iC h,iC h,if_pos h];grind
 · rw[eS h,eS h,if_neg h]
theorem yD1(s:Prop){n m d e:Nat}(hd:d≠0)(he:e≠0):mkRat (sg s n) d=mkRat (sg s m) e↔n*e=m*d:=by
 rw[Rat.mkRat_eq_iff hd he]
 by_cases h:s
 · rw[eQ h,eQ h]
   rw[Int.neg_mul,Int.neg_mul,Int.neg_inj,<-Int.natCast_mul,<-Int.natCast_mul];omega
 · rw[eR h,eR h,<-Int.natCast_mul,<-Int.natCast_mul];omega
theorem yIR(s:Prop){n m d e:Nat}(hd:d≠0)(he:e≠0):xT (mkRat (sg s n) d) (mkRat (sg s m) e)=if s then -(rQ (n*e) (m*d)) else rQ (n*e) (m*d):=by
 unfold xT rQ
 by_cases h:s
 · simp only[yDY s hd he,yD1 s hd he,if_pos h]
   by_cases h1:m*d<n*e
   · rw[if_pos h1,if_neg zot,if_neg zot]
   · rw[if_neg h1]
     by_cases h2:n*e=m*d
     · rw[if_pos h2,if_neg zot];rfl
     · rw[if_neg h2,if_pos zot];rfl
 · simp only[yDY s hd he,yD1 s hd he,if_neg h]
theorem zNU(a b:Rat)(h:(a.num<0)↔(b.num<0)):xT a b=if a.num<0 then -(rQ (a.num.natAbs*b.den) (b.num.natAbs*a.den)) else rQ (a.num.natAbs*b.den) (b.num.natAbs*a.den):=by
 have:=yIR (a.num<0) (n:=a.num.natAbs) (m:=b.num.natAbs) a.den_nz b.den_nz;rw[kT,zKL h,kT] at this;rw[this]
 by_cases h:a.num<0
 · rw[if_pos h,if_pos h]
 · rw[if_neg h,if_neg h]
theorem lZ(q:Rat):q.num<0↔q<0:=by
 have:=Rat.num_nonneg (q:=q);rw[<-Rat.not_le,<-this];omega
theorem zB2{a b:Rat}(h:yR a≠yR b):xT a b=if yR a<yR b then -1 else 1:=by
 have D:yR a=if a=0 then 0 else if a<0 then -1 else 1:=by unfold yR;simp only[lZ]
 have C:yR b=if b=0 then 0 else if b<0 then -1 else 1:=by unfold yR;simp only[lZ]
 rw[D,C] at h ⊢;unfold xT
 clear D C
 grind
theorem yX(q:Rat):-1<=yR q/\yR q<=1:=by
 unfold yR
 split
 · omega
 · split<;>omega
theorem jA(a b:Rat):-1<=xT a b/\xT a b<=1:=by
 unfold xT
 split
 · omega
 · split<;>omega
theorem mO{a b:Rat}:xT a b<0↔a<b:=by
 unfold xT
 by_cases h:a<b
 · simp[h]
 · by_cases h':a=b
   · simp[h']
   · simp[h,h']
theorem zG9{a b:Rat}:0<xT a b↔b<a:=by
 unfold xT
 by_cases h:a<b
 · simp[h];grind
 · by_cases h':a=b
   · simp[h']
   · simp[h,h'];grind
theorem aU{a b:Rat}:xT a b=0↔a=b:=by
 unfold xT
 by_cases h:a<b
 · simp[h];grind
 · by_cases h':a=b
   · simp[h']
   · simp[h,h']
def sD(q:Rat):Prop:=(zB q.num.natAbs).length<=1/\(zB (wU q.den)).length<=1
theorem zOF{q:Rat}(h:(1:Int)<↑(zB q.num.natAbs).length\/(1:Int)<↑(zB (wU q.den)).length):¬sD q:=λ⟨h1,h2⟩=>by omega
theorem zSO{q:Rat}(h:¬((1:Int)<↑(zB q.num.natAbs).length\/(1:Int)<↑(zB (wU q.den)).length)):sD q:=⟨by omega,by omega⟩
theorem nE{n:Nat}(h:(zB n).length<=1):n<4294967296:=by
 have:=Nat.lt_of_lt_of_le (qC n) (Nat.pow_le_pow_right zow h);omega
theorem zY7{d:Nat}(h:(↑(zB (wU d)).length:Int)=1):(zB (wU d)).getD 0 0=d:=by
 by_cases h1:d=1
 · subst h1;rw[aA,xK] at h;simp at h
 · rw[nJ h1] at h ⊢
   have h3:=nE (n:=d) zot;have C:d≠0:=yP.1 zot;rw[gM C h3];rfl
theorem zUH{d:Nat}(h0:d≠0)(h:¬(↑(zB (wU d)).length:Int)=1)(h1:(zB (wU d)).length<=1):d=1:=by
 by_cases h2:d=1
 · exact h2
 · rw[nJ h2] at h h1
   have:=yP.2 h0;omega
theorem zY8{q:Rat}(h:¬(↑(zB (wU q.den)).length:Int)=1)(hs:sD q):q.den=1:=zUH q.den_nz h hs.2
theorem tA{q:Rat}(h:sD q):q.num.natAbs<4294967296:=nE h.1
theorem tB{q:Rat}(h:sD q):q.den<4294967296:=by
 by_cases h1:q.den=1
 · omega
 · have h2:=h.2
   rw[nJ h1] at h2;exact nE h2
noncomputable def pN(q:Rat):Nat:=if sD q then q.num.natAbs else 0
noncomputable def pD(q:Rat):Nat:=if sD q then q.den else 0
theorem zHL{q:Rat}(h:sD q):pN q=q.num.natAbs:=if_pos h
theorem pN_f{q:Rat}(h:¬sD q):pN q=0:=if_neg h
theorem zHM{q:Rat}(h:sD q):pD q=q.den:=if_pos h
theorem pD_f{q:Rat}(h:¬sD q):pD q=0:=if_neg h
theorem nT{n:Nat}:uK n=0↔n=0:=by
 unfold uK
 by_cases h:n=0
 · simp[h]
 · simp[h]
theorem oQ{Y:Nat}:((↑(zB Y).length:Int)=1/\(zB Y).getD 0 0=1)↔Y=1:=by
 constructor
 · intro⟨h1,h2⟩
   have h3:=nE (n:=Y) zot;have C:Y≠0:=yP.1 zot;rw[gM C h3] at h2;exact h2
 · intro h
   subst h;rw[gM zot zot];exact⟨I,I⟩
theorem zJG{n:Nat}(h:¬(1:Int)<↑(uK n))(h0:n≠0):n=1:=by
 have h1:=oO n;have h2:=Nat.pow_le_pow_right (n:=2) zow (show uK n<=1 by omega);omega
theorem vC.fin{h:Mem}{s:Prop}{n d:Nat}{vn vd:Value}(hn0:n≠0)(hd0:d≠0)(hn:Us .u32 h vn (zB (n/Nat.gcd n d)))(hd:Us .u32 h vd (zB (d/Nat.gcd n d)))(h1:¬((↑(zB (d/Nat.gcd n d)).length:Int)=1/\(zB (d/Nat.gcd n d)).getD 0 0=1)):vC h (.agg #[vB s,vn,vd]) (mkRat (sg s n) d):=
 vC.make hn0 hd0 hn (by rw[nJ (λe=>h1 (oQ.2 e))];exact hd)
theorem vC.fin1{h:Mem}{s:Prop}{n d:Nat}{vn:Value}(hn0:n≠0)(hd0:d≠0)(hn:Us .u32 h vn (zB (n/Nat.gcd n d)))(h1:(↑(zB (d/Nat.gcd n d)).length:Int)=1/\(zB (d/Nat.gcd n d)).getD 0 0=1):vC h (.agg #[vB s,vn,.slice none 0 0]) (mkRat (sg s n) d):=
 vC.make hn0 hd0 hn (by rw[oQ.1 h1,aA,xK];exact Us.nil _ _)
theorem dO:[1]=zB 1:=(gM zot zot).symm
theorem zKR:(zB 1).length=1:=by rw[<-dO];rfl
theorem w9(m n:Nat):(zB (Nat.gcd m n)).length<=max (zB m).length (zB n).length:=by
 by_cases h:m=0
 · subst h;rw[Nat.gcd_zero_left];omega
 · have:=yL (Nat.gcd_le_left n (Nat.pos_of_ne_zero h))
   omega
theorem aN{q:Rat}(h:q=0):yR q=0:=if_pos h
theorem zA0{q:Rat}(h:q.num<0):yR q= -1:=by
 unfold yR;rw[if_neg (λe=>by rw[e] at h;exact absurd h zow),if_pos h]
theorem zAZ{q:Rat}(h:q≠0)(h':¬q.num<0):yR q=1:=by unfold yR;rw[if_neg h,if_neg h']
theorem zHQ{q:Rat}(h:(↑(uK q.num.natAbs):Int)=0):q=0:=by
 have:=(nT (n:=q.num.natAbs)).1 zot;exact Rat.num_eq_zero.1 zot
theorem zH1{q:Rat}(h:q=0):(↑(uK q.num.natAbs):Int)=0:=by subst h;decide
theorem zP9{a b:Rat}:zB (wU a.den)=zB (wU b.den)↔a.den=b.den:=by
 refine⟨λh=>?_,λh=>by rw[h]⟩;have h1:=dT h;have D:=a.den_nz;have C:=b.den_nz;unfold wU at h1
 split at h1<;>split at h1<;>omega
theorem yGO{a b:Rat}(h1:a.num=b.num)(h2:a.den=b.den):a=b:=by
 rw[<-Rat.mkRat_self a,<-Rat.mkRat_self b,h1,h2]
theorem zLX{a b:Rat}:(((a.num<0↔b.num<0)/\zB a.num.natAbs=zB b.num.natAbs)/\zB (wU a.den)=zB (wU b.den))↔a=b:=by
 refine⟨λ⟨⟨h1,h2⟩,h3⟩=>yGO ?_ (zP9.1 h3),λh=>by subst h;simp⟩;have:=dT h2;omega
theorem zLS{a b:Rat}(h:¬yR a≠yR b):a.num<0↔b.num<0:=by
 have h:=Classical.not_not.1 h
 by_cases h1:a.num<0<;>by_cases h2:b.num<0
 · simp[h1,h2]
 · rw[zA0 h1] at h
   by_cases h3:b=0
   · rw[aN h3] at h;omega
   · rw[zAZ h3 h2] at h;omega
 · rw[zA0 h2] at h
   by_cases h3:a=0
   · rw[aN h3] at h;omega
   · rw[zAZ h3 h1] at h;omega
 · simp[h1,h2]
def cN(a b:Rat):Int:=rQ (a.num.natAbs*b.den) (b.num.natAbs*a.den)
theorem zN0(a b:Rat):-1<=cN a b/\cN a b<=1:=by
 unfold cN rQ
 split
 · omega
 · split<;>omega
theorem zR2{a b:Rat}(h:a.num<0↔b.num<0)(hn:a.num<0):xT a b= -(cN a b):=by rw[zNU a b h,if_pos hn];rfl
theorem zNV{a b:Rat}(h:a.num<0↔b.num<0)(hn:¬a.num<0):xT a b=cN a b:=by rw[zNU a b h,if_neg hn];rfl
theorem yI6{a b:Rat}(h:zB (wU a.den)=zB (wU b.den)):cN a b=rQ a.num.natAbs b.num.natAbs:=by
 unfold cN rQ;rw[zP9.1 h];have C:=Nat.pos_of_ne_zero b.den_nz
 by_cases h1:a.num.natAbs<b.num.natAbs
 · rw[if_pos h1,if_pos (Nat.mul_lt_mul_of_pos_right h1 C)]
 · rw[if_neg h1,if_neg (λe=>h1 (Nat.lt_of_mul_lt_mul_right e))]
   by_cases h2:a.num.natAbs=b.num.natAbs
   · rw[if_pos h2,h2,if_pos I]
   · rw[if_neg h2,if_neg (λe=>h2 (Nat.eq_of_mul_eq_mul_right C e))]
theorem jC{m n:Nat}(hm:m<4294967296)(hn:n<4294967296):m*n<=18446744065119617025:=by
 have:=Nat.mul_le_mul (show m<=4294967295 by omega) (show n<=4294967295 by omega);omega
noncomputable def sgd(s:Prop)(b:Rat):Rat:=mkRat (sg s b.num.natAbs) b.den
theorem zA1(b:Rat):sgd (b.num<0) b=b:=kT b
theorem yA9(b:Rat):sgd (¬b.num<0) b= -b:=by
 unfold sgd;rw[<-yG6,kT]
theorem zXY(s:Prop)(b:Rat):lq (sgd s b)<=lq b:=w8 (uE b) (uC b) (zCY b)
theorem zEU{a b:Rat}{s:Prop}(h:(a.num<0)↔s):a+sgd s b=mkRat (sg s (a.num.natAbs*b.den+b.num.natAbs*a.den)) (a.den*b.den):=by
 have:=zXQ s (n:=a.num.natAbs) (m:=b.num.natAbs) a.den_nz b.den_nz;rw[<-zKL h a.num.natAbs,kT] at this;exact this
theorem zEG{a b:Rat}{s:Prop}(h:¬((a.num<0)↔s))(hle:b.num.natAbs*a.den<=a.num.natAbs*b.den):a+sgd s b=mkRat (sg (a.num<0) (a.num.natAbs*b.den-b.num.natAbs*a.den)) (a.den*b.den):=by
 have:=zPS h (n:=a.num.natAbs) (m:=b.num.natAbs) a.den_nz b.den_nz hle;rw[kT] at this;exact this
theorem zAU{a b:Rat}{s:Prop}(h:¬((a.num<0)↔s))(hle:a.num.natAbs*b.den<=b.num.natAbs*a.den):a+sgd s b=mkRat (sg s (b.num.natAbs*a.den-a.num.natAbs*b.den)) (a.den*b.den):=by
 have:=zQ7 h (n:=a.num.natAbs) (m:=b.num.natAbs) a.den_nz b.den_nz hle;rw[kT] at this;exact this
theorem zZ8{a b:Rat}{s:Prop}(h:(a.num<0)↔s)(hd:a.den=b.den):a+sgd s b=mkRat (sg s (a.num.natAbs+b.num.natAbs)) a.den:=by
 rw[zEU h,<-hd,<-Nat.add_mul,zGF _ _ _ a.den_nz]
theorem zU8{a b:Rat}{s:Prop}(h:¬((a.num<0)↔s))(hd:a.den=b.den)(hle:b.num.natAbs<=a.num.natAbs):a+sgd s b=mkRat (sg (a.num<0) (a.num.natAbs-b.num.natAbs)) a.den:=by
 rw[zEG h (by rw[<-hd];exact Nat.mul_le_mul_right _ hle),<-hd,<-Nat.sub_mul,zGF _ _ _ a.den_nz]
theorem zSM{a b:Rat}{s:Prop}(h:¬((a.num<0)↔s))(hd:a.den=b.den)(hle:a.num.natAbs<=b.num.natAbs):a+sgd s b=mkRat (sg s (b.num.natAbs-a.num.natAbs)) a.den:=by
 rw[zAU h (by rw[<-hd];exact Nat.mul_le_mul_right _ hle),<-hd,<-Nat.sub_mul,zGF _ _ _ a.den_nz]
theorem zXN(a b:Rat):mkRat (sg (¬((a.num<0)↔(b.num<0))) (a.num.natAbs*b.num.natAbs)) (a.den*b.den)=a*b:=by
 rw[<-zXP,kT,kT]
theorem zWC(a:Rat){b:Rat}(hb:b≠0):mkRat (sg (¬((a.num<0)↔(b.num<0))) (a.num.natAbs*b.den)) (a.den*b.num.natAbs)=a/b:=by
 rw[<-zPT _ _ a.den_nz (zF8.2 hb) b.den_nz,kT,kT]
theorem bU{q:Rat}(h:(↑(zB q.num.natAbs).length:Int)=0):q=0:=by
 refine Classical.byContradiction λC=>?_;have:=yP.2 (zF8.2 C);omega
theorem uS{q:Rat}:yR q=0↔q=0:=by
 refine⟨λh=>?_,aN⟩;unfold yR at h
 by_cases h1:q=0
 · exact h1
 · rw[if_neg h1] at h;split at h<;>omega
noncomputable def zGH(a b:Rat):Rat:=if b<a then b else a
noncomputable def zD8(a b:Rat):Rat:=if a<b then b else a
noncomputable def zGU:Rat:=mkRat (sg False 1) 2
theorem yCA:lq zGU<=1:=w8 (by rw[gM zot zot];simp) (by rw[gM zot zot];simp) zot
theorem zYM:zGU=1/2:=by
 unfold zGU;rw[cF,eS id]
 rfl
noncomputable def zCW(a b:Rat):Rat:=(a+b)*zGU
theorem yHD(a b:Rat):lq (zCW a b)<=lq a+lq b+2:=by
 have h1:=iN (a+b) zGU;have h2:=lF a b;have h3:=yCA;unfold zCW;omega
noncomputable def floorQ(q:Rat):Rat:=((q.floor:Int):Rat)
def kN(k:Int):Nat:=(min (max k 0) 4096).toNat
noncomputable def yD3(q:Rat)(k:Int):Rat:=mkRat (q*(2^kN k:Nat)).floor (2^kN k)
noncomputable def upQ(q:Rat)(k:Int):Rat:=-yD3 (-q) k
theorem zRF(a b:Rat):lq (if b=0 then 0 else a/b)<=lq a+lq b:=by
 have:=yHC a b;have h1:=zCY a
 split
 · rw[zBP];omega
 · exact this
theorem zU9{p:Prop} [Decidable p](h:(if p then 7 else 0:Int)=0):¬p:=by
 intro C;rw[if_pos C] at h;omega
theorem zVA{p:Prop} [Decidable p](h:¬(if p then 7 else 0:Int)=0):p:=by
 refine Classical.byContradiction λC=>h ?_;rw[if_neg C]
noncomputable def yLL(q:Rat):Int:=max (↑(uK q.num.natAbs):Int) ↑(uK q.den)
theorem fD{n:Int}(h1:-9223372036854775808<=n)(h2:n<9223372036854775808):(zB n.natAbs).length<=2:=gB zot
noncomputable def jU(n d:Int):Rat:=(n:Rat)/(d:Rat)
theorem zGI(n:Int):jU n 0=0:=by
 unfold jU;have:((0:Int):Rat)=0:=I;rw[this];grind
theorem zKU(n:Int):mkRat (sg (n<0) n.natAbs) 1=(n:Rat):=by
 have e:sg (n<0) n.natAbs=n:=by
  by_cases h:n<0
  · rw[eQ h];omega
  · rw[eR h];omega
 rw[e,Rat.mkRat_one]
theorem zM3{n d:Int}(hd:d≠0):mkRat (sg (¬((n<0)↔(d<0))) n.natAbs) d.natAbs=jU n d:=by
 unfold jU;rw[<-zKU n,<-zKU d,zPT _ _ zot zot zot,Nat.mul_one,Nat.one_mul]
theorem sL(n:Int)(h1:-9223372036854775808<=n)(h2:n<9223372036854775808):lq (n:Rat)<=2:=by
 rw[<-zKU];exact w8 (fD h1 h2) (by rw[zKR];omega) zot
theorem dS{n d:Int}(h1:-9223372036854775808<=n)(h2:n<9223372036854775808)(h3:-9223372036854775808<=d)(h4:d<9223372036854775808):lq (jU n d)<=2:=by
 by_cases hd:d=0
 · subst hd;rw[zGI,zBP];omega
 · rw[<-zM3 hd];exact w8 (fD h1 h2) (fD h3 h4) zot
def dV(ys:List Nat):Nat:=if ys=[] then 1 else val ys
def yD8(xs:List Nat):Prop:=xs=[]\/xs.getD (xs.length-1) 0≠0
def badP(xs ys:List Nat):Prop:=((¬yD8 xs)\/(¬yD8 ys))\/((↑ys.length:Int)=1/\ys.getD 0 0=1)
def validP(s:Prop)(xs ys:List Nat):Prop:=¬badP xs ys/\((xs=[]->¬s/\ys=[])/\(xs≠[]->ys=[]\/Nat.gcd (val xs) (val ys)=1))
theorem zM9{xs:List Nat}:(↑xs.length:Int)=0↔xs=[]:=⟨λh=>zof zot,λh=>by rw[h];rfl⟩
theorem zGW{g:Nat}(h:¬((↑(zB g).length:Int)≠1\/(zB g).getD 0 0≠1)):g=1:=
 oQ.1 ⟨Classical.not_not.1 λe=>h (.inl e),Classical.not_not.1 λe=>h (.inr e)⟩
theorem zZD{a b:Rat}:(((a.num<0)↔(b.num<0))/\rQ a.num.natAbs b.num.natAbs=0)/\rQ (wU a.den) (wU b.den)=0↔a=b:=by
 rw[zDB,zDB,<-zLX];constructor
 · rintro⟨⟨h1,h2⟩,h3⟩
   exact⟨⟨h1,by rw[h2]⟩,by rw[h3]⟩
 · rintro⟨⟨h1,h2⟩,h3⟩
   exact⟨⟨h1,dT h2⟩,dT h3⟩
theorem yCD{q:Rat}:(↑(zB q.num.natAbs).length:Int)=0↔q=0:=by
 refine⟨bU,λh=>?_⟩;subst h;rw[show(0:Rat).num.natAbs=0 from I,xK];rfl
theorem zF7{q:Rat}(h:¬(↑(zB q.num.natAbs).length:Int)=0):q≠0:=λe=>h (yCD.2 e)
theorem zZ9{a b:Rat}(h:(a.num<0)↔(b.num<0)):mkRat (sg (a.num<0) (a.num.natAbs*b.den+b.num.natAbs*a.den)) (a.den*b.den)=a+b:=by
 have:=zEU (a:=a) (b:=b) h;rw[zA1,zKL h.symm] at this;exact this.symm
theorem yJJ{a b:Rat}(h:¬((a.num<0)↔(b.num<0)))(hle:b.num.natAbs*a.den<=a.num.natAbs*b.den):mkRat (sg (a.num<0) (a.num.natAbs*b.den-b.num.natAbs*a.den)) (a.den*b.den)=a+b:=by
 have:=zEG (a:=a) (b:=b) h hle;rw[zA1] at this;exact this.symm
theorem yJI{a b:Rat}(h:¬((a.num<0)↔(b.num<0)))(hle:a.num.natAbs*b.den<=b.num.natAbs*a.den):mkRat (sg (b.num<0) (b.num.natAbs*a.den-a.num.natAbs*b.den)) (a.den*b.den)=a+b:=by
 have:=zAU (a:=a) (b:=b) h hle;rw[zA1] at this;exact this.symm
theorem zN9{h:Mem}{v:Value}{n:Int}(s:Us .u32 h v (zB n.natAbs)):Us .u32 h v (zB (n:Rat).num.natAbs):=by
 rw[Rat.num_intCast];exact s
theorem zOA{h:Mem}{n:Int}:Us .u32 h (.slice none 0 0) (zB (wU (n:Rat).den)):=by
 rw[Rat.den_intCast,aA,xK];exact Us.nil _ _
theorem vC.int{h:Mem}{v:Value}{n:Int}(s:Us .u32 h v (zB n.natAbs)):vC h (.agg #[vB (n<0),v,.slice none 0 0]) (n:Rat):=
 ⟨v,.slice none 0 0,by rw[Rat.num_intCast],zN9 s,zOA⟩
theorem zI1:jU 1 2=zGU:=by rw[zYM];rfl
noncomputable def numQ(s:Prop)(xs ys:List Nat):Rat:=mkRat (sg s (val xs)) (dV ys)
end Bk
namespace Bk
open Go Go.RowKit
def gJ(k:Nat)(v:Value)(lo hi mx:Nat):Value:=
 match v with
 | .slice a _ _=>.slice (if mx=lo then a else a.map (·.add (lo*k))) (hi-lo) (mx-lo)
 |_=>undef
section
variable {P:Program}{n:Nat}{w0:World}{h0:Mem}{e:List (Nat×Value)}{L:List Res}{h:Mem}{Q:Exit->Act->World->Prop}
variable {ds:Option Tmp}{ty:TypeId}{ps:String}{af:Array Edge}{gd:Option (Nat×Bool)}
theorem Sl.sub3{h:Mem}{k:Nat}{v:Value}{m:Nat}{cs:List Value}(s:Sl h k v m cs){lo hi mx:Nat}(h1:lo<=hi)(h2:hi<=mx)(h3:mx<=m):Sl h k (gJ k v lo hi mx) (hi-lo) ((cs.drop (lo*k)).take ((hi-lo)*k)):=by
 obtain⟨a,Z,rfl,h4,h5,U,O⟩:=s;refine⟨_,_,I,by omega,by omega,?_,λi H=>?_⟩
 · rw[List.length_take,List.length_drop,U]
   have:=Nat.mul_le_mul_right k (show lo+(hi-lo)<=m by omega);rw[Nat.add_mul] at this;omega
 · rw[List.length_take,List.length_drop] at H
   have D:i<(hi-lo)*k:=by omega
   have C:0<(hi-lo)*k:=by omega
   have G:lo<hi:=by
    rcases Nat.lt_or_ge lo hi with h'|h'
    · exact h'
    · rw[show hi-lo=0 by omega,Nat.zero_mul] at C;omega
   obtain⟨b,o,M,J⟩:=O (lo*k+i) zot;subst M;refine⟨b,o+lo*k,by rw[if_neg zot];simp[jY],?_⟩;rw[List.getElem?_take,if_pos D,List.getElem?_drop,<-J,Nat.add_assoc]
theorem Us.sub3{k:IntKind}{h:Mem}{v:Value}{xs:List Nat}(s:Us k h v xs){lo hi mx:Nat}(h1:lo<=hi)(h2:hi<=mx)(h3:mx<=xs.length):Us k h (gJ 1 v lo hi mx) ((xs.drop lo).take (hi-lo)):=by
 have:=s.sl.sub3 h1 h2 h3;simp only[Nat.mul_one] at this;refine⟨?_,λx hx=>s.lt x (List.mem_of_mem_drop (List.mem_of_mem_take hx))⟩;have C:((xs.drop lo).take (hi-lo)).length=hi-lo:=by rw[List.length_take,List.length_drop];omega
 rw[C]
 simpa[us] using this
theorem St.own_shape{E:Nat}{k:IntKind}{v:Value}{xs:List Nat}{w:World}(S:St w0 h0 L h w)(hm:.us E k v xs∈L):∃a cap,v=.slice a xs.length cap/\xs.length<=cap/\cap<=maxLen/\(0<xs.length->∃g,a=some ⟨g,0,none⟩):=by
 obtain⟨D,C⟩:=S.ok _ hm
 rcases C with⟨rfl,h0'⟩|⟨g,cap,cur,rfl,hb,hg,hn,hcm,hcs,ht⟩
 · exact⟨none,0,by rw[h0'],by omega,by omega,λh=>by omega⟩
 · exact⟨_,cap,I,hn,hcm,λ_=>⟨g,I⟩⟩
theorem St.own_self{E:Nat}{k:IntKind}{v:Value}{xs:List Nat}{w:World}(S:St w0 h0 L h w)(hm:.us E k v xs∈L):v=fX 1 v 0 xs.length:=by
 obtain⟨a,C,rfl,h1,h2,h3⟩:=S.own_shape hm;simp only[fX,Nat.zero_mul,Nat.sub_zero]
 by_cases hc:C=0
 · rw[if_pos hc]
 · rw[if_neg hc]
   cases a with
   |none=>rfl
   |some x=>
    obtain⟨b,o,D⟩:=x;simp[Addr.add]
theorem zFM{E:Nat}{k:IntKind}{v:Value}{xs:List Nat}{t E':TypeId}{x lo:Operand}{p:Int}(hm:.us E k v xs∈L)(i:Nat)(ht:P.underlying t=some (.slice E'))(hsz:∀w,(Go.sizeOf E').run P w=.ok 1 w)(hx:zJ e x=some v)(hl:zJ e lo=some (vI p))
    (hp:p=(i:Int))(h1:i<=xs.length):OpV P n w0 h0 ⟨ds,.slice t x (some lo) none none,ty,ps,af,gd⟩ e L h (fX 1 v i xs.length):=by
 intro a w J S;obtain⟨H,C,D,G,_⟩:=S.own_shape hm;exact jI i ht hsz hx hl ⟨H,C,D,G⟩ hp h1 a w J S
theorem zOL{t E:TypeId}{w:World}(ht:P.underlying t=some (.slice E))(hsz:∀w,(Go.sizeOf E).run P w=.ok 1 w)(a:Option Addr)(m cap lo hi mx:Nat)(h1:lo<=hi)(h2:hi<=mx)(h3:mx<=cap):
 (Instr.sliceAt t (.slice a m cap) (some (vI lo)) (some (vI hi)) (some (vI mx))).run P w=.ok (gJ 1 (.slice a m cap) lo hi mx) w:=by
 simp[Instr.sliceAt,Instr.slice,run_underlying ht,Instr.sliceBounds,Instr.sliceBound,asIntOf,vI,hsz,gJ,h1,h2,h3]
theorem zL0{t E:TypeId}{w:World}(ht:P.underlying t=some (.slice E))(hsz:∀w,(Go.sizeOf E).run P w=.ok 1 w)(a:Option Addr)(m cap hi mx:Nat)(h2:hi<=mx)(h3:mx<=cap):
 (Instr.sliceAt t (.slice a m cap) none (some (vI hi)) (some (vI mx))).run P w=.ok (gJ 1 (.slice a m cap) 0 hi mx) w:=by
 simp[Instr.sliceAt,Instr.slice,run_underlying ht,Instr.sliceBounds,Instr.sliceBound,asIntOf,vI,hsz,gJ,h2,h3]
theorem zHN{E:Nat}{k:IntKind}{v:Value}{xs:List Nat}{t E':TypeId}{x lo hi mx:Operand}{p q r:Int}(hm:.us E k v xs∈L)(i j l:Nat)(ht:P.underlying t=some (.slice E'))(hsz:∀w,(Go.sizeOf E').run P w=.ok 1 w)(hx:zJ e x=some v)(hl:zJ e lo=some (vI p))(hh:zJ e hi=some (vI q))(hmx:zJ e mx=some (vI r))
    (hp:p=(i:Int))(hq:q=(j:Int))(hr:r=(l:Int))(h1:i<=j)(h2:j<=l)(h3:l<=xs.length):OpV P n w0 h0 ⟨ds,.slice t x (some lo) (some hi) (some mx),ty,ps,af,gd⟩ e L h (gJ 1 v i j l):=by
 subst hp;subst hq;subst hr;intro a w C S;obtain⟨G,D,rfl,H,_⟩:=S.own_shape hm;have:=zOL (P:=P) (w:=w) ht hsz G xs.length D i j l h1 h2 zot;simp[execOp,C.eval hx,C.eval hl,C.eval hh,C.eval hmx,this]
theorem zFN{E:Nat}{k:IntKind}{v:Value}{xs:List Nat}{t E':TypeId}{x hi mx:Operand}{q r:Int}(hm:.us E k v xs∈L)(j l:Nat)(ht:P.underlying t=some (.slice E'))(hsz:∀w,(Go.sizeOf E').run P w=.ok 1 w)(hx:zJ e x=some v)(hh:zJ e hi=some (vI q))(hmx:zJ e mx=some (vI r))
    (hq:q=(j:Int))(hr:r=(l:Int))(h2:j<=l)(h3:l<=xs.length):OpV P n w0 h0 ⟨ds,.slice t x none (some hi) (some mx),ty,ps,af,gd⟩ e L h (gJ 1 v 0 j l):=by
 subst hq;subst hr;intro a w D S;obtain⟨G,C,rfl,H,_⟩:=S.own_shape hm;have:=zL0 (P:=P) (w:=w) ht hsz G xs.length C j l h2 zot;simp[execOp,D.eval hx,D.eval hh,D.eval hmx,this]
theorem w6{E:Nat}{k:IntKind}{v u:Value}{xs:List Nat}{t E':TypeId}{x y:Operand}{q:Int}{lo:Nat}(hm:.us E k v xs∈L)(hu:u=fX 1 v lo xs.length)(i:Nat)(ht:P.underlying t=some (.slice E'))(hsz:∀w,(Go.sizeOf E').run P w=.ok 1 w)(hx:zJ e x=some u)(hy:zJ e y=some (vI q))
    (hq:q=(i:Int))(hi:lo+i<xs.length):OpV P n w0 h0 ⟨ds,.indexAddr t x y,ty,ps,af,gd⟩ e L h (zI 1 v (lo+i)):=by
 subst hq;subst hu;intro a w G S;obtain⟨U,D,rfl,O,M,J⟩:=S.own_shape hm;obtain⟨g,rfl⟩:=J zot;have C:¬D=lo:=by omega
 have h2:(i:Int)<((xs.length-lo:Nat):Int):=by omega
 have h3:(0:Int)<=(i:Int):=by omega
 simp only[fX,if_neg C,Option.map_some,jY,Nat.mul_one,Nat.zero_add] at hx;simp[execOp,G.eval hx,G.eval hy,Instr.indexAt,asIntOf,vI,run_underlying ht,h2,h3,hsz,zI,jY];intro H;omega
theorem zYP{ops:Array Oper}{l:List Oper}{E:Nat}{k:IntKind}{v:Value}{xs:List Nat}(hm:.us E k v xs∈L)(k':∀a cap,v=.slice a xs.length cap->xs.length<=cap->GL P n w0 h0 ops Q l e L h):GL P n w0 h0 ops Q l e L h:=by
 intro a w H S;obtain⟨G,cap,C,D,_⟩:=S.own_shape hm;exact k' G cap C D a w H S
theorem iQ{ops:Array Oper}{l:List Oper}{A B:List Res}{r:Res}(k':GL P n w0 h0 ops Q l e (r::(A++B)) h):GL P n w0 h0 ops Q l e (A++r::B) h:=
 λa w Ev S=>k' a w Ev (S.perm List.perm_middle)
theorem zWT{f:Nat}{xs:List Operand}{ts:Array TypeId}{vs:List Value}{v:Value}(hcall:∀w,(callFunc f vs.toArray).run P w=.ok (.value v) w)(hvs:cR e xs vs):
 OpV P n w0 h0 ⟨ds,.call {callee:=.value (.func f),args:=xs.toArray,argTypes:=ts},ty,ps,af,gd⟩ e L h v:=by
 intro a w D S;have C:xs.toArray.map a.eval=vs.toArray:=by rw[List.map_toArray,D.evals hvs]
 simp only[execOp,resolve,Act.eval];simp[Deferred.ofValue,invoke,hcall,C]
theorem jM.nil{ops:Array Oper}:jM P n ops []:=λx hx=>by cases hx
theorem jM.cons{ops:Array Oper}{i d E:Nat}{cs:List Value}{al:Als}(hop:(ops.getD i default).op=.alloc E)(hd:Nat.ble (d+1) n=true)(hz:∀w,∃z,(zeroValue E).run P w=.ok z w/\z.cells=cs.toArray)(h:jM P n ops al):jM P n ops ((i,(d,E,cs))::al):=by
 intro x hx
 rcases List.mem_cons.1 hx with rfl|hx
 · refine⟨Nat.le_of_ble_eq_true hd,λa w=>?_,λH G=>?_⟩
   · obtain⟨z,D,C⟩:=hz w
     simp only[execOp,hop,Instr.alloc,zLI,zT4];simp[D,newVar,newRow,newObj,Sem.run,C]
   · simp only[hop,zT4] at G
     cases G
 · exact h x hx
theorem uR{E:TypeId}{i:TypeInfo}{z:Value}{cs:List Value}(hi:P.info? E=some i)(hz:i.zero=some z)(hc:z.cells=cs.toArray)(w:World):∃z,(zeroValue E).run P w=.ok z w/\z.cells=cs.toArray:=
 ⟨z,by simp[zeroValue,typeInfo,hi,hz],hc⟩
theorem kU{e:List (Nat×Value)}{al:Als}:∀x∈([]:Als),al.lookup x.1=some x.2/\e.lookup x.2.1=none:=λx hx=>by cases hx
theorem uU{e:List (Nat×Value)}{al al':Als}{y:Nat×(Nat×TypeId×List Value)}(h1:al.lookup y.1=some y.2)(h2:e.lookup y.2.1=none)(h:∀x∈al',al.lookup x.1=some x.2/\e.lookup x.2.1=none):∀x∈y::al',al.lookup x.1=some x.2/\e.lookup x.2.1=none:=by
 intro x hx
 rcases List.mem_cons.1 hx with rfl|hx
 · exact⟨h1,h2⟩
 · exact h x hx
end
end Bk
namespace Bk
open Go Go.RowKit
open Classical
def yEL(h:Mem):List Value->List Rat->Prop
  |cs,[]=>cs=[]
  |cs,q::qs=>∃vn vd rest,cs=vB (q.num<0)::vn::vd::rest/\Us .u32 h vn (zB q.num.natAbs)/\Us .u32 h vd (zB (wU q.den))/\yEL h rest qs
def IsRats(h:Mem)(v:Value)(qs:List Rat):Prop:=∃cs,v=.agg cs.toArray/\yEL h cs qs
section
variable {P:Program}{n:Nat}{w0:World}{h0:Mem}{e:List (Nat×Value)}{L:List Res}{h:Mem}{Q:Exit->Act->World->Prop}
variable {ds:Option Tmp}{ty:TypeId}{ps:String}{af:Array Edge}{gd:Option (Nat×Bool)}
def zN6(P:Program)(c:Code)(Q:Exit->Act->World->Prop)(a:Act)(w:World):Prop:=
 ∀(b:Frame) (k:List Item) (cs:List Frame),∃x a' w',Q x a' w'/\Arrives P (lone (b.at a (.code c::.inLoop c::k)) cs w) b k cs x a' w'
theorem zM4{c:Code}{a:Act}{w:World}(hw:c.wp P (Exit.then (zN6 P c Q) Q) a w):zN6 P c Q a w:=by
 intro b k cs;obtain⟨x,J,H,G,C⟩:=hw b (.inLoop c::k) cs
 cases x with
 |normal=>
  obtain⟨O,Z,U,M,D⟩:=G b k cs;exact⟨O,Z,U,M,.of_steps (Steps.trans C (.one step_inLoop)) D⟩
 |exit id=>exact⟨_,J,H,G,.pass (x:=.inLoop c) rfl (λ_ _=>.inl zo2) C⟩
 |goto l=>exact⟨_,J,H,G,.pass (x:=.inLoop c) rfl (λ_ _=>.inl zo2) C⟩
 |ret=>exact⟨_,J,H,G,.pass (x:=.inLoop c) rfl (λ_ _=>.inl zo2) C⟩
 |panic ch=>exact⟨_,J,H,G,.pass (x:=.inLoop c) rfl (λ_ _=>.inl zo2) C⟩
 |outgrown=>exact⟨_,J,H,G,.pass (x:=.inLoop c) rfl (λ_ _=>.inl zo2) C⟩
theorem fU{c:Code}(k:GC P n w0 h0 c (Exit.then (zN6 P c Q) Q) e L h):GC P n w0 h0 (.loop c) Q e L h:=by
 intro a w E S b G cs;obtain⟨x,J,D,H,C⟩:=zM4 (k a w E S) b G cs;exact⟨x,J,D,H,.of_steps (.one step_loop) C⟩
theorem wE{c:Code}(k:GC P n w0 h0 c (Exit.then (zN6 P c Q) Q) e L h):GQ n w0 h0 (Exit.then (zN6 P c Q) Q) .normal e L h:=
 λa w E S=>zM4 (k a w E S)
theorem OpV.cv{o:Oper}{v v':Value}(hv:OpV P n w0 h0 o e L h v)(e':v=v'):OpV P n w0 h0 o e L h v':=e'▸hv
end
end Bk
namespace Bk
open Go Go.RowKit
section
variable {P:Program}{n:Nat}{w0:World}{h0:Mem}{e:List (Nat×Value)}{L:List Res}{h:Mem}
variable {ds:Option Tmp}{ty:TypeId}{ps:String}{af:Array Edge}{gd:Option (Nat×Bool)}
theorem gO{x:Operand}{b k:Nat}(hx:zJ e x=some (vP b k)):OpV P n w0 h0 ⟨ds,.nilCheck x,ty,ps,af,gd⟩ e L h (vP b k):=by
 intro a w C S;simp[execOp,C.eval hx]
theorem yG{t E:TypeId}{x y:Operand}{b k m sz:Nat}{q:Int}(i:Nat)(ht:P.underlying t=some (.array m E))(hsz:∀w,(Go.sizeOf E).run P w=.ok sz w)(hx:zJ e x=some (vP b k))(hy:zJ e y=some (vI q))(hq:q=(i:Int))(hi:i<m):
 OpV P n w0 h0 ⟨ds,.indexAddr t x y,ty,ps,af,gd⟩ e L h (vP b (k+i*sz)):=by
 subst hq;intro a w C S;simp[execOp,C.eval hx,C.eval hy,Instr.indexAt,vI,asIntOf,run_underlying ht,hsz,Instr.sureAddr,hi,jY]
theorem zJ8{t E:TypeId}{m sz:Nat}{i:TypeInfo}{z:Value}{parts:List (Nat×Operand)}{ps':List (Nat×Value)}{vs:List Value}(ht:P.underlying t=some (.array m E))(hi:P.info? t=some i)(hz:i.zero=some z)
    (hsz:∀w,(Go.sizeOf E).run P w=.ok sz w)(hp:eL e parts ps')(hf:Instr.fill (λi=>some (i*sz,sz)) z.cells ps'=some vs.toArray):
    OpV P n w0 h0 ⟨ds,.build t parts.toArray,ty,ps,af,gd⟩ e L h (.agg vs.toArray):=by
 intro a w G S;have D:(parts.toArray.map λ(p:Nat×Operand)=>(p.1,a.eval p.2)).toList=ps':=by
  rw[List.map_toArray];exact hp.eval G
 have C:(zeroValue t).run P w=.ok z w:=by simp[zeroValue,typeInfo,hi,hz]
 simp only[execOp,Instr.build];rw[show(parts.toArray.map λ(i,x)=>(i,a.eval x)).toList=ps' from D];simp only[Sem.run_bind,C,Result.andThen_ok,run_underlying ht,hsz,hf]
 rfl
end
theorem zT5{x:Int}(h:(Lit.int .i64 x).wf=true):-9223372036854775808<=x/\x<9223372036854775808:=by
 simp only[Lit.wf,Bool.and_eq_true,decide_eq_true_eq] at h;simp[IntKind.min,IntKind.max,IntKind.signed,IntKind.bits] at h;omega
theorem zJE{xs:List Nat}(h:∀x∈xs,x<256):byt (qO xs)=xs:=by
 simp only[byt,qO,List.map_map]
 conv=>rhs;rw[<-List.map_id xs]
 refine List.map_congr_left λx hx=>?_;simp only[Function.comp,id];exact zoh (h x hx)
end Bk
namespace Bk
open Go Go.RowKit
open Classical
structure Is(h:Mem)(v:Value)(xs:List Int):Prop where
 sl:Sl h 1 v xs.length (xs.map vI)
 rng:∀x∈xs,-9223372036854775808<=x/\x<9223372036854775808
theorem Is.mono{h h':Mem}{v:Value}{xs:List Int}(s:Is h v xs)(hh:MLe h h'):Is h' v xs:=⟨s.sl.mono hh,s.rng⟩
theorem Is.nil(h:Mem):Is h (.slice none 0 0) []:=⟨Sl.nil h 1,by simp⟩
theorem Is.one{h:Mem}{v:Value}{xs:List Int}(s:Is h v xs):∃a cap,v=.slice a xs.length cap:=s.sl.one
theorem Is.lt63{h:Mem}{v:Value}{xs:List Int}(s:Is h v xs):xs.length<9223372036854775808:=s.sl.lt63
theorem Is.cells{h:Mem}{v:Value}{xs:List Int}(s:Is h v xs):v.cells=[v].toArray:=by
 obtain⟨a,C,rfl⟩:=s.one
 rfl
theorem is_of_row{w:World}{a:Option Addr}{len cap:Nat}{zs:List Int}
    (h:(a=none/\len=0/\cap=0/\zs=[])\/∃x,a=some x/\len<=cap/\cap<=maxLen/\zs.length=cap/\(∀i,i<zs.length->w.cell? (x.add i)=some (.int .i64 (zs.getD i 0)))/\∀n∈zs,(Lit.int .i64 n).wf=true):
    ∃xs:List Int,Is (mem w) (.slice a len cap) xs:=by
 rcases h with⟨rfl,rfl,rfl,rfl⟩|⟨x,rfl,h1,h2,h3,h4,h5⟩
 · exact⟨[],Is.nil _⟩
 · refine⟨zs.take len,⟨?_,?_⟩⟩
   · have J:(zs.take len).length=len:=by simp;omega
     rw[J];refine⟨_,cap,I,h1,h2,by simp;omega,λi hi=>?_⟩;have D:i<len:=by simp at hi;omega
     have G:=h4 i zot;have C:(x.add 0).spot=none:=World.cell?_spot (h4 0 zot);obtain⟨b,o,M⟩:=x;simp[Addr.add] at C;subst C;refine⟨b,o,I,?_⟩;rw[jY] at G;rw[zH0 G,List.getElem?_map,List.getElem?_take,if_pos D,zoc zot];rw[zoa,zoc zot]
     rfl
   · intro n H
     exact zT5 (h5 n (List.mem_of_mem_take H))
section
variable {P:Program}{n:Nat}{w0:World}{h0:Mem}{e:List (Nat×Value)}{L:List Res}{h:Mem}{Q:Exit->Act->World->Prop}
variable {ds:Option Tmp}{ty:TypeId}{ps:String}{af:Array Edge}{gd:Option (Nat×Bool)}
theorem zIK{v:Value}{xs:List Int}{t E:TypeId}{x:Operand}(ht:P.underlying t=some (.slice E))(hx:zJ e x=some v)(hv:Is h v xs):
 OpV P n w0 h0 ⟨ds,.call {callee:=.builtin .len,args:=#[x],argTypes:=#[t]},ty,ps,af,gd⟩ e L h (vI (xs.length:Int)):=mF ht hx hv.one
theorem zMD{v:Value}{xs:List Int}{t E:TypeId}{x y:Operand}{q:Int}(i:Nat)(ht:P.underlying t=some (.slice E))(hsz:∀w,(Go.sizeOf E).run P w=.ok 1 w)(hx:zJ e x=some v)(hy:zJ e y=some (vI q))
    (hv:Is h v xs)(hq:q=(i:Int))(hi:i<xs.length):OpV P n w0 h0 ⟨ds,.indexAddr t x y,ty,ps,af,gd⟩ e L h (zI 1 v i):=iH i ht hsz hx hy hv.sl hq hi zot
theorem zO3{v:Value}{xs:List Int}{t:TypeId}{x:Operand}{i:Nat}(ha:∀w,(isAgg t).run P w=.ok false w)(hx:zJ e x=some (zI 1 v i))(hv:Is h v xs)(hi:i<xs.length):
 OpV P n w0 h0 ⟨ds,.load t x,ty,ps,af,gd⟩ e L h (vI (xs.getD i 0)):=
 zFR ha hx hv.sl (by rw[List.getElem?_map,zoc hi,zoa,zoc hi];rfl)
theorem zS9{t yt:TypeId}{x y:Operand}{p q:Int}(hx:zJ e x=some (vI p))(hy:zJ e y=some (vI q))(h3:0<q):
 OpV P n w0 h0 ⟨ds,.binOp .rem t x y yt,ty,ps,af,gd⟩ e L h (vI (p.tmod q)):=by
 intro a w E S;have C:q≠0:=by omega
 simp[execOp,E.eval hx,E.eval hy,vI,xN,binOp,Op.intDiv,C]
theorem zTA{t yt:TypeId}{x y:Operand}{p q:Int}(hx:zJ e x=some (vI p))(hy:zJ e y=some (vI q))(h1:-9223372036854775808<=p)(h2:p<9223372036854775808)(h3:0<q):
 OpV P n w0 h0 ⟨ds,.binOp .quo t x y yt,ty,ps,af,gd⟩ e L h (vI (p.tdiv q)):=by
 intro a w E S;have G:q≠0:=by omega
 have C:-9223372036854775808<=p.tdiv q/\p.tdiv q<9223372036854775808:=by
  rcases Int.le_total 0 p with hp|hp
  · rw[Int.tdiv_eq_ediv_of_nonneg hp]
    have J:0<=p/q:=Int.ediv_nonneg hp zot;have H:p/q<=p:=Int.ediv_le_self q hp;omega
  · have D:(-p).tdiv q=(-p)/q:=Int.tdiv_eq_ediv_of_nonneg zot
    rw[Int.neg_tdiv] at D;have J:0<=(-p)/q:=Int.ediv_nonneg zot zot;have H:(-p)/q<= -p:=Int.ediv_le_self q zot;omega
 simp[execOp,E.eval hx,E.eval hy,vI,xN,binOp,Op.intDiv,G,j4 (x:=p.tdiv q) C.1 C.2]
end
def rB(w0:World)(h0:Mem)(h:Mem)(L:List Res)(G:Mem->Value->Res->Prop):Ending->World->Prop:=
 fW w0 h0 (λg v K=>∃q',(q'::L).Sublist K/\MLe h g/\G g v q')
section
variable {P:Program}{n:Nat}{w0:World}{h0:Mem}{e:List (Nat×Value)}{L:List Res}{h:Mem}{Q:Exit->Act->World->Prop}
variable {ty:TypeId}{ps:String}{af:Array Edge}
theorem yD{ops:Array Oper}{rest:List Oper}{d f:Nat}{xs:List Operand}{ts:Array TypeId}{vs:List Value}{A B:List Res}{q:Res}{G:Mem->Value->Res->Prop}(hcall:∀args w,(callFunc f args).run P w=.ok (.enter f args) w)(hvs:cR e xs vs)
    (hc:∀X w,St w0 h0 (q::X) h w->Calls P f vs.toArray w (rB w0 h0 h X G))(hn:Nat.ble (d+1) n=true)(k:∀v g q',MLe h g->G g v q'->GL P n w0 h0 ops Q rest ((d,v)::e) (A++q'::B) g):
    GL P n w0 h0 ops Q (⟨some d,.call {callee:=.value (.func f),args:=xs.toArray,argTypes:=ts},ty,ps,af,none⟩::rest) e (A++q::B) h:=by
 refine iQ ?_;refine nH I I I hn hcall hvs (hc (A++B)) ?_
 rintro v g K ⟨q',D,C,H⟩
 have:=k v g q' C H;exactλa w J S=>this a w J ((S.sublist D).perm List.perm_middle.symm)
section
variable {ops:Array Oper}{R:List Res}{d:Nat}
theorem aW{W':List (Nat×Value)->List Res->Mem->Prop}{f:Nat}{xs:List Operand}{ts:Array TypeId}{vs:List Value}{A B:List Res}{q:Res}{G:Mem->Value->Res->Prop}(hcall:∀args w,(callFunc f args).run P w=.ok (.enter f args) w)(hvs:cR e xs vs)
    (hc:∀X w,St w0 h0 (q::X) h w->Calls P f vs.toArray w (rB w0 h0 h X G))(hn:Nat.ble (d+1) n=true)(hR:∀r∈R,∀q',r∈A++q::B->r∈A++q'::B)
    (k:∀v g q',MLe h g->G g v q'->W' ((d,v)::e) (A++q'::B) g):
    kB P n w0 h0 ops R ⟨some d,.call {callee:=.value (.func f),args:=xs.toArray,argTypes:=ts},ty,ps,af,none⟩ e (A++q::B) h W':=by
 intro X a w E S;have S1:St w0 h0 (q::(A++B++X)) h w:=S.perm zo2;unfold qT;rw[if_pos (wn I)];have C:xs.toArray.map a.eval=vs.toArray:=by rw[List.map_toArray,E.evals hvs]
 have H:(execOp a.eval ⟨some d,.call {callee:=.value (.func f),args:=xs.toArray,argTypes:=ts},ty,ps,af,none⟩).run P w=.ok (.enter f vs.toArray) w:=by
  simp only[execOp,resolve,Act.eval];simp[Deferred.ofValue,invoke,hcall,C]
 rw[H];refine(hc _ w S1).mono ?_
 rintro e' J ⟨v,g,K,rfl,⟨q',O,D,U⟩,S'⟩
 have Z:St w0 h0 (A++q'::B++X) g J:=(S'.sublist O).perm (by simpa using List.perm_middle.symm);exact⟨v,I,λd' M=>(by cases M;exact Nat.le_of_ble_eq_true hn),A++q'::B,g,D,λhh r H=>hR r H q' (hh r H),Z,k v g q' D U⟩
theorem zM2{A B:List Res}{q:Res}:∀r∈A++B,r∈A++q::B:=by
 intro r C;simp only[List.mem_append,List.mem_cons] at C ⊢
 rcases C with h|h
 · exact .inl h
 · exact .inr (.inr h)
theorem qG{Q:Exit->Act->World->Prop}{id:Nat}{l:List Oper}{A B:List Res}{q:Res}(m:Nat)(al:Als)(ord:List (Nat×Kd))(hm:P.follows .mixedOrders=true)(hal:jM P n l.toArray al)
    (hchk:(Region.noSelect l.toArray&&cJ l.toArray al&&(al.all λx=>decide (x.1<m))&&chk l.toArray m ord (Array.replicate l.length false) (al.map (·.1)))=true)(hae:∀x∈al,al.lookup x.1=some x.2/\e.lookup x.2.1=none)
    (k:W P n w0 h0 l.toArray Q (A++B) al ord e (A++q::B) h):GC P n w0 h0 (.region id l.toArray true) Q e (A++q::B) h:=zK m (A++B) al ord hm hal hchk hae zM2 k
theorem xJ{R A B:List Res}{q:Res}(hR:∀r∈R,r∈A++B):∀r∈R,∀q',r∈A++q::B->r∈A++q'::B:=λr hr q' _=>zM2 r (hR r hr)
end
end
def iM(p q:Int):Int:=if p.tmod q<0 then p.tmod q+q else p.tmod q
theorem zE3(p:Int){q:Int}(hq:0<q):-q<p.tmod q/\p.tmod q<q:=by
 have h1:=Int.tmod_lt_of_pos p hq;have h2:=Int.tmod_lt_of_pos (-p) hq;rw[Int.neg_tmod] at h2;omega
theorem zAA(p:Int){q:Int}(hq:0<q):0<=iM p q/\iM p q<q:=by
 have:=zE3 p hq;unfold iM
 split<;>omega
def yDP(n:Int):Int:=1+iM (n.tdiv 17) 12
noncomputable def zQ0(n:Int):Rat:=jU (iM n (yDP n+1)) (yDP n)
theorem zUM{v:Value}(h:v.oneCell'=true):v.cells=#[v]:=by cases v<;>simp[Value.oneCell'] at h<;>rfl
structure Rp(α:Type) where
 n:Nat
 agg:Bool
 R:Mem->List Value->α->Prop
 len:∀{h cs x},R h cs x->cs.length=n
 mono:∀{h h' cs x},MLe h h'->R h cs x->R h' cs x
 one:∀{h cs x},R h cs x->cs.all (·.oneCell')=true
 cell:agg=false->n=1
section
variable {α β γ δ:Type}
def Rp.val(ρ:Rp α)(cs:List Value):Value:=if ρ.agg then .agg cs.toArray else cs.headD undef
def Rp.Is(ρ:Rp α)(h:Mem)(v:Value)(x:α):Prop:=∃cs,ρ.R h cs x/\v=ρ.val cs
theorem Rp.Is.mono{ρ:Rp α}{h h':Mem}{v:Value}{x:α}(s:ρ.Is h v x)(hh:MLe h h'):ρ.Is h' v x:=by
 obtain⟨cs,r,e⟩:=s;exact⟨cs,ρ.mono hh r,e⟩
theorem Rp.single{ρ:Rp α}{h:Mem}{cs:List Value}{x:α}(r:ρ.R h cs x)(ha:ρ.agg=false):∃c,cs=[c]/\c.oneCell'=true:=by
 have h1:=ρ.len r;have h2:=ρ.one r;rw[ρ.cell ha] at h1
 match cs,h1 with
 |[c],_=>exact⟨c,rfl,by simpa using h2⟩
theorem Rp.cells_val{ρ:Rp α}{h:Mem}{cs:List Value}{x:α}(r:ρ.R h cs x):(ρ.val cs).cells=cs.toArray:=by
 unfold Rp.val
 split
 · rfl
 · rename_i ha
   obtain⟨c,rfl,C⟩:=Rp.single r (by simpa using ha);exact zUM C
theorem Rp.Is.cells{ρ:Rp α}{h:Mem}{v:Value}{x:α}(s:ρ.Is h v x):∃cs,ρ.R h cs x/\v.cells=cs.toArray:=by
 obtain⟨cs,r,rfl⟩:=s;exact⟨cs,r,Rp.cells_val r⟩
theorem Rp.Is.cast{ρ:Rp α}{h:Mem}{v:Value}{x y:α}(s:ρ.Is h v x)(e:x=y):ρ.Is h v y:=e▸s
def RL(ρ:Rp α)(h:Mem):List Value->List α->Prop
  |cs,[]=>cs=[]
  |cs,x::xs=>∃a b,cs=a++b/\ρ.R h a x/\RL ρ h b xs
theorem RL.len{ρ:Rp α}{h:Mem}:∀{xs:List α} {cs:List Value},RL ρ h cs xs->cs.length=xs.length*ρ.n
  |[],_,r=>by rw[r];simp
  |x::xs,_,⟨a,b,e,r,s⟩=>by rw[e,lAz,ρ.len r,s.len,lC,Nat.add_mul];omega
theorem RL.mono{ρ:Rp α}{h h':Mem}(hh:MLe h h'):∀{xs:List α} {cs:List Value},RL ρ h cs xs->RL ρ h' cs xs
  |[],_,r=>r
  |_::_,_,⟨a,b,e,r,s⟩=>⟨a,b,e,ρ.mono hh r,s.mono hh⟩
theorem RL.one{ρ:Rp α}{h:Mem}:∀{xs:List α} {cs:List Value},RL ρ h cs xs->cs.all (·.oneCell')=true
  |[],_,r=>by rw[r];rfl
  |_::_,_,⟨a,b,e,r,s⟩=>by rw[e,List.all_append,ρ.one r,s.one];rfl
theorem RL.append{ρ:Rp α}{h:Mem}:∀{xs ys:List α} {cs ds:List Value},RL ρ h cs xs->RL ρ h ds ys->RL ρ h (cs++ds) (xs++ys)
  |[],_,_,_,r,s=>by rw[r];exact s
  |_::_,_,_,_,⟨a,b,e,r,s⟩,t=>⟨a,_,by rw[e,List.append_assoc],r,s.append t⟩
theorem RL.nil{ρ:Rp α}{h:Mem}:RL ρ h [] []:=rfl
theorem RL.drop{ρ:Rp α}{h:Mem}:∀{xs:List α} {cs:List Value} (i:Nat),RL ρ h cs xs->RL ρ h (cs.drop (i*ρ.n)) (xs.drop i)
  |_,_,0,r=>by simpa using r
  |[],_,i+1,r=>by rw[r];simp[RL]
  |_::xs,_,i+1,⟨a,b,e,r,s⟩=>by
   rw[e,show(i+1)*ρ.n=a.length+i*ρ.n by rw[ρ.len r,Nat.add_mul];omega,<-List.drop_drop,List.drop_left];exact s.drop i
theorem RL.take{ρ:Rp α}{h:Mem}:∀{xs:List α} {cs:List Value} (i:Nat),RL ρ h cs xs->RL ρ h (cs.take (i*ρ.n)) (xs.take i)
  |_,_,0,r=>by simp[RL]
  |[],_,i+1,r=>by rw[r];simp[RL]
  |_::xs,_,i+1,⟨a,b,e,r,s⟩=>by
   rw[e,show(i+1)*ρ.n=a.length+i*ρ.n by rw[ρ.len r,Nat.add_mul];omega,List.take_length_add_append];exact⟨a,_,rfl,r,s.take i⟩
theorem RL.get{ρ:Rp α}{h:Mem}{xs:List α}{cs:List Value}{i:Nat}{x:α}(r:RL ρ h cs xs)(hx:xs[i]?=some x):ρ.R h ((cs.drop (i*ρ.n)).take ρ.n) x:=by
 have h1:=r.drop i;obtain⟨hi,e⟩:=List.getElem?_eq_some_iff.1 hx;rw[List.drop_eq_getElem_cons hi,e] at h1;obtain⟨a,b,D,C,_⟩:=h1;rw[D,<-ρ.len C,List.take_left];exact C
theorem RL.set{ρ:Rp α}{h:Mem}{xs:List α}{cs ds:List Value}{i:Nat}{y:α}(r:RL ρ h cs xs)(hi:i<xs.length)(hd:ρ.R h ds y):RL ρ h (cs.take (i*ρ.n)++ds++cs.drop (i*ρ.n+ρ.n)) (xs.set i y):=by
 have h1:=r.take i;have h2:=r.drop (i+1);rw[Nat.add_mul,Nat.one_mul] at h2;rw[List.set_eq_take_append_cons_drop,if_pos hi,List.append_assoc];exact h1.append ⟨ds,_,I,hd,h2⟩
def rpQ(k:Nat):Rp Rat where
 n:=3
 agg:=true
 R h cs q:=(∃vn vd,cs=[vB (q.num<0),vn,vd]/\Us .u32 h vn (zB q.num.natAbs)/\Us .u32 h vd (zB (wU q.den)))/\lq q<=k
 len:=by rintro h cs q ⟨⟨vn,vd,rfl,_⟩,_⟩;rfl
 mono:=by
  rintro h h' cs q hh ⟨⟨vn,vd,rfl,h1,h2⟩,h3⟩
  exact⟨⟨vn,vd,rfl,h1.mono hh,h2.mono hh⟩,h3⟩
 one:=by
  rintro h cs q ⟨⟨vn,vd,rfl,h1,h2⟩,h3⟩
  exact ocr rfl (ocu h1 (ocu h2 oc0))
 cell:=by simp
def rpI:Rp Int where
 n:=1
 agg:=false
 R _ cs z:=cs=[vI z]/\-9223372036854775808<=z/\z<9223372036854775808
 len:=by rintro h cs z ⟨rfl,_⟩;rfl
 mono:=λ_ r=>r
 one:=by rintro h cs z ⟨rfl,_⟩;rfl
 cell:=λ_=>rfl
def rpB:Rp Prop where
 n:=1
 agg:=false
 R _ cs p:=cs=[vB p]
 len:=by rintro h cs p rfl;rfl
 mono:=λ_ r=>r
 one:=by rintro h cs p rfl;rfl
 cell:=λ_=>rfl
def rpP(ρ:Rp α)(σ:Rp β):Rp (α×β) where
 n:=ρ.n+σ.n
 agg:=true
 R h cs x:=∃a b,cs=a++b/\ρ.R h a x.1/\σ.R h b x.2
 len:=by rintro h cs x ⟨a,b,rfl,h1,h2⟩;rw[lAz,ρ.len h1,σ.len h2]
 mono:=by rintro h h' cs x hh ⟨a,b,rfl,h1,h2⟩;exact⟨a,b,rfl,ρ.mono hh h1,σ.mono hh h2⟩
 one:=by rintro h cs x ⟨a,b,rfl,h1,h2⟩;rw[List.all_append,ρ.one h1,σ.one h2];rfl
 cell:=by simp
@[ext] structure T3(α:Type) where
 x:α
 y:α
 z:α
abbrev zT:T3 Rat:=T3.mk (0:Rat) 0 0
def T3.at(p:T3 α):Nat->α
  |0=>p.x
  |1=>p.y
  |_=>p.z
def T3.set(p:T3 α):Nat->α->T3 α
  |0,a=>⟨a,p.y,p.z⟩
  |1,a=>⟨p.x,a,p.z⟩
  |_,a=>⟨p.x,p.y,a⟩
def rpT(ρ:Rp α):Rp (T3 α) where
 n:=ρ.n+(ρ.n+ρ.n)
 agg:=true
 R h cs p:=(rpP ρ (rpP ρ ρ)).R h cs (p.x,p.y,p.z)
 len:=λr=>(rpP ρ (rpP ρ ρ)).len r
 mono:=λhh r=>(rpP ρ (rpP ρ ρ)).mono hh r
 one:=λr=>(rpP ρ (rpP ρ ρ)).one r
 cell:=by simp
def rpA(k:Nat)(ρ:Rp α):Rp (List α) where
 n:=k*ρ.n
 agg:=true
 R h cs xs:=xs.length=k/\RL ρ h cs xs
 len:=by rintro h cs xs ⟨rfl,r⟩;exact r.len
 mono:=λhh r=>⟨r.1,r.2.mono hh⟩
 one:=λr=>r.2.one
 cell:=by simp
def rpS(ρ:Rp α):Rp (List α) where
 n:=1
 agg:=false
 R h cs xs:=∃v ds,cs=[v]/\Sl h ρ.n v xs.length ds/\RL ρ h ds xs
 len:=by rintro h cs xs ⟨v,ds,rfl,_⟩;rfl
 mono:=by rintro h h' cs xs hh ⟨v,ds,rfl,h1,h2⟩;exact⟨v,ds,rfl,h1.mono hh,h2.mono hh⟩
 one:=by
  rintro h cs xs ⟨v,ds,rfl,h1,h2⟩
  obtain⟨a,cap,rfl⟩:=h1.one
  rfl
 cell:=λ_=>rfl
theorem wH{h:Mem}{z:Int}(h1:-9223372036854775808<=z)(h2:z<9223372036854775808):rpI.Is h (vI z) z:=⟨_,⟨rfl,h1,h2⟩,rfl⟩
theorem kS{h:Mem}{v:Value}{z:Int}(s:rpI.Is h v z):v=vI z/\-9223372036854775808<=z/\z<9223372036854775808:=by
 obtain⟨cs,⟨rfl,h1,h2⟩,rfl⟩:=s;exact⟨I,h1,h2⟩
theorem yKZ{h:Mem}(p:Prop):rpB.Is h (vB p) p:=⟨_,rfl,rfl⟩
theorem yG0{h:Mem}{v:Value}{p:Prop}(s:rpB.Is h v p):v=vB p:=by
 obtain⟨cs,rfl,rfl⟩:=s
 rfl
theorem y0{h:Mem}{v:Value}{q:Rat}{k:Nat}(s:vC h v q)(hk:lq q<=k):(rpQ k).Is h v q:=by
 obtain⟨C,D,rfl,h1,h2⟩:=s;exact⟨_,⟨⟨C,D,I,h1,h2⟩,hk⟩,I⟩
theorem of_q{h:Mem}{v:Value}{q:Rat}{k:Nat}(s:(rpQ k).Is h v q):vC h v q/\lq q<=k:=by
 obtain⟨cs,⟨⟨C,D,rfl,h1,h2⟩,G⟩,rfl⟩:=s;exact⟨⟨C,D,I,h1,h2⟩,G⟩
theorem qR{h:Mem}{v:Value}{q:Rat}{k:Nat}(s:(rpQ k).Is h v q):∃vn vd,v=.agg #[vB (q.num<0),vn,vd]/\Us .u32 h vn (zB q.num.natAbs)/\Us .u32 h vd (zB (wU q.den))/\lq q<=k:=by
 obtain⟨cs,⟨⟨vn,vd,rfl,h1,h2⟩,C⟩,rfl⟩:=s;exact⟨vn,vd,I,h1,h2,C⟩
theorem yCH{ρ:Rp α}{h:Mem}{v:Value}{xs:List α}{ds:List Value}(s:Sl h ρ.n v xs.length ds)(r:RL ρ h ds xs):(rpS ρ).Is h v xs:=⟨_,⟨v,ds,rfl,s,r⟩,rfl⟩
theorem zTE{ρ:Rp α}{h:Mem}{v:Value}{xs:List α}(s:(rpS ρ).Is h v xs):∃ds,Sl h ρ.n v xs.length ds/\RL ρ h ds xs:=by
 obtain⟨cs,⟨v,ds,rfl,h1,h2⟩,rfl⟩:=s;exact⟨ds,h1,h2⟩
theorem oT{ρ:Rp α}(h:Mem):(rpS ρ).Is h (.slice none 0 0) []:=yCH (Sl.nil h _) rfl
theorem yKE{ρ:Rp α}{h:Mem}{v:Value}{xs:List α}(s:(rpS ρ).Is h v xs):xs.length<9223372036854775808:=by
 obtain⟨ds,h1,_⟩:=zTE s;exact h1.lt63
theorem yKD{ρ:Rp α}{h:Mem}{v:Value}{xs:List α}(s:(rpS ρ).Is h v xs):∃a cap,v=.slice a xs.length cap:=by
 obtain⟨ds,h1,_⟩:=zTE s;exact h1.one
structure Le(ρ σ:Rp α):Prop where
 n:ρ.n=σ.n
 agg:ρ.agg=σ.agg
 R:∀{h cs x},ρ.R h cs x->σ.R h cs x
theorem Le.refl(ρ:Rp α):Le ρ ρ:=⟨rfl,rfl,id⟩
theorem Le.q{k l:Nat}(h:k<=l):Le (rpQ k) (rpQ l):=⟨rfl,rfl,λ⟨a,b⟩=>⟨a,Nat.le_trans b h⟩⟩
theorem Le.p{ρ ρ':Rp α}{σ σ':Rp β}(h:Le ρ ρ')(k:Le σ σ'):Le (rpP ρ σ) (rpP ρ' σ'):=⟨by show ρ.n+σ.n=ρ'.n+σ'.n;rw[h.n,k.n],rfl,λ⟨a,b,e,r,s⟩=>⟨a,b,e,h.R r,k.R s⟩⟩
theorem Le.t{ρ ρ':Rp α}(h:Le ρ ρ'):Le (rpT ρ) (rpT ρ'):=⟨by show ρ.n+(ρ.n+ρ.n)=ρ'.n+(ρ'.n+ρ'.n);rw[h.n],rfl,λr=>(Le.p h (Le.p h h)).R r⟩
theorem Le.rl{ρ ρ':Rp α}(h:Le ρ ρ'){m:Mem}:∀{xs:List α} {cs:List Value},RL ρ m cs xs->RL ρ' m cs xs
  |[],_,r=>r
  |_::_,_,⟨a,b,e,r,s⟩=>⟨a,b,e,h.R r,h.rl s⟩
theorem Le.a{k:Nat}{ρ ρ':Rp α}(h:Le ρ ρ'):Le (rpA k ρ) (rpA k ρ'):=⟨by show k*ρ.n=k*ρ'.n;rw[h.n],rfl,λr=>⟨r.1,h.rl r.2⟩⟩
theorem Le.s{ρ ρ':Rp α}(h:Le ρ ρ'):Le (rpS ρ) (rpS ρ'):=⟨rfl,rfl,λ⟨v,ds,e,s,r⟩=>⟨v,ds,e,h.n▸s,h.rl r⟩⟩
theorem Rp.Is.le{ρ σ:Rp α}{h:Mem}{v:Value}{x:α}(s:ρ.Is h v x)(k:Le ρ σ):σ.Is h v x:=by
 obtain⟨cs,r,rfl⟩:=s;exact⟨cs,k.R r,by unfold Rp.val;rw[k.agg]⟩
structure Pc(ρ:Rp α)(off:Nat)(σ:Rp β)(g:α->β)(s:α->β->α):Prop where
 fits:off+σ.n<=ρ.n
 get:∀{h cs x},ρ.R h cs x->σ.R h ((cs.drop off).take σ.n) (g x)
 set:∀{h cs x ds y},ρ.R h cs x->σ.R h ds y->ρ.R h (cs.take off++ds++cs.drop (off+σ.n)) (s x y)
theorem Pc.here(ρ:Rp α):Pc ρ 0 ρ (λx=>x) (λ_ y=>y):=by
 refine⟨by omega,λr=>?_,λ{h cs x ds y} r s=>?_⟩
 · have:=ρ.len r
   rw[List.drop_zero,<-this,List.take_length];exact r
 · have:=ρ.len r
   rw[Nat.zero_add,<-this,List.drop_length,List.take_zero,List.nil_append,List.append_nil];exact s
theorem Pc.fst{ρ:Rp α}{σ:Rp β}{τ:Rp γ}{off:Nat}{g:α->γ}{s:α->γ->α}(p:Pc ρ off τ g s):Pc (rpP ρ σ) off τ (λx=>g x.1) (λx y=>(s x.1 y,x.2)):=by
 have J:=p.fits;refine⟨by show off+τ.n<=ρ.n+σ.n;omega,?_,?_⟩
 · rintro h cs x ⟨a,b,rfl,C,D⟩
   have H:=ρ.len C;have:=p.get C
   rwa [List.drop_append_of_le_length zot,List.take_append_of_le_length (by rw[List.length_drop];omega)]
 · rintro h cs x ds y ⟨a,b,rfl,C,D⟩ G
   have H:=ρ.len C;refine⟨_,b,?_,p.set C G,D⟩;rw[List.take_append_of_le_length zot,List.drop_append_of_le_length zot];simp[List.append_assoc]
theorem Pc.snd{ρ:Rp α}{σ:Rp β}{τ:Rp γ}{off:Nat}{g:β->γ}{s:β->γ->β}(p:Pc σ off τ g s):Pc (rpP ρ σ) (ρ.n+off) τ (λx=>g x.2) (λx y=>(x.1,s x.2 y)):=by
 have J:=p.fits;refine⟨by show ρ.n+off+τ.n<=ρ.n+σ.n;omega,?_,?_⟩
 · rintro h cs x ⟨a,b,rfl,C,D⟩
   have G:=ρ.len C;have:=p.get D
   rwa [<-G,<-List.drop_drop,List.drop_left]
 · rintro h cs x ds y ⟨a,b,rfl,C,D⟩ H
   have G:=ρ.len C;refine⟨a,_,?_,C,p.set D H⟩;rw[<-G,List.take_length_add_append,Nat.add_assoc,<-List.drop_drop,List.drop_left];simp[List.append_assoc]
theorem Pc.tx{ρ:Rp α}{τ:Rp γ}{off:Nat}{g:α->γ}{s:α->γ->α}(p:Pc ρ off τ g s):Pc (rpT ρ) off τ (λx=>g x.x) (λx y=>⟨s x.x y,x.y,x.z⟩):=by
 have q:Pc (rpP ρ (rpP ρ ρ)) off τ _ _:=p.fst;exact⟨q.fits,λr=>q.get r,λr d=>q.set r d⟩
theorem Pc.ty{ρ:Rp α}{τ:Rp γ}{off:Nat}{g:α->γ}{s:α->γ->α}(p:Pc ρ off τ g s):Pc (rpT ρ) (ρ.n+off) τ (λx=>g x.y) (λx y=>⟨x.x,s x.y y,x.z⟩):=by
 have q:Pc (rpP ρ (rpP ρ ρ)) (ρ.n+off) τ _ _:=(Pc.fst (σ:=ρ) p).snd;exact⟨q.fits,λr=>q.get r,λr d=>q.set r d⟩
theorem Pc.tz{ρ:Rp α}{τ:Rp γ}{off:Nat}{g:α->γ}{s:α->γ->α}(p:Pc ρ off τ g s):Pc (rpT ρ) (ρ.n+(ρ.n+off)) τ (λx=>g x.z) (λx y=>⟨x.x,x.y,s x.z y⟩):=by
 have q:Pc (rpP ρ (rpP ρ ρ)) (ρ.n+(ρ.n+off)) τ _ _:=(Pc.snd (ρ:=ρ) p).snd;exact⟨q.fits,λr=>q.get r,λr d=>q.set r d⟩
theorem Pc.ta{ρ:Rp α}{τ:Rp γ}{off:Nat}{g:α->γ}{s:α->γ->α}(p:Pc ρ off τ g s)(i:Nat)(hi:i<3):Pc (rpT ρ) (i*ρ.n+off) τ (λx=>g (x.at i)) (λx y=>x.set i (s (x.at i) y)):=by
 match i,hi with
 |0,_=>rw[Nat.zero_mul,Nat.zero_add];exact p.tx
 |1,_=>rw[Nat.one_mul];exact p.ty
 |2,_=>rw[show 2*ρ.n+off=ρ.n+(ρ.n+off) by omega];exact p.tz
theorem Pc.arr{ρ:Rp α}{τ:Rp γ}{off k:Nat}{g:α->γ}{s:α->γ->α}(p:Pc ρ off τ g s)(d:α)(i:Nat)(hi:i<k):Pc (rpA k ρ) (i*ρ.n+off) τ (λx=>g (x.getD i d)) (λx y=>x.set i (s (x.getD i d) y)):=by
 have U:=p.fits;have O:i*ρ.n+ρ.n<=k*ρ.n:=by rw[<-Nat.succ_mul];exact Nat.mul_le_mul_right _ hi
 have hx:∀{x:List α},x.length=k->x[i]?=some (x.getD i d):=by
  intro x C;rw[zoa,zoc zot];rfl
 refine⟨by show i*ρ.n+off+τ.n<=k*ρ.n;omega,?_,?_⟩
 · rintro h cs x ⟨C,r⟩
   have h1:=p.get (r.get (hx C));rw[List.drop_take,List.take_take,Nat.min_eq_left zot,List.drop_drop] at h1;exact h1
 · rintro h cs x ds y ⟨C,r⟩ G
   have H:=r.len;rw[C] at H;refine⟨by simpa using C,?_⟩;have h1:=r.set (i:=i) zot (p.set (r.get (hx C)) G);have e:cs.take (i*ρ.n)++(((cs.drop (i*ρ.n)).take ρ.n).take off++ds++((cs.drop (i*ρ.n)).take ρ.n).drop (off+τ.n))++cs.drop (i*ρ.n+ρ.n)=cs.take (i*ρ.n+off)++ds++cs.drop (i*ρ.n+off+τ.n):=by
    rw[List.take_take,Nat.min_eq_left zot,List.drop_take,List.drop_drop];have M:cs.take (i*ρ.n+off)=cs.take (i*ρ.n)++(cs.drop (i*ρ.n)).take off:=List.take_add;have J:cs.drop (i*ρ.n+off+τ.n)=(cs.drop (i*ρ.n+(off+τ.n))).take (ρ.n-(off+τ.n))++cs.drop (i*ρ.n+ρ.n):=by
     have D:=List.take_append_drop (ρ.n-(off+τ.n)) (cs.drop (i*ρ.n+(off+τ.n)));rw[List.drop_drop,show i*ρ.n+(off+τ.n)+(ρ.n-(off+τ.n))=i*ρ.n+ρ.n by omega] at D;rw[Nat.add_assoc (i*ρ.n)];exact D.symm
    rw[M,J];simp[List.append_assoc]
   rw[<-e];exact h1
theorem yI{k:Nat}{h:Mem}(hk:1<=k):(rpQ k).R h [.bool false,.slice none 0 0,.slice none 0 0] 0:=by
 refine⟨⟨_,_,?_,zDJ h,zDK h⟩,by rw[zBP];exact hk⟩;rw[yH (show ¬(0:Rat).num<0 by decide)]
theorem wL{h:Mem}:rpI.R h [.int .i64 0] 0:=⟨rfl,by decide,by decide⟩
theorem zSH{h:Mem}:rpB.R h [.bool false] False:=by show _=_;rw[yH (p:=False) id]
theorem yC{ρ:Rp α}{σ:Rp β}{h:Mem}{a b:List Value}{x:α}{y:β}(r:ρ.R h a x)(s:σ.R h b y):(rpP ρ σ).R h (a++b) (x,y):=⟨a,b,rfl,r,s⟩
theorem xO{ρ:Rp α}{h:Mem}{a:List Value}{x:α}(r:ρ.R h a x):(rpT ρ).R h (a++(a++a)) ⟨x,x,x⟩:=⟨a,_,rfl,r,a,a,rfl,r,r⟩
theorem wG{ρ:Rp α}{h:Mem}:(rpS ρ).R h [.slice none 0 0] []:=⟨_,[],rfl,Sl.nil h _,rfl⟩
theorem zLD{ρ:Rp α}{h:Mem}{a:List Value}{x:α}(k:Nat)(r:ρ.R h a x):(rpA k ρ).R h (List.replicate k a).flatten (List.replicate k x):=by
 refine⟨List.length_replicate,?_⟩
 induction k with
 |zero=>rfl
 |succ k ih=>rw[List.replicate_succ,List.replicate_succ];exact⟨a,_,I,r,ih⟩
end
structure TyOk(P:Program)(t:TypeId)(n:Nat)(agg:Bool):Prop where
 sz:∀w,(Go.sizeOf t).run P w=.ok n w
 ag:∀w,(isAgg t).run P w=.ok agg w
section
variable {α β γ:Type}
variable {P:Program}{n:Nat}{w0:World}{h0:Mem}{e:List (Nat×Value)}{L:List Res}{h:Mem}{Q:Exit->Act->World->Prop}
variable {ds:Option Tmp}{ty:TypeId}{ps:String}{af:Array Edge}{gd:Option (Nat×Bool)}
theorem zFJ:∀(vs:List Value) (k:Nat) (cs:List Value),k+vs.length<=cs.length->w5 cs k vs=cs.take k++vs++cs.drop (k+vs.length):=by
 have key:∀(vs:List Value) (j k:Nat) (cs:List Value),k+j+vs.length<=cs.length->(vs.zipIdx j).foldl (λc p=>c.set (k+p.2) p.1) cs=cs.take (k+j)++vs++cs.drop (k+j+vs.length):=by
  intro vs
  induction vs with
  |nil=>intro j k cs hl;simp
  |cons v vs ih=>
   intro j k cs hl;simp only[lC] at hl;rw[List.zipIdx_cons,List.foldl_cons,ih (j+1) k _ (by rw[lS];omega)];rw[List.set_eq_take_append_cons_drop,if_pos zot];have h1:(cs.take (k+j)).length=k+j:=by rw[List.length_take];omega
   have e1:(cs.take (k+j)++v::cs.drop (k+j+1)).take (k+(j+1))=cs.take (k+j)++[v]:=by
    rw[show k+(j+1)=(cs.take (k+j)).length+1 by omega,List.take_length_add_append];rfl
   have e2:(cs.take (k+j)++v::cs.drop (k+j+1)).drop (k+(j+1)+vs.length)=cs.drop (k+j+(vs.length+1)):=by
    rw[show k+(j+1)+vs.length=(cs.take (k+j)).length+(vs.length+1) by omega,<-List.drop_drop,List.drop_left,List.drop_succ_cons,List.drop_drop]
    congr 1;omega
   rw[e1,e2];simp
 intro vs k cs hl;exact key vs 0 k cs zot
def OpX(P:Program)(n:Nat)(w0:World)(h0:Mem)(o:Oper)(e:List (Nat×Value))(R:List Res)(h:Mem)(F:Value->Prop):Prop:=
 ∃v,(∀L' h',MLe h h'->(∀r∈R,r∈L')->OpV P n w0 h0 o e L' h' v)/\F v
theorem zHW{ops:Array Oper}{rest:List Oper}{d:Nat}{op:Op}{R:List Res}{F:Value->Prop}(hv:OpX P n w0 h0 ⟨some d,op,ty,ps,af,none⟩ e R h F)(hR:∀r∈R,r∈L)(hn:Nat.ble (d+1) n=true)
    (k:∀v,F v->GL P n w0 h0 ops Q rest ((d,v)::e) L h):GL P n w0 h0 ops Q (⟨some d,op,ty,ps,af,none⟩::rest) e L h:=by
 obtain⟨v,hv,C⟩:=hv;exact oV (hv L h (MLe.refl h) hR) I I hn (k v C)
section
variable {ops:Array Oper}{RR:List Res}{al:Als}{d i:Nat}{op:Op}{v:Value}{r:List (Nat×Kd)}{g t:Nat}{b:Bool}
theorem aD{R:List Res}{F:Value->Prop}(ho:ops.getD i default=⟨some d,op,ty,ps,af,none⟩)(hv:OpX P n w0 h0 ⟨some d,op,ty,ps,af,none⟩ e R h F)(hR:∀r∈R,r∈RR)(hn:Nat.ble (d+1) n=true)
    (k:∀v,F v->W P n w0 h0 ops Q RR al r ((d,v)::e) L h):W P n w0 h0 ops Q RR al ((i,.q)::r) e L h:=by
 obtain⟨v,hv,G⟩:=hv;exact w_q ho (λh' L' hh D=>hv L' h' hh λr C=>D r (hR r C)) hn (k v G)
theorem x_qx{K:List (Nat×Value)->List Res->Mem->Prop}{R:List Res}{F:Value->Prop}(ho:ops.getD i default=⟨some d,op,ty,ps,af,none⟩)(hv:OpX P n w0 h0 ⟨some d,op,ty,ps,af,none⟩ e R h F)(hR:∀r∈R,r∈RR)(hn:Nat.ble (d+1) n=true)
    (k:∀v,F v->K ((d,v)::e) L h):SQ P n w0 h0 ops RR i e L h K:=by
 obtain⟨v,hv,G⟩:=hv;exact x_q ho (λh' L' hh D=>hv L' h' hh λr C=>D r (hR r C)) hn (k v G)
theorem lQ{R:List Res}{F:Value->Prop}(ho:ops.getD i default=⟨some d,op,ty,ps,af,some (g,b)⟩)(ht:(ops[g]?).bind (·.dst)=some t)(he:e.lookup t=some (.bool b))(hv:OpX P n w0 h0 ⟨some d,op,ty,ps,af,none⟩ e R h F)(hR:∀r∈R,r∈RR)(hn:Nat.ble (d+1) n=true)
    (k:∀v,F v->W P n w0 h0 ops Q RR al r ((d,v)::e) L h):W P n w0 h0 ops Q RR al ((i,.q)::r) e L h:=by
 obtain⟨v,hv,G⟩:=hv;exact yS ho ht he (λh' L' hh D=>hv L' h' hh λr C=>D r (hR r C)) hn (k v G)
theorem s_x{W':List (Nat×Value)->List Res->Mem->Prop}{R:List Res}{F:Value->Prop}(hv:OpX P n w0 h0 ⟨some d,op,ty,ps,af,none⟩ e R h F)(hR:∀r∈R,r∈L)(hn:Nat.ble (d+1) n=true)
    (k:∀v,F v->W' ((d,v)::e) L h):kB P n w0 h0 ops RR ⟨some d,op,ty,ps,af,none⟩ e L h W':=by
 obtain⟨v,hv,D⟩:=hv;exact yKC (λX=>hv (L++X) h (MLe.refl h) λr C=>List.mem_append_left _ (hR r C)) hn (k v D)
end
theorem zBN{L:List Res}:∀r∈([]:List Res),r∈L:=λr hr=>by cases hr
theorem tQ{L:List Res}{r:Res}(hr:r∈L):∀x∈[r],x∈L:=λx hx=>by cases hx with|head=>exact hr|tail _ h=>cases h
theorem zBQ{t:TypeId}{σ:Rp β}{cs:List Value}{y:β}{w:World}{b o:Nat}(T:TyOk P t σ.n σ.agg)(r:σ.R h cs y)(hc:w.rangeAt b o cs):(Instr.loadAt t (vP b o)).run P w=.ok (σ.val cs) w:=by
 have C:=σ.len r;simp only[Instr.loadAt,Instr.sureAddr,loadVar,Sem.run_bind,T.ag,Result.andThen_ok,Sem.run_pure];unfold Rp.val
 cases ha:σ.agg with
 |true=>
  have D:(loadCells ⟨b,o,none⟩ cs.length).run P w=.ok cs.toArray w:=run_loadCells_list (P:=P) w ⟨b,o,none⟩ cs (λj v G=>by rw[Addr.add_mid];exact hc j v G);rw[C] at D;simp[Sem.run_bind,T.sz,D]
 |false=>
  obtain⟨c,rfl,_⟩:=Rp.single r ha;have:=hc 0 c I;simp only[Nat.add_zero] at this;simp[Go.load,Sem.run,this]
theorem zL9{t E:TypeId}{x:Operand}{b k off:Nat}{cs:List Value}{ρ:Rp α}{σ:Rp β}{g:α->β}{s:α->β->α}{X:α}{Z:β}(T:TyOk P t σ.n σ.agg)(pc:Pc ρ off σ g s)(ho:k=off)(hx:zJ e x=some (vP b k))(r:ρ.R h cs X)(hZ:g X=Z):
 OpX P n w0 h0 ⟨ds,.load t x,ty,ps,af,gd⟩ e [.var b E cs] h (λu=>σ.Is h u Z):=by
 subst hZ;subst ho;have h1:=pc.get r;refine⟨_,λL' h' _ G a w H S=>?_,_,h1,I⟩;have C:w.heap[b]?=some (.cells cs.toArray E):=S.ok (.var b E cs) (G _ (.head _));have D:=zBQ (P:=P) (w:=w) T h1 (iW C k _ (by rw[σ.len h1]));simp[execOp,H.eval hx,D]
def AtP(ρ:Rp α)(h:Mem)(p:Value)(X:α):Prop:=∃b o cs,p=vP b o/\ρ.R h cs X/\∀j u,cs[j]?=some u->cell h b (o+j)=some u
theorem AtP.mono{ρ:Rp α}{h h':Mem}{p:Value}{X:α}(s:AtP ρ h p X)(hh:MLe h h'):AtP ρ h' p X:=by
 obtain⟨b,o,cs,e,r,D⟩:=s;exact⟨b,o,cs,e,ρ.mono hh r,λj u C=>zDC hh (D j u C)⟩
theorem rI{t E:TypeId}{x y:Operand}{q:Int}{v:Value}{ρ:Rp α}{xs:List α}(d:α)(i:Nat)(ht:P.underlying t=some (.slice E))(T:TyOk P E ρ.n ρ.agg)(hx:zJ e x=some v)(hy:zJ e y=some (vI q))(r:(rpS ρ).Is h v xs)(hq:q=(i:Int))(hi:i<xs.length)(hp:0<ρ.n):
 OpX P n w0 h0 ⟨ds,.indexAddr t x y,ty,ps,af,gd⟩ e [] h (λu=>AtP ρ h u (xs.getD i d)):=by
 obtain⟨cs,J,M⟩:=zTE r;have H:xs[i]?=some (xs.getD i d):=by rw[zoa,zoc hi];rfl
 have U:=M.get H;have C:=M.len;have hm:i*ρ.n+ρ.n<=cs.length:=by rw[C,<-Nat.succ_mul];exact Nat.mul_le_mul_right _ hi
 refine⟨zI ρ.n v i,λL' h' hh _=>iH i ht T.sz hx hy (J.mono hh) hq hi hp,?_⟩;have h0:(cs[i*ρ.n+0]?)=some (cs[i*ρ.n]'zot):=by rw[Nat.add_zero,zoc]
 obtain⟨b,o,O,_⟩:=J.cell h0;refine⟨b,o,_,O,U,λj u D=>?_⟩;rw[List.getElem?_take] at D
 split at D
 · rw[List.getElem?_drop] at D
   obtain⟨b',o',G,Z⟩:=J.cell D;rw[O] at G;simp only[Value.pointer.injEq,Option.some.injEq,Addr.mk.injEq] at G;rw[G.1,G.2.1];exact Z
 · cases D
theorem zO1{t:TypeId}{x:Operand}{p:Value}{ρ:Rp α}{X:α}(T:TyOk P t ρ.n ρ.agg)(hx:zJ e x=some p)(r:AtP ρ h p X):OpX P n w0 h0 ⟨ds,.load t x,ty,ps,af,gd⟩ e [] h (λu=>ρ.Is h u X):=by
 obtain⟨b,o,cs,rfl,r,G⟩:=r;refine⟨_,λL' h' hh _ a w H S=>?_,_,r,I⟩;have C:=zBQ (P:=P) (w:=w) T r (λj u D=>lK (hh.trans S.sub) (G j u D));simp[execOp,H.eval hx,C]
theorem zS8{t:TypeId}{x:Operand}{f off m:Nat}{fs:Array Field}{fl:Field}{p:Value}{ρ:Rp α}{σ:Rp β}{g:α->β}{s:α->β->α}{X:α}{Z:β}(ht:P.underlying t=some (.struct fs))(hf:fs[f]?=some fl)(hsz:∀w,(Go.sizeOf fl.type).run P w=.ok (m+1) w)(pc:Pc ρ off σ g s)(ho:fl.offset=off)(hx:zJ e x=some p)(r:AtP ρ h p X)(hZ:g X=Z):
 OpX P n w0 h0 ⟨ds,.fieldAddr t x f,ty,ps,af,gd⟩ e [] h (λu=>AtP σ h u Z):=by
 subst hZ;obtain⟨b,o,cs,rfl,r,D⟩:=r;subst ho;refine⟨_,λL' h' hh _=>xU ht hf hsz hx,b,_,_,I,pc.get r,λj u C=>?_⟩;rw[List.getElem?_take] at C
 split at C
 · rw[List.getElem?_drop] at C
   have:=D _ _ C
   rwa [<-Nat.add_assoc] at this
 · cases C
theorem zIJ{t E:TypeId}{x y:Operand}{m off:Nat}{q:Int}{p:Value}{ρ:Rp α}{σ:Rp β}{g:α->β}{s:α->β->α}{X:α}{Z:β}(i:Nat)(ht:P.underlying t=some (.array m E))(hsz:∀w,(Go.sizeOf E).run P w=.ok σ.n w)(pc:Pc ρ off σ g s)(ho:i*σ.n=off)(hx:zJ e x=some p)(hy:zJ e y=some (vI q))(r:AtP ρ h p X)(hq:q=(i:Int))(hi:i<m)(hZ:g X=Z):
 OpX P n w0 h0 ⟨ds,.indexAddr t x y,ty,ps,af,gd⟩ e [] h (λu=>AtP σ h u Z):=by
 subst hZ;obtain⟨b,o,cs,rfl,r,D⟩:=r;subst ho;refine⟨_,λL' h' hh _=>yG i ht hsz hx hy hq hi,b,_,_,I,pc.get r,λj u C=>?_⟩;rw[List.getElem?_take] at C
 split at C
 · rw[List.getElem?_drop] at C
   have:=D _ _ C
   rwa [<-Nat.add_assoc] at this
 · cases C
theorem uY{v:Value}{ρ:Rp α}{xs:List α}{t E:TypeId}{x:Operand}(ht:P.underlying t=some (.slice E))(hx:zJ e x=some v)(r:(rpS ρ).Is h v xs):
 OpV P n w0 h0 ⟨ds,.call {callee:=.builtin .len,args:=#[x],argTypes:=#[t]},ty,ps,af,gd⟩ e L h (vI (xs.length:Int)):=mF ht hx (yKD r)
theorem yAJ{E t:TypeId}{b k off:Nat}{cs:List Value}{v:Value}{x y:Operand}{ρ:Rp α}{σ:Rp β}{g:α->β}{s:α->β->α}{X Z:α}{Y:β}(hsz:∀w,(Go.sizeOf t).run P w=.ok σ.n w)(pc:Pc ρ off σ g s)(ho:k=off)(hx:zJ e x=some (vP b k))(hy:zJ e y=some v)(r:ρ.R h cs X)(ry:σ.Is h v Y)(hZ:s X Y=Z):
 ∃cs',ρ.R h cs' Z/\∀A B,Upd P n w0 h0 ⟨ds,.store t x y,ty,ps,af,gd⟩ e A (.var b E cs) B h (.var b E cs'):=by
 subst hZ;subst ho;obtain⟨G,J,hv⟩:=ry.cells;have O:=σ.len J;have aa:=ρ.len r;have hf:=pc.fits;refine⟨w5 cs k G,?_,?_⟩
 · rw[zFJ _ _ _ zot,O]
   exact pc.set r J
 · intro A B a w U S
   have M:w.heap[b]?=some (.cells cs.toArray E):=S.ok (.var b E cs) zo2;obtain⟨h2,h3⟩:=mY G k cs w M;refine⟨w.setCells b k G,?_,h3,h2⟩;have C:w.there b k G.length:=by
    intro j H;have:k+j<cs.length:=by omega
    refine⟨?_,?_⟩
    · unfold World.cell?
      simp[M,this]
    · simp[World.frozen?,M]
   have D:=run_storeCells_cells (P:=P) b k G 0 w (λj H=>by simpa using(C j H).1) (λj H=>by simpa using(C j H).2) (λu hu=>zob.1 (σ.one J) u hu);simp only[Nat.add_zero] at D;simp[execOp,U.eval hx,U.eval hy,Instr.storeAt,Instr.sureAddr,storeVar,hsz,hv,O,D]
theorem zW{ops:Array Oper}{rest:List Oper}{A B:List Res}{op:Op}{b:Nat}{E:TypeId}{cs:List Value}{F:List Value->Prop}(hv:∃cs',F cs'/\∀A B,Upd P n w0 h0 ⟨none,op,ty,ps,af,none⟩ e A (.var b E cs) B h (.var b E cs'))
    (k:∀cs',F cs'->GL P n w0 h0 ops Q rest e (A++.var b E cs'::B) h):GL P n w0 h0 ops Q (⟨none,op,ty,ps,af,none⟩::rest) e (A++.var b E cs::B) h:=by
 obtain⟨cs',D,C⟩:=hv;exact wN (C A B) I I I (k cs' D)
theorem yK{ops:Array Oper}{RR:List Res}{al:Als}{i:Nat}{r:List (Nat×Kd)}{A B:List Res}{op:Op}{b:Nat}{E:TypeId}{cs:List Value}{F:List Value->Prop}(ho:ops.getD i default=⟨none,op,ty,ps,af,none⟩)(hv:∃cs',F cs'/\∀A B,Upd P n w0 h0 ⟨none,op,ty,ps,af,none⟩ e A (.var b E cs) B h (.var b E cs'))
    (k:∀cs',F cs'->W P n w0 h0 ops Q RR al r e (A++.var b E cs'::B) h):W P n w0 h0 ops Q RR al ((i,.t)::r) e (A++.var b E cs::B) h:=by
 obtain⟨cs',D,C⟩:=hv;exact pT ho (C A B) I (k cs' D)
theorem pY{ops:Array Oper}{R:List Res}{W':List (Nat×Value)->List Res->Mem->Prop}{A B:List Res}{op:Op}{b:Nat}{E:TypeId}{cs:List Value}{F:List Value->Prop}(hv:∃cs',F cs'/\∀A B,Upd P n w0 h0 ⟨none,op,ty,ps,af,none⟩ e A (.var b E cs) B h (.var b E cs'))
    (hR:∀r∈R,∀q',r∈A++.var b E cs::B->r∈A++q'::B)(k:∀cs',F cs'->W' e (A++.var b E cs'::B) h):kB P n w0 h0 ops R ⟨none,op,ty,ps,af,none⟩ e (A++.var b E cs::B) h W':=by
 obtain⟨cs',U,J⟩:=hv;intro X a w Z S;have H:St w0 h0 (A++.var b E cs::(B++X)) h w:=by simpa using S
 unfold qT;rw[if_pos (wn I)];obtain⟨w',C,G,D⟩:=J A (B++X) a w Z H;rw[C];refine⟨λd' M=>(by cases M),A++.var b E cs'::B,h,MLe.refl h,λhh r C=>hR r C _ (hh r C),?_,k cs' U⟩;have:=H.grown G D λb O=>.inl O
 simpa using this
theorem zXJ{E:TypeId}{x:Operand}{v:Value}{ρ:Rp α}{X:α}(hx:zJ e x=some v)(r:ρ.Is h v X):
 lO P n w0 h0 ⟨ds,.box E x,ty,ps,af,gd⟩ e L h (λu q=>∃b cs,u=vP b 0/\q=.var b E cs/\ρ.R h cs X):=by
 obtain⟨cs,G,H⟩:=r.cells;intro a w U S;obtain⟨D,C,q,h1,h2,h3,O,b,M,J⟩:=wW (n:=n) (ds:=ds) (ty:=ty) (ps:=ps) (af:=af) (gd:=gd) (L:=L) (E:=E) hx H a w U S;exact⟨D,C,q,h1,h2,h3,O,b,cs,M,J,G⟩
theorem zPQ{E:TypeId}{i:TypeInfo}{z:Value}{cs:List Value}{ρ:Rp α}{X:α}(hi:P.info? E=some i)(hz:i.zero=some z)(hc:z.cells=cs.toArray)(r:ρ.R h cs X):
 lO P n w0 h0 ⟨ds,.alloc E,ty,ps,af,gd⟩ e L h (λu q=>∃b cs,u=vP b 0/\q=.var b E cs/\ρ.R h cs X):=by
 intro a w M S;obtain⟨D,C,q,h1,h2,h3,J,b,H,G⟩:=vY (n:=n) (ds:=ds) (ty:=ty) (ps:=ps) (af:=af) (gd:=gd) (e:=e) (L:=L) (h:=h) hi hz hc a w M S;exact⟨D,C,q,h1,h2,h3,J,b,cs,H,G,r⟩
def zJI(ρ:Rp α)(h:Mem)(place:Nat->Option (Nat×Nat))(X:α)(parts:List (Nat×Value))(X':α):Prop:=
 ∀cs,ρ.R h cs X->∃cs',ρ.R h cs' X'/\Instr.fill place cs.toArray parts=some cs'.toArray
theorem zO{ρ:Rp α}{place:Nat->Option (Nat×Nat)}{X:α}:zJI ρ h place X [] X:=λcs r=>⟨cs,r,rfl⟩
theorem zD{ρ:Rp α}{σ:Rp β}{place:Nat->Option (Nat×Nat)}{X X':α}{Y:β}{i off:Nat}{v:Value}{rest:List (Nat×Value)}{g:α->β}{s:α->β->α}(hp:place i=some (off,σ.n))(pc:Pc ρ off σ g s)(ry:σ.Is h v Y)(k:zJI ρ h place (s X Y) rest X'):zJI ρ h place X ((i,v)::rest) X':=by
 intro cs r;obtain⟨Z,D,H⟩:=ry.cells;have M:=σ.len D;have J:=ρ.len r;have hf:=pc.fits;obtain⟨C,G,U⟩:=k _ (pc.set r D);refine⟨C,G,?_⟩;have O:cs=cs.take off++(cs.drop off).take σ.n++cs.drop (off+σ.n):=by
  rw[List.append_assoc,<-List.drop_drop,List.take_append_drop,List.take_append_drop]
 rw[O];exact wZ hp (by rw[List.length_take];omega) (by rw[List.length_take,List.length_drop];omega) M H U
theorem xZ{t:TypeId}{i:TypeInfo}{z:Value}{zs:List Value}{fs:Array Field}{places:Array (Nat×Nat)}{parts:List (Nat×Operand)}{ps':List (Nat×Value)}{ρ:Rp α}{X X':α}(ht:P.underlying t=some (.struct fs))(hi:P.info? t=some i)(hz:i.zero=some z)(hzc:z.cells=zs.toArray)
    (hpl:∀w,(fs.mapM λ(f:Field)=>do pure (f.offset,<-Go.sizeOf f.type)).run P w=.ok places w)(hp:eL e parts ps')(ha:ρ.agg=true)(rz:ρ.R h zs X)(hf:zJI ρ h (places[·]?) X ps' X'):
    OpX P n w0 h0 ⟨ds,.build t parts.toArray,ty,ps,af,gd⟩ e [] h (λu=>ρ.Is h u X'):=by
 obtain⟨C,D,G⟩:=hf zs rz;refine⟨.agg C.toArray,λL' h' _ _=>wD ht hi hz hpl hp (by rw[hzc];exact G),C,D,?_⟩;unfold Rp.val;rw[ha];rfl
theorem wB{t E:TypeId}{m sz:Nat}{i:TypeInfo}{z:Value}{zs:List Value}{parts:List (Nat×Operand)}{ps':List (Nat×Value)}{ρ:Rp α}{X X':α}(ht:P.underlying t=some (.array m E))(hi:P.info? t=some i)(hz:i.zero=some z)(hzc:z.cells=zs.toArray)
    (hsz:∀w,(Go.sizeOf E).run P w=.ok sz w)(hp:eL e parts ps')(ha:ρ.agg=true)(rz:ρ.R h zs X)(hf:zJI ρ h (λi=>some (i*sz,sz)) X ps' X'):
    OpX P n w0 h0 ⟨ds,.build t parts.toArray,ty,ps,af,gd⟩ e [] h (λu=>ρ.Is h u X'):=by
 obtain⟨C,D,G⟩:=hf zs rz;refine⟨.agg C.toArray,λL' h' _ _=>zJ8 ht hi hz hsz hp (by rw[hzc];exact G),C,D,?_⟩;unfold Rp.val;rw[ha];rfl
theorem gE{R R':Mem->Value->Prop}(k:∀h r,R h r->R' h r)(x:Ending)(w:World)(s:Ret w0 h0 R x w):Ret w0 h0 R' x w:=by
 obtain⟨v,h,e,r,S⟩:=s;exact⟨v,h,e,k h v r,S⟩
theorem yKY{h:Mem}:rpB.Is h (.bool true) True:=(xM trivial)▸yKZ True
theorem Rp.castR{ρ:Rp α}{cs:List Value}{x y:α}(r:ρ.R h cs x)(e:x=y):ρ.R h cs y:=e▸r
theorem Rp.R.mono{ρ:Rp α}{h':Mem}{cs:List Value}{x:α}(r:ρ.R h cs x)(hh:MLe h h'):ρ.R h' cs x:=Rp.mono ρ hh r
theorem kJ{t:Nat}{T E:TypeId}{b:Nat}{cs:List Value}{ρ:Rp α}{X:α}(tok:TyOk P T ρ.n ρ.agg)(hm:.var b E cs∈L)(hx:zJ e (.tmp t)=some (vP b 0))(r:ρ.R h cs X):∃v,RV P n w0 h0 (.cell t T) e L h v/\ρ.Is h v X:=by
 refine⟨ρ.val cs,?_,cs,r,I⟩;intro a w D S;have C:w.heap[b]?=some (.cells cs.toArray E):=S.ok _ hm;have:=D.eval hx;simp only[Act.eval] at this;have h2:=zBQ (P:=P) tok r (iW C 0 cs zo2);simp only[Instr.loadAt,Instr.sureAddr,Sem.run_bind,Sem.run_pure,Result.andThen_ok] at h2;simp[zFE,this,asAddr,h2]
theorem wT{r:ResultVar}{F:Value->Prop}{x:Exit}(s:∃v,RV P n w0 h0 r e L h v/\F v)(k:∀v,RV P n w0 h0 r e L h v->F v->GQ n w0 h0 Q x e L h):GQ n w0 h0 Q x e L h:=by
 obtain⟨v,a,b⟩:=s;exact k v a b
theorem zWO{o:Oper}{v:Value}{F:Value->Prop}(hv:∀L' h',OpV P n w0 h0 o e L' h' v)(hF:F v):OpX P n w0 h0 o e [] h F:=⟨v,λL' h' _ _=>hv L' h',hF⟩
end
section
variable {P:Program}{n:Nat}{w0:World}{h0:Mem}{e:List (Nat×Value)}{L:List Res}{h:Mem}{Q:Exit->Act->World->Prop}
variable {ds:Option Tmp}{ty:TypeId}{ps:String}{af:Array Edge}{gd:Option (Nat×Bool)}
theorem jH{G:Prop}(p:Prop)(kt:p->G)(kf:¬p->G):G:=Classical.byCases kt kf
abbrev vF(f:Nat)(cap:List Value):Value:=.func (.func f) #[] cap.toArray
def yAD(P:Program)(n:Nat)(o:Oper)(e:List (Nat×Value))(f:Nat)(args:Array Value):Prop:=∀a w,Env n e a->(execOp a.eval o).run P w=.ok (.enter f args) w
theorem cG{x:Operand}{f:Nat}{cap:List Value}{xs:List Operand}{ts:Array TypeId}{vs:List Value}(hcall:∀args w,(callFunc f args).run P w=.ok (.enter f args) w)(hx:zJ e x=some (vF f cap))(hvs:cR e xs vs):
 yAD P n ⟨ds,.call {callee:=.value x,args:=xs.toArray,argTypes:=ts},ty,ps,af,gd⟩ e f (vs++cap).toArray:=by
 intro a w D;have C:xs.toArray.map a.eval=vs.toArray:=by rw[List.map_toArray,D.evals hvs]
 simp only[execOp,resolve,D.eval hx];simp[Deferred.ofValue,invoke,hcall,C]
theorem yGG{W':List (Nat×Value)->List Res->Mem->Prop}{ops:Array Oper}{R:List Res}{op:Op}{g t d:Nat}{b:Bool}(ht:(ops[g]?).bind (·.dst)=some t)(he:e.lookup t=some undef)(hn:Nat.ble (d+1) n=true)(k:W' ((d,undef)::e) L h):
 kB P n w0 h0 ops R ⟨some d,op,ty,ps,af,some (g,b)⟩ e L h W':=by
 intro X a w E S;have C:Region.wanted ⟨some d,op,ty,ps,af,some (g,b)⟩ (yielded ops a.tmps)=false:=by
  have:=E.get t _ he;simp[Region.wanted,yielded,ht,this,undef]
 unfold qT;rw[if_neg (by simp[C])];exact⟨λG D=>(by cases D;exact Nat.le_of_ble_eq_true hn),L,h,MLe.refl h,λhh=>hh,S,k⟩
theorem zUF{R A B:List Res}{q:Res}(hR:∀r∈R,r∈A++B):∀r∈R,r∈A++q::B->r∈A++B:=λr hr _=>hR r hr
section
variable {ops:Array Oper}{R:List Res}{d:Nat}{op:Op}
theorem aH{W':List (Nat×Value)->List Res->Mem->Prop}{f:Nat}{args:Array Value}{R':Mem->Value->Prop}(he:yAD P n ⟨some d,op,ty,ps,af,none⟩ e f args)(hn:Nat.ble (d+1) n=true)
    (hc:∀w,MLe h (mem w)->Calls P f args w (Ret w h R'))(k:∀v h',MLe h h'->R' h' v->W' ((d,v)::e) L h'):kB P n w0 h0 ops R ⟨some d,op,ty,ps,af,none⟩ e L h W':=by
 intro X a w E S;unfold qT;rw[if_pos (wn I),he a w E];refine(hc w S.sub).mono ?_
 rintro J D ⟨v,h',rfl,hR,C⟩
 have H:St w0 h0 (L++X) h' D:=S.call C;exact⟨v,I,λM G=>(by cases G;exact Nat.le_of_ble_eq_true hn),L,h',C.le,λhh=>hh,H,k v h' C.le hR⟩
end
end
section
variable {α β γ:Type}
variable {P:Program}{n:Nat}{w0:World}{h0:Mem}{e:List (Nat×Value)}{L:List Res}{h:Mem}{Q:Exit->Act->World->Prop}
variable {ds:Option Tmp}{ty:TypeId}{ps:String}{af:Array Edge}{gd:Option (Nat×Bool)}
theorem St.nilown{w:World}(s:St w0 h0 L h w)(E k:Nat):St w0 h0 (.gs E k (.slice none 0 0) 0 []::L) h w:=by
 refine⟨s.below,s.le,s.sub,s.fresh,?_,?_,?_⟩
 · intro r C
   rcases List.mem_cons.1 C with rfl|C
   · exact World.ownsRow_nil w _ E k
   · exact s.ok r C
 · intro r C b D
   rcases List.mem_cons.1 C with rfl|C
   · simp[Res.fp,Value.ownBlock] at D
   · exact s.own r C b D
 · refine List.pairwise_cons.2 ⟨λr C b D=>?_,s.apart⟩
   simp[Res.fp,Value.ownBlock] at D
theorem xG{c:Code}(E k:Nat)(g:GC P n w0 h0 c Q e (.gs E k (.slice none 0 0) 0 []::L) h):GC P n w0 h0 c Q e L h:=λa w Ev S=>g a w Ev (S.nilown E k)
theorem zC2{ops:Array Oper}{l:List Oper}(E k:Nat)(g:GL P n w0 h0 ops Q l e (.gs E k (.slice none 0 0) 0 []::L) h):GL P n w0 h0 ops Q l e L h:=λa w Ev S=>g a w Ev (S.nilown E k)
theorem aR{x:Exit}(E k:Nat)(g:GQ n w0 h0 Q x e (.gs E k (.slice none 0 0) 0 []::L) h):GQ n w0 h0 Q x e L h:=λa w Ev S=>g a w Ev (S.nilown E k)
theorem iB{ops:Array Oper}{R:List Res}{o:Oper}{W':List (Nat×Value)->List Res->Mem->Prop}(E k:Nat)(g:kB P n w0 h0 ops R o e (.gs E k (.slice none 0 0) 0 []::L) h W'):kB P n w0 h0 ops R o e L h W':=by
 intro X a w O S;refine(g X a w O (S.nilown E k)).mono ?_
 rintro Z U ⟨H,L',g,G,D,M,J⟩
 exact⟨H,L',g,G,λhh q C=>D (λy hy=>List.mem_cons_of_mem _ (hh y hy)) q C,M,J⟩
theorem zT0(a:List Value)(m:Nat):(madeCells a.toArray (m*a.length)).toList=(List.replicate m a).flatten:=by
 unfold madeCells;rw[Array.toList_map,Array.toList_range]
 induction m with
 |zero=>simp
 |succ m ih=>
  rw[Nat.succ_mul,Nat.add_comm,List.range_add,List.map_append,List.map_map,List.replicate_succ,List.flatten_cons,<-ih]
  congr 1
  · apply List.ext_getElem?
    intro j
    by_cases hj:j<a.length
    · simp[hj,zoh hj]
    · simp[hj]
  · apply List.map_congr_left
    intro j _;simp
theorem zQV{ρ:Rp α}{a:List Value}{x:α}(m:Nat)(r:ρ.R h a x):RL ρ h (madeCells a.toArray (m*ρ.n)).toList (List.replicate m x):=by
 rw[<-ρ.len r,zT0];exact(zLD (h:=h) m r).2
theorem zIW{t E:TypeId}{i:TypeInfo}{z:Value}{zs:List Value}{x y:Operand}{q q':Int}{by':Nat}{ρ:Rp α}{X:α}(m:Nat)(ht:P.underlying t=some (.slice E))(hi:P.info? E=some i)(hz:i.zero=some z)(hzc:z.cells=zs.toArray)(hsize:i.size=ρ.n)(hby:i.bytes=by')(rz:ρ.R h zs X)
    (hx:zJ e x=some (vI q))(hy:zJ e y=some (vI q'))(hq:q=(m:Int))(hq':q'=(m:Int))(hb:by'*m<=281474976710656)(hm:m<9223372036854775808):
    lO P n w0 h0 ⟨ds,.makeSlice t x y,ty,ps,af,gd⟩ e L h (λv r=>∃cs,r=.gs E ρ.n v (List.replicate m X).length cs/\RL ρ h cs (List.replicate m X)):=by
 subst hq;subst hq';subst hby;intro a w G S;obtain⟨H,J,C,D⟩:=run_make_full (P:=P) w w0.heap.size t E i z ρ.n ht hi hz hsize .i64 .i64 m hb (by unfold maxLen;omega) S.below.size;rw[hzc] at C;refine⟨_,H,.gs E ρ.n (.slice (some ⟨w.heap.size,0,none⟩) m m) m (madeCells zs.toArray (m*ρ.n)).toList,?_,D,C,λb hb=>?_,_,by rw[lR],zQV m rz⟩
 · simp only[execOp,G.eval hx,G.eval hy,vI]
   simp[J]
 · simp only[Res.fp,Value.ownBlock,Option.some.injEq] at hb
   omega
theorem zL{t E:TypeId}{i:TypeInfo}{z:Value}{zs:List Value}{parts:List (Nat×Operand)}{ps':List (Nat×Value)}{m:Nat}{ρ:Rp α}{X:α}{xs:List α}(ht:P.underlying t=some (.slice E))(hi:P.info? E=some i)(hz:i.zero=some z)(hzc:z.cells=zs.toArray)(hsize:i.size=ρ.n)(rz:ρ.R h zs X)
    (hp:eL e parts ps')(hf:zJI (rpA m ρ) h (λi=>some (i*ρ.n,ρ.n)) (List.replicate m X) ps' xs)(hm:m*ρ.n<=16777216)(hn:0<ρ.n):
    lO P n w0 h0 ⟨ds,.buildSlice t m parts.toArray,ty,ps,af,gd⟩ e L h (λv r=>∃cs,r=.gs E ρ.n v xs.length cs/\RL ρ h cs xs):=by
 obtain⟨cs,⟨G,J⟩,H⟩:=hf (madeCells zs.toArray (m*ρ.n)).toList ⟨List.length_replicate,zQV m rz⟩;have M:=J.len;rw[G] at M;intro a w Ev S;have U:(parts.toArray.map λ(p:Nat×Operand)=>(p.1,a.eval p.2)).toList=ps':=by
  rw[List.map_toArray];exact hp.eval Ev
 refine⟨.slice (some ⟨w.heap.size,0,none⟩) m m,w.alloc (.cells cs.toArray E),.gs E ρ.n (.slice (some ⟨w.heap.size,0,none⟩) m m) m cs,?_,World.grownBy_alloc w _ none,?_,λb hb=>?_,cs,by rw[G],J⟩
 · have Z:¬(m*ρ.n>16777216):=by omega
   simp only[execOp,Instr.buildSlice];rw[show(parts.toArray.map λ(i,x)=>(i,a.eval x)).toList=ps' from U];have O:(zeroValue E).run P w=.ok z w:=by simp[zeroValue,typeInfo,hi,hz]
   have C:Instr.fill (λi=>some (i*ρ.n,ρ.n)) (madeCells zs.toArray (m*ρ.n)) ps'=some cs.toArray:=by
    simpa using H
   have D:∀w,(Go.sizeOf E).run P w=.ok ρ.n w:=λw=>by simp[Go.sizeOf,typeInfo,hi,hsize]
   by_cases h0:m*ρ.n=0
   · rw[h0] at C
     simp only[madeCells,Array.range_zero',Array.map_empty] at C;simp[run_underlying ht,D,newRow,newObj,Sem.run,h0,Array.range_zero',C]
   · unfold madeCells at C
     simp only[List.size_toArray,List.getElem!_toArray,List.getElem!_eq_getElem?_getD] at C;simp[run_underlying ht,D,h0,Z,O,hzc,C,newRow,newObj,Sem.run]
 · have:=World.ownsRow_lit (w:=w) (base:=w0.heap.size) (e:=E) (size:=ρ.n) cs.toArray m S.below.size (by unfold maxLen;have:=Nat.le_mul_of_pos_right m hn;omega) (by simpa using M)
   exact this
 · simp only[Res.fp,Value.ownBlock,Option.some.injEq] at hb
   omega
theorem zU{A B:List Res}{t E:TypeId}{i:TypeInfo}{z:Value}{bytes:Nat}{v v':Value}{cs:List Value}{x y:Operand}{ρ:Rp α}{xs ys:List α}(ht:P.underlying t=some (.slice E))(hi:P.info? E=some i)(hz:i.zero=some z)(hsize:i.size=ρ.n)(hby:i.bytes=bytes)
    (hzs:z.cells.size=ρ.n)(hk:0<ρ.n)(hx:zJ e x=some v)(hy:zJ e y=some v')(r:RL ρ h cs xs)(hv':(rpS ρ).Is h v' ys)(hlen:xs.length+ys.length<9223372036854775808)(hb':(xs.length+ys.length)*bytes<=140737488355328):
    zD2 P n w0 h0 ⟨ds,.call {callee:=.builtin .append,args:=#[x,y],argTypes:=#[t,t]},ty,ps,af,gd⟩ e A (.gs E ρ.n v xs.length cs) B h (λu r'=>∃cs',r'=.gs E ρ.n u (xs++ys).length cs'/\RL ρ h cs' (xs++ys)):=by
 obtain⟨C,H,r2⟩:=zTE hv';intro a w O S;obtain⟨u,D,r',h1,h2,h3,M,J⟩:=zFF (A:=A) (B:=B) (v:=v) (cs:=cs) (m:=xs.length) (ds:=ds) (ty:=ty) (ps:=ps) (af:=af) (gd:=gd) ht hi hz hsize hby hzs hk hx hy H (λu G=>zob.1 r2.one u G) hlen hb' a w O S;exact⟨u,D,r',h1,h2,h3,M,cs++C,by rw[J,lAz],r.append r2⟩
theorem zJ4{E k m:Nat}{v:Value}{cs:List Value}{w:World}(hm:.gs E k v m cs∈L)(S:St w0 h0 L h w):Sl (mem w) k v m cs:=by
 obtain⟨A,B,rfl⟩:=List.append_of_mem hm;exact zBA S
theorem yGV(k:Nat)(v:Value)(i:Nat):zI k v i=zI 1 v (i*k):=by
 unfold zI;rw[Nat.mul_one]
theorem jZ{E k m:Nat}{v:Value}{cs:List Value}{t E':TypeId}{x:Operand}(hm:.gs E k v m cs∈L)(ht:P.underlying t=some (.slice E'))(hx:zJ e x=some v):
 OpV P n w0 h0 ⟨ds,.call {callee:=.builtin .len,args:=#[x],argTypes:=#[t]},ty,ps,af,gd⟩ e L h (vI (m:Int)):=
 λa w Ev S=>mF (L:=L) (h:=h) ht hx (zJ4 hm S).one a w Ev S
theorem yU{E m k:Nat}{cs:List Value}{v:Value}{t E':TypeId}{x y:Operand}{q:Int}(i:Nat)(hm:.gs E k v m cs∈L)(ht:P.underlying t=some (.slice E'))(hsz:∀w,(Go.sizeOf E').run P w=.ok k w)(hx:zJ e x=some v)(hy:zJ e y=some (vI q))
    (hq:q=(i:Int))(hi:i<m)(hk:0<k):OpV P n w0 h0 ⟨ds,.indexAddr t x y,ty,ps,af,gd⟩ e L h (zI 1 v (i*k)):=by
 intro a w D S;have C:St w (mem w) [] (mem w) w:=St.begin (MLe.refl _);rw[<-yGV];exact iH (n:=n) (w0:=w) (h0:=mem w) (L:=[]) (h:=mem w) i ht hsz hx hy (zJ4 hm S) hq hi hk a w D C
theorem zLP{k m o l:Nat}{v:Value}{cs:List Value}{w:World}(s:Sl (mem w) k v m cs)(hl:0<l)(ho:o+l<=cs.length):∃b o',zI 1 v o=vP b (o'+o)/\v=.slice (some ⟨b,o',none⟩) m (match v with| .slice _ _ c=>c|_=>0)/\w.rangeAt b (o'+o) ((cs.drop o).take l):=by
 obtain⟨a,M,rfl,h1,h2,h3,H⟩:=s;obtain⟨b,o',rfl,_⟩:=H o zot;refine⟨b,o',by simp[zI,jY],I,?_⟩;intro j u C;rw[List.getElem?_take] at C
 split at C
 · rw[List.getElem?_drop] at C
   obtain⟨D,_⟩:=List.getElem?_eq_some_iff.1 C;obtain⟨U,O,J,G⟩:=H _ D;simp only[Option.some.injEq,Addr.mk.injEq,and_true] at J;obtain⟨rfl,rfl⟩:=J;rw[C] at G;have:=lK (MLe.refl _) G
   rwa [<-Nat.add_assoc] at this
 · cases C
theorem wM{t E:TypeId}{x:Operand}{k off:Nat}{cs:List Value}{v:Value}{ρ:Rp α}{σ:Rp β}{g:List α->β}{s:List α->β->List α}{xs:List α}{Z:β}(T:TyOk P t σ.n σ.agg)(pc:Pc (rpA xs.length ρ) off σ g s)(ho:k=off)(hp:0<σ.n)(hx:zJ e x=some (zI 1 v k))(r:RL ρ h cs xs)(hZ:g xs=Z):
 OpX P n w0 h0 ⟨ds,.load t x,ty,ps,af,gd⟩ e [.gs E ρ.n v xs.length cs] h (λu=>σ.Is h u Z):=by
 subst hZ;subst ho;have h1:=pc.get (h:=h) ⟨I,r⟩;have M:k+σ.n<=xs.length*ρ.n:=pc.fits;have J:=r.len;refine⟨_,λL' h' _ D a w H S=>?_,_,h1,I⟩;obtain⟨b,o',G,_,C⟩:=zLP (zJ4 (D (.gs E ρ.n v xs.length cs) (.head _)) S) hp (show k+σ.n<=cs.length by omega);rw[G] at hx;have:=zBQ (P:=P) (w:=w) T h1 C;simp[execOp,H.eval hx,this]
theorem nM{base E k g cap m:Nat}:∀(vs:List Value) (off:Nat) (cs:List Value) (w:World),w.ownsRow base E k (.slice (some ⟨g,0,none⟩) m cap) m cs->
 (w.setCells g off vs).ownsRow base E k (.slice (some ⟨g,0,none⟩) m cap) m (w5 cs off vs)/\w.grownBy (w.setCells g off vs) (some g)
 |[],off,cs,w,hw=>⟨hw,⟨rfl,rfl,rfl,Nat.le_refl _,λ_ _ _=>rfl⟩⟩
 |v::r,off,cs,w,hw=>by
  obtain⟨h1,h2⟩:=hw.stored off v;obtain⟨h3,h4⟩:=nM r (off+1) (cs.set off v) _ h1;have e1:w5 cs off (v::r)=w5 (cs.set off v) (off+1) r:=by
   unfold w5;rw[List.zipIdx_cons,List.foldl_cons,Nat.add_zero,List.zipIdx_succ,List.foldl_map]
   congr 1
   funext c p
   rw[show off+(p.2+1)=off+1+p.2 by omega]
  refine⟨by rw[World.setCells,e1];exact h3,?_⟩;refine⟨h4.os.trans h2.os,h4.tape.trans h2.tape,h4.output.trans h2.output,Nat.le_trans h2.size h4.size,?_⟩;intro G D C;have J:=h2.block G D C;have H:=h4.block G (Nat.lt_of_lt_of_le D h2.size) C;rw[World.setCells,H,J]
theorem rU{E t:TypeId}{k off:Nat}{cs:List Value}{u v:Value}{x y:Operand}{ρ:Rp α}{σ:Rp β}{g:List α->β}{s:List α->β->List α}{xs Z:List α}{Y:β}(hsz:∀w,(Go.sizeOf t).run P w=.ok σ.n w)(pc:Pc (rpA xs.length ρ) off σ g s)(ho:k=off)(hp:0<σ.n)(hx:zJ e x=some (zI 1 v k))(hy:zJ e y=some u)(r:RL ρ h cs xs)(ry:σ.Is h u Y)(hZ:s xs Y=Z):
 ∃cs',RL ρ h cs' Z/\∀A B,Upd P n w0 h0 ⟨ds,.store t x y,ty,ps,af,gd⟩ e A (.gs E ρ.n v xs.length cs) B h (.gs E ρ.n v Z.length cs'):=by
 subst hZ;subst ho;obtain⟨H,J,hv⟩:=ry.cells;have hl:=σ.len J;have aa:=r.len;have hf:k+σ.n<=xs.length*ρ.n:=pc.fits;obtain⟨U,O⟩:=pc.set (h:=h) ⟨I,r⟩ J;refine⟨w5 cs k H,?_,?_⟩
 · rw[zFJ _ _ _ zot,hl]
   exact O
 · intro A B a w Ev S
   rw[U];have G:w.ownsRow w0.heap.size E ρ.n v xs.length cs:=S.ok (.gs E ρ.n v xs.length cs) zo2;have C:=G;obtain⟨_,hr⟩:=G
   rcases hr with⟨rfl,hm0⟩|⟨b,cap,cur,rfl,hbg,hg,hnc,hcm,hcs,htake⟩
   · rw[hm0] at hf;omega
   · have M:zI 1 (.slice (some ⟨b,0,none⟩) xs.length cap) k=vP b k:=by simp[zI,jY]
     rw[M] at hx;obtain⟨h1,h2⟩:=nM H k cs w C;refine⟨w.setCells b k H,?_,h2,h1⟩;have D:=run_storeCells_cells (P:=P) b k H 0 w (λj hj=>by
      have h4:=C.cellAt (k+j) zot;rw[zoc zot] at h4;simp[h4]) (λj hj=>by simpa using C.frozenAt (k+j)) (λu hu=>zob.1 (σ.one J) u hu)
     simp only[Nat.add_zero] at D;simp[execOp,Ev.eval hx,Ev.eval hy,Instr.storeAt,Instr.sureAddr,storeVar,hsz,hv,hl,D]
section
variable {A B:List Res}{op:Op}{E k m:Nat}{v:Value}{cs:List Value}{F:Nat->List Value->Prop}
theorem fT{ops:Array Oper}{rest:List Oper}{m':Nat}{F:List Value->Prop}(hv:∃cs',F cs'/\∀A B,Upd P n w0 h0 ⟨none,op,ty,ps,af,none⟩ e A (.gs E k v m cs) B h (.gs E k v m' cs'))
    (kk:∀cs',F cs'->GL P n w0 h0 ops Q rest e (A++.gs E k v m' cs'::B) h):GL P n w0 h0 ops Q (⟨none,op,ty,ps,af,none⟩::rest) e (A++.gs E k v m cs::B) h:=by
 obtain⟨cs',D,C⟩:=hv;exact wN (C A B) I I I (kk cs' D)
theorem zH5{ops:Array Oper}{RR:List Res}{al:Als}{i:Nat}{r:List (Nat×Kd)}{m':Nat}{F:List Value->Prop}(ho:ops.getD i default=⟨none,op,ty,ps,af,none⟩)(hv:∃cs',F cs'/\∀A B,Upd P n w0 h0 ⟨none,op,ty,ps,af,none⟩ e A (.gs E k v m cs) B h (.gs E k v m' cs'))
    (kk:∀cs',F cs'->W P n w0 h0 ops Q RR al r e (A++.gs E k v m' cs'::B) h):W P n w0 h0 ops Q RR al ((i,.t)::r) e (A++.gs E k v m cs::B) h:=by
 obtain⟨cs',D,C⟩:=hv;exact pT ho (C A B) I (kk cs' D)
end
theorem St.freezex{A B:List Res}{E:Nat}{v:Value}{cs:List Value}{ρ:Rp α}{xs:List α}{w:World}(r:RL ρ h cs xs)(S:St w0 h0 (A++.gs E ρ.n v xs.length cs::B) h w):∃h',MLe h h'/\(rpS ρ).Is h' v xs/\St w0 h0 (A++B) h' w:=by
 have C:=S.ok (.gs E ρ.n v xs.length cs) zo2;have H:=C;obtain⟨M,J⟩:=C
 rcases J with⟨rfl,hm0⟩|⟨g,cap,cur,rfl,hb,hg,hn,hm,hcs,ht⟩
 · have G:xs=[]:=zof hm0
   subst G;exact⟨h,MLe.refl h,oT h,S.drop⟩
 · obtain⟨O,D⟩:=S.freeze (b:=g) (o:=.cells cur E (0,0)) I hg
   refine⟨_,D,yCH ⟨_,cap,I,hn,hm,M,λi hi=>⟨g,0,I,?_⟩⟩ (r.mono D),O⟩;unfold cell;simp only[if_true,Nat.zero_add];rw[<-ht,List.getElem?_take,if_pos zot];simp
section
variable {A B:List Res}{E:Nat}{v:Value}{cs:List Value}{ρ:Rp α}{xs:List α}
theorem zP{ops:Array Oper}{l:List Oper}(r:RL ρ h cs xs)(k:∀h',MLe h h'->(rpS ρ).Is h' v xs->GL P n w0 h0 ops Q l e (A++B) h'):GL P n w0 h0 ops Q l e (A++.gs E ρ.n v xs.length cs::B) h:=by
 intro a w H S;obtain⟨h',C,D,G⟩:=S.freezex r;exact k h' C D a w H G
theorem zGX{c:Code}(r:RL ρ h cs xs)(k:∀h',MLe h h'->(rpS ρ).Is h' v xs->GC P n w0 h0 c Q e (A++B) h'):GC P n w0 h0 c Q e (A++.gs E ρ.n v xs.length cs::B) h:=by
 intro a w H S;obtain⟨h',C,D,G⟩:=S.freezex r;exact k h' C D a w H G
theorem wS{x:Exit}(r:RL ρ h cs xs)(k:∀h',MLe h h'->(rpS ρ).Is h' v xs->GQ n w0 h0 Q x e (A++B) h'):GQ n w0 h0 Q x e (A++.gs E ρ.n v xs.length cs::B) h:=by
 intro a w H S;obtain⟨h',C,D,G⟩:=S.freezex r;exact k h' C D a w H G
theorem xS{o:Oper}{ops:Array Oper}{R:List Res}{W':List (Nat×Value)->List Res->Mem->Prop}(r:RL ρ h cs xs)(hR:∀q∈R,q∈A++.gs E ρ.n v xs.length cs::B->q∈A++B)
    (k:∀h',MLe h h'->(rpS ρ).Is h' v xs->kB P n w0 h0 ops R o e (A++B) h' W'):kB P n w0 h0 ops R o e (A++.gs E ρ.n v xs.length cs::B) h W':=by
 intro X a w Ev S;have S1:St w0 h0 (A++.gs E ρ.n v xs.length cs::(B++X)) h w:=by simpa using S
 obtain⟨h',C,D,S'⟩:=S1.freezex r;have Z:St w0 h0 ((A++B)++X) h' w:=by simpa using S'
 refine(k h' C D X a w Ev Z).mono ?_
 rintro v' w' ⟨M,L',g,J,H,U,O⟩
 exact⟨M,L',g,C.trans J,λhh q G=>H (λy hy=>hR y hy (hh y hy)) q G,U,O⟩
end
end
end Bk
namespace Bk
open Go Go.RowKit
def zCA(o:Oper):Nat:=o.after.toList.foldl (λa e=>if Region.binds .any e then a |||(1 <<< e.on) else a) 0
theorem eY(k j:Nat):(1 <<< k).testBit j=decide (j=k):=by
 rw[Nat.one_shiftLeft,Nat.testBit_two_pow];exact Bool.eq_iff_iff.2 (by simp[eq_comm])
theorem eG(o:Oper)(k:Nat):(zCA o).testBit k=true↔∃e∈o.after,Region.binds .any e=true/\e.on=k:=by
 have key:∀(l:List Edge) (a:Nat),(l.foldl (λa e=>if Region.binds .any e then a |||(1 <<< e.on) else a) a).testBit k=true↔a.testBit k=true\/∃e∈l,Region.binds .any e=true/\e.on=k:=by
  intro l
  induction l with
  |nil=>intro a;simp
  |cons e l ih=>
   intro a;rw[List.foldl_cons,ih]
   by_cases hb:Region.binds .any e=true
   · rw[if_pos hb,Nat.testBit_or,eY]
     simp only[Bool.or_eq_true,decide_eq_true_eq,List.mem_cons,exists_eq_or_imp,hb,true_and,or_assoc];constructor
     · rintro(h|h|h)
       · exact .inl h
       · exact .inr (.inl h.symm)
       · exact .inr (.inr h)
     · rintro(h|h|h)
       · exact .inl h
       · exact .inr (.inl h.symm)
       · exact .inr (.inr h)
   · rw[if_neg hb]
     simp only[List.mem_cons,exists_eq_or_imp,hb,false_and,false_or];simp
 unfold zCA;rw[key];simp
def zNJ(ops:Array Oper)(ams:List Nat)(i:Nat):Nat:=(List.range ops.size).foldl (λa j=>if j==i||(ams.getD j 0).testBit i||(ops.getD i default).apart ops (ops.getD j default) then a |||(1 <<< j) else a) 0
theorem zP7(ops:Array Oper)(ams:List Nat)(i k:Nat):(zNJ ops ams i).testBit k=true->k<ops.size/\(k=i\/(ams.getD k 0).testBit i=true\/(ops.getD i default).apart ops (ops.getD k default)=true):=by
 have key:∀(l:List Nat) (a:Nat),(l.foldl (λa j=>if j==i||(ams.getD j 0).testBit i||(ops.getD i default).apart ops (ops.getD j default) then a |||(1 <<< j) else a) a).testBit k=true->a.testBit k=true\/(k∈l/\(k=i\/(ams.getD k 0).testBit i=true\/(ops.getD i default).apart ops (ops.getD k default)=true)):=by
  intro l
  induction l with
  |nil=>intro a h;exact .inl h
  |cons j l ih=>
   intro a h;rw[List.foldl_cons] at h
   rcases ih _ h with h1|⟨h1,h2⟩
   · split at h1
     · rename_i hc
       rw[Nat.testBit_or,eY] at h1;simp only[Bool.or_eq_true,decide_eq_true_eq] at h1
       rcases h1 with h1|h1
       · exact .inl h1
       · subst h1
         simp only[Bool.or_eq_true,beq_iff_eq,or_assoc] at hc;exact .inr ⟨.head _,hc⟩
     · exact .inl h1
   · exact .inr ⟨.tail _ h1,h2⟩
 intro h
 rcases key _ _ h with h1|⟨h1,h2⟩
 · simp at h1
 · exact⟨zog.1 h1,h2⟩
def dM(ams:List Nat)(x i:Nat):Bool:=!x.testBit i&&(ams.getD i 0&&&x==ams.getD i 0)
def rW(ams:List Nat)(n x:Nat):List Nat:=(List.range n).filter (dM ams x)
def lL(x:Nat)(l:List Nat):Nat:=l.foldl (λx i=>x |||(1 <<< i)) x
def mQ(ops:Array Oper)(n m:Nat)(ams frs:List Nat):List (Nat×Kd)->Nat->List Nat->Bool
  |[],x,pend=>pend.isEmpty&&(rW ams n x).isEmpty
  |(i,.q)::r,x,pend=>decide (i<m)&&decide (i<n)&&dM ams x i&&((frs.getD i 0 |||x)&&&(1 <<< n-1)==1 <<< n-1)&&!pend.contains i&&
     ((List.range n).all λk=>decide (k<m)||(ams.getD k 0).testBit i||zDI ops k i)&&mQ ops n m ams frs r (x |||(1 <<< i)) pend
  |(i,.a)::r,x,pend=>pend.contains i&&(rW ams n (lL x (pend.filter (· != i)))==[i])&&mQ ops n m ams frs r (x |||(1 <<< i)) (pend.filter (· != i))
  |(i,.c)::r,x,pend=>decide (i<m)&&!pend.contains i&&(rW ams n (lL x pend)==[i])&&mQ ops n m ams frs r (x |||(1 <<< i)) pend
  |(i,.b j)::r,x,pend=>decide (i<m)&&decide (j<m)&&!pend.contains i&&!pend.contains j&&decide (i≠j)&&(rW ams n (lL x pend)==[i,j])&&
     (rW ams n (lL (x |||(1 <<< i)) pend)==[j])&&(rW ams n (lL (x |||(1 <<< j)) pend)==[i])&&mQ ops n m ams frs r ((x |||(1 <<< i)) |||(1 <<< j)) pend
  |(i,.t)::r,x,pend=>pend.isEmpty&&(r.all λy=>match y.2 with| .t=>true|_=>false)&&decide (m<=i)&&(rW ams n x==[i])&&mQ ops n m ams frs r (x |||(1 <<< i)) []
  |(i,.p)::r,x,pend=>decide (i<m)&&decide (i<n)&&dM ams x i&&((frs.getD i 0 |||x)&&&(1 <<< n-1)==1 <<< n-1)&&!pend.contains i&&mQ ops n m ams frs r (x |||(1 <<< i)) pend
  |(i,.d i2 j)::r,x,pend=>(decide (i<m)&&decide (i2<m)&&decide (j<m)&&!pend.contains i&&!pend.contains i2&&!pend.contains j)&&(decide (i≠i2)&&decide (i≠j)&&decide (i2≠j))&&
     (rW ams n (lL x pend)==[i,j])&&(rW ams n (lL (x |||(1 <<< i)) pend)==[i2,j])&&(rW ams n (lL (x |||(1 <<< j)) pend)==[i])&&
     (rW ams n (lL ((x |||(1 <<< i)) |||(1 <<< i2)) pend)==[j])&&(rW ams n (lL ((x |||(1 <<< i)) |||(1 <<< j)) pend)==[i2])&&
     mQ ops n m ams frs r (((x |||(1 <<< i)) |||(1 <<< i2)) |||(1 <<< j)) pend
  |(_,.m _ _)::_,_,_=>false
  |(_,.x _ _ _)::_,_,_=>false
section
variable {ops:Array Oper}{ams frs:List Nat}
def y7(ops:Array Oper)(b:Array Bool)(x:Nat):Prop:=b.size=ops.size/\∀i,i<ops.size->b[i]?=some (x.testBit i)
theorem y7.getF{b:Array Bool}{x:Nat}(h:y7 ops b x){i:Nat}(hi:i<ops.size)(d:Bool):b.getD i d=x.testBit i:=by
 rw[Array.getD_eq_getD_getElem?,h.2 i hi];rfl
theorem y7.set{b:Array Bool}{x:Nat}(h:y7 ops b x)(i:Nat):y7 ops (b.setIfInBounds i true) (x |||(1 <<< i)):=by
 refine⟨by simpa using h.1,λk C=>?_⟩;rw[Nat.testBit_or,eY,Array.getElem?_setIfInBounds]
 by_cases e:i=k
 · subst e
   have:i<b.size:=by rw[h.1];exact C
   simp[this]
 · rw[if_neg e,h.2 k C]
   simp[Ne.symm e]
theorem y7.setAll{b:Array Bool}{x:Nat}(h:y7 ops b x):∀(l:List Nat),y7 ops (setAll b l) (lL x l):=by
 intro l
 induction l generalizing b x with
 |nil=>exact h
 |cons i l ih=>exact ih (h.set i)
theorem y7.start:y7 ops (Array.replicate ops.size false) 0:=⟨by simp,λi hi=>by simp[hi]⟩
def eP(ops:Array Oper)(ams frs:List Nat):Bool:=(ops.toList.map zCA==ams)&&((List.range ops.size).map (zNJ ops ams)==frs)
theorem zOE(h:eP ops ams frs=true){i:Nat}(hi:i<ops.size):ams.getD i 0=zCA (ops.getD i default):=by
 simp only[eP,Bool.and_eq_true,beq_iff_eq] at h;rw[<-h.1,zoa,List.getElem?_map,Array.getElem?_toList,Array.getD_eq_getD_getElem?];simp[hi]
theorem yFP(h:eP ops ams frs=true){i:Nat}(hi:i<ops.size):frs.getD i 0=zNJ ops ams i:=by
 simp only[eP,Bool.and_eq_true,beq_iff_eq] at h;rw[<-h.2,zoa,List.getElem?_map];simp[hi]
theorem yDQ(hl:∀o∈ops,∀e∈o.after,e.on<ops.size){i:Nat}(hi:i<ops.size){e:Edge}(he:e∈(ops.getD i default).after):e.on<ops.size:=by
 refine hl _ ?_ e he;rw[Array.getD_eq_getD_getElem?,Array.getElem?_eq_getElem hi];exact Array.getElem_mem hi
theorem zOO(ht:eP ops ams frs=true)(hl:∀o∈ops,∀e∈o.after,e.on<ops.size){b:Array Bool}{x i:Nat}(hs:y7 ops b x)(hi:i<ops.size):
 dM ams x i=(!b.getD i true&&((ops[i]?).map (·.after.all λe=>!Region.binds .any e||b.getD e.on false)).getD false):=by
 unfold dM;rw[hs.getF hi,zOE ht hi]
 congr 1
 have G:ops[i]?=some (ops.getD i default):=mL hi;rw[G];simp only[Option.map_some,Option.getD_some];rw[Bool.eq_iff_iff,beq_iff_eq,Array.all_eq_true_iff_forall_mem];constructor
 · intro h e C
   by_cases D:Region.binds .any e=true
   · have h1:=(eG (ops.getD i default) e.on).2 ⟨e,C,D,I⟩
     rw[<-h,Nat.testBit_and,Bool.and_eq_true] at h1;rw[hs.getF (yDQ hl hi C),h1.2];simp
   · simp[D]
 · intro h
   apply Nat.eq_of_testBit_eq
   intro k;rw[Nat.testBit_and]
   by_cases hk:(zCA (ops.getD i default)).testBit k=true
   · obtain⟨e,C,D,rfl⟩:=(eG _ _).1 hk
     have h1:=h e C;rw[D,hs.getF (yDQ hl hi C)] at h1;simp at h1;rw[hk,h1];rfl
   · have:(zCA (ops.getD i default)).testBit k=false:=by simpa using hk
     rw[this];rfl
theorem kW(ht:eP ops ams frs=true)(hl:∀o∈ops,∀e∈o.after,e.on<ops.size){b:Array Bool}{x:Nat}(hs:y7 ops b x):Region.ready .any ops b=rW ams ops.size x:=by
 unfold Region.ready rW
 apply List.filter_congr
 intro i hi;exact(zOO ht hl hs (zog.1 hi)).symm
theorem iE(ht:eP ops ams frs=true)(hl:∀o∈ops,∀e∈o.after,e.on<ops.size){b:Array Bool}{x i:Nat}(hs:y7 ops b x)(hi:i<ops.size)(h:dM ams x i=true):(Region.ready .any ops b).contains i=true:=by
 rw[kW ht hl hs];unfold rW;simp[hi,h]
theorem zTX{y n k:Nat}(h:y&&&(1 <<< n-1)=1 <<< n-1)(hk:k<n):y.testBit k=true:=by
 have h1:(1 <<< n-1).testBit k=true:=by rw[Nat.one_shiftLeft,Nat.testBit_two_pow_sub_one];simpa using hk
 rw[<-h,Nat.testBit_and,Bool.and_eq_true] at h1;exact h1.1
theorem zRN(ht:eP ops ams frs=true){b:Array Bool}{x i:Nat}(hs:y7 ops b x)(hi:i<ops.size)(h:(frs.getD i 0 |||x)&&&(1 <<< ops.size-1)=1 <<< ops.size-1):Region.free .any ops b i=true:=by
 unfold Region.free;rw[mL hi];simp only[zob,zog];intro j C;have h1:=zTX h C;rw[Nat.testBit_or,Bool.or_eq_true,yFP ht hi] at h1;rw[mL C,hs.getF C];simp only[Bool.or_eq_true,beq_iff_eq]
 rcases h1 with h1|h1
 · obtain⟨_,h2|h2|h2⟩:=zP7 _ _ _ _ h1
   · exact .inl (.inl h2)
   · rw[zOE ht C] at h2
     obtain⟨e,G,H,D⟩:=(eG _ _).1 h2;refine .inr (.inl ?_);rw[Array.any_eq_true'];exact⟨e,G,by simp[H,D]⟩
   · exact .inr (.inr h2)
 · exact .inl (.inr h1)
theorem zUU(ht:eP ops ams frs=true){k i:Nat}(hk:k<ops.size)(h:(ams.getD k 0).testBit i=true):zDI ops k i=true:=by
 rw[zOE ht hk] at h;obtain⟨e,D,G,C⟩:=(eG _ _).1 h;unfold zDI;rw[Array.any_eq_true'];refine⟨e,D,?_⟩;rw[G,C];simp[zCC]
theorem nL(ht:eP ops ams frs=true)(hl:∀o∈ops,∀e∈o.after,e.on<ops.size){m:Nat}:∀(ord:List (Nat×Kd)) (b:Array Bool) (x:Nat) (pend:List Nat),y7 ops b x->mQ ops ops.size m ams frs ord x pend=true->chk ops m ord b pend=true
  |[],b,x,pend,hs,h=>by
   simp only[mQ,Bool.and_eq_true] at h;simp only[chk,Bool.and_eq_true,kW ht hl hs];exact h
  |(i,.q)::r,b,x,pend,hs,h=>by
   simp only[mQ,Bool.and_eq_true,beq_iff_eq,decide_eq_true_eq] at h;obtain⟨⟨⟨⟨⟨⟨h1,h2⟩,h3⟩,h4⟩,h5⟩,h6⟩,h7⟩:=h;simp only[chk,Bool.and_eq_true,decide_eq_true_eq];refine⟨⟨⟨⟨⟨h1,iE ht hl hs h2 h3⟩,zRN ht hs h2 h4⟩,h5⟩,?_⟩,nL ht hl r _ _ _ (hs.set i) h7⟩;rw[zob] at h6 ⊢;intro k hk;have:=h6 k hk;simp only[Bool.or_eq_true] at this ⊢
   rcases this with(h8|h8)|h8
   · exact .inl h8
   · exact .inr (zUU ht (zog.1 hk) h8)
   · exact .inr h8
  |(i,.a)::r,b,x,pend,hs,h=>by
   simp only[mQ,Bool.and_eq_true] at h;obtain⟨⟨h1,h2⟩,h3⟩:=h;simp only[chk,Bool.and_eq_true,kW ht hl (hs.setAll _)];exact⟨⟨h1,h2⟩,nL ht hl r _ _ _ (hs.set i) h3⟩
  |(i,.c)::r,b,x,pend,hs,h=>by
   simp only[mQ,Bool.and_eq_true] at h;obtain⟨⟨⟨h1,h2⟩,h3⟩,h4⟩:=h;simp only[chk,Bool.and_eq_true,kW ht hl (hs.setAll _)];exact⟨⟨⟨h1,h2⟩,h3⟩,nL ht hl r _ _ _ (hs.set i) h4⟩
  |(i,.b j)::r,b,x,pend,hs,h=>by
   simp only[mQ,Bool.and_eq_true] at h;obtain⟨⟨⟨⟨⟨⟨⟨⟨h1,h2⟩,h3⟩,h4⟩,h5⟩,h6⟩,h7⟩,h8⟩,h9⟩:=h;simp only[chk,Bool.and_eq_true,kW ht hl (hs.setAll _),kW ht hl ((hs.set i).setAll _),kW ht hl ((hs.set j).setAll _)];exact⟨⟨⟨⟨⟨⟨⟨⟨h1,h2⟩,h3⟩,h4⟩,h5⟩,h6⟩,h7⟩,h8⟩,nL ht hl r _ _ _ ((hs.set i).set j) h9⟩
  |(i,.t)::r,b,x,pend,hs,h=>by
   simp only[mQ,Bool.and_eq_true] at h;obtain⟨⟨⟨⟨h1,h2⟩,h3⟩,h4⟩,h5⟩:=h;simp only[chk,Bool.and_eq_true,kW ht hl hs];exact⟨⟨⟨⟨h1,h2⟩,h3⟩,h4⟩,nL ht hl r _ _ _ (hs.set i) h5⟩
  |(i,.p)::r,b,x,pend,hs,h=>by
   simp only[mQ,Bool.and_eq_true,beq_iff_eq,decide_eq_true_eq] at h;obtain⟨⟨⟨⟨⟨h1,h2⟩,h3⟩,h4⟩,h5⟩,h7⟩:=h;simp only[chk,Bool.and_eq_true,decide_eq_true_eq];exact⟨⟨⟨⟨h1,iE ht hl hs h2 h3⟩,zRN ht hs h2 h4⟩,h5⟩,nL ht hl r _ _ _ (hs.set i) h7⟩
  |(i,.d i2 j)::r,b,x,pend,hs,h=>by
   simp only[mQ,Bool.and_eq_true] at h;obtain⟨⟨⟨⟨⟨⟨⟨h1,h2⟩,h3⟩,h4⟩,h5⟩,h6⟩,h7⟩,h8⟩:=h;simp only[chk,Bool.and_eq_true,kW ht hl (hs.setAll _),kW ht hl ((hs.set i).setAll _),kW ht hl ((hs.set j).setAll _),kW ht hl (((hs.set i).set i2).setAll _),kW ht hl (((hs.set i).set j).setAll _)];exact⟨⟨⟨⟨⟨⟨⟨h1,h2⟩,h3⟩,h4⟩,h5⟩,h6⟩,h7⟩,nL ht hl r _ _ _ (((hs.set i).set i2).set j) h8⟩
  |(_,.m _ _)::_,_,_,_,_,h=>by simp[mQ] at h
  |(_,.x _ _ _)::_,_,_,_,_,h=>by simp[mQ] at h
def zQC(l:List Oper)(m:Nat)(ams frs:List Nat)(al:Als)(ord:List (Nat×Kd)):Bool:=
 Region.noSelect l.toArray&&cJ l.toArray al&&(al.all λx=>decide (x.1<m))&&(l.all λo=>o.after.all λe=>decide (e.on<l.length))&&eP l.toArray ams frs&&mQ l.toArray l.length m ams frs ord 0 (al.map (·.1))
theorem yIT{l:List Oper}{m:Nat}{al:Als}{ord:List (Nat×Kd)}(ams frs:List Nat)(h:zQC l m ams frs al ord=true):
 (Region.noSelect l.toArray&&cJ l.toArray al&&(al.all λx=>decide (x.1<m))&&chk l.toArray m ord (Array.replicate l.length false) (al.map (·.1)))=true:=by
 simp only[zQC,Bool.and_eq_true] at h;obtain⟨⟨⟨⟨⟨h1,h2⟩,h3⟩,M⟩,J⟩,H⟩:=h;simp only[Bool.and_eq_true];refine⟨⟨⟨h1,h2⟩,h3⟩,?_⟩;have D:∀o∈l.toArray,∀e∈o.after,e.on<l.toArray.size:=by
  intro o C e G;have:=zob.1 M o (by simpa using C);have:=Array.all_eq_true_iff_forall_mem.1 this e G
  simpa using this
 exact nL J D ord _ 0 _ y7.start H
end
end Bk
namespace Go.Proofs.YtpkaegemlpaenaaGreat
open Bk Go Tryz
theorem ty3:TyOk Tryz.prog 3 1 false:=⟨sizeOf3,isAgg3⟩
theorem ty4:TyOk Tryz.prog 4 1 false:=⟨sizeOf4,isAgg4⟩
theorem ty9:TyOk Tryz.prog 9 1 false:=⟨sizeOf9,isAgg9⟩
theorem fK:TyOk Tryz.prog 22 1 false:=⟨sizeOf22,isAgg22⟩
theorem yE:TyOk Tryz.prog 29 3 true:=⟨sizeOf29,isAgg29⟩
theorem zM:TyOk Tryz.prog 31 9 true:=⟨sizeOf31,isAgg31⟩
theorem uO:TyOk Tryz.prog 35 1 false:=⟨sizeOf35,isAgg35⟩
theorem kR:TyOk Tryz.prog 36 1 false:=⟨sizeOf36,isAgg36⟩
theorem yE0:TyOk Tryz.prog 37 1 false:=⟨sizeOf37,isAgg37⟩
theorem jB:TyOk Tryz.prog 39 3 true:=⟨sizeOf39,isAgg39⟩
theorem bG:TyOk Tryz.prog 50 12 true:=⟨sizeOf50,isAgg50⟩
theorem pW:TyOk Tryz.prog 51 1 false:=⟨sizeOf51,isAgg51⟩
theorem pV:TyOk Tryz.prog 53 14 true:=⟨sizeOf53,isAgg53⟩
theorem yEZ:TyOk Tryz.prog 76 1 false:=⟨sizeOf76,isAgg76⟩
theorem yEY:TyOk Tryz.prog 96 1 false:=⟨sizeOf96,isAgg96⟩
theorem yJS:TyOk Tryz.prog 97 1 false:=⟨sizeOf97,isAgg97⟩
theorem zLJ:TyOk Tryz.prog 99 2 true:=⟨sizeOf99,isAgg99⟩
theorem yDJ:TyOk Tryz.prog 118 2 true:=⟨sizeOf118,isAgg118⟩
theorem zEY:TyOk Tryz.prog 140 15 true:=⟨sizeOf140,isAgg140⟩
theorem yDI:TyOk Tryz.prog 151 18 true:=⟨sizeOf151,isAgg151⟩
theorem zQO:TyOk Tryz.prog 153 19 true:=⟨sizeOf153,isAgg153⟩
theorem w4:TyOk Tryz.prog 168 5 true:=⟨sizeOf168,isAgg168⟩
theorem yJT:TyOk Tryz.prog 200 5 true:=⟨sizeOf200,isAgg200⟩
end Go.Proofs.YtpkaegemlpaenaaGreat
namespace Bk
open Go Go.RowKit
section
variable {P:Program}{n:Nat}{w0:World}{h0:Mem}{e:List (Nat×Value)}{h:Mem}{ds:Option Tmp}{ty:TypeId}{ps:String}{af:Array Edge}{gd:Option (Nat×Bool)}{α:Type}
theorem zOZ{ρ:Rp α}{xs:List α}{v:Value}{t E:TypeId}{x lo:Operand}{p:Int}(i:Nat)(ht:P.underlying t=some (.slice E))(hsz:∀w,(Go.sizeOf E).run P w=.ok ρ.n w)(hx:zJ e x=some v)(hl:zJ e lo=some (vI p))(r:(rpS ρ).Is h v xs)
    (hp:p=(i:Int))(hi:i<=xs.length):OpX P n w0 h0 ⟨ds,.slice t x (some lo) none none,ty,ps,af,gd⟩ e [] h (λu=>(rpS ρ).Is h u (xs.drop i)):=by
 obtain⟨cs,s,D⟩:=zTE r;refine zWO (λL' h'=>jI i ht hsz hx hl s.shape hp hi) ?_;have G:=s.sub hi (Nat.le_refl _);have C:=D.len;rw[List.take_of_length_le (by rw[List.length_drop,C,<-Nat.sub_mul];exact Nat.le_refl _)] at G;exact yCH (by rw[List.length_drop];exact G) (D.drop i)
end
def ByB(bs:List Nat):Prop:=∀x∈bs,x<256
theorem ByB.nil:ByB []:=λx hx=>by cases hx
theorem ByB.app{a b:List Nat}(ha:ByB a)(hb:ByB b):ByB (a++b):=λx hx=>(List.mem_append.1 hx).elim (ha x) (hb x)
theorem zSA(n:Nat):ByB (txt n):=yE1 n
theorem zJR(a b:List Nat):qO a++qO b=qO (a++b):=by
 apply ByteArray.ext
 simp[qO]
theorem zIC{a b:List Nat}(ha:ByB a)(hb:ByB b):qO a=qO b↔a=b:=
 ⟨λh=>by rw[<-zJE ha,<-zJE hb,h],λh=>by rw[h]⟩
section
variable {P:Program}{n:Nat}{w0:World}{h0:Mem}{e:List (Nat×Value)}{L:List Res}{h:Mem}
variable {ds:Option Tmp}{ty:TypeId}{ps:String}{af:Array Edge}{gd:Option (Nat×Bool)}
theorem wY{pa pb:List Nat}{t yt:TypeId}{x y:Operand}(hx:zJ e x=some (.string (qO pa)))(hy:zJ e y=some (.string (qO pb)))(hlen:pa.length+pb.length<=9223372036854775807):
 OpV P n w0 h0 ⟨ds,.binOp .add t x y yt,ty,ps,af,gd⟩ e L h (.string (qO (pa++pb))):=by
 intro a w C S;have h1:=Us.str_size (xs:=pa);have h2:=Us.str_size (xs:=pb);have h3:¬(((qO pa).size+(qO pb).size:Nat):Int)>IntKind.i64.max:=by
  have:IntKind.i64.max=9223372036854775807:=I;rw[this];omega
 have D:(Op.stringOp .add (qO pa) (qO pb)).run P w=.ok (.string (qO (pa++pb))) w:=by
  simp only[Op.stringOp];rw[if_neg h3,zJR]
  rfl
 simp only[execOp,C.eval hx,C.eval hy];simp[eqGuard,binOp,D]
theorem mI{pa pb:List Nat}{t yt:TypeId}{x y:Operand}(ha:ByB pa)(hb:ByB pb)(hx:zJ e x=some (.string (qO pa)))(hy:zJ e y=some (.string (qO pb))):OpV P n w0 h0 ⟨ds,.binOp .eql t x y yt,ty,ps,af,gd⟩ e L h (vB (pa=pb)):=by
 have:=zO6 (P:=P) (n:=n) (w0:=w0) (h0:=h0) (L:=L) (h:=h) (ds:=ds) (ty:=ty) (ps:=ps) (af:=af) (gd:=gd) (t:=t) (yt:=yt) hx hy;rw[kF (zIC ha hb)] at this;exact this
theorem zWP{pa pb:List Nat}{t yt:TypeId}{x y:Operand}(ha:ByB pa)(hb:ByB pb)(hx:zJ e x=some (.string (qO pa)))(hy:zJ e y=some (.string (qO pb))):OpV P n w0 h0 ⟨ds,.binOp .neq t x y yt,ty,ps,af,gd⟩ e L h (vB (pa≠pb)):=by
 have h1:((qO pa).toList==(qO pb).toList)=@decide (qO pa=qO pb) (Classical.propDecidable _):=by
  rw[Bool.eq_iff_iff];simp only[beq_iff_eq,decide_eq_true_eq];exact⟨λhh=>by
   have h2:(qO pa).data.toList=(qO pb).data.toList:=by
    rwa [ByteArray.toList_eq,ByteArray.toList_eq] at hh
   exact ByteArray.ext (Array.toList_inj.1 h2),λhh=>by rw[hh]⟩
 rw[<-kF (not_congr (zIC ha hb))];intro a w C S;simp only[execOp,C.eval hx,C.eval hy,binOp,vB];simp[eqGuard,Op.stringOp,h1]
end
end Bk
namespace Bk
open Go Go.RowKit
open Classical
noncomputable def qP(q:Rat):List Nat:=(if q.num<0 then[45] else[])++txt q.num.natAbs++(if wU q.den=0 then[] else[47]++txt (wU q.den))
theorem zZH(q:Rat):ByB (qP q):=by
 unfold qP;refine ByB.app (ByB.app ?_ (zSA _)) ?_
 · split
   · unfold ByB;decide
   · exact ByB.nil
 · split
   · exact ByB.nil
   · exact ByB.app (by unfold ByB;decide) (zSA _)
theorem zAQ(q:Rat):(qP q).length<=20*lq q+4:=by
 unfold qP;have h1:=zAP q.num.natAbs;have h2:=zAP (wU q.den);have h3:=uE q;have C:=vZ q;have H:(if q.num<0 then[45] else([]:List Nat)).length<=1:=by split<;>simp
 have G:(if wU q.den=0 then[] else[47]++txt (wU q.den)).length<=1+(txt (wU q.den)).length:=by split<;>simp<;>omega
 rw[lAz,lAz];have D:(zB (wU q.den)).length<=lq q:=C;omega
theorem bE{q:Rat}:(0:Int)<↑(zB (wU q.den)).length↔¬wU q.den=0:=by
 have:=yP (n:=wU q.den);omega
theorem yAO{q:Rat}(h1:q.num<0)(h2:¬(0:Int)<↑(zB (wU q.den)).length):[45]++txt q.num.natAbs=qP q:=by
 unfold qP;rw[if_pos h1,if_pos (Classical.not_not.1 λe=>h2 (bE.2 e)),List.append_nil]
theorem yE2{q:Rat}(h1:q.num<0)(h2:(0:Int)<↑(zB (wU q.den)).length):[45]++txt q.num.natAbs++([47]++txt (wU q.den))=qP q:=by
 unfold qP;rw[if_pos h1,if_neg (bE.1 h2)]
theorem yAQ{q:Rat}(h1:¬q.num<0)(h2:¬(0:Int)<↑(zB (wU q.den)).length):txt q.num.natAbs=qP q:=by
 unfold qP;rw[if_neg h1,if_pos (Classical.not_not.1 λe=>h2 (bE.2 e)),List.append_nil,List.nil_append]
theorem yAP{q:Rat}(h1:¬q.num<0)(h2:(0:Int)<↑(zB (wU q.den)).length):txt q.num.natAbs++([47]++txt (wU q.den))=qP q:=by
 unfold qP;rw[if_neg h1,if_neg (bE.1 h2),List.nil_append]
def aF:List Nat->Nat
  |[]=>0
  |b::bs=>if 48<=b/\b<=57 then aF bs+1 else 0
noncomputable def exU(s:List Nat):List Nat:=if s.drop 1≠[]/\((s.drop 1).getD 0 0=43\/(s.drop 1).getD 0 0=45) then(s.drop 1).drop 1 else s.drop 1
def yIC(s:List Nat):Prop:=s.drop 1≠[]/\(s.drop 1).getD 0 0=45
def yK9(s:List Nat):Prop:=(s.getD 0 0=101\/s.getD 0 0=69)/\exU s≠[]/\(exU s).length<=3/\aF (exU s)=(exU s).length
noncomputable def exN(s:List Nat):Nat:=if yK9 s then hor (exU s) else 0
noncomputable def yH7(s:Prop)(n d:Nat):Int×Rat:=if(2048:Int)<yLL (mkRat (sg s n) d) then(2,0) else(0,mkRat (sg s n) d)
noncomputable def yH8(s:Prop)(n d:Nat)(r:List Nat):Int×Rat:=
 if r=[] then yH7 s n d else if yK9 r then(if yIC r then yH7 s n (d*10^exN r) else yH7 s (n*10^exN r) d) else(4,0)
def yJ6(r:List Nat):Prop:=r≠[]/\r.getD 0 0=47
def dot(r:List Nat):Prop:=r≠[]/\r.getD 0 0=46
noncomputable def fin2(s:Prop)(bs:List Nat):Int×Rat:=
 if aF bs=0 then(4,0) else
 if yJ6 (bs.drop (aF bs)) then
  (if(bs.drop (aF bs)).drop 1=[]\/aF ((bs.drop (aF bs)).drop 1)≠((bs.drop (aF bs)).drop 1).length then(4,0) else if hor ((bs.drop (aF bs)).drop 1)=0 then(3,0) else yH8 s (hor (bs.take (aF bs))) (hor ((bs.drop (aF bs)).drop 1)) [])
 else if dot (bs.drop (aF bs)) then
  (if aF ((bs.drop (aF bs)).drop 1)=0 then(4,0) else yH8 s (hor (bs.take (aF bs)++((bs.drop (aF bs)).drop 1).take (aF ((bs.drop (aF bs)).drop 1)))) (10^aF ((bs.drop (aF bs)).drop 1)) ((bs.drop (aF bs)).drop (aF ((bs.drop (aF bs)).drop 1)+1)))
 else yH8 s (hor (bs.take (aF bs))) 1 (bs.drop (aF bs))
def zWN(bs:List Nat):Prop:=(0:Int)<↑bs.length/\bs.getD 0 0=45
noncomputable def yBS(bs:List Nat):List Nat:=if zWN bs then bs.drop 1 else bs
noncomputable def parQ(bs:List Nat):Int×Rat:=if 4096<bs.length then(2,0) else fin2 (zWN bs) (yBS bs)
theorem yAN{n:Nat}(h0:n≠0)(h:n<10):txt n=[48+n]:=by
 unfold txt;rw[if_neg h0,zNY h0,show n/10=0 by omega,zJD,zoh h];rfl
theorem rR(q:Rat):yR q=if q=0 then 0 else if q<0 then -1 else 1:=by unfold yR;simp only[lZ]
theorem zJC(a b:Rat):xT a b= -xT b a:=by unfold xT;grind
theorem zG8(a b:Rat):xT a b=yR (a-b):=by rw[rR];unfold xT;grind
theorem zCX(a b:Rat):a<b\/a=b\/b<a:=by grind
theorem zZE(a b c:Rat):xT (a*c) (b*c)=xT a b*yR c:=by
 rw[rR]
 by_cases h0:c=0
 · subst h0
   have:xT (a*0) (b*0)=0:=aU.2 zo1;rw[this,if_pos I,Int.mul_zero]
 · rw[if_neg h0]
   by_cases hc:c<0
   · rw[if_pos hc]
     rcases zCX a b with h|h|h
     · have h1:b*c<a*c:=by
        have:=Rat.mul_lt_mul_of_pos_right h (c:=-c) zo1;grind
       unfold xT;grind
     · subst h;unfold xT;simp
     · have h1:a*c<b*c:=by
        have:=Rat.mul_lt_mul_of_pos_right h (c:=-c) zo1;grind
       unfold xT;grind
   · rw[if_neg hc]
     have C:0<c:=by grind
     rcases zCX a b with h|h|h
     · have h1:=Rat.mul_lt_mul_of_pos_right h C
       unfold xT;grind
     · subst h;unfold xT;simp
     · have h1:=Rat.mul_lt_mul_of_pos_right h C
       unfold xT;grind
theorem dR{x y:Int}(hx:-1<=x/\x<=1)(hy:-1<=y/\y<=1):-1<=x*y/\x*y<=1:=by
 have:x= -1\/x=0\/x=1:=by omega
 rcases this with h|h|h<;>subst h<;>omega
theorem kA{a b:Rat}:xT a b<=0↔a<=b:=by
 have h:=zG9 (a:=a) (b:=b);constructor
 · intro h1
   refine Rat.not_lt.1 λe=>?_;have:=h.2 e;omega
 · intro h1
   have:¬0<xT a b:=λe=>Rat.not_lt.2 h1 (h.1 e);omega
theorem zP2(a b:Rat):a<=b\/b<=a:=by grind
def yCJ(a b r:Rat):Prop:=a<=r/\r<=b
noncomputable def yDT(a b c d:Rat):Rat:=zGH (zGH (zGH (a*c) (a*d)) (b*c)) (b*d)
noncomputable def yDU(a b c d:Rat):Rat:=zD8 (zD8 (zD8 (a*c) (a*d)) (b*c)) (b*d)
noncomputable def zNC(a:Rat):Rat:=if a=0 then 0 else((1:Int):Rat)/a
noncomputable def yJ0(a b:Rat):Rat:=if yCJ a b 0 then 0 else zGH (a*a) (b*b)
noncomputable def yJ1(a b:Rat):Rat:=zD8 (a*a) (b*b)
theorem zM0{a b c:Rat}(h:a<=b)(hc:0<=c):a*c<=b*c:=Rat.mul_le_mul_of_nonneg_right h hc
theorem zCE(x:Rat):0<=x*x:=by
 rcases zP2 0 x with h|h
 · have:=zM0 h h;grind
 · have:=zM0 (a:=0) (b:=-x) (c:=-x) zo1 zo1;grind
noncomputable def yKI(a b c d:Rat):Rat:=if yCJ c d 0 then 0 else yDT a b (zGH (zNC c) (zNC d)) (zD8 (zNC c) (zNC d))
noncomputable def yKJ(a b c d:Rat):Rat:=if yCJ c d 0 then 0 else yDU a b (zGH (zNC c) (zNC d)) (zD8 (zNC c) (zNC d))
noncomputable def quoE(c d:Rat):Int:=if yCJ c d 0 then 3 else 0
theorem zSN(n:Nat):∃m,m*m<=n/\n<(m+1)*(m+1):=by
 induction n with
 |zero=>exact⟨0,by decide,by decide⟩
 |succ n ih=>
  obtain⟨m,h1,h2⟩:=ih
  by_cases h:(m+1)*(m+1)<=n+1
  · refine⟨m+1,h,?_⟩
    have:(m+1)*(m+1)<(m+1+1)*(m+1+1):=Nat.mul_self_lt_mul_self zot;omega
  · exact⟨m,by omega,by omega⟩
noncomputable def sqN(n:Nat):Nat:=Classical.choose (zSN n)
theorem yGL{h:Mem}{cs:List Value}{a b:Rat}{k l:Nat}(r:(rpQ k).R h cs a)(e:a=b)(hl:lq b<=l):(rpQ l).R h cs b:=by
 subst e;exact⟨r.1,hl⟩
noncomputable def ovQ(a K:Nat):Rat:=(a:Rat)/((2^K:Nat):Rat)
def flN(q:Rat)(K:Nat):Nat:=q.num.natAbs*2^K*2^K/q.den
noncomputable def zIF(q:Rat)(k:Int):Rat:=ovQ (sqN (flN q (kN k))) (kN k)
theorem zGQ{x y c:Rat}(hc:0<c):x<=y↔x*c<=y*c:=by
 constructor
 · intro h;exact Rat.mul_le_mul_of_nonneg_right h zo1
 · intro h
   refine Rat.not_lt.1 λe=>?_;have:=Rat.mul_lt_mul_of_pos_right e hc;grind
def topN(q:Rat)(K:Nat):Nat:=(q.num.natAbs/q.den+1)*2^K
def yKU(q:Rat)(K:Nat):Prop:=q.num.natAbs*2^K*2^K%q.den≠0
noncomputable def rtLo(l h:Rat)(k:Int):Rat:=if h<0 then 0 else zIF (zD8 l 0) k
noncomputable def yKG(h:Rat)(k:Int):Rat:=if h<0 then 0 else if zIF h k*zIF h k<h then zIF h k+ovQ 1 (kN k) else zIF h k
noncomputable def rtE(h:Rat):Int:=if h<0 then 7 else 0
noncomputable def loN(l:Rat)(K:Nat):Nat:=if 0<yR l then sqN (flN l K) else 0
theorem dB{q:Rat}:0<yR q↔0<q:=by
 rw[rR]
 by_cases h0:q=0
 · rw[if_pos h0,h0]
   constructor
   · intro h;omega
   · intro h;exact absurd h (Rat.lt_irrefl)
 · rw[if_neg h0]
   by_cases h1:q<0
   · rw[if_pos h1]
     constructor
     · intro h;omega
     · intro h;grind
   · rw[if_neg h1]
     constructor
     · intro h;grind
     · intro h;omega
theorem jQ{q:Rat}:yR q<0↔q<0:=by
 rw[rR]
 by_cases h0:q=0
 · rw[if_pos h0,h0]
   constructor
   · intro h;omega
   · intro h;exact absurd h (Rat.lt_irrefl)
 · rw[if_neg h0]
   by_cases h1:q<0
   · rw[if_pos h1];simp[h1]
   · rw[if_neg h1]
     constructor
     · intro h;omega
     · intro h;grind
noncomputable def hiN(q:Rat)(K:Nat):Nat:=if yKU q K\/rQ (sqN (flN q K)*sqN (flN q K)) (flN q K)<0 then sqN (flN q K)+1 else sqN (flN q K)
abbrev Sp:=Rat×Rat
noncomputable def ofS(a b:Rat):Sp:=(zGH a b,zD8 a b)
noncomputable def hullS(a b:Sp):Sp:=(zGH a.1 b.1,zD8 a.2 b.2)
def addS(a b:Sp):Sp:=(a.1+b.1,a.2+b.2)
def negS(a:Sp):Sp:=(-a.2,-a.1)
def subS(a b:Sp):Sp:=(a.1-b.2,a.2-b.1)
noncomputable def zXO(a b:Sp):Sp:=(yDT a.1 a.2 b.1 b.2,yDU a.1 a.2 b.1 b.2)
noncomputable def sqrS(a:Sp):Sp:=(yJ0 a.1 a.2,yJ1 a.1 a.2)
noncomputable def roundS(a:Sp)(n:Int):Sp:=(yD3 a.1 n,upQ a.2 n)
noncomputable def quoS(a b:Sp):Sp:=(yKI a.1 a.2 b.1 b.2,yKJ a.1 a.2 b.1 b.2)
noncomputable def meetS(a b:Sp):Sp:=(if zGH a.2 b.2<zD8 a.1 b.1 then 0 else zD8 a.1 b.1,if zGH a.2 b.2<zD8 a.1 b.1 then 0 else zGH a.2 b.2)
noncomputable def rootS(a:Sp)(n:Int):Sp:=(rtLo a.1 a.2 n,yKG a.2 n)
theorem zON{w0:World}{h0 h:Mem}{L:List Res}{G G':Mem->Value->Res->Prop}(k:∀g v q,G g v q->G' g v q)(x:Ending)(w:World)(s:rB w0 h0 h L G x w):rB w0 h0 h L G' x w:=by
 obtain⟨v,g,K,e,⟨q,h1,h2,h3⟩,S⟩:=s;exact⟨v,g,K,e,⟨q,h1,h2,k _ _ _ h3⟩,S⟩
noncomputable def yLS(s:Sp)(n:Int):Rat:=s.1+zQ0 n*(s.2-s.1)
noncomputable def ratQ(n d:Int):Rat:=jU (iM n 41-20) (iM d 8+1)
noncomputable def yD4(a b c d:Sp):Sp:=subS (zXO a d) (zXO b c)
noncomputable def zPU(m:T3 (T3 Sp))(i j:Nat):Sp:=yD4 (m.y.at i) (m.y.at j) (m.z.at i) (m.z.at j)
noncomputable def det3S(m:T3 (T3 Sp)):Sp:=addS (subS (zXO m.x.x (zPU m 1 2)) (zXO m.x.y (zPU m 0 2))) (zXO m.x.z (zPU m 0 1))
def okM(m:T3 (T3 Sp)):Prop:=∀i j,((m.at i).at j).1<=((m.at i).at j).2
noncomputable def det2L(m:List (List Sp)):Sp:=yD4 ((m.getD 0 (List.replicate 2 ((0:Rat),(0:Rat)))).getD 0 ((0:Rat),(0:Rat))) ((m.getD 0 (List.replicate 2 ((0:Rat),(0:Rat)))).getD 1 ((0:Rat),(0:Rat))) ((m.getD 1 (List.replicate 2 ((0:Rat),(0:Rat)))).getD 0 ((0:Rat),(0:Rat))) ((m.getD 1 (List.replicate 2 ((0:Rat),(0:Rat)))).getD 1 ((0:Rat),(0:Rat)))
def detR(n:T3 (T3 Rat)):Rat:=n.x.x*n.y.y*n.z.z-n.x.x*n.y.z*n.z.y+(n.x.y*n.y.z*n.z.x-n.x.y*n.y.x*n.z.z)+(n.x.z*n.y.x*n.z.y-n.x.z*n.y.y*n.z.x)
abbrev Pt:=T3 Rat
abbrev P2:=Rat×Rat
def pr(p:Pt)(i j:Nat):P2:=(p.at i,p.at j)
theorem zJ1{c:Prop} [Decidable c](a b:Pt)(i j:Nat):pr (if c then a else b) i j=if c then pr a i j else pr b i j:=by split<;>rfl
def cr(u v w:P2):Rat:=(v.1-u.1)*(w.2-u.2)-(v.2-u.2)*(w.1-u.1)
noncomputable def orZ(u v w:P2):Int:=yR (cr u v w)
def jF(a b x:Rat):Prop:=(a<=x/\x<=b)\/(x<=a/\b<=x)
def onS(u v p:P2):Prop:=jF u.1 v.1 p.1/\jF u.2 v.2 p.2/\cr u v p=0
def kH(a b c d:Rat):Prop:=(a<c/\a<d/\b<c/\b<d)\/(c<a/\d<a/\c<b/\d<b)
def lx(u v:P2):Prop:=u.1<v.1\/(u.1=v.1/\u.2<v.2)
noncomputable def lo2(u v:P2):P2:=if lx v u then v else u
noncomputable def hi2(u v:P2):P2:=if lx v u then u else v
noncomputable def eH(a b c d:P2):Int:=
 if lx (if lx d b then d else b) (if lx a c then c else a) then 0 else if lx (if lx a c then c else a) (if lx d b then d else b) then 3
 else if((if lx a c then c else a)=a\/(if lx a c then c else a)=b)/\((if lx a c then c else a)=c\/(if lx a c then c else a)=d) then 1 else 2
noncomputable def lM(a b c d:P2):Int:=eH (lo2 a b) (hi2 a b) (lo2 c d) (hi2 c d)
noncomputable def fZ(a b c d:P2):Int:=
 if kH a.1 b.1 c.1 d.1\/kH a.2 b.2 c.2 d.2 then 0
 else if orZ a b c=0/\orZ a b d=0/\orZ c d a=0/\orZ c d b=0 then lM a b c d
 else if 0<orZ a b c*orZ a b d\/0<orZ c d a*orZ c d b then 0
 else if(orZ a b c=0\/orZ a b d=0)/\(orZ c d a=0\/orZ c d b=0) then 1 else 2
noncomputable def zDX(a b c d:P2):Int:=
 if lx (if lx d b then d else b) (if lx a c then c else a) then 0 else if(if lx a c then c else a)≠(if lx d b then d else b) then 3
 else if((if lx a c then c else a)=a\/(if lx a c then c else a)=b)/\((if lx a c then c else a)=c\/(if lx a c then c else a)=d)/\onS a b (if lx a c then c else a)/\onS c d (if lx a c then c else a) then 1
 else if onS a b (if lx a c then c else a)/\onS c d (if lx a c then c else a) then 2 else 0
noncomputable def dA(a b c d:P2):Int:=if(a=b/\onS c d a)\/(c=d/\onS a b c) then 2 else 0
noncomputable def zJM(a b c d:P2):Int:=
 if orZ a b c=0/\orZ a b d=0/\orZ c d a=0/\orZ c d b=0 then zDX a b c d
 else if a=b\/c=d then dA a b c d
 else if 0<orZ a b c*orZ a b d\/0<orZ c d a*orZ c d b then 0
 else if a=c\/a=d\/b=c\/b=d then 1 else 2
noncomputable def mX(a b c d:P2):Int:=zJM (lo2 a b) (hi2 a b) (lo2 c d) (hi2 c d)
def cr2(ax ay bx by' cx cy:Rat):Rat:=(bx-ax)*(cy-ay)-(by'-ay)*(cx-ax)
theorem zJ3{D e u v:Rat}(hD:0<D)(h0:0<=e)(h1:e<=D)(h:D*u=v*e):(0<=v->0<=u/\u<=v)/\(v<=0->v<=u/\u<=0):=by
 constructor
 · intro G
   constructor
   · refine Rat.not_lt.1 λC=>?_
     have h2:=Rat.mul_lt_mul_of_pos_right C hD;have h3:=zod G h0;grind
   · refine Rat.not_lt.1 λC=>?_
     have h2:=Rat.mul_lt_mul_of_pos_right C hD;have h3:=Rat.mul_le_mul_of_nonneg_right h1 G;grind
 · intro G
   constructor
   · refine Rat.not_lt.1 λC=>?_
     have h2:=Rat.mul_lt_mul_of_pos_right C hD;have h3:=Rat.mul_le_mul_of_nonneg_right h1 (c:=-v) zo1;grind
   · refine Rat.not_lt.1 λC=>?_
     have h2:=Rat.mul_lt_mul_of_pos_right C hD;have h3:=zod (a:=-v) (b:=e) zo1 h0;grind
theorem zNA{a b:Rat}(h:a<=b):a<b\/a=b:=by grind
theorem sK{a b:Rat}(h:a*b=0):a=0\/b=0:=zoe.1 h
def lex(ax ay bx by':Rat):Prop:=ax<bx\/(ax=bx/\ay<by')
theorem zKQ{ax ay bx by':Rat}:¬lex bx by' ax ay↔ax<bx\/(ax=bx/\ay<=by'):=by
 unfold lex;grind
theorem zCO{ax ay bx by' px py:Rat}(hs:¬lex bx by' ax ay)(hc:cr2 ax ay bx by' px py=0):
 (¬lex px py ax ay/\¬lex bx by' px py)↔(jF ax bx px/\jF ay by' py):=by
 rw[zKQ] at hs;rw[zKQ,zKQ];unfold cr2 at hc;unfold jF
 rcases hs with hs|⟨hx,hy⟩
 · have J:0<bx-ax:=by grind
   have H:(bx-ax)*(py-ay)=(by'-ay)*(px-ax):=by grind
   constructor
   · rintro⟨h1,h2⟩
     have h3:0<=px-ax:=by grind
     have C:px-ax<=bx-ax:=by grind
     obtain⟨G,D⟩:=zJ3 J h3 C H;refine⟨.inl ⟨by grind,by grind⟩,?_⟩
     rcases zP2 ay by' with h7|h7
     · have:=G zo1;grind
     · have:=D zo1;grind
   · rintro⟨h1,h2⟩
     have h3:ax<=px/\px<=bx:=by grind
     constructor
     · rcases zNA h3.1 with C|C
       · exact .inl C
       · refine .inr ⟨C,?_⟩
         have G:(bx-ax)*(py-ay)=0:=by grind
         rcases sK G with D|D<;>grind
     · rcases zNA h3.2 with C|C
       · exact .inl C
       · refine .inr ⟨C,?_⟩
         have G:(bx-ax)*(py-by')=0:=by grind
         rcases sK G with D|D<;>grind
 · subst hx
   grind
theorem zHE{a b x:Rat}:jF a b x↔jF b a x:=by unfold jF;grind
theorem zNT(ax ay bx by' cx cy:Rat):cr2 bx by' ax ay cx cy= -cr2 ax ay bx by' cx cy:=by unfold cr2;grind
theorem yGY{ax ay bx by' px py:Rat}:(cr2 ax ay bx by' px py=0/\(if lex bx by' ax ay then ¬lex px py bx by'/\¬lex ax ay px py else ¬lex px py ax ay/\¬lex bx by' px py))↔(jF ax bx px/\jF ay by' py/\cr2 ax ay bx by' px py=0):=by
 by_cases hc:cr2 ax ay bx by' px py=0
 · simp only[hc,true_and,and_true]
   by_cases hl:lex bx by' ax ay
   · rw[if_pos hl]
     have h1:¬lex ax ay bx by':=by unfold lex at *;grind
     have h2:cr2 bx by' ax ay px py=0:=by rw[zNT,hc];grind
     rw[zCO h1 h2,zHE,zHE (a:=by')]
   · rw[if_neg hl]
     exact zCO hl hc
 · simp[hc]
theorem zJA{ux uy vx vy wx wy:Rat}(h:ux≠0\/uy≠0)(h1:vx*uy=vy*ux)(h2:wx*uy=wy*ux):vx*wy=vy*wx:=by
 rcases h with h|h
 · have e:ux*(vx*wy-vy*wx)=0:=by grind
   rcases sK e with h3|h3
   · exact absurd h3 h
   · grind
 · have e:uy*(vx*wy-vy*wx)=0:=by grind
   rcases sK e with h3|h3
   · exact absurd h3 h
   · grind
theorem zUD{ax ay bx by' cx cy dx dy:Rat}(hp:cr2 ax ay bx by' cx cy=0)(hr:cr2 cx cy dx dy ax ay=0):
 (ax=cx/\ay=cy)\/(cr2 ax ay bx by' dx dy=0/\cr2 cx cy dx dy bx by'=0):=by
 by_cases h:ax=cx/\ay=cy
 · exact .inl h
 · refine .inr ?_
   have C:cx-ax≠0\/cy-ay≠0:=by grind
   have h1:(bx-ax)*(cy-ay)=(by'-ay)*(cx-ax):=by unfold cr2 at hp;grind
   have h2:(dx-ax)*(cy-ay)=(dy-ay)*(cx-ax):=by unfold cr2 at hr;grind
   have h3:=zJA C h1 h2;unfold cr2;constructor<;>grind
theorem zNR{ax ay bx by' cx cy dx dy:Rat}(hpq:cr2 ax ay bx by' cx cy≠cr2 ax ay bx by' dx dy)(h1:cr2 ax ay bx by' cx cy*cr2 ax ay bx by' dx dy<=0)(h2:cr2 cx cy dx dy ax ay*cr2 cx cy dx dy bx by'<=0)(hrs:cr2 cx cy dx dy ax ay≠cr2 cx cy dx dy bx by'):
 ∃x y,jF ax bx x/\jF ay by' y/\jF cx dx x/\jF cy dy y:=by
 obtain⟨p,M⟩:∃p,p=cr2 ax ay bx by' cx cy:=⟨_,I⟩;obtain⟨q,J⟩:∃q,q=cr2 ax ay bx by' dx dy:=⟨_,I⟩;obtain⟨r,H⟩:∃r,r=cr2 cx cy dx dy ax ay:=⟨_,I⟩;obtain⟨s,es⟩:∃s,s=cr2 cx cy dx dy bx by':=⟨_,I⟩;rw[<-M,<-J] at hpq h1;rw[<-H,<-es] at hrs h2;have hw:∀{u v:Rat},u≠v->u*v<=0->0<=u/(u-v)/\u/(u-v)<=1:=by
  intro u v ab ac;have h3:u-v≠0:=by grind
  have D:0<(u-v)*(u-v):=by
   rcases zCX (u-v) 0 with h|h|h
   · have:=Rat.mul_pos (a:=-(u-v)) (b:=-(u-v)) zo1 zo1;grind
   · exact absurd h h3
   · exact Rat.mul_pos h h
  have e:u/(u-v)*((u-v)*(u-v))=u*(u-v):=by grind
  have h5:0<=u*u:=zCE u;have h6:0<=v*v:=zCE v;constructor
  · rw[zGQ D,e];grind
  · rw[zGQ D,e];grind
 obtain⟨t1,t2⟩:=hw hpq h1;obtain⟨w1,w2⟩:=hw hrs h2;have G:∀{u v t:Rat},0<=t->t<=1->jF u v (u+t*(v-u)):=by
  intro u v t h3 D;unfold jF
  rcases zP2 u v with h5|h5
  · left
    have h6:=zod h3 (show 0<=v-u by grind);have h7:=Rat.mul_le_mul_of_nonneg_right D (show 0<=v-u by grind);constructor<;>grind
  · right
    have h6:=zod h3 (show 0<=u-v by grind);have h7:=Rat.mul_le_mul_of_nonneg_right D (show 0<=u-v by grind);constructor<;>grind
 have C:p-q≠0:=by grind
 have aa:r-s≠0:=by grind
 have zT7:p-q= -(r-s):=by rw[M,J,H,es];unfold cr2;grind
 have ex:cx+p/(p-q)*(dx-cx)=ax+r/(r-s)*(bx-ax):=by
  have e1:(p-q)*(cx+p/(p-q)*(dx-cx))=(p-q)*(ax+r/(r-s)*(bx-ax)):=by
   have Z:(p-q)*(cx+p/(p-q)*(dx-cx))=(p-q)*cx+p*(dx-cx):=by grind
   have U:(p-q)*(ax+r/(r-s)*(bx-ax))=(p-q)*ax-r*(bx-ax):=by grind
   rw[Z,U,M,J,H];unfold cr2;grind
  have O:(p-q)*((cx+p/(p-q)*(dx-cx))-(ax+r/(r-s)*(bx-ax)))=0:=by grind
  rcases sK O with h|h
  · exact absurd h C
  · grind
 have ey:cy+p/(p-q)*(dy-cy)=ay+r/(r-s)*(by'-ay):=by
  have e1:(p-q)*(cy+p/(p-q)*(dy-cy))=(p-q)*(ay+r/(r-s)*(by'-ay)):=by
   have Z:(p-q)*(cy+p/(p-q)*(dy-cy))=(p-q)*cy+p*(dy-cy):=by grind
   have U:(p-q)*(ay+r/(r-s)*(by'-ay))=(p-q)*ay-r*(by'-ay):=by grind
   rw[Z,U,M,J,H];unfold cr2;grind
  have O:(p-q)*((cy+p/(p-q)*(dy-cy))-(ay+r/(r-s)*(by'-ay)))=0:=by grind
  rcases sK O with h|h
  · exact absurd h C
  · grind
 exact⟨_,_,ex▸G w1 w2,ey▸G w1 w2,G t1 t2,G t1 t2⟩
theorem bF{a b c d x:Rat}(h:kH a b c d)(h1:jF a b x)(h2:jF c d x):False:=by unfold kH jF at *;grind
theorem yD6(u v w:P2):cr u v w=cr2 u.1 u.2 v.1 v.2 w.1 w.2:=rfl
theorem fQ{u v w:P2}:orZ u v w=0↔cr u v w=0:=uS
theorem pJ{u v:P2}:¬lx v u↔lx u v\/u=v:=by
 unfold lx;rw[Prod.ext_iff];grind
theorem oN(u:P2):¬lx u u:=by unfold lx;grind
theorem bD{u v:P2}(h:lx u v):¬lx v u:=by unfold lx at *;grind
theorem zBO{u v w:P2}(h:lx u v)(k:lx v w):lx u w:=by unfold lx at *;grind
theorem yBT{a b p:P2}:(orZ a b p=0/\(if lx b a then ¬lx p b/\¬lx a p else ¬lx p a/\¬lx b p))↔onS a b p:=by
 rw[fQ];exact yGY
theorem oE{a b p:P2}(hs:¬lx b a)(hc:cr a b p=0):(¬lx p a/\¬lx b p)↔onS a b p:=by
 have:=zCO hs hc;unfold onS;rw[<-and_assoc,and_iff_left hc];exact this
theorem eE(a b c:P2):cr b a c= -cr a b c:=zNT _ _ _ _ _ _
theorem zBC(a b c:P2):orZ b a c= -orZ a b c:=by
 unfold orZ;rw[eE,rR,rR];grind
theorem nK(a c:P2):cr a a c=0:=by unfold cr;grind
theorem zK7(a c:P2):cr a c c=0:=by unfold cr;grind
theorem dY(a c:P2):cr a c a=0:=by unfold cr;grind
theorem zD1{a b c d:Rat}:kH b a c d↔kH a b c d:=by unfold kH;grind
theorem zB9{a b c d:Rat}:kH a b d c↔kH a b c d:=by unfold kH;grind
theorem zM5(a b:P2):lo2 a b=lo2 b a:=by
 unfold lo2
 by_cases h:lx b a
 · rw[if_pos h,if_neg (bD h)]
 · rw[if_neg h]
   rcases pJ.1 h with h1|h1
   · rw[if_pos h1]
   · rw[h1,if_neg (oN _)]
theorem zNE(a b:P2):hi2 a b=hi2 b a:=by
 unfold hi2
 by_cases h:lx b a
 · rw[if_pos h,if_neg (bD h)]
 · rw[if_neg h]
   rcases pJ.1 h with h1|h1
   · rw[if_pos h1]
   · rw[h1,if_neg (oN _)]
theorem zDM(a b c d:P2):fZ b a c d=fZ a b c d:=by
 have e:lM b a c d=lM a b c d:=by unfold lM;rw[zM5 b a,zNE b a]
 unfold fZ;rw[e,zD1,zD1 (a:=a.2),zBC a b c,zBC a b d];have h1:-orZ a b c*-orZ a b d=orZ a b c*orZ a b d:=by grind
 have h2:orZ c d b*orZ c d a=orZ c d a*orZ c d b:=Int.mul_comm _ _;rw[h1,h2];have h3:(-orZ a b c=0/\-orZ a b d=0/\orZ c d b=0/\orZ c d a=0)↔(orZ a b c=0/\orZ a b d=0/\orZ c d a=0/\orZ c d b=0):=by grind
 have C:((-orZ a b c=0\/-orZ a b d=0)/\(orZ c d b=0\/orZ c d a=0))↔((orZ a b c=0\/orZ a b d=0)/\(orZ c d a=0\/orZ c d b=0)):=by grind
 simp only[h3,C]
theorem zDL(a b c d:P2):fZ a b d c=fZ a b c d:=by
 have e:lM a b d c=lM a b c d:=by unfold lM;rw[zM5 d c,zNE d c]
 unfold fZ;rw[e,zB9,zB9 (a:=a.2),zBC c d a,zBC c d b];have h1:-orZ c d a*-orZ c d b=orZ c d a*orZ c d b:=by grind
 have h2:orZ a b d*orZ a b c=orZ a b c*orZ a b d:=Int.mul_comm _ _;rw[h1,h2];have h3:(orZ a b d=0/\orZ a b c=0/\-orZ c d a=0/\-orZ c d b=0)↔(orZ a b c=0/\orZ a b d=0/\orZ c d a=0/\orZ c d b=0):=by grind
 have C:((orZ a b d=0\/orZ a b c=0)/\(-orZ c d a=0\/-orZ c d b=0))↔((orZ a b c=0\/orZ a b d=0)/\(orZ c d a=0\/orZ c d b=0)):=by grind
 simp only[h3,C]
theorem zJL(a b c d:P2):fZ a b c d=fZ (lo2 a b) (hi2 a b) (lo2 c d) (hi2 c d):=by
 unfold lo2 hi2
 split
 · split
   · rw[zDM,zDL]
   · rw[zDM]
 · split
   · rw[zDL]
   · rfl
theorem zRI(a b:P2):¬lx (hi2 a b) (lo2 a b):=by
 unfold lo2 hi2
 split
 · rename_i h;exact bD h
 · rename_i h;exact h
theorem oP{a b:P2}(h:¬lx b a):lo2 a b=a/\hi2 a b=b:=⟨if_neg h,if_neg h⟩
theorem zPZ{a b c d:P2}(hab:¬lx b a)(hcd:¬lx d c)(h1:cr a b c=0)(h2:cr a b d=0)(h3:cr c d a=0)(h4:cr c d b=0)(hap:kH a.1 b.1 c.1 d.1\/kH a.2 b.2 c.2 d.2):lx b c\/lx d a:=by
 rcases hap with hap|hap
 · unfold kH at hap
   unfold lx;grind
 · -- the order along the line is that of the second coordinate, or its reverse
   rw[pJ] at hab hcd;refine Classical.byContradiction λH=>?_;have G:¬lx b c:=λe=>H (.inl e);have D:¬lx d a:=λe=>H (.inr e);rw[pJ] at G D
   -- c ≤ b and a ≤ d in the order of the line: the segments share a point
   have C:onS a b c\/onS c d a:=by
    by_cases e:lx c a
    · right
      refine(oE (pJ.2 hcd) h3).1 ⟨?_,?_⟩
      · exact bD e
      · exact pJ.2 D
    · left
      refine(oE (pJ.2 hab) h1).1 ⟨e,pJ.2 G⟩
   rcases C with⟨_,hb,_⟩|⟨_,hb,_⟩
   · exact bF hap hb (by unfold jF;grind)
   · exact bF hap (x:=a.2) (by unfold jF;grind) hb
theorem yCC{a b c d:P2}(hab:¬lx b a)(hcd:¬lx d c)(h1:cr a b c=0)(h2:cr a b d=0)(h3:cr c d a=0)(h4:cr c d b=0):zDX a b c d=eH a b c d:=by
 unfold zDX eH
 by_cases hh:lx (if lx d b then d else b) (if lx a c then c else a)
 · rw[if_pos hh,if_pos hh]
 · rw[if_neg hh,if_neg hh]
   by_cases he:(if lx a c then c else a)=(if lx d b then d else b)
   · rw[if_neg (λe=>e he),if_neg (show ¬lx (if lx a c then c else a) (if lx d b then d else b) by rw[he];exact oN _)]
     have C:onS a b (if lx a c then c else a)/\onS c d (if lx a c then c else a):=by
      have O:¬lx (if lx a c then c else a) a:=by
       split
       · rename_i h;exact bD h
       · exact oN _
      have M:¬lx (if lx a c then c else a) c:=by
       split
       · exact oN _
       · rename_i h;exact h
      have J:¬lx b (if lx a c then c else a):=by
       rw[he]
       split
       · rename_i h;exact bD h
       · exact oN _
      have H:¬lx d (if lx a c then c else a):=by
       rw[he]
       split
       · exact oN _
       · rename_i h;exact h
      have G:cr a b (if lx a c then c else a)=0:=by
       split
       · exact h1
       · exact dY a b
      have D:cr c d (if lx a c then c else a)=0:=by
       split
       · exact dY c d
       · exact h3
      exact⟨(oE hab G).1 ⟨O,J⟩,(oE hcd D).1 ⟨M,H⟩⟩
     by_cases hx:((if lx a c then c else a)=a\/(if lx a c then c else a)=b)/\((if lx a c then c else a)=c\/(if lx a c then c else a)=d)
     · rw[if_pos ⟨hx.1,hx.2,C⟩,if_pos hx]
     · rw[if_neg (λe=>hx ⟨e.1,e.2.1⟩),if_pos C,if_neg hx]
   · rw[if_pos he,if_pos ((pJ.1 hh).resolve_right he)]
theorem zLT{x y:Rat}:0<yR x*yR y↔0<x*y:=by
 have h1:=rR x;have h2:=rR y
 rcases zCX x 0 with hx|hx|hx<;>rcases zCX y 0 with hy|hy|hy
 · have:=Rat.mul_pos (a:=-x) (b:=-y) zo1 zo1
   have D:yR x= -1:=by grind
   have C:yR y= -1:=by grind
   rw[D,C];grind
 · subst hy;have e:x*0=0:=by grind
   have C:yR 0=0:=by grind
   rw[e,C];simp
 · have:=Rat.mul_pos (a:=-x) (b:=y) zo1 hy
   have D:yR x= -1:=by grind
   have C:yR y=1:=by grind
   rw[D,C];grind
 · subst hx;have e:0*y=0:=by grind
   have C:yR 0=0:=by grind
   rw[e,C];simp
 · subst hx;have e:0*y=0:=by grind
   have C:yR 0=0:=by grind
   rw[e,C];simp
 · subst hx;have e:0*y=0:=by grind
   have C:yR 0=0:=by grind
   rw[e,C];simp
 · have:=Rat.mul_pos (a:=x) (b:=-y) hx zo1
   have D:yR x=1:=by grind
   have C:yR y= -1:=by grind
   rw[D,C];grind
 · subst hy;have e:x*0=0:=by grind
   have C:yR 0=0:=by grind
   rw[e,C];simp
 · have:=Rat.mul_pos hx hy
   have D:yR x=1:=by grind
   have C:yR y=1:=by grind
   rw[D,C];grind
theorem oC{a b c d e f:P2}:0<orZ a b c*orZ d e f↔0<cr a b c*cr d e f:=zLT
theorem zRX{a b c d:P2}(hn:¬(cr a b c=0/\cr a b d=0/\cr c d a=0/\cr c d b=0)):((cr a b c=0\/cr a b d=0)/\(cr c d a=0\/cr c d b=0))↔(a=c\/a=d\/b=c\/b=d):=by
 have D:∀u v w:P2,cr u v w= -cr v u w:=λu v w=>eE v u w;constructor
 · rintro⟨h1,h2⟩
   -- one end of each
   have C:∀{p q r s:P2},cr p q r=0->cr r s p=0->p=r\/(cr p q s=0/\cr r s q=0):=by
    intro p q r s H G
    rcases zUD H G with h|h
    · exact .inl (Prod.ext h.1 h.2)
    · exact .inr h
   rcases h1 with h1|h1<;>rcases h2 with h2|h2
   · rcases C h1 h2 with h|h
     · exact .inl h
     · exact absurd ⟨h1,h.1,h2,h.2⟩ hn
   · rcases C (p:=b) (q:=a) (r:=c) (s:=d) (by rw[eE,h1];grind) h2 with h|h
     · exact .inr (.inr (.inl h))
     · exact absurd ⟨h1,by rw[D,h.1];grind,h.2,h2⟩ hn
   · rcases C (p:=a) (q:=b) (r:=d) (s:=c) h1 (by rw[eE,h2];grind) with h|h
     · exact .inr (.inl h)
     · exact absurd ⟨h.1,h1,h2,by rw[D,h.2];grind⟩ hn
   · rcases C (p:=b) (q:=a) (r:=d) (s:=c) (by rw[eE,h1];grind) (by rw[eE,h2];grind) with h|h
     · exact .inr (.inr (.inr h))
     · exact absurd ⟨by rw[D,h.1];grind,h1,by rw[D,h.2];grind,h2⟩ hn
 · rintro(h|h|h|h)
   · subst h;exact⟨.inl (dY a b),.inl (dY a d)⟩
   · subst h;exact⟨.inr (dY a b),.inl (zK7 c a)⟩
   · subst h;exact⟨.inl (zK7 a b),.inr (dY b d)⟩
   · subst h;exact⟨.inr (zK7 a b),.inr (zK7 c b)⟩
theorem yAS{a b c d:P2}(hab:¬lx b a)(hcd:¬lx d c):fZ a b c d=zJM a b c d:=by
 unfold fZ zJM;simp only[fQ]
 by_cases hz:cr a b c=0/\cr a b d=0/\cr c d a=0/\cr c d b=0
 · obtain⟨h1,h2,h3,U⟩:=hz
   rw[if_pos (show cr a b c=0/\cr a b d=0/\cr c d a=0/\cr c d b=0 from⟨h1,h2,h3,U⟩),if_pos (show cr a b c=0/\cr a b d=0/\cr c d a=0/\cr c d b=0 from⟨h1,h2,h3,U⟩),yCC hab hcd h1 h2 h3 U];unfold lM;rw[(oP hab).1,(oP hab).2,(oP hcd).1,(oP hcd).2]
   by_cases C:kH a.1 b.1 c.1 d.1\/kH a.2 b.2 c.2 d.2
   · rw[if_pos C]
     have D:=zPZ hab hcd h1 h2 h3 U C;unfold eH;rw[if_pos]
     rcases D with D|D
     · have e1:lx a c:=by
        rcases pJ.1 hab with e|e
        · exact zBO e D
        · rw[e];exact D
       have e2:¬lx d b:=by
        refine bD ?_
        rcases pJ.1 hcd with e|e
        · exact zBO D e
        · rw[<-e];exact D
       rw[if_neg e2,if_pos e1];exact D
     · have e1:¬lx a c:=by
        refine bD ?_
        rcases pJ.1 hcd with e|e
        · exact zBO e D
        · rw[e];exact D
       have e2:lx d b:=by
        rcases pJ.1 hab with e|e
        · exact zBO D e
        · rw[<-e];exact D
       rw[if_pos e2,if_neg e1];exact D
   · rw[if_neg C]
 · rw[if_neg hz,if_neg hz]
   by_cases hd:a=b\/c=d
   · rw[if_pos hd]
     have e0:dA a b c d=0:=by
      unfold dA;rw[if_neg]
      rintro(⟨e,h⟩|⟨e,h⟩)
      · subst e
        exact hz ⟨nK _ _,nK _ _,h.2.2,h.2.2⟩
      · subst e
        exact hz ⟨h.2.2,h.2.2,nK _ _,nK _ _⟩
     rw[e0]
     by_cases C:kH a.1 b.1 c.1 d.1\/kH a.2 b.2 c.2 d.2
     · rw[if_pos C]
     · rw[if_neg C,if_pos]
       rw[oC,oC];have G:∀x:Rat,x≠0->0<x*x:=by
        intro x hx
        rcases zCX x 0 with h|h|h
        · have:=Rat.mul_pos (a:=-x) (b:=-x) zo1 zo1;grind
        · exact absurd h hx
        · exact Rat.mul_pos h h
       rcases hd with e|e
       · subst e
         right
         refine G _ λh=>?_;exact hz ⟨nK _ _,nK _ _,h,h⟩
       · subst e
         left
         refine G _ λh=>?_;exact hz ⟨h,h,nK _ _,nK _ _⟩
   · rw[if_neg hd]
     by_cases hs:0<orZ a b c*orZ a b d\/0<orZ c d a*orZ c d b
     · rw[if_pos hs,if_pos hs]
       split<;>rfl
     · rw[if_neg hs,if_neg hs]
       rw[oC,oC] at hs;have H:cr a b c*cr a b d<=0:=Rat.not_lt.1 λe=>hs (.inl e);have aa:cr c d a*cr c d b<=0:=Rat.not_lt.1 λe=>hs (.inr e);have M:¬(kH a.1 b.1 c.1 d.1\/kH a.2 b.2 c.2 d.2):=by
        intro C;have Z:∀{p q r s:P2},p≠q->cr p q r=0->cr p q s=0->cr r s p=0/\cr r s q=0:=by
         intro p q r s ab k1 k2;have hu:q.1-p.1≠0\/q.2-p.2≠0:=by
          refine Classical.byContradiction λe=>ab (Prod.ext ?_ ?_)<;>grind
         have k3:(r.1-p.1)*(q.2-p.2)=(r.2-p.2)*(q.1-p.1):=by unfold cr at k1;grind
         have k4:(s.1-p.1)*(q.2-p.2)=(s.2-p.2)*(q.1-p.1):=by unfold cr at k2;grind
         have k5:=zJA hu k3 k4;unfold cr;constructor<;>grind
        have zT7:cr a b c-cr a b d= -(cr c d a-cr c d b):=by unfold cr;grind
        have J:cr a b c≠cr a b d:=by
         intro e;rw[e] at H;have h5:=zCE (cr a b d);have h6:cr a b d*cr a b d=0:=by grind
         have O:cr a b d=0:=by rcases sK h6 with h|h<;>exact h
         obtain⟨h8,h9⟩:=Z (λe=>hd (.inl e)) (by rw[e];exact O) O;exact hz ⟨by rw[e];exact O,O,h8,h9⟩
        obtain⟨x,y,k1,k2,k3,k4⟩:=zNR (ax:=a.1) (ay:=a.2) (bx:=b.1) (by':=b.2) (cx:=c.1) (cy:=c.2) (dx:=d.1) (dy:=d.2) J H aa (by intro e;apply J;rw[yD6 c d a,yD6 c d b,e] at zT7;grind)
        rcases C with h|h
        · exact bF h k1 k3
        · exact bF h k2 k4
       rw[if_neg M]
       by_cases he:(cr a b c=0\/cr a b d=0)/\(cr c d a=0\/cr c d b=0)
       · rw[if_pos he,if_pos ((zRX hz).1 he)]
       · rw[if_neg he,if_neg (λe=>he ((zRX hz).2 e))]
theorem zLL(a b c d:P2):fZ a b c d=mX a b c d:=by
 rw[zJL];unfold mX;exact yAS (zRI a b) (zRI c d)
theorem zE2(a b c d:P2):fZ c d a b=fZ a b c d:=by
 have D:∀(a b c d:P2),¬lx b a->¬lx d c->eH c d a b=eH a b c d:=by
  intro a b c d _ _;unfold eH;have M:(if lx c a then a else c)=(if lx a c then c else a):=by
   by_cases h:lx a c
   · rw[if_pos h,if_neg (bD h)]
   · rw[if_neg h]
     rcases pJ.1 h with h1|h1
     · rw[if_pos h1]
     · rw[h1,if_neg (oN _)]
  have J:(if lx b d then b else d)=(if lx d b then d else b):=by
   by_cases h:lx d b
   · rw[if_pos h,if_neg (bD h)]
   · rw[if_neg h]
     rcases pJ.1 h with h1|h1
     · rw[if_pos h1]
     · rw[h1,if_neg (oN _)]
  rw[M,J];simp only[and_comm]
 have C:∀{a b c d:Rat},kH c d a b↔kH a b c d:=by intro a b c d;unfold kH;grind
 unfold fZ;have e:lM c d a b=lM a b c d:=D _ _ _ _ (zRI a b) (zRI c d);rw[e,C (a:=a.1) (b:=b.1) (c:=c.1) (d:=d.1),C (a:=a.2) (b:=b.2) (c:=c.2) (d:=d.2)];have h3:(orZ c d a=0/\orZ c d b=0/\orZ a b c=0/\orZ a b d=0)↔(orZ a b c=0/\orZ a b d=0/\orZ c d a=0/\orZ c d b=0):=by grind
 have H:(0<orZ c d a*orZ c d b\/0<orZ a b c*orZ a b d)↔(0<orZ a b c*orZ a b d\/0<orZ c d a*orZ c d b):=or_comm;have G:((orZ c d a=0\/orZ c d b=0)/\(orZ a b c=0\/orZ a b d=0))↔((orZ a b c=0\/orZ a b d=0)/\(orZ c d a=0\/orZ c d b=0)):=and_comm;simp only[h3,H,G]
def smZ(q:Rat):Int:=if q.den≠1\/1<(zB q.num.natAbs).length then 0 else q.num
def smB(q:Rat):Prop:=q.den=1/\q.num.natAbs<268435456
theorem zP1{n:Nat}(h:n<4294967296):(zB n).length<=1:=qN (by rw[Nat.pow_one];exact h)
theorem zQR{q:Rat}(h:smB q):(zB q.num.natAbs).length<=1:=zP1 (by have:=h.2;omega)
theorem sY{q:Rat}(h:smB q):q=((smZ q:Int):Rat)/\-268435456<smZ q/\smZ q<268435456:=by
 have h1:=zQR h;have e:smZ q=q.num:=by unfold smZ;rw[if_neg];rintro(e|e);exact e h.1;omega
 have h2:=h.2;refine⟨?_,by rw[e];omega,by rw[e];omega⟩;rw[e];have h3:=Rat.divInt_eq_div q.num q.den;rw[Rat.num_divInt_den,h.1] at h3;rw[h3];have D:((1:Nat):Int)=1:=I;have:((q.num:Rat)/((((1:Nat):Int)):Rat))=(q.num:Rat):=by rw[D];have C:((1:Int):Rat)=1:=I;rw[C];grind
 rw[this];rw[h3] at *;simp
theorem yJ4{q:Rat}(h:(0:Int)<↑(zB (wU q.den)).length\/(1:Int)<↑(zB q.num.natAbs).length):smZ q=0/\¬smB q:=by
 have h1:q.den≠1\/1<(zB q.num.natAbs).length:=by
  rcases h with h|h
  · left;intro e;rw[e,aA,xK] at h;simp at h
  · right;omega
 refine⟨if_pos h1,λC=>?_⟩
 rcases h1 with e|e
 · exact e C.1
 · have:=zQR C;omega
theorem zOG{q:Rat}(h:¬((0:Int)<↑(zB (wU q.den)).length\/(1:Int)<↑(zB q.num.natAbs).length)):q.den=1/\(zB q.num.natAbs).length<=1:=by
 refine⟨(oZ q.den_nz).1 ?_,by omega⟩;have:(zB (wU q.den)).length=0:=by omega
 exact zof this
theorem zVF{q:Rat}(h:¬((0:Int)<↑(zB (wU q.den)).length\/(1:Int)<↑(zB q.num.natAbs).length)):smZ q=q.num:=by
 obtain⟨h1,h2⟩:=zOG h;unfold smZ;rw[if_neg]
 rintro(e|e)
 · exact e h1
 · omega
theorem yJ3{q:Rat}(h:¬((0:Int)<↑(zB (wU q.den)).length\/(1:Int)<↑(zB q.num.natAbs).length))(h0:(↑(zB q.num.natAbs).length:Int)=0):smZ q=0/\smB q:=by
 obtain⟨h1,h2⟩:=zOG h;have C:q.num.natAbs=0:=by
  refine Classical.byContradiction λe=>?_;have:=yP.2 e;omega
 refine⟨by rw[zVF h];omega,h1,by omega⟩
theorem yAY{q:Rat}(h:¬((0:Int)<↑(zB (wU q.den)).length\/(1:Int)<↑(zB q.num.natAbs).length))(h0:¬(↑(zB q.num.natAbs).length:Int)=0):(zB q.num.natAbs).getD 0 0=q.num.natAbs/\q.num.natAbs<4294967296/\(smB q↔q.num.natAbs<268435456):=by
 obtain⟨h1,h2⟩:=zOG h;have h3:=zAO (xs:=zB q.num.natAbs) zot;rw[zE] at h3;have C:=qC q.num.natAbs;have D:(zB q.num.natAbs).length=1:=by omega
 rw[D,Nat.pow_one] at C;exact⟨h3.symm,C,λe=>e.2,λe=>⟨h1,e⟩⟩
theorem zH8{x y:Int}{p q:Prop}(h1:x=y)(h2:p↔q):Value.tuple #[vI x,vB p]=.tuple #[vI y,vB q]:=by subst h1;rw[kF h2]
theorem zWE{u v:Int}(h1:-536870912<u)(h2:u<536870912)(h3:-536870912<v)(h4:v<536870912):-288230376151711744<=u*v/\u*v<=288230376151711744:=by
 have C:∀{a b:Int},0<=a->a<536870912->0<=b->b<536870912->0<=a*b/\a*b<=288230376151711744:=by
  intro a b J H D G;have O:=Int.mul_nonneg J D;have M:a*b<=536870912*536870912:=Int.mul_le_mul zot zot D zot;omega
 rcases Int.le_total 0 u with hu|hu<;>rcases Int.le_total 0 v with hv|hv
 · have:=C hu h2 hv h4;omega
 · have:=C hu h2 (b:=-v) zot zot
   rw[Int.mul_neg] at this;omega
 · have:=C (a:=-u) zot zot hv h4
   rw[Int.neg_mul] at this;omega
 · have:=C (a:=-u) (b:=-v) zot zot zot zot
   rw[Int.neg_mul_neg] at this;omega
def zHK(n:Int):Int:=if 0<n then 1 else if n<0 then -1 else 0
theorem mA(n:Int):yR (n:Rat)=zHK n:=by
 rw[rR];unfold zHK;have h0:((n:Rat)=0)↔n=0:=by
  have e:(0:Rat)=((0:Int):Rat):=I;rw[e,Rat.intCast_inj]
 have h1:((n:Rat)<0)↔n<0:=by
  have e:(0:Rat)=((0:Int):Rat):=I;rw[e,Rat.intCast_lt_intCast]
 simp only[h0,h1]
 split
 · rename_i h;subst h;simp
 · split
   · rw[if_neg zot]
   · rw[if_pos zot]
theorem zWV{a b c:P2}(h1:smB a.1/\smB a.2)(h2:smB b.1/\smB b.2)(h3:smB c.1/\smB c.2):
 zHK ((smZ b.1-smZ a.1)*(smZ c.2-smZ a.2)-(smZ b.2-smZ a.2)*(smZ c.1-smZ a.1))=orZ a b c:=by
 rw[<-mA];unfold orZ cr
 congr 1
 rw[Rat.intCast_sub,Rat.intCast_mul,Rat.intCast_mul,Rat.intCast_sub,Rat.intCast_sub,Rat.intCast_sub,Rat.intCast_sub];rw[<-(sY h1.1).1,<-(sY h1.2).1,<-(sY h2.1).1,<-(sY h2.2).1,<-(sY h3.1).1,<-(sY h3.2).1]
theorem yGW(a b c:P2):xT ((b.1-a.1)*(c.2-a.2)) ((b.2-a.2)*(c.1-a.1))=orZ a b c:=by rw[zG8];rfl
theorem tP(a b c:P2):-1<=orZ a b c/\orZ a b c<=1:=yX _
theorem zWG{a b:Pt}{i j:Nat}:pr a i j=pr b i j↔a.at i=b.at i/\a.at j=b.at j:=by unfold pr;rw[Prod.ext_iff]
theorem zZS{a b x:Rat}:((xT a x<=0/\xT x b<=0)\/(0<=xT a x/\0<=xT x b))↔jF a b x:=by
 have h1:=kA (a:=a) (b:=x);have h2:=kA (a:=x) (b:=b);have h3:=zJC a x;have G:=zJC x b;have D:=kA (a:=x) (b:=a);have C:=kA (a:=b) (b:=x);unfold jF;rw[<-h1,<-h2,<-D,<-C];omega
theorem zM8{a b:Pt}{i j:Nat}:(xT (a.at i) (b.at i)<0\/(xT (a.at i) (b.at i)=0/\xT (a.at j) (b.at j)<0))↔lx (pr a i j) (pr b i j):=by
 rw[mO,aU,mO];rfl
noncomputable def loT(a b:Pt)(i j:Nat):Pt:=if lx (pr b i j) (pr a i j) then b else a
noncomputable def hiT(a b:Pt)(i j:Nat):Pt:=if lx (pr b i j) (pr a i j) then a else b
noncomputable def mxT(a c:Pt)(i j:Nat):Pt:=if lx (pr a i j) (pr c i j) then c else a
noncomputable def mnT(b d:Pt)(i j:Nat):Pt:=if lx (pr d i j) (pr b i j) then d else b
def gp(l:List Pt)(m:Nat):Pt:=l.getD m (T3.mk (0:Rat) 0 0)
def uW(l:List Pt)(i j:Nat):Nat->Rat
  |0=>0
  |m+1=>uW l i j m+((gp l m).at i*(gp l ((m+1)%l.length)).at j-(gp l ((m+1)%l.length)).at i*(gp l m).at j)
theorem yAR(a b c:Pt):yR (uW [a,b,c] 0 1 3)=orZ (pr a 0 1) (pr b 0 1) (pr c 0 1):=by
 have:uW [a,b,c] 0 1 3=cr (pr a 0 1) (pr b 0 1) (pr c 0 1):=by
  simp[uW,gp,pr,cr,T3.at];grind
 unfold orZ;rw[this]
def jP(a b p:P2):Prop:=¬(a.2<=p.2↔b.2<=p.2)/\((a.2<=p.2/\0<orZ a b p)\/(b.2<=p.2/\orZ a b p<0))
def vV(l:List Pt)(i j m:Nat):P2:=pr (gp l m) i j
def vS(l:List Pt)(i j m:Nat):P2:=pr (gp l ((m+1)%l.length)) i j
def kC(l:List Pt)(p:P2)(i j:Nat):Nat->Prop
  |0=>False
  |m+1=>(jP (vV l i j m) (vS l i j m) p/\¬kC l p i j m)\/(¬jP (vV l i j m) (vS l i j m) p/\kC l p i j m)
noncomputable def fG(l:List Pt)(p:P2)(i j:Nat):Int:=
 if ∃m,m<l.length/\onS (vV l i j m) (vS l i j m) p then 0 else if kC l p i j l.length then 1 else -1
theorem zYC{l:List Pt}{p:P2}{i j m:Nat}(hm:m<l.length)(h:onS (vV l i j m) (vS l i j m) p):0=fG l p i j:=(if_pos ⟨m,hm,h⟩).symm
theorem zYD{l:List Pt}{p:P2}{i j n:Nat}(hn:¬n<l.length)(hn2:n<=l.length)(h:∀q,q<n->¬onS (vV l i j q) (vS l i j q) p)(ho:kC l p i j n):1=fG l p i j:=by
 have e:n=l.length:=by omega
 subst e;unfold fG;rw[if_neg (λ⟨m,D,C⟩=>h m D C),if_pos ho]
theorem zRJ{l:List Pt}{p:P2}{i j n:Nat}(hn:¬n<l.length)(hn2:n<=l.length)(h:∀q,q<n->¬onS (vV l i j q) (vS l i j q) p)(ho:¬kC l p i j n):-1=fG l p i j:=by
 have e:n=l.length:=by omega
 subst e;unfold fG;rw[if_neg (λ⟨m,D,C⟩=>h m D C),if_neg ho]
theorem zBD{l:List Pt}{p:P2}{i j n:Nat}(h:∀q,q<n->¬onS (vV l i j q) (vS l i j q) p)(h1:¬onS (vV l i j n) (vS l i j n) p):∀q,q<n+1->¬onS (vV l i j q) (vS l i j q) p:=λq hq=>by
 rcases Nat.lt_succ_iff_lt_or_eq.1 hq with h2|h2
 · exact h q h2
 · subst h2;exact h1
theorem zW4{l:List Pt}{p:P2}{i j n:Nat}(h:(vV l i j n).2<=p.2↔(vS l i j n).2<=p.2):kC l p i j n=kC l p i j (n+1):=by
 have:¬jP (vV l i j n) (vS l i j n) p:=λC=>C.1 h
 show _=(_\/_)
 simp[this]
theorem zW5{l:List Pt}{p:P2}{i j n:Nat}(h:¬((vV l i j n).2<=p.2↔(vS l i j n).2<=p.2))(h1:((vV l i j n).2<=p.2/\0<orZ (vV l i j n) (vS l i j n) p)\/((vS l i j n).2<=p.2/\orZ (vV l i j n) (vS l i j n) p<0)):(¬kC l p i j n)=kC l p i j (n+1):=by
 have:jP (vV l i j n) (vS l i j n) p:=⟨h,h1⟩
 show _=(_\/_)
 simp[this]
theorem zW3{l:List Pt}{p:P2}{i j n:Nat}(h1:¬(((vV l i j n).2<=p.2/\0<orZ (vV l i j n) (vS l i j n) p)\/((vS l i j n).2<=p.2/\orZ (vV l i j n) (vS l i j n) p<0))):kC l p i j n=kC l p i j (n+1):=by
 have:¬jP (vV l i j n) (vS l i j n) p:=λC=>h1 C.2
 show _=(_\/_)
 simp[this]
theorem yHH{a b:Pt}(h:¬xT a.x b.x=0):xT a.x b.x<0↔lx (pr a 0 1) (pr b 0 1):=by
 have h2:=zM8 (a:=a) (b:=b) (i:=0) (j:=1);rw[<-h2];exact⟨.inl,λe=>e.elim id λe=>absurd e.1 h⟩
theorem yHG{a b:Pt}(h:¬¬xT a.x b.x=0):xT a.y b.y<0↔lx (pr a 0 1) (pr b 0 1):=by
 have h1:=Classical.not_not.1 h;have h2:=zM8 (a:=a) (b:=b) (i:=0) (j:=1);rw[<-h2];exact⟨λe=>.inr ⟨h1,e⟩,λe=>e.elim (λe=>absurd h1 (by have:xT a.x b.x<0:=e;omega)) λe=>e.2⟩
theorem zOT(a b:Pt)(i j:Nat):pr (loT a b i j) i j=lo2 (pr a i j) (pr b i j):=zJ1 _ _ _ _
theorem zOU(a b:Pt)(i j:Nat):pr (hiT a b i j) i j=hi2 (pr a i j) (pr b i j):=zJ1 _ _ _ _
theorem yGZ{a b p:Pt}{i j:Nat}:(orZ (pr (loT a b i j) i j) (pr (hiT a b i j) i j) (pr p i j)=0/\¬lx (pr p i j) (pr (loT a b i j) i j)/\¬lx (pr (hiT a b i j) i j) (pr p i j))↔onS (pr a i j) (pr b i j) (pr p i j):=by
 rw[zOT,zOU,<-yBT,fQ,fQ];unfold lo2 hi2
 split
 · rw[eE]
   grind
 · exact Iff.rfl
noncomputable def zGN(a b c d lo hi:Pt):Int:=
 if lx (pr hi 0 1) (pr lo 0 1) then 0 else if ¬pr lo 0 1=pr hi 0 1 then 3
 else if(((pr lo 0 1=pr a 0 1\/pr lo 0 1=pr b 0 1)/\(pr lo 0 1=pr c 0 1\/pr lo 0 1=pr d 0 1))/\onS (pr a 0 1) (pr b 0 1) (pr lo 0 1))/\onS (pr c 0 1) (pr d 0 1) (pr lo 0 1) then 1
 else if onS (pr a 0 1) (pr b 0 1) (pr lo 0 1)/\onS (pr c 0 1) (pr d 0 1) (pr lo 0 1) then 2 else 0
theorem zGM{a b c d lo hi:Pt}(h1:lo=mxT a c 0 1)(h2:hi=mnT b d 0 1):zGN a b c d lo hi=zDX (pr a 0 1) (pr b 0 1) (pr c 0 1) (pr d 0 1):=by
 have D:pr lo 0 1=if lx (pr a 0 1) (pr c 0 1) then pr c 0 1 else pr a 0 1:=by rw[h1];exact zJ1 _ _ _ _
 have C:pr hi 0 1=if lx (pr d 0 1) (pr b 0 1) then pr d 0 1 else pr b 0 1:=by rw[h2];exact zJ1 _ _ _ _
 unfold zGN zDX;rw[D,C];simp only[and_assoc,ne_eq]
noncomputable def j6(a b c d:Pt):Int:=
 if((orZ (pr a 0 1) (pr b 0 1) (pr c 0 1)=0/\orZ (pr a 0 1) (pr b 0 1) (pr d 0 1)=0)/\orZ (pr c 0 1) (pr d 0 1) (pr a 0 1)=0)/\orZ (pr c 0 1) (pr d 0 1) (pr b 0 1)=0 then zDX (pr a 0 1) (pr b 0 1) (pr c 0 1) (pr d 0 1)
 else if pr a 0 1=pr b 0 1\/pr c 0 1=pr d 0 1 then dA (pr a 0 1) (pr b 0 1) (pr c 0 1) (pr d 0 1)
 else if 0<orZ (pr a 0 1) (pr b 0 1) (pr c 0 1)*orZ (pr a 0 1) (pr b 0 1) (pr d 0 1)\/0<orZ (pr c 0 1) (pr d 0 1) (pr a 0 1)*orZ (pr c 0 1) (pr d 0 1) (pr b 0 1) then 0
 else if((pr a 0 1=pr c 0 1\/pr a 0 1=pr d 0 1)\/pr b 0 1=pr c 0 1)\/pr b 0 1=pr d 0 1 then 1 else 2
theorem zAR{a b c d A B C D:Pt}(h1:A=loT (T3.mk a.x a.y 0) (T3.mk b.x b.y 0) 0 1)(h2:B=hiT (T3.mk a.x a.y 0) (T3.mk b.x b.y 0) 0 1)(h3:C=loT (T3.mk c.x c.y 0) (T3.mk d.x d.y 0) 0 1)(h4:D=hiT (T3.mk c.x c.y 0) (T3.mk d.x d.y 0) 0 1):
 j6 A B C D=mX (pr a 0 1) (pr b 0 1) (pr c 0 1) (pr d 0 1):=by
 have M:pr A 0 1=lo2 (pr a 0 1) (pr b 0 1):=by rw[h1];exact zOT _ _ _ _
 have J:pr B 0 1=hi2 (pr a 0 1) (pr b 0 1):=by rw[h2];exact zOU _ _ _ _
 have H:pr C 0 1=lo2 (pr c 0 1) (pr d 0 1):=by rw[h3];exact zOT _ _ _ _
 have G:pr D 0 1=hi2 (pr c 0 1) (pr d 0 1):=by rw[h4];exact zOU _ _ _ _
 unfold j6 mX zJM;rw[M,J,H,G];simp only[and_assoc,or_assoc]
end Bk
namespace Bk
open Classical
noncomputable def zCB(a b:Pt):Pt:=if 0<xT a.y b.y then b else a
noncomputable def zD3(a b:Pt):Pt:=if 0<xT a.y b.y then a else b
theorem zG5(a b p:Pt):((xT (zCB a b).y p.y<=0/\xT p.y (zD3 a b).y<0)/\0<orZ (pr (zCB a b) 0 1) (pr (zD3 a b) 0 1) (pr p 0 1))↔jP (pr a 0 1) (pr b 0 1) (pr p 0 1):=by
 unfold zCB zD3 jP;rw[kA,mO];have H:(pr a 0 1).2=a.y:=I;have G:(pr b 0 1).2=b.y:=I;have D:(pr p 0 1).2=p.y:=I;rw[H,G,D]
 by_cases h:0<xT a.y b.y
 · have h1:=zG9.1 h
   rw[if_pos h,if_pos h,zBC (pr a 0 1) (pr b 0 1)];constructor
   · rintro⟨⟨h2,h3⟩,C⟩
     exact⟨λe=>by grind,.inr ⟨h2,by omega⟩⟩
   · rintro⟨h2,h3|h3⟩
     · exact absurd ⟨λ_=>by grind,λ_=>h3.1⟩ h2
     · exact⟨⟨h3.1,by grind⟩,by omega⟩
 · have h1:¬b.y<a.y:=λe=>h (zG9.2 e)
   rw[if_neg h,if_neg h];constructor
   · rintro⟨⟨h2,h3⟩,C⟩
     exact⟨λe=>by grind,.inl ⟨h2,C⟩⟩
   · rintro⟨h2,h3|h3⟩
     · exact⟨⟨h3.1,by grind⟩,h3.2⟩
     · exact absurd ⟨λ_=>h3.1,λ_=>by grind⟩ h2
theorem yG1{l:List Pt}{p:P2}{i j n:Nat}(h:jP (vV l i j n) (vS l i j n) p):(¬kC l p i j n)=kC l p i j (n+1):=by
 show _=(_\/_)
 simp[h]
theorem yBW{l:List Pt}{p:P2}{i j n:Nat}(h:¬jP (vV l i j n) (vS l i j n) p):kC l p i j n=kC l p i j (n+1):=by
 show _=(_\/_)
 simp[h]
noncomputable def j5(L:List (List Pt))(p:P2)(i j:Nat):Nat->Int
  |0=>-1
  |m+1=>if fG (L.getD m []) p i j=1 then -(j5 L p i j m) else j5 L p i j m
noncomputable def whZ(L:List (List Pt))(p:P2)(i j:Nat):Int:=if ∃m,m<L.length/\fG (L.getD m []) p i j=0 then 0 else j5 L p i j L.length
theorem zAN(L:List (List Pt))(p:P2)(i j:Nat):∀m,-1<=j5 L p i j m/\j5 L p i j m<=1
  |0=>by unfold j5;omega
  |m+1=>by
   have h:=zAN L p i j m;unfold j5
   split<;>omega
theorem zUT{L:List (List Pt)}{p:P2}{i j m:Nat}(h1:¬m<L.length)(h2:m<=L.length)(h:∀q,q<m->¬fG (L.getD q []) p i j=0):j5 L p i j m=whZ L p i j:=by
 have e:m=L.length:=by omega
 subst e;exact(if_neg λ⟨q,C,hz⟩=>h q C hz).symm
theorem zEC{L:List (List Pt)}{p:P2}{i j m:Nat}(h:∀q,q<m->¬fG (L.getD q []) p i j=0)(h1:¬fG (L.getD m []) p i j=0):∀q,q<m+1->¬fG (L.getD q []) p i j=0:=λq hq=>by
 rcases Nat.lt_succ_iff_lt_or_eq.1 hq with h2|h2
 · exact h q h2
 · subst h2;exact h1
theorem zNG{L:List (List Pt)}{n:Nat}(h:∀x,x∈L->x.length<=n)(m:Nat):(L.getD m []).length<=n:=by
 rw[zoa]
 rcases Nat.lt_or_ge m L.length with h1|h1
 · rw[zoc h1]
   exact h _ (List.getElem_mem h1)
 · rw[List.getElem?_eq_none h1]
   exact Nat.zero_le _
def zQ1(R:Nat->Nat->Prop)(n a:Nat):Prop:=∀p q,p<a->p<q->q<n->R p q
def rowTo(R:Nat->Nat->Prop)(a b:Nat):Prop:=∀q,a<q->q<b->R a q
def yLD(l:List Pt)(i j p q:Nat):Prop:=¬pr (gp l p) i j=pr (gp l q) i j
noncomputable def zH4(n p q:Nat):Int:=if q=p+1\/(p=0/\q+1=n) then 1 else 0
def okT(l:List Pt)(i j p q:Nat):Prop:=fZ (vV l i j p) (vS l i j p) (vV l i j q) (vS l i j q)=zH4 l.length p q
def aG(l:List Pt)(i j:Nat):Prop:=3<=l.length/\zQ1 (yLD l i j) l.length l.length/\zQ1 (okT l i j) l.length l.length
theorem yER{n p q:Nat}(h:q=p+1\/(p=0/\q+1=n)):(1:Int)=zH4 n p q:=(if_pos h).symm
theorem yES{n p q:Nat}(h:¬(q=p+1\/(p=0/\q+1=n))):(0:Int)=zH4 n p q:=(if_neg h).symm
def j0(a b:List Pt)(i j p q:Nat):Prop:=1<fZ (vV a i j p) (vS a i j p) (vV b i j q) (vS b i j q)
def gS(a b:List Pt)(i j:Nat):Prop:=∃p q,p<a.length/\q<b.length/\j0 a b i j p q
theorem zV3{Q:Nat->Nat->Prop}{p q n:Nat}(h:∀v,v<q->¬Q p v)(h1:¬Q p q):∀v,v<q+1->¬Q p v:=λv hv=>by
 rcases Nat.lt_succ_iff_lt_or_eq.1 hv with h2|h2
 · exact h v h2
 · subst h2;exact h1
theorem wQ{Q:Nat->Prop}{q:Nat}(h:∀v,v<q->Q v)(h1:Q q):∀v,v<q+1->Q v:=λv hv=>by
 rcases Nat.lt_succ_iff_lt_or_eq.1 hv with h2|h2
 · exact h v h2
 · subst h2;exact h1
theorem zS2{Q:Nat->Nat->Prop}{p q n:Nat}(h:∀u v,u<p->v<n->¬Q u v)(h1:∀v,v<q->¬Q p v)(hq:n<=q):∀u v,u<p+1->v<n->¬Q u v:=λu v hu hv=>by
 rcases Nat.lt_succ_iff_lt_or_eq.1 hu with h2|h2
 · exact h u v h2 hv
 · subst h2;exact h1 v zot
theorem zU0{Q:Nat->Nat->Prop}{p q:Nat}(h:∀u v,v<p->u<v->¬Q u v)(h1:∀u,u<q->¬Q u p)(hq:p<=q):∀u v,v<p+1->u<v->¬Q u v:=λu v hv hu=>by
 rcases Nat.lt_succ_iff_lt_or_eq.1 hv with h2|h2
 · exact h u v h2 hu
 · subst h2;exact h1 u zot
noncomputable def zPV(u v:P2):P2:=(zCW u.1 v.1,zCW u.2 v.2)
noncomputable def pS(c l:List Pt)(i j:Nat):Nat->Int
  |0=>0
  |m+1=>if fG c (zPV (vV l i j m) (vS l i j m)) i j=1 then pS c l i j m+1 else pS c l i j m
theorem mV(c l:List Pt)(i j:Nat):∀m,0<=pS c l i j m/\pS c l i j m<=m
  |0=>by unfold pS;omega
  |m+1=>by
   have h:=mV c l i j m;unfold pS
   split<;>omega
theorem yEN{c l:List Pt}{i j m:Nat}{p:P2}(hp:p=zPV (vV l i j m) (vS l i j m))(h:fG c p i j=1):pS c l i j m+1=pS c l i j (m+1):=by subst hp;exact(if_pos h).symm
theorem yEO{c l:List Pt}{i j m:Nat}{p:P2}(hp:p=zPV (vV l i j m) (vS l i j m))(h:¬fG c p i j=1):pS c l i j m=pS c l i j (m+1):=by subst hp;exact(if_neg h).symm
def arZ(l:List Pt)(i j:Nat):Rat:=uW l i j l.length
noncomputable def wiZ(c l:List Pt)(i j:Nat):Int:=pS c l i j l.length
abbrev gl(L:List (List Pt))(m:Nat):List Pt:=L.getD m []
def yLM(L:List (List Pt))(i j k m:Nat)(best:Int):Prop:=
 (0<yR (arZ (gl L m) i j)/\wiZ (gl L m) (gl L k) i j=↑(gl L k).length)/\(best<0\/xT (arZ (gl L m) i j) (arZ (gl L best.toNat) i j)<0)
noncomputable def tW(L:List (List Pt))(i j k:Nat):Nat->Int
  |0=>-1
  |m+1=>if yLM L i j k m (tW L i j k m) then ↑m else tW L i j k m
theorem zCN(L:List (List Pt))(i j k:Nat):∀m,-1<=tW L i j k m/\tW L i j k m<m
  |0=>by unfold tW;omega
  |m+1=>by
   have h:=zCN L i j k m;unfold tW
   split<;>omega
noncomputable def pZ(L:List (List Pt))(i j k:Nat):Int:=if 0<yR (arZ (gl L k) i j) then -1 else tW L i j k L.length
def zCG(L:List (List Pt))(i j a b:Nat):Prop:=((¬b=a/\0<=pZ L i j a)/\pZ L i j b=pZ L i j a)/\0<wiZ (gl L b) (gl L a) i j
def eM(L:List (List Pt))(i j k:Nat):Prop:=¬0<yR (arZ (gl L k) i j)/\tW L i j k L.length<0
noncomputable def uA(L:List (List Pt))(i j:Nat):Int:=
 if 16<L.length\/∃m,m<L.length/\64<(gl L m).length then 2
 else if ∃m,m<L.length/\¬aG (gl L m) i j then 8
 else if ∃a b,a<b/\b<L.length/\gS (gl L a) (gl L b) i j then 32
 else if(∃k,k<L.length/\eM L i j k)\/∃a b,a<L.length/\b<L.length/\zCG L i j a b then 33 else 0
noncomputable def sJ(L:List (List Pt))(i j:Nat):List Int:=if uA L i j=0 then(List.range L.length).map (pZ L i j) else[]
theorem zKK{L:List (List Pt)}{i j:Nat}(h:16<L.length\/∃m,m<L.length/\64<(gl L m).length):uA L i j=2/\sJ L i j=[]:=by
 have e:uA L i j=2:=if_pos h;exact⟨e,if_neg (by rw[e];decide)⟩
theorem zXL{L:List (List Pt)}{i j:Nat}(h1:¬16<L.length)(h2:∀m,m<L.length->¬64<(gl L m).length)(h:∃m,m<L.length/\¬aG (gl L m) i j):uA L i j=8/\sJ L i j=[]:=by
 have e:uA L i j=8:=by
  unfold uA;rw[if_neg (by rintro(h|⟨m,C,h⟩);exact h1 h;exact h2 m C h),if_pos h]
 exact⟨e,if_neg (by rw[e];decide)⟩
theorem zQ6{L:List (List Pt)}{i j:Nat}(h1:¬16<L.length)(h2:∀m,m<L.length->¬64<(gl L m).length)(h3:∀m,m<L.length->aG (gl L m) i j)(h:∃a b,a<b/\b<L.length/\gS (gl L a) (gl L b) i j):uA L i j=32/\sJ L i j=[]:=by
 have e:uA L i j=32:=by
  unfold uA;rw[if_neg (by rintro(h|⟨m,C,h⟩);exact h1 h;exact h2 m C h),if_neg (by rintro⟨m,C,h⟩;exact h (h3 m C)),if_pos h]
 exact⟨e,if_neg (by rw[e];decide)⟩
theorem zEK{L:List (List Pt)}{i j:Nat}(h1:¬16<L.length)(h2:∀m,m<L.length->¬64<(gl L m).length)(h3:∀m,m<L.length->aG (gl L m) i j)(h4:∀a b,b<L.length->a<b->¬gS (gl L a) (gl L b) i j)
    (h:(∃k,k<L.length/\eM L i j k)\/∃a b,a<L.length/\b<L.length/\zCG L i j a b):uA L i j=33/\sJ L i j=[]:=by
 have e:uA L i j=33:=by
  unfold uA;rw[if_neg (by rintro(h|⟨m,C,h⟩);exact h1 h;exact h2 m C h),if_neg (by rintro⟨m,C,h⟩;exact h (h3 m C)),if_neg (by rintro⟨a,b,G,D,h⟩;exact h4 a b D G h),if_pos h]
 exact⟨e,if_neg (by rw[e];decide)⟩
theorem zX3{O:List Int}{n:Nat}{f:Nat->Int}(hl:O.length=n)(h:∀q,q<n->O.getD q 0=f q):O=(List.range n).map f:=by
 refine List.ext_getElem (by simp[hl]) λq h1 h2=>?_;have h3:=h q zot;rw[zoa,zoc h1] at h3;simp only[Option.getD_some] at h3;simp[h3]
theorem zXM{L:List (List Pt)}{i j:Nat}{O:List Int}(h1:¬16<L.length)(h2:∀m,m<L.length->¬64<(gl L m).length)(h3:∀m,m<L.length->aG (gl L m) i j)(h4:∀a b,b<L.length->a<b->¬gS (gl L a) (gl L b) i j)
    (h5:∀k,k<L.length->¬eM L i j k)(h6:∀a b,a<L.length->b<L.length->¬zCG L i j a b)(hl:O.length=L.length)(hO:∀q,q<L.length->O.getD q 0=pZ L i j q):uA L i j=0/\sJ L i j=O:=by
 have e:uA L i j=0:=by
  unfold uA;rw[if_neg (by rintro(h|⟨m,C,h⟩);exact h1 h;exact h2 m C h),if_neg (by rintro⟨m,C,h⟩;exact h (h3 m C)),if_neg (by rintro⟨a,b,G,D,h⟩;exact h4 a b D G h),
   if_neg (by rintro(⟨k,H,h⟩|⟨a,b,G,D,h⟩);exact h5 k H h;exact h6 a b G D h)]
 exact⟨e,by unfold sJ;rw[if_pos e];exact(zX3 hl hO).symm⟩
end Bk
namespace Bk
open Classical
open Go Go.RowKit
def qI:Rp (List Nat) where
 n:=1
 agg:=false
 R _ cs s:=cs=[.string (qO s)]/\ByB s
 len:=by rintro h cs s ⟨rfl,_⟩;rfl
 mono:=λ_ r=>r
 one:=by rintro h cs s ⟨rfl,_⟩;rfl
 cell:=λ_=>rfl
theorem cY{h:Mem}{s:List Nat}(hb:ByB s):qI.Is h (.string (qO s)) s:=⟨_,⟨rfl,hb⟩,rfl⟩
theorem kL{h:Mem}{v:Value}{s:List Nat}(r:qI.Is h v s):v=.string (qO s)/\ByB s:=by
 obtain⟨cs,⟨rfl,C⟩,rfl⟩:=r;exact⟨I,C⟩
theorem gH{h:Mem}:qI.R h [.string ⟨#[]⟩] []:=⟨rfl,ByB.nil⟩
def lsN:List Nat->List Nat->Prop
  |[],[]=>False
  |[],_::_=>True
  |_::_,[]=>False
  |x::a,y::b=>if x=y then lsN a b else x<y
def rpV:Rp Value where
 n:=1
 agg:=false
 R _ cs v:=cs=[v]/\v.oneCell'=true
 len:=by rintro h cs v ⟨rfl,_⟩;rfl
 mono:=λ_ r=>r
 one:=by rintro h cs v ⟨rfl,hv⟩;simp[hv]
 cell:=λ_=>rfl
theorem oS{h:Mem}{v:Value}(hv:v.oneCell'=true):rpV.Is h v v:=⟨_,⟨rfl,hv⟩,rfl⟩
theorem yKP{h:Mem}{u v:Value}(r:rpV.Is h u v):v=u:=by
 obtain⟨cs,⟨rfl,C⟩,rfl⟩:=r
 rfl
theorem gV{h:Mem}:rpV.R h [.slice none 0 0] (.slice none 0 0):=⟨rfl,rfl⟩
section
variable {α β γ δ:Type}{h:Mem}
theorem zJX{ρ:Rp α}{v:Value}{xs:List α}(r:(rpS ρ).Is h v xs):(rpS ρ).R h [v] xs:=by
 obtain⟨cs,⟨u,ds,rfl,s,C⟩,rfl⟩:=r;exact⟨_,ds,I,s,C⟩
theorem zEV{π:Rp α}{ρ:Rp β}{τ:Rp γ}{cs:List Value}{p:α}{v:Value}{s:γ}{xs:List β}(r:(rpP π (rpP rpV τ)).R h cs (p,(v,s)))(k:(rpS ρ).Is h v xs):(rpP π (rpP (rpS ρ) τ)).R h cs (p,(xs,s)):=by
 obtain⟨a,b,e,G,c,d,H,⟨D,_⟩,C⟩:=r;exact⟨a,b,e,G,c,d,H,by rw[show c=[v] from D];exact zJX k,C⟩
theorem yAF{ρ:Rp β}{τ:Rp γ}{cs:List Value}{v:Value}{s:γ}{xs:List β}(r:(rpP rpV τ).R h cs (v,s))(k:(rpS ρ).Is h v xs):(rpP (rpS ρ) τ).R h cs (xs,s):=by
 obtain⟨c,d,G,⟨D,_⟩,C⟩:=r;exact⟨c,d,G,by rw[show c=[v] from D];exact zJX k,C⟩
end
section
variable {P:Program}{n:Nat}{w0:World}{h0:Mem}{e:List (Nat×Value)}{L:List Res}{h:Mem}
theorem yHX{E k m:Nat}{v:Value}{cs:List Value}{base:Nat}{w:World}(hok:(Res.gs E k v m cs).ok base w):v.oneCell'=true:=by
 obtain⟨_,C⟩:=hok
 rcases C with⟨rfl,_⟩|⟨g,cap,cur,rfl,_⟩<;>rfl
theorem vX{o:Oper}{A B:List Res}{r:Res}{E k m:Nat}{G:List Value->Prop}(hv:zD2 P n w0 h0 o e A r B h (λu r'=>∃cs',r'=.gs E k u m cs'/\G cs')):zD2 P n w0 h0 o e A r B h (λu r'=>u.oneCell'=true/\∃cs',r'=.gs E k u m cs'/\G cs'):=by
 intro a w J S;obtain⟨v,C,r',h1,h2,h3,H,cs',rfl,D⟩:=hv a w J S;exact⟨v,C,_,h1,h2,h3,H,yHX h3,cs',I,D⟩
theorem tX{o:Oper}{R:List Res}{Z:Value}(hv:OpX P n w0 h0 o e R h (λu=>rpV.Is h u Z)):OpX P n w0 h0 o e R h (λu=>Z=u):=by
 obtain⟨v,a,b⟩:=hv;exact⟨v,a,yKP b⟩
end
section
variable {α β:Type}
def uZ(g:Nat->α):Nat->List α
  |0=>[]
  |i+1=>uZ g i++[g i]
def tS(g:Nat->List α):Nat->List α
  |0=>[]
  |i+1=>tS g i++g i
noncomputable def cM(p:Nat->Prop)(g:Nat->α):Nat->List α
  |0=>[]
  |i+1=>cM p g i++(if p i then[g i] else[])
theorem zA2{p:Nat->Prop}{g:Nat->α}{i:Nat}(h:p i):cM p g i++[g i]=cM p g (i+1):=by show _=_++_;rw[if_pos h]
theorem zA3{p:Nat->Prop}{g:Nat->α}{i:Nat}(h:¬p i):cM p g i=cM p g (i+1):=by show _=_++_;rw[if_neg h,List.append_nil]
theorem dF{p:Nat->Prop}{g:Nat->α}:∀n,cM p g n=[]↔∀i,i<n->¬p i
  |0=>⟨λ_ i h=>absurd h (Nat.not_lt_zero i),λ_=>rfl⟩
  |n+1=>by
   show _++_=[]↔_
   rw[List.append_eq_nil_iff,dF n];constructor
   · rintro⟨h1,h2⟩ i hi
     rcases Nat.lt_succ_iff_lt_or_eq.1 hi with h|h
     · exact h1 i h
     · subst h;intro e;rw[if_pos e] at h2;exact absurd h2 zo2
   · intro h
     exact⟨λi hi=>h i zot,if_neg (h n zot)⟩
theorem pX(p:Nat->Prop)(g:Nat->α):∀n,(cM p g n).length<=n
  |0=>Nat.le_refl _
  |n+1=>by
   have:=pX p g n
   show List.length (_++_)<=_
   rw[lAz]
   split<;>simp<;>omega
theorem yY(g:Nat->α):∀n,(uZ g n).length=n
  |0=>rfl
  |n+1=>by show List.length (_++_)=_;rw[lAz,yY g n];rfl
theorem uT(g:Nat->α)(d:α):∀{n i},i<n->(uZ g n).getD i d=g i
  |0,i,h=>absurd h (Nat.not_lt_zero i)
  |n+1,i,h=>by
   show(uZ g n++[g n]).getD i d=_
   rcases Nat.lt_succ_iff_lt_or_eq.1 h with h|h
   · rw[zoa,List.getElem?_append_left (by rw[yY];exact h),<-zoa];exact uT g d h
   · subst h
     rw[zoa,List.getElem?_append_right (by rw[yY];exact Nat.le_refl _),yY,Nat.sub_self];rfl
theorem bV{g g':Nat->α}:∀n,(∀i,i<n->g i=g' i)->uZ g n=uZ g' n
  |0,_=>rfl
  |n+1,h=>by show _++_=_++_;rw[bV n λi hi=>h i zot,h n zot]
theorem zIB{l:List α}(d:α){i:Nat}(h:i<l.length):l.take (i+1)=l.take i++[l.getD i d]:=by
 rw[List.take_succ_eq_append_getElem h,zoa,zoc h];rfl
theorem zNH{L:List (List α)}{n:Nat}(h:∀x,x∈L->x.length<=n)(m:Nat):(L.getD m []).length<=n:=by
 rw[zoa]
 rcases Nat.lt_or_ge m L.length with h1|h1
 · rw[zoc h1];exact h _ (List.getElem_mem h1)
 · rw[List.getElem?_eq_none h1];exact Nat.zero_le _
theorem zRC{g:Nat->α}{x:α}:∀{n},x∈uZ g n->∃i,i<n/\x=g i
  |0,h=>absurd h List.not_mem_nil
  |n+1,h=>by
   rcases List.mem_append.1 (show x∈uZ g n++[g n] from h) with h|h
   · obtain⟨i,hi,e⟩:=zRC h;exact⟨i,by omega,e⟩
   · exact⟨n,by omega,List.mem_singleton.1 h⟩
theorem zG0{g:Nat->List α}{x:α}:∀{n},x∈tS g n->∃i,i<n/\x∈g i
  |0,h=>absurd h List.not_mem_nil
  |n+1,h=>by
   rcases List.mem_append.1 (show x∈tS g n++g n from h) with h|h
   · obtain⟨i,hi,e⟩:=zG0 h;exact⟨i,by omega,e⟩
   · exact⟨n,by omega,h⟩
theorem gC{l:List α}{d:α}{i:Nat}(h:i<l.length):l.getD i d∈l:=by
 rw[zoa,zoc h];exact List.getElem_mem h
noncomputable def aM(p:Nat->Prop):Nat->Nat
  |0=>0
  |k+1=>if p k then aM p k else k+1
theorem zQD{p:Nat->Prop}{k:Nat}(hk:0<k)(h:p (k-1)):aM p k=aM p (k-1):=by
 match k,hk with
 |k+1,_=>exact if_pos h
theorem zHC{p:Nat->Prop}{k:Nat}(h:¬(0<k/\p (k-1))):aM p k=k:=by
 match k with
 |0=>rfl
 |k+1=>exact if_neg λe=>h ⟨by omega,e⟩
theorem zET(p:Nat->Prop):∀k,aM p k<=k
  |0=>Nat.le_refl _
  |k+1=>by
   have:=zET p k;unfold aM
   split<;>omega
def iP(l:List α)(k:Nat)(x:α):List α:=l.take k++x::l.drop k
theorem zGS(l:List α){k:Nat}(x:α)(h:k<=l.length):(iP l k x).length=l.length+1:=by
 unfold iP;rw[lAz,lC,List.length_take,List.length_drop];omega
theorem zS0{n u:Nat}(h:u<n):(List.replicate n False).getD u False↔False:=by
 rw[zoa,List.getElem?_replicate,if_pos h];exact Iff.rfl
end
end Bk
namespace Bk
open Go Go.RowKit
section
variable {P:Program}{n:Nat}{w0:World}{h0:Mem}{e:List (Nat×Value)}{L:List Res}{h:Mem}{Q:Exit->Act->World->Prop}{ds:Option Tmp}{ty:TypeId}{ps:String}{af:Array Edge}{gd:Option (Nat×Bool)}{α:Type}
theorem zO0{ρ:Rp α}{xs:List α}{v:Value}{t E:TypeId}{x hu:Operand}{p:Int}(i:Nat)(ht:P.underlying t=some (.slice E))(hsz:∀w,(Go.sizeOf E).run P w=.ok ρ.n w)(hx:zJ e x=some v)(hl:zJ e hu=some (vI p))(r:(rpS ρ).Is h v xs)
    (hp:p=(i:Int))(hi:i<=xs.length):OpX P n w0 h0 ⟨ds,.slice t x none (some hu) none,ty,ps,af,gd⟩ e [] h (λu=>(rpS ρ).Is h u (xs.take i)):=by
 obtain⟨cs,s,C⟩:=zTE r;refine zWO (λL' h'=>t8 i ht hsz hx hl s.shape hp hi) ?_;have D:=s.sub (Nat.zero_le i) hi;have G:=C.len;rw[Nat.zero_mul,List.drop_zero,Nat.sub_zero] at D;exact yCH (by rw[List.length_take,Nat.min_eq_left hi];exact D) (C.take i)
theorem zRE:∀(a b:List Nat),ByB a->ByB b->(Op.bytesLess (a.map UInt8.ofNat) (b.map UInt8.ofNat)=true↔lsN a b)
  |[],[],_,_=>by simp[Op.bytesLess,lsN]
  |[],y::b,_,_=>by simp[Op.bytesLess,lsN]
  |x::a,[],_,_=>by simp[Op.bytesLess,lsN]
  |x::a,y::b,ha,hb=>by
   have hx:x<256:=ha x (.head _);have hy:y<256:=hb y (.head _);have ih:=zRE a b (λz hz=>ha z (.tail _ hz)) (λz hz=>hb z (.tail _ hz));have e1:(UInt8.ofNat x<UInt8.ofNat y)↔x<y:=by
    rw[UInt8.lt_iff_toNat_lt,UInt8.toNat_ofNat',UInt8.toNat_ofNat',zoh (by simpa using hx),zoh (by simpa using hy)]
   have C:(UInt8.ofNat x=UInt8.ofNat y)↔x=y:=by
    rw[<-UInt8.toNat_inj,UInt8.toNat_ofNat',UInt8.toNat_ofNat',zoh (by simpa using hx),zoh (by simpa using hy)]
   show((decide (UInt8.ofNat x<UInt8.ofNat y)||(UInt8.ofNat x==UInt8.ofNat y&&Op.bytesLess _ _))=true)↔(if x=y then lsN a b else x<y)
   rw[Bool.or_eq_true,Bool.and_eq_true,decide_eq_true_eq,beq_iff_eq,e1,C,ih]
   split
   · rename_i hxy;subst hxy;exact⟨λh=>h.elim (λh=>absurd h (Nat.lt_irrefl _)) λh=>h.2,λh=>.inr ⟨I,h⟩⟩
   · rename_i hxy;exact⟨λh=>h.elim id λh=>absurd h.1 hxy,.inl⟩
theorem zWS{pa pb:List Nat}{t yt:TypeId}{x y:Operand}(ha:ByB pa)(hb:ByB pb)(hx:zJ e x=some (.string (qO pa)))(hy:zJ e y=some (.string (qO pb))):OpV P n w0 h0 ⟨ds,.binOp .lss t x y yt,ty,ps,af,gd⟩ e L h (vB (lsN pa pb)):=by
 have C:Op.bytesLess (qO pa).toList (qO pb).toList=true↔lsN pa pb:=by
  rw[ByteArray.toList_eq,ByteArray.toList_eq];exact zRE pa pb ha hb
 have G:vB (lsN pa pb)=.bool (Op.bytesLess (qO pa).toList (qO pb).toList):=by
  by_cases hp:lsN pa pb
  · rw[xM hp,C.2 hp]
  · rw[yH hp,Bool.eq_false_iff.2 λe=>hp (C.1 e)]
 rw[G];intro a w D S;simp only[execOp,D.eval hx,D.eval hy,binOp];simp[eqGuard,Op.stringOp]
theorem lH{A B:List Res}{E k m:Nat}{v:Value}{cs:List Value}{c:Code}(hm:0<m)(g:∀b cap,v=.slice (some ⟨b,0,none⟩) m cap->m<=cap->GC P n w0 h0 c Q e (A++.gs E k v m cs::B) h):GC P n w0 h0 c Q e (A++.gs E k v m cs::B) h:=by
 intro a w D S;obtain⟨_,C⟩:w.ownsRow w0.heap.size E k v m cs:=S.ok (.gs E k v m cs) zo2
 rcases C with⟨_,h0⟩|⟨b,cap,cur,hv,_,_,hc,_⟩
 · omega
 · exact g b cap hv hc a w D S
theorem kO{fn:Func}{v:Value}{L':List Res}{RO:Mem->Value->List Res->Prop}(hs:L'.Sublist L)(hres:∀{a:Act} {w:World},Env n e a->St w0 h0 L h w->(results fn a.tmps).run P w=.ok v w)(hR:RO h v L'):GQ n w0 h0 (bodyPost P fn (fW w0 h0 RO)) .ret e L h:=by
 intro a w E S;exact bodyPost_ret (hres E S) E.defers ⟨_,h,L',I,hR,S.sublist hs⟩
def sE(xs:List α)(i:Nat):List α:=xs.take (i+1)++(xs.drop i).take (xs.length-i-1)
theorem fL{xs:List α}{i:Nat}(h:i<xs.length):(sE xs i).length=xs.length:=by
 unfold sE;rw[lAz,List.length_take,List.length_take,List.length_drop];omega
theorem zVO{ρ:Rp α}{cs:List Value}{xs:List α}{i:Nat}(hi:i<xs.length)(r:RL ρ h cs xs):RL ρ h (w5 cs ((i+1)*ρ.n) ((cs.drop (i*ρ.n)).take ((xs.length-i-1)*ρ.n))) (sE xs i):=by
 have D:=r.len;have h1:=(r.drop i).take (xs.length-i-1);have h2:=r.take (i+1);have H:xs.length*ρ.n=(i+1)*ρ.n+(xs.length-i-1)*ρ.n:=by rw[<-Nat.add_mul];congr 1;omega
 have G:(i+1)*ρ.n=i*ρ.n+ρ.n:=Nat.succ_mul _ _;have C:((cs.drop (i*ρ.n)).take ((xs.length-i-1)*ρ.n)).length=(xs.length-i-1)*ρ.n:=by rw[List.length_take,List.length_drop];omega
 rw[zFJ _ _ _ zot,C,show cs.drop ((i+1)*ρ.n+(xs.length-i-1)*ρ.n)=[] from List.drop_of_length_le zot,List.append_nil];exact h2.append h1
theorem nZ{l:List α}{z x:α}{k:Nat}(h:k<=l.length):(sE (l++[z]) k).set k x=iP l k x:=by
 unfold sE iP;have G:(l++[z]).length-k-1=l.length-k:=by rw[lAz,List.length_singleton];omega
 have D:((l++[z]).drop k).take (l.length-k)=l.drop k:=by
  rw[List.drop_append_of_le_length h,List.take_append_of_le_length (by rw[List.length_drop];omega),List.take_of_length_le (by rw[List.length_drop];omega)]
 have C:k<(l++[z]).length:=by rw[lAz,List.length_singleton];omega
 rw[G,D,List.take_succ_eq_append_getElem C,List.append_assoc,List.set_append_right _ _ (by rw[List.length_take];omega),List.length_take,show k-min k (l++[z]).length=0 by omega];rw[List.take_append_of_le_length h]
 rfl
theorem mB{A B:List Res}{t E b cap:Nat}{v:Value}{cs:List Value}{x y:Operand}{ρ:Rp α}{xs:List α}(i:Nat)(hv:v=.slice (some ⟨b,0,none⟩) xs.length cap)(hmc:xs.length<=cap)(ht:P.underlying t=some (.slice E))(hsz:∀w,(Go.sizeOf E).run P w=.ok ρ.n w)
    (hx:zJ e x=some (fX ρ.n v (i+1) xs.length))(hy:zJ e y=some (fX ρ.n v i xs.length))(hi:i<xs.length)(r:RL ρ h cs xs):
    zD2 P n w0 h0 ⟨ds,.call {callee:=.builtin .copy,args:=#[x,y],argTypes:=#[t,t]},ty,ps,af,gd⟩ e A (.gs E ρ.n v xs.length cs) B h (λu r'=>∃cs',r'=.gs E ρ.n v (sE xs i).length cs'/\RL ρ h cs' (sE xs i)):=by
 intro a w Z S;have D:w.ownsRow w0.heap.size E ρ.n v xs.length cs:=S.ok (.gs E ρ.n v xs.length cs) zo2;have ae:=D.1;subst hv;have ac:=zVO hi r;have e1:xs.length*ρ.n=(i+1)*ρ.n+(xs.length-i-1)*ρ.n:=by rw[<-Nat.add_mul];congr 1;omega
 have e2:(i+1)*ρ.n=i*ρ.n+ρ.n:=Nat.succ_mul _ _;have J:((cs.drop (i*ρ.n)).take ((xs.length-i-1)*ρ.n)).length=(xs.length-i-1)*ρ.n:=by rw[List.length_take,List.length_drop];omega
 have M:∀j u,((cs.drop (i*ρ.n)).take ((xs.length-i-1)*ρ.n))[j]?=some u->cs[i*ρ.n+j]?=some u:=λj u G=>by
  rw[List.getElem?_take] at G
  split at G
  · rwa [List.getElem?_drop] at G
  · cases G
 have U:∀u∈(cs.drop (i*ρ.n)).take ((xs.length-i-1)*ρ.n),u.oneCell'=true:=λu hu=>zob.1 r.one u (List.mem_of_mem_drop (List.mem_of_mem_take hu));generalize (cs.drop (i*ρ.n)).take ((xs.length-i-1)*ρ.n)=vs at *;obtain⟨h1,h2⟩:=nM vs ((i+1)*ρ.n) cs w D;have ab:=fL (xs:=xs) hi;have C:(loadCells ⟨b,i*ρ.n,none⟩ ((xs.length-i-1)*ρ.n)).run P w=.ok vs.toArray w:=by
  have:=run_loadCells_list (P:=P) (w:=w) ⟨b,i*ρ.n,none⟩ vs λj u G=>by
   have h3:=D.cellAt (i*ρ.n+j) (by have:=(List.getElem?_eq_some_iff.1 (M j u G)).1;omega);rw[M j u G] at h3;rw[show(⟨b,i*ρ.n,none⟩:Addr).add j=⟨b,i*ρ.n+j,none⟩ from jY _ _ _];exact h3
  rwa [J] at this
 have O:=run_storeCells_cells (P:=P) b ((i+1)*ρ.n) vs 0 w (λj G=>by
  have h4:=D.cellAt ((i+1)*ρ.n+j) zot;rw[zoc zot] at h4;simp[h4]) (λj G=>by simpa using D.frozenAt ((i+1)*ρ.n+j)) U
 simp only[Nat.add_zero] at O;refine⟨vI ↑(xs.length-i-1),w.setCells b ((i+1)*ρ.n) vs,.gs E ρ.n (.slice (some ⟨b,0,none⟩) xs.length cap) xs.length (w5 cs ((i+1)*ρ.n) vs),?_,h2,h1,λb' hb=>.inl hb,_,by rw[ab],ac⟩;have H:Nat.min (xs.length-i) (xs.length-(i+1))=xs.length-i-1:=by show min _ _=_;omega
 have ad:¬cap=i:=by omega
 simp only[fX,ad,if_false,Option.map_some] at hx hy;rw[show(⟨b,0,none⟩:Addr).add (i*ρ.n)=⟨b,i*ρ.n,none⟩ by simp[jY]] at hy
 by_cases hc:cap=i+1
 · have hz:xs.length-i-1=0:=by omega
   have aa:vs=[]:=zof (by rw[J,hz,Nat.zero_mul]);subst aa;simp only[hc,if_true] at hx;rw[hz,Nat.zero_mul] at C;simp[execOp,resolve,invoke,builtin,Z.eval hx,Z.eval hy,Builtin.copy_,run_underlying ht,Builtin.lenOf,Builtin.firstCells,hsz,H,hz,C,storeCells,World.setCells,goInt,vI]
 · simp only[hc,if_false] at hx
   rw[show(⟨b,0,none⟩:Addr).add ((i+1)*ρ.n)=⟨b,(i+1)*ρ.n,none⟩ by simp[jY]] at hx;simp[execOp,resolve,invoke,builtin,Z.eval hx,Z.eval hy,Builtin.copy_,run_underlying ht,Builtin.lenOf,Builtin.firstCells,hsz,H,C,O,goInt,vI]
end
end Bk
namespace Bk
open Go Go.RowKit
open Classical
abbrev tII:Rp (List (List Int)):=rpS (rpS rpI)
abbrev tE5:Rp (Int×Int×Int×Int×Int):=rpP rpI (rpP rpI (rpP rpI (rpP rpI rpI)))
abbrev tPt(k:Nat):Rp (T3 Rat):=rpT (rpQ k)
abbrev tLs(k:Nat):Rp (List (T3 Rat)):=rpS (rpT (rpQ k))
abbrev tLL(k:Nat):Rp (List (List (T3 Rat))):=rpS (rpS (rpT (rpQ k)))
abbrev tPl(k l:Nat):Rp (T3 Rat×Rat):=rpP (rpT (rpQ k)) (rpQ l)
abbrev Tq:=T3 Rat
abbrev Pq:=T3 Rat×Rat
abbrev Sq:=List (T3 Rat)×List ((T3 Rat×Rat)×List (List Int)×List Nat)×List (Int×Int×Rat)
abbrev tFc(k l:Nat):Rp ((T3 Rat×Rat)×List (List Int)×List Nat):=rpP (rpP (rpT (rpQ k)) (rpQ l)) (rpP (rpS (rpS rpI)) qI)
abbrev tSd(k m n j:Nat):Rp Sq:=rpP (rpS (rpT (rpQ k))) (rpP (rpS (rpP (rpP (rpT (rpQ m)) (rpQ n)) (rpP (rpS (rpS rpI)) qI))) (rpS (rpP rpI (rpP rpI (rpQ j)))))
abbrev zZ(p:T3 Rat):T3 Rat:=T3.mk p.x p.y (0:Rat)
abbrev pU(PP:List (T3 Rat))(sB:Value)(j:Int):T3 Rat:=((PP,(sB,([]:List (Int×Int×Rat)))).1).getD j.toNat zT
abbrev nU(PP:List (T3 Rat))(sB:Value)(I:List Int)(q:Nat):T3 Rat:=T3.mk ((((PP,(sB,([]:List (Int×Int×Rat)))).1).getD ((I.getD ((q+1)%I.length) 0).toNat) zT).y-(((PP,(sB,([]:List (Int×Int×Rat)))).1).getD ((I.getD q 0).toNat) zT).y) (-((((PP,(sB,([]:List (Int×Int×Rat)))).1).getD ((I.getD ((q+1)%I.length) 0).toNat) zT).x-(((PP,(sB,([]:List (Int×Int×Rat)))).1).getD ((I.getD q 0).toNat) zT).x)) (0:Rat)
abbrev lU(I:List Int)(q:Nat)(BB:List (T3 Rat)):List Int:=[(I.getD q (0:Int)),(I.getD ((q+1)%I.length) (0:Int)),((I.getD ((q+1)%I.length) (0:Int))+(↑BB.length:Int)),((I.getD q (0:Int))+(↑BB.length:Int))]
abbrev e50:Int×Int×Int×Int×Int:=((0:Int),((0:Int),((0:Int),((0:Int),(0:Int)))))
theorem dK{R A B:List Res}{q:Res}(hR:∀r∈R,r∈A++B:=by first|(simp;done)|grind):∀r∈R,r∈A++q::B->r∈A++B:=zUF hR
theorem oM{p:Prop}(f:p:=by omega):p:=f
theorem dC{p:Prop}(f:p:=by decide):p:=f
theorem rP{p:Prop}(f:p:=by first|rfl|(push_cast;rfl)):p:=f
theorem nP{p:Prop}(f:p:=by exact Nat.le_of_ble_eq_true I):p:=f
theorem bO{p:Prop}(f:p:=by first|omega|(simp only[lAz,lC,lN,lR,lS];omega)):p:=f
theorem mle{h h':Mem}(f:MLe h h':=by with_reducible repeat (first|exact MLe.refl _|assumption|refine MLe.trans ?_ zo4)):MLe h h':=f
theorem Rp.Is.up{α:Type}{ρ:Rp α}{h h':Mem}{v:Value}{x:α}(r:ρ.Is h v x)(hm:MLe h h':=by exact mle):ρ.Is h' v x:=r.mono hm
theorem Rp.R.up{α:Type}{ρ:Rp α}{h h':Mem}{cs:List Value}{x:α}(r:ρ.R h cs x)(hm:MLe h h':=by exact mle):ρ.R h' cs x:=Rp.mono ρ hm r
theorem RL.up{α:Type}{ρ:Rp α}{h h':Mem}{cs:List Value}{xs:List α}(r:RL ρ h cs xs)(hm:MLe h h':=by exact mle):RL ρ h' cs xs:=RL.mono hm r
theorem AtP.up{α:Type}{ρ:Rp α}{h h':Mem}{p:Value}{X:α}(r:AtP ρ h p X)(hm:MLe h h':=by exact mle):AtP ρ h' p X:=r.mono hm
theorem Us.up{k:IntKind}{h h':Mem}{v:Value}{xs:List Nat}(r:Us k h v xs)(hm:MLe h h':=by exact mle):Us k h' v xs:=r.mono hm
class Und(P:Program)(t:TypeId) where
 d:TypeDesc
 h:P.underlying t=some d
class Siz(P:Program)(t:TypeId) where
 k:Nat
 h:∀w,(Go.sizeOf t).run P w=.ok k w
class Agg(P:Program)(t:TypeId) where
 b:Bool
 h:∀w,(isAgg t).run P w=.ok b w
class Inf(P:Program)(t:TypeId) where
 k:Nat
 h:(P.info? t).map (·.size)=some k
theorem uu{P:Program}{t:TypeId}{d:TypeDesc}(f:P.underlying t=some d:=by exact Und.h):P.underlying t=some d:=f
theorem uz{P:Program}{t:TypeId}{k:Nat}(f:∀w,(Go.sizeOf t).run P w=.ok k w:=by exact Siz.h):∀w,(Go.sizeOf t).run P w=.ok k w:=f
theorem ua{P:Program}{t:TypeId}{k:Bool}(f:∀w,(isAgg t).run P w=.ok k w:=by exact Agg.h):∀w,(isAgg t).run P w=.ok k w:=f
theorem us_{P:Program}{t:TypeId}{k:Nat}(f:(P.info? t).map (·.size)=some k:=by exact Inf.h):(P.info? t).map (·.size)=some k:=f
section
variable {α β γ:Type}
variable {P:Program}{n:Nat}{w0:World}{h0:Mem}{e:List (Nat×Value)}{L:List Res}{h:Mem}{Q:Exit->Act->World->Prop}
variable {ds:Option Tmp}{ty:TypeId}{ps:String}{af:Array Edge}{gd:Option (Nat×Bool)}
variable {ops:Array Oper}{rest:List Oper}{RR:List Res}{al:Als}{d i:Nat}{op:Op}{v:Value}{r:List (Nat×Kd)}{g t:Nat}{b:Bool}
theorem xV{o:Oper}{R:List Res}{ρ:Rp α}{X Z:α}(hv:OpX P n w0 h0 o e R h (λu=>ρ.Is h u X))(hZ:X=Z:=by first|(dsimp only<;>exact I)|exact I):OpX P n w0 h0 o e R h (λu=>ρ.Is h u Z):=hZ▸hv
theorem mmx{L R:List Res}(f:∀r∈R,r∈L:=by first|exact zBN|exact tQ mh0|exact tQ mh1|exact tQ mh2|exact tQ mh3|exact tQ mh4|exact tQ mh5|exact tQ mh6|exact tQ mh7|exact tQ (.tail _ mh7)|exact tQ (.tail _ (.tail _ mh7))|exact tQ (.tail _ (.tail _ (.tail _ mh7)))):∀r∈R,r∈L:=f
theorem lX{R:List Res}{F:Value->Prop}(hv:OpX P n w0 h0 ⟨some d,op,ty,ps,af,none⟩ e R h F)(k:∀v,F v->GL P n w0 h0 ops Q rest ((d,v)::e) L h)(hR:∀r∈R,r∈L:=by exact mmx)(hn:Nat.ble (d+1) n=true:=by exact I):GL P n w0 h0 ops Q (⟨some d,op,ty,ps,af,none⟩::rest) e L h:=zHW hv hR hn k
theorem wX{R:List Res}{F:Value->Prop}(ho:ops.getD i default=⟨some d,op,ty,ps,af,none⟩)(hv:OpX P n w0 h0 ⟨some d,op,ty,ps,af,none⟩ e R h F)(k:∀v,F v->W P n w0 h0 ops Q RR al r ((d,v)::e) L h)(hR:∀r∈R,r∈RR:=by exact mmx)(hn:Nat.ble (d+1) n=true:=by exact I):W P n w0 h0 ops Q RR al ((i,.q)::r) e L h:=aD ho hv hR hn k
theorem xX{K:List (Nat×Value)->List Res->Mem->Prop}{R:List Res}{F:Value->Prop}(ho:ops.getD i default=⟨some d,op,ty,ps,af,none⟩)(hv:OpX P n w0 h0 ⟨some d,op,ty,ps,af,none⟩ e R h F)(k:∀v,F v->K ((d,v)::e) L h)(hR:∀r∈R,r∈RR:=by exact mmx)(hn:Nat.ble (d+1) n=true:=by exact I):SQ P n w0 h0 ops RR i e L h K:=x_qx ho hv hR hn k
theorem oX{R:List Res}{F:Value->Prop}(ho:ops.getD i default=⟨some d,op,ty,ps,af,some (g,b)⟩)(hv:OpX P n w0 h0 ⟨some d,op,ty,ps,af,none⟩ e R h F)(k:∀v,F v->W P n w0 h0 ops Q RR al r ((d,v)::e) L h)(ht:(ops[g]?).bind (·.dst)=some t:=by exact I)(he:e.lookup t=some (.bool b):=by exact I)(hR:∀r∈R,r∈RR:=by exact mmx)(hn:Nat.ble (d+1) n=true:=by exact I):W P n w0 h0 ops Q RR al ((i,.q)::r) e L h:=lQ ho ht he hv hR hn k
theorem sX{W':List (Nat×Value)->List Res->Mem->Prop}{R:List Res}{F:Value->Prop}(hv:OpX P n w0 h0 ⟨some d,op,ty,ps,af,none⟩ e R h F)(k:∀v,F v->W' ((d,v)::e) L h)(hR:∀r∈R,r∈L:=by exact mmx)(hn:Nat.ble (d+1) n=true:=by exact I):kB P n w0 h0 ops RR ⟨some d,op,ty,ps,af,none⟩ e L h W':=s_x hv hR hn k
theorem xB{t E:TypeId}{x:Operand}{b k off:Nat}{cs:List Value}{ρ:Rp α}{σ:Rp β}{g:α->β}{s:α->β->α}{X:α}{Z:β}(T:TyOk P t σ.n σ.agg)(pc:Pc ρ off σ g s){h1:Mem}(r:ρ.R h1 cs X)(hx:zJ e x=some (vP b k):=by exact I)(ho:k=off:=by exact I)(hZ:g X=Z:=by first|(dsimp only<;>exact I)|exact I)(hm:MLe h1 h:=by exact mle):
 OpX P n w0 h0 ⟨ds,.load t x,ty,ps,af,gd⟩ e [.var b E cs] h (λu=>σ.Is h u Z):=zL9 T pc ho hx (r.up hm) hZ
theorem xA{t:TypeId}{x:Operand}{p:Value}{ρ:Rp α}{X:α}(T:TyOk P t ρ.n ρ.agg){h1:Mem}(r:AtP ρ h1 p X)(hx:zJ e x=some p:=by exact I)(hm:MLe h1 h:=by exact mle):OpX P n w0 h0 ⟨ds,.load t x,ty,ps,af,gd⟩ e [] h (λu=>ρ.Is h u X):=zO1 T hx (r.up hm)
theorem xI{t E:TypeId}{x y:Operand}{q:Int}{v:Value}{ρ:Rp α}{xs:List α}(d:α)(i:Nat)(ht:P.underlying t=some (.slice E))(T:TyOk P E ρ.n ρ.agg){h1:Mem}(r:(rpS ρ).Is h1 v xs)(hx:zJ e x=some v:=by exact I)(hy:zJ e y=some (vI q):=by exact I)(hq:q=(i:Int):=by first|exact rfl|(push_cast;exact I)|omega)(hi:i<xs.length:=by omega)(hp:0<ρ.n:=by exact Nat.le_of_ble_eq_true I)(hm:MLe h1 h:=by exact mle):
 OpX P n w0 h0 ⟨ds,.indexAddr t x y,ty,ps,af,gd⟩ e [] h (λu=>AtP ρ h u (xs.getD i d)):=rI d i ht T hx hy (r.up hm) hq hi hp
theorem xF{t:TypeId}{x:Operand}{f off m:Nat}{fs:Array Field}{fl:Field}{p:Value}{ρ:Rp α}{σ:Rp β}{g:α->β}{s:α->β->α}{X:α}{Z:β}(ht:P.underlying t=some (.struct fs))(hsz:∀w,(Go.sizeOf fl.type).run P w=.ok (m+1) w)(pc:Pc ρ off σ g s){h1:Mem}(r:AtP ρ h1 p X)(hf:fs[f]?=some fl:=by exact I)(ho:fl.offset=off:=by exact I)(hx:zJ e x=some p:=by exact I)(hZ:g X=Z:=by first|(dsimp only<;>exact I)|exact I)(hm:MLe h1 h:=by exact mle):
 OpX P n w0 h0 ⟨ds,.fieldAddr t x f,ty,ps,af,gd⟩ e [] h (λu=>AtP σ h u Z):=zS8 ht hf hsz pc ho hx (r.up hm) hZ
theorem uB{E t:TypeId}{b k off:Nat}{cs:List Value}{v:Value}{x y:Operand}{ρ:Rp α}{σ:Rp β}{g:α->β}{s:α->β->α}{X Z:α}{Y:β}(hsz:∀w,(Go.sizeOf t).run P w=.ok σ.n w)(pc:Pc ρ off σ g s){h1 h2:Mem}(r:ρ.R h1 cs X)(ry:σ.Is h2 v Y)(hx:zJ e x=some (vP b k):=by exact I)(ho:k=off:=by exact I)(hy:zJ e y=some v:=by exact I)(hZ:s X Y=Z:=by first|(dsimp only<;>exact I)|exact I)(hm:MLe h1 h:=by exact mle)(hm2:MLe h2 h:=by exact mle):
 ∃cs',ρ.R h cs' Z/\∀A B,Upd P n w0 h0 ⟨ds,.store t x y,ty,ps,af,gd⟩ e A (.var b E cs) B h (.var b E cs'):=yAJ hsz pc ho hx hy (r.up hm) (ry.up hm2) hZ
theorem pH{ρ:Rp α}:Pc ρ 0 ρ (λx=>x) (λ_ y=>y):=Pc.here ρ
theorem ev1{x:Operand}{v:Value}(hx:zJ e x=some v):cR e [x] [v]:=⟨hx,trivial⟩
theorem ev2{x y:Operand}{v u:Value}(hx:zJ e x=some v)(hy:zJ e y=some u):cR e [x,y] [v,u]:=⟨hx,hy,trivial⟩
theorem ev3{x y z:Operand}{v u s:Value}(hx:zJ e x=some v)(hy:zJ e y=some u)(hz:zJ e z=some s):cR e [x,y,z] [v,u,s]:=⟨hx,hy,hz,trivial⟩
theorem ev4{x y z a:Operand}{v u s c:Value}(hx:zJ e x=some v)(hy:zJ e y=some u)(hz:zJ e z=some s)(ha:zJ e a=some c):cR e [x,y,z,a] [v,u,s,c]:=⟨hx,hy,hz,ha,trivial⟩
theorem cL{f:Nat}{xs:List Operand}{ts:Array TypeId}{vs:List Value}{R:Mem->Value->Prop}(hvs:cR e xs vs)(hcall:∀args w,(callFunc f args).run P w=.ok (.enter f args) w)(hc:∀w,MLe h (mem w)->Calls P f vs.toArray w (Ret w h R))(k:∀v h',MLe h h'->R h' v->GL P n w0 h0 ops Q rest ((d,v)::e) L h')(hn:Nat.ble (d+1) n=true:=by exact I):
 GL P n w0 h0 ops Q (⟨some d,.call {callee:=.value (.func f),args:=xs.toArray,argTypes:=ts},ty,ps,af,none⟩::rest) e L h:=yCM (o:=⟨some d,.call {callee:=.value (.func f),args:=xs.toArray,argTypes:=ts},ty,ps,af,none⟩) rfl rfl rfl hn hcall hvs hc k
theorem sC{W':List (Nat×Value)->List Res->Mem->Prop}{f:Nat}{xs:List Operand}{ts:Array TypeId}{vs:List Value}{R':Mem->Value->Prop}(hvs:cR e xs vs)(hcall:∀args w,(callFunc f args).run P w=.ok (.enter f args) w)(hc:∀w,MLe h (mem w)->Calls P f vs.toArray w (Ret w h R'))(k:∀v h',MLe h h'->R' h' v->W' ((d,v)::e) L h')(hn:Nat.ble (d+1) n=true:=by exact I):
 kB P n w0 h0 ops RR ⟨some d,.call {callee:=.value (.func f),args:=xs.toArray,argTypes:=ts},ty,ps,af,none⟩ e L h W':=yGH hcall hvs hc hn k
theorem nB{E:TypeId}{x:Operand}{v:Value}{ρ:Rp α}{X:α}{h1:Mem}(r:ρ.Is h1 v X)(k:∀b cs,ρ.R h cs X->GL P n w0 h0 ops Q rest ((d,vP b 0)::e) (.var b E cs::L) h)(hx:zJ e x=some v:=by exact I)(hn:Nat.ble (d+1) n=true:=by exact I)(hm:MLe h1 h:=by exact mle):GL P n w0 h0 ops Q (⟨some d,.box E x,ty,ps,af,none⟩::rest) e L h:=
 zG (zXJ hx (r.up hm)) I I hn λv q D=>by obtain⟨b,cs,rfl,rfl,C⟩:=D;exact k b cs C
theorem nA{E:TypeId}{i:TypeInfo}{z:Value}{cs:List Value}{ρ:Rp α}{X:α}(hi:P.info? E=some i)(r:ρ.R h cs X)(k:∀b cs,ρ.R h cs X->GL P n w0 h0 ops Q rest ((d,vP b 0)::e) (.var b E cs::L) h)(hz:i.zero=some z:=by exact I)(hc:z.cells=cs.toArray:=by exact I)(hn:Nat.ble (d+1) n=true:=by exact I):GL P n w0 h0 ops Q (⟨some d,.alloc E,ty,ps,af,none⟩::rest) e L h:=
 zG (zPQ hi hz hc r) I I hn λv q D=>by obtain⟨b,cs,rfl,rfl,C⟩:=D;exact k b cs C
theorem cnd{c:Operand}{x y:Code}{p:Prop}(kt:p->GC P n w0 h0 x Q e L h)(kf:¬p->GC P n w0 h0 y Q e L h)(hc:zJ e c=some (vB p):=by exact I):GC P n w0 h0 (.cond c x y) Q e L h:=yCN hc kt kf
theorem gT{p:Prop}{v:Operand}(hg:p)(hv:zJ e v=some (vB p))(k:GL P n w0 h0 ops Q rest ((d,.bool true)::e) L h)(hn:Nat.ble (d+1) n=true:=by exact I):GL P n w0 h0 ops Q (⟨some d,.move v,ty,ps,af,none⟩::rest) e L h:=oV (yZ (hv.trans (congrArg some (xM hg)))) I I hn k
theorem gF{p:Prop}{v:Operand}(hg:¬p)(hv:zJ e v=some (vB p))(k:GL P n w0 h0 ops Q rest ((d,.bool false)::e) L h)(hn:Nat.ble (d+1) n=true:=by exact I):GL P n w0 h0 ops Q (⟨some d,.move v,ty,ps,af,none⟩::rest) e L h:=oV (yZ (hv.trans (congrArg some (yH hg)))) I I hn k
theorem gU{l:List Oper}(j t:Nat)(v:Value)(kx:GL P n w0 h0 ops (Exit.then (λa w=>∃i:Unit,True/\Env n ((t,v)::e) a/\St w0 h0 L h w) Q) (l.take j) e L h)(ky:GL P n w0 h0 ops Q (l.drop j) ((t,v)::e) L h):GL P n w0 h0 ops Q l e L h:=qB j (λ_=>True) (λ_=>(t,v)::e) (λ_=>L) (λ_=>h) kx λ_ _=>ky
@[reducible] def zUQ:List Nat->List (Nat×Value)->List (Nat×Value)->Prop
  |_,[],_=>True
  |s,(t,v)::r,e=>(if s.contains t then True else e.lookup t=some v)/\zUQ (t::s) r e
theorem zUQ.look{e:List (Nat×Value)}:∀{e0:List (Nat×Value)} {s:List Nat},zUQ s e0 e->∀t v,s.contains t=false->e0.lookup t=some v->e.lookup t=some v
  |[],_,_,t,v,_,h=>by simp at h
  |(k,u)::r,s,hs,t,v,hn,h=>by
   simp only[List.lookup_cons] at h
   by_cases ht:t=k
   · subst ht
     simp at h;subst h;have:=hs.1
     rwa [if_neg (by rw[hn];simp)] at this
   · have h1:(t==k)=false:=by simpa using ht
     rw[h1] at h;refine zUQ.look hs.2 t v ?_ h;rw[List.contains_cons,h1,hn];rfl
theorem Env.subS{e0:List (Nat×Value)}{a:Act}(E:Env n e a)(h:zUQ [] e0 e):Env n e0 a:=⟨E.defers,E.size,λt v ht=>E.get t v (h.look t v rfl ht)⟩
theorem gqU{e0:List (Nat×Value)}{t:Nat}{v:Value}(hv:e.lookup t=some v)(hs:zUQ [t] e0 e:=by repeat (first|exact trivial|refine⟨by first|exact rfl|exact trivial,?_⟩)):GQ n w0 h0 (Exit.then (λa w=>∃i:Unit,True/\Env n ((t,v)::e0) a/\St w0 h0 L h w) Q) .normal e L h:=λa w E S=>⟨(),trivial,E.subS ⟨hv,hs⟩,S⟩
theorem gcL{ι:Type}{c:Code}{A:Prop}(S:ι->Prop×List (Nat×Value)×List Res×Mem×Nat)(i0:ι)(hi0:A)(round:∀i,(S i).1->GC P n w0 h0 c (Exit.then (λa w=>∃j,((S j).1/\(S j).2.2.2.2<(S i).2.2.2.2)/\Env n (S j).2.1 a/\St w0 h0 (S j).2.2.1 (S j).2.2.2.1 w) Q) (S i).2.1 (S i).2.2.1 (S i).2.2.2.1)
    (hA:(S i0).1=A:=by first|(dsimp only<;>exact I)|exact I)(he:Sub (S i0).2.1 e:=by repeat (first|exact trivial|refine⟨I,?_⟩))(hL:(S i0).2.2.1=L:=by exact I)(hh:(S i0).2.2.2.1=h:=by exact I):GC P n w0 h0 (.loop c) Q e L h:=
 gG (λi=>(S i).1) (λi=>(S i).2.1) (λi=>(S i).2.2.1) (λi=>(S i).2.2.2.1) (λi=>(S i).2.2.2.2) i0 (hA▸hi0) he hL hh round
theorem gqL{ι:Type}{A:Prop}{B M m:Nat}{S:ι->Prop×List (Nat×Value)×List Res×Mem×Nat}(i:ι)(hi:A)(hm:B<M)(hA:(S i).1=A:=by first|(dsimp only<;>exact I)|exact I)(hB:(S i).2.2.2.2=B:=by first|(dsimp only<;>exact I)|exact I)(hM:m=M:=by first|(dsimp only<;>exact I)|exact I)(he:Sub (S i).2.1 e:=by repeat (first|exact trivial|refine⟨I,?_⟩))(hL:(S i).2.2.1=L:=by exact I)(hh:(S i).2.2.2.1=h:=by exact I):
 GQ n w0 h0 (Exit.then (λa w=>∃j,((S j).1/\(S j).2.2.2.2<m)/\Env n (S j).2.1 a/\St w0 h0 (S j).2.2.1 (S j).2.2.2.1 w) Q) .normal e L h:=
 jW (inv:=λi=>(S i).1) (ev:=λi=>(S i).2.1) (Lv:=λi=>(S i).2.2.1) (hv:=λi=>(S i).2.2.2.1) (μ:=λi=>(S i).2.2.2.2) i (hA▸hi) (by rw[hM];exact hB▸hm) he hL hh
theorem cb0{f:FuncId}{fn:Func}{c:Code}{R:Ending->World->Prop}(n:Nat)(hf:P.funcs[f]?=some fn)(hs:MLe h0 (mem w0))(k:GC P n w0 h0 c (bodyPost P fn R) [] [] h0)(hb:fn.body=some c:=by exact I)(hn:fn.ntmps=n:=by exact I)(hl:([]:List Value).length<=n:=by exact Nat.le_of_ble_eq_true I):Calls P f #[] w0 R:=jO (e:=[]) (vs:=[]) hf hb hn hl hs trivial k
theorem cb1{f:FuncId}{fn:Func}{c:Code}{R:Ending->World->Prop}(n:Nat)(v:Value)(hf:P.funcs[f]?=some fn)(hs:MLe h0 (mem w0))(k:GC P n w0 h0 c (bodyPost P fn R) [(0,v)] [] h0)(hb:fn.body=some c:=by exact I)(hn:fn.ntmps=n:=by exact I)(hl:[v].length<=n:=by exact Nat.le_of_ble_eq_true I):Calls P f #[v] w0 R:=jO (e:=[(0,v)]) (vs:=[v]) hf hb hn hl hs ⟨I,trivial⟩ k
theorem cb2{f:FuncId}{fn:Func}{c:Code}{R:Ending->World->Prop}(n:Nat)(v u:Value)(hf:P.funcs[f]?=some fn)(hs:MLe h0 (mem w0))(k:GC P n w0 h0 c (bodyPost P fn R) [(0,v),(1,u)] [] h0)(hb:fn.body=some c:=by exact I)(hn:fn.ntmps=n:=by exact I)(hl:[v,u].length<=n:=by exact Nat.le_of_ble_eq_true I):Calls P f #[v,u] w0 R:=jO (e:=[(0,v),(1,u)]) (vs:=[v,u]) hf hb hn hl hs e2z k
theorem cb3{f:FuncId}{fn:Func}{c:Code}{R:Ending->World->Prop}(n:Nat)(v u s:Value)(hf:P.funcs[f]?=some fn)(hs:MLe h0 (mem w0))(k:GC P n w0 h0 c (bodyPost P fn R) [(0,v),(1,u),(2,s)] [] h0)(hb:fn.body=some c:=by exact I)(hn:fn.ntmps=n:=by exact I)(hl:[v,u,s].length<=n:=by exact Nat.le_of_ble_eq_true I):Calls P f #[v,u,s] w0 R:=jO (e:=[(0,v),(1,u),(2,s)]) (vs:=[v,u,s]) hf hb hn hl hs e3z k
def qq(a:Nat):Nat->List (Nat×Kd)->List (Nat×Kd)
  |0,r=>r
  |n+1,r=>(a,.q)::qq (a+1) n r
def frz(m:Nat)(l:List Nat):List Nat:=l.map (m-·)
theorem yW{c:Code}{e':List (Nat×Value)}{L':List Res}{h':Mem}(k:GC P n w0 h0 c Q e' L' h')(he:e=e':=by first|(dsimp only<;>exact I)|exact I)(hL:L=L':=by first|(dsimp only<;>exact I)|exact I)(hh:h=h':=by first|(dsimp only<;>exact I)|exact I):GC P n w0 h0 c Q e L h:=by subst he hL hh;exact k
theorem tY{l:List Oper}{e':List (Nat×Value)}{L':List Res}{h':Mem}(k:GL P n w0 h0 ops Q l e' L' h')(he:e=e':=by first|(dsimp only<;>exact I)|exact I)(hL:L=L':=by first|(dsimp only<;>exact I)|exact I)(hh:h=h':=by first|(dsimp only<;>exact I)|exact I):GL P n w0 h0 ops Q l e L h:=by subst he hL hh;exact k
end
end Bk
namespace Bk
open Go Go.RowKit
def frc(x:Nat)(f:Nat->Bool):Bool:=match x with|0=>f 0|n+1=>f (n+1)
theorem yH1(x:Nat)(f:Nat->Bool):frc x f=f x:=by cases x<;>rfl
def yCO:List Nat->(List Nat->Bool)->Bool
  |[],f=>f []
  |x::r,f=>frc x λy=>yCO r λys=>f (y::ys)
theorem zRO:∀(l:List Nat) (f:List Nat->Bool),yCO l f=f l
  |[],f=>rfl
  |x::r,f=>by show frc x _=_;rw[yH1,zRO r]
def zR7(l:List Oper)(m:Nat)(al:Als)(ord:List (Nat×Kd)):Bool:=
 Region.noSelect l.toArray&&cJ l.toArray al&&(al.all λx=>decide (x.1<m))&&(l.all λo=>o.after.all λe=>decide (e.on<l.length))&&(yCO (l.map zCA) λams=>yCO ((List.range l.length).map (zNJ l.toArray ams)) λfrs=>mQ l.toArray l.length m ams frs ord 0 (al.map (·.1)))
theorem wJ{l:List Oper}{m:Nat}{al:Als}{ord:List (Nat×Kd)}(h:zR7 l m al ord=true):
 (Region.noSelect l.toArray&&cJ l.toArray al&&(al.all λx=>decide (x.1<m))&&chk l.toArray m ord (Array.replicate l.length false) (al.map (·.1)))=true:=by
 refine yIT (l.map zCA) ((List.range l.length).map (zNJ l.toArray (l.map zCA))) ?_;simp only[zR7,Bool.and_eq_true,zRO] at h;simp only[zQC,Bool.and_eq_true];exact⟨⟨h.1,by simp[eP]⟩,h.2⟩
end Bk
namespace Go.Proofs.YtpkaegemlpaenaaGreat
open Bk Go Tryz
instance:Und Tryz.prog 2:=⟨_,underlying2⟩
instance:Und Tryz.prog 3:=⟨_,underlying3⟩
instance:Und Tryz.prog 4:=⟨_,underlying4⟩
instance:Und Tryz.prog 5:=⟨_,underlying5⟩
instance:Und Tryz.prog 9:=⟨_,underlying9⟩
instance:Und Tryz.prog 22:=⟨_,underlying22⟩
instance:Und Tryz.prog 25:=⟨_,underlying25⟩
instance:Und Tryz.prog 27:=⟨_,underlying27⟩
instance:Und Tryz.prog 28:=⟨_,underlying28⟩
instance:Und Tryz.prog 29:=⟨_,underlying29⟩
instance:Und Tryz.prog 30:=⟨_,underlying30⟩
instance:Und Tryz.prog 31:=⟨_,underlying31⟩
instance:Und Tryz.prog 35:=⟨_,underlying35⟩
instance:Und Tryz.prog 36:=⟨_,underlying36⟩
instance:Und Tryz.prog 37:=⟨_,underlying37⟩
instance:Und Tryz.prog 38:=⟨_,underlying38⟩
instance:Und Tryz.prog 39:=⟨_,underlying39⟩
instance:Und Tryz.prog 40:=⟨_,underlying40⟩
instance:Und Tryz.prog 49:=⟨_,underlying49⟩
instance:Und Tryz.prog 50:=⟨_,underlying50⟩
instance:Und Tryz.prog 51:=⟨_,underlying51⟩
instance:Und Tryz.prog 52:=⟨_,underlying52⟩
instance:Und Tryz.prog 53:=⟨_,underlying53⟩
instance:Und Tryz.prog 56:=⟨_,underlying56⟩
instance:Und Tryz.prog 57:=⟨_,underlying57⟩
instance:Und Tryz.prog 58:=⟨_,underlying58⟩
instance:Und Tryz.prog 71:=⟨_,underlying71⟩
instance:Und Tryz.prog 72:=⟨_,underlying72⟩
instance:Und Tryz.prog 74:=⟨_,underlying74⟩
instance:Und Tryz.prog 76:=⟨_,underlying76⟩
instance:Und Tryz.prog 96:=⟨_,underlying96⟩
instance:Und Tryz.prog 97:=⟨_,underlying97⟩
instance:Und Tryz.prog 98:=⟨_,underlying98⟩
instance:Und Tryz.prog 99:=⟨_,underlying99⟩
instance:Und Tryz.prog 110:=⟨_,underlying110⟩
instance:Und Tryz.prog 117:=⟨_,underlying117⟩
instance:Und Tryz.prog 118:=⟨_,underlying118⟩
instance:Und Tryz.prog 124:=⟨_,underlying124⟩
instance:Und Tryz.prog 125:=⟨_,underlying125⟩
instance:Und Tryz.prog 133:=⟨_,underlying133⟩
instance:Und Tryz.prog 138:=⟨_,underlying138⟩
instance:Und Tryz.prog 139:=⟨_,underlying139⟩
instance:Und Tryz.prog 140:=⟨_,underlying140⟩
instance:Und Tryz.prog 150:=⟨_,underlying150⟩
instance:Und Tryz.prog 151:=⟨_,underlying151⟩
instance:Und Tryz.prog 152:=⟨_,underlying152⟩
instance:Und Tryz.prog 153:=⟨_,underlying153⟩
instance:Und Tryz.prog 162:=⟨_,underlying162⟩
instance:Und Tryz.prog 163:=⟨_,underlying163⟩
instance:Und Tryz.prog 165:=⟨_,underlying165⟩
instance:Und Tryz.prog 167:=⟨_,underlying167⟩
instance:Und Tryz.prog 168:=⟨_,underlying168⟩
instance:Und Tryz.prog 199:=⟨_,underlying199⟩
instance:Und Tryz.prog 200:=⟨_,underlying200⟩
instance:Und Tryz.prog 215:=⟨_,underlying215⟩
instance:Und Tryz.prog 236:=⟨_,underlying236⟩
instance:Und Tryz.prog 237:=⟨_,underlying237⟩
instance:Siz Tryz.prog 2:=⟨_,sizeOf2⟩
instance:Siz Tryz.prog 3:=⟨_,sizeOf3⟩
instance:Siz Tryz.prog 4:=⟨_,sizeOf4⟩
instance:Siz Tryz.prog 5:=⟨_,sizeOf5⟩
instance:Siz Tryz.prog 9:=⟨_,sizeOf9⟩
instance:Siz Tryz.prog 22:=⟨_,sizeOf22⟩
instance:Siz Tryz.prog 27:=⟨_,sizeOf27⟩
instance:Siz Tryz.prog 29:=⟨_,sizeOf29⟩
instance:Siz Tryz.prog 31:=⟨_,sizeOf31⟩
instance:Siz Tryz.prog 35:=⟨_,sizeOf35⟩
instance:Siz Tryz.prog 36:=⟨_,sizeOf36⟩
instance:Siz Tryz.prog 37:=⟨_,sizeOf37⟩
instance:Siz Tryz.prog 39:=⟨_,sizeOf39⟩
instance:Siz Tryz.prog 50:=⟨_,sizeOf50⟩
instance:Siz Tryz.prog 51:=⟨_,sizeOf51⟩
instance:Siz Tryz.prog 53:=⟨_,sizeOf53⟩
instance:Siz Tryz.prog 56:=⟨_,sizeOf56⟩
instance:Siz Tryz.prog 58:=⟨_,sizeOf58⟩
instance:Siz Tryz.prog 76:=⟨_,sizeOf76⟩
instance:Siz Tryz.prog 96:=⟨_,sizeOf96⟩
instance:Siz Tryz.prog 97:=⟨_,sizeOf97⟩
instance:Siz Tryz.prog 99:=⟨_,sizeOf99⟩
instance:Siz Tryz.prog 118:=⟨_,sizeOf118⟩
instance:Siz Tryz.prog 124:=⟨_,sizeOf124⟩
instance:Siz Tryz.prog 140:=⟨_,sizeOf140⟩
instance:Siz Tryz.prog 151:=⟨_,sizeOf151⟩
instance:Siz Tryz.prog 153:=⟨_,sizeOf153⟩
instance:Siz Tryz.prog 168:=⟨_,sizeOf168⟩
instance:Siz Tryz.prog 200:=⟨_,sizeOf200⟩
instance:Agg Tryz.prog 2:=⟨_,isAgg2⟩
instance:Agg Tryz.prog 3:=⟨_,isAgg3⟩
instance:Agg Tryz.prog 4:=⟨_,isAgg4⟩
instance:Agg Tryz.prog 5:=⟨_,isAgg5⟩
instance:Agg Tryz.prog 9:=⟨_,isAgg9⟩
instance:Agg Tryz.prog 22:=⟨_,isAgg22⟩
instance:Agg Tryz.prog 27:=⟨_,isAgg27⟩
instance:Agg Tryz.prog 29:=⟨_,isAgg29⟩
instance:Agg Tryz.prog 31:=⟨_,isAgg31⟩
instance:Agg Tryz.prog 35:=⟨_,isAgg35⟩
instance:Agg Tryz.prog 36:=⟨_,isAgg36⟩
instance:Agg Tryz.prog 37:=⟨_,isAgg37⟩
instance:Agg Tryz.prog 39:=⟨_,isAgg39⟩
instance:Agg Tryz.prog 50:=⟨_,isAgg50⟩
instance:Agg Tryz.prog 51:=⟨_,isAgg51⟩
instance:Agg Tryz.prog 53:=⟨_,isAgg53⟩
instance:Agg Tryz.prog 56:=⟨_,isAgg56⟩
instance:Agg Tryz.prog 58:=⟨_,isAgg58⟩
instance:Agg Tryz.prog 76:=⟨_,isAgg76⟩
instance:Agg Tryz.prog 96:=⟨_,isAgg96⟩
instance:Agg Tryz.prog 97:=⟨_,isAgg97⟩
instance:Agg Tryz.prog 99:=⟨_,isAgg99⟩
instance:Agg Tryz.prog 118:=⟨_,isAgg118⟩
instance:Agg Tryz.prog 124:=⟨_,isAgg124⟩
instance:Agg Tryz.prog 140:=⟨_,isAgg140⟩
instance:Agg Tryz.prog 151:=⟨_,isAgg151⟩
instance:Agg Tryz.prog 153:=⟨_,isAgg153⟩
instance:Agg Tryz.prog 200:=⟨_,isAgg200⟩
instance:Inf Tryz.prog 2:=⟨_,yJ9⟩
instance:Inf Tryz.prog 3:=⟨_,yDN⟩
instance:Inf Tryz.prog 4:=⟨_,zVJ⟩
instance:Inf Tryz.prog 5:=⟨_,yJ8⟩
instance:Inf Tryz.prog 9:=⟨_,yJ7⟩
instance:Inf Tryz.prog 22:=⟨_,yF8⟩
instance:Inf Tryz.prog 27:=⟨_,zVK⟩
instance:Inf Tryz.prog 29:=⟨_,yF⟩
instance:Inf Tryz.prog 31:=⟨_,yF7⟩
instance:Inf Tryz.prog 35:=⟨_,yF6⟩
instance:Inf Tryz.prog 36:=⟨_,yF5⟩
instance:Inf Tryz.prog 37:=⟨_,yF4⟩
instance:Inf Tryz.prog 39:=⟨_,yF3⟩
instance:Inf Tryz.prog 50:=⟨_,yF2⟩
instance:Inf Tryz.prog 51:=⟨_,yF1⟩
instance:Inf Tryz.prog 53:=⟨_,yF0⟩
instance:Inf Tryz.prog 56:=⟨_,yFZ⟩
instance:Inf Tryz.prog 58:=⟨_,yFY⟩
instance:Inf Tryz.prog 72:=⟨_,yFX⟩
instance:Inf Tryz.prog 76:=⟨_,yFW⟩
instance:Inf Tryz.prog 96:=⟨_,yFV⟩
instance:Inf Tryz.prog 97:=⟨_,yFU⟩
instance:Inf Tryz.prog 99:=⟨_,yFT⟩
instance:Inf Tryz.prog 118:=⟨_,yA5⟩
instance:Inf Tryz.prog 124:=⟨_,yA4⟩
instance:Inf Tryz.prog 140:=⟨_,yA3⟩
instance:Inf Tryz.prog 151:=⟨_,yA2⟩
instance:Inf Tryz.prog 153:=⟨_,yA1⟩
instance:Inf Tryz.prog 168:=⟨_,yA0⟩
instance:Inf Tryz.prog 200:=⟨_,yAZ⟩
theorem zO5{P:Program}{n:Nat}{w0:World}{h0 h:Mem}{e:List (Nat×Value)}{L:List Res}{ds:Option Tmp}{ty:TypeId}{ps:String}{af:Array Edge}{gd:Option (Nat×Bool)}{t:TypeId}{x:Operand}{b k:Nat}{E:TypeId}{cs:List Value}{u v s:Value}{d:TypeDesc}(hm:.var b E cs∈L)(hu:P.underlying t=some d)(hd:d.isRow=true)(hi:(P.info? t).map (·.size)=some 3)(hx:zJ e x=some (vP b k))(hv:(cs.drop k).take 3=[u,v,s]):OpV P n w0 h0 ⟨ds,.load t x,ty,ps,af,gd⟩ e L h (.agg #[u,v,s]):=zMC (vs:=[u,v,s]) hm hu hd hi hx hv
theorem ov{P:Program}{n:Nat}{w0:World}{h0 h:Mem}{o:Oper}{e:List (Nat×Value)}{L:List Res}{v:Value}(f:OpV P n w0 h0 o e L h v:=by first|exact yJ I rfl|exact mH I rfl|exact rJ I rfl|exact zFS I rfl|exact bS I rfl|exact bR I rfl|exact zR I I zot zot|exact jD I I zot zot|exact vH uu I (by with_reducible first|assumption|exact Us.up zo4)|exact uY uu I (by with_reducible first|assumption|exact Rp.Is.up zo4)|exact gY (vs:=[_,_]) I rfl|exact gY (vs:=[_,_,_]) I rfl|exact cT I rfl|exact(xU uu (by simp only[List.getElem?_toArray,List.getElem?_cons_succ,List.getElem?_cons_zero]<;>exact I) uz I).cv (congrArg (vP _) zoz)|exact(yG 0 uu uz I I I zow).cv (congrArg (vP _) zoz)|exact(yG 1 uu uz I I I zow).cv (congrArg (vP _) zoz)|exact(yG 2 uu uz I I I zow).cv (congrArg (vP _) zoz)|exact zO5 (by first|exact mh0|exact mh1|exact mh2|exact mh3|exact mh4|exact mh5) uu (by exact I) us_ I rfl|exact cV I rfl|exact zO2 rfl|exact fP I rfl|exact tN I rfl|exact zFP I rfl|exact cA I rfl|exact mG I rfl|exact iG (by first|exact mh0|exact mh1|exact mh2|exact mh3|exact mh4|exact mh5) ua I rfl|exact tF (k:=.u64) (k':=.u32) (W:=4294967296) uu uu I I rfl|exact vJ (k:=.u32) (k':=.u64) (W:=18446744073709551616) uu uu I I I zot|exact sG (k:=.u64) (W:=18446744073709551616) I I I I zot|exact iF (k:=.u64) (W:=18446744073709551616) I I I I zot|exact fN (k:=.u64) (s:=32) (yk:=.u64) I I I (by simp only[ub];omega)|exact xY ua I (by with_reducible first|assumption|exact Us.up zo4) zot):OpV P n w0 h0 o e L h v:=f
theorem ovq{P:Program}{n:Nat}{w0:World}{h0 h:Mem}{o:Oper}{e:List (Nat×Value)}{v:Value}(f:∀h' L',OpV P n w0 h0 o e L' h' v:=by intro h' L';first|exact yJ I rfl|exact mH I rfl|exact rJ I rfl|exact zFS I rfl|exact bS I rfl|exact bR I rfl|exact zR I I zot zot|exact jD I I zot zot|exact vH uu I (by with_reducible first|assumption|exact Us.up zo4)|exact uY uu I (by with_reducible first|assumption|exact Rp.Is.up zo4)|exact gY (vs:=[_,_]) I rfl|exact gY (vs:=[_,_,_]) I rfl|exact cT I rfl|exact(xU uu (by simp only[List.getElem?_toArray,List.getElem?_cons_succ,List.getElem?_cons_zero]<;>exact I) uz I).cv (congrArg (vP _) zoz)|exact(yG 0 uu uz I I I zow).cv (congrArg (vP _) zoz)|exact(yG 1 uu uz I I I zow).cv (congrArg (vP _) zoz)|exact(yG 2 uu uz I I I zow).cv (congrArg (vP _) zoz)|exact zO5 (by first|exact mh0|exact mh1|exact mh2|exact mh3|exact mh4|exact mh5) uu (by exact I) us_ I rfl|exact cV I rfl|exact zO2 rfl|exact fP I rfl|exact tN I rfl|exact zFP I rfl|exact cA I rfl|exact mG I rfl|exact iG (by first|exact mh0|exact mh1|exact mh2|exact mh3|exact mh4|exact mh5) ua I rfl|exact tF (k:=.u64) (k':=.u32) (W:=4294967296) uu uu I I rfl|exact vJ (k:=.u32) (k':=.u64) (W:=18446744073709551616) uu uu I I I zot|exact sG (k:=.u64) (W:=18446744073709551616) I I I I zot|exact iF (k:=.u64) (W:=18446744073709551616) I I I I zot|exact fN (k:=.u64) (s:=32) (yk:=.u64) I I I (by simp only[ub];omega)|exact xY ua I (by with_reducible first|assumption|exact Us.up zo4) zot):∀h' L',OpV P n w0 h0 o e L' h' v:=f
theorem yBF{α:Type}{ρ:Rp α}{h h':Mem}{v:Value}{x:α}(r:ρ.Is h v x)(hh:MLe h h'):ρ.Is h' v x:=r.mono hh
theorem ovm{P:Program}{n:Nat}{w0:World}{h0 h:Mem}{o:Oper}{e:List (Nat×Value)}{R:List Res}{v:Value}(f:∀h' L',MLe h h'->(∀r∈R,r∈L')->OpV P n w0 h0 o e L' h' v:=by intro h' L' hh hR;first|exact yJ I rfl|exact mH I rfl|exact rJ I rfl|exact zFS I rfl|exact bS I rfl|exact bR I rfl|exact zR I I zot zot|exact jD I I zot zot|exact vH uu I (Us.mono (by with_reducible first|assumption|exact Us.up zo4) hh)|exact uY uu I (yBF (by with_reducible first|assumption|exact Rp.Is.up zo4) hh)|exact gY (vs:=[_,_]) I rfl|exact gY (vs:=[_,_,_]) I rfl|exact cT I rfl|exact(xU uu (by simp only[List.getElem?_toArray,List.getElem?_cons_succ,List.getElem?_cons_zero]<;>exact I) uz I).cv (congrArg (vP _) zoz)|exact(yG 0 uu uz I I I zow).cv (congrArg (vP _) zoz)|exact(yG 1 uu uz I I I zow).cv (congrArg (vP _) zoz)|exact(yG 2 uu uz I I I zow).cv (congrArg (vP _) zoz)|exact zO5 (hR _ (by first|exact mh0|exact mh1|exact mh2|exact mh3|exact mh4|exact mh5)) uu (by exact I) us_ I rfl|exact cV I rfl|exact zO2 rfl|exact fP I rfl|exact tN I rfl|exact zFP I rfl|exact cA I rfl|exact mG I rfl|exact iG (hR _ (by first|exact mh0|exact mh1|exact mh2|exact mh3|exact mh4|exact mh5)) ua I rfl|exact tF (k:=.u64) (k':=.u32) (W:=4294967296) uu uu I I rfl|exact vJ (k:=.u32) (k':=.u64) (W:=18446744073709551616) uu uu I I I zot|exact sG (k:=.u64) (W:=18446744073709551616) I I I I zot|exact iF (k:=.u64) (W:=18446744073709551616) I I I I zot|exact fN (k:=.u64) (s:=32) (yk:=.u64) I I I (by simp only[ub];omega)|exact xY ua I (Us.mono (by with_reducible first|assumption|exact Us.up zo4) hh) zot):∀h' L',MLe h h'->(∀r∈R,r∈L')->OpV P n w0 h0 o e L' h' v:=f
theorem isGC{P:Program}{n:Nat}{w0:World}{h0 h:Mem}{Q:Exit->Act->World->Prop}{e:List (Nat×Value)}{L:List Res}{c:Code}(k:GC P n w0 h0 c Q e L h):GC P n w0 h0 c Q e L h:=k
theorem isGQ{n:Nat}{w0:World}{h0 h:Mem}{Q:Exit->Act->World->Prop}{e:List (Nat×Value)}{L:List Res}{x:Exit}(k:GQ n w0 h0 Q x e L h):GQ n w0 h0 Q x e L h:=k
theorem isGL{P:Program}{n:Nat}{w0:World}{h0 h:Mem}{Q:Exit->Act->World->Prop}{e:List (Nat×Value)}{L:List Res}{ops:Array Oper}{l:List Oper}(k:GL P n w0 h0 ops Q l e L h):GL P n w0 h0 ops Q l e L h:=k
theorem isW{P:Program}{n:Nat}{w0:World}{h0 h:Mem}{Q:Exit->Act->World->Prop}{e:List (Nat×Value)}{L:List Res}{R:List Res}{ops:Array Oper}{al:Als}{r:List (Nat×Kd)}(k:W P n w0 h0 ops Q R al r e L h):W P n w0 h0 ops Q R al r e L h:=k
structure Kp(p:Prop):Prop where out:p
theorem isGV{P:Program}{n:Nat}{w0:World}{h0 h:Mem}{Q:Exit->Act->World->Prop}{e:List (Nat×Value)}{L:List Res}{ops:Array Oper}{rest:List Oper}{d:Nat}{op:Op}{ty:TypeId}{ps:String}{af:Array Edge}(k:GL P n w0 h0 ops Q (⟨some d,op,ty,ps,af,none⟩::rest) e L h):GL P n w0 h0 ops Q (⟨some d,op,ty,ps,af,none⟩::rest) e L h:=k
theorem isMV{P:Program}{n:Nat}{w0:World}{h0 h:Mem}{Q:Exit->Act->World->Prop}{e:List (Nat×Value)}{L:List Res}{ops:Array Oper}{rest:List Oper}{d:Nat}{x:Operand}{ty:TypeId}{ps:String}{af:Array Edge}(k:GL P n w0 h0 ops Q (⟨some d,.move x,ty,ps,af,none⟩::rest) e L h):GL P n w0 h0 ops Q (⟨some d,.move x,ty,ps,af,none⟩::rest) e L h:=k
theorem isAS{P:Program}{n:Nat}{w0:World}{h0 h:Mem}{Q:Exit->Act->World->Prop}{e:List (Nat×Value)}{L:List Res}{ops:Array Oper}{rest:List Oper}{d:Nat}{x:Operand}{ty:TypeId}{ps:String}{af:Array Edge}(k:GL P n w0 h0 ops Q (⟨some d,.assign x,ty,ps,af,none⟩::rest) e L h):GL P n w0 h0 ops Q (⟨some d,.assign x,ty,ps,af,none⟩::rest) e L h:=k
theorem st{G G':Prop}(k:G')(f:Kp G'->G:=by intro k;first|((with_reducible refine isGL ?_);first|((with_reducible refine isMV ?_);first|exact mv (v:=vI _) I I k.out|exact mv I I k.out)|((with_reducible refine isAS ?_);first|exact asg (v:=vI _) I I k.out|exact asg I I k.out)|with_reducible exact yB k.out|((with_reducible refine isGV ?_);refine gv ov I ?_;exact k.out)|exact nS I I I I I I k.out|exact u6 I I I k.out|exact yCL I I I I I k.out|exact yB k.out|exact mv (v:=vI _) I I k.out|exact mv I I k.out|exact asg (v:=vI _) I I k.out|exact asg I I k.out|(refine gv ov I ?_;exact k.out))|((with_reducible refine isGC ?_);first|with_reducible exact zQ k.out|with_reducible exact zF k.out|with_reducible exact vQ k.out|with_reducible exact qK k.out|with_reducible exact fI k.out|with_reducible exact lG k.out|exact zI4 I k.out|exact zI5 I k.out)|((with_reducible refine isGQ ?_);first|with_reducible exact zH k.out|with_reducible exact rK k.out|with_reducible exact qE k.out|with_reducible exact fH k.out|with_reducible exact nG k.out|with_reducible exact zRM k.out|exact zKW I k.out)|((with_reducible refine isW ?_);first|with_reducible exact cK k.out|exact qQ I I I k.out|exact zLH I I I k.out|exact vW I I I I I k.out|exact zUV I I I I k.out|(refine wI I ovq I ?_;exact k.out)|(refine w_q I ovm I ?_;exact k.out)|(refine yS I I I ovm I ?_;exact k.out)|exact cK k.out)):G:=f ⟨k⟩
theorem go1{G G':Prop}(k:G')(f:Kp G'->G:=by intro k;refine st ?_;exact k.out):G:=f ⟨k⟩
theorem go2{G G':Prop}(k:G')(f:Kp G'->G:=by intro k;refine st ?_;refine st ?_;exact k.out):G:=f ⟨k⟩
theorem go3{G G':Prop}(k:G')(f:Kp G'->G:=by intro k;refine st ?_;refine st ?_;refine st ?_;exact k.out):G:=f ⟨k⟩
theorem go4{G G':Prop}(k:G')(f:Kp G'->G:=by intro k;refine st ?_;refine st ?_;refine st ?_;refine st ?_;exact k.out):G:=f ⟨k⟩
theorem go5{G G':Prop}(k:G')(f:Kp G'->G:=by intro k;refine st ?_;refine st ?_;refine st ?_;refine st ?_;refine st ?_;exact k.out):G:=f ⟨k⟩
theorem go6{G G':Prop}(k:G')(f:Kp G'->G:=by intro k;refine st ?_;refine st ?_;refine st ?_;refine st ?_;refine st ?_;refine st ?_;exact k.out):G:=f ⟨k⟩
theorem go7{G G':Prop}(k:G')(f:Kp G'->G:=by intro k;refine st ?_;refine st ?_;refine st ?_;refine st ?_;refine st ?_;refine st ?_;refine st ?_;exact k.out):G:=f ⟨k⟩
theorem go8{G G':Prop}(k:G')(f:Kp G'->G:=by intro k;refine st ?_;refine st ?_;refine st ?_;refine st ?_;refine st ?_;refine st ?_;refine st ?_;refine st ?_;exact k.out):G:=f ⟨k⟩
theorem go9{G G':Prop}(k:G')(f:Kp G'->G:=by intro k;refine go8 ?_;refine st ?_;exact k.out):G:=f ⟨k⟩
theorem uG{G G':Prop}(k:G')(f:Kp G'->G:=by intro k;refine go8 ?_;refine st ?_;refine st ?_;exact k.out):G:=f ⟨k⟩
theorem qM{G G':Prop}(k:G')(f:Kp G'->G:=by intro k;refine go8 ?_;refine st ?_;refine st ?_;refine st ?_;exact k.out):G:=f ⟨k⟩
theorem uV{G G':Prop}(k:G')(f:Kp G'->G:=by intro k;refine go8 ?_;refine st ?_;refine st ?_;refine st ?_;refine st ?_;exact k.out):G:=f ⟨k⟩
theorem sO{G G':Prop}(k:G')(f:Kp G'->G:=by intro k;refine go8 ?_;refine st ?_;refine st ?_;refine st ?_;refine st ?_;refine st ?_;exact k.out):G:=f ⟨k⟩
theorem tZ{G G':Prop}(k:G')(f:Kp G'->G:=by intro k;refine go8 ?_;refine st ?_;refine st ?_;refine st ?_;refine st ?_;refine st ?_;refine st ?_;exact k.out):G:=f ⟨k⟩
theorem rA{G G':Prop}(k:G')(f:Kp G'->G:=by intro k;refine go8 ?_;refine st ?_;refine st ?_;refine st ?_;refine st ?_;refine st ?_;refine st ?_;refine st ?_;exact k.out):G:=f ⟨k⟩
theorem zAG{G G':Prop}(k:G')(f:Kp G'->G:=by intro k;refine go8 ?_;refine go8 ?_;exact k.out):G:=f ⟨k⟩
theorem nR{G G':Prop}(k:G')(f:Kp G'->G:=by intro k;refine go8 ?_;refine go8 ?_;refine st ?_;exact k.out):G:=f ⟨k⟩
theorem yCK{G G':Prop}(k:G')(f:Kp G'->G:=by intro k;refine go8 ?_;refine go8 ?_;refine st ?_;refine st ?_;exact k.out):G:=f ⟨k⟩
theorem zYO{G G':Prop}(k:G')(f:Kp G'->G:=by intro k;refine go8 ?_;refine go8 ?_;refine st ?_;refine st ?_;refine st ?_;exact k.out):G:=f ⟨k⟩
theorem go20{G G':Prop}(k:G')(f:Kp G'->G:=by intro k;refine go8 ?_;refine go8 ?_;refine st ?_;refine st ?_;refine st ?_;refine st ?_;exact k.out):G:=f ⟨k⟩
theorem go22{G G':Prop}(k:G')(f:Kp G'->G:=by intro k;refine go8 ?_;refine go8 ?_;refine st ?_;refine st ?_;refine st ?_;refine st ?_;refine st ?_;refine st ?_;exact k.out):G:=f ⟨k⟩
theorem go23{G G':Prop}(k:G')(f:Kp G'->G:=by intro k;refine go8 ?_;refine go8 ?_;refine st ?_;refine st ?_;refine st ?_;refine st ?_;refine st ?_;refine st ?_;refine st ?_;exact k.out):G:=f ⟨k⟩
theorem go30{G G':Prop}(k:G')(f:Kp G'->G:=by intro k;refine go8 ?_;refine go8 ?_;refine go8 ?_;refine st ?_;refine st ?_;refine st ?_;refine st ?_;refine st ?_;refine st ?_;exact k.out):G:=f ⟨k⟩
theorem gc2{G G1 G2:Prop}{p:Prop}(kt:p->G1)(kf:¬p->G2)(f:(p->Kp G1)->(¬p->Kp G2)->G:=by intro a b;refine st ?_;refine st ?_;exact cnd (λh=>(a h).out) λh=>(b h).out):G:=f (λh=>⟨kt h⟩) λh=>⟨kf h⟩
theorem gc3{G G1 G2:Prop}{p:Prop}(kt:p->G1)(kf:¬p->G2)(f:(p->Kp G1)->(¬p->Kp G2)->G:=by intro a b;refine st ?_;refine st ?_;refine st ?_;exact cnd (λh=>(a h).out) λh=>(b h).out):G:=f (λh=>⟨kt h⟩) λh=>⟨kf h⟩
theorem gc4{G G1 G2:Prop}{p:Prop}(kt:p->G1)(kf:¬p->G2)(f:(p->Kp G1)->(¬p->Kp G2)->G:=by intro a b;refine st ?_;refine st ?_;refine st ?_;refine st ?_;exact cnd (λh=>(a h).out) λh=>(b h).out):G:=f (λh=>⟨kt h⟩) λh=>⟨kf h⟩
theorem gc5{G G1 G2:Prop}{p:Prop}(kt:p->G1)(kf:¬p->G2)(f:(p->Kp G1)->(¬p->Kp G2)->G:=by intro a b;refine st ?_;refine st ?_;refine st ?_;refine st ?_;refine st ?_;exact cnd (λh=>(a h).out) λh=>(b h).out):G:=f (λh=>⟨kt h⟩) λh=>⟨kf h⟩
theorem gc6{G G1 G2:Prop}{p:Prop}(kt:p->G1)(kf:¬p->G2)(f:(p->Kp G1)->(¬p->Kp G2)->G:=by intro a b;refine st ?_;refine st ?_;refine st ?_;refine st ?_;refine st ?_;refine st ?_;exact cnd (λh=>(a h).out) λh=>(b h).out):G:=f (λh=>⟨kt h⟩) λh=>⟨kf h⟩
theorem gc7{G G1 G2:Prop}{p:Prop}(kt:p->G1)(kf:¬p->G2)(f:(p->Kp G1)->(¬p->Kp G2)->G:=by intro a b;refine st ?_;refine st ?_;refine st ?_;refine st ?_;refine st ?_;refine st ?_;refine st ?_;exact cnd (λh=>(a h).out) λh=>(b h).out):G:=f (λh=>⟨kt h⟩) λh=>⟨kf h⟩
theorem gc8{G G1 G2:Prop}{p:Prop}(kt:p->G1)(kf:¬p->G2)(f:(p->Kp G1)->(¬p->Kp G2)->G:=by intro a b;refine st ?_;refine st ?_;refine st ?_;refine st ?_;refine st ?_;refine st ?_;refine st ?_;refine st ?_;exact cnd (λh=>(a h).out) λh=>(b h).out):G:=f (λh=>⟨kt h⟩) λh=>⟨kf h⟩
theorem gc9{G G1 G2:Prop}{p:Prop}(kt:p->G1)(kf:¬p->G2)(f:(p->Kp G1)->(¬p->Kp G2)->G:=by intro a b;refine st ?_;refine st ?_;refine st ?_;refine st ?_;refine st ?_;refine st ?_;refine st ?_;refine st ?_;refine st ?_;exact cnd (λh=>(a h).out) λh=>(b h).out):G:=f (λh=>⟨kt h⟩) λh=>⟨kf h⟩
theorem zC5{G G1 G2:Prop}{p:Prop}(kt:p->G1)(kf:¬p->G2)(f:(p->Kp G1)->(¬p->Kp G2)->G:=by intro a b;refine st ?_;refine st ?_;refine st ?_;refine st ?_;refine st ?_;refine st ?_;refine st ?_;refine st ?_;refine st ?_;refine st ?_;exact cnd (λh=>(a h).out) λh=>(b h).out):G:=f (λh=>⟨kt h⟩) λh=>⟨kf h⟩
theorem zC4{G G1 G2:Prop}{p:Prop}(kt:p->G1)(kf:¬p->G2)(f:(p->Kp G1)->(¬p->Kp G2)->G:=by intro a b;refine st ?_;refine st ?_;refine st ?_;refine st ?_;refine st ?_;refine st ?_;refine st ?_;refine st ?_;refine st ?_;refine st ?_;refine st ?_;exact cnd (λh=>(a h).out) λh=>(b h).out):G:=f (λh=>⟨kt h⟩) λh=>⟨kf h⟩
theorem zK3{G G1 G2:Prop}{p:Prop}(kt:p->G1)(kf:¬p->G2)(f:(p->Kp G1)->(¬p->Kp G2)->G:=by intro a b;refine st ?_;refine st ?_;refine st ?_;refine st ?_;refine st ?_;refine st ?_;refine st ?_;refine st ?_;refine st ?_;refine st ?_;refine st ?_;refine st ?_;exact cnd (λh=>(a h).out) λh=>(b h).out):G:=f (λh=>⟨kt h⟩) λh=>⟨kf h⟩
end Go.Proofs.YtpkaegemlpaenaaGreat
