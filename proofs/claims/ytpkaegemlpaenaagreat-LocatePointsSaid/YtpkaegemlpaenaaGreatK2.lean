/- Texts that the proof needs, part 2. -/
import Derived.Test.YtpkaegemlpaenaaGreatK1
set_option linter.unusedVariables false
set_option linter.unusedSimpArgs false
namespace Bk
open Go Go.RowKit
open Classical
noncomputable def sg(s:Prop)(n:Nat):Int:=if s then -(n:Int) else n
theorem eH{s:Prop}(h:s)(n:Nat):sg s n= -(n:Int):=if_pos h
theorem eL{s:Prop}(h:¬s)(n:Nat):sg s n=n:=if_neg h
theorem iY(s:Prop)(n:Nat):(sg s n).natAbs=n:=by
 by_cases h:s
 · rw[eH h];omega
 · rw[eL h];omega
theorem yAK(s:Prop):sg s 0=0:=by
 by_cases h:s
 · rw[eH h];omega
 · rw[eL h];omega
theorem zU3(s:Prop)(n:Nat):sg s n<0↔s/\n≠0:=by
 by_cases h:s
 · rw[eH h];exact⟨λh1=>⟨h,by omega⟩,λh1=>by omega⟩
 · rw[eL h];exact⟨λh1=>by omega,λh1=>absurd h1.1 h⟩
theorem yFL(s:Prop){n g:Nat}(h:g∣n):sg s n/(g:Int)=sg s (n/g):=by
 by_cases hs:s
 · rw[eH hs,eH hs]
   obtain⟨k,rfl⟩:=h
   rcases Nat.eq_zero_or_pos g with h0|h0
   · subst h0;simp
   · rw[Nat.mul_div_cancel_left _ h0,Int.natCast_mul,<-Int.mul_neg,Int.mul_ediv_cancel_left _ zoa]
 · rw[eL hs,eL hs];omega
theorem yFJ(q:Rat):sg (q.num<0) q.num.natAbs=q.num:=by
 by_cases h:q.num<0
 · rw[eH h];omega
 · rw[eL h];omega
def wQ(d:Nat):Nat:=if d=1 then 0 else d
theorem bV:wQ 1=0:=rfl
theorem nH{d:Nat}(h:d≠1):wQ d=d:=if_neg h
theorem oS{d:Nat}(h0:d≠0):zB (wQ d)=[]↔d=1:=by
 by_cases h:d=1
 · subst h;rw[bV,xL];simp
 · rw[nH h]
   exact⟨λe=>by have:=yQ.2 h0;rw[e] at this;simp at this,λe=>absurd e h⟩
theorem uZ(q:Rat):(if zB (wQ q.den)=[] then[1] else zB (wQ q.den))=zB q.den:=by
 by_cases h:q.den=1
 · rw[if_pos ((oS q.den_nz).2 h),h,gE zoa zoa]
 · rw[if_neg (λe=>h ((oS q.den_nz).1 e)),nH h]
def vC(h:Mem)(v:Value)(q:Rat):Prop:=∃vn vd,v=.agg #[vB (q.num<0),vn,vd]/\Us .u32 h vn (zB q.num.natAbs)/\Us .u32 h vd (zB (wQ q.den))
theorem zb:vB ((0:Rat).num<0)=.bool false:=yG zod
theorem zC6(h:Mem):Us .u32 h (.slice none 0 0) (zB (0:Rat).num.natAbs):=by
 have:zB (0:Rat).num.natAbs=[]:=xL;rw[this];exact Us.nil _ _
theorem zC7(h:Mem):Us .u32 h (.slice none 0 0) (zB (wQ (0:Rat).den)):=by
 have:zB (wQ (0:Rat).den)=[]:=xL;rw[this];exact Us.nil _ _
theorem vC.zero(h:Mem):vC h (.agg #[vB ((0:Rat).num<0),.slice none 0 0,.slice none 0 0]) 0:=⟨_,_,rfl,zC6 _,zC7 _⟩
theorem zCI{s:Prop}{n d:Nat}(hd:d≠0):(mkRat (sg s n) d).num=sg s (n/Nat.gcd n d):=by
 rw[Rat.num_mkRat,if_neg hd,iY,Nat.gcd_comm];exact yFL s (Nat.gcd_dvd_left n d)
theorem zID{s:Prop}{n d:Nat}(hd:d≠0):(mkRat (sg s n) d).den=d/Nat.gcd n d:=by
 rw[Rat.den_mkRat,if_neg hd,iY,Nat.gcd_comm]
theorem vC.make{h:Mem}{s:Prop}{n d:Nat}{vn vd:Value}(hn0:n≠0)(hd0:d≠0)(hn:Us .u32 h vn (zB (n/Nat.gcd n d)))(hd:Us .u32 h vd (zB (wQ (d/Nat.gcd n d)))):vC h (.agg #[vB s,vn,vd]) (mkRat (sg s n) d):=by
 have C:n/Nat.gcd n d≠0:=by
  have h1:=Nat.gcd_dvd_left n d;have h2:=Nat.gcd_pos_of_pos_left d (Nat.pos_of_ne_zero hn0);exact Nat.ne_of_gt (Nat.div_pos (Nat.le_of_dvd (Nat.pos_of_ne_zero hn0) h1) h2)
 refine⟨vn,vd,?_,?_,?_⟩
 · have:vB ((mkRat (sg s n) d).num<0)=vB s:=by
    rw[zCI hd0];exact kA ⟨λh=>((zU3 _ _).1 h).1,λh=>(zU3 _ _).2 ⟨h,C⟩⟩
   rw[this]
 · rw[zCI hd0,iY];exact hn
 · rw[zID hd0];exact hd
noncomputable def iQ(q:Rat):Rat:=if q.num<0 then -q else q
theorem zG0(q:Rat):(iQ q).num=q.num.natAbs:=by
 unfold iQ
 by_cases h:q.num<0
 · rw[if_pos h,Rat.neg_num];omega
 · rw[if_neg h];omega
theorem zNH(q:Rat):(iQ q).den=q.den:=by
 unfold iQ
 by_cases h:q.num<0
 · rw[if_pos h,Rat.neg_den]
 · rw[if_neg h]
theorem vC.abs{h:Mem}{q:Rat}{vn vd:Value}(hn:Us .u32 h vn (zB q.num.natAbs))(hd:Us .u32 h vd (zB (wQ q.den))):vC h (.agg #[.bool false,vn,vd]) (iQ q):=by
 refine⟨vn,vd,?_,?_,?_⟩
 · rw[yG (by rw[zG0];omega)]
 · rw[zG0];exact hn
 · rw[zNH];exact hd
theorem vC.negB{h:Mem}{q:Rat}{vn vd:Value}(hn:Us .u32 h vn (zB q.num.natAbs))(hd:Us .u32 h vd (zB (wQ q.den))):vC h (.agg #[vB (¬q.num<0/\(0:Int)<↑(zB q.num.natAbs).length),vn,vd]) (-q):=by
 refine⟨vn,vd,?_,?_,?_⟩
 · have:vB ((-q).num<0)=vB (¬q.num<0/\(0:Int)<↑(zB q.num.natAbs).length):=by
    have h1:=yQ (n:=q.num.natAbs);rw[Rat.neg_num];exact kA ⟨λh=>⟨by omega,by omega⟩,λh=>by omega⟩
   rw[this]
 · rw[Rat.neg_num,Int.natAbs_neg];exact hn
 · rw[Rat.neg_den];exact hd
theorem zF7{m n k:Nat}(h1:(zB m).length<=k)(h2:(zB n).length<=k):(zB (m+n)).length<=k+1:=by
 refine qJ ?_;have D:=Nat.lt_of_lt_of_le (uU m) (Nat.pow_le_pow_right zod h1);have C:=Nat.lt_of_lt_of_le (uU n) (Nat.pow_le_pow_right zod h2);rw[Nat.pow_succ];generalize 4294967296^k=p at *;omega
theorem putL{xs:List Nat}{lo n:Nat}(h:lo+1<=xs.length)(h0:n≠0)(hn:n<4294967296):xs.set lo n=xs.take lo++zB n++xs.drop (lo+(zB n).length):=by
 rw[gE h0 hn,List.set_eq_take_append_cons_drop,if_pos zoa];simp
theorem yJG{xs:List Nat}{lo n:Nat}(h:lo+2<=xs.length)(hn:n<18446744073709551616)(hn':4294967296<=n):(xs.set lo (n%4294967296)).set (lo+1) (n/4294967296)=xs.take lo++zB n++xs.drop (lo+(zB n).length):=by
 have e:zB n=[n%4294967296,n/4294967296]:=by rw[kQ zoa,gE (t:=n/4294967296) zoa zoa]
 rw[e]
 apply List.ext_getElem?
 intro i;simp only[List.getElem?_set,lS,List.getElem?_append,lAz,List.length_take,lC,lN,List.getElem?_take,List.getElem?_drop]
 rcases Nat.lt_trichotomy i lo with hi|hi|hi
 · rw[if_neg zoa,if_neg zoa,if_pos zoa,if_pos zoa,if_pos zoa]
 · subst hi
   rw[if_neg zoa,if_pos I,if_pos zoa,if_pos zoa,if_neg zoa];simp[show min i xs.length=i by omega]
 · by_cases h1:i=lo+1
   · subst h1
     rw[if_pos I,if_pos zoa,if_pos zoa,if_neg zoa];simp[show min lo xs.length=lo by omega]
   · rw[if_neg zoa,if_neg zoa,if_neg zoa]
     congr 1
     omega
noncomputable def rz(s:Prop)(n:Rat):Rat:=if s then -n else n
theorem eV{s:Prop}(h:s)(n:Rat):rz s n= -n:=if_pos h
theorem eM{s:Prop}(h:¬s)(n:Rat):rz s n=n:=if_neg h
theorem pY(s:Prop)(n d:Nat):mkRat (sg s n) d=rz s n/d:=by
 rw[Rat.mkRat_eq_div]
 by_cases h:s
 · rw[eH h,eV h,Rat.intCast_neg];rfl
 · rw[eL h,eM h];rfl
theorem kK(q:Rat):mkRat (sg (q.num<0) q.num.natAbs) q.den=q:=by rw[yFJ,Rat.mkRat_self]
theorem aJ{d:Nat}(h:d≠0):(d:Rat)≠0:=λe=>h (Rat.natCast_eq_zero_iff.1 e)
theorem zA9(s:Prop)(d:Nat):mkRat (sg s 0) d=0:=by rw[yAK,Rat.zero_mkRat]
theorem zFX(s:Prop)(n:Nat):mkRat (sg s n) 0=0:=by rw[Rat.mkRat_zero]
theorem zJZ{s t:Prop}(h:s↔t)(n d:Nat):mkRat (sg s n) d=mkRat (sg t n) d:=by rw[propext h]
theorem zW3(s:Prop){n m d e:Nat}(hd:d≠0)(he:e≠0):mkRat (sg s n) d+mkRat (sg s m) e=mkRat (sg s (n*e+m*d)) (d*e):=by
 rw[pY,pY,pY,Rat.natCast_mul,Rat.natCast_add,Rat.natCast_mul,Rat.natCast_mul];have h1:=aJ hd;have h2:=aJ he;generalize (d:Rat)=D at *;generalize (e:Rat)=E at *;generalize (n:Rat)=N at *;generalize (m:Rat)=M at *
 by_cases h:s
 · rw[eV h,eV h,eV h];grind
 · rw[eM h,eM h,eM h];grind
theorem zO6{s t:Prop}(hst:¬(s↔t)){n m d e:Nat}(hd:d≠0)(he:e≠0)(hle:m*d<=n*e):mkRat (sg s n) d+mkRat (sg t m) e=mkRat (sg s (n*e-m*d)) (d*e):=by
 have G:((n*e-m*d:Nat):Rat)=n*e-m*d:=by
  have h3:n*e-m*d+m*d=n*e:=by omega
  have H:((n*e-m*d+m*d:Nat):Rat)=((n*e:Nat):Rat):=by rw[h3]
  rw[Rat.natCast_add,Rat.natCast_mul,Rat.natCast_mul] at H;generalize ((n*e-m*d:Nat):Rat)=X at *;grind
 rw[pY,pY,pY,G,Rat.natCast_mul];have h1:=aJ hd;have h2:=aJ he;generalize (d:Rat)=D at *;generalize (e:Rat)=E at *;generalize (n:Rat)=N at *;generalize (m:Rat)=M at *
 by_cases h:s
 · have C:¬t:=λC=>hst ⟨λ_=>C,λ_=>h⟩
   rw[eV h,eM C,eV h];grind
 · have C:t:=Classical.byContradiction λC=>hst ⟨λa=>absurd a h,λa=>absurd a C⟩
   rw[eM h,eV C,eM h];grind
theorem zQO{s t:Prop}(hst:¬(s↔t)){n m d e:Nat}(hd:d≠0)(he:e≠0)(hle:n*e<=m*d):mkRat (sg s n) d+mkRat (sg t m) e=mkRat (sg t (m*d-n*e)) (d*e):=by
 rw[Rat.add_comm,zO6 (λh=>hst h.symm) he hd hle,Nat.mul_comm e d]
theorem zW2(s t:Prop)(n m d e:Nat):mkRat (sg s n) d*mkRat (sg t m) e=mkRat (sg (¬(s↔t)) (n*m)) (d*e):=by
 rw[Rat.mkRat_mul_mkRat]
 congr 1
 by_cases h:s<;>by_cases h':t
 · rw[eH h,eH h',eL (by simp[h,h']),Int.natCast_mul,Int.neg_mul_neg]
 · rw[eH h,eL h',eH (by simp[h,h']),Int.natCast_mul,Int.neg_mul]
 · rw[eL h,eH h',eH (by simp[h,h']),Int.natCast_mul,Int.mul_neg]
 · rw[eL h,eL h',eL (by simp[h,h']),Int.natCast_mul]
theorem zO7(s t:Prop){n m d e:Nat}(hd:d≠0)(hm:m≠0)(he:e≠0):mkRat (sg s n) d/mkRat (sg t m) e=mkRat (sg (¬(s↔t)) (n*e)) (d*m):=by
 rw[pY,pY,pY,Rat.natCast_mul,Rat.natCast_mul];have h1:=aJ hd;have h2:=aJ hm;have h3:=aJ he;generalize (d:Rat)=D at *;generalize (e:Rat)=E at *;generalize (n:Rat)=N at *;generalize (m:Rat)=M at *
 by_cases h:s<;>by_cases h':t
 · rw[eV h,eV h',eM (by simp[h,h'])];grind
 · rw[eV h,eM h',eV (by simp[h,h'])];grind
 · rw[eM h,eV h',eV (by simp[h,h'])];grind
 · rw[eM h,eM h',eM (by simp[h,h'])];grind
theorem yGF(s:Prop)(n d:Nat):-mkRat (sg s n) d=mkRat (sg (¬s) n) d:=by
 rw[Rat.neg_mkRat]
 congr 1
 by_cases h:s
 · rw[eH h,eL (by simp[h])];omega
 · rw[eL h,eH h]
theorem zFY(s:Prop)(n d:Nat){k:Nat}(hk:k≠0):mkRat (sg s (n*k)) (d*k)=mkRat (sg s n) d:=by
 rw[pY,pY,Rat.natCast_mul,Rat.natCast_mul];have h1:=aJ hk
 by_cases hd:d=0
 · subst hd
   have:((0:Nat):Rat)=0:=I;rw[this];grind
 have h2:=aJ hd;generalize (d:Rat)=D at *;generalize (k:Rat)=K at *;generalize (n:Rat)=N at *
 by_cases h:s
 · rw[eV h,eV h];grind
 · rw[eM h,eM h];grind
def lq(q:Rat):Nat:=max (zB q.num.natAbs).length (zB q.den).length
theorem uD(q:Rat):(zB q.num.natAbs).length<=lq q:=Nat.le_max_left _ _
theorem uA(q:Rat):(zB q.den).length<=lq q:=Nat.le_max_right _ _
theorem zYH(d:Nat):(zB (wQ d)).length<=(zB d).length:=by
 by_cases h:d=1
 · subst h;rw[bV,xL];simp
 · rw[nH h];exact Nat.le_refl _
theorem vX(q:Rat):(zB (wQ q.den)).length<=lq q:=Nat.le_trans (zYH _) (uA q)
theorem zCL(q:Rat):0<lq q:=Nat.lt_of_lt_of_le (yQ.2 q.den_nz) (uA q)
theorem y6{s:Prop}{n d k:Nat}(hn:(zB n).length<=k)(hd:(zB d).length<=k)(hk:0<k):lq (mkRat (sg s n) d)<=k:=by
 by_cases h0:d=0
 · subst h0
   rw[zFX];refine Nat.max_le.2 ⟨?_,?_⟩
   · have:(zB (0:Rat).num.natAbs)=[]:=xL
     rw[this];simp
   · have:zB (0:Rat).den=[1]:=by rw[show(0:Rat).den=1 from I,kQ zoa,xL]
     rw[this];exact hk
 · refine Nat.max_le.2 ⟨?_,?_⟩
   · rw[zCI h0,iY]
     exact Nat.le_trans (yK (Nat.div_le_self _ _)) hn
   · rw[zID h0]
     exact Nat.le_trans (yK (Nat.div_le_self _ _)) hd
theorem zBC:lq 0=1:=by
 have h:=y6 (s:=False) (n:=0) (d:=0) (k:=1) (by rw[xL];simp) (by rw[xL];simp) zoa;rw[zFX] at h;have:=zCL 0;omega
theorem zPE(q:Rat):lq (-q)=lq q:=by unfold lq;rw[Rat.neg_num,Rat.neg_den,Int.natAbs_neg]
theorem yGM(q:Rat):lq (iQ q)=lq q:=by unfold lq;rw[zG0,zNH,Int.natAbs_natCast]
theorem iI(a b:Rat):lq (a*b)<=lq a+lq b:=by
 rw[<-kK a,<-kK b,zW2,kK,kK];have h1:=uD a;have h2:=uD b;have h3:=uA a;have D:=uA b;have C:=zCL a;exact y6 (Nat.le_trans (yP _ _) zoa) (Nat.le_trans (yP _ _) zoa) zoa
theorem aY(a b:Rat):lq (a+b)<=lq a+lq b+1:=by
 have h1:=uD a;have h2:=uD b;have h3:=uA a;have J:=uA b;have H:=zCL a;have G:=yP a.num.natAbs b.den;have D:=yP b.num.natAbs a.den;have C:=yP a.den b.den;have e:a+b=mkRat (sg (a.num<0) a.num.natAbs) a.den+mkRat (sg (b.num<0) b.num.natAbs) b.den:=by rw[kK,kK]
 rw[e]
 by_cases h:(a.num<0)↔(b.num<0)
 · rw[zJZ h,zW3 _ a.den_nz b.den_nz]
   refine y6 (Nat.le_trans (zF7 ?_ ?_) (Nat.le_refl _)) zoa zoa
   · omega
   · omega
 · rcases Nat.le_total (b.num.natAbs*a.den) (a.num.natAbs*b.den) with hle|hle
   · rw[zO6 h a.den_nz b.den_nz hle]
     exact y6 (Nat.le_trans (yK (Nat.sub_le _ _)) zoa) zoa zoa
   · rw[zQO h a.den_nz b.den_nz hle]
     exact y6 (Nat.le_trans (yK (Nat.sub_le _ _)) zoa) zoa zoa
theorem zF4(a b:Rat):lq (a-b)<=lq a+lq b+1:=by
 rw[Rat.sub_eq_add_neg];have:=aY a (-b);rw[zPE] at this;exact this
theorem zFR{q:Rat}:q.num.natAbs≠0↔q≠0:=by
 rw[Int.natAbs_ne_zero];exact not_congr Rat.num_eq_zero
theorem yGK(a b:Rat):lq (a/b)<=lq a+lq b:=by
 have h1:=uD a;have h2:=uD b;have h3:=uA a;have D:=uA b;have C:=zCL a
 by_cases hb:b=0
 · subst hb
   have:a/0=0:=by grind
   rw[this,zBC];omega
 have e:a/b=mkRat (sg (a.num<0) a.num.natAbs) a.den/mkRat (sg (b.num<0) b.num.natAbs) b.den:=by rw[kK,kK]
 rw[e,zO7 _ _ a.den_nz (zFR.2 hb) b.den_nz];exact y6 (Nat.le_trans (yP _ _) zoa) (Nat.le_trans (yP _ _) zoa) zoa
noncomputable def xT(a b:Rat):Int:=if a<b then -1 else if a=b then 0 else 1
noncomputable def yR(q:Rat):Int:=if q=0 then 0 else if q.num<0 then -1 else 1
theorem yC6(s:Prop){n m d e:Nat}(hd:d≠0)(he:e≠0):mkRat (sg s n) d<mkRat (sg s m) e↔if s then m*d<n*e else n*e<m*d:=by
 have C:∀x y:Nat,(x:Rat)<(y:Rat)↔x<y:=λx y=>by rw[Rat.natCast_lt_natCast]
 have h1:(0:Rat)<(d:Rat):=by rw[show(0:Rat)=((0:Nat):Rat) from I,C];omega
 have h2:(0:Rat)<(e:Rat):=by rw[show(0:Rat)=((0:Nat):Rat) from I,C];omega
 rw[pY,pY,<-C,<-C,Rat.natCast_mul,Rat.natCast_mul,Rat.div_lt_iff h1];generalize (d:Rat)=D at *;generalize (e:Rat)=E at *;generalize (n:Rat)=N at *;generalize (m:Rat)=M at *;have G:∀X:Rat,X/E*D=X*D/E:=λX=>by grind
 rw[G,Rat.lt_div_iff h2]
 by_cases h:s
 · rw[eV h,eV h,if_pos h];grind
 · rw[eM h,eM h,if_neg h]
theorem yDA(s:Prop){n m d e:Nat}(hd:d≠0)(he:e≠0):mkRat (sg s n) d=mkRat (sg s m) e↔n*e=m*d:=by
 rw[Rat.mkRat_eq_iff hd he]
 by_cases h:s
 · rw[eH h,eH h]
   rw[Int.neg_mul,Int.neg_mul,Int.neg_inj,<-Int.natCast_mul,<-Int.natCast_mul];omega
 · rw[eL h,eL h,<-Int.natCast_mul,<-Int.natCast_mul];omega
theorem yHV(s:Prop){n m d e:Nat}(hd:d≠0)(he:e≠0):xT (mkRat (sg s n) d) (mkRat (sg s m) e)=if s then -(rN (n*e) (m*d)) else rN (n*e) (m*d):=by
 unfold xT rN
 by_cases h:s
 · simp only[yC6 s hd he,yDA s hd he,if_pos h]
   by_cases h1:m*d<n*e
   · rw[if_pos h1,if_neg zoa,if_neg zoa]
   · rw[if_neg h1]
     by_cases h2:n*e=m*d
     · rw[if_pos h2,if_neg zoa];rfl
     · rw[if_neg h2,if_pos zoa];rfl
 · simp only[yC6 s hd he,yDA s hd he,if_neg h]
theorem zM6(a b:Rat)(h:(a.num<0)↔(b.num<0)):xT a b=if a.num<0 then -(rN (a.num.natAbs*b.den) (b.num.natAbs*a.den)) else rN (a.num.natAbs*b.den) (b.num.natAbs*a.den):=by
 have:=yHV (a.num<0) (n:=a.num.natAbs) (m:=b.num.natAbs) a.den_nz b.den_nz;rw[kK,zJZ h,kK] at this;rw[this]
 by_cases h:a.num<0
 · rw[if_pos h,if_pos h]
 · rw[if_neg h,if_neg h]
theorem lW(q:Rat):q.num<0↔q<0:=by
 have:=Rat.num_nonneg (q:=q);rw[<-Rat.not_le,<-this];omega
theorem zBQ{a b:Rat}(h:yR a≠yR b):xT a b=if yR a<yR b then -1 else 1:=by
 have D:yR a=if a=0 then 0 else if a<0 then -1 else 1:=by unfold yR;simp only[lW]
 have C:yR b=if b=0 then 0 else if b<0 then -1 else 1:=by unfold yR;simp only[lW]
 rw[D,C] at h ⊢;unfold xT
 clear D C
 grind
theorem yV(q:Rat):-1<=yR q/\yR q<=1:=by
 unfold yR
 split
 · omega
 · split<;>omega
theorem qV(a b:Rat):-1<=xT a b/\xT a b<=1:=by
 unfold xT
 split
 · omega
 · split<;>omega
theorem mI{a b:Rat}:xT a b<0↔a<b:=by
 unfold xT
 by_cases h:a<b
 · simp[h]
 · by_cases h':a=b
   · simp[h']
   · simp[h,h']
theorem zGS{a b:Rat}:0<xT a b↔b<a:=by
 unfold xT
 by_cases h:a<b
 · simp[h];grind
 · by_cases h':a=b
   · simp[h']
   · simp[h,h'];grind
theorem aS{a b:Rat}:xT a b=0↔a=b:=by
 unfold xT
 by_cases h:a<b
 · simp[h];grind
 · by_cases h':a=b
   · simp[h']
   · simp[h,h']
def tV(q:Rat):Prop:=(zB q.num.natAbs).length<=1/\(zB (wQ q.den)).length<=1
theorem zNS{q:Rat}(h:(1:Int)<↑(zB q.num.natAbs).length\/(1:Int)<↑(zB (wQ q.den)).length):¬tV q:=λ⟨h1,h2⟩=>by omega
theorem zR5{q:Rat}(h:¬((1:Int)<↑(zB q.num.natAbs).length\/(1:Int)<↑(zB (wQ q.den)).length)):tV q:=⟨by omega,by omega⟩
theorem nC{n:Nat}(h:(zB n).length<=1):n<4294967296:=by
 have:=Nat.lt_of_lt_of_le (uU n) (Nat.pow_le_pow_right zod h);omega
theorem zYF{d:Nat}(h:(↑(zB (wQ d)).length:Int)=1):(zB (wQ d)).getD 0 0=d:=by
 by_cases h1:d=1
 · subst h1;rw[bV,xL] at h;simp at h
 · rw[nH h1] at h ⊢
   have h3:=nC (n:=d) zoa;have C:d≠0:=yQ.1 zoa;rw[gE C h3];rfl
theorem zTW{d:Nat}(h0:d≠0)(h:¬(↑(zB (wQ d)).length:Int)=1)(h1:(zB (wQ d)).length<=1):d=1:=by
 by_cases h2:d=1
 · exact h2
 · rw[nH h2] at h h1
   have:=yQ.2 h0;omega
theorem zYG{q:Rat}(h:¬(↑(zB (wQ q.den)).length:Int)=1)(hs:tV q):q.den=1:=zTW q.den_nz h hs.2
theorem fU{q:Rat}(h:tV q):q.num.natAbs<4294967296:=nC h.1
theorem fV{q:Rat}(h:tV q):q.den<4294967296:=by
 by_cases h1:q.den=1
 · omega
 · have h2:=h.2
   rw[nH h1] at h2;exact nC h2
noncomputable def pN(q:Rat):Nat:=if tV q then q.num.natAbs else 0
noncomputable def pD(q:Rat):Nat:=if tV q then q.den else 0
theorem zG4{q:Rat}(h:tV q):pN q=q.num.natAbs:=if_pos h
theorem pN_f{q:Rat}(h:¬tV q):pN q=0:=if_neg h
theorem zG5{q:Rat}(h:tV q):pD q=q.den:=if_pos h
theorem pD_f{q:Rat}(h:¬tV q):pD q=0:=if_neg h
theorem nO{n:Nat}:uH n=0↔n=0:=by
 unfold uH
 by_cases h:n=0
 · simp[h]
 · simp[h]
theorem oK{Y:Nat}:((↑(zB Y).length:Int)=1/\(zB Y).getD 0 0=1)↔Y=1:=by
 constructor
 · intro⟨h1,h2⟩
   have h3:=nC (n:=Y) zoa;have C:Y≠0:=yQ.1 zoa;rw[gE C h3] at h2;exact h2
 · intro h
   subst h;rw[gE zoa zoa];exact⟨I,I⟩
theorem zIX{n:Nat}(h:¬(1:Int)<↑(uH n))(h0:n≠0):n=1:=by
 have h1:=oI n;have h2:=Nat.pow_le_pow_right (n:=2) zod (show uH n<=1 by omega);omega
theorem vC.fin{h:Mem}{s:Prop}{n d:Nat}{vn vd:Value}(hn0:n≠0)(hd0:d≠0)(hn:Us .u32 h vn (zB (n/Nat.gcd n d)))(hd:Us .u32 h vd (zB (d/Nat.gcd n d)))(h1:¬((↑(zB (d/Nat.gcd n d)).length:Int)=1/\(zB (d/Nat.gcd n d)).getD 0 0=1)):vC h (.agg #[vB s,vn,vd]) (mkRat (sg s n) d):=
 vC.make hn0 hd0 hn (by rw[nH (λe=>h1 (oK.2 e))];exact hd)
theorem vC.fin1{h:Mem}{s:Prop}{n d:Nat}{vn:Value}(hn0:n≠0)(hd0:d≠0)(hn:Us .u32 h vn (zB (n/Nat.gcd n d)))(h1:(↑(zB (d/Nat.gcd n d)).length:Int)=1/\(zB (d/Nat.gcd n d)).getD 0 0=1):vC h (.agg #[vB s,vn,.slice none 0 0]) (mkRat (sg s n) d):=
 vC.make hn0 hd0 hn (by rw[oK.1 h1,bV,xL];exact Us.nil _ _)
theorem dF:[1]=zB 1:=(gE zoa zoa).symm
theorem zJ4:(zB 1).length=1:=by rw[<-dF];rfl
theorem y7(m n:Nat):(zB (Nat.gcd m n)).length<=max (zB m).length (zB n).length:=by
 by_cases h:m=0
 · subst h;rw[Nat.gcd_zero_left];omega
 · have:=yK (Nat.gcd_le_left n (Nat.pos_of_ne_zero h))
   omega
theorem aL{q:Rat}(h:q=0):yR q=0:=if_pos h
theorem zAO{q:Rat}(h:q.num<0):yR q= -1:=by
 unfold yR;rw[if_neg (λe=>by rw[e] at h;exact absurd h zod),if_pos h]
theorem zAN{q:Rat}(h:q≠0)(h':¬q.num<0):yR q=1:=by unfold yR;rw[if_neg h,if_neg h']
theorem zG9{q:Rat}(h:(↑(uH q.num.natAbs):Int)=0):q=0:=by
 have:=(nO (n:=q.num.natAbs)).1 zoa;exact Rat.num_eq_zero.1 zoa
theorem zHJ{q:Rat}(h:q=0):(↑(uH q.num.natAbs):Int)=0:=by subst h;decide
theorem zPQ{a b:Rat}:zB (wQ a.den)=zB (wQ b.den)↔a.den=b.den:=by
 refine⟨λh=>?_,λh=>by rw[h]⟩;have h1:=dM h;have D:=a.den_nz;have C:=b.den_nz;unfold wQ at h1
 split at h1<;>split at h1<;>omega
theorem yFV{a b:Rat}(h1:a.num=b.num)(h2:a.den=b.den):a=b:=by
 rw[<-Rat.mkRat_self a,<-Rat.mkRat_self b,h1,h2]
theorem zK8{a b:Rat}:(((a.num<0↔b.num<0)/\zB a.num.natAbs=zB b.num.natAbs)/\zB (wQ a.den)=zB (wQ b.den))↔a=b:=by
 refine⟨λ⟨⟨h1,h2⟩,h3⟩=>yFV ?_ (zPQ.1 h3),λh=>by subst h;simp⟩;have:=dM h2;omega
theorem zK3{a b:Rat}(h:¬yR a≠yR b):a.num<0↔b.num<0:=by
 have h:=Classical.not_not.1 h
 by_cases h1:a.num<0<;>by_cases h2:b.num<0
 · simp[h1,h2]
 · rw[zAO h1] at h
   by_cases h3:b=0
   · rw[aL h3] at h;omega
   · rw[zAN h3 h2] at h;omega
 · rw[zAO h2] at h
   by_cases h3:a=0
   · rw[aL h3] at h;omega
   · rw[zAN h3 h1] at h;omega
 · simp[h1,h2]
def cN(a b:Rat):Int:=rN (a.num.natAbs*b.den) (b.num.natAbs*a.den)
theorem zNC(a b:Rat):-1<=cN a b/\cN a b<=1:=by
 unfold cN rN
 split
 · omega
 · split<;>omega
theorem zRH{a b:Rat}(h:a.num<0↔b.num<0)(hn:a.num<0):xT a b= -(cN a b):=by rw[zM6 a b h,if_pos hn];rfl
theorem zM7{a b:Rat}(h:a.num<0↔b.num<0)(hn:¬a.num<0):xT a b=cN a b:=by rw[zM6 a b h,if_neg hn];rfl
theorem yH1{a b:Rat}(h:zB (wQ a.den)=zB (wQ b.den)):cN a b=rN a.num.natAbs b.num.natAbs:=by
 unfold cN rN;rw[zPQ.1 h];have C:=Nat.pos_of_ne_zero b.den_nz
 by_cases h1:a.num.natAbs<b.num.natAbs
 · rw[if_pos h1,if_pos (Nat.mul_lt_mul_of_pos_right h1 C)]
 · rw[if_neg h1,if_neg (λe=>h1 (Nat.lt_of_mul_lt_mul_right e))]
   by_cases h2:a.num.natAbs=b.num.natAbs
   · rw[if_pos h2,h2,if_pos I]
   · rw[if_neg h2,if_neg (λe=>h2 (Nat.eq_of_mul_eq_mul_right C e))]
theorem qW{m n:Nat}(hm:m<4294967296)(hn:n<4294967296):m*n<=18446744065119617025:=by
 have:=Nat.mul_le_mul (show m<=4294967295 by omega) (show n<=4294967295 by omega);omega
noncomputable def sgd(s:Prop)(b:Rat):Rat:=mkRat (sg s b.num.natAbs) b.den
theorem zAP(b:Rat):sgd (b.num<0) b=b:=kK b
theorem yAJ(b:Rat):sgd (¬b.num<0) b= -b:=by
 unfold sgd;rw[<-yGF,kK]
theorem zXC(s:Prop)(b:Rat):lq (sgd s b)<=lq b:=y6 (uD b) (uA b) (zCL b)
theorem zEF{a b:Rat}{s:Prop}(h:(a.num<0)↔s):a+sgd s b=mkRat (sg s (a.num.natAbs*b.den+b.num.natAbs*a.den)) (a.den*b.den):=by
 have:=zW3 s (n:=a.num.natAbs) (m:=b.num.natAbs) a.den_nz b.den_nz;rw[<-zJZ h a.num.natAbs,kK] at this;exact this
theorem zDY{a b:Rat}{s:Prop}(h:¬((a.num<0)↔s))(hle:b.num.natAbs*a.den<=a.num.natAbs*b.den):a+sgd s b=mkRat (sg (a.num<0) (a.num.natAbs*b.den-b.num.natAbs*a.den)) (a.den*b.den):=by
 have:=zO6 h (n:=a.num.natAbs) (m:=b.num.natAbs) a.den_nz b.den_nz hle;rw[kK] at this;exact this
theorem zAJ{a b:Rat}{s:Prop}(h:¬((a.num<0)↔s))(hle:a.num.natAbs*b.den<=b.num.natAbs*a.den):a+sgd s b=mkRat (sg s (b.num.natAbs*a.den-a.num.natAbs*b.den)) (a.den*b.den):=by
 have:=zQO h (n:=a.num.natAbs) (m:=b.num.natAbs) a.den_nz b.den_nz hle;rw[kK] at this;exact this
theorem zZI{a b:Rat}{s:Prop}(h:(a.num<0)↔s)(hd:a.den=b.den):a+sgd s b=mkRat (sg s (a.num.natAbs+b.num.natAbs)) a.den:=by
 rw[zEF h,<-hd,<-Nat.add_mul,zFY _ _ _ a.den_nz]
theorem zUO{a b:Rat}{s:Prop}(h:¬((a.num<0)↔s))(hd:a.den=b.den)(hle:b.num.natAbs<=a.num.natAbs):a+sgd s b=mkRat (sg (a.num<0) (a.num.natAbs-b.num.natAbs)) a.den:=by
 rw[zDY h (by rw[<-hd];exact Nat.mul_le_mul_right _ hle),<-hd,<-Nat.sub_mul,zFY _ _ _ a.den_nz]
theorem zR3{a b:Rat}{s:Prop}(h:¬((a.num<0)↔s))(hd:a.den=b.den)(hle:a.num.natAbs<=b.num.natAbs):a+sgd s b=mkRat (sg s (b.num.natAbs-a.num.natAbs)) a.den:=by
 rw[zAJ h (by rw[<-hd];exact Nat.mul_le_mul_right _ hle),<-hd,<-Nat.sub_mul,zFY _ _ _ a.den_nz]
theorem zW0(a b:Rat):mkRat (sg (¬((a.num<0)↔(b.num<0))) (a.num.natAbs*b.num.natAbs)) (a.den*b.den)=a*b:=by
 rw[<-zW2,kK,kK]
theorem zVR(a:Rat){b:Rat}(hb:b≠0):mkRat (sg (¬((a.num<0)↔(b.num<0))) (a.num.natAbs*b.den)) (a.den*b.num.natAbs)=a/b:=by
 rw[<-zO7 _ _ a.den_nz (zFR.2 hb) b.den_nz,kK,kK]
theorem bQ{q:Rat}(h:(↑(zB q.num.natAbs).length:Int)=0):q=0:=by
 refine Classical.byContradiction λC=>?_;have:=yQ.2 (zFR.2 C);omega
theorem uP{q:Rat}:yR q=0↔q=0:=by
 refine⟨λh=>?_,aL⟩;unfold yR at h
 by_cases h1:q=0
 · exact h1
 · rw[if_neg h1] at h;split at h<;>omega
noncomputable def zF0(a b:Rat):Rat:=if b<a then b else a
noncomputable def zDR(a b:Rat):Rat:=if a<b then b else a
noncomputable def zGD:Rat:=mkRat (sg False 1) 2
theorem yBK:lq zGD<=1:=y6 (by rw[gE zoa zoa];simp) (by rw[gE zoa zoa];simp) zoa
theorem zXY:zGD=1/2:=by
 unfold zGD;rw[pY,eM id]
 rfl
noncomputable def zCJ(a b:Rat):Rat:=(a+b)*zGD
theorem yGL(a b:Rat):lq (zCJ a b)<=lq a+lq b+2:=by
 have h1:=iI (a+b) zGD;have h2:=aY a b;have h3:=yBK;unfold zCJ;omega
noncomputable def floorQ(q:Rat):Rat:=((q.floor:Int):Rat)
def kN(k:Int):Nat:=(min (max k 0) 4096).toNat
noncomputable def yDC(q:Rat)(k:Int):Rat:=mkRat (q*(2^kN k:Nat)).floor (2^kN k)
noncomputable def upQ(q:Rat)(k:Int):Rat:=-yDC (-q) k
theorem zQW(a b:Rat):lq (if b=0 then 0 else a/b)<=lq a+lq b:=by
 have:=yGK a b;have h1:=zCL a
 split
 · rw[zBC];omega
 · exact this
theorem zUP{p:Prop} [Decidable p](h:(if p then 7 else 0:Int)=0):¬p:=by
 intro C;rw[if_pos C] at h;omega
theorem zUQ{p:Prop} [Decidable p](h:¬(if p then 7 else 0:Int)=0):p:=by
 refine Classical.byContradiction λC=>h ?_;rw[if_neg C]
noncomputable def yKF(q:Rat):Int:=max (↑(uH q.num.natAbs):Int) ↑(uH q.den)
theorem gR{n:Int}(h1:-9223372036854775808<=n)(h2:n<9223372036854775808):(zB n.natAbs).length<=2:=kW zoa
noncomputable def jW(n d:Int):Rat:=(n:Rat)/(d:Rat)
theorem zF2(n:Int):jW n 0=0:=by
 unfold jW;have:((0:Int):Rat)=0:=I;rw[this];grind
theorem zJ7(n:Int):mkRat (sg (n<0) n.natAbs) 1=(n:Rat):=by
 have e:sg (n<0) n.natAbs=n:=by
  by_cases h:n<0
  · rw[eH h];omega
  · rw[eL h];omega
 rw[e,Rat.mkRat_one]
theorem zMI{n d:Int}(hd:d≠0):mkRat (sg (¬((n<0)↔(d<0))) n.natAbs) d.natAbs=jW n d:=by
 unfold jW;rw[<-zJ7 n,<-zJ7 d,zO7 _ _ zoa zoa zoa,Nat.mul_one,Nat.one_mul]
theorem sY(n:Int)(h1:-9223372036854775808<=n)(h2:n<9223372036854775808):lq (n:Rat)<=2:=by
 rw[<-zJ7];exact y6 (gR h1 h2) (by rw[zJ4];omega) zoa
theorem zBD{n d:Int}(h1:-9223372036854775808<=n)(h2:n<9223372036854775808)(h3:-9223372036854775808<=d)(h4:d<9223372036854775808):lq (jW n d)<=2:=by
 by_cases hd:d=0
 · subst hd;rw[zF2,zBC];omega
 · rw[<-zMI hd];exact y6 (gR h1 h2) (gR h3 h4) zoa
def dV(ys:List Nat):Nat:=if ys=[] then 1 else val ys
def yDH(xs:List Nat):Prop:=xs=[]\/xs.getD (xs.length-1) 0≠0
def badP(xs ys:List Nat):Prop:=((¬yDH xs)\/(¬yDH ys))\/((↑ys.length:Int)=1/\ys.getD 0 0=1)
def validP(s:Prop)(xs ys:List Nat):Prop:=¬badP xs ys/\((xs=[]->¬s/\ys=[])/\(xs≠[]->ys=[]\/Nat.gcd (val xs) (val ys)=1))
theorem zMO{xs:List Nat}:(↑xs.length:Int)=0↔xs=[]:=⟨λh=>List.eq_nil_of_length_eq_zero zoa,λh=>by rw[h];rfl⟩
theorem zGF{g:Nat}(h:¬((↑(zB g).length:Int)≠1\/(zB g).getD 0 0≠1)):g=1:=
 oK.1 ⟨Classical.not_not.1 λe=>h (.inl e),Classical.not_not.1 λe=>h (.inr e)⟩
theorem zYM{a b:Rat}:(((a.num<0)↔(b.num<0))/\rN a.num.natAbs b.num.natAbs=0)/\rN (wQ a.den) (wQ b.den)=0↔a=b:=by
 rw[zCX,zCX,<-zK8];constructor
 · rintro⟨⟨h1,h2⟩,h3⟩
   exact⟨⟨h1,by rw[h2]⟩,by rw[h3]⟩
 · rintro⟨⟨h1,h2⟩,h3⟩
   exact⟨⟨h1,dM h2⟩,dM h3⟩
theorem yBM{q:Rat}:(↑(zB q.num.natAbs).length:Int)=0↔q=0:=by
 refine⟨bQ,λh=>?_⟩;subst h;rw[show(0:Rat).num.natAbs=0 from I,xL];rfl
theorem zFQ{q:Rat}(h:¬(↑(zB q.num.natAbs).length:Int)=0):q≠0:=λe=>h (yBM.2 e)
theorem zZJ{a b:Rat}(h:(a.num<0)↔(b.num<0)):mkRat (sg (a.num<0) (a.num.natAbs*b.den+b.num.natAbs*a.den)) (a.den*b.den)=a+b:=by
 have:=zEF (a:=a) (b:=b) h;rw[zAP,zJZ h.symm] at this;exact this.symm
theorem yIE{a b:Rat}(h:¬((a.num<0)↔(b.num<0)))(hle:b.num.natAbs*a.den<=a.num.natAbs*b.den):mkRat (sg (a.num<0) (a.num.natAbs*b.den-b.num.natAbs*a.den)) (a.den*b.den)=a+b:=by
 have:=zDY (a:=a) (b:=b) h hle;rw[zAP] at this;exact this.symm
theorem yID{a b:Rat}(h:¬((a.num<0)↔(b.num<0)))(hle:a.num.natAbs*b.den<=b.num.natAbs*a.den):mkRat (sg (b.num<0) (b.num.natAbs*a.den-a.num.natAbs*b.den)) (a.den*b.den)=a+b:=by
 have:=zAJ (a:=a) (b:=b) h hle;rw[zAP] at this;exact this.symm
theorem zNL{h:Mem}{v:Value}{n:Int}(s:Us .u32 h v (zB n.natAbs)):Us .u32 h v (zB (n:Rat).num.natAbs):=by
 rw[Rat.num_intCast];exact s
theorem zNM{h:Mem}{n:Int}:Us .u32 h (.slice none 0 0) (zB (wQ (n:Rat).den)):=by
 rw[Rat.den_intCast,bV,xL];exact Us.nil _ _
theorem vC.int{h:Mem}{v:Value}{n:Int}(s:Us .u32 h v (zB n.natAbs)):vC h (.agg #[vB (n<0),v,.slice none 0 0]) (n:Rat):=
 ⟨v,.slice none 0 0,by rw[Rat.num_intCast],zNL s,zNM⟩
theorem zIG:jW 1 2=zGD:=by rw[zXY];rfl
noncomputable def numQ(s:Prop)(xs ys:List Nat):Rat:=mkRat (sg s (val xs)) (dV ys)
end Bk
namespace Bk
open Go Go.RowKit
def gD(k:Nat)(v:Value)(lo hi mx:Nat):Value:=
 match v with
 | .slice a _ _=>.slice (if mx=lo then a else a.map (·.add (lo*k))) (hi-lo) (mx-lo)
 |_=>undef
section
variable {P:Program}{n:Nat}{w0:World}{h0:Mem}{e:List (Nat×Value)}{L:List Res}{h:Mem}{Q:Exit->Act->World->Prop}
variable {ds:Option Tmp}{ty:TypeId}{ps:String}{af:Array Edge}{gd:Option (Nat×Bool)}
theorem Sl.sub3{h:Mem}{k:Nat}{v:Value}{m:Nat}{cs:List Value}(s:Sl h k v m cs){lo hi mx:Nat}(h1:lo<=hi)(h2:hi<=mx)(h3:mx<=m):Sl h k (gD k v lo hi mx) (hi-lo) ((cs.drop (lo*k)).take ((hi-lo)*k)):=by
 obtain⟨a,Z,rfl,h4,h5,U,O⟩:=s;refine⟨_,_,I,by omega,by omega,?_,λi H=>?_⟩
 · rw[List.length_take,List.length_drop,U]
   have:=Nat.mul_le_mul_right k (show lo+(hi-lo)<=m by omega);rw[Nat.add_mul] at this;omega
 · rw[List.length_take,List.length_drop] at H
   have D:i<(hi-lo)*k:=by omega
   have C:0<(hi-lo)*k:=by omega
   have G:lo<hi:=by
    rcases Nat.lt_or_ge lo hi with h'|h'
    · exact h'
    · rw[show hi-lo=0 by omega,Nat.zero_mul] at C;omega
   obtain⟨b,o,M,J⟩:=O (lo*k+i) zoa;subst M;refine⟨b,o+lo*k,by rw[if_neg zoa];simp[jQ],?_⟩;rw[List.getElem?_take,if_pos D,List.getElem?_drop,<-J,Nat.add_assoc]
theorem Us.sub3{k:IntKind}{h:Mem}{v:Value}{xs:List Nat}(s:Us k h v xs){lo hi mx:Nat}(h1:lo<=hi)(h2:hi<=mx)(h3:mx<=xs.length):Us k h (gD 1 v lo hi mx) ((xs.drop lo).take (hi-lo)):=by
 have:=s.sl.sub3 h1 h2 h3;simp only[Nat.mul_one] at this;refine⟨?_,λx hx=>s.lt x (List.mem_of_mem_drop (List.mem_of_mem_take hx))⟩;have C:((xs.drop lo).take (hi-lo)).length=hi-lo:=by rw[List.length_take,List.length_drop];omega
 rw[C]
 simpa[us] using this
theorem St.own_shape{E:Nat}{k:IntKind}{v:Value}{xs:List Nat}{w:World}(S:St w0 h0 L h w)(hm:.us E k v xs∈L):∃a cap,v=.slice a xs.length cap/\xs.length<=cap/\cap<=maxLen/\(0<xs.length->∃g,a=some ⟨g,0,none⟩):=by
 obtain⟨D,C⟩:=S.ok _ hm
 rcases C with⟨rfl,h0'⟩|⟨g,cap,cur,rfl,hb,hg,hn,hcm,hcs,ht⟩
 · exact⟨none,0,by rw[h0'],by omega,by omega,λh=>by omega⟩
 · exact⟨_,cap,I,hn,hcm,λ_=>⟨g,I⟩⟩
theorem St.own_self{E:Nat}{k:IntKind}{v:Value}{xs:List Nat}{w:World}(S:St w0 h0 L h w)(hm:.us E k v xs∈L):v=fQ 1 v 0 xs.length:=by
 obtain⟨a,C,rfl,h1,h2,h3⟩:=S.own_shape hm;simp only[fQ,Nat.zero_mul,Nat.sub_zero]
 by_cases hc:C=0
 · rw[if_pos hc]
 · rw[if_neg hc]
   cases a with
   |none=>rfl
   |some x=>
    obtain⟨b,o,D⟩:=x;simp[Addr.add]
theorem zE7{E:Nat}{k:IntKind}{v:Value}{xs:List Nat}{t E':TypeId}{x lo:Operand}{p:Int}(hm:.us E k v xs∈L)(i:Nat)(ht:P.underlying t=some (.slice E'))(hsz:∀w,(Go.sizeOf E').run P w=.ok 1 w)(hx:zJ e x=some v)(hl:zJ e lo=some (vI p))
    (hp:p=(i:Int))(h1:i<=xs.length):OpV P n w0 h0 ⟨ds,.slice t x (some lo) none none,ty,ps,af,gd⟩ e L h (fQ 1 v i xs.length):=by
 intro a w J S;obtain⟨H,C,D,G,_⟩:=S.own_shape hm;exact jC i ht hsz hx hl ⟨H,C,D,G⟩ hp h1 a w J S
theorem zNZ{t E:TypeId}{w:World}(ht:P.underlying t=some (.slice E))(hsz:∀w,(Go.sizeOf E).run P w=.ok 1 w)(a:Option Addr)(m cap lo hi mx:Nat)(h1:lo<=hi)(h2:hi<=mx)(h3:mx<=cap):
 (Instr.sliceAt t (.slice a m cap) (some (vI lo)) (some (vI hi)) (some (vI mx))).run P w=.ok (gD 1 (.slice a m cap) lo hi mx) w:=by
 simp[Instr.sliceAt,Instr.slice,run_underlying ht,Instr.sliceBounds,Instr.sliceBound,asIntOf,vI,hsz,gD,h1,h2,h3]
theorem zLC{t E:TypeId}{w:World}(ht:P.underlying t=some (.slice E))(hsz:∀w,(Go.sizeOf E).run P w=.ok 1 w)(a:Option Addr)(m cap hi mx:Nat)(h2:hi<=mx)(h3:mx<=cap):
 (Instr.sliceAt t (.slice a m cap) none (some (vI hi)) (some (vI mx))).run P w=.ok (gD 1 (.slice a m cap) 0 hi mx) w:=by
 simp[Instr.sliceAt,Instr.slice,run_underlying ht,Instr.sliceBounds,Instr.sliceBound,asIntOf,vI,hsz,gD,h2,h3]
theorem zG6{E:Nat}{k:IntKind}{v:Value}{xs:List Nat}{t E':TypeId}{x lo hi mx:Operand}{p q r:Int}(hm:.us E k v xs∈L)(i j l:Nat)(ht:P.underlying t=some (.slice E'))(hsz:∀w,(Go.sizeOf E').run P w=.ok 1 w)(hx:zJ e x=some v)(hl:zJ e lo=some (vI p))(hh:zJ e hi=some (vI q))(hmx:zJ e mx=some (vI r))
    (hp:p=(i:Int))(hq:q=(j:Int))(hr:r=(l:Int))(h1:i<=j)(h2:j<=l)(h3:l<=xs.length):OpV P n w0 h0 ⟨ds,.slice t x (some lo) (some hi) (some mx),ty,ps,af,gd⟩ e L h (gD 1 v i j l):=by
 subst hp;subst hq;subst hr;intro a w C S;obtain⟨G,D,rfl,H,_⟩:=S.own_shape hm;have:=zNZ (P:=P) (w:=w) ht hsz G xs.length D i j l h1 h2 zoa;simp[execOp,C.eval hx,C.eval hl,C.eval hh,C.eval hmx,this]
theorem zE8{E:Nat}{k:IntKind}{v:Value}{xs:List Nat}{t E':TypeId}{x hi mx:Operand}{q r:Int}(hm:.us E k v xs∈L)(j l:Nat)(ht:P.underlying t=some (.slice E'))(hsz:∀w,(Go.sizeOf E').run P w=.ok 1 w)(hx:zJ e x=some v)(hh:zJ e hi=some (vI q))(hmx:zJ e mx=some (vI r))
    (hq:q=(j:Int))(hr:r=(l:Int))(h2:j<=l)(h3:l<=xs.length):OpV P n w0 h0 ⟨ds,.slice t x none (some hi) (some mx),ty,ps,af,gd⟩ e L h (gD 1 v 0 j l):=by
 subst hq;subst hr;intro a w D S;obtain⟨G,C,rfl,H,_⟩:=S.own_shape hm;have:=zLC (P:=P) (w:=w) ht hsz G xs.length C j l h2 zoa;simp[execOp,D.eval hx,D.eval hh,D.eval hmx,this]
theorem y3{E:Nat}{k:IntKind}{v u:Value}{xs:List Nat}{t E':TypeId}{x y:Operand}{q:Int}{lo:Nat}(hm:.us E k v xs∈L)(hu:u=fQ 1 v lo xs.length)(i:Nat)(ht:P.underlying t=some (.slice E'))(hsz:∀w,(Go.sizeOf E').run P w=.ok 1 w)(hx:zJ e x=some u)(hy:zJ e y=some (vI q))
    (hq:q=(i:Int))(hi:lo+i<xs.length):OpV P n w0 h0 ⟨ds,.indexAddr t x y,ty,ps,af,gd⟩ e L h (zM 1 v (lo+i)):=by
 subst hq;subst hu;intro a w G S;obtain⟨U,D,rfl,O,M,J⟩:=S.own_shape hm;obtain⟨g,rfl⟩:=J zoa;have C:¬D=lo:=by omega
 have h2:(i:Int)<((xs.length-lo:Nat):Int):=by omega
 have h3:(0:Int)<=(i:Int):=by omega
 simp only[fQ,if_neg C,Option.map_some,jQ,Nat.mul_one,Nat.zero_add] at hx;simp[execOp,G.eval hx,G.eval hy,Instr.indexAt,asIntOf,vI,run_underlying ht,h2,h3,hsz,zM,jQ];intro H;omega
theorem zXZ{ops:Array Oper}{l:List Oper}{E:Nat}{k:IntKind}{v:Value}{xs:List Nat}(hm:.us E k v xs∈L)(k':∀a cap,v=.slice a xs.length cap->xs.length<=cap->GL P n w0 h0 ops Q l e L h):GL P n w0 h0 ops Q l e L h:=by
 intro a w H S;obtain⟨G,cap,C,D,_⟩:=S.own_shape hm;exact k' G cap C D a w H S
theorem iL{ops:Array Oper}{l:List Oper}{A B:List Res}{r:Res}(k':GL P n w0 h0 ops Q l e (r::(A++B)) h):GL P n w0 h0 ops Q l e (A++r::B) h:=
 λa w Ev S=>k' a w Ev (S.perm List.perm_middle)
theorem zV9{f:Nat}{xs:List Operand}{ts:Array TypeId}{vs:List Value}{v:Value}(hcall:∀w,(callFunc f vs.toArray).run P w=.ok (.value v) w)(hvs:cK e xs vs):
 OpV P n w0 h0 ⟨ds,.call {callee:=.value (.func f),args:=xs.toArray,argTypes:=ts},ty,ps,af,gd⟩ e L h v:=by
 intro a w D S;have C:xs.toArray.map a.eval=vs.toArray:=by rw[List.map_toArray,D.evals hvs]
 simp only[execOp,resolve,Act.eval];simp[Deferred.ofValue,invoke,hcall,C]
theorem qZ.nil{ops:Array Oper}:qZ P n ops []:=λx hx=>by cases hx
theorem qZ.cons{ops:Array Oper}{i d E:Nat}{cs:List Value}{al:Als}(hop:(ops.getD i default).op=.alloc E)(hd:Nat.ble (d+1) n=true)(hz:∀w,∃z,(zeroValue E).run P w=.ok z w/\z.cells=cs.toArray)(h:qZ P n ops al):qZ P n ops ((i,(d,E,cs))::al):=by
 intro x hx
 rcases List.mem_cons.1 hx with rfl|hx
 · refine⟨Nat.le_of_ble_eq_true hd,λa w=>?_,λH G=>?_⟩
   · obtain⟨z,D,C⟩:=hz w
     simp only[execOp,hop,Instr.alloc,zKU,zTK];simp[D,newVar,newRow,newObj,Sem.run,C]
   · simp only[hop,zTK] at G
     cases G
 · exact h x hx
theorem uJ{E:TypeId}{i:TypeInfo}{z:Value}{cs:List Value}(hi:P.info? E=some i)(hz:i.zero=some z)(hc:z.cells=cs.toArray)(w:World):∃z,(zeroValue E).run P w=.ok z w/\z.cells=cs.toArray:=
 ⟨z,by simp[zeroValue,typeInfo,hi,hz],hc⟩
theorem kL{e:List (Nat×Value)}{al:Als}:∀x∈([]:Als),al.lookup x.1=some x.2/\e.lookup x.2.1=none:=λx hx=>by cases hx
theorem uK{e:List (Nat×Value)}{al al':Als}{y:Nat×(Nat×TypeId×List Value)}(h1:al.lookup y.1=some y.2)(h2:e.lookup y.2.1=none)(h:∀x∈al',al.lookup x.1=some x.2/\e.lookup x.2.1=none):∀x∈y::al',al.lookup x.1=some x.2/\e.lookup x.2.1=none:=by
 intro x hx
 rcases List.mem_cons.1 hx with rfl|hx
 · exact⟨h1,h2⟩
 · exact h x hx
end
end Bk
namespace Bk
open Go Go.RowKit
open Classical
def yDU(h:Mem):List Value->List Rat->Prop
  |cs,[]=>cs=[]
  |cs,q::qs=>∃vn vd rest,cs=vB (q.num<0)::vn::vd::rest/\Us .u32 h vn (zB q.num.natAbs)/\Us .u32 h vd (zB (wQ q.den))/\yDU h rest qs
def IsRats(h:Mem)(v:Value)(qs:List Rat):Prop:=∃cs,v=.agg cs.toArray/\yDU h cs qs
section
variable {P:Program}{n:Nat}{w0:World}{h0:Mem}{e:List (Nat×Value)}{L:List Res}{h:Mem}{Q:Exit->Act->World->Prop}
variable {ds:Option Tmp}{ty:TypeId}{ps:String}{af:Array Edge}{gd:Option (Nat×Bool)}
def zNI(P:Program)(c:Code)(Q:Exit->Act->World->Prop)(a:Act)(w:World):Prop:=
 ∀(b:Frame) (k:List Item) (cs:List Frame),∃x a' w',Q x a' w'/\Arrives P (lone (b.at a (.code c::.inLoop c::k)) cs w) b k cs x a' w'
theorem zMJ{c:Code}{a:Act}{w:World}(hw:c.wp P (Exit.then (zNI P c Q) Q) a w):zNI P c Q a w:=by
 intro b k cs;obtain⟨x,J,H,G,C⟩:=hw b (.inLoop c::k) cs
 cases x with
 |normal=>
  obtain⟨O,Z,U,M,D⟩:=G b k cs;exact⟨O,Z,U,M,.of_steps (Steps.trans C (.one step_inLoop)) D⟩
 |exit id=>exact⟨_,J,H,G,.pass (x:=.inLoop c) rfl (λ_ _=>.inl zoj) C⟩
 |goto l=>exact⟨_,J,H,G,.pass (x:=.inLoop c) rfl (λ_ _=>.inl zoj) C⟩
 |ret=>exact⟨_,J,H,G,.pass (x:=.inLoop c) rfl (λ_ _=>.inl zoj) C⟩
 |panic ch=>exact⟨_,J,H,G,.pass (x:=.inLoop c) rfl (λ_ _=>.inl zoj) C⟩
 |outgrown=>exact⟨_,J,H,G,.pass (x:=.inLoop c) rfl (λ_ _=>.inl zoj) C⟩
theorem fO{c:Code}(k:GC P n w0 h0 c (Exit.then (zNI P c Q) Q) e L h):GC P n w0 h0 (.loop c) Q e L h:=by
 intro a w E S b G cs;obtain⟨x,J,D,H,C⟩:=zMJ (k a w E S) b G cs;exact⟨x,J,D,H,.of_steps (.one step_loop) C⟩
theorem wG{c:Code}(k:GC P n w0 h0 c (Exit.then (zNI P c Q) Q) e L h):GQ n w0 h0 (Exit.then (zNI P c Q) Q) .normal e L h:=
 λa w E S=>zMJ (k a w E S)
theorem OpV.cv{o:Oper}{v v':Value}(hv:OpV P n w0 h0 o e L h v)(e':v=v'):OpV P n w0 h0 o e L h v':=e'▸hv
end
end Bk
namespace Bk
open Go Go.RowKit
section
variable {P:Program}{n:Nat}{w0:World}{h0:Mem}{e:List (Nat×Value)}{L:List Res}{h:Mem}
variable {ds:Option Tmp}{ty:TypeId}{ps:String}{af:Array Edge}{gd:Option (Nat×Bool)}
theorem gH{x:Operand}{b k:Nat}(hx:zJ e x=some (vP b k)):OpV P n w0 h0 ⟨ds,.nilCheck x,ty,ps,af,gd⟩ e L h (vP b k):=by
 intro a w C S;simp[execOp,C.eval hx]
theorem yE{t E:TypeId}{x y:Operand}{b k m sz:Nat}{q:Int}(i:Nat)(ht:P.underlying t=some (.array m E))(hsz:∀w,(Go.sizeOf E).run P w=.ok sz w)(hx:zJ e x=some (vP b k))(hy:zJ e y=some (vI q))(hq:q=(i:Int))(hi:i<m):
 OpV P n w0 h0 ⟨ds,.indexAddr t x y,ty,ps,af,gd⟩ e L h (vP b (k+i*sz)):=by
 subst hq;intro a w C S;simp[execOp,C.eval hx,C.eval hy,Instr.indexAt,vI,asIntOf,run_underlying ht,hsz,Instr.sureAddr,hi,jQ]
theorem zJN{t E:TypeId}{m sz:Nat}{i:TypeInfo}{z:Value}{parts:List (Nat×Operand)}{ps':List (Nat×Value)}{vs:List Value}(ht:P.underlying t=some (.array m E))(hi:P.info? t=some i)(hz:i.zero=some z)
    (hsz:∀w,(Go.sizeOf E).run P w=.ok sz w)(hp:eC e parts ps')(hf:Instr.fill (λi=>some (i*sz,sz)) z.cells ps'=some vs.toArray):
    OpV P n w0 h0 ⟨ds,.build t parts.toArray,ty,ps,af,gd⟩ e L h (.agg vs.toArray):=by
 intro a w G S;have D:(parts.toArray.map λ(p:Nat×Operand)=>(p.1,a.eval p.2)).toList=ps':=by
  rw[List.map_toArray];exact hp.eval G
 have C:(zeroValue t).run P w=.ok z w:=by simp[zeroValue,typeInfo,hi,hz]
 simp only[execOp,Instr.build];rw[show(parts.toArray.map λ(i,x)=>(i,a.eval x)).toList=ps' from D];simp only[Sem.run_bind,C,Result.andThen_ok,run_underlying ht,hsz,hf]
 rfl
end
theorem zTL{x:Int}(h:(Lit.int .i64 x).wf=true):-9223372036854775808<=x/\x<9223372036854775808:=by
 simp only[Lit.wf,Bool.and_eq_true,decide_eq_true_eq] at h;simp[IntKind.min,IntKind.max,IntKind.signed,IntKind.bits] at h;omega
theorem zIV{xs:List Nat}(h:∀x∈xs,x<256):byt (qL xs)=xs:=by
 simp only[byt,qL,List.map_map]
 conv=>rhs;rw[<-List.map_id xs]
 refine List.map_congr_left λx hx=>?_;simp only[Function.comp,id];exact Nat.mod_eq_of_lt (h x hx)
end Bk
namespace Bk
open Go Go.RowKit
open Classical
structure Is(h:Mem)(v:Value)(xs:List Int):Prop where
 sl:Sl h 1 v xs.length (xs.map vI)
 rng:∀x∈xs,-9223372036854775808<=x/\x<9223372036854775808
theorem Is.mono{h h':Mem}{v:Value}{xs:List Int}(s:Is h v xs)(hh:MLe h h'):Is h' v xs:=⟨s.sl.mono hh,s.rng⟩
theorem Is.nil(h:Mem):Is h (.slice none 0 0) []:=⟨Sl.nil h 1,by simp⟩
theorem Is.one{h:Mem}{v:Value}{xs:List Int}(s:Is h v xs):∃a cap,v=.slice a xs.length cap:=s.sl.one
theorem Is.lt63{h:Mem}{v:Value}{xs:List Int}(s:Is h v xs):xs.length<9223372036854775808:=s.sl.lt63
theorem Is.cells{h:Mem}{v:Value}{xs:List Int}(s:Is h v xs):v.cells=[v].toArray:=by
 obtain⟨a,C,rfl⟩:=s.one
 rfl
theorem is_of_row{w:World}{a:Option Addr}{len cap:Nat}{zs:List Int}
    (h:(a=none/\len=0/\cap=0/\zs=[])\/∃x,a=some x/\len<=cap/\cap<=maxLen/\zs.length=cap/\(∀i,i<zs.length->w.cell? (x.add i)=some (.int .i64 (zs.getD i 0)))/\∀n∈zs,(Lit.int .i64 n).wf=true):
    ∃xs:List Int,Is (mem w) (.slice a len cap) xs:=by
 rcases h with⟨rfl,rfl,rfl,rfl⟩|⟨x,rfl,h1,h2,h3,h4,h5⟩
 · exact⟨[],Is.nil _⟩
 · refine⟨zs.take len,⟨?_,?_⟩⟩
   · have J:(zs.take len).length=len:=by simp;omega
     rw[J];refine⟨_,cap,I,h1,h2,by simp;omega,λi hi=>?_⟩;have D:i<len:=by simp at hi;omega
     have G:=h4 i zoa;have C:(x.add 0).spot=none:=World.cell?_spot (h4 0 zoa);obtain⟨b,o,M⟩:=x;simp[Addr.add] at C;subst C;refine⟨b,o,I,?_⟩;rw[jQ] at G;rw[zHI G,List.getElem?_map,List.getElem?_take,if_pos D,List.getElem?_eq_getElem zoa];rw[List.getD_eq_getElem?_getD,List.getElem?_eq_getElem zoa]
     rfl
   · intro n H
     exact zTL (h5 n (List.mem_of_mem_take H))
section
variable {P:Program}{n:Nat}{w0:World}{h0:Mem}{e:List (Nat×Value)}{L:List Res}{h:Mem}{Q:Exit->Act->World->Prop}
variable {ds:Option Tmp}{ty:TypeId}{ps:String}{af:Array Edge}{gd:Option (Nat×Bool)}
theorem zH0{v:Value}{xs:List Int}{t E:TypeId}{x:Operand}(ht:P.underlying t=some (.slice E))(hx:zJ e x=some v)(hv:Is h v xs):
 OpV P n w0 h0 ⟨ds,.call {callee:=.builtin .len,args:=#[x],argTypes:=#[t]},ty,ps,af,gd⟩ e L h (vI (xs.length:Int)):=nZ ht hx hv.one
theorem zLO{v:Value}{xs:List Int}{t E:TypeId}{x y:Operand}{q:Int}(i:Nat)(ht:P.underlying t=some (.slice E))(hsz:∀w,(Go.sizeOf E).run P w=.ok 1 w)(hx:zJ e x=some v)(hy:zJ e y=some (vI q))
    (hv:Is h v xs)(hq:q=(i:Int))(hi:i<xs.length):OpV P n w0 h0 ⟨ds,.indexAddr t x y,ty,ps,af,gd⟩ e L h (zM 1 v i):=iA i ht hsz hx hy hv.sl hq hi zoa
theorem zOG{v:Value}{xs:List Int}{t:TypeId}{x:Operand}{i:Nat}(ha:∀w,(isAgg t).run P w=.ok false w)(hx:zJ e x=some (zM 1 v i))(hv:Is h v xs)(hi:i<xs.length):
 OpV P n w0 h0 ⟨ds,.load t x,ty,ps,af,gd⟩ e L h (vI (xs.getD i 0)):=
 zFC ha hx hv.sl (by rw[List.getElem?_map,List.getElem?_eq_getElem hi,List.getD_eq_getElem?_getD,List.getElem?_eq_getElem hi];rfl)
theorem zSQ{t yt:TypeId}{x y:Operand}{p q:Int}(hx:zJ e x=some (vI p))(hy:zJ e y=some (vI q))(h3:0<q):
 OpV P n w0 h0 ⟨ds,.binOp .rem t x y yt,ty,ps,af,gd⟩ e L h (vI (p.tmod q)):=by
 intro a w E S;have C:q≠0:=by omega
 simp[execOp,E.eval hx,E.eval hy,vI,xQ,binOp,Op.intDiv,C]
theorem zSR{t yt:TypeId}{x y:Operand}{p q:Int}(hx:zJ e x=some (vI p))(hy:zJ e y=some (vI q))(h1:-9223372036854775808<=p)(h2:p<9223372036854775808)(h3:0<q):
 OpV P n w0 h0 ⟨ds,.binOp .quo t x y yt,ty,ps,af,gd⟩ e L h (vI (p.tdiv q)):=by
 intro a w E S;have G:q≠0:=by omega
 have C:-9223372036854775808<=p.tdiv q/\p.tdiv q<9223372036854775808:=by
  rcases Int.le_total 0 p with hp|hp
  · rw[Int.tdiv_eq_ediv_of_nonneg hp]
    have J:0<=p/q:=Int.ediv_nonneg hp zoa;have H:p/q<=p:=Int.ediv_le_self q hp;omega
  · have D:(-p).tdiv q=(-p)/q:=Int.tdiv_eq_ediv_of_nonneg zoa
    rw[Int.neg_tdiv] at D;have J:0<=(-p)/q:=Int.ediv_nonneg zoa zoa;have H:(-p)/q<= -p:=Int.ediv_le_self q zoa;omega
 simp[execOp,E.eval hx,E.eval hy,vI,xQ,binOp,Op.intDiv,G,w8 (x:=p.tdiv q) C.1 C.2]
end
def lJ(w0:World)(h0:Mem)(h:Mem)(L:List Res)(G:Mem->Value->Res->Prop):Ending->World->Prop:=
 tQ w0 h0 (λg v K=>∃q',(q'::L).Sublist K/\MLe h g/\G g v q')
section
variable {P:Program}{n:Nat}{w0:World}{h0:Mem}{e:List (Nat×Value)}{L:List Res}{h:Mem}{Q:Exit->Act->World->Prop}
variable {ty:TypeId}{ps:String}{af:Array Edge}
theorem yO{ops:Array Oper}{rest:List Oper}{d f:Nat}{xs:List Operand}{ts:Array TypeId}{vs:List Value}{A B:List Res}{q:Res}{G:Mem->Value->Res->Prop}(hcall:∀args w,(callFunc f args).run P w=.ok (.enter f args) w)(hvs:cK e xs vs)
    (hc:∀X w,St w0 h0 (q::X) h w->Calls P f vs.toArray w (lJ w0 h0 h X G))(hn:Nat.ble (d+1) n=true)(k:∀v g q',MLe h g->G g v q'->GL P n w0 h0 ops Q rest ((d,v)::e) (A++q'::B) g):
    GL P n w0 h0 ops Q (⟨some d,.call {callee:=.value (.func f),args:=xs.toArray,argTypes:=ts},ty,ps,af,none⟩::rest) e (A++q::B) h:=by
 refine iL ?_;refine nF I I I hn hcall hvs (hc (A++B)) ?_
 rintro v g K ⟨q',D,C,H⟩
 have:=k v g q' C H;exactλa w J S=>this a w J ((S.sublist D).perm List.perm_middle.symm)
section
variable {ops:Array Oper}{R:List Res}{d:Nat}
theorem mU{W':List (Nat×Value)->List Res->Mem->Prop}{f:Nat}{xs:List Operand}{ts:Array TypeId}{vs:List Value}{A B:List Res}{q:Res}{G:Mem->Value->Res->Prop}(hcall:∀args w,(callFunc f args).run P w=.ok (.enter f args) w)(hvs:cK e xs vs)
    (hc:∀X w,St w0 h0 (q::X) h w->Calls P f vs.toArray w (lJ w0 h0 h X G))(hn:Nat.ble (d+1) n=true)(hR:∀r∈R,∀q',r∈A++q::B->r∈A++q'::B)
    (k:∀v g q',MLe h g->G g v q'->W' ((d,v)::e) (A++q'::B) g):
    jU P n w0 h0 ops R ⟨some d,.call {callee:=.value (.func f),args:=xs.toArray,argTypes:=ts},ty,ps,af,none⟩ e (A++q::B) h W':=by
 intro X a w E S;have S1:St w0 h0 (q::(A++B++X)) h w:=S.perm zoj;unfold qQ;rw[if_pos (wn I)];have C:xs.toArray.map a.eval=vs.toArray:=by rw[List.map_toArray,E.evals hvs]
 have H:(execOp a.eval ⟨some d,.call {callee:=.value (.func f),args:=xs.toArray,argTypes:=ts},ty,ps,af,none⟩).run P w=.ok (.enter f vs.toArray) w:=by
  simp only[execOp,resolve,Act.eval];simp[Deferred.ofValue,invoke,hcall,C]
 rw[H];refine(hc _ w S1).mono ?_
 rintro e' J ⟨v,g,K,rfl,⟨q',O,D,U⟩,S'⟩
 have Z:St w0 h0 (A++q'::B++X) g J:=(S'.sublist O).perm (by simpa using List.perm_middle.symm);exact⟨v,I,λd' M=>(by cases M;exact Nat.le_of_ble_eq_true hn),A++q'::B,g,D,λhh r H=>hR r H q' (hh r H),Z,k v g q' D U⟩
theorem zMH{A B:List Res}{q:Res}:∀r∈A++B,r∈A++q::B:=by
 intro r C;simp only[List.mem_append,List.mem_cons] at C ⊢
 rcases C with h|h
 · exact .inl h
 · exact .inr (.inr h)
theorem qH{Q:Exit->Act->World->Prop}{id:Nat}{l:List Oper}{A B:List Res}{q:Res}(m:Nat)(al:Als)(ord:List (Nat×Kd))(hm:P.follows .mixedOrders=true)(hal:qZ P n l.toArray al)
    (hchk:(Region.noSelect l.toArray&&cF l.toArray al&&(al.all λx=>decide (x.1<m))&&chk l.toArray m ord (Array.replicate l.length false) (al.map (·.1)))=true)(hae:∀x∈al,al.lookup x.1=some x.2/\e.lookup x.2.1=none)
    (k:W P n w0 h0 l.toArray Q (A++B) al ord e (A++q::B) h):GC P n w0 h0 (.region id l.toArray true) Q e (A++q::B) h:=zK m (A++B) al ord hm hal hchk hae zMH k
theorem xJ{R A B:List Res}{q:Res}(hR:∀r∈R,r∈A++B):∀r∈R,∀q',r∈A++q::B->r∈A++q'::B:=λr hr q' _=>zMH r (hR r hr)
end
end
def iG(p q:Int):Int:=if p.tmod q<0 then p.tmod q+q else p.tmod q
theorem zEN(p:Int){q:Int}(hq:0<q):-q<p.tmod q/\p.tmod q<q:=by
 have h1:=Int.tmod_lt_of_pos p hq;have h2:=Int.tmod_lt_of_pos (-p) hq;rw[Int.neg_tmod] at h2;omega
theorem j9(p:Int){q:Int}(hq:0<q):0<=iG p q/\iG p q<q:=by
 have:=zEN p hq;unfold iG
 split<;>omega
def yCY(n:Int):Int:=1+iG (n.tdiv 17) 12
noncomputable def zQH(n:Int):Rat:=jW (iG n (yCY n+1)) (yCY n)
theorem zT0{v:Value}(h:v.oneCell'=true):v.cells=#[v]:=by cases v<;>simp[Value.oneCell'] at h<;>rfl
structure Rp(α:Type) where
 n:Nat
 agg:Bool
 R:Mem->List Value->α->Prop
 len:∀{h cs x},R h cs x->cs.length=n
 mono:∀{h h' cs x},MLe h h'->R h cs x->R h' cs x
 one:∀{h cs x},R h cs x->cs.all (·.oneCell')=true
 cell:agg=false->n=1
section
variable {α β γ δ:Type}
def Rp.val(ρ:Rp α)(cs:List Value):Value:=if ρ.agg then .agg cs.toArray else cs.headD undef
def Rp.Is(ρ:Rp α)(h:Mem)(v:Value)(x:α):Prop:=∃cs,ρ.R h cs x/\v=ρ.val cs
theorem Rp.Is.mono{ρ:Rp α}{h h':Mem}{v:Value}{x:α}(s:ρ.Is h v x)(hh:MLe h h'):ρ.Is h' v x:=by
 obtain⟨cs,r,e⟩:=s;exact⟨cs,ρ.mono hh r,e⟩
theorem Rp.single{ρ:Rp α}{h:Mem}{cs:List Value}{x:α}(r:ρ.R h cs x)(ha:ρ.agg=false):∃c,cs=[c]/\c.oneCell'=true:=by
 have h1:=ρ.len r;have h2:=ρ.one r;rw[ρ.cell ha] at h1
 match cs,h1 with
 |[c],_=>exact⟨c,rfl,by simpa using h2⟩
theorem Rp.cells_val{ρ:Rp α}{h:Mem}{cs:List Value}{x:α}(r:ρ.R h cs x):(ρ.val cs).cells=cs.toArray:=by
 unfold Rp.val
 split
 · rfl
 · rename_i ha
   obtain⟨c,rfl,C⟩:=Rp.single r (by simpa using ha);exact zT0 C
theorem Rp.Is.cells{ρ:Rp α}{h:Mem}{v:Value}{x:α}(s:ρ.Is h v x):∃cs,ρ.R h cs x/\v.cells=cs.toArray:=by
 obtain⟨cs,r,rfl⟩:=s;exact⟨cs,r,Rp.cells_val r⟩
theorem Rp.Is.cast{ρ:Rp α}{h:Mem}{v:Value}{x y:α}(s:ρ.Is h v x)(e:x=y):ρ.Is h v y:=e▸s
def RL(ρ:Rp α)(h:Mem):List Value->List α->Prop
  |cs,[]=>cs=[]
  |cs,x::xs=>∃a b,cs=a++b/\ρ.R h a x/\RL ρ h b xs
theorem RL.len{ρ:Rp α}{h:Mem}:∀{xs:List α} {cs:List Value},RL ρ h cs xs->cs.length=xs.length*ρ.n
  |[],_,r=>by rw[r];simp
  |x::xs,_,⟨a,b,e,r,s⟩=>by rw[e,lAz,ρ.len r,s.len,lC,Nat.add_mul];omega
theorem RL.mono{ρ:Rp α}{h h':Mem}(hh:MLe h h'):∀{xs:List α} {cs:List Value},RL ρ h cs xs->RL ρ h' cs xs
  |[],_,r=>r
  |_::_,_,⟨a,b,e,r,s⟩=>⟨a,b,e,ρ.mono hh r,s.mono hh⟩
theorem RL.one{ρ:Rp α}{h:Mem}:∀{xs:List α} {cs:List Value},RL ρ h cs xs->cs.all (·.oneCell')=true
  |[],_,r=>by rw[r];rfl
  |_::_,_,⟨a,b,e,r,s⟩=>by rw[e,List.all_append,ρ.one r,s.one];rfl
theorem RL.append{ρ:Rp α}{h:Mem}:∀{xs ys:List α} {cs ds:List Value},RL ρ h cs xs->RL ρ h ds ys->RL ρ h (cs++ds) (xs++ys)
  |[],_,_,_,r,s=>by rw[r];exact s
  |_::_,_,_,_,⟨a,b,e,r,s⟩,t=>⟨a,_,by rw[e,List.append_assoc],r,s.append t⟩
theorem RL.nil{ρ:Rp α}{h:Mem}:RL ρ h [] []:=rfl
theorem RL.drop{ρ:Rp α}{h:Mem}:∀{xs:List α} {cs:List Value} (i:Nat),RL ρ h cs xs->RL ρ h (cs.drop (i*ρ.n)) (xs.drop i)
  |_,_,0,r=>by simpa using r
  |[],_,i+1,r=>by rw[r];simp[RL]
  |_::xs,_,i+1,⟨a,b,e,r,s⟩=>by
   rw[e,show(i+1)*ρ.n=a.length+i*ρ.n by rw[ρ.len r,Nat.add_mul];omega,<-List.drop_drop,List.drop_left];exact s.drop i
theorem RL.take{ρ:Rp α}{h:Mem}:∀{xs:List α} {cs:List Value} (i:Nat),RL ρ h cs xs->RL ρ h (cs.take (i*ρ.n)) (xs.take i)
  |_,_,0,r=>by simp[RL]
  |[],_,i+1,r=>by rw[r];simp[RL]
  |_::xs,_,i+1,⟨a,b,e,r,s⟩=>by
   rw[e,show(i+1)*ρ.n=a.length+i*ρ.n by rw[ρ.len r,Nat.add_mul];omega,List.take_length_add_append];exact⟨a,_,rfl,r,s.take i⟩
theorem RL.get{ρ:Rp α}{h:Mem}{xs:List α}{cs:List Value}{i:Nat}{x:α}(r:RL ρ h cs xs)(hx:xs[i]?=some x):ρ.R h ((cs.drop (i*ρ.n)).take ρ.n) x:=by
 have h1:=r.drop i;obtain⟨hi,e⟩:=List.getElem?_eq_some_iff.1 hx;rw[List.drop_eq_getElem_cons hi,e] at h1;obtain⟨a,b,D,C,_⟩:=h1;rw[D,<-ρ.len C,List.take_left];exact C
theorem RL.set{ρ:Rp α}{h:Mem}{xs:List α}{cs ds:List Value}{i:Nat}{y:α}(r:RL ρ h cs xs)(hi:i<xs.length)(hd:ρ.R h ds y):RL ρ h (cs.take (i*ρ.n)++ds++cs.drop (i*ρ.n+ρ.n)) (xs.set i y):=by
 have h1:=r.take i;have h2:=r.drop (i+1);rw[Nat.add_mul,Nat.one_mul] at h2;rw[List.set_eq_take_append_cons_drop,if_pos hi,List.append_assoc];exact h1.append ⟨ds,_,I,hd,h2⟩
def rpQ(k:Nat):Rp Rat where
 n:=3
 agg:=true
 R h cs q:=(∃vn vd,cs=[vB (q.num<0),vn,vd]/\Us .u32 h vn (zB q.num.natAbs)/\Us .u32 h vd (zB (wQ q.den)))/\lq q<=k
 len:=by rintro h cs q ⟨⟨vn,vd,rfl,_⟩,_⟩;rfl
 mono:=by
  rintro h h' cs q hh ⟨⟨vn,vd,rfl,h1,h2⟩,h3⟩
  exact⟨⟨vn,vd,rfl,h1.mono hh,h2.mono hh⟩,h3⟩
 one:=by
  rintro h cs q ⟨⟨vn,vd,rfl,h1,h2⟩,h3⟩
  exact ocr rfl (ocu h1 (ocu h2 oc0))
 cell:=by simp
def rpI:Rp Int where
 n:=1
 agg:=false
 R _ cs z:=cs=[vI z]/\-9223372036854775808<=z/\z<9223372036854775808
 len:=by rintro h cs z ⟨rfl,_⟩;rfl
 mono:=λ_ r=>r
 one:=by rintro h cs z ⟨rfl,_⟩;rfl
 cell:=λ_=>rfl
def rpB:Rp Prop where
 n:=1
 agg:=false
 R _ cs p:=cs=[vB p]
 len:=by rintro h cs p rfl;rfl
 mono:=λ_ r=>r
 one:=by rintro h cs p rfl;rfl
 cell:=λ_=>rfl
def rpP(ρ:Rp α)(σ:Rp β):Rp (α×β) where
 n:=ρ.n+σ.n
 agg:=true
 R h cs x:=∃a b,cs=a++b/\ρ.R h a x.1/\σ.R h b x.2
 len:=by rintro h cs x ⟨a,b,rfl,h1,h2⟩;rw[lAz,ρ.len h1,σ.len h2]
 mono:=by rintro h h' cs x hh ⟨a,b,rfl,h1,h2⟩;exact⟨a,b,rfl,ρ.mono hh h1,σ.mono hh h2⟩
 one:=by rintro h cs x ⟨a,b,rfl,h1,h2⟩;rw[List.all_append,ρ.one h1,σ.one h2];rfl
 cell:=by simp
@[ext] structure T3(α:Type) where
 x:α
 y:α
 z:α
abbrev zT:T3 Rat:=T3.mk (0:Rat) 0 0
def T3.at(p:T3 α):Nat->α
  |0=>p.x
  |1=>p.y
  |_=>p.z
def T3.set(p:T3 α):Nat->α->T3 α
  |0,a=>⟨a,p.y,p.z⟩
  |1,a=>⟨p.x,a,p.z⟩
  |_,a=>⟨p.x,p.y,a⟩
def rpT(ρ:Rp α):Rp (T3 α) where
 n:=ρ.n+(ρ.n+ρ.n)
 agg:=true
 R h cs p:=(rpP ρ (rpP ρ ρ)).R h cs (p.x,p.y,p.z)
 len:=λr=>(rpP ρ (rpP ρ ρ)).len r
 mono:=λhh r=>(rpP ρ (rpP ρ ρ)).mono hh r
 one:=λr=>(rpP ρ (rpP ρ ρ)).one r
 cell:=by simp
def rpA(k:Nat)(ρ:Rp α):Rp (List α) where
 n:=k*ρ.n
 agg:=true
 R h cs xs:=xs.length=k/\RL ρ h cs xs
 len:=by rintro h cs xs ⟨rfl,r⟩;exact r.len
 mono:=λhh r=>⟨r.1,r.2.mono hh⟩
 one:=λr=>r.2.one
 cell:=by simp
def rpS(ρ:Rp α):Rp (List α) where
 n:=1
 agg:=false
 R h cs xs:=∃v ds,cs=[v]/\Sl h ρ.n v xs.length ds/\RL ρ h ds xs
 len:=by rintro h cs xs ⟨v,ds,rfl,_⟩;rfl
 mono:=by rintro h h' cs xs hh ⟨v,ds,rfl,h1,h2⟩;exact⟨v,ds,rfl,h1.mono hh,h2.mono hh⟩
 one:=by
  rintro h cs xs ⟨v,ds,rfl,h1,h2⟩
  obtain⟨a,cap,rfl⟩:=h1.one
  rfl
 cell:=λ_=>rfl
theorem wI{h:Mem}{z:Int}(h1:-9223372036854775808<=z)(h2:z<9223372036854775808):rpI.Is h (vI z) z:=⟨_,⟨rfl,h1,h2⟩,rfl⟩
theorem kJ{h:Mem}{v:Value}{z:Int}(s:rpI.Is h v z):v=vI z/\-9223372036854775808<=z/\z<9223372036854775808:=by
 obtain⟨cs,⟨rfl,h1,h2⟩,rfl⟩:=s;exact⟨I,h1,h2⟩
theorem yJT{h:Mem}(p:Prop):rpB.Is h (vB p) p:=⟨_,rfl,rfl⟩
theorem yF9{h:Mem}{v:Value}{p:Prop}(s:rpB.Is h v p):v=vB p:=by
 obtain⟨cs,rfl,rfl⟩:=s
 rfl
theorem s5{h:Mem}{v:Value}{q:Rat}{k:Nat}(s:vC h v q)(hk:lq q<=k):(rpQ k).Is h v q:=by
 obtain⟨C,D,rfl,h1,h2⟩:=s;exact⟨_,⟨⟨C,D,I,h1,h2⟩,hk⟩,I⟩
theorem of_q{h:Mem}{v:Value}{q:Rat}{k:Nat}(s:(rpQ k).Is h v q):vC h v q/\lq q<=k:=by
 obtain⟨cs,⟨⟨C,D,rfl,h1,h2⟩,G⟩,rfl⟩:=s;exact⟨⟨C,D,I,h1,h2⟩,G⟩
theorem qP{h:Mem}{v:Value}{q:Rat}{k:Nat}(s:(rpQ k).Is h v q):∃vn vd,v=.agg #[vB (q.num<0),vn,vd]/\Us .u32 h vn (zB q.num.natAbs)/\Us .u32 h vd (zB (wQ q.den))/\lq q<=k:=by
 obtain⟨cs,⟨⟨vn,vd,rfl,h1,h2⟩,C⟩,rfl⟩:=s;exact⟨vn,vd,I,h1,h2,C⟩
theorem yBQ{ρ:Rp α}{h:Mem}{v:Value}{xs:List α}{ds:List Value}(s:Sl h ρ.n v xs.length ds)(r:RL ρ h ds xs):(rpS ρ).Is h v xs:=⟨_,⟨v,ds,rfl,s,r⟩,rfl⟩
theorem zSV{ρ:Rp α}{h:Mem}{v:Value}{xs:List α}(s:(rpS ρ).Is h v xs):∃ds,Sl h ρ.n v xs.length ds/\RL ρ h ds xs:=by
 obtain⟨cs,⟨v,ds,rfl,h1,h2⟩,rfl⟩:=s;exact⟨ds,h1,h2⟩
theorem oN{ρ:Rp α}(h:Mem):(rpS ρ).Is h (.slice none 0 0) []:=yBQ (Sl.nil h _) rfl
theorem yI9{ρ:Rp α}{h:Mem}{v:Value}{xs:List α}(s:(rpS ρ).Is h v xs):xs.length<9223372036854775808:=by
 obtain⟨ds,h1,_⟩:=zSV s;exact h1.lt63
theorem yI8{ρ:Rp α}{h:Mem}{v:Value}{xs:List α}(s:(rpS ρ).Is h v xs):∃a cap,v=.slice a xs.length cap:=by
 obtain⟨ds,h1,_⟩:=zSV s;exact h1.one
structure Le(ρ σ:Rp α):Prop where
 n:ρ.n=σ.n
 agg:ρ.agg=σ.agg
 R:∀{h cs x},ρ.R h cs x->σ.R h cs x
theorem Le.refl(ρ:Rp α):Le ρ ρ:=⟨rfl,rfl,id⟩
theorem Le.q{k l:Nat}(h:k<=l):Le (rpQ k) (rpQ l):=⟨rfl,rfl,λ⟨a,b⟩=>⟨a,Nat.le_trans b h⟩⟩
theorem Le.p{ρ ρ':Rp α}{σ σ':Rp β}(h:Le ρ ρ')(k:Le σ σ'):Le (rpP ρ σ) (rpP ρ' σ'):=⟨by show ρ.n+σ.n=ρ'.n+σ'.n;rw[h.n,k.n],rfl,λ⟨a,b,e,r,s⟩=>⟨a,b,e,h.R r,k.R s⟩⟩
theorem Le.t{ρ ρ':Rp α}(h:Le ρ ρ'):Le (rpT ρ) (rpT ρ'):=⟨by show ρ.n+(ρ.n+ρ.n)=ρ'.n+(ρ'.n+ρ'.n);rw[h.n],rfl,λr=>(Le.p h (Le.p h h)).R r⟩
theorem Le.rl{ρ ρ':Rp α}(h:Le ρ ρ'){m:Mem}:∀{xs:List α} {cs:List Value},RL ρ m cs xs->RL ρ' m cs xs
  |[],_,r=>r
  |_::_,_,⟨a,b,e,r,s⟩=>⟨a,b,e,h.R r,h.rl s⟩
theorem Le.a{k:Nat}{ρ ρ':Rp α}(h:Le ρ ρ'):Le (rpA k ρ) (rpA k ρ'):=⟨by show k*ρ.n=k*ρ'.n;rw[h.n],rfl,λr=>⟨r.1,h.rl r.2⟩⟩
theorem Le.s{ρ ρ':Rp α}(h:Le ρ ρ'):Le (rpS ρ) (rpS ρ'):=⟨rfl,rfl,λ⟨v,ds,e,s,r⟩=>⟨v,ds,e,h.n▸s,h.rl r⟩⟩
theorem Rp.Is.le{ρ σ:Rp α}{h:Mem}{v:Value}{x:α}(s:ρ.Is h v x)(k:Le ρ σ):σ.Is h v x:=by
 obtain⟨cs,r,rfl⟩:=s;exact⟨cs,k.R r,by unfold Rp.val;rw[k.agg]⟩
structure Pc(ρ:Rp α)(off:Nat)(σ:Rp β)(g:α->β)(s:α->β->α):Prop where
 fits:off+σ.n<=ρ.n
 get:∀{h cs x},ρ.R h cs x->σ.R h ((cs.drop off).take σ.n) (g x)
 set:∀{h cs x ds y},ρ.R h cs x->σ.R h ds y->ρ.R h (cs.take off++ds++cs.drop (off+σ.n)) (s x y)
theorem Pc.here(ρ:Rp α):Pc ρ 0 ρ (λx=>x) (λ_ y=>y):=by
 refine⟨by omega,λr=>?_,λ{h cs x ds y} r s=>?_⟩
 · have:=ρ.len r
   rw[List.drop_zero,<-this,List.take_length];exact r
 · have:=ρ.len r
   rw[Nat.zero_add,<-this,List.drop_length,List.take_zero,List.nil_append,List.append_nil];exact s
theorem Pc.fst{ρ:Rp α}{σ:Rp β}{τ:Rp γ}{off:Nat}{g:α->γ}{s:α->γ->α}(p:Pc ρ off τ g s):Pc (rpP ρ σ) off τ (λx=>g x.1) (λx y=>(s x.1 y,x.2)):=by
 have J:=p.fits;refine⟨by show off+τ.n<=ρ.n+σ.n;omega,?_,?_⟩
 · rintro h cs x ⟨a,b,rfl,C,D⟩
   have H:=ρ.len C;have:=p.get C
   rwa [List.drop_append_of_le_length zoa,List.take_append_of_le_length (by rw[List.length_drop];omega)]
 · rintro h cs x ds y ⟨a,b,rfl,C,D⟩ G
   have H:=ρ.len C;refine⟨_,b,?_,p.set C G,D⟩;rw[List.take_append_of_le_length zoa,List.drop_append_of_le_length zoa];simp[List.append_assoc]
theorem Pc.snd{ρ:Rp α}{σ:Rp β}{τ:Rp γ}{off:Nat}{g:β->γ}{s:β->γ->β}(p:Pc σ off τ g s):Pc (rpP ρ σ) (ρ.n+off) τ (λx=>g x.2) (λx y=>(x.1,s x.2 y)):=by
 have J:=p.fits;refine⟨by show ρ.n+off+τ.n<=ρ.n+σ.n;omega,?_,?_⟩
 · rintro h cs x ⟨a,b,rfl,C,D⟩
   have G:=ρ.len C;have:=p.get D
   rwa [<-G,<-List.drop_drop,List.drop_left]
 · rintro h cs x ds y ⟨a,b,rfl,C,D⟩ H
   have G:=ρ.len C;refine⟨a,_,?_,C,p.set D H⟩;rw[<-G,List.take_length_add_append,Nat.add_assoc,<-List.drop_drop,List.drop_left];simp[List.append_assoc]
theorem Pc.tx{ρ:Rp α}{τ:Rp γ}{off:Nat}{g:α->γ}{s:α->γ->α}(p:Pc ρ off τ g s):Pc (rpT ρ) off τ (λx=>g x.x) (λx y=>⟨s x.x y,x.y,x.z⟩):=by
 have q:Pc (rpP ρ (rpP ρ ρ)) off τ _ _:=p.fst;exact⟨q.fits,λr=>q.get r,λr d=>q.set r d⟩
theorem Pc.ty{ρ:Rp α}{τ:Rp γ}{off:Nat}{g:α->γ}{s:α->γ->α}(p:Pc ρ off τ g s):Pc (rpT ρ) (ρ.n+off) τ (λx=>g x.y) (λx y=>⟨x.x,s x.y y,x.z⟩):=by
 have q:Pc (rpP ρ (rpP ρ ρ)) (ρ.n+off) τ _ _:=(Pc.fst (σ:=ρ) p).snd;exact⟨q.fits,λr=>q.get r,λr d=>q.set r d⟩
theorem Pc.tz{ρ:Rp α}{τ:Rp γ}{off:Nat}{g:α->γ}{s:α->γ->α}(p:Pc ρ off τ g s):Pc (rpT ρ) (ρ.n+(ρ.n+off)) τ (λx=>g x.z) (λx y=>⟨x.x,x.y,s x.z y⟩):=by
 have q:Pc (rpP ρ (rpP ρ ρ)) (ρ.n+(ρ.n+off)) τ _ _:=(Pc.snd (ρ:=ρ) p).snd;exact⟨q.fits,λr=>q.get r,λr d=>q.set r d⟩
theorem Pc.ta{ρ:Rp α}{τ:Rp γ}{off:Nat}{g:α->γ}{s:α->γ->α}(p:Pc ρ off τ g s)(i:Nat)(hi:i<3):Pc (rpT ρ) (i*ρ.n+off) τ (λx=>g (x.at i)) (λx y=>x.set i (s (x.at i) y)):=by
 match i,hi with
 |0,_=>rw[Nat.zero_mul,Nat.zero_add];exact p.tx
 |1,_=>rw[Nat.one_mul];exact p.ty
 |2,_=>rw[show 2*ρ.n+off=ρ.n+(ρ.n+off) by omega];exact p.tz
theorem Pc.arr{ρ:Rp α}{τ:Rp γ}{off k:Nat}{g:α->γ}{s:α->γ->α}(p:Pc ρ off τ g s)(d:α)(i:Nat)(hi:i<k):Pc (rpA k ρ) (i*ρ.n+off) τ (λx=>g (x.getD i d)) (λx y=>x.set i (s (x.getD i d) y)):=by
 have U:=p.fits;have O:i*ρ.n+ρ.n<=k*ρ.n:=by rw[<-Nat.succ_mul];exact Nat.mul_le_mul_right _ hi
 have hx:∀{x:List α},x.length=k->x[i]?=some (x.getD i d):=by
  intro x C;rw[List.getD_eq_getElem?_getD,List.getElem?_eq_getElem zoa];rfl
 refine⟨by show i*ρ.n+off+τ.n<=k*ρ.n;omega,?_,?_⟩
 · rintro h cs x ⟨C,r⟩
   have h1:=p.get (r.get (hx C));rw[List.drop_take,List.take_take,Nat.min_eq_left zoa,List.drop_drop] at h1;exact h1
 · rintro h cs x ds y ⟨C,r⟩ G
   have H:=r.len;rw[C] at H;refine⟨by simpa using C,?_⟩;have h1:=r.set (i:=i) zoa (p.set (r.get (hx C)) G);have e:cs.take (i*ρ.n)++(((cs.drop (i*ρ.n)).take ρ.n).take off++ds++((cs.drop (i*ρ.n)).take ρ.n).drop (off+τ.n))++cs.drop (i*ρ.n+ρ.n)=cs.take (i*ρ.n+off)++ds++cs.drop (i*ρ.n+off+τ.n):=by
    rw[List.take_take,Nat.min_eq_left zoa,List.drop_take,List.drop_drop];have M:cs.take (i*ρ.n+off)=cs.take (i*ρ.n)++(cs.drop (i*ρ.n)).take off:=List.take_add;have J:cs.drop (i*ρ.n+off+τ.n)=(cs.drop (i*ρ.n+(off+τ.n))).take (ρ.n-(off+τ.n))++cs.drop (i*ρ.n+ρ.n):=by
     have D:=List.take_append_drop (ρ.n-(off+τ.n)) (cs.drop (i*ρ.n+(off+τ.n)));rw[List.drop_drop,show i*ρ.n+(off+τ.n)+(ρ.n-(off+τ.n))=i*ρ.n+ρ.n by omega] at D;rw[Nat.add_assoc (i*ρ.n)];exact D.symm
    rw[M,J];simp[List.append_assoc]
   rw[<-e];exact h1
theorem yH{k:Nat}{h:Mem}(hk:1<=k):(rpQ k).R h [.bool false,.slice none 0 0,.slice none 0 0] 0:=by
 refine⟨⟨_,_,?_,zC6 h,zC7 h⟩,by rw[zBC];exact hk⟩;rw[yG (show ¬(0:Rat).num<0 by decide)]
theorem wL{h:Mem}:rpI.R h [.int .i64 0] 0:=⟨rfl,by decide,by decide⟩
theorem zRW{h:Mem}:rpB.R h [.bool false] False:=by show _=_;rw[yG (p:=False) id]
theorem yD{ρ:Rp α}{σ:Rp β}{h:Mem}{a b:List Value}{x:α}{y:β}(r:ρ.R h a x)(s:σ.R h b y):(rpP ρ σ).R h (a++b) (x,y):=⟨a,b,rfl,r,s⟩
theorem xN{ρ:Rp α}{h:Mem}{a:List Value}{x:α}(r:ρ.R h a x):(rpT ρ).R h (a++(a++a)) ⟨x,x,x⟩:=⟨a,_,rfl,r,a,a,rfl,r,r⟩
theorem wN{ρ:Rp α}{h:Mem}:(rpS ρ).R h [.slice none 0 0] []:=⟨_,[],rfl,Sl.nil h _,rfl⟩
theorem zKQ{ρ:Rp α}{h:Mem}{a:List Value}{x:α}(k:Nat)(r:ρ.R h a x):(rpA k ρ).R h (List.replicate k a).flatten (List.replicate k x):=by
 refine⟨List.length_replicate,?_⟩
 induction k with
 |zero=>rfl
 |succ k ih=>rw[List.replicate_succ,List.replicate_succ];exact⟨a,_,I,r,ih⟩
end
structure TyOk(P:Program)(t:TypeId)(n:Nat)(agg:Bool):Prop where
 sz:∀w,(Go.sizeOf t).run P w=.ok n w
 ag:∀w,(isAgg t).run P w=.ok agg w
section
variable {α β γ:Type}
variable {P:Program}{n:Nat}{w0:World}{h0:Mem}{e:List (Nat×Value)}{L:List Res}{h:Mem}{Q:Exit->Act->World->Prop}
variable {ds:Option Tmp}{ty:TypeId}{ps:String}{af:Array Edge}{gd:Option (Nat×Bool)}
theorem zE4:∀(vs:List Value) (k:Nat) (cs:List Value),k+vs.length<=cs.length->y2 cs k vs=cs.take k++vs++cs.drop (k+vs.length):=by
 have key:∀(vs:List Value) (j k:Nat) (cs:List Value),k+j+vs.length<=cs.length->(vs.zipIdx j).foldl (λc p=>c.set (k+p.2) p.1) cs=cs.take (k+j)++vs++cs.drop (k+j+vs.length):=by
  intro vs
  induction vs with
  |nil=>intro j k cs hl;simp
  |cons v vs ih=>
   intro j k cs hl;simp only[lC] at hl;rw[List.zipIdx_cons,List.foldl_cons,ih (j+1) k _ (by rw[lS];omega)];rw[List.set_eq_take_append_cons_drop,if_pos zoa];have h1:(cs.take (k+j)).length=k+j:=by rw[List.length_take];omega
   have e1:(cs.take (k+j)++v::cs.drop (k+j+1)).take (k+(j+1))=cs.take (k+j)++[v]:=by
    rw[show k+(j+1)=(cs.take (k+j)).length+1 by omega,List.take_length_add_append];rfl
   have e2:(cs.take (k+j)++v::cs.drop (k+j+1)).drop (k+(j+1)+vs.length)=cs.drop (k+j+(vs.length+1)):=by
    rw[show k+(j+1)+vs.length=(cs.take (k+j)).length+(vs.length+1) by omega,<-List.drop_drop,List.drop_left,List.drop_succ_cons,List.drop_drop]
    congr 1;omega
   rw[e1,e2];simp
 intro vs k cs hl;exact key vs 0 k cs zoa
def OpX(P:Program)(n:Nat)(w0:World)(h0:Mem)(o:Oper)(e:List (Nat×Value))(R:List Res)(h:Mem)(F:Value->Prop):Prop:=
 ∃v,(∀L' h',MLe h h'->(∀r∈R,r∈L')->OpV P n w0 h0 o e L' h' v)/\F v
theorem zKB{ops:Array Oper}{rest:List Oper}{d:Nat}{op:Op}{R:List Res}{F:Value->Prop}(hv:OpX P n w0 h0 ⟨some d,op,ty,ps,af,none⟩ e R h F)(hR:∀r∈R,r∈L)(hn:Nat.ble (d+1) n=true)
    (k:∀v,F v->GL P n w0 h0 ops Q rest ((d,v)::e) L h):GL P n w0 h0 ops Q (⟨some d,op,ty,ps,af,none⟩::rest) e L h:=by
 obtain⟨v,hv,C⟩:=hv;exact oP (hv L h (MLe.refl h) hR) I I hn (k v C)
section
variable {ops:Array Oper}{RR:List Res}{al:Als}{d i:Nat}{op:Op}{v:Value}{r:List (Nat×Kd)}{g t:Nat}{b:Bool}
theorem nK{R:List Res}{F:Value->Prop}(ho:ops.getD i default=⟨some d,op,ty,ps,af,none⟩)(hv:OpX P n w0 h0 ⟨some d,op,ty,ps,af,none⟩ e R h F)(hR:∀r∈R,r∈RR)(hn:Nat.ble (d+1) n=true)
    (k:∀v,F v->W P n w0 h0 ops Q RR al r ((d,v)::e) L h):W P n w0 h0 ops Q RR al ((i,.q)::r) e L h:=by
 obtain⟨v,hv,G⟩:=hv;exact w_q ho (λh' L' hh D=>hv L' h' hh λr C=>D r (hR r C)) hn (k v G)
theorem x_qx{K:List (Nat×Value)->List Res->Mem->Prop}{R:List Res}{F:Value->Prop}(ho:ops.getD i default=⟨some d,op,ty,ps,af,none⟩)(hv:OpX P n w0 h0 ⟨some d,op,ty,ps,af,none⟩ e R h F)(hR:∀r∈R,r∈RR)(hn:Nat.ble (d+1) n=true)
    (k:∀v,F v->K ((d,v)::e) L h):SQ P n w0 h0 ops RR i e L h K:=by
 obtain⟨v,hv,G⟩:=hv;exact x_q ho (λh' L' hh D=>hv L' h' hh λr C=>D r (hR r C)) hn (k v G)
theorem lO{R:List Res}{F:Value->Prop}(ho:ops.getD i default=⟨some d,op,ty,ps,af,some (g,b)⟩)(ht:(ops[g]?).bind (·.dst)=some t)(he:e.lookup t=some (.bool b))(hv:OpX P n w0 h0 ⟨some d,op,ty,ps,af,none⟩ e R h F)(hR:∀r∈R,r∈RR)(hn:Nat.ble (d+1) n=true)
    (k:∀v,F v->W P n w0 h0 ops Q RR al r ((d,v)::e) L h):W P n w0 h0 ops Q RR al ((i,.q)::r) e L h:=by
 obtain⟨v,hv,G⟩:=hv;exact yL ho ht he (λh' L' hh D=>hv L' h' hh λr C=>D r (hR r C)) hn (k v G)
theorem s_x{W':List (Nat×Value)->List Res->Mem->Prop}{R:List Res}{F:Value->Prop}(hv:OpX P n w0 h0 ⟨some d,op,ty,ps,af,none⟩ e R h F)(hR:∀r∈R,r∈L)(hn:Nat.ble (d+1) n=true)
    (k:∀v,F v->W' ((d,v)::e) L h):jU P n w0 h0 ops RR ⟨some d,op,ty,ps,af,none⟩ e L h W':=by
 obtain⟨v,hv,D⟩:=hv;exact yI7 (λX=>hv (L++X) h (MLe.refl h) λr C=>List.mem_append_left _ (hR r C)) hn (k v D)
end
theorem zBA{L:List Res}:∀r∈([]:List Res),r∈L:=λr hr=>by cases hr
theorem sW{L:List Res}{r:Res}(hr:r∈L):∀x∈[r],x∈L:=λx hx=>by cases hx with|head=>exact hr|tail _ h=>cases h
theorem zBE{t:TypeId}{σ:Rp β}{cs:List Value}{y:β}{w:World}{b o:Nat}(T:TyOk P t σ.n σ.agg)(r:σ.R h cs y)(hc:w.rangeAt b o cs):(Instr.loadAt t (vP b o)).run P w=.ok (σ.val cs) w:=by
 have C:=σ.len r;simp only[Instr.loadAt,Instr.sureAddr,loadVar,Sem.run_bind,T.ag,Result.andThen_ok,Sem.run_pure];unfold Rp.val
 cases ha:σ.agg with
 |true=>
  have D:(loadCells ⟨b,o,none⟩ cs.length).run P w=.ok cs.toArray w:=run_loadCells_list (P:=P) w ⟨b,o,none⟩ cs (λj v G=>by rw[Addr.add_mid];exact hc j v G);rw[C] at D;simp[Sem.run_bind,T.sz,D]
 |false=>
  obtain⟨c,rfl,_⟩:=Rp.single r ha;have:=hc 0 c I;simp only[Nat.add_zero] at this;simp[Go.load,Sem.run,this]
theorem zLK{t E:TypeId}{x:Operand}{b k off:Nat}{cs:List Value}{ρ:Rp α}{σ:Rp β}{g:α->β}{s:α->β->α}{X:α}{Z:β}(T:TyOk P t σ.n σ.agg)(pc:Pc ρ off σ g s)(ho:k=off)(hx:zJ e x=some (vP b k))(r:ρ.R h cs X)(hZ:g X=Z):
 OpX P n w0 h0 ⟨ds,.load t x,ty,ps,af,gd⟩ e [.var b E cs] h (λu=>σ.Is h u Z):=by
 subst hZ;subst ho;have h1:=pc.get r;refine⟨_,λL' h' _ G a w H S=>?_,_,h1,I⟩;have C:w.heap[b]?=some (.cells cs.toArray E):=S.ok (.var b E cs) (G _ (.head _));have D:=zBE (P:=P) (w:=w) T h1 (iS C k _ (by rw[σ.len h1]));simp[execOp,H.eval hx,D]
def AtP(ρ:Rp α)(h:Mem)(p:Value)(X:α):Prop:=∃b o cs,p=vP b o/\ρ.R h cs X/\∀j u,cs[j]?=some u->cell h b (o+j)=some u
theorem AtP.mono{ρ:Rp α}{h h':Mem}{p:Value}{X:α}(s:AtP ρ h p X)(hh:MLe h h'):AtP ρ h' p X:=by
 obtain⟨b,o,cs,e,r,D⟩:=s;exact⟨b,o,cs,e,ρ.mono hh r,λj u C=>zCY hh (D j u C)⟩
theorem rD{t E:TypeId}{x y:Operand}{q:Int}{v:Value}{ρ:Rp α}{xs:List α}(d:α)(i:Nat)(ht:P.underlying t=some (.slice E))(T:TyOk P E ρ.n ρ.agg)(hx:zJ e x=some v)(hy:zJ e y=some (vI q))(r:(rpS ρ).Is h v xs)(hq:q=(i:Int))(hi:i<xs.length)(hp:0<ρ.n):
 OpX P n w0 h0 ⟨ds,.indexAddr t x y,ty,ps,af,gd⟩ e [] h (λu=>AtP ρ h u (xs.getD i d)):=by
 obtain⟨cs,J,M⟩:=zSV r;have H:xs[i]?=some (xs.getD i d):=by rw[List.getD_eq_getElem?_getD,List.getElem?_eq_getElem hi];rfl
 have U:=M.get H;have C:=M.len;have hm:i*ρ.n+ρ.n<=cs.length:=by rw[C,<-Nat.succ_mul];exact Nat.mul_le_mul_right _ hi
 refine⟨zM ρ.n v i,λL' h' hh _=>iA i ht T.sz hx hy (J.mono hh) hq hi hp,?_⟩;have h0:(cs[i*ρ.n+0]?)=some (cs[i*ρ.n]'zoa):=by rw[Nat.add_zero,List.getElem?_eq_getElem]
 obtain⟨b,o,O,_⟩:=J.cell h0;refine⟨b,o,_,O,U,λj u D=>?_⟩;rw[List.getElem?_take] at D
 split at D
 · rw[List.getElem?_drop] at D
   obtain⟨b',o',G,Z⟩:=J.cell D;rw[O] at G;simp only[Value.pointer.injEq,Option.some.injEq,Addr.mk.injEq] at G;rw[G.1,G.2.1];exact Z
 · cases D
theorem zOE{t:TypeId}{x:Operand}{p:Value}{ρ:Rp α}{X:α}(T:TyOk P t ρ.n ρ.agg)(hx:zJ e x=some p)(r:AtP ρ h p X):OpX P n w0 h0 ⟨ds,.load t x,ty,ps,af,gd⟩ e [] h (λu=>ρ.Is h u X):=by
 obtain⟨b,o,cs,rfl,r,G⟩:=r;refine⟨_,λL' h' hh _ a w H S=>?_,_,r,I⟩;have C:=zBE (P:=P) (w:=w) T r (λj u D=>lG (hh.trans S.sub) (G j u D));simp[execOp,H.eval hx,C]
theorem zSP{t:TypeId}{x:Operand}{f off m:Nat}{fs:Array Field}{fl:Field}{p:Value}{ρ:Rp α}{σ:Rp β}{g:α->β}{s:α->β->α}{X:α}{Z:β}(ht:P.underlying t=some (.struct fs))(hf:fs[f]?=some fl)(hsz:∀w,(Go.sizeOf fl.type).run P w=.ok (m+1) w)(pc:Pc ρ off σ g s)(ho:fl.offset=off)(hx:zJ e x=some p)(r:AtP ρ h p X)(hZ:g X=Z):
 OpX P n w0 h0 ⟨ds,.fieldAddr t x f,ty,ps,af,gd⟩ e [] h (λu=>AtP σ h u Z):=by
 subst hZ;obtain⟨b,o,cs,rfl,r,D⟩:=r;subst ho;refine⟨_,λL' h' hh _=>xW ht hf hsz hx,b,_,_,I,pc.get r,λj u C=>?_⟩;rw[List.getElem?_take] at C
 split at C
 · rw[List.getElem?_drop] at C
   have:=D _ _ C
   rwa [<-Nat.add_assoc] at this
 · cases C
theorem zHZ{t E:TypeId}{x y:Operand}{m off:Nat}{q:Int}{p:Value}{ρ:Rp α}{σ:Rp β}{g:α->β}{s:α->β->α}{X:α}{Z:β}(i:Nat)(ht:P.underlying t=some (.array m E))(hsz:∀w,(Go.sizeOf E).run P w=.ok σ.n w)(pc:Pc ρ off σ g s)(ho:i*σ.n=off)(hx:zJ e x=some p)(hy:zJ e y=some (vI q))(r:AtP ρ h p X)(hq:q=(i:Int))(hi:i<m)(hZ:g X=Z):
 OpX P n w0 h0 ⟨ds,.indexAddr t x y,ty,ps,af,gd⟩ e [] h (λu=>AtP σ h u Z):=by
 subst hZ;obtain⟨b,o,cs,rfl,r,D⟩:=r;subst ho;refine⟨_,λL' h' hh _=>yE i ht hsz hx hy hq hi,b,_,_,I,pc.get r,λj u C=>?_⟩;rw[List.getElem?_take] at C
 split at C
 · rw[List.getElem?_drop] at C
   have:=D _ _ C
   rwa [<-Nat.add_assoc] at this
 · cases C
theorem uL{v:Value}{ρ:Rp α}{xs:List α}{t E:TypeId}{x:Operand}(ht:P.underlying t=some (.slice E))(hx:zJ e x=some v)(r:(rpS ρ).Is h v xs):
 OpV P n w0 h0 ⟨ds,.call {callee:=.builtin .len,args:=#[x],argTypes:=#[t]},ty,ps,af,gd⟩ e L h (vI (xs.length:Int)):=nZ ht hx (yI8 r)
theorem zZS{E t:TypeId}{b k off:Nat}{cs:List Value}{v:Value}{x y:Operand}{ρ:Rp α}{σ:Rp β}{g:α->β}{s:α->β->α}{X Z:α}{Y:β}(hsz:∀w,(Go.sizeOf t).run P w=.ok σ.n w)(pc:Pc ρ off σ g s)(ho:k=off)(hx:zJ e x=some (vP b k))(hy:zJ e y=some v)(r:ρ.R h cs X)(ry:σ.Is h v Y)(hZ:s X Y=Z):
 ∃cs',ρ.R h cs' Z/\∀A B,Upd P n w0 h0 ⟨ds,.store t x y,ty,ps,af,gd⟩ e A (.var b E cs) B h (.var b E cs'):=by
 subst hZ;subst ho;obtain⟨G,J,hv⟩:=ry.cells;have O:=σ.len J;have aa:=ρ.len r;have hf:=pc.fits;refine⟨y2 cs k G,?_,?_⟩
 · rw[zE4 _ _ _ zoa,O]
   exact pc.set r J
 · intro A B a w U S
   have M:w.heap[b]?=some (.cells cs.toArray E):=S.ok (.var b E cs) zoj;obtain⟨h2,h3⟩:=mS G k cs w M;refine⟨w.setCells b k G,?_,h3,h2⟩;have C:w.there b k G.length:=by
    intro j H;have:k+j<cs.length:=by omega
    refine⟨?_,?_⟩
    · unfold World.cell?
      simp[M,this]
    · simp[World.frozen?,M]
   have D:=run_storeCells_cells (P:=P) b k G 0 w (λj H=>by simpa using(C j H).1) (λj H=>by simpa using(C j H).2) (λu hu=>List.all_eq_true.1 (σ.one J) u hu);simp only[Nat.add_zero] at D;simp[execOp,U.eval hx,U.eval hy,Instr.storeAt,Instr.sureAddr,storeVar,hsz,hv,O,D]
theorem yB{ops:Array Oper}{rest:List Oper}{A B:List Res}{op:Op}{b:Nat}{E:TypeId}{cs:List Value}{F:List Value->Prop}(hv:∃cs',F cs'/\∀A B,Upd P n w0 h0 ⟨none,op,ty,ps,af,none⟩ e A (.var b E cs) B h (.var b E cs'))
    (k:∀cs',F cs'->GL P n w0 h0 ops Q rest e (A++.var b E cs'::B) h):GL P n w0 h0 ops Q (⟨none,op,ty,ps,af,none⟩::rest) e (A++.var b E cs::B) h:=by
 obtain⟨cs',D,C⟩:=hv;exact wP (C A B) I I I (k cs' D)
theorem yJ{ops:Array Oper}{RR:List Res}{al:Als}{i:Nat}{r:List (Nat×Kd)}{A B:List Res}{op:Op}{b:Nat}{E:TypeId}{cs:List Value}{F:List Value->Prop}(ho:ops.getD i default=⟨none,op,ty,ps,af,none⟩)(hv:∃cs',F cs'/\∀A B,Upd P n w0 h0 ⟨none,op,ty,ps,af,none⟩ e A (.var b E cs) B h (.var b E cs'))
    (k:∀cs',F cs'->W P n w0 h0 ops Q RR al r e (A++.var b E cs'::B) h):W P n w0 h0 ops Q RR al ((i,.t)::r) e (A++.var b E cs::B) h:=by
 obtain⟨cs',D,C⟩:=hv;exact cX ho (C A B) I (k cs' D)
theorem sU{ops:Array Oper}{R:List Res}{W':List (Nat×Value)->List Res->Mem->Prop}{A B:List Res}{op:Op}{b:Nat}{E:TypeId}{cs:List Value}{F:List Value->Prop}(hv:∃cs',F cs'/\∀A B,Upd P n w0 h0 ⟨none,op,ty,ps,af,none⟩ e A (.var b E cs) B h (.var b E cs'))
    (hR:∀r∈R,∀q',r∈A++.var b E cs::B->r∈A++q'::B)(k:∀cs',F cs'->W' e (A++.var b E cs'::B) h):jU P n w0 h0 ops R ⟨none,op,ty,ps,af,none⟩ e (A++.var b E cs::B) h W':=by
 obtain⟨cs',U,J⟩:=hv;intro X a w Z S;have H:St w0 h0 (A++.var b E cs::(B++X)) h w:=by simpa using S
 unfold qQ;rw[if_pos (wn I)];obtain⟨w',C,G,D⟩:=J A (B++X) a w Z H;rw[C];refine⟨λd' M=>(by cases M),A++.var b E cs'::B,h,MLe.refl h,λhh r C=>hR r C _ (hh r C),?_,k cs' U⟩;have:=H.grown G D λb O=>.inl O
 simpa using this
theorem zWV{E:TypeId}{x:Operand}{v:Value}{ρ:Rp α}{X:α}(hx:zJ e x=some v)(r:ρ.Is h v X):
 lK P n w0 h0 ⟨ds,.box E x,ty,ps,af,gd⟩ e L h (λu q=>∃b cs,u=vP b 0/\q=.var b E cs/\ρ.R h cs X):=by
 obtain⟨cs,G,H⟩:=r.cells;intro a w U S;obtain⟨D,C,q,h1,h2,h3,O,b,M,J⟩:=wU (n:=n) (ds:=ds) (ty:=ty) (ps:=ps) (af:=af) (gd:=gd) (L:=L) (E:=E) hx H a w U S;exact⟨D,C,q,h1,h2,h3,O,b,cs,M,J,G⟩
theorem zO4{E:TypeId}{i:TypeInfo}{z:Value}{cs:List Value}{ρ:Rp α}{X:α}(hi:P.info? E=some i)(hz:i.zero=some z)(hc:z.cells=cs.toArray)(r:ρ.R h cs X):
 lK P n w0 h0 ⟨ds,.alloc E,ty,ps,af,gd⟩ e L h (λu q=>∃b cs,u=vP b 0/\q=.var b E cs/\ρ.R h cs X):=by
 intro a w M S;obtain⟨D,C,q,h1,h2,h3,J,b,H,G⟩:=uC (n:=n) (ds:=ds) (ty:=ty) (ps:=ps) (af:=af) (gd:=gd) (e:=e) (L:=L) (h:=h) hi hz hc a w M S;exact⟨D,C,q,h1,h2,h3,J,b,cs,H,G,r⟩
def zIZ(ρ:Rp α)(h:Mem)(place:Nat->Option (Nat×Nat))(X:α)(parts:List (Nat×Value))(X':α):Prop:=
 ∀cs,ρ.R h cs X->∃cs',ρ.R h cs' X'/\Instr.fill place cs.toArray parts=some cs'.toArray
theorem zO{ρ:Rp α}{place:Nat->Option (Nat×Nat)}{X:α}:zIZ ρ h place X [] X:=λcs r=>⟨cs,r,rfl⟩
theorem zD{ρ:Rp α}{σ:Rp β}{place:Nat->Option (Nat×Nat)}{X X':α}{Y:β}{i off:Nat}{v:Value}{rest:List (Nat×Value)}{g:α->β}{s:α->β->α}(hp:place i=some (off,σ.n))(pc:Pc ρ off σ g s)(ry:σ.Is h v Y)(k:zIZ ρ h place (s X Y) rest X'):zIZ ρ h place X ((i,v)::rest) X':=by
 intro cs r;obtain⟨Z,D,H⟩:=ry.cells;have M:=σ.len D;have J:=ρ.len r;have hf:=pc.fits;obtain⟨C,G,U⟩:=k _ (pc.set r D);refine⟨C,G,?_⟩;have O:cs=cs.take off++(cs.drop off).take σ.n++cs.drop (off+σ.n):=by
  rw[List.append_assoc,<-List.drop_drop,List.take_append_drop,List.take_append_drop]
 rw[O];exact wY hp (by rw[List.length_take];omega) (by rw[List.length_take,List.length_drop];omega) M H U
theorem wE{t:TypeId}{i:TypeInfo}{z:Value}{zs:List Value}{fs:Array Field}{places:Array (Nat×Nat)}{parts:List (Nat×Operand)}{ps':List (Nat×Value)}{ρ:Rp α}{X X':α}(ht:P.underlying t=some (.struct fs))(hi:P.info? t=some i)(hz:i.zero=some z)(hzc:z.cells=zs.toArray)
    (hpl:∀w,(fs.mapM λ(f:Field)=>do pure (f.offset,<-Go.sizeOf f.type)).run P w=.ok places w)(hp:eC e parts ps')(ha:ρ.agg=true)(rz:ρ.R h zs X)(hf:zIZ ρ h (places[·]?) X ps' X'):
    OpX P n w0 h0 ⟨ds,.build t parts.toArray,ty,ps,af,gd⟩ e [] h (λu=>ρ.Is h u X'):=by
 obtain⟨C,D,G⟩:=hf zs rz;refine⟨.agg C.toArray,λL' h' _ _=>wF ht hi hz hpl hp (by rw[hzc];exact G),C,D,?_⟩;unfold Rp.val;rw[ha];rfl
theorem wD{t E:TypeId}{m sz:Nat}{i:TypeInfo}{z:Value}{zs:List Value}{parts:List (Nat×Operand)}{ps':List (Nat×Value)}{ρ:Rp α}{X X':α}(ht:P.underlying t=some (.array m E))(hi:P.info? t=some i)(hz:i.zero=some z)(hzc:z.cells=zs.toArray)
    (hsz:∀w,(Go.sizeOf E).run P w=.ok sz w)(hp:eC e parts ps')(ha:ρ.agg=true)(rz:ρ.R h zs X)(hf:zIZ ρ h (λi=>some (i*sz,sz)) X ps' X'):
    OpX P n w0 h0 ⟨ds,.build t parts.toArray,ty,ps,af,gd⟩ e [] h (λu=>ρ.Is h u X'):=by
 obtain⟨C,D,G⟩:=hf zs rz;refine⟨.agg C.toArray,λL' h' _ _=>zJN ht hi hz hsz hp (by rw[hzc];exact G),C,D,?_⟩;unfold Rp.val;rw[ha];rfl
theorem gA{R R':Mem->Value->Prop}(k:∀h r,R h r->R' h r)(x:Ending)(w:World)(s:Ret w0 h0 R x w):Ret w0 h0 R' x w:=by
 obtain⟨v,h,e,r,S⟩:=s;exact⟨v,h,e,k h v r,S⟩
theorem yJS{h:Mem}:rpB.Is h (.bool true) True:=(xK trivial)▸yJT True
theorem Rp.castR{ρ:Rp α}{cs:List Value}{x y:α}(r:ρ.R h cs x)(e:x=y):ρ.R h cs y:=e▸r
theorem Rp.R.mono{ρ:Rp α}{h':Mem}{cs:List Value}{x:α}(r:ρ.R h cs x)(hh:MLe h h'):ρ.R h' cs x:=Rp.mono ρ hh r
theorem kE{t:Nat}{T E:TypeId}{b:Nat}{cs:List Value}{ρ:Rp α}{X:α}(tok:TyOk P T ρ.n ρ.agg)(hm:.var b E cs∈L)(hx:zJ e (.tmp t)=some (vP b 0))(r:ρ.R h cs X):∃v,RV P n w0 h0 (.cell t T) e L h v/\ρ.Is h v X:=by
 refine⟨ρ.val cs,?_,cs,r,I⟩;intro a w D S;have C:w.heap[b]?=some (.cells cs.toArray E):=S.ok _ hm;have:=D.eval hx;simp only[Act.eval] at this;have h2:=zBE (P:=P) tok r (iS C 0 cs zoj);simp only[Instr.loadAt,Instr.sureAddr,Sem.run_bind,Sem.run_pure,Result.andThen_ok] at h2;simp[zEZ,this,asAddr,h2]
theorem wT{r:ResultVar}{F:Value->Prop}{x:Exit}(s:∃v,RV P n w0 h0 r e L h v/\F v)(k:∀v,RV P n w0 h0 r e L h v->F v->GQ n w0 h0 Q x e L h):GQ n w0 h0 Q x e L h:=by
 obtain⟨v,a,b⟩:=s;exact k v a b
theorem zV3{o:Oper}{v:Value}{F:Value->Prop}(hv:∀L' h',OpV P n w0 h0 o e L' h' v)(hF:F v):OpX P n w0 h0 o e [] h F:=⟨v,λL' h' _ _=>hv L' h',hF⟩
end
section
variable {P:Program}{n:Nat}{w0:World}{h0:Mem}{e:List (Nat×Value)}{L:List Res}{h:Mem}{Q:Exit->Act->World->Prop}
variable {ds:Option Tmp}{ty:TypeId}{ps:String}{af:Array Edge}{gd:Option (Nat×Bool)}
theorem jB{G:Prop}(p:Prop)(kt:p->G)(kf:¬p->G):G:=Classical.byCases kt kf
abbrev vF(f:Nat)(cap:List Value):Value:=.func (.func f) #[] cap.toArray
def zZN(P:Program)(n:Nat)(o:Oper)(e:List (Nat×Value))(f:Nat)(args:Array Value):Prop:=∀a w,Env n e a->(execOp a.eval o).run P w=.ok (.enter f args) w
theorem cA{x:Operand}{f:Nat}{cap:List Value}{xs:List Operand}{ts:Array TypeId}{vs:List Value}(hcall:∀args w,(callFunc f args).run P w=.ok (.enter f args) w)(hx:zJ e x=some (vF f cap))(hvs:cK e xs vs):
 zZN P n ⟨ds,.call {callee:=.value x,args:=xs.toArray,argTypes:=ts},ty,ps,af,gd⟩ e f (vs++cap).toArray:=by
 intro a w D;have C:xs.toArray.map a.eval=vs.toArray:=by rw[List.map_toArray,D.evals hvs]
 simp only[execOp,resolve,D.eval hx];simp[Deferred.ofValue,invoke,hcall,C]
theorem yFQ{W':List (Nat×Value)->List Res->Mem->Prop}{ops:Array Oper}{R:List Res}{op:Op}{g t d:Nat}{b:Bool}(ht:(ops[g]?).bind (·.dst)=some t)(he:e.lookup t=some undef)(hn:Nat.ble (d+1) n=true)(k:W' ((d,undef)::e) L h):
 jU P n w0 h0 ops R ⟨some d,op,ty,ps,af,some (g,b)⟩ e L h W':=by
 intro X a w E S;have C:Region.wanted ⟨some d,op,ty,ps,af,some (g,b)⟩ (yielded ops a.tmps)=false:=by
  have:=E.get t _ he;simp[Region.wanted,yielded,ht,this,undef]
 unfold qQ;rw[if_neg (by simp[C])];exact⟨λG D=>(by cases D;exact Nat.le_of_ble_eq_true hn),L,h,MLe.refl h,λhh=>hh,S,k⟩
theorem zTU{R A B:List Res}{q:Res}(hR:∀r∈R,r∈A++B):∀r∈R,r∈A++q::B->r∈A++B:=λr hr _=>hR r hr
section
variable {ops:Array Oper}{R:List Res}{d:Nat}{op:Op}
theorem aF{W':List (Nat×Value)->List Res->Mem->Prop}{f:Nat}{args:Array Value}{R':Mem->Value->Prop}(he:zZN P n ⟨some d,op,ty,ps,af,none⟩ e f args)(hn:Nat.ble (d+1) n=true)
    (hc:∀w,MLe h (mem w)->Calls P f args w (Ret w h R'))(k:∀v h',MLe h h'->R' h' v->W' ((d,v)::e) L h'):jU P n w0 h0 ops R ⟨some d,op,ty,ps,af,none⟩ e L h W':=by
 intro X a w E S;unfold qQ;rw[if_pos (wn I),he a w E];refine(hc w S.sub).mono ?_
 rintro J D ⟨v,h',rfl,hR,C⟩
 have H:St w0 h0 (L++X) h' D:=S.call C;exact⟨v,I,λM G=>(by cases G;exact Nat.le_of_ble_eq_true hn),L,h',C.le,λhh=>hh,H,k v h' C.le hR⟩
end
end
section
variable {α β γ:Type}
variable {P:Program}{n:Nat}{w0:World}{h0:Mem}{e:List (Nat×Value)}{L:List Res}{h:Mem}{Q:Exit->Act->World->Prop}
variable {ds:Option Tmp}{ty:TypeId}{ps:String}{af:Array Edge}{gd:Option (Nat×Bool)}
theorem St.nilown{w:World}(s:St w0 h0 L h w)(E k:Nat):St w0 h0 (.gs E k (.slice none 0 0) 0 []::L) h w:=by
 refine⟨s.below,s.le,s.sub,s.fresh,?_,?_,?_⟩
 · intro r C
   rcases List.mem_cons.1 C with rfl|C
   · exact World.ownsRow_nil w _ E k
   · exact s.ok r C
 · intro r C b D
   rcases List.mem_cons.1 C with rfl|C
   · simp[Res.fp,Value.ownBlock] at D
   · exact s.own r C b D
 · refine List.pairwise_cons.2 ⟨λr C b D=>?_,s.apart⟩
   simp[Res.fp,Value.ownBlock] at D
theorem xM{c:Code}(E k:Nat)(g:GC P n w0 h0 c Q e (.gs E k (.slice none 0 0) 0 []::L) h):GC P n w0 h0 c Q e L h:=λa w Ev S=>g a w Ev (S.nilown E k)
theorem zIJ{ops:Array Oper}{l:List Oper}(E k:Nat)(g:GL P n w0 h0 ops Q l e (.gs E k (.slice none 0 0) 0 []::L) h):GL P n w0 h0 ops Q l e L h:=λa w Ev S=>g a w Ev (S.nilown E k)
theorem aQ{x:Exit}(E k:Nat)(g:GQ n w0 h0 Q x e (.gs E k (.slice none 0 0) 0 []::L) h):GQ n w0 h0 Q x e L h:=λa w Ev S=>g a w Ev (S.nilown E k)
theorem zEU{ops:Array Oper}{R:List Res}{o:Oper}{W':List (Nat×Value)->List Res->Mem->Prop}(E k:Nat)(g:jU P n w0 h0 ops R o e (.gs E k (.slice none 0 0) 0 []::L) h W'):jU P n w0 h0 ops R o e L h W':=by
 intro X a w O S;refine(g X a w O (S.nilown E k)).mono ?_
 rintro Z U ⟨H,L',g,G,D,M,J⟩
 exact⟨H,L',g,G,λhh q C=>D (λy hy=>List.mem_cons_of_mem _ (hh y hy)) q C,M,J⟩
theorem zTG(a:List Value)(m:Nat):(madeCells a.toArray (m*a.length)).toList=(List.replicate m a).flatten:=by
 unfold madeCells;rw[Array.toList_map,Array.toList_range]
 induction m with
 |zero=>simp
 |succ m ih=>
  rw[Nat.succ_mul,Nat.add_comm,List.range_add,List.map_append,List.map_map,List.replicate_succ,List.flatten_cons,<-ih]
  congr 1
  · apply List.ext_getElem?
    intro j
    by_cases hj:j<a.length
    · simp[hj,Nat.mod_eq_of_lt hj]
    · simp[hj]
  · apply List.map_congr_left
    intro j _;simp
theorem zQC{ρ:Rp α}{a:List Value}{x:α}(m:Nat)(r:ρ.R h a x):RL ρ h (madeCells a.toArray (m*ρ.n)).toList (List.replicate m x):=by
 rw[<-ρ.len r,zTG];exact(zKQ (h:=h) m r).2
theorem zIB{t E:TypeId}{i:TypeInfo}{z:Value}{zs:List Value}{x y:Operand}{q q':Int}{by':Nat}{ρ:Rp α}{X:α}(m:Nat)(ht:P.underlying t=some (.slice E))(hi:P.info? E=some i)(hz:i.zero=some z)(hzc:z.cells=zs.toArray)(hsize:i.size=ρ.n)(hby:i.bytes=by')(rz:ρ.R h zs X)
    (hx:zJ e x=some (vI q))(hy:zJ e y=some (vI q'))(hq:q=(m:Int))(hq':q'=(m:Int))(hb:by'*m<=281474976710656)(hm:m<9223372036854775808):
    lK P n w0 h0 ⟨ds,.makeSlice t x y,ty,ps,af,gd⟩ e L h (λv r=>∃cs,r=.gs E ρ.n v (List.replicate m X).length cs/\RL ρ h cs (List.replicate m X)):=by
 subst hq;subst hq';subst hby;intro a w G S;obtain⟨H,J,C,D⟩:=run_make_full (P:=P) w w0.heap.size t E i z ρ.n ht hi hz hsize .i64 .i64 m hb (by unfold maxLen;omega) S.below.size;rw[hzc] at C;refine⟨_,H,.gs E ρ.n (.slice (some ⟨w.heap.size,0,none⟩) m m) m (madeCells zs.toArray (m*ρ.n)).toList,?_,D,C,λb hb=>?_,_,by rw[lR],zQC m rz⟩
 · simp only[execOp,G.eval hx,G.eval hy,vI]
   simp[J]
 · simp only[Res.fp,Value.ownBlock,Option.some.injEq] at hb
   omega
theorem zL{t E:TypeId}{i:TypeInfo}{z:Value}{zs:List Value}{parts:List (Nat×Operand)}{ps':List (Nat×Value)}{m:Nat}{ρ:Rp α}{X:α}{xs:List α}(ht:P.underlying t=some (.slice E))(hi:P.info? E=some i)(hz:i.zero=some z)(hzc:z.cells=zs.toArray)(hsize:i.size=ρ.n)(rz:ρ.R h zs X)
    (hp:eC e parts ps')(hf:zIZ (rpA m ρ) h (λi=>some (i*ρ.n,ρ.n)) (List.replicate m X) ps' xs)(hm:m*ρ.n<=16777216)(hn:0<ρ.n):
    lK P n w0 h0 ⟨ds,.buildSlice t m parts.toArray,ty,ps,af,gd⟩ e L h (λv r=>∃cs,r=.gs E ρ.n v xs.length cs/\RL ρ h cs xs):=by
 obtain⟨cs,⟨G,J⟩,H⟩:=hf (madeCells zs.toArray (m*ρ.n)).toList ⟨List.length_replicate,zQC m rz⟩;have M:=J.len;rw[G] at M;intro a w Ev S;have U:(parts.toArray.map λ(p:Nat×Operand)=>(p.1,a.eval p.2)).toList=ps':=by
  rw[List.map_toArray];exact hp.eval Ev
 refine⟨.slice (some ⟨w.heap.size,0,none⟩) m m,w.alloc (.cells cs.toArray E),.gs E ρ.n (.slice (some ⟨w.heap.size,0,none⟩) m m) m cs,?_,World.grownBy_alloc w _ none,?_,λb hb=>?_,cs,by rw[G],J⟩
 · have Z:¬(m*ρ.n>16777216):=by omega
   simp only[execOp,Instr.buildSlice];rw[show(parts.toArray.map λ(i,x)=>(i,a.eval x)).toList=ps' from U];have O:(zeroValue E).run P w=.ok z w:=by simp[zeroValue,typeInfo,hi,hz]
   have C:Instr.fill (λi=>some (i*ρ.n,ρ.n)) (madeCells zs.toArray (m*ρ.n)) ps'=some cs.toArray:=by
    simpa using H
   have D:∀w,(Go.sizeOf E).run P w=.ok ρ.n w:=λw=>by simp[Go.sizeOf,typeInfo,hi,hsize]
   by_cases h0:m*ρ.n=0
   · rw[h0] at C
     simp only[madeCells,Array.range_zero',Array.map_empty] at C;simp[run_underlying ht,D,newRow,newObj,Sem.run,h0,Array.range_zero',C]
   · unfold madeCells at C
     simp only[List.size_toArray,List.getElem!_toArray,List.getElem!_eq_getElem?_getD] at C;simp[run_underlying ht,D,h0,Z,O,hzc,C,newRow,newObj,Sem.run]
 · have:=World.ownsRow_lit (w:=w) (base:=w0.heap.size) (e:=E) (size:=ρ.n) cs.toArray m S.below.size (by unfold maxLen;have:=Nat.le_mul_of_pos_right m hn;omega) (by simpa using M)
   exact this
 · simp only[Res.fp,Value.ownBlock,Option.some.injEq] at hb
   omega
theorem zV{A B:List Res}{t E:TypeId}{i:TypeInfo}{z:Value}{bytes:Nat}{v v':Value}{cs:List Value}{x y:Operand}{ρ:Rp α}{xs ys:List α}(ht:P.underlying t=some (.slice E))(hi:P.info? E=some i)(hz:i.zero=some z)(hsize:i.size=ρ.n)(hby:i.bytes=bytes)
    (hzs:z.cells.size=ρ.n)(hk:0<ρ.n)(hx:zJ e x=some v)(hy:zJ e y=some v')(r:RL ρ h cs xs)(hv':(rpS ρ).Is h v' ys)(hlen:xs.length+ys.length<9223372036854775808)(hb':(xs.length+ys.length)*bytes<=140737488355328):
    zDL P n w0 h0 ⟨ds,.call {callee:=.builtin .append,args:=#[x,y],argTypes:=#[t,t]},ty,ps,af,gd⟩ e A (.gs E ρ.n v xs.length cs) B h (λu r'=>∃cs',r'=.gs E ρ.n u (xs++ys).length cs'/\RL ρ h cs' (xs++ys)):=by
 obtain⟨C,H,r2⟩:=zSV hv';intro a w O S;obtain⟨u,D,r',h1,h2,h3,M,J⟩:=zE0 (A:=A) (B:=B) (v:=v) (cs:=cs) (m:=xs.length) (ds:=ds) (ty:=ty) (ps:=ps) (af:=af) (gd:=gd) ht hi hz hsize hby hzs hk hx hy H (λu G=>List.all_eq_true.1 r2.one u G) hlen hb' a w O S;exact⟨u,D,r',h1,h2,h3,M,cs++C,by rw[J,lAz],r.append r2⟩
theorem zJJ{E k m:Nat}{v:Value}{cs:List Value}{w:World}(hm:.gs E k v m cs∈L)(S:St w0 h0 L h w):Sl (mem w) k v m cs:=by
 obtain⟨A,B,rfl⟩:=List.append_of_mem hm;exact zAX S
theorem yF2(k:Nat)(v:Value)(i:Nat):zM k v i=zM 1 v (i*k):=by
 unfold zM;rw[Nat.mul_one]
theorem kP{E k m:Nat}{v:Value}{cs:List Value}{t E':TypeId}{x:Operand}(hm:.gs E k v m cs∈L)(ht:P.underlying t=some (.slice E'))(hx:zJ e x=some v):
 OpV P n w0 h0 ⟨ds,.call {callee:=.builtin .len,args:=#[x],argTypes:=#[t]},ty,ps,af,gd⟩ e L h (vI (m:Int)):=
 λa w Ev S=>nZ (L:=L) (h:=h) ht hx (zJJ hm S).one a w Ev S
theorem xO{E m k:Nat}{cs:List Value}{v:Value}{t E':TypeId}{x y:Operand}{q:Int}(i:Nat)(hm:.gs E k v m cs∈L)(ht:P.underlying t=some (.slice E'))(hsz:∀w,(Go.sizeOf E').run P w=.ok k w)(hx:zJ e x=some v)(hy:zJ e y=some (vI q))
    (hq:q=(i:Int))(hi:i<m)(hk:0<k):OpV P n w0 h0 ⟨ds,.indexAddr t x y,ty,ps,af,gd⟩ e L h (zM 1 v (i*k)):=by
 intro a w D S;have C:St w (mem w) [] (mem w) w:=St.begin (MLe.refl _);rw[<-yF2];exact iA (n:=n) (w0:=w) (h0:=mem w) (L:=[]) (h:=mem w) i ht hsz hx hy (zJJ hm S) hq hi hk a w D C
theorem zK0{k m o l:Nat}{v:Value}{cs:List Value}{w:World}(s:Sl (mem w) k v m cs)(hl:0<l)(ho:o+l<=cs.length):∃b o',zM 1 v o=vP b (o'+o)/\v=.slice (some ⟨b,o',none⟩) m (match v with| .slice _ _ c=>c|_=>0)/\w.rangeAt b (o'+o) ((cs.drop o).take l):=by
 obtain⟨a,M,rfl,h1,h2,h3,H⟩:=s;obtain⟨b,o',rfl,_⟩:=H o zoa;refine⟨b,o',by simp[zM,jQ],I,?_⟩;intro j u C;rw[List.getElem?_take] at C
 split at C
 · rw[List.getElem?_drop] at C
   obtain⟨D,_⟩:=List.getElem?_eq_some_iff.1 C;obtain⟨U,O,J,G⟩:=H _ D;simp only[Option.some.injEq,Addr.mk.injEq,and_true] at J;obtain⟨rfl,rfl⟩:=J;rw[C] at G;have:=lG (MLe.refl _) G
   rwa [<-Nat.add_assoc] at this
 · cases C
theorem wZ{t E:TypeId}{x:Operand}{k off:Nat}{cs:List Value}{v:Value}{ρ:Rp α}{σ:Rp β}{g:List α->β}{s:List α->β->List α}{xs:List α}{Z:β}(T:TyOk P t σ.n σ.agg)(pc:Pc (rpA xs.length ρ) off σ g s)(ho:k=off)(hp:0<σ.n)(hx:zJ e x=some (zM 1 v k))(r:RL ρ h cs xs)(hZ:g xs=Z):
 OpX P n w0 h0 ⟨ds,.load t x,ty,ps,af,gd⟩ e [.gs E ρ.n v xs.length cs] h (λu=>σ.Is h u Z):=by
 subst hZ;subst ho;have h1:=pc.get (h:=h) ⟨I,r⟩;have M:k+σ.n<=xs.length*ρ.n:=pc.fits;have J:=r.len;refine⟨_,λL' h' _ D a w H S=>?_,_,h1,I⟩;obtain⟨b,o',G,_,C⟩:=zK0 (zJJ (D (.gs E ρ.n v xs.length cs) (.head _)) S) hp (show k+σ.n<=cs.length by omega);rw[G] at hx;have:=zBE (P:=P) (w:=w) T h1 C;simp[execOp,H.eval hx,this]
theorem nL{base E k g cap m:Nat}:∀(vs:List Value) (off:Nat) (cs:List Value) (w:World),w.ownsRow base E k (.slice (some ⟨g,0,none⟩) m cap) m cs->
 (w.setCells g off vs).ownsRow base E k (.slice (some ⟨g,0,none⟩) m cap) m (y2 cs off vs)/\w.grownBy (w.setCells g off vs) (some g)
 |[],off,cs,w,hw=>⟨hw,⟨rfl,rfl,rfl,Nat.le_refl _,λ_ _ _=>rfl⟩⟩
 |v::r,off,cs,w,hw=>by
  obtain⟨h1,h2⟩:=hw.stored off v;obtain⟨h3,h4⟩:=nL r (off+1) (cs.set off v) _ h1;have e1:y2 cs off (v::r)=y2 (cs.set off v) (off+1) r:=by
   unfold y2;rw[List.zipIdx_cons,List.foldl_cons,Nat.add_zero,List.zipIdx_succ,List.foldl_map]
   congr 1
   funext c p
   rw[show off+(p.2+1)=off+1+p.2 by omega]
  refine⟨by rw[World.setCells,e1];exact h3,?_⟩;refine⟨h4.os.trans h2.os,h4.tape.trans h2.tape,h4.output.trans h2.output,Nat.le_trans h2.size h4.size,?_⟩;intro G D C;have J:=h2.block G D C;have H:=h4.block G (Nat.lt_of_lt_of_le D h2.size) C;rw[World.setCells,H,J]
theorem cM{E t:TypeId}{k off:Nat}{cs:List Value}{u v:Value}{x y:Operand}{ρ:Rp α}{σ:Rp β}{g:List α->β}{s:List α->β->List α}{xs Z:List α}{Y:β}(hsz:∀w,(Go.sizeOf t).run P w=.ok σ.n w)(pc:Pc (rpA xs.length ρ) off σ g s)(ho:k=off)(hp:0<σ.n)(hx:zJ e x=some (zM 1 v k))(hy:zJ e y=some u)(r:RL ρ h cs xs)(ry:σ.Is h u Y)(hZ:s xs Y=Z):
 ∃cs',RL ρ h cs' Z/\∀A B,Upd P n w0 h0 ⟨ds,.store t x y,ty,ps,af,gd⟩ e A (.gs E ρ.n v xs.length cs) B h (.gs E ρ.n v Z.length cs'):=by
 subst hZ;subst ho;obtain⟨H,J,hv⟩:=ry.cells;have hl:=σ.len J;have aa:=r.len;have hf:k+σ.n<=xs.length*ρ.n:=pc.fits;obtain⟨U,O⟩:=pc.set (h:=h) ⟨I,r⟩ J;refine⟨y2 cs k H,?_,?_⟩
 · rw[zE4 _ _ _ zoa,hl]
   exact O
 · intro A B a w Ev S
   rw[U];have G:w.ownsRow w0.heap.size E ρ.n v xs.length cs:=S.ok (.gs E ρ.n v xs.length cs) zoj;have C:=G;obtain⟨_,hr⟩:=G
   rcases hr with⟨rfl,hm0⟩|⟨b,cap,cur,rfl,hbg,hg,hnc,hcm,hcs,htake⟩
   · rw[hm0] at hf;omega
   · have M:zM 1 (.slice (some ⟨b,0,none⟩) xs.length cap) k=vP b k:=by simp[zM,jQ]
     rw[M] at hx;obtain⟨h1,h2⟩:=nL H k cs w C;refine⟨w.setCells b k H,?_,h2,h1⟩;have D:=run_storeCells_cells (P:=P) b k H 0 w (λj hj=>by
      have h4:=C.cellAt (k+j) zoa;rw[List.getElem?_eq_getElem zoa] at h4;simp[h4]) (λj hj=>by simpa using C.frozenAt (k+j)) (λu hu=>List.all_eq_true.1 (σ.one J) u hu)
     simp only[Nat.add_zero] at D;simp[execOp,Ev.eval hx,Ev.eval hy,Instr.storeAt,Instr.sureAddr,storeVar,hsz,hv,hl,D]
section
variable {A B:List Res}{op:Op}{E k m:Nat}{v:Value}{cs:List Value}{F:Nat->List Value->Prop}
theorem fN{ops:Array Oper}{rest:List Oper}{m':Nat}{F:List Value->Prop}(hv:∃cs',F cs'/\∀A B,Upd P n w0 h0 ⟨none,op,ty,ps,af,none⟩ e A (.gs E k v m cs) B h (.gs E k v m' cs'))
    (kk:∀cs',F cs'->GL P n w0 h0 ops Q rest e (A++.gs E k v m' cs'::B) h):GL P n w0 h0 ops Q (⟨none,op,ty,ps,af,none⟩::rest) e (A++.gs E k v m cs::B) h:=by
 obtain⟨cs',D,C⟩:=hv;exact wP (C A B) I I I (kk cs' D)
end
theorem St.freezex{A B:List Res}{E:Nat}{v:Value}{cs:List Value}{ρ:Rp α}{xs:List α}{w:World}(r:RL ρ h cs xs)(S:St w0 h0 (A++.gs E ρ.n v xs.length cs::B) h w):∃h',MLe h h'/\(rpS ρ).Is h' v xs/\St w0 h0 (A++B) h' w:=by
 have C:=S.ok (.gs E ρ.n v xs.length cs) zoj;have H:=C;obtain⟨M,J⟩:=C
 rcases J with⟨rfl,hm0⟩|⟨g,cap,cur,rfl,hb,hg,hn,hm,hcs,ht⟩
 · have G:xs=[]:=List.eq_nil_of_length_eq_zero hm0
   subst G;exact⟨h,MLe.refl h,oN h,S.drop⟩
 · obtain⟨O,D⟩:=S.freeze (b:=g) (o:=.cells cur E (0,0)) I hg
   refine⟨_,D,yBQ ⟨_,cap,I,hn,hm,M,λi hi=>⟨g,0,I,?_⟩⟩ (r.mono D),O⟩;unfold cell;simp only[if_true,Nat.zero_add];rw[<-ht,List.getElem?_take,if_pos zoa];simp
section
variable {A B:List Res}{E:Nat}{v:Value}{cs:List Value}{ρ:Rp α}{xs:List α}
theorem zS{ops:Array Oper}{l:List Oper}(r:RL ρ h cs xs)(k:∀h',MLe h h'->(rpS ρ).Is h' v xs->GL P n w0 h0 ops Q l e (A++B) h'):GL P n w0 h0 ops Q l e (A++.gs E ρ.n v xs.length cs::B) h:=by
 intro a w H S;obtain⟨h',C,D,G⟩:=S.freezex r;exact k h' C D a w H G
theorem zGG{c:Code}(r:RL ρ h cs xs)(k:∀h',MLe h h'->(rpS ρ).Is h' v xs->GC P n w0 h0 c Q e (A++B) h'):GC P n w0 h0 c Q e (A++.gs E ρ.n v xs.length cs::B) h:=by
 intro a w H S;obtain⟨h',C,D,G⟩:=S.freezex r;exact k h' C D a w H G
theorem wO{x:Exit}(r:RL ρ h cs xs)(k:∀h',MLe h h'->(rpS ρ).Is h' v xs->GQ n w0 h0 Q x e (A++B) h'):GQ n w0 h0 Q x e (A++.gs E ρ.n v xs.length cs::B) h:=by
 intro a w H S;obtain⟨h',C,D,G⟩:=S.freezex r;exact k h' C D a w H G
theorem xY{o:Oper}{ops:Array Oper}{R:List Res}{W':List (Nat×Value)->List Res->Mem->Prop}(r:RL ρ h cs xs)(hR:∀q∈R,q∈A++.gs E ρ.n v xs.length cs::B->q∈A++B)
    (k:∀h',MLe h h'->(rpS ρ).Is h' v xs->jU P n w0 h0 ops R o e (A++B) h' W'):jU P n w0 h0 ops R o e (A++.gs E ρ.n v xs.length cs::B) h W':=by
 intro X a w Ev S;have S1:St w0 h0 (A++.gs E ρ.n v xs.length cs::(B++X)) h w:=by simpa using S
 obtain⟨h',C,D,S'⟩:=S1.freezex r;have Z:St w0 h0 ((A++B)++X) h' w:=by simpa using S'
 refine(k h' C D X a w Ev Z).mono ?_
 rintro v' w' ⟨M,L',g,J,H,U,O⟩
 exact⟨M,L',g,C.trans J,λhh q G=>H (λy hy=>hR y hy (hh y hy)) q G,U,O⟩
end
end
end Bk
namespace Bk
open Go Go.RowKit
def zBY(o:Oper):Nat:=o.after.toList.foldl (λa e=>if Region.binds .any e then a |||(1 <<< e.on) else a) 0
theorem eS(k j:Nat):(1 <<< k).testBit j=decide (j=k):=by
 rw[Nat.one_shiftLeft,Nat.testBit_two_pow];exact Bool.eq_iff_iff.2 (by simp[eq_comm])
theorem oY(o:Oper)(k:Nat):(zBY o).testBit k=true↔∃e∈o.after,Region.binds .any e=true/\e.on=k:=by
 have key:∀(l:List Edge) (a:Nat),(l.foldl (λa e=>if Region.binds .any e then a |||(1 <<< e.on) else a) a).testBit k=true↔a.testBit k=true\/∃e∈l,Region.binds .any e=true/\e.on=k:=by
  intro l
  induction l with
  |nil=>intro a;simp
  |cons e l ih=>
   intro a;rw[List.foldl_cons,ih]
   by_cases hb:Region.binds .any e=true
   · rw[if_pos hb,Nat.testBit_or,eS]
     simp only[Bool.or_eq_true,decide_eq_true_eq,List.mem_cons,exists_eq_or_imp,hb,true_and,or_assoc];constructor
     · rintro(h|h|h)
       · exact .inl h
       · exact .inr (.inl h.symm)
       · exact .inr (.inr h)
     · rintro(h|h|h)
       · exact .inl h
       · exact .inr (.inl h.symm)
       · exact .inr (.inr h)
   · rw[if_neg hb]
     simp only[List.mem_cons,exists_eq_or_imp,hb,false_and,false_or];simp
 unfold zBY;rw[key];simp
def zMY(ops:Array Oper)(ams:List Nat)(i:Nat):Nat:=(List.range ops.size).foldl (λa j=>if j==i||(ams.getD j 0).testBit i||(ops.getD i default).apart ops (ops.getD j default) then a |||(1 <<< j) else a) 0
theorem zPP(ops:Array Oper)(ams:List Nat)(i k:Nat):(zMY ops ams i).testBit k=true->k<ops.size/\(k=i\/(ams.getD k 0).testBit i=true\/(ops.getD i default).apart ops (ops.getD k default)=true):=by
 have key:∀(l:List Nat) (a:Nat),(l.foldl (λa j=>if j==i||(ams.getD j 0).testBit i||(ops.getD i default).apart ops (ops.getD j default) then a |||(1 <<< j) else a) a).testBit k=true->a.testBit k=true\/(k∈l/\(k=i\/(ams.getD k 0).testBit i=true\/(ops.getD i default).apart ops (ops.getD k default)=true)):=by
  intro l
  induction l with
  |nil=>intro a h;exact .inl h
  |cons j l ih=>
   intro a h;rw[List.foldl_cons] at h
   rcases ih _ h with h1|⟨h1,h2⟩
   · split at h1
     · rename_i hc
       rw[Nat.testBit_or,eS] at h1;simp only[Bool.or_eq_true,decide_eq_true_eq] at h1
       rcases h1 with h1|h1
       · exact .inl h1
       · subst h1
         simp only[Bool.or_eq_true,beq_iff_eq,or_assoc] at hc;exact .inr ⟨.head _,hc⟩
     · exact .inl h1
   · exact .inr ⟨.tail _ h1,h2⟩
 intro h
 rcases key _ _ h with h1|⟨h1,h2⟩
 · simp at h1
 · exact⟨List.mem_range.1 h1,h2⟩
def dE(ams:List Nat)(x i:Nat):Bool:=!x.testBit i&&(ams.getD i 0&&&x==ams.getD i 0)
def rT(ams:List Nat)(n x:Nat):List Nat:=(List.range n).filter (dE ams x)
def lH(x:Nat)(l:List Nat):Nat:=l.foldl (λx i=>x |||(1 <<< i)) x
def mK(ops:Array Oper)(n m:Nat)(ams frs:List Nat):List (Nat×Kd)->Nat->List Nat->Bool
  |[],x,pend=>pend.isEmpty&&(rT ams n x).isEmpty
  |(i,.q)::r,x,pend=>decide (i<m)&&decide (i<n)&&dE ams x i&&((frs.getD i 0 |||x)&&&(1 <<< n-1)==1 <<< n-1)&&!pend.contains i&&
     ((List.range n).all λk=>decide (k<m)||(ams.getD k 0).testBit i||zC5 ops k i)&&mK ops n m ams frs r (x |||(1 <<< i)) pend
  |(i,.a)::r,x,pend=>pend.contains i&&(rT ams n (lH x (pend.filter (· != i)))==[i])&&mK ops n m ams frs r (x |||(1 <<< i)) (pend.filter (· != i))
  |(i,.c)::r,x,pend=>decide (i<m)&&!pend.contains i&&(rT ams n (lH x pend)==[i])&&mK ops n m ams frs r (x |||(1 <<< i)) pend
  |(i,.b j)::r,x,pend=>decide (i<m)&&decide (j<m)&&!pend.contains i&&!pend.contains j&&decide (i≠j)&&(rT ams n (lH x pend)==[i,j])&&
     (rT ams n (lH (x |||(1 <<< i)) pend)==[j])&&(rT ams n (lH (x |||(1 <<< j)) pend)==[i])&&mK ops n m ams frs r ((x |||(1 <<< i)) |||(1 <<< j)) pend
  |(i,.t)::r,x,pend=>pend.isEmpty&&(r.all λy=>match y.2 with| .t=>true|_=>false)&&decide (m<=i)&&(rT ams n x==[i])&&mK ops n m ams frs r (x |||(1 <<< i)) []
  |(i,.p)::r,x,pend=>decide (i<m)&&decide (i<n)&&dE ams x i&&((frs.getD i 0 |||x)&&&(1 <<< n-1)==1 <<< n-1)&&!pend.contains i&&mK ops n m ams frs r (x |||(1 <<< i)) pend
  |(i,.d i2 j)::r,x,pend=>(decide (i<m)&&decide (i2<m)&&decide (j<m)&&!pend.contains i&&!pend.contains i2&&!pend.contains j)&&(decide (i≠i2)&&decide (i≠j)&&decide (i2≠j))&&
     (rT ams n (lH x pend)==[i,j])&&(rT ams n (lH (x |||(1 <<< i)) pend)==[i2,j])&&(rT ams n (lH (x |||(1 <<< j)) pend)==[i])&&
     (rT ams n (lH ((x |||(1 <<< i)) |||(1 <<< i2)) pend)==[j])&&(rT ams n (lH ((x |||(1 <<< i)) |||(1 <<< j)) pend)==[i2])&&
     mK ops n m ams frs r (((x |||(1 <<< i)) |||(1 <<< i2)) |||(1 <<< j)) pend
  |(_,.m _ _)::_,_,_=>false
  |(_,.x _ _ _)::_,_,_=>false
section
variable {ops:Array Oper}{ams frs:List Nat}
def dY(ops:Array Oper)(b:Array Bool)(x:Nat):Prop:=b.size=ops.size/\∀i,i<ops.size->b[i]?=some (x.testBit i)
theorem dY.getF{b:Array Bool}{x:Nat}(h:dY ops b x){i:Nat}(hi:i<ops.size)(d:Bool):b.getD i d=x.testBit i:=by
 rw[Array.getD_eq_getD_getElem?,h.2 i hi];rfl
theorem dY.set{b:Array Bool}{x:Nat}(h:dY ops b x)(i:Nat):dY ops (b.setIfInBounds i true) (x |||(1 <<< i)):=by
 refine⟨by simpa using h.1,λk C=>?_⟩;rw[Nat.testBit_or,eS,Array.getElem?_setIfInBounds]
 by_cases e:i=k
 · subst e
   have:i<b.size:=by rw[h.1];exact C
   simp[this]
 · rw[if_neg e,h.2 k C]
   simp[Ne.symm e]
theorem dY.setAll{b:Array Bool}{x:Nat}(h:dY ops b x):∀(l:List Nat),dY ops (setAll b l) (lH x l):=by
 intro l
 induction l generalizing b x with
 |nil=>exact h
 |cons i l ih=>exact ih (h.set i)
theorem dY.start:dY ops (Array.replicate ops.size false) 0:=⟨by simp,λi hi=>by simp[hi]⟩
def eG(ops:Array Oper)(ams frs:List Nat):Bool:=(ops.toList.map zBY==ams)&&((List.range ops.size).map (zMY ops ams)==frs)
theorem zNQ(h:eG ops ams frs=true){i:Nat}(hi:i<ops.size):ams.getD i 0=zBY (ops.getD i default):=by
 simp only[eG,Bool.and_eq_true,beq_iff_eq] at h;rw[<-h.1,List.getD_eq_getElem?_getD,List.getElem?_map,Array.getElem?_toList,Array.getD_eq_getD_getElem?];simp[hi]
theorem yEY(h:eG ops ams frs=true){i:Nat}(hi:i<ops.size):frs.getD i 0=zMY ops ams i:=by
 simp only[eG,Bool.and_eq_true,beq_iff_eq] at h;rw[<-h.2,List.getD_eq_getElem?_getD,List.getElem?_map];simp[hi]
theorem yCZ(hl:∀o∈ops,∀e∈o.after,e.on<ops.size){i:Nat}(hi:i<ops.size){e:Edge}(he:e∈(ops.getD i default).after):e.on<ops.size:=by
 refine hl _ ?_ e he;rw[Array.getD_eq_getD_getElem?,Array.getElem?_eq_getElem hi];exact Array.getElem_mem hi
theorem zN1(ht:eG ops ams frs=true)(hl:∀o∈ops,∀e∈o.after,e.on<ops.size){b:Array Bool}{x i:Nat}(hs:dY ops b x)(hi:i<ops.size):
 dE ams x i=(!b.getD i true&&((ops[i]?).map (·.after.all λe=>!Region.binds .any e||b.getD e.on false)).getD false):=by
 unfold dE;rw[hs.getF hi,zNQ ht hi]
 congr 1
 have G:ops[i]?=some (ops.getD i default):=mG hi;rw[G];simp only[Option.map_some,Option.getD_some];rw[Bool.eq_iff_iff,beq_iff_eq,Array.all_eq_true_iff_forall_mem];constructor
 · intro h e C
   by_cases D:Region.binds .any e=true
   · have h1:=(oY (ops.getD i default) e.on).2 ⟨e,C,D,I⟩
     rw[<-h,Nat.testBit_and,Bool.and_eq_true] at h1;rw[hs.getF (yCZ hl hi C),h1.2];simp
   · simp[D]
 · intro h
   apply Nat.eq_of_testBit_eq
   intro k;rw[Nat.testBit_and]
   by_cases hk:(zBY (ops.getD i default)).testBit k=true
   · obtain⟨e,C,D,rfl⟩:=(oY _ _).1 hk
     have h1:=h e C;rw[D,hs.getF (yCZ hl hi C)] at h1;simp at h1;rw[hk,h1];rfl
   · have:(zBY (ops.getD i default)).testBit k=false:=by simpa using hk
     rw[this];rfl
theorem kO(ht:eG ops ams frs=true)(hl:∀o∈ops,∀e∈o.after,e.on<ops.size){b:Array Bool}{x:Nat}(hs:dY ops b x):Region.ready .any ops b=rT ams ops.size x:=by
 unfold Region.ready rT
 apply List.filter_congr
 intro i hi;exact(zN1 ht hl hs (List.mem_range.1 hi)).symm
theorem eX(ht:eG ops ams frs=true)(hl:∀o∈ops,∀e∈o.after,e.on<ops.size){b:Array Bool}{x i:Nat}(hs:dY ops b x)(hi:i<ops.size)(h:dE ams x i=true):(Region.ready .any ops b).contains i=true:=by
 rw[kO ht hl hs];unfold rT;simp[hi,h]
theorem zTD{y n k:Nat}(h:y&&&(1 <<< n-1)=1 <<< n-1)(hk:k<n):y.testBit k=true:=by
 have h1:(1 <<< n-1).testBit k=true:=by rw[Nat.one_shiftLeft,Nat.testBit_two_pow_sub_one];simpa using hk
 rw[<-h,Nat.testBit_and,Bool.and_eq_true] at h1;exact h1.1
theorem zQ3(ht:eG ops ams frs=true){b:Array Bool}{x i:Nat}(hs:dY ops b x)(hi:i<ops.size)(h:(frs.getD i 0 |||x)&&&(1 <<< ops.size-1)=1 <<< ops.size-1):Region.free .any ops b i=true:=by
 unfold Region.free;rw[mG hi];simp only[List.all_eq_true,List.mem_range];intro j C;have h1:=zTD h C;rw[Nat.testBit_or,Bool.or_eq_true,yEY ht hi] at h1;rw[mG C,hs.getF C];simp only[Bool.or_eq_true,beq_iff_eq]
 rcases h1 with h1|h1
 · obtain⟨_,h2|h2|h2⟩:=zPP _ _ _ _ h1
   · exact .inl (.inl h2)
   · rw[zNQ ht C] at h2
     obtain⟨e,G,H,D⟩:=(oY _ _).1 h2;refine .inr (.inl ?_);rw[Array.any_eq_true'];exact⟨e,G,by simp[H,D]⟩
   · exact .inr (.inr h2)
 · exact .inl (.inr h1)
theorem zT9(ht:eG ops ams frs=true){k i:Nat}(hk:k<ops.size)(h:(ams.getD k 0).testBit i=true):zC5 ops k i=true:=by
 rw[zNQ ht hk] at h;obtain⟨e,D,G,C⟩:=(oY _ _).1 h;unfold zC5;rw[Array.any_eq_true'];refine⟨e,D,?_⟩;rw[G,C];simp[zB0]
theorem nJ(ht:eG ops ams frs=true)(hl:∀o∈ops,∀e∈o.after,e.on<ops.size){m:Nat}:∀(ord:List (Nat×Kd)) (b:Array Bool) (x:Nat) (pend:List Nat),dY ops b x->mK ops ops.size m ams frs ord x pend=true->chk ops m ord b pend=true
  |[],b,x,pend,hs,h=>by
   simp only[mK,Bool.and_eq_true] at h;simp only[chk,Bool.and_eq_true,kO ht hl hs];exact h
  |(i,.q)::r,b,x,pend,hs,h=>by
   simp only[mK,Bool.and_eq_true,beq_iff_eq,decide_eq_true_eq] at h;obtain⟨⟨⟨⟨⟨⟨h1,h2⟩,h3⟩,h4⟩,h5⟩,h6⟩,h7⟩:=h;simp only[chk,Bool.and_eq_true,decide_eq_true_eq];refine⟨⟨⟨⟨⟨h1,eX ht hl hs h2 h3⟩,zQ3 ht hs h2 h4⟩,h5⟩,?_⟩,nJ ht hl r _ _ _ (hs.set i) h7⟩;rw[List.all_eq_true] at h6 ⊢;intro k hk;have:=h6 k hk;simp only[Bool.or_eq_true] at this ⊢
   rcases this with(h8|h8)|h8
   · exact .inl h8
   · exact .inr (zT9 ht (List.mem_range.1 hk) h8)
   · exact .inr h8
  |(i,.a)::r,b,x,pend,hs,h=>by
   simp only[mK,Bool.and_eq_true] at h;obtain⟨⟨h1,h2⟩,h3⟩:=h;simp only[chk,Bool.and_eq_true,kO ht hl (hs.setAll _)];exact⟨⟨h1,h2⟩,nJ ht hl r _ _ _ (hs.set i) h3⟩
  |(i,.c)::r,b,x,pend,hs,h=>by
   simp only[mK,Bool.and_eq_true] at h;obtain⟨⟨⟨h1,h2⟩,h3⟩,h4⟩:=h;simp only[chk,Bool.and_eq_true,kO ht hl (hs.setAll _)];exact⟨⟨⟨h1,h2⟩,h3⟩,nJ ht hl r _ _ _ (hs.set i) h4⟩
  |(i,.b j)::r,b,x,pend,hs,h=>by
   simp only[mK,Bool.and_eq_true] at h;obtain⟨⟨⟨⟨⟨⟨⟨⟨h1,h2⟩,h3⟩,h4⟩,h5⟩,h6⟩,h7⟩,h8⟩,h9⟩:=h;simp only[chk,Bool.and_eq_true,kO ht hl (hs.setAll _),kO ht hl ((hs.set i).setAll _),kO ht hl ((hs.set j).setAll _)];exact⟨⟨⟨⟨⟨⟨⟨⟨h1,h2⟩,h3⟩,h4⟩,h5⟩,h6⟩,h7⟩,h8⟩,nJ ht hl r _ _ _ ((hs.set i).set j) h9⟩
  |(i,.t)::r,b,x,pend,hs,h=>by
   simp only[mK,Bool.and_eq_true] at h;obtain⟨⟨⟨⟨h1,h2⟩,h3⟩,h4⟩,h5⟩:=h;simp only[chk,Bool.and_eq_true,kO ht hl hs];exact⟨⟨⟨⟨h1,h2⟩,h3⟩,h4⟩,nJ ht hl r _ _ _ (hs.set i) h5⟩
  |(i,.p)::r,b,x,pend,hs,h=>by
   simp only[mK,Bool.and_eq_true,beq_iff_eq,decide_eq_true_eq] at h;obtain⟨⟨⟨⟨⟨h1,h2⟩,h3⟩,h4⟩,h5⟩,h7⟩:=h;simp only[chk,Bool.and_eq_true,decide_eq_true_eq];exact⟨⟨⟨⟨h1,eX ht hl hs h2 h3⟩,zQ3 ht hs h2 h4⟩,h5⟩,nJ ht hl r _ _ _ (hs.set i) h7⟩
  |(i,.d i2 j)::r,b,x,pend,hs,h=>by
   simp only[mK,Bool.and_eq_true] at h;obtain⟨⟨⟨⟨⟨⟨⟨h1,h2⟩,h3⟩,h4⟩,h5⟩,h6⟩,h7⟩,h8⟩:=h;simp only[chk,Bool.and_eq_true,kO ht hl (hs.setAll _),kO ht hl ((hs.set i).setAll _),kO ht hl ((hs.set j).setAll _),kO ht hl (((hs.set i).set i2).setAll _),kO ht hl (((hs.set i).set j).setAll _)];exact⟨⟨⟨⟨⟨⟨⟨h1,h2⟩,h3⟩,h4⟩,h5⟩,h6⟩,h7⟩,nJ ht hl r _ _ _ (((hs.set i).set i2).set j) h8⟩
  |(_,.m _ _)::_,_,_,_,_,h=>by simp[mK] at h
  |(_,.x _ _ _)::_,_,_,_,_,h=>by simp[mK] at h
def zPT(l:List Oper)(m:Nat)(ams frs:List Nat)(al:Als)(ord:List (Nat×Kd)):Bool:=
 Region.noSelect l.toArray&&cF l.toArray al&&(al.all λx=>decide (x.1<m))&&(l.all λo=>o.after.all λe=>decide (e.on<l.length))&&eG l.toArray ams frs&&mK l.toArray l.length m ams frs ord 0 (al.map (·.1))
theorem yHY{l:List Oper}{m:Nat}{al:Als}{ord:List (Nat×Kd)}(ams frs:List Nat)(h:zPT l m ams frs al ord=true):
 (Region.noSelect l.toArray&&cF l.toArray al&&(al.all λx=>decide (x.1<m))&&chk l.toArray m ord (Array.replicate l.length false) (al.map (·.1)))=true:=by
 simp only[zPT,Bool.and_eq_true] at h;obtain⟨⟨⟨⟨⟨h1,h2⟩,h3⟩,M⟩,J⟩,H⟩:=h;simp only[Bool.and_eq_true];refine⟨⟨⟨h1,h2⟩,h3⟩,?_⟩;have D:∀o∈l.toArray,∀e∈o.after,e.on<l.toArray.size:=by
  intro o C e G;have:=List.all_eq_true.1 M o (by simpa using C);have:=Array.all_eq_true_iff_forall_mem.1 this e G
  simpa using this
 exact nJ J D ord _ 0 _ dY.start H
end
end Bk
namespace Go.Proofs.YtpkaegemlpaenaaGreat
open Bk Go Tryz
theorem ty3:TyOk Tryz.prog 3 1 false:=⟨sizeOf3,isAgg3⟩
theorem ty4:TyOk Tryz.prog 4 1 false:=⟨sizeOf4,isAgg4⟩
theorem ty9:TyOk Tryz.prog 9 1 false:=⟨sizeOf9,isAgg9⟩
theorem tF:TyOk Tryz.prog 22 1 false:=⟨sizeOf22,isAgg22⟩
theorem yC:TyOk Tryz.prog 29 3 true:=⟨sizeOf29,isAgg29⟩
theorem zH:TyOk Tryz.prog 31 9 true:=⟨sizeOf31,isAgg31⟩
theorem vY:TyOk Tryz.prog 35 1 false:=⟨sizeOf35,isAgg35⟩
theorem fD:TyOk Tryz.prog 36 1 false:=⟨sizeOf36,isAgg36⟩
theorem yIN:TyOk Tryz.prog 37 1 false:=⟨sizeOf37,isAgg37⟩
theorem qK:TyOk Tryz.prog 39 3 true:=⟨sizeOf39,isAgg39⟩
theorem bZ:TyOk Tryz.prog 50 12 true:=⟨sizeOf50,isAgg50⟩
theorem bY:TyOk Tryz.prog 51 1 false:=⟨sizeOf51,isAgg51⟩
theorem bE:TyOk Tryz.prog 53 14 true:=⟨sizeOf53,isAgg53⟩
theorem yEA:TyOk Tryz.prog 76 1 false:=⟨sizeOf76,isAgg76⟩
theorem yD9:TyOk Tryz.prog 96 1 false:=⟨sizeOf96,isAgg96⟩
theorem yIM:TyOk Tryz.prog 97 1 false:=⟨sizeOf97,isAgg97⟩
theorem zRZ:TyOk Tryz.prog 99 2 true:=⟨sizeOf99,isAgg99⟩
theorem yCS:TyOk Tryz.prog 118 2 true:=⟨sizeOf118,isAgg118⟩
theorem zEI:TyOk Tryz.prog 140 15 true:=⟨sizeOf140,isAgg140⟩
theorem yCR:TyOk Tryz.prog 151 18 true:=⟨sizeOf151,isAgg151⟩
theorem zP5:TyOk Tryz.prog 153 19 true:=⟨sizeOf153,isAgg153⟩
theorem y1:TyOk Tryz.prog 168 5 true:=⟨sizeOf168,isAgg168⟩
theorem yIO:TyOk Tryz.prog 200 5 true:=⟨sizeOf200,isAgg200⟩
end Go.Proofs.YtpkaegemlpaenaaGreat
namespace Bk
open Go Go.RowKit
section
variable {P:Program}{n:Nat}{w0:World}{h0:Mem}{e:List (Nat×Value)}{h:Mem}{ds:Option Tmp}{ty:TypeId}{ps:String}{af:Array Edge}{gd:Option (Nat×Bool)}{α:Type}
theorem zOC{ρ:Rp α}{xs:List α}{v:Value}{t E:TypeId}{x lo:Operand}{p:Int}(i:Nat)(ht:P.underlying t=some (.slice E))(hsz:∀w,(Go.sizeOf E).run P w=.ok ρ.n w)(hx:zJ e x=some v)(hl:zJ e lo=some (vI p))(r:(rpS ρ).Is h v xs)
    (hp:p=(i:Int))(hi:i<=xs.length):OpX P n w0 h0 ⟨ds,.slice t x (some lo) none none,ty,ps,af,gd⟩ e [] h (λu=>(rpS ρ).Is h u (xs.drop i)):=by
 obtain⟨cs,s,D⟩:=zSV r;refine zV3 (λL' h'=>jC i ht hsz hx hl s.shape hp hi) ?_;have G:=s.sub hi (Nat.le_refl _);have C:=D.len;rw[List.take_of_length_le (by rw[List.length_drop,C,<-Nat.sub_mul];exact Nat.le_refl _)] at G;exact yBQ (by rw[List.length_drop];exact G) (D.drop i)
end
def ByB(bs:List Nat):Prop:=∀x∈bs,x<256
theorem ByB.nil:ByB []:=λx hx=>by cases hx
theorem ByB.app{a b:List Nat}(ha:ByB a)(hb:ByB b):ByB (a++b):=λx hx=>(List.mem_append.1 hx).elim (ha x) (hb x)
theorem zRP(n:Nat):ByB (txt n):=yEB n
theorem zI8(a b:List Nat):qL a++qL b=qL (a++b):=by
 apply ByteArray.ext
 simp[qL]
theorem zHS{a b:List Nat}(ha:ByB a)(hb:ByB b):qL a=qL b↔a=b:=
 ⟨λh=>by rw[<-zIV ha,<-zIV hb,h],λh=>by rw[h]⟩
section
variable {P:Program}{n:Nat}{w0:World}{h0:Mem}{e:List (Nat×Value)}{L:List Res}{h:Mem}
variable {ds:Option Tmp}{ty:TypeId}{ps:String}{af:Array Edge}{gd:Option (Nat×Bool)}
theorem wW{pa pb:List Nat}{t yt:TypeId}{x y:Operand}(hx:zJ e x=some (.string (qL pa)))(hy:zJ e y=some (.string (qL pb)))(hlen:pa.length+pb.length<=9223372036854775807):
 OpV P n w0 h0 ⟨ds,.binOp .add t x y yt,ty,ps,af,gd⟩ e L h (.string (qL (pa++pb))):=by
 intro a w C S;have h1:=Us.str_size (xs:=pa);have h2:=Us.str_size (xs:=pb);have h3:¬(((qL pa).size+(qL pb).size:Nat):Int)>IntKind.i64.max:=by
  have:IntKind.i64.max=9223372036854775807:=I;rw[this];omega
 have D:(Op.stringOp .add (qL pa) (qL pb)).run P w=.ok (.string (qL (pa++pb))) w:=by
  simp only[Op.stringOp];rw[if_neg h3,zI8]
  rfl
 simp only[execOp,C.eval hx,C.eval hy];simp[eqGuard,binOp,D]
theorem mC{pa pb:List Nat}{t yt:TypeId}{x y:Operand}(ha:ByB pa)(hb:ByB pb)(hx:zJ e x=some (.string (qL pa)))(hy:zJ e y=some (.string (qL pb))):OpV P n w0 h0 ⟨ds,.binOp .eql t x y yt,ty,ps,af,gd⟩ e L h (vB (pa=pb)):=by
 have:=zOJ (P:=P) (n:=n) (w0:=w0) (h0:=h0) (L:=L) (h:=h) (ds:=ds) (ty:=ty) (ps:=ps) (af:=af) (gd:=gd) (t:=t) (yt:=yt) hx hy;rw[kA (zHS ha hb)] at this;exact this
theorem zV5{pa pb:List Nat}{t yt:TypeId}{x y:Operand}(ha:ByB pa)(hb:ByB pb)(hx:zJ e x=some (.string (qL pa)))(hy:zJ e y=some (.string (qL pb))):OpV P n w0 h0 ⟨ds,.binOp .neq t x y yt,ty,ps,af,gd⟩ e L h (vB (pa≠pb)):=by
 have h1:((qL pa).toList==(qL pb).toList)=@decide (qL pa=qL pb) (Classical.propDecidable _):=by
  rw[Bool.eq_iff_iff];simp only[beq_iff_eq,decide_eq_true_eq];exact⟨λhh=>by
   have h2:(qL pa).data.toList=(qL pb).data.toList:=by
    rwa [ByteArray.toList_eq,ByteArray.toList_eq] at hh
   exact ByteArray.ext (Array.toList_inj.1 h2),λhh=>by rw[hh]⟩
 rw[<-kA (not_congr (zHS ha hb))];intro a w C S;simp only[execOp,C.eval hx,C.eval hy,binOp,vB];simp[eqGuard,Op.stringOp,h1]
end
end Bk
namespace Bk
open Go Go.RowKit
open Classical
noncomputable def qN(q:Rat):List Nat:=(if q.num<0 then[45] else[])++txt q.num.natAbs++(if wQ q.den=0 then[] else[47]++txt (wQ q.den))
theorem zYR(q:Rat):ByB (qN q):=by
 unfold qN;refine ByB.app (ByB.app ?_ (zRP _)) ?_
 · split
   · unfold ByB;decide
   · exact ByB.nil
 · split
   · exact ByB.nil
   · exact ByB.app (by unfold ByB;decide) (zRP _)
theorem zAF(q:Rat):(qN q).length<=20*lq q+4:=by
 unfold qN;have h1:=zAE q.num.natAbs;have h2:=zAE (wQ q.den);have h3:=uD q;have C:=vX q;have H:(if q.num<0 then[45] else([]:List Nat)).length<=1:=by split<;>simp
 have G:(if wQ q.den=0 then[] else[47]++txt (wQ q.den)).length<=1+(txt (wQ q.den)).length:=by split<;>simp<;>omega
 rw[lAz,lAz];have D:(zB (wQ q.den)).length<=lq q:=C;omega
theorem bC{q:Rat}:(0:Int)<↑(zB (wQ q.den)).length↔¬wQ q.den=0:=by
 have:=yQ (n:=wQ q.den);omega
theorem zZX{q:Rat}(h1:q.num<0)(h2:¬(0:Int)<↑(zB (wQ q.den)).length):[45]++txt q.num.natAbs=qN q:=by
 unfold qN;rw[if_pos h1,if_pos (Classical.not_not.1 λe=>h2 (bC.2 e)),List.append_nil]
theorem yEC{q:Rat}(h1:q.num<0)(h2:(0:Int)<↑(zB (wQ q.den)).length):[45]++txt q.num.natAbs++([47]++txt (wQ q.den))=qN q:=by
 unfold qN;rw[if_pos h1,if_neg (bC.1 h2)]
theorem zZZ{q:Rat}(h1:¬q.num<0)(h2:¬(0:Int)<↑(zB (wQ q.den)).length):txt q.num.natAbs=qN q:=by
 unfold qN;rw[if_neg h1,if_pos (Classical.not_not.1 λe=>h2 (bC.2 e)),List.append_nil,List.nil_append]
theorem zZY{q:Rat}(h1:¬q.num<0)(h2:(0:Int)<↑(zB (wQ q.den)).length):txt q.num.natAbs++([47]++txt (wQ q.den))=qN q:=by
 unfold qN;rw[if_neg h1,if_neg (bC.1 h2),List.nil_append]
def aD:List Nat->Nat
  |[]=>0
  |b::bs=>if 48<=b/\b<=57 then aD bs+1 else 0
noncomputable def exU(s:List Nat):List Nat:=if s.drop 1≠[]/\((s.drop 1).getD 0 0=43\/(s.drop 1).getD 0 0=45) then(s.drop 1).drop 1 else s.drop 1
def yHI(s:List Nat):Prop:=s.drop 1≠[]/\(s.drop 1).getD 0 0=45
def yJ3(s:List Nat):Prop:=(s.getD 0 0=101\/s.getD 0 0=69)/\exU s≠[]/\(exU s).length<=3/\aD (exU s)=(exU s).length
noncomputable def exN(s:List Nat):Nat:=if yJ3 s then hor (exU s) else 0
noncomputable def yHD(s:Prop)(n d:Nat):Int×Rat:=if(2048:Int)<yKF (mkRat (sg s n) d) then(2,0) else(0,mkRat (sg s n) d)
noncomputable def yHE(s:Prop)(n d:Nat)(r:List Nat):Int×Rat:=
 if r=[] then yHD s n d else if yJ3 r then(if yHI r then yHD s n (d*10^exN r) else yHD s (n*10^exN r) d) else(4,0)
def yI1(r:List Nat):Prop:=r≠[]/\r.getD 0 0=47
def dot(r:List Nat):Prop:=r≠[]/\r.getD 0 0=46
noncomputable def fin2(s:Prop)(bs:List Nat):Int×Rat:=
 if aD bs=0 then(4,0) else
 if yI1 (bs.drop (aD bs)) then
  (if(bs.drop (aD bs)).drop 1=[]\/aD ((bs.drop (aD bs)).drop 1)≠((bs.drop (aD bs)).drop 1).length then(4,0) else if hor ((bs.drop (aD bs)).drop 1)=0 then(3,0) else yHE s (hor (bs.take (aD bs))) (hor ((bs.drop (aD bs)).drop 1)) [])
 else if dot (bs.drop (aD bs)) then
  (if aD ((bs.drop (aD bs)).drop 1)=0 then(4,0) else yHE s (hor (bs.take (aD bs)++((bs.drop (aD bs)).drop 1).take (aD ((bs.drop (aD bs)).drop 1)))) (10^aD ((bs.drop (aD bs)).drop 1)) ((bs.drop (aD bs)).drop (aD ((bs.drop (aD bs)).drop 1)+1)))
 else yHE s (hor (bs.take (aD bs))) 1 (bs.drop (aD bs))
def zV2(bs:List Nat):Prop:=(0:Int)<↑bs.length/\bs.getD 0 0=45
noncomputable def yA1(bs:List Nat):List Nat:=if zV2 bs then bs.drop 1 else bs
noncomputable def parQ(bs:List Nat):Int×Rat:=if 4096<bs.length then(2,0) else fin2 (zV2 bs) (yA1 bs)
theorem zZW{n:Nat}(h0:n≠0)(h:n<10):txt n=[48+n]:=by
 unfold txt;rw[if_neg h0,zNA h0,show n/10=0 by omega,zIU,Nat.mod_eq_of_lt h];rfl
theorem rO(q:Rat):yR q=if q=0 then 0 else if q<0 then -1 else 1:=by unfold yR;simp only[lW]
theorem zIT(a b:Rat):xT a b= -xT b a:=by unfold xT;grind
theorem zGR(a b:Rat):xT a b=yR (a-b):=by rw[rO];unfold xT;grind
theorem zCK(a b:Rat):a<b\/a=b\/b<a:=by grind
theorem zYN(a b c:Rat):xT (a*c) (b*c)=xT a b*yR c:=by
 rw[rO]
 by_cases h0:c=0
 · subst h0
   have:xT (a*0) (b*0)=0:=aS.2 zoi;rw[this,if_pos I,Int.mul_zero]
 · rw[if_neg h0]
   by_cases hc:c<0
   · rw[if_pos hc]
     rcases zCK a b with h|h|h
     · have h1:b*c<a*c:=by
        have:=Rat.mul_lt_mul_of_pos_right h (c:=-c) zoi;grind
       unfold xT;grind
     · subst h;unfold xT;simp
     · have h1:a*c<b*c:=by
        have:=Rat.mul_lt_mul_of_pos_right h (c:=-c) zoi;grind
       unfold xT;grind
   · rw[if_neg hc]
     have C:0<c:=by grind
     rcases zCK a b with h|h|h
     · have h1:=Rat.mul_lt_mul_of_pos_right h C
       unfold xT;grind
     · subst h;unfold xT;simp
     · have h1:=Rat.mul_lt_mul_of_pos_right h C
       unfold xT;grind
theorem dL{x y:Int}(hx:-1<=x/\x<=1)(hy:-1<=y/\y<=1):-1<=x*y/\x*y<=1:=by
 have:x= -1\/x=0\/x=1:=by omega
 rcases this with h|h|h<;>subst h<;>omega
theorem jT{a b:Rat}:xT a b<=0↔a<=b:=by
 have h:=zGS (a:=a) (b:=b);constructor
 · intro h1
   refine Rat.not_lt.1 λe=>?_;have:=h.2 e;omega
 · intro h1
   have:¬0<xT a b:=λe=>Rat.not_lt.2 h1 (h.1 e);omega
theorem zPI(a b:Rat):a<=b\/b<=a:=by grind
def yBS(a b r:Rat):Prop:=a<=r/\r<=b
noncomputable def yC2(a b c d:Rat):Rat:=zF0 (zF0 (zF0 (a*c) (a*d)) (b*c)) (b*d)
noncomputable def yC3(a b c d:Rat):Rat:=zDR (zDR (zDR (a*c) (a*d)) (b*c)) (b*d)
noncomputable def zMS(a:Rat):Rat:=if a=0 then 0 else((1:Int):Rat)/a
noncomputable def yIV(a b:Rat):Rat:=if yBS a b 0 then 0 else zF0 (a*a) (b*b)
noncomputable def yIW(a b:Rat):Rat:=zDR (a*a) (b*b)
theorem zMG{a b c:Rat}(h:a<=b)(hc:0<=c):a*c<=b*c:=Rat.mul_le_mul_of_nonneg_right h hc
theorem zB2(x:Rat):0<=x*x:=by
 rcases zPI 0 x with h|h
 · have:=zMG h h;grind
 · have:=zMG (a:=0) (b:=-x) (c:=-x) zoi zoi;grind
noncomputable def yJE(a b c d:Rat):Rat:=if yBS c d 0 then 0 else yC2 a b (zF0 (zMS c) (zMS d)) (zDR (zMS c) (zMS d))
noncomputable def yJF(a b c d:Rat):Rat:=if yBS c d 0 then 0 else yC3 a b (zF0 (zMS c) (zMS d)) (zDR (zMS c) (zMS d))
noncomputable def quoE(c d:Rat):Int:=if yBS c d 0 then 3 else 0
theorem zR4(n:Nat):∃m,m*m<=n/\n<(m+1)*(m+1):=by
 induction n with
 |zero=>exact⟨0,by decide,by decide⟩
 |succ n ih=>
  obtain⟨m,h1,h2⟩:=ih
  by_cases h:(m+1)*(m+1)<=n+1
  · refine⟨m+1,h,?_⟩
    have:(m+1)*(m+1)<(m+1+1)*(m+1+1):=Nat.mul_self_lt_mul_self zoa;omega
  · exact⟨m,by omega,by omega⟩
noncomputable def sqN(n:Nat):Nat:=Classical.choose (zR4 n)
theorem yJD{h:Mem}{cs:List Value}{a b:Rat}{k l:Nat}(r:(rpQ k).R h cs a)(e:a=b)(hl:lq b<=l):(rpQ l).R h cs b:=by
 subst e;exact⟨r.1,hl⟩
noncomputable def ovQ(a K:Nat):Rat:=(a:Rat)/((2^K:Nat):Rat)
def flN(q:Rat)(K:Nat):Nat:=q.num.natAbs*2^K*2^K/q.den
noncomputable def zHV(q:Rat)(k:Int):Rat:=ovQ (sqN (flN q (kN k))) (kN k)
theorem zF9{x y c:Rat}(hc:0<c):x<=y↔x*c<=y*c:=by
 constructor
 · intro h;exact Rat.mul_le_mul_of_nonneg_right h zoi
 · intro h
   refine Rat.not_lt.1 λe=>?_;have:=Rat.mul_lt_mul_of_pos_right e hc;grind
def topN(q:Rat)(K:Nat):Nat:=(q.num.natAbs/q.den+1)*2^K
def yJO(q:Rat)(K:Nat):Prop:=q.num.natAbs*2^K*2^K%q.den≠0
noncomputable def rtLo(l h:Rat)(k:Int):Rat:=if h<0 then 0 else zHV (zDR l 0) k
noncomputable def yJA(h:Rat)(k:Int):Rat:=if h<0 then 0 else if zHV h k*zHV h k<h then zHV h k+ovQ 1 (kN k) else zHV h k
noncomputable def rtE(h:Rat):Int:=if h<0 then 7 else 0
noncomputable def loN(l:Rat)(K:Nat):Nat:=if 0<yR l then sqN (flN l K) else 0
theorem iX{q:Rat}:0<yR q↔0<q:=by
 rw[rO]
 by_cases h0:q=0
 · rw[if_pos h0,h0]
   constructor
   · intro h;omega
   · intro h;exact absurd h (Rat.lt_irrefl)
 · rw[if_neg h0]
   by_cases h1:q<0
   · rw[if_pos h1]
     constructor
     · intro h;omega
     · intro h;grind
   · rw[if_neg h1]
     constructor
     · intro h;grind
     · intro h;omega
theorem jK{q:Rat}:yR q<0↔q<0:=by
 rw[rO]
 by_cases h0:q=0
 · rw[if_pos h0,h0]
   constructor
   · intro h;omega
   · intro h;exact absurd h (Rat.lt_irrefl)
 · rw[if_neg h0]
   by_cases h1:q<0
   · rw[if_pos h1];simp[h1]
   · rw[if_neg h1]
     constructor
     · intro h;omega
     · intro h;grind
noncomputable def hiN(q:Rat)(K:Nat):Nat:=if yJO q K\/rN (sqN (flN q K)*sqN (flN q K)) (flN q K)<0 then sqN (flN q K)+1 else sqN (flN q K)
abbrev Sp:=Rat×Rat
noncomputable def ofS(a b:Rat):Sp:=(zF0 a b,zDR a b)
noncomputable def hullS(a b:Sp):Sp:=(zF0 a.1 b.1,zDR a.2 b.2)
def addS(a b:Sp):Sp:=(a.1+b.1,a.2+b.2)
def negS(a:Sp):Sp:=(-a.2,-a.1)
def subS(a b:Sp):Sp:=(a.1-b.2,a.2-b.1)
noncomputable def zW1(a b:Sp):Sp:=(yC2 a.1 a.2 b.1 b.2,yC3 a.1 a.2 b.1 b.2)
noncomputable def sqrS(a:Sp):Sp:=(yIV a.1 a.2,yIW a.1 a.2)
noncomputable def roundS(a:Sp)(n:Int):Sp:=(yDC a.1 n,upQ a.2 n)
noncomputable def quoS(a b:Sp):Sp:=(yJE a.1 a.2 b.1 b.2,yJF a.1 a.2 b.1 b.2)
noncomputable def meetS(a b:Sp):Sp:=(if zF0 a.2 b.2<zDR a.1 b.1 then 0 else zDR a.1 b.1,if zF0 a.2 b.2<zDR a.1 b.1 then 0 else zF0 a.2 b.2)
noncomputable def rootS(a:Sp)(n:Int):Sp:=(rtLo a.1 a.2 n,yJA a.2 n)
noncomputable def yKM(s:Sp)(n:Int):Rat:=s.1+zQH n*(s.2-s.1)
noncomputable def ratQ(n d:Int):Rat:=jW (iG n 41-20) (iG d 8+1)
noncomputable def yDD(a b c d:Sp):Sp:=subS (zW1 a d) (zW1 b c)
noncomputable def zO8(m:T3 (T3 Sp))(i j:Nat):Sp:=yDD (m.y.at i) (m.y.at j) (m.z.at i) (m.z.at j)
noncomputable def det3S(m:T3 (T3 Sp)):Sp:=addS (subS (zW1 m.x.x (zO8 m 1 2)) (zW1 m.x.y (zO8 m 0 2))) (zW1 m.x.z (zO8 m 0 1))
def okM(m:T3 (T3 Sp)):Prop:=∀i j,((m.at i).at j).1<=((m.at i).at j).2
noncomputable def det2L(m:List (List Sp)):Sp:=yDD ((m.getD 0 (List.replicate 2 ((0:Rat),(0:Rat)))).getD 0 ((0:Rat),(0:Rat))) ((m.getD 0 (List.replicate 2 ((0:Rat),(0:Rat)))).getD 1 ((0:Rat),(0:Rat))) ((m.getD 1 (List.replicate 2 ((0:Rat),(0:Rat)))).getD 0 ((0:Rat),(0:Rat))) ((m.getD 1 (List.replicate 2 ((0:Rat),(0:Rat)))).getD 1 ((0:Rat),(0:Rat)))
def detR(n:T3 (T3 Rat)):Rat:=n.x.x*n.y.y*n.z.z-n.x.x*n.y.z*n.z.y+(n.x.y*n.y.z*n.z.x-n.x.y*n.y.x*n.z.z)+(n.x.z*n.y.x*n.z.y-n.x.z*n.y.y*n.z.x)
abbrev Pt:=T3 Rat
abbrev P2:=Rat×Rat
def pr(p:Pt)(i j:Nat):P2:=(p.at i,p.at j)
theorem zJG{c:Prop} [Decidable c](a b:Pt)(i j:Nat):pr (if c then a else b) i j=if c then pr a i j else pr b i j:=by split<;>rfl
def cr(u v w:P2):Rat:=(v.1-u.1)*(w.2-u.2)-(v.2-u.2)*(w.1-u.1)
noncomputable def orZ(u v w:P2):Int:=yR (cr u v w)
def qY(a b x:Rat):Prop:=(a<=x/\x<=b)\/(x<=a/\b<=x)
def onS(u v p:P2):Prop:=qY u.1 v.1 p.1/\qY u.2 v.2 p.2/\cr u v p=0
def kC(a b c d:Rat):Prop:=(a<c/\a<d/\b<c/\b<d)\/(c<a/\d<a/\c<b/\d<b)
def lx(u v:P2):Prop:=u.1<v.1\/(u.1=v.1/\u.2<v.2)
noncomputable def lo2(u v:P2):P2:=if lx v u then v else u
noncomputable def hi2(u v:P2):P2:=if lx v u then u else v
noncomputable def oZ(a b c d:P2):Int:=
 if lx (if lx d b then d else b) (if lx a c then c else a) then 0 else if lx (if lx a c then c else a) (if lx d b then d else b) then 3
 else if((if lx a c then c else a)=a\/(if lx a c then c else a)=b)/\((if lx a c then c else a)=c\/(if lx a c then c else a)=d) then 1 else 2
noncomputable def lI(a b c d:P2):Int:=oZ (lo2 a b) (hi2 a b) (lo2 c d) (hi2 c d)
noncomputable def fT(a b c d:P2):Int:=
 if kC a.1 b.1 c.1 d.1\/kC a.2 b.2 c.2 d.2 then 0
 else if orZ a b c=0/\orZ a b d=0/\orZ c d a=0/\orZ c d b=0 then lI a b c d
 else if 0<orZ a b c*orZ a b d\/0<orZ c d a*orZ c d b then 0
 else if(orZ a b c=0\/orZ a b d=0)/\(orZ c d a=0\/orZ c d b=0) then 1 else 2
noncomputable def zDH(a b c d:P2):Int:=
 if lx (if lx d b then d else b) (if lx a c then c else a) then 0 else if(if lx a c then c else a)≠(if lx d b then d else b) then 3
 else if((if lx a c then c else a)=a\/(if lx a c then c else a)=b)/\((if lx a c then c else a)=c\/(if lx a c then c else a)=d)/\onS a b (if lx a c then c else a)/\onS c d (if lx a c then c else a) then 1
 else if onS a b (if lx a c then c else a)/\onS c d (if lx a c then c else a) then 2 else 0
noncomputable def iW(a b c d:P2):Int:=if(a=b/\onS c d a)\/(c=d/\onS a b c) then 2 else 0
noncomputable def zI3(a b c d:P2):Int:=
 if orZ a b c=0/\orZ a b d=0/\orZ c d a=0/\orZ c d b=0 then zDH a b c d
 else if a=b\/c=d then iW a b c d
 else if 0<orZ a b c*orZ a b d\/0<orZ c d a*orZ c d b then 0
 else if a=c\/a=d\/b=c\/b=d then 1 else 2
noncomputable def mR(a b c d:P2):Int:=zI3 (lo2 a b) (hi2 a b) (lo2 c d) (hi2 c d)
def cr2(ax ay bx by' cx cy:Rat):Rat:=(bx-ax)*(cy-ay)-(by'-ay)*(cx-ax)
theorem zJI{D e u v:Rat}(hD:0<D)(h0:0<=e)(h1:e<=D)(h:D*u=v*e):(0<=v->0<=u/\u<=v)/\(v<=0->v<=u/\u<=0):=by
 constructor
 · intro G
   constructor
   · refine Rat.not_lt.1 λC=>?_
     have h2:=Rat.mul_lt_mul_of_pos_right C hD;have h3:=Rat.mul_nonneg G h0;grind
   · refine Rat.not_lt.1 λC=>?_
     have h2:=Rat.mul_lt_mul_of_pos_right C hD;have h3:=Rat.mul_le_mul_of_nonneg_right h1 G;grind
 · intro G
   constructor
   · refine Rat.not_lt.1 λC=>?_
     have h2:=Rat.mul_lt_mul_of_pos_right C hD;have h3:=Rat.mul_le_mul_of_nonneg_right h1 (c:=-v) zoi;grind
   · refine Rat.not_lt.1 λC=>?_
     have h2:=Rat.mul_lt_mul_of_pos_right C hD;have h3:=Rat.mul_nonneg (a:=-v) (b:=e) zoi h0;grind
theorem zMP{a b:Rat}(h:a<=b):a<b\/a=b:=by grind
theorem sE{a b:Rat}(h:a*b=0):a=0\/b=0:=Rat.mul_eq_zero.1 h
def lex(ax ay bx by':Rat):Prop:=ax<bx\/(ax=bx/\ay<by')
theorem zJ3{ax ay bx by':Rat}:¬lex bx by' ax ay↔ax<bx\/(ax=bx/\ay<=by'):=by
 unfold lex;grind
theorem zCC{ax ay bx by' px py:Rat}(hs:¬lex bx by' ax ay)(hc:cr2 ax ay bx by' px py=0):
 (¬lex px py ax ay/\¬lex bx by' px py)↔(qY ax bx px/\qY ay by' py):=by
 rw[zJ3] at hs;rw[zJ3,zJ3];unfold cr2 at hc;unfold qY
 rcases hs with hs|⟨hx,hy⟩
 · have J:0<bx-ax:=by grind
   have H:(bx-ax)*(py-ay)=(by'-ay)*(px-ax):=by grind
   constructor
   · rintro⟨h1,h2⟩
     have h3:0<=px-ax:=by grind
     have C:px-ax<=bx-ax:=by grind
     obtain⟨G,D⟩:=zJI J h3 C H;refine⟨.inl ⟨by grind,by grind⟩,?_⟩
     rcases zPI ay by' with h7|h7
     · have:=G zoi;grind
     · have:=D zoi;grind
   · rintro⟨h1,h2⟩
     have h3:ax<=px/\px<=bx:=by grind
     constructor
     · rcases zMP h3.1 with C|C
       · exact .inl C
       · refine .inr ⟨C,?_⟩
         have G:(bx-ax)*(py-ay)=0:=by grind
         rcases sE G with D|D<;>grind
     · rcases zMP h3.2 with C|C
       · exact .inl C
       · refine .inr ⟨C,?_⟩
         have G:(bx-ax)*(py-by')=0:=by grind
         rcases sE G with D|D<;>grind
 · subst hx
   grind
theorem zGX{a b x:Rat}:qY a b x↔qY b a x:=by unfold qY;grind
theorem zM5(ax ay bx by' cx cy:Rat):cr2 bx by' ax ay cx cy= -cr2 ax ay bx by' cx cy:=by unfold cr2;grind
theorem yF5{ax ay bx by' px py:Rat}:(cr2 ax ay bx by' px py=0/\(if lex bx by' ax ay then ¬lex px py bx by'/\¬lex ax ay px py else ¬lex px py ax ay/\¬lex bx by' px py))↔(qY ax bx px/\qY ay by' py/\cr2 ax ay bx by' px py=0):=by
 by_cases hc:cr2 ax ay bx by' px py=0
 · simp only[hc,true_and,and_true]
   by_cases hl:lex bx by' ax ay
   · rw[if_pos hl]
     have h1:¬lex ax ay bx by':=by unfold lex at *;grind
     have h2:cr2 bx by' ax ay px py=0:=by rw[zM5,hc];grind
     rw[zCC h1 h2,zGX,zGX (a:=by')]
   · rw[if_neg hl]
     exact zCC hl hc
 · simp[hc]
theorem zIQ{ux uy vx vy wx wy:Rat}(h:ux≠0\/uy≠0)(h1:vx*uy=vy*ux)(h2:wx*uy=wy*ux):vx*wy=vy*wx:=by
 rcases h with h|h
 · have e:ux*(vx*wy-vy*wx)=0:=by grind
   rcases sE e with h3|h3
   · exact absurd h3 h
   · grind
 · have e:uy*(vx*wy-vy*wx)=0:=by grind
   rcases sE e with h3|h3
   · exact absurd h3 h
   · grind
theorem zTS{ax ay bx by' cx cy dx dy:Rat}(hp:cr2 ax ay bx by' cx cy=0)(hr:cr2 cx cy dx dy ax ay=0):
 (ax=cx/\ay=cy)\/(cr2 ax ay bx by' dx dy=0/\cr2 cx cy dx dy bx by'=0):=by
 by_cases h:ax=cx/\ay=cy
 · exact .inl h
 · refine .inr ?_
   have C:cx-ax≠0\/cy-ay≠0:=by grind
   have h1:(bx-ax)*(cy-ay)=(by'-ay)*(cx-ax):=by unfold cr2 at hp;grind
   have h2:(dx-ax)*(cy-ay)=(dy-ay)*(cx-ax):=by unfold cr2 at hr;grind
   have h3:=zIQ C h1 h2;unfold cr2;constructor<;>grind
theorem zM3{ax ay bx by' cx cy dx dy:Rat}(hpq:cr2 ax ay bx by' cx cy≠cr2 ax ay bx by' dx dy)(h1:cr2 ax ay bx by' cx cy*cr2 ax ay bx by' dx dy<=0)(h2:cr2 cx cy dx dy ax ay*cr2 cx cy dx dy bx by'<=0)(hrs:cr2 cx cy dx dy ax ay≠cr2 cx cy dx dy bx by'):
 ∃x y,qY ax bx x/\qY ay by' y/\qY cx dx x/\qY cy dy y:=by
 obtain⟨p,M⟩:∃p,p=cr2 ax ay bx by' cx cy:=⟨_,I⟩;obtain⟨q,J⟩:∃q,q=cr2 ax ay bx by' dx dy:=⟨_,I⟩;obtain⟨r,H⟩:∃r,r=cr2 cx cy dx dy ax ay:=⟨_,I⟩;obtain⟨s,es⟩:∃s,s=cr2 cx cy dx dy bx by':=⟨_,I⟩;rw[<-M,<-J] at hpq h1;rw[<-H,<-es] at hrs h2;have hw:∀{u v:Rat},u≠v->u*v<=0->0<=u/(u-v)/\u/(u-v)<=1:=by
  intro u v ab ac;have h3:u-v≠0:=by grind
  have D:0<(u-v)*(u-v):=by
   rcases zCK (u-v) 0 with h|h|h
   · have:=Rat.mul_pos (a:=-(u-v)) (b:=-(u-v)) zoi zoi;grind
   · exact absurd h h3
   · exact Rat.mul_pos h h
  have e:u/(u-v)*((u-v)*(u-v))=u*(u-v):=by grind
  have h5:0<=u*u:=zB2 u;have h6:0<=v*v:=zB2 v;constructor
  · rw[zF9 D,e];grind
  · rw[zF9 D,e];grind
 obtain⟨t1,t2⟩:=hw hpq h1;obtain⟨w1,w2⟩:=hw hrs h2;have G:∀{u v t:Rat},0<=t->t<=1->qY u v (u+t*(v-u)):=by
  intro u v t h3 D;unfold qY
  rcases zPI u v with h5|h5
  · left
    have h6:=Rat.mul_nonneg h3 (show 0<=v-u by grind);have h7:=Rat.mul_le_mul_of_nonneg_right D (show 0<=v-u by grind);constructor<;>grind
  · right
    have h6:=Rat.mul_nonneg h3 (show 0<=u-v by grind);have h7:=Rat.mul_le_mul_of_nonneg_right D (show 0<=u-v by grind);constructor<;>grind
 have C:p-q≠0:=by grind
 have aa:r-s≠0:=by grind
 have zTN:p-q= -(r-s):=by rw[M,J,H,es];unfold cr2;grind
 have ex:cx+p/(p-q)*(dx-cx)=ax+r/(r-s)*(bx-ax):=by
  have e1:(p-q)*(cx+p/(p-q)*(dx-cx))=(p-q)*(ax+r/(r-s)*(bx-ax)):=by
   have Z:(p-q)*(cx+p/(p-q)*(dx-cx))=(p-q)*cx+p*(dx-cx):=by grind
   have U:(p-q)*(ax+r/(r-s)*(bx-ax))=(p-q)*ax-r*(bx-ax):=by grind
   rw[Z,U,M,J,H];unfold cr2;grind
  have O:(p-q)*((cx+p/(p-q)*(dx-cx))-(ax+r/(r-s)*(bx-ax)))=0:=by grind
  rcases sE O with h|h
  · exact absurd h C
  · grind
 have ey:cy+p/(p-q)*(dy-cy)=ay+r/(r-s)*(by'-ay):=by
  have e1:(p-q)*(cy+p/(p-q)*(dy-cy))=(p-q)*(ay+r/(r-s)*(by'-ay)):=by
   have Z:(p-q)*(cy+p/(p-q)*(dy-cy))=(p-q)*cy+p*(dy-cy):=by grind
   have U:(p-q)*(ay+r/(r-s)*(by'-ay))=(p-q)*ay-r*(by'-ay):=by grind
   rw[Z,U,M,J,H];unfold cr2;grind
  have O:(p-q)*((cy+p/(p-q)*(dy-cy))-(ay+r/(r-s)*(by'-ay)))=0:=by grind
  rcases sE O with h|h
  · exact absurd h C
  · grind
 exact⟨_,_,ex▸G w1 w2,ey▸G w1 w2,G t1 t2,G t1 t2⟩
theorem bD{a b c d x:Rat}(h:kC a b c d)(h1:qY a b x)(h2:qY c d x):False:=by unfold kC qY at *;grind
theorem yDF(u v w:P2):cr u v w=cr2 u.1 u.2 v.1 v.2 w.1 w.2:=rfl
theorem fK{u v w:P2}:orZ u v w=0↔cr u v w=0:=uP
theorem pE{u v:P2}:¬lx v u↔lx u v\/u=v:=by
 unfold lx;rw[Prod.ext_iff];grind
theorem oH(u:P2):¬lx u u:=by unfold lx;grind
theorem bA{u v:P2}(h:lx u v):¬lx v u:=by unfold lx at *;grind
theorem zBB{u v w:P2}(h:lx u v)(k:lx v w):lx u w:=by unfold lx at *;grind
theorem yA2{a b p:P2}:(orZ a b p=0/\(if lx b a then ¬lx p b/\¬lx a p else ¬lx p a/\¬lx b p))↔onS a b p:=by
 rw[fK];exact yF5
theorem oA{a b p:P2}(hs:¬lx b a)(hc:cr a b p=0):(¬lx p a/\¬lx b p)↔onS a b p:=by
 have:=zCC hs hc;unfold onS;rw[<-and_assoc,and_iff_left hc];exact this
theorem oV(a b c:P2):cr b a c= -cr a b c:=zM5 _ _ _ _ _ _
theorem zAZ(a b c:P2):orZ b a c= -orZ a b c:=by
 unfold orZ;rw[oV,rO,rO];grind
theorem nI(a c:P2):cr a a c=0:=by unfold cr;grind
theorem zKK(a c:P2):cr a c c=0:=by unfold cr;grind
theorem dR(a c:P2):cr a c a=0:=by unfold cr;grind
theorem zDK{a b c d:Rat}:kC b a c d↔kC a b c d:=by unfold kC;grind
theorem zBX{a b c d:Rat}:kC a b d c↔kC a b c d:=by unfold kC;grind
theorem zMK(a b:P2):lo2 a b=lo2 b a:=by
 unfold lo2
 by_cases h:lx b a
 · rw[if_pos h,if_neg (bA h)]
 · rw[if_neg h]
   rcases pE.1 h with h1|h1
   · rw[if_pos h1]
   · rw[h1,if_neg (oH _)]
theorem zMU(a b:P2):hi2 a b=hi2 b a:=by
 unfold hi2
 by_cases h:lx b a
 · rw[if_pos h,if_neg (bA h)]
 · rw[if_neg h]
   rcases pE.1 h with h1|h1
   · rw[if_pos h1]
   · rw[h1,if_neg (oH _)]
theorem zC9(a b c d:P2):fT b a c d=fT a b c d:=by
 have e:lI b a c d=lI a b c d:=by unfold lI;rw[zMK b a,zMU b a]
 unfold fT;rw[e,zDK,zDK (a:=a.2),zAZ a b c,zAZ a b d];have h1:-orZ a b c*-orZ a b d=orZ a b c*orZ a b d:=by grind
 have h2:orZ c d b*orZ c d a=orZ c d a*orZ c d b:=Int.mul_comm _ _;rw[h1,h2];have h3:(-orZ a b c=0/\-orZ a b d=0/\orZ c d b=0/\orZ c d a=0)↔(orZ a b c=0/\orZ a b d=0/\orZ c d a=0/\orZ c d b=0):=by grind
 have C:((-orZ a b c=0\/-orZ a b d=0)/\(orZ c d b=0\/orZ c d a=0))↔((orZ a b c=0\/orZ a b d=0)/\(orZ c d a=0\/orZ c d b=0)):=by grind
 simp only[h3,C]
theorem zC8(a b c d:P2):fT a b d c=fT a b c d:=by
 have e:lI a b d c=lI a b c d:=by unfold lI;rw[zMK d c,zMU d c]
 unfold fT;rw[e,zBX,zBX (a:=a.2),zAZ c d a,zAZ c d b];have h1:-orZ c d a*-orZ c d b=orZ c d a*orZ c d b:=by grind
 have h2:orZ a b d*orZ a b c=orZ a b c*orZ a b d:=Int.mul_comm _ _;rw[h1,h2];have h3:(orZ a b d=0/\orZ a b c=0/\-orZ c d a=0/\-orZ c d b=0)↔(orZ a b c=0/\orZ a b d=0/\orZ c d a=0/\orZ c d b=0):=by grind
 have C:((orZ a b d=0\/orZ a b c=0)/\(-orZ c d a=0\/-orZ c d b=0))↔((orZ a b c=0\/orZ a b d=0)/\(orZ c d a=0\/orZ c d b=0)):=by grind
 simp only[h3,C]
theorem zI2(a b c d:P2):fT a b c d=fT (lo2 a b) (hi2 a b) (lo2 c d) (hi2 c d):=by
 unfold lo2 hi2
 split
 · split
   · rw[zC9,zC8]
   · rw[zC9]
 · split
   · rw[zC8]
   · rfl
theorem zQY(a b:P2):¬lx (hi2 a b) (lo2 a b):=by
 unfold lo2 hi2
 split
 · rename_i h;exact bA h
 · rename_i h;exact h
theorem oJ{a b:P2}(h:¬lx b a):lo2 a b=a/\hi2 a b=b:=⟨if_neg h,if_neg h⟩
theorem zPF{a b c d:P2}(hab:¬lx b a)(hcd:¬lx d c)(h1:cr a b c=0)(h2:cr a b d=0)(h3:cr c d a=0)(h4:cr c d b=0)(hap:kC a.1 b.1 c.1 d.1\/kC a.2 b.2 c.2 d.2):lx b c\/lx d a:=by
 rcases hap with hap|hap
 · unfold kC at hap
   unfold lx;grind
 · -- the order along the line is that of the second coordinate, or its reverse
   rw[pE] at hab hcd;refine Classical.byContradiction λH=>?_;have G:¬lx b c:=λe=>H (.inl e);have D:¬lx d a:=λe=>H (.inr e);rw[pE] at G D
   -- c ≤ b and a ≤ d in the order of the line: the segments share a point
   have C:onS a b c\/onS c d a:=by
    by_cases e:lx c a
    · right
      refine(oA (pE.2 hcd) h3).1 ⟨?_,?_⟩
      · exact bA e
      · exact pE.2 D
    · left
      refine(oA (pE.2 hab) h1).1 ⟨e,pE.2 G⟩
   rcases C with⟨_,hb,_⟩|⟨_,hb,_⟩
   · exact bD hap hb (by unfold qY;grind)
   · exact bD hap (x:=a.2) (by unfold qY;grind) hb
theorem yBL{a b c d:P2}(hab:¬lx b a)(hcd:¬lx d c)(h1:cr a b c=0)(h2:cr a b d=0)(h3:cr c d a=0)(h4:cr c d b=0):zDH a b c d=oZ a b c d:=by
 unfold zDH oZ
 by_cases hh:lx (if lx d b then d else b) (if lx a c then c else a)
 · rw[if_pos hh,if_pos hh]
 · rw[if_neg hh,if_neg hh]
   by_cases he:(if lx a c then c else a)=(if lx d b then d else b)
   · rw[if_neg (λe=>e he),if_neg (show ¬lx (if lx a c then c else a) (if lx d b then d else b) by rw[he];exact oH _)]
     have C:onS a b (if lx a c then c else a)/\onS c d (if lx a c then c else a):=by
      have O:¬lx (if lx a c then c else a) a:=by
       split
       · rename_i h;exact bA h
       · exact oH _
      have M:¬lx (if lx a c then c else a) c:=by
       split
       · exact oH _
       · rename_i h;exact h
      have J:¬lx b (if lx a c then c else a):=by
       rw[he]
       split
       · rename_i h;exact bA h
       · exact oH _
      have H:¬lx d (if lx a c then c else a):=by
       rw[he]
       split
       · exact oH _
       · rename_i h;exact h
      have G:cr a b (if lx a c then c else a)=0:=by
       split
       · exact h1
       · exact dR a b
      have D:cr c d (if lx a c then c else a)=0:=by
       split
       · exact dR c d
       · exact h3
      exact⟨(oA hab G).1 ⟨O,J⟩,(oA hcd D).1 ⟨M,H⟩⟩
     by_cases hx:((if lx a c then c else a)=a\/(if lx a c then c else a)=b)/\((if lx a c then c else a)=c\/(if lx a c then c else a)=d)
     · rw[if_pos ⟨hx.1,hx.2,C⟩,if_pos hx]
     · rw[if_neg (λe=>hx ⟨e.1,e.2.1⟩),if_pos C,if_neg hx]
   · rw[if_pos he,if_pos ((pE.1 hh).resolve_right he)]
theorem zK4{x y:Rat}:0<yR x*yR y↔0<x*y:=by
 have h1:=rO x;have h2:=rO y
 rcases zCK x 0 with hx|hx|hx<;>rcases zCK y 0 with hy|hy|hy
 · have:=Rat.mul_pos (a:=-x) (b:=-y) zoi zoi
   have D:yR x= -1:=by grind
   have C:yR y= -1:=by grind
   rw[D,C];grind
 · subst hy;have e:x*0=0:=by grind
   have C:yR 0=0:=by grind
   rw[e,C];simp
 · have:=Rat.mul_pos (a:=-x) (b:=y) zoi hy
   have D:yR x= -1:=by grind
   have C:yR y=1:=by grind
   rw[D,C];grind
 · subst hx;have e:0*y=0:=by grind
   have C:yR 0=0:=by grind
   rw[e,C];simp
 · subst hx;have e:0*y=0:=by grind
   have C:yR 0=0:=by grind
   rw[e,C];simp
 · subst hx;have e:0*y=0:=by grind
   have C:yR 0=0:=by grind
   rw[e,C];simp
 · have:=Rat.mul_pos (a:=x) (b:=-y) hx zoi
   have D:yR x=1:=by grind
   have C:yR y= -1:=by grind
   rw[D,C];grind
 · subst hy;have e:x*0=0:=by grind
   have C:yR 0=0:=by grind
   rw[e,C];simp
 · have:=Rat.mul_pos hx hy
   have D:yR x=1:=by grind
   have C:yR y=1:=by grind
   rw[D,C];grind
theorem mY{a b c d e f:P2}:0<orZ a b c*orZ d e f↔0<cr a b c*cr d e f:=zK4
theorem zRC{a b c d:P2}(hn:¬(cr a b c=0/\cr a b d=0/\cr c d a=0/\cr c d b=0)):((cr a b c=0\/cr a b d=0)/\(cr c d a=0\/cr c d b=0))↔(a=c\/a=d\/b=c\/b=d):=by
 have D:∀u v w:P2,cr u v w= -cr v u w:=λu v w=>oV v u w;constructor
 · rintro⟨h1,h2⟩
   -- one end of each
   have C:∀{p q r s:P2},cr p q r=0->cr r s p=0->p=r\/(cr p q s=0/\cr r s q=0):=by
    intro p q r s H G
    rcases zTS H G with h|h
    · exact .inl (Prod.ext h.1 h.2)
    · exact .inr h
   rcases h1 with h1|h1<;>rcases h2 with h2|h2
   · rcases C h1 h2 with h|h
     · exact .inl h
     · exact absurd ⟨h1,h.1,h2,h.2⟩ hn
   · rcases C (p:=b) (q:=a) (r:=c) (s:=d) (by rw[oV,h1];grind) h2 with h|h
     · exact .inr (.inr (.inl h))
     · exact absurd ⟨h1,by rw[D,h.1];grind,h.2,h2⟩ hn
   · rcases C (p:=a) (q:=b) (r:=d) (s:=c) h1 (by rw[oV,h2];grind) with h|h
     · exact .inr (.inl h)
     · exact absurd ⟨h.1,h1,h2,by rw[D,h.2];grind⟩ hn
   · rcases C (p:=b) (q:=a) (r:=d) (s:=c) (by rw[oV,h1];grind) (by rw[oV,h2];grind) with h|h
     · exact .inr (.inr (.inr h))
     · exact absurd ⟨by rw[D,h.1];grind,h1,by rw[D,h.2];grind,h2⟩ hn
 · rintro(h|h|h|h)
   · subst h;exact⟨.inl (dR a b),.inl (dR a d)⟩
   · subst h;exact⟨.inr (dR a b),.inl (zKK c a)⟩
   · subst h;exact⟨.inl (zKK a b),.inr (dR b d)⟩
   · subst h;exact⟨.inr (zKK a b),.inr (zKK c b)⟩
theorem zZ1{a b c d:P2}(hab:¬lx b a)(hcd:¬lx d c):fT a b c d=zI3 a b c d:=by
 unfold fT zI3;simp only[fK]
 by_cases hz:cr a b c=0/\cr a b d=0/\cr c d a=0/\cr c d b=0
 · obtain⟨h1,h2,h3,U⟩:=hz
   rw[if_pos (show cr a b c=0/\cr a b d=0/\cr c d a=0/\cr c d b=0 from⟨h1,h2,h3,U⟩),if_pos (show cr a b c=0/\cr a b d=0/\cr c d a=0/\cr c d b=0 from⟨h1,h2,h3,U⟩),yBL hab hcd h1 h2 h3 U];unfold lI;rw[(oJ hab).1,(oJ hab).2,(oJ hcd).1,(oJ hcd).2]
   by_cases C:kC a.1 b.1 c.1 d.1\/kC a.2 b.2 c.2 d.2
   · rw[if_pos C]
     have D:=zPF hab hcd h1 h2 h3 U C;unfold oZ;rw[if_pos]
     rcases D with D|D
     · have e1:lx a c:=by
        rcases pE.1 hab with e|e
        · exact zBB e D
        · rw[e];exact D
       have e2:¬lx d b:=by
        refine bA ?_
        rcases pE.1 hcd with e|e
        · exact zBB D e
        · rw[<-e];exact D
       rw[if_neg e2,if_pos e1];exact D
     · have e1:¬lx a c:=by
        refine bA ?_
        rcases pE.1 hcd with e|e
        · exact zBB e D
        · rw[e];exact D
       have e2:lx d b:=by
        rcases pE.1 hab with e|e
        · exact zBB D e
        · rw[<-e];exact D
       rw[if_pos e2,if_neg e1];exact D
   · rw[if_neg C]
 · rw[if_neg hz,if_neg hz]
   by_cases hd:a=b\/c=d
   · rw[if_pos hd]
     have e0:iW a b c d=0:=by
      unfold iW;rw[if_neg]
      rintro(⟨e,h⟩|⟨e,h⟩)
      · subst e
        exact hz ⟨nI _ _,nI _ _,h.2.2,h.2.2⟩
      · subst e
        exact hz ⟨h.2.2,h.2.2,nI _ _,nI _ _⟩
     rw[e0]
     by_cases C:kC a.1 b.1 c.1 d.1\/kC a.2 b.2 c.2 d.2
     · rw[if_pos C]
     · rw[if_neg C,if_pos]
       rw[mY,mY];have G:∀x:Rat,x≠0->0<x*x:=by
        intro x hx
        rcases zCK x 0 with h|h|h
        · have:=Rat.mul_pos (a:=-x) (b:=-x) zoi zoi;grind
        · exact absurd h hx
        · exact Rat.mul_pos h h
       rcases hd with e|e
       · subst e
         right
         refine G _ λh=>?_;exact hz ⟨nI _ _,nI _ _,h,h⟩
       · subst e
         left
         refine G _ λh=>?_;exact hz ⟨h,h,nI _ _,nI _ _⟩
   · rw[if_neg hd]
     by_cases hs:0<orZ a b c*orZ a b d\/0<orZ c d a*orZ c d b
     · rw[if_pos hs,if_pos hs]
       split<;>rfl
     · rw[if_neg hs,if_neg hs]
       rw[mY,mY] at hs;have H:cr a b c*cr a b d<=0:=Rat.not_lt.1 λe=>hs (.inl e);have aa:cr c d a*cr c d b<=0:=Rat.not_lt.1 λe=>hs (.inr e);have M:¬(kC a.1 b.1 c.1 d.1\/kC a.2 b.2 c.2 d.2):=by
        intro C;have Z:∀{p q r s:P2},p≠q->cr p q r=0->cr p q s=0->cr r s p=0/\cr r s q=0:=by
         intro p q r s ab k1 k2;have hu:q.1-p.1≠0\/q.2-p.2≠0:=by
          refine Classical.byContradiction λe=>ab (Prod.ext ?_ ?_)<;>grind
         have k3:(r.1-p.1)*(q.2-p.2)=(r.2-p.2)*(q.1-p.1):=by unfold cr at k1;grind
         have k4:(s.1-p.1)*(q.2-p.2)=(s.2-p.2)*(q.1-p.1):=by unfold cr at k2;grind
         have k5:=zIQ hu k3 k4;unfold cr;constructor<;>grind
        have zTN:cr a b c-cr a b d= -(cr c d a-cr c d b):=by unfold cr;grind
        have J:cr a b c≠cr a b d:=by
         intro e;rw[e] at H;have h5:=zB2 (cr a b d);have h6:cr a b d*cr a b d=0:=by grind
         have O:cr a b d=0:=by rcases sE h6 with h|h<;>exact h
         obtain⟨h8,h9⟩:=Z (λe=>hd (.inl e)) (by rw[e];exact O) O;exact hz ⟨by rw[e];exact O,O,h8,h9⟩
        obtain⟨x,y,k1,k2,k3,k4⟩:=zM3 (ax:=a.1) (ay:=a.2) (bx:=b.1) (by':=b.2) (cx:=c.1) (cy:=c.2) (dx:=d.1) (dy:=d.2) J H aa (by intro e;apply J;rw[yDF c d a,yDF c d b,e] at zTN;grind)
        rcases C with h|h
        · exact bD h k1 k3
        · exact bD h k2 k4
       rw[if_neg M]
       by_cases he:(cr a b c=0\/cr a b d=0)/\(cr c d a=0\/cr c d b=0)
       · rw[if_pos he,if_pos ((zRC hz).1 he)]
       · rw[if_neg he,if_neg (λe=>he ((zRC hz).2 e))]
theorem zKW(a b c d:P2):fT a b c d=mR a b c d:=by
 rw[zI2];unfold mR;exact zZ1 (zQY a b) (zQY c d)
theorem zEM(a b c d:P2):fT c d a b=fT a b c d:=by
 have D:∀(a b c d:P2),¬lx b a->¬lx d c->oZ c d a b=oZ a b c d:=by
  intro a b c d _ _;unfold oZ;have M:(if lx c a then a else c)=(if lx a c then c else a):=by
   by_cases h:lx a c
   · rw[if_pos h,if_neg (bA h)]
   · rw[if_neg h]
     rcases pE.1 h with h1|h1
     · rw[if_pos h1]
     · rw[h1,if_neg (oH _)]
  have J:(if lx b d then b else d)=(if lx d b then d else b):=by
   by_cases h:lx d b
   · rw[if_pos h,if_neg (bA h)]
   · rw[if_neg h]
     rcases pE.1 h with h1|h1
     · rw[if_pos h1]
     · rw[h1,if_neg (oH _)]
  rw[M,J];simp only[and_comm]
 have C:∀{a b c d:Rat},kC c d a b↔kC a b c d:=by intro a b c d;unfold kC;grind
 unfold fT;have e:lI c d a b=lI a b c d:=D _ _ _ _ (zQY a b) (zQY c d);rw[e,C (a:=a.1) (b:=b.1) (c:=c.1) (d:=d.1),C (a:=a.2) (b:=b.2) (c:=c.2) (d:=d.2)];have h3:(orZ c d a=0/\orZ c d b=0/\orZ a b c=0/\orZ a b d=0)↔(orZ a b c=0/\orZ a b d=0/\orZ c d a=0/\orZ c d b=0):=by grind
 have H:(0<orZ c d a*orZ c d b\/0<orZ a b c*orZ a b d)↔(0<orZ a b c*orZ a b d\/0<orZ c d a*orZ c d b):=or_comm;have G:((orZ c d a=0\/orZ c d b=0)/\(orZ a b c=0\/orZ a b d=0))↔((orZ a b c=0\/orZ a b d=0)/\(orZ c d a=0\/orZ c d b=0)):=and_comm;simp only[h3,H,G]
def smZ(q:Rat):Int:=if q.den≠1\/1<(zB q.num.natAbs).length then 0 else q.num
def smB(q:Rat):Prop:=q.den=1/\q.num.natAbs<268435456
theorem zPH{n:Nat}(h:n<4294967296):(zB n).length<=1:=qJ (by rw[Nat.pow_one];exact h)
theorem zP7{q:Rat}(h:smB q):(zB q.num.natAbs).length<=1:=zPH (by have:=h.2;omega)
theorem sS{q:Rat}(h:smB q):q=((smZ q:Int):Rat)/\-268435456<smZ q/\smZ q<268435456:=by
 have h1:=zP7 h;have e:smZ q=q.num:=by unfold smZ;rw[if_neg];rintro(e|e);exact e h.1;omega
 have h2:=h.2;refine⟨?_,by rw[e];omega,by rw[e];omega⟩;rw[e];have h3:=Rat.divInt_eq_div q.num q.den;rw[Rat.num_divInt_den,h.1] at h3;rw[h3];have D:((1:Nat):Int)=1:=I;have:((q.num:Rat)/((((1:Nat):Int)):Rat))=(q.num:Rat):=by rw[D];have C:((1:Int):Rat)=1:=I;rw[C];grind
 rw[this];rw[h3] at *;simp
theorem yIZ{q:Rat}(h:(0:Int)<↑(zB (wQ q.den)).length\/(1:Int)<↑(zB q.num.natAbs).length):smZ q=0/\¬smB q:=by
 have h1:q.den≠1\/1<(zB q.num.natAbs).length:=by
  rcases h with h|h
  · left;intro e;rw[e,bV,xL] at h;simp at h
  · right;omega
 refine⟨if_pos h1,λC=>?_⟩
 rcases h1 with e|e
 · exact e C.1
 · have:=zP7 C;omega
theorem zNT{q:Rat}(h:¬((0:Int)<↑(zB (wQ q.den)).length\/(1:Int)<↑(zB q.num.natAbs).length)):q.den=1/\(zB q.num.natAbs).length<=1:=by
 refine⟨(oS q.den_nz).1 ?_,by omega⟩;have:(zB (wQ q.den)).length=0:=by omega
 exact List.eq_nil_of_length_eq_zero this
theorem zUU{q:Rat}(h:¬((0:Int)<↑(zB (wQ q.den)).length\/(1:Int)<↑(zB q.num.natAbs).length)):smZ q=q.num:=by
 obtain⟨h1,h2⟩:=zNT h;unfold smZ;rw[if_neg]
 rintro(e|e)
 · exact e h1
 · omega
theorem yIY{q:Rat}(h:¬((0:Int)<↑(zB (wQ q.den)).length\/(1:Int)<↑(zB q.num.natAbs).length))(h0:(↑(zB q.num.natAbs).length:Int)=0):smZ q=0/\smB q:=by
 obtain⟨h1,h2⟩:=zNT h;have C:q.num.natAbs=0:=by
  refine Classical.byContradiction λe=>?_;have:=yQ.2 e;omega
 refine⟨by rw[zUU h];omega,h1,by omega⟩
theorem zZ8{q:Rat}(h:¬((0:Int)<↑(zB (wQ q.den)).length\/(1:Int)<↑(zB q.num.natAbs).length))(h0:¬(↑(zB q.num.natAbs).length:Int)=0):(zB q.num.natAbs).getD 0 0=q.num.natAbs/\q.num.natAbs<4294967296/\(smB q↔q.num.natAbs<268435456):=by
 obtain⟨h1,h2⟩:=zNT h;have h3:=zAD (xs:=zB q.num.natAbs) zoa;rw[zE] at h3;have C:=uU q.num.natAbs;have D:(zB q.num.natAbs).length=1:=by omega
 rw[D,Nat.pow_one] at C;exact⟨h3.symm,C,λe=>e.2,λe=>⟨h1,e⟩⟩
theorem zHP{x y:Int}{p q:Prop}(h1:x=y)(h2:p↔q):Value.tuple #[vI x,vB p]=.tuple #[vI y,vB q]:=by subst h1;rw[kA h2]
theorem zVT{u v:Int}(h1:-536870912<u)(h2:u<536870912)(h3:-536870912<v)(h4:v<536870912):-288230376151711744<=u*v/\u*v<=288230376151711744:=by
 have C:∀{a b:Int},0<=a->a<536870912->0<=b->b<536870912->0<=a*b/\a*b<=288230376151711744:=by
  intro a b J H D G;have O:=Int.mul_nonneg J D;have M:a*b<=536870912*536870912:=Int.mul_le_mul zoa zoa D zoa;omega
 rcases Int.le_total 0 u with hu|hu<;>rcases Int.le_total 0 v with hv|hv
 · have:=C hu h2 hv h4;omega
 · have:=C hu h2 (b:=-v) zoa zoa
   rw[Int.mul_neg] at this;omega
 · have:=C (a:=-u) zoa zoa hv h4
   rw[Int.neg_mul] at this;omega
 · have:=C (a:=-u) (b:=-v) zoa zoa zoa zoa
   rw[Int.neg_mul_neg] at this;omega
def zG3(n:Int):Int:=if 0<n then 1 else if n<0 then -1 else 0
theorem nS(n:Int):yR (n:Rat)=zG3 n:=by
 rw[rO];unfold zG3;have h0:((n:Rat)=0)↔n=0:=by
  have e:(0:Rat)=((0:Int):Rat):=I;rw[e,Rat.intCast_inj]
 have h1:((n:Rat)<0)↔n<0:=by
  have e:(0:Rat)=((0:Int):Rat):=I;rw[e,Rat.intCast_lt_intCast]
 simp only[h0,h1]
 split
 · rename_i h;subst h;simp
 · split
   · rw[if_neg zoa]
   · rw[if_pos zoa]
theorem zWB{a b c:P2}(h1:smB a.1/\smB a.2)(h2:smB b.1/\smB b.2)(h3:smB c.1/\smB c.2):
 zG3 ((smZ b.1-smZ a.1)*(smZ c.2-smZ a.2)-(smZ b.2-smZ a.2)*(smZ c.1-smZ a.1))=orZ a b c:=by
 rw[<-nS];unfold orZ cr
 congr 1
 rw[Rat.intCast_sub,Rat.intCast_mul,Rat.intCast_mul,Rat.intCast_sub,Rat.intCast_sub,Rat.intCast_sub,Rat.intCast_sub];rw[<-(sS h1.1).1,<-(sS h1.2).1,<-(sS h2.1).1,<-(sS h2.2).1,<-(sS h3.1).1,<-(sS h3.2).1]
theorem yF3(a b c:P2):xT ((b.1-a.1)*(c.2-a.2)) ((b.2-a.2)*(c.1-a.1))=orZ a b c:=by rw[zGR];rfl
theorem tJ(a b c:P2):-1<=orZ a b c/\orZ a b c<=1:=yV _
theorem zVV{a b:Pt}{i j:Nat}:pr a i j=pr b i j↔a.at i=b.at i/\a.at j=b.at j:=by unfold pr;rw[Prod.ext_iff]
theorem zY2{a b x:Rat}:((xT a x<=0/\xT x b<=0)\/(0<=xT a x/\0<=xT x b))↔qY a b x:=by
 have h1:=jT (a:=a) (b:=x);have h2:=jT (a:=x) (b:=b);have h3:=zIT a x;have G:=zIT x b;have D:=jT (a:=x) (b:=a);have C:=jT (a:=b) (b:=x);unfold qY;rw[<-h1,<-h2,<-D,<-C];omega
theorem zMN{a b:Pt}{i j:Nat}:(xT (a.at i) (b.at i)<0\/(xT (a.at i) (b.at i)=0/\xT (a.at j) (b.at j)<0))↔lx (pr a i j) (pr b i j):=by
 rw[mI,aS,mI];rfl
noncomputable def loT(a b:Pt)(i j:Nat):Pt:=if lx (pr b i j) (pr a i j) then b else a
noncomputable def hiT(a b:Pt)(i j:Nat):Pt:=if lx (pr b i j) (pr a i j) then a else b
noncomputable def mxT(a c:Pt)(i j:Nat):Pt:=if lx (pr a i j) (pr c i j) then c else a
noncomputable def mnT(b d:Pt)(i j:Nat):Pt:=if lx (pr d i j) (pr b i j) then d else b
def gp(l:List Pt)(m:Nat):Pt:=l.getD m (T3.mk (0:Rat) 0 0)
def uQ(l:List Pt)(i j:Nat):Nat->Rat
  |0=>0
  |m+1=>uQ l i j m+((gp l m).at i*(gp l ((m+1)%l.length)).at j-(gp l ((m+1)%l.length)).at i*(gp l m).at j)
theorem zZ0(a b c:Pt):yR (uQ [a,b,c] 0 1 3)=orZ (pr a 0 1) (pr b 0 1) (pr c 0 1):=by
 have:uQ [a,b,c] 0 1 3=cr (pr a 0 1) (pr b 0 1) (pr c 0 1):=by
  simp[uQ,gp,pr,cr,T3.at];grind
 unfold orZ;rw[this]
def jJ(a b p:P2):Prop:=¬(a.2<=p.2↔b.2<=p.2)/\((a.2<=p.2/\0<orZ a b p)\/(b.2<=p.2/\orZ a b p<0))
def vV(l:List Pt)(i j m:Nat):P2:=pr (gp l m) i j
def vT(l:List Pt)(i j m:Nat):P2:=pr (gp l ((m+1)%l.length)) i j
def jV(l:List Pt)(p:P2)(i j:Nat):Nat->Prop
  |0=>False
  |m+1=>(jJ (vV l i j m) (vT l i j m) p/\¬jV l p i j m)\/(¬jJ (vV l i j m) (vT l i j m) p/\jV l p i j m)
noncomputable def gW(l:List Pt)(p:P2)(i j:Nat):Int:=
 if ∃m,m<l.length/\onS (vV l i j m) (vT l i j m) p then 0 else if jV l p i j l.length then 1 else -1
theorem zXO{l:List Pt}{p:P2}{i j m:Nat}(hm:m<l.length)(h:onS (vV l i j m) (vT l i j m) p):0=gW l p i j:=(if_pos ⟨m,hm,h⟩).symm
theorem zXP{l:List Pt}{p:P2}{i j n:Nat}(hn:¬n<l.length)(hn2:n<=l.length)(h:∀q,q<n->¬onS (vV l i j q) (vT l i j q) p)(ho:jV l p i j n):1=gW l p i j:=by
 have e:n=l.length:=by omega
 subst e;unfold gW;rw[if_neg (λ⟨m,D,C⟩=>h m D C),if_pos ho]
theorem zQZ{l:List Pt}{p:P2}{i j n:Nat}(hn:¬n<l.length)(hn2:n<=l.length)(h:∀q,q<n->¬onS (vV l i j q) (vT l i j q) p)(ho:¬jV l p i j n):-1=gW l p i j:=by
 have e:n=l.length:=by omega
 subst e;unfold gW;rw[if_neg (λ⟨m,D,C⟩=>h m D C),if_neg ho]
theorem zA0{l:List Pt}{p:P2}{i j n:Nat}(h:∀q,q<n->¬onS (vV l i j q) (vT l i j q) p)(h1:¬onS (vV l i j n) (vT l i j n) p):∀q,q<n+1->¬onS (vV l i j q) (vT l i j q) p:=λq hq=>by
 rcases Nat.lt_succ_iff_lt_or_eq.1 hq with h2|h2
 · exact h q h2
 · subst h2;exact h1
theorem zWJ{l:List Pt}{p:P2}{i j n:Nat}(h:(vV l i j n).2<=p.2↔(vT l i j n).2<=p.2):jV l p i j n=jV l p i j (n+1):=by
 have:¬jJ (vV l i j n) (vT l i j n) p:=λC=>C.1 h
 show _=(_\/_)
 simp[this]
theorem zWK{l:List Pt}{p:P2}{i j n:Nat}(h:¬((vV l i j n).2<=p.2↔(vT l i j n).2<=p.2))(h1:((vV l i j n).2<=p.2/\0<orZ (vV l i j n) (vT l i j n) p)\/((vT l i j n).2<=p.2/\orZ (vV l i j n) (vT l i j n) p<0)):(¬jV l p i j n)=jV l p i j (n+1):=by
 have:jJ (vV l i j n) (vT l i j n) p:=⟨h,h1⟩
 show _=(_\/_)
 simp[this]
theorem zWI{l:List Pt}{p:P2}{i j n:Nat}(h1:¬(((vV l i j n).2<=p.2/\0<orZ (vV l i j n) (vT l i j n) p)\/((vT l i j n).2<=p.2/\orZ (vV l i j n) (vT l i j n) p<0))):jV l p i j n=jV l p i j (n+1):=by
 have:¬jJ (vV l i j n) (vT l i j n) p:=λC=>h1 C.2
 show _=(_\/_)
 simp[this]
theorem yGP{a b:Pt}(h:¬xT a.x b.x=0):xT a.x b.x<0↔lx (pr a 0 1) (pr b 0 1):=by
 have h2:=zMN (a:=a) (b:=b) (i:=0) (j:=1);rw[<-h2];exact⟨.inl,λe=>e.elim id λe=>absurd e.1 h⟩
theorem yGO{a b:Pt}(h:¬¬xT a.x b.x=0):xT a.y b.y<0↔lx (pr a 0 1) (pr b 0 1):=by
 have h1:=Classical.not_not.1 h;have h2:=zMN (a:=a) (b:=b) (i:=0) (j:=1);rw[<-h2];exact⟨λe=>.inr ⟨h1,e⟩,λe=>e.elim (λe=>absurd h1 (by have:xT a.x b.x<0:=e;omega)) λe=>e.2⟩
theorem zN6(a b:Pt)(i j:Nat):pr (loT a b i j) i j=lo2 (pr a i j) (pr b i j):=zJG _ _ _ _
theorem zN7(a b:Pt)(i j:Nat):pr (hiT a b i j) i j=hi2 (pr a i j) (pr b i j):=zJG _ _ _ _
theorem yF6{a b p:Pt}{i j:Nat}:(orZ (pr (loT a b i j) i j) (pr (hiT a b i j) i j) (pr p i j)=0/\¬lx (pr p i j) (pr (loT a b i j) i j)/\¬lx (pr (hiT a b i j) i j) (pr p i j))↔onS (pr a i j) (pr b i j) (pr p i j):=by
 rw[zN6,zN7,<-yA2,fK,fK];unfold lo2 hi2
 split
 · rw[oV]
   grind
 · exact Iff.rfl
noncomputable def zF6(a b c d lo hi:Pt):Int:=
 if lx (pr hi 0 1) (pr lo 0 1) then 0 else if ¬pr lo 0 1=pr hi 0 1 then 3
 else if(((pr lo 0 1=pr a 0 1\/pr lo 0 1=pr b 0 1)/\(pr lo 0 1=pr c 0 1\/pr lo 0 1=pr d 0 1))/\onS (pr a 0 1) (pr b 0 1) (pr lo 0 1))/\onS (pr c 0 1) (pr d 0 1) (pr lo 0 1) then 1
 else if onS (pr a 0 1) (pr b 0 1) (pr lo 0 1)/\onS (pr c 0 1) (pr d 0 1) (pr lo 0 1) then 2 else 0
theorem zF5{a b c d lo hi:Pt}(h1:lo=mxT a c 0 1)(h2:hi=mnT b d 0 1):zF6 a b c d lo hi=zDH (pr a 0 1) (pr b 0 1) (pr c 0 1) (pr d 0 1):=by
 have D:pr lo 0 1=if lx (pr a 0 1) (pr c 0 1) then pr c 0 1 else pr a 0 1:=by rw[h1];exact zJG _ _ _ _
 have C:pr hi 0 1=if lx (pr d 0 1) (pr b 0 1) then pr d 0 1 else pr b 0 1:=by rw[h2];exact zJG _ _ _ _
 unfold zF6 zDH;rw[D,C];simp only[and_assoc,ne_eq]
noncomputable def u4(a b c d:Pt):Int:=
 if((orZ (pr a 0 1) (pr b 0 1) (pr c 0 1)=0/\orZ (pr a 0 1) (pr b 0 1) (pr d 0 1)=0)/\orZ (pr c 0 1) (pr d 0 1) (pr a 0 1)=0)/\orZ (pr c 0 1) (pr d 0 1) (pr b 0 1)=0 then zDH (pr a 0 1) (pr b 0 1) (pr c 0 1) (pr d 0 1)
 else if pr a 0 1=pr b 0 1\/pr c 0 1=pr d 0 1 then iW (pr a 0 1) (pr b 0 1) (pr c 0 1) (pr d 0 1)
 else if 0<orZ (pr a 0 1) (pr b 0 1) (pr c 0 1)*orZ (pr a 0 1) (pr b 0 1) (pr d 0 1)\/0<orZ (pr c 0 1) (pr d 0 1) (pr a 0 1)*orZ (pr c 0 1) (pr d 0 1) (pr b 0 1) then 0
 else if((pr a 0 1=pr c 0 1\/pr a 0 1=pr d 0 1)\/pr b 0 1=pr c 0 1)\/pr b 0 1=pr d 0 1 then 1 else 2
theorem zAG{a b c d A B C D:Pt}(h1:A=loT (T3.mk a.x a.y 0) (T3.mk b.x b.y 0) 0 1)(h2:B=hiT (T3.mk a.x a.y 0) (T3.mk b.x b.y 0) 0 1)(h3:C=loT (T3.mk c.x c.y 0) (T3.mk d.x d.y 0) 0 1)(h4:D=hiT (T3.mk c.x c.y 0) (T3.mk d.x d.y 0) 0 1):
 u4 A B C D=mR (pr a 0 1) (pr b 0 1) (pr c 0 1) (pr d 0 1):=by
 have M:pr A 0 1=lo2 (pr a 0 1) (pr b 0 1):=by rw[h1];exact zN6 _ _ _ _
 have J:pr B 0 1=hi2 (pr a 0 1) (pr b 0 1):=by rw[h2];exact zN7 _ _ _ _
 have H:pr C 0 1=lo2 (pr c 0 1) (pr d 0 1):=by rw[h3];exact zN6 _ _ _ _
 have G:pr D 0 1=hi2 (pr c 0 1) (pr d 0 1):=by rw[h4];exact zN7 _ _ _ _
 unfold u4 mR zI3;rw[M,J,H,G];simp only[and_assoc,or_assoc]
end Bk
namespace Bk
open Classical
noncomputable def zBZ(a b:Pt):Pt:=if 0<xT a.y b.y then b else a
noncomputable def zDM(a b:Pt):Pt:=if 0<xT a.y b.y then a else b
theorem zGO(a b p:Pt):((xT (zBZ a b).y p.y<=0/\xT p.y (zDM a b).y<0)/\0<orZ (pr (zBZ a b) 0 1) (pr (zDM a b) 0 1) (pr p 0 1))↔jJ (pr a 0 1) (pr b 0 1) (pr p 0 1):=by
 unfold zBZ zDM jJ;rw[jT,mI];have H:(pr a 0 1).2=a.y:=I;have G:(pr b 0 1).2=b.y:=I;have D:(pr p 0 1).2=p.y:=I;rw[H,G,D]
 by_cases h:0<xT a.y b.y
 · have h1:=zGS.1 h
   rw[if_pos h,if_pos h,zAZ (pr a 0 1) (pr b 0 1)];constructor
   · rintro⟨⟨h2,h3⟩,C⟩
     exact⟨λe=>by grind,.inr ⟨h2,by omega⟩⟩
   · rintro⟨h2,h3|h3⟩
     · exact absurd ⟨λ_=>by grind,λ_=>h3.1⟩ h2
     · exact⟨⟨h3.1,by grind⟩,by omega⟩
 · have h1:¬b.y<a.y:=λe=>h (zGS.2 e)
   rw[if_neg h,if_neg h];constructor
   · rintro⟨⟨h2,h3⟩,C⟩
     exact⟨λe=>by grind,.inl ⟨h2,C⟩⟩
   · rintro⟨h2,h3|h3⟩
     · exact⟨⟨h3.1,by grind⟩,h3.2⟩
     · exact absurd ⟨λ_=>h3.1,λ_=>by grind⟩ h2
theorem yGA{l:List Pt}{p:P2}{i j n:Nat}(h:jJ (vV l i j n) (vT l i j n) p):(¬jV l p i j n)=jV l p i j (n+1):=by
 show _=(_\/_)
 simp[h]
theorem yA6{l:List Pt}{p:P2}{i j n:Nat}(h:¬jJ (vV l i j n) (vT l i j n) p):jV l p i j n=jV l p i j (n+1):=by
 show _=(_\/_)
 simp[h]
noncomputable def w9(L:List (List Pt))(p:P2)(i j:Nat):Nat->Int
  |0=>-1
  |m+1=>if gW (L.getD m []) p i j=1 then -(w9 L p i j m) else w9 L p i j m
noncomputable def whZ(L:List (List Pt))(p:P2)(i j:Nat):Int:=if ∃m,m<L.length/\gW (L.getD m []) p i j=0 then 0 else w9 L p i j L.length
theorem zAC(L:List (List Pt))(p:P2)(i j:Nat):∀m,-1<=w9 L p i j m/\w9 L p i j m<=1
  |0=>by unfold w9;omega
  |m+1=>by
   have h:=zAC L p i j m;unfold w9
   split<;>omega
theorem zT8{L:List (List Pt)}{p:P2}{i j m:Nat}(h1:¬m<L.length)(h2:m<=L.length)(h:∀q,q<m->¬gW (L.getD q []) p i j=0):w9 L p i j m=whZ L p i j:=by
 have e:m=L.length:=by omega
 subst e;exact(if_neg λ⟨q,C,hz⟩=>h q C hz).symm
theorem zDU{L:List (List Pt)}{p:P2}{i j m:Nat}(h:∀q,q<m->¬gW (L.getD q []) p i j=0)(h1:¬gW (L.getD m []) p i j=0):∀q,q<m+1->¬gW (L.getD q []) p i j=0:=λq hq=>by
 rcases Nat.lt_succ_iff_lt_or_eq.1 hq with h2|h2
 · exact h q h2
 · subst h2;exact h1
theorem zMW{L:List (List Pt)}{n:Nat}(h:∀x,x∈L->x.length<=n)(m:Nat):(L.getD m []).length<=n:=by
 rw[List.getD_eq_getElem?_getD]
 rcases Nat.lt_or_ge m L.length with h1|h1
 · rw[List.getElem?_eq_getElem h1]
   exact h _ (List.getElem_mem h1)
 · rw[List.getElem?_eq_none h1]
   exact Nat.zero_le _
def zQI(R:Nat->Nat->Prop)(n a:Nat):Prop:=∀p q,p<a->p<q->q<n->R p q
def rowTo(R:Nat->Nat->Prop)(a b:Nat):Prop:=∀q,a<q->q<b->R a q
def yJ7(l:List Pt)(i j p q:Nat):Prop:=¬pr (gp l p) i j=pr (gp l q) i j
noncomputable def zHM(n p q:Nat):Int:=if q=p+1\/(p=0/\q+1=n) then 1 else 0
def okT(l:List Pt)(i j p q:Nat):Prop:=fT (vV l i j p) (vT l i j p) (vV l i j q) (vT l i j q)=zHM l.length p q
def aE(l:List Pt)(i j:Nat):Prop:=3<=l.length/\zQI (yJ7 l i j) l.length l.length/\zQI (okT l i j) l.length l.length
theorem yD1{n p q:Nat}(h:q=p+1\/(p=0/\q+1=n)):(1:Int)=zHM n p q:=(if_pos h).symm
theorem yD2{n p q:Nat}(h:¬(q=p+1\/(p=0/\q+1=n))):(0:Int)=zHM n p q:=(if_neg h).symm
def w5(a b:List Pt)(i j p q:Nat):Prop:=1<fT (vV a i j p) (vT a i j p) (vV b i j q) (vT b i j q)
def gK(a b:List Pt)(i j:Nat):Prop:=∃p q,p<a.length/\q<b.length/\w5 a b i j p q
theorem zVI{Q:Nat->Nat->Prop}{p q n:Nat}(h:∀v,v<q->¬Q p v)(h1:¬Q p q):∀v,v<q+1->¬Q p v:=λv hv=>by
 rcases Nat.lt_succ_iff_lt_or_eq.1 hv with h2|h2
 · exact h v h2
 · subst h2;exact h1
theorem xR{Q:Nat->Prop}{q:Nat}(h:∀v,v<q->Q v)(h1:Q q):∀v,v<q+1->Q v:=λv hv=>by
 rcases Nat.lt_succ_iff_lt_or_eq.1 hv with h2|h2
 · exact h v h2
 · subst h2;exact h1
theorem zSJ{Q:Nat->Nat->Prop}{p q n:Nat}(h:∀u v,u<p->v<n->¬Q u v)(h1:∀v,v<q->¬Q p v)(hq:n<=q):∀u v,u<p+1->v<n->¬Q u v:=λu v hu hv=>by
 rcases Nat.lt_succ_iff_lt_or_eq.1 hu with h2|h2
 · exact h u v h2 hv
 · subst h2;exact h1 v zoa
theorem zUF{Q:Nat->Nat->Prop}{p q:Nat}(h:∀u v,v<p->u<v->¬Q u v)(h1:∀u,u<q->¬Q u p)(hq:p<=q):∀u v,v<p+1->u<v->¬Q u v:=λu v hv hu=>by
 rcases Nat.lt_succ_iff_lt_or_eq.1 hv with h2|h2
 · exact h u v h2 hu
 · subst h2;exact h1 u zoa
noncomputable def zO9(u v:P2):P2:=(zCJ u.1 v.1,zCJ u.2 v.2)
noncomputable def pP(c l:List Pt)(i j:Nat):Nat->Int
  |0=>0
  |m+1=>if gW c (zO9 (vV l i j m) (vT l i j m)) i j=1 then pP c l i j m+1 else pP c l i j m
theorem mP(c l:List Pt)(i j:Nat):∀m,0<=pP c l i j m/\pP c l i j m<=m
  |0=>by unfold pP;omega
  |m+1=>by
   have h:=mP c l i j m;unfold pP
   split<;>omega
theorem yDW{c l:List Pt}{i j m:Nat}{p:P2}(hp:p=zO9 (vV l i j m) (vT l i j m))(h:gW c p i j=1):pP c l i j m+1=pP c l i j (m+1):=by subst hp;exact(if_pos h).symm
theorem yDX{c l:List Pt}{i j m:Nat}{p:P2}(hp:p=zO9 (vV l i j m) (vT l i j m))(h:¬gW c p i j=1):pP c l i j m=pP c l i j (m+1):=by subst hp;exact(if_neg h).symm
def arZ(l:List Pt)(i j:Nat):Rat:=uQ l i j l.length
noncomputable def wiZ(c l:List Pt)(i j:Nat):Int:=pP c l i j l.length
abbrev gl(L:List (List Pt))(m:Nat):List Pt:=L.getD m []
def yKG(L:List (List Pt))(i j k m:Nat)(best:Int):Prop:=
 (0<yR (arZ (gl L m) i j)/\wiZ (gl L m) (gl L k) i j=↑(gl L k).length)/\(best<0\/xT (arZ (gl L m) i j) (arZ (gl L best.toNat) i j)<0)
noncomputable def tT(L:List (List Pt))(i j k:Nat):Nat->Int
  |0=>-1
  |m+1=>if yKG L i j k m (tT L i j k m) then ↑m else tT L i j k m
theorem zCB(L:List (List Pt))(i j k:Nat):∀m,-1<=tT L i j k m/\tT L i j k m<m
  |0=>by unfold tT;omega
  |m+1=>by
   have h:=zCB L i j k m;unfold tT
   split<;>omega
noncomputable def pZ(L:List (List Pt))(i j k:Nat):Int:=if 0<yR (arZ (gl L k) i j) then -1 else tT L i j k L.length
def zB4(L:List (List Pt))(i j a b:Nat):Prop:=((¬b=a/\0<=pZ L i j a)/\pZ L i j b=pZ L i j a)/\0<wiZ (gl L b) (gl L a) i j
def eE(L:List (List Pt))(i j k:Nat):Prop:=¬0<yR (arZ (gl L k) i j)/\tT L i j k L.length<0
noncomputable def vZ(L:List (List Pt))(i j:Nat):Int:=
 if 16<L.length\/∃m,m<L.length/\64<(gl L m).length then 2
 else if ∃m,m<L.length/\¬aE (gl L m) i j then 8
 else if ∃a b,a<b/\b<L.length/\gK (gl L a) (gl L b) i j then 32
 else if(∃k,k<L.length/\eE L i j k)\/∃a b,a<L.length/\b<L.length/\zB4 L i j a b then 33 else 0
noncomputable def sD(L:List (List Pt))(i j:Nat):List Int:=if vZ L i j=0 then(List.range L.length).map (pZ L i j) else[]
theorem zJY{L:List (List Pt)}{i j:Nat}(h:16<L.length\/∃m,m<L.length/\64<(gl L m).length):vZ L i j=2/\sD L i j=[]:=by
 have e:vZ L i j=2:=if_pos h;exact⟨e,if_neg (by rw[e];decide)⟩
theorem zWX{L:List (List Pt)}{i j:Nat}(h1:¬16<L.length)(h2:∀m,m<L.length->¬64<(gl L m).length)(h:∃m,m<L.length/\¬aE (gl L m) i j):vZ L i j=8/\sD L i j=[]:=by
 have e:vZ L i j=8:=by
  unfold vZ;rw[if_neg (by rintro(h|⟨m,C,h⟩);exact h1 h;exact h2 m C h),if_pos h]
 exact⟨e,if_neg (by rw[e];decide)⟩
theorem zQN{L:List (List Pt)}{i j:Nat}(h1:¬16<L.length)(h2:∀m,m<L.length->¬64<(gl L m).length)(h3:∀m,m<L.length->aE (gl L m) i j)(h:∃a b,a<b/\b<L.length/\gK (gl L a) (gl L b) i j):vZ L i j=32/\sD L i j=[]:=by
 have e:vZ L i j=32:=by
  unfold vZ;rw[if_neg (by rintro(h|⟨m,C,h⟩);exact h1 h;exact h2 m C h),if_neg (by rintro⟨m,C,h⟩;exact h (h3 m C)),if_pos h]
 exact⟨e,if_neg (by rw[e];decide)⟩
theorem zD4{L:List (List Pt)}{i j:Nat}(h1:¬16<L.length)(h2:∀m,m<L.length->¬64<(gl L m).length)(h3:∀m,m<L.length->aE (gl L m) i j)(h4:∀a b,b<L.length->a<b->¬gK (gl L a) (gl L b) i j)
    (h:(∃k,k<L.length/\eE L i j k)\/∃a b,a<L.length/\b<L.length/\zB4 L i j a b):vZ L i j=33/\sD L i j=[]:=by
 have e:vZ L i j=33:=by
  unfold vZ;rw[if_neg (by rintro(h|⟨m,C,h⟩);exact h1 h;exact h2 m C h),if_neg (by rintro⟨m,C,h⟩;exact h (h3 m C)),if_neg (by rintro⟨a,b,G,D,h⟩;exact h4 a b D G h),if_pos h]
 exact⟨e,if_neg (by rw[e];decide)⟩
theorem zXF{O:List Int}{n:Nat}{f:Nat->Int}(hl:O.length=n)(h:∀q,q<n->O.getD q 0=f q):O=(List.range n).map f:=by
 refine List.ext_getElem (by simp[hl]) λq h1 h2=>?_;have h3:=h q zoa;rw[List.getD_eq_getElem?_getD,List.getElem?_eq_getElem h1] at h3;simp only[Option.getD_some] at h3;simp[h3]
theorem zWY{L:List (List Pt)}{i j:Nat}{O:List Int}(h1:¬16<L.length)(h2:∀m,m<L.length->¬64<(gl L m).length)(h3:∀m,m<L.length->aE (gl L m) i j)(h4:∀a b,b<L.length->a<b->¬gK (gl L a) (gl L b) i j)
    (h5:∀k,k<L.length->¬eE L i j k)(h6:∀a b,a<L.length->b<L.length->¬zB4 L i j a b)(hl:O.length=L.length)(hO:∀q,q<L.length->O.getD q 0=pZ L i j q):vZ L i j=0/\sD L i j=O:=by
 have e:vZ L i j=0:=by
  unfold vZ;rw[if_neg (by rintro(h|⟨m,C,h⟩);exact h1 h;exact h2 m C h),if_neg (by rintro⟨m,C,h⟩;exact h (h3 m C)),if_neg (by rintro⟨a,b,G,D,h⟩;exact h4 a b D G h),
   if_neg (by rintro(⟨k,H,h⟩|⟨a,b,G,D,h⟩);exact h5 k H h;exact h6 a b G D h)]
 exact⟨e,by unfold sD;rw[if_pos e];exact(zXF hl hO).symm⟩
end Bk
namespace Bk
open Classical
open Go Go.RowKit
def kS:Rp (List Nat) where
 n:=1
 agg:=false
 R _ cs s:=cs=[.string (qL s)]/\ByB s
 len:=by rintro h cs s ⟨rfl,_⟩;rfl
 mono:=λ_ r=>r
 one:=by rintro h cs s ⟨rfl,_⟩;rfl
 cell:=λ_=>rfl
theorem cT{h:Mem}{s:List Nat}(hb:ByB s):kS.Is h (.string (qL s)) s:=⟨_,⟨rfl,hb⟩,rfl⟩
theorem kF{h:Mem}{v:Value}{s:List Nat}(r:kS.Is h v s):v=.string (qL s)/\ByB s:=by
 obtain⟨cs,⟨rfl,C⟩,rfl⟩:=r;exact⟨I,C⟩
theorem gZ{h:Mem}:kS.R h [.string ⟨#[]⟩] []:=⟨rfl,ByB.nil⟩
def lsN:List Nat->List Nat->Prop
  |[],[]=>False
  |[],_::_=>True
  |_::_,[]=>False
  |x::a,y::b=>if x=y then lsN a b else x<y
def rpV:Rp Value where
 n:=1
 agg:=false
 R _ cs v:=cs=[v]/\v.oneCell'=true
 len:=by rintro h cs v ⟨rfl,_⟩;rfl
 mono:=λ_ r=>r
 one:=by rintro h cs v ⟨rfl,hv⟩;simp[hv]
 cell:=λ_=>rfl
theorem s4{h:Mem}{v:Value}(hv:v.oneCell'=true):rpV.Is h v v:=⟨_,⟨rfl,hv⟩,rfl⟩
theorem of_v{h:Mem}{u v:Value}(r:rpV.Is h u v):v=u:=by
 obtain⟨cs,⟨rfl,C⟩,rfl⟩:=r
 rfl
theorem sT{h:Mem}:rpV.R h [.slice none 0 0] (.slice none 0 0):=⟨rfl,rfl⟩
section
variable {α β γ δ:Type}{h:Mem}
theorem zNY{ρ:Rp α}{v:Value}{xs:List α}(r:(rpS ρ).Is h v xs):(rpS ρ).R h [v] xs:=by
 obtain⟨cs,⟨u,ds,rfl,s,C⟩,rfl⟩:=r;exact⟨_,ds,I,s,C⟩
theorem zG1{π:Rp α}{ρ:Rp β}{τ:Rp γ}{cs:List Value}{p:α}{v:Value}{s:γ}{xs:List β}(r:(rpP π (rpP rpV τ)).R h cs (p,(v,s)))(k:(rpS ρ).Is h v xs):(rpP π (rpP (rpS ρ) τ)).R h cs (p,(xs,s)):=by
 obtain⟨a,b,e,G,c,d,H,⟨D,_⟩,C⟩:=r;exact⟨a,b,e,G,c,d,H,by rw[show c=[v] from D];exact zNY k,C⟩
theorem yD5{ρ:Rp β}{τ:Rp γ}{cs:List Value}{v:Value}{s:γ}{xs:List β}(r:(rpP rpV τ).R h cs (v,s))(k:(rpS ρ).Is h v xs):(rpP (rpS ρ) τ).R h cs (xs,s):=by
 obtain⟨c,d,G,⟨D,_⟩,C⟩:=r;exact⟨c,d,G,by rw[show c=[v] from D];exact zNY k,C⟩
end
section
variable {P:Program}{n:Nat}{w0:World}{h0:Mem}{e:List (Nat×Value)}{L:List Res}{h:Mem}
theorem yG5{E k m:Nat}{v:Value}{cs:List Value}{base:Nat}{w:World}(hok:(Res.gs E k v m cs).ok base w):v.oneCell'=true:=by
 obtain⟨_,C⟩:=hok
 rcases C with⟨rfl,_⟩|⟨g,cap,cur,rfl,_⟩<;>rfl
theorem uT{o:Oper}{A B:List Res}{r:Res}{E k m:Nat}{G:List Value->Prop}(hv:zDL P n w0 h0 o e A r B h (λu r'=>∃cs',r'=.gs E k u m cs'/\G cs')):zDL P n w0 h0 o e A r B h (λu r'=>u.oneCell'=true/\∃cs',r'=.gs E k u m cs'/\G cs'):=by
 intro a w J S;obtain⟨v,C,r',h1,h2,h3,H,cs',rfl,D⟩:=hv a w J S;exact⟨v,C,_,h1,h2,h3,H,yG5 h3,cs',I,D⟩
theorem aA{o:Oper}{R:List Res}{Z:Value}(hv:OpX P n w0 h0 o e R h (λu=>rpV.Is h u Z)):OpX P n w0 h0 o e R h (λu=>Z=u):=by
 obtain⟨v,a,b⟩:=hv;exact⟨v,a,of_v b⟩
end
section
variable {α β:Type}
def qG(g:Nat->α):Nat->List α
  |0=>[]
  |i+1=>qG g i++[g i]
def tO(g:Nat->List α):Nat->List α
  |0=>[]
  |i+1=>tO g i++g i
noncomputable def cH(p:Nat->Prop)(g:Nat->α):Nat->List α
  |0=>[]
  |i+1=>cH p g i++(if p i then[g i] else[])
theorem zAQ{p:Nat->Prop}{g:Nat->α}{i:Nat}(h:p i):cH p g i++[g i]=cH p g (i+1):=by show _=_++_;rw[if_pos h]
theorem zAR{p:Nat->Prop}{g:Nat->α}{i:Nat}(h:¬p i):cH p g i=cH p g (i+1):=by show _=_++_;rw[if_neg h,List.append_nil]
theorem dA{p:Nat->Prop}{g:Nat->α}:∀n,cH p g n=[]↔∀i,i<n->¬p i
  |0=>⟨λ_ i h=>absurd h (Nat.not_lt_zero i),λ_=>rfl⟩
  |n+1=>by
   show _++_=[]↔_
   rw[List.append_eq_nil_iff,dA n];constructor
   · rintro⟨h1,h2⟩ i hi
     rcases Nat.lt_succ_iff_lt_or_eq.1 hi with h|h
     · exact h1 i h
     · subst h;intro e;rw[if_pos e] at h2;exact absurd h2 zoj
   · intro h
     exact⟨λi hi=>h i zoa,if_neg (h n zoa)⟩
theorem pQ(p:Nat->Prop)(g:Nat->α):∀n,(cH p g n).length<=n
  |0=>Nat.le_refl _
  |n+1=>by
   have:=pQ p g n
   show List.length (_++_)<=_
   rw[lAz]
   split<;>simp<;>omega
theorem yZ(g:Nat->α):∀n,(qG g n).length=n
  |0=>rfl
  |n+1=>by show List.length (_++_)=_;rw[lAz,yZ g n];rfl
theorem qF(g:Nat->α)(d:α):∀{n i},i<n->(qG g n).getD i d=g i
  |0,i,h=>absurd h (Nat.not_lt_zero i)
  |n+1,i,h=>by
   show(qG g n++[g n]).getD i d=_
   rcases Nat.lt_succ_iff_lt_or_eq.1 h with h|h
   · rw[List.getD_eq_getElem?_getD,List.getElem?_append_left (by rw[yZ];exact h),<-List.getD_eq_getElem?_getD];exact qF g d h
   · subst h
     rw[List.getD_eq_getElem?_getD,List.getElem?_append_right (by rw[yZ];exact Nat.le_refl _),yZ,Nat.sub_self];rfl
theorem iH{g g':Nat->α}:∀n,(∀i,i<n->g i=g' i)->qG g n=qG g' n
  |0,_=>rfl
  |n+1,h=>by show _++_=_++_;rw[iH n λi hi=>h i zoa,h n zoa]
theorem zR1{l:List α}(d:α){i:Nat}(h:i<l.length):l.take (i+1)=l.take i++[l.getD i d]:=by
 rw[List.take_succ_eq_append_getElem h,List.getD_eq_getElem?_getD,List.getElem?_eq_getElem h];rfl
theorem zX0{L:List (List α)}{n:Nat}(h:∀x,x∈L->x.length<=n)(m:Nat):(L.getD m []).length<=n:=by
 rw[List.getD_eq_getElem?_getD]
 rcases Nat.lt_or_ge m L.length with h1|h1
 · rw[List.getElem?_eq_getElem h1];exact h _ (List.getElem_mem h1)
 · rw[List.getElem?_eq_none h1];exact Nat.zero_le _
theorem zQT{g:Nat->α}{x:α}:∀{n},x∈qG g n->∃i,i<n/\x=g i
  |0,h=>absurd h List.not_mem_nil
  |n+1,h=>by
   rcases List.mem_append.1 (show x∈qG g n++[g n] from h) with h|h
   · obtain⟨i,hi,e⟩:=zQT h;exact⟨i,by omega,e⟩
   · exact⟨n,by omega,List.mem_singleton.1 h⟩
theorem zGI{g:Nat->List α}{x:α}:∀{n},x∈tO g n->∃i,i<n/\x∈g i
  |0,h=>absurd h List.not_mem_nil
  |n+1,h=>by
   rcases List.mem_append.1 (show x∈tO g n++g n from h) with h|h
   · obtain⟨i,hi,e⟩:=zGI h;exact⟨i,by omega,e⟩
   · exact⟨n,by omega,h⟩
theorem kY{l:List α}{d:α}{i:Nat}(h:i<l.length):l.getD i d∈l:=by
 rw[List.getD_eq_getElem?_getD,List.getElem?_eq_getElem h];exact List.getElem_mem h
noncomputable def aK(p:Nat->Prop):Nat->Nat
  |0=>0
  |k+1=>if p k then aK p k else k+1
theorem zPU{p:Nat->Prop}{k:Nat}(hk:0<k)(h:p (k-1)):aK p k=aK p (k-1):=by
 match k,hk with
 |k+1,_=>exact if_pos h
theorem zGV{p:Nat->Prop}{k:Nat}(h:¬(0<k/\p (k-1))):aK p k=k:=by
 match k with
 |0=>rfl
 |k+1=>exact if_neg λe=>h ⟨by omega,e⟩
theorem zEE(p:Nat->Prop):∀k,aK p k<=k
  |0=>Nat.le_refl _
  |k+1=>by
   have:=zEE p k;unfold aK
   split<;>omega
def iK(l:List α)(k:Nat)(x:α):List α:=l.take k++x::l.drop k
theorem zGB(l:List α){k:Nat}(x:α)(h:k<=l.length):(iK l k x).length=l.length+1:=by
 unfold iK;rw[lAz,lC,List.length_take,List.length_drop];omega
theorem zSH{n u:Nat}(h:u<n):(List.replicate n False).getD u False↔False:=by
 rw[List.getD_eq_getElem?_getD,List.getElem?_replicate,if_pos h];exact Iff.rfl
end
end Bk
namespace Bk
open Go Go.RowKit
section
variable {P:Program}{n:Nat}{w0:World}{h0:Mem}{e:List (Nat×Value)}{L:List Res}{h:Mem}{Q:Exit->Act->World->Prop}{ds:Option Tmp}{ty:TypeId}{ps:String}{af:Array Edge}{gd:Option (Nat×Bool)}{α:Type}
theorem zOD{ρ:Rp α}{xs:List α}{v:Value}{t E:TypeId}{x hu:Operand}{p:Int}(i:Nat)(ht:P.underlying t=some (.slice E))(hsz:∀w,(Go.sizeOf E).run P w=.ok ρ.n w)(hx:zJ e x=some v)(hl:zJ e hu=some (vI p))(r:(rpS ρ).Is h v xs)
    (hp:p=(i:Int))(hi:i<=xs.length):OpX P n w0 h0 ⟨ds,.slice t x none (some hu) none,ty,ps,af,gd⟩ e [] h (λu=>(rpS ρ).Is h u (xs.take i)):=by
 obtain⟨cs,s,C⟩:=zSV r;refine zV3 (λL' h'=>j1 i ht hsz hx hl s.shape hp hi) ?_;have D:=s.sub (Nat.zero_le i) hi;have G:=C.len;rw[Nat.zero_mul,List.drop_zero,Nat.sub_zero] at D;exact yBQ (by rw[List.length_take,Nat.min_eq_left hi];exact D) (C.take i)
theorem zQV:∀(a b:List Nat),ByB a->ByB b->(Op.bytesLess (a.map UInt8.ofNat) (b.map UInt8.ofNat)=true↔lsN a b)
  |[],[],_,_=>by simp[Op.bytesLess,lsN]
  |[],y::b,_,_=>by simp[Op.bytesLess,lsN]
  |x::a,[],_,_=>by simp[Op.bytesLess,lsN]
  |x::a,y::b,ha,hb=>by
   have hx:x<256:=ha x (.head _);have hy:y<256:=hb y (.head _);have ih:=zQV a b (λz hz=>ha z (.tail _ hz)) (λz hz=>hb z (.tail _ hz));have e1:(UInt8.ofNat x<UInt8.ofNat y)↔x<y:=by
    rw[UInt8.lt_iff_toNat_lt,UInt8.toNat_ofNat',UInt8.toNat_ofNat',Nat.mod_eq_of_lt (by simpa using hx),Nat.mod_eq_of_lt (by simpa using hy)]
   have C:(UInt8.ofNat x=UInt8.ofNat y)↔x=y:=by
    rw[<-UInt8.toNat_inj,UInt8.toNat_ofNat',UInt8.toNat_ofNat',Nat.mod_eq_of_lt (by simpa using hx),Nat.mod_eq_of_lt (by simpa using hy)]
   show((decide (UInt8.ofNat x<UInt8.ofNat y)||(UInt8.ofNat x==UInt8.ofNat y&&Op.bytesLess _ _))=true)↔(if x=y then lsN a b else x<y)
   rw[Bool.or_eq_true,Bool.and_eq_true,decide_eq_true_eq,beq_iff_eq,e1,C,ih]
   split
   · rename_i hxy;subst hxy;exact⟨λh=>h.elim (λh=>absurd h (Nat.lt_irrefl _)) λh=>h.2,λh=>.inr ⟨I,h⟩⟩
   · rename_i hxy;exact⟨λh=>h.elim id λh=>absurd h.1 hxy,.inl⟩
theorem zV8{pa pb:List Nat}{t yt:TypeId}{x y:Operand}(ha:ByB pa)(hb:ByB pb)(hx:zJ e x=some (.string (qL pa)))(hy:zJ e y=some (.string (qL pb))):OpV P n w0 h0 ⟨ds,.binOp .lss t x y yt,ty,ps,af,gd⟩ e L h (vB (lsN pa pb)):=by
 have C:Op.bytesLess (qL pa).toList (qL pb).toList=true↔lsN pa pb:=by
  rw[ByteArray.toList_eq,ByteArray.toList_eq];exact zQV pa pb ha hb
 have G:vB (lsN pa pb)=.bool (Op.bytesLess (qL pa).toList (qL pb).toList):=by
  by_cases hp:lsN pa pb
  · rw[xK hp,C.2 hp]
  · rw[yG hp,Bool.eq_false_iff.2 λe=>hp (C.1 e)]
 rw[G];intro a w D S;simp only[execOp,D.eval hx,D.eval hy,binOp];simp[eqGuard,Op.stringOp]
theorem lD{A B:List Res}{E k m:Nat}{v:Value}{cs:List Value}{c:Code}(hm:0<m)(g:∀b cap,v=.slice (some ⟨b,0,none⟩) m cap->m<=cap->GC P n w0 h0 c Q e (A++.gs E k v m cs::B) h):GC P n w0 h0 c Q e (A++.gs E k v m cs::B) h:=by
 intro a w D S;obtain⟨_,C⟩:w.ownsRow w0.heap.size E k v m cs:=S.ok (.gs E k v m cs) zoj
 rcases C with⟨_,h0⟩|⟨b,cap,cur,hv,_,_,hc,_⟩
 · omega
 · exact g b cap hv hc a w D S
theorem gS{fn:Func}{v:Value}{L':List Res}{RO:Mem->Value->List Res->Prop}(hs:L'.Sublist L)(hres:∀{a:Act} {w:World},Env n e a->St w0 h0 L h w->(results fn a.tmps).run P w=.ok v w)(hR:RO h v L'):GQ n w0 h0 (bodyPost P fn (tQ w0 h0 RO)) .ret e L h:=by
 intro a w E S;exact bodyPost_ret (hres E S) E.defers ⟨_,h,L',I,hR,S.sublist hs⟩
def tW(xs:List α)(i:Nat):List α:=xs.take (i+1)++(xs.drop i).take (xs.length-i-1)
theorem fE{xs:List α}{i:Nat}(h:i<xs.length):(tW xs i).length=xs.length:=by
 unfold tW;rw[lAz,List.length_take,List.length_take,List.length_drop];omega
theorem zU2{ρ:Rp α}{cs:List Value}{xs:List α}{i:Nat}(hi:i<xs.length)(r:RL ρ h cs xs):RL ρ h (y2 cs ((i+1)*ρ.n) ((cs.drop (i*ρ.n)).take ((xs.length-i-1)*ρ.n))) (tW xs i):=by
 have D:=r.len;have h1:=(r.drop i).take (xs.length-i-1);have h2:=r.take (i+1);have H:xs.length*ρ.n=(i+1)*ρ.n+(xs.length-i-1)*ρ.n:=by rw[<-Nat.add_mul];congr 1;omega
 have G:(i+1)*ρ.n=i*ρ.n+ρ.n:=Nat.succ_mul _ _;have C:((cs.drop (i*ρ.n)).take ((xs.length-i-1)*ρ.n)).length=(xs.length-i-1)*ρ.n:=by rw[List.length_take,List.length_drop];omega
 rw[zE4 _ _ _ zoa,C,show cs.drop ((i+1)*ρ.n+(xs.length-i-1)*ρ.n)=[] from List.drop_of_length_le zoa,List.append_nil];exact h2.append h1
theorem nR{l:List α}{z x:α}{k:Nat}(h:k<=l.length):(tW (l++[z]) k).set k x=iK l k x:=by
 unfold tW iK;have G:(l++[z]).length-k-1=l.length-k:=by rw[lAz,List.length_singleton];omega
 have D:((l++[z]).drop k).take (l.length-k)=l.drop k:=by
  rw[List.drop_append_of_le_length h,List.take_append_of_le_length (by rw[List.length_drop];omega),List.take_of_length_le (by rw[List.length_drop];omega)]
 have C:k<(l++[z]).length:=by rw[lAz,List.length_singleton];omega
 rw[G,D,List.take_succ_eq_append_getElem C,List.append_assoc,List.set_append_right _ _ (by rw[List.length_take];omega),List.length_take,show k-min k (l++[z]).length=0 by omega];rw[List.take_append_of_le_length h]
 rfl
theorem nT{A B:List Res}{t E b cap:Nat}{v:Value}{cs:List Value}{x y:Operand}{ρ:Rp α}{xs:List α}(i:Nat)(hv:v=.slice (some ⟨b,0,none⟩) xs.length cap)(hmc:xs.length<=cap)(ht:P.underlying t=some (.slice E))(hsz:∀w,(Go.sizeOf E).run P w=.ok ρ.n w)
    (hx:zJ e x=some (fQ ρ.n v (i+1) xs.length))(hy:zJ e y=some (fQ ρ.n v i xs.length))(hi:i<xs.length)(r:RL ρ h cs xs):
    zDL P n w0 h0 ⟨ds,.call {callee:=.builtin .copy,args:=#[x,y],argTypes:=#[t,t]},ty,ps,af,gd⟩ e A (.gs E ρ.n v xs.length cs) B h (λu r'=>∃cs',r'=.gs E ρ.n v (tW xs i).length cs'/\RL ρ h cs' (tW xs i)):=by
 intro a w Z S;have D:w.ownsRow w0.heap.size E ρ.n v xs.length cs:=S.ok (.gs E ρ.n v xs.length cs) zoj;have ae:=D.1;subst hv;have ac:=zU2 hi r;have e1:xs.length*ρ.n=(i+1)*ρ.n+(xs.length-i-1)*ρ.n:=by rw[<-Nat.add_mul];congr 1;omega
 have e2:(i+1)*ρ.n=i*ρ.n+ρ.n:=Nat.succ_mul _ _;have J:((cs.drop (i*ρ.n)).take ((xs.length-i-1)*ρ.n)).length=(xs.length-i-1)*ρ.n:=by rw[List.length_take,List.length_drop];omega
 have M:∀j u,((cs.drop (i*ρ.n)).take ((xs.length-i-1)*ρ.n))[j]?=some u->cs[i*ρ.n+j]?=some u:=λj u G=>by
  rw[List.getElem?_take] at G
  split at G
  · rwa [List.getElem?_drop] at G
  · cases G
 have U:∀u∈(cs.drop (i*ρ.n)).take ((xs.length-i-1)*ρ.n),u.oneCell'=true:=λu hu=>List.all_eq_true.1 r.one u (List.mem_of_mem_drop (List.mem_of_mem_take hu));generalize (cs.drop (i*ρ.n)).take ((xs.length-i-1)*ρ.n)=vs at *;obtain⟨h1,h2⟩:=nL vs ((i+1)*ρ.n) cs w D;have ab:=fE (xs:=xs) hi;have C:(loadCells ⟨b,i*ρ.n,none⟩ ((xs.length-i-1)*ρ.n)).run P w=.ok vs.toArray w:=by
  have:=run_loadCells_list (P:=P) (w:=w) ⟨b,i*ρ.n,none⟩ vs λj u G=>by
   have h3:=D.cellAt (i*ρ.n+j) (by have:=(List.getElem?_eq_some_iff.1 (M j u G)).1;omega);rw[M j u G] at h3;rw[show(⟨b,i*ρ.n,none⟩:Addr).add j=⟨b,i*ρ.n+j,none⟩ from jQ _ _ _];exact h3
  rwa [J] at this
 have O:=run_storeCells_cells (P:=P) b ((i+1)*ρ.n) vs 0 w (λj G=>by
  have h4:=D.cellAt ((i+1)*ρ.n+j) zoa;rw[List.getElem?_eq_getElem zoa] at h4;simp[h4]) (λj G=>by simpa using D.frozenAt ((i+1)*ρ.n+j)) U
 simp only[Nat.add_zero] at O;refine⟨vI ↑(xs.length-i-1),w.setCells b ((i+1)*ρ.n) vs,.gs E ρ.n (.slice (some ⟨b,0,none⟩) xs.length cap) xs.length (y2 cs ((i+1)*ρ.n) vs),?_,h2,h1,λb' hb=>.inl hb,_,by rw[ab],ac⟩;have H:Nat.min (xs.length-i) (xs.length-(i+1))=xs.length-i-1:=by show min _ _=_;omega
 have ad:¬cap=i:=by omega
 simp only[fQ,ad,if_false,Option.map_some] at hx hy;rw[show(⟨b,0,none⟩:Addr).add (i*ρ.n)=⟨b,i*ρ.n,none⟩ by simp[jQ]] at hy
 by_cases hc:cap=i+1
 · have hz:xs.length-i-1=0:=by omega
   have aa:vs=[]:=List.eq_nil_of_length_eq_zero (by rw[J,hz,Nat.zero_mul]);subst aa;simp only[hc,if_true] at hx;rw[hz,Nat.zero_mul] at C;simp[execOp,resolve,invoke,builtin,Z.eval hx,Z.eval hy,Builtin.copy_,run_underlying ht,Builtin.lenOf,Builtin.firstCells,hsz,H,hz,C,storeCells,World.setCells,goInt,vI]
 · simp only[hc,if_false] at hx
   rw[show(⟨b,0,none⟩:Addr).add ((i+1)*ρ.n)=⟨b,(i+1)*ρ.n,none⟩ by simp[jQ]] at hx;simp[execOp,resolve,invoke,builtin,Z.eval hx,Z.eval hy,Builtin.copy_,run_underlying ht,Builtin.lenOf,Builtin.firstCells,hsz,H,C,O,goInt,vI]
end
end Bk
namespace Bk
open Go Go.RowKit
open Classical
abbrev tII:Rp (List (List Int)):=rpS (rpS rpI)
abbrev tE5:Rp (Int×Int×Int×Int×Int):=rpP rpI (rpP rpI (rpP rpI (rpP rpI rpI)))
abbrev tPt(k:Nat):Rp (T3 Rat):=rpT (rpQ k)
abbrev tLs(k:Nat):Rp (List (T3 Rat)):=rpS (rpT (rpQ k))
abbrev tLL(k:Nat):Rp (List (List (T3 Rat))):=rpS (rpS (rpT (rpQ k)))
abbrev tPl(k l:Nat):Rp (T3 Rat×Rat):=rpP (rpT (rpQ k)) (rpQ l)
abbrev Tq:=T3 Rat
abbrev Pq:=T3 Rat×Rat
abbrev Sq:=List (T3 Rat)×List ((T3 Rat×Rat)×List (List Int)×List Nat)×List (Int×Int×Rat)
abbrev tFc(k l:Nat):Rp ((T3 Rat×Rat)×List (List Int)×List Nat):=rpP (rpP (rpT (rpQ k)) (rpQ l)) (rpP (rpS (rpS rpI)) kS)
abbrev tSd(k m n j:Nat):Rp Sq:=rpP (rpS (rpT (rpQ k))) (rpP (rpS (rpP (rpP (rpT (rpQ m)) (rpQ n)) (rpP (rpS (rpS rpI)) kS))) (rpS (rpP rpI (rpP rpI (rpQ j)))))
abbrev zZ(p:T3 Rat):T3 Rat:=T3.mk p.x p.y (0:Rat)
abbrev pU(PP:List (T3 Rat))(sB:Value)(j:Int):T3 Rat:=((PP,(sB,([]:List (Int×Int×Rat)))).1).getD j.toNat zT
abbrev nU(PP:List (T3 Rat))(sB:Value)(I:List Int)(q:Nat):T3 Rat:=T3.mk ((((PP,(sB,([]:List (Int×Int×Rat)))).1).getD ((I.getD ((q+1)%I.length) 0).toNat) zT).y-(((PP,(sB,([]:List (Int×Int×Rat)))).1).getD ((I.getD q 0).toNat) zT).y) (-((((PP,(sB,([]:List (Int×Int×Rat)))).1).getD ((I.getD ((q+1)%I.length) 0).toNat) zT).x-(((PP,(sB,([]:List (Int×Int×Rat)))).1).getD ((I.getD q 0).toNat) zT).x)) (0:Rat)
abbrev lU(I:List Int)(q:Nat)(BB:List (T3 Rat)):List Int:=[(I.getD q (0:Int)),(I.getD ((q+1)%I.length) (0:Int)),((I.getD ((q+1)%I.length) (0:Int))+(↑BB.length:Int)),((I.getD q (0:Int))+(↑BB.length:Int))]
abbrev e50:Int×Int×Int×Int×Int:=((0:Int),((0:Int),((0:Int),((0:Int),(0:Int)))))
theorem dK{R A B:List Res}{q:Res}(hR:∀r∈R,r∈A++B:=by first|(simp;done)|grind):∀r∈R,r∈A++q::B->r∈A++B:=zTU hR
theorem oM{p:Prop}(f:p:=by omega):p:=f
theorem dC{p:Prop}(f:p:=by decide):p:=f
theorem rP{p:Prop}(f:p:=by first|rfl|(push_cast;rfl)):p:=f
theorem nP{p:Prop}(f:p:=by exact Nat.le_of_ble_eq_true I):p:=f
theorem bO{p:Prop}(f:p:=by first|omega|(simp only[lAz,lC,lN,lR,lS];omega)):p:=f
theorem mle{h h':Mem}(f:MLe h h':=by with_reducible repeat (first|exact MLe.refl _|assumption|refine MLe.trans ?_ zol)):MLe h h':=f
theorem Rp.Is.up{α:Type}{ρ:Rp α}{h h':Mem}{v:Value}{x:α}(r:ρ.Is h v x)(hm:MLe h h':=by exact mle):ρ.Is h' v x:=r.mono hm
theorem Rp.R.up{α:Type}{ρ:Rp α}{h h':Mem}{cs:List Value}{x:α}(r:ρ.R h cs x)(hm:MLe h h':=by exact mle):ρ.R h' cs x:=Rp.mono ρ hm r
theorem RL.up{α:Type}{ρ:Rp α}{h h':Mem}{cs:List Value}{xs:List α}(r:RL ρ h cs xs)(hm:MLe h h':=by exact mle):RL ρ h' cs xs:=RL.mono hm r
theorem AtP.up{α:Type}{ρ:Rp α}{h h':Mem}{p:Value}{X:α}(r:AtP ρ h p X)(hm:MLe h h':=by exact mle):AtP ρ h' p X:=r.mono hm
theorem Us.up{k:IntKind}{h h':Mem}{v:Value}{xs:List Nat}(r:Us k h v xs)(hm:MLe h h':=by exact mle):Us k h' v xs:=r.mono hm
class Und(P:Program)(t:TypeId) where
 d:TypeDesc
 h:P.underlying t=some d
class Siz(P:Program)(t:TypeId) where
 k:Nat
 h:∀w,(Go.sizeOf t).run P w=.ok k w
class Agg(P:Program)(t:TypeId) where
 b:Bool
 h:∀w,(isAgg t).run P w=.ok b w
class Inf(P:Program)(t:TypeId) where
 k:Nat
 h:(P.info? t).map (·.size)=some k
theorem uu{P:Program}{t:TypeId}{d:TypeDesc}(f:P.underlying t=some d:=by exact Und.h):P.underlying t=some d:=f
theorem uz{P:Program}{t:TypeId}{k:Nat}(f:∀w,(Go.sizeOf t).run P w=.ok k w:=by exact Siz.h):∀w,(Go.sizeOf t).run P w=.ok k w:=f
theorem ua{P:Program}{t:TypeId}{k:Bool}(f:∀w,(isAgg t).run P w=.ok k w:=by exact Agg.h):∀w,(isAgg t).run P w=.ok k w:=f
theorem us_{P:Program}{t:TypeId}{k:Nat}(f:(P.info? t).map (·.size)=some k:=by exact Inf.h):(P.info? t).map (·.size)=some k:=f
section
variable {α β γ:Type}
variable {P:Program}{n:Nat}{w0:World}{h0:Mem}{e:List (Nat×Value)}{L:List Res}{h:Mem}{Q:Exit->Act->World->Prop}
variable {ds:Option Tmp}{ty:TypeId}{ps:String}{af:Array Edge}{gd:Option (Nat×Bool)}
variable {ops:Array Oper}{rest:List Oper}{RR:List Res}{al:Als}{d i:Nat}{op:Op}{v:Value}{r:List (Nat×Kd)}{g t:Nat}{b:Bool}
theorem xV{o:Oper}{R:List Res}{ρ:Rp α}{X Z:α}(hv:OpX P n w0 h0 o e R h (λu=>ρ.Is h u X))(hZ:X=Z:=by first|(dsimp only<;>exact I)|exact I):OpX P n w0 h0 o e R h (λu=>ρ.Is h u Z):=hZ▸hv
theorem mmx{L R:List Res}(f:∀r∈R,r∈L:=by first|exact zBA|exact sW mh0|exact sW mh1|exact sW mh2|exact sW mh3|exact sW mh4|exact sW mh5|exact sW mh6|exact sW mh7|exact sW (.tail _ mh7)|exact sW (.tail _ (.tail _ mh7))|exact sW (.tail _ (.tail _ (.tail _ mh7)))):∀r∈R,r∈L:=f
theorem lX{R:List Res}{F:Value->Prop}(hv:OpX P n w0 h0 ⟨some d,op,ty,ps,af,none⟩ e R h F)(k:∀v,F v->GL P n w0 h0 ops Q rest ((d,v)::e) L h)(hR:∀r∈R,r∈L:=by exact mmx)(hn:Nat.ble (d+1) n=true:=by exact I):GL P n w0 h0 ops Q (⟨some d,op,ty,ps,af,none⟩::rest) e L h:=zKB hv hR hn k
theorem wX{R:List Res}{F:Value->Prop}(ho:ops.getD i default=⟨some d,op,ty,ps,af,none⟩)(hv:OpX P n w0 h0 ⟨some d,op,ty,ps,af,none⟩ e R h F)(k:∀v,F v->W P n w0 h0 ops Q RR al r ((d,v)::e) L h)(hR:∀r∈R,r∈RR:=by exact mmx)(hn:Nat.ble (d+1) n=true:=by exact I):W P n w0 h0 ops Q RR al ((i,.q)::r) e L h:=nK ho hv hR hn k
theorem xX{K:List (Nat×Value)->List Res->Mem->Prop}{R:List Res}{F:Value->Prop}(ho:ops.getD i default=⟨some d,op,ty,ps,af,none⟩)(hv:OpX P n w0 h0 ⟨some d,op,ty,ps,af,none⟩ e R h F)(k:∀v,F v->K ((d,v)::e) L h)(hR:∀r∈R,r∈RR:=by exact mmx)(hn:Nat.ble (d+1) n=true:=by exact I):SQ P n w0 h0 ops RR i e L h K:=x_qx ho hv hR hn k
theorem oX{R:List Res}{F:Value->Prop}(ho:ops.getD i default=⟨some d,op,ty,ps,af,some (g,b)⟩)(hv:OpX P n w0 h0 ⟨some d,op,ty,ps,af,none⟩ e R h F)(k:∀v,F v->W P n w0 h0 ops Q RR al r ((d,v)::e) L h)(ht:(ops[g]?).bind (·.dst)=some t:=by exact I)(he:e.lookup t=some (.bool b):=by exact I)(hR:∀r∈R,r∈RR:=by exact mmx)(hn:Nat.ble (d+1) n=true:=by exact I):W P n w0 h0 ops Q RR al ((i,.q)::r) e L h:=lO ho ht he hv hR hn k
theorem sX{W':List (Nat×Value)->List Res->Mem->Prop}{R:List Res}{F:Value->Prop}(hv:OpX P n w0 h0 ⟨some d,op,ty,ps,af,none⟩ e R h F)(k:∀v,F v->W' ((d,v)::e) L h)(hR:∀r∈R,r∈L:=by exact mmx)(hn:Nat.ble (d+1) n=true:=by exact I):jU P n w0 h0 ops RR ⟨some d,op,ty,ps,af,none⟩ e L h W':=s_x hv hR hn k
theorem xB{t E:TypeId}{x:Operand}{b k off:Nat}{cs:List Value}{ρ:Rp α}{σ:Rp β}{g:α->β}{s:α->β->α}{X:α}{Z:β}(T:TyOk P t σ.n σ.agg)(pc:Pc ρ off σ g s){h1:Mem}(r:ρ.R h1 cs X)(hx:zJ e x=some (vP b k):=by exact I)(ho:k=off:=by exact I)(hZ:g X=Z:=by first|(dsimp only<;>exact I)|exact I)(hm:MLe h1 h:=by exact mle):
 OpX P n w0 h0 ⟨ds,.load t x,ty,ps,af,gd⟩ e [.var b E cs] h (λu=>σ.Is h u Z):=zLK T pc ho hx (r.up hm) hZ
theorem xA{t:TypeId}{x:Operand}{p:Value}{ρ:Rp α}{X:α}(T:TyOk P t ρ.n ρ.agg){h1:Mem}(r:AtP ρ h1 p X)(hx:zJ e x=some p:=by exact I)(hm:MLe h1 h:=by exact mle):OpX P n w0 h0 ⟨ds,.load t x,ty,ps,af,gd⟩ e [] h (λu=>ρ.Is h u X):=zOE T hx (r.up hm)
theorem xI{t E:TypeId}{x y:Operand}{q:Int}{v:Value}{ρ:Rp α}{xs:List α}(d:α)(i:Nat)(ht:P.underlying t=some (.slice E))(T:TyOk P E ρ.n ρ.agg){h1:Mem}(r:(rpS ρ).Is h1 v xs)(hx:zJ e x=some v:=by exact I)(hy:zJ e y=some (vI q):=by exact I)(hq:q=(i:Int):=by first|exact rfl|(push_cast;exact I)|omega)(hi:i<xs.length:=by omega)(hp:0<ρ.n:=by exact Nat.le_of_ble_eq_true I)(hm:MLe h1 h:=by exact mle):
 OpX P n w0 h0 ⟨ds,.indexAddr t x y,ty,ps,af,gd⟩ e [] h (λu=>AtP ρ h u (xs.getD i d)):=rD d i ht T hx hy (r.up hm) hq hi hp
theorem xF{t:TypeId}{x:Operand}{f off m:Nat}{fs:Array Field}{fl:Field}{p:Value}{ρ:Rp α}{σ:Rp β}{g:α->β}{s:α->β->α}{X:α}{Z:β}(ht:P.underlying t=some (.struct fs))(hsz:∀w,(Go.sizeOf fl.type).run P w=.ok (m+1) w)(pc:Pc ρ off σ g s){h1:Mem}(r:AtP ρ h1 p X)(hf:fs[f]?=some fl:=by exact I)(ho:fl.offset=off:=by exact I)(hx:zJ e x=some p:=by exact I)(hZ:g X=Z:=by first|(dsimp only<;>exact I)|exact I)(hm:MLe h1 h:=by exact mle):
 OpX P n w0 h0 ⟨ds,.fieldAddr t x f,ty,ps,af,gd⟩ e [] h (λu=>AtP σ h u Z):=zSP ht hf hsz pc ho hx (r.up hm) hZ
theorem uB{E t:TypeId}{b k off:Nat}{cs:List Value}{v:Value}{x y:Operand}{ρ:Rp α}{σ:Rp β}{g:α->β}{s:α->β->α}{X Z:α}{Y:β}(hsz:∀w,(Go.sizeOf t).run P w=.ok σ.n w)(pc:Pc ρ off σ g s){h1 h2:Mem}(r:ρ.R h1 cs X)(ry:σ.Is h2 v Y)(hx:zJ e x=some (vP b k):=by exact I)(ho:k=off:=by exact I)(hy:zJ e y=some v:=by exact I)(hZ:s X Y=Z:=by first|(dsimp only<;>exact I)|exact I)(hm:MLe h1 h:=by exact mle)(hm2:MLe h2 h:=by exact mle):
 ∃cs',ρ.R h cs' Z/\∀A B,Upd P n w0 h0 ⟨ds,.store t x y,ty,ps,af,gd⟩ e A (.var b E cs) B h (.var b E cs'):=zZS hsz pc ho hx hy (r.up hm) (ry.up hm2) hZ
theorem pH{ρ:Rp α}:Pc ρ 0 ρ (λx=>x) (λ_ y=>y):=Pc.here ρ
theorem ev1{x:Operand}{v:Value}(hx:zJ e x=some v):cK e [x] [v]:=⟨hx,trivial⟩
theorem ev2{x y:Operand}{v u:Value}(hx:zJ e x=some v)(hy:zJ e y=some u):cK e [x,y] [v,u]:=⟨hx,hy,trivial⟩
theorem ev3{x y z:Operand}{v u s:Value}(hx:zJ e x=some v)(hy:zJ e y=some u)(hz:zJ e z=some s):cK e [x,y,z] [v,u,s]:=⟨hx,hy,hz,trivial⟩
theorem ev4{x y z a:Operand}{v u s c:Value}(hx:zJ e x=some v)(hy:zJ e y=some u)(hz:zJ e z=some s)(ha:zJ e a=some c):cK e [x,y,z,a] [v,u,s,c]:=⟨hx,hy,hz,ha,trivial⟩
theorem cL{f:Nat}{xs:List Operand}{ts:Array TypeId}{vs:List Value}{R:Mem->Value->Prop}(hvs:cK e xs vs)(hcall:∀args w,(callFunc f args).run P w=.ok (.enter f args) w)(hc:∀w,MLe h (mem w)->Calls P f vs.toArray w (Ret w h R))(k:∀v h',MLe h h'->R h' v->GL P n w0 h0 ops Q rest ((d,v)::e) L h')(hn:Nat.ble (d+1) n=true:=by exact I):
 GL P n w0 h0 ops Q (⟨some d,.call {callee:=.value (.func f),args:=xs.toArray,argTypes:=ts},ty,ps,af,none⟩::rest) e L h:=yBV (o:=⟨some d,.call {callee:=.value (.func f),args:=xs.toArray,argTypes:=ts},ty,ps,af,none⟩) rfl rfl rfl hn hcall hvs hc k
theorem sC{W':List (Nat×Value)->List Res->Mem->Prop}{f:Nat}{xs:List Operand}{ts:Array TypeId}{vs:List Value}{R':Mem->Value->Prop}(hvs:cK e xs vs)(hcall:∀args w,(callFunc f args).run P w=.ok (.enter f args) w)(hc:∀w,MLe h (mem w)->Calls P f vs.toArray w (Ret w h R'))(k:∀v h',MLe h h'->R' h' v->W' ((d,v)::e) L h')(hn:Nat.ble (d+1) n=true:=by exact I):
 jU P n w0 h0 ops RR ⟨some d,.call {callee:=.value (.func f),args:=xs.toArray,argTypes:=ts},ty,ps,af,none⟩ e L h W':=yFR hcall hvs hc hn k
theorem nB{E:TypeId}{x:Operand}{v:Value}{ρ:Rp α}{X:α}{h1:Mem}(r:ρ.Is h1 v X)(k:∀b cs,ρ.R h cs X->GL P n w0 h0 ops Q rest ((d,vP b 0)::e) (.var b E cs::L) h)(hx:zJ e x=some v:=by exact I)(hn:Nat.ble (d+1) n=true:=by exact I)(hm:MLe h1 h:=by exact mle):GL P n w0 h0 ops Q (⟨some d,.box E x,ty,ps,af,none⟩::rest) e L h:=
 zI (zWV hx (r.up hm)) I I hn λv q D=>by obtain⟨b,cs,rfl,rfl,C⟩:=D;exact k b cs C
theorem nA{E:TypeId}{i:TypeInfo}{z:Value}{cs:List Value}{ρ:Rp α}{X:α}(hi:P.info? E=some i)(r:ρ.R h cs X)(k:∀b cs,ρ.R h cs X->GL P n w0 h0 ops Q rest ((d,vP b 0)::e) (.var b E cs::L) h)(hz:i.zero=some z:=by exact I)(hc:z.cells=cs.toArray:=by exact I)(hn:Nat.ble (d+1) n=true:=by exact I):GL P n w0 h0 ops Q (⟨some d,.alloc E,ty,ps,af,none⟩::rest) e L h:=
 zI (zO4 hi hz hc r) I I hn λv q D=>by obtain⟨b,cs,rfl,rfl,C⟩:=D;exact k b cs C
theorem cnd{c:Operand}{x y:Code}{p:Prop}(kt:p->GC P n w0 h0 x Q e L h)(kf:¬p->GC P n w0 h0 y Q e L h)(hc:zJ e c=some (vB p):=by exact I):GC P n w0 h0 (.cond c x y) Q e L h:=yBW hc kt kf
theorem gT{p:Prop}{v:Operand}(hg:p)(hv:zJ e v=some (vB p))(k:GL P n w0 h0 ops Q rest ((d,.bool true)::e) L h)(hn:Nat.ble (d+1) n=true:=by exact I):GL P n w0 h0 ops Q (⟨some d,.move v,ty,ps,af,none⟩::rest) e L h:=oP (yU (hv.trans (congrArg some (xK hg)))) I I hn k
theorem gF{p:Prop}{v:Operand}(hg:¬p)(hv:zJ e v=some (vB p))(k:GL P n w0 h0 ops Q rest ((d,.bool false)::e) L h)(hn:Nat.ble (d+1) n=true:=by exact I):GL P n w0 h0 ops Q (⟨some d,.move v,ty,ps,af,none⟩::rest) e L h:=oP (yU (hv.trans (congrArg some (yG hg)))) I I hn k
theorem gU{l:List Oper}(j t:Nat)(v:Value)(kx:GL P n w0 h0 ops (Exit.then (λa w=>∃i:Unit,True/\Env n ((t,v)::e) a/\St w0 h0 L h w) Q) (l.take j) e L h)(ky:GL P n w0 h0 ops Q (l.drop j) ((t,v)::e) L h):GL P n w0 h0 ops Q l e L h:=qB j (λ_=>True) (λ_=>(t,v)::e) (λ_=>L) (λ_=>h) kx λ_ _=>ky
@[reducible] def zT5:List Nat->List (Nat×Value)->List (Nat×Value)->Prop
  |_,[],_=>True
  |s,(t,v)::r,e=>(if s.contains t then True else e.lookup t=some v)/\zT5 (t::s) r e
theorem zT5.look{e:List (Nat×Value)}:∀{e0:List (Nat×Value)} {s:List Nat},zT5 s e0 e->∀t v,s.contains t=false->e0.lookup t=some v->e.lookup t=some v
  |[],_,_,t,v,_,h=>by simp at h
  |(k,u)::r,s,hs,t,v,hn,h=>by
   simp only[List.lookup_cons] at h
   by_cases ht:t=k
   · subst ht
     simp at h;subst h;have:=hs.1
     rwa [if_neg (by rw[hn];simp)] at this
   · have h1:(t==k)=false:=by simpa using ht
     rw[h1] at h;refine zT5.look hs.2 t v ?_ h;rw[List.contains_cons,h1,hn];rfl
theorem Env.subS{e0:List (Nat×Value)}{a:Act}(E:Env n e a)(h:zT5 [] e0 e):Env n e0 a:=⟨E.defers,E.size,λt v ht=>E.get t v (h.look t v rfl ht)⟩
theorem gqU{e0:List (Nat×Value)}{t:Nat}{v:Value}(hv:e.lookup t=some v)(hs:zT5 [t] e0 e:=by repeat (first|exact trivial|refine⟨by first|exact rfl|exact trivial,?_⟩)):GQ n w0 h0 (Exit.then (λa w=>∃i:Unit,True/\Env n ((t,v)::e0) a/\St w0 h0 L h w) Q) .normal e L h:=λa w E S=>⟨(),trivial,E.subS ⟨hv,hs⟩,S⟩
theorem gcL{ι:Type}{c:Code}{A:Prop}(S:ι->Prop×List (Nat×Value)×List Res×Mem×Nat)(i0:ι)(hi0:A)(round:∀i,(S i).1->GC P n w0 h0 c (Exit.then (λa w=>∃j,((S j).1/\(S j).2.2.2.2<(S i).2.2.2.2)/\Env n (S j).2.1 a/\St w0 h0 (S j).2.2.1 (S j).2.2.2.1 w) Q) (S i).2.1 (S i).2.2.1 (S i).2.2.2.1)
    (hA:(S i0).1=A:=by first|(dsimp only<;>exact I)|exact I)(he:Sub (S i0).2.1 e:=by repeat (first|exact trivial|refine⟨I,?_⟩))(hL:(S i0).2.2.1=L:=by exact I)(hh:(S i0).2.2.2.1=h:=by exact I):GC P n w0 h0 (.loop c) Q e L h:=
 gB (λi=>(S i).1) (λi=>(S i).2.1) (λi=>(S i).2.2.1) (λi=>(S i).2.2.2.1) (λi=>(S i).2.2.2.2) i0 (hA▸hi0) he hL hh round
theorem gqL{ι:Type}{A:Prop}{B M m:Nat}{S:ι->Prop×List (Nat×Value)×List Res×Mem×Nat}(i:ι)(hi:A)(hm:B<M)(hA:(S i).1=A:=by first|(dsimp only<;>exact I)|exact I)(hB:(S i).2.2.2.2=B:=by first|(dsimp only<;>exact I)|exact I)(hM:m=M:=by first|(dsimp only<;>exact I)|exact I)(he:Sub (S i).2.1 e:=by repeat (first|exact trivial|refine⟨I,?_⟩))(hL:(S i).2.2.1=L:=by exact I)(hh:(S i).2.2.2.1=h:=by exact I):
 GQ n w0 h0 (Exit.then (λa w=>∃j,((S j).1/\(S j).2.2.2.2<m)/\Env n (S j).2.1 a/\St w0 h0 (S j).2.2.1 (S j).2.2.2.1 w) Q) .normal e L h:=
 jO (inv:=λi=>(S i).1) (ev:=λi=>(S i).2.1) (Lv:=λi=>(S i).2.2.1) (hv:=λi=>(S i).2.2.2.1) (μ:=λi=>(S i).2.2.2.2) i (hA▸hi) (by rw[hM];exact hB▸hm) he hL hh
theorem cb0{f:FuncId}{fn:Func}{c:Code}{R:Ending->World->Prop}(n:Nat)(hf:P.funcs[f]?=some fn)(hs:MLe h0 (mem w0))(k:GC P n w0 h0 c (bodyPost P fn R) [] [] h0)(hb:fn.body=some c:=by exact I)(hn:fn.ntmps=n:=by exact I)(hl:([]:List Value).length<=n:=by exact Nat.le_of_ble_eq_true I):Calls P f #[] w0 R:=jI (e:=[]) (vs:=[]) hf hb hn hl hs trivial k
theorem cb1{f:FuncId}{fn:Func}{c:Code}{R:Ending->World->Prop}(n:Nat)(v:Value)(hf:P.funcs[f]?=some fn)(hs:MLe h0 (mem w0))(k:GC P n w0 h0 c (bodyPost P fn R) [(0,v)] [] h0)(hb:fn.body=some c:=by exact I)(hn:fn.ntmps=n:=by exact I)(hl:[v].length<=n:=by exact Nat.le_of_ble_eq_true I):Calls P f #[v] w0 R:=jI (e:=[(0,v)]) (vs:=[v]) hf hb hn hl hs ⟨I,trivial⟩ k
theorem cb2{f:FuncId}{fn:Func}{c:Code}{R:Ending->World->Prop}(n:Nat)(v u:Value)(hf:P.funcs[f]?=some fn)(hs:MLe h0 (mem w0))(k:GC P n w0 h0 c (bodyPost P fn R) [(0,v),(1,u)] [] h0)(hb:fn.body=some c:=by exact I)(hn:fn.ntmps=n:=by exact I)(hl:[v,u].length<=n:=by exact Nat.le_of_ble_eq_true I):Calls P f #[v,u] w0 R:=jI (e:=[(0,v),(1,u)]) (vs:=[v,u]) hf hb hn hl hs e2z k
theorem cb3{f:FuncId}{fn:Func}{c:Code}{R:Ending->World->Prop}(n:Nat)(v u s:Value)(hf:P.funcs[f]?=some fn)(hs:MLe h0 (mem w0))(k:GC P n w0 h0 c (bodyPost P fn R) [(0,v),(1,u),(2,s)] [] h0)(hb:fn.body=some c:=by exact I)(hn:fn.ntmps=n:=by exact I)(hl:[v,u,s].length<=n:=by exact Nat.le_of_ble_eq_true I):Calls P f #[v,u,s] w0 R:=jI (e:=[(0,v),(1,u),(2,s)]) (vs:=[v,u,s]) hf hb hn hl hs e3z k
def qq(a:Nat):Nat->List (Nat×Kd)->List (Nat×Kd)
  |0,r=>r
  |n+1,r=>(a,.q)::qq (a+1) n r
def frz(m:Nat)(l:List Nat):List Nat:=l.map (m-·)
theorem yX{c:Code}{e':List (Nat×Value)}{L':List Res}{h':Mem}(k:GC P n w0 h0 c Q e' L' h')(he:e=e':=by first|(dsimp only<;>exact I)|exact I)(hL:L=L':=by first|(dsimp only<;>exact I)|exact I)(hh:h=h':=by first|(dsimp only<;>exact I)|exact I):GC P n w0 h0 c Q e L h:=by subst he hL hh;exact k
theorem tZ{l:List Oper}{e':List (Nat×Value)}{L':List Res}{h':Mem}(k:GL P n w0 h0 ops Q l e' L' h')(he:e=e':=by first|(dsimp only<;>exact I)|exact I)(hL:L=L':=by first|(dsimp only<;>exact I)|exact I)(hh:h=h':=by first|(dsimp only<;>exact I)|exact I):GL P n w0 h0 ops Q l e L h:=by subst he hL hh;exact k
end
end Bk
namespace Bk
open Go Go.RowKit
def frc(x:Nat)(f:Nat->Bool):Bool:=match x with|0=>f 0|n+1=>f (n+1)
theorem yG9(x:Nat)(f:Nat->Bool):frc x f=f x:=by cases x<;>rfl
def yBX:List Nat->(List Nat->Bool)->Bool
  |[],f=>f []
  |x::r,f=>frc x λy=>yBX r λys=>f (y::ys)
theorem zQ4:∀(l:List Nat) (f:List Nat->Bool),yBX l f=f l
  |[],f=>rfl
  |x::r,f=>by show frc x _=_;rw[yG9,zQ4 r]
def zRM(l:List Oper)(m:Nat)(al:Als)(ord:List (Nat×Kd)):Bool:=
 Region.noSelect l.toArray&&cF l.toArray al&&(al.all λx=>decide (x.1<m))&&(l.all λo=>o.after.all λe=>decide (e.on<l.length))&&(yBX (l.map zBY) λams=>yBX ((List.range l.length).map (zMY l.toArray ams)) λfrs=>mK l.toArray l.length m ams frs ord 0 (al.map (·.1)))
theorem wJ{l:List Oper}{m:Nat}{al:Als}{ord:List (Nat×Kd)}(h:zRM l m al ord=true):
 (Region.noSelect l.toArray&&cF l.toArray al&&(al.all λx=>decide (x.1<m))&&chk l.toArray m ord (Array.replicate l.length false) (al.map (·.1)))=true:=by
 refine yHY (l.map zBY) ((List.range l.length).map (zMY l.toArray (l.map zBY))) ?_;simp only[zRM,Bool.and_eq_true,zQ4] at h;simp only[zPT,Bool.and_eq_true];exact⟨⟨h.1,by simp[eG]⟩,h.2⟩
end Bk
namespace Go.Proofs.YtpkaegemlpaenaaGreat
open Bk Go Tryz
instance:Und Tryz.prog 2:=⟨_,underlying2⟩
instance:Und Tryz.prog 3:=⟨_,underlying3⟩
instance:Und Tryz.prog 4:=⟨_,underlying4⟩
instance:Und Tryz.prog 5:=⟨_,underlying5⟩
instance:Und Tryz.prog 9:=⟨_,underlying9⟩
instance:Und Tryz.prog 22:=⟨_,underlying22⟩
instance:Und Tryz.prog 25:=⟨_,underlying25⟩
instance:Und Tryz.prog 27:=⟨_,underlying27⟩
instance:Und Tryz.prog 28:=⟨_,underlying28⟩
instance:Und Tryz.prog 29:=⟨_,underlying29⟩
instance:Und Tryz.prog 30:=⟨_,underlying30⟩
instance:Und Tryz.prog 31:=⟨_,underlying31⟩
instance:Und Tryz.prog 35:=⟨_,underlying35⟩
instance:Und Tryz.prog 36:=⟨_,underlying36⟩
instance:Und Tryz.prog 37:=⟨_,underlying37⟩
instance:Und Tryz.prog 38:=⟨_,underlying38⟩
instance:Und Tryz.prog 39:=⟨_,underlying39⟩
instance:Und Tryz.prog 40:=⟨_,underlying40⟩
instance:Und Tryz.prog 49:=⟨_,underlying49⟩
instance:Und Tryz.prog 50:=⟨_,underlying50⟩
instance:Und Tryz.prog 51:=⟨_,underlying51⟩
instance:Und Tryz.prog 52:=⟨_,underlying52⟩
instance:Und Tryz.prog 53:=⟨_,underlying53⟩
instance:Und Tryz.prog 56:=⟨_,underlying56⟩
instance:Und Tryz.prog 57:=⟨_,underlying57⟩
instance:Und Tryz.prog 58:=⟨_,underlying58⟩
instance:Und Tryz.prog 71:=⟨_,underlying71⟩
instance:Und Tryz.prog 72:=⟨_,underlying72⟩
instance:Und Tryz.prog 74:=⟨_,underlying74⟩
instance:Und Tryz.prog 76:=⟨_,underlying76⟩
instance:Und Tryz.prog 96:=⟨_,underlying96⟩
instance:Und Tryz.prog 97:=⟨_,underlying97⟩
instance:Und Tryz.prog 98:=⟨_,underlying98⟩
instance:Und Tryz.prog 99:=⟨_,underlying99⟩
instance:Und Tryz.prog 110:=⟨_,underlying110⟩
instance:Und Tryz.prog 117:=⟨_,underlying117⟩
instance:Und Tryz.prog 118:=⟨_,underlying118⟩
instance:Und Tryz.prog 124:=⟨_,underlying124⟩
instance:Und Tryz.prog 125:=⟨_,underlying125⟩
instance:Und Tryz.prog 133:=⟨_,underlying133⟩
instance:Und Tryz.prog 138:=⟨_,underlying138⟩
instance:Und Tryz.prog 139:=⟨_,underlying139⟩
instance:Und Tryz.prog 140:=⟨_,underlying140⟩
instance:Und Tryz.prog 150:=⟨_,underlying150⟩
instance:Und Tryz.prog 151:=⟨_,underlying151⟩
instance:Und Tryz.prog 152:=⟨_,underlying152⟩
instance:Und Tryz.prog 153:=⟨_,underlying153⟩
instance:Und Tryz.prog 162:=⟨_,underlying162⟩
instance:Und Tryz.prog 163:=⟨_,underlying163⟩
instance:Und Tryz.prog 165:=⟨_,underlying165⟩
instance:Und Tryz.prog 167:=⟨_,underlying167⟩
instance:Und Tryz.prog 168:=⟨_,underlying168⟩
instance:Und Tryz.prog 199:=⟨_,underlying199⟩
instance:Und Tryz.prog 200:=⟨_,underlying200⟩
instance:Und Tryz.prog 215:=⟨_,underlying215⟩
instance:Und Tryz.prog 236:=⟨_,underlying236⟩
instance:Und Tryz.prog 237:=⟨_,underlying237⟩
instance:Siz Tryz.prog 2:=⟨_,sizeOf2⟩
instance:Siz Tryz.prog 3:=⟨_,sizeOf3⟩
instance:Siz Tryz.prog 4:=⟨_,sizeOf4⟩
instance:Siz Tryz.prog 5:=⟨_,sizeOf5⟩
instance:Siz Tryz.prog 9:=⟨_,sizeOf9⟩
instance:Siz Tryz.prog 22:=⟨_,sizeOf22⟩
instance:Siz Tryz.prog 27:=⟨_,sizeOf27⟩
instance:Siz Tryz.prog 29:=⟨_,sizeOf29⟩
instance:Siz Tryz.prog 31:=⟨_,sizeOf31⟩
instance:Siz Tryz.prog 35:=⟨_,sizeOf35⟩
instance:Siz Tryz.prog 36:=⟨_,sizeOf36⟩
instance:Siz Tryz.prog 37:=⟨_,sizeOf37⟩
instance:Siz Tryz.prog 39:=⟨_,sizeOf39⟩
instance:Siz Tryz.prog 50:=⟨_,sizeOf50⟩
instance:Siz Tryz.prog 51:=⟨_,sizeOf51⟩
instance:Siz Tryz.prog 53:=⟨_,sizeOf53⟩
instance:Siz Tryz.prog 56:=⟨_,sizeOf56⟩
instance:Siz Tryz.prog 58:=⟨_,sizeOf58⟩
instance:Siz Tryz.prog 76:=⟨_,sizeOf76⟩
instance:Siz Tryz.prog 96:=⟨_,sizeOf96⟩
instance:Siz Tryz.prog 97:=⟨_,sizeOf97⟩
instance:Siz Tryz.prog 99:=⟨_,sizeOf99⟩
instance:Siz Tryz.prog 118:=⟨_,sizeOf118⟩
instance:Siz Tryz.prog 124:=⟨_,sizeOf124⟩
instance:Siz Tryz.prog 140:=⟨_,sizeOf140⟩
instance:Siz Tryz.prog 151:=⟨_,sizeOf151⟩
instance:Siz Tryz.prog 153:=⟨_,sizeOf153⟩
instance:Siz Tryz.prog 168:=⟨_,sizeOf168⟩
instance:Siz Tryz.prog 200:=⟨_,sizeOf200⟩
instance:Agg Tryz.prog 2:=⟨_,isAgg2⟩
instance:Agg Tryz.prog 3:=⟨_,isAgg3⟩
instance:Agg Tryz.prog 4:=⟨_,isAgg4⟩
instance:Agg Tryz.prog 5:=⟨_,isAgg5⟩
instance:Agg Tryz.prog 9:=⟨_,isAgg9⟩
instance:Agg Tryz.prog 22:=⟨_,isAgg22⟩
instance:Agg Tryz.prog 27:=⟨_,isAgg27⟩
instance:Agg Tryz.prog 29:=⟨_,isAgg29⟩
instance:Agg Tryz.prog 31:=⟨_,isAgg31⟩
instance:Agg Tryz.prog 35:=⟨_,isAgg35⟩
instance:Agg Tryz.prog 36:=⟨_,isAgg36⟩
instance:Agg Tryz.prog 37:=⟨_,isAgg37⟩
instance:Agg Tryz.prog 39:=⟨_,isAgg39⟩
instance:Agg Tryz.prog 50:=⟨_,isAgg50⟩
instance:Agg Tryz.prog 51:=⟨_,isAgg51⟩
instance:Agg Tryz.prog 53:=⟨_,isAgg53⟩
instance:Agg Tryz.prog 56:=⟨_,isAgg56⟩
instance:Agg Tryz.prog 58:=⟨_,isAgg58⟩
instance:Agg Tryz.prog 76:=⟨_,isAgg76⟩
instance:Agg Tryz.prog 96:=⟨_,isAgg96⟩
instance:Agg Tryz.prog 97:=⟨_,isAgg97⟩
instance:Agg Tryz.prog 99:=⟨_,isAgg99⟩
instance:Agg Tryz.prog 118:=⟨_,isAgg118⟩
instance:Agg Tryz.prog 124:=⟨_,isAgg124⟩
instance:Agg Tryz.prog 140:=⟨_,isAgg140⟩
instance:Agg Tryz.prog 151:=⟨_,isAgg151⟩
instance:Agg Tryz.prog 153:=⟨_,isAgg153⟩
instance:Agg Tryz.prog 200:=⟨_,isAgg200⟩
instance:Inf Tryz.prog 2:=⟨_,yI4⟩
instance:Inf Tryz.prog 3:=⟨_,yCW⟩
instance:Inf Tryz.prog 4:=⟨_,zUX⟩
instance:Inf Tryz.prog 5:=⟨_,yI3⟩
instance:Inf Tryz.prog 9:=⟨_,yI2⟩
instance:Inf Tryz.prog 22:=⟨_,yFI⟩
instance:Inf Tryz.prog 27:=⟨_,zUY⟩
instance:Inf Tryz.prog 29:=⟨_,yF⟩
instance:Inf Tryz.prog 31:=⟨_,yFH⟩
instance:Inf Tryz.prog 35:=⟨_,yFG⟩
instance:Inf Tryz.prog 36:=⟨_,yFF⟩
instance:Inf Tryz.prog 37:=⟨_,yFE⟩
instance:Inf Tryz.prog 39:=⟨_,yFD⟩
instance:Inf Tryz.prog 50:=⟨_,yFC⟩
instance:Inf Tryz.prog 51:=⟨_,yFB⟩
instance:Inf Tryz.prog 53:=⟨_,yFA⟩
instance:Inf Tryz.prog 56:=⟨_,yE9⟩
instance:Inf Tryz.prog 58:=⟨_,yE8⟩
instance:Inf Tryz.prog 72:=⟨_,yE7⟩
instance:Inf Tryz.prog 76:=⟨_,yE6⟩
instance:Inf Tryz.prog 96:=⟨_,yE5⟩
instance:Inf Tryz.prog 97:=⟨_,yE4⟩
instance:Inf Tryz.prog 99:=⟨_,yE3⟩
instance:Inf Tryz.prog 118:=⟨_,yAF⟩
instance:Inf Tryz.prog 124:=⟨_,yAE⟩
instance:Inf Tryz.prog 140:=⟨_,yAD⟩
instance:Inf Tryz.prog 151:=⟨_,yAC⟩
instance:Inf Tryz.prog 153:=⟨_,yAB⟩
instance:Inf Tryz.prog 168:=⟨_,yAA⟩
instance:Inf Tryz.prog 200:=⟨_,zZ9⟩
theorem zOI{P:Program}{n:Nat}{w0:World}{h0 h:Mem}{e:List (Nat×Value)}{L:List Res}{ds:Option Tmp}{ty:TypeId}{ps:String}{af:Array Edge}{gd:Option (Nat×Bool)}{t:TypeId}{x:Operand}{b k:Nat}{E:TypeId}{cs:List Value}{u v s:Value}{d:TypeDesc}(hm:.var b E cs∈L)(hu:P.underlying t=some d)(hd:d.isRow=true)(hi:(P.info? t).map (·.size)=some 3)(hx:zJ e x=some (vP b k))(hv:(cs.drop k).take 3=[u,v,s]):OpV P n w0 h0 ⟨ds,.load t x,ty,ps,af,gd⟩ e L h (.agg #[u,v,s]):=zLN (vs:=[u,v,s]) hm hu hd hi hx hv
theorem ov{P:Program}{n:Nat}{w0:World}{h0 h:Mem}{o:Oper}{e:List (Nat×Value)}{L:List Res}{v:Value}(f:OpV P n w0 h0 o e L h v:=by first|exact yI I rfl|exact mB I rfl|exact rG I rfl|exact zFD I rfl|exact bP I rfl|exact pS I rfl|exact zQ I I zoa zoa|exact qX I I zoa zoa|exact vD uu I (by with_reducible first|assumption|exact Us.up zol)|exact uL uu I (by with_reducible first|assumption|exact Rp.Is.up zol)|exact gO (vs:=[_,_]) I rfl|exact gO (vs:=[_,_,_]) I rfl|exact cO I rfl|exact(xW uu (by simp only[List.getElem?_toArray,List.getElem?_cons_succ,List.getElem?_cons_zero]<;>exact I) uz I).cv (congrArg (vP _) zog)|exact(yE 0 uu uz I I I zod).cv (congrArg (vP _) zog)|exact(yE 1 uu uz I I I zod).cv (congrArg (vP _) zog)|exact(yE 2 uu uz I I I zod).cv (congrArg (vP _) zog)|exact zOI (by first|exact mh0|exact mh1|exact mh2|exact mh3|exact mh4|exact mh5) uu (by exact I) us_ I rfl|exact cQ I rfl|exact zOF rfl|exact fJ I rfl|exact tI I rfl|exact zFA I rfl|exact pT I rfl|exact mA I rfl|exact eZ (by first|exact mh0|exact mh1|exact mh2|exact mh3|exact mh4|exact mh5) ua I rfl|exact fY (k:=.u64) (k':=.u32) (W:=4294967296) uu uu I I rfl|exact vG (k:=.u32) (k':=.u64) (W:=18446744073709551616) uu uu I I I zoa|exact tX (k:=.u64) (W:=18446744073709551616) I I I I zoa|exact eY (k:=.u64) (W:=18446744073709551616) I I I I zoa|exact fG (k:=.u64) (s:=32) (yk:=.u64) I I I (by simp only[ub];omega)|exact xZ ua I (by with_reducible first|assumption|exact Us.up zol) zoa):OpV P n w0 h0 o e L h v:=f
theorem ovq{P:Program}{n:Nat}{w0:World}{h0 h:Mem}{o:Oper}{e:List (Nat×Value)}{v:Value}(f:∀h' L',OpV P n w0 h0 o e L' h' v:=by intro h' L';first|exact yI I rfl|exact mB I rfl|exact rG I rfl|exact zFD I rfl|exact bP I rfl|exact pS I rfl|exact zQ I I zoa zoa|exact qX I I zoa zoa|exact vD uu I (by with_reducible first|assumption|exact Us.up zol)|exact uL uu I (by with_reducible first|assumption|exact Rp.Is.up zol)|exact gO (vs:=[_,_]) I rfl|exact gO (vs:=[_,_,_]) I rfl|exact cO I rfl|exact(xW uu (by simp only[List.getElem?_toArray,List.getElem?_cons_succ,List.getElem?_cons_zero]<;>exact I) uz I).cv (congrArg (vP _) zog)|exact(yE 0 uu uz I I I zod).cv (congrArg (vP _) zog)|exact(yE 1 uu uz I I I zod).cv (congrArg (vP _) zog)|exact(yE 2 uu uz I I I zod).cv (congrArg (vP _) zog)|exact zOI (by first|exact mh0|exact mh1|exact mh2|exact mh3|exact mh4|exact mh5) uu (by exact I) us_ I rfl|exact cQ I rfl|exact zOF rfl|exact fJ I rfl|exact tI I rfl|exact zFA I rfl|exact pT I rfl|exact mA I rfl|exact eZ (by first|exact mh0|exact mh1|exact mh2|exact mh3|exact mh4|exact mh5) ua I rfl|exact fY (k:=.u64) (k':=.u32) (W:=4294967296) uu uu I I rfl|exact vG (k:=.u32) (k':=.u64) (W:=18446744073709551616) uu uu I I I zoa|exact tX (k:=.u64) (W:=18446744073709551616) I I I I zoa|exact eY (k:=.u64) (W:=18446744073709551616) I I I I zoa|exact fG (k:=.u64) (s:=32) (yk:=.u64) I I I (by simp only[ub];omega)|exact xZ ua I (by with_reducible first|assumption|exact Us.up zol) zoa):∀h' L',OpV P n w0 h0 o e L' h' v:=f
theorem yAO{α:Type}{ρ:Rp α}{h h':Mem}{v:Value}{x:α}(r:ρ.Is h v x)(hh:MLe h h'):ρ.Is h' v x:=r.mono hh
theorem ovm{P:Program}{n:Nat}{w0:World}{h0 h:Mem}{o:Oper}{e:List (Nat×Value)}{R:List Res}{v:Value}(f:∀h' L',MLe h h'->(∀r∈R,r∈L')->OpV P n w0 h0 o e L' h' v:=by intro h' L' hh hR;first|exact yI I rfl|exact mB I rfl|exact rG I rfl|exact zFD I rfl|exact bP I rfl|exact pS I rfl|exact zQ I I zoa zoa|exact qX I I zoa zoa|exact vD uu I (Us.mono (by with_reducible first|assumption|exact Us.up zol) hh)|exact uL uu I (yAO (by with_reducible first|assumption|exact Rp.Is.up zol) hh)|exact gO (vs:=[_,_]) I rfl|exact gO (vs:=[_,_,_]) I rfl|exact cO I rfl|exact(xW uu (by simp only[List.getElem?_toArray,List.getElem?_cons_succ,List.getElem?_cons_zero]<;>exact I) uz I).cv (congrArg (vP _) zog)|exact(yE 0 uu uz I I I zod).cv (congrArg (vP _) zog)|exact(yE 1 uu uz I I I zod).cv (congrArg (vP _) zog)|exact(yE 2 uu uz I I I zod).cv (congrArg (vP _) zog)|exact zOI (hR _ (by first|exact mh0|exact mh1|exact mh2|exact mh3|exact mh4|exact mh5)) uu (by exact I) us_ I rfl|exact cQ I rfl|exact zOF rfl|exact fJ I rfl|exact tI I rfl|exact zFA I rfl|exact pT I rfl|exact mA I rfl|exact eZ (hR _ (by first|exact mh0|exact mh1|exact mh2|exact mh3|exact mh4|exact mh5)) ua I rfl|exact fY (k:=.u64) (k':=.u32) (W:=4294967296) uu uu I I rfl|exact vG (k:=.u32) (k':=.u64) (W:=18446744073709551616) uu uu I I I zoa|exact tX (k:=.u64) (W:=18446744073709551616) I I I I zoa|exact eY (k:=.u64) (W:=18446744073709551616) I I I I zoa|exact fG (k:=.u64) (s:=32) (yk:=.u64) I I I (by simp only[ub];omega)|exact xZ ua I (Us.mono (by with_reducible first|assumption|exact Us.up zol) hh) zoa):∀h' L',MLe h h'->(∀r∈R,r∈L')->OpV P n w0 h0 o e L' h' v:=f
theorem isGC{P:Program}{n:Nat}{w0:World}{h0 h:Mem}{Q:Exit->Act->World->Prop}{e:List (Nat×Value)}{L:List Res}{c:Code}(k:GC P n w0 h0 c Q e L h):GC P n w0 h0 c Q e L h:=k
theorem isGQ{n:Nat}{w0:World}{h0 h:Mem}{Q:Exit->Act->World->Prop}{e:List (Nat×Value)}{L:List Res}{x:Exit}(k:GQ n w0 h0 Q x e L h):GQ n w0 h0 Q x e L h:=k
theorem isGL{P:Program}{n:Nat}{w0:World}{h0 h:Mem}{Q:Exit->Act->World->Prop}{e:List (Nat×Value)}{L:List Res}{ops:Array Oper}{l:List Oper}(k:GL P n w0 h0 ops Q l e L h):GL P n w0 h0 ops Q l e L h:=k
theorem isW{P:Program}{n:Nat}{w0:World}{h0 h:Mem}{Q:Exit->Act->World->Prop}{e:List (Nat×Value)}{L:List Res}{R:List Res}{ops:Array Oper}{al:Als}{r:List (Nat×Kd)}(k:W P n w0 h0 ops Q R al r e L h):W P n w0 h0 ops Q R al r e L h:=k
structure Kp(p:Prop):Prop where out:p
theorem isGV{P:Program}{n:Nat}{w0:World}{h0 h:Mem}{Q:Exit->Act->World->Prop}{e:List (Nat×Value)}{L:List Res}{ops:Array Oper}{rest:List Oper}{d:Nat}{op:Op}{ty:TypeId}{ps:String}{af:Array Edge}(k:GL P n w0 h0 ops Q (⟨some d,op,ty,ps,af,none⟩::rest) e L h):GL P n w0 h0 ops Q (⟨some d,op,ty,ps,af,none⟩::rest) e L h:=k
theorem isMV{P:Program}{n:Nat}{w0:World}{h0 h:Mem}{Q:Exit->Act->World->Prop}{e:List (Nat×Value)}{L:List Res}{ops:Array Oper}{rest:List Oper}{d:Nat}{x:Operand}{ty:TypeId}{ps:String}{af:Array Edge}(k:GL P n w0 h0 ops Q (⟨some d,.move x,ty,ps,af,none⟩::rest) e L h):GL P n w0 h0 ops Q (⟨some d,.move x,ty,ps,af,none⟩::rest) e L h:=k
theorem isAS{P:Program}{n:Nat}{w0:World}{h0 h:Mem}{Q:Exit->Act->World->Prop}{e:List (Nat×Value)}{L:List Res}{ops:Array Oper}{rest:List Oper}{d:Nat}{x:Operand}{ty:TypeId}{ps:String}{af:Array Edge}(k:GL P n w0 h0 ops Q (⟨some d,.assign x,ty,ps,af,none⟩::rest) e L h):GL P n w0 h0 ops Q (⟨some d,.assign x,ty,ps,af,none⟩::rest) e L h:=k
theorem st{G G':Prop}(k:G')(f:Kp G'->G:=by intro k;first|((with_reducible refine isGL ?_);first|((with_reducible refine isMV ?_);first|exact mv (v:=vI _) I I k.out|exact mv I I k.out)|((with_reducible refine isAS ?_);first|exact asg (v:=vI _) I I k.out|exact asg I I k.out)|with_reducible exact yA k.out|((with_reducible refine isGV ?_);refine gv ov I ?_;exact k.out)|exact nN I I I I I I k.out|exact w3 I I I k.out|exact yBU I I I I I k.out|exact yA k.out|exact mv (v:=vI _) I I k.out|exact mv I I k.out|exact asg (v:=vI _) I I k.out|exact asg I I k.out|(refine gv ov I ?_;exact k.out))|((with_reducible refine isGC ?_);first|with_reducible exact zP k.out|with_reducible exact zF k.out|with_reducible exact vS k.out|with_reducible exact qD k.out|with_reducible exact gY k.out|with_reducible exact aZ k.out|exact zIK I k.out|exact zIL I k.out)|((with_reducible refine isGQ ?_);first|with_reducible exact zG k.out|with_reducible exact rI k.out|with_reducible exact uW k.out|with_reducible exact gX k.out|with_reducible exact nE k.out|with_reducible exact zQ2 k.out|exact zJ8 I k.out)|((with_reducible refine isW ?_);first|with_reducible exact cG k.out|exact qO I I I k.out|exact zKT I I I k.out|exact vW I I I I I k.out|exact zUA I I I I k.out|(refine wB I ovq I ?_;exact k.out)|(refine w_q I ovm I ?_;exact k.out)|(refine yL I I I ovm I ?_;exact k.out)|exact cG k.out)):G:=f ⟨k⟩
theorem go1{G G':Prop}(k:G')(f:Kp G'->G:=by intro k;refine st ?_;exact k.out):G:=f ⟨k⟩
theorem go2{G G':Prop}(k:G')(f:Kp G'->G:=by intro k;refine st ?_;refine st ?_;exact k.out):G:=f ⟨k⟩
theorem go3{G G':Prop}(k:G')(f:Kp G'->G:=by intro k;refine st ?_;refine st ?_;refine st ?_;exact k.out):G:=f ⟨k⟩
theorem go4{G G':Prop}(k:G')(f:Kp G'->G:=by intro k;refine st ?_;refine st ?_;refine st ?_;refine st ?_;exact k.out):G:=f ⟨k⟩
theorem go5{G G':Prop}(k:G')(f:Kp G'->G:=by intro k;refine st ?_;refine st ?_;refine st ?_;refine st ?_;refine st ?_;exact k.out):G:=f ⟨k⟩
theorem go6{G G':Prop}(k:G')(f:Kp G'->G:=by intro k;refine st ?_;refine st ?_;refine st ?_;refine st ?_;refine st ?_;refine st ?_;exact k.out):G:=f ⟨k⟩
theorem go7{G G':Prop}(k:G')(f:Kp G'->G:=by intro k;refine st ?_;refine st ?_;refine st ?_;refine st ?_;refine st ?_;refine st ?_;refine st ?_;exact k.out):G:=f ⟨k⟩
theorem go8{G G':Prop}(k:G')(f:Kp G'->G:=by intro k;refine st ?_;refine st ?_;refine st ?_;refine st ?_;refine st ?_;refine st ?_;refine st ?_;refine st ?_;exact k.out):G:=f ⟨k⟩
theorem go9{G G':Prop}(k:G')(f:Kp G'->G:=by intro k;refine go8 ?_;refine st ?_;exact k.out):G:=f ⟨k⟩
theorem uE{G G':Prop}(k:G')(f:Kp G'->G:=by intro k;refine go8 ?_;refine st ?_;refine st ?_;exact k.out):G:=f ⟨k⟩
theorem qA{G G':Prop}(k:G')(f:Kp G'->G:=by intro k;refine go8 ?_;refine st ?_;refine st ?_;refine st ?_;exact k.out):G:=f ⟨k⟩
theorem uS{G G':Prop}(k:G')(f:Kp G'->G:=by intro k;refine go8 ?_;refine st ?_;refine st ?_;refine st ?_;refine st ?_;exact k.out):G:=f ⟨k⟩
theorem sR{G G':Prop}(k:G')(f:Kp G'->G:=by intro k;refine go8 ?_;refine st ?_;refine st ?_;refine st ?_;refine st ?_;refine st ?_;exact k.out):G:=f ⟨k⟩
theorem tU{G G':Prop}(k:G')(f:Kp G'->G:=by intro k;refine go8 ?_;refine st ?_;refine st ?_;refine st ?_;refine st ?_;refine st ?_;refine st ?_;exact k.out):G:=f ⟨k⟩
theorem sZ{G G':Prop}(k:G')(f:Kp G'->G:=by intro k;refine go8 ?_;refine st ?_;refine st ?_;refine st ?_;refine st ?_;refine st ?_;refine st ?_;refine st ?_;exact k.out):G:=f ⟨k⟩
theorem dT{G G':Prop}(k:G')(f:Kp G'->G:=by intro k;refine go8 ?_;refine go8 ?_;exact k.out):G:=f ⟨k⟩
theorem mF{G G':Prop}(k:G')(f:Kp G'->G:=by intro k;refine go8 ?_;refine go8 ?_;refine st ?_;exact k.out):G:=f ⟨k⟩
theorem yBT{G G':Prop}(k:G')(f:Kp G'->G:=by intro k;refine go8 ?_;refine go8 ?_;refine st ?_;refine st ?_;exact k.out):G:=f ⟨k⟩
theorem zPO{G G':Prop}(k:G')(f:Kp G'->G:=by intro k;refine go8 ?_;refine go8 ?_;refine st ?_;refine st ?_;refine st ?_;exact k.out):G:=f ⟨k⟩
theorem yJZ{G G':Prop}(k:G')(f:Kp G'->G:=by intro k;refine go8 ?_;refine go8 ?_;refine st ?_;refine st ?_;refine st ?_;refine st ?_;exact k.out):G:=f ⟨k⟩
theorem go22{G G':Prop}(k:G')(f:Kp G'->G:=by intro k;refine go8 ?_;refine go8 ?_;refine st ?_;refine st ?_;refine st ?_;refine st ?_;refine st ?_;refine st ?_;exact k.out):G:=f ⟨k⟩
theorem go23{G G':Prop}(k:G')(f:Kp G'->G:=by intro k;refine go8 ?_;refine go8 ?_;refine st ?_;refine st ?_;refine st ?_;refine st ?_;refine st ?_;refine st ?_;refine st ?_;exact k.out):G:=f ⟨k⟩
theorem go30{G G':Prop}(k:G')(f:Kp G'->G:=by intro k;refine go8 ?_;refine go8 ?_;refine go8 ?_;refine st ?_;refine st ?_;refine st ?_;refine st ?_;refine st ?_;refine st ?_;exact k.out):G:=f ⟨k⟩
theorem gc2{G G1 G2:Prop}{p:Prop}(kt:p->G1)(kf:¬p->G2)(f:(p->Kp G1)->(¬p->Kp G2)->G:=by intro a b;refine st ?_;refine st ?_;exact cnd (λh=>(a h).out) λh=>(b h).out):G:=f (λh=>⟨kt h⟩) λh=>⟨kf h⟩
theorem gc3{G G1 G2:Prop}{p:Prop}(kt:p->G1)(kf:¬p->G2)(f:(p->Kp G1)->(¬p->Kp G2)->G:=by intro a b;refine st ?_;refine st ?_;refine st ?_;exact cnd (λh=>(a h).out) λh=>(b h).out):G:=f (λh=>⟨kt h⟩) λh=>⟨kf h⟩
theorem gc4{G G1 G2:Prop}{p:Prop}(kt:p->G1)(kf:¬p->G2)(f:(p->Kp G1)->(¬p->Kp G2)->G:=by intro a b;refine st ?_;refine st ?_;refine st ?_;refine st ?_;exact cnd (λh=>(a h).out) λh=>(b h).out):G:=f (λh=>⟨kt h⟩) λh=>⟨kf h⟩
theorem gc5{G G1 G2:Prop}{p:Prop}(kt:p->G1)(kf:¬p->G2)(f:(p->Kp G1)->(¬p->Kp G2)->G:=by intro a b;refine st ?_;refine st ?_;refine st ?_;refine st ?_;refine st ?_;exact cnd (λh=>(a h).out) λh=>(b h).out):G:=f (λh=>⟨kt h⟩) λh=>⟨kf h⟩
theorem gc6{G G1 G2:Prop}{p:Prop}(kt:p->G1)(kf:¬p->G2)(f:(p->Kp G1)->(¬p->Kp G2)->G:=by intro a b;refine st ?_;refine st ?_;refine st ?_;refine st ?_;refine st ?_;refine st ?_;exact cnd (λh=>(a h).out) λh=>(b h).out):G:=f (λh=>⟨kt h⟩) λh=>⟨kf h⟩
theorem gc7{G G1 G2:Prop}{p:Prop}(kt:p->G1)(kf:¬p->G2)(f:(p->Kp G1)->(¬p->Kp G2)->G:=by intro a b;refine st ?_;refine st ?_;refine st ?_;refine st ?_;refine st ?_;refine st ?_;refine st ?_;exact cnd (λh=>(a h).out) λh=>(b h).out):G:=f (λh=>⟨kt h⟩) λh=>⟨kf h⟩
theorem gc8{G G1 G2:Prop}{p:Prop}(kt:p->G1)(kf:¬p->G2)(f:(p->Kp G1)->(¬p->Kp G2)->G:=by intro a b;refine st ?_;refine st ?_;refine st ?_;refine st ?_;refine st ?_;refine st ?_;refine st ?_;refine st ?_;exact cnd (λh=>(a h).out) λh=>(b h).out):G:=f (λh=>⟨kt h⟩) λh=>⟨kf h⟩
theorem gc9{G G1 G2:Prop}{p:Prop}(kt:p->G1)(kf:¬p->G2)(f:(p->Kp G1)->(¬p->Kp G2)->G:=by intro a b;refine st ?_;refine st ?_;refine st ?_;refine st ?_;refine st ?_;refine st ?_;refine st ?_;refine st ?_;refine st ?_;exact cnd (λh=>(a h).out) λh=>(b h).out):G:=f (λh=>⟨kt h⟩) λh=>⟨kf h⟩
theorem zCR{G G1 G2:Prop}{p:Prop}(kt:p->G1)(kf:¬p->G2)(f:(p->Kp G1)->(¬p->Kp G2)->G:=by intro a b;refine st ?_;refine st ?_;refine st ?_;refine st ?_;refine st ?_;refine st ?_;refine st ?_;refine st ?_;refine st ?_;refine st ?_;exact cnd (λh=>(a h).out) λh=>(b h).out):G:=f (λh=>⟨kt h⟩) λh=>⟨kf h⟩
theorem zCQ{G G1 G2:Prop}{p:Prop}(kt:p->G1)(kf:¬p->G2)(f:(p->Kp G1)->(¬p->Kp G2)->G:=by intro a b;refine st ?_;refine st ?_;refine st ?_;refine st ?_;refine st ?_;refine st ?_;refine st ?_;refine st ?_;refine st ?_;refine st ?_;refine st ?_;exact cnd (λh=>(a h).out) λh=>(b h).out):G:=f (λh=>⟨kt h⟩) λh=>⟨kf h⟩
theorem zKG{G G1 G2:Prop}{p:Prop}(kt:p->G1)(kf:¬p->G2)(f:(p->Kp G1)->(¬p->Kp G2)->G:=by intro a b;refine st ?_;refine st ?_;refine st ?_;refine st ?_;refine st ?_;refine st ?_;refine st ?_;refine st ?_;refine st ?_;refine st ?_;refine st ?_;refine st ?_;exact cnd (λh=>(a h).out) λh=>(b h).out):G:=f (λh=>⟨kt h⟩) λh=>⟨kf h⟩
end Go.Proofs.YtpkaegemlpaenaaGreat
