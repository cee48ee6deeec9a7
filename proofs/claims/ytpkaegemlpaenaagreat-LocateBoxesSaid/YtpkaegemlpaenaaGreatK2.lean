/- Texts that the proof needs, part 2. -/
import Derived.Test.YtpkaegemlpaenaaGreatK1
namespace Bk
set_option linter.unusedVariables false
set_option linter.unusedSimpArgs false
open Go Go.RowKit
open Classical
noncomputable def sg(s:Prop)(n:Nat):Int:=if s then -(n:Int) else n
theorem mT{s:Prop}(h:s)(n:Nat):sg s n= -(n:Int):=if_pos h
theorem mU{s:Prop}(h:¬s)(n:Nat):sg s n=n:=if_neg h
theorem eE(s:Prop)(n:Nat):(sg s n).natAbs=n:=by
 by_cases h:s
 · rw[mT h];omega
 · rw[mU h];omega
theorem zVF(s:Prop):sg s 0=0:=by
 by_cases h:s
 · rw[mT h];omega
 · rw[mU h];omega
theorem zQR(s:Prop)(n:Nat):sg s n<0↔s∧n≠0:=by
 by_cases h:s
 · rw[mT h];exact⟨fun h1=>⟨h,by omega⟩,fun h1=>by omega⟩
 · rw[mU h];exact⟨fun h1=>by omega,fun h1=>absurd h1.1 h⟩
theorem zZE(s:Prop){n g:Nat}(h:g∣n):sg s n/(g:Int)=sg s (n/g):=by
 by_cases hs:s
 · rw[mT hs,mT hs]
   obtain⟨k,rfl⟩:=h
   rcases Nat.eq_zero_or_pos g with h0|h0
   · subst h0;simp
   · rw[Nat.mul_div_cancel_left _ h0,Int.natCast_mul,←Int.mul_neg,Int.mul_ediv_cancel_left _ (by omega)]
 · rw[mU hs,mU hs];omega
theorem zZC(q:Rat):sg (q.num<0) q.num.natAbs=q.num:=by
 by_cases h:q.num<0
 · rw[mT h];omega
 · rw[mU h];omega
def wA(d:Nat):Nat:=if d=1 then 0 else d
theorem cH:wA 1=0:=rfl
theorem aR{d:Nat}(h:d≠1):wA d=d:=if_neg h
theorem mI{d:Nat}(h0:d≠0):zB (wA d)=[]↔d=1:=by
 by_cases h:d=1
 · subst h;rw[cH,yZ];simp
 · rw[aR h]
   exact⟨fun e=>by have:=yK.2 h0;rw[e] at this;simp at this,fun e=>absurd e h⟩
theorem uG(q:Rat):(if zB (wA q.den)=[] then[1] else zB (wA q.den))=zB q.den:=by
 by_cases h:q.den=1
 · rw[if_pos ((mI q.den_nz).2 h),h,kK (by omega) (by omega)]
 · rw[if_neg (fun e=>h ((mI q.den_nz).1 e)),aR h]
def wS(h:Mem)(v:Value)(q:Rat):Prop:=∃vn vd,v=.agg #[vB (q.num<0),vn,vd]∧Us .u32 h vn (zB q.num.natAbs)∧Us .u32 h vd (zB (wA q.den))
theorem zb:vB ((0:Rat).num<0)=.bool false:=yJ (by decide)
theorem zAU(h:Mem):Us .u32 h (.slice none 0 0) (zB (0:Rat).num.natAbs):=by
 have:zB (0:Rat).num.natAbs=[]:=yZ;rw[this];exact Us.nil _ _
theorem zAV(h:Mem):Us .u32 h (.slice none 0 0) (zB (wA (0:Rat).den)):=by
 have:zB (wA (0:Rat).den)=[]:=yZ;rw[this];exact Us.nil _ _
theorem wS.zero(h:Mem):wS h (.agg #[vB ((0:Rat).num<0),.slice none 0 0,.slice none 0 0]) 0:=⟨_,_,rfl,zAU _,zAV _⟩
theorem zAC{s:Prop}{n d:Nat}(hd:d≠0):(mkRat (sg s n) d).num=sg s (n/Nat.gcd n d):=by
 rw[Rat.num_mkRat,if_neg hd,eE,Nat.gcd_comm];exact zZE s (Nat.gcd_dvd_left n d)
theorem zFB{s:Prop}{n d:Nat}(hd:d≠0):(mkRat (sg s n) d).den=d/Nat.gcd n d:=by
 rw[Rat.den_mkRat,if_neg hd,eE,Nat.gcd_comm]
theorem wS.make{h:Mem}{s:Prop}{n d:Nat}{vn vd:Value}(hn0:n≠0)(hd0:d≠0)(hn:Us .u32 h vn (zB (n/Nat.gcd n d)))(hd:Us .u32 h vd (zB (wA (d/Nat.gcd n d)))):wS h (.agg #[vB s,vn,vd]) (mkRat (sg s n) d):=by
 have z:n/Nat.gcd n d≠0:=by
  have h1:=Nat.gcd_dvd_left n d;have h2:=Nat.gcd_pos_of_pos_left d (Nat.pos_of_ne_zero hn0);exact Nat.ne_of_gt (Nat.div_pos (Nat.le_of_dvd (Nat.pos_of_ne_zero hn0) h1) h2)
 refine⟨vn,vd,?_,?_,?_⟩
 · have:vB ((mkRat (sg s n) d).num<0)=vB s:=by
    rw[zAC hd0];exact jI ⟨fun h=>((zQR _ _).1 h).1,fun h=>(zQR _ _).2 ⟨h,z⟩⟩
   rw[this]
 · rw[zAC hd0,eE];exact hn
 · rw[zFB hd0];exact hd
noncomputable def iZ(q:Rat):Rat:=if q.num<0 then -q else q
theorem zD0(q:Rat):(iZ q).num=q.num.natAbs:=by
 unfold iZ
 by_cases h:q.num<0
 · rw[if_pos h,Rat.neg_num];omega
 · rw[if_neg h];omega
theorem zJS(q:Rat):(iZ q).den=q.den:=by
 unfold iZ
 by_cases h:q.num<0
 · rw[if_pos h,Rat.neg_den]
 · rw[if_neg h]
theorem wS.abs{h:Mem}{q:Rat}{vn vd:Value}(hn:Us .u32 h vn (zB q.num.natAbs))(hd:Us .u32 h vd (zB (wA q.den))):wS h (.agg #[.bool false,vn,vd]) (iZ q):=by
 refine⟨vn,vd,?_,?_,?_⟩
 · rw[yJ (by rw[zD0];omega)]
 · rw[zD0];exact hn
 · rw[zJS];exact hd
theorem wS.negB{h:Mem}{q:Rat}{vn vd:Value}(hn:Us .u32 h vn (zB q.num.natAbs))(hd:Us .u32 h vd (zB (wA q.den))):wS h (.agg #[vB (¬q.num<0∧(0:Int)<↑(zB q.num.natAbs).length),vn,vd]) (-q):=by
 refine⟨vn,vd,?_,?_,?_⟩
 · have:vB ((-q).num<0)=vB (¬q.num<0∧(0:Int)<↑(zB q.num.natAbs).length):=by
    have h1:=yK (n:=q.num.natAbs);rw[Rat.neg_num];exact jI ⟨fun h=>⟨by omega,by omega⟩,fun h=>by omega⟩
   rw[this]
 · rw[Rat.neg_num,Int.natAbs_neg];exact hn
 · rw[Rat.neg_den];exact hd
theorem zDC{m n k:Nat}(h1:(zB m).length≤k)(h2:(zB n).length≤k):(zB (m+n)).length≤k+1:=by
 refine uO ?_;have C:=Nat.lt_of_lt_of_le (uD m) (Nat.pow_le_pow_right (by decide) h1);have z:=Nat.lt_of_lt_of_le (uD n) (Nat.pow_le_pow_right (by decide) h2);rw[Nat.pow_succ];generalize 4294967296^k=p at *;omega
theorem putL{xs:List Nat}{lo n:Nat}(h:lo+1≤xs.length)(h0:n≠0)(hn:n<4294967296):xs.set lo n=xs.take lo++zB n++xs.drop (lo+(zB n).length):=by
 rw[kK h0 hn,List.set_eq_take_append_cons_drop,if_pos (by omega)];simp
theorem yCR{xs:List Nat}{lo n:Nat}(h:lo+2≤xs.length)(hn:n<18446744073709551616)(hn':4294967296≤n):(xs.set lo (n%4294967296)).set (lo+1) (n/4294967296)=xs.take lo++zB n++xs.drop (lo+(zB n).length):=by
 have e:zB n=[n%4294967296,n/4294967296]:=by rw[jV (by omega),kK (t:=n/4294967296) (by omega) (by omega)]
 rw[e]
 apply List.ext_getElem?
 intro i;simp only[List.getElem?_set,lS,List.getElem?_append,lAz,List.length_take,lC,lN,List.getElem?_take,List.getElem?_drop]
 rcases Nat.lt_trichotomy i lo with hi|hi|hi
 · rw[if_neg (by omega),if_neg (by omega),if_pos (by omega),if_pos (by omega),if_pos (by omega)]
 · subst hi
   rw[if_neg (by omega),if_pos rfl,if_pos (by omega),if_pos (by omega),if_neg (by omega)];simp[show min i xs.length=i by omega]
 · by_cases h1:i=lo+1
   · subst h1
     rw[if_pos rfl,if_pos (by omega),if_pos (by omega),if_neg (by omega)];simp[show min lo xs.length=lo by omega]
   · rw[if_neg (by omega),if_neg (by omega),if_neg (by omega)]
     congr 1
     omega
noncomputable def rz(s:Prop)(n:Rat):Rat:=if s then -n else n
theorem oC{s:Prop}(h:s)(n:Rat):rz s n= -n:=if_pos h
theorem mV{s:Prop}(h:¬s)(n:Rat):rz s n=n:=if_neg h
theorem rU(s:Prop)(n d:Nat):mkRat (sg s n) d=rz s n/d:=by
 rw[Rat.mkRat_eq_div]
 by_cases h:s
 · rw[mT h,oC h,Rat.intCast_neg];rfl
 · rw[mU h,mV h];rfl
theorem jO(q:Rat):mkRat (sg (q.num<0) q.num.natAbs) q.den=q:=by rw[zZC,Rat.mkRat_self]
theorem cT{d:Nat}(h:d≠0):(d:Rat)≠0:=fun e=>h (Rat.natCast_eq_zero_iff.1 e)
theorem y6(s:Prop)(d:Nat):mkRat (sg s 0) d=0:=by rw[zVF,Rat.zero_mkRat]
theorem zC3(s:Prop)(n:Nat):mkRat (sg s n) 0=0:=by rw[Rat.mkRat_zero]
theorem zGO{s t:Prop}(h:s↔t)(n d:Nat):mkRat (sg s n) d=mkRat (sg t n) d:=by rw[propext h]
theorem zSJ(s:Prop){n m d e:Nat}(hd:d≠0)(he:e≠0):mkRat (sg s n) d+mkRat (sg s m) e=mkRat (sg s (n*e+m*d)) (d*e):=by
 rw[rU,rU,rU,Rat.natCast_mul,Rat.natCast_add,Rat.natCast_mul,Rat.natCast_mul];have h1:=cT hd;have h2:=cT he;generalize (d:Rat)=D at *;generalize (e:Rat)=E at *;generalize (n:Rat)=N at *;generalize (m:Rat)=M at *
 by_cases h:s
 · rw[oC h,oC h,oC h];grind
 · rw[mV h,mV h,mV h];grind
theorem zLB{s t:Prop}(hst:¬(s↔t)){n m d e:Nat}(hd:d≠0)(he:e≠0)(hle:m*d≤n*e):mkRat (sg s n) d+mkRat (sg t m) e=mkRat (sg s (n*e-m*d)) (d*e):=by
 have C:((n*e-m*d:Nat):Rat)=n*e-m*d:=by
  have h3:n*e-m*d+m*d=n*e:=by omega
  have G:((n*e-m*d+m*d:Nat):Rat)=((n*e:Nat):Rat):=by rw[h3]
  rw[Rat.natCast_add,Rat.natCast_mul,Rat.natCast_mul] at G;generalize ((n*e-m*d:Nat):Rat)=X at *;grind
 rw[rU,rU,rU,C,Rat.natCast_mul];have h1:=cT hd;have h2:=cT he;generalize (d:Rat)=D at *;generalize (e:Rat)=E at *;generalize (n:Rat)=N at *;generalize (m:Rat)=M at *
 by_cases h:s
 · have z:¬t:=fun z=>hst ⟨fun _=>z,fun _=>h⟩
   rw[oC h,mV z,oC h];grind
 · have z:t:=Classical.byContradiction fun z=>hst ⟨fun a=>absurd a h,fun a=>absurd a z⟩
   rw[mV h,oC z,mV h];grind
theorem zMW{s t:Prop}(hst:¬(s↔t)){n m d e:Nat}(hd:d≠0)(he:e≠0)(hle:n*e≤m*d):mkRat (sg s n) d+mkRat (sg t m) e=mkRat (sg t (m*d-n*e)) (d*e):=by
 rw[Rat.add_comm,zLB (fun h=>hst h.symm) he hd hle,Nat.mul_comm e d]
theorem zSI(s t:Prop)(n m d e:Nat):mkRat (sg s n) d*mkRat (sg t m) e=mkRat (sg (¬(s↔t)) (n*m)) (d*e):=by
 rw[Rat.mkRat_mul_mkRat]
 congr 1
 by_cases h:s<;>by_cases h':t
 · rw[mT h,mT h',mU (by simp[h,h']),Int.natCast_mul,Int.neg_mul_neg]
 · rw[mT h,mU h',mT (by simp[h,h']),Int.natCast_mul,Int.neg_mul]
 · rw[mU h,mT h',mT (by simp[h,h']),Int.natCast_mul,Int.mul_neg]
 · rw[mU h,mU h',mU (by simp[h,h']),Int.natCast_mul]
theorem zLC(s t:Prop){n m d e:Nat}(hd:d≠0)(hm:m≠0)(he:e≠0):mkRat (sg s n) d/mkRat (sg t m) e=mkRat (sg (¬(s↔t)) (n*e)) (d*m):=by
 rw[rU,rU,rU,Rat.natCast_mul,Rat.natCast_mul];have h1:=cT hd;have h2:=cT hm;have h3:=cT he;generalize (d:Rat)=D at *;generalize (e:Rat)=E at *;generalize (n:Rat)=N at *;generalize (m:Rat)=M at *
 by_cases h:s<;>by_cases h':t
 · rw[oC h,oC h',mV (by simp[h,h'])];grind
 · rw[oC h,mV h',oC (by simp[h,h'])];grind
 · rw[mV h,oC h',oC (by simp[h,h'])];grind
 · rw[mV h,mV h',mV (by simp[h,h'])];grind
theorem zZ3(s:Prop)(n d:Nat):-mkRat (sg s n) d=mkRat (sg (¬s) n) d:=by
 rw[Rat.neg_mkRat]
 congr 1
 by_cases h:s
 · rw[mT h,mU (by simp[h])];omega
 · rw[mU h,mT h]
theorem zC4(s:Prop)(n d:Nat){k:Nat}(hk:k≠0):mkRat (sg s (n*k)) (d*k)=mkRat (sg s n) d:=by
 rw[rU,rU,Rat.natCast_mul,Rat.natCast_mul];have h1:=cT hk
 by_cases hd:d=0
 · subst hd
   have:((0:Nat):Rat)=0:=rfl;rw[this];grind
 have h2:=cT hd;generalize (d:Rat)=D at *;generalize (k:Rat)=K at *;generalize (n:Rat)=N at *
 by_cases h:s
 · rw[oC h,oC h];grind
 · rw[mV h,mV h];grind
def lq(q:Rat):Nat:=max (zB q.num.natAbs).length (zB q.den).length
theorem vH(q:Rat):(zB q.num.natAbs).length≤lq q:=Nat.le_max_left _ _
theorem wY(q:Rat):(zB q.den).length≤lq q:=Nat.le_max_right _ _
theorem zTN(d:Nat):(zB (wA d)).length≤(zB d).length:=by
 by_cases h:d=1
 · subst h;rw[cH,yZ];simp
 · rw[aR h];exact Nat.le_refl _
theorem wW(q:Rat):(zB (wA q.den)).length≤lq q:=Nat.le_trans (zTN _) (wY q)
theorem zAE(q:Rat):0<lq q:=Nat.lt_of_lt_of_le (yK.2 q.den_nz) (wY q)
theorem iC{s:Prop}{n d k:Nat}(hn:(zB n).length≤k)(hd:(zB d).length≤k)(hk:0<k):lq (mkRat (sg s n) d)≤k:=by
 by_cases h0:d=0
 · subst h0
   rw[zC3];refine Nat.max_le.2 ⟨?_,?_⟩
   · have:(zB (0:Rat).num.natAbs)=[]:=yZ
     rw[this];simp
   · have:zB (0:Rat).den=[1]:=by rw[show(0:Rat).den=1 from rfl,jV (by omega),yZ]
     rw[this];exact hk
 · refine Nat.max_le.2 ⟨?_,?_⟩
   · rw[zAC h0,eE]
     exact Nat.le_trans (yF (Nat.div_le_self _ _)) hn
   · rw[zFB h0]
     exact Nat.le_trans (yF (Nat.div_le_self _ _)) hd
theorem y8:lq 0=1:=by
 have h:=iC (s:=False) (n:=0) (d:=0) (k:=1) (by rw[yZ];simp) (by rw[yZ];simp) (by omega);rw[zC3] at h;have:=zAE 0;omega
theorem zLG(q:Rat):lq (-q)=lq q:=by unfold lq;rw[Rat.neg_num,Rat.neg_den,Int.natAbs_neg]
theorem zZ8(q:Rat):lq (iZ q)=lq q:=by unfold lq;rw[zD0,zJS,Int.natAbs_natCast]
theorem zC9(a b:Rat):lq (a*b)≤lq a+lq b:=by
 rw[←jO a,←jO b,zSI,jO,jO];have h1:=vH a;have h2:=vH b;have h3:=wY a;have C:=wY b;have z:=zAE a;exact iC (Nat.le_trans (yH _ _) (by omega)) (Nat.le_trans (yH _ _) (by omega)) (by omega)
theorem bU(a b:Rat):lq (a+b)≤lq a+lq b+1:=by
 have h1:=vH a;have h2:=vH b;have h3:=wY a;have H:=wY b;have G:=zAE a;have D:=yH a.num.natAbs b.den;have C:=yH b.num.natAbs a.den;have z:=yH a.den b.den;have e:a+b=mkRat (sg (a.num<0) a.num.natAbs) a.den+mkRat (sg (b.num<0) b.num.natAbs) b.den:=by rw[jO,jO]
 rw[e]
 by_cases h:(a.num<0)↔(b.num<0)
 · rw[zGO h,zSJ _ a.den_nz b.den_nz]
   refine iC (Nat.le_trans (zDC ?_ ?_) (Nat.le_refl _)) (by omega) (by omega)
   · omega
   · omega
 · rcases Nat.le_total (b.num.natAbs*a.den) (a.num.natAbs*b.den) with hle|hle
   · rw[zLB h a.den_nz b.den_nz hle]
     exact iC (Nat.le_trans (yF (Nat.sub_le _ _)) (by omega)) (by omega) (by omega)
   · rw[zMW h a.den_nz b.den_nz hle]
     exact iC (Nat.le_trans (yF (Nat.sub_le _ _)) (by omega)) (by omega) (by omega)
theorem zSO(a b:Rat):lq (a-b)≤lq a+lq b+1:=by
 rw[Rat.sub_eq_add_neg];have:=bU a (-b);rw[zLG] at this;exact this
theorem zCY{q:Rat}:q.num.natAbs≠0↔q≠0:=by
 rw[Int.natAbs_ne_zero];exact not_congr Rat.num_eq_zero
theorem zZ6(a b:Rat):lq (a/b)≤lq a+lq b:=by
 have h1:=vH a;have h2:=vH b;have h3:=wY a;have C:=wY b;have z:=zAE a
 by_cases hb:b=0
 · subst hb
   have:a/0=0:=by grind
   rw[this,y8];omega
 have e:a/b=mkRat (sg (a.num<0) a.num.natAbs) a.den/mkRat (sg (b.num<0) b.num.natAbs) b.den:=by rw[jO,jO]
 rw[e,zLC _ _ a.den_nz (zCY.2 hb) b.den_nz];exact iC (Nat.le_trans (yH _ _) (by omega)) (Nat.le_trans (yH _ _) (by omega)) (by omega)
noncomputable def yP(a b:Rat):Int:=if a<b then -1 else if a=b then 0 else 1
noncomputable def xC(q:Rat):Int:=if q=0 then 0 else if q.num<0 then -1 else 1
theorem zXR(s:Prop){n m d e:Nat}(hd:d≠0)(he:e≠0):mkRat (sg s n) d<mkRat (sg s m) e↔if s then m*d<n*e else n*e<m*d:=by
 have z:∀x y:Nat,(x:Rat)<(y:Rat)↔x<y:=fun x y=>by rw[Rat.natCast_lt_natCast]
 have h1:(0:Rat)<(d:Rat):=by rw[show(0:Rat)=((0:Nat):Rat) from rfl,z];omega
 have h2:(0:Rat)<(e:Rat):=by rw[show(0:Rat)=((0:Nat):Rat) from rfl,z];omega
 rw[rU,rU,←z,←z,Rat.natCast_mul,Rat.natCast_mul,Rat.div_lt_iff h1];generalize (d:Rat)=D at *;generalize (e:Rat)=E at *;generalize (n:Rat)=N at *;generalize (m:Rat)=M at *;have C:∀X:Rat,X/E*D=X*D/E:=fun X=>by grind
 rw[C,Rat.lt_div_iff h2]
 by_cases h:s
 · rw[oC h,oC h,if_pos h];grind
 · rw[mV h,mV h,if_neg h]
theorem zXT(s:Prop){n m d e:Nat}(hd:d≠0)(he:e≠0):mkRat (sg s n) d=mkRat (sg s m) e↔n*e=m*d:=by
 rw[Rat.mkRat_eq_iff hd he]
 by_cases h:s
 · rw[mT h,mT h]
   rw[Int.neg_mul,Int.neg_mul,Int.neg_inj,←Int.natCast_mul,←Int.natCast_mul];omega
 · rw[mU h,mU h,←Int.natCast_mul,←Int.natCast_mul];omega
theorem yA8(s:Prop){n m d e:Nat}(hd:d≠0)(he:e≠0):yP (mkRat (sg s n) d) (mkRat (sg s m) e)=if s then -(sM (n*e) (m*d)) else sM (n*e) (m*d):=by
 unfold yP sM
 by_cases h:s
 · simp only[zXR s hd he,zXT s hd he,if_pos h]
   by_cases h1:m*d<n*e
   · rw[if_pos h1,if_neg (by omega),if_neg (by omega)]
   · rw[if_neg h1]
     by_cases h2:n*e=m*d
     · rw[if_pos h2,if_neg (by omega)];rfl
     · rw[if_neg h2,if_pos (by omega)];rfl
 · simp only[zXR s hd he,zXT s hd he,if_neg h]
theorem zJJ(a b:Rat)(h:(a.num<0)↔(b.num<0)):yP a b=if a.num<0 then -(sM (a.num.natAbs*b.den) (b.num.natAbs*a.den)) else sM (a.num.natAbs*b.den) (b.num.natAbs*a.den):=by
 have:=yA8 (a.num<0) (n:=a.num.natAbs) (m:=b.num.natAbs) a.den_nz b.den_nz;rw[jO,zGO h,jO] at this;rw[this]
 by_cases h:a.num<0
 · rw[if_pos h,if_pos h]
 · rw[if_neg h,if_neg h]
theorem oN(q:Rat):q.num<0↔q<0:=by
 have:=Rat.num_nonneg (q:=q);rw[←Rat.not_le,←this];omega
theorem j4{a b:Rat}(h:xC a≠xC b):yP a b=if xC a<xC b then -1 else 1:=by
 have C:xC a=if a=0 then 0 else if a<0 then -1 else 1:=by unfold xC;simp only[oN]
 have z:xC b=if b=0 then 0 else if b<0 then -1 else 1:=by unfold xC;simp only[oN]
 rw[C,z] at h ⊢;unfold yP
 clear C z
 grind
theorem yY(q:Rat):-1≤xC q∧xC q≤1:=by
 unfold xC
 split
 · omega
 · split<;>omega
theorem uN(a b:Rat):-1≤yP a b∧yP a b≤1:=by
 unfold yP
 split
 · omega
 · split<;>omega
theorem nD{a b:Rat}:yP a b<0↔a<b:=by
 unfold yP
 by_cases h:a<b
 · simp[h]
 · by_cases h':a=b
   · simp[h']
   · simp[h,h']
theorem zDQ{a b:Rat}:0<yP a b↔b<a:=by
 unfold yP
 by_cases h:a<b
 · simp[h];grind
 · by_cases h':a=b
   · simp[h']
   · simp[h,h'];grind
theorem bE{a b:Rat}:yP a b=0↔a=b:=by
 unfold yP
 by_cases h:a<b
 · simp[h];grind
 · by_cases h':a=b
   · simp[h']
   · simp[h,h']
def fY(q:Rat):Prop:=(zB q.num.natAbs).length≤1∧(zB (wA q.den)).length≤1
theorem zJ3{q:Rat}(h:(1:Int)<↑(zB q.num.natAbs).length∨(1:Int)<↑(zB (wA q.den)).length):¬fY q:=fun⟨h1,h2⟩=>by omega
theorem zN2{q:Rat}(h:¬((1:Int)<↑(zB q.num.natAbs).length∨(1:Int)<↑(zB (wA q.den)).length)):fY q:=⟨by omega,by omega⟩
theorem aM{n:Nat}(h:(zB n).length≤1):n<4294967296:=by
 have:=Nat.lt_of_lt_of_le (uD n) (Nat.pow_le_pow_right (by decide) h);omega
theorem zTL{d:Nat}(h:(↑(zB (wA d)).length:Int)=1):(zB (wA d)).getD 0 0=d:=by
 by_cases h1:d=1
 · subst h1;rw[cH,yZ] at h;simp at h
 · rw[aR h1] at h ⊢
   have h3:=aM (n:=d) (by omega);have z:d≠0:=yK.1 (by omega);rw[kK z h3];rfl
theorem zPR{d:Nat}(h0:d≠0)(h:¬(↑(zB (wA d)).length:Int)=1)(h1:(zB (wA d)).length≤1):d=1:=by
 by_cases h2:d=1
 · exact h2
 · rw[aR h2] at h h1
   have:=yK.2 h0;omega
theorem zTM{q:Rat}(h:¬(↑(zB (wA q.den)).length:Int)=1)(hs:fY q):q.den=1:=zPR q.den_nz h hs.2
theorem gP{q:Rat}(h:fY q):q.num.natAbs<4294967296:=aM h.1
theorem gQ{q:Rat}(h:fY q):q.den<4294967296:=by
 by_cases h1:q.den=1
 · omega
 · have h2:=h.2
   rw[aR h1] at h2;exact aM h2
noncomputable def pN(q:Rat):Nat:=if fY q then q.num.natAbs else 0
noncomputable def pD(q:Rat):Nat:=if fY q then q.den else 0
theorem zD6{q:Rat}(h:fY q):pN q=q.num.natAbs:=if_pos h
theorem pN_f{q:Rat}(h:¬fY q):pN q=0:=if_neg h
theorem zD7{q:Rat}(h:fY q):pD q=q.den:=if_pos h
theorem pD_f{q:Rat}(h:¬fY q):pD q=0:=if_neg h
theorem aY{n:Nat}:vQ n=0↔n=0:=by
 unfold vQ
 by_cases h:n=0
 · simp[h]
 · simp[h]
theorem mB{Y:Nat}:((↑(zB Y).length:Int)=1∧(zB Y).getD 0 0=1)↔Y=1:=by
 constructor
 · intro⟨h1,h2⟩
   have h3:=aM (n:=Y) (by omega);have z:Y≠0:=yK.1 (by omega);rw[kK z h3] at h2;exact h2
 · intro h
   subst h;rw[kK (by omega) (by omega)];exact⟨rfl,rfl⟩
theorem zFS{n:Nat}(h:¬(1:Int)<↑(vQ n))(h0:n≠0):n=1:=by
 have h1:=nZ n;have h2:=Nat.pow_le_pow_right (n:=2) (by decide) (show vQ n≤1 by omega);omega
theorem wS.fin{h:Mem}{s:Prop}{n d:Nat}{vn vd:Value}(hn0:n≠0)(hd0:d≠0)(hn:Us .u32 h vn (zB (n/Nat.gcd n d)))(hd:Us .u32 h vd (zB (d/Nat.gcd n d)))(h1:¬((↑(zB (d/Nat.gcd n d)).length:Int)=1∧(zB (d/Nat.gcd n d)).getD 0 0=1)):wS h (.agg #[vB s,vn,vd]) (mkRat (sg s n) d):=
 wS.make hn0 hd0 hn (by rw[aR (fun e=>h1 (mB.2 e))];exact hd)
theorem wS.fin1{h:Mem}{s:Prop}{n d:Nat}{vn:Value}(hn0:n≠0)(hd0:d≠0)(hn:Us .u32 h vn (zB (n/Nat.gcd n d)))(h1:(↑(zB (d/Nat.gcd n d)).length:Int)=1∧(zB (d/Nat.gcd n d)).getD 0 0=1):wS h (.agg #[vB s,vn,.slice none 0 0]) (mkRat (sg s n) d):=
 wS.make hn0 hd0 hn (by rw[mB.1 h1,cH,yZ];exact Us.nil _ _)
theorem eM:[1]=zB 1:=(kK (by omega) (by omega)).symm
theorem zGR:(zB 1).length=1:=by rw[←eM];rfl
theorem iD(m n:Nat):(zB (Nat.gcd m n)).length≤max (zB m).length (zB n).length:=by
 by_cases h:m=0
 · subst h;rw[Nat.gcd_zero_left];omega
 · have:=yF (Nat.gcd_le_left n (Nat.pos_of_ne_zero h))
   omega
end Bk
namespace Bk
set_option linter.unusedVariables false
set_option linter.unusedSimpArgs false
open Go Go.RowKit
open Classical
theorem cX{q:Rat}(h:q=0):xC q=0:=if_pos h
theorem dR{q:Rat}(h:q.num<0):xC q= -1:=by
 unfold xC;rw[if_neg (fun e=>by rw[e] at h;exact absurd h (by decide)),if_pos h]
theorem dQ{q:Rat}(h:q≠0)(h':¬q.num<0):xC q=1:=by unfold xC;rw[if_neg h,if_neg h']
theorem zEC{q:Rat}(h:(↑(vQ q.num.natAbs):Int)=0):q=0:=by
 have:=(aY (n:=q.num.natAbs)).1 (by omega);exact Rat.num_eq_zero.1 (by omega)
theorem zEM{q:Rat}(h:q=0):(↑(vQ q.num.natAbs):Int)=0:=by subst h;decide
theorem zLV{a b:Rat}:zB (wA a.den)=zB (wA b.den)↔a.den=b.den:=by
 refine⟨fun h=>?_,fun h=>by rw[h]⟩;have h1:=eP h;have C:=a.den_nz;have z:=b.den_nz;unfold wA at h1
 split at h1<;>split at h1<;>omega
theorem zZM{a b:Rat}(h1:a.num=b.num)(h2:a.den=b.den):a=b:=by
 rw[←Rat.mkRat_self a,←Rat.mkRat_self b,h1,h2]
theorem zHS{a b:Rat}:(((a.num<0↔b.num<0)∧zB a.num.natAbs=zB b.num.natAbs)∧zB (wA a.den)=zB (wA b.den))↔a=b:=by
 refine⟨fun⟨⟨h1,h2⟩,h3⟩=>zZM ?_ (zLV.1 h3),fun h=>by subst h;simp⟩;have:=eP h2;omega
theorem zHN{a b:Rat}(h:¬xC a≠xC b):a.num<0↔b.num<0:=by
 have h:=Classical.not_not.1 h
 by_cases h1:a.num<0<;>by_cases h2:b.num<0
 · simp[h1,h2]
 · rw[dR h1] at h
   by_cases h3:b=0
   · rw[cX h3] at h;omega
   · rw[dQ h3 h2] at h;omega
 · rw[dR h2] at h
   by_cases h3:a=0
   · rw[cX h3] at h;omega
   · rw[dQ h3 h1] at h;omega
 · simp[h1,h2]
def cN(a b:Rat):Int:=sM (a.num.natAbs*b.den) (b.num.natAbs*a.den)
theorem zJP(a b:Rat):-1≤cN a b∧cN a b≤1:=by
 unfold cN sM
 split
 · omega
 · split<;>omega
theorem zNJ{a b:Rat}(h:a.num<0↔b.num<0)(hn:a.num<0):yP a b= -(cN a b):=by rw[zJJ a b h,if_pos hn];rfl
theorem zJK{a b:Rat}(h:a.num<0↔b.num<0)(hn:¬a.num<0):yP a b=cN a b:=by rw[zJJ a b h,if_neg hn];rfl
theorem yBC{a b:Rat}(h:zB (wA a.den)=zB (wA b.den)):cN a b=sM a.num.natAbs b.num.natAbs:=by
 unfold cN sM;rw[zLV.1 h];have z:=Nat.pos_of_ne_zero b.den_nz
 by_cases h1:a.num.natAbs<b.num.natAbs
 · rw[if_pos h1,if_pos (Nat.mul_lt_mul_of_pos_right h1 z)]
 · rw[if_neg h1,if_neg (fun e=>h1 (Nat.lt_of_mul_lt_mul_right e))]
   by_cases h2:a.num.natAbs=b.num.natAbs
   · rw[if_pos h2,h2,if_pos rfl]
   · rw[if_neg h2,if_neg (fun e=>h2 (Nat.eq_of_mul_eq_mul_right z e))]
theorem qD{m n:Nat}(hm:m<4294967296)(hn:n<4294967296):m*n≤18446744065119617025:=by
 have:=Nat.mul_le_mul (show m≤4294967295 by omega) (show n≤4294967295 by omega);omega
noncomputable def sgd(s:Prop)(b:Rat):Rat:=mkRat (sg s b.num.natAbs) b.den
theorem dS(b:Rat):sgd (b.num<0) b=b:=jO b
theorem zVE(b:Rat):sgd (¬b.num<0) b= -b:=by
 unfold sgd;rw[←zZ3,jO]
theorem zSP(s:Prop)(b:Rat):lq (sgd s b)≤lq b:=iC (vH b) (wY b) (zAE b)
theorem zBV{a b:Rat}{s:Prop}(h:(a.num<0)↔s):a+sgd s b=mkRat (sg s (a.num.natAbs*b.den+b.num.natAbs*a.den)) (a.den*b.den):=by
 have:=zSJ s (n:=a.num.natAbs) (m:=b.num.natAbs) a.den_nz b.den_nz;rw[←zGO h a.num.natAbs,jO] at this;exact this
theorem zBJ{a b:Rat}{s:Prop}(h:¬((a.num<0)↔s))(hle:b.num.natAbs*a.den≤a.num.natAbs*b.den):a+sgd s b=mkRat (sg (a.num<0) (a.num.natAbs*b.den-b.num.natAbs*a.den)) (a.den*b.den):=by
 have:=zLB h (n:=a.num.natAbs) (m:=b.num.natAbs) a.den_nz b.den_nz hle;rw[jO] at this;exact this
theorem dM{a b:Rat}{s:Prop}(h:¬((a.num<0)↔s))(hle:a.num.natAbs*b.den≤b.num.natAbs*a.den):a+sgd s b=mkRat (sg s (b.num.natAbs*a.den-a.num.natAbs*b.den)) (a.den*b.den):=by
 have:=zMW h (n:=a.num.natAbs) (m:=b.num.natAbs) a.den_nz b.den_nz hle;rw[jO] at this;exact this
theorem zUG{a b:Rat}{s:Prop}(h:(a.num<0)↔s)(hd:a.den=b.den):a+sgd s b=mkRat (sg s (a.num.natAbs+b.num.natAbs)) a.den:=by
 rw[zBV h,←hd,←Nat.add_mul,zC4 _ _ _ a.den_nz]
theorem zQD{a b:Rat}{s:Prop}(h:¬((a.num<0)↔s))(hd:a.den=b.den)(hle:b.num.natAbs≤a.num.natAbs):a+sgd s b=mkRat (sg (a.num<0) (a.num.natAbs-b.num.natAbs)) a.den:=by
 rw[zBJ h (by rw[←hd];exact Nat.mul_le_mul_right _ hle),←hd,←Nat.sub_mul,zC4 _ _ _ a.den_nz]
theorem zN0{a b:Rat}{s:Prop}(h:¬((a.num<0)↔s))(hd:a.den=b.den)(hle:a.num.natAbs≤b.num.natAbs):a+sgd s b=mkRat (sg s (b.num.natAbs-a.num.natAbs)) a.den:=by
 rw[dM h (by rw[←hd];exact Nat.mul_le_mul_right _ hle),←hd,←Nat.sub_mul,zC4 _ _ _ a.den_nz]
theorem zSG(a b:Rat):mkRat (sg (¬((a.num<0)↔(b.num<0))) (a.num.natAbs*b.num.natAbs)) (a.den*b.den)=a*b:=by
 rw[←zSI,jO,jO]
theorem zRC(a:Rat){b:Rat}(hb:b≠0):mkRat (sg (¬((a.num<0)↔(b.num<0))) (a.num.natAbs*b.den)) (a.den*b.num.natAbs)=a/b:=by
 rw[←zLC _ _ a.den_nz (zCY.2 hb) b.den_nz,jO,jO]
theorem cD{q:Rat}(h:(↑(zB q.num.natAbs).length:Int)=0):q=0:=by
 refine Classical.byContradiction fun z=>?_;have:=yK.2 (zCY.2 z);omega
theorem uC{q:Rat}:xC q=0↔q=0:=by
 refine⟨fun h=>?_,cX⟩;unfold xC at h
 by_cases h1:q=0
 · exact h1
 · rw[if_neg h1] at h;split at h<;>omega
noncomputable def zC5(a b:Rat):Rat:=if b<a then b else a
noncomputable def zBD(a b:Rat):Rat:=if a<b then b else a
noncomputable def zFD:Rat:=mkRat (sg False 1) 2
theorem zWB:lq zFD≤1:=iC (by rw[kK (by omega) (by omega)];simp) (by rw[kK (by omega) (by omega)];simp) (by omega)
theorem zS6:zFD=1/2:=by
 unfold zFD;rw[rU,mV id]
 rfl
noncomputable def zBC(a b:Rat):Rat:=(a+b)*zFD
theorem zZ7(a b:Rat):lq (zBC a b)≤lq a+lq b+2:=by
 have h1:=zC9 (a+b) zFD;have h2:=bU a b;have h3:=zWB;unfold zBC;omega
noncomputable def floorQ(q:Rat):Rat:=((q.floor:Int):Rat)
def kN(k:Int):Nat:=(min (max k 0) 4096).toNat
noncomputable def zXW(q:Rat)(k:Int):Rat:=mkRat (q*(2^kN k:Nat)).floor (2^kN k)
noncomputable def upQ(q:Rat)(k:Int):Rat:=-zXW (-q) k
theorem zMZ(a b:Rat):lq (if b=0 then 0 else a/b)≤lq a+lq b:=by
 have:=zZ6 a b;have h1:=zAE a
 split
 · rw[y8];omega
 · exact this
theorem zQE{p:Prop} [Decidable p](h:(if p then 7 else 0:Int)=0):¬p:=by
 intro z;rw[if_pos z] at h;omega
theorem zQF{p:Prop} [Decidable p](h:¬(if p then 7 else 0:Int)=0):p:=by
 refine Classical.byContradiction fun z=>h ?_;rw[if_neg z]
noncomputable def yDP(q:Rat):Int:=max (↑(vQ q.num.natAbs):Int) ↑(vQ q.den)
theorem kT{n:Int}(h1:-9223372036854775808≤n)(h2:n<9223372036854775808):(zB n.natAbs).length≤2:=kC (by omega)
noncomputable def kG(n d:Int):Rat:=(n:Rat)/(d:Rat)
theorem zC8(n:Int):kG n 0=0:=by
 unfold kG;have:((0:Int):Rat)=0:=rfl;rw[this];grind
theorem zGS(n:Int):mkRat (sg (n<0) n.natAbs) 1=(n:Rat):=by
 have e:sg (n<0) n.natAbs=n:=by
  by_cases h:n<0
  · rw[mT h];omega
  · rw[mU h];omega
 rw[e,Rat.mkRat_one]
theorem zIY{n d:Int}(hd:d≠0):mkRat (sg (¬((n<0)↔(d<0))) n.natAbs) d.natAbs=kG n d:=by
 unfold kG;rw[←zGS n,←zGS d,zLC _ _ (by omega) (by omega) (by omega),Nat.mul_one,Nat.one_mul]
theorem cO(n:Int)(h1:-9223372036854775808≤n)(h2:n<9223372036854775808):lq (n:Rat)≤2:=by
 rw[←zGS];exact iC (kT h1 h2) (by rw[zGR];omega) (by omega)
theorem zGP{n d:Int}(h1:-9223372036854775808≤n)(h2:n<9223372036854775808)(h3:-9223372036854775808≤d)(h4:d<9223372036854775808):lq (kG n d)≤2:=by
 by_cases hd:d=0
 · subst hd;rw[zC8,y8];omega
 · rw[←zIY hd];exact iC (kT h1 h2) (kT h3 h4) (by omega)
def dV(ys:List Nat):Nat:=if ys=[] then 1 else val ys
def zXZ(xs:List Nat):Prop:=xs=[]∨xs.getD (xs.length-1) 0≠0
def badP(xs ys:List Nat):Prop:=((¬zXZ xs)∨(¬zXZ ys))∨((↑ys.length:Int)=1∧ys.getD 0 0=1)
def validP(s:Prop)(xs ys:List Nat):Prop:=¬badP xs ys∧((xs=[]→¬s∧ys=[])∧(xs≠[]→ys=[]∨Nat.gcd (val xs) (val ys)=1))
theorem zI4{xs:List Nat}:(↑xs.length:Int)=0↔xs=[]:=⟨fun h=>List.eq_nil_of_length_eq_zero (by omega),fun h=>by rw[h];rfl⟩
theorem zDI{g:Nat}(h:¬((↑(zB g).length:Int)≠1∨(zB g).getD 0 0≠1)):g=1:=
 mB.1 ⟨Classical.not_not.1 fun e=>h (.inl e),Classical.not_not.1 fun e=>h (.inr e)⟩
theorem zTR{a b:Rat}:(((a.num<0)↔(b.num<0))∧sM a.num.natAbs b.num.natAbs=0)∧sM (wA a.den) (wA b.den)=0↔a=b:=by
 rw[zAO,zAO,←zHS];constructor
 · rintro⟨⟨h1,h2⟩,h3⟩
   exact⟨⟨h1,by rw[h2]⟩,by rw[h3]⟩
 · rintro⟨⟨h1,h2⟩,h3⟩
   exact⟨⟨h1,eP h2⟩,eP h3⟩
theorem zWD{q:Rat}:(↑(zB q.num.natAbs).length:Int)=0↔q=0:=by
 refine⟨cD,fun h=>?_⟩;subst h;rw[show(0:Rat).num.natAbs=0 from rfl,yZ];rfl
theorem zCX{q:Rat}(h:¬(↑(zB q.num.natAbs).length:Int)=0):q≠0:=fun e=>h (zWD.2 e)
theorem zUH{a b:Rat}(h:(a.num<0)↔(b.num<0)):mkRat (sg (a.num<0) (a.num.natAbs*b.den+b.num.natAbs*a.den)) (a.den*b.den)=a+b:=by
 have:=zBV (a:=a) (b:=b) h;rw[dS,zGO h.symm] at this;exact this.symm
theorem yBQ{a b:Rat}(h:¬((a.num<0)↔(b.num<0)))(hle:b.num.natAbs*a.den≤a.num.natAbs*b.den):mkRat (sg (a.num<0) (a.num.natAbs*b.den-b.num.natAbs*a.den)) (a.den*b.den)=a+b:=by
 have:=zBJ (a:=a) (b:=b) h hle;rw[dS] at this;exact this.symm
theorem yBP{a b:Rat}(h:¬((a.num<0)↔(b.num<0)))(hle:a.num.natAbs*b.den≤b.num.natAbs*a.den):mkRat (sg (b.num<0) (b.num.natAbs*a.den-a.num.natAbs*b.den)) (a.den*b.den)=a+b:=by
 have:=dM (a:=a) (b:=b) h hle;rw[dS] at this;exact this.symm
theorem zJW{h:Mem}{v:Value}{n:Int}(s:Us .u32 h v (zB n.natAbs)):Us .u32 h v (zB (n:Rat).num.natAbs):=by
 rw[Rat.num_intCast];exact s
theorem zJX{h:Mem}{n:Int}:Us .u32 h (.slice none 0 0) (zB (wA (n:Rat).den)):=by
 rw[Rat.den_intCast,cH,yZ];exact Us.nil _ _
theorem wS.int{h:Mem}{v:Value}{n:Int}(s:Us .u32 h v (zB n.natAbs)):wS h (.agg #[vB (n<0),v,.slice none 0 0]) (n:Rat):=
 ⟨v,.slice none 0 0,by rw[Rat.num_intCast],zJW s,zJX⟩
theorem zPH:kG 1 2=zFD:=by rw[zS6];rfl
noncomputable def numQ(s:Prop)(xs ys:List Nat):Rat:=mkRat (sg s (val xs)) (dV ys)
end Bk
namespace Bk
set_option linter.unusedVariables false
set_option linter.unusedSimpArgs false
open Go Go.RowKit
theorem zPF{x:Int}(h:(Lit.int .i64 x).wf=true):-9223372036854775808≤x∧x<9223372036854775808:=by
 simp only[Lit.wf,Bool.and_eq_true,decide_eq_true_eq] at h;simp[IntKind.min,IntKind.max,IntKind.signed,IntKind.bits] at h;omega
theorem zFQ{xs:List Nat}(h:∀x∈xs,x<256):byt (uU xs)=xs:=by
 simp only[byt,uU,List.map_map]
 conv=>rhs;rw[←List.map_id xs]
 refine List.map_congr_left fun x z=>?_;simp only[Function.comp,id];exact Nat.mod_eq_of_lt (h x z)
end Bk
namespace Bk
set_option linter.unusedVariables false
set_option linter.unusedSimpArgs false
open Go Go.RowKit
def ByB(bs:List Nat):Prop:=∀x∈bs,x<256
theorem ByB.nil:ByB []:=fun x hx=>by cases hx
theorem ByB.app{a b:List Nat}(ha:ByB a)(hb:ByB b):ByB (a++b):=fun x hx=>(List.mem_append.1 hx).elim (ha x) (hb x)
theorem zNQ(n:Nat):ByB (txt n):=zYO n
theorem zF0(a b:List Nat):uU a++uU b=uU (a++b):=by
 apply ByteArray.ext
 simp[uU]
theorem zER{a b:List Nat}(ha:ByB a)(hb:ByB b):uU a=uU b↔a=b:=
 ⟨fun h=>by rw[←zFQ ha,←zFQ hb,h],fun h=>by rw[h]⟩
section
variable {P:Program}{n:Nat}{w0:World}{h0:Mem}{e:List (Nat×Value)}{L:List Res}{h:Mem}
variable {ds:Option Tmp}{ty:TypeId}{ps:String}{af:Array Edge}{gd:Option (Nat×Bool)}
theorem vD{pa pb:List Nat}{t yt:TypeId}{x y:Operand}(hx:zG e x=some (.string (uU pa)))(hy:zG e y=some (.string (uU pb)))(hlen:pa.length+pb.length≤9223372036854775807):
 OpV P n w0 h0 ⟨ds,.binOp .add t x y yt,ty,ps,af,gd⟩ e L h (.string (uU (pa++pb))):=by
 intro a w z S;have h1:=Us.str_size (xs:=pa);have h2:=Us.str_size (xs:=pb);have h3:¬(((uU pa).size+(uU pb).size:Nat):Int)>IntKind.i64.max:=by
  have:IntKind.i64.max=9223372036854775807:=rfl;rw[this];omega
 have C:(Op.stringOp .add (uU pa) (uU pb)).run P w=.ok (.string (uU (pa++pb))) w:=by
  simp only[Op.stringOp];rw[if_neg h3,zF0]
  rfl
 simp only[execOp,z.eval hx,z.eval hy];simp[eqGuard,binOp,C]
theorem lP{pa pb:List Nat}{t yt:TypeId}{x y:Operand}(ha:ByB pa)(hb:ByB pb)(hx:zG e x=some (.string (uU pa)))(hy:zG e y=some (.string (uU pb))):OpV P n w0 h0 ⟨ds,.binOp .eql t x y yt,ty,ps,af,gd⟩ e L h (vB (pa=pb)):=by
 have:=zKP (P:=P) (n:=n) (w0:=w0) (h0:=h0) (L:=L) (h:=h) (ds:=ds) (ty:=ty) (ps:=ps) (af:=af) (gd:=gd) (t:=t) (yt:=yt) hx hy;rw[jI (zER ha hb)] at this;exact this
theorem zRN{pa pb:List Nat}{t yt:TypeId}{x y:Operand}(ha:ByB pa)(hb:ByB pb)(hx:zG e x=some (.string (uU pa)))(hy:zG e y=some (.string (uU pb))):OpV P n w0 h0 ⟨ds,.binOp .neq t x y yt,ty,ps,af,gd⟩ e L h (vB (pa≠pb)):=by
 have h1:((uU pa).toList==(uU pb).toList)=@decide (uU pa=uU pb) (Classical.propDecidable _):=by
  rw[Bool.eq_iff_iff];simp only[beq_iff_eq,decide_eq_true_eq];exact⟨fun hh=>by
   have h2:(uU pa).data.toList=(uU pb).data.toList:=by
    rwa [ByteArray.toList_eq,ByteArray.toList_eq] at hh
   exact ByteArray.ext (Array.toList_inj.1 h2),fun hh=>by rw[hh]⟩
 rw[←jI (not_congr (zER ha hb))];intro a w z S;simp only[execOp,z.eval hx,z.eval hy,binOp,vB];simp[eqGuard,Op.stringOp,h1]
end
end Bk
namespace Bk
set_option linter.unusedVariables false
set_option linter.unusedSimpArgs false
open Go Go.RowKit
open Classical
noncomputable def qZ(q:Rat):List Nat:=(if q.num<0 then[45] else[])++txt q.num.natAbs++(if wA q.den=0 then[] else[47]++txt (wA q.den))
theorem zTV(q:Rat):ByB (qZ q):=by
 unfold qZ;refine ByB.app (ByB.app ?_ (zNQ _)) ?_
 · split
   · unfold ByB;decide
   · exact ByB.nil
 · split
   · exact ByB.nil
   · exact ByB.app (by unfold ByB;decide) (zNQ _)
theorem zBZ(q:Rat):(qZ q).length≤20*lq q+4:=by
 unfold qZ;have h1:=dF q.num.natAbs;have h2:=dF (wA q.den);have h3:=vH q;have z:=wW q;have G:(if q.num<0 then[45] else([]:List Nat)).length≤1:=by split<;>simp
 have D:(if wA q.den=0 then[] else[47]++txt (wA q.den)).length≤1+(txt (wA q.den)).length:=by split<;>simp<;>omega
 rw[lAz,lAz];have C:(zB (wA q.den)).length≤lq q:=z;omega
theorem pS{q:Rat}:(0:Int)<↑(zB (wA q.den)).length↔¬wA q.den=0:=by
 have:=yK (n:=wA q.den);omega
theorem zUU{q:Rat}(h1:q.num<0)(h2:¬(0:Int)<↑(zB (wA q.den)).length):[45]++txt q.num.natAbs=qZ q:=by
 unfold qZ;rw[if_pos h1,if_pos (Classical.not_not.1 fun e=>h2 (pS.2 e)),List.append_nil]
theorem zYP{q:Rat}(h1:q.num<0)(h2:(0:Int)<↑(zB (wA q.den)).length):[45]++txt q.num.natAbs++([47]++txt (wA q.den))=qZ q:=by
 unfold qZ;rw[if_pos h1,if_neg (pS.1 h2)]
theorem zUW{q:Rat}(h1:¬q.num<0)(h2:¬(0:Int)<↑(zB (wA q.den)).length):txt q.num.natAbs=qZ q:=by
 unfold qZ;rw[if_neg h1,if_pos (Classical.not_not.1 fun e=>h2 (pS.2 e)),List.append_nil,List.nil_append]
theorem zUV{q:Rat}(h1:¬q.num<0)(h2:(0:Int)<↑(zB (wA q.den)).length):txt q.num.natAbs++([47]++txt (wA q.den))=qZ q:=by
 unfold qZ;rw[if_neg h1,if_neg (pS.1 h2),List.nil_append]
def cP:List Nat→Nat
  |[]=>0
  |b::bs=>if 48≤b∧b≤57 then cP bs+1 else 0
noncomputable def exU(s:List Nat):List Nat:=if s.drop 1≠[]∧((s.drop 1).getD 0 0=43∨(s.drop 1).getD 0 0=45) then(s.drop 1).drop 1 else s.drop 1
def yA0(s:List Nat):Prop:=s.drop 1≠[]∧(s.drop 1).getD 0 0=45
def yDF(s:List Nat):Prop:=(s.getD 0 0=101∨s.getD 0 0=69)∧exU s≠[]∧(exU s).length≤3∧cP (exU s)=(exU s).length
noncomputable def exN(s:List Nat):Nat:=if yDF s then hor (exU s) else 0
noncomputable def yAV(s:Prop)(n d:Nat):Int×Rat:=if(2048:Int)<yDP (mkRat (sg s n) d) then(2,0) else(0,mkRat (sg s n) d)
noncomputable def yAW(s:Prop)(n d:Nat)(r:List Nat):Int×Rat:=
 if r=[] then yAV s n d else if yDF r then(if yA0 r then yAV s n (d*10^exN r) else yAV s (n*10^exN r) d) else(4,0)
def yCB(r:List Nat):Prop:=r≠[]∧r.getD 0 0=47
def dot(r:List Nat):Prop:=r≠[]∧r.getD 0 0=46
noncomputable def fin2(s:Prop)(bs:List Nat):Int×Rat:=
 if cP bs=0 then(4,0) else
 if yCB (bs.drop (cP bs)) then
  (if(bs.drop (cP bs)).drop 1=[]∨cP ((bs.drop (cP bs)).drop 1)≠((bs.drop (cP bs)).drop 1).length then(4,0) else if hor ((bs.drop (cP bs)).drop 1)=0 then(3,0) else yAW s (hor (bs.take (cP bs))) (hor ((bs.drop (cP bs)).drop 1)) [])
 else if dot (bs.drop (cP bs)) then
  (if cP ((bs.drop (cP bs)).drop 1)=0 then(4,0) else yAW s (hor (bs.take (cP bs)++((bs.drop (cP bs)).drop 1).take (cP ((bs.drop (cP bs)).drop 1)))) (10^cP ((bs.drop (cP bs)).drop 1)) ((bs.drop (cP bs)).drop (cP ((bs.drop (cP bs)).drop 1)+1)))
 else yAW s (hor (bs.take (cP bs))) 1 (bs.drop (cP bs))
def zRL(bs:List Nat):Prop:=(0:Int)<↑bs.length∧bs.getD 0 0=45
noncomputable def zVW(bs:List Nat):List Nat:=if zRL bs then bs.drop 1 else bs
noncomputable def parQ(bs:List Nat):Int×Rat:=if 4096<bs.length then(2,0) else fin2 (zRL bs) (zVW bs)
end Bk
namespace Bk
set_option linter.unusedVariables false
set_option linter.unusedSimpArgs false
open Go Go.RowKit
open Classical
theorem zUT{n:Nat}(h0:n≠0)(h:n<10):txt n=[48+n]:=by
 unfold txt;rw[if_neg h0,zJN h0,show n/10=0 by omega,zFP,Nat.mod_eq_of_lt h];rfl
end Bk
namespace Bk
set_option linter.unusedVariables false
set_option linter.unusedSimpArgs false
open Go Go.RowKit
open Classical
theorem rN(q:Rat):xC q=if q=0 then 0 else if q<0 then -1 else 1:=by unfold xC;simp only[oN]
theorem zFO(a b:Rat):yP a b= -yP b a:=by unfold yP;grind
theorem zDP(a b:Rat):yP a b=xC (a-b):=by rw[rN];unfold yP;grind
theorem zAD(a b:Rat):a<b∨a=b∨b<a:=by grind
theorem zTS(a b c:Rat):yP (a*c) (b*c)=yP a b*xC c:=by
 rw[rN]
 by_cases h0:c=0
 · subst h0
   have:yP (a*0) (b*0)=0:=bE.2 (by grind);rw[this,if_pos rfl,Int.mul_zero]
 · rw[if_neg h0]
   by_cases hc:c<0
   · rw[if_pos hc]
     rcases zAD a b with h|h|h
     · have h1:b*c<a*c:=by
        have:=Rat.mul_lt_mul_of_pos_right h (c:=-c) (by grind);grind
       unfold yP;grind
     · subst h;unfold yP;simp
     · have h1:a*c<b*c:=by
        have:=Rat.mul_lt_mul_of_pos_right h (c:=-c) (by grind);grind
       unfold yP;grind
   · rw[if_neg hc]
     have z:0<c:=by grind
     rcases zAD a b with h|h|h
     · have h1:=Rat.mul_lt_mul_of_pos_right h z
       unfold yP;grind
     · subst h;unfold yP;simp
     · have h1:=Rat.mul_lt_mul_of_pos_right h z
       unfold yP;grind
theorem eO{x y:Int}(hx:-1≤x∧x≤1)(hy:-1≤y∧y≤1):-1≤x*y∧x*y≤1:=by
 have:x= -1∨x=0∨x=1:=by omega
 rcases this with h|h|h<;>subst h<;>omega
end Bk
namespace Bk
set_option linter.unusedVariables false
set_option linter.unusedSimpArgs false
open Go Go.RowKit
def kH(k:Nat)(v:Value)(lo hi mx:Nat):Value:=
 match v with
 | .slice a _ _=>.slice (if mx=lo then a else a.map (·.add (lo*k))) (hi-lo) (mx-lo)
 |_=>undef
section
variable {P:Program}{n:Nat}{w0:World}{h0:Mem}{e:List (Nat×Value)}{L:List Res}{h:Mem}{Q:Exit→Act→World→Prop}
variable {ds:Option Tmp}{ty:TypeId}{ps:String}{af:Array Edge}{gd:Option (Nat×Bool)}
theorem Sl.sub3{h:Mem}{k:Nat}{v:Value}{m:Nat}{cs:List Value}(s:Sl h k v m cs){lo hi mx:Nat}(h1:lo≤hi)(h2:hi≤mx)(h3:mx≤m):Sl h k (kH k v lo hi mx) (hi-lo) ((cs.drop (lo*k)).take ((hi-lo)*k)):=by
 obtain⟨a,O,rfl,Z,U,M,J⟩:=s;refine⟨_,_,rfl,by omega,by omega,?_,fun i G=>?_⟩
 · rw[List.length_take,List.length_drop,M]
   have:=Nat.mul_le_mul_right k (show lo+(hi-lo)≤m by omega);rw[Nat.add_mul] at this;omega
 · rw[List.length_take,List.length_drop] at G
   have C:i<(hi-lo)*k:=by omega
   have z:0<(hi-lo)*k:=by omega
   have D:lo<hi:=by
    rcases Nat.lt_or_ge lo hi with h'|h'
    · exact h'
    · rw[show hi-lo=0 by omega,Nat.zero_mul] at z;omega
   obtain⟨b,o,I,H⟩:=J (lo*k+i) (by omega);subst I;refine⟨b,o+lo*k,by rw[if_neg (by omega)];simp[qV],?_⟩;rw[List.getElem?_take,if_pos C,List.getElem?_drop,←H,Nat.add_assoc]
theorem Us.sub3{k:IntKind}{h:Mem}{v:Value}{xs:List Nat}(s:Us k h v xs){lo hi mx:Nat}(h1:lo≤hi)(h2:hi≤mx)(h3:mx≤xs.length):Us k h (kH 1 v lo hi mx) ((xs.drop lo).take (hi-lo)):=by
 have:=s.sl.sub3 h1 h2 h3;simp only[Nat.mul_one] at this;refine⟨?_,fun x z=>s.lt x (List.mem_of_mem_drop (List.mem_of_mem_take z))⟩;have C:((xs.drop lo).take (hi-lo)).length=hi-lo:=by rw[List.length_take,List.length_drop];omega
 rw[C]
 simpa[us] using this
theorem St.own_shape{E:Nat}{k:IntKind}{v:Value}{xs:List Nat}{w:World}(S:St w0 h0 L h w)(hm:.us E k v xs∈L):∃a cap,v=.slice a xs.length cap∧xs.length≤cap∧cap≤maxLen∧(0<xs.length→∃g,a=some ⟨g,0,none⟩):=by
 obtain⟨C,z⟩:=S.ok _ hm
 rcases z with⟨rfl,h0'⟩|⟨g,cap,cur,rfl,hb,hg,hn,hcm,hcs,ht⟩
 · exact⟨none,0,by rw[h0'],by omega,by omega,fun h=>by omega⟩
 · exact⟨_,cap,rfl,hn,hcm,fun _=>⟨g,rfl⟩⟩
theorem St.own_self{E:Nat}{k:IntKind}{v:Value}{xs:List Nat}{w:World}(S:St w0 h0 L h w)(hm:.us E k v xs∈L):v=gL 1 v 0 xs.length:=by
 obtain⟨a,z,rfl,h1,h2,h3⟩:=S.own_shape hm;simp only[gL,Nat.zero_mul,Nat.sub_zero]
 by_cases hc:z=0
 · rw[if_pos hc]
 · rw[if_neg hc]
   cases a with
   |none=>rfl
   |some x=>
    obtain⟨b,o,C⟩:=x;simp[Addr.add]
theorem zCI{E:Nat}{k:IntKind}{v:Value}{xs:List Nat}{t E':TypeId}{x lo:Operand}{p:Int}(hm:.us E k v xs∈L)(i:Nat)(ht:P.underlying t=some (.slice E'))(hsz:∀w,(Go.sizeOf E').run P w=.ok 1 w)(hx:zG e x=some v)(hl:zG e lo=some (vI p))
    (hp:p=(i:Int))(h1:i≤xs.length):OpV P n w0 h0 ⟨ds,.slice t x (some lo) none none,ty,ps,af,gd⟩ e L h (gL 1 v i xs.length):=by
 intro a w H S;obtain⟨G,z,C,D,_⟩:=S.own_shape hm;exact qH i ht hsz hx hl ⟨G,z,C,D⟩ hp h1 a w H S
theorem zJ9{t E:TypeId}{w:World}(ht:P.underlying t=some (.slice E))(hsz:∀w,(Go.sizeOf E).run P w=.ok 1 w)(a:Option Addr)(m cap lo hi mx:Nat)(h1:lo≤hi)(h2:hi≤mx)(h3:mx≤cap):
 (Instr.sliceAt t (.slice a m cap) (some (vI lo)) (some (vI hi)) (some (vI mx))).run P w=.ok (kH 1 (.slice a m cap) lo hi mx) w:=by
 simp[Instr.sliceAt,Instr.slice,run_underlying ht,Instr.sliceBounds,Instr.sliceBound,asIntOf,vI,hsz,kH,h1,h2,h3]
theorem zHV{t E:TypeId}{w:World}(ht:P.underlying t=some (.slice E))(hsz:∀w,(Go.sizeOf E).run P w=.ok 1 w)(a:Option Addr)(m cap hi mx:Nat)(h2:hi≤mx)(h3:mx≤cap):
 (Instr.sliceAt t (.slice a m cap) none (some (vI hi)) (some (vI mx))).run P w=.ok (kH 1 (.slice a m cap) 0 hi mx) w:=by
 simp[Instr.sliceAt,Instr.slice,run_underlying ht,Instr.sliceBounds,Instr.sliceBound,asIntOf,vI,hsz,kH,h2,h3]
theorem zD8{E:Nat}{k:IntKind}{v:Value}{xs:List Nat}{t E':TypeId}{x lo hi mx:Operand}{p q r:Int}(hm:.us E k v xs∈L)(i j l:Nat)(ht:P.underlying t=some (.slice E'))(hsz:∀w,(Go.sizeOf E').run P w=.ok 1 w)(hx:zG e x=some v)(hl:zG e lo=some (vI p))(hh:zG e hi=some (vI q))(hmx:zG e mx=some (vI r))
    (hp:p=(i:Int))(hq:q=(j:Int))(hr:r=(l:Int))(h1:i≤j)(h2:j≤l)(h3:l≤xs.length):OpV P n w0 h0 ⟨ds,.slice t x (some lo) (some hi) (some mx),ty,ps,af,gd⟩ e L h (kH 1 v i j l):=by
 subst hp;subst hq;subst hr;intro a w z S;obtain⟨D,C,rfl,G,_⟩:=S.own_shape hm;have:=zJ9 (P:=P) (w:=w) ht hsz D xs.length C i j l h1 h2 (by omega);simp[execOp,z.eval hx,z.eval hl,z.eval hh,z.eval hmx,this]
theorem zCJ{E:Nat}{k:IntKind}{v:Value}{xs:List Nat}{t E':TypeId}{x hi mx:Operand}{q r:Int}(hm:.us E k v xs∈L)(j l:Nat)(ht:P.underlying t=some (.slice E'))(hsz:∀w,(Go.sizeOf E').run P w=.ok 1 w)(hx:zG e x=some v)(hh:zG e hi=some (vI q))(hmx:zG e mx=some (vI r))
    (hq:q=(j:Int))(hr:r=(l:Int))(h2:j≤l)(h3:l≤xs.length):OpV P n w0 h0 ⟨ds,.slice t x none (some hi) (some mx),ty,ps,af,gd⟩ e L h (kH 1 v 0 j l):=by
 subst hq;subst hr;intro a w C S;obtain⟨D,z,rfl,G,_⟩:=S.own_shape hm;have:=zHV (P:=P) (w:=w) ht hsz D xs.length z j l h2 (by omega);simp[execOp,C.eval hx,C.eval hh,C.eval hmx,this]
theorem iB{E:Nat}{k:IntKind}{v u:Value}{xs:List Nat}{t E':TypeId}{x y:Operand}{q:Int}{lo:Nat}(hm:.us E k v xs∈L)(hu:u=gL 1 v lo xs.length)(i:Nat)(ht:P.underlying t=some (.slice E'))(hsz:∀w,(Go.sizeOf E').run P w=.ok 1 w)(hx:zG e x=some u)(hy:zG e y=some (vI q))
    (hq:q=(i:Int))(hi:lo+i<xs.length):OpV P n w0 h0 ⟨ds,.indexAddr t x y,ty,ps,af,gd⟩ e L h (zJ 1 v (lo+i)):=by
 subst hq;subst hu;intro a w D S;obtain⟨M,C,rfl,J,I,H⟩:=S.own_shape hm;obtain⟨g,rfl⟩:=H (by omega);have z:¬C=lo:=by omega
 have h2:(i:Int)<((xs.length-lo:Nat):Int):=by omega
 have h3:(0:Int)≤(i:Int):=by omega
 simp only[gL,if_neg z,Option.map_some,qV,Nat.mul_one,Nat.zero_add] at hx;simp[execOp,D.eval hx,D.eval hy,Instr.indexAt,asIntOf,vI,run_underlying ht,h2,h3,hsz,zJ,qV];intro G;omega
theorem zS8{ops:Array Oper}{l:List Oper}{E:Nat}{k:IntKind}{v:Value}{xs:List Nat}(hm:.us E k v xs∈L)(k':∀a cap,v=.slice a xs.length cap→xs.length≤cap→GL P n w0 h0 ops Q l e L h):GL P n w0 h0 ops Q l e L h:=by
 intro a w G S;obtain⟨D,cap,z,C,_⟩:=S.own_shape hm;exact k' D cap z C a w G S
theorem oQ{ops:Array Oper}{l:List Oper}{A B:List Res}{r:Res}(k':GL P n w0 h0 ops Q l e (r::(A++B)) h):GL P n w0 h0 ops Q l e (A++r::B) h:=
 fun a w Ev S=>k' a w Ev (S.perm List.perm_middle)
theorem zRR{f:Nat}{xs:List Operand}{ts:Array TypeId}{vs:List Value}{v:Value}(hcall:∀w,(callFunc f vs.toArray).run P w=.ok (.value v) w)(hvs:pC e xs vs):
 OpV P n w0 h0 ⟨ds,.call {callee:=.value (.func f),args:=xs.toArray,argTypes:=ts},ty,ps,af,gd⟩ e L h v:=by
 intro a w C S;have z:xs.toArray.map a.eval=vs.toArray:=by rw[List.map_toArray,C.evals hvs]
 simp only[execOp,resolve,Act.eval];simp[Deferred.ofValue,invoke,hcall,z]
theorem kW.nil{ops:Array Oper}:kW P n ops []:=fun x hx=>by cases hx
theorem kW.cons{ops:Array Oper}{i d E:Nat}{cs:List Value}{al:Als}(hop:(ops.getD i default).op=.alloc E)(hd:Nat.ble (d+1) n=true)(hz:∀w,∃z,(zeroValue E).run P w=.ok z w∧z.cells=cs.toArray)(h:kW P n ops al):kW P n ops ((i,(d,E,cs))::al):=by
 intro x G
 rcases List.mem_cons.1 G with rfl|G
 · refine⟨Nat.le_of_ble_eq_true hd,fun a w=>?_,fun I H=>?_⟩
   · obtain⟨z,D,C⟩:=hz w
     simp only[execOp,hop,Instr.alloc,zHF,zPE];simp[D,newVar,newRow,newObj,Sem.run,C]
   · simp only[hop,zPE] at H
     cases H
 · exact h x G
theorem jK{E:TypeId}{i:TypeInfo}{z:Value}{cs:List Value}(hi:P.info? E=some i)(hz:i.zero=some z)(hc:z.cells=cs.toArray)(w:World):∃z,(zeroValue E).run P w=.ok z w∧z.cells=cs.toArray:=
 ⟨z,by simp[zeroValue,typeInfo,hi,hz],hc⟩
theorem sQ{e:List (Nat×Value)}{al:Als}:∀x∈([]:Als),al.lookup x.1=some x.2∧e.lookup x.2.1=none:=fun x hx=>by cases hx
theorem jM{e:List (Nat×Value)}{al al':Als}{y:Nat×(Nat×TypeId×List Value)}(h1:al.lookup y.1=some y.2)(h2:e.lookup y.2.1=none)(h:∀x∈al',al.lookup x.1=some x.2∧e.lookup x.2.1=none):∀x∈y::al',al.lookup x.1=some x.2∧e.lookup x.2.1=none:=by
 intro x z
 rcases List.mem_cons.1 z with rfl|z
 · exact⟨h1,h2⟩
 · exact h x z
end
end Bk
namespace Bk
set_option linter.unusedVariables false
set_option linter.unusedSimpArgs false
open Go Go.RowKit
open Classical
def zX8(h:Mem):List Value→List Rat→Prop
  |cs,[]=>cs=[]
  |cs,q::qs=>∃vn vd rest,cs=vB (q.num<0)::vn::vd::rest∧Us .u32 h vn (zB q.num.natAbs)∧Us .u32 h vd (zB (wA q.den))∧zX8 h rest qs
def IsRats(h:Mem)(v:Value)(qs:List Rat):Prop:=∃cs,v=.agg cs.toArray∧zX8 h cs qs
section
variable {P:Program}{n:Nat}{w0:World}{h0:Mem}{e:List (Nat×Value)}{L:List Res}{h:Mem}{Q:Exit→Act→World→Prop}
variable {ds:Option Tmp}{ty:TypeId}{ps:String}{af:Array Edge}{gd:Option (Nat×Bool)}
def zJT(P:Program)(c:Code)(Q:Exit→Act→World→Prop)(a:Act)(w:World):Prop:=
 ∀(b:Frame) (k:List Item) (cs:List Frame),∃x a' w',Q x a' w'∧Arrives P (lone (b.at a (.code c::.inLoop c::k)) cs w) b k cs x a' w'
theorem zIZ{c:Code}{a:Act}{w:World}(hw:c.wp P (Exit.then (zJT P c Q) Q) a w):zJT P c Q a w:=by
 intro b k cs;obtain⟨x,H,G,D,z⟩:=hw b (.inLoop c::k) cs
 cases x with
 |normal=>
  obtain⟨J,O,M,I,C⟩:=D b k cs;exact⟨J,O,M,I,.of_steps (Steps.trans z (.one step_inLoop)) C⟩
 |exit id=>exact⟨_,H,G,D,.pass (x:=.inLoop c) rfl (fun _ _=>.inl (by simp)) z⟩
 |goto l=>exact⟨_,H,G,D,.pass (x:=.inLoop c) rfl (fun _ _=>.inl (by simp)) z⟩
 |ret=>exact⟨_,H,G,D,.pass (x:=.inLoop c) rfl (fun _ _=>.inl (by simp)) z⟩
 |panic ch=>exact⟨_,H,G,D,.pass (x:=.inLoop c) rfl (fun _ _=>.inl (by simp)) z⟩
 |outgrown=>exact⟨_,H,G,D,.pass (x:=.inLoop c) rfl (fun _ _=>.inl (by simp)) z⟩
theorem fP{c:Code}(k:GC P n w0 h0 c (Exit.then (zJT P c Q) Q) e L h):GC P n w0 h0 (.loop c) Q e L h:=by
 intro a w E S b D cs;obtain⟨x,H,C,G,z⟩:=zIZ (k a w E S) b D cs;exact⟨x,H,C,G,.of_steps (.one step_loop) z⟩
theorem xU{c:Code}(k:GC P n w0 h0 c (Exit.then (zJT P c Q) Q) e L h):GQ n w0 h0 (Exit.then (zJT P c Q) Q) .normal e L h:=
 fun a w E S=>zIZ (k a w E S)
theorem OpV.cv{o:Oper}{v v':Value}(hv:OpV P n w0 h0 o e L h v)(e':v=v'):OpV P n w0 h0 o e L h v':=e'▸hv
end
end Bk
namespace Bk
set_option linter.unusedVariables false
set_option linter.unusedSimpArgs false
open Go Go.RowKit
open Classical
theorem qX{a b:Rat}:yP a b≤0↔a≤b:=by
 have h:=zDQ (a:=a) (b:=b);constructor
 · intro h1
   refine Rat.not_lt.1 fun e=>?_;have:=h.2 e;omega
 · intro h1
   have:¬0<yP a b:=fun e=>Rat.not_lt.2 h1 (h.1 e);omega
theorem zLK(a b:Rat):a≤b∨b≤a:=by grind
def zWK(a b r:Rat):Prop:=a≤r∧r≤b
noncomputable def zXN(a b c d:Rat):Rat:=zC5 (zC5 (zC5 (a*c) (a*d)) (b*c)) (b*d)
noncomputable def zXO(a b c d:Rat):Rat:=zBD (zBD (zBD (a*c) (a*d)) (b*c)) (b*d)
noncomputable def zI6(a:Rat):Rat:=if a=0 then 0 else((1:Int):Rat)/a
noncomputable def yB5(a b:Rat):Rat:=if zWK a b 0 then 0 else zC5 (a*a) (b*b)
noncomputable def yB6(a b:Rat):Rat:=zBD (a*a) (b*b)
theorem zIW{a b c:Rat}(h:a≤b)(hc:0≤c):a*c≤b*c:=Rat.mul_le_mul_of_nonneg_right h hc
theorem g8(x:Rat):0≤x*x:=by
 rcases zLK 0 x with h|h
 · have:=zIW h h;grind
 · have:=zIW (a:=0) (b:=-x) (c:=-x) (by grind) (by grind);grind
noncomputable def yCP(a b c d:Rat):Rat:=if zWK c d 0 then 0 else zXN a b (zC5 (zI6 c) (zI6 d)) (zBD (zI6 c) (zI6 d))
noncomputable def yCQ(a b c d:Rat):Rat:=if zWK c d 0 then 0 else zXO a b (zC5 (zI6 c) (zI6 d)) (zBD (zI6 c) (zI6 d))
noncomputable def quoE(c d:Rat):Int:=if zWK c d 0 then 3 else 0
end Bk
namespace Bk
set_option linter.unusedVariables false
set_option linter.unusedSimpArgs false
open Go Go.RowKit
open Classical
theorem zN1(n:Nat):∃m,m*m≤n∧n<(m+1)*(m+1):=by
 induction n with
 |zero=>exact⟨0,by decide,by decide⟩
 |succ n ih=>
  obtain⟨m,h1,h2⟩:=ih
  by_cases h:(m+1)*(m+1)≤n+1
  · refine⟨m+1,h,?_⟩
    have:(m+1)*(m+1)<(m+1+1)*(m+1+1):=Nat.mul_self_lt_mul_self (by omega);omega
  · exact⟨m,by omega,by omega⟩
noncomputable def sqN(n:Nat):Nat:=Classical.choose (zN1 n)
end Bk
namespace Bk
set_option linter.unusedVariables false
set_option linter.unusedSimpArgs false
open Go Go.RowKit
section
variable {P:Program}{n:Nat}{w0:World}{h0:Mem}{e:List (Nat×Value)}{L:List Res}{h:Mem}
variable {ds:Option Tmp}{ty:TypeId}{ps:String}{af:Array Edge}{gd:Option (Nat×Bool)}
theorem kM{x:Operand}{b k:Nat}(hx:zG e x=some (vP b k)):OpV P n w0 h0 ⟨ds,.nilCheck x,ty,ps,af,gd⟩ e L h (vP b k):=by
 intro a w z S;simp[execOp,z.eval hx]
theorem zV{t E:TypeId}{x y:Operand}{b k m sz:Nat}{q:Int}(i:Nat)(ht:P.underlying t=some (.array m E))(hsz:∀w,(Go.sizeOf E).run P w=.ok sz w)(hx:zG e x=some (vP b k))(hy:zG e y=some (vI q))(hq:q=(i:Int))(hi:i<m):
 OpV P n w0 h0 ⟨ds,.indexAddr t x y,ty,ps,af,gd⟩ e L h (vP b (k+i*sz)):=by
 subst hq;intro a w z S;simp[execOp,z.eval hx,z.eval hy,Instr.indexAt,vI,asIntOf,run_underlying ht,hsz,Instr.sureAddr,hi,qV]
theorem zGF{t E:TypeId}{m sz:Nat}{i:TypeInfo}{z:Value}{parts:List (Nat×Operand)}{ps':List (Nat×Value)}{vs:List Value}(ht:P.underlying t=some (.array m E))(hi:P.info? t=some i)(hz:i.zero=some z)
    (hsz:∀w,(Go.sizeOf E).run P w=.ok sz w)(hp:mO e parts ps')(hf:Instr.fill (fun i=>some (i*sz,sz)) z.cells ps'=some vs.toArray):
    OpV P n w0 h0 ⟨ds,.build t parts.toArray,ty,ps,af,gd⟩ e L h (.agg vs.toArray):=by
 intro a w G S;have D:(parts.toArray.map fun(p:Nat×Operand)=>(p.1,a.eval p.2)).toList=ps':=by
  rw[List.map_toArray];exact hp.eval G
 have C:(zeroValue t).run P w=.ok z w:=by simp[zeroValue,typeInfo,hi,hz]
 simp only[execOp,Instr.build];rw[show(parts.toArray.map fun(i,x)=>(i,a.eval x)).toList=ps' from D];simp only[Sem.run_bind,C,Result.andThen_ok,run_underlying ht,hsz,hf]
 rfl
end
end Bk
namespace Bk
set_option linter.unusedVariables false
set_option linter.unusedSimpArgs false
open Go Go.RowKit
open Classical
structure Is(h:Mem)(v:Value)(xs:List Int):Prop where
 sl:Sl h 1 v xs.length (xs.map vI)
 rng:∀x∈xs,-9223372036854775808≤x∧x<9223372036854775808
theorem Is.mono{h h':Mem}{v:Value}{xs:List Int}(s:Is h v xs)(hh:MLe h h'):Is h' v xs:=⟨s.sl.mono hh,s.rng⟩
theorem Is.nil(h:Mem):Is h (.slice none 0 0) []:=⟨Sl.nil h 1,by simp⟩
theorem Is.one{h:Mem}{v:Value}{xs:List Int}(s:Is h v xs):∃a cap,v=.slice a xs.length cap:=s.sl.one
theorem Is.lt63{h:Mem}{v:Value}{xs:List Int}(s:Is h v xs):xs.length<9223372036854775808:=s.sl.lt63
theorem Is.cells{h:Mem}{v:Value}{xs:List Int}(s:Is h v xs):v.cells=[v].toArray:=by
 obtain⟨a,z,rfl⟩:=s.one
 rfl
theorem is_of_row{w:World}{a:Option Addr}{len cap:Nat}{zs:List Int}
    (h:(a=none∧len=0∧cap=0∧zs=[])∨∃x,a=some x∧len≤cap∧cap≤maxLen∧zs.length=cap∧(∀i,i<zs.length→w.cell? (x.add i)=some (.int .i64 (zs.getD i 0)))∧∀n∈zs,(Lit.int .i64 n).wf=true):
    ∃xs:List Int,Is (mem w) (.slice a len cap) xs:=by
 rcases h with⟨rfl,rfl,rfl,rfl⟩|⟨x,rfl,h1,h2,h3,h4,h5⟩
 · exact⟨[],Is.nil _⟩
 · refine⟨zs.take len,⟨?_,?_⟩⟩
   · have H:(zs.take len).length=len:=by simp;omega
     rw[H];refine⟨_,cap,rfl,h1,h2,by simp;omega,fun i hi=>?_⟩;have C:i<len:=by simp at hi;omega
     have D:=h4 i (by omega);have z:(x.add 0).spot=none:=World.cell?_spot (h4 0 (by omega));obtain⟨b,o,I⟩:=x;simp[Addr.add] at z;subst z;refine⟨b,o,rfl,?_⟩;rw[qV] at D;rw[zEL D,List.getElem?_map,List.getElem?_take,if_pos C,List.getElem?_eq_getElem (by omega)];rw[List.getD_eq_getElem?_getD,List.getElem?_eq_getElem (by omega)]
     rfl
   · intro n G
     exact zPF (h5 n (List.mem_of_mem_take G))
section
variable {P:Program}{n:Nat}{w0:World}{h0:Mem}{e:List (Nat×Value)}{L:List Res}{h:Mem}{Q:Exit→Act→World→Prop}
variable {ds:Option Tmp}{ty:TypeId}{ps:String}{af:Array Edge}{gd:Option (Nat×Bool)}
theorem zEY{v:Value}{xs:List Int}{t E:TypeId}{x:Operand}(ht:P.underlying t=some (.slice E))(hx:zG e x=some v)(hv:Is h v xs):
 OpV P n w0 h0 ⟨ds,.call {callee:=.builtin .len,args:=#[x],argTypes:=#[t]},ty,ps,af,gd⟩ e L h (vI (xs.length:Int)):=lL ht hx hv.one
theorem zH9{v:Value}{xs:List Int}{t E:TypeId}{x y:Operand}{q:Int}(i:Nat)(ht:P.underlying t=some (.slice E))(hsz:∀w,(Go.sizeOf E).run P w=.ok 1 w)(hx:zG e x=some v)(hy:zG e y=some (vI q))
    (hv:Is h v xs)(hq:q=(i:Int))(hi:i<xs.length):OpV P n w0 h0 ⟨ds,.indexAddr t x y,ty,ps,af,gd⟩ e L h (zJ 1 v i):=oI i ht hsz hx hy hv.sl hq hi (by omega)
theorem zKM{v:Value}{xs:List Int}{t:TypeId}{x:Operand}{i:Nat}(ha:∀w,(isAgg t).run P w=.ok false w)(hx:zG e x=some (zJ 1 v i))(hv:Is h v xs)(hi:i<xs.length):
 OpV P n w0 h0 ⟨ds,.load t x,ty,ps,af,gd⟩ e L h (vI (xs.getD i 0)):=
 zCN ha hx hv.sl (by rw[List.getElem?_map,List.getElem?_eq_getElem hi,List.getD_eq_getElem?_getD,List.getElem?_eq_getElem hi];rfl)
theorem zOK{t yt:TypeId}{x y:Operand}{p q:Int}(hx:zG e x=some (vI p))(hy:zG e y=some (vI q))(h3:0<q):
 OpV P n w0 h0 ⟨ds,.binOp .rem t x y yt,ty,ps,af,gd⟩ e L h (vI (p.tmod q)):=by
 intro a w E S;have z:q≠0:=by omega
 simp[execOp,E.eval hx,E.eval hy,vI,xG,binOp,Op.intDiv,z]
end
def zD1(w0:World)(h0:Mem)(h:Mem)(L:List Res)(G:Mem→Value→Res→Prop):Ending→World→Prop:=
 tK w0 h0 (fun g v K=>∃q',(q'::L).Sublist K∧MLe h g∧G g v q')
section
variable {P:Program}{n:Nat}{w0:World}{h0:Mem}{e:List (Nat×Value)}{L:List Res}{h:Mem}{Q:Exit→Act→World→Prop}
variable {ty:TypeId}{ps:String}{af:Array Edge}
theorem kP{ops:Array Oper}{rest:List Oper}{d f:Nat}{xs:List Operand}{ts:Array TypeId}{vs:List Value}{A B:List Res}{q:Res}{G:Mem→Value→Res→Prop}(hcall:∀args w,(callFunc f args).run P w=.ok (.enter f args) w)(hvs:pC e xs vs)
    (hc:∀X w,St w0 h0 (q::X) h w→Calls P f vs.toArray w (zD1 w0 h0 h X G))(hn:Nat.ble (d+1) n=true)(k:∀v g q',MLe h g→G g v q'→GL P n w0 h0 ops Q rest ((d,v)::e) (A++q'::B) g):
    GL P n w0 h0 ops Q (⟨some d,.call {callee:=.value (.func f),args:=xs.toArray,argTypes:=ts},ty,ps,af,none⟩::rest) e (A++q::B) h:=by
 refine oQ ?_;refine aP rfl rfl rfl hn hcall hvs (hc (A++B)) ?_
 rintro v g K ⟨q',C,z,D⟩
 have:=k v g q' z D;exact fun a w H S=>this a w H ((S.sublist C).perm List.perm_middle.symm)
section
variable {ops:Array Oper}{R:List Res}{d:Nat}
theorem iL{W':List (Nat×Value)→List Res→Mem→Prop}{f:Nat}{xs:List Operand}{ts:Array TypeId}{vs:List Value}{A B:List Res}{q:Res}{G:Mem→Value→Res→Prop}(hcall:∀args w,(callFunc f args).run P w=.ok (.enter f args) w)(hvs:pC e xs vs)
    (hc:∀X w,St w0 h0 (q::X) h w→Calls P f vs.toArray w (zD1 w0 h0 h X G))(hn:Nat.ble (d+1) n=true)(hR:∀r∈R,∀q',r∈A++q::B→r∈A++q'::B)
    (k:∀v g q',MLe h g→G g v q'→W' ((d,v)::e) (A++q'::B) g):
    jJ P n w0 h0 ops R ⟨some d,.call {callee:=.value (.func f),args:=xs.toArray,argTypes:=ts},ty,ps,af,none⟩ e (A++q::B) h W':=by
 intro X a w E S;have U:St w0 h0 (q::(A++B++X)) h w:=S.perm (by simp);unfold uZ;rw[if_pos (wn rfl)];have z:xs.toArray.map a.eval=vs.toArray:=by rw[List.map_toArray,E.evals hvs]
 have D:(execOp a.eval ⟨some d,.call {callee:=.value (.func f),args:=xs.toArray,argTypes:=ts},ty,ps,af,none⟩).run P w=.ok (.enter f vs.toArray) w:=by
  simp only[execOp,resolve,Act.eval];simp[Deferred.ofValue,invoke,hcall,z]
 rw[D];refine(hc _ w U).mono ?_
 rintro e' H ⟨v,g,K,rfl,⟨q',J,C,M⟩,Z⟩
 have O:St w0 h0 (A++q'::B++X) g H:=(Z.sublist J).perm (by simpa using List.perm_middle.symm);exact⟨v,rfl,fun d' I=>(by cases I;exact Nat.le_of_ble_eq_true hn),A++q'::B,g,C,fun hh r D=>hR r D q' (hh r D),O,k v g q' C M⟩
theorem zIX{A B:List Res}{q:Res}:∀r∈A++B,r∈A++q::B:=by
 intro r z;simp only[List.mem_append,List.mem_cons] at z ⊢
 rcases z with h|h
 · exact .inl h
 · exact .inr (.inr h)
theorem qT{Q:Exit→Act→World→Prop}{id:Nat}{l:List Oper}{A B:List Res}{q:Res}(m:Nat)(al:Als)(ord:List (Nat×Kd))(hm:P.follows .mixedOrders=true)(hal:kW P n l.toArray al)
    (hchk:(Region.noSelect l.toArray&&rZ l.toArray al&&(al.all fun x=>decide (x.1<m))&&chk l.toArray m ord (Array.replicate l.length false) (al.map (·.1)))=true)(hae:∀x∈al,al.lookup x.1=some x.2∧e.lookup x.2.1=none)
    (k:W P n w0 h0 l.toArray Q (A++B) al ord e (A++q::B) h):GC P n w0 h0 (.region id l.toArray true) Q e (A++q::B) h:=zL m (A++B) al ord hm hal hchk hae zIX k
theorem wP{R A B:List Res}{q:Res}(hR:∀r∈R,r∈A++B):∀r∈R,∀q',r∈A++q::B→r∈A++q'::B:=fun r hr q' _=>zIX r (hR r hr)
end
end
def zEE(p q:Int):Int:=if p.tmod q<0 then p.tmod q+q else p.tmod q
theorem zB2(p:Int){q:Int}(hq:0<q):-q<p.tmod q∧p.tmod q<q:=by
 have h1:=Int.tmod_lt_of_pos p hq;have h2:=Int.tmod_lt_of_pos (-p) hq;rw[Int.neg_tmod] at h2;omega
theorem zLA(p:Int){q:Int}(hq:0<q):0≤zEE p q∧zEE p q<q:=by
 have:=zB2 p hq;unfold zEE
 split<;>omega
def zXK(n:Int):Int:=1+zEE (n.tdiv 17) 12
noncomputable def yCU(n:Int):Rat:=kG (zEE n (zXK n+1)) (zXK n)
end Bk
namespace Bk
set_option linter.unusedVariables false
set_option linter.unusedSimpArgs false
open Go Go.RowKit
open Classical
theorem zPV{v:Value}(h:v.oneCell'=true):v.cells=#[v]:=by cases v<;>simp[Value.oneCell'] at h<;>rfl
structure Rp(α:Type) where
 n:Nat
 agg:Bool
 R:Mem→List Value→α→Prop
 len:∀{h cs x},R h cs x→cs.length=n
 mono:∀{h h' cs x},MLe h h'→R h cs x→R h' cs x
 one:∀{h cs x},R h cs x→cs.all (·.oneCell')=true
 cell:agg=false→n=1
section
variable {α β γ δ:Type}
def Rp.val(ρ:Rp α)(cs:List Value):Value:=if ρ.agg then .agg cs.toArray else cs.headD undef
def Rp.Is(ρ:Rp α)(h:Mem)(v:Value)(x:α):Prop:=∃cs,ρ.R h cs x∧v=ρ.val cs
theorem Rp.Is.mono{ρ:Rp α}{h h':Mem}{v:Value}{x:α}(s:ρ.Is h v x)(hh:MLe h h'):ρ.Is h' v x:=by
 obtain⟨cs,r,e⟩:=s;exact⟨cs,ρ.mono hh r,e⟩
theorem Rp.single{ρ:Rp α}{h:Mem}{cs:List Value}{x:α}(r:ρ.R h cs x)(ha:ρ.agg=false):∃c,cs=[c]∧c.oneCell'=true:=by
 have h1:=ρ.len r;have h2:=ρ.one r;rw[ρ.cell ha] at h1
 match cs,h1 with
 |[c],_=>exact⟨c,rfl,by simpa using h2⟩
theorem Rp.cells_val{ρ:Rp α}{h:Mem}{cs:List Value}{x:α}(r:ρ.R h cs x):(ρ.val cs).cells=cs.toArray:=by
 unfold Rp.val
 split
 · rfl
 · rename_i ha
   obtain⟨c,rfl,z⟩:=Rp.single r (by simpa using ha);exact zPV z
theorem Rp.Is.cells{ρ:Rp α}{h:Mem}{v:Value}{x:α}(s:ρ.Is h v x):∃cs,ρ.R h cs x∧v.cells=cs.toArray:=by
 obtain⟨cs,r,rfl⟩:=s;exact⟨cs,r,Rp.cells_val r⟩
theorem Rp.Is.cast{ρ:Rp α}{h:Mem}{v:Value}{x y:α}(s:ρ.Is h v x)(e:x=y):ρ.Is h v y:=e▸s
def RL(ρ:Rp α)(h:Mem):List Value→List α→Prop
  |cs,[]=>cs=[]
  |cs,x::xs=>∃a b,cs=a++b∧ρ.R h a x∧RL ρ h b xs
theorem RL.len{ρ:Rp α}{h:Mem}:∀{xs:List α} {cs:List Value},RL ρ h cs xs→cs.length=xs.length*ρ.n
  |[],_,r=>by rw[r];simp
  |x::xs,_,⟨a,b,e,r,s⟩=>by rw[e,lAz,ρ.len r,s.len,lC,Nat.add_mul];omega
theorem RL.mono{ρ:Rp α}{h h':Mem}(hh:MLe h h'):∀{xs:List α} {cs:List Value},RL ρ h cs xs→RL ρ h' cs xs
  |[],_,r=>r
  |_::_,_,⟨a,b,e,r,s⟩=>⟨a,b,e,ρ.mono hh r,s.mono hh⟩
theorem RL.one{ρ:Rp α}{h:Mem}:∀{xs:List α} {cs:List Value},RL ρ h cs xs→cs.all (·.oneCell')=true
  |[],_,r=>by rw[r];rfl
  |_::_,_,⟨a,b,e,r,s⟩=>by rw[e,List.all_append,ρ.one r,s.one];rfl
theorem RL.append{ρ:Rp α}{h:Mem}:∀{xs ys:List α} {cs ds:List Value},RL ρ h cs xs→RL ρ h ds ys→RL ρ h (cs++ds) (xs++ys)
  |[],_,_,_,r,s=>by rw[r];exact s
  |_::_,_,_,_,⟨a,b,e,r,s⟩,t=>⟨a,_,by rw[e,List.append_assoc],r,s.append t⟩
theorem RL.nil{ρ:Rp α}{h:Mem}:RL ρ h [] []:=rfl
theorem RL.drop{ρ:Rp α}{h:Mem}:∀{xs:List α} {cs:List Value} (i:Nat),RL ρ h cs xs→RL ρ h (cs.drop (i*ρ.n)) (xs.drop i)
  |_,_,0,r=>by simpa using r
  |[],_,i+1,r=>by rw[r];simp[RL]
  |_::xs,_,i+1,⟨a,b,e,r,s⟩=>by
   rw[e,show(i+1)*ρ.n=a.length+i*ρ.n by rw[ρ.len r,Nat.add_mul];omega,←List.drop_drop,List.drop_left];exact s.drop i
theorem RL.take{ρ:Rp α}{h:Mem}:∀{xs:List α} {cs:List Value} (i:Nat),RL ρ h cs xs→RL ρ h (cs.take (i*ρ.n)) (xs.take i)
  |_,_,0,r=>by simp[RL]
  |[],_,i+1,r=>by rw[r];simp[RL]
  |_::xs,_,i+1,⟨a,b,e,r,s⟩=>by
   rw[e,show(i+1)*ρ.n=a.length+i*ρ.n by rw[ρ.len r,Nat.add_mul];omega,List.take_length_add_append];exact⟨a,_,rfl,r,s.take i⟩
theorem RL.get{ρ:Rp α}{h:Mem}{xs:List α}{cs:List Value}{i:Nat}{x:α}(r:RL ρ h cs xs)(hx:xs[i]?=some x):ρ.R h ((cs.drop (i*ρ.n)).take ρ.n) x:=by
 have h1:=r.drop i;obtain⟨hi,e⟩:=List.getElem?_eq_some_iff.1 hx;rw[List.drop_eq_getElem_cons hi,e] at h1;obtain⟨a,b,C,z,_⟩:=h1;rw[C,←ρ.len z,List.take_left];exact z
theorem RL.set{ρ:Rp α}{h:Mem}{xs:List α}{cs ds:List Value}{i:Nat}{y:α}(r:RL ρ h cs xs)(hi:i<xs.length)(hd:ρ.R h ds y):RL ρ h (cs.take (i*ρ.n)++ds++cs.drop (i*ρ.n+ρ.n)) (xs.set i y):=by
 have h1:=r.take i;have h2:=r.drop (i+1);rw[Nat.add_mul,Nat.one_mul] at h2;rw[List.set_eq_take_append_cons_drop,if_pos hi,List.append_assoc];exact h1.append ⟨ds,_,rfl,hd,h2⟩
def rpQ(k:Nat):Rp Rat where
 n:=3
 agg:=true
 R h cs q:=(∃vn vd,cs=[vB (q.num<0),vn,vd]∧Us .u32 h vn (zB q.num.natAbs)∧Us .u32 h vd (zB (wA q.den)))∧lq q≤k
 len:=by rintro h cs q ⟨⟨vn,vd,rfl,_⟩,_⟩;rfl
 mono:=by
  rintro h h' cs q hh ⟨⟨vn,vd,rfl,h1,h2⟩,h3⟩
  exact⟨⟨vn,vd,rfl,h1.mono hh,h2.mono hh⟩,h3⟩
 one:=by
  rintro h cs q ⟨⟨vn,vd,rfl,h1,h2⟩,h3⟩
  exact ocr rfl (ocu h1 (ocu h2 oc0))
 cell:=by simp
def rpI:Rp Int where
 n:=1
 agg:=false
 R _ cs z:=cs=[vI z]∧-9223372036854775808≤z∧z<9223372036854775808
 len:=by rintro h cs z ⟨rfl,_⟩;rfl
 mono:=fun _ r=>r
 one:=by rintro h cs z ⟨rfl,_⟩;rfl
 cell:=fun _=>rfl
def rpB:Rp Prop where
 n:=1
 agg:=false
 R _ cs p:=cs=[vB p]
 len:=by rintro h cs p rfl;rfl
 mono:=fun _ r=>r
 one:=by rintro h cs p rfl;rfl
 cell:=fun _=>rfl
def rpP(ρ:Rp α)(σ:Rp β):Rp (α×β) where
 n:=ρ.n+σ.n
 agg:=true
 R h cs x:=∃a b,cs=a++b∧ρ.R h a x.1∧σ.R h b x.2
 len:=by rintro h cs x ⟨a,b,rfl,h1,h2⟩;rw[lAz,ρ.len h1,σ.len h2]
 mono:=by rintro h h' cs x hh ⟨a,b,rfl,h1,h2⟩;exact⟨a,b,rfl,ρ.mono hh h1,σ.mono hh h2⟩
 one:=by rintro h cs x ⟨a,b,rfl,h1,h2⟩;rw[List.all_append,ρ.one h1,σ.one h2];rfl
 cell:=by simp
@[ext] structure T3(α:Type) where
 x:α
 y:α
 z:α
abbrev zT:T3 Rat:=T3.mk (0:Rat) 0 0
def T3.at(p:T3 α):Nat→α
  |0=>p.x
  |1=>p.y
  |_=>p.z
def T3.set(p:T3 α):Nat→α→T3 α
  |0,a=>⟨a,p.y,p.z⟩
  |1,a=>⟨p.x,a,p.z⟩
  |_,a=>⟨p.x,p.y,a⟩
def rpT(ρ:Rp α):Rp (T3 α) where
 n:=ρ.n+(ρ.n+ρ.n)
 agg:=true
 R h cs p:=(rpP ρ (rpP ρ ρ)).R h cs (p.x,p.y,p.z)
 len:=fun r=>(rpP ρ (rpP ρ ρ)).len r
 mono:=fun hh r=>(rpP ρ (rpP ρ ρ)).mono hh r
 one:=fun r=>(rpP ρ (rpP ρ ρ)).one r
 cell:=by simp
def rpA(k:Nat)(ρ:Rp α):Rp (List α) where
 n:=k*ρ.n
 agg:=true
 R h cs xs:=xs.length=k∧RL ρ h cs xs
 len:=by rintro h cs xs ⟨rfl,r⟩;exact r.len
 mono:=fun hh r=>⟨r.1,r.2.mono hh⟩
 one:=fun r=>r.2.one
 cell:=by simp
def rpS(ρ:Rp α):Rp (List α) where
 n:=1
 agg:=false
 R h cs xs:=∃v ds,cs=[v]∧Sl h ρ.n v xs.length ds∧RL ρ h ds xs
 len:=by rintro h cs xs ⟨v,ds,rfl,_⟩;rfl
 mono:=by rintro h h' cs xs hh ⟨v,ds,rfl,h1,h2⟩;exact⟨v,ds,rfl,h1.mono hh,h2.mono hh⟩
 one:=by
  rintro h cs xs ⟨v,ds,rfl,h1,h2⟩
  obtain⟨a,cap,rfl⟩:=h1.one
  rfl
 cell:=fun _=>rfl
theorem jD{h:Mem}{z:Int}(h1:-9223372036854775808≤z)(h2:z<9223372036854775808):rpI.Is h (vI z) z:=⟨_,⟨rfl,h1,h2⟩,rfl⟩
theorem jZ{h:Mem}{v:Value}{z:Int}(s:rpI.Is h v z):v=vI z∧-9223372036854775808≤z∧z<9223372036854775808:=by
 obtain⟨cs,⟨rfl,h1,h2⟩,rfl⟩:=s;exact⟨rfl,h1,h2⟩
theorem yC6{h:Mem}(p:Prop):rpB.Is h (vB p) p:=⟨_,rfl,rfl⟩
theorem zZW{h:Mem}{v:Value}{p:Prop}(s:rpB.Is h v p):v=vB p:=by
 obtain⟨cs,rfl,rfl⟩:=s
 rfl
theorem w6{h:Mem}{v:Value}{q:Rat}{k:Nat}(s:wS h v q)(hk:lq q≤k):(rpQ k).Is h v q:=by
 obtain⟨z,C,rfl,h1,h2⟩:=s;exact⟨_,⟨⟨z,C,rfl,h1,h2⟩,hk⟩,rfl⟩
theorem uX{h:Mem}{v:Value}{q:Rat}{k:Nat}(s:(rpQ k).Is h v q):∃vn vd,v=.agg #[vB (q.num<0),vn,vd]∧Us .u32 h vn (zB q.num.natAbs)∧Us .u32 h vd (zB (wA q.den))∧lq q≤k:=by
 obtain⟨cs,⟨⟨vn,vd,rfl,h1,h2⟩,z⟩,rfl⟩:=s;exact⟨vn,vd,rfl,h1,h2,z⟩
theorem zWG{ρ:Rp α}{h:Mem}{v:Value}{xs:List α}{ds:List Value}(s:Sl h ρ.n v xs.length ds)(r:RL ρ h ds xs):(rpS ρ).Is h v xs:=⟨_,⟨v,ds,rfl,s,r⟩,rfl⟩
theorem zOO{ρ:Rp α}{h:Mem}{v:Value}{xs:List α}(s:(rpS ρ).Is h v xs):∃ds,Sl h ρ.n v xs.length ds∧RL ρ h ds xs:=by
 obtain⟨cs,⟨v,ds,rfl,h1,h2⟩,rfl⟩:=s;exact⟨ds,h1,h2⟩
theorem mD{ρ:Rp α}(h:Mem):(rpS ρ).Is h (.slice none 0 0) []:=zWG (Sl.nil h _) rfl
theorem yCK{ρ:Rp α}{h:Mem}{v:Value}{xs:List α}(s:(rpS ρ).Is h v xs):xs.length<9223372036854775808:=by
 obtain⟨ds,h1,_⟩:=zOO s;exact h1.lt63
theorem yCJ{ρ:Rp α}{h:Mem}{v:Value}{xs:List α}(s:(rpS ρ).Is h v xs):∃a cap,v=.slice a xs.length cap:=by
 obtain⟨ds,h1,_⟩:=zOO s;exact h1.one
structure Le(ρ σ:Rp α):Prop where
 n:ρ.n=σ.n
 agg:ρ.agg=σ.agg
 R:∀{h cs x},ρ.R h cs x→σ.R h cs x
theorem Le.refl(ρ:Rp α):Le ρ ρ:=⟨rfl,rfl,id⟩
theorem Le.q{k l:Nat}(h:k≤l):Le (rpQ k) (rpQ l):=⟨rfl,rfl,fun⟨a,b⟩=>⟨a,Nat.le_trans b h⟩⟩
theorem Le.p{ρ ρ':Rp α}{σ σ':Rp β}(h:Le ρ ρ')(k:Le σ σ'):Le (rpP ρ σ) (rpP ρ' σ'):=⟨by show ρ.n+σ.n=ρ'.n+σ'.n;rw[h.n,k.n],rfl,fun⟨a,b,e,r,s⟩=>⟨a,b,e,h.R r,k.R s⟩⟩
theorem Le.t{ρ ρ':Rp α}(h:Le ρ ρ'):Le (rpT ρ) (rpT ρ'):=⟨by show ρ.n+(ρ.n+ρ.n)=ρ'.n+(ρ'.n+ρ'.n);rw[h.n],rfl,fun r=>(Le.p h (Le.p h h)).R r⟩
theorem Le.rl{ρ ρ':Rp α}(h:Le ρ ρ'){m:Mem}:∀{xs:List α} {cs:List Value},RL ρ m cs xs→RL ρ' m cs xs
  |[],_,r=>r
  |_::_,_,⟨a,b,e,r,s⟩=>⟨a,b,e,h.R r,h.rl s⟩
theorem Le.a{k:Nat}{ρ ρ':Rp α}(h:Le ρ ρ'):Le (rpA k ρ) (rpA k ρ'):=⟨by show k*ρ.n=k*ρ'.n;rw[h.n],rfl,fun r=>⟨r.1,h.rl r.2⟩⟩
theorem Le.s{ρ ρ':Rp α}(h:Le ρ ρ'):Le (rpS ρ) (rpS ρ'):=⟨rfl,rfl,fun⟨v,ds,e,s,r⟩=>⟨v,ds,e,h.n▸s,h.rl r⟩⟩
theorem Rp.Is.le{ρ σ:Rp α}{h:Mem}{v:Value}{x:α}(s:ρ.Is h v x)(k:Le ρ σ):σ.Is h v x:=by
 obtain⟨cs,r,rfl⟩:=s;exact⟨cs,k.R r,by unfold Rp.val;rw[k.agg]⟩
structure Pc(ρ:Rp α)(off:Nat)(σ:Rp β)(g:α→β)(s:α→β→α):Prop where
 fits:off+σ.n≤ρ.n
 get:∀{h cs x},ρ.R h cs x→σ.R h ((cs.drop off).take σ.n) (g x)
 set:∀{h cs x ds y},ρ.R h cs x→σ.R h ds y→ρ.R h (cs.take off++ds++cs.drop (off+σ.n)) (s x y)
theorem Pc.here(ρ:Rp α):Pc ρ 0 ρ (fun x=>x) (fun _ y=>y):=by
 refine⟨by omega,fun r=>?_,fun{h cs x ds y} r s=>?_⟩
 · have:=ρ.len r
   rw[List.drop_zero,←this,List.take_length];exact r
 · have:=ρ.len r
   rw[Nat.zero_add,←this,List.drop_length,List.take_zero,List.nil_append,List.append_nil];exact s
theorem Pc.fst{ρ:Rp α}{σ:Rp β}{τ:Rp γ}{off:Nat}{g:α→γ}{s:α→γ→α}(p:Pc ρ off τ g s):Pc (rpP ρ σ) off τ (fun x=>g x.1) (fun x y=>(s x.1 y,x.2)):=by
 have H:=p.fits;refine⟨by show off+τ.n≤ρ.n+σ.n;omega,?_,?_⟩
 · rintro h cs x ⟨a,b,rfl,z,C⟩
   have G:=ρ.len z;have:=p.get z
   rwa [List.drop_append_of_le_length (by omega),List.take_append_of_le_length (by rw[List.length_drop];omega)]
 · rintro h cs x ds y ⟨a,b,rfl,z,C⟩ D
   have G:=ρ.len z;refine⟨_,b,?_,p.set z D,C⟩;rw[List.take_append_of_le_length (by omega),List.drop_append_of_le_length (by omega)];simp[List.append_assoc]
theorem Pc.snd{ρ:Rp α}{σ:Rp β}{τ:Rp γ}{off:Nat}{g:β→γ}{s:β→γ→β}(p:Pc σ off τ g s):Pc (rpP ρ σ) (ρ.n+off) τ (fun x=>g x.2) (fun x y=>(x.1,s x.2 y)):=by
 have H:=p.fits;refine⟨by show ρ.n+off+τ.n≤ρ.n+σ.n;omega,?_,?_⟩
 · rintro h cs x ⟨a,b,rfl,z,C⟩
   have D:=ρ.len z;have:=p.get C
   rwa [←D,←List.drop_drop,List.drop_left]
 · rintro h cs x ds y ⟨a,b,rfl,z,C⟩ G
   have D:=ρ.len z;refine⟨a,_,?_,z,p.set C G⟩;rw[←D,List.take_length_add_append,Nat.add_assoc,←List.drop_drop,List.drop_left];simp[List.append_assoc]
theorem Pc.tx{ρ:Rp α}{τ:Rp γ}{off:Nat}{g:α→γ}{s:α→γ→α}(p:Pc ρ off τ g s):Pc (rpT ρ) off τ (fun x=>g x.x) (fun x y=>⟨s x.x y,x.y,x.z⟩):=by
 have q:Pc (rpP ρ (rpP ρ ρ)) off τ _ _:=p.fst;exact⟨q.fits,fun r=>q.get r,fun r d=>q.set r d⟩
theorem Pc.ty{ρ:Rp α}{τ:Rp γ}{off:Nat}{g:α→γ}{s:α→γ→α}(p:Pc ρ off τ g s):Pc (rpT ρ) (ρ.n+off) τ (fun x=>g x.y) (fun x y=>⟨x.x,s x.y y,x.z⟩):=by
 have q:Pc (rpP ρ (rpP ρ ρ)) (ρ.n+off) τ _ _:=(Pc.fst (σ:=ρ) p).snd;exact⟨q.fits,fun r=>q.get r,fun r d=>q.set r d⟩
theorem Pc.tz{ρ:Rp α}{τ:Rp γ}{off:Nat}{g:α→γ}{s:α→γ→α}(p:Pc ρ off τ g s):Pc (rpT ρ) (ρ.n+(ρ.n+off)) τ (fun x=>g x.z) (fun x y=>⟨x.x,x.y,s x.z y⟩):=by
 have q:Pc (rpP ρ (rpP ρ ρ)) (ρ.n+(ρ.n+off)) τ _ _:=(Pc.snd (ρ:=ρ) p).snd;exact⟨q.fits,fun r=>q.get r,fun r d=>q.set r d⟩
theorem Pc.ta{ρ:Rp α}{τ:Rp γ}{off:Nat}{g:α→γ}{s:α→γ→α}(p:Pc ρ off τ g s)(i:Nat)(hi:i<3):Pc (rpT ρ) (i*ρ.n+off) τ (fun x=>g (x.at i)) (fun x y=>x.set i (s (x.at i) y)):=by
 match i,hi with
 |0,_=>rw[Nat.zero_mul,Nat.zero_add];exact p.tx
 |1,_=>rw[Nat.one_mul];exact p.ty
 |2,_=>rw[show 2*ρ.n+off=ρ.n+(ρ.n+off) by omega];exact p.tz
theorem Pc.arr{ρ:Rp α}{τ:Rp γ}{off k:Nat}{g:α→γ}{s:α→γ→α}(p:Pc ρ off τ g s)(d:α)(i:Nat)(hi:i<k):Pc (rpA k ρ) (i*ρ.n+off) τ (fun x=>g (x.getD i d)) (fun x y=>x.set i (s (x.getD i d) y)):=by
 have O:=p.fits;have M:i*ρ.n+ρ.n≤k*ρ.n:=by rw[←Nat.succ_mul];exact Nat.mul_le_mul_right _ hi
 have C:∀{x:List α},x.length=k→x[i]?=some (x.getD i d):=by
  intro x z;rw[List.getD_eq_getElem?_getD,List.getElem?_eq_getElem (by omega)];rfl
 refine⟨by show i*ρ.n+off+τ.n≤k*ρ.n;omega,?_,?_⟩
 · rintro h cs x ⟨z,r⟩
   have h1:=p.get (r.get (C z));rw[List.drop_take,List.take_take,Nat.min_eq_left (by omega),List.drop_drop] at h1;exact h1
 · rintro h cs x ds y ⟨z,r⟩ G
   have H:=r.len;rw[z] at H;refine⟨by simpa using z,?_⟩;have h1:=r.set (i:=i) (by omega) (p.set (r.get (C z)) G);have e:cs.take (i*ρ.n)++(((cs.drop (i*ρ.n)).take ρ.n).take off++ds++((cs.drop (i*ρ.n)).take ρ.n).drop (off+τ.n))++cs.drop (i*ρ.n+ρ.n)=cs.take (i*ρ.n+off)++ds++cs.drop (i*ρ.n+off+τ.n):=by
    rw[List.take_take,Nat.min_eq_left (by omega),List.drop_take,List.drop_drop];have J:cs.take (i*ρ.n+off)=cs.take (i*ρ.n)++(cs.drop (i*ρ.n)).take off:=List.take_add;have I:cs.drop (i*ρ.n+off+τ.n)=(cs.drop (i*ρ.n+(off+τ.n))).take (ρ.n-(off+τ.n))++cs.drop (i*ρ.n+ρ.n):=by
     have D:=List.take_append_drop (ρ.n-(off+τ.n)) (cs.drop (i*ρ.n+(off+τ.n)));rw[List.drop_drop,show i*ρ.n+(off+τ.n)+(ρ.n-(off+τ.n))=i*ρ.n+ρ.n by omega] at D;rw[Nat.add_assoc (i*ρ.n)];exact D.symm
    rw[J,I];simp[List.append_assoc]
   rw[←e];exact h1
theorem yN{k:Nat}{h:Mem}(hk:1≤k):(rpQ k).R h [.bool false,.slice none 0 0,.slice none 0 0] 0:=by
 refine⟨⟨_,_,?_,zAU h,zAV h⟩,by rw[y8];exact hk⟩;rw[yJ (show ¬(0:Rat).num<0 by decide)]
theorem wD{h:Mem}:rpI.R h [.int .i64 0] 0:=⟨rfl,by decide,by decide⟩
theorem zNT{h:Mem}:rpB.R h [.bool false] False:=by show _=_;rw[yJ (p:=False) id]
theorem yI{ρ:Rp α}{σ:Rp β}{h:Mem}{a b:List Value}{x:α}{y:β}(r:ρ.R h a x)(s:σ.R h b y):(rpP ρ σ).R h (a++b) (x,y):=⟨a,b,rfl,r,s⟩
theorem wB{ρ:Rp α}{h:Mem}{a:List Value}{x:α}(r:ρ.R h a x):(rpT ρ).R h (a++(a++a)) ⟨x,x,x⟩:=⟨a,_,rfl,r,a,a,rfl,r,r⟩
theorem uV{ρ:Rp α}{h:Mem}:(rpS ρ).R h [.slice none 0 0] []:=⟨_,[],rfl,Sl.nil h _,rfl⟩
theorem zHB{ρ:Rp α}{h:Mem}{a:List Value}{x:α}(k:Nat)(r:ρ.R h a x):(rpA k ρ).R h (List.replicate k a).flatten (List.replicate k x):=by
 refine⟨List.length_replicate,?_⟩
 induction k with
 |zero=>rfl
 |succ k ih=>rw[List.replicate_succ,List.replicate_succ];exact⟨a,_,rfl,r,ih⟩
end
end Bk
namespace Bk
set_option linter.unusedVariables false
set_option linter.unusedSimpArgs false
open Go Go.RowKit
open Classical
structure TyOk(P:Program)(t:TypeId)(n:Nat)(agg:Bool):Prop where
 sz:∀w,(Go.sizeOf t).run P w=.ok n w
 ag:∀w,(isAgg t).run P w=.ok agg w
section
variable {α β γ:Type}
variable {P:Program}{n:Nat}{w0:World}{h0:Mem}{e:List (Nat×Value)}{L:List Res}{h:Mem}{Q:Exit→Act→World→Prop}
variable {ds:Option Tmp}{ty:TypeId}{ps:String}{af:Array Edge}{gd:Option (Nat×Bool)}
theorem zCG:∀(vs:List Value) (k:Nat) (cs:List Value),k+vs.length≤cs.length→iA cs k vs=cs.take k++vs++cs.drop (k+vs.length):=by
 have key:∀(vs:List Value) (j k:Nat) (cs:List Value),k+j+vs.length≤cs.length→(vs.zipIdx j).foldl (fun c p=>c.set (k+p.2) p.1) cs=cs.take (k+j)++vs++cs.drop (k+j+vs.length):=by
  intro vs
  induction vs with
  |nil=>intro j k cs hl;simp
  |cons v vs ih=>
   intro j k cs hl;simp only[lC] at hl;rw[List.zipIdx_cons,List.foldl_cons,ih (j+1) k _ (by rw[lS];omega)];rw[List.set_eq_take_append_cons_drop,if_pos (by omega)];have h1:(cs.take (k+j)).length=k+j:=by rw[List.length_take];omega
   have e1:(cs.take (k+j)++v::cs.drop (k+j+1)).take (k+(j+1))=cs.take (k+j)++[v]:=by
    rw[show k+(j+1)=(cs.take (k+j)).length+1 by omega,List.take_length_add_append];rfl
   have e2:(cs.take (k+j)++v::cs.drop (k+j+1)).drop (k+(j+1)+vs.length)=cs.drop (k+j+(vs.length+1)):=by
    rw[show k+(j+1)+vs.length=(cs.take (k+j)).length+(vs.length+1) by omega,←List.drop_drop,List.drop_left,List.drop_succ_cons,List.drop_drop]
    congr 1;omega
   rw[e1,e2];simp
 intro vs k cs hl;exact key vs 0 k cs (by omega)
def OpX(P:Program)(n:Nat)(w0:World)(h0:Mem)(o:Oper)(e:List (Nat×Value))(R:List Res)(h:Mem)(F:Value→Prop):Prop:=
 ∃v,(∀L' h',MLe h h'→(∀r∈R,r∈L')→OpV P n w0 h0 o e L' h' v)∧F v
theorem zGW{ops:Array Oper}{rest:List Oper}{d:Nat}{op:Op}{R:List Res}{F:Value→Prop}(hv:OpX P n w0 h0 ⟨some d,op,ty,ps,af,none⟩ e R h F)(hR:∀r∈R,r∈L)(hn:Nat.ble (d+1) n=true)
    (k:∀v,F v→GL P n w0 h0 ops Q rest ((d,v)::e) L h):GL P n w0 h0 ops Q (⟨some d,op,ty,ps,af,none⟩::rest) e L h:=by
 obtain⟨v,hv,z⟩:=hv;exact mG (hv L h (MLe.refl h) hR) rfl rfl hn (k v z)
section
variable {ops:Array Oper}{RR:List Res}{al:Als}{d i:Nat}{op:Op}{v:Value}{r:List (Nat×Kd)}{g t:Nat}{b:Bool}
theorem mS{R:List Res}{F:Value→Prop}(ho:ops.getD i default=⟨some d,op,ty,ps,af,none⟩)(hv:OpX P n w0 h0 ⟨some d,op,ty,ps,af,none⟩ e R h F)(hR:∀r∈R,r∈RR)(hn:Nat.ble (d+1) n=true)
    (k:∀v,F v→W P n w0 h0 ops Q RR al r ((d,v)::e) L h):W P n w0 h0 ops Q RR al ((i,.q)::r) e L h:=by
 obtain⟨v,hv,D⟩:=hv;exact w_q ho (fun h' L' hh C=>hv L' h' hh fun r z=>C r (hR r z)) hn (k v D)
theorem x_qx{K:List (Nat×Value)→List Res→Mem→Prop}{R:List Res}{F:Value→Prop}(ho:ops.getD i default=⟨some d,op,ty,ps,af,none⟩)(hv:OpX P n w0 h0 ⟨some d,op,ty,ps,af,none⟩ e R h F)(hR:∀r∈R,r∈RR)(hn:Nat.ble (d+1) n=true)
    (k:∀v,F v→K ((d,v)::e) L h):SQ P n w0 h0 ops RR i e L h K:=by
 obtain⟨v,hv,D⟩:=hv;exact x_q ho (fun h' L' hh C=>hv L' h' hh fun r z=>C r (hR r z)) hn (k v D)
theorem aH{R:List Res}{F:Value→Prop}(ho:ops.getD i default=⟨some d,op,ty,ps,af,some (g,b)⟩)(ht:(ops[g]?).bind (·.dst)=some t)(he:e.lookup t=some (.bool b))(hv:OpX P n w0 h0 ⟨some d,op,ty,ps,af,none⟩ e R h F)(hR:∀r∈R,r∈RR)(hn:Nat.ble (d+1) n=true)
    (k:∀v,F v→W P n w0 h0 ops Q RR al r ((d,v)::e) L h):W P n w0 h0 ops Q RR al ((i,.q)::r) e L h:=by
 obtain⟨v,hv,D⟩:=hv;exact yM ho ht he (fun h' L' hh C=>hv L' h' hh fun r z=>C r (hR r z)) hn (k v D)
theorem s_x{W':List (Nat×Value)→List Res→Mem→Prop}{R:List Res}{F:Value→Prop}(hv:OpX P n w0 h0 ⟨some d,op,ty,ps,af,none⟩ e R h F)(hR:∀r∈R,r∈L)(hn:Nat.ble (d+1) n=true)
    (k:∀v,F v→W' ((d,v)::e) L h):jJ P n w0 h0 ops RR ⟨some d,op,ty,ps,af,none⟩ e L h W':=by
 obtain⟨v,hv,C⟩:=hv;exact yCI (fun X=>hv (L++X) h (MLe.refl h) fun r z=>List.mem_append_left _ (hR r z)) hn (k v C)
end
theorem zC6{L:List Res}:∀r∈([]:List Res),r∈L:=fun r hr=>by cases hr
theorem tW{L:List Res}{r:Res}(hr:r∈L):∀x∈[r],x∈L:=fun x hx=>by cases hx with|head=>exact hr|tail _ h=>cases h
theorem y9{t:TypeId}{σ:Rp β}{cs:List Value}{y:β}{w:World}{b o:Nat}(T:TyOk P t σ.n σ.agg)(r:σ.R h cs y)(hc:w.rangeAt b o cs):(Instr.loadAt t (vP b o)).run P w=.ok (σ.val cs) w:=by
 have z:=σ.len r;simp only[Instr.loadAt,Instr.sureAddr,loadVar,Sem.run_bind,T.ag,Result.andThen_ok,Sem.run_pure];unfold Rp.val
 cases ha:σ.agg with
 |true=>
  have C:(loadCells ⟨b,o,none⟩ cs.length).run P w=.ok cs.toArray w:=run_loadCells_list (P:=P) w ⟨b,o,none⟩ cs (fun j v D=>by rw[Addr.add_mid];exact hc j v D);rw[z] at C;simp[Sem.run_bind,T.sz,C]
 |false=>
  obtain⟨c,rfl,_⟩:=Rp.single r ha;have:=hc 0 c rfl;simp only[Nat.add_zero] at this;simp[Go.load,Sem.run,this]
theorem zH5{t E:TypeId}{x:Operand}{b k off:Nat}{cs:List Value}{ρ:Rp α}{σ:Rp β}{g:α→β}{s:α→β→α}{X:α}{Z:β}(T:TyOk P t σ.n σ.agg)(pc:Pc ρ off σ g s)(ho:k=off)(hx:zG e x=some (vP b k))(r:ρ.R h cs X)(hZ:g X=Z):
 OpX P n w0 h0 ⟨ds,.load t x,ty,ps,af,gd⟩ e [.var b E cs] h (fun u=>σ.Is h u Z):=by
 subst hZ;subst ho;have h1:=pc.get r;refine⟨_,fun L' h' _ D a w G S=>?_,_,h1,rfl⟩;have z:w.heap[b]?=some (.cells cs.toArray E):=S.ok (.var b E cs) (D _ (.head _));have C:=y9 (P:=P) (w:=w) T h1 (oV z k _ (by rw[σ.len h1]));simp[execOp,G.eval hx,C]
def AtP(ρ:Rp α)(h:Mem)(p:Value)(X:α):Prop:=∃b o cs,p=vP b o∧ρ.R h cs X∧∀j u,cs[j]?=some u→cell h b (o+j)=some u
theorem AtP.mono{ρ:Rp α}{h h':Mem}{p:Value}{X:α}(s:AtP ρ h p X)(hh:MLe h h'):AtP ρ h' p X:=by
 obtain⟨b,o,cs,e,r,C⟩:=s;exact⟨b,o,cs,e,ρ.mono hh r,fun j u z=>zAP hh (C j u z)⟩
theorem bN{t E:TypeId}{x y:Operand}{q:Int}{v:Value}{ρ:Rp α}{xs:List α}(d:α)(i:Nat)(ht:P.underlying t=some (.slice E))(T:TyOk P E ρ.n ρ.agg)(hx:zG e x=some v)(hy:zG e y=some (vI q))(r:(rpS ρ).Is h v xs)(hq:q=(i:Int))(hi:i<xs.length)(hp:0<ρ.n):
 OpX P n w0 h0 ⟨ds,.indexAddr t x y,ty,ps,af,gd⟩ e [] h (fun u=>AtP ρ h u (xs.getD i d)):=by
 obtain⟨cs,H,I⟩:=zOO r;have G:xs[i]?=some (xs.getD i d):=by rw[List.getD_eq_getElem?_getD,List.getElem?_eq_getElem hi];rfl
 have M:=I.get G;have z:=I.len;have U:i*ρ.n+ρ.n≤cs.length:=by rw[z,←Nat.succ_mul];exact Nat.mul_le_mul_right _ hi
 refine⟨zJ ρ.n v i,fun L' h' hh _=>oI i ht T.sz hx hy (H.mono hh) hq hi hp,?_⟩;have h0:(cs[i*ρ.n+0]?)=some (cs[i*ρ.n]'(by omega)):=by rw[Nat.add_zero,List.getElem?_eq_getElem]
 obtain⟨b,o,J,_⟩:=H.cell h0;refine⟨b,o,_,J,M,fun j u C=>?_⟩;rw[List.getElem?_take] at C
 split at C
 · rw[List.getElem?_drop] at C
   obtain⟨Z,o',D,O⟩:=H.cell C;rw[J] at D;simp only[Value.pointer.injEq,Option.some.injEq,Addr.mk.injEq] at D;rw[D.1,D.2.1];exact O
 · cases C
theorem zKK{t:TypeId}{x:Operand}{p:Value}{ρ:Rp α}{X:α}(T:TyOk P t ρ.n ρ.agg)(hx:zG e x=some p)(r:AtP ρ h p X):OpX P n w0 h0 ⟨ds,.load t x,ty,ps,af,gd⟩ e [] h (fun u=>ρ.Is h u X):=by
 obtain⟨b,o,cs,rfl,r,D⟩:=r;refine⟨_,fun L' h' hh _ a w G S=>?_,_,r,rfl⟩;have z:=y9 (P:=P) (w:=w) T r (fun j u C=>aB (hh.trans S.sub) (D j u C));simp[execOp,G.eval hx,z]
theorem zOJ{t:TypeId}{x:Operand}{f off m:Nat}{fs:Array Field}{fl:Field}{p:Value}{ρ:Rp α}{σ:Rp β}{g:α→β}{s:α→β→α}{X:α}{Z:β}(ht:P.underlying t=some (.struct fs))(hf:fs[f]?=some fl)(hsz:∀w,(Go.sizeOf fl.type).run P w=.ok (m+1) w)(pc:Pc ρ off σ g s)(ho:fl.offset=off)(hx:zG e x=some p)(r:AtP ρ h p X)(hZ:g X=Z):
 OpX P n w0 h0 ⟨ds,.fieldAddr t x f,ty,ps,af,gd⟩ e [] h (fun u=>AtP σ h u Z):=by
 subst hZ;obtain⟨b,o,cs,rfl,r,C⟩:=r;subst ho;refine⟨_,fun L' h' hh _=>xJ ht hf hsz hx,b,_,_,rfl,pc.get r,fun j u z=>?_⟩;rw[List.getElem?_take] at z
 split at z
 · rw[List.getElem?_drop] at z
   have:=C _ _ z
   rwa [←Nat.add_assoc] at this
 · cases z
theorem zEX{t E:TypeId}{x y:Operand}{m off:Nat}{q:Int}{p:Value}{ρ:Rp α}{σ:Rp β}{g:α→β}{s:α→β→α}{X:α}{Z:β}(i:Nat)(ht:P.underlying t=some (.array m E))(hsz:∀w,(Go.sizeOf E).run P w=.ok σ.n w)(pc:Pc ρ off σ g s)(ho:i*σ.n=off)(hx:zG e x=some p)(hy:zG e y=some (vI q))(r:AtP ρ h p X)(hq:q=(i:Int))(hi:i<m)(hZ:g X=Z):
 OpX P n w0 h0 ⟨ds,.indexAddr t x y,ty,ps,af,gd⟩ e [] h (fun u=>AtP σ h u Z):=by
 subst hZ;obtain⟨b,o,cs,rfl,r,C⟩:=r;subst ho;refine⟨_,fun L' h' hh _=>zV i ht hsz hx hy hq hi,b,_,_,rfl,pc.get r,fun j u z=>?_⟩;rw[List.getElem?_take] at z
 split at z
 · rw[List.getElem?_drop] at z
   have:=C _ _ z
   rwa [←Nat.add_assoc] at this
 · cases z
theorem uP{v:Value}{ρ:Rp α}{xs:List α}{t E:TypeId}{x:Operand}(ht:P.underlying t=some (.slice E))(hx:zG e x=some v)(r:(rpS ρ).Is h v xs):
 OpV P n w0 h0 ⟨ds,.call {callee:=.builtin .len,args:=#[x],argTypes:=#[t]},ty,ps,af,gd⟩ e L h (vI (xs.length:Int)):=lL ht hx (yCJ r)
theorem zUP{E t:TypeId}{b k off:Nat}{cs:List Value}{v:Value}{x y:Operand}{ρ:Rp α}{σ:Rp β}{g:α→β}{s:α→β→α}{X Z:α}{Y:β}(hsz:∀w,(Go.sizeOf t).run P w=.ok σ.n w)(pc:Pc ρ off σ g s)(ho:k=off)(hx:zG e x=some (vP b k))(hy:zG e y=some v)(r:ρ.R h cs X)(ry:σ.Is h v Y)(hZ:s X Y=Z):
 ∃cs',ρ.R h cs' Z∧∀A B,Upd P n w0 h0 ⟨ds,.store t x y,ty,ps,af,gd⟩ e A (.var b E cs) B h (.var b E cs'):=by
 subst hZ;subst ho;obtain⟨D,H,O⟩:=ry.cells;have J:=σ.len H;have aa:=ρ.len r;have hf:=pc.fits;refine⟨iA cs k D,?_,?_⟩
 · rw[zCG _ _ _ (by omega),J]
   exact pc.set r H
 · intro A B a w M S
   have I:w.heap[b]?=some (.cells cs.toArray E):=S.ok (.var b E cs) (by simp);obtain⟨h2,h3⟩:=nM D k cs w I;refine⟨w.setCells b k D,?_,h3,h2⟩;have z:w.there b k D.length:=by
    intro j G;have:k+j<cs.length:=by omega
    refine⟨?_,?_⟩
    · unfold World.cell?
      simp[I,this]
    · simp[World.frozen?,I]
   have C:=run_storeCells_cells (P:=P) b k D 0 w (fun j G=>by simpa using(z j G).1) (fun j G=>by simpa using(z j G).2) (fun u U=>List.all_eq_true.1 (σ.one H) u U);simp only[Nat.add_zero] at C;simp[execOp,M.eval hx,M.eval hy,Instr.storeAt,Instr.sureAddr,storeVar,hsz,O,J,C]
theorem yE{ops:Array Oper}{rest:List Oper}{A B:List Res}{op:Op}{b:Nat}{E:TypeId}{cs:List Value}{F:List Value→Prop}(hv:∃cs',F cs'∧∀A B,Upd P n w0 h0 ⟨none,op,ty,ps,af,none⟩ e A (.var b E cs) B h (.var b E cs'))
    (k:∀cs',F cs'→GL P n w0 h0 ops Q rest e (A++.var b E cs'::B) h):GL P n w0 h0 ops Q (⟨none,op,ty,ps,af,none⟩::rest) e (A++.var b E cs::B) h:=by
 obtain⟨cs',C,z⟩:=hv;exact xZ (z A B) rfl rfl rfl (k cs' C)
theorem yO{ops:Array Oper}{RR:List Res}{al:Als}{i:Nat}{r:List (Nat×Kd)}{A B:List Res}{op:Op}{b:Nat}{E:TypeId}{cs:List Value}{F:List Value→Prop}(ho:ops.getD i default=⟨none,op,ty,ps,af,none⟩)(hv:∃cs',F cs'∧∀A B,Upd P n w0 h0 ⟨none,op,ty,ps,af,none⟩ e A (.var b E cs) B h (.var b E cs'))
    (k:∀cs',F cs'→W P n w0 h0 ops Q RR al r e (A++.var b E cs'::B) h):W P n w0 h0 ops Q RR al ((i,.t)::r) e (A++.var b E cs::B) h:=by
 obtain⟨cs',C,z⟩:=hv;exact pO ho (z A B) rfl (k cs' C)
theorem iK{ops:Array Oper}{R:List Res}{W':List (Nat×Value)→List Res→Mem→Prop}{A B:List Res}{op:Op}{b:Nat}{E:TypeId}{cs:List Value}{F:List Value→Prop}(hv:∃cs',F cs'∧∀A B,Upd P n w0 h0 ⟨none,op,ty,ps,af,none⟩ e A (.var b E cs) B h (.var b E cs'))
    (hR:∀r∈R,∀q',r∈A++.var b E cs::B→r∈A++q'::B)(k:∀cs',F cs'→W' e (A++.var b E cs'::B) h):jJ P n w0 h0 ops R ⟨none,op,ty,ps,af,none⟩ e (A++.var b E cs::B) h W':=by
 obtain⟨cs',M,H⟩:=hv;intro X a w O S;have G:St w0 h0 (A++.var b E cs::(B++X)) h w:=by simpa using S
 unfold uZ;rw[if_pos (wn rfl)];obtain⟨U,z,D,C⟩:=H A (B++X) a w O G;rw[z];refine⟨fun Z I=>(by cases I),A++.var b E cs'::B,h,MLe.refl h,fun hh r z=>hR r z _ (hh r z),?_,k cs' M⟩;have:=G.grown D C fun b J=>.inl J
 simpa using this
theorem zSD{E:TypeId}{x:Operand}{v:Value}{ρ:Rp α}{X:α}(hx:zG e x=some v)(r:ρ.Is h v X):
 aE P n w0 h0 ⟨ds,.box E x,ty,ps,af,gd⟩ e L h (fun u q=>∃b cs,u=vP b 0∧q=.var b E cs∧ρ.R h cs X):=by
 obtain⟨cs,D,G⟩:=r.cells;intro a w M S;obtain⟨C,z,q,h1,h2,h3,J,b,I,H⟩:=wF (n:=n) (ds:=ds) (ty:=ty) (ps:=ps) (af:=af) (gd:=gd) (L:=L) (E:=E) hx G a w M S;exact⟨C,z,q,h1,h2,h3,J,b,cs,I,H,D⟩
theorem zK8{E:TypeId}{i:TypeInfo}{z:Value}{cs:List Value}{ρ:Rp α}{X:α}(hi:P.info? E=some i)(hz:i.zero=some z)(hc:z.cells=cs.toArray)(r:ρ.R h cs X):
 aE P n w0 h0 ⟨ds,.alloc E,ty,ps,af,gd⟩ e L h (fun u q=>∃b cs,u=vP b 0∧q=.var b E cs∧ρ.R h cs X):=by
 intro a w J S;obtain⟨D,C,q,h1,h2,h3,I,b,H,G⟩:=vV (n:=n) (ds:=ds) (ty:=ty) (ps:=ps) (af:=af) (gd:=gd) (e:=e) (L:=L) (h:=h) hi hz hc a w J S;exact⟨D,C,q,h1,h2,h3,I,b,cs,H,G,r⟩
def zFT(ρ:Rp α)(h:Mem)(place:Nat→Option (Nat×Nat))(X:α)(parts:List (Nat×Value))(X':α):Prop:=
 ∀cs,ρ.R h cs X→∃cs',ρ.R h cs' X'∧Instr.fill place cs.toArray parts=some cs'.toArray
theorem zW{ρ:Rp α}{place:Nat→Option (Nat×Nat)}{X:α}:zFT ρ h place X [] X:=fun cs r=>⟨cs,r,rfl⟩
theorem zH{ρ:Rp α}{σ:Rp β}{place:Nat→Option (Nat×Nat)}{X X':α}{Y:β}{i off:Nat}{v:Value}{rest:List (Nat×Value)}{g:α→β}{s:α→β→α}(hp:place i=some (off,σ.n))(pc:Pc ρ off σ g s)(ry:σ.Is h v Y)(k:zFT ρ h place (s X Y) rest X'):zFT ρ h place X ((i,v)::rest) X':=by
 intro cs r;obtain⟨O,C,G⟩:=ry.cells;have I:=σ.len C;have H:=ρ.len r;have U:=pc.fits;obtain⟨z,D,M⟩:=k _ (pc.set r C);refine⟨z,D,?_⟩;have J:cs=cs.take off++(cs.drop off).take σ.n++cs.drop (off+σ.n):=by
  rw[List.append_assoc,←List.drop_drop,List.take_append_drop,List.take_append_drop]
 rw[J];exact wK hp (by rw[List.length_take];omega) (by rw[List.length_take,List.length_drop];omega) I G M
theorem wG{t:TypeId}{i:TypeInfo}{z:Value}{zs:List Value}{fs:Array Field}{places:Array (Nat×Nat)}{parts:List (Nat×Operand)}{ps':List (Nat×Value)}{ρ:Rp α}{X X':α}(ht:P.underlying t=some (.struct fs))(hi:P.info? t=some i)(hz:i.zero=some z)(hzc:z.cells=zs.toArray)
    (hpl:∀w,(fs.mapM fun(f:Field)=>do pure (f.offset,←Go.sizeOf f.type)).run P w=.ok places w)(hp:mO e parts ps')(ha:ρ.agg=true)(rz:ρ.R h zs X)(hf:zFT ρ h (places[·]?) X ps' X'):
    OpX P n w0 h0 ⟨ds,.build t parts.toArray,ty,ps,af,gd⟩ e [] h (fun u=>ρ.Is h u X'):=by
 obtain⟨C,D,G⟩:=hf zs rz;refine⟨.agg C.toArray,fun L' h' _ _=>xR ht hi hz hpl hp (by rw[hzc];exact G),C,D,?_⟩;unfold Rp.val;rw[ha];rfl
theorem xW{t E:TypeId}{m sz:Nat}{i:TypeInfo}{z:Value}{zs:List Value}{parts:List (Nat×Operand)}{ps':List (Nat×Value)}{ρ:Rp α}{X X':α}(ht:P.underlying t=some (.array m E))(hi:P.info? t=some i)(hz:i.zero=some z)(hzc:z.cells=zs.toArray)
    (hsz:∀w,(Go.sizeOf E).run P w=.ok sz w)(hp:mO e parts ps')(ha:ρ.agg=true)(rz:ρ.R h zs X)(hf:zFT ρ h (fun i=>some (i*sz,sz)) X ps' X'):
    OpX P n w0 h0 ⟨ds,.build t parts.toArray,ty,ps,af,gd⟩ e [] h (fun u=>ρ.Is h u X'):=by
 obtain⟨C,D,G⟩:=hf zs rz;refine⟨.agg C.toArray,fun L' h' _ _=>zGF ht hi hz hsz hp (by rw[hzc];exact G),C,D,?_⟩;unfold Rp.val;rw[ha];rfl
theorem gS{R R':Mem→Value→Prop}(k:∀h r,R h r→R' h r)(x:Ending)(w:World)(s:Ret w0 h0 R x w):Ret w0 h0 R' x w:=by
 obtain⟨v,h,e,r,S⟩:=s;exact⟨v,h,e,k h v r,S⟩
theorem yC5{h:Mem}:rpB.Is h (.bool true) True:=(xE trivial)▸yC6 True
theorem Rp.castR{ρ:Rp α}{cs:List Value}{x y:α}(r:ρ.R h cs x)(e:x=y):ρ.R h cs y:=e▸r
theorem Rp.R.mono{ρ:Rp α}{h':Mem}{cs:List Value}{x:α}(r:ρ.R h cs x)(hh:MLe h h'):ρ.R h' cs x:=Rp.mono ρ hh r
theorem tU{t:Nat}{T E:TypeId}{b:Nat}{cs:List Value}{ρ:Rp α}{X:α}(tok:TyOk P T ρ.n ρ.agg)(hm:.var b E cs∈L)(hx:zG e (.tmp t)=some (vP b 0))(r:ρ.R h cs X):∃v,RV P n w0 h0 (.cell t T) e L h v∧ρ.Is h v X:=by
 refine⟨ρ.val cs,?_,cs,r,rfl⟩;intro a w C S;have z:w.heap[b]?=some (.cells cs.toArray E):=S.ok _ hm;have:=C.eval hx;simp only[Act.eval] at this;have h2:=y9 (P:=P) tok r (oV z 0 cs (by simp));simp only[Instr.loadAt,Instr.sureAddr,Sem.run_bind,Sem.run_pure,Result.andThen_ok] at h2;simp[zCC,this,asAddr,h2]
theorem uR{r:ResultVar}{F:Value→Prop}{x:Exit}(s:∃v,RV P n w0 h0 r e L h v∧F v)(k:∀v,RV P n w0 h0 r e L h v→F v→GQ n w0 h0 Q x e L h):GQ n w0 h0 Q x e L h:=by
 obtain⟨v,a,b⟩:=s;exact k v a b
theorem zRM{o:Oper}{v:Value}{F:Value→Prop}(hv:∀L' h',OpV P n w0 h0 o e L' h' v)(hF:F v):OpX P n w0 h0 o e [] h F:=⟨v,fun L' h' _ _=>hv L' h',hF⟩
end
end Bk
namespace Bk
set_option linter.unusedVariables false
set_option linter.unusedSimpArgs false
open Go Go.RowKit
open Classical
theorem yCO{h:Mem}{cs:List Value}{a b:Rat}{k l:Nat}(r:(rpQ k).R h cs a)(e:a=b)(hl:lq b≤l):(rpQ l).R h cs b:=by
 subst e;exact⟨r.1,hl⟩
noncomputable def ovQ(a K:Nat):Rat:=(a:Rat)/((2^K:Nat):Rat)
def flN(q:Rat)(K:Nat):Nat:=q.num.natAbs*2^K*2^K/q.den
noncomputable def zEU(q:Rat)(k:Int):Rat:=ovQ (sqN (flN q (kN k))) (kN k)
theorem zDE{x y c:Rat}(hc:0<c):x≤y↔x*c≤y*c:=by
 constructor
 · intro h;exact Rat.mul_le_mul_of_nonneg_right h (by grind)
 · intro h
   refine Rat.not_lt.1 fun e=>?_;have:=Rat.mul_lt_mul_of_pos_right e hc;grind
def topN(q:Rat)(K:Nat):Nat:=(q.num.natAbs/q.den+1)*2^K
def yC0(q:Rat)(K:Nat):Prop:=q.num.natAbs*2^K*2^K%q.den≠0
noncomputable def rtLo(l h:Rat)(k:Int):Rat:=if h<0 then 0 else zEU (zBD l 0) k
noncomputable def yCL(h:Rat)(k:Int):Rat:=if h<0 then 0 else if zEU h k*zEU h k<h then zEU h k+ovQ 1 (kN k) else zEU h k
noncomputable def rtE(h:Rat):Int:=if h<0 then 7 else 0
noncomputable def loN(l:Rat)(K:Nat):Nat:=if 0<xC l then sqN (flN l K) else 0
theorem eD{q:Rat}:0<xC q↔0<q:=by
 rw[rN]
 by_cases h0:q=0
 · rw[if_pos h0,h0]
   constructor
   · intro h;omega
   · intro h;exact absurd h (Rat.lt_irrefl)
 · rw[if_neg h0]
   by_cases h1:q<0
   · rw[if_pos h1]
     constructor
     · intro h;omega
     · intro h;grind
   · rw[if_neg h1]
     constructor
     · intro h;grind
     · intro h;omega
theorem qO{q:Rat}:xC q<0↔q<0:=by
 rw[rN]
 by_cases h0:q=0
 · rw[if_pos h0,h0]
   constructor
   · intro h;omega
   · intro h;exact absurd h (Rat.lt_irrefl)
 · rw[if_neg h0]
   by_cases h1:q<0
   · rw[if_pos h1];simp[h1]
   · rw[if_neg h1]
     constructor
     · intro h;omega
     · intro h;grind
noncomputable def hiN(q:Rat)(K:Nat):Nat:=if yC0 q K∨sM (sqN (flN q K)*sqN (flN q K)) (flN q K)<0 then sqN (flN q K)+1 else sqN (flN q K)
end Bk
namespace Bk
set_option linter.unusedVariables false
set_option linter.unusedSimpArgs false
open Go Go.RowKit
open Classical
section
variable {P:Program}{n:Nat}{w0:World}{h0:Mem}{e:List (Nat×Value)}{L:List Res}{h:Mem}{Q:Exit→Act→World→Prop}
variable {ds:Option Tmp}{ty:TypeId}{ps:String}{af:Array Edge}{gd:Option (Nat×Bool)}
theorem qW{G:Prop}(p:Prop)(kt:p→G)(kf:¬p→G):G:=Classical.byCases kt kf
abbrev vF(f:Nat)(cap:List Value):Value:=.func (.func f) #[] cap.toArray
def zUK(P:Program)(n:Nat)(o:Oper)(e:List (Nat×Value))(f:Nat)(args:Array Value):Prop:=∀a w,Env n e a→(execOp a.eval o).run P w=.ok (.enter f args) w
theorem rX{x:Operand}{f:Nat}{cap:List Value}{xs:List Operand}{ts:Array TypeId}{vs:List Value}(hcall:∀args w,(callFunc f args).run P w=.ok (.enter f args) w)(hx:zG e x=some (vF f cap))(hvs:pC e xs vs):
 zUK P n ⟨ds,.call {callee:=.value x,args:=xs.toArray,argTypes:=ts},ty,ps,af,gd⟩ e f (vs++cap).toArray:=by
 intro a w C;have z:xs.toArray.map a.eval=vs.toArray:=by rw[List.map_toArray,C.evals hvs]
 simp only[execOp,resolve,C.eval hx];simp[Deferred.ofValue,invoke,hcall,z]
theorem zZH{W':List (Nat×Value)→List Res→Mem→Prop}{ops:Array Oper}{R:List Res}{op:Op}{g t d:Nat}{b:Bool}(ht:(ops[g]?).bind (·.dst)=some t)(he:e.lookup t=some undef)(hn:Nat.ble (d+1) n=true)(k:W' ((d,undef)::e) L h):
 jJ P n w0 h0 ops R ⟨some d,op,ty,ps,af,some (g,b)⟩ e L h W':=by
 intro X a w E S;have z:Region.wanted ⟨some d,op,ty,ps,af,some (g,b)⟩ (yielded ops a.tmps)=false:=by
  have:=E.get t _ he;simp[Region.wanted,yielded,ht,this,undef]
 unfold uZ;rw[if_neg (by simp[z])];exact⟨fun D C=>(by cases C;exact Nat.le_of_ble_eq_true hn),L,h,MLe.refl h,fun hh=>hh,S,k⟩
theorem zPP{R A B:List Res}{q:Res}(hR:∀r∈R,r∈A++B):∀r∈R,r∈A++q::B→r∈A++B:=fun r hr _=>hR r hr
section
variable {ops:Array Oper}{R:List Res}{d:Nat}{op:Op}
theorem cR{W':List (Nat×Value)→List Res→Mem→Prop}{f:Nat}{args:Array Value}{R':Mem→Value→Prop}(he:zUK P n ⟨some d,op,ty,ps,af,none⟩ e f args)(hn:Nat.ble (d+1) n=true)
    (hc:∀w,MLe h (mem w)→Calls P f args w (Ret w h R'))(k:∀v h',MLe h h'→R' h' v→W' ((d,v)::e) L h'):jJ P n w0 h0 ops R ⟨some d,op,ty,ps,af,none⟩ e L h W':=by
 intro X a w E S;unfold uZ;rw[if_pos (wn rfl),he a w E];refine(hc w S.sub).mono ?_
 rintro H C ⟨v,h',rfl,hR,z⟩
 have G:St w0 h0 (L++X) h' C:=S.call z;exact⟨v,rfl,fun I D=>(by cases D;exact Nat.le_of_ble_eq_true hn),L,h',z.le,fun hh=>hh,G,k v h' z.le hR⟩
end
end
end Bk
namespace Bk
set_option linter.unusedVariables false
set_option linter.unusedSimpArgs false
open Go Go.RowKit
open Classical
abbrev Sp:=Rat×Rat
noncomputable def ofS(a b:Rat):Sp:=(zC5 a b,zBD a b)
noncomputable def hullS(a b:Sp):Sp:=(zC5 a.1 b.1,zBD a.2 b.2)
def addS(a b:Sp):Sp:=(a.1+b.1,a.2+b.2)
def negS(a:Sp):Sp:=(-a.2,-a.1)
def subS(a b:Sp):Sp:=(a.1-b.2,a.2-b.1)
noncomputable def zSH(a b:Sp):Sp:=(zXN a.1 a.2 b.1 b.2,zXO a.1 a.2 b.1 b.2)
noncomputable def sqrS(a:Sp):Sp:=(yB5 a.1 a.2,yB6 a.1 a.2)
noncomputable def roundS(a:Sp)(n:Int):Sp:=(zXW a.1 n,upQ a.2 n)
noncomputable def quoS(a b:Sp):Sp:=(yCP a.1 a.2 b.1 b.2,yCQ a.1 a.2 b.1 b.2)
noncomputable def meetS(a b:Sp):Sp:=(if zC5 a.2 b.2<zBD a.1 b.1 then 0 else zBD a.1 b.1,if zC5 a.2 b.2<zBD a.1 b.1 then 0 else zC5 a.2 b.2)
noncomputable def rootS(a:Sp)(n:Int):Sp:=(rtLo a.1 a.2 n,yCL a.2 n)
noncomputable def yDV(s:Sp)(n:Int):Rat:=s.1+yCU n*(s.2-s.1)
noncomputable def ratQ(n d:Int):Rat:=kG (zEE n 41-20) (zEE d 8+1)
noncomputable def zXX(a b c d:Sp):Sp:=subS (zSH a d) (zSH b c)
noncomputable def zLD(m:T3 (T3 Sp))(i j:Nat):Sp:=zXX (m.y.at i) (m.y.at j) (m.z.at i) (m.z.at j)
noncomputable def det3S(m:T3 (T3 Sp)):Sp:=addS (subS (zSH m.x.x (zLD m 1 2)) (zSH m.x.y (zLD m 0 2))) (zSH m.x.z (zLD m 0 1))
def okM(m:T3 (T3 Sp)):Prop:=∀i j,((m.at i).at j).1≤((m.at i).at j).2
noncomputable def det2L(m:List (List Sp)):Sp:=zXX ((m.getD 0 (List.replicate 2 ((0:Rat),(0:Rat)))).getD 0 ((0:Rat),(0:Rat))) ((m.getD 0 (List.replicate 2 ((0:Rat),(0:Rat)))).getD 1 ((0:Rat),(0:Rat))) ((m.getD 1 (List.replicate 2 ((0:Rat),(0:Rat)))).getD 0 ((0:Rat),(0:Rat))) ((m.getD 1 (List.replicate 2 ((0:Rat),(0:Rat)))).getD 1 ((0:Rat),(0:Rat)))
def detR(n:T3 (T3 Rat)):Rat:=n.x.x*n.y.y*n.z.z-n.x.x*n.y.z*n.z.y+(n.x.y*n.y.z*n.z.x-n.x.y*n.y.x*n.z.z)+(n.x.z*n.y.x*n.z.y-n.x.z*n.y.y*n.z.x)
end Bk
namespace Bk
set_option linter.unusedVariables false
set_option linter.unusedSimpArgs false
open Go Go.RowKit
open Classical
abbrev Pt:=T3 Rat
abbrev P2:=Rat×Rat
def pr(p:Pt)(i j:Nat):P2:=(p.at i,p.at j)
theorem zF8{c:Prop} [Decidable c](a b:Pt)(i j:Nat):pr (if c then a else b) i j=if c then pr a i j else pr b i j:=by split<;>rfl
def cr(u v w:P2):Rat:=(v.1-u.1)*(w.2-u.2)-(v.2-u.2)*(w.1-u.1)
noncomputable def orZ(u v w:P2):Int:=xC (cr u v w)
def qK(a b x:Rat):Prop:=(a≤x∧x≤b)∨(x≤a∧b≤x)
def onS(u v p:P2):Prop:=qK u.1 v.1 p.1∧qK u.2 v.2 p.2∧cr u v p=0
def jG(a b c d:Rat):Prop:=(a<c∧a<d∧b<c∧b<d)∨(c<a∧d<a∧c<b∧d<b)
def lx(u v:P2):Prop:=u.1<v.1∨(u.1=v.1∧u.2<v.2)
noncomputable def lo2(u v:P2):P2:=if lx v u then v else u
noncomputable def hi2(u v:P2):P2:=if lx v u then u else v
noncomputable def mN(a b c d:P2):Int:=
 if lx (if lx d b then d else b) (if lx a c then c else a) then 0 else if lx (if lx a c then c else a) (if lx d b then d else b) then 3
 else if((if lx a c then c else a)=a∨(if lx a c then c else a)=b)∧((if lx a c then c else a)=c∨(if lx a c then c else a)=d) then 1 else 2
noncomputable def aD(a b c d:P2):Int:=mN (lo2 a b) (hi2 a b) (lo2 c d) (hi2 c d)
noncomputable def gO(a b c d:P2):Int:=
 if jG a.1 b.1 c.1 d.1∨jG a.2 b.2 c.2 d.2 then 0
 else if orZ a b c=0∧orZ a b d=0∧orZ c d a=0∧orZ c d b=0 then aD a b c d
 else if 0<orZ a b c*orZ a b d∨0<orZ c d a*orZ c d b then 0
 else if(orZ a b c=0∨orZ a b d=0)∧(orZ c d a=0∨orZ c d b=0) then 1 else 2
noncomputable def zA5(a b c d:P2):Int:=
 if lx (if lx d b then d else b) (if lx a c then c else a) then 0 else if(if lx a c then c else a)≠(if lx d b then d else b) then 3
 else if((if lx a c then c else a)=a∨(if lx a c then c else a)=b)∧((if lx a c then c else a)=c∨(if lx a c then c else a)=d)∧onS a b (if lx a c then c else a)∧onS c d (if lx a c then c else a) then 1
 else if onS a b (if lx a c then c else a)∧onS c d (if lx a c then c else a) then 2 else 0
noncomputable def eC(a b c d:P2):Int:=if(a=b∧onS c d a)∨(c=d∧onS a b c) then 2 else 0
noncomputable def zFY(a b c d:P2):Int:=
 if orZ a b c=0∧orZ a b d=0∧orZ c d a=0∧orZ c d b=0 then zA5 a b c d
 else if a=b∨c=d then eC a b c d
 else if 0<orZ a b c*orZ a b d∨0<orZ c d a*orZ c d b then 0
 else if a=c∨a=d∨b=c∨b=d then 1 else 2
noncomputable def nL(a b c d:P2):Int:=zFY (lo2 a b) (hi2 a b) (lo2 c d) (hi2 c d)
def cr2(ax ay bx by' cx cy:Rat):Rat:=(bx-ax)*(cy-ay)-(by'-ay)*(cx-ax)
theorem zGA{D e u v:Rat}(hD:0<D)(h0:0≤e)(h1:e≤D)(h:D*u=v*e):(0≤v→0≤u∧u≤v)∧(v≤0→v≤u∧u≤0):=by
 constructor
 · intro C
   constructor
   · refine Rat.not_lt.1 fun z=>?_
     have h2:=Rat.mul_lt_mul_of_pos_right z hD;have h3:=Rat.mul_nonneg C h0;grind
   · refine Rat.not_lt.1 fun z=>?_
     have h2:=Rat.mul_lt_mul_of_pos_right z hD;have h3:=Rat.mul_le_mul_of_nonneg_right h1 C;grind
 · intro C
   constructor
   · refine Rat.not_lt.1 fun z=>?_
     have h2:=Rat.mul_lt_mul_of_pos_right z hD;have h3:=Rat.mul_le_mul_of_nonneg_right h1 (c:=-v) (by grind);grind
   · refine Rat.not_lt.1 fun z=>?_
     have h2:=Rat.mul_lt_mul_of_pos_right z hD;have h3:=Rat.mul_nonneg (a:=-v) (b:=e) (by grind) h0;grind
theorem zI5{a b:Rat}(h:a≤b):a<b∨a=b:=by grind
theorem tF{a b:Rat}(h:a*b=0):a=0∨b=0:=Rat.mul_eq_zero.1 h
def lex(ax ay bx by':Rat):Prop:=ax<bx∨(ax=bx∧ay<by')
theorem zGQ{ax ay bx by':Rat}:¬lex bx by' ax ay↔ax<bx∨(ax=bx∧ay≤by'):=by
 unfold lex;grind
theorem s8{ax ay bx by' px py:Rat}(hs:¬lex bx by' ax ay)(hc:cr2 ax ay bx by' px py=0):
 (¬lex px py ax ay∧¬lex bx by' px py)↔(qK ax bx px∧qK ay by' py):=by
 rw[zGQ] at hs;rw[zGQ,zGQ];unfold cr2 at hc;unfold qK
 rcases hs with hs|⟨hx,hy⟩
 · have H:0<bx-ax:=by grind
   have G:(bx-ax)*(py-ay)=(by'-ay)*(px-ax):=by grind
   constructor
   · rintro⟨h1,h2⟩
     have h3:0≤px-ax:=by grind
     have z:px-ax≤bx-ax:=by grind
     obtain⟨D,C⟩:=zGA H h3 z G;refine⟨.inl ⟨by grind,by grind⟩,?_⟩
     rcases zLK ay by' with h7|h7
     · have:=D (by grind);grind
     · have:=C (by grind);grind
   · rintro⟨h1,h2⟩
     have h3:ax≤px∧px≤bx:=by grind
     constructor
     · rcases zI5 h3.1 with z|z
       · exact .inl z
       · refine .inr ⟨z,?_⟩
         have D:(bx-ax)*(py-ay)=0:=by grind
         rcases tF D with C|C<;>grind
     · rcases zI5 h3.2 with z|z
       · exact .inl z
       · refine .inr ⟨z,?_⟩
         have D:(bx-ax)*(py-by')=0:=by grind
         rcases tF D with C|C<;>grind
 · subst hx
   grind
theorem zDW{a b x:Rat}:qK a b x↔qK b a x:=by unfold qK;grind
theorem zJI(ax ay bx by' cx cy:Rat):cr2 bx by' ax ay cx cy= -cr2 ax ay bx by' cx cy:=by unfold cr2;grind
theorem zZU{ax ay bx by' px py:Rat}:(cr2 ax ay bx by' px py=0∧(if lex bx by' ax ay then ¬lex px py bx by'∧¬lex ax ay px py else ¬lex px py ax ay∧¬lex bx by' px py))↔(qK ax bx px∧qK ay by' py∧cr2 ax ay bx by' px py=0):=by
 by_cases hc:cr2 ax ay bx by' px py=0
 · simp only[hc,true_and,and_true]
   by_cases hl:lex bx by' ax ay
   · rw[if_pos hl]
     have h1:¬lex ax ay bx by':=by unfold lex at *;grind
     have h2:cr2 bx by' ax ay px py=0:=by rw[zJI,hc];grind
     rw[s8 h1 h2,zDW,zDW (a:=by')]
   · rw[if_neg hl]
     exact s8 hl hc
 · simp[hc]
theorem zFM{ux uy vx vy wx wy:Rat}(h:ux≠0∨uy≠0)(h1:vx*uy=vy*ux)(h2:wx*uy=wy*ux):vx*wy=vy*wx:=by
 rcases h with h|h
 · have e:ux*(vx*wy-vy*wx)=0:=by grind
   rcases tF e with h3|h3
   · exact absurd h3 h
   · grind
 · have e:uy*(vx*wy-vy*wx)=0:=by grind
   rcases tF e with h3|h3
   · exact absurd h3 h
   · grind
theorem zPN{ax ay bx by' cx cy dx dy:Rat}(hp:cr2 ax ay bx by' cx cy=0)(hr:cr2 cx cy dx dy ax ay=0):
 (ax=cx∧ay=cy)∨(cr2 ax ay bx by' dx dy=0∧cr2 cx cy dx dy bx by'=0):=by
 by_cases h:ax=cx∧ay=cy
 · exact .inl h
 · refine .inr ?_
   have z:cx-ax≠0∨cy-ay≠0:=by grind
   have h1:(bx-ax)*(cy-ay)=(by'-ay)*(cx-ax):=by unfold cr2 at hp;grind
   have h2:(dx-ax)*(cy-ay)=(dy-ay)*(cx-ax):=by unfold cr2 at hr;grind
   have h3:=zFM z h1 h2;unfold cr2;constructor<;>grind
theorem zJG{ax ay bx by' cx cy dx dy:Rat}(hpq:cr2 ax ay bx by' cx cy≠cr2 ax ay bx by' dx dy)(h1:cr2 ax ay bx by' cx cy*cr2 ax ay bx by' dx dy≤0)(h2:cr2 cx cy dx dy ax ay*cr2 cx cy dx dy bx by'≤0)(hrs:cr2 cx cy dx dy ax ay≠cr2 cx cy dx dy bx by'):
 ∃x y,qK ax bx x∧qK ay by' y∧qK cx dx x∧qK cy dy y:=by
 obtain⟨p,I⟩:∃p,p=cr2 ax ay bx by' cx cy:=⟨_,rfl⟩;obtain⟨q,H⟩:∃q,q=cr2 ax ay bx by' dx dy:=⟨_,rfl⟩;obtain⟨r,G⟩:∃r,r=cr2 cx cy dx dy ax ay:=⟨_,rfl⟩;obtain⟨s,es⟩:∃s,s=cr2 cx cy dx dy bx by':=⟨_,rfl⟩;rw[←I,←H] at hpq h1;rw[←G,←es] at hrs h2;have hw:∀{u v:Rat},u≠v→u*v≤0→0≤u/(u-v)∧u/(u-v)≤1:=by
  intro u v ac ad;have h3:u-v≠0:=by grind
  have C:0<(u-v)*(u-v):=by
   rcases zAD (u-v) 0 with h|h|h
   · have:=Rat.mul_pos (a:=-(u-v)) (b:=-(u-v)) (by grind) (by grind);grind
   · exact absurd h h3
   · exact Rat.mul_pos h h
  have e:u/(u-v)*((u-v)*(u-v))=u*(u-v):=by grind
  have h5:0≤u*u:=g8 u;have h6:0≤v*v:=g8 v;constructor
  · rw[zDE C,e];grind
  · rw[zDE C,e];grind
 obtain⟨t1,t2⟩:=hw hpq h1;obtain⟨Z,U⟩:=hw hrs h2;have D:∀{u v t:Rat},0≤t→t≤1→qK u v (u+t*(v-u)):=by
  intro u v t h3 C;unfold qK
  rcases zLK u v with h5|h5
  · left
    have h6:=Rat.mul_nonneg h3 (show 0≤v-u by grind);have h7:=Rat.mul_le_mul_of_nonneg_right C (show 0≤v-u by grind);constructor<;>grind
  · right
    have h6:=Rat.mul_nonneg h3 (show 0≤u-v by grind);have h7:=Rat.mul_le_mul_of_nonneg_right C (show 0≤u-v by grind);constructor<;>grind
 have z:p-q≠0:=by grind
 have ab:r-s≠0:=by grind
 have aa:p-q= -(r-s):=by rw[I,H,G,es];unfold cr2;grind
 have ex:cx+p/(p-q)*(dx-cx)=ax+r/(r-s)*(bx-ax):=by
  have e1:(p-q)*(cx+p/(p-q)*(dx-cx))=(p-q)*(ax+r/(r-s)*(bx-ax)):=by
   have O:(p-q)*(cx+p/(p-q)*(dx-cx))=(p-q)*cx+p*(dx-cx):=by grind
   have M:(p-q)*(ax+r/(r-s)*(bx-ax))=(p-q)*ax-r*(bx-ax):=by grind
   rw[O,M,I,H,G];unfold cr2;grind
  have J:(p-q)*((cx+p/(p-q)*(dx-cx))-(ax+r/(r-s)*(bx-ax)))=0:=by grind
  rcases tF J with h|h
  · exact absurd h z
  · grind
 have ey:cy+p/(p-q)*(dy-cy)=ay+r/(r-s)*(by'-ay):=by
  have e1:(p-q)*(cy+p/(p-q)*(dy-cy))=(p-q)*(ay+r/(r-s)*(by'-ay)):=by
   have O:(p-q)*(cy+p/(p-q)*(dy-cy))=(p-q)*cy+p*(dy-cy):=by grind
   have M:(p-q)*(ay+r/(r-s)*(by'-ay))=(p-q)*ay-r*(by'-ay):=by grind
   rw[O,M,I,H,G];unfold cr2;grind
  have J:(p-q)*((cy+p/(p-q)*(dy-cy))-(ay+r/(r-s)*(by'-ay)))=0:=by grind
  rcases tF J with h|h
  · exact absurd h z
  · grind
 exact⟨_,_,ex▸D Z U,ey▸D Z U,D t1 t2,D t1 t2⟩
theorem pT{a b c d x:Rat}(h:jG a b c d)(h1:qK a b x)(h2:qK c d x):False:=by unfold jG qK at *;grind
theorem zXY(u v w:P2):cr u v w=cr2 u.1 u.2 v.1 v.2 w.1 w.2:=rfl
theorem gG{u v w:P2}:orZ u v w=0↔cr u v w=0:=uC
theorem rC{u v:P2}:¬lx v u↔lx u v∨u=v:=by
 unfold lx;rw[Prod.ext_iff];grind
theorem nY(u:P2):¬lx u u:=by unfold lx;grind
theorem pR{u v:P2}(h:lx u v):¬lx v u:=by unfold lx at *;grind
theorem y7{u v w:P2}(h:lx u v)(k:lx v w):lx u w:=by unfold lx at *;grind
theorem zVX{a b p:P2}:(orZ a b p=0∧(if lx b a then ¬lx p b∧¬lx a p else ¬lx p a∧¬lx b p))↔onS a b p:=by
 rw[gG];exact zZU
theorem nS{a b p:P2}(hs:¬lx b a)(hc:cr a b p=0):(¬lx p a∧¬lx b p)↔onS a b p:=by
 have:=s8 hs hc;unfold onS;rw[←and_assoc,and_iff_left hc];exact this
theorem mL(a b c:P2):cr b a c= -cr a b c:=zJI _ _ _ _ _ _
theorem z6(a b c:P2):orZ b a c= -orZ a b c:=by
 unfold orZ;rw[mL,rN,rN];grind
theorem aS(a c:P2):cr a a c=0:=by unfold cr;grind
theorem zG5(a c:P2):cr a c c=0:=by unfold cr;grind
theorem eS(a c:P2):cr a c a=0:=by unfold cr;grind
theorem zA7{a b c d:Rat}:jG b a c d↔jG a b c d:=by unfold jG;grind
theorem j9{a b c d:Rat}:jG a b d c↔jG a b c d:=by unfold jG;grind
theorem zI0(a b:P2):lo2 a b=lo2 b a:=by
 unfold lo2
 by_cases h:lx b a
 · rw[if_pos h,if_neg (pR h)]
 · rw[if_neg h]
   rcases rC.1 h with h1|h1
   · rw[if_pos h1]
   · rw[h1,if_neg (nY _)]
theorem zI8(a b:P2):hi2 a b=hi2 b a:=by
 unfold hi2
 by_cases h:lx b a
 · rw[if_pos h,if_neg (pR h)]
 · rw[if_neg h]
   rcases rC.1 h with h1|h1
   · rw[if_pos h1]
   · rw[h1,if_neg (nY _)]
theorem zAX(a b c d:P2):gO b a c d=gO a b c d:=by
 have e:aD b a c d=aD a b c d:=by unfold aD;rw[zI0 b a,zI8 b a]
 unfold gO;rw[e,zA7,zA7 (a:=a.2),z6 a b c,z6 a b d];have h1:-orZ a b c*-orZ a b d=orZ a b c*orZ a b d:=by grind
 have h2:orZ c d b*orZ c d a=orZ c d a*orZ c d b:=Int.mul_comm _ _;rw[h1,h2];have h3:(-orZ a b c=0∧-orZ a b d=0∧orZ c d b=0∧orZ c d a=0)↔(orZ a b c=0∧orZ a b d=0∧orZ c d a=0∧orZ c d b=0):=by grind
 have z:((-orZ a b c=0∨-orZ a b d=0)∧(orZ c d b=0∨orZ c d a=0))↔((orZ a b c=0∨orZ a b d=0)∧(orZ c d a=0∨orZ c d b=0)):=by grind
 simp only[h3,z]
theorem zAW(a b c d:P2):gO a b d c=gO a b c d:=by
 have e:aD a b d c=aD a b c d:=by unfold aD;rw[zI0 d c,zI8 d c]
 unfold gO;rw[e,j9,j9 (a:=a.2),z6 c d a,z6 c d b];have h1:-orZ c d a*-orZ c d b=orZ c d a*orZ c d b:=by grind
 have h2:orZ a b d*orZ a b c=orZ a b c*orZ a b d:=Int.mul_comm _ _;rw[h1,h2];have h3:(orZ a b d=0∧orZ a b c=0∧-orZ c d a=0∧-orZ c d b=0)↔(orZ a b c=0∧orZ a b d=0∧orZ c d a=0∧orZ c d b=0):=by grind
 have z:((orZ a b d=0∨orZ a b c=0)∧(-orZ c d a=0∨-orZ c d b=0))↔((orZ a b c=0∨orZ a b d=0)∧(orZ c d a=0∨orZ c d b=0)):=by grind
 simp only[h3,z]
theorem zFX(a b c d:P2):gO a b c d=gO (lo2 a b) (hi2 a b) (lo2 c d) (hi2 c d):=by
 unfold lo2 hi2
 split
 · split
   · rw[zAX,zAW]
   · rw[zAX]
 · split
   · rw[zAW]
   · rfl
theorem zM1(a b:P2):¬lx (hi2 a b) (lo2 a b):=by
 unfold lo2 hi2
 split
 · rename_i h;exact pR h
 · rename_i h;exact h
theorem mA{a b:P2}(h:¬lx b a):lo2 a b=a∧hi2 a b=b:=⟨if_neg h,if_neg h⟩
theorem zLH{a b c d:P2}(hab:¬lx b a)(hcd:¬lx d c)(h1:cr a b c=0)(h2:cr a b d=0)(h3:cr c d a=0)(h4:cr c d b=0)(hap:jG a.1 b.1 c.1 d.1∨jG a.2 b.2 c.2 d.2):lx b c∨lx d a:=by
 rcases hap with hap|hap
 · unfold jG at hap
   unfold lx;grind
 · -- the order along the line is that of the second coordinate, or its reverse
   rw[rC] at hab hcd;refine Classical.byContradiction fun G=>?_;have D:¬lx b c:=fun e=>G (.inl e);have C:¬lx d a:=fun e=>G (.inr e);rw[rC] at D C
   -- c ≤ b and a ≤ d in the order of the line: the segments share a point
   have z:onS a b c∨onS c d a:=by
    by_cases e:lx c a
    · right
      refine(nS (rC.2 hcd) h3).1 ⟨?_,?_⟩
      · exact pR e
      · exact rC.2 C
    · left
      refine(nS (rC.2 hab) h1).1 ⟨e,rC.2 D⟩
   rcases z with⟨_,hb,_⟩|⟨_,hb,_⟩
   · exact pT hap hb (by unfold qK;grind)
   · exact pT hap (x:=a.2) (by unfold qK;grind) hb
theorem zWC{a b c d:P2}(hab:¬lx b a)(hcd:¬lx d c)(h1:cr a b c=0)(h2:cr a b d=0)(h3:cr c d a=0)(h4:cr c d b=0):zA5 a b c d=mN a b c d:=by
 unfold zA5 mN
 by_cases hh:lx (if lx d b then d else b) (if lx a c then c else a)
 · rw[if_pos hh,if_pos hh]
 · rw[if_neg hh,if_neg hh]
   by_cases he:(if lx a c then c else a)=(if lx d b then d else b)
   · rw[if_neg (fun e=>e he),if_neg (show ¬lx (if lx a c then c else a) (if lx d b then d else b) by rw[he];exact nY _)]
     have z:onS a b (if lx a c then c else a)∧onS c d (if lx a c then c else a):=by
      have J:¬lx (if lx a c then c else a) a:=by
       split
       · rename_i h;exact pR h
       · exact nY _
      have I:¬lx (if lx a c then c else a) c:=by
       split
       · exact nY _
       · rename_i h;exact h
      have H:¬lx b (if lx a c then c else a):=by
       rw[he]
       split
       · rename_i h;exact pR h
       · exact nY _
      have G:¬lx d (if lx a c then c else a):=by
       rw[he]
       split
       · exact nY _
       · rename_i h;exact h
      have D:cr a b (if lx a c then c else a)=0:=by
       split
       · exact h1
       · exact eS a b
      have C:cr c d (if lx a c then c else a)=0:=by
       split
       · exact eS c d
       · exact h3
      exact⟨(nS hab D).1 ⟨J,H⟩,(nS hcd C).1 ⟨I,G⟩⟩
     by_cases hx:((if lx a c then c else a)=a∨(if lx a c then c else a)=b)∧((if lx a c then c else a)=c∨(if lx a c then c else a)=d)
     · rw[if_pos ⟨hx.1,hx.2,z⟩,if_pos hx]
     · rw[if_neg (fun e=>hx ⟨e.1,e.2.1⟩),if_pos z,if_neg hx]
   · rw[if_pos he,if_pos ((rC.1 hh).resolve_right he)]
theorem zHO{x y:Rat}:0<xC x*xC y↔0<x*y:=by
 have h1:=rN x;have h2:=rN y
 rcases zAD x 0 with hx|hx|hx<;>rcases zAD y 0 with hy|hy|hy
 · have:=Rat.mul_pos (a:=-x) (b:=-y) (by grind) (by grind)
   have C:xC x= -1:=by grind
   have z:xC y= -1:=by grind
   rw[C,z];grind
 · subst hy;have e:x*0=0:=by grind
   have z:xC 0=0:=by grind
   rw[e,z];simp
 · have:=Rat.mul_pos (a:=-x) (b:=y) (by grind) hy
   have C:xC x= -1:=by grind
   have z:xC y=1:=by grind
   rw[C,z];grind
 · subst hx;have e:0*y=0:=by grind
   have z:xC 0=0:=by grind
   rw[e,z];simp
 · subst hx;have e:0*y=0:=by grind
   have z:xC 0=0:=by grind
   rw[e,z];simp
 · subst hx;have e:0*y=0:=by grind
   have z:xC 0=0:=by grind
   rw[e,z];simp
 · have:=Rat.mul_pos (a:=x) (b:=-y) hx (by grind)
   have C:xC x=1:=by grind
   have z:xC y= -1:=by grind
   rw[C,z];grind
 · subst hy;have e:x*0=0:=by grind
   have z:xC 0=0:=by grind
   rw[e,z];simp
 · have:=Rat.mul_pos hx hy
   have C:xC x=1:=by grind
   have z:xC y=1:=by grind
   rw[C,z];grind
theorem nR{a b c d e f:P2}:0<orZ a b c*orZ d e f↔0<cr a b c*cr d e f:=zHO
theorem zNE{a b c d:P2}(hn:¬(cr a b c=0∧cr a b d=0∧cr c d a=0∧cr c d b=0)):((cr a b c=0∨cr a b d=0)∧(cr c d a=0∨cr c d b=0))↔(a=c∨a=d∨b=c∨b=d):=by
 have C:∀u v w:P2,cr u v w= -cr v u w:=fun u v w=>mL v u w;constructor
 · rintro⟨h1,h2⟩
   -- one end of each
   have z:∀{p q r s:P2},cr p q r=0→cr r s p=0→p=r∨(cr p q s=0∧cr r s q=0):=by
    intro p q r s G D
    rcases zPN G D with h|h
    · exact .inl (Prod.ext h.1 h.2)
    · exact .inr h
   rcases h1 with h1|h1<;>rcases h2 with h2|h2
   · rcases z h1 h2 with h|h
     · exact .inl h
     · exact absurd ⟨h1,h.1,h2,h.2⟩ hn
   · rcases z (p:=b) (q:=a) (r:=c) (s:=d) (by rw[mL,h1];grind) h2 with h|h
     · exact .inr (.inr (.inl h))
     · exact absurd ⟨h1,by rw[C,h.1];grind,h.2,h2⟩ hn
   · rcases z (p:=a) (q:=b) (r:=d) (s:=c) h1 (by rw[mL,h2];grind) with h|h
     · exact .inr (.inl h)
     · exact absurd ⟨h.1,h1,h2,by rw[C,h.2];grind⟩ hn
   · rcases z (p:=b) (q:=a) (r:=d) (s:=c) (by rw[mL,h1];grind) (by rw[mL,h2];grind) with h|h
     · exact .inr (.inr (.inr h))
     · exact absurd ⟨by rw[C,h.1];grind,h1,by rw[C,h.2];grind,h2⟩ hn
 · rintro(h|h|h|h)
   · subst h;exact⟨.inl (eS a b),.inl (eS a d)⟩
   · subst h;exact⟨.inr (eS a b),.inl (zG5 c a)⟩
   · subst h;exact⟨.inl (zG5 a b),.inr (eS b d)⟩
   · subst h;exact⟨.inr (zG5 a b),.inr (zG5 c b)⟩
theorem zUY{a b c d:P2}(hab:¬lx b a)(hcd:¬lx d c):gO a b c d=zFY a b c d:=by
 unfold gO zFY;simp only[gG]
 by_cases hz:cr a b c=0∧cr a b d=0∧cr c d a=0∧cr c d b=0
 · obtain⟨h1,h2,h3,O⟩:=hz
   rw[if_pos (show cr a b c=0∧cr a b d=0∧cr c d a=0∧cr c d b=0 from⟨h1,h2,h3,O⟩),if_pos (show cr a b c=0∧cr a b d=0∧cr c d a=0∧cr c d b=0 from⟨h1,h2,h3,O⟩),zWC hab hcd h1 h2 h3 O];unfold aD;rw[(mA hab).1,(mA hab).2,(mA hcd).1,(mA hcd).2]
   by_cases z:jG a.1 b.1 c.1 d.1∨jG a.2 b.2 c.2 d.2
   · rw[if_pos z]
     have C:=zLH hab hcd h1 h2 h3 O z;unfold mN;rw[if_pos]
     rcases C with C|C
     · have e1:lx a c:=by
        rcases rC.1 hab with e|e
        · exact y7 e C
        · rw[e];exact C
       have e2:¬lx d b:=by
        refine pR ?_
        rcases rC.1 hcd with e|e
        · exact y7 C e
        · rw[←e];exact C
       rw[if_neg e2,if_pos e1];exact C
     · have e1:¬lx a c:=by
        refine pR ?_
        rcases rC.1 hcd with e|e
        · exact y7 e C
        · rw[e];exact C
       have e2:lx d b:=by
        rcases rC.1 hab with e|e
        · exact y7 C e
        · rw[←e];exact C
       rw[if_pos e2,if_neg e1];exact C
   · rw[if_neg z]
 · rw[if_neg hz,if_neg hz]
   by_cases hd:a=b∨c=d
   · rw[if_pos hd]
     have e0:eC a b c d=0:=by
      unfold eC;rw[if_neg]
      rintro(⟨e,h⟩|⟨e,h⟩)
      · subst e
        exact hz ⟨aS _ _,aS _ _,h.2.2,h.2.2⟩
      · subst e
        exact hz ⟨h.2.2,h.2.2,aS _ _,aS _ _⟩
     rw[e0]
     by_cases z:jG a.1 b.1 c.1 d.1∨jG a.2 b.2 c.2 d.2
     · rw[if_pos z]
     · rw[if_neg z,if_pos]
       rw[nR,nR];have D:∀x:Rat,x≠0→0<x*x:=by
        intro x hx
        rcases zAD x 0 with h|h|h
        · have:=Rat.mul_pos (a:=-x) (b:=-x) (by grind) (by grind);grind
        · exact absurd h hx
        · exact Rat.mul_pos h h
       rcases hd with e|e
       · subst e
         right
         refine D _ fun h=>?_;exact hz ⟨aS _ _,aS _ _,h,h⟩
       · subst e
         left
         refine D _ fun h=>?_;exact hz ⟨h,h,aS _ _,aS _ _⟩
   · rw[if_neg hd]
     by_cases hs:0<orZ a b c*orZ a b d∨0<orZ c d a*orZ c d b
     · rw[if_pos hs,if_pos hs]
       split<;>rfl
     · rw[if_neg hs,if_neg hs]
       rw[nR,nR] at hs;have H:cr a b c*cr a b d≤0:=Rat.not_lt.1 fun e=>hs (.inl e);have aa:cr c d a*cr c d b≤0:=Rat.not_lt.1 fun e=>hs (.inr e);have J:¬(jG a.1 b.1 c.1 d.1∨jG a.2 b.2 c.2 d.2):=by
        intro z;have U:∀{p q r s:P2},p≠q→cr p q r=0→cr p q s=0→cr r s p=0∧cr r s q=0:=by
         intro p q r s ab k1 k2;have hu:q.1-p.1≠0∨q.2-p.2≠0:=by
          refine Classical.byContradiction fun e=>ab (Prod.ext ?_ ?_)<;>grind
         have k3:(r.1-p.1)*(q.2-p.2)=(r.2-p.2)*(q.1-p.1):=by unfold cr at k1;grind
         have Z:(s.1-p.1)*(q.2-p.2)=(s.2-p.2)*(q.1-p.1):=by unfold cr at k2;grind
         have k5:=zFM hu k3 Z;unfold cr;constructor<;>grind
        have G:cr a b c-cr a b d= -(cr c d a-cr c d b):=by unfold cr;grind
        have I:cr a b c≠cr a b d:=by
         intro e;rw[e] at H;have h5:=g8 (cr a b d);have h6:cr a b d*cr a b d=0:=by grind
         have M:cr a b d=0:=by rcases tF h6 with h|h<;>exact h
         obtain⟨h8,h9⟩:=U (fun e=>hd (.inl e)) (by rw[e];exact M) M;exact hz ⟨by rw[e];exact M,M,h8,h9⟩
        obtain⟨x,y,k1,k2,k3,Z⟩:=zJG (ax:=a.1) (ay:=a.2) (bx:=b.1) (by':=b.2) (cx:=c.1) (cy:=c.2) (dx:=d.1) (dy:=d.2) I H aa (by intro e;apply I;rw[zXY c d a,zXY c d b,e] at G;grind)
        rcases z with h|h
        · exact pT h k1 k3
        · exact pT h k2 Z
       rw[if_neg J]
       by_cases he:(cr a b c=0∨cr a b d=0)∧(cr c d a=0∨cr c d b=0)
       · rw[if_pos he,if_pos ((zNE hz).1 he)]
       · rw[if_neg he,if_neg (fun e=>he ((zNE hz).2 e))]
theorem zHH(a b c d:P2):gO a b c d=nL a b c d:=by
 rw[zFX];unfold nL;exact zUY (zM1 a b) (zM1 c d)
theorem zB1(a b c d:P2):gO c d a b=gO a b c d:=by
 have C:∀(a b c d:P2),¬lx b a→¬lx d c→mN c d a b=mN a b c d:=by
  intro a b c d _ _;unfold mN;have I:(if lx c a then a else c)=(if lx a c then c else a):=by
   by_cases h:lx a c
   · rw[if_pos h,if_neg (pR h)]
   · rw[if_neg h]
     rcases rC.1 h with h1|h1
     · rw[if_pos h1]
     · rw[h1,if_neg (nY _)]
  have H:(if lx b d then b else d)=(if lx d b then d else b):=by
   by_cases h:lx d b
   · rw[if_pos h,if_neg (pR h)]
   · rw[if_neg h]
     rcases rC.1 h with h1|h1
     · rw[if_pos h1]
     · rw[h1,if_neg (nY _)]
  rw[I,H];simp only[and_comm]
 have z:∀{a b c d:Rat},jG c d a b↔jG a b c d:=by intro a b c d;unfold jG;grind
 unfold gO;have e:aD c d a b=aD a b c d:=C _ _ _ _ (zM1 a b) (zM1 c d);rw[e,z (a:=a.1) (b:=b.1) (c:=c.1) (d:=d.1),z (a:=a.2) (b:=b.2) (c:=c.2) (d:=d.2)];have h3:(orZ c d a=0∧orZ c d b=0∧orZ a b c=0∧orZ a b d=0)↔(orZ a b c=0∧orZ a b d=0∧orZ c d a=0∧orZ c d b=0):=by grind
 have G:(0<orZ c d a*orZ c d b∨0<orZ a b c*orZ a b d)↔(0<orZ a b c*orZ a b d∨0<orZ c d a*orZ c d b):=or_comm;have D:((orZ c d a=0∨orZ c d b=0)∧(orZ a b c=0∨orZ a b d=0))↔((orZ a b c=0∨orZ a b d=0)∧(orZ c d a=0∨orZ c d b=0)):=and_comm;simp only[h3,G,D]
end Bk
namespace Bk
set_option linter.unusedVariables false
set_option linter.unusedSimpArgs false
open Go Go.RowKit
open Classical
def smZ(q:Rat):Int:=if q.den≠1∨1<(zB q.num.natAbs).length then 0 else q.num
def smB(q:Rat):Prop:=q.den=1∧q.num.natAbs<268435456
theorem zLJ{n:Nat}(h:n<4294967296):(zB n).length≤1:=uO (by rw[Nat.pow_one];exact h)
theorem zMH{q:Rat}(h:smB q):(zB q.num.natAbs).length≤1:=zLJ (by have:=h.2;omega)
theorem tR{q:Rat}(h:smB q):q=((smZ q:Int):Rat)∧-268435456<smZ q∧smZ q<268435456:=by
 have h1:=zMH h;have e:smZ q=q.num:=by unfold smZ;rw[if_neg];rintro(e|e);exact e h.1;omega
 have h2:=h.2;refine⟨?_,by rw[e];omega,by rw[e];omega⟩;rw[e];have h3:=Rat.divInt_eq_div q.num q.den;rw[Rat.num_divInt_den,h.1] at h3;rw[h3];have C:((1:Nat):Int)=1:=rfl;have:((q.num:Rat)/((((1:Nat):Int)):Rat))=(q.num:Rat):=by rw[C];have z:((1:Int):Rat)=1:=rfl;rw[z];grind
 rw[this];rw[h3] at *;simp
theorem yB9{q:Rat}(h:(0:Int)<↑(zB (wA q.den)).length∨(1:Int)<↑(zB q.num.natAbs).length):smZ q=0∧¬smB q:=by
 have h1:q.den≠1∨1<(zB q.num.natAbs).length:=by
  rcases h with h|h
  · left;intro e;rw[e,cH,yZ] at h;simp at h
  · right;omega
 refine⟨if_pos h1,fun z=>?_⟩
 rcases h1 with e|e
 · exact e z.1
 · have:=zMH z;omega
theorem zJ4{q:Rat}(h:¬((0:Int)<↑(zB (wA q.den)).length∨(1:Int)<↑(zB q.num.natAbs).length)):q.den=1∧(zB q.num.natAbs).length≤1:=by
 refine⟨(mI q.den_nz).1 ?_,by omega⟩;have:(zB (wA q.den)).length=0:=by omega
 exact List.eq_nil_of_length_eq_zero this
theorem zQI{q:Rat}(h:¬((0:Int)<↑(zB (wA q.den)).length∨(1:Int)<↑(zB q.num.natAbs).length)):smZ q=q.num:=by
 obtain⟨h1,h2⟩:=zJ4 h;unfold smZ;rw[if_neg]
 rintro(e|e)
 · exact e h1
 · omega
theorem yB8{q:Rat}(h:¬((0:Int)<↑(zB (wA q.den)).length∨(1:Int)<↑(zB q.num.natAbs).length))(h0:(↑(zB q.num.natAbs).length:Int)=0):smZ q=0∧smB q:=by
 obtain⟨h1,h2⟩:=zJ4 h;have z:q.num.natAbs=0:=by
  refine Classical.byContradiction fun e=>?_;have:=yK.2 e;omega
 refine⟨by rw[zQI h];omega,h1,by omega⟩
theorem zU3{q:Rat}(h:¬((0:Int)<↑(zB (wA q.den)).length∨(1:Int)<↑(zB q.num.natAbs).length))(h0:¬(↑(zB q.num.natAbs).length:Int)=0):(zB q.num.natAbs).getD 0 0=q.num.natAbs∧q.num.natAbs<4294967296∧(smB q↔q.num.natAbs<268435456):=by
 obtain⟨h1,h2⟩:=zJ4 h;have h3:=dD (xs:=zB q.num.natAbs) (by omega);rw[zD] at h3;have z:=uD q.num.natAbs;have C:(zB q.num.natAbs).length=1:=by omega
 rw[C,Nat.pow_one] at z;exact⟨h3.symm,z,fun e=>e.2,fun e=>⟨h1,e⟩⟩
theorem zEP{x y:Int}{p q:Prop}(h1:x=y)(h2:p↔q):Value.tuple #[vI x,vB p]=.tuple #[vI y,vB q]:=by subst h1;rw[jI h2]
theorem zRD{u v:Int}(h1:-536870912<u)(h2:u<536870912)(h3:-536870912<v)(h4:v<536870912):-288230376151711744≤u*v∧u*v≤288230376151711744:=by
 have z:∀{a b:Int},0≤a→a<536870912→0≤b→b<536870912→0≤a*b∧a*b≤288230376151711744:=by
  intro a b H G C D;have J:=Int.mul_nonneg H C;have I:a*b≤536870912*536870912:=Int.mul_le_mul (by omega) (by omega) C (by omega);omega
 rcases Int.le_total 0 u with hu|hu<;>rcases Int.le_total 0 v with hv|hv
 · have:=z hu h2 hv h4;omega
 · have:=z hu h2 (b:=-v) (by omega) (by omega)
   rw[Int.mul_neg] at this;omega
 · have:=z (a:=-u) (by omega) (by omega) hv h4
   rw[Int.neg_mul] at this;omega
 · have:=z (a:=-u) (b:=-v) (by omega) (by omega) (by omega) (by omega)
   rw[Int.neg_mul_neg] at this;omega
def zD5(n:Int):Int:=if 0<n then 1 else if n<0 then -1 else 0
theorem zB7(n:Int):xC (n:Rat)=zD5 n:=by
 rw[rN];unfold zD5;have h0:((n:Rat)=0)↔n=0:=by
  have e:(0:Rat)=((0:Int):Rat):=rfl;rw[e,Rat.intCast_inj]
 have h1:((n:Rat)<0)↔n<0:=by
  have e:(0:Rat)=((0:Int):Rat):=rfl;rw[e,Rat.intCast_lt_intCast]
 simp only[h0,h1]
 split
 · rename_i h;subst h;simp
 · split
   · rw[if_neg (by omega)]
   · rw[if_pos (by omega)]
theorem zRU{a b c:P2}(h1:smB a.1∧smB a.2)(h2:smB b.1∧smB b.2)(h3:smB c.1∧smB c.2):
 zD5 ((smZ b.1-smZ a.1)*(smZ c.2-smZ a.2)-(smZ b.2-smZ a.2)*(smZ c.1-smZ a.1))=orZ a b c:=by
 rw[←zB7];unfold orZ cr
 congr 1
 rw[Rat.intCast_sub,Rat.intCast_mul,Rat.intCast_mul,Rat.intCast_sub,Rat.intCast_sub,Rat.intCast_sub,Rat.intCast_sub];rw[←(tR h1.1).1,←(tR h1.2).1,←(tR h2.1).1,←(tR h2.2).1,←(tR h3.1).1,←(tR h3.2).1]
theorem zZT(a b c:P2):yP ((b.1-a.1)*(c.2-a.2)) ((b.2-a.2)*(c.1-a.1))=orZ a b c:=by rw[zDP];rfl
theorem fL(a b c:P2):-1≤orZ a b c∧orZ a b c≤1:=yY _
theorem zRE{a b:Pt}{i j:Nat}:pr a i j=pr b i j↔a.at i=b.at i∧a.at j=b.at j:=by unfold pr;rw[Prod.ext_iff]
theorem zT6{a b x:Rat}:((yP a x≤0∧yP x b≤0)∨(0≤yP a x∧0≤yP x b))↔qK a b x:=by
 have h1:=qX (a:=a) (b:=x);have h2:=qX (a:=x) (b:=b);have h3:=zFO a x;have D:=zFO x b;have C:=qX (a:=x) (b:=a);have z:=qX (a:=b) (b:=x);unfold qK;rw[←h1,←h2,←C,←z];omega
theorem zI3{a b:Pt}{i j:Nat}:(yP (a.at i) (b.at i)<0∨(yP (a.at i) (b.at i)=0∧yP (a.at j) (b.at j)<0))↔lx (pr a i j) (pr b i j):=by
 rw[nD,bE,nD];rfl
noncomputable def loT(a b:Pt)(i j:Nat):Pt:=if lx (pr b i j) (pr a i j) then b else a
noncomputable def hiT(a b:Pt)(i j:Nat):Pt:=if lx (pr b i j) (pr a i j) then a else b
noncomputable def mxT(a c:Pt)(i j:Nat):Pt:=if lx (pr a i j) (pr c i j) then c else a
noncomputable def mnT(b d:Pt)(i j:Nat):Pt:=if lx (pr d i j) (pr b i j) then d else b
end Bk
namespace Bk
set_option linter.unusedVariables false
set_option linter.unusedSimpArgs false
open Go Go.RowKit
open Classical
def gp(l:List Pt)(m:Nat):Pt:=l.getD m (T3.mk (0:Rat) 0 0)
def uT(l:List Pt)(i j:Nat):Nat→Rat
  |0=>0
  |m+1=>uT l i j m+((gp l m).at i*(gp l ((m+1)%l.length)).at j-(gp l ((m+1)%l.length)).at i*(gp l m).at j)
theorem zUX(a b c:Pt):xC (uT [a,b,c] 0 1 3)=orZ (pr a 0 1) (pr b 0 1) (pr c 0 1):=by
 have:uT [a,b,c] 0 1 3=cr (pr a 0 1) (pr b 0 1) (pr c 0 1):=by
  simp[uT,gp,pr,cr,T3.at];grind
 unfold orZ;rw[this]
def jF(a b p:P2):Prop:=¬(a.2≤p.2↔b.2≤p.2)∧((a.2≤p.2∧0<orZ a b p)∨(b.2≤p.2∧orZ a b p<0))
def vT(l:List Pt)(i j m:Nat):P2:=pr (gp l m) i j
def vO(l:List Pt)(i j m:Nat):P2:=pr (gp l ((m+1)%l.length)) i j
def jR(l:List Pt)(p:P2)(i j:Nat):Nat→Prop
  |0=>False
  |m+1=>(jF (vT l i j m) (vO l i j m) p∧¬jR l p i j m)∨(¬jF (vT l i j m) (vO l i j m) p∧jR l p i j m)
noncomputable def fS(l:List Pt)(p:P2)(i j:Nat):Int:=
 if ∃m,m<l.length∧onS (vT l i j m) (vO l i j m) p then 0 else if jR l p i j l.length then 1 else -1
theorem zSY{l:List Pt}{p:P2}{i j m:Nat}(hm:m<l.length)(h:onS (vT l i j m) (vO l i j m) p):0=fS l p i j:=(if_pos ⟨m,hm,h⟩).symm
theorem zSZ{l:List Pt}{p:P2}{i j n:Nat}(hn:¬n<l.length)(hn2:n≤l.length)(h:∀q,q<n→¬onS (vT l i j q) (vO l i j q) p)(ho:jR l p i j n):1=fS l p i j:=by
 have e:n=l.length:=by omega
 subst e;unfold fS;rw[if_neg (fun⟨m,C,z⟩=>h m C z),if_pos ho]
theorem zM2{l:List Pt}{p:P2}{i j n:Nat}(hn:¬n<l.length)(hn2:n≤l.length)(h:∀q,q<n→¬onS (vT l i j q) (vO l i j q) p)(ho:¬jR l p i j n):-1=fS l p i j:=by
 have e:n=l.length:=by omega
 subst e;unfold fS;rw[if_neg (fun⟨m,C,z⟩=>h m C z),if_neg ho]
theorem z8{l:List Pt}{p:P2}{i j n:Nat}(h:∀q,q<n→¬onS (vT l i j q) (vO l i j q) p)(h1:¬onS (vT l i j n) (vO l i j n) p):∀q,q<n+1→¬onS (vT l i j q) (vO l i j q) p:=fun q hq=>by
 rcases Nat.lt_succ_iff_lt_or_eq.1 hq with h2|h2
 · exact h q h2
 · subst h2;exact h1
theorem zR1{l:List Pt}{p:P2}{i j n:Nat}(h:(vT l i j n).2≤p.2↔(vO l i j n).2≤p.2):jR l p i j n=jR l p i j (n+1):=by
 have:¬jF (vT l i j n) (vO l i j n) p:=fun z=>z.1 h
 show _=(_∨_)
 simp[this]
theorem zR2{l:List Pt}{p:P2}{i j n:Nat}(h:¬((vT l i j n).2≤p.2↔(vO l i j n).2≤p.2))(h1:((vT l i j n).2≤p.2∧0<orZ (vT l i j n) (vO l i j n) p)∨((vO l i j n).2≤p.2∧orZ (vT l i j n) (vO l i j n) p<0)):(¬jR l p i j n)=jR l p i j (n+1):=by
 have:jF (vT l i j n) (vO l i j n) p:=⟨h,h1⟩
 show _=(_∨_)
 simp[this]
theorem zR0{l:List Pt}{p:P2}{i j n:Nat}(h1:¬(((vT l i j n).2≤p.2∧0<orZ (vT l i j n) (vO l i j n) p)∨((vO l i j n).2≤p.2∧orZ (vT l i j n) (vO l i j n) p<0))):jR l p i j n=jR l p i j (n+1):=by
 have:¬jF (vT l i j n) (vO l i j n) p:=fun z=>h1 z.2
 show _=(_∨_)
 simp[this]
theorem yAB{a b:Pt}(h:¬yP a.x b.x=0):yP a.x b.x<0↔lx (pr a 0 1) (pr b 0 1):=by
 have h2:=zI3 (a:=a) (b:=b) (i:=0) (j:=1);rw[←h2];exact⟨.inl,fun e=>e.elim id fun e=>absurd e.1 h⟩
theorem yAA{a b:Pt}(h:¬¬yP a.x b.x=0):yP a.y b.y<0↔lx (pr a 0 1) (pr b 0 1):=by
 have h1:=Classical.not_not.1 h;have h2:=zI3 (a:=a) (b:=b) (i:=0) (j:=1);rw[←h2];exact⟨fun e=>.inr ⟨h1,e⟩,fun e=>e.elim (fun e=>absurd h1 (by have:yP a.x b.x<0:=e;omega)) fun e=>e.2⟩
theorem zKF(a b:Pt)(i j:Nat):pr (loT a b i j) i j=lo2 (pr a i j) (pr b i j):=zF8 _ _ _ _
theorem zKG(a b:Pt)(i j:Nat):pr (hiT a b i j) i j=hi2 (pr a i j) (pr b i j):=zF8 _ _ _ _
theorem zZV{a b p:Pt}{i j:Nat}:(orZ (pr (loT a b i j) i j) (pr (hiT a b i j) i j) (pr p i j)=0∧¬lx (pr p i j) (pr (loT a b i j) i j)∧¬lx (pr (hiT a b i j) i j) (pr p i j))↔onS (pr a i j) (pr b i j) (pr p i j):=by
 rw[zKF,zKG,←zVX,gG,gG];unfold lo2 hi2
 split
 · rw[mL]
   grind
 · exact Iff.rfl
noncomputable def zDB(a b c d lo hi:Pt):Int:=
 if lx (pr hi 0 1) (pr lo 0 1) then 0 else if ¬pr lo 0 1=pr hi 0 1 then 3
 else if(((pr lo 0 1=pr a 0 1∨pr lo 0 1=pr b 0 1)∧(pr lo 0 1=pr c 0 1∨pr lo 0 1=pr d 0 1))∧onS (pr a 0 1) (pr b 0 1) (pr lo 0 1))∧onS (pr c 0 1) (pr d 0 1) (pr lo 0 1) then 1
 else if onS (pr a 0 1) (pr b 0 1) (pr lo 0 1)∧onS (pr c 0 1) (pr d 0 1) (pr lo 0 1) then 2 else 0
theorem zDA{a b c d lo hi:Pt}(h1:lo=mxT a c 0 1)(h2:hi=mnT b d 0 1):zDB a b c d lo hi=zA5 (pr a 0 1) (pr b 0 1) (pr c 0 1) (pr d 0 1):=by
 have C:pr lo 0 1=if lx (pr a 0 1) (pr c 0 1) then pr c 0 1 else pr a 0 1:=by rw[h1];exact zF8 _ _ _ _
 have z:pr hi 0 1=if lx (pr d 0 1) (pr b 0 1) then pr d 0 1 else pr b 0 1:=by rw[h2];exact zF8 _ _ _ _
 unfold zDB zA5;rw[C,z];simp only[and_assoc,ne_eq]
noncomputable def iI(a b c d:Pt):Int:=
 if((orZ (pr a 0 1) (pr b 0 1) (pr c 0 1)=0∧orZ (pr a 0 1) (pr b 0 1) (pr d 0 1)=0)∧orZ (pr c 0 1) (pr d 0 1) (pr a 0 1)=0)∧orZ (pr c 0 1) (pr d 0 1) (pr b 0 1)=0 then zA5 (pr a 0 1) (pr b 0 1) (pr c 0 1) (pr d 0 1)
 else if pr a 0 1=pr b 0 1∨pr c 0 1=pr d 0 1 then eC (pr a 0 1) (pr b 0 1) (pr c 0 1) (pr d 0 1)
 else if 0<orZ (pr a 0 1) (pr b 0 1) (pr c 0 1)*orZ (pr a 0 1) (pr b 0 1) (pr d 0 1)∨0<orZ (pr c 0 1) (pr d 0 1) (pr a 0 1)*orZ (pr c 0 1) (pr d 0 1) (pr b 0 1) then 0
 else if((pr a 0 1=pr c 0 1∨pr a 0 1=pr d 0 1)∨pr b 0 1=pr c 0 1)∨pr b 0 1=pr d 0 1 then 1 else 2
theorem dG{a b c d A B C D:Pt}(h1:A=loT (T3.mk a.x a.y 0) (T3.mk b.x b.y 0) 0 1)(h2:B=hiT (T3.mk a.x a.y 0) (T3.mk b.x b.y 0) 0 1)(h3:C=loT (T3.mk c.x c.y 0) (T3.mk d.x d.y 0) 0 1)(h4:D=hiT (T3.mk c.x c.y 0) (T3.mk d.x d.y 0) 0 1):
 iI A B C D=nL (pr a 0 1) (pr b 0 1) (pr c 0 1) (pr d 0 1):=by
 have I:pr A 0 1=lo2 (pr a 0 1) (pr b 0 1):=by rw[h1];exact zKF _ _ _ _
 have H:pr B 0 1=hi2 (pr a 0 1) (pr b 0 1):=by rw[h2];exact zKG _ _ _ _
 have G:pr C 0 1=lo2 (pr c 0 1) (pr d 0 1):=by rw[h3];exact zKF _ _ _ _
 have z:pr D 0 1=hi2 (pr c 0 1) (pr d 0 1):=by rw[h4];exact zKG _ _ _ _
 unfold iI nL zFY;rw[I,H,G,z];simp only[and_assoc,or_assoc]
end Bk
namespace Bk
set_option linter.unusedVariables false
set_option linter.unusedSimpArgs false
open Classical
noncomputable def k9(a b:Pt):Pt:=if 0<yP a.y b.y then b else a
noncomputable def zA9(a b:Pt):Pt:=if 0<yP a.y b.y then a else b
theorem zDO(a b p:Pt):((yP (k9 a b).y p.y≤0∧yP p.y (zA9 a b).y<0)∧0<orZ (pr (k9 a b) 0 1) (pr (zA9 a b) 0 1) (pr p 0 1))↔jF (pr a 0 1) (pr b 0 1) (pr p 0 1):=by
 unfold k9 zA9 jF;rw[qX,nD];have G:(pr a 0 1).2=a.y:=rfl;have D:(pr b 0 1).2=b.y:=rfl;have C:(pr p 0 1).2=p.y:=rfl;rw[G,D,C]
 by_cases h:0<yP a.y b.y
 · have h1:=zDQ.1 h
   rw[if_pos h,if_pos h,z6 (pr a 0 1) (pr b 0 1)];constructor
   · rintro⟨⟨h2,h3⟩,z⟩
     exact⟨fun e=>by grind,.inr ⟨h2,by omega⟩⟩
   · rintro⟨h2,h3|h3⟩
     · exact absurd ⟨fun _=>by grind,fun _=>h3.1⟩ h2
     · exact⟨⟨h3.1,by grind⟩,by omega⟩
 · have h1:¬b.y<a.y:=fun e=>h (zDQ.2 e)
   rw[if_neg h,if_neg h];constructor
   · rintro⟨⟨h2,h3⟩,z⟩
     exact⟨fun e=>by grind,.inl ⟨h2,z⟩⟩
   · rintro⟨h2,h3|h3⟩
     · exact⟨⟨h3.1,by grind⟩,h3.2⟩
     · exact absurd ⟨fun _=>h3.1,fun _=>by grind⟩ h2
theorem zZX{l:List Pt}{p:P2}{i j n:Nat}(h:jF (vT l i j n) (vO l i j n) p):(¬jR l p i j n)=jR l p i j (n+1):=by
 show _=(_∨_)
 simp[h]
theorem zVY{l:List Pt}{p:P2}{i j n:Nat}(h:¬jF (vT l i j n) (vO l i j n) p):jR l p i j n=jR l p i j (n+1):=by
 show _=(_∨_)
 simp[h]
noncomputable def dB(L:List (List Pt))(p:P2)(i j:Nat):Nat→Int
  |0=>-1
  |m+1=>if fS (L.getD m []) p i j=1 then -(dB L p i j m) else dB L p i j m
noncomputable def whZ(L:List (List Pt))(p:P2)(i j:Nat):Int:=if ∃m,m<L.length∧fS (L.getD m []) p i j=0 then 0 else dB L p i j L.length
theorem zHD(L:List (List Pt))(p:P2)(i j:Nat):∀m,-1≤dB L p i j m∧dB L p i j m≤1
  |0=>by unfold dB;omega
  |m+1=>by
   have h:=zHD L p i j m;unfold dB
   split<;>omega
theorem zYE{L:List (List Pt)}{p:P2}{i j m:Nat}(h1:¬m<L.length)(h2:m≤L.length)(h:∀q,q<m→¬fS (L.getD q []) p i j=0):dB L p i j m=whZ L p i j:=by
 have e:m=L.length:=by omega
 subst e;exact(if_neg fun⟨q,C,z⟩=>h q C z).symm
theorem zMA{L:List (List Pt)}{p:P2}{i j m:Nat}(h:∀q,q<m→¬fS (L.getD q []) p i j=0)(h1:¬fS (L.getD m []) p i j=0):∀q,q<m+1→¬fS (L.getD q []) p i j=0:=fun q hq=>by
 rcases Nat.lt_succ_iff_lt_or_eq.1 hq with h2|h2
 · exact h q h2
 · subst h2;exact h1
theorem zS9{L:List (List Pt)}{n:Nat}(h:∀x,x∈L→x.length≤n)(m:Nat):(L.getD m []).length≤n:=by
 rw[List.getD_eq_getElem?_getD]
 rcases Nat.lt_or_ge m L.length with h1|h1
 · rw[List.getElem?_eq_getElem h1]
   exact h _ (List.getElem_mem h1)
 · rw[List.getElem?_eq_none h1]
   exact Nat.zero_le _
end Bk
namespace Bk
set_option linter.unusedVariables false
open Classical
def zMQ(R:Nat→Nat→Prop)(n a:Nat):Prop:=∀p q,p<a→p<q→q<n→R p q
def rowTo(R:Nat→Nat→Prop)(a b:Nat):Prop:=∀q,a<q→q<b→R a q
def yDI(l:List Pt)(i j p q:Nat):Prop:=¬pr (gp l p) i j=pr (gp l q) i j
noncomputable def zEN(n p q:Nat):Int:=if q=p+1∨(p=0∧q+1=n) then 1 else 0
def okT(l:List Pt)(i j p q:Nat):Prop:=gO (vT l i j p) (vO l i j p) (vT l i j q) (vO l i j q)=zEN l.length p q
def aU(l:List Pt)(i j:Nat):Prop:=3≤l.length∧zMQ (yDI l i j) l.length l.length∧zMQ (okT l i j) l.length l.length
theorem zYF{n p q:Nat}(h:q=p+1∨(p=0∧q+1=n)):(1:Int)=zEN n p q:=(if_pos h).symm
theorem zYG{n p q:Nat}(h:¬(q=p+1∨(p=0∧q+1=n))):(0:Int)=zEN n p q:=(if_neg h).symm
end Bk
namespace Bk
set_option linter.unusedVariables false
set_option linter.unusedSimpArgs false
open Classical
def cW(a b:Pt):Pt:=T3.mk (a.x+b.x) (a.y+b.y) (a.z+b.z)
def moved(l l':List Pt)(v:Pt):Prop:=l'.length=l.length∧∀q,q<l.length→gp l' q=cW (gp l q) v
def sh(a v:P2):P2:=(a.1+v.1,a.2+v.2)
end Bk
namespace Bk
set_option linter.unusedVariables false
set_option linter.unusedSimpArgs false
open Classical
def reved(l z:List Pt):Prop:=z.length=l.length∧∀q,q<l.length→gp z q=gp l (l.length-1-q)
def sN(n m:Nat):Nat:=if m+1=n then m else n-2-m
def movTo(l y:List Pt)(v:Pt)(m:Nat):Prop:=y.length=m∧∀q,q<m→gp y q=cW (gp l q) v
def revTo(l z:List Pt)(m:Nat):Prop:=z.length=m∧∀q,q<m→gp z q=gp l (l.length-1-q)
end Bk
namespace Bk
set_option linter.unusedVariables false
set_option linter.unusedSimpArgs false
open Classical
def lZ(l:List Pt):Prop:=aU l 0 1→¬uT l 0 1 l.length=0
theorem zPL{l:List Pt}(h:¬uT l 0 1 l.length=0):lZ l:=fun _=>h
abbrev PI:=Int×Int
def crI(u v w:PI):Int:=(v.1-u.1)*(w.2-u.2)-(v.2-u.2)*(w.1-u.1)
def sgI(n:Int):Int:=if 0<n then 1 else if n<0 then -1 else 0
def orI(u v w:PI):Int:=sgI (crI u v w)
def lxI(u v:PI):Bool:=decide (u.1<v.1∨(u.1=v.1∧u.2<v.2))
def apI(a b c d:Int):Bool:=decide ((a<c∧a<d∧b<c∧b<d)∨(c<a∧d<a∧c<b∧d<b))
def alS(a b c d:PI):Int:=
 if lxI (if lxI d b then d else b) (if lxI a c then c else a) then 0 else if lxI (if lxI a c then c else a) (if lxI d b then d else b) then 3
 else if((if lxI a c then c else a)=a∨(if lxI a c then c else a)=b)∧((if lxI a c then c else a)=c∨(if lxI a c then c else a)=d) then 1 else 2
def alI(a b c d:PI):Int:=alS (if lxI b a then b else a) (if lxI b a then a else b) (if lxI d c then d else c) (if lxI d c then c else d)
def toI(a b c d:PI):Int:=
 if apI a.1 b.1 c.1 d.1∨apI a.2 b.2 c.2 d.2 then 0
 else if orI a b c=0∧orI a b d=0∧orI c d a=0∧orI c d b=0 then alI a b c d
 else if 0<orI a b c*orI a b d∨0<orI c d a*orI c d b then 0
 else if(orI a b c=0∨orI a b d=0)∧(orI c d a=0∨orI c d b=0) then 1 else 2
def af(x y r:Int)(u:PI):P2:=(((x+r*u.1:Int):Rat),((y+r*u.2:Int):Rat))
def rg(k:Nat):PI:=([(2,0),(2,1),(1,2),(-1,2),(-2,0),(-2,-1),(0,-2),(1,-1)]:List PI).getD k (0,0)
def gi(s:List Nat)(m:Nat):PI:=rg (s.getD m 0)
def arI(s:List Nat):Nat→Int
  |0=>0
  |m+1=>arI s m+((gi s m).1*(gi s ((m+1)%s.length)).2-(gi s ((m+1)%s.length)).1*(gi s m).2)
def waI(n p q:Nat):Int:=if q=p+1∨(p=0∧q+1=n) then 1 else 0
def badI(s:List Nat):Bool:=(List.range s.length).any fun q=>(List.range q).any fun p=>!decide (toI (gi s p) (gi s ((p+1)%s.length)) (gi s q) (gi s ((q+1)%s.length))=waI s.length p q)
def okI(s:List Nat):Bool:=decide (s.length<3)||!decide (arI s s.length=0)||badI s
def swI:List Nat→List Nat
  |a::b::l=>b::a::l
  |l=>l
def yB4:List Nat→List (List Nat)
  |[]=>[[]]
  |a::l=>yB4 l++(yB4 l).map (a::·)
def rp3(x y r:Int)(k:Nat):Pt:=T3.mk (((x+r*(rg k).1:Int)):Rat) (((y+r*(rg k).2:Int)):Rat) (0:Rat)
noncomputable def rgK(t:Prop)(i:Nat):Nat:=if t then 7-i else i
def rgF(x y r:Int)(t:Prop)(i:Nat)(l:List Pt):Prop:=∃s:List Nat,s.Sublist ((List.range i).map (rgK t))∧l=s.map (rp3 x y r)
def rvP(l0 l:List Pt)(i:Nat):Prop:=l.length=l0.length∧∀q,q<l0.length→gp l q=if q<i∨l0.length≤q+i then gp l0 (l0.length-1-q) else gp l0 q
end Bk
namespace Bk
set_option linter.unusedVariables false
set_option linter.unusedSimpArgs false
open Classical
def j3(a b:List Pt)(i j p q:Nat):Prop:=1<gO (vT a i j p) (vO a i j p) (vT b i j q) (vO b i j q)
def fQ(a b:List Pt)(i j:Nat):Prop:=∃p q,p<a.length∧q<b.length∧j3 a b i j p q
theorem zQ2{Q:Nat→Nat→Prop}{p q n:Nat}(h:∀v,v<q→¬Q p v)(h1:¬Q p q):∀v,v<q+1→¬Q p v:=fun v hv=>by
 rcases Nat.lt_succ_iff_lt_or_eq.1 hv with h2|h2
 · exact h v h2
 · subst h2;exact h1
theorem vG{Q:Nat→Prop}{q:Nat}(h:∀v,v<q→Q v)(h1:Q q):∀v,v<q+1→Q v:=fun v hv=>by
 rcases Nat.lt_succ_iff_lt_or_eq.1 hv with h2|h2
 · exact h v h2
 · subst h2;exact h1
theorem zOF{Q:Nat→Nat→Prop}{p q n:Nat}(h:∀u v,u<p→v<n→¬Q u v)(h1:∀v,v<q→¬Q p v)(hq:n≤q):∀u v,u<p+1→v<n→¬Q u v:=fun u v hu hv=>by
 rcases Nat.lt_succ_iff_lt_or_eq.1 hu with h2|h2
 · exact h u v h2 hv
 · subst h2;exact h1 v (by omega)
theorem zP8{Q:Nat→Nat→Prop}{p q:Nat}(h:∀u v,v<p→u<v→¬Q u v)(h1:∀u,u<q→¬Q u p)(hq:p≤q):∀u v,v<p+1→u<v→¬Q u v:=fun u v hv hu=>by
 rcases Nat.lt_succ_iff_lt_or_eq.1 hv with h2|h2
 · exact h u v h2 hu
 · subst h2;exact h1 u (by omega)
noncomputable def zV9(u v:P2):P2:=(zBC u.1 v.1,zBC u.2 v.2)
noncomputable def cJ(c l:List Pt)(i j:Nat):Nat→Int
  |0=>0
  |m+1=>if fS c (zV9 (vT l i j m) (vO l i j m)) i j=1 then cJ c l i j m+1 else cJ c l i j m
theorem nK(c l:List Pt)(i j:Nat):∀m,0≤cJ c l i j m∧cJ c l i j m≤m
  |0=>by unfold cJ;omega
  |m+1=>by
   have h:=nK c l i j m;unfold cJ
   split<;>omega
theorem zYA{c l:List Pt}{i j m:Nat}{p:P2}(hp:p=zV9 (vT l i j m) (vO l i j m))(h:fS c p i j=1):cJ c l i j m+1=cJ c l i j (m+1):=by subst hp;exact(if_pos h).symm
theorem zYB{c l:List Pt}{i j m:Nat}{p:P2}(hp:p=zV9 (vT l i j m) (vO l i j m))(h:¬fS c p i j=1):cJ c l i j m=cJ c l i j (m+1):=by subst hp;exact(if_neg h).symm
def arZ(l:List Pt)(i j:Nat):Rat:=uT l i j l.length
noncomputable def wiZ(c l:List Pt)(i j:Nat):Int:=cJ c l i j l.length
abbrev gl(L:List (List Pt))(m:Nat):List Pt:=L.getD m []
def betP(L:List (List Pt))(i j k m:Nat)(best:Int):Prop:=
 (0<xC (arZ (gl L m) i j)∧wiZ (gl L m) (gl L k) i j=↑(gl L k).length)∧(best<0∨yP (arZ (gl L m) i j) (arZ (gl L best.toNat) i j)<0)
noncomputable def rR(L:List (List Pt))(i j k:Nat):Nat→Int
  |0=>-1
  |m+1=>if betP L i j k m (rR L i j k m) then ↑m else rR L i j k m
theorem s7(L:List (List Pt))(i j k:Nat):∀m,-1≤rR L i j k m∧rR L i j k m<m
  |0=>by unfold rR;omega
  |m+1=>by
   have h:=s7 L i j k m;unfold rR
   split<;>omega
noncomputable def pZ(L:List (List Pt))(i j k:Nat):Int:=if 0<xC (arZ (gl L k) i j) then -1 else rR L i j k L.length
def t6(L:List (List Pt))(i j a b:Nat):Prop:=((¬b=a∧0≤pZ L i j a)∧pZ L i j b=pZ L i j a)∧0<wiZ (gl L b) (gl L a) i j
def mP(L:List (List Pt))(i j k:Nat):Prop:=¬0<xC (arZ (gl L k) i j)∧rR L i j k L.length<0
noncomputable def vS(L:List (List Pt))(i j:Nat):Int:=
 if 16<L.length∨∃m,m<L.length∧64<(gl L m).length then 2
 else if ∃m,m<L.length∧¬aU (gl L m) i j then 8
 else if ∃a b,a<b∧b<L.length∧fQ (gl L a) (gl L b) i j then 32
 else if(∃k,k<L.length∧mP L i j k)∨∃a b,a<L.length∧b<L.length∧t6 L i j a b then 33 else 0
noncomputable def tE(L:List (List Pt))(i j:Nat):List Int:=if vS L i j=0 then(List.range L.length).map (pZ L i j) else[]
theorem zGN{L:List (List Pt)}{i j:Nat}(h:16<L.length∨∃m,m<L.length∧64<(gl L m).length):vS L i j=2∧tE L i j=[]:=by
 have e:vS L i j=2:=if_pos h;exact⟨e,if_neg (by rw[e];decide)⟩
theorem zSE{L:List (List Pt)}{i j:Nat}(h1:¬16<L.length)(h2:∀m,m<L.length→¬64<(gl L m).length)(h:∃m,m<L.length∧¬aU (gl L m) i j):vS L i j=8∧tE L i j=[]:=by
 have e:vS L i j=8:=by
  unfold vS;rw[if_neg (by rintro(h|⟨m,z,h⟩);exact h1 h;exact h2 m z h),if_pos h]
 exact⟨e,if_neg (by rw[e];decide)⟩
theorem zMV{L:List (List Pt)}{i j:Nat}(h1:¬16<L.length)(h2:∀m,m<L.length→¬64<(gl L m).length)(h3:∀m,m<L.length→aU (gl L m) i j)(h:∃a b,a<b∧b<L.length∧fQ (gl L a) (gl L b) i j):vS L i j=32∧tE L i j=[]:=by
 have e:vS L i j=32:=by
  unfold vS;rw[if_neg (by rintro(h|⟨m,z,h⟩);exact h1 h;exact h2 m z h),if_neg (by rintro⟨m,z,h⟩;exact h (h3 m z)),if_pos h]
 exact⟨e,if_neg (by rw[e];decide)⟩
theorem zBM{L:List (List Pt)}{i j:Nat}(h1:¬16<L.length)(h2:∀m,m<L.length→¬64<(gl L m).length)(h3:∀m,m<L.length→aU (gl L m) i j)(h4:∀a b,b<L.length→a<b→¬fQ (gl L a) (gl L b) i j)
    (h:(∃k,k<L.length∧mP L i j k)∨∃a b,a<L.length∧b<L.length∧t6 L i j a b):vS L i j=33∧tE L i j=[]:=by
 have e:vS L i j=33:=by
  unfold vS;rw[if_neg (by rintro(h|⟨m,z,h⟩);exact h1 h;exact h2 m z h),if_neg (by rintro⟨m,z,h⟩;exact h (h3 m z)),if_neg (by rintro⟨a,b,D,C,h⟩;exact h4 a b C D h),if_pos h]
 exact⟨e,if_neg (by rw[e];decide)⟩
theorem zSS{O:List Int}{n:Nat}{f:Nat→Int}(hl:O.length=n)(h:∀q,q<n→O.getD q 0=f q):O=(List.range n).map f:=by
 refine List.ext_getElem (by simp[hl]) fun q h1 h2=>?_;have h3:=h q (by omega);rw[List.getD_eq_getElem?_getD,List.getElem?_eq_getElem h1] at h3;simp only[Option.getD_some] at h3;simp[h3]
theorem zSF{L:List (List Pt)}{i j:Nat}{O:List Int}(h1:¬16<L.length)(h2:∀m,m<L.length→¬64<(gl L m).length)(h3:∀m,m<L.length→aU (gl L m) i j)(h4:∀a b,b<L.length→a<b→¬fQ (gl L a) (gl L b) i j)
    (h5:∀k,k<L.length→¬mP L i j k)(h6:∀a b,a<L.length→b<L.length→¬t6 L i j a b)(hl:O.length=L.length)(hO:∀q,q<L.length→O.getD q 0=pZ L i j q):vS L i j=0∧tE L i j=O:=by
 have e:vS L i j=0:=by
  unfold vS;rw[if_neg (by rintro(h|⟨m,z,h⟩);exact h1 h;exact h2 m z h),if_neg (by rintro⟨m,z,h⟩;exact h (h3 m z)),if_neg (by rintro⟨a,b,D,C,h⟩;exact h4 a b C D h),
   if_neg (by rintro(⟨k,G,h⟩|⟨a,b,D,C,h⟩);exact h5 k G h;exact h6 a b D C h)]
 exact⟨e,by unfold tE;rw[if_pos e];exact(zSS hl hO).symm⟩
end Bk
namespace Bk
set_option linter.unusedVariables false
set_option linter.unusedSimpArgs false
open Go Go.RowKit
open Classical
abbrev Pl:=Pt×Rat
theorem gR{x:Rat}:xC x=1↔0<x:=by
 have h2:=yY x;rw[←eD];omega
theorem kL{x:Rat}:xC x= -1↔x<0:=by
 have h2:=yY x;rw[←qO];omega
theorem fV{a b:Pt}:a=b↔a.x=b.x∧a.y=b.y∧a.z=b.z:=by cases a;cases b;exact T3.mk.injEq ..▸Iff.rfl
noncomputable def axI(n:Pt):Nat:=if 0<n.z then 0 else if n.z<0 then 1 else if 0<n.y then 2 else if n.y<0 then 0 else if 0<n.x then 1 else if n.x<0 then 2 else 1
noncomputable def axJ(n:Pt):Nat:=if 0<n.z then 1 else if n.z<0 then 0 else if 0<n.y then 0 else if n.y<0 then 2 else if 0<n.x then 2 else if n.x<0 then 1 else 2
noncomputable def axK(n:Pt):Nat:=if n.z≠0 then 2 else if n.y≠0 then 1 else 0
theorem zDZ(n:Pt):(0<n.z∧axI n=0∧axJ n=1∧axK n=2)∨(n.z<0∧axI n=1∧axJ n=0∧axK n=2)∨(n.z=0∧0<n.y∧axI n=2∧axJ n=0∧axK n=1)∨(n.z=0∧n.y<0∧axI n=0∧axJ n=2∧axK n=1)∨
 (n.z=0∧n.y=0∧0<n.x∧axI n=1∧axJ n=2∧axK n=0)∨(n.z=0∧n.y=0∧n.x<0∧axI n=2∧axJ n=1∧axK n=0)∨(n.z=0∧n.y=0∧n.x=0∧axI n=1∧axJ n=2∧axK n=0):=by
 have C:∀a:Rat,0<a∨(a<0∧¬0<a)∨(a=0∧¬0<a∧¬a<0):=fun a=>by grind
 unfold axI axJ axK
 rcases C n.z with h|⟨h,h'⟩|⟨h,h',h''⟩
 · left;simp only[if_pos h,if_pos (show n.z≠0 by grind)];exact⟨h,trivial,trivial,trivial⟩
 · right;left;simp only[if_neg h',if_pos h,if_pos (show n.z≠0 by grind)];exact⟨h,trivial,trivial,trivial⟩
 · simp only[if_neg h',if_neg h'',if_neg (show ¬n.z≠0 by grind)]
   rcases C n.y with k|⟨k,k'⟩|⟨k,k',k''⟩
   · right;right;left;simp only[if_pos k,if_pos (show n.y≠0 by grind)];exact⟨h,k,trivial,trivial,trivial⟩
   · right;right;right;left;simp only[if_neg k',if_pos k,if_pos (show n.y≠0 by grind)];exact⟨h,k,trivial,trivial,trivial⟩
   · simp only[if_neg k',if_neg k'',if_neg (show ¬n.y≠0 by grind)]
     rcases C n.x with l|⟨l,l'⟩|⟨l,l',l''⟩
     · right;right;right;right;left;simp only[if_pos l];exact⟨h,k,l,trivial,trivial,trivial⟩
     · right;right;right;right;right;left;simp only[if_neg l',if_pos l];exact⟨h,k,l,trivial,trivial,trivial⟩
     · right;right;right;right;right;right;simp only[if_neg l',if_neg l''];exact⟨h,k,l,trivial,trivial,trivial⟩
theorem zDY(n:Pt):axI n+axJ n≤3∧axI n<3∧axJ n<3∧axK n=3-axI n-axJ n:=by
 rcases zDZ n with h|h|h|h|h|h|h<;>omega
theorem zUB(n:Pt):axI n<3:=(zDY n).2.1
theorem zUA(n:Pt):axJ n<3:=(zDY n).2.2.1
theorem zW9(n:Pt):n.at (axK n)=0↔n=T3.mk (0:Rat) 0 0:=by
 obtain⟨x,y,z⟩:=n;rw[T3.mk.injEq]
 rcases zDZ ⟨x,y,z⟩ with h|h|h|h|h|h|h<;>simp only at h<;>obtain⟨h,h1⟩:=h
 all_goals first|rw[h1.2.2]|rw[h1.2.2.2]|rw[h1.2.2.2.2]
 all_goals simp only[T3.at]
 all_goals grind
noncomputable def qY(pl:Pl)(p:Pt):Pt:=T3.mk (p.at (axI pl.1)) (p.at (axJ pl.1)) (0:Rat)
noncomputable def yC4(pl:Pl)(q:Pt):Rat:=if pl.1.at (axK pl.1)=0 then 0 else(pl.2-(pl.1.at (axI pl.1)*q.x+pl.1.at (axJ pl.1)*q.y))/pl.1.at (axK pl.1)
noncomputable def liftZ(pl:Pl)(q:Pt):Pt:=if pl.1.at (axK pl.1)=0 then T3.mk (0:Rat) 0 0 else(((T3.mk (0:Rat) 0 0).set (axI pl.1) q.x).set (axJ pl.1) q.y).set (axK pl.1) (yC4 pl q)
def wO(a b:Pt):Rat:=a.x*b.x+a.y*b.y+a.z*b.z
def wH(a b:Pt):Pt:=T3.mk (a.y*b.z-a.z*b.y) (a.z*b.x-a.x*b.z) (a.x*b.y-a.y*b.x)
def qL(a b:Pt):Pt:=T3.mk (a.x-b.x) (a.y-b.y) (a.z-b.z)
theorem zHP(a:Rat):yP a 0=xC a:=by rw[zDP,show a-0=a by grind]
theorem zQQ{c:Rat}(hc:0<c)(x:Rat):xC (c*x)=xC x:=by
 have h:=zTS x 0 c;rw[Rat.zero_mul,zHP,zHP,gR.2 hc,Int.mul_one,Rat.mul_comm] at h;exact h
theorem zXA(n:Pt):(axI n=0∧axJ n=1∧axK n=2)∨(axI n=1∧axJ n=0∧axK n=2)∨(axI n=2∧axJ n=0∧axK n=1)∨(axI n=0∧axJ n=2∧axK n=1)∨(axI n=1∧axJ n=2∧axK n=0)∨(axI n=2∧axJ n=1∧axK n=0):=by
 rcases zDZ n with h|h|h|h|h|h|h<;>omega
end Bk
namespace Bk
set_option linter.unusedVariables false
set_option linter.unusedSimpArgs false
open Classical
def ag(x p y q:Rat)(u:PI):P2:=(x+p*(u.1:Rat),y+q*(u.2:Rat))
theorem zJR{x p:Rat}{u v:Int}(hp:0<p):x+p*(u:Rat)<x+p*(v:Rat)↔u<v:=by
 constructor
 · intro h
   refine Int.not_le.1 fun e=>?_;have h1:(v:Rat)≤(u:Rat):=Rat.intCast_le_intCast.2 e;have h2:=Rat.mul_le_mul_of_nonneg_left h1 (Rat.le_of_lt hp);grind
 · intro h
   have h1:(u:Rat)<(v:Rat):=Rat.intCast_lt_intCast.2 h;have h2:=Rat.mul_lt_mul_of_pos_left h1 hp;grind
theorem zL6{x p:Rat}{u v:Int}(hp:0<p):x+p*(u:Rat)=x+p*(v:Rat)↔u=v:=by
 constructor
 · intro h
   rcases Int.lt_trichotomy u v with h1|h1|h1
   · have:=(zJR (x:=x) hp).2 h1;grind
   · exact h1
   · have:=(zJR (x:=x) hp).2 h1;grind
 · rintro rfl;rfl
variable {x p y q:Rat}
theorem yDS(u v w:PI):cr (ag x p y q u) (ag x p y q v) (ag x p y q w)=p*q*((crI u v w:Int):Rat):=by
 unfold cr ag crI;simp only[Rat.intCast_sub,Rat.intCast_mul];grind
theorem sG(hp:0<p)(hq:0<q):0<p*q:=by
 have:=Rat.mul_lt_mul_of_pos_left hq hp;grind
theorem yDR(hp:0<p)(hq:0<q)(u v w:PI):orZ (ag x p y q u) (ag x p y q v) (ag x p y q w)=orI u v w:=by
 unfold orZ orI;rw[yDS,zQQ (sG hp hq),zB7]
 rfl
theorem zX4(hp:0<p)(hq:0<q)(u v:PI):lx (ag x p y q u) (ag x p y q v)↔lxI u v=true:=by
 unfold lx lxI;rw[decide_eq_true_iff];unfold ag;simp only[zJR hp,zJR hq,zL6 hp]
theorem zX5(hp:0<p)(hq:0<q)(u v:PI):ag x p y q u=ag x p y q v↔u=v:=by
 obtain⟨C,z⟩:=u;obtain⟨v1,v2⟩:=v;unfold ag;rw[Prod.mk.injEq,Prod.mk.injEq,zL6 hp,zL6 hq]
theorem zX6{a b c d:Int}(hp:0<p):jG (x+p*(a:Rat)) (x+p*(b:Rat)) (x+p*(c:Rat)) (x+p*(d:Rat))↔apI a b c d=true:=by
 unfold jG apI;rw[decide_eq_true_iff];simp only[zJR hp]
theorem zUF{c:Prop} [Decidable c](u v:PI):(if c then ag x p y q u else ag x p y q v)=ag x p y q (if c then u else v):=by split<;>rfl
theorem yDT(hp:0<p)(hq:0<q)(a b c d:PI):mN (ag x p y q a) (ag x p y q b) (ag x p y q c) (ag x p y q d)=alS a b c d:=by
 unfold mN alS;simp only[zX4 hp hq,zUF,zX5 hp hq]
theorem zUE(hp:0<p)(hq:0<q)(a b c d:PI):gO (ag x p y q a) (ag x p y q b) (ag x p y q c) (ag x p y q d)=toI a b c d:=by
 have C:jG (ag x p y q a).1 (ag x p y q b).1 (ag x p y q c).1 (ag x p y q d).1↔apI a.1 b.1 c.1 d.1=true:=zX6 hp;have z:jG (ag x p y q a).2 (ag x p y q b).2 (ag x p y q c).2 (ag x p y q d).2↔apI a.2 b.2 c.2 d.2=true:=zX6 hq;unfold gO toI aD alI lo2 hi2;simp only[yDR hp hq,C,z,zX4 hp hq,zUF,yDT hp hq]
def gI(s:List PI)(m:Nat):PI:=s.getD m (0,0)
def yCF(s:List PI):Bool:=decide (3≤s.length)&&(List.range s.length).all fun b=>(List.range b).all fun a=>!decide (gI s a=gI s b)&&decide (toI (gI s a) (gI s ((a+1)%s.length)) (gI s b) (gI s ((b+1)%s.length))=waI s.length a b)
theorem zHZ(hp:0<p)(hq:0<q){l:List Pt}{s:List PI}(hl:l.length=s.length)(h:∀m,m<s.length→pr (gp l m) 0 1=ag x p y q (gI s m))(hb:yCF s=true):aU l 0 1:=by
 unfold yCF at hb;rw[Bool.and_eq_true,decide_eq_true_iff,List.all_eq_true] at hb;obtain⟨h3,hb⟩:=hb;have g:∀a b,a<b→b<s.length→¬gI s a=gI s b∧toI (gI s a) (gI s ((a+1)%s.length)) (gI s b) (gI s ((b+1)%s.length))=waI s.length a b:=fun a b z C=>by
  have h1:=List.all_eq_true.1 (hb b (List.mem_range.2 C)) a (List.mem_range.2 z);rw[Bool.and_eq_true,Bool.not_eq_true',decide_eq_false_iff_not,decide_eq_true_iff] at h1;exact h1
 refine⟨by omega,fun a b G z D=>?_,fun a b G z D=>?_⟩
 · show ¬pr (gp l a) 0 1=pr (gp l b) 0 1
   rw[h a (by omega),h b (by omega),zX5 hp hq];exact(g a b z (by omega)).1
 · show gO (vT l 0 1 a) (vO l 0 1 a) (vT l 0 1 b) (vO l 0 1 b)=zEN l.length a b
   unfold vT vO;rw[hl,h a (by omega),h b (by omega),h _ (Nat.mod_lt _ (by omega)),h _ (Nat.mod_lt _ (by omega)),zUE hp hq];exact(g a b z (by omega)).2
theorem zIT{P:List Pt}(hs:aU P 0 1)(hl:P.length≤64)(ha:0<xC (arZ P 0 1)):vS [P] 0 1=0:=by
 have C:∀m,m<[P].length→gl [P] m=P:=fun m z=>by
  rw[show m=0 by rw[List.length_singleton] at z;omega];rfl
 unfold vS;rw[if_neg (fun e=>by
  rcases e with e|⟨m,z,e⟩
  · rw[List.length_singleton] at e;omega
  · rw[C m z] at e;omega),if_neg (fun e=>by
  obtain⟨m,z,e⟩:=e;rw[C m z] at e;exact e hs),if_neg (fun e=>by
  obtain⟨a,b,G,D,_⟩:=e;rw[List.length_singleton] at D;omega),if_neg (fun e=>by
  rcases e with⟨k,hk,e⟩|⟨a,b,ha',hb',e⟩
  · rw[mP,C k hk] at e;exact e.1 ha
  · rw[List.length_singleton] at ha' hb'
    exact e.1.1.1 (by omega))]
end Bk
namespace Bk
set_option linter.unusedVariables false
set_option linter.unusedSimpArgs false
open Classical
theorem zMR(u v w:P2):0<orZ u v w↔0<cr u v w:=eD
theorem zRV(u v w:P2):orZ u v w<0↔cr u v w<0:=qO
theorem zNG{a b p:P2}(h:a.2=b.2):¬jF a b p:=fun e=>e.1 (by rw[h])
theorem zWZ{a b p:P2}(h:a.1=b.1)(hu:a.2<b.2):jF a b p↔(a.2≤p.2∧p.2<b.2)∧p.1<a.1:=by
 have e:cr a b p=(b.2-a.2)*(a.1-p.1):=by unfold cr;rw[←h];grind
 have z:0<b.2-a.2:=by grind
 have g:0<cr a b p↔p.1<a.1:=by
  rw[e];constructor
  · intro k
    refine Rat.not_le.1 fun C=>?_;have:0≤(b.2-a.2)*(p.1-a.1):=Rat.mul_nonneg (Rat.le_of_lt z) (by grind);grind
  · intro k
    exact sG z (by grind)
 have D:cr a b p<0↔a.1<p.1:=by
  rw[e];constructor
  · intro k
    refine Rat.not_le.1 fun C=>?_;have:0≤(b.2-a.2)*(a.1-p.1):=Rat.mul_nonneg (Rat.le_of_lt z) (by grind);grind
  · intro k
    have:=sG z (show 0<p.1-a.1 by grind);grind
 unfold jF;rw[zMR,zRV,g,D];constructor
 · rintro⟨h1,h2⟩
   rcases h2 with⟨h3,h4⟩|⟨h3,h4⟩
   · exact⟨⟨h3,Rat.not_le.1 fun k=>h1 ⟨fun _=>k,fun _=>h3⟩⟩,h4⟩
   · exact absurd ⟨fun _=>h3,fun _=>by grind⟩ h1
 · rintro⟨⟨h1,h2⟩,h3⟩
   exact⟨fun k=>absurd (k.1 h1) (Rat.not_le.2 h2),.inl ⟨h1,h3⟩⟩
theorem zW0{a b p:P2}(h:a.1=b.1)(hu:b.2<a.2):jF a b p↔(b.2≤p.2∧p.2<a.2)∧p.1<a.1:=by
 have e:cr a b p= -((a.2-b.2)*(a.1-p.1)):=by unfold cr;rw[←h];grind
 have z:0<a.2-b.2:=by grind
 have g:cr a b p<0↔p.1<a.1:=by
  rw[e];constructor
  · intro k
    refine Rat.not_le.1 fun C=>?_;have:0≤(a.2-b.2)*(p.1-a.1):=Rat.mul_nonneg (Rat.le_of_lt z) (by grind);grind
  · intro k
    have:=sG z (show 0<a.1-p.1 by grind);grind
 have D:0<cr a b p↔a.1<p.1:=by
  rw[e];constructor
  · intro k
    refine Rat.not_le.1 fun C=>?_;have:0≤(a.2-b.2)*(a.1-p.1):=Rat.mul_nonneg (Rat.le_of_lt z) (by grind);grind
  · intro k
    have:=sG z (show 0<p.1-a.1 by grind);grind
 unfold jF;rw[zMR,zRV,g,D];constructor
 · rintro⟨h1,h2⟩
   rcases h2 with⟨h3,h4⟩|⟨h3,h4⟩
   · exact absurd ⟨fun _=>by grind,fun _=>h3⟩ h1
   · exact⟨⟨h3,Rat.not_le.1 fun k=>h1 ⟨fun _=>h3,fun _=>k⟩⟩,h4⟩
 · rintro⟨⟨h1,h2⟩,h3⟩
   exact⟨fun k=>absurd (k.2 h1) (Rat.not_le.2 h2),.inr ⟨h1,h3⟩⟩
def rcP(x y X Y:Rat):List P2:=[(x,y),(X,y),(X,Y),(x,Y)]
def zZL(l:List Pt)(i j:Nat)(x y X Y:Rat):Prop:=l.length=4∧∃r,r<4∧∀m,m<4→pr (gp l m) i j=(rcP x y X Y).getD ((m+r)%4) (0,0)
variable {x y X Y:Rat}
theorem yCW{a b p:P2}(h:a.2=b.2):onS a b p↔p.2=a.2∧qK a.1 b.1 p.1:=by
 unfold onS;constructor
 · rintro⟨h1,h2,h3⟩
   unfold qK at h2;exact⟨by grind,h1⟩
 · rintro⟨h1,h2⟩
   refine⟨h2,?_,?_⟩
   · unfold qK;grind
   · unfold cr;grind
theorem yCV{a b p:P2}(h:a.1=b.1):onS a b p↔p.1=a.1∧qK a.2 b.2 p.2:=by
 unfold onS;constructor
 · rintro⟨h1,h2,h3⟩
   unfold qK at h1;exact⟨by grind,h2⟩
 · rintro⟨h1,h2⟩
   refine⟨?_,h2,?_⟩
   · unfold qK;grind
   · unfold cr;grind
def bdP(x y X Y:Rat)(p:P2):Prop:=(x≤p.1∧p.1≤X∧y≤p.2∧p.2≤Y)∧¬(x<p.1∧p.1<X∧y<p.2∧p.2<Y)
def zLQ(x y X Y:Rat)(p:P2):Prop:=x<p.1∧p.1<X∧y<p.2∧p.2<Y
theorem zSX{l:List Pt}{i j:Nat}{p:P2}(hx:x<X)(hy:y<Y)(h:zZL l i j x y X Y):fS l p i j=if bdP x y X Y p then 0 else if zLQ x y X Y p then 1 else -1:=by
 obtain⟨U,r,hr,hm⟩:=h;have J:∀m,m<4→vT l i j m=(rcP x y X Y).getD ((m+r)%4) (0,0):=hm;have I:∀m,m<4→vO l i j m=(rcP x y X Y).getD ((m+1+r)%4) (0,0):=fun m h4=>by
  unfold vO;rw[U,hm _ (Nat.mod_lt _ (by decide))]
  congr 1
  omega
 have M:(∃m,m<l.length∧onS (vT l i j m) (vO l i j m) p)↔bdP x y X Y p:=by
  have O:(∃m,m<l.length∧onS (vT l i j m) (vO l i j m) p)↔(onS (x,y) (X,y) p∨onS (X,y) (X,Y) p∨onS (X,Y) (x,Y) p∨onS (x,Y) (x,y) p):=by
   rw[U];constructor
   · rintro⟨m,h4,C⟩
     rw[J m h4,I m h4] at C;have e:(m+1+r)%4=((m+r)%4+1)%4:=by omega
     rw[e] at C;generalize hq:(m+r)%4=q at C;have:q=0∨q=1∨q=2∨q=3:=by omega
     rcases this with rfl|rfl|rfl|rfl
     · exact .inl C
     · exact .inr (.inl C)
     · exact .inr (.inr (.inl C))
     · exact .inr (.inr (.inr C))
   · have g:∀q,q<4→onS ((rcP x y X Y).getD q (0,0)) ((rcP x y X Y).getD ((q+1)%4) (0,0)) p→∃m,m<4∧onS (vT l i j m) (vO l i j m) p:=fun q hq C=>by
      refine⟨(q+4-r)%4,Nat.mod_lt _ (by decide),?_⟩;rw[J _ (Nat.mod_lt _ (by decide)),I _ (Nat.mod_lt _ (by decide)),show((q+4-r)%4+r)%4=q by omega,show((q+4-r)%4+1+r)%4=(q+1)%4 by omega];exact C
     rintro(C|C|C|C)
     · exact g 0 (by decide) C
     · exact g 1 (by decide) C
     · exact g 2 (by decide) C
     · exact g 3 (by decide) C
  have o1:onS (x,y) (X,y) p↔p.2=y∧qK x X p.1:=yCW rfl;have o2:onS (X,y) (X,Y) p↔p.1=X∧qK y Y p.2:=yCV rfl;have o3:onS (X,Y) (x,Y) p↔p.2=Y∧qK X x p.1:=yCW rfl;have o4:onS (x,Y) (x,y) p↔p.1=x∧qK Y y p.2:=yCV rfl;rw[O,o1,o2,o3,o4];unfold qK bdP;constructor
  · rintro(⟨h1,h2⟩|⟨h1,h2⟩|⟨h1,h2⟩|⟨h1,h2⟩)<;>refine⟨⟨?_,?_,?_,?_⟩,?_⟩<;>grind
  · rintro⟨⟨a1,a2,a3,a4⟩,hn⟩
    by_cases e1:p.2=y
    · exact .inl ⟨e1,.inl ⟨a1,a2⟩⟩
    · by_cases e2:p.1=X
      · exact .inr (.inl ⟨e2,.inl ⟨a3,a4⟩⟩)
      · by_cases e3:p.2=Y
        · exact .inr (.inr (.inl ⟨e3,by grind⟩))
        · by_cases e4:p.1=x
          · exact .inr (.inr (.inr ⟨e4,by grind⟩))
          · exact absurd ⟨by grind,by grind,by grind,by grind⟩ hn
 have G:¬bdP x y X Y p→(jR l p i j l.length↔zLQ x y X Y p):=by
  intro H;rw[U];have c0:¬jF ((rcP x y X Y).getD 0 (0,0)) ((rcP x y X Y).getD 1 (0,0)) p:=zNG rfl;have c1:jF ((rcP x y X Y).getD 1 (0,0)) ((rcP x y X Y).getD 2 (0,0)) p↔(y≤p.2∧p.2<Y)∧p.1<X:=zWZ (a:=(X,y)) (b:=(X,Y)) rfl hy;have c2:¬jF ((rcP x y X Y).getD 2 (0,0)) ((rcP x y X Y).getD 3 (0,0)) p:=zNG rfl;have c3:jF ((rcP x y X Y).getD 3 (0,0)) ((rcP x y X Y).getD 0 (0,0)) p↔(y≤p.2∧p.2<Y)∧p.1<x:=zW0 (a:=(x,Y)) (b:=(x,y)) rfl hy;have Z:zLQ x y X Y p↔((y≤p.2∧p.2<Y)∧p.1<X)∧¬((y≤p.2∧p.2<Y)∧p.1<x):=by
   unfold bdP at H;unfold zLQ;grind
  rw[Z,←c1,←c3];have D:∀n,jR l p i j (n+1)↔(jF (vT l i j n) (vO l i j n) p∧¬jR l p i j n)∨(¬jF (vT l i j n) (vO l i j n) p∧jR l p i j n):=fun n=>Iff.rfl;have z:¬jR l p i j 0:=id;rw[D 3,D 2,D 1,D 0,J 0 (by decide),J 1 (by decide),J 2 (by decide),J 3 (by decide),I 0 (by decide),I 1 (by decide),I 2 (by decide),I 3 (by decide)];have:r=0∨r=1∨r=2∨r=3:=by omega
  have aa:jF ((rcP x y X Y).getD 3 (0,0)) ((rcP x y X Y).getD 0 (0,0)) p→jF ((rcP x y X Y).getD 1 (0,0)) ((rcP x y X Y).getD 2 (0,0)) p:=fun e=>c1.2 ⟨(c3.1 e).1,by have:=(c3.1 e).2;grind⟩
  rcases this with rfl|rfl|rfl|rfl<;>simp only[Nat.reduceAdd,Nat.reduceMod,c0,c2,z]<;>grind
 unfold fS
 by_cases H:bdP x y X Y p
 · rw[if_pos (M.2 H),if_pos H]
 · rw[if_neg fun e=>H (M.1 e),if_neg H]
   by_cases hi:zLQ x y X Y p
   · rw[if_pos ((G H).2 hi),if_pos hi]
   · rw[if_neg fun e=>hi ((G H).1 e),if_neg hi]
end Bk
namespace Bk
set_option linter.unusedVariables false
set_option linter.unusedSimpArgs false
open Classical
def exI(h l2 h2 l3 h3:Rat):Prop:=0<h∧(l2<h∧h<h2)∧l3<h∧h<h3
def oK(h l2 h2 l3 h3:Rat):Prop:=0<h→(l2≤h∧h≤h2)→(l3≤h∧h≤h3)→(l2<h∧h<h2)∧l3<h∧h<h3
noncomputable def pK(p:Prop):Int:=if p then 1 else 0
theorem bS{p:Prop}(h:p):pK p=1:=if_pos h
theorem jC{p:Prop}(h:¬p):pK p=0:=if_neg h
variable {l1 h1 l2 h2 l3 h3:Rat}
theorem yAY(a1:l1<h1)(a2:l2<h2)(a3:l3<h3)(k1:oK h1 l2 h2 l3 h3)(k2:oK h2 l1 h1 l3 h3)(k3:oK h3 l1 h1 l2 h2):
 pK (exI h1 l2 h2 l3 h3)+pK (exI h2 l1 h1 l3 h3)+pK (exI h3 l1 h1 l2 h2)=pK ((0<h1∧0<h2∧0<h3)∧(l1<h2∧l1<h3)∧(l2<h1∧l2<h3)∧l3<h1∧l3<h2):=by
 by_cases hc:(0<h1∧0<h2∧0<h3)∧(l1<h2∧l1<h3)∧(l2<h1∧l2<h3)∧l3<h1∧l3<h2
 · rw[bS hc]
   obtain⟨⟨I,H,G⟩,⟨q1,q2⟩,⟨Z,U⟩,O,M⟩:=hc
   by_cases e1:h1≤h2∧h1≤h3
   · have s:=k1 I ⟨by grind,e1.1⟩ ⟨by grind,e1.2⟩
     have D:exI h1 l2 h2 l3 h3:=⟨I,s⟩;have C:¬exI h2 l1 h1 l3 h3:=fun e=>by unfold exI at e;grind
     have z:¬exI h3 l1 h1 l2 h2:=fun e=>by unfold exI at e;grind
     rw[bS D,jC C,jC z];rfl
   · by_cases e2:h2≤h1∧h2≤h3
     · have s:=k2 H ⟨by grind,e2.1⟩ ⟨by grind,e2.2⟩
       have D:¬exI h1 l2 h2 l3 h3:=fun e=>by unfold exI at e;grind
       have C:exI h2 l1 h1 l3 h3:=⟨H,s⟩;have z:¬exI h3 l1 h1 l2 h2:=fun e=>by unfold exI at e;grind
       rw[jC D,bS C,jC z];rfl
     · have J:h3≤h1∧h3≤h2:=by grind
       have s:=k3 G ⟨by grind,J.1⟩ ⟨by grind,J.2⟩;have D:¬exI h1 l2 h2 l3 h3:=fun e=>by unfold exI at e;grind
       have C:¬exI h2 l1 h1 l3 h3:=fun e=>by unfold exI at e;grind
       have z:exI h3 l1 h1 l2 h2:=⟨G,s⟩;rw[jC D,jC C,bS z];rfl
 · have D:¬exI h1 l2 h2 l3 h3:=fun e=>hc (by unfold exI at e;grind)
   have C:¬exI h2 l1 h1 l3 h3:=fun e=>hc (by unfold exI at e;grind);have z:¬exI h3 l1 h1 l2 h2:=fun e=>hc (by unfold exI at e;grind);rw[jC D,jC C,jC z,jC hc];rfl
def enI(l l2 h2 l3 h3:Rat):Prop:=0<l∧(l2<l∧l<h2)∧l3<l∧l<h3
theorem yA2(a1:l1<h1)(a2:l2<h2)(a3:l3<h3)(k1:oK l1 l2 h2 l3 h3)(k2:oK l2 l1 h1 l3 h3)(k3:oK l3 l1 h1 l2 h2):
 pK (enI l1 l2 h2 l3 h3)+pK (enI l2 l1 h1 l3 h3)+pK (enI l3 l1 h1 l2 h2)=pK ((0<l1∨0<l2∨0<l3)∧(l1<h2∧l1<h3)∧(l2<h1∧l2<h3)∧l3<h1∧l3<h2):=by
 by_cases hc:(0<l1∨0<l2∨0<l3)∧(l1<h2∧l1<h3)∧(l2<h1∧l2<h3)∧l3<h1∧l3<h2
 · rw[bS hc]
   obtain⟨Z,⟨U,O⟩,⟨M,J⟩,I,H⟩:=hc
   by_cases e1:l2≤l1∧l3≤l1
   · have p:0<l1:=by grind
     have s:=k1 p ⟨e1.1,by grind⟩ ⟨e1.2,by grind⟩;have D:enI l1 l2 h2 l3 h3:=⟨p,s⟩;have C:¬enI l2 l1 h1 l3 h3:=fun e=>by unfold enI at e;grind
     have z:¬enI l3 l1 h1 l2 h2:=fun e=>by unfold enI at e;grind
     rw[bS D,jC C,jC z];rfl
   · by_cases e2:l1≤l2∧l3≤l2
     · have p:0<l2:=by grind
       have s:=k2 p ⟨e2.1,by grind⟩ ⟨e2.2,by grind⟩;have D:¬enI l1 l2 h2 l3 h3:=fun e=>by unfold enI at e;grind
       have C:enI l2 l1 h1 l3 h3:=⟨p,s⟩;have z:¬enI l3 l1 h1 l2 h2:=fun e=>by unfold enI at e;grind
       rw[jC D,bS C,jC z];rfl
     · have G:l1≤l3∧l2≤l3:=by grind
       have p:0<l3:=by grind
       have s:=k3 p ⟨G.1,by grind⟩ ⟨G.2,by grind⟩;have D:¬enI l1 l2 h2 l3 h3:=fun e=>by unfold enI at e;grind
       have C:¬enI l2 l1 h1 l3 h3:=fun e=>by unfold enI at e;grind
       have z:enI l3 l1 h1 l2 h2:=⟨p,s⟩;rw[jC D,jC C,bS z];rfl
 · have D:¬enI l1 l2 h2 l3 h3:=fun e=>hc (by unfold enI at e;grind)
   have C:¬enI l2 l1 h1 l3 h3:=fun e=>hc (by unfold enI at e;grind);have z:¬enI l3 l1 h1 l2 h2:=fun e=>hc (by unfold enI at e;grind);rw[jC D,jC C,jC z,jC hc];rfl
theorem yAC(a1:l1<h1)(a2:l2<h2)(a3:l3<h3)(k1:oK h1 l2 h2 l3 h3)(k2:oK h2 l1 h1 l3 h3)(k3:oK h3 l1 h1 l2 h2)(m1:oK l1 l2 h2 l3 h3)(m2:oK l2 l1 h1 l3 h3)(m3:oK l3 l1 h1 l2 h2)
    (h0:l1≤0∧0≤h1→l2≤0∧0≤h2→l3≤0∧0≤h3→(l1<0∧0<h1)∧(l2<0∧0<h2)∧l3<0∧0<h3):
    pK (exI h1 l2 h2 l3 h3)+pK (exI h2 l1 h1 l3 h3)+pK (exI h3 l1 h1 l2 h2)-(pK (enI l1 l2 h2 l3 h3)+pK (enI l2 l1 h1 l3 h3)+pK (enI l3 l1 h1 l2 h2))=pK ((l1<0∧0<h1)∧(l2<0∧0<h2)∧l3<0∧0<h3):=by
 rw[yAY a1 a2 a3 k1 k2 k3,yA2 a1 a2 a3 m1 m2 m3]
 by_cases hm:(l1<h2∧l1<h3)∧(l2<h1∧l2<h3)∧l3<h1∧l3<h2
 · by_cases hp:0<h1∧0<h2∧0<h3
   · by_cases z:0<l1∨0<l2∨0<l3
     · have hi:¬((l1<0∧0<h1)∧(l2<0∧0<h2)∧l3<0∧0<h3):=fun e=>by grind
       rw[bS ⟨hp,hm⟩,bS ⟨z,hm⟩,jC hi];rfl
     · have hi:=h0 ⟨by grind,by grind⟩ ⟨by grind,by grind⟩ ⟨by grind,by grind⟩
       rw[bS ⟨hp,hm⟩,jC fun e=>z e.1,bS hi];rfl
   · have z:¬(0<l1∨0<l2∨0<l3):=fun e=>by grind
     have hi:¬((l1<0∧0<h1)∧(l2<0∧0<h2)∧l3<0∧0<h3):=fun e=>by grind
     rw[jC fun e=>hp e.1,jC fun e=>z e.1,jC hi];rfl
 · have hi:¬((l1<0∧0<h1)∧(l2<0∧0<h2)∧l3<0∧0<h3):=fun e=>hm (by grind)
   rw[jC fun e=>hm e.2,jC fun e=>hm e.2,jC hi];rfl
end Bk
namespace Bk
set_option linter.unusedVariables false
set_option linter.unusedSimpArgs false
open Classical
open Go Go.RowKit
def kF:Rp (List Nat) where
 n:=1
 agg:=false
 R _ cs s:=cs=[.string (uU s)]∧ByB s
 len:=by rintro h cs s ⟨rfl,_⟩;rfl
 mono:=fun _ r=>r
 one:=by rintro h cs s ⟨rfl,_⟩;rfl
 cell:=fun _=>rfl
theorem bV{h:Mem}{s:List Nat}(hb:ByB s):kF.Is h (.string (uU s)) s:=⟨_,⟨rfl,hb⟩,rfl⟩
theorem kJ{h:Mem}{v:Value}{s:List Nat}(r:kF.Is h v s):v=.string (uU s)∧ByB s:=by
 obtain⟨cs,⟨rfl,z⟩,rfl⟩:=r;exact⟨rfl,z⟩
theorem tS{h:Mem}:kF.R h [.string ⟨#[]⟩] []:=⟨rfl,ByB.nil⟩
def lsN:List Nat→List Nat→Prop
  |[],[]=>False
  |[],_::_=>True
  |_::_,[]=>False
  |x::a,y::b=>if x=y then lsN a b else x<y
def rpV:Rp Value where
 n:=1
 agg:=false
 R _ cs v:=cs=[v]∧v.oneCell'=true
 len:=by rintro h cs v ⟨rfl,_⟩;rfl
 mono:=fun _ r=>r
 one:=by rintro h cs v ⟨rfl,hv⟩;simp[hv]
 cell:=fun _=>rfl
theorem zAH{h:Mem}{v:Value}(hv:v.oneCell'=true):rpV.Is h v v:=⟨_,⟨rfl,hv⟩,rfl⟩
theorem of_v{h:Mem}{u v:Value}(r:rpV.Is h u v):v=u:=by
 obtain⟨cs,⟨rfl,z⟩,rfl⟩:=r
 rfl
theorem pV{h:Mem}:rpV.R h [.slice none 0 0] (.slice none 0 0):=⟨rfl,rfl⟩
section
variable {α β γ δ:Type}{h:Mem}
theorem zJ7{ρ:Rp α}{v:Value}{xs:List α}(r:(rpS ρ).Is h v xs):(rpS ρ).R h [v] xs:=by
 obtain⟨cs,⟨u,ds,rfl,s,z⟩,rfl⟩:=r;exact⟨_,ds,rfl,s,z⟩
theorem zJV{π:Rp α}{ρ:Rp β}{τ:Rp γ}{cs:List Value}{p:α}{v:Value}{s:γ}{xs:List β}(r:(rpP π (rpP rpV τ)).R h cs (p,(v,s)))(k:(rpS ρ).Is h v xs):(rpP π (rpP (rpS ρ) τ)).R h cs (p,(xs,s)):=by
 obtain⟨a,b,e,D,c,d,G,⟨C,_⟩,z⟩:=r;exact⟨a,b,e,D,c,d,G,by rw[show c=[v] from C];exact zJ7 k,z⟩
theorem zYI{ρ:Rp β}{τ:Rp γ}{cs:List Value}{v:Value}{s:γ}{xs:List β}(r:(rpP rpV τ).R h cs (v,s))(k:(rpS ρ).Is h v xs):(rpP (rpS ρ) τ).R h cs (xs,s):=by
 obtain⟨c,d,D,⟨C,_⟩,z⟩:=r;exact⟨c,d,D,by rw[show c=[v] from C];exact zJ7 k,z⟩
end
section
variable {P:Program}{n:Nat}{w0:World}{h0:Mem}{e:List (Nat×Value)}{L:List Res}{h:Mem}
theorem yAN{E k m:Nat}{v:Value}{cs:List Value}{base:Nat}{w:World}(hok:(Res.gs E k v m cs).ok base w):v.oneCell'=true:=by
 obtain⟨_,z⟩:=hok
 rcases z with⟨rfl,_⟩|⟨g,cap,cur,rfl,_⟩<;>rfl
theorem qP{o:Oper}{A B:List Res}{r:Res}{E k m:Nat}{G:List Value→Prop}(hv:zA8 P n w0 h0 o e A r B h (fun u r'=>∃cs',r'=.gs E k u m cs'∧G cs')):zA8 P n w0 h0 o e A r B h (fun u r'=>u.oneCell'=true∧∃cs',r'=.gs E k u m cs'∧G cs'):=by
 intro a w H S;obtain⟨v,z,r',h1,h2,h3,D,cs',rfl,C⟩:=hv a w H S;exact⟨v,z,_,h1,h2,h3,D,yAN h3,cs',rfl,C⟩
theorem bM{o:Oper}{R:List Res}{Z:Value}(hv:OpX P n w0 h0 o e R h (fun u=>rpV.Is h u Z)):OpX P n w0 h0 o e R h (fun u=>Z=u):=by
 obtain⟨v,a,b⟩:=hv;exact⟨v,a,of_v b⟩
end
section
variable {α β:Type}
def jL(g:Nat→α):Nat→List α
  |0=>[]
  |i+1=>jL g i++[g i]
def rW(g:Nat→List α):Nat→List α
  |0=>[]
  |i+1=>rW g i++g i
noncomputable def cQ(p:Nat→Prop)(g:Nat→α):Nat→List α
  |0=>[]
  |i+1=>cQ p g i++(if p i then[g i] else[])
theorem dT{p:Nat→Prop}{g:Nat→α}{i:Nat}(h:p i):cQ p g i++[g i]=cQ p g (i+1):=by show _=_++_;rw[if_pos h]
theorem dU{p:Nat→Prop}{g:Nat→α}{i:Nat}(h:¬p i):cQ p g i=cQ p g (i+1):=by show _=_++_;rw[if_neg h,List.append_nil]
theorem eF{p:Nat→Prop}{g:Nat→α}:∀n,cQ p g n=[]↔∀i,i<n→¬p i
  |0=>⟨fun _ i h=>absurd h (Nat.not_lt_zero i),fun _=>rfl⟩
  |n+1=>by
   show _++_=[]↔_
   rw[List.append_eq_nil_iff,eF n];constructor
   · rintro⟨h1,h2⟩ i hi
     rcases Nat.lt_succ_iff_lt_or_eq.1 hi with h|h
     · exact h1 i h
     · subst h;intro e;rw[if_pos e] at h2;exact absurd h2 (by simp)
   · intro h
     exact⟨fun i hi=>h i (by omega),if_neg (h n (by omega))⟩
theorem rO(p:Nat→Prop)(g:Nat→α):∀n,(cQ p g n).length≤n
  |0=>Nat.le_refl _
  |n+1=>by
   have:=rO p g n
   show List.length (_++_)≤_
   rw[lAz]
   split<;>simp<;>omega
theorem xL(g:Nat→α):∀n,(jL g n).length=n
  |0=>rfl
  |n+1=>by show List.length (_++_)=_;rw[lAz,xL g n];rfl
theorem kB(g:Nat→α)(d:α):∀{n i},i<n→(jL g n).getD i d=g i
  |0,i,h=>absurd h (Nat.not_lt_zero i)
  |n+1,i,h=>by
   show(jL g n++[g n]).getD i d=_
   rcases Nat.lt_succ_iff_lt_or_eq.1 h with h|h
   · rw[List.getD_eq_getElem?_getD,List.getElem?_append_left (by rw[xL];exact h),←List.getD_eq_getElem?_getD];exact kB g d h
   · subst h
     rw[List.getD_eq_getElem?_getD,List.getElem?_append_right (by rw[xL];exact Nat.le_refl _),xL,Nat.sub_self];rfl
theorem zNY{l:List α}(d:α){i:Nat}(h:i<l.length):l.take (i+1)=l.take i++[l.getD i d]:=by
 rw[List.take_succ_eq_append_getElem h,List.getD_eq_getElem?_getD,List.getElem?_eq_getElem h];rfl
theorem zTA{L:List (List α)}{n:Nat}(h:∀x,x∈L→x.length≤n)(m:Nat):(L.getD m []).length≤n:=by
 rw[List.getD_eq_getElem?_getD]
 rcases Nat.lt_or_ge m L.length with h1|h1
 · rw[List.getElem?_eq_getElem h1];exact h _ (List.getElem_mem h1)
 · rw[List.getElem?_eq_none h1];exact Nat.zero_le _
theorem zMX{g:Nat→α}{x:α}:∀{n},x∈jL g n→∃i,i<n∧x=g i
  |0,h=>absurd h List.not_mem_nil
  |n+1,h=>by
   rcases List.mem_append.1 (show x∈jL g n++[g n] from h) with h|h
   · obtain⟨i,hi,e⟩:=zMX h;exact⟨i,by omega,e⟩
   · exact⟨n,by omega,List.mem_singleton.1 h⟩
theorem zDK{g:Nat→List α}{x:α}:∀{n},x∈rW g n→∃i,i<n∧x∈g i
  |0,h=>absurd h List.not_mem_nil
  |n+1,h=>by
   rcases List.mem_append.1 (show x∈rW g n++g n from h) with h|h
   · obtain⟨i,hi,e⟩:=zDK h;exact⟨i,by omega,e⟩
   · exact⟨n,by omega,h⟩
theorem bW{l:List α}{d:α}{i:Nat}(h:i<l.length):l.getD i d∈l:=by
 rw[List.getD_eq_getElem?_getD,List.getElem?_eq_getElem h];exact List.getElem_mem h
noncomputable def cV(p:Nat→Prop):Nat→Nat
  |0=>0
  |k+1=>if p k then cV p k else k+1
theorem zL0{p:Nat→Prop}{k:Nat}(hk:0<k)(h:p (k-1)):cV p k=cV p (k-1):=by
 match k,hk with
 |k+1,_=>exact if_pos h
theorem zDS{p:Nat→Prop}{k:Nat}(h:¬(0<k∧p (k-1))):cV p k=k:=by
 match k with
 |0=>rfl
 |k+1=>exact if_neg fun e=>h ⟨by omega,e⟩
theorem zBU(p:Nat→Prop):∀k,cV p k≤k
  |0=>Nat.le_refl _
  |k+1=>by
   have:=zBU p k;unfold cV
   split<;>omega
def eT(l:List α)(k:Nat)(x:α):List α:=l.take k++x::l.drop k
theorem zDF(l:List α){k:Nat}(x:α)(h:k≤l.length):(eT l k x).length=l.length+1:=by
 unfold eT;rw[lAz,lC,List.length_take,List.length_drop];omega
theorem zOD{n u:Nat}(h:u<n):(List.replicate n False).getD u False↔False:=by
 rw[List.getD_eq_getElem?_getD,List.getElem?_replicate,if_pos h];exact Iff.rfl
end
end Bk
namespace Bk
set_option linter.unusedVariables false
set_option linter.unusedSimpArgs false
open Classical
def lpP(x:List Int):Prop:=(3≤x.length∧x.length≤64)∧∀i,i<x.length→(0≤(x.getD i 0)∧(x.getD i 0)<512)∧∀k,k<i→¬(x.getD i 0)=(x.getD k 0)
def vfP(L:List (List Int)):Prop:=(1≤L.length∧L.length≤16)∧∀l,l<L.length→lpP ((L.getD l []))
def vaP(F:List (List (List Int))):Prop:=F.length≤256∧∀f,f<F.length→vfP ((F.getD f []))
abbrev E5:=Int×Int×Int×Int×Int
def edX(x:List Int)(f l:Nat):Nat→List E5:=jL fun i=>((x.getD i 0),(x.getD ((i+1)%x.length) 0),(f:Int),(l:Int),(i:Int))
def edL(L:List (List Int))(f:Nat):Nat→List E5:=rW fun l=>edX ((L.getD l [])) f l ((L.getD l [])).length
def edF(F:List (List (List Int))):Nat→List E5:=rW fun f=>edL ((F.getD f [])) f ((F.getD f [])).length
def edZ(F:List (List (List Int))):List E5:=edF F F.length
abbrev e0:E5:=((0:Int),(0:Int),(0:Int),(0:Int),(0:Int))
def zWX(e:E5)(a b:Int):Prop:=e.1=a∧e.2.1=b
noncomputable def dL(E:List E5)(a b:Int):Nat→Int
  |0=>0
  |m+1=>if zWX ((E.getD m ((0:Int),(0:Int),(0:Int),(0:Int),(0:Int)))) a b then dL E a b m+1 else dL E a b m
theorem dH(E:List E5)(a b:Int):∀m,0≤dL E a b m∧dL E a b m≤m
  |0=>by unfold dL;omega
  |m+1=>by
   have h:=dH E a b m;unfold dL
   split<;>omega
theorem tm_t{E:List E5}{a b:Int}{m:Nat}(h:zWX ((E.getD m ((0:Int),(0:Int),(0:Int),(0:Int),(0:Int)))) a b):dL E a b m+1=dL E a b (m+1):=(if_pos h).symm
theorem tm_f{E:List E5}{a b:Int}{m:Nat}(h:¬zWX ((E.getD m ((0:Int),(0:Int),(0:Int),(0:Int),(0:Int)))) a b):dL E a b m=dL E a b (m+1):=(if_neg h).symm
noncomputable def tmZ(E:List E5)(a b:Int):Int:=dL E a b E.length
def yDD(E:List E5)(i:Nat):Prop:=tmZ E ((E.getD i ((0:Int),(0:Int),(0:Int),(0:Int),(0:Int)))).2.1 ((E.getD i ((0:Int),(0:Int),(0:Int),(0:Int),(0:Int)))).1<tmZ E ((E.getD i ((0:Int),(0:Int),(0:Int),(0:Int),(0:Int)))).1 ((E.getD i ((0:Int),(0:Int),(0:Int),(0:Int),(0:Int)))).2.1
noncomputable def yA9(E:List E5):Nat→List E5:=cQ (yDD E) fun i=>((30:Int),(-1:Int),((E.getD i ((0:Int),(0:Int),(0:Int),(0:Int),(0:Int)))).2.2.1,((E.getD i ((0:Int),(0:Int),(0:Int),(0:Int),(0:Int)))).2.2.2.1,((E.getD i ((0:Int),(0:Int),(0:Int),(0:Int),(0:Int)))).2.2.2.2)
noncomputable def clZ(F:List (List (List Int))):List E5:=if vaP F then yA9 (edZ F) (edZ F).length else[((1:Int),(-1:Int),(-1:Int),(-1:Int),(-1:Int))]
theorem zJC(x:List Int)(f l m:Nat):(edX x f l m).length=m:=xL _ _
theorem zDM{L:List (List Int)}(h:∀l,l<L.length→((L.getD l [])).length≤64)(f:Nat):∀m,m≤L.length→(edL L f m).length≤64*m
  |0,_=>Nat.le_refl _
  |m+1,hm=>by
   have h1:=zDM h f m (by omega);have h2:=h m (by omega)
   show List.length (edL L f m++edX (L.getD m []) f m (L.getD m []).length)≤_
   rw[lAz,zJC];omega
theorem j0{F:List (List (List Int))}(h:∀f,f<F.length→((F.getD f [])).length≤16∧∀l,l<((F.getD f [])).length→((((F.getD f [])).getD l [])).length≤64):∀m,m≤F.length→(edF F m).length≤1024*m
  |0,_=>Nat.le_refl _
  |m+1,hm=>by
   have h1:=j0 h m (by omega);have h2:=h m (by omega);have h3:=zDM h2.2 m _ (Nat.le_refl _)
   show List.length (edF F m++edL (F.getD m []) m (F.getD m []).length)≤_
   rw[lAz];omega
end Bk
namespace Bk
set_option linter.unusedVariables false
set_option linter.unusedSimpArgs false
open Classical
def hgt(pl:Pl)(p:Pt):Rat:=wO pl.1 p-pl.2
noncomputable def sdZ(pl:Pl)(p:Pt):Int:=xC (hgt pl p)
theorem oB(pl:Pl)(p:Pt):-1≤sdZ pl p∧sdZ pl p≤1:=yY _
def lerp(t:Rat)(a b:Pt):Pt:=T3.mk (a.x+t*(b.x-a.x)) (a.y+t*(b.y-a.y)) (a.z+t*(b.z-a.z))
noncomputable def yDJ(pl:Pl)(a b:Pt):Rat:=if hgt pl a-hgt pl b=0 then 0 else hgt pl a/(hgt pl a-hgt pl b)
noncomputable def btw(pl:Pl)(a b:Pt):Pt:=lerp (yDJ pl a b) a b
abbrev nx(l:List Pt)(m:Nat):Pt:=gp l ((m+1)%l.length)
def xP(pl:Pl)(l:List Pt)(m:Nat):Prop:=sdZ pl (gp l m)*sdZ pl (nx l m)<0
noncomputable def yBK(pl:Pl)(l:List Pt):Nat→List Pt
  |0=>[]
  |m+1=>yBK pl l m++(if sdZ pl (gp l m)≤0 then[gp l m] else[])++(if xP pl l m then[btw pl (gp l m) (nx l m)] else[])
noncomputable def yAS(pl:Pl)(l:List Pt):Nat→List Pt
  |0=>[]
  |m+1=>yAS pl l m++(if 0≤sdZ pl (gp l m) then[gp l m] else[])++(if xP pl l m then[btw pl (gp l m) (nx l m)] else[])
def zX3(pl:Pl)(l:List Pt):Nat→Prop
  |0=>False
  |m+1=>zX3 pl l m∨sdZ pl (gp l m)<0
def zUD(pl:Pl)(l:List Pt):Nat→Prop
  |0=>False
  |m+1=>zUD pl l m∨0<sdZ pl (gp l m)
noncomputable def cutB(pl:Pl)(l:List Pt):List Pt:=if zX3 pl l l.length∨¬zUD pl l l.length then yBK pl l l.length else[]
noncomputable def cutF(pl:Pl)(l:List Pt):List Pt:=if zUD pl l l.length then yAS pl l l.length else[]
section
variable {pl:Pl}{l B:List Pt}{m:Nat}
noncomputable def bkH(pl:Pl)(l:List Pt)(m:Nat):List Pt:=yBK pl l m++(if sdZ pl (gp l m)≤0 then[gp l m] else[])
noncomputable def frH(pl:Pl)(l:List Pt)(m:Nat):List Pt:=yAS pl l m++(if 0≤sdZ pl (gp l m) then[gp l m] else[])
end
end Bk
namespace Bk
set_option linter.unusedVariables false
set_option linter.unusedSimpArgs false
open Classical
theorem zTP{a b:List Pt}{p q:Nat}:2≤nL (vT a 0 1 p) (vO a 0 1 p) (vT b 0 1 q) (vO b 0 1 q)↔j3 a b 0 1 p q:=by
 unfold j3;rw[zHH];omega
theorem zPT{a b:List Pt}{p q:Nat}(h:j3 a b 0 1 p q):j3 b a 0 1 q p:=by
 unfold j3 at *;rw[zB1];exact h
theorem mK{a b:List Pt}(h:fQ a b 0 1):fQ b a 0 1:=by
 obtain⟨p,q,C,z,h⟩:=h;exact⟨q,p,z,C,zPT h⟩
theorem zXQ(a b:Pt):pr (T3.mk (zBC a.x b.x) (zBC a.y b.y) (0:Rat)) 0 1=zV9 (pr a 0 1) (pr b 0 1):=rfl
theorem zTG{l:List Pt}(hf:lZ l)(hs:aU l 0 1):¬xC (arZ l 0 1)=0:=fun e=>hf hs (uC.1 e)
theorem zWQ{L:List (List Pt)}(h:∀x,x∈L→lZ x)(m:Nat):lZ (gl L m):=by
 show lZ (L.getD m [])
 rw[List.getD_eq_getElem?_getD]
 rcases Nat.lt_or_ge m L.length with h1|h1
 · rw[List.getElem?_eq_getElem h1]
   exact h _ (List.getElem_mem h1)
 · rw[List.getElem?_eq_none h1]
   exact fun e=>absurd e.1 (by decide)
theorem zZR{L:List (List Pt)}{m:Nat}(h:xC (uT (gl L m) 0 1 (gl L m).length)<0):rR L 0 1 m L.length=pZ L 0 1 m:=by
 have h1:xC (arZ (gl L m) 0 1)<0:=h;unfold pZ;rw[if_neg (by omega)]
theorem zRG{L:List (List Pt)}{m:Nat}(hf:∀x,x∈L→lZ x)(hs:aU (gl L m) 0 1)(h:¬xC (uT (gl L m) 0 1 (gl L m).length)<0):0<xC (arZ (gl L m) 0 1):=by
 have h1:¬xC (arZ (gl L m) 0 1)<0:=h;have h2:=zTG (zWQ hf m) hs;omega
theorem zZQ{L:List (List Pt)}{m:Nat}(hf:∀x,x∈L→lZ x)(hs:aU (gl L m) 0 1)(h:¬xC (uT (gl L m) 0 1 (gl L m).length)<0):-1=pZ L 0 1 m:=by
 unfold pZ;rw[if_pos (zRG hf hs h)]
theorem zFI{O:List Int}{m:Nat}{f:Nat→Int}{p:Int}(hl:O.length=m)(h:∀q,q<m→O.getD q 0=f q)(hp:p=f m):(O++[p]).length=m+1∧∀q,q<m+1→(O++[p]).getD q 0=f q:=by
 refine⟨by rw[lAz,hl];rfl,fun q z=>?_⟩;rw[List.getD_eq_getElem?_getD]
 by_cases e:q=m
 · subst e
   rw[List.getElem?_append_right (by omega),hl,Nat.sub_self];exact hp
 · rw[List.getElem?_append_left (by omega),←List.getD_eq_getElem?_getD]
   exact h q (by omega)
theorem zZZ{L:List (List Pt)}{a:Nat}(h:0<xC (arZ (gl L a) 0 1)):¬mP L 0 1 a∧∀b,b<L.length→¬t6 L 0 1 a b:=by
 refine⟨fun e=>e.1 h,fun b _ e=>?_⟩;have h1:=e.1.1.2;have h2:pZ L 0 1 a= -1:=by unfold pZ;rw[if_pos h]
 omega
theorem yAQ{L:List (List Pt)}{m:Nat}(hf:∀x,x∈L→lZ x)(hs:aU (gl L m) 0 1)(h:0≤xC (uT (gl L m) 0 1 (gl L m).length)):0<xC (arZ (gl L m) 0 1):=zRG hf hs (by omega)
theorem zM0{L:List (List Pt)}{a:Nat}{o:Int}(h:¬0≤xC (uT (gl L a) 0 1 (gl L a).length))(ho:o=pZ L 0 1 a)(h1:o<0):mP L 0 1 a:=by
 have h2:xC (arZ (gl L a) 0 1)<0:=Int.not_le.1 h;refine⟨by omega,?_⟩;rw[ho] at h1;unfold pZ at h1;rw[if_neg (by omega)] at h1;exact h1
theorem y4{L:List (List Pt)}{a:Nat}{o:Int}(ho:o=pZ L 0 1 a)(h1:¬o<0):¬mP L 0 1 a:=fun e=>by
 rw[ho] at h1;unfold pZ at h1;rw[if_neg e.1] at h1;exact h1 e.2
end Bk
namespace Bk
set_option linter.unusedVariables false
set_option linter.unusedSimpArgs false
open Classical
abbrev Fc:=(Pt×Rat)×List (List Int)×List Nat
abbrev En:=Int×Int×Rat
abbrev Sd:=List Pt×List Fc×List En
abbrev zVV:Pt×Rat:=(zT,(0:Rat))
abbrev zA:Fc:=(zVV,([]:List (List Int)),([]:List Nat))
def nmL(n:Nat)(x:List Int):Prop:=∀k,k<x.length→0≤(x.getD k 0)∧(x.getD k 0)<n
def nmP(s:Sd)(f:Nat):Prop:=∀l,l<((s.2.1.getD f zA).2.1).length→nmL s.1.length ((((s.2.1.getD f zA).2.1).getD l []))
def wZ(s:Sd):List (List (List Int)):=jL (fun f=>(s.2.1.getD f zA).2.1) s.2.1.length
theorem lT(s:Sd):(wZ s).length=s.2.1.length:=xL _ _
theorem zAF{s:Sd}{f:Nat}(h:f<s.2.1.length):((wZ s).getD f [])=(s.2.1.getD f zA).2.1:=kB _ _ h
def zF7(ps:List Pt)(x:List Int):Nat→List Pt:=jL fun k=>gp ps ((x.getD k 0)).toNat
def zEK(s:Sd)(f:Nat):Nat→List (List Pt):=jL fun l=>zF7 s.1 ((((s.2.1.getD f zA).2.1).getD l [])) ((((s.2.1.getD f zA).2.1).getD l [])).length
noncomputable def uH(s:Sd)(f:Int):List (List Pt):=if(0≤f∧f<s.2.1.length)∧nmP s f.toNat then zEK s f.toNat ((s.2.1.getD f.toNat zA).2.1).length else[]
theorem zW1{s:Sd}{f:Int}(h:∀f,f<s.2.1.length→(s.2.1.getD f zA).2.1.length≤10000∧∀l,l<(s.2.1.getD f zA).2.1.length→((s.2.1.getD f zA).2.1.getD l []).length≤10000):(uH s f).length≤10000∧∀l,((uH s f).getD l []).length≤10000:=by
 unfold uH
 split
 · rename_i hf
   have h1:=h f.toNat (by omega);have h2:(zEK s f.toNat (s.2.1.getD f.toNat zA).2.1.length).length=(s.2.1.getD f.toNat zA).2.1.length:=xL _ _;refine⟨by omega,fun l=>?_⟩
   rcases Nat.lt_or_ge l (s.2.1.getD f.toNat zA).2.1.length with h3|h3
   · unfold zEK
     rw[kB _ _ h3];unfold zF7;rw[xL];exact h1.2 l h3
   · rw[List.getD_eq_getElem?_getD,List.getElem?_eq_none (by omega)];exact Nat.zero_le _
 · exact⟨Nat.zero_le _,fun l=>Nat.zero_le _⟩
noncomputable def flA(pl:Pl)(l:List Pt):Nat→List Pt:=jL fun i=>qY pl (gp l i)
noncomputable def flL(pl:Pl)(L:List (List Pt)):Nat→List (List Pt):=jL fun i=>flA pl (gl L i) (gl L i).length
noncomputable def fT(s:Sd)(f:Nat):List (List Pt):=flL ((s.2.1.getD f zA)).1 (uH s f) (uH s f).length
def dg(kind face loop edge:Int):E5:=(kind,(-1:Int),face,loop,edge)
def szP(s:Sd)(f:Nat):Prop:=¬vfP ((s.2.1.getD f zA).2.1)∨¬nmP s f
def zL5(s:Sd):Prop:=(512<s.1.length∨256<s.2.1.length)∨1024<s.2.2.length
noncomputable def zYT(s:Sd):Nat→List E5:=cQ (szP s) fun f=>dg 1 f (-1) (-1)
noncomputable def szZ(s:Sd):List E5:=if zL5 s then zYT s s.2.1.length++[dg 2 (-1) (-1) (-1)] else zYT s s.2.1.length
def twP(s:Sd)(i:Nat):Prop:=∃k,k<i∧gp s.1 i=gp s.1 k
noncomputable def zHG(s:Sd):Nat→List E5:=cQ (twP s) fun i=>dg 37 (-1) (-1) i
def zrP(s:Sd)(f:Nat):Prop:=((s.2.1.getD f zA)).1.1=zT
noncomputable def zNU(s:Sd):Nat→List E5:=cQ (zrP s) fun f=>dg 9 f (-1) (-1)
def ofP(s:Sd)(f l k:Nat):Prop:=¬sdZ ((s.2.1.getD f zA)).1 (gp (gl (uH s f) l) k)=0
noncomputable def ofX(s:Sd)(f l:Nat):Nat→List E5:=cQ (ofP s f l) fun k=>dg 31 f l k
noncomputable def ofL(s:Sd)(f:Nat):Nat→List E5:=rW fun l=>ofX s f l (gl (uH s f) l).length
noncomputable def zKT(s:Sd):Nat→List E5:=rW fun f=>ofL s f (uH s f).length
theorem nC{s:Sd}{f:Int}(h:∀f,f<s.2.1.length→(s.2.1.getD f zA).2.1.length≤16∧∀l,l<(s.2.1.getD f zA).2.1.length→((s.2.1.getD f zA).2.1.getD l []).length≤64):(uH s f).length≤16∧∀l,((uH s f).getD l []).length≤64:=by
 unfold uH
 split
 · rename_i hf
   have h1:=h f.toNat (by omega);have h2:(zEK s f.toNat (s.2.1.getD f.toNat zA).2.1.length).length=(s.2.1.getD f.toNat zA).2.1.length:=xL _ _;refine⟨by omega,fun l=>?_⟩
   rcases Nat.lt_or_ge l (s.2.1.getD f.toNat zA).2.1.length with h3|h3
   · unfold zEK
     rw[kB _ _ h3];unfold zF7;rw[xL];exact h1.2 l h3
   · rw[List.getD_eq_getElem?_getD,List.getElem?_eq_none (by omega)];exact Nat.zero_le _
 · exact⟨Nat.zero_le _,fun l=>Nat.zero_le _⟩
section
variable {s:Sd}(h:∀f,f<s.2.1.length→(s.2.1.getD f zA).2.1.length≤16∧∀l,l<(s.2.1.getD f zA).2.1.length→((s.2.1.getD f zA).2.1.getD l []).length≤64)
include h
theorem zCQ(f:Nat):∀l,(ofL s f l).length≤64*l
  |0=>Nat.le_refl _
  |l+1=>by
   have h1:=zCQ f l;have h2:(ofX s f l ((uH s f).getD l []).length).length≤((uH s f).getD l []).length:=rO _ _ _;have h3:=(nC (f:=↑f) h).2 l
   show List.length (ofL s f l++ofX s f l ((uH s f).getD l []).length)≤_
   rw[lAz];omega
theorem zRZ:∀f,f≤s.2.1.length→(zKT s f).length≤1024*f
  |0,_=>Nat.le_refl _
  |f+1,hf=>by
   have h1:=zRZ f (by omega);have h2:=zCQ h f (uH s f).length;have h3:=(nC (f:=↑f) h).1
   show List.length (zKT s f++ofL s f (uH s f).length)≤_
   rw[lAz];omega
end
noncomputable def plZ(s:Sd):List E5:=if 0<(zNU s s.2.1.length).length then zNU s s.2.1.length else zKT s s.2.1.length
noncomputable def zBA(L:List (List Pt)):Nat→Int
  |0=>0
  |m+1=>if 0<xC (arZ (gl L m) 0 1) then zBA L m+1 else zBA L m
theorem z5(L:List (List Pt)):∀m,0≤zBA L m∧zBA L m≤m
  |0=>by unfold zBA;omega
  |m+1=>by
   have h:=z5 L m;unfold zBA
   split<;>omega
theorem ou_t{L:List (List Pt)}{m:Nat}(h:0<xC (arZ (gl L m) 0 1)):zBA L m+1=zBA L (m+1):=(if_pos h).symm
theorem ou_f{L:List (List Pt)}{m:Nat}(h:¬0<xC (arZ (gl L m) 0 1)):zBA L m=zBA L (m+1):=(if_neg h).symm
noncomputable def ouZ(L:List (List Pt)):Int:=zBA L L.length
def bnP(s:Sd)(f:Nat):Prop:=¬vS (fT s f) 0 1=0
noncomputable def zT3(s:Sd):Nat→List E5:=cQ (bnP s) fun f=>dg (vS (fT s f) 0 1) f (-1) (-1)
def mnP(s:Sd)(f:Nat):Prop:=¬ouZ (fT s f)=1
noncomputable def zZ2(s:Sd):Nat→List E5:=cQ (mnP s) fun f=>dg 33 f (-1) (-1)
noncomputable def neZ(s:Sd):List E5:=if 0<(zT3 s s.2.1.length).length then zT3 s s.2.1.length else zZ2 s s.2.1.length
theorem zIU(L:List (List Pt))(i j:Nat):0≤vS L i j∧vS L i j≤33:=by
 unfold vS
 repeat' split
 all_goals decide
theorem zBR(s:Sd)(f:Nat):(fT s f).length=(uH s ↑f).length∧∀l,((fT s f).getD l []).length=((uH s ↑f).getD l []).length:=by
 have h1:(fT s f).length=(uH s ↑f).length:=xL _ _;refine⟨h1,fun l=>?_⟩
 rcases Nat.lt_or_ge l (uH s ↑f).length with h|h
 · unfold fT flL
   rw[kB _ _ h];exact xL _ _
 · rw[List.getD_eq_getElem?_getD,List.getD_eq_getElem?_getD,List.getElem?_eq_none (by omega),List.getElem?_eq_none h]
def okS(s:Sd):Prop:=((s.1.length≤1000∧s.2.1.length≤1000)∧s.2.2.length≤2000)∧(∀f,f<s.2.1.length→(s.2.1.getD f zA).2.1.length≤16∧∀l,l<(s.2.1.getD f zA).2.1.length→((s.2.1.getD f zA).2.1.getD l []).length≤64)∧∀f,f<s.2.1.length→∀x,x∈fT s f→lZ x
theorem okS.big{s:Sd}(h:okS s):∀f,f<s.2.1.length→(s.2.1.getD f zA).2.1.length≤10000∧∀l,l<(s.2.1.getD f zA).2.1.length→((s.2.1.getD f zA).2.1.getD l []).length≤10000:=fun f hf=>⟨Nat.le_trans (h.2.1 f hf).1 (by decide),fun l hl=>Nat.le_trans ((h.2.1 f hf).2 l hl) (by decide)⟩
theorem okS.mem{s:Sd}(h:okS s):∀f,f<s.2.1.length→(s.2.1.getD f zA).2.1.length≤100000∧∀x,x∈(s.2.1.getD f zA).2.1→x.length≤100000:=fun f hf=>⟨Nat.le_trans (h.2.1 f hf).1 (by decide),fun x hx=>by
 obtain⟨m,hm,e⟩:=List.getElem_of_mem hx;have:=(h.2.1 f hf).2 m hm;rw[List.getD_eq_getElem?_getD,List.getElem?_eq_getElem hm] at this;rw[←e];exact Nat.le_trans this (by decide)⟩
noncomputable def zTT(s:Sd):List E5:=if 0<(szZ s).length then szZ s else if 0<(zHG s s.1.length).length then zHG s s.1.length else if 0<(plZ s).length then plZ s else if 0<(neZ s).length then neZ s else clZ (wZ s)
def fX(s:Sd):Prop:=(zTT s).length=0
def lsP(p q:Pt):Prop:=p.x<q.x∨(p.x=q.x∧(p.y<q.y∨(p.y=q.y∧p.z<q.z)))
def cI:List Int→List Int→Int
  |[],[]=>0
  |[],_::_=>-1
  |_::_,[]=>1
  |x::a,y::b=>if x=y then cI a b else if x<y then -1 else 1
theorem zNL{i:Nat}:∀{a b:List Int},(∀u,u<i→(a.getD u 0)=(b.getD u 0))→i<a.length→i<b.length→¬(a.getD i 0)=(b.getD i 0)→cI a b=if(a.getD i 0)<(b.getD i 0) then -1 else 1:=by
 induction i with
 |zero=>
  intro a b _ ha hb hne
  match a,b,ha,hb with
  |x::a,y::b,_,_=>exact if_neg hne
 |succ i ih=>
  intro a b h ha hb hne
  match a,b,ha,hb with
  |x::a,y::b,ha,hb=>
   have h0:x=y:=h 0 (by omega)
   show(if x=y then cI a b else _)=_
   rw[if_pos h0];exact ih (fun u hu=>h (u+1) (by omega)) (by simpa using ha) (by simpa using hb) hne
theorem zDR{i:Nat}:∀{a b:List Int},(∀u,u<i→(a.getD u 0)=(b.getD u 0))→i=min a.length b.length→cI a b=if a.length<b.length then -1 else if b.length<a.length then 1 else 0:=by
 induction i with
 |zero=>
  intro a b _ he
  match a,b with
  |[],[]=>rfl
  |[],_::_=>rfl
  |_::_,[]=>rfl
  |_::_,_::_=>simp at he
 |succ i ih=>
  intro a b h he
  match a,b with
  |[],_=>simp at he
  |_::_,[]=>simp at he
  |x::a,y::b=>
   have h0:x=y:=h 0 (by omega)
   show(if x=y then cI a b else _)=_
   rw[if_pos h0,ih (fun u hu=>h (u+1) (by omega)) (by simp at he;omega)];simp only[lC,Nat.add_lt_add_iff_right]
theorem iY:∀a b:List Int,-1≤cI a b∧cI a b≤1
  |[],[]=>⟨by show(-1:Int)≤0;decide,by show(0:Int)≤1;decide⟩
  |[],_::_=>⟨by show(-1:Int)≤-1;decide,by show(-1:Int)≤1;decide⟩
  |_::_,[]=>⟨by show(-1:Int)≤1;decide,by show(1:Int)≤1;decide⟩
  |x::a,y::b=>by
   show -1≤(if x=y then cI a b else if x<y then -1 else 1)∧(if x=y then cI a b else if x<y then -1 else 1)≤1
   split
   · exact iY a b
   · split<;>decide
def pB(x:List Int):Nat→Nat
  |0=>0
  |m+1=>if(x.getD m 0)<(x.getD (pB x m) 0) then m else pB x m
theorem zXP(x:List Int):∀m,pB x m<m∨pB x m=0
  |0=>.inr rfl
  |m+1=>by
   have h:=zXP x m;unfold pB
   split<;>omega
theorem mn_t{x:List Int}{m:Nat}(h:(x.getD m 0)<(x.getD (pB x m) 0)):m=pB x (m+1):=(if_pos h).symm
theorem mn_f{x:List Int}{m:Nat}(h:¬(x.getD m 0)<(x.getD (pB x m) 0)):pB x m=pB x (m+1):=(if_neg h).symm
def zQ3(x:List Int):List Int:=x.drop (pB x x.length)++x.take (pB x x.length)
def zPD:List (List Int)→List (List Int)→Prop
  |[],[]=>False
  |[],_::_=>True
  |_::_,[]=>False
  |x::a,y::b=>if cI x y=0 then zPD a b else cI x y<0
theorem zWA{i:Nat}:∀{a b:List (List Int)},(∀u,u<i→cI ((a.getD u [])) ((b.getD u []))=0)→i<a.length→i<b.length→¬cI ((a.getD i [])) ((b.getD i []))=0→(zPD a b↔cI ((a.getD i [])) ((b.getD i []))<0):=by
 induction i with
 |zero=>
  intro a b _ ha hb hne
  match a,b,ha,hb with
  |x::a,y::b,_,_=>exact Iff.of_eq (if_neg hne)
 |succ i ih=>
  intro a b h ha hb hne
  match a,b,ha,hb with
  |x::a,y::b,ha,hb=>
   have h0:cI x y=0:=h 0 (by omega)
   show(if cI x y=0 then zPD a b else _)↔_
   rw[if_pos h0];exact ih (fun u hu=>h (u+1) (by omega)) (by simpa using ha) (by simpa using hb) hne
theorem zSN{i:Nat}:∀{a b:List (List Int)},(∀u,u<i→cI ((a.getD u [])) ((b.getD u []))=0)→i=min a.length b.length→(zPD a b↔a.length<b.length):=by
 induction i with
 |zero=>
  intro a b _ he
  match a,b with
  |[],[]=>exact⟨False.elim,fun h=>absurd h (Nat.lt_irrefl _)⟩
  |[],_::_=>exact⟨fun _=>Nat.zero_lt_succ _,fun _=>trivial⟩
  |_::_,[]=>exact⟨False.elim,fun h=>absurd h (Nat.not_lt_zero _)⟩
  |_::_,_::_=>simp at he
 |succ i ih=>
  intro a b h he
  match a,b with
  |[],_=>simp at he
  |_::_,[]=>simp at he
  |x::a,y::b=>
   have h0:cI x y=0:=h 0 (by omega)
   show(if cI x y=0 then zPD a b else _)↔_
   rw[if_pos h0,ih (fun u hu=>h (u+1) (by omega)) (by simp at he;omega)];simp only[lC,Nat.add_lt_add_iff_right]
def lsF(a b:Fc):Prop:=if a.2.2=b.2.2 then zPD a.2.1 b.2.1 else lsN a.2.2 b.2.2
theorem ls_x{p q:Pt}(h:¬yP p.x q.x=0):yP p.x q.x<0↔lsP p q:=by
 unfold lsP;rw[nD];rw[bE] at h;exact⟨.inl,fun e=>e.elim id fun e=>absurd e.1 h⟩
theorem ls_y{p q:Pt}(h:yP p.x q.x=0)(h2:¬yP p.y q.y=0):yP p.y q.y<0↔lsP p q:=by
 unfold lsP;rw[nD];rw[bE] at h h2;have:=@Rat.lt_irrefl p.x;exact⟨fun e=>.inr ⟨h,.inl e⟩,fun e=>e.elim (fun e=>absurd (h▸e) this) fun e=>e.2.elim id fun e=>absurd e.1 h2⟩
theorem ls_z{p q:Pt}(h:yP p.x q.x=0)(h2:yP p.y q.y=0)(h3:¬yP p.z q.z=0):yP p.z q.z<0↔lsP p q:=by
 unfold lsP;rw[nD];rw[bE] at h h2;have D:=@Rat.lt_irrefl p.x;have C:=@Rat.lt_irrefl p.y;exact⟨fun e=>.inr ⟨h,.inr ⟨h2,e⟩⟩,fun e=>e.elim (fun e=>absurd (h▸e) D) fun e=>e.2.elim (fun e=>absurd (h2▸e) C) fun e=>e.2⟩
theorem yC2{p q:Pt}(h:yP p.x q.x=0)(h2:yP p.y q.y=0)(h3:yP p.z q.z=0):¬lsP p q:=by
 rw[bE] at h h2 h3;have G:=@Rat.lt_irrefl p.x;have D:=@Rat.lt_irrefl p.y;have C:=@Rat.lt_irrefl p.z;exact fun e=>e.elim (fun e=>absurd (h▸e) G) fun e=>e.2.elim (fun e=>absurd (h2▸e) D) fun e=>absurd (h3▸e.2) C
theorem yC3{p q:Pt}{i:Nat}(hi:i<3)(h:∀u,u<i→yP (p.at u) (q.at u)=0)(hn:¬yP (p.at i) (q.at i)=0):yP (p.at i) (q.at i)<0↔lsP p q:=by
 match i,hi with
 |0,_=>exact ls_x hn
 |1,_=>exact ls_y (h 0 (by decide)) hn
 |2,_=>exact ls_z (h 0 (by decide)) (h 1 (by decide)) hn
theorem zZ5{p q:Pt}(h:∀u,u<3→yP (p.at u) (q.at u)=0):¬lsP p q:=yC2 (h 0 (by decide)) (h 1 (by decide)) (h 2 (by decide))
noncomputable def ivA(x:Rat):Rat:=if iZ x=0 then 0 else((1:Int):Rat)/iZ x
noncomputable def scW(r:Rat)(pl:Pl):Pl:=(T3.mk (r*pl.1.x) (r*pl.1.y) (r*pl.1.z),r*pl.2)
noncomputable def scZ(pl:Pl):Pl:=if ¬xC pl.1.x=0 then scW (ivA pl.1.x) pl else if ¬xC pl.1.y=0 then scW (ivA pl.1.y) pl else if ¬xC pl.1.z=0 then scW (ivA pl.1.z) pl else zVV
theorem yCH{pl:Pl}{i:Nat}(hi:i<3)(h:∀u,u<i→xC (pl.1.at u)=0)(hn:¬xC (pl.1.at i)=0):scW (ivA (pl.1.at i)) pl=scZ pl:=by
 unfold scZ
 match i,hi with
 |0,_=>exact(if_pos hn).symm
 |1,_=>exact((if_neg (fun e=>e (h 0 (by decide)))).trans (if_pos hn)).symm
 |2,_=>exact((if_neg (fun e=>e (h 0 (by decide)))).trans ((if_neg (fun e=>e (h 1 (by decide)))).trans (if_pos hn))).symm
theorem zZF{pl:Pl}(h:∀u,u<3→xC (pl.1.at u)=0):zVV=scZ pl:=by
 unfold scZ;exact((if_neg (fun e=>e (h 0 (by decide)))).trans ((if_neg (fun e=>e (h 1 (by decide)))).trans (if_neg (fun e=>e (h 2 (by decide)))))).symm
def zJ8(x:List Int):Nat→List Int:=jL fun i=>x.getD (x.length-1-i) 0
def zFW(E:List E5)(m i:Nat):Prop:=∃q,q<m∧(E.getD q ((0:Int),(0:Int),(0:Int),(0:Int),(0:Int))).1=(i:Int)
theorem zP6{E:List E5}{m n:Nat}{U:List Prop}(hl:U.length=n)(h:∀u,u<n→(U.getD u False↔zFW E m u))(h0:0≤(E.getD m ((0:Int),(0:Int),(0:Int),(0:Int),(0:Int))).1)(h1:(E.getD m ((0:Int),(0:Int),(0:Int),(0:Int),(0:Int))).1<n):∀u,u<n→((U.set (E.getD m ((0:Int),(0:Int),(0:Int),(0:Int),(0:Int))).1.toNat True).getD u False↔zFW E (m+1) u):=by
 intro u D;rw[List.getD_eq_getElem?_getD,List.getElem?_set];have C:zFW E (m+1) u↔zFW E m u∨(E.getD m ((0:Int),(0:Int),(0:Int),(0:Int),(0:Int))).1=(u:Int):=by
  constructor
  · rintro⟨q,z,e⟩
    rcases Nat.lt_succ_iff_lt_or_eq.1 z with h|h
    · exact .inl ⟨q,h,e⟩
    · subst h;exact .inr e
  · rintro(⟨q,z,e⟩|e)
    · exact⟨q,by omega,e⟩
    · exact⟨m,by omega,e⟩
 rw[C]
 split
 · rename_i e
   rw[if_pos (by omega)];exact⟨fun _=>.inr (by omega),fun _=>trivial⟩
 · rename_i e
   have:=h u D;rw[List.getD_eq_getElem?_getD] at this;rw[this];exact⟨.inl,fun h=>h.resolve_right (by omega)⟩
def nmA(s:Sd):Prop:=∀f,f<s.2.1.length→nmP s f
theorem zPO{s:Sd}(h:nmA s){q:Nat}(hq:q<(edZ (wZ s)).length):0≤((edZ (wZ s)).getD q ((0:Int),(0:Int),(0:Int),(0:Int),(0:Int))).1∧((edZ (wZ s)).getD q ((0:Int),(0:Int),(0:Int),(0:Int),(0:Int))).1<s.1.length:=by
 have z:=bW (d:=((0:Int),(0:Int),(0:Int),(0:Int),(0:Int))) hq;generalize (edZ (wZ s)).getD q ((0:Int),(0:Int),(0:Int),(0:Int),(0:Int))=e at z ⊢;obtain⟨f,C,z⟩:=zDK z;obtain⟨l,D,z⟩:=zDK z;obtain⟨i,hi,rfl⟩:=zMX z;rw[lT] at C;have G:(wZ s).getD f []=(s.2.1.getD f zA).2.1:=kB _ _ C;rw[G] at D hi ⊢;exact h f C l D i hi
theorem zWU{s:Sd}(h:okS s):(edZ (wZ s)).length≤1100000:=by
 have h1:=j0 (F:=wZ s) (fun f z=>by rw[lT] at z;rw[zAF z];exact h.2.1 f z) _ (Nat.le_refl _);rw[lT] at h1;have h2:=h.1.1.2
 show(edF (wZ s) (wZ s).length).length≤_
 rw[lT];omega
def zOM(s:Sd)(out:List Int)(i k:Nat):Prop:=lsP (gp s.1 i) (gp s.1 (out.getD k 0).toNat)
noncomputable def bR(s:Sd):Nat→List Int
  |0=>[]
  |i+1=>if zFW (edZ (wZ s)) (edZ (wZ s)).length i then eT (bR s i) (cV (zOM s (bR s i) i) (bR s i).length) (i:Int) else bR s i
theorem zKS(s:Sd):∀i,(bR s i).length≤i
  |0=>Nat.le_refl _
  |i+1=>by
   have:=zKS s i;unfold bR
   split
   · rw[zDF _ _ (zBU _ _)];omega
   · omega
theorem zGH{s:Sd}{x:Int}:∀{i},x∈bR s i→0≤x∧x<i
  |0,h=>absurd h List.not_mem_nil
  |i+1,h=>by
   unfold bR at h
   split at h
   · unfold eT at h
     rcases List.mem_append.1 h with h|h
     · have:=zGH (List.mem_of_mem_take h);omega
     · rcases List.mem_cons.1 h with rfl|h
       · omega
       · have:=zGH (List.mem_of_mem_drop h);omega
   · have:=zGH h;omega
theorem oJ{s:Sd}{i k:Nat}(h:k<(bR s i).length):0≤(bR s i).getD k 0∧(bR s i).getD k 0<i:=zGH (bW h)
def nwL(s:Sd)(ix:List Int)(f i:Nat):Nat→List Int:=jL fun q=>ix.getD (((s.2.1.getD f zA).2.1.getD i []).getD q 0).toNat 0
def nfL(s:Sd)(ix:List Int)(f i:Nat):List Int:=zQ3 (nwL s ix f i ((s.2.1.getD f zA).2.1.getD i []).length)
def zH4(s:Sd)(f i:Nat):Prop:=0<xC (arZ (gl (fT s f) i) 0 1)
noncomputable def ouL(s:Sd)(ix:List Int)(f:Nat):Nat→List (List Int):=cQ (zH4 s f) (nfL s ix f)
def zWJ(l:List Int)(D:List (List Int))(k:Nat):Prop:=cI l (D.getD k [])<0
noncomputable def zBE(s:Sd)(ix:List Int)(f:Nat):Nat→List (List Int)
  |0=>[]
  |i+1=>if zH4 s f i then zBE s ix f i else eT (zBE s ix f i) (cV (zWJ (nfL s ix f i) (zBE s ix f i)) (zBE s ix f i).length) (nfL s ix f i)
theorem zLP(s:Sd)(ix:List Int)(f:Nat):∀i,(zBE s ix f i).length≤i
  |0=>Nat.le_refl _
  |i+1=>by
   have:=zLP s ix f i;unfold zBE
   split
   · omega
   · rw[zDF _ _ (zBU _ _)];omega
noncomputable def nfF(s:Sd)(ix:List Int)(f:Nat):Fc:=(scZ (s.2.1.getD f zA).1,ouL s ix f (s.2.1.getD f zA).2.1.length++zBE s ix f (s.2.1.getD f zA).2.1.length,(s.2.1.getD f zA).2.2)
theorem zTQ{s:Sd}{f:Nat}(hf:f<s.2.1.length)(h:nmP s f):uH s ↑f=zEK s f (s.2.1.getD f zA).2.1.length:=if_pos ⟨by omega,h⟩
theorem yAU{s:Sd}{f:Nat}(hf:f<s.2.1.length)(h:nmP s f):(fT s f).length=(s.2.1.getD f zA).2.1.length:=by
 rw[(zBR s f).1,zTQ hf h];exact xL _ _
noncomputable def fM(s:Sd):List Int:=bR s s.1.length
noncomputable def zLM(s:Sd):Nat→List Int
  |0=>List.replicate s.1.length (0:Int)
  |i+1=>(zLM s i).set ((fM s).getD i 0).toNat (i:Int)
theorem zAG(s:Sd):∀i,(zLM s i).length=s.1.length
  |0=>List.length_replicate
  |i+1=>by unfold zLM;rw[lS];exact zAG s i
noncomputable def ixZ(s:Sd):List Int:=zLM s (fM s).length
noncomputable def zV3(s:Sd):Nat→List Pt:=jL fun i=>gp s.1 ((fM s).getD i 0).toNat
def zLF(x:Fc)(D:List Fc)(k:Nat):Prop:=lsF x (D.getD k zA)
noncomputable def y3(s:Sd):Nat→List Fc
  |0=>[]
  |f+1=>eT (y3 s f) (cV (zLF (nfF s (ixZ s) f) (y3 s f)) (y3 s f).length) (nfF s (ixZ s) f)
theorem zK5(s:Sd):∀f,(y3 s f).length=f
  |0=>rfl
  |f+1=>by
   unfold y3;rw[zDF _ _ (zBU _ _),zK5 s f]
noncomputable def nrP(s:Sd):List Pt:=if fX s then zV3 s (fM s).length else[]
noncomputable def nrF(s:Sd):List Fc:=if fX s then y3 s s.2.1.length else[]
noncomputable def nrE(s:Sd):List En:=if fX s then s.2.2 else[]
theorem zYV{s:Sd}(h:fX s):nmA s:=by
 have h1:(szZ s).length=0:=by
  unfold fX zTT at h
  split at h
  · omega
  · omega
 have h2:szZ s=[]:=List.eq_nil_of_length_eq_zero h1;unfold szZ at h2
 split at h2
 · exact absurd h2 (by simp)
 · intro f z
   exact Classical.byContradiction fun e=>(eF _).1 h2 f z (.inr e)
theorem zC0{s:Sd}(h:okS s){ix:List Int}{f:Nat}(hf:f<s.2.1.length):(nfF s ix f).2.1.length≤100:=by
 have h1:=rO (zH4 s f) (nfL s ix f) (s.2.1.getD f zA).2.1.length;have h2:=zLP s ix f (s.2.1.getD f zA).2.1.length;have h3:=(h.2.1 f hf).1
 show List.length (ouL s ix f _++zBE s ix f _)≤_
 rw[lAz];have z:(ouL s ix f (s.2.1.getD f zA).2.1.length).length≤(s.2.1.getD f zA).2.1.length:=h1;omega
theorem zS1{α:Type}{p:α→Prop}{l:List α}{k:Nat}{x:α}(h:∀y,y∈l→p y)(hx:p x):∀y,y∈eT l k x→p y:=by
 intro y z;unfold eT at z
 rcases List.mem_append.1 z with z|z
 · exact h y (List.mem_of_mem_take z)
 · rcases List.mem_cons.1 z with rfl|z
   · exact hx
   · exact h y (List.mem_of_mem_drop z)
theorem zR7{s:Sd}(h:okS s):∀f,f≤s.2.1.length→∀x,x∈y3 s f→x.2.1.length≤100
  |0,_,x,hx=>absurd hx List.not_mem_nil
  |f+1,hf,x,hx=>zS1 (p:=fun x:Fc=>x.2.1.length≤100) (zR7 h f (by omega)) (zC0 h (by omega)) x hx
end Bk
namespace Bk
set_option linter.unusedVariables false
set_option linter.unusedSimpArgs false
open Classical
def triT(P:Nat→P2)(n:Nat):Prop:=∀i j k,i<j→j<k→k<n→0<cr (P i) (P j) (P k)
def edgeT(P:Nat→P2)(n:Nat):Prop:=∀i k,i<n→2≤k→k<n→0<cr (P i) (P ((i+1)%n)) (P ((i+k)%n))
def lp(t:Rat)(a b:P2):P2:=(a.1+t*(b.1-a.1),a.2+t*(b.2-a.2))
def ex(P:Nat→P2)(n m:Nat):P2:=P (m%n)
abbrev Mk:=Nat×Bool
def mkP(P:Nat→P2)(n:Nat)(t:Nat→Rat)(M:Mk):P2:=if M.2 then lp (t M.1) (ex P n M.1) (ex P n (M.1+1)) else ex P n M.1
def mkLt(A B:Mk):Prop:=A.1<B.1∨(A.1=B.1∧A.2=false∧B.2=true)
def chg(s:Nat→Int)(n m:Nat):Prop:=s m*s ((m+1)%n)<0
noncomputable def mks(s:Nat→Int)(n:Nat):Nat→List Mk
  |0=>[]
  |m+1=>mks s n m++(if s m≤0 then[(m,false)] else[])++(if chg s n m then[(m,true)] else[])
end Bk
namespace Bk
set_option linter.unusedVariables false
set_option linter.unusedSimpArgs false
open Classical
def inC(P:Nat→P2)(n:Nat)(p:P2):Prop:=∀m,m<n→0≤cr (P m) (P ((m+1)%n)) p
def afZ(w:Rat×Rat×Rat)(p:P2):Rat:=w.1+w.2.1*p.1+w.2.2*p.2
def mkS(S:Nat→Int)(M:Mk):Prop:=if M.2 then S M.1*S (M.1+1)<0 else S M.1≤0
def nxM(L:List Mk)(n q:Nat):Mk:=if q+1<L.length then L.getD (q+1) (0,false) else((L.getD 0 (0,false)).1+n,(L.getD 0 (0,false)).2)
section
variable {s:Nat→Int}{n:Nat}
end
structure Cfg(P:Nat→P2)(n:Nat)(t:Nat→Rat)(s:Nat→Int)(w:Rat×Rat×Rat):Prop where
 h3:3≤n
 tri:triT P n
 per:∀m,t (m%n)=t m
 cross:∀m,m<n→chg s n m→(0<t m∧t m<1)∧afZ w (lp (t m) (P m) (P ((m+1)%n)))=0
 neg:∀m,m<n→(s m<0↔afZ w (P m)<0)
 zero:∀m,m<n→(s m=0↔afZ w (P m)=0)
section
variable {P:Nat→P2}{n:Nat}{t:Nat→Rat}{s:Nat→Int}{w:Rat×Rat×Rat}
def cx(u v:P2):Rat:=u.1*v.2-v.1*u.2
def arC(P:Nat→P2)(n:Nat):Nat→Rat
  |0=>0
  |m+1=>arC P n m+cx (P m) (P ((m+1)%n))
def arO(P:Nat→P2)(n:Nat)(o:P2):Nat→Rat
  |0=>0
  |m+1=>arO P n o m+cr o (P m) (P ((m+1)%n))
noncomputable def om(S:Nat→Int)(t:Nat→Rat)(e:Nat):Rat:=
 if S e≤0∧S (e+1)≤0 then 1 else if S e<0∧0<S (e+1) then t e else if 0<S e∧S (e+1)<0 then 1-t e else 0
noncomputable def yBW(S:Nat→Int)(t:Nat→Rat)(k:Nat→Rat):Nat→Rat
  |0=>0
  |e+1=>yBW S t k e+om S t e*k e
noncomputable def uM(S:Nat→Int)(t:Nat→Rat)(k:Nat→Rat)(M:Mk):Rat:=yBW S t k M.1+if M.2=true∧S M.1<0 then t M.1*k M.1 else 0
end
def ngW(w:Rat×Rat×Rat):Rat×Rat×Rat:=(-w.1,-w.2.1,-w.2.2)
section
variable {P:Nat→P2}{n:Nat}{t:Nat→Rat}{s:Nat→Int}{w:Rat×Rat×Rat}
end
end Bk
namespace Bk
set_option linter.unusedVariables false
set_option linter.unusedSimpArgs false
open Classical
noncomputable def pt2(pl:Pl)(p:Pt):P2:=pr p (axI pl.1) (axJ pl.1)
def convP(pl:Pl)(l:List Pt):Prop:=
 (3≤l.length∧¬pl.1=zT)∧(∀m,m<l.length→sdZ pl (gp l m)=0)∧∀m k,m<l.length→2≤k→k<l.length→0<orZ (pt2 pl (gp l m)) (pt2 pl (nx l m)) (pt2 pl (gp l ((m+k)%l.length)))
noncomputable def mk3(c:Pl)(l:List Pt)(M:Mk):Pt:=if M.2 then btw c (gp l M.1) (nx l M.1) else gp l M.1
noncomputable def sgB(c:Pl)(l:List Pt)(m:Nat):Int:=sdZ c (gp l m)
noncomputable def sgF(c:Pl)(l:List Pt)(m:Nat):Int:=-sdZ c (gp l m)
noncomputable def tC(c:Pl)(l:List Pt)(m:Nat):Rat:=yDJ c (gp l (m%l.length)) (nx l (m%l.length))
def zEJ(a b c:Pt):Rat:=wO a (wH b c)
end Bk
namespace Bk
set_option linter.unusedVariables false
set_option linter.unusedSimpArgs false
open Go Go.RowKit
open Classical
theorem zXI{k:Nat}{h:Mem}{v:Value}{p:T3 Rat}(s:(rpT (rpQ k)).Is h v p):lq p.x≤k∧lq p.y≤k∧lq p.z≤k:=by
 obtain⟨cs,⟨a,b,_,G,c,d,_,D,C⟩,_⟩:=s;exact⟨G.2,D.2,C.2⟩
theorem zQB{K k:Nat}{h:Mem}{v:Value}{p:T3 Rat}(s:(rpT (rpQ K)).Is h v p)(h1:lq p.x≤k)(h2:lq p.y≤k)(h3:lq p.z≤k):(rpT (rpQ k)).Is h v p:=by
 obtain⟨cs,⟨a,b,e,G,c,d,I,D,C⟩,H⟩:=s;exact⟨cs,⟨a,b,e,⟨G.1,h1⟩,c,d,I,⟨D.1,h2⟩,⟨C.1,h3⟩⟩,H⟩
theorem zF3{a b:Rat}(h:¬(¬smB a∨¬smB b)):(smB a∧smB b)∧(-72057594037927936≤smZ a*smZ b∧smZ a*smZ b≤72057594037927936):=by
 have h1:smB a∧smB b:=by
  constructor
  · exact Classical.not_not.1 fun e=>h (.inl e)
  · exact Classical.not_not.1 fun e=>h (.inr e)
 have O:=(tR h1.1).2;have M:=(tR h1.2).2;refine⟨h1,?_⟩;have z:∀{x y:Int},0≤x→x<268435456→0≤y→y<268435456→0≤x*y∧x*y≤72057594037927936:=by
  intro x y H G C D;have J:=Int.mul_nonneg H C;have I:x*y≤268435456*268435456:=Int.mul_le_mul (by omega) (by omega) C (by omega);omega
 generalize smZ a=u at *;generalize smZ b=v at *
 rcases Int.le_total 0 u with hu|hu<;>rcases Int.le_total 0 v with hv|hv
 · have:=z hu (by omega) hv (by omega);omega
 · have:=z hu (by omega) (y:=-v) (by omega) (by omega)
   rw[Int.mul_neg] at this;omega
 · have:=z (x:=-u) (by omega) (by omega) hv (by omega)
   rw[Int.neg_mul] at this;omega
 · have:=z (x:=-u) (y:=-v) (by omega) (by omega) (by omega) (by omega)
   rw[Int.neg_mul_neg] at this;omega
theorem zQM{s:Pl}{p:Pt}(hx:smB s.1.x∧smB p.x)(hy:smB s.1.y∧smB p.y)(hz:smB s.1.z∧smB p.z)(hd:smB s.2):zD5 ((0:Int)+smZ s.1.x*smZ p.x+smZ s.1.y*smZ p.y+smZ s.1.z*smZ p.z-smZ s.2)=sdZ s p:=by
 rw[←zB7];unfold sdZ hgt wO
 congr 1
 rw[Rat.intCast_sub,Rat.intCast_add,Rat.intCast_add,Rat.intCast_add,Rat.intCast_mul,Rat.intCast_mul,Rat.intCast_mul];rw[←(tR hx.1).1,←(tR hx.2).1,←(tR hy.1).1,←(tR hy.2).1,←(tR hz.1).1,←(tR hz.2).1,←(tR hd).1];have e:((0:Int):Rat)=0:=rfl;rw[e];grind
theorem zQN(s:Pl)(p:Pt):yP (wO s.1 p) s.2=sdZ s p:=zDP _ _
end Bk
namespace Bk
set_option linter.unusedVariables false
set_option linter.unusedSimpArgs false
open Classical
def zJ2(p q:Pt):Prop:=p.x=q.x∧p.y=q.y
noncomputable def u9(B:List Pt)(p:Pt):Nat→Int
  |0=>-1
  |j+1=>if zJ2 (B.getD j zT) p then(j:Int) else u9 B p j
theorem zDL(B:List Pt)(p:Pt):∀j,-1≤u9 B p j∧u9 B p j<j∨(j=0∧u9 B p j= -1)
  |0=>.inr ⟨rfl,rfl⟩
  |j+1=>by
   have h:=zDL B p j;unfold u9
   split
   · exact .inl (by omega)
   · exact .inl (by omega)
theorem fd_t{B:List Pt}{p:Pt}{j:Nat}(h:zJ2 (B.getD j zT) p):(j:Int)=u9 B p (j+1):=(if_pos h).symm
theorem yAX{B:List Pt}{p:Pt}{j:Nat}(h:¬zJ2 (B.getD j zT) p):u9 B p j=u9 B p (j+1):=(if_neg h).symm
noncomputable def fdZ(B:List Pt)(p:Pt):Int:=u9 B p B.length
noncomputable def adB(B:List Pt)(p:Pt):List Pt:=if fdZ B p<0 then B++[p] else B
noncomputable def adN(B:List Pt)(p:Pt):Int:=if fdZ B p<0 then(B.length:Int) else fdZ B p
noncomputable def plB(B:List Pt)(x:List Pt):Nat→List Pt
  |0=>B
  |k+1=>adB (plB B x k) (x.getD k zT)
noncomputable def plN(B:List Pt)(x:List Pt):Nat→List Int:=jL fun k=>adN (plB B x k) (x.getD k zT)
noncomputable def ptB(L:List (List Pt)):Nat→List Pt
  |0=>[]
  |i+1=>plB (ptB L i) (L.getD i []) (L.getD i []).length
noncomputable def ptN(L:List (List Pt)):Nat→List (List Int):=jL fun i=>plN (ptB L i) (L.getD i []) (L.getD i []).length
def j1(L:List (List Pt)):Nat→Nat
  |0=>0
  |i+1=>j1 L i+(L.getD i []).length
theorem zXB(B:List Pt)(p:Pt):(adB B p).length≤B.length+1:=by
 unfold adB;split
 · rw[lAz,List.length_singleton];exact Nat.le_refl _
 · omega
theorem zF9(B x:List Pt):∀k,(plB B x k).length≤B.length+k
  |0=>Nat.le_refl _
  |k+1=>by
   have h1:=zF9 B x k;have h2:=zXB (plB B x k) (x.getD k zT)
   show(adB _ _).length≤_
   omega
theorem zMN(L:List (List Pt)):∀i,(ptB L i).length≤j1 L i
  |0=>Nat.le_refl _
  |i+1=>by
   have h1:=zMN L i;have h2:=zF9 (ptB L i) (L.getD i []) (L.getD i []).length
   show(plB _ _ _).length≤j1 L i+_
   omega
theorem zXU{L:List (List Pt)}(h:∀m,m<L.length→(L.getD m []).length≤64):∀i,i≤L.length→j1 L i≤64*i
  |0,_=>Nat.le_refl _
  |i+1,hi=>by
   have h1:=zXU h i (by omega);have h2:=h i (by omega)
   show j1 L i+_≤_
   omega
theorem zV5{L:List (List Pt)}(h:vS L 0 1=0):L.length≤16∧∀m,m<L.length→(L.getD m []).length≤64:=by
 unfold vS at h
 split at h
 · omega
 · rename_i h1
   exact⟨Nat.not_lt.1 fun e=>h1 (.inl e),fun m z=>Nat.not_lt.1 fun e=>h1 (.inr ⟨m,z,e⟩)⟩
section
variable (L:List (List Pt))(lo hi:Rat)
noncomputable def bsZ:List Pt:=ptB L L.length
noncomputable def bxZ:List (List Int):=ptN L L.length
noncomputable def zRF:Nat→List Pt:=jL fun i=>T3.mk ((bsZ L).getD (i%(bsZ L).length) zT).x ((bsZ L).getD (i%(bsZ L).length) zT).y (if((bsZ L).length:Int)≤(i:Int) then hi else lo)
noncomputable def ppZ:List Pt:=zRF L lo hi (2*(bsZ L).length)
noncomputable def yBJ:Nat→List (List Int):=jL fun i=>zJ8 ((bxZ L).getD i []) ((bxZ L).getD i []).length
noncomputable def tpL(i:Nat):Nat→List Int:=jL fun k=>((bxZ L).getD i []).getD k 0+((bsZ L).length:Int)
noncomputable def zYR:Nat→List (List Int):=jL fun i=>tpL L i ((bxZ L).getD i []).length
noncomputable def nmS(i k:Nat):List Nat:=[115]++qZ (((i:Int):Int):Rat)++[46]++qZ (((k:Int):Int):Rat)
noncomputable def sdA(i k:Nat):Int:=((bxZ L).getD i []).getD k 0
noncomputable def sdB(i k:Nat):Int:=((bxZ L).getD i []).getD ((k+1)%((bxZ L).getD i []).length) 0
noncomputable def sdN(i k:Nat):Pt:=T3.mk (((ppZ L lo hi).getD (sdB L i k).toNat zT).y-((ppZ L lo hi).getD (sdA L i k).toNat zT).y) (-(((ppZ L lo hi).getD (sdB L i k).toNat zT).x-((ppZ L lo hi).getD (sdA L i k).toNat zT).x)) (0:Rat)
noncomputable def sdF(i k:Nat):Fc:=((sdN L lo hi i k,wO (sdN L lo hi i k) ((ppZ L lo hi).getD (sdA L i k).toNat zT)),[[sdA L i k,sdB L i k,sdB L i k+((bsZ L).length:Int),sdA L i k+((bsZ L).length:Int)]],nmS i k)
noncomputable def sfX(i:Nat):Nat→List Fc:=jL fun k=>sdF L lo hi i k
noncomputable def zN7:Nat→List Fc:=rW fun i=>sfX L lo hi i ((bxZ L).getD i []).length
noncomputable def btF:Fc:=((T3.mk (0:Rat) (0:Rat) (-((1:Int):Rat)),-lo),yBJ L (bxZ L).length,[98,111,116,116,111,109])
noncomputable def tpF:Fc:=((T3.mk (0:Rat) (0:Rat) ((1:Int):Rat),hi),zYR L (bxZ L).length,[116,111,112])
noncomputable def prR:Sd:=(ppZ L lo hi,zN7 L lo hi (bxZ L).length++[btF L lo,tpF L hi],[])
def prB:Prop:=512<2*(bsZ L).length∨256<j1 L L.length+2
noncomputable def prE:Int:=if ¬vS L 0 1=0 then vS L 0 1 else if ¬ouZ L=1 then 33 else if 0≤yP lo hi then 9 else if prB L then 2 else 0
noncomputable def prP:List Pt:=if prE L lo hi=0 then nrP (prR L lo hi) else[]
noncomputable def prF:List Fc:=if prE L lo hi=0 then nrF (prR L lo hi) else[]
end
section
variable {L:List (List Pt)}{lo hi:Rat}
theorem pr_0(h1:vS L 0 1=0)(h2:ouZ L=1)(h3:¬0≤yP lo hi)(h4:¬prB L):prE L lo hi=0∧prP L lo hi=nrP (prR L lo hi)∧prF L lo hi=nrF (prR L lo hi):=by
 have e:prE L lo hi=0:=by unfold prE;rw[if_neg (fun e=>e h1),if_neg (fun e=>e h2),if_neg h3,if_neg h4]
 exact⟨e,if_pos e,if_pos e⟩
theorem zMO{n:Int}(h:prE L lo hi=n)(hn:¬n=0):prE L lo hi=n∧prP L lo hi=[]∧prF L lo hi=[]:=⟨h,if_neg (by rw[h];exact hn),if_neg (by rw[h];exact hn)⟩
theorem pr_1(h1:¬vS L 0 1=0):prE L lo hi=vS L 0 1∧prP L lo hi=[]∧prF L lo hi=[]:=zMO (if_pos h1) h1
theorem yCS(h1:vS L 0 1=0)(h2:¬ouZ L=1):prE L lo hi=33∧prP L lo hi=[]∧prF L lo hi=[]:=zMO (by unfold prE;rw[if_neg (fun e=>e h1),if_pos h2]) (by decide)
theorem pr_9(h1:vS L 0 1=0)(h2:ouZ L=1)(h3:0≤yP lo hi):prE L lo hi=9∧prP L lo hi=[]∧prF L lo hi=[]:=zMO (by unfold prE;rw[if_neg (fun e=>e h1),if_neg (fun e=>e h2),if_pos h3]) (by decide)
theorem pr_2(h1:vS L 0 1=0)(h2:ouZ L=1)(h3:¬0≤yP lo hi)(h4:prB L):prE L lo hi=2∧prP L lo hi=[]∧prF L lo hi=[]:=zMO (by unfold prE;rw[if_neg (fun e=>e h1),if_neg (fun e=>e h2),if_neg h3,if_pos h4]) (by decide)
theorem zPY(B:List Pt)(p:Pt):0≤adN B p∧adN B p<(adB B p).length:=by
 have h:=zDL B p B.length;unfold adN adB fdZ
 split
 · rw[lAz,List.length_singleton];omega
 · omega
theorem yBS(B:List Pt)(p:Pt):B.length≤(adB B p).length:=by
 unfold adB;split
 · rw[lAz];omega
 · omega
theorem zRJ(B x:List Pt){k n:Nat}(h:k≤n):(plB B x k).length≤(plB B x n).length:=by
 induction n with
 |zero=>rw[show k=0 by omega];exact Nat.le_refl _
 |succ n ih=>
  rcases Nat.lt_or_ge k (n+1) with h1|h1
  · exact Nat.le_trans (ih (by omega)) (yBS _ _)
  · rw[show k=n+1 by omega];exact Nat.le_refl _
theorem zZO{i n:Nat}(h:i≤n):(ptB L i).length≤(ptB L n).length:=by
 induction n with
 |zero=>rw[show i=0 by omega];exact Nat.le_refl _
 |succ n ih=>
  rcases Nat.lt_or_ge i (n+1) with h1|h1
  · exact Nat.le_trans (ih (by omega)) (zRJ (ptB L n) (L.getD n []) (k:=0) (Nat.zero_le _))
  · rw[show i=n+1 by omega];exact Nat.le_refl _
theorem yBE:(bxZ L).length=L.length:=xL _ _
theorem zTY{i:Nat}(h:i<L.length):(bxZ L).getD i []=plN (ptB L i) (L.getD i []) (L.getD i []).length:=kB _ _ h
theorem zG7{i:Nat}(h:i<L.length):((bxZ L).getD i []).length=(L.getD i []).length:=by rw[zTY h];exact xL _ _
theorem zTW{i k:Nat}(h:i<L.length)(hk:k<((bxZ L).getD i []).length):0≤((bxZ L).getD i []).getD k 0∧((bxZ L).getD i []).getD k 0<↑(bsZ L).length:=by
 rw[zG7 h] at hk;rw[zTY h];unfold plN;rw[kB _ _ hk];obtain⟨h1,h2⟩:=zPY (plB (ptB L i) (L.getD i []) k) ((L.getD i []).getD k zT);have h3:=zRJ (ptB L i) (L.getD i []) (show k+1≤(L.getD i []).length from hk);have G:=zZO (L:=L) (show i+1≤L.length from h);have D:(plB (ptB L i) (L.getD i []) (k+1)).length=(adB (plB (ptB L i) (L.getD i []) k) ((L.getD i []).getD k zT)).length:=rfl;have C:(ptB L (i+1)).length=(plB (ptB L i) (L.getD i []) (L.getD i []).length).length:=rfl;have z:(bsZ L).length=(ptB L L.length).length:=rfl;exact⟨h1,by omega⟩
theorem zZP:(ppZ L lo hi).length=2*(bsZ L).length:=xL _ _
theorem zQS{n:Nat}(hn:n≤L.length):(zN7 L lo hi n).length=j1 L n:=by
 induction n with
 |zero=>rfl
 |succ n ih=>
  show List.length (zN7 L lo hi n++sfX L lo hi n ((bxZ L).getD n []).length)=j1 L n+_
  rw[lAz,ih (by omega),show(sfX L lo hi n ((bxZ L).getD n []).length).length=_ from xL _ _,zG7 (by omega)]
end
end Bk
namespace Bk
set_option linter.unusedVariables false
set_option linter.unusedSimpArgs false
open Classical
def mY{α:Type}(f:α→α)(d:α)(A:List α):Nat→List α
  |0=>A
  |k+1=>(mY f d A k).set k (f ((mY f d A k).getD k d))
theorem oW{α:Type}(f:α→α)(d:α)(A:List α):∀k,(mY f d A k).length=A.length
  |0=>rfl
  |k+1=>by
   show List.length (List.set _ _ _)=_
   rw[lS];exact oW f d A k
theorem zBX{α:Type}(f:α→α)(d:α)(A:List α):∀k i,i<A.length→(mY f d A k).getD i d=if i<k then f (A.getD i d) else A.getD i d
  |0,i,_=>rfl
  |k+1,i,h=>by
   show(List.set _ k _).getD i d=_
   rw[List.getD_eq_getElem?_getD,List.getElem?_set]
   split
   · rename_i e
     subst e;rw[if_pos (by rw[oW];exact h),if_pos (by omega),zBX f d A k k h,if_neg (by omega)];rfl
   · rename_i e
     rw[←List.getD_eq_getElem?_getD,zBX f d A k i h]
     by_cases h1:i<k
     · rw[if_pos h1,if_pos (by omega)]
     · rw[if_neg h1,if_neg (by omega)]
theorem zUQ{α:Type}(f:α→α)(d:α)(A:List α):mY f d A A.length=A.map f:=by
 refine List.ext_getElem (by rw[oW,List.length_map]) fun i h1 h2=>?_;rw[oW] at h1;have:=zBX f d A A.length i h1;rw[if_pos h1,List.getD_eq_getElem?_getD,List.getElem?_eq_getElem (by rw[oW];exact h1)] at this;rw[List.getD_eq_getElem?_getD,List.getElem?_eq_getElem h1] at this;rw[List.getElem_map];exact this
noncomputable def rnN(n:List Nat):List Nat:=if n=[98,111,116,116,111,109] then[122,48] else if n=[116,111,112] then[122,49] else if n=[115,48,46,48] then[121,48] else if n=[115,48,46,49] then[120,49] else if n=[115,48,46,50] then[121,49] else if n=[115,48,46,51] then[120,48] else n
noncomputable def rnF(f:Fc):Fc:=(f.1,(f.2.1,rnN f.2.2))
theorem zJZ{F F0:List Fc}{i:Nat}{nm:List Nat}(hF:F=mY rnF zA F0 i)(h:rnN (F.getD i zA).2.2=nm):F.set i ((F.getD i zA).1,((F.getD i zA).2.1,nm))=mY rnF zA F0 (i+1):=by
 subst hF;subst h;rfl
theorem yBX{F F0:List Fc}{i:Nat}(hF:F=mY rnF zA F0 i)(h:rnN (F.getD i zA).2.2=(F.getD i zA).2.2)(hi:i<F.length):F=mY rnF zA F0 (i+1):=by
 rw[←zJZ hF h]
 show F=F.set i (F.getD i zA)
 rw[List.getD_eq_getElem?_getD,List.getElem?_eq_getElem hi];exact(List.set_getElem_self hi).symm
section
variable (a b:Pt)
def oT:Prop:=∀u,u<3→¬0≤yP (a.at u) (b.at u)
def blL:List (List Pt):=[[T3.mk a.x a.y (0:Rat),T3.mk b.x a.y (0:Rat),T3.mk b.x b.y (0:Rat),T3.mk a.x b.y (0:Rat)]]
noncomputable def blG:List Fc:=mY rnF zA (prF (blL a b) a.z b.z) (prF (blL a b) a.z b.z).length
noncomputable def blS:Sd:=(prP (blL a b) a.z b.z,blG a b,[])
noncomputable def blP:List Pt:=if oT a b then nrP (blS a b) else[]
noncomputable def blF:List Fc:=if oT a b then nrF (blS a b) else[]
noncomputable def blE:Int:=if oT a b then prE (blL a b) a.z b.z else 9
def blH:Prop:=(∀x,x∈blL a b→lZ x)∧(prE (blL a b) a.z b.z=0→okS (prR (blL a b) a.z b.z))∧okS (blS a b)
end
theorem zVS{L:List (List Pt)}{lo hi:Rat}(h:prE L lo hi=0→okS (prR L lo hi)):(prF L lo hi).length≤1000:=by
 unfold prF
 split
 · rename_i h0
   unfold nrF
   split
   · rw[zK5];exact(h h0).1.1.2
   · exact Nat.zero_le _
 · exact Nat.zero_le _
theorem bl_9{a b:Pt}(h:¬oT a b):blE a b=9∧blP a b=[]∧blF a b=[]:=⟨if_neg h,if_neg h,if_neg h⟩
theorem zW6{a b:Pt}(h:oT a b):blE a b=prE (blL a b) a.z b.z∧blP a b=nrP (blS a b)∧blF a b=nrF (blS a b):=⟨if_pos h,if_pos h,if_pos h⟩
end Bk
namespace Bk
set_option linter.unusedVariables false
set_option linter.unusedSimpArgs false
open Classical
theorem zNB{B:List Pt}{p:Pt}:∀j,(∀i,i<j→¬zJ2 (B.getD i zT) p)→u9 B p j= -1
  |0,_=>rfl
  |j+1,h=>by
   rw[←yAX (h j (by omega))];exact zNB j fun i hi=>h i (by omega)
theorem yBR{B:List Pt}{p:Pt}(h:∀i,i<B.length→¬zJ2 (B.getD i zT) p):adB B p=B++[p]∧adN B p=(B.length:Int):=by
 have h1:fdZ B p<0:=by unfold fdZ;rw[zNB _ h];decide
 exact⟨if_pos h1,if_pos h1⟩
def rgI:Nat→List Int:=jL fun i=>(i:Int)
theorem zNZ{l:List Pt}{i k:Nat}(h:i<k):(l.take k).getD i zT=l.getD i zT:=by
 rw[List.getD_eq_getElem?_getD,List.getD_eq_getElem?_getD,List.getElem?_take,if_pos h]
def zJD(l:List Pt):Prop:=∀i j,i<j→j<l.length→¬zJ2 (l.getD i zT) (l.getD j zT)
theorem zKH{l:List Pt}(hd:zJD l):∀k,k≤l.length→plB [] l k=l.take k∧plN [] l k=rgI k
  |0,_=>⟨rfl,rfl⟩
  |k+1,hk=>by
   obtain⟨h1,h2⟩:=zKH hd k (by omega);have hl:(l.take k).length=k:=by rw[List.length_take];omega
   have z:∀i,i<(l.take k).length→¬zJ2 ((l.take k).getD i zT) (l.getD k zT):=fun i hi=>by
    rw[hl] at hi;rw[zNZ hi];exact hd i k hi (by omega)
   obtain⟨h3,C⟩:=yBR z;refine⟨?_,?_⟩
   · show adB (plB [] l k) (l.getD k zT)=_
     rw[h1,h3];rw[List.getD_eq_getElem?_getD,List.getElem?_eq_getElem (show k<l.length by omega),List.take_succ_eq_append_getElem (show k<l.length by omega)];rfl
   · show plN [] l k++[adN (plB [] l k) (l.getD k zT)]=rgI k++[(k:Int)]
     rw[h2,h1,C,hl]
theorem zG8{l:List Pt}(hd:zJD l):bsZ [l]=l:=by
 have h:=(zKH hd l.length (Nat.le_refl _)).1;rw[List.take_length] at h;exact h
theorem yBD{l:List Pt}(hd:zJD l):bxZ [l]=[rgI l.length]:=congrArg (fun z=>[z]) (zKH hd l.length (Nat.le_refl _)).2
theorem zRT{P:List Pt}(ha:0<xC (arZ P 0 1)):ouZ [P]=1:=if_pos ha
theorem zVU{l:List Pt}{lo hi:Rat}(hd:zJD l)(hs:aU l 0 1)(hl:l.length≤64)(ha:0<xC (arZ l 0 1))(hlh:lo<hi):prE [l] lo hi=0:=by
 unfold prE;rw[if_neg (fun e=>e (zIT hs hl ha)),if_neg (fun e=>e (zRT ha)),if_neg (fun e=>by unfold yP at e;grind),if_neg];unfold prB;rw[zG8 hd];have h1:j1 [l] [l].length=0+l.length:=rfl;rw[h1];omega
section
variable {a b:Pt}
def bB(a b:Pt):List Pt:=[T3.mk a.x a.y (0:Rat),T3.mk b.x a.y (0:Rat),T3.mk b.x b.y (0:Rat),T3.mk a.x b.y (0:Rat)]
theorem zNR(h:oT a b):a.x<b.x∧a.y<b.y∧a.z<b.z:=by
 have g:∀{u v:Rat},¬0≤yP u v→u<v:=fun{u v} h=>Rat.not_le.1 fun e=>h (by unfold yP;grind);exact⟨g (h 0 (by decide)),g (h 1 (by decide)),g (h 2 (by decide))⟩
theorem j8(hx:a.x<b.x)(hy:a.y<b.y):zJD (bB a b):=by
 intro i j D C;have z:j<4:=C;have:(i=0∧(j=1∨j=2∨j=3))∨(i=1∧(j=2∨j=3))∨(i=2∧j=3):=by omega
 rcases this with⟨rfl,rfl|rfl|rfl⟩|⟨rfl,rfl|rfl⟩|⟨rfl,rfl⟩<;>(intro e;have H:=e.1;have G:=e.2;simp only[bB,List.getD_cons_zero,List.getD_cons_succ] at H G;grind)
def uI:List PI:=[(0,0),(1,0),(1,1),(0,1)]
theorem yDQ:∀m,m<uI.length→pr (gp (bB a b) m) 0 1=ag a.x (b.x-a.x) a.y (b.y-a.y) (gI uI m):=by
 intro m z;have D:m<4:=z;have e0:((0:Int):Rat)=0:=rfl;have C:((1:Int):Rat)=1:=rfl;have:m=0∨m=1∨m=2∨m=3:=by omega
 rcases this with rfl|rfl|rfl|rfl<;>(unfold ag;refine Prod.ext ?_ ?_<;>simp[pr,gp,bB,gI,uI,T3.at,e0,C]<;>grind)
theorem yBL(hx:a.x<b.x)(hy:a.y<b.y):aU (bB a b) 0 1:=zHZ (x:=a.x) (p:=b.x-a.x) (y:=a.y) (q:=b.y-a.y) (s:=uI) (by grind) (by grind) rfl yDQ (by decide +kernel)
theorem zW8:arZ (bB a b) 0 1=2*((b.x-a.x)*(b.y-a.y)):=by
 unfold arZ;simp[uT,gp,bB,T3.at];grind
theorem zT7(hx:a.x<b.x)(hy:a.y<b.y):0<xC (arZ (bB a b) 0 1):=by
 rw[zW8,eD];have:=sG (p:=b.x-a.x) (q:=b.y-a.y) (by grind) (by grind);grind
theorem zT4(h:oT a b):blE a b=0:=by
 obtain⟨C,z,D⟩:=zNR h;rw[(zW6 h).1];exact zVU (j8 C z) (yBL C z) (show 4≤64 by decide) (zT7 C z) D
def cB(a b:Pt)(x y z:Bool):Pt:=T3.mk (if x then b.x else a.x) (if y then b.y else a.y) (if z then b.z else a.z)
def pB0(a b:Pt):List Pt:=[cB a b false false false,cB a b true false false,cB a b true true false,cB a b false true false,cB a b false false true,cB a b true false true,cB a b true true true,cB a b false true true]
theorem zCH(hx:a.x<b.x)(hy:a.y<b.y):ppZ (blL a b) a.z b.z=pB0 a b:=by
 have h:bsZ (blL a b)=bB a b:=zG8 (j8 hx hy);unfold ppZ zRF;rw[h]
 show jL _ 8=_
 have G:(bB a b).length=4:=rfl;have C:∀i:Nat,4≤i→(if((4:Nat):Int)≤(i:Int) then b.z else a.z)=b.z:=fun i hi=>if_pos (by omega);have D:∀i:Nat,i<4→(if((4:Nat):Int)≤(i:Int) then b.z else a.z)=a.z:=fun i hi=>if_neg (by omega);simp only[jL,List.nil_append,List.cons_append,G];rw[D 0 (by decide),D 1 (by decide),D 2 (by decide),D 3 (by decide),C 4 (by decide),C 5 (by decide),C 6 (by decide),C 7 (by decide)]
 rfl
theorem zJQ(hx:a.x<b.x)(hy:a.y<b.y):bxZ (blL a b)=[[0,1,2,3]]:=yBD (j8 hx hy)
def sF(A B:Pt)(i j:Int)(nm:List Nat):Fc:=((T3.mk (B.y-A.y) (-(B.x-A.x)) (0:Rat),wO (T3.mk (B.y-A.y) (-(B.x-A.x)) (0:Rat)) A),[[i,j,j+4,i+4]],nm)
def bF0(a b:Pt):Fc:=((T3.mk (0:Rat) (0:Rat) (-((1:Int):Rat)),-a.z),[[3,2,1,0]],[98,111,116,116,111,109])
def tF0(a b:Pt):Fc:=((T3.mk (0:Rat) (0:Rat) ((1:Int):Rat),b.z),[[4,5,6,7]],[116,111,112])
noncomputable def fB0(a b:Pt):List Fc:=[sF (cB a b false false false) (cB a b true false false) 0 1 (nmS 0 0),sF (cB a b true false false) (cB a b true true false) 1 2 (nmS 0 1),sF (cB a b true true false) (cB a b false true false) 2 3 (nmS 0 2),sF (cB a b false true false) (cB a b false false false) 3 0 (nmS 0 3),bF0 a b,tF0 a b]
theorem dW(hx:a.x<b.x)(hy:a.y<b.y){k:Nat}(hk:k<4):sdF (blL a b) a.z b.z 0 k=sF ((pB0 a b).getD k zT) ((pB0 a b).getD ((k+1)%4) zT) (k:Int) (((k+1)%4:Nat):Int) (nmS 0 k):=by
 have C:=zJQ hx hy;have H:((bsZ (blL a b)).length:Int)=4:=by rw[show bsZ (blL a b)=bB a b from zG8 (j8 hx hy)];rfl
 have G:sdA (blL a b) 0 k=(k:Int):=by
  unfold sdA;rw[C];have:k=0∨k=1∨k=2∨k=3:=by omega
  rcases this with rfl|rfl|rfl|rfl<;>rfl
 have D:sdB (blL a b) 0 k=(((k+1)%4:Nat):Int):=by
  unfold sdB;rw[C];have:k=0∨k=1∨k=2∨k=3:=by omega
  rcases this with rfl|rfl|rfl|rfl<;>rfl
 have I:sdN (blL a b) a.z b.z 0 k=T3.mk (((pB0 a b).getD ((k+1)%4) zT).y-((pB0 a b).getD k zT).y) (-(((pB0 a b).getD ((k+1)%4) zT).x-((pB0 a b).getD k zT).x)) (0:Rat):=by
  unfold sdN;rw[zCH hx hy,G,D,Int.toNat_natCast,Int.toNat_natCast]
 unfold sdF;rw[I,zCH hx hy,G,D,H,Int.toNat_natCast]
 rfl
theorem zH2(hx:a.x<b.x)(hy:a.y<b.y):prR (blL a b) a.z b.z=(pB0 a b,fB0 a b,[]):=by
 have C:=zJQ hx hy;have D:((bsZ (blL a b)).length:Int)=4:=by rw[show bsZ (blL a b)=bB a b from zG8 (j8 hx hy)];rfl
 unfold prR;rw[zCH hx hy];refine congrArg (fun z=>(pB0 a b,z,([]:List En))) ?_;have I:zN7 (blL a b) a.z b.z (bxZ (blL a b)).length=[sdF (blL a b) a.z b.z 0 0,sdF (blL a b) a.z b.z 0 1,sdF (blL a b) a.z b.z 0 2,sdF (blL a b) a.z b.z 0 3]:=by
  rw[C]
  show[]++sfX (blL a b) a.z b.z 0 ((bxZ (blL a b)).getD 0 []).length=_
  rw[C];rfl
 have H:btF (blL a b) a.z=bF0 a b:=by
  unfold btF bF0 yBJ;rw[C];rfl
 have G:tpF (blL a b) b.z=tF0 a b:=by
  unfold tpF tF0 zYR tpL;rw[C,D];rfl
 rw[I,H,G,dW hx hy (by decide),dW hx hy (by decide),dW hx hy (by decide),dW hx hy (by decide)]
 rfl
theorem zMF{n:Nat}(h:n<10):qZ (((n:Int):Int):Rat)=[48+n]:=by
 unfold qZ;rw[Rat.num_intCast,Rat.den_intCast,if_neg (by omega),if_pos cH,Int.natAbs_natCast]
 by_cases h0:n=0
 · subst h0;rfl
 · rw[zUT h0 h];rfl
theorem zZ0{k:Nat}(h:k<10):nmS 0 k=[115,48,46,48+k]:=by
 unfold nmS;rw[zMF (n:=0) (by decide),zMF h];rfl
end
end Bk
namespace Bk
set_option linter.unusedVariables false
set_option linter.unusedSimpArgs false
open Classical
def zDU(p:Nat→Bool):Nat→Nat
  |0=>0
  |k+1=>if p k then zDU p k else k+1
theorem zDT{P:Nat→Prop}{p:Nat→Bool}:∀n,(∀k,k<n→(P k↔p k=true))→cV P n=zDU p n
  |0,_=>rfl
  |n+1,h=>by
   have ih:=zDT n fun k hk=>h k (by omega);have h1:=h n (by omega);unfold cV zDU;rw[ih]
   by_cases hp:P n
   · rw[if_pos hp,if_pos (h1.1 hp)]
   · rw[if_neg hp,if_neg (fun e=>hp (h1.2 e))]
def usB(E:List E5)(i:Nat):Bool:=E.any fun e=>decide (e.1=(i:Int))
theorem zP7(E:List E5)(i:Nat):zFW E E.length i↔usB E i=true:=by
 unfold usB;rw[List.any_eq_true];constructor
 · rintro⟨q,z,h⟩
   exact⟨_,bW z,decide_eq_true h⟩
 · rintro⟨e,C,h⟩
   obtain⟨q,z,rfl⟩:=List.getElem_of_mem C;refine⟨q,z,?_⟩;rw[List.getD_eq_getElem?_getD,List.getElem?_eq_getElem z];exact of_decide_eq_true h
def orB(E:List E5)(lt:Nat→Nat→Bool):Nat→List Int
  |0=>[]
  |i+1=>if usB E i then eT (orB E lt i) (zDU (fun k=>lt i ((orB E lt i).getD k 0).toNat) (orB E lt i).length) (i:Int) else orB E lt i
theorem zRW{s:Sd}{lt:Nat→Nat→Bool}{n:Nat}(h:∀i k,i<n→k<n→(lsP (gp s.1 i) (gp s.1 k)↔lt i k=true)):∀i,i≤n→bR s i=orB (edZ (wZ s)) lt i
  |0,_=>rfl
  |i+1,hi=>by
   have ih:=zRW h i (by omega);unfold bR orB;have hb:cV (zOM s (bR s i) i) (bR s i).length=zDU (fun k=>lt i ((orB (edZ (wZ s)) lt i).getD k 0).toNat) (orB (edZ (wZ s)) lt i).length:=by
    rw[←ih];refine zDT _ fun k z=>?_;have:=oJ z;exact h i _ (by omega) (by omega)
   rw[hb,ih]
   by_cases hu:zFW (edZ (wZ s)) (edZ (wZ s)).length i
   · rw[if_pos hu,if_pos ((zP7 _ _).1 hu)]
   · rw[if_neg hu,if_neg (fun e=>hu ((zP7 _ _).2 e))]
abbrev B3:=Bool×Bool×Bool
def lt3(u v:B3):Bool:=(!u.1&&v.1)||(u.1==v.1&&((!u.2.1&&v.2.1)||(u.2.1==v.2.1&&(!u.2.2&&v.2.2))))
def cU(a b:Pt)(u:B3):Pt:=cB a b u.1 u.2.1 u.2.2
variable {a b:Pt}
theorem zPC(hx:a.x<b.x)(hy:a.y<b.y)(hz:a.z<b.z)(u v:B3):lsP (cU a b u) (cU a b v)↔lt3 u v=true:=by
 obtain⟨D,C,u3⟩:=u;obtain⟨v1,v2,v3⟩:=v
 cases D<;>cases C<;>cases u3<;>cases v1<;>cases v2<;>cases v3<;>simp[lsP,cU,cB,lt3]<;>grind
theorem yBB(hx:a.x<b.x)(hy:a.y<b.y)(hz:a.z<b.z){u v:B3}(h:cU a b u=cU a b v):u=v:=by
 obtain⟨D,C,u3⟩:=u;obtain⟨v1,v2,v3⟩:=v;have h1:=congrArg T3.x h;have h2:=congrArg T3.y h;have h3:=congrArg T3.z h
 cases D<;>cases C<;>cases u3<;>cases v1<;>cases v2<;>cases v3<;>first|rfl|(exfalso;simp[cU,cB] at h1 h2 h3;grind)
def uB0:List B3:=[(false,false,false),(true,false,false),(true,true,false),(false,true,false),(false,false,true),(true,false,true),(true,true,true),(false,true,true)]
theorem nQ:pB0 a b=uB0.map (cU a b):=rfl
theorem w9{l:List B3}{i:Nat}(h:i<l.length):gp (l.map (cU a b)) i=cU a b (l.getD i (false,false,false)):=by
 unfold gp;rw[List.getD_eq_getElem?_getD,List.getD_eq_getElem?_getD,List.getElem?_map,List.getElem?_eq_getElem h];rfl
theorem zEZ(hx:a.x<b.x)(hy:a.y<b.y)(hz:a.z<b.z){l:List B3}{F:List Fc}{E:List En}:fM (l.map (cU a b),F,E)=orB (edZ (wZ (l.map (cU a b),F,E))) (fun i k=>lt3 (l.getD i (false,false,false)) (l.getD k (false,false,false))) l.length:=by
 unfold fM;rw[show(l.map (cU a b),F,E).1.length=l.length from List.length_map _];refine zRW (n:=l.length) (fun i k hi C=>?_) _ (Nat.le_refl _)
 show lsP (gp (l.map (cU a b)) i) (gp (l.map (cU a b)) k)↔_
 rw[w9 hi,w9 C];exact zPC hx hy hz _ _
theorem oO:wZ (pB0 a b,fB0 a b,[])=[[[0,1,5,4]],[[1,2,6,5]],[[2,3,7,6]],[[3,0,4,7]],[[3,2,1,0]],[[4,5,6,7]]]:=rfl
theorem zIA(hx:a.x<b.x)(hy:a.y<b.y)(hz:a.z<b.z):fM (pB0 a b,fB0 a b,[])=[0,4,3,7,1,5,2,6]:=by
 rw[nQ,zEZ hx hy hz,←nQ,oO]
 decide +kernel
end Bk
