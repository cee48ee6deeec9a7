/- Texts that the proof needs, part 2. -/
import Derived.Test.YtboaboflnckgoaaGreatKB1
namespace Bk
set_option linter.unusedVariables false
set_option linter.unusedSimpArgs false
open Go Go.RowKit
open Classical
noncomputable def sg(s:Prop)(n:Nat):Int:=if s then -(n:Int) else n
theorem mS{s:Prop}(h:s)(n:Nat):sg s n= -(n:Int):=if_pos h
theorem aY{s:Prop}(h:¬s)(n:Nat):sg s n=n:=if_neg h
theorem eH(s:Prop)(n:Nat):(sg s n).natAbs=n:=by
 by_cases h:s
 · rw[mS h];omega
 · rw[aY h];omega
theorem zT8(s:Prop):sg s 0=0:=by
 by_cases h:s
 · rw[mS h];omega
 · rw[aY h];omega
theorem zP2(s:Prop)(n:Nat):sg s n<0↔s∧n≠0:=by
 by_cases h:s
 · rw[mS h];exact⟨fun u=>⟨h,by omega⟩,fun u=>by omega⟩
 · rw[aY h];exact⟨fun u=>by omega,fun u=>absurd u.1 h⟩
theorem zXZ(s:Prop){n g:Nat}(h:g∣n):sg s n/(g:Int)=sg s (n/g):=by
 by_cases hs:s
 · rw[mS hs,mS hs]
   obtain⟨k,rfl⟩:=h
   rcases Nat.eq_zero_or_pos g with h0|h0
   · subst h0;simp
   · rw[Nat.mul_div_cancel_left _ h0,Int.natCast_mul,←Int.mul_neg,Int.mul_ediv_cancel_left _ (by omega)]
 · rw[aY hs,aY hs];omega
theorem zXY(q:Rat):sg (q.num<0) q.num.natAbs=q.num:=by
 by_cases h:q.num<0
 · rw[mS h];omega
 · rw[aY h];omega
def xU(d:Nat):Nat:=if d=1 then 0 else d
theorem pV:xU 1=0:=rfl
theorem cS{d:Nat}(h:d≠1):xU d=d:=if_neg h
theorem mF{d:Nat}(h0:d≠0):zB (xU d)=[]↔d=1:=by
 by_cases h:d=1
 · subst h;rw[pV,yS];simp
 · rw[cS h]
   exact⟨fun e=>by have:=yM.2 h0;rw[e] at this;simp at this,fun e=>absurd e h⟩
theorem uJ(q:Rat):(if zB (xU q.den)=[] then[1] else zB (xU q.den))=zB q.den:=by
 by_cases h:q.den=1
 · rw[if_pos ((mF q.den_nz).2 h),h,jO (by omega) (by omega)]
 · rw[if_neg (fun e=>h ((mF q.den_nz).1 e)),cS h]
def wJ(h:Mem)(v:Value)(q:Rat):Prop:=∃vn vd,v=.agg #[vB (q.num<0),vn,vd]∧Us .u32 h vn (zB q.num.natAbs)∧Us .u32 h vd (zB (xU q.den))
theorem zb:vB ((0:Rat).num<0)=.bool false:=yV (by decide)
theorem zA2(h:Mem):Us .u32 h (.slice none 0 0) (zB (0:Rat).num.natAbs):=by
 have:zB (0:Rat).num.natAbs=[]:=yS;rw[this];exact Us.nil _ _
theorem zA3(h:Mem):Us .u32 h (.slice none 0 0) (zB (xU (0:Rat).den)):=by
 have:zB (xU (0:Rat).den)=[]:=yS;rw[this];exact Us.nil _ _
theorem wJ.zero(h:Mem):wJ h (.agg #[vB ((0:Rat).num<0),.slice none 0 0,.slice none 0 0]) 0:=⟨_,_,rfl,zA2 _,zA3 _⟩
theorem zAI{s:Prop}{n d:Nat}(hd:d≠0):(mkRat (sg s n) d).num=sg s (n/Nat.gcd n d):=by
 rw[Rat.num_mkRat,if_neg hd,eH,Nat.gcd_comm];exact zXZ s (Nat.gcd_dvd_left n d)
theorem zE4{s:Prop}{n d:Nat}(hd:d≠0):(mkRat (sg s n) d).den=d/Nat.gcd n d:=by
 rw[Rat.den_mkRat,if_neg hd,eH,Nat.gcd_comm]
theorem wJ.make{h:Mem}{s:Prop}{n d:Nat}{vn vd:Value}(hn0:n≠0)(hd0:d≠0)(hn:Us .u32 h vn (zB (n/Nat.gcd n d)))(hd:Us .u32 h vd (zB (xU (d/Nat.gcd n d)))):wJ h (.agg #[vB s,vn,vd]) (mkRat (sg s n) d):=by
 have u:n/Nat.gcd n d≠0:=by
  have C:=Nat.gcd_dvd_left n d;have z:=Nat.gcd_pos_of_pos_left d (Nat.pos_of_ne_zero hn0);exact Nat.ne_of_gt (Nat.div_pos (Nat.le_of_dvd (Nat.pos_of_ne_zero hn0) C) z)
 refine⟨vn,vd,?_,?_,?_⟩
 · have:vB ((mkRat (sg s n) d).num<0)=vB s:=by
    rw[zAI hd0];exact fL ⟨fun h=>((zP2 _ _).1 h).1,fun h=>(zP2 _ _).2 ⟨h,u⟩⟩
   rw[this]
 · rw[zAI hd0,eH];exact hn
 · rw[zE4 hd0];exact hd
noncomputable def dL(q:Rat):Rat:=if q.num<0 then -q else q
theorem zDW(q:Rat):(dL q).num=q.num.natAbs:=by
 unfold dL
 by_cases h:q.num<0
 · rw[if_pos h,Rat.neg_num];omega
 · rw[if_neg h];omega
theorem zJH(q:Rat):(dL q).den=q.den:=by
 unfold dL
 by_cases h:q.num<0
 · rw[if_pos h,Rat.neg_den]
 · rw[if_neg h]
theorem wJ.abs{h:Mem}{q:Rat}{vn vd:Value}(hn:Us .u32 h vn (zB q.num.natAbs))(hd:Us .u32 h vd (zB (xU q.den))):wJ h (.agg #[.bool false,vn,vd]) (dL q):=by
 refine⟨vn,vd,?_,?_,?_⟩
 · rw[yV (by rw[zDW];omega)]
 · rw[zDW];exact hn
 · rw[zJH];exact hd
theorem wJ.negB{h:Mem}{q:Rat}{vn vd:Value}(hn:Us .u32 h vn (zB q.num.natAbs))(hd:Us .u32 h vd (zB (xU q.den))):wJ h (.agg #[vB (¬q.num<0∧(0:Int)<↑(zB q.num.natAbs).length),vn,vd]) (-q):=by
 refine⟨vn,vd,?_,?_,?_⟩
 · have:vB ((-q).num<0)=vB (¬q.num<0∧(0:Int)<↑(zB q.num.natAbs).length):=by
    have u:=yM (n:=q.num.natAbs);rw[Rat.neg_num];exact fL ⟨fun h=>⟨by omega,by omega⟩,fun h=>by omega⟩
   rw[this]
 · rw[Rat.neg_num,Int.natAbs_neg];exact hn
 · rw[Rat.neg_den];exact hd
theorem zDA{m n k:Nat}(h1:(zB m).length≤k)(h2:(zB n).length≤k):(zB (m+n)).length≤k+1:=by
 refine vX ?_;have z:=Nat.lt_of_lt_of_le (uG m) (Nat.pow_le_pow_right (by decide) h1);have u:=Nat.lt_of_lt_of_le (uG n) (Nat.pow_le_pow_right (by decide) h2);rw[Nat.pow_succ];generalize 4294967296^k=p at *;omega
theorem putL{xs:List Nat}{lo n:Nat}(h:lo+1≤xs.length)(h0:n≠0)(hn:n<4294967296):xs.set lo n=xs.take lo++zB n++xs.drop (lo+(zB n).length):=by
 rw[jO h0 hn,List.set_eq_take_append_cons_drop,if_pos (by omega)];simp
theorem yA0{xs:List Nat}{lo n:Nat}(h:lo+2≤xs.length)(hn:n<18446744073709551616)(hn':4294967296≤n):(xs.set lo (n%4294967296)).set (lo+1) (n/4294967296)=xs.take lo++zB n++xs.drop (lo+(zB n).length):=by
 have e:zB n=[n%4294967296,n/4294967296]:=by rw[jY (by omega),jO (t:=n/4294967296) (by omega) (by omega)]
 rw[e]
 apply List.ext_getElem?
 intro i;simp only[List.getElem?_set,lS,List.getElem?_append,lAz,List.length_take,lC,lN,List.getElem?_take,List.getElem?_drop]
 rcases Nat.lt_trichotomy i lo with hi|hi|hi
 · rw[if_neg (by omega),if_neg (by omega),if_pos (by omega),if_pos (by omega),if_pos (by omega)]
 · subst hi
   rw[if_neg (by omega),if_pos rfl,if_pos (by omega),if_pos (by omega),if_neg (by omega)];simp[show min i xs.length=i by omega]
 · by_cases h1:i=lo+1
   · subst h1
     rw[if_pos rfl,if_pos (by omega),if_pos (by omega),if_neg (by omega)];simp[show min lo xs.length=lo by omega]
   · rw[if_neg (by omega),if_neg (by omega),if_neg (by omega)]
     congr 1
     omega
noncomputable def rz(s:Prop)(n:Rat):Rat:=if s then -n else n
theorem oC{s:Prop}(h:s)(n:Rat):rz s n= -n:=if_pos h
theorem mT{s:Prop}(h:¬s)(n:Rat):rz s n=n:=if_neg h
theorem rB(s:Prop)(n d:Nat):mkRat (sg s n) d=rz s n/d:=by
 rw[Rat.mkRat_eq_div]
 by_cases h:s
 · rw[mS h,oC h,Rat.intCast_neg];rfl
 · rw[aY h,mT h];rfl
theorem jT(q:Rat):mkRat (sg (q.num<0) q.num.natAbs) q.den=q:=by rw[zXY,Rat.mkRat_self]
theorem cT{d:Nat}(h:d≠0):(d:Rat)≠0:=fun e=>h (Rat.natCast_eq_zero_iff.1 e)
theorem u9(s:Prop)(d:Nat):mkRat (sg s 0) d=0:=by rw[zT8,Rat.zero_mkRat]
theorem u6(s:Prop)(n:Nat):mkRat (sg s n) 0=0:=by rw[Rat.mkRat_zero]
theorem zGJ{s t:Prop}(h:s↔t)(n d:Nat):mkRat (sg s n) d=mkRat (sg t n) d:=by rw[propext h]
theorem zRS(s:Prop){n m d e:Nat}(hd:d≠0)(he:e≠0):mkRat (sg s n) d+mkRat (sg s m) e=mkRat (sg s (n*e+m*d)) (d*e):=by
 rw[rB,rB,rB,Rat.natCast_mul,Rat.natCast_add,Rat.natCast_mul,Rat.natCast_mul];have z:=cT hd;have u:=cT he;generalize (d:Rat)=D at *;generalize (e:Rat)=E at *;generalize (n:Rat)=N at *;generalize (m:Rat)=M at *
 by_cases h:s
 · rw[oC h,oC h,oC h];grind
 · rw[mT h,mT h,mT h];grind
theorem zK8{s t:Prop}(hst:¬(s↔t)){n m d e:Nat}(hd:d≠0)(he:e≠0)(hle:m*d≤n*e):mkRat (sg s n) d+mkRat (sg t m) e=mkRat (sg s (n*e-m*d)) (d*e):=by
 have z:((n*e-m*d:Nat):Rat)=n*e-m*d:=by
  have G:n*e-m*d+m*d=n*e:=by omega
  have C:((n*e-m*d+m*d:Nat):Rat)=((n*e:Nat):Rat):=by rw[G]
  rw[Rat.natCast_add,Rat.natCast_mul,Rat.natCast_mul] at C;generalize ((n*e-m*d:Nat):Rat)=X at *;grind
 rw[rB,rB,rB,z,Rat.natCast_mul];have I:=cT hd;have H:=cT he;generalize (d:Rat)=D at *;generalize (e:Rat)=E at *;generalize (n:Rat)=N at *;generalize (m:Rat)=M at *
 by_cases h:s
 · have u:¬t:=fun u=>hst ⟨fun _=>u,fun _=>h⟩
   rw[oC h,mT u,oC h];grind
 · have u:t:=Classical.byContradiction fun u=>hst ⟨fun a=>absurd a h,fun a=>absurd a u⟩
   rw[mT h,oC u,mT h];grind
theorem zMM{s t:Prop}(hst:¬(s↔t)){n m d e:Nat}(hd:d≠0)(he:e≠0)(hle:n*e≤m*d):mkRat (sg s n) d+mkRat (sg t m) e=mkRat (sg t (m*d-n*e)) (d*e):=by
 rw[Rat.add_comm,zK8 (fun h=>hst h.symm) he hd hle,Nat.mul_comm e d]
theorem zRR(s t:Prop)(n m d e:Nat):mkRat (sg s n) d*mkRat (sg t m) e=mkRat (sg (¬(s↔t)) (n*m)) (d*e):=by
 rw[Rat.mkRat_mul_mkRat]
 congr 1
 by_cases h:s<;>by_cases h':t
 · rw[mS h,mS h',aY (by simp[h,h']),Int.natCast_mul,Int.neg_mul_neg]
 · rw[mS h,aY h',mS (by simp[h,h']),Int.natCast_mul,Int.neg_mul]
 · rw[aY h,mS h',mS (by simp[h,h']),Int.natCast_mul,Int.mul_neg]
 · rw[aY h,aY h',aY (by simp[h,h']),Int.natCast_mul]
theorem zK9(s t:Prop){n m d e:Nat}(hd:d≠0)(hm:m≠0)(he:e≠0):mkRat (sg s n) d/mkRat (sg t m) e=mkRat (sg (¬(s↔t)) (n*e)) (d*m):=by
 rw[rB,rB,rB,Rat.natCast_mul,Rat.natCast_mul];have C:=cT hd;have z:=cT hm;have u:=cT he;generalize (d:Rat)=D at *;generalize (e:Rat)=E at *;generalize (n:Rat)=N at *;generalize (m:Rat)=M at *
 by_cases h:s<;>by_cases h':t
 · rw[oC h,oC h',mT (by simp[h,h'])];grind
 · rw[oC h,mT h',oC (by simp[h,h'])];grind
 · rw[mT h,oC h',oC (by simp[h,h'])];grind
 · rw[mT h,mT h',mT (by simp[h,h'])];grind
theorem zYQ(s:Prop)(n d:Nat):-mkRat (sg s n) d=mkRat (sg (¬s) n) d:=by
 rw[Rat.neg_mkRat]
 congr 1
 by_cases h:s
 · rw[mS h,aY (by simp[h])];omega
 · rw[aY h,mS h]
theorem zC6(s:Prop)(n d:Nat){k:Nat}(hk:k≠0):mkRat (sg s (n*k)) (d*k)=mkRat (sg s n) d:=by
 rw[rB,rB,Rat.natCast_mul,Rat.natCast_mul];have z:=cT hk
 by_cases hd:d=0
 · subst hd
   have:((0:Nat):Rat)=0:=rfl;rw[this];grind
 have u:=cT hd;generalize (d:Rat)=D at *;generalize (k:Rat)=K at *;generalize (n:Rat)=N at *
 by_cases h:s
 · rw[oC h,oC h];grind
 · rw[mT h,mT h];grind
def lq(q:Rat):Nat:=max (zB q.num.natAbs).length (zB q.den).length
theorem wF(q:Rat):(zB q.num.natAbs).length≤lq q:=Nat.le_max_left _ _
theorem wP(q:Rat):(zB q.den).length≤lq q:=Nat.le_max_right _ _
theorem zSM(d:Nat):(zB (xU d)).length≤(zB d).length:=by
 by_cases h:d=1
 · subst h;rw[pV,yS];simp
 · rw[cS h];exact Nat.le_refl _
theorem wC(q:Rat):(zB (xU q.den)).length≤lq q:=Nat.le_trans (zSM _) (wP q)
theorem dA(q:Rat):0<lq q:=Nat.lt_of_lt_of_le (yM.2 q.den_nz) (wP q)
theorem mN{s:Prop}{n d k:Nat}(hn:(zB n).length≤k)(hd:(zB d).length≤k)(hk:0<k):lq (mkRat (sg s n) d)≤k:=by
 by_cases h0:d=0
 · subst h0
   rw[u6];refine Nat.max_le.2 ⟨?_,?_⟩
   · have:(zB (0:Rat).num.natAbs)=[]:=yS
     rw[this];simp
   · have:zB (0:Rat).den=[1]:=by rw[show(0:Rat).den=1 from rfl,jY (by omega),yS]
     rw[this];exact hk
 · refine Nat.max_le.2 ⟨?_,?_⟩
   · rw[zAI h0,eH]
     exact Nat.le_trans (zN (Nat.div_le_self _ _)) hn
   · rw[zE4 h0]
     exact Nat.le_trans (zN (Nat.div_le_self _ _)) hd
theorem tK:lq 0=1:=by
 have h:=mN (s:=False) (n:=0) (d:=0) (k:=1) (by rw[yS];simp) (by rw[yS];simp) (by omega);rw[u6] at h;have:=dA 0;omega
theorem zLD(q:Rat):lq (-q)=lq q:=by unfold lq;rw[Rat.neg_num,Rat.neg_den,Int.natAbs_neg]
theorem zY0(q:Rat):lq (dL q)=lq q:=by unfold lq;rw[zDW,zJH,Int.natAbs_natCast]
theorem fZ(a b:Rat):lq (a*b)≤lq a+lq b:=by
 rw[←jT a,←jT b,zRR,jT,jT];have G:=wF a;have D:=wF b;have C:=wP a;have z:=wP b;have u:=dA a;exact mN (Nat.le_trans (yE _ _) (by omega)) (Nat.le_trans (yE _ _) (by omega)) (by omega)
theorem jA(a b:Rat):lq (a+b)≤lq a+lq b+1:=by
 have J:=wF a;have I:=wF b;have H:=wP a;have G:=wP b;have D:=dA a;have C:=yE a.num.natAbs b.den;have z:=yE b.num.natAbs a.den;have u:=yE a.den b.den;have e:a+b=mkRat (sg (a.num<0) a.num.natAbs) a.den+mkRat (sg (b.num<0) b.num.natAbs) b.den:=by rw[jT,jT]
 rw[e]
 by_cases h:(a.num<0)↔(b.num<0)
 · rw[zGJ h,zRS _ a.den_nz b.den_nz]
   refine mN (Nat.le_trans (zDA ?_ ?_) (Nat.le_refl _)) (by omega) (by omega)
   · omega
   · omega
 · rcases Nat.le_total (b.num.natAbs*a.den) (a.num.natAbs*b.den) with hle|hle
   · rw[zK8 h a.den_nz b.den_nz hle]
     exact mN (Nat.le_trans (zN (Nat.sub_le _ _)) (by omega)) (by omega) (by omega)
   · rw[zMM h a.den_nz b.den_nz hle]
     exact mN (Nat.le_trans (zN (Nat.sub_le _ _)) (by omega)) (by omega) (by omega)
theorem zAL(a b:Rat):lq (a-b)≤lq a+lq b+1:=by
 rw[Rat.sub_eq_add_neg];have:=jA a (-b);rw[zLD] at this;exact this
theorem zC0{q:Rat}:q.num.natAbs≠0↔q≠0:=by
 rw[Int.natAbs_ne_zero];exact not_congr Rat.num_eq_zero
theorem zRY(a b:Rat):lq (a/b)≤lq a+lq b:=by
 have G:=wF a;have D:=wF b;have C:=wP a;have z:=wP b;have u:=dA a
 by_cases hb:b=0
 · subst hb
   have:a/0=0:=by grind
   rw[this,tK];omega
 have e:a/b=mkRat (sg (a.num<0) a.num.natAbs) a.den/mkRat (sg (b.num<0) b.num.natAbs) b.den:=by rw[jT,jT]
 rw[e,zK9 _ _ a.den_nz (zC0.2 hb) b.den_nz];exact mN (Nat.le_trans (yE _ _) (by omega)) (Nat.le_trans (yE _ _) (by omega)) (by omega)
noncomputable def wH(a b:Rat):Int:=if a<b then -1 else if a=b then 0 else 1
noncomputable def xJ(q:Rat):Int:=if q=0 then 0 else if q.num<0 then -1 else 1
theorem zWI(s:Prop){n m d e:Nat}(hd:d≠0)(he:e≠0):mkRat (sg s n) d<mkRat (sg s m) e↔if s then m*d<n*e else n*e<m*d:=by
 have u:∀x y:Nat,(x:Rat)<(y:Rat)↔x<y:=fun x y=>by rw[Rat.natCast_lt_natCast]
 have C:(0:Rat)<(d:Rat):=by rw[show(0:Rat)=((0:Nat):Rat) from rfl,u];omega
 have z:(0:Rat)<(e:Rat):=by rw[show(0:Rat)=((0:Nat):Rat) from rfl,u];omega
 rw[rB,rB,←u,←u,Rat.natCast_mul,Rat.natCast_mul,Rat.div_lt_iff C];generalize (d:Rat)=D at *;generalize (e:Rat)=E at *;generalize (n:Rat)=N at *;generalize (m:Rat)=M at *;have G:∀X:Rat,X/E*D=X*D/E:=fun X=>by grind
 rw[G,Rat.lt_div_iff z]
 by_cases h:s
 · rw[oC h,oC h,if_pos h];grind
 · rw[mT h,mT h,if_neg h]
theorem zWP(s:Prop){n m d e:Nat}(hd:d≠0)(he:e≠0):mkRat (sg s n) d=mkRat (sg s m) e↔n*e=m*d:=by
 rw[Rat.mkRat_eq_iff hd he]
 by_cases h:s
 · rw[mS h,mS h]
   rw[Int.neg_mul,Int.neg_mul,Int.neg_inj,←Int.natCast_mul,←Int.natCast_mul];omega
 · rw[aY h,aY h,←Int.natCast_mul,←Int.natCast_mul];omega
theorem zZR(s:Prop){n m d e:Nat}(hd:d≠0)(he:e≠0):wH (mkRat (sg s n) d) (mkRat (sg s m) e)=if s then -(tD (n*e) (m*d)) else tD (n*e) (m*d):=by
 unfold wH tD
 by_cases h:s
 · simp only[zWI s hd he,zWP s hd he,if_pos h]
   by_cases h1:m*d<n*e
   · rw[if_pos h1,if_neg (by omega),if_neg (by omega)]
   · rw[if_neg h1]
     by_cases h2:n*e=m*d
     · rw[if_pos h2,if_neg (by omega)];rfl
     · rw[if_neg h2,if_pos (by omega)];rfl
 · simp only[zWI s hd he,zWP s hd he,if_neg h]
theorem zI7(a b:Rat)(h:(a.num<0)↔(b.num<0)):wH a b=if a.num<0 then -(tD (a.num.natAbs*b.den) (b.num.natAbs*a.den)) else tD (a.num.natAbs*b.den) (b.num.natAbs*a.den):=by
 have:=zZR (a.num<0) (n:=a.num.natAbs) (m:=b.num.natAbs) a.den_nz b.den_nz;rw[jT,zGJ h,jT] at this;rw[this]
 by_cases h:a.num<0
 · rw[if_pos h,if_pos h]
 · rw[if_neg h,if_neg h]
theorem oS(q:Rat):q.num<0↔q<0:=by
 have:=Rat.num_nonneg (q:=q);rw[←Rat.not_le,←this];omega
theorem g8{a b:Rat}(h:xJ a≠xJ b):wH a b=if xJ a<xJ b then -1 else 1:=by
 have z:xJ a=if a=0 then 0 else if a<0 then -1 else 1:=by unfold xJ;simp only[oS]
 have u:xJ b=if b=0 then 0 else if b<0 then -1 else 1:=by unfold xJ;simp only[oS]
 rw[z,u] at h ⊢;unfold wH
 clear z u
 grind
theorem wI(q:Rat):-1≤xJ q∧xJ q≤1:=by
 unfold xJ
 split
 · omega
 · split<;>omega
theorem jC(a b:Rat):-1≤wH a b∧wH a b≤1:=by
 unfold wH
 split
 · omega
 · split<;>omega
theorem pW{a b:Rat}:wH a b<0↔a<b:=by
 unfold wH
 by_cases h:a<b
 · simp[h]
 · by_cases h':a=b
   · simp[h']
   · simp[h,h']
theorem oZ{a b:Rat}:0<wH a b↔b<a:=by
 unfold wH
 by_cases h:a<b
 · simp[h];grind
 · by_cases h':a=b
   · simp[h']
   · simp[h,h'];grind
theorem bC{a b:Rat}:wH a b=0↔a=b:=by
 unfold wH
 by_cases h:a<b
 · simp[h];grind
 · by_cases h':a=b
   · simp[h']
   · simp[h,h']
def fS(q:Rat):Prop:=(zB q.num.natAbs).length≤1∧(zB (xU q.den)).length≤1
theorem zJX{q:Rat}(h:(1:Int)<↑(zB q.num.natAbs).length∨(1:Int)<↑(zB (xU q.den)).length):¬fS q:=fun⟨h1,h2⟩=>by omega
theorem zNS{q:Rat}(h:¬((1:Int)<↑(zB q.num.natAbs).length∨(1:Int)<↑(zB (xU q.den)).length)):fS q:=⟨by omega,by omega⟩
theorem aI{n:Nat}(h:(zB n).length≤1):n<4294967296:=by
 have:=Nat.lt_of_lt_of_le (uG n) (Nat.pow_le_pow_right (by decide) h);omega
theorem zSK{d:Nat}(h:(↑(zB (xU d)).length:Int)=1):(zB (xU d)).getD 0 0=d:=by
 by_cases h1:d=1
 · subst h1;rw[pV,yS] at h;simp at h
 · rw[cS h1] at h ⊢
   have z:=aI (n:=d) (by omega);have u:d≠0:=yM.1 (by omega);rw[jO u z];rfl
theorem zO3{d:Nat}(h0:d≠0)(h:¬(↑(zB (xU d)).length:Int)=1)(h1:(zB (xU d)).length≤1):d=1:=by
 by_cases h2:d=1
 · exact h2
 · rw[cS h2] at h h1
   have:=yM.2 h0;omega
theorem zSL{q:Rat}(h:¬(↑(zB (xU q.den)).length:Int)=1)(hs:fS q):q.den=1:=zO3 q.den_nz h hs.2
theorem gO{q:Rat}(h:fS q):q.num.natAbs<4294967296:=aI h.1
theorem gP{q:Rat}(h:fS q):q.den<4294967296:=by
 by_cases h1:q.den=1
 · omega
 · have u:=h.2
   rw[cS h1] at u;exact aI u
noncomputable def pN(q:Rat):Nat:=if fS q then q.num.natAbs else 0
noncomputable def pD(q:Rat):Nat:=if fS q then q.den else 0
theorem zD3{q:Rat}(h:fS q):pN q=q.num.natAbs:=if_pos h
theorem pN_f{q:Rat}(h:¬fS q):pN q=0:=if_neg h
theorem zD4{q:Rat}(h:fS q):pD q=q.den:=if_pos h
theorem pD_f{q:Rat}(h:¬fS q):pD q=0:=if_neg h
theorem kT{n:Nat}:xZ n=0↔n=0:=by
 unfold xZ
 by_cases h:n=0
 · simp[h]
 · simp[h]
theorem mA{Y:Nat}:((↑(zB Y).length:Int)=1∧(zB Y).getD 0 0=1)↔Y=1:=by
 constructor
 · intro⟨h1,h2⟩
   have z:=aI (n:=Y) (by omega);have u:Y≠0:=yM.1 (by omega);rw[jO u z] at h2;exact h2
 · intro h
   subst h;rw[jO (by omega) (by omega)];exact⟨rfl,rfl⟩
theorem zFM{n:Nat}(h:¬(1:Int)<↑(xZ n))(h0:n≠0):n=1:=by
 have z:=cQ n;have u:=Nat.pow_le_pow_right (n:=2) (by decide) (show xZ n≤1 by omega);omega
theorem wJ.fin{h:Mem}{s:Prop}{n d:Nat}{vn vd:Value}(hn0:n≠0)(hd0:d≠0)(hn:Us .u32 h vn (zB (n/Nat.gcd n d)))(hd:Us .u32 h vd (zB (d/Nat.gcd n d)))(h1:¬((↑(zB (d/Nat.gcd n d)).length:Int)=1∧(zB (d/Nat.gcd n d)).getD 0 0=1)):wJ h (.agg #[vB s,vn,vd]) (mkRat (sg s n) d):=
 wJ.make hn0 hd0 hn (by rw[cS (fun e=>h1 (mA.2 e))];exact hd)
theorem wJ.fin1{h:Mem}{s:Prop}{n d:Nat}{vn:Value}(hn0:n≠0)(hd0:d≠0)(hn:Us .u32 h vn (zB (n/Nat.gcd n d)))(h1:(↑(zB (d/Nat.gcd n d)).length:Int)=1∧(zB (d/Nat.gcd n d)).getD 0 0=1):wJ h (.agg #[vB s,vn,.slice none 0 0]) (mkRat (sg s n) d):=
 wJ.make hn0 hd0 hn (by rw[mA.1 h1,pV,yS];exact Us.nil _ _)
theorem rV:[1]=zB 1:=(jO (by omega) (by omega)).symm
theorem j0:(zB 1).length=1:=by rw[←rV];rfl
theorem iE(m n:Nat):(zB (Nat.gcd m n)).length≤max (zB m).length (zB n).length:=by
 by_cases h:m=0
 · subst h;rw[Nat.gcd_zero_left];omega
 · have:=zN (Nat.gcd_le_left n (Nat.pos_of_ne_zero h))
   omega
end Bk
namespace Bk
set_option linter.unusedVariables false
set_option linter.unusedSimpArgs false
open Go Go.RowKit
open Classical
theorem aX{q:Rat}(h:q=0):xJ q=0:=if_pos h
theorem z8{q:Rat}(h:q.num<0):xJ q= -1:=by
 unfold xJ;rw[if_neg (fun e=>by rw[e] at h;exact absurd h (by decide)),if_pos h]
theorem z6{q:Rat}(h:q≠0)(h':¬q.num<0):xJ q=1:=by unfold xJ;rw[if_neg h,if_neg h']
theorem zD8{q:Rat}(h:(↑(xZ q.num.natAbs):Int)=0):q=0:=by
 have:=(kT (n:=q.num.natAbs)).1 (by omega);exact Rat.num_eq_zero.1 (by omega)
theorem zEE{q:Rat}(h:q=0):(↑(xZ q.num.natAbs):Int)=0:=by subst h;decide
theorem zLS{a b:Rat}:zB (xU a.den)=zB (xU b.den)↔a.den=b.den:=by
 refine⟨fun h=>?_,fun h=>by rw[h]⟩;have u:=eS h;have C:=a.den_nz;have z:=b.den_nz;unfold xU at u
 split at u<;>split at u<;>omega
theorem zX8{a b:Rat}(h1:a.num=b.num)(h2:a.den=b.den):a=b:=by
 rw[←Rat.mkRat_self a,←Rat.mkRat_self b,h1,h2]
theorem zP5{a b:Rat}:(((a.num<0↔b.num<0)∧zB a.num.natAbs=zB b.num.natAbs)∧zB (xU a.den)=zB (xU b.den))↔a=b:=by
 refine⟨fun⟨⟨C,z⟩,u⟩=>zX8 ?_ (zLS.1 u),fun h=>by subst h;simp⟩;have:=eS z;omega
theorem zHF{a b:Rat}(h:¬xJ a≠xJ b):a.num<0↔b.num<0:=by
 have h:=Classical.not_not.1 h
 by_cases h1:a.num<0<;>by_cases h2:b.num<0
 · simp[h1,h2]
 · rw[z8 h1] at h
   by_cases h3:b=0
   · rw[aX h3] at h;omega
   · rw[z6 h3 h2] at h;omega
 · rw[z8 h2] at h
   by_cases h3:a=0
   · rw[aX h3] at h;omega
   · rw[z6 h3 h1] at h;omega
 · simp[h1,h2]
def cN(a b:Rat):Int:=tD (a.num.natAbs*b.den) (b.num.natAbs*a.den)
theorem zJD(a b:Rat):-1≤cN a b∧cN a b≤1:=by
 unfold cN tD
 split
 · omega
 · split<;>omega
theorem zM7{a b:Rat}(h:a.num<0↔b.num<0)(hn:a.num<0):wH a b= -(cN a b):=by rw[zI7 a b h,if_pos hn];rfl
theorem zI8{a b:Rat}(h:a.num<0↔b.num<0)(hn:¬a.num<0):wH a b=cN a b:=by rw[zI7 a b h,if_neg hn];rfl
theorem zZX{a b:Rat}(h:zB (xU a.den)=zB (xU b.den)):cN a b=tD a.num.natAbs b.num.natAbs:=by
 unfold cN tD;rw[zLS.1 h];have u:=Nat.pos_of_ne_zero b.den_nz
 by_cases h1:a.num.natAbs<b.num.natAbs
 · rw[if_pos h1,if_pos (Nat.mul_lt_mul_of_pos_right h1 u)]
 · rw[if_neg h1,if_neg (fun e=>h1 (Nat.lt_of_mul_lt_mul_right e))]
   by_cases h2:a.num.natAbs=b.num.natAbs
   · rw[if_pos h2,h2,if_pos rfl]
   · rw[if_neg h2,if_neg (fun e=>h2 (Nat.eq_of_mul_eq_mul_right u e))]
theorem qK{m n:Nat}(hm:m<4294967296)(hn:n<4294967296):m*n≤18446744065119617025:=by
 have:=Nat.mul_le_mul (show m≤4294967295 by omega) (show n≤4294967295 by omega);omega
noncomputable def sgd(s:Prop)(b:Rat):Rat:=mkRat (sg s b.num.natAbs) b.den
theorem z9(b:Rat):sgd (b.num<0) b=b:=jT b
theorem zT7(b:Rat):sgd (¬b.num<0) b= -b:=by
 unfold sgd;rw[←zYQ,jT]
theorem zRX(s:Prop)(b:Rat):lq (sgd s b)≤lq b:=mN (wF b) (wP b) (dA b)
theorem zB2{a b:Rat}{s:Prop}(h:(a.num<0)↔s):a+sgd s b=mkRat (sg s (a.num.natAbs*b.den+b.num.natAbs*a.den)) (a.den*b.den):=by
 have:=zRS s (n:=a.num.natAbs) (m:=b.num.natAbs) a.den_nz b.den_nz;rw[←zGJ h a.num.natAbs,jT] at this;exact this
theorem zBQ{a b:Rat}{s:Prop}(h:¬((a.num<0)↔s))(hle:b.num.natAbs*a.den≤a.num.natAbs*b.den):a+sgd s b=mkRat (sg (a.num<0) (a.num.natAbs*b.den-b.num.natAbs*a.den)) (a.den*b.den):=by
 have:=zK8 h (n:=a.num.natAbs) (m:=b.num.natAbs) a.den_nz b.den_nz hle;rw[jT] at this;exact this
theorem dX{a b:Rat}{s:Prop}(h:¬((a.num<0)↔s))(hle:a.num.natAbs*b.den≤b.num.natAbs*a.den):a+sgd s b=mkRat (sg s (b.num.natAbs*a.den-a.num.natAbs*b.den)) (a.den*b.den):=by
 have:=zMM h (n:=a.num.natAbs) (m:=b.num.natAbs) a.den_nz b.den_nz hle;rw[jT] at this;exact this
theorem zTG{a b:Rat}{s:Prop}(h:(a.num<0)↔s)(hd:a.den=b.den):a+sgd s b=mkRat (sg s (a.num.natAbs+b.num.natAbs)) a.den:=by
 rw[zB2 h,←hd,←Nat.add_mul,zC6 _ _ _ a.den_nz]
theorem zPQ{a b:Rat}{s:Prop}(h:¬((a.num<0)↔s))(hd:a.den=b.den)(hle:b.num.natAbs≤a.num.natAbs):a+sgd s b=mkRat (sg (a.num<0) (a.num.natAbs-b.num.natAbs)) a.den:=by
 rw[zBQ h (by rw[←hd];exact Nat.mul_le_mul_right _ hle),←hd,←Nat.sub_mul,zC6 _ _ _ a.den_nz]
theorem zNQ{a b:Rat}{s:Prop}(h:¬((a.num<0)↔s))(hd:a.den=b.den)(hle:a.num.natAbs≤b.num.natAbs):a+sgd s b=mkRat (sg s (b.num.natAbs-a.num.natAbs)) a.den:=by
 rw[dX h (by rw[←hd];exact Nat.mul_le_mul_right _ hle),←hd,←Nat.sub_mul,zC6 _ _ _ a.den_nz]
theorem zRN(a b:Rat):mkRat (sg (¬((a.num<0)↔(b.num<0))) (a.num.natAbs*b.num.natAbs)) (a.den*b.den)=a*b:=by
 rw[←zRR,jT,jT]
theorem zQQ(a:Rat){b:Rat}(hb:b≠0):mkRat (sg (¬((a.num<0)↔(b.num<0))) (a.num.natAbs*b.den)) (a.den*b.num.natAbs)=a/b:=by
 rw[←zK9 _ _ a.den_nz (zC0.2 hb) b.den_nz,jT,jT]
theorem pO{q:Rat}(h:(↑(zB q.num.natAbs).length:Int)=0):q=0:=by
 refine Classical.byContradiction fun u=>?_;have:=yM.2 (zC0.2 u);omega
theorem uO{q:Rat}:xJ q=0↔q=0:=by
 refine⟨fun h=>?_,aX⟩;unfold xJ at h
 by_cases h1:q=0
 · exact h1
 · rw[if_neg h1] at h;split at h<;>omega
noncomputable def bZ(a b:Rat):Rat:=if b<a then b else a
noncomputable def sJ(a b:Rat):Rat:=if a<b then b else a
theorem zYR{a b:Rat}(h:wH b a<0):bZ a b=b:=if_pos (pW.1 h)
theorem zYS{a b:Rat}(h:¬wH b a<0):bZ a b=a:=if_neg (fun e=>h (pW.2 e))
theorem zYT{a b:Rat}(h:0<wH b a):sJ a b=b:=if_pos (oZ.1 h)
theorem zYU{a b:Rat}(h:¬0<wH b a):sJ a b=a:=if_neg (fun e=>h (oZ.2 e))
theorem zR1(a b:Rat):lq (bZ a b)≤max (lq a) (lq b):=by unfold bZ;split<;>omega
theorem zR2(a b:Rat):lq (sJ a b)≤max (lq a) (lq b):=by unfold sJ;split<;>omega
noncomputable def zDF:Rat:=mkRat (sg False 1) 2
theorem zVB:lq zDF≤1:=mN (by rw[jO (by omega) (by omega)];simp) (by rw[jO (by omega) (by omega)];simp) (by omega)
theorem zR9:zDF=1/2:=by
 unfold zDF;rw[rB,mT id]
 rfl
noncomputable def iZ(a b:Rat):Rat:=(a+b)*zDF
theorem zYY(a b:Rat):lq (iZ a b)≤lq a+lq b+2:=by
 have C:=fZ (a+b) zDF;have z:=jA a b;have u:=zVB;unfold iZ;omega
noncomputable def floorQ(q:Rat):Rat:=((q.floor:Int):Rat)
def kN(k:Int):Nat:=(min (max k 0) 4096).toNat
noncomputable def zWS(q:Rat)(k:Int):Rat:=mkRat (q*(2^kN k:Nat)).floor (2^kN k)
noncomputable def upQ(q:Rat)(k:Int):Rat:=-zWS (-q) k
theorem zUR{k:Nat}(h:k≤4096):(zB (2^k)).length≤129:=by
 have e:(4294967296:Nat)^129=2^(32*129):=(Nat.pow_mul 2 32 129).symm;have u:k<32*129:=by omega
 generalize 32*129=m at *;refine vX ?_;rw[e];exact Nat.pow_lt_pow_right (by decide) u
theorem zMR(a b:Rat):lq (if b=0 then 0 else a/b)≤lq a+lq b:=by
 have:=zRY a b;have u:=dA a
 split
 · rw[tK];omega
 · exact this
theorem zPR{p:Prop} [Decidable p](h:(if p then 7 else 0:Int)=0):¬p:=by
 intro u;rw[if_pos u] at h;omega
theorem zPS{p:Prop} [Decidable p](h:¬(if p then 7 else 0:Int)=0):p:=by
 refine Classical.byContradiction fun u=>h ?_;rw[if_neg u]
noncomputable def yBU(q:Rat):Int:=max (↑(xZ q.num.natAbs):Int) ↑(xZ q.den)
theorem kR{n:Int}(h1:-9223372036854775808≤n)(h2:n<9223372036854775808):(zB n.natAbs).length≤2:=kD (by omega)
noncomputable def jD(n d:Int):Rat:=(n:Rat)/(d:Rat)
theorem zC7(n:Int):jD n 0=0:=by
 unfold jD;have:((0:Int):Rat)=0:=rfl;rw[this];grind
theorem zGN(n:Int):mkRat (sg (n<0) n.natAbs) 1=(n:Rat):=by
 have e:sg (n<0) n.natAbs=n:=by
  by_cases h:n<0
  · rw[mS h];omega
  · rw[aY h];omega
 rw[e,Rat.mkRat_one]
theorem zIL{n d:Int}(hd:d≠0):mkRat (sg (¬((n<0)↔(d<0))) n.natAbs) d.natAbs=jD n d:=by
 unfold jD;rw[←zGN n,←zGN d,zK9 _ _ (by omega) (by omega) (by omega),Nat.mul_one,Nat.one_mul]
theorem zAM(n:Int)(h1:-9223372036854775808≤n)(h2:n<9223372036854775808):lq (n:Rat)≤2:=by
 rw[←zGN];exact mN (kR h1 h2) (by rw[j0];omega) (by omega)
theorem zBY{n d:Int}(h1:-9223372036854775808≤n)(h2:n<9223372036854775808)(h3:-9223372036854775808≤d)(h4:d<9223372036854775808):lq (jD n d)≤2:=by
 by_cases hd:d=0
 · subst hd;rw[zC7,tK];omega
 · rw[←zIL hd];exact mN (kR h1 h2) (kR h3 h4) (by omega)
def dV(ys:List Nat):Nat:=if ys=[] then 1 else val ys
theorem zXA(ys:List Nat):val (if ys=[] then[1] else ys)=dV ys:=by
 unfold dV
 split
 · rfl
 · rfl
theorem zVW{ys:List Nat}(h:(0:Int)<↑ys.length∧(↑(xZ (val ys)):Int)=0):dV ys=0:=by
 unfold dV;rw[if_neg (fun e=>by rw[e] at h;simp at h)];exact kT.1 (by omega)
theorem yBP{ys:List Nat}(h:¬((0:Int)<↑ys.length∧(↑(xZ (val ys)):Int)=0)):dV ys≠0:=by
 unfold dV
 split
 · omega
 · rename_i h1
   intro u;have C:xZ (val ys)=0:=kT.2 u;have z:0<ys.length:=List.length_pos_iff.2 h1;exact h ⟨by omega,by omega⟩
theorem zZQ(ys:List Nat):(if ys=[] then[1] else ys).length≤ys.length+1:=by
 split
 · simp
 · omega
def zWV(xs:List Nat):Prop:=xs=[]∨xs.getD (xs.length-1) 0≠0
def badP(xs ys:List Nat):Prop:=((¬zWV xs)∨(¬zWV ys))∨((↑ys.length:Int)=1∧ys.getD 0 0=1)
def validP(s:Prop)(xs ys:List Nat):Prop:=¬badP xs ys∧((xs=[]→¬s∧ys=[])∧(xs≠[]→ys=[]∨Nat.gcd (val xs) (val ys)=1))
theorem zDB{xs:List Nat}:(↑xs.length:Int)=0↔xs=[]:=⟨fun h=>List.eq_nil_of_length_eq_zero (by omega),fun h=>by rw[h];rfl⟩
theorem zDH{g:Nat}(h:¬((↑(zB g).length:Int)≠1∨(zB g).getD 0 0≠1)):g=1:=
 mA.1 ⟨Classical.not_not.1 fun e=>h (.inl e),Classical.not_not.1 fun e=>h (.inr e)⟩
theorem zSS{a b:Rat}:(((a.num<0)↔(b.num<0))∧tD a.num.natAbs b.num.natAbs=0)∧tD (xU a.den) (xU b.den)=0↔a=b:=by
 rw[zAW,zAW,←zP5];constructor
 · rintro⟨⟨C,z⟩,u⟩
   exact⟨⟨C,by rw[z]⟩,by rw[u]⟩
 · rintro⟨⟨C,z⟩,u⟩
   exact⟨⟨C,eS z⟩,eS u⟩
theorem zVE{q:Rat}:(↑(zB q.num.natAbs).length:Int)=0↔q=0:=by
 refine⟨pO,fun h=>?_⟩;subst h;rw[show(0:Rat).num.natAbs=0 from rfl,yS];rfl
theorem zCZ{q:Rat}(h:¬(↑(zB q.num.natAbs).length:Int)=0):q≠0:=fun e=>h (zVE.2 e)
theorem zTH{a b:Rat}(h:(a.num<0)↔(b.num<0)):mkRat (sg (a.num<0) (a.num.natAbs*b.den+b.num.natAbs*a.den)) (a.den*b.den)=a+b:=by
 have:=zB2 (a:=a) (b:=b) h;rw[z9,zGJ h.symm] at this;exact this.symm
theorem zZ6{a b:Rat}(h:¬((a.num<0)↔(b.num<0)))(hle:b.num.natAbs*a.den≤a.num.natAbs*b.den):mkRat (sg (a.num<0) (a.num.natAbs*b.den-b.num.natAbs*a.den)) (a.den*b.den)=a+b:=by
 have:=zBQ (a:=a) (b:=b) h hle;rw[z9] at this;exact this.symm
theorem zZ5{a b:Rat}(h:¬((a.num<0)↔(b.num<0)))(hle:a.num.natAbs*b.den≤b.num.natAbs*a.den):mkRat (sg (b.num<0) (b.num.natAbs*a.den-a.num.natAbs*b.den)) (a.den*b.den)=a+b:=by
 have:=dX (a:=a) (b:=b) h hle;rw[z9] at this;exact this.symm
theorem zJM{h:Mem}{v:Value}{n:Int}(s:Us .u32 h v (zB n.natAbs)):Us .u32 h v (zB (n:Rat).num.natAbs):=by
 rw[Rat.num_intCast];exact s
theorem zJN{h:Mem}{n:Int}:Us .u32 h (.slice none 0 0) (zB (xU (n:Rat).den)):=by
 rw[Rat.den_intCast,pV,yS];exact Us.nil _ _
theorem wJ.int{h:Mem}{v:Value}{n:Int}(s:Us .u32 h v (zB n.natAbs)):wJ h (.agg #[vB (n<0),v,.slice none 0 0]) (n:Rat):=
 ⟨v,.slice none 0 0,by rw[Rat.num_intCast],zJM s,zJN⟩
theorem zFA:jD 1 2=zDF:=by rw[zR9];rfl
noncomputable def numQ(s:Prop)(xs ys:List Nat):Rat:=mkRat (sg s (val xs)) (dV ys)
theorem zMS(s:Prop)(xs ys:List Nat):lq (numQ s xs ys)≤max (zB (val xs)).length (zB (dV ys)).length+1:=mN (by omega) (by omega) (by omega)
theorem zMT(s:Prop)(xs ys:List Nat):lq (mkRat (sg s (val xs)) (dV ys))≤max (zB (val xs)).length (zB (dV ys)).length+1:=zMS s xs ys
end Bk
namespace Bk
set_option linter.unusedVariables false
set_option linter.unusedSimpArgs false
open Go Go.RowKit
def kG(k:Nat)(v:Value)(lo hi mx:Nat):Value:=
 match v with
 | .slice a _ _=>.slice (if mx=lo then a else a.map (·.add (lo*k))) (hi-lo) (mx-lo)
 |_=>undef
section
variable {P:Program}{n:Nat}{w0:World}{h0:Mem}{e:List (Nat×Value)}{L:List Res}{h:Mem}{Q:Exit→Act→World→Prop}
variable {ds:Option Tmp}{ty:TypeId}{ps:String}{af:Array Edge}{gd:Option (Nat×Bool)}
theorem Sl.sub3{h:Mem}{k:Nat}{v:Value}{m:Nat}{cs:List Value}(s:Sl h k v m cs){lo hi mx:Nat}(h1:lo≤hi)(h2:hi≤mx)(h3:mx≤m):Sl h k (kG k v lo hi mx) (hi-lo) ((cs.drop (lo*k)).take ((hi-lo)*k)):=by
 obtain⟨a,M,rfl,S,O,J,I⟩:=s;refine⟨_,_,rfl,by omega,by omega,?_,fun i D=>?_⟩
 · rw[List.length_take,List.length_drop,J]
   have:=Nat.mul_le_mul_right k (show lo+(hi-lo)≤m by omega);rw[Nat.add_mul] at this;omega
 · rw[List.length_take,List.length_drop] at D
   have z:i<(hi-lo)*k:=by omega
   have u:0<(hi-lo)*k:=by omega
   have C:lo<hi:=by
    rcases Nat.lt_or_ge lo hi with h'|h'
    · exact h'
    · rw[show hi-lo=0 by omega,Nat.zero_mul] at u;omega
   obtain⟨b,o,H,G⟩:=I (lo*k+i) (by omega);subst H;refine⟨b,o+lo*k,by rw[if_neg (by omega)];simp[qZ],?_⟩;rw[List.getElem?_take,if_pos z,List.getElem?_drop,←G,Nat.add_assoc]
theorem Us.sub3{k:IntKind}{h:Mem}{v:Value}{xs:List Nat}(s:Us k h v xs){lo hi mx:Nat}(h1:lo≤hi)(h2:hi≤mx)(h3:mx≤xs.length):Us k h (kG 1 v lo hi mx) ((xs.drop lo).take (hi-lo)):=by
 have:=s.sl.sub3 h1 h2 h3;simp only[Nat.mul_one] at this;refine⟨?_,fun x u=>s.lt x (List.mem_of_mem_drop (List.mem_of_mem_take u))⟩;have z:((xs.drop lo).take (hi-lo)).length=hi-lo:=by rw[List.length_take,List.length_drop];omega
 rw[z]
 simpa[us] using this
theorem St.own_shape{E:Nat}{k:IntKind}{v:Value}{xs:List Nat}{w:World}(S:St w0 h0 L h w)(hm:.us E k v xs∈L):∃a cap,v=.slice a xs.length cap∧xs.length≤cap∧cap≤maxLen∧(0<xs.length→∃g,a=some ⟨g,0,none⟩):=by
 obtain⟨z,u⟩:=S.ok _ hm
 rcases u with⟨rfl,h0'⟩|⟨g,cap,cur,rfl,hb,hg,hn,hcm,hcs,ht⟩
 · exact⟨none,0,by rw[h0'],by omega,by omega,fun h=>by omega⟩
 · exact⟨_,cap,rfl,hn,hcm,fun _=>⟨g,rfl⟩⟩
theorem St.own_self{E:Nat}{k:IntKind}{v:Value}{xs:List Nat}{w:World}(S:St w0 h0 L h w)(hm:.us E k v xs∈L):v=gH 1 v 0 xs.length:=by
 obtain⟨a,u,rfl,G,D,C⟩:=S.own_shape hm;simp only[gH,Nat.zero_mul,Nat.sub_zero]
 by_cases hc:u=0
 · rw[if_pos hc]
 · rw[if_neg hc]
   cases a with
   |none=>rfl
   |some x=>
    obtain⟨b,o,z⟩:=x;simp[Addr.add]
theorem zCL{E:Nat}{k:IntKind}{v:Value}{xs:List Nat}{t E':TypeId}{x lo:Operand}{p:Int}(hm:.us E k v xs∈L)(i:Nat)(ht:P.underlying t=some (.slice E'))(hsz:∀w,(Go.sizeOf E').run P w=.ok 1 w)(hx:zJ e x=some v)(hl:zJ e lo=some (vI p))
    (hp:p=(i:Int))(h1:i≤xs.length):OpV P n w0 h0 ⟨ds,.slice t x (some lo) none none,ty,ps,af,gd⟩ e L h (gH 1 v i xs.length):=by
 intro a w G S;obtain⟨D,u,z,C,_⟩:=S.own_shape hm;exact qF i ht hsz hx hl ⟨D,u,z,C⟩ hp h1 a w G S
theorem zJ3{t E:TypeId}{w:World}(ht:P.underlying t=some (.slice E))(hsz:∀w,(Go.sizeOf E).run P w=.ok 1 w)(a:Option Addr)(m cap lo hi mx:Nat)(h1:lo≤hi)(h2:hi≤mx)(h3:mx≤cap):
 (Instr.sliceAt t (.slice a m cap) (some (vI lo)) (some (vI hi)) (some (vI mx))).run P w=.ok (kG 1 (.slice a m cap) lo hi mx) w:=by
 simp[Instr.sliceAt,Instr.slice,run_underlying ht,Instr.sliceBounds,Instr.sliceBound,asIntOf,vI,hsz,kG,h1,h2,h3]
theorem zHL{t E:TypeId}{w:World}(ht:P.underlying t=some (.slice E))(hsz:∀w,(Go.sizeOf E).run P w=.ok 1 w)(a:Option Addr)(m cap hi mx:Nat)(h2:hi≤mx)(h3:mx≤cap):
 (Instr.sliceAt t (.slice a m cap) none (some (vI hi)) (some (vI mx))).run P w=.ok (kG 1 (.slice a m cap) 0 hi mx) w:=by
 simp[Instr.sliceAt,Instr.slice,run_underlying ht,Instr.sliceBounds,Instr.sliceBound,asIntOf,vI,hsz,kG,h2,h3]
theorem zD5{E:Nat}{k:IntKind}{v:Value}{xs:List Nat}{t E':TypeId}{x lo hi mx:Operand}{p q r:Int}(hm:.us E k v xs∈L)(i j l:Nat)(ht:P.underlying t=some (.slice E'))(hsz:∀w,(Go.sizeOf E').run P w=.ok 1 w)(hx:zJ e x=some v)(hl:zJ e lo=some (vI p))(hh:zJ e hi=some (vI q))(hmx:zJ e mx=some (vI r))
    (hp:p=(i:Int))(hq:q=(j:Int))(hr:r=(l:Int))(h1:i≤j)(h2:j≤l)(h3:l≤xs.length):OpV P n w0 h0 ⟨ds,.slice t x (some lo) (some hi) (some mx),ty,ps,af,gd⟩ e L h (kG 1 v i j l):=by
 subst hp;subst hq;subst hr;intro a w u S;obtain⟨C,z,rfl,D,_⟩:=S.own_shape hm;have:=zJ3 (P:=P) (w:=w) ht hsz C xs.length z i j l h1 h2 (by omega);simp[execOp,u.eval hx,u.eval hl,u.eval hh,u.eval hmx,this]
theorem zCM{E:Nat}{k:IntKind}{v:Value}{xs:List Nat}{t E':TypeId}{x hi mx:Operand}{q r:Int}(hm:.us E k v xs∈L)(j l:Nat)(ht:P.underlying t=some (.slice E'))(hsz:∀w,(Go.sizeOf E').run P w=.ok 1 w)(hx:zJ e x=some v)(hh:zJ e hi=some (vI q))(hmx:zJ e mx=some (vI r))
    (hq:q=(j:Int))(hr:r=(l:Int))(h2:j≤l)(h3:l≤xs.length):OpV P n w0 h0 ⟨ds,.slice t x none (some hi) (some mx),ty,ps,af,gd⟩ e L h (kG 1 v 0 j l):=by
 subst hq;subst hr;intro a w z S;obtain⟨C,u,rfl,D,_⟩:=S.own_shape hm;have:=zHL (P:=P) (w:=w) ht hsz C xs.length u j l h2 (by omega);simp[execOp,z.eval hx,z.eval hh,z.eval hmx,this]
theorem iD{E:Nat}{k:IntKind}{v u:Value}{xs:List Nat}{t E':TypeId}{x y:Operand}{q:Int}{lo:Nat}(hm:.us E k v xs∈L)(hu:u=gH 1 v lo xs.length)(i:Nat)(ht:P.underlying t=some (.slice E'))(hsz:∀w,(Go.sizeOf E').run P w=.ok 1 w)(hx:zJ e x=some u)(hy:zJ e y=some (vI q))
    (hq:q=(i:Int))(hi:lo+i<xs.length):OpV P n w0 h0 ⟨ds,.indexAddr t x y,ty,ps,af,gd⟩ e L h (zL 1 v (lo+i)):=by
 subst hq;subst hu;intro a w D S;obtain⟨T,C,rfl,O,I,H⟩:=S.own_shape hm;obtain⟨g,rfl⟩:=H (by omega);have z:¬C=lo:=by omega
 have M:(i:Int)<((xs.length-lo:Nat):Int):=by omega
 have J:(0:Int)≤(i:Int):=by omega
 simp only[gH,if_neg z,Option.map_some,qZ,Nat.mul_one,Nat.zero_add] at hx;simp[execOp,D.eval hx,D.eval hy,Instr.indexAt,asIntOf,vI,run_underlying ht,M,J,hsz,zL,qZ];intro G;omega
theorem zSB{ops:Array Oper}{l:List Oper}{E:Nat}{k:IntKind}{v:Value}{xs:List Nat}(hm:.us E k v xs∈L)(k':∀a cap,v=.slice a xs.length cap→xs.length≤cap→GL P n w0 h0 ops Q l e L h):GL P n w0 h0 ops Q l e L h:=by
 intro a w D S;obtain⟨C,cap,u,z,_⟩:=S.own_shape hm;exact k' C cap u z a w D S
theorem zIX{ops:Array Oper}{l:List Oper}{A B:List Res}{r:Res}(k':GL P n w0 h0 ops Q l e (r::(A++B)) h):GL P n w0 h0 ops Q l e (A++r::B) h:=
 fun a w Ev S=>k' a w Ev (S.perm List.perm_middle)
theorem zQ4{f:Nat}{xs:List Operand}{ts:Array TypeId}{vs:List Value}{v:Value}(hcall:∀w,(callFunc f vs.toArray).run P w=.ok (.value v) w)(hvs:rO e xs vs):
 OpV P n w0 h0 ⟨ds,.call {callee:=.value (.func f),args:=xs.toArray,argTypes:=ts},ty,ps,af,gd⟩ e L h v:=by
 intro a w z S;have u:xs.toArray.map a.eval=vs.toArray:=by rw[List.map_toArray,z.evals hvs]
 simp only[execOp,resolve,Act.eval];simp[Deferred.ofValue,invoke,hcall,u]
theorem jL.nil{ops:Array Oper}:jL P n ops []:=fun x hx=>by cases hx
theorem jL.cons{ops:Array Oper}{i d E:Nat}{cs:List Value}{al:Als}(hop:(ops.getD i default).op=.alloc E)(hd:Nat.ble (d+1) n=true)(hz:∀w,∃z,(zeroValue E).run P w=.ok z w∧z.cells=cs.toArray)(h:jL P n ops al):jL P n ops ((i,(d,E,cs))::al):=by
 intro x D
 rcases List.mem_cons.1 D with rfl|D
 · refine⟨Nat.le_of_ble_eq_true hd,fun a w=>?_,fun H G=>?_⟩
   · obtain⟨z,C,u⟩:=hz w
     simp only[execOp,hop,Instr.alloc,zG5,zOT];simp[C,newVar,newRow,newObj,Sem.run,u]
   · simp only[hop,zOT] at G
     cases G
 · exact h x D
theorem uX{E:TypeId}{i:TypeInfo}{z:Value}{cs:List Value}(hi:P.info? E=some i)(hz:i.zero=some z)(hc:z.cells=cs.toArray)(w:World):∃z,(zeroValue E).run P w=.ok z w∧z.cells=cs.toArray:=
 ⟨z,by simp[zeroValue,typeInfo,hi,hz],hc⟩
theorem kM{e:List (Nat×Value)}{al:Als}:∀x∈([]:Als),al.lookup x.1=some x.2∧e.lookup x.2.1=none:=fun x hx=>by cases hx
theorem uZ{e:List (Nat×Value)}{al al':Als}{y:Nat×(Nat×TypeId×List Value)}(h1:al.lookup y.1=some y.2)(h2:e.lookup y.2.1=none)(h:∀x∈al',al.lookup x.1=some x.2∧e.lookup x.2.1=none):∀x∈y::al',al.lookup x.1=some x.2∧e.lookup x.2.1=none:=by
 intro x u
 rcases List.mem_cons.1 u with rfl|u
 · exact⟨h1,h2⟩
 · exact h x u
end
end Bk
namespace Bk
set_option linter.unusedVariables false
set_option linter.unusedSimpArgs false
open Go Go.RowKit
open Classical
def zW2(h:Mem):List Value→List Rat→Prop
  |cs,[]=>cs=[]
  |cs,q::qs=>∃vn vd rest,cs=vB (q.num<0)::vn::vd::rest∧Us .u32 h vn (zB q.num.natAbs)∧Us .u32 h vd (zB (xU q.den))∧zW2 h rest qs
def zG3(h:Mem)(v:Value)(qs:List Rat):Prop:=∃cs,v=.agg cs.toArray∧zW2 h cs qs
section
variable {P:Program}{n:Nat}{w0:World}{h0:Mem}{e:List (Nat×Value)}{L:List Res}{h:Mem}{Q:Exit→Act→World→Prop}
variable {ds:Option Tmp}{ty:TypeId}{ps:String}{af:Array Edge}{gd:Option (Nat×Bool)}
def zJI(P:Program)(c:Code)(Q:Exit→Act→World→Prop)(a:Act)(w:World):Prop:=
 ∀(b:Frame) (k:List Item) (cs:List Frame),∃x a' w',Q x a' w'∧Arrives P (lone (b.at a (.code c::.inLoop c::k)) cs w) b k cs x a' w'
theorem zIO{c:Code}{a:Act}{w:World}(hw:c.wp P (Exit.then (zJI P c Q) Q) a w):zJI P c Q a w:=by
 intro b k cs;obtain⟨x,G,D,C,u⟩:=hw b (.inLoop c::k) cs
 cases x with
 |normal=>
  obtain⟨I,M,J,H,z⟩:=C b k cs;exact⟨I,M,J,H,.of_steps (Steps.trans u (.one step_inLoop)) z⟩
 |exit id=>exact⟨_,G,D,C,.pass (x:=.inLoop c) rfl (fun _ _=>.inl (by simp)) u⟩
 |goto l=>exact⟨_,G,D,C,.pass (x:=.inLoop c) rfl (fun _ _=>.inl (by simp)) u⟩
 |ret=>exact⟨_,G,D,C,.pass (x:=.inLoop c) rfl (fun _ _=>.inl (by simp)) u⟩
 |panic ch=>exact⟨_,G,D,C,.pass (x:=.inLoop c) rfl (fun _ _=>.inl (by simp)) u⟩
 |outgrown=>exact⟨_,G,D,C,.pass (x:=.inLoop c) rfl (fun _ _=>.inl (by simp)) u⟩
theorem tX{c:Code}(k:GC P n w0 h0 c (Exit.then (zJI P c Q) Q) e L h):GC P n w0 h0 (.loop c) Q e L h:=by
 intro a w E S b C cs;obtain⟨x,G,z,D,u⟩:=zIO (k a w E S) b C cs;exact⟨x,G,z,D,.of_steps (.one step_loop) u⟩
theorem wT{c:Code}(k:GC P n w0 h0 c (Exit.then (zJI P c Q) Q) e L h):GQ n w0 h0 (Exit.then (zJI P c Q) Q) .normal e L h:=
 fun a w E S=>zIO (k a w E S)
theorem OpV.cv{o:Oper}{v v':Value}(hv:OpV P n w0 h0 o e L h v)(e':v=v'):OpV P n w0 h0 o e L h v':=e'▸hv
end
end Bk
namespace Bk
set_option linter.unusedVariables false
set_option linter.unusedSimpArgs false
open Go Go.RowKit
section
variable {P:Program}{n:Nat}{w0:World}{h0:Mem}{e:List (Nat×Value)}{L:List Res}{h:Mem}
variable {ds:Option Tmp}{ty:TypeId}{ps:String}{af:Array Edge}{gd:Option (Nat×Bool)}
theorem fU{x:Operand}{b k:Nat}(hx:zJ e x=some (vP b k)):OpV P n w0 h0 ⟨ds,.nilCheck x,ty,ps,af,gd⟩ e L h (vP b k):=by
 intro a w u S;simp[execOp,u.eval hx]
theorem zX{t E:TypeId}{x y:Operand}{b k m sz:Nat}{q:Int}(i:Nat)(ht:P.underlying t=some (.array m E))(hsz:∀w,(Go.sizeOf E).run P w=.ok sz w)(hx:zJ e x=some (vP b k))(hy:zJ e y=some (vI q))(hq:q=(i:Int))(hi:i<m):
 OpV P n w0 h0 ⟨ds,.indexAddr t x y,ty,ps,af,gd⟩ e L h (vP b (k+i*sz)):=by
 subst hq;intro a w u S;simp[execOp,u.eval hx,u.eval hy,Instr.indexAt,vI,asIntOf,run_underlying ht,hsz,Instr.sureAddr,hi,qZ]
theorem zF9{t E:TypeId}{m sz:Nat}{i:TypeInfo}{z:Value}{parts:List (Nat×Operand)}{ps':List (Nat×Value)}{vs:List Value}(ht:P.underlying t=some (.array m E))(hi:P.info? t=some i)(hz:i.zero=some z)
    (hsz:∀w,(Go.sizeOf E).run P w=.ok sz w)(hp:mM e parts ps')(hf:Instr.fill (fun i=>some (i*sz,sz)) z.cells ps'=some vs.toArray):
    OpV P n w0 h0 ⟨ds,.build t parts.toArray,ty,ps,af,gd⟩ e L h (.agg vs.toArray):=by
 intro a w D S;have C:(parts.toArray.map fun(p:Nat×Operand)=>(p.1,a.eval p.2)).toList=ps':=by
  rw[List.map_toArray];exact hp.eval D
 have u:(zeroValue t).run P w=.ok z w:=by simp[zeroValue,typeInfo,hi,hz]
 simp only[execOp,Instr.build];rw[show(parts.toArray.map fun(i,x)=>(i,a.eval x)).toList=ps' from C];simp only[Sem.run_bind,u,Result.andThen_ok,run_underlying ht,hsz,hf]
 rfl
end
end Bk
namespace Bk
set_option linter.unusedVariables false
set_option linter.unusedSimpArgs false
open Go Go.RowKit
theorem zOU{x:Int}(h:(Lit.int .i64 x).wf=true):-9223372036854775808≤x∧x<9223372036854775808:=by
 simp only[Lit.wf,Bool.and_eq_true,decide_eq_true_eq] at h;simp[IntKind.min,IntKind.max,IntKind.signed,IntKind.bits] at h;omega
theorem zFK{xs:List Nat}(h:∀x∈xs,x<256):byt (uT xs)=xs:=by
 simp only[byt,uT,List.map_map]
 conv=>rhs;rw[←List.map_id xs]
 refine List.map_congr_left fun x u=>?_;simp only[Function.comp,id];exact Nat.mod_eq_of_lt (h x u)
end Bk
namespace Bk
set_option linter.unusedVariables false
set_option linter.unusedSimpArgs false
open Go Go.RowKit
open Classical
structure Is(h:Mem)(v:Value)(xs:List Int):Prop where
 sl:Sl h 1 v xs.length (xs.map vI)
 rng:∀x∈xs,-9223372036854775808≤x∧x<9223372036854775808
theorem Is.mono{h h':Mem}{v:Value}{xs:List Int}(s:Is h v xs)(hh:MLe h h'):Is h' v xs:=⟨s.sl.mono hh,s.rng⟩
theorem Is.nil(h:Mem):Is h (.slice none 0 0) []:=⟨Sl.nil h 1,by simp⟩
theorem Is.one{h:Mem}{v:Value}{xs:List Int}(s:Is h v xs):∃a cap,v=.slice a xs.length cap:=s.sl.one
theorem Is.lt63{h:Mem}{v:Value}{xs:List Int}(s:Is h v xs):xs.length<9223372036854775808:=s.sl.lt63
theorem Is.cells{h:Mem}{v:Value}{xs:List Int}(s:Is h v xs):v.cells=[v].toArray:=by
 obtain⟨a,u,rfl⟩:=s.one
 rfl
theorem is_of_row{w:World}{a:Option Addr}{len cap:Nat}{zs:List Int}
    (h:(a=none∧len=0∧cap=0∧zs=[])∨∃x,a=some x∧len≤cap∧cap≤maxLen∧zs.length=cap∧(∀i,i<zs.length→w.cell? (x.add i)=some (.int .i64 (zs.getD i 0)))∧∀n∈zs,(Lit.int .i64 n).wf=true):
    ∃xs:List Int,Is (mem w) (.slice a len cap) xs:=by
 rcases h with⟨rfl,rfl,rfl,rfl⟩|⟨x,rfl,h1,h2,h3,h4,h5⟩
 · exact⟨[],Is.nil _⟩
 · refine⟨zs.take len,⟨?_,?_⟩⟩
   · have G:(zs.take len).length=len:=by simp;omega
     rw[G];refine⟨_,cap,rfl,h1,h2,by simp;omega,fun i hi=>?_⟩;have z:i<len:=by simp at hi;omega
     have C:=h4 i (by omega);have u:(x.add 0).spot=none:=World.cell?_spot (h4 0 (by omega));obtain⟨b,o,H⟩:=x;simp[Addr.add] at u;subst u;refine⟨b,o,rfl,?_⟩;rw[qZ] at C;rw[zED C,List.getElem?_map,List.getElem?_take,if_pos z,List.getElem?_eq_getElem (by omega)];rw[List.getD_eq_getElem?_getD,List.getElem?_eq_getElem (by omega)]
     rfl
   · intro n D
     exact zOU (h5 n (List.mem_of_mem_take D))
section
variable {P:Program}{n:Nat}{w0:World}{h0:Mem}{e:List (Nat×Value)}{L:List Res}{h:Mem}{Q:Exit→Act→World→Prop}
variable {ds:Option Tmp}{ty:TypeId}{ps:String}{af:Array Edge}{gd:Option (Nat×Bool)}
theorem zET{v:Value}{xs:List Int}{t E:TypeId}{x:Operand}(ht:P.underlying t=some (.slice E))(hx:zJ e x=some v)(hv:Is h v xs):
 OpV P n w0 h0 ⟨ds,.call {callee:=.builtin .len,args:=#[x],argTypes:=#[t]},ty,ps,af,gd⟩ e L h (vI (xs.length:Int)):=lM ht hx hv.one
theorem zH1{v:Value}{xs:List Int}{t E:TypeId}{x y:Operand}{q:Int}(i:Nat)(ht:P.underlying t=some (.slice E))(hsz:∀w,(Go.sizeOf E).run P w=.ok 1 w)(hx:zJ e x=some v)(hy:zJ e y=some (vI q))
    (hv:Is h v xs)(hq:q=(i:Int))(hi:i<xs.length):OpV P n w0 h0 ⟨ds,.indexAddr t x y,ty,ps,af,gd⟩ e L h (zL 1 v i):=oL i ht hsz hx hy hv.sl hq hi (by omega)
theorem zKG{v:Value}{xs:List Int}{t:TypeId}{x:Operand}{i:Nat}(ha:∀w,(isAgg t).run P w=.ok false w)(hx:zJ e x=some (zL 1 v i))(hv:Is h v xs)(hi:i<xs.length):
 OpV P n w0 h0 ⟨ds,.load t x,ty,ps,af,gd⟩ e L h (vI (xs.getD i 0)):=
 zCO ha hx hv.sl (by rw[List.getElem?_map,List.getElem?_eq_getElem hi,List.getD_eq_getElem?_getD,List.getElem?_eq_getElem hi];rfl)
theorem zN4{t yt:TypeId}{x y:Operand}{p q:Int}(hx:zJ e x=some (vI p))(hy:zJ e y=some (vI q))(h3:0<q):
 OpV P n w0 h0 ⟨ds,.binOp .rem t x y yt,ty,ps,af,gd⟩ e L h (vI (p.tmod q)):=by
 intro a w E S;have u:q≠0:=by omega
 simp[execOp,E.eval hx,E.eval hy,vI,xC,binOp,Op.intDiv,u]
end
def zDX(w0:World)(h0:Mem)(h:Mem)(L:List Res)(G:Mem→Value→Res→Prop):Ending→World→Prop:=
 sQ w0 h0 (fun g v K=>∃q',(q'::L).Sublist K∧MLe h g∧G g v q')
section
variable {P:Program}{n:Nat}{w0:World}{h0:Mem}{e:List (Nat×Value)}{L:List Res}{h:Mem}{Q:Exit→Act→World→Prop}
variable {ty:TypeId}{ps:String}{af:Array Edge}
theorem gY{ops:Array Oper}{rest:List Oper}{d f:Nat}{xs:List Operand}{ts:Array TypeId}{vs:List Value}{A B:List Res}{q:Res}{G:Mem→Value→Res→Prop}(hcall:∀args w,(callFunc f args).run P w=.ok (.enter f args) w)(hvs:rO e xs vs)
    (hc:∀X w,St w0 h0 (q::X) h w→Calls P f vs.toArray w (zDX w0 h0 h X G))(hn:Nat.ble (d+1) n=true)(k:∀v g q',MLe h g→G g v q'→GL P n w0 h0 ops Q rest ((d,v)::e) (A++q'::B) g):
    GL P n w0 h0 ops Q (⟨some d,.call {callee:=.value (.func f),args:=xs.toArray,argTypes:=ts},ty,ps,af,none⟩::rest) e (A++q::B) h:=by
 refine zIX ?_;refine oW rfl rfl rfl hn hcall hvs (hc (A++B)) ?_
 rintro v g K ⟨q',z,u,C⟩
 have:=k v g q' u C;exact fun a w D S=>this a w D ((S.sublist z).perm List.perm_middle.symm)
section
variable {ops:Array Oper}{R:List Res}{d:Nat}
theorem zJ1{W':List (Nat×Value)→List Res→Mem→Prop}{f:Nat}{xs:List Operand}{ts:Array TypeId}{vs:List Value}{A B:List Res}{q:Res}{G:Mem→Value→Res→Prop}(hcall:∀args w,(callFunc f args).run P w=.ok (.enter f args) w)(hvs:rO e xs vs)
    (hc:∀X w,St w0 h0 (q::X) h w→Calls P f vs.toArray w (zDX w0 h0 h X G))(hn:Nat.ble (d+1) n=true)(hR:∀r∈R,∀q',r∈A++q::B→r∈A++q'::B)
    (k:∀v g q',MLe h g→G g v q'→W' ((d,v)::e) (A++q'::B) g):
    qU P n w0 h0 ops R ⟨some d,.call {callee:=.value (.func f),args:=xs.toArray,argTypes:=ts},ty,ps,af,none⟩ e (A++q::B) h W':=by
 intro X a w E S;have O:St w0 h0 (q::(A++B++X)) h w:=S.perm (by simp);unfold uN;rw[if_pos (wn rfl)];have u:xs.toArray.map a.eval=vs.toArray:=by rw[List.map_toArray,E.evals hvs]
 have C:(execOp a.eval ⟨some d,.call {callee:=.value (.func f),args:=xs.toArray,argTypes:=ts},ty,ps,af,none⟩).run P w=.ok (.enter f vs.toArray) w:=by
  simp only[execOp,resolve,Act.eval];simp[Deferred.ofValue,invoke,hcall,u]
 rw[C];refine(hc _ w O).mono ?_
 rintro U D ⟨v,g,K,rfl,⟨q',I,z,J⟩,T⟩
 have M:St w0 h0 (A++q'::B++X) g D:=(T.sublist I).perm (by simpa using List.perm_middle.symm);exact⟨v,rfl,fun Y H=>(by cases H;exact Nat.le_of_ble_eq_true hn),A++q'::B,g,z,fun hh r C=>hR r C q' (hh r C),M,k v g q' z J⟩
theorem zIK{A B:List Res}{q:Res}:∀r∈A++B,r∈A++q::B:=by
 intro r u;simp only[List.mem_append,List.mem_cons] at u ⊢
 rcases u with h|h
 · exact .inl h
 · exact .inr (.inr h)
theorem jJ{Q:Exit→Act→World→Prop}{id:Nat}{l:List Oper}{A B:List Res}{q:Res}(m:Nat)(al:Als)(ord:List (Nat×Kd))(hm:P.follows .mixedOrders=true)(hal:jL P n l.toArray al)
    (hchk:(Region.noSelect l.toArray&&rI l.toArray al&&(al.all fun x=>decide (x.1<m))&&chk l.toArray m ord (Array.replicate l.length false) (al.map (·.1)))=true)(hae:∀x∈al,al.lookup x.1=some x.2∧e.lookup x.2.1=none)
    (k:W P n w0 h0 l.toArray Q (A++B) al ord e (A++q::B) h):GC P n w0 h0 (.region id l.toArray true) Q e (A++q::B) h:=zK m (A++B) al ord hm hal hchk hae zIK k
theorem wN{R A B:List Res}{q:Res}(hR:∀r∈R,r∈A++B):∀r∈R,∀q',r∈A++q::B→r∈A++q'::B:=fun r hr q' _=>zIK r (hR r hr)
end
end
def zD9(p q:Int):Int:=if p.tmod q<0 then p.tmod q+q else p.tmod q
theorem zB7(p:Int){q:Int}(hq:0<q):-q<p.tmod q∧p.tmod q<q:=by
 have z:=Int.tmod_lt_of_pos p hq;have u:=Int.tmod_lt_of_pos (-p) hq;rw[Int.neg_tmod] at u;omega
theorem zK7(p:Int){q:Int}(hq:0<q):0≤zD9 p q∧zD9 p q<q:=by
 have:=zB7 p hq;unfold zD9
 split<;>omega
def zV8(n:Int):Int:=1+zD9 (n.tdiv 17) 12
noncomputable def yA4(n:Int):Rat:=jD (zD9 n (zV8 n+1)) (zV8 n)
end Bk
namespace Bk
set_option linter.unusedVariables false
set_option linter.unusedSimpArgs false
open Go Go.RowKit
open Classical
theorem zO7{v:Value}(h:v.oneCell'=true):v.cells=#[v]:=by cases v<;>simp[Value.oneCell'] at h<;>rfl
structure Rp(α:Type) where
 n:Nat
 agg:Bool
 R:Mem→List Value→α→Prop
 len:∀{h cs x},R h cs x→cs.length=n
 mono:∀{h h' cs x},MLe h h'→R h cs x→R h' cs x
 one:∀{h cs x},R h cs x→cs.all (·.oneCell')=true
 cell:agg=false→n=1
section
variable {α β γ δ:Type}
def Rp.val(ρ:Rp α)(cs:List Value):Value:=if ρ.agg then .agg cs.toArray else cs.headD undef
def Rp.Is(ρ:Rp α)(h:Mem)(v:Value)(x:α):Prop:=∃cs,ρ.R h cs x∧v=ρ.val cs
theorem Rp.Is.mono{ρ:Rp α}{h h':Mem}{v:Value}{x:α}(s:ρ.Is h v x)(hh:MLe h h'):ρ.Is h' v x:=by
 obtain⟨cs,r,e⟩:=s;exact⟨cs,ρ.mono hh r,e⟩
theorem Rp.single{ρ:Rp α}{h:Mem}{cs:List Value}{x:α}(r:ρ.R h cs x)(ha:ρ.agg=false):∃c,cs=[c]∧c.oneCell'=true:=by
 have u:=ρ.len r;have z:=ρ.one r;rw[ρ.cell ha] at u
 match cs,u with
 |[c],_=>exact⟨c,rfl,by simpa using z⟩
theorem Rp.cells_val{ρ:Rp α}{h:Mem}{cs:List Value}{x:α}(r:ρ.R h cs x):(ρ.val cs).cells=cs.toArray:=by
 unfold Rp.val
 split
 · rfl
 · rename_i ha
   obtain⟨c,rfl,u⟩:=Rp.single r (by simpa using ha);exact zO7 u
theorem Rp.Is.cells{ρ:Rp α}{h:Mem}{v:Value}{x:α}(s:ρ.Is h v x):∃cs,ρ.R h cs x∧v.cells=cs.toArray:=by
 obtain⟨cs,r,rfl⟩:=s;exact⟨cs,r,Rp.cells_val r⟩
theorem Rp.Is.cast{ρ:Rp α}{h:Mem}{v:Value}{x y:α}(s:ρ.Is h v x)(e:x=y):ρ.Is h v y:=e▸s
def RL(ρ:Rp α)(h:Mem):List Value→List α→Prop
  |cs,[]=>cs=[]
  |cs,x::xs=>∃a b,cs=a++b∧ρ.R h a x∧RL ρ h b xs
theorem RL.len{ρ:Rp α}{h:Mem}:∀{xs:List α} {cs:List Value},RL ρ h cs xs→cs.length=xs.length*ρ.n
  |[],_,r=>by rw[r];simp
  |x::xs,_,⟨a,b,e,r,s⟩=>by rw[e,lAz,ρ.len r,s.len,lC,Nat.add_mul];omega
theorem RL.mono{ρ:Rp α}{h h':Mem}(hh:MLe h h'):∀{xs:List α} {cs:List Value},RL ρ h cs xs→RL ρ h' cs xs
  |[],_,r=>r
  |_::_,_,⟨a,b,e,r,s⟩=>⟨a,b,e,ρ.mono hh r,s.mono hh⟩
theorem RL.one{ρ:Rp α}{h:Mem}:∀{xs:List α} {cs:List Value},RL ρ h cs xs→cs.all (·.oneCell')=true
  |[],_,r=>by rw[r];rfl
  |_::_,_,⟨a,b,e,r,s⟩=>by rw[e,List.all_append,ρ.one r,s.one];rfl
theorem RL.append{ρ:Rp α}{h:Mem}:∀{xs ys:List α} {cs ds:List Value},RL ρ h cs xs→RL ρ h ds ys→RL ρ h (cs++ds) (xs++ys)
  |[],_,_,_,r,s=>by rw[r];exact s
  |_::_,_,_,_,⟨a,b,e,r,s⟩,t=>⟨a,_,by rw[e,List.append_assoc],r,s.append t⟩
theorem RL.nil{ρ:Rp α}{h:Mem}:RL ρ h [] []:=rfl
theorem RL.drop{ρ:Rp α}{h:Mem}:∀{xs:List α} {cs:List Value} (i:Nat),RL ρ h cs xs→RL ρ h (cs.drop (i*ρ.n)) (xs.drop i)
  |_,_,0,r=>by simpa using r
  |[],_,i+1,r=>by rw[r];simp[RL]
  |_::xs,_,i+1,⟨a,b,e,r,s⟩=>by
   rw[e,show(i+1)*ρ.n=a.length+i*ρ.n by rw[ρ.len r,Nat.add_mul];omega,←List.drop_drop,List.drop_left];exact s.drop i
theorem RL.take{ρ:Rp α}{h:Mem}:∀{xs:List α} {cs:List Value} (i:Nat),RL ρ h cs xs→RL ρ h (cs.take (i*ρ.n)) (xs.take i)
  |_,_,0,r=>by simp[RL]
  |[],_,i+1,r=>by rw[r];simp[RL]
  |_::xs,_,i+1,⟨a,b,e,r,s⟩=>by
   rw[e,show(i+1)*ρ.n=a.length+i*ρ.n by rw[ρ.len r,Nat.add_mul];omega,List.take_length_add_append];exact⟨a,_,rfl,r,s.take i⟩
theorem RL.get{ρ:Rp α}{h:Mem}{xs:List α}{cs:List Value}{i:Nat}{x:α}(r:RL ρ h cs xs)(hx:xs[i]?=some x):ρ.R h ((cs.drop (i*ρ.n)).take ρ.n) x:=by
 have z:=r.drop i;obtain⟨hi,e⟩:=List.getElem?_eq_some_iff.1 hx;rw[List.drop_eq_getElem_cons hi,e] at z;obtain⟨a,b,C,u,_⟩:=z;rw[C,←ρ.len u,List.take_left];exact u
theorem RL.set{ρ:Rp α}{h:Mem}{xs:List α}{cs ds:List Value}{i:Nat}{y:α}(r:RL ρ h cs xs)(hi:i<xs.length)(hd:ρ.R h ds y):RL ρ h (cs.take (i*ρ.n)++ds++cs.drop (i*ρ.n+ρ.n)) (xs.set i y):=by
 have z:=r.take i;have u:=r.drop (i+1);rw[Nat.add_mul,Nat.one_mul] at u;rw[List.set_eq_take_append_cons_drop,if_pos hi,List.append_assoc];exact z.append ⟨ds,_,rfl,hd,u⟩
def rpQ(k:Nat):Rp Rat where
 n:=3
 agg:=true
 R h cs q:=(∃vn vd,cs=[vB (q.num<0),vn,vd]∧Us .u32 h vn (zB q.num.natAbs)∧Us .u32 h vd (zB (xU q.den)))∧lq q≤k
 len:=by rintro h cs q ⟨⟨vn,vd,rfl,_⟩,_⟩;rfl
 mono:=by
  rintro h h' cs q hh ⟨⟨vn,vd,rfl,h1,h2⟩,h3⟩
  exact⟨⟨vn,vd,rfl,h1.mono hh,h2.mono hh⟩,h3⟩
 one:=by
  rintro h cs q ⟨⟨vn,vd,rfl,h1,h2⟩,h3⟩
  exact ocr rfl (ocu h1 (ocu h2 oc0))
 cell:=by simp
def rpI:Rp Int where
 n:=1
 agg:=false
 R _ cs z:=cs=[vI z]∧-9223372036854775808≤z∧z<9223372036854775808
 len:=by rintro h cs z ⟨rfl,_⟩;rfl
 mono:=fun _ r=>r
 one:=by rintro h cs z ⟨rfl,_⟩;rfl
 cell:=fun _=>rfl
def rpB:Rp Prop where
 n:=1
 agg:=false
 R _ cs p:=cs=[vB p]
 len:=by rintro h cs p rfl;rfl
 mono:=fun _ r=>r
 one:=by rintro h cs p rfl;rfl
 cell:=fun _=>rfl
def rpP(ρ:Rp α)(σ:Rp β):Rp (α×β) where
 n:=ρ.n+σ.n
 agg:=true
 R h cs x:=∃a b,cs=a++b∧ρ.R h a x.1∧σ.R h b x.2
 len:=by rintro h cs x ⟨a,b,rfl,h1,h2⟩;rw[lAz,ρ.len h1,σ.len h2]
 mono:=by rintro h h' cs x hh ⟨a,b,rfl,h1,h2⟩;exact⟨a,b,rfl,ρ.mono hh h1,σ.mono hh h2⟩
 one:=by rintro h cs x ⟨a,b,rfl,h1,h2⟩;rw[List.all_append,ρ.one h1,σ.one h2];rfl
 cell:=by simp
@[ext] structure T3(α:Type) where
 x:α
 y:α
 z:α
abbrev zT:T3 Rat:=T3.mk (0:Rat) 0 0
def T3.at(p:T3 α):Nat→α
  |0=>p.x
  |1=>p.y
  |_=>p.z
def T3.set(p:T3 α):Nat→α→T3 α
  |0,a=>⟨a,p.y,p.z⟩
  |1,a=>⟨p.x,a,p.z⟩
  |_,a=>⟨p.x,p.y,a⟩
def rpT(ρ:Rp α):Rp (T3 α) where
 n:=ρ.n+(ρ.n+ρ.n)
 agg:=true
 R h cs p:=(rpP ρ (rpP ρ ρ)).R h cs (p.x,p.y,p.z)
 len:=fun r=>(rpP ρ (rpP ρ ρ)).len r
 mono:=fun hh r=>(rpP ρ (rpP ρ ρ)).mono hh r
 one:=fun r=>(rpP ρ (rpP ρ ρ)).one r
 cell:=by simp
def rpA(k:Nat)(ρ:Rp α):Rp (List α) where
 n:=k*ρ.n
 agg:=true
 R h cs xs:=xs.length=k∧RL ρ h cs xs
 len:=by rintro h cs xs ⟨rfl,r⟩;exact r.len
 mono:=fun hh r=>⟨r.1,r.2.mono hh⟩
 one:=fun r=>r.2.one
 cell:=by simp
def rpS(ρ:Rp α):Rp (List α) where
 n:=1
 agg:=false
 R h cs xs:=∃v ds,cs=[v]∧Sl h ρ.n v xs.length ds∧RL ρ h ds xs
 len:=by rintro h cs xs ⟨v,ds,rfl,_⟩;rfl
 mono:=by rintro h h' cs xs hh ⟨v,ds,rfl,h1,h2⟩;exact⟨v,ds,rfl,h1.mono hh,h2.mono hh⟩
 one:=by
  rintro h cs xs ⟨v,ds,rfl,h1,h2⟩
  obtain⟨a,cap,rfl⟩:=h1.one
  rfl
 cell:=fun _=>rfl
theorem qD{h:Mem}{z:Int}(h1:-9223372036854775808≤z)(h2:z<9223372036854775808):rpI.Is h (vI z) z:=⟨_,⟨rfl,h1,h2⟩,rfl⟩
theorem jX{h:Mem}{v:Value}{z:Int}(s:rpI.Is h v z):v=vI z∧-9223372036854775808≤z∧z<9223372036854775808:=by
 obtain⟨cs,⟨rfl,C,u⟩,rfl⟩:=s;exact⟨rfl,C,u⟩
theorem is_b{h:Mem}(p:Prop):rpB.Is h (vB p) p:=⟨_,rfl,rfl⟩
theorem of_b{h:Mem}{v:Value}{p:Prop}(s:rpB.Is h v p):v=vB p:=by
 obtain⟨cs,rfl,rfl⟩:=s
 rfl
theorem mU{h:Mem}{v:Value}{q:Rat}{k:Nat}(s:wJ h v q)(hk:lq q≤k):(rpQ k).Is h v q:=by
 obtain⟨u,z,rfl,D,C⟩:=s;exact⟨_,⟨⟨u,z,rfl,D,C⟩,hk⟩,rfl⟩
theorem of_q{h:Mem}{v:Value}{q:Rat}{k:Nat}(s:(rpQ k).Is h v q):wJ h v q∧lq q≤k:=by
 obtain⟨cs,⟨⟨u,z,rfl,G,D⟩,C⟩,rfl⟩:=s;exact⟨⟨u,z,rfl,G,D⟩,C⟩
theorem qG{h:Mem}{v:Value}{q:Rat}{k:Nat}(s:(rpQ k).Is h v q):∃vn vd,v=.agg #[vB (q.num<0),vn,vd]∧Us .u32 h vn (zB q.num.natAbs)∧Us .u32 h vd (zB (xU q.den))∧lq q≤k:=by
 obtain⟨cs,⟨⟨vn,vd,rfl,C,z⟩,u⟩,rfl⟩:=s;exact⟨vn,vd,rfl,C,z,u⟩
theorem zVH{ρ:Rp α}{h:Mem}{v:Value}{xs:List α}{ds:List Value}(s:Sl h ρ.n v xs.length ds)(r:RL ρ h ds xs):(rpS ρ).Is h v xs:=⟨_,⟨v,ds,rfl,s,r⟩,rfl⟩
theorem zN7{ρ:Rp α}{h:Mem}{v:Value}{xs:List α}(s:(rpS ρ).Is h v xs):∃ds,Sl h ρ.n v xs.length ds∧RL ρ h ds xs:=by
 obtain⟨cs,⟨v,ds,rfl,z,u⟩,rfl⟩:=s;exact⟨ds,z,u⟩
theorem mB{ρ:Rp α}(h:Mem):(rpS ρ).Is h (.slice none 0 0) []:=zVH (Sl.nil h _) rfl
theorem yAW{ρ:Rp α}{h:Mem}{v:Value}{xs:List α}(s:(rpS ρ).Is h v xs):xs.length<9223372036854775808:=by
 obtain⟨ds,u,_⟩:=zN7 s;exact u.lt63
theorem yAV{ρ:Rp α}{h:Mem}{v:Value}{xs:List α}(s:(rpS ρ).Is h v xs):∃a cap,v=.slice a xs.length cap:=by
 obtain⟨ds,u,_⟩:=zN7 s;exact u.one
structure Le(ρ σ:Rp α):Prop where
 n:ρ.n=σ.n
 agg:ρ.agg=σ.agg
 R:∀{h cs x},ρ.R h cs x→σ.R h cs x
theorem Le.refl(ρ:Rp α):Le ρ ρ:=⟨rfl,rfl,id⟩
theorem Le.q{k l:Nat}(h:k≤l):Le (rpQ k) (rpQ l):=⟨rfl,rfl,fun⟨a,b⟩=>⟨a,Nat.le_trans b h⟩⟩
theorem Le.p{ρ ρ':Rp α}{σ σ':Rp β}(h:Le ρ ρ')(k:Le σ σ'):Le (rpP ρ σ) (rpP ρ' σ'):=⟨by show ρ.n+σ.n=ρ'.n+σ'.n;rw[h.n,k.n],rfl,fun⟨a,b,e,r,s⟩=>⟨a,b,e,h.R r,k.R s⟩⟩
theorem Le.t{ρ ρ':Rp α}(h:Le ρ ρ'):Le (rpT ρ) (rpT ρ'):=⟨by show ρ.n+(ρ.n+ρ.n)=ρ'.n+(ρ'.n+ρ'.n);rw[h.n],rfl,fun r=>(Le.p h (Le.p h h)).R r⟩
theorem Le.rl{ρ ρ':Rp α}(h:Le ρ ρ'){m:Mem}:∀{xs:List α} {cs:List Value},RL ρ m cs xs→RL ρ' m cs xs
  |[],_,r=>r
  |_::_,_,⟨a,b,e,r,s⟩=>⟨a,b,e,h.R r,h.rl s⟩
theorem Le.a{k:Nat}{ρ ρ':Rp α}(h:Le ρ ρ'):Le (rpA k ρ) (rpA k ρ'):=⟨by show k*ρ.n=k*ρ'.n;rw[h.n],rfl,fun r=>⟨r.1,h.rl r.2⟩⟩
theorem Le.s{ρ ρ':Rp α}(h:Le ρ ρ'):Le (rpS ρ) (rpS ρ'):=⟨rfl,rfl,fun⟨v,ds,e,s,r⟩=>⟨v,ds,e,h.n▸s,h.rl r⟩⟩
theorem Rp.Is.le{ρ σ:Rp α}{h:Mem}{v:Value}{x:α}(s:ρ.Is h v x)(k:Le ρ σ):σ.Is h v x:=by
 obtain⟨cs,r,rfl⟩:=s;exact⟨cs,k.R r,by unfold Rp.val;rw[k.agg]⟩
structure Pc(ρ:Rp α)(off:Nat)(σ:Rp β)(g:α→β)(s:α→β→α):Prop where
 fits:off+σ.n≤ρ.n
 get:∀{h cs x},ρ.R h cs x→σ.R h ((cs.drop off).take σ.n) (g x)
 set:∀{h cs x ds y},ρ.R h cs x→σ.R h ds y→ρ.R h (cs.take off++ds++cs.drop (off+σ.n)) (s x y)
theorem Pc.here(ρ:Rp α):Pc ρ 0 ρ (fun x=>x) (fun _ y=>y):=by
 refine⟨by omega,fun r=>?_,fun{h cs x ds y} r s=>?_⟩
 · have:=ρ.len r
   rw[List.drop_zero,←this,List.take_length];exact r
 · have:=ρ.len r
   rw[Nat.zero_add,←this,List.drop_length,List.take_zero,List.nil_append,List.append_nil];exact s
theorem Pc.fst{ρ:Rp α}{σ:Rp β}{τ:Rp γ}{off:Nat}{g:α→γ}{s:α→γ→α}(p:Pc ρ off τ g s):Pc (rpP ρ σ) off τ (fun x=>g x.1) (fun x y=>(s x.1 y,x.2)):=by
 have G:=p.fits;refine⟨by show off+τ.n≤ρ.n+σ.n;omega,?_,?_⟩
 · rintro h cs x ⟨a,b,rfl,u,z⟩
   have D:=ρ.len u;have:=p.get u
   rwa [List.drop_append_of_le_length (by omega),List.take_append_of_le_length (by rw[List.length_drop];omega)]
 · rintro h cs x ds y ⟨a,b,rfl,u,z⟩ C
   have D:=ρ.len u;refine⟨_,b,?_,p.set u C,z⟩;rw[List.take_append_of_le_length (by omega),List.drop_append_of_le_length (by omega)];simp[List.append_assoc]
theorem Pc.snd{ρ:Rp α}{σ:Rp β}{τ:Rp γ}{off:Nat}{g:β→γ}{s:β→γ→β}(p:Pc σ off τ g s):Pc (rpP ρ σ) (ρ.n+off) τ (fun x=>g x.2) (fun x y=>(x.1,s x.2 y)):=by
 have G:=p.fits;refine⟨by show ρ.n+off+τ.n≤ρ.n+σ.n;omega,?_,?_⟩
 · rintro h cs x ⟨a,b,rfl,u,z⟩
   have C:=ρ.len u;have:=p.get z
   rwa [←C,←List.drop_drop,List.drop_left]
 · rintro h cs x ds y ⟨a,b,rfl,u,z⟩ D
   have C:=ρ.len u;refine⟨a,_,?_,u,p.set z D⟩;rw[←C,List.take_length_add_append,Nat.add_assoc,←List.drop_drop,List.drop_left];simp[List.append_assoc]
theorem Pc.tx{ρ:Rp α}{τ:Rp γ}{off:Nat}{g:α→γ}{s:α→γ→α}(p:Pc ρ off τ g s):Pc (rpT ρ) off τ (fun x=>g x.x) (fun x y=>⟨s x.x y,x.y,x.z⟩):=by
 have q:Pc (rpP ρ (rpP ρ ρ)) off τ _ _:=p.fst;exact⟨q.fits,fun r=>q.get r,fun r d=>q.set r d⟩
theorem Pc.ty{ρ:Rp α}{τ:Rp γ}{off:Nat}{g:α→γ}{s:α→γ→α}(p:Pc ρ off τ g s):Pc (rpT ρ) (ρ.n+off) τ (fun x=>g x.y) (fun x y=>⟨x.x,s x.y y,x.z⟩):=by
 have q:Pc (rpP ρ (rpP ρ ρ)) (ρ.n+off) τ _ _:=(Pc.fst (σ:=ρ) p).snd;exact⟨q.fits,fun r=>q.get r,fun r d=>q.set r d⟩
theorem Pc.tz{ρ:Rp α}{τ:Rp γ}{off:Nat}{g:α→γ}{s:α→γ→α}(p:Pc ρ off τ g s):Pc (rpT ρ) (ρ.n+(ρ.n+off)) τ (fun x=>g x.z) (fun x y=>⟨x.x,x.y,s x.z y⟩):=by
 have q:Pc (rpP ρ (rpP ρ ρ)) (ρ.n+(ρ.n+off)) τ _ _:=(Pc.snd (ρ:=ρ) p).snd;exact⟨q.fits,fun r=>q.get r,fun r d=>q.set r d⟩
theorem Pc.ta{ρ:Rp α}{τ:Rp γ}{off:Nat}{g:α→γ}{s:α→γ→α}(p:Pc ρ off τ g s)(i:Nat)(hi:i<3):Pc (rpT ρ) (i*ρ.n+off) τ (fun x=>g (x.at i)) (fun x y=>x.set i (s (x.at i) y)):=by
 match i,hi with
 |0,_=>rw[Nat.zero_mul,Nat.zero_add];exact p.tx
 |1,_=>rw[Nat.one_mul];exact p.ty
 |2,_=>rw[show 2*ρ.n+off=ρ.n+(ρ.n+off) by omega];exact p.tz
theorem Pc.arr{ρ:Rp α}{τ:Rp γ}{off k:Nat}{g:α→γ}{s:α→γ→α}(p:Pc ρ off τ g s)(d:α)(i:Nat)(hi:i<k):Pc (rpA k ρ) (i*ρ.n+off) τ (fun x=>g (x.getD i d)) (fun x y=>x.set i (s (x.getD i d) y)):=by
 have O:=p.fits;have M:i*ρ.n+ρ.n≤k*ρ.n:=by rw[←Nat.succ_mul];exact Nat.mul_le_mul_right _ hi
 have C:∀{x:List α},x.length=k→x[i]?=some (x.getD i d):=by
  intro x u;rw[List.getD_eq_getElem?_getD,List.getElem?_eq_getElem (by omega)];rfl
 refine⟨by show i*ρ.n+off+τ.n≤k*ρ.n;omega,?_,?_⟩
 · rintro h cs x ⟨u,r⟩
   have z:=p.get (r.get (C u));rw[List.drop_take,List.take_take,Nat.min_eq_left (by omega),List.drop_drop] at z;exact z
 · rintro h cs x ds y ⟨u,r⟩ G
   have H:=r.len;rw[u] at H;refine⟨by simpa using u,?_⟩;have z:=r.set (i:=i) (by omega) (p.set (r.get (C u)) G);have e:cs.take (i*ρ.n)++(((cs.drop (i*ρ.n)).take ρ.n).take off++ds++((cs.drop (i*ρ.n)).take ρ.n).drop (off+τ.n))++cs.drop (i*ρ.n+ρ.n)=cs.take (i*ρ.n+off)++ds++cs.drop (i*ρ.n+off+τ.n):=by
    rw[List.take_take,Nat.min_eq_left (by omega),List.drop_take,List.drop_drop];have J:cs.take (i*ρ.n+off)=cs.take (i*ρ.n)++(cs.drop (i*ρ.n)).take off:=List.take_add;have I:cs.drop (i*ρ.n+off+τ.n)=(cs.drop (i*ρ.n+(off+τ.n))).take (ρ.n-(off+τ.n))++cs.drop (i*ρ.n+ρ.n):=by
     have D:=List.take_append_drop (ρ.n-(off+τ.n)) (cs.drop (i*ρ.n+(off+τ.n)));rw[List.drop_drop,show i*ρ.n+(off+τ.n)+(ρ.n-(off+τ.n))=i*ρ.n+ρ.n by omega] at D;rw[Nat.add_assoc (i*ρ.n)];exact D.symm
    rw[J,I];simp[List.append_assoc]
   rw[←e];exact z
theorem yH{k:Nat}{h:Mem}(hk:1≤k):(rpQ k).R h [.bool false,.slice none 0 0,.slice none 0 0] 0:=by
 refine⟨⟨_,_,?_,zA2 h,zA3 h⟩,by rw[tK];exact hk⟩;rw[yV (show ¬(0:Rat).num<0 by decide)]
theorem wG{h:Mem}:rpI.R h [.int .i64 0] 0:=⟨rfl,by decide,by decide⟩
theorem zr_b{h:Mem}:rpB.R h [.bool false] False:=by show _=_;rw[yV (p:=False) id]
theorem yL{ρ:Rp α}{σ:Rp β}{h:Mem}{a b:List Value}{x:α}{y:β}(r:ρ.R h a x)(s:σ.R h b y):(rpP ρ σ).R h (a++b) (x,y):=⟨a,b,rfl,r,s⟩
theorem xY{ρ:Rp α}{h:Mem}{a:List Value}{x:α}(r:ρ.R h a x):(rpT ρ).R h (a++(a++a)) ⟨x,x,x⟩:=⟨a,_,rfl,r,a,a,rfl,r,r⟩
theorem qJ{ρ:Rp α}{h:Mem}:(rpS ρ).R h [.slice none 0 0] []:=⟨_,[],rfl,Sl.nil h _,rfl⟩
theorem mW{ρ:Rp α}{h:Mem}{a:List Value}{x:α}(k:Nat)(r:ρ.R h a x):(rpA k ρ).R h (List.replicate k a).flatten (List.replicate k x):=by
 refine⟨List.length_replicate,?_⟩
 induction k with
 |zero=>rfl
 |succ k ih=>rw[List.replicate_succ,List.replicate_succ];exact⟨a,_,rfl,r,ih⟩
end
end Bk
namespace Bk
set_option linter.unusedVariables false
set_option linter.unusedSimpArgs false
open Go Go.RowKit
open Classical
structure TyOk(P:Program)(t:TypeId)(n:Nat)(agg:Bool):Prop where
 sz:∀w,(Go.sizeOf t).run P w=.ok n w
 ag:∀w,(isAgg t).run P w=.ok agg w
section
variable {α β γ:Type}
variable {P:Program}{n:Nat}{w0:World}{h0:Mem}{e:List (Nat×Value)}{L:List Res}{h:Mem}{Q:Exit→Act→World→Prop}
variable {ds:Option Tmp}{ty:TypeId}{ps:String}{af:Array Edge}{gd:Option (Nat×Bool)}
theorem zCJ:∀(vs:List Value) (k:Nat) (cs:List Value),k+vs.length≤cs.length→iC cs k vs=cs.take k++vs++cs.drop (k+vs.length):=by
 have key:∀(vs:List Value) (j k:Nat) (cs:List Value),k+j+vs.length≤cs.length→(vs.zipIdx j).foldl (fun c p=>c.set (k+p.2) p.1) cs=cs.take (k+j)++vs++cs.drop (k+j+vs.length):=by
  intro vs
  induction vs with
  |nil=>intro j k cs hl;simp
  |cons v vs ih=>
   intro j k cs hl;simp only[lC] at hl;rw[List.zipIdx_cons,List.foldl_cons,ih (j+1) k _ (by rw[lS];omega)];rw[List.set_eq_take_append_cons_drop,if_pos (by omega)];have h1:(cs.take (k+j)).length=k+j:=by rw[List.length_take];omega
   have e1:(cs.take (k+j)++v::cs.drop (k+j+1)).take (k+(j+1))=cs.take (k+j)++[v]:=by
    rw[show k+(j+1)=(cs.take (k+j)).length+1 by omega,List.take_length_add_append];rfl
   have e2:(cs.take (k+j)++v::cs.drop (k+j+1)).drop (k+(j+1)+vs.length)=cs.drop (k+j+(vs.length+1)):=by
    rw[show k+(j+1)+vs.length=(cs.take (k+j)).length+(vs.length+1) by omega,←List.drop_drop,List.drop_left,List.drop_succ_cons,List.drop_drop]
    congr 1;omega
   rw[e1,e2];simp
 intro vs k cs hl;exact key vs 0 k cs (by omega)
def OpX(P:Program)(n:Nat)(w0:World)(h0:Mem)(o:Oper)(e:List (Nat×Value))(R:List Res)(h:Mem)(F:Value→Prop):Prop:=
 ∃v,(∀L' h',MLe h h'→(∀r∈R,r∈L')→OpV P n w0 h0 o e L' h' v)∧F v
theorem zEB{ops:Array Oper}{rest:List Oper}{d:Nat}{op:Op}{R:List Res}{F:Value→Prop}(hv:OpX P n w0 h0 ⟨some d,op,ty,ps,af,none⟩ e R h F)(hR:∀r∈R,r∈L)(hn:Nat.ble (d+1) n=true)
    (k:∀v,F v→GL P n w0 h0 ops Q rest ((d,v)::e) L h):GL P n w0 h0 ops Q (⟨some d,op,ty,ps,af,none⟩::rest) e L h:=by
 obtain⟨v,hv,u⟩:=hv;exact mD (hv L h (MLe.refl h) hR) rfl rfl hn (k v u)
section
variable {ops:Array Oper}{RR:List Res}{al:Als}{d i:Nat}{op:Op}{v:Value}{r:List (Nat×Kd)}{g t:Nat}{b:Bool}
theorem mX{R:List Res}{F:Value→Prop}(ho:ops.getD i default=⟨some d,op,ty,ps,af,none⟩)(hv:OpX P n w0 h0 ⟨some d,op,ty,ps,af,none⟩ e R h F)(hR:∀r∈R,r∈RR)(hn:Nat.ble (d+1) n=true)
    (k:∀v,F v→W P n w0 h0 ops Q RR al r ((d,v)::e) L h):W P n w0 h0 ops Q RR al ((i,.q)::r) e L h:=by
 obtain⟨v,hv,C⟩:=hv;exact w_q ho (fun h' L' hh z=>hv L' h' hh fun r u=>z r (hR r u)) hn (k v C)
theorem x_qx{K:List (Nat×Value)→List Res→Mem→Prop}{R:List Res}{F:Value→Prop}(ho:ops.getD i default=⟨some d,op,ty,ps,af,none⟩)(hv:OpX P n w0 h0 ⟨some d,op,ty,ps,af,none⟩ e R h F)(hR:∀r∈R,r∈RR)(hn:Nat.ble (d+1) n=true)
    (k:∀v,F v→K ((d,v)::e) L h):SQ P n w0 h0 ops RR i e L h K:=by
 obtain⟨v,hv,C⟩:=hv;exact x_q ho (fun h' L' hh z=>hv L' h' hh fun r u=>z r (hR r u)) hn (k v C)
theorem aB{R:List Res}{F:Value→Prop}(ho:ops.getD i default=⟨some d,op,ty,ps,af,some (g,b)⟩)(ht:(ops[g]?).bind (·.dst)=some t)(he:e.lookup t=some (.bool b))(hv:OpX P n w0 h0 ⟨some d,op,ty,ps,af,none⟩ e R h F)(hR:∀r∈R,r∈RR)(hn:Nat.ble (d+1) n=true)
    (k:∀v,F v→W P n w0 h0 ops Q RR al r ((d,v)::e) L h):W P n w0 h0 ops Q RR al ((i,.q)::r) e L h:=by
 obtain⟨v,hv,C⟩:=hv;exact yO ho ht he (fun h' L' hh z=>hv L' h' hh fun r u=>z r (hR r u)) hn (k v C)
theorem s_x{W':List (Nat×Value)→List Res→Mem→Prop}{R:List Res}{F:Value→Prop}(hv:OpX P n w0 h0 ⟨some d,op,ty,ps,af,none⟩ e R h F)(hR:∀r∈R,r∈L)(hn:Nat.ble (d+1) n=true)
    (k:∀v,F v→W' ((d,v)::e) L h):qU P n w0 h0 ops RR ⟨some d,op,ty,ps,af,none⟩ e L h W':=by
 obtain⟨v,hv,z⟩:=hv;exact zP6 (fun X=>hv (L++X) h (MLe.refl h) fun r u=>List.mem_append_left _ (hR r u)) hn (k v z)
end
theorem zBI{L:List Res}:∀r∈([]:List Res),r∈L:=fun r hr=>by cases hr
theorem tT{L:List Res}{r:Res}(hr:r∈L):∀x∈[r],x∈L:=fun x hx=>by cases hx with|head=>exact hr|tail _ h=>cases h
theorem zYD{E:TypeId}{σ:Rp β}{cs:List Value}{off:Nat}{y:β}(T:TyOk P E σ.n σ.agg)(r:σ.R h ((cs.drop off).take σ.n) y)(w:World):(part E cs.toArray off).run P w=.ok (σ.val ((cs.drop off).take σ.n)) w:=by
 simp only[part,Sem.run_bind,T.ag,Result.andThen_ok];unfold Rp.val
 cases ha:σ.agg with
 |true=>simp[Sem.run_bind,T.sz,List.extract_toArray,List.extract_eq_take_drop,List.take_drop]
 |false=>
  obtain⟨c,z,_⟩:=Rp.single r ha;rw[z];have C:cs[off]?=some c:=by
   have u:((cs.drop off).take σ.n)[0]?=some c:=by rw[z];rfl
   rw[List.getElem?_take] at u
   split at u
   · rw[List.getElem?_drop] at u;simpa using u
   · cases u
  simp[C]
theorem zHW{t E:TypeId}{x y:Operand}{m off:Nat}{q:Int}{v:Value}{ρ:Rp α}{σ:Rp β}{g:α→β}{s:α→β→α}{X:α}{Z:β}(i:Nat)(ht:P.underlying t=some (.array m E))(T:TyOk P E σ.n σ.agg)(pc:Pc ρ off σ g s)(ho:i*σ.n=off)(ha:ρ.agg=true)(hx:zJ e x=some v)(hy:zJ e y=some (vI q))
    (r:ρ.Is h v X)(hq:q=(i:Int))(hi:i<m)(hZ:g X=Z):OpX P n w0 h0 ⟨ds,.index t x y,ty,ps,af,gd⟩ e [] h (fun u=>σ.Is h u Z):=by
 subst hZ;obtain⟨cs,r,rfl⟩:=r;subst ho;subst hq;have z:=pc.get r;refine⟨_,fun L' h' _ _ a w C S=>?_,_,z,rfl⟩;have D:ρ.val cs=.agg cs.toArray:=by unfold Rp.val;rw[ha];rfl
 rw[D] at hx;simp[execOp,C.eval hx,C.eval hy,Instr.index,vI,asIntOf,run_underlying ht,T.sz,hi,zYD T z]
theorem q6{t:TypeId}{σ:Rp β}{cs:List Value}{y:β}{w:World}{b o:Nat}(T:TyOk P t σ.n σ.agg)(r:σ.R h cs y)(hc:w.rangeAt b o cs):(Instr.loadAt t (vP b o)).run P w=.ok (σ.val cs) w:=by
 have u:=σ.len r;simp only[Instr.loadAt,Instr.sureAddr,loadVar,Sem.run_bind,T.ag,Result.andThen_ok,Sem.run_pure];unfold Rp.val
 cases ha:σ.agg with
 |true=>
  have z:(loadCells ⟨b,o,none⟩ cs.length).run P w=.ok cs.toArray w:=run_loadCells_list (P:=P) w ⟨b,o,none⟩ cs (fun j v C=>by rw[Addr.add_mid];exact hc j v C);rw[u] at z;simp[Sem.run_bind,T.sz,z]
 |false=>
  obtain⟨c,rfl,_⟩:=Rp.single r ha;have:=hc 0 c rfl;simp only[Nat.add_zero] at this;simp[Go.load,Sem.run,this]
theorem zHV{t E:TypeId}{x:Operand}{b k off:Nat}{cs:List Value}{ρ:Rp α}{σ:Rp β}{g:α→β}{s:α→β→α}{X:α}{Z:β}(T:TyOk P t σ.n σ.agg)(pc:Pc ρ off σ g s)(ho:k=off)(hx:zJ e x=some (vP b k))(r:ρ.R h cs X)(hZ:g X=Z):
 OpX P n w0 h0 ⟨ds,.load t x,ty,ps,af,gd⟩ e [.var b E cs] h (fun u=>σ.Is h u Z):=by
 subst hZ;subst ho;have z:=pc.get r;refine⟨_,fun L' h' _ G a w H S=>?_,_,z,rfl⟩;have C:w.heap[b]?=some (.cells cs.toArray E):=S.ok (.var b E cs) (G _ (.head _));have D:=q6 (P:=P) (w:=w) T z (eC C k _ (by rw[σ.len z]));simp[execOp,H.eval hx,D]
def AtP(ρ:Rp α)(h:Mem)(p:Value)(X:α):Prop:=∃b o cs,p=vP b o∧ρ.R h cs X∧∀j u,cs[j]?=some u→cell h b (o+j)=some u
theorem AtP.mono{ρ:Rp α}{h h':Mem}{p:Value}{X:α}(s:AtP ρ h p X)(hh:MLe h h'):AtP ρ h' p X:=by
 obtain⟨b,o,cs,e,r,C⟩:=s;exact⟨b,o,cs,e,ρ.mono hh r,fun j u z=>zAX hh (C j u z)⟩
theorem lH{t E:TypeId}{x y:Operand}{q:Int}{v:Value}{ρ:Rp α}{xs:List α}(d:α)(i:Nat)(ht:P.underlying t=some (.slice E))(T:TyOk P E ρ.n ρ.agg)(hx:zJ e x=some v)(hy:zJ e y=some (vI q))(r:(rpS ρ).Is h v xs)(hq:q=(i:Int))(hi:i<xs.length)(hp:0<ρ.n):
 OpX P n w0 h0 ⟨ds,.indexAddr t x y,ty,ps,af,gd⟩ e [] h (fun u=>AtP ρ h u (xs.getD i d)):=by
 obtain⟨cs,H,I⟩:=zN7 r;have G:xs[i]?=some (xs.getD i d):=by rw[List.getD_eq_getElem?_getD,List.getElem?_eq_getElem hi];rfl
 have M:=I.get G;have z:=I.len;have S:i*ρ.n+ρ.n≤cs.length:=by rw[z,←Nat.succ_mul];exact Nat.mul_le_mul_right _ hi
 refine⟨zL ρ.n v i,fun L' h' hh _=>oL i ht T.sz hx hy (H.mono hh) hq hi hp,?_⟩;have h0:(cs[i*ρ.n+0]?)=some (cs[i*ρ.n]'(by omega)):=by rw[Nat.add_zero,List.getElem?_eq_getElem]
 obtain⟨b,o,J,_⟩:=H.cell h0;refine⟨b,o,_,J,M,fun j u C=>?_⟩;rw[List.getElem?_take] at C
 split at C
 · rw[List.getElem?_drop] at C
   obtain⟨U,o',D,O⟩:=H.cell C;rw[J] at D;simp only[Value.pointer.injEq,Option.some.injEq,Addr.mk.injEq] at D;rw[D.1,D.2.1];exact O
 · cases C
theorem zKF{t:TypeId}{x:Operand}{p:Value}{ρ:Rp α}{X:α}(T:TyOk P t ρ.n ρ.agg)(hx:zJ e x=some p)(r:AtP ρ h p X):OpX P n w0 h0 ⟨ds,.load t x,ty,ps,af,gd⟩ e [] h (fun u=>ρ.Is h u X):=by
 obtain⟨b,o,cs,rfl,r,D⟩:=r;refine⟨_,fun L' h' hh _ a w G S=>?_,_,r,rfl⟩;have z:=q6 (P:=P) (w:=w) T r (fun j u C=>bU (hh.trans S.sub) (D j u C));simp[execOp,G.eval hx,z]
theorem zN3{t:TypeId}{x:Operand}{f off m:Nat}{fs:Array Field}{fl:Field}{p:Value}{ρ:Rp α}{σ:Rp β}{g:α→β}{s:α→β→α}{X:α}{Z:β}(ht:P.underlying t=some (.struct fs))(hf:fs[f]?=some fl)(hsz:∀w,(Go.sizeOf fl.type).run P w=.ok (m+1) w)(pc:Pc ρ off σ g s)(ho:fl.offset=off)(hx:zJ e x=some p)(r:AtP ρ h p X)(hZ:g X=Z):
 OpX P n w0 h0 ⟨ds,.fieldAddr t x f,ty,ps,af,gd⟩ e [] h (fun u=>AtP σ h u Z):=by
 subst hZ;obtain⟨b,o,cs,rfl,r,C⟩:=r;subst ho;refine⟨_,fun L' h' hh _=>xW ht hf hsz hx,b,_,_,rfl,pc.get r,fun j u z=>?_⟩;rw[List.getElem?_take] at z
 split at z
 · rw[List.getElem?_drop] at z
   have:=C _ _ z
   rwa [←Nat.add_assoc] at this
 · cases z
theorem zES{t E:TypeId}{x y:Operand}{m off:Nat}{q:Int}{p:Value}{ρ:Rp α}{σ:Rp β}{g:α→β}{s:α→β→α}{X:α}{Z:β}(i:Nat)(ht:P.underlying t=some (.array m E))(hsz:∀w,(Go.sizeOf E).run P w=.ok σ.n w)(pc:Pc ρ off σ g s)(ho:i*σ.n=off)(hx:zJ e x=some p)(hy:zJ e y=some (vI q))(r:AtP ρ h p X)(hq:q=(i:Int))(hi:i<m)(hZ:g X=Z):
 OpX P n w0 h0 ⟨ds,.indexAddr t x y,ty,ps,af,gd⟩ e [] h (fun u=>AtP σ h u Z):=by
 subst hZ;obtain⟨b,o,cs,rfl,r,C⟩:=r;subst ho;refine⟨_,fun L' h' hh _=>zX i ht hsz hx hy hq hi,b,_,_,rfl,pc.get r,fun j u z=>?_⟩;rw[List.getElem?_take] at z
 split at z
 · rw[List.getElem?_drop] at z
   have:=C _ _ z
   rwa [←Nat.add_assoc] at this
 · cases z
theorem uW{v:Value}{ρ:Rp α}{xs:List α}{t E:TypeId}{x:Operand}(ht:P.underlying t=some (.slice E))(hx:zJ e x=some v)(r:(rpS ρ).Is h v xs):
 OpV P n w0 h0 ⟨ds,.call {callee:=.builtin .len,args:=#[x],argTypes:=#[t]},ty,ps,af,gd⟩ e L h (vI (xs.length:Int)):=lM ht hx (yAV r)
theorem zTL{E t:TypeId}{b k off:Nat}{cs:List Value}{v:Value}{x y:Operand}{ρ:Rp α}{σ:Rp β}{g:α→β}{s:α→β→α}{X Z:α}{Y:β}(hsz:∀w,(Go.sizeOf t).run P w=.ok σ.n w)(pc:Pc ρ off σ g s)(ho:k=off)(hx:zJ e x=some (vP b k))(hy:zJ e y=some v)(r:ρ.R h cs X)(ry:σ.Is h v Y)(hZ:s X Y=Z):
 ∃cs',ρ.R h cs' Z∧∀A B,Upd P n w0 h0 ⟨ds,.store t x y,ty,ps,af,gd⟩ e A (.var b E cs) B h (.var b E cs'):=by
 subst hZ;subst ho;obtain⟨D,H,O⟩:=ry.cells;have J:=σ.len H;have U:=ρ.len r;have hf:=pc.fits;refine⟨iC cs k D,?_,?_⟩
 · rw[zCJ _ _ _ (by omega),J]
   exact pc.set r H
 · intro A B a w M S
   have I:w.heap[b]?=some (.cells cs.toArray E):=S.ok (.var b E cs) (by simp);obtain⟨h2,h3⟩:=nN D k cs w I;refine⟨w.setCells b k D,?_,h3,h2⟩;have z:w.there b k D.length:=by
    intro j G;have:k+j<cs.length:=by omega
    refine⟨?_,?_⟩
    · unfold World.cell?
      simp[I,this]
    · simp[World.frozen?,I]
   have C:=run_storeCells_cells (P:=P) b k D 0 w (fun j G=>by simpa using(z j G).1) (fun j G=>by simpa using(z j G).2) (fun u T=>List.all_eq_true.1 (σ.one H) u T);simp only[Nat.add_zero] at C;simp[execOp,M.eval hx,M.eval hy,Instr.storeAt,Instr.sureAddr,storeVar,hsz,O,J,C]
theorem zS{ops:Array Oper}{rest:List Oper}{A B:List Res}{op:Op}{b:Nat}{E:TypeId}{cs:List Value}{F:List Value→Prop}(hv:∃cs',F cs'∧∀A B,Upd P n w0 h0 ⟨none,op,ty,ps,af,none⟩ e A (.var b E cs) B h (.var b E cs'))
    (k:∀cs',F cs'→GL P n w0 h0 ops Q rest e (A++.var b E cs'::B) h):GL P n w0 h0 ops Q (⟨none,op,ty,ps,af,none⟩::rest) e (A++.var b E cs::B) h:=by
 obtain⟨cs',z,u⟩:=hv;exact xQ (u A B) rfl rfl rfl (k cs' z)
theorem yK{ops:Array Oper}{RR:List Res}{al:Als}{i:Nat}{r:List (Nat×Kd)}{A B:List Res}{op:Op}{b:Nat}{E:TypeId}{cs:List Value}{F:List Value→Prop}(ho:ops.getD i default=⟨none,op,ty,ps,af,none⟩)(hv:∃cs',F cs'∧∀A B,Upd P n w0 h0 ⟨none,op,ty,ps,af,none⟩ e A (.var b E cs) B h (.var b E cs'))
    (k:∀cs',F cs'→W P n w0 h0 ops Q RR al r e (A++.var b E cs'::B) h):W P n w0 h0 ops Q RR al ((i,.t)::r) e (A++.var b E cs::B) h:=by
 obtain⟨cs',z,u⟩:=hv;exact kV ho (u A B) rfl (k cs' z)
theorem bD{ops:Array Oper}{R:List Res}{W':List (Nat×Value)→List Res→Mem→Prop}{A B:List Res}{op:Op}{b:Nat}{E:TypeId}{cs:List Value}{F:List Value→Prop}(hv:∃cs',F cs'∧∀A B,Upd P n w0 h0 ⟨none,op,ty,ps,af,none⟩ e A (.var b E cs) B h (.var b E cs'))
    (hR:∀r∈R,∀q',r∈A++.var b E cs::B→r∈A++q'::B)(k:∀cs',F cs'→W' e (A++.var b E cs'::B) h):qU P n w0 h0 ops R ⟨none,op,ty,ps,af,none⟩ e (A++.var b E cs::B) h W':=by
 obtain⟨cs',J,G⟩:=hv;intro X a w M S;have D:St w0 h0 (A++.var b E cs::(B++X)) h w:=by simpa using S
 unfold uN;rw[if_pos (wn rfl)];obtain⟨O,u,C,z⟩:=G A (B++X) a w M D;rw[u];refine⟨fun T H=>(by cases H),A++.var b E cs'::B,h,MLe.refl h,fun hh r u=>hR r u _ (hh r u),?_,k cs' J⟩;have:=D.grown C z fun b I=>.inl I
 simpa using this
theorem zRK{E:TypeId}{x:Operand}{v:Value}{ρ:Rp α}{X:α}(hx:zJ e x=some v)(r:ρ.Is h v X):
 aN P n w0 h0 ⟨ds,.box E x,ty,ps,af,gd⟩ e L h (fun u q=>∃b cs,u=vP b 0∧q=.var b E cs∧ρ.R h cs X):=by
 obtain⟨cs,D,G⟩:=r.cells;intro a w U S;obtain⟨C,z,q,T,O,M,J,b,I,H⟩:=xE (n:=n) (ds:=ds) (ty:=ty) (ps:=ps) (af:=af) (gd:=gd) (L:=L) (E:=E) hx G a w U S;exact⟨C,z,q,T,O,M,J,b,cs,I,H,D⟩
theorem zK3{E:TypeId}{i:TypeInfo}{z:Value}{cs:List Value}{ρ:Rp α}{X:α}(hi:P.info? E=some i)(hz:i.zero=some z)(hc:z.cells=cs.toArray)(r:ρ.R h cs X):
 aN P n w0 h0 ⟨ds,.alloc E,ty,ps,af,gd⟩ e L h (fun u q=>∃b cs,u=vP b 0∧q=.var b E cs∧ρ.R h cs X):=by
 intro a w T S;obtain⟨D,C,q,O,M,J,I,b,H,G⟩:=wB (n:=n) (ds:=ds) (ty:=ty) (ps:=ps) (af:=af) (gd:=gd) (e:=e) (L:=L) (h:=h) hi hz hc a w T S;exact⟨D,C,q,O,M,J,I,b,cs,H,G,r⟩
def zFN(ρ:Rp α)(h:Mem)(place:Nat→Option (Nat×Nat))(X:α)(parts:List (Nat×Value))(X':α):Prop:=
 ∀cs,ρ.R h cs X→∃cs',ρ.R h cs' X'∧Instr.fill place cs.toArray parts=some cs'.toArray
theorem zY{ρ:Rp α}{place:Nat→Option (Nat×Nat)}{X:α}:zFN ρ h place X [] X:=fun cs r=>⟨cs,r,rfl⟩
theorem zI{ρ:Rp α}{σ:Rp β}{place:Nat→Option (Nat×Nat)}{X X':α}{Y:β}{i off:Nat}{v:Value}{rest:List (Nat×Value)}{g:α→β}{s:α→β→α}(hp:place i=some (off,σ.n))(pc:Pc ρ off σ g s)(ry:σ.Is h v Y)(k:zFN ρ h place (s X Y) rest X'):zFN ρ h place X ((i,v)::rest) X':=by
 intro cs r;obtain⟨M,z,D⟩:=ry.cells;have H:=σ.len z;have G:=ρ.len r;have O:=pc.fits;obtain⟨u,C,J⟩:=k _ (pc.set r z);refine⟨u,C,?_⟩;have I:cs=cs.take off++(cs.drop off).take σ.n++cs.drop (off+σ.n):=by
  rw[List.append_assoc,←List.drop_drop,List.take_append_drop,List.take_append_drop]
 rw[I];exact yY hp (by rw[List.length_take];omega) (by rw[List.length_take,List.length_drop];omega) H D J
theorem wD{t:TypeId}{i:TypeInfo}{z:Value}{zs:List Value}{fs:Array Field}{places:Array (Nat×Nat)}{parts:List (Nat×Operand)}{ps':List (Nat×Value)}{ρ:Rp α}{X X':α}(ht:P.underlying t=some (.struct fs))(hi:P.info? t=some i)(hz:i.zero=some z)(hzc:z.cells=zs.toArray)
    (hpl:∀w,(fs.mapM fun(f:Field)=>do pure (f.offset,←Go.sizeOf f.type)).run P w=.ok places w)(hp:mM e parts ps')(ha:ρ.agg=true)(rz:ρ.R h zs X)(hf:zFN ρ h (places[·]?) X ps' X'):
    OpX P n w0 h0 ⟨ds,.build t parts.toArray,ty,ps,af,gd⟩ e [] h (fun u=>ρ.Is h u X'):=by
 obtain⟨C,D,G⟩:=hf zs rz;refine⟨.agg C.toArray,fun L' h' _ _=>yQ ht hi hz hpl hp (by rw[hzc];exact G),C,D,?_⟩;unfold Rp.val;rw[ha];rfl
theorem xD{t E:TypeId}{m sz:Nat}{i:TypeInfo}{z:Value}{zs:List Value}{parts:List (Nat×Operand)}{ps':List (Nat×Value)}{ρ:Rp α}{X X':α}(ht:P.underlying t=some (.array m E))(hi:P.info? t=some i)(hz:i.zero=some z)(hzc:z.cells=zs.toArray)
    (hsz:∀w,(Go.sizeOf E).run P w=.ok sz w)(hp:mM e parts ps')(ha:ρ.agg=true)(rz:ρ.R h zs X)(hf:zFN ρ h (fun i=>some (i*sz,sz)) X ps' X'):
    OpX P n w0 h0 ⟨ds,.build t parts.toArray,ty,ps,af,gd⟩ e [] h (fun u=>ρ.Is h u X'):=by
 obtain⟨C,D,G⟩:=hf zs rz;refine⟨.agg C.toArray,fun L' h' _ _=>zF9 ht hi hz hsz hp (by rw[hzc];exact G),C,D,?_⟩;unfold Rp.val;rw[ha];rfl
theorem kE{R R':Mem→Value→Prop}(k:∀h r,R h r→R' h r)(x:Ending)(w:World)(s:Ret w0 h0 R x w):Ret w0 h0 R' x w:=by
 obtain⟨v,h,e,r,S⟩:=s;exact⟨v,h,e,k h v r,S⟩
theorem yBI{h:Mem}:rpB.Is h (.bool true) True:=(xM trivial)▸is_b True
theorem Rp.castR{ρ:Rp α}{cs:List Value}{x y:α}(r:ρ.R h cs x)(e:x=y):ρ.R h cs y:=e▸r
theorem Rp.R.mono{ρ:Rp α}{h':Mem}{cs:List Value}{x:α}(r:ρ.R h cs x)(hh:MLe h h'):ρ.R h' cs x:=Rp.mono ρ hh r
theorem kA{t:Nat}{T E:TypeId}{b:Nat}{cs:List Value}{ρ:Rp α}{X:α}(tok:TyOk P T ρ.n ρ.agg)(hm:.var b E cs∈L)(hx:zJ e (.tmp t)=some (vP b 0))(r:ρ.R h cs X):∃v,RV P n w0 h0 (.cell t T) e L h v∧ρ.Is h v X:=by
 refine⟨ρ.val cs,?_,cs,r,rfl⟩;intro a w C S;have z:w.heap[b]?=some (.cells cs.toArray E):=S.ok _ hm;have:=C.eval hx;simp only[Act.eval] at this;have u:=q6 (P:=P) tok r (eC z 0 cs (by simp));simp only[Instr.loadAt,Instr.sureAddr,Sem.run_bind,Sem.run_pure,Result.andThen_ok] at u;simp[zCF,this,asAddr,u]
theorem wM{r:ResultVar}{F:Value→Prop}{x:Exit}(s:∃v,RV P n w0 h0 r e L h v∧F v)(k:∀v,RV P n w0 h0 r e L h v→F v→GQ n w0 h0 Q x e L h):GQ n w0 h0 Q x e L h:=by
 obtain⟨v,a,b⟩:=s;exact k v a b
theorem zQX{o:Oper}{v:Value}{F:Value→Prop}(hv:∀L' h',OpV P n w0 h0 o e L' h' v)(hF:F v):OpX P n w0 h0 o e [] h F:=⟨v,fun L' h' _ _=>hv L' h',hF⟩
end
end Bk
namespace Bk
set_option linter.unusedVariables false
set_option linter.unusedSimpArgs false
open Go Go.RowKit
open Classical
section
variable {P:Program}{n:Nat}{w0:World}{h0:Mem}{e:List (Nat×Value)}{L:List Res}{h:Mem}{Q:Exit→Act→World→Prop}
variable {ds:Option Tmp}{ty:TypeId}{ps:String}{af:Array Edge}{gd:Option (Nat×Bool)}
theorem gR{G:Prop}(p:Prop)(kt:p→G)(kf:¬p→G):G:=Classical.byCases kt kf
abbrev vF(f:Nat)(cap:List Value):Value:=.func (.func f) #[] cap.toArray
def zTJ(P:Program)(n:Nat)(o:Oper)(e:List (Nat×Value))(f:Nat)(args:Array Value):Prop:=∀a w,Env n e a→(execOp a.eval o).run P w=.ok (.enter f args) w
theorem rH{x:Operand}{f:Nat}{cap:List Value}{xs:List Operand}{ts:Array TypeId}{vs:List Value}(hcall:∀args w,(callFunc f args).run P w=.ok (.enter f args) w)(hx:zJ e x=some (vF f cap))(hvs:rO e xs vs):
 zTJ P n ⟨ds,.call {callee:=.value x,args:=xs.toArray,argTypes:=ts},ty,ps,af,gd⟩ e f (vs++cap).toArray:=by
 intro a w z;have u:xs.toArray.map a.eval=vs.toArray:=by rw[List.map_toArray,z.evals hvs]
 simp only[execOp,resolve,z.eval hx];simp[Deferred.ofValue,invoke,hcall,u]
theorem zX2{W':List (Nat×Value)→List Res→Mem→Prop}{ops:Array Oper}{R:List Res}{op:Op}{g t d:Nat}{b:Bool}(ht:(ops[g]?).bind (·.dst)=some t)(he:e.lookup t=some undef)(hn:Nat.ble (d+1) n=true)(k:W' ((d,undef)::e) L h):
 qU P n w0 h0 ops R ⟨some d,op,ty,ps,af,some (g,b)⟩ e L h W':=by
 intro X a w E S;have u:Region.wanted ⟨some d,op,ty,ps,af,some (g,b)⟩ (yielded ops a.tmps)=false:=by
  have:=E.get t _ he;simp[Region.wanted,yielded,ht,this,undef]
 unfold uN;rw[if_neg (by simp[u])];exact⟨fun C z=>(by cases z;exact Nat.le_of_ble_eq_true hn),L,h,MLe.refl h,fun hh=>hh,S,k⟩
theorem zO1{R A B:List Res}{q:Res}(hR:∀r∈R,r∈A++B):∀r∈R,r∈A++q::B→r∈A++B:=fun r hr _=>hR r hr
section
variable {ops:Array Oper}{R:List Res}{d:Nat}{op:Op}
theorem cM{W':List (Nat×Value)→List Res→Mem→Prop}{f:Nat}{args:Array Value}{R':Mem→Value→Prop}(he:zTJ P n ⟨some d,op,ty,ps,af,none⟩ e f args)(hn:Nat.ble (d+1) n=true)
    (hc:∀w,MLe h (mem w)→Calls P f args w (Ret w h R'))(k:∀v h',MLe h h'→R' h' v→W' ((d,v)::e) L h'):qU P n w0 h0 ops R ⟨some d,op,ty,ps,af,none⟩ e L h W':=by
 intro X a w E S;unfold uN;rw[if_pos (wn rfl),he a w E];refine(hc w S.sub).mono ?_
 rintro G z ⟨v,h',rfl,hR,u⟩
 have D:St w0 h0 (L++X) h' z:=S.call u;exact⟨v,rfl,fun H C=>(by cases C;exact Nat.le_of_ble_eq_true hn),L,h',u.le,fun hh=>hh,D,k v h' u.le hR⟩
end
end
end Bk
namespace Bk
set_option linter.unusedVariables false
set_option linter.unusedSimpArgs false
open Go Go.RowKit
open Classical
section
variable {α β γ:Type}
variable {P:Program}{n:Nat}{w0:World}{h0:Mem}{e:List (Nat×Value)}{L:List Res}{h:Mem}{Q:Exit→Act→World→Prop}
variable {ds:Option Tmp}{ty:TypeId}{ps:String}{af:Array Edge}{gd:Option (Nat×Bool)}
theorem St.nilown{w:World}(s:St w0 h0 L h w)(E k:Nat):St w0 h0 (.gs E k (.slice none 0 0) 0 []::L) h w:=by
 refine⟨s.below,s.le,s.sub,s.fresh,?_,?_,?_⟩
 · intro r u
   rcases List.mem_cons.1 u with rfl|u
   · exact World.ownsRow_nil w _ E k
   · exact s.ok r u
 · intro r u b z
   rcases List.mem_cons.1 u with rfl|u
   · simp[Res.fp,Value.ownBlock] at z
   · exact s.own r u b z
 · refine List.pairwise_cons.2 ⟨fun r u b z=>?_,s.apart⟩
   simp[Res.fp,Value.ownBlock] at z
theorem xR{c:Code}(E k:Nat)(g:GC P n w0 h0 c Q e (.gs E k (.slice none 0 0) 0 []::L) h):GC P n w0 h0 c Q e L h:=fun a w Ev S=>g a w Ev (S.nilown E k)
theorem zFC{ops:Array Oper}{l:List Oper}(E k:Nat)(g:GL P n w0 h0 ops Q l e (.gs E k (.slice none 0 0) 0 []::L) h):GL P n w0 h0 ops Q l e L h:=fun a w Ev S=>g a w Ev (S.nilown E k)
theorem cY{x:Exit}(E k:Nat)(g:GQ n w0 h0 Q x e (.gs E k (.slice none 0 0) 0 []::L) h):GQ n w0 h0 Q x e L h:=fun a w Ev S=>g a w Ev (S.nilown E k)
theorem zP7{ops:Array Oper}{R:List Res}{o:Oper}{W':List (Nat×Value)→List Res→Mem→Prop}(E k:Nat)(g:qU P n w0 h0 ops R o e (.gs E k (.slice none 0 0) 0 []::L) h W'):qU P n w0 h0 ops R o e L h W':=by
 intro X a w J S;refine(g X a w J (S.nilown E k)).mono ?_
 rintro O M ⟨G,L',g,D,C,I,H⟩
 exact⟨G,L',g,D,fun hh q z=>C (fun y u=>List.mem_cons_of_mem _ (hh y u)) q z,I,H⟩
theorem zOO(a:List Value)(m:Nat):(madeCells a.toArray (m*a.length)).toList=(List.replicate m a).flatten:=by
 unfold madeCells;rw[Array.toList_map,Array.toList_range]
 induction m with
 |zero=>simp
 |succ m ih=>
  rw[Nat.succ_mul,Nat.add_comm,List.range_add,List.map_append,List.map_map,List.replicate_succ,List.flatten_cons,←ih]
  congr 1
  · apply List.ext_getElem?
    intro j
    by_cases hj:j<a.length
    · simp[hj,Nat.mod_eq_of_lt hj]
    · simp[hj]
  · apply List.map_congr_left
    intro j _;simp
theorem zL6{ρ:Rp α}{a:List Value}{x:α}(m:Nat)(r:ρ.R h a x):RL ρ h (madeCells a.toArray (m*ρ.n)).toList (List.replicate m x):=by
 rw[←ρ.len r,zOO];exact(mW (h:=h) m r).2
theorem zE3{t E:TypeId}{i:TypeInfo}{z:Value}{zs:List Value}{x y:Operand}{q q':Int}{by':Nat}{ρ:Rp α}{X:α}(m:Nat)(ht:P.underlying t=some (.slice E))(hi:P.info? E=some i)(hz:i.zero=some z)(hzc:z.cells=zs.toArray)(hsize:i.size=ρ.n)(hby:i.bytes=by')(rz:ρ.R h zs X)
    (hx:zJ e x=some (vI q))(hy:zJ e y=some (vI q'))(hq:q=(m:Int))(hq':q'=(m:Int))(hb:by'*m≤281474976710656)(hm:m<9223372036854775808):
    aN P n w0 h0 ⟨ds,.makeSlice t x y,ty,ps,af,gd⟩ e L h (fun v r=>∃cs,r=.gs E ρ.n v (List.replicate m X).length cs∧RL ρ h cs (List.replicate m X)):=by
 subst hq;subst hq';subst hby;intro a w D S;obtain⟨G,H,u,C⟩:=run_make_full (P:=P) w w0.heap.size t E i z ρ.n ht hi hz hsize .i64 .i64 m hb (by unfold maxLen;omega) S.below.size;rw[hzc] at u;refine⟨_,G,.gs E ρ.n (.slice (some ⟨w.heap.size,0,none⟩) m m) m (madeCells zs.toArray (m*ρ.n)).toList,?_,C,u,fun b hb=>?_,_,by rw[lR],zL6 m rz⟩
 · simp only[execOp,D.eval hx,D.eval hy,vI]
   simp[H]
 · simp only[Res.fp,Value.ownBlock,Option.some.injEq] at hb
   omega
theorem zW{t E:TypeId}{i:TypeInfo}{z:Value}{zs:List Value}{parts:List (Nat×Operand)}{ps':List (Nat×Value)}{m:Nat}{ρ:Rp α}{X:α}{xs:List α}(ht:P.underlying t=some (.slice E))(hi:P.info? E=some i)(hz:i.zero=some z)(hzc:z.cells=zs.toArray)(hsize:i.size=ρ.n)(rz:ρ.R h zs X)
    (hp:mM e parts ps')(hf:zFN (rpA m ρ) h (fun i=>some (i*ρ.n,ρ.n)) (List.replicate m X) ps' xs)(hm:m*ρ.n≤16777216)(hn:0<ρ.n):
    aN P n w0 h0 ⟨ds,.buildSlice t m parts.toArray,ty,ps,af,gd⟩ e L h (fun v r=>∃cs,r=.gs E ρ.n v xs.length cs∧RL ρ h cs xs):=by
 obtain⟨cs,⟨D,H⟩,G⟩:=hf (madeCells zs.toArray (m*ρ.n)).toList ⟨List.length_replicate,zL6 m rz⟩;have I:=H.len;rw[D] at I;intro a w U S;have M:(parts.toArray.map fun(p:Nat×Operand)=>(p.1,a.eval p.2)).toList=ps':=by
  rw[List.map_toArray];exact hp.eval U
 refine⟨.slice (some ⟨w.heap.size,0,none⟩) m m,w.alloc (.cells cs.toArray E),.gs E ρ.n (.slice (some ⟨w.heap.size,0,none⟩) m m) m cs,?_,World.grownBy_alloc w _ none,?_,fun b T=>?_,cs,by rw[D],H⟩
 · have O:¬(m*ρ.n>16777216):=by omega
   simp only[execOp,Instr.buildSlice];rw[show(parts.toArray.map fun(i,x)=>(i,a.eval x)).toList=ps' from M];have J:(zeroValue E).run P w=.ok z w:=by simp[zeroValue,typeInfo,hi,hz]
   have u:Instr.fill (fun i=>some (i*ρ.n,ρ.n)) (madeCells zs.toArray (m*ρ.n)) ps'=some cs.toArray:=by
    simpa using G
   have C:∀w,(Go.sizeOf E).run P w=.ok ρ.n w:=fun w=>by simp[Go.sizeOf,typeInfo,hi,hsize]
   by_cases h0:m*ρ.n=0
   · rw[h0] at u
     simp only[madeCells,Array.range_zero',Array.map_empty] at u;simp[run_underlying ht,C,newRow,newObj,Sem.run,h0,Array.range_zero',u]
   · unfold madeCells at u
     simp only[List.size_toArray,List.getElem!_toArray,List.getElem!_eq_getElem?_getD] at u;simp[run_underlying ht,C,h0,O,J,hzc,u,newRow,newObj,Sem.run]
 · have:=World.ownsRow_lit (w:=w) (base:=w0.heap.size) (e:=E) (size:=ρ.n) cs.toArray m S.below.size (by unfold maxLen;have:=Nat.le_mul_of_pos_right m hn;omega) (by simpa using I)
   exact this
 · simp only[Res.fp,Value.ownBlock,Option.some.injEq] at T
   omega
theorem yF{A B:List Res}{t E:TypeId}{i:TypeInfo}{z:Value}{bytes:Nat}{v v':Value}{cs:List Value}{x y:Operand}{ρ:Rp α}{xs ys:List α}(ht:P.underlying t=some (.slice E))(hi:P.info? E=some i)(hz:i.zero=some z)(hsize:i.size=ρ.n)(hby:i.bytes=bytes)
    (hzs:z.cells.size=ρ.n)(hk:0<ρ.n)(hx:zJ e x=some v)(hy:zJ e y=some v')(r:RL ρ h cs xs)(hv':(rpS ρ).Is h v' ys)(hlen:xs.length+ys.length<9223372036854775808)(hb':(xs.length+ys.length)*bytes≤140737488355328):
    zBE P n w0 h0 ⟨ds,.call {callee:=.builtin .append,args:=#[x,y],argTypes:=#[t,t]},ty,ps,af,gd⟩ e A (.gs E ρ.n v xs.length cs) B h (fun u r'=>∃cs',r'=.gs E ρ.n u (xs++ys).length cs'∧RL ρ h cs' (xs++ys)):=by
 obtain⟨C,H,r2⟩:=zN7 hv';intro a w U S;obtain⟨u,D,r',T,O,M,J,I⟩:=zCG (A:=A) (B:=B) (v:=v) (cs:=cs) (m:=xs.length) (ds:=ds) (ty:=ty) (ps:=ps) (af:=af) (gd:=gd) ht hi hz hsize hby hzs hk hx hy H (fun u G=>List.all_eq_true.1 r2.one u G) hlen hb' a w U S;exact⟨u,D,r',T,O,M,J,cs++C,by rw[I,lAz],r.append r2⟩
theorem zF5{E k m:Nat}{v:Value}{cs:List Value}{w:World}(hm:.gs E k v m cs∈L)(S:St w0 h0 L h w):Sl (mem w) k v m cs:=by
 obtain⟨A,B,rfl⟩:=List.append_of_mem hm;exact w3 S
theorem zYG(k:Nat)(v:Value)(i:Nat):zL k v i=zL 1 v (i*k):=by
 unfold zL;rw[Nat.mul_one]
theorem gA{E k m:Nat}{v:Value}{cs:List Value}{t E':TypeId}{x:Operand}(hm:.gs E k v m cs∈L)(ht:P.underlying t=some (.slice E'))(hx:zJ e x=some v):
 OpV P n w0 h0 ⟨ds,.call {callee:=.builtin .len,args:=#[x],argTypes:=#[t]},ty,ps,af,gd⟩ e L h (vI (m:Int)):=
 fun a w Ev S=>lM (L:=L) (h:=h) ht hx (zF5 hm S).one a w Ev S
theorem yZ{E m k:Nat}{cs:List Value}{v:Value}{t E':TypeId}{x y:Operand}{q:Int}(i:Nat)(hm:.gs E k v m cs∈L)(ht:P.underlying t=some (.slice E'))(hsz:∀w,(Go.sizeOf E').run P w=.ok k w)(hx:zJ e x=some v)(hy:zJ e y=some (vI q))
    (hq:q=(i:Int))(hi:i<m)(hk:0<k):OpV P n w0 h0 ⟨ds,.indexAddr t x y,ty,ps,af,gd⟩ e L h (zL 1 v (i*k)):=by
 intro a w z S;have u:St w (mem w) [] (mem w) w:=St.begin (MLe.refl _);rw[←zYG];exact oL (n:=n) (w0:=w) (h0:=mem w) (L:=[]) (h:=mem w) i ht hsz hx hy (zF5 hm S) hq hi hk a w z u
theorem zHC{k m o l:Nat}{v:Value}{cs:List Value}{w:World}(s:Sl (mem w) k v m cs)(hl:0<l)(ho:o+l≤cs.length):∃b o',zL 1 v o=vP b (o'+o)∧v=.slice (some ⟨b,o',none⟩) m (match v with| .slice _ _ c=>c|_=>0)∧w.rangeAt b (o'+o) ((cs.drop o).take l):=by
 obtain⟨a,I,rfl,S,O,M,G⟩:=s;obtain⟨b,o',rfl,_⟩:=G o (by omega);refine⟨b,o',by simp[zL,qZ],rfl,?_⟩;intro j u z;rw[List.getElem?_take] at z
 split at z
 · rw[List.getElem?_drop] at z
   obtain⟨C,_⟩:=List.getElem?_eq_some_iff.1 z;obtain⟨T,J,H,D⟩:=G _ C;simp only[Option.some.injEq,Addr.mk.injEq,and_true] at H;obtain⟨rfl,rfl⟩:=H;rw[z] at D;have:=bU (MLe.refl _) D
   rwa [←Nat.add_assoc] at this
 · cases z
theorem wW{t E:TypeId}{x:Operand}{k off:Nat}{cs:List Value}{v:Value}{ρ:Rp α}{σ:Rp β}{g:List α→β}{s:List α→β→List α}{xs:List α}{Z:β}(T:TyOk P t σ.n σ.agg)(pc:Pc (rpA xs.length ρ) off σ g s)(ho:k=off)(hp:0<σ.n)(hx:zJ e x=some (zL 1 v k))(r:RL ρ h cs xs)(hZ:g xs=Z):
 OpX P n w0 h0 ⟨ds,.load t x,ty,ps,af,gd⟩ e [.gs E ρ.n v xs.length cs] h (fun u=>σ.Is h u Z):=by
 subst hZ;subst ho;have z:=pc.get (h:=h) ⟨rfl,r⟩;have J:k+σ.n≤xs.length*ρ.n:=pc.fits;have I:=r.len;refine⟨_,fun L' h' _ D a w H S=>?_,_,z,rfl⟩;obtain⟨b,o',G,_,C⟩:=zHC (zF5 (D (.gs E ρ.n v xs.length cs) (.head _)) S) hp (show k+σ.n≤cs.length by omega);rw[G] at hx;have:=q6 (P:=P) (w:=w) T z C;simp[execOp,H.eval hx,this]
theorem aR{base E k g cap m:Nat}:∀(vs:List Value) (off:Nat) (cs:List Value) (w:World),w.ownsRow base E k (.slice (some ⟨g,0,none⟩) m cap) m cs→
 (w.setCells g off vs).ownsRow base E k (.slice (some ⟨g,0,none⟩) m cap) m (iC cs off vs)∧w.grownBy (w.setCells g off vs) (some g)
 |[],off,cs,w,hw=>⟨hw,⟨rfl,rfl,rfl,Nat.le_refl _,fun _ _ _=>rfl⟩⟩
 |v::r,off,cs,w,hw=>by
  obtain⟨h1,h2⟩:=hw.stored off v;obtain⟨h3,h4⟩:=aR r (off+1) (cs.set off v) _ h1;have e1:iC cs off (v::r)=iC (cs.set off v) (off+1) r:=by
   unfold iC;rw[List.zipIdx_cons,List.foldl_cons,Nat.add_zero,List.zipIdx_succ,List.foldl_map]
   congr 1
   funext c p
   rw[show off+(p.2+1)=off+1+p.2 by omega]
  refine⟨by rw[World.setCells,e1];exact h3,?_⟩;refine⟨h4.os.trans h2.os,h4.tape.trans h2.tape,h4.output.trans h2.output,Nat.le_trans h2.size h4.size,?_⟩;intro C z u;have G:=h2.block C z u;have D:=h4.block C (Nat.lt_of_lt_of_le z h2.size) u;rw[World.setCells,D,G]
theorem rQ{E t:TypeId}{k off:Nat}{cs:List Value}{u v:Value}{x y:Operand}{ρ:Rp α}{σ:Rp β}{g:List α→β}{s:List α→β→List α}{xs Z:List α}{Y:β}(hsz:∀w,(Go.sizeOf t).run P w=.ok σ.n w)(pc:Pc (rpA xs.length ρ) off σ g s)(ho:k=off)(hp:0<σ.n)(hx:zJ e x=some (zL 1 v k))(hy:zJ e y=some u)(r:RL ρ h cs xs)(ry:σ.Is h u Y)(hZ:s xs Y=Z):
 ∃cs',RL ρ h cs' Z∧∀A B,Upd P n w0 h0 ⟨ds,.store t x y,ty,ps,af,gd⟩ e A (.gs E ρ.n v xs.length cs) B h (.gs E ρ.n v Z.length cs'):=by
 subst hZ;subst ho;obtain⟨G,H,X⟩:=ry.cells;have O:=σ.len H;have aa:=r.len;have hf:k+σ.n≤xs.length*ρ.n:=pc.fits;obtain⟨M,J⟩:=pc.set (h:=h) ⟨rfl,r⟩ H;refine⟨iC cs k G,?_,?_⟩
 · rw[zCJ _ _ _ (by omega),O]
   exact J
 · intro A B a w U S
   rw[M];have D:w.ownsRow w0.heap.size E ρ.n v xs.length cs:=S.ok (.gs E ρ.n v xs.length cs) (by simp);have z:=D;obtain⟨_,hr⟩:=D
   rcases hr with⟨rfl,hm0⟩|⟨b,cap,cur,rfl,hbg,hg,hnc,hcm,hcs,htake⟩
   · rw[hm0] at hf;omega
   · have I:zL 1 (.slice (some ⟨b,0,none⟩) xs.length cap) k=vP b k:=by simp[zL,qZ]
     rw[I] at hx;obtain⟨h1,h2⟩:=aR G k cs w z;refine⟨w.setCells b k G,?_,h2,h1⟩;have C:=run_storeCells_cells (P:=P) b k G 0 w (fun j hj=>by
      have T:=z.cellAt (k+j) (by omega);rw[List.getElem?_eq_getElem (by omega)] at T;simp[T]) (fun j hj=>by simpa using z.frozenAt (k+j)) (fun u hu=>List.all_eq_true.1 (σ.one H) u hu)
     simp only[Nat.add_zero] at C;simp[execOp,U.eval hx,U.eval hy,Instr.storeAt,Instr.sureAddr,storeVar,hsz,X,O,C]
section
variable {A B:List Res}{op:Op}{E k m:Nat}{v:Value}{cs:List Value}{F:Nat→List Value→Prop}
theorem gD{ops:Array Oper}{rest:List Oper}{m':Nat}{F:List Value→Prop}(hv:∃cs',F cs'∧∀A B,Upd P n w0 h0 ⟨none,op,ty,ps,af,none⟩ e A (.gs E k v m cs) B h (.gs E k v m' cs'))
    (kk:∀cs',F cs'→GL P n w0 h0 ops Q rest e (A++.gs E k v m' cs'::B) h):GL P n w0 h0 ops Q (⟨none,op,ty,ps,af,none⟩::rest) e (A++.gs E k v m cs::B) h:=by
 obtain⟨cs',z,u⟩:=hv;exact xQ (u A B) rfl rfl rfl (kk cs' z)
end
theorem St.freezex{A B:List Res}{E:Nat}{v:Value}{cs:List Value}{ρ:Rp α}{xs:List α}{w:World}(r:RL ρ h cs xs)(S:St w0 h0 (A++.gs E ρ.n v xs.length cs::B) h w):∃h',MLe h h'∧(rpS ρ).Is h' v xs∧St w0 h0 (A++B) h' w:=by
 have u:=S.ok (.gs E ρ.n v xs.length cs) (by simp);have D:=u;obtain⟨H,G⟩:=u
 rcases G with⟨rfl,hm0⟩|⟨g,cap,cur,rfl,hb,hg,hn,hm,hcs,ht⟩
 · have C:xs=[]:=List.eq_nil_of_length_eq_zero hm0
   subst C;exact⟨h,MLe.refl h,mB h,S.drop⟩
 · obtain⟨I,z⟩:=S.freeze (b:=g) (o:=.cells cur E (0,0)) rfl hg
   refine⟨_,z,zVH ⟨_,cap,rfl,hn,hm,H,fun i hi=>⟨g,0,rfl,?_⟩⟩ (r.mono z),I⟩;unfold cell;simp only[if_true,Nat.zero_add];rw[←ht,List.getElem?_take,if_pos (by omega)];simp
section
variable {A B:List Res}{E:Nat}{v:Value}{cs:List Value}{ρ:Rp α}{xs:List α}
theorem yJ{ops:Array Oper}{l:List Oper}(r:RL ρ h cs xs)(k:∀h',MLe h h'→(rpS ρ).Is h' v xs→GL P n w0 h0 ops Q l e (A++B) h'):GL P n w0 h0 ops Q l e (A++.gs E ρ.n v xs.length cs::B) h:=by
 intro a w D S;obtain⟨h',u,z,C⟩:=S.freezex r;exact k h' u z a w D C
theorem zLQ{c:Code}(r:RL ρ h cs xs)(k:∀h',MLe h h'→(rpS ρ).Is h' v xs→GC P n w0 h0 c Q e (A++B) h'):GC P n w0 h0 c Q e (A++.gs E ρ.n v xs.length cs::B) h:=by
 intro a w D S;obtain⟨h',u,z,C⟩:=S.freezex r;exact k h' u z a w D C
theorem wY{x:Exit}(r:RL ρ h cs xs)(k:∀h',MLe h h'→(rpS ρ).Is h' v xs→GQ n w0 h0 Q x e (A++B) h'):GQ n w0 h0 Q x e (A++.gs E ρ.n v xs.length cs::B) h:=by
 intro a w D S;obtain⟨h',u,z,C⟩:=S.freezex r;exact k h' u z a w D C
theorem vG{o:Oper}{ops:Array Oper}{R:List Res}{W':List (Nat×Value)→List Res→Mem→Prop}(r:RL ρ h cs xs)(hR:∀q∈R,q∈A++.gs E ρ.n v xs.length cs::B→q∈A++B)
    (k:∀h',MLe h h'→(rpS ρ).Is h' v xs→qU P n w0 h0 ops R o e (A++B) h' W'):qU P n w0 h0 ops R o e (A++.gs E ρ.n v xs.length cs::B) h W':=by
 intro X a w Y S;have T:St w0 h0 (A++.gs E ρ.n v xs.length cs::(B++X)) h w:=by simpa using S
 obtain⟨h',u,C,U⟩:=T.freezex r;have O:St w0 h0 ((A++B)++X) h' w:=by simpa using U
 refine(k h' u C X a w Y O).mono ?_
 rintro v' Z ⟨I,L',g,H,G,M,J⟩
 exact⟨I,L',g,u.trans H,fun hh q D=>G (fun y z=>hR y z (hh y z)) q D,M,J⟩
end
end
end Bk
namespace Bk
set_option linter.unusedVariables false
set_option linter.unusedSimpArgs false
open Go Go.RowKit
def t8(o:Oper):Nat:=o.after.toList.foldl (fun a e=>if Region.binds .any e then a |||(1 <<< e.on) else a) 0
theorem oA(k j:Nat):(1 <<< k).testBit j=decide (j=k):=by
 rw[Nat.one_shiftLeft,Nat.testBit_two_pow];exact Bool.eq_iff_iff.2 (by simp[eq_comm])
theorem mK(o:Oper)(k:Nat):(t8 o).testBit k=true↔∃e∈o.after,Region.binds .any e=true∧e.on=k:=by
 have key:∀(l:List Edge) (a:Nat),(l.foldl (fun a e=>if Region.binds .any e then a |||(1 <<< e.on) else a) a).testBit k=true↔a.testBit k=true∨∃e∈l,Region.binds .any e=true∧e.on=k:=by
  intro l
  induction l with
  |nil=>intro a;simp
  |cons e l ih=>
   intro a;rw[List.foldl_cons,ih]
   by_cases hb:Region.binds .any e=true
   · rw[if_pos hb,Nat.testBit_or,oA]
     simp only[Bool.or_eq_true,decide_eq_true_eq,List.mem_cons,exists_eq_or_imp,hb,true_and,or_assoc];constructor
     · rintro(h|h|h)
       · exact .inl h
       · exact .inr (.inl h.symm)
       · exact .inr (.inr h)
     · rintro(h|h|h)
       · exact .inl h
       · exact .inr (.inl h.symm)
       · exact .inr (.inr h)
   · rw[if_neg hb]
     simp only[List.mem_cons,exists_eq_or_imp,hb,false_and,false_or];simp
 unfold t8;rw[key];simp
def zIY(ops:Array Oper)(ams:List Nat)(i:Nat):Nat:=(List.range ops.size).foldl (fun a j=>if j==i||(ams.getD j 0).testBit i||(ops.getD i default).apart ops (ops.getD j default) then a |||(1 <<< j) else a) 0
theorem zLR(ops:Array Oper)(ams:List Nat)(i k:Nat):(zIY ops ams i).testBit k=true→k<ops.size∧(k=i∨(ams.getD k 0).testBit i=true∨(ops.getD i default).apart ops (ops.getD k default)=true):=by
 have key:∀(l:List Nat) (a:Nat),(l.foldl (fun a j=>if j==i||(ams.getD j 0).testBit i||(ops.getD i default).apart ops (ops.getD j default) then a |||(1 <<< j) else a) a).testBit k=true→a.testBit k=true∨(k∈l∧(k=i∨(ams.getD k 0).testBit i=true∨(ops.getD i default).apart ops (ops.getD k default)=true)):=by
  intro l
  induction l with
  |nil=>intro a h;exact .inl h
  |cons j l ih=>
   intro a h;rw[List.foldl_cons] at h
   rcases ih _ h with h1|⟨h1,h2⟩
   · split at h1
     · rename_i hc
       rw[Nat.testBit_or,oA] at h1;simp only[Bool.or_eq_true,decide_eq_true_eq] at h1
       rcases h1 with h1|h1
       · exact .inl h1
       · subst h1
         simp only[Bool.or_eq_true,beq_iff_eq,or_assoc] at hc;exact .inr ⟨.head _,hc⟩
     · exact .inl h1
   · exact .inr ⟨.tail _ h1,h2⟩
 intro h
 rcases key _ _ h with h1|⟨h1,h2⟩
 · simp at h1
 · exact⟨List.mem_range.1 h1,h2⟩
def eM(ams:List Nat)(x i:Nat):Bool:=!x.testBit i&&(ams.getD i 0&&&x==ams.getD i 0)
def sH(ams:List Nat)(n x:Nat):List Nat:=(List.range n).filter (eM ams x)
def bV(x:Nat)(l:List Nat):Nat:=l.foldl (fun x i=>x |||(1 <<< i)) x
def nI(ops:Array Oper)(n m:Nat)(ams frs:List Nat):List (Nat×Kd)→Nat→List Nat→Bool
  |[],x,pend=>pend.isEmpty&&(sH ams n x).isEmpty
  |(i,.q)::r,x,pend=>decide (i<m)&&decide (i<n)&&eM ams x i&&((frs.getD i 0 |||x)&&&(1 <<< n-1)==1 <<< n-1)&&!pend.contains i&&
     ((List.range n).all fun k=>decide (k<m)||(ams.getD k 0).testBit i||zA1 ops k i)&&nI ops n m ams frs r (x |||(1 <<< i)) pend
  |(i,.a)::r,x,pend=>pend.contains i&&(sH ams n (bV x (pend.filter (· != i)))==[i])&&nI ops n m ams frs r (x |||(1 <<< i)) (pend.filter (· != i))
  |(i,.c)::r,x,pend=>decide (i<m)&&!pend.contains i&&(sH ams n (bV x pend)==[i])&&nI ops n m ams frs r (x |||(1 <<< i)) pend
  |(i,.b j)::r,x,pend=>decide (i<m)&&decide (j<m)&&!pend.contains i&&!pend.contains j&&decide (i≠j)&&(sH ams n (bV x pend)==[i,j])&&
     (sH ams n (bV (x |||(1 <<< i)) pend)==[j])&&(sH ams n (bV (x |||(1 <<< j)) pend)==[i])&&nI ops n m ams frs r ((x |||(1 <<< i)) |||(1 <<< j)) pend
  |(i,.t)::r,x,pend=>pend.isEmpty&&(r.all fun y=>match y.2 with| .t=>true|_=>false)&&decide (m≤i)&&(sH ams n x==[i])&&nI ops n m ams frs r (x |||(1 <<< i)) []
  |(i,.p)::r,x,pend=>decide (i<m)&&decide (i<n)&&eM ams x i&&((frs.getD i 0 |||x)&&&(1 <<< n-1)==1 <<< n-1)&&!pend.contains i&&nI ops n m ams frs r (x |||(1 <<< i)) pend
  |(i,.d i2 j)::r,x,pend=>(decide (i<m)&&decide (i2<m)&&decide (j<m)&&!pend.contains i&&!pend.contains i2&&!pend.contains j)&&(decide (i≠i2)&&decide (i≠j)&&decide (i2≠j))&&
     (sH ams n (bV x pend)==[i,j])&&(sH ams n (bV (x |||(1 <<< i)) pend)==[i2,j])&&(sH ams n (bV (x |||(1 <<< j)) pend)==[i])&&
     (sH ams n (bV ((x |||(1 <<< i)) |||(1 <<< i2)) pend)==[j])&&(sH ams n (bV ((x |||(1 <<< i)) |||(1 <<< j)) pend)==[i2])&&
     nI ops n m ams frs r (((x |||(1 <<< i)) |||(1 <<< i2)) |||(1 <<< j)) pend
  |(_,.m _ _)::_,_,_=>false
  |(_,.x _ _ _)::_,_,_=>false
section
variable {ops:Array Oper}{ams frs:List Nat}
def eX(ops:Array Oper)(b:Array Bool)(x:Nat):Prop:=b.size=ops.size∧∀i,i<ops.size→b[i]?=some (x.testBit i)
theorem eX.getF{b:Array Bool}{x:Nat}(h:eX ops b x){i:Nat}(hi:i<ops.size)(d:Bool):b.getD i d=x.testBit i:=by
 rw[Array.getD_eq_getD_getElem?,h.2 i hi];rfl
theorem eX.set{b:Array Bool}{x:Nat}(h:eX ops b x)(i:Nat):eX ops (b.setIfInBounds i true) (x |||(1 <<< i)):=by
 refine⟨by simpa using h.1,fun k u=>?_⟩;rw[Nat.testBit_or,oA,Array.getElem?_setIfInBounds]
 by_cases e:i=k
 · subst e
   have:i<b.size:=by rw[h.1];exact u
   simp[this]
 · rw[if_neg e,h.2 k u]
   simp[Ne.symm e]
theorem eX.setAll{b:Array Bool}{x:Nat}(h:eX ops b x):∀(l:List Nat),eX ops (setAll b l) (bV x l):=by
 intro l
 induction l generalizing b x with
 |nil=>exact h
 |cons i l ih=>exact ih (h.set i)
theorem eX.start:eX ops (Array.replicate ops.size false) 0:=⟨by simp,fun i hi=>by simp[hi]⟩
def mQ(ops:Array Oper)(ams frs:List Nat):Bool:=(ops.toList.map t8==ams)&&((List.range ops.size).map (zIY ops ams)==frs)
theorem zJR(h:mQ ops ams frs=true){i:Nat}(hi:i<ops.size):ams.getD i 0=t8 (ops.getD i default):=by
 simp only[mQ,Bool.and_eq_true,beq_iff_eq] at h;rw[←h.1,List.getD_eq_getElem?_getD,List.getElem?_map,Array.getElem?_toList,Array.getD_eq_getD_getElem?];simp[hi]
theorem zXI(h:mQ ops ams frs=true){i:Nat}(hi:i<ops.size):frs.getD i 0=zIY ops ams i:=by
 simp only[mQ,Bool.and_eq_true,beq_iff_eq] at h;rw[←h.2,List.getD_eq_getElem?_getD,List.getElem?_map];simp[hi]
theorem zWA(hl:∀o∈ops,∀e∈o.after,e.on<ops.size){i:Nat}(hi:i<ops.size){e:Edge}(he:e∈(ops.getD i default).after):e.on<ops.size:=by
 refine hl _ ?_ e he;rw[Array.getD_eq_getD_getElem?,Array.getElem?_eq_getElem hi];exact Array.getElem_mem hi
theorem zJ7(ht:mQ ops ams frs=true)(hl:∀o∈ops,∀e∈o.after,e.on<ops.size){b:Array Bool}{x i:Nat}(hs:eX ops b x)(hi:i<ops.size):
 eM ams x i=(!b.getD i true&&((ops[i]?).map (·.after.all fun e=>!Region.binds .any e||b.getD e.on false)).getD false):=by
 unfold eM;rw[hs.getF hi,zJR ht hi]
 congr 1
 have D:ops[i]?=some (ops.getD i default):=lZ hi;rw[D];simp only[Option.map_some,Option.getD_some];rw[Bool.eq_iff_iff,beq_iff_eq,Array.all_eq_true_iff_forall_mem];constructor
 · intro h e z
   by_cases C:Region.binds .any e=true
   · have u:=(mK (ops.getD i default) e.on).2 ⟨e,z,C,rfl⟩
     rw[←h,Nat.testBit_and,Bool.and_eq_true] at u;rw[hs.getF (zWA hl hi z),u.2];simp
   · simp[C]
 · intro h
   apply Nat.eq_of_testBit_eq
   intro k;rw[Nat.testBit_and]
   by_cases hk:(t8 (ops.getD i default)).testBit k=true
   · obtain⟨e,z,C,rfl⟩:=(mK _ _).1 hk
     have u:=h e z;rw[C,hs.getF (zWA hl hi z)] at u;simp at u;rw[hk,u];rfl
   · have:(t8 (ops.getD i default)).testBit k=false:=by simpa using hk
     rw[this];rfl
theorem jW(ht:mQ ops ams frs=true)(hl:∀o∈ops,∀e∈o.after,e.on<ops.size){b:Array Bool}{x:Nat}(hs:eX ops b x):Region.ready .any ops b=sH ams ops.size x:=by
 unfold Region.ready sH
 apply List.filter_congr
 intro i hi;exact(zJ7 ht hl hs (List.mem_range.1 hi)).symm
theorem oG(ht:mQ ops ams frs=true)(hl:∀o∈ops,∀e∈o.after,e.on<ops.size){b:Array Bool}{x i:Nat}(hs:eX ops b x)(hi:i<ops.size)(h:eM ams x i=true):(Region.ready .any ops b).contains i=true:=by
 rw[jW ht hl hs];unfold sH;simp[hi,h]
theorem zOM{y n k:Nat}(h:y&&&(1 <<< n-1)=1 <<< n-1)(hk:k<n):y.testBit k=true:=by
 have u:(1 <<< n-1).testBit k=true:=by rw[Nat.one_shiftLeft,Nat.testBit_two_pow_sub_one];simpa using hk
 rw[←h,Nat.testBit_and,Bool.and_eq_true] at u;exact u.1
theorem zMZ(ht:mQ ops ams frs=true){b:Array Bool}{x i:Nat}(hs:eX ops b x)(hi:i<ops.size)(h:(frs.getD i 0 |||x)&&&(1 <<< ops.size-1)=1 <<< ops.size-1):Region.free .any ops b i=true:=by
 unfold Region.free;rw[lZ hi];simp only[List.all_eq_true,List.mem_range];intro j C;have z:=zOM h C;rw[Nat.testBit_or,Bool.or_eq_true,zXI ht hi] at z;rw[lZ C,hs.getF C];simp only[Bool.or_eq_true,beq_iff_eq]
 rcases z with z|z
 · obtain⟨_,u|u|u⟩:=zLR _ _ _ _ z
   · exact .inl (.inl u)
   · rw[zJR ht C] at u
     obtain⟨e,G,H,D⟩:=(mK _ _).1 u;refine .inr (.inl ?_);rw[Array.any_eq_true'];exact⟨e,G,by simp[H,D]⟩
   · exact .inr (.inr u)
 · exact .inl (.inr z)
theorem zPG(ht:mQ ops ams frs=true){k i:Nat}(hk:k<ops.size)(h:(ams.getD k 0).testBit i=true):zA1 ops k i=true:=by
 rw[zJR ht hk] at h;obtain⟨e,z,C,u⟩:=(mK _ _).1 h;unfold zA1;rw[Array.any_eq_true'];refine⟨e,z,?_⟩;rw[C,u];simp[s2]
theorem aM(ht:mQ ops ams frs=true)(hl:∀o∈ops,∀e∈o.after,e.on<ops.size){m:Nat}:∀(ord:List (Nat×Kd)) (b:Array Bool) (x:Nat) (pend:List Nat),eX ops b x→nI ops ops.size m ams frs ord x pend=true→chk ops m ord b pend=true
  |[],b,x,pend,hs,h=>by
   simp only[nI,Bool.and_eq_true] at h;simp only[chk,Bool.and_eq_true,jW ht hl hs];exact h
  |(i,.q)::r,b,x,pend,hs,h=>by
   simp only[nI,Bool.and_eq_true,beq_iff_eq,decide_eq_true_eq] at h;obtain⟨⟨⟨⟨⟨⟨h1,h2⟩,h3⟩,h4⟩,h5⟩,h6⟩,h7⟩:=h;simp only[chk,Bool.and_eq_true,decide_eq_true_eq];refine⟨⟨⟨⟨⟨h1,oG ht hl hs h2 h3⟩,zMZ ht hs h2 h4⟩,h5⟩,?_⟩,aM ht hl r _ _ _ (hs.set i) h7⟩;rw[List.all_eq_true] at h6 ⊢;intro k hk;have:=h6 k hk;simp only[Bool.or_eq_true] at this ⊢
   rcases this with(h8|h8)|h8
   · exact .inl h8
   · exact .inr (zPG ht (List.mem_range.1 hk) h8)
   · exact .inr h8
  |(i,.a)::r,b,x,pend,hs,h=>by
   simp only[nI,Bool.and_eq_true] at h;obtain⟨⟨h1,h2⟩,h3⟩:=h;simp only[chk,Bool.and_eq_true,jW ht hl (hs.setAll _)];exact⟨⟨h1,h2⟩,aM ht hl r _ _ _ (hs.set i) h3⟩
  |(i,.c)::r,b,x,pend,hs,h=>by
   simp only[nI,Bool.and_eq_true] at h;obtain⟨⟨⟨h1,h2⟩,h3⟩,h4⟩:=h;simp only[chk,Bool.and_eq_true,jW ht hl (hs.setAll _)];exact⟨⟨⟨h1,h2⟩,h3⟩,aM ht hl r _ _ _ (hs.set i) h4⟩
  |(i,.b j)::r,b,x,pend,hs,h=>by
   simp only[nI,Bool.and_eq_true] at h;obtain⟨⟨⟨⟨⟨⟨⟨⟨h1,h2⟩,h3⟩,h4⟩,h5⟩,h6⟩,h7⟩,h8⟩,h9⟩:=h;simp only[chk,Bool.and_eq_true,jW ht hl (hs.setAll _),jW ht hl ((hs.set i).setAll _),jW ht hl ((hs.set j).setAll _)];exact⟨⟨⟨⟨⟨⟨⟨⟨h1,h2⟩,h3⟩,h4⟩,h5⟩,h6⟩,h7⟩,h8⟩,aM ht hl r _ _ _ ((hs.set i).set j) h9⟩
  |(i,.t)::r,b,x,pend,hs,h=>by
   simp only[nI,Bool.and_eq_true] at h;obtain⟨⟨⟨⟨h1,h2⟩,h3⟩,h4⟩,h5⟩:=h;simp only[chk,Bool.and_eq_true,jW ht hl hs];exact⟨⟨⟨⟨h1,h2⟩,h3⟩,h4⟩,aM ht hl r _ _ _ (hs.set i) h5⟩
  |(i,.p)::r,b,x,pend,hs,h=>by
   simp only[nI,Bool.and_eq_true,beq_iff_eq,decide_eq_true_eq] at h;obtain⟨⟨⟨⟨⟨h1,h2⟩,h3⟩,h4⟩,h5⟩,h7⟩:=h;simp only[chk,Bool.and_eq_true,decide_eq_true_eq];exact⟨⟨⟨⟨h1,oG ht hl hs h2 h3⟩,zMZ ht hs h2 h4⟩,h5⟩,aM ht hl r _ _ _ (hs.set i) h7⟩
  |(i,.d i2 j)::r,b,x,pend,hs,h=>by
   simp only[nI,Bool.and_eq_true] at h;obtain⟨⟨⟨⟨⟨⟨⟨h1,h2⟩,h3⟩,h4⟩,h5⟩,h6⟩,h7⟩,h8⟩:=h;simp only[chk,Bool.and_eq_true,jW ht hl (hs.setAll _),jW ht hl ((hs.set i).setAll _),jW ht hl ((hs.set j).setAll _),jW ht hl (((hs.set i).set i2).setAll _),jW ht hl (((hs.set i).set j).setAll _)];exact⟨⟨⟨⟨⟨⟨⟨h1,h2⟩,h3⟩,h4⟩,h5⟩,h6⟩,h7⟩,aM ht hl r _ _ _ (((hs.set i).set i2).set j) h8⟩
  |(_,.m _ _)::_,_,_,_,_,h=>by simp[nI] at h
  |(_,.x _ _ _)::_,_,_,_,_,h=>by simp[nI] at h
def zLT(l:List Oper)(m:Nat)(ams frs:List Nat)(al:Als)(ord:List (Nat×Kd)):Bool:=
 Region.noSelect l.toArray&&rI l.toArray al&&(al.all fun x=>decide (x.1<m))&&(l.all fun o=>o.after.all fun e=>decide (e.on<l.length))&&mQ l.toArray ams frs&&nI l.toArray l.length m ams frs ord 0 (al.map (·.1))
theorem zZT{l:List Oper}{m:Nat}{al:Als}{ord:List (Nat×Kd)}(ams frs:List Nat)(h:zLT l m ams frs al ord=true):
 (Region.noSelect l.toArray&&rI l.toArray al&&(al.all fun x=>decide (x.1<m))&&chk l.toArray m ord (Array.replicate l.length false) (al.map (·.1)))=true:=by
 simp only[zLT,Bool.and_eq_true] at h;obtain⟨⟨⟨⟨⟨M,J⟩,I⟩,H⟩,G⟩,D⟩:=h;simp only[Bool.and_eq_true];refine⟨⟨⟨M,J⟩,I⟩,?_⟩;have z:∀o∈l.toArray,∀e∈o.after,e.on<l.toArray.size:=by
  intro o u e C;have:=List.all_eq_true.1 H o (by simpa using u);have:=Array.all_eq_true_iff_forall_mem.1 this e C
  simpa using this
 exact aM G z ord _ 0 _ eX.start D
end
end Bk
namespace Go.Proofs.YtboaboflnckgoaaGreat
open Bk Go Tryz
theorem ty3:TyOk Tryz.prog 3 1 false:=⟨sizeOf3,isAgg3⟩
theorem ty4:TyOk Tryz.prog 4 1 false:=⟨sizeOf4,isAgg4⟩
theorem ty9:TyOk Tryz.prog 9 1 false:=⟨sizeOf9,isAgg9⟩
theorem yB:TyOk Tryz.prog 26 3 true:=⟨sizeOf26,isAgg26⟩
theorem fO:TyOk Tryz.prog 32 1 false:=⟨sizeOf32,isAgg32⟩
theorem zG7:TyOk Tryz.prog 34 6 true:=⟨sizeOf34,isAgg34⟩
theorem uR:TyOk Tryz.prog 46 1 false:=⟨sizeOf46,isAgg46⟩
theorem tM:TyOk Tryz.prog 47 1 false:=⟨sizeOf47,isAgg47⟩
theorem yAF:TyOk Tryz.prog 48 1 false:=⟨sizeOf48,isAgg48⟩
theorem kF:TyOk Tryz.prog 50 3 true:=⟨sizeOf50,isAgg50⟩
theorem zU:TyOk Tryz.prog 53 9 true:=⟨sizeOf53,isAgg53⟩
theorem yAE:TyOk Tryz.prog 73 18 true:=⟨sizeOf73,isAgg73⟩
theorem zG6:TyOk Tryz.prog 80 12 true:=⟨sizeOf80,isAgg80⟩
theorem cJ:TyOk Tryz.prog 81 1 false:=⟨sizeOf81,isAgg81⟩
theorem fR:TyOk Tryz.prog 83 14 true:=⟨sizeOf83,isAgg83⟩
theorem pC:TyOk Tryz.prog 108 27 true:=⟨sizeOf108,isAgg108⟩
theorem yAI:TyOk Tryz.prog 116 2 true:=⟨sizeOf116,isAgg116⟩
theorem yAH:TyOk Tryz.prog 117 12 true:=⟨sizeOf117,isAgg117⟩
theorem iA:TyOk Tryz.prog 193 5 true:=⟨sizeOf193,isAgg193⟩
theorem yAG:TyOk Tryz.prog 200 5 true:=⟨sizeOf200,isAgg200⟩
end Go.Proofs.YtboaboflnckgoaaGreat
namespace Bk
set_option linter.unusedVariables false
set_option linter.unusedSimpArgs false
open Go Go.RowKit
section
variable {P:Program}{n:Nat}{w0:World}{h0:Mem}{e:List (Nat×Value)}{h:Mem}{ds:Option Tmp}{ty:TypeId}{ps:String}{af:Array Edge}{gd:Option (Nat×Bool)}{α:Type}
theorem zKD{ρ:Rp α}{xs:List α}{v:Value}{t E:TypeId}{x lo:Operand}{p:Int}(i:Nat)(ht:P.underlying t=some (.slice E))(hsz:∀w,(Go.sizeOf E).run P w=.ok ρ.n w)(hx:zJ e x=some v)(hl:zJ e lo=some (vI p))(r:(rpS ρ).Is h v xs)
    (hp:p=(i:Int))(hi:i≤xs.length):OpX P n w0 h0 ⟨ds,.slice t x (some lo) none none,ty,ps,af,gd⟩ e [] h (fun u=>(rpS ρ).Is h u (xs.drop i)):=by
 obtain⟨cs,s,C⟩:=zN7 r;refine zQX (fun L' h'=>qF i ht hsz hx hl s.shape hp hi) ?_;have D:=s.sub hi (Nat.le_refl _);have z:=C.len;rw[List.take_of_length_le (by rw[List.length_drop,z,←Nat.sub_mul];exact Nat.le_refl _)] at D;exact zVH (by rw[List.length_drop];exact D) (C.drop i)
end
end Bk
namespace Bk
set_option linter.unusedVariables false
set_option linter.unusedSimpArgs false
open Go Go.RowKit
def ByB(bs:List Nat):Prop:=∀x∈bs,x<256
theorem ByB.nil:ByB []:=fun x hx=>by cases hx
theorem ByB.app{a b:List Nat}(ha:ByB a)(hb:ByB b):ByB (a++b):=fun x hx=>(List.mem_append.1 hx).elim (ha x) (hb x)
theorem zNC(n:Nat):ByB (txt n):=zXE n
theorem zFV(a b:List Nat):uT a++uT b=uT (a++b):=by
 apply ByteArray.ext
 simp[uT]
theorem zEJ{a b:List Nat}(ha:ByB a)(hb:ByB b):uT a=uT b↔a=b:=
 ⟨fun h=>by rw[←zFK ha,←zFK hb,h],fun h=>by rw[h]⟩
section
variable {P:Program}{n:Nat}{w0:World}{h0:Mem}{e:List (Nat×Value)}{L:List Res}{h:Mem}
variable {ds:Option Tmp}{ty:TypeId}{ps:String}{af:Array Edge}{gd:Option (Nat×Bool)}
theorem vH{pa pb:List Nat}{t yt:TypeId}{x y:Operand}(hx:zJ e x=some (.string (uT pa)))(hy:zJ e y=some (.string (uT pb)))(hlen:pa.length+pb.length≤9223372036854775807):
 OpV P n w0 h0 ⟨ds,.binOp .add t x y yt,ty,ps,af,gd⟩ e L h (.string (uT (pa++pb))):=by
 intro a w u S;have G:=Us.str_size (xs:=pa);have D:=Us.str_size (xs:=pb);have C:¬(((uT pa).size+(uT pb).size:Nat):Int)>IntKind.i64.max:=by
  have:IntKind.i64.max=9223372036854775807:=rfl;rw[this];omega
 have z:(Op.stringOp .add (uT pa) (uT pb)).run P w=.ok (.string (uT (pa++pb))) w:=by
  simp only[Op.stringOp];rw[if_neg C,zFV]
  rfl
 simp only[execOp,u.eval hx,u.eval hy];simp[eqGuard,binOp,z]
theorem lQ{pa pb:List Nat}{t yt:TypeId}{x y:Operand}(ha:ByB pa)(hb:ByB pb)(hx:zJ e x=some (.string (uT pa)))(hy:zJ e y=some (.string (uT pb))):OpV P n w0 h0 ⟨ds,.binOp .eql t x y yt,ty,ps,af,gd⟩ e L h (vB (pa=pb)):=by
 have:=zKJ (P:=P) (n:=n) (w0:=w0) (h0:=h0) (L:=L) (h:=h) (ds:=ds) (ty:=ty) (ps:=ps) (af:=af) (gd:=gd) (t:=t) (yt:=yt) hx hy;rw[fL (zEJ ha hb)] at this;exact this
theorem zQY{pa pb:List Nat}{t yt:TypeId}{x y:Operand}(ha:ByB pa)(hb:ByB pb)(hx:zJ e x=some (.string (uT pa)))(hy:zJ e y=some (.string (uT pb))):OpV P n w0 h0 ⟨ds,.binOp .neq t x y yt,ty,ps,af,gd⟩ e L h (vB (pa≠pb)):=by
 have C:((uT pa).toList==(uT pb).toList)=@decide (uT pa=uT pb) (Classical.propDecidable _):=by
  rw[Bool.eq_iff_iff];simp only[beq_iff_eq,decide_eq_true_eq];exact⟨fun hh=>by
   have z:(uT pa).data.toList=(uT pb).data.toList:=by
    rwa [ByteArray.toList_eq,ByteArray.toList_eq] at hh
   exact ByteArray.ext (Array.toList_inj.1 z),fun hh=>by rw[hh]⟩
 rw[←fL (not_congr (zEJ ha hb))];intro a w u S;simp only[execOp,u.eval hx,u.eval hy,binOp,vB];simp[eqGuard,Op.stringOp,C]
end
end Bk
namespace Bk
set_option linter.unusedVariables false
set_option linter.unusedSimpArgs false
open Go Go.RowKit
open Classical
noncomputable def jF(q:Rat):List Nat:=(if q.num<0 then[45] else[])++txt q.num.natAbs++(if xU q.den=0 then[] else[47]++txt (xU q.den))
theorem zSW(q:Rat):ByB (jF q):=by
 unfold jF;refine ByB.app (ByB.app ?_ (zNC _)) ?_
 · split
   · unfold ByB;decide
   · exact ByB.nil
 · split
   · exact ByB.nil
   · exact ByB.app (by unfold ByB;decide) (zNC _)
theorem zB5(q:Rat):(jF q).length≤20*lq q+4:=by
 unfold jF;have I:=dR q.num.natAbs;have H:=dR (xU q.den);have G:=wF q;have u:=wC q;have D:(if q.num<0 then[45] else([]:List Nat)).length≤1:=by split<;>simp
 have C:(if xU q.den=0 then[] else[47]++txt (xU q.den)).length≤1+(txt (xU q.den)).length:=by split<;>simp<;>omega
 rw[lAz,lAz];have z:(zB (xU q.den)).length≤lq q:=u;omega
theorem pA{q:Rat}:(0:Int)<↑(zB (xU q.den)).length↔¬xU q.den=0:=by
 have:=yM (n:=xU q.den);omega
theorem zTQ{q:Rat}(h1:q.num<0)(h2:¬(0:Int)<↑(zB (xU q.den)).length):[45]++txt q.num.natAbs=jF q:=by
 unfold jF;rw[if_pos h1,if_pos (Classical.not_not.1 fun e=>h2 (pA.2 e)),List.append_nil]
theorem zXF{q:Rat}(h1:q.num<0)(h2:(0:Int)<↑(zB (xU q.den)).length):[45]++txt q.num.natAbs++([47]++txt (xU q.den))=jF q:=by
 unfold jF;rw[if_pos h1,if_neg (pA.1 h2)]
theorem zTS{q:Rat}(h1:¬q.num<0)(h2:¬(0:Int)<↑(zB (xU q.den)).length):txt q.num.natAbs=jF q:=by
 unfold jF;rw[if_neg h1,if_pos (Classical.not_not.1 fun e=>h2 (pA.2 e)),List.append_nil,List.nil_append]
theorem zTR{q:Rat}(h1:¬q.num<0)(h2:(0:Int)<↑(zB (xU q.den)).length):txt q.num.natAbs++([47]++txt (xU q.den))=jF q:=by
 unfold jF;rw[if_neg h1,if_neg (pA.1 h2),List.nil_append]
def cF:List Nat→Nat
  |[]=>0
  |b::bs=>if 48≤b∧b≤57 then cF bs+1 else 0
noncomputable def exU(s:List Nat):List Nat:=if s.drop 1≠[]∧((s.drop 1).getD 0 0=43∨(s.drop 1).getD 0 0=45) then(s.drop 1).drop 1 else s.drop 1
def zZO(s:List Nat):Prop:=s.drop 1≠[]∧(s.drop 1).getD 0 0=45
def yBM(s:List Nat):Prop:=(s.getD 0 0=101∨s.getD 0 0=69)∧exU s≠[]∧(exU s).length≤3∧cF (exU s)=(exU s).length
noncomputable def exN(s:List Nat):Nat:=if yBM s then hor (exU s) else 0
noncomputable def zZK(s:Prop)(n d:Nat):Int×Rat:=if(2048:Int)<yBU (mkRat (sg s n) d) then(2,0) else(0,mkRat (sg s n) d)
noncomputable def zZL(s:Prop)(n d:Nat)(r:List Nat):Int×Rat:=
 if r=[] then zZK s n d else if yBM r then(if zZO r then zZK s n (d*10^exN r) else zZK s (n*10^exN r) d) else(4,0)
def yAP(r:List Nat):Prop:=r≠[]∧r.getD 0 0=47
def dot(r:List Nat):Prop:=r≠[]∧r.getD 0 0=46
noncomputable def fin2(s:Prop)(bs:List Nat):Int×Rat:=
 if cF bs=0 then(4,0) else
 if yAP (bs.drop (cF bs)) then
  (if(bs.drop (cF bs)).drop 1=[]∨cF ((bs.drop (cF bs)).drop 1)≠((bs.drop (cF bs)).drop 1).length then(4,0) else if hor ((bs.drop (cF bs)).drop 1)=0 then(3,0) else zZL s (hor (bs.take (cF bs))) (hor ((bs.drop (cF bs)).drop 1)) [])
 else if dot (bs.drop (cF bs)) then
  (if cF ((bs.drop (cF bs)).drop 1)=0 then(4,0) else zZL s (hor (bs.take (cF bs)++((bs.drop (cF bs)).drop 1).take (cF ((bs.drop (cF bs)).drop 1)))) (10^cF ((bs.drop (cF bs)).drop 1)) ((bs.drop (cF bs)).drop (cF ((bs.drop (cF bs)).drop 1)+1)))
 else zZL s (hor (bs.take (cF bs))) 1 (bs.drop (cF bs))
def zQW(bs:List Nat):Prop:=(0:Int)<↑bs.length∧bs.getD 0 0=45
noncomputable def zUS(bs:List Nat):List Nat:=if zQW bs then bs.drop 1 else bs
noncomputable def parQ(bs:List Nat):Int×Rat:=if 4096<bs.length then(2,0) else fin2 (zQW bs) (zUS bs)
end Bk
namespace Bk
set_option linter.unusedVariables false
set_option linter.unusedSimpArgs false
open Go Go.RowKit
open Classical
theorem zTP{n:Nat}(h0:n≠0)(h:n<10):txt n=[48+n]:=by
 unfold txt;rw[if_neg h0,zJB h0,show n/10=0 by omega,zFJ,Nat.mod_eq_of_lt h];rfl
end Bk
namespace Bk
set_option linter.unusedVariables false
set_option linter.unusedSimpArgs false
open Go Go.RowKit
open Classical
theorem cK(q:Rat):xJ q=if q=0 then 0 else if q<0 then -1 else 1:=by unfold xJ;simp only[oS]
theorem zST(a b:Rat):wH a b=xJ (a-b):=by rw[cK];unfold wH;grind
theorem zAK(a b:Rat):a<b∨a=b∨b<a:=by grind
theorem zSU(a b c:Rat):wH (a*c) (b*c)=wH a b*xJ c:=by
 rw[cK]
 by_cases h0:c=0
 · subst h0
   have:wH (a*0) (b*0)=0:=bC.2 (by grind);rw[this,if_pos rfl,Int.mul_zero]
 · rw[if_neg h0]
   by_cases hc:c<0
   · rw[if_pos hc]
     rcases zAK a b with h|h|h
     · have z:b*c<a*c:=by
        have:=Rat.mul_lt_mul_of_pos_right h (c:=-c) (by grind);grind
       unfold wH;grind
     · subst h;unfold wH;simp
     · have z:a*c<b*c:=by
        have:=Rat.mul_lt_mul_of_pos_right h (c:=-c) (by grind);grind
       unfold wH;grind
   · rw[if_neg hc]
     have u:0<c:=by grind
     rcases zAK a b with h|h|h
     · have z:=Rat.mul_lt_mul_of_pos_right h u
       unfold wH;grind
     · subst h;unfold wH;simp
     · have z:=Rat.mul_lt_mul_of_pos_right h u
       unfold wH;grind
theorem eR{x y:Int}(hx:-1≤x∧x≤1)(hy:-1≤y∧y≤1):-1≤x*y∧x*y≤1:=by
 have:x= -1∨x=0∨x=1:=by omega
 rcases this with h|h|h<;>subst h<;>omega
end Bk
namespace Bk
set_option linter.unusedVariables false
set_option linter.unusedSimpArgs false
open Go Go.RowKit
open Classical
theorem dG{a b:Rat}:wH a b≤0↔a≤b:=by
 have h:=oZ (a:=a) (b:=b);constructor
 · intro u
   refine Rat.not_lt.1 fun e=>?_;have:=h.2 e;omega
 · intro u
   have:¬0<wH a b:=fun e=>Rat.not_lt.2 u (h.1 e);omega
theorem zLJ(a b:Rat):a≤b∨b≤a:=by grind
theorem zE5(a:Rat):bZ a a=a:=by unfold bZ;split<;>rfl
theorem zE6(a:Rat):sJ a a=a:=by unfold sJ;split<;>rfl
theorem zU7{a b:Rat}(h:a≤b):sJ a b=b:=by
 unfold sJ
 by_cases h1:a<b
 · rw[if_pos h1]
 · rw[if_neg h1];grind
def zVL(a b r:Rat):Prop:=a≤r∧r≤b
noncomputable def zWB(a b c d:Rat):Rat:=bZ (bZ (bZ (a*c) (a*d)) (b*c)) (b*d)
noncomputable def zWC(a b c d:Rat):Rat:=sJ (sJ (sJ (a*c) (a*d)) (b*c)) (b*d)
noncomputable def zIU(a:Rat):Rat:=if a=0 then 0 else((1:Int):Rat)/a
noncomputable def yAM(a b:Rat):Rat:=if zVL a b 0 then 0 else bZ (a*a) (b*b)
noncomputable def yAN(a b:Rat):Rat:=sJ (a*a) (b*b)
theorem zIJ{a b c:Rat}(h:a≤b)(hc:0≤c):a*c≤b*c:=Rat.mul_le_mul_of_nonneg_right h hc
theorem s5(x:Rat):0≤x*x:=by
 rcases zLJ 0 x with h|h
 · have:=zIJ h h;grind
 · have:=zIJ (a:=0) (b:=-x) (c:=-x) (by grind) (by grind);grind
noncomputable def yAY(a b c d:Rat):Rat:=if zVL c d 0 then 0 else zWB a b (bZ (zIU c) (zIU d)) (sJ (zIU c) (zIU d))
noncomputable def yAZ(a b c d:Rat):Rat:=if zVL c d 0 then 0 else zWC a b (bZ (zIU c) (zIU d)) (sJ (zIU c) (zIU d))
noncomputable def quoE(c d:Rat):Int:=if zVL c d 0 then 3 else 0
end Bk
namespace Bk
set_option linter.unusedVariables false
set_option linter.unusedSimpArgs false
open Go Go.RowKit
open Classical
theorem s6(n:Nat):∃m,m*m≤n∧n<(m+1)*(m+1):=by
 induction n with
 |zero=>exact⟨0,by decide,by decide⟩
 |succ n ih=>
  obtain⟨m,h1,h2⟩:=ih
  by_cases h:(m+1)*(m+1)≤n+1
  · refine⟨m+1,h,?_⟩
    have:(m+1)*(m+1)<(m+1+1)*(m+1+1):=Nat.mul_self_lt_mul_self (by omega);omega
  · exact⟨m,by omega,by omega⟩
noncomputable def sqN(n:Nat):Nat:=Classical.choose (s6 n)
theorem iO(n:Nat):sqN n*sqN n≤n:=(Classical.choose_spec (s6 n)).1
theorem zPT(n:Nat):n<(sqN n+1)*(sqN n+1):=(Classical.choose_spec (s6 n)).2
theorem zBR{a b:Nat}(h:a≤b):a*a≤b*b:=Nat.mul_le_mul h h
theorem zLK{n m:Nat}:m≤sqN n↔m*m≤n:=by
 constructor
 · intro h
   exact Nat.le_trans (zBR h) (iO n)
 · intro h
   refine Classical.byContradiction fun e=>?_;have z:=zBR (show sqN n+1≤m by omega);have u:=zPT n;omega
theorem zJU{n m:Nat}(h1:m*m≤n)(h2:n<(m+1)*(m+1)):sqN n=m:=by
 have z:=zLK.2 h1;have u:¬m+1≤sqN n:=fun e=>by have:=zLK.1 e;omega
 omega
theorem zB9(n:Nat):sqN n≤n:=by
 rcases Nat.eq_zero_or_pos (sqN n) with h|h
 · omega
 · have z:=iO n
   have u:=Nat.mul_le_mul_left (sqN n) (show 1≤sqN n from h);omega
theorem zOK{n x:Nat}(hx:0<x):sqN n≤(x+n/x)/2:=by
 refine Classical.byContradiction fun e=>?_;have G:=iO n;generalize sqN n=s at *;have O:x+n/x+1≤2*s:=by omega
 have z:=Nat.lt_mul_div_succ n hx;obtain⟨t,D⟩:∃t,n/x+1+x+t=2*s:=⟨2*s-(n/x+1+x),by omega⟩;have M:n<x*(n/x+1):=z;generalize n/x=q at *
 -- x (q + 1) <= x (2 s - x) <= s s
 have u:(x:Int)*((q:Int)+1)≤(s:Int)*s:=by
  have C:(q:Int)+1=2*s-x-t:=by omega
  rw[C];have J:0≤((s:Int)-x)*((s:Int)-x):=by
   rcases Int.le_total 0 ((s:Int)-x) with h|h
   · exact Int.mul_nonneg h h
   · exact Int.mul_nonneg_of_nonpos_of_nonpos h h
  have I:0≤(x:Int)*t:=Int.mul_nonneg (by omega) (by omega);grind
 have H:((x*(q+1):Nat):Int)≤((s*s:Nat):Int):=by rw[Int.natCast_mul,Int.natCast_mul,Int.natCast_add];exact u
 omega
theorem zIF{n x:Nat}(hx:0<x)(h:sqN n≤x)(hs:x≤(x+n/x)/2):x=sqN n:=by
 have z:x≤n/x:=by omega
 have u:x*x≤n:=Nat.le_trans (Nat.mul_le_mul_left x z) (Nat.mul_div_le n x);have:=zLK.2 u;omega
theorem zGG(n:Nat):sqN n≤2^((xZ n+1)/2):=by
 refine Classical.byContradiction fun e=>?_;have u:=zBR (show 2^((xZ n+1)/2)≤sqN n by omega);have D:=iO n;have C:=cQ n;rw[←Nat.pow_add] at u;have z:2^xZ n≤2^((xZ n+1)/2+(xZ n+1)/2):=Nat.pow_le_pow_right (by omega) (by omega);omega
end Bk
namespace Bk
set_option linter.unusedVariables false
set_option linter.unusedSimpArgs false
open Go Go.RowKit
open Classical
theorem reb{h:Mem}{v:Value}{a b:Rat}{k l:Nat}(r:(rpQ k).Is h v a)(e:a=b)(hl:lq b≤l):(rpQ l).Is h v b:=by
 subst e;exact mU (of_q r).1 hl
theorem zUG{h:Mem}{cs:List Value}{a b:Rat}{k l:Nat}(r:(rpQ k).R h cs a)(e:a=b)(hl:lq b≤l):(rpQ l).R h cs b:=by
 subst e;exact⟨r.1,hl⟩
noncomputable def ovQ(a K:Nat):Rat:=(a:Rat)/((2^K:Nat):Rat)
theorem zF3(K:Nat):(0:Rat)<((2^K:Nat):Rat):=by
 have:(0:Rat)=((0:Nat):Rat):=rfl;rw[this,Rat.natCast_lt_natCast];exact Nat.pow_pos (by omega)
theorem yA5(K:Nat):((2^K:Nat):Rat)≠0:=by have:=zF3 K;grind
theorem zLE(a b:Nat):lq ((a:Rat)/(b:Rat))≤max (zB a).length (zB b).length+1:=by
 have u:=zMS False [] [];rw[show(a:Rat)/(b:Rat)=mkRat (sg False a) b by
  rw[aY id,Rat.mkRat_eq_div];rfl]
 exact mN (by omega) (by omega) (by omega)
theorem zF4{K:Nat}(h:K≤4096):(zB (2^K)).length≤129:=by
 have:=zUR (k:=K) h;omega
theorem zWJ{a K m:Nat}(hK:K≤4096)(ha:(zB a).length≤m):lq (ovQ a K)≤max m 129+1:=by
 have z:=zLE a (2^K);have u:=zF4 hK;unfold ovQ;omega
theorem zBT(K:Nat):ovQ 0 K=0:=by
 unfold ovQ;have:((0:Nat):Rat)=0:=rfl;rw[this];grind
def flN(q:Rat)(K:Nat):Nat:=q.num.natAbs*2^K*2^K/q.den
noncomputable def qE(q:Rat)(k:Int):Rat:=ovQ (sqN (flN q (kN k))) (kN k)
theorem bN{x y c:Rat}(hc:0<c):x≤y↔x*c≤y*c:=by
 constructor
 · intro h;exact Rat.mul_le_mul_of_nonneg_right h (by grind)
 · intro h
   refine Rat.not_lt.1 fun e=>?_;have:=Rat.mul_lt_mul_of_pos_right e hc;grind
theorem zGY(q:Rat):(0:Rat)<(q.den:Rat):=by
 have:(0:Rat)=((0:Nat):Rat):=rfl;rw[this,Rat.natCast_lt_natCast];exact Nat.pos_of_ne_zero q.den_nz
theorem num_nonneg{q:Rat}(h:0≤q):(q.num.natAbs:Int)=q.num:=Int.natAbs_of_nonneg (Rat.num_nonneg.2 h)
theorem zML{q:Rat}(h:0≤q):q*(q.den:Rat)=(q.num.natAbs:Rat):=by
 have z:q*(q.den:Rat)=(q.num:Rat):=by
  have u:=Rat.divInt_eq_div q.num q.den;rw[Rat.num_divInt_den] at u;replace u:(q.num:Rat)/(q.den:Rat)=q:=u.symm;have C:=zGY q;generalize (q.num:Rat)=x at *;generalize (q.den:Rat)=y at *;grind
 rw[z,←num_nonneg h];rfl
theorem zHX{q:Rat}(hq:0≤q)(a K:Nat):ovQ a K*ovQ a K≤q↔a*a≤flN q K:=by
 have u:=zF3 K;have C:=zGY q;have z:=zML hq;have D:(0:Rat)<((2^K:Nat):Rat)*((2^K:Nat):Rat)*(q.den:Rat):=Rat.mul_pos (Rat.mul_pos u u) C;rw[bN D];have H:ovQ a K*ovQ a K*(((2^K:Nat):Rat)*((2^K:Nat):Rat)*(q.den:Rat))=((a*a*q.den:Nat):Rat):=by
  rw[Rat.natCast_mul,Rat.natCast_mul];unfold ovQ;generalize ((2^K:Nat):Rat)=P at *;grind
 have G:q*(((2^K:Nat):Rat)*((2^K:Nat):Rat)*(q.den:Rat))=((q.num.natAbs*2^K*2^K:Nat):Rat):=by
  rw[Rat.natCast_mul,Rat.natCast_mul,←z];grind
 rw[H,G,Rat.natCast_le_natCast];unfold flN;rw[Nat.le_div_iff_mul_le (Nat.pos_of_ne_zero q.den_nz)]
theorem zQ1{q:Rat}(hq:0≤q)(a K:Nat):q<ovQ a K*ovQ a K↔flN q K<a*a:=by
 have:=zHX hq a K;constructor
 · intro h
   refine Nat.lt_of_not_le fun e=>?_;have:=this.2 e;grind
 · intro h
   refine Rat.not_le.1 fun e=>?_;have:=this.1 e;omega
theorem zQ6(a b K:Nat):ovQ a K+ovQ b K=ovQ (a+b) K:=by
 unfold ovQ;rw[Rat.natCast_add];have:=yA5 K;grind
theorem zV9{a b K:Nat}:ovQ a K≤ovQ b K↔a≤b:=by
 have u:=zF3 K;rw[bN u,←Rat.natCast_le_natCast (a:=a)];unfold ovQ;have e:∀x:Rat,x/((2^K:Nat):Rat)*((2^K:Nat):Rat)=x:=fun x=>by grind
 rw[e,e]
def zD2(q:Rat)(K:Nat):Nat:=(q.num.natAbs/q.den+1)*2^K
theorem zXG(q:Rat)(K:Nat):flN q K<zD2 q K*zD2 q K:=by
 have C:=Nat.pos_of_ne_zero q.den_nz;have u:=Nat.lt_mul_div_succ q.num.natAbs C;rw[Nat.mul_comm] at u;unfold flN zD2;rw[Nat.div_lt_iff_lt_mul C];generalize q.num.natAbs/q.den+1=N at *;generalize q.num.natAbs=X at *;generalize q.den=D at *;have z:0<2^K:=Nat.pow_pos (by omega);generalize 2^K=P at *;have G:1≤N:=by
  rcases Nat.eq_zero_or_pos N with h|h
  · rw[h] at u;omega
  · exact h
 have I:X*P*P<N*D*P*P:=Nat.mul_lt_mul_of_pos_right (Nat.mul_lt_mul_of_pos_right u z) z;have H:N*D*P*P≤N*(N*D*P*P):=Nat.le_mul_of_pos_left _ G;have e:N*P*(N*P)*D=N*(N*D*P*P):=by grind
 omega
theorem zFT{q:Rat}{k:Nat}(h:lq q≤k)(K:Nat)(hK:K≤4096):(zB (zD2 q K)).length≤k+131:=by
 unfold zD2;have I:=yE (q.num.natAbs/q.den+1) (2^K);have H:=zF4 hK;have G:=uD (q.num.natAbs/q.den) 1;have D:=zN (Nat.div_le_self q.num.natAbs q.den);have C:=wF q;have z:(zB 1).length=1:=by rw[jO (by omega) (by omega)];rfl
 have u:=dA q;omega
theorem zRZ{q:Rat}{k a:Nat}(h:lq q≤k){K:Nat}(hK:K≤4096)(ha:a≤zD2 q K):lq (ovQ a K)≤k+140:=by
 have z:=zFT h K hK;have u:=zN ha;have C:=zWJ (a:=a) hK (Nat.le_trans u z);omega
theorem oF(q:Rat)(K:Nat):sqN (flN q K)≤zD2 q K:=by
 refine Nat.le_of_not_lt fun e=>?_;have C:=zXG q K;have z:=iO (flN q K);have u:=zBR (Nat.le_of_lt e);omega
theorem zVA{q:Rat}{k:Nat}(h:lq q≤k)(n:Int):lq (qE q n)≤k+140:=zRZ h (by unfold kN;omega) (oF q _)
theorem zHB:sqN 0=0:=by have:=zB9 0;omega
theorem zQH{X:Nat}(h:(↑(xZ X):Int)=0):zB (sqN X)=[]:=by
 have u:X=0:=kT.1 (by omega);rw[u,zHB,yS]
theorem zHE{X:Nat}(h:(zB X).length≤1000):shN 1 ((↑(xZ X)+1)/2)=2^((xZ X+1)/2):=by
 have u:=zDT X;have e:((↑(xZ X)+1)/2:Int)=(((xZ X+1)/2:Nat):Int):=by omega
 rw[e,zFW (by omega) (by omega),Nat.one_mul]
 rfl
theorem zJY(Y:Nat):shN Y (-1)=Y/2:=by
 rw[zCB (by omega)]
 rfl
theorem zJT{X K:Nat}(h:(zB X).length≤K):(zB (2^((xZ X+1)/2))).length≤K+1:=by
 have u:=zDT X;refine Nat.le_trans (zN (Nat.pow_le_pow_right (by omega) (show(xZ X+1)/2≤32*K by omega))) ?_;refine vX (k:=K+1) ?_;rw[show(4294967296:Nat)=2^32 from rfl,←Nat.pow_mul];exact Nat.pow_lt_pow_right (by omega) (by omega)
theorem zNR{X:Nat}(h:(zB X).length≤1000):(zB (2^((xZ X+1)/2))).length≤1001:=zJT h
theorem zFX(X k:Nat)(hk:k≤4096):shN X (k:Int)=X*2^k:=by rw[zFW (by omega) (by omega)];rfl
theorem iQ{q:Rat}{k K:Nat}(h:lq q≤k)(hK:K≤4096):(zB (q.num.natAbs*2^K)).length≤k+129∧(zB (q.num.natAbs*2^K*2^K)).length≤k+258∧(zB (flN q K)).length≤k+258:=by
 have G:=yE q.num.natAbs (2^K);have D:=yE (q.num.natAbs*2^K) (2^K);have C:=zF4 hK;have z:=wF q;have u:=zN (Nat.div_le_self (q.num.natAbs*2^K*2^K) q.den);unfold flN;omega
theorem zMJ(a K:Nat):mkRat (sg False (val (zB a))) (dV (zB (2^K)))=ovQ a K:=by
 have u:2^K≠0:=Nat.ne_of_gt (Nat.pow_pos (by omega));have h0:zB (2^K)≠[]:=fun e=>by
  have:=yM.2 u;rw[e] at this;simp at this
 unfold dV;rw[if_neg h0,zC,zC,aY id,Rat.mkRat_eq_div]
 rfl
def zC5(q:Rat)(K:Nat):Prop:=q.num.natAbs*2^K*2^K%q.den≠0
theorem zQ3{q:Rat}(hq:0≤q)(K:Nat):(zC5 q K∨tD (sqN (flN q K)*sqN (flN q K)) (flN q K)<0)↔qE q=qE q∧ovQ (sqN (flN q K)) K*ovQ (sqN (flN q K)) K<q:=by
 have C:=zF3 K;have I:=zGY q;have H:=zML hq;have J:(0:Rat)<((2^K:Nat):Rat)*((2^K:Nat):Rat)*(q.den:Rat):=Rat.mul_pos (Rat.mul_pos C C) I;have u:q≤ovQ (sqN (flN q K)) K*ovQ (sqN (flN q K)) K↔q.num.natAbs*2^K*2^K≤sqN (flN q K)*sqN (flN q K)*q.den:=by
  rw[bN J];generalize sqN (flN q K)=a;have G:ovQ a K*ovQ a K*(((2^K:Nat):Rat)*((2^K:Nat):Rat)*(q.den:Rat))=((a*a*q.den:Nat):Rat):=by
   rw[Rat.natCast_mul,Rat.natCast_mul];unfold ovQ;generalize ((2^K:Nat):Rat)=P at *;grind
  have D:q*(((2^K:Nat):Rat)*((2^K:Nat):Rat)*(q.den:Rat))=((q.num.natAbs*2^K*2^K:Nat):Rat):=by
   rw[Rat.natCast_mul,Rat.natCast_mul,←H];grind
  rw[G,D,Rat.natCast_le_natCast]
 have M:=iO (flN q K);have z:=Nat.pos_of_ne_zero q.den_nz;have Z:flN q K*q.den+q.num.natAbs*2^K*2^K%q.den=q.num.natAbs*2^K*2^K:=by
  unfold flN;rw[Nat.mul_comm];exact Nat.div_add_mod _ _
 rw[gG];unfold zC5;generalize q.num.natAbs*2^K*2^K=X at *;generalize T:X%q.den=r at *;generalize S:sqN (flN q K)*sqN (flN q K)=s at *;generalize flN q K=F at *;constructor
 · intro h
   refine⟨rfl,Rat.not_le.1 fun e=>?_⟩;have Y:=u.1 e
   rcases h with h|h
   · have:=Nat.mul_le_mul_right q.den M
     omega
   · have U:=Nat.mul_lt_mul_of_pos_right h z
     omega
 · rintro⟨_,h⟩
   refine Classical.byContradiction fun e=>?_;have G:¬r≠0:=fun h=>e (.inl h);have D:¬s<F:=fun h=>e (.inr h);have O:s=F:=by omega
   refine Rat.not_le.2 h (u.2 ?_);rw[O];omega
noncomputable def zJ5(l h:Rat)(k:Int):Rat:=if h<0 then 0 else qE (sJ l 0) k
noncomputable def oE(h:Rat)(k:Int):Rat:=if h<0 then 0 else if qE h k*qE h k<h then qE h k+ovQ 1 (kN k) else qE h k
noncomputable def rtE(h:Rat):Int:=if h<0 then 7 else 0
theorem zSF(K:Nat):flN 0 K=0:=by
 unfold flN;have:(0:Rat).num.natAbs=0:=rfl;rw[this,Nat.zero_mul,Nat.zero_mul,Nat.zero_div]
theorem zJ6(k:Int):qE 0 k=0:=by unfold qE;rw[zSF,zHB,zBT]
noncomputable def loN(l:Rat)(K:Nat):Nat:=if 0<xJ l then sqN (flN l K) else 0
theorem z5{q:Rat}:0<xJ q↔0<q:=by
 rw[cK]
 by_cases h0:q=0
 · rw[if_pos h0,h0]
   constructor
   · intro h;omega
   · intro h;exact absurd h (Rat.lt_irrefl)
 · rw[if_neg h0]
   by_cases h1:q<0
   · rw[if_pos h1]
     constructor
     · intro h;omega
     · intro h;grind
   · rw[if_neg h1]
     constructor
     · intro h;grind
     · intro h;omega
theorem qC{q:Rat}:xJ q<0↔q<0:=by
 rw[cK]
 by_cases h0:q=0
 · rw[if_pos h0,h0]
   constructor
   · intro h;omega
   · intro h;exact absurd h (Rat.lt_irrefl)
 · rw[if_neg h0]
   by_cases h1:q<0
   · rw[if_pos h1];simp[h1]
   · rw[if_neg h1]
     constructor
     · intro h;omega
     · intro h;grind
theorem yBF(l:Rat)(k:Int):ovQ (loN l (kN k)) (kN k)=qE (sJ l 0) k:=by
 unfold loN
 by_cases h:0<xJ l
 · rw[if_pos h]
   have z:=z5.1 h;have u:sJ l 0=l:=by unfold sJ;rw[if_neg (by grind)]
   rw[u];rfl
 · rw[if_neg h,zBT]
   have z:¬0<l:=fun e=>h (z5.2 e);have u:sJ l 0=0:=zU7 (by grind);rw[u,zJ6]
noncomputable def hiN(q:Rat)(K:Nat):Nat:=if zC5 q K∨tD (sqN (flN q K)*sqN (flN q K)) (flN q K)<0 then sqN (flN q K)+1 else sqN (flN q K)
theorem zWO{q:Rat}(h:¬q<0)(k:Int):ovQ (hiN q (kN k)) (kN k)=oE q k:=by
 have h0:0≤q:=by grind
 have u:=zQ3 h0 (kN k);unfold oE hiN;rw[if_neg h]
 by_cases h2:qE q k*qE q k<q
 · rw[if_pos h2,if_pos (u.2 ⟨rfl,h2⟩),←zQ6];rfl
 · rw[if_neg h2,if_neg (fun e=>h2 (u.1 e).2)];rfl
theorem zR3{q:Rat}{k:Nat}(h:lq q≤k)(n:Int):lq (ovQ (hiN q (kN n)) (kN n))≤k+140∧(zB (hiN q (kN n))).length≤k+133:=by
 have u:kN n≤4096:=by unfold kN;omega
 have C:hiN q (kN n)≤zD2 q (kN n)+1:=by
  have:=oF q (kN n);unfold hiN;split<;>omega
 have I:=zN C;have H:=uD (zD2 q (kN n)) 1;have G:=zFT h (kN n) u;have D:(zB 1).length=1:=by rw[jO (by omega) (by omega)];rfl
 have z:(zB (hiN q (kN n))).length≤k+133:=by omega
 exact⟨by have:=zWJ (a:=hiN q (kN n)) u z;omega,z⟩
theorem zYZ{q:Rat}{k:Nat}(h:lq q≤k)(n:Int):lq (ovQ (loN q (kN n)) (kN n))≤k+140∧(zB (loN q (kN n))).length≤k+131:=by
 have u:kN n≤4096:=by unfold kN;omega
 have z:loN q (kN n)≤zD2 q (kN n):=by
  have:=oF q (kN n);unfold loN;split<;>omega
 exact⟨zRZ h u z,Nat.le_trans (zN z) (zFT h _ u)⟩
theorem zIE{n x:Nat}(hx:0<x)(h:sqN n≤x)(e:(x+n/x)/2=0):n=0:=by
 have h0:n/x=0∧x=1:=by generalize n/x=q at *;omega
 obtain⟨u,z⟩:=h0;rw[z,Nat.div_one] at u;exact u
theorem zTX{h:Mem}{v:Value}{s:Rat×Rat}{k l:Nat}(r:(rpP (rpQ k) (rpQ l)).Is h v s):lq s.1≤k∧lq s.2≤l:=by
 obtain⟨cs,⟨a,b,_,r1,r2⟩,_⟩:=r;exact⟨r1.2,r2.2⟩
theorem zT9{h:Rat}{k:Int}(h0:¬h<0)(h1:qE h k*qE h k<h):qE h k+ovQ 1 (kN k)=oE h k:=by unfold oE;rw[if_neg h0,if_pos h1]
theorem zUA{h:Rat}{k:Int}(h0:¬h<0)(h1:¬qE h k*qE h k<h):qE h k=oE h k:=by unfold oE;rw[if_neg h0,if_neg h1]
theorem zU9{q:Rat}{k:Nat}(h:lq q≤k)(h0:¬q<0)(n:Int):lq (oE q n)≤k+140:=by
 rw[←zWO h0];exact(zR3 h n).1
theorem zQJ(X d:Nat):(zB (if xU d=0 then 0 else X%xU d)).length≤(zB X).length:=by
 refine zN ?_
 split
 · omega
 · exact Nat.mod_le _ _
end Bk
namespace Bk
set_option linter.unusedVariables false
set_option linter.unusedSimpArgs false
open Go Go.RowKit
open Classical
abbrev Sp:=Rat×Rat
theorem zMF{h:Mem}{v:Value}{s:Sp}{k l:Nat}(r:(rpP (rpQ k) (rpQ l)).Is h v s):∃a b c d,v=.agg #[vB (s.1.num<0),a,b,vB (s.2.num<0),c,d]∧Us .u32 h a (zB s.1.num.natAbs)∧Us .u32 h b (zB (xU s.1.den))∧Us .u32 h c (zB s.2.num.natAbs)∧Us .u32 h d (zB (xU s.2.den))∧lq s.1≤k∧lq s.2≤l:=by
 obtain⟨cs,⟨_,_,rfl,⟨⟨a,b,rfl,H,G⟩,D⟩,⟨⟨c,d,rfl,C,z⟩,u⟩⟩,rfl⟩:=r;exact⟨a,b,c,d,rfl,H,G,C,z,D,u⟩
theorem zWL{h:Mem}{v:Value}{p q:Rat}{k l:Nat}(r:zG3 h v [p,q])(hp:lq p≤k)(hq:lq q≤l):(rpP (rpQ k) (rpQ l)).Is h v (p,q):=by
 obtain⟨cs,rfl,a,b,_,rfl,D,C,c,d,_,rfl,z,u,rfl⟩:=r;exact⟨_,⟨_,_,rfl,⟨⟨a,b,rfl,D,C⟩,hp⟩,⟨⟨c,d,rfl,z,u⟩,hq⟩⟩,rfl⟩
noncomputable def ofS(a b:Rat):Sp:=(bZ a b,sJ a b)
noncomputable def hullS(a b:Sp):Sp:=(bZ a.1 b.1,sJ a.2 b.2)
def yBZ(a b:Sp):Sp:=(a.1+b.1,a.2+b.2)
def negS(a:Sp):Sp:=(-a.2,-a.1)
def subS(a b:Sp):Sp:=(a.1-b.2,a.2-b.1)
noncomputable def zRO(a b:Sp):Sp:=(zWB a.1 a.2 b.1 b.2,zWC a.1 a.2 b.1 b.2)
noncomputable def sqrS(a:Sp):Sp:=(yAM a.1 a.2,yAN a.1 a.2)
noncomputable def roundS(a:Sp)(n:Int):Sp:=(zWS a.1 n,upQ a.2 n)
noncomputable def quoS(a b:Sp):Sp:=(yAY a.1 a.2 b.1 b.2,yAZ a.1 a.2 b.1 b.2)
noncomputable def meetS(a b:Sp):Sp:=(if bZ a.2 b.2<sJ a.1 b.1 then 0 else sJ a.1 b.1,if bZ a.2 b.2<sJ a.1 b.1 then 0 else bZ a.2 b.2)
noncomputable def rootS(a:Sp)(n:Int):Sp:=(zJ5 a.1 a.2 n,oE a.2 n)
noncomputable def yB2(s:Sp)(n:Int):Rat:=s.1+yA4 n*(s.2-s.1)
noncomputable def ratQ(n d:Int):Rat:=jD (zD9 n 41-20) (zD9 d 8+1)
noncomputable def zWT(a b c d:Sp):Sp:=subS (zRO a d) (zRO b c)
noncomputable def zLA(m:T3 (T3 Sp))(i j:Nat):Sp:=zWT (m.y.at i) (m.y.at j) (m.z.at i) (m.z.at j)
noncomputable def det3S(m:T3 (T3 Sp)):Sp:=yBZ (subS (zRO m.x.x (zLA m 1 2)) (zRO m.x.y (zLA m 0 2))) (zRO m.x.z (zLA m 0 1))
def okM(m:T3 (T3 Sp)):Prop:=∀i j,((m.at i).at j).1≤((m.at i).at j).2
noncomputable def det2L(m:List (List Sp)):Sp:=zWT ((m.getD 0 (List.replicate 2 ((0:Rat),(0:Rat)))).getD 0 ((0:Rat),(0:Rat))) ((m.getD 0 (List.replicate 2 ((0:Rat),(0:Rat)))).getD 1 ((0:Rat),(0:Rat))) ((m.getD 1 (List.replicate 2 ((0:Rat),(0:Rat)))).getD 0 ((0:Rat),(0:Rat))) ((m.getD 1 (List.replicate 2 ((0:Rat),(0:Rat)))).getD 1 ((0:Rat),(0:Rat)))
def detR(n:T3 (T3 Rat)):Rat:=n.x.x*n.y.y*n.z.z-n.x.x*n.y.z*n.z.y+(n.x.y*n.y.z*n.z.x-n.x.y*n.y.x*n.z.z)+(n.x.z*n.y.x*n.z.y-n.x.z*n.y.y*n.z.x)
end Bk
namespace Bk
set_option linter.unusedVariables false
set_option linter.unusedSimpArgs false
open Go Go.RowKit
open Classical
abbrev Pt:=T3 Rat
abbrev P2:=Rat×Rat
def pr(p:Pt)(i j:Nat):P2:=(p.at i,p.at j)
theorem zF0{c:Prop} [Decidable c](a b:Pt)(i j:Nat):pr (if c then a else b) i j=if c then pr a i j else pr b i j:=by split<;>rfl
def cr(u v w:P2):Rat:=(v.1-u.1)*(w.2-u.2)-(v.2-u.2)*(w.1-u.1)
noncomputable def orZ(u v w:P2):Int:=xJ (cr u v w)
def tZ(a b x:Rat):Prop:=(a≤x∧x≤b)∨(x≤a∧b≤x)
def onS(u v p:P2):Prop:=tZ u.1 v.1 p.1∧tZ u.2 v.2 p.2∧cr u v p=0
def jK(a b c d:Rat):Prop:=(a<c∧a<d∧b<c∧b<d)∨(c<a∧d<a∧c<b∧d<b)
def lx(u v:P2):Prop:=u.1<v.1∨(u.1=v.1∧u.2<v.2)
noncomputable def lo2(u v:P2):P2:=if lx v u then v else u
noncomputable def hi2(u v:P2):P2:=if lx v u then u else v
noncomputable def mL(a b c d:P2):Int:=
 if lx (if lx d b then d else b) (if lx a c then c else a) then 0 else if lx (if lx a c then c else a) (if lx d b then d else b) then 3
 else if((if lx a c then c else a)=a∨(if lx a c then c else a)=b)∧((if lx a c then c else a)=c∨(if lx a c then c else a)=d) then 1 else 2
noncomputable def bX(a b c d:P2):Int:=mL (lo2 a b) (hi2 a b) (lo2 c d) (hi2 c d)
noncomputable def gN(a b c d:P2):Int:=
 if jK a.1 b.1 c.1 d.1∨jK a.2 b.2 c.2 d.2 then 0
 else if orZ a b c=0∧orZ a b d=0∧orZ c d a=0∧orZ c d b=0 then bX a b c d
 else if 0<orZ a b c*orZ a b d∨0<orZ c d a*orZ c d b then 0
 else if(orZ a b c=0∨orZ a b d=0)∧(orZ c d a=0∨orZ c d b=0) then 1 else 2
noncomputable def zBC(a b c d:P2):Int:=
 if lx (if lx d b then d else b) (if lx a c then c else a) then 0 else if(if lx a c then c else a)≠(if lx d b then d else b) then 3
 else if((if lx a c then c else a)=a∨(if lx a c then c else a)=b)∧((if lx a c then c else a)=c∨(if lx a c then c else a)=d)∧onS a b (if lx a c then c else a)∧onS c d (if lx a c then c else a) then 1
 else if onS a b (if lx a c then c else a)∧onS c d (if lx a c then c else a) then 2 else 0
noncomputable def eG(a b c d:P2):Int:=if(a=b∧onS c d a)∨(c=d∧onS a b c) then 2 else 0
noncomputable def zFS(a b c d:P2):Int:=
 if orZ a b c=0∧orZ a b d=0∧orZ c d a=0∧orZ c d b=0 then zBC a b c d
 else if a=b∨c=d then eG a b c d
 else if 0<orZ a b c*orZ a b d∨0<orZ c d a*orZ c d b then 0
 else if a=c∨a=d∨b=c∨b=d then 1 else 2
noncomputable def nM(a b c d:P2):Int:=zFS (lo2 a b) (hi2 a b) (lo2 c d) (hi2 c d)
def cr2(ax ay bx by' cx cy:Rat):Rat:=(bx-ax)*(cy-ay)-(by'-ay)*(cx-ax)
theorem zF2{D e u v:Rat}(hD:0<D)(h0:0≤e)(h1:e≤D)(h:D*u=v*e):(0≤v→0≤u∧u≤v)∧(v≤0→v≤u∧u≤0):=by
 constructor
 · intro C
   constructor
   · refine Rat.not_lt.1 fun z=>?_
     have H:=Rat.mul_lt_mul_of_pos_right z hD;have G:=Rat.mul_nonneg C h0;grind
   · refine Rat.not_lt.1 fun z=>?_
     have H:=Rat.mul_lt_mul_of_pos_right z hD;have G:=Rat.mul_le_mul_of_nonneg_right h1 C;grind
 · intro C
   constructor
   · refine Rat.not_lt.1 fun z=>?_
     have H:=Rat.mul_lt_mul_of_pos_right z hD;have G:=Rat.mul_le_mul_of_nonneg_right h1 (c:=-v) (by grind);grind
   · refine Rat.not_lt.1 fun z=>?_
     have H:=Rat.mul_lt_mul_of_pos_right z hD;have G:=Rat.mul_nonneg (a:=-v) (b:=e) (by grind) h0;grind
theorem zIT{a b:Rat}(h:a≤b):a<b∨a=b:=by grind
theorem fY{a b:Rat}(h:a*b=0):a=0∨b=0:=Rat.mul_eq_zero.1 h
def lex(ax ay bx by':Rat):Prop:=ax<bx∨(ax=bx∧ay<by')
theorem zGM{ax ay bx by':Rat}:¬lex bx by' ax ay↔ax<bx∨(ax=bx∧ay≤by'):=by
 unfold lex;grind
theorem zAD{ax ay bx by' px py:Rat}(hs:¬lex bx by' ax ay)(hc:cr2 ax ay bx by' px py=0):
 (¬lex px py ax ay∧¬lex bx by' px py)↔(tZ ax bx px∧tZ ay by' py):=by
 rw[zGM] at hs;rw[zGM,zGM];unfold cr2 at hc;unfold tZ
 rcases hs with hs|⟨hx,hy⟩
 · have H:0<bx-ax:=by grind
   have G:(bx-ax)*(py-ay)=(by'-ay)*(px-ax):=by grind
   constructor
   · rintro⟨J,I⟩
     have D:0≤px-ax:=by grind
     have u:px-ax≤bx-ax:=by grind
     obtain⟨C,z⟩:=zF2 H D u G;refine⟨.inl ⟨by grind,by grind⟩,?_⟩
     rcases zLJ ay by' with h7|h7
     · have:=C (by grind);grind
     · have:=z (by grind);grind
   · rintro⟨J,I⟩
     have D:ax≤px∧px≤bx:=by grind
     constructor
     · rcases zIT D.1 with u|u
       · exact .inl u
       · refine .inr ⟨u,?_⟩
         have C:(bx-ax)*(py-ay)=0:=by grind
         rcases fY C with z|z<;>grind
     · rcases zIT D.2 with u|u
       · exact .inl u
       · refine .inr ⟨u,?_⟩
         have C:(bx-ax)*(py-by')=0:=by grind
         rcases fY C with z|z<;>grind
 · subst hx
   grind
theorem zDV{a b x:Rat}:tZ a b x↔tZ b a x:=by unfold tZ;grind
theorem zI6(ax ay bx by' cx cy:Rat):cr2 bx by' ax ay cx cy= -cr2 ax ay bx by' cx cy:=by unfold cr2;grind
theorem zYH{ax ay bx by' px py:Rat}:(cr2 ax ay bx by' px py=0∧(if lex bx by' ax ay then ¬lex px py bx by'∧¬lex ax ay px py else ¬lex px py ax ay∧¬lex bx by' px py))↔(tZ ax bx px∧tZ ay by' py∧cr2 ax ay bx by' px py=0):=by
 by_cases hc:cr2 ax ay bx by' px py=0
 · simp only[hc,true_and,and_true]
   by_cases hl:lex bx by' ax ay
   · rw[if_pos hl]
     have z:¬lex ax ay bx by':=by unfold lex at *;grind
     have u:cr2 bx by' ax ay px py=0:=by rw[zI6,hc];grind
     rw[zAD z u,zDV,zDV (a:=by')]
   · rw[if_neg hl]
     exact zAD hl hc
 · simp[hc]
theorem zFI{ux uy vx vy wx wy:Rat}(h:ux≠0∨uy≠0)(h1:vx*uy=vy*ux)(h2:wx*uy=wy*ux):vx*wy=vy*wx:=by
 rcases h with h|h
 · have e:ux*(vx*wy-vy*wx)=0:=by grind
   rcases fY e with h3|h3
   · exact absurd h3 h
   · grind
 · have e:uy*(vx*wy-vy*wx)=0:=by grind
   rcases fY e with h3|h3
   · exact absurd h3 h
   · grind
theorem zOZ{ax ay bx by' cx cy dx dy:Rat}(hp:cr2 ax ay bx by' cx cy=0)(hr:cr2 cx cy dx dy ax ay=0):
 (ax=cx∧ay=cy)∨(cr2 ax ay bx by' dx dy=0∧cr2 cx cy dx dy bx by'=0):=by
 by_cases h:ax=cx∧ay=cy
 · exact .inl h
 · refine .inr ?_
   have u:cx-ax≠0∨cy-ay≠0:=by grind
   have C:(bx-ax)*(cy-ay)=(by'-ay)*(cx-ax):=by unfold cr2 at hp;grind
   have z:(dx-ax)*(cy-ay)=(dy-ay)*(cx-ax):=by unfold cr2 at hr;grind
   have D:=zFI u C z;unfold cr2;constructor<;>grind
theorem zI4{ax ay bx by' cx cy dx dy:Rat}(hpq:cr2 ax ay bx by' cx cy≠cr2 ax ay bx by' dx dy)(h1:cr2 ax ay bx by' cx cy*cr2 ax ay bx by' dx dy≤0)(h2:cr2 cx cy dx dy ax ay*cr2 cx cy dx dy bx by'≤0)(hrs:cr2 cx cy dx dy ax ay≠cr2 cx cy dx dy bx by'):
 ∃x y,tZ ax bx x∧tZ ay by' y∧tZ cx dx x∧tZ cy dy y:=by
 obtain⟨p,J⟩:∃p,p=cr2 ax ay bx by' cx cy:=⟨_,rfl⟩;obtain⟨q,I⟩:∃q,q=cr2 ax ay bx by' dx dy:=⟨_,rfl⟩;obtain⟨r,H⟩:∃r,r=cr2 cx cy dx dy ax ay:=⟨_,rfl⟩;obtain⟨s,es⟩:∃s,s=cr2 cx cy dx dy bx by':=⟨_,rfl⟩;rw[←J,←I] at hpq h1;rw[←H,←es] at hrs h2;have Z:∀{u v:Rat},u≠v→u*v≤0→0≤u/(u-v)∧u/(u-v)≤1:=by
  intro u v ac ad;have G:u-v≠0:=by grind
  have C:0<(u-v)*(u-v):=by
   rcases zAK (u-v) 0 with h|h|h
   · have:=Rat.mul_pos (a:=-(u-v)) (b:=-(u-v)) (by grind) (by grind);grind
   · exact absurd h G
   · exact Rat.mul_pos h h
  have e:u/(u-v)*((u-v)*(u-v))=u*(u-v):=by grind
  have h5:0≤u*u:=s5 u;have h6:0≤v*v:=s5 v;constructor
  · rw[bN C,e];grind
  · rw[bN C,e];grind
 obtain⟨Y,X⟩:=Z hpq h1;obtain⟨U,T⟩:=Z hrs h2;have D:∀{u v t:Rat},0≤t→t≤1→tZ u v (u+t*(v-u)):=by
  intro u v t G C;unfold tZ
  rcases zLJ u v with h5|h5
  · left
    have h6:=Rat.mul_nonneg G (show 0≤v-u by grind);have h7:=Rat.mul_le_mul_of_nonneg_right C (show 0≤v-u by grind);constructor<;>grind
  · right
    have h6:=Rat.mul_nonneg G (show 0≤u-v by grind);have h7:=Rat.mul_le_mul_of_nonneg_right C (show 0≤u-v by grind);constructor<;>grind
 have z:p-q≠0:=by grind
 have ab:r-s≠0:=by grind
 have aa:p-q= -(r-s):=by rw[J,I,H,es];unfold cr2;grind
 have ex:cx+p/(p-q)*(dx-cx)=ax+r/(r-s)*(bx-ax):=by
  have e1:(p-q)*(cx+p/(p-q)*(dx-cx))=(p-q)*(ax+r/(r-s)*(bx-ax)):=by
   have S:(p-q)*(cx+p/(p-q)*(dx-cx))=(p-q)*cx+p*(dx-cx):=by grind
   have O:(p-q)*(ax+r/(r-s)*(bx-ax))=(p-q)*ax-r*(bx-ax):=by grind
   rw[S,O,J,I,H];unfold cr2;grind
  have M:(p-q)*((cx+p/(p-q)*(dx-cx))-(ax+r/(r-s)*(bx-ax)))=0:=by grind
  rcases fY M with h|h
  · exact absurd h z
  · grind
 have ey:cy+p/(p-q)*(dy-cy)=ay+r/(r-s)*(by'-ay):=by
  have e1:(p-q)*(cy+p/(p-q)*(dy-cy))=(p-q)*(ay+r/(r-s)*(by'-ay)):=by
   have S:(p-q)*(cy+p/(p-q)*(dy-cy))=(p-q)*cy+p*(dy-cy):=by grind
   have O:(p-q)*(ay+r/(r-s)*(by'-ay))=(p-q)*ay-r*(by'-ay):=by grind
   rw[S,O,J,I,H];unfold cr2;grind
  have M:(p-q)*((cy+p/(p-q)*(dy-cy))-(ay+r/(r-s)*(by'-ay)))=0:=by grind
  rcases fY M with h|h
  · exact absurd h z
  · grind
 exact⟨_,_,ex▸D U T,ey▸D U T,D Y X,D Y X⟩
theorem pB{a b c d x:Rat}(h:jK a b c d)(h1:tZ a b x)(h2:tZ c d x):False:=by unfold jK tZ at *;grind
theorem zWU(u v w:P2):cr u v w=cr2 u.1 u.2 v.1 v.2 w.1 w.2:=rfl
theorem w6{u v w:P2}:orZ u v w=0↔cr u v w=0:=uO
theorem sK{u v:P2}:¬lx v u↔lx u v∨u=v:=by
 unfold lx;rw[Prod.ext_iff];grind
theorem nY(u:P2):¬lx u u:=by unfold lx;grind
theorem rY{u v:P2}(h:lx u v):¬lx v u:=by unfold lx at *;grind
theorem q4{u v w:P2}(h:lx u v)(k:lx v w):lx u w:=by unfold lx at *;grind
theorem zUU{a b p:P2}:(orZ a b p=0∧(if lx b a then ¬lx p b∧¬lx a p else ¬lx p a∧¬lx b p))↔onS a b p:=by
 rw[w6];exact zYH
theorem nT{a b p:P2}(hs:¬lx b a)(hc:cr a b p=0):(¬lx p a∧¬lx b p)↔onS a b p:=by
 have:=zAD hs hc;unfold onS;rw[←and_assoc,and_iff_left hc];exact this
theorem mI(a b c:P2):cr b a c= -cr a b c:=zI6 _ _ _ _ _ _
theorem w5(a b c:P2):orZ b a c= -orZ a b c:=by
 unfold orZ;rw[mI,cK,cK];grind
theorem aL(a c:P2):cr a a c=0:=by unfold cr;grind
theorem zGZ(a c:P2):cr a c c=0:=by unfold cr;grind
theorem eT(a c:P2):cr a c a=0:=by unfold cr;grind
theorem zBD{a b c d:Rat}:jK b a c d↔jK a b c d:=by unfold jK;grind
theorem t7{a b c d:Rat}:jK a b d c↔jK a b c d:=by unfold jK;grind
theorem zIP(a b:P2):lo2 a b=lo2 b a:=by
 unfold lo2
 by_cases h:lx b a
 · rw[if_pos h,if_neg (rY h)]
 · rw[if_neg h]
   rcases sK.1 h with h1|h1
   · rw[if_pos h1]
   · rw[h1,if_neg (nY _)]
theorem zIV(a b:P2):hi2 a b=hi2 b a:=by
 unfold hi2
 by_cases h:lx b a
 · rw[if_pos h,if_neg (rY h)]
 · rw[if_neg h]
   rcases sK.1 h with h1|h1
   · rw[if_pos h1]
   · rw[h1,if_neg (nY _)]
theorem zA5(a b c d:P2):gN b a c d=gN a b c d:=by
 have e:bX b a c d=bX a b c d:=by unfold bX;rw[zIP b a,zIV b a]
 unfold gN;rw[e,zBD,zBD (a:=a.2),w5 a b c,w5 a b d];have D:-orZ a b c*-orZ a b d=orZ a b c*orZ a b d:=by grind
 have C:orZ c d b*orZ c d a=orZ c d a*orZ c d b:=Int.mul_comm _ _;rw[D,C];have z:(-orZ a b c=0∧-orZ a b d=0∧orZ c d b=0∧orZ c d a=0)↔(orZ a b c=0∧orZ a b d=0∧orZ c d a=0∧orZ c d b=0):=by grind
 have u:((-orZ a b c=0∨-orZ a b d=0)∧(orZ c d b=0∨orZ c d a=0))↔((orZ a b c=0∨orZ a b d=0)∧(orZ c d a=0∨orZ c d b=0)):=by grind
 simp only[z,u]
theorem zA4(a b c d:P2):gN a b d c=gN a b c d:=by
 have e:bX a b d c=bX a b c d:=by unfold bX;rw[zIP d c,zIV d c]
 unfold gN;rw[e,t7,t7 (a:=a.2),w5 c d a,w5 c d b];have D:-orZ c d a*-orZ c d b=orZ c d a*orZ c d b:=by grind
 have C:orZ a b d*orZ a b c=orZ a b c*orZ a b d:=Int.mul_comm _ _;rw[D,C];have z:(orZ a b d=0∧orZ a b c=0∧-orZ c d a=0∧-orZ c d b=0)↔(orZ a b c=0∧orZ a b d=0∧orZ c d a=0∧orZ c d b=0):=by grind
 have u:((orZ a b d=0∨orZ a b c=0)∧(-orZ c d a=0∨-orZ c d b=0))↔((orZ a b c=0∨orZ a b d=0)∧(orZ c d a=0∨orZ c d b=0)):=by grind
 simp only[z,u]
theorem zFR(a b c d:P2):gN a b c d=gN (lo2 a b) (hi2 a b) (lo2 c d) (hi2 c d):=by
 unfold lo2 hi2
 split
 · split
   · rw[zA5,zA4]
   · rw[zA5]
 · split
   · rw[zA4]
   · rfl
theorem zMW(a b:P2):¬lx (hi2 a b) (lo2 a b):=by
 unfold lo2 hi2
 split
 · rename_i h;exact rY h
 · rename_i h;exact h
theorem nZ{a b:P2}(h:¬lx b a):lo2 a b=a∧hi2 a b=b:=⟨if_neg h,if_neg h⟩
theorem zLH{a b c d:P2}(hab:¬lx b a)(hcd:¬lx d c)(h1:cr a b c=0)(h2:cr a b d=0)(h3:cr c d a=0)(h4:cr c d b=0)(hap:jK a.1 b.1 c.1 d.1∨jK a.2 b.2 c.2 d.2):lx b c∨lx d a:=by
 rcases hap with hap|hap
 · unfold jK at hap
   unfold lx;grind
 · -- the order along the line is that of the second coordinate, or its reverse
   rw[sK] at hab hcd;refine Classical.byContradiction fun D=>?_;have C:¬lx b c:=fun e=>D (.inl e);have z:¬lx d a:=fun e=>D (.inr e);rw[sK] at C z
   -- c ≤ b and a ≤ d in the order of the line: the segments share a point
   have u:onS a b c∨onS c d a:=by
    by_cases e:lx c a
    · right
      refine(nT (sK.2 hcd) h3).1 ⟨?_,?_⟩
      · exact rY e
      · exact sK.2 z
    · left
      refine(nT (sK.2 hab) h1).1 ⟨e,sK.2 C⟩
   rcases u with⟨_,hb,_⟩|⟨_,hb,_⟩
   · exact pB hap hb (by unfold tZ;grind)
   · exact pB hap (x:=a.2) (by unfold tZ;grind) hb
theorem zVD{a b c d:P2}(hab:¬lx b a)(hcd:¬lx d c)(h1:cr a b c=0)(h2:cr a b d=0)(h3:cr c d a=0)(h4:cr c d b=0):zBC a b c d=mL a b c d:=by
 unfold zBC mL
 by_cases hh:lx (if lx d b then d else b) (if lx a c then c else a)
 · rw[if_pos hh,if_pos hh]
 · rw[if_neg hh,if_neg hh]
   by_cases he:(if lx a c then c else a)=(if lx d b then d else b)
   · rw[if_neg (fun e=>e he),if_neg (show ¬lx (if lx a c then c else a) (if lx d b then d else b) by rw[he];exact nY _)]
     have u:onS a b (if lx a c then c else a)∧onS c d (if lx a c then c else a):=by
      have I:¬lx (if lx a c then c else a) a:=by
       split
       · rename_i h;exact rY h
       · exact nY _
      have H:¬lx (if lx a c then c else a) c:=by
       split
       · exact nY _
       · rename_i h;exact h
      have G:¬lx b (if lx a c then c else a):=by
       rw[he]
       split
       · rename_i h;exact rY h
       · exact nY _
      have D:¬lx d (if lx a c then c else a):=by
       rw[he]
       split
       · exact nY _
       · rename_i h;exact h
      have C:cr a b (if lx a c then c else a)=0:=by
       split
       · exact h1
       · exact eT a b
      have z:cr c d (if lx a c then c else a)=0:=by
       split
       · exact eT c d
       · exact h3
      exact⟨(nT hab C).1 ⟨I,G⟩,(nT hcd z).1 ⟨H,D⟩⟩
     by_cases hx:((if lx a c then c else a)=a∨(if lx a c then c else a)=b)∧((if lx a c then c else a)=c∨(if lx a c then c else a)=d)
     · rw[if_pos ⟨hx.1,hx.2,u⟩,if_pos hx]
     · rw[if_neg (fun e=>hx ⟨e.1,e.2.1⟩),if_pos u,if_neg hx]
   · rw[if_pos he,if_pos ((sK.1 hh).resolve_right he)]
theorem zHG{x y:Rat}:0<xJ x*xJ y↔0<x*y:=by
 have D:=cK x;have C:=cK y
 rcases zAK x 0 with hx|hx|hx<;>rcases zAK y 0 with hy|hy|hy
 · have:=Rat.mul_pos (a:=-x) (b:=-y) (by grind) (by grind)
   have z:xJ x= -1:=by grind
   have u:xJ y= -1:=by grind
   rw[z,u];grind
 · subst hy;have e:x*0=0:=by grind
   have u:xJ 0=0:=by grind
   rw[e,u];simp
 · have:=Rat.mul_pos (a:=-x) (b:=y) (by grind) hy
   have z:xJ x= -1:=by grind
   have u:xJ y=1:=by grind
   rw[z,u];grind
 · subst hx;have e:0*y=0:=by grind
   have u:xJ 0=0:=by grind
   rw[e,u];simp
 · subst hx;have e:0*y=0:=by grind
   have u:xJ 0=0:=by grind
   rw[e,u];simp
 · subst hx;have e:0*y=0:=by grind
   have u:xJ 0=0:=by grind
   rw[e,u];simp
 · have:=Rat.mul_pos (a:=x) (b:=-y) hx (by grind)
   have z:xJ x=1:=by grind
   have u:xJ y= -1:=by grind
   rw[z,u];grind
 · subst hy;have e:x*0=0:=by grind
   have u:xJ 0=0:=by grind
   rw[e,u];simp
 · have:=Rat.mul_pos hx hy
   have z:xJ x=1:=by grind
   have u:xJ y=1:=by grind
   rw[z,u];grind
theorem nS{a b c d e f:P2}:0<orZ a b c*orZ d e f↔0<cr a b c*cr d e f:=zHG
theorem zM5{a b c d:P2}(hn:¬(cr a b c=0∧cr a b d=0∧cr c d a=0∧cr c d b=0)):((cr a b c=0∨cr a b d=0)∧(cr c d a=0∨cr c d b=0))↔(a=c∨a=d∨b=c∨b=d):=by
 have G:∀u v w:P2,cr u v w= -cr v u w:=fun u v w=>mI v u w;constructor
 · rintro⟨C,z⟩
   -- one end of each
   have D:∀{p q r s:P2},cr p q r=0→cr r s p=0→p=r∨(cr p q s=0∧cr r s q=0):=by
    intro p q r s I H
    rcases zOZ I H with h|h
    · exact .inl (Prod.ext h.1 h.2)
    · exact .inr h
   rcases C with C|C<;>rcases z with z|z
   · rcases D C z with h|h
     · exact .inl h
     · exact absurd ⟨C,h.1,z,h.2⟩ hn
   · rcases D (p:=b) (q:=a) (r:=c) (s:=d) (by rw[mI,C];grind) z with h|h
     · exact .inr (.inr (.inl h))
     · exact absurd ⟨C,by rw[G,h.1];grind,h.2,z⟩ hn
   · rcases D (p:=a) (q:=b) (r:=d) (s:=c) C (by rw[mI,z];grind) with h|h
     · exact .inr (.inl h)
     · exact absurd ⟨h.1,C,z,by rw[G,h.2];grind⟩ hn
   · rcases D (p:=b) (q:=a) (r:=d) (s:=c) (by rw[mI,C];grind) (by rw[mI,z];grind) with h|h
     · exact .inr (.inr (.inr h))
     · exact absurd ⟨by rw[G,h.1];grind,C,by rw[G,h.2];grind,z⟩ hn
 · rintro(h|h|h|h)
   · subst h;exact⟨.inl (eT a b),.inl (eT a d)⟩
   · subst h;exact⟨.inr (eT a b),.inl (zGZ c a)⟩
   · subst h;exact⟨.inl (zGZ a b),.inr (eT b d)⟩
   · subst h;exact⟨.inr (zGZ a b),.inr (zGZ c b)⟩
theorem zTU{a b c d:P2}(hab:¬lx b a)(hcd:¬lx d c):gN a b c d=zFS a b c d:=by
 unfold gN zFS;simp only[w6]
 by_cases hz:cr a b c=0∧cr a b d=0∧cr c d a=0∧cr c d b=0
 · obtain⟨T,S,O,M⟩:=hz
   rw[if_pos (show cr a b c=0∧cr a b d=0∧cr c d a=0∧cr c d b=0 from⟨T,S,O,M⟩),if_pos (show cr a b c=0∧cr a b d=0∧cr c d a=0∧cr c d b=0 from⟨T,S,O,M⟩),zVD hab hcd T S O M];unfold bX;rw[(nZ hab).1,(nZ hab).2,(nZ hcd).1,(nZ hcd).2]
   by_cases u:jK a.1 b.1 c.1 d.1∨jK a.2 b.2 c.2 d.2
   · rw[if_pos u]
     have z:=zLH hab hcd T S O M u;unfold mL;rw[if_pos]
     rcases z with z|z
     · have e1:lx a c:=by
        rcases sK.1 hab with e|e
        · exact q4 e z
        · rw[e];exact z
       have e2:¬lx d b:=by
        refine rY ?_
        rcases sK.1 hcd with e|e
        · exact q4 z e
        · rw[←e];exact z
       rw[if_neg e2,if_pos e1];exact z
     · have e1:¬lx a c:=by
        refine rY ?_
        rcases sK.1 hcd with e|e
        · exact q4 e z
        · rw[e];exact z
       have e2:lx d b:=by
        rcases sK.1 hab with e|e
        · exact q4 z e
        · rw[←e];exact z
       rw[if_pos e2,if_neg e1];exact z
   · rw[if_neg u]
 · rw[if_neg hz,if_neg hz]
   by_cases hd:a=b∨c=d
   · rw[if_pos hd]
     have e0:eG a b c d=0:=by
      unfold eG;rw[if_neg]
      rintro(⟨e,h⟩|⟨e,h⟩)
      · subst e
        exact hz ⟨aL _ _,aL _ _,h.2.2,h.2.2⟩
      · subst e
        exact hz ⟨h.2.2,h.2.2,aL _ _,aL _ _⟩
     rw[e0]
     by_cases u:jK a.1 b.1 c.1 d.1∨jK a.2 b.2 c.2 d.2
     · rw[if_pos u]
     · rw[if_neg u,if_pos]
       rw[nS,nS];have C:∀x:Rat,x≠0→0<x*x:=by
        intro x hx
        rcases zAK x 0 with h|h|h
        · have:=Rat.mul_pos (a:=-x) (b:=-x) (by grind) (by grind);grind
        · exact absurd h hx
        · exact Rat.mul_pos h h
       rcases hd with e|e
       · subst e
         right
         refine C _ fun h=>?_;exact hz ⟨aL _ _,aL _ _,h,h⟩
       · subst e
         left
         refine C _ fun h=>?_;exact hz ⟨h,h,aL _ _,aL _ _⟩
   · rw[if_neg hd]
     by_cases hs:0<orZ a b c*orZ a b d∨0<orZ c d a*orZ c d b
     · rw[if_pos hs,if_pos hs]
       split<;>rfl
     · rw[if_neg hs,if_neg hs]
       rw[nS,nS] at hs;have G:cr a b c*cr a b d≤0:=Rat.not_lt.1 fun e=>hs (.inl e);have aa:cr c d a*cr c d b≤0:=Rat.not_lt.1 fun e=>hs (.inr e);have I:¬(jK a.1 b.1 c.1 d.1∨jK a.2 b.2 c.2 d.2):=by
        intro u;have U:∀{p q r s:P2},p≠q→cr p q r=0→cr p q s=0→cr r s p=0∧cr r s q=0:=by
         intro p q r s ab k1 Z;have hu:q.1-p.1≠0∨q.2-p.2≠0:=by
          refine Classical.byContradiction fun e=>ab (Prod.ext ?_ ?_)<;>grind
         have Y:(r.1-p.1)*(q.2-p.2)=(r.2-p.2)*(q.1-p.1):=by unfold cr at k1;grind
         have X:(s.1-p.1)*(q.2-p.2)=(s.2-p.2)*(q.1-p.1):=by unfold cr at Z;grind
         have k5:=zFI hu Y X;unfold cr;constructor<;>grind
        have D:cr a b c-cr a b d= -(cr c d a-cr c d b):=by unfold cr;grind
        have H:cr a b c≠cr a b d:=by
         intro e;rw[e] at G;have h5:=s5 (cr a b d);have h6:cr a b d*cr a b d=0:=by grind
         have J:cr a b d=0:=by rcases fY h6 with h|h<;>exact h
         obtain⟨h8,h9⟩:=U (fun e=>hd (.inl e)) (by rw[e];exact J) J;exact hz ⟨by rw[e];exact J,J,h8,h9⟩
        obtain⟨x,y,k1,Z,Y,X⟩:=zI4 (ax:=a.1) (ay:=a.2) (bx:=b.1) (by':=b.2) (cx:=c.1) (cy:=c.2) (dx:=d.1) (dy:=d.2) H G aa (by intro e;apply H;rw[zWU c d a,zWU c d b,e] at D;grind)
        rcases u with h|h
        · exact pB h k1 Y
        · exact pB h Z X
       rw[if_neg I]
       by_cases he:(cr a b c=0∨cr a b d=0)∧(cr c d a=0∨cr c d b=0)
       · rw[if_pos he,if_pos ((zM5 hz).1 he)]
       · rw[if_neg he,if_neg (fun e=>he ((zM5 hz).2 e))]
theorem zG9(a b c d:P2):gN a b c d=nM a b c d:=by
 rw[zFR];unfold nM;exact zTU (zMW a b) (zMW c d)
theorem zB6(a b c d:P2):gN c d a b=gN a b c d:=by
 have z:∀(a b c d:P2),¬lx b a→¬lx d c→mL c d a b=mL a b c d:=by
  intro a b c d _ _;unfold mL;have I:(if lx c a then a else c)=(if lx a c then c else a):=by
   by_cases h:lx a c
   · rw[if_pos h,if_neg (rY h)]
   · rw[if_neg h]
     rcases sK.1 h with h1|h1
     · rw[if_pos h1]
     · rw[h1,if_neg (nY _)]
  have H:(if lx b d then b else d)=(if lx d b then d else b):=by
   by_cases h:lx d b
   · rw[if_pos h,if_neg (rY h)]
   · rw[if_neg h]
     rcases sK.1 h with h1|h1
     · rw[if_pos h1]
     · rw[h1,if_neg (nY _)]
  rw[I,H];simp only[and_comm]
 have u:∀{a b c d:Rat},jK c d a b↔jK a b c d:=by intro a b c d;unfold jK;grind
 unfold gN;have e:bX c d a b=bX a b c d:=z _ _ _ _ (zMW a b) (zMW c d);rw[e,u (a:=a.1) (b:=b.1) (c:=c.1) (d:=d.1),u (a:=a.2) (b:=b.2) (c:=c.2) (d:=d.2)];have G:(orZ c d a=0∧orZ c d b=0∧orZ a b c=0∧orZ a b d=0)↔(orZ a b c=0∧orZ a b d=0∧orZ c d a=0∧orZ c d b=0):=by grind
 have D:(0<orZ c d a*orZ c d b∨0<orZ a b c*orZ a b d)↔(0<orZ a b c*orZ a b d∨0<orZ c d a*orZ c d b):=or_comm;have C:((orZ c d a=0∨orZ c d b=0)∧(orZ a b c=0∨orZ a b d=0))↔((orZ a b c=0∨orZ a b d=0)∧(orZ c d a=0∨orZ c d b=0)):=and_comm;simp only[G,D,C]
end Bk
namespace Bk
set_option linter.unusedVariables false
set_option linter.unusedSimpArgs false
open Go Go.RowKit
open Classical
def smZ(q:Rat):Int:=if q.den≠1∨1<(zB q.num.natAbs).length then 0 else q.num
def smB(q:Rat):Prop:=q.den=1∧q.num.natAbs<268435456
def yAT(n:Int):Int:=if 0<n then 1 else if n<0 then -1 else 0
theorem zP1(n:Int):xJ (n:Rat)=yAT n:=by
 rw[cK];unfold yAT;have h0:((n:Rat)=0)↔n=0:=by
  have e:(0:Rat)=((0:Int):Rat):=rfl;rw[e,Rat.intCast_inj]
 have u:((n:Rat)<0)↔n<0:=by
  have e:(0:Rat)=((0:Int):Rat):=rfl;rw[e,Rat.intCast_lt_intCast]
 simp only[h0,u]
 split
 · rename_i h;subst h;simp
 · split
   · rw[if_neg (by omega)]
   · rw[if_pos (by omega)]
theorem tR(a b c:P2):-1≤orZ a b c∧orZ a b c≤1:=wI _
theorem zQR{a b:Pt}{i j:Nat}:pr a i j=pr b i j↔a.at i=b.at i∧a.at j=b.at j:=by unfold pr;rw[Prod.ext_iff]
theorem zIS{a b:Pt}{i j:Nat}:(wH (a.at i) (b.at i)<0∨(wH (a.at i) (b.at i)=0∧wH (a.at j) (b.at j)<0))↔lx (pr a i j) (pr b i j):=by
 rw[pW,bC,pW];rfl
noncomputable def loT(a b:Pt)(i j:Nat):Pt:=if lx (pr b i j) (pr a i j) then b else a
noncomputable def hiT(a b:Pt)(i j:Nat):Pt:=if lx (pr b i j) (pr a i j) then a else b
noncomputable def mxT(a c:Pt)(i j:Nat):Pt:=if lx (pr a i j) (pr c i j) then c else a
noncomputable def mnT(b d:Pt)(i j:Nat):Pt:=if lx (pr d i j) (pr b i j) then d else b
end Bk
namespace Bk
set_option linter.unusedVariables false
set_option linter.unusedSimpArgs false
open Go Go.RowKit
open Classical
def gp(l:List Pt)(m:Nat):Pt:=l.getD m (T3.mk (0:Rat) 0 0)
def uS(l:List Pt)(i j:Nat):Nat→Rat
  |0=>0
  |m+1=>uS l i j m+((gp l m).at i*(gp l ((m+1)%l.length)).at j-(gp l ((m+1)%l.length)).at i*(gp l m).at j)
theorem zTT(a b c:Pt):xJ (uS [a,b,c] 0 1 3)=orZ (pr a 0 1) (pr b 0 1) (pr c 0 1):=by
 have:uS [a,b,c] 0 1 3=cr (pr a 0 1) (pr b 0 1) (pr c 0 1):=by
  simp[uS,gp,pr,cr,T3.at];grind
 unfold orZ;rw[this]
def zAV(a b p:P2):Prop:=¬(a.2≤p.2↔b.2≤p.2)∧((a.2≤p.2∧0<orZ a b p)∨(b.2≤p.2∧orZ a b p<0))
def gL(l:List Pt)(i j m:Nat):P2:=pr (gp l m) i j
def gK(l:List Pt)(i j m:Nat):P2:=pr (gp l ((m+1)%l.length)) i j
def lT(l:List Pt)(p:P2)(i j:Nat):Nat→Prop
  |0=>False
  |m+1=>(zAV (gL l i j m) (gK l i j m) p∧¬lT l p i j m)∨(¬zAV (gL l i j m) (gK l i j m) p∧lT l p i j m)
noncomputable def zBK(l:List Pt)(p:P2)(i j:Nat):Int:=
 if ∃m,m<l.length∧onS (gL l i j m) (gK l i j m) p then 0 else if lT l p i j l.length then 1 else -1
theorem zY6{l:List Pt}{p:P2}{i j m:Nat}(hm:m<l.length)(h:onS (gL l i j m) (gK l i j m) p):0=zBK l p i j:=(if_pos ⟨m,hm,h⟩).symm
theorem zY7{l:List Pt}{p:P2}{i j n:Nat}(hn:¬n<l.length)(hn2:n≤l.length)(h:∀q,q<n→¬onS (gL l i j q) (gK l i j q) p)(ho:lT l p i j n):1=zBK l p i j:=by
 have e:n=l.length:=by omega
 subst e;unfold zBK;rw[if_neg (fun⟨m,z,u⟩=>h m z u),if_pos ho]
theorem zVI{l:List Pt}{p:P2}{i j n:Nat}(hn:¬n<l.length)(hn2:n≤l.length)(h:∀q,q<n→¬onS (gL l i j q) (gK l i j q) p)(ho:¬lT l p i j n):-1=zBK l p i j:=by
 have e:n=l.length:=by omega
 subst e;unfold zBK;rw[if_neg (fun⟨m,z,u⟩=>h m z u),if_neg ho]
theorem zMG{l:List Pt}{p:P2}{i j n:Nat}(h:∀q,q<n→¬onS (gL l i j q) (gK l i j q) p)(h1:¬onS (gL l i j n) (gK l i j n) p):∀q,q<n+1→¬onS (gL l i j q) (gK l i j q) p:=fun q hq=>by
 rcases Nat.lt_succ_iff_lt_or_eq.1 hq with h2|h2
 · exact h q h2
 · subst h2;exact h1
theorem zY4{a b:Pt}(h:¬wH a.x b.x=0):wH a.x b.x<0↔lx (pr a 0 1) (pr b 0 1):=by
 have u:=zIS (a:=a) (b:=b) (i:=0) (j:=1);rw[←u];exact⟨.inl,fun e=>e.elim id fun e=>absurd e.1 h⟩
theorem zY3{a b:Pt}(h:¬¬wH a.x b.x=0):wH a.y b.y<0↔lx (pr a 0 1) (pr b 0 1):=by
 have u:=Classical.not_not.1 h;have z:=zIS (a:=a) (b:=b) (i:=0) (j:=1);rw[←z];exact⟨fun e=>.inr ⟨u,e⟩,fun e=>e.elim (fun e=>absurd u (by have:wH a.x b.x<0:=e;omega)) fun e=>e.2⟩
theorem zKA(a b:Pt)(i j:Nat):pr (loT a b i j) i j=lo2 (pr a i j) (pr b i j):=zF0 _ _ _ _
theorem zKB(a b:Pt)(i j:Nat):pr (hiT a b i j) i j=hi2 (pr a i j) (pr b i j):=zF0 _ _ _ _
theorem zYI{a b p:Pt}{i j:Nat}:(orZ (pr (loT a b i j) i j) (pr (hiT a b i j) i j) (pr p i j)=0∧¬lx (pr p i j) (pr (loT a b i j) i j)∧¬lx (pr (hiT a b i j) i j) (pr p i j))↔onS (pr a i j) (pr b i j) (pr p i j):=by
 rw[zKA,zKB,←zUU,w6,w6];unfold lo2 hi2
 split
 · rw[mI]
   grind
 · exact Iff.rfl
noncomputable def zC9(a b c d lo hi:Pt):Int:=
 if lx (pr hi 0 1) (pr lo 0 1) then 0 else if ¬pr lo 0 1=pr hi 0 1 then 3
 else if(((pr lo 0 1=pr a 0 1∨pr lo 0 1=pr b 0 1)∧(pr lo 0 1=pr c 0 1∨pr lo 0 1=pr d 0 1))∧onS (pr a 0 1) (pr b 0 1) (pr lo 0 1))∧onS (pr c 0 1) (pr d 0 1) (pr lo 0 1) then 1
 else if onS (pr a 0 1) (pr b 0 1) (pr lo 0 1)∧onS (pr c 0 1) (pr d 0 1) (pr lo 0 1) then 2 else 0
theorem zC8{a b c d lo hi:Pt}(h1:lo=mxT a c 0 1)(h2:hi=mnT b d 0 1):zC9 a b c d lo hi=zBC (pr a 0 1) (pr b 0 1) (pr c 0 1) (pr d 0 1):=by
 have z:pr lo 0 1=if lx (pr a 0 1) (pr c 0 1) then pr c 0 1 else pr a 0 1:=by rw[h1];exact zF0 _ _ _ _
 have u:pr hi 0 1=if lx (pr d 0 1) (pr b 0 1) then pr d 0 1 else pr b 0 1:=by rw[h2];exact zF0 _ _ _ _
 unfold zC9 zBC;rw[z,u];simp only[and_assoc,ne_eq]
noncomputable def iM(a b c d:Pt):Int:=
 if((orZ (pr a 0 1) (pr b 0 1) (pr c 0 1)=0∧orZ (pr a 0 1) (pr b 0 1) (pr d 0 1)=0)∧orZ (pr c 0 1) (pr d 0 1) (pr a 0 1)=0)∧orZ (pr c 0 1) (pr d 0 1) (pr b 0 1)=0 then zBC (pr a 0 1) (pr b 0 1) (pr c 0 1) (pr d 0 1)
 else if pr a 0 1=pr b 0 1∨pr c 0 1=pr d 0 1 then eG (pr a 0 1) (pr b 0 1) (pr c 0 1) (pr d 0 1)
 else if 0<orZ (pr a 0 1) (pr b 0 1) (pr c 0 1)*orZ (pr a 0 1) (pr b 0 1) (pr d 0 1)∨0<orZ (pr c 0 1) (pr d 0 1) (pr a 0 1)*orZ (pr c 0 1) (pr d 0 1) (pr b 0 1) then 0
 else if((pr a 0 1=pr c 0 1∨pr a 0 1=pr d 0 1)∨pr b 0 1=pr c 0 1)∨pr b 0 1=pr d 0 1 then 1 else 2
theorem dS{a b c d A B C D:Pt}(h1:A=loT (T3.mk a.x a.y 0) (T3.mk b.x b.y 0) 0 1)(h2:B=hiT (T3.mk a.x a.y 0) (T3.mk b.x b.y 0) 0 1)(h3:C=loT (T3.mk c.x c.y 0) (T3.mk d.x d.y 0) 0 1)(h4:D=hiT (T3.mk c.x c.y 0) (T3.mk d.x d.y 0) 0 1):
 iM A B C D=nM (pr a 0 1) (pr b 0 1) (pr c 0 1) (pr d 0 1):=by
 have H:pr A 0 1=lo2 (pr a 0 1) (pr b 0 1):=by rw[h1];exact zKA _ _ _ _
 have G:pr B 0 1=hi2 (pr a 0 1) (pr b 0 1):=by rw[h2];exact zKB _ _ _ _
 have z:pr C 0 1=lo2 (pr c 0 1) (pr d 0 1):=by rw[h3];exact zKA _ _ _ _
 have u:pr D 0 1=hi2 (pr c 0 1) (pr d 0 1):=by rw[h4];exact zKB _ _ _ _
 unfold iM nM zFS;rw[H,G,z,u];simp only[and_assoc,or_assoc]
end Bk
namespace Bk
set_option linter.unusedVariables false
set_option linter.unusedSimpArgs false
open Classical
noncomputable def s0(a b:Pt):Pt:=if 0<wH a.y b.y then b else a
noncomputable def zBF(a b:Pt):Pt:=if 0<wH a.y b.y then a else b
theorem zDM(a b p:Pt):((wH (s0 a b).y p.y≤0∧wH p.y (zBF a b).y<0)∧0<orZ (pr (s0 a b) 0 1) (pr (zBF a b) 0 1) (pr p 0 1))↔zAV (pr a 0 1) (pr b 0 1) (pr p 0 1):=by
 unfold s0 zBF zAV;rw[dG,pW];have I:(pr a 0 1).2=a.y:=rfl;have H:(pr b 0 1).2=b.y:=rfl;have G:(pr p 0 1).2=p.y:=rfl;rw[I,H,G]
 by_cases h:0<wH a.y b.y
 · have D:=oZ.1 h
   rw[if_pos h,if_pos h,w5 (pr a 0 1) (pr b 0 1)];constructor
   · rintro⟨⟨z,u⟩,C⟩
     exact⟨fun e=>by grind,.inr ⟨z,by omega⟩⟩
   · rintro⟨z,u|u⟩
     · exact absurd ⟨fun _=>by grind,fun _=>u.1⟩ z
     · exact⟨⟨u.1,by grind⟩,by omega⟩
 · have D:¬b.y<a.y:=fun e=>h (oZ.2 e)
   rw[if_neg h,if_neg h];constructor
   · rintro⟨⟨z,u⟩,C⟩
     exact⟨fun e=>by grind,.inl ⟨z,C⟩⟩
   · rintro⟨z,u|u⟩
     · exact⟨⟨u.1,by grind⟩,u.2⟩
     · exact absurd ⟨fun _=>u.1,fun _=>by grind⟩ z
theorem zYJ{l:List Pt}{p:P2}{i j n:Nat}(h:zAV (gL l i j n) (gK l i j n) p):(¬lT l p i j n)=lT l p i j (n+1):=by
 show _=(_∨_)
 simp[h]
theorem zUV{l:List Pt}{p:P2}{i j n:Nat}(h:¬zAV (gL l i j n) (gK l i j n) p):lT l p i j n=lT l p i j (n+1):=by
 show _=(_∨_)
 simp[h]
noncomputable def zW6(L:List (List Pt))(p:P2)(i j:Nat):Nat→Int
  |0=>-1
  |m+1=>if zBK (L.getD m []) p i j=1 then -(zW6 L p i j m) else zW6 L p i j m
noncomputable def whZ(L:List (List Pt))(p:P2)(i j:Nat):Int:=if ∃m,m<L.length∧zBK (L.getD m []) p i j=0 then 0 else zW6 L p i j L.length
end Bk
namespace Bk
set_option linter.unusedVariables false
open Classical
def zMD(R:Nat→Nat→Prop)(n a:Nat):Prop:=∀p q,p<a→p<q→q<n→R p q
def rowTo(R:Nat→Nat→Prop)(a b:Nat):Prop:=∀q,a<q→q<b→R a q
def yBO(l:List Pt)(i j p q:Nat):Prop:=¬pr (gp l p) i j=pr (gp l q) i j
noncomputable def zEF(n p q:Nat):Int:=if q=p+1∨(p=0∧q+1=n) then 1 else 0
def okT(l:List Pt)(i j p q:Nat):Prop:=gN (gL l i j p) (gK l i j p) (gL l i j q) (gK l i j q)=zEF l.length p q
def aP(l:List Pt)(i j:Nat):Prop:=3≤l.length∧zMD (yBO l i j) l.length l.length∧zMD (okT l i j) l.length l.length
theorem zW7{n p q:Nat}(h:q=p+1∨(p=0∧q+1=n)):(1:Int)=zEF n p q:=(if_pos h).symm
theorem zW8{n p q:Nat}(h:¬(q=p+1∨(p=0∧q+1=n))):(0:Int)=zEF n p q:=(if_neg h).symm
end Bk
namespace Bk
set_option linter.unusedVariables false
set_option linter.unusedSimpArgs false
open Classical
def g6(a b:List Pt)(i j p q:Nat):Prop:=1<gN (gL a i j p) (gK a i j p) (gL b i j q) (gK b i j q)
def fH(a b:List Pt)(i j:Nat):Prop:=∃p q,p<a.length∧q<b.length∧g6 a b i j p q
theorem zQF{Q:Nat→Nat→Prop}{p q n:Nat}(h:∀v,v<q→¬Q p v)(h1:¬Q p q):∀v,v<q+1→¬Q p v:=fun v hv=>by
 rcases Nat.lt_succ_iff_lt_or_eq.1 hv with h2|h2
 · exact h v h2
 · subst h2;exact h1
theorem qL{Q:Nat→Prop}{q:Nat}(h:∀v,v<q→Q v)(h1:Q q):∀v,v<q+1→Q v:=fun v hv=>by
 rcases Nat.lt_succ_iff_lt_or_eq.1 hv with h2|h2
 · exact h v h2
 · subst h2;exact h1
theorem zN1{Q:Nat→Nat→Prop}{p q n:Nat}(h:∀u v,u<p→v<n→¬Q u v)(h1:∀v,v<q→¬Q p v)(hq:n≤q):∀u v,u<p+1→v<n→¬Q u v:=fun u v hu hv=>by
 rcases Nat.lt_succ_iff_lt_or_eq.1 hu with h2|h2
 · exact h u v h2 hv
 · subst h2;exact h1 v (by omega)
theorem zPL{Q:Nat→Nat→Prop}{p q:Nat}(h:∀u v,v<p→u<v→¬Q u v)(h1:∀u,u<q→¬Q u p)(hq:p≤q):∀u v,v<p+1→u<v→¬Q u v:=fun u v hv hu=>by
 rcases Nat.lt_succ_iff_lt_or_eq.1 hv with h2|h2
 · exact h u v h2 hu
 · subst h2;exact h1 u (by omega)
noncomputable def zU6(u v:P2):P2:=(iZ u.1 v.1,iZ u.2 v.2)
noncomputable def pY(c l:List Pt)(i j:Nat):Nat→Int
  |0=>0
  |m+1=>if zBK c (zU6 (gL l i j m) (gK l i j m)) i j=1 then pY c l i j m+1 else pY c l i j m
theorem nL(c l:List Pt)(i j:Nat):∀m,0≤pY c l i j m∧pY c l i j m≤m
  |0=>by unfold pY;omega
  |m+1=>by
   have h:=nL c l i j m;unfold pY
   split<;>omega
theorem zW4{c l:List Pt}{i j m:Nat}{p:P2}(hp:p=zU6 (gL l i j m) (gK l i j m))(h:zBK c p i j=1):pY c l i j m+1=pY c l i j (m+1):=by subst hp;exact(if_pos h).symm
theorem zW5{c l:List Pt}{i j m:Nat}{p:P2}(hp:p=zU6 (gL l i j m) (gK l i j m))(h:¬zBK c p i j=1):pY c l i j m=pY c l i j (m+1):=by subst hp;exact(if_neg h).symm
def arZ(l:List Pt)(i j:Nat):Rat:=uS l i j l.length
noncomputable def wiZ(c l:List Pt)(i j:Nat):Int:=pY c l i j l.length
abbrev gl(L:List (List Pt))(m:Nat):List Pt:=L.getD m []
def betP(L:List (List Pt))(i j k m:Nat)(best:Int):Prop:=
 (0<xJ (arZ (gl L m) i j)∧wiZ (gl L m) (gl L k) i j=↑(gl L k).length)∧(best<0∨wH (arZ (gl L m) i j) (arZ (gl L best.toNat) i j)<0)
noncomputable def sY(L:List (List Pt))(i j k:Nat):Nat→Int
  |0=>-1
  |m+1=>if betP L i j k m (sY L i j k m) then ↑m else sY L i j k m
theorem zAC(L:List (List Pt))(i j k:Nat):∀m,-1≤sY L i j k m∧sY L i j k m<m
  |0=>by unfold sY;omega
  |m+1=>by
   have h:=zAC L i j k m;unfold sY
   split<;>omega
noncomputable def pZ(L:List (List Pt))(i j k:Nat):Int:=if 0<xJ (arZ (gl L k) i j) then -1 else sY L i j k L.length
def s7(L:List (List Pt))(i j a b:Nat):Prop:=((¬b=a∧0≤pZ L i j a)∧pZ L i j b=pZ L i j a)∧0<wiZ (gl L b) (gl L a) i j
def mO(L:List (List Pt))(i j k:Nat):Prop:=¬0<xJ (arZ (gl L k) i j)∧sY L i j k L.length<0
noncomputable def vQ(L:List (List Pt))(i j:Nat):Int:=
 if 16<L.length∨∃m,m<L.length∧64<(gl L m).length then 2
 else if ∃m,m<L.length∧¬aP (gl L m) i j then 8
 else if ∃a b,a<b∧b<L.length∧fH (gl L a) (gl L b) i j then 32
 else if(∃k,k<L.length∧mO L i j k)∨∃a b,a<L.length∧b<L.length∧s7 L i j a b then 33 else 0
noncomputable def fX(L:List (List Pt))(i j:Nat):List Int:=if vQ L i j=0 then(List.range L.length).map (pZ L i j) else[]
theorem zGH{L:List (List Pt)}{i j:Nat}(h:16<L.length∨∃m,m<L.length∧64<(gl L m).length):vQ L i j=2∧fX L i j=[]:=by
 have e:vQ L i j=2:=if_pos h;exact⟨e,if_neg (by rw[e];decide)⟩
theorem zRL{L:List (List Pt)}{i j:Nat}(h1:¬16<L.length)(h2:∀m,m<L.length→¬64<(gl L m).length)(h:∃m,m<L.length∧¬aP (gl L m) i j):vQ L i j=8∧fX L i j=[]:=by
 have e:vQ L i j=8:=by
  unfold vQ;rw[if_neg (by rintro(h|⟨m,u,h⟩);exact h1 h;exact h2 m u h),if_pos h]
 exact⟨e,if_neg (by rw[e];decide)⟩
theorem zMK{L:List (List Pt)}{i j:Nat}(h1:¬16<L.length)(h2:∀m,m<L.length→¬64<(gl L m).length)(h3:∀m,m<L.length→aP (gl L m) i j)(h:∃a b,a<b∧b<L.length∧fH (gl L a) (gl L b) i j):vQ L i j=32∧fX L i j=[]:=by
 have e:vQ L i j=32:=by
  unfold vQ;rw[if_neg (by rintro(h|⟨m,u,h⟩);exact h1 h;exact h2 m u h),if_neg (by rintro⟨m,u,h⟩;exact h (h3 m u)),if_pos h]
 exact⟨e,if_neg (by rw[e];decide)⟩
theorem zBV{L:List (List Pt)}{i j:Nat}(h1:¬16<L.length)(h2:∀m,m<L.length→¬64<(gl L m).length)(h3:∀m,m<L.length→aP (gl L m) i j)(h4:∀a b,b<L.length→a<b→¬fH (gl L a) (gl L b) i j)
    (h:(∃k,k<L.length∧mO L i j k)∨∃a b,a<L.length∧b<L.length∧s7 L i j a b):vQ L i j=33∧fX L i j=[]:=by
 have e:vQ L i j=33:=by
  unfold vQ;rw[if_neg (by rintro(h|⟨m,u,h⟩);exact h1 h;exact h2 m u h),if_neg (by rintro⟨m,u,h⟩;exact h (h3 m u)),if_neg (by rintro⟨a,b,C,z,h⟩;exact h4 a b z C h),if_pos h]
 exact⟨e,if_neg (by rw[e];decide)⟩
theorem zR4{O:List Int}{n:Nat}{f:Nat→Int}(hl:O.length=n)(h:∀q,q<n→O.getD q 0=f q):O=(List.range n).map f:=by
 refine List.ext_getElem (by simp[hl]) fun q z C=>?_;have u:=h q (by omega);rw[List.getD_eq_getElem?_getD,List.getElem?_eq_getElem z] at u;simp only[Option.getD_some] at u;simp[u]
theorem zRM{L:List (List Pt)}{i j:Nat}{O:List Int}(h1:¬16<L.length)(h2:∀m,m<L.length→¬64<(gl L m).length)(h3:∀m,m<L.length→aP (gl L m) i j)(h4:∀a b,b<L.length→a<b→¬fH (gl L a) (gl L b) i j)
    (h5:∀k,k<L.length→¬mO L i j k)(h6:∀a b,a<L.length→b<L.length→¬s7 L i j a b)(hl:O.length=L.length)(hO:∀q,q<L.length→O.getD q 0=pZ L i j q):vQ L i j=0∧fX L i j=O:=by
 have e:vQ L i j=0:=by
  unfold vQ;rw[if_neg (by rintro(h|⟨m,u,h⟩);exact h1 h;exact h2 m u h),if_neg (by rintro⟨m,u,h⟩;exact h (h3 m u)),if_neg (by rintro⟨a,b,C,z,h⟩;exact h4 a b z C h),
   if_neg (by rintro(⟨k,D,h⟩|⟨a,b,C,z,h⟩);exact h5 k D h;exact h6 a b C z h)]
 exact⟨e,by unfold fX;rw[if_pos e];exact(zR4 hl hO).symm⟩
end Bk
namespace Bk
set_option linter.unusedVariables false
set_option linter.unusedSimpArgs false
open Classical
open Go Go.RowKit
def fD:Rp (List Nat) where
 n:=1
 agg:=false
 R _ cs s:=cs=[.string (uT s)]∧ByB s
 len:=by rintro h cs s ⟨rfl,_⟩;rfl
 mono:=fun _ r=>r
 one:=by rintro h cs s ⟨rfl,_⟩;rfl
 cell:=fun _=>rfl
theorem bP{h:Mem}{s:List Nat}(hb:ByB s):fD.Is h (.string (uT s)) s:=⟨_,⟨rfl,hb⟩,rfl⟩
theorem kH{h:Mem}{v:Value}{s:List Nat}(r:fD.Is h v s):v=.string (uT s)∧ByB s:=by
 obtain⟨cs,⟨rfl,u⟩,rfl⟩:=r;exact⟨rfl,u⟩
theorem kO{h:Mem}:fD.R h [.string ⟨#[]⟩] []:=⟨rfl,ByB.nil⟩
def lsN:List Nat→List Nat→Prop
  |[],[]=>False
  |[],_::_=>True
  |_::_,[]=>False
  |x::a,y::b=>if x=y then lsN a b else x<y
def rpV:Rp Value where
 n:=1
 agg:=false
 R _ cs v:=cs=[v]∧v.oneCell'=true
 len:=by rintro h cs v ⟨rfl,_⟩;rfl
 mono:=fun _ r=>r
 one:=by rintro h cs v ⟨rfl,hv⟩;simp[hv]
 cell:=fun _=>rfl
theorem zDD{h:Mem}{v:Value}(hv:v.oneCell'=true):rpV.Is h v v:=⟨_,⟨rfl,hv⟩,rfl⟩
theorem of_v{h:Mem}{u v:Value}(r:rpV.Is h u v):v=u:=by
 obtain⟨cs,⟨rfl,z⟩,rfl⟩:=r
 rfl
theorem cI{h:Mem}:rpV.R h [.slice none 0 0] (.slice none 0 0):=⟨rfl,rfl⟩
section
variable {α β γ δ:Type}{h:Mem}
theorem zP8{ρ:Rp α}{v:Value}{xs:List α}(r:(rpS ρ).Is h v xs):(rpS ρ).R h [v] xs:=by
 obtain⟨cs,⟨u,ds,rfl,s,z⟩,rfl⟩:=r;exact⟨_,ds,rfl,s,z⟩
theorem zJK{π:Rp α}{ρ:Rp β}{τ:Rp γ}{cs:List Value}{p:α}{v:Value}{s:γ}{xs:List β}(r:(rpP π (rpP rpV τ)).R h cs (p,(v,s)))(k:(rpS ρ).Is h v xs):(rpP π (rpP (rpS ρ) τ)).R h cs (p,(xs,s)):=by
 obtain⟨a,b,e,C,c,d,D,⟨z,_⟩,u⟩:=r;exact⟨a,b,e,C,c,d,D,by rw[show c=[v] from z];exact zP8 k,u⟩
theorem yAB{ρ:Rp β}{τ:Rp γ}{cs:List Value}{v:Value}{s:γ}{xs:List β}(r:(rpP rpV τ).R h cs (v,s))(k:(rpS ρ).Is h v xs):(rpP (rpS ρ) τ).R h cs (xs,s):=by
 obtain⟨c,d,C,⟨z,_⟩,u⟩:=r;exact⟨c,d,C,by rw[show c=[v] from z];exact zP8 k,u⟩
end
section
variable {P:Program}{n:Nat}{w0:World}{h0:Mem}{e:List (Nat×Value)}{L:List Res}{h:Mem}
theorem zZD{E k m:Nat}{v:Value}{cs:List Value}{base:Nat}{w:World}(hok:(Res.gs E k v m cs).ok base w):v.oneCell'=true:=by
 obtain⟨_,u⟩:=hok
 rcases u with⟨rfl,_⟩|⟨g,cap,cur,rfl,_⟩<;>rfl
theorem jN{o:Oper}{A B:List Res}{r:Res}{E k m:Nat}{G:List Value→Prop}(hv:zBE P n w0 h0 o e A r B h (fun u r'=>∃cs',r'=.gs E k u m cs'∧G cs')):zBE P n w0 h0 o e A r B h (fun u r'=>u.oneCell'=true∧∃cs',r'=.gs E k u m cs'∧G cs'):=by
 intro a w M S;obtain⟨v,C,r',J,I,z,H,cs',rfl,D⟩:=hv a w M S;exact⟨v,C,_,J,I,z,H,zZD z,cs',rfl,D⟩
theorem aQ{o:Oper}{R:List Res}{Z:Value}(hv:OpX P n w0 h0 o e R h (fun u=>rpV.Is h u Z)):OpX P n w0 h0 o e R h (fun u=>Z=u):=by
 obtain⟨v,a,b⟩:=hv;exact⟨v,a,of_v b⟩
end
section
variable {α β:Type}
def uU(g:Nat→α):Nat→List α
  |0=>[]
  |i+1=>uU g i++[g i]
def cE(g:Nat→List α):Nat→List α
  |0=>[]
  |i+1=>cE g i++g i
noncomputable def cG(p:Nat→Prop)(g:Nat→α):Nat→List α
  |0=>[]
  |i+1=>cG p g i++(if p i then[g i] else[])
theorem y0{p:Nat→Prop}{g:Nat→α}{i:Nat}(h:p i):cG p g i++[g i]=cG p g (i+1):=by show _=_++_;rw[if_pos h]
theorem y5{p:Nat→Prop}{g:Nat→α}{i:Nat}(h:¬p i):cG p g i=cG p g (i+1):=by show _=_++_;rw[if_neg h,List.append_nil]
theorem zL4{p:Nat→Prop}{g:Nat→α}:∀n,cG p g n=[]↔∀i,i<n→¬p i
  |0=>⟨fun _ i h=>absurd h (Nat.not_lt_zero i),fun _=>rfl⟩
  |n+1=>by
   show _++_=[]↔_
   rw[List.append_eq_nil_iff,zL4 n];constructor
   · rintro⟨h1,h2⟩ i hi
     rcases Nat.lt_succ_iff_lt_or_eq.1 hi with h|h
     · exact h1 i h
     · subst h;intro e;rw[if_pos e] at h2;exact absurd h2 (by simp)
   · intro h
     exact⟨fun i hi=>h i (by omega),if_neg (h n (by omega))⟩
theorem sW(p:Nat→Prop)(g:Nat→α):∀n,(cG p g n).length≤n
  |0=>Nat.le_refl _
  |n+1=>by
   have:=sW p g n
   show List.length (_++_)≤_
   rw[lAz]
   split<;>simp<;>omega
theorem wK(g:Nat→α):∀n,(uU g n).length=n
  |0=>rfl
  |n+1=>by show List.length (_++_)=_;rw[lAz,wK g n];rfl
theorem rC(g:Nat→α)(d:α):∀{n i},i<n→(uU g n).getD i d=g i
  |0,i,h=>absurd h (Nat.not_lt_zero i)
  |n+1,i,h=>by
   show(uU g n++[g n]).getD i d=_
   rcases Nat.lt_succ_iff_lt_or_eq.1 h with h|h
   · rw[List.getD_eq_getElem?_getD,List.getElem?_append_left (by rw[wK];exact h),←List.getD_eq_getElem?_getD];exact rC g d h
   · subst h
     rw[List.getD_eq_getElem?_getD,List.getElem?_append_right (by rw[wK];exact Nat.le_refl _),wK,Nat.sub_self];rfl
theorem zNM{l:List α}(d:α){i:Nat}(h:i<l.length):l.take (i+1)=l.take i++[l.getD i d]:=by
 rw[List.take_succ_eq_append_getElem h,List.getD_eq_getElem?_getD,List.getElem?_eq_getElem h];rfl
theorem zSC{L:List (List α)}{n:Nat}(h:∀x,x∈L→x.length≤n)(m:Nat):(L.getD m []).length≤n:=by
 rw[List.getD_eq_getElem?_getD]
 rcases Nat.lt_or_ge m L.length with h1|h1
 · rw[List.getElem?_eq_getElem h1];exact h _ (List.getElem_mem h1)
 · rw[List.getElem?_eq_none h1];exact Nat.zero_le _
theorem zBX{g:Nat→α}{x:α}:∀{n},x∈uU g n→∃i,i<n∧x=g i
  |0,h=>absurd h List.not_mem_nil
  |n+1,h=>by
   rcases List.mem_append.1 (show x∈uU g n++[g n] from h) with h|h
   · obtain⟨i,hi,e⟩:=zBX h;exact⟨i,by omega,e⟩
   · exact⟨n,by omega,List.mem_singleton.1 h⟩
theorem nD{g:Nat→List α}{x:α}:∀{n},x∈cE g n→∃i,i<n∧x∈g i
  |0,h=>absurd h List.not_mem_nil
  |n+1,h=>by
   rcases List.mem_append.1 (show x∈cE g n++g n from h) with h|h
   · obtain⟨i,hi,e⟩:=nD h;exact⟨i,by omega,e⟩
   · exact⟨n,by omega,h⟩
theorem pR{l:List α}{d:α}{i:Nat}(h:i<l.length):l.getD i d∈l:=by
 rw[List.getD_eq_getElem?_getD,List.getElem?_eq_getElem h];exact List.getElem_mem h
noncomputable def cV(p:Nat→Prop):Nat→Nat
  |0=>0
  |k+1=>if p k then cV p k else k+1
theorem zLU{p:Nat→Prop}{k:Nat}(hk:0<k)(h:p (k-1)):cV p k=cV p (k-1):=by
 match k,hk with
 |k+1,_=>exact if_pos h
theorem zDP{p:Nat→Prop}{k:Nat}(h:¬(0<k∧p (k-1))):cV p k=k:=by
 match k with
 |0=>rfl
 |k+1=>exact if_neg fun e=>h ⟨by omega,e⟩
theorem zB0(p:Nat→Prop):∀k,cV p k≤k
  |0=>Nat.le_refl _
  |k+1=>by
   have:=zB0 p k;unfold cV
   split<;>omega
def eV(l:List α)(k:Nat)(x:α):List α:=l.take k++x::l.drop k
theorem zDE(l:List α){k:Nat}(x:α)(h:k≤l.length):(eV l k x).length=l.length+1:=by
 unfold eV;rw[lAz,lC,List.length_take,List.length_drop];omega
theorem zNZ{n u:Nat}(h:u<n):(List.replicate n False).getD u False↔False:=by
 rw[List.getD_eq_getElem?_getD,List.getElem?_replicate,if_pos h];exact Iff.rfl
end
end Bk
namespace Bk
set_option linter.unusedVariables false
set_option linter.unusedSimpArgs false
open Go Go.RowKit
section
variable {P:Program}{n:Nat}{w0:World}{h0:Mem}{e:List (Nat×Value)}{L:List Res}{h:Mem}{Q:Exit→Act→World→Prop}{ds:Option Tmp}{ty:TypeId}{ps:String}{af:Array Edge}{gd:Option (Nat×Bool)}{α:Type}
theorem zKE{ρ:Rp α}{xs:List α}{v:Value}{t E:TypeId}{x hu:Operand}{p:Int}(i:Nat)(ht:P.underlying t=some (.slice E))(hsz:∀w,(Go.sizeOf E).run P w=.ok ρ.n w)(hx:zJ e x=some v)(hl:zJ e hu=some (vI p))(r:(rpS ρ).Is h v xs)
    (hp:p=(i:Int))(hi:i≤xs.length):OpX P n w0 h0 ⟨ds,.slice t x none (some hu) none,ty,ps,af,gd⟩ e [] h (fun u=>(rpS ρ).Is h u (xs.take i)):=by
 obtain⟨cs,s,z⟩:=zN7 r;refine zQX (fun L' h'=>iS i ht hsz hx hl s.shape hp hi) ?_;have C:=s.sub (Nat.zero_le i) hi;have D:=z.len;rw[Nat.zero_mul,List.drop_zero,Nat.sub_zero] at C;exact zVH (by rw[List.length_take,Nat.min_eq_left hi];exact C) (z.take i)
theorem zMN:∀(a b:List Nat),ByB a→ByB b→(Op.bytesLess (a.map UInt8.ofNat) (b.map UInt8.ofNat)=true↔lsN a b)
  |[],[],_,_=>by simp[Op.bytesLess,lsN]
  |[],y::b,_,_=>by simp[Op.bytesLess,lsN]
  |x::a,[],_,_=>by simp[Op.bytesLess,lsN]
  |x::a,y::b,ha,hb=>by
   have hx:x<256:=ha x (.head _);have hy:y<256:=hb y (.head _);have ih:=zMN a b (fun z hz=>ha z (.tail _ hz)) (fun z hz=>hb z (.tail _ hz));have e1:(UInt8.ofNat x<UInt8.ofNat y)↔x<y:=by
    rw[UInt8.lt_iff_toNat_lt,UInt8.toNat_ofNat',UInt8.toNat_ofNat',Nat.mod_eq_of_lt (by simpa using hx),Nat.mod_eq_of_lt (by simpa using hy)]
   have u:(UInt8.ofNat x=UInt8.ofNat y)↔x=y:=by
    rw[←UInt8.toNat_inj,UInt8.toNat_ofNat',UInt8.toNat_ofNat',Nat.mod_eq_of_lt (by simpa using hx),Nat.mod_eq_of_lt (by simpa using hy)]
   show((decide (UInt8.ofNat x<UInt8.ofNat y)||(UInt8.ofNat x==UInt8.ofNat y&&Op.bytesLess _ _))=true)↔(if x=y then lsN a b else x<y)
   rw[Bool.or_eq_true,Bool.and_eq_true,decide_eq_true_eq,beq_iff_eq,e1,u,ih]
   split
   · rename_i hxy;subst hxy;exact⟨fun h=>h.elim (fun h=>absurd h (Nat.lt_irrefl _)) fun h=>h.2,fun h=>.inr ⟨rfl,h⟩⟩
   · rename_i hxy;exact⟨fun h=>h.elim id fun h=>absurd h.1 hxy,.inl⟩
theorem zQ2{pa pb:List Nat}{t yt:TypeId}{x y:Operand}(ha:ByB pa)(hb:ByB pb)(hx:zJ e x=some (.string (uT pa)))(hy:zJ e y=some (.string (uT pb))):OpV P n w0 h0 ⟨ds,.binOp .lss t x y yt,ty,ps,af,gd⟩ e L h (vB (lsN pa pb)):=by
 have u:Op.bytesLess (uT pa).toList (uT pb).toList=true↔lsN pa pb:=by
  rw[ByteArray.toList_eq,ByteArray.toList_eq];exact zMN pa pb ha hb
 have C:vB (lsN pa pb)=.bool (Op.bytesLess (uT pa).toList (uT pb).toList):=by
  by_cases hp:lsN pa pb
  · rw[xM hp,u.2 hp]
  · rw[yV hp,Bool.eq_false_iff.2 fun e=>hp (u.1 e)]
 rw[C];intro a w z S;simp only[execOp,z.eval hx,z.eval hy,binOp];simp[eqGuard,Op.stringOp]
theorem bR{A B:List Res}{E k m:Nat}{v:Value}{cs:List Value}{c:Code}(hm:0<m)(g:∀b cap,v=.slice (some ⟨b,0,none⟩) m cap→m≤cap→GC P n w0 h0 c Q e (A++.gs E k v m cs::B) h):GC P n w0 h0 c Q e (A++.gs E k v m cs::B) h:=by
 intro a w z S;obtain⟨_,u⟩:w.ownsRow w0.heap.size E k v m cs:=S.ok (.gs E k v m cs) (by simp)
 rcases u with⟨_,h0⟩|⟨b,cap,cur,hv,_,_,hc,_⟩
 · omega
 · exact g b cap hv hc a w z S
theorem gX{fn:Func}{v:Value}{L':List Res}{RO:Mem→Value→List Res→Prop}(hs:L'.Sublist L)(hres:∀{a:Act} {w:World},Env n e a→St w0 h0 L h w→(results fn a.tmps).run P w=.ok v w)(hR:RO h v L'):GQ n w0 h0 (bodyPost P fn (sQ w0 h0 RO)) .ret e L h:=by
 intro a w E S;exact bodyPost_ret (hres E S) E.defers ⟨_,h,L',rfl,hR,S.sublist hs⟩
def fT(xs:List α)(i:Nat):List α:=xs.take (i+1)++(xs.drop i).take (xs.length-i-1)
theorem kZ{xs:List α}{i:Nat}(h:i<xs.length):(fT xs i).length=xs.length:=by
 unfold fT;rw[lAz,List.length_take,List.length_take,List.length_drop];omega
theorem zPZ{ρ:Rp α}{cs:List Value}{xs:List α}{i:Nat}(hi:i<xs.length)(r:RL ρ h cs xs):RL ρ h (iC cs ((i+1)*ρ.n) ((cs.drop (i*ρ.n)).take ((xs.length-i-1)*ρ.n))) (fT xs i):=by
 have D:=r.len;have z:=(r.drop i).take (xs.length-i-1);have u:=r.take (i+1);have H:xs.length*ρ.n=(i+1)*ρ.n+(xs.length-i-1)*ρ.n:=by rw[←Nat.add_mul];congr 1;omega
 have G:(i+1)*ρ.n=i*ρ.n+ρ.n:=Nat.succ_mul _ _;have C:((cs.drop (i*ρ.n)).take ((xs.length-i-1)*ρ.n)).length=(xs.length-i-1)*ρ.n:=by rw[List.length_take,List.length_drop];omega
 rw[zCJ _ _ _ (by omega),C,show cs.drop ((i+1)*ρ.n+(xs.length-i-1)*ρ.n)=[] from List.drop_of_length_le (by omega),List.append_nil];exact u.append z
theorem aW{l:List α}{z x:α}{k:Nat}(h:k≤l.length):(fT (l++[z]) k).set k x=eV l k x:=by
 unfold fT eV;have D:(l++[z]).length-k-1=l.length-k:=by rw[lAz,List.length_singleton];omega
 have C:((l++[z]).drop k).take (l.length-k)=l.drop k:=by
  rw[List.drop_append_of_le_length h,List.take_append_of_le_length (by rw[List.length_drop];omega),List.take_of_length_le (by rw[List.length_drop];omega)]
 have u:k<(l++[z]).length:=by rw[lAz,List.length_singleton];omega
 rw[D,C,List.take_succ_eq_append_getElem u,List.append_assoc,List.set_append_right _ _ (by rw[List.length_take];omega),List.length_take,show k-min k (l++[z]).length=0 by omega];rw[List.take_append_of_le_length h]
 rfl
theorem aZ{A B:List Res}{t E b cap:Nat}{v:Value}{cs:List Value}{x y:Operand}{ρ:Rp α}{xs:List α}(i:Nat)(hv:v=.slice (some ⟨b,0,none⟩) xs.length cap)(hmc:xs.length≤cap)(ht:P.underlying t=some (.slice E))(hsz:∀w,(Go.sizeOf E).run P w=.ok ρ.n w)
    (hx:zJ e x=some (gH ρ.n v (i+1) xs.length))(hy:zJ e y=some (gH ρ.n v i xs.length))(hi:i<xs.length)(r:RL ρ h cs xs):
    zBE P n w0 h0 ⟨ds,.call {callee:=.builtin .copy,args:=#[x,y],argTypes:=#[t,t]},ty,ps,af,gd⟩ e A (.gs E ρ.n v xs.length cs) B h (fun u r'=>∃cs',r'=.gs E ρ.n v (fT xs i).length cs'∧RL ρ h cs' (fT xs i)):=by
 intro a w O S;have C:w.ownsRow w0.heap.size E ρ.n v xs.length cs:=S.ok (.gs E ρ.n v xs.length cs) (by simp);have aa:=C.1;subst hv;have Y:=zPZ hi r;have e1:xs.length*ρ.n=(i+1)*ρ.n+(xs.length-i-1)*ρ.n:=by rw[←Nat.add_mul];congr 1;omega
 have e2:(i+1)*ρ.n=i*ρ.n+ρ.n:=Nat.succ_mul _ _;have H:((cs.drop (i*ρ.n)).take ((xs.length-i-1)*ρ.n)).length=(xs.length-i-1)*ρ.n:=by rw[List.length_take,List.length_drop];omega
 have I:∀j u,((cs.drop (i*ρ.n)).take ((xs.length-i-1)*ρ.n))[j]?=some u→cs[i*ρ.n+j]?=some u:=fun j u D=>by
  rw[List.getElem?_take] at D
  split at D
  · rwa [List.getElem?_drop] at D
  · cases D
 have M:∀u∈(cs.drop (i*ρ.n)).take ((xs.length-i-1)*ρ.n),u.oneCell'=true:=fun u hu=>List.all_eq_true.1 r.one u (List.mem_of_mem_drop (List.mem_of_mem_take hu));generalize (cs.drop (i*ρ.n)).take ((xs.length-i-1)*ρ.n)=vs at *;obtain⟨h1,h2⟩:=aR vs ((i+1)*ρ.n) cs w C;have X:=kZ (xs:=xs) hi;have z:(loadCells ⟨b,i*ρ.n,none⟩ ((xs.length-i-1)*ρ.n)).run P w=.ok vs.toArray w:=by
  have:=run_loadCells_list (P:=P) (w:=w) ⟨b,i*ρ.n,none⟩ vs fun j u D=>by
   have h3:=C.cellAt (i*ρ.n+j) (by have:=(List.getElem?_eq_some_iff.1 (I j u D)).1;omega);rw[I j u D] at h3;rw[show(⟨b,i*ρ.n,none⟩:Addr).add j=⟨b,i*ρ.n+j,none⟩ from qZ _ _ _];exact h3
  rwa [H] at this
 have J:=run_storeCells_cells (P:=P) b ((i+1)*ρ.n) vs 0 w (fun j D=>by
  have h4:=C.cellAt ((i+1)*ρ.n+j) (by omega);rw[List.getElem?_eq_getElem (by omega)] at h4;simp[h4]) (fun j D=>by simpa using C.frozenAt ((i+1)*ρ.n+j)) M
 simp only[Nat.add_zero] at J;refine⟨vI ↑(xs.length-i-1),w.setCells b ((i+1)*ρ.n) vs,.gs E ρ.n (.slice (some ⟨b,0,none⟩) xs.length cap) xs.length (iC cs ((i+1)*ρ.n) vs),?_,h2,h1,fun b' hb=>.inl hb,_,by rw[X],Y⟩;have G:Nat.min (xs.length-i) (xs.length-(i+1))=xs.length-i-1:=by show min _ _=_;omega
 have Z:¬cap=i:=by omega
 simp only[gH,Z,if_false,Option.map_some] at hx hy;rw[show(⟨b,0,none⟩:Addr).add (i*ρ.n)=⟨b,i*ρ.n,none⟩ by simp[qZ]] at hy
 by_cases hc:cap=i+1
 · have T:xs.length-i-1=0:=by omega
   have U:vs=[]:=List.eq_nil_of_length_eq_zero (by rw[H,T,Nat.zero_mul]);subst U;simp only[hc,if_true] at hx;rw[T,Nat.zero_mul] at z;simp[execOp,resolve,invoke,builtin,O.eval hx,O.eval hy,Builtin.copy_,run_underlying ht,Builtin.lenOf,Builtin.firstCells,hsz,G,T,z,storeCells,World.setCells,goInt,vI]
 · simp only[hc,if_false] at hx
   rw[show(⟨b,0,none⟩:Addr).add ((i+1)*ρ.n)=⟨b,(i+1)*ρ.n,none⟩ by simp[qZ]] at hx;simp[execOp,resolve,invoke,builtin,O.eval hx,O.eval hy,Builtin.copy_,run_underlying ht,Builtin.lenOf,Builtin.firstCells,hsz,G,z,J,goInt,vI]
end
end Bk
namespace Bk
set_option linter.unusedVariables false
set_option linter.unusedSimpArgs false
open Go Go.RowKit
open Classical
abbrev tII:Rp (List (List Int)):=rpS (rpS rpI)
abbrev tE5:Rp (Int×Int×Int×Int×Int):=rpP rpI (rpP rpI (rpP rpI (rpP rpI rpI)))
abbrev tPt(k:Nat):Rp (T3 Rat):=rpT (rpQ k)
abbrev tLs(k:Nat):Rp (List (T3 Rat)):=rpS (rpT (rpQ k))
abbrev tLL(k:Nat):Rp (List (List (T3 Rat))):=rpS (rpS (rpT (rpQ k)))
abbrev tPl(k l:Nat):Rp (T3 Rat×Rat):=rpP (rpT (rpQ k)) (rpQ l)
abbrev Tq:=T3 Rat
abbrev Pq:=T3 Rat×Rat
abbrev Sq:=List (T3 Rat)×List ((T3 Rat×Rat)×List (List Int)×List Nat)×List (Int×Int×Rat)
abbrev tFc(k l:Nat):Rp ((T3 Rat×Rat)×List (List Int)×List Nat):=rpP (rpP (rpT (rpQ k)) (rpQ l)) (rpP (rpS (rpS rpI)) fD)
abbrev tSd(k m n j:Nat):Rp Sq:=rpP (rpS (rpT (rpQ k))) (rpP (rpS (rpP (rpP (rpT (rpQ m)) (rpQ n)) (rpP (rpS (rpS rpI)) fD))) (rpS (rpP rpI (rpP rpI (rpQ j)))))
abbrev zZ(p:T3 Rat):T3 Rat:=T3.mk p.x p.y (0:Rat)
abbrev pU(PP:List (T3 Rat))(sB:Value)(j:Int):T3 Rat:=((PP,(sB,([]:List (Int×Int×Rat)))).1).getD j.toNat zT
abbrev nU(PP:List (T3 Rat))(sB:Value)(I:List Int)(q:Nat):T3 Rat:=T3.mk ((((PP,(sB,([]:List (Int×Int×Rat)))).1).getD ((I.getD ((q+1)%I.length) 0).toNat) zT).y-(((PP,(sB,([]:List (Int×Int×Rat)))).1).getD ((I.getD q 0).toNat) zT).y) (-((((PP,(sB,([]:List (Int×Int×Rat)))).1).getD ((I.getD ((q+1)%I.length) 0).toNat) zT).x-(((PP,(sB,([]:List (Int×Int×Rat)))).1).getD ((I.getD q 0).toNat) zT).x)) (0:Rat)
abbrev lU(I:List Int)(q:Nat)(BB:List (T3 Rat)):List Int:=[(I.getD q (0:Int)),(I.getD ((q+1)%I.length) (0:Int)),((I.getD ((q+1)%I.length) (0:Int))+(↑BB.length:Int)),((I.getD q (0:Int))+(↑BB.length:Int))]
abbrev e50:Int×Int×Int×Int×Int:=((0:Int),((0:Int),((0:Int),((0:Int),(0:Int)))))
theorem dK{R A B:List Res}{q:Res}(hR:∀r∈R,r∈A++B:=by first|(simp;done)|grind):∀r∈R,r∈A++q::B→r∈A++B:=zO1 hR
theorem oM{p:Prop}(f:p:=by omega):p:=f
theorem dC{p:Prop}(f:p:=by decide):p:=f
theorem rP{p:Prop}(f:p:=by first|rfl|(push_cast;rfl)):p:=f
theorem nP{p:Prop}(f:p:=by exact Nat.le_of_ble_eq_true rfl):p:=f
theorem bO{p:Prop}(f:p:=by first|omega|(simp only[lAz,lC,lN,lR,lS];omega)):p:=f
theorem mle{h h':Mem}(f:MLe h h':=by with_reducible repeat (first|exact MLe.refl _|assumption|refine MLe.trans ?_ (by assumption))):MLe h h':=f
theorem Rp.Is.up{α:Type}{ρ:Rp α}{h h':Mem}{v:Value}{x:α}(r:ρ.Is h v x)(hm:MLe h h':=by exact mle):ρ.Is h' v x:=r.mono hm
theorem Rp.R.up{α:Type}{ρ:Rp α}{h h':Mem}{cs:List Value}{x:α}(r:ρ.R h cs x)(hm:MLe h h':=by exact mle):ρ.R h' cs x:=Rp.mono ρ hm r
theorem RL.up{α:Type}{ρ:Rp α}{h h':Mem}{cs:List Value}{xs:List α}(r:RL ρ h cs xs)(hm:MLe h h':=by exact mle):RL ρ h' cs xs:=RL.mono hm r
theorem AtP.up{α:Type}{ρ:Rp α}{h h':Mem}{p:Value}{X:α}(r:AtP ρ h p X)(hm:MLe h h':=by exact mle):AtP ρ h' p X:=r.mono hm
theorem Us.up{k:IntKind}{h h':Mem}{v:Value}{xs:List Nat}(r:Us k h v xs)(hm:MLe h h':=by exact mle):Us k h' v xs:=r.mono hm
class Und(P:Program)(t:TypeId) where
 d:TypeDesc
 h:P.underlying t=some d
class Siz(P:Program)(t:TypeId) where
 k:Nat
 h:∀w,(Go.sizeOf t).run P w=.ok k w
class Agg(P:Program)(t:TypeId) where
 b:Bool
 h:∀w,(isAgg t).run P w=.ok b w
class Inf(P:Program)(t:TypeId) where
 k:Nat
 h:(P.info? t).map (·.size)=some k
theorem uu{P:Program}{t:TypeId}{d:TypeDesc}(f:P.underlying t=some d:=by exact Und.h):P.underlying t=some d:=f
theorem uz{P:Program}{t:TypeId}{k:Nat}(f:∀w,(Go.sizeOf t).run P w=.ok k w:=by exact Siz.h):∀w,(Go.sizeOf t).run P w=.ok k w:=f
theorem ua{P:Program}{t:TypeId}{k:Bool}(f:∀w,(isAgg t).run P w=.ok k w:=by exact Agg.h):∀w,(isAgg t).run P w=.ok k w:=f
theorem us_{P:Program}{t:TypeId}{k:Nat}(f:(P.info? t).map (·.size)=some k:=by exact Inf.h):(P.info? t).map (·.size)=some k:=f
section
variable {α β γ:Type}
variable {P:Program}{n:Nat}{w0:World}{h0:Mem}{e:List (Nat×Value)}{L:List Res}{h:Mem}{Q:Exit→Act→World→Prop}
variable {ds:Option Tmp}{ty:TypeId}{ps:String}{af:Array Edge}{gd:Option (Nat×Bool)}
variable {ops:Array Oper}{rest:List Oper}{RR:List Res}{al:Als}{d i:Nat}{op:Op}{v:Value}{r:List (Nat×Kd)}{g t:Nat}{b:Bool}
theorem xV{o:Oper}{R:List Res}{ρ:Rp α}{X Z:α}(hv:OpX P n w0 h0 o e R h (fun u=>ρ.Is h u X))(hZ:X=Z:=by first|(dsimp only<;>exact rfl)|exact rfl):OpX P n w0 h0 o e R h (fun u=>ρ.Is h u Z):=hZ▸hv
theorem mmx{L R:List Res}(f:∀r∈R,r∈L:=by first|exact zBI|exact tT mh0|exact tT mh1|exact tT mh2|exact tT mh3|exact tT mh4|exact tT mh5|exact tT mh6|exact tT mh7|exact tT (.tail _ mh7)|exact tT (.tail _ (.tail _ mh7))|exact tT (.tail _ (.tail _ (.tail _ mh7)))):∀r∈R,r∈L:=f
theorem lX{R:List Res}{F:Value→Prop}(hv:OpX P n w0 h0 ⟨some d,op,ty,ps,af,none⟩ e R h F)(k:∀v,F v→GL P n w0 h0 ops Q rest ((d,v)::e) L h)(hR:∀r∈R,r∈L:=by exact mmx)(hn:Nat.ble (d+1) n=true:=by exact rfl):GL P n w0 h0 ops Q (⟨some d,op,ty,ps,af,none⟩::rest) e L h:=zEB hv hR hn k
theorem wX{R:List Res}{F:Value→Prop}(ho:ops.getD i default=⟨some d,op,ty,ps,af,none⟩)(hv:OpX P n w0 h0 ⟨some d,op,ty,ps,af,none⟩ e R h F)(k:∀v,F v→W P n w0 h0 ops Q RR al r ((d,v)::e) L h)(hR:∀r∈R,r∈RR:=by exact mmx)(hn:Nat.ble (d+1) n=true:=by exact rfl):W P n w0 h0 ops Q RR al ((i,.q)::r) e L h:=mX ho hv hR hn k
theorem xX{K:List (Nat×Value)→List Res→Mem→Prop}{R:List Res}{F:Value→Prop}(ho:ops.getD i default=⟨some d,op,ty,ps,af,none⟩)(hv:OpX P n w0 h0 ⟨some d,op,ty,ps,af,none⟩ e R h F)(k:∀v,F v→K ((d,v)::e) L h)(hR:∀r∈R,r∈RR:=by exact mmx)(hn:Nat.ble (d+1) n=true:=by exact rfl):SQ P n w0 h0 ops RR i e L h K:=x_qx ho hv hR hn k
theorem oX{R:List Res}{F:Value→Prop}(ho:ops.getD i default=⟨some d,op,ty,ps,af,some (g,b)⟩)(hv:OpX P n w0 h0 ⟨some d,op,ty,ps,af,none⟩ e R h F)(k:∀v,F v→W P n w0 h0 ops Q RR al r ((d,v)::e) L h)(ht:(ops[g]?).bind (·.dst)=some t:=by exact rfl)(he:e.lookup t=some (.bool b):=by exact rfl)(hR:∀r∈R,r∈RR:=by exact mmx)(hn:Nat.ble (d+1) n=true:=by exact rfl):W P n w0 h0 ops Q RR al ((i,.q)::r) e L h:=aB ho ht he hv hR hn k
theorem sX{W':List (Nat×Value)→List Res→Mem→Prop}{R:List Res}{F:Value→Prop}(hv:OpX P n w0 h0 ⟨some d,op,ty,ps,af,none⟩ e R h F)(k:∀v,F v→W' ((d,v)::e) L h)(hR:∀r∈R,r∈L:=by exact mmx)(hn:Nat.ble (d+1) n=true:=by exact rfl):qU P n w0 h0 ops RR ⟨some d,op,ty,ps,af,none⟩ e L h W':=s_x hv hR hn k
theorem xB{t E:TypeId}{x:Operand}{b k off:Nat}{cs:List Value}{ρ:Rp α}{σ:Rp β}{g:α→β}{s:α→β→α}{X:α}{Z:β}(T:TyOk P t σ.n σ.agg)(pc:Pc ρ off σ g s){h1:Mem}(r:ρ.R h1 cs X)(hx:zJ e x=some (vP b k):=by exact rfl)(ho:k=off:=by exact rfl)(hZ:g X=Z:=by first|(dsimp only<;>exact rfl)|exact rfl)(hm:MLe h1 h:=by exact mle):
 OpX P n w0 h0 ⟨ds,.load t x,ty,ps,af,gd⟩ e [.var b E cs] h (fun u=>σ.Is h u Z):=zHV T pc ho hx (r.up hm) hZ
theorem xA{t:TypeId}{x:Operand}{p:Value}{ρ:Rp α}{X:α}(T:TyOk P t ρ.n ρ.agg){h1:Mem}(r:AtP ρ h1 p X)(hx:zJ e x=some p:=by exact rfl)(hm:MLe h1 h:=by exact mle):OpX P n w0 h0 ⟨ds,.load t x,ty,ps,af,gd⟩ e [] h (fun u=>ρ.Is h u X):=zKF T hx (r.up hm)
theorem xI{t E:TypeId}{x y:Operand}{q:Int}{v:Value}{ρ:Rp α}{xs:List α}(d:α)(i:Nat)(ht:P.underlying t=some (.slice E))(T:TyOk P E ρ.n ρ.agg){h1:Mem}(r:(rpS ρ).Is h1 v xs)(hx:zJ e x=some v:=by exact rfl)(hy:zJ e y=some (vI q):=by exact rfl)(hq:q=(i:Int):=by first|exact rfl|(push_cast;exact rfl)|omega)(hi:i<xs.length:=by omega)(hp:0<ρ.n:=by exact Nat.le_of_ble_eq_true rfl)(hm:MLe h1 h:=by exact mle):
 OpX P n w0 h0 ⟨ds,.indexAddr t x y,ty,ps,af,gd⟩ e [] h (fun u=>AtP ρ h u (xs.getD i d)):=lH d i ht T hx hy (r.up hm) hq hi hp
theorem xF{t:TypeId}{x:Operand}{f off m:Nat}{fs:Array Field}{fl:Field}{p:Value}{ρ:Rp α}{σ:Rp β}{g:α→β}{s:α→β→α}{X:α}{Z:β}(ht:P.underlying t=some (.struct fs))(hsz:∀w,(Go.sizeOf fl.type).run P w=.ok (m+1) w)(pc:Pc ρ off σ g s){h1:Mem}(r:AtP ρ h1 p X)(hf:fs[f]?=some fl:=by exact rfl)(ho:fl.offset=off:=by exact rfl)(hx:zJ e x=some p:=by exact rfl)(hZ:g X=Z:=by first|(dsimp only<;>exact rfl)|exact rfl)(hm:MLe h1 h:=by exact mle):
 OpX P n w0 h0 ⟨ds,.fieldAddr t x f,ty,ps,af,gd⟩ e [] h (fun u=>AtP σ h u Z):=zN3 ht hf hsz pc ho hx (r.up hm) hZ
theorem uB{E t:TypeId}{b k off:Nat}{cs:List Value}{v:Value}{x y:Operand}{ρ:Rp α}{σ:Rp β}{g:α→β}{s:α→β→α}{X Z:α}{Y:β}(hsz:∀w,(Go.sizeOf t).run P w=.ok σ.n w)(pc:Pc ρ off σ g s){h1 h2:Mem}(r:ρ.R h1 cs X)(ry:σ.Is h2 v Y)(hx:zJ e x=some (vP b k):=by exact rfl)(ho:k=off:=by exact rfl)(hy:zJ e y=some v:=by exact rfl)(hZ:s X Y=Z:=by first|(dsimp only<;>exact rfl)|exact rfl)(hm:MLe h1 h:=by exact mle)(hm2:MLe h2 h:=by exact mle):
 ∃cs',ρ.R h cs' Z∧∀A B,Upd P n w0 h0 ⟨ds,.store t x y,ty,ps,af,gd⟩ e A (.var b E cs) B h (.var b E cs'):=zTL hsz pc ho hx hy (r.up hm) (ry.up hm2) hZ
theorem pH{ρ:Rp α}:Pc ρ 0 ρ (fun x=>x) (fun _ y=>y):=Pc.here ρ
theorem ev1{x:Operand}{v:Value}(hx:zJ e x=some v):rO e [x] [v]:=⟨hx,trivial⟩
theorem ev2{x y:Operand}{v u:Value}(hx:zJ e x=some v)(hy:zJ e y=some u):rO e [x,y] [v,u]:=⟨hx,hy,trivial⟩
theorem ev3{x y z:Operand}{v u s:Value}(hx:zJ e x=some v)(hy:zJ e y=some u)(hz:zJ e z=some s):rO e [x,y,z] [v,u,s]:=⟨hx,hy,hz,trivial⟩
theorem ev4{x y z a:Operand}{v u s c:Value}(hx:zJ e x=some v)(hy:zJ e y=some u)(hz:zJ e z=some s)(ha:zJ e a=some c):rO e [x,y,z,a] [v,u,s,c]:=⟨hx,hy,hz,ha,trivial⟩
theorem cL{f:Nat}{xs:List Operand}{ts:Array TypeId}{vs:List Value}{R:Mem→Value→Prop}(hvs:rO e xs vs)(hcall:∀args w,(callFunc f args).run P w=.ok (.enter f args) w)(hc:∀w,MLe h (mem w)→Calls P f vs.toArray w (Ret w h R))(k:∀v h',MLe h h'→R h' v→GL P n w0 h0 ops Q rest ((d,v)::e) L h')(hn:Nat.ble (d+1) n=true:=by exact rfl):
 GL P n w0 h0 ops Q (⟨some d,.call {callee:=.value (.func f),args:=xs.toArray,argTypes:=ts},ty,ps,af,none⟩::rest) e L h:=zVN (o:=⟨some d,.call {callee:=.value (.func f),args:=xs.toArray,argTypes:=ts},ty,ps,af,none⟩) rfl rfl rfl hn hcall hvs hc k
theorem sC{W':List (Nat×Value)→List Res→Mem→Prop}{f:Nat}{xs:List Operand}{ts:Array TypeId}{vs:List Value}{R':Mem→Value→Prop}(hvs:rO e xs vs)(hcall:∀args w,(callFunc f args).run P w=.ok (.enter f args) w)(hc:∀w,MLe h (mem w)→Calls P f vs.toArray w (Ret w h R'))(k:∀v h',MLe h h'→R' h' v→W' ((d,v)::e) L h')(hn:Nat.ble (d+1) n=true:=by exact rfl):
 qU P n w0 h0 ops RR ⟨some d,.call {callee:=.value (.func f),args:=xs.toArray,argTypes:=ts},ty,ps,af,none⟩ e L h W':=zX3 hcall hvs hc hn k
theorem nB{E:TypeId}{x:Operand}{v:Value}{ρ:Rp α}{X:α}{h1:Mem}(r:ρ.Is h1 v X)(k:∀b cs,ρ.R h cs X→GL P n w0 h0 ops Q rest ((d,vP b 0)::e) (.var b E cs::L) h)(hx:zJ e x=some v:=by exact rfl)(hn:Nat.ble (d+1) n=true:=by exact rfl)(hm:MLe h1 h:=by exact mle):GL P n w0 h0 ops Q (⟨some d,.box E x,ty,ps,af,none⟩::rest) e L h:=
 zF (zRK hx (r.up hm)) rfl rfl hn fun v q z=>by obtain⟨b,cs,rfl,rfl,u⟩:=z;exact k b cs u
theorem nA{E:TypeId}{i:TypeInfo}{z:Value}{cs:List Value}{ρ:Rp α}{X:α}(hi:P.info? E=some i)(r:ρ.R h cs X)(k:∀b cs,ρ.R h cs X→GL P n w0 h0 ops Q rest ((d,vP b 0)::e) (.var b E cs::L) h)(hz:i.zero=some z:=by exact rfl)(hc:z.cells=cs.toArray:=by exact rfl)(hn:Nat.ble (d+1) n=true:=by exact rfl):GL P n w0 h0 ops Q (⟨some d,.alloc E,ty,ps,af,none⟩::rest) e L h:=
 zF (zK3 hi hz hc r) rfl rfl hn fun v q C=>by obtain⟨b,cs,rfl,rfl,u⟩:=C;exact k b cs u
theorem cnd{c:Operand}{x y:Code}{p:Prop}(kt:p→GC P n w0 h0 x Q e L h)(kf:¬p→GC P n w0 h0 y Q e L h)(hc:zJ e c=some (vB p):=by exact rfl):GC P n w0 h0 (.cond c x y) Q e L h:=zVO hc kt kf
theorem gT{p:Prop}{v:Operand}(hg:p)(hv:zJ e v=some (vB p))(k:GL P n w0 h0 ops Q rest ((d,.bool true)::e) L h)(hn:Nat.ble (d+1) n=true:=by exact rfl):GL P n w0 h0 ops Q (⟨some d,.move v,ty,ps,af,none⟩::rest) e L h:=mD (yX (hv.trans (congrArg some (xM hg)))) rfl rfl hn k
theorem gF{p:Prop}{v:Operand}(hg:¬p)(hv:zJ e v=some (vB p))(k:GL P n w0 h0 ops Q rest ((d,.bool false)::e) L h)(hn:Nat.ble (d+1) n=true:=by exact rfl):GL P n w0 h0 ops Q (⟨some d,.move v,ty,ps,af,none⟩::rest) e L h:=mD (yX (hv.trans (congrArg some (yV hg)))) rfl rfl hn k
theorem gU{l:List Oper}(j t:Nat)(v:Value)(kx:GL P n w0 h0 ops (Exit.then (fun a w=>∃i:Unit,True∧Env n ((t,v)::e) a∧St w0 h0 L h w) Q) (l.take j) e L h)(ky:GL P n w0 h0 ops Q (l.drop j) ((t,v)::e) L h):GL P n w0 h0 ops Q l e L h:=uL j (fun _=>True) (fun _=>(t,v)::e) (fun _=>L) (fun _=>h) kx fun _ _=>ky
@[reducible] def zPC:List Nat→List (Nat×Value)→List (Nat×Value)→Prop
  |_,[],_=>True
  |s,(t,v)::r,e=>(if s.contains t then True else e.lookup t=some v)∧zPC (t::s) r e
theorem zPC.look{e:List (Nat×Value)}:∀{e0:List (Nat×Value)} {s:List Nat},zPC s e0 e→∀t v,s.contains t=false→e0.lookup t=some v→e.lookup t=some v
  |[],_,_,t,v,_,h=>by simp at h
  |(k,u)::r,s,hs,t,v,hn,h=>by
   simp only[List.lookup_cons] at h
   by_cases ht:t=k
   · subst ht
     simp at h;subst h;have:=hs.1
     rwa [if_neg (by rw[hn];simp)] at this
   · have h1:(t==k)=false:=by simpa using ht
     rw[h1] at h;refine zPC.look hs.2 t v ?_ h;rw[List.contains_cons,h1,hn];rfl
theorem Env.subS{e0:List (Nat×Value)}{a:Act}(E:Env n e a)(h:zPC [] e0 e):Env n e0 a:=⟨E.defers,E.size,fun t v ht=>E.get t v (h.look t v rfl ht)⟩
theorem gqU{e0:List (Nat×Value)}{t:Nat}{v:Value}(hv:e.lookup t=some v)(hs:zPC [t] e0 e:=by repeat (first|exact trivial|refine⟨by first|exact rfl|exact trivial,?_⟩)):GQ n w0 h0 (Exit.then (fun a w=>∃i:Unit,True∧Env n ((t,v)::e0) a∧St w0 h0 L h w) Q) .normal e L h:=fun a w E S=>⟨(),trivial,E.subS ⟨hv,hs⟩,S⟩
theorem gcL{ι:Type}{c:Code}{A:Prop}(S:ι→Prop×List (Nat×Value)×List Res×Mem×Nat)(i0:ι)(hi0:A)(round:∀i,(S i).1→GC P n w0 h0 c (Exit.then (fun a w=>∃j,((S j).1∧(S j).2.2.2.2<(S i).2.2.2.2)∧Env n (S j).2.1 a∧St w0 h0 (S j).2.2.1 (S j).2.2.2.1 w) Q) (S i).2.1 (S i).2.2.1 (S i).2.2.2.1)
    (hA:(S i0).1=A:=by first|(dsimp only<;>exact rfl)|exact rfl)(he:Sub (S i0).2.1 e:=by repeat (first|exact trivial|refine⟨rfl,?_⟩))(hL:(S i0).2.2.1=L:=by exact rfl)(hh:(S i0).2.2.2.1=h:=by exact rfl):GC P n w0 h0 (.loop c) Q e L h:=
 jP (fun i=>(S i).1) (fun i=>(S i).2.1) (fun i=>(S i).2.2.1) (fun i=>(S i).2.2.2.1) (fun i=>(S i).2.2.2.2) i0 (hA▸hi0) he hL hh round
theorem gqL{ι:Type}{A:Prop}{B M m:Nat}{S:ι→Prop×List (Nat×Value)×List Res×Mem×Nat}(i:ι)(hi:A)(hm:B<M)(hA:(S i).1=A:=by first|(dsimp only<;>exact rfl)|exact rfl)(hB:(S i).2.2.2.2=B:=by first|(dsimp only<;>exact rfl)|exact rfl)(hM:m=M:=by first|(dsimp only<;>exact rfl)|exact rfl)(he:Sub (S i).2.1 e:=by repeat (first|exact trivial|refine⟨rfl,?_⟩))(hL:(S i).2.2.1=L:=by exact rfl)(hh:(S i).2.2.2.1=h:=by exact rfl):
 GQ n w0 h0 (Exit.then (fun a w=>∃j,((S j).1∧(S j).2.2.2.2<m)∧Env n (S j).2.1 a∧St w0 h0 (S j).2.2.1 (S j).2.2.2.1 w) Q) .normal e L h:=
 qN (inv:=fun i=>(S i).1) (ev:=fun i=>(S i).2.1) (Lv:=fun i=>(S i).2.2.1) (hv:=fun i=>(S i).2.2.2.1) (μ:=fun i=>(S i).2.2.2.2) i (hA▸hi) (by rw[hM];exact hB▸hm) he hL hh
theorem cb0{f:FuncId}{fn:Func}{c:Code}{R:Ending→World→Prop}(n:Nat)(hf:P.funcs[f]?=some fn)(hs:MLe h0 (mem w0))(k:GC P n w0 h0 c (bodyPost P fn R) [] [] h0)(hb:fn.body=some c:=by exact rfl)(hn:fn.ntmps=n:=by exact rfl)(hl:([]:List Value).length≤n:=by exact Nat.le_of_ble_eq_true rfl):Calls P f #[] w0 R:=gM (e:=[]) (vs:=[]) hf hb hn hl hs trivial k
theorem cb1{f:FuncId}{fn:Func}{c:Code}{R:Ending→World→Prop}(n:Nat)(v:Value)(hf:P.funcs[f]?=some fn)(hs:MLe h0 (mem w0))(k:GC P n w0 h0 c (bodyPost P fn R) [(0,v)] [] h0)(hb:fn.body=some c:=by exact rfl)(hn:fn.ntmps=n:=by exact rfl)(hl:[v].length≤n:=by exact Nat.le_of_ble_eq_true rfl):Calls P f #[v] w0 R:=gM (e:=[(0,v)]) (vs:=[v]) hf hb hn hl hs ⟨rfl,trivial⟩ k
theorem cb2{f:FuncId}{fn:Func}{c:Code}{R:Ending→World→Prop}(n:Nat)(v u:Value)(hf:P.funcs[f]?=some fn)(hs:MLe h0 (mem w0))(k:GC P n w0 h0 c (bodyPost P fn R) [(0,v),(1,u)] [] h0)(hb:fn.body=some c:=by exact rfl)(hn:fn.ntmps=n:=by exact rfl)(hl:[v,u].length≤n:=by exact Nat.le_of_ble_eq_true rfl):Calls P f #[v,u] w0 R:=gM (e:=[(0,v),(1,u)]) (vs:=[v,u]) hf hb hn hl hs e2z k
theorem cb3{f:FuncId}{fn:Func}{c:Code}{R:Ending→World→Prop}(n:Nat)(v u s:Value)(hf:P.funcs[f]?=some fn)(hs:MLe h0 (mem w0))(k:GC P n w0 h0 c (bodyPost P fn R) [(0,v),(1,u),(2,s)] [] h0)(hb:fn.body=some c:=by exact rfl)(hn:fn.ntmps=n:=by exact rfl)(hl:[v,u,s].length≤n:=by exact Nat.le_of_ble_eq_true rfl):Calls P f #[v,u,s] w0 R:=gM (e:=[(0,v),(1,u),(2,s)]) (vs:=[v,u,s]) hf hb hn hl hs e3z k
def qq(a:Nat):Nat→List (Nat×Kd)→List (Nat×Kd)
  |0,r=>r
  |n+1,r=>(a,.q)::qq (a+1) n r
def frz(m:Nat)(l:List Nat):List Nat:=l.map (m-·)
theorem yU{c:Code}{e':List (Nat×Value)}{L':List Res}{h':Mem}(k:GC P n w0 h0 c Q e' L' h')(he:e=e':=by first|(dsimp only<;>exact rfl)|exact rfl)(hL:L=L':=by first|(dsimp only<;>exact rfl)|exact rfl)(hh:h=h':=by first|(dsimp only<;>exact rfl)|exact rfl):GC P n w0 h0 c Q e L h:=by subst he hL hh;exact k
theorem tJ{l:List Oper}{e':List (Nat×Value)}{L':List Res}{h':Mem}(k:GL P n w0 h0 ops Q l e' L' h')(he:e=e':=by first|(dsimp only<;>exact rfl)|exact rfl)(hL:L=L':=by first|(dsimp only<;>exact rfl)|exact rfl)(hh:h=h':=by first|(dsimp only<;>exact rfl)|exact rfl):GL P n w0 h0 ops Q l e L h:=by subst he hL hh;exact k
end
end Bk
namespace Bk
set_option linter.unusedVariables false
open Go Go.RowKit
def frc(x:Nat)(f:Nat→Bool):Bool:=match x with|0=>f 0|n+1=>f (n+1)
theorem zZH(x:Nat)(f:Nat→Bool):frc x f=f x:=by cases x<;>rfl
def zVP:List Nat→(List Nat→Bool)→Bool
  |[],f=>f []
  |x::r,f=>frc x fun y=>zVP r fun ys=>f (y::ys)
theorem zM0:∀(l:List Nat) (f:List Nat→Bool),zVP l f=f l
  |[],f=>rfl
  |x::r,f=>by show frc x _=_;rw[zZH,zM0 r]
def zNA(l:List Oper)(m:Nat)(al:Als)(ord:List (Nat×Kd)):Bool:=
 Region.noSelect l.toArray&&rI l.toArray al&&(al.all fun x=>decide (x.1<m))&&(l.all fun o=>o.after.all fun e=>decide (e.on<l.length))&&(zVP (l.map t8) fun ams=>zVP ((List.range l.length).map (zIY l.toArray ams)) fun frs=>nI l.toArray l.length m ams frs ord 0 (al.map (·.1)))
theorem vJ{l:List Oper}{m:Nat}{al:Als}{ord:List (Nat×Kd)}(h:zNA l m al ord=true):
 (Region.noSelect l.toArray&&rI l.toArray al&&(al.all fun x=>decide (x.1<m))&&chk l.toArray m ord (Array.replicate l.length false) (al.map (·.1)))=true:=by
 refine zZT (l.map t8) ((List.range l.length).map (zIY l.toArray (l.map t8))) ?_;simp only[zNA,Bool.and_eq_true,zM0] at h;simp only[zLT,Bool.and_eq_true];exact⟨⟨h.1,by simp[mQ]⟩,h.2⟩
end Bk
