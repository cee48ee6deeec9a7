/- Texts that the proof needs, part 2. -/
import Derived.Test.YtboaboflnckgoaaGreatK1
namespace Bk
set_option linter.unusedVariables false
set_option linter.unusedSimpArgs false
open Go Go.RowKit
open Classical
noncomputable def sg(s:Prop)(n:Nat):Int:=if s then -(n:Int) else n
theorem mT{s:Prop}(h:s)(n:Nat):sg s n= -(n:Int):=if_pos h
theorem aP{s:Prop}(h:¬s)(n:Nat):sg s n=n:=if_neg h
theorem eD(s:Prop)(n:Nat):(sg s n).natAbs=n:=by
  by_cases h:s
  · rw[mT h];omega
  · rw[aP h];omega
theorem zTM(s:Prop):sg s 0=0:=by
  by_cases h:s
  · rw[mT h];omega
  · rw[aP h];omega
theorem zPM(s:Prop)(n:Nat):sg s n<0↔s∧n≠0:=by
  by_cases h:s
  · rw[mT h];exact⟨fun h1=>⟨h,by omega⟩,fun h1=>by omega⟩
  · rw[aP h];exact⟨fun h1=>by omega,fun h1=>absurd h1.1 h⟩
theorem zW3(s:Prop){n g:Nat}(h:g∣n):sg s n/(g:Int)=sg s (n/g):=by
  by_cases hs:s
  · rw[mT hs,mT hs]
    obtain⟨k,rfl⟩:=h
    rcases Nat.eq_zero_or_pos g with h0|h0
    · subst h0;simp
    · rw[Nat.mul_div_cancel_left _ h0,Int.natCast_mul,←Int.mul_neg,Int.mul_ediv_cancel_left _ (by omega)]
  · rw[aP hs,aP hs];omega
theorem zW2(q:Rat):sg (q.num<0) q.num.natAbs=q.num:=by
  by_cases h:q.num<0
  · rw[mT h];omega
  · rw[aP h];omega
def xT(d:Nat):Nat:=if d=1 then 0 else d
theorem pP:xT 1=0:=rfl
theorem cP{d:Nat}(h:d≠1):xT d=d:=if_neg h
theorem mE{d:Nat}(h0:d≠0):zB (xT d)=[]↔d=1:=by
  by_cases h:d=1
  · subst h;rw[pP,yN];simp
  · rw[cP h]
    exact⟨fun e=>by have:=yI.2 h0;rw[e] at this;simp at this,fun e=>absurd e h⟩
theorem uL(q:Rat):(if zB (xT q.den)=[] then[1] else zB (xT q.den))=zB q.den:=by
  by_cases h:q.den=1
  · rw[if_pos ((mE q.den_nz).2 h),h,qX (by omega) (by omega)]
  · rw[if_neg (fun e=>h ((mE q.den_nz).1 e)),cP h]
def wD(h:Mem)(v:Value)(q:Rat):Prop:=∃vn vd,v=.agg #[vB (q.num<0),vn,vd]∧Us .u32 h vn (zB q.num.natAbs)∧Us .u32 h vd (zB (xT q.den))
theorem zb:vB ((0:Rat).num<0)=.bool false:=yS (by decide)
theorem zAN(h:Mem):Us .u32 h (.slice none 0 0) (zB (0:Rat).num.natAbs):=by
  have:zB (0:Rat).num.natAbs=[]:=yN
  rw[this];exact Us.nil _ _
theorem zAO(h:Mem):Us .u32 h (.slice none 0 0) (zB (xT (0:Rat).den)):=by
  have:zB (xT (0:Rat).den)=[]:=yN
  rw[this];exact Us.nil _ _
theorem wD.zero(h:Mem):wD h (.agg #[vB ((0:Rat).num<0),.slice none 0 0,.slice none 0 0]) 0:=⟨_,_,rfl,zAN _,zAO _⟩
theorem s7{s:Prop}{n d:Nat}(hd:d≠0):(mkRat (sg s n) d).num=sg s (n/Nat.gcd n d):=by
  rw[Rat.num_mkRat,if_neg hd,eD,Nat.gcd_comm]
  exact zW3 s (Nat.gcd_dvd_left n d)
theorem zEO{s:Prop}{n d:Nat}(hd:d≠0):(mkRat (sg s n) d).den=d/Nat.gcd n d:=by
  rw[Rat.den_mkRat,if_neg hd,eD,Nat.gcd_comm]
theorem wD.make{h:Mem}{s:Prop}{n d:Nat}{vn vd:Value}(hn0:n≠0)(hd0:d≠0)(hn:Us .u32 h vn (zB (n/Nat.gcd n d)))(hd:Us .u32 h vd (zB (xT (d/Nat.gcd n d)))):wD h (.agg #[vB s,vn,vd]) (mkRat (sg s n) d):=by
  have hg:n/Nat.gcd n d≠0:=by
    have h1:=Nat.gcd_dvd_left n d
    have h2:=Nat.gcd_pos_of_pos_left d (Nat.pos_of_ne_zero hn0)
    exact Nat.ne_of_gt (Nat.div_pos (Nat.le_of_dvd (Nat.pos_of_ne_zero hn0) h1) h2)
  refine⟨vn,vd,?_,?_,?_⟩
  · have:vB ((mkRat (sg s n) d).num<0)=vB s:=by
      rw[s7 hd0]
      exact fJ ⟨fun h=>((zPM _ _).1 h).1,fun h=>(zPM _ _).2 ⟨h,hg⟩⟩
    rw[this]
  · rw[s7 hd0,eD];exact hn
  · rw[zEO hd0];exact hd
noncomputable def dH(q:Rat):Rat:=if q.num<0 then -q else q
theorem zDJ(q:Rat):(dH q).num=q.num.natAbs:=by
  unfold dH
  by_cases h:q.num<0
  · rw[if_pos h,Rat.neg_num];omega
  · rw[if_neg h];omega
theorem zI3(q:Rat):(dH q).den=q.den:=by
  unfold dH
  by_cases h:q.num<0
  · rw[if_pos h,Rat.neg_den]
  · rw[if_neg h]
theorem wD.abs{h:Mem}{q:Rat}{vn vd:Value}(hn:Us .u32 h vn (zB q.num.natAbs))(hd:Us .u32 h vd (zB (xT q.den))):wD h (.agg #[.bool false,vn,vd]) (dH q):=by
  refine⟨vn,vd,?_,?_,?_⟩
  · rw[yS (by rw[zDJ];omega)]
  · rw[zDJ];exact hn
  · rw[zI3];exact hd
theorem wD.negB{h:Mem}{q:Rat}{vn vd:Value}(hn:Us .u32 h vn (zB q.num.natAbs))(hd:Us .u32 h vd (zB (xT q.den))):wD h (.agg #[vB (¬q.num<0∧(0:Int)<↑(zB q.num.natAbs).length),vn,vd]) (-q):=by
  refine⟨vn,vd,?_,?_,?_⟩
  · have:vB ((-q).num<0)=vB (¬q.num<0∧(0:Int)<↑(zB q.num.natAbs).length):=by
      have h1:=yI (n:=q.num.natAbs)
      rw[Rat.neg_num]
      exact fJ ⟨fun h=>⟨by omega,by omega⟩,fun h=>by omega⟩
    rw[this]
  · rw[Rat.neg_num,Int.natAbs_neg];exact hn
  · rw[Rat.neg_den];exact hd
theorem zCZ{m n k:Nat}(h1:(zB m).length≤k)(h2:(zB n).length≤k):(zB (m+n)).length≤k+1:=by
  refine vZ ?_
  have a1:=Nat.lt_of_lt_of_le (uJ m) (Nat.pow_le_pow_right (by decide) h1)
  have a2:=Nat.lt_of_lt_of_le (uJ n) (Nat.pow_le_pow_right (by decide) h2)
  rw[Nat.pow_succ]
  generalize 4294967296^k=p at *
  omega
theorem putL{xs:List Nat}{lo n:Nat}(h:lo+1≤xs.length)(h0:n≠0)(hn:n<4294967296):xs.set lo n=xs.take lo++zB n++xs.drop (lo+(zB n).length):=by
  rw[qX h0 hn,List.set_eq_take_append_cons_drop,if_pos (by omega)]
  simp
theorem zZ0{xs:List Nat}{lo n:Nat}(h:lo+2≤xs.length)(hn:n<18446744073709551616)(hn':4294967296≤n):(xs.set lo (n%4294967296)).set (lo+1) (n/4294967296)=xs.take lo++zB n++xs.drop (lo+(zB n).length):=by
  have e:zB n=[n%4294967296,n/4294967296]:=by rw[jR (by omega),qX (t:=n/4294967296) (by omega) (by omega)]
  rw[e]
  apply List.ext_getElem?
  intro i
  simp only[List.getElem?_set,lS,List.getElem?_append,lAz,List.length_take,lC,lN,List.getElem?_take,List.getElem?_drop]
  rcases Nat.lt_trichotomy i lo with hi|hi|hi
  · rw[if_neg (by omega),if_neg (by omega),if_pos (by omega),if_pos (by omega),if_pos (by omega)]
  · subst hi
    rw[if_neg (by omega),if_pos rfl,if_pos (by omega),if_pos (by omega),if_neg (by omega)]
    simp[show min i xs.length=i by omega]
  · by_cases h1:i=lo+1
    · subst h1
      rw[if_pos rfl,if_pos (by omega),if_pos (by omega),if_neg (by omega)]
      simp[show min lo xs.length=lo by omega]
    · rw[if_neg (by omega),if_neg (by omega),if_neg (by omega)]
      congr 1
      omega
noncomputable def rz(s:Prop)(n:Rat):Rat:=if s then -n else n
theorem oA{s:Prop}(h:s)(n:Rat):rz s n= -n:=if_pos h
theorem mU{s:Prop}(h:¬s)(n:Rat):rz s n=n:=if_neg h
theorem sU(s:Prop)(n d:Nat):mkRat (sg s n) d=rz s n/d:=by
  rw[Rat.mkRat_eq_div]
  by_cases h:s
  · rw[mT h,oA h,Rat.intCast_neg];rfl
  · rw[aP h,mU h];rfl
theorem jJ(q:Rat):mkRat (sg (q.num<0) q.num.natAbs) q.den=q:=by rw[zW2,Rat.mkRat_self]
theorem cQ{d:Nat}(h:d≠0):(d:Rat)≠0:=fun e=>h (Rat.natCast_eq_zero_iff.1 e)
theorem u6(s:Prop)(d:Nat):mkRat (sg s 0) d=0:=by rw[zTM,Rat.zero_mkRat]
theorem oR(s:Prop)(n:Nat):mkRat (sg s n) 0=0:=by rw[Rat.mkRat_zero]
theorem zF7{s t:Prop}(h:s↔t)(n d:Nat):mkRat (sg s n) d=mkRat (sg t n) d:=by rw[propext h]
theorem zQ8(s:Prop){n m d e:Nat}(hd:d≠0)(he:e≠0):mkRat (sg s n) d+mkRat (sg s m) e=mkRat (sg s (n*e+m*d)) (d*e):=by
  rw[sU,sU,sU,Rat.natCast_mul,Rat.natCast_add,Rat.natCast_mul,Rat.natCast_mul]
  have h1:=cQ hd
  have h2:=cQ he
  generalize (d:Rat)=D at *
  generalize (e:Rat)=E at *
  generalize (n:Rat)=N at *
  generalize (m:Rat)=M at *
  by_cases h:s
  · rw[oA h,oA h,oA h];grind
  · rw[mU h,mU h,mU h];grind
theorem zKQ{s t:Prop}(hst:¬(s↔t)){n m d e:Nat}(hd:d≠0)(he:e≠0)(hle:m*d≤n*e):mkRat (sg s n) d+mkRat (sg t m) e=mkRat (sg s (n*e-m*d)) (d*e):=by
  have hsub:((n*e-m*d:Nat):Rat)=n*e-m*d:=by
    have h3:n*e-m*d+m*d=n*e:=by omega
    have h4:((n*e-m*d+m*d:Nat):Rat)=((n*e:Nat):Rat):=by rw[h3]
    rw[Rat.natCast_add,Rat.natCast_mul,Rat.natCast_mul] at h4
    generalize ((n*e-m*d:Nat):Rat)=X at *
    grind
  rw[sU,sU,sU,hsub,Rat.natCast_mul]
  have h1:=cQ hd
  have h2:=cQ he
  generalize (d:Rat)=D at *
  generalize (e:Rat)=E at *
  generalize (n:Rat)=N at *
  generalize (m:Rat)=M at *
  by_cases h:s
  · have ht:¬t:=fun ht=>hst ⟨fun _=>ht,fun _=>h⟩
    rw[oA h,mU ht,oA h];grind
  · have ht:t:=Classical.byContradiction fun ht=>hst ⟨fun a=>absurd a h,fun a=>absurd a ht⟩
    rw[mU h,oA ht,mU h];grind
theorem zL5{s t:Prop}(hst:¬(s↔t)){n m d e:Nat}(hd:d≠0)(he:e≠0)(hle:n*e≤m*d):mkRat (sg s n) d+mkRat (sg t m) e=mkRat (sg t (m*d-n*e)) (d*e):=by
  rw[Rat.add_comm,zKQ (fun h=>hst h.symm) he hd hle,Nat.mul_comm e d]
theorem zQ7(s t:Prop)(n m d e:Nat):mkRat (sg s n) d*mkRat (sg t m) e=mkRat (sg (¬(s↔t)) (n*m)) (d*e):=by
  rw[Rat.mkRat_mul_mkRat]
  congr 1
  by_cases h:s<;>by_cases h':t
  · rw[mT h,mT h',aP (by simp[h,h']),Int.natCast_mul,Int.neg_mul_neg]
  · rw[mT h,aP h',mT (by simp[h,h']),Int.natCast_mul,Int.neg_mul]
  · rw[aP h,mT h',mT (by simp[h,h']),Int.natCast_mul,Int.mul_neg]
  · rw[aP h,aP h',aP (by simp[h,h']),Int.natCast_mul]
theorem zKR(s t:Prop){n m d e:Nat}(hd:d≠0)(hm:m≠0)(he:e≠0):mkRat (sg s n) d/mkRat (sg t m) e=mkRat (sg (¬(s↔t)) (n*e)) (d*m):=by
  rw[sU,sU,sU,Rat.natCast_mul,Rat.natCast_mul]
  have h1:=cQ hd
  have h2:=cQ hm
  have h3:=cQ he
  generalize (d:Rat)=D at *
  generalize (e:Rat)=E at *
  generalize (n:Rat)=N at *
  generalize (m:Rat)=M at *
  by_cases h:s<;>by_cases h':t
  · rw[oA h,oA h',mU (by simp[h,h'])];grind
  · rw[oA h,mU h',oA (by simp[h,h'])];grind
  · rw[mU h,oA h',oA (by simp[h,h'])];grind
  · rw[mU h,mU h',mU (by simp[h,h'])];grind
theorem zXT(s:Prop)(n d:Nat):-mkRat (sg s n) d=mkRat (sg (¬s) n) d:=by
  rw[Rat.neg_mkRat]
  congr 1
  by_cases h:s
  · rw[mT h,aP (by simp[h])];omega
  · rw[aP h,mT h]
theorem zCU(s:Prop)(n d:Nat){k:Nat}(hk:k≠0):mkRat (sg s (n*k)) (d*k)=mkRat (sg s n) d:=by
  rw[sU,sU,Rat.natCast_mul,Rat.natCast_mul]
  have h1:=cQ hk
  by_cases hd:d=0
  · subst hd
    have:((0:Nat):Rat)=0:=rfl
    rw[this]
    grind
  have h2:=cQ hd
  generalize (d:Rat)=D at *
  generalize (k:Rat)=K at *
  generalize (n:Rat)=N at *
  by_cases h:s
  · rw[oA h,oA h];grind
  · rw[mU h,mU h];grind
def lq(q:Rat):Nat:=max (zB q.num.natAbs).length (zB q.den).length
theorem wE(q:Rat):(zB q.num.natAbs).length≤lq q:=Nat.le_max_left _ _
theorem wM(q:Rat):(zB q.den).length≤lq q:=Nat.le_max_right _ _
theorem zR1(d:Nat):(zB (xT d)).length≤(zB d).length:=by
  by_cases h:d=1
  · subst h;rw[pP,yN];simp
  · rw[cP h];exact Nat.le_refl _
theorem wC(q:Rat):(zB (xT q.den)).length≤lq q:=Nat.le_trans (zR1 _) (wM q)
theorem dA(q:Rat):0<lq q:=Nat.lt_of_lt_of_le (yI.2 q.den_nz) (wM q)
theorem mP{s:Prop}{n d k:Nat}(hn:(zB n).length≤k)(hd:(zB d).length≤k)(hk:0<k):lq (mkRat (sg s n) d)≤k:=by
  by_cases h0:d=0
  · subst h0
    rw[oR]
    refine Nat.max_le.2 ⟨?_,?_⟩
    · have:(zB (0:Rat).num.natAbs)=[]:=yN
      rw[this];simp
    · have:zB (0:Rat).den=[1]:=by rw[show(0:Rat).den=1 from rfl,jR (by omega),yN]
      rw[this];exact hk
  · refine Nat.max_le.2 ⟨?_,?_⟩
    · rw[s7 h0,eD]
      exact Nat.le_trans (zM (Nat.div_le_self _ _)) hn
    · rw[zEO h0]
      exact Nat.le_trans (zM (Nat.div_le_self _ _)) hd
theorem sV:lq 0=1:=by
  have h:=mP (s:=False) (n:=0) (d:=0) (k:=1) (by rw[yN];simp) (by rw[yN];simp) (by omega)
  rw[oR] at h
  have:=dA 0
  omega
theorem zKU(q:Rat):lq (-q)=lq q:=by unfold lq;rw[Rat.neg_num,Rat.neg_den,Int.natAbs_neg]
theorem zX2(q:Rat):lq (dH q)=lq q:=by unfold lq;rw[zDJ,zI3,Int.natAbs_natCast]
theorem pV(a b:Rat):lq (a*b)≤lq a+lq b:=by
  rw[←jJ a,←jJ b,zQ7,jJ,jJ]
  have h1:=wE a;have h2:=wE b;have h3:=wM a;have h4:=wM b;have h5:=dA a
  exact mP (Nat.le_trans (yC _ _) (by omega)) (Nat.le_trans (yC _ _) (by omega)) (by omega)
theorem kA(a b:Rat):lq (a+b)≤lq a+lq b+1:=by
  have h1:=wE a;have h2:=wE b;have h3:=wM a;have h4:=wM b;have h5:=dA a
  have h6:=yC a.num.natAbs b.den
  have h7:=yC b.num.natAbs a.den
  have h8:=yC a.den b.den
  have e:a+b=mkRat (sg (a.num<0) a.num.natAbs) a.den+mkRat (sg (b.num<0) b.num.natAbs) b.den:=by rw[jJ,jJ]
  rw[e]
  by_cases h:(a.num<0)↔(b.num<0)
  · rw[zF7 h,zQ8 _ a.den_nz b.den_nz]
    refine mP (Nat.le_trans (zCZ ?_ ?_) (Nat.le_refl _)) (by omega) (by omega)
    · omega
    · omega
  · rcases Nat.le_total (b.num.natAbs*a.den) (a.num.natAbs*b.den) with hle|hle
    · rw[zKQ h a.den_nz b.den_nz hle]
      exact mP (Nat.le_trans (zM (Nat.sub_le _ _)) (by omega)) (by omega) (by omega)
    · rw[zL5 h a.den_nz b.den_nz hle]
      exact mP (Nat.le_trans (zM (Nat.sub_le _ _)) (by omega)) (by omega) (by omega)
theorem s9(a b:Rat):lq (a-b)≤lq a+lq b+1:=by
  rw[Rat.sub_eq_add_neg]
  have:=kA a (-b)
  rw[zKU] at this
  exact this
theorem zCO{q:Rat}:q.num.natAbs≠0↔q≠0:=by
  rw[Int.natAbs_ne_zero];exact not_congr Rat.num_eq_zero
theorem zXZ(a b:Rat):lq (a/b)≤lq a+lq b:=by
  have h1:=wE a;have h2:=wE b;have h3:=wM a;have h4:=wM b;have h5:=dA a
  by_cases hb:b=0
  · subst hb
    have:a/0=0:=by grind
    rw[this,sV]
    omega
  have e:a/b=mkRat (sg (a.num<0) a.num.natAbs) a.den/mkRat (sg (b.num<0) b.num.natAbs) b.den:=by rw[jJ,jJ]
  rw[e,zKR _ _ a.den_nz (zCO.2 hb) b.den_nz]
  exact mP (Nat.le_trans (yC _ _) (by omega)) (Nat.le_trans (yC _ _) (by omega)) (by omega)
noncomputable def wB(a b:Rat):Int:=if a<b then -1 else if a=b then 0 else 1
noncomputable def yX(q:Rat):Int:=if q=0 then 0 else if q.num<0 then -1 else 1
theorem zVO(s:Prop){n m d e:Nat}(hd:d≠0)(he:e≠0):mkRat (sg s n) d<mkRat (sg s m) e↔if s then m*d<n*e else n*e<m*d:=by
  have e1:∀x y:Nat,(x:Rat)<(y:Rat)↔x<y:=fun x y=>by rw[Rat.natCast_lt_natCast]
  have h1:(0:Rat)<(d:Rat):=by rw[show(0:Rat)=((0:Nat):Rat) from rfl,e1];omega
  have h2:(0:Rat)<(e:Rat):=by rw[show(0:Rat)=((0:Nat):Rat) from rfl,e1];omega
  rw[sU,sU,←e1,←e1,Rat.natCast_mul,Rat.natCast_mul,Rat.div_lt_iff h1]
  generalize (d:Rat)=D at *
  generalize (e:Rat)=E at *
  generalize (n:Rat)=N at *
  generalize (m:Rat)=M at *
  have e3:∀X:Rat,X/E*D=X*D/E:=fun X=>by grind
  rw[e3,Rat.lt_div_iff h2]
  by_cases h:s
  · rw[oA h,oA h,if_pos h];grind
  · rw[mU h,mU h,if_neg h]
theorem zVU(s:Prop){n m d e:Nat}(hd:d≠0)(he:e≠0):mkRat (sg s n) d=mkRat (sg s m) e↔n*e=m*d:=by
  rw[Rat.mkRat_eq_iff hd he]
  by_cases h:s
  · rw[mT h,mT h]
    rw[Int.neg_mul,Int.neg_mul,Int.neg_inj,←Int.natCast_mul,←Int.natCast_mul]
    omega
  · rw[aP h,aP h,←Int.natCast_mul,←Int.natCast_mul];omega
theorem zYT(s:Prop){n m d e:Nat}(hd:d≠0)(he:e≠0):wB (mkRat (sg s n) d) (mkRat (sg s m) e)=if s then -(fZ (n*e) (m*d)) else fZ (n*e) (m*d):=by
  unfold wB fZ
  by_cases h:s
  · simp only[zVO s hd he,zVU s hd he,if_pos h]
    by_cases h1:m*d<n*e
    · rw[if_pos h1,if_neg (by omega),if_neg (by omega)]
    · rw[if_neg h1]
      by_cases h2:n*e=m*d
      · rw[if_pos h2,if_neg (by omega)];rfl
      · rw[if_neg h2,if_pos (by omega)];rfl
  · simp only[zVO s hd he,zVU s hd he,if_neg h]
theorem zIT(a b:Rat)(h:(a.num<0)↔(b.num<0)):wB a b=if a.num<0 then -(fZ (a.num.natAbs*b.den) (b.num.natAbs*a.den)) else fZ (a.num.natAbs*b.den) (b.num.natAbs*a.den):=by
  have:=zYT (a.num<0) (n:=a.num.natAbs) (m:=b.num.natAbs) a.den_nz b.den_nz
  rw[jJ,zF7 h,jJ] at this
  rw[this]
  by_cases h:a.num<0
  · rw[if_pos h,if_pos h]
  · rw[if_neg h,if_neg h]
theorem oN(q:Rat):q.num<0↔q<0:=by
  have:=Rat.num_nonneg (q:=q)
  rw[←Rat.not_le,←this];omega
theorem k8{a b:Rat}(h:yX a≠yX b):wB a b=if yX a<yX b then -1 else 1:=by
  have ea:yX a=if a=0 then 0 else if a<0 then -1 else 1:=by unfold yX;simp only[oN]
  have eb:yX b=if b=0 then 0 else if b<0 then -1 else 1:=by unfold yX;simp only[oN]
  rw[ea,eb] at h ⊢
  unfold wB
  clear ea eb
  grind
theorem xM(q:Rat):-1≤yX q∧yX q≤1:=by
  unfold yX
  split
  · omega
  · split<;>omega
theorem uF(a b:Rat):-1≤wB a b∧wB a b≤1:=by
  unfold wB
  split
  · omega
  · split<;>omega
theorem pQ{a b:Rat}:wB a b<0↔a<b:=by
  unfold wB
  by_cases h:a<b
  · simp[h]
  · by_cases h':a=b
    · simp[h']
    · simp[h,h']
theorem oV{a b:Rat}:0<wB a b↔b<a:=by
  unfold wB
  by_cases h:a<b
  · simp[h];grind
  · by_cases h':a=b
    · simp[h']
    · simp[h,h'];grind
theorem cX{a b:Rat}:wB a b=0↔a=b:=by
  unfold wB
  by_cases h:a<b
  · simp[h];grind
  · by_cases h':a=b
    · simp[h']
    · simp[h,h']
def fP(q:Rat):Prop:=(zB q.num.natAbs).length≤1∧(zB (xT q.den)).length≤1
theorem zJG{q:Rat}(h:(1:Int)<↑(zB q.num.natAbs).length∨(1:Int)<↑(zB (xT q.den)).length):¬fP q:=fun⟨h1,h2⟩=>by omega
theorem zNA{q:Rat}(h:¬((1:Int)<↑(zB q.num.natAbs).length∨(1:Int)<↑(zB (xT q.den)).length)):fP q:=⟨by omega,by omega⟩
theorem aH{n:Nat}(h:(zB n).length≤1):n<4294967296:=by
  have:=Nat.lt_of_lt_of_le (uJ n) (Nat.pow_le_pow_right (by decide) h)
  omega
theorem zRZ{d:Nat}(h:(↑(zB (xT d)).length:Int)=1):(zB (xT d)).getD 0 0=d:=by
  by_cases h1:d=1
  · subst h1;rw[pP,yN] at h;simp at h
  · rw[cP h1] at h ⊢
    have h3:=aH (n:=d) (by omega)
    have h4:d≠0:=yI.1 (by omega)
    rw[qX h4 h3];rfl
theorem zON{d:Nat}(h0:d≠0)(h:¬(↑(zB (xT d)).length:Int)=1)(h1:(zB (xT d)).length≤1):d=1:=by
  by_cases h2:d=1
  · exact h2
  · rw[cP h2] at h h1
    have:=yI.2 h0
    omega
theorem zR0{q:Rat}(h:¬(↑(zB (xT q.den)).length:Int)=1)(hs:fP q):q.den=1:=zON q.den_nz h hs.2
theorem gO{q:Rat}(h:fP q):q.num.natAbs<4294967296:=aH h.1
theorem gP{q:Rat}(h:fP q):q.den<4294967296:=by
  by_cases h1:q.den=1
  · omega
  · have h2:=h.2
    rw[cP h1] at h2
    exact aH h2
noncomputable def pN(q:Rat):Nat:=if fP q then q.num.natAbs else 0
noncomputable def pD(q:Rat):Nat:=if fP q then q.den else 0
theorem zDO{q:Rat}(h:fP q):pN q=q.num.natAbs:=if_pos h
theorem pN_f{q:Rat}(h:¬fP q):pN q=0:=if_neg h
theorem zDP{q:Rat}(h:fP q):pD q=q.den:=if_pos h
theorem pD_f{q:Rat}(h:¬fP q):pD q=0:=if_neg h
theorem jN{n:Nat}:xZ n=0↔n=0:=by
  unfold xZ
  by_cases h:n=0
  · simp[h]
  · simp[h]
theorem nY{Y:Nat}:((↑(zB Y).length:Int)=1∧(zB Y).getD 0 0=1)↔Y=1:=by
  constructor
  · intro⟨h1,h2⟩
    have h3:=aH (n:=Y) (by omega)
    have h4:Y≠0:=yI.1 (by omega)
    rw[qX h4 h3] at h2
    exact h2
  · intro h
    subst h
    rw[qX (by omega) (by omega)]
    exact⟨rfl,rfl⟩
theorem zE6{n:Nat}(h:¬(1:Int)<↑(xZ n))(h0:n≠0):n=1:=by
  have h1:=cJ n
  have h2:=Nat.pow_le_pow_right (n:=2) (by decide) (show xZ n≤1 by omega)
  omega
theorem wD.fin{h:Mem}{s:Prop}{n d:Nat}{vn vd:Value}(hn0:n≠0)(hd0:d≠0)(hn:Us .u32 h vn (zB (n/Nat.gcd n d)))(hd:Us .u32 h vd (zB (d/Nat.gcd n d)))(h1:¬((↑(zB (d/Nat.gcd n d)).length:Int)=1∧(zB (d/Nat.gcd n d)).getD 0 0=1)):wD h (.agg #[vB s,vn,vd]) (mkRat (sg s n) d):=
  wD.make hn0 hd0 hn (by rw[cP (fun e=>h1 (nY.2 e))];exact hd)
theorem wD.fin1{h:Mem}{s:Prop}{n d:Nat}{vn:Value}(hn0:n≠0)(hd0:d≠0)(hn:Us .u32 h vn (zB (n/Nat.gcd n d)))(h1:(↑(zB (d/Nat.gcd n d)).length:Int)=1∧(zB (d/Nat.gcd n d)).getD 0 0=1):wD h (.agg #[vB s,vn,.slice none 0 0]) (mkRat (sg s n) d):=
  wD.make hn0 hd0 hn (by rw[nY.1 h1,pP,yN];exact Us.nil _ _)
theorem rN:[1]=zB 1:=(qX (by omega) (by omega)).symm
theorem eS:(zB 1).length=1:=by rw[←rN];rfl
theorem iH(m n:Nat):(zB (Nat.gcd m n)).length≤max (zB m).length (zB n).length:=by
  by_cases h:m=0
  · subst h;rw[Nat.gcd_zero_left];omega
  · have:=zM (Nat.gcd_le_left n (Nat.pos_of_ne_zero h))
    omega
end Bk
namespace Bk
set_option linter.unusedVariables false
set_option linter.unusedSimpArgs false
open Go Go.RowKit
open Classical
theorem aZ{q:Rat}(h:q=0):yX q=0:=if_pos h
theorem z4{q:Rat}(h:q.num<0):yX q= -1:=by
  unfold yX
  rw[if_neg (fun e=>by rw[e] at h;exact absurd h (by decide)),if_pos h]
theorem dZ{q:Rat}(h:q≠0)(h':¬q.num<0):yX q=1:=by unfold yX;rw[if_neg h,if_neg h']
theorem zDT{q:Rat}(h:(↑(xZ q.num.natAbs):Int)=0):q=0:=by
  have:=(jN (n:=q.num.natAbs)).1 (by omega)
  exact Rat.num_eq_zero.1 (by omega)
theorem zDZ{q:Rat}(h:q=0):(↑(xZ q.num.natAbs):Int)=0:=by subst h;decide
theorem zK9{a b:Rat}:zB (xT a.den)=zB (xT b.den)↔a.den=b.den:=by
  refine⟨fun h=>?_,fun h=>by rw[h]⟩
  have h1:=eR h
  have ha:=a.den_nz
  have hb:=b.den_nz
  unfold xT at h1
  split at h1<;>split at h1<;>omega
theorem zXE{a b:Rat}(h1:a.num=b.num)(h2:a.den=b.den):a=b:=by
  rw[←Rat.mkRat_self a,←Rat.mkRat_self b,h1,h2]
theorem zPO{a b:Rat}:(((a.num<0↔b.num<0)∧zB a.num.natAbs=zB b.num.natAbs)∧zB (xT a.den)=zB (xT b.den))↔a=b:=by
  refine⟨fun⟨⟨h1,h2⟩,h3⟩=>zXE ?_ (zK9.1 h3),fun h=>by subst h;simp⟩
  have:=eR h2
  omega
theorem zGY{a b:Rat}(h:¬yX a≠yX b):a.num<0↔b.num<0:=by
  have h:=Classical.not_not.1 h
  by_cases h1:a.num<0<;>by_cases h2:b.num<0
  · simp[h1,h2]
  · rw[z4 h1] at h
    by_cases h3:b=0
    · rw[aZ h3] at h;omega
    · rw[dZ h3 h2] at h;omega
  · rw[z4 h2] at h
    by_cases h3:a=0
    · rw[aZ h3] at h;omega
    · rw[dZ h3 h1] at h;omega
  · simp[h1,h2]
def cN(a b:Rat):Int:=fZ (a.num.natAbs*b.den) (b.num.natAbs*a.den)
theorem zIZ(a b:Rat):-1≤cN a b∧cN a b≤1:=by
  unfold cN fZ
  split
  · omega
  · split<;>omega
theorem zMQ{a b:Rat}(h:a.num<0↔b.num<0)(hn:a.num<0):wB a b= -(cN a b):=by rw[zIT a b h,if_pos hn];rfl
theorem zIU{a b:Rat}(h:a.num<0↔b.num<0)(hn:¬a.num<0):wB a b=cN a b:=by rw[zIT a b h,if_neg hn];rfl
theorem zYY{a b:Rat}(h:zB (xT a.den)=zB (xT b.den)):cN a b=fZ a.num.natAbs b.num.natAbs:=by
  unfold cN fZ
  rw[zK9.1 h]
  have hp:=Nat.pos_of_ne_zero b.den_nz
  by_cases h1:a.num.natAbs<b.num.natAbs
  · rw[if_pos h1,if_pos (Nat.mul_lt_mul_of_pos_right h1 hp)]
  · rw[if_neg h1,if_neg (fun e=>h1 (Nat.lt_of_mul_lt_mul_right e))]
    by_cases h2:a.num.natAbs=b.num.natAbs
    · rw[if_pos h2,h2,if_pos rfl]
    · rw[if_neg h2,if_neg (fun e=>h2 (Nat.eq_of_mul_eq_mul_right hp e))]
theorem qL{m n:Nat}(hm:m<4294967296)(hn:n<4294967296):m*n≤18446744065119617025:=by
  have:=Nat.mul_le_mul (show m≤4294967295 by omega) (show n≤4294967295 by omega)
  omega
noncomputable def sgd(s:Prop)(b:Rat):Rat:=mkRat (sg s b.num.natAbs) b.den
theorem z5(b:Rat):sgd (b.num<0) b=b:=jJ b
theorem zTL(b:Rat):sgd (¬b.num<0) b= -b:=by
  unfold sgd
  rw[←zXT,jJ]
theorem zRD(s:Prop)(b:Rat):lq (sgd s b)≤lq b:=mP (wE b) (wM b) (dA b)
theorem zBQ{a b:Rat}{s:Prop}(h:(a.num<0)↔s):a+sgd s b=mkRat (sg s (a.num.natAbs*b.den+b.num.natAbs*a.den)) (a.den*b.den):=by
  have:=zQ8 s (n:=a.num.natAbs) (m:=b.num.natAbs) a.den_nz b.den_nz
  rw[←zF7 h a.num.natAbs,jJ] at this
  exact this
theorem zBE{a b:Rat}{s:Prop}(h:¬((a.num<0)↔s))(hle:b.num.natAbs*a.den≤a.num.natAbs*b.den):a+sgd s b=mkRat (sg (a.num<0) (a.num.natAbs*b.den-b.num.natAbs*a.den)) (a.den*b.den):=by
  have:=zKQ h (n:=a.num.natAbs) (m:=b.num.natAbs) a.den_nz b.den_nz hle
  rw[jJ] at this
  exact this
theorem dT{a b:Rat}{s:Prop}(h:¬((a.num<0)↔s))(hle:a.num.natAbs*b.den≤b.num.natAbs*a.den):a+sgd s b=mkRat (sg s (b.num.natAbs*a.den-a.num.natAbs*b.den)) (a.den*b.den):=by
  have:=zL5 h (n:=a.num.natAbs) (m:=b.num.natAbs) a.den_nz b.den_nz hle
  rw[jJ] at this
  exact this
theorem zSU{a b:Rat}{s:Prop}(h:(a.num<0)↔s)(hd:a.den=b.den):a+sgd s b=mkRat (sg s (a.num.natAbs+b.num.natAbs)) a.den:=by
  rw[zBQ h,←hd,←Nat.add_mul,zCU _ _ _ a.den_nz]
theorem zPA{a b:Rat}{s:Prop}(h:¬((a.num<0)↔s))(hd:a.den=b.den)(hle:b.num.natAbs≤a.num.natAbs):a+sgd s b=mkRat (sg (a.num<0) (a.num.natAbs-b.num.natAbs)) a.den:=by
  rw[zBE h (by rw[←hd];exact Nat.mul_le_mul_right _ hle),←hd,←Nat.sub_mul,zCU _ _ _ a.den_nz]
theorem zM7{a b:Rat}{s:Prop}(h:¬((a.num<0)↔s))(hd:a.den=b.den)(hle:a.num.natAbs≤b.num.natAbs):a+sgd s b=mkRat (sg s (b.num.natAbs-a.num.natAbs)) a.den:=by
  rw[dT h (by rw[←hd];exact Nat.mul_le_mul_right _ hle),←hd,←Nat.sub_mul,zCU _ _ _ a.den_nz]
theorem zQ5(a b:Rat):mkRat (sg (¬((a.num<0)↔(b.num<0))) (a.num.natAbs*b.num.natAbs)) (a.den*b.den)=a*b:=by
  rw[←zQ7,jJ,jJ]
theorem zQC(a:Rat){b:Rat}(hb:b≠0):mkRat (sg (¬((a.num<0)↔(b.num<0))) (a.num.natAbs*b.den)) (a.den*b.num.natAbs)=a/b:=by
  rw[←zKR _ _ a.den_nz (zCO.2 hb) b.den_nz,jJ,jJ]
theorem pG{q:Rat}(h:(↑(zB q.num.natAbs).length:Int)=0):q=0:=by
  refine Classical.byContradiction fun hne=>?_
  have:=yI.2 (zCO.2 hne)
  omega
theorem uU{q:Rat}:yX q=0↔q=0:=by
  refine⟨fun h=>?_,aZ⟩
  unfold yX at h
  by_cases h1:q=0
  · exact h1
  · rw[if_neg h1] at h;split at h<;>omega
noncomputable def bZ(a b:Rat):Rat:=if b<a then b else a
noncomputable def tY(a b:Rat):Rat:=if a<b then b else a
theorem zXU{a b:Rat}(h:wB b a<0):bZ a b=b:=if_pos (pQ.1 h)
theorem zXV{a b:Rat}(h:¬wB b a<0):bZ a b=a:=if_neg (fun e=>h (pQ.2 e))
theorem zXW{a b:Rat}(h:0<wB b a):tY a b=b:=if_pos (oV.1 h)
theorem zXX{a b:Rat}(h:¬0<wB b a):tY a b=a:=if_neg (fun e=>h (oV.2 e))
theorem zRF(a b:Rat):lq (bZ a b)≤max (lq a) (lq b):=by unfold bZ;split<;>omega
theorem zRG(a b:Rat):lq (tY a b)≤max (lq a) (lq b):=by unfold tY;split<;>omega
noncomputable def zEU:Rat:=mkRat (sg False 1) 2
theorem zUM:lq zEU≤1:=mP (by rw[qX (by omega) (by omega)];simp) (by rw[qX (by omega) (by omega)];simp) (by omega)
theorem zRM:zEU=1/2:=by
  unfold zEU
  rw[sU,mU id]
  rfl
noncomputable def zA6(a b:Rat):Rat:=(a+b)*zEU
theorem zX0(a b:Rat):lq (zA6 a b)≤lq a+lq b+2:=by
  have h1:=pV (a+b) zEU
  have h2:=kA a b
  have h3:=zUM
  unfold zA6
  omega
noncomputable def floorQ(q:Rat):Rat:=((q.floor:Int):Rat)
def kN(k:Int):Nat:=(min (max k 0) 4096).toNat
noncomputable def zVX(q:Rat)(k:Int):Rat:=mkRat (q*(2^kN k:Nat)).floor (2^kN k)
noncomputable def upQ(q:Rat)(k:Int):Rat:=-zVX (-q) k
theorem zT4{k:Nat}(h:k≤4096):(zB (2^k)).length≤129:=by
  have e:(4294967296:Nat)^129=2^(32*129):=(Nat.pow_mul 2 32 129).symm
  have hk:k<32*129:=by omega
  generalize 32*129=m at *
  refine vZ ?_
  rw[e]
  exact Nat.pow_lt_pow_right (by decide) hk
theorem zMB(a b:Rat):lq (if b=0 then 0 else a/b)≤lq a+lq b:=by
  have:=zXZ a b
  have h1:=dA a
  split
  · rw[sV];omega
  · exact this
theorem zPB{p:Prop} [Decidable p](h:(if p then 7 else 0:Int)=0):¬p:=by
  intro hp
  rw[if_pos hp] at h
  omega
theorem zPC{p:Prop} [Decidable p](h:¬(if p then 7 else 0:Int)=0):p:=by
  refine Classical.byContradiction fun hp=>h ?_
  rw[if_neg hp]
noncomputable def yAS(q:Rat):Int:=max (↑(xZ q.num.natAbs):Int) ↑(xZ q.den)
theorem kO{n:Int}(h1:-9223372036854775808≤n)(h2:n<9223372036854775808):(zB n.natAbs).length≤2:=jU (by omega)
noncomputable def wN(n d:Int):Rat:=(n:Rat)/(d:Rat)
theorem zCV(n:Int):wN n 0=0:=by
  unfold wN
  have:((0:Int):Rat)=0:=rfl
  rw[this];grind
theorem zGB(n:Int):mkRat (sg (n<0) n.natAbs) 1=(n:Rat):=by
  have e:sg (n<0) n.natAbs=n:=by
    by_cases h:n<0
    · rw[mT h];omega
    · rw[aP h];omega
  rw[e,Rat.mkRat_one]
theorem zH7{n d:Int}(hd:d≠0):mkRat (sg (¬((n<0)↔(d<0))) n.natAbs) d.natAbs=wN n d:=by
  unfold wN
  rw[←zGB n,←zGB d,zKR _ _ (by omega) (by omega) (by omega),Nat.mul_one,Nat.one_mul]
theorem zCW(n:Int)(h1:-9223372036854775808≤n)(h2:n<9223372036854775808):lq (n:Rat)≤2:=by
  rw[←zGB]
  exact mP (kO h1 h2) (by rw[eS];omega) (by omega)
theorem eQ{n d:Int}(h1:-9223372036854775808≤n)(h2:n<9223372036854775808)(h3:-9223372036854775808≤d)(h4:d<9223372036854775808):lq (wN n d)≤2:=by
  by_cases hd:d=0
  · subst hd;rw[zCV,sV];omega
  · rw[←zH7 hd];exact mP (kO h1 h2) (kO h3 h4) (by omega)
def dV(ys:List Nat):Nat:=if ys=[] then 1 else val ys
theorem zI6(ys:List Nat):val (if ys=[] then[1] else ys)=dV ys:=by
  unfold dV
  split
  · rfl
  · rfl
theorem zMP{ys:List Nat}(h:(0:Int)<↑ys.length∧(↑(xZ (val ys)):Int)=0):dV ys=0:=by
  unfold dV
  rw[if_neg (fun e=>by rw[e] at h;simp at h)]
  exact jN.1 (by omega)
theorem zVZ{ys:List Nat}(h:¬((0:Int)<↑ys.length∧(↑(xZ (val ys)):Int)=0)):dV ys≠0:=by
  unfold dV
  split
  · omega
  · rename_i h1
    intro h2
    have h3:xZ (val ys)=0:=jN.2 h2
    have h4:0<ys.length:=List.length_pos_iff.2 h1
    exact h ⟨by omega,by omega⟩
theorem zR3{ys:List Nat}(h:(0:Int)<↑ys.length∧(↑(zB (val ys)).length:Int)=0):dV ys=0:=by
  refine zMP ⟨h.1,?_⟩
  have:val ys=0:=Classical.byContradiction fun e=>by have:=yI.2 e;omega
  rw[this];rfl
theorem zYS{ys:List Nat}(h:¬((0:Int)<↑ys.length∧(↑(zB (val ys)).length:Int)=0)):dV ys≠0:=by
  refine zVZ fun e=>h ⟨e.1,?_⟩
  have:val ys=0:=jN.1 (by omega)
  rw[this,yN];rfl
theorem zR4(ys:List Nat):(if ys=[] then[1] else ys).length≤ys.length+1:=by
  split
  · simp
  · omega
def zV1(xs:List Nat):Prop:=xs=[]∨xs.getD (xs.length-1) 0≠0
def badP(xs ys:List Nat):Prop:=((¬zV1 xs)∨(¬zV1 ys))∨((↑ys.length:Int)=1∧ys.getD 0 0=1)
def validP(s:Prop)(xs ys:List Nat):Prop:=¬badP xs ys∧((xs=[]→¬s∧ys=[])∧(xs≠[]→ys=[]∨Nat.gcd (val xs) (val ys)=1))
theorem zC0{xs:List Nat}:(↑xs.length:Int)=0↔xs=[]:=⟨fun h=>List.eq_nil_of_length_eq_zero (by omega),fun h=>by rw[h];rfl⟩
theorem zC4{g:Nat}(h:¬((↑(zB g).length:Int)≠1∨(zB g).getD 0 0≠1)):g=1:=
  nY.1 ⟨Classical.not_not.1 fun e=>h (.inl e),Classical.not_not.1 fun e=>h (.inr e)⟩
theorem zR7{a b:Rat}:(((a.num<0)↔(b.num<0))∧fZ a.num.natAbs b.num.natAbs=0)∧fZ (xT a.den) (xT b.den)=0↔a=b:=by
  rw[zAH,zAH,←zPO]
  constructor
  · rintro⟨⟨h1,h2⟩,h3⟩
    exact⟨⟨h1,by rw[h2]⟩,by rw[h3]⟩
  · rintro⟨⟨h1,h2⟩,h3⟩
    exact⟨⟨h1,eR h2⟩,eR h3⟩
theorem zUP{q:Rat}:(↑(zB q.num.natAbs).length:Int)=0↔q=0:=by
  refine⟨pG,fun h=>?_⟩
  subst h
  rw[show(0:Rat).num.natAbs=0 from rfl,yN];rfl
theorem zCN{q:Rat}(h:¬(↑(zB q.num.natAbs).length:Int)=0):q≠0:=fun e=>h (zUP.2 e)
theorem zSV{a b:Rat}(h:(a.num<0)↔(b.num<0)):mkRat (sg (a.num<0) (a.num.natAbs*b.den+b.num.natAbs*a.den)) (a.den*b.den)=a+b:=by
  have:=zBQ (a:=a) (b:=b) h
  rw[z5,zF7 h.symm] at this
  exact this.symm
theorem zY8{a b:Rat}(h:¬((a.num<0)↔(b.num<0)))(hle:b.num.natAbs*a.den≤a.num.natAbs*b.den):mkRat (sg (a.num<0) (a.num.natAbs*b.den-b.num.natAbs*a.den)) (a.den*b.den)=a+b:=by
  have:=zBE (a:=a) (b:=b) h hle
  rw[z5] at this
  exact this.symm
theorem zY7{a b:Rat}(h:¬((a.num<0)↔(b.num<0)))(hle:a.num.natAbs*b.den≤b.num.natAbs*a.den):mkRat (sg (b.num<0) (b.num.natAbs*a.den-a.num.natAbs*b.den)) (a.den*b.den)=a+b:=by
  have:=dT (a:=a) (b:=b) h hle
  rw[z5] at this
  exact this.symm
theorem zI7{h:Mem}{v:Value}{n:Int}(s:Us .u32 h v (zB n.natAbs)):Us .u32 h v (zB (n:Rat).num.natAbs):=by
  rw[Rat.num_intCast];exact s
theorem zI8{h:Mem}{n:Int}:Us .u32 h (.slice none 0 0) (zB (xT (n:Rat).den)):=by
  rw[Rat.den_intCast,pP,yN];exact Us.nil _ _
theorem wD.int{h:Mem}{v:Value}{n:Int}(s:Us .u32 h v (zB n.natAbs)):wD h (.agg #[vB (n<0),v,.slice none 0 0]) (n:Rat):=
  ⟨v,.slice none 0 0,by rw[Rat.num_intCast],zI7 s,zI8⟩
theorem zOE:wN 1 2=zEU:=by rw[zRM];rfl
noncomputable def uN(s:Prop)(xs ys:List Nat):Rat:=mkRat (sg s (val xs)) (dV ys)
theorem q5(s:Prop)(xs ys:List Nat):lq (uN s xs ys)≤max (zB (val xs)).length (zB (dV ys)).length+1:=mP (by omega) (by omega) (by omega)
theorem zF9(s:Prop)(xs ys:List Nat):lq (mkRat (sg s (val xs)) (dV ys))≤max (zB (val xs)).length (zB (dV ys)).length+1:=q5 s xs ys
end Bk
namespace Bk
set_option linter.unusedVariables false
set_option linter.unusedSimpArgs false
open Go Go.RowKit
def jX(k:Nat)(v:Value)(lo hi mx:Nat):Value:=
  match v with
  | .slice a _ _=>.slice (if mx=lo then a else a.map (·.add (lo*k))) (hi-lo) (mx-lo)
  |_=>undef
section
variable {P:Program}{n:Nat}{w0:World}{h0:Mem}{e:List (Nat×Value)}{L:List Res}{h:Mem}{Q:Exit→Act→World→Prop}
variable {ds:Option Tmp}{ty:TypeId}{ps:String}{af:Array Edge}{gd:Option (Nat×Bool)}
theorem Sl.sub3{h:Mem}{k:Nat}{v:Value}{m:Nat}{cs:List Value}(s:Sl h k v m cs){lo hi mx:Nat}(h1:lo≤hi)(h2:hi≤mx)(h3:mx≤m):Sl h k (jX k v lo hi mx) (hi-lo) ((cs.drop (lo*k)).take ((hi-lo)*k)):=by
  obtain⟨a,cap,rfl,h4,h5,h6,h7⟩:=s
  refine⟨_,_,rfl,by omega,by omega,?_,fun i hi'=>?_⟩
  · rw[List.length_take,List.length_drop,h6]
    have:=Nat.mul_le_mul_right k (show lo+(hi-lo)≤m by omega)
    rw[Nat.add_mul] at this
    omega
  · rw[List.length_take,List.length_drop] at hi'
    have hlt:i<(hi-lo)*k:=by omega
    have hpos:0<(hi-lo)*k:=by omega
    have hlohi:lo<hi:=by
      rcases Nat.lt_or_ge lo hi with h'|h'
      · exact h'
      · rw[show hi-lo=0 by omega,Nat.zero_mul] at hpos;omega
    obtain⟨b,o,ha,hc⟩:=h7 (lo*k+i) (by omega)
    subst ha
    refine⟨b,o+lo*k,by rw[if_neg (by omega)];simp[qW],?_⟩
    rw[List.getElem?_take,if_pos hlt,List.getElem?_drop,←hc,Nat.add_assoc]
theorem Us.sub3{k:IntKind}{h:Mem}{v:Value}{xs:List Nat}(s:Us k h v xs){lo hi mx:Nat}(h1:lo≤hi)(h2:hi≤mx)(h3:mx≤xs.length):Us k h (jX 1 v lo hi mx) ((xs.drop lo).take (hi-lo)):=by
  have:=s.sl.sub3 h1 h2 h3
  simp only[Nat.mul_one] at this
  refine⟨?_,fun x hx=>s.lt x (List.mem_of_mem_drop (List.mem_of_mem_take hx))⟩
  have hl:((xs.drop lo).take (hi-lo)).length=hi-lo:=by rw[List.length_take,List.length_drop];omega
  rw[hl]
  simpa[us] using this
theorem St.own_shape{E:Nat}{k:IntKind}{v:Value}{xs:List Nat}{w:World}(S:St w0 h0 L h w)(hm:.us E k v xs∈L):∃a cap,v=.slice a xs.length cap∧xs.length≤cap∧cap≤maxLen∧(0<xs.length→∃g,a=some ⟨g,0,none⟩):=by
  obtain⟨hl,hr⟩:=S.ok _ hm
  rcases hr with⟨rfl,h0'⟩|⟨g,cap,cur,rfl,hb,hg,hn,hcm,hcs,ht⟩
  · exact⟨none,0,by rw[h0'],by omega,by omega,fun h=>by omega⟩
  · exact⟨_,cap,rfl,hn,hcm,fun _=>⟨g,rfl⟩⟩
theorem St.own_self{E:Nat}{k:IntKind}{v:Value}{xs:List Nat}{w:World}(S:St w0 h0 L h w)(hm:.us E k v xs∈L):v=gK 1 v 0 xs.length:=by
  obtain⟨a,cap,rfl,h1,h2,h3⟩:=S.own_shape hm
  simp only[gK,Nat.zero_mul,Nat.sub_zero]
  by_cases hc:cap=0
  · rw[if_pos hc]
  · rw[if_neg hc]
    cases a with
    |none=>rfl
    |some x=>
     obtain⟨b,o,sp⟩:=x
     simp[Addr.add]
theorem zCC{E:Nat}{k:IntKind}{v:Value}{xs:List Nat}{t E':TypeId}{x lo:Operand}{p:Int}(hm:.us E k v xs∈L)(i:Nat)(ht:P.underlying t=some (.slice E'))(hsz:∀w,(Go.sizeOf E').run P w=.ok 1 w)(hx:zI e x=some v)(hl:zI e lo=some (vI p))
    (hp:p=(i:Int))(h1:i≤xs.length):OpV P n w0 h0 ⟨ds,.slice t x (some lo) none none,ty,ps,af,gd⟩ e L h (gK 1 v i xs.length):=by
  intro a w Ev S
  obtain⟨ad,cap,hv,hc,_⟩:=S.own_shape hm
  exact qH i ht hsz hx hl ⟨ad,cap,hv,hc⟩ hp h1 a w Ev S
theorem zJL{t E:TypeId}{w:World}(ht:P.underlying t=some (.slice E))(hsz:∀w,(Go.sizeOf E).run P w=.ok 1 w)(a:Option Addr)(m cap lo hi mx:Nat)(h1:lo≤hi)(h2:hi≤mx)(h3:mx≤cap):
    (Instr.sliceAt t (.slice a m cap) (some (vI lo)) (some (vI hi)) (some (vI mx))).run P w=.ok (jX 1 (.slice a m cap) lo hi mx) w:=by
  simp[Instr.sliceAt,Instr.slice,run_underlying ht,Instr.sliceBounds,Instr.sliceBound,asIntOf,vI,hsz,jX,h1,h2,h3]
theorem zG5{t E:TypeId}{w:World}(ht:P.underlying t=some (.slice E))(hsz:∀w,(Go.sizeOf E).run P w=.ok 1 w)(a:Option Addr)(m cap hi mx:Nat)(h2:hi≤mx)(h3:mx≤cap):
    (Instr.sliceAt t (.slice a m cap) none (some (vI hi)) (some (vI mx))).run P w=.ok (jX 1 (.slice a m cap) 0 hi mx) w:=by
  simp[Instr.sliceAt,Instr.slice,run_underlying ht,Instr.sliceBounds,Instr.sliceBound,asIntOf,vI,hsz,jX,h2,h3]
theorem zDQ{E:Nat}{k:IntKind}{v:Value}{xs:List Nat}{t E':TypeId}{x lo hi mx:Operand}{p q r:Int}(hm:.us E k v xs∈L)(i j l:Nat)(ht:P.underlying t=some (.slice E'))(hsz:∀w,(Go.sizeOf E').run P w=.ok 1 w)(hx:zI e x=some v)(hl:zI e lo=some (vI p))(hh:zI e hi=some (vI q))(hmx:zI e mx=some (vI r))
    (hp:p=(i:Int))(hq:q=(j:Int))(hr:r=(l:Int))(h1:i≤j)(h2:j≤l)(h3:l≤xs.length):OpV P n w0 h0 ⟨ds,.slice t x (some lo) (some hi) (some mx),ty,ps,af,gd⟩ e L h (jX 1 v i j l):=by
  subst hp;subst hq;subst hr
  intro a w Ev S
  obtain⟨ad,cap,rfl,hc,_⟩:=S.own_shape hm
  have:=zJL (P:=P) (w:=w) ht hsz ad xs.length cap i j l h1 h2 (by omega)
  simp[execOp,Ev.eval hx,Ev.eval hl,Ev.eval hh,Ev.eval hmx,this]
theorem zCD{E:Nat}{k:IntKind}{v:Value}{xs:List Nat}{t E':TypeId}{x hi mx:Operand}{q r:Int}(hm:.us E k v xs∈L)(j l:Nat)(ht:P.underlying t=some (.slice E'))(hsz:∀w,(Go.sizeOf E').run P w=.ok 1 w)(hx:zI e x=some v)(hh:zI e hi=some (vI q))(hmx:zI e mx=some (vI r))
    (hq:q=(j:Int))(hr:r=(l:Int))(h2:j≤l)(h3:l≤xs.length):OpV P n w0 h0 ⟨ds,.slice t x none (some hi) (some mx),ty,ps,af,gd⟩ e L h (jX 1 v 0 j l):=by
  subst hq;subst hr
  intro a w Ev S
  obtain⟨ad,cap,rfl,hc,_⟩:=S.own_shape hm
  have:=zG5 (P:=P) (w:=w) ht hsz ad xs.length cap j l h2 (by omega)
  simp[execOp,Ev.eval hx,Ev.eval hh,Ev.eval hmx,this]
theorem iF{E:Nat}{k:IntKind}{v u:Value}{xs:List Nat}{t E':TypeId}{x y:Operand}{q:Int}{lo:Nat}(hm:.us E k v xs∈L)(hu:u=gK 1 v lo xs.length)(i:Nat)(ht:P.underlying t=some (.slice E'))(hsz:∀w,(Go.sizeOf E').run P w=.ok 1 w)(hx:zI e x=some u)(hy:zI e y=some (vI q))
    (hq:q=(i:Int))(hi:lo+i<xs.length):OpV P n w0 h0 ⟨ds,.indexAddr t x y,ty,ps,af,gd⟩ e L h (zK 1 v (lo+i)):=by
  subst hq;subst hu
  intro a w Ev S
  obtain⟨ad,cap,rfl,hc,hc2,hg⟩:=S.own_shape hm
  obtain⟨g,rfl⟩:=hg (by omega)
  have hcl:¬cap=lo:=by omega
  have h2:(i:Int)<((xs.length-lo:Nat):Int):=by omega
  have h3:(0:Int)≤(i:Int):=by omega
  simp only[gK,if_neg hcl,Option.map_some,qW,Nat.mul_one,Nat.zero_add] at hx
  simp[execOp,Ev.eval hx,Ev.eval hy,Instr.indexAt,asIntOf,vI,run_underlying ht,h2,h3,hsz,zK,qW]
  intro hge
  omega
theorem zRP{ops:Array Oper}{l:List Oper}{E:Nat}{k:IntKind}{v:Value}{xs:List Nat}(hm:.us E k v xs∈L)(k':∀a cap,v=.slice a xs.length cap→xs.length≤cap→GL P n w0 h0 ops Q l e L h):GL P n w0 h0 ops Q l e L h:=by
  intro a w Ev S
  obtain⟨ad,cap,hv,hc,_⟩:=S.own_shape hm
  exact k' ad cap hv hc a w Ev S
theorem zRQ{ops:Array Oper}{l:List Oper}{A B:List Res}{r:Res}(k':GL P n w0 h0 ops Q l e (r::(A++B)) h):GL P n w0 h0 ops Q l e (A++r::B) h:=
  fun a w Ev S=>k' a w Ev (S.perm List.perm_middle)
theorem zQP{f:Nat}{xs:List Operand}{ts:Array TypeId}{vs:List Value}{v:Value}(hcall:∀w,(callFunc f vs.toArray).run P w=.ok (.value v) w)(hvs:cF e xs vs):
    OpV P n w0 h0 ⟨ds,.call {callee:=.value (.func f),args:=xs.toArray,argTypes:=ts},ty,ps,af,gd⟩ e L h v:=by
  intro a w Ev S
  have hargs:xs.toArray.map a.eval=vs.toArray:=by rw[List.map_toArray,Ev.evals hvs]
  simp only[execOp,resolve,Act.eval]
  simp[Deferred.ofValue,invoke,hcall,hargs]
theorem gJ.nil{ops:Array Oper}:gJ P n ops []:=fun x hx=>by cases hx
theorem gJ.cons{ops:Array Oper}{i d E:Nat}{cs:List Value}{al:Als}(hop:(ops.getD i default).op=.alloc E)(hd:Nat.ble (d+1) n=true)(hz:∀w,∃z,(zeroValue E).run P w=.ok z w∧z.cells=cs.toArray)(h:gJ P n ops al):gJ P n ops ((i,(d,E,cs))::al):=by
  intro x hx
  rcases List.mem_cons.1 hx with rfl|hx
  · refine⟨Nat.le_of_ble_eq_true hd,fun a w=>?_,fun len hl=>?_⟩
    · obtain⟨z,hz1,hz2⟩:=hz w
      simp only[execOp,hop,Instr.alloc,zGP,zOD]
      simp[hz1,newVar,newRow,newObj,Sem.run,hz2]
    · simp only[hop,zOD] at hl
      cases hl
  · exact h x hx
theorem kB{E:TypeId}{i:TypeInfo}{z:Value}{cs:List Value}(hi:P.info? E=some i)(hz:i.zero=some z)(hc:z.cells=cs.toArray)(w:World):∃z,(zeroValue E).run P w=.ok z w∧z.cells=cs.toArray:=
  ⟨z,by simp[zeroValue,typeInfo,hi,hz],hc⟩
theorem sW{e:List (Nat×Value)}{al:Als}:∀x∈([]:Als),al.lookup x.1=some x.2∧e.lookup x.2.1=none:=fun x hx=>by cases hx
theorem kJ{e:List (Nat×Value)}{al al':Als}{y:Nat×(Nat×TypeId×List Value)}(h1:al.lookup y.1=some y.2)(h2:e.lookup y.2.1=none)(h:∀x∈al',al.lookup x.1=some x.2∧e.lookup x.2.1=none):∀x∈y::al',al.lookup x.1=some x.2∧e.lookup x.2.1=none:=by
  intro x hx
  rcases List.mem_cons.1 hx with rfl|hx
  · exact⟨h1,h2⟩
  · exact h x hx
theorem zQJ{yk:IntKind}{t yt:TypeId}{x y:Operand}{p s:Nat}(hx:zI e x=some (vI (p:Int)))(hy:zI e y=some (.int yk (s:Int)))(hs:s≤63)(hp:p*2^s<9223372036854775808):
    OpV P n w0 h0 ⟨ds,.binOp .shl t x y yt,ty,ps,af,gd⟩ e L h (vI ((p*2^s:Nat):Int)):=by
  intro a w E S
  have h1:¬((s:Int)<0):=by omega
  have hm:min s IntKind.i64.bits=s:=Nat.min_eq_left (by have:IntKind.i64.bits=64:=rfl;omega)
  have h3:IntKind.i64.wrap ((p:Int)*2^s)=(p:Int)*2^s:=by
    have e:(p:Int)*2^s=((p*2^s:Nat):Int):=by rw[Int.natCast_mul,Int.natCast_pow];rfl
    rw[e]
    exact iO (by omega) (by omega)
  simp only[execOp,E.eval hx,E.eval hy,vI,binOp]
  simp[yW,Op.shift,h1,hm,h3]
end
end Bk
namespace Bk
set_option linter.unusedVariables false
set_option linter.unusedSimpArgs false
open Go Go.RowKit
open Classical
def zV8(h:Mem):List Value→List Rat→Prop
  |cs,[]=>cs=[]
  |cs,q::qs=>∃vn vd rest,cs=vB (q.num<0)::vn::vd::rest∧Us .u32 h vn (zB q.num.natAbs)∧Us .u32 h vd (zB (xT q.den))∧zV8 h rest qs
def zGM(h:Mem)(v:Value)(qs:List Rat):Prop:=∃cs,v=.agg cs.toArray∧zV8 h cs qs
section
variable {P:Program}{n:Nat}{w0:World}{h0:Mem}{e:List (Nat×Value)}{L:List Res}{h:Mem}{Q:Exit→Act→World→Prop}
variable {ds:Option Tmp}{ty:TypeId}{ps:String}{af:Array Edge}{gd:Option (Nat×Bool)}
def zI4(P:Program)(c:Code)(Q:Exit→Act→World→Prop)(a:Act)(w:World):Prop:=
  ∀(b:Frame) (k:List Item) (cs:List Frame),∃x a' w',Q x a' w'∧Arrives P (lone (b.at a (.code c::.inLoop c::k)) cs w) b k cs x a' w'
theorem zIB{c:Code}{a:Act}{w:World}(hw:c.wp P (Exit.then (zI4 P c Q) Q) a w):zI4 P c Q a w:=by
  intro b k cs
  obtain⟨x,a1,w1,hq,harr⟩:=hw b (.inLoop c::k) cs
  cases x with
  |normal=>
   obtain⟨x2,a2,w2,hq2,harr2⟩:=hq b k cs
   exact⟨x2,a2,w2,hq2,.of_steps (Steps.trans harr (.one step_inLoop)) harr2⟩
  |exit id=>exact⟨_,a1,w1,hq,.pass (x:=.inLoop c) rfl (fun _ _=>.inl (by simp)) harr⟩
  |goto l=>exact⟨_,a1,w1,hq,.pass (x:=.inLoop c) rfl (fun _ _=>.inl (by simp)) harr⟩
  |ret=>exact⟨_,a1,w1,hq,.pass (x:=.inLoop c) rfl (fun _ _=>.inl (by simp)) harr⟩
  |panic ch=>exact⟨_,a1,w1,hq,.pass (x:=.inLoop c) rfl (fun _ _=>.inl (by simp)) harr⟩
  |outgrown=>exact⟨_,a1,w1,hq,.pass (x:=.inLoop c) rfl (fun _ _=>.inl (by simp)) harr⟩
theorem sZ{c:Code}(k:GC P n w0 h0 c (Exit.then (zI4 P c Q) Q) e L h):GC P n w0 h0 (.loop c) Q e L h:=by
  intro a w E S b k' cs
  obtain⟨x,a',w',hq,harr⟩:=zIB (k a w E S) b k' cs
  exact⟨x,a',w',hq,.of_steps (.one step_loop) harr⟩
theorem vV{c:Code}(k:GC P n w0 h0 c (Exit.then (zI4 P c Q) Q) e L h):GQ n w0 h0 (Exit.then (zI4 P c Q) Q) .normal e L h:=
  fun a w E S=>zIB (k a w E S)
theorem OpV.cv{o:Oper}{v v':Value}(hv:OpV P n w0 h0 o e L h v)(e':v=v'):OpV P n w0 h0 o e L h v':=e'▸hv
end
end Bk
namespace Bk
set_option linter.unusedVariables false
set_option linter.unusedSimpArgs false
open Go Go.RowKit
section
variable {P:Program}{n:Nat}{w0:World}{h0:Mem}{e:List (Nat×Value)}{L:List Res}{h:Mem}
variable {ds:Option Tmp}{ty:TypeId}{ps:String}{af:Array Edge}{gd:Option (Nat×Bool)}
theorem zHK{x:Operand}{b k:Nat}(hx:zI e x=some (vP b k)):OpV P n w0 h0 ⟨ds,.nilCheck x,ty,ps,af,gd⟩ e L h (vP b k):=by
  intro a w Ev S
  simp[execOp,Ev.eval hx]
theorem xW{t E:TypeId}{x y:Operand}{b k m sz:Nat}{q:Int}(i:Nat)(ht:P.underlying t=some (.array m E))(hsz:∀w,(Go.sizeOf E).run P w=.ok sz w)(hx:zI e x=some (vP b k))(hy:zI e y=some (vI q))(hq:q=(i:Int))(hi:i<m):
    OpV P n w0 h0 ⟨ds,.indexAddr t x y,ty,ps,af,gd⟩ e L h (vP b (k+i*sz)):=by
  subst hq
  intro a w Ev S
  simp[execOp,Ev.eval hx,Ev.eval hy,Instr.indexAt,vI,asIntOf,run_underlying ht,hsz,Instr.sureAddr,hi,qW]
theorem zFX{t E:TypeId}{m sz:Nat}{i:TypeInfo}{z:Value}{parts:List (Nat×Operand)}{ps':List (Nat×Value)}{vs:List Value}(ht:P.underlying t=some (.array m E))(hi:P.info? t=some i)(hz:i.zero=some z)
    (hsz:∀w,(Go.sizeOf E).run P w=.ok sz w)(hp:mN e parts ps')(hf:Instr.fill (fun i=>some (i*sz,sz)) z.cells ps'=some vs.toArray):
    OpV P n w0 h0 ⟨ds,.build t parts.toArray,ty,ps,af,gd⟩ e L h (.agg vs.toArray):=by
  intro a w Ev S
  have hpa:(parts.toArray.map fun(p:Nat×Operand)=>(p.1,a.eval p.2)).toList=ps':=by
    rw[List.map_toArray]
    exact hp.eval Ev
  have hz':(zeroValue t).run P w=.ok z w:=by simp[zeroValue,typeInfo,hi,hz]
  simp only[execOp,Instr.build]
  rw[show(parts.toArray.map fun(i,x)=>(i,a.eval x)).toList=ps' from hpa]
  simp only[Sem.run_bind,hz',Result.andThen_ok,run_underlying ht,hsz,hf]
  rfl
end
end Bk
namespace Bk
set_option linter.unusedVariables false
set_option linter.unusedSimpArgs false
open Go Go.RowKit
theorem zBR{k:IntKind}(hk:k.signed=false){x:Int}(h:(Lit.int k x).wf=true):0≤x∧x<(ub k:Int):=by
  simp only[Lit.wf,Bool.and_eq_true,decide_eq_true_eq] at h
  cases k<;>simp[IntKind.signed] at hk<;>simp[IntKind.min,IntKind.max,IntKind.signed,IntKind.bits] at h<;>simp only[ub]<;>omega
theorem us_of_row{k:IntKind}(hk:k.signed=false){w:World}{a:Option Addr}{len cap:Nat}{zs:List Int}
    (h:(a=none∧len=0∧cap=0∧zs=[])∨∃x,a=some x∧len≤cap∧cap≤maxLen∧zs.length=cap∧(∀i,i<zs.length→w.cell? (x.add i)=some (.int k (zs.getD i 0)))∧∀n∈zs,(Lit.int k n).wf=true):
    ∃xs:List Nat,Us k (mem w) (.slice a len cap) xs:=by
  rcases h with⟨rfl,rfl,rfl,rfl⟩|⟨x,rfl,h1,h2,h3,h4,h5⟩
  · exact⟨[],Us.nil _ _⟩
  · refine⟨(zs.take len).map Int.toNat,⟨?_,?_⟩⟩
    · have hl:((zs.take len).map Int.toNat).length=len:=by simp;omega
      rw[hl]
      refine⟨_,cap,rfl,h1,h2,by simp[Bk.us];omega,fun i hi=>?_⟩
      have hi':i<len:=by simp[Bk.us] at hi;omega
      have hc:=h4 i (by omega)
      have hspot:(x.add 0).spot=none:=World.cell?_spot (h4 0 (by omega))
      obtain⟨b,o,sp⟩:=x
      simp[Addr.add] at hspot
      subst hspot
      refine⟨b,o,rfl,?_⟩
      rw[qW] at hc
      rw[zDY hc,zFC (by rw[hl];exact hi')]
      have hm:zs.getD i 0∈zs:=by
        rw[List.getD_eq_getElem?_getD,List.getElem?_eq_getElem (by omega)]
        exact List.getElem_mem _
      have hr:=zBR hk (h5 _ hm)
      have e:((List.map Int.toNat (List.take len zs)).getD i 0:Int)=zs.getD i 0:=by
        rw[List.getD_eq_getElem?_getD,List.getElem?_map,List.getElem?_take,if_pos hi']
        rw[List.getD_eq_getElem?_getD] at hr ⊢
        rw[List.getElem?_eq_getElem (by omega)] at hr ⊢
        simp at hr ⊢
        omega
      rw[vU,e]
    · intro n hn
      obtain⟨z,hz,rfl⟩:=List.mem_map.1 hn
      have hr:=zBR hk (h5 z (List.mem_of_mem_take hz))
      omega
theorem nat_of_wf{k:IntKind}(hk:k.signed=false){x:Int}(h:(Lit.int k x).wf=true):∃n:Nat,x=(n:Int)∧n<ub k:=by
  obtain⟨h1,h2⟩:=zBR hk h
  exact⟨x.toNat,by omega,by omega⟩
theorem int_of_wf{x:Int}(h:(Lit.int .i64 x).wf=true):-9223372036854775808≤x∧x<9223372036854775808:=by
  simp only[Lit.wf,Bool.and_eq_true,decide_eq_true_eq] at h
  simp[IntKind.min,IntKind.max,IntKind.signed,IntKind.bits] at h
  omega
theorem zE4{xs:List Nat}(h:∀x∈xs,x<256):byt (qB xs)=xs:=by
  simp only[byt,qB,List.map_map]
  conv=>rhs;rw[←List.map_id xs]
  refine List.map_congr_left fun x hx=>?_
  simp only[Function.comp,id]
  exact Nat.mod_eq_of_lt (h x hx)
end Bk
namespace Bk
set_option linter.unusedVariables false
set_option linter.unusedSimpArgs false
open Go Go.RowKit
open Classical
structure Is(h:Mem)(v:Value)(xs:List Int):Prop where
  sl:Sl h 1 v xs.length (xs.map vI)
  rng:∀x∈xs,-9223372036854775808≤x∧x<9223372036854775808
section
variable {P:Program}{n:Nat}{w0:World}{h0:Mem}{e:List (Nat×Value)}{L:List Res}{h:Mem}{Q:Exit→Act→World→Prop}
variable {ds:Option Tmp}{ty:TypeId}{ps:String}{af:Array Edge}{gd:Option (Nat×Bool)}
theorem zNO{t yt:TypeId}{x y:Operand}{p q:Int}(hx:zI e x=some (vI p))(hy:zI e y=some (vI q))(h3:0<q):
    OpV P n w0 h0 ⟨ds,.binOp .rem t x y yt,ty,ps,af,gd⟩ e L h (vI (p.tmod q)):=by
  intro a w E S
  have h7:q≠0:=by omega
  simp[execOp,E.eval hx,E.eval hy,vI,yW,binOp,Op.intDiv,h7]
end
def RetMut(w0:World)(h0:Mem)(h:Mem)(L:List Res)(G:Mem→Value→Res→Prop):Ending→World→Prop:=
  rT w0 h0 (fun g v K=>∃q',(q'::L).Sublist K∧MLe h g∧G g v q')
section
variable {P:Program}{n:Nat}{w0:World}{h0:Mem}{e:List (Nat×Value)}{L:List Res}{h:Mem}{Q:Exit→Act→World→Prop}
variable {ty:TypeId}{ps:String}{af:Array Edge}
section
variable {ops:Array Oper}{R:List Res}{d:Nat}
theorem zH6{A B:List Res}{q:Res}:∀r∈A++B,r∈A++q::B:=by
  intro r hr
  simp only[List.mem_append,List.mem_cons] at hr ⊢
  rcases hr with h|h
  · exact .inl h
  · exact .inr (.inr h)
theorem jI{Q:Exit→Act→World→Prop}{id:Nat}{l:List Oper}{A B:List Res}{q:Res}(m:Nat)(al:Als)(ord:List (Nat×Kd))(hm:P.follows .mixedOrders=true)(hal:gJ P n l.toArray al)
    (hchk:(Region.noSelect l.toArray&&rH l.toArray al&&(al.all fun x=>decide (x.1<m))&&chk l.toArray m ord (Array.replicate l.length false) (al.map (·.1)))=true)(hae:∀x∈al,al.lookup x.1=some x.2∧e.lookup x.2.1=none)
    (k:W P n w0 h0 l.toArray Q (A++B) al ord e (A++q::B) h):GC P n w0 h0 (.region id l.toArray true) Q e (A++q::B) h:=tF m (A++B) al ord hm hal hchk hae zH6 k
theorem vH{R A B:List Res}{q:Res}(hR:∀r∈R,r∈A++B):∀r∈R,∀q',r∈A++q::B→r∈A++q'::B:=fun r hr q' _=>zH6 r (hR r hr)
end
end
def aU(p q:Int):Int:=if p.tmod q<0 then p.tmod q+q else p.tmod q
theorem zBX(p:Int){q:Int}(hq:0<q):-q<p.tmod q∧p.tmod q<q:=by
  have h1:=Int.tmod_lt_of_pos p hq
  have h2:=Int.tmod_lt_of_pos (-p) hq
  rw[Int.neg_tmod] at h2
  omega
theorem zKP(p:Int){q:Int}(hq:0<q):0≤aU p q∧aU p q<q:=by
  have:=zBX p hq
  unfold aU
  split<;>omega
def zVG(n:Int):Int:=1+aU (n.tdiv 17) 12
noncomputable def zZ3(n:Int):Rat:=wN (aU n (zVG n+1)) (zVG n)
end Bk
namespace Bk
set_option linter.unusedVariables false
set_option linter.unusedSimpArgs false
open Go Go.RowKit
open Classical
theorem zOR{v:Value}(h:v.oneCell'=true):v.cells=#[v]:=by cases v<;>simp[Value.oneCell'] at h<;>rfl
structure Rp(α:Type) where
  n:Nat
  agg:Bool
  R:Mem→List Value→α→Prop
  len:∀{h cs x},R h cs x→cs.length=n
  mono:∀{h h' cs x},MLe h h'→R h cs x→R h' cs x
  one:∀{h cs x},R h cs x→cs.all (·.oneCell')=true
  cell:agg=false→n=1
section
variable {α β γ δ:Type}
def Rp.val(ρ:Rp α)(cs:List Value):Value:=if ρ.agg then .agg cs.toArray else cs.headD undef
def Rp.Is(ρ:Rp α)(h:Mem)(v:Value)(x:α):Prop:=∃cs,ρ.R h cs x∧v=ρ.val cs
theorem Rp.Is.mono{ρ:Rp α}{h h':Mem}{v:Value}{x:α}(s:ρ.Is h v x)(hh:MLe h h'):ρ.Is h' v x:=by
  obtain⟨cs,r,e⟩:=s
  exact⟨cs,ρ.mono hh r,e⟩
theorem Rp.single{ρ:Rp α}{h:Mem}{cs:List Value}{x:α}(r:ρ.R h cs x)(ha:ρ.agg=false):∃c,cs=[c]∧c.oneCell'=true:=by
  have h1:=ρ.len r
  have h2:=ρ.one r
  rw[ρ.cell ha] at h1
  match cs,h1 with
  |[c],_=>exact⟨c,rfl,by simpa using h2⟩
theorem Rp.cells_val{ρ:Rp α}{h:Mem}{cs:List Value}{x:α}(r:ρ.R h cs x):(ρ.val cs).cells=cs.toArray:=by
  unfold Rp.val
  split
  · rfl
  · rename_i ha
    obtain⟨c,rfl,hc⟩:=Rp.single r (by simpa using ha)
    exact zOR hc
theorem Rp.Is.cells{ρ:Rp α}{h:Mem}{v:Value}{x:α}(s:ρ.Is h v x):∃cs,ρ.R h cs x∧v.cells=cs.toArray:=by
  obtain⟨cs,r,rfl⟩:=s
  exact⟨cs,r,Rp.cells_val r⟩
theorem Rp.Is.cast{ρ:Rp α}{h:Mem}{v:Value}{x y:α}(s:ρ.Is h v x)(e:x=y):ρ.Is h v y:=e▸s
def RL(ρ:Rp α)(h:Mem):List Value→List α→Prop
  |cs,[]=>cs=[]
  |cs,x::xs=>∃a b,cs=a++b∧ρ.R h a x∧RL ρ h b xs
theorem RL.len{ρ:Rp α}{h:Mem}:∀{xs:List α} {cs:List Value},RL ρ h cs xs→cs.length=xs.length*ρ.n
  |[],_,r=>by rw[r];simp
  |x::xs,_,⟨a,b,e,r,s⟩=>by rw[e,lAz,ρ.len r,s.len,lC,Nat.add_mul];omega
theorem RL.mono{ρ:Rp α}{h h':Mem}(hh:MLe h h'):∀{xs:List α} {cs:List Value},RL ρ h cs xs→RL ρ h' cs xs
  |[],_,r=>r
  |_::_,_,⟨a,b,e,r,s⟩=>⟨a,b,e,ρ.mono hh r,s.mono hh⟩
theorem RL.one{ρ:Rp α}{h:Mem}:∀{xs:List α} {cs:List Value},RL ρ h cs xs→cs.all (·.oneCell')=true
  |[],_,r=>by rw[r];rfl
  |_::_,_,⟨a,b,e,r,s⟩=>by rw[e,List.all_append,ρ.one r,s.one];rfl
theorem RL.append{ρ:Rp α}{h:Mem}:∀{xs ys:List α} {cs ds:List Value},RL ρ h cs xs→RL ρ h ds ys→RL ρ h (cs++ds) (xs++ys)
  |[],_,_,_,r,s=>by rw[r];exact s
  |_::_,_,_,_,⟨a,b,e,r,s⟩,t=>⟨a,_,by rw[e,List.append_assoc],r,s.append t⟩
theorem RL.nil{ρ:Rp α}{h:Mem}:RL ρ h [] []:=rfl
theorem RL.drop{ρ:Rp α}{h:Mem}:∀{xs:List α} {cs:List Value} (i:Nat),RL ρ h cs xs→RL ρ h (cs.drop (i*ρ.n)) (xs.drop i)
  |_,_,0,r=>by simpa using r
  |[],_,i+1,r=>by rw[r];simp[RL]
  |_::xs,_,i+1,⟨a,b,e,r,s⟩=>by
   rw[e,show(i+1)*ρ.n=a.length+i*ρ.n by rw[ρ.len r,Nat.add_mul];omega,←List.drop_drop,List.drop_left]
   exact s.drop i
theorem RL.take{ρ:Rp α}{h:Mem}:∀{xs:List α} {cs:List Value} (i:Nat),RL ρ h cs xs→RL ρ h (cs.take (i*ρ.n)) (xs.take i)
  |_,_,0,r=>by simp[RL]
  |[],_,i+1,r=>by rw[r];simp[RL]
  |_::xs,_,i+1,⟨a,b,e,r,s⟩=>by
   rw[e,show(i+1)*ρ.n=a.length+i*ρ.n by rw[ρ.len r,Nat.add_mul];omega,List.take_length_add_append]
   exact⟨a,_,rfl,r,s.take i⟩
theorem RL.get{ρ:Rp α}{h:Mem}{xs:List α}{cs:List Value}{i:Nat}{x:α}(r:RL ρ h cs xs)(hx:xs[i]?=some x):ρ.R h ((cs.drop (i*ρ.n)).take ρ.n) x:=by
  have h1:=r.drop i
  obtain⟨hi,e⟩:=List.getElem?_eq_some_iff.1 hx
  rw[List.drop_eq_getElem_cons hi,e] at h1
  obtain⟨a,b,e1,ra,_⟩:=h1
  rw[e1,←ρ.len ra,List.take_left]
  exact ra
theorem RL.set{ρ:Rp α}{h:Mem}{xs:List α}{cs ds:List Value}{i:Nat}{y:α}(r:RL ρ h cs xs)(hi:i<xs.length)(hd:ρ.R h ds y):RL ρ h (cs.take (i*ρ.n)++ds++cs.drop (i*ρ.n+ρ.n)) (xs.set i y):=by
  have h1:=r.take i
  have h2:=r.drop (i+1)
  rw[Nat.add_mul,Nat.one_mul] at h2
  rw[List.set_eq_take_append_cons_drop,if_pos hi,List.append_assoc]
  exact h1.append ⟨ds,_,rfl,hd,h2⟩
def rpQ(k:Nat):Rp Rat where
  n:=3
  agg:=true
  R h cs q:=(∃vn vd,cs=[vB (q.num<0),vn,vd]∧Us .u32 h vn (zB q.num.natAbs)∧Us .u32 h vd (zB (xT q.den)))∧lq q≤k
  len:=by rintro h cs q ⟨⟨vn,vd,rfl,_⟩,_⟩;rfl
  mono:=by
    rintro h h' cs q hh ⟨⟨vn,vd,rfl,h1,h2⟩,h3⟩
    exact⟨⟨vn,vd,rfl,h1.mono hh,h2.mono hh⟩,h3⟩
  one:=by
    rintro h cs q ⟨⟨vn,vd,rfl,h1,h2⟩,h3⟩
    exact ocr rfl (ocu h1 (ocu h2 oc0))
  cell:=by simp
def rpI:Rp Int where
  n:=1
  agg:=false
  R _ cs z:=cs=[vI z]∧-9223372036854775808≤z∧z<9223372036854775808
  len:=by rintro h cs z ⟨rfl,_⟩;rfl
  mono:=fun _ r=>r
  one:=by rintro h cs z ⟨rfl,_⟩;rfl
  cell:=fun _=>rfl
def rpB:Rp Prop where
  n:=1
  agg:=false
  R _ cs p:=cs=[vB p]
  len:=by rintro h cs p rfl;rfl
  mono:=fun _ r=>r
  one:=by rintro h cs p rfl;rfl
  cell:=fun _=>rfl
def rpP(ρ:Rp α)(σ:Rp β):Rp (α×β) where
  n:=ρ.n+σ.n
  agg:=true
  R h cs x:=∃a b,cs=a++b∧ρ.R h a x.1∧σ.R h b x.2
  len:=by rintro h cs x ⟨a,b,rfl,h1,h2⟩;rw[lAz,ρ.len h1,σ.len h2]
  mono:=by rintro h h' cs x hh ⟨a,b,rfl,h1,h2⟩;exact⟨a,b,rfl,ρ.mono hh h1,σ.mono hh h2⟩
  one:=by rintro h cs x ⟨a,b,rfl,h1,h2⟩;rw[List.all_append,ρ.one h1,σ.one h2];rfl
  cell:=by simp
@[ext] structure T3(α:Type) where
  x:α
  y:α
  z:α
abbrev zT:T3 Rat:=T3.mk (0:Rat) 0 0
def T3.at(p:T3 α):Nat→α
  |0=>p.x
  |1=>p.y
  |_=>p.z
def T3.set(p:T3 α):Nat→α→T3 α
  |0,a=>⟨a,p.y,p.z⟩
  |1,a=>⟨p.x,a,p.z⟩
  |_,a=>⟨p.x,p.y,a⟩
def rpT(ρ:Rp α):Rp (T3 α) where
  n:=ρ.n+(ρ.n+ρ.n)
  agg:=true
  R h cs p:=(rpP ρ (rpP ρ ρ)).R h cs (p.x,p.y,p.z)
  len:=fun r=>(rpP ρ (rpP ρ ρ)).len r
  mono:=fun hh r=>(rpP ρ (rpP ρ ρ)).mono hh r
  one:=fun r=>(rpP ρ (rpP ρ ρ)).one r
  cell:=by simp
def rpA(k:Nat)(ρ:Rp α):Rp (List α) where
  n:=k*ρ.n
  agg:=true
  R h cs xs:=xs.length=k∧RL ρ h cs xs
  len:=by rintro h cs xs ⟨rfl,r⟩;exact r.len
  mono:=fun hh r=>⟨r.1,r.2.mono hh⟩
  one:=fun r=>r.2.one
  cell:=by simp
def rpS(ρ:Rp α):Rp (List α) where
  n:=1
  agg:=false
  R h cs xs:=∃v ds,cs=[v]∧Sl h ρ.n v xs.length ds∧RL ρ h ds xs
  len:=by rintro h cs xs ⟨v,ds,rfl,_⟩;rfl
  mono:=by rintro h h' cs xs hh ⟨v,ds,rfl,h1,h2⟩;exact⟨v,ds,rfl,h1.mono hh,h2.mono hh⟩
  one:=by
    rintro h cs xs ⟨v,ds,rfl,h1,h2⟩
    obtain⟨a,cap,rfl⟩:=h1.one
    rfl
  cell:=fun _=>rfl
theorem jB{h:Mem}{z:Int}(h1:-9223372036854775808≤z)(h2:z<9223372036854775808):rpI.Is h (vI z) z:=⟨_,⟨rfl,h1,h2⟩,rfl⟩
theorem jZ{h:Mem}{v:Value}{z:Int}(s:rpI.Is h v z):v=vI z∧-9223372036854775808≤z∧z<9223372036854775808:=by
  obtain⟨cs,⟨rfl,h1,h2⟩,rfl⟩:=s
  exact⟨rfl,h1,h2⟩
theorem is_b{h:Mem}(p:Prop):rpB.Is h (vB p) p:=⟨_,rfl,rfl⟩
theorem of_b{h:Mem}{v:Value}{p:Prop}(s:rpB.Is h v p):v=vB p:=by
  obtain⟨cs,rfl,rfl⟩:=s
  rfl
theorem cK{h:Mem}{v:Value}{q:Rat}{k:Nat}(s:wD h v q)(hk:lq q≤k):(rpQ k).Is h v q:=by
  obtain⟨vn,vd,rfl,h1,h2⟩:=s
  exact⟨_,⟨⟨vn,vd,rfl,h1,h2⟩,hk⟩,rfl⟩
theorem zZ4{h:Mem}{v:Value}{q:Rat}{k:Nat}(s:(rpQ k).Is h v q):wD h v q∧lq q≤k:=by
  obtain⟨cs,⟨⟨vn,vd,rfl,h1,h2⟩,hk⟩,rfl⟩:=s
  exact⟨⟨vn,vd,rfl,h1,h2⟩,hk⟩
theorem qI{h:Mem}{v:Value}{q:Rat}{k:Nat}(s:(rpQ k).Is h v q):∃vn vd,v=.agg #[vB (q.num<0),vn,vd]∧Us .u32 h vn (zB q.num.natAbs)∧Us .u32 h vd (zB (xT q.den))∧lq q≤k:=by
  obtain⟨cs,⟨⟨vn,vd,rfl,h1,h2⟩,hk⟩,rfl⟩:=s
  exact⟨vn,vd,rfl,h1,h2,hk⟩
theorem zUR{ρ:Rp α}{h:Mem}{v:Value}{xs:List α}{ds:List Value}(s:Sl h ρ.n v xs.length ds)(r:RL ρ h ds xs):(rpS ρ).Is h v xs:=⟨_,⟨v,ds,rfl,s,r⟩,rfl⟩
theorem zNR{ρ:Rp α}{h:Mem}{v:Value}{xs:List α}(s:(rpS ρ).Is h v xs):∃ds,Sl h ρ.n v xs.length ds∧RL ρ h ds xs:=by
  obtain⟨cs,⟨v,ds,rfl,h1,h2⟩,rfl⟩:=s
  exact⟨ds,h1,h2⟩
theorem mA{ρ:Rp α}(h:Mem):(rpS ρ).Is h (.slice none 0 0) []:=zUR (Sl.nil h _) rfl
theorem zZV{ρ:Rp α}{h:Mem}{v:Value}{xs:List α}(s:(rpS ρ).Is h v xs):xs.length<9223372036854775808:=by
  obtain⟨ds,h1,_⟩:=zNR s
  exact h1.lt63
theorem zZU{ρ:Rp α}{h:Mem}{v:Value}{xs:List α}(s:(rpS ρ).Is h v xs):∃a cap,v=.slice a xs.length cap:=by
  obtain⟨ds,h1,_⟩:=zNR s
  exact h1.one
structure Le(ρ σ:Rp α):Prop where
  n:ρ.n=σ.n
  agg:ρ.agg=σ.agg
  R:∀{h cs x},ρ.R h cs x→σ.R h cs x
theorem Le.refl(ρ:Rp α):Le ρ ρ:=⟨rfl,rfl,id⟩
theorem Le.q{k l:Nat}(h:k≤l):Le (rpQ k) (rpQ l):=⟨rfl,rfl,fun⟨a,b⟩=>⟨a,Nat.le_trans b h⟩⟩
theorem Le.p{ρ ρ':Rp α}{σ σ':Rp β}(h:Le ρ ρ')(k:Le σ σ'):Le (rpP ρ σ) (rpP ρ' σ'):=⟨by show ρ.n+σ.n=ρ'.n+σ'.n;rw[h.n,k.n],rfl,fun⟨a,b,e,r,s⟩=>⟨a,b,e,h.R r,k.R s⟩⟩
theorem Le.t{ρ ρ':Rp α}(h:Le ρ ρ'):Le (rpT ρ) (rpT ρ'):=⟨by show ρ.n+(ρ.n+ρ.n)=ρ'.n+(ρ'.n+ρ'.n);rw[h.n],rfl,fun r=>(Le.p h (Le.p h h)).R r⟩
theorem Le.rl{ρ ρ':Rp α}(h:Le ρ ρ'){m:Mem}:∀{xs:List α} {cs:List Value},RL ρ m cs xs→RL ρ' m cs xs
  |[],_,r=>r
  |_::_,_,⟨a,b,e,r,s⟩=>⟨a,b,e,h.R r,h.rl s⟩
theorem Le.s{ρ ρ':Rp α}(h:Le ρ ρ'):Le (rpS ρ) (rpS ρ'):=⟨rfl,rfl,fun⟨v,ds,e,s,r⟩=>⟨v,ds,e,h.n▸s,h.rl r⟩⟩
theorem Rp.Is.le{ρ σ:Rp α}{h:Mem}{v:Value}{x:α}(s:ρ.Is h v x)(k:Le ρ σ):σ.Is h v x:=by
  obtain⟨cs,r,rfl⟩:=s
  exact⟨cs,k.R r,by unfold Rp.val;rw[k.agg]⟩
structure Pc(ρ:Rp α)(off:Nat)(σ:Rp β)(g:α→β)(s:α→β→α):Prop where
  fits:off+σ.n≤ρ.n
  get:∀{h cs x},ρ.R h cs x→σ.R h ((cs.drop off).take σ.n) (g x)
  set:∀{h cs x ds y},ρ.R h cs x→σ.R h ds y→ρ.R h (cs.take off++ds++cs.drop (off+σ.n)) (s x y)
theorem Pc.here(ρ:Rp α):Pc ρ 0 ρ (fun x=>x) (fun _ y=>y):=by
  refine⟨by omega,fun r=>?_,fun{h cs x ds y} r s=>?_⟩
  · have:=ρ.len r
    rw[List.drop_zero,←this,List.take_length];exact r
  · have:=ρ.len r
    rw[Nat.zero_add,←this,List.drop_length,List.take_zero,List.nil_append,List.append_nil];exact s
theorem Pc.fst{ρ:Rp α}{σ:Rp β}{τ:Rp γ}{off:Nat}{g:α→γ}{s:α→γ→α}(p:Pc ρ off τ g s):Pc (rpP ρ σ) off τ (fun x=>g x.1) (fun x y=>(s x.1 y,x.2)):=by
  have hf:=p.fits
  refine⟨by show off+τ.n≤ρ.n+σ.n;omega,?_,?_⟩
  · rintro h cs x ⟨a,b,rfl,ra,rb⟩
    have hl:=ρ.len ra
    have:=p.get ra
    rwa [List.drop_append_of_le_length (by omega),List.take_append_of_le_length (by rw[List.length_drop];omega)]
  · rintro h cs x ds y ⟨a,b,rfl,ra,rb⟩ rd
    have hl:=ρ.len ra
    refine⟨_,b,?_,p.set ra rd,rb⟩
    rw[List.take_append_of_le_length (by omega),List.drop_append_of_le_length (by omega)]
    simp[List.append_assoc]
theorem Pc.snd{ρ:Rp α}{σ:Rp β}{τ:Rp γ}{off:Nat}{g:β→γ}{s:β→γ→β}(p:Pc σ off τ g s):Pc (rpP ρ σ) (ρ.n+off) τ (fun x=>g x.2) (fun x y=>(x.1,s x.2 y)):=by
  have hf:=p.fits
  refine⟨by show ρ.n+off+τ.n≤ρ.n+σ.n;omega,?_,?_⟩
  · rintro h cs x ⟨a,b,rfl,ra,rb⟩
    have hl:=ρ.len ra
    have:=p.get rb
    rwa [←hl,←List.drop_drop,List.drop_left]
  · rintro h cs x ds y ⟨a,b,rfl,ra,rb⟩ rd
    have hl:=ρ.len ra
    refine⟨a,_,?_,ra,p.set rb rd⟩
    rw[←hl,List.take_length_add_append,Nat.add_assoc,←List.drop_drop,List.drop_left]
    simp[List.append_assoc]
theorem Pc.tx{ρ:Rp α}{τ:Rp γ}{off:Nat}{g:α→γ}{s:α→γ→α}(p:Pc ρ off τ g s):Pc (rpT ρ) off τ (fun x=>g x.x) (fun x y=>⟨s x.x y,x.y,x.z⟩):=by
  have q:Pc (rpP ρ (rpP ρ ρ)) off τ _ _:=p.fst
  exact⟨q.fits,fun r=>q.get r,fun r d=>q.set r d⟩
theorem Pc.ty{ρ:Rp α}{τ:Rp γ}{off:Nat}{g:α→γ}{s:α→γ→α}(p:Pc ρ off τ g s):Pc (rpT ρ) (ρ.n+off) τ (fun x=>g x.y) (fun x y=>⟨x.x,s x.y y,x.z⟩):=by
  have q:Pc (rpP ρ (rpP ρ ρ)) (ρ.n+off) τ _ _:=(Pc.fst (σ:=ρ) p).snd
  exact⟨q.fits,fun r=>q.get r,fun r d=>q.set r d⟩
theorem Pc.tz{ρ:Rp α}{τ:Rp γ}{off:Nat}{g:α→γ}{s:α→γ→α}(p:Pc ρ off τ g s):Pc (rpT ρ) (ρ.n+(ρ.n+off)) τ (fun x=>g x.z) (fun x y=>⟨x.x,x.y,s x.z y⟩):=by
  have q:Pc (rpP ρ (rpP ρ ρ)) (ρ.n+(ρ.n+off)) τ _ _:=(Pc.snd (ρ:=ρ) p).snd
  exact⟨q.fits,fun r=>q.get r,fun r d=>q.set r d⟩
theorem Pc.ta{ρ:Rp α}{τ:Rp γ}{off:Nat}{g:α→γ}{s:α→γ→α}(p:Pc ρ off τ g s)(i:Nat)(hi:i<3):Pc (rpT ρ) (i*ρ.n+off) τ (fun x=>g (x.at i)) (fun x y=>x.set i (s (x.at i) y)):=by
  match i,hi with
  |0,_=>rw[Nat.zero_mul,Nat.zero_add];exact p.tx
  |1,_=>rw[Nat.one_mul];exact p.ty
  |2,_=>rw[show 2*ρ.n+off=ρ.n+(ρ.n+off) by omega];exact p.tz
theorem Pc.arr{ρ:Rp α}{τ:Rp γ}{off k:Nat}{g:α→γ}{s:α→γ→α}(p:Pc ρ off τ g s)(d:α)(i:Nat)(hi:i<k):Pc (rpA k ρ) (i*ρ.n+off) τ (fun x=>g (x.getD i d)) (fun x y=>x.set i (s (x.getD i d) y)):=by
  have hf:=p.fits
  have hm:i*ρ.n+ρ.n≤k*ρ.n:=by rw[←Nat.succ_mul];exact Nat.mul_le_mul_right _ hi
  have hx:∀{x:List α},x.length=k→x[i]?=some (x.getD i d):=by
    intro x hl
    rw[List.getD_eq_getElem?_getD,List.getElem?_eq_getElem (by omega)];rfl
  refine⟨by show i*ρ.n+off+τ.n≤k*ρ.n;omega,?_,?_⟩
  · rintro h cs x ⟨hl,r⟩
    have h1:=p.get (r.get (hx hl))
    rw[List.drop_take,List.take_take,Nat.min_eq_left (by omega),List.drop_drop] at h1
    exact h1
  · rintro h cs x ds y ⟨hl,r⟩ rd
    have hc:=r.len
    rw[hl] at hc
    refine⟨by simpa using hl,?_⟩
    have h1:=r.set (i:=i) (by omega) (p.set (r.get (hx hl)) rd)
    have e:cs.take (i*ρ.n)++(((cs.drop (i*ρ.n)).take ρ.n).take off++ds++((cs.drop (i*ρ.n)).take ρ.n).drop (off+τ.n))++cs.drop (i*ρ.n+ρ.n)=cs.take (i*ρ.n+off)++ds++cs.drop (i*ρ.n+off+τ.n):=by
      rw[List.take_take,Nat.min_eq_left (by omega),List.drop_take,List.drop_drop]
      have e1:cs.take (i*ρ.n+off)=cs.take (i*ρ.n)++(cs.drop (i*ρ.n)).take off:=List.take_add
      have e2:cs.drop (i*ρ.n+off+τ.n)=(cs.drop (i*ρ.n+(off+τ.n))).take (ρ.n-(off+τ.n))++cs.drop (i*ρ.n+ρ.n):=by
        have e3:=List.take_append_drop (ρ.n-(off+τ.n)) (cs.drop (i*ρ.n+(off+τ.n)))
        rw[List.drop_drop,show i*ρ.n+(off+τ.n)+(ρ.n-(off+τ.n))=i*ρ.n+ρ.n by omega] at e3
        rw[Nat.add_assoc (i*ρ.n)]
        exact e3.symm
      rw[e1,e2]
      simp[List.append_assoc]
    rw[←e]
    exact h1
theorem yE{k:Nat}{h:Mem}(hk:1≤k):(rpQ k).R h [.bool false,.slice none 0 0,.slice none 0 0] 0:=by
  refine⟨⟨_,_,?_,zAN h,zAO h⟩,by rw[sV];exact hk⟩
  rw[yS (show ¬(0:Rat).num<0 by decide)]
theorem wK{h:Mem}:rpI.R h [.int .i64 0] 0:=⟨rfl,by decide,by decide⟩
theorem zr_b{h:Mem}:rpB.R h [.bool false] False:=by show _=_;rw[yS (p:=False) id]
theorem yJ{ρ:Rp α}{σ:Rp β}{h:Mem}{a b:List Value}{x:α}{y:β}(r:ρ.R h a x)(s:σ.R h b y):(rpP ρ σ).R h (a++b) (x,y):=⟨a,b,rfl,r,s⟩
theorem wG{ρ:Rp α}{h:Mem}{a:List Value}{x:α}(r:ρ.R h a x):(rpT ρ).R h (a++(a++a)) ⟨x,x,x⟩:=⟨a,_,rfl,r,a,a,rfl,r,r⟩
theorem qQ{ρ:Rp α}{h:Mem}:(rpS ρ).R h [.slice none 0 0] []:=⟨_,[],rfl,Sl.nil h _,rfl⟩
theorem zV9{ρ:Rp α}{h:Mem}{a:List Value}{x:α}(k:Nat)(r:ρ.R h a x):(rpA k ρ).R h (List.replicate k a).flatten (List.replicate k x):=by
  refine⟨List.length_replicate,?_⟩
  induction k with
  |zero=>rfl
  |succ k ih=>rw[List.replicate_succ,List.replicate_succ];exact⟨a,_,rfl,r,ih⟩
end
end Bk
namespace Bk
set_option linter.unusedVariables false
set_option linter.unusedSimpArgs false
open Go Go.RowKit
open Classical
structure TyOk(P:Program)(t:TypeId)(n:Nat)(agg:Bool):Prop where
  sz:∀w,(Go.sizeOf t).run P w=.ok n w
  ag:∀w,(isAgg t).run P w=.ok agg w
section
variable {α β γ:Type}
variable {P:Program}{n:Nat}{w0:World}{h0:Mem}{e:List (Nat×Value)}{L:List Res}{h:Mem}{Q:Exit→Act→World→Prop}
variable {ds:Option Tmp}{ty:TypeId}{ps:String}{af:Array Edge}{gd:Option (Nat×Bool)}
theorem zCA:∀(vs:List Value) (k:Nat) (cs:List Value),k+vs.length≤cs.length→iE cs k vs=cs.take k++vs++cs.drop (k+vs.length):=by
  have key:∀(vs:List Value) (j k:Nat) (cs:List Value),k+j+vs.length≤cs.length→(vs.zipIdx j).foldl (fun c p=>c.set (k+p.2) p.1) cs=cs.take (k+j)++vs++cs.drop (k+j+vs.length):=by
    intro vs
    induction vs with
    |nil=>intro j k cs hl;simp
    |cons v vs ih=>
     intro j k cs hl
     simp only[lC] at hl
     rw[List.zipIdx_cons,List.foldl_cons,ih (j+1) k _ (by rw[lS];omega)]
     rw[List.set_eq_take_append_cons_drop,if_pos (by omega)]
     have h1:(cs.take (k+j)).length=k+j:=by rw[List.length_take];omega
     have e1:(cs.take (k+j)++v::cs.drop (k+j+1)).take (k+(j+1))=cs.take (k+j)++[v]:=by
       rw[show k+(j+1)=(cs.take (k+j)).length+1 by omega,List.take_length_add_append];rfl
     have e2:(cs.take (k+j)++v::cs.drop (k+j+1)).drop (k+(j+1)+vs.length)=cs.drop (k+j+(vs.length+1)):=by
       rw[show k+(j+1)+vs.length=(cs.take (k+j)).length+(vs.length+1) by omega,←List.drop_drop,List.drop_left,List.drop_succ_cons,List.drop_drop]
       congr 1;omega
     rw[e1,e2]
     simp
  intro vs k cs hl
  exact key vs 0 k cs (by omega)
def OpX(P:Program)(n:Nat)(w0:World)(h0:Mem)(o:Oper)(e:List (Nat×Value))(R:List Res)(h:Mem)(F:Value→Prop):Prop:=
  ∃v,(∀L' h',MLe h h'→(∀r∈R,r∈L')→OpV P n w0 h0 o e L' h' v)∧F v
theorem zIJ{ops:Array Oper}{rest:List Oper}{d:Nat}{op:Op}{R:List Res}{F:Value→Prop}(hv:OpX P n w0 h0 ⟨some d,op,ty,ps,af,none⟩ e R h F)(hR:∀r∈R,r∈L)(hn:Nat.ble (d+1) n=true)
    (k:∀v,F v→GL P n w0 h0 ops Q rest ((d,v)::e) L h):GL P n w0 h0 ops Q (⟨some d,op,ty,ps,af,none⟩::rest) e L h:=by
  obtain⟨v,hv,hF⟩:=hv
  exact mC (hv L h (MLe.refl h) hR) rfl rfl hn (k v hF)
section
variable {ops:Array Oper}{RR:List Res}{al:Als}{d i:Nat}{op:Op}{v:Value}{r:List (Nat×Kd)}{g t:Nat}{b:Bool}
theorem mV{R:List Res}{F:Value→Prop}(ho:ops.getD i default=⟨some d,op,ty,ps,af,none⟩)(hv:OpX P n w0 h0 ⟨some d,op,ty,ps,af,none⟩ e R h F)(hR:∀r∈R,r∈RR)(hn:Nat.ble (d+1) n=true)
    (k:∀v,F v→W P n w0 h0 ops Q RR al r ((d,v)::e) L h):W P n w0 h0 ops Q RR al ((i,.q)::r) e L h:=by
  obtain⟨v,hv,hF⟩:=hv
  exact w_q ho (fun h' L' hh hr=>hv L' h' hh fun r hr'=>hr r (hR r hr')) hn (k v hF)
theorem x_qx{K:List (Nat×Value)→List Res→Mem→Prop}{R:List Res}{F:Value→Prop}(ho:ops.getD i default=⟨some d,op,ty,ps,af,none⟩)(hv:OpX P n w0 h0 ⟨some d,op,ty,ps,af,none⟩ e R h F)(hR:∀r∈R,r∈RR)(hn:Nat.ble (d+1) n=true)
    (k:∀v,F v→K ((d,v)::e) L h):SQ P n w0 h0 ops RR i e L h K:=by
  obtain⟨v,hv,hF⟩:=hv
  exact x_q ho (fun h' L' hh hr=>hv L' h' hh fun r hr'=>hr r (hR r hr')) hn (k v hF)
theorem aB{R:List Res}{F:Value→Prop}(ho:ops.getD i default=⟨some d,op,ty,ps,af,some (g,b)⟩)(ht:(ops[g]?).bind (·.dst)=some t)(he:e.lookup t=some (.bool b))(hv:OpX P n w0 h0 ⟨some d,op,ty,ps,af,none⟩ e R h F)(hR:∀r∈R,r∈RR)(hn:Nat.ble (d+1) n=true)
    (k:∀v,F v→W P n w0 h0 ops Q RR al r ((d,v)::e) L h):W P n w0 h0 ops Q RR al ((i,.q)::r) e L h:=by
  obtain⟨v,hv,hF⟩:=hv
  exact yP ho ht he (fun h' L' hh hr=>hv L' h' hh fun r hr'=>hr r (hR r hr')) hn (k v hF)
theorem s_x{W':List (Nat×Value)→List Res→Mem→Prop}{R:List Res}{F:Value→Prop}(hv:OpX P n w0 h0 ⟨some d,op,ty,ps,af,none⟩ e R h F)(hR:∀r∈R,r∈L)(hn:Nat.ble (d+1) n=true)
    (k:∀v,F v→W' ((d,v)::e) L h):qS P n w0 h0 ops RR ⟨some d,op,ty,ps,af,none⟩ e L h W':=by
  obtain⟨v,hv,hF⟩:=hv
  exact zLM (fun X=>hv (L++X) h (MLe.refl h) fun r hr=>List.mem_append_left _ (hR r hr)) hn (k v hF)
end
theorem zDV{L:List Res}:∀r∈([]:List Res),r∈L:=fun r hr=>by cases hr
theorem tM{L:List Res}{r:Res}(hr:r∈L):∀x∈[r],x∈L:=fun x hx=>by cases hx with|head=>exact hr|tail _ h=>cases h
theorem q7{t:TypeId}{σ:Rp β}{cs:List Value}{y:β}{w:World}{b o:Nat}(T:TyOk P t σ.n σ.agg)(r:σ.R h cs y)(hc:w.rangeAt b o cs):(Instr.loadAt t (vP b o)).run P w=.ok (σ.val cs) w:=by
  have hlen:=σ.len r
  simp only[Instr.loadAt,Instr.sureAddr,loadVar,Sem.run_bind,T.ag,Result.andThen_ok,Sem.run_pure]
  unfold Rp.val
  cases ha:σ.agg with
  |true=>
   have hl:(loadCells ⟨b,o,none⟩ cs.length).run P w=.ok cs.toArray w:=run_loadCells_list (P:=P) w ⟨b,o,none⟩ cs (fun j v hv=>by rw[Addr.add_mid];exact hc j v hv)
   rw[hlen] at hl
   simp[Sem.run_bind,T.sz,hl]
  |false=>
   obtain⟨c,rfl,_⟩:=Rp.single r ha
   have:=hc 0 c rfl
   simp only[Nat.add_zero] at this
   simp[Go.load,Sem.run,this]
theorem zHH{t E:TypeId}{x:Operand}{b k off:Nat}{cs:List Value}{ρ:Rp α}{σ:Rp β}{g:α→β}{s:α→β→α}{X:α}{Z:β}(T:TyOk P t σ.n σ.agg)(pc:Pc ρ off σ g s)(ho:k=off)(hx:zI e x=some (vP b k))(r:ρ.R h cs X)(hZ:g X=Z):
    OpX P n w0 h0 ⟨ds,.load t x,ty,ps,af,gd⟩ e [.var b E cs] h (fun u=>σ.Is h u Z):=by
  subst hZ
  subst ho
  have h1:=pc.get r
  refine⟨_,fun L' h' _ hm a w Ev S=>?_,_,h1,rfl⟩
  have hw:w.heap[b]?=some (.cells cs.toArray E):=S.ok (.var b E cs) (hm _ (.head _))
  have hr:=q7 (P:=P) (w:=w) T h1 (oZ hw k _ (by rw[σ.len h1]))
  simp[execOp,Ev.eval hx,hr]
def AtP(ρ:Rp α)(h:Mem)(p:Value)(X:α):Prop:=∃b o cs,p=vP b o∧ρ.R h cs X∧∀j u,cs[j]?=some u→cell h b (o+j)=some u
theorem AtP.mono{ρ:Rp α}{h h':Mem}{p:Value}{X:α}(s:AtP ρ h p X)(hh:MLe h h'):AtP ρ h' p X:=by
  obtain⟨b,o,cs,e,r,hc⟩:=s
  exact⟨b,o,cs,e,ρ.mono hh r,fun j u hj=>zAI hh (hc j u hj)⟩
theorem lH{t E:TypeId}{x y:Operand}{q:Int}{v:Value}{ρ:Rp α}{xs:List α}(d:α)(i:Nat)(ht:P.underlying t=some (.slice E))(T:TyOk P E ρ.n ρ.agg)(hx:zI e x=some v)(hy:zI e y=some (vI q))(r:(rpS ρ).Is h v xs)(hq:q=(i:Int))(hi:i<xs.length)(hp:0<ρ.n):
    OpX P n w0 h0 ⟨ds,.indexAddr t x y,ty,ps,af,gd⟩ e [] h (fun u=>AtP ρ h u (xs.getD i d)):=by
  obtain⟨cs,hs,hr⟩:=zNR r
  have hxi:xs[i]?=some (xs.getD i d):=by rw[List.getD_eq_getElem?_getD,List.getElem?_eq_getElem hi];rfl
  have hg:=hr.get hxi
  have hlen:=hr.len
  have hm:i*ρ.n+ρ.n≤cs.length:=by rw[hlen,←Nat.succ_mul];exact Nat.mul_le_mul_right _ hi
  refine⟨zK ρ.n v i,fun L' h' hh _=>y9 i ht T.sz hx hy (hs.mono hh) hq hi hp,?_⟩
  have h0:(cs[i*ρ.n+0]?)=some (cs[i*ρ.n]'(by omega)):=by rw[Nat.add_zero,List.getElem?_eq_getElem]
  obtain⟨b,o,e1,_⟩:=hs.cell h0
  refine⟨b,o,_,e1,hg,fun j u hj=>?_⟩
  rw[List.getElem?_take] at hj
  split at hj
  · rw[List.getElem?_drop] at hj
    obtain⟨b',o',e2,hc⟩:=hs.cell hj
    rw[e1] at e2
    simp only[Value.pointer.injEq,Option.some.injEq,Addr.mk.injEq] at e2
    rw[e2.1,e2.2.1];exact hc
  · cases hj
theorem zJW{t:TypeId}{x:Operand}{p:Value}{ρ:Rp α}{X:α}(T:TyOk P t ρ.n ρ.agg)(hx:zI e x=some p)(r:AtP ρ h p X):OpX P n w0 h0 ⟨ds,.load t x,ty,ps,af,gd⟩ e [] h (fun u=>ρ.Is h u X):=by
  obtain⟨b,o,cs,rfl,r,hc⟩:=r
  refine⟨_,fun L' h' hh _ a w Ev S=>?_,_,r,rfl⟩
  have hr:=q7 (P:=P) (w:=w) T r (fun j u hj=>bT (hh.trans S.sub) (hc j u hj))
  simp[execOp,Ev.eval hx,hr]
theorem zNN{t:TypeId}{x:Operand}{f off m:Nat}{fs:Array Field}{fl:Field}{p:Value}{ρ:Rp α}{σ:Rp β}{g:α→β}{s:α→β→α}{X:α}{Z:β}(ht:P.underlying t=some (.struct fs))(hf:fs[f]?=some fl)(hsz:∀w,(Go.sizeOf fl.type).run P w=.ok (m+1) w)(pc:Pc ρ off σ g s)(ho:fl.offset=off)(hx:zI e x=some p)(r:AtP ρ h p X)(hZ:g X=Z):
    OpX P n w0 h0 ⟨ds,.fieldAddr t x f,ty,ps,af,gd⟩ e [] h (fun u=>AtP σ h u Z):=by
  subst hZ
  obtain⟨b,o,cs,rfl,r,hc⟩:=r
  subst ho
  refine⟨_,fun L' h' hh _=>xU ht hf hsz hx,b,_,_,rfl,pc.get r,fun j u hj=>?_⟩
  rw[List.getElem?_take] at hj
  split at hj
  · rw[List.getElem?_drop] at hj
    have:=hc _ _ hj
    rwa [←Nat.add_assoc] at this
  · cases hj
theorem zED{t E:TypeId}{x y:Operand}{m off:Nat}{q:Int}{p:Value}{ρ:Rp α}{σ:Rp β}{g:α→β}{s:α→β→α}{X:α}{Z:β}(i:Nat)(ht:P.underlying t=some (.array m E))(hsz:∀w,(Go.sizeOf E).run P w=.ok σ.n w)(pc:Pc ρ off σ g s)(ho:i*σ.n=off)(hx:zI e x=some p)(hy:zI e y=some (vI q))(r:AtP ρ h p X)(hq:q=(i:Int))(hi:i<m)(hZ:g X=Z):
    OpX P n w0 h0 ⟨ds,.indexAddr t x y,ty,ps,af,gd⟩ e [] h (fun u=>AtP σ h u Z):=by
  subst hZ
  obtain⟨b,o,cs,rfl,r,hc⟩:=r
  subst ho
  refine⟨_,fun L' h' hh _=>xW i ht hsz hx hy hq hi,b,_,_,rfl,pc.get r,fun j u hj=>?_⟩
  rw[List.getElem?_take] at hj
  split at hj
  · rw[List.getElem?_drop] at hj
    have:=hc _ _ hj
    rwa [←Nat.add_assoc] at this
  · cases hj
theorem uS{v:Value}{ρ:Rp α}{xs:List α}{t E:TypeId}{x:Operand}(ht:P.underlying t=some (.slice E))(hx:zI e x=some v)(r:(rpS ρ).Is h v xs):
    OpV P n w0 h0 ⟨ds,.call {callee:=.builtin .len,args:=#[x],argTypes:=#[t]},ty,ps,af,gd⟩ e L h (vI (xs.length:Int)):=eH ht hx (zZU r)
theorem zSZ{E t:TypeId}{b k off:Nat}{cs:List Value}{v:Value}{x y:Operand}{ρ:Rp α}{σ:Rp β}{g:α→β}{s:α→β→α}{X Z:α}{Y:β}(hsz:∀w,(Go.sizeOf t).run P w=.ok σ.n w)(pc:Pc ρ off σ g s)(ho:k=off)(hx:zI e x=some (vP b k))(hy:zI e y=some v)(r:ρ.R h cs X)(ry:σ.Is h v Y)(hZ:s X Y=Z):
    ∃cs',ρ.R h cs' Z∧∀A B,Upd P n w0 h0 ⟨ds,.store t x y,ty,ps,af,gd⟩ e A (.var b E cs) B h (.var b E cs'):=by
  subst hZ
  subst ho
  obtain⟨vs,rv,hv⟩:=ry.cells
  have hl:=σ.len rv
  have hlc:=ρ.len r
  have hf:=pc.fits
  refine⟨iE cs k vs,?_,?_⟩
  · rw[zCA _ _ _ (by omega),hl]
    exact pc.set r rv
  · intro A B a w Ev S
    have hw:w.heap[b]?=some (.cells cs.toArray E):=S.ok (.var b E cs) (by simp)
    obtain⟨h2,h3⟩:=nI vs k cs w hw
    refine⟨w.setCells b k vs,?_,h3,h2⟩
    have hthere:w.there b k vs.length:=by
      intro j hj
      have:k+j<cs.length:=by omega
      refine⟨?_,?_⟩
      · unfold World.cell?
        simp[hw,this]
      · simp[World.frozen?,hw]
    have hrun:=run_storeCells_cells (P:=P) b k vs 0 w (fun j hj=>by simpa using(hthere j hj).1) (fun j hj=>by simpa using(hthere j hj).2) (fun u hu=>List.all_eq_true.1 (σ.one rv) u hu)
    simp only[Nat.add_zero] at hrun
    simp[execOp,Ev.eval hx,Ev.eval hy,Instr.storeAt,Instr.sureAddr,storeVar,hsz,hv,hl,hrun]
theorem zO{ops:Array Oper}{rest:List Oper}{A B:List Res}{op:Op}{b:Nat}{E:TypeId}{cs:List Value}{F:List Value→Prop}(hv:∃cs',F cs'∧∀A B,Upd P n w0 h0 ⟨none,op,ty,ps,af,none⟩ e A (.var b E cs) B h (.var b E cs'))
    (k:∀cs',F cs'→GL P n w0 h0 ops Q rest e (A++.var b E cs'::B) h):GL P n w0 h0 ops Q (⟨none,op,ty,ps,af,none⟩::rest) e (A++.var b E cs::B) h:=by
  obtain⟨cs',hF,hu⟩:=hv
  exact xG (hu A B) rfl rfl rfl (k cs' hF)
theorem yQ{ops:Array Oper}{RR:List Res}{al:Als}{i:Nat}{r:List (Nat×Kd)}{A B:List Res}{op:Op}{b:Nat}{E:TypeId}{cs:List Value}{F:List Value→Prop}(ho:ops.getD i default=⟨none,op,ty,ps,af,none⟩)(hv:∃cs',F cs'∧∀A B,Upd P n w0 h0 ⟨none,op,ty,ps,af,none⟩ e A (.var b E cs) B h (.var b E cs'))
    (k:∀cs',F cs'→W P n w0 h0 ops Q RR al r e (A++.var b E cs'::B) h):W P n w0 h0 ops Q RR al ((i,.t)::r) e (A++.var b E cs::B) h:=by
  obtain⟨cs',hF,hu⟩:=hv
  exact kC ho (hu A B) rfl (k cs' hF)
theorem aQ{ops:Array Oper}{R:List Res}{W':List (Nat×Value)→List Res→Mem→Prop}{A B:List Res}{op:Op}{b:Nat}{E:TypeId}{cs:List Value}{F:List Value→Prop}(hv:∃cs',F cs'∧∀A B,Upd P n w0 h0 ⟨none,op,ty,ps,af,none⟩ e A (.var b E cs) B h (.var b E cs'))
    (hR:∀r∈R,∀q',r∈A++.var b E cs::B→r∈A++q'::B)(k:∀cs',F cs'→W' e (A++.var b E cs'::B) h):qS P n w0 h0 ops R ⟨none,op,ty,ps,af,none⟩ e (A++.var b E cs::B) h W':=by
  obtain⟨cs',hF,hu⟩:=hv
  intro X a w Ev S
  have S1:St w0 h0 (A++.var b E cs::(B++X)) h w:=by simpa using S
  unfold qA
  rw[if_pos (wn rfl)]
  obtain⟨w',hr,hgr,hok⟩:=hu A (B++X) a w Ev S1
  rw[hr]
  refine⟨fun d' hd=>(by cases hd),A++.var b E cs'::B,h,MLe.refl h,fun hh r hr=>hR r hr _ (hh r hr),?_,k cs' hF⟩
  have:=S1.grown hgr hok fun b hb=>.inl hb
  simpa using this
theorem zQ2{E:TypeId}{x:Operand}{v:Value}{ρ:Rp α}{X:α}(hx:zI e x=some v)(r:ρ.Is h v X):
    aM P n w0 h0 ⟨ds,.box E x,ty,ps,af,gd⟩ e L h (fun u q=>∃b cs,u=vP b 0∧q=.var b E cs∧ρ.R h cs X):=by
  obtain⟨cs,rc,hc⟩:=r.cells
  intro a w Ev S
  obtain⟨v',w',q,h1,h2,h3,h4,b,h5,h6⟩:=xD (n:=n) (ds:=ds) (ty:=ty) (ps:=ps) (af:=af) (gd:=gd) (L:=L) (E:=E) hx hc a w Ev S
  exact⟨v',w',q,h1,h2,h3,h4,b,cs,h5,h6,rc⟩
theorem zKM{E:TypeId}{i:TypeInfo}{z:Value}{cs:List Value}{ρ:Rp α}{X:α}(hi:P.info? E=some i)(hz:i.zero=some z)(hc:z.cells=cs.toArray)(r:ρ.R h cs X):
    aM P n w0 h0 ⟨ds,.alloc E,ty,ps,af,gd⟩ e L h (fun u q=>∃b cs,u=vP b 0∧q=.var b E cs∧ρ.R h cs X):=by
  intro a w Ev S
  obtain⟨v',w',q,h1,h2,h3,h4,b,h5,h6⟩:=xN (n:=n) (ds:=ds) (ty:=ty) (ps:=ps) (af:=af) (gd:=gd) (e:=e) (L:=L) (h:=h) hi hz hc a w Ev S
  exact⟨v',w',q,h1,h2,h3,h4,b,cs,h5,h6,r⟩
def zE8(ρ:Rp α)(h:Mem)(place:Nat→Option (Nat×Nat))(X:α)(parts:List (Nat×Value))(X':α):Prop:=
  ∀cs,ρ.R h cs X→∃cs',ρ.R h cs' X'∧Instr.fill place cs.toArray parts=some cs'.toArray
theorem zX{ρ:Rp α}{place:Nat→Option (Nat×Nat)}{X:α}:zE8 ρ h place X [] X:=fun cs r=>⟨cs,r,rfl⟩
theorem zJ{ρ:Rp α}{σ:Rp β}{place:Nat→Option (Nat×Nat)}{X X':α}{Y:β}{i off:Nat}{v:Value}{rest:List (Nat×Value)}{g:α→β}{s:α→β→α}(hp:place i=some (off,σ.n))(pc:Pc ρ off σ g s)(ry:σ.Is h v Y)(k:zE8 ρ h place (s X Y) rest X'):zE8 ρ h place X ((i,v)::rest) X':=by
  intro cs r
  obtain⟨vs,rv,hv⟩:=ry.cells
  have hl:=σ.len rv
  have hlc:=ρ.len r
  have hf:=pc.fits
  obtain⟨cs',r',e'⟩:=k _ (pc.set r rv)
  refine⟨cs',r',?_⟩
  have e1:cs=cs.take off++(cs.drop off).take σ.n++cs.drop (off+σ.n):=by
    rw[List.append_assoc,←List.drop_drop,List.take_append_drop,List.take_append_drop]
  rw[e1]
  exact yV hp (by rw[List.length_take];omega) (by rw[List.length_take,List.length_drop];omega) hl hv e'
theorem xR{t:TypeId}{i:TypeInfo}{z:Value}{zs:List Value}{fs:Array Field}{places:Array (Nat×Nat)}{parts:List (Nat×Operand)}{ps':List (Nat×Value)}{ρ:Rp α}{X X':α}(ht:P.underlying t=some (.struct fs))(hi:P.info? t=some i)(hz:i.zero=some z)(hzc:z.cells=zs.toArray)
    (hpl:∀w,(fs.mapM fun(f:Field)=>do pure (f.offset,←Go.sizeOf f.type)).run P w=.ok places w)(hp:mN e parts ps')(ha:ρ.agg=true)(rz:ρ.R h zs X)(hf:zE8 ρ h (places[·]?) X ps' X'):
    OpX P n w0 h0 ⟨ds,.build t parts.toArray,ty,ps,af,gd⟩ e [] h (fun u=>ρ.Is h u X'):=by
  obtain⟨cs',r',e'⟩:=hf zs rz
  refine⟨.agg cs'.toArray,fun L' h' _ _=>yK ht hi hz hpl hp (by rw[hzc];exact e'),cs',r',?_⟩
  unfold Rp.val;rw[ha];rfl
theorem wQ{t E:TypeId}{m sz:Nat}{i:TypeInfo}{z:Value}{zs:List Value}{parts:List (Nat×Operand)}{ps':List (Nat×Value)}{ρ:Rp α}{X X':α}(ht:P.underlying t=some (.array m E))(hi:P.info? t=some i)(hz:i.zero=some z)(hzc:z.cells=zs.toArray)
    (hsz:∀w,(Go.sizeOf E).run P w=.ok sz w)(hp:mN e parts ps')(ha:ρ.agg=true)(rz:ρ.R h zs X)(hf:zE8 ρ h (fun i=>some (i*sz,sz)) X ps' X'):
    OpX P n w0 h0 ⟨ds,.build t parts.toArray,ty,ps,af,gd⟩ e [] h (fun u=>ρ.Is h u X'):=by
  obtain⟨cs',r',e'⟩:=hf zs rz
  refine⟨.agg cs'.toArray,fun L' h' _ _=>zFX ht hi hz hsz hp (by rw[hzc];exact e'),cs',r',?_⟩
  unfold Rp.val;rw[ha];rfl
theorem kE{R R':Mem→Value→Prop}(k:∀h r,R h r→R' h r)(x:Ending)(w:World)(s:Ret w0 h0 R x w):Ret w0 h0 R' x w:=by
  obtain⟨v,h,e,r,S⟩:=s
  exact⟨v,h,e,k h v r,S⟩
theorem yAG{h:Mem}:rpB.Is h (.bool true) True:=(xL trivial)▸is_b True
theorem Rp.castR{ρ:Rp α}{cs:List Value}{x y:α}(r:ρ.R h cs x)(e:x=y):ρ.R h cs y:=e▸r
theorem Rp.R.mono{ρ:Rp α}{h':Mem}{cs:List Value}{x:α}(r:ρ.R h cs x)(hh:MLe h h'):ρ.R h' cs x:=Rp.mono ρ hh r
theorem jO{t:Nat}{T E:TypeId}{b:Nat}{cs:List Value}{ρ:Rp α}{X:α}(tok:TyOk P T ρ.n ρ.agg)(hm:.var b E cs∈L)(hx:zI e (.tmp t)=some (vP b 0))(r:ρ.R h cs X):∃v,RV P n w0 h0 (.cell t T) e L h v∧ρ.Is h v X:=by
  refine⟨ρ.val cs,?_,cs,r,rfl⟩
  intro a w Ev S
  have hw:w.heap[b]?=some (.cells cs.toArray E):=S.ok _ hm
  have:=Ev.eval hx
  simp only[Act.eval] at this
  have h2:=q7 (P:=P) tok r (oZ hw 0 cs (by simp))
  simp only[Instr.loadAt,Instr.sureAddr,Sem.run_bind,Sem.run_pure,Result.andThen_ok] at h2
  simp[zB5,this,asAddr,h2]
theorem wH{r:ResultVar}{F:Value→Prop}{x:Exit}(s:∃v,RV P n w0 h0 r e L h v∧F v)(k:∀v,RV P n w0 h0 r e L h v→F v→GQ n w0 h0 Q x e L h):GQ n w0 h0 Q x e L h:=by
  obtain⟨v,a,b⟩:=s
  exact k v a b
theorem zQI{o:Oper}{v:Value}{F:Value→Prop}(hv:∀L' h',OpV P n w0 h0 o e L' h' v)(hF:F v):OpX P n w0 h0 o e [] h F:=⟨v,fun L' h' _ _=>hv L' h',hF⟩
end
end Bk
namespace Bk
set_option linter.unusedVariables false
set_option linter.unusedSimpArgs false
open Go Go.RowKit
open Classical
section
variable {P:Program}{n:Nat}{w0:World}{h0:Mem}{e:List (Nat×Value)}{L:List Res}{h:Mem}{Q:Exit→Act→World→Prop}
variable {ds:Option Tmp}{ty:TypeId}{ps:String}{af:Array Edge}{gd:Option (Nat×Bool)}
theorem gR{G:Prop}(p:Prop)(kt:p→G)(kf:¬p→G):G:=Classical.byCases kt kf
abbrev vF(f:Nat)(cap:List Value):Value:=.func (.func f) #[] cap.toArray
def zSX(P:Program)(n:Nat)(o:Oper)(e:List (Nat×Value))(f:Nat)(args:Array Value):Prop:=∀a w,Env n e a→(execOp a.eval o).run P w=.ok (.enter f args) w
theorem rB{x:Operand}{f:Nat}{cap:List Value}{xs:List Operand}{ts:Array TypeId}{vs:List Value}(hcall:∀args w,(callFunc f args).run P w=.ok (.enter f args) w)(hx:zI e x=some (vF f cap))(hvs:cF e xs vs):
    zSX P n ⟨ds,.call {callee:=.value x,args:=xs.toArray,argTypes:=ts},ty,ps,af,gd⟩ e f (vs++cap).toArray:=by
  intro a w Ev
  have hargs:xs.toArray.map a.eval=vs.toArray:=by rw[List.map_toArray,Ev.evals hvs]
  simp only[execOp,resolve,Ev.eval hx]
  simp[Deferred.ofValue,invoke,hcall,hargs]
theorem zW6{W':List (Nat×Value)→List Res→Mem→Prop}{ops:Array Oper}{R:List Res}{op:Op}{g t d:Nat}{b:Bool}(ht:(ops[g]?).bind (·.dst)=some t)(he:e.lookup t=some undef)(hn:Nat.ble (d+1) n=true)(k:W' ((d,undef)::e) L h):
    qS P n w0 h0 ops R ⟨some d,op,ty,ps,af,some (g,b)⟩ e L h W':=by
  intro X a w E S
  have hw:Region.wanted ⟨some d,op,ty,ps,af,some (g,b)⟩ (yielded ops a.tmps)=false:=by
    have:=E.get t _ he
    simp[Region.wanted,yielded,ht,this,undef]
  unfold qA
  rw[if_neg (by simp[hw])]
  exact⟨fun d' hd=>(by cases hd;exact Nat.le_of_ble_eq_true hn),L,h,MLe.refl h,fun hh=>hh,S,k⟩
theorem zOL{R A B:List Res}{q:Res}(hR:∀r∈R,r∈A++B):∀r∈R,r∈A++q::B→r∈A++B:=fun r hr _=>hR r hr
section
variable {ops:Array Oper}{R:List Res}{d:Nat}{op:Op}
theorem cI{W':List (Nat×Value)→List Res→Mem→Prop}{f:Nat}{args:Array Value}{R':Mem→Value→Prop}(he:zSX P n ⟨some d,op,ty,ps,af,none⟩ e f args)(hn:Nat.ble (d+1) n=true)
    (hc:∀w,MLe h (mem w)→Calls P f args w (Ret w h R'))(k:∀v h',MLe h h'→R' h' v→W' ((d,v)::e) L h'):qS P n w0 h0 ops R ⟨some d,op,ty,ps,af,none⟩ e L h W':=by
  intro X a w E S
  unfold qA
  rw[if_pos (wn rfl),he a w E]
  refine(hc w S.sub).mono ?_
  rintro e' w' ⟨v,h',rfl,hR,S'⟩
  have S2:St w0 h0 (L++X) h' w':=S.call S'
  exact⟨v,rfl,fun d' hd=>(by cases hd;exact Nat.le_of_ble_eq_true hn),L,h',S'.le,fun hh=>hh,S2,k v h' S'.le hR⟩
end
end
end Bk
namespace Bk
set_option linter.unusedVariables false
set_option linter.unusedSimpArgs false
open Go Go.RowKit
open Classical
section
variable {α β γ:Type}
variable {P:Program}{n:Nat}{w0:World}{h0:Mem}{e:List (Nat×Value)}{L:List Res}{h:Mem}{Q:Exit→Act→World→Prop}
variable {ds:Option Tmp}{ty:TypeId}{ps:String}{af:Array Edge}{gd:Option (Nat×Bool)}
theorem St.nilown{w:World}(s:St w0 h0 L h w)(E k:Nat):St w0 h0 (.gs E k (.slice none 0 0) 0 []::L) h w:=by
  refine⟨s.below,s.le,s.sub,s.fresh,?_,?_,?_⟩
  · intro r hr
    rcases List.mem_cons.1 hr with rfl|hr
    · exact World.ownsRow_nil w _ E k
    · exact s.ok r hr
  · intro r hr b hb
    rcases List.mem_cons.1 hr with rfl|hr
    · simp[Res.fp,Value.ownBlock] at hb
    · exact s.own r hr b hb
  · refine List.pairwise_cons.2 ⟨fun r hr b hb=>?_,s.apart⟩
    simp[Res.fp,Value.ownBlock] at hb
theorem xO{c:Code}(E k:Nat)(g:GC P n w0 h0 c Q e (.gs E k (.slice none 0 0) 0 []::L) h):GC P n w0 h0 c Q e L h:=fun a w Ev S=>g a w Ev (S.nilown E k)
theorem zEW{ops:Array Oper}{l:List Oper}(E k:Nat)(g:GL P n w0 h0 ops Q l e (.gs E k (.slice none 0 0) 0 []::L) h):GL P n w0 h0 ops Q l e L h:=fun a w Ev S=>g a w Ev (S.nilown E k)
theorem cV{x:Exit}(E k:Nat)(g:GQ n w0 h0 Q x e (.gs E k (.slice none 0 0) 0 []::L) h):GQ n w0 h0 Q x e L h:=fun a w Ev S=>g a w Ev (S.nilown E k)
theorem zPP{ops:Array Oper}{R:List Res}{o:Oper}{W':List (Nat×Value)→List Res→Mem→Prop}(E k:Nat)(g:qS P n w0 h0 ops R o e (.gs E k (.slice none 0 0) 0 []::L) h W'):qS P n w0 h0 ops R o e L h W':=by
  intro X a w Ev S
  refine(g X a w Ev (S.nilown E k)).mono ?_
  rintro v' w' ⟨hd,L',g,hg,hk,S3,hW⟩
  exact⟨hd,L',g,hg,fun hh q hq=>hk (fun y hy=>List.mem_cons_of_mem _ (hh y hy)) q hq,S3,hW⟩
theorem zN8(a:List Value)(m:Nat):(madeCells a.toArray (m*a.length)).toList=(List.replicate m a).flatten:=by
  unfold madeCells
  rw[Array.toList_map,Array.toList_range]
  induction m with
  |zero=>simp
  |succ m ih=>
   rw[Nat.succ_mul,Nat.add_comm,List.range_add,List.map_append,List.map_map,List.replicate_succ,List.flatten_cons,←ih]
   congr 1
   · apply List.ext_getElem?
     intro j
     by_cases hj:j<a.length
     · simp[hj,Nat.mod_eq_of_lt hj]
     · simp[hj]
   · apply List.map_congr_left
     intro j _
     simp
theorem zLP{ρ:Rp α}{a:List Value}{x:α}(m:Nat)(r:ρ.R h a x):RL ρ h (madeCells a.toArray (m*ρ.n)).toList (List.replicate m x):=by
  rw[←ρ.len r,zN8]
  exact(zV9 (h:=h) m r).2
theorem zEM{t E:TypeId}{i:TypeInfo}{z:Value}{zs:List Value}{x y:Operand}{q q':Int}{by':Nat}{ρ:Rp α}{X:α}(m:Nat)(ht:P.underlying t=some (.slice E))(hi:P.info? E=some i)(hz:i.zero=some z)(hzc:z.cells=zs.toArray)(hsize:i.size=ρ.n)(hby:i.bytes=by')(rz:ρ.R h zs X)
    (hx:zI e x=some (vI q))(hy:zI e y=some (vI q'))(hq:q=(m:Int))(hq':q'=(m:Int))(hb:by'*m≤281474976710656)(hm:m<9223372036854775808):
    aM P n w0 h0 ⟨ds,.makeSlice t x y,ty,ps,af,gd⟩ e L h (fun v r=>∃cs,r=.gs E ρ.n v (List.replicate m X).length cs∧RL ρ h cs (List.replicate m X)):=by
  subst hq;subst hq';subst hby
  intro a w Ev S
  obtain⟨w',hr,hown,hgr⟩:=run_make_full (P:=P) w w0.heap.size t E i z ρ.n ht hi hz hsize .i64 .i64 m hb (by unfold maxLen;omega) S.below.size
  rw[hzc] at hown
  refine⟨_,w',.gs E ρ.n (.slice (some ⟨w.heap.size,0,none⟩) m m) m (madeCells zs.toArray (m*ρ.n)).toList,?_,hgr,hown,fun b hb=>?_,_,by rw[lR],zLP m rz⟩
  · simp only[execOp,Ev.eval hx,Ev.eval hy,vI]
    simp[hr]
  · simp only[Res.fp,Value.ownBlock,Option.some.injEq] at hb
    omega
theorem zU{t E:TypeId}{i:TypeInfo}{z:Value}{zs:List Value}{parts:List (Nat×Operand)}{ps':List (Nat×Value)}{m:Nat}{ρ:Rp α}{X:α}{xs:List α}(ht:P.underlying t=some (.slice E))(hi:P.info? E=some i)(hz:i.zero=some z)(hzc:z.cells=zs.toArray)(hsize:i.size=ρ.n)(rz:ρ.R h zs X)
    (hp:mN e parts ps')(hf:zE8 (rpA m ρ) h (fun i=>some (i*ρ.n,ρ.n)) (List.replicate m X) ps' xs)(hm:m*ρ.n≤16777216)(hn:0<ρ.n):
    aM P n w0 h0 ⟨ds,.buildSlice t m parts.toArray,ty,ps,af,gd⟩ e L h (fun v r=>∃cs,r=.gs E ρ.n v xs.length cs∧RL ρ h cs xs):=by
  obtain⟨cs,⟨hlen,hrl⟩,hfill⟩:=hf (madeCells zs.toArray (m*ρ.n)).toList ⟨List.length_replicate,zLP m rz⟩
  have hcl:=hrl.len
  rw[hlen] at hcl
  intro a w Ev S
  have hpa:(parts.toArray.map fun(p:Nat×Operand)=>(p.1,a.eval p.2)).toList=ps':=by
    rw[List.map_toArray]
    exact hp.eval Ev
  refine⟨.slice (some ⟨w.heap.size,0,none⟩) m m,w.alloc (.cells cs.toArray E),.gs E ρ.n (.slice (some ⟨w.heap.size,0,none⟩) m m) m cs,?_,World.grownBy_alloc w _ none,?_,fun b hb=>?_,cs,by rw[hlen],hrl⟩
  · have h24:¬(m*ρ.n>16777216):=by omega
    simp only[execOp,Instr.buildSlice]
    rw[show(parts.toArray.map fun(i,x)=>(i,a.eval x)).toList=ps' from hpa]
    have hz':(zeroValue E).run P w=.ok z w:=by simp[zeroValue,typeInfo,hi,hz]
    have hfill':Instr.fill (fun i=>some (i*ρ.n,ρ.n)) (madeCells zs.toArray (m*ρ.n)) ps'=some cs.toArray:=by
      simpa using hfill
    have hszE:∀w,(Go.sizeOf E).run P w=.ok ρ.n w:=fun w=>by simp[Go.sizeOf,typeInfo,hi,hsize]
    by_cases h0:m*ρ.n=0
    · rw[h0] at hfill'
      simp only[madeCells,Array.range_zero',Array.map_empty] at hfill'
      simp[run_underlying ht,hszE,newRow,newObj,Sem.run,h0,Array.range_zero',hfill']
    · unfold madeCells at hfill'
      simp only[List.size_toArray,List.getElem!_toArray,List.getElem!_eq_getElem?_getD] at hfill'
      simp[run_underlying ht,hszE,h0,h24,hz',hzc,hfill',newRow,newObj,Sem.run]
  · have:=World.ownsRow_lit (w:=w) (base:=w0.heap.size) (e:=E) (size:=ρ.n) cs.toArray m S.below.size (by unfold maxLen;have:=Nat.le_mul_of_pos_right m hn;omega) (by simpa using hcl)
    exact this
  · simp only[Res.fp,Value.ownBlock,Option.some.injEq] at hb
    omega
theorem yD{A B:List Res}{t E:TypeId}{i:TypeInfo}{z:Value}{bytes:Nat}{v v':Value}{cs:List Value}{x y:Operand}{ρ:Rp α}{xs ys:List α}(ht:P.underlying t=some (.slice E))(hi:P.info? E=some i)(hz:i.zero=some z)(hsize:i.size=ρ.n)(hby:i.bytes=bytes)
    (hzs:z.cells.size=ρ.n)(hk:0<ρ.n)(hx:zI e x=some v)(hy:zI e y=some v')(r:RL ρ h cs xs)(hv':(rpS ρ).Is h v' ys)(hlen:xs.length+ys.length<9223372036854775808)(hb':(xs.length+ys.length)*bytes≤140737488355328):
    zA0 P n w0 h0 ⟨ds,.call {callee:=.builtin .append,args:=#[x,y],argTypes:=#[t,t]},ty,ps,af,gd⟩ e A (.gs E ρ.n v xs.length cs) B h (fun u r'=>∃cs',r'=.gs E ρ.n u (xs++ys).length cs'∧RL ρ h cs' (xs++ys)):=by
  obtain⟨cs2,hs,r2⟩:=zNR hv'
  intro a w Ev S
  obtain⟨u,w',r',h1,h2,h3,h4,h5⟩:=zB6 (A:=A) (B:=B) (v:=v) (cs:=cs) (m:=xs.length) (ds:=ds) (ty:=ty) (ps:=ps) (af:=af) (gd:=gd) ht hi hz hsize hby hzs hk hx hy hs (fun u hu=>List.all_eq_true.1 r2.one u hu) hlen hb' a w Ev S
  exact⟨u,w',r',h1,h2,h3,h4,cs++cs2,by rw[h5,lAz],r.append r2⟩
theorem zFT{E k m:Nat}{v:Value}{cs:List Value}{w:World}(hm:.gs E k v m cs∈L)(S:St w0 h0 L h w):Sl (mem w) k v m cs:=by
  obtain⟨A,B,rfl⟩:=List.append_of_mem hm
  exact y7 S
theorem zXL(k:Nat)(v:Value)(i:Nat):zK k v i=zK 1 v (i*k):=by
  unfold zK
  rw[Nat.mul_one]
theorem kX{E k m:Nat}{v:Value}{cs:List Value}{t E':TypeId}{x:Operand}(hm:.gs E k v m cs∈L)(ht:P.underlying t=some (.slice E'))(hx:zI e x=some v):
    OpV P n w0 h0 ⟨ds,.call {callee:=.builtin .len,args:=#[x],argTypes:=#[t]},ty,ps,af,gd⟩ e L h (vI (m:Int)):=
  fun a w Ev S=>eH (L:=L) (h:=h) ht hx (zFT hm S).one a w Ev S
theorem yY{E m k:Nat}{cs:List Value}{v:Value}{t E':TypeId}{x y:Operand}{q:Int}(i:Nat)(hm:.gs E k v m cs∈L)(ht:P.underlying t=some (.slice E'))(hsz:∀w,(Go.sizeOf E').run P w=.ok k w)(hx:zI e x=some v)(hy:zI e y=some (vI q))
    (hq:q=(i:Int))(hi:i<m)(hk:0<k):OpV P n w0 h0 ⟨ds,.indexAddr t x y,ty,ps,af,gd⟩ e L h (zK 1 v (i*k)):=by
  intro a w Ev S
  have S':St w (mem w) [] (mem w) w:=St.begin (MLe.refl _)
  rw[←zXL]
  exact y9 (n:=n) (w0:=w) (h0:=mem w) (L:=[]) (h:=mem w) i ht hsz hx hy (zFT hm S) hq hi hk a w Ev S'
theorem zGV{k m o l:Nat}{v:Value}{cs:List Value}{w:World}(s:Sl (mem w) k v m cs)(hl:0<l)(ho:o+l≤cs.length):∃b o',zK 1 v o=vP b (o'+o)∧v=.slice (some ⟨b,o',none⟩) m (match v with| .slice _ _ c=>c|_=>0)∧w.rangeAt b (o'+o) ((cs.drop o).take l):=by
  obtain⟨a,cap,rfl,h1,h2,h3,h4⟩:=s
  obtain⟨b,o',rfl,_⟩:=h4 o (by omega)
  refine⟨b,o',by simp[zK,qW],rfl,?_⟩
  intro j u hj
  rw[List.getElem?_take] at hj
  split at hj
  · rw[List.getElem?_drop] at hj
    obtain⟨hlt,_⟩:=List.getElem?_eq_some_iff.1 hj
    obtain⟨b2,o2,e2,hc⟩:=h4 _ hlt
    simp only[Option.some.injEq,Addr.mk.injEq,and_true] at e2
    obtain⟨rfl,rfl⟩:=e2
    rw[hj] at hc
    have:=bT (MLe.refl _) hc
    rwa [←Nat.add_assoc] at this
  · cases hj
theorem wU{t E:TypeId}{x:Operand}{k off:Nat}{cs:List Value}{v:Value}{ρ:Rp α}{σ:Rp β}{g:List α→β}{s:List α→β→List α}{xs:List α}{Z:β}(T:TyOk P t σ.n σ.agg)(pc:Pc (rpA xs.length ρ) off σ g s)(ho:k=off)(hp:0<σ.n)(hx:zI e x=some (zK 1 v k))(r:RL ρ h cs xs)(hZ:g xs=Z):
    OpX P n w0 h0 ⟨ds,.load t x,ty,ps,af,gd⟩ e [.gs E ρ.n v xs.length cs] h (fun u=>σ.Is h u Z):=by
  subst hZ;subst ho
  have h1:=pc.get (h:=h) ⟨rfl,r⟩
  have hf:k+σ.n≤xs.length*ρ.n:=pc.fits
  have hl:=r.len
  refine⟨_,fun L' h' _ hm a w Ev S=>?_,_,h1,rfl⟩
  obtain⟨b,o',e1,_,hr⟩:=zGV (zFT (hm (.gs E ρ.n v xs.length cs) (.head _)) S) hp (show k+σ.n≤cs.length by omega)
  rw[e1] at hx
  have:=q7 (P:=P) (w:=w) T h1 hr
  simp[execOp,Ev.eval hx,this]
theorem aS{base E k g cap m:Nat}:∀(vs:List Value) (off:Nat) (cs:List Value) (w:World),w.ownsRow base E k (.slice (some ⟨g,0,none⟩) m cap) m cs→
    (w.setCells g off vs).ownsRow base E k (.slice (some ⟨g,0,none⟩) m cap) m (iE cs off vs)∧w.grownBy (w.setCells g off vs) (some g)
  |[],off,cs,w,hw=>⟨hw,⟨rfl,rfl,rfl,Nat.le_refl _,fun _ _ _=>rfl⟩⟩
  |v::r,off,cs,w,hw=>by
   obtain⟨h1,h2⟩:=hw.stored off v
   obtain⟨h3,h4⟩:=aS r (off+1) (cs.set off v) _ h1
   have e1:iE cs off (v::r)=iE (cs.set off v) (off+1) r:=by
     unfold iE
     rw[List.zipIdx_cons,List.foldl_cons,Nat.add_zero,List.zipIdx_succ,List.foldl_map]
     congr 1
     funext c p
     rw[show off+(p.2+1)=off+1+p.2 by omega]
   refine⟨by rw[World.setCells,e1];exact h3,?_⟩
   refine⟨h4.os.trans h2.os,h4.tape.trans h2.tape,h4.output.trans h2.output,Nat.le_trans h2.size h4.size,?_⟩
   intro b' hb' hne
   have h5:=h2.block b' hb' hne
   have h6:=h4.block b' (Nat.lt_of_lt_of_le hb' h2.size) hne
   rw[World.setCells,h6,h5]
theorem rI{E t:TypeId}{k off:Nat}{cs:List Value}{u v:Value}{x y:Operand}{ρ:Rp α}{σ:Rp β}{g:List α→β}{s:List α→β→List α}{xs Z:List α}{Y:β}(hsz:∀w,(Go.sizeOf t).run P w=.ok σ.n w)(pc:Pc (rpA xs.length ρ) off σ g s)(ho:k=off)(hp:0<σ.n)(hx:zI e x=some (zK 1 v k))(hy:zI e y=some u)(r:RL ρ h cs xs)(ry:σ.Is h u Y)(hZ:s xs Y=Z):
    ∃cs',RL ρ h cs' Z∧∀A B,Upd P n w0 h0 ⟨ds,.store t x y,ty,ps,af,gd⟩ e A (.gs E ρ.n v xs.length cs) B h (.gs E ρ.n v Z.length cs'):=by
  subst hZ;subst ho
  obtain⟨vs,rv,hv⟩:=ry.cells
  have hl:=σ.len rv
  have hlc:=r.len
  have hf:k+σ.n≤xs.length*ρ.n:=pc.fits
  obtain⟨hZl,hZr⟩:=pc.set (h:=h) ⟨rfl,r⟩ rv
  refine⟨iE cs k vs,?_,?_⟩
  · rw[zCA _ _ _ (by omega),hl]
    exact hZr
  · intro A B a w Ev S
    rw[hZl]
    have hok:w.ownsRow w0.heap.size E ρ.n v xs.length cs:=S.ok (.gs E ρ.n v xs.length cs) (by simp)
    have hok':=hok
    obtain⟨_,hr⟩:=hok
    rcases hr with⟨rfl,hm0⟩|⟨b,cap,cur,rfl,hbg,hg,hnc,hcm,hcs,htake⟩
    · rw[hm0] at hf;omega
    · have hpx:zK 1 (.slice (some ⟨b,0,none⟩) xs.length cap) k=vP b k:=by simp[zK,qW]
      rw[hpx] at hx
      obtain⟨h1,h2⟩:=aS vs k cs w hok'
      refine⟨w.setCells b k vs,?_,h2,h1⟩
      have hrun:=run_storeCells_cells (P:=P) b k vs 0 w (fun j hj=>by
          have h4:=hok'.cellAt (k+j) (by omega)
          rw[List.getElem?_eq_getElem (by omega)] at h4
          simp[h4]) (fun j hj=>by simpa using hok'.frozenAt (k+j)) (fun u hu=>List.all_eq_true.1 (σ.one rv) u hu)
      simp only[Nat.add_zero] at hrun
      simp[execOp,Ev.eval hx,Ev.eval hy,Instr.storeAt,Instr.sureAddr,storeVar,hsz,hv,hl,hrun]
section
variable {A B:List Res}{op:Op}{E k m:Nat}{v:Value}{cs:List Value}{F:Nat→List Value→Prop}
theorem gC{ops:Array Oper}{rest:List Oper}{m':Nat}{F:List Value→Prop}(hv:∃cs',F cs'∧∀A B,Upd P n w0 h0 ⟨none,op,ty,ps,af,none⟩ e A (.gs E k v m cs) B h (.gs E k v m' cs'))
    (kk:∀cs',F cs'→GL P n w0 h0 ops Q rest e (A++.gs E k v m' cs'::B) h):GL P n w0 h0 ops Q (⟨none,op,ty,ps,af,none⟩::rest) e (A++.gs E k v m cs::B) h:=by
  obtain⟨cs',hF,hu⟩:=hv
  exact xG (hu A B) rfl rfl rfl (kk cs' hF)
end
theorem St.freezex{A B:List Res}{E:Nat}{v:Value}{cs:List Value}{ρ:Rp α}{xs:List α}{w:World}(r:RL ρ h cs xs)(S:St w0 h0 (A++.gs E ρ.n v xs.length cs::B) h w):∃h',MLe h h'∧(rpS ρ).Is h' v xs∧St w0 h0 (A++B) h' w:=by
  have hok:=S.ok (.gs E ρ.n v xs.length cs) (by simp)
  have hok':=hok
  obtain⟨hl,hr⟩:=hok
  rcases hr with⟨rfl,hm0⟩|⟨g,cap,cur,rfl,hb,hg,hn,hm,hcs,ht⟩
  · have hx0:xs=[]:=List.eq_nil_of_length_eq_zero hm0
    subst hx0
    exact⟨h,MLe.refl h,mA h,S.drop⟩
  · obtain⟨S',hle⟩:=S.freeze (b:=g) (o:=.cells cur E (0,0)) rfl hg
    refine⟨_,hle,zUR ⟨_,cap,rfl,hn,hm,hl,fun i hi=>⟨g,0,rfl,?_⟩⟩ (r.mono hle),S'⟩
    unfold cell
    simp only[if_true,Nat.zero_add]
    rw[←ht,List.getElem?_take,if_pos (by omega)]
    simp
section
variable {A B:List Res}{E:Nat}{v:Value}{cs:List Value}{ρ:Rp α}{xs:List α}
theorem yH{ops:Array Oper}{l:List Oper}(r:RL ρ h cs xs)(k:∀h',MLe h h'→(rpS ρ).Is h' v xs→GL P n w0 h0 ops Q l e (A++B) h'):GL P n w0 h0 ops Q l e (A++.gs E ρ.n v xs.length cs::B) h:=by
  intro a w Ev S
  obtain⟨h',hle,hs,S'⟩:=S.freezex r
  exact k h' hle hs a w Ev S'
theorem zK5{c:Code}(r:RL ρ h cs xs)(k:∀h',MLe h h'→(rpS ρ).Is h' v xs→GC P n w0 h0 c Q e (A++B) h'):GC P n w0 h0 c Q e (A++.gs E ρ.n v xs.length cs::B) h:=by
  intro a w Ev S
  obtain⟨h',hle,hs,S'⟩:=S.freezex r
  exact k h' hle hs a w Ev S'
theorem wV{x:Exit}(r:RL ρ h cs xs)(k:∀h',MLe h h'→(rpS ρ).Is h' v xs→GQ n w0 h0 Q x e (A++B) h'):GQ n w0 h0 Q x e (A++.gs E ρ.n v xs.length cs::B) h:=by
  intro a w Ev S
  obtain⟨h',hle,hs,S'⟩:=S.freezex r
  exact k h' hle hs a w Ev S'
theorem vD{o:Oper}{ops:Array Oper}{R:List Res}{W':List (Nat×Value)→List Res→Mem→Prop}(r:RL ρ h cs xs)(hR:∀q∈R,q∈A++.gs E ρ.n v xs.length cs::B→q∈A++B)
    (k:∀h',MLe h h'→(rpS ρ).Is h' v xs→qS P n w0 h0 ops R o e (A++B) h' W'):qS P n w0 h0 ops R o e (A++.gs E ρ.n v xs.length cs::B) h W':=by
  intro X a w Ev S
  have S1:St w0 h0 (A++.gs E ρ.n v xs.length cs::(B++X)) h w:=by simpa using S
  obtain⟨h',hle,hs,S'⟩:=S1.freezex r
  have S2:St w0 h0 ((A++B)++X) h' w:=by simpa using S'
  refine(k h' hle hs X a w Ev S2).mono ?_
  rintro v' w' ⟨hd,L',g,hg,hk,S3,hW⟩
  exact⟨hd,L',g,hle.trans hg,fun hh q hq=>hk (fun y hy=>hR y hy (hh y hy)) q hq,S3,hW⟩
end
end
end Bk
namespace Bk
set_option linter.unusedVariables false
set_option linter.unusedSimpArgs false
open Go Go.RowKit
def zE7(o:Oper):Nat:=o.after.toList.foldl (fun a e=>if Region.binds .any e then a |||(1 <<< e.on) else a) 0
theorem mY(k j:Nat):(1 <<< k).testBit j=decide (j=k):=by
  rw[Nat.one_shiftLeft,Nat.testBit_two_pow]
  exact Bool.eq_iff_iff.2 (by simp[eq_comm])
theorem mL(o:Oper)(k:Nat):(zE7 o).testBit k=true↔∃e∈o.after,Region.binds .any e=true∧e.on=k:=by
  have key:∀(l:List Edge) (a:Nat),(l.foldl (fun a e=>if Region.binds .any e then a |||(1 <<< e.on) else a) a).testBit k=true↔a.testBit k=true∨∃e∈l,Region.binds .any e=true∧e.on=k:=by
    intro l
    induction l with
    |nil=>intro a;simp
    |cons e l ih=>
     intro a
     rw[List.foldl_cons,ih]
     by_cases hb:Region.binds .any e=true
     · rw[if_pos hb,Nat.testBit_or,mY]
       simp only[Bool.or_eq_true,decide_eq_true_eq,List.mem_cons,exists_eq_or_imp,hb,true_and,or_assoc]
       constructor
       · rintro(h|h|h)
         · exact .inl h
         · exact .inr (.inl h.symm)
         · exact .inr (.inr h)
       · rintro(h|h|h)
         · exact .inl h
         · exact .inr (.inl h.symm)
         · exact .inr (.inr h)
     · rw[if_neg hb]
       simp only[List.mem_cons,exists_eq_or_imp,hb,false_and,false_or]
       simp
  unfold zE7
  rw[key]
  simp
def zRS(ops:Array Oper)(ams:List Nat)(i:Nat):Nat:=(List.range ops.size).foldl (fun a j=>if j==i||(ams.getD j 0).testBit i||(ops.getD i default).apart ops (ops.getD j default) then a |||(1 <<< j) else a) 0
theorem zK7(ops:Array Oper)(ams:List Nat)(i k:Nat):(zRS ops ams i).testBit k=true→k<ops.size∧(k=i∨(ams.getD k 0).testBit i=true∨(ops.getD i default).apart ops (ops.getD k default)=true):=by
  have key:∀(l:List Nat) (a:Nat),(l.foldl (fun a j=>if j==i||(ams.getD j 0).testBit i||(ops.getD i default).apart ops (ops.getD j default) then a |||(1 <<< j) else a) a).testBit k=true→a.testBit k=true∨(k∈l∧(k=i∨(ams.getD k 0).testBit i=true∨(ops.getD i default).apart ops (ops.getD k default)=true)):=by
    intro l
    induction l with
    |nil=>intro a h;exact .inl h
    |cons j l ih=>
     intro a h
     rw[List.foldl_cons] at h
     rcases ih _ h with h1|⟨h1,h2⟩
     · split at h1
       · rename_i hc
         rw[Nat.testBit_or,mY] at h1
         simp only[Bool.or_eq_true,decide_eq_true_eq] at h1
         rcases h1 with h1|h1
         · exact .inl h1
         · subst h1
           simp only[Bool.or_eq_true,beq_iff_eq,or_assoc] at hc
           exact .inr ⟨.head _,hc⟩
       · exact .inl h1
     · exact .inr ⟨.tail _ h1,h2⟩
  intro h
  rcases key _ _ h with h1|⟨h1,h2⟩
  · simp at h1
  · exact⟨List.mem_range.1 h1,h2⟩
def eG(ams:List Nat)(x i:Nat):Bool:=!x.testBit i&&(ams.getD i 0&&&x==ams.getD i 0)
def tV(ams:List Nat)(n x:Nat):List Nat:=(List.range n).filter (eG ams x)
def bU(x:Nat)(l:List Nat):Nat:=l.foldl (fun x i=>x |||(1 <<< i)) x
def mJ(ops:Array Oper)(n m:Nat)(ams frs:List Nat):List (Nat×Kd)→Nat→List Nat→Bool
  |[],x,pend=>pend.isEmpty&&(tV ams n x).isEmpty
  |(i,.q)::r,x,pend=>decide (i<m)&&decide (i<n)&&eG ams x i&&((frs.getD i 0 |||x)&&&(1 <<< n-1)==1 <<< n-1)&&!pend.contains i&&
     ((List.range n).all fun k=>decide (k<m)||(ams.getD k 0).testBit i||zAM ops k i)&&mJ ops n m ams frs r (x |||(1 <<< i)) pend
  |(i,.a)::r,x,pend=>pend.contains i&&(tV ams n (bU x (pend.filter (· != i)))==[i])&&mJ ops n m ams frs r (x |||(1 <<< i)) (pend.filter (· != i))
  |(i,.c)::r,x,pend=>decide (i<m)&&!pend.contains i&&(tV ams n (bU x pend)==[i])&&mJ ops n m ams frs r (x |||(1 <<< i)) pend
  |(i,.b j)::r,x,pend=>decide (i<m)&&decide (j<m)&&!pend.contains i&&!pend.contains j&&decide (i≠j)&&(tV ams n (bU x pend)==[i,j])&&
     (tV ams n (bU (x |||(1 <<< i)) pend)==[j])&&(tV ams n (bU (x |||(1 <<< j)) pend)==[i])&&mJ ops n m ams frs r ((x |||(1 <<< i)) |||(1 <<< j)) pend
  |(i,.t)::r,x,pend=>pend.isEmpty&&(r.all fun y=>match y.2 with| .t=>true|_=>false)&&decide (m≤i)&&(tV ams n x==[i])&&mJ ops n m ams frs r (x |||(1 <<< i)) []
  |(i,.p)::r,x,pend=>decide (i<m)&&decide (i<n)&&eG ams x i&&((frs.getD i 0 |||x)&&&(1 <<< n-1)==1 <<< n-1)&&!pend.contains i&&mJ ops n m ams frs r (x |||(1 <<< i)) pend
  |(i,.d i2 j)::r,x,pend=>(decide (i<m)&&decide (i2<m)&&decide (j<m)&&!pend.contains i&&!pend.contains i2&&!pend.contains j)&&(decide (i≠i2)&&decide (i≠j)&&decide (i2≠j))&&
     (tV ams n (bU x pend)==[i,j])&&(tV ams n (bU (x |||(1 <<< i)) pend)==[i2,j])&&(tV ams n (bU (x |||(1 <<< j)) pend)==[i])&&
     (tV ams n (bU ((x |||(1 <<< i)) |||(1 <<< i2)) pend)==[j])&&(tV ams n (bU ((x |||(1 <<< i)) |||(1 <<< j)) pend)==[i2])&&
     mJ ops n m ams frs r (((x |||(1 <<< i)) |||(1 <<< i2)) |||(1 <<< j)) pend
  |(_,.m _ _)::_,_,_=>false
  |(_,.x _ _ _)::_,_,_=>false
section
variable {ops:Array Oper}{ams frs:List Nat}
def eY(ops:Array Oper)(b:Array Bool)(x:Nat):Prop:=b.size=ops.size∧∀i,i<ops.size→b[i]?=some (x.testBit i)
theorem eY.getF{b:Array Bool}{x:Nat}(h:eY ops b x){i:Nat}(hi:i<ops.size)(d:Bool):b.getD i d=x.testBit i:=by
  rw[Array.getD_eq_getD_getElem?,h.2 i hi];rfl
theorem eY.set{b:Array Bool}{x:Nat}(h:eY ops b x)(i:Nat):eY ops (b.setIfInBounds i true) (x |||(1 <<< i)):=by
  refine⟨by simpa using h.1,fun k hk=>?_⟩
  rw[Nat.testBit_or,mY,Array.getElem?_setIfInBounds]
  by_cases e:i=k
  · subst e
    have:i<b.size:=by rw[h.1];exact hk
    simp[this]
  · rw[if_neg e,h.2 k hk]
    simp[Ne.symm e]
theorem eY.setAll{b:Array Bool}{x:Nat}(h:eY ops b x):∀(l:List Nat),eY ops (setAll b l) (bU x l):=by
  intro l
  induction l generalizing b x with
  |nil=>exact h
  |cons i l ih=>exact ih (h.set i)
theorem eY.start:eY ops (Array.replicate ops.size false) 0:=⟨by simp,fun i hi=>by simp[hi]⟩
def oW(ops:Array Oper)(ams frs:List Nat):Bool:=(ops.toList.map zE7==ams)&&((List.range ops.size).map (zRS ops ams)==frs)
theorem zJB(h:oW ops ams frs=true){i:Nat}(hi:i<ops.size):ams.getD i 0=zE7 (ops.getD i default):=by
  simp only[oW,Bool.and_eq_true,beq_iff_eq] at h
  rw[←h.1,List.getD_eq_getElem?_getD,List.getElem?_map,Array.getElem?_toList,Array.getD_eq_getD_getElem?]
  simp[hi]
theorem zWM(h:oW ops ams frs=true){i:Nat}(hi:i<ops.size):frs.getD i 0=zRS ops ams i:=by
  simp only[oW,Bool.and_eq_true,beq_iff_eq] at h
  rw[←h.2,List.getD_eq_getElem?_getD,List.getElem?_map]
  simp[hi]
theorem zVI(hl:∀o∈ops,∀e∈o.after,e.on<ops.size){i:Nat}(hi:i<ops.size){e:Edge}(he:e∈(ops.getD i default).after):e.on<ops.size:=by
  refine hl _ ?_ e he
  rw[Array.getD_eq_getD_getElem?,Array.getElem?_eq_getElem hi]
  exact Array.getElem_mem hi
theorem zJO(ht:oW ops ams frs=true)(hl:∀o∈ops,∀e∈o.after,e.on<ops.size){b:Array Bool}{x i:Nat}(hs:eY ops b x)(hi:i<ops.size):
    eG ams x i=(!b.getD i true&&((ops[i]?).map (·.after.all fun e=>!Region.binds .any e||b.getD e.on false)).getD false):=by
  unfold eG
  rw[hs.getF hi,zJB ht hi]
  congr 1
  have ho:ops[i]?=some (ops.getD i default):=lT hi
  rw[ho]
  simp only[Option.map_some,Option.getD_some]
  rw[Bool.eq_iff_iff,beq_iff_eq,Array.all_eq_true_iff_forall_mem]
  constructor
  · intro h e he
    by_cases hb:Region.binds .any e=true
    · have h1:=(mL (ops.getD i default) e.on).2 ⟨e,he,hb,rfl⟩
      rw[←h,Nat.testBit_and,Bool.and_eq_true] at h1
      rw[hs.getF (zVI hl hi he),h1.2]
      simp
    · simp[hb]
  · intro h
    apply Nat.eq_of_testBit_eq
    intro k
    rw[Nat.testBit_and]
    by_cases hk:(zE7 (ops.getD i default)).testBit k=true
    · obtain⟨e,he,hb,rfl⟩:=(mL _ _).1 hk
      have h1:=h e he
      rw[hb,hs.getF (zVI hl hi he)] at h1
      simp at h1
      rw[hk,h1];rfl
    · have:(zE7 (ops.getD i default)).testBit k=false:=by simpa using hk
      rw[this];rfl
theorem jP(ht:oW ops ams frs=true)(hl:∀o∈ops,∀e∈o.after,e.on<ops.size){b:Array Bool}{x:Nat}(hs:eY ops b x):Region.ready .any ops b=tV ams ops.size x:=by
  unfold Region.ready tV
  apply List.filter_congr
  intro i hi
  exact(zJO ht hl hs (List.mem_range.1 hi)).symm
theorem oE(ht:oW ops ams frs=true)(hl:∀o∈ops,∀e∈o.after,e.on<ops.size){b:Array Bool}{x i:Nat}(hs:eY ops b x)(hi:i<ops.size)(h:eG ams x i=true):(Region.ready .any ops b).contains i=true:=by
  rw[jP ht hl hs]
  unfold tV
  simp[hi,h]
theorem zN7{y n k:Nat}(h:y&&&(1 <<< n-1)=1 <<< n-1)(hk:k<n):y.testBit k=true:=by
  have h1:(1 <<< n-1).testBit k=true:=by rw[Nat.one_shiftLeft,Nat.testBit_two_pow_sub_one];simpa using hk
  rw[←h,Nat.testBit_and,Bool.and_eq_true] at h1
  exact h1.1
theorem zMI(ht:oW ops ams frs=true){b:Array Bool}{x i:Nat}(hs:eY ops b x)(hi:i<ops.size)(h:(frs.getD i 0 |||x)&&&(1 <<< ops.size-1)=1 <<< ops.size-1):Region.free .any ops b i=true:=by
  unfold Region.free
  rw[lT hi]
  simp only[List.all_eq_true,List.mem_range]
  intro j hj
  have h1:=zN7 h hj
  rw[Nat.testBit_or,Bool.or_eq_true,zWM ht hi] at h1
  rw[lT hj,hs.getF hj]
  simp only[Bool.or_eq_true,beq_iff_eq]
  rcases h1 with h1|h1
  · obtain⟨_,h2|h2|h2⟩:=zK7 _ _ _ _ h1
    · exact .inl (.inl h2)
    · rw[zJB ht hj] at h2
      obtain⟨e,he,hb,ho⟩:=(mL _ _).1 h2
      refine .inr (.inl ?_)
      rw[Array.any_eq_true']
      exact⟨e,he,by simp[hb,ho]⟩
    · exact .inr (.inr h2)
  · exact .inl (.inr h1)
theorem zO0(ht:oW ops ams frs=true){k i:Nat}(hk:k<ops.size)(h:(ams.getD k 0).testBit i=true):zAM ops k i=true:=by
  rw[zJB ht hk] at h
  obtain⟨e,he,hb,ho⟩:=(mL _ _).1 h
  unfold zAM
  rw[Array.any_eq_true']
  refine⟨e,he,?_⟩
  rw[hb,ho]
  simp[g5]
theorem aL(ht:oW ops ams frs=true)(hl:∀o∈ops,∀e∈o.after,e.on<ops.size){m:Nat}:∀(ord:List (Nat×Kd)) (b:Array Bool) (x:Nat) (pend:List Nat),eY ops b x→mJ ops ops.size m ams frs ord x pend=true→chk ops m ord b pend=true
  |[],b,x,pend,hs,h=>by
   simp only[mJ,Bool.and_eq_true] at h
   simp only[chk,Bool.and_eq_true,jP ht hl hs]
   exact h
  |(i,.q)::r,b,x,pend,hs,h=>by
   simp only[mJ,Bool.and_eq_true,beq_iff_eq,decide_eq_true_eq] at h
   obtain⟨⟨⟨⟨⟨⟨h1,h2⟩,h3⟩,h4⟩,h5⟩,h6⟩,h7⟩:=h
   simp only[chk,Bool.and_eq_true,decide_eq_true_eq]
   refine⟨⟨⟨⟨⟨h1,oE ht hl hs h2 h3⟩,zMI ht hs h2 h4⟩,h5⟩,?_⟩,aL ht hl r _ _ _ (hs.set i) h7⟩
   rw[List.all_eq_true] at h6 ⊢
   intro k hk
   have:=h6 k hk
   simp only[Bool.or_eq_true] at this ⊢
   rcases this with(h8|h8)|h8
   · exact .inl h8
   · exact .inr (zO0 ht (List.mem_range.1 hk) h8)
   · exact .inr h8
  |(i,.a)::r,b,x,pend,hs,h=>by
   simp only[mJ,Bool.and_eq_true] at h
   obtain⟨⟨h1,h2⟩,h3⟩:=h
   simp only[chk,Bool.and_eq_true,jP ht hl (hs.setAll _)]
   exact⟨⟨h1,h2⟩,aL ht hl r _ _ _ (hs.set i) h3⟩
  |(i,.c)::r,b,x,pend,hs,h=>by
   simp only[mJ,Bool.and_eq_true] at h
   obtain⟨⟨⟨h1,h2⟩,h3⟩,h4⟩:=h
   simp only[chk,Bool.and_eq_true,jP ht hl (hs.setAll _)]
   exact⟨⟨⟨h1,h2⟩,h3⟩,aL ht hl r _ _ _ (hs.set i) h4⟩
  |(i,.b j)::r,b,x,pend,hs,h=>by
   simp only[mJ,Bool.and_eq_true] at h
   obtain⟨⟨⟨⟨⟨⟨⟨⟨h1,h2⟩,h3⟩,h4⟩,h5⟩,h6⟩,h7⟩,h8⟩,h9⟩:=h
   simp only[chk,Bool.and_eq_true,jP ht hl (hs.setAll _),jP ht hl ((hs.set i).setAll _),jP ht hl ((hs.set j).setAll _)]
   exact⟨⟨⟨⟨⟨⟨⟨⟨h1,h2⟩,h3⟩,h4⟩,h5⟩,h6⟩,h7⟩,h8⟩,aL ht hl r _ _ _ ((hs.set i).set j) h9⟩
  |(i,.t)::r,b,x,pend,hs,h=>by
   simp only[mJ,Bool.and_eq_true] at h
   obtain⟨⟨⟨⟨h1,h2⟩,h3⟩,h4⟩,h5⟩:=h
   simp only[chk,Bool.and_eq_true,jP ht hl hs]
   exact⟨⟨⟨⟨h1,h2⟩,h3⟩,h4⟩,aL ht hl r _ _ _ (hs.set i) h5⟩
  |(i,.p)::r,b,x,pend,hs,h=>by
   simp only[mJ,Bool.and_eq_true,beq_iff_eq,decide_eq_true_eq] at h
   obtain⟨⟨⟨⟨⟨h1,h2⟩,h3⟩,h4⟩,h5⟩,h7⟩:=h
   simp only[chk,Bool.and_eq_true,decide_eq_true_eq]
   exact⟨⟨⟨⟨h1,oE ht hl hs h2 h3⟩,zMI ht hs h2 h4⟩,h5⟩,aL ht hl r _ _ _ (hs.set i) h7⟩
  |(i,.d i2 j)::r,b,x,pend,hs,h=>by
   simp only[mJ,Bool.and_eq_true] at h
   obtain⟨⟨⟨⟨⟨⟨⟨h1,h2⟩,h3⟩,h4⟩,h5⟩,h6⟩,h7⟩,h8⟩:=h
   simp only[chk,Bool.and_eq_true,jP ht hl (hs.setAll _),jP ht hl ((hs.set i).setAll _),jP ht hl ((hs.set j).setAll _),jP ht hl (((hs.set i).set i2).setAll _),jP ht hl (((hs.set i).set j).setAll _)]
   exact⟨⟨⟨⟨⟨⟨⟨h1,h2⟩,h3⟩,h4⟩,h5⟩,h6⟩,h7⟩,aL ht hl r _ _ _ (((hs.set i).set i2).set j) h8⟩
  |(_,.m _ _)::_,_,_,_,_,h=>by simp[mJ] at h
  |(_,.x _ _ _)::_,_,_,_,_,h=>by simp[mJ] at h
def zSA(l:List Oper)(m:Nat)(ams frs:List Nat)(al:Als)(ord:List (Nat×Kd)):Bool:=
  Region.noSelect l.toArray&&rH l.toArray al&&(al.all fun x=>decide (x.1<m))&&(l.all fun o=>o.after.all fun e=>decide (e.on<l.length))&&oW l.toArray ams frs&&mJ l.toArray l.length m ams frs ord 0 (al.map (·.1))
theorem uA{l:List Oper}{m:Nat}{al:Als}{ord:List (Nat×Kd)}(ams frs:List Nat)(h:zSA l m ams frs al ord=true):
    (Region.noSelect l.toArray&&rH l.toArray al&&(al.all fun x=>decide (x.1<m))&&chk l.toArray m ord (Array.replicate l.length false) (al.map (·.1)))=true:=by
  simp only[zSA,Bool.and_eq_true] at h
  obtain⟨⟨⟨⟨⟨h1,h2⟩,h3⟩,h4⟩,h5⟩,h6⟩:=h
  simp only[Bool.and_eq_true]
  refine⟨⟨⟨h1,h2⟩,h3⟩,?_⟩
  have hl:∀o∈l.toArray,∀e∈o.after,e.on<l.toArray.size:=by
    intro o ho e he
    have:=List.all_eq_true.1 h4 o (by simpa using ho)
    have:=Array.all_eq_true_iff_forall_mem.1 this e he
    simpa using this
  exact aL h5 hl ord _ 0 _ eY.start h6
end
end Bk
namespace Go.Proofs.YtboaboflnckgoaaGreat
open Bk Go Tryz
theorem ty3:TyOk Tryz.prog 3 1 false:=⟨sizeOf3,isAgg3⟩
theorem ty4:TyOk Tryz.prog 4 1 false:=⟨sizeOf4,isAgg4⟩
theorem ty9:TyOk Tryz.prog 9 1 false:=⟨sizeOf9,isAgg9⟩
theorem zV:TyOk Tryz.prog 26 3 true:=⟨sizeOf26,isAgg26⟩
theorem fM:TyOk Tryz.prog 32 1 false:=⟨sizeOf32,isAgg32⟩
theorem zBU:TyOk Tryz.prog 34 6 true:=⟨sizeOf34,isAgg34⟩
theorem uW:TyOk Tryz.prog 46 1 false:=⟨sizeOf46,isAgg46⟩
theorem tG:TyOk Tryz.prog 47 1 false:=⟨sizeOf47,isAgg47⟩
theorem zZG:TyOk Tryz.prog 48 1 false:=⟨sizeOf48,isAgg48⟩
theorem gH:TyOk Tryz.prog 50 3 true:=⟨sizeOf50,isAgg50⟩
theorem zW:TyOk Tryz.prog 53 9 true:=⟨sizeOf53,isAgg53⟩
theorem zGQ:TyOk Tryz.prog 80 12 true:=⟨sizeOf80,isAgg80⟩
theorem cG:TyOk Tryz.prog 81 1 false:=⟨sizeOf81,isAgg81⟩
theorem tJ:TyOk Tryz.prog 83 14 true:=⟨sizeOf83,isAgg83⟩
theorem mO:TyOk Tryz.prog 108 27 true:=⟨sizeOf108,isAgg108⟩
theorem iB:TyOk Tryz.prog 193 5 true:=⟨sizeOf193,isAgg193⟩
theorem zZH:TyOk Tryz.prog 200 5 true:=⟨sizeOf200,isAgg200⟩
end Go.Proofs.YtboaboflnckgoaaGreat
namespace Bk
set_option linter.unusedVariables false
set_option linter.unusedSimpArgs false
open Go Go.RowKit
section
variable {P:Program}{n:Nat}{w0:World}{h0:Mem}{e:List (Nat×Value)}{h:Mem}{ds:Option Tmp}{ty:TypeId}{ps:String}{af:Array Edge}{gd:Option (Nat×Bool)}{α:Type}
theorem zJU{ρ:Rp α}{xs:List α}{v:Value}{t E:TypeId}{x lo:Operand}{p:Int}(i:Nat)(ht:P.underlying t=some (.slice E))(hsz:∀w,(Go.sizeOf E).run P w=.ok ρ.n w)(hx:zI e x=some v)(hl:zI e lo=some (vI p))(r:(rpS ρ).Is h v xs)
    (hp:p=(i:Int))(hi:i≤xs.length):OpX P n w0 h0 ⟨ds,.slice t x (some lo) none none,ty,ps,af,gd⟩ e [] h (fun u=>(rpS ρ).Is h u (xs.drop i)):=by
  obtain⟨cs,s,rl⟩:=zNR r
  refine zQI (fun L' h'=>qH i ht hsz hx hl s.shape hp hi) ?_
  have hs:=s.sub hi (Nat.le_refl _)
  have hlen:=rl.len
  rw[List.take_of_length_le (by rw[List.length_drop,hlen,←Nat.sub_mul];exact Nat.le_refl _)] at hs
  exact zUR (by rw[List.length_drop];exact hs) (rl.drop i)
end
end Bk
namespace Bk
set_option linter.unusedVariables false
set_option linter.unusedSimpArgs false
open Go Go.RowKit
def ByB(bs:List Nat):Prop:=∀x∈bs,x<256
theorem ByB.nil:ByB []:=fun x hx=>by cases hx
theorem ByB.app{a b:List Nat}(ha:ByB a)(hb:ByB b):ByB (a++b):=fun x hx=>(List.mem_append.1 hx).elim (ha x) (hb x)
theorem zMU(n:Nat):ByB (txt n):=zWI n
theorem zFH(a b:List Nat):qB a++qB b=qB (a++b):=by
  apply ByteArray.ext
  simp[qB]
theorem zD4{a b:List Nat}(ha:ByB a)(hb:ByB b):qB a=qB b↔a=b:=
  ⟨fun h=>by rw[←zE4 ha,←zE4 hb,h],fun h=>by rw[h]⟩
section
variable {P:Program}{n:Nat}{w0:World}{h0:Mem}{e:List (Nat×Value)}{L:List Res}{h:Mem}
variable {ds:Option Tmp}{ty:TypeId}{ps:String}{af:Array Edge}{gd:Option (Nat×Bool)}
theorem vK{pa pb:List Nat}{t yt:TypeId}{x y:Operand}(hx:zI e x=some (.string (qB pa)))(hy:zI e y=some (.string (qB pb)))(hlen:pa.length+pb.length≤9223372036854775807):
    OpV P n w0 h0 ⟨ds,.binOp .add t x y yt,ty,ps,af,gd⟩ e L h (.string (qB (pa++pb))):=by
  intro a w Ev S
  have h1:=Us.str_size (xs:=pa)
  have h2:=Us.str_size (xs:=pb)
  have h3:¬(((qB pa).size+(qB pb).size:Nat):Int)>IntKind.i64.max:=by
    have:IntKind.i64.max=9223372036854775807:=rfl
    rw[this]
    omega
  have h4:(Op.stringOp .add (qB pa) (qB pb)).run P w=.ok (.string (qB (pa++pb))) w:=by
    simp only[Op.stringOp]
    rw[if_neg h3,zFH]
    rfl
  simp only[execOp,Ev.eval hx,Ev.eval hy]
  simp[eqGuard,binOp,h4]
theorem lM{pa pb:List Nat}{t yt:TypeId}{x y:Operand}(ha:ByB pa)(hb:ByB pb)(hx:zI e x=some (.string (qB pa)))(hy:zI e y=some (.string (qB pb))):OpV P n w0 h0 ⟨ds,.binOp .eql t x y yt,ty,ps,af,gd⟩ e L h (vB (pa=pb)):=by
  have:=zJ0 (P:=P) (n:=n) (w0:=w0) (h0:=h0) (L:=L) (h:=h) (ds:=ds) (ty:=ty) (ps:=ps) (af:=af) (gd:=gd) (t:=t) (yt:=yt) hx hy
  rw[fJ (zD4 ha hb)] at this
  exact this
theorem zQK{pa pb:List Nat}{t yt:TypeId}{x y:Operand}(ha:ByB pa)(hb:ByB pb)(hx:zI e x=some (.string (qB pa)))(hy:zI e y=some (.string (qB pb))):OpV P n w0 h0 ⟨ds,.binOp .neq t x y yt,ty,ps,af,gd⟩ e L h (vB (pa≠pb)):=by
  have h1:((qB pa).toList==(qB pb).toList)=@decide (qB pa=qB pb) (Classical.propDecidable _):=by
    rw[Bool.eq_iff_iff]
    simp only[beq_iff_eq,decide_eq_true_eq]
    exact⟨fun hh=>by
      have h2:(qB pa).data.toList=(qB pb).data.toList:=by
        rwa [ByteArray.toList_eq,ByteArray.toList_eq] at hh
      exact ByteArray.ext (Array.toList_inj.1 h2),fun hh=>by rw[hh]⟩
  rw[←fJ (not_congr (zD4 ha hb))]
  intro a w Ev S
  simp only[execOp,Ev.eval hx,Ev.eval hy,binOp,vB]
  simp[eqGuard,Op.stringOp,h1]
end
end Bk
namespace Bk
set_option linter.unusedVariables false
set_option linter.unusedSimpArgs false
open Go Go.RowKit
open Classical
noncomputable def qZ(q:Rat):List Nat:=(if q.num<0 then[45] else[])++txt q.num.natAbs++(if xT q.den=0 then[] else[47]++txt (xT q.den))
theorem zSC(q:Rat):ByB (qZ q):=by
  unfold qZ
  refine ByB.app (ByB.app ?_ (zMU _)) ?_
  · split
    · unfold ByB;decide
    · exact ByB.nil
  · split
    · exact ByB.nil
    · exact ByB.app (by unfold ByB;decide) (zMU _)
theorem zBV(q:Rat):(qZ q).length≤20*lq q+4:=by
  unfold qZ
  have h1:=dO q.num.natAbs
  have h2:=dO (xT q.den)
  have h3:=wE q
  have h4:=wC q
  have h5:(if q.num<0 then[45] else([]:List Nat)).length≤1:=by split<;>simp
  have h6:(if xT q.den=0 then[] else[47]++txt (xT q.den)).length≤1+(txt (xT q.den)).length:=by split<;>simp<;>omega
  rw[lAz,lAz]
  have h7:(zB (xT q.den)).length≤lq q:=h4
  omega
theorem rW{q:Rat}:(0:Int)<↑(zB (xT q.den)).length↔¬xT q.den=0:=by
  have:=yI (n:=xT q.den)
  omega
theorem zS4{q:Rat}(h1:q.num<0)(h2:¬(0:Int)<↑(zB (xT q.den)).length):[45]++txt q.num.natAbs=qZ q:=by
  unfold qZ
  rw[if_pos h1,if_pos (Classical.not_not.1 fun e=>h2 (rW.2 e)),List.append_nil]
theorem zWJ{q:Rat}(h1:q.num<0)(h2:(0:Int)<↑(zB (xT q.den)).length):[45]++txt q.num.natAbs++([47]++txt (xT q.den))=qZ q:=by
  unfold qZ
  rw[if_pos h1,if_neg (rW.1 h2)]
theorem zS6{q:Rat}(h1:¬q.num<0)(h2:¬(0:Int)<↑(zB (xT q.den)).length):txt q.num.natAbs=qZ q:=by
  unfold qZ
  rw[if_neg h1,if_pos (Classical.not_not.1 fun e=>h2 (rW.2 e)),List.append_nil,List.nil_append]
theorem zS5{q:Rat}(h1:¬q.num<0)(h2:(0:Int)<↑(zB (xT q.den)).length):txt q.num.natAbs++([47]++txt (xT q.den))=qZ q:=by
  unfold qZ
  rw[if_neg h1,if_neg (rW.1 h2),List.nil_append]
def pX:List Nat→Nat
  |[]=>0
  |b::bs=>if 48≤b∧b≤57 then pX bs+1 else 0
noncomputable def exU(s:List Nat):List Nat:=if s.drop 1≠[]∧((s.drop 1).getD 0 0=43∨(s.drop 1).getD 0 0=45) then(s.drop 1).drop 1 else s.drop 1
def zYQ(s:List Nat):Prop:=s.drop 1≠[]∧(s.drop 1).getD 0 0=45
def yAK(s:List Nat):Prop:=(s.getD 0 0=101∨s.getD 0 0=69)∧exU s≠[]∧(exU s).length≤3∧pX (exU s)=(exU s).length
noncomputable def exN(s:List Nat):Nat:=if yAK s then hor (exU s) else 0
noncomputable def zYM(s:Prop)(n d:Nat):Int×Rat:=if(2048:Int)<yAS (mkRat (sg s n) d) then(2,0) else(0,mkRat (sg s n) d)
noncomputable def zYN(s:Prop)(n d:Nat)(r:List Nat):Int×Rat:=
  if r=[] then zYM s n d else if yAK r then(if zYQ r then zYM s n (d*10^exN r) else zYM s (n*10^exN r) d) else(4,0)
def zZN(r:List Nat):Prop:=r≠[]∧r.getD 0 0=47
def dot(r:List Nat):Prop:=r≠[]∧r.getD 0 0=46
noncomputable def fin2(s:Prop)(bs:List Nat):Int×Rat:=
  if pX bs=0 then(4,0) else
  if zZN (bs.drop (pX bs)) then
    (if(bs.drop (pX bs)).drop 1=[]∨pX ((bs.drop (pX bs)).drop 1)≠((bs.drop (pX bs)).drop 1).length then(4,0) else if hor ((bs.drop (pX bs)).drop 1)=0 then(3,0) else zYN s (hor (bs.take (pX bs))) (hor ((bs.drop (pX bs)).drop 1)) [])
  else if dot (bs.drop (pX bs)) then
    (if pX ((bs.drop (pX bs)).drop 1)=0 then(4,0) else zYN s (hor (bs.take (pX bs)++((bs.drop (pX bs)).drop 1).take (pX ((bs.drop (pX bs)).drop 1)))) (10^pX ((bs.drop (pX bs)).drop 1)) ((bs.drop (pX bs)).drop (pX ((bs.drop (pX bs)).drop 1)+1)))
  else zYN s (hor (bs.take (pX bs))) 1 (bs.drop (pX bs))
def zQH(bs:List Nat):Prop:=(0:Int)<↑bs.length∧bs.getD 0 0=45
noncomputable def zT5(bs:List Nat):List Nat:=if zQH bs then bs.drop 1 else bs
noncomputable def parQ(bs:List Nat):Int×Rat:=if 4096<bs.length then(2,0) else fin2 (zQH bs) (zT5 bs)
end Bk
namespace Bk
set_option linter.unusedVariables false
set_option linter.unusedSimpArgs false
open Go Go.RowKit
open Classical
theorem zS3{n:Nat}(h0:n≠0)(h:n<10):txt n=[48+n]:=by
  unfold txt
  rw[if_neg h0,zIX h0,show n/10=0 by omega,zE3,Nat.mod_eq_of_lt h];rfl
theorem zLA(ys:List Nat)(hf:Fit ys):(zB (dV ys)).length≤ys.length+1:=by
  unfold dV
  split
  · rw[eS];omega
  · have:=xY hf;omega
end Bk
namespace Bk
set_option linter.unusedVariables false
set_option linter.unusedSimpArgs false
open Go Go.RowKit
open Classical
theorem cH(q:Rat):yX q=if q=0 then 0 else if q<0 then -1 else 1:=by unfold yX;simp only[oN]
theorem zR8(a b:Rat):wB a b=yX (a-b):=by rw[cH];unfold wB;grind
theorem s8(a b:Rat):a<b∨a=b∨b<a:=by grind
theorem zR9(a b c:Rat):wB (a*c) (b*c)=wB a b*yX c:=by
  rw[cH]
  by_cases h0:c=0
  · subst h0
    have:wB (a*0) (b*0)=0:=cX.2 (by grind)
    rw[this,if_pos rfl,Int.mul_zero]
  · rw[if_neg h0]
    by_cases hc:c<0
    · rw[if_pos hc]
      rcases s8 a b with h|h|h
      · have h1:b*c<a*c:=by
          have:=Rat.mul_lt_mul_of_pos_right h (c:=-c) (by grind)
          grind
        unfold wB;grind
      · subst h;unfold wB;simp
      · have h1:a*c<b*c:=by
          have:=Rat.mul_lt_mul_of_pos_right h (c:=-c) (by grind)
          grind
        unfold wB;grind
    · rw[if_neg hc]
      have hc':0<c:=by grind
      rcases s8 a b with h|h|h
      · have h1:=Rat.mul_lt_mul_of_pos_right h hc'
        unfold wB;grind
      · subst h;unfold wB;simp
      · have h1:=Rat.mul_lt_mul_of_pos_right h hc'
        unfold wB;grind
theorem eP{x y:Int}(hx:-1≤x∧x≤1)(hy:-1≤y∧y≤1):-1≤x*y∧x*y≤1:=by
  have:x= -1∨x=0∨x=1:=by omega
  rcases this with h|h|h<;>subst h<;>omega
theorem zX6{n:Nat}(h:n≤4096):kN (n:Int)=n:=by unfold kN;omega
end Bk
namespace Bk
set_option linter.unusedVariables false
set_option linter.unusedSimpArgs false
open Go Go.RowKit
open Classical
theorem rS{a b:Rat}:wB a b≤0↔a≤b:=by
  have h:=oV (a:=a) (b:=b)
  constructor
  · intro h1
    refine Rat.not_lt.1 fun e=>?_
    have:=h.2 e
    omega
  · intro h1
    have:¬0<wB a b:=fun e=>Rat.not_lt.2 h1 (h.1 e)
    omega
theorem zKZ(a b:Rat):a≤b∨b≤a:=by grind
theorem zEP(a:Rat):bZ a a=a:=by unfold bZ;split<;>rfl
theorem zEQ(a:Rat):tY a a=a:=by unfold tY;split<;>rfl
theorem zUI{a b:Rat}(h:a≤b):tY a b=b:=by
  unfold tY
  by_cases h1:a<b
  · rw[if_pos h1]
  · rw[if_neg h1];grind
def zUW(a b r:Rat):Prop:=a≤r∧r≤b
noncomputable def zVJ(a b c d:Rat):Rat:=bZ (bZ (bZ (a*c) (a*d)) (b*c)) (b*d)
noncomputable def zVK(a b c d:Rat):Rat:=tY (tY (tY (a*c) (a*d)) (b*c)) (b*d)
noncomputable def zIH(a:Rat):Rat:=if a=0 then 0 else((1:Int):Rat)/a
noncomputable def zZL(a b:Rat):Rat:=if zUW a b 0 then 0 else bZ (a*a) (b*b)
noncomputable def zZM(a b:Rat):Rat:=tY (a*a) (b*b)
theorem zH5{a b c:Rat}(h:a≤b)(hc:0≤c):a*c≤b*c:=Rat.mul_le_mul_of_nonneg_right h hc
theorem g8(x:Rat):0≤x*x:=by
  rcases zKZ 0 x with h|h
  · have:=zH5 h h;grind
  · have:=zH5 (a:=0) (b:=-x) (c:=-x) (by grind) (by grind);grind
noncomputable def zZY(a b c d:Rat):Rat:=if zUW c d 0 then 0 else zVJ a b (bZ (zIH c) (zIH d)) (tY (zIH c) (zIH d))
noncomputable def zZZ(a b c d:Rat):Rat:=if zUW c d 0 then 0 else zVK a b (bZ (zIH c) (zIH d)) (tY (zIH c) (zIH d))
noncomputable def quoE(c d:Rat):Int:=if zUW c d 0 then 3 else 0
end Bk
namespace Bk
set_option linter.unusedVariables false
set_option linter.unusedSimpArgs false
open Go Go.RowKit
open Classical
theorem g9(n:Nat):∃m,m*m≤n∧n<(m+1)*(m+1):=by
  induction n with
  |zero=>exact⟨0,by decide,by decide⟩
  |succ n ih=>
   obtain⟨m,h1,h2⟩:=ih
   by_cases h:(m+1)*(m+1)≤n+1
   · refine⟨m+1,h,?_⟩
     have:(m+1)*(m+1)<(m+1+1)*(m+1+1):=Nat.mul_self_lt_mul_self (by omega)
     omega
   · exact⟨m,by omega,by omega⟩
noncomputable def sqN(n:Nat):Nat:=Classical.choose (g9 n)
theorem iR(n:Nat):sqN n*sqN n≤n:=(Classical.choose_spec (g9 n)).1
theorem zPD(n:Nat):n<(sqN n+1)*(sqN n+1):=(Classical.choose_spec (g9 n)).2
theorem zBF{a b:Nat}(h:a≤b):a*a≤b*b:=Nat.mul_le_mul h h
theorem zK0{n m:Nat}:m≤sqN n↔m*m≤n:=by
  constructor
  · intro h
    exact Nat.le_trans (zBF h) (iR n)
  · intro h
    refine Classical.byContradiction fun e=>?_
    have h1:=zBF (show sqN n+1≤m by omega)
    have h2:=zPD n
    omega
theorem zFI{n m:Nat}(h1:m*m≤n)(h2:n<(m+1)*(m+1)):sqN n=m:=by
  have h3:=zK0.2 h1
  have h4:¬m+1≤sqN n:=fun e=>by have:=zK0.1 e;omega
  omega
theorem zBZ(n:Nat):sqN n≤n:=by
  rcases Nat.eq_zero_or_pos (sqN n) with h|h
  · omega
  · have h1:=iR n
    have h2:=Nat.mul_le_mul_left (sqN n) (show 1≤sqN n from h)
    omega
theorem zN5{n x:Nat}(hx:0<x):sqN n≤(x+n/x)/2:=by
  refine Classical.byContradiction fun e=>?_
  have hs:=iR n
  generalize sqN n=s at *
  have h1:x+n/x+1≤2*s:=by omega
  have h2:=Nat.lt_mul_div_succ n hx
  obtain⟨t,ht⟩:∃t,n/x+1+x+t=2*s:=⟨2*s-(n/x+1+x),by omega⟩
  have h3:n<x*(n/x+1):=h2
  generalize n/x=q at *
  -- x (q + 1) <= x (2 s - x) <= s s
  have h4:(x:Int)*((q:Int)+1)≤(s:Int)*s:=by
    have e1:(q:Int)+1=2*s-x-t:=by omega
    rw[e1]
    have h5:0≤((s:Int)-x)*((s:Int)-x):=by
      rcases Int.le_total 0 ((s:Int)-x) with h|h
      · exact Int.mul_nonneg h h
      · exact Int.mul_nonneg_of_nonpos_of_nonpos h h
    have h6:0≤(x:Int)*t:=Int.mul_nonneg (by omega) (by omega)
    grind
  have h7:((x*(q+1):Nat):Int)≤((s*s:Nat):Int):=by rw[Int.natCast_mul,Int.natCast_mul,Int.natCast_add];exact h4
  omega
theorem zH1{n x:Nat}(hx:0<x)(h:sqN n≤x)(hs:x≤(x+n/x)/2):x=sqN n:=by
  have h1:x≤n/x:=by omega
  have h2:x*x≤n:=Nat.le_trans (Nat.mul_le_mul_left x h1) (Nat.mul_div_le n x)
  have:=zK0.2 h2
  omega
theorem zF5(n:Nat):sqN n≤2^((xZ n+1)/2):=by
  refine Classical.byContradiction fun e=>?_
  have h1:=zBF (show 2^((xZ n+1)/2)≤sqN n by omega)
  have h2:=iR n
  have h3:=cJ n
  rw[←Nat.pow_add] at h1
  have h4:2^xZ n≤2^((xZ n+1)/2+(xZ n+1)/2):=Nat.pow_le_pow_right (by omega) (by omega)
  omega
end Bk
namespace Bk
set_option linter.unusedVariables false
set_option linter.unusedSimpArgs false
open Go Go.RowKit
open Classical
theorem reb{h:Mem}{v:Value}{a b:Rat}{k l:Nat}(r:(rpQ k).Is h v a)(e:a=b)(hl:lq b≤l):(rpQ l).Is h v b:=by
  subst e
  exact cK (zZ4 r).1 hl
theorem zB9{h:Mem}{cs:List Value}{a b:Rat}{k l:Nat}(r:(rpQ k).R h cs a)(e:a=b)(hl:lq b≤l):(rpQ l).R h cs b:=by
  subst e
  exact⟨r.1,hl⟩
noncomputable def ovQ(a K:Nat):Rat:=(a:Rat)/((2^K:Nat):Rat)
theorem zFR(K:Nat):(0:Rat)<((2^K:Nat):Rat):=by
  have:(0:Rat)=((0:Nat):Rat):=rfl
  rw[this,Rat.natCast_lt_natCast]
  exact Nat.pow_pos (by omega)
theorem zHG(K:Nat):((2^K:Nat):Rat)≠0:=by have:=zFR K;grind
theorem zKV(a b:Nat):lq ((a:Rat)/(b:Rat))≤max (zB a).length (zB b).length+1:=by
  have h1:=q5 False [] []
  rw[show(a:Rat)/(b:Rat)=mkRat (sg False a) b by
    rw[aP id,Rat.mkRat_eq_div];rfl]
  exact mP (by omega) (by omega) (by omega)
theorem zFS{K:Nat}(h:K≤4096):(zB (2^K)).length≤129:=by
  have:=zT4 (k:=K) h
  omega
theorem zRE{a K m:Nat}(hK:K≤4096)(ha:(zB a).length≤m):lq (ovQ a K)≤max m 129+1:=by
  have h1:=zKV a (2^K)
  have h2:=zFS hK
  unfold ovQ
  omega
theorem zBH(K:Nat):ovQ 0 K=0:=by
  unfold ovQ
  have:((0:Nat):Rat)=0:=rfl
  rw[this];grind
theorem zM0(i:Nat):ovQ 1 i*wN 1 2=ovQ 1 (i+1):=by
  have h2:wN 1 2=1/2:=rfl
  have e1:((2^(i+1):Nat):Rat)=((2^i:Nat):Rat)*2:=by rw[Nat.pow_succ,Rat.natCast_mul];rfl
  have hp:=zHG i
  have e0:((1:Nat):Rat)=1:=rfl
  unfold ovQ
  rw[h2,e1,e0]
  generalize ((2^i:Nat):Rat)=P at *
  grind
theorem zL7{K:Nat}(h:K≤4096):lq (ovQ 1 K)≤130:=by
  have:=zRE (a:=1) (m:=1) h (by rw[qX (by omega) (by omega)];simp)
  omega
def flN(q:Rat)(K:Nat):Nat:=q.num.natAbs*2^K*2^K/q.den
noncomputable def qE(q:Rat)(k:Int):Rat:=ovQ (sqN (flN q (kN k))) (kN k)
theorem bJ{x y c:Rat}(hc:0<c):x≤y↔x*c≤y*c:=by
  constructor
  · intro h;exact Rat.mul_le_mul_of_nonneg_right h (by grind)
  · intro h
    refine Rat.not_lt.1 fun e=>?_
    have:=Rat.mul_lt_mul_of_pos_right e hc
    grind
theorem zGI(q:Rat):(0:Rat)<(q.den:Rat):=by
  have:(0:Rat)=((0:Nat):Rat):=rfl
  rw[this,Rat.natCast_lt_natCast]
  exact Nat.pos_of_ne_zero q.den_nz
theorem num_nonneg{q:Rat}(h:0≤q):(q.num.natAbs:Int)=q.num:=Int.natAbs_of_nonneg (Rat.num_nonneg.2 h)
theorem zL4{q:Rat}(h:0≤q):q*(q.den:Rat)=(q.num.natAbs:Rat):=by
  have h1:q*(q.den:Rat)=(q.num:Rat):=by
    have h2:=Rat.divInt_eq_div q.num q.den
    rw[Rat.num_divInt_den] at h2
    replace h2:(q.num:Rat)/(q.den:Rat)=q:=h2.symm
    have h3:=zGI q
    generalize (q.num:Rat)=x at *
    generalize (q.den:Rat)=y at *
    grind
  rw[h1,←num_nonneg h];rfl
theorem bD{q:Rat}(hq:0≤q)(a K:Nat):ovQ a K*ovQ a K≤q↔a*a≤flN q K:=by
  have hp:=zFR K
  have hd:=zGI q
  have hm:=zL4 hq
  have hc:(0:Rat)<((2^K:Nat):Rat)*((2^K:Nat):Rat)*(q.den:Rat):=Rat.mul_pos (Rat.mul_pos hp hp) hd
  rw[bJ hc]
  have e1:ovQ a K*ovQ a K*(((2^K:Nat):Rat)*((2^K:Nat):Rat)*(q.den:Rat))=((a*a*q.den:Nat):Rat):=by
    rw[Rat.natCast_mul,Rat.natCast_mul]
    unfold ovQ
    generalize ((2^K:Nat):Rat)=P at *
    grind
  have e2:q*(((2^K:Nat):Rat)*((2^K:Nat):Rat)*(q.den:Rat))=((q.num.natAbs*2^K*2^K:Nat):Rat):=by
    rw[Rat.natCast_mul,Rat.natCast_mul,←hm]
    grind
  rw[e1,e2,Rat.natCast_le_natCast]
  unfold flN
  rw[Nat.le_div_iff_mul_le (Nat.pos_of_ne_zero q.den_nz)]
theorem y8{q:Rat}(hq:0≤q)(a K:Nat):q<ovQ a K*ovQ a K↔flN q K<a*a:=by
  have:=bD hq a K
  constructor
  · intro h
    refine Nat.lt_of_not_le fun e=>?_
    have:=this.2 e
    grind
  · intro h
    refine Rat.not_le.1 fun e=>?_
    have:=this.1 e
    omega
theorem s2(a b K:Nat):ovQ a K+ovQ b K=ovQ (a+b) K:=by
  unfold ovQ
  rw[Rat.natCast_add]
  have:=zHG K
  grind
theorem zVH{a b K:Nat}:ovQ a K≤ovQ b K↔a≤b:=by
  have hp:=zFR K
  rw[bJ hp,←Rat.natCast_le_natCast (a:=a)]
  unfold ovQ
  have e:∀x:Rat,x/((2^K:Nat):Rat)*((2^K:Nat):Rat)=x:=fun x=>by grind
  rw[e,e]
def bY(q:Rat)(K:Nat):Nat:=(q.num.natAbs/q.den+1)*2^K
theorem zO9(q:Rat)(K:Nat):flN q K<bY q K*bY q K:=by
  have hd:=Nat.pos_of_ne_zero q.den_nz
  have h1:=Nat.lt_mul_div_succ q.num.natAbs hd
  rw[Nat.mul_comm] at h1
  unfold flN bY
  rw[Nat.div_lt_iff_lt_mul hd]
  generalize q.num.natAbs/q.den+1=N at *
  generalize q.num.natAbs=X at *
  generalize q.den=D at *
  have hp:0<2^K:=Nat.pow_pos (by omega)
  generalize 2^K=P at *
  have hN:1≤N:=by
    rcases Nat.eq_zero_or_pos N with h|h
    · rw[h] at h1;omega
    · exact h
  have h2:X*P*P<N*D*P*P:=Nat.mul_lt_mul_of_pos_right (Nat.mul_lt_mul_of_pos_right h1 hp) hp
  have h3:N*D*P*P≤N*(N*D*P*P):=Nat.le_mul_of_pos_left _ hN
  have e:N*P*(N*P)*D=N*(N*D*P*P):=by grind
  omega
theorem zFF{q:Rat}{k:Nat}(h:lq q≤k)(K:Nat)(hK:K≤4096):(zB (bY q K)).length≤k+131:=by
  unfold bY
  have h1:=yC (q.num.natAbs/q.den+1) (2^K)
  have h2:=zFS hK
  have h3:=uD (q.num.natAbs/q.den) 1
  have h4:=zM (Nat.div_le_self q.num.natAbs q.den)
  have h5:=wE q
  have h6:(zB 1).length=1:=by rw[qX (by omega) (by omega)];rfl
  have h7:=dA q
  omega
theorem nV{q:Rat}{k a:Nat}(h:lq q≤k){K:Nat}(hK:K≤4096)(ha:a≤bY q K):lq (ovQ a K)≤k+140:=by
  have h1:=zFF h K hK
  have h2:=zM ha
  have h3:=zRE (a:=a) hK (Nat.le_trans h2 h1)
  omega
theorem zNI{q:Rat}{a b K:Nat}(h1:a*a≤flN q K)(h2:flN q K<b*b)(hab:a<b)(h:b-a≤1):ovQ a K=ovQ (sqN (flN q K)) K:=by
  have:b=a+1:=by omega
  subst this
  rw[zFI h1 h2]
theorem oD(q:Rat)(K:Nat):sqN (flN q K)≤bY q K:=by
  refine Nat.le_of_not_lt fun e=>?_
  have h1:=zO9 q K
  have h2:=iR (flN q K)
  have h3:=zBF (Nat.le_of_lt e)
  omega
theorem zUL{q:Rat}{k:Nat}(h:lq q≤k)(n:Int):lq (qE q n)≤k+140:=nV h (by unfold kN;omega) (oD q _)
theorem zGU:sqN 0=0:=by have:=zBZ 0;omega
theorem zP3{X:Nat}(h:(↑(xZ X):Int)=0):zB (sqN X)=[]:=by
  have h1:X=0:=jN.1 (by omega)
  rw[h1,zGU,yN]
theorem zGX{X:Nat}(h:(zB X).length≤1000):shN 1 ((↑(xZ X)+1)/2)=2^((xZ X+1)/2):=by
  have h1:=zDF X
  have e:((↑(xZ X)+1)/2:Int)=(((xZ X+1)/2:Nat):Int):=by omega
  rw[e,zFJ (by omega) (by omega),Nat.one_mul]
  rfl
theorem zJH(Y:Nat):shN Y (-1)=Y/2:=by
  rw[zB1 (by omega)]
  rfl
theorem zJD{X K:Nat}(h:(zB X).length≤K):(zB (2^((xZ X+1)/2))).length≤K+1:=by
  have h1:=zDF X
  refine Nat.le_trans (zM (Nat.pow_le_pow_right (by omega) (show(xZ X+1)/2≤32*K by omega))) ?_
  refine vZ (k:=K+1) ?_
  rw[show(4294967296:Nat)=2^32 from rfl,←Nat.pow_mul]
  exact Nat.pow_lt_pow_right (by omega) (by omega)
theorem zM8{X:Nat}(h:(zB X).length≤1000):(zB (2^((xZ X+1)/2))).length≤1001:=zJD h
theorem zFK(X k:Nat)(hk:k≤4096):shN X (k:Int)=X*2^k:=by rw[zFJ (by omega) (by omega)];rfl
theorem iT{q:Rat}{k K:Nat}(h:lq q≤k)(hK:K≤4096):(zB (q.num.natAbs*2^K)).length≤k+129∧(zB (q.num.natAbs*2^K*2^K)).length≤k+258∧(zB (flN q K)).length≤k+258:=by
  have h1:=yC q.num.natAbs (2^K)
  have h2:=yC (q.num.natAbs*2^K) (2^K)
  have h3:=zFS hK
  have h4:=wE q
  have h5:=zM (Nat.div_le_self (q.num.natAbs*2^K*2^K) q.den)
  unfold flN
  omega
theorem zL2(a K:Nat):mkRat (sg False (val (zB a))) (dV (zB (2^K)))=ovQ a K:=by
  have hp:2^K≠0:=Nat.ne_of_gt (Nat.pow_pos (by omega))
  have h0:zB (2^K)≠[]:=fun e=>by
    have:=yI.2 hp
    rw[e] at this;simp at this
  unfold dV
  rw[if_neg h0,zC,zC,aP id,Rat.mkRat_eq_div]
  rfl
def zCT(q:Rat)(K:Nat):Prop:=q.num.natAbs*2^K*2^K%q.den≠0
theorem zQO{q:Rat}(hq:0≤q)(K:Nat):(zCT q K∨fZ (sqN (flN q K)*sqN (flN q K)) (flN q K)<0)↔qE q=qE q∧ovQ (sqN (flN q K)) K*ovQ (sqN (flN q K)) K<q:=by
  have hp:=zFR K
  have hd:=zGI q
  have hm:=zL4 hq
  have hc:(0:Rat)<((2^K:Nat):Rat)*((2^K:Nat):Rat)*(q.den:Rat):=Rat.mul_pos (Rat.mul_pos hp hp) hd
  have key:q≤ovQ (sqN (flN q K)) K*ovQ (sqN (flN q K)) K↔q.num.natAbs*2^K*2^K≤sqN (flN q K)*sqN (flN q K)*q.den:=by
    rw[bJ hc]
    generalize sqN (flN q K)=a
    have e1:ovQ a K*ovQ a K*(((2^K:Nat):Rat)*((2^K:Nat):Rat)*(q.den:Rat))=((a*a*q.den:Nat):Rat):=by
      rw[Rat.natCast_mul,Rat.natCast_mul]
      unfold ovQ
      generalize ((2^K:Nat):Rat)=P at *
      grind
    have e2:q*(((2^K:Nat):Rat)*((2^K:Nat):Rat)*(q.den:Rat))=((q.num.natAbs*2^K*2^K:Nat):Rat):=by
      rw[Rat.natCast_mul,Rat.natCast_mul,←hm]
      grind
    rw[e1,e2,Rat.natCast_le_natCast]
  have h1:=iR (flN q K)
  have hdp:=Nat.pos_of_ne_zero q.den_nz
  have h2:flN q K*q.den+q.num.natAbs*2^K*2^K%q.den=q.num.natAbs*2^K*2^K:=by
    unfold flN
    rw[Nat.mul_comm]
    exact Nat.div_add_mod _ _
  rw[gG]
  unfold zCT
  generalize q.num.natAbs*2^K*2^K=X at *
  generalize hr:X%q.den=r at *
  generalize hs:sqN (flN q K)*sqN (flN q K)=s at *
  generalize flN q K=F at *
  constructor
  · intro h
    refine⟨rfl,Rat.not_le.1 fun e=>?_⟩
    have h3:=key.1 e
    rcases h with h|h
    · have:=Nat.mul_le_mul_right q.den h1
      omega
    · have h4:=Nat.mul_lt_mul_of_pos_right h hdp
      omega
  · rintro⟨_,h⟩
    refine Classical.byContradiction fun e=>?_
    have e1:¬r≠0:=fun h=>e (.inl h)
    have e2:¬s<F:=fun h=>e (.inr h)
    have e3:s=F:=by omega
    refine Rat.not_le.2 h (key.2 ?_)
    rw[e3];omega
noncomputable def zJM(l h:Rat)(k:Int):Rat:=if h<0 then 0 else qE (tY l 0) k
noncomputable def oC(h:Rat)(k:Int):Rat:=if h<0 then 0 else if qE h k*qE h k<h then qE h k+ovQ 1 (kN k) else qE h k
noncomputable def rtE(h:Rat):Int:=if h<0 then 7 else 0
theorem zRU(K:Nat):flN 0 K=0:=by
  unfold flN
  have:(0:Rat).num.natAbs=0:=rfl
  rw[this,Nat.zero_mul,Nat.zero_mul,Nat.zero_div]
theorem zJN(k:Int):qE 0 k=0:=by unfold qE;rw[zRU,zGU,zBH]
noncomputable def loN(l:Rat)(K:Nat):Nat:=if 0<yX l then sqN (flN l K) else 0
theorem dY{q:Rat}:0<yX q↔0<q:=by
  rw[cH]
  by_cases h0:q=0
  · rw[if_pos h0,h0]
    constructor
    · intro h;omega
    · intro h;exact absurd h (Rat.lt_irrefl)
  · rw[if_neg h0]
    by_cases h1:q<0
    · rw[if_pos h1]
      constructor
      · intro h;omega
      · intro h;grind
    · rw[if_neg h1]
      constructor
      · intro h;grind
      · intro h;omega
theorem uR{q:Rat}:yX q<0↔q<0:=by
  rw[cH]
  by_cases h0:q=0
  · rw[if_pos h0,h0]
    constructor
    · intro h;omega
    · intro h;exact absurd h (Rat.lt_irrefl)
  · rw[if_neg h0]
    by_cases h1:q<0
    · rw[if_pos h1];simp[h1]
    · rw[if_neg h1]
      constructor
      · intro h;omega
      · intro h;grind
theorem yAE(l:Rat)(k:Int):ovQ (loN l (kN k)) (kN k)=qE (tY l 0) k:=by
  unfold loN
  by_cases h:0<yX l
  · rw[if_pos h]
    have h1:=dY.1 h
    have h2:tY l 0=l:=by unfold tY;rw[if_neg (by grind)]
    rw[h2];rfl
  · rw[if_neg h,zBH]
    have h1:¬0<l:=fun e=>h (dY.2 e)
    have h2:tY l 0=0:=zUI (by grind)
    rw[h2,zJN]
noncomputable def hiN(q:Rat)(K:Nat):Nat:=if zCT q K∨fZ (sqN (flN q K)*sqN (flN q K)) (flN q K)<0 then sqN (flN q K)+1 else sqN (flN q K)
theorem zVT{q:Rat}(h:¬q<0)(k:Int):ovQ (hiN q (kN k)) (kN k)=oC q k:=by
  have h0:0≤q:=by grind
  have h1:=zQO h0 (kN k)
  unfold oC hiN
  rw[if_neg h]
  by_cases h2:qE q k*qE q k<q
  · rw[if_pos h2,if_pos (h1.2 ⟨rfl,h2⟩),←s2];rfl
  · rw[if_neg h2,if_neg (fun e=>h2 (h1.1 e).2)];rfl
theorem zRH{q:Rat}{k:Nat}(h:lq q≤k)(n:Int):lq (ovQ (hiN q (kN n)) (kN n))≤k+140∧(zB (hiN q (kN n))).length≤k+133:=by
  have hK:kN n≤4096:=by unfold kN;omega
  have h1:hiN q (kN n)≤bY q (kN n)+1:=by
    have:=oD q (kN n)
    unfold hiN;split<;>omega
  have h2:=zM h1
  have h3:=uD (bY q (kN n)) 1
  have h4:=zFF h (kN n) hK
  have h5:(zB 1).length=1:=by rw[qX (by omega) (by omega)];rfl
  have h6:(zB (hiN q (kN n))).length≤k+133:=by omega
  exact⟨by have:=zRE (a:=hiN q (kN n)) hK h6;omega,h6⟩
theorem zX1{q:Rat}{k:Nat}(h:lq q≤k)(n:Int):lq (ovQ (loN q (kN n)) (kN n))≤k+140∧(zB (loN q (kN n))).length≤k+131:=by
  have hK:kN n≤4096:=by unfold kN;omega
  have h1:loN q (kN n)≤bY q (kN n):=by
    have:=oD q (kN n)
    unfold loN;split<;>omega
  exact⟨nV h hK h1,Nat.le_trans (zM h1) (zFF h _ hK)⟩
theorem zH0{n x:Nat}(hx:0<x)(h:sqN n≤x)(e:(x+n/x)/2=0):n=0:=by
  have h0:n/x=0∧x=1:=by generalize n/x=q at *;omega
  obtain⟨h1,h2⟩:=h0
  rw[h2,Nat.div_one] at h1
  exact h1
theorem zTB{h:Mem}{v:Value}{s:Rat×Rat}{k l:Nat}(r:(rpP (rpQ k) (rpQ l)).Is h v s):lq s.1≤k∧lq s.2≤l:=by
  obtain⟨cs,⟨a,b,_,r1,r2⟩,_⟩:=r
  exact⟨r1.2,r2.2⟩
theorem zTN{h:Rat}{k:Int}(h0:¬h<0)(h1:qE h k*qE h k<h):qE h k+ovQ 1 (kN k)=oC h k:=by unfold oC;rw[if_neg h0,if_pos h1]
theorem zTO{h:Rat}{k:Int}(h0:¬h<0)(h1:¬qE h k*qE h k<h):qE h k=oC h k:=by unfold oC;rw[if_neg h0,if_neg h1]
theorem zUK{q:Rat}{k:Nat}(h:lq q≤k)(h0:¬q<0)(n:Int):lq (oC q n)≤k+140:=by
  rw[←zVT h0]
  exact(zRH h n).1
theorem zP5(X d:Nat):(zB (if xT d=0 then 0 else X%xT d)).length≤(zB X).length:=by
  refine zM ?_
  split
  · omega
  · exact Nat.mod_le _ _
end Bk
namespace Bk
set_option linter.unusedVariables false
set_option linter.unusedSimpArgs false
open Go Go.RowKit
open Classical
abbrev Sp:=Rat×Rat
theorem zLY{h:Mem}{v:Value}{s:Sp}{k l:Nat}(r:(rpP (rpQ k) (rpQ l)).Is h v s):∃a b c d,v=.agg #[vB (s.1.num<0),a,b,vB (s.2.num<0),c,d]∧Us .u32 h a (zB s.1.num.natAbs)∧Us .u32 h b (zB (xT s.1.den))∧Us .u32 h c (zB s.2.num.natAbs)∧Us .u32 h d (zB (xT s.2.den))∧lq s.1≤k∧lq s.2≤l:=by
  obtain⟨cs,⟨_,_,rfl,⟨⟨a,b,rfl,h1,h2⟩,h3⟩,⟨⟨c,d,rfl,h4,h5⟩,h6⟩⟩,rfl⟩:=r
  exact⟨a,b,c,d,rfl,h1,h2,h4,h5,h3,h6⟩
theorem zVQ{h:Mem}{v:Value}{p q:Rat}{k l:Nat}(r:zGM h v [p,q])(hp:lq p≤k)(hq:lq q≤l):(rpP (rpQ k) (rpQ l)).Is h v (p,q):=by
  obtain⟨cs,rfl,a,b,_,rfl,h1,h2,c,d,_,rfl,h4,h5,rfl⟩:=r
  exact⟨_,⟨_,_,rfl,⟨⟨a,b,rfl,h1,h2⟩,hp⟩,⟨⟨c,d,rfl,h4,h5⟩,hq⟩⟩,rfl⟩
noncomputable def ofS(a b:Rat):Sp:=(bZ a b,tY a b)
noncomputable def hullS(a b:Sp):Sp:=(bZ a.1 b.1,tY a.2 b.2)
def yAX(a b:Sp):Sp:=(a.1+b.1,a.2+b.2)
def negS(a:Sp):Sp:=(-a.2,-a.1)
def subS(a b:Sp):Sp:=(a.1-b.2,a.2-b.1)
noncomputable def zQ6(a b:Sp):Sp:=(zVJ a.1 a.2 b.1 b.2,zVK a.1 a.2 b.1 b.2)
noncomputable def sqrS(a:Sp):Sp:=(zZL a.1 a.2,zZM a.1 a.2)
noncomputable def roundS(a:Sp)(n:Int):Sp:=(zVX a.1 n,upQ a.2 n)
noncomputable def quoS(a b:Sp):Sp:=(zZY a.1 a.2 b.1 b.2,zZZ a.1 a.2 b.1 b.2)
noncomputable def meetS(a b:Sp):Sp:=(if bZ a.2 b.2<tY a.1 b.1 then 0 else tY a.1 b.1,if bZ a.2 b.2<tY a.1 b.1 then 0 else bZ a.2 b.2)
noncomputable def rootS(a:Sp)(n:Int):Sp:=(zJM a.1 a.2 n,oC a.2 n)
noncomputable def yA0(s:Sp)(n:Int):Rat:=s.1+zZ3 n*(s.2-s.1)
noncomputable def ratQ(n d:Int):Rat:=wN (aU n 41-20) (aU d 8+1)
noncomputable def zVY(a b c d:Sp):Sp:=subS (zQ6 a d) (zQ6 b c)
noncomputable def zKS(m:T3 (T3 Sp))(i j:Nat):Sp:=zVY (m.y.at i) (m.y.at j) (m.z.at i) (m.z.at j)
noncomputable def det3S(m:T3 (T3 Sp)):Sp:=yAX (subS (zQ6 m.x.x (zKS m 1 2)) (zQ6 m.x.y (zKS m 0 2))) (zQ6 m.x.z (zKS m 0 1))
def okM(m:T3 (T3 Sp)):Prop:=∀i j,((m.at i).at j).1≤((m.at i).at j).2
noncomputable def det2L(m:List (List Sp)):Sp:=zVY ((m.getD 0 (List.replicate 2 ((0:Rat),(0:Rat)))).getD 0 ((0:Rat),(0:Rat))) ((m.getD 0 (List.replicate 2 ((0:Rat),(0:Rat)))).getD 1 ((0:Rat),(0:Rat))) ((m.getD 1 (List.replicate 2 ((0:Rat),(0:Rat)))).getD 0 ((0:Rat),(0:Rat))) ((m.getD 1 (List.replicate 2 ((0:Rat),(0:Rat)))).getD 1 ((0:Rat),(0:Rat)))
def detR(n:T3 (T3 Rat)):Rat:=n.x.x*n.y.y*n.z.z-n.x.x*n.y.z*n.z.y+(n.x.y*n.y.z*n.z.x-n.x.y*n.y.x*n.z.z)+(n.x.z*n.y.x*n.z.y-n.x.z*n.y.y*n.z.x)
end Bk
namespace Bk
set_option linter.unusedVariables false
set_option linter.unusedSimpArgs false
open Go Go.RowKit
open Classical
abbrev Pt:=T3 Rat
abbrev P2:=Rat×Rat
def pr(p:Pt)(i j:Nat):P2:=(p.at i,p.at j)
theorem zFO{c:Prop} [Decidable c](a b:Pt)(i j:Nat):pr (if c then a else b) i j=if c then pr a i j else pr b i j:=by split<;>rfl
def cr(u v w:P2):Rat:=(v.1-u.1)*(w.2-u.2)-(v.2-u.2)*(w.1-u.1)
noncomputable def orZ(u v w:P2):Int:=yX (cr u v w)
def tR(a b x:Rat):Prop:=(a≤x∧x≤b)∨(x≤a∧b≤x)
def onS(u v p:P2):Prop:=tR u.1 v.1 p.1∧tR u.2 v.2 p.2∧cr u v p=0
def jF(a b c d:Rat):Prop:=(a<c∧a<d∧b<c∧b<d)∨(c<a∧d<a∧c<b∧d<b)
def lx(u v:P2):Prop:=u.1<v.1∨(u.1=v.1∧u.2<v.2)
noncomputable def lo2(u v:P2):P2:=if lx v u then v else u
noncomputable def hi2(u v:P2):P2:=if lx v u then u else v
noncomputable def mM(a b c d:P2):Int:=
  if lx (if lx d b then d else b) (if lx a c then c else a) then 0 else if lx (if lx a c then c else a) (if lx d b then d else b) then 3
  else if((if lx a c then c else a)=a∨(if lx a c then c else a)=b)∧((if lx a c then c else a)=c∨(if lx a c then c else a)=d) then 1 else 2
noncomputable def bW(a b c d:P2):Int:=mM (lo2 a b) (hi2 a b) (lo2 c d) (hi2 c d)
noncomputable def gN(a b c d:P2):Int:=
  if jF a.1 b.1 c.1 d.1∨jF a.2 b.2 c.2 d.2 then 0
  else if orZ a b c=0∧orZ a b d=0∧orZ c d a=0∧orZ c d b=0 then bW a b c d
  else if 0<orZ a b c*orZ a b d∨0<orZ c d a*orZ c d b then 0
  else if(orZ a b c=0∨orZ a b d=0)∧(orZ c d a=0∨orZ c d b=0) then 1 else 2
noncomputable def zAX(a b c d:P2):Int:=
  if lx (if lx d b then d else b) (if lx a c then c else a) then 0 else if(if lx a c then c else a)≠(if lx d b then d else b) then 3
  else if((if lx a c then c else a)=a∨(if lx a c then c else a)=b)∧((if lx a c then c else a)=c∨(if lx a c then c else a)=d)∧onS a b (if lx a c then c else a)∧onS c d (if lx a c then c else a) then 1
  else if onS a b (if lx a c then c else a)∧onS c d (if lx a c then c else a) then 2 else 0
noncomputable def eC(a b c d:P2):Int:=if(a=b∧onS c d a)∨(c=d∧onS a b c) then 2 else 0
noncomputable def zFE(a b c d:P2):Int:=
  if orZ a b c=0∧orZ a b d=0∧orZ c d a=0∧orZ c d b=0 then zAX a b c d
  else if a=b∨c=d then eC a b c d
  else if 0<orZ a b c*orZ a b d∨0<orZ c d a*orZ c d b then 0
  else if a=c∨a=d∨b=c∨b=d then 1 else 2
noncomputable def nH(a b c d:P2):Int:=zFE (lo2 a b) (hi2 a b) (lo2 c d) (hi2 c d)
def cr2(ax ay bx by' cx cy:Rat):Rat:=(bx-ax)*(cy-ay)-(by'-ay)*(cx-ax)
theorem zFQ{D e u v:Rat}(hD:0<D)(h0:0≤e)(h1:e≤D)(h:D*u=v*e):(0≤v→0≤u∧u≤v)∧(v≤0→v≤u∧u≤0):=by
  constructor
  · intro hv
    constructor
    · refine Rat.not_lt.1 fun hu=>?_
      have h2:=Rat.mul_lt_mul_of_pos_right hu hD
      have h3:=Rat.mul_nonneg hv h0
      grind
    · refine Rat.not_lt.1 fun hu=>?_
      have h2:=Rat.mul_lt_mul_of_pos_right hu hD
      have h3:=Rat.mul_le_mul_of_nonneg_right h1 hv
      grind
  · intro hv
    constructor
    · refine Rat.not_lt.1 fun hu=>?_
      have h2:=Rat.mul_lt_mul_of_pos_right hu hD
      have h3:=Rat.mul_le_mul_of_nonneg_right h1 (c:=-v) (by grind)
      grind
    · refine Rat.not_lt.1 fun hu=>?_
      have h2:=Rat.mul_lt_mul_of_pos_right hu hD
      have h3:=Rat.mul_nonneg (a:=-v) (b:=e) (by grind) h0
      grind
theorem zIG{a b:Rat}(h:a≤b):a<b∨a=b:=by grind
theorem fW{a b:Rat}(h:a*b=0):a=0∨b=0:=Rat.mul_eq_zero.1 h
def lex(ax ay bx by':Rat):Prop:=ax<bx∨(ax=bx∧ay<by')
theorem zGA{ax ay bx by':Rat}:¬lex bx by' ax ay↔ax<bx∨(ax=bx∧ay≤by'):=by
  unfold lex
  grind
theorem s3{ax ay bx by' px py:Rat}(hs:¬lex bx by' ax ay)(hc:cr2 ax ay bx by' px py=0):
    (¬lex px py ax ay∧¬lex bx by' px py)↔(tR ax bx px∧tR ay by' py):=by
  rw[zGA] at hs
  rw[zGA,zGA]
  unfold cr2 at hc
  unfold tR
  rcases hs with hs|⟨hx,hy⟩
  · have hD:0<bx-ax:=by grind
    have he:(bx-ax)*(py-ay)=(by'-ay)*(px-ax):=by grind
    constructor
    · rintro⟨h1,h2⟩
      have h3:0≤px-ax:=by grind
      have h4:px-ax≤bx-ax:=by grind
      obtain⟨h5,h6⟩:=zFQ hD h3 h4 he
      refine⟨.inl ⟨by grind,by grind⟩,?_⟩
      rcases zKZ ay by' with h7|h7
      · have:=h5 (by grind);grind
      · have:=h6 (by grind);grind
    · rintro⟨h1,h2⟩
      have h3:ax≤px∧px≤bx:=by grind
      constructor
      · rcases zIG h3.1 with h4|h4
        · exact .inl h4
        · refine .inr ⟨h4,?_⟩
          have h5:(bx-ax)*(py-ay)=0:=by grind
          rcases fW h5 with h6|h6<;>grind
      · rcases zIG h3.2 with h4|h4
        · exact .inl h4
        · refine .inr ⟨h4,?_⟩
          have h5:(bx-ax)*(py-by')=0:=by grind
          rcases fW h5 with h6|h6<;>grind
  · subst hx
    grind
theorem zDH{a b x:Rat}:tR a b x↔tR b a x:=by unfold tR;grind
theorem zIS(ax ay bx by' cx cy:Rat):cr2 bx by' ax ay cx cy= -cr2 ax ay bx by' cx cy:=by unfold cr2;grind
theorem zXM{ax ay bx by' px py:Rat}:(cr2 ax ay bx by' px py=0∧(if lex bx by' ax ay then ¬lex px py bx by'∧¬lex ax ay px py else ¬lex px py ax ay∧¬lex bx by' px py))↔(tR ax bx px∧tR ay by' py∧cr2 ax ay bx by' px py=0):=by
  by_cases hc:cr2 ax ay bx by' px py=0
  · simp only[hc,true_and,and_true]
    by_cases hl:lex bx by' ax ay
    · rw[if_pos hl]
      have h1:¬lex ax ay bx by':=by unfold lex at *;grind
      have h2:cr2 bx by' ax ay px py=0:=by rw[zIS,hc];grind
      rw[s3 h1 h2,zDH,zDH (a:=by')]
    · rw[if_neg hl]
      exact s3 hl hc
  · simp[hc]
theorem zE2{ux uy vx vy wx wy:Rat}(h:ux≠0∨uy≠0)(h1:vx*uy=vy*ux)(h2:wx*uy=wy*ux):vx*wy=vy*wx:=by
  rcases h with h|h
  · have e:ux*(vx*wy-vy*wx)=0:=by grind
    rcases fW e with h3|h3
    · exact absurd h3 h
    · grind
  · have e:uy*(vx*wy-vy*wx)=0:=by grind
    rcases fW e with h3|h3
    · exact absurd h3 h
    · grind
theorem zOJ{ax ay bx by' cx cy dx dy:Rat}(hp:cr2 ax ay bx by' cx cy=0)(hr:cr2 cx cy dx dy ax ay=0):
    (ax=cx∧ay=cy)∨(cr2 ax ay bx by' dx dy=0∧cr2 cx cy dx dy bx by'=0):=by
  by_cases h:ax=cx∧ay=cy
  · exact .inl h
  · refine .inr ?_
    have hu:cx-ax≠0∨cy-ay≠0:=by grind
    have h1:(bx-ax)*(cy-ay)=(by'-ay)*(cx-ax):=by unfold cr2 at hp;grind
    have h2:(dx-ax)*(cy-ay)=(dy-ay)*(cx-ax):=by unfold cr2 at hr;grind
    have h3:=zE2 hu h1 h2
    unfold cr2
    constructor<;>grind
theorem zIQ{ax ay bx by' cx cy dx dy:Rat}(hpq:cr2 ax ay bx by' cx cy≠cr2 ax ay bx by' dx dy)(h1:cr2 ax ay bx by' cx cy*cr2 ax ay bx by' dx dy≤0)(h2:cr2 cx cy dx dy ax ay*cr2 cx cy dx dy bx by'≤0)(hrs:cr2 cx cy dx dy ax ay≠cr2 cx cy dx dy bx by'):
    ∃x y,tR ax bx x∧tR ay by' y∧tR cx dx x∧tR cy dy y:=by
  obtain⟨p,ep⟩:∃p,p=cr2 ax ay bx by' cx cy:=⟨_,rfl⟩
  obtain⟨q,eq⟩:∃q,q=cr2 ax ay bx by' dx dy:=⟨_,rfl⟩
  obtain⟨r,er⟩:∃r,r=cr2 cx cy dx dy ax ay:=⟨_,rfl⟩
  obtain⟨s,es⟩:∃s,s=cr2 cx cy dx dy bx by':=⟨_,rfl⟩
  rw[←ep,←eq] at hpq h1
  rw[←er,←es] at hrs h2
  have hw:∀{u v:Rat},u≠v→u*v≤0→0≤u/(u-v)∧u/(u-v)≤1:=by
    intro u v hne hle
    have h3:u-v≠0:=by grind
    have h4:0<(u-v)*(u-v):=by
      rcases s8 (u-v) 0 with h|h|h
      · have:=Rat.mul_pos (a:=-(u-v)) (b:=-(u-v)) (by grind) (by grind);grind
      · exact absurd h h3
      · exact Rat.mul_pos h h
    have e:u/(u-v)*((u-v)*(u-v))=u*(u-v):=by grind
    have h5:0≤u*u:=g8 u
    have h6:0≤v*v:=g8 v
    constructor
    · rw[bJ h4,e];grind
    · rw[bJ h4,e];grind
  obtain⟨t1,t2⟩:=hw hpq h1
  obtain⟨w1,w2⟩:=hw hrs h2
  have hb:∀{u v t:Rat},0≤t→t≤1→tR u v (u+t*(v-u)):=by
    intro u v t h3 h4
    unfold tR
    rcases zKZ u v with h5|h5
    · left
      have h6:=Rat.mul_nonneg h3 (show 0≤v-u by grind)
      have h7:=Rat.mul_le_mul_of_nonneg_right h4 (show 0≤v-u by grind)
      constructor<;>grind
    · right
      have h6:=Rat.mul_nonneg h3 (show 0≤u-v by grind)
      have h7:=Rat.mul_le_mul_of_nonneg_right h4 (show 0≤u-v by grind)
      constructor<;>grind
  have hpq':p-q≠0:=by grind
  have hrs':r-s≠0:=by grind
  have hsum:p-q= -(r-s):=by rw[ep,eq,er,es];unfold cr2;grind
  have ex:cx+p/(p-q)*(dx-cx)=ax+r/(r-s)*(bx-ax):=by
    have e1:(p-q)*(cx+p/(p-q)*(dx-cx))=(p-q)*(ax+r/(r-s)*(bx-ax)):=by
      have e2:(p-q)*(cx+p/(p-q)*(dx-cx))=(p-q)*cx+p*(dx-cx):=by grind
      have e3:(p-q)*(ax+r/(r-s)*(bx-ax))=(p-q)*ax-r*(bx-ax):=by grind
      rw[e2,e3,ep,eq,er]
      unfold cr2;grind
    have e4:(p-q)*((cx+p/(p-q)*(dx-cx))-(ax+r/(r-s)*(bx-ax)))=0:=by grind
    rcases fW e4 with h|h
    · exact absurd h hpq'
    · grind
  have ey:cy+p/(p-q)*(dy-cy)=ay+r/(r-s)*(by'-ay):=by
    have e1:(p-q)*(cy+p/(p-q)*(dy-cy))=(p-q)*(ay+r/(r-s)*(by'-ay)):=by
      have e2:(p-q)*(cy+p/(p-q)*(dy-cy))=(p-q)*cy+p*(dy-cy):=by grind
      have e3:(p-q)*(ay+r/(r-s)*(by'-ay))=(p-q)*ay-r*(by'-ay):=by grind
      rw[e2,e3,ep,eq,er]
      unfold cr2;grind
    have e4:(p-q)*((cy+p/(p-q)*(dy-cy))-(ay+r/(r-s)*(by'-ay)))=0:=by grind
    rcases fW e4 with h|h
    · exact absurd h hpq'
    · grind
  exact⟨_,_,ex▸hb w1 w2,ey▸hb w1 w2,hb t1 t2,hb t1 t2⟩
theorem rX{a b c d x:Rat}(h:jF a b c d)(h1:tR a b x)(h2:tR c d x):False:=by unfold jF tR at *;grind
theorem zV0(u v w:P2):cr u v w=cr2 u.1 u.2 v.1 v.2 w.1 w.2:=rfl
theorem w6{u v w:P2}:orZ u v w=0↔cr u v w=0:=uU
theorem tZ{u v:P2}:¬lx v u↔lx u v∨u=v:=by
  unfold lx
  rw[Prod.ext_iff]
  grind
theorem nT(u:P2):¬lx u u:=by unfold lx;grind
theorem rV{u v:P2}(h:lx u v):¬lx v u:=by unfold lx at *;grind
theorem u9{u v w:P2}(h:lx u v)(k:lx v w):lx u w:=by unfold lx at *;grind
theorem zT7{a b p:P2}:(orZ a b p=0∧(if lx b a then ¬lx p b∧¬lx a p else ¬lx p a∧¬lx b p))↔onS a b p:=by
  rw[w6]
  exact zXM
theorem nQ{a b p:P2}(hs:¬lx b a)(hc:cr a b p=0):(¬lx p a∧¬lx b p)↔onS a b p:=by
  have:=s3 hs hc
  unfold onS
  rw[←and_assoc,and_iff_left hc]
  exact this
theorem mH(a b c:P2):cr b a c= -cr a b c:=zIS _ _ _ _ _ _
theorem w5(a b c:P2):orZ b a c= -orZ a b c:=by
  unfold orZ
  rw[mH,cH,cH]
  grind
theorem aK(a c:P2):cr a a c=0:=by unfold cr;grind
theorem zGJ(a c:P2):cr a c c=0:=by unfold cr;grind
theorem eT(a c:P2):cr a c a=0:=by unfold cr;grind
theorem zAZ{a b c d:Rat}:jF b a c d↔jF a b c d:=by unfold jF;grind
theorem g3{a b c d:Rat}:jF a b d c↔jF a b c d:=by unfold jF;grind
theorem zIC(a b:P2):lo2 a b=lo2 b a:=by
  unfold lo2
  by_cases h:lx b a
  · rw[if_pos h,if_neg (rV h)]
  · rw[if_neg h]
    rcases tZ.1 h with h1|h1
    · rw[if_pos h1]
    · rw[h1,if_neg (nT _)]
theorem zII(a b:P2):hi2 a b=hi2 b a:=by
  unfold hi2
  by_cases h:lx b a
  · rw[if_pos h,if_neg (rV h)]
  · rw[if_neg h]
    rcases tZ.1 h with h1|h1
    · rw[if_pos h1]
    · rw[h1,if_neg (nT _)]
theorem zAQ(a b c d:P2):gN b a c d=gN a b c d:=by
  have e:bW b a c d=bW a b c d:=by unfold bW;rw[zIC b a,zII b a]
  unfold gN
  rw[e,zAZ,zAZ (a:=a.2),w5 a b c,w5 a b d]
  have h1:-orZ a b c*-orZ a b d=orZ a b c*orZ a b d:=by grind
  have h2:orZ c d b*orZ c d a=orZ c d a*orZ c d b:=Int.mul_comm _ _
  rw[h1,h2]
  have h3:(-orZ a b c=0∧-orZ a b d=0∧orZ c d b=0∧orZ c d a=0)↔(orZ a b c=0∧orZ a b d=0∧orZ c d a=0∧orZ c d b=0):=by grind
  have h4:((-orZ a b c=0∨-orZ a b d=0)∧(orZ c d b=0∨orZ c d a=0))↔((orZ a b c=0∨orZ a b d=0)∧(orZ c d a=0∨orZ c d b=0)):=by grind
  simp only[h3,h4]
theorem zAP(a b c d:P2):gN a b d c=gN a b c d:=by
  have e:bW a b d c=bW a b c d:=by unfold bW;rw[zIC d c,zII d c]
  unfold gN
  rw[e,g3,g3 (a:=a.2),w5 c d a,w5 c d b]
  have h1:-orZ c d a*-orZ c d b=orZ c d a*orZ c d b:=by grind
  have h2:orZ a b d*orZ a b c=orZ a b c*orZ a b d:=Int.mul_comm _ _
  rw[h1,h2]
  have h3:(orZ a b d=0∧orZ a b c=0∧-orZ c d a=0∧-orZ c d b=0)↔(orZ a b c=0∧orZ a b d=0∧orZ c d a=0∧orZ c d b=0):=by grind
  have h4:((orZ a b d=0∨orZ a b c=0)∧(-orZ c d a=0∨-orZ c d b=0))↔((orZ a b c=0∨orZ a b d=0)∧(orZ c d a=0∨orZ c d b=0)):=by grind
  simp only[h3,h4]
theorem zFD(a b c d:P2):gN a b c d=gN (lo2 a b) (hi2 a b) (lo2 c d) (hi2 c d):=by
  unfold lo2 hi2
  split
  · split
    · rw[zAQ,zAP]
    · rw[zAQ]
  · split
    · rw[zAP]
    · rfl
theorem zMF(a b:P2):¬lx (hi2 a b) (lo2 a b):=by
  unfold lo2 hi2
  split
  · rename_i h;exact rV h
  · rename_i h;exact h
theorem nW{a b:P2}(h:¬lx b a):lo2 a b=a∧hi2 a b=b:=⟨if_neg h,if_neg h⟩
theorem zKX{a b c d:P2}(hab:¬lx b a)(hcd:¬lx d c)(h1:cr a b c=0)(h2:cr a b d=0)(h3:cr c d a=0)(h4:cr c d b=0)(hap:jF a.1 b.1 c.1 d.1∨jF a.2 b.2 c.2 d.2):lx b c∨lx d a:=by
  rcases hap with hap|hap
  · unfold jF at hap
    unfold lx
    grind
  · -- the order along the line is that of the second coordinate, or its reverse
    rw[tZ] at hab hcd
    refine Classical.byContradiction fun hn=>?_
    have n1:¬lx b c:=fun e=>hn (.inl e)
    have n2:¬lx d a:=fun e=>hn (.inr e)
    rw[tZ] at n1 n2
    -- c ≤ b and a ≤ d in the order of the line: the segments share a point
    have ho1:onS a b c∨onS c d a:=by
      by_cases e:lx c a
      · right
        refine(nQ (tZ.2 hcd) h3).1 ⟨?_,?_⟩
        · exact rV e
        · exact tZ.2 n2
      · left
        refine(nQ (tZ.2 hab) h1).1 ⟨e,tZ.2 n1⟩
    rcases ho1 with⟨_,hb,_⟩|⟨_,hb,_⟩
    · exact rX hap hb (by unfold tR;grind)
    · exact rX hap (x:=a.2) (by unfold tR;grind) hb
theorem zUO{a b c d:P2}(hab:¬lx b a)(hcd:¬lx d c)(h1:cr a b c=0)(h2:cr a b d=0)(h3:cr c d a=0)(h4:cr c d b=0):zAX a b c d=mM a b c d:=by
  unfold zAX mM
  by_cases hh:lx (if lx d b then d else b) (if lx a c then c else a)
  · rw[if_pos hh,if_pos hh]
  · rw[if_neg hh,if_neg hh]
    by_cases he:(if lx a c then c else a)=(if lx d b then d else b)
    · rw[if_neg (fun e=>e he),if_neg (show ¬lx (if lx a c then c else a) (if lx d b then d else b) by rw[he];exact nT _)]
      have ho:onS a b (if lx a c then c else a)∧onS c d (if lx a c then c else a):=by
        have k1:¬lx (if lx a c then c else a) a:=by
          split
          · rename_i h;exact rV h
          · exact nT _
        have k2:¬lx (if lx a c then c else a) c:=by
          split
          · exact nT _
          · rename_i h;exact h
        have k3:¬lx b (if lx a c then c else a):=by
          rw[he]
          split
          · rename_i h;exact rV h
          · exact nT _
        have k4:¬lx d (if lx a c then c else a):=by
          rw[he]
          split
          · exact nT _
          · rename_i h;exact h
        have k5:cr a b (if lx a c then c else a)=0:=by
          split
          · exact h1
          · exact eT a b
        have k6:cr c d (if lx a c then c else a)=0:=by
          split
          · exact eT c d
          · exact h3
        exact⟨(nQ hab k5).1 ⟨k1,k3⟩,(nQ hcd k6).1 ⟨k2,k4⟩⟩
      by_cases hx:((if lx a c then c else a)=a∨(if lx a c then c else a)=b)∧((if lx a c then c else a)=c∨(if lx a c then c else a)=d)
      · rw[if_pos ⟨hx.1,hx.2,ho⟩,if_pos hx]
      · rw[if_neg (fun e=>hx ⟨e.1,e.2.1⟩),if_pos ho,if_neg hx]
    · rw[if_pos he,if_pos ((tZ.1 hh).resolve_right he)]
theorem zGZ{x y:Rat}:0<yX x*yX y↔0<x*y:=by
  have h1:=cH x
  have h2:=cH y
  rcases s8 x 0 with hx|hx|hx<;>rcases s8 y 0 with hy|hy|hy
  · have:=Rat.mul_pos (a:=-x) (b:=-y) (by grind) (by grind)
    have e1:yX x= -1:=by grind
    have e2:yX y= -1:=by grind
    rw[e1,e2];grind
  · subst hy;have e:x*0=0:=by grind
    have e2:yX 0=0:=by grind
    rw[e,e2];simp
  · have:=Rat.mul_pos (a:=-x) (b:=y) (by grind) hy
    have e1:yX x= -1:=by grind
    have e2:yX y=1:=by grind
    rw[e1,e2];grind
  · subst hx;have e:0*y=0:=by grind
    have e2:yX 0=0:=by grind
    rw[e,e2];simp
  · subst hx;have e:0*y=0:=by grind
    have e2:yX 0=0:=by grind
    rw[e,e2];simp
  · subst hx;have e:0*y=0:=by grind
    have e2:yX 0=0:=by grind
    rw[e,e2];simp
  · have:=Rat.mul_pos (a:=x) (b:=-y) hx (by grind)
    have e1:yX x=1:=by grind
    have e2:yX y= -1:=by grind
    rw[e1,e2];grind
  · subst hy;have e:x*0=0:=by grind
    have e2:yX 0=0:=by grind
    rw[e,e2];simp
  · have:=Rat.mul_pos hx hy
    have e1:yX x=1:=by grind
    have e2:yX y=1:=by grind
    rw[e1,e2];grind
theorem nO{a b c d e f:P2}:0<orZ a b c*orZ d e f↔0<cr a b c*cr d e f:=zGZ
theorem zMN{a b c d:P2}(hn:¬(cr a b c=0∧cr a b d=0∧cr c d a=0∧cr c d b=0)):((cr a b c=0∨cr a b d=0)∧(cr c d a=0∨cr c d b=0))↔(a=c∨a=d∨b=c∨b=d):=by
  have sw:∀u v w:P2,cr u v w= -cr v u w:=fun u v w=>mH v u w
  constructor
  · rintro⟨h1,h2⟩
    -- one end of each
    have key:∀{p q r s:P2},cr p q r=0→cr r s p=0→p=r∨(cr p q s=0∧cr r s q=0):=by
      intro p q r s k1 k2
      rcases zOJ k1 k2 with h|h
      · exact .inl (Prod.ext h.1 h.2)
      · exact .inr h
    rcases h1 with h1|h1<;>rcases h2 with h2|h2
    · rcases key h1 h2 with h|h
      · exact .inl h
      · exact absurd ⟨h1,h.1,h2,h.2⟩ hn
    · rcases key (p:=b) (q:=a) (r:=c) (s:=d) (by rw[mH,h1];grind) h2 with h|h
      · exact .inr (.inr (.inl h))
      · exact absurd ⟨h1,by rw[sw,h.1];grind,h.2,h2⟩ hn
    · rcases key (p:=a) (q:=b) (r:=d) (s:=c) h1 (by rw[mH,h2];grind) with h|h
      · exact .inr (.inl h)
      · exact absurd ⟨h.1,h1,h2,by rw[sw,h.2];grind⟩ hn
    · rcases key (p:=b) (q:=a) (r:=d) (s:=c) (by rw[mH,h1];grind) (by rw[mH,h2];grind) with h|h
      · exact .inr (.inr (.inr h))
      · exact absurd ⟨by rw[sw,h.1];grind,h1,by rw[sw,h.2];grind,h2⟩ hn
  · rintro(h|h|h|h)
    · subst h;exact⟨.inl (eT a b),.inl (eT a d)⟩
    · subst h;exact⟨.inr (eT a b),.inl (zGJ c a)⟩
    · subst h;exact⟨.inl (zGJ a b),.inr (eT b d)⟩
    · subst h;exact⟨.inr (zGJ a b),.inr (zGJ c b)⟩
theorem zS8{a b c d:P2}(hab:¬lx b a)(hcd:¬lx d c):gN a b c d=zFE a b c d:=by
  unfold gN zFE
  simp only[w6]
  by_cases hz:cr a b c=0∧cr a b d=0∧cr c d a=0∧cr c d b=0
  · obtain⟨h1,h2,h3,h4⟩:=hz
    rw[if_pos (show cr a b c=0∧cr a b d=0∧cr c d a=0∧cr c d b=0 from⟨h1,h2,h3,h4⟩),if_pos (show cr a b c=0∧cr a b d=0∧cr c d a=0∧cr c d b=0 from⟨h1,h2,h3,h4⟩),zUO hab hcd h1 h2 h3 h4]
    unfold bW
    rw[(nW hab).1,(nW hab).2,(nW hcd).1,(nW hcd).2]
    by_cases hap:jF a.1 b.1 c.1 d.1∨jF a.2 b.2 c.2 d.2
    · rw[if_pos hap]
      have hl:=zKX hab hcd h1 h2 h3 h4 hap
      unfold mM
      rw[if_pos]
      rcases hl with hl|hl
      · have e1:lx a c:=by
          rcases tZ.1 hab with e|e
          · exact u9 e hl
          · rw[e];exact hl
        have e2:¬lx d b:=by
          refine rV ?_
          rcases tZ.1 hcd with e|e
          · exact u9 hl e
          · rw[←e];exact hl
        rw[if_neg e2,if_pos e1];exact hl
      · have e1:¬lx a c:=by
          refine rV ?_
          rcases tZ.1 hcd with e|e
          · exact u9 e hl
          · rw[e];exact hl
        have e2:lx d b:=by
          rcases tZ.1 hab with e|e
          · exact u9 hl e
          · rw[←e];exact hl
        rw[if_pos e2,if_neg e1];exact hl
    · rw[if_neg hap]
  · rw[if_neg hz,if_neg hz]
    by_cases hd:a=b∨c=d
    · rw[if_pos hd]
      have e0:eC a b c d=0:=by
        unfold eC
        rw[if_neg]
        rintro(⟨e,h⟩|⟨e,h⟩)
        · subst e
          exact hz ⟨aK _ _,aK _ _,h.2.2,h.2.2⟩
        · subst e
          exact hz ⟨h.2.2,h.2.2,aK _ _,aK _ _⟩
      rw[e0]
      by_cases hap:jF a.1 b.1 c.1 d.1∨jF a.2 b.2 c.2 d.2
      · rw[if_pos hap]
      · rw[if_neg hap,if_pos]
        rw[nO,nO]
        have sqp:∀x:Rat,x≠0→0<x*x:=by
          intro x hx
          rcases s8 x 0 with h|h|h
          · have:=Rat.mul_pos (a:=-x) (b:=-x) (by grind) (by grind);grind
          · exact absurd h hx
          · exact Rat.mul_pos h h
        rcases hd with e|e
        · subst e
          right
          refine sqp _ fun h=>?_
          exact hz ⟨aK _ _,aK _ _,h,h⟩
        · subst e
          left
          refine sqp _ fun h=>?_
          exact hz ⟨h,h,aK _ _,aK _ _⟩
    · rw[if_neg hd]
      by_cases hs:0<orZ a b c*orZ a b d∨0<orZ c d a*orZ c d b
      · rw[if_pos hs,if_pos hs]
        split<;>rfl
      · rw[if_neg hs,if_neg hs]
        rw[nO,nO] at hs
        have hs1:cr a b c*cr a b d≤0:=Rat.not_lt.1 fun e=>hs (.inl e)
        have hs2:cr c d a*cr c d b≤0:=Rat.not_lt.1 fun e=>hs (.inr e)
        have hnap:¬(jF a.1 b.1 c.1 d.1∨jF a.2 b.2 c.2 d.2):=by
          intro hap
          have par:∀{p q r s:P2},p≠q→cr p q r=0→cr p q s=0→cr r s p=0∧cr r s q=0:=by
            intro p q r s hne k1 k2
            have hu:q.1-p.1≠0∨q.2-p.2≠0:=by
              refine Classical.byContradiction fun e=>hne (Prod.ext ?_ ?_)<;>grind
            have k3:(r.1-p.1)*(q.2-p.2)=(r.2-p.2)*(q.1-p.1):=by unfold cr at k1;grind
            have k4:(s.1-p.1)*(q.2-p.2)=(s.2-p.2)*(q.1-p.1):=by unfold cr at k2;grind
            have k5:=zE2 hu k3 k4
            unfold cr
            constructor<;>grind
          have hsum:cr a b c-cr a b d= -(cr c d a-cr c d b):=by unfold cr;grind
          have hpq:cr a b c≠cr a b d:=by
            intro e
            rw[e] at hs1
            have h5:=g8 (cr a b d)
            have h6:cr a b d*cr a b d=0:=by grind
            have h7:cr a b d=0:=by rcases fW h6 with h|h<;>exact h
            obtain⟨h8,h9⟩:=par (fun e=>hd (.inl e)) (by rw[e];exact h7) h7
            exact hz ⟨by rw[e];exact h7,h7,h8,h9⟩
          obtain⟨x,y,k1,k2,k3,k4⟩:=zIQ (ax:=a.1) (ay:=a.2) (bx:=b.1) (by':=b.2) (cx:=c.1) (cy:=c.2) (dx:=d.1) (dy:=d.2) hpq hs1 hs2 (by intro e;apply hpq;rw[zV0 c d a,zV0 c d b,e] at hsum;grind)
          rcases hap with h|h
          · exact rX h k1 k3
          · exact rX h k2 k4
        rw[if_neg hnap]
        by_cases he:(cr a b c=0∨cr a b d=0)∧(cr c d a=0∨cr c d b=0)
        · rw[if_pos he,if_pos ((zMN hz).1 he)]
        · rw[if_neg he,if_neg (fun e=>he ((zMN hz).2 e))]
theorem zGS(a b c d:P2):gN a b c d=nH a b c d:=by
  rw[zFD]
  unfold nH
  exact zS8 (zMF a b) (zMF c d)
theorem zBW(a b c d:P2):gN c d a b=gN a b c d:=by
  have hal:∀(a b c d:P2),¬lx b a→¬lx d c→mM c d a b=mM a b c d:=by
    intro a b c d _ _
    unfold mM
    have e1:(if lx c a then a else c)=(if lx a c then c else a):=by
      by_cases h:lx a c
      · rw[if_pos h,if_neg (rV h)]
      · rw[if_neg h]
        rcases tZ.1 h with h1|h1
        · rw[if_pos h1]
        · rw[h1,if_neg (nT _)]
    have e2:(if lx b d then b else d)=(if lx d b then d else b):=by
      by_cases h:lx d b
      · rw[if_pos h,if_neg (rV h)]
      · rw[if_neg h]
        rcases tZ.1 h with h1|h1
        · rw[if_pos h1]
        · rw[h1,if_neg (nT _)]
    rw[e1,e2]
    simp only[and_comm]
  have hap:∀{a b c d:Rat},jF c d a b↔jF a b c d:=by intro a b c d;unfold jF;grind
  unfold gN
  have e:bW c d a b=bW a b c d:=hal _ _ _ _ (zMF a b) (zMF c d)
  rw[e,hap (a:=a.1) (b:=b.1) (c:=c.1) (d:=d.1),hap (a:=a.2) (b:=b.2) (c:=c.2) (d:=d.2)]
  have h3:(orZ c d a=0∧orZ c d b=0∧orZ a b c=0∧orZ a b d=0)↔(orZ a b c=0∧orZ a b d=0∧orZ c d a=0∧orZ c d b=0):=by grind
  have h4:(0<orZ c d a*orZ c d b∨0<orZ a b c*orZ a b d)↔(0<orZ a b c*orZ a b d∨0<orZ c d a*orZ c d b):=or_comm
  have h5:((orZ c d a=0∨orZ c d b=0)∧(orZ a b c=0∨orZ a b d=0))↔((orZ a b c=0∨orZ a b d=0)∧(orZ c d a=0∨orZ c d b=0)):=and_comm
  simp only[h3,h4,h5]
end Bk
namespace Bk
set_option linter.unusedVariables false
set_option linter.unusedSimpArgs false
open Go Go.RowKit
open Classical
def smZ(q:Rat):Int:=if q.den≠1∨1<(zB q.num.natAbs).length then 0 else q.num
def smB(q:Rat):Prop:=q.den=1∧q.num.natAbs<268435456
def zZS(n:Int):Int:=if 0<n then 1 else if n<0 then -1 else 0
theorem zPL(n:Int):yX (n:Rat)=zZS n:=by
  rw[cH]
  unfold zZS
  have h0:((n:Rat)=0)↔n=0:=by
    have e:(0:Rat)=((0:Int):Rat):=rfl
    rw[e,Rat.intCast_inj]
  have h1:((n:Rat)<0)↔n<0:=by
    have e:(0:Rat)=((0:Int):Rat):=rfl
    rw[e,Rat.intCast_lt_intCast]
  simp only[h0,h1]
  split
  · rename_i h;subst h;simp
  · split
    · rw[if_neg (by omega)]
    · rw[if_pos (by omega)]
theorem tK(a b c:P2):-1≤orZ a b c∧orZ a b c≤1:=xM _
theorem zQD{a b:Pt}{i j:Nat}:pr a i j=pr b i j↔a.at i=b.at i∧a.at j=b.at j:=by unfold pr;rw[Prod.ext_iff]
theorem zIF{a b:Pt}{i j:Nat}:(wB (a.at i) (b.at i)<0∨(wB (a.at i) (b.at i)=0∧wB (a.at j) (b.at j)<0))↔lx (pr a i j) (pr b i j):=by
  rw[pQ,cX,pQ];rfl
noncomputable def loT(a b:Pt)(i j:Nat):Pt:=if lx (pr b i j) (pr a i j) then b else a
noncomputable def hiT(a b:Pt)(i j:Nat):Pt:=if lx (pr b i j) (pr a i j) then a else b
noncomputable def mxT(a c:Pt)(i j:Nat):Pt:=if lx (pr a i j) (pr c i j) then c else a
noncomputable def mnT(b d:Pt)(i j:Nat):Pt:=if lx (pr d i j) (pr b i j) then d else b
end Bk
namespace Bk
set_option linter.unusedVariables false
set_option linter.unusedSimpArgs false
open Go Go.RowKit
open Classical
def gp(l:List Pt)(m:Nat):Pt:=l.getD m (T3.mk (0:Rat) 0 0)
def uZ(l:List Pt)(i j:Nat):Nat→Rat
  |0=>0
  |m+1=>uZ l i j m+((gp l m).at i*(gp l ((m+1)%l.length)).at j-(gp l ((m+1)%l.length)).at i*(gp l m).at j)
theorem zS7(a b c:Pt):yX (uZ [a,b,c] 0 1 3)=orZ (pr a 0 1) (pr b 0 1) (pr c 0 1):=by
  have:uZ [a,b,c] 0 1 3=cr (pr a 0 1) (pr b 0 1) (pr c 0 1):=by
    simp[uZ,gp,pr,cr,T3.at]
    grind
  unfold orZ
  rw[this]
def zAG(a b p:P2):Prop:=¬(a.2≤p.2↔b.2≤p.2)∧((a.2≤p.2∧0<orZ a b p)∨(b.2≤p.2∧orZ a b p<0))
def gM(l:List Pt)(i j m:Nat):P2:=pr (gp l m) i j
def gL(l:List Pt)(i j m:Nat):P2:=pr (gp l ((m+1)%l.length)) i j
def lO(l:List Pt)(p:P2)(i j:Nat):Nat→Prop
  |0=>False
  |m+1=>(zAG (gM l i j m) (gL l i j m) p∧¬lO l p i j m)∨(¬zAG (gM l i j m) (gL l i j m) p∧lO l p i j m)
noncomputable def zA8(l:List Pt)(p:P2)(i j:Nat):Int:=
  if ∃m,m<l.length∧onS (gM l i j m) (gL l i j m) p then 0 else if lO l p i j l.length then 1 else -1
theorem zX7{l:List Pt}{p:P2}{i j m:Nat}(hm:m<l.length)(h:onS (gM l i j m) (gL l i j m) p):0=zA8 l p i j:=(if_pos ⟨m,hm,h⟩).symm
theorem zX8{l:List Pt}{p:P2}{i j n:Nat}(hn:¬n<l.length)(hn2:n≤l.length)(h:∀q,q<n→¬onS (gM l i j q) (gL l i j q) p)(ho:lO l p i j n):1=zA8 l p i j:=by
  have e:n=l.length:=by omega
  subst e
  unfold zA8
  rw[if_neg (fun⟨m,hm,hq⟩=>h m hm hq),if_pos ho]
theorem zUS{l:List Pt}{p:P2}{i j n:Nat}(hn:¬n<l.length)(hn2:n≤l.length)(h:∀q,q<n→¬onS (gM l i j q) (gL l i j q) p)(ho:¬lO l p i j n):-1=zA8 l p i j:=by
  have e:n=l.length:=by omega
  subst e
  unfold zA8
  rw[if_neg (fun⟨m,hm,hq⟩=>h m hm hq),if_neg ho]
theorem zLZ{l:List Pt}{p:P2}{i j n:Nat}(h:∀q,q<n→¬onS (gM l i j q) (gL l i j q) p)(h1:¬onS (gM l i j n) (gL l i j n) p):∀q,q<n+1→¬onS (gM l i j q) (gL l i j q) p:=fun q hq=>by
  rcases Nat.lt_succ_iff_lt_or_eq.1 hq with h2|h2
  · exact h q h2
  · subst h2;exact h1
theorem zX5{a b:Pt}(h:¬wB a.x b.x=0):wB a.x b.x<0↔lx (pr a 0 1) (pr b 0 1):=by
  have h2:=zIF (a:=a) (b:=b) (i:=0) (j:=1)
  rw[←h2]
  exact⟨.inl,fun e=>e.elim id fun e=>absurd e.1 h⟩
theorem zX4{a b:Pt}(h:¬¬wB a.x b.x=0):wB a.y b.y<0↔lx (pr a 0 1) (pr b 0 1):=by
  have h1:=Classical.not_not.1 h
  have h2:=zIF (a:=a) (b:=b) (i:=0) (j:=1)
  rw[←h2]
  exact⟨fun e=>.inr ⟨h1,e⟩,fun e=>e.elim (fun e=>absurd h1 (by have:wB a.x b.x<0:=e;omega)) fun e=>e.2⟩
theorem zJR(a b:Pt)(i j:Nat):pr (loT a b i j) i j=lo2 (pr a i j) (pr b i j):=zFO _ _ _ _
theorem zJS(a b:Pt)(i j:Nat):pr (hiT a b i j) i j=hi2 (pr a i j) (pr b i j):=zFO _ _ _ _
theorem zXN{a b p:Pt}{i j:Nat}:(orZ (pr (loT a b i j) i j) (pr (hiT a b i j) i j) (pr p i j)=0∧¬lx (pr p i j) (pr (loT a b i j) i j)∧¬lx (pr (hiT a b i j) i j) (pr p i j))↔onS (pr a i j) (pr b i j) (pr p i j):=by
  rw[zJR,zJS,←zT7,w6,w6]
  unfold lo2 hi2
  split
  · rw[mH]
    grind
  · exact Iff.rfl
noncomputable def zCY(a b c d lo hi:Pt):Int:=
  if lx (pr hi 0 1) (pr lo 0 1) then 0 else if ¬pr lo 0 1=pr hi 0 1 then 3
  else if(((pr lo 0 1=pr a 0 1∨pr lo 0 1=pr b 0 1)∧(pr lo 0 1=pr c 0 1∨pr lo 0 1=pr d 0 1))∧onS (pr a 0 1) (pr b 0 1) (pr lo 0 1))∧onS (pr c 0 1) (pr d 0 1) (pr lo 0 1) then 1
  else if onS (pr a 0 1) (pr b 0 1) (pr lo 0 1)∧onS (pr c 0 1) (pr d 0 1) (pr lo 0 1) then 2 else 0
theorem zCX{a b c d lo hi:Pt}(h1:lo=mxT a c 0 1)(h2:hi=mnT b d 0 1):zCY a b c d lo hi=zAX (pr a 0 1) (pr b 0 1) (pr c 0 1) (pr d 0 1):=by
  have e1:pr lo 0 1=if lx (pr a 0 1) (pr c 0 1) then pr c 0 1 else pr a 0 1:=by rw[h1];exact zFO _ _ _ _
  have e2:pr hi 0 1=if lx (pr d 0 1) (pr b 0 1) then pr d 0 1 else pr b 0 1:=by rw[h2];exact zFO _ _ _ _
  unfold zCY zAX
  rw[e1,e2]
  simp only[and_assoc,ne_eq]
noncomputable def iP(a b c d:Pt):Int:=
  if((orZ (pr a 0 1) (pr b 0 1) (pr c 0 1)=0∧orZ (pr a 0 1) (pr b 0 1) (pr d 0 1)=0)∧orZ (pr c 0 1) (pr d 0 1) (pr a 0 1)=0)∧orZ (pr c 0 1) (pr d 0 1) (pr b 0 1)=0 then zAX (pr a 0 1) (pr b 0 1) (pr c 0 1) (pr d 0 1)
  else if pr a 0 1=pr b 0 1∨pr c 0 1=pr d 0 1 then eC (pr a 0 1) (pr b 0 1) (pr c 0 1) (pr d 0 1)
  else if 0<orZ (pr a 0 1) (pr b 0 1) (pr c 0 1)*orZ (pr a 0 1) (pr b 0 1) (pr d 0 1)∨0<orZ (pr c 0 1) (pr d 0 1) (pr a 0 1)*orZ (pr c 0 1) (pr d 0 1) (pr b 0 1) then 0
  else if((pr a 0 1=pr c 0 1∨pr a 0 1=pr d 0 1)∨pr b 0 1=pr c 0 1)∨pr b 0 1=pr d 0 1 then 1 else 2
theorem dP{a b c d A B C D:Pt}(h1:A=loT (T3.mk a.x a.y 0) (T3.mk b.x b.y 0) 0 1)(h2:B=hiT (T3.mk a.x a.y 0) (T3.mk b.x b.y 0) 0 1)(h3:C=loT (T3.mk c.x c.y 0) (T3.mk d.x d.y 0) 0 1)(h4:D=hiT (T3.mk c.x c.y 0) (T3.mk d.x d.y 0) 0 1):
    iP A B C D=nH (pr a 0 1) (pr b 0 1) (pr c 0 1) (pr d 0 1):=by
  have e1:pr A 0 1=lo2 (pr a 0 1) (pr b 0 1):=by rw[h1];exact zJR _ _ _ _
  have e2:pr B 0 1=hi2 (pr a 0 1) (pr b 0 1):=by rw[h2];exact zJS _ _ _ _
  have e3:pr C 0 1=lo2 (pr c 0 1) (pr d 0 1):=by rw[h3];exact zJR _ _ _ _
  have e4:pr D 0 1=hi2 (pr c 0 1) (pr d 0 1):=by rw[h4];exact zJS _ _ _ _
  unfold iP nH zFE
  rw[e1,e2,e3,e4]
  simp only[and_assoc,or_assoc]
end Bk
namespace Bk
set_option linter.unusedVariables false
set_option linter.unusedSimpArgs false
open Classical
noncomputable def g4(a b:Pt):Pt:=if 0<wB a.y b.y then b else a
noncomputable def zA1(a b:Pt):Pt:=if 0<wB a.y b.y then a else b
theorem zC8(a b p:Pt):((wB (g4 a b).y p.y≤0∧wB p.y (zA1 a b).y<0)∧0<orZ (pr (g4 a b) 0 1) (pr (zA1 a b) 0 1) (pr p 0 1))↔zAG (pr a 0 1) (pr b 0 1) (pr p 0 1):=by
  unfold g4 zA1 zAG
  rw[rS,pQ]
  have e1:(pr a 0 1).2=a.y:=rfl
  have e2:(pr b 0 1).2=b.y:=rfl
  have e3:(pr p 0 1).2=p.y:=rfl
  rw[e1,e2,e3]
  by_cases h:0<wB a.y b.y
  · have h1:=oV.1 h
    rw[if_pos h,if_pos h,w5 (pr a 0 1) (pr b 0 1)]
    constructor
    · rintro⟨⟨h2,h3⟩,h4⟩
      exact⟨fun e=>by grind,.inr ⟨h2,by omega⟩⟩
    · rintro⟨h2,h3|h3⟩
      · exact absurd ⟨fun _=>by grind,fun _=>h3.1⟩ h2
      · exact⟨⟨h3.1,by grind⟩,by omega⟩
  · have h1:¬b.y<a.y:=fun e=>h (oV.2 e)
    rw[if_neg h,if_neg h]
    constructor
    · rintro⟨⟨h2,h3⟩,h4⟩
      exact⟨fun e=>by grind,.inl ⟨h2,h4⟩⟩
    · rintro⟨h2,h3|h3⟩
      · exact⟨⟨h3.1,by grind⟩,h3.2⟩
      · exact absurd ⟨fun _=>h3.1,fun _=>by grind⟩ h2
theorem zXO{l:List Pt}{p:P2}{i j n:Nat}(h:zAG (gM l i j n) (gL l i j n) p):(¬lO l p i j n)=lO l p i j (n+1):=by
  show _=(_∨_)
  simp[h]
theorem zT8{l:List Pt}{p:P2}{i j n:Nat}(h:¬zAG (gM l i j n) (gL l i j n) p):lO l p i j n=lO l p i j (n+1):=by
  show _=(_∨_)
  simp[h]
noncomputable def zWC(L:List (List Pt))(p:P2)(i j:Nat):Nat→Int
  |0=>-1
  |m+1=>if zA8 (L.getD m []) p i j=1 then -(zWC L p i j m) else zWC L p i j m
noncomputable def whZ(L:List (List Pt))(p:P2)(i j:Nat):Int:=if ∃m,m<L.length∧zA8 (L.getD m []) p i j=0 then 0 else zWC L p i j L.length
end Bk
namespace Bk
set_option linter.unusedVariables false
open Classical
def zLW(R:Nat→Nat→Prop)(n a:Nat):Prop:=∀p q,p<a→p<q→q<n→R p q
def rowTo(R:Nat→Nat→Prop)(a b:Nat):Prop:=∀q,a<q→q<b→R a q
def yAM(l:List Pt)(i j p q:Nat):Prop:=¬pr (gp l p) i j=pr (gp l q) i j
noncomputable def zD0(n p q:Nat):Int:=if q=p+1∨(p=0∧q+1=n) then 1 else 0
def okT(l:List Pt)(i j p q:Nat):Prop:=gN (gM l i j p) (gL l i j p) (gM l i j q) (gL l i j q)=zD0 l.length p q
def aO(l:List Pt)(i j:Nat):Prop:=3≤l.length∧zLW (yAM l i j) l.length l.length∧zLW (okT l i j) l.length l.length
theorem zWD{n p q:Nat}(h:q=p+1∨(p=0∧q+1=n)):(1:Int)=zD0 n p q:=(if_pos h).symm
theorem zWE{n p q:Nat}(h:¬(q=p+1∨(p=0∧q+1=n))):(0:Int)=zD0 n p q:=(if_neg h).symm
end Bk
namespace Bk
set_option linter.unusedVariables false
set_option linter.unusedSimpArgs false
open Classical
def k7(a b:List Pt)(i j p q:Nat):Prop:=1<gN (gM a i j p) (gL a i j p) (gM b i j q) (gL b i j q)
def fG(a b:List Pt)(i j:Nat):Prop:=∃p q,p<a.length∧q<b.length∧k7 a b i j p q
theorem zP1{Q:Nat→Nat→Prop}{p q n:Nat}(h:∀v,v<q→¬Q p v)(h1:¬Q p q):∀v,v<q+1→¬Q p v:=fun v hv=>by
  rcases Nat.lt_succ_iff_lt_or_eq.1 hv with h2|h2
  · exact h v h2
  · subst h2;exact h1
theorem qM{Q:Nat→Prop}{q:Nat}(h:∀v,v<q→Q v)(h1:Q q):∀v,v<q+1→Q v:=fun v hv=>by
  rcases Nat.lt_succ_iff_lt_or_eq.1 hv with h2|h2
  · exact h v h2
  · subst h2;exact h1
theorem zNL{Q:Nat→Nat→Prop}{p q n:Nat}(h:∀u v,u<p→v<n→¬Q u v)(h1:∀v,v<q→¬Q p v)(hq:n≤q):∀u v,u<p+1→v<n→¬Q u v:=fun u v hu hv=>by
  rcases Nat.lt_succ_iff_lt_or_eq.1 hu with h2|h2
  · exact h u v h2 hv
  · subst h2;exact h1 v (by omega)
theorem zO6{Q:Nat→Nat→Prop}{p q:Nat}(h:∀u v,v<p→u<v→¬Q u v)(h1:∀u,u<q→¬Q u p)(hq:p≤q):∀u v,v<p+1→u<v→¬Q u v:=fun u v hv hu=>by
  rcases Nat.lt_succ_iff_lt_or_eq.1 hv with h2|h2
  · exact h u v h2 hu
  · subst h2;exact h1 u (by omega)
noncomputable def zUH(u v:P2):P2:=(zA6 u.1 v.1,zA6 u.2 v.2)
noncomputable def pS(c l:List Pt)(i j:Nat):Nat→Int
  |0=>0
  |m+1=>if zA8 c (zUH (gM l i j m) (gL l i j m)) i j=1 then pS c l i j m+1 else pS c l i j m
theorem nF(c l:List Pt)(i j:Nat):∀m,0≤pS c l i j m∧pS c l i j m≤m
  |0=>by unfold pS;omega
  |m+1=>by
   have h:=nF c l i j m
   unfold pS
   split<;>omega
theorem zWA{c l:List Pt}{i j m:Nat}{p:P2}(hp:p=zUH (gM l i j m) (gL l i j m))(h:zA8 c p i j=1):pS c l i j m+1=pS c l i j (m+1):=by subst hp;exact(if_pos h).symm
theorem zWB{c l:List Pt}{i j m:Nat}{p:P2}(hp:p=zUH (gM l i j m) (gL l i j m))(h:¬zA8 c p i j=1):pS c l i j m=pS c l i j (m+1):=by subst hp;exact(if_neg h).symm
def arZ(l:List Pt)(i j:Nat):Rat:=uZ l i j l.length
noncomputable def wiZ(c l:List Pt)(i j:Nat):Int:=pS c l i j l.length
abbrev gl(L:List (List Pt))(m:Nat):List Pt:=L.getD m []
def betP(L:List (List Pt))(i j k m:Nat)(best:Int):Prop:=
  (0<yX (arZ (gl L m) i j)∧wiZ (gl L m) (gl L k) i j=↑(gl L k).length)∧(best<0∨wB (arZ (gl L m) i j) (arZ (gl L best.toNat) i j)<0)
noncomputable def sQ(L:List (List Pt))(i j k:Nat):Nat→Int
  |0=>-1
  |m+1=>if betP L i j k m (sQ L i j k m) then ↑m else sQ L i j k m
theorem s1(L:List (List Pt))(i j k:Nat):∀m,-1≤sQ L i j k m∧sQ L i j k m<m
  |0=>by unfold sQ;omega
  |m+1=>by
   have h:=s1 L i j k m
   unfold sQ
   split<;>omega
noncomputable def pZ(L:List (List Pt))(i j k:Nat):Int:=if 0<yX (arZ (gl L k) i j) then -1 else sQ L i j k L.length
def t0(L:List (List Pt))(i j a b:Nat):Prop:=((¬b=a∧0≤pZ L i j a)∧pZ L i j b=pZ L i j a)∧0<wiZ (gl L b) (gl L a) i j
def mQ(L:List (List Pt))(i j k:Nat):Prop:=¬0<yX (arZ (gl L k) i j)∧sQ L i j k L.length<0
noncomputable def vT(L:List (List Pt))(i j:Nat):Int:=
  if 16<L.length∨∃m,m<L.length∧64<(gl L m).length then 2
  else if ∃m,m<L.length∧¬aO (gl L m) i j then 8
  else if ∃a b,a<b∧b<L.length∧fG (gl L a) (gl L b) i j then 32
  else if(∃k,k<L.length∧mQ L i j k)∨∃a b,a<L.length∧b<L.length∧t0 L i j a b then 33 else 0
noncomputable def fV(L:List (List Pt))(i j:Nat):List Int:=if vT L i j=0 then(List.range L.length).map (pZ L i j) else[]
theorem zF6{L:List (List Pt)}{i j:Nat}(h:16<L.length∨∃m,m<L.length∧64<(gl L m).length):vT L i j=2∧fV L i j=[]:=by
  have e:vT L i j=2:=if_pos h
  exact⟨e,if_neg (by rw[e];decide)⟩
theorem zQ3{L:List (List Pt)}{i j:Nat}(h1:¬16<L.length)(h2:∀m,m<L.length→¬64<(gl L m).length)(h:∃m,m<L.length∧¬aO (gl L m) i j):vT L i j=8∧fV L i j=[]:=by
  have e:vT L i j=8:=by
    unfold vT
    rw[if_neg (by rintro(h|⟨m,hm,h⟩);exact h1 h;exact h2 m hm h),if_pos h]
  exact⟨e,if_neg (by rw[e];decide)⟩
theorem zL3{L:List (List Pt)}{i j:Nat}(h1:¬16<L.length)(h2:∀m,m<L.length→¬64<(gl L m).length)(h3:∀m,m<L.length→aO (gl L m) i j)(h:∃a b,a<b∧b<L.length∧fG (gl L a) (gl L b) i j):vT L i j=32∧fV L i j=[]:=by
  have e:vT L i j=32:=by
    unfold vT
    rw[if_neg (by rintro(h|⟨m,hm,h⟩);exact h1 h;exact h2 m hm h),if_neg (by rintro⟨m,hm,h⟩;exact h (h3 m hm)),if_pos h]
  exact⟨e,if_neg (by rw[e];decide)⟩
theorem zBJ{L:List (List Pt)}{i j:Nat}(h1:¬16<L.length)(h2:∀m,m<L.length→¬64<(gl L m).length)(h3:∀m,m<L.length→aO (gl L m) i j)(h4:∀a b,b<L.length→a<b→¬fG (gl L a) (gl L b) i j)
    (h:(∃k,k<L.length∧mQ L i j k)∨∃a b,a<L.length∧b<L.length∧t0 L i j a b):vT L i j=33∧fV L i j=[]:=by
  have e:vT L i j=33:=by
    unfold vT
    rw[if_neg (by rintro(h|⟨m,hm,h⟩);exact h1 h;exact h2 m hm h),if_neg (by rintro⟨m,hm,h⟩;exact h (h3 m hm)),if_neg (by rintro⟨a,b,ha,hb,h⟩;exact h4 a b hb ha h),if_pos h]
  exact⟨e,if_neg (by rw[e];decide)⟩
theorem zRI{O:List Int}{n:Nat}{f:Nat→Int}(hl:O.length=n)(h:∀q,q<n→O.getD q 0=f q):O=(List.range n).map f:=by
  refine List.ext_getElem (by simp[hl]) fun q h1 h2=>?_
  have h3:=h q (by omega)
  rw[List.getD_eq_getElem?_getD,List.getElem?_eq_getElem h1] at h3
  simp only[Option.getD_some] at h3
  simp[h3]
theorem zQ4{L:List (List Pt)}{i j:Nat}{O:List Int}(h1:¬16<L.length)(h2:∀m,m<L.length→¬64<(gl L m).length)(h3:∀m,m<L.length→aO (gl L m) i j)(h4:∀a b,b<L.length→a<b→¬fG (gl L a) (gl L b) i j)
    (h5:∀k,k<L.length→¬mQ L i j k)(h6:∀a b,a<L.length→b<L.length→¬t0 L i j a b)(hl:O.length=L.length)(hO:∀q,q<L.length→O.getD q 0=pZ L i j q):vT L i j=0∧fV L i j=O:=by
  have e:vT L i j=0:=by
    unfold vT
    rw[if_neg (by rintro(h|⟨m,hm,h⟩);exact h1 h;exact h2 m hm h),if_neg (by rintro⟨m,hm,h⟩;exact h (h3 m hm)),if_neg (by rintro⟨a,b,ha,hb,h⟩;exact h4 a b hb ha h),
      if_neg (by rintro(⟨k,hk,h⟩|⟨a,b,ha,hb,h⟩);exact h5 k hk h;exact h6 a b ha hb h)]
  exact⟨e,by unfold fV;rw[if_pos e];exact(zRI hl hO).symm⟩
end Bk
namespace Bk
set_option linter.unusedVariables false
set_option linter.unusedSimpArgs false
open Classical
open Go Go.RowKit
def cD:Rp (List Nat) where
  n:=1
  agg:=false
  R _ cs s:=cs=[.string (qB s)]∧ByB s
  len:=by rintro h cs s ⟨rfl,_⟩;rfl
  mono:=fun _ r=>r
  one:=by rintro h cs s ⟨rfl,_⟩;rfl
  cell:=fun _=>rfl
theorem bM{h:Mem}{s:List Nat}(hb:ByB s):cD.Is h (.string (qB s)) s:=⟨_,⟨rfl,hb⟩,rfl⟩
theorem jY{h:Mem}{v:Value}{s:List Nat}(r:cD.Is h v s):v=.string (qB s)∧ByB s:=by
  obtain⟨cs,⟨rfl,hb⟩,rfl⟩:=r
  exact⟨rfl,hb⟩
theorem kT{h:Mem}:cD.R h [.string ⟨#[]⟩] []:=⟨rfl,ByB.nil⟩
def lsN:List Nat→List Nat→Prop
  |[],[]=>False
  |[],_::_=>True
  |_::_,[]=>False
  |x::a,y::b=>if x=y then lsN a b else x<y
def rpV:Rp Value where
  n:=1
  agg:=false
  R _ cs v:=cs=[v]∧v.oneCell'=true
  len:=by rintro h cs v ⟨rfl,_⟩;rfl
  mono:=fun _ r=>r
  one:=by rintro h cs v ⟨rfl,hv⟩;simp[hv]
  cell:=fun _=>rfl
theorem zC1{h:Mem}{v:Value}(hv:v.oneCell'=true):rpV.Is h v v:=⟨_,⟨rfl,hv⟩,rfl⟩
theorem of_v{h:Mem}{u v:Value}(r:rpV.Is h u v):v=u:=by
  obtain⟨cs,⟨rfl,hv⟩,rfl⟩:=r
  rfl
theorem cY{h:Mem}:rpV.R h [.slice none 0 0] (.slice none 0 0):=⟨rfl,rfl⟩
section
variable {α β γ δ:Type}{h:Mem}
theorem zPR{ρ:Rp α}{v:Value}{xs:List α}(r:(rpS ρ).Is h v xs):(rpS ρ).R h [v] xs:=by
  obtain⟨cs,⟨u,ds,rfl,s,rl⟩,rfl⟩:=r
  exact⟨_,ds,rfl,s,rl⟩
theorem zMY{π:Rp α}{ρ:Rp β}{τ:Rp γ}{cs:List Value}{p:α}{v:Value}{s:γ}{xs:List β}(r:(rpP π (rpP rpV τ)).R h cs (p,(v,s)))(k:(rpS ρ).Is h v xs):(rpP π (rpP (rpS ρ) τ)).R h cs (p,(xs,s)):=by
  obtain⟨a,b,e,ra,c,d,e',⟨rc,_⟩,rd⟩:=r
  exact⟨a,b,e,ra,c,d,e',by rw[show c=[v] from rc];exact zPR k,rd⟩
theorem zZD{ρ:Rp β}{τ:Rp γ}{cs:List Value}{v:Value}{s:γ}{xs:List β}(r:(rpP rpV τ).R h cs (v,s))(k:(rpS ρ).Is h v xs):(rpP (rpS ρ) τ).R h cs (xs,s):=by
  obtain⟨c,d,e',⟨rc,_⟩,rd⟩:=r
  exact⟨c,d,e',by rw[show c=[v] from rc];exact zPR k,rd⟩
end
section
variable {P:Program}{n:Nat}{w0:World}{h0:Mem}{e:List (Nat×Value)}{L:List Res}{h:Mem}
theorem zYG{E k m:Nat}{v:Value}{cs:List Value}{base:Nat}{w:World}(hok:(Res.gs E k v m cs).ok base w):v.oneCell'=true:=by
  obtain⟨_,hr⟩:=hok
  rcases hr with⟨rfl,_⟩|⟨g,cap,cur,rfl,_⟩<;>rfl
theorem jG{o:Oper}{A B:List Res}{r:Res}{E k m:Nat}{G:List Value→Prop}(hv:zA0 P n w0 h0 o e A r B h (fun u r'=>∃cs',r'=.gs E k u m cs'∧G cs')):zA0 P n w0 h0 o e A r B h (fun u r'=>u.oneCell'=true∧∃cs',r'=.gs E k u m cs'∧G cs'):=by
  intro a w Ev S
  obtain⟨v,w',r',h1,h2,h3,h4,cs',rfl,hG⟩:=hv a w Ev S
  exact⟨v,w',_,h1,h2,h3,h4,zYG h3,cs',rfl,hG⟩
theorem aR{o:Oper}{R:List Res}{Z:Value}(hv:OpX P n w0 h0 o e R h (fun u=>rpV.Is h u Z)):OpX P n w0 h0 o e R h (fun u=>Z=u):=by
  obtain⟨v,a,b⟩:=hv
  exact⟨v,a,of_v b⟩
end
section
variable {α β:Type}
def jW(g:Nat→α):Nat→List α
  |0=>[]
  |i+1=>jW g i++[g i]
def pW(g:Nat→List α):Nat→List α
  |0=>[]
  |i+1=>pW g i++g i
noncomputable def cA(p:Nat→Prop)(g:Nat→α):Nat→List α
  |0=>[]
  |i+1=>cA p g i++(if p i then[g i] else[])
theorem z6{p:Nat→Prop}{g:Nat→α}{i:Nat}(h:p i):cA p g i++[g i]=cA p g (i+1):=by show _=_++_;rw[if_pos h]
theorem z7{p:Nat→Prop}{g:Nat→α}{i:Nat}(h:¬p i):cA p g i=cA p g (i+1):=by show _=_++_;rw[if_neg h,List.append_nil]
theorem zLL{p:Nat→Prop}{g:Nat→α}:∀n,cA p g n=[]↔∀i,i<n→¬p i
  |0=>⟨fun _ i h=>absurd h (Nat.not_lt_zero i),fun _=>rfl⟩
  |n+1=>by
   show _++_=[]↔_
   rw[List.append_eq_nil_iff,zLL n]
   constructor
   · rintro⟨h1,h2⟩ i hi
     rcases Nat.lt_succ_iff_lt_or_eq.1 hi with h|h
     · exact h1 i h
     · subst h;intro e;rw[if_pos e] at h2;exact absurd h2 (by simp)
   · intro h
     exact⟨fun i hi=>h i (by omega),if_neg (h n (by omega))⟩
theorem sO(p:Nat→Prop)(g:Nat→α):∀n,(cA p g n).length≤n
  |0=>Nat.le_refl _
  |n+1=>by
   have:=sO p g n
   show List.length (_++_)≤_
   rw[lAz]
   split<;>simp<;>omega
theorem wR(g:Nat→α):∀n,(jW g n).length=n
  |0=>rfl
  |n+1=>by show List.length (_++_)=_;rw[lAz,wR g n];rfl
theorem pK(g:Nat→α)(d:α):∀{n i},i<n→(jW g n).getD i d=g i
  |0,i,h=>absurd h (Nat.not_lt_zero i)
  |n+1,i,h=>by
   show(jW g n++[g n]).getD i d=_
   rcases Nat.lt_succ_iff_lt_or_eq.1 h with h|h
   · rw[List.getD_eq_getElem?_getD,List.getElem?_append_left (by rw[wR];exact h),←List.getD_eq_getElem?_getD];exact pK g d h
   · subst h
     rw[List.getD_eq_getElem?_getD,List.getElem?_append_right (by rw[wR];exact Nat.le_refl _),wR,Nat.sub_self];rfl
theorem zM3{l:List α}(d:α){i:Nat}(h:i<l.length):l.take (i+1)=l.take i++[l.getD i d]:=by
  rw[List.take_succ_eq_append_getElem h,List.getD_eq_getElem?_getD,List.getElem?_eq_getElem h];rfl
theorem zRR{L:List (List α)}{n:Nat}(h:∀x,x∈L→x.length≤n)(m:Nat):(L.getD m []).length≤n:=by
  rw[List.getD_eq_getElem?_getD]
  rcases Nat.lt_or_ge m L.length with h1|h1
  · rw[List.getElem?_eq_getElem h1];exact h _ (List.getElem_mem h1)
  · rw[List.getElem?_eq_none h1];exact Nat.zero_le _
theorem zF8{g:Nat→α}{x:α}:∀{n},x∈jW g n→∃i,i<n∧x=g i
  |0,h=>absurd h List.not_mem_nil
  |n+1,h=>by
   rcases List.mem_append.1 (show x∈jW g n++[g n] from h) with h|h
   · obtain⟨i,hi,e⟩:=zF8 h;exact⟨i,by omega,e⟩
   · exact⟨n,by omega,List.mem_singleton.1 h⟩
theorem oU{g:Nat→List α}{x:α}:∀{n},x∈pW g n→∃i,i<n∧x∈g i
  |0,h=>absurd h List.not_mem_nil
  |n+1,h=>by
   rcases List.mem_append.1 (show x∈pW g n++g n from h) with h|h
   · obtain⟨i,hi,e⟩:=oU h;exact⟨i,by omega,e⟩
   · exact⟨n,by omega,h⟩
theorem bN{l:List α}{d:α}{i:Nat}(h:i<l.length):l.getD i d∈l:=by
  rw[List.getD_eq_getElem?_getD,List.getElem?_eq_getElem h];exact List.getElem_mem h
noncomputable def cR(p:Nat→Prop):Nat→Nat
  |0=>0
  |k+1=>if p k then cR p k else k+1
theorem zLB{p:Nat→Prop}{k:Nat}(hk:0<k)(h:p (k-1)):cR p k=cR p (k-1):=by
  match k,hk with
  |k+1,_=>exact if_pos h
theorem zDB{p:Nat→Prop}{k:Nat}(h:¬(0<k∧p (k-1))):cR p k=k:=by
  match k with
  |0=>rfl
  |k+1=>exact if_neg fun e=>h ⟨by omega,e⟩
theorem zBO(p:Nat→Prop):∀k,cR p k≤k
  |0=>Nat.le_refl _
  |k+1=>by
   have:=zBO p k
   unfold cR
   split<;>omega
def eV(l:List α)(k:Nat)(x:α):List α:=l.take k++x::l.drop k
theorem zC2(l:List α){k:Nat}(x:α)(h:k≤l.length):(eV l k x).length=l.length+1:=by
  unfold eV
  rw[lAz,lC,List.length_take,List.length_drop];omega
theorem zNJ{n u:Nat}(h:u<n):(List.replicate n False).getD u False↔False:=by
  rw[List.getD_eq_getElem?_getD,List.getElem?_replicate,if_pos h];exact Iff.rfl
end
end Bk
namespace Bk
set_option linter.unusedVariables false
set_option linter.unusedSimpArgs false
open Go Go.RowKit
section
variable {P:Program}{n:Nat}{w0:World}{h0:Mem}{e:List (Nat×Value)}{L:List Res}{h:Mem}{Q:Exit→Act→World→Prop}{ds:Option Tmp}{ty:TypeId}{ps:String}{af:Array Edge}{gd:Option (Nat×Bool)}{α:Type}
theorem zJV{ρ:Rp α}{xs:List α}{v:Value}{t E:TypeId}{x hu:Operand}{p:Int}(i:Nat)(ht:P.underlying t=some (.slice E))(hsz:∀w,(Go.sizeOf E).run P w=.ok ρ.n w)(hx:zI e x=some v)(hl:zI e hu=some (vI p))(r:(rpS ρ).Is h v xs)
    (hp:p=(i:Int))(hi:i≤xs.length):OpX P n w0 h0 ⟨ds,.slice t x none (some hu) none,ty,ps,af,gd⟩ e [] h (fun u=>(rpS ρ).Is h u (xs.take i)):=by
  obtain⟨cs,s,rl⟩:=zNR r
  refine zQI (fun L' h'=>iV i ht hsz hx hl s.shape hp hi) ?_
  have hs:=s.sub (Nat.zero_le i) hi
  have hlen:=rl.len
  rw[Nat.zero_mul,List.drop_zero,Nat.sub_zero] at hs
  exact zUR (by rw[List.length_take,Nat.min_eq_left hi];exact hs) (rl.take i)
theorem zL6:∀(a b:List Nat),ByB a→ByB b→(Op.bytesLess (a.map UInt8.ofNat) (b.map UInt8.ofNat)=true↔lsN a b)
  |[],[],_,_=>by simp[Op.bytesLess,lsN]
  |[],y::b,_,_=>by simp[Op.bytesLess,lsN]
  |x::a,[],_,_=>by simp[Op.bytesLess,lsN]
  |x::a,y::b,ha,hb=>by
   have hx:x<256:=ha x (.head _)
   have hy:y<256:=hb y (.head _)
   have ih:=zL6 a b (fun z hz=>ha z (.tail _ hz)) (fun z hz=>hb z (.tail _ hz))
   have e1:(UInt8.ofNat x<UInt8.ofNat y)↔x<y:=by
     rw[UInt8.lt_iff_toNat_lt,UInt8.toNat_ofNat',UInt8.toNat_ofNat',Nat.mod_eq_of_lt (by simpa using hx),Nat.mod_eq_of_lt (by simpa using hy)]
   have e2:(UInt8.ofNat x=UInt8.ofNat y)↔x=y:=by
     rw[←UInt8.toNat_inj,UInt8.toNat_ofNat',UInt8.toNat_ofNat',Nat.mod_eq_of_lt (by simpa using hx),Nat.mod_eq_of_lt (by simpa using hy)]
   show((decide (UInt8.ofNat x<UInt8.ofNat y)||(UInt8.ofNat x==UInt8.ofNat y&&Op.bytesLess _ _))=true)↔(if x=y then lsN a b else x<y)
   rw[Bool.or_eq_true,Bool.and_eq_true,decide_eq_true_eq,beq_iff_eq,e1,e2,ih]
   split
   · rename_i hxy;subst hxy;exact⟨fun h=>h.elim (fun h=>absurd h (Nat.lt_irrefl _)) fun h=>h.2,fun h=>.inr ⟨rfl,h⟩⟩
   · rename_i hxy;exact⟨fun h=>h.elim id fun h=>absurd h.1 hxy,.inl⟩
theorem zQN{pa pb:List Nat}{t yt:TypeId}{x y:Operand}(ha:ByB pa)(hb:ByB pb)(hx:zI e x=some (.string (qB pa)))(hy:zI e y=some (.string (qB pb))):OpV P n w0 h0 ⟨ds,.binOp .lss t x y yt,ty,ps,af,gd⟩ e L h (vB (lsN pa pb)):=by
  have key:Op.bytesLess (qB pa).toList (qB pb).toList=true↔lsN pa pb:=by
    rw[ByteArray.toList_eq,ByteArray.toList_eq]
    exact zL6 pa pb ha hb
  have hk:vB (lsN pa pb)=.bool (Op.bytesLess (qB pa).toList (qB pb).toList):=by
    by_cases hp:lsN pa pb
    · rw[xL hp,key.2 hp]
    · rw[yS hp,Bool.eq_false_iff.2 fun e=>hp (key.1 e)]
  rw[hk]
  intro a w Ev S
  simp only[execOp,Ev.eval hx,Ev.eval hy,binOp]
  simp[eqGuard,Op.stringOp]
theorem bQ{A B:List Res}{E k m:Nat}{v:Value}{cs:List Value}{c:Code}(hm:0<m)(g:∀b cap,v=.slice (some ⟨b,0,none⟩) m cap→m≤cap→GC P n w0 h0 c Q e (A++.gs E k v m cs::B) h):GC P n w0 h0 c Q e (A++.gs E k v m cs::B) h:=by
  intro a w Ev S
  obtain⟨_,hr⟩:w.ownsRow w0.heap.size E k v m cs:=S.ok (.gs E k v m cs) (by simp)
  rcases hr with⟨_,h0⟩|⟨b,cap,cur,hv,_,_,hc,_⟩
  · omega
  · exact g b cap hv hc a w Ev S
theorem gX{fn:Func}{v:Value}{L':List Res}{RO:Mem→Value→List Res→Prop}(hs:L'.Sublist L)(hres:∀{a:Act} {w:World},Env n e a→St w0 h0 L h w→(results fn a.tmps).run P w=.ok v w)(hR:RO h v L'):GQ n w0 h0 (bodyPost P fn (rT w0 h0 RO)) .ret e L h:=by
  intro a w E S
  exact bodyPost_ret (hres E S) E.defers ⟨_,h,L',rfl,hR,S.sublist hs⟩
def fQ(xs:List α)(i:Nat):List α:=xs.take (i+1)++(xs.drop i).take (xs.length-i-1)
theorem kV{xs:List α}{i:Nat}(h:i<xs.length):(fQ xs i).length=xs.length:=by
  unfold fQ
  rw[lAz,List.length_take,List.length_take,List.length_drop];omega
theorem zPJ{ρ:Rp α}{cs:List Value}{xs:List α}{i:Nat}(hi:i<xs.length)(r:RL ρ h cs xs):RL ρ h (iE cs ((i+1)*ρ.n) ((cs.drop (i*ρ.n)).take ((xs.length-i-1)*ρ.n))) (fQ xs i):=by
  have hl:=r.len
  have h1:=(r.drop i).take (xs.length-i-1)
  have h2:=r.take (i+1)
  have e1:xs.length*ρ.n=(i+1)*ρ.n+(xs.length-i-1)*ρ.n:=by rw[←Nat.add_mul];congr 1;omega
  have e2:(i+1)*ρ.n=i*ρ.n+ρ.n:=Nat.succ_mul _ _
  have e3:((cs.drop (i*ρ.n)).take ((xs.length-i-1)*ρ.n)).length=(xs.length-i-1)*ρ.n:=by rw[List.length_take,List.length_drop];omega
  rw[zCA _ _ _ (by omega),e3,show cs.drop ((i+1)*ρ.n+(xs.length-i-1)*ρ.n)=[] from List.drop_of_length_le (by omega),List.append_nil]
  exact h2.append h1
theorem aY{l:List α}{z x:α}{k:Nat}(h:k≤l.length):(fQ (l++[z]) k).set k x=eV l k x:=by
  unfold fQ eV
  have e1:(l++[z]).length-k-1=l.length-k:=by rw[lAz,List.length_singleton];omega
  have e2:((l++[z]).drop k).take (l.length-k)=l.drop k:=by
    rw[List.drop_append_of_le_length h,List.take_append_of_le_length (by rw[List.length_drop];omega),List.take_of_length_le (by rw[List.length_drop];omega)]
  have hk:k<(l++[z]).length:=by rw[lAz,List.length_singleton];omega
  rw[e1,e2,List.take_succ_eq_append_getElem hk,List.append_assoc,List.set_append_right _ _ (by rw[List.length_take];omega),List.length_take,show k-min k (l++[z]).length=0 by omega]
  rw[List.take_append_of_le_length h]
  rfl
theorem lD{A B:List Res}{t E b cap:Nat}{v:Value}{cs:List Value}{x y:Operand}{ρ:Rp α}{xs:List α}(i:Nat)(hv:v=.slice (some ⟨b,0,none⟩) xs.length cap)(hmc:xs.length≤cap)(ht:P.underlying t=some (.slice E))(hsz:∀w,(Go.sizeOf E).run P w=.ok ρ.n w)
    (hx:zI e x=some (gK ρ.n v (i+1) xs.length))(hy:zI e y=some (gK ρ.n v i xs.length))(hi:i<xs.length)(r:RL ρ h cs xs):
    zA0 P n w0 h0 ⟨ds,.call {callee:=.builtin .copy,args:=#[x,y],argTypes:=#[t,t]},ty,ps,af,gd⟩ e A (.gs E ρ.n v xs.length cs) B h (fun u r'=>∃cs',r'=.gs E ρ.n v (fQ xs i).length cs'∧RL ρ h cs' (fQ xs i)):=by
  intro a w Ev S
  have hok:w.ownsRow w0.heap.size E ρ.n v xs.length cs:=S.ok (.gs E ρ.n v xs.length cs) (by simp)
  have hlen:=hok.1
  subst hv
  have hrl:=zPJ hi r
  have e1:xs.length*ρ.n=(i+1)*ρ.n+(xs.length-i-1)*ρ.n:=by rw[←Nat.add_mul];congr 1;omega
  have e2:(i+1)*ρ.n=i*ρ.n+ρ.n:=Nat.succ_mul _ _
  have hvl:((cs.drop (i*ρ.n)).take ((xs.length-i-1)*ρ.n)).length=(xs.length-i-1)*ρ.n:=by rw[List.length_take,List.length_drop];omega
  have hvc:∀j u,((cs.drop (i*ρ.n)).take ((xs.length-i-1)*ρ.n))[j]?=some u→cs[i*ρ.n+j]?=some u:=fun j u hj=>by
    rw[List.getElem?_take] at hj
    split at hj
    · rwa [List.getElem?_drop] at hj
    · cases hj
  have hone:∀u∈(cs.drop (i*ρ.n)).take ((xs.length-i-1)*ρ.n),u.oneCell'=true:=fun u hu=>List.all_eq_true.1 r.one u (List.mem_of_mem_drop (List.mem_of_mem_take hu))
  generalize (cs.drop (i*ρ.n)).take ((xs.length-i-1)*ρ.n)=vs at *
  obtain⟨h1,h2⟩:=aS vs ((i+1)*ρ.n) cs w hok
  have hsl:=kV (xs:=xs) hi
  have hload:(loadCells ⟨b,i*ρ.n,none⟩ ((xs.length-i-1)*ρ.n)).run P w=.ok vs.toArray w:=by
    have:=run_loadCells_list (P:=P) (w:=w) ⟨b,i*ρ.n,none⟩ vs fun j u hj=>by
      have h3:=hok.cellAt (i*ρ.n+j) (by have:=(List.getElem?_eq_some_iff.1 (hvc j u hj)).1;omega)
      rw[hvc j u hj] at h3
      rw[show(⟨b,i*ρ.n,none⟩:Addr).add j=⟨b,i*ρ.n+j,none⟩ from qW _ _ _]
      exact h3
    rwa [hvl] at this
  have hst:=run_storeCells_cells (P:=P) b ((i+1)*ρ.n) vs 0 w (fun j hj=>by
      have h4:=hok.cellAt ((i+1)*ρ.n+j) (by omega)
      rw[List.getElem?_eq_getElem (by omega)] at h4
      simp[h4]) (fun j hj=>by simpa using hok.frozenAt ((i+1)*ρ.n+j)) hone
  simp only[Nat.add_zero] at hst
  refine⟨vI ↑(xs.length-i-1),w.setCells b ((i+1)*ρ.n) vs,.gs E ρ.n (.slice (some ⟨b,0,none⟩) xs.length cap) xs.length (iE cs ((i+1)*ρ.n) vs),?_,h2,h1,fun b' hb=>.inl hb,_,by rw[hsl],hrl⟩
  have hmin:Nat.min (xs.length-i) (xs.length-(i+1))=xs.length-i-1:=by show min _ _=_;omega
  have hci:¬cap=i:=by omega
  simp only[gK,hci,if_false,Option.map_some] at hx hy
  rw[show(⟨b,0,none⟩:Addr).add (i*ρ.n)=⟨b,i*ρ.n,none⟩ by simp[qW]] at hy
  by_cases hc:cap=i+1
  · have hz:xs.length-i-1=0:=by omega
    have hv0:vs=[]:=List.eq_nil_of_length_eq_zero (by rw[hvl,hz,Nat.zero_mul])
    subst hv0
    simp only[hc,if_true] at hx
    rw[hz,Nat.zero_mul] at hload
    simp[execOp,resolve,invoke,builtin,Ev.eval hx,Ev.eval hy,Builtin.copy_,run_underlying ht,Builtin.lenOf,Builtin.firstCells,hsz,hmin,hz,hload,storeCells,World.setCells,goInt,vI]
  · simp only[hc,if_false] at hx
    rw[show(⟨b,0,none⟩:Addr).add ((i+1)*ρ.n)=⟨b,(i+1)*ρ.n,none⟩ by simp[qW]] at hx
    simp[execOp,resolve,invoke,builtin,Ev.eval hx,Ev.eval hy,Builtin.copy_,run_underlying ht,Builtin.lenOf,Builtin.firstCells,hsz,hmin,hload,hst,goInt,vI]
end
end Bk
namespace Bk
set_option linter.unusedVariables false
set_option linter.unusedSimpArgs false
open Go Go.RowKit
open Classical
abbrev tII:Rp (List (List Int)):=rpS (rpS rpI)
abbrev tE5:Rp (Int×Int×Int×Int×Int):=rpP rpI (rpP rpI (rpP rpI (rpP rpI rpI)))
abbrev tPt(k:Nat):Rp (T3 Rat):=rpT (rpQ k)
abbrev tLs(k:Nat):Rp (List (T3 Rat)):=rpS (rpT (rpQ k))
abbrev tLL(k:Nat):Rp (List (List (T3 Rat))):=rpS (rpS (rpT (rpQ k)))
abbrev tPl(k l:Nat):Rp (T3 Rat×Rat):=rpP (rpT (rpQ k)) (rpQ l)
abbrev Tq:=T3 Rat
abbrev Pq:=T3 Rat×Rat
abbrev Sq:=List (T3 Rat)×List ((T3 Rat×Rat)×List (List Int)×List Nat)×List (Int×Int×Rat)
abbrev tFc(k l:Nat):Rp ((T3 Rat×Rat)×List (List Int)×List Nat):=rpP (rpP (rpT (rpQ k)) (rpQ l)) (rpP (rpS (rpS rpI)) cD)
abbrev tSd(k m n j:Nat):Rp Sq:=rpP (rpS (rpT (rpQ k))) (rpP (rpS (rpP (rpP (rpT (rpQ m)) (rpQ n)) (rpP (rpS (rpS rpI)) cD))) (rpS (rpP rpI (rpP rpI (rpQ j)))))
abbrev zZ(p:T3 Rat):T3 Rat:=T3.mk p.x p.y (0:Rat)
abbrev pU(PP:List (T3 Rat))(sB:Value)(j:Int):T3 Rat:=((PP,(sB,([]:List (Int×Int×Rat)))).1).getD j.toNat zT
abbrev nU(PP:List (T3 Rat))(sB:Value)(I:List Int)(q:Nat):T3 Rat:=T3.mk ((((PP,(sB,([]:List (Int×Int×Rat)))).1).getD ((I.getD ((q+1)%I.length) 0).toNat) zT).y-(((PP,(sB,([]:List (Int×Int×Rat)))).1).getD ((I.getD q 0).toNat) zT).y) (-((((PP,(sB,([]:List (Int×Int×Rat)))).1).getD ((I.getD ((q+1)%I.length) 0).toNat) zT).x-(((PP,(sB,([]:List (Int×Int×Rat)))).1).getD ((I.getD q 0).toNat) zT).x)) (0:Rat)
abbrev lU(I:List Int)(q:Nat)(BB:List (T3 Rat)):List Int:=[(I.getD q (0:Int)),(I.getD ((q+1)%I.length) (0:Int)),((I.getD ((q+1)%I.length) (0:Int))+(↑BB.length:Int)),((I.getD q (0:Int))+(↑BB.length:Int))]
abbrev e50:Int×Int×Int×Int×Int:=((0:Int),((0:Int),((0:Int),((0:Int),(0:Int)))))
theorem dK{R A B:List Res}{q:Res}(hR:∀r∈R,r∈A++B:=by first|(simp;done)|grind):∀r∈R,r∈A++q::B→r∈A++B:=zOL hR
theorem oM{p:Prop}(f:p:=by omega):p:=f
theorem dC{p:Prop}(f:p:=by decide):p:=f
theorem rP{p:Prop}(f:p:=by first|rfl|(push_cast;rfl)):p:=f
theorem nP{p:Prop}(f:p:=by exact Nat.le_of_ble_eq_true rfl):p:=f
theorem bO{p:Prop}(f:p:=by first|omega|(simp only[lAz,lC,lN,lR,lS];omega)):p:=f
theorem mle{h h':Mem}(f:MLe h h':=by with_reducible repeat (first|exact MLe.refl _|assumption|refine MLe.trans ?_ (by assumption))):MLe h h':=f
theorem Rp.Is.up{α:Type}{ρ:Rp α}{h h':Mem}{v:Value}{x:α}(r:ρ.Is h v x)(hm:MLe h h':=by exact mle):ρ.Is h' v x:=r.mono hm
theorem Rp.R.up{α:Type}{ρ:Rp α}{h h':Mem}{cs:List Value}{x:α}(r:ρ.R h cs x)(hm:MLe h h':=by exact mle):ρ.R h' cs x:=Rp.mono ρ hm r
theorem RL.up{α:Type}{ρ:Rp α}{h h':Mem}{cs:List Value}{xs:List α}(r:RL ρ h cs xs)(hm:MLe h h':=by exact mle):RL ρ h' cs xs:=RL.mono hm r
theorem AtP.up{α:Type}{ρ:Rp α}{h h':Mem}{p:Value}{X:α}(r:AtP ρ h p X)(hm:MLe h h':=by exact mle):AtP ρ h' p X:=r.mono hm
theorem Us.up{k:IntKind}{h h':Mem}{v:Value}{xs:List Nat}(r:Us k h v xs)(hm:MLe h h':=by exact mle):Us k h' v xs:=r.mono hm
class Und(P:Program)(t:TypeId) where
  d:TypeDesc
  h:P.underlying t=some d
class Siz(P:Program)(t:TypeId) where
  k:Nat
  h:∀w,(Go.sizeOf t).run P w=.ok k w
class Agg(P:Program)(t:TypeId) where
  b:Bool
  h:∀w,(isAgg t).run P w=.ok b w
class Inf(P:Program)(t:TypeId) where
  k:Nat
  h:(P.info? t).map (·.size)=some k
theorem uu{P:Program}{t:TypeId}{d:TypeDesc}(f:P.underlying t=some d:=by exact Und.h):P.underlying t=some d:=f
theorem uz{P:Program}{t:TypeId}{k:Nat}(f:∀w,(Go.sizeOf t).run P w=.ok k w:=by exact Siz.h):∀w,(Go.sizeOf t).run P w=.ok k w:=f
theorem ua{P:Program}{t:TypeId}{k:Bool}(f:∀w,(isAgg t).run P w=.ok k w:=by exact Agg.h):∀w,(isAgg t).run P w=.ok k w:=f
theorem us_{P:Program}{t:TypeId}{k:Nat}(f:(P.info? t).map (·.size)=some k:=by exact Inf.h):(P.info? t).map (·.size)=some k:=f
section
variable {α β γ:Type}
variable {P:Program}{n:Nat}{w0:World}{h0:Mem}{e:List (Nat×Value)}{L:List Res}{h:Mem}{Q:Exit→Act→World→Prop}
variable {ds:Option Tmp}{ty:TypeId}{ps:String}{af:Array Edge}{gd:Option (Nat×Bool)}
variable {ops:Array Oper}{rest:List Oper}{RR:List Res}{al:Als}{d i:Nat}{op:Op}{v:Value}{r:List (Nat×Kd)}{g t:Nat}{b:Bool}
theorem xV{o:Oper}{R:List Res}{ρ:Rp α}{X Z:α}(hv:OpX P n w0 h0 o e R h (fun u=>ρ.Is h u X))(hZ:X=Z:=by first|(dsimp only<;>exact rfl)|exact rfl):OpX P n w0 h0 o e R h (fun u=>ρ.Is h u Z):=hZ▸hv
theorem mmx{L R:List Res}(f:∀r∈R,r∈L:=by first|exact zDV|exact tM mh0|exact tM mh1|exact tM mh2|exact tM mh3|exact tM mh4|exact tM mh5|exact tM mh6|exact tM mh7|exact tM (.tail _ mh7)|exact tM (.tail _ (.tail _ mh7))|exact tM (.tail _ (.tail _ (.tail _ mh7)))):∀r∈R,r∈L:=f
theorem lX{R:List Res}{F:Value→Prop}(hv:OpX P n w0 h0 ⟨some d,op,ty,ps,af,none⟩ e R h F)(k:∀v,F v→GL P n w0 h0 ops Q rest ((d,v)::e) L h)(hR:∀r∈R,r∈L:=by exact mmx)(hn:Nat.ble (d+1) n=true:=by exact rfl):GL P n w0 h0 ops Q (⟨some d,op,ty,ps,af,none⟩::rest) e L h:=zIJ hv hR hn k
theorem wX{R:List Res}{F:Value→Prop}(ho:ops.getD i default=⟨some d,op,ty,ps,af,none⟩)(hv:OpX P n w0 h0 ⟨some d,op,ty,ps,af,none⟩ e R h F)(k:∀v,F v→W P n w0 h0 ops Q RR al r ((d,v)::e) L h)(hR:∀r∈R,r∈RR:=by exact mmx)(hn:Nat.ble (d+1) n=true:=by exact rfl):W P n w0 h0 ops Q RR al ((i,.q)::r) e L h:=mV ho hv hR hn k
theorem xX{K:List (Nat×Value)→List Res→Mem→Prop}{R:List Res}{F:Value→Prop}(ho:ops.getD i default=⟨some d,op,ty,ps,af,none⟩)(hv:OpX P n w0 h0 ⟨some d,op,ty,ps,af,none⟩ e R h F)(k:∀v,F v→K ((d,v)::e) L h)(hR:∀r∈R,r∈RR:=by exact mmx)(hn:Nat.ble (d+1) n=true:=by exact rfl):SQ P n w0 h0 ops RR i e L h K:=x_qx ho hv hR hn k
theorem oX{R:List Res}{F:Value→Prop}(ho:ops.getD i default=⟨some d,op,ty,ps,af,some (g,b)⟩)(hv:OpX P n w0 h0 ⟨some d,op,ty,ps,af,none⟩ e R h F)(k:∀v,F v→W P n w0 h0 ops Q RR al r ((d,v)::e) L h)(ht:(ops[g]?).bind (·.dst)=some t:=by exact rfl)(he:e.lookup t=some (.bool b):=by exact rfl)(hR:∀r∈R,r∈RR:=by exact mmx)(hn:Nat.ble (d+1) n=true:=by exact rfl):W P n w0 h0 ops Q RR al ((i,.q)::r) e L h:=aB ho ht he hv hR hn k
theorem sX{W':List (Nat×Value)→List Res→Mem→Prop}{R:List Res}{F:Value→Prop}(hv:OpX P n w0 h0 ⟨some d,op,ty,ps,af,none⟩ e R h F)(k:∀v,F v→W' ((d,v)::e) L h)(hR:∀r∈R,r∈L:=by exact mmx)(hn:Nat.ble (d+1) n=true:=by exact rfl):qS P n w0 h0 ops RR ⟨some d,op,ty,ps,af,none⟩ e L h W':=s_x hv hR hn k
theorem xB{t E:TypeId}{x:Operand}{b k off:Nat}{cs:List Value}{ρ:Rp α}{σ:Rp β}{g:α→β}{s:α→β→α}{X:α}{Z:β}(T:TyOk P t σ.n σ.agg)(pc:Pc ρ off σ g s){h1:Mem}(r:ρ.R h1 cs X)(hx:zI e x=some (vP b k):=by exact rfl)(ho:k=off:=by exact rfl)(hZ:g X=Z:=by first|(dsimp only<;>exact rfl)|exact rfl)(hm:MLe h1 h:=by exact mle):
    OpX P n w0 h0 ⟨ds,.load t x,ty,ps,af,gd⟩ e [.var b E cs] h (fun u=>σ.Is h u Z):=zHH T pc ho hx (r.up hm) hZ
theorem xA{t:TypeId}{x:Operand}{p:Value}{ρ:Rp α}{X:α}(T:TyOk P t ρ.n ρ.agg){h1:Mem}(r:AtP ρ h1 p X)(hx:zI e x=some p:=by exact rfl)(hm:MLe h1 h:=by exact mle):OpX P n w0 h0 ⟨ds,.load t x,ty,ps,af,gd⟩ e [] h (fun u=>ρ.Is h u X):=zJW T hx (r.up hm)
theorem xI{t E:TypeId}{x y:Operand}{q:Int}{v:Value}{ρ:Rp α}{xs:List α}(d:α)(i:Nat)(ht:P.underlying t=some (.slice E))(T:TyOk P E ρ.n ρ.agg){h1:Mem}(r:(rpS ρ).Is h1 v xs)(hx:zI e x=some v:=by exact rfl)(hy:zI e y=some (vI q):=by exact rfl)(hq:q=(i:Int):=by first|exact rfl|(push_cast;exact rfl)|omega)(hi:i<xs.length:=by omega)(hp:0<ρ.n:=by exact Nat.le_of_ble_eq_true rfl)(hm:MLe h1 h:=by exact mle):
    OpX P n w0 h0 ⟨ds,.indexAddr t x y,ty,ps,af,gd⟩ e [] h (fun u=>AtP ρ h u (xs.getD i d)):=lH d i ht T hx hy (r.up hm) hq hi hp
theorem xF{t:TypeId}{x:Operand}{f off m:Nat}{fs:Array Field}{fl:Field}{p:Value}{ρ:Rp α}{σ:Rp β}{g:α→β}{s:α→β→α}{X:α}{Z:β}(ht:P.underlying t=some (.struct fs))(hsz:∀w,(Go.sizeOf fl.type).run P w=.ok (m+1) w)(pc:Pc ρ off σ g s){h1:Mem}(r:AtP ρ h1 p X)(hf:fs[f]?=some fl:=by exact rfl)(ho:fl.offset=off:=by exact rfl)(hx:zI e x=some p:=by exact rfl)(hZ:g X=Z:=by first|(dsimp only<;>exact rfl)|exact rfl)(hm:MLe h1 h:=by exact mle):
    OpX P n w0 h0 ⟨ds,.fieldAddr t x f,ty,ps,af,gd⟩ e [] h (fun u=>AtP σ h u Z):=zNN ht hf hsz pc ho hx (r.up hm) hZ
theorem uB{E t:TypeId}{b k off:Nat}{cs:List Value}{v:Value}{x y:Operand}{ρ:Rp α}{σ:Rp β}{g:α→β}{s:α→β→α}{X Z:α}{Y:β}(hsz:∀w,(Go.sizeOf t).run P w=.ok σ.n w)(pc:Pc ρ off σ g s){h1 h2:Mem}(r:ρ.R h1 cs X)(ry:σ.Is h2 v Y)(hx:zI e x=some (vP b k):=by exact rfl)(ho:k=off:=by exact rfl)(hy:zI e y=some v:=by exact rfl)(hZ:s X Y=Z:=by first|(dsimp only<;>exact rfl)|exact rfl)(hm:MLe h1 h:=by exact mle)(hm2:MLe h2 h:=by exact mle):
    ∃cs',ρ.R h cs' Z∧∀A B,Upd P n w0 h0 ⟨ds,.store t x y,ty,ps,af,gd⟩ e A (.var b E cs) B h (.var b E cs'):=zSZ hsz pc ho hx hy (r.up hm) (ry.up hm2) hZ
theorem pH{ρ:Rp α}:Pc ρ 0 ρ (fun x=>x) (fun _ y=>y):=Pc.here ρ
theorem ev1{x:Operand}{v:Value}(hx:zI e x=some v):cF e [x] [v]:=⟨hx,trivial⟩
theorem ev2{x y:Operand}{v u:Value}(hx:zI e x=some v)(hy:zI e y=some u):cF e [x,y] [v,u]:=⟨hx,hy,trivial⟩
theorem ev3{x y z:Operand}{v u s:Value}(hx:zI e x=some v)(hy:zI e y=some u)(hz:zI e z=some s):cF e [x,y,z] [v,u,s]:=⟨hx,hy,hz,trivial⟩
theorem ev4{x y z a:Operand}{v u s c:Value}(hx:zI e x=some v)(hy:zI e y=some u)(hz:zI e z=some s)(ha:zI e a=some c):cF e [x,y,z,a] [v,u,s,c]:=⟨hx,hy,hz,ha,trivial⟩
theorem cL{f:Nat}{xs:List Operand}{ts:Array TypeId}{vs:List Value}{R:Mem→Value→Prop}(hvs:cF e xs vs)(hcall:∀args w,(callFunc f args).run P w=.ok (.enter f args) w)(hc:∀w,MLe h (mem w)→Calls P f vs.toArray w (Ret w h R))(k:∀v h',MLe h h'→R h' v→GL P n w0 h0 ops Q rest ((d,v)::e) L h')(hn:Nat.ble (d+1) n=true:=by exact rfl):
    GL P n w0 h0 ops Q (⟨some d,.call {callee:=.value (.func f),args:=xs.toArray,argTypes:=ts},ty,ps,af,none⟩::rest) e L h:=zUY (o:=⟨some d,.call {callee:=.value (.func f),args:=xs.toArray,argTypes:=ts},ty,ps,af,none⟩) rfl rfl rfl hn hcall hvs hc k
theorem sC{W':List (Nat×Value)→List Res→Mem→Prop}{f:Nat}{xs:List Operand}{ts:Array TypeId}{vs:List Value}{R':Mem→Value→Prop}(hvs:cF e xs vs)(hcall:∀args w,(callFunc f args).run P w=.ok (.enter f args) w)(hc:∀w,MLe h (mem w)→Calls P f vs.toArray w (Ret w h R'))(k:∀v h',MLe h h'→R' h' v→W' ((d,v)::e) L h')(hn:Nat.ble (d+1) n=true:=by exact rfl):
    qS P n w0 h0 ops RR ⟨some d,.call {callee:=.value (.func f),args:=xs.toArray,argTypes:=ts},ty,ps,af,none⟩ e L h W':=zW7 hcall hvs hc hn k
theorem nB{E:TypeId}{x:Operand}{v:Value}{ρ:Rp α}{X:α}{h1:Mem}(r:ρ.Is h1 v X)(k:∀b cs,ρ.R h cs X→GL P n w0 h0 ops Q rest ((d,vP b 0)::e) (.var b E cs::L) h)(hx:zI e x=some v:=by exact rfl)(hn:Nat.ble (d+1) n=true:=by exact rfl)(hm:MLe h1 h:=by exact mle):GL P n w0 h0 ops Q (⟨some d,.box E x,ty,ps,af,none⟩::rest) e L h:=
  zG (zQ2 hx (r.up hm)) rfl rfl hn fun v q hq=>by obtain⟨b,cs,rfl,rfl,rb⟩:=hq;exact k b cs rb
theorem nA{E:TypeId}{i:TypeInfo}{z:Value}{cs:List Value}{ρ:Rp α}{X:α}(hi:P.info? E=some i)(r:ρ.R h cs X)(k:∀b cs,ρ.R h cs X→GL P n w0 h0 ops Q rest ((d,vP b 0)::e) (.var b E cs::L) h)(hz:i.zero=some z:=by exact rfl)(hc:z.cells=cs.toArray:=by exact rfl)(hn:Nat.ble (d+1) n=true:=by exact rfl):GL P n w0 h0 ops Q (⟨some d,.alloc E,ty,ps,af,none⟩::rest) e L h:=
  zG (zKM hi hz hc r) rfl rfl hn fun v q hq=>by obtain⟨b,cs,rfl,rfl,rb⟩:=hq;exact k b cs rb
theorem cnd{c:Operand}{x y:Code}{p:Prop}(kt:p→GC P n w0 h0 x Q e L h)(kf:¬p→GC P n w0 h0 y Q e L h)(hc:zI e c=some (vB p):=by exact rfl):GC P n w0 h0 (.cond c x y) Q e L h:=zUZ hc kt kf
theorem gT{p:Prop}{v:Operand}(hg:p)(hv:zI e v=some (vB p))(k:GL P n w0 h0 ops Q rest ((d,.bool true)::e) L h)(hn:Nat.ble (d+1) n=true:=by exact rfl):GL P n w0 h0 ops Q (⟨some d,.move v,ty,ps,af,none⟩::rest) e L h:=mC (yU (hv.trans (congrArg some (xL hg)))) rfl rfl hn k
theorem gF{p:Prop}{v:Operand}(hg:¬p)(hv:zI e v=some (vB p))(k:GL P n w0 h0 ops Q rest ((d,.bool false)::e) L h)(hn:Nat.ble (d+1) n=true:=by exact rfl):GL P n w0 h0 ops Q (⟨some d,.move v,ty,ps,af,none⟩::rest) e L h:=mC (yU (hv.trans (congrArg some (yS hg)))) rfl rfl hn k
theorem gU{l:List Oper}(j t:Nat)(v:Value)(kx:GL P n w0 h0 ops (Exit.then (fun a w=>∃i:Unit,True∧Env n ((t,v)::e) a∧St w0 h0 L h w) Q) (l.take j) e L h)(ky:GL P n w0 h0 ops Q (l.drop j) ((t,v)::e) L h):GL P n w0 h0 ops Q l e L h:=uY j (fun _=>True) (fun _=>(t,v)::e) (fun _=>L) (fun _=>h) kx fun _ _=>ky
@[reducible] def zOW:List Nat→List (Nat×Value)→List (Nat×Value)→Prop
  |_,[],_=>True
  |s,(t,v)::r,e=>(if s.contains t then True else e.lookup t=some v)∧zOW (t::s) r e
theorem zOW.look{e:List (Nat×Value)}:∀{e0:List (Nat×Value)} {s:List Nat},zOW s e0 e→∀t v,s.contains t=false→e0.lookup t=some v→e.lookup t=some v
  |[],_,_,t,v,_,h=>by simp at h
  |(k,u)::r,s,hs,t,v,hn,h=>by
   simp only[List.lookup_cons] at h
   by_cases ht:t=k
   · subst ht
     simp at h
     subst h
     have:=hs.1
     rwa [if_neg (by rw[hn];simp)] at this
   · have h1:(t==k)=false:=by simpa using ht
     rw[h1] at h
     refine zOW.look hs.2 t v ?_ h
     rw[List.contains_cons,h1,hn];rfl
theorem Env.subS{e0:List (Nat×Value)}{a:Act}(E:Env n e a)(h:zOW [] e0 e):Env n e0 a:=⟨E.defers,E.size,fun t v ht=>E.get t v (h.look t v rfl ht)⟩
theorem gqU{e0:List (Nat×Value)}{t:Nat}{v:Value}(hv:e.lookup t=some v)(hs:zOW [t] e0 e:=by repeat (first|exact trivial|refine⟨by first|exact rfl|exact trivial,?_⟩)):GQ n w0 h0 (Exit.then (fun a w=>∃i:Unit,True∧Env n ((t,v)::e0) a∧St w0 h0 L h w) Q) .normal e L h:=fun a w E S=>⟨(),trivial,E.subS ⟨hv,hs⟩,S⟩
theorem gcL{ι:Type}{c:Code}{A:Prop}(S:ι→Prop×List (Nat×Value)×List Res×Mem×Nat)(i0:ι)(hi0:A)(round:∀i,(S i).1→GC P n w0 h0 c (Exit.then (fun a w=>∃j,((S j).1∧(S j).2.2.2.2<(S i).2.2.2.2)∧Env n (S j).2.1 a∧St w0 h0 (S j).2.2.1 (S j).2.2.2.1 w) Q) (S i).2.1 (S i).2.2.1 (S i).2.2.2.1)
    (hA:(S i0).1=A:=by first|(dsimp only<;>exact rfl)|exact rfl)(he:Sub (S i0).2.1 e:=by repeat (first|exact trivial|refine⟨rfl,?_⟩))(hL:(S i0).2.2.1=L:=by exact rfl)(hh:(S i0).2.2.2.1=h:=by exact rfl):GC P n w0 h0 (.loop c) Q e L h:=
  vG (fun i=>(S i).1) (fun i=>(S i).2.1) (fun i=>(S i).2.2.1) (fun i=>(S i).2.2.2.1) (fun i=>(S i).2.2.2.2) i0 (hA▸hi0) he hL hh round
theorem gqL{ι:Type}{A:Prop}{B M m:Nat}{S:ι→Prop×List (Nat×Value)×List Res×Mem×Nat}(i:ι)(hi:A)(hm:B<M)(hA:(S i).1=A:=by first|(dsimp only<;>exact rfl)|exact rfl)(hB:(S i).2.2.2.2=B:=by first|(dsimp only<;>exact rfl)|exact rfl)(hM:m=M:=by first|(dsimp only<;>exact rfl)|exact rfl)(he:Sub (S i).2.1 e:=by repeat (first|exact trivial|refine⟨rfl,?_⟩))(hL:(S i).2.2.1=L:=by exact rfl)(hh:(S i).2.2.2.1=h:=by exact rfl):
    GQ n w0 h0 (Exit.then (fun a w=>∃j,((S j).1∧(S j).2.2.2.2<m)∧Env n (S j).2.1 a∧St w0 h0 (S j).2.2.1 (S j).2.2.2.1 w) Q) .normal e L h:=
  yO (inv:=fun i=>(S i).1) (ev:=fun i=>(S i).2.1) (Lv:=fun i=>(S i).2.2.1) (hv:=fun i=>(S i).2.2.2.1) (μ:=fun i=>(S i).2.2.2.2) i (hA▸hi) (by rw[hM];exact hB▸hm) he hL hh
theorem cb0{f:FuncId}{fn:Func}{c:Code}{R:Ending→World→Prop}(n:Nat)(hf:P.funcs[f]?=some fn)(hs:MLe h0 (mem w0))(k:GC P n w0 h0 c (bodyPost P fn R) [] [] h0)(hb:fn.body=some c:=by exact rfl)(hn:fn.ntmps=n:=by exact rfl)(hl:([]:List Value).length≤n:=by exact Nat.le_of_ble_eq_true rfl):Calls P f #[] w0 R:=kK (e:=[]) (vs:=[]) hf hb hn hl hs trivial k
theorem cb1{f:FuncId}{fn:Func}{c:Code}{R:Ending→World→Prop}(n:Nat)(v:Value)(hf:P.funcs[f]?=some fn)(hs:MLe h0 (mem w0))(k:GC P n w0 h0 c (bodyPost P fn R) [(0,v)] [] h0)(hb:fn.body=some c:=by exact rfl)(hn:fn.ntmps=n:=by exact rfl)(hl:[v].length≤n:=by exact Nat.le_of_ble_eq_true rfl):Calls P f #[v] w0 R:=kK (e:=[(0,v)]) (vs:=[v]) hf hb hn hl hs ⟨rfl,trivial⟩ k
theorem cb2{f:FuncId}{fn:Func}{c:Code}{R:Ending→World→Prop}(n:Nat)(v u:Value)(hf:P.funcs[f]?=some fn)(hs:MLe h0 (mem w0))(k:GC P n w0 h0 c (bodyPost P fn R) [(0,v),(1,u)] [] h0)(hb:fn.body=some c:=by exact rfl)(hn:fn.ntmps=n:=by exact rfl)(hl:[v,u].length≤n:=by exact Nat.le_of_ble_eq_true rfl):Calls P f #[v,u] w0 R:=kK (e:=[(0,v),(1,u)]) (vs:=[v,u]) hf hb hn hl hs e2z k
theorem cb3{f:FuncId}{fn:Func}{c:Code}{R:Ending→World→Prop}(n:Nat)(v u s:Value)(hf:P.funcs[f]?=some fn)(hs:MLe h0 (mem w0))(k:GC P n w0 h0 c (bodyPost P fn R) [(0,v),(1,u),(2,s)] [] h0)(hb:fn.body=some c:=by exact rfl)(hn:fn.ntmps=n:=by exact rfl)(hl:[v,u,s].length≤n:=by exact Nat.le_of_ble_eq_true rfl):Calls P f #[v,u,s] w0 R:=kK (e:=[(0,v),(1,u),(2,s)]) (vs:=[v,u,s]) hf hb hn hl hs e3z k
def qq(a:Nat):Nat→List (Nat×Kd)→List (Nat×Kd)
  |0,r=>r
  |n+1,r=>(a,.q)::qq (a+1) n r
def frz(m:Nat)(l:List Nat):List Nat:=l.map (m-·)
theorem yR{c:Code}{e':List (Nat×Value)}{L':List Res}{h':Mem}(k:GC P n w0 h0 c Q e' L' h')(he:e=e':=by first|(dsimp only<;>exact rfl)|exact rfl)(hL:L=L':=by first|(dsimp only<;>exact rfl)|exact rfl)(hh:h=h':=by first|(dsimp only<;>exact rfl)|exact rfl):GC P n w0 h0 c Q e L h:=by subst he hL hh;exact k
theorem tL{l:List Oper}{e':List (Nat×Value)}{L':List Res}{h':Mem}(k:GL P n w0 h0 ops Q l e' L' h')(he:e=e':=by first|(dsimp only<;>exact rfl)|exact rfl)(hL:L=L':=by first|(dsimp only<;>exact rfl)|exact rfl)(hh:h=h':=by first|(dsimp only<;>exact rfl)|exact rfl):GL P n w0 h0 ops Q l e L h:=by subst he hL hh;exact k
end
end Bk
namespace Go.Proofs.YtboaboflnckgoaaGreat
open Bk Go Tryz
set_option linter.unusedVariables false
instance:Und Tryz.prog 2:=⟨_,underlying2⟩
instance:Und Tryz.prog 3:=⟨_,underlying3⟩
instance:Und Tryz.prog 4:=⟨_,underlying4⟩
instance:Und Tryz.prog 5:=⟨_,underlying5⟩
instance:Und Tryz.prog 9:=⟨_,underlying9⟩
instance:Und Tryz.prog 22:=⟨_,underlying22⟩
instance:Und Tryz.prog 23:=⟨_,underlying23⟩
instance:Und Tryz.prog 25:=⟨_,underlying25⟩
instance:Und Tryz.prog 26:=⟨_,underlying26⟩
instance:Und Tryz.prog 27:=⟨_,underlying27⟩
instance:Und Tryz.prog 30:=⟨_,underlying30⟩
instance:Und Tryz.prog 32:=⟨_,underlying32⟩
instance:Und Tryz.prog 33:=⟨_,underlying33⟩
instance:Und Tryz.prog 34:=⟨_,underlying34⟩
instance:Und Tryz.prog 39:=⟨_,underlying39⟩
instance:Und Tryz.prog 44:=⟨_,underlying44⟩
instance:Und Tryz.prog 46:=⟨_,underlying46⟩
instance:Und Tryz.prog 47:=⟨_,underlying47⟩
instance:Und Tryz.prog 48:=⟨_,underlying48⟩
instance:Und Tryz.prog 49:=⟨_,underlying49⟩
instance:Und Tryz.prog 50:=⟨_,underlying50⟩
instance:Und Tryz.prog 52:=⟨_,underlying52⟩
instance:Und Tryz.prog 53:=⟨_,underlying53⟩
instance:Und Tryz.prog 54:=⟨_,underlying54⟩
instance:Und Tryz.prog 55:=⟨_,underlying55⟩
instance:Und Tryz.prog 56:=⟨_,underlying56⟩
instance:Und Tryz.prog 58:=⟨_,underlying58⟩
instance:Und Tryz.prog 73:=⟨_,underlying73⟩
instance:Und Tryz.prog 79:=⟨_,underlying79⟩
instance:Und Tryz.prog 80:=⟨_,underlying80⟩
instance:Und Tryz.prog 81:=⟨_,underlying81⟩
instance:Und Tryz.prog 82:=⟨_,underlying82⟩
instance:Und Tryz.prog 83:=⟨_,underlying83⟩
instance:Und Tryz.prog 96:=⟨_,underlying96⟩
instance:Und Tryz.prog 97:=⟨_,underlying97⟩
instance:Und Tryz.prog 106:=⟨_,underlying106⟩
instance:Und Tryz.prog 108:=⟨_,underlying108⟩
instance:Und Tryz.prog 115:=⟨_,underlying115⟩
instance:Und Tryz.prog 116:=⟨_,underlying116⟩
instance:Und Tryz.prog 117:=⟨_,underlying117⟩
instance:Und Tryz.prog 127:=⟨_,underlying127⟩
instance:Und Tryz.prog 130:=⟨_,underlying130⟩
instance:Und Tryz.prog 137:=⟨_,underlying137⟩
instance:Und Tryz.prog 153:=⟨_,underlying153⟩
instance:Und Tryz.prog 175:=⟨_,underlying175⟩
instance:Und Tryz.prog 189:=⟨_,underlying189⟩
instance:Und Tryz.prog 190:=⟨_,underlying190⟩
instance:Und Tryz.prog 192:=⟨_,underlying192⟩
instance:Und Tryz.prog 193:=⟨_,underlying193⟩
instance:Und Tryz.prog 196:=⟨_,underlying196⟩
instance:Und Tryz.prog 199:=⟨_,underlying199⟩
instance:Und Tryz.prog 200:=⟨_,underlying200⟩
instance:Und Tryz.prog 209:=⟨_,underlying209⟩
instance:Und Tryz.prog 212:=⟨_,underlying212⟩
instance:Und Tryz.prog 232:=⟨_,underlying232⟩
instance:Und Tryz.prog 233:=⟨_,underlying233⟩
instance:Siz Tryz.prog 3:=⟨_,sizeOf3⟩
instance:Siz Tryz.prog 4:=⟨_,sizeOf4⟩
instance:Siz Tryz.prog 5:=⟨_,sizeOf5⟩
instance:Siz Tryz.prog 9:=⟨_,sizeOf9⟩
instance:Siz Tryz.prog 22:=⟨_,sizeOf22⟩
instance:Siz Tryz.prog 26:=⟨_,sizeOf26⟩
instance:Siz Tryz.prog 32:=⟨_,sizeOf32⟩
instance:Siz Tryz.prog 34:=⟨_,sizeOf34⟩
instance:Siz Tryz.prog 46:=⟨_,sizeOf46⟩
instance:Siz Tryz.prog 47:=⟨_,sizeOf47⟩
instance:Siz Tryz.prog 48:=⟨_,sizeOf48⟩
instance:Siz Tryz.prog 50:=⟨_,sizeOf50⟩
instance:Siz Tryz.prog 53:=⟨_,sizeOf53⟩
instance:Siz Tryz.prog 54:=⟨_,sizeOf54⟩
instance:Siz Tryz.prog 56:=⟨_,sizeOf56⟩
instance:Siz Tryz.prog 73:=⟨_,sizeOf73⟩
instance:Siz Tryz.prog 80:=⟨_,sizeOf80⟩
instance:Siz Tryz.prog 81:=⟨_,sizeOf81⟩
instance:Siz Tryz.prog 83:=⟨_,sizeOf83⟩
instance:Siz Tryz.prog 108:=⟨_,sizeOf108⟩
instance:Siz Tryz.prog 116:=⟨_,sizeOf116⟩
instance:Siz Tryz.prog 117:=⟨_,sizeOf117⟩
instance:Siz Tryz.prog 127:=⟨_,sizeOf127⟩
instance:Siz Tryz.prog 193:=⟨_,sizeOf193⟩
instance:Siz Tryz.prog 200:=⟨_,sizeOf200⟩
instance:Agg Tryz.prog 3:=⟨_,isAgg3⟩
instance:Agg Tryz.prog 4:=⟨_,isAgg4⟩
instance:Agg Tryz.prog 5:=⟨_,isAgg5⟩
instance:Agg Tryz.prog 9:=⟨_,isAgg9⟩
instance:Agg Tryz.prog 22:=⟨_,isAgg22⟩
instance:Agg Tryz.prog 26:=⟨_,isAgg26⟩
instance:Agg Tryz.prog 32:=⟨_,isAgg32⟩
instance:Agg Tryz.prog 34:=⟨_,isAgg34⟩
instance:Agg Tryz.prog 46:=⟨_,isAgg46⟩
instance:Agg Tryz.prog 47:=⟨_,isAgg47⟩
instance:Agg Tryz.prog 48:=⟨_,isAgg48⟩
instance:Agg Tryz.prog 50:=⟨_,isAgg50⟩
instance:Agg Tryz.prog 53:=⟨_,isAgg53⟩
instance:Agg Tryz.prog 54:=⟨_,isAgg54⟩
instance:Agg Tryz.prog 56:=⟨_,isAgg56⟩
instance:Agg Tryz.prog 73:=⟨_,isAgg73⟩
instance:Agg Tryz.prog 80:=⟨_,isAgg80⟩
instance:Agg Tryz.prog 81:=⟨_,isAgg81⟩
instance:Agg Tryz.prog 83:=⟨_,isAgg83⟩
instance:Agg Tryz.prog 108:=⟨_,isAgg108⟩
instance:Agg Tryz.prog 116:=⟨_,isAgg116⟩
instance:Agg Tryz.prog 117:=⟨_,isAgg117⟩
instance:Agg Tryz.prog 127:=⟨_,isAgg127⟩
instance:Agg Tryz.prog 200:=⟨_,isAgg200⟩
instance:Inf Tryz.prog 3:=⟨_,zZQ⟩
instance:Inf Tryz.prog 4:=⟨_,zPG⟩
instance:Inf Tryz.prog 5:=⟨_,zZP⟩
instance:Inf Tryz.prog 9:=⟨_,zZO⟩
instance:Inf Tryz.prog 22:=⟨_,zPH⟩
instance:Inf Tryz.prog 26:=⟨_,zP⟩
instance:Inf Tryz.prog 32:=⟨_,zW1⟩
instance:Inf Tryz.prog 34:=⟨_,iS⟩
instance:Inf Tryz.prog 46:=⟨_,zW0⟩
instance:Inf Tryz.prog 47:=⟨_,zWZ⟩
instance:Inf Tryz.prog 48:=⟨_,zWY⟩
instance:Inf Tryz.prog 50:=⟨_,zWX⟩
instance:Inf Tryz.prog 53:=⟨_,zWW⟩
instance:Inf Tryz.prog 54:=⟨_,zWV⟩
instance:Inf Tryz.prog 56:=⟨_,zWU⟩
instance:Inf Tryz.prog 73:=⟨_,zWT⟩
instance:Inf Tryz.prog 80:=⟨_,zWS⟩
instance:Inf Tryz.prog 81:=⟨_,zWR⟩
instance:Inf Tryz.prog 83:=⟨_,zWQ⟩
instance:Inf Tryz.prog 97:=⟨_,zWP⟩
instance:Inf Tryz.prog 108:=⟨_,zTI⟩
instance:Inf Tryz.prog 116:=⟨_,zTH⟩
instance:Inf Tryz.prog 117:=⟨_,zTG⟩
instance:Inf Tryz.prog 127:=⟨_,zTF⟩
instance:Inf Tryz.prog 193:=⟨_,zTE⟩
instance:Inf Tryz.prog 200:=⟨_,zTD⟩
theorem gD{n:Nat}{w0:World}{h0 h:Mem}{Q:Exit→Act→World→Prop}{id:Nat}{l:List Oper}{e:List (Nat×Value)}{L:List Res}{ord:List (Nat×Kd)}(m:Nat)(ord0:List (Nat×Kd))(hchk:(Region.noSelect l.toArray&&rH l.toArray []&&(([]:Als).all fun x=>decide (x.1<m))&&chk l.toArray m ord0 (Array.replicate l.length false) (([]:Als).map (·.1)))=true)(k:W Tryz.prog n w0 h0 l.toArray Q L [] ord e L h)(ho:ord0=ord:=by first|(simp only[qq,Nat.reduceAdd]<;>exact rfl)|exact rfl):GC Tryz.prog n w0 h0 (.region id l.toArray true) Q e L h:=tF m _ [] ord0 kQ nX hchk nX (fun r hr=>hr) (ho▸k)
theorem zJZ{P:Program}{n:Nat}{w0:World}{h0 h:Mem}{e:List (Nat×Value)}{L:List Res}{ds:Option Tmp}{ty:TypeId}{ps:String}{af:Array Edge}{gd:Option (Nat×Bool)}{t:TypeId}{x:Operand}{b k:Nat}{E:TypeId}{cs:List Value}{u v s:Value}{d:TypeDesc}(hm:.var b E cs∈L)(hu:P.underlying t=some d)(hd:d.isRow=true)(hi:(P.info? t).map (·.size)=some 3)(hx:zI e x=some (vP b k))(hv:(cs.drop k).take 3=[u,v,s]):OpV P n w0 h0 ⟨ds,.load t x,ty,ps,af,gd⟩ e L h (.agg #[u,v,s]):=zHN (vs:=[u,v,s]) hm hu hd hi hx hv
theorem ov{P:Program}{n:Nat}{w0:World}{h0 h:Mem}{o:Oper}{e:List (Nat×Value)}{L:List Res}{v:Value}(f:OpV P n w0 h0 o e L h v:=by first|exact yL rfl rfl|exact lL rfl rfl|exact fT rfl rfl|exact oI rfl rfl|exact bG rfl rfl|exact oF rfl rfl|exact yB rfl rfl (by omega) (by omega)|exact qU rfl rfl (by omega) (by omega)|exact wO uu rfl (by with_reducible first|assumption|exact Us.up (by assumption))|exact uS uu rfl (by with_reducible first|assumption|exact Rp.Is.up (by assumption))|exact kL (vs:=[_,_]) rfl rfl|exact kL (vs:=[_,_,_]) rfl rfl|exact rK rfl rfl|exact(xU uu (by simp only[List.getElem?_toArray,List.getElem?_cons_succ,List.getElem?_cons_zero]<;>exact rfl) uz rfl).cv (congrArg (vP _) (by(simp only[Nat.reduceAdd,Nat.reduceMul,Nat.zero_add,Nat.add_zero,Nat.zero_mul])<;>exact rfl))|exact(xW 0 uu uz rfl rfl rfl (by decide)).cv (congrArg (vP _) (by(simp only[Nat.reduceAdd,Nat.reduceMul,Nat.zero_add,Nat.add_zero,Nat.zero_mul])<;>exact rfl))|exact(xW 1 uu uz rfl rfl rfl (by decide)).cv (congrArg (vP _) (by(simp only[Nat.reduceAdd,Nat.reduceMul,Nat.zero_add,Nat.add_zero,Nat.zero_mul])<;>exact rfl))|exact(xW 2 uu uz rfl rfl rfl (by decide)).cv (congrArg (vP _) (by(simp only[Nat.reduceAdd,Nat.reduceMul,Nat.zero_add,Nat.add_zero,Nat.zero_mul])<;>exact rfl))|exact zJZ (by first|exact mh0|exact mh1|exact mh2|exact mh3|exact mh4|exact mh5) uu (by exact rfl) us_ rfl rfl|exact rM rfl rfl|exact zJX rfl|exact kY rfl rfl|exact fD rfl rfl|exact zCE rfl rfl|exact sS rfl rfl|exact lK rfl rfl|exact oH (by first|exact mh0|exact mh1|exact mh2|exact mh3|exact mh4|exact mh5) ua rfl rfl|exact gW (k:=.u64) (k':=.u32) (W:=4294967296) uu uu rfl rfl rfl|exact wP (k:=.u32) (k':=.u64) (W:=18446744073709551616) uu uu rfl rfl rfl (by omega)|exact fU (k:=.u64) (W:=18446744073709551616) rfl rfl rfl rfl (by omega)|exact oG (k:=.u64) (W:=18446744073709551616) rfl rfl rfl rfl (by omega)|exact kF (k:=.u64) (s:=32) (yk:=.u64) rfl rfl rfl (by simp only[ub];omega)|exact xE ua rfl (by with_reducible first|assumption|exact Us.up (by assumption)) (by omega)):OpV P n w0 h0 o e L h v:=f
theorem ovq{P:Program}{n:Nat}{w0:World}{h0 h:Mem}{o:Oper}{e:List (Nat×Value)}{v:Value}(f:∀h' L',OpV P n w0 h0 o e L' h' v:=by intro h' L';first|exact yL rfl rfl|exact lL rfl rfl|exact fT rfl rfl|exact oI rfl rfl|exact bG rfl rfl|exact oF rfl rfl|exact yB rfl rfl (by omega) (by omega)|exact qU rfl rfl (by omega) (by omega)|exact wO uu rfl (by with_reducible first|assumption|exact Us.up (by assumption))|exact uS uu rfl (by with_reducible first|assumption|exact Rp.Is.up (by assumption))|exact kL (vs:=[_,_]) rfl rfl|exact kL (vs:=[_,_,_]) rfl rfl|exact rK rfl rfl|exact(xU uu (by simp only[List.getElem?_toArray,List.getElem?_cons_succ,List.getElem?_cons_zero]<;>exact rfl) uz rfl).cv (congrArg (vP _) (by(simp only[Nat.reduceAdd,Nat.reduceMul,Nat.zero_add,Nat.add_zero,Nat.zero_mul])<;>exact rfl))|exact(xW 0 uu uz rfl rfl rfl (by decide)).cv (congrArg (vP _) (by(simp only[Nat.reduceAdd,Nat.reduceMul,Nat.zero_add,Nat.add_zero,Nat.zero_mul])<;>exact rfl))|exact(xW 1 uu uz rfl rfl rfl (by decide)).cv (congrArg (vP _) (by(simp only[Nat.reduceAdd,Nat.reduceMul,Nat.zero_add,Nat.add_zero,Nat.zero_mul])<;>exact rfl))|exact(xW 2 uu uz rfl rfl rfl (by decide)).cv (congrArg (vP _) (by(simp only[Nat.reduceAdd,Nat.reduceMul,Nat.zero_add,Nat.add_zero,Nat.zero_mul])<;>exact rfl))|exact zJZ (by first|exact mh0|exact mh1|exact mh2|exact mh3|exact mh4|exact mh5) uu (by exact rfl) us_ rfl rfl|exact rM rfl rfl|exact zJX rfl|exact kY rfl rfl|exact fD rfl rfl|exact zCE rfl rfl|exact sS rfl rfl|exact lK rfl rfl|exact oH (by first|exact mh0|exact mh1|exact mh2|exact mh3|exact mh4|exact mh5) ua rfl rfl|exact gW (k:=.u64) (k':=.u32) (W:=4294967296) uu uu rfl rfl rfl|exact wP (k:=.u32) (k':=.u64) (W:=18446744073709551616) uu uu rfl rfl rfl (by omega)|exact fU (k:=.u64) (W:=18446744073709551616) rfl rfl rfl rfl (by omega)|exact oG (k:=.u64) (W:=18446744073709551616) rfl rfl rfl rfl (by omega)|exact kF (k:=.u64) (s:=32) (yk:=.u64) rfl rfl rfl (by simp only[ub];omega)|exact xE ua rfl (by with_reducible first|assumption|exact Us.up (by assumption)) (by omega)):∀h' L',OpV P n w0 h0 o e L' h' v:=f
theorem zTR{α:Type}{ρ:Rp α}{h h':Mem}{v:Value}{x:α}(r:ρ.Is h v x)(hh:MLe h h'):ρ.Is h' v x:=r.mono hh
theorem ovm{P:Program}{n:Nat}{w0:World}{h0 h:Mem}{o:Oper}{e:List (Nat×Value)}{R:List Res}{v:Value}(f:∀h' L',MLe h h'→(∀r∈R,r∈L')→OpV P n w0 h0 o e L' h' v:=by intro h' L' hh hR;first|exact yL rfl rfl|exact lL rfl rfl|exact fT rfl rfl|exact oI rfl rfl|exact bG rfl rfl|exact oF rfl rfl|exact yB rfl rfl (by omega) (by omega)|exact qU rfl rfl (by omega) (by omega)|exact wO uu rfl (Us.mono (by with_reducible first|assumption|exact Us.up (by assumption)) hh)|exact uS uu rfl (zTR (by with_reducible first|assumption|exact Rp.Is.up (by assumption)) hh)|exact kL (vs:=[_,_]) rfl rfl|exact kL (vs:=[_,_,_]) rfl rfl|exact rK rfl rfl|exact(xU uu (by simp only[List.getElem?_toArray,List.getElem?_cons_succ,List.getElem?_cons_zero]<;>exact rfl) uz rfl).cv (congrArg (vP _) (by(simp only[Nat.reduceAdd,Nat.reduceMul,Nat.zero_add,Nat.add_zero,Nat.zero_mul])<;>exact rfl))|exact(xW 0 uu uz rfl rfl rfl (by decide)).cv (congrArg (vP _) (by(simp only[Nat.reduceAdd,Nat.reduceMul,Nat.zero_add,Nat.add_zero,Nat.zero_mul])<;>exact rfl))|exact(xW 1 uu uz rfl rfl rfl (by decide)).cv (congrArg (vP _) (by(simp only[Nat.reduceAdd,Nat.reduceMul,Nat.zero_add,Nat.add_zero,Nat.zero_mul])<;>exact rfl))|exact(xW 2 uu uz rfl rfl rfl (by decide)).cv (congrArg (vP _) (by(simp only[Nat.reduceAdd,Nat.reduceMul,Nat.zero_add,Nat.add_zero,Nat.zero_mul])<;>exact rfl))|exact zJZ (hR _ (by first|exact mh0|exact mh1|exact mh2|exact mh3|exact mh4|exact mh5)) uu (by exact rfl) us_ rfl rfl|exact rM rfl rfl|exact zJX rfl|exact kY rfl rfl|exact fD rfl rfl|exact zCE rfl rfl|exact sS rfl rfl|exact lK rfl rfl|exact oH (hR _ (by first|exact mh0|exact mh1|exact mh2|exact mh3|exact mh4|exact mh5)) ua rfl rfl|exact gW (k:=.u64) (k':=.u32) (W:=4294967296) uu uu rfl rfl rfl|exact wP (k:=.u32) (k':=.u64) (W:=18446744073709551616) uu uu rfl rfl rfl (by omega)|exact fU (k:=.u64) (W:=18446744073709551616) rfl rfl rfl rfl (by omega)|exact oG (k:=.u64) (W:=18446744073709551616) rfl rfl rfl rfl (by omega)|exact kF (k:=.u64) (s:=32) (yk:=.u64) rfl rfl rfl (by simp only[ub];omega)|exact xE ua rfl (Us.mono (by with_reducible first|assumption|exact Us.up (by assumption)) hh) (by omega)):∀h' L',MLe h h'→(∀r∈R,r∈L')→OpV P n w0 h0 o e L' h' v:=f
theorem isGC{P:Program}{n:Nat}{w0:World}{h0 h:Mem}{Q:Exit→Act→World→Prop}{e:List (Nat×Value)}{L:List Res}{c:Code}(k:GC P n w0 h0 c Q e L h):GC P n w0 h0 c Q e L h:=k
theorem isGQ{n:Nat}{w0:World}{h0 h:Mem}{Q:Exit→Act→World→Prop}{e:List (Nat×Value)}{L:List Res}{x:Exit}(k:GQ n w0 h0 Q x e L h):GQ n w0 h0 Q x e L h:=k
theorem isGL{P:Program}{n:Nat}{w0:World}{h0 h:Mem}{Q:Exit→Act→World→Prop}{e:List (Nat×Value)}{L:List Res}{ops:Array Oper}{l:List Oper}(k:GL P n w0 h0 ops Q l e L h):GL P n w0 h0 ops Q l e L h:=k
theorem isW{P:Program}{n:Nat}{w0:World}{h0 h:Mem}{Q:Exit→Act→World→Prop}{e:List (Nat×Value)}{L:List Res}{R:List Res}{ops:Array Oper}{al:Als}{r:List (Nat×Kd)}(k:W P n w0 h0 ops Q R al r e L h):W P n w0 h0 ops Q R al r e L h:=k
structure Kp(p:Prop):Prop where out:p
theorem isGV{P:Program}{n:Nat}{w0:World}{h0 h:Mem}{Q:Exit→Act→World→Prop}{e:List (Nat×Value)}{L:List Res}{ops:Array Oper}{rest:List Oper}{d:Nat}{op:Op}{ty:TypeId}{ps:String}{af:Array Edge}(k:GL P n w0 h0 ops Q (⟨some d,op,ty,ps,af,none⟩::rest) e L h):GL P n w0 h0 ops Q (⟨some d,op,ty,ps,af,none⟩::rest) e L h:=k
theorem isMV{P:Program}{n:Nat}{w0:World}{h0 h:Mem}{Q:Exit→Act→World→Prop}{e:List (Nat×Value)}{L:List Res}{ops:Array Oper}{rest:List Oper}{d:Nat}{x:Operand}{ty:TypeId}{ps:String}{af:Array Edge}(k:GL P n w0 h0 ops Q (⟨some d,.move x,ty,ps,af,none⟩::rest) e L h):GL P n w0 h0 ops Q (⟨some d,.move x,ty,ps,af,none⟩::rest) e L h:=k
theorem isAS{P:Program}{n:Nat}{w0:World}{h0 h:Mem}{Q:Exit→Act→World→Prop}{e:List (Nat×Value)}{L:List Res}{ops:Array Oper}{rest:List Oper}{d:Nat}{x:Operand}{ty:TypeId}{ps:String}{af:Array Edge}(k:GL P n w0 h0 ops Q (⟨some d,.assign x,ty,ps,af,none⟩::rest) e L h):GL P n w0 h0 ops Q (⟨some d,.assign x,ty,ps,af,none⟩::rest) e L h:=k
theorem st{G G':Prop}(k:G')(f:Kp G'→G:=by intro k;first|((with_reducible refine isGL ?_);first|((with_reducible refine isMV ?_);first|exact mv (v:=vI _) rfl rfl k.out|exact mv rfl rfl k.out)|((with_reducible refine isAS ?_);first|exact asg (v:=vI _) rfl rfl k.out|exact asg rfl rfl k.out)|with_reducible exact zR k.out|((with_reducible refine isGV ?_);refine gv ov rfl ?_;exact k.out)|exact aV rfl rfl rfl rfl rfl rfl k.out|exact iJ rfl rfl rfl k.out|exact zUX rfl rfl rfl rfl rfl k.out|exact zR k.out|exact mv (v:=vI _) rfl rfl k.out|exact mv rfl rfl k.out|exact asg (v:=vI _) rfl rfl k.out|exact asg rfl rfl k.out|(refine gv ov rfl ?_;exact k.out))|((with_reducible refine isGC ?_);first|with_reducible exact zL k.out|with_reducible exact zE k.out|with_reducible exact wT k.out|with_reducible exact uQ k.out|with_reducible exact kS k.out|with_reducible exact bP k.out|exact zEX rfl k.out|exact zEY rfl k.out)|((with_reducible refine isGQ ?_);first|with_reducible exact zH k.out|with_reducible exact tN k.out|with_reducible exact uK k.out|with_reducible exact kR k.out|with_reducible exact aI k.out|with_reducible exact zMH k.out|exact zGC rfl k.out)|((with_reducible refine isW ?_);first|with_reducible exact rD k.out|exact qD rfl rfl rfl k.out|exact zDM rfl rfl rfl k.out|exact wY rfl rfl rfl rfl rfl k.out|exact zO1 rfl rfl rfl rfl k.out|(refine wF rfl ovq rfl ?_;exact k.out)|(refine w_q rfl ovm rfl ?_;exact k.out)|(refine yP rfl rfl rfl ovm rfl ?_;exact k.out)|exact rD k.out)):G:=f ⟨k⟩
theorem go1{G G':Prop}(k:G')(f:Kp G'→G:=by intro k;refine st ?_;exact k.out):G:=f ⟨k⟩
theorem go2{G G':Prop}(k:G')(f:Kp G'→G:=by intro k;refine st ?_;refine st ?_;exact k.out):G:=f ⟨k⟩
theorem go3{G G':Prop}(k:G')(f:Kp G'→G:=by intro k;refine st ?_;refine st ?_;refine st ?_;exact k.out):G:=f ⟨k⟩
theorem go4{G G':Prop}(k:G')(f:Kp G'→G:=by intro k;refine st ?_;refine st ?_;refine st ?_;refine st ?_;exact k.out):G:=f ⟨k⟩
theorem go5{G G':Prop}(k:G')(f:Kp G'→G:=by intro k;refine st ?_;refine st ?_;refine st ?_;refine st ?_;refine st ?_;exact k.out):G:=f ⟨k⟩
theorem go6{G G':Prop}(k:G')(f:Kp G'→G:=by intro k;refine st ?_;refine st ?_;refine st ?_;refine st ?_;refine st ?_;refine st ?_;exact k.out):G:=f ⟨k⟩
theorem go7{G G':Prop}(k:G')(f:Kp G'→G:=by intro k;refine st ?_;refine st ?_;refine st ?_;refine st ?_;refine st ?_;refine st ?_;refine st ?_;exact k.out):G:=f ⟨k⟩
theorem go8{G G':Prop}(k:G')(f:Kp G'→G:=by intro k;refine st ?_;refine st ?_;refine st ?_;refine st ?_;refine st ?_;refine st ?_;refine st ?_;refine st ?_;exact k.out):G:=f ⟨k⟩
theorem go9{G G':Prop}(k:G')(f:Kp G'→G:=by intro k;refine go8 ?_;refine st ?_;exact k.out):G:=f ⟨k⟩
theorem vX{G G':Prop}(k:G')(f:Kp G'→G:=by intro k;refine go8 ?_;refine st ?_;refine st ?_;exact k.out):G:=f ⟨k⟩
theorem uO{G G':Prop}(k:G')(f:Kp G'→G:=by intro k;refine go8 ?_;refine st ?_;refine st ?_;refine st ?_;exact k.out):G:=f ⟨k⟩
theorem uT{G G':Prop}(k:G')(f:Kp G'→G:=by intro k;refine go8 ?_;refine st ?_;refine st ?_;refine st ?_;refine st ?_;exact k.out):G:=f ⟨k⟩
theorem sM{G G':Prop}(k:G')(f:Kp G'→G:=by intro k;refine go8 ?_;refine st ?_;refine st ?_;refine st ?_;refine st ?_;refine st ?_;exact k.out):G:=f ⟨k⟩
theorem tO{G G':Prop}(k:G')(f:Kp G'→G:=by intro k;refine go8 ?_;refine st ?_;refine st ?_;refine st ?_;refine st ?_;refine st ?_;refine st ?_;exact k.out):G:=f ⟨k⟩
theorem j1{G G':Prop}(k:G')(f:Kp G'→G:=by intro k;refine go8 ?_;refine st ?_;refine st ?_;refine st ?_;refine st ?_;refine st ?_;refine st ?_;refine st ?_;exact k.out):G:=f ⟨k⟩
theorem zAC{G G':Prop}(k:G')(f:Kp G'→G:=by intro k;refine go8 ?_;refine go8 ?_;exact k.out):G:=f ⟨k⟩
theorem dE{G G':Prop}(k:G')(f:Kp G'→G:=by intro k;refine go8 ?_;refine go8 ?_;refine st ?_;exact k.out):G:=f ⟨k⟩
theorem zRO{G G':Prop}(k:G')(f:Kp G'→G:=by intro k;refine go8 ?_;refine go8 ?_;refine st ?_;refine st ?_;exact k.out):G:=f ⟨k⟩
theorem yAI{G G':Prop}(k:G')(f:Kp G'→G:=by intro k;refine go8 ?_;refine go8 ?_;refine st ?_;refine st ?_;refine st ?_;exact k.out):G:=f ⟨k⟩
theorem go20{G G':Prop}(k:G')(f:Kp G'→G:=by intro k;refine go8 ?_;refine go8 ?_;refine st ?_;refine st ?_;refine st ?_;refine st ?_;exact k.out):G:=f ⟨k⟩
theorem go22{G G':Prop}(k:G')(f:Kp G'→G:=by intro k;refine go8 ?_;refine go8 ?_;refine st ?_;refine st ?_;refine st ?_;refine st ?_;refine st ?_;refine st ?_;exact k.out):G:=f ⟨k⟩
theorem go23{G G':Prop}(k:G')(f:Kp G'→G:=by intro k;refine go8 ?_;refine go8 ?_;refine st ?_;refine st ?_;refine st ?_;refine st ?_;refine st ?_;refine st ?_;refine st ?_;exact k.out):G:=f ⟨k⟩
theorem go30{G G':Prop}(k:G')(f:Kp G'→G:=by intro k;refine go8 ?_;refine go8 ?_;refine go8 ?_;refine st ?_;refine st ?_;refine st ?_;refine st ?_;refine st ?_;refine st ?_;exact k.out):G:=f ⟨k⟩
end Go.Proofs.YtboaboflnckgoaaGreat
