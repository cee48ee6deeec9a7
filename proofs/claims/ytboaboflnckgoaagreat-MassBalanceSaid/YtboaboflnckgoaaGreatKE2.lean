/- Texts that the proof needs, part 2. -/
import Derived.Test.YtboaboflnckgoaaGreatKE1
set_option linter.unusedVariables false
set_option linter.unusedSimpArgs false
noncomputable section
namespace Bk
open Go Go.RowKit
open Classical
def sg(s:Prop)(n:Nat):Int:=if s then -(n:Int) else n
theorem oK{s:Prop}(h:s)(n:Nat):sg s n= -(n:Int):=zau h
theorem lO{s:Prop}(h:¬s)(n:Nat):sg s n=n:=zae h
theorem iH(s:Prop)(n:Nat):(sg s n).natAbs=n:=by
 by_cases h:s
 · rw[oK h];omega
 · rw[lO h];omega
theorem zYB(s:Prop):sg s 0=0:=by
 by_cases h:s
 · rw[oK h];omega
 · rw[lO h];omega
theorem zTH(s:Prop)(n:Nat):sg s n<0↔s/\n≠0:=by
 by_cases h:s
 · rw[oK h];exact⟨λh1=>⟨h,by omega⟩,λh1=>by omega⟩
 · rw[lO h];exact⟨λh1=>by omega,λh1=>absurd h1.1 h⟩
theorem yCT(s:Prop){n g:Nat}(h:g∣n):sg s n/(g:Int)=sg s (n/g):=by
 by_cases hs:s
 · rw[oK hs,oK hs]
   obtain⟨k,rfl⟩:=h
   rcases z8u g with h0|h0
   · subst h0;simp
   · rw[Nat.mul_div_cancel_left _ h0,zeu,<-Int.mul_neg,Int.mul_ediv_cancel_left _ zos]
 · rw[lO hs,lO hs];omega
theorem yCS(q:Rat):sg (q.num<0) q.num.natAbs=q.num:=by
 by_cases h:q.num<0
 · rw[oK h];omega
 · rw[lO h];omega
def wC(d:Nat):Nat:=if d=1 then 0 else d
theorem cY:wC 1=0:=rfl
theorem bQ{d:Nat}(h:d≠1):wC d=d:=zae h
theorem mU{d:Nat}(h0:d≠0):zB (wC d)=[]↔d=1:=by
 by_cases h:d=1
 · subst h;rw[cY,yR];simp
 · rw[bQ h]
   exact⟨λe=>by have:=yN.2 h0;rw[e] at this;simp at this,λe=>absurd e h⟩
theorem uP(q:Rat):(if zB (wC q.den)=[] then[1] else zB (wC q.den))=zB q.den:=by
 by_cases h:q.den=1
 · rw[zau ((mU q.den_nz).2 h),h,jT zos zos]
 · rw[zae (λe=>h ((mU q.den_nz).1 e)),bQ h]
def wR(h:Mem)(v:Value)(q:Rat):Prop:=∃vn vd,v=.agg #[vB (q.num<0),vn,vd]/\Us .u32 h vn (zB q.num.natAbs)/\Us .u32 h vd (zB (wC q.den))
theorem zb:vB ((0:Rat).num<0)=.bool false:=yV zov
theorem zCA(h:Mem):Us .u32 h (.slice none 0 0) (zB (0:Rat).num.natAbs):=by
 have:zB (0:Rat).num.natAbs=[]:=yR;rw[this];exact Us.nil _ _
theorem zCB(h:Mem):Us .u32 h (.slice none 0 0) (zB (wC (0:Rat).den)):=by
 have:zB (wC (0:Rat).den)=[]:=yR;rw[this];exact Us.nil _ _
theorem wR.zero(h:Mem):wR h (.agg #[vB ((0:Rat).num<0),.slice none 0 0,.slice none 0 0]) 0:=⟨_,_,rfl,zCA _,zCB _⟩
theorem zBR{s:Prop}{n d:Nat}(hd:d≠0):(mkRat (sg s n) d).num=sg s (n/Nat.gcd n d):=by
 rw[Rat.num_mkRat,zae hd,iH,y0u];exact yCT s (yri n d)
theorem zG3{s:Prop}{n d:Nat}(hd:d≠0):(mkRat (sg s n) d).den=d/Nat.gcd n d:=by
 rw[Rat.den_mkRat,zae hd,iH,y0u]
theorem wR.make{h:Mem}{s:Prop}{n d:Nat}{vn vd:Value}(hn0:n≠0)(hd0:d≠0)(hn:Us .u32 h vn (zB (n/Nat.gcd n d)))(hd:Us .u32 h vd (zB (wC (d/Nat.gcd n d)))):wR h (.agg #[vB s,vn,vd]) (mkRat (sg s n) d):=by
 have C:n/Nat.gcd n d≠0:=by
  have h1:=yri n d;have h2:=yhi d (zfe hn0);exact yku (Nat.div_pos (yyu (zfe hn0) h1) h2)
 refine⟨vn,vd,?_,?_,?_⟩
 · have:vB ((mkRat (sg s n) d).num<0)=vB s:=by
    rw[zBR hd0];exact tB ⟨λh=>((zTH _ _).1 h).1,λh=>(zTH _ _).2 ⟨h,C⟩⟩
   rw[this]
 · rw[zBR hd0,iH];exact hn
 · rw[zG3 hd0];exact hd
def eZ(q:Rat):Rat:=if q.num<0 then -q else q
theorem zFQ(q:Rat):(eZ q).num=q.num.natAbs:=by
 unfold eZ
 by_cases h:q.num<0
 · rw[zau h,Rat.neg_num];omega
 · rw[zae h];omega
theorem zL8(q:Rat):(eZ q).den=q.den:=by
 unfold eZ
 by_cases h:q.num<0
 · rw[zau h,Rat.neg_den]
 · rw[zae h]
theorem wR.abs{h:Mem}{q:Rat}{vn vd:Value}(hn:Us .u32 h vn (zB q.num.natAbs))(hd:Us .u32 h vd (zB (wC q.den))):wR h (.agg #[.bool false,vn,vd]) (eZ q):=by
 refine⟨vn,vd,?_,?_,?_⟩
 · rw[yV (by rw[zFQ];omega)]
 · rw[zFQ];exact hn
 · rw[zL8];exact hd
theorem wR.negB{h:Mem}{q:Rat}{vn vd:Value}(hn:Us .u32 h vn (zB q.num.natAbs))(hd:Us .u32 h vd (zB (wC q.den))):wR h (.agg #[vB (¬q.num<0/\(0:Int)<↑(zB q.num.natAbs).length),vn,vd]) (-q):=by
 refine⟨vn,vd,?_,?_,?_⟩
 · have:vB ((-q).num<0)=vB (¬q.num<0/\(0:Int)<↑(zB q.num.natAbs).length):=by
    have h1:=yN (n:=q.num.natAbs);rw[Rat.neg_num];exact tB ⟨λh=>⟨by omega,by omega⟩,λh=>by omega⟩
   rw[this]
 · rw[Rat.neg_num,Int.natAbs_neg];exact hn
 · rw[Rat.neg_den];exact hd
theorem zE0{m n k:Nat}(h1:(zB m).length<=k)(h2:(zB n).length<=k):(zB (m+n)).length<=k+1:=by
 refine uE ?_;have D:=zku (uM m) (ziu zov h1);have C:=zku (uM n) (ziu zov h2);rw[zke];generalize 4294967296^k=p at *;omega
theorem putL{xs:List Nat}{lo n:Nat}(h:lo+1<=xs.length)(h0:n≠0)(hn:n<4294967296):xs.set lo n=xs.take lo++zB n++xs.drop (lo+(zB n).length):=by
 rw[jT h0 hn,yee,zau zos];simp
theorem yF1{xs:List Nat}{lo n:Nat}(h:lo+2<=xs.length)(hn:n<18446744073709551616)(hn':4294967296<=n):(xs.set lo (n%4294967296)).set (lo+1) (n/4294967296)=xs.take lo++zB n++xs.drop (lo+(zB n).length):=by
 have e:zB n=[n%4294967296,n/4294967296]:=by rw[kH zos,jT (t:=n/4294967296) zos zos]
 rw[e]
 apply List.ext_getElem?
 intro i;simp only[ypu,lS,List.getElem?_append,lAz,zei,lC,lN,zmu,zwi]
 rcases Nat.lt_trichotomy i lo with hi|hi|hi
 · rw[zae zos,zae zos,zau zos,zau zos,zau zos]
 · subst hi
   rw[zae zos,zau I,zau zos,zau zos,zae zos];simp[show min i xs.length=i by omega]
 · by_cases h1:i=lo+1
   · subst h1
     rw[zau I,zau zos,zau zos,zae zos];simp[show min lo xs.length=lo by omega]
   · rw[zae zos,zae zos,zae zos]
     congr 1
     omega
def rz(s:Prop)(n:Rat):Rat:=if s then -n else n
theorem oY{s:Prop}(h:s)(n:Rat):rz s n= -n:=zau h
theorem oL{s:Prop}(h:¬s)(n:Rat):rz s n=n:=zae h
theorem rW(s:Prop)(n d:Nat):mkRat (sg s n) d=rz s n/d:=by
 rw[Rat.mkRat_eq_div]
 by_cases h:s
 · rw[oK h,oY h,z6e];rfl
 · rw[lO h,oL h];rfl
theorem kC(q:Rat):mkRat (sg (q.num<0) q.num.natAbs) q.den=q:=by rw[yCS,Rat.mkRat_self]
theorem bR{d:Nat}(h:d≠0):(d:Rat)≠0:=λe=>h (Rat.natCast_eq_zero_iff.1 e)
theorem zAK(s:Prop)(d:Nat):mkRat (sg s 0) d=0:=by rw[zYB,Rat.zero_mkRat]
theorem zAJ(s:Prop)(n:Nat):mkRat (sg s n) 0=0:=by rw[Rat.mkRat_zero]
theorem zIW{s t:Prop}(h:s↔t)(n d:Nat):mkRat (sg s n) d=mkRat (sg t n) d:=by rw[propext h]
theorem zVC(s:Prop){n m d e:Nat}(hd:d≠0)(he:e≠0):mkRat (sg s n) d+mkRat (sg s m) e=mkRat (sg s (n*e+m*d)) (d*e):=by
 rw[rW,rW,rW,zru,yti,zru,zru];have h1:=bR hd;have h2:=bR he;generalize (d:Rat)=D at *;generalize (e:Rat)=E at *;generalize (n:Rat)=N at *;generalize (m:Rat)=M at *
 by_cases h:s
 · rw[oY h,oY h,oY h];grind
 · rw[oL h,oL h,oL h];grind
theorem zN4{s t:Prop}(hst:¬(s↔t)){n m d e:Nat}(hd:d≠0)(he:e≠0)(hle:m*d<=n*e):mkRat (sg s n) d+mkRat (sg t m) e=mkRat (sg s (n*e-m*d)) (d*e):=by
 have G:((n*e-m*d:Nat):Rat)=n*e-m*d:=by
  have h3:n*e-m*d+m*d=n*e:=by omega
  have H:((n*e-m*d+m*d:Nat):Rat)=((n*e:Nat):Rat):=by rw[h3]
  rw[yti,zru,zru] at H;generalize ((n*e-m*d:Nat):Rat)=X at *;grind
 rw[rW,rW,rW,G,zru];have h1:=bR hd;have h2:=bR he;generalize (d:Rat)=D at *;generalize (e:Rat)=E at *;generalize (n:Rat)=N at *;generalize (m:Rat)=M at *
 by_cases h:s
 · have C:¬t:=λC=>hst ⟨λ_=>C,λ_=>h⟩
   rw[oY h,oL C,oY h];grind
 · have C:t:=zdu λC=>hst ⟨λa=>absurd a h,λa=>absurd a C⟩
   rw[oL h,oY C,oL h];grind
theorem zPQ{s t:Prop}(hst:¬(s↔t)){n m d e:Nat}(hd:d≠0)(he:e≠0)(hle:n*e<=m*d):mkRat (sg s n) d+mkRat (sg t m) e=mkRat (sg t (m*d-n*e)) (d*e):=by
 rw[Rat.add_comm,zN4 (λh=>hst h.symm) he hd hle,zui e d]
theorem zVB(s t:Prop)(n m d e:Nat):mkRat (sg s n) d*mkRat (sg t m) e=mkRat (sg (¬(s↔t)) (n*m)) (d*e):=by
 rw[Rat.mkRat_mul_mkRat]
 congr 1
 by_cases h:s<;>by_cases h':t
 · rw[oK h,oK h',lO (by simp[h,h']),zeu,Int.neg_mul_neg]
 · rw[oK h,lO h',oK (by simp[h,h']),zeu,Int.neg_mul]
 · rw[lO h,oK h',oK (by simp[h,h']),zeu,Int.mul_neg]
 · rw[lO h,lO h',lO (by simp[h,h']),zeu]
theorem zN5(s t:Prop){n m d e:Nat}(hd:d≠0)(hm:m≠0)(he:e≠0):mkRat (sg s n) d/mkRat (sg t m) e=mkRat (sg (¬(s↔t)) (n*e)) (d*m):=by
 rw[rW,rW,rW,zru,zru];have h1:=bR hd;have h2:=bR hm;have h3:=bR he;generalize (d:Rat)=D at *;generalize (e:Rat)=E at *;generalize (n:Rat)=N at *;generalize (m:Rat)=M at *
 by_cases h:s<;>by_cases h':t
 · rw[oY h,oY h',oL (by simp[h,h'])];grind
 · rw[oY h,oL h',oY (by simp[h,h'])];grind
 · rw[oL h,oY h',oY (by simp[h,h'])];grind
 · rw[oL h,oL h',oL (by simp[h,h'])];grind
theorem yDK(s:Prop)(n d:Nat):-mkRat (sg s n) d=mkRat (sg (¬s) n) d:=by
 rw[Rat.neg_mkRat]
 congr 1
 by_cases h:s
 · rw[oK h,lO (by simp[h])];omega
 · rw[lO h,oK h]
theorem zES(s:Prop)(n d:Nat){k:Nat}(hk:k≠0):mkRat (sg s (n*k)) (d*k)=mkRat (sg s n) d:=by
 rw[rW,rW,zru,zru];have h1:=bR hk
 by_cases hd:d=0
 · subst hd
   have:((0:Nat):Rat)=0:=I;rw[this];grind
 have h2:=bR hd;generalize (d:Rat)=D at *;generalize (k:Rat)=K at *;generalize (n:Rat)=N at *
 by_cases h:s
 · rw[oY h,oY h];grind
 · rw[oL h,oL h];grind
def lq(q:Rat):Nat:=max (zB q.num.natAbs).length (zB q.den).length
theorem wM(q:Rat):(zB q.num.natAbs).length<=lq q:=Nat.le_max_left _ _
theorem wU(q:Rat):(zB q.den).length<=lq q:=Nat.le_max_right _ _
theorem zWP(d:Nat):(zB (wC d)).length<=(zB d).length:=by
 by_cases h:d=1
 · subst h;rw[cY,yR];simp
 · rw[bQ h];exact zbe _
theorem wI(q:Rat):(zB (wC q.den)).length<=lq q:=zci (zWP _) (wU q)
theorem w4(q:Rat):0<lq q:=zku (yN.2 q.den_nz) (wU q)
theorem oF{s:Prop}{n d k:Nat}(hn:(zB n).length<=k)(hd:(zB d).length<=k)(hk:0<k):lq (mkRat (sg s n) d)<=k:=by
 by_cases h0:d=0
 · subst h0
   rw[zAJ];refine Nat.max_le.2 ⟨?_,?_⟩
   · have:(zB (0:Rat).num.natAbs)=[]:=yR
     rw[this];simp
   · have:zB (0:Rat).den=[1]:=by rw[show(0:Rat).den=1 from I,kH zos,yR]
     rw[this];exact hk
 · refine Nat.max_le.2 ⟨?_,?_⟩
   · rw[zBR h0,iH]
     exact zci (zR (zki _ _)) hn
   · rw[zG3 h0]
     exact zci (zR (zki _ _)) hd
theorem rX:lq 0=1:=by
 have h:=oF (s:=False) (n:=0) (d:=0) (k:=1) (by rw[yR];simp) (by rw[yR];simp) zos;rw[zAJ] at h;have:=w4 0;omega
theorem zOA(q:Rat):lq (-q)=lq q:=by unfold lq;rw[Rat.neg_num,Rat.neg_den,Int.natAbs_neg]
theorem yDX(q:Rat):lq (eZ q)=lq q:=by unfold lq;rw[zFQ,zL8,Int.natAbs_natCast]
theorem rA(a b:Rat):lq (a*b)<=lq a+lq b:=by
 rw[<-kC a,<-kC b,zVB,kC,kC];have h1:=wM a;have h2:=wM b;have h3:=wU a;have D:=wU b;have C:=w4 a;exact oF (zci (yH _ _) zos) (zci (yH _ _) zos) zos
theorem jX(a b:Rat):lq (a+b)<=lq a+lq b+1:=by
 have h1:=wM a;have h2:=wM b;have h3:=wU a;have J:=wU b;have H:=w4 a;have G:=yH a.num.natAbs b.den;have D:=yH b.num.natAbs a.den;have C:=yH a.den b.den;have e:a+b=mkRat (sg (a.num<0) a.num.natAbs) a.den+mkRat (sg (b.num<0) b.num.natAbs) b.den:=by rw[kC,kC]
 rw[e]
 by_cases h:(a.num<0)↔(b.num<0)
 · rw[zIW h,zVC _ a.den_nz b.den_nz]
   refine oF (zci (zE0 ?_ ?_) (zbe _)) zos zos
   · omega
   · omega
 · rcases Nat.le_total (b.num.natAbs*a.den) (a.num.natAbs*b.den) with hle|hle
   · rw[zN4 h a.den_nz b.den_nz hle]
     exact oF (zci (zR (yiu _ _)) zos) zos zos
   · rw[zPQ h a.den_nz b.den_nz hle]
     exact oF (zci (zR (yiu _ _)) zos) zos zos
theorem mN(a b:Rat):lq (a-b)<=lq a+lq b+1:=by
 rw[yyi];have:=jX a (-b);rw[zOA] at this;exact this
theorem zEK{q:Rat}:q.num.natAbs≠0↔q≠0:=by
 rw[Int.natAbs_ne_zero];exact not_congr Rat.num_eq_zero
theorem yDU(a b:Rat):lq (a/b)<=lq a+lq b:=by
 have h1:=wM a;have h2:=wM b;have h3:=wU a;have D:=wU b;have C:=w4 a
 by_cases hb:b=0
 · subst hb
   have:a/0=0:=by grind
   rw[this,rX];omega
 have e:a/b=mkRat (sg (a.num<0) a.num.natAbs) a.den/mkRat (sg (b.num<0) b.num.natAbs) b.den:=by rw[kC,kC]
 rw[e,zN5 _ _ a.den_nz (zEK.2 hb) b.den_nz];exact oF (zci (yH _ _) zos) (zci (yH _ _) zos) zos
def wQ(a b:Rat):Int:=if a<b then -1 else if a=b then 0 else 1
def yW(q:Rat):Int:=if q=0 then 0 else if q.num<0 then -1 else 1
theorem yAP(s:Prop){n m d e:Nat}(hd:d≠0)(he:e≠0):mkRat (sg s n) d<mkRat (sg s m) e↔if s then m*d<n*e else n*e<m*d:=by
 have C:∀x y:Nat,(x:Rat)<(y:Rat)↔x<y:=λx y=>by rw[yqi]
 have h1:(0:Rat)<(d:Rat):=by rw[show(0:Rat)=((0:Nat):Rat) from I,C];omega
 have h2:(0:Rat)<(e:Rat):=by rw[show(0:Rat)=((0:Nat):Rat) from I,C];omega
 rw[rW,rW,<-C,<-C,zru,zru,Rat.div_lt_iff h1];generalize (d:Rat)=D at *;generalize (e:Rat)=E at *;generalize (n:Rat)=N at *;generalize (m:Rat)=M at *;have G:∀X:Rat,X/E*D=X*D/E:=λX=>by grind
 rw[G,Rat.lt_div_iff h2]
 by_cases h:s
 · rw[oY h,oY h,zau h];grind
 · rw[oL h,oL h,zae h]
theorem yAV(s:Prop){n m d e:Nat}(hd:d≠0)(he:e≠0):mkRat (sg s n) d=mkRat (sg s m) e↔n*e=m*d:=by
 rw[Rat.mkRat_eq_iff hd he]
 by_cases h:s
 · rw[oK h,oK h]
   rw[Int.neg_mul,Int.neg_mul,Int.neg_inj,<-zeu,<-zeu];omega
 · rw[lO h,lO h,<-zeu,<-zeu];omega
theorem yET(s:Prop){n m d e:Nat}(hd:d≠0)(he:e≠0):wQ (mkRat (sg s n) d) (mkRat (sg s m) e)=if s then -(tS (n*e) (m*d)) else tS (n*e) (m*d):=by
 unfold wQ tS
 by_cases h:s
 · simp only[yAP s hd he,yAV s hd he,zau h]
   by_cases h1:m*d<n*e
   · rw[zau h1,zae zos,zae zos]
   · rw[zae h1]
     by_cases h2:n*e=m*d
     · rw[zau h2,zae zos];rfl
     · rw[zae h2,zau zos];rfl
 · simp only[yAP s hd he,yAV s hd he,zae h]
theorem zLW(a b:Rat)(h:(a.num<0)↔(b.num<0)):wQ a b=if a.num<0 then -(tS (a.num.natAbs*b.den) (b.num.natAbs*a.den)) else tS (a.num.natAbs*b.den) (b.num.natAbs*a.den):=by
 have:=yET (a.num<0) (n:=a.num.natAbs) (m:=b.num.natAbs) a.den_nz b.den_nz;rw[kC,zIW h,kC] at this;rw[this]
 by_cases h:a.num<0
 · rw[zau h,zau h]
 · rw[zae h,zae h]
theorem aP(q:Rat):q.num<0↔q<0:=by
 have:=ywu (q:=q);rw[<-Rat.not_le,<-this];omega
theorem zAZ{a b:Rat}(h:yW a≠yW b):wQ a b=if yW a<yW b then -1 else 1:=by
 have D:yW a=if a=0 then 0 else if a<0 then -1 else 1:=by unfold yW;simp only[aP]
 have C:yW b=if b=0 then 0 else if b<0 then -1 else 1:=by unfold yW;simp only[aP]
 rw[D,C] at h ⊢;unfold wQ
 clear D C
 grind
theorem wB(q:Rat):-1<=yW q/\yW q<=1:=by
 unfold yW
 split
 · omega
 · split<;>omega
theorem kR(a b:Rat):-1<=wQ a b/\wQ a b<=1:=by
 unfold wQ
 split
 · omega
 · split<;>omega
theorem bA{a b:Rat}:wQ a b<0↔a<b:=by
 unfold wQ
 by_cases h:a<b
 · simp[h]
 · by_cases h':a=b
   · simp[h']
   · simp[h,h']
theorem eX{a b:Rat}:0<wQ a b↔b<a:=by
 unfold wQ
 by_cases h:a<b
 · simp[h];grind
 · by_cases h':a=b
   · simp[h']
   · simp[h,h'];grind
theorem bX{a b:Rat}:wQ a b=0↔a=b:=by
 unfold wQ
 by_cases h:a<b
 · simp[h];grind
 · by_cases h':a=b
   · simp[h']
   · simp[h,h']
def tF(q:Rat):Prop:=(zB q.num.natAbs).length<=1/\(zB (wC q.den)).length<=1
theorem zMM{q:Rat}(h:(1:Int)<↑(zB q.num.natAbs).length\/(1:Int)<↑(zB (wC q.den)).length):¬tF q:=λ⟨h1,h2⟩=>by omega
theorem zQ3{q:Rat}(h:¬((1:Int)<↑(zB q.num.natAbs).length\/(1:Int)<↑(zB (wC q.den)).length)):tF q:=⟨by omega,by omega⟩
theorem aU{n:Nat}(h:(zB n).length<=1):n<4294967296:=by
 have:=zku (uM n) (ziu zov h);omega
theorem zWN{d:Nat}(h:(↑(zB (wC d)).length:Int)=1):(zB (wC d)).getD 0 0=d:=by
 by_cases h1:d=1
 · subst h1;rw[cY,yR] at h;simp at h
 · rw[bQ h1] at h ⊢
   have h3:=aU (n:=d) zos;have C:d≠0:=yN.1 zos;rw[jT C h3];rfl
theorem zSH{d:Nat}(h0:d≠0)(h:¬(↑(zB (wC d)).length:Int)=1)(h1:(zB (wC d)).length<=1):d=1:=by
 by_cases h2:d=1
 · exact h2
 · rw[bQ h2] at h h1
   have:=yN.2 h0;omega
theorem zWO{q:Rat}(h:¬(↑(zB (wC q.den)).length:Int)=1)(hs:tF q):q.den=1:=zSH q.den_nz h hs.2
theorem fI{q:Rat}(h:tF q):q.num.natAbs<4294967296:=aU h.1
theorem fJ{q:Rat}(h:tF q):q.den<4294967296:=by
 by_cases h1:q.den=1
 · omega
 · have h2:=h.2
   rw[bQ h1] at h2;exact aU h2
def pN(q:Rat):Nat:=if tF q then q.num.natAbs else 0
def pD(q:Rat):Nat:=if tF q then q.den else 0
theorem zFW{q:Rat}(h:tF q):pN q=q.num.natAbs:=zau h
theorem pN_f{q:Rat}(h:¬tF q):pN q=0:=zae h
theorem zFX{q:Rat}(h:tF q):pD q=q.den:=zau h
theorem pD_f{q:Rat}(h:¬tF q):pD q=0:=zae h
theorem gJ{n:Nat}:wH n=0↔n=0:=by
 unfold wH
 by_cases h:n=0
 · simp[h]
 · simp[h]
theorem mR{Y:Nat}:((↑(zB Y).length:Int)=1/\(zB Y).getD 0 0=1)↔Y=1:=by
 constructor
 · intro⟨h1,h2⟩
   have h3:=aU (n:=Y) zos;have C:Y≠0:=yN.1 zos;rw[jT C h3] at h2;exact h2
 · intro h
   subst h;rw[jT zos zos];exact⟨I,I⟩
theorem zHO{n:Nat}(h:¬(1:Int)<↑(wH n))(h0:n≠0):n=1:=by
 have h1:=bM n;have h2:=ziu (n:=2) zov (show wH n<=1 by omega);omega
theorem wR.fin{h:Mem}{s:Prop}{n d:Nat}{vn vd:Value}(hn0:n≠0)(hd0:d≠0)(hn:Us .u32 h vn (zB (n/Nat.gcd n d)))(hd:Us .u32 h vd (zB (d/Nat.gcd n d)))(h1:¬((↑(zB (d/Nat.gcd n d)).length:Int)=1/\(zB (d/Nat.gcd n d)).getD 0 0=1)):wR h (.agg #[vB s,vn,vd]) (mkRat (sg s n) d):=
 wR.make hn0 hd0 hn (by rw[bQ (λe=>h1 (mR.2 e))];exact hd)
theorem wR.fin1{h:Mem}{s:Prop}{n d:Nat}{vn:Value}(hn0:n≠0)(hd0:d≠0)(hn:Us .u32 h vn (zB (n/Nat.gcd n d)))(h1:(↑(zB (d/Nat.gcd n d)).length:Int)=1/\(zB (d/Nat.gcd n d)).getD 0 0=1):wR h (.agg #[vB s,vn,.slice none 0 0]) (mkRat (sg s n) d):=
 wR.make hn0 hd0 hn (by rw[mR.1 h1,cY,yR];exact Us.nil _ _)
theorem pP:[1]=zB 1:=(jT zos zos).symm
theorem zAQ:(zB 1).length=1:=by rw[<-pP];rfl
theorem dG(m n:Nat):(zB (Nat.gcd m n)).length<=max (zB m).length (zB n).length:=by
 by_cases h:m=0
 · subst h;rw[Nat.gcd_zero_left];omega
 · have:=zR (Nat.gcd_le_left n (zfe h))
   omega
theorem lM{q:Rat}(h:q=0):yW q=0:=zau h
theorem t8{q:Rat}(h:q.num<0):yW q= -1:=by
 unfold yW;rw[zae (λe=>by rw[e] at h;exact absurd h zov),zau h]
theorem t7{q:Rat}(h:q≠0)(h':¬q.num<0):yW q=1:=by unfold yW;rw[zae h,zae h']
theorem zF3{q:Rat}(h:(↑(wH q.num.natAbs):Int)=0):q=0:=by
 have:=(gJ (n:=q.num.natAbs)).1 zos;exact Rat.num_eq_zero.1 zos
theorem zGA{q:Rat}(h:q=0):(↑(wH q.num.natAbs):Int)=0:=by subst h;decide
theorem zOP{a b:Rat}:zB (wC a.den)=zB (wC b.den)↔a.den=b.den:=by
 refine⟨λh=>?_,λh=>by rw[h]⟩;have h1:=iR h;have C:=a.den_nz;have hb:=b.den_nz;unfold wC at h1
 split at h1<;>split at h1<;>omega
theorem yC3{a b:Rat}(h1:a.num=b.num)(h2:a.den=b.den):a=b:=by
 rw[<-Rat.mkRat_self a,<-Rat.mkRat_self b,h1,h2]
theorem zTP{a b:Rat}:(((a.num<0↔b.num<0)/\zB a.num.natAbs=zB b.num.natAbs)/\zB (wC a.den)=zB (wC b.den))↔a=b:=by
 refine⟨λ⟨⟨h1,h2⟩,h3⟩=>yC3 ?_ (zOP.1 h3),λh=>by subst h;simp⟩;have:=iR h2;omega
theorem zJW{a b:Rat}(h:¬yW a≠yW b):a.num<0↔b.num<0:=by
 have h:=zdi h
 by_cases h1:a.num<0<;>by_cases h2:b.num<0
 · simp[h1,h2]
 · rw[t8 h1] at h
   by_cases h3:b=0
   · rw[lM h3] at h;omega
   · rw[t7 h3 h2] at h;omega
 · rw[t8 h2] at h
   by_cases h3:a=0
   · rw[lM h3] at h;omega
   · rw[t7 h3 h1] at h;omega
 · simp[h1,h2]
def cN(a b:Rat):Int:=tS (a.num.natAbs*b.den) (b.num.natAbs*a.den)
theorem zL2(a b:Rat):-1<=cN a b/\cN a b<=1:=by
 unfold cN tS
 split
 · omega
 · split<;>omega
theorem zQI{a b:Rat}(h:a.num<0↔b.num<0)(hn:a.num<0):wQ a b= -(cN a b):=by rw[zLW a b h,zau hn];rfl
theorem zLX{a b:Rat}(h:a.num<0↔b.num<0)(hn:¬a.num<0):wQ a b=cN a b:=by rw[zLW a b h,zae hn];rfl
theorem yE0{a b:Rat}(h:zB (wC a.den)=zB (wC b.den)):cN a b=tS a.num.natAbs b.num.natAbs:=by
 unfold cN tS;rw[zOP.1 h];have C:=zfe b.den_nz
 by_cases h1:a.num.natAbs<b.num.natAbs
 · rw[zau h1,zau (zuu h1 C)]
 · rw[zae h1,zae (λe=>h1 (Nat.lt_of_mul_lt_mul_right e))]
   by_cases h2:a.num.natAbs=b.num.natAbs
   · rw[zau h2,h2,zau I]
   · rw[zae h2,zae (λe=>h2 (Nat.eq_of_mul_eq_mul_right C e))]
theorem qS{m n:Nat}(hm:m<4294967296)(hn:n<4294967296):m*n<=18446744065119617025:=by
 have:=z6i (show m<=4294967295 by omega) (show n<=4294967295 by omega);omega
def sgd(s:Prop)(b:Rat):Rat:=mkRat (sg s b.num.natAbs) b.den
theorem s0(b:Rat):sgd (b.num<0) b=b:=kC b
theorem zYA(b:Rat):sgd (¬b.num<0) b= -b:=by
 unfold sgd;rw[<-yDK,kC]
theorem zVM(s:Prop)(b:Rat):lq (sgd s b)<=lq b:=oF (wM b) (wU b) (w4 b)
theorem zDJ{a b:Rat}{s:Prop}(h:(a.num<0)↔s):a+sgd s b=mkRat (sg s (a.num.natAbs*b.den+b.num.natAbs*a.den)) (a.den*b.den):=by
 have:=zVC s (n:=a.num.natAbs) (m:=b.num.natAbs) a.den_nz b.den_nz;rw[<-zIW h a.num.natAbs,kC] at this;exact this
theorem zC1{a b:Rat}{s:Prop}(h:¬((a.num<0)↔s))(hle:b.num.natAbs*a.den<=a.num.natAbs*b.den):a+sgd s b=mkRat (sg (a.num<0) (a.num.natAbs*b.den-b.num.natAbs*a.den)) (a.den*b.den):=by
 have:=zN4 h (n:=a.num.natAbs) (m:=b.num.natAbs) a.den_nz b.den_nz hle;rw[kC] at this;exact this
theorem j8{a b:Rat}{s:Prop}(h:¬((a.num<0)↔s))(hle:a.num.natAbs*b.den<=b.num.natAbs*a.den):a+sgd s b=mkRat (sg s (b.num.natAbs*a.den-a.num.natAbs*b.den)) (a.den*b.den):=by
 have:=zPQ h (n:=a.num.natAbs) (m:=b.num.natAbs) a.den_nz b.den_nz hle;rw[kC] at this;exact this
theorem zXK{a b:Rat}{s:Prop}(h:(a.num<0)↔s)(hd:a.den=b.den):a+sgd s b=mkRat (sg s (a.num.natAbs+b.num.natAbs)) a.den:=by
 rw[zDJ h,<-hd,<-z1e,zES _ _ _ a.den_nz]
theorem zS7{a b:Rat}{s:Prop}(h:¬((a.num<0)↔s))(hd:a.den=b.den)(hle:b.num.natAbs<=a.num.natAbs):a+sgd s b=mkRat (sg (a.num<0) (a.num.natAbs-b.num.natAbs)) a.den:=by
 rw[zC1 h (by rw[<-hd];exact zfu _ hle),<-hd,<-yxu,zES _ _ _ a.den_nz]
theorem zQ1{a b:Rat}{s:Prop}(h:¬((a.num<0)↔s))(hd:a.den=b.den)(hle:a.num.natAbs<=b.num.natAbs):a+sgd s b=mkRat (sg s (b.num.natAbs-a.num.natAbs)) a.den:=by
 rw[j8 h (by rw[<-hd];exact zfu _ hle),<-hd,<-yxu,zES _ _ _ a.den_nz]
theorem zU9(a b:Rat):mkRat (sg (¬((a.num<0)↔(b.num<0))) (a.num.natAbs*b.num.natAbs)) (a.den*b.den)=a*b:=by
 rw[<-zVB,kC,kC]
theorem zUB(a:Rat){b:Rat}(hb:b≠0):mkRat (sg (¬((a.num<0)↔(b.num<0))) (a.num.natAbs*b.den)) (a.den*b.num.natAbs)=a/b:=by
 rw[<-zN5 _ _ a.den_nz (zEK.2 hb) b.den_nz,kC,kC]
theorem cR{q:Rat}(h:(↑(zB q.num.natAbs).length:Int)=0):q=0:=by
 refine zdu λC=>?_;have:=yN.2 (zEK.2 C);omega
theorem uT{q:Rat}:yW q=0↔q=0:=by
 refine⟨λh=>?_,lM⟩;unfold yW at h
 by_cases h1:q=0
 · exact h1
 · rw[zae h1] at h;split at h<;>omega
def zEU(a b:Rat):Rat:=if b<a then b else a
def nL(a b:Rat):Rat:=if a<b then b else a
theorem yDO{a b:Rat}(h:wQ b a<0):zEU a b=b:=zau (bA.1 h)
theorem yDP{a b:Rat}(h:¬wQ b a<0):zEU a b=a:=zae (λe=>h (bA.2 e))
theorem yDR{a b:Rat}(h:0<wQ b a):nL a b=b:=zau (eX.1 h)
theorem yDS{a b:Rat}(h:¬0<wQ b a):nL a b=a:=zae (λe=>h (eX.2 e))
theorem zVO(a b:Rat):lq (zEU a b)<=max (lq a) (lq b):=by unfold zEU;split<;>omega
theorem zVP(a b:Rat):lq (nL a b)<=max (lq a) (lq b):=by unfold nL;split<;>omega
def zE4:Rat:=mkRat (sg False 1) 2
theorem zZD:lq zE4<=1:=oF (by rw[jT zos zos];simp) (by rw[jT zos zos];simp) zos
theorem zV6:zE4=1/2:=by
 unfold zE4;rw[rW,oL id]
 rfl
def zBS(a b:Rat):Rat:=(a+b)*zE4
theorem yDV(a b:Rat):lq (zBS a b)<=lq a+lq b+2:=by
 have h1:=rA (a+b) zE4;have h2:=jX a b;have h3:=zZD;unfold zBS;omega
def kN(k:Int):Nat:=(min (max k 0) 4096).toNat
theorem zYW{k:Nat}(h:k<=4096):(zB (2^k)).length<=129:=by
 have e:(4294967296:Nat)^129=2^(32*129):=(ycu 2 32 129).symm;have C:k<32*129:=by omega
 generalize 32*129=m at *;refine uE ?_;rw[e];exact ytu zov C
theorem zPZ(a b:Rat):lq (if b=0 then 0 else a/b)<=lq a+lq b:=by
 have:=yDU a b;have h1:=w4 a
 split
 · rw[rX];omega
 · exact this
theorem zS8{p:Prop} [Decidable p](h:(if p then 7 else 0:Int)=0):¬p:=by
 intro C;rw[zau C] at h;omega
theorem zS9{p:Prop} [Decidable p](h:¬(if p then 7 else 0:Int)=0):p:=by
 refine zdu λC=>h ?_;rw[zae C]
theorem gE{n:Int}(h1:-9223372036854775808<=n)(h2:n<9223372036854775808):(zB n.natAbs).length<=2:=kL zos
def jS(n d:Int):Rat:=(n:Rat)/(d:Rat)
theorem zEW(n:Int):jS n 0=0:=by
 unfold jS;have:((0:Int):Rat)=0:=I;rw[this];grind
theorem zI5(n:Int):mkRat (sg (n<0) n.natAbs) 1=(n:Rat):=by
 have e:sg (n<0) n.natAbs=n:=by
  by_cases h:n<0
  · rw[oK h];omega
  · rw[lO h];omega
 rw[e,Rat.mkRat_one]
theorem zLA{n d:Int}(hd:d≠0):mkRat (sg (¬((n<0)↔(d<0))) n.natAbs) d.natAbs=jS n d:=by
 unfold jS;rw[<-zI5 n,<-zI5 d,zN5 _ _ zos zos zos,z9u,yeu]
theorem mO(n:Int)(h1:-9223372036854775808<=n)(h2:n<9223372036854775808):lq (n:Rat)<=2:=by
 rw[<-zI5];exact oF (gE h1 h2) (by rw[zAQ];omega) zos
theorem zDA{n d:Int}(h1:-9223372036854775808<=n)(h2:n<9223372036854775808)(h3:-9223372036854775808<=d)(h4:d<9223372036854775808):lq (jS n d)<=2:=by
 by_cases hd:d=0
 · subst hd;rw[zEW,rX];omega
 · rw[<-zLA hd];exact oF (gE h1 h2) (gE h3 h4) zos
def dV(ys:List Nat):Nat:=if ys=[] then 1 else val ys
theorem yBJ(ys:List Nat):val (if ys=[] then[1] else ys)=dV ys:=by
 unfold dV
 split
 · rfl
 · rfl
theorem zZZ{ys:List Nat}(h:(0:Int)<↑ys.length/\(↑(wH (val ys)):Int)=0):dV ys=0:=by
 unfold dV;rw[zae (λe=>by rw[e] at h;simp at h)];exact gJ.1 zos
theorem yGR{ys:List Nat}(h:¬((0:Int)<↑ys.length/\(↑(wH (val ys)):Int)=0)):dV ys≠0:=by
 unfold dV
 split
 · omega
 · rename_i h1
   intro h2;have h3:wH (val ys)=0:=gJ.2 h2;have C:0<ys.length:=List.length_pos_iff.2 h1;exact h ⟨by omega,by omega⟩
theorem yES(ys:List Nat):(if ys=[] then[1] else ys).length<=ys.length+1:=by
 split
 · simp
 · omega
theorem zE1{xs:List Nat}:(↑xs.length:Int)=0↔xs=[]:=⟨λh=>zof zos,λh=>by rw[h];rfl⟩
theorem zE7{g:Nat}(h:¬((↑(zB g).length:Int)≠1\/(zB g).getD 0 0≠1)):g=1:=
 mR.1 ⟨zdi λe=>h (.inl e),zdi λe=>h (.inr e)⟩
theorem zWT{a b:Rat}:(((a.num<0)↔(b.num<0))/\tS a.num.natAbs b.num.natAbs=0)/\tS (wC a.den) (wC b.den)=0↔a=b:=by
 rw[zB3,zB3,<-zTP];constructor
 · rintro⟨⟨h1,h2⟩,h3⟩
   exact⟨⟨h1,by rw[h2]⟩,by rw[h3]⟩
 · rintro⟨⟨h1,h2⟩,h3⟩
   exact⟨⟨h1,iR h2⟩,iR h3⟩
theorem zZG{q:Rat}:(↑(zB q.num.natAbs).length:Int)=0↔q=0:=by
 refine⟨cR,λh=>?_⟩;subst h;rw[show(0:Rat).num.natAbs=0 from I,yR];rfl
theorem zEJ{q:Rat}(h:¬(↑(zB q.num.natAbs).length:Int)=0):q≠0:=λe=>h (zZG.2 e)
theorem zXL{a b:Rat}(h:(a.num<0)↔(b.num<0)):mkRat (sg (a.num<0) (a.num.natAbs*b.den+b.num.natAbs*a.den)) (a.den*b.den)=a+b:=by
 have:=zDJ (a:=a) (b:=b) h;rw[s0,zIW h.symm] at this;exact this.symm
theorem yFG{a b:Rat}(h:¬((a.num<0)↔(b.num<0)))(hle:b.num.natAbs*a.den<=a.num.natAbs*b.den):mkRat (sg (a.num<0) (a.num.natAbs*b.den-b.num.natAbs*a.den)) (a.den*b.den)=a+b:=by
 have:=zC1 (a:=a) (b:=b) h hle;rw[s0] at this;exact this.symm
theorem yFF{a b:Rat}(h:¬((a.num<0)↔(b.num<0)))(hle:a.num.natAbs*b.den<=b.num.natAbs*a.den):mkRat (sg (b.num<0) (b.num.natAbs*a.den-a.num.natAbs*b.den)) (a.den*b.den)=a+b:=by
 have:=j8 (a:=a) (b:=b) h hle;rw[s0] at this;exact this.symm
theorem zMC{h:Mem}{v:Value}{n:Int}(s:Us .u32 h v (zB n.natAbs)):Us .u32 h v (zB (n:Rat).num.natAbs):=by
 rw[Rat.num_intCast];exact s
theorem zMD{h:Mem}{n:Int}:Us .u32 h (.slice none 0 0) (zB (wC (n:Rat).den)):=by
 rw[Rat.den_intCast,cY,yR];exact Us.nil _ _
theorem wR.int{h:Mem}{v:Value}{n:Int}(s:Us .u32 h v (zB n.natAbs)):wR h (.agg #[vB (n<0),v,.slice none 0 0]) (n:Rat):=
 ⟨v,.slice none 0 0,by rw[Rat.num_intCast],zMC s,zMD⟩
theorem zHB:jS 1 2=zE4:=by rw[zV6];rfl
def numQ(s:Prop)(xs ys:List Nat):Rat:=mkRat (sg s (val xs)) (dV ys)
theorem zP0(s:Prop)(xs ys:List Nat):lq (numQ s xs ys)<=max (zB (val xs)).length (zB (dV ys)).length+1:=oF zos zos zos
theorem zP1(s:Prop)(xs ys:List Nat):lq (mkRat (sg s (val xs)) (dV ys))<=max (zB (val xs)).length (zB (dV ys)).length+1:=zP0 s xs ys
end Bk
namespace Bk
open Go Go.RowKit
def kU(k:Nat)(v:Value)(lo hi mx:Nat):Value:=
 match v with
 | .slice a _ _=>.slice (if mx=lo then a else a.map (·.add (lo*k))) (hi-lo) (mx-lo)
 |_=>undef
section
variable {P:Program}{n:Nat}{w0:World}{h0:Mem}{e:List (Nat×Value)}{L:List Res}{h:Mem}{Q:Exit->Act->World->Prop}
variable {ds:Option Tmp}{ty:TypeId}{ps:String}{af:Array Edge}{gd:Option (Nat×Bool)}
theorem Sl.sub3{h:Mem}{k:Nat}{v:Value}{m:Nat}{cs:List Value}(s:Sl h k v m cs){lo hi mx:Nat}(h1:lo<=hi)(h2:hi<=mx)(h3:mx<=m):Sl h k (kU k v lo hi mx) (hi-lo) ((cs.drop (lo*k)).take ((hi-lo)*k)):=by
 obtain⟨a,Z,rfl,h4,h5,U,O⟩:=s;refine⟨_,_,I,by omega,by omega,?_,λi H=>?_⟩
 · rw[zei,zhe,U]
   have:=zfu k (show lo+(hi-lo)<=m by omega);rw[z1e] at this;omega
 · rw[zei,zhe] at H
   have D:i<(hi-lo)*k:=by omega
   have C:0<(hi-lo)*k:=by omega
   have G:lo<hi:=by
    rcases ztu lo hi with h'|h'
    · exact h'
    · rw[show hi-lo=0 by omega,zvi] at C;omega
   obtain⟨b,o,M,J⟩:=O (lo*k+i) zos;subst M;refine⟨b,o+lo*k,by rw[zae zos];simp[jL],?_⟩;rw[zmu,zau D,zwi,<-J,z3i]
theorem Us.sub3{k:IntKind}{h:Mem}{v:Value}{xs:List Nat}(s:Us k h v xs){lo hi mx:Nat}(h1:lo<=hi)(h2:hi<=mx)(h3:mx<=xs.length):Us k h (kU 1 v lo hi mx) ((xs.drop lo).take (hi-lo)):=by
 have:=s.sl.sub3 h1 h2 h3;simp only[z9u] at this;refine⟨?_,λx hx=>s.lt x (z5i (zve hx))⟩;have C:((xs.drop lo).take (hi-lo)).length=hi-lo:=by rw[zei,zhe];omega
 rw[C]
 simpa[us] using this
theorem St.own_shape{E:Nat}{k:IntKind}{v:Value}{xs:List Nat}{w:World}(S:St w0 h0 L h w)(hm:.us E k v xs∈L):∃a cap,v=.slice a xs.length cap/\xs.length<=cap/\cap<=maxLen/\(0<xs.length->∃g,a=some ⟨g,0,none⟩):=by
 obtain⟨D,C⟩:=S.ok _ hm
 rcases C with⟨rfl,h0'⟩|⟨g,cap,cur,rfl,hb,hg,hn,hcm,hcs,ht⟩
 · exact⟨none,0,by rw[h0'],by omega,by omega,λh=>by omega⟩
 · exact⟨_,cap,I,hn,hcm,λ_=>⟨g,I⟩⟩
theorem St.own_self{E:Nat}{k:IntKind}{v:Value}{xs:List Nat}{w:World}(S:St w0 h0 L h w)(hm:.us E k v xs∈L):v=fF 1 v 0 xs.length:=by
 obtain⟨a,C,rfl,h1,h2,h3⟩:=S.own_shape hm;simp only[fF,zvi,yje]
 by_cases hc:C=0
 · rw[zau hc]
 · rw[zae hc]
   cases a with
   |none=>rfl
   |some x=>
    obtain⟨b,o,D⟩:=x;simp[Addr.add]
theorem zD7{E:Nat}{k:IntKind}{v:Value}{xs:List Nat}{t E':TypeId}{x lo:Operand}{p:Int}(hm:.us E k v xs∈L)(i:Nat)(ht:P.underlying t=some (.slice E'))(hsz:∀w,(Go.sizeOf E').run P w=.ok 1 w)(hx:zJ e x=some v)(hl:zJ e lo=some (vI p))
    (hp:p=(i:Int))(h1:i<=xs.length):OpV P n w0 h0 ⟨ds,.slice t x (some lo) none none,ty,ps,af,gd⟩ e L h (fF 1 v i xs.length):=by
 intro a w J S;obtain⟨H,C,D,G,_⟩:=S.own_shape hm;exact qM i ht hsz hx hl ⟨H,C,D,G⟩ hp h1 a w J S
theorem zMT{t E:TypeId}{w:World}(ht:P.underlying t=some (.slice E))(hsz:∀w,(Go.sizeOf E).run P w=.ok 1 w)(a:Option Addr)(m cap lo hi mx:Nat)(h1:lo<=hi)(h2:hi<=mx)(h3:mx<=cap):
 (Instr.sliceAt t (.slice a m cap) (some (vI lo)) (some (vI hi)) (some (vI mx))).run P w=.ok (kU 1 (.slice a m cap) lo hi mx) w:=by
 simp[Instr.sliceAt,Instr.slice,run_underlying ht,Instr.sliceBounds,Instr.sliceBound,asIntOf,vI,hsz,kU,h1,h2,h3]
theorem zJ6{t E:TypeId}{w:World}(ht:P.underlying t=some (.slice E))(hsz:∀w,(Go.sizeOf E).run P w=.ok 1 w)(a:Option Addr)(m cap hi mx:Nat)(h2:hi<=mx)(h3:mx<=cap):
 (Instr.sliceAt t (.slice a m cap) none (some (vI hi)) (some (vI mx))).run P w=.ok (kU 1 (.slice a m cap) 0 hi mx) w:=by
 simp[Instr.sliceAt,Instr.slice,run_underlying ht,Instr.sliceBounds,Instr.sliceBound,asIntOf,vI,hsz,kU,h2,h3]
theorem zFY{E:Nat}{k:IntKind}{v:Value}{xs:List Nat}{t E':TypeId}{x lo hi mx:Operand}{p q r:Int}(hm:.us E k v xs∈L)(i j l:Nat)(ht:P.underlying t=some (.slice E'))(hsz:∀w,(Go.sizeOf E').run P w=.ok 1 w)(hx:zJ e x=some v)(hl:zJ e lo=some (vI p))(hh:zJ e hi=some (vI q))(hmx:zJ e mx=some (vI r))
    (hp:p=(i:Int))(hq:q=(j:Int))(hr:r=(l:Int))(h1:i<=j)(h2:j<=l)(h3:l<=xs.length):OpV P n w0 h0 ⟨ds,.slice t x (some lo) (some hi) (some mx),ty,ps,af,gd⟩ e L h (kU 1 v i j l):=by
 subst hp;subst hq;subst hr;intro a w C S;obtain⟨G,D,rfl,H,_⟩:=S.own_shape hm;have:=zMT (P:=P) (w:=w) ht hsz G xs.length D i j l h1 h2 zos;simp[execOp,C.eval hx,C.eval hl,C.eval hh,C.eval hmx,this]
theorem zD8{E:Nat}{k:IntKind}{v:Value}{xs:List Nat}{t E':TypeId}{x hi mx:Operand}{q r:Int}(hm:.us E k v xs∈L)(j l:Nat)(ht:P.underlying t=some (.slice E'))(hsz:∀w,(Go.sizeOf E').run P w=.ok 1 w)(hx:zJ e x=some v)(hh:zJ e hi=some (vI q))(hmx:zJ e mx=some (vI r))
    (hq:q=(j:Int))(hr:r=(l:Int))(h2:j<=l)(h3:l<=xs.length):OpV P n w0 h0 ⟨ds,.slice t x none (some hi) (some mx),ty,ps,af,gd⟩ e L h (kU 1 v 0 j l):=by
 subst hq;subst hr;intro a w D S;obtain⟨G,C,rfl,H,_⟩:=S.own_shape hm;have:=zJ6 (P:=P) (w:=w) ht hsz G xs.length C j l h2 zos;simp[execOp,D.eval hx,D.eval hh,D.eval hmx,this]
theorem dE{E:Nat}{k:IntKind}{v u:Value}{xs:List Nat}{t E':TypeId}{x y:Operand}{q:Int}{lo:Nat}(hm:.us E k v xs∈L)(hu:u=fF 1 v lo xs.length)(i:Nat)(ht:P.underlying t=some (.slice E'))(hsz:∀w,(Go.sizeOf E').run P w=.ok 1 w)(hx:zJ e x=some u)(hy:zJ e y=some (vI q))
    (hq:q=(i:Int))(hi:lo+i<xs.length):OpV P n w0 h0 ⟨ds,.indexAddr t x y,ty,ps,af,gd⟩ e L h (zM 1 v (lo+i)):=by
 subst hq;subst hu;intro a w G S;obtain⟨U,D,rfl,O,M,J⟩:=S.own_shape hm;obtain⟨g,rfl⟩:=J zos;have C:¬D=lo:=by omega
 have h2:(i:Int)<((xs.length-lo:Nat):Int):=by omega
 have h3:(0:Int)<=(i:Int):=by omega
 simp only[fF,zae C,yme,jL,z9u,zue] at hx;simp[execOp,G.eval hx,G.eval hy,Instr.indexAt,asIntOf,vI,run_underlying ht,h2,h3,hsz,zM,jL];intro H;omega
theorem zV8{ops:Array Oper}{l:List Oper}{E:Nat}{k:IntKind}{v:Value}{xs:List Nat}(hm:.us E k v xs∈L)(k':∀a cap,v=.slice a xs.length cap->xs.length<=cap->GL P n w0 h0 ops Q l e L h):GL P n w0 h0 ops Q l e L h:=by
 intro a w H S;obtain⟨G,cap,C,D,_⟩:=S.own_shape hm;exact k' G cap C D a w H S
theorem zLL{ops:Array Oper}{l:List Oper}{A B:List Res}{r:Res}(k':GL P n w0 h0 ops Q l e (r::(A++B)) h):GL P n w0 h0 ops Q l e (A++r::B) h:=
 λa w Ev S=>k' a w Ev (S.perm yqe)
theorem zUQ{f:Nat}{xs:List Operand}{ts:Array TypeId}{vs:List Value}{v:Value}(hcall:∀w,(callFunc f vs.toArray).run P w=.ok (.value v) w)(hvs:bC e xs vs):
 OpV P n w0 h0 ⟨ds,.call {callee:=.value (.func f),args:=xs.toArray,argTypes:=ts},ty,ps,af,gd⟩ e L h v:=by
 intro a w D S;have C:xs.toArray.map a.eval=vs.toArray:=by rw[zzi,D.evals hvs]
 simp only[execOp,resolve,Act.eval];simp[Deferred.ofValue,invoke,hcall,C]
theorem jZ.nil{ops:Array Oper}:jZ P n ops []:=λx hx=>by cases hx
theorem jZ.cons{ops:Array Oper}{i d E:Nat}{cs:List Value}{al:Als}(hop:(ops.getD i default).op=.alloc E)(hd:Nat.ble (d+1) n=true)(hz:∀w,∃z,(zeroValue E).run P w=.ok z w/\z.cells=cs.toArray)(h:jZ P n ops al):jZ P n ops ((i,(d,E,cs))::al):=by
 intro x hx
 rcases zfi.1 hx with rfl|hx
 · refine⟨zce hd,λa w=>?_,λH G=>?_⟩
   · obtain⟨z,D,C⟩:=hz w
     simp only[execOp,hop,Instr.alloc,zJM,zR7];simp[D,newVar,newRow,newObj,Sem.run,C]
   · simp only[hop,zR7] at G
     cases G
 · exact h x hx
theorem qR{E:TypeId}{i:TypeInfo}{z:Value}{cs:List Value}(hi:P.info? E=some i)(hz:i.zero=some z)(hc:z.cells=cs.toArray)(w:World):∃z,(zeroValue E).run P w=.ok z w/\z.cells=cs.toArray:=
 ⟨z,by simp[zeroValue,typeInfo,hi,hz],hc⟩
theorem gM{e:List (Nat×Value)}{al:Als}:∀x∈([]:Als),al.lookup x.1=some x.2/\e.lookup x.2.1=none:=λx hx=>by cases hx
theorem qU{e:List (Nat×Value)}{al al':Als}{y:Nat×(Nat×TypeId×List Value)}(h1:al.lookup y.1=some y.2)(h2:e.lookup y.2.1=none)(h:∀x∈al',al.lookup x.1=some x.2/\e.lookup x.2.1=none):∀x∈y::al',al.lookup x.1=some x.2/\e.lookup x.2.1=none:=by
 intro x hx
 rcases zfi.1 hx with rfl|hx
 · exact⟨h1,h2⟩
 · exact h x hx
end
end Bk
namespace Bk
open Go Go.RowKit
open Classical
def yA9(h:Mem):List Value->List Rat->Prop
  |cs,[]=>cs=[]
  |cs,q::qs=>∃vn vd rest,cs=vB (q.num<0)::vn::vd::rest/\Us .u32 h vn (zB q.num.natAbs)/\Us .u32 h vd (zB (wC q.den))/\yA9 h rest qs
def zJI(h:Mem)(v:Value)(qs:List Rat):Prop:=∃cs,v=.agg cs.toArray/\yA9 h cs qs
section
variable {P:Program}{n:Nat}{w0:World}{h0:Mem}{e:List (Nat×Value)}{L:List Res}{h:Mem}{Q:Exit->Act->World->Prop}
variable {ds:Option Tmp}{ty:TypeId}{ps:String}{af:Array Edge}{gd:Option (Nat×Bool)}
def zL9(P:Program)(c:Code)(Q:Exit->Act->World->Prop)(a:Act)(w:World):Prop:=
 ∀(b:Frame) (k:List Item) (cs:List Frame),∃x a' w',Q x a' w'/\Arrives P (lone (b.at a (.code c::.inLoop c::k)) cs w) b k cs x a' w'
theorem zLC{c:Code}{a:Act}{w:World}(hw:c.wp P (Exit.then (zL9 P c Q) Q) a w):zL9 P c Q a w:=by
 intro b k cs;obtain⟨x,J,H,G,C⟩:=hw b (.inLoop c::k) cs
 cases x with
 |normal=>
  obtain⟨O,Z,U,M,D⟩:=G b k cs;exact⟨O,Z,U,M,.of_steps (Steps.trans C (.one step_inLoop)) D⟩
 |exit id=>exact⟨_,J,H,G,.pass (x:=.inLoop c) rfl (λ_ _=>.inl zo1) C⟩
 |goto l=>exact⟨_,J,H,G,.pass (x:=.inLoop c) rfl (λ_ _=>.inl zo1) C⟩
 |ret=>exact⟨_,J,H,G,.pass (x:=.inLoop c) rfl (λ_ _=>.inl zo1) C⟩
 |panic ch=>exact⟨_,J,H,G,.pass (x:=.inLoop c) rfl (λ_ _=>.inl zo1) C⟩
 |outgrown=>exact⟨_,J,H,G,.pass (x:=.inLoop c) rfl (λ_ _=>.inl zo1) C⟩
theorem tP{c:Code}(k:GC P n w0 h0 c (Exit.then (zL9 P c Q) Q) e L h):GC P n w0 h0 (.loop c) Q e L h:=by
 intro a w E S b G cs;obtain⟨x,J,D,H,C⟩:=zLC (k a w E S) b G cs;exact⟨x,J,D,H,.of_steps (.one step_loop) C⟩
theorem wP{c:Code}(k:GC P n w0 h0 c (Exit.then (zL9 P c Q) Q) e L h):GQ n w0 h0 (Exit.then (zL9 P c Q) Q) .normal e L h:=
 λa w E S=>zLC (k a w E S)
theorem OpV.cv{o:Oper}{v v':Value}(hv:OpV P n w0 h0 o e L h v)(e':v=v'):OpV P n w0 h0 o e L h v':=e'▸hv
end
end Bk
namespace Bk
open Go Go.RowKit
section
variable {P:Program}{n:Nat}{w0:World}{h0:Mem}{e:List (Nat×Value)}{L:List Res}{h:Mem}
variable {ds:Option Tmp}{ty:TypeId}{ps:String}{af:Array Edge}{gd:Option (Nat×Bool)}
theorem tH{x:Operand}{b k:Nat}(hx:zJ e x=some (vP b k)):OpV P n w0 h0 ⟨ds,.nilCheck x,ty,ps,af,gd⟩ e L h (vP b k):=by
 intro a w C S;simp[execOp,C.eval hx]
theorem wE{t E:TypeId}{x y:Operand}{b k m sz:Nat}{q:Int}(i:Nat)(ht:P.underlying t=some (.array m E))(hsz:∀w,(Go.sizeOf E).run P w=.ok sz w)(hx:zJ e x=some (vP b k))(hy:zJ e y=some (vI q))(hq:q=(i:Int))(hi:i<m):
 OpV P n w0 h0 ⟨ds,.indexAddr t x y,ty,ps,af,gd⟩ e L h (vP b (k+i*sz)):=by
 subst hq;intro a w C S;simp[execOp,C.eval hx,C.eval hy,Instr.indexAt,vI,asIntOf,run_underlying ht,hsz,Instr.sureAddr,hi,jL]
theorem zIE{t E:TypeId}{m sz:Nat}{i:TypeInfo}{z:Value}{parts:List (Nat×Operand)}{ps':List (Nat×Value)}{vs:List Value}(ht:P.underlying t=some (.array m E))(hi:P.info? t=some i)(hz:i.zero=some z)
    (hsz:∀w,(Go.sizeOf E).run P w=.ok sz w)(hp:oC e parts ps')(hf:Instr.fill (λi=>some (i*sz,sz)) z.cells ps'=some vs.toArray):
    OpV P n w0 h0 ⟨ds,.build t parts.toArray,ty,ps,af,gd⟩ e L h (.agg vs.toArray):=by
 intro a w G S;have D:(parts.toArray.map λ(p:Nat×Operand)=>(p.1,a.eval p.2)).toList=ps':=by
  rw[zzi];exact hp.eval G
 have C:(zeroValue t).run P w=.ok z w:=by simp[zeroValue,typeInfo,hi,hz]
 simp only[execOp,Instr.build];rw[show(parts.toArray.map λ(i,x)=>(i,a.eval x)).toList=ps' from D];simp only[Sem.run_bind,C,Result.andThen_ok,run_underlying ht,hsz,hf]
 rfl
end
theorem zR8{x:Int}(h:(Lit.int .i64 x).wf=true):-9223372036854775808<=x/\x<9223372036854775808:=by
 simp only[Lit.wf,zbu,zge] at h;simp[IntKind.min,IntKind.max,IntKind.signed,IntKind.bits] at h;omega
theorem zHM{xs:List Nat}(h:∀x∈xs,x<256):byt (qD xs)=xs:=by
 simp only[byt,qD,y0i]
 conv=>rhs;rw[<-List.map_id xs]
 refine ywi λx hx=>?_;simp only[Function.comp,id];exact zoh (h x hx)
end Bk
namespace Bk
open Go Go.RowKit
open Classical
structure Is(h:Mem)(v:Value)(xs:List Int):Prop where
 sl:Sl h 1 v xs.length (xs.map vI)
 rng:∀x∈xs,-9223372036854775808<=x/\x<9223372036854775808
theorem Is.mono{h h':Mem}{v:Value}{xs:List Int}(s:Is h v xs)(hh:MLe h h'):Is h' v xs:=⟨s.sl.mono hh,s.rng⟩
theorem Is.nil(h:Mem):Is h (.slice none 0 0) []:=⟨Sl.nil h 1,by simp⟩
theorem Is.one{h:Mem}{v:Value}{xs:List Int}(s:Is h v xs):∃a cap,v=.slice a xs.length cap:=s.sl.one
theorem Is.lt63{h:Mem}{v:Value}{xs:List Int}(s:Is h v xs):xs.length<9223372036854775808:=s.sl.lt63
theorem Is.cells{h:Mem}{v:Value}{xs:List Int}(s:Is h v xs):v.cells=[v].toArray:=by
 obtain⟨a,C,rfl⟩:=s.one
 rfl
theorem is_of_row{w:World}{a:Option Addr}{len cap:Nat}{zs:List Int}
    (h:(a=none/\len=0/\cap=0/\zs=[])\/∃x,a=some x/\len<=cap/\cap<=maxLen/\zs.length=cap/\(∀i,i<zs.length->w.cell? (x.add i)=some (.int .i64 (zs.getD i 0)))/\∀n∈zs,(Lit.int .i64 n).wf=true):
    ∃xs:List Int,Is (mem w) (.slice a len cap) xs:=by
 rcases h with⟨rfl,rfl,rfl,rfl⟩|⟨x,rfl,h1,h2,h3,h4,h5⟩
 · exact⟨[],Is.nil _⟩
 · refine⟨zs.take len,⟨?_,?_⟩⟩
   · have J:(zs.take len).length=len:=by simp;omega
     rw[J];refine⟨_,cap,I,h1,h2,by simp;omega,λi hi=>?_⟩;have D:i<len:=by simp at hi;omega
     have G:=h4 i zos;have C:(x.add 0).spot=none:=World.cell?_spot (h4 0 zos);obtain⟨b,o,M⟩:=x;simp[Addr.add] at C;subst C;refine⟨b,o,I,?_⟩;rw[jL] at G;rw[zF9 G,z0u,zmu,zau D,zoc zos];rw[zoa,zoc zos]
     rfl
   · intro n H
     exact zR8 (h5 n (zve H))
section
variable {P:Program}{n:Nat}{w0:World}{h0:Mem}{e:List (Nat×Value)}{L:List Res}{h:Mem}{Q:Exit->Act->World->Prop}
variable {ds:Option Tmp}{ty:TypeId}{ps:String}{af:Array Edge}{gd:Option (Nat×Bool)}
theorem zGS{v:Value}{xs:List Int}{t E:TypeId}{x:Operand}(ht:P.underlying t=some (.slice E))(hx:zJ e x=some v)(hv:Is h v xs):
 OpV P n w0 h0 ⟨ds,.call {callee:=.builtin .len,args:=#[x],argTypes:=#[t]},ty,ps,af,gd⟩ e L h (vI (xs.length:Int)):=nD ht hx hv.one
theorem zKJ{v:Value}{xs:List Int}{t E:TypeId}{x y:Operand}{q:Int}(i:Nat)(ht:P.underlying t=some (.slice E))(hsz:∀w,(Go.sizeOf E).run P w=.ok 1 w)(hx:zJ e x=some v)(hy:zJ e y=some (vI q))
    (hv:Is h v xs)(hq:q=(i:Int))(hi:i<xs.length):OpV P n w0 h0 ⟨ds,.indexAddr t x y,ty,ps,af,gd⟩ e L h (zM 1 v i):=eE i ht hsz hx hy hv.sl hq hi zos
theorem zM9{v:Value}{xs:List Int}{t:TypeId}{x:Operand}{i:Nat}(ha:∀w,(isAgg t).run P w=.ok false w)(hx:zJ e x=some (zM 1 v i))(hv:Is h v xs)(hi:i<xs.length):
 OpV P n w0 h0 ⟨ds,.load t x,ty,ps,af,gd⟩ e L h (vI (xs.getD i 0)):=
 zEA ha hx hv.sl (by rw[z0u,zoc hi,zoa,zoc hi];rfl)
theorem zRK{t yt:TypeId}{x y:Operand}{p q:Int}(hx:zJ e x=some (vI p))(hy:zJ e y=some (vI q))(h3:0<q):
 OpV P n w0 h0 ⟨ds,.binOp .rem t x y yt,ty,ps,af,gd⟩ e L h (vI (p.tmod q)):=by
 intro a w E S;have C:q≠0:=by omega
 simp[execOp,E.eval hx,E.eval hy,vI,xG,binOp,Op.intDiv,C]
end
def u9(w0:World)(h0:Mem)(h:Mem)(L:List Res)(G:Mem->Value->Res->Prop):Ending->World->Prop:=
 rG w0 h0 (λg v K=>∃q',(q'::L).Sublist K/\MLe h g/\G g v q')
section
variable {P:Program}{n:Nat}{w0:World}{h0:Mem}{e:List (Nat×Value)}{L:List Res}{h:Mem}{Q:Exit->Act->World->Prop}
variable {ty:TypeId}{ps:String}{af:Array Edge}
theorem yX{ops:Array Oper}{rest:List Oper}{d f:Nat}{xs:List Operand}{ts:Array TypeId}{vs:List Value}{A B:List Res}{q:Res}{G:Mem->Value->Res->Prop}(hcall:∀args w,(callFunc f args).run P w=.ok (.enter f args) w)(hvs:bC e xs vs)
    (hc:∀X w,St w0 h0 (q::X) h w->Calls P f vs.toArray w (u9 w0 h0 h X G))(hn:Nat.ble (d+1) n=true)(k:∀v g q',MLe h g->G g v q'->GL P n w0 h0 ops Q rest ((d,v)::e) (A++q'::B) g):
    GL P n w0 h0 ops Q (⟨some d,.call {callee:=.value (.func f),args:=xs.toArray,argTypes:=ts},ty,ps,af,none⟩::rest) e (A++q::B) h:=by
 refine zLL ?_;refine eT I I I hn hcall hvs (hc (A++B)) ?_
 rintro v g K ⟨q',D,C,H⟩
 have:=k v g q' C H;exactλa w J S=>this a w J ((S.sublist D).perm yqe.symm)
section
variable {ops:Array Oper}{R:List Res}{d:Nat}
theorem zK9{A B:List Res}{q:Res}:∀r∈A++B,r∈A++q::B:=by
 intro r C;simp only[zni,zfi] at C ⊢
 rcases C with h|h
 · exact .inl h
 · exact .inr (.inr h)
theorem jD{Q:Exit->Act->World->Prop}{id:Nat}{l:List Oper}{A B:List Res}{q:Res}(m:Nat)(al:Als)(ord:List (Nat×Kd))(hm:P.follows .mixedOrders=true)(hal:jZ P n l.toArray al)
    (hchk:(Region.noSelect l.toArray&&pE l.toArray al&&(al.all λx=>decide (x.1<m))&&chk l.toArray m ord (Array.replicate l.length false) (al.map (·.1)))=true)(hae:∀x∈al,al.lookup x.1=some x.2/\e.lookup x.2.1=none)
    (k:W P n w0 h0 l.toArray Q (A++B) al ord e (A++q::B) h):GC P n w0 h0 (.region id l.toArray true) Q e (A++q::B) h:=zK m (A++B) al ord hm hal hchk hae zK9 k
theorem xU{R A B:List Res}{q:Res}(hR:∀r∈R,r∈A++B):∀r∈R,∀q',r∈A++q::B->r∈A++q'::B:=λr hr q' _=>zK9 r (hR r hr)
end
end
def zRZ(p q:Int):Int:=if p.tmod q<0 then p.tmod q+q else p.tmod q
theorem zDP(p:Int){q:Int}(hq:0<q):-q<p.tmod q/\p.tmod q<q:=by
 have h1:=Int.tmod_lt_of_pos p hq;have h2:=Int.tmod_lt_of_pos (-p) hq;rw[Int.neg_tmod] at h2;omega
theorem zN3(p:Int){q:Int}(hq:0<q):0<=zRZ p q/\zRZ p q<q:=by
 have:=zDP p hq;unfold zRZ
 split<;>omega
theorem zSL{v:Value}(h:v.oneCell'=true):v.cells=#[v]:=by cases v<;>simp[Value.oneCell'] at h<;>rfl
structure Rp(α:Type) where
 n:Nat
 agg:Bool
 R:Mem->List Value->α->Prop
 len:∀{h cs x},R h cs x->cs.length=n
 mono:∀{h h' cs x},MLe h h'->R h cs x->R h' cs x
 one:∀{h cs x},R h cs x->cs.all (·.oneCell')=true
 cell:agg=false->n=1
section
variable {α β γ δ:Type}
def Rp.val(ρ:Rp α)(cs:List Value):Value:=if ρ.agg then .agg cs.toArray else cs.headD undef
def Rp.Is(ρ:Rp α)(h:Mem)(v:Value)(x:α):Prop:=∃cs,ρ.R h cs x/\v=ρ.val cs
theorem Rp.Is.mono{ρ:Rp α}{h h':Mem}{v:Value}{x:α}(s:ρ.Is h v x)(hh:MLe h h'):ρ.Is h' v x:=by
 obtain⟨cs,r,e⟩:=s;exact⟨cs,ρ.mono hh r,e⟩
theorem Rp.single{ρ:Rp α}{h:Mem}{cs:List Value}{x:α}(r:ρ.R h cs x)(ha:ρ.agg=false):∃c,cs=[c]/\c.oneCell'=true:=by
 have h1:=ρ.len r;have h2:=ρ.one r;rw[ρ.cell ha] at h1
 match cs,h1 with
 |[c],_=>exact⟨c,rfl,by simpa using h2⟩
theorem Rp.cells_val{ρ:Rp α}{h:Mem}{cs:List Value}{x:α}(r:ρ.R h cs x):(ρ.val cs).cells=cs.toArray:=by
 unfold Rp.val
 split
 · rfl
 · rename_i ha
   obtain⟨c,rfl,C⟩:=Rp.single r (by simpa using ha);exact zSL C
theorem Rp.Is.cells{ρ:Rp α}{h:Mem}{v:Value}{x:α}(s:ρ.Is h v x):∃cs,ρ.R h cs x/\v.cells=cs.toArray:=by
 obtain⟨cs,r,rfl⟩:=s;exact⟨cs,r,Rp.cells_val r⟩
theorem Rp.Is.cast{ρ:Rp α}{h:Mem}{v:Value}{x y:α}(s:ρ.Is h v x)(e:x=y):ρ.Is h v y:=e▸s
def RL(ρ:Rp α)(h:Mem):List Value->List α->Prop
  |cs,[]=>cs=[]
  |cs,x::xs=>∃a b,cs=a++b/\ρ.R h a x/\RL ρ h b xs
theorem RL.len{ρ:Rp α}{h:Mem}:∀{xs:List α} {cs:List Value},RL ρ h cs xs->cs.length=xs.length*ρ.n
  |[],_,r=>by rw[r];simp
  |x::xs,_,⟨a,b,e,r,s⟩=>by rw[e,lAz,ρ.len r,s.len,lC,z1e];omega
theorem RL.mono{ρ:Rp α}{h h':Mem}(hh:MLe h h'):∀{xs:List α} {cs:List Value},RL ρ h cs xs->RL ρ h' cs xs
  |[],_,r=>r
  |_::_,_,⟨a,b,e,r,s⟩=>⟨a,b,e,ρ.mono hh r,s.mono hh⟩
theorem RL.one{ρ:Rp α}{h:Mem}:∀{xs:List α} {cs:List Value},RL ρ h cs xs->cs.all (·.oneCell')=true
  |[],_,r=>by rw[r];rfl
  |_::_,_,⟨a,b,e,r,s⟩=>by rw[e,List.all_append,ρ.one r,s.one];rfl
theorem RL.append{ρ:Rp α}{h:Mem}:∀{xs ys:List α} {cs ds:List Value},RL ρ h cs xs->RL ρ h ds ys->RL ρ h (cs++ds) (xs++ys)
  |[],_,_,_,r,s=>by rw[r];exact s
  |_::_,_,_,_,⟨a,b,e,r,s⟩,t=>⟨a,_,by rw[e,zii],r,s.append t⟩
theorem RL.nil{ρ:Rp α}{h:Mem}:RL ρ h [] []:=rfl
theorem RL.drop{ρ:Rp α}{h:Mem}:∀{xs:List α} {cs:List Value} (i:Nat),RL ρ h cs xs->RL ρ h (cs.drop (i*ρ.n)) (xs.drop i)
  |_,_,0,r=>by simpa using r
  |[],_,i+1,r=>by rw[r];simp[RL]
  |_::xs,_,i+1,⟨a,b,e,r,s⟩=>by
   rw[e,show(i+1)*ρ.n=a.length+i*ρ.n by rw[ρ.len r,z1e];omega,<-z9i,ywe];exact s.drop i
theorem RL.take{ρ:Rp α}{h:Mem}:∀{xs:List α} {cs:List Value} (i:Nat),RL ρ h cs xs->RL ρ h (cs.take (i*ρ.n)) (xs.take i)
  |_,_,0,r=>by simp[RL]
  |[],_,i+1,r=>by rw[r];simp[RL]
  |_::xs,_,i+1,⟨a,b,e,r,s⟩=>by
   rw[e,show(i+1)*ρ.n=a.length+i*ρ.n by rw[ρ.len r,z1e];omega,ylu];exact⟨a,_,rfl,r,s.take i⟩
theorem RL.get{ρ:Rp α}{h:Mem}{xs:List α}{cs:List Value}{i:Nat}{x:α}(r:RL ρ h cs xs)(hx:xs[i]?=some x):ρ.R h ((cs.drop (i*ρ.n)).take ρ.n) x:=by
 have h1:=r.drop i;obtain⟨hi,e⟩:=zvu.1 hx;rw[yei hi,e] at h1;obtain⟨a,b,D,C,_⟩:=h1;rw[D,<-ρ.len C,List.take_left];exact C
theorem RL.set{ρ:Rp α}{h:Mem}{xs:List α}{cs ds:List Value}{i:Nat}{y:α}(r:RL ρ h cs xs)(hi:i<xs.length)(hd:ρ.R h ds y):RL ρ h (cs.take (i*ρ.n)++ds++cs.drop (i*ρ.n+ρ.n)) (xs.set i y):=by
 have h1:=r.take i;have h2:=r.drop (i+1);rw[z1e,yeu] at h2;rw[yee,zau hi,zii];exact h1.append ⟨ds,_,I,hd,h2⟩
def rpQ(k:Nat):Rp Rat where
 n:=3
 agg:=true
 R h cs q:=(∃vn vd,cs=[vB (q.num<0),vn,vd]/\Us .u32 h vn (zB q.num.natAbs)/\Us .u32 h vd (zB (wC q.den)))/\lq q<=k
 len:=by rintro h cs q ⟨⟨vn,vd,rfl,_⟩,_⟩;rfl
 mono:=by
  rintro h h' cs q hh ⟨⟨vn,vd,rfl,h1,h2⟩,h3⟩
  exact⟨⟨vn,vd,rfl,h1.mono hh,h2.mono hh⟩,h3⟩
 one:=by
  rintro h cs q ⟨⟨vn,vd,rfl,h1,h2⟩,h3⟩
  exact ocr rfl (ocu h1 (ocu h2 oc0))
 cell:=by simp
def rpI:Rp Int where
 n:=1
 agg:=false
 R _ cs z:=cs=[vI z]/\-9223372036854775808<=z/\z<9223372036854775808
 len:=by rintro h cs z ⟨rfl,_⟩;rfl
 mono:=λ_ r=>r
 one:=by rintro h cs z ⟨rfl,_⟩;rfl
 cell:=λ_=>rfl
def rpB:Rp Prop where
 n:=1
 agg:=false
 R _ cs p:=cs=[vB p]
 len:=by rintro h cs p rfl;rfl
 mono:=λ_ r=>r
 one:=by rintro h cs p rfl;rfl
 cell:=λ_=>rfl
def rpP(ρ:Rp α)(σ:Rp β):Rp (α×β) where
 n:=ρ.n+σ.n
 agg:=true
 R h cs x:=∃a b,cs=a++b/\ρ.R h a x.1/\σ.R h b x.2
 len:=by rintro h cs x ⟨a,b,rfl,h1,h2⟩;rw[lAz,ρ.len h1,σ.len h2]
 mono:=by rintro h h' cs x hh ⟨a,b,rfl,h1,h2⟩;exact⟨a,b,rfl,ρ.mono hh h1,σ.mono hh h2⟩
 one:=by rintro h cs x ⟨a,b,rfl,h1,h2⟩;rw[List.all_append,ρ.one h1,σ.one h2];rfl
 cell:=by simp
@[ext] structure T3(α:Type) where
 x:α
 y:α
 z:α
abbrev zT:T3 Rat:=T3.mk (0:Rat) 0 0
def T3.at(p:T3 α):Nat->α
  |0=>p.x
  |1=>p.y
  |_=>p.z
def T3.set(p:T3 α):Nat->α->T3 α
  |0,a=>⟨a,p.y,p.z⟩
  |1,a=>⟨p.x,a,p.z⟩
  |_,a=>⟨p.x,p.y,a⟩
def rpT(ρ:Rp α):Rp (T3 α) where
 n:=ρ.n+(ρ.n+ρ.n)
 agg:=true
 R h cs p:=(rpP ρ (rpP ρ ρ)).R h cs (p.x,p.y,p.z)
 len:=λr=>(rpP ρ (rpP ρ ρ)).len r
 mono:=λhh r=>(rpP ρ (rpP ρ ρ)).mono hh r
 one:=λr=>(rpP ρ (rpP ρ ρ)).one r
 cell:=by simp
def rpA(k:Nat)(ρ:Rp α):Rp (List α) where
 n:=k*ρ.n
 agg:=true
 R h cs xs:=xs.length=k/\RL ρ h cs xs
 len:=by rintro h cs xs ⟨rfl,r⟩;exact r.len
 mono:=λhh r=>⟨r.1,r.2.mono hh⟩
 one:=λr=>r.2.one
 cell:=by simp
def rpS(ρ:Rp α):Rp (List α) where
 n:=1
 agg:=false
 R h cs xs:=∃v ds,cs=[v]/\Sl h ρ.n v xs.length ds/\RL ρ h ds xs
 len:=by rintro h cs xs ⟨v,ds,rfl,_⟩;rfl
 mono:=by rintro h h' cs xs hh ⟨v,ds,rfl,h1,h2⟩;exact⟨v,ds,rfl,h1.mono hh,h2.mono hh⟩
 one:=by
  rintro h cs xs ⟨v,ds,rfl,h1,h2⟩
  obtain⟨a,cap,rfl⟩:=h1.one
  rfl
 cell:=λ_=>rfl
theorem wA{h:Mem}{z:Int}(h1:-9223372036854775808<=z)(h2:z<9223372036854775808):rpI.Is h (vI z) z:=⟨_,⟨rfl,h1,h2⟩,rfl⟩
theorem kF{h:Mem}{v:Value}{z:Int}(s:rpI.Is h v z):v=vI z/\-9223372036854775808<=z/\z<9223372036854775808:=by
 obtain⟨cs,⟨rfl,h1,h2⟩,rfl⟩:=s;exact⟨I,h1,h2⟩
theorem is_b{h:Mem}(p:Prop):rpB.Is h (vB p) p:=⟨_,rfl,rfl⟩
theorem of_b{h:Mem}{v:Value}{p:Prop}(s:rpB.Is h v p):v=vB p:=by
 obtain⟨cs,rfl,rfl⟩:=s
 rfl
theorem oN{h:Mem}{v:Value}{q:Rat}{k:Nat}(s:wR h v q)(hk:lq q<=k):(rpQ k).Is h v q:=by
 obtain⟨C,D,rfl,h1,h2⟩:=s;exact⟨_,⟨⟨C,D,I,h1,h2⟩,hk⟩,I⟩
theorem yF5{h:Mem}{v:Value}{q:Rat}{k:Nat}(s:(rpQ k).Is h v q):wR h v q/\lq q<=k:=by
 obtain⟨cs,⟨⟨C,D,rfl,h1,h2⟩,G⟩,rfl⟩:=s;exact⟨⟨C,D,I,h1,h2⟩,G⟩
theorem qN{h:Mem}{v:Value}{q:Rat}{k:Nat}(s:(rpQ k).Is h v q):∃vn vd,v=.agg #[vB (q.num<0),vn,vd]/\Us .u32 h vn (zB q.num.natAbs)/\Us .u32 h vd (zB (wC q.den))/\lq q<=k:=by
 obtain⟨cs,⟨⟨vn,vd,rfl,h1,h2⟩,C⟩,rfl⟩:=s;exact⟨vn,vd,I,h1,h2,C⟩
theorem zZK{ρ:Rp α}{h:Mem}{v:Value}{xs:List α}{ds:List Value}(s:Sl h ρ.n v xs.length ds)(r:RL ρ h ds xs):(rpS ρ).Is h v xs:=⟨_,⟨v,ds,rfl,s,r⟩,rfl⟩
theorem zNI{ρ:Rp α}{h:Mem}{v:Value}{xs:List α}(s:(rpS ρ).Is h v xs):∃ds,Sl h ρ.n v xs.length ds/\RL ρ h ds xs:=by
 obtain⟨cs,⟨v,ds,rfl,h1,h2⟩,rfl⟩:=s;exact⟨ds,h1,h2⟩
theorem aC{ρ:Rp α}(h:Mem):(rpS ρ).Is h (.slice none 0 0) []:=zZK (Sl.nil h _) rfl
theorem zYE{ρ:Rp α}{h:Mem}{v:Value}{xs:List α}(s:(rpS ρ).Is h v xs):xs.length<9223372036854775808:=by
 obtain⟨ds,h1,_⟩:=zNI s;exact h1.lt63
theorem yAH{ρ:Rp α}{h:Mem}{v:Value}{xs:List α}(s:(rpS ρ).Is h v xs):∃a cap,v=.slice a xs.length cap:=by
 obtain⟨ds,h1,_⟩:=zNI s;exact h1.one
structure Le(ρ σ:Rp α):Prop where
 n:ρ.n=σ.n
 agg:ρ.agg=σ.agg
 R:∀{h cs x},ρ.R h cs x->σ.R h cs x
theorem Le.refl(ρ:Rp α):Le ρ ρ:=⟨rfl,rfl,id⟩
theorem Le.q{k l:Nat}(h:k<=l):Le (rpQ k) (rpQ l):=⟨rfl,rfl,λ⟨a,b⟩=>⟨a,zci b h⟩⟩
theorem Le.p{ρ ρ':Rp α}{σ σ':Rp β}(h:Le ρ ρ')(k:Le σ σ'):Le (rpP ρ σ) (rpP ρ' σ'):=⟨by show ρ.n+σ.n=ρ'.n+σ'.n;rw[h.n,k.n],rfl,λ⟨a,b,e,r,s⟩=>⟨a,b,e,h.R r,k.R s⟩⟩
theorem Le.t{ρ ρ':Rp α}(h:Le ρ ρ'):Le (rpT ρ) (rpT ρ'):=⟨by show ρ.n+(ρ.n+ρ.n)=ρ'.n+(ρ'.n+ρ'.n);rw[h.n],rfl,λr=>(Le.p h (Le.p h h)).R r⟩
theorem Le.rl{ρ ρ':Rp α}(h:Le ρ ρ'){m:Mem}:∀{xs:List α} {cs:List Value},RL ρ m cs xs->RL ρ' m cs xs
  |[],_,r=>r
  |_::_,_,⟨a,b,e,r,s⟩=>⟨a,b,e,h.R r,h.rl s⟩
theorem Le.s{ρ ρ':Rp α}(h:Le ρ ρ'):Le (rpS ρ) (rpS ρ'):=⟨rfl,rfl,λ⟨v,ds,e,s,r⟩=>⟨v,ds,e,h.n▸s,h.rl r⟩⟩
theorem Rp.Is.le{ρ σ:Rp α}{h:Mem}{v:Value}{x:α}(s:ρ.Is h v x)(k:Le ρ σ):σ.Is h v x:=by
 obtain⟨cs,r,rfl⟩:=s;exact⟨cs,k.R r,by unfold Rp.val;rw[k.agg]⟩
structure Pc(ρ:Rp α)(off:Nat)(σ:Rp β)(g:α->β)(s:α->β->α):Prop where
 fits:off+σ.n<=ρ.n
 get:∀{h cs x},ρ.R h cs x->σ.R h ((cs.drop off).take σ.n) (g x)
 set:∀{h cs x ds y},ρ.R h cs x->σ.R h ds y->ρ.R h (cs.take off++ds++cs.drop (off+σ.n)) (s x y)
theorem Pc.here(ρ:Rp α):Pc ρ 0 ρ (λx=>x) (λ_ y=>y):=by
 refine⟨by omega,λr=>?_,λ{h cs x ds y} r s=>?_⟩
 · have:=ρ.len r
   rw[ybu,<-this,zze];exact r
 · have:=ρ.len r
   rw[zue,<-this,List.drop_length,yke,zhu,zli];exact s
theorem Pc.fst{ρ:Rp α}{σ:Rp β}{τ:Rp γ}{off:Nat}{g:α->γ}{s:α->γ->α}(p:Pc ρ off τ g s):Pc (rpP ρ σ) off τ (λx=>g x.1) (λx y=>(s x.1 y,x.2)):=by
 have J:=p.fits;refine⟨by show off+τ.n<=ρ.n+σ.n;omega,?_,?_⟩
 · rintro h cs x ⟨a,b,rfl,C,D⟩
   have H:=ρ.len C;have:=p.get C
   rwa [yju zos,yae (by rw[zhe];omega)]
 · rintro h cs x ds y ⟨a,b,rfl,C,D⟩ G
   have H:=ρ.len C;refine⟨_,b,?_,p.set C G,D⟩;rw[yae zos,yju zos];simp[zii]
theorem Pc.snd{ρ:Rp α}{σ:Rp β}{τ:Rp γ}{off:Nat}{g:β->γ}{s:β->γ->β}(p:Pc σ off τ g s):Pc (rpP ρ σ) (ρ.n+off) τ (λx=>g x.2) (λx y=>(x.1,s x.2 y)):=by
 have J:=p.fits;refine⟨by show ρ.n+off+τ.n<=ρ.n+σ.n;omega,?_,?_⟩
 · rintro h cs x ⟨a,b,rfl,C,D⟩
   have G:=ρ.len C;have:=p.get D
   rwa [<-G,<-z9i,ywe]
 · rintro h cs x ds y ⟨a,b,rfl,C,D⟩ H
   have G:=ρ.len C;refine⟨a,_,?_,C,p.set D H⟩;rw[<-G,ylu,z3i,<-z9i,ywe];simp[zii]
theorem Pc.tx{ρ:Rp α}{τ:Rp γ}{off:Nat}{g:α->γ}{s:α->γ->α}(p:Pc ρ off τ g s):Pc (rpT ρ) off τ (λx=>g x.x) (λx y=>⟨s x.x y,x.y,x.z⟩):=by
 have q:Pc (rpP ρ (rpP ρ ρ)) off τ _ _:=p.fst;exact⟨q.fits,λr=>q.get r,λr d=>q.set r d⟩
theorem Pc.ty{ρ:Rp α}{τ:Rp γ}{off:Nat}{g:α->γ}{s:α->γ->α}(p:Pc ρ off τ g s):Pc (rpT ρ) (ρ.n+off) τ (λx=>g x.y) (λx y=>⟨x.x,s x.y y,x.z⟩):=by
 have q:Pc (rpP ρ (rpP ρ ρ)) (ρ.n+off) τ _ _:=(Pc.fst (σ:=ρ) p).snd;exact⟨q.fits,λr=>q.get r,λr d=>q.set r d⟩
theorem Pc.tz{ρ:Rp α}{τ:Rp γ}{off:Nat}{g:α->γ}{s:α->γ->α}(p:Pc ρ off τ g s):Pc (rpT ρ) (ρ.n+(ρ.n+off)) τ (λx=>g x.z) (λx y=>⟨x.x,x.y,s x.z y⟩):=by
 have q:Pc (rpP ρ (rpP ρ ρ)) (ρ.n+(ρ.n+off)) τ _ _:=(Pc.snd (ρ:=ρ) p).snd;exact⟨q.fits,λr=>q.get r,λr d=>q.set r d⟩
theorem Pc.ta{ρ:Rp α}{τ:Rp γ}{off:Nat}{g:α->γ}{s:α->γ->α}(p:Pc ρ off τ g s)(i:Nat)(hi:i<3):Pc (rpT ρ) (i*ρ.n+off) τ (λx=>g (x.at i)) (λx y=>x.set i (s (x.at i) y)):=by
 match i,hi with
 |0,_=>rw[zvi,zue];exact p.tx
 |1,_=>rw[yeu];exact p.ty
 |2,_=>rw[show 2*ρ.n+off=ρ.n+(ρ.n+off) by omega];exact p.tz
theorem Pc.arr{ρ:Rp α}{τ:Rp γ}{off k:Nat}{g:α->γ}{s:α->γ->α}(p:Pc ρ off τ g s)(d:α)(i:Nat)(hi:i<k):Pc (rpA k ρ) (i*ρ.n+off) τ (λx=>g (x.getD i d)) (λx y=>x.set i (s (x.getD i d) y)):=by
 have U:=p.fits;have O:i*ρ.n+ρ.n<=k*ρ.n:=by rw[<-yfe];exact zfu _ hi
 have hx:∀{x:List α},x.length=k->x[i]?=some (x.getD i d):=by
  intro x C;rw[zoa,zoc zos];rfl
 refine⟨by show i*ρ.n+off+τ.n<=k*ρ.n;omega,?_,?_⟩
 · rintro h cs x ⟨C,r⟩
   have h1:=p.get (r.get (hx C));rw[List.drop_take,List.take_take,zri zos,z9i] at h1;exact h1
 · rintro h cs x ds y ⟨C,r⟩ G
   have H:=r.len;rw[C] at H;refine⟨by simpa using C,?_⟩;have h1:=r.set (i:=i) zos (p.set (r.get (hx C)) G);have e:cs.take (i*ρ.n)++(((cs.drop (i*ρ.n)).take ρ.n).take off++ds++((cs.drop (i*ρ.n)).take ρ.n).drop (off+τ.n))++cs.drop (i*ρ.n+ρ.n)=cs.take (i*ρ.n+off)++ds++cs.drop (i*ρ.n+off+τ.n):=by
    rw[List.take_take,zri zos,List.drop_take,z9i];have M:cs.take (i*ρ.n+off)=cs.take (i*ρ.n)++(cs.drop (i*ρ.n)).take off:=List.take_add;have J:cs.drop (i*ρ.n+off+τ.n)=(cs.drop (i*ρ.n+(off+τ.n))).take (ρ.n-(off+τ.n))++cs.drop (i*ρ.n+ρ.n):=by
     have D:=ydu (ρ.n-(off+τ.n)) (cs.drop (i*ρ.n+(off+τ.n)));rw[z9i,show i*ρ.n+(off+τ.n)+(ρ.n-(off+τ.n))=i*ρ.n+ρ.n by omega] at D;rw[z3i (i*ρ.n)];exact D.symm
    rw[M,J];simp[zii]
   rw[<-e];exact h1
theorem yE{k:Nat}{h:Mem}(hk:1<=k):(rpQ k).R h [.bool false,.slice none 0 0,.slice none 0 0] 0:=by
 refine⟨⟨_,_,?_,zCA h,zCB h⟩,by rw[rX];exact hk⟩;rw[yV (show ¬(0:Rat).num<0 by decide)]
theorem wN{h:Mem}:rpI.R h [.int .i64 0] 0:=⟨rfl,by decide,by decide⟩
theorem zr_b{h:Mem}:rpB.R h [.bool false] False:=by show _=_;rw[yV (p:=False) id]
theorem yF{ρ:Rp α}{σ:Rp β}{h:Mem}{a b:List Value}{x:α}{y:β}(r:ρ.R h a x)(s:σ.R h b y):(rpP ρ σ).R h (a++b) (x,y):=⟨a,b,rfl,r,s⟩
theorem xE{ρ:Rp α}{h:Mem}{a:List Value}{x:α}(r:ρ.R h a x):(rpT ρ).R h (a++(a++a)) ⟨x,x,x⟩:=⟨a,_,rfl,r,a,a,rfl,r,r⟩
theorem wJ{ρ:Rp α}{h:Mem}:(rpS ρ).R h [.slice none 0 0] []:=⟨_,[],rfl,Sl.nil h _,rfl⟩
theorem yBB{ρ:Rp α}{h:Mem}{a:List Value}{x:α}(k:Nat)(r:ρ.R h a x):(rpA k ρ).R h (List.replicate k a).flatten (List.replicate k x):=by
 refine⟨z4i,?_⟩
 induction k with
 |zero=>rfl
 |succ k ih=>rw[ygi,ygi];exact⟨a,_,I,r,ih⟩
end
structure TyOk(P:Program)(t:TypeId)(n:Nat)(agg:Bool):Prop where
 sz:∀w,(Go.sizeOf t).run P w=.ok n w
 ag:∀w,(isAgg t).run P w=.ok agg w
section
variable {α β γ:Type}
variable {P:Program}{n:Nat}{w0:World}{h0:Mem}{e:List (Nat×Value)}{L:List Res}{h:Mem}{Q:Exit->Act->World->Prop}
variable {ds:Option Tmp}{ty:TypeId}{ps:String}{af:Array Edge}{gd:Option (Nat×Bool)}
theorem zD5:∀(vs:List Value) (k:Nat) (cs:List Value),k+vs.length<=cs.length->dD cs k vs=cs.take k++vs++cs.drop (k+vs.length):=by
 have key:∀(vs:List Value) (j k:Nat) (cs:List Value),k+j+vs.length<=cs.length->(vs.zipIdx j).foldl (λc p=>c.set (k+p.2) p.1) cs=cs.take (k+j)++vs++cs.drop (k+j+vs.length):=by
  intro vs
  induction vs with
  |nil=>intro j k cs hl;simp
  |cons v vs ih=>
   intro j k cs hl;simp only[lC] at hl;rw[yfi,zxi,ih (j+1) k _ (by rw[lS];omega)];rw[yee,zau zos];have h1:(cs.take (k+j)).length=k+j:=by rw[zei];omega
   have e1:(cs.take (k+j)++v::cs.drop (k+j+1)).take (k+(j+1))=cs.take (k+j)++[v]:=by
    rw[show k+(j+1)=(cs.take (k+j)).length+1 by omega,ylu];rfl
   have e2:(cs.take (k+j)++v::cs.drop (k+j+1)).drop (k+(j+1)+vs.length)=cs.drop (k+j+(vs.length+1)):=by
    rw[show k+(j+1)+vs.length=(cs.take (k+j)).length+(vs.length+1) by omega,<-z9i,ywe,List.drop_succ_cons,z9i]
    congr 1;omega
   rw[e1,e2];simp
 intro vs k cs hl;exact key vs 0 k cs zos
def OpX(P:Program)(n:Nat)(w0:World)(h0:Mem)(o:Oper)(e:List (Nat×Value))(R:List Res)(h:Mem)(F:Value->Prop):Prop:=
 ∃v,(∀L' h',MLe h h'->(∀r∈R,r∈L')->OpV P n w0 h0 o e L' h' v)/\F v
theorem zLK{ops:Array Oper}{rest:List Oper}{d:Nat}{op:Op}{R:List Res}{F:Value->Prop}(hv:OpX P n w0 h0 ⟨some d,op,ty,ps,af,none⟩ e R h F)(hR:∀r∈R,r∈L)(hn:Nat.ble (d+1) n=true)
    (k:∀v,F v->GL P n w0 h0 ops Q rest ((d,v)::e) L h):GL P n w0 h0 ops Q (⟨some d,op,ty,ps,af,none⟩::rest) e L h:=by
 obtain⟨v,hv,C⟩:=hv;exact mS (hv L h (MLe.refl h) hR) I I hn (k v C)
section
variable {ops:Array Oper}{RR:List Res}{al:Als}{d i:Nat}{op:Op}{v:Value}{r:List (Nat×Kd)}{g t:Nat}{b:Bool}
theorem lJ{R:List Res}{F:Value->Prop}(ho:ops.getD i default=⟨some d,op,ty,ps,af,none⟩)(hv:OpX P n w0 h0 ⟨some d,op,ty,ps,af,none⟩ e R h F)(hR:∀r∈R,r∈RR)(hn:Nat.ble (d+1) n=true)
    (k:∀v,F v->W P n w0 h0 ops Q RR al r ((d,v)::e) L h):W P n w0 h0 ops Q RR al ((i,.q)::r) e L h:=by
 obtain⟨v,hv,G⟩:=hv;exact w_q ho (λh' L' hh D=>hv L' h' hh λr C=>D r (hR r C)) hn (k v G)
theorem x_qx{K:List (Nat×Value)->List Res->Mem->Prop}{R:List Res}{F:Value->Prop}(ho:ops.getD i default=⟨some d,op,ty,ps,af,none⟩)(hv:OpX P n w0 h0 ⟨some d,op,ty,ps,af,none⟩ e R h F)(hR:∀r∈R,r∈RR)(hn:Nat.ble (d+1) n=true)
    (k:∀v,F v->K ((d,v)::e) L h):SQ P n w0 h0 ops RR i e L h K:=by
 obtain⟨v,hv,G⟩:=hv;exact x_q ho (λh' L' hh D=>hv L' h' hh λr C=>D r (hR r C)) hn (k v G)
theorem aL{R:List Res}{F:Value->Prop}(ho:ops.getD i default=⟨some d,op,ty,ps,af,some (g,b)⟩)(ht:(ops[g]?).bind (·.dst)=some t)(he:e.lookup t=some (.bool b))(hv:OpX P n w0 h0 ⟨some d,op,ty,ps,af,none⟩ e R h F)(hR:∀r∈R,r∈RR)(hn:Nat.ble (d+1) n=true)
    (k:∀v,F v->W P n w0 h0 ops Q RR al r ((d,v)::e) L h):W P n w0 h0 ops Q RR al ((i,.q)::r) e L h:=by
 obtain⟨v,hv,G⟩:=hv;exact yU ho ht he (λh' L' hh D=>hv L' h' hh λr C=>D r (hR r C)) hn (k v G)
theorem s_x{W':List (Nat×Value)->List Res->Mem->Prop}{R:List Res}{F:Value->Prop}(hv:OpX P n w0 h0 ⟨some d,op,ty,ps,af,none⟩ e R h F)(hR:∀r∈R,r∈L)(hn:Nat.ble (d+1) n=true)
    (k:∀v,F v->W' ((d,v)::e) L h):jF P n w0 h0 ops RR ⟨some d,op,ty,ps,af,none⟩ e L h W':=by
 obtain⟨v,hv,D⟩:=hv;exact zTQ (λX=>hv (L++X) h (MLe.refl h) λr C=>z5e _ (hR r C)) hn (k v D)
end
theorem zBT{L:List Res}:∀r∈([]:List Res),r∈L:=λr hr=>by cases hr
theorem sL{L:List Res}{r:Res}(hr:r∈L):∀x∈[r],x∈L:=λx hx=>by cases hx with|head=>exact hr|tail _ h=>cases h
theorem zAN{t:TypeId}{σ:Rp β}{cs:List Value}{y:β}{w:World}{b o:Nat}(T:TyOk P t σ.n σ.agg)(r:σ.R h cs y)(hc:w.rangeAt b o cs):(Instr.loadAt t (vP b o)).run P w=.ok (σ.val cs) w:=by
 have C:=σ.len r;simp only[Instr.loadAt,Instr.sureAddr,loadVar,Sem.run_bind,T.ag,Result.andThen_ok,Sem.run_pure];unfold Rp.val
 cases ha:σ.agg with
 |true=>
  have D:(loadCells ⟨b,o,none⟩ cs.length).run P w=.ok cs.toArray w:=run_loadCells_list (P:=P) w ⟨b,o,none⟩ cs (λj v G=>by rw[Addr.add_mid];exact hc j v G);rw[C] at D;simp[Sem.run_bind,T.sz,D]
 |false=>
  obtain⟨c,rfl,_⟩:=Rp.single r ha;have:=hc 0 c I;simp only[zmi] at this;simp[Go.load,Sem.run,this]
theorem zKE{t E:TypeId}{x:Operand}{b k off:Nat}{cs:List Value}{ρ:Rp α}{σ:Rp β}{g:α->β}{s:α->β->α}{X:α}{Z:β}(T:TyOk P t σ.n σ.agg)(pc:Pc ρ off σ g s)(ho:k=off)(hx:zJ e x=some (vP b k))(r:ρ.R h cs X)(hZ:g X=Z):
 OpX P n w0 h0 ⟨ds,.load t x,ty,ps,af,gd⟩ e [.var b E cs] h (λu=>σ.Is h u Z):=by
 subst hZ;subst ho;have h1:=pc.get r;refine⟨_,λL' h' _ G a w H S=>?_,_,h1,I⟩;have C:w.heap[b]?=some (.cells cs.toArray E):=S.ok (.var b E cs) (G _ (.head _));have D:=zAN (P:=P) (w:=w) T h1 (iC C k _ (by rw[σ.len h1]));simp[execOp,H.eval hx,D]
def AtP(ρ:Rp α)(h:Mem)(p:Value)(X:α):Prop:=∃b o cs,p=vP b o/\ρ.R h cs X/\∀j u,cs[j]?=some u->cell h b (o+j)=some u
theorem AtP.mono{ρ:Rp α}{h h':Mem}{p:Value}{X:α}(s:AtP ρ h p X)(hh:MLe h h'):AtP ρ h' p X:=by
 obtain⟨b,o,cs,e,r,D⟩:=s;exact⟨b,o,cs,e,ρ.mono hh r,λj u C=>zB4 hh (D j u C)⟩
theorem rT{t E:TypeId}{x y:Operand}{q:Int}{v:Value}{ρ:Rp α}{xs:List α}(d:α)(i:Nat)(ht:P.underlying t=some (.slice E))(T:TyOk P E ρ.n ρ.agg)(hx:zJ e x=some v)(hy:zJ e y=some (vI q))(r:(rpS ρ).Is h v xs)(hq:q=(i:Int))(hi:i<xs.length)(hp:0<ρ.n):
 OpX P n w0 h0 ⟨ds,.indexAddr t x y,ty,ps,af,gd⟩ e [] h (λu=>AtP ρ h u (xs.getD i d)):=by
 obtain⟨cs,J,M⟩:=zNI r;have H:xs[i]?=some (xs.getD i d):=by rw[zoa,zoc hi];rfl
 have U:=M.get H;have C:=M.len;have hm:i*ρ.n+ρ.n<=cs.length:=by rw[C,<-yfe];exact zfu _ hi
 refine⟨zM ρ.n v i,λL' h' hh _=>eE i ht T.sz hx hy (J.mono hh) hq hi hp,?_⟩;have h0:(cs[i*ρ.n+0]?)=some (cs[i*ρ.n]'zos):=by rw[zmi,zoc]
 obtain⟨b,o,O,_⟩:=J.cell h0;refine⟨b,o,_,O,U,λj u D=>?_⟩;rw[zmu] at D
 split at D
 · rw[zwi] at D
   obtain⟨b',o',G,Z⟩:=J.cell D;rw[O] at G;simp only[Value.pointer.injEq,Option.some.injEq,Addr.mk.injEq] at G;rw[G.1,G.2.1];exact Z
 · cases D
theorem zM7{t:TypeId}{x:Operand}{p:Value}{ρ:Rp α}{X:α}(T:TyOk P t ρ.n ρ.agg)(hx:zJ e x=some p)(r:AtP ρ h p X):OpX P n w0 h0 ⟨ds,.load t x,ty,ps,af,gd⟩ e [] h (λu=>ρ.Is h u X):=by
 obtain⟨b,o,cs,rfl,r,G⟩:=r;refine⟨_,λL' h' hh _ a w H S=>?_,_,r,I⟩;have C:=zAN (P:=P) (w:=w) T r (λj u D=>aH (hh.trans S.sub) (G j u D));simp[execOp,H.eval hx,C]
theorem zRJ{t:TypeId}{x:Operand}{f off m:Nat}{fs:Array Field}{fl:Field}{p:Value}{ρ:Rp α}{σ:Rp β}{g:α->β}{s:α->β->α}{X:α}{Z:β}(ht:P.underlying t=some (.struct fs))(hf:fs[f]?=some fl)(hsz:∀w,(Go.sizeOf fl.type).run P w=.ok (m+1) w)(pc:Pc ρ off σ g s)(ho:fl.offset=off)(hx:zJ e x=some p)(r:AtP ρ h p X)(hZ:g X=Z):
 OpX P n w0 h0 ⟨ds,.fieldAddr t x f,ty,ps,af,gd⟩ e [] h (λu=>AtP σ h u Z):=by
 subst hZ;obtain⟨b,o,cs,rfl,r,D⟩:=r;subst ho;refine⟨_,λL' h' hh _=>wD ht hf hsz hx,b,_,_,I,pc.get r,λj u C=>?_⟩;rw[zmu] at C
 split at C
 · rw[zwi] at C
   have:=D _ _ C
   rwa [<-z3i] at this
 · cases C
theorem zGR{t E:TypeId}{x y:Operand}{m off:Nat}{q:Int}{p:Value}{ρ:Rp α}{σ:Rp β}{g:α->β}{s:α->β->α}{X:α}{Z:β}(i:Nat)(ht:P.underlying t=some (.array m E))(hsz:∀w,(Go.sizeOf E).run P w=.ok σ.n w)(pc:Pc ρ off σ g s)(ho:i*σ.n=off)(hx:zJ e x=some p)(hy:zJ e y=some (vI q))(r:AtP ρ h p X)(hq:q=(i:Int))(hi:i<m)(hZ:g X=Z):
 OpX P n w0 h0 ⟨ds,.indexAddr t x y,ty,ps,af,gd⟩ e [] h (λu=>AtP σ h u Z):=by
 subst hZ;obtain⟨b,o,cs,rfl,r,D⟩:=r;subst ho;refine⟨_,λL' h' hh _=>wE i ht hsz hx hy hq hi,b,_,_,I,pc.get r,λj u C=>?_⟩;rw[zmu] at C
 split at C
 · rw[zwi] at C
   have:=D _ _ C
   rwa [<-z3i] at this
 · cases C
theorem uX{v:Value}{ρ:Rp α}{xs:List α}{t E:TypeId}{x:Operand}(ht:P.underlying t=some (.slice E))(hx:zJ e x=some v)(r:(rpS ρ).Is h v xs):
 OpV P n w0 h0 ⟨ds,.call {callee:=.builtin .len,args:=#[x],argTypes:=#[t]},ty,ps,af,gd⟩ e L h (vI (xs.length:Int)):=nD ht hx (yAH r)
theorem zXP{E t:TypeId}{b k off:Nat}{cs:List Value}{v:Value}{x y:Operand}{ρ:Rp α}{σ:Rp β}{g:α->β}{s:α->β->α}{X Z:α}{Y:β}(hsz:∀w,(Go.sizeOf t).run P w=.ok σ.n w)(pc:Pc ρ off σ g s)(ho:k=off)(hx:zJ e x=some (vP b k))(hy:zJ e y=some v)(r:ρ.R h cs X)(ry:σ.Is h v Y)(hZ:s X Y=Z):
 ∃cs',ρ.R h cs' Z/\∀A B,Upd P n w0 h0 ⟨ds,.store t x y,ty,ps,af,gd⟩ e A (.var b E cs) B h (.var b E cs'):=by
 subst hZ;subst ho;obtain⟨G,J,hv⟩:=ry.cells;have O:=σ.len J;have aa:=ρ.len r;have hf:=pc.fits;refine⟨dD cs k G,?_,?_⟩
 · rw[zD5 _ _ _ zos,O]
   exact pc.set r J
 · intro A B a w U S
   have M:w.heap[b]?=some (.cells cs.toArray E):=S.ok (.var b E cs) zo1;obtain⟨h2,h3⟩:=mB G k cs w M;refine⟨w.setCells b k G,?_,h3,h2⟩;have C:w.there b k G.length:=by
    intro j H;have:k+j<cs.length:=by omega
    refine⟨?_,?_⟩
    · unfold World.cell?
      simp[M,this]
    · simp[World.frozen?,M]
   have D:=run_storeCells_cells (P:=P) b k G 0 w (λj H=>by simpa using(C j H).1) (λj H=>by simpa using(C j H).2) (λu hu=>zob.1 (σ.one J) u hu);simp only[zmi] at D;simp[execOp,U.eval hx,U.eval hy,Instr.storeAt,Instr.sureAddr,storeVar,hsz,hv,O,D]
theorem zV{ops:Array Oper}{rest:List Oper}{A B:List Res}{op:Op}{b:Nat}{E:TypeId}{cs:List Value}{F:List Value->Prop}(hv:∃cs',F cs'/\∀A B,Upd P n w0 h0 ⟨none,op,ty,ps,af,none⟩ e A (.var b E cs) B h (.var b E cs'))
    (k:∀cs',F cs'->GL P n w0 h0 ops Q rest e (A++.var b E cs'::B) h):GL P n w0 h0 ops Q (⟨none,op,ty,ps,af,none⟩::rest) e (A++.var b E cs::B) h:=by
 obtain⟨cs',D,C⟩:=hv;exact xY (C A B) I I I (k cs' D)
theorem yJ{ops:Array Oper}{RR:List Res}{al:Als}{i:Nat}{r:List (Nat×Kd)}{A B:List Res}{op:Op}{b:Nat}{E:TypeId}{cs:List Value}{F:List Value->Prop}(ho:ops.getD i default=⟨none,op,ty,ps,af,none⟩)(hv:∃cs',F cs'/\∀A B,Upd P n w0 h0 ⟨none,op,ty,ps,af,none⟩ e A (.var b E cs) B h (.var b E cs'))
    (k:∀cs',F cs'->W P n w0 h0 ops Q RR al r e (A++.var b E cs'::B) h):W P n w0 h0 ops Q RR al ((i,.t)::r) e (A++.var b E cs::B) h:=by
 obtain⟨cs',D,C⟩:=hv;exact gL ho (C A B) I (k cs' D)
theorem rR{ops:Array Oper}{R:List Res}{W':List (Nat×Value)->List Res->Mem->Prop}{A B:List Res}{op:Op}{b:Nat}{E:TypeId}{cs:List Value}{F:List Value->Prop}(hv:∃cs',F cs'/\∀A B,Upd P n w0 h0 ⟨none,op,ty,ps,af,none⟩ e A (.var b E cs) B h (.var b E cs'))
    (hR:∀r∈R,∀q',r∈A++.var b E cs::B->r∈A++q'::B)(k:∀cs',F cs'->W' e (A++.var b E cs'::B) h):jF P n w0 h0 ops R ⟨none,op,ty,ps,af,none⟩ e (A++.var b E cs::B) h W':=by
 obtain⟨cs',O,J⟩:=hv;intro X a w U S;have H:St w0 h0 (A++.var b E cs::(B++X)) h w:=by simpa using S
 unfold qC;rw[zau (wn I)];obtain⟨Z,C,G,D⟩:=J A (B++X) a w U H;rw[C];refine⟨λd' M=>(by cases M),A++.var b E cs'::B,h,MLe.refl h,λhh r C=>hR r C _ (hh r C),?_,k cs' O⟩;have:=H.grown G D λb hb=>.inl hb
 simpa using this
theorem zU5{E:TypeId}{x:Operand}{v:Value}{ρ:Rp α}{X:α}(hx:zJ e x=some v)(r:ρ.Is h v X):
 aZ P n w0 h0 ⟨ds,.box E x,ty,ps,af,gd⟩ e L h (λu q=>∃b cs,u=vP b 0/\q=.var b E cs/\ρ.R h cs X):=by
 obtain⟨cs,G,H⟩:=r.cells;intro a w U S;obtain⟨D,C,q,h1,h2,h3,O,b,M,J⟩:=xM (n:=n) (ds:=ds) (ty:=ty) (ps:=ps) (af:=af) (gd:=gd) (L:=L) (E:=E) hx H a w U S;exact⟨D,C,q,h1,h2,h3,O,b,cs,M,J,G⟩
theorem zN0{E:TypeId}{i:TypeInfo}{z:Value}{cs:List Value}{ρ:Rp α}{X:α}(hi:P.info? E=some i)(hz:i.zero=some z)(hc:z.cells=cs.toArray)(r:ρ.R h cs X):
 aZ P n w0 h0 ⟨ds,.alloc E,ty,ps,af,gd⟩ e L h (λu q=>∃b cs,u=vP b 0/\q=.var b E cs/\ρ.R h cs X):=by
 intro a w M S;obtain⟨D,C,q,h1,h2,h3,J,b,H,G⟩:=wG (n:=n) (ds:=ds) (ty:=ty) (ps:=ps) (af:=af) (gd:=gd) (e:=e) (L:=L) (h:=h) hi hz hc a w M S;exact⟨D,C,q,h1,h2,h3,J,b,cs,H,G,r⟩
def zHQ(ρ:Rp α)(h:Mem)(place:Nat->Option (Nat×Nat))(X:α)(parts:List (Nat×Value))(X':α):Prop:=
 ∀cs,ρ.R h cs X->∃cs',ρ.R h cs' X'/\Instr.fill place cs.toArray parts=some cs'.toArray
theorem zN{ρ:Rp α}{place:Nat->Option (Nat×Nat)}{X:α}:zHQ ρ h place X [] X:=λcs r=>⟨cs,r,rfl⟩
theorem zC{ρ:Rp α}{σ:Rp β}{place:Nat->Option (Nat×Nat)}{X X':α}{Y:β}{i off:Nat}{v:Value}{rest:List (Nat×Value)}{g:α->β}{s:α->β->α}(hp:place i=some (off,σ.n))(pc:Pc ρ off σ g s)(ry:σ.Is h v Y)(k:zHQ ρ h place (s X Y) rest X'):zHQ ρ h place X ((i,v)::rest) X':=by
 intro cs r;obtain⟨Z,D,H⟩:=ry.cells;have M:=σ.len D;have J:=ρ.len r;have hf:=pc.fits;obtain⟨C,G,U⟩:=k _ (pc.set r D);refine⟨C,G,?_⟩;have O:cs=cs.take off++(cs.drop off).take σ.n++cs.drop (off+σ.n):=by
  rw[zii,<-z9i,ydu,ydu]
 rw[O];exact xD hp (by rw[zei];omega) (by rw[zei,zhe];omega) M H U
theorem xK{t:TypeId}{i:TypeInfo}{z:Value}{zs:List Value}{fs:Array Field}{places:Array (Nat×Nat)}{parts:List (Nat×Operand)}{ps':List (Nat×Value)}{ρ:Rp α}{X X':α}(ht:P.underlying t=some (.struct fs))(hi:P.info? t=some i)(hz:i.zero=some z)(hzc:z.cells=zs.toArray)
    (hpl:∀w,(fs.mapM λ(f:Field)=>do pure (f.offset,<-Go.sizeOf f.type)).run P w=.ok places w)(hp:oC e parts ps')(ha:ρ.agg=true)(rz:ρ.R h zs X)(hf:zHQ ρ h (places[·]?) X ps' X'):
    OpX P n w0 h0 ⟨ds,.build t parts.toArray,ty,ps,af,gd⟩ e [] h (λu=>ρ.Is h u X'):=by
 obtain⟨C,D,G⟩:=hf zs rz;refine⟨.agg C.toArray,λL' h' _ _=>yO ht hi hz hpl hp (by rw[hzc];exact G),C,D,?_⟩;unfold Rp.val;rw[ha];rfl
theorem wL{t E:TypeId}{m sz:Nat}{i:TypeInfo}{z:Value}{zs:List Value}{parts:List (Nat×Operand)}{ps':List (Nat×Value)}{ρ:Rp α}{X X':α}(ht:P.underlying t=some (.array m E))(hi:P.info? t=some i)(hz:i.zero=some z)(hzc:z.cells=zs.toArray)
    (hsz:∀w,(Go.sizeOf E).run P w=.ok sz w)(hp:oC e parts ps')(ha:ρ.agg=true)(rz:ρ.R h zs X)(hf:zHQ ρ h (λi=>some (i*sz,sz)) X ps' X'):
    OpX P n w0 h0 ⟨ds,.build t parts.toArray,ty,ps,af,gd⟩ e [] h (λu=>ρ.Is h u X'):=by
 obtain⟨C,D,G⟩:=hf zs rz;refine⟨.agg C.toArray,λL' h' _ _=>zIE ht hi hz hsz hp (by rw[hzc];exact G),C,D,?_⟩;unfold Rp.val;rw[ha];rfl
theorem jR{R R':Mem->Value->Prop}(k:∀h r,R h r->R' h r)(x:Ending)(w:World)(s:Ret w0 h0 R x w):Ret w0 h0 R' x w:=by
 obtain⟨v,h,e,r,S⟩:=s;exact⟨v,h,e,k h v r,S⟩
theorem yGJ{h:Mem}:rpB.Is h (.bool true) True:=(xR trivial)▸is_b True
theorem Rp.castR{ρ:Rp α}{cs:List Value}{x y:α}(r:ρ.R h cs x)(e:x=y):ρ.R h cs y:=e▸r
theorem Rp.R.mono{ρ:Rp α}{h':Mem}{cs:List Value}{x:α}(r:ρ.R h cs x)(hh:MLe h h'):ρ.R h' cs x:=Rp.mono ρ hh r
theorem jA{t:Nat}{T E:TypeId}{b:Nat}{cs:List Value}{ρ:Rp α}{X:α}(tok:TyOk P T ρ.n ρ.agg)(hm:.var b E cs∈L)(hx:zJ e (.tmp t)=some (vP b 0))(r:ρ.R h cs X):∃v,RV P n w0 h0 (.cell t T) e L h v/\ρ.Is h v X:=by
 refine⟨ρ.val cs,?_,cs,r,I⟩;intro a w D S;have C:w.heap[b]?=some (.cells cs.toArray E):=S.ok _ hm;have:=D.eval hx;simp only[Act.eval] at this;have h2:=zAN (P:=P) tok r (iC C 0 cs zo1);simp only[Instr.loadAt,Instr.sureAddr,Sem.run_bind,Sem.run_pure,Result.andThen_ok] at h2;simp[zD0,this,asAddr,h2]
theorem xW{r:ResultVar}{F:Value->Prop}{x:Exit}(s:∃v,RV P n w0 h0 r e L h v/\F v)(k:∀v,RV P n w0 h0 r e L h v->F v->GQ n w0 h0 Q x e L h):GQ n w0 h0 Q x e L h:=by
 obtain⟨v,a,b⟩:=s;exact k v a b
theorem zUK{o:Oper}{v:Value}{F:Value->Prop}(hv:∀L' h',OpV P n w0 h0 o e L' h' v)(hF:F v):OpX P n w0 h0 o e [] h F:=⟨v,λL' h' _ _=>hv L' h',hF⟩
end
section
variable {P:Program}{n:Nat}{w0:World}{h0:Mem}{e:List (Nat×Value)}{L:List Res}{h:Mem}{Q:Exit->Act->World->Prop}
variable {ds:Option Tmp}{ty:TypeId}{ps:String}{af:Array Edge}{gd:Option (Nat×Bool)}
theorem fL{G:Prop}(p:Prop)(kt:p->G)(kf:¬p->G):G:=Classical.byCases kt kf
abbrev vF(f:Nat)(cap:List Value):Value:=.func (.func f) #[] cap.toArray
def zO2(P:Program)(n:Nat)(o:Oper)(e:List (Nat×Value))(f:Nat)(args:Array Value):Prop:=∀a w,Env n e a->(execOp a.eval o).run P w=.ok (.enter f args) w
theorem tR{x:Operand}{f:Nat}{cap:List Value}{xs:List Operand}{ts:Array TypeId}{vs:List Value}(hcall:∀args w,(callFunc f args).run P w=.ok (.enter f args) w)(hx:zJ e x=some (vF f cap))(hvs:bC e xs vs):
 zO2 P n ⟨ds,.call {callee:=.value x,args:=xs.toArray,argTypes:=ts},ty,ps,af,gd⟩ e f (vs++cap).toArray:=by
 intro a w D;have C:xs.toArray.map a.eval=vs.toArray:=by rw[zzi,D.evals hvs]
 simp only[execOp,resolve,D.eval hx];simp[Deferred.ofValue,invoke,hcall,C]
theorem zLM{ops:Array Oper}{rest:List Oper}{o:Oper}{d f:Nat}{args:Array Value}{R:Mem->Value->Prop}(he:zO2 P n o e f args)(hg:o.guard=none)(hd:o.dst=some d)(hn:Nat.ble (d+1) n=true)
    (hc:∀w,MLe h (mem w)->Calls P f args w (Ret w h R))(k:∀v h',MLe h h'->R h' v->GL P n w0 h0 ops Q rest ((d,v)::e) L h'):GL P n w0 h0 ops Q (o::rest) e L h:=by
 intro a w E S;refine wpList_plain hg λK D=>?_;unfold Oper.wp;rw[he a w E,Oper.upon_enter];refine(hc w S.sub).mono ?_
 rintro J H ⟨v,h',rfl,hR,C⟩
 have G:=S.call C;rw[hd];exact D _ _ (k v h' C.le hR _ _ (E.put (zce hn)) G)
theorem yCZ{W':List (Nat×Value)->List Res->Mem->Prop}{ops:Array Oper}{R:List Res}{op:Op}{g t d:Nat}{b:Bool}(ht:(ops[g]?).bind (·.dst)=some t)(he:e.lookup t=some undef)(hn:Nat.ble (d+1) n=true)(k:W' ((d,undef)::e) L h):
 jF P n w0 h0 ops R ⟨some d,op,ty,ps,af,some (g,b)⟩ e L h W':=by
 intro X a w E S;have C:Region.wanted ⟨some d,op,ty,ps,af,some (g,b)⟩ (yielded ops a.tmps)=false:=by
  have:=E.get t _ he;simp[Region.wanted,yielded,ht,this,undef]
 unfold qC;rw[zae (by simp[C])];exact⟨λG D=>(by cases D;exact zce hn),L,h,MLe.refl h,λhh=>hh,S,k⟩
theorem zSF{R A B:List Res}{q:Res}(hR:∀r∈R,r∈A++B):∀r∈R,r∈A++q::B->r∈A++B:=λr hr _=>hR r hr
section
variable {ops:Array Oper}{R:List Res}{d:Nat}{op:Op}
theorem bJ{W':List (Nat×Value)->List Res->Mem->Prop}{f:Nat}{args:Array Value}{R':Mem->Value->Prop}(he:zO2 P n ⟨some d,op,ty,ps,af,none⟩ e f args)(hn:Nat.ble (d+1) n=true)
    (hc:∀w,MLe h (mem w)->Calls P f args w (Ret w h R'))(k:∀v h',MLe h h'->R' h' v->W' ((d,v)::e) L h'):jF P n w0 h0 ops R ⟨some d,op,ty,ps,af,none⟩ e L h W':=by
 intro X a w E S;unfold qC;rw[zau (wn I),he a w E];refine(hc w S.sub).mono ?_
 rintro J D ⟨v,h',rfl,hR,C⟩
 have H:St w0 h0 (L++X) h' D:=S.call C;exact⟨v,I,λM G=>(by cases G;exact zce hn),L,h',C.le,λhh=>hh,H,k v h' C.le hR⟩
end
end
section
variable {α β γ:Type}
variable {P:Program}{n:Nat}{w0:World}{h0:Mem}{e:List (Nat×Value)}{L:List Res}{h:Mem}{Q:Exit->Act->World->Prop}
variable {ds:Option Tmp}{ty:TypeId}{ps:String}{af:Array Edge}{gd:Option (Nat×Bool)}
theorem St.nilown{w:World}(s:St w0 h0 L h w)(E k:Nat):St w0 h0 (.gs E k (.slice none 0 0) 0 []::L) h w:=by
 refine⟨s.below,s.le,s.sub,s.fresh,?_,?_,?_⟩
 · intro r C
   rcases zfi.1 C with rfl|C
   · exact World.ownsRow_nil w _ E k
   · exact s.ok r C
 · intro r C b hb
   rcases zfi.1 C with rfl|C
   · simp[Res.fp,Value.ownBlock] at hb
   · exact s.own r C b hb
 · refine z8i.2 ⟨λr C b hb=>?_,s.apart⟩
   simp[Res.fp,Value.ownBlock] at hb
theorem xC{c:Code}(E k:Nat)(g:GC P n w0 h0 c Q e (.gs E k (.slice none 0 0) 0 []::L) h):GC P n w0 h0 c Q e L h:=λa w Ev S=>g a w Ev (S.nilown E k)
theorem zHD{ops:Array Oper}{l:List Oper}(E k:Nat)(g:GL P n w0 h0 ops Q l e (.gs E k (.slice none 0 0) 0 []::L) h):GL P n w0 h0 ops Q l e L h:=λa w Ev S=>g a w Ev (S.nilown E k)
theorem bV{x:Exit}(E k:Nat)(g:GQ n w0 h0 Q x e (.gs E k (.slice none 0 0) 0 []::L) h):GQ n w0 h0 Q x e L h:=λa w Ev S=>g a w Ev (S.nilown E k)
theorem zDW{ops:Array Oper}{R:List Res}{o:Oper}{W':List (Nat×Value)->List Res->Mem->Prop}(E k:Nat)(g:jF P n w0 h0 ops R o e (.gs E k (.slice none 0 0) 0 []::L) h W'):jF P n w0 h0 ops R o e L h W':=by
 intro X a w O S;refine(g X a w O (S.nilown E k)).mono ?_
 rintro Z U ⟨H,L',g,G,D,M,J⟩
 exact⟨H,L',g,G,λhh q C=>D (λy hy=>z5u _ (hh y hy)) q C,M,J⟩
theorem zR2(a:List Value)(m:Nat):(madeCells a.toArray (m*a.length)).toList=(List.replicate m a).flatten:=by
 unfold madeCells;rw[Array.toList_map,Array.toList_range]
 induction m with
 |zero=>simp
 |succ m ih=>
  rw[yfe,Nat.add_comm,List.range_add,z1u,y0i,ygi,List.flatten_cons,<-ih]
  congr 1
  · apply List.ext_getElem?
    intro j
    by_cases hj:j<a.length
    · simp[hj,zoh hj]
    · simp[hj]
  · apply ywi
    intro j _;simp
theorem zPB{ρ:Rp α}{a:List Value}{x:α}(m:Nat)(r:ρ.R h a x):RL ρ h (madeCells a.toArray (m*ρ.n)).toList (List.replicate m x):=by
 rw[<-ρ.len r,zR2];exact(yBB (h:=h) m r).2
theorem iM{t E:TypeId}{i:TypeInfo}{z:Value}{zs:List Value}{x y:Operand}{q q':Int}{by':Nat}{ρ:Rp α}{X:α}(m:Nat)(ht:P.underlying t=some (.slice E))(hi:P.info? E=some i)(hz:i.zero=some z)(hzc:z.cells=zs.toArray)(hsize:i.size=ρ.n)(hby:i.bytes=by')(rz:ρ.R h zs X)
    (hx:zJ e x=some (vI q))(hy:zJ e y=some (vI q'))(hq:q=(m:Int))(hq':q'=(m:Int))(hb:by'*m<=281474976710656)(hm:m<9223372036854775808):
    aZ P n w0 h0 ⟨ds,.makeSlice t x y,ty,ps,af,gd⟩ e L h (λv r=>∃cs,r=.gs E ρ.n v (List.replicate m X).length cs/\RL ρ h cs (List.replicate m X)):=by
 subst hq;subst hq';subst hby;intro a w G S;obtain⟨H,J,C,D⟩:=run_make_full (P:=P) w w0.heap.size t E i z ρ.n ht hi hz hsize .i64 .i64 m hb (by unfold maxLen;omega) S.below.size;rw[hzc] at C;refine⟨_,H,.gs E ρ.n (.slice (some ⟨w.heap.size,0,none⟩) m m) m (madeCells zs.toArray (m*ρ.n)).toList,?_,D,C,λb hb=>?_,_,by rw[lR],zPB m rz⟩
 · simp only[execOp,G.eval hx,G.eval hy,vI]
   simp[J]
 · simp only[Res.fp,Value.ownBlock,Option.some.injEq] at hb
   omega
theorem zL{t E:TypeId}{i:TypeInfo}{z:Value}{zs:List Value}{parts:List (Nat×Operand)}{ps':List (Nat×Value)}{m:Nat}{ρ:Rp α}{X:α}{xs:List α}(ht:P.underlying t=some (.slice E))(hi:P.info? E=some i)(hz:i.zero=some z)(hzc:z.cells=zs.toArray)(hsize:i.size=ρ.n)(rz:ρ.R h zs X)
    (hp:oC e parts ps')(hf:zHQ (rpA m ρ) h (λi=>some (i*ρ.n,ρ.n)) (List.replicate m X) ps' xs)(hm:m*ρ.n<=16777216)(hn:0<ρ.n):
    aZ P n w0 h0 ⟨ds,.buildSlice t m parts.toArray,ty,ps,af,gd⟩ e L h (λv r=>∃cs,r=.gs E ρ.n v xs.length cs/\RL ρ h cs xs):=by
 obtain⟨cs,⟨G,J⟩,H⟩:=hf (madeCells zs.toArray (m*ρ.n)).toList ⟨z4i,zPB m rz⟩;have M:=J.len;rw[G] at M;intro a w Ev S;have U:(parts.toArray.map λ(p:Nat×Operand)=>(p.1,a.eval p.2)).toList=ps':=by
  rw[zzi];exact hp.eval Ev
 refine⟨.slice (some ⟨w.heap.size,0,none⟩) m m,w.alloc (.cells cs.toArray E),.gs E ρ.n (.slice (some ⟨w.heap.size,0,none⟩) m m) m cs,?_,World.grownBy_alloc w _ none,?_,λb hb=>?_,cs,by rw[G],J⟩
 · have Z:¬(m*ρ.n>16777216):=by omega
   simp only[execOp,Instr.buildSlice];rw[show(parts.toArray.map λ(i,x)=>(i,a.eval x)).toList=ps' from U];have O:(zeroValue E).run P w=.ok z w:=by simp[zeroValue,typeInfo,hi,hz]
   have C:Instr.fill (λi=>some (i*ρ.n,ρ.n)) (madeCells zs.toArray (m*ρ.n)) ps'=some cs.toArray:=by
    simpa using H
   have D:∀w,(Go.sizeOf E).run P w=.ok ρ.n w:=λw=>by simp[Go.sizeOf,typeInfo,hi,hsize]
   by_cases h0:m*ρ.n=0
   · rw[h0] at C
     simp only[madeCells,Array.range_zero',Array.map_empty] at C;simp[run_underlying ht,D,newRow,newObj,Sem.run,h0,Array.range_zero',C]
   · unfold madeCells at C
     simp only[yzi,List.getElem!_toArray,List.getElem!_eq_getElem?_getD] at C;simp[run_underlying ht,D,h0,Z,O,hzc,C,newRow,newObj,Sem.run]
 · have:=World.ownsRow_lit (w:=w) (base:=w0.heap.size) (e:=E) (size:=ρ.n) cs.toArray m S.below.size (by unfold maxLen;have:=Nat.le_mul_of_pos_right m hn;omega) (by simpa using M)
   exact this
 · simp only[Res.fp,Value.ownBlock,Option.some.injEq] at hb
   omega
theorem yA{A B:List Res}{t E:TypeId}{i:TypeInfo}{z:Value}{bytes:Nat}{v v':Value}{cs:List Value}{x y:Operand}{ρ:Rp α}{xs ys:List α}(ht:P.underlying t=some (.slice E))(hi:P.info? E=some i)(hz:i.zero=some z)(hsize:i.size=ρ.n)(hby:i.bytes=bytes)
    (hzs:z.cells.size=ρ.n)(hk:0<ρ.n)(hx:zJ e x=some v)(hy:zJ e y=some v')(r:RL ρ h cs xs)(hv':(rpS ρ).Is h v' ys)(hlen:xs.length+ys.length<9223372036854775808)(hb':(xs.length+ys.length)*bytes<=140737488355328):
    zCP P n w0 h0 ⟨ds,.call {callee:=.builtin .append,args:=#[x,y],argTypes:=#[t,t]},ty,ps,af,gd⟩ e A (.gs E ρ.n v xs.length cs) B h (λu r'=>∃cs',r'=.gs E ρ.n u (xs++ys).length cs'/\RL ρ h cs' (xs++ys)):=by
 obtain⟨C,H,r2⟩:=zNI hv';intro a w O S;obtain⟨u,D,r',h1,h2,h3,M,J⟩:=zD1 (A:=A) (B:=B) (v:=v) (cs:=cs) (m:=xs.length) (ds:=ds) (ty:=ty) (ps:=ps) (af:=af) (gd:=gd) ht hi hz hsize hby hzs hk hx hy H (λu G=>zob.1 r2.one u G) hlen hb' a w O S;exact⟨u,D,r',h1,h2,h3,M,cs++C,by rw[J,lAz],r.append r2⟩
theorem zIA{E k m:Nat}{v:Value}{cs:List Value}{w:World}(hm:.gs E k v m cs∈L)(S:St w0 h0 L h w):Sl (mem w) k v m cs:=by
 obtain⟨A,B,rfl⟩:=you hm;exact s8 S
theorem yDB(k:Nat)(v:Value)(i:Nat):zM k v i=zM 1 v (i*k):=by
 unfold zM;rw[z9u]
theorem gV{E k m:Nat}{v:Value}{cs:List Value}{t E':TypeId}{x:Operand}(hm:.gs E k v m cs∈L)(ht:P.underlying t=some (.slice E'))(hx:zJ e x=some v):
 OpV P n w0 h0 ⟨ds,.call {callee:=.builtin .len,args:=#[x],argTypes:=#[t]},ty,ps,af,gd⟩ e L h (vI (m:Int)):=
 λa w Ev S=>nD (L:=L) (h:=h) ht hx (zIA hm S).one a w Ev S
theorem yZ{E m k:Nat}{cs:List Value}{v:Value}{t E':TypeId}{x y:Operand}{q:Int}(i:Nat)(hm:.gs E k v m cs∈L)(ht:P.underlying t=some (.slice E'))(hsz:∀w,(Go.sizeOf E').run P w=.ok k w)(hx:zJ e x=some v)(hy:zJ e y=some (vI q))
    (hq:q=(i:Int))(hi:i<m)(hk:0<k):OpV P n w0 h0 ⟨ds,.indexAddr t x y,ty,ps,af,gd⟩ e L h (zM 1 v (i*k)):=by
 intro a w D S;have C:St w (mem w) [] (mem w) w:=St.begin (MLe.refl _);rw[<-yDB];exact eE (n:=n) (w0:=w) (h0:=mem w) (L:=[]) (h:=mem w) i ht hsz hx hy (zIA hm S) hq hi hk a w D C
theorem zJT{k m o l:Nat}{v:Value}{cs:List Value}{w:World}(s:Sl (mem w) k v m cs)(hl:0<l)(ho:o+l<=cs.length):∃b o',zM 1 v o=vP b (o'+o)/\v=.slice (some ⟨b,o',none⟩) m (match v with| .slice _ _ c=>c|_=>0)/\w.rangeAt b (o'+o) ((cs.drop o).take l):=by
 obtain⟨a,M,rfl,h1,h2,h3,H⟩:=s;obtain⟨b,o',rfl,_⟩:=H o zos;refine⟨b,o',by simp[zM,jL],I,?_⟩;intro j u C;rw[zmu] at C
 split at C
 · rw[zwi] at C
   obtain⟨D,_⟩:=zvu.1 C;obtain⟨U,O,J,G⟩:=H _ D;simp only[Option.some.injEq,Addr.mk.injEq,and_true] at J;obtain⟨rfl,rfl⟩:=J;rw[C] at G;have:=aH (MLe.refl _) G
   rwa [<-z3i] at this
 · cases C
theorem vH{t E:TypeId}{x:Operand}{k off:Nat}{cs:List Value}{v:Value}{ρ:Rp α}{σ:Rp β}{g:List α->β}{s:List α->β->List α}{xs:List α}{Z:β}(T:TyOk P t σ.n σ.agg)(pc:Pc (rpA xs.length ρ) off σ g s)(ho:k=off)(hp:0<σ.n)(hx:zJ e x=some (zM 1 v k))(r:RL ρ h cs xs)(hZ:g xs=Z):
 OpX P n w0 h0 ⟨ds,.load t x,ty,ps,af,gd⟩ e [.gs E ρ.n v xs.length cs] h (λu=>σ.Is h u Z):=by
 subst hZ;subst ho;have h1:=pc.get (h:=h) ⟨I,r⟩;have M:k+σ.n<=xs.length*ρ.n:=pc.fits;have J:=r.len;refine⟨_,λL' h' _ D a w H S=>?_,_,h1,I⟩;obtain⟨b,o',G,_,C⟩:=zJT (zIA (D (.gs E ρ.n v xs.length cs) (.head _)) S) hp (show k+σ.n<=cs.length by omega);rw[G] at hx;have:=zAN (P:=P) (w:=w) T h1 C;simp[execOp,H.eval hx,this]
theorem lE{base E k g cap m:Nat}:∀(vs:List Value) (off:Nat) (cs:List Value) (w:World),w.ownsRow base E k (.slice (some ⟨g,0,none⟩) m cap) m cs->
 (w.setCells g off vs).ownsRow base E k (.slice (some ⟨g,0,none⟩) m cap) m (dD cs off vs)/\w.grownBy (w.setCells g off vs) (some g)
 |[],off,cs,w,hw=>⟨hw,⟨rfl,rfl,rfl,zbe _,λ_ _ _=>rfl⟩⟩
 |v::r,off,cs,w,hw=>by
  obtain⟨h1,h2⟩:=hw.stored off v;obtain⟨h3,h4⟩:=lE r (off+1) (cs.set off v) _ h1;have e1:dD cs off (v::r)=dD (cs.set off v) (off+1) r:=by
   unfold dD;rw[yfi,zxi,zmi,List.zipIdx_succ,List.foldl_map]
   congr 1
   funext c p
   rw[show off+(p.2+1)=off+1+p.2 by omega]
  refine⟨by rw[World.setCells,e1];exact h3,?_⟩;refine⟨h4.os.trans h2.os,h4.tape.trans h2.tape,h4.output.trans h2.output,zci h2.size h4.size,?_⟩;intro G D C;have J:=h2.block G D C;have H:=h4.block G (zku D h2.size) C;rw[World.setCells,H,J]
theorem sT{E t:TypeId}{k off:Nat}{cs:List Value}{u v:Value}{x y:Operand}{ρ:Rp α}{σ:Rp β}{g:List α->β}{s:List α->β->List α}{xs Z:List α}{Y:β}(hsz:∀w,(Go.sizeOf t).run P w=.ok σ.n w)(pc:Pc (rpA xs.length ρ) off σ g s)(ho:k=off)(hp:0<σ.n)(hx:zJ e x=some (zM 1 v k))(hy:zJ e y=some u)(r:RL ρ h cs xs)(ry:σ.Is h u Y)(hZ:s xs Y=Z):
 ∃cs',RL ρ h cs' Z/\∀A B,Upd P n w0 h0 ⟨ds,.store t x y,ty,ps,af,gd⟩ e A (.gs E ρ.n v xs.length cs) B h (.gs E ρ.n v Z.length cs'):=by
 subst hZ;subst ho;obtain⟨H,J,hv⟩:=ry.cells;have hl:=σ.len J;have aa:=r.len;have hf:k+σ.n<=xs.length*ρ.n:=pc.fits;obtain⟨U,O⟩:=pc.set (h:=h) ⟨I,r⟩ J;refine⟨dD cs k H,?_,?_⟩
 · rw[zD5 _ _ _ zos,hl]
   exact O
 · intro A B a w Ev S
   rw[U];have G:w.ownsRow w0.heap.size E ρ.n v xs.length cs:=S.ok (.gs E ρ.n v xs.length cs) zo1;have C:=G;obtain⟨_,hr⟩:=G
   rcases hr with⟨rfl,hm0⟩|⟨b,cap,cur,rfl,hbg,hg,hnc,hcm,hcs,htake⟩
   · rw[hm0] at hf;omega
   · have M:zM 1 (.slice (some ⟨b,0,none⟩) xs.length cap) k=vP b k:=by simp[zM,jL]
     rw[M] at hx;obtain⟨h1,h2⟩:=lE H k cs w C;refine⟨w.setCells b k H,?_,h2,h1⟩;have D:=run_storeCells_cells (P:=P) b k H 0 w (λj hj=>by
      have h4:=C.cellAt (k+j) zos;rw[zoc zos] at h4;simp[h4]) (λj hj=>by simpa using C.frozenAt (k+j)) (λu hu=>zob.1 (σ.one J) u hu)
     simp only[zmi] at D;simp[execOp,Ev.eval hx,Ev.eval hy,Instr.storeAt,Instr.sureAddr,storeVar,hsz,hv,hl,D]
section
variable {A B:List Res}{op:Op}{E k m:Nat}{v:Value}{cs:List Value}{F:Nat->List Value->Prop}
theorem kM{ops:Array Oper}{rest:List Oper}{m':Nat}{F:List Value->Prop}(hv:∃cs',F cs'/\∀A B,Upd P n w0 h0 ⟨none,op,ty,ps,af,none⟩ e A (.gs E k v m cs) B h (.gs E k v m' cs'))
    (kk:∀cs',F cs'->GL P n w0 h0 ops Q rest e (A++.gs E k v m' cs'::B) h):GL P n w0 h0 ops Q (⟨none,op,ty,ps,af,none⟩::rest) e (A++.gs E k v m cs::B) h:=by
 obtain⟨cs',D,C⟩:=hv;exact xY (C A B) I I I (kk cs' D)
end
theorem St.freezex{A B:List Res}{E:Nat}{v:Value}{cs:List Value}{ρ:Rp α}{xs:List α}{w:World}(r:RL ρ h cs xs)(S:St w0 h0 (A++.gs E ρ.n v xs.length cs::B) h w):∃h',MLe h h'/\(rpS ρ).Is h' v xs/\St w0 h0 (A++B) h' w:=by
 have C:=S.ok (.gs E ρ.n v xs.length cs) zo1;have H:=C;obtain⟨M,J⟩:=C
 rcases J with⟨rfl,hm0⟩|⟨g,cap,cur,rfl,hb,hg,hn,hm,hcs,ht⟩
 · have G:xs=[]:=zof hm0
   subst G;exact⟨h,MLe.refl h,aC h,S.drop⟩
 · obtain⟨O,D⟩:=S.freeze (b:=g) (o:=.cells cur E (0,0)) I hg
   refine⟨_,D,zZK ⟨_,cap,I,hn,hm,M,λi hi=>⟨g,0,I,?_⟩⟩ (r.mono D),O⟩;unfold cell;simp only[if_true,zue];rw[<-ht,zmu,zau zos];simp
section
variable {A B:List Res}{E:Nat}{v:Value}{cs:List Value}{ρ:Rp α}{xs:List α}
theorem zW{ops:Array Oper}{l:List Oper}(r:RL ρ h cs xs)(k:∀h',MLe h h'->(rpS ρ).Is h' v xs->GL P n w0 h0 ops Q l e (A++B) h'):GL P n w0 h0 ops Q l e (A++.gs E ρ.n v xs.length cs::B) h:=by
 intro a w H S;obtain⟨h',C,D,G⟩:=S.freezex r;exact k h' C D a w H G
theorem zE8{c:Code}(r:RL ρ h cs xs)(k:∀h',MLe h h'->(rpS ρ).Is h' v xs->GC P n w0 h0 c Q e (A++B) h'):GC P n w0 h0 c Q e (A++.gs E ρ.n v xs.length cs::B) h:=by
 intro a w H S;obtain⟨h',C,D,G⟩:=S.freezex r;exact k h' C D a w H G
theorem xP{x:Exit}(r:RL ρ h cs xs)(k:∀h',MLe h h'->(rpS ρ).Is h' v xs->GQ n w0 h0 Q x e (A++B) h'):GQ n w0 h0 Q x e (A++.gs E ρ.n v xs.length cs::B) h:=by
 intro a w H S;obtain⟨h',C,D,G⟩:=S.freezex r;exact k h' C D a w H G
theorem xJ{o:Oper}{ops:Array Oper}{R:List Res}{W':List (Nat×Value)->List Res->Mem->Prop}(r:RL ρ h cs xs)(hR:∀q∈R,q∈A++.gs E ρ.n v xs.length cs::B->q∈A++B)
    (k:∀h',MLe h h'->(rpS ρ).Is h' v xs->jF P n w0 h0 ops R o e (A++B) h' W'):jF P n w0 h0 ops R o e (A++.gs E ρ.n v xs.length cs::B) h W':=by
 intro X a w Ev S;have S1:St w0 h0 (A++.gs E ρ.n v xs.length cs::(B++X)) h w:=by simpa using S
 obtain⟨h',C,D,S'⟩:=S1.freezex r;have Z:St w0 h0 ((A++B)++X) h' w:=by simpa using S'
 refine(k h' C D X a w Ev Z).mono ?_
 rintro v' w' ⟨M,L',g,J,H,U,O⟩
 exact⟨M,L',g,C.trans J,λhh q G=>H (λy hy=>hR y hy (hh y hy)) q G,U,O⟩
end
end
end Bk
namespace Bk
open Go Go.RowKit
def zA6(o:Oper):Nat:=o.after.toList.foldl (λa e=>if Region.binds .any e then a |||(1 <<< e.on) else a) 0
theorem oT(k j:Nat):(1 <<< k).testBit j=decide (j=k):=by
 rw[Nat.one_shiftLeft,Nat.testBit_two_pow];exact yhe.2 (by simp[eq_comm])
theorem oA(o:Oper)(k:Nat):(zA6 o).testBit k=true↔∃e∈o.after,Region.binds .any e=true/\e.on=k:=by
 have key:∀(l:List Edge) (a:Nat),(l.foldl (λa e=>if Region.binds .any e then a |||(1 <<< e.on) else a) a).testBit k=true↔a.testBit k=true\/∃e∈l,Region.binds .any e=true/\e.on=k:=by
  intro l
  induction l with
  |nil=>intro a;simp
  |cons e l ih=>
   intro a;rw[zxi,ih]
   by_cases hb:Region.binds .any e=true
   · rw[zau hb,yxi,oT]
     simp only[zwe,zge,zfi,exists_eq_or_imp,hb,true_and,or_assoc];constructor
     · rintro(h|h|h)
       · exact .inl h
       · exact .inr (.inl h.symm)
       · exact .inr (.inr h)
     · rintro(h|h|h)
       · exact .inl h
       · exact .inr (.inl h.symm)
       · exact .inr (.inr h)
   · rw[zae hb]
     simp only[zfi,exists_eq_or_imp,hb,false_and,false_or];simp
 unfold zA6;rw[key];simp
def zLO(ops:Array Oper)(ams:List Nat)(i:Nat):Nat:=(List.range ops.size).foldl (λa j=>if j==i||(ams.getD j 0).testBit i||(ops.getD i default).apart ops (ops.getD j default) then a |||(1 <<< j) else a) 0
theorem zOL(ops:Array Oper)(ams:List Nat)(i k:Nat):(zLO ops ams i).testBit k=true->k<ops.size/\(k=i\/(ams.getD k 0).testBit i=true\/(ops.getD i default).apart ops (ops.getD k default)=true):=by
 have key:∀(l:List Nat) (a:Nat),(l.foldl (λa j=>if j==i||(ams.getD j 0).testBit i||(ops.getD i default).apart ops (ops.getD j default) then a |||(1 <<< j) else a) a).testBit k=true->a.testBit k=true\/(k∈l/\(k=i\/(ams.getD k 0).testBit i=true\/(ops.getD i default).apart ops (ops.getD k default)=true)):=by
  intro l
  induction l with
  |nil=>intro a h;exact .inl h
  |cons j l ih=>
   intro a h;rw[zxi] at h
   rcases ih _ h with h1|⟨h1,h2⟩
   · split at h1
     · rename_i hc
       rw[yxi,oT] at h1;simp only[zwe,zge] at h1
       rcases h1 with h1|h1
       · exact .inl h1
       · subst h1
         simp only[zwe,beq_iff_eq,or_assoc] at hc;exact .inr ⟨.head _,hc⟩
     · exact .inl h1
   · exact .inr ⟨.tail _ h1,h2⟩
 intro h
 rcases key _ _ h with h1|⟨h1,h2⟩
 · simp at h1
 · exact⟨zog.1 h1,h2⟩
def iK(ams:List Nat)(x i:Nat):Bool:=!x.testBit i&&(ams.getD i 0&&&x==ams.getD i 0)
def sV(ams:List Nat)(n x:Nat):List Nat:=(List.range n).filter (iK ams x)
def aI(x:Nat)(l:List Nat):Nat:=l.foldl (λx i=>x |||(1 <<< i)) x
def nT(ops:Array Oper)(n m:Nat)(ams frs:List Nat):List (Nat×Kd)->Nat->List Nat->Bool
  |[],x,pend=>pend.isEmpty&&(sV ams n x).isEmpty
  |(i,.q)::r,x,pend=>decide (i<m)&&decide (i<n)&&iK ams x i&&((frs.getD i 0 |||x)&&&(1 <<< n-1)==1 <<< n-1)&&!pend.contains i&&
     ((List.range n).all λk=>decide (k<m)||(ams.getD k 0).testBit i||zB9 ops k i)&&nT ops n m ams frs r (x |||(1 <<< i)) pend
  |(i,.a)::r,x,pend=>pend.contains i&&(sV ams n (aI x (pend.filter (· != i)))==[i])&&nT ops n m ams frs r (x |||(1 <<< i)) (pend.filter (· != i))
  |(i,.c)::r,x,pend=>decide (i<m)&&!pend.contains i&&(sV ams n (aI x pend)==[i])&&nT ops n m ams frs r (x |||(1 <<< i)) pend
  |(i,.b j)::r,x,pend=>decide (i<m)&&decide (j<m)&&!pend.contains i&&!pend.contains j&&decide (i≠j)&&(sV ams n (aI x pend)==[i,j])&&
     (sV ams n (aI (x |||(1 <<< i)) pend)==[j])&&(sV ams n (aI (x |||(1 <<< j)) pend)==[i])&&nT ops n m ams frs r ((x |||(1 <<< i)) |||(1 <<< j)) pend
  |(i,.t)::r,x,pend=>pend.isEmpty&&(r.all λy=>match y.2 with| .t=>true|_=>false)&&decide (m<=i)&&(sV ams n x==[i])&&nT ops n m ams frs r (x |||(1 <<< i)) []
  |(i,.p)::r,x,pend=>decide (i<m)&&decide (i<n)&&iK ams x i&&((frs.getD i 0 |||x)&&&(1 <<< n-1)==1 <<< n-1)&&!pend.contains i&&nT ops n m ams frs r (x |||(1 <<< i)) pend
  |(i,.d i2 j)::r,x,pend=>(decide (i<m)&&decide (i2<m)&&decide (j<m)&&!pend.contains i&&!pend.contains i2&&!pend.contains j)&&(decide (i≠i2)&&decide (i≠j)&&decide (i2≠j))&&
     (sV ams n (aI x pend)==[i,j])&&(sV ams n (aI (x |||(1 <<< i)) pend)==[i2,j])&&(sV ams n (aI (x |||(1 <<< j)) pend)==[i])&&
     (sV ams n (aI ((x |||(1 <<< i)) |||(1 <<< i2)) pend)==[j])&&(sV ams n (aI ((x |||(1 <<< i)) |||(1 <<< j)) pend)==[i2])&&
     nT ops n m ams frs r (((x |||(1 <<< i)) |||(1 <<< i2)) |||(1 <<< j)) pend
  |(_,.m _ _)::_,_,_=>false
  |(_,.x _ _ _)::_,_,_=>false
section
variable {ops:Array Oper}{ams frs:List Nat}
def iY(ops:Array Oper)(b:Array Bool)(x:Nat):Prop:=b.size=ops.size/\∀i,i<ops.size->b[i]?=some (x.testBit i)
theorem iY.getF{b:Array Bool}{x:Nat}(h:iY ops b x){i:Nat}(hi:i<ops.size)(d:Bool):b.getD i d=x.testBit i:=by
 rw[zji,h.2 i hi];rfl
theorem iY.set{b:Array Bool}{x:Nat}(h:iY ops b x)(i:Nat):iY ops (b.setIfInBounds i true) (x |||(1 <<< i)):=by
 refine⟨by simpa using h.1,λk C=>?_⟩;rw[yxi,oT,z1i]
 by_cases e:i=k
 · subst e
   have:i<b.size:=by rw[h.1];exact C
   simp[this]
 · rw[zae e,h.2 k C]
   simp[Ne.symm e]
theorem iY.setAll{b:Array Bool}{x:Nat}(h:iY ops b x):∀(l:List Nat),iY ops (setAll b l) (aI x l):=by
 intro l
 induction l generalizing b x with
 |nil=>exact h
 |cons i l ih=>exact ih (h.set i)
theorem iY.start:iY ops (Array.replicate ops.size false) 0:=⟨by simp,λi hi=>by simp[hi]⟩
def oI(ops:Array Oper)(ams frs:List Nat):Bool:=(ops.toList.map zA6==ams)&&((List.range ops.size).map (zLO ops ams)==frs)
theorem zMH(h:oI ops ams frs=true){i:Nat}(hi:i<ops.size):ams.getD i 0=zA6 (ops.getD i default):=by
 simp only[oI,zbu,beq_iff_eq] at h;rw[<-h.1,zoa,z0u,Array.getElem?_toList,zji];simp[hi]
theorem yCA(h:oI ops ams frs=true){i:Nat}(hi:i<ops.size):frs.getD i 0=zLO ops ams i:=by
 simp only[oI,zbu,beq_iff_eq] at h;rw[<-h.2,zoa,z0u];simp[hi]
theorem yAK(hl:∀o∈ops,∀e∈o.after,e.on<ops.size){i:Nat}(hi:i<ops.size){e:Edge}(he:e∈(ops.getD i default).after):e.on<ops.size:=by
 refine hl _ ?_ e he;rw[zji,Array.getElem?_eq_getElem hi];exact Array.getElem_mem hi
theorem zMV(ht:oI ops ams frs=true)(hl:∀o∈ops,∀e∈o.after,e.on<ops.size){b:Array Bool}{x i:Nat}(hs:iY ops b x)(hi:i<ops.size):
 iK ams x i=(!b.getD i true&&((ops[i]?).map (·.after.all λe=>!Region.binds .any e||b.getD e.on false)).getD false):=by
 unfold iK;rw[hs.getF hi,zMH ht hi]
 congr 1
 have D:ops[i]?=some (ops.getD i default):=nN hi;rw[D];simp only[yme,Option.getD_some];rw[yhe,beq_iff_eq,yru];constructor
 · intro h e C
   by_cases hb:Region.binds .any e=true
   · have h1:=(oA (ops.getD i default) e.on).2 ⟨e,C,hb,I⟩
     rw[<-h,Nat.testBit_and,zbu] at h1;rw[hs.getF (yAK hl hi C),h1.2];simp
   · simp[hb]
 · intro h
   apply Nat.eq_of_testBit_eq
   intro k;rw[Nat.testBit_and]
   by_cases hk:(zA6 (ops.getD i default)).testBit k=true
   · obtain⟨e,C,hb,rfl⟩:=(oA _ _).1 hk
     have h1:=h e C;rw[hb,hs.getF (yAK hl hi C)] at h1;simp at h1;rw[hk,h1];rfl
   · have:(zA6 (ops.getD i default)).testBit k=false:=by simpa using hk
     rw[this];rfl
theorem kE(ht:oI ops ams frs=true)(hl:∀o∈ops,∀e∈o.after,e.on<ops.size){b:Array Bool}{x:Nat}(hs:iY ops b x):Region.ready .any ops b=sV ams ops.size x:=by
 unfold Region.ready sV
 apply List.filter_congr
 intro i hi;exact(zMV ht hl hs (zog.1 hi)).symm
theorem eB(ht:oI ops ams frs=true)(hl:∀o∈ops,∀e∈o.after,e.on<ops.size){b:Array Bool}{x i:Nat}(hs:iY ops b x)(hi:i<ops.size)(h:iK ams x i=true):(Region.ready .any ops b).contains i=true:=by
 rw[kE ht hl hs];unfold sV;simp[hi,h]
theorem zR0{y n k:Nat}(h:y&&&(1 <<< n-1)=1 <<< n-1)(hk:k<n):y.testBit k=true:=by
 have h1:(1 <<< n-1).testBit k=true:=by rw[Nat.one_shiftLeft,Nat.testBit_two_pow_sub_one];simpa using hk
 rw[<-h,Nat.testBit_and,zbu] at h1;exact h1.1
theorem zP8(ht:oI ops ams frs=true){b:Array Bool}{x i:Nat}(hs:iY ops b x)(hi:i<ops.size)(h:(frs.getD i 0 |||x)&&&(1 <<< ops.size-1)=1 <<< ops.size-1):Region.free .any ops b i=true:=by
 unfold Region.free;rw[nN hi];simp only[zob,zog];intro j C;have h1:=zR0 h C;rw[yxi,zwe,yCA ht hi] at h1;rw[nN C,hs.getF C];simp only[zwe,beq_iff_eq]
 rcases h1 with h1|h1
 · obtain⟨_,h2|h2|h2⟩:=zOL _ _ _ _ h1
   · exact .inl (.inl h2)
   · rw[zMH ht C] at h2
     obtain⟨e,G,hb,D⟩:=(oA _ _).1 h2;refine .inr (.inl ?_);rw[ynu];exact⟨e,G,by simp[hb,D]⟩
   · exact .inr (.inr h2)
 · exact .inl (.inr h1)
theorem zST(ht:oI ops ams frs=true){k i:Nat}(hk:k<ops.size)(h:(ams.getD k 0).testBit i=true):zB9 ops k i=true:=by
 rw[zMH ht hk] at h;obtain⟨e,D,hb,C⟩:=(oA _ _).1 h;unfold zB9;rw[ynu];refine⟨e,D,?_⟩;rw[hb,C];simp[zA9]
theorem aY(ht:oI ops ams frs=true)(hl:∀o∈ops,∀e∈o.after,e.on<ops.size){m:Nat}:∀(ord:List (Nat×Kd)) (b:Array Bool) (x:Nat) (pend:List Nat),iY ops b x->nT ops ops.size m ams frs ord x pend=true->chk ops m ord b pend=true
  |[],b,x,pend,hs,h=>by
   simp only[nT,zbu] at h;simp only[chk,zbu,kE ht hl hs];exact h
  |(i,.q)::r,b,x,pend,hs,h=>by
   simp only[nT,zbu,beq_iff_eq,zge] at h;obtain⟨⟨⟨⟨⟨⟨h1,h2⟩,h3⟩,h4⟩,h5⟩,h6⟩,h7⟩:=h;simp only[chk,zbu,zge];refine⟨⟨⟨⟨⟨h1,eB ht hl hs h2 h3⟩,zP8 ht hs h2 h4⟩,h5⟩,?_⟩,aY ht hl r _ _ _ (hs.set i) h7⟩;rw[zob] at h6 ⊢;intro k hk;have:=h6 k hk;simp only[zwe] at this ⊢
   rcases this with(h8|h8)|h8
   · exact .inl h8
   · exact .inr (zST ht (zog.1 hk) h8)
   · exact .inr h8
  |(i,.a)::r,b,x,pend,hs,h=>by
   simp only[nT,zbu] at h;obtain⟨⟨h1,h2⟩,h3⟩:=h;simp only[chk,zbu,kE ht hl (hs.setAll _)];exact⟨⟨h1,h2⟩,aY ht hl r _ _ _ (hs.set i) h3⟩
  |(i,.c)::r,b,x,pend,hs,h=>by
   simp only[nT,zbu] at h;obtain⟨⟨⟨h1,h2⟩,h3⟩,h4⟩:=h;simp only[chk,zbu,kE ht hl (hs.setAll _)];exact⟨⟨⟨h1,h2⟩,h3⟩,aY ht hl r _ _ _ (hs.set i) h4⟩
  |(i,.b j)::r,b,x,pend,hs,h=>by
   simp only[nT,zbu] at h;obtain⟨⟨⟨⟨⟨⟨⟨⟨h1,h2⟩,h3⟩,h4⟩,h5⟩,h6⟩,h7⟩,h8⟩,h9⟩:=h;simp only[chk,zbu,kE ht hl (hs.setAll _),kE ht hl ((hs.set i).setAll _),kE ht hl ((hs.set j).setAll _)];exact⟨⟨⟨⟨⟨⟨⟨⟨h1,h2⟩,h3⟩,h4⟩,h5⟩,h6⟩,h7⟩,h8⟩,aY ht hl r _ _ _ ((hs.set i).set j) h9⟩
  |(i,.t)::r,b,x,pend,hs,h=>by
   simp only[nT,zbu] at h;obtain⟨⟨⟨⟨h1,h2⟩,h3⟩,h4⟩,h5⟩:=h;simp only[chk,zbu,kE ht hl hs];exact⟨⟨⟨⟨h1,h2⟩,h3⟩,h4⟩,aY ht hl r _ _ _ (hs.set i) h5⟩
  |(i,.p)::r,b,x,pend,hs,h=>by
   simp only[nT,zbu,beq_iff_eq,zge] at h;obtain⟨⟨⟨⟨⟨h1,h2⟩,h3⟩,h4⟩,h5⟩,h7⟩:=h;simp only[chk,zbu,zge];exact⟨⟨⟨⟨h1,eB ht hl hs h2 h3⟩,zP8 ht hs h2 h4⟩,h5⟩,aY ht hl r _ _ _ (hs.set i) h7⟩
  |(i,.d i2 j)::r,b,x,pend,hs,h=>by
   simp only[nT,zbu] at h;obtain⟨⟨⟨⟨⟨⟨⟨h1,h2⟩,h3⟩,h4⟩,h5⟩,h6⟩,h7⟩,h8⟩:=h;simp only[chk,zbu,kE ht hl (hs.setAll _),kE ht hl ((hs.set i).setAll _),kE ht hl ((hs.set j).setAll _),kE ht hl (((hs.set i).set i2).setAll _),kE ht hl (((hs.set i).set j).setAll _)];exact⟨⟨⟨⟨⟨⟨⟨h1,h2⟩,h3⟩,h4⟩,h5⟩,h6⟩,h7⟩,aY ht hl r _ _ _ (((hs.set i).set i2).set j) h8⟩
  |(_,.m _ _)::_,_,_,_,_,h=>by simp[nT] at h
  |(_,.x _ _ _)::_,_,_,_,_,h=>by simp[nT] at h
def zOS(l:List Oper)(m:Nat)(ams frs:List Nat)(al:Als)(ord:List (Nat×Kd)):Bool:=
 Region.noSelect l.toArray&&pE l.toArray al&&(al.all λx=>decide (x.1<m))&&(l.all λo=>o.after.all λe=>decide (e.on<l.length))&&oI l.toArray ams frs&&nT l.toArray l.length m ams frs ord 0 (al.map (·.1))
theorem yEV{l:List Oper}{m:Nat}{al:Als}{ord:List (Nat×Kd)}(ams frs:List Nat)(h:zOS l m ams frs al ord=true):
 (Region.noSelect l.toArray&&pE l.toArray al&&(al.all λx=>decide (x.1<m))&&chk l.toArray m ord (Array.replicate l.length false) (al.map (·.1)))=true:=by
 simp only[zOS,zbu] at h;obtain⟨⟨⟨⟨⟨h1,h2⟩,h3⟩,M⟩,J⟩,H⟩:=h;simp only[zbu];refine⟨⟨⟨h1,h2⟩,h3⟩,?_⟩;have D:∀o∈l.toArray,∀e∈o.after,e.on<l.toArray.size:=by
  intro o C e G;have:=zob.1 M o (by simpa using C);have:=yru.1 this e G
  simpa using this
 exact aY J D ord _ 0 _ iY.start H
end
end Bk
namespace Go.Proofs.YtboaboflnckgoaaGreat
open Bk Go Tryz
theorem ty3:TyOk prog 3 1 false:=⟨sizeOf3,isAgg3⟩
theorem ty4:TyOk prog 4 1 false:=⟨sizeOf4,isAgg4⟩
theorem ty9:TyOk prog 9 1 false:=⟨sizeOf9,isAgg9⟩
theorem yI:TyOk prog 26 3 true:=⟨sizeOf26,isAgg26⟩
theorem fE:TyOk prog 32 1 false:=⟨sizeOf32,isAgg32⟩
theorem zJN:TyOk prog 34 6 true:=⟨sizeOf34,isAgg34⟩
theorem uS:TyOk prog 46 1 false:=⟨sizeOf46,isAgg46⟩
theorem gK:TyOk prog 47 1 false:=⟨sizeOf47,isAgg47⟩
theorem yFO:TyOk prog 48 1 false:=⟨sizeOf48,isAgg48⟩
theorem jH:TyOk prog 50 3 true:=⟨sizeOf50,isAgg50⟩
theorem zO:TyOk prog 53 9 true:=⟨sizeOf53,isAgg53⟩
theorem iU:TyOk prog 80 12 true:=⟨sizeOf80,isAgg80⟩
theorem cD:TyOk prog 81 1 false:=⟨sizeOf81,isAgg81⟩
theorem fD:TyOk prog 83 14 true:=⟨sizeOf83,isAgg83⟩
theorem oD:TyOk prog 108 27 true:=⟨sizeOf108,isAgg108⟩
theorem dB:TyOk prog 193 5 true:=⟨sizeOf193,isAgg193⟩
theorem yFP:TyOk prog 200 5 true:=⟨sizeOf200,isAgg200⟩
end Go.Proofs.YtboaboflnckgoaaGreat
namespace Bk
open Go Go.RowKit
section
variable {P:Program}{n:Nat}{w0:World}{h0:Mem}{e:List (Nat×Value)}{h:Mem}{ds:Option Tmp}{ty:TypeId}{ps:String}{af:Array Edge}{gd:Option (Nat×Bool)}{α:Type}
theorem zM5{ρ:Rp α}{xs:List α}{v:Value}{t E:TypeId}{x lo:Operand}{p:Int}(i:Nat)(ht:P.underlying t=some (.slice E))(hsz:∀w,(Go.sizeOf E).run P w=.ok ρ.n w)(hx:zJ e x=some v)(hl:zJ e lo=some (vI p))(r:(rpS ρ).Is h v xs)
    (hp:p=(i:Int))(hi:i<=xs.length):OpX P n w0 h0 ⟨ds,.slice t x (some lo) none none,ty,ps,af,gd⟩ e [] h (λu=>(rpS ρ).Is h u (xs.drop i)):=by
 obtain⟨cs,s,D⟩:=zNI r;refine zUK (λL' h'=>qM i ht hsz hx hl s.shape hp hi) ?_;have G:=s.sub hi (zbe _);have C:=D.len;rw[zwu (by rw[zhe,C,<-yxu];exact zbe _)] at G;exact zZK (by rw[zhe];exact G) (D.drop i)
end
def ByB(bs:List Nat):Prop:=∀x∈bs,x<256
theorem ByB.nil:ByB []:=λx hx=>by cases hx
theorem ByB.app{a b:List Nat}(ha:ByB a)(hb:ByB b):ByB (a++b):=λx hx=>(zni.1 hx).elim (ha x) (hb x)
theorem zQO(n:Nat):ByB (txt n):=yBN n
theorem zHZ(a b:List Nat):qD a++qD b=qD (a++b):=by
 apply ByteArray.ext
 simp[qD]
theorem zGG{a b:List Nat}(ha:ByB a)(hb:ByB b):qD a=qD b↔a=b:=
 ⟨λh=>by rw[<-zHM ha,<-zHM hb,h],λh=>by rw[h]⟩
section
variable {P:Program}{n:Nat}{w0:World}{h0:Mem}{e:List (Nat×Value)}{L:List Res}{h:Mem}
variable {ds:Option Tmp}{ty:TypeId}{ps:String}{af:Array Edge}{gd:Option (Nat×Bool)}
theorem wT{pa pb:List Nat}{t yt:TypeId}{x y:Operand}(hx:zJ e x=some (.string (qD pa)))(hy:zJ e y=some (.string (qD pb)))(hlen:pa.length+pb.length<=9223372036854775807):
 OpV P n w0 h0 ⟨ds,.binOp .add t x y yt,ty,ps,af,gd⟩ e L h (.string (qD (pa++pb))):=by
 intro a w C S;have h1:=Us.str_size (xs:=pa);have h2:=Us.str_size (xs:=pb);have h3:¬(((qD pa).size+(qD pb).size:Nat):Int)>IntKind.i64.max:=by
  have:IntKind.i64.max=9223372036854775807:=I;rw[this];omega
 have D:(Op.stringOp .add (qD pa) (qD pb)).run P w=.ok (.string (qD (pa++pb))) w:=by
  simp only[Op.stringOp];rw[zae h3,zHZ]
  rfl
 simp only[execOp,C.eval hx,C.eval hy];simp[eqGuard,binOp,D]
theorem nG{pa pb:List Nat}{t yt:TypeId}{x y:Operand}(ha:ByB pa)(hb:ByB pb)(hx:zJ e x=some (.string (qD pa)))(hy:zJ e y=some (.string (qD pb))):OpV P n w0 h0 ⟨ds,.binOp .eql t x y yt,ty,ps,af,gd⟩ e L h (vB (pa=pb)):=by
 have:=zNC (P:=P) (n:=n) (w0:=w0) (h0:=h0) (L:=L) (h:=h) (ds:=ds) (ty:=ty) (ps:=ps) (af:=af) (gd:=gd) (t:=t) (yt:=yt) hx hy;rw[tB (zGG ha hb)] at this;exact this
theorem zUL{pa pb:List Nat}{t yt:TypeId}{x y:Operand}(ha:ByB pa)(hb:ByB pb)(hx:zJ e x=some (.string (qD pa)))(hy:zJ e y=some (.string (qD pb))):OpV P n w0 h0 ⟨ds,.binOp .neq t x y yt,ty,ps,af,gd⟩ e L h (vB (pa≠pb)):=by
 have h1:((qD pa).toList==(qD pb).toList)=@decide (qD pa=qD pb) (Classical.propDecidable _):=by
  rw[yhe];simp only[beq_iff_eq,zge];exact⟨λhh=>by
   have h2:(qD pa).data.toList=(qD pb).data.toList:=by
    rwa [ByteArray.toList_eq,ByteArray.toList_eq] at hh
   exact ByteArray.ext (Array.toList_inj.1 h2),λhh=>by rw[hh]⟩
 rw[<-tB (not_congr (zGG ha hb))];intro a w C S;simp only[execOp,C.eval hx,C.eval hy,binOp,vB];simp[eqGuard,Op.stringOp,h1]
end
end Bk
namespace Bk
open Go Go.RowKit
open Classical
def qF(q:Rat):List Nat:=(if q.num<0 then[45] else[])++txt q.num.natAbs++(if wC q.den=0 then[] else[47]++txt (wC q.den))
theorem zWX(q:Rat):ByB (qF q):=by
 unfold qF;refine ByB.app (ByB.app ?_ (zQO _)) ?_
 · split
   · unfold ByB;decide
   · exact ByB.nil
 · split
   · exact ByB.nil
   · exact ByB.app (by unfold ByB;decide) (zQO _)
theorem j3(q:Rat):(qF q).length<=20*lq q+4:=by
 unfold qF;have h1:=j2 q.num.natAbs;have h2:=j2 (wC q.den);have h3:=wM q;have C:=wI q;have H:(if q.num<0 then[45] else([]:List Nat)).length<=1:=by split<;>simp
 have G:(if wC q.den=0 then[] else[47]++txt (wC q.den)).length<=1+(txt (wC q.den)).length:=by split<;>simp<;>omega
 rw[lAz,lAz];have D:(zB (wC q.den)).length<=lq q:=C;omega
theorem pY{q:Rat}:(0:Int)<↑(zB (wC q.den)).length↔¬wC q.den=0:=by
 have:=yN (n:=wC q.den);omega
theorem zXU{q:Rat}(h1:q.num<0)(h2:¬(0:Int)<↑(zB (wC q.den)).length):[45]++txt q.num.natAbs=qF q:=by
 unfold qF;rw[zau h1,zau (zdi λe=>h2 (pY.2 e)),zli]
theorem yBO{q:Rat}(h1:q.num<0)(h2:(0:Int)<↑(zB (wC q.den)).length):[45]++txt q.num.natAbs++([47]++txt (wC q.den))=qF q:=by
 unfold qF;rw[zau h1,zae (pY.1 h2)]
theorem zXW{q:Rat}(h1:¬q.num<0)(h2:¬(0:Int)<↑(zB (wC q.den)).length):txt q.num.natAbs=qF q:=by
 unfold qF;rw[zae h1,zau (zdi λe=>h2 (pY.2 e)),zli,zhu]
theorem zXV{q:Rat}(h1:¬q.num<0)(h2:(0:Int)<↑(zB (wC q.den)).length):txt q.num.natAbs++([47]++txt (wC q.den))=qF q:=by
 unfold qF;rw[zae h1,zae (pY.1 h2),zhu]
theorem zXT{n:Nat}(h0:n≠0)(h:n<10):txt n=[48+n]:=by
 unfold txt;rw[zae h0,zL0 h0,show n/10=0 by omega,zHL,zoh h];rfl
theorem pV(q:Rat):yW q=if q=0 then 0 else if q<0 then -1 else 1:=by unfold yW;simp only[aP]
theorem zWU(a b:Rat):wQ a b=yW (a-b):=by rw[pV];unfold wQ;grind
theorem zBU(a b:Rat):a<b\/a=b\/b<a:=by grind
theorem zWV(a b c:Rat):wQ (a*c) (b*c)=wQ a b*yW c:=by
 rw[pV]
 by_cases h0:c=0
 · subst h0
   have:wQ (a*0) (b*0)=0:=bX.2 zo2;rw[this,zau I,Int.mul_zero]
 · rw[zae h0]
   by_cases hc:c<0
   · rw[zau hc]
     rcases zBU a b with h|h|h
     · have h1:b*c<a*c:=by
        have:=zqu h (c:=-c) zo2;grind
       unfold wQ;grind
     · subst h;unfold wQ;simp
     · have h1:a*c<b*c:=by
        have:=zqu h (c:=-c) zo2;grind
       unfold wQ;grind
   · rw[zae hc]
     have C:0<c:=by grind
     rcases zBU a b with h|h|h
     · have h1:=zqu h C
       unfold wQ;grind
     · subst h;unfold wQ;simp
     · have h1:=zqu h C
       unfold wQ;grind
theorem iQ{x y:Int}(hx:-1<=x/\x<=1)(hy:-1<=y/\y<=1):-1<=x*y/\x*y<=1:=by
 have:x= -1\/x=0\/x=1:=by omega
 rcases this with h|h|h<;>subst h<;>omega
theorem zOR{a b:Rat}:wQ a b<=0↔a<=b:=by
 have h:=eX (a:=a) (b:=b);constructor
 · intro h1
   refine Rat.not_lt.1 λe=>?_;have:=h.2 e;omega
 · intro h1
   have:¬0<wQ a b:=λe=>Rat.not_lt.2 h1 (h.1 e);omega
theorem zOF(a b:Rat):a<=b\/b<=a:=by grind
theorem zG5(a:Rat):zEU a a=a:=by unfold zEU;split<;>rfl
theorem zG6(a:Rat):nL a a=a:=by unfold nL;split<;>rfl
theorem zY8{a b:Rat}(h:a<=b):nL a b=b:=by
 unfold nL
 by_cases h1:a<b
 · rw[zau h1]
 · rw[zae h1];grind
theorem zK6{a b c:Rat}(h:a<=b)(hc:0<=c):a*c<=b*c:=zyu h hc
theorem zBB(x:Rat):0<=x*x:=by
 rcases zOF 0 x with h|h
 · have:=zK6 h h;grind
 · have:=zK6 (a:=0) (b:=-x) (c:=-x) zo2 zo2;grind
theorem zBC(n:Nat):∃m,m*m<=n/\n<(m+1)*(m+1):=by
 induction n with
 |zero=>exact⟨0,by decide,by decide⟩
 |succ n ih=>
  obtain⟨m,h1,h2⟩:=ih
  by_cases h:(m+1)*(m+1)<=n+1
  · refine⟨m+1,h,?_⟩
    have:(m+1)*(m+1)<(m+1+1)*(m+1+1):=Nat.mul_self_lt_mul_self zos;omega
  · exact⟨m,by omega,by omega⟩
def sqN(n:Nat):Nat:=Classical.choose (zBC n)
theorem zBD(n:Nat):sqN n*sqN n<=n:=(Classical.choose_spec (zBC n)).1
theorem yCC(n:Nat):n<(sqN n+1)*(sqN n+1):=(Classical.choose_spec (zBC n)).2
theorem zC2{a b:Nat}(h:a<=b):a*a<=b*b:=z6i h h
theorem zOG{n m:Nat}:m<=sqN n↔m*m<=n:=by
 constructor
 · intro h
   exact zci (zC2 h) (zBD n)
 · intro h
   refine zdu λe=>?_;have h1:=zC2 (show sqN n+1<=m by omega);have h2:=yCC n;omega
theorem zMJ{n m:Nat}(h1:m*m<=n)(h2:n<(m+1)*(m+1)):sqN n=m:=by
 have h3:=zOG.2 h1;have C:¬m+1<=sqN n:=λe=>by have:=zOG.1 e;omega
 omega
theorem zDS(n:Nat):sqN n<=n:=by
 rcases z8u (sqN n) with h|h
 · omega
 · have h1:=zBD n
   have h2:=znu (sqN n) (show 1<=sqN n from h);omega
theorem zRX{n x:Nat}(hx:0<x):sqN n<=(x+n/x)/2:=by
 refine zdu λe=>?_;have H:=zBD n;generalize sqN n=s at *;have h1:x+n/x+1<=2*s:=by omega
 have h2:=yvu n hx;obtain⟨t,G⟩:∃t,n/x+1+x+t=2*s:=⟨2*s-(n/x+1+x),by omega⟩;have h3:n<x*(n/x+1):=h2;generalize n/x=q at *
 -- x (q + 1) <= x (2 s - x) <= s s
 have C:(x:Int)*((q:Int)+1)<=(s:Int)*s:=by
  have D:(q:Int)+1=2*s-x-t:=by omega
  rw[D];have O:0<=((s:Int)-x)*((s:Int)-x):=by
   rcases Int.le_total 0 ((s:Int)-x) with h|h
   · exact yli h h
   · exact Int.mul_nonneg_of_nonpos_of_nonpos h h
  have M:0<=(x:Int)*t:=yli zos zos;grind
 have J:((x*(q+1):Nat):Int)<=((s*s:Nat):Int):=by rw[zeu,zeu,Int.natCast_add];exact C
 omega
theorem zK2{n x:Nat}(hx:0<x)(h:sqN n<=x)(hs:x<=(x+n/x)/2):x=sqN n:=by
 have h1:x<=n/x:=by omega
 have h2:x*x<=n:=zci (znu x h1) (Nat.mul_div_le n x);have:=zOG.2 h2;omega
theorem zIU(n:Nat):sqN n<=2^((wH n+1)/2):=by
 refine zdu λe=>?_;have h1:=zC2 (show 2^((wH n+1)/2)<=sqN n by omega);have h2:=zBD n;have h3:=bM n;rw[<-zlu] at h1;have C:2^wH n<=2^((wH n+1)/2+(wH n+1)/2):=ziu zos zos;omega
theorem reb{h:Mem}{v:Value}{a b:Rat}{k l:Nat}(r:(rpQ k).Is h v a)(e:a=b)(hl:lq b<=l):(rpQ l).Is h v b:=by
 subst e;exact oN (yF5 r).1 hl
theorem zYL{h:Mem}{cs:List Value}{a b:Rat}{k l:Nat}(r:(rpQ k).R h cs a)(e:a=b)(hl:lq b<=l):(rpQ l).R h cs b:=by
 subst e;exact⟨r.1,hl⟩
def ovQ(a K:Nat):Rat:=(a:Rat)/((2^K:Nat):Rat)
theorem zUJ(K:Nat):(0:Rat)<((2^K:Nat):Rat):=by
 have:(0:Rat)=((0:Nat):Rat):=I;rw[this,yqi];exact zqi zos
theorem yF4(K:Nat):((2^K:Nat):Rat)≠0:=by have:=zUJ K;grind
theorem zOB(a b:Nat):lq ((a:Rat)/(b:Rat))<=max (zB a).length (zB b).length+1:=by
 have h1:=zP0 False [] [];rw[show(a:Rat)/(b:Rat)=mkRat (sg False a) b by
  rw[lO id,Rat.mkRat_eq_div];rfl]
 exact oF zos zos zos
theorem zH9{K:Nat}(h:K<=4096):(zB (2^K)).length<=129:=by
 have:=zYW (k:=K) h;omega
theorem yAQ{a K m:Nat}(hK:K<=4096)(ha:(zB a).length<=m):lq (ovQ a K)<=max m 129+1:=by
 have h1:=zOB a (2^K);have h2:=zH9 hK;unfold ovQ;omega
theorem zPI(K:Nat):ovQ 0 K=0:=by
 unfold ovQ;have:((0:Nat):Rat)=0:=I;rw[this];grind
def flN(q:Rat)(K:Nat):Nat:=q.num.natAbs*2^K*2^K/q.den
def gS(q:Rat)(k:Int):Rat:=ovQ (sqN (flN q (kN k))) (kN k)
theorem w7{x y c:Rat}(hc:0<c):x<=y↔x*c<=y*c:=by
 constructor
 · intro h;exact zyu h zo2
 · intro h
   refine Rat.not_lt.1 λe=>?_;have:=zqu e hc;grind
theorem zQH(q:Rat):(0:Rat)<(q.den:Rat):=by
 have:(0:Rat)=((0:Nat):Rat):=I;rw[this,yqi];exact zfe q.den_nz
theorem num_nonneg{q:Rat}(h:0<=q):(q.num.natAbs:Int)=q.num:=Int.natAbs_of_nonneg (ywu.2 h)
theorem zY5{q:Rat}(h:0<=q):q*(q.den:Rat)=(q.num.natAbs:Rat):=by
 have h1:q*(q.den:Rat)=(q.num:Rat):=by
  have h2:=Rat.divInt_eq_div q.num q.den;rw[Rat.num_divInt_den] at h2;replace h2:(q.num:Rat)/(q.den:Rat)=q:=h2.symm;have h3:=zQH q;generalize (q.num:Rat)=x at *;generalize (q.den:Rat)=y at *;grind
 rw[h1,<-num_nonneg h];rfl
theorem yDA(a b K:Nat):ovQ a K+ovQ b K=ovQ (a+b) K:=by
 unfold ovQ;rw[yti];have:=yF4 K;grind
def zFU(q:Rat)(K:Nat):Nat:=(q.num.natAbs/q.den+1)*2^K
theorem yBP(q:Rat)(K:Nat):flN q K<zFU q K*zFU q K:=by
 have G:=zfe q.den_nz;have h1:=yvu q.num.natAbs G;rw[zui] at h1;unfold flN zFU;rw[Nat.div_lt_iff_lt_mul G];generalize q.num.natAbs/q.den+1=N at *;generalize q.num.natAbs=X at *;generalize q.den=D at *;have C:0<2^K:=zqi zos;generalize 2^K=P at *;have H:1<=N:=by
  rcases z8u N with h|h
  · rw[h] at h1;omega
  · exact h
 have h2:X*P*P<N*D*P*P:=zuu (zuu h1 C) C;have h3:N*D*P*P<=N*(N*D*P*P):=Nat.le_mul_of_pos_left _ H;have e:N*P*(N*P)*D=N*(N*D*P*P):=by grind
 omega
theorem zHU{q:Rat}{k:Nat}(h:lq q<=k)(K:Nat)(hK:K<=4096):(zB (zFU q K)).length<=k+131:=by
 unfold zFU;have h1:=yH (q.num.natAbs/q.den+1) (2^K);have h2:=zH9 hK;have h3:=uJ (q.num.natAbs/q.den) 1;have H:=zR (zki q.num.natAbs q.den);have G:=wM q;have D:(zB 1).length=1:=by rw[jT zos zos];rfl
 have C:=w4 q;omega
theorem zVN{q:Rat}{k a:Nat}(h:lq q<=k){K:Nat}(hK:K<=4096)(ha:a<=zFU q K):lq (ovQ a K)<=k+140:=by
 have h1:=zHU h K hK;have h2:=zR ha;have h3:=yAQ (a:=a) hK (zci h2 h1);omega
theorem eA(q:Rat)(K:Nat):sqN (flN q K)<=zFU q K:=by
 refine ybe λe=>?_;have h1:=yBP q K;have h2:=zBD (flN q K);have h3:=zC2 (ydi e);omega
theorem zZC{q:Rat}{k:Nat}(h:lq q<=k)(n:Int):lq (gS q n)<=k+140:=zVN h (by unfold kN;omega) (eA q _)
theorem zJS:sqN 0=0:=by have:=zDS 0;omega
theorem zT2{X:Nat}(h:(↑(wH X):Int)=0):zB (sqN X)=[]:=by
 have h1:X=0:=gJ.1 zos;rw[h1,zJS,yR]
theorem zJV{X:Nat}(h:(zB X).length<=1000):shN 1 ((↑(wH X)+1)/2)=2^((wH X+1)/2):=by
 have h1:=zFL X;have e:((↑(wH X)+1)/2:Int)=(((wH X+1)/2:Nat):Int):=by omega
 rw[e,zH1 zos zos,yeu]
 rfl
theorem zMO(Y:Nat):shN Y (-1)=Y/2:=by
 rw[zDU zos]
 rfl
theorem zMI{X K:Nat}(h:(zB X).length<=K):(zB (2^((wH X+1)/2))).length<=K+1:=by
 have h1:=zFL X;refine zci (zR (ziu zos (show(wH X+1)/2<=32*K by omega))) ?_;refine uE (k:=K+1) ?_;rw[show(4294967296:Nat)=2^32 from I,<-ycu];exact ytu zos zos
theorem zQ2{X:Nat}(h:(zB X).length<=1000):(zB (2^((wH X+1)/2))).length<=1001:=zMI h
theorem zH2(X k:Nat)(hk:k<=4096):shN X (k:Int)=X*2^k:=by rw[zH1 zos zos];rfl
theorem dY{q:Rat}{k K:Nat}(h:lq q<=k)(hK:K<=4096):(zB (q.num.natAbs*2^K)).length<=k+129/\(zB (q.num.natAbs*2^K*2^K)).length<=k+258/\(zB (flN q K)).length<=k+258:=by
 have h1:=yH q.num.natAbs (2^K);have h2:=yH (q.num.natAbs*2^K) (2^K);have h3:=zH9 hK;have D:=wM q;have C:=zR (zki (q.num.natAbs*2^K*2^K) q.den);unfold flN;omega
theorem zPO(a K:Nat):mkRat (sg False (val (zB a))) (dV (zB (2^K)))=ovQ a K:=by
 have C:2^K≠0:=yku (zqi zos);have h0:zB (2^K)≠[]:=λe=>by
  have:=yN.2 C;rw[e] at this;simp at this
 unfold dV;rw[zae h0,zE,zE,lO id,Rat.mkRat_eq_div]
 rfl
def zER(q:Rat)(K:Nat):Prop:=q.num.natAbs*2^K*2^K%q.den≠0
theorem zUP{q:Rat}(hq:0<=q)(K:Nat):(zER q K\/tS (sqN (flN q K)*sqN (flN q K)) (flN q K)<0)↔gS q=gS q/\ovQ (sqN (flN q K)) K*ovQ (sqN (flN q K)) K<q:=by
 have G:=zUJ K;have O:=zQH q;have M:=zY5 hq;have U:(0:Rat)<((2^K:Nat):Rat)*((2^K:Nat):Rat)*(q.den:Rat):=z7e (z7e G G) O;have C:q<=ovQ (sqN (flN q K)) K*ovQ (sqN (flN q K)) K↔q.num.natAbs*2^K*2^K<=sqN (flN q K)*sqN (flN q K)*q.den:=by
  rw[w7 U];generalize sqN (flN q K)=a;have J:ovQ a K*ovQ a K*(((2^K:Nat):Rat)*((2^K:Nat):Rat)*(q.den:Rat))=((a*a*q.den:Nat):Rat):=by
   rw[zru,zru];unfold ovQ;generalize ((2^K:Nat):Rat)=P at *;grind
  have H:q*(((2^K:Nat):Rat)*((2^K:Nat):Rat)*(q.den:Rat))=((q.num.natAbs*2^K*2^K:Nat):Rat):=by
   rw[zru,zru,<-M];grind
  rw[J,H,Rat.natCast_le_natCast]
 have h1:=zBD (flN q K);have D:=zfe q.den_nz;have h2:flN q K*q.den+q.num.natAbs*2^K*2^K%q.den=q.num.natAbs*2^K*2^K:=by
  unfold flN;rw[zui];exact z3u _ _
 rw[fC];unfold zER;generalize q.num.natAbs*2^K*2^K=X at *;generalize hr:X%q.den=r at *;generalize hs:sqN (flN q K)*sqN (flN q K)=s at *;generalize flN q K=F at *;constructor
 · intro h
   refine⟨I,Rat.not_le.1 λe=>?_⟩;have h3:=C.1 e
   rcases h with h|h
   · have:=zfu q.den h1
     omega
   · have h4:=zuu h D
     omega
 · rintro⟨_,h⟩
   refine zdu λe=>?_;have J:¬r≠0:=λh=>e (.inl h);have H:¬s<F:=λh=>e (.inr h);have Z:s=F:=by omega
   refine Rat.not_le.2 h (C.2 ?_);rw[Z];omega
def zQ6(l h:Rat)(k:Int):Rat:=if h<0 then 0 else gS (nL l 0) k
def zBF(h:Rat)(k:Int):Rat:=if h<0 then 0 else if gS h k*gS h k<h then gS h k+ovQ 1 (kN k) else gS h k
def rtE(h:Rat):Int:=if h<0 then 7 else 0
theorem zWD(K:Nat):flN 0 K=0:=by
 unfold flN;have:(0:Rat).num.natAbs=0:=I;rw[this,zvi,zvi,Nat.zero_div]
theorem zMU(k:Int):gS 0 k=0:=by unfold gS;rw[zWD,zJS,zPI]
def loN(l:Rat)(K:Nat):Nat:=if 0<yW l then sqN (flN l K) else 0
theorem iG{q:Rat}:0<yW q↔0<q:=by
 rw[pV]
 by_cases h0:q=0
 · rw[zau h0,h0]
   constructor
   · intro h;omega
   · intro h;exact absurd h (Rat.lt_irrefl)
 · rw[zae h0]
   by_cases h1:q<0
   · rw[zau h1]
     constructor
     · intro h;omega
     · intro h;grind
   · rw[zae h1]
     constructor
     · intro h;grind
     · intro h;omega
theorem qW{q:Rat}:yW q<0↔q<0:=by
 rw[pV]
 by_cases h0:q=0
 · rw[zau h0,h0]
   constructor
   · intro h;omega
   · intro h;exact absurd h (Rat.lt_irrefl)
 · rw[zae h0]
   by_cases h1:q<0
   · rw[zau h1];simp[h1]
   · rw[zae h1]
     constructor
     · intro h;omega
     · intro h;grind
theorem yGH(l:Rat)(k:Int):ovQ (loN l (kN k)) (kN k)=gS (nL l 0) k:=by
 unfold loN
 by_cases h:0<yW l
 · rw[zau h]
   have h1:=iG.1 h;have h2:nL l 0=l:=by unfold nL;rw[zae zo2]
   rw[h2];rfl
 · rw[zae h,zPI]
   have h1:¬0<l:=λe=>h (iG.2 e);have h2:nL l 0=0:=zY8 zo2;rw[h2,zMU]
def hiN(q:Rat)(K:Nat):Nat:=if zER q K\/tS (sqN (flN q K)*sqN (flN q K)) (flN q K)<0 then sqN (flN q K)+1 else sqN (flN q K)
theorem yAU{q:Rat}(h:¬q<0)(k:Int):ovQ (hiN q (kN k)) (kN k)=zBF q k:=by
 have h0:0<=q:=by grind
 have h1:=zUP h0 (kN k);unfold zBF hiN;rw[zae h]
 by_cases h2:gS q k*gS q k<q
 · rw[zau h2,zau (h1.2 ⟨I,h2⟩),<-yDA];rfl
 · rw[zae h2,zae (λe=>h2 (h1.1 e).2)];rfl
theorem zVQ{q:Rat}{k:Nat}(h:lq q<=k)(n:Int):lq (ovQ (hiN q (kN n)) (kN n))<=k+140/\(zB (hiN q (kN n))).length<=k+133:=by
 have C:kN n<=4096:=by unfold kN;omega
 have h1:hiN q (kN n)<=zFU q (kN n)+1:=by
  have:=eA q (kN n);unfold hiN;split<;>omega
 have h2:=zR h1;have h3:=uJ (zFU q (kN n)) 1;have H:=zHU h (kN n) C;have G:(zB 1).length=1:=by rw[jT zos zos];rfl
 have D:(zB (hiN q (kN n))).length<=k+133:=by omega
 exact⟨by have:=yAQ (a:=hiN q (kN n)) C D;omega,D⟩
theorem yDW{q:Rat}{k:Nat}(h:lq q<=k)(n:Int):lq (ovQ (loN q (kN n)) (kN n))<=k+140/\(zB (loN q (kN n))).length<=k+131:=by
 have C:kN n<=4096:=by unfold kN;omega
 have h1:loN q (kN n)<=zFU q (kN n):=by
  have:=eA q (kN n);unfold loN;split<;>omega
 exact⟨zVN h C h1,zci (zR h1) (zHU h _ C)⟩
theorem zK1{n x:Nat}(hx:0<x)(h:sqN n<=x)(e:(x+n/x)/2=0):n=0:=by
 have h0:n/x=0/\x=1:=by generalize n/x=q at *;omega
 obtain⟨h1,h2⟩:=h0;rw[h2,z2i] at h1;exact h1
theorem zX1{h:Mem}{v:Value}{s:Rat×Rat}{k l:Nat}(r:(rpP (rpQ k) (rpQ l)).Is h v s):lq s.1<=k/\lq s.2<=l:=by
 obtain⟨cs,⟨a,b,_,r1,r2⟩,_⟩:=r;exact⟨r1.2,r2.2⟩
theorem zYF{h:Rat}{k:Int}(h0:¬h<0)(h1:¬gS h k*gS h k<h):gS h k=zBF h k:=by unfold zBF;rw[zae h0,zae h1]
theorem zZB{q:Rat}{k:Nat}(h:lq q<=k)(h0:¬q<0)(n:Int):lq (zBF q n)<=k+140:=by
 rw[<-yAU h0];exact(zVQ h n).1
theorem zT4(X d:Nat):(zB (if wC d=0 then 0 else X%wC d)).length<=(zB X).length:=by
 refine zR ?_
 split
 · omega
 · exact Nat.mod_le _ _
abbrev Sp:=Rat×Rat
theorem zPK{h:Mem}{v:Value}{s:Sp}{k l:Nat}(r:(rpP (rpQ k) (rpQ l)).Is h v s):∃a b c d,v=.agg #[vB (s.1.num<0),a,b,vB (s.2.num<0),c,d]/\Us .u32 h a (zB s.1.num.natAbs)/\Us .u32 h b (zB (wC s.1.den))/\Us .u32 h c (zB s.2.num.natAbs)/\Us .u32 h d (zB (wC s.2.den))/\lq s.1<=k/\lq s.2<=l:=by
 obtain⟨cs,⟨_,_,rfl,⟨⟨a,b,rfl,h1,h2⟩,h3⟩,⟨⟨c,d,rfl,G,D⟩,C⟩⟩,rfl⟩:=r;exact⟨a,b,c,d,I,h1,h2,G,D,h3,C⟩
theorem yAR{h:Mem}{v:Value}{p q:Rat}{k l:Nat}(r:zJI h v [p,q])(hp:lq p<=k)(hq:lq q<=l):(rpP (rpQ k) (rpQ l)).Is h v (p,q):=by
 obtain⟨cs,rfl,a,b,_,rfl,h1,h2,c,d,_,rfl,D,C,rfl⟩:=r;exact⟨_,⟨_,_,I,⟨⟨a,b,I,h1,h2⟩,hp⟩,⟨⟨c,d,I,D,C⟩,hq⟩⟩,I⟩
def addS(a b:Sp):Sp:=(a.1+b.1,a.2+b.2)
abbrev Pt:=T3 Rat
abbrev P2:=Rat×Rat
def pr(p:Pt)(i j:Nat):P2:=(p.at i,p.at j)
theorem zH6{c:Prop} [Decidable c](a b:Pt)(i j:Nat):pr (if c then a else b) i j=if c then pr a i j else pr b i j:=by split<;>rfl
def cr(u v w:P2):Rat:=(v.1-u.1)*(w.2-u.2)-(v.2-u.2)*(w.1-u.1)
def orZ(u v w:P2):Int:=yW (cr u v w)
def tY(a b x:Rat):Prop:=(a<=x/\x<=b)\/(x<=a/\b<=x)
def onS(u v p:P2):Prop:=tY u.1 v.1 p.1/\tY u.2 v.2 p.2/\cr u v p=0
def jQ(a b c d:Rat):Prop:=(a<c/\a<d/\b<c/\b<d)\/(c<a/\d<a/\c<b/\d<b)
def lx(u v:P2):Prop:=u.1<v.1\/(u.1=v.1/\u.2<v.2)
def lo2(u v:P2):P2:=if lx v u then v else u
def hi2(u v:P2):P2:=if lx v u then u else v
def oB(a b c d:P2):Int:=
 if lx (if lx d b then d else b) (if lx a c then c else a) then 0 else if lx (if lx a c then c else a) (if lx d b then d else b) then 3
 else if((if lx a c then c else a)=a\/(if lx a c then c else a)=b)/\((if lx a c then c else a)=c\/(if lx a c then c else a)=d) then 1 else 2
def aK(a b c d:P2):Int:=oB (lo2 a b) (hi2 a b) (lo2 c d) (hi2 c d)
def fH(a b c d:P2):Int:=
 if jQ a.1 b.1 c.1 d.1\/jQ a.2 b.2 c.2 d.2 then 0
 else if orZ a b c=0/\orZ a b d=0/\orZ c d a=0/\orZ c d b=0 then aK a b c d
 else if 0<orZ a b c*orZ a b d\/0<orZ c d a*orZ c d b then 0
 else if(orZ a b c=0\/orZ a b d=0)/\(orZ c d a=0\/orZ c d b=0) then 1 else 2
def zCM(a b c d:P2):Int:=
 if lx (if lx d b then d else b) (if lx a c then c else a) then 0 else if(if lx a c then c else a)≠(if lx d b then d else b) then 3
 else if((if lx a c then c else a)=a\/(if lx a c then c else a)=b)/\((if lx a c then c else a)=c\/(if lx a c then c else a)=d)/\onS a b (if lx a c then c else a)/\onS c d (if lx a c then c else a) then 1
 else if onS a b (if lx a c then c else a)/\onS c d (if lx a c then c else a) then 2 else 0
def iF(a b c d:P2):Int:=if(a=b/\onS c d a)\/(c=d/\onS a b c) then 2 else 0
def zHT(a b c d:P2):Int:=
 if orZ a b c=0/\orZ a b d=0/\orZ c d a=0/\orZ c d b=0 then zCM a b c d
 else if a=b\/c=d then iF a b c d
 else if 0<orZ a b c*orZ a b d\/0<orZ c d a*orZ c d b then 0
 else if a=c\/a=d\/b=c\/b=d then 1 else 2
def mA(a b c d:P2):Int:=zHT (lo2 a b) (hi2 a b) (lo2 c d) (hi2 c d)
def cr2(ax ay bx by' cx cy:Rat):Rat:=(bx-ax)*(cy-ay)-(by'-ay)*(cx-ax)
theorem zH8{D e u v:Rat}(hD:0<D)(h0:0<=e)(h1:e<=D)(h:D*u=v*e):(0<=v->0<=u/\u<=v)/\(v<=0->v<=u/\u<=0):=by
 constructor
 · intro G
   constructor
   · refine Rat.not_lt.1 λC=>?_
     have h2:=zqu C hD;have h3:=zod G h0;grind
   · refine Rat.not_lt.1 λC=>?_
     have h2:=zqu C hD;have h3:=zyu h1 G;grind
 · intro G
   constructor
   · refine Rat.not_lt.1 λC=>?_
     have h2:=zqu C hD;have h3:=zyu h1 (c:=-v) zo2;grind
   · refine Rat.not_lt.1 λC=>?_
     have h2:=zqu C hD;have h3:=zod (a:=-v) (b:=e) zo2 h0;grind
theorem zLH{a b:Rat}(h:a<=b):a<b\/a=b:=by grind
theorem tL{a b:Rat}(h:a*b=0):a=0\/b=0:=zoe.1 h
def lex(ax ay bx by':Rat):Prop:=ax<bx\/(ax=bx/\ay<by')
theorem zI2{ax ay bx by':Rat}:¬lex bx by' ax ay↔ax<bx\/(ax=bx/\ay<=by'):=by
 unfold lex;grind
theorem zBM{ax ay bx by' px py:Rat}(hs:¬lex bx by' ax ay)(hc:cr2 ax ay bx by' px py=0):
 (¬lex px py ax ay/\¬lex bx by' px py)↔(tY ax bx px/\tY ay by' py):=by
 rw[zI2] at hs;rw[zI2,zI2];unfold cr2 at hc;unfold tY
 rcases hs with hs|⟨hx,hy⟩
 · have J:0<bx-ax:=by grind
   have H:(bx-ax)*(py-ay)=(by'-ay)*(px-ax):=by grind
   constructor
   · rintro⟨h1,h2⟩
     have h3:0<=px-ax:=by grind
     have C:px-ax<=bx-ax:=by grind
     obtain⟨G,D⟩:=zH8 J h3 C H;refine⟨.inl ⟨by grind,by grind⟩,?_⟩
     rcases zOF ay by' with h7|h7
     · have:=G zo2;grind
     · have:=D zo2;grind
   · rintro⟨h1,h2⟩
     have h3:ax<=px/\px<=bx:=by grind
     constructor
     · rcases zLH h3.1 with C|C
       · exact .inl C
       · refine .inr ⟨C,?_⟩
         have G:(bx-ax)*(py-ay)=0:=by grind
         rcases tL G with D|D<;>grind
     · rcases zLH h3.2 with C|C
       · exact .inl C
       · refine .inr ⟨C,?_⟩
         have G:(bx-ax)*(py-by')=0:=by grind
         rcases tL G with D|D<;>grind
 · subst hx
   grind
theorem zFN{a b x:Rat}:tY a b x↔tY b a x:=by unfold tY;grind
theorem zLV(ax ay bx by' cx cy:Rat):cr2 bx by' ax ay cx cy= -cr2 ax ay bx by' cx cy:=by unfold cr2;grind
theorem yDD{ax ay bx by' px py:Rat}:(cr2 ax ay bx by' px py=0/\(if lex bx by' ax ay then ¬lex px py bx by'/\¬lex ax ay px py else ¬lex px py ax ay/\¬lex bx by' px py))↔(tY ax bx px/\tY ay by' py/\cr2 ax ay bx by' px py=0):=by
 by_cases hc:cr2 ax ay bx by' px py=0
 · simp only[hc,true_and,and_true]
   by_cases hl:lex bx by' ax ay
   · rw[zau hl]
     have h1:¬lex ax ay bx by':=by unfold lex at *;grind
     have h2:cr2 bx by' ax ay px py=0:=by rw[zLV,hc];grind
     rw[zBM h1 h2,zFN,zFN (a:=by')]
   · rw[zae hl]
     exact zBM hl hc
 · simp[hc]
theorem zHK{ux uy vx vy wx wy:Rat}(h:ux≠0\/uy≠0)(h1:vx*uy=vy*ux)(h2:wx*uy=wy*ux):vx*wy=vy*wx:=by
 rcases h with h|h
 · have e:ux*(vx*wy-vy*wx)=0:=by grind
   rcases tL e with h3|h3
   · exact absurd h3 h
   · grind
 · have e:uy*(vx*wy-vy*wx)=0:=by grind
   rcases tL e with h3|h3
   · exact absurd h3 h
   · grind
theorem zSD{ax ay bx by' cx cy dx dy:Rat}(hp:cr2 ax ay bx by' cx cy=0)(hr:cr2 cx cy dx dy ax ay=0):
 (ax=cx/\ay=cy)\/(cr2 ax ay bx by' dx dy=0/\cr2 cx cy dx dy bx by'=0):=by
 by_cases h:ax=cx/\ay=cy
 · exact .inl h
 · refine .inr ?_
   have C:cx-ax≠0\/cy-ay≠0:=by grind
   have h1:(bx-ax)*(cy-ay)=(by'-ay)*(cx-ax):=by unfold cr2 at hp;grind
   have h2:(dx-ax)*(cy-ay)=(dy-ay)*(cx-ax):=by unfold cr2 at hr;grind
   have h3:=zHK C h1 h2;unfold cr2;constructor<;>grind
theorem zLU{ax ay bx by' cx cy dx dy:Rat}(hpq:cr2 ax ay bx by' cx cy≠cr2 ax ay bx by' dx dy)(h1:cr2 ax ay bx by' cx cy*cr2 ax ay bx by' dx dy<=0)(h2:cr2 cx cy dx dy ax ay*cr2 cx cy dx dy bx by'<=0)(hrs:cr2 cx cy dx dy ax ay≠cr2 cx cy dx dy bx by'):
 ∃x y,tY ax bx x/\tY ay by' y/\tY cx dx x/\tY cy dy y:=by
 obtain⟨p,J⟩:∃p,p=cr2 ax ay bx by' cx cy:=⟨_,I⟩;obtain⟨q,H⟩:∃q,q=cr2 ax ay bx by' dx dy:=⟨_,I⟩;obtain⟨r,G⟩:∃r,r=cr2 cx cy dx dy ax ay:=⟨_,I⟩;obtain⟨s,es⟩:∃s,s=cr2 cx cy dx dy bx by':=⟨_,I⟩;rw[<-J,<-H] at hpq h1;rw[<-G,<-es] at hrs h2;have hw:∀{u v:Rat},u≠v->u*v<=0->0<=u/(u-v)/\u/(u-v)<=1:=by
  intro u v ab ac;have h3:u-v≠0:=by grind
  have D:0<(u-v)*(u-v):=by
   rcases zBU (u-v) 0 with h|h|h
   · have:=z7e (a:=-(u-v)) (b:=-(u-v)) zo2 zo2;grind
   · exact absurd h h3
   · exact z7e h h
  have e:u/(u-v)*((u-v)*(u-v))=u*(u-v):=by grind
  have h5:0<=u*u:=zBB u;have h6:0<=v*v:=zBB v;constructor
  · rw[w7 D,e];grind
  · rw[w7 D,e];grind
 obtain⟨t1,t2⟩:=hw hpq h1;obtain⟨w1,Z⟩:=hw hrs h2;have hb:∀{u v t:Rat},0<=t->t<=1->tY u v (u+t*(v-u)):=by
  intro u v t h3 D;unfold tY
  rcases zOF u v with h5|h5
  · left
    have h6:=zod h3 (show 0<=v-u by grind);have h7:=zyu D (show 0<=v-u by grind);constructor<;>grind
  · right
    have h6:=zod h3 (show 0<=u-v by grind);have h7:=zyu D (show 0<=u-v by grind);constructor<;>grind
 have C:p-q≠0:=by grind
 have aa:r-s≠0:=by grind
 have zR9:p-q= -(r-s):=by rw[J,H,G,es];unfold cr2;grind
 have ex:cx+p/(p-q)*(dx-cx)=ax+r/(r-s)*(bx-ax):=by
  have e1:(p-q)*(cx+p/(p-q)*(dx-cx))=(p-q)*(ax+r/(r-s)*(bx-ax)):=by
   have U:(p-q)*(cx+p/(p-q)*(dx-cx))=(p-q)*cx+p*(dx-cx):=by grind
   have O:(p-q)*(ax+r/(r-s)*(bx-ax))=(p-q)*ax-r*(bx-ax):=by grind
   rw[U,O,J,H,G];unfold cr2;grind
  have M:(p-q)*((cx+p/(p-q)*(dx-cx))-(ax+r/(r-s)*(bx-ax)))=0:=by grind
  rcases tL M with h|h
  · exact absurd h C
  · grind
 have ey:cy+p/(p-q)*(dy-cy)=ay+r/(r-s)*(by'-ay):=by
  have e1:(p-q)*(cy+p/(p-q)*(dy-cy))=(p-q)*(ay+r/(r-s)*(by'-ay)):=by
   have U:(p-q)*(cy+p/(p-q)*(dy-cy))=(p-q)*cy+p*(dy-cy):=by grind
   have O:(p-q)*(ay+r/(r-s)*(by'-ay))=(p-q)*ay-r*(by'-ay):=by grind
   rw[U,O,J,H,G];unfold cr2;grind
  have M:(p-q)*((cy+p/(p-q)*(dy-cy))-(ay+r/(r-s)*(by'-ay)))=0:=by grind
  rcases tL M with h|h
  · exact absurd h C
  · grind
 exact⟨_,_,ex▸hb w1 Z,ey▸hb w1 Z,hb t1 t2,hb t1 t2⟩
theorem cA{a b c d x:Rat}(h:jQ a b c d)(h1:tY a b x)(h2:tY c d x):False:=by unfold jQ tY at *;grind
theorem yAX(u v w:P2):cr u v w=cr2 u.1 u.2 v.1 v.2 w.1 w.2:=rfl
theorem zAC{u v w:P2}:orZ u v w=0↔cr u v w=0:=uT
theorem sZ{u v:P2}:¬lx v u↔lx u v\/u=v:=by
 unfold lx;rw[Prod.ext_iff];grind
theorem mM(u:P2):¬lx u u:=by unfold lx;grind
theorem pX{u v:P2}(h:lx u v):¬lx v u:=by unfold lx at *;grind
theorem zAL{u v w:P2}(h:lx u v)(k:lx v w):lx u w:=by unfold lx at *;grind
theorem zYY{a b p:P2}:(orZ a b p=0/\(if lx b a then ¬lx p b/\¬lx a p else ¬lx p a/\¬lx b p))↔onS a b p:=by
 rw[zAC];exact yDD
theorem mH{a b p:P2}(hs:¬lx b a)(hc:cr a b p=0):(¬lx p a/\¬lx b p)↔onS a b p:=by
 have:=zBM hs hc;unfold onS;rw[<-and_assoc,and_iff_left hc];exact this
theorem mX(a b c:P2):cr b a c= -cr a b c:=zLV _ _ _ _ _ _
theorem zAB(a b c:P2):orZ b a c= -orZ a b c:=by
 unfold orZ;rw[mX,pV,pV];grind
theorem aX(a c:P2):cr a a c=0:=by unfold cr;grind
theorem zJD(a c:P2):cr a c c=0:=by unfold cr;grind
theorem iS(a c:P2):cr a c a=0:=by unfold cr;grind
theorem zCO{a b c d:Rat}:jQ b a c d↔jQ a b c d:=by unfold jQ;grind
theorem zA5{a b c d:Rat}:jQ a b d c↔jQ a b c d:=by unfold jQ;grind
theorem zLD(a b:P2):lo2 a b=lo2 b a:=by
 unfold lo2
 by_cases h:lx b a
 · rw[zau h,zae (pX h)]
 · rw[zae h]
   rcases sZ.1 h with h1|h1
   · rw[zau h1]
   · rw[h1,zae (mM _)]
theorem zLJ(a b:P2):hi2 a b=hi2 b a:=by
 unfold hi2
 by_cases h:lx b a
 · rw[zau h,zae (pX h)]
 · rw[zae h]
   rcases sZ.1 h with h1|h1
   · rw[zau h1]
   · rw[h1,zae (mM _)]
theorem zCD(a b c d:P2):fH b a c d=fH a b c d:=by
 have e:aK b a c d=aK a b c d:=by unfold aK;rw[zLD b a,zLJ b a]
 unfold fH;rw[e,zCO,zCO (a:=a.2),zAB a b c,zAB a b d];have h1:-orZ a b c*-orZ a b d=orZ a b c*orZ a b d:=by grind
 have h2:orZ c d b*orZ c d a=orZ c d a*orZ c d b:=Int.mul_comm _ _;rw[h1,h2];have h3:(-orZ a b c=0/\-orZ a b d=0/\orZ c d b=0/\orZ c d a=0)↔(orZ a b c=0/\orZ a b d=0/\orZ c d a=0/\orZ c d b=0):=by grind
 have C:((-orZ a b c=0\/-orZ a b d=0)/\(orZ c d b=0\/orZ c d a=0))↔((orZ a b c=0\/orZ a b d=0)/\(orZ c d a=0\/orZ c d b=0)):=by grind
 simp only[h3,C]
theorem zCC(a b c d:P2):fH a b d c=fH a b c d:=by
 have e:aK a b d c=aK a b c d:=by unfold aK;rw[zLD d c,zLJ d c]
 unfold fH;rw[e,zA5,zA5 (a:=a.2),zAB c d a,zAB c d b];have h1:-orZ c d a*-orZ c d b=orZ c d a*orZ c d b:=by grind
 have h2:orZ a b d*orZ a b c=orZ a b c*orZ a b d:=Int.mul_comm _ _;rw[h1,h2];have h3:(orZ a b d=0/\orZ a b c=0/\-orZ c d a=0/\-orZ c d b=0)↔(orZ a b c=0/\orZ a b d=0/\orZ c d a=0/\orZ c d b=0):=by grind
 have C:((orZ a b d=0\/orZ a b c=0)/\(-orZ c d a=0\/-orZ c d b=0))↔((orZ a b c=0\/orZ a b d=0)/\(orZ c d a=0\/orZ c d b=0)):=by grind
 simp only[h3,C]
theorem zHS(a b c d:P2):fH a b c d=fH (lo2 a b) (hi2 a b) (lo2 c d) (hi2 c d):=by
 unfold lo2 hi2
 split
 · split
   · rw[zCD,zCC]
   · rw[zCD]
 · split
   · rw[zCC]
   · rfl
theorem zP5(a b:P2):¬lx (hi2 a b) (lo2 a b):=by
 unfold lo2 hi2
 split
 · rename_i h;exact pX h
 · rename_i h;exact h
theorem mQ{a b:P2}(h:¬lx b a):lo2 a b=a/\hi2 a b=b:=⟨zae h,zae h⟩
theorem zOD{a b c d:P2}(hab:¬lx b a)(hcd:¬lx d c)(h1:cr a b c=0)(h2:cr a b d=0)(h3:cr c d a=0)(h4:cr c d b=0)(hap:jQ a.1 b.1 c.1 d.1\/jQ a.2 b.2 c.2 d.2):lx b c\/lx d a:=by
 rcases hap with hap|hap
 · unfold jQ at hap
   unfold lx;grind
 · -- the order along the line is that of the second coordinate, or its reverse
   rw[sZ] at hab hcd;refine zdu λH=>?_;have G:¬lx b c:=λe=>H (.inl e);have D:¬lx d a:=λe=>H (.inr e);rw[sZ] at G D
   -- c ≤ b and a ≤ d in the order of the line: the segments share a point
   have C:onS a b c\/onS c d a:=by
    by_cases e:lx c a
    · right
      refine(mH (sZ.2 hcd) h3).1 ⟨?_,?_⟩
      · exact pX e
      · exact sZ.2 D
    · left
      refine(mH (sZ.2 hab) h1).1 ⟨e,sZ.2 G⟩
   rcases C with⟨_,hb,_⟩|⟨_,hb,_⟩
   · exact cA hap hb (by unfold tY;grind)
   · exact cA hap (x:=a.2) (by unfold tY;grind) hb
theorem zZF{a b c d:P2}(hab:¬lx b a)(hcd:¬lx d c)(h1:cr a b c=0)(h2:cr a b d=0)(h3:cr c d a=0)(h4:cr c d b=0):zCM a b c d=oB a b c d:=by
 unfold zCM oB
 by_cases hh:lx (if lx d b then d else b) (if lx a c then c else a)
 · rw[zau hh,zau hh]
 · rw[zae hh,zae hh]
   by_cases he:(if lx a c then c else a)=(if lx d b then d else b)
   · rw[zae (λe=>e he),zae (show ¬lx (if lx a c then c else a) (if lx d b then d else b) by rw[he];exact mM _)]
     have C:onS a b (if lx a c then c else a)/\onS c d (if lx a c then c else a):=by
      have O:¬lx (if lx a c then c else a) a:=by
       split
       · rename_i h;exact pX h
       · exact mM _
      have M:¬lx (if lx a c then c else a) c:=by
       split
       · exact mM _
       · rename_i h;exact h
      have J:¬lx b (if lx a c then c else a):=by
       rw[he]
       split
       · rename_i h;exact pX h
       · exact mM _
      have H:¬lx d (if lx a c then c else a):=by
       rw[he]
       split
       · exact mM _
       · rename_i h;exact h
      have G:cr a b (if lx a c then c else a)=0:=by
       split
       · exact h1
       · exact iS a b
      have D:cr c d (if lx a c then c else a)=0:=by
       split
       · exact iS c d
       · exact h3
      exact⟨(mH hab G).1 ⟨O,J⟩,(mH hcd D).1 ⟨M,H⟩⟩
     by_cases hx:((if lx a c then c else a)=a\/(if lx a c then c else a)=b)/\((if lx a c then c else a)=c\/(if lx a c then c else a)=d)
     · rw[zau ⟨hx.1,hx.2,C⟩,zau hx]
     · rw[zae (λe=>hx ⟨e.1,e.2.1⟩),zau C,zae hx]
   · rw[zau he,zau ((sZ.1 hh).resolve_right he)]
theorem zJX{x y:Rat}:0<yW x*yW y↔0<x*y:=by
 have h1:=pV x;have h2:=pV y
 rcases zBU x 0 with hx|hx|hx<;>rcases zBU y 0 with hy|hy|hy
 · have:=z7e (a:=-x) (b:=-y) zo2 zo2
   have D:yW x= -1:=by grind
   have C:yW y= -1:=by grind
   rw[D,C];grind
 · subst hy;have e:x*0=0:=by grind
   have C:yW 0=0:=by grind
   rw[e,C];simp
 · have:=z7e (a:=-x) (b:=y) zo2 hy
   have D:yW x= -1:=by grind
   have C:yW y=1:=by grind
   rw[D,C];grind
 · subst hx;have e:0*y=0:=by grind
   have C:yW 0=0:=by grind
   rw[e,C];simp
 · subst hx;have e:0*y=0:=by grind
   have C:yW 0=0:=by grind
   rw[e,C];simp
 · subst hx;have e:0*y=0:=by grind
   have C:yW 0=0:=by grind
   rw[e,C];simp
 · have:=z7e (a:=x) (b:=-y) hx zo2
   have D:yW x=1:=by grind
   have C:yW y= -1:=by grind
   rw[D,C];grind
 · subst hy;have e:x*0=0:=by grind
   have C:yW 0=0:=by grind
   rw[e,C];simp
 · have:=z7e hx hy
   have D:yW x=1:=by grind
   have C:yW y=1:=by grind
   rw[D,C];grind
theorem mF{a b c d e f:P2}:0<orZ a b c*orZ d e f↔0<cr a b c*cr d e f:=zJX
theorem zQF{a b c d:P2}(hn:¬(cr a b c=0/\cr a b d=0/\cr c d a=0/\cr c d b=0)):((cr a b c=0\/cr a b d=0)/\(cr c d a=0\/cr c d b=0))↔(a=c\/a=d\/b=c\/b=d):=by
 have D:∀u v w:P2,cr u v w= -cr v u w:=λu v w=>mX v u w;constructor
 · rintro⟨h1,h2⟩
   -- one end of each
   have C:∀{p q r s:P2},cr p q r=0->cr r s p=0->p=r\/(cr p q s=0/\cr r s q=0):=by
    intro p q r s H G
    rcases zSD H G with h|h
    · exact .inl (Prod.ext h.1 h.2)
    · exact .inr h
   rcases h1 with h1|h1<;>rcases h2 with h2|h2
   · rcases C h1 h2 with h|h
     · exact .inl h
     · exact absurd ⟨h1,h.1,h2,h.2⟩ hn
   · rcases C (p:=b) (q:=a) (r:=c) (s:=d) (by rw[mX,h1];grind) h2 with h|h
     · exact .inr (.inr (.inl h))
     · exact absurd ⟨h1,by rw[D,h.1];grind,h.2,h2⟩ hn
   · rcases C (p:=a) (q:=b) (r:=d) (s:=c) h1 (by rw[mX,h2];grind) with h|h
     · exact .inr (.inl h)
     · exact absurd ⟨h.1,h1,h2,by rw[D,h.2];grind⟩ hn
   · rcases C (p:=b) (q:=a) (r:=d) (s:=c) (by rw[mX,h1];grind) (by rw[mX,h2];grind) with h|h
     · exact .inr (.inr (.inr h))
     · exact absurd ⟨by rw[D,h.1];grind,h1,by rw[D,h.2];grind,h2⟩ hn
 · rintro(h|h|h|h)
   · subst h;exact⟨.inl (iS a b),.inl (iS a d)⟩
   · subst h;exact⟨.inr (iS a b),.inl (zJD c a)⟩
   · subst h;exact⟨.inl (zJD a b),.inr (iS b d)⟩
   · subst h;exact⟨.inr (zJD a b),.inr (zJD c b)⟩
theorem zXY{a b c d:P2}(hab:¬lx b a)(hcd:¬lx d c):fH a b c d=zHT a b c d:=by
 unfold fH zHT;simp only[zAC]
 by_cases hz:cr a b c=0/\cr a b d=0/\cr c d a=0/\cr c d b=0
 · obtain⟨h1,h2,h3,U⟩:=hz
   rw[zau (show cr a b c=0/\cr a b d=0/\cr c d a=0/\cr c d b=0 from⟨h1,h2,h3,U⟩),zau (show cr a b c=0/\cr a b d=0/\cr c d a=0/\cr c d b=0 from⟨h1,h2,h3,U⟩),zZF hab hcd h1 h2 h3 U];unfold aK;rw[(mQ hab).1,(mQ hab).2,(mQ hcd).1,(mQ hcd).2]
   by_cases C:jQ a.1 b.1 c.1 d.1\/jQ a.2 b.2 c.2 d.2
   · rw[zau C]
     have D:=zOD hab hcd h1 h2 h3 U C;unfold oB;rw[zau]
     rcases D with D|D
     · have e1:lx a c:=by
        rcases sZ.1 hab with e|e
        · exact zAL e D
        · rw[e];exact D
       have e2:¬lx d b:=by
        refine pX ?_
        rcases sZ.1 hcd with e|e
        · exact zAL D e
        · rw[<-e];exact D
       rw[zae e2,zau e1];exact D
     · have e1:¬lx a c:=by
        refine pX ?_
        rcases sZ.1 hcd with e|e
        · exact zAL e D
        · rw[e];exact D
       have e2:lx d b:=by
        rcases sZ.1 hab with e|e
        · exact zAL D e
        · rw[<-e];exact D
       rw[zau e2,zae e1];exact D
   · rw[zae C]
 · rw[zae hz,zae hz]
   by_cases hd:a=b\/c=d
   · rw[zau hd]
     have e0:iF a b c d=0:=by
      unfold iF;rw[zae]
      rintro(⟨e,h⟩|⟨e,h⟩)
      · subst e
        exact hz ⟨aX _ _,aX _ _,h.2.2,h.2.2⟩
      · subst e
        exact hz ⟨h.2.2,h.2.2,aX _ _,aX _ _⟩
     rw[e0]
     by_cases C:jQ a.1 b.1 c.1 d.1\/jQ a.2 b.2 c.2 d.2
     · rw[zau C]
     · rw[zae C,zau]
       rw[mF,mF];have G:∀x:Rat,x≠0->0<x*x:=by
        intro x hx
        rcases zBU x 0 with h|h|h
        · have:=z7e (a:=-x) (b:=-x) zo2 zo2;grind
        · exact absurd h hx
        · exact z7e h h
       rcases hd with e|e
       · subst e
         right
         refine G _ λh=>?_;exact hz ⟨aX _ _,aX _ _,h,h⟩
       · subst e
         left
         refine G _ λh=>?_;exact hz ⟨h,h,aX _ _,aX _ _⟩
   · rw[zae hd]
     by_cases hs:0<orZ a b c*orZ a b d\/0<orZ c d a*orZ c d b
     · rw[zau hs,zau hs]
       split<;>rfl
     · rw[zae hs,zae hs]
       rw[mF,mF] at hs;have H:cr a b c*cr a b d<=0:=Rat.not_lt.1 λe=>hs (.inl e);have aa:cr c d a*cr c d b<=0:=Rat.not_lt.1 λe=>hs (.inr e);have M:¬(jQ a.1 b.1 c.1 d.1\/jQ a.2 b.2 c.2 d.2):=by
        intro C;have Z:∀{p q r s:P2},p≠q->cr p q r=0->cr p q s=0->cr r s p=0/\cr r s q=0:=by
         intro p q r s ab k1 k2;have hu:q.1-p.1≠0\/q.2-p.2≠0:=by
          refine zdu λe=>ab (Prod.ext ?_ ?_)<;>grind
         have k3:(r.1-p.1)*(q.2-p.2)=(r.2-p.2)*(q.1-p.1):=by unfold cr at k1;grind
         have k4:(s.1-p.1)*(q.2-p.2)=(s.2-p.2)*(q.1-p.1):=by unfold cr at k2;grind
         have k5:=zHK hu k3 k4;unfold cr;constructor<;>grind
        have zR9:cr a b c-cr a b d= -(cr c d a-cr c d b):=by unfold cr;grind
        have J:cr a b c≠cr a b d:=by
         intro e;rw[e] at H;have h5:=zBB (cr a b d);have h6:cr a b d*cr a b d=0:=by grind
         have O:cr a b d=0:=by rcases tL h6 with h|h<;>exact h
         obtain⟨h8,h9⟩:=Z (λe=>hd (.inl e)) (by rw[e];exact O) O;exact hz ⟨by rw[e];exact O,O,h8,h9⟩
        obtain⟨x,y,k1,k2,k3,k4⟩:=zLU (ax:=a.1) (ay:=a.2) (bx:=b.1) (by':=b.2) (cx:=c.1) (cy:=c.2) (dx:=d.1) (dy:=d.2) J H aa (by intro e;apply J;rw[yAX c d a,yAX c d b,e] at zR9;grind)
        rcases C with h|h
        · exact cA h k1 k3
        · exact cA h k2 k4
       rw[zae M]
       by_cases he:(cr a b c=0\/cr a b d=0)/\(cr c d a=0\/cr c d b=0)
       · rw[zau he,zau ((zQF hz).1 he)]
       · rw[zae he,zae (λe=>he ((zQF hz).2 e))]
theorem zJP(a b c d:P2):fH a b c d=mA a b c d:=by
 rw[zHS];unfold mA;exact zXY (zP5 a b) (zP5 c d)
theorem zDO(a b c d:P2):fH c d a b=fH a b c d:=by
 have D:∀(a b c d:P2),¬lx b a->¬lx d c->oB c d a b=oB a b c d:=by
  intro a b c d _ _;unfold oB;have M:(if lx c a then a else c)=(if lx a c then c else a):=by
   by_cases h:lx a c
   · rw[zau h,zae (pX h)]
   · rw[zae h]
     rcases sZ.1 h with h1|h1
     · rw[zau h1]
     · rw[h1,zae (mM _)]
  have J:(if lx b d then b else d)=(if lx d b then d else b):=by
   by_cases h:lx d b
   · rw[zau h,zae (pX h)]
   · rw[zae h]
     rcases sZ.1 h with h1|h1
     · rw[zau h1]
     · rw[h1,zae (mM _)]
  rw[M,J];simp only[and_comm]
 have C:∀{a b c d:Rat},jQ c d a b↔jQ a b c d:=by intro a b c d;unfold jQ;grind
 unfold fH;have e:aK c d a b=aK a b c d:=D _ _ _ _ (zP5 a b) (zP5 c d);rw[e,C (a:=a.1) (b:=b.1) (c:=c.1) (d:=d.1),C (a:=a.2) (b:=b.2) (c:=c.2) (d:=d.2)];have h3:(orZ c d a=0/\orZ c d b=0/\orZ a b c=0/\orZ a b d=0)↔(orZ a b c=0/\orZ a b d=0/\orZ c d a=0/\orZ c d b=0):=by grind
 have H:(0<orZ c d a*orZ c d b\/0<orZ a b c*orZ a b d)↔(0<orZ a b c*orZ a b d\/0<orZ c d a*orZ c d b):=or_comm;have G:((orZ c d a=0\/orZ c d b=0)/\(orZ a b c=0\/orZ a b d=0))↔((orZ a b c=0\/orZ a b d=0)/\(orZ c d a=0\/orZ c d b=0)):=and_comm;simp only[h3,H,G]
def yFW(n:Int):Int:=if 0<n then 1 else if n<0 then -1 else 0
theorem t6(n:Int):yW (n:Rat)=yFW n:=by
 rw[pV];unfold yFW;have h0:((n:Rat)=0)↔n=0:=by
  have e:(0:Rat)=((0:Int):Rat):=I;rw[e,zre]
 have h1:((n:Rat)<0)↔n<0:=by
  have e:(0:Rat)=((0:Int):Rat):=I;rw[e,yce]
 simp only[h0,h1]
 split
 · rename_i h;subst h;simp
 · split
   · rw[zae zos]
   · rw[zau zos]
theorem sK(a b c:P2):-1<=orZ a b c/\orZ a b c<=1:=wB _
theorem zUE{a b:Pt}{i j:Nat}:pr a i j=pr b i j↔a.at i=b.at i/\a.at j=b.at j:=by unfold pr;rw[Prod.ext_iff]
theorem zLG{a b:Pt}{i j:Nat}:(wQ (a.at i) (b.at i)<0\/(wQ (a.at i) (b.at i)=0/\wQ (a.at j) (b.at j)<0))↔lx (pr a i j) (pr b i j):=by
 rw[bA,bX,bA];rfl
def loT(a b:Pt)(i j:Nat):Pt:=if lx (pr b i j) (pr a i j) then b else a
def hiT(a b:Pt)(i j:Nat):Pt:=if lx (pr b i j) (pr a i j) then a else b
def mxT(a c:Pt)(i j:Nat):Pt:=if lx (pr a i j) (pr c i j) then c else a
def mnT(b d:Pt)(i j:Nat):Pt:=if lx (pr d i j) (pr b i j) then d else b
def gp(l:List Pt)(m:Nat):Pt:=l.getD m (T3.mk (0:Rat) 0 0)
def uG(l:List Pt)(i j:Nat):Nat->Rat
  |0=>0
  |m+1=>uG l i j m+((gp l m).at i*(gp l ((m+1)%l.length)).at j-(gp l ((m+1)%l.length)).at i*(gp l m).at j)
theorem zXX(a b c:Pt):yW (uG [a,b,c] 0 1 3)=orZ (pr a 0 1) (pr b 0 1) (pr c 0 1):=by
 have:uG [a,b,c] 0 1 3=cr (pr a 0 1) (pr b 0 1) (pr c 0 1):=by
  simp[uG,gp,pr,cr,T3.at];grind
 unfold orZ;rw[this]
def eW(a b p:P2):Prop:=¬(a.2<=p.2↔b.2<=p.2)/\((a.2<=p.2/\0<orZ a b p)\/(b.2<=p.2/\orZ a b p<0))
def kQ(l:List Pt)(i j m:Nat):P2:=pr (gp l m) i j
def kP(l:List Pt)(i j m:Nat):P2:=pr (gp l ((m+1)%l.length)) i j
def cO(l:List Pt)(p:P2)(i j:Nat):Nat->Prop
  |0=>False
  |m+1=>(eW (kQ l i j m) (kP l i j m) p/\¬cO l p i j m)\/(¬eW (kQ l i j m) (kP l i j m) p/\cO l p i j m)
def w8(l:List Pt)(p:P2)(i j:Nat):Int:=
 if ∃m,m<l.length/\onS (kQ l i j m) (kP l i j m) p then 0 else if cO l p i j l.length then 1 else -1
theorem yD7{l:List Pt}{p:P2}{i j m:Nat}(hm:m<l.length)(h:onS (kQ l i j m) (kP l i j m) p):0=w8 l p i j:=(zau ⟨m,hm,h⟩).symm
theorem yD8{l:List Pt}{p:P2}{i j n:Nat}(hn:¬n<l.length)(hn2:n<=l.length)(h:∀q,q<n->¬onS (kQ l i j q) (kP l i j q) p)(ho:cO l p i j n):1=w8 l p i j:=by
 have e:n=l.length:=by omega
 subst e;unfold w8;rw[zae (λ⟨m,D,C⟩=>h m D C),zau ho]
theorem zZL{l:List Pt}{p:P2}{i j n:Nat}(hn:¬n<l.length)(hn2:n<=l.length)(h:∀q,q<n->¬onS (kQ l i j q) (kP l i j q) p)(ho:¬cO l p i j n):-1=w8 l p i j:=by
 have e:n=l.length:=by omega
 subst e;unfold w8;rw[zae (λ⟨m,D,C⟩=>h m D C),zae ho]
theorem zPL{l:List Pt}{p:P2}{i j n:Nat}(h:∀q,q<n->¬onS (kQ l i j q) (kP l i j q) p)(h1:¬onS (kQ l i j n) (kP l i j n) p):∀q,q<n+1->¬onS (kQ l i j q) (kP l i j q) p:=λq hq=>by
 rcases zpi.1 hq with h2|h2
 · exact h q h2
 · subst h2;exact h1
theorem yD1{a b:Pt}(h:¬wQ a.x b.x=0):wQ a.x b.x<0↔lx (pr a 0 1) (pr b 0 1):=by
 have h2:=zLG (a:=a) (b:=b) (i:=0) (j:=1);rw[<-h2];exact⟨.inl,λe=>e.elim id λe=>absurd e.1 h⟩
theorem yD0{a b:Pt}(h:¬¬wQ a.x b.x=0):wQ a.y b.y<0↔lx (pr a 0 1) (pr b 0 1):=by
 have h1:=zdi h;have h2:=zLG (a:=a) (b:=b) (i:=0) (j:=1);rw[<-h2];exact⟨λe=>.inr ⟨h1,e⟩,λe=>e.elim (λe=>absurd h1 (by have:wQ a.x b.x<0:=e;omega)) λe=>e.2⟩
theorem zMZ(a b:Pt)(i j:Nat):pr (loT a b i j) i j=lo2 (pr a i j) (pr b i j):=zH6 _ _ _ _
theorem zM0(a b:Pt)(i j:Nat):pr (hiT a b i j) i j=hi2 (pr a i j) (pr b i j):=zH6 _ _ _ _
theorem yDE{a b p:Pt}{i j:Nat}:(orZ (pr (loT a b i j) i j) (pr (hiT a b i j) i j) (pr p i j)=0/\¬lx (pr p i j) (pr (loT a b i j) i j)/\¬lx (pr (hiT a b i j) i j) (pr p i j))↔onS (pr a i j) (pr b i j) (pr p i j):=by
 rw[zMZ,zM0,<-zYY,zAC,zAC];unfold lo2 hi2
 split
 · rw[mX]
   grind
 · exact Iff.rfl
def zEZ(a b c d lo hi:Pt):Int:=
 if lx (pr hi 0 1) (pr lo 0 1) then 0 else if ¬pr lo 0 1=pr hi 0 1 then 3
 else if(((pr lo 0 1=pr a 0 1\/pr lo 0 1=pr b 0 1)/\(pr lo 0 1=pr c 0 1\/pr lo 0 1=pr d 0 1))/\onS (pr a 0 1) (pr b 0 1) (pr lo 0 1))/\onS (pr c 0 1) (pr d 0 1) (pr lo 0 1) then 1
 else if onS (pr a 0 1) (pr b 0 1) (pr lo 0 1)/\onS (pr c 0 1) (pr d 0 1) (pr lo 0 1) then 2 else 0
theorem zEY{a b c d lo hi:Pt}(h1:lo=mxT a c 0 1)(h2:hi=mnT b d 0 1):zEZ a b c d lo hi=zCM (pr a 0 1) (pr b 0 1) (pr c 0 1) (pr d 0 1):=by
 have D:pr lo 0 1=if lx (pr a 0 1) (pr c 0 1) then pr c 0 1 else pr a 0 1:=by rw[h1];exact zH6 _ _ _ _
 have C:pr hi 0 1=if lx (pr d 0 1) (pr b 0 1) then pr d 0 1 else pr b 0 1:=by rw[h2];exact zH6 _ _ _ _
 unfold zEZ zCM;rw[D,C];simp only[and_assoc,ne_eq]
def dU(a b c d:Pt):Int:=
 if((orZ (pr a 0 1) (pr b 0 1) (pr c 0 1)=0/\orZ (pr a 0 1) (pr b 0 1) (pr d 0 1)=0)/\orZ (pr c 0 1) (pr d 0 1) (pr a 0 1)=0)/\orZ (pr c 0 1) (pr d 0 1) (pr b 0 1)=0 then zCM (pr a 0 1) (pr b 0 1) (pr c 0 1) (pr d 0 1)
 else if pr a 0 1=pr b 0 1\/pr c 0 1=pr d 0 1 then iF (pr a 0 1) (pr b 0 1) (pr c 0 1) (pr d 0 1)
 else if 0<orZ (pr a 0 1) (pr b 0 1) (pr c 0 1)*orZ (pr a 0 1) (pr b 0 1) (pr d 0 1)\/0<orZ (pr c 0 1) (pr d 0 1) (pr a 0 1)*orZ (pr c 0 1) (pr d 0 1) (pr b 0 1) then 0
 else if((pr a 0 1=pr c 0 1\/pr a 0 1=pr d 0 1)\/pr b 0 1=pr c 0 1)\/pr b 0 1=pr d 0 1 then 1 else 2
theorem j4{a b c d A B C D:Pt}(h1:A=loT (T3.mk a.x a.y 0) (T3.mk b.x b.y 0) 0 1)(h2:B=hiT (T3.mk a.x a.y 0) (T3.mk b.x b.y 0) 0 1)(h3:C=loT (T3.mk c.x c.y 0) (T3.mk d.x d.y 0) 0 1)(h4:D=hiT (T3.mk c.x c.y 0) (T3.mk d.x d.y 0) 0 1):
 dU A B C D=mA (pr a 0 1) (pr b 0 1) (pr c 0 1) (pr d 0 1):=by
 have M:pr A 0 1=lo2 (pr a 0 1) (pr b 0 1):=by rw[h1];exact zMZ _ _ _ _
 have J:pr B 0 1=hi2 (pr a 0 1) (pr b 0 1):=by rw[h2];exact zM0 _ _ _ _
 have H:pr C 0 1=lo2 (pr c 0 1) (pr d 0 1):=by rw[h3];exact zMZ _ _ _ _
 have G:pr D 0 1=hi2 (pr c 0 1) (pr d 0 1):=by rw[h4];exact zM0 _ _ _ _
 unfold dU mA zHT;rw[M,J,H,G];simp only[and_assoc,or_assoc]
end Bk
namespace Bk
open Classical
def zA7(a b:Pt):Pt:=if 0<wQ a.y b.y then b else a
def zCQ(a b:Pt):Pt:=if 0<wQ a.y b.y then a else b
theorem zFF(a b p:Pt):((wQ (zA7 a b).y p.y<=0/\wQ p.y (zCQ a b).y<0)/\0<orZ (pr (zA7 a b) 0 1) (pr (zCQ a b) 0 1) (pr p 0 1))↔eW (pr a 0 1) (pr b 0 1) (pr p 0 1):=by
 unfold zA7 zCQ eW;rw[zOR,bA];have H:(pr a 0 1).2=a.y:=I;have G:(pr b 0 1).2=b.y:=I;have D:(pr p 0 1).2=p.y:=I;rw[H,G,D]
 by_cases h:0<wQ a.y b.y
 · have h1:=eX.1 h
   rw[zau h,zau h,zAB (pr a 0 1) (pr b 0 1)];constructor
   · rintro⟨⟨h2,h3⟩,C⟩
     exact⟨λe=>by grind,.inr ⟨h2,by omega⟩⟩
   · rintro⟨h2,h3|h3⟩
     · exact absurd ⟨λ_=>by grind,λ_=>h3.1⟩ h2
     · exact⟨⟨h3.1,by grind⟩,by omega⟩
 · have h1:¬b.y<a.y:=λe=>h (eX.2 e)
   rw[zae h,zae h];constructor
   · rintro⟨⟨h2,h3⟩,C⟩
     exact⟨λe=>by grind,.inl ⟨h2,C⟩⟩
   · rintro⟨h2,h3|h3⟩
     · exact⟨⟨h3.1,by grind⟩,h3.2⟩
     · exact absurd ⟨λ_=>h3.1,λ_=>by grind⟩ h2
theorem yDF{l:List Pt}{p:P2}{i j n:Nat}(h:eW (kQ l i j n) (kP l i j n) p):(¬cO l p i j n)=cO l p i j (n+1):=by
 show _=(_\/_)
 simp[h]
theorem zY0{l:List Pt}{p:P2}{i j n:Nat}(h:¬eW (kQ l i j n) (kP l i j n) p):cO l p i j n=cO l p i j (n+1):=by
 show _=(_\/_)
 simp[h]
def yBE(L:List (List Pt))(p:P2)(i j:Nat):Nat->Int
  |0=>-1
  |m+1=>if w8 (L.getD m []) p i j=1 then -(yBE L p i j m) else yBE L p i j m
def whZ(L:List (List Pt))(p:P2)(i j:Nat):Int:=if ∃m,m<L.length/\w8 (L.getD m []) p i j=0 then 0 else yBE L p i j L.length
def zPH(R:Nat->Nat->Prop)(n a:Nat):Prop:=∀p q,p<a->p<q->q<n->R p q
def yGQ(l:List Pt)(i j p q:Nat):Prop:=¬pr (gp l p) i j=pr (gp l q) i j
def zGB(n p q:Nat):Int:=if q=p+1\/(p=0/\q+1=n) then 1 else 0
def okT(l:List Pt)(i j p q:Nat):Prop:=fH (kQ l i j p) (kP l i j p) (kQ l i j q) (kP l i j q)=zGB l.length p q
def bG(l:List Pt)(i j:Nat):Prop:=3<=l.length/\zPH (yGQ l i j) l.length l.length/\zPH (okT l i j) l.length l.length
theorem yBF{n p q:Nat}(h:q=p+1\/(p=0/\q+1=n)):(1:Int)=zGB n p q:=(zau h).symm
theorem yBG{n p q:Nat}(h:¬(q=p+1\/(p=0/\q+1=n))):(0:Int)=zGB n p q:=(zae h).symm
def dR(a b:List Pt)(i j p q:Nat):Prop:=1<fH (kQ a i j p) (kP a i j p) (kQ b i j q) (kP b i j q)
def gA(a b:List Pt)(i j:Nat):Prop:=∃p q,p<a.length/\q<b.length/\dR a b i j p q
theorem zT1{Q:Nat->Nat->Prop}{p q n:Nat}(h:∀v,v<q->¬Q p v)(h1:¬Q p q):∀v,v<q+1->¬Q p v:=λv hv=>by
 rcases zpi.1 hv with h2|h2
 · exact h v h2
 · subst h2;exact h1
theorem qA{Q:Nat->Prop}{q:Nat}(h:∀v,v<q->Q v)(h1:Q q):∀v,v<q+1->Q v:=λv hv=>by
 rcases zpi.1 hv with h2|h2
 · exact h v h2
 · subst h2;exact h1
theorem zRE{Q:Nat->Nat->Prop}{p q n:Nat}(h:∀u v,u<p->v<n->¬Q u v)(h1:∀v,v<q->¬Q p v)(hq:n<=q):∀u v,u<p+1->v<n->¬Q u v:=λu v hu hv=>by
 rcases zpi.1 hu with h2|h2
 · exact h u v h2 hv
 · subst h2;exact h1 v zos
theorem zSZ{Q:Nat->Nat->Prop}{p q:Nat}(h:∀u v,v<p->u<v->¬Q u v)(h1:∀u,u<q->¬Q u p)(hq:p<=q):∀u v,v<p+1->u<v->¬Q u v:=λu v hv hu=>by
 rcases zpi.1 hv with h2|h2
 · exact h u v h2 hu
 · subst h2;exact h1 u zos
def zN6(u v:P2):P2:=(zBS u.1 v.1,zBS u.2 v.2)
def rO(c l:List Pt)(i j:Nat):Nat->Int
  |0=>0
  |m+1=>if w8 c (zN6 (kQ l i j m) (kP l i j m)) i j=1 then rO c l i j m+1 else rO c l i j m
theorem nY(c l:List Pt)(i j:Nat):∀m,0<=rO c l i j m/\rO c l i j m<=m
  |0=>by unfold rO;omega
  |m+1=>by
   have h:=nY c l i j m;unfold rO
   split<;>omega
theorem yBC{c l:List Pt}{i j m:Nat}{p:P2}(hp:p=zN6 (kQ l i j m) (kP l i j m))(h:w8 c p i j=1):rO c l i j m+1=rO c l i j (m+1):=by subst hp;exact(zau h).symm
theorem yBD{c l:List Pt}{i j m:Nat}{p:P2}(hp:p=zN6 (kQ l i j m) (kP l i j m))(h:¬w8 c p i j=1):rO c l i j m=rO c l i j (m+1):=by subst hp;exact(zae h).symm
def arZ(l:List Pt)(i j:Nat):Rat:=uG l i j l.length
def wiZ(c l:List Pt)(i j:Nat):Int:=rO c l i j l.length
abbrev gl(L:List (List Pt))(m:Nat):List Pt:=L.getD m []
def yGV(L:List (List Pt))(i j k m:Nat)(best:Int):Prop:=
 (0<yW (arZ (gl L m) i j)/\wiZ (gl L m) (gl L k) i j=↑(gl L k).length)/\(best<0\/wQ (arZ (gl L m) i j) (arZ (gl L best.toNat) i j)<0)
def tD(L:List (List Pt))(i j k:Nat):Nat->Int
  |0=>-1
  |m+1=>if yGV L i j k m (tD L i j k m) then ↑m else tD L i j k m
theorem zBL(L:List (List Pt))(i j k:Nat):∀m,-1<=tD L i j k m/\tD L i j k m<m
  |0=>by unfold tD;omega
  |m+1=>by
   have h:=zBL L i j k m;unfold tD
   split<;>omega
def pZ(L:List (List Pt))(i j k:Nat):Int:=if 0<yW (arZ (gl L k) i j) then -1 else tD L i j k L.length
def zBE(L:List (List Pt))(i j a b:Nat):Prop:=((¬b=a/\0<=pZ L i j a)/\pZ L i j b=pZ L i j a)/\0<wiZ (gl L b) (gl L a) i j
def oG(L:List (List Pt))(i j k:Nat):Prop:=¬0<yW (arZ (gl L k) i j)/\tD L i j k L.length<0
def vS(L:List (List Pt))(i j:Nat):Int:=
 if 16<L.length\/∃m,m<L.length/\64<(gl L m).length then 2
 else if ∃m,m<L.length/\¬bG (gl L m) i j then 8
 else if ∃a b,a<b/\b<L.length/\gA (gl L a) (gl L b) i j then 32
 else if(∃k,k<L.length/\oG L i j k)\/∃a b,a<L.length/\b<L.length/\zBE L i j a b then 33 else 0
def tK(L:List (List Pt))(i j:Nat):List Int:=if vS L i j=0 then(List.range L.length).map (pZ L i j) else[]
theorem zIV{L:List (List Pt)}{i j:Nat}(h:16<L.length\/∃m,m<L.length/\64<(gl L m).length):vS L i j=2/\tK L i j=[]:=by
 have e:vS L i j=2:=zau h;exact⟨e,zae (by rw[e];decide)⟩
theorem zU7{L:List (List Pt)}{i j:Nat}(h1:¬16<L.length)(h2:∀m,m<L.length->¬64<(gl L m).length)(h:∃m,m<L.length/\¬bG (gl L m) i j):vS L i j=8/\tK L i j=[]:=by
 have e:vS L i j=8:=by
  unfold vS;rw[zae (by rintro(h|⟨m,C,h⟩);exact h1 h;exact h2 m C h),zau h]
 exact⟨e,zae (by rw[e];decide)⟩
theorem zPP{L:List (List Pt)}{i j:Nat}(h1:¬16<L.length)(h2:∀m,m<L.length->¬64<(gl L m).length)(h3:∀m,m<L.length->bG (gl L m) i j)(h:∃a b,a<b/\b<L.length/\gA (gl L a) (gl L b) i j):vS L i j=32/\tK L i j=[]:=by
 have e:vS L i j=32:=by
  unfold vS;rw[zae (by rintro(h|⟨m,C,h⟩);exact h1 h;exact h2 m C h),zae (by rintro⟨m,C,h⟩;exact h (h3 m C)),zau h]
 exact⟨e,zae (by rw[e];decide)⟩
theorem zC6{L:List (List Pt)}{i j:Nat}(h1:¬16<L.length)(h2:∀m,m<L.length->¬64<(gl L m).length)(h3:∀m,m<L.length->bG (gl L m) i j)(h4:∀a b,b<L.length->a<b->¬gA (gl L a) (gl L b) i j)
    (h:(∃k,k<L.length/\oG L i j k)\/∃a b,a<L.length/\b<L.length/\zBE L i j a b):vS L i j=33/\tK L i j=[]:=by
 have e:vS L i j=33:=by
  unfold vS;rw[zae (by rintro(h|⟨m,C,h⟩);exact h1 h;exact h2 m C h),zae (by rintro⟨m,C,h⟩;exact h (h3 m C)),zae (by rintro⟨a,b,D,hb,h⟩;exact h4 a b hb D h),zau h]
 exact⟨e,zae (by rw[e];decide)⟩
theorem zVT{O:List Int}{n:Nat}{f:Nat->Int}(hl:O.length=n)(h:∀q,q<n->O.getD q 0=f q):O=(List.range n).map f:=by
 refine yre (by simp[hl]) λq h1 h2=>?_;have h3:=h q zos;rw[zoa,zoc h1] at h3;simp only[Option.getD_some] at h3;simp[h3]
theorem zU8{L:List (List Pt)}{i j:Nat}{O:List Int}(h1:¬16<L.length)(h2:∀m,m<L.length->¬64<(gl L m).length)(h3:∀m,m<L.length->bG (gl L m) i j)(h4:∀a b,b<L.length->a<b->¬gA (gl L a) (gl L b) i j)
    (h5:∀k,k<L.length->¬oG L i j k)(h6:∀a b,a<L.length->b<L.length->¬zBE L i j a b)(hl:O.length=L.length)(hO:∀q,q<L.length->O.getD q 0=pZ L i j q):vS L i j=0/\tK L i j=O:=by
 have e:vS L i j=0:=by
  unfold vS;rw[zae (by rintro(h|⟨m,C,h⟩);exact h1 h;exact h2 m C h),zae (by rintro⟨m,C,h⟩;exact h (h3 m C)),zae (by rintro⟨a,b,D,hb,h⟩;exact h4 a b hb D h),
   zae (by rintro(⟨k,G,h⟩|⟨a,b,D,hb,h⟩);exact h5 k G h;exact h6 a b D hb h)]
 exact⟨e,by unfold tK;rw[zau e];exact(zVT hl hO).symm⟩
theorem zV9{α:Type}{l:List α}{k q:Nat}{x d:α}(hk:k<l.length):(l.set k x).getD q d=if q=k then x else l.getD q d:=by
 rw[zoa,zoa,ypu]
 by_cases h:k=q
 · rw[zau h,zau hk,zau h.symm];rfl
 · rw[zae h,zae (λe=>h e.symm)]
theorem zJ0{α:Type}{l:List α}{k:Nat}{x d:α}{f:Nat->α}(hk:k<l.length)(h:∀q,q<k->l.getD q d=f q)(hx:x=f k):∀q,q<k+1->(l.set k x).getD q d=f q:=λq hq=>by
 rw[zV9 hk]
 split
 · rename_i e;rw[e,hx]
 · exact h q zos
end Bk
namespace Bk
open Classical
open Go Go.RowKit
def kD:Rp (List Nat) where
 n:=1
 agg:=false
 R _ cs s:=cs=[.string (qD s)]/\ByB s
 len:=by rintro h cs s ⟨rfl,_⟩;rfl
 mono:=λ_ r=>r
 one:=by rintro h cs s ⟨rfl,_⟩;rfl
 cell:=λ_=>rfl
theorem pS{h:Mem}{s:List Nat}(hb:ByB s):kD.Is h (.string (qD s)) s:=⟨_,⟨rfl,hb⟩,rfl⟩
theorem jW{h:Mem}{v:Value}{s:List Nat}(r:kD.Is h v s):v=.string (qD s)/\ByB s:=by
 obtain⟨cs,⟨rfl,hb⟩,rfl⟩:=r;exact⟨I,hb⟩
theorem kB{h:Mem}:kD.R h [.string ⟨#[]⟩] []:=⟨rfl,ByB.nil⟩
def lsN:List Nat->List Nat->Prop
  |[],[]=>False
  |[],_::_=>True
  |_::_,[]=>False
  |x::a,y::b=>if x=y then lsN a b else x<y
def rpV:Rp Value where
 n:=1
 agg:=false
 R _ cs v:=cs=[v]/\v.oneCell'=true
 len:=by rintro h cs v ⟨rfl,_⟩;rfl
 mono:=λ_ r=>r
 one:=by rintro h cs v ⟨rfl,hv⟩;simp[hv]
 cell:=λ_=>rfl
theorem zBX{h:Mem}{v:Value}(hv:v.oneCell'=true):rpV.Is h v v:=⟨_,⟨rfl,hv⟩,rfl⟩
theorem of_v{h:Mem}{u v:Value}(r:rpV.Is h u v):v=u:=by
 obtain⟨cs,⟨rfl,C⟩,rfl⟩:=r
 rfl
theorem sR{h:Mem}:rpV.R h [.slice none 0 0] (.slice none 0 0):=⟨rfl,rfl⟩
section
variable {α β γ δ:Type}{h:Mem}
theorem zTT{ρ:Rp α}{v:Value}{xs:List α}(r:(rpS ρ).Is h v xs):(rpS ρ).R h [v] xs:=by
 obtain⟨cs,⟨u,ds,rfl,s,C⟩,rfl⟩:=r;exact⟨_,ds,I,s,C⟩
theorem zFS{π:Rp α}{ρ:Rp β}{τ:Rp γ}{cs:List Value}{p:α}{v:Value}{s:γ}{xs:List β}(r:(rpP π (rpP rpV τ)).R h cs (p,(v,s)))(k:(rpS ρ).Is h v xs):(rpP π (rpP (rpS ρ) τ)).R h cs (p,(xs,s)):=by
 obtain⟨a,b,e,G,c,d,H,⟨D,_⟩,C⟩:=r;exact⟨a,b,e,G,c,d,H,by rw[show c=[v] from D];exact zTT k,C⟩
theorem yFM{ρ:Rp β}{τ:Rp γ}{cs:List Value}{v:Value}{s:γ}{xs:List β}(r:(rpP rpV τ).R h cs (v,s))(k:(rpS ρ).Is h v xs):(rpP (rpS ρ) τ).R h cs (xs,s):=by
 obtain⟨c,d,G,⟨D,_⟩,C⟩:=r;exact⟨c,d,G,by rw[show c=[v] from D];exact zTT k,C⟩
end
section
variable {P:Program}{n:Nat}{w0:World}{h0:Mem}{e:List (Nat×Value)}{L:List Res}{h:Mem}
theorem yEF{E k m:Nat}{v:Value}{cs:List Value}{base:Nat}{w:World}(hok:(Res.gs E k v m cs).ok base w):v.oneCell'=true:=by
 obtain⟨_,C⟩:=hok
 rcases C with⟨rfl,_⟩|⟨g,cap,cur,rfl,_⟩<;>rfl
theorem uW{o:Oper}{A B:List Res}{r:Res}{E k m:Nat}{G:List Value->Prop}(hv:zCP P n w0 h0 o e A r B h (λu r'=>∃cs',r'=.gs E k u m cs'/\G cs')):zCP P n w0 h0 o e A r B h (λu r'=>u.oneCell'=true/\∃cs',r'=.gs E k u m cs'/\G cs'):=by
 intro a w J S;obtain⟨v,C,r',h1,h2,h3,H,cs',rfl,D⟩:=hv a w J S;exact⟨v,C,_,h1,h2,h3,H,yEF h3,cs',I,D⟩
theorem bY{o:Oper}{R:List Res}{Z:Value}(hv:OpX P n w0 h0 o e R h (λu=>rpV.Is h u Z)):OpX P n w0 h0 o e R h (λu=>Z=u):=by
 obtain⟨v,a,b⟩:=hv;exact⟨v,a,of_v b⟩
end
section
variable {α β:Type}
def uD(g:Nat->α):Nat->List α
  |0=>[]
  |i+1=>uD g i++[g i]
def jY(g:Nat->List α):Nat->List α
  |0=>[]
  |i+1=>jY g i++g i
def pG(p:Nat->Prop)(g:Nat->α):Nat->List α
  |0=>[]
  |i+1=>pG p g i++(if p i then[g i] else[])
theorem s1{p:Nat->Prop}{g:Nat->α}{i:Nat}(h:p i):pG p g i++[g i]=pG p g (i+1):=by show _=_++_;rw[zau h]
theorem s2{p:Nat->Prop}{g:Nat->α}{i:Nat}(h:¬p i):pG p g i=pG p g (i+1):=by show _=_++_;rw[zae h,zli]
theorem zO9{p:Nat->Prop}{g:Nat->α}:∀n,pG p g n=[]↔∀i,i<n->¬p i
  |0=>⟨λ_ i h=>absurd h (yte i),λ_=>rfl⟩
  |n+1=>by
   show _++_=[]↔_
   rw[List.append_eq_nil_iff,zO9 n];constructor
   · rintro⟨h1,h2⟩ i hi
     rcases zpi.1 hi with h|h
     · exact h1 i h
     · subst h;intro e;rw[zau e] at h2;exact absurd h2 zo1
   · intro h
     exact⟨λi hi=>h i zos,zae (h n zos)⟩
theorem rQ(p:Nat->Prop)(g:Nat->α):∀n,(pG p g n).length<=n
  |0=>zbe _
  |n+1=>by
   have:=rQ p g n
   show List.length (_++_)<=_
   rw[lAz]
   split<;>simp<;>omega
theorem xH(g:Nat->α):∀n,(uD g n).length=n
  |0=>rfl
  |n+1=>by show List.length (_++_)=_;rw[lAz,xH g n];rfl
theorem kA(g:Nat->α)(d:α):∀{n i},i<n->(uD g n).getD i d=g i
  |0,i,h=>absurd h (yte i)
  |n+1,i,h=>by
   show(uD g n++[g n]).getD i d=_
   rcases zpi.1 h with h|h
   · rw[zoa,List.getElem?_append_left (by rw[xH];exact h),<-zoa];exact kA g d h
   · subst h
     rw[zoa,ymi (by rw[xH];exact zbe _),xH,ysu];rfl
theorem aS{g g':Nat->α}:∀n,(∀i,i<n->g i=g' i)->uD g n=uD g' n
  |0,_=>rfl
  |n+1,h=>by show _++_=_++_;rw[aS n λi hi=>h i zos,h n zos]
theorem zQX{l:List α}(d:α){i:Nat}(h:i<l.length):l.take (i+1)=l.take i++[l.getD i d]:=by
 rw[z2u h,zoa,zoc h];rfl
theorem zWA{L:List (List α)}{n:Nat}(h:∀x,x∈L->x.length<=n)(m:Nat):(L.getD m []).length<=n:=by
 rw[zoa]
 rcases ztu m L.length with h1|h1
 · rw[zoc h1];exact h _ (yfu h1)
 · rw[zsi h1];exact zqe _
theorem zC9{g:Nat->α}{x:α}:∀{n},x∈uD g n->∃i,i<n/\x=g i
  |0,h=>absurd h zgi
  |n+1,h=>by
   rcases zni.1 (show x∈uD g n++[g n] from h) with h|h
   · obtain⟨i,hi,e⟩:=zC9 h;exact⟨i,by omega,e⟩
   · exact⟨n,by omega,zne.1 h⟩
theorem eV{g:Nat->List α}{x:α}:∀{n},x∈jY g n->∃i,i<n/\x∈g i
  |0,h=>absurd h zgi
  |n+1,h=>by
   rcases zni.1 (show x∈jY g n++g n from h) with h|h
   · obtain⟨i,hi,e⟩:=eV h;exact⟨i,by omega,e⟩
   · exact⟨n,by omega,h⟩
theorem kO{l:List α}{d:α}{i:Nat}(h:i<l.length):l.getD i d∈l:=by
 rw[zoa,zoc h];exact yfu h
def bS(p:Nat->Prop):Nat->Nat
  |0=>0
  |k+1=>if p k then bS p k else k+1
theorem zOT{p:Nat->Prop}{k:Nat}(hk:0<k)(h:p (k-1)):bS p k=bS p (k-1):=by
 match k,hk with
 |k+1,_=>exact zau h
theorem zFJ{p:Nat->Prop}{k:Nat}(h:¬(0<k/\p (k-1))):bS p k=k:=by
 match k with
 |0=>rfl
 |k+1=>exact zae λe=>h ⟨by omega,e⟩
theorem zDH(p:Nat->Prop):∀k,bS p k<=k
  |0=>zbe _
  |k+1=>by
   have:=zDH p k;unfold bS
   split<;>omega
def eS(l:List α)(k:Nat)(x:α):List α:=l.take k++x::l.drop k
theorem zE3(l:List α){k:Nat}(x:α)(h:k<=l.length):(eS l k x).length=l.length+1:=by
 unfold eS;rw[lAz,lC,zei,zhe];omega
theorem zRC{n u:Nat}(h:u<n):(List.replicate n False).getD u False↔False:=by
 rw[zoa,List.getElem?_replicate,zau h];exact Iff.rfl
end
end Bk
namespace Bk
open Go Go.RowKit
section
variable {P:Program}{n:Nat}{w0:World}{h0:Mem}{e:List (Nat×Value)}{L:List Res}{h:Mem}{Q:Exit->Act->World->Prop}{ds:Option Tmp}{ty:TypeId}{ps:String}{af:Array Edge}{gd:Option (Nat×Bool)}{α:Type}
theorem zM6{ρ:Rp α}{xs:List α}{v:Value}{t E:TypeId}{x hu:Operand}{p:Int}(i:Nat)(ht:P.underlying t=some (.slice E))(hsz:∀w,(Go.sizeOf E).run P w=.ok ρ.n w)(hx:zJ e x=some v)(hl:zJ e hu=some (vI p))(r:(rpS ρ).Is h v xs)
    (hp:p=(i:Int))(hi:i<=xs.length):OpX P n w0 h0 ⟨ds,.slice t x none (some hu) none,ty,ps,af,gd⟩ e [] h (λu=>(rpS ρ).Is h u (xs.take i)):=by
 obtain⟨cs,s,C⟩:=zNI r;refine zUK (λL' h'=>z5 i ht hsz hx hl s.shape hp hi) ?_;have D:=s.sub (zqe i) hi;have G:=C.len;rw[zvi,ybu,yje] at D;exact zZK (by rw[zei,zri hi];exact D) (C.take i)
theorem zPV:∀(a b:List Nat),ByB a->ByB b->(Op.bytesLess (a.map UInt8.ofNat) (b.map UInt8.ofNat)=true↔lsN a b)
  |[],[],_,_=>by simp[Op.bytesLess,lsN]
  |[],y::b,_,_=>by simp[Op.bytesLess,lsN]
  |x::a,[],_,_=>by simp[Op.bytesLess,lsN]
  |x::a,y::b,ha,hb=>by
   have hx:x<256:=ha x (.head _);have hy:y<256:=hb y (.head _);have ih:=zPV a b (λz hz=>ha z (.tail _ hz)) (λz hz=>hb z (.tail _ hz));have e1:(UInt8.ofNat x<UInt8.ofNat y)↔x<y:=by
    rw[UInt8.lt_iff_toNat_lt,UInt8.toNat_ofNat',UInt8.toNat_ofNat',zoh (by simpa using hx),zoh (by simpa using hy)]
   have C:(UInt8.ofNat x=UInt8.ofNat y)↔x=y:=by
    rw[<-UInt8.toNat_inj,UInt8.toNat_ofNat',UInt8.toNat_ofNat',zoh (by simpa using hx),zoh (by simpa using hy)]
   show((decide (UInt8.ofNat x<UInt8.ofNat y)||(UInt8.ofNat x==UInt8.ofNat y&&Op.bytesLess _ _))=true)↔(if x=y then lsN a b else x<y)
   rw[zwe,zbu,zge,beq_iff_eq,e1,C,ih]
   split
   · rename_i hxy;subst hxy;exact⟨λh=>h.elim (λh=>absurd h (Nat.lt_irrefl _)) λh=>h.2,λh=>.inr ⟨I,h⟩⟩
   · rename_i hxy;exact⟨λh=>h.elim id λh=>absurd h.1 hxy,.inl⟩
theorem zUO{pa pb:List Nat}{t yt:TypeId}{x y:Operand}(ha:ByB pa)(hb:ByB pb)(hx:zJ e x=some (.string (qD pa)))(hy:zJ e y=some (.string (qD pb))):OpV P n w0 h0 ⟨ds,.binOp .lss t x y yt,ty,ps,af,gd⟩ e L h (vB (lsN pa pb)):=by
 have C:Op.bytesLess (qD pa).toList (qD pb).toList=true↔lsN pa pb:=by
  rw[ByteArray.toList_eq,ByteArray.toList_eq];exact zPV pa pb ha hb
 have G:vB (lsN pa pb)=.bool (Op.bytesLess (qD pa).toList (qD pb).toList):=by
  by_cases hp:lsN pa pb
  · rw[xR hp,C.2 hp]
  · rw[yV hp,Bool.eq_false_iff.2 λe=>hp (C.1 e)]
 rw[G];intro a w D S;simp only[execOp,D.eval hx,D.eval hy,binOp];simp[eqGuard,Op.stringOp]
theorem aE{A B:List Res}{E k m:Nat}{v:Value}{cs:List Value}{c:Code}(hm:0<m)(g:∀b cap,v=.slice (some ⟨b,0,none⟩) m cap->m<=cap->GC P n w0 h0 c Q e (A++.gs E k v m cs::B) h):GC P n w0 h0 c Q e (A++.gs E k v m cs::B) h:=by
 intro a w D S;obtain⟨_,C⟩:w.ownsRow w0.heap.size E k v m cs:=S.ok (.gs E k v m cs) zo1
 rcases C with⟨_,h0⟩|⟨b,cap,cur,hv,_,_,hc,_⟩
 · omega
 · exact g b cap hv hc a w D S
theorem gG{fn:Func}{v:Value}{L':List Res}{RO:Mem->Value->List Res->Prop}(hs:L'.Sublist L)(hres:∀{a:Act} {w:World},Env n e a->St w0 h0 L h w->(results fn a.tmps).run P w=.ok v w)(hR:RO h v L'):GQ n w0 h0 (bodyPost P fn (rG w0 h0 RO)) .ret e L h:=by
 intro a w E S;exact bodyPost_ret (hres E S) E.defers ⟨_,h,L',I,hR,S.sublist hs⟩
def tG(xs:List α)(i:Nat):List α:=xs.take (i+1)++(xs.drop i).take (xs.length-i-1)
theorem gQ{xs:List α}{i:Nat}(h:i<xs.length):(tG xs i).length=xs.length:=by
 unfold tG;rw[lAz,zei,zei,zhe];omega
theorem zTG{ρ:Rp α}{cs:List Value}{xs:List α}{i:Nat}(hi:i<xs.length)(r:RL ρ h cs xs):RL ρ h (dD cs ((i+1)*ρ.n) ((cs.drop (i*ρ.n)).take ((xs.length-i-1)*ρ.n))) (tG xs i):=by
 have D:=r.len;have h1:=(r.drop i).take (xs.length-i-1);have h2:=r.take (i+1);have H:xs.length*ρ.n=(i+1)*ρ.n+(xs.length-i-1)*ρ.n:=by rw[<-z1e];congr 1;omega
 have G:(i+1)*ρ.n=i*ρ.n+ρ.n:=yfe _ _;have C:((cs.drop (i*ρ.n)).take ((xs.length-i-1)*ρ.n)).length=(xs.length-i-1)*ρ.n:=by rw[zei,zhe];omega
 rw[zD5 _ _ _ zos,C,show cs.drop ((i+1)*ρ.n+(xs.length-i-1)*ρ.n)=[] from zle zos,zli];exact h2.append h1
theorem lL{l:List α}{z x:α}{k:Nat}(h:k<=l.length):(tG (l++[z]) k).set k x=eS l k x:=by
 unfold tG eS;have G:(l++[z]).length-k-1=l.length-k:=by rw[lAz,zju];omega
 have D:((l++[z]).drop k).take (l.length-k)=l.drop k:=by
  rw[yju h,yae (by rw[zhe];omega),zwu (by rw[zhe];omega)]
 have C:k<(l++[z]).length:=by rw[lAz,zju];omega
 rw[G,D,z2u C,zii,yki _ _ (by rw[zei];omega),zei,show k-min k (l++[z]).length=0 by omega];rw[yae h]
 rfl
theorem lP{A B:List Res}{t E b cap:Nat}{v:Value}{cs:List Value}{x y:Operand}{ρ:Rp α}{xs:List α}(i:Nat)(hv:v=.slice (some ⟨b,0,none⟩) xs.length cap)(hmc:xs.length<=cap)(ht:P.underlying t=some (.slice E))(hsz:∀w,(Go.sizeOf E).run P w=.ok ρ.n w)
    (hx:zJ e x=some (fF ρ.n v (i+1) xs.length))(hy:zJ e y=some (fF ρ.n v i xs.length))(hi:i<xs.length)(r:RL ρ h cs xs):
    zCP P n w0 h0 ⟨ds,.call {callee:=.builtin .copy,args:=#[x,y],argTypes:=#[t,t]},ty,ps,af,gd⟩ e A (.gs E ρ.n v xs.length cs) B h (λu r'=>∃cs',r'=.gs E ρ.n v (tG xs i).length cs'/\RL ρ h cs' (tG xs i)):=by
 intro a w Z S;have D:w.ownsRow w0.heap.size E ρ.n v xs.length cs:=S.ok (.gs E ρ.n v xs.length cs) zo1;have ae:=D.1;subst hv;have ac:=zTG hi r;have e1:xs.length*ρ.n=(i+1)*ρ.n+(xs.length-i-1)*ρ.n:=by rw[<-z1e];congr 1;omega
 have e2:(i+1)*ρ.n=i*ρ.n+ρ.n:=yfe _ _;have J:((cs.drop (i*ρ.n)).take ((xs.length-i-1)*ρ.n)).length=(xs.length-i-1)*ρ.n:=by rw[zei,zhe];omega
 have M:∀j u,((cs.drop (i*ρ.n)).take ((xs.length-i-1)*ρ.n))[j]?=some u->cs[i*ρ.n+j]?=some u:=λj u G=>by
  rw[zmu] at G
  split at G
  · rwa [zwi] at G
  · cases G
 have U:∀u∈(cs.drop (i*ρ.n)).take ((xs.length-i-1)*ρ.n),u.oneCell'=true:=λu hu=>zob.1 r.one u (z5i (zve hu));generalize (cs.drop (i*ρ.n)).take ((xs.length-i-1)*ρ.n)=vs at *;obtain⟨h1,h2⟩:=lE vs ((i+1)*ρ.n) cs w D;have ab:=gQ (xs:=xs) hi;have C:(loadCells ⟨b,i*ρ.n,none⟩ ((xs.length-i-1)*ρ.n)).run P w=.ok vs.toArray w:=by
  have:=run_loadCells_list (P:=P) (w:=w) ⟨b,i*ρ.n,none⟩ vs λj u G=>by
   have h3:=D.cellAt (i*ρ.n+j) (by have:=(zvu.1 (M j u G)).1;omega);rw[M j u G] at h3;rw[show(⟨b,i*ρ.n,none⟩:Addr).add j=⟨b,i*ρ.n+j,none⟩ from jL _ _ _];exact h3
  rwa [J] at this
 have O:=run_storeCells_cells (P:=P) b ((i+1)*ρ.n) vs 0 w (λj G=>by
  have h4:=D.cellAt ((i+1)*ρ.n+j) zos;rw[zoc zos] at h4;simp[h4]) (λj G=>by simpa using D.frozenAt ((i+1)*ρ.n+j)) U
 simp only[zmi] at O;refine⟨vI ↑(xs.length-i-1),w.setCells b ((i+1)*ρ.n) vs,.gs E ρ.n (.slice (some ⟨b,0,none⟩) xs.length cap) xs.length (dD cs ((i+1)*ρ.n) vs),?_,h2,h1,λb' hb=>.inl hb,_,by rw[ab],ac⟩;have H:Nat.min (xs.length-i) (xs.length-(i+1))=xs.length-i-1:=by show min _ _=_;omega
 have ad:¬cap=i:=by omega
 simp only[fF,ad,if_false,yme] at hx hy;rw[show(⟨b,0,none⟩:Addr).add (i*ρ.n)=⟨b,i*ρ.n,none⟩ by simp[jL]] at hy
 by_cases hc:cap=i+1
 · have hz:xs.length-i-1=0:=by omega
   have aa:vs=[]:=zof (by rw[J,hz,zvi]);subst aa;simp only[hc,if_true] at hx;rw[hz,zvi] at C;simp[execOp,resolve,invoke,builtin,Z.eval hx,Z.eval hy,Builtin.copy_,run_underlying ht,Builtin.lenOf,Builtin.firstCells,hsz,H,hz,C,storeCells,World.setCells,goInt,vI]
 · simp only[hc,if_false] at hx
   rw[show(⟨b,0,none⟩:Addr).add ((i+1)*ρ.n)=⟨b,(i+1)*ρ.n,none⟩ by simp[jL]] at hx;simp[execOp,resolve,invoke,builtin,Z.eval hx,Z.eval hy,Builtin.copy_,run_underlying ht,Builtin.lenOf,Builtin.firstCells,hsz,H,C,O,goInt,vI]
end
end Bk
namespace Bk
open Go Go.RowKit
open Classical
abbrev tII:Rp (List (List Int)):=rpS (rpS rpI)
abbrev tE5:Rp (Int×Int×Int×Int×Int):=rpP rpI (rpP rpI (rpP rpI (rpP rpI rpI)))
abbrev tPt(k:Nat):Rp (T3 Rat):=rpT (rpQ k)
abbrev tLs(k:Nat):Rp (List (T3 Rat)):=rpS (rpT (rpQ k))
abbrev tLL(k:Nat):Rp (List (List (T3 Rat))):=rpS (rpS (rpT (rpQ k)))
abbrev tPl(k l:Nat):Rp (T3 Rat×Rat):=rpP (rpT (rpQ k)) (rpQ l)
abbrev Tq:=T3 Rat
abbrev Pq:=T3 Rat×Rat
abbrev Sq:=List (T3 Rat)×List ((T3 Rat×Rat)×List (List Int)×List Nat)×List (Int×Int×Rat)
abbrev tFc(k l:Nat):Rp ((T3 Rat×Rat)×List (List Int)×List Nat):=rpP (rpP (rpT (rpQ k)) (rpQ l)) (rpP (rpS (rpS rpI)) kD)
abbrev tSd(k m n j:Nat):Rp Sq:=rpP (rpS (rpT (rpQ k))) (rpP (rpS (rpP (rpP (rpT (rpQ m)) (rpQ n)) (rpP (rpS (rpS rpI)) kD))) (rpS (rpP rpI (rpP rpI (rpQ j)))))
abbrev zZ(p:T3 Rat):T3 Rat:=T3.mk p.x p.y (0:Rat)
abbrev pU(PP:List (T3 Rat))(sB:Value)(j:Int):T3 Rat:=((PP,(sB,([]:List (Int×Int×Rat)))).1).getD j.toNat zT
abbrev nU(PP:List (T3 Rat))(sB:Value)(I:List Int)(q:Nat):T3 Rat:=T3.mk ((((PP,(sB,([]:List (Int×Int×Rat)))).1).getD ((I.getD ((q+1)%I.length) 0).toNat) zT).y-(((PP,(sB,([]:List (Int×Int×Rat)))).1).getD ((I.getD q 0).toNat) zT).y) (-((((PP,(sB,([]:List (Int×Int×Rat)))).1).getD ((I.getD ((q+1)%I.length) 0).toNat) zT).x-(((PP,(sB,([]:List (Int×Int×Rat)))).1).getD ((I.getD q 0).toNat) zT).x)) (0:Rat)
abbrev lU(I:List Int)(q:Nat)(BB:List (T3 Rat)):List Int:=[(I.getD q (0:Int)),(I.getD ((q+1)%I.length) (0:Int)),((I.getD ((q+1)%I.length) (0:Int))+(↑BB.length:Int)),((I.getD q (0:Int))+(↑BB.length:Int))]
abbrev e50:Int×Int×Int×Int×Int:=((0:Int),((0:Int),((0:Int),((0:Int),(0:Int)))))
theorem dK{R A B:List Res}{q:Res}(hR:∀r∈R,r∈A++B:=by first|(simp;done)|grind):∀r∈R,r∈A++q::B->r∈A++B:=zSF hR
theorem oM{p:Prop}(f:p:=by omega):p:=f
theorem dC{p:Prop}(f:p:=by decide):p:=f
theorem rP{p:Prop}(f:p:=by first|rfl|(push_cast;rfl)):p:=f
theorem nP{p:Prop}(f:p:=by exact zce I):p:=f
theorem bO{p:Prop}(f:p:=by first|omega|(simp only[lAz,lC,lN,lR,lS];omega)):p:=f
theorem mle{h h':Mem}(f:MLe h h':=by with_reducible repeat (first|exact MLe.refl _|assumption|refine MLe.trans ?_ zo3)):MLe h h':=f
theorem Rp.Is.up{α:Type}{ρ:Rp α}{h h':Mem}{v:Value}{x:α}(r:ρ.Is h v x)(hm:MLe h h':=by exact mle):ρ.Is h' v x:=r.mono hm
theorem Rp.R.up{α:Type}{ρ:Rp α}{h h':Mem}{cs:List Value}{x:α}(r:ρ.R h cs x)(hm:MLe h h':=by exact mle):ρ.R h' cs x:=Rp.mono ρ hm r
theorem RL.up{α:Type}{ρ:Rp α}{h h':Mem}{cs:List Value}{xs:List α}(r:RL ρ h cs xs)(hm:MLe h h':=by exact mle):RL ρ h' cs xs:=RL.mono hm r
theorem AtP.up{α:Type}{ρ:Rp α}{h h':Mem}{p:Value}{X:α}(r:AtP ρ h p X)(hm:MLe h h':=by exact mle):AtP ρ h' p X:=r.mono hm
theorem Us.up{k:IntKind}{h h':Mem}{v:Value}{xs:List Nat}(r:Us k h v xs)(hm:MLe h h':=by exact mle):Us k h' v xs:=r.mono hm
class Und(P:Program)(t:TypeId) where
 d:TypeDesc
 h:P.underlying t=some d
class Siz(P:Program)(t:TypeId) where
 k:Nat
 h:∀w,(Go.sizeOf t).run P w=.ok k w
class Agg(P:Program)(t:TypeId) where
 b:Bool
 h:∀w,(isAgg t).run P w=.ok b w
class Inf(P:Program)(t:TypeId) where
 k:Nat
 h:(P.info? t).map (·.size)=some k
theorem uu{P:Program}{t:TypeId}{d:TypeDesc}(f:P.underlying t=some d:=by exact Und.h):P.underlying t=some d:=f
theorem uz{P:Program}{t:TypeId}{k:Nat}(f:∀w,(Go.sizeOf t).run P w=.ok k w:=by exact Siz.h):∀w,(Go.sizeOf t).run P w=.ok k w:=f
theorem ua{P:Program}{t:TypeId}{k:Bool}(f:∀w,(isAgg t).run P w=.ok k w:=by exact Agg.h):∀w,(isAgg t).run P w=.ok k w:=f
theorem us_{P:Program}{t:TypeId}{k:Nat}(f:(P.info? t).map (·.size)=some k:=by exact Inf.h):(P.info? t).map (·.size)=some k:=f
section
variable {α β γ:Type}
variable {P:Program}{n:Nat}{w0:World}{h0:Mem}{e:List (Nat×Value)}{L:List Res}{h:Mem}{Q:Exit->Act->World->Prop}
variable {ds:Option Tmp}{ty:TypeId}{ps:String}{af:Array Edge}{gd:Option (Nat×Bool)}
variable {ops:Array Oper}{rest:List Oper}{RR:List Res}{al:Als}{d i:Nat}{op:Op}{v:Value}{r:List (Nat×Kd)}{g t:Nat}{b:Bool}
theorem xV{o:Oper}{R:List Res}{ρ:Rp α}{X Z:α}(hv:OpX P n w0 h0 o e R h (λu=>ρ.Is h u X))(hZ:X=Z:=by first|(dsimp only<;>exact I)|exact I):OpX P n w0 h0 o e R h (λu=>ρ.Is h u Z):=hZ▸hv
theorem mmx{L R:List Res}(f:∀r∈R,r∈L:=by first|exact zBT|exact sL mh0|exact sL mh1|exact sL mh2|exact sL mh3|exact sL mh4|exact sL mh5|exact sL mh6|exact sL mh7|exact sL (.tail _ mh7)|exact sL (.tail _ (.tail _ mh7))|exact sL (.tail _ (.tail _ (.tail _ mh7)))):∀r∈R,r∈L:=f
theorem lX{R:List Res}{F:Value->Prop}(hv:OpX P n w0 h0 ⟨some d,op,ty,ps,af,none⟩ e R h F)(k:∀v,F v->GL P n w0 h0 ops Q rest ((d,v)::e) L h)(hR:∀r∈R,r∈L:=by exact mmx)(hn:Nat.ble (d+1) n=true:=by exact I):GL P n w0 h0 ops Q (⟨some d,op,ty,ps,af,none⟩::rest) e L h:=zLK hv hR hn k
theorem wX{R:List Res}{F:Value->Prop}(ho:ops.getD i default=⟨some d,op,ty,ps,af,none⟩)(hv:OpX P n w0 h0 ⟨some d,op,ty,ps,af,none⟩ e R h F)(k:∀v,F v->W P n w0 h0 ops Q RR al r ((d,v)::e) L h)(hR:∀r∈R,r∈RR:=by exact mmx)(hn:Nat.ble (d+1) n=true:=by exact I):W P n w0 h0 ops Q RR al ((i,.q)::r) e L h:=lJ ho hv hR hn k
theorem xX{K:List (Nat×Value)->List Res->Mem->Prop}{R:List Res}{F:Value->Prop}(ho:ops.getD i default=⟨some d,op,ty,ps,af,none⟩)(hv:OpX P n w0 h0 ⟨some d,op,ty,ps,af,none⟩ e R h F)(k:∀v,F v->K ((d,v)::e) L h)(hR:∀r∈R,r∈RR:=by exact mmx)(hn:Nat.ble (d+1) n=true:=by exact I):SQ P n w0 h0 ops RR i e L h K:=x_qx ho hv hR hn k
theorem oX{R:List Res}{F:Value->Prop}(ho:ops.getD i default=⟨some d,op,ty,ps,af,some (g,b)⟩)(hv:OpX P n w0 h0 ⟨some d,op,ty,ps,af,none⟩ e R h F)(k:∀v,F v->W P n w0 h0 ops Q RR al r ((d,v)::e) L h)(ht:(ops[g]?).bind (·.dst)=some t:=by exact I)(he:e.lookup t=some (.bool b):=by exact I)(hR:∀r∈R,r∈RR:=by exact mmx)(hn:Nat.ble (d+1) n=true:=by exact I):W P n w0 h0 ops Q RR al ((i,.q)::r) e L h:=aL ho ht he hv hR hn k
theorem sX{W':List (Nat×Value)->List Res->Mem->Prop}{R:List Res}{F:Value->Prop}(hv:OpX P n w0 h0 ⟨some d,op,ty,ps,af,none⟩ e R h F)(k:∀v,F v->W' ((d,v)::e) L h)(hR:∀r∈R,r∈L:=by exact mmx)(hn:Nat.ble (d+1) n=true:=by exact I):jF P n w0 h0 ops RR ⟨some d,op,ty,ps,af,none⟩ e L h W':=s_x hv hR hn k
theorem xB{t E:TypeId}{x:Operand}{b k off:Nat}{cs:List Value}{ρ:Rp α}{σ:Rp β}{g:α->β}{s:α->β->α}{X:α}{Z:β}(T:TyOk P t σ.n σ.agg)(pc:Pc ρ off σ g s){h1:Mem}(r:ρ.R h1 cs X)(hx:zJ e x=some (vP b k):=by exact I)(ho:k=off:=by exact I)(hZ:g X=Z:=by first|(dsimp only<;>exact I)|exact I)(hm:MLe h1 h:=by exact mle):
 OpX P n w0 h0 ⟨ds,.load t x,ty,ps,af,gd⟩ e [.var b E cs] h (λu=>σ.Is h u Z):=zKE T pc ho hx (r.up hm) hZ
theorem xA{t:TypeId}{x:Operand}{p:Value}{ρ:Rp α}{X:α}(T:TyOk P t ρ.n ρ.agg){h1:Mem}(r:AtP ρ h1 p X)(hx:zJ e x=some p:=by exact I)(hm:MLe h1 h:=by exact mle):OpX P n w0 h0 ⟨ds,.load t x,ty,ps,af,gd⟩ e [] h (λu=>ρ.Is h u X):=zM7 T hx (r.up hm)
theorem xI{t E:TypeId}{x y:Operand}{q:Int}{v:Value}{ρ:Rp α}{xs:List α}(d:α)(i:Nat)(ht:P.underlying t=some (.slice E))(T:TyOk P E ρ.n ρ.agg){h1:Mem}(r:(rpS ρ).Is h1 v xs)(hx:zJ e x=some v:=by exact I)(hy:zJ e y=some (vI q):=by exact I)(hq:q=(i:Int):=by first|exact rfl|(push_cast;exact I)|omega)(hi:i<xs.length:=by omega)(hp:0<ρ.n:=by exact zce I)(hm:MLe h1 h:=by exact mle):
 OpX P n w0 h0 ⟨ds,.indexAddr t x y,ty,ps,af,gd⟩ e [] h (λu=>AtP ρ h u (xs.getD i d)):=rT d i ht T hx hy (r.up hm) hq hi hp
theorem xF{t:TypeId}{x:Operand}{f off m:Nat}{fs:Array Field}{fl:Field}{p:Value}{ρ:Rp α}{σ:Rp β}{g:α->β}{s:α->β->α}{X:α}{Z:β}(ht:P.underlying t=some (.struct fs))(hsz:∀w,(Go.sizeOf fl.type).run P w=.ok (m+1) w)(pc:Pc ρ off σ g s){h1:Mem}(r:AtP ρ h1 p X)(hf:fs[f]?=some fl:=by exact I)(ho:fl.offset=off:=by exact I)(hx:zJ e x=some p:=by exact I)(hZ:g X=Z:=by first|(dsimp only<;>exact I)|exact I)(hm:MLe h1 h:=by exact mle):
 OpX P n w0 h0 ⟨ds,.fieldAddr t x f,ty,ps,af,gd⟩ e [] h (λu=>AtP σ h u Z):=zRJ ht hf hsz pc ho hx (r.up hm) hZ
theorem uB{E t:TypeId}{b k off:Nat}{cs:List Value}{v:Value}{x y:Operand}{ρ:Rp α}{σ:Rp β}{g:α->β}{s:α->β->α}{X Z:α}{Y:β}(hsz:∀w,(Go.sizeOf t).run P w=.ok σ.n w)(pc:Pc ρ off σ g s){h1 h2:Mem}(r:ρ.R h1 cs X)(ry:σ.Is h2 v Y)(hx:zJ e x=some (vP b k):=by exact I)(ho:k=off:=by exact I)(hy:zJ e y=some v:=by exact I)(hZ:s X Y=Z:=by first|(dsimp only<;>exact I)|exact I)(hm:MLe h1 h:=by exact mle)(hm2:MLe h2 h:=by exact mle):
 ∃cs',ρ.R h cs' Z/\∀A B,Upd P n w0 h0 ⟨ds,.store t x y,ty,ps,af,gd⟩ e A (.var b E cs) B h (.var b E cs'):=zXP hsz pc ho hx hy (r.up hm) (ry.up hm2) hZ
theorem pH{ρ:Rp α}:Pc ρ 0 ρ (λx=>x) (λ_ y=>y):=Pc.here ρ
theorem ev1{x:Operand}{v:Value}(hx:zJ e x=some v):bC e [x] [v]:=⟨hx,y1i⟩
theorem ev2{x y:Operand}{v u:Value}(hx:zJ e x=some v)(hy:zJ e y=some u):bC e [x,y] [v,u]:=⟨hx,hy,y1i⟩
theorem ev3{x y z:Operand}{v u s:Value}(hx:zJ e x=some v)(hy:zJ e y=some u)(hz:zJ e z=some s):bC e [x,y,z] [v,u,s]:=⟨hx,hy,hz,y1i⟩
theorem ev4{x y z a:Operand}{v u s c:Value}(hx:zJ e x=some v)(hy:zJ e y=some u)(hz:zJ e z=some s)(ha:zJ e a=some c):bC e [x,y,z,a] [v,u,s,c]:=⟨hx,hy,hz,ha,y1i⟩
theorem cL{f:Nat}{xs:List Operand}{ts:Array TypeId}{vs:List Value}{R:Mem->Value->Prop}(hvs:bC e xs vs)(hcall:∀args w,(callFunc f args).run P w=.ok (.enter f args) w)(hc:∀w,MLe h (mem w)->Calls P f vs.toArray w (Ret w h R))(k:∀v h',MLe h h'->R h' v->GL P n w0 h0 ops Q rest ((d,v)::e) L h')(hn:Nat.ble (d+1) n=true:=by exact I):
 GL P n w0 h0 ops Q (⟨some d,.call {callee:=.value (.func f),args:=xs.toArray,argTypes:=ts},ty,ps,af,none⟩::rest) e L h:=zZP (o:=⟨some d,.call {callee:=.value (.func f),args:=xs.toArray,argTypes:=ts},ty,ps,af,none⟩) rfl rfl rfl hn hcall hvs hc k
theorem sC{W':List (Nat×Value)->List Res->Mem->Prop}{f:Nat}{xs:List Operand}{ts:Array TypeId}{vs:List Value}{R':Mem->Value->Prop}(hvs:bC e xs vs)(hcall:∀args w,(callFunc f args).run P w=.ok (.enter f args) w)(hc:∀w,MLe h (mem w)->Calls P f vs.toArray w (Ret w h R'))(k:∀v h',MLe h h'->R' h' v->W' ((d,v)::e) L h')(hn:Nat.ble (d+1) n=true:=by exact I):
 jF P n w0 h0 ops RR ⟨some d,.call {callee:=.value (.func f),args:=xs.toArray,argTypes:=ts},ty,ps,af,none⟩ e L h W':=yC0 hcall hvs hc hn k
theorem nB{E:TypeId}{x:Operand}{v:Value}{ρ:Rp α}{X:α}{h1:Mem}(r:ρ.Is h1 v X)(k:∀b cs,ρ.R h cs X->GL P n w0 h0 ops Q rest ((d,vP b 0)::e) (.var b E cs::L) h)(hx:zJ e x=some v:=by exact I)(hn:Nat.ble (d+1) n=true:=by exact I)(hm:MLe h1 h:=by exact mle):GL P n w0 h0 ops Q (⟨some d,.box E x,ty,ps,af,none⟩::rest) e L h:=
 zF (zU5 hx (r.up hm)) I I hn λv q D=>by obtain⟨b,cs,rfl,rfl,C⟩:=D;exact k b cs C
theorem nA{E:TypeId}{i:TypeInfo}{z:Value}{cs:List Value}{ρ:Rp α}{X:α}(hi:P.info? E=some i)(r:ρ.R h cs X)(k:∀b cs,ρ.R h cs X->GL P n w0 h0 ops Q rest ((d,vP b 0)::e) (.var b E cs::L) h)(hz:i.zero=some z:=by exact I)(hc:z.cells=cs.toArray:=by exact I)(hn:Nat.ble (d+1) n=true:=by exact I):GL P n w0 h0 ops Q (⟨some d,.alloc E,ty,ps,af,none⟩::rest) e L h:=
 zF (zN0 hi hz hc r) I I hn λv q D=>by obtain⟨b,cs,rfl,rfl,C⟩:=D;exact k b cs C
theorem cnd{c:Operand}{x y:Code}{p:Prop}(kt:p->GC P n w0 h0 x Q e L h)(kf:¬p->GC P n w0 h0 y Q e L h)(hc:zJ e c=some (vB p):=by exact I):GC P n w0 h0 (.cond c x y) Q e L h:=zZQ hc kt kf
theorem gT{p:Prop}{v:Operand}(hg:p)(hv:zJ e v=some (vB p))(k:GL P n w0 h0 ops Q rest ((d,.bool true)::e) L h)(hn:Nat.ble (d+1) n=true:=by exact I):GL P n w0 h0 ops Q (⟨some d,.move v,ty,ps,af,none⟩::rest) e L h:=mS (yY (hv.trans (y0e (xR hg)))) I I hn k
theorem gF{p:Prop}{v:Operand}(hg:¬p)(hv:zJ e v=some (vB p))(k:GL P n w0 h0 ops Q rest ((d,.bool false)::e) L h)(hn:Nat.ble (d+1) n=true:=by exact I):GL P n w0 h0 ops Q (⟨some d,.move v,ty,ps,af,none⟩::rest) e L h:=mS (yY (hv.trans (y0e (yV hg)))) I I hn k
theorem gU{l:List Oper}(j t:Nat)(v:Value)(kx:GL P n w0 h0 ops (Exit.then (λa w=>∃i:Unit,True/\Env n ((t,v)::e) a/\St w0 h0 L h w) Q) (l.take j) e L h)(ky:GL P n w0 h0 ops Q (l.drop j) ((t,v)::e) L h):GL P n w0 h0 ops Q l e L h:=uZ j (λ_=>True) (λ_=>(t,v)::e) (λ_=>L) (λ_=>h) kx λ_ _=>ky
@[reducible] def zSQ:List Nat->List (Nat×Value)->List (Nat×Value)->Prop
  |_,[],_=>True
  |s,(t,v)::r,e=>(if s.contains t then True else e.lookup t=some v)/\zSQ (t::s) r e
theorem zSQ.look{e:List (Nat×Value)}:∀{e0:List (Nat×Value)} {s:List Nat},zSQ s e0 e->∀t v,s.contains t=false->e0.lookup t=some v->e.lookup t=some v
  |[],_,_,t,v,_,h=>by simp at h
  |(k,u)::r,s,hs,t,v,hn,h=>by
   simp only[z4u] at h
   by_cases ht:t=k
   · subst ht
     simp at h;subst h;have:=hs.1
     rwa [zae (by rw[hn];simp)] at this
   · have h1:(t==k)=false:=by simpa using ht
     rw[h1] at h;refine zSQ.look hs.2 t v ?_ h;rw[List.contains_cons,h1,hn];rfl
theorem Env.subS{e0:List (Nat×Value)}{a:Act}(E:Env n e a)(h:zSQ [] e0 e):Env n e0 a:=⟨E.defers,E.size,λt v ht=>E.get t v (h.look t v rfl ht)⟩
theorem gqU{e0:List (Nat×Value)}{t:Nat}{v:Value}(hv:e.lookup t=some v)(hs:zSQ [t] e0 e:=by repeat (first|exact trivial|refine⟨by first|exact rfl|exact trivial,?_⟩)):GQ n w0 h0 (Exit.then (λa w=>∃i:Unit,True/\Env n ((t,v)::e0) a/\St w0 h0 L h w) Q) .normal e L h:=λa w E S=>⟨(),y1i,E.subS ⟨hv,hs⟩,S⟩
theorem gcL{ι:Type}{c:Code}{A:Prop}(S:ι->Prop×List (Nat×Value)×List Res×Mem×Nat)(i0:ι)(hi0:A)(round:∀i,(S i).1->GC P n w0 h0 c (Exit.then (λa w=>∃j,((S j).1/\(S j).2.2.2.2<(S i).2.2.2.2)/\Env n (S j).2.1 a/\St w0 h0 (S j).2.2.1 (S j).2.2.2.1 w) Q) (S i).2.1 (S i).2.2.1 (S i).2.2.2.1)
    (hA:(S i0).1=A:=by first|(dsimp only<;>exact I)|exact I)(he:Sub (S i0).2.1 e:=by repeat (first|exact trivial|refine⟨I,?_⟩))(hL:(S i0).2.2.1=L:=by exact I)(hh:(S i0).2.2.2.1=h:=by exact I):GC P n w0 h0 (.loop c) Q e L h:=
 jU (λi=>(S i).1) (λi=>(S i).2.1) (λi=>(S i).2.2.1) (λi=>(S i).2.2.2.1) (λi=>(S i).2.2.2.2) i0 (hA▸hi0) he hL hh round
theorem gqL{ι:Type}{A:Prop}{B M m:Nat}{S:ι->Prop×List (Nat×Value)×List Res×Mem×Nat}(i:ι)(hi:A)(hm:B<M)(hA:(S i).1=A:=by first|(dsimp only<;>exact I)|exact I)(hB:(S i).2.2.2.2=B:=by first|(dsimp only<;>exact I)|exact I)(hM:m=M:=by first|(dsimp only<;>exact I)|exact I)(he:Sub (S i).2.1 e:=by repeat (first|exact trivial|refine⟨I,?_⟩))(hL:(S i).2.2.1=L:=by exact I)(hh:(S i).2.2.2.1=h:=by exact I):
 GQ n w0 h0 (Exit.then (λa w=>∃j,((S j).1/\(S j).2.2.2.2<m)/\Env n (S j).2.1 a/\St w0 h0 (S j).2.2.1 (S j).2.2.2.1 w) Q) .normal e L h:=
 qV (inv:=λi=>(S i).1) (ev:=λi=>(S i).2.1) (Lv:=λi=>(S i).2.2.1) (hv:=λi=>(S i).2.2.2.1) (μ:=λi=>(S i).2.2.2.2) i (hA▸hi) (by rw[hM];exact hB▸hm) he hL hh
theorem cb0{f:FuncId}{fn:Func}{c:Code}{R:Ending->World->Prop}(n:Nat)(hf:P.funcs[f]?=some fn)(hs:MLe h0 (mem w0))(k:GC P n w0 h0 c (bodyPost P fn R) [] [] h0)(hb:fn.body=some c:=by exact I)(hn:fn.ntmps=n:=by exact I)(hl:([]:List Value).length<=n:=by exact zce I):Calls P f #[] w0 R:=fG (e:=[]) (vs:=[]) hf hb hn hl hs trivial k
theorem cb1{f:FuncId}{fn:Func}{c:Code}{R:Ending->World->Prop}(n:Nat)(v:Value)(hf:P.funcs[f]?=some fn)(hs:MLe h0 (mem w0))(k:GC P n w0 h0 c (bodyPost P fn R) [(0,v)] [] h0)(hb:fn.body=some c:=by exact I)(hn:fn.ntmps=n:=by exact I)(hl:[v].length<=n:=by exact zce I):Calls P f #[v] w0 R:=fG (e:=[(0,v)]) (vs:=[v]) hf hb hn hl hs ⟨I,y1i⟩ k
theorem cb2{f:FuncId}{fn:Func}{c:Code}{R:Ending->World->Prop}(n:Nat)(v u:Value)(hf:P.funcs[f]?=some fn)(hs:MLe h0 (mem w0))(k:GC P n w0 h0 c (bodyPost P fn R) [(0,v),(1,u)] [] h0)(hb:fn.body=some c:=by exact I)(hn:fn.ntmps=n:=by exact I)(hl:[v,u].length<=n:=by exact zce I):Calls P f #[v,u] w0 R:=fG (e:=[(0,v),(1,u)]) (vs:=[v,u]) hf hb hn hl hs e2z k
theorem cb3{f:FuncId}{fn:Func}{c:Code}{R:Ending->World->Prop}(n:Nat)(v u s:Value)(hf:P.funcs[f]?=some fn)(hs:MLe h0 (mem w0))(k:GC P n w0 h0 c (bodyPost P fn R) [(0,v),(1,u),(2,s)] [] h0)(hb:fn.body=some c:=by exact I)(hn:fn.ntmps=n:=by exact I)(hl:[v,u,s].length<=n:=by exact zce I):Calls P f #[v,u,s] w0 R:=fG (e:=[(0,v),(1,u),(2,s)]) (vs:=[v,u,s]) hf hb hn hl hs e3z k
theorem yQ{c:Code}{e':List (Nat×Value)}{L':List Res}{h':Mem}(k:GC P n w0 h0 c Q e' L' h')(he:e=e':=by first|(dsimp only<;>exact I)|exact I)(hL:L=L':=by first|(dsimp only<;>exact I)|exact I)(hh:h=h':=by first|(dsimp only<;>exact I)|exact I):GC P n w0 h0 c Q e L h:=by subst he hL hh;exact k
theorem sD{l:List Oper}{e':List (Nat×Value)}{L':List Res}{h':Mem}(k:GL P n w0 h0 ops Q l e' L' h')(he:e=e':=by first|(dsimp only<;>exact I)|exact I)(hL:L=L':=by first|(dsimp only<;>exact I)|exact I)(hh:h=h':=by first|(dsimp only<;>exact I)|exact I):GL P n w0 h0 ops Q l e L h:=by subst he hL hh;exact k
end
end Bk
namespace Bk
open Go Go.RowKit
def frc(x:Nat)(f:Nat->Bool):Bool:=match x with|0=>f 0|n+1=>f (n+1)
theorem yEJ(x:Nat)(f:Nat->Bool):frc x f=f x:=by cases x<;>rfl
def zZR:List Nat->(List Nat->Bool)->Bool
  |[],f=>f []
  |x::r,f=>frc x λy=>zZR r λys=>f (y::ys)
theorem zP9:∀(l:List Nat) (f:List Nat->Bool),zZR l f=f l
  |[],f=>rfl
  |x::r,f=>by show frc x _=_;rw[yEJ,zP9 r]
def zQL(l:List Oper)(m:Nat)(al:Als)(ord:List (Nat×Kd)):Bool:=
 Region.noSelect l.toArray&&pE l.toArray al&&(al.all λx=>decide (x.1<m))&&(l.all λo=>o.after.all λe=>decide (e.on<l.length))&&(zZR (l.map zA6) λams=>zZR ((List.range l.length).map (zLO l.toArray ams)) λfrs=>nT l.toArray l.length m ams frs ord 0 (al.map (·.1)))
theorem wV{l:List Oper}{m:Nat}{al:Als}{ord:List (Nat×Kd)}(h:zQL l m al ord=true):
 (Region.noSelect l.toArray&&pE l.toArray al&&(al.all λx=>decide (x.1<m))&&chk l.toArray m ord (Array.replicate l.length false) (al.map (·.1)))=true:=by
 refine yEV (l.map zA6) ((List.range l.length).map (zLO l.toArray (l.map zA6))) ?_;simp only[zQL,zbu,zP9] at h;simp only[zOS,zbu];exact⟨⟨h.1,by simp[oI]⟩,h.2⟩
end Bk
namespace Go.Proofs.YtboaboflnckgoaaGreat
open Bk Go Tryz
instance:Und prog 2:=⟨_,underlying2⟩
instance:Und prog 3:=⟨_,underlying3⟩
instance:Und prog 4:=⟨_,underlying4⟩
instance:Und prog 5:=⟨_,underlying5⟩
instance:Und prog 9:=⟨_,underlying9⟩
instance:Und prog 22:=⟨_,underlying22⟩
instance:Und prog 23:=⟨_,underlying23⟩
instance:Und prog 25:=⟨_,underlying25⟩
instance:Und prog 26:=⟨_,underlying26⟩
instance:Und prog 27:=⟨_,underlying27⟩
instance:Und prog 30:=⟨_,underlying30⟩
instance:Und prog 32:=⟨_,underlying32⟩
instance:Und prog 33:=⟨_,underlying33⟩
instance:Und prog 34:=⟨_,underlying34⟩
instance:Und prog 39:=⟨_,underlying39⟩
instance:Und prog 44:=⟨_,underlying44⟩
instance:Und prog 46:=⟨_,underlying46⟩
instance:Und prog 47:=⟨_,underlying47⟩
instance:Und prog 48:=⟨_,underlying48⟩
instance:Und prog 49:=⟨_,underlying49⟩
instance:Und prog 50:=⟨_,underlying50⟩
instance:Und prog 52:=⟨_,underlying52⟩
instance:Und prog 53:=⟨_,underlying53⟩
instance:Und prog 54:=⟨_,underlying54⟩
instance:Und prog 55:=⟨_,underlying55⟩
instance:Und prog 56:=⟨_,underlying56⟩
instance:Und prog 58:=⟨_,underlying58⟩
instance:Und prog 73:=⟨_,underlying73⟩
instance:Und prog 79:=⟨_,underlying79⟩
instance:Und prog 80:=⟨_,underlying80⟩
instance:Und prog 81:=⟨_,underlying81⟩
instance:Und prog 82:=⟨_,underlying82⟩
instance:Und prog 83:=⟨_,underlying83⟩
instance:Und prog 96:=⟨_,underlying96⟩
instance:Und prog 97:=⟨_,underlying97⟩
instance:Und prog 106:=⟨_,underlying106⟩
instance:Und prog 108:=⟨_,underlying108⟩
instance:Und prog 115:=⟨_,underlying115⟩
instance:Und prog 116:=⟨_,underlying116⟩
instance:Und prog 117:=⟨_,underlying117⟩
instance:Und prog 127:=⟨_,underlying127⟩
instance:Und prog 130:=⟨_,underlying130⟩
instance:Und prog 137:=⟨_,underlying137⟩
instance:Und prog 153:=⟨_,underlying153⟩
instance:Und prog 175:=⟨_,underlying175⟩
instance:Und prog 189:=⟨_,underlying189⟩
instance:Und prog 190:=⟨_,underlying190⟩
instance:Und prog 192:=⟨_,underlying192⟩
instance:Und prog 193:=⟨_,underlying193⟩
instance:Und prog 196:=⟨_,underlying196⟩
instance:Und prog 199:=⟨_,underlying199⟩
instance:Und prog 200:=⟨_,underlying200⟩
instance:Und prog 209:=⟨_,underlying209⟩
instance:Und prog 212:=⟨_,underlying212⟩
instance:Und prog 232:=⟨_,underlying232⟩
instance:Und prog 233:=⟨_,underlying233⟩
instance:Siz prog 3:=⟨_,sizeOf3⟩
instance:Siz prog 4:=⟨_,sizeOf4⟩
instance:Siz prog 5:=⟨_,sizeOf5⟩
instance:Siz prog 9:=⟨_,sizeOf9⟩
instance:Siz prog 22:=⟨_,sizeOf22⟩
instance:Siz prog 26:=⟨_,sizeOf26⟩
instance:Siz prog 32:=⟨_,sizeOf32⟩
instance:Siz prog 34:=⟨_,sizeOf34⟩
instance:Siz prog 46:=⟨_,sizeOf46⟩
instance:Siz prog 47:=⟨_,sizeOf47⟩
instance:Siz prog 48:=⟨_,sizeOf48⟩
instance:Siz prog 50:=⟨_,sizeOf50⟩
instance:Siz prog 53:=⟨_,sizeOf53⟩
instance:Siz prog 54:=⟨_,sizeOf54⟩
instance:Siz prog 56:=⟨_,sizeOf56⟩
instance:Siz prog 73:=⟨_,sizeOf73⟩
instance:Siz prog 80:=⟨_,sizeOf80⟩
instance:Siz prog 81:=⟨_,sizeOf81⟩
instance:Siz prog 83:=⟨_,sizeOf83⟩
instance:Siz prog 108:=⟨_,sizeOf108⟩
instance:Siz prog 116:=⟨_,sizeOf116⟩
instance:Siz prog 117:=⟨_,sizeOf117⟩
instance:Siz prog 127:=⟨_,sizeOf127⟩
instance:Siz prog 193:=⟨_,sizeOf193⟩
instance:Siz prog 200:=⟨_,sizeOf200⟩
instance:Agg prog 3:=⟨_,isAgg3⟩
instance:Agg prog 4:=⟨_,isAgg4⟩
instance:Agg prog 5:=⟨_,isAgg5⟩
instance:Agg prog 9:=⟨_,isAgg9⟩
instance:Agg prog 22:=⟨_,isAgg22⟩
instance:Agg prog 26:=⟨_,isAgg26⟩
instance:Agg prog 32:=⟨_,isAgg32⟩
instance:Agg prog 34:=⟨_,isAgg34⟩
instance:Agg prog 46:=⟨_,isAgg46⟩
instance:Agg prog 47:=⟨_,isAgg47⟩
instance:Agg prog 48:=⟨_,isAgg48⟩
instance:Agg prog 50:=⟨_,isAgg50⟩
instance:Agg prog 53:=⟨_,isAgg53⟩
instance:Agg prog 54:=⟨_,isAgg54⟩
instance:Agg prog 56:=⟨_,isAgg56⟩
instance:Agg prog 73:=⟨_,isAgg73⟩
instance:Agg prog 80:=⟨_,isAgg80⟩
instance:Agg prog 81:=⟨_,isAgg81⟩
instance:Agg prog 83:=⟨_,isAgg83⟩
instance:Agg prog 108:=⟨_,isAgg108⟩
instance:Agg prog 116:=⟨_,isAgg116⟩
instance:Agg prog 117:=⟨_,isAgg117⟩
instance:Agg prog 127:=⟨_,isAgg127⟩
instance:Agg prog 200:=⟨_,isAgg200⟩
instance:Inf prog 3:=⟨_,yAG⟩
instance:Inf prog 4:=⟨_,zTD⟩
instance:Inf prog 5:=⟨_,yFV⟩
instance:Inf prog 9:=⟨_,yFU⟩
instance:Inf prog 22:=⟨_,zTE⟩
instance:Inf prog 26:=⟨_,yB⟩
instance:Inf prog 32:=⟨_,yCR⟩
instance:Inf prog 34:=⟨_,dX⟩
instance:Inf prog 46:=⟨_,yCQ⟩
instance:Inf prog 47:=⟨_,yCP⟩
instance:Inf prog 48:=⟨_,yCO⟩
instance:Inf prog 50:=⟨_,yCN⟩
instance:Inf prog 53:=⟨_,yCM⟩
instance:Inf prog 54:=⟨_,yCL⟩
instance:Inf prog 56:=⟨_,yCK⟩
instance:Inf prog 73:=⟨_,yCJ⟩
instance:Inf prog 80:=⟨_,yCI⟩
instance:Inf prog 81:=⟨_,yCH⟩
instance:Inf prog 83:=⟨_,yCG⟩
instance:Inf prog 97:=⟨_,yCF⟩
instance:Inf prog 108:=⟨_,zX7⟩
instance:Inf prog 116:=⟨_,zX6⟩
instance:Inf prog 117:=⟨_,zX5⟩
instance:Inf prog 127:=⟨_,zX4⟩
instance:Inf prog 193:=⟨_,zX3⟩
instance:Inf prog 200:=⟨_,zX2⟩
theorem zNB{P:Program}{n:Nat}{w0:World}{h0 h:Mem}{e:List (Nat×Value)}{L:List Res}{ds:Option Tmp}{ty:TypeId}{ps:String}{af:Array Edge}{gd:Option (Nat×Bool)}{t:TypeId}{x:Operand}{b k:Nat}{E:TypeId}{cs:List Value}{u v s:Value}{d:TypeDesc}(hm:.var b E cs∈L)(hu:P.underlying t=some d)(hd:d.isRow=true)(hi:(P.info? t).map (·.size)=some 3)(hx:zJ e x=some (vP b k))(hv:(cs.drop k).take 3=[u,v,s]):OpV P n w0 h0 ⟨ds,.load t x,ty,ps,af,gd⟩ e L h (.agg #[u,v,s]):=zKI (vs:=[u,v,s]) hm hu hd hi hx hv
theorem ov{P:Program}{n:Nat}{w0:World}{h0 h:Mem}{o:Oper}{e:List (Nat×Value)}{L:List Res}{v:Value}(f:OpV P n w0 h0 o e L h v:=by first|exact yL I rfl|exact nF I rfl|exact cM I rfl|exact s9 I rfl|exact eF I rfl|exact lZ I rfl|exact zY I I zos zos|exact jI I I zos zos|exact wW uu I (by with_reducible first|assumption|exact Us.up zo3)|exact uX uu I (by with_reducible first|assumption|exact Rp.Is.up zo3)|exact gC (vs:=[_,_]) I rfl|exact gC (vs:=[_,_,_]) I rfl|exact pM I rfl|exact(wD uu (by simp only[ysi,ybi,ypi]<;>exact I) uz I).cv (zbi (vP _) zow)|exact(wE 0 uu uz I I I zov).cv (zbi (vP _) zow)|exact(wE 1 uu uz I I I zov).cv (zbi (vP _) zow)|exact(wE 2 uu uz I I I zov).cv (zbi (vP _) zow)|exact zNB (by first|exact mh0|exact mh1|exact mh2|exact mh3|exact mh4|exact mh5) uu (by exact I) us_ I rfl|exact pO I rfl|exact zM8 rfl|exact gW I rfl|exact fW I rfl|exact zD9 I rfl|exact rU I rfl|exact nE I rfl|exact eD (by first|exact mh0|exact mh1|exact mh2|exact mh3|exact mh4|exact mh5) ua I rfl|exact fO (k:=.u64) (k':=.u32) (W:=4294967296) uu uu I I rfl|exact wY (k:=.u32) (k':=.u64) (W:=18446744073709551616) uu uu I I I zos|exact tJ (k:=.u64) (W:=18446744073709551616) I I I I zos|exact eC (k:=.u64) (W:=18446744073709551616) I I I I zos|exact kV (k:=.u64) (s:=32) (yk:=.u64) I I I (by simp only[ub];omega)|exact xO ua I (by with_reducible first|assumption|exact Us.up zo3) zos):OpV P n w0 h0 o e L h v:=f
theorem ovq{P:Program}{n:Nat}{w0:World}{h0 h:Mem}{o:Oper}{e:List (Nat×Value)}{v:Value}(f:∀h' L',OpV P n w0 h0 o e L' h' v:=by intro h' L';first|exact yL I rfl|exact nF I rfl|exact cM I rfl|exact s9 I rfl|exact eF I rfl|exact lZ I rfl|exact zY I I zos zos|exact jI I I zos zos|exact wW uu I (by with_reducible first|assumption|exact Us.up zo3)|exact uX uu I (by with_reducible first|assumption|exact Rp.Is.up zo3)|exact gC (vs:=[_,_]) I rfl|exact gC (vs:=[_,_,_]) I rfl|exact pM I rfl|exact(wD uu (by simp only[ysi,ybi,ypi]<;>exact I) uz I).cv (zbi (vP _) zow)|exact(wE 0 uu uz I I I zov).cv (zbi (vP _) zow)|exact(wE 1 uu uz I I I zov).cv (zbi (vP _) zow)|exact(wE 2 uu uz I I I zov).cv (zbi (vP _) zow)|exact zNB (by first|exact mh0|exact mh1|exact mh2|exact mh3|exact mh4|exact mh5) uu (by exact I) us_ I rfl|exact pO I rfl|exact zM8 rfl|exact gW I rfl|exact fW I rfl|exact zD9 I rfl|exact rU I rfl|exact nE I rfl|exact eD (by first|exact mh0|exact mh1|exact mh2|exact mh3|exact mh4|exact mh5) ua I rfl|exact fO (k:=.u64) (k':=.u32) (W:=4294967296) uu uu I I rfl|exact wY (k:=.u32) (k':=.u64) (W:=18446744073709551616) uu uu I I I zos|exact tJ (k:=.u64) (W:=18446744073709551616) I I I I zos|exact eC (k:=.u64) (W:=18446744073709551616) I I I I zos|exact kV (k:=.u64) (s:=32) (yk:=.u64) I I I (by simp only[ub];omega)|exact xO ua I (by with_reducible first|assumption|exact Us.up zo3) zos):∀h' L',OpV P n w0 h0 o e L' h' v:=f
theorem zYI{α:Type}{ρ:Rp α}{h h':Mem}{v:Value}{x:α}(r:ρ.Is h v x)(hh:MLe h h'):ρ.Is h' v x:=r.mono hh
theorem ovm{P:Program}{n:Nat}{w0:World}{h0 h:Mem}{o:Oper}{e:List (Nat×Value)}{R:List Res}{v:Value}(f:∀h' L',MLe h h'->(∀r∈R,r∈L')->OpV P n w0 h0 o e L' h' v:=by intro h' L' hh hR;first|exact yL I rfl|exact nF I rfl|exact cM I rfl|exact s9 I rfl|exact eF I rfl|exact lZ I rfl|exact zY I I zos zos|exact jI I I zos zos|exact wW uu I (Us.mono (by with_reducible first|assumption|exact Us.up zo3) hh)|exact uX uu I (zYI (by with_reducible first|assumption|exact Rp.Is.up zo3) hh)|exact gC (vs:=[_,_]) I rfl|exact gC (vs:=[_,_,_]) I rfl|exact pM I rfl|exact(wD uu (by simp only[ysi,ybi,ypi]<;>exact I) uz I).cv (zbi (vP _) zow)|exact(wE 0 uu uz I I I zov).cv (zbi (vP _) zow)|exact(wE 1 uu uz I I I zov).cv (zbi (vP _) zow)|exact(wE 2 uu uz I I I zov).cv (zbi (vP _) zow)|exact zNB (hR _ (by first|exact mh0|exact mh1|exact mh2|exact mh3|exact mh4|exact mh5)) uu (by exact I) us_ I rfl|exact pO I rfl|exact zM8 rfl|exact gW I rfl|exact fW I rfl|exact zD9 I rfl|exact rU I rfl|exact nE I rfl|exact eD (hR _ (by first|exact mh0|exact mh1|exact mh2|exact mh3|exact mh4|exact mh5)) ua I rfl|exact fO (k:=.u64) (k':=.u32) (W:=4294967296) uu uu I I rfl|exact wY (k:=.u32) (k':=.u64) (W:=18446744073709551616) uu uu I I I zos|exact tJ (k:=.u64) (W:=18446744073709551616) I I I I zos|exact eC (k:=.u64) (W:=18446744073709551616) I I I I zos|exact kV (k:=.u64) (s:=32) (yk:=.u64) I I I (by simp only[ub];omega)|exact xO ua I (Us.mono (by with_reducible first|assumption|exact Us.up zo3) hh) zos):∀h' L',MLe h h'->(∀r∈R,r∈L')->OpV P n w0 h0 o e L' h' v:=f
theorem isGC{P:Program}{n:Nat}{w0:World}{h0 h:Mem}{Q:Exit->Act->World->Prop}{e:List (Nat×Value)}{L:List Res}{c:Code}(k:GC P n w0 h0 c Q e L h):GC P n w0 h0 c Q e L h:=k
theorem isGQ{n:Nat}{w0:World}{h0 h:Mem}{Q:Exit->Act->World->Prop}{e:List (Nat×Value)}{L:List Res}{x:Exit}(k:GQ n w0 h0 Q x e L h):GQ n w0 h0 Q x e L h:=k
theorem isGL{P:Program}{n:Nat}{w0:World}{h0 h:Mem}{Q:Exit->Act->World->Prop}{e:List (Nat×Value)}{L:List Res}{ops:Array Oper}{l:List Oper}(k:GL P n w0 h0 ops Q l e L h):GL P n w0 h0 ops Q l e L h:=k
theorem isW{P:Program}{n:Nat}{w0:World}{h0 h:Mem}{Q:Exit->Act->World->Prop}{e:List (Nat×Value)}{L:List Res}{R:List Res}{ops:Array Oper}{al:Als}{r:List (Nat×Kd)}(k:W P n w0 h0 ops Q R al r e L h):W P n w0 h0 ops Q R al r e L h:=k
structure Kp(p:Prop):Prop where out:p
theorem isGV{P:Program}{n:Nat}{w0:World}{h0 h:Mem}{Q:Exit->Act->World->Prop}{e:List (Nat×Value)}{L:List Res}{ops:Array Oper}{rest:List Oper}{d:Nat}{op:Op}{ty:TypeId}{ps:String}{af:Array Edge}(k:GL P n w0 h0 ops Q (⟨some d,op,ty,ps,af,none⟩::rest) e L h):GL P n w0 h0 ops Q (⟨some d,op,ty,ps,af,none⟩::rest) e L h:=k
theorem isMV{P:Program}{n:Nat}{w0:World}{h0 h:Mem}{Q:Exit->Act->World->Prop}{e:List (Nat×Value)}{L:List Res}{ops:Array Oper}{rest:List Oper}{d:Nat}{x:Operand}{ty:TypeId}{ps:String}{af:Array Edge}(k:GL P n w0 h0 ops Q (⟨some d,.move x,ty,ps,af,none⟩::rest) e L h):GL P n w0 h0 ops Q (⟨some d,.move x,ty,ps,af,none⟩::rest) e L h:=k
theorem isAS{P:Program}{n:Nat}{w0:World}{h0 h:Mem}{Q:Exit->Act->World->Prop}{e:List (Nat×Value)}{L:List Res}{ops:Array Oper}{rest:List Oper}{d:Nat}{x:Operand}{ty:TypeId}{ps:String}{af:Array Edge}(k:GL P n w0 h0 ops Q (⟨some d,.assign x,ty,ps,af,none⟩::rest) e L h):GL P n w0 h0 ops Q (⟨some d,.assign x,ty,ps,af,none⟩::rest) e L h:=k
theorem st{G G':Prop}(k:G')(f:Kp G'->G:=by intro k;first|((with_reducible refine isGL ?_);first|((with_reducible refine isMV ?_);first|exact mv (v:=vI _) I I k.out|exact mv I I k.out)|((with_reducible refine isAS ?_);first|exact asg (v:=vI _) I I k.out|exact asg I I k.out)|with_reducible exact zX k.out|((with_reducible refine isGV ?_);refine gv ov I ?_;exact k.out)|exact lG I I I I I I k.out|exact dM I I I k.out|exact zZO I I I I I k.out|exact zX k.out|exact mv (v:=vI _) I I k.out|exact mv I I k.out|exact asg (v:=vI _) I I k.out|exact asg I I k.out|(refine gv ov I ?_;exact k.out))|((with_reducible refine isGC ?_);first|with_reducible exact zP k.out|with_reducible exact zG k.out|with_reducible exact vG k.out|with_reducible exact uR k.out|with_reducible exact gO k.out|with_reducible exact aD k.out|exact zHE I k.out|exact zHF I k.out)|((with_reducible refine isGQ ?_);first|with_reducible exact zI k.out|with_reducible exact sM k.out|with_reducible exact uN k.out|with_reducible exact gN k.out|with_reducible exact aV k.out|with_reducible exact zP7 k.out|exact zI6 I k.out)|((with_reducible refine isW ?_);first|with_reducible exact pF k.out|exact qH I I I k.out|exact zFR I I I k.out|exact vM I I I I I k.out|exact zSU I I I I k.out|(refine wK I ovq I ?_;exact k.out)|(refine w_q I ovm I ?_;exact k.out)|(refine yU I I I ovm I ?_;exact k.out)|exact pF k.out)):G:=f ⟨k⟩
theorem go1{G G':Prop}(k:G')(f:Kp G'->G:=by intro k;refine st ?_;exact k.out):G:=f ⟨k⟩
theorem go2{G G':Prop}(k:G')(f:Kp G'->G:=by intro k;refine st ?_;refine st ?_;exact k.out):G:=f ⟨k⟩
theorem go3{G G':Prop}(k:G')(f:Kp G'->G:=by intro k;refine st ?_;refine st ?_;refine st ?_;exact k.out):G:=f ⟨k⟩
theorem go4{G G':Prop}(k:G')(f:Kp G'->G:=by intro k;refine st ?_;refine st ?_;refine st ?_;refine st ?_;exact k.out):G:=f ⟨k⟩
theorem go5{G G':Prop}(k:G')(f:Kp G'->G:=by intro k;refine st ?_;refine st ?_;refine st ?_;refine st ?_;refine st ?_;exact k.out):G:=f ⟨k⟩
theorem go6{G G':Prop}(k:G')(f:Kp G'->G:=by intro k;refine st ?_;refine st ?_;refine st ?_;refine st ?_;refine st ?_;refine st ?_;exact k.out):G:=f ⟨k⟩
theorem go7{G G':Prop}(k:G')(f:Kp G'->G:=by intro k;refine st ?_;refine st ?_;refine st ?_;refine st ?_;refine st ?_;refine st ?_;refine st ?_;exact k.out):G:=f ⟨k⟩
theorem go8{G G':Prop}(k:G')(f:Kp G'->G:=by intro k;refine st ?_;refine st ?_;refine st ?_;refine st ?_;refine st ?_;refine st ?_;refine st ?_;refine st ?_;exact k.out):G:=f ⟨k⟩
theorem go9{G G':Prop}(k:G')(f:Kp G'->G:=by intro k;refine go8 ?_;refine st ?_;exact k.out):G:=f ⟨k⟩
theorem uQ{G G':Prop}(k:G')(f:Kp G'->G:=by intro k;refine go8 ?_;refine st ?_;refine st ?_;exact k.out):G:=f ⟨k⟩
theorem qG{G G':Prop}(k:G')(f:Kp G'->G:=by intro k;refine go8 ?_;refine st ?_;refine st ?_;refine st ?_;exact k.out):G:=f ⟨k⟩
theorem uV{G G':Prop}(k:G')(f:Kp G'->G:=by intro k;refine go8 ?_;refine st ?_;refine st ?_;refine st ?_;refine st ?_;exact k.out):G:=f ⟨k⟩
theorem rN{G G':Prop}(k:G')(f:Kp G'->G:=by intro k;refine go8 ?_;refine st ?_;refine st ?_;refine st ?_;refine st ?_;refine st ?_;exact k.out):G:=f ⟨k⟩
theorem sN{G G':Prop}(k:G')(f:Kp G'->G:=by intro k;refine go8 ?_;refine st ?_;refine st ?_;refine st ?_;refine st ?_;refine st ?_;refine st ?_;exact k.out):G:=f ⟨k⟩
theorem iV{G G':Prop}(k:G')(f:Kp G'->G:=by intro k;refine go8 ?_;refine st ?_;refine st ?_;refine st ?_;refine st ?_;refine st ?_;refine st ?_;refine st ?_;exact k.out):G:=f ⟨k⟩
theorem zBY{G G':Prop}(k:G')(f:Kp G'->G:=by intro k;refine go8 ?_;refine go8 ?_;exact k.out):G:=f ⟨k⟩
theorem oO{G G':Prop}(k:G')(f:Kp G'->G:=by intro k;refine go8 ?_;refine go8 ?_;refine st ?_;exact k.out):G:=f ⟨k⟩
theorem zV7{G G':Prop}(k:G')(f:Kp G'->G:=by intro k;refine go8 ?_;refine go8 ?_;refine st ?_;refine st ?_;exact k.out):G:=f ⟨k⟩
theorem yGL{G G':Prop}(k:G')(f:Kp G'->G:=by intro k;refine go8 ?_;refine go8 ?_;refine st ?_;refine st ?_;refine st ?_;exact k.out):G:=f ⟨k⟩
theorem go20{G G':Prop}(k:G')(f:Kp G'->G:=by intro k;refine go8 ?_;refine go8 ?_;refine st ?_;refine st ?_;refine st ?_;refine st ?_;exact k.out):G:=f ⟨k⟩
theorem go22{G G':Prop}(k:G')(f:Kp G'->G:=by intro k;refine go8 ?_;refine go8 ?_;refine st ?_;refine st ?_;refine st ?_;refine st ?_;refine st ?_;refine st ?_;exact k.out):G:=f ⟨k⟩
theorem go23{G G':Prop}(k:G')(f:Kp G'->G:=by intro k;refine go8 ?_;refine go8 ?_;refine st ?_;refine st ?_;refine st ?_;refine st ?_;refine st ?_;refine st ?_;refine st ?_;exact k.out):G:=f ⟨k⟩
theorem go30{G G':Prop}(k:G')(f:Kp G'->G:=by intro k;refine go8 ?_;refine go8 ?_;refine go8 ?_;refine st ?_;refine st ?_;refine st ?_;refine st ?_;refine st ?_;refine st ?_;exact k.out):G:=f ⟨k⟩
theorem gc2{G G1 G2:Prop}{p:Prop}(kt:p->G1)(kf:¬p->G2)(f:(p->Kp G1)->(¬p->Kp G2)->G:=by intro a b;refine st ?_;refine st ?_;exact cnd (λh=>(a h).out) λh=>(b h).out):G:=f (λh=>⟨kt h⟩) λh=>⟨kf h⟩
theorem gc3{G G1 G2:Prop}{p:Prop}(kt:p->G1)(kf:¬p->G2)(f:(p->Kp G1)->(¬p->Kp G2)->G:=by intro a b;refine st ?_;refine st ?_;refine st ?_;exact cnd (λh=>(a h).out) λh=>(b h).out):G:=f (λh=>⟨kt h⟩) λh=>⟨kf h⟩
theorem gc4{G G1 G2:Prop}{p:Prop}(kt:p->G1)(kf:¬p->G2)(f:(p->Kp G1)->(¬p->Kp G2)->G:=by intro a b;refine st ?_;refine st ?_;refine st ?_;refine st ?_;exact cnd (λh=>(a h).out) λh=>(b h).out):G:=f (λh=>⟨kt h⟩) λh=>⟨kf h⟩
theorem gc5{G G1 G2:Prop}{p:Prop}(kt:p->G1)(kf:¬p->G2)(f:(p->Kp G1)->(¬p->Kp G2)->G:=by intro a b;refine st ?_;refine st ?_;refine st ?_;refine st ?_;refine st ?_;exact cnd (λh=>(a h).out) λh=>(b h).out):G:=f (λh=>⟨kt h⟩) λh=>⟨kf h⟩
theorem gc6{G G1 G2:Prop}{p:Prop}(kt:p->G1)(kf:¬p->G2)(f:(p->Kp G1)->(¬p->Kp G2)->G:=by intro a b;refine st ?_;refine st ?_;refine st ?_;refine st ?_;refine st ?_;refine st ?_;exact cnd (λh=>(a h).out) λh=>(b h).out):G:=f (λh=>⟨kt h⟩) λh=>⟨kf h⟩
theorem gc7{G G1 G2:Prop}{p:Prop}(kt:p->G1)(kf:¬p->G2)(f:(p->Kp G1)->(¬p->Kp G2)->G:=by intro a b;refine st ?_;refine st ?_;refine st ?_;refine st ?_;refine st ?_;refine st ?_;refine st ?_;exact cnd (λh=>(a h).out) λh=>(b h).out):G:=f (λh=>⟨kt h⟩) λh=>⟨kf h⟩
theorem gc8{G G1 G2:Prop}{p:Prop}(kt:p->G1)(kf:¬p->G2)(f:(p->Kp G1)->(¬p->Kp G2)->G:=by intro a b;refine st ?_;refine st ?_;refine st ?_;refine st ?_;refine st ?_;refine st ?_;refine st ?_;refine st ?_;exact cnd (λh=>(a h).out) λh=>(b h).out):G:=f (λh=>⟨kt h⟩) λh=>⟨kf h⟩
theorem gc9{G G1 G2:Prop}{p:Prop}(kt:p->G1)(kf:¬p->G2)(f:(p->Kp G1)->(¬p->Kp G2)->G:=by intro a b;refine st ?_;refine st ?_;refine st ?_;refine st ?_;refine st ?_;refine st ?_;refine st ?_;refine st ?_;refine st ?_;exact cnd (λh=>(a h).out) λh=>(b h).out):G:=f (λh=>⟨kt h⟩) λh=>⟨kf h⟩
theorem zAV{G G1 G2:Prop}{p:Prop}(kt:p->G1)(kf:¬p->G2)(f:(p->Kp G1)->(¬p->Kp G2)->G:=by intro a b;refine st ?_;refine st ?_;refine st ?_;refine st ?_;refine st ?_;refine st ?_;refine st ?_;refine st ?_;refine st ?_;refine st ?_;exact cnd (λh=>(a h).out) λh=>(b h).out):G:=f (λh=>⟨kt h⟩) λh=>⟨kf h⟩
theorem zE9{G G1 G2:Prop}{p:Prop}(kt:p->G1)(kf:¬p->G2)(f:(p->Kp G1)->(¬p->Kp G2)->G:=by intro a b;refine st ?_;refine st ?_;refine st ?_;refine st ?_;refine st ?_;refine st ?_;refine st ?_;refine st ?_;refine st ?_;refine st ?_;refine st ?_;exact cnd (λh=>(a h).out) λh=>(b h).out):G:=f (λh=>⟨kt h⟩) λh=>⟨kf h⟩
theorem zJA{G G1 G2:Prop}{p:Prop}(kt:p->G1)(kf:¬p->G2)(f:(p->Kp G1)->(¬p->Kp G2)->G:=by intro a b;refine st ?_;refine st ?_;refine st ?_;refine st ?_;refine st ?_;refine st ?_;refine st ?_;refine st ?_;refine st ?_;refine st ?_;refine st ?_;refine st ?_;exact cnd (λh=>(a h).out) λh=>(b h).out):G:=f (λh=>⟨kt h⟩) λh=>⟨kf h⟩
end Go.Proofs.YtboaboflnckgoaaGreat
