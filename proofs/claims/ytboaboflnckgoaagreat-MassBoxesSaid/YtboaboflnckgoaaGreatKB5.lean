/- Texts that the proof needs, part 5. -/
import Derived.Test.YtboaboflnckgoaaGreatKB4
namespace Bk
set_option linter.unusedVariables false
set_option linter.unusedSimpArgs false
open Classical
abbrev Tri:=T3 Pt
def pnA(s:Sd)(i:Int):Pt:=s.1.getD i.toNat zT
def inR(s:Sd)(i:Int):Prop:=0≤i∧i<s.1.length
def cnT(s:Sd)(l:List Int):Tri:=T3.mk (pnA s (l.getD 0 0)) (pnA s (l.getD 1 0)) (pnA s (l.getD 2 0))
def yBS(s:Sd)(l:List Int):Nat→Tri
  |0=>T3.mk zT zT zT
  |i+1=>(yBS s l i).set i (pnA s (l.getD i 0))
def fanT(s:Sd)(l:List Int)(q:Nat):Tri:=T3.mk (pnA s (l.getD 0 0)) (pnA s (l.getD (q+1) 0)) (pnA s (l.getD (q+2) 0))
def zI0(s:Sd)(l:List Int):Nat→List Tri:=uU (fanT s l)
def jM(s:Sd)(ls:List (List Int)):Nat→List Tri:=cE fun i=>zI0 s (ls.getD i []) ((ls.getD i []).length-2)
theorem zSH{s:Sd}{l:List Int}{kq:Nat}(h:2≤kq):zI0 s l (kq-2)++[cnT s [l.getD 0 0,l.getD (kq-1) 0,l.getD kq 0]]=zI0 s l (kq+1-2):=by
 obtain⟨q,rfl⟩:∃q,kq=q+2:=⟨kq-2,by omega⟩;rw[show q+2+1-2=q+1 by omega,Nat.add_sub_cancel,show q+2-1=q+1 by omega]
 rfl
theorem zSI{s:Sd}{ls:List (List Int)}{i kq:Nat}(h:kq-2=(ls.getD i []).length-2):jM s ls i++zI0 s (ls.getD i []) (kq-2)=jM s ls (i+1):=by
 rw[h];rfl
theorem zM2{s:Sd}{ls:List (List Int)}(h:∀u,u<ls.length→(ls.getD u []).length≤1000):∀i,i≤ls.length→(jM s ls i).length≤1000*i
  |0,_=>Nat.zero_le _
  |i+1,hi=>by
   have h1:=zM2 (s:=s) h i (by omega);have h2:=h i (by omega);have h3:(zI0 s (ls.getD i []) ((ls.getD i []).length-2)).length=(ls.getD i []).length-2:=wK _ _
   show(jM s ls i++zI0 s (ls.getD i []) ((ls.getD i []).length-2)).length≤_
   rw[lAz];omega
theorem rR{α:Type}{l:List α}{i:Nat}(d:α)(h:i<l.length):l.take i++[l.getD i d]=l.take (i+1):=by
 rw[List.getD_eq_getElem?_getD,List.getElem?_eq_getElem h,List.take_succ_eq_append_getElem h];rfl
def fQ(s:Sd)(F:List Fc):Nat→List Tri:=cE fun f=>jM s (F.getD f zA).2.1 (F.getD f zA).2.1.length
def smT(t:Tri):Pt:=wE (wE t.x t.y) t.z
def scT(q:Rat)(p:Pt):Pt:=T3.mk (q*p.x) (q*p.y) (q*p.z)
def iN(l:List Tri):Rat:=l.foldl (fun a t=>a+aA t.x t.y t.z) 0
def zFU(l:List Tri):Pt:=l.foldl (fun a t=>wE a (scT (aA t.x t.y t.z) (smT t))) zT
def dW(l:List Tri):Pt:=l.foldl (fun a t=>wE a (sO (s4 t.y t.x) (s4 t.z t.x))) zT
theorem zEI(l:List Tri)(t:Tri):iN l+aA t.x t.y t.z=iN (l++[t]):=by unfold iN;rw[List.foldl_append];rfl
theorem zNP(l:List Tri)(t:Tri):wE (zFU l) (scT (aA t.x t.y t.z) (smT t))=zFU (l++[t]):=by unfold zFU;rw[List.foldl_append];rfl
theorem zNO(l:List Tri)(t:Tri):wE (dW l) (sO (s4 t.y t.x) (s4 t.z t.x))=dW (l++[t]):=by unfold dW;rw[List.foldl_append];rfl
def dQ(s:Sd):Rat:=iN (fQ s s.2.1 s.2.1.length)
def zZV(s:Sd):Pt:=zFU (fQ s s.2.1 s.2.1.length)
def arV(s:Sd)(f:Fc):Pt:=scT (1/2) (dW (jM s f.2.1 f.2.1.length))
def lqP(k:Nat)(p:Pt):Prop:=lq p.x≤k∧lq p.y≤k∧lq p.z≤k
theorem zIM{k:Nat}(h:1≤k):lqP k zT:=by
 have:=tK;exact⟨by show lq 0≤k;omega,by show lq 0≤k;omega,by show lq 0≤k;omega⟩
theorem q5{a b:Pt}{k l:Nat}(ha:lqP k a)(hb:lqP l b):lqP (k+l+1) (wE a b):=by
 obtain⟨O,M,J⟩:=ha;obtain⟨I,H,G⟩:=hb;have D:=jA a.x b.x;have C:=jA a.y b.y;have u:=jA a.z b.z;exact⟨by show lq (a.x+b.x)≤_;omega,by show lq (a.y+b.y)≤_;omega,by show lq (a.z+b.z)≤_;omega⟩
theorem zMU{a b:Pt}{k l:Nat}(ha:lqP k a)(hb:lqP l b):lqP (k+l+1) (s4 a b):=by
 obtain⟨O,M,J⟩:=ha;obtain⟨I,H,G⟩:=hb;have D:=zAL a.x b.x;have C:=zAL a.y b.y;have u:=zAL a.z b.z;exact⟨by show lq (a.x-b.x)≤_;omega,by show lq (a.y-b.y)≤_;omega,by show lq (a.z-b.z)≤_;omega⟩
theorem zOS{q:Rat}{b:Pt}{k l:Nat}(ha:lq q≤k)(hb:lqP l b):lqP (k+l) (scT q b):=by
 obtain⟨I,H,G⟩:=hb;have D:=fZ q b.x;have C:=fZ q b.y;have u:=fZ q b.z;exact⟨by show lq (q*b.x)≤_;omega,by show lq (q*b.y)≤_;omega,by show lq (q*b.z)≤_;omega⟩
theorem zE8{a b:Pt}{k l:Nat}(ha:lqP k a)(hb:lqP l b):lqP (2*k+2*l+1) (sO a b):=by
 obtain⟨I,H,G⟩:=ha;obtain⟨D,C,u⟩:=hb;have m:∀x y z w:Rat,lq x≤k→lq y≤l→lq z≤k→lq w≤l→lq (x*y-z*w)≤2*k+2*l+1:=fun x y z w S O M J=>by
  have:=zAL (x*y) (z*w);have:=fZ x y;have:=fZ z w;omega
 exact⟨m _ _ _ _ H u G C,m _ _ _ _ G D I u,m _ _ _ _ I C H D⟩
theorem zVC{a b:Pt}{k l:Nat}(ha:lqP k a)(hb:lqP l b):lq (jH a b)≤3*k+3*l+2:=by
 obtain⟨T,S,O⟩:=ha;obtain⟨M,J,I⟩:=hb;have H:=fZ a.x b.x;have G:=fZ a.y b.y;have D:=fZ a.z b.z;have C:=jA (a.x*b.x) (a.y*b.y);have u:=jA (a.x*b.x+a.y*b.y) (a.z*b.z);unfold jH;omega
theorem zGL{a b c:Pt}{k:Nat}(ha:lqP k a)(hb:lqP k b)(hc:lqP k c):lq (aA a b c)≤15*k+5:=by
 have:=zVC ha (zE8 hb hc);unfold aA;omega
def lqT(k:Nat)(t:Tri):Prop:=lqP k t.x∧lqP k t.y∧lqP k t.z
theorem zMP{k:Nat}:∀(l:List Tri) (a:Rat),(∀t,t∈l→lqT k t)→lq (l.foldl (fun a t=>a+aA t.x t.y t.z) a)≤lq a+l.length*(15*k+6)
  |[],a,_=>by simp
  |t::l,a,h=>by
   obtain⟨h1,h2,h3⟩:=h t (.head _);have hd:=zGL h1 h2 h3;have ha:=jA a (aA t.x t.y t.z);have ih:=zMP l (a+aA t.x t.y t.z) (fun u hu=>h u (.tail _ hu));rw[List.foldl_cons,lC,Nat.succ_mul];omega
theorem zLG{k:Nat}{t:Tri}(h:lqT k t):lqP (3*k+2) (smT t):=by
 have:=q5 (q5 h.1 h.2.1) h.2.2;rw[show k+k+1+k+1=3*k+2 by omega] at this;exact this
theorem oU{k l:Nat}{p:Pt}(h:lqP k p)(hkl:k≤l):lqP l p:=⟨Nat.le_trans h.1 hkl,Nat.le_trans h.2.1 hkl,Nat.le_trans h.2.2 hkl⟩
theorem zMQ{k:Nat}:∀(l:List Tri) (a:Pt) (m:Nat),lqP m a→(∀t,t∈l→lqT k t)→lqP (m+l.length*(18*k+8)) (l.foldl (fun a t=>wE a (scT (aA t.x t.y t.z) (smT t))) a)
  |[],a,m,ha,_=>by simpa using ha
  |t::l,a,m,ha,h=>by
   have ht:=h t (.head _);have hd:=zGL ht.1 ht.2.1 ht.2.2;have hs:=zOS hd (zLG ht);have ih:=zMQ l _ _ (q5 ha hs) (fun u hu=>h u (.tail _ hu));rw[List.foldl_cons,lC,Nat.succ_mul];exact oU ih (by omega)
theorem zMO{k:Nat}:∀(l:List Tri) (a:Pt) (m:Nat),lqP m a→(∀t,t∈l→lqT k t)→lqP (m+l.length*(8*k+6)) (l.foldl (fun a t=>wE a (sO (s4 t.y t.x) (s4 t.z t.x))) a)
  |[],a,m,ha,_=>by simpa using ha
  |t::l,a,m,ha,h=>by
   have ht:=h t (.head _);have hs:=zE8 (zMU ht.2.1 ht.1) (zMU ht.2.2 ht.1);have ih:=zMO l _ _ (q5 ha hs) (fun u hu=>h u (.tail _ hu));rw[List.foldl_cons,lC,Nat.succ_mul];exact oU ih (by omega)
theorem zL5{β:Type}{h:Mem}{v:Go.Value}{k:Nat}{σ:Rp β}{x:List Pt×β}(r:(rpP (rpS (rpT (rpQ k))) σ).Is h v x):∀i,i<x.1.length→lqP k (x.1.getD i zT):=by
 obtain⟨cs,⟨a,b,rfl,⟨G,ds,rfl,H,u⟩,_⟩,_⟩:=r;intro i hi;have:=u.get (List.getElem?_eq_getElem hi);obtain⟨_,_,_,⟨_,D⟩,_,_,_,⟨_,C⟩,⟨_,z⟩⟩:=this;rw[List.getD_eq_getElem?_getD,List.getElem?_eq_getElem hi];exact⟨D,C,z⟩
theorem zX6{h:Mem}{cs:List Go.Value}{a b:Pt}{k l:Nat}(r:(rpT (rpQ k)).R h cs a)(e:a=b)(hl:lqP l b):(rpT (rpQ l)).R h cs b:=by
 subst e;obtain⟨x,_,rfl,⟨D,_⟩,y,z,rfl,⟨C,_⟩,⟨u,_⟩⟩:=r;exact⟨x,_,rfl,⟨D,hl.1⟩,y,z,rfl,⟨C,hl.2.1⟩,⟨u,hl.2.2⟩⟩
def zZN(s:Sd)(f:Fc):Prop:=(∀u v,u<f.2.1.length→v<(f.2.1.getD u []).length→inR s ((f.2.1.getD u []).getD v 0))∧(∀u,u<f.2.1.length→(f.2.1.getD u []).length≤1000)∧f.2.1.length≤1000
def zGV(s:Sd)(F:List Fc):Prop:=(∀i,i<F.length→zZN s (F.getD i zA))∧F.length≤1000∧(fQ s F F.length).length≤1000
theorem zDK{s:Sd}{k:Nat}(hp:∀i,i<s.1.length→lqP k (s.1.getD i zT)){f:Fc}(hf:zZN s f):∀t,t∈jM s f.2.1 f.2.1.length→lqT k t:=by
 intro t G;obtain⟨u,D,z⟩:=nD G;obtain⟨q,H,rfl⟩:=zBX z;have g:∀v,v<(f.2.1.getD u []).length→lqP k (pnA s ((f.2.1.getD u []).getD v 0)):=fun v C=>by
  obtain⟨z,I⟩:=hf.1 u v D C;exact hp _ (by omega)
 exact⟨g 0 (by omega),g (q+1) (by omega),g (q+2) (by omega)⟩
theorem zJF{s:Sd}{F:List Fc}{i n:Nat}(h:i≤n):(fQ s F i).length≤(fQ s F n).length:=by
 induction n with
 |zero=>rw[show i=0 by omega];exact Nat.le_refl _
 |succ n ih=>
  rcases Nat.lt_or_ge i (n+1) with h1|h1
  · refine Nat.le_trans (ih (by omega)) ?_
    show _≤(fQ s F n++_).length
    rw[lAz];omega
  · rw[show i=n+1 by omega];exact Nat.le_refl _
theorem eA{s:Sd}{F:List Fc}{k:Nat}(ho:zGV s F)(hp:∀i,i<s.1.length→lqP k (s.1.getD i zT)){i q:Nat}(hi:i<F.length):
 (fQ s F i++(jM s (F.getD i zA).2.1 (F.getD i zA).2.1.length).take q).length≤1000∧∀t,t∈fQ s F i++(jM s (F.getD i zA).2.1 (F.getD i zA).2.1.length).take q→lqT k t:=by
 have H:=zJF (s:=s) (F:=F) (show i+1≤F.length from hi);have D:(fQ s F (i+1)).length=(fQ s F i++jM s (F.getD i zA).2.1 (F.getD i zA).2.1.length).length:=rfl;rw[lAz] at D;refine⟨by rw[lAz,List.length_take];have:=ho.2.2;omega,fun t z=>?_⟩
 rcases List.mem_append.1 z with h3|h3
 · obtain⟨u,G,C⟩:=nD h3
   exact zDK hp (ho.1 u (by omega)) t C
 · exact zDK hp (ho.1 i hi) t (List.mem_of_mem_take h3)
theorem j7{s:Sd}{F:List Fc}(ho:zGV s F){i:Nat}(hi:i<F.length):(jM s (F.getD i zA).2.1 (F.getD i zA).2.1.length).length≤1000:=by
 have z:=zJF (s:=s) (F:=F) (show i+1≤F.length from hi);have u:(fQ s F (i+1)).length=(fQ s F i++jM s (F.getD i zA).2.1 (F.getD i zA).2.1.length).length:=rfl;rw[lAz] at u;have:=ho.2.2;omega
theorem aG{n a:Nat}(h:n≤1000):n*a≤1000*a:=Nat.mul_le_mul_right _ h
theorem yBE{l:List Tri}{k:Nat}(h:l.length≤1000∧∀t,t∈l→lqT k t):lq (iN l)≤20000*k+100000:=by
 have C:=zMP l 0 h.2;have z:=aG (a:=15*k+6) h.1;have u:=tK;unfold iN;omega
theorem lq_C{l:List Tri}{k:Nat}(h:l.length≤1000∧∀t,t∈l→lqT k t):lqP (20000*k+100000) (zFU l):=by
 have u:=zMQ l zT 1 (zIM (by decide)) h.2;have z:=aG (a:=18*k+8) h.1;exact oU u (by omega)
theorem lq_V{l:List Tri}{k:Nat}(h:l.length≤1000∧∀t,t∈l→lqT k t):lqP (20000*k+100000) (dW l):=by
 have u:=zMO l zT 1 (zIM (by decide)) h.2;have z:=aG (a:=8*k+6) h.1;exact oU u (by omega)
noncomputable def cnS(s:Sd):Pt:=if((4:Int):Rat)*dQ s=0 then zT else scT (((1:Int):Rat)/(((4:Int):Rat)*dQ s)) (zZV s)
def cnO(s:Sd):Prop:=¬((4:Int):Rat)*dQ s=0
noncomputable def arS(s:Sd)(d:Int):Nat→Rat×Rat
  |0=>(0,0)
  |i+1=>((arS s d i).1+cD (jH (arV s (s.2.1.getD i zA)) (arV s (s.2.1.getD i zA))) d,(arS s d i).2+cP (jH (arV s (s.2.1.getD i zA)) (arV s (s.2.1.getD i zA))) d)
theorem yBD{a:Rat}{k:Nat}(h:lq a≤k)(n:Int):lq (cD a n)≤k+140∧lq (cP a n)≤k+140:=by
 have h0:=tK;unfold cD cP
 by_cases ho:zGI a n
 · rw[if_pos ho,if_pos ho]
   exact⟨zVA h n,zU9 h (zAH (Classical.not_not.1 (fun e=>e ho))).2.2.1 n⟩
 · rw[if_neg ho,if_neg ho];omega
def zZ3(s:Sd):Prop:=∀i,i<s.2.1.length→lq (jH (arV s (s.2.1.getD i zA)) (arV s (s.2.1.getD i zA)))≤200
theorem zLF{s:Sd}(h:zZ3 s)(d:Int):∀i,i≤s.2.1.length→lq (arS s d i).1≤1+341*i∧lq (arS s d i).2≤1+341*i
  |0,_=>by have h0:=tK;exact⟨by show lq 0≤_;omega,by show lq 0≤_;omega⟩
  |i+1,hi=>by
   obtain⟨h1,h2⟩:=zLF h d i (by omega);obtain⟨h3,h4⟩:=yBD (h i (by omega)) d;have h5:=jA (arS s d i).1 (cD (jH (arV s (s.2.1.getD i zA)) (arV s (s.2.1.getD i zA))) d);have h6:=jA (arS s d i).2 (cP (jH (arV s (s.2.1.getD i zA)) (arV s (s.2.1.getD i zA))) d);exact⟨by show lq (_+_)≤_;omega,by show lq (_+_)≤_;omega⟩
theorem reb2{h:Mem}{cs:List Go.Value}{a b:Rat×Rat}{k l k' l':Nat}(r:(rpP (rpQ k) (rpQ l)).R h cs a)(e:a=b)(h1:lq b.1≤k')(h2:lq b.2≤l'):(rpP (rpQ k') (rpQ l')).R h cs b:=by
 subst e;obtain⟨x,y,rfl,⟨z,_⟩,⟨u,_⟩⟩:=r;exact⟨x,y,rfl,⟨z,h1⟩,⟨u,h2⟩⟩
end Bk
namespace Go.Proofs.YtboaboflnckgoaaGreat
open Bk Go Tryz
set_option linter.unusedVariables false
set_option linter.unusedSimpArgs false
set_option maxRecDepth 10000
set_option maxHeartbeats 1000000
attribute [local irreducible] GL GC GQ W OpV
theorem zCX{w0:World}{h0:Mem}(hs:MLe h0 (mem w0)){k m n j:Nat}{vs:Value}{s:Sq}(rs:(tSd k m n j).Is h0 vs s){vlz:Value}{lz:(List Int)}(rlz:(rpS rpI).Is h0 vlz lz)(hcd0:lz.length=3)(hcd1:∀u,u<3→inR s (lz.getD u 0)):
 Calls Tryz.prog 113 #[vs,vlz] w0 (Ret w0 h0 (fun h r=>∃u0,r=.tuple #[u0,vB (True)]∧(rpT (tPt (k+1))).Is h u0 (cnT s lz))):=by
 refine cb2 35 vs vlz func113 hs ?_;refine go2 ?_;refine nB rs fun b2 an M=>(nA (ρ:=(rpT (tPt (k+1)))) (X:=(T3.mk zT zT zT)) rZ (xY (xY (yH oM))) fun b4 am ab=>(go5 ?_));refine nA (ρ:=(rpT (tPt (k+1)))) (X:=(T3.mk zT zT zT)) rZ (xY (xY (yH oM))) fun b6 ak aa=>(qT ?_);refine gcL (ι:=Nat×List Value×Mem) (fun(i,z,O)=>(MLe h0 O∧((rpT (tPt (k+1))).R O z (yBS s lz i)∧i≤3),[(2,vP b2 0),(4,vP b4 0),(6,vP b6 0),(9,vlz),(10,vI (↑(lz).length:Int)),(11,vI ↑i)],[.var b6 108 z,.var b4 108 am,.var b2 50 an],O,3-i)) (0,ak,h0) ?_ ?_
 · exact⟨mle,aa,oM⟩
 rintro⟨i,z,O⟩ ⟨ap,C,T⟩
 refine yU ?_;have bf:=T;refine gc6 (fun Y=>?_) fun Y=>?_
 ·
  obtain⟨be,bd⟩:=hcd1 i oM;refine go7 ?_;refine lX (xI (0:Int) i underlying32 ty3 rlz) fun bb aj=>(lX (xA ty3 aj) fun ba ai=>?_);obtain⟨rfl,aq,ao⟩:=jX ai;refine go9 ?_;refine gU 7 24 (vB (((lz.getD i (0:Int))<(0:Int))∨((↑(s.1).length:Int)≤(lz.getD i (0:Int))))) ?_ ?_
  ·
   refine yD ((lz.getD i (0:Int))<(0:Int)) (fun U=>?_) (fun U=>?_)
   ·
    refine gT U rfl (go7 ?_);refine gqU ?_;exact congrArg some (vZ U)
   refine gF U rfl (go5 ?_);refine lX (xB uR (Pc.fst pH) M) fun az bc=>(go6 ?_);refine gqU ?_;exact congrArg some (uA U)
  refine gc2 (fun D=>?_) fun D=>?_
  · exact absurd D oM
  refine go5 ?_;refine lX (xB uR (Pc.fst pH) M) fun ay ah=>(go1 ?_);refine lX (xI zT ((lz.getD i 0).toNat) underlying46 zU ah) fun ax ae=>(lX (xA zU ae) fun aw ad=>(gv ((zX (sz:=9) i underlying108 sizeOf53 rfl rfl oM oM).cv (show _=vP b6 ((i*9+0)) from congrArg (vP b6) oM)) rfl (zS (A:=[]) (uB sizeOf53 (Pc.ta pH i oM) C (ad.le (Le.t (Le.q (l:=k+1) oM)))) fun Z J=>(go7 ?_))));refine gqL ((i+1),Z,O) ?_ ?_
  · exact⟨mle,J,oM⟩
  omega
 have ei:i=3:=by omega
 refine go7 ?_;refine lX (xB pC pH C) fun av ac=>(zS (A:=[_]) (uB sizeOf108 pH ab ac) fun ar I=>(go4 ?_));refine wM (kA (t:=4) pC mh1 rfl I) ?_;intro au G H;refine yG (fun E S=>vV rfl G (jQ rfl) E S) ?_;refine⟨_,?_,(Rp.Is.cast H (by rw[ei];rfl))⟩;rw[xM trivial]
theorem tI{w0:World}{h0:Mem}(hs:MLe h0 (mem w0)){k m n j:Nat}{vs:Value}{s:Sq}(rs:(tSd k m n j).Is h0 vs s){vf:Value}{f:(Pq×((List (List Int))×(List Nat)))}(rf:(tFc m n).Is h0 vf f)(hcd0:∀u v,u<f.2.1.length→v<(f.2.1.getD u []).length→inR s ((f.2.1.getD u []).getD v 0))(hcd1:∀u,u<f.2.1.length→(f.2.1.getD u []).length≤1000)(hcd2:f.2.1.length≤1000):
 Calls Tryz.prog 68 #[vs,vf] w0 (Ret w0 h0 (fun h r=>(rpS (rpT (tPt (k+1)))).Is h r (jM s f.2.1 f.2.1.length))):=by
 refine cb2 49 vs vf func68 hs ?_;refine go2 ?_;refine nB rs fun b2 au az=>(nB rf fun b3 ar ay=>(qO ?_));refine lX (xB cJ (Pc.snd (Pc.fst pH)) ay) fun ac bk=>(go5 ?_);refine xR 108 27 ?_;have ad:=RL.nil (ρ:=rpT (tPt (k+1))) (h:=h0);refine gcL (ι:=Nat×List Tri×Value×List Value×Mem) (fun(i,OU,D,H,ma)=>(MLe h0 ma∧(RL (rpT (tPt (k+1))) ma H OU∧i≤f.2.1.length∧OU=jM s f.2.1 i),[(2,vP b2 0),(5,D),(12,ac),(13,vI (↑(f.2.1).length:Int)),(14,vI ↑i)],[.gs 108 27 D OU.length H,.var b3 83 ar,.var b2 50 au],ma,f.2.1.length-i)) (0,[],(.slice none 0 0),[],h0) ?_ ?_
 · exact⟨mle,ad,by omega,rfl⟩
 rintro⟨i,OU,D,H,ma⟩ ⟨bu,J,bn,ap⟩
 refine yU ?_;refine gc6 (fun ao=>?_) fun ao=>?_
 ·
  refine go6 ?_;refine lX (xI [] i underlying81 fO bk) fun cn bj=>(lX (xA fO bj) fun aw aa=>(go9 ?_));refine gcL (ι:=Nat×List Tri×Value×List Value×Mem) (fun(z,OV,C,G,mb)=>(MLe ma mb∧(RL (rpT (tPt (k+1))) mb G OV∧(2≤z∧(z≤(f.2.1.getD i []).length∨z=2))∧OV=jM s f.2.1 i++zI0 s (f.2.1.getD i []) (z-2)),[(2,vP b2 0),(5,C),(7,aw),(8,vI ↑z),(12,ac),(13,vI (↑(f.2.1).length:Int)),(14,vI ↑i)],[.gs 108 27 C OV.length G,.var b3 83 ar,.var b2 50 au],mb,(f.2.1.getD i []).length-z)) (2,OU,D,H,ma) ?_ ?_
  · exact⟨mle,J,by omega,by rw[ap];exact(List.append_nil _).symm⟩
  rintro⟨z,OV,C,G,mb⟩ ⟨bt,I,bm,ab⟩
  refine yU ?_;have cv:=hcd1 i oM;have bz:OV.length≤1000*i+1000:=by rw[ab,lAz];have h8:=zM2 (s:=s) hcd1 i bn;have h9:(zI0 s (f.2.1.getD i []) (z-2)).length=z-2:=wK _ _;omega
  refine gc9 (fun an=>?_) fun an=>?_
  ·
   have am:=hcd0 i 0 oM oM;have ak:=hcd0 i (z-1) oM oM;have aj:=hcd0 i z oM oM;refine go5 ?_;refine zK 21 _ [(18,(9,108,[.bool false,.slice none 0 0,.slice none 0 0,.bool false,.slice none 0 0,.slice none 0 0,.bool false,.slice none 0 0,.slice none 0 0,.bool false,.slice none 0 0,.slice none 0 0,.bool false,.slice none 0 0,.slice none 0 0,.bool false,.slice none 0 0,.slice none 0 0,.bool false,.slice none 0 0,.slice none 0 0,.bool false,.slice none 0 0,.slice none 0 0,.bool false,.slice none 0 0,.slice none 0 0]))] [(0,.q),(1,.q),(2,.q),(3,.q),(4,.q),(5,.q),(6,.q),(7,.q),(8,.q),(9,.q),(10,.q),(11,.q),(12,.q),(13,.c),(14,.c),(15,.q),(16,.q),(17,.q),(18,.a),(19,.c),(20,.q)] yC (jL.cons rfl rfl (uX rZ rfl rfl) jL.nil) (vJ (by kernel_rfl)) (uZ rfl rfl kM) (fun r hr=>hr) (wX rfl (xB kF pH az) fun cm bi=>(go1 ?_));refine mX (F:=fun v_=>AtP rpI mb v_ ((f.2.1.getD i []).getD 0 (0:Int))) rfl (lH (q:=0) (0:Int) 0 underlying32 ty3 rfl rfl aa.up rfl oM nP) zBI rfl ?_;intro cl bh;refine wX rfl (xA ty3 bh) fun ck bg=>?_;obtain⟨rfl,bx,bs⟩:=jX bg;refine go3 ?_;refine wX rfl (xI (0:Int) (z-1) underlying32 ty3 aa) fun cj bf=>(wX rfl (xA ty3 bf) fun ci be=>?_);obtain⟨rfl,bw,br⟩:=jX be;refine go2 ?_;refine wX rfl (xI (0:Int) z underlying32 ty3 aa) fun ch bd=>(wX rfl (xA ty3 bd) fun cg bc=>?_);obtain⟨rfl,bv,bq⟩:=jX bc;refine w_c rfl (kU (fun X=>zW (ρ:=rpI) (m:=3) (xs:=[((f.2.1.getD i []).getD 0 (0:Int)),((f.2.1.getD i []).getD (z-1) (0:Int)),((f.2.1.getD i []).getD z (0:Int))]) (ps':=[(0,_),(1,_),(2,_)]) underlying32 gJ rfl rfl rfl wG e6z (zI rfl (Pc.arr (Pc.here _) (0:Int) 0 dC) (qD oM oM) (zI rfl (Pc.arr (Pc.here _) (0:Int) 1 dC) (qD oM oM) (zI rfl (Pc.arr (Pc.here _) (0:Int) 2 dC) (qD oM oM) zY))) (show 3*1≤16777216 from by decide) nP) rfl ?_)
   rintro cf cq ⟨cb,rfl,ai⟩
   refine w_c rfl (vG (A:=[]) (ρ:=rpI) ai dK ?_);intro h1 bo Y;refine sC (ev2 rfl rfl) call113 (fun w hs=>zCX hs bi.up Y (by first|rfl|omega|exact fun u hu=>by match u,hu with|0,_=>exact am|1,_=>exact ak|2,_=>exact aj) (by first|rfl|omega|exact fun u hu=>by match u,hu with|0,_=>exact am|1,_=>exact ak|2,_=>exact aj)) fun ce h2 cu bb=>?_;obtain⟨S,rfl,M⟩:=bb
   change (rpT (tPt (k+1))).Is h2 S (cnT s [((f.2.1.getD i []).getD 0 (0:Int)),((f.2.1.getD i []).getD (z-1) (0:Int)),((f.2.1.getD i []).getD z (0:Int))]) at M
   refine go3 ?_;refine w_a rfl rfl (fun b9=>?_);have ax:(rpT (tPt (k+1))).R h2 [.bool false,.slice none 0 0,.slice none 0 0,.bool false,.slice none 0 0,.slice none 0 0,.bool false,.slice none 0 0,.slice none 0 0,.bool false,.slice none 0 0,.slice none 0 0,.bool false,.slice none 0 0,.slice none 0 0,.bool false,.slice none 0 0,.slice none 0 0,.bool false,.slice none 0 0,.slice none 0 0,.bool false,.slice none 0 0,.slice none 0 0,.bool false,.slice none 0 0,.slice none 0 0] (T3.mk zT zT zT):=(xY (xY (yH oM)));refine w_c rfl (bD (A:=[]) (uB sizeOf108 pH ax M) (wN (by first|(simp;done)|grind)) fun bp Z=>(gc8 (fun O=>?_) fun O=>?_))
   ·
    refine go2 ?_;refine lX (xB pC pH Z) fun cd ba=>(zF (zW (ρ:=(rpT (tPt (k+1)))) (m:=1) (xs:=[cnT s [((f.2.1.getD i []).getD 0 (0:Int)),((f.2.1.getD i []).getD (z-1) (0:Int)),((f.2.1.getD i []).getD z (0:Int))]]) (ps':=[(0,_)]) underlying106 rZ rfl rfl rfl (xY (xY (yH oM))) e2z (zI rfl (Pc.arr (Pc.here _) (T3.mk zT zT zT) 0 dC) ba zY) (show 1*27≤16777216 from by decide) nP) rfl rfl rfl ?_)
    rintro cc cp ⟨ca,rfl,ah⟩
    refine yJ (A:=[]) (ρ:=(rpT (tPt (k+1)))) ah ?_;intro h3 ct U;refine xT (A:=[_]) (yF (ρ:=(rpT (tPt (k+1)))) (bytes:=504) underlying106 rZ rfl rfl rfl rfl nP rfl rfl I.up U bO bO) rfl rfl rfl ?_
    rintro av co ⟨aq,rfl,ae⟩
    refine go9 ?_;refine vT (A:=[]) ?_;refine gqL ((z+1),(OV++[cnT s [((f.2.1.getD i []).getD 0 (0:Int)),((f.2.1.getD i []).getD (z-1) (0:Int)),((f.2.1.getD i []).getD z (0:Int))]]),av,aq,h3) ?_ ?_
    · exact⟨mle,ae,by omega,by rw[ab,List.append_assoc,zSH bm.1]⟩
    omega
   exact absurd trivial O
  have bl:z-2=(f.2.1.getD i []).length-2:=by omega
  refine uQ ?_;refine gqL ((i+1),OV,C,G,mb) ?_ ?_
  · exact⟨mle,I.up,by omega,by rw[ab];exact zSI bl⟩
  omega
 have ei:i=f.2.1.length:=by omega
 refine qO ?_;refine wY (A:=[]) (ρ:=(rpT (tPt (k+1)))) J ?_;intro h1 bo T;refine zD rfl rfl ?_;exact(Rp.Is.cast T (by rw[ap,ei]))
theorem cO{w0:World}{h0:Mem}(hs:MLe h0 (mem w0)){k m n j:Nat}{vs:Value}{s:Sq}(rs:(tSd k m n j).Is h0 vs s)(hcd0:nmA s)(hcd1:∀f,f<s.2.1.length→(s.2.1.getD f zA).2.1.length≤10000∧∀l,l<(s.2.1.getD f zA).2.1.length→((s.2.1.getD f zA).2.1.getD l []).length≤10000)(hcd2:s.2.1.length≤1000):
 Calls Tryz.prog 67 #[vs] w0 (Ret w0 h0 (fun h r=>(rpS (tFc (m+1) (n+1))).Is h r s.2.1)):=by
 refine cb1 52 vs func67 hs ?_;refine go2 ?_;refine nB rs fun b1 Y ad=>(qO ?_);refine lX (xB tM (Pc.snd (Pc.fst pH)) ad) fun J az=>(go5 ?_);refine xR 83 14 ?_;have T:=RL.nil (ρ:=rpP (tPl (m+1) (n+1)) (rpP tII fD)) (h:=h0);refine gcL (ι:=Nat×List Fc×Value×List Value×Mem) (fun(i,I,z,C,Z)=>(MLe h0 Z∧(RL (tFc (m+1) (n+1)) Z C I∧i≤s.2.1.length∧I=s.2.1.take i),[(1,vP b1 0),(3,z),(12,J),(13,vI (↑(s.2.1).length:Int)),(14,vI ↑i)],[.gs 83 14 z I.length C,.var b1 50 Y],Z,s.2.1.length-i)) (0,[],(.slice none 0 0),[],h0) ?_ ?_
 · exact⟨mle,T,by omega,rfl⟩
 rintro⟨i,I,z,C,Z⟩ ⟨bf,D,bx,U⟩
 refine yU ?_;have ca:I.length=i:=by rw[U,List.length_take];omega
 refine gc6 (fun aj=>?_) fun aj=>?_
 ·
  refine go6 ?_;refine lX (xI zA i underlying47 fR az) fun bp ay=>(lX (xA fR ay) fun bo ax=>(nA (ρ:=(tFc 1 1)) (X:=((zT,(0:Rat)),([],([]:List Nat)))) jB (yL (yL (xY (yH dC)) (yH dC)) (yL qJ kO)) fun b5 cb ao=>?_));have M:=(Le.p (Le.p (Le.t (Le.q (l:=m+1) oM)) (Le.q (l:=n+1) oM)) (Le.refl _)).R ao;refine zS (A:=[]) (uB sizeOf83 pH M (ax.le (Le.p (Le.p (Le.t (Le.q (l:=m+1) oM)) (Le.q (l:=n+1) oM)) (Le.refl _)))) fun H G=>(qT ?_);refine lX (xB cJ (Pc.snd (Pc.fst pH)) G) fun aa aw=>(go5 ?_);refine gcL (ι:=Nat×Mem) (fun(l,mb)=>(MLe Z mb∧(l≤(s.2.1.getD i zA).2.1.length),[(1,vP b1 0),(3,z),(5,vP b5 0),(6,.bool true),(12,J),(13,vI (↑(s.2.1).length:Int)),(14,vI ↑i),(19,aa),(20,vI (↑(((s.2.1.getD i zA).2).1).length:Int)),(21,vI ↑l)],[.var b5 83 H,.gs 83 14 z I.length C,.var b1 50 Y],mb,(s.2.1.getD i zA).2.1.length-l)) (0,Z) ?_ ?_
  · exact⟨mle,oM⟩
  rintro⟨l,mb⟩ ⟨be,ae⟩
  refine yU ?_;have bw:=ae;have bb:=hcd1 i oM;refine gc6 (fun ai=>?_) fun ai=>?_
  ·
   refine go6 ?_;refine lX (xI [] l underlying81 fO aw) fun bn av=>(lX (xA fO av) fun an au=>(qT ?_));refine gcL (ι:=Nat×Mem) (fun(u,mc)=>(MLe mb mc∧(u≤((s.2.1.getD i zA).2.1.getD l []).length),[(1,vP b1 0),(3,z),(5,vP b5 0),(6,.bool true),(12,J),(13,vI (↑(s.2.1).length:Int)),(14,vI ↑i),(19,aa),(20,vI (↑(((s.2.1.getD i zA).2).1).length:Int)),(21,vI ↑l),(25,an),(26,vI (↑(((((s.2.1.getD i zA).2).1).getD l [])).length:Int)),(27,vI ↑u)],[.var b5 83 H,.gs 83 14 z I.length C,.var b1 50 Y],mc,((s.2.1.getD i zA).2.1.getD l []).length-u)) (0,mb) ?_ ?_
   · exact⟨mle,oM⟩
   rintro⟨u,mc⟩ ⟨bd,bt⟩
   refine yU ?_;have bz:=bb.2 l oM;refine gc6 (fun ah=>?_) fun ah=>?_
   ·
    obtain⟨bv,bu⟩:=hcd0 i oM l oM u oM;refine go6 ?_;refine lX (xI (0:Int) u underlying32 ty3 au) fun bm ar=>(lX (xA ty3 ar) fun bl aq=>?_);obtain⟨rfl,bg,bc⟩:=jX aq;refine go9 ?_;refine gv (OpV.tr oM (bJ (q:=0) rfl rfl)) rfl (go7 ?_);refine lX (xB uR (Pc.fst pH) ad) fun bk bq=>(go3 ?_);refine gv (OpV.tr oM (yN rfl rfl)) rfl (go9 ?_);refine gqL ((u+1),mc) ?_ ?_
    · exact⟨mle,oM⟩
    omega
   refine uQ ?_;refine gqL ((l+1),mc) ?_ ?_
   · exact⟨mle,oM⟩
   omega
  refine sL ?_;refine lX (xB fR pH G) fun bj ap=>(zF (zW (ρ:=(tFc (m+1) (n+1))) (m:=1) (xs:=[(s.2.1.getD i zA)]) (ps':=[(0,_)]) underlying47 jB rfl rfl rfl (yL (yL (xY (yH oM)) (yH oM)) (yL qJ kO)) e2z (zI rfl (Pc.arr (Pc.here _) zA 0 dC) ap zY) (show 1*14≤16777216 from by decide) nP) rfl rfl rfl ?_)
  rintro bi bs ⟨bh,rfl,ac⟩
  refine yJ (A:=[]) (ρ:=(tFc (m+1) (n+1))) ac ?_;intro h1 ba S;refine xT (A:=[_]) (yF (ρ:=(tFc (m+1) (n+1))) (bytes:=264) underlying47 jB rfl rfl rfl rfl nP rfl rfl D.up S bO bO) rfl rfl rfl ?_
  rintro am br ⟨ak,rfl,ab⟩
  refine go8 ?_;refine vT (A:=[]) ?_;refine gqL ((i+1),(I++[(s.2.1.getD i zA)]),am,ak,h1) ?_ ?_
  · exact⟨mle,ab,by omega,by rw[U];exact rR zA oM⟩
  omega
 have ei:i=s.2.1.length:=by omega
 refine qO ?_;refine wY (A:=[]) (ρ:=(tFc (m+1) (n+1))) D.up ?_;intro h1 ba O;refine zD rfl rfl ?_;exact(Rp.Is.cast O (by rw[U,ei,List.take_length]))
theorem zUW{w0:World}{h0:Mem}(hs:MLe h0 (mem w0)){k:Nat}{va:Value}{a:Tq}(ra:(tPt k).Is h0 va a){vb:Value}{b:Tq}(rb:(tPt k).Is h0 vb b){vc:Value}{c:Tq}(rc:(tPt k).Is h0 vc c)(hcd0:k≤1000000):
 Calls Tryz.prog 114 #[va,vb,vc] w0 (Ret w0 h0 (fun h r=>(rpQ (20*k+40)).Is h r (aA a b c))):=by
 refine cb3 12 va vb vc func114 hs ?_;refine go2 ?_;refine nB ra fun b3 ah M=>(nB rb fun b4 ae J=>(nB rc fun b5 ad I=>(nA (ρ:=(rpQ (20*k+40))) (X:=(0:Rat)) yP (yH oM) fun b6 ac H=>(go3 ?_))));refine zK 5 _ [] [(0,.q),(1,.q),(2,.q),(3,.c),(4,.c),(5,.t)] yC nX (by kernel_rfl) nX (fun r hr=>hr) (wX rfl (xB zU pH M) fun v7 r7=>(wX rfl (xB zU pH J) fun v8 r8=>(wX rfl (xB zU pH I) fun v9 Z=>?_)));refine w_c rfl (sC (ev2 rfl rfl) call132 (fun w hs=>zEV hs r8 Z oM) fun Y h1 ab G=>?_);replace G:=Rp.Is.le G (Le.t (Le.q (l:=4*k+3) oM));refine w_c rfl (sC (ev2 rfl rfl) call88 (fun w hs=>zMI hs r7.up G oM) fun U h2 aa D=>?_);replace D:=Rp.Is.le D (Le.q (l:=15*k+18) oM);refine yK (A:=[]) rfl (uB sizeOf26 pH H (D.le (Le.q (l:=20*k+40) oM))) fun O C=>(go3 ?_);refine wM (kA (t:=6) yB mh0 rfl C) ?_;intro T u z;refine yG (fun E S=>zQ rfl u E S) ?_;exact z
theorem aS{w0:World}{h0:Mem}(hs:MLe h0 (mem w0)){k:Nat}{vt:Value}{t:(T3 Tq)}(rt:(rpT (tPt k)).Is h0 vt t)(hcd0:k≤1000000):
 Calls Tryz.prog 69 #[vt] w0 (Ret w0 h0 (fun h r=>(rpQ (20*k+40)).Is h r (aA t.x t.y t.z))):=by
 refine cb1 10 vt func69 hs ?_;refine go2 ?_;refine nB rt fun b1 Z G=>(nA (ρ:=(rpQ (20*k+40))) (X:=(0:Rat)) yP (yH oM) fun b2 Y H=>(go5 ?_));refine lX (xB zU (Pc.tx pH) G) fun v4 r4=>(go1 ?_);refine lX (xB zU (Pc.ty pH) G) fun v6 T=>(go1 ?_);refine lX (xB zU (Pc.tz pH) G) fun v8 O=>(cL (ev3 rfl rfl rfl) call114 (fun w hs=>zUW hs r4 T O oM) fun v9 h1 U M=>(zS (A:=[]) (uB sizeOf26 pH H M) fun I D=>(go3 ?_)));refine wM (kA (t:=2) yB mh0 rfl D) ?_;intro J u C;refine yG (fun E S=>zQ rfl u E S) ?_;exact C
theorem zCW{w0:World}{h0:Mem}(hs:MLe h0 (mem w0)){k:Nat}{vt:Value}{t:(T3 Tq)}(rt:(rpT (tPt k)).Is h0 vt t)(hcd0:k≤1000000):
 Calls Tryz.prog 73 #[vt] w0 (Ret w0 h0 (fun h r=>(tPt (4*k+10)).Is h r (smT t))):=by
 refine cb1 11 vt func73 hs ?_;refine go2 ?_;refine nB rt fun b1 ac D=>(nA (ρ:=(tPt (4*k+10))) (X:=zT) yW (xY (yH oM)) fun b2 ab H=>(go3 ?_));refine zK 8 _ [] [(0,.q),(1,.q),(2,.q),(3,.q),(5,.q),(6,.q),(4,.c),(7,.c),(8,.t)] yC nX (by kernel_rfl) nX (fun r Y=>Y) (go1 ?_);refine wX rfl (xB zU (Pc.tx pH) D) fun v4 r4=>(go1 ?_);refine wX rfl (xB zU (Pc.ty pH) D) fun v6 U=>(go1 ?_);refine wX rfl (xB zU (Pc.tz pH) D) fun v9 T=>?_;refine w_c rfl (sC (ev2 rfl rfl) call71 (fun w hs=>zBU hs r4 U oM) fun v7 h1 aa I=>?_);replace I:=Rp.Is.le I (Le.t (Le.q (l:=2*k+2) oM));refine w_c rfl (sC (ev2 rfl rfl) call71 (fun w hs=>zBU hs I T.up oM) fun O h2 Z G=>?_);replace G:=Rp.Is.le G (Le.t (Le.q (l:=3*k+4) oM));refine yK (A:=[]) rfl (uB sizeOf53 pH H (G.le (Le.t (Le.q (l:=4*k+10) oM)))) fun J C=>(go3 ?_);refine wM (kA (t:=2) zU mh0 rfl C) ?_;intro M u z;refine yG (fun E S=>zQ rfl u E S) ?_;exact z
theorem nW{w0:World}{h0:Mem}(hs:MLe h0 (mem w0)){k:Nat}{va:Value}{a:Rat}(ra:(rpQ k).Is h0 va a){b:Int}(hb1:-9223372036854775808≤b)(hb2:b<9223372036854775808)(hcd0:k≤1000000000)(hcd1:0<b):
 Calls Tryz.prog 83 #[va,vI b] w0 (Ret w0 h0 (fun h r=>(rpQ (k+4)).Is h r (a/(b:Rat)))):=by
 refine cb2 15 va (vI b) func83 hs ?_;refine go2 ?_;refine nB ra fun b2 aj M=>(nA (ρ:=(rpQ (k+4))) (X:=(0:Rat)) yP (yH oM) fun b4 ai J=>(go3 ?_));refine zK 10 _ [(7,(5,26,[.bool false,.slice none 0 0,.slice none 0 0]))] [(0,.q),(1,.q),(2,.c),(3,.c),(4,.q),(5,.q),(6,.q),(7,.a),(8,.c),(9,.q)] yC (jL.cons rfl rfl (uX yP rfl rfl) jL.nil) (by kernel_rfl) (uZ rfl rfl kM) (fun r hr=>hr) (wX rfl (xB yB pH M) fun v8 r8=>(go1 ?_));refine w_c rfl (sC (ev1 rfl) call75 (fun w hs=>eN hs oM oM) fun ad h1 ah U=>?_);refine w_c rfl (sC (ev2 rfl rfl) call74 (fun w hs=>zEW hs r8.up U oM) fun ac h2 ae T=>?_);obtain⟨C,rfl,u⟩:=T
 change (rpQ (k+2)).Is h2 C (if((b:Int):Rat)=0 then 0 else a/((b:Int):Rat)) at u
 refine go3 ?_;refine w_a rfl rfl (fun b5=>?_);have I:(rpQ (k+4)).R h2 [.bool false,.slice none 0 0,.slice none 0 0] (0:Rat):=(yH oM);refine w_c rfl (bD (A:=[]) (uB sizeOf26 pH I (u.le (Le.q (l:=k+4) oM))) (wN (by first|(simp;done)|grind)) fun Z H=>(go5 ?_));refine lX (xB yB pH H) fun ab O=>(zS (A:=[_]) (uB sizeOf26 pH J O) fun Y G=>(go3 ?_));refine wM (kA (t:=4) yB mh1 rfl G) ?_;intro aa z D;refine yG (fun E S=>zQ rfl z E S) ?_;exact(Rp.Is.cast D (by exact if_neg (fun e=>by have:=Rat.intCast_eq_zero_iff.1 e;omega)))
end Go.Proofs.YtboaboflnckgoaaGreat
namespace Go.Proofs.YtboaboflnckgoaaGreat
open Bk Go Tryz
set_option linter.unusedVariables false
set_option linter.unusedSimpArgs false
set_option maxRecDepth 10000
set_option maxHeartbeats 1000000
attribute [local irreducible] GL GC GQ W OpV
theorem zD7{w0:World}{h0:Mem}(hs:MLe h0 (mem w0)){k m n j l1 l2:Nat}{vs:Value}{s:Sq}(rs:(tSd k m n j).Is h0 vs s){vfs:Value}{fs:(List (Pq×((List (List Int))×(List Nat))))}(rfs:(rpS (tFc l1 l2)).Is h0 vfs fs)(hcd0:k≤10000)(hcd1:zGV s fs):
 Calls Tryz.prog 77 #[vs,vfs] w0 (Ret w0 h0 (fun h r=>(rpQ (20000*k+100004)).Is h r (iN (fQ s fs fs.length)/((6:Int):Rat)))):=by
 have be:=zL5 rs;have ce:=hcd1.2.1;refine cb2 32 vs vfs func77 hs ?_;refine go2 ?_;refine nB rs fun b2 ak ar=>(nA (ρ:=(rpQ (20000*k+100004))) (X:=(0:Rat)) yP (yH oM) fun b4 aj aq=>(go4 ?_));refine nA (ρ:=(rpQ (20000*k+100000))) (X:=(0:Rat)) yP (yH oM) fun b5 bi ap=>(qT ?_);refine gcL (ι:=Nat×List Value×Mem) (fun(i,C,ma)=>(MLe h0 ma∧((rpQ (20000*k+100000)).R ma C (iN (fQ s fs i))∧i≤fs.length),[(2,vP b2 0),(4,vP b4 0),(5,vP b5 0),(10,vfs),(11,vI (↑(fs).length:Int)),(12,vI ↑i)],[.var b5 26 C,.var b4 26 aj,.var b2 50 ak],ma,fs.length-i)) (0,bi,h0) ?_ ?_
 · exact⟨mle,ap,oM⟩
 rintro⟨i,C,ma⟩ ⟨bl,I,G⟩
 refine yU ?_;have cb:=G;refine gc6 (fun ah=>?_) fun ah=>?_
 ·
  have u:=hcd1.1 i oM;have cf:=j7 hcd1 (i:=i) oM;refine go6 ?_;refine lX (xI zA i underlying47 fR rfs) fun bz bd=>(lX (xA fR bd) fun bx bc=>(nA (ρ:=(tFc 1 1)) (X:=((zT,(0:Rat)),([],([]:List Nat)))) jB (yL (yL (xY (yH dC)) (yH dC)) (yL qJ kO)) fun b7 ch ao=>?_));have ab:=(Le.p (Le.p (Le.t (Le.q (l:=l1+1) oM)) (Le.q (l:=l2+1) oM)) (Le.refl _)).R ao;refine zS (A:=[]) (uB sizeOf83 pH ab (bc.le (Le.p (Le.p (Le.t (Le.q (l:=l1+1) oM)) (Le.q (l:=l2+1) oM)) (Le.refl _)))) fun ai ad=>(go4 ?_);refine lX (xB kF pH ar) fun bw bb=>(lX (xB fR pH ad) fun bv ba=>(cL (ev2 rfl rfl) call68 (fun w hs=>tI hs (bb.le (Le.p (Le.refl _) (Le.p (Le.s (Le.p (Le.p (Le.t (Le.q (l:=l1+m+1) oM)) (Le.q (l:=l2+n+1) oM)) (Le.refl _))) (Le.refl _)))) (ba.le (Le.p (Le.p (Le.t (Le.q (l:=l1+m+1) oM)) (Le.q (l:=l2+n+1) oM)) (Le.refl _))) (by first|omega|exact u.1|exact u.2.1|exact u.2.2) (by first|omega|exact u.1|exact u.2.1|exact u.2.2) (by first|omega|exact u.1|exact u.2.1|exact u.2.2)) fun am h1 bf az=>(go5 ?_)));refine gcL (ι:=Nat×List Value×Mem) (fun(q,z,mb)=>(MLe h1 mb∧((rpQ (20000*k+100000)).R mb z (iN (fQ s fs i++(jM s (fs.getD i zA).2.1 (fs.getD i zA).2.1.length).take q))∧q≤(jM s (fs.getD i zA).2.1 (fs.getD i zA).2.1.length).length),[(2,vP b2 0),(4,vP b4 0),(5,vP b5 0),(10,vfs),(11,vI (↑(fs).length:Int)),(12,vI ↑i),(18,am),(19,vI (↑(jM s (fs.getD i zA).2.1 (fs.getD i zA).2.1.length).length:Int)),(20,vI ↑q)],[.var b7 83 ai,.var b5 26 z,.var b4 26 aj,.var b2 50 ak],mb,(jM s (fs.getD i zA).2.1 (fs.getD i zA).2.1.length).length-q)) (0,C,h1) ?_ ?_
  · exact⟨mle,(Rp.castR I.up (by rw[List.take_zero,List.append_nil])),oM⟩
  rintro⟨q,z,mb⟩ ⟨bk,D,G⟩
  refine yU ?_;have ca:=G;refine gc6 (fun ae=>?_) fun ae=>?_
  ·
   refine go6 ?_;refine lX (xI (T3.mk zT zT zT) q underlying106 pC az) fun bu ay=>(lX (xA pC ay) fun bt ax=>(nA (ρ:=(rpT (tPt (k+1)))) (X:=(T3.mk zT zT zT)) rZ (xY (xY (yH oM))) fun b9 cg an=>(zS (A:=[]) (uB sizeOf108 pH an ax) fun bm ac=>(go2 ?_))));refine zK 4 _ [] [(0,.q),(1,.q),(2,.c),(3,.c),(4,.t)] yC nX (by kernel_rfl) nX (fun r hr=>hr) (wX rfl (xB yB pH D) fun bs aw=>(wX rfl (xB pC pH ac) fun br av=>?_));refine w_c rfl (sC (ev1 rfl) call69 (fun w hs=>aS hs av oM) fun bq h2 cd Z=>?_);replace Z:=Rp.Is.le Z (Le.q (l:=20*k+60) oM);refine w_c rfl (sC (ev2 rfl rfl) call70 (fun w hs=>fJ hs aw.up Z oM) fun bp h3 cc Y=>?_);replace Y:=Rp.Is.le Y (Le.q (l:=20020*k+100061) oM);have J:=(Le.q (l:=20020*k+100061) oM).R D;refine yK (A:=[_,_]) rfl (uB sizeOf26 pH J Y) fun aa T=>(go7 ?_);refine vT (A:=[]) ?_;refine gqL ((q+1),aa,h3) ?_ ?_
   · exact⟨mle,(zUG T (by rw[zEI,List.append_assoc,rR (T3.mk zT zT zT) oM]) (yBE (eA hcd1 be oM))),oM⟩
   omega
  have bg:q=(jM s (fs.getD i zA).2.1 (fs.getD i zA).2.1.length).length:=by omega
  refine uQ ?_;refine vT (A:=[]) ?_;refine gqL ((i+1),z,mb) ?_ ?_
  · exact⟨mle,(Rp.castR D.up (by rw[bg,List.take_length];rfl)),oM⟩
  omega
 have ei:i=fs.length:=by omega
 refine go7 ?_;refine lX (xB yB pH I) fun bo au=>(cL (vs:=[_,vI (6)]) e2z call83 (fun w hs=>nW hs au dC dC oM oM) fun bn h1 bf U=>?_);replace U:=Rp.Is.le U (Le.q (l:=20000*k+100004) oM);refine zS (A:=[_]) (uB sizeOf26 pH aq U) fun bh O=>(go3 ?_);refine wM (kA (t:=4) yB mh1 rfl O) ?_;intro bj H M;refine yG (fun E S=>zQ rfl H E S) ?_;exact(Rp.Is.cast M (by rw[ei]))
theorem zCV{w0:World}{h0:Mem}(hs:MLe h0 (mem w0)){k m n j:Nat}{vs:Value}{s:Sq}(rs:(tSd k m n j).Is h0 vs s)(hcd0:k≤10000)(hcd1:nmA s)(hcd2:∀f,f<s.2.1.length→(s.2.1.getD f zA).2.1.length≤10000∧∀l,l<(s.2.1.getD f zA).2.1.length→((s.2.1.getD f zA).2.1.getD l []).length≤10000)(hcd3:zGV s s.2.1):
 Calls Tryz.prog 26 #[vs] w0 (Ret w0 h0 (fun h r=>(rpQ (20000*k+100004)).Is h r (dQ s/((6:Int):Rat)))):=by
 refine cb1 7 vs func26 hs ?_;refine go2 ?_;refine nB rs fun b1 Z D=>(nA (ρ:=(rpQ (20000*k+100004))) (X:=(0:Rat)) yP (yH oM) fun b2 Y G=>(go3 ?_));refine zK 4 _ [] [(0,.q),(1,.q),(2,.c),(3,.c),(4,.t)] yC nX (by kernel_rfl) nX (fun r O=>O) (wX rfl (xB kF pH D) fun v3 r3=>(wX rfl (xB kF pH D) fun v4 r4=>?_));refine w_c rfl (sC (ev1 rfl) call67 (fun w hs=>cO hs r4 (by first|omega|exact hcd1|exact hcd2|exact hcd3.2.1) (by first|omega|exact hcd1|exact hcd2|exact hcd3.2.1) (by first|omega|exact hcd1|exact hcd2|exact hcd3.2.1)) fun v5 h1 U M=>?_);refine w_c rfl (sC (ev2 rfl rfl) call77 (fun w hs=>zD7 hs r3.up M oM (by first|omega|exact hcd3)) fun v6 h2 T J=>(yK (A:=[]) rfl (uB sizeOf26 pH G J) fun H C=>(go3 ?_)));refine wM (kA (t:=2) yB mh0 rfl C) ?_;intro I u z;refine yG (fun E S=>zQ rfl u E S) ?_;exact z
theorem zCY{w0:World}{h0:Mem}(hs:MLe h0 (mem w0)){k m n j:Nat}{vs:Value}{s:Sq}(rs:(tSd k m n j).Is h0 vs s)(hcd0:k≤10000)(hcd1:nmA s)(hcd2:∀f,f<s.2.1.length→(s.2.1.getD f zA).2.1.length≤10000∧∀l,l<(s.2.1.getD f zA).2.1.length→((s.2.1.getD f zA).2.1.getD l []).length≤10000)(hcd3:zGV s s.2.1):
 Calls Tryz.prog 25 #[vs] w0 (Ret w0 h0 (fun h r=>∃u0,r=.tuple #[u0,vB (cnO s)]∧(tPt (50000*k+300000)).Is h u0 (cnS s))):=by
 have bk:=zL5 rs;have ev:=hcd3.2.1;refine cb1 55 vs func25 hs ?_;refine go2 ?_;refine nB rs fun b1 bp bj=>(nA (ρ:=(tPt (50000*k+300000))) (X:=zT) yW (xY (yH oM)) fun b2 bo bg=>(go5 ?_));refine nA (ρ:=(tPt (20000*k+100000))) (X:=zT) yW (xY (yH oM)) fun b4 dh bu=>(go4 ?_);refine nA (ρ:=(rpQ (20000*k+100000))) (X:=(0:Rat)) yP (yH oM) fun b5 df bt=>(go5 ?_);refine lX (xB kF pH bj) fun eq ct=>(cL (ev1 rfl) call67 (fun w hs=>cO hs ct (by first|omega|exact hcd1|exact hcd2|exact hcd3.2.1) (by first|omega|exact hcd1|exact hcd2|exact hcd3.2.1) (by first|omega|exact hcd1|exact hcd2|exact hcd3.2.1)) fun bf h1 eu cq=>(go5 ?_));refine gcL (ι:=Nat×List Value×List Value×Mem) (fun(i,H,G,ma)=>(MLe h1 ma∧((tPt (20000*k+100000)).R ma H (zFU (fQ s s.2.1 i))∧(rpQ (20000*k+100000)).R ma G (iN (fQ s s.2.1 i))∧i≤s.2.1.length),[(1,vP b1 0),(2,vP b2 0),(4,vP b4 0),(5,vP b5 0),(14,bf),(15,vI (↑(s.2.1).length:Int)),(16,vI ↑i)],[.var b5 26 G,.var b4 53 H,.var b2 53 bo,.var b1 50 bp],ma,s.2.1.length-i)) (0,dh,df,h1) ?_ ?_
 · exact⟨mle,bu.up,bt.up,oM⟩
 rintro⟨i,H,G,ma⟩ ⟨dl,Y,U,Z⟩
 refine yU ?_;have es:=Z;refine gc6 (fun bm=>?_) fun bm=>?_
 ·
  have z:=hcd3.1 i oM;have ew:=j7 hcd3 (i:=i) oM;refine go6 ?_;refine lX (xI zA i underlying47 fR cq) fun ep cp=>(lX (xA fR cp) fun eo co=>(nA (ρ:=(tFc 1 1)) (X:=((zT,(0:Rat)),([],([]:List Nat)))) jB (yL (yL (xY (yH dC)) (yH dC)) (yL qJ kO)) fun b7 ez bs=>?_));have ai:=(Le.p (Le.p (Le.t (Le.q (l:=m+1) oM)) (Le.q (l:=n+1) oM)) (Le.refl _)).R bs;refine zS (A:=[]) (uB sizeOf83 pH ai co) fun be ar=>(go4 ?_);refine lX (xB kF pH bj) fun en cn=>(lX (xB fR pH ar) fun em cm=>(cL (ev2 rfl rfl) call68 (fun w hs=>tI hs (cn.le (Le.p (Le.refl _) (Le.p (Le.s (Le.p (Le.p (Le.t (Le.q (l:=m+1) oM)) (Le.q (l:=n+1) oM)) (Le.refl _))) (Le.refl _)))) cm (by first|omega|exact z.1|exact z.2.1|exact z.2.2) (by first|omega|exact z.1|exact z.2.1|exact z.2.2) (by first|omega|exact z.1|exact z.2.1|exact z.2.2)) fun bq h2 cz cl=>(go5 ?_)));refine gcL (ι:=Nat×List Value×List Value×Mem) (fun(q,D,C,mb)=>(MLe h2 mb∧((tPt (20000*k+100000)).R mb D (zFU (fQ s s.2.1 i++(jM s (s.2.1.getD i zA).2.1 (s.2.1.getD i zA).2.1.length).take q))∧(rpQ (20000*k+100000)).R mb C (iN (fQ s s.2.1 i++(jM s (s.2.1.getD i zA).2.1 (s.2.1.getD i zA).2.1.length).take q))∧q≤(jM s (s.2.1.getD i zA).2.1 (s.2.1.getD i zA).2.1.length).length),[(1,vP b1 0),(2,vP b2 0),(4,vP b4 0),(5,vP b5 0),(14,bf),(15,vI (↑(s.2.1).length:Int)),(16,vI ↑i),(22,bq),(23,vI (↑(jM s (s.2.1.getD i zA).2.1 (s.2.1.getD i zA).2.1.length).length:Int)),(24,vI ↑q)],[.var b7 83 be,.var b5 26 C,.var b4 53 D,.var b2 53 bo,.var b1 50 bp],mb,(jM s (s.2.1.getD i zA).2.1 (s.2.1.getD i zA).2.1.length).length-q)) (0,H,G,h2) ?_ ?_
  · exact⟨mle,(Rp.castR Y.up (by rw[List.take_zero,List.append_nil])),(Rp.castR U.up (by rw[List.take_zero,List.append_nil])),oM⟩
  rintro⟨q,D,C,mb⟩ ⟨dk,J,I,Z⟩
  refine yU ?_;have er:=Z;refine gc6 (fun bl=>?_) fun bl=>?_
  ·
   refine go6 ?_;refine lX (xI (T3.mk zT zT zT) q underlying106 pC cl) fun el ck=>(lX (xA pC ck) fun ek cj=>(nA (ρ:=(rpT (tPt (k+1)))) (X:=(T3.mk zT zT zT)) rZ (xY (xY (yH oM))) fun b9 ey br=>(zS (A:=[]) (uB sizeOf108 pH br cj) fun de T=>(go4 ?_))));refine lX (xB pC pH T) fun ej ci=>(cL (ev1 rfl) call69 (fun w hs=>aS hs ci oM) fun eh h3 cy ba=>?_);replace ba:=Rp.Is.le ba (Le.q (l:=20*k+60) oM);refine nA (ρ:=(rpQ (20*k+40))) (X:=(0:Rat)) yP (yH oM) fun fb dm bi=>?_;have ah:=(Le.q (l:=20*k+60) oM).R bi;refine zS (A:=[]) (uB sizeOf26 pH ah ba) fun dd O=>(go4 ?_);refine lX (xB yB pH I) fun eg ch=>(lX (xB yB pH O) fun ef cg=>(cL (ev2 rfl rfl) call70 (fun w hs=>fJ hs ch cg oM) fun ee h4 cw az=>?_));replace az:=Rp.Is.le az (Le.q (l:=20020*k+100061) oM);have ae:=(Le.q (l:=20020*k+100061) oM).R I;refine zS (A:=[_,_,_]) (uB sizeOf26 pH ae az) fun bd aq=>(go2 ?_);refine zK 6 _ [] [(0,.q),(1,.q),(2,.q),(3,.c),(4,.c),(5,.c),(6,.t)] yC nX (by kernel_rfl) nX (fun r hr=>hr) (wX rfl (xB zU pH J) fun ed cf=>(wX rfl (xB yB pH O) fun ec ce=>(wX rfl (xB pC pH T) fun eb cd=>?_)));refine w_c rfl (sC (ev1 rfl) call73 (fun w hs=>zCW hs cd oM) fun ea h5 cv ay=>?_);replace ay:=Rp.Is.le ay (Le.t (Le.q (l:=4*k+14) oM));refine w_c rfl (sC (ev2 rfl rfl) call72 (fun w hs=>zAE hs ce.up ay oM) fun dz h6 cu ax=>?_);replace ax:=Rp.Is.le ax (Le.t (Le.q (l:=24*k+76) oM));refine w_c rfl (sC (ev2 rfl rfl) call71 (fun w hs=>zBU hs cf.up ax oM) fun dy h7 et aw=>?_);replace aw:=Rp.Is.le aw (Le.t (Le.q (l:=20024*k+100078) oM));have ad:=(Le.t (Le.q (l:=20024*k+100078) oM)).R J;refine yK (A:=[_,_,_,_]) rfl (uB sizeOf53 pH ad aw) fun bc ap=>(go7 ?_);refine vT (A:=[]) (vT (A:=[]) ?_);refine gqL ((q+1),bc,bd,h7) ?_ ?_
   · exact⟨mle,(zX6 ap (by refine Eq.trans (zNP _ _) ?_;rw[List.append_assoc,rR (T3.mk zT zT zT) oM]) (lq_C (eA hcd3 bk oM))),(zUG aq.up (by rw[zEI,List.append_assoc,rR (T3.mk zT zT zT) oM]) (yBE (eA hcd3 bk oM))),oM⟩
   omega
  have bn:q=(jM s (s.2.1.getD i zA).2.1 (s.2.1.getD i zA).2.1.length).length:=by omega
  refine uQ ?_;refine vT (A:=[]) ?_;refine gqL ((i+1),D,C,mb) ?_ ?_
  · exact⟨mle,(Rp.castR J.up (by rw[bn,List.take_length];rfl)),(Rp.castR I.up (by rw[bn,List.take_length];rfl)),oM⟩
  omega
 have ei:i=s.2.1.length:=by omega
 refine go6 ?_;refine zK 11 _ [(8,(11,26,[.bool false,.slice none 0 0,.slice none 0 0]))] [(2,.q),(0,.c),(1,.c),(3,.c),(4,.c),(5,.q),(6,.q),(7,.q),(8,.a),(9,.c),(10,.q)] yC (jL.cons rfl rfl (uX yP rfl rfl) jL.nil) (by kernel_rfl) (uZ rfl rfl kM) (fun r hr=>hr) (wX rfl (xB yB pH U) fun dv ca=>?_);refine w_c rfl (sC (vs:=[vI (1)]) ⟨rfl,trivial⟩ call75 (fun w hs=>eN hs dC dC) fun dx h2 cz cc=>?_);refine w_c rfl (sC (vs:=[vI (4)]) ⟨rfl,trivial⟩ call75 (fun w hs=>eN hs dC dC) fun dw h3 cy cb=>?_);refine w_c rfl (sC (ev2 rfl rfl) call76 (fun w hs=>qS hs cb ca.up oM) fun du h4 cw av=>?_);replace av:=Rp.Is.le av (Le.q (l:=20000*k+100002) oM);refine w_c rfl (sC (ev2 rfl rfl) call74 (fun w hs=>zEW hs cc.up av oM) fun dt h5 cv bz=>?_);obtain⟨ac,rfl,u⟩:=bz
 change (rpQ (2+(20000*k+100002))).Is h5 ac (if((((4:Int):Int):Rat)*(iN (fQ s s.2.1 i)))=0 then 0 else(((1:Int):Int):Rat)/((((4:Int):Int):Rat)*(iN (fQ s s.2.1 i)))) at u
 replace u:=Rp.Is.le u (Le.q (l:=20000*k+100004) oM);refine go3 ?_;refine w_a rfl rfl (fun fa=>?_);have bh:(rpQ (20000*k+100010)).R h5 [.bool false,.slice none 0 0,.slice none 0 0] (0:Rat):=(yH oM);refine w_c rfl (bD (A:=[]) (uB sizeOf26 pH bh (u.le (Le.q (l:=20000*k+100010) oM))) (wN (by first|(simp;done)|grind)) fun dc ao=>(zAS (fun M=>?_) fun M=>?_))
 ·
  have hz:((4:Int):Rat)*dQ s=0:=by rw[ei] at M;exact Classical.not_not.1 (fun e=>M (if_neg e))
  refine go2 ?_;refine lX (xV (ρ:=(tPt 1)) (xD (ps':=[]) underlying53 yW rfl rfl sizeOf26 trivial rfl (xY (yH dC)) zY)) fun dr bx=>(zS (A:=[_,_,_]) (uB sizeOf53 pH bg (bx.le (Le.t (Le.q (l:=50000*k+300000) oM)))) fun db an=>(go5 ?_));refine wM (kA (t:=2) zU mh3 rfl an) ?_;intro dj ab ak;refine yG (fun E S=>vV rfl ab (jQ rfl) E S) ?_;refine⟨_,?_,(Rp.Is.cast ak (by exact(if_pos hz).symm))⟩;rw[yV (fun e=>e hz)]
 have bb:¬((4:Int):Rat)*dQ s=0:=fun e=>M (by rw[ei];refine(congrArg (· ≠(0:Int)) (if_pos e)).mpr ?_;decide);refine go4 ?_;refine lX (xB yB pH ao) fun dq bw=>(lX (xB zU pH Y) fun dp bv=>(cL (ev2 rfl rfl) call72 (fun w hs=>zAE hs bw bv oM) fun dn h6 cu au=>?_));replace au:=Rp.Is.le au (Le.t (Le.q (l:=40000*k+200012) oM));refine zS (A:=[_,_,_]) (uB sizeOf53 pH bg (au.le (Le.t (Le.q (l:=50000*k+300000) oM)))) fun da am=>(go4 ?_);refine wM (kA (t:=2) zU mh3 rfl am) ?_;intro di aa aj;refine yG (fun E S=>vV rfl aa (jQ rfl) E S) ?_;refine⟨_,?_,(Rp.Is.cast aj (by rw[ei];unfold cnS dQ at *;rw[if_neg bb,if_neg bb];rfl))⟩;rw[xM (show cnO s from bb)]
theorem zIB{w0:World}{h0:Mem}(hs:MLe h0 (mem w0)){k m n j:Nat}{vs:Value}{s:Sq}(rs:(tSd k m n j).Is h0 vs s){vf:Value}{f:(Pq×((List (List Int))×(List Nat)))}(rf:(tFc m n).Is h0 vf f)(hcd0:k≤10000)(hcd1:zZN s f)(hcd2:(jM s f.2.1 f.2.1.length).length≤1000):
 Calls Tryz.prog 87 #[vs,vf] w0 (Ret w0 h0 (fun h r=>(tPt (20000*k+100010)).Is h r (arV s f))):=by
 have az:=zL5 rs;have u:=hcd1;have bd:=zDK az u;refine cb2 34 vs vf func87 hs ?_;refine go2 ?_;refine nB rs fun b2 bk am=>(nB rf fun b3 bj ak=>(nA (ρ:=(tPt (20000*k+100010))) (X:=zT) yW (xY (yH oM)) fun b4 bi aj=>(go4 ?_)));refine nA (ρ:=(tPt (20000*k+100000))) (X:=zT) yW (xY (yH oM)) fun b5 bh ai=>(go5 ?_);refine lX (xB kF pH am) fun v8 r8=>(lX (xB fR pH ak) fun v9 r9=>(cL (ev2 rfl rfl) call68 (fun w hs=>tI hs r8 r9 (by first|omega|exact u.1|exact u.2.1|exact u.2.2) (by first|omega|exact u.1|exact u.2.1|exact u.2.2) (by first|omega|exact u.1|exact u.2.1|exact u.2.2)) fun ae h1 cf ay=>(go5 ?_)));refine gcL (ι:=Nat×List Value×Mem) (fun(q,D,ma)=>(MLe h1 ma∧((tPt (20000*k+100000)).R ma D (dW ((jM s f.2.1 f.2.1.length).take q))∧q≤(jM s f.2.1 f.2.1.length).length),[(4,vP b4 0),(5,vP b5 0),(10,ae),(11,vI (↑(jM s f.2.1 f.2.1.length).length:Int)),(12,vI ↑q)],[.var b5 53 D,.var b4 53 bi,.var b3 83 bj,.var b2 50 bk],ma,(jM s f.2.1 f.2.1.length).length-q)) (0,bh,h1) ?_ ?_
 · exact⟨mle,ai.up,oM⟩
 rintro⟨q,D,ma⟩ ⟨bm,C,ac⟩
 refine yU ?_;have cd:=ac;refine gc6 (fun ad=>?_) fun ad=>?_
 ·
  refine go6 ?_;refine lX (xI (T3.mk zT zT zT) q underlying106 pC ay) fun cc ax=>(lX (xA pC ax) fun cb aw=>(nA (ρ:=(rpT (tPt (k+1)))) (X:=(T3.mk zT zT zT)) rZ (xY (xY (yH oM))) fun b7 cg ah=>(zS (A:=[]) (uB sizeOf108 pH ah aw) fun bg z=>(go2 ?_))));refine zK 13 _ [] [(0,.q),(1,.q),(2,.q),(3,.q),(4,.q),(6,.q),(7,.q),(8,.q),(9,.q),(5,.c),(10,.c),(11,.c),(12,.c),(13,.t)] yC nX (vJ (by kernel_rfl)) nX (fun r hr=>hr) (wX rfl (xB zU pH C) fun ca av=>(go1 ?_));refine wX rfl (xB zU (Pc.ty pH) z) fun bz au=>(go1 ?_);refine wX rfl (xB zU (Pc.tx pH) z) fun bx ar=>(go1 ?_);refine wX rfl (xB zU (Pc.tz pH) z) fun bv aq=>(go1 ?_);refine wX rfl (xB zU (Pc.tx pH) z) fun bu ap=>?_;refine w_c rfl (sC (ev2 rfl rfl) call133 (fun w hs=>zMH hs au ar oM) fun bw h2 bc aa=>?_);replace aa:=Rp.Is.le aa (Le.t (Le.q (l:=2*k+4) oM));refine w_c rfl (sC (ev2 rfl rfl) call133 (fun w hs=>zMH hs aq.up ap.up oM) fun bt h3 bb Z=>?_);replace Z:=Rp.Is.le Z (Le.t (Le.q (l:=2*k+4) oM));refine w_c rfl (sC (ev2 rfl rfl) call132 (fun w hs=>zEV hs aa.up Z oM) fun bs h4 ba Y=>?_);replace Y:=Rp.Is.le Y (Le.t (Le.q (l:=8*k+19) oM));refine w_c rfl (sC (ev2 rfl rfl) call71 (fun w hs=>zBU hs av.up Y oM) fun br h5 ce U=>?_);replace U:=Rp.Is.le U (Le.t (Le.q (l:=20008*k+100021) oM));have H:=(Le.t (Le.q (l:=20008*k+100021) oM)).R C;refine yK (A:=[_]) rfl (uB sizeOf53 pH H U) fun ab M=>(go7 ?_);refine vT (A:=[]) ?_;refine gqL ((q+1),ab,h5) ?_ ?_
  · exact⟨mle,(zX6 M (by refine Eq.trans (zNO _ _) ?_;rw[rR (T3.mk zT zT zT) oM]) (lq_V ⟨by rw[List.length_take];omega,fun t ht=>bd t (List.mem_of_mem_take ht)⟩)),oM⟩
  omega
 have be:q=(jM s f.2.1 f.2.1.length).length:=by omega
 refine go6 ?_;refine zK 4 _ [] [(2,.q),(0,.c),(1,.c),(3,.c),(4,.t)] yC nX (by kernel_rfl) nX (fun r hr=>hr) (wX rfl (xB zU pH C) fun bo an=>?_);refine w_c rfl (sC (vs:=[vI (1)]) ⟨rfl,trivial⟩ call75 (fun w hs=>eN hs dC dC) fun bq h2 bc ao=>?_);refine w_c rfl (sC (vs:=[_,vI (2)]) e2z call83 (fun w hs=>nW hs ao dC dC dC oM) fun bp h3 bb T=>?_);replace T:=Rp.Is.le T (Le.q (l:=6) oM);refine w_c rfl (sC (ev2 rfl rfl) call72 (fun w hs=>zAE hs T an.up oM) fun bn h4 ba O=>?_);replace O:=Rp.Is.le O (Le.t (Le.q (l:=20000*k+100008) oM));refine yK (A:=[_]) rfl (uB sizeOf53 pH aj (O.le (Le.t (Le.q (l:=20000*k+100010) oM)))) fun bf J=>(go3 ?_);refine wM (kA (t:=4) zU mh1 rfl J) ?_;intro bl G I;refine yG (fun E S=>zQ rfl G E S) ?_;exact(Rp.Is.cast I (by rw[be,List.take_length];rfl))
theorem w9{w0:World}{h0:Mem}(hs:MLe h0 (mem w0)){k m n j:Nat}{vs:Value}{s:Sq}(rs:(tSd k m n j).Is h0 vs s){d:Int}(hd1:-9223372036854775808≤d)(hd2:d<9223372036854775808)(hcd0:k≤10000)(hcd1:nmA s)(hcd2:∀f,f<s.2.1.length→(s.2.1.getD f zA).2.1.length≤10000∧∀l,l<(s.2.1.getD f zA).2.1.length→((s.2.1.getD f zA).2.1.getD l []).length≤10000)(hcd3:zGV s s.2.1)(hcd4:zZ3 s)(hcd5:0≤d)(hcd6:d≤64):
 Calls Tryz.prog 40 #[vs,vI d] w0 (Ret w0 h0 (fun h r=>∃u0,r=.tuple #[u0,vB (True)]∧(rpP (rpQ 400000) (rpQ 400000)).Is h u0 (arS s d s.2.1.length))):=by
 have ck:=hcd3.2.1;refine cb2 42 vs (vI d) func40 hs ?_;refine go2 ?_;refine nB rs fun b2 bm ad=>(nA (ρ:=(rpP (rpQ 400000) (rpQ 400000))) (X:=((0:Rat),(0:Rat))) gC (yL (yH dC) (yH dC)) fun b4 bl aq=>(go8 ?_));refine gU 4 17 (vB ((d<(0:Int))∨((64:Int)<d))) ?_ ?_
 ·
  refine yD (d<(0:Int)) (fun hg=>?_) (fun hg=>?_)
  ·
   refine gT hg rfl (go4 ?_);refine gqU ?_;exact congrArg some (vZ hg)
  refine gF hg rfl (go6 ?_);refine gqU ?_;exact congrArg some (uA hg)
 refine gc2 (fun I=>?_) fun I=>?_
 · exact absurd I oM
 refine go4 ?_;refine nA (ρ:=(rpP (rpQ 400000) (rpQ 400000))) (X:=((0:Rat),(0:Rat))) gC (yL (yH dC) (yH dC)) fun b6 bk ap=>(go5 ?_);refine lX (xB kF pH ad) fun cd bf=>(cL (ev1 rfl) call67 (fun w hs=>cO hs bf (by first|omega|exact hcd1|exact hcd2|exact hcd3.2.1) (by first|omega|exact hcd1|exact hcd2|exact hcd3.2.1) (by first|omega|exact hcd1|exact hcd2|exact hcd3.2.1)) fun am h1 cj be=>(go5 ?_));refine gcL (ι:=Nat×List Value×Mem) (fun(i,C,ma)=>(MLe h1 ma∧((rpP (rpQ 400000) (rpQ 400000)).R ma C (arS s d i)∧i≤s.2.1.length),[(1,vI d),(2,vP b2 0),(4,vP b4 0),(6,vP b6 0),(20,am),(21,vI (↑(s.2.1).length:Int)),(22,vI ↑i)],[.var b6 34 C,.var b4 34 bl,.var b2 50 bm],ma,s.2.1.length-i)) (0,bk,h1) ?_ ?_
 · exact⟨mle,ap.up,oM⟩
 rintro⟨i,C,ma⟩ ⟨bo,z,ce⟩
 refine yU ?_;refine gc6 (fun aj=>?_) fun aj=>?_
 ·
  have ah:=hcd3.1 i oM;have ai:=j7 hcd3 (i:=i) oM;refine go6 ?_;refine lX (xI zA i underlying47 fR be) fun cc bd=>(lX (xA fR bd) fun cb bc=>(nA (ρ:=(tFc 1 1)) (X:=((zT,(0:Rat)),([],([]:List Nat)))) jB (yL (yL (xY (yH dC)) (yH dC)) (yL qJ kO)) fun b8 cm ao=>?_));have O:=(Le.p (Le.p (Le.t (Le.q (l:=m+1) oM)) (Le.q (l:=n+1) oM)) (Le.refl _)).R ao;refine zS (A:=[]) (uB sizeOf83 pH O bc) fun bj aa=>(go4 ?_);refine lX (xB kF pH ad) fun ca bb=>(lX (xB fR pH aa) fun bz ba=>(cL (ev2 rfl rfl) call87 (fun w hs=>zIB hs (bb.le (Le.p (Le.refl _) (Le.p (Le.s (Le.p (Le.p (Le.t (Le.q (l:=m+1) oM)) (Le.q (l:=n+1) oM)) (Le.refl _))) (Le.refl _)))) ba oM (by first|omega|exact ah|exact ai) (by first|omega|exact ah|exact ai)) fun bx h2 ci az=>(nA (ρ:=(tPt (20000*k+100010))) (X:=zT) yW (xY (yH oM)) fun b9 cl an=>(zS (A:=[]) (uB sizeOf53 pH an az) fun bi D=>(go4 ?_)))));refine lX (xB zU pH D) fun bw ay=>(lX (xB zU pH D) fun bv ax=>(cL (ev2 rfl rfl) call88 (fun w hs=>zMI hs ay ax oM) fun ak h3 ch G=>?_));replace G:=Rp.Is.le G (Le.q (l:=120000*k+600069) oM);replace G:(rpQ 200).Is h3 ak (jH (arV s (s.2.1.getD i zA)) (arV s (s.2.1.getD i zA))):=(reb G rfl (hcd4 i oM));refine go1 ?_;refine cL (ev2 rfl rfl) call13 (fun w hs=>oR hs G oM oM dC) fun bu h4 cg aw=>?_;obtain⟨J,rfl,u⟩:=aw
  change (rpP (rpQ (200+140)) (rpQ (200+140))).Is h4 J (cD (jH (arV s (s.2.1.getD i zA)) (arV s (s.2.1.getD i zA))) d,cP (jH (arV s (s.2.1.getD i zA)) (arV s (s.2.1.getD i zA))) d) at u
  replace u:=Rp.Is.le u (Le.p (Le.q (l:=340) oM) (Le.q (l:=340) oM));refine go3 ?_;refine nA (ρ:=(rpP (rpQ 340) (rpQ 340))) (X:=((0:Rat),(0:Rat))) gC (yL (yH dC) (yH dC)) fun cn bp ae=>(zS (A:=[]) (uB sizeOf34 pH ae u) fun bh Z=>(go4 ?_));refine lX (xB zG7 pH z) fun bt av=>(lX (xB zG7 pH Z) fun bs au=>(cL (ev2 rfl rfl) call89 (fun w hs=>zKP hs av au dC) fun br h5 cf ab=>?_));replace ab:=Rp.Is.le ab (Le.p (Le.q (l:=400341) oM) (Le.q (l:=400341) oM));have M:=(Le.p (Le.q (l:=400341) dC) (Le.q (l:=400341) dC)).R z;refine zS (A:=[_,_,_]) (uB sizeOf34 pH M ab) fun ac Y=>(go7 ?_);refine vT (A:=[]) (vT (A:=[]) (vT (A:=[]) ?_));refine gqL ((i+1),ac,h5) ?_ ?_
  · exact⟨mle,(reb2 Y rfl (by have:=(zLF hcd4 d (i+1) oM).1;omega) (by have:=(zLF hcd4 d (i+1) oM).2;omega)),oM⟩
  omega
 have ei:i=s.2.1.length:=by omega
 refine go7 ?_;refine lX (xB zG7 pH z) fun bq ar=>(zS (A:=[_]) (uB sizeOf34 pH aq ar) fun bg U=>(go4 ?_));refine wM (kA (t:=4) zG7 mh1 rfl U) ?_;intro bn H T;refine yG (fun E S=>vV rfl H (jQ rfl) E S) ?_;refine⟨_,?_,(Rp.Is.cast T (by rw[ei]))⟩;rw[xM trivial]
end Go.Proofs.YtboaboflnckgoaaGreat
namespace Go.Proofs.YtboaboflnckgoaaGreat
open Bk Go Tryz
set_option linter.unusedVariables false
set_option linter.unusedSimpArgs false
set_option maxRecDepth 10000
set_option maxHeartbeats 1000000
attribute [local irreducible] GL GC GQ W OpV
theorem zRE{w0:World}{h0:Mem}(hs:MLe h0 (mem w0)){k l:Nat}{vp:Value}{p:Tq}(rp:(tPt k).Is h0 vp p){vq:Value}{q:Tq}(rq:(tPt l).Is h0 vq q)(hcd0:k≤100000000)(hcd1:l≤100000000):
 Calls Tryz.prog 175 #[vp,vq] w0 (Ret w0 h0 (fun _ r=>r=vB (lsP p q))):=by
 refine cb2 22 vp vq func175 hs ?_;refine go2 ?_;refine nB rp fun D Y I=>(nB rq fun C X H=>(uQ ?_));refine gcL (ι:=Nat×Mem) (fun(i,S)=>(MLe h0 S∧(i≤3∧∀u,u<i→wH (p.at u) (q.at u)=0),[(2,vP D 0),(3,vP C 0),(5,vI ↑i)],[.var C 53 X,.var D 53 Y],S,3-i)) (0,h0) ?_ ?_
 · exact⟨mle,by omega,fun u h=>by omega⟩
 rintro⟨i,S⟩ ⟨Z,ac,hi2⟩
 refine yU ?_;refine gc7 (fun U=>?_) fun U=>?_
 ·
  refine go5 ?_;refine zK 8 _ [] [(0,.q),(1,.q),(2,.q),(3,.q),(4,.q),(5,.q),(6,.c),(7,.q)] yC nX (by kernel_rfl) nX (fun r hr=>hr) (go1 ?_);refine xK rfl (fun _ _=>(zX (sz:=3) i underlying53 sizeOf26 rfl rfl rfl oM).cv (show _=vP D ((i*3+0)) from congrArg (vP D) oM)) rfl (wX rfl (xB yB (Pc.ta pH i oM) I) fun ab O=>(go1 ?_));refine xK rfl (fun _ _=>(zX (sz:=3) i underlying53 sizeOf26 rfl rfl rfl oM).cv (show _=vP C ((i*3+0)) from congrArg (vP C) oM)) rfl (wX rfl (xB yB (Pc.ta pH i oM) H) fun aa M=>?_);refine w_c rfl (sC (ev2 rfl rfl) call18 (fun w hs=>kB hs O M oM) fun G h1 ad J=>?_);obtain rfl:G=vI (wH (p.at i) (q.at i)):=J;have T:=jC (p.at i) (q.at i);refine gc9 (fun z=>?_) fun z=>?_
  ·
   refine sL ?_;refine zD rfl rfl ?_;exact fL (yBC oM hi2 z)
  refine go8 ?_;refine gqL ((i+1),h1) ?_ ?_
  · exact⟨mle,by omega,qL (Q:=fun u=>wH (p.at u) (q.at u)=0) hi2 (Classical.not_not.1 z)⟩
  omega
 have ei:i=3:=by omega
 refine qT ?_;refine zD rfl rfl ?_;exact(yV (zYV fun u hu=>hi2 u oM)).symm
theorem zBB{w0:World}{h0:Mem}(hs:MLe h0 (mem w0)){va:Value}{a:(List Int)}(ra:(rpS rpI).Is h0 va a){vb:Value}{b:(List Int)}(rb:(rpS rpI).Is h0 vb b):
 Calls Tryz.prog 178 #[va,vb] w0 (Ret w0 h0 (fun _ r=>r=vI (pX a b))):=by
 have ax:=yAW ra;have aw:=yAW rb;refine cb2 48 va vb func178 hs ?_;refine qO ?_;refine gcL (ι:=Nat×Mem) (fun(i,J)=>(MLe h0 J∧((i≤a.length∧i≤b.length)∧∀u,u<i→a.getD u 0=b.getD u 0),[(0,va),(1,vb),(5,vI ↑i)],[],J,a.length-i)) (0,h0) ?_ ?_
 · exact⟨mle,by omega,fun u h=>by omega⟩
 rintro⟨i,J⟩ ⟨ae,ay,hi2⟩
 refine yU ?_;refine go7 ?_;refine gU 6 15 (vB (((↑i:Int)<(↑(a).length:Int))∧((↑i:Int)<(↑(b).length:Int)))) ?_ ?_
 ·
  refine yD ((↑i:Int)<(↑(a).length:Int)) (fun D=>?_) (fun D=>?_)
  ·
   refine gT D rfl (uQ ?_);refine gqU ?_;exact congrArg some (xN D)
  refine gF D rfl (go6 ?_);refine gqU ?_;exact congrArg some (xO D)
 refine gc2 (fun I=>?_) fun I=>?_
 ·
  refine go5 ?_;refine zK 9 _ [] [(0,.q),(1,.q),(2,.q),(3,.q),(4,.q),(5,.q),(6,.q),(7,.q),(8,.q)] yC nX (by kernel_rfl) nX (fun r hr=>hr) (go2 ?_);refine wX rfl (xI (0:Int) i underlying32 ty3 ra) fun av Z=>(wX rfl (xA ty3 Z) fun au Y=>?_);obtain⟨rfl,ak,ad⟩:=jX Y;refine go2 ?_;refine wX rfl (xI (0:Int) i underlying32 ty3 rb) fun ar X=>(wX rfl (xA ty3 X) fun aq U=>?_);obtain⟨rfl,aj,ac⟩:=jX U;refine gc3 (fun z=>?_) fun z=>?_
  ·
   refine go2 ?_;refine zK 9 _ [] [(0,.q),(1,.q),(2,.q),(3,.q),(4,.q),(5,.q),(6,.q),(7,.q),(8,.q)] yC nX (by kernel_rfl) nX (fun r hr=>hr) (go2 ?_);refine wX rfl (xI (0:Int) i underlying32 ty3 ra) fun ap T=>(wX rfl (xA ty3 T) fun ao S=>?_);obtain⟨rfl,ai,ab⟩:=jX S;refine go2 ?_;refine wX rfl (xI (0:Int) i underlying32 ty3 rb) fun an O=>(wX rfl (xA ty3 O) fun am M=>?_);obtain⟨rfl,ah,aa⟩:=jX M;refine gc3 (fun C=>?_) fun C=>?_
   ·
    refine qO ?_;refine zD rfl rfl ?_;refine congrArg vI ?_;rw[zM9 hi2 oM oM z,if_pos C]
   refine sL ?_;refine zD rfl rfl ?_;refine congrArg vI ?_;rw[zM9 hi2 oM oM z,if_neg C]
  refine go8 ?_;refine gqL ((i+1),J) ?_ ?_
  · exact⟨mle,by omega,qL (Q:=fun u=>a.getD u 0=b.getD u 0) hi2 (Classical.not_not.1 z)⟩
  omega
 have ei:i=min a.length b.length:=by omega
 refine dE ?_;refine cnd (fun H=>?_) fun H=>?_
 ·
  refine go8 ?_;refine zD rfl rfl ?_;refine congrArg vI ?_;rw[zDO hi2 ei,if_pos oM]
 refine zAS (fun G=>?_) fun G=>?_
 ·
  refine go8 ?_;refine zD rfl rfl ?_;refine congrArg vI ?_;rw[zDO hi2 ei,if_neg oM,if_pos oM]
 refine go9 ?_;refine zD rfl rfl ?_;refine congrArg vI ?_;rw[zDO hi2 ei,if_neg oM,if_neg oM]
theorem zKU{w0:World}{h0:Mem}(hs:MLe h0 (mem w0)){vx:Value}{x:(List Int)}(rx:(rpS rpI).Is h0 vx x)(hcd0:x.length≤100000):
 Calls Tryz.prog 177 #[vx] w0 (Ret w0 h0 (fun h r=>(rpS rpI).Is h r (zQG x))):=by
 refine cb1 29 vx func177 hs ?_;refine dE ?_;refine gcL (ι:=Nat×Mem) (fun(i,C)=>(MLe h0 C∧(i≤x.length),[(0,vx),(3,vI ↑(rN x i)),(4,vI ↑i)],[],C,x.length-i)) (0,h0) ?_ ?_
 · exact⟨mle,oM⟩
 rintro⟨i,C⟩ ⟨ad,J⟩
 refine yU ?_;have ay:=J;have ax:=zWG x i;refine gc9 (fun aa=>?_) fun aa=>?_
 ·
  refine go5 ?_;refine zK 9 _ [] [(0,.q),(1,.q),(2,.q),(3,.q),(4,.q),(5,.q),(6,.q),(7,.q),(8,.q)] yC nX (by kernel_rfl) nX (fun r hr=>hr) (go2 ?_);refine wX rfl (xI (0:Int) i underlying32 ty3 rx) fun au Z=>(wX rfl (xA ty3 Z) fun ar Y=>?_);obtain⟨rfl,ah,ac⟩:=jX Y;refine go2 ?_;refine wX rfl (xI (0:Int) (rN x i) underlying32 ty3 rx) fun aq U=>(wX rfl (xA ty3 U) fun ap T=>?_);obtain⟨rfl,ae,ab⟩:=jX T;refine gc3 (fun u=>?_) fun u=>?_
  ·
   refine qT ?_;refine gqL ((i+1),C) ?_ ?_ (he:=⟨rfl,congrArg (fun z:Nat=>some (vI ↑z)) (mn_t u),rfl,trivial⟩)
   · exact⟨mle,oM⟩
   omega
  refine go8 ?_;refine gqL ((i+1),C) ?_ ?_ (he:=⟨rfl,congrArg (fun z:Nat=>some (vI ↑z)) (mn_f u),rfl,trivial⟩)
  · exact⟨mle,oM⟩
  omega
 have ei:i=x.length:=by omega
 refine go6 ?_;refine zK 9 _ [] [(0,.q),(1,.q),(2,.q),(4,.q),(5,.q),(6,.q),(3,.c),(7,.c),(8,.q)] yC nX (by kernel_rfl) nX (fun r hr=>hr) (go2 ?_);refine mX (F:=fun M=>(rpS rpI).Is C M (x.drop (rN x i))) rfl (zKD (ρ:=rpI) (rN x i) underlying32 sizeOf3 rfl rfl rx.up oM oM) zBI rfl ?_;intro ao S;refine go2 ?_;refine mX (F:=fun M=>(rpS rpI).Is C M (x.take (rN x i))) rfl (zKE (ρ:=rpI) (rN x i) underlying32 sizeOf3 rfl rfl rx.up oM oM) zBI rfl ?_;intro am O;refine w_c rfl (zP7 3 1 ?_);have G:=RL.nil (ρ:=rpI) (h:=C);refine sR (A:=[]) (fun X=>yF (ρ:=rpI) (bytes:=8) underlying32 gJ rfl rfl rfl rfl nP rfl rfl G S (by first|omega|(simp only[lAz,List.length_drop,List.length_take,lN];omega)) (by first|omega|(simp only[lAz,List.length_drop,List.length_take,lN];omega))) rfl (wN (by first|(simp;done)|grind)) ?_
 rintro an aw ⟨aj,rfl,I⟩
 refine w_c rfl (sR (A:=[]) (fun X=>yF (ρ:=rpI) (bytes:=8) underlying32 gJ rfl rfl rfl rfl nP rfl rfl I O (by first|omega|(simp only[lAz,List.length_drop,List.length_take,lN];omega)) (by first|omega|(simp only[lAz,List.length_drop,List.length_take,lN];omega))) rfl (wN (by first|(simp;done)|grind)) ?_)
 rintro ak av ⟨ai,rfl,H⟩
 refine go4 ?_;refine wY (A:=[]) (ρ:=rpI) H ?_;intro h1 az D;refine zD rfl rfl ?_;exact(Rp.Is.cast D (by rw[ei,List.nil_append];rfl))
theorem zGF{w0:World}{h0:Mem}(hs:MLe h0 (mem w0)){m n k l:Nat}{va:Value}{a:(Pq×((List (List Int))×(List Nat)))}(ra:(tFc m n).Is h0 va a){vb:Value}{b:(Pq×((List (List Int))×(List Nat)))}(rb:(tFc k l).Is h0 vb b)(hcd0:a.2.1.length≤100000)(hcd1:b.2.1.length≤100000):
 Calls Tryz.prog 129 #[va,vb] w0 (Ret w0 h0 (fun _ r=>r=vB (lsF a b))):=by
 refine cb2 53 va vb func129 hs ?_;refine go2 ?_;refine nB ra fun b2 am C=>(nB rb fun b3 ak z=>(go7 ?_));refine lX (xB ty9 (Pc.snd (Pc.snd pH)) C) fun v8 r8=>?_;obtain⟨rfl,aj⟩:=kH r8;refine go1 ?_;refine lX (xB ty9 (Pc.snd (Pc.snd pH)) z) fun bc ah=>?_;obtain⟨rfl,S⟩:=kH ah;refine gv (zQY (pa:=a.2.2) (pb:=b.2.2) aj S rfl rfl) rfl (gc2 (fun G=>?_) fun G=>?_)
 ·
  refine go3 ?_;refine lX (xB ty9 (Pc.snd (Pc.snd pH)) C) fun bb ae=>?_;obtain⟨rfl,O⟩:=kH ae;refine go1 ?_;refine lX (xB ty9 (Pc.snd (Pc.snd pH)) z) fun ba ad=>?_;obtain⟨rfl,M⟩:=kH ad;refine gv (zQ2 (pa:=a.2.2) (pb:=b.2.2) O M rfl rfl) rfl (go5 ?_);refine zD rfl rfl ?_;exact fL (Iff.of_eq (if_neg G).symm)
 have H:a.2.2=b.2.2:=Classical.not_not.1 G;refine go9 ?_;refine gcL (ι:=Nat×Mem) (fun(i,ma)=>(MLe h0 ma∧((i≤a.2.1.length∧i≤b.2.1.length)∧∀u,u<i→pX (a.2.1.getD u []) (b.2.1.getD u [])=0),[(2,vP b2 0),(3,vP b3 0),(5,vI ↑i)],[.var b3 83 ak,.var b2 83 am],ma,a.2.1.length-i)) (0,h0) ?_ ?_
 · exact⟨mle,by omega,fun u h=>by omega⟩
 rintro⟨i,ma⟩ ⟨an,bh,hi2⟩
 refine yU ?_;refine go5 ?_;refine lX (xB cJ (Pc.snd (Pc.fst pH)) C) fun az bg=>(go2 ?_);refine gU 7 28 (vB (((↑i:Int)<(↑(a.2.1).length:Int))∧((↑i:Int)<(↑(b.2.1).length:Int)))) ?_ ?_
 ·
  refine yD ((↑i:Int)<(↑(a.2.1).length:Int)) (fun I=>?_) (fun I=>?_)
  ·
   refine gT I rfl (go5 ?_);refine lX (xB cJ (Pc.snd (Pc.fst pH)) z) fun ay bf=>(go6 ?_);refine gqU ?_;exact congrArg some (xN I)
  refine gF I rfl (go7 ?_);refine gqU ?_;exact congrArg some (xO I)
 refine gc2 (fun J=>?_) fun J=>?_
 ·
  refine go5 ?_;refine zK 12 _ [] [(0,.q),(1,.q),(2,.q),(3,.q),(4,.q),(5,.q),(6,.q),(7,.q),(8,.q),(9,.q),(10,.c),(11,.q)] yC nX (vJ (by kernel_rfl)) nX (fun r hr=>hr) (go1 ?_);refine wX rfl (xB cJ (Pc.snd (Pc.fst pH)) C) fun ax ac=>(go1 ?_);refine wX rfl (xI [] i underlying81 fO ac) fun aw ab=>(wX rfl (xA fO ab) fun av aa=>(go1 ?_));refine wX rfl (xB cJ (Pc.snd (Pc.fst pH)) z) fun au Z=>(go1 ?_);refine wX rfl (xI [] i underlying81 fO Z) fun ar Y=>(wX rfl (xA fO Y) fun aq X=>?_);refine w_c rfl (sC (ev2 rfl rfl) call178 (fun w hs=>zBB hs aa X) fun T h1 bi U=>?_);obtain rfl:T=vI (pX (a.2.1.getD i []) (b.2.1.getD i [])):=U;have ai:=dH (a.2.1.getD i []) (b.2.1.getD i []);refine gc9 (fun D=>?_) fun D=>?_
  ·
   refine sL ?_;refine zD rfl rfl ?_;exact fL ((zU8 hi2 oM oM D).symm.trans (Iff.of_eq (if_pos H).symm))
  refine go8 ?_;refine gqL ((i+1),h1) ?_ ?_
  · exact⟨mle,by omega,qL (Q:=fun u=>pX (a.2.1.getD u []) (b.2.1.getD u [])=0) hi2 (Classical.not_not.1 D)⟩
  omega
 have ei:i=min a.2.1.length b.2.1.length:=by omega
 refine go8 ?_;refine lX (xB cJ (Pc.snd (Pc.fst pH)) C) fun ap be=>(go2 ?_);refine lX (xB cJ (Pc.snd (Pc.fst pH)) z) fun ao bd=>(go6 ?_);refine zD rfl rfl ?_;exact fL (Iff.trans oM ((zRW hi2 ei).symm.trans (Iff.of_eq (if_pos H).symm)))
theorem zOF{w0:World}{h0:Mem}(hs:MLe h0 (mem w0)){m n:Nat}{vs:Value}{s:Pq}(rs:(tPl m n).Is h0 vs s)(hcd0:m≤10000000)(hcd1:n≤10000000):
 Calls Tryz.prog 64 #[vs] w0 (Ret w0 h0 (fun h r=>(tPl (4*m+10) (m+n+10)).Is h r (scZ s))):=by
 refine cb1 36 vs func64 hs ?_;refine go2 ?_;refine nB rs fun Z bb D=>(nA (ρ:=(tPl 1 1)) (X:=(zT,(0:Rat))) mC (yL (xY (yH dC)) (yH dC)) fun b2 ba ad=>(go9 ?_));refine gcL (ι:=Nat×Mem) (fun(i,ma)=>(MLe h0 ma∧(i≤3∧∀u,u<i→xJ (s.1.at u)=0),[(1,vP Z 0),(2,vP b2 0),(3,vI ↑i)],[.var b2 80 ba,.var Z 80 bb],ma,3-i)) (0,h0) ?_ ?_
 · exact⟨mle,by omega,fun u h=>by omega⟩
 rintro⟨i,ma⟩ ⟨bd,bu,hi2⟩
 refine yU ?_;refine gc7 (fun ay=>?_) fun ay=>?_
 ·
  refine go8 ?_;refine gv ((zX (sz:=3) i underlying53 sizeOf26 rfl rfl rfl oM).cv (show _=vP Z ((i*3+0)) from congrArg (vP Z) oM)) rfl (lX (xB yB (Pc.fst (Pc.ta pH i oM)) D) fun bt aw=>(cL (ev1 rfl) call17 (fun w hs=>qM hs aw oM) fun ae h1 cb av=>?_));obtain rfl:ae=vI (xJ (s.1.at i)):=av;have ax:=wI (s.1.at i);refine gc3 (fun C=>?_) fun C=>?_
  ·
   refine go1 ?_;refine zK 13 _ [(10,(4,26,[.bool false,.slice none 0 0,.slice none 0 0]))] [(1,.q),(2,.q),(3,.q),(4,.q),(0,.c),(5,.c),(6,.c),(7,.q),(8,.q),(9,.q),(10,.a),(11,.c),(12,.q)] yC (jL.cons rfl rfl (uX yP rfl rfl) jL.nil) (vJ (by kernel_rfl)) (uZ rfl rfl kM) (fun r hr=>hr) (go2 ?_);refine xK rfl (fun _ _=>(zX (sz:=3) i underlying53 sizeOf26 rfl rfl rfl oM).cv (show _=vP Z ((i*3+0)) from congrArg (vP Z) oM)) rfl (wX rfl (xB yB (Pc.fst (Pc.ta pH i oM)) D) fun br ar=>?_);refine w_c rfl (sC (vs:=[vI (1)]) ⟨rfl,trivial⟩ call39 (fun w hs=>jS hs dC dC) fun bs h2 ca au=>?_);refine w_c rfl (sC (ev1 rfl) call29 (fun w hs=>zKR hs ar.up oM) fun bq h3 bz aq=>?_);refine w_c rfl (sC (ev2 rfl rfl) call112 (fun w hs=>zKQ hs au.up aq oM) fun bp h4 bx ap=>?_);obtain⟨I,rfl,z⟩:=ap
   change (rpQ (2+m)).Is h4 I (if(dL (s.1.at i))=0 then 0 else(((1:Int):Int):Rat)/(dL (s.1.at i))) at z
   replace z:=Rp.Is.le z (Le.q (l:=m+2) oM);refine go3 ?_;refine w_a rfl rfl (fun b4=>?_);have ah:(rpQ 1).R h4 [.bool false,.slice none 0 0,.slice none 0 0] (0:Rat):=(yH dC);refine w_c rfl ?_;have ab:=(Le.q (l:=m+2) oM).R ah;refine bD (A:=[]) (uB sizeOf26 pH ab z) (wN (by first|(simp;done)|grind)) fun bf H=>(go4 ?_);refine zK 9 _ [] [(0,.q),(1,.q),(2,.q),(4,.q),(5,.q),(6,.q),(3,.c),(7,.c),(8,.q),(9,.t)] yC nX (by kernel_rfl) nX (fun r hr=>hr) (wX rfl (xB yB pH H) fun bo ao=>(go1 ?_));refine wX rfl (xB zU (Pc.fst pH) D) fun bn an=>(wX rfl (xB yB pH H) fun bl am=>(go1 ?_));refine wX rfl (xB yB (Pc.snd pH) D) fun bk ak=>?_;refine w_c rfl (sC (ev2 rfl rfl) call111 (fun w hs=>zKT hs ao an oM) fun bm h5 bw U=>?_);replace U:=Rp.Is.le U (Le.t (Le.q (l:=4*m+7) oM));refine w_c rfl (sC (ev2 rfl rfl) call9 (fun w hs=>wO hs am.up ak.up oM) fun bj h6 bv T=>?_);replace T:=Rp.Is.le T (Le.q (l:=m+n+2) oM);refine wX rfl (xV (ρ:=(tPl (4*m+7) (m+n+2))) (wD (ps':=[(0,_),(1,_)]) underlying80 mC rfl rfl (bE underlying80) e4z rfl (yL (xY (yH oM)) (yH oM)) (zI rfl (Pc.fst (Pc.here _)) U.up (zI rfl (Pc.snd (Pc.here _)) T zY)))) fun bi aj=>?_;have aa:=(Le.p (Le.t (Le.q (l:=4*m+7) oM)) (Le.q (l:=m+n+2) oM)).R ad;refine yK (A:=[_]) rfl (uB sizeOf80 pH aa aj) fun be ac=>(go8 ?_);refine wM (kA (t:=2) zG6 mh1 rfl ac) ?_;intro bg Y M;refine yG (fun E S=>zQ rfl Y E S) ?_;exact(Rp.Is.cast (Rp.Is.le M (Le.p (Le.t (Le.q (l:=4*m+10) oM)) (Le.q (l:=m+n+10) oM))) (by exact yAU oM hi2 C))
  refine go8 ?_;refine gqL ((i+1),h1) ?_ ?_
  · exact⟨mle,by omega,qL (Q:=fun u=>xJ (s.1.at u)=0) hi2 (Classical.not_not.1 C)⟩
  omega
 have ei:i=3:=by omega
 refine go7 ?_;refine lX (xV (ρ:=(tPl 1 1)) (wD (ps':=[]) underlying80 mC rfl rfl (bE underlying80) trivial rfl (yL (xY (yH dC)) (yH dC)) zY)) fun bh ai=>(zS (A:=[]) (uB sizeOf80 pH ad ai) fun az O=>(go3 ?_));refine wM (kA (t:=2) zG6 mh0 rfl O) ?_;intro bc G J;refine yG (fun E S=>zQ rfl G E S) ?_;exact(Rp.Is.cast (Rp.Is.le J (Le.p (Le.t (Le.q (l:=4*m+10) oM)) (Le.q (l:=m+n+10) oM))) (by exact zX0 fun u hu=>hi2 u oM))
theorem zH9{w0:World}{h0:Mem}(hs:MLe h0 (mem w0)){vx:Value}{x:(List Int)}(rx:(rpS rpI).Is h0 vx x)(hcd0:x.length≤100000):
 Calls Tryz.prog 65 #[vx] w0 (Ret w0 h0 (fun h r=>(rpS rpI).Is h r (zJ2 x x.length))):=by
 refine cb1 20 vx func65 hs ?_;refine go20 ?_;refine xR 3 1 ?_;have J:=RL.nil (ρ:=rpI) (h:=h0);refine gcL (ι:=Nat×List Int×Value×List Value×Mem) (fun(i,D,u,C,T)=>(MLe h0 T∧(RL rpI T C D∧i≤x.length∧D=zJ2 x i),[(0,vx),(3,u),(4,vI (↑x.length-1-↑i))],[.gs 3 1 u D.length C],T,x.length-i)) (0,[],(.slice none 0 0),[],h0) ?_ ?_ (he:=⟨rfl,rfl,congrArg (fun z=>some (vI z)) oM,trivial⟩)
 · exact⟨mle,J,by omega,rfl⟩
 rintro⟨i,D,u,C,T⟩ ⟨ac,G,an,hD⟩
 refine yU ?_;have ao:D.length=i:=by rw[hD];exact wK _ _
 refine gc7 (fun aa=>?_) fun aa=>?_
 ·
  refine go8 ?_;refine lX (xI (0:Int) (x.length-1-i) underlying32 ty3 rx) fun aj Y=>(lX (xA ty3 Y) fun ai X=>?_);obtain⟨rfl,ad,ab⟩:=jX X;refine zF (zW (ρ:=rpI) (m:=1) (xs:=[(x.getD (x.length-1-i) (0:Int))]) (ps':=[(0,_)]) underlying32 gJ rfl rfl rfl wG e2z (zI rfl (Pc.arr (Pc.here _) (0:Int) 0 dC) (qD oM oM) zY) (show 1*1≤16777216 from by decide) nP) rfl rfl rfl ?_
  rintro ah am ⟨ae,rfl,O⟩
  refine yJ (A:=[]) (ρ:=rpI) O ?_;intro h1 Z I;refine xT (A:=[]) (yF (ρ:=rpI) (bytes:=8) underlying32 gJ rfl rfl rfl rfl nP rfl rfl G.up I bO bO) rfl rfl rfl ?_
  rintro U ak ⟨S,rfl,M⟩
  refine go9 ?_;refine gqL ((i+1),(D++[(x.getD (x.length-1-i) (0:Int))]),U,S,h1) ?_ ?_ (he:=⟨rfl,rfl,congrArg (fun z=>some (vI z)) oM,trivial⟩)
  · exact⟨mle,M,by omega,by rw[hD];rfl⟩
  omega
 have ei:i=x.length:=by omega
 refine qO ?_;refine wY (A:=[]) (ρ:=rpI) G.up ?_;intro h1 Z H;refine zD rfl rfl ?_;exact(Rp.Is.cast H (by rw[hD,ei]))
end Go.Proofs.YtboaboflnckgoaaGreat
namespace Go.Proofs.YtboaboflnckgoaaGreat
open Bk Go Tryz
set_option linter.unusedVariables false
set_option linter.unusedSimpArgs false
set_option maxRecDepth 10000
set_option maxHeartbeats 1000000
attribute [local irreducible] GL GC GQ W OpV
theorem zOH{w0:World}{h0:Mem}(hs:MLe h0 (mem w0)){k m n j:Nat}{vs:Value}{s:Sq}(rs:(tSd k m n j).Is h0 vs s)(hcd0:k≤1000)(hcd1:okS s)(hcd2:nmA s):
 Calls Tryz.prog 127 #[vs] w0 (Ret w0 h0 (fun h r=>(rpS rpI).Is h r (bK s s.1.length))):=by
 have dt:=hcd1.1.1.1;have dr:=hcd1.1.1.2;have ba:=lY s;refine cb1 80 vs func127 hs ?_;refine go2 ?_;refine nB rs fun b1 aw ad=>(go6 ?_);refine lX (xB uR (Pc.fst pH) ad) fun dl dn=>(go1 ?_);refine zF (zE3 (ρ:=rpB) (X:=False) (by':=1) s.1.length underlying189 zWM rfl rfl rfl rfl zr_b rfl rfl (by rfl) (by rfl) bO bO) rfl rfl rfl ?_
 rintro bo dp ⟨bj,rfl,az⟩
 refine go5 ?_;refine lX (xB kF pH ad) fun dk ce=>(cL (ev1 rfl) call159 (fun w hs=>zE0 hs ce (by first|omega|exact hcd1.mem) (by first|omega|exact hcd1.mem)) fun dj h1 dx cd=>(cL (ev1 rfl) call174 (fun w hs=>zCR hs cd (by first|omega|exact fun f hf=>(by rw[ba] at hf;rw[zAN hf];exact hcd1.2.1 f hf)) (by first|omega|exact fun f hf=>(by rw[ba] at hf;rw[zAN hf];exact hcd1.2.1 f hf))) fun bn h2 dw cc=>(go6 ?_)));have dy:=zVU hcd1;have hE:∀q,q<(edZ (vN s)).length→0≤((edZ (vN s)).getD q e50).1∧((edZ (vN s)).getD q e50).1<↑s.1.length:=fun q hq=>zO0 hcd2 hq;refine go4 ?_;refine gcL (ι:=Nat×List Prop×Value×List Value×Mem) (fun(i,U,C,M,ma)=>(MLe h2 ma∧(RL rpB ma M U∧(i≤(edZ (vN s)).length∧U.length=s.1.length)∧∀u,u<s.1.length→(U.getD u False↔zFQ (edZ (vN s)) i u)),[(1,vP b1 0),(3,C),(4,bn),(5,vI ↑i)],[.gs 4 1 C U.length M,.var b1 50 aw],ma,(edZ (vN s)).length-i)) (0,(List.replicate s.1.length False),bo,bj,h2) ?_ ?_
 · exact⟨mle,az.up,⟨by omega,List.length_replicate⟩,fun u h=>by rw[zNZ h];exact⟨False.elim,fun⟨q,h,_⟩=>by omega⟩⟩
 rintro⟨i,U,C,M,ma⟩ ⟨cp,ae,⟨du,bf⟩,be⟩
 refine yU ?_;refine gc9 (fun bd=>?_) fun bd=>?_
 ·
  refine go8 ?_;refine lX (xI e50 i underlying190 iA cc) fun di cb=>(lX (xF underlying193 sizeOf3 (Pc.fst pH) cb) fun dh ca=>(lX (xA ty3 ca) fun df bz=>?_));obtain⟨rfl,ct,cm⟩:=jX bz;refine gv ((yZ (((edZ (vN s)).getD i e50).1.toNat) mh0 underlying189 sizeOf4 rfl rfl (by(have:=hE i oM;omega)) (by(have:=hE i oM;omega)) nP).cv (show _=zL 1 C ((((edZ (vN s)).getD i e50).1.toNat*1+0)) from congrArg (zL 1 C) (by rfl))) rfl (gD (A:=[]) (F:=fun c_=>RL rpB ma c_ (U.set (((edZ (vN s)).getD i e50).1.toNat) True)) (rQ sizeOf4 (Pc.arr (Pc.here _) False (((edZ (vN s)).getD i e50).1.toNat) (by(have:=hE i oM;omega))) rfl nP rfl rfl ae (yBI) rfl) ?_);intro bg ay;refine go8 ?_;refine gqL ((i+1),(U.set (((edZ (vN s)).getD i e50).1.toNat) True),C,bg,ma) ?_ ?_
  · exact⟨mle,ay,⟨by omega,by rw[lS];exact bf⟩,zPJ bf be (hE i oM).1 (hE i oM).2⟩
  omega
 have ap:∀u,u<s.1.length→(U.getD u False↔zFQ (edZ (vN s)) (edZ (vN s)).length u):=fun u hu=>by rw[show(edZ (vN s)).length=i by omega];exact be u hu
 refine dE ?_;refine xR 3 1 ?_;have ax:=RL.nil (ρ:=rpI) (h:=ma);refine gcL (ι:=Nat×List Int×Value×List Value×Mem) (fun(i,D,H,J,mb)=>(MLe ma mb∧(RL rpI mb J D∧i≤s.1.length∧D=bK s i),[(1,vP b1 0),(3,C),(6,H),(7,vI ↑i)],[.gs 3 1 H D.length J,.gs 4 1 C U.length M,.var b1 50 aw],mb,s.1.length-i)) (0,[],(.slice none 0 0),[],ma) ?_ ?_
 · exact⟨mle,ax,by omega,rfl⟩
 rintro⟨i,D,H,J,mb⟩ ⟨co,I,hi2,hD⟩
 refine yU ?_;have dz:D.length≤i:=by rw[hD];exact zKN s i
 refine go5 ?_;refine lX (xB uR (Pc.fst pH) ad) fun de dm=>(gc4 (fun bc=>?_) fun bc=>?_)
 ·
  refine go9 ?_;refine gv ((yZ i mh1 underlying189 sizeOf4 rfl rfl rfl bO nP).cv (show _=zL 1 C ((i*1+0)) from congrArg (zL 1 C) (by rfl))) rfl (zEB (F:=fun v_=>rpB.Is mb v_ (U.getD i False)) (wW ty4 (Pc.arr (Pc.here _) False i bO) rfl nP rfl ae.up rfl) (tT mh1) rfl ?_);intro dd bx;obtain rfl:=of_b bx;refine gc3 (fun aa=>?_) fun aa=>?_
  ·
   refine go9 ?_;refine gqL ((i+1),D,H,J,mb) ?_ ?_
   · exact⟨mle,I,by omega,by rw[hD];exact(if_neg (fun e=>aa ((ap i oM).2 e))).symm⟩
   omega
  refine go5 ?_;refine gv (gA mh0 underlying32 rfl) rfl (go5 ?_);refine gcL (ι:=Nat×Mem) (fun(G,mk)=>(MLe mb mk∧(G≤D.length∧cV (zN6 s D i) D.length=cV (zN6 s D i) G),[(1,vP b1 0),(3,C),(6,H),(7,vI ↑i),(8,vI ↑G)],[.gs 3 1 H D.length J,.gs 4 1 C U.length M,.var b1 50 aw],mk,G)) (D.length,mb) ?_ ?_ (he:=e5)
  · exact⟨mle,by omega,rfl⟩
  rintro⟨G,mk⟩ ⟨cn,dq,ar⟩
  refine yU ?_;refine go2 ?_;refine zK 19 _ [] [(0,.q),(1,.q),(2,.q),(3,.q),(4,.q),(5,.q),(6,.q),(7,.q),(8,.q),(9,.q),(10,.q),(11,.q),(12,.q),(13,.q),(14,.q),(15,.q),(16,.q),(17,.c),(18,.q)] yC nX (vJ (by kernel_rfl)) nX (fun r hr=>hr) (go3 ?_);refine gR ((0:Int)<(↑G:Int)) (fun Y=>?_) (fun Y=>?_)
  ·
   rw[xM Y];refine go1 ?_;refine oX rfl (xB uR (Pc.fst pH) ad) fun dc bw=>(yO rfl rfl rfl (fun h' L' hh hR=>yX rfl) rfl (oX rfl (xI zT i underlying46 zU bw) fun db bv=>(oX rfl (xA zU bv) fun da bu=>(go1 ?_))));refine oX rfl (xB uR (Pc.fst pH) ad) fun cz bt=>(yO rfl rfl rfl (fun h' L' hh hR=>yX rfl) rfl (yO rfl rfl rfl (fun h' L' hh hR=>yX rfl) rfl (go1 ?_)));refine yO rfl rfl rfl (fun h' L' hh hR=>(yZ (G-1) (hR _ mh0) underlying32 sizeOf3 rfl rfl oM oM nP).cv (show _=zL 1 H (((G-1)*1+0)) from congrArg (zL 1 H) (by rfl))) rfl (aB (F:=fun v_=>rpI.Is mk v_ (D.getD (G-1) (0:Int))) rfl rfl rfl (wW ty3 (Pc.arr (Pc.here _) (0:Int) (G-1) oM) rfl nP rfl I.up rfl) (tT mh0) rfl ?_);intro cy bs;obtain⟨rfl,cq,cl⟩:=jX bs;refine aB (F:=fun v_=>AtP (tPt k) mk v_ (s.1.getD ((D.getD (G-1) 0).toNat) zT)) rfl rfl rfl (lH zT ((D.getD (G-1) 0).toNat) underlying46 zU rfl rfl bt (by(have:=oP (s:=s) (i:=i) (k:=G-1) (by rw[←hD];omega);rw[←hD] at this;omega)) (by(have:=oP (s:=s) (i:=i) (k:=G-1) (by rw[←hD];omega);rw[←hD] at this;omega)) nP) zBI rfl ?_;intro cw br;refine oX rfl (xA zU br) fun cu bq=>?_;refine w_c rfl (rK rfl rfl (sC (ev2 rfl rfl) call175 (fun w hs=>zRE hs bu bq oM oM) fun bm h3 bb bp=>?_));obtain rfl:bm=vB (lsP (s.1.getD i zT) (s.1.getD ((D.getD (G-1) 0).toNat) zT)):=bp;refine gc3 (fun Z=>?_) fun Z=>?_
   ·
    refine go9 ?_;refine gqL ((G-1),h3) ?_ ?_ (he:=⟨rfl,rfl,rfl,rfl,congrArg (fun z=>some (vI z)) oM,trivial⟩)
    · exact⟨mle,by omega,by rw[ar];exact zLU oM Z⟩
    omega
   refine go8 ?_;refine zF (zW (ρ:=rpI) (m:=1) (xs:=[(0:Int)]) (ps':=[(0,_)]) underlying32 gJ rfl rfl rfl wG e2z (zI rfl (Pc.arr (Pc.here _) (0:Int) 0 dC) (qD dC dC) zY) (show 1*1≤16777216 from by decide) nP) rfl rfl rfl ?_
   rintro bl ch ⟨bi,rfl,ac⟩
   refine yJ (A:=[]) (ρ:=rpI) ac ?_;intro h4 dv aj;refine xT (A:=[]) (yF (ρ:=rpI) (bytes:=8) underlying32 gJ rfl rfl rfl rfl nP rfl rfl I.up aj bO bO) rfl rfl rfl ?_
   rintro O cg ⟨bh,rfl,ab⟩
   refine go4 ?_;refine bR (A:=[]) (by rw[lAz];exact Nat.succ_pos _) (fun ob ck S T=>?_);refine jJ (A:=[]) 8 [] [(0,.q),(1,.q),(2,.q),(3,.q),(4,.q),(5,.q),(6,.q),(7,.c)] yC nX (by kernel_rfl) nX (go3 ?_);refine xK rfl (fun _ _=>qF (G+1) underlying32 sizeOf3 rfl rfl ⟨_,_,S,T⟩ oM (by simp only[lAz,lC,lN];omega)) rfl (go2 ?_);refine xK rfl (fun _ _=>qF G underlying32 sizeOf3 rfl rfl ⟨_,_,S,T⟩ oM (by simp only[lAz,lC,lN];omega)) rfl ?_;refine w_c rfl (sR (A:=[]) (fun X=>aZ (ρ:=rpI) G S T underlying32 sizeOf3 rfl rfl (by simp only[lAz,lC,lN];omega) ab) rfl (wN (by first|(simp;done)|grind)) ?_)
   rintro bk cf ⟨cj,rfl,ao⟩
   refine go6 ?_;refine gv ((yZ G mh0 underlying32 sizeOf3 rfl rfl oM (by rw[kZ (by simp only[lAz,lC,lN];omega)];simp only[lAz,lC,lN];omega) nP).cv (show _=zL 1 O ((G*1+0)) from congrArg (zL 1 O) (by rfl))) rfl (gD (A:=[]) (F:=fun c_=>RL rpI h4 c_ ((fT (D++[(0:Int)]) G).set G (↑i:Int))) (rQ sizeOf3 (Pc.arr (Pc.here _) (0:Int) G (by rw[kZ (by simp only[lAz,lC,lN];omega)];simp only[lAz,lC,lN];omega)) rfl nP rfl rfl ao (qD oM oM) rfl) ?_);intro av an;refine go8 ?_;refine gqL ((i+1),((fT (D++[(0:Int)]) G).set G (↑i:Int)),O,av,h4) ?_ ?_
   · exact⟨mle,an,by omega,by rw[aW oM];have aq:cV (zN6 s D i) D.length=G:=by{rw[ar];exact zDP (fun e=>by first|omega|exact Z e.2)};rw[←aq,hD];exact(if_pos ((ap i oM).1 (Classical.not_not.1 aa))).symm⟩
   omega
  rw[yV Y];refine tV ?_;refine w_c rfl (y7 rfl rfl rfl rfl (qO ?_));refine zF (zW (ρ:=rpI) (m:=1) (xs:=[(0:Int)]) (ps':=[(0,_)]) underlying32 gJ rfl rfl rfl wG e2z (zI rfl (Pc.arr (Pc.here _) (0:Int) 0 dC) (qD dC dC) zY) (show 1*1≤16777216 from by decide) nP) rfl rfl rfl ?_
  rintro bl ch ⟨bi,rfl,ac⟩
  refine yJ (A:=[]) (ρ:=rpI) ac ?_;intro h3 bb ai;refine xT (A:=[]) (yF (ρ:=rpI) (bytes:=8) underlying32 gJ rfl rfl rfl rfl nP rfl rfl I.up ai bO bO) rfl rfl rfl ?_
  rintro O cg ⟨bh,rfl,ab⟩
  refine go4 ?_;refine bR (A:=[]) (by rw[lAz];exact Nat.succ_pos _) (fun ob ck S T=>?_);refine jJ (A:=[]) 8 [] [(0,.q),(1,.q),(2,.q),(3,.q),(4,.q),(5,.q),(6,.q),(7,.c)] yC nX (by kernel_rfl) nX (go3 ?_);refine xK rfl (fun _ _=>qF (G+1) underlying32 sizeOf3 rfl rfl ⟨_,_,S,T⟩ oM (by simp only[lAz,lC,lN];omega)) rfl (go2 ?_);refine xK rfl (fun _ _=>qF G underlying32 sizeOf3 rfl rfl ⟨_,_,S,T⟩ oM (by simp only[lAz,lC,lN];omega)) rfl ?_;refine w_c rfl (sR (A:=[]) (fun X=>aZ (ρ:=rpI) G S T underlying32 sizeOf3 rfl rfl (by simp only[lAz,lC,lN];omega) ab) rfl (wN (by first|(simp;done)|grind)) ?_)
  rintro bk cf ⟨ci,rfl,am⟩
  refine go6 ?_;refine gv ((yZ G mh0 underlying32 sizeOf3 rfl rfl oM (by rw[kZ (by simp only[lAz,lC,lN];omega)];simp only[lAz,lC,lN];omega) nP).cv (show _=zL 1 O ((G*1+0)) from congrArg (zL 1 O) (by rfl))) rfl (gD (A:=[]) (F:=fun c_=>RL rpI h3 c_ ((fT (D++[(0:Int)]) G).set G (↑i:Int))) (rQ sizeOf3 (Pc.arr (Pc.here _) (0:Int) G (by rw[kZ (by simp only[lAz,lC,lN];omega)];simp only[lAz,lC,lN];omega)) rfl nP rfl rfl am (qD oM oM) rfl) ?_);intro au ak;refine go8 ?_;refine gqL ((i+1),((fT (D++[(0:Int)]) G).set G (↑i:Int)),O,au,h3) ?_ ?_
  · exact⟨mle,ak,by omega,by rw[aW oM];have aq:cV (zN6 s D i) D.length=G:=by{rw[ar];exact zDP (fun e=>by first|omega|exact Z e.2)};rw[←aq,hD];exact(if_pos ((ap i oM).1 (Classical.not_not.1 aa))).symm⟩
  omega
 have ei:i=s.1.length:=by omega
 refine qO ?_;refine wY (A:=[]) (ρ:=rpI) I.up ?_;intro h3 bb ah;refine zD rfl rfl ?_;exact(Rp.Is.cast ah (by rw[hD,ei]))
end Go.Proofs.YtboaboflnckgoaaGreat
namespace Go.Proofs.YtboaboflnckgoaaGreat
open Bk Go Tryz
set_option linter.unusedVariables false
set_option linter.unusedSimpArgs false
set_option maxRecDepth 10000
set_option maxHeartbeats 1000000
attribute [local irreducible] GL GC GQ W OpV
theorem rW{w0:World}{h0:Mem}(hs:MLe h0 (mem w0)){k:Nat}{vp:Value}{p:Tq}(rp:(tPt k).Is h0 vp p):
 Calls Tryz.prog 201 #[vp] w0 (Ret w0 h0 (fun h r=>(tPt (k+1)).Is h r (zZ p))):=by
 refine cb1 8 vp func201 hs ?_;refine go2 ?_;refine nB rp fun b1 T D=>(nA (ρ:=(tPt (k+1))) (X:=zT) yW (xY (yH oM)) fun Z O G=>(go5 ?_));refine lX (xB yB (Pc.tx pH) D) fun v4 r4=>(go1 ?_);refine lX (xB yB (Pc.ty pH) D) fun Y M=>(lX (xV (ρ:=(tPt (k+1))) (xD (ps':=[(0,_),(1,_)]) underlying53 yW rfl rfl sizeOf26 e4z rfl (xY (yH oM)) (zI rfl (Pc.tx (Pc.here _)) (r4.le (Le.q (l:=k+1) oM)) (zI rfl (Pc.ty (Pc.here _)) (M.le (Le.q (l:=k+1) oM)) zY)))) fun U J=>(zS (A:=[]) (uB sizeOf53 pH G J) fun H C=>(go3 ?_)));refine wM (kA (t:=2) zU mh0 rfl C) ?_;intro I u z;refine yG (fun E S=>zQ rfl u E S) ?_;exact z
theorem qR{w0:World}{h0:Mem}(hs:MLe h0 (mem w0)){k:Nat}{va:Value}{a:Tq}(ra:(tPt k).Is h0 va a){vb:Value}{b:Tq}(rb:(tPt k).Is h0 vb b)(hcd0:k≤2000000000):
 Calls Tryz.prog 193 #[va,vb] w0 (Ret w0 h0 (fun _ r=>r=vB ((pr a 0 1)=(pr b 0 1)))):=by
 refine cb2 17 va vb func193 hs ?_;refine go2 ?_;refine nB ra fun b2 U z=>(nB rb fun b3 T u=>(go6 ?_));refine lX (xB yB (Pc.tx pH) z) fun v6 r6=>(go1 ?_);refine lX (xB yB (Pc.tx pH) u) fun v8 r8=>(cL (ev2 rfl rfl) call15 (fun w hs=>vO hs r6 r8 oM) fun Y X ab r9=>?_);obtain rfl:Y=vB (a.x=b.x):=r9;refine uL (ι:=Mem) 7 (fun O=>MLe X O) (fun _=>[(16,vB ((a.x=b.x)∧(a.y=b.y)))]) (fun _=>[.var b3 53 T,.var b2 53 U]) (fun O=>O) ?_ ?_
 ·
  refine yD (a.x=b.x) (fun D=>?_) (fun D=>?_)
  ·
   refine gT D rfl (go3 ?_);refine lX (xB yB (Pc.ty pH) z) fun aa J=>(go3 ?_);refine lX (xB yB (Pc.ty pH) u) fun Z I=>(go1 ?_);refine cL (ev2 rfl rfl) call15 (fun w hs=>vO hs J I oM) fun G h2 S H=>?_;obtain rfl:G=vB (a.y=b.y):=H;refine go2 ?_;refine zO h2 S ⟨?_,trivial⟩ rfl rfl;exact congrArg some (xN D)
  refine gF D rfl (go7 ?_);refine zO X (MLe.refl _) ⟨?_,trivial⟩ rfl rfl;exact congrArg some (xO D)
 intro M C;refine tJ ?_;refine go4 ?_;refine zD rfl rfl ?_
 first|exact fL (by rw[zQR];exact Iff.rfl)|exact(xM (by rw[zQR];exact Iff.rfl)).symm|exact(yV (by rw[zQR];exact Iff.rfl)).symm
theorem sU{w0:World}{h0:Mem}(hs:MLe h0 (mem w0)){k:Nat}{va:Value}{a:Tq}(ra:(tPt k).Is h0 va a){vb:Value}{b:Tq}(rb:(tPt k).Is h0 vb b)(hcd0:k≤2000000000):
 Calls Tryz.prog 202 #[va,vb] w0 (Ret w0 h0 (fun _ r=>r=vB (lx (pr a 0 1) (pr b 0 1)))):=by
 refine cb2 21 va vb func202 hs ?_;refine go2 ?_;refine nB ra fun b2 ac C=>(nB rb fun b3 ab z=>(go7 ?_));refine lX (xB yB (Pc.tx pH) C) fun v7 Y=>(go1 ?_);refine lX (xB yB (Pc.tx pH) z) fun v9 X=>(cL (ev2 rfl rfl) call18 (fun w hs=>kB hs Y X oM) fun G h1 aa M=>?_);obtain rfl:G=vI (wH a.x b.x):=M;have S:=jC a.x b.x;refine gc9 (fun u=>?_) fun u=>?_
 ·
  refine go9 ?_;refine zD rfl rfl ?_;exact fL (zY4 u)
 refine go5 ?_;refine lX (xB yB (Pc.ty pH) C) fun U J=>(go1 ?_);refine lX (xB yB (Pc.ty pH) z) fun T I=>(cL (ev2 rfl rfl) call18 (fun w hs=>kB hs J I oM) fun D h2 Z H=>?_);obtain rfl:D=vI (wH a.y b.y):=H;have O:=jC a.y b.y;refine go5 ?_;refine zD rfl rfl ?_;exact fL (zY3 u)
theorem sV{w0:World}{h0:Mem}(hs:MLe h0 (mem w0)){k:Nat}{vl:Value}{l:(List Tq)}(rl:(tLs k).Is h0 vl l)(hcd0:k≤100000)(hcd1:l.length≤1000):
 Calls Tryz.prog 170 #[vl] w0 (Ret w0 h0 (fun h r=>(rpQ 1000000000).Is h r (uS l 0 1 l.length))):=by
 refine cb1 40 vl func170 hs ?_;refine go2 ?_;refine nA (ρ:=(rpQ 1)) (X:=(0:Rat)) yP (yH dC) fun b2 bd am=>(go4 ?_);refine lX (xV (ρ:=(rpQ 1)) (wD (ps':=[]) underlying26 yP rfl rfl (vD underlying26) trivial rfl (yH dC) zY)) fun v7 r7=>(nA (ρ:=(rpQ 1)) (X:=(0:Rat)) yP (yH dC) fun b3 cb ak=>(zS (A:=[]) (uB sizeOf26 pH ak r7) fun ah ad=>(go9 ?_)));refine gcL (ι:=Nat×Nat×List Value×Mem) (fun(m,q,D,ma)=>(MLe h0 ma∧((rpQ q).R ma D (uS l 0 1 m)∧m≤l.length∧q≤(4*k+9)*m+1),[(0,vl),(2,vP b2 0),(3,vP b3 0),(4,vI ↑m)],[.var b3 26 D,.var b2 26 bd],ma,l.length-m)) (0,1,ah,h0) ?_ ?_
 · exact⟨mle,ad,by omega,by omega⟩
 rintro⟨m,q,D,ma⟩ ⟨bf,u,bv,bu⟩
 refine yU ?_;have az:=Nat.mul_le_mul_left (4*k+9) (show m≤1000 by omega);refine gc9 (fun ae=>?_) fun ae=>?_
 ·
  refine go5 ?_;refine zK 16 _ [(12,(5,53,[.bool false,.slice none 0 0,.slice none 0 0,.bool false,.slice none 0 0,.slice none 0 0,.bool false,.slice none 0 0,.slice none 0 0])),(13,(6,53,[.bool false,.slice none 0 0,.slice none 0 0,.bool false,.slice none 0 0,.slice none 0 0,.bool false,.slice none 0 0,.slice none 0 0]))] [(0,.q),(1,.q),(2,.q),(3,.q),(4,.q),(5,.q),(6,.q),(7,.q),(8,.q),(9,.q),(10,.q),(11,.q),(12,.a),(13,.a),(14,.c),(15,.c)] yC (jL.cons rfl rfl (uX yW rfl rfl) (jL.cons rfl rfl (uX yW rfl rfl) jL.nil)) (vJ (by kernel_rfl)) (uZ rfl rfl (uZ rfl rfl kM)) (fun r hr=>hr) (go2 ?_);refine wX rfl (xI zT m underlying46 zU rl) fun bt ay=>(wX rfl (xA zU ay) fun bs ax=>(go4 ?_));refine w_q rfl (fun h' L' hh hR=>uW underlying46 rfl (rl.up.mono hh)) rfl (xK rfl (fun _ _=>vW rfl rfl oM oM) rfl (wX rfl (xI zT ((m+1)%l.length) underlying46 zU rl (hi:=by exact Nat.mod_lt _ oM)) fun br aw=>(wX rfl (xA zU aw) fun bq av=>?_)));refine w_a rfl rfl (fun b5=>?_);have aj:(tPt 1).R ma [.bool false,.slice none 0 0,.slice none 0 0,.bool false,.slice none 0 0,.slice none 0 0,.bool false,.slice none 0 0,.slice none 0 0] zT:=(xY (yH dC));refine w_a rfl rfl (fun b6=>?_);have ai:(tPt 1).R ma [.bool false,.slice none 0 0,.slice none 0 0,.bool false,.slice none 0 0,.slice none 0 0,.bool false,.slice none 0 0,.slice none 0 0] zT:=(xY (yH dC));refine w_c rfl ?_;have ac:=(Le.t (Le.q (l:=k+1) oM)).R aj;refine bD (A:=[_]) (uB sizeOf53 pH ac (ax.le (Le.t (Le.q (l:=k+1) oM)))) (wN (by first|(simp;done)|grind)) fun bc C=>?_;refine w_c rfl ?_;have J:=(Le.t (Le.q (l:=k+1) oM)).R ai;refine bD (A:=[]) (uB sizeOf53 pH J (av.le (Le.t (Le.q (l:=k+1) oM)))) (wN (by first|(simp;done)|grind)) fun bb z=>(go2 ?_);refine zK 13 _ [] [(0,.q),(1,.q),(2,.q),(3,.q),(4,.q),(6,.q),(7,.q),(8,.q),(9,.q),(5,.c),(10,.c),(11,.c),(12,.c),(13,.t)] yC nX (vJ (by kernel_rfl)) nX (fun r hr=>hr) (wX rfl (xB yB pH u) fun bp au=>(go1 ?_));refine wX rfl (xB yB (Pc.tx pH) C) fun bo ar=>(go1 ?_);refine wX rfl (xB yB (Pc.ty pH) z) fun bn aq=>(go1 ?_);refine wX rfl (xB yB (Pc.tx pH) z) fun bl ap=>(go1 ?_);refine wX rfl (xB yB (Pc.ty pH) C) fun bk ao=>?_;refine w_c rfl (sC (ev2 rfl rfl) call9 (fun w hs=>wO hs ar aq oM) fun bm h1 ca aa=>?_);replace aa:=Rp.Is.le aa (Le.q (l:=2*k+2) oM);refine w_c rfl (sC (ev2 rfl rfl) call9 (fun w hs=>wO hs ap.up ao.up oM) fun bj h2 bz Z=>?_);replace Z:=Rp.Is.le Z (Le.q (l:=2*k+2) oM);refine w_c rfl (sC (ev2 rfl rfl) call16 (fun w hs=>bM hs aa.up Z oM) fun bi h3 bx Y=>?_);replace Y:=Rp.Is.le Y (Le.q (l:=4*k+5) oM);refine w_c rfl (sC (ev2 rfl rfl) call37 (fun w hs=>kC hs au.up Y oM) fun bh h4 bw U=>?_);replace U:=Rp.Is.le U (Le.q (l:=4*k+q+6) oM);have I:=(Le.q (l:=4*k+q+6) oM).R u;refine yK (A:=[_,_]) rfl (uB sizeOf26 pH I U) fun ab T=>(go8 ?_);refine vT (A:=[]) (vT (A:=[]) ?_);refine gqL ((m+1),(q+(4*k+9)),ab,h4) ?_ ?_
  · exact⟨mle,(Rp.castR (Le.R (Le.q (l:=q+(4*k+9)) oM) T) rfl),by omega,by rw[Nat.mul_succ];omega⟩
  omega
 have em:m=l.length:=by omega
 have az:=Nat.mul_le_mul_left (4*k+9) (show m≤1000 by omega);refine go7 ?_;refine lX (xB yB pH u) fun bg an=>?_;have H:=(Le.q (l:=q+1) oM).R am;refine zS (A:=[_]) (uB sizeOf26 pH H (an.le (Le.q (l:=q+1) oM))) fun ba O=>(go3 ?_);refine wM (kA (t:=2) yB mh1 rfl O) ?_;intro be G M;refine yG (fun E S=>zQ rfl G E S) ?_;exact(Rp.Is.cast (Rp.Is.le M (Le.q (l:=1000000000) oM)) (by rw[em]))
theorem fK{w0:World}{h0:Mem}(hs:MLe h0 (mem w0)){k:Nat}{va:Value}{a:Tq}(ra:(tPt k).Is h0 va a){vb:Value}{b:Tq}(rb:(tPt k).Is h0 vb b){vc:Value}{c:Tq}(rc:(tPt k).Is h0 vc c)(hcd0:k≤10000):
 Calls Tryz.prog 203 #[va,vb,vc] w0 (Ret w0 h0 (fun _ r=>r=vI (orZ (pr a 0 1) (pr b 0 1) (pr c 0 1)))):=by
 refine cb3 13 va vb vc func203 hs ?_;refine go2 ?_;refine nB ra fun b3 ah H=>(nB rb fun b4 ae G=>(nB rc fun b5 ad D=>(go5 ?_)));refine lX (xB zU pH H) fun v7 Y=>(lX (xB zU pH G) fun v8 X=>(lX (xB zU pH D) fun v9 U=>(zF (zW (ρ:=(tPt (k+1))) (m:=3) (xs:=[a,b,c]) (ps':=[(0,_),(1,_),(2,_)]) underlying46 yW rfl rfl rfl (xY (yH oM)) e6z (zI rfl (Pc.arr (Pc.here _) zT 0 dC) (Y.le (Le.t (Le.q (l:=k+1) oM))) (zI rfl (Pc.arr (Pc.here _) zT 1 dC) (X.le (Le.t (Le.q (l:=k+1) oM))) (zI rfl (Pc.arr (Pc.here _) zT 2 dC) (U.le (Le.t (Le.q (l:=k+1) oM))) zY))) (show 3*9≤16777216 from by decide) nP) rfl rfl rfl ?_)))
 rintro T Z ⟨O,rfl,z⟩
 refine yJ (A:=[]) (ρ:=(tPt (k+1))) z ?_;intro h1 ac u;refine cL (ev1 rfl) call170 (fun w hs=>sV hs u oM (by first|omega|exact(by decide:3≤1000))) fun S h2 ab J=>(cL (ev1 rfl) call17 (fun w hs=>qM hs J dC) fun C h3 aa I=>?_);obtain rfl:C=vI (xJ (uS [a,b,c] 0 1 [a,b,c].length)):=I;have M:=wI (uS [a,b,c] 0 1 [a,b,c].length);refine go4 ?_;refine zD rfl rfl ?_;exact congrArg vI (zTT a b c)
theorem nV{w0:World}{h0:Mem}(hs:MLe h0 (mem w0)){k:Nat}{va:Value}{a:Tq}(ra:(tPt k).Is h0 va a){vb:Value}{b:Tq}(rb:(tPt k).Is h0 vb b){vp:Value}{p:Tq}(rp:(tPt k).Is h0 vp p)(hcd0:k≤10000):
 Calls Tryz.prog 206 #[va,vb,vp] w0 (Ret w0 h0 (fun _ r=>r=vB (onS (pr a 0 1) (pr b 0 1) (pr p 0 1)))):=by
 refine cb3 29 va vb vp func206 hs ?_;refine go2 ?_;refine nB ra fun b3 bd M=>(nB rb fun b4 bc J=>(nB rp fun b5 ad X=>(go3 ?_)));refine qI (ι:=List Value×List Value×Mem) (fun(z,u,O)=>MLe h0 O∧((tPt k).R O z (loT a b 0 1)∧(tPt k).R O u (hiT a b 0 1)∧True)) (fun(z,u,O)=>[(3,vP b3 0),(4,vP b4 0),(5,vP b5 0)]) (fun(z,u,O)=>[.var b5 53 ad,.var b4 53 u,.var b3 53 z]) (fun(z,u,O)=>O) ?_ ?_
 ·
  refine go2 ?_;refine lX (xB zU pH J) fun v7 r7=>(lX (xB zU pH M) fun v8 r8=>(cL (ev2 rfl rfl) call202 (fun w hs=>sU hs r7 r8 oM) fun v9 h1 aa r9=>?_));obtain rfl:v9=vB (lx (pr b 0 1) (pr a 0 1)):=r9;refine gc2 (fun I=>?_) fun I=>?_
  ·
   refine go1 ?_;refine lX (xB zU pH J) fun bn ba=>(lX (xB zU pH M) fun bm az=>(zS (A:=[_,_]) (uB sizeOf53 pH M ba) fun ac U=>(zS (A:=[_]) (uB sizeOf53 pH J az) fun ab T=>(go1 ?_))));refine zO (ac,ab,h1) ?_ e3z rfl rfl;refine⟨aa,?_⟩;refine⟨(Rp.castR U (if_pos I).symm),(Rp.castR T (if_pos I).symm),?_⟩
   trivial
  refine go1 ?_;refine zO (bd,bc,h1) ?_ e3z rfl rfl;refine⟨aa,?_⟩;refine⟨(Rp.castR M.up (if_neg I).symm),(Rp.castR J.up (if_neg I).symm),?_⟩
  trivial
 rintro⟨z,u,O⟩ ⟨be,S⟩
 refine yU ?_;obtain⟨D,C,S⟩:=S;refine go2 ?_;refine lX (xB zU pH D) fun bl ay=>(lX (xB zU pH C) fun bk ax=>(lX (xB zU pH X) fun bj aw=>(cL (ev3 rfl rfl rfl) call203 (fun w hs=>fK hs ay ax aw oM) fun am h1 aa av=>?_)));obtain rfl:am=vI (orZ (pr (loT a b 0 1) 0 1) (pr (hiT a b 0 1) 0 1) (pr p 0 1)):=av;have bb:=tR (pr (loT a b 0 1) 0 1) (pr (hiT a b 0 1) 0 1) (pr p 0 1);refine go1 ?_;refine uL (ι:=Mem) 6 (fun Y=>MLe h1 Y) (fun _=>[(22,vB (((orZ (pr (loT a b 0 1) 0 1) (pr (hiT a b 0 1) 0 1) (pr p 0 1))=(0:Int))∧(¬(lx (pr p 0 1) (pr (loT a b 0 1) 0 1))))),(4,vP b4 0),(5,vP b5 0)]) (fun _=>[.var b5 53 ad,.var b4 53 u,.var b3 53 z]) (fun Y=>Y) ?_ ?_
 ·
  refine yD ((orZ (pr (loT a b 0 1) 0 1) (pr (hiT a b 0 1) 0 1) (pr p 0 1))=(0:Int)) (fun H=>?_) (fun H=>?_)
  ·
   refine gT H rfl (go1 ?_);refine lX (xB zU pH X) fun bi au=>(go1 ?_);refine lX (xB zU pH D) fun bh ar=>(go1 ?_);refine cL (ev2 rfl rfl) call202 (fun w hs=>sU hs au ar oM) fun ak h2 Z aq=>?_;obtain rfl:ak=vB (lx (pr p 0 1) (pr (loT a b 0 1) 0 1)):=aq;refine go4 ?_;refine zO h2 Z ⟨?_,rfl,rfl,trivial⟩ rfl rfl;exact congrArg some (xN H)
  refine gF H rfl (go6 ?_);refine zO h1 (MLe.refl _) ⟨?_,rfl,rfl,trivial⟩ rfl rfl;exact congrArg some (xO H)
 intro G ah;refine tJ ?_;refine uL (ι:=Mem) 6 (fun Y=>MLe G Y) (fun _=>[(28,vB ((((orZ (pr (loT a b 0 1) 0 1) (pr (hiT a b 0 1) 0 1) (pr p 0 1))=(0:Int))∧(¬(lx (pr p 0 1) (pr (loT a b 0 1) 0 1))))∧(¬(lx (pr (hiT a b 0 1) 0 1) (pr p 0 1)))))]) (fun _=>[.var b5 53 ad,.var b4 53 u,.var b3 53 z]) (fun Y=>Y) ?_ ?_
 ·
  refine yD (((orZ (pr (loT a b 0 1) 0 1) (pr (hiT a b 0 1) 0 1) (pr p 0 1))=(0:Int))∧(¬(lx (pr p 0 1) (pr (loT a b 0 1) 0 1)))) (fun H=>?_) (fun H=>?_)
  ·
   refine gT H rfl (go1 ?_);refine lX (xB zU pH C) fun bg ap=>(go1 ?_);refine lX (xB zU pH X) fun bf ao=>(go1 ?_);refine cL (ev2 rfl rfl) call202 (fun w hs=>sU hs ap ao oM) fun aj h2 Z an=>?_;obtain rfl:aj=vB (lx (pr (hiT a b 0 1) 0 1) (pr p 0 1)):=an;refine go4 ?_;refine zO h2 Z ⟨?_,trivial⟩ rfl rfl;exact congrArg some (xN H)
  refine gF H rfl (go6 ?_);refine zO G (MLe.refl _) ⟨?_,trivial⟩ rfl rfl;exact congrArg some (xO H)
 intro ai ae;refine tJ ?_;refine go4 ?_;refine zD rfl rfl ?_
 first|exact fL (by rw[←zYI];grind)|exact(xM (by rw[←zYI];grind)).symm|exact(yV (by rw[←zYI];grind)).symm
theorem zN8{w0:World}{h0:Mem}(hs:MLe h0 (mem w0)){k:Nat}{va:Value}{a:Tq}(ra:(tPt k).Is h0 va a){vb:Value}{b:Tq}(rb:(tPt k).Is h0 vb b){vc:Value}{c:Tq}(rc:(tPt k).Is h0 vc c){vd:Value}{d:Tq}(rd:(tPt k).Is h0 vd d)(hcd0:k≤9000):
 Calls Tryz.prog 204 #[va,vb,vc,vd] w0 (Ret w0 h0 (fun _ r=>r=vI (zBC (pr a 0 1) (pr b 0 1) (pr c 0 1) (pr d 0 1)))):=by
 refine gM (n:=72) (e:=[(0,va),(1,vb),(2,vc),(3,vd)]) (vs:=[va,vb,vc,vd]) func204 rfl rfl (bL rfl) hs e4z (go2 ?_);refine nB ra fun b4 U ao=>(nB rb fun b5 T an=>(nB rc fun b6 S ah=>(nB rd fun b7 O ae=>(go4 ?_))));refine zK 6 _ [(2,(9,53,[.bool false,.slice none 0 0,.slice none 0 0,.bool false,.slice none 0 0,.slice none 0 0,.bool false,.slice none 0 0,.slice none 0 0])),(3,(10,53,[.bool false,.slice none 0 0,.slice none 0 0,.bool false,.slice none 0 0,.slice none 0 0,.bool false,.slice none 0 0,.slice none 0 0]))] [(0,.q),(1,.q),(2,.a),(3,.a),(4,.c),(5,.c)] yC (jL.cons rfl rfl (uX yW rfl rfl) (jL.cons rfl rfl (uX yW rfl rfl) jL.nil)) (by kernel_rfl) (uZ rfl rfl (uZ rfl rfl kM)) (fun r hr=>hr) (wX rfl (xB zU pH ao) fun fd du=>(wX rfl (xB zU pH an) fun fc dt=>?_));refine w_a rfl rfl (fun b9=>?_);have bv:(tPt (k+1)).R h0 [.bool false,.slice none 0 0,.slice none 0 0,.bool false,.slice none 0 0,.slice none 0 0,.bool false,.slice none 0 0,.slice none 0 0] zT:=(xY (yH oM));refine w_a rfl rfl (fun H=>?_);have bc:(tPt (k+1)).R h0 [.bool false,.slice none 0 0,.slice none 0 0,.bool false,.slice none 0 0,.slice none 0 0,.bool false,.slice none 0 0,.slice none 0 0] zT:=(xY (yH oM));refine w_c rfl (bD (A:=[_]) (uB sizeOf53 pH bv (du.le (Le.t (Le.q (l:=k+1) oM)))) (wN (by first|(simp;done)|grind)) fun ay Y=>?_);refine w_c rfl (bD (A:=[]) (uB sizeOf53 pH bc (dt.le (Le.t (Le.q (l:=k+1) oM)))) (wN (by first|(simp;done)|grind)) fun am X=>(go2 ?_));refine qI (ι:=List Value×Mem) (fun(u,m1)=>MLe h0 m1∧((tPt (k+1)).R m1 u (mxT a c 0 1)∧True)) (fun(u,m1)=>[(4,vP b4 0),(5,vP b5 0),(6,vP b6 0),(7,vP b7 0),(9,vP b9 0),(10,vP H 0)]) (fun(u,m1)=>[.var H 53 am,.var b9 53 u,.var b7 53 O,.var b6 53 S,.var b5 53 T,.var b4 53 U]) (fun(u,m1)=>m1) ?_ ?_
 ·
  refine go2 ?_;refine lX (xB zU pH Y) fun fb dr=>(lX (xB zU pH ah) fun fa dq=>(cL (ev2 rfl rfl) call202 (fun w hs=>sU hs dr (dq.le (Le.t (Le.q (l:=k+1) oM))) oM) fun bu h1 ac dp=>?_));obtain rfl:bu=vB (lx (pr a 0 1) (pr c 0 1)):=dp;refine gc2 (fun ak=>?_) fun ak=>?_
  ·
   refine go1 ?_;refine lX (xB zU pH ah) fun ez dn=>(zS (A:=[_]) (uB sizeOf53 pH Y (dn.le (Le.t (Le.q (l:=k+1) oM)))) fun ax aq=>(go1 ?_));refine zO (ax,h1) ?_ e6z rfl rfl;refine⟨ac,?_⟩;refine⟨(Rp.castR aq (if_pos ak).symm),?_⟩
   trivial
  refine go1 ?_;refine zO (ay,h1) ?_ e6z rfl rfl;refine⟨ac,?_⟩;refine⟨(Rp.castR Y.up (if_neg ak).symm),?_⟩
  trivial
 rintro⟨u,m1⟩ ⟨dw,M⟩
 refine yU ?_;obtain⟨C,M⟩:=M;refine qI (ι:=List Value×Mem) (fun(z,m2)=>MLe m1 m2∧((tPt (k+1)).R m2 z (mnT b d 0 1)∧True)) (fun(z,m2)=>[(4,vP b4 0),(5,vP b5 0),(6,vP b6 0),(7,vP b7 0),(9,vP b9 0),(10,vP H 0)]) (fun(z,m2)=>[.var H 53 z,.var b9 53 u,.var b7 53 O,.var b6 53 S,.var b5 53 T,.var b4 53 U]) (fun(z,m2)=>m2) ?_ ?_
 ·
  refine go2 ?_;refine lX (xB zU pH ae) fun ey dm=>(lX (xB zU pH X) fun ew dl=>(cL (ev2 rfl rfl) call202 (fun w hs=>sU hs (dm.le (Le.t (Le.q (l:=k+1) oM))) dl oM) fun bt h1 ac dk=>?_));obtain rfl:bt=vB (lx (pr d 0 1) (pr b 0 1)):=dk;refine gc2 (fun aj=>?_) fun aj=>?_
  ·
   refine go1 ?_;refine lX (xB zU pH ae) fun ev dj=>(zS (A:=[]) (uB sizeOf53 pH X (dj.le (Le.t (Le.q (l:=k+1) oM)))) fun aw ap=>(go1 ?_));refine zO (aw,h1) ?_ e6z rfl rfl;refine⟨ac,?_⟩;refine⟨(Rp.castR ap (if_pos aj).symm),?_⟩
   trivial
  refine go1 ?_;refine zO (am,h1) ?_ e6z rfl rfl;refine⟨ac,?_⟩;refine⟨(Rp.castR X.up (if_neg aj).symm),?_⟩
  trivial
 rintro⟨z,m2⟩ ⟨dv,M⟩
 refine yU ?_;obtain⟨ad,M⟩:=M;refine go4 ?_;refine lX (xB zU pH ad) fun eu di=>(lX (xB zU pH C) fun et dh=>(cL (ev2 rfl rfl) call202 (fun w hs=>sU hs di dh oM) fun bs h1 ac df=>?_));obtain rfl:bs=vB (lx (pr (mnT b d 0 1) 0 1) (pr (mxT a c 0 1) 0 1)):=df;refine gc3 (fun bh=>?_) fun bh=>?_
 ·
  refine go8 ?_;refine zD rfl rfl ?_;refine congrArg vI ?_;rw[←zC8 rfl rfl];unfold zC9;grind
 refine go2 ?_;refine lX (xB zU pH C) fun es de=>(lX (xB zU pH ad) fun er dd=>(cL (ev2 rfl rfl) call193 (fun w hs=>qR hs de dd oM) fun br h2 ff dc=>?_));obtain rfl:br=vB ((pr (mxT a c 0 1) 0 1)=(pr (mnT b d 0 1) 0 1)):=dc;refine gc4 (fun bg=>?_) fun bg=>?_
 ·
  refine go8 ?_;refine zD rfl rfl ?_;refine congrArg vI ?_;rw[←zC8 rfl rfl];unfold zC9;grind
 refine go2 ?_;refine lX (xB zU pH C) fun eq db=>(lX (xB zU pH ao) fun ep da=>(cL (ev2 rfl rfl) call193 (fun w hs=>qR hs db (da.le (Le.t (Le.q (l:=k+1) oM))) oM) fun bq h3 fe cz=>?_));obtain rfl:bq=vB ((pr (mxT a c 0 1) 0 1)=(pr a 0 1)):=cz;refine uL (ι:=Mem) 5 (fun G=>MLe h3 G) (fun _=>[(38,vB (((pr (mxT a c 0 1) 0 1)=(pr a 0 1))∨((pr (mxT a c 0 1) 0 1)=(pr b 0 1)))),(4,vP b4 0),(5,vP b5 0),(6,vP b6 0),(7,vP b7 0),(9,vP b9 0)]) (fun _=>[.var H 53 z,.var b9 53 u,.var b7 53 O,.var b6 53 S,.var b5 53 T,.var b4 53 U]) (fun G=>G) ?_ ?_
 ·
  refine yD ((pr (mxT a c 0 1) 0 1)=(pr a 0 1)) (fun D=>?_) (fun D=>?_)
  ·
   refine gT D rfl (go5 ?_);refine zO h3 (MLe.refl _) ⟨?_,rfl,rfl,rfl,rfl,rfl,trivial⟩ rfl rfl;exact congrArg some (vZ D)
  refine gF D rfl (go1 ?_);refine lX (xB zU pH C) fun eo cy=>(go1 ?_);refine lX (xB zU pH an) fun en cw=>(go1 ?_);refine cL (ev2 rfl rfl) call193 (fun w hs=>qR hs cy (cw.le (Le.t (Le.q (l:=k+1) oM))) oM) fun bp h4 J cv=>?_;obtain rfl:bp=vB ((pr (mxT a c 0 1) 0 1)=(pr b 0 1)):=cv;refine go2 ?_;refine zO h4 J ⟨?_,rfl,rfl,rfl,rfl,rfl,trivial⟩ rfl rfl;exact congrArg some (uA D)
 intro ab bb;refine tJ ?_;refine uL (ι:=Mem) 10 (fun G=>MLe ab G) (fun _=>[(48,vB ((((pr (mxT a c 0 1) 0 1)=(pr a 0 1))∨((pr (mxT a c 0 1) 0 1)=(pr b 0 1)))∧(((pr (mxT a c 0 1) 0 1)=(pr c 0 1))∨((pr (mxT a c 0 1) 0 1)=(pr d 0 1))))),(4,vP b4 0),(5,vP b5 0),(6,vP b6 0),(7,vP b7 0),(9,vP b9 0)]) (fun _=>[.var H 53 z,.var b9 53 u,.var b7 53 O,.var b6 53 S,.var b5 53 T,.var b4 53 U]) (fun G=>G) ?_ ?_
 ·
  refine yD (((pr (mxT a c 0 1) 0 1)=(pr a 0 1))∨((pr (mxT a c 0 1) 0 1)=(pr b 0 1))) (fun D=>?_) (fun D=>?_)
  ·
   refine gT D rfl (go1 ?_);refine lX (xB zU pH C) fun em cu=>(go1 ?_);refine lX (xB zU pH ah) fun el ct=>(go1 ?_);refine cL (ev2 rfl rfl) call193 (fun w hs=>qR hs cu (ct.le (Le.t (Le.q (l:=k+1) oM))) oM) fun bo h4 J cq=>?_;obtain rfl:bo=vB ((pr (mxT a c 0 1) 0 1)=(pr c 0 1)):=cq;refine uL (ι:=Mem) 5 (fun G=>MLe h4 G) (fun _=>[(47,vB (((pr (mxT a c 0 1) 0 1)=(pr c 0 1))∨((pr (mxT a c 0 1) 0 1)=(pr d 0 1)))),(4,vP b4 0),(5,vP b5 0),(6,vP b6 0),(7,vP b7 0),(9,vP b9 0),(39,.bool true)]) (fun _=>[.var H 53 z,.var b9 53 u,.var b7 53 O,.var b6 53 S,.var b5 53 T,.var b4 53 U]) (fun G=>G) ?_ ?_
   ·
    refine yD ((pr (mxT a c 0 1) 0 1)=(pr c 0 1)) (fun D=>?_) (fun D=>?_)
    ·
     refine go1 ?_;refine gT D rfl (go6 ?_);refine zO h4 (MLe.refl _) ⟨?_,rfl,rfl,rfl,rfl,rfl,rfl,trivial⟩ rfl rfl;exact congrArg some (vZ D)
    refine go1 ?_;refine gF D rfl (go1 ?_);refine lX (xB zU pH C) fun ek cp=>(go1 ?_);refine lX (xB zU pH ae) fun ej co=>(go1 ?_);refine cL (ev2 rfl rfl) call193 (fun w hs=>qR hs cp (co.le (Le.t (Le.q (l:=k+1) oM))) oM) fun bn h5 av cn=>?_;obtain rfl:bn=vB ((pr (mxT a c 0 1) 0 1)=(pr d 0 1)):=cn;refine go3 ?_;refine zO h5 av ⟨?_,rfl,rfl,rfl,rfl,rfl,rfl,trivial⟩ rfl rfl;exact congrArg some (uA D)
   intro ai Z;refine tJ ?_;refine go2 ?_;refine zO ai (J.trans Z) ⟨?_,rfl,rfl,rfl,rfl,rfl,trivial⟩ rfl rfl;exact congrArg some (xN D)
  refine gF D rfl (uQ ?_);refine zO ab (MLe.refl _) ⟨?_,rfl,rfl,rfl,rfl,rfl,trivial⟩ rfl rfl;exact congrArg some (xO D)
 intro aa ba;refine tJ ?_;refine uL (ι:=Mem) 6 (fun G=>MLe aa G) (fun _=>[(54,vB (((((pr (mxT a c 0 1) 0 1)=(pr a 0 1))∨((pr (mxT a c 0 1) 0 1)=(pr b 0 1)))∧(((pr (mxT a c 0 1) 0 1)=(pr c 0 1))∨((pr (mxT a c 0 1) 0 1)=(pr d 0 1))))∧(onS (pr a 0 1) (pr b 0 1) (pr (mxT a c 0 1) 0 1)))),(4,vP b4 0),(5,vP b5 0),(6,vP b6 0),(7,vP b7 0),(9,vP b9 0)]) (fun _=>[.var H 53 z,.var b9 53 u,.var b7 53 O,.var b6 53 S,.var b5 53 T,.var b4 53 U]) (fun G=>G) ?_ ?_
 ·
  refine yD ((((pr (mxT a c 0 1) 0 1)=(pr a 0 1))∨((pr (mxT a c 0 1) 0 1)=(pr b 0 1)))∧(((pr (mxT a c 0 1) 0 1)=(pr c 0 1))∨((pr (mxT a c 0 1) 0 1)=(pr d 0 1)))) (fun D=>?_) (fun D=>?_)
  ·
   refine gT D rfl (go1 ?_);refine lX (xB zU pH ao) fun ei cm=>(go1 ?_);refine lX (xB zU pH an) fun eh cl=>(go1 ?_);refine lX (xB zU pH C) fun eg ck=>(go1 ?_);refine cL (ev3 rfl rfl rfl) call206 (fun w hs=>nV hs (cm.le (Le.t (Le.q (l:=k+1) oM))) (cl.le (Le.t (Le.q (l:=k+1) oM))) ck oM) fun bm h4 J cj=>?_;obtain rfl:bm=vB (onS (pr a 0 1) (pr b 0 1) (pr (mxT a c 0 1) 0 1)):=cj;refine go2 ?_;refine zO h4 J ⟨?_,rfl,rfl,rfl,rfl,rfl,trivial⟩ rfl rfl;exact congrArg some (xN D)
  refine gF D rfl (go6 ?_);refine zO aa (MLe.refl _) ⟨?_,rfl,rfl,rfl,rfl,rfl,trivial⟩ rfl rfl;exact congrArg some (xO D)
 intro I au;refine tJ ?_;refine uL (ι:=Mem) 6 (fun G=>MLe I G) (fun _=>[(60,vB ((((((pr (mxT a c 0 1) 0 1)=(pr a 0 1))∨((pr (mxT a c 0 1) 0 1)=(pr b 0 1)))∧(((pr (mxT a c 0 1) 0 1)=(pr c 0 1))∨((pr (mxT a c 0 1) 0 1)=(pr d 0 1))))∧(onS (pr a 0 1) (pr b 0 1) (pr (mxT a c 0 1) 0 1)))∧(onS (pr c 0 1) (pr d 0 1) (pr (mxT a c 0 1) 0 1)))),(4,vP b4 0),(5,vP b5 0),(6,vP b6 0),(7,vP b7 0),(9,vP b9 0)]) (fun _=>[.var H 53 z,.var b9 53 u,.var b7 53 O,.var b6 53 S,.var b5 53 T,.var b4 53 U]) (fun G=>G) ?_ ?_
 ·
  refine yD (((((pr (mxT a c 0 1) 0 1)=(pr a 0 1))∨((pr (mxT a c 0 1) 0 1)=(pr b 0 1)))∧(((pr (mxT a c 0 1) 0 1)=(pr c 0 1))∨((pr (mxT a c 0 1) 0 1)=(pr d 0 1))))∧(onS (pr a 0 1) (pr b 0 1) (pr (mxT a c 0 1) 0 1))) (fun D=>?_) (fun D=>?_)
  ·
   refine gT D rfl (go1 ?_);refine lX (xB zU pH ah) fun ef ci=>(go1 ?_);refine lX (xB zU pH ae) fun ee ch=>(go1 ?_);refine lX (xB zU pH C) fun ed cg=>(go1 ?_);refine cL (ev3 rfl rfl rfl) call206 (fun w hs=>nV hs (ci.le (Le.t (Le.q (l:=k+1) oM))) (ch.le (Le.t (Le.q (l:=k+1) oM))) cg oM) fun bl h4 J cf=>?_;obtain rfl:bl=vB (onS (pr c 0 1) (pr d 0 1) (pr (mxT a c 0 1) 0 1)):=cf;refine go2 ?_;refine zO h4 J ⟨?_,rfl,rfl,rfl,rfl,rfl,trivial⟩ rfl rfl;exact congrArg some (xN D)
  refine gF D rfl (go6 ?_);refine zO I (MLe.refl _) ⟨?_,rfl,rfl,rfl,rfl,rfl,trivial⟩ rfl rfl;exact congrArg some (xO D)
 intro bd ar;refine tJ ?_;refine gc3 (fun bf=>?_) fun bf=>?_
 ·
  refine go8 ?_;refine zD rfl rfl ?_;refine congrArg vI ?_;rw[←zC8 rfl rfl];unfold zC9;grind
 refine go2 ?_;refine lX (xB zU pH ao) fun ec ce=>(lX (xB zU pH an) fun eb cd=>(lX (xB zU pH C) fun ea cc=>(cL (ev3 rfl rfl rfl) call206 (fun w hs=>nV hs (ce.le (Le.t (Le.q (l:=k+1) oM))) (cd.le (Le.t (Le.q (l:=k+1) oM))) cc oM) fun bk h4 J cb=>?_)));obtain rfl:bk=vB (onS (pr a 0 1) (pr b 0 1) (pr (mxT a c 0 1) 0 1)):=cb;refine uL (ι:=Mem) 6 (fun G=>MLe h4 G) (fun _=>[(71,vB ((onS (pr a 0 1) (pr b 0 1) (pr (mxT a c 0 1) 0 1))∧(onS (pr c 0 1) (pr d 0 1) (pr (mxT a c 0 1) 0 1))))]) (fun _=>[.var H 53 z,.var b9 53 u,.var b7 53 O,.var b6 53 S,.var b5 53 T,.var b4 53 U]) (fun G=>G) ?_ ?_
 ·
  refine yD (onS (pr a 0 1) (pr b 0 1) (pr (mxT a c 0 1) 0 1)) (fun D=>?_) (fun D=>?_)
  ·
   refine gT D rfl (go1 ?_);refine lX (xB zU pH ah) fun dz ca=>(go1 ?_);refine lX (xB zU pH ae) fun dy bz=>(go1 ?_);refine lX (xB zU pH C) fun dx bx=>(go1 ?_);refine cL (ev3 rfl rfl rfl) call206 (fun w hs=>nV hs (ca.le (Le.t (Le.q (l:=k+1) oM))) (bz.le (Le.t (Le.q (l:=k+1) oM))) bx oM) fun bj h5 av bw=>?_;obtain rfl:bj=vB (onS (pr c 0 1) (pr d 0 1) (pr (mxT a c 0 1) 0 1)):=bw;refine go2 ?_;refine zO h5 av ⟨?_,trivial⟩ rfl rfl;exact congrArg some (xN D)
  refine gF D rfl (go6 ?_);refine zO h4 (MLe.refl _) ⟨?_,trivial⟩ rfl rfl;exact congrArg some (xO D)
 intro bi az;refine tJ ?_;refine gc3 (fun be=>?_) fun be=>?_
 ·
  refine go8 ?_;refine zD rfl rfl ?_;refine congrArg vI ?_;rw[←zC8 rfl rfl];unfold zC9;grind
 refine go9 ?_;refine zD rfl rfl ?_;refine congrArg vI ?_;rw[←zC8 rfl rfl];unfold zC9;grind
theorem zH4{w0:World}{h0:Mem}(hs:MLe h0 (mem w0)){k:Nat}{va:Value}{a:Tq}(ra:(tPt k).Is h0 va a){vb:Value}{b:Tq}(rb:(tPt k).Is h0 vb b){vc:Value}{c:Tq}(rc:(tPt k).Is h0 vc c){vd:Value}{d:Tq}(rd:(tPt k).Is h0 vd d)(hcd0:k≤10000):
 Calls Tryz.prog 205 #[va,vb,vc,vd] w0 (Ret w0 h0 (fun _ r=>r=vI (eG (pr a 0 1) (pr b 0 1) (pr c 0 1) (pr d 0 1)))):=by
 refine gM (n:=29) (e:=[(0,va),(1,vb),(2,vc),(3,vd)]) (vs:=[va,vb,vc,vd]) func205 rfl rfl (bL rfl) hs e4z (go2 ?_);refine nB ra fun b4 U J=>(nB rb fun b5 T Y=>(nB rc fun b6 S I=>(nB rd fun b7 O X=>(go6 ?_))));refine lX (xB zU pH J) fun v9 r9=>(lX (xB zU pH Y) fun bh aw=>(cL (ev2 rfl rfl) call193 (fun w hs=>qR hs r9 aw oM) fun ae h1 bi av=>?_));obtain rfl:ae=vB ((pr a 0 1)=(pr b 0 1)):=av;refine uL (ι:=Mem) 6 (fun D=>MLe h1 D) (fun _=>[(17,vB (((pr a 0 1)=(pr b 0 1))∧(onS (pr c 0 1) (pr d 0 1) (pr a 0 1)))),(4,vP b4 0),(5,vP b5 0),(6,vP b6 0),(7,vP b7 0)]) (fun _=>[.var b7 53 O,.var b6 53 S,.var b5 53 T,.var b4 53 U]) (fun D=>D) ?_ ?_
 ·
  refine yD ((pr a 0 1)=(pr b 0 1)) (fun u=>?_) (fun u=>?_)
  ·
   refine gT u rfl (go1 ?_);refine lX (xB zU pH I) fun bg au=>(go1 ?_);refine lX (xB zU pH X) fun bf ar=>(go1 ?_);refine lX (xB zU pH J) fun be aq=>(go1 ?_);refine cL (ev3 rfl rfl rfl) call206 (fun w hs=>nV hs au ar aq oM) fun ad h2 M ap=>?_;obtain rfl:ad=vB (onS (pr c 0 1) (pr d 0 1) (pr a 0 1)):=ap;refine go2 ?_;refine zO h2 M ⟨?_,rfl,rfl,rfl,rfl,trivial⟩ rfl rfl;exact congrArg some (xN u)
  refine gF u rfl (go6 ?_);refine zO h1 (MLe.refl _) ⟨?_,rfl,rfl,rfl,rfl,trivial⟩ rfl rfl;exact congrArg some (xO u)
 intro C aa;refine tJ ?_;refine uL (ι:=Mem) 11 (fun D=>MLe C D) (fun _=>[(28,vB ((((pr a 0 1)=(pr b 0 1))∧(onS (pr c 0 1) (pr d 0 1) (pr a 0 1)))∨(((pr c 0 1)=(pr d 0 1))∧(onS (pr a 0 1) (pr b 0 1) (pr c 0 1)))))]) (fun _=>[.var b7 53 O,.var b6 53 S,.var b5 53 T,.var b4 53 U]) (fun D=>D) ?_ ?_
 ·
  refine yD (((pr a 0 1)=(pr b 0 1))∧(onS (pr c 0 1) (pr d 0 1) (pr a 0 1))) (fun u=>?_) (fun u=>?_)
  ·
   refine gT u rfl (qT ?_);refine zO C (MLe.refl _) ⟨?_,trivial⟩ rfl rfl;exact congrArg some (vZ u)
  refine gF u rfl (go1 ?_);refine lX (xB zU pH I) fun bd ao=>(go1 ?_);refine lX (xB zU pH X) fun bc an=>(go1 ?_);refine cL (ev2 rfl rfl) call193 (fun w hs=>qR hs ao an oM) fun ac h2 M am=>?_;obtain rfl:ac=vB ((pr c 0 1)=(pr d 0 1)):=am;refine uL (ι:=Mem) 6 (fun D=>MLe h2 D) (fun _=>[(27,vB (((pr c 0 1)=(pr d 0 1))∧(onS (pr a 0 1) (pr b 0 1) (pr c 0 1)))),(18,.bool false)]) (fun _=>[.var b7 53 O,.var b6 53 S,.var b5 53 T,.var b4 53 U]) (fun D=>D) ?_ ?_
  ·
   refine yD ((pr c 0 1)=(pr d 0 1)) (fun u=>?_) (fun u=>?_)
   ·
    refine go1 ?_;refine gT u rfl (go1 ?_);refine lX (xB zU pH J) fun bb ak=>(go1 ?_);refine lX (xB zU pH Y) fun ba aj=>(go1 ?_);refine lX (xB zU pH I) fun az ai=>(go1 ?_);refine cL (ev3 rfl rfl rfl) call206 (fun w hs=>nV hs ak aj ai oM) fun ab h3 ay ah=>?_;obtain rfl:ab=vB (onS (pr a 0 1) (pr b 0 1) (pr c 0 1)):=ah;refine go3 ?_;refine zO h3 ay ⟨?_,rfl,trivial⟩ rfl rfl;exact congrArg some (xN u)
   refine go1 ?_;refine gF u rfl (go7 ?_);refine zO h2 (MLe.refl _) ⟨?_,rfl,trivial⟩ rfl rfl;exact congrArg some (xO u)
  intro H z;refine tJ ?_;refine go2 ?_;refine zO H (M.trans z) ⟨?_,trivial⟩ rfl rfl;exact congrArg some (uA u)
 intro ax Z;refine tJ ?_;refine gc2 (fun G=>?_) fun G=>?_
 ·
  refine go7 ?_;refine zD rfl rfl ?_;exact congrArg vI (if_pos G).symm
 refine go8 ?_;refine zD rfl rfl ?_;exact congrArg vI (if_neg G).symm
theorem zCS{w0:World}{h0:Mem}(hs:MLe h0 (mem w0)){k:Nat}{va:Value}{a:Tq}(ra:(tPt k).Is h0 va a){vb:Value}{b:Tq}(rb:(tPt k).Is h0 vb b){vc:Value}{c:Tq}(rc:(tPt k).Is h0 vc c){vd:Value}{d:Tq}(rd:(tPt k).Is h0 vd d)(hcd0:k≤5000):
 Calls Tryz.prog 194 #[va,vb,vc,vd] w0 (Ret w0 h0 (fun _ r=>r=vI (nM (pr a 0 1) (pr b 0 1) (pr c 0 1) (pr d 0 1)))):=by
 refine gM (n:=117) (e:=[(0,va),(1,vb),(2,vc),(3,vd)]) (vs:=[va,vb,vc,vd]) func194 rfl rfl (bL rfl) hs e4z (go2 ?_);refine nB ra fun b4 jq bv=>(nB rb fun b5 jp bu=>(nB rc fun b6 jo bt=>(nB rd fun b7 jn bs=>(go4 ?_))));refine zK 8 _ [] [(0,.q),(2,.q),(4,.q),(6,.q),(1,.c),(3,.c),(5,.c),(7,.c),(8,.t),(9,.t),(10,.t),(11,.t)] yC nX (vJ (by kernel_rfl)) nX (fun r hr=>hr) (wX rfl (xB zU pH bv) fun jf gb=>(wX rfl (xB zU pH bu) fun jd fz=>(wX rfl (xB zU pH bt) fun jb fx=>(wX rfl (xB zU pH bs) fun iz fv=>?_))));refine w_c rfl (sC (ev1 rfl) call201 (fun w hs=>rW hs gb) fun je h1 jl ga=>?_);refine w_c rfl (sC (ev1 rfl) call201 (fun w hs=>rW hs fz.up) fun jc h2 jk fy=>?_);refine w_c rfl (sC (ev1 rfl) call201 (fun w hs=>rW hs fx.up) fun ja h3 jj fw=>?_);refine w_c rfl (sC (ev1 rfl) call201 (fun w hs=>rW hs fv.up) fun iy h4 ji fu=>?_);have ax:=(Le.t (Le.q (l:=k+1) oM)).R bv;refine yK (A:=[_,_,_]) rfl (uB sizeOf53 pH ax ga) fun bj X=>?_;have aw:=(Le.t (Le.q (l:=k+1) oM)).R bu;refine yK (A:=[_,_]) rfl (uB sizeOf53 pH aw fy) fun bi U=>?_;have av:=(Le.t (Le.q (l:=k+1) oM)).R bt;refine yK (A:=[_]) rfl (uB sizeOf53 pH av fw) fun ar T=>?_;have au:=(Le.t (Le.q (l:=k+1) oM)).R bs;refine yK (A:=[]) rfl (uB sizeOf53 pH au fu) fun aq S=>(go2 ?_);refine qI (ι:=List Value×List Value×Mem) (fun(z,u,m1)=>MLe h4 m1∧((tPt (k+1)).R m1 z (loT (zZ a) (zZ b) 0 1)∧(tPt (k+1)).R m1 u (hiT (zZ a) (zZ b) 0 1)∧True)) (fun(z,u,m1)=>[(4,vP b4 0),(5,vP b5 0),(6,vP b6 0),(7,vP b7 0)]) (fun(z,u,m1)=>[.var b7 53 aq,.var b6 53 ar,.var b5 53 u,.var b4 53 z]) (fun(z,u,m1)=>m1) ?_ ?_
 ·
  refine go2 ?_;refine lX (xB zU pH U) fun ix ft=>(lX (xB zU pH X) fun iw fs=>(cL (ev2 rfl rfl) call202 (fun w hs=>sU hs ft fs oM) fun di h5 ai fr=>?_));obtain rfl:di=vB (lx (pr (zZ b) 0 1) (pr (zZ a) 0 1)):=fr;refine gc2 (fun ab=>?_) fun ab=>?_
  ·
   refine go1 ?_;refine lX (xB zU pH U) fun iv fq=>(lX (xB zU pH X) fun iu fp=>(zS (A:=[_,_,_]) (uB sizeOf53 pH X fq) fun bh bb=>(zS (A:=[_,_]) (uB sizeOf53 pH U fp) fun bg ba=>(go1 ?_))));refine zO (bh,bg,h5) ?_ e4z rfl rfl;refine⟨ai,?_⟩;refine⟨(Rp.castR bb (if_pos ab).symm),(Rp.castR ba (if_pos ab).symm),?_⟩
   trivial
  refine go1 ?_;refine zO (bj,bi,h5) ?_ e4z rfl rfl;refine⟨ai,?_⟩;refine⟨(Rp.castR X.up (if_neg ab).symm),(Rp.castR U.up (if_neg ab).symm),?_⟩
  trivial
 rintro⟨z,u,m1⟩ ⟨gt,Z⟩
 refine yU ?_;obtain⟨J,I,Z⟩:=Z;refine qI (ι:=List Value×List Value×Mem) (fun(D,C,m2)=>MLe m1 m2∧((tPt (k+1)).R m2 D (loT (zZ c) (zZ d) 0 1)∧(tPt (k+1)).R m2 C (hiT (zZ c) (zZ d) 0 1)∧True)) (fun(D,C,m2)=>[(4,vP b4 0),(5,vP b5 0),(6,vP b6 0),(7,vP b7 0)]) (fun(D,C,m2)=>[.var b7 53 C,.var b6 53 D,.var b5 53 u,.var b4 53 z]) (fun(D,C,m2)=>m2) ?_ ?_
 ·
  refine go2 ?_;refine lX (xB zU pH S) fun it fo=>(lX (xB zU pH T) fun ir fm=>(cL (ev2 rfl rfl) call202 (fun w hs=>sU hs fo fm oM) fun dh h5 ai fl=>?_));obtain rfl:dh=vB (lx (pr (zZ d) 0 1) (pr (zZ c) 0 1)):=fl;refine gc2 (fun aa=>?_) fun aa=>?_
  ·
   refine go1 ?_;refine lX (xB zU pH S) fun iq fk=>(lX (xB zU pH T) fun ip fj=>(zS (A:=[_]) (uB sizeOf53 pH T fk) fun bf az=>(zS (A:=[]) (uB sizeOf53 pH S fj) fun be ay=>(go1 ?_))));refine zO (bf,be,h5) ?_ e4z rfl rfl;refine⟨ai,?_⟩;refine⟨(Rp.castR az (if_pos aa).symm),(Rp.castR ay (if_pos aa).symm),?_⟩
   trivial
  refine go1 ?_;refine zO (ar,aq,h5) ?_ e4z rfl rfl;refine⟨ai,?_⟩;refine⟨(Rp.castR T.up (if_neg aa).symm),(Rp.castR S.up (if_neg aa).symm),?_⟩
  trivial
 rintro⟨D,C,m2⟩ ⟨gs,Z⟩
 refine yU ?_;obtain⟨H,G,Z⟩:=Z;refine go3 ?_;refine lX (xB zU pH J) fun io fi=>(lX (xB zU pH I) fun im fh=>(lX (xB zU pH H) fun il fg=>(cL (ev3 rfl rfl rfl) call203 (fun w hs=>fK hs fi fh fg oM) fun df h5 ai ff=>?_)));obtain rfl:df=vI (orZ (pr (loT (zZ a) (zZ b) 0 1) 0 1) (pr (hiT (zZ a) (zZ b) 0 1) 0 1) (pr (loT (zZ c) (zZ d) 0 1) 0 1)):=ff;have gh:=tR (pr (loT (zZ a) (zZ b) 0 1) 0 1) (pr (hiT (zZ a) (zZ b) 0 1) 0 1) (pr (loT (zZ c) (zZ d) 0 1) 0 1);refine go1 ?_;refine uL (ι:=Mem) 7 (fun O=>MLe h5 O) (fun _=>[(40,vB (((orZ (pr (loT (zZ a) (zZ b) 0 1) 0 1) (pr (hiT (zZ a) (zZ b) 0 1) 0 1) (pr (loT (zZ c) (zZ d) 0 1) 0 1))=(0:Int))∧((orZ (pr (loT (zZ a) (zZ b) 0 1) 0 1) (pr (hiT (zZ a) (zZ b) 0 1) 0 1) (pr (hiT (zZ c) (zZ d) 0 1) 0 1))=(0:Int)))),(4,vP b4 0),(5,vP b5 0),(6,vP b6 0),(7,vP b7 0)]) (fun _=>[.var b7 53 C,.var b6 53 D,.var b5 53 u,.var b4 53 z]) (fun O=>O) ?_ ?_
 ·
  refine yD ((orZ (pr (loT (zZ a) (zZ b) 0 1) 0 1) (pr (hiT (zZ a) (zZ b) 0 1) 0 1) (pr (loT (zZ c) (zZ d) 0 1) 0 1))=(0:Int)) (fun M=>?_) (fun M=>?_)
  ·
   refine gT M rfl (go1 ?_);refine lX (xB zU pH J) fun ik fe=>(go1 ?_);refine lX (xB zU pH I) fun ij fd=>(go1 ?_);refine lX (xB zU pH G) fun ii fc=>(go1 ?_);refine cL (ev3 rfl rfl rfl) call203 (fun w hs=>fK hs fe fd fc oM) fun de h6 ac fb=>?_;obtain rfl:de=vI (orZ (pr (loT (zZ a) (zZ b) 0 1) 0 1) (pr (hiT (zZ a) (zZ b) 0 1) 0 1) (pr (hiT (zZ c) (zZ d) 0 1) 0 1)):=fb;have gg:=tR (pr (loT (zZ a) (zZ b) 0 1) 0 1) (pr (hiT (zZ a) (zZ b) 0 1) 0 1) (pr (hiT (zZ c) (zZ d) 0 1) 0 1);refine go4 ?_;refine zO h6 ac ⟨?_,rfl,rfl,rfl,rfl,trivial⟩ rfl rfl;exact congrArg some (xN M)
  refine gF M rfl (go7 ?_);refine zO h5 (MLe.refl _) ⟨?_,rfl,rfl,rfl,rfl,trivial⟩ rfl rfl;exact congrArg some (xO M)
 intro aj ck;refine tJ ?_;refine uL (ι:=Mem) 7 (fun O=>MLe aj O) (fun _=>[(47,vB ((((orZ (pr (loT (zZ a) (zZ b) 0 1) 0 1) (pr (hiT (zZ a) (zZ b) 0 1) 0 1) (pr (loT (zZ c) (zZ d) 0 1) 0 1))=(0:Int))∧((orZ (pr (loT (zZ a) (zZ b) 0 1) 0 1) (pr (hiT (zZ a) (zZ b) 0 1) 0 1) (pr (hiT (zZ c) (zZ d) 0 1) 0 1))=(0:Int)))∧((orZ (pr (loT (zZ c) (zZ d) 0 1) 0 1) (pr (hiT (zZ c) (zZ d) 0 1) 0 1) (pr (loT (zZ a) (zZ b) 0 1) 0 1))=(0:Int)))),(4,vP b4 0),(5,vP b5 0),(6,vP b6 0),(7,vP b7 0)]) (fun _=>[.var b7 53 C,.var b6 53 D,.var b5 53 u,.var b4 53 z]) (fun O=>O) ?_ ?_
 ·
  refine yD (((orZ (pr (loT (zZ a) (zZ b) 0 1) 0 1) (pr (hiT (zZ a) (zZ b) 0 1) 0 1) (pr (loT (zZ c) (zZ d) 0 1) 0 1))=(0:Int))∧((orZ (pr (loT (zZ a) (zZ b) 0 1) 0 1) (pr (hiT (zZ a) (zZ b) 0 1) 0 1) (pr (hiT (zZ c) (zZ d) 0 1) 0 1))=(0:Int))) (fun M=>?_) (fun M=>?_)
  ·
   refine gT M rfl (go1 ?_);refine lX (xB zU pH H) fun ih fa=>(go1 ?_);refine lX (xB zU pH G) fun ig ez=>(go1 ?_);refine lX (xB zU pH J) fun ie ey=>(go1 ?_);refine cL (ev3 rfl rfl rfl) call203 (fun w hs=>fK hs fa ez ey oM) fun dd h6 ac ew=>?_;obtain rfl:dd=vI (orZ (pr (loT (zZ c) (zZ d) 0 1) 0 1) (pr (hiT (zZ c) (zZ d) 0 1) 0 1) (pr (loT (zZ a) (zZ b) 0 1) 0 1)):=ew;have gf:=tR (pr (loT (zZ c) (zZ d) 0 1) 0 1) (pr (hiT (zZ c) (zZ d) 0 1) 0 1) (pr (loT (zZ a) (zZ b) 0 1) 0 1);refine go4 ?_;refine zO h6 ac ⟨?_,rfl,rfl,rfl,rfl,trivial⟩ rfl rfl;exact congrArg some (xN M)
  refine gF M rfl (go7 ?_);refine zO aj (MLe.refl _) ⟨?_,rfl,rfl,rfl,rfl,trivial⟩ rfl rfl;exact congrArg some (xO M)
 intro ad bl;refine tJ ?_;refine uL (ι:=Mem) 7 (fun O=>MLe ad O) (fun _=>[(54,vB (((((orZ (pr (loT (zZ a) (zZ b) 0 1) 0 1) (pr (hiT (zZ a) (zZ b) 0 1) 0 1) (pr (loT (zZ c) (zZ d) 0 1) 0 1))=(0:Int))∧((orZ (pr (loT (zZ a) (zZ b) 0 1) 0 1) (pr (hiT (zZ a) (zZ b) 0 1) 0 1) (pr (hiT (zZ c) (zZ d) 0 1) 0 1))=(0:Int)))∧((orZ (pr (loT (zZ c) (zZ d) 0 1) 0 1) (pr (hiT (zZ c) (zZ d) 0 1) 0 1) (pr (loT (zZ a) (zZ b) 0 1) 0 1))=(0:Int)))∧((orZ (pr (loT (zZ c) (zZ d) 0 1) 0 1) (pr (hiT (zZ c) (zZ d) 0 1) 0 1) (pr (hiT (zZ a) (zZ b) 0 1) 0 1))=(0:Int)))),(4,vP b4 0),(5,vP b5 0),(6,vP b6 0),(7,vP b7 0)]) (fun _=>[.var b7 53 C,.var b6 53 D,.var b5 53 u,.var b4 53 z]) (fun O=>O) ?_ ?_
 ·
  refine yD ((((orZ (pr (loT (zZ a) (zZ b) 0 1) 0 1) (pr (hiT (zZ a) (zZ b) 0 1) 0 1) (pr (loT (zZ c) (zZ d) 0 1) 0 1))=(0:Int))∧((orZ (pr (loT (zZ a) (zZ b) 0 1) 0 1) (pr (hiT (zZ a) (zZ b) 0 1) 0 1) (pr (hiT (zZ c) (zZ d) 0 1) 0 1))=(0:Int)))∧((orZ (pr (loT (zZ c) (zZ d) 0 1) 0 1) (pr (hiT (zZ c) (zZ d) 0 1) 0 1) (pr (loT (zZ a) (zZ b) 0 1) 0 1))=(0:Int))) (fun M=>?_) (fun M=>?_)
  ·
   refine gT M rfl (go1 ?_);refine lX (xB zU pH H) fun id ev=>(go1 ?_);refine lX (xB zU pH G) fun ic eu=>(go1 ?_);refine lX (xB zU pH I) fun ib et=>(go1 ?_);refine cL (ev3 rfl rfl rfl) call203 (fun w hs=>fK hs ev eu et oM) fun dc h6 ac es=>?_;obtain rfl:dc=vI (orZ (pr (loT (zZ c) (zZ d) 0 1) 0 1) (pr (hiT (zZ c) (zZ d) 0 1) 0 1) (pr (hiT (zZ a) (zZ b) 0 1) 0 1)):=es;have ge:=tR (pr (loT (zZ c) (zZ d) 0 1) 0 1) (pr (hiT (zZ c) (zZ d) 0 1) 0 1) (pr (hiT (zZ a) (zZ b) 0 1) 0 1);refine go4 ?_;refine zO h6 ac ⟨?_,rfl,rfl,rfl,rfl,trivial⟩ rfl rfl;exact congrArg some (xN M)
  refine gF M rfl (go7 ?_);refine zO ad (MLe.refl _) ⟨?_,rfl,rfl,rfl,rfl,trivial⟩ rfl rfl;exact congrArg some (xO M)
 intro cq bk;refine tJ ?_;refine gc2 (fun co=>?_) fun co=>?_
 ·
  refine go2 ?_;refine lX (xB zU pH J) fun ia er=>(lX (xB zU pH I) fun hz eq=>(lX (xB zU pH H) fun hy ep=>(lX (xB zU pH G) fun hx eo=>(cL (ev4 rfl rfl rfl rfl) call204 (fun w hs=>zN8 hs er eq ep eo oM) fun db h6 ac en=>?_))));obtain rfl:db=vI (zBC (pr (loT (zZ a) (zZ b) 0 1) 0 1) (pr (hiT (zZ a) (zZ b) 0 1) 0 1) (pr (loT (zZ c) (zZ d) 0 1) 0 1) (pr (hiT (zZ c) (zZ d) 0 1) 0 1)):=en;refine go5 ?_;refine zD rfl rfl ?_;refine congrArg vI ?_;rw[←dS rfl rfl rfl rfl];unfold iM;grind
 refine go5 ?_;refine lX (xB zU pH J) fun hw em=>(lX (xB zU pH I) fun hv el=>(cL (ev2 rfl rfl) call193 (fun w hs=>qR hs em el oM) fun da h6 ac ek=>?_));obtain rfl:da=vB ((pr (loT (zZ a) (zZ b) 0 1) 0 1)=(pr (hiT (zZ a) (zZ b) 0 1) 0 1)):=ek;refine uL (ι:=Mem) 5 (fun O=>MLe h6 O) (fun _=>[(67,vB (((pr (loT (zZ a) (zZ b) 0 1) 0 1)=(pr (hiT (zZ a) (zZ b) 0 1) 0 1))∨((pr (loT (zZ c) (zZ d) 0 1) 0 1)=(pr (hiT (zZ c) (zZ d) 0 1) 0 1)))),(4,vP b4 0),(5,vP b5 0),(6,vP b6 0),(7,vP b7 0)]) (fun _=>[.var b7 53 C,.var b6 53 D,.var b5 53 u,.var b4 53 z]) (fun O=>O) ?_ ?_
 ·
  refine yD ((pr (loT (zZ a) (zZ b) 0 1) 0 1)=(pr (hiT (zZ a) (zZ b) 0 1) 0 1)) (fun M=>?_) (fun M=>?_)
  ·
   refine gT M rfl (go5 ?_);refine zO h6 (MLe.refl _) ⟨?_,rfl,rfl,rfl,rfl,trivial⟩ rfl rfl;exact congrArg some (vZ M)
  refine gF M rfl (go1 ?_);refine lX (xB zU pH H) fun hu ej=>(go1 ?_);refine lX (xB zU pH G) fun ht ei=>(go1 ?_);refine cL (ev2 rfl rfl) call193 (fun w hs=>qR hs ej ei oM) fun cz h7 bd eh=>?_;obtain rfl:cz=vB ((pr (loT (zZ c) (zZ d) 0 1) 0 1)=(pr (hiT (zZ c) (zZ d) 0 1) 0 1)):=eh;refine go2 ?_;refine zO h7 bd ⟨?_,rfl,rfl,rfl,rfl,trivial⟩ rfl rfl;exact congrArg some (uA M)
 intro gc cj;refine tJ ?_;refine gc2 (fun cn=>?_) fun cn=>?_
 ·
  refine go2 ?_;refine lX (xB zU pH J) fun hq eg=>(lX (xB zU pH I) fun hp ef=>(lX (xB zU pH H) fun ho ee=>(lX (xB zU pH G) fun hn ed=>(cL (ev4 rfl rfl rfl rfl) call205 (fun w hs=>zH4 hs eg ef ee ed oM) fun cy h7 bd ec=>?_))));obtain rfl:cy=vI (eG (pr (loT (zZ a) (zZ b) 0 1) 0 1) (pr (hiT (zZ a) (zZ b) 0 1) 0 1) (pr (loT (zZ c) (zZ d) 0 1) 0 1) (pr (hiT (zZ c) (zZ d) 0 1) 0 1)):=ec;refine go5 ?_;refine zD rfl rfl ?_;refine congrArg vI ?_;rw[←dS rfl rfl rfl rfl];unfold iM;grind
 refine go3 ?_;refine zK 20 _ [] [(0,.q),(1,.q),(2,.q),(4,.q),(5,.q),(6,.q),(9,.q),(10,.q),(11,.q),(13,.q),(14,.q),(15,.q),(3,.c),(7,.c),(8,.q),(12,.c),(16,.c),(17,.q),(18,.q),(19,.q)] yC nX (vJ (by kernel_rfl)) nX (fun r hr=>hr) (wX rfl (xB zU pH J) fun hm eb=>(wX rfl (xB zU pH I) fun hl ea=>(wX rfl (xB zU pH H) fun hk dz=>(wX rfl (xB zU pH J) fun hj dx=>(wX rfl (xB zU pH I) fun hf dw=>(wX rfl (xB zU pH G) fun he dv=>(wX rfl (xB zU pH H) fun hd dt=>(wX rfl (xB zU pH G) fun hc dr=>(wX rfl (xB zU pH J) fun hb dq=>(wX rfl (xB zU pH H) fun ha dn=>(wX rfl (xB zU pH G) fun gz dm=>(wX rfl (xB zU pH I) fun gy dl=>?_))))))))))));refine w_c rfl (sC (ev3 rfl rfl rfl) call203 (fun w hs=>fK hs eb ea dz oM) fun cw h7 bd dy=>?_);obtain rfl:cw=vI (orZ (pr (loT (zZ a) (zZ b) 0 1) 0 1) (pr (hiT (zZ a) (zZ b) 0 1) 0 1) (pr (loT (zZ c) (zZ d) 0 1) 0 1)):=dy;have ao:=tR (pr (loT (zZ a) (zZ b) 0 1) 0 1) (pr (hiT (zZ a) (zZ b) 0 1) 0 1) (pr (loT (zZ c) (zZ d) 0 1) 0 1);refine w_c rfl (sC (ev3 rfl rfl rfl) call203 (fun w hs=>fK hs dx.up dw.up dv.up oM) fun cv h8 jh du=>?_);obtain rfl:cv=vI (orZ (pr (loT (zZ a) (zZ b) 0 1) 0 1) (pr (hiT (zZ a) (zZ b) 0 1) 0 1) (pr (hiT (zZ c) (zZ d) 0 1) 0 1)):=du;have an:=tR (pr (loT (zZ a) (zZ b) 0 1) 0 1) (pr (hiT (zZ a) (zZ b) 0 1) 0 1) (pr (hiT (zZ c) (zZ d) 0 1) 0 1);refine xK rfl (fun _ _=>bH rfl rfl (by have:=eR ao an;omega) (by have:=eR ao an;omega)) rfl ?_;refine w_c rfl (sC (ev3 rfl rfl rfl) call203 (fun w hs=>fK hs dt.up dr.up dq.up oM) fun cu h9 jg dp=>?_);obtain rfl:cu=vI (orZ (pr (loT (zZ c) (zZ d) 0 1) 0 1) (pr (hiT (zZ c) (zZ d) 0 1) 0 1) (pr (loT (zZ a) (zZ b) 0 1) 0 1)):=dp;have am:=tR (pr (loT (zZ c) (zZ d) 0 1) 0 1) (pr (hiT (zZ c) (zZ d) 0 1) 0 1) (pr (loT (zZ a) (zZ b) 0 1) 0 1);refine w_c rfl (sC (ev3 rfl rfl rfl) call203 (fun w hs=>fK hs dn.up dm.up dl.up oM) fun ct jm gw dk=>?_);obtain rfl:ct=vI (orZ (pr (loT (zZ c) (zZ d) 0 1) 0 1) (pr (hiT (zZ c) (zZ d) 0 1) 0 1) (pr (hiT (zZ a) (zZ b) 0 1) 0 1)):=dk;have ak:=tR (pr (loT (zZ c) (zZ d) 0 1) 0 1) (pr (hiT (zZ c) (zZ d) 0 1) 0 1) (pr (hiT (zZ a) (zZ b) 0 1) 0 1);refine xK rfl (fun _ _=>bH rfl rfl (by have:=eR am ak;omega) (by have:=eR am ak;omega)) rfl (uQ ?_);refine gU 4 97 (vB (((0:Int)<((orZ (pr (loT (zZ a) (zZ b) 0 1) 0 1) (pr (hiT (zZ a) (zZ b) 0 1) 0 1) (pr (loT (zZ c) (zZ d) 0 1) 0 1))*(orZ (pr (loT (zZ a) (zZ b) 0 1) 0 1) (pr (hiT (zZ a) (zZ b) 0 1) 0 1) (pr (hiT (zZ c) (zZ d) 0 1) 0 1))))∨((0:Int)<((orZ (pr (loT (zZ c) (zZ d) 0 1) 0 1) (pr (hiT (zZ c) (zZ d) 0 1) 0 1) (pr (loT (zZ a) (zZ b) 0 1) 0 1))*(orZ (pr (loT (zZ c) (zZ d) 0 1) 0 1) (pr (hiT (zZ c) (zZ d) 0 1) 0 1) (pr (hiT (zZ a) (zZ b) 0 1) 0 1)))))) ?_ ?_
 ·
  refine yD ((0:Int)<((orZ (pr (loT (zZ a) (zZ b) 0 1) 0 1) (pr (hiT (zZ a) (zZ b) 0 1) 0 1) (pr (loT (zZ c) (zZ d) 0 1) 0 1))*(orZ (pr (loT (zZ a) (zZ b) 0 1) 0 1) (pr (hiT (zZ a) (zZ b) 0 1) 0 1) (pr (hiT (zZ c) (zZ d) 0 1) 0 1)))) (fun M=>?_) (fun M=>?_)
  ·
   refine gT M rfl (go4 ?_);refine gqU ?_;exact congrArg some (vZ M)
  refine gF M rfl (go6 ?_);refine gqU ?_;exact congrArg some (uA M)
 refine gc3 (fun cm=>?_) fun cm=>?_
 ·
  refine go8 ?_;refine zD rfl rfl ?_;refine congrArg vI ?_;rw[←dS rfl rfl rfl rfl];unfold iM;grind
 refine go2 ?_;refine lX (xB zU pH J) fun gx dj=>(lX (xB zU pH H) fun gr ch=>(cL (ev2 rfl rfl) call193 (fun w hs=>qR hs dj ch oM) fun br cp gu cg=>?_));obtain rfl:br=vB ((pr (loT (zZ a) (zZ b) 0 1) 0 1)=(pr (loT (zZ c) (zZ d) 0 1) 0 1)):=cg;refine uL (ι:=Mem) 5 (fun O=>MLe cp O) (fun _=>[(106,vB (((pr (loT (zZ a) (zZ b) 0 1) 0 1)=(pr (loT (zZ c) (zZ d) 0 1) 0 1))∨((pr (loT (zZ a) (zZ b) 0 1) 0 1)=(pr (hiT (zZ c) (zZ d) 0 1) 0 1)))),(5,vP b5 0),(6,vP b6 0),(7,vP b7 0)]) (fun _=>[.var b7 53 C,.var b6 53 D,.var b5 53 u,.var b4 53 z]) (fun O=>O) ?_ ?_
 ·
  refine yD ((pr (loT (zZ a) (zZ b) 0 1) 0 1)=(pr (loT (zZ c) (zZ d) 0 1) 0 1)) (fun M=>?_) (fun M=>?_)
  ·
   refine gT M rfl (go5 ?_);refine zO cp (MLe.refl _) ⟨?_,rfl,rfl,rfl,trivial⟩ rfl rfl;exact congrArg some (vZ M)
  refine gF M rfl (go1 ?_);refine lX (xB zU pH J) fun gq cf=>(go1 ?_);refine lX (xB zU pH G) fun go ce=>(go1 ?_);refine cL (ev2 rfl rfl) call193 (fun w hs=>qR hs cf ce oM) fun bq ap Y cd=>?_;obtain rfl:bq=vB ((pr (loT (zZ a) (zZ b) 0 1) 0 1)=(pr (hiT (zZ c) (zZ d) 0 1) 0 1)):=cd;refine go2 ?_;refine zO ap Y ⟨?_,rfl,rfl,rfl,trivial⟩ rfl rfl;exact congrArg some (uA M)
 intro ah bn;refine tJ ?_;refine uL (ι:=Mem) 5 (fun O=>MLe ah O) (fun _=>[(111,vB ((((pr (loT (zZ a) (zZ b) 0 1) 0 1)=(pr (loT (zZ c) (zZ d) 0 1) 0 1))∨((pr (loT (zZ a) (zZ b) 0 1) 0 1)=(pr (hiT (zZ c) (zZ d) 0 1) 0 1)))∨((pr (hiT (zZ a) (zZ b) 0 1) 0 1)=(pr (loT (zZ c) (zZ d) 0 1) 0 1)))),(5,vP b5 0),(7,vP b7 0)]) (fun _=>[.var b7 53 C,.var b6 53 D,.var b5 53 u,.var b4 53 z]) (fun O=>O) ?_ ?_
 ·
  refine yD (((pr (loT (zZ a) (zZ b) 0 1) 0 1)=(pr (loT (zZ c) (zZ d) 0 1) 0 1))∨((pr (loT (zZ a) (zZ b) 0 1) 0 1)=(pr (hiT (zZ c) (zZ d) 0 1) 0 1))) (fun M=>?_) (fun M=>?_)
  ·
   refine gT M rfl (go5 ?_);refine zO ah (MLe.refl _) ⟨?_,rfl,rfl,trivial⟩ rfl rfl;exact congrArg some (vZ M)
  refine gF M rfl (go1 ?_);refine lX (xB zU pH I) fun gn cc=>(go1 ?_);refine lX (xB zU pH H) fun gm cb=>(go1 ?_);refine cL (ev2 rfl rfl) call193 (fun w hs=>qR hs cc cb oM) fun bp ap Y ca=>?_;obtain rfl:bp=vB ((pr (hiT (zZ a) (zZ b) 0 1) 0 1)=(pr (loT (zZ c) (zZ d) 0 1) 0 1)):=ca;refine go2 ?_;refine zO ap Y ⟨?_,rfl,rfl,trivial⟩ rfl rfl;exact congrArg some (uA M)
 intro ae bm;refine tJ ?_;refine uL (ι:=Mem) 5 (fun O=>MLe ae O) (fun _=>[(116,vB (((((pr (loT (zZ a) (zZ b) 0 1) 0 1)=(pr (loT (zZ c) (zZ d) 0 1) 0 1))∨((pr (loT (zZ a) (zZ b) 0 1) 0 1)=(pr (hiT (zZ c) (zZ d) 0 1) 0 1)))∨((pr (hiT (zZ a) (zZ b) 0 1) 0 1)=(pr (loT (zZ c) (zZ d) 0 1) 0 1)))∨((pr (hiT (zZ a) (zZ b) 0 1) 0 1)=(pr (hiT (zZ c) (zZ d) 0 1) 0 1))))]) (fun _=>[.var b7 53 C,.var b6 53 D,.var b5 53 u,.var b4 53 z]) (fun O=>O) ?_ ?_
 ·
  refine yD ((((pr (loT (zZ a) (zZ b) 0 1) 0 1)=(pr (loT (zZ c) (zZ d) 0 1) 0 1))∨((pr (loT (zZ a) (zZ b) 0 1) 0 1)=(pr (hiT (zZ c) (zZ d) 0 1) 0 1)))∨((pr (hiT (zZ a) (zZ b) 0 1) 0 1)=(pr (loT (zZ c) (zZ d) 0 1) 0 1))) (fun M=>?_) (fun M=>?_)
  ·
   refine gT M rfl (go5 ?_);refine zO ae (MLe.refl _) ⟨?_,trivial⟩ rfl rfl;exact congrArg some (vZ M)
  refine gF M rfl (go1 ?_);refine lX (xB zU pH I) fun gk bz=>(go1 ?_);refine lX (xB zU pH G) fun gj bx=>(go1 ?_);refine cL (ev2 rfl rfl) call193 (fun w hs=>qR hs bz bx oM) fun bo ap Y bw=>?_;obtain rfl:bo=vB ((pr (hiT (zZ a) (zZ b) 0 1) 0 1)=(pr (hiT (zZ c) (zZ d) 0 1) 0 1)):=bw;refine go2 ?_;refine zO ap Y ⟨?_,trivial⟩ rfl rfl;exact congrArg some (uA M)
 intro ci bc;refine tJ ?_;refine gc3 (fun cl=>?_) fun cl=>?_
 ·
  refine go8 ?_;refine zD rfl rfl ?_;refine congrArg vI ?_;rw[←dS rfl rfl rfl rfl];unfold iM;grind
 refine go9 ?_;refine zD rfl rfl ?_;refine congrArg vI ?_;rw[←dS rfl rfl rfl rfl];unfold iM;grind
end Go.Proofs.YtboaboflnckgoaaGreat
namespace Go.Proofs.YtboaboflnckgoaaGreat
open Bk Go Tryz
set_option linter.unusedVariables false
set_option linter.unusedSimpArgs false
set_option maxRecDepth 10000
set_option maxHeartbeats 1000000
attribute [local irreducible] GL GC GQ W OpV
theorem zH8{w0:World}{h0:Mem}(hs:MLe h0 (mem w0)){k:Nat}{vl:Value}{l:(List Tq)}(rl:(tLs k).Is h0 vl l){vp:Value}{p:Tq}(rp:(tPt k).Is h0 vp p)(hcd0:k≤5000)(hcd1:l.length≤1000):
 Calls Tryz.prog 195 #[vl,vp] w0 (Ret w0 h0 (fun _ r=>r=vI (zBK l (pr p 0 1) 0 1))):=by
 refine cb2 66 vl vp func195 hs ?_;refine go2 ?_;refine nB rp fun b3 Y U=>(j3 ?_);refine gcL (ι:=Nat×Mem) (fun(m,ma)=>(MLe h0 ma∧(m≤l.length∧∀q,q<m→¬onS (gL l 0 1 q) (gK l 0 1 q) (pr p 0 1)),[(0,vl),(3,vP b3 0),(5,vB (lT l (pr p 0 1) 0 1 m)),(6,vI ↑m)],[.var b3 53 Y],ma,l.length-m)) (0,h0) ?_ ?_ (he:=⟨rfl,rfl,congrArg some (yV id).symm,rfl,trivial⟩)
 · exact⟨mle,by omega,fun q hq=>by omega⟩
 rintro⟨m,ma⟩ ⟨cg,ao,X⟩
 refine yU ?_;refine gc9 (fun ap=>?_) fun ap=>?_
 ·
  refine go5 ?_;refine zK 16 _ [(12,(7,53,[.bool false,.slice none 0 0,.slice none 0 0,.bool false,.slice none 0 0,.slice none 0 0,.bool false,.slice none 0 0,.slice none 0 0])),(13,(8,53,[.bool false,.slice none 0 0,.slice none 0 0,.bool false,.slice none 0 0,.slice none 0 0,.bool false,.slice none 0 0,.slice none 0 0]))] [(0,.q),(1,.q),(2,.q),(3,.q),(4,.q),(5,.q),(6,.q),(7,.q),(8,.q),(9,.q),(10,.q),(11,.q),(12,.a),(13,.a),(14,.c),(15,.c)] yC (jL.cons rfl rfl (uX yW rfl rfl) (jL.cons rfl rfl (uX yW rfl rfl) jL.nil)) (vJ (by kernel_rfl)) (uZ rfl rfl (uZ rfl rfl kM)) (fun r hr=>hr) (go2 ?_);refine wX rfl (xI zT m underlying46 zU rl) fun de ca=>(wX rfl (xA zU ca) fun dd bz=>(go4 ?_));refine w_q rfl (fun h' L' hh hR=>uW underlying46 rfl (rl.up.mono hh)) rfl (xK rfl (fun _ _=>vW rfl rfl oM oM) rfl (wX rfl (xI zT ((m+1)%l.length) underlying46 zU rl (hi:=by exact Nat.mod_lt _ oM)) fun dc bx=>(wX rfl (xA zU bx) fun db bw=>?_)));refine w_a rfl rfl (fun b7=>?_);have bb:(tPt (k+1)).R ma [.bool false,.slice none 0 0,.slice none 0 0,.bool false,.slice none 0 0,.slice none 0 0,.bool false,.slice none 0 0,.slice none 0 0] zT:=(xY (yH oM));refine w_a rfl rfl (fun b8=>?_);have ba:(tPt (k+1)).R ma [.bool false,.slice none 0 0,.slice none 0 0,.bool false,.slice none 0 0,.slice none 0 0,.bool false,.slice none 0 0,.slice none 0 0] zT:=(xY (yH oM));refine w_c rfl (bD (A:=[_]) (uB sizeOf53 pH bb (bz.le (Le.t (Le.q (l:=k+1) oM)))) (wN (by first|(simp;done)|grind)) fun au G=>?_);refine w_c rfl (bD (A:=[]) (uB sizeOf53 pH ba (bw.le (Le.t (Le.q (l:=k+1) oM)))) (wN (by first|(simp;done)|grind)) fun ar D=>(go4 ?_));refine zK 7 _ [] [(0,.q),(2,.q),(4,.q),(1,.c),(3,.c),(5,.c),(6,.c)] yC nX (by kernel_rfl) nX (fun r hr=>hr) (wX rfl (xB zU pH G) fun da bv=>(wX rfl (xB zU pH D) fun cy bu=>(wX rfl (xB zU pH U) fun cv bt=>?_)));refine w_c rfl (sC (ev1 rfl) call201 (fun w hs=>rW hs bv) fun cz h1 dj ah=>?_);replace ah:=Rp.Is.le ah (Le.t (Le.q (l:=k+2) oM));refine w_c rfl (sC (ev1 rfl) call201 (fun w hs=>rW hs bu.up) fun cw h2 di ae=>?_);replace ae:=Rp.Is.le ae (Le.t (Le.q (l:=k+2) oM));refine w_c rfl (sC (ev1 rfl) call201 (fun w hs=>rW hs bt.up) fun cu h3 dh bs=>?_);refine w_c rfl (sC (ev3 rfl rfl rfl) call206 (fun w hs=>nV hs ah.up ae.up (bs.le (Le.t (Le.q (l:=k+2) oM))) oM) fun az h4 df br=>?_);obtain rfl:az=vB (onS (pr (T3.mk ((l.getD m zT).x) ((l.getD m zT).y) (0:Rat)) 0 1) (pr (T3.mk ((l.getD ((m+1)%l.length) zT).x) ((l.getD ((m+1)%l.length) zT).y) (0:Rat)) 0 1) (pr (zZ p) 0 1)):=br;refine gc2 (fun M=>?_) fun M=>?_
  ·
   refine qO ?_;refine zD rfl rfl ?_;exact congrArg vI (zY6 oM M)
  refine go2 ?_;refine qI (ι:=List Value×List Value×Mem) (fun(C,u,mc)=>MLe h4 mc∧((tPt (k+1)).R mc C (s0 (l.getD m zT) (l.getD ((m+1)%l.length) zT))∧(tPt (k+1)).R mc u (zBF (l.getD m zT) (l.getD ((m+1)%l.length) zT))∧True)) (fun(C,u,mc)=>[(0,vl),(3,vP b3 0),(5,vB (lT l (pr p 0 1) 0 1 m)),(6,vI ↑m),(7,vP b7 0),(8,vP b8 0)]) (fun(C,u,mc)=>[.var b8 53 u,.var b7 53 C,.var b3 53 Y]) (fun(C,u,mc)=>mc) ?_ ?_
  ·
   refine go3 ?_;refine lX (xB yB (Pc.ty pH) G) fun ct bq=>(go1 ?_);refine lX (xB yB (Pc.ty pH) D) fun cq bp=>(cL (ev2 rfl rfl) call18 (fun w hs=>kB hs bq bp oM) fun ay h5 ak bo=>?_);obtain rfl:ay=vI (wH ((l.getD m zT).y) ((l.getD ((m+1)%l.length) zT).y)):=bo;have ce:=jC ((l.getD m zT).y) ((l.getD ((m+1)%l.length) zT).y);refine gc3 (fun I=>?_) fun I=>?_
   ·
    refine go1 ?_;refine lX (xB zU pH D) fun cp bn=>(lX (xB zU pH G) fun co bm=>(zS (A:=[_]) (uB sizeOf53 pH G bn) fun aq ad=>(zS (A:=[]) (uB sizeOf53 pH D bm) fun am ac=>(go1 ?_))));refine zO (aq,am,h5) ?_ e6z rfl rfl;refine⟨ak,?_⟩;refine⟨(Rp.castR ad (if_pos I).symm),(Rp.castR ac (if_pos I).symm),?_⟩
    trivial
   refine go1 ?_;refine zO (au,ar,h5) ?_ e6z rfl rfl;refine⟨ak,?_⟩;refine⟨(Rp.castR G.up (if_neg I).symm),(Rp.castR D.up (if_neg I).symm),?_⟩
   trivial
  rintro⟨C,u,mc⟩ ⟨cf,ab⟩
  refine yU ?_;obtain⟨aa,Z,ab⟩:=ab;refine go3 ?_;refine lX (xB yB (Pc.ty pH) aa) fun cn bl=>(go1 ?_);refine lX (xB yB (Pc.ty pH) U) fun cm bk=>(cL (ev2 rfl rfl) call18 (fun w hs=>kB hs bl bk oM) fun ax h5 ak bj=>?_);obtain rfl:ax=vI (wH ((s0 (l.getD m zT) (l.getD ((m+1)%l.length) zT)).y) p.y):=bj;have cd:=jC ((s0 (l.getD m zT) (l.getD ((m+1)%l.length) zT)).y) p.y;refine go1 ?_;refine uL (ι:=Mem) 8 (fun m_=>MLe h5 m_) (fun _=>[(55,vB (((wH ((s0 (l.getD m zT) (l.getD ((m+1)%l.length) zT)).y) p.y)≤(0:Int))∧((wH p.y ((zBF (l.getD m zT) (l.getD ((m+1)%l.length) zT)).y))<(0:Int)))),(0,vl),(3,vP b3 0),(5,vB (lT l (pr p 0 1) 0 1 m)),(6,vI ↑m),(7,vP b7 0),(8,vP b8 0)]) (fun _=>[.var b8 53 u,.var b7 53 C,.var b3 53 Y]) (fun m_=>m_) ?_ ?_
  ·
   refine yD ((wH ((s0 (l.getD m zT) (l.getD ((m+1)%l.length) zT)).y) p.y)≤(0:Int)) (fun O=>?_) (fun O=>?_)
   ·
    refine gT O rfl (go3 ?_);refine lX (xB yB (Pc.ty pH) U) fun cl bi=>(go3 ?_);refine lX (xB yB (Pc.ty pH) Z) fun ck bh=>(go1 ?_);refine cL (ev2 rfl rfl) call18 (fun w hs=>kB hs bi bh oM) fun aw h6 aj bg=>?_;obtain rfl:aw=vI (wH p.y ((zBF (l.getD m zT) (l.getD ((m+1)%l.length) zT)).y)):=bg;have cc:=jC p.y ((zBF (l.getD m zT) (l.getD ((m+1)%l.length) zT)).y);refine go4 ?_;refine zO h6 aj ⟨?_,rfl,rfl,rfl,rfl,rfl,rfl,trivial⟩ rfl rfl;exact congrArg some (xN O)
   refine gF O rfl (go8 ?_);refine zO h5 (MLe.refl _) ⟨?_,rfl,rfl,rfl,rfl,rfl,rfl,trivial⟩ rfl rfl;exact congrArg some (xO O)
  intro J an;refine tJ ?_;refine uL (ι:=Mem) 7 (fun m_=>MLe J m_) (fun _=>[(62,vB ((((wH ((s0 (l.getD m zT) (l.getD ((m+1)%l.length) zT)).y) p.y)≤(0:Int))∧((wH p.y ((zBF (l.getD m zT) (l.getD ((m+1)%l.length) zT)).y))<(0:Int)))∧((0:Int)<(orZ (pr (s0 (l.getD m zT) (l.getD ((m+1)%l.length) zT)) 0 1) (pr (zBF (l.getD m zT) (l.getD ((m+1)%l.length) zT)) 0 1) (pr p 0 1))))),(0,vl),(3,vP b3 0),(5,vB (lT l (pr p 0 1) 0 1 m)),(6,vI ↑m)]) (fun _=>[.var b8 53 u,.var b7 53 C,.var b3 53 Y]) (fun m_=>m_) ?_ ?_
  ·
   refine yD (((wH ((s0 (l.getD m zT) (l.getD ((m+1)%l.length) zT)).y) p.y)≤(0:Int))∧((wH p.y ((zBF (l.getD m zT) (l.getD ((m+1)%l.length) zT)).y))<(0:Int))) (fun O=>?_) (fun O=>?_)
   ·
    refine gT O rfl (go1 ?_);refine lX (xB zU pH aa) fun cj bf=>(go1 ?_);refine lX (xB zU pH Z) fun ci be=>(go1 ?_);refine lX (xB zU pH U) fun ch bd=>(go1 ?_);refine cL (ev3 rfl rfl rfl) call203 (fun w hs=>fK hs bf be (bd.le (Le.t (Le.q (l:=k+1) oM))) oM) fun av h6 aj bc=>?_;obtain rfl:av=vI (orZ (pr (s0 (l.getD m zT) (l.getD ((m+1)%l.length) zT)) 0 1) (pr (zBF (l.getD m zT) (l.getD ((m+1)%l.length) zT)) 0 1) (pr p 0 1)):=bc;have cb:=tR (pr (s0 (l.getD m zT) (l.getD ((m+1)%l.length) zT)) 0 1) (pr (zBF (l.getD m zT) (l.getD ((m+1)%l.length) zT)) 0 1) (pr p 0 1);refine go4 ?_;refine zO h6 aj ⟨?_,rfl,rfl,rfl,rfl,trivial⟩ rfl rfl;exact congrArg some (xN O)
   refine gF O rfl (go7 ?_);refine zO J (MLe.refl _) ⟨?_,rfl,rfl,rfl,rfl,trivial⟩ rfl rfl;exact congrArg some (xO O)
  intro H ai;refine tJ ?_;refine gc2 (fun T=>?_) fun T=>?_
  ·
   refine qO ?_;refine vT (A:=[]) (vT (A:=[]) ?_);refine gqL ((m+1),H) ?_ ?_ (he:=⟨rfl,rfl,congrArg (fun z=>some (vB z)) (zYJ ((zDM _ _ _).1 T)),rfl,trivial⟩)
   · exact⟨mle,by omega,zMG X M⟩
   omega
  refine go8 ?_;refine vT (A:=[]) (vT (A:=[]) ?_);refine gqL ((m+1),H) ?_ ?_ (he:=⟨rfl,rfl,congrArg (fun z=>some (vB z)) (zUV fun e=>T ((zDM _ _ _).2 e)),rfl,trivial⟩)
  · exact⟨mle,by omega,zMG X M⟩
  omega
 refine zDI (fun S=>?_) fun S=>?_
 ·
  refine go7 ?_;refine zD rfl rfl ?_;exact congrArg vI (zY7 oM ao X S)
 refine go8 ?_;refine zD rfl rfl ?_;exact congrArg vI (zVI oM ao X S)
end Go.Proofs.YtboaboflnckgoaaGreat
namespace Bk
set_option linter.unusedVariables false
open Classical
def zNJ(R:Nat→Nat→Prop)(q b:Nat):Prop:=∀p,p<b→R p q
def zHA(R:Nat→Nat→Prop)(a:Nat):Prop:=∀q,q<a→zNJ R q q
theorem zPN{R:Nat→Nat→Prop}:zHA R 0:=fun q h=>by omega
theorem zTN{R:Nat→Nat→Prop}{q:Nat}:zNJ R q 0:=fun p h=>by omega
theorem zTO{R:Nat→Nat→Prop}{q b:Nat}(h:zNJ R q b)(h1:R b q):zNJ R q (b+1):=fun p h3=>by
 rcases Nat.lt_succ_iff_lt_or_eq.1 h3 with h4|h4
 · exact h p h4
 · subst h4;exact h1
theorem zPO{R:Nat→Nat→Prop}{a b:Nat}(h:zHA R a)(h1:zNJ R a b)(hb:a≤b):zHA R (a+1):=fun q h2=>by
 rcases Nat.lt_succ_iff_lt_or_eq.1 h2 with h5|h5
 · exact h q h5
 · subst h5;exact fun p hp=>h1 p (by omega)
def zS2(l:List Pt)(k i:Nat):Prop:=yBO l 0 1 k i∧okT l 0 1 k i
theorem zT5{l:List Pt}(h3:3≤l.length)(h:zHA (zS2 l) l.length):aP l 0 1:=
 ⟨h3,fun p q h1 h2 h4=>(h q h4 p h2).1,fun p q h1 h2 h4=>(h q h4 p h2).2⟩
theorem zQ9{l:List Pt}{k i:Nat}:nM (gL l 0 1 i) (gK l 0 1 i) (gL l 0 1 k) (gK l 0 1 k)=zEF l.length k i↔okT l 0 1 k i:=by
 unfold okT;rw[←zG9,zB6]
end Bk
namespace Go.Proofs.YtboaboflnckgoaaGreat
open Bk Go Tryz
set_option linter.unusedVariables false
set_option linter.unusedSimpArgs false
set_option maxRecDepth 10000
set_option maxHeartbeats 1000000
attribute [local irreducible] GL GC GQ W OpV
theorem zH5{w0:World}{h0:Mem}(hs:MLe h0 (mem w0)){k:Nat}{vl:Value}{l:(List Tq)}(rl:(tLs k).Is h0 vl l)(hcd0:k≤5000)(hcd1:l.length≤1000):
 Calls Tryz.prog 168 #[vl] w0 (Ret w0 h0 (fun _ r=>r=vB (aP l 0 1))):=by
 refine cb1 69 vl func168 hs ?_;refine yBK ?_;refine cnd (fun S=>?_) fun S=>?_
 ·
  refine go7 ?_;refine zD rfl rfl ?_;exact(yV (fun e=>by have:=e.1;omega)).symm
 refine go9 ?_;refine gcL (ι:=Nat×Mem) (fun(i,H)=>(MLe h0 H∧(i≤l.length∧zHA (zS2 l) i),[(0,vl),(3,vI (↑(l).length:Int)),(4,vI ↑i)],[],H,l.length-i)) (0,h0) ?_ ?_
 · exact⟨mle,by omega,zPN⟩
 rintro⟨i,H⟩ ⟨ar,bi,hi2⟩
 refine yU ?_;refine gc8 (fun O=>?_) fun O=>?_
 ·
  refine uQ ?_;refine gcL (ι:=Nat×Mem) (fun(q,T)=>(MLe H T∧(q≤i∧zNJ (zS2 l) i q),[(0,vl),(3,vI (↑(l).length:Int)),(4,vI ↑i),(5,vI ↑q)],[],T,i-q)) (0,H) ?_ ?_
  · exact⟨mle,by omega,zTN⟩
  rintro⟨q,T⟩ ⟨aq,bh,I⟩
  refine yU ?_;refine gc8 (fun M=>?_) fun M=>?_
  ·
   refine go6 ?_;refine zK 9 _ [] [(0,.q),(1,.q),(2,.q),(3,.q),(4,.q),(5,.q),(6,.q),(7,.q),(8,.c)] yC nX (by kernel_rfl) nX (fun r hr=>hr) (go2 ?_);refine wX rfl (xI zT i underlying46 zU rl) fun bg ao=>(wX rfl (xA zU ao) fun bf an=>(go2 ?_));refine wX rfl (xI zT q underlying46 zU rl) fun be am=>(wX rfl (xA zU am) fun bd ak=>?_);refine w_c rfl (sC (ev2 rfl rfl) call193 (fun w hs=>qR hs an ak oM) fun X h1 bk aj=>?_);obtain rfl:X=vB ((pr (l.getD i zT) 0 1)=(pr (l.getD q zT) 0 1)):=aj;refine gc2 (fun D=>?_) fun D=>?_
   ·
    refine zAQ ?_;refine zD rfl rfl ?_;exact(yV (fun e=>e.2.1 q i oM oM oM D.symm)).symm
   refine go7 ?_;refine qI (ι:=Mem) (fun(G:(Mem))=>MLe h1 G∧(True)) (fun(G:(Mem))=>[(0,vl),(3,vI (↑(l).length:Int)),(4,vI ↑i),(5,vI ↑q),(6,vI (zEF l.length q i))]) (fun(G:(Mem))=>[]) (fun(G:(Mem))=>G) ?_ ?_
   ·
    refine go6 ?_;refine gU 10 43 (vB (((↑i:Int)=((↑q:Int)+(1:Int)))∨(((↑q:Int)=(0:Int))∧((↑i:Int)=((↑(l).length:Int)-(1:Int)))))) ?_ ?_
    ·
     refine yD ((↑i:Int)=((↑q:Int)+(1:Int))) (fun u=>?_) (fun u=>?_)
     ·
      refine gT u rfl (uQ ?_);refine gqU ?_;exact congrArg some (vZ u)
     refine gF u rfl (go4 ?_);refine gU 6 42 (vB (((↑q:Int)=(0:Int))∧((↑i:Int)=((↑(l).length:Int)-(1:Int))))) ?_ ?_
     ·
      refine yD ((↑q:Int)=(0:Int)) (fun u=>?_) (fun u=>?_)
      ·
       refine go1 ?_;refine gT u rfl (qT ?_);refine gqU ?_;exact congrArg some (xN u)
      refine go1 ?_;refine gF u rfl (go7 ?_);refine gqU ?_;exact congrArg some (xO u)
     refine go2 ?_;refine gqU ?_;exact congrArg some (uA u)
    refine gc2 (fun J=>?_) fun J=>?_
    ·
     refine go3 ?_;refine zO (h1) ?_ ⟨rfl,rfl,rfl,rfl,?_,trivial⟩ rfl rfl
     ·
      refine⟨MLe.refl _,?_⟩
      trivial
     · exact congrArg (fun z=>some (vI z)) (zW7 oM)
    refine go1 ?_;refine zO (h1) ?_ ⟨rfl,rfl,rfl,rfl,?_,trivial⟩ rfl rfl
    ·
     refine⟨MLe.refl _,?_⟩
     trivial
    · exact congrArg (fun z=>some (vI z)) (zW8 oM)
   rintro G ⟨ap,au⟩
   refine yU ?_;refine go1 ?_;refine zK 25 _ [] [(0,.q),(1,.q),(2,.q),(3,.q),(4,.q),(5,.q),(6,.q),(7,.q),(8,.q),(9,.q),(10,.q),(11,.q),(12,.q),(13,.q),(14,.q),(15,.q),(16,.q),(17,.q),(18,.q),(19,.q),(20,.q),(21,.q),(23,.q),(22,.c),(24,.q)] yC nX (vJ (by kernel_rfl)) nX (fun r hr=>hr) (go2 ?_);refine wX rfl (xI zT i underlying46 zU rl) fun bc ai=>(wX rfl (xA zU ai) fun bb ah=>(go4 ?_));refine xK rfl (fun _ _=>vW rfl rfl oM oM) rfl (wX rfl (xI zT ((i+1)%l.length) underlying46 zU rl (hi:=by exact Nat.mod_lt _ oM)) fun ba ae=>(wX rfl (xA zU ae) fun az ad=>(go2 ?_)));refine wX rfl (xI zT q underlying46 zU rl) fun ay ac=>(wX rfl (xA zU ac) fun ax ab=>(go4 ?_));refine xK rfl (fun _ _=>vW rfl rfl oM oM) rfl (wX rfl (xI zT ((q+1)%l.length) underlying46 zU rl (hi:=by exact Nat.mod_lt _ oM)) fun aw aa=>(wX rfl (xA zU aa) fun av Z=>(go1 ?_)));refine w_c rfl (sC (ev4 rfl rfl rfl rfl) call194 (fun w hs=>zCS hs ah ad ab Z oM) fun U h2 bj Y=>?_);obtain rfl:U=vI (nM (pr (l.getD i zT) 0 1) (pr (l.getD ((i+1)%l.length) zT) 0 1) (pr (l.getD q zT) 0 1) (pr (l.getD ((q+1)%l.length) zT) 0 1)):=Y;refine gc3 (fun C=>?_) fun C=>?_
   ·
    refine j3 ?_;refine zD rfl rfl ?_;exact(yV (fun e=>C (zQ9.2 (e.2.2 q i oM oM oM)))).symm
   refine go8 ?_;refine gqL ((q+1),h2) ?_ ?_
   · exact⟨mle,by omega,zTO I ⟨fun e=>D e.symm,zQ9.1 (Classical.not_not.1 C)⟩⟩
   omega
  refine qT ?_;refine gqL ((i+1),T) ?_ ?_
  · exact⟨mle,by omega,zPO hi2 I oM⟩
  omega
 have ei:i=l.length:=by omega
 have hT:=hi2;rw[ei] at hT;refine qT ?_;refine zD rfl rfl ?_;exact(xM (zT5 oM hT)).symm
end Go.Proofs.YtboaboflnckgoaaGreat
namespace Go.Proofs.YtboaboflnckgoaaGreat
open Bk Go Tryz
set_option linter.unusedVariables false
set_option linter.unusedSimpArgs false
set_option maxRecDepth 10000
set_option maxHeartbeats 1000000
attribute [local irreducible] GL GC GQ W OpV
theorem zGE{w0:World}{h0:Mem}(hs:MLe h0 (mem w0)){k:Nat}{va:Value}{a:(List Tq)}(ra:(tLs k).Is h0 va a){vb:Value}{b:(List Tq)}(rb:(tLs k).Is h0 vb b)(hcd0:k≤5000)(hcd1:a.length≤1000)(hcd2:b.length≤1000):
 Calls Tryz.prog 169 #[va,vb] w0 (Ret w0 h0 (fun _ r=>r=vB (fH a b 0 1))):=by
 refine cb2 45 va vb func169 hs ?_;refine qO ?_;refine gcL (ι:=Nat×Mem) (fun(p,C)=>(MLe h0 C∧(p≤a.length∧∀u v,u<p→v<b.length→¬g6 a b 0 1 u v),[(0,va),(1,vb),(5,vI ↑p)],[],C,a.length-p)) (0,h0) ?_ ?_
 · exact⟨mle,by omega,fun u v h=>by omega⟩
 rintro⟨p,C⟩ ⟨ad,aq,G⟩
 refine yU ?_;refine gc9 (fun I=>?_) fun I=>?_
 ·
  refine uQ ?_;refine gcL (ι:=Nat×Mem) (fun(q,J)=>(MLe C J∧(q≤b.length∧∀v,v<q→¬g6 a b 0 1 p v),[(0,va),(1,vb),(5,vI ↑p),(6,vI ↑q)],[],J,b.length-q)) (0,C) ?_ ?_
  · exact⟨mle,by omega,fun v h=>by omega⟩
  rintro⟨q,J⟩ ⟨ac,ap,D⟩
  refine yU ?_;refine gc9 (fun H=>?_) fun H=>?_
  ·
   refine go5 ?_;refine zK 26 _ [] [(0,.q),(1,.q),(2,.q),(3,.q),(4,.q),(5,.q),(6,.q),(7,.q),(8,.q),(9,.q),(10,.q),(11,.q),(12,.q),(13,.q),(14,.q),(15,.q),(16,.q),(17,.q),(18,.q),(19,.q),(20,.q),(21,.q),(22,.q),(23,.q),(24,.c),(25,.q)] yC nX (vJ (by kernel_rfl)) nX (fun r hr=>hr) (go2 ?_);refine wX rfl (xI zT p underlying46 zU ra) fun ao ab=>(wX rfl (xA zU ab) fun an aa=>(go4 ?_));refine w_q rfl (fun h' L' hh hR=>uW underlying46 rfl (ra.up.mono hh)) rfl (xK rfl (fun _ _=>vW rfl rfl oM oM) rfl (wX rfl (xI zT ((p+1)%a.length) underlying46 zU ra (hi:=by exact Nat.mod_lt _ oM)) fun am Z=>(wX rfl (xA zU Z) fun ak Y=>(go2 ?_))));refine wX rfl (xI zT q underlying46 zU rb) fun aj X=>(wX rfl (xA zU X) fun ai U=>(go4 ?_));refine w_q rfl (fun h' L' hh hR=>uW underlying46 rfl (rb.up.mono hh)) rfl (xK rfl (fun _ _=>vW rfl rfl oM oM) rfl (wX rfl (xI zT ((q+1)%b.length) underlying46 zU rb (hi:=by exact Nat.mod_lt _ oM)) fun ah T=>(wX rfl (xA zU T) fun ae S=>?_)));refine w_c rfl (sC (ev4 rfl rfl rfl rfl) call194 (fun w hs=>zCS hs aa Y U S oM) fun M h1 ar O=>?_);obtain rfl:M=vI (nM (pr (a.getD p zT) 0 1) (pr (a.getD ((p+1)%a.length) zT) 0 1) (pr (b.getD q zT) 0 1) (pr (b.getD ((q+1)%b.length) zT) 0 1)):=O;refine gc3 (fun z=>?_) fun z=>?_
   ·
    refine j3 ?_;refine zD rfl rfl ?_;exact(xM ⟨p,q,by omega,by omega,(zSO.1 z)⟩).symm
   refine go8 ?_;refine gqL ((q+1),h1) ?_ ?_
   · exact⟨mle,by omega,zQF (n:=0) (Q:=g6 a b 0 1) D (fun e=>z (zSO.2 e))⟩
   omega
  refine qT ?_;refine gqL ((p+1),J) ?_ ?_
  · exact⟨mle,by omega,zN1 G D oM⟩
  omega
 refine qT ?_;refine zD rfl rfl ?_;exact(yV (fun⟨u,v,h1,h2,h3⟩=>G u v oM h2 h3)).symm
theorem zH7{w0:World}{h0:Mem}(hs:MLe h0 (mem w0)){k:Nat}{vp:Value}{p:Tq}(rp:(tPt k).Is h0 vp p){vq:Value}{q:Tq}(rq:(tPt k).Is h0 vq q)(hcd0:k≤100000):
 Calls Tryz.prog 196 #[vp,vq] w0 (Ret w0 h0 (fun h r=>(tPt (2*k+2)).Is h r (T3.mk (iZ p.x q.x) (iZ p.y q.y) (0:Rat)))):=by
 refine cb2 16 vp vq func196 hs ?_;refine go2 ?_;refine nB rp fun b2 aj H=>(nB rq fun b3 ai G=>(nA (ρ:=(tPt (2*k+2))) (X:=zT) yW (xY (yH oM)) fun b4 ah I=>(go3 ?_)));refine zK 11 _ [] [(0,.q),(1,.q),(2,.q),(3,.q),(5,.q),(6,.q),(7,.q),(8,.q),(4,.c),(9,.c),(10,.q),(11,.t)] yC nX (vJ (by kernel_rfl)) nX (fun r hr=>hr) (go1 ?_);refine wX rfl (xB yB (Pc.tx pH) H) fun v6 r6=>(go1 ?_);refine wX rfl (xB yB (Pc.tx pH) G) fun v8 r8=>(go1 ?_);refine wX rfl (xB yB (Pc.ty pH) H) fun ac T=>(go1 ?_);refine wX rfl (xB yB (Pc.ty pH) G) fun ab O=>?_;refine w_c rfl (sC (ev2 rfl rfl) call38 (fun w hs=>iV hs r6 r8 oM) fun v9 h1 ae J=>?_);replace J:=Rp.Is.le J (Le.q (l:=2*k+2) oM);refine w_c rfl (sC (ev2 rfl rfl) call38 (fun w hs=>iV hs T.up O.up oM) fun aa h2 ad u=>?_);replace u:=Rp.Is.le u (Le.q (l:=2*k+2) oM);refine wX rfl (xV (ρ:=(tPt (2*k+2))) (xD (ps':=[(0,_),(1,_)]) underlying53 yW rfl rfl sizeOf26 e4z rfl (xY (yH oM)) (zI rfl (Pc.tx (Pc.here _)) J.up (zI rfl (Pc.ty (Pc.here _)) u zY)))) fun Z M=>(yK (A:=[]) rfl (uB sizeOf53 pH I M) fun U D=>(go3 ?_));refine wM (kA (t:=4) zU mh0 rfl D) ?_;intro Y z C;refine yG (fun E S=>zQ rfl z E S) ?_;exact C
theorem zA9{w0:World}{h0:Mem}(hs:MLe h0 (mem w0)){k:Nat}{va:Value}{a:(List Tq)}(ra:(tLs k).Is h0 va a){vb:Value}{b:(List Tq)}(rb:(tLs k).Is h0 vb b)(hcd0:k≤2000)(hcd1:a.length≤1000)(hcd2:b.length≤1000):
 Calls Tryz.prog 172 #[va,vb] w0 (Ret w0 h0 (fun _ r=>r=vI (wiZ a b 0 1))):=by
 refine cb2 32 va vb func172 hs ?_;refine dE ?_;refine gcL (ι:=Nat×Mem) (fun(m,T)=>(MLe h0 T∧(m≤b.length),[(0,va),(1,vb),(5,vI (pY a b 0 1 m)),(6,vI ↑m)],[],T,b.length-m)) (0,h0) ?_ ?_
 · exact⟨mle,oM⟩
 rintro⟨m,T⟩ ⟨U,C⟩
 refine yU ?_;have ae:=C;have ad:=nL a b 0 1 m;refine gc9 (fun D=>?_) fun D=>?_
 ·
  refine go5 ?_;refine zK 16 _ [] [(0,.q),(1,.q),(2,.q),(3,.q),(4,.q),(5,.q),(6,.q),(7,.q),(8,.q),(9,.q),(10,.q),(11,.q),(12,.q),(13,.c),(14,.c),(15,.q)] yC nX (vJ (by kernel_rfl)) nX (fun r hr=>hr) (go3 ?_);refine wX rfl (xI zT m underlying46 zU rb) fun ac S=>(wX rfl (xA zU S) fun ab O=>(go4 ?_));refine w_q rfl (fun h' L' hh hR=>uW underlying46 rfl (rb.up.mono hh)) rfl (xK rfl (fun _ _=>vW rfl rfl oM oM) rfl (wX rfl (xI zT ((m+1)%b.length) underlying46 zU rb (hi:=by exact Nat.mod_lt _ oM)) fun aa M=>(wX rfl (xA zU M) fun Z J=>?_)));refine w_c rfl (sC (ev2 rfl rfl) call196 (fun w hs=>zH7 hs O J oM) fun Y h1 ai I=>?_);refine w_c rfl (sC (ev2 rfl rfl) call195 (fun w hs=>zH8 hs (ra.up.le (Le.s (Le.t (Le.q (l:=2*k+2) oM)))) I oM oM) fun G X ah H=>?_);obtain rfl:G=vI (zBK a (pr (T3.mk (iZ (b.getD m zT).x (b.getD ((m+1)%b.length) zT).x) (iZ (b.getD m zT).y (b.getD ((m+1)%b.length) zT).y) (0:Rat)) 0 1) 0 1):=H;refine gc3 (fun u=>?_) fun u=>?_
  ·
   refine qO ?_;refine gqL ((m+1),X) ?_ ?_ (he:=⟨rfl,rfl,congrArg (fun z=>some (vI z)) (zW4 (zWH _ _) u),rfl,trivial⟩)
   · exact⟨mle,oM⟩
   omega
  refine go8 ?_;refine gqL ((m+1),X) ?_ ?_ (he:=⟨rfl,rfl,congrArg (fun z=>some (vI z)) (zW5 (zWH _ _) u),rfl,trivial⟩)
  · exact⟨mle,oM⟩
  omega
 refine qO ?_;refine zD rfl rfl ?_;have em:m=b.length:=by omega
 subst em
 rfl
theorem zH6{w0:World}{h0:Mem}(hs:MLe h0 (mem w0)){k:Nat}{vL:Value}{L:(List (List Tq))}(rL:(tLL k).Is h0 vL L){f:Nat}(hcd0:f<L.length)(hcd1:L.length≤16)(hcd2:k≤2000)(hcd3:∀u,u<L.length→¬64<(gl L u).length):
 Calls Tryz.prog 171 #[vL,vI ↑f] w0 (Ret w0 h0 (fun _ r=>r=vI (sY L 0 1 f L.length))):=by
 have J:=hcd3;refine cb2 55 vL (vI ↑f) func171 hs ?_;refine dE ?_;refine gcL (ι:=Nat×Mem) (fun(g,ma)=>(MLe h0 ma∧(g≤L.length),[(0,vL),(1,vI ↑f),(5,vI (sY L 0 1 f g)),(6,vI ↑g)],[],ma,L.length-g)) (0,h0) ?_ ?_
 · exact⟨mle,oM⟩
 rintro⟨g,ma⟩ ⟨av,bs⟩
 refine yU ?_;have bl:=zAC L 0 1 f g;refine gc9 (fun I=>?_) fun I=>?_
 ·
  refine go6 ?_;refine zK 24 _ [] [(0,.q),(1,.q),(2,.q),(3,.q),(4,.c),(5,.c),(6,.q),(7,.q),(8,.q),(9,.q),(10,.q),(11,.q),(12,.q),(13,.q),(14,.q),(15,.q),(17,.q),(18,.q),(19,.q),(20,.q),(21,.q),(16,.c),(22,.q),(23,.q)] yC nX (vJ (by kernel_rfl)) nX (fun r hr=>hr) (go2 ?_);refine wX rfl (xI [] g underlying115 uR rL) fun bk ap=>(wX rfl (xA uR ap) fun bj ao=>?_);refine w_c rfl (sC (ev1 rfl) call170 (fun w hs=>sV hs ao oM (by first|omega|exact Nat.le_trans (Nat.not_lt.1 (J _ oM)) dC|exact Nat.le_trans (hF _ oM) dC)) fun bi h1 br an=>?_);refine w_c rfl (sC (ev1 rfl) call17 (fun w hs=>qM hs an dC) fun S h2 bq am=>?_);obtain rfl:S=vI (xJ (uS (L.getD g []) 0 1 (L.getD g []).length)):=am;have ar:=wI (uS (L.getD g []) 0 1 (L.getD g []).length);refine go2 ?_;refine gR ((xJ (uS (L.getD g []) 0 1 (L.getD g []).length))≤(0:Int)) (fun G=>?_) (fun G=>?_)
  ·
   rw[xM G];refine sL ?_;refine w_c rfl (y7 rfl rfl rfl rfl (tV ?_));refine gqL ((g+1),h2) ?_ ?_ (he:=⟨rfl,rfl,congrArg (fun z=>some (vI z)) ((if_neg (fun e=>absurd e.1.1 (Int.not_lt.2 (by assumption)))).symm),rfl,trivial⟩)
   · exact⟨mle,oM⟩
   omega
  rw[yV G];refine yO rfl rfl rfl (fun h' L' hh hR=>yX rfl) rfl (yO rfl rfl rfl (fun h' L' hh hR=>yX rfl) rfl (oX rfl (xI [] g underlying115 uR rL) fun bh ak=>(oX rfl (xA uR ak) fun bg aj=>(yO rfl rfl rfl (fun h' L' hh hR=>yX rfl) rfl (yO rfl rfl rfl (fun h' L' hh hR=>yX rfl) rfl (oX rfl (xI [] f underlying115 uR rL) fun bf ai=>(oX rfl (xA uR ai) fun be ah=>(yO rfl rfl rfl (fun h' L' hh hR=>yX rfl) rfl (yO rfl rfl rfl (fun h' L' hh hR=>yX rfl) rfl (oX rfl (xI [] f underlying115 uR rL) fun bd ad=>(oX rfl (xA uR ad) fun bc ac=>(yO rfl rfl rfl (fun h' L' hh hR=>uW underlying46 rfl (ac.mono hh)) rfl ?_))))))))))));refine w_c rfl (rK rfl rfl (sC (ev2 rfl rfl) call172 (fun w hs=>zA9 hs aj ah oM (by first|omega|exact Nat.le_trans (Nat.not_lt.1 (J _ oM)) dC|exact Nat.le_trans (hF _ oM) dC) (by first|omega|exact Nat.le_trans (Nat.not_lt.1 (J _ oM)) dC|exact Nat.le_trans (hF _ oM) dC)) fun O h3 bp ae=>?_));obtain rfl:O=vI (wiZ (L.getD g []) (L.getD f []) 0 1):=ae;have aq:=nL (L.getD g []) (L.getD f []) 0 1 (L.getD f []).length;refine gc4 (fun C=>?_) fun C=>?_
  ·
   refine go9 ?_;refine gqL ((g+1),h3) ?_ ?_ (he:=⟨rfl,rfl,congrArg (fun z=>some (vI z)) ((if_neg (fun e=>C e.1.2)).symm),rfl,trivial⟩)
   · exact⟨mle,oM⟩
   omega
  refine go3 ?_;refine zK 16 _ [] [(0,.q),(1,.q),(2,.q),(3,.q),(4,.q),(5,.q),(6,.q),(8,.q),(9,.q),(10,.q),(11,.q),(7,.c),(12,.c),(13,.c),(14,.q),(15,.q)] yC nX (vJ (by kernel_rfl)) nX (fun r hr=>hr) (go3 ?_);refine gR ((sY L 0 1 f g)<(0:Int)) (fun D=>?_) (fun D=>?_)
  ·
   rw[xM D];refine go8 ?_;refine w_c rfl (y7 rfl rfl rfl rfl ?_);refine w_c rfl (y7 rfl rfl rfl rfl ?_);refine w_c rfl (y7 rfl rfl rfl rfl (zAQ ?_));refine gqL ((g+1),h3) ?_ ?_ (he:=⟨rfl,rfl,congrArg (fun z=>some (vI z)) ((if_pos ⟨⟨Int.not_le.1 (by assumption),Classical.not_not.1 C⟩,.inl (by assumption)⟩).symm),rfl,trivial⟩)
   · exact⟨mle,oM⟩
   omega
  rw[yV D];refine yO rfl rfl rfl (fun h' L' hh hR=>yX rfl) rfl (yO rfl rfl rfl (fun h' L' hh hR=>yX rfl) rfl (oX rfl (xI [] g underlying115 uR rL) fun bb ab=>(oX rfl (xA uR ab) fun ba aa=>(yO rfl rfl rfl (fun h' L' hh hR=>yX rfl) rfl (yO rfl rfl rfl (fun h' L' hh hR=>yX rfl) rfl (oX rfl (xI [] ((sY L 0 1 f g).toNat) underlying115 uR rL) fun ay Y=>(oX rfl (xA uR Y) fun ax X=>?_)))))));refine w_c rfl (rK rfl rfl (sC (ev1 rfl) call170 (fun w hs=>sV hs aa oM (by first|omega|exact Nat.le_trans (Nat.not_lt.1 (J _ oM)) dC|exact Nat.le_trans (hF _ oM) dC)) fun az h4 bo Z=>?_));refine w_c rfl (rK rfl rfl (sC (ev1 rfl) call170 (fun w hs=>sV hs X.up oM (by first|omega|exact Nat.le_trans (Nat.not_lt.1 (J _ oM)) dC|exact Nat.le_trans (hF _ oM) dC)) fun aw h5 bn U=>?_));refine w_c rfl (rK rfl rfl (sC (ev2 rfl rfl) call18 (fun w hs=>kB hs Z.up U dC) fun M h6 bm T=>?_));obtain rfl:M=vI (wH (uS (L.getD g []) 0 1 (L.getD g []).length) (uS (L.getD ((sY L 0 1 f g).toNat) []) 0 1 (L.getD ((sY L 0 1 f g).toNat) []).length)):=T;have au:=jC (uS (L.getD g []) 0 1 (L.getD g []).length) (uS (L.getD ((sY L 0 1 f g).toNat) []) 0 1 (L.getD ((sY L 0 1 f g).toNat) []).length);refine gc4 (fun H=>?_) fun H=>?_
  ·
   refine qT ?_;refine gqL ((g+1),h6) ?_ ?_ (he:=⟨rfl,rfl,congrArg (fun z=>some (vI z)) ((if_pos ⟨⟨Int.not_le.1 (by assumption),Classical.not_not.1 C⟩,.inr H⟩).symm),rfl,trivial⟩)
   · exact⟨mle,oM⟩
   omega
  refine go8 ?_;refine gqL ((g+1),h6) ?_ ?_ (he:=⟨rfl,rfl,congrArg (fun z=>some (vI z)) ((if_neg (fun e=>e.2.elim (fun h=>absurd h (by assumption)) H)).symm),rfl,trivial⟩)
  · exact⟨mle,oM⟩
  omega
 refine qO ?_;refine zD rfl rfl ?_;have eg:g=L.length:=by omega
 rw[eg]
end Go.Proofs.YtboaboflnckgoaaGreat
namespace Go.Proofs.YtboaboflnckgoaaGreat
open Bk Go Tryz
set_option linter.unusedVariables false
set_option linter.unusedSimpArgs false
set_option maxRecDepth 10000
set_option maxHeartbeats 1000000
attribute [local irreducible] GL GC GQ W OpV
set_option maxHeartbeats 2000000 in
theorem zEX{w0:World}{h0:Mem}(hs:MLe h0 (mem w0)){k:Nat}{vL:Value}{L:(List (List Tq))}(rL:(tLL k).Is h0 vL L)(hcd0:k≤2000)(hcd1:∀x,x∈L→nF x):
 Calls Tryz.prog 123 #[vL] w0 (Ret w0 h0 (fun h r=>∃u0,r=.tuple #[u0,vI (vQ L 0 1)]∧(rpS rpI).Is h u0 (fX L 0 1))):=by
 have hF:=hcd1;refine cb1 133 vL func123 hs ?_;refine tV ?_;refine cnd (fun bq=>?_) fun bq=>?_
 ·
  refine go8 ?_;refine vS rfl rfl rfl ?_;refine⟨_,?_,(Rp.Is.cast (mB _) (by exact(show vQ L 0 1=2∧fX L 0 1=[] from zGH (.inl oM)).2.symm))⟩;rw[(show vQ L 0 1=2∧fX L 0 1=[] from zGH (.inl oM)).1]
 refine go9 ?_;refine gcL (ι:=Nat×Mem) (fun(q,ma)=>(MLe h0 ma∧(q≤L.length∧∀u,u<q→¬64<(gl L u).length),[(0,vL),(4,vI ↑q)],[],ma,L.length-q)) (0,h0) ?_ ?_
 · exact⟨mle,by omega,fun u h=>by omega⟩
 rintro⟨q,ma⟩ ⟨dx,ev,bb⟩
 refine yU ?_;refine gc9 (fun bp=>?_) fun bp=>?_
 ·
  refine go8 ?_;refine lX (xI [] q underlying115 uR rL) fun eo ct=>(lX (xA uR ct) fun en ep=>(gc4 (fun bo=>?_) fun bo=>?_))
  ·
   refine qO ?_;refine vS rfl rfl rfl ?_;refine⟨_,?_,(Rp.Is.cast (mB _) (by exact(show vQ L 0 1=2∧fX L 0 1=[] from zGH (.inr ⟨q,by omega,(by show 64<(L.getD q []).length;omega)⟩)).2.symm))⟩;rw[(show vQ L 0 1=2∧fX L 0 1=[] from zGH (.inr ⟨q,by omega,(by show 64<(L.getD q []).length;omega)⟩)).1]
  refine go8 ?_;refine gqL ((q+1),ma) ?_ ?_
  · exact⟨mle,by omega,qL (Q:=fun u=>¬64<(gl L u).length) bb (by show ¬64<(L.getD q []).length;omega)⟩
  omega
 have C:∀u,u<L.length→¬64<(gl L u).length:=fun u hu=>bb u oM;refine qO ?_;refine gcL (ι:=Nat×Mem) (fun(s,ms)=>(MLe ma ms∧(s≤L.length∧∀u,u<s→aP (gl L u) 0 1),[(0,vL),(5,vI ↑s)],[],ms,L.length-s)) (0,ma) ?_ ?_
 · exact⟨mle,by omega,fun u h=>by omega⟩
 rintro⟨s,ms⟩ ⟨dr,eu,ba⟩
 refine yU ?_;refine gc9 (fun bn=>?_) fun bn=>?_
 ·
  refine go8 ?_;refine lX (xI [] s underlying115 uR rL) fun em cq=>(lX (xA uR cq) fun el cp=>(cL (ev1 rfl) call168 (fun w hs=>zH5 hs cp oM (by first|omega|assumption|exact Nat.le_trans (Nat.not_lt.1 (C _ oM)) dC)) fun bz h1 I co=>?_));obtain rfl:bz=vB (aP (L.getD s []) 0 1):=co;refine gc3 (fun S=>?_) fun S=>?_
  ·
   refine qO ?_;refine vS rfl rfl rfl ?_;refine⟨_,?_,(Rp.Is.cast (mB _) (by exact(show vQ L 0 1=8∧fX L 0 1=[] from zRL oM C ⟨s,by omega,S⟩).2.symm))⟩;rw[(show vQ L 0 1=8∧fX L 0 1=[] from zRL oM C ⟨s,by omega,S⟩).1]
  refine go8 ?_;refine gqL ((s+1),h1) ?_ ?_
  · exact⟨mle,by omega,qL (Q:=fun u=>aP (gl L u) 0 1) ba (Classical.not_not.1 S)⟩
  omega
 have hS:∀u,u<L.length→aP (gl L u) 0 1:=fun u hu=>ba u oM;refine qO ?_;refine gcL (ι:=Nat×Mem) (fun(c,mc)=>(MLe ms mc∧(c≤L.length∧∀u v,v<c→u<v→¬fH (gl L u) (gl L v) 0 1),[(0,vL),(6,vI ↑c)],[],mc,L.length-c)) (0,ms) ?_ ?_
 · exact⟨mle,by omega,fun u v h=>by omega⟩
 rintro⟨c,mc⟩ ⟨dw,dy,ad⟩
 refine yU ?_;refine gc9 (fun bm=>?_) fun bm=>?_
 ·
  refine uQ ?_;refine gcL (ι:=Nat×Mem) (fun(d,md)=>(MLe mc md∧(d≤c∧∀u,u<d→¬fH (gl L u) (gl L c) 0 1),[(0,vL),(6,vI ↑c),(7,vI ↑d)],[],md,c-d)) (0,mc) ?_ ?_
  · exact⟨mle,by omega,fun u h=>by omega⟩
  rintro⟨d,md⟩ ⟨dv,ez,bg⟩
  refine yU ?_;refine gc8 (fun bl=>?_) fun bl=>?_
  ·
   refine go5 ?_;refine zK 9 _ [] [(0,.q),(1,.q),(2,.q),(3,.q),(4,.q),(5,.q),(6,.q),(7,.q),(8,.c)] yC nX (by kernel_rfl) nX (fun r hr=>hr) (go2 ?_);refine wX rfl (xI [] c underlying115 uR rL) fun ek cn=>(wX rfl (xA uR cn) fun ej cm=>(go2 ?_));refine wX rfl (xI [] d underlying115 uR rL) fun ei cl=>(wX rfl (xA uR cl) fun eh ck=>?_);refine w_c rfl (sC (ev2 rfl rfl) call169 (fun w hs=>zGE hs cm ck oM (by first|omega|assumption|exact Nat.le_trans (Nat.not_lt.1 (C _ oM)) dC) (by first|omega|assumption|exact Nat.le_trans (Nat.not_lt.1 (C _ oM)) dC)) fun bx h1 I cj=>?_);obtain rfl:bx=vB (fH (L.getD c []) (L.getD d []) 0 1):=cj;refine gc2 (fun O=>?_) fun O=>?_
   ·
    refine zAQ ?_;refine vS rfl rfl rfl ?_;refine⟨_,?_,(Rp.Is.cast (mB _) (by exact(show vQ L 0 1=32∧fX L 0 1=[] from zMK oM C hS ⟨d,c,by omega,by omega,mH O⟩).2.symm))⟩;rw[(show vQ L 0 1=32∧fX L 0 1=[] from zMK oM C hS ⟨d,c,by omega,by omega,mH O⟩).1]
   refine go8 ?_;refine gqL ((d+1),h1) ?_ ?_
   · exact⟨mle,by omega,qL (Q:=fun u=>¬fH (gl L u) (gl L c) 0 1) bg (fun e=>O (mH e))⟩
   omega
  refine qT ?_;refine gqL ((c+1),md) ?_ ?_
  · exact⟨mle,by omega,zPL ad bg oM⟩
  omega
 have hX:∀a b,b<L.length→a<b→¬fH (gl L a) (gl L b) 0 1:=fun a b hb ha=>ad a b oM ha;refine dE ?_;refine xR 3 1 ?_;have an:=RL.nil (ρ:=rpI) (h:=mc);refine gcL (ι:=Nat×List Int×Value×List Value×Mem) (fun(f,G,z,D,mf)=>(MLe mc mf∧(RL rpI mf D G∧(f≤L.length∧G.length=f)∧∀u,u<f→G.getD u (0:Int)=pZ L 0 1 u),[(0,vL),(8,z),(9,vI ↑f)],[.gs 3 1 z G.length D],mf,L.length-f)) (0,([]:List Int),(.slice none 0 0),[],mc) ?_ ?_
 · exact⟨mle,an,⟨by omega,rfl⟩,fun u h=>by omega⟩
 rintro⟨f,G,z,D,mf⟩ ⟨du,H,⟨ey,bf⟩,ai⟩
 refine yU ?_;refine gc9 (fun bk=>?_) fun bk=>?_
 ·
  refine go9 ?_;refine qI (ι:=Int×Mem) (fun(p,mp)=>MLe mf mp∧((-1≤p∧p<9223372036854775808)∧p=pZ L 0 1 f)) (fun(p,mp)=>[(0,vL),(8,z),(9,vI ↑f),(10,vI p)]) (fun(p,mp)=>[.gs 3 1 z G.length D]) (fun(p,mp)=>mp) ?_ ?_
  ·
   refine go4 ?_;refine lX (xI [] f underlying115 uR rL) fun eg ci=>(lX (xA uR ci) fun ef ch=>(cL (ev1 rfl) call170 (fun w hs=>sV hs ch oM (by first|omega|assumption|exact Nat.le_trans (Nat.not_lt.1 (C _ oM)) dC)) fun ee h1 I cg=>(cL (ev1 rfl) call17 (fun w hs=>qM hs cg dC) fun bw h2 ah cf=>?_)));obtain rfl:bw=vI (xJ (uS (L.getD f []) 0 1 (L.getD f []).length)):=cf;have db:=wI (uS (L.getD f []) 0 1 (L.getD f []).length);refine gc3 (fun Z=>?_) fun Z=>?_
   ·
    refine go3 ?_;refine cL (ev2 rfl rfl) call171 (fun w hs=>zH6 (f:=f) hs rL.up (by first|omega|assumption|exact Nat.le_trans (Nat.not_lt.1 (C _ oM)) dC) (by first|omega|assumption|exact Nat.le_trans (Nat.not_lt.1 (C _ oM)) dC) oM (by first|omega|assumption|exact Nat.le_trans (Nat.not_lt.1 (C _ oM)) dC)) fun bv h3 be ce=>?_;obtain rfl:bv=vI (sY L 0 1 f L.length):=ce;have dc:=zAC L 0 1 f L.length;refine go2 ?_;refine zO ((sY L 0 1 f L.length),h3) ?_ e4z rfl rfl;refine⟨((I.trans ah).trans be),?_⟩;exact⟨⟨by omega,by omega⟩,zYF Z⟩
   refine go1 ?_;refine zO ((-1:Int),h2) ?_ e4z rfl rfl;refine⟨(I.trans ah),?_⟩;exact⟨⟨by omega,by omega⟩,zYE hF (hS f oM) Z⟩
  rintro⟨p,mp⟩ ⟨dt,bh⟩
  refine yU ?_;obtain⟨ew,bc⟩:=bh;refine go3 ?_;refine zF (zW (ρ:=rpI) (m:=1) (xs:=[p]) (ps':=[(0,_)]) underlying32 gJ rfl rfl rfl wG e2z (zI rfl (Pc.arr (Pc.here _) (0:Int) 0 dC) (qD oM oM) zY) (show 1*1≤16777216 from by decide) nP) rfl rfl rfl ?_
  rintro ed er ⟨dz,rfl,ap⟩
  refine yJ (A:=[]) (ρ:=rpI) ap ?_;intro h1 I am;refine xT (A:=[]) (yF (ρ:=rpI) (bytes:=8) underlying32 gJ rfl rfl rfl rfl nP rfl rfl H.up am bO bO) rfl rfl rfl ?_
  rintro bu eq ⟨br,rfl,ao⟩
  refine go9 ?_;refine gqL ((f+1),(G++[p]),bu,br,h1) ?_ ?_
  · exact⟨mle,ao,⟨by omega,(zFF bf ai bc).1⟩,(zFF bf ai bc).2⟩
  omega
 have T:∀u,u<L.length→G.getD u (0:Int)=pZ L 0 1 u:=fun u hu=>ai u oM;have bd:G.length=L.length:=by omega
 refine qO ?_;refine gcL (ι:=Nat×Mem) (fun(v,ae)=>(MLe mf ae∧(v≤L.length∧∀a,a<v→¬mO L 0 1 a∧∀b,b<L.length→¬s7 L 0 1 a b),[(0,vL),(8,z),(11,vI ↑v)],[.gs 3 1 z G.length D],ae,L.length-v)) (0,mf) ?_ ?_
 · exact⟨mle,by omega,fun a h=>by omega⟩
 rintro⟨v,ae⟩ ⟨dd,et,ab⟩
 refine yU ?_;refine gc9 (fun bj=>?_) fun bj=>?_
 ·
  refine go9 ?_;refine lX (xI [] v underlying115 uR rL) fun ec cd=>(lX (xA uR cd) fun eb cc=>(cL (ev1 rfl) call170 (fun w hs=>sV hs cc oM (by first|omega|assumption|exact Nat.le_trans (Nat.not_lt.1 (C _ oM)) dC)) fun ea h1 I cb=>(cL (ev1 rfl) call17 (fun w hs=>qM hs cb dC) fun bt h2 ah ca=>?_)));obtain rfl:bt=vI (xJ (uS (L.getD v []) 0 1 (L.getD v []).length)):=ca;have da:=wI (uS (L.getD v []) 0 1 (L.getD v []).length);refine gc3 (fun M=>?_) fun M=>?_
  ·
   refine go9 ?_;refine gqL ((v+1),h2) ?_ ?_
   · exact⟨mle,by omega,qL (Q:=fun a=>¬mO L 0 1 a∧∀b,b<L.length→¬s7 L 0 1 a b) ab (zYK (zZG hF (hS v oM) M))⟩
   omega
  refine go8 ?_;refine gcL (ι:=Nat×Mem) (fun(w,mw)=>(MLe h2 mw∧((w≤L.length∧(0<w→¬mO L 0 1 v))∧∀b,b<w→¬s7 L 0 1 v b),[(0,vL),(8,z),(11,vI ↑v),(12,vI ↑w)],[.gs 3 1 z G.length D],mw,L.length-w)) (0,h2) ?_ ?_
  · exact⟨mle,⟨by omega,fun h=>by omega⟩,fun b h=>by omega⟩
  rintro⟨w,mw⟩ ⟨dq,⟨es,cu⟩,aa⟩
  refine yU ?_;refine gc9 (fun bi=>?_) fun bi=>?_
  ·
   refine go5 ?_;refine zK 33 _ [] [(0,.q),(1,.q),(2,.q),(3,.q),(4,.q),(5,.q),(6,.q),(7,.q),(8,.q),(9,.q),(10,.q),(11,.q),(12,.q),(13,.q),(14,.q),(15,.q),(16,.q),(17,.q),(18,.q),(19,.q),(20,.q),(21,.q),(22,.q),(23,.q),(24,.q),(25,.q),(26,.q),(27,.q),(28,.q),(29,.c),(30,.q),(31,.q),(32,.q)] yC nX (vJ (by kernel_rfl)) nX (fun r hr=>hr) (go2 ?_);refine w_q rfl (fun h' L' hh hR=>(yZ v (hR _ mh0) underlying32 sizeOf3 rfl rfl rfl bO nP).cv (show _=zL 1 z ((v*1+0)) from congrArg (zL 1 z) (by rfl))) rfl (mX (F:=fun v_=>rpI.Is mw v_ (G.getD v (0:Int))) rfl (wW ty3 (Pc.arr (Pc.here _) (0:Int) v bO) rfl nP rfl H.up rfl) (tT mh0) rfl ?_);intro dp az;obtain⟨rfl,dh,cz⟩:=jX az;refine go2 ?_;refine gR ((G.getD v (0:Int))<(0:Int)) (fun Y=>?_) (fun Y=>?_)
   ·
    rw[xM Y];refine go23 ?_;refine w_c rfl (zX2 rfl rfl rfl (go22 ?_));refine vS rfl rfl rfl ?_;refine⟨_,?_,(Rp.Is.cast (mB _) (by exact(show vQ L 0 1=33∧fX L 0 1=[] from zBV oM C hS hX (.inl ⟨v,by omega,zMV M (T v oM) (by assumption)⟩)).2.symm))⟩;rw[(show vQ L 0 1=33∧fX L 0 1=[] from zBV oM C hS hX (.inl ⟨v,by omega,zMV M (T v oM) (by assumption)⟩)).1]
   rw[yV Y];refine yO rfl rfl rfl (fun h' L' hh hR=>yX rfl) rfl (yO rfl rfl rfl (fun h' L' hh hR=>yX rfl) rfl (go1 ?_));refine yO rfl rfl rfl (fun h' L' hh hR=>yX rfl) rfl ?_;refine gR ((↑w:Int)≠(↑v:Int)) (fun X=>?_) (fun X=>?_)
   ·
    rw[xM X];refine yO rfl rfl rfl (fun h' L' hh hR=>yX rfl) rfl (yO rfl rfl rfl (fun h' L' hh hR=>yX rfl) rfl (yO rfl rfl rfl (fun h' L' hh hR=>(yZ w (hR _ mh0) underlying32 sizeOf3 rfl rfl rfl bO nP).cv (show _=zL 1 z ((w*1+0)) from congrArg (zL 1 z) (by rfl))) rfl (aB (F:=fun v_=>rpI.Is mw v_ (G.getD w (0:Int))) rfl rfl rfl (wW ty3 (Pc.arr (Pc.here _) (0:Int) w bO) rfl nP rfl H.up rfl) (tT mh0) rfl ?_)));intro dn ay;obtain⟨rfl,df,cy⟩:=jX ay;refine yO rfl rfl rfl (fun h' L' hh hR=>yX rfl) rfl (yO rfl rfl rfl (fun h' L' hh hR=>yX rfl) rfl (yO rfl rfl rfl (fun h' L' hh hR=>(yZ v (hR _ mh0) underlying32 sizeOf3 rfl rfl rfl bO nP).cv (show _=zL 1 z ((v*1+0)) from congrArg (zL 1 z) (by rfl))) rfl (aB (F:=fun v_=>rpI.Is mw v_ (G.getD v (0:Int))) rfl rfl rfl (wW ty3 (Pc.arr (Pc.here _) (0:Int) v bO) rfl nP rfl H.up rfl) (tT mh0) rfl ?_)));intro dm ax;obtain⟨rfl,de,cw⟩:=jX ax;refine go2 ?_;refine yO rfl rfl rfl (fun h' L' hh hR=>yX rfl) rfl ?_;refine gR ((G.getD w (0:Int))=(G.getD v (0:Int))) (fun U=>?_) (fun U=>?_)
    ·
     rw[xM U];refine yO rfl rfl rfl (fun h' L' hh hR=>yX rfl) rfl (yO rfl rfl rfl (fun h' L' hh hR=>yX rfl) rfl (oX rfl (xI [] w underlying115 uR rL) fun dl aw=>(oX rfl (xA uR aw) fun dk av=>(yO rfl rfl rfl (fun h' L' hh hR=>yX rfl) rfl (yO rfl rfl rfl (fun h' L' hh hR=>yX rfl) rfl (oX rfl (xI [] v underlying115 uR rL) fun dj au=>(oX rfl (xA uR au) fun di ar=>?_)))))));refine w_c rfl (rK rfl rfl (sC (ev2 rfl rfl) call172 (fun w hs=>zA9 hs av ar oM (by first|omega|assumption|exact Nat.le_trans (Nat.not_lt.1 (C _ oM)) dC) (by first|omega|assumption|exact Nat.le_trans (Nat.not_lt.1 (C _ oM)) dC)) fun aj h3 be aq=>?_));obtain rfl:aj=vI (wiZ (L.getD w []) (L.getD v []) 0 1):=aq;have bs:=nL (L.getD w []) (L.getD v []) 0 1 (L.getD v []).length;refine gc5 (fun J=>?_) fun J=>?_
     ·
      have ac:s7 L 0 1 v w:=⟨⟨⟨by omega,by have:=u5 (T v oM) (by assumption);rw[←T v oM];omega⟩,by rw[←T w oM,←T v oM];assumption⟩,J⟩;refine zAQ ?_;refine vS rfl rfl rfl ?_;refine⟨_,?_,(Rp.Is.cast (mB _) (by exact(show vQ L 0 1=33∧fX L 0 1=[] from zBV oM C hS hX (.inr ⟨v,w,by omega,by omega,ac⟩)).2.symm))⟩;rw[(show vQ L 0 1=33∧fX L 0 1=[] from zBV oM C hS hX (.inr ⟨v,w,by omega,by omega,ac⟩)).1]
     refine go8 ?_;refine gqL ((w+1),h3) ?_ ?_
     · exact⟨mle,⟨by omega,fun _=>u5 (T v oM) (by assumption)⟩,qL (Q:=fun b=>¬s7 L 0 1 v b) aa (fun e=>J e.2)⟩
     omega
    rw[yV U];refine go8 ?_;refine w_c rfl (y7 rfl rfl rfl rfl (tV ?_));refine gqL ((w+1),mw) ?_ ?_
    · exact⟨mle,⟨by omega,fun _=>u5 (T v oM) (by assumption)⟩,qL (Q:=fun b=>¬s7 L 0 1 v b) aa (fun e=>absurd e.1.2 (by rw[←T w oM,←T v oM];assumption))⟩
    omega
   rw[yV X];refine uQ ?_;refine yO rfl rfl rfl (fun h' L' hh hR=>yX rfl) rfl (go8 ?_);refine w_c rfl (y7 rfl rfl rfl rfl (tV ?_));refine gqL ((w+1),mw) ?_ ?_
   · exact⟨mle,⟨by omega,fun _=>u5 (T v oM) (by assumption)⟩,qL (Q:=fun b=>¬s7 L 0 1 v b) aa (fun e=>absurd e.1.1.1 oM)⟩
   omega
  refine qT ?_;refine gqL ((v+1),mw) ?_ ?_
  · exact⟨mle,by omega,qL (Q:=fun a=>¬mO L 0 1 a∧∀b,b<L.length→¬s7 L 0 1 a b) ab ⟨cu oM,fun b hb=>aa b oM⟩⟩
  omega
 have hB:∀a b,a<L.length→b<L.length→¬s7 L 0 1 a b:=fun a b ha hb=>(ab a oM).2 b hb;have hL:∀a,a<L.length→¬mO L 0 1 a:=fun a ha=>(ab a oM).1;refine sL ?_;refine wY (A:=[]) (ρ:=rpI) H.up ?_;intro h1 I ak;refine vS rfl rfl rfl ?_;refine⟨_,?_,(Rp.Is.cast ak (by exact(show vQ L 0 1=0∧fX L 0 1=G from zRM oM C hS hX hL hB bd T).2.symm))⟩;rw[(show vQ L 0 1=0∧fX L 0 1=G from zRM oM C hS hX hL hB bd T).1]
end Go.Proofs.YtboaboflnckgoaaGreat
namespace Go.Proofs.YtboaboflnckgoaaGreat
open Bk Go Tryz
set_option linter.unusedVariables false
set_option linter.unusedSimpArgs false
set_option maxRecDepth 10000
set_option maxHeartbeats 1000000
attribute [local irreducible] GL GC GQ W OpV
theorem zCT{w0:World}{h0:Mem}(hs:MLe h0 (mem w0)){k m n j:Nat}{vs:Value}{s:Sq}(rs:(tSd k m n j).Is h0 vs s){f:Nat}{vix:Value}{ix:(List Int)}(rix:(rpS rpI).Is h0 vix ix)(hcd0:k≤1000)(hcd1:m≤100000)(hcd2:n≤100000)(hcd3:okS s)(hcd4:f<s.2.1.length)(hcd5:nmP s f)(hcd6:ix.length=s.1.length):
 Calls Tryz.prog 128 #[vs,vI ↑f,vix] w0 (Ret w0 h0 (fun h r=>(tFc (4*m+11) (m+n+11)).Is h r (nfF s ix f))):=by
 have hv:=hcd3.1.1.1;have hu:=hcd3.1.1.2;have eo:=zGW s f;have ib:=zZJ hcd4 hcd5;have cf:=hcd3.2.1 f hcd4;have er:=nG (s:=s) (f:=↑f) hcd3.2.1;refine cb3 121 vs (vI ↑f) vix func128 hs ?_;refine go2 ?_;refine nB rs fun b3 ao ae=>(nA (ρ:=(tFc 1 1)) (X:=((zT,(0:Rat)),([],([]:List Nat)))) jB (yL (yL (xY (yH dC)) (yH dC)) (yL qJ kO)) fun b6 an cy=>(go4 ?_));refine lX (xB kF pH ae) fun hk ek=>(go1 ?_);refine cL (ev2 rfl rfl) call176 (fun w hs=>zIA (f:=f) hs ek oM oM oM (by first|omega|exact hcd3.big) (by first|omega|exact hcd3.big) (by first|omega|exact hcd3.big) (by first|omega|exact hcd3.big)) fun aj h1 ia ej=>(go4 ?_);refine zK 15 _ [(14,(8,83,[.bool false,.slice none 0 0,.slice none 0 0,.bool false,.slice none 0 0,.slice none 0 0,.bool false,.slice none 0 0,.slice none 0 0,.bool false,.slice none 0 0,.slice none 0 0,.slice none 0 0,.string ⟨#[]⟩]))] [(0,.q),(1,.q),(2,.q),(3,.q),(4,.q),(5,.q),(7,.q),(8,.q),(9,.q),(10,.q),(11,.q),(12,.q),(6,.c),(13,.q),(14,.a),(15,.t)] yC (jL.cons rfl rfl (uX jB rfl rfl) jL.nil) (vJ (by kernel_rfl)) (uZ rfl rfl kM) (fun r hr=>hr) (go1 ?_);refine wX rfl (xB tM (Pc.snd (Pc.fst pH)) ae) fun hj eh=>(go1 ?_);refine wX rfl (xI zA f underlying47 fR eh) fun hf eg=>(wX rfl (xF underlying83 sizeOf80 (Pc.fst pH) eg) fun hd ef=>(wX rfl (xA zG6 ef) fun hc ee=>(go1 ?_)));refine wX rfl (xB tM (Pc.snd (Pc.fst pH)) ae) fun ha ec=>(go1 ?_);refine wX rfl (xI zA f underlying47 fR ec) fun gz eb=>(wX rfl (xF underlying83 sizeOf9 (Pc.snd (Pc.snd pH)) eb) fun gy ea=>(wX rfl (xA ty9 ea) fun gx dz=>?_));obtain⟨rfl,cl⟩:=kH dz;refine w_c rfl (sC (ev1 rfl) call64 (fun w hs=>zOF hs ee oM oM) fun hb h2 hz ed=>(wX rfl (xV (ρ:=(rpP (tPl (4*m+10) (m+n+10)) (rpP rpV fD))) (wD (ps':=[(0,_),(2,_)]) underlying83 jB rfl rfl (lF underlying83) e4z rfl (yL (yL (xY (yH oM)) (yH oM)) (yL cI kO)) (zI rfl (Pc.fst (Pc.here _)) ed (zI rfl (Pc.snd (Pc.snd (Pc.here _))) (bP cl) zY)))) fun gw dy=>?_));refine w_a rfl rfl (fun b8=>?_);have cw:(rpP (tPl 1 1) (rpP rpV fD)).R h2 [.bool false,.slice none 0 0,.slice none 0 0,.bool false,.slice none 0 0,.slice none 0 0,.bool false,.slice none 0 0,.slice none 0 0,.bool false,.slice none 0 0,.slice none 0 0,.slice none 0 0,.string ⟨#[]⟩] ((zT,(0:Rat)),((Value.slice none 0 0),([]:List Nat))):=(yL (yL (xY (yH dC)) (yH dC)) (yL cI kO));have bt:=(Le.p (Le.p (Le.t (Le.q (l:=4*m+10) oM)) (Le.q (l:=m+n+10) oM)) (Le.refl _)).R cw;refine yK (A:=[]) rfl (uB sizeOf83 pH bt dy) fun cm cb=>(tV ?_);refine xR 32 1 ?_;have bv:=RL.nil (ρ:=rpS rpI) (h:=h2);refine xR 32 1 ?_;have bu:=RL.nil (ρ:=rpS rpI) (h:=h2);refine gcL (ι:=Nat×List (List Int)×List (List Int)×List Value×Value×List Value×Value×List Value×Mem) (fun(i,D,G,M,u,I,C,H,ma)=>(MLe h2 ma∧((rpP (tPl (4*m+11) (m+n+11)) (rpP rpV fD)).R ma M (scZ (s.2.1.getD f zA).1,(C,(s.2.1.getD f zA).2.2))∧RL (rpS rpI) ma I D∧RL (rpS rpI) ma H G∧C.oneCell'=true∧i≤(s.2.1.getD f zA).2.1.length∧D=zBL s ix f i∧G=ouL s ix f i),[(1,vI ↑f),(2,vix),(3,vP b3 0),(6,vP b6 0),(7,aj),(8,vP b8 0),(9,u),(10,vI ↑i)],[.gs 32 1 C G.length H,.gs 32 1 u D.length I,.var b8 83 M,.var b6 83 an,.var b3 50 ao],ma,(s.2.1.getD f zA).2.1.length-i)) (0,[],[],cm,(.slice none 0 0),[],(.slice none 0 0),[],h2) ?_ ?_
 · exact⟨mle,((Le.p (Le.p (Le.t (Le.q (l:=4*m+11) oM)) (Le.q (l:=m+n+11) oM)) (Le.refl _)).R cb),bv,bu,rfl,by omega,rfl,rfl⟩
 rintro⟨i,D,G,M,u,I,C,H,ma⟩ ⟨fo,U,T,Z,bl,hw,hD,hG⟩
 refine yU ?_;have ie:D.length≤i:=by rw[hD];exact zLO s ix f i
 have ic:G.length≤i:=by rw[hG];exact sW _ _ i
 refine gc9 (fun ck=>?_) fun ck=>?_
 ·
  refine zAQ ?_;refine xR 3 1 ?_;have bc:=RL.nil (ρ:=rpI) (h:=ma);refine gcL (ι:=Nat×List Int×Value×List Value×Mem) (fun(q,EL,O,ab,mb)=>(MLe ma mb∧(RL rpI mb ab EL∧q≤((s.2.1.getD f zA).2.1.getD i []).length∧EL=nwL s ix f i q),[(1,vI ↑f),(2,vix),(3,vP b3 0),(6,vP b6 0),(7,aj),(8,vP b8 0),(9,u),(10,vI ↑i),(11,O),(12,vI ↑q)],[.gs 3 1 O EL.length ab,.gs 32 1 C G.length H,.gs 32 1 u D.length I,.var b8 83 M,.var b6 83 an,.var b3 50 ao],mb,((s.2.1.getD f zA).2.1.getD i []).length-q)) (0,[],(.slice none 0 0),[],ma) ?_ ?_
  · exact⟨mle,bc,by omega,rfl⟩
  rintro⟨q,EL,O,ab,mb⟩ ⟨fm,ad,hq,hE⟩
  refine yU ?_;have id:EL.length=q:=by rw[hE];exact wK _ _
  have ce:=cf.2 i oM;refine go5 ?_;refine lX (xB tM (Pc.snd (Pc.fst pH)) ae) fun gu dx=>(go1 ?_);refine lX (xI zA f underlying47 fR dx) fun gt dw=>(lX (xF underlying83 sizeOf81 (Pc.snd (Pc.fst pH)) dw) fun gr dv=>(lX (xA cJ dv) fun gq du=>(go1 ?_)));refine lX (xI [] i underlying81 fO du) fun go dt=>(lX (xA fO dt) fun gn hl=>(gc4 (fun cj=>?_) fun cj=>?_))
  ·
   refine go8 ?_;refine lX (xB tM (Pc.snd (Pc.fst pH)) ae) fun gm dr=>(go1 ?_);refine lX (xI zA f underlying47 fR dr) fun gk dq=>(lX (xF underlying83 sizeOf81 (Pc.snd (Pc.fst pH)) dq) fun gj dp=>(lX (xA cJ dp) fun gh dn=>(go1 ?_)));refine lX (xI [] i underlying81 fO dn) fun gg dm=>(lX (xA fO dm) fun gf dl=>(go1 ?_));refine lX (xI (0:Int) q underlying32 ty3 dl) fun ge dk=>(lX (xA ty3 dk) fun gc dj=>?_);obtain⟨rfl,fq,fj⟩:=jX dj;refine zEB (F:=fun v_=>AtP rpI mb v_ (ix.getD ((((s.2.1.getD f zA).2.1.getD i []).getD q 0).toNat) (0:Int))) (lH (0:Int) ((((s.2.1.getD f zA).2.1.getD i []).getD q 0).toNat) underlying32 ty3 rfl rfl rix.up (by(have:=hcd5 i oM q oM;omega)) (by(have:=hcd5 i oM q oM;omega)) nP) zBI rfl ?_;intro gb di;refine lX (xA ty3 di) fun ga dh=>?_;obtain⟨rfl,fp,fi⟩:=jX dh;refine zF (zW (ρ:=rpI) (m:=1) (xs:=[(ix.getD ((((s.2.1.getD f zA).2.1.getD i []).getD q 0).toNat) (0:Int))]) (ps':=[(0,_)]) underlying32 gJ rfl rfl rfl wG e2z (zI rfl (Pc.arr (Pc.here _) (0:Int) 0 dC) (qD oM oM) zY) (show 1*1≤16777216 from by decide) nP) rfl rfl rfl ?_
   rintro fz hp ⟨fs,rfl,ca⟩
   refine yJ (A:=[]) (ρ:=rpI) ca ?_;intro h3 ci ay;refine xT (A:=[]) (jN (yF (ρ:=rpI) (bytes:=8) underlying32 gJ rfl rfl rfl rfl nP rfl rfl ad.up ay bO bO)) rfl rfl rfl ?_
   rintro cu ho ⟨fk,co,rfl,bz⟩
   refine go9 ?_;refine gqL ((q+1),(EL++[(ix.getD ((((s.2.1.getD f zA).2.1.getD i []).getD q 0).toNat) (0:Int))]),cu,co,h3) ?_ ?_
   · exact⟨mle,bz,by omega,by rw[hE];rfl⟩
   omega
  have eq:q=((s.2.1.getD f zA).2.1.getD i []).length:=by omega
  have ce:=cf.2 i oM;refine go8 ?_;refine yJ (A:=[]) (ρ:=rpI) ad.up ?_;intro h3 ci ax;refine cL (ev1 rfl) call177 (fun w hs=>zKU hs ax oM) fun bs h4 ch ah=>?_;replace ah:=Rp.Is.cast (y:=(nfL s ix f i)) ah (by rw[hE,eq];rfl);refine go8 ?_;refine lX (xI [] i underlying115 uR ej) fun fy df=>(lX (xA uR df) fun fx de=>(cL (ev1 rfl) call170 (fun w hs=>sV hs de oM (by first|omega|(have:=er.2 i;rw[←eo.2 i] at this;omega))) fun fw h5 hy dd=>(cL (ev1 rfl) call17 (fun w hs=>qM hs dd dC) fun ct h6 hx dc=>?_)));obtain rfl:ct=vI (xJ (uS ((rG s f).getD i []) 0 1 ((rG s f).getD i []).length)):=dc;have el:=wI (uS ((rG s f).getD i []) 0 1 ((rG s f).getD i []).length);refine gc3 (fun Y=>?_) fun Y=>?_
  ·
   refine go3 ?_;refine lX (aQ (xB cJ (Pc.snd (Pc.fst pH)) U)) fun fv db=>?_;subst db;refine go1 ?_;refine zF (zW (ρ:=(rpS rpI)) (m:=1) (xs:=[(nfL s ix f i)]) (ps':=[(0,_)]) underlying81 jU rfl rfl rfl qJ e2z (zI rfl (Pc.arr (Pc.here _) [] 0 dC) ah.up zY) (show 1*1≤16777216 from by decide) nP) rfl rfl rfl ?_
   rintro fu hn ⟨fr,rfl,bx⟩
   refine yJ (A:=[]) (ρ:=(rpS rpI)) bx ?_;intro h7 bn aw;refine xT (A:=[]) (jN (yF (ρ:=(rpS rpI)) (bytes:=24) underlying81 jU rfl rfl rfl rfl nP rfl rfl Z.up aw bO bO)) rfl rfl rfl ?_
   rintro cq hm ⟨ap,cn,rfl,bw⟩
   refine go1 ?_;refine zS (A:=[_,_]) (uB sizeOf81 (Pc.snd (Pc.fst pH)) U (zDD ap)) fun bq bi=>(qT ?_);refine gqL ((i+1),D,(G++[(nfL s ix f i)]),bq,u,I,cq,cn,h7) ?_ ?_
   · exact⟨mle,bi,T.up,bw,ap,by omega,by rw[hD];exact(if_pos Y).symm,by rw[hG];exact y0 (p:=zHU s f) Y⟩
   omega
  refine go5 ?_;refine gv (gA mh1 underlying81 rfl) rfl (go5 ?_);refine gcL (ι:=Nat×Mem) (fun(J,mk)=>(MLe h6 mk∧(J≤D.length∧cV (zVK (nfL s ix f i) D) D.length=cV (zVK (nfL s ix f i) D) J),[(1,vI ↑f),(2,vix),(3,vP b3 0),(6,vP b6 0),(7,aj),(8,vP b8 0),(9,u),(10,vI ↑i),(11,bs),(13,vI ↑J)],[.gs 32 1 C G.length H,.gs 32 1 u D.length I,.var b8 83 M,.var b6 83 an,.var b3 50 ao],mk,J)) (D.length,h6) ?_ ?_
  · exact⟨mle,by omega,rfl⟩
  rintro⟨J,mk⟩ ⟨fl,ht,cg⟩
  refine yU ?_;refine go5 ?_;refine uL (ι:=Mem) 10 (fun m_=>MLe mk m_) (fun _=>[(97,vB (((0:Int)<(↑J:Int))∧((pX (nfL s ix f i) (D.getD (J-1) []))<(0:Int)))),(1,vI ↑f),(2,vix),(3,vP b3 0),(6,vP b6 0),(7,aj),(8,vP b8 0),(9,u),(10,vI ↑i),(11,bs),(13,vI ↑J)]) (fun _=>[.gs 32 1 C G.length H,.gs 32 1 u D.length I,.var b8 83 M,.var b6 83 an,.var b3 50 ao]) (fun m_=>m_) ?_ ?_
  ·
   refine yD ((0:Int)<(↑J:Int)) (fun hg=>?_) (fun hg=>?_)
   ·
    refine gT hg rfl (go9 ?_);refine gv ((yZ (J-1) mh1 underlying81 sizeOf32 rfl rfl oM oM nP).cv (show _=zL 1 u (((J-1)*1+0)) from congrArg (zL 1 u) (by rfl))) rfl (go1 ?_);refine zEB (F:=fun v_=>(rpS rpI).Is mk v_ (D.getD (J-1) [])) (wW fO (Pc.arr (Pc.here _) [] (J-1) oM) rfl nP rfl T.up rfl) (tT mh1) rfl ?_;intro ft da;refine go1 ?_;refine cL (ev2 rfl rfl) call178 (fun w hs=>zBB hs ah.up da) fun cp h7 bn cz=>?_;obtain rfl:cp=vI (pX (nfL s ix f i) (D.getD (J-1) [])):=cz;have ep:=dH (nfL s ix f i) (D.getD (J-1) []);refine go4 ?_;refine zO h7 bn ⟨?_,rfl,rfl,rfl,rfl,rfl,rfl,rfl,rfl,rfl,rfl,trivial⟩ rfl rfl;exact congrArg some (xN hg)
   refine gF hg rfl (uQ ?_);refine zO mk (MLe.refl _) ⟨?_,rfl,rfl,rfl,rfl,rfl,rfl,rfl,rfl,rfl,rfl,trivial⟩ rfl rfl;exact congrArg some (xO hg)
  intro ak br;refine tJ ?_;refine gc2 (fun ai=>?_) fun ai=>?_
  ·
   refine go9 ?_;refine gqL ((J-1),ak) ?_ ?_ (he:=⟨rfl,rfl,rfl,rfl,rfl,rfl,rfl,rfl,rfl,congrArg (fun z=>some (vI z)) oM,trivial⟩)
   · exact⟨mle,by omega,by rw[cg];exact zLU oM ai.2⟩
   omega
  refine go8 ?_;refine zF (zW (ρ:=(rpS rpI)) (m:=1) (xs:=[[]]) (ps':=[(0,_)]) underlying81 jU rfl rfl rfl qJ e2z (zI rfl (Pc.arr (Pc.here _) [] 0 dC) (mB _) zY) (show 1*1≤16777216 from by decide) nP) rfl rfl rfl ?_
  rintro fd fh ⟨ew,rfl,bf⟩
  refine yJ (A:=[]) (ρ:=(rpS rpI)) bf ?_;intro h7 bn av;refine xT (A:=[_]) (jN (yF (ρ:=(rpS rpI)) (bytes:=24) underlying81 jU rfl rfl rfl rfl nP rfl rfl T.up av bO bO)) rfl rfl rfl ?_
  rintro ac fg ⟨em,ev,rfl,be⟩
  refine go4 ?_;refine bR (A:=[_]) (by rw[lAz];exact Nat.succ_pos _) (fun ob ig bj bk=>?_);refine jJ (A:=[_]) 8 [] [(0,.q),(1,.q),(2,.q),(3,.q),(4,.q),(5,.q),(6,.q),(7,.c)] yC nX (by kernel_rfl) nX (go3 ?_);refine xK rfl (fun _ _=>qF (J+1) underlying81 sizeOf32 rfl rfl ⟨_,_,bj,bk⟩ oM (by simp only[lAz,lC,lN];omega)) rfl (go2 ?_);refine xK rfl (fun _ _=>qF J underlying81 sizeOf32 rfl rfl ⟨_,_,bj,bk⟩ oM (by simp only[lAz,lC,lN];omega)) rfl ?_;refine w_c rfl (sR (A:=[_]) (fun X=>aZ (ρ:=(rpS rpI)) J bj bk underlying81 sizeOf32 rfl rfl (by simp only[lAz,lC,lN];omega) be) rfl (wN (by first|(simp;done)|grind)) ?_)
  rintro fc ff ⟨et,rfl,bb⟩
  refine go6 ?_;refine gv ((yZ J mh1 underlying81 sizeOf32 rfl rfl oM (by rw[kZ (by simp only[lAz,lC,lN];omega)];simp only[lAz,lC,lN];omega) nP).cv (show _=zL 1 ac ((J*1+0)) from congrArg (zL 1 ac) (by rfl))) rfl (gD (A:=[_]) (F:=fun c_=>RL (rpS rpI) h7 c_ ((fT (D++[[]]) J).set J (nfL s ix f i))) (rQ sizeOf32 (Pc.arr (Pc.here _) [] J (by rw[kZ (by simp only[lAz,lC,lN];omega)];simp only[lAz,lC,lN];omega)) rfl nP rfl rfl bb ah.up rfl) ?_);intro bp ba;refine go8 ?_;refine gqL ((i+1),((fT (D++[[]]) J).set J (nfL s ix f i)),G,M,ac,bp,C,H,h7) ?_ ?_
  · exact⟨mle,U.up,ba,Z.up,bl,by omega,by rw[aW oM];have en:cV (zVK (nfL s ix f i) D) D.length=J:=by{rw[cg];exact zDP (fun e=>ai ⟨by omega,e.2⟩)};rw[←en,hD];exact(if_neg Y).symm,by rw[hG];exact y5 (p:=zHU s f) Y⟩
  omega
 have ei:i=(s.2.1.getD f zA).2.1.length:=by omega
 refine go8 ?_;refine lX (aQ (xB cJ (Pc.snd (Pc.fst pH)) U)) fun fb cd=>?_;subst cd;refine go1 ?_;refine yJ (A:=[_]) (ρ:=(rpS rpI)) T.up ?_;intro h3 ci au;refine xT (A:=[]) (jN (yF (ρ:=(rpS rpI)) (bytes:=24) underlying81 jU rfl rfl rfl rfl nP rfl rfl Z.up au bO bO)) rfl rfl rfl ?_
 rintro fa fe ⟨bm,eu,rfl,bd⟩
 refine go1 ?_;refine zS (A:=[_]) (uB sizeOf81 (Pc.snd (Pc.fst pH)) U (zDD bm)) fun bo aa=>(go4 ?_);refine yJ (A:=[]) (ρ:=(rpS rpI)) bd ?_;intro h4 ch ar;replace aa:=aa.mono ch;have bh:(tFc (4*m+11) (m+n+11)).R h4 bo ((scZ (s.2.1.getD f zA).1,(C,(s.2.1.getD f zA).2.2)).1,((G++D),((scZ (s.2.1.getD f zA).1,(C,(s.2.1.getD f zA).2.2)).2).2)):=zJK aa ar;refine lX (xB fR pH bh) fun ez cc=>?_;have aq:=(Le.p (Le.p (Le.t (Le.q (l:=4*m+11) oM)) (Le.q (l:=m+n+11) oM)) (Le.refl _)).R cy;refine zS (A:=[_]) (uB sizeOf83 pH aq cc) fun es bg=>(go3 ?_);refine wM (kA (t:=6) fR mh1 rfl bg) ?_;intro ey am az;refine yG (fun E S=>zQ rfl am E S) ?_;exact(Rp.Is.cast az (by rw[hD,hG,ei];rfl))
end Go.Proofs.YtboaboflnckgoaaGreat
namespace Go.Proofs.YtboaboflnckgoaaGreat
open Bk Go Tryz
set_option linter.unusedVariables false
set_option linter.unusedSimpArgs false
set_option maxRecDepth 10000
set_option maxHeartbeats 1000000
attribute [local irreducible] GL GC GQ W OpV
theorem zOE{w0:World}{h0:Mem}(hs:MLe h0 (mem w0)){k m n j:Nat}{vs:Value}{s:Sq}(rs:(tSd k m n j).Is h0 vs s)(hcd0:s.2.1.length≤100000):
 Calls Tryz.prog 154 #[vs] w0 (Ret w0 h0 (fun h r=>(rpS tE5).Is h r (szZ s))):=by
 refine cb1 52 vs func154 hs ?_;refine go2 ?_;refine nB rs fun b1 ak H=>(j3 ?_);refine xR 200 5 ?_;have Z:=RL.nil (ρ:=rpP rpI (rpP rpI (rpP rpI (rpP rpI rpI)))) (h:=h0);refine gcL (ι:=Nat×List (Int×Int×Int×Int×Int)×Value×List Value×Mem) (fun(f,D,z,C,mf)=>(MLe h0 mf∧(RL tE5 mf C D∧f≤s.2.1.length∧D=zXJ s f),[(1,vP b1 0),(3,z),(4,vI ↑f)],[.gs 200 5 z D.length C,.var b1 50 ak],mf,s.2.1.length-f)) (0,[],(.slice none 0 0),[],h0) ?_ ?_
 · exact⟨mle,Z,by omega,rfl⟩
 rintro⟨f,D,z,C,mf⟩ ⟨bc,G,cb,hD⟩
 refine yU ?_;have cc:D.length≤f:=by rw[hD];exact sW _ _ f
 refine go5 ?_;refine lX (xB tM (Pc.snd (Pc.fst pH)) H) fun v7 r7=>(gc4 (fun bb=>?_) fun bb=>?_)
 ·
  refine go7 ?_;refine lX (xB tM (Pc.snd (Pc.fst pH)) H) fun bs az=>(go1 ?_);refine lX (xI zA f underlying47 fR az) fun br ay=>(lX (xF underlying83 sizeOf81 (Pc.snd (Pc.fst pH)) ay) fun bq ax=>(lX (xA cJ ax) fun bp aw=>(cL (ev1 rfl) call186 (fun w hs=>oQ hs aw) fun ao h1 ah av=>?_)));obtain rfl:ao=vB (vfP (((s.2.1.getD f zA).2).1)):=av;refine go1 ?_;refine uL (ι:=Mem) 6 (fun m_=>MLe h1 m_) (fun _=>[(25,vB ((¬(vfP (((s.2.1.getD f zA).2).1)))∨(¬(nmP s (↑f:Int).toNat)))),(1,vP b1 0),(3,z),(4,vI ↑f)]) (fun _=>[.gs 200 5 z D.length C,.var b1 50 ak]) (fun m_=>m_) ?_ ?_
  ·
   refine yD (¬(vfP (((s.2.1.getD f zA).2).1))) (fun u=>?_) (fun u=>?_)
   ·
    refine gT u rfl (go6 ?_);refine zO h1 (MLe.refl _) ⟨?_,rfl,rfl,rfl,trivial⟩ rfl rfl;exact congrArg some (vZ u)
   refine gF u rfl (go1 ?_);refine lX (xB kF pH H) fun bo au=>(go3 ?_);refine cL (ev2 rfl rfl) call187 (fun w hs=>zEZ hs au oM oM oM (by first|omega|exact Nat.le_trans (Classical.not_not.1 u).1.2 dC|exact fun l hl=>Nat.le_trans ((Classical.not_not.1 u).2 l hl).1.2 dC) (by first|omega|exact Nat.le_trans (Classical.not_not.1 u).1.2 dC|exact fun l hl=>Nat.le_trans ((Classical.not_not.1 u).2 l hl).1.2 dC) (by first|omega|exact Nat.le_trans (Classical.not_not.1 u).1.2 dC|exact fun l hl=>Nat.le_trans ((Classical.not_not.1 u).2 l hl).1.2 dC)) fun an h2 O ar=>?_;obtain rfl:an=vB (nmP s (↑f:Int).toNat):=ar;refine go4 ?_;refine zO h2 O ⟨?_,rfl,rfl,rfl,trivial⟩ rfl rfl;exact congrArg some (uA u)
  intro J ae;refine tJ ?_;refine gc2 (fun I=>?_) fun I=>?_
  ·
   have M:szP s f:=I;refine go3 ?_;refine cL (vs:=[vI (1),_,vI (-1),vI (-1)]) e4z call188 (fun w hs=>iX hs dC dC oM oM dC dC dC dC) fun bn h2 O aq=>(zF (zW (ρ:=tE5) (m:=1) (xs:=[dg (1:Int) (↑f:Int) (-1:Int) (-1:Int)]) (ps':=[(0,_)]) underlying137 qW rfl rfl rfl (yL wG (yL wG (yL wG (yL wG wG)))) e2z (zI rfl (Pc.arr (Pc.here _) e50 0 dC) aq zY) (show 1*5≤16777216 from by decide) nP) rfl rfl rfl ?_)
   rintro bm ca ⟨bf,rfl,ad⟩
   refine yJ (A:=[]) (ρ:=tE5) ad ?_;intro h3 ba Y;refine xT (A:=[]) (yF (ρ:=tE5) (bytes:=40) underlying137 qW rfl rfl rfl rfl nP rfl rfl G.up Y bO bO) rfl rfl rfl ?_
   rintro am bz ⟨aj,rfl,ac⟩
   refine go9 ?_;refine gqL ((f+1),(D++[dg (1:Int) (↑f:Int) (-1:Int) (-1:Int)]),am,aj,h3) ?_ ?_
   · exact⟨mle,ac,by omega,by rw[hD];exact y0 M⟩
   omega
  have M:¬szP s f:=I;refine go8 ?_;refine gqL ((f+1),D,z,C,J) ?_ ?_
  · exact⟨mle,G.up,by omega,by rw[hD];exact y5 M⟩
  omega
 have ef:f=s.2.1.length:=by omega
 refine go9 ?_;refine lX (xB uR (Pc.fst pH) H) fun bl bv=>(go2 ?_);refine gU 6 40 (vB (((512:Int)<(↑(s.1).length:Int))∨((256:Int)<(↑(s.2.1).length:Int)))) ?_ ?_
 ·
  refine yD ((512:Int)<(↑(s.1).length:Int)) (fun u=>?_) (fun u=>?_)
  ·
   refine gT u rfl (go6 ?_);refine gqU ?_;exact congrArg some (vZ u)
  refine gF u rfl (go3 ?_);refine lX (xB tM (Pc.snd (Pc.fst pH)) H) fun bk bu=>(go6 ?_);refine gqU ?_;exact congrArg some (uA u)
 refine gU 6 46 (vB ((((512:Int)<(↑(s.1).length:Int))∨((256:Int)<(↑(s.2.1).length:Int)))∨((1024:Int)<(↑(s.2.2).length:Int)))) ?_ ?_
 ·
  refine yD (((512:Int)<(↑(s.1).length:Int))∨((256:Int)<(↑(s.2.1).length:Int))) (fun u=>?_) (fun u=>?_)
  ·
   refine gT u rfl (go6 ?_);refine gqU ?_;exact congrArg some (vZ u)
  refine gF u rfl (go3 ?_);refine lX (xB yAF (Pc.snd (Pc.snd pH)) H) fun bj bt=>(go6 ?_);refine gqU ?_;exact congrArg some (uA u)
 refine gc2 (fun ai=>?_) fun ai=>?_
 ·
  have S:zPA s:=by unfold zPA;omega
  refine go2 ?_;refine cL (vs:=[vI (2),vI (-1),vI (-1),vI (-1)]) e4z call188 (fun w hs=>iX hs dC dC dC dC dC dC dC dC) fun bi h1 ah ap=>(zF (zW (ρ:=tE5) (m:=1) (xs:=[dg (2:Int) (-1:Int) (-1:Int) (-1:Int)]) (ps':=[(0,_)]) underlying137 qW rfl rfl rfl (yL wG (yL wG (yL wG (yL wG wG)))) e2z (zI rfl (Pc.arr (Pc.here _) e50 0 dC) ap zY) (show 1*5≤16777216 from by decide) nP) rfl rfl rfl ?_)
  rintro bh bx ⟨be,rfl,ab⟩
  refine yJ (A:=[]) (ρ:=tE5) ab ?_;intro h2 O X;refine xT (A:=[]) (yF (ρ:=tE5) (bytes:=40) underlying137 qW rfl rfl rfl rfl nP rfl rfl G.up X bO bO) rfl rfl rfl ?_
  rintro bg bw ⟨bd,rfl,aa⟩
  refine uQ ?_;refine wY (A:=[]) (ρ:=tE5) aa ?_;intro h3 ba U;refine zD rfl rfl ?_;exact(Rp.Is.cast U (by rw[hD,ef];exact(if_pos S).symm))
 have S:¬zPA s:=by unfold zPA;omega
 refine go9 ?_;refine wY (A:=[]) (ρ:=tE5) G.up ?_;intro h1 ah T;refine zD rfl rfl ?_;exact(Rp.Is.cast T (by rw[hD,ef];exact(if_neg S).symm))
theorem zOC{w0:World}{h0:Mem}(hs:MLe h0 (mem w0)){k m n j:Nat}{vs:Value}{s:Sq}(rs:(tSd k m n j).Is h0 vs s)(hcd0:s.1.length≤100000)(hcd1:k≤100000000):
 Calls Tryz.prog 155 #[vs] w0 (Ret w0 h0 (fun h r=>(rpS tE5).Is h r (zNK s s.1.length))):=by
 refine cb1 35 vs func155 hs ?_;refine go2 ?_;refine nB rs fun b1 ac M=>(j3 ?_);refine xR 200 5 ?_;have T:=RL.nil (ρ:=rpP rpI (rpP rpI (rpP rpI (rpP rpI rpI)))) (h:=h0);refine gcL (ι:=Nat×List (Int×Int×Int×Int×Int)×Value×List Value×Mem) (fun(f,D,z,C,S)=>(MLe h0 S∧(RL tE5 S C D∧f≤s.1.length∧D=zNK s f),[(1,vP b1 0),(3,z),(4,vI ↑f)],[.gs 200 5 z D.length C,.var b1 50 ac],S,s.1.length-f)) (0,[],(.slice none 0 0),[],h0) ?_ ?_
 · exact⟨mle,T,by omega,rfl⟩
 rintro⟨f,D,z,C,S⟩ ⟨ar,G,bj,hD⟩
 refine yU ?_;have bk:D.length≤f:=by rw[hD];exact sW _ _ f
 refine go5 ?_;refine lX (xB uR (Pc.fst pH) M) fun v8 r8=>(gc4 (fun aa=>?_) fun aa=>?_)
 ·
  refine uQ ?_;refine gcL (ι:=Nat×Mem) (fun(q,mb)=>(MLe S mb∧(q≤f∧∀u,u<q→¬gp s.1 f=gp s.1 u),[(1,vP b1 0),(3,z),(4,vI ↑f),(5,vI ↑q)],[.gs 200 5 z D.length C,.var b1 50 ac],mb,f-q)) (0,S) ?_ ?_
  · exact⟨mle,by omega,fun u h=>by omega⟩
  rintro⟨q,mb⟩ ⟨au,bg,Y⟩
  refine yU ?_;refine gc8 (fun Z=>?_) fun Z=>?_
  ·
   refine go5 ?_;refine zK 11 _ [] [(0,.q),(1,.q),(2,.q),(3,.q),(4,.q),(5,.q),(6,.q),(7,.q),(8,.q),(9,.q),(10,.c)] yC nX (by kernel_rfl) nX (fun r hr=>hr) (go1 ?_);refine wX rfl (xB uR (Pc.fst pH) M) fun bd ap=>(go1 ?_);refine wX rfl (xI zT f underlying46 zU ap) fun bc ao=>(wX rfl (xA zU ao) fun bb an=>(go1 ?_));refine wX rfl (xB uR (Pc.fst pH) M) fun ba am=>(go1 ?_);refine wX rfl (xI zT q underlying46 zU am) fun az ak=>(wX rfl (xA zU ak) fun ay aj=>?_);refine w_c rfl (sC (ev2 rfl rfl) call27 (fun w hs=>zAF hs an aj oM) fun ae h1 aq ai=>?_);obtain rfl:ae=vB ((s.1.getD f zT)=(s.1.getD q zT)):=ai;refine gc2 (fun H=>?_) fun H=>?_
   ·
    have O:twP s f:=⟨q,by omega,H⟩;refine go4 ?_;refine cL (vs:=[vI (37),vI (-1),vI (-1),_]) e4z call188 (fun w hs=>iX hs dC dC dC dC dC dC oM oM) fun ax h2 bi ah=>(zF (zW (ρ:=tE5) (m:=1) (xs:=[dg (37:Int) (-1:Int) (-1:Int) (↑f:Int)]) (ps':=[(0,_)]) underlying137 qW rfl rfl rfl (yL wG (yL wG (yL wG (yL wG wG)))) e2z (zI rfl (Pc.arr (Pc.here _) e50 0 dC) ah zY) (show 1*5≤16777216 from by decide) nP) rfl rfl rfl ?_)
    rintro aw bf ⟨av,rfl,X⟩
    refine yJ (A:=[]) (ρ:=tE5) X ?_;intro h3 bh J;refine xT (A:=[]) (yF (ρ:=tE5) (bytes:=40) underlying137 qW rfl rfl rfl rfl nP rfl rfl G.up J bO bO) rfl rfl rfl ?_
    rintro ad be ⟨ab,rfl,U⟩
    refine j3 ?_;refine gqL ((f+1),(D++[dg (37:Int) (-1:Int) (-1:Int) (↑f:Int)]),ad,ab,h3) ?_ ?_
    · exact⟨mle,U,by omega,by rw[hD];exact y0 O⟩
    omega
   refine go8 ?_;refine gqL ((q+1),h1) ?_ ?_
   · exact⟨mle,by omega,qL (Q:=fun u=>¬gp s.1 f=gp s.1 u) Y H⟩
   omega
  have O:¬twP s f:=fun⟨u,h1,h2⟩=>Y u oM h2;refine qT ?_;refine gqL ((f+1),D,z,C,mb) ?_ ?_
  · exact⟨mle,G.up,by omega,by rw[hD];exact y5 O⟩
  omega
 have ef:f=s.1.length:=by omega
 refine qO ?_;refine wY (A:=[]) (ρ:=tE5) G.up ?_;intro h1 aq I;refine zD rfl rfl ?_;exact(Rp.Is.cast I (by rw[hD,ef]))
theorem zKV{w0:World}{h0:Mem}(hs:MLe h0 (mem w0)){k m n j:Nat}{vs:Value}{s:Sq}(rs:(tSd k m n j).Is h0 vs s)(hcd0:k≤1000)(hcd1:m≤100000)(hcd2:n≤100000)(hcd3:s.1.length≤100000)(hcd4:∀f,f<s.2.1.length→(s.2.1.getD f zA).2.1.length≤10000∧∀l,l<(s.2.1.getD f zA).2.1.length→((s.2.1.getD f zA).2.1.getD l []).length≤10000)(hcd5:s.2.1.length≤1000)(hcd6:s.1.length≤100000)(hcd7:∀f,f<s.2.1.length→(s.2.1.getD f zA).2.1.length≤16∧∀l,l<(s.2.1.getD f zA).2.1.length→((s.2.1.getD f zA).2.1.getD l []).length≤64):
 Calls Tryz.prog 156 #[vs] w0 (Ret w0 h0 (fun h r=>(rpS tE5).Is h r (plZ s))):=by
 refine cb1 74 vs func156 hs ?_;refine go2 ?_;refine nB rs fun b1 ai ad=>(zAQ ?_);refine xR 200 5 ?_;have aq:=RL.nil (ρ:=rpP rpI (rpP rpI (rpP rpI (rpP rpI rpI)))) (h:=h0);refine xR 200 5 ?_;have ap:=RL.nil (ρ:=rpP rpI (rpP rpI (rpP rpI (rpP rpI rpI)))) (h:=h0);refine gcL (ι:=Nat×List (Int×Int×Int×Int×Int)×List (Int×Int×Int×Int×Int)×Value×List Value×Value×List Value×Mem) (fun(f,D,G,S,T,C,O,ma)=>(MLe h0 ma∧(RL tE5 ma T D∧RL tE5 ma O G∧f≤s.2.1.length∧D=zPD s f∧G=zKO s f),[(1,vP b1 0),(3,S),(4,C),(5,vI ↑f)],[.gs 200 5 C G.length O,.gs 200 5 S D.length T,.var b1 50 ai],ma,s.2.1.length-f)) (0,[],[],(.slice none 0 0),[],(.slice none 0 0),[],h0) ?_ ?_
 · exact⟨mle,aq,ap,by omega,rfl,rfl⟩
 rintro⟨f,D,G,S,T,C,O,ma⟩ ⟨cm,X,Z,ec,hD,hG⟩
 refine yU ?_;have ee:D.length≤f:=by rw[hD];exact sW _ _ f
 have ed:G.length≤1024*f:=by rw[hG];exact zRA hcd7 f oM
 have bb:=nG (s:=s) (f:=↑f) hcd7;refine go5 ?_;refine lX (xB tM (Pc.snd (Pc.fst pH)) ad) fun dr du=>(gc4 (fun bf=>?_) fun bf=>?_)
 ·
  refine go4 ?_;refine qI (ι:=List (Int×Int×Int×Int×Int)×Value×List Value×Mem) (fun(ZR,u,z,mz)=>MLe ma mz∧(RL tE5 mz z ZR∧ZR=zPD s (f+1))) (fun(ZR,u,z,mz)=>[(1,vP b1 0),(3,u),(4,C),(5,vI ↑f)]) (fun(ZR,u,z,mz)=>[.gs 200 5 C G.length O,.gs 200 5 u ZR.length z,.var b1 50 ai]) (fun(ZR,u,z,mz)=>mz) ?_ ?_
  ·
   refine go3 ?_;refine lX (xB tM (Pc.snd (Pc.fst pH)) ad) fun dq cf=>(go1 ?_);refine lX (xI zA f underlying47 fR cf) fun dp ce=>(lX (xF underlying83 sizeOf80 (Pc.fst pH) ce) fun dn cd=>(lX (xF underlying80 sizeOf53 (Pc.fst pH) cd) fun dm cc=>(lX (xA zU cc) fun dl cb=>(cL (ev1 rfl) call42 (fun w hs=>zOA hs cb oM) fun bl h1 aa ca=>?_))));obtain rfl:bl=vB ((((s.2.1.getD f zA).1).1)=zT):=ca;refine gc2 (fun ac=>?_) fun ac=>?_
   ·
    refine go3 ?_;refine cL (vs:=[vI (9),_,vI (-1),vI (-1)]) e4z call188 (fun w hs=>iX hs dC dC oM oM dC dC dC dC) fun dk h2 ba bz=>(zF (zW (ρ:=tE5) (m:=1) (xs:=[dg (9:Int) (↑f:Int) (-1:Int) (-1:Int)]) (ps':=[(0,_)]) underlying137 qW rfl rfl rfl (yL wG (yL wG (yL wG (yL wG wG)))) e2z (zI rfl (Pc.arr (Pc.here _) e50 0 dC) bz zY) (show 1*5≤16777216 from by decide) nP) rfl rfl rfl ?_)
    rintro dj dy ⟨ct,rfl,ax⟩
    refine yJ (A:=[]) (ρ:=tE5) ax ?_;intro h3 az an;refine xT (A:=[_]) (yF (ρ:=tE5) (bytes:=40) underlying137 qW rfl rfl rfl rfl nP rfl rfl X.up an bO bO) rfl rfl rfl ?_
    rintro bk dx ⟨bh,rfl,aw⟩
    refine go2 ?_;refine zO ((D++[dg (9:Int) (↑f:Int) (-1:Int) (-1:Int)]),bk,bh,h3) ?_ e4z rfl rfl;refine⟨((aa.trans ba).trans az),?_⟩;refine⟨aw,?_⟩;exact(by rw[hD];exact y0 ac)
   refine go1 ?_;refine zO (D,S,T,h1) ?_ e4z rfl rfl;refine⟨aa,?_⟩;refine⟨X.up,?_⟩;exact(by rw[hD];exact y5 ac)
  rintro⟨ZR,u,z,mz⟩ ⟨cj,hZ⟩
  refine yU ?_;obtain⟨ao,hZ⟩:=hZ;refine go2 ?_;refine lX (xB kF pH ad) fun di bx=>(go1 ?_);refine cL (ev2 rfl rfl) call189 (fun w hs=>zBA hs bx oM oM (by first|omega|exact hcd4) (by first|omega|exact hcd4)) fun ar h1 aa ay=>(go9 ?_);refine gcL (ι:=Nat×List (Int×Int×Int×Int×Int)×Value×List Value×Mem) (fun(l,G1,I,M,mb)=>(MLe h1 mb∧(RL tE5 mb M G1∧l≤(fP s ↑f).length∧G1=zKO s f++ofL s f l),[(1,vP b1 0),(3,u),(4,I),(5,vI ↑f),(6,ar),(7,vI ↑l)],[.gs 200 5 I G1.length M,.gs 200 5 u ZR.length z,.var b1 50 ai],mb,(fP s ↑f).length-l)) (0,G,C,O,h1) ?_ ?_
  · exact⟨mle,Z.up,by omega,by rw[hG];exact(List.append_nil _).symm⟩
  rintro⟨l,G1,I,M,mb⟩ ⟨cl,Y,dz,ah⟩
  refine yU ?_;have ci:=zCP (s:=s) hcd7 f l;have cp:G1.length≤1024*f+1024:=by rw[ah,lAz,←hG];have:=bb.1;omega
  refine gc9 (fun be=>?_) fun be=>?_
  ·
   refine uQ ?_;refine gcL (ι:=Nat×List (Int×Int×Int×Int×Int)×Value×List Value×Mem) (fun(i,G2,H,J,mc)=>(MLe mb mc∧(RL tE5 mc J G2∧i≤((fP s ↑f).getD l []).length∧G2=zKO s f++ofL s f l++ofX s f l i),[(1,vP b1 0),(3,u),(4,H),(5,vI ↑f),(6,ar),(7,vI ↑l),(8,vI ↑i)],[.gs 200 5 H G2.length J,.gs 200 5 u ZR.length z,.var b1 50 ai],mc,((fP s ↑f).getD l []).length-i)) (0,G1,I,M,mb) ?_ ?_
   · exact⟨mle,Y,by omega,by rw[ah];exact(List.append_nil _).symm⟩
   rintro⟨i,G2,H,J,mc⟩ ⟨ck,U,ea,ae⟩
   refine yU ?_;have cn:=bb.2 l;have ch:(ofX s f l i).length≤i:=sW _ _ i;have co:G2.length≤1024*f+2048:=by rw[ae,lAz,←ah];omega
   refine go6 ?_;refine lX (xI [] l underlying115 uR ay) fun dh bw=>(lX (xA uR bw) fun df dt=>(gc4 (fun bd=>?_) fun bd=>?_))
   ·
    refine go5 ?_;refine zK 15 _ [] [(0,.q),(1,.q),(2,.q),(3,.q),(4,.q),(5,.q),(6,.q),(7,.q),(8,.q),(9,.q),(10,.q),(11,.q),(12,.q),(13,.c),(14,.q)] yC nX (vJ (by kernel_rfl)) nX (fun r hr=>hr) (go1 ?_);refine wX rfl (xB tM (Pc.snd (Pc.fst pH)) ad) fun de bv=>(go1 ?_);refine wX rfl (xI zA f underlying47 fR bv) fun dd bu=>(wX rfl (xF underlying83 sizeOf80 (Pc.fst pH) bu) fun dc bt=>(wX rfl (xA zG6 bt) fun db bs=>(go2 ?_)));refine wX rfl (xI [] l underlying115 uR ay) fun da br=>(wX rfl (xA uR br) fun cz bq=>(go1 ?_));refine wX rfl (xI zT i underlying46 zU bq) fun cy bp=>(wX rfl (xA zU bp) fun cw bo=>?_);refine w_c rfl (sC (ev2 rfl rfl) call153 (fun w hs=>zOB hs bs bo oM oM oM) fun bj h2 ba bn=>?_);obtain rfl:bj=vI (xJ (jH ((s.2.1.getD f zA).1).1 (((fP s (↑f:Int)).getD l []).getD i zT)-((s.2.1.getD f zA).1).2)):=bn;have cg:=wI (jH ((s.2.1.getD f zA).1).1 (((fP s (↑f:Int)).getD l []).getD i zT)-((s.2.1.getD f zA).1).2);refine gc3 (fun ab=>?_) fun ab=>?_
    ·
     refine go5 ?_;refine cL (vs:=[vI (31),_,_,_]) e4z call188 (fun w hs=>iX hs dC dC oM oM oM oM oM oM) fun cv h3 az bm=>(zF (zW (ρ:=tE5) (m:=1) (xs:=[dg (31:Int) (↑f:Int) (↑l:Int) (↑i:Int)]) (ps':=[(0,_)]) underlying137 qW rfl rfl rfl (yL wG (yL wG (yL wG (yL wG wG)))) e2z (zI rfl (Pc.arr (Pc.here _) e50 0 dC) bm zY) (show 1*5≤16777216 from by decide) nP) rfl rfl rfl ?_)
     rintro cu dw ⟨cq,rfl,av⟩
     refine yJ (A:=[]) (ρ:=tE5) av ?_;intro h4 eb am;refine xT (A:=[]) (yF (ρ:=tE5) (bytes:=40) underlying137 qW rfl rfl rfl rfl nP rfl rfl U.up am bO bO) rfl rfl rfl ?_
     rintro bi dv ⟨bg,rfl,au⟩
     refine go9 ?_;refine gqL ((i+1),(G2++[dg (31:Int) (↑f:Int) (↑l:Int) (↑i:Int)]),bi,bg,h4) ?_ ?_
     · exact⟨mle,au,by omega,by rw[ae,List.append_assoc,show ofX s f l i++_=_ from y0 (p:=ofP s f l) ab];rfl⟩
     omega
    refine go8 ?_;refine gqL ((i+1),G2,H,J,h2) ?_ ?_
    · exact⟨mle,U.up,by omega,by rw[ae,show ofX s f l i=_ from y5 (p:=ofP s f l) ab];rfl⟩
    omega
   have ei:i=((fP s ↑f).getD l []).length:=by omega
   refine qT ?_;refine gqL ((l+1),G2,H,J,mc) ?_ ?_
   · exact⟨mle,U.up,by omega,by rw[ae,ei,List.append_assoc];rfl⟩
   omega
  have el:l=(fP s ↑f).length:=by omega
  refine qT ?_;refine gqL ((f+1),ZR,G1,u,z,I,M,mb) ?_ ?_
  · exact⟨mle,ao.up,Y,by omega,hZ,by rw[ah,el];rfl⟩
  omega
 have ef:f=s.2.1.length:=by omega
 refine go9 ?_;refine gv (gA mh1 underlying137 rfl) rfl (gc3 (fun bc=>?_) fun bc=>?_)
 ·
  refine go8 ?_;refine wY (A:=[_]) (ρ:=tE5) X.up ?_;intro h1 aa ak;refine zD rfl rfl ?_;exact(Rp.Is.cast ak (by rw[hD,ef];exact(if_pos (by rw[←ef,←hD];omega)).symm))
 refine go9 ?_;refine wY (A:=[]) (ρ:=tE5) Z.up ?_;intro h1 aa aj;refine zD rfl rfl ?_;exact(Rp.Is.cast aj (by rw[hG,ef];exact(if_neg (by rw[←ef,←hD];omega)).symm))
theorem zEY{w0:World}{h0:Mem}(hs:MLe h0 (mem w0)){k:Nat}{vL:Value}{L:(List (List Tq))}(rL:(tLL k).Is h0 vL L)(hcd0:k≤100000)(hcd1:∀l,l<L.length→(L.getD l []).length≤1000)(hcd2:L.length≤100000):
 Calls Tryz.prog 124 #[vL] w0 (Ret w0 h0 (fun _ r=>r=vI (ouZ L))):=by
 refine cb1 21 vL func124 hs ?_;refine dE ?_;refine gcL (ι:=Nat×Mem) (fun(m,J)=>(MLe h0 J∧(m≤L.length),[(0,vL),(3,vI (zBG L m)),(4,vI ↑m)],[],J,L.length-m)) (0,h0) ?_ ?_
 · exact⟨mle,oM⟩
 rintro⟨m,J⟩ ⟨S,Z⟩
 refine yU ?_;have hor:=w4 L m;have aa:=hcd1 m;refine gc9 (fun O=>?_) fun O=>?_
 ·
  refine go8 ?_;refine lX (xI [] m underlying115 uR rL) fun Y I=>(lX (xA uR I) fun X H=>(cL (ev1 rfl) call170 (fun w hs=>sV hs H oM oM) fun U h1 ac G=>(cL (ev1 rfl) call17 (fun w hs=>qM hs G dC) fun C T ab D=>?_)));obtain rfl:C=vI (xJ (uS (L.getD m []) 0 1 (L.getD m []).length)):=D;have M:=wI (uS (L.getD m []) 0 1 (L.getD m []).length);refine gc3 (fun u=>?_) fun u=>?_
  ·
   refine qO ?_;refine gqL ((m+1),T) ?_ ?_ (he:=⟨rfl,congrArg (fun z=>some (vI z)) (ou_t u),rfl,trivial⟩)
   · exact⟨mle,oM⟩
   omega
  refine go8 ?_;refine gqL ((m+1),T) ?_ ?_ (he:=⟨rfl,congrArg (fun z=>some (vI z)) (ou_f u),rfl,trivial⟩)
  · exact⟨mle,oM⟩
  omega
 refine qO ?_;refine zD rfl rfl ?_;have em:m=L.length:=by omega
 subst em
 rfl
end Go.Proofs.YtboaboflnckgoaaGreat
namespace Go.Proofs.YtboaboflnckgoaaGreat
open Bk Go Tryz
set_option linter.unusedVariables false
set_option linter.unusedSimpArgs false
set_option maxRecDepth 10000
set_option maxHeartbeats 1000000
attribute [local irreducible] GL GC GQ W OpV
theorem zOI{w0:World}{h0:Mem}(hs:MLe h0 (mem w0)){k m n j:Nat}{vs:Value}{s:Sq}(rs:(tSd k m n j).Is h0 vs s)(hcd0:k≤1000)(hcd1:m≤100000)(hcd2:n≤100000)(hcd3:okS s):
 Calls Tryz.prog 157 #[vs] w0 (Ret w0 h0 (fun h r=>(rpS tE5).Is h r (neZ s))):=by
 have cf:=hcd3.1.1.1;have ce:=hcd3.1.1.2;refine cb1 45 vs func157 hs ?_;refine go2 ?_;refine nB rs fun b1 bb ao=>(zAQ ?_);refine xR 200 5 ?_;have ai:=RL.nil (ρ:=rpP rpI (rpP rpI (rpP rpI (rpP rpI rpI)))) (h:=h0);refine xR 200 5 ?_;have ah:=RL.nil (ρ:=rpP rpI (rpP rpI (rpP rpI (rpP rpI rpI)))) (h:=h0);refine gcL (ι:=Nat×List (Int×Int×Int×Int×Int)×List (Int×Int×Int×Int×Int)×Value×List Value×Value×List Value×Mem) (fun(f,D,G,I,J,C,H,ma)=>(MLe h0 ma∧(RL tE5 ma J D∧RL tE5 ma H G∧f≤s.2.1.length∧D=zS3 s f∧G=zYO s f),[(1,vP b1 0),(3,I),(4,C),(5,vI ↑f)],[.gs 200 5 C G.length H,.gs 200 5 I D.length J,.var b1 50 bb],ma,s.2.1.length-f)) (0,[],[],(.slice none 0 0),[],(.slice none 0 0),[],h0) ?_ ?_
 · exact⟨mle,ai,ah,by omega,rfl,rfl⟩
 rintro⟨f,D,G,I,J,C,H,ma⟩ ⟨bn,O,M,cg,hD,hG⟩
 refine yU ?_;have ci:D.length≤f:=by rw[hD];exact sW _ _ f
 have ch:G.length≤f:=by rw[hG];exact sW _ _ f
 have av:=zGW s f;have aw:=nG (s:=s) (f:=↑f) hcd3.2.1;have cd:=zIH (rG s f) 0 1;refine go5 ?_;refine lX (xB tM (Pc.snd (Pc.fst pH)) ao) fun bw bx=>(gc4 (fun ay=>?_) fun ay=>?_)
 ·
  refine go6 ?_;refine lX (xB kF pH ao) fun bv bk=>(go1 ?_);refine cL (ev2 rfl rfl) call176 (fun w hs=>zIA (f:=f) hs bk oM oM oM (by first|omega|exact hcd3.big) (by first|omega|exact hcd3.big) (by first|omega|exact hcd3.big) (by first|omega|exact hcd3.big)) fun bf h1 au ap=>(go3 ?_);refine qI (ι:=List (Int×Int×Int×Int×Int)×Value×List Value×Mem) (fun(X,z,u,mz)=>MLe h1 mz∧(RL tE5 mz u X∧X=zS3 s (f+1))) (fun(X,z,u,mz)=>[(1,vP b1 0),(3,z),(4,C),(5,vI ↑f),(6,bf)]) (fun(X,z,u,mz)=>[.gs 200 5 C G.length H,.gs 200 5 z X.length u,.var b1 50 bb]) (fun(X,z,u,mz)=>mz) ?_ ?_
  ·
   refine go3 ?_;refine cL (ev1 rfl) call123 (fun w hs=>zEX hs ap oM (by first|omega|exact hcd3.2.2 f oM)) fun bu h2 ae bj=>?_;obtain⟨Y,rfl,ad⟩:=bj
   change (rpS rpI).Is h2 Y (fX (rG s f) 0 1) at ad
   refine sL ?_;refine cnd (fun U=>?_) fun U=>?_
   ·
    refine go4 ?_;refine cL (vs:=[_,_,vI (-1),vI (-1)]) e4z call188 (fun w hs=>iX hs oM oM oM oM dC dC dC dC) fun bt h3 ar bi=>(zF (zW (ρ:=tE5) (m:=1) (xs:=[dg (vQ (rG s f) 0 1) (↑f:Int) (-1:Int) (-1:Int)]) (ps':=[(0,_)]) underlying137 qW rfl rfl rfl (yL wG (yL wG (yL wG (yL wG wG)))) e2z (zI rfl (Pc.arr (Pc.here _) e50 0 dC) bi zY) (show 1*5≤16777216 from by decide) nP) rfl rfl rfl ?_)
    rintro bs cc ⟨bp,rfl,an⟩
    refine yJ (A:=[]) (ρ:=tE5) an ?_;intro h4 aq ac;refine xT (A:=[_]) (yF (ρ:=tE5) (bytes:=40) underlying137 qW rfl rfl rfl rfl nP rfl rfl O.up ac bO bO) rfl rfl rfl ?_
    rintro be cb ⟨ba,rfl,am⟩
    refine go2 ?_;refine zO ((D++[dg (vQ (rG s f) 0 1) (↑f:Int) (-1:Int) (-1:Int)]),be,ba,h4) ?_ e5 rfl rfl;refine⟨((ae.trans ar).trans aq),?_⟩;refine⟨am,?_⟩;exact(by rw[hD];exact y0 U)
   refine go1 ?_;refine zO (D,I,J,h2) ?_ e5 rfl rfl;refine⟨ae,?_⟩;refine⟨O.up,?_⟩;exact(by rw[hD];exact y5 U)
  rintro⟨X,z,u,mz⟩ ⟨bm,hZ⟩
  refine yU ?_;obtain⟨S,hZ⟩:=hZ;refine go3 ?_;refine cL (ev1 rfl) call124 (fun w hs=>zEY hs ap.up oM (by first|omega|exact fun l hl=>(by rw[av.2 l];exact Nat.le_trans (aw.2 l) dC)) (by first|omega|exact fun l hl=>(by rw[av.2 l];exact Nat.le_trans (aw.2 l) dC))) fun bd h2 ae bh=>?_;obtain rfl:bd=vI (ouZ (rG s f)):=bh;have bl:=w4 (rG s f) (rG s f).length;refine gc3 (fun T=>?_) fun T=>?_
  ·
   refine go3 ?_;refine cL (vs:=[vI (33),_,vI (-1),vI (-1)]) e4z call188 (fun w hs=>iX hs dC dC oM oM dC dC dC dC) fun br h3 ar bg=>(zF (zW (ρ:=tE5) (m:=1) (xs:=[dg (33:Int) (↑f:Int) (-1:Int) (-1:Int)]) (ps':=[(0,_)]) underlying137 qW rfl rfl rfl (yL wG (yL wG (yL wG (yL wG wG)))) e2z (zI rfl (Pc.arr (Pc.here _) e50 0 dC) bg zY) (show 1*5≤16777216 from by decide) nP) rfl rfl rfl ?_)
   rintro bq ca ⟨bo,rfl,ak⟩
   refine yJ (A:=[]) (ρ:=tE5) ak ?_;intro h4 aq ab;refine xT (A:=[]) (yF (ρ:=tE5) (bytes:=40) underlying137 qW rfl rfl rfl rfl nP rfl rfl M.up ab bO bO) rfl rfl rfl ?_
   rintro bc bz ⟨az,rfl,aj⟩
   refine go9 ?_;refine gqL ((f+1),X,(G++[dg (33:Int) (↑f:Int) (-1:Int) (-1:Int)]),z,u,bc,az,h4) ?_ ?_
   · exact⟨mle,S.up,aj,by omega,hZ,by rw[hG];exact y0 T⟩
   omega
  refine go8 ?_;refine gqL ((f+1),X,G,z,u,C,H,h2) ?_ ?_
  · exact⟨mle,S.up,M.up,by omega,hZ,by rw[hG];exact y5 T⟩
  omega
 have ef:f=s.2.1.length:=by omega
 refine go9 ?_;refine gv (gA mh1 underlying137 rfl) rfl (gc3 (fun ax=>?_) fun ax=>?_)
 ·
  refine go8 ?_;refine wY (A:=[_]) (ρ:=tE5) O.up ?_;intro h1 au aa;refine zD rfl rfl ?_;exact(Rp.Is.cast aa (by rw[hD,ef];exact(if_pos (by rw[←ef,←hD];omega)).symm))
 refine go9 ?_;refine wY (A:=[]) (ρ:=tE5) M.up ?_;intro h1 au Z;refine zD rfl rfl ?_;exact(Rp.Is.cast Z (by rw[hG,ef];exact(if_neg (by rw[←ef,←hD];omega)).symm))
theorem zOJ{w0:World}{h0:Mem}(hs:MLe h0 (mem w0)){k m n j:Nat}{vs:Value}{s:Sq}(rs:(tSd k m n j).Is h0 vs s)(hcd0:k≤1000)(hcd1:m≤100000)(hcd2:n≤100000)(hcd3:okS s):
 Calls Tryz.prog 107 #[vs] w0 (Ret w0 h0 (fun h r=>(rpS tE5).Is h r (zVY s))):=by
 have ak:=hcd3.1.1.1;have aj:=hcd3.1.1.2;refine cb1 34 vs func107 hs ?_;refine go2 ?_;refine nB rs fun b1 au u=>(go6 ?_);refine lX (xB kF pH u) fun v7 r7=>(cL (ev1 rfl) call154 (fun w hs=>zOE hs r7 (by first|omega|exact hcd3|exact hcd3.big|exact hcd3.mem|exact hcd3.2.1)) fun v8 h1 ar r8=>(zAS (fun G=>?_) fun G=>?_))
 ·
  refine go8 ?_;refine zD rfl rfl ?_;exact(Rp.Is.cast r8 (by exact(if_pos oM).symm))
 refine go5 ?_;refine lX (xB kF pH u) fun ai X=>(cL (ev1 rfl) call155 (fun w hs=>zOC hs X (by first|omega|exact hcd3|exact hcd3.big|exact hcd3.mem|exact hcd3.2.1) oM) fun ah h2 aq U=>(zAS (fun D=>?_) fun D=>?_))
 ·
  refine go8 ?_;refine zD rfl rfl ?_;exact(Rp.Is.cast U (by exact((if_neg oM).trans (if_pos oM)).symm))
 refine go5 ?_;refine lX (xB kF pH u) fun ae T=>(cL (ev1 rfl) call156 (fun w hs=>zKV hs T oM oM oM (by first|omega|exact hcd3|exact hcd3.big|exact hcd3.mem|exact hcd3.2.1) (by first|omega|exact hcd3|exact hcd3.big|exact hcd3.mem|exact hcd3.2.1) (by first|omega|exact hcd3|exact hcd3.big|exact hcd3.mem|exact hcd3.2.1) (by first|omega|exact hcd3|exact hcd3.big|exact hcd3.mem|exact hcd3.2.1) (by first|omega|exact hcd3|exact hcd3.big|exact hcd3.mem|exact hcd3.2.1)) fun ad h3 ap S=>(zAS (fun C=>?_) fun C=>?_))
 ·
  refine go8 ?_;refine zD rfl rfl ?_;exact(Rp.Is.cast S (by exact((if_neg oM).trans ((if_neg oM).trans (if_pos oM))).symm))
 refine go5 ?_;refine lX (xB kF pH u) fun ac O=>(cL (ev1 rfl) call157 (fun w hs=>zOI hs O oM oM oM (by first|omega|exact hcd3|exact hcd3.big|exact hcd3.mem|exact hcd3.2.1)) fun ab h4 ao M=>(zAS (fun z=>?_) fun z=>?_))
 ·
  refine go8 ?_;refine zD rfl rfl ?_;exact(Rp.Is.cast M (by exact((if_neg oM).trans ((if_neg oM).trans ((if_neg oM).trans (if_pos oM)))).symm))
 refine go4 ?_;refine lX (xB kF pH u) fun aa J=>(cL (ev1 rfl) call159 (fun w hs=>zE0 hs J (by first|omega|exact hcd3|exact hcd3.big|exact hcd3.mem|exact hcd3.2.1) (by first|omega|exact hcd3|exact hcd3.big|exact hcd3.mem|exact hcd3.2.1)) fun Z h5 an I=>(cL (ev1 rfl) call158 (fun w hs=>zH3 hs I) fun Y h6 am H=>(go4 ?_)));refine zD rfl rfl ?_;exact(Rp.Is.cast H (by exact((if_neg oM).trans ((if_neg oM).trans ((if_neg oM).trans (if_neg oM)))).symm))
theorem zOD{w0:World}{h0:Mem}(hs:MLe h0 (mem w0)){k m n j:Nat}{vs:Value}{s:Sq}(rs:(tSd k m n j).Is h0 vs s)(hcd0:k≤1000)(hcd1:m≤100000)(hcd2:n≤100000)(hcd3:okS s):
 Calls Tryz.prog 61 #[vs] w0 (Ret w0 h0 (fun _ r=>r=vB (dY s))):=by
 refine cb1 7 vs func61 hs ?_;refine go2 ?_;refine nB rs fun G C u=>(go5 ?_);refine lX (xB kF pH u) fun v3 r3=>(cL (ev1 rfl) call107 (fun w hs=>zOJ hs r3 oM oM oM (by first|omega|exact hcd3)) fun v4 D z r4=>(go6 ?_));refine zD rfl rfl ?_;exact fL (by unfold dY;omega)
end Go.Proofs.YtboaboflnckgoaaGreat
namespace Go.Proofs.YtboaboflnckgoaaGreat
open Bk Go Tryz
set_option linter.unusedVariables false
set_option linter.unusedSimpArgs false
set_option maxRecDepth 10000
set_option maxHeartbeats 1000000
attribute [local irreducible] GL GC GQ W OpV
theorem zCU{w0:World}{h0:Mem}(hs:MLe h0 (mem w0)){k m n j:Nat}{vs:Value}{s:Sq}(rs:(tSd k m n j).Is h0 vs s)(hcd0:k≤1000)(hcd1:m≤100000)(hcd2:n≤100000)(hcd3:okS s):
 Calls Tryz.prog 82 #[vs] w0 (sQ w0 h0 (fun h r L_=>∃vF cs,(rpP (tLs (k+1)) (rpP rpV (rpS (rpP rpI (rpP rpI (rpQ (j+1))))))).Is h r (nrP s,(vF,nrE s))∧L_=[.gs 83 14 vF (nrF s).length cs]∧vF.oneCell'=true∧RL (tFc (4*m+12) (m+n+12)) h cs (nrF s))):=by
 have hw:=hcd3.1.1.1;have hv:=hcd3.1.1.2;have hu:=hcd3.1.2;refine cb1 100 vs func82 hs ?_;refine go2 ?_;refine nB rs fun b1 co ai=>(nA (ρ:=(rpP (tLs 1) (rpP rpV (rpS (rpP rpI (rpP rpI (rpQ 1))))))) (X:=([],((Value.slice none 0 0),[]))) tO (yL qJ (yL cI qJ)) fun b2 cn dd=>(go5 ?_));refine lX (xB kF pH ai) fun hj fc=>(cL (ev1 rfl) call61 (fun w hs=>zOD hs fc oM oM oM (by first|omega|exact hcd3)) fun eb h1 id fb=>?_);obtain rfl:eb=vB (dY s):=fb;refine gc3 (fun ac=>?_) fun ac=>?_
 ·
  refine go2 ?_;refine lX (xV (ρ:=(rpP (tLs 1) (rpP rpV (rpS (rpP rpI (rpP rpI (rpQ 1))))))) (wD (ps':=[]) underlying50 tO rfl rfl (bF underlying50) trivial rfl (yL qJ (yL cI qJ)) zY)) fun hg fa=>(zS (A:=[]) (uB sizeOf50 pH dd fa) fun fz dc=>(go4 ?_));rw[show nrF s=[] from if_neg ac];refine cY 83 14 ?_;have cw:=RL.nil (ρ:=rpP (tPl (4*m+12) (m+n+12)) (rpP tII fD)) (h:=h1);refine wM (kA (t:=2) kF mh1 rfl dc) ?_;intro gc cb ct;refine gX (.cons_cons _ (List.nil_sublist _)) (fun E S=>zQ rfl cb E S) ?_;exact⟨_,_,(Rp.Is.cast (Rp.Is.le ct (Le.p (Le.s (Le.t (Le.q (l:=k+1) oM))) (Le.p (Le.refl _) (Le.s (Le.p (Le.refl _) (Le.p (Le.refl _) (Le.q (l:=j+1) oM))))))) (by rw[show nrP s=[] from if_neg ac,show nrE s=[] from if_neg ac])),rfl,rfl,cw⟩
 refine go4 ?_;refine lX (xB kF pH ai) fun hf ez=>?_;have az:dY s:=Classical.not_not.1 ac;have aq:=zXK az;have hq:(fG s).length≤s.1.length:=zKN s s.1.length;refine cL (ev1 rfl) call127 (fun w hs=>zOH hs ez oM (by first|omega|exact hcd3|exact aq) (by first|omega|exact hcd3|exact aq)) fun ea h2 ic ax=>?_;replace ax:=Rp.Is.cast (y:=(fG s)) ax (by rfl);refine go6 ?_;refine lX (xB uR (Pc.fst pH) ai) fun hd hl=>(go1 ?_);refine zF (zE3 (ρ:=rpI) (X:=(0:Int)) (by':=8) s.1.length underlying32 gJ rfl rfl rfl rfl wG rfl rfl (by rfl) (by rfl) bO bO) rfl rfl rfl ?_
 rintro dz hp ⟨dm,rfl,db⟩
 refine go6 ?_;refine lX (xB yAF (Pc.snd (Pc.snd pH)) ai) fun hc ey=>(zFC 233 5 ?_);have cu:=RL.nil (ρ:=rpP rpI (rpP rpI (rpQ j))) (h:=h2);refine xT (A:=[]) (jN (yF (ρ:=(rpP rpI (rpP rpI (rpQ j)))) (bytes:=72) underlying48 zVJ rfl rfl rfl rfl nP rfl rfl cu ey bO bO)) rfl rfl rfl ?_
 rintro hb ho ⟨ft,gb,rfl,da⟩
 refine yJ (A:=[]) (ρ:=(rpP rpI (rpP rpI (rpQ j)))) da ?_;intro h3 ib cq;refine lX (xV (ρ:=(rpP rpV (rpP rpV (rpS (rpP rpI (rpP rpI (rpQ (j+1)))))))) (wD (ps':=[(2,_)]) underlying50 tO rfl rfl (bF underlying50) e2z rfl (yL cI (yL cI qJ)) (zI rfl (Pc.snd (Pc.snd (Pc.here _))) (cq.le (Le.s (Le.p (Le.refl _) (Le.p (Le.refl _) (Le.q (l:=j+1) oM))))) zY))) fun ha ew=>(nA (ρ:=(rpP rpV (rpP rpV (rpS (rpP rpI (rpP rpI (rpQ 1))))))) (X:=((Value.slice none 0 0),((Value.slice none 0 0),[]))) tO (yL cI (yL cI qJ)) fun b5 ij ed=>?_);have cp:=(Le.p (Le.refl _) (Le.p (Le.refl _) (Le.s (Le.p (Le.refl _) (Le.p (Le.refl _) (Le.q (l:=j+1) oM)))))).R ed;refine zS (A:=[]) (uB sizeOf50 pH cp ew) fun di bt=>(go9 ?_);refine xR 53 9 ?_;have bp:=RL.nil (ρ:=rpT (rpQ (k+1))) (h:=h3);refine gcL (ι:=Nat×List Int×List Tq×List Value×Value×List Value×Value×List Value×Mem) (fun(i,IX,PS,M,D,ao,J,an,ma)=>(MLe h3 ma∧((rpP rpV (rpP rpV (rpS (rpP rpI (rpP rpI (rpQ (j+1))))))).R ma M (J,(Value.slice none 0 0,s.2.2))∧RL rpI ma ao IX∧RL (tPt (k+1)) ma an PS∧J.oneCell'=true∧i≤(fG s).length∧IX=zLM s i∧PS=zUX s i),[(1,vP b1 0),(2,vP b2 0),(3,ea),(4,D),(5,vP b5 0),(6,vI ↑i)],[.gs 53 9 J PS.length an,.var b5 50 M,.gs 3 1 D IX.length ao,.var b2 50 cn,.var b1 50 co],ma,(fG s).length-i)) (0,(List.replicate s.1.length (0:Int)),[],di,dz,dm,(.slice none 0 0),[],h3) ?_ ?_
 · exact⟨mle,bt,db.up,bp,rfl,by omega,rfl,rfl⟩
 rintro⟨i,IX,PS,M,D,ao,J,an,ma⟩ ⟨fw,H,au,ar,fg,hx,hI,hP⟩
 refine yU ?_;have ig:IX.length=s.1.length:=by rw[hI];exact zAO s i
 have ie:PS.length=i:=by rw[hP];exact wK _ _
 refine gc9 (fun df=>?_) fun df=>?_
 ·
  refine go9 ?_;refine lX (xI (0:Int) i underlying32 ty3 ax) fun gz ev=>(lX (xA ty3 ev) fun gy eu=>?_);obtain⟨rfl,fy,fs⟩:=jX eu;refine go1 ?_;refine gv ((yZ (((fG s).getD i 0).toNat) mh2 underlying32 sizeOf3 rfl rfl (by(have:=oP (s:=s) (i:=s.1.length) (k:=i) (show i<(bK s s.1.length).length by show i<(fG s).length;omega);show _;have h2:0≤(fG s).getD i 0∧(fG s).getD i 0<↑s.1.length:=this;omega)) (by(have:=oP (s:=s) (i:=s.1.length) (k:=i) (show i<(bK s s.1.length).length by show i<(fG s).length;omega);show _;have h2:0≤(fG s).getD i 0∧(fG s).getD i 0<↑s.1.length:=this;omega)) nP).cv (show _=zL 1 D ((((fG s).getD i 0).toNat*1+0)) from congrArg (zL 1 D) (by rfl))) rfl (gD (A:=[_,_]) (F:=fun c_=>RL rpI ma c_ (IX.set (((fG s).getD i 0).toNat) (↑i:Int))) (rQ sizeOf3 (Pc.arr (Pc.here _) (0:Int) (((fG s).getD i 0).toNat) (by(have:=oP (s:=s) (i:=s.1.length) (k:=i) (show i<(bK s s.1.length).length by show i<(fG s).length;omega);show _;have h2:0≤(fG s).getD i 0∧(fG s).getD i 0<↑s.1.length:=this;omega))) rfl nP rfl rfl au (qD oM oM) rfl) ?_);intro cm bo;refine go2 ?_;refine jJ (A:=[]) 13 [] [(0,.q),(1,.q),(2,.q),(3,.q),(4,.q),(5,.q),(6,.q),(7,.q),(8,.q),(9,.q),(10,.c),(11,.c),(12,.q),(13,.t)] yC nX (vJ (by kernel_rfl)) nX (go1 ?_);refine wX rfl (aQ (xB uR (Pc.fst pH) H)) fun gx et=>?_;subst et;refine go1 ?_;refine wX rfl (xB uR (Pc.fst pH) ai) fun gw es=>(go2 ?_);refine wX rfl (xI (0:Int) i underlying32 ty3 ax) fun gu er=>(wX rfl (xA ty3 er) fun gt eq=>?_);obtain⟨rfl,fx,fr⟩:=jX eq;refine mX (F:=fun v_=>AtP (tPt k) ma v_ (s.1.getD (((fG s).getD i 0).toNat) zT)) rfl (lH zT (((fG s).getD i 0).toNat) underlying46 zU rfl rfl es (by(have:=oP (s:=s) (i:=s.1.length) (k:=i) (show i<(bK s s.1.length).length by show i<(fG s).length;omega);show _;have h2:0≤(fG s).getD i 0∧(fG s).getD i 0<↑s.1.length:=this;omega)) (by(have:=oP (s:=s) (i:=s.1.length) (k:=i) (show i<(bK s s.1.length).length by show i<(fG s).length;omega);show _;have h2:0≤(fG s).getD i 0∧(fG s).getD i 0<↑s.1.length:=this;omega)) nP) zBI rfl ?_;intro gr ep;refine wX rfl (xA zU ep) fun gq eo=>?_;refine w_c rfl (kU (fun X=>zW (ρ:=(tPt (k+1))) (m:=1) (xs:=[(s.1.getD (((fG s).getD i 0).toNat) zT)]) (ps':=[(0,_)]) underlying46 yW rfl rfl rfl (xY (yH oM)) e2z (zI rfl (Pc.arr (Pc.here _) zT 0 dC) (eo.le (Le.t (Le.q (l:=k+1) oM))) zY) (show 1*9≤16777216 from by decide) nP) rfl ?_)
  rintro go hn ⟨ga,rfl,cz⟩
  refine w_c rfl (vG (A:=[]) (ρ:=(tPt (k+1))) cz dK ?_);intro h4 cf bh;refine sR (A:=[]) (fun X=>jN (yF (ρ:=(tPt (k+1))) (bytes:=168) underlying46 yW rfl rfl rfl rfl nP rfl rfl ar.up bh bO bO)) rfl (wN (by first|(simp;done)|grind)) ?_
  rintro dy hm ⟨ba,dl,rfl,cy⟩
  refine go1 ?_;replace H:=H.mono cf;refine yK (A:=[_]) rfl (uB sizeOf46 (Pc.fst pH) H (zDD ba)) fun cl bs=>(go8 ?_);refine gqL ((i+1),(IX.set (((fG s).getD i 0).toNat) (↑i:Int)),(PS++[(s.1.getD (((fG s).getD i 0).toNat) zT)]),cl,D,cm,dy,dl,h4) ?_ ?_
  · exact⟨mle,bs,bo.up,cy,ba,by omega,by rw[hI];rfl,by rw[hP];rfl⟩
  omega
 have ei:i=(fG s).length:=by omega
 refine go8 ?_;refine yJ (A:=[]) (ρ:=(tPt (k+1))) ar.up ?_;intro h4 cf bg;replace H:=H.mono cf;have br:(rpP (tLs (k+1)) (rpP rpV (rpS (rpP rpI (rpP rpI (rpQ (j+1))))))).R h4 M (PS,(J,(Value.slice none 0 0,s.2.2)).2):=yAB H bg;refine go4 ?_;refine xR 83 14 ?_;have bn:=RL.nil (ρ:=rpP (tPl (4*m+12) (m+n+12)) (rpP tII fD)) (h:=h4);refine zLQ (A:=[_,_]) (ρ:=rpI) au.up ?_;intro h5 ia bf;refine gcL (ι:=Nat×List Fc×Value×List Value×Value×List Value×Mem) (fun(f,O,I,aa,C,Z,mb)=>(MLe h5 mb∧((rpS rpI).Is mb I (ixZ s)∧(rpP (tLs (k+1)) (rpP rpV (rpS (rpP rpI (rpP rpI (rpQ (j+1))))))).R mb aa (PS,(C,s.2.2))∧RL (tFc (4*m+12) (m+n+12)) mb Z O∧C.oneCell'=true∧f≤s.2.1.length∧O=u4 s f),[(1,vP b1 0),(2,vP b2 0),(4,I),(5,vP b5 0),(7,vI ↑f)],[.gs 83 14 C O.length Z,.var b5 50 aa,.var b2 50 cn,.var b1 50 co],mb,s.2.1.length-f)) (0,[],D,M,(.slice none 0 0),[],h5) ?_ ?_
 · exact⟨mle,(Rp.Is.cast bf (by rw[hI,ei];rfl)),br.up,bn.up,rfl,by omega,rfl⟩
 rintro⟨f,O,I,aa,C,Z,mb⟩ ⟨fv,ae,G,T,cc,fi,hF⟩
 refine yU ?_;have ih:O.length=f:=by rw[hF];exact zK0 s f
 have dh:=zRF hcd3 f fi;refine go5 ?_;refine lX (xB tM (Pc.snd (Pc.fst pH)) ai) fun gn hk=>(gc4 (fun de=>?_) fun de=>?_)
 ·
  refine go6 ?_;refine lX (xB kF pH ai) fun gm en=>(go2 ?_);refine cL (ev3 rfl rfl rfl) call128 (fun w hs=>zCT (f:=f) hs en ae oM oM oM (by first|omega|exact hcd3|exact aq f oM|exact zAO s _) (by first|omega|exact hcd3|exact aq f oM|exact zAO s _) (by first|omega|exact hcd3|exact aq f oM|exact zAO s _) (by first|omega|exact hcd3|exact aq f oM|exact zAO s _)) fun gk h6 hz em=>(nA (ρ:=(tFc 1 1)) (X:=((zT,(0:Rat)),([],([]:List Nat)))) jB (yL (yL (xY (yH dC)) (yH dC)) (yL qJ kO)) fun b8 ii ec=>?_);have bc:=(Le.p (Le.p (Le.t (Le.q (l:=4*m+11) oM)) (Le.q (l:=m+n+11) oM)) (Le.refl _)).R ec;refine zS (A:=[]) (uB sizeOf83 pH bc em) fun ck ah=>(go5 ?_);refine lX (aQ (xB tM (Pc.snd (Pc.fst pH)) G)) fun gj el=>?_;subst el;refine gv (gA mh1 underlying47 rfl) rfl (go5 ?_);refine gcL (ι:=Nat×Mem) (fun(u,mk)=>(MLe h6 mk∧(u≤O.length∧cV (zLC (nfF s (ixZ s) f) O) O.length=cV (zLC (nfF s (ixZ s) f) O) u),[(1,vP b1 0),(2,vP b2 0),(4,I),(5,vP b5 0),(7,vI ↑f),(8,vP b8 0),(9,vI ↑u)],[.var b8 83 ck,.gs 83 14 C O.length Z,.var b5 50 aa,.var b2 50 cn,.var b1 50 co],mk,u)) (O.length,h6) ?_ ?_
  · exact⟨mle,by omega,rfl⟩
  rintro⟨u,mk⟩ ⟨fu,ht,ce⟩
  refine yU ?_;refine go2 ?_;refine zK 12 _ [] [(0,.q),(1,.q),(2,.q),(3,.q),(4,.q),(5,.q),(6,.q),(7,.q),(8,.q),(9,.q),(10,.c),(11,.q)] yC nX (vJ (by kernel_rfl)) nX (fun r hr=>hr) (go3 ?_);refine gR ((0:Int)<(↑u:Int)) (fun am=>?_) (fun am=>?_)
  ·
   rw[xM am];refine oX rfl (xB fR pH ah) fun gh ek=>(go1 ?_);refine oX rfl (aQ (xB tM (Pc.snd (Pc.fst pH)) G)) fun gg ej=>?_;subst ej;refine yO rfl rfl rfl (fun h' L' hh hR=>yX rfl) rfl (go1 ?_);refine yO rfl rfl rfl (fun h' L' hh hR=>(yZ (u-1) (hR _ mh1) underlying47 sizeOf83 rfl rfl oM oM nP).cv (show _=zL 1 C (((u-1)*14+0)) from congrArg (zL 1 C) (by rfl))) rfl (aB (F:=fun v_=>(tFc (4*m+12) (m+n+12)).Is mk v_ (O.getD (u-1) zA)) rfl rfl rfl (wW fR (Pc.arr (Pc.here _) zA (u-1) oM) rfl nP rfl T.up rfl) (tT mh1) rfl ?_);intro gf eh;refine w_c rfl (rK rfl rfl (sC (ev2 rfl rfl) call129 (fun w hs=>zGF hs ek eh (by first|omega|exact Nat.le_trans (zC2 hcd3 oM) dC|exact Nat.le_trans (dh _ (by rw[hF];exact pR (by rw[←hF];omega))) dC) (by first|omega|exact Nat.le_trans (zC2 hcd3 oM) dC|exact Nat.le_trans (dh _ (by rw[hF];exact pR (by rw[←hF];omega))) dC)) fun dx h7 fh eg=>?_));obtain rfl:dx=vB (lsF (nfF s (ixZ s) f) (O.getD (u-1) zA)):=eg;refine gc3 (fun ap=>?_) fun ap=>?_
   ·
    refine go9 ?_;refine gqL ((u-1),h7) ?_ ?_ (he:=⟨rfl,rfl,rfl,rfl,rfl,rfl,congrArg (fun z=>some (vI z)) oM,trivial⟩)
    · exact⟨mle,by omega,by rw[ce];exact zLU oM ap⟩
    omega
   refine go8 ?_;refine lX (aQ (xB tM (Pc.snd (Pc.fst pH)) G)) fun dw ca=>?_;subst ca;refine lX (xV (ρ:=(tFc 1 1)) (wD (ps':=[]) underlying83 jB rfl rfl (lF underlying83) trivial rfl (yL (yL (xY (yH dC)) (yH dC)) (yL qJ kO)) zY)) fun dv bz=>(zF (zW (ρ:=(tFc 1 1)) (m:=1) (xs:=[((zT,(0:Rat)),([],([]:List Nat)))]) (ps':=[(0,_)]) underlying47 jB rfl rfl rfl (yL (yL (xY (yH dC)) (yH dC)) (yL qJ kO)) e2z (zI rfl (Pc.arr (Pc.here _) zA 0 dC) bz zY) (show 1*14≤16777216 from by decide) nP) rfl rfl rfl ?_)
   rintro du ff ⟨dk,rfl,aw⟩
   refine yJ (A:=[]) (ρ:=(tFc 1 1)) aw ?_;intro h8 hy be;refine xT (A:=[_]) (jN (yF (ρ:=(tFc (4*m+12) (m+n+12))) (bytes:=264) underlying47 jB rfl rfl rfl rfl nP rfl rfl T.up (be.le (Le.s (Le.p (Le.p (Le.t (Le.q (l:=4*m+12) oM)) (Le.q (l:=m+n+12) oM)) (Le.refl _)))) bO bO)) rfl rfl rfl ?_
   rintro ad fe ⟨ab,dj,rfl,av⟩
   refine go1 ?_;refine zS (A:=[_,_]) (uB sizeOf47 (Pc.snd (Pc.fst pH)) G (zDD ab)) fun cj Y=>(go3 ?_);refine bR (A:=[_]) (by rw[lAz];exact Nat.succ_pos _) (fun ob fp aj ak=>?_);refine jJ (A:=[_]) 10 [] [(0,.q),(1,.q),(2,.q),(3,.q),(4,.q),(5,.q),(6,.q),(7,.q),(8,.q),(9,.c)] yC nX (by kernel_rfl) nX (go1 ?_);refine wX rfl (aQ (xB tM (Pc.snd (Pc.fst pH)) Y)) fun dt bx=>?_;subst bx;refine go2 ?_;refine xK rfl (fun _ _=>qF (u+1) underlying47 sizeOf83 rfl rfl ⟨_,_,aj,ak⟩ oM (by simp only[lAz,lC,lN];omega)) rfl (go1 ?_);refine wX rfl (aQ (xB tM (Pc.snd (Pc.fst pH)) Y)) fun dr bw=>?_;subst bw;refine go1 ?_;refine xK rfl (fun _ _=>qF u underlying47 sizeOf83 rfl rfl ⟨_,_,aj,ak⟩ oM (by simp only[lAz,lC,lN];omega)) rfl ?_;refine w_c rfl (sR (A:=[_]) (fun X=>aZ (ρ:=(tFc (4*m+12) (m+n+12))) u aj ak underlying47 sizeOf83 rfl rfl (by simp only[lAz,lC,lN];omega) av) rfl (wN (by first|(simp;done)|grind)) ?_)
   rintro dq fd ⟨fo,rfl,bm⟩
   refine go4 ?_;refine lX (aQ (xB tM (Pc.snd (Pc.fst pH)) Y)) fun dp bv=>?_;subst bv;refine go1 ?_;refine lX (xB fR pH ah) fun dn bu=>(gv ((yZ u mh1 underlying47 sizeOf83 rfl rfl oM (by rw[kZ (by simp only[lAz,lC,lN];omega)];simp only[lAz,lC,lN];omega) nP).cv (show _=zL 1 ad ((u*14+0)) from congrArg (zL 1 ad) (by rfl))) rfl (gD (A:=[_]) (F:=fun c_=>RL (tFc (4*m+12) (m+n+12)) h8 c_ ((fT (O++[((zT,(0:Rat)),([],([]:List Nat)))]) u).set u (nfF s (ixZ s) f))) (rQ sizeOf83 (Pc.arr (Pc.here _) zA u (by rw[kZ (by simp only[lAz,lC,lN];omega)];simp only[lAz,lC,lN];omega)) rfl nP rfl rfl bm (bu.le (Le.p (Le.p (Le.t (Le.q (l:=4*m+12) oM)) (Le.q (l:=m+n+12) oM)) (Le.refl _))) rfl) ?_));intro ci bl;refine go8 ?_;refine vT (A:=[]) ?_;refine gqL ((f+1),((fT (O++[((zT,(0:Rat)),([],([]:List Nat)))]) u).set u (nfF s (ixZ s) f)),I,cj,ad,ci,h8) ?_ ?_
   · exact⟨mle,ae.up,Y,bl,ab,by omega,by rw[aW oM];have cd:cV (zLC (nfF s (ixZ s) f) O) O.length=u:=by{rw[ce];exact zDP (fun e=>by first|omega|exact ap e.2)};rw[←cd,hF];rfl⟩
   omega
  rw[yV am];refine go7 ?_;refine w_c rfl (y7 rfl rfl rfl rfl (qO ?_));refine lX (aQ (xB tM (Pc.snd (Pc.fst pH)) G)) fun dw ca=>?_;subst ca;refine lX (xV (ρ:=(tFc 1 1)) (wD (ps':=[]) underlying83 jB rfl rfl (lF underlying83) trivial rfl (yL (yL (xY (yH dC)) (yH dC)) (yL qJ kO)) zY)) fun dv bz=>(zF (zW (ρ:=(tFc 1 1)) (m:=1) (xs:=[((zT,(0:Rat)),([],([]:List Nat)))]) (ps':=[(0,_)]) underlying47 jB rfl rfl rfl (yL (yL (xY (yH dC)) (yH dC)) (yL qJ kO)) e2z (zI rfl (Pc.arr (Pc.here _) zA 0 dC) bz zY) (show 1*14≤16777216 from by decide) nP) rfl rfl rfl ?_)
  rintro du ff ⟨dk,rfl,aw⟩
  refine yJ (A:=[]) (ρ:=(tFc 1 1)) aw ?_;intro h7 fh bd;refine xT (A:=[_]) (jN (yF (ρ:=(tFc (4*m+12) (m+n+12))) (bytes:=264) underlying47 jB rfl rfl rfl rfl nP rfl rfl T.up (bd.le (Le.s (Le.p (Le.p (Le.t (Le.q (l:=4*m+12) oM)) (Le.q (l:=m+n+12) oM)) (Le.refl _)))) bO bO)) rfl rfl rfl ?_
  rintro ad fe ⟨ab,dj,rfl,av⟩
  refine go1 ?_;refine zS (A:=[_,_]) (uB sizeOf47 (Pc.snd (Pc.fst pH)) G (zDD ab)) fun ch U=>(go3 ?_);refine bR (A:=[_]) (by rw[lAz];exact Nat.succ_pos _) (fun ob fp aj ak=>?_);refine jJ (A:=[_]) 10 [] [(0,.q),(1,.q),(2,.q),(3,.q),(4,.q),(5,.q),(6,.q),(7,.q),(8,.q),(9,.c)] yC nX (by kernel_rfl) nX (go1 ?_);refine wX rfl (aQ (xB tM (Pc.snd (Pc.fst pH)) U)) fun dt bx=>?_;subst bx;refine go2 ?_;refine xK rfl (fun _ _=>qF (u+1) underlying47 sizeOf83 rfl rfl ⟨_,_,aj,ak⟩ oM (by simp only[lAz,lC,lN];omega)) rfl (go1 ?_);refine wX rfl (aQ (xB tM (Pc.snd (Pc.fst pH)) U)) fun dr bw=>?_;subst bw;refine go1 ?_;refine xK rfl (fun _ _=>qF u underlying47 sizeOf83 rfl rfl ⟨_,_,aj,ak⟩ oM (by simp only[lAz,lC,lN];omega)) rfl ?_;refine w_c rfl (sR (A:=[_]) (fun X=>aZ (ρ:=(tFc (4*m+12) (m+n+12))) u aj ak underlying47 sizeOf83 rfl rfl (by simp only[lAz,lC,lN];omega) av) rfl (wN (by first|(simp;done)|grind)) ?_)
  rintro dq fd ⟨fm,rfl,bk⟩
  refine go4 ?_;refine lX (aQ (xB tM (Pc.snd (Pc.fst pH)) U)) fun dp bv=>?_;subst bv;refine go1 ?_;refine lX (xB fR pH ah) fun dn bu=>(gv ((yZ u mh1 underlying47 sizeOf83 rfl rfl oM (by rw[kZ (by simp only[lAz,lC,lN];omega)];simp only[lAz,lC,lN];omega) nP).cv (show _=zL 1 ad ((u*14+0)) from congrArg (zL 1 ad) (by rfl))) rfl (gD (A:=[_]) (F:=fun c_=>RL (tFc (4*m+12) (m+n+12)) h7 c_ ((fT (O++[((zT,(0:Rat)),([],([]:List Nat)))]) u).set u (nfF s (ixZ s) f))) (rQ sizeOf83 (Pc.arr (Pc.here _) zA u (by rw[kZ (by simp only[lAz,lC,lN];omega)];simp only[lAz,lC,lN];omega)) rfl nP rfl rfl bk (bu.le (Le.p (Le.p (Le.t (Le.q (l:=4*m+12) oM)) (Le.q (l:=m+n+12) oM)) (Le.refl _))) rfl) ?_));intro cg bj;refine go8 ?_;refine vT (A:=[]) ?_;refine gqL ((f+1),((fT (O++[((zT,(0:Rat)),([],([]:List Nat)))]) u).set u (nfF s (ixZ s) f)),I,ch,ad,cg,h7) ?_ ?_
  · exact⟨mle,ae.up,U,bj,ab,by omega,by rw[aW oM];have cd:cV (zLC (nfF s (ixZ s) f) O) O.length=u:=by{rw[ce];exact zDP (fun e=>by first|omega|exact ap e.2)};rw[←cd,hF];rfl⟩
  omega
 have ef:f=s.2.1.length:=by omega
 refine go7 ?_;refine lX (xB kF pH G) fun ge ee=>?_;have bb:=(Le.p (Le.s (Le.t (Le.q (l:=k+1) oM))) (Le.p (Le.refl _) (Le.s (Le.p (Le.refl _) (Le.p (Le.refl _) (Le.q (l:=j+1) oM)))))).R dd;refine zS (A:=[_,_]) (uB sizeOf50 pH bb ee) fun fl bq=>(go3 ?_);have fk:O=nrF s:=by rw[hF,ef];exact(if_pos az).symm
 have fj:PS=nrP s:=by rw[hP,ei];exact(if_pos az).symm
 subst fk;subst fj;refine wM (kA (t:=2) kF mh2 rfl bq) ?_;intro fq ay bi;refine gX (.cons_cons _ (List.nil_sublist _)) (fun E S=>zQ rfl ay E S) ?_;exact⟨_,_,(Rp.Is.cast bi (by rw[show nrE s=s.2.2 from if_pos az])),rfl,cc,T.up⟩
end Go.Proofs.YtboaboflnckgoaaGreat
namespace Bk
set_option linter.unusedVariables false
set_option linter.unusedSimpArgs false
open Classical
def zJS(p q:Pt):Prop:=p.x=q.x∧p.y=q.y
noncomputable def j6(B:List Pt)(p:Pt):Nat→Int
  |0=>-1
  |j+1=>if zJS (B.getD j zT) p then(j:Int) else j6 B p j
theorem zDJ(B:List Pt)(p:Pt):∀j,-1≤j6 B p j∧j6 B p j<j∨(j=0∧j6 B p j= -1)
  |0=>.inr ⟨rfl,rfl⟩
  |j+1=>by
   have h:=zDJ B p j;unfold j6
   split
   · exact .inl (by omega)
   · exact .inl (by omega)
theorem fd_t{B:List Pt}{p:Pt}{j:Nat}(h:zJS (B.getD j zT) p):(j:Int)=j6 B p (j+1):=(if_pos h).symm
theorem zZM{B:List Pt}{p:Pt}{j:Nat}(h:¬zJS (B.getD j zT) p):j6 B p j=j6 B p (j+1):=(if_neg h).symm
noncomputable def fdZ(B:List Pt)(p:Pt):Int:=j6 B p B.length
noncomputable def adB(B:List Pt)(p:Pt):List Pt:=if fdZ B p<0 then B++[p] else B
noncomputable def adN(B:List Pt)(p:Pt):Int:=if fdZ B p<0 then(B.length:Int) else fdZ B p
noncomputable def plB(B:List Pt)(x:List Pt):Nat→List Pt
  |0=>B
  |k+1=>adB (plB B x k) (x.getD k zT)
noncomputable def plN(B:List Pt)(x:List Pt):Nat→List Int:=uU fun k=>adN (plB B x k) (x.getD k zT)
noncomputable def ptB(L:List (List Pt)):Nat→List Pt
  |0=>[]
  |i+1=>plB (ptB L i) (L.getD i []) (L.getD i []).length
noncomputable def ptN(L:List (List Pt)):Nat→List (List Int):=uU fun i=>plN (ptB L i) (L.getD i []) (L.getD i []).length
def k8(L:List (List Pt)):Nat→Nat
  |0=>0
  |i+1=>k8 L i+(L.getD i []).length
theorem zV2(B:List Pt)(p:Pt):(adB B p).length≤B.length+1:=by
 unfold adB;split
 · rw[lAz,List.length_singleton];exact Nat.le_refl _
 · omega
theorem zF1(B x:List Pt):∀k,(plB B x k).length≤B.length+k
  |0=>Nat.le_refl _
  |k+1=>by
   have h1:=zF1 B x k;have h2:=zV2 (plB B x k) (x.getD k zT)
   show(adB _ _).length≤_
   omega
theorem zMA(L:List (List Pt)):∀i,(ptB L i).length≤k8 L i
  |0=>Nat.le_refl _
  |i+1=>by
   have h1:=zMA L i;have h2:=zF1 (ptB L i) (L.getD i []) (L.getD i []).length
   show(plB _ _ _).length≤k8 L i+_
   omega
theorem zWQ{L:List (List Pt)}(h:∀m,m<L.length→(L.getD m []).length≤64):∀i,i≤L.length→k8 L i≤64*i
  |0,_=>Nat.le_refl _
  |i+1,hi=>by
   have h1:=zWQ h i (by omega);have h2:=h i (by omega)
   show k8 L i+_≤_
   omega
theorem zUZ{L:List (List Pt)}(h:vQ L 0 1=0):L.length≤16∧∀m,m<L.length→(L.getD m []).length≤64:=by
 unfold vQ at h
 split at h
 · omega
 · rename_i h1
   exact⟨Nat.not_lt.1 fun e=>h1 (.inl e),fun m u=>Nat.not_lt.1 fun e=>h1 (.inr ⟨m,u,e⟩)⟩
section
variable (L:List (List Pt))(lo hi:Rat)
noncomputable def bsZ:List Pt:=ptB L L.length
noncomputable def bxZ:List (List Int):=ptN L L.length
noncomputable def zQS:Nat→List Pt:=uU fun i=>T3.mk ((bsZ L).getD (i%(bsZ L).length) zT).x ((bsZ L).getD (i%(bsZ L).length) zT).y (if((bsZ L).length:Int)≤(i:Int) then hi else lo)
noncomputable def ppZ:List Pt:=zQS L lo hi (2*(bsZ L).length)
noncomputable def zZ0:Nat→List (List Int):=uU fun i=>zJ2 ((bxZ L).getD i []) ((bxZ L).getD i []).length
noncomputable def tpL(i:Nat):Nat→List Int:=uU fun k=>((bxZ L).getD i []).getD k 0+((bsZ L).length:Int)
noncomputable def zXH:Nat→List (List Int):=uU fun i=>tpL L i ((bxZ L).getD i []).length
noncomputable def nmS(i k:Nat):List Nat:=[115]++jF (((i:Int):Int):Rat)++[46]++jF (((k:Int):Int):Rat)
noncomputable def sdA(i k:Nat):Int:=((bxZ L).getD i []).getD k 0
noncomputable def sdB(i k:Nat):Int:=((bxZ L).getD i []).getD ((k+1)%((bxZ L).getD i []).length) 0
noncomputable def sdN(i k:Nat):Pt:=T3.mk (((ppZ L lo hi).getD (sdB L i k).toNat zT).y-((ppZ L lo hi).getD (sdA L i k).toNat zT).y) (-(((ppZ L lo hi).getD (sdB L i k).toNat zT).x-((ppZ L lo hi).getD (sdA L i k).toNat zT).x)) (0:Rat)
noncomputable def sdF(i k:Nat):Fc:=((sdN L lo hi i k,jH (sdN L lo hi i k) ((ppZ L lo hi).getD (sdA L i k).toNat zT)),[[sdA L i k,sdB L i k,sdB L i k+((bsZ L).length:Int),sdA L i k+((bsZ L).length:Int)]],nmS i k)
noncomputable def sfX(i:Nat):Nat→List Fc:=uU fun k=>sdF L lo hi i k
noncomputable def zNU:Nat→List Fc:=cE fun i=>sfX L lo hi i ((bxZ L).getD i []).length
noncomputable def btF:Fc:=((T3.mk (0:Rat) (0:Rat) (-((1:Int):Rat)),-lo),zZ0 L (bxZ L).length,[98,111,116,116,111,109])
noncomputable def tpF:Fc:=((T3.mk (0:Rat) (0:Rat) ((1:Int):Rat),hi),zXH L (bxZ L).length,[116,111,112])
noncomputable def prR:Sd:=(ppZ L lo hi,zNU L lo hi (bxZ L).length++[btF L lo,tpF L hi],[])
def prB:Prop:=512<2*(bsZ L).length∨256<k8 L L.length+2
noncomputable def prE:Int:=if ¬vQ L 0 1=0 then vQ L 0 1 else if ¬ouZ L=1 then 33 else if 0≤wH lo hi then 9 else if prB L then 2 else 0
noncomputable def prP:List Pt:=if prE L lo hi=0 then nrP (prR L lo hi) else[]
noncomputable def prF:List Fc:=if prE L lo hi=0 then nrF (prR L lo hi) else[]
end
section
variable {L:List (List Pt)}{lo hi:Rat}
theorem pr_0(h1:vQ L 0 1=0)(h2:ouZ L=1)(h3:¬0≤wH lo hi)(h4:¬prB L):prE L lo hi=0∧prP L lo hi=nrP (prR L lo hi)∧prF L lo hi=nrF (prR L lo hi):=by
 have e:prE L lo hi=0:=by unfold prE;rw[if_neg (fun e=>e h1),if_neg (fun e=>e h2),if_neg h3,if_neg h4]
 exact⟨e,if_pos e,if_pos e⟩
theorem zMB{n:Int}(h:prE L lo hi=n)(hn:¬n=0):prE L lo hi=n∧prP L lo hi=[]∧prF L lo hi=[]:=⟨h,if_neg (by rw[h];exact hn),if_neg (by rw[h];exact hn)⟩
theorem pr_1(h1:¬vQ L 0 1=0):prE L lo hi=vQ L 0 1∧prP L lo hi=[]∧prF L lo hi=[]:=zMB (if_pos h1) h1
theorem yA2(h1:vQ L 0 1=0)(h2:¬ouZ L=1):prE L lo hi=33∧prP L lo hi=[]∧prF L lo hi=[]:=zMB (by unfold prE;rw[if_neg (fun e=>e h1),if_pos h2]) (by decide)
theorem pr_9(h1:vQ L 0 1=0)(h2:ouZ L=1)(h3:0≤wH lo hi):prE L lo hi=9∧prP L lo hi=[]∧prF L lo hi=[]:=zMB (by unfold prE;rw[if_neg (fun e=>e h1),if_neg (fun e=>e h2),if_pos h3]) (by decide)
theorem pr_2(h1:vQ L 0 1=0)(h2:ouZ L=1)(h3:¬0≤wH lo hi)(h4:prB L):prE L lo hi=2∧prP L lo hi=[]∧prF L lo hi=[]:=zMB (by unfold prE;rw[if_neg (fun e=>e h1),if_neg (fun e=>e h2),if_neg h3,if_pos h4]) (by decide)
theorem zPB(B:List Pt)(p:Pt):0≤adN B p∧adN B p<(adB B p).length:=by
 have h:=zDJ B p B.length;unfold adN adB fdZ
 split
 · rw[lAz,List.length_singleton];omega
 · omega
theorem zZ8(B:List Pt)(p:Pt):B.length≤(adB B p).length:=by
 unfold adB;split
 · rw[lAz];omega
 · omega
theorem zQV(B x:List Pt){k n:Nat}(h:k≤n):(plB B x k).length≤(plB B x n).length:=by
 induction n with
 |zero=>rw[show k=0 by omega];exact Nat.le_refl _
 |succ n ih=>
  rcases Nat.lt_or_ge k (n+1) with h1|h1
  · exact Nat.le_trans (ih (by omega)) (zZ8 _ _)
  · rw[show k=n+1 by omega];exact Nat.le_refl _
theorem zYA{i n:Nat}(h:i≤n):(ptB L i).length≤(ptB L n).length:=by
 induction n with
 |zero=>rw[show i=0 by omega];exact Nat.le_refl _
 |succ n ih=>
  rcases Nat.lt_or_ge i (n+1) with h1|h1
  · exact Nat.le_trans (ih (by omega)) (zQV (ptB L n) (L.getD n []) (k:=0) (Nat.zero_le _))
  · rw[show i=n+1 by omega];exact Nat.le_refl _
theorem zZZ:(bxZ L).length=L.length:=wK _ _
theorem zSY{i:Nat}(h:i<L.length):(bxZ L).getD i []=plN (ptB L i) (L.getD i []) (L.getD i []).length:=rC _ _ h
theorem zG0{i:Nat}(h:i<L.length):((bxZ L).getD i []).length=(L.getD i []).length:=by rw[zSY h];exact wK _ _
theorem zSX{i k:Nat}(h:i<L.length)(hk:k<((bxZ L).getD i []).length):0≤((bxZ L).getD i []).getD k 0∧((bxZ L).getD i []).getD k 0<↑(bsZ L).length:=by
 rw[zG0 h] at hk;rw[zSY h];unfold plN;rw[rC _ _ hk];obtain⟨u,I⟩:=zPB (plB (ptB L i) (L.getD i []) k) ((L.getD i []).getD k zT);have H:=zQV (ptB L i) (L.getD i []) (show k+1≤(L.getD i []).length from hk);have G:=zYA (L:=L) (show i+1≤L.length from h);have D:(plB (ptB L i) (L.getD i []) (k+1)).length=(adB (plB (ptB L i) (L.getD i []) k) ((L.getD i []).getD k zT)).length:=rfl;have C:(ptB L (i+1)).length=(plB (ptB L i) (L.getD i []) (L.getD i []).length).length:=rfl;have z:(bsZ L).length=(ptB L L.length).length:=rfl;exact⟨u,by omega⟩
theorem zYB:(ppZ L lo hi).length=2*(bsZ L).length:=wK _ _
theorem zP3{n:Nat}(hn:n≤L.length):(zNU L lo hi n).length=k8 L n:=by
 induction n with
 |zero=>rfl
 |succ n ih=>
  show List.length (zNU L lo hi n++sfX L lo hi n ((bxZ L).getD n []).length)=k8 L n+_
  rw[lAz,ih (by omega),show(sfX L lo hi n ((bxZ L).getD n []).length).length=_ from wK _ _,zG0 (by omega)]
end
end Bk
