/- Texts that the proof needs, part 5. -/
import Derived.Test.YtboaboflnckgoaaGreatKB4
namespace Bk
set_option linter.unusedVariables false
set_option linter.unusedSimpArgs false
open Classical
abbrev Tri:=T3 Pt
def pnA(s:Sd)(i:Int):Pt:=s.1.getD i.toNat zT
def inR(s:Sd)(i:Int):Prop:=0≤i∧i<s.1.length
def cnT(s:Sd)(l:List Int):Tri:=T3.mk (pnA s (l.getD 0 0)) (pnA s (l.getD 1 0)) (pnA s (l.getD 2 0))
def yBQ(s:Sd)(l:List Int):Nat→Tri
  |0=>T3.mk zT zT zT
  |i+1=>(yBQ s l i).set i (pnA s (l.getD i 0))
def fanT(s:Sd)(l:List Int)(q:Nat):Tri:=T3.mk (pnA s (l.getD 0 0)) (pnA s (l.getD (q+1) 0)) (pnA s (l.getD (q+2) 0))
def zIY(s:Sd)(l:List Int):Nat→List Tri:=uW (fanT s l)
def jL(s:Sd)(ls:List (List Int)):Nat→List Tri:=cE fun i=>zIY s (ls.getD i []) ((ls.getD i []).length-2)
theorem zSF{s:Sd}{l:List Int}{kq:Nat}(h:2≤kq):zIY s l (kq-2)++[cnT s [l.getD 0 0,l.getD (kq-1) 0,l.getD kq 0]]=zIY s l (kq+1-2):=by
  obtain⟨q,rfl⟩:∃q,kq=q+2:=⟨kq-2,by omega⟩
  rw[show q+2+1-2=q+1 by omega,Nat.add_sub_cancel,show q+2-1=q+1 by omega]
  rfl
theorem zSG{s:Sd}{ls:List (List Int)}{i kq:Nat}(h:kq-2=(ls.getD i []).length-2):jL s ls i++zIY s (ls.getD i []) (kq-2)=jL s ls (i+1):=by
  rw[h];rfl
theorem zM0{s:Sd}{ls:List (List Int)}(h:∀u,u<ls.length→(ls.getD u []).length≤1000):∀i,i≤ls.length→(jL s ls i).length≤1000*i
  |0,_=>Nat.zero_le _
  |i+1,hi=>by
   have h1:=zM0 (s:=s) h i (by omega)
   have h2:=h i (by omega)
   have h3:(zIY s (ls.getD i []) ((ls.getD i []).length-2)).length=(ls.getD i []).length-2:=wJ _ _
   show(jL s ls i++zIY s (ls.getD i []) ((ls.getD i []).length-2)).length≤_
   rw[lAz]
   omega
theorem rR{α:Type}{l:List α}{i:Nat}(d:α)(h:i<l.length):l.take i++[l.getD i d]=l.take (i+1):=by
  rw[List.getD_eq_getElem?_getD,List.getElem?_eq_getElem h,List.take_succ_eq_append_getElem h];rfl
def fQ(s:Sd)(F:List Fc):Nat→List Tri:=cE fun f=>jL s (F.getD f zA).2.1 (F.getD f zA).2.1.length
def smT(t:Tri):Pt:=wD (wD t.x t.y) t.z
def scT(q:Rat)(p:Pt):Pt:=T3.mk (q*p.x) (q*p.y) (q*p.z)
def iP(l:List Tri):Rat:=l.foldl (fun a t=>a+aB t.x t.y t.z) 0
def zFT(l:List Tri):Pt:=l.foldl (fun a t=>wD a (scT (aB t.x t.y t.z) (smT t))) zT
def dY(l:List Tri):Pt:=l.foldl (fun a t=>wD a (sO (s6 t.y t.x) (s6 t.z t.x))) zT
theorem zEH(l:List Tri)(t:Tri):iP l+aB t.x t.y t.z=iP (l++[t]):=by unfold iP;rw[List.foldl_append];rfl
theorem zNN(l:List Tri)(t:Tri):wD (zFT l) (scT (aB t.x t.y t.z) (smT t))=zFT (l++[t]):=by unfold zFT;rw[List.foldl_append];rfl
theorem zNM(l:List Tri)(t:Tri):wD (dY l) (sO (s6 t.y t.x) (s6 t.z t.x))=dY (l++[t]):=by unfold dY;rw[List.foldl_append];rfl
def dS(s:Sd):Rat:=iP (fQ s s.2.1 s.2.1.length)
def zZT(s:Sd):Pt:=zFT (fQ s s.2.1 s.2.1.length)
def arV(s:Sd)(f:Fc):Pt:=scT (1/2) (dY (jL s f.2.1 f.2.1.length))
def lqP(k:Nat)(p:Pt):Prop:=lq p.x≤k∧lq p.y≤k∧lq p.z≤k
theorem zIK{k:Nat}(h:1≤k):lqP k zT:=by
  have:=tK
  exact⟨by show lq 0≤k;omega,by show lq 0≤k;omega,by show lq 0≤k;omega⟩
theorem q8{a b:Pt}{k l:Nat}(ha:lqP k a)(hb:lqP l b):lqP (k+l+1) (wD a b):=by
  obtain⟨a1,a2,a3⟩:=ha;obtain⟨b1,b2,b3⟩:=hb
  have h1:=qZ a.x b.x;have h2:=qZ a.y b.y;have h3:=qZ a.z b.z
  exact⟨by show lq (a.x+b.x)≤_;omega,by show lq (a.y+b.y)≤_;omega,by show lq (a.z+b.z)≤_;omega⟩
theorem zMS{a b:Pt}{k l:Nat}(ha:lqP k a)(hb:lqP l b):lqP (k+l+1) (s6 a b):=by
  obtain⟨a1,a2,a3⟩:=ha;obtain⟨b1,b2,b3⟩:=hb
  have h1:=zAN a.x b.x;have h2:=zAN a.y b.y;have h3:=zAN a.z b.z
  exact⟨by show lq (a.x-b.x)≤_;omega,by show lq (a.y-b.y)≤_;omega,by show lq (a.z-b.z)≤_;omega⟩
theorem zOQ{q:Rat}{b:Pt}{k l:Nat}(ha:lq q≤k)(hb:lqP l b):lqP (k+l) (scT q b):=by
  obtain⟨b1,b2,b3⟩:=hb
  have h1:=fZ q b.x;have h2:=fZ q b.y;have h3:=fZ q b.z
  exact⟨by show lq (q*b.x)≤_;omega,by show lq (q*b.y)≤_;omega,by show lq (q*b.z)≤_;omega⟩
theorem zE7{a b:Pt}{k l:Nat}(ha:lqP k a)(hb:lqP l b):lqP (2*k+2*l+1) (sO a b):=by
  obtain⟨a1,a2,a3⟩:=ha;obtain⟨b1,b2,b3⟩:=hb
  have m:∀x y z w:Rat,lq x≤k→lq y≤l→lq z≤k→lq w≤l→lq (x*y-z*w)≤2*k+2*l+1:=fun x y z w h1 h2 h3 h4=>by
    have:=zAN (x*y) (z*w);have:=fZ x y;have:=fZ z w;omega
  exact⟨m _ _ _ _ a2 b3 a3 b2,m _ _ _ _ a3 b1 a1 b3,m _ _ _ _ a1 b2 a2 b1⟩
theorem zVA{a b:Pt}{k l:Nat}(ha:lqP k a)(hb:lqP l b):lq (jG a b)≤3*k+3*l+2:=by
  obtain⟨a1,a2,a3⟩:=ha;obtain⟨b1,b2,b3⟩:=hb
  have h1:=fZ a.x b.x;have h2:=fZ a.y b.y;have h3:=fZ a.z b.z
  have h4:=qZ (a.x*b.x) (a.y*b.y);have h5:=qZ (a.x*b.x+a.y*b.y) (a.z*b.z)
  unfold jG;omega
theorem zGK{a b c:Pt}{k:Nat}(ha:lqP k a)(hb:lqP k b)(hc:lqP k c):lq (aB a b c)≤15*k+5:=by
  have:=zVA ha (zE7 hb hc)
  unfold aB;omega
def lqT(k:Nat)(t:Tri):Prop:=lqP k t.x∧lqP k t.y∧lqP k t.z
theorem zMN{k:Nat}:∀(l:List Tri) (a:Rat),(∀t,t∈l→lqT k t)→lq (l.foldl (fun a t=>a+aB t.x t.y t.z) a)≤lq a+l.length*(15*k+6)
  |[],a,_=>by simp
  |t::l,a,h=>by
   obtain⟨h1,h2,h3⟩:=h t (.head _)
   have hd:=zGK h1 h2 h3
   have ha:=qZ a (aB t.x t.y t.z)
   have ih:=zMN l (a+aB t.x t.y t.z) (fun u hu=>h u (.tail _ hu))
   rw[List.foldl_cons,lC,Nat.succ_mul]
   omega
theorem zLE{k:Nat}{t:Tri}(h:lqT k t):lqP (3*k+2) (smT t):=by
  have:=q8 (q8 h.1 h.2.1) h.2.2
  rw[show k+k+1+k+1=3*k+2 by omega] at this
  exact this
theorem oW{k l:Nat}{p:Pt}(h:lqP k p)(hkl:k≤l):lqP l p:=⟨Nat.le_trans h.1 hkl,Nat.le_trans h.2.1 hkl,Nat.le_trans h.2.2 hkl⟩
theorem zMO{k:Nat}:∀(l:List Tri) (a:Pt) (m:Nat),lqP m a→(∀t,t∈l→lqT k t)→lqP (m+l.length*(18*k+8)) (l.foldl (fun a t=>wD a (scT (aB t.x t.y t.z) (smT t))) a)
  |[],a,m,ha,_=>by simpa using ha
  |t::l,a,m,ha,h=>by
   have ht:=h t (.head _)
   have hd:=zGK ht.1 ht.2.1 ht.2.2
   have hs:=zOQ hd (zLE ht)
   have ih:=zMO l _ _ (q8 ha hs) (fun u hu=>h u (.tail _ hu))
   rw[List.foldl_cons,lC,Nat.succ_mul]
   exact oW ih (by omega)
theorem zMM{k:Nat}:∀(l:List Tri) (a:Pt) (m:Nat),lqP m a→(∀t,t∈l→lqT k t)→lqP (m+l.length*(8*k+6)) (l.foldl (fun a t=>wD a (sO (s6 t.y t.x) (s6 t.z t.x))) a)
  |[],a,m,ha,_=>by simpa using ha
  |t::l,a,m,ha,h=>by
   have ht:=h t (.head _)
   have hs:=zE7 (zMS ht.2.1 ht.1) (zMS ht.2.2 ht.1)
   have ih:=zMM l _ _ (q8 ha hs) (fun u hu=>h u (.tail _ hu))
   rw[List.foldl_cons,lC,Nat.succ_mul]
   exact oW ih (by omega)
theorem zL3{β:Type}{h:Mem}{v:Go.Value}{k:Nat}{σ:Rp β}{x:List Pt×β}(r:(rpP (rpS (rpT (rpQ k))) σ).Is h v x):∀i,i<x.1.length→lqP k (x.1.getD i zT):=by
  obtain⟨cs,⟨a,b,rfl,⟨v',ds,rfl,h1,rl⟩,_⟩,_⟩:=r
  intro i hi
  have:=rl.get (List.getElem?_eq_getElem hi)
  obtain⟨_,_,_,⟨_,hx⟩,_,_,_,⟨_,hy⟩,⟨_,hz⟩⟩:=this
  rw[List.getD_eq_getElem?_getD,List.getElem?_eq_getElem hi]
  exact⟨hx,hy,hz⟩
theorem zX4{h:Mem}{cs:List Go.Value}{a b:Pt}{k l:Nat}(r:(rpT (rpQ k)).R h cs a)(e:a=b)(hl:lqP l b):(rpT (rpQ l)).R h cs b:=by
  subst e
  obtain⟨x,_,rfl,⟨q1,_⟩,y,z,rfl,⟨q2,_⟩,⟨q3,_⟩⟩:=r
  exact⟨x,_,rfl,⟨q1,hl.1⟩,y,z,rfl,⟨q2,hl.2.1⟩,⟨q3,hl.2.2⟩⟩
def zZL(s:Sd)(f:Fc):Prop:=(∀u v,u<f.2.1.length→v<(f.2.1.getD u []).length→inR s ((f.2.1.getD u []).getD v 0))∧(∀u,u<f.2.1.length→(f.2.1.getD u []).length≤1000)∧f.2.1.length≤1000
def zGT(s:Sd)(F:List Fc):Prop:=(∀i,i<F.length→zZL s (F.getD i zA))∧F.length≤1000∧(fQ s F F.length).length≤1000
theorem zDJ{s:Sd}{k:Nat}(hp:∀i,i<s.1.length→lqP k (s.1.getD i zT)){f:Fc}(hf:zZL s f):∀t,t∈jL s f.2.1 f.2.1.length→lqT k t:=by
  intro t ht
  obtain⟨u,hu,h1⟩:=nE ht
  obtain⟨q,hq,rfl⟩:=zBX h1
  have g:∀v,v<(f.2.1.getD u []).length→lqP k (pnA s ((f.2.1.getD u []).getD v 0)):=fun v hv=>by
    obtain⟨h1,h2⟩:=hf.1 u v hu hv
    exact hp _ (by omega)
  exact⟨g 0 (by omega),g (q+1) (by omega),g (q+2) (by omega)⟩
theorem zJD{s:Sd}{F:List Fc}{i n:Nat}(h:i≤n):(fQ s F i).length≤(fQ s F n).length:=by
  induction n with
  |zero=>rw[show i=0 by omega];exact Nat.le_refl _
  |succ n ih=>
   rcases Nat.lt_or_ge i (n+1) with h1|h1
   · refine Nat.le_trans (ih (by omega)) ?_
     show _≤(fQ s F n++_).length
     rw[lAz];omega
   · rw[show i=n+1 by omega];exact Nat.le_refl _
theorem eC{s:Sd}{F:List Fc}{k:Nat}(ho:zGT s F)(hp:∀i,i<s.1.length→lqP k (s.1.getD i zT)){i q:Nat}(hi:i<F.length):
    (fQ s F i++(jL s (F.getD i zA).2.1 (F.getD i zA).2.1.length).take q).length≤1000∧∀t,t∈fQ s F i++(jL s (F.getD i zA).2.1 (F.getD i zA).2.1.length).take q→lqT k t:=by
  have h1:=zJD (s:=s) (F:=F) (show i+1≤F.length from hi)
  have h2:(fQ s F (i+1)).length=(fQ s F i++jL s (F.getD i zA).2.1 (F.getD i zA).2.1.length).length:=rfl
  rw[lAz] at h2
  refine⟨by rw[lAz,List.length_take];have:=ho.2.2;omega,fun t ht=>?_⟩
  rcases List.mem_append.1 ht with h3|h3
  · obtain⟨u,hu,h4⟩:=nE h3
    exact zDJ hp (ho.1 u (by omega)) t h4
  · exact zDJ hp (ho.1 i hi) t (List.mem_of_mem_take h3)
theorem j9{s:Sd}{F:List Fc}(ho:zGT s F){i:Nat}(hi:i<F.length):(jL s (F.getD i zA).2.1 (F.getD i zA).2.1.length).length≤1000:=by
  have h1:=zJD (s:=s) (F:=F) (show i+1≤F.length from hi)
  have h2:(fQ s F (i+1)).length=(fQ s F i++jL s (F.getD i zA).2.1 (F.getD i zA).2.1.length).length:=rfl
  rw[lAz] at h2
  have:=ho.2.2
  omega
theorem aH{n a:Nat}(h:n≤1000):n*a≤1000*a:=Nat.mul_le_mul_right _ h
theorem yBC{l:List Tri}{k:Nat}(h:l.length≤1000∧∀t,t∈l→lqT k t):lq (iP l)≤20000*k+100000:=by
  have h1:=zMN l 0 h.2
  have h2:=aH (a:=15*k+6) h.1
  have h3:=tK
  unfold iP;omega
theorem lq_C{l:List Tri}{k:Nat}(h:l.length≤1000∧∀t,t∈l→lqT k t):lqP (20000*k+100000) (zFT l):=by
  have h1:=zMO l zT 1 (zIK (by decide)) h.2
  have h2:=aH (a:=18*k+8) h.1
  exact oW h1 (by omega)
theorem lq_V{l:List Tri}{k:Nat}(h:l.length≤1000∧∀t,t∈l→lqT k t):lqP (20000*k+100000) (dY l):=by
  have h1:=zMM l zT 1 (zIK (by decide)) h.2
  have h2:=aH (a:=8*k+6) h.1
  exact oW h1 (by omega)
noncomputable def cnS(s:Sd):Pt:=if((4:Int):Rat)*dS s=0 then zT else scT (((1:Int):Rat)/(((4:Int):Rat)*dS s)) (zZT s)
def cnO(s:Sd):Prop:=¬((4:Int):Rat)*dS s=0
noncomputable def arS(s:Sd)(d:Int):Nat→Rat×Rat
  |0=>(0,0)
  |i+1=>((arS s d i).1+cD (jG (arV s (s.2.1.getD i zA)) (arV s (s.2.1.getD i zA))) d,(arS s d i).2+cQ (jG (arV s (s.2.1.getD i zA)) (arV s (s.2.1.getD i zA))) d)
theorem yBB{a:Rat}{k:Nat}(h:lq a≤k)(n:Int):lq (cD a n)≤k+140∧lq (cQ a n)≤k+140:=by
  have h0:=tK
  unfold cD cQ
  by_cases ho:zGH a n
  · rw[if_pos ho,if_pos ho]
    exact⟨zU8 h n,zU7 h (zAJ (Classical.not_not.1 (fun e=>e ho))).2.2.1 n⟩
  · rw[if_neg ho,if_neg ho];omega
def zZ1(s:Sd):Prop:=∀i,i<s.2.1.length→lq (jG (arV s (s.2.1.getD i zA)) (arV s (s.2.1.getD i zA)))≤200
theorem zLD{s:Sd}(h:zZ1 s)(d:Int):∀i,i≤s.2.1.length→lq (arS s d i).1≤1+341*i∧lq (arS s d i).2≤1+341*i
  |0,_=>by have h0:=tK;exact⟨by show lq 0≤_;omega,by show lq 0≤_;omega⟩
  |i+1,hi=>by
   obtain⟨h1,h2⟩:=zLD h d i (by omega)
   obtain⟨h3,h4⟩:=yBB (h i (by omega)) d
   have h5:=qZ (arS s d i).1 (cD (jG (arV s (s.2.1.getD i zA)) (arV s (s.2.1.getD i zA))) d)
   have h6:=qZ (arS s d i).2 (cQ (jG (arV s (s.2.1.getD i zA)) (arV s (s.2.1.getD i zA))) d)
   exact⟨by show lq (_+_)≤_;omega,by show lq (_+_)≤_;omega⟩
theorem reb2{h:Mem}{cs:List Go.Value}{a b:Rat×Rat}{k l k' l':Nat}(r:(rpP (rpQ k) (rpQ l)).R h cs a)(e:a=b)(h1:lq b.1≤k')(h2:lq b.2≤l'):(rpP (rpQ k') (rpQ l')).R h cs b:=by
  subst e
  obtain⟨x,y,rfl,⟨q1,_⟩,⟨q2,_⟩⟩:=r
  exact⟨x,y,rfl,⟨q1,h1⟩,⟨q2,h2⟩⟩
end Bk
namespace Go.Proofs.YtboaboflnckgoaaGreat
open Bk Go Tryz
set_option linter.unusedVariables false
set_option linter.unusedSimpArgs false
set_option maxRecDepth 10000
set_option maxHeartbeats 1000000
attribute [local irreducible] GL GC GQ W OpV
theorem zCX{w0:World}{h0:Mem}(hs:MLe h0 (mem w0)){k m n j:Nat}{vs:Value}{s:Sq}(rs:(tSd k m n j).Is h0 vs s){vlz:Value}{lz:(List Int)}(rlz:(rpS rpI).Is h0 vlz lz)(hcd0:lz.length=3)(hcd1:∀u,u<3→inR s (lz.getD u 0)):
    Calls Tryz.prog 113 #[vs,vlz] w0 (Ret w0 h0 (fun h r=>∃u0,r=.tuple #[u0,vB (True)]∧(rpT (tPt (k+1))).Is h u0 (cnT s lz))):=by
 refine cb2 35 vs vlz func113 hs ?_
 refine go2 ?_
 refine nB rs fun b2 cs2 rb2=>(nA (ρ:=(rpT (tPt (k+1)))) (X:=(T3.mk zT zT zT)) rZ (xW (xW (yF oM))) fun b4 cs4 rb4=>?_)
 refine go5 ?_
 refine nA (ρ:=(rpT (tPt (k+1)))) (X:=(T3.mk zT zT zT)) rZ (xW (xW (yF oM))) fun b6 cs6 rb6=>?_
 refine uP ?_
 refine gcL (ι:=Nat×List Value×Mem) (fun(i,cs_1,ma)=>(MLe h0 ma∧((rpT (tPt (k+1))).R ma cs_1 (yBQ s lz i)∧i≤3),[(2,vP b2 0),(4,vP b4 0),(6,vP b6 0),(9,vlz),(10,vI (↑(lz).length:Int)),(11,vI ↑i)],[.var b6 108 cs_1,.var b4 108 cs4,.var b2 50 cs2],ma,3-i)) (0,cs6,h0) ?_ ?_
 ·
  refine⟨MLe.refl _,?_⟩
  refine⟨rb6,?_⟩
  exact oM
 intro x hx
 obtain⟨i,cs_1,ma⟩:=x
 dsimp only at hx
 obtain⟨hmma,hinv⟩:=hx
 refine yS ?_
 obtain⟨rb_2,hinv⟩:=hinv
 have hi1:=hinv
 refine go6 ?_
 refine cnd (fun hc12=>?_) fun hc12=>?_
 ·
  obtain⟨hr1,hr2⟩:=hcd1 i oM
  refine go7 ?_
  refine lX (xI (0:Int) i underlying32 ty3 rlz) fun v14 r14=>(lX (xA ty3 r14) fun v15 r15=>?_)
  obtain⟨rfl,hl15,hu15⟩:=jW r15
  refine go9 ?_
  refine gU 7 24 (vB (((lz.getD i (0:Int))<(0:Int))∨((↑(s.1).length:Int)≤(lz.getD i (0:Int))))) ?_ ?_
  ·
   refine yB ((lz.getD i (0:Int))<(0:Int)) (fun hg=>?_) (fun hg=>?_)
   ·
    refine gT hg rfl ?_
    refine go7 ?_
    refine gqU ?_
    exact congrArg some (uA hg)
   refine gF hg rfl ?_
   refine go5 ?_
   refine lX (xB uT (Pc.fst pH) rb2) fun v21 r21=>?_
   refine go6 ?_
   refine gqU ?_
   exact congrArg some (uC hg)
  refine go2 ?_
  refine cnd (fun hc24=>?_) fun hc24=>?_
  ·
   exact absurd hc24 oM
  refine go5 ?_
  refine lX (xB uT (Pc.fst pH) rb2) fun v28 r28=>?_
  refine go1 ?_
  refine lX (xI zT ((lz.getD i 0).toNat) underlying46 zS r28) fun v30 r30=>(lX (xA zS r30) fun v31 r31=>(gv ((zW (sz:=9) i underlying108 sizeOf53 rfl rfl oM oM).cv (show _=vP b6 ((i*9+0)) from congrArg (vP b6) oM)) rfl (zR (A:=[]) (uB sizeOf53 (Pc.ta pH i oM) rb_2 (r31.le (Le.t (Le.q (l:=k+1) oM)))) fun cs_3 rb_4=>?_)))
  refine go7 ?_
  refine gqL ((i+1),cs_3,ma) ?_ ?_
  ·
   refine⟨hmma,?_⟩
   refine⟨rb_4,?_⟩
   exact oM
  omega
 have ei:i=3:=by omega
 refine go7 ?_
 refine lX (xB pC pH rb_2) fun v34 r34=>(zR (A:=[_]) (uB sizeOf108 pH rb4 r34) fun cs_5 rb_6=>?_)
 refine go4 ?_
 refine wL (jZ (t:=4) pC mh1 rfl rb_6) ?_
 intro w_7 hvw_7 rr_8
 refine yE (fun E S=>vW rfl hvw_7 (jP rfl) E S) ?_
 refine⟨_,?_,(Rp.Is.cast rr_8 (by rw[ei];rfl))⟩
 rw[xL trivial]
theorem tI{w0:World}{h0:Mem}(hs:MLe h0 (mem w0)){k m n j:Nat}{vs:Value}{s:Sq}(rs:(tSd k m n j).Is h0 vs s){vf:Value}{f:(Pq×((List (List Int))×(List Nat)))}(rf:(tFc m n).Is h0 vf f)(hcd0:∀u v,u<f.2.1.length→v<(f.2.1.getD u []).length→inR s ((f.2.1.getD u []).getD v 0))(hcd1:∀u,u<f.2.1.length→(f.2.1.getD u []).length≤1000)(hcd2:f.2.1.length≤1000):
    Calls Tryz.prog 68 #[vs,vf] w0 (Ret w0 h0 (fun h r=>(rpS (rpT (tPt (k+1)))).Is h r (jL s f.2.1 f.2.1.length))):=by
 refine cb2 49 vs vf func68 hs ?_
 refine go2 ?_
 refine nB rs fun b2 cs2 rb2=>(nB rf fun b3 cs3 rb3=>?_)
 refine uN ?_
 refine lX (xB cK (Pc.snd (Pc.fst pH)) rb3) fun v12 r12=>?_
 refine go5 ?_
 refine xQ 108 27 ?_
 have rl_9:RL (rpT (tPt (k+1))) h0 [] ([]:List (T3 Tq)):=RL.nil
 refine gcL (ι:=Nat×List Tri×Value×List Value×Mem) (fun(i,OU,s5_10,cs_11,ma)=>(MLe h0 ma∧(RL (rpT (tPt (k+1))) ma cs_11 OU∧i≤f.2.1.length∧OU=jL s f.2.1 i),[(2,vP b2 0),(5,s5_10),(12,v12),(13,vI (↑(f.2.1).length:Int)),(14,vI ↑i)],[.gs 108 27 s5_10 OU.length cs_11,.var b3 83 cs3,.var b2 50 cs2],ma,f.2.1.length-i)) (0,[],(.slice none 0 0),[],h0) ?_ ?_
 ·
  refine⟨MLe.refl _,?_⟩
  refine⟨rl_9,?_⟩
  exact⟨by omega,rfl⟩
 intro x hx
 obtain⟨i,OU,s5_10,cs_11,ma⟩:=x
 dsimp only at hx
 obtain⟨hmma,hinv⟩:=hx
 refine yS ?_
 obtain⟨rl_12,hinv⟩:=hinv
 obtain⟨hi1,hOU⟩:=hinv
 refine go6 ?_
 refine cnd (fun hc15=>?_) fun hc15=>?_
 ·
  refine go6 ?_
  refine lX (xI [] i underlying81 fO r12) fun v16 r16=>(lX (xA fO r16) fun v17 r17=>?_)
  refine go9 ?_
  refine gcL (ι:=Nat×List Tri×Value×List Value×Mem) (fun(kq,OV,s5_13,cs_14,mb)=>(MLe ma mb∧(RL (rpT (tPt (k+1))) mb cs_14 OV∧(2≤kq∧(kq≤(f.2.1.getD i []).length∨kq=2))∧OV=jL s f.2.1 i++zIY s (f.2.1.getD i []) (kq-2)),[(2,vP b2 0),(5,s5_13),(7,v17),(8,vI ↑kq),(12,v12),(13,vI (↑(f.2.1).length:Int)),(14,vI ↑i)],[.gs 108 27 s5_13 OV.length cs_14,.var b3 83 cs3,.var b2 50 cs2],mb,(f.2.1.getD i []).length-kq)) (2,OU,s5_10,cs_11,ma) ?_ ?_
  ·
   refine⟨MLe.refl _,?_⟩
   refine⟨rl_12,?_⟩
   exact⟨by omega,by rw[hOU];exact(List.append_nil _).symm⟩
  intro x hx
  obtain⟨kq,OV,s5_13,cs_14,mb⟩:=x
  dsimp only at hx
  obtain⟨hmmb,hinv⟩:=hx
  refine yS ?_
  obtain⟨rl_15,hinv⟩:=hinv
  obtain⟨hk1,hOV⟩:=hinv
  have hfl:=hcd1 i oM
  have hOVl:OV.length≤1000*i+1000:=by rw[hOV,lAz];have h8:=zM0 (s:=s) hcd1 i hi1;have h9:(zIY s (f.2.1.getD i []) (kq-2)).length=kq-2:=wJ _ _;omega
  replace r17:=r17.mono hmmb
  refine go9 ?_
  refine cnd (fun hc21=>?_) fun hc21=>?_
  ·
   have hq0:=hcd0 i 0 oM oM
   have hq1:=hcd0 i (kq-1) oM oM
   have hq2:=hcd0 i kq oM oM
   refine go5 ?_
   refine kE 21 _ [(18,(9,108,[.bool false,.slice none 0 0,.slice none 0 0,.bool false,.slice none 0 0,.slice none 0 0,.bool false,.slice none 0 0,.slice none 0 0,.bool false,.slice none 0 0,.slice none 0 0,.bool false,.slice none 0 0,.slice none 0 0,.bool false,.slice none 0 0,.slice none 0 0,.bool false,.slice none 0 0,.slice none 0 0,.bool false,.slice none 0 0,.slice none 0 0,.bool false,.slice none 0 0,.slice none 0 0]))] [(0,.q),(1,.q),(2,.q),(3,.q),(4,.q),(5,.q),(6,.q),(7,.q),(8,.q),(9,.q),(10,.q),(11,.q),(12,.q),(13,.c),(14,.c),(15,.q),(16,.q),(17,.q),(18,.a),(19,.c),(20,.q)] jN (jK.cons rfl rfl (uZ rZ rfl rfl) jK.nil) (vG [0,0,2,4,0,0,32,80,128,0,0,1536,2048,4360,8193,16384,32768,32768,0,393215,1048575] [2097151,2097151,2097149,2097147,2097151,2097151,2097119,2097071,2097023,2097151,2097151,2095615,2095103,2092791,2088958,2080767,2064383,2064383,2097151,1769471,1966079] (by kernel_rfl)) (qB rfl rfl kM) (fun r hr=>hr) (wX rfl (xB kF pH rb2) fun v25 r25=>?_)
   refine go1 ?_
   refine mZ (F:=fun v_=>AtP rpI mb v_ ((f.2.1.getD i []).getD 0 (0:Int))) rfl (lI (q:=0) (0:Int) 0 underlying32 ty3 rfl rfl r17 rfl oM nP) zBI rfl ?_
   intro v27 r27
   refine wX rfl (xA ty3 r27) fun v28 r28=>?_
   obtain⟨rfl,hl28,hu28⟩:=jW r28
   refine go3 ?_
   refine wX rfl (xI (0:Int) (kq-1) underlying32 ty3 r17) fun v32 r32=>(wX rfl (xA ty3 r32) fun v33 r33=>?_)
   obtain⟨rfl,hl33,hu33⟩:=jW r33
   refine go2 ?_
   refine wX rfl (xI (0:Int) kq underlying32 ty3 r17) fun v36 r36=>(wX rfl (xA ty3 r36) fun v37 r37=>?_)
   obtain⟨rfl,hl37,hu37⟩:=jW r37
   refine w_c rfl (kU (fun X=>zV (ρ:=rpI) (m:=3) (xs:=[((f.2.1.getD i []).getD 0 (0:Int)),((f.2.1.getD i []).getD (kq-1) (0:Int)),((f.2.1.getD i []).getD kq (0:Int))]) (ps':=[(0,_),(1,_),(2,_)]) underlying32 gK rfl rfl rfl wF e6z (zI rfl (Pc.arr (Pc.here _) (0:Int) 0 dC) (qF oM oM) (zI rfl (Pc.arr (Pc.here _) (0:Int) 1 dC) (qF oM oM) (zI rfl (Pc.arr (Pc.here _) (0:Int) 2 dC) (qF oM oM) zX))) (show 3*1≤16777216 from by decide) nP) rfl ?_)
   intro v38 q38 hq38
   obtain⟨cs38,rfl,rl38⟩:=hq38
   refine w_c rfl (vH (A:=[]) (ρ:=rpI) rl38 dK ?_)
   intro h1 hh1 rs_16
   refine sC (ev2 rfl rfl) call113 (fun w hs=>zCX hs r25.up rs_16 (by first|rfl|omega|exact fun u hu=>by match u,hu with|0,_=>exact hq0|1,_=>exact hq1|2,_=>exact hq2) (by first|rfl|omega|exact fun u hu=>by match u,hu with|0,_=>exact hq0|1,_=>exact hq1|2,_=>exact hq2)) fun v39 h2 hh2 r39=>?_
   obtain⟨v39_0,rfl,r39_0⟩:=r39
   change (rpT (tPt (k+1))).Is h2 v39_0 (cnT s [((f.2.1.getD i []).getD 0 (0:Int)),((f.2.1.getD i []).getD (kq-1) (0:Int)),((f.2.1.getD i []).getD kq (0:Int))]) at r39_0
   refine go3 ?_
   refine w_a rfl rfl (fun b9=>?_)
   have rb9:(rpT (tPt (k+1))).R h2 [.bool false,.slice none 0 0,.slice none 0 0,.bool false,.slice none 0 0,.slice none 0 0,.bool false,.slice none 0 0,.slice none 0 0,.bool false,.slice none 0 0,.slice none 0 0,.bool false,.slice none 0 0,.slice none 0 0,.bool false,.slice none 0 0,.slice none 0 0,.bool false,.slice none 0 0,.slice none 0 0,.bool false,.slice none 0 0,.slice none 0 0,.bool false,.slice none 0 0,.slice none 0 0] (T3.mk zT zT zT):=(xW (xW (yF oM)))
   refine w_c rfl (bE (A:=[]) (uB sizeOf108 pH rb9 r39_0) (wM (by first|(simp;done)|grind)) fun cs_17 rb_18=>?_)
   refine go8 ?_
   refine cnd (fun hc42=>?_) fun hc42=>?_
   ·
    refine go2 ?_
    refine lX (xB pC pH rb_18) fun v44 r44=>(zF (zV (ρ:=(rpT (tPt (k+1)))) (m:=1) (xs:=[cnT s [((f.2.1.getD i []).getD 0 (0:Int)),((f.2.1.getD i []).getD (kq-1) (0:Int)),((f.2.1.getD i []).getD kq (0:Int))]]) (ps':=[(0,_)]) underlying106 rZ rfl rfl rfl (xW (xW (yF oM))) e2z (zI rfl (Pc.arr (Pc.here _) (T3.mk zT zT zT) 0 dC) r44 zX) (show 1*27≤16777216 from by decide) nP) rfl rfl rfl ?_)
    intro v45 q45 hq45
    obtain⟨cs45,rfl,rl45⟩:=hq45
    refine yH (A:=[]) (ρ:=(rpT (tPt (k+1)))) rl45 ?_
    intro h3 hh3 rs_19
    replace rl_15:=rl_15.mono ((hh1.trans hh2).trans hh3)
    refine xS (A:=[_]) (yD (ρ:=(rpT (tPt (k+1)))) (bytes:=504) underlying106 rZ rfl rfl rfl rfl nP rfl rfl rl_15 rs_19 bO bO) rfl rfl rfl ?_
    intro v46 q46 hq46
    obtain⟨cs46,rfl,rl46⟩:=hq46
    refine go9 ?_
    refine vV (A:=[]) ?_
    refine gqL ((kq+1),(OV++[cnT s [((f.2.1.getD i []).getD 0 (0:Int)),((f.2.1.getD i []).getD (kq-1) (0:Int)),((f.2.1.getD i []).getD kq (0:Int))]]),v46,cs46,h3) ?_ ?_
    ·
     refine⟨(((hmmb.trans hh1).trans hh2).trans hh3),?_⟩
     refine⟨rl46,?_⟩
     exact⟨by omega,by rw[hOV,List.append_assoc,zSF hk1.1]⟩
    omega
   exact absurd trivial hc42
  have hke:kq-2=(f.2.1.getD i []).length-2:=by omega
  refine vO ?_
  refine gqL ((i+1),OV,s5_13,cs_14,mb) ?_ ?_
  ·
   refine⟨(hmma.trans hmmb),?_⟩
   refine⟨rl_15,?_⟩
   exact⟨by omega,by rw[hOV];exact zSG hke⟩
  omega
 have ei:i=f.2.1.length:=by omega
 refine uN ?_
 refine wW (A:=[]) (ρ:=(rpT (tPt (k+1)))) rl_12 ?_
 intro h1 hh1 rs_20
 refine zD rfl rfl ?_
 exact(Rp.Is.cast rs_20 (by rw[hOU,ei]))
theorem cP{w0:World}{h0:Mem}(hs:MLe h0 (mem w0)){k m n j:Nat}{vs:Value}{s:Sq}(rs:(tSd k m n j).Is h0 vs s)(hcd0:nmA s)(hcd1:∀f,f<s.2.1.length→(s.2.1.getD f zA).2.1.length≤10000∧∀l,l<(s.2.1.getD f zA).2.1.length→((s.2.1.getD f zA).2.1.getD l []).length≤10000)(hcd2:s.2.1.length≤1000):
    Calls Tryz.prog 67 #[vs] w0 (Ret w0 h0 (fun h r=>(rpS (tFc (m+1) (n+1))).Is h r s.2.1)):=by
 refine cb1 52 vs func67 hs ?_
 refine go2 ?_
 refine nB rs fun b1 cs1 rb1=>?_
 refine uN ?_
 refine lX (xB tM (Pc.snd (Pc.fst pH)) rb1) fun v12 r12=>?_
 refine go5 ?_
 refine xQ 83 14 ?_
 have rl_21:RL (tFc (m+1) (n+1)) h0 [] ([]:List (Pq×((List (List Int))×(List Nat)))):=RL.nil
 refine gcL (ι:=Nat×List Fc×Value×List Value×Mem) (fun(i,OU,s3_22,cs_23,ma)=>(MLe h0 ma∧(RL (tFc (m+1) (n+1)) ma cs_23 OU∧i≤s.2.1.length∧OU=s.2.1.take i),[(1,vP b1 0),(3,s3_22),(12,v12),(13,vI (↑(s.2.1).length:Int)),(14,vI ↑i)],[.gs 83 14 s3_22 OU.length cs_23,.var b1 50 cs1],ma,s.2.1.length-i)) (0,[],(.slice none 0 0),[],h0) ?_ ?_
 ·
  refine⟨MLe.refl _,?_⟩
  refine⟨rl_21,?_⟩
  exact⟨by omega,rfl⟩
 intro x hx
 obtain⟨i,OU,s3_22,cs_23,ma⟩:=x
 dsimp only at hx
 obtain⟨hmma,hinv⟩:=hx
 refine yS ?_
 obtain⟨rl_24,hinv⟩:=hinv
 obtain⟨hi1,hOU⟩:=hinv
 have hOl:OU.length=i:=by rw[hOU,List.length_take];omega
 refine go6 ?_
 refine cnd (fun hc15=>?_) fun hc15=>?_
 ·
  refine go6 ?_
  refine lX (xI zA i underlying47 fR r12) fun v16 r16=>(lX (xA fR r16) fun v17 r17=>(nA (ρ:=(tFc 1 1)) (X:=((zT,(0:Rat)),([],([]:List Nat)))) jA (yJ (yJ (xW (yF dC)) (yF dC)) (yJ qL kO)) fun b5 cs5 rb5=>?_))
  have rw_25:=(Le.p (Le.p (Le.t (Le.q (l:=m+1) oM)) (Le.q (l:=n+1) oM)) (Le.refl _)).R rb5
  refine zR (A:=[]) (uB sizeOf83 pH rw_25 (r17.le (Le.p (Le.p (Le.t (Le.q (l:=m+1) oM)) (Le.q (l:=n+1) oM)) (Le.refl _)))) fun cs_26 rb_27=>?_
  refine uP ?_
  refine lX (xB cK (Pc.snd (Pc.fst pH)) rb_27) fun v19 r19=>?_
  refine go5 ?_
  refine gcL (ι:=Nat×Mem) (fun(l,mb)=>(MLe ma mb∧(l≤(s.2.1.getD i zA).2.1.length),[(1,vP b1 0),(3,s3_22),(5,vP b5 0),(6,.bool true),(12,v12),(13,vI (↑(s.2.1).length:Int)),(14,vI ↑i),(19,v19),(20,vI (↑(((s.2.1.getD i zA).2).1).length:Int)),(21,vI ↑l)],[.var b5 83 cs_26,.gs 83 14 s3_22 OU.length cs_23,.var b1 50 cs1],mb,(s.2.1.getD i zA).2.1.length-l)) (0,ma) ?_ ?_
  ·
   refine⟨MLe.refl _,?_⟩
   exact oM
  intro x hx
  obtain⟨l,mb⟩:=x
  dsimp only at hx
  obtain⟨hmmb,hinv⟩:=hx
  refine yS ?_
  have hl1:=hinv
  have hfl:=hcd1 i oM
  refine go6 ?_
  refine cnd (fun hc22=>?_) fun hc22=>?_
  ·
   refine go6 ?_
   refine lX (xI [] l underlying81 fO r19) fun v23 r23=>(lX (xA fO r23) fun v24 r24=>?_)
   refine uP ?_
   refine gcL (ι:=Nat×Mem) (fun(u,mc)=>(MLe mb mc∧(u≤((s.2.1.getD i zA).2.1.getD l []).length),[(1,vP b1 0),(3,s3_22),(5,vP b5 0),(6,.bool true),(12,v12),(13,vI (↑(s.2.1).length:Int)),(14,vI ↑i),(19,v19),(20,vI (↑(((s.2.1.getD i zA).2).1).length:Int)),(21,vI ↑l),(25,v24),(26,vI (↑(((((s.2.1.getD i zA).2).1).getD l [])).length:Int)),(27,vI ↑u)],[.var b5 83 cs_26,.gs 83 14 s3_22 OU.length cs_23,.var b1 50 cs1],mc,((s.2.1.getD i zA).2.1.getD l []).length-u)) (0,mb) ?_ ?_
   ·
    refine⟨MLe.refl _,?_⟩
    exact oM
   intro x hx
   obtain⟨u,mc⟩:=x
   dsimp only at hx
   obtain⟨hmmc,hinv⟩:=hx
   refine yS ?_
   have hu1:=hinv
   have hfu:=hfl.2 l oM
   refine go6 ?_
   refine cnd (fun hc28=>?_) fun hc28=>?_
   ·
    obtain⟨hr1,hr2⟩:=hcd0 i oM l oM u oM
    refine go6 ?_
    refine lX (xI (0:Int) u underlying32 ty3 r24) fun v29 r29=>(lX (xA ty3 r29) fun v30 r30=>?_)
    obtain⟨rfl,hl30,hu30⟩:=jW r30
    refine go9 ?_
    refine gv (OpV.tr oM (bK (q:=0) rfl rfl)) rfl ?_
    refine go7 ?_
    refine lX (xB uT (Pc.fst pH) rb1) fun v39 r39=>?_
    refine go3 ?_
    refine gv (OpV.tr oM (yL rfl rfl)) rfl ?_
    refine go9 ?_
    refine gqL ((u+1),mc) ?_ ?_
    ·
     refine⟨hmmc,?_⟩
     exact oM
    omega
   refine vO ?_
   refine gqL ((l+1),mc) ?_ ?_
   ·
    refine⟨(hmmb.trans hmmc),?_⟩
    exact oM
   omega
  refine sL ?_
  refine lX (xB fR pH rb_27) fun v47 r47=>(zF (zV (ρ:=(tFc (m+1) (n+1))) (m:=1) (xs:=[(s.2.1.getD i zA)]) (ps':=[(0,_)]) underlying47 jA rfl rfl rfl (yJ (yJ (xW (yF oM)) (yF oM)) (yJ qL kO)) e2z (zI rfl (Pc.arr (Pc.here _) zA 0 dC) r47 zX) (show 1*14≤16777216 from by decide) nP) rfl rfl rfl ?_)
  intro v48 q48 hq48
  obtain⟨cs48,rfl,rl48⟩:=hq48
  refine yH (A:=[]) (ρ:=(tFc (m+1) (n+1))) rl48 ?_
  intro h1 hh1 rs_28
  replace rl_24:=rl_24.mono (hmmb.trans hh1)
  refine xS (A:=[_]) (yD (ρ:=(tFc (m+1) (n+1))) (bytes:=264) underlying47 jA rfl rfl rfl rfl nP rfl rfl rl_24 rs_28 bO bO) rfl rfl rfl ?_
  intro v49 q49 hq49
  obtain⟨cs49,rfl,rl49⟩:=hq49
  refine go8 ?_
  refine vV (A:=[]) ?_
  refine gqL ((i+1),(OU++[(s.2.1.getD i zA)]),v49,cs49,h1) ?_ ?_
  ·
   refine⟨((hmma.trans hmmb).trans hh1),?_⟩
   refine⟨rl49,?_⟩
   exact⟨by omega,by rw[hOU];exact rR zA oM⟩
  omega
 have ei:i=s.2.1.length:=by omega
 refine uN ?_
 refine wW (A:=[]) (ρ:=(tFc (m+1) (n+1))) rl_24 ?_
 intro h1 hh1 rs_29
 refine zD rfl rfl ?_
 exact(Rp.Is.cast rs_29 (by rw[hOU,ei,List.take_length]))
theorem zUU{w0:World}{h0:Mem}(hs:MLe h0 (mem w0)){k:Nat}{va:Value}{a:Tq}(ra:(tPt k).Is h0 va a){vb:Value}{b:Tq}(rb:(tPt k).Is h0 vb b){vc:Value}{c:Tq}(rc:(tPt k).Is h0 vc c)(hcd0:k≤1000000):
    Calls Tryz.prog 114 #[va,vb,vc] w0 (Ret w0 h0 (fun h r=>(rpQ (20*k+40)).Is h r (aB a b c))):=by
 refine cb3 12 va vb vc func114 hs ?_
 refine go2 ?_
 refine nB ra fun b3 cs3 rb3=>(nB rb fun b4 cs4 rb4=>(nB rc fun b5 cs5 rb5=>(nA (ρ:=(rpQ (20*k+40))) (X:=(0:Rat)) yN (yF oM) fun b6 cs6 rb6=>?_)))
 refine go3 ?_
 refine gD 5 (qq 0 3 [(3,.c),(4,.c),(5,.t)]) (by kernel_rfl) ?_
 refine wX rfl (xB zS pH rb3) fun v7 r7=>(wX rfl (xB zS pH rb4) fun v8 r8=>(wX rfl (xB zS pH rb5) fun v9 r9=>?_))
 refine w_c rfl (sC (ev2 rfl rfl) call132 (fun w hs=>zEU hs r8 r9 oM) fun v10 h1 hh1 r10=>?_)
 replace r10:=Rp.Is.le r10 (Le.t (Le.q (l:=4*k+3) oM))
 refine w_c rfl (sC (ev2 rfl rfl) call88 (fun w hs=>zMG hs r7.up r10 oM) fun v11 h2 hh2 r11=>?_)
 replace r11:=Rp.Is.le r11 (Le.q (l:=15*k+18) oM)
 refine yI (A:=[]) rfl (uB sizeOf26 pH rb6 (r11.le (Le.q (l:=20*k+40) oM))) fun cs_30 rb_31=>?_
 refine go3 ?_
 refine wL (jZ (t:=6) yA mh0 rfl rb_31) ?_
 intro w_32 hvw_32 rr_33
 refine yE (fun E S=>zP rfl hvw_32 E S) ?_
 exact rr_33
theorem aT{w0:World}{h0:Mem}(hs:MLe h0 (mem w0)){k:Nat}{vt:Value}{t:(T3 Tq)}(rt:(rpT (tPt k)).Is h0 vt t)(hcd0:k≤1000000):
    Calls Tryz.prog 69 #[vt] w0 (Ret w0 h0 (fun h r=>(rpQ (20*k+40)).Is h r (aB t.x t.y t.z))):=by
 refine cb1 10 vt func69 hs ?_
 refine go2 ?_
 refine nB rt fun b1 cs1 rb1=>(nA (ρ:=(rpQ (20*k+40))) (X:=(0:Rat)) yN (yF oM) fun b2 cs2 rb2=>?_)
 refine go5 ?_
 refine lX (xB zS (Pc.tx pH) rb1) fun v4 r4=>?_
 refine go1 ?_
 refine lX (xB zS (Pc.ty pH) rb1) fun v6 r6=>?_
 refine go1 ?_
 refine lX (xB zS (Pc.tz pH) rb1) fun v8 r8=>(cL (ev3 rfl rfl rfl) call114 (fun w hs=>zUU hs r4 r6 r8 oM) fun v9 h1 hh1 r9=>(zR (A:=[]) (uB sizeOf26 pH rb2 r9) fun cs_34 rb_35=>?_))
 refine go3 ?_
 refine wL (jZ (t:=2) yA mh0 rfl rb_35) ?_
 intro w_36 hvw_36 rr_37
 refine yE (fun E S=>zP rfl hvw_36 E S) ?_
 exact rr_37
theorem zCW{w0:World}{h0:Mem}(hs:MLe h0 (mem w0)){k:Nat}{vt:Value}{t:(T3 Tq)}(rt:(rpT (tPt k)).Is h0 vt t)(hcd0:k≤1000000):
    Calls Tryz.prog 73 #[vt] w0 (Ret w0 h0 (fun h r=>(tPt (4*k+10)).Is h r (smT t))):=by
 refine cb1 11 vt func73 hs ?_
 refine go2 ?_
 refine nB rt fun b1 cs1 rb1=>(nA (ρ:=(tPt (4*k+10))) (X:=zT) yV (xW (yF oM)) fun b2 cs2 rb2=>?_)
 refine go3 ?_
 refine gD 8 (qq 0 4 [(5,.q),(6,.q),(4,.c),(7,.c),(8,.t)]) (by kernel_rfl) ?_
 refine go1 ?_
 refine wX rfl (xB zS (Pc.tx pH) rb1) fun v4 r4=>?_
 refine go1 ?_
 refine wX rfl (xB zS (Pc.ty pH) rb1) fun v6 r6=>?_
 refine go1 ?_
 refine wX rfl (xB zS (Pc.tz pH) rb1) fun v9 r9=>?_
 refine w_c rfl (sC (ev2 rfl rfl) call71 (fun w hs=>zBU hs r4 r6 oM) fun v7 h1 hh1 r7=>?_)
 replace r7:=Rp.Is.le r7 (Le.t (Le.q (l:=2*k+2) oM))
 refine w_c rfl (sC (ev2 rfl rfl) call71 (fun w hs=>zBU hs r7 r9.up oM) fun v10 h2 hh2 r10=>?_)
 replace r10:=Rp.Is.le r10 (Le.t (Le.q (l:=3*k+4) oM))
 refine yI (A:=[]) rfl (uB sizeOf53 pH rb2 (r10.le (Le.t (Le.q (l:=4*k+10) oM)))) fun cs_38 rb_39=>?_
 refine go3 ?_
 refine wL (jZ (t:=2) zS mh0 rfl rb_39) ?_
 intro w_40 hvw_40 rr_41
 refine yE (fun E S=>zP rfl hvw_40 E S) ?_
 exact rr_41
theorem nY{w0:World}{h0:Mem}(hs:MLe h0 (mem w0)){k:Nat}{va:Value}{a:Rat}(ra:(rpQ k).Is h0 va a){b:Int}(hb1:-9223372036854775808≤b)(hb2:b<9223372036854775808)(hcd0:k≤1000000000)(hcd1:0<b):
    Calls Tryz.prog 83 #[va,vI b] w0 (Ret w0 h0 (fun h r=>(rpQ (k+4)).Is h r (a/(b:Rat)))):=by
 refine cb2 15 va (vI b) func83 hs ?_
 refine go2 ?_
 refine nB ra fun b2 cs2 rb2=>(nA (ρ:=(rpQ (k+4))) (X:=(0:Rat)) yN (yF oM) fun b4 cs4 rb4=>?_)
 refine go3 ?_
 refine kE 10 _ [(7,(5,26,[.bool false,.slice none 0 0,.slice none 0 0]))] [(0,.q),(1,.q),(2,.c),(3,.c),(4,.q),(5,.q),(6,.q),(7,.a),(8,.c),(9,.q)] jN (jK.cons rfl rfl (uZ yN rfl rfl) jK.nil) (by kernel_rfl) (qB rfl rfl kM) (fun r hr=>hr) (wX rfl (xB yA pH rb2) fun v8 r8=>?_)
 refine go1 ?_
 refine w_c rfl (sC (ev1 rfl) call75 (fun w hs=>eP hs oM oM) fun v10 h1 hh1 r10=>?_)
 refine w_c rfl (sC (ev2 rfl rfl) call74 (fun w hs=>zEV hs r8.up r10 oM) fun v11 h2 hh2 r11=>?_)
 obtain⟨v11_0,rfl,r11_0⟩:=r11
 change (rpQ (k+2)).Is h2 v11_0 (if((b:Int):Rat)=0 then 0 else a/((b:Int):Rat)) at r11_0
 refine go3 ?_
 refine w_a rfl rfl (fun b5=>?_)
 have rb5:(rpQ (k+4)).R h2 [.bool false,.slice none 0 0,.slice none 0 0] (0:Rat):=(yF oM)
 refine w_c rfl (bE (A:=[]) (uB sizeOf26 pH rb5 (r11_0.le (Le.q (l:=k+4) oM))) (wM (by first|(simp;done)|grind)) fun cs_42 rb_43=>?_)
 refine go5 ?_
 refine lX (xB yA pH rb_43) fun v14 r14=>(zR (A:=[_]) (uB sizeOf26 pH rb4 r14) fun cs_44 rb_45=>?_)
 refine go3 ?_
 refine wL (jZ (t:=4) yA mh1 rfl rb_45) ?_
 intro w_46 hvw_46 rr_47
 refine yE (fun E S=>zP rfl hvw_46 E S) ?_
 exact(Rp.Is.cast rr_47 (by exact if_neg (fun e=>by have:=Rat.intCast_eq_zero_iff.1 e;omega)))
end Go.Proofs.YtboaboflnckgoaaGreat
namespace Go.Proofs.YtboaboflnckgoaaGreat
open Bk Go Tryz
set_option linter.unusedVariables false
set_option linter.unusedSimpArgs false
set_option maxRecDepth 10000
set_option maxHeartbeats 1000000
attribute [local irreducible] GL GC GQ W OpV
theorem zD6{w0:World}{h0:Mem}(hs:MLe h0 (mem w0)){k m n j l1 l2:Nat}{vs:Value}{s:Sq}(rs:(tSd k m n j).Is h0 vs s){vfs:Value}{fs:(List (Pq×((List (List Int))×(List Nat))))}(rfs:(rpS (tFc l1 l2)).Is h0 vfs fs)(hcd0:k≤10000)(hcd1:zGT s fs):
    Calls Tryz.prog 77 #[vs,vfs] w0 (Ret w0 h0 (fun h r=>(rpQ (20000*k+100004)).Is h r (iP (fQ s fs fs.length)/((6:Int):Rat)))):=by
 have hps:=zL3 rs
 have hfl:=hcd1.2.1
 refine cb2 32 vs vfs func77 hs ?_
 refine go2 ?_
 refine nB rs fun b2 cs2 rb2=>(nA (ρ:=(rpQ (20000*k+100004))) (X:=(0:Rat)) yN (yF oM) fun b4 cs4 rb4=>?_)
 refine go4 ?_
 refine nA (ρ:=(rpQ (20000*k+100000))) (X:=(0:Rat)) yN (yF oM) fun b5 cs5 rb5=>?_
 refine uP ?_
 refine gcL (ι:=Nat×List Value×Mem) (fun(i,cs_1,ma)=>(MLe h0 ma∧((rpQ (20000*k+100000)).R ma cs_1 (iP (fQ s fs i))∧i≤fs.length),[(2,vP b2 0),(4,vP b4 0),(5,vP b5 0),(10,vfs),(11,vI (↑(fs).length:Int)),(12,vI ↑i)],[.var b5 26 cs_1,.var b4 26 cs4,.var b2 50 cs2],ma,fs.length-i)) (0,cs5,h0) ?_ ?_
 ·
  refine⟨MLe.refl _,?_⟩
  refine⟨rb5,?_⟩
  exact oM
 intro x hx
 obtain⟨i,cs_1,ma⟩:=x
 dsimp only at hx
 obtain⟨hmma,hinv⟩:=hx
 refine yS ?_
 obtain⟨rb_2,hinv⟩:=hinv
 have hi1:=hinv
 refine go6 ?_
 refine cnd (fun hc13=>?_) fun hc13=>?_
 ·
  have hfo:=hcd1.1 i oM
  have hfc:=j9 hcd1 (i:=i) oM
  refine go6 ?_
  refine lX (xI zA i underlying47 fR rfs) fun v14 r14=>(lX (xA fR r14) fun v15 r15=>(nA (ρ:=(tFc 1 1)) (X:=((zT,(0:Rat)),([],([]:List Nat)))) jA (yJ (yJ (xW (yF dC)) (yF dC)) (yJ qL kO)) fun b7 cs7 rb7=>?_))
  have rw_3:=(Le.p (Le.p (Le.t (Le.q (l:=l1+1) oM)) (Le.q (l:=l2+1) oM)) (Le.refl _)).R rb7
  refine zR (A:=[]) (uB sizeOf83 pH rw_3 (r15.le (Le.p (Le.p (Le.t (Le.q (l:=l1+1) oM)) (Le.q (l:=l2+1) oM)) (Le.refl _)))) fun cs_4 rb_5=>?_
  refine go4 ?_
  refine lX (xB kF pH rb2) fun v16 r16=>(lX (xB fR pH rb_5) fun v17 r17=>(cL (ev2 rfl rfl) call68 (fun w hs=>tI hs (r16.le (Le.p (Le.refl _) (Le.p (Le.s (Le.p (Le.p (Le.t (Le.q (l:=l1+m+1) oM)) (Le.q (l:=l2+n+1) oM)) (Le.refl _))) (Le.refl _)))) (r17.le (Le.p (Le.p (Le.t (Le.q (l:=l1+m+1) oM)) (Le.q (l:=l2+n+1) oM)) (Le.refl _))) (by first|omega|exact hfo.1|exact hfo.2.1|exact hfo.2.2) (by first|omega|exact hfo.1|exact hfo.2.1|exact hfo.2.2) (by first|omega|exact hfo.1|exact hfo.2.1|exact hfo.2.2)) fun v18 h1 hh1 r18=>?_))
  refine go5 ?_
  refine gcL (ι:=Nat×List Value×Mem) (fun(q,cs_6,mb)=>(MLe h1 mb∧((rpQ (20000*k+100000)).R mb cs_6 (iP (fQ s fs i++(jL s (fs.getD i zA).2.1 (fs.getD i zA).2.1.length).take q))∧q≤(jL s (fs.getD i zA).2.1 (fs.getD i zA).2.1.length).length),[(2,vP b2 0),(4,vP b4 0),(5,vP b5 0),(10,vfs),(11,vI (↑(fs).length:Int)),(12,vI ↑i),(18,v18),(19,vI (↑(jL s (fs.getD i zA).2.1 (fs.getD i zA).2.1.length).length:Int)),(20,vI ↑q)],[.var b7 83 cs_4,.var b5 26 cs_6,.var b4 26 cs4,.var b2 50 cs2],mb,(jL s (fs.getD i zA).2.1 (fs.getD i zA).2.1.length).length-q)) (0,cs_1,h1) ?_ ?_
  ·
   refine⟨MLe.refl _,?_⟩
   replace rb_2:=rb_2.mono hh1
   refine⟨(Rp.castR rb_2 (by rw[List.take_zero,List.append_nil])),?_⟩
   exact oM
  intro x hx
  obtain⟨q,cs_6,mb⟩:=x
  dsimp only at hx
  obtain⟨hmmb,hinv⟩:=hx
  refine yS ?_
  obtain⟨rb_7,hinv⟩:=hinv
  have hq1:=hinv
  refine go6 ?_
  refine cnd (fun hc21=>?_) fun hc21=>?_
  ·
   refine go6 ?_
   refine lX (xI (T3.mk zT zT zT) q underlying106 pC r18) fun v22 r22=>(lX (xA pC r22) fun v23 r23=>(nA (ρ:=(rpT (tPt (k+1)))) (X:=(T3.mk zT zT zT)) rZ (xW (xW (yF oM))) fun b9 cs9 rb9=>(zR (A:=[]) (uB sizeOf108 pH rb9 r23) fun cs_8 rb_9=>?_)))
   refine go2 ?_
   refine gD 4 [(0,.q),(1,.q),(2,.c),(3,.c),(4,.t)] (by kernel_rfl) ?_
   refine wX rfl (xB yA pH rb_7) fun v24 r24=>(wX rfl (xB pC pH rb_9) fun v25 r25=>?_)
   refine w_c rfl (sC (ev1 rfl) call69 (fun w hs=>aT hs r25 oM) fun v26 h2 hh2 r26=>?_)
   replace r26:=Rp.Is.le r26 (Le.q (l:=20*k+60) oM)
   refine w_c rfl (sC (ev2 rfl rfl) call70 (fun w hs=>fJ hs r24.up r26 oM) fun v27 h3 hh3 r27=>?_)
   replace r27:=Rp.Is.le r27 (Le.q (l:=20020*k+100061) oM)
   replace rb_7:=rb_7.mono (hh2.trans hh3)
   have rw_10:=(Le.q (l:=20020*k+100061) oM).R rb_7
   refine yI (A:=[_,_]) rfl (uB sizeOf26 pH rw_10 r27) fun cs_11 rb_12=>?_
   refine go7 ?_
   refine vV (A:=[]) ?_
   refine gqL ((q+1),cs_11,h3) ?_ ?_
   ·
    refine⟨((hmmb.trans hh2).trans hh3),?_⟩
    refine⟨(zUE rb_12 (by rw[zEH,List.append_assoc,rR (T3.mk zT zT zT) oM]) (yBC (eC hcd1 hps oM))),?_⟩
    exact oM
   omega
  have eq2:q=(jL s (fs.getD i zA).2.1 (fs.getD i zA).2.1.length).length:=by omega
  refine vO ?_
  refine vV (A:=[]) ?_
  refine gqL ((i+1),cs_6,mb) ?_ ?_
  ·
   refine⟨((hmma.trans hh1).trans hmmb),?_⟩
   refine⟨(Rp.castR rb_7 (by rw[eq2,List.take_length];rfl)),?_⟩
   exact oM
  omega
 have ei:i=fs.length:=by omega
 refine go7 ?_
 refine lX (xB yA pH rb_2) fun v30 r30=>(cL (vs:=[_,vI (6)]) e2z call83 (fun w hs=>nY hs r30 dC dC oM oM) fun v31 h1 hh1 r31=>?_)
 replace r31:=Rp.Is.le r31 (Le.q (l:=20000*k+100004) oM)
 refine zR (A:=[_]) (uB sizeOf26 pH rb4 r31) fun cs_13 rb_14=>?_
 refine go3 ?_
 refine wL (jZ (t:=4) yA mh1 rfl rb_14) ?_
 intro w_15 hvw_15 rr_16
 refine yE (fun E S=>zP rfl hvw_15 E S) ?_
 exact(Rp.Is.cast rr_16 (by rw[ei]))
theorem zCV{w0:World}{h0:Mem}(hs:MLe h0 (mem w0)){k m n j:Nat}{vs:Value}{s:Sq}(rs:(tSd k m n j).Is h0 vs s)(hcd0:k≤10000)(hcd1:nmA s)(hcd2:∀f,f<s.2.1.length→(s.2.1.getD f zA).2.1.length≤10000∧∀l,l<(s.2.1.getD f zA).2.1.length→((s.2.1.getD f zA).2.1.getD l []).length≤10000)(hcd3:zGT s s.2.1):
    Calls Tryz.prog 26 #[vs] w0 (Ret w0 h0 (fun h r=>(rpQ (20000*k+100004)).Is h r (dS s/((6:Int):Rat)))):=by
 refine cb1 7 vs func26 hs ?_
 refine go2 ?_
 refine nB rs fun b1 cs1 rb1=>(nA (ρ:=(rpQ (20000*k+100004))) (X:=(0:Rat)) yN (yF oM) fun b2 cs2 rb2=>?_)
 refine go3 ?_
 refine gD 4 [(0,.q),(1,.q),(2,.c),(3,.c),(4,.t)] (by kernel_rfl) ?_
 refine wX rfl (xB kF pH rb1) fun v3 r3=>(wX rfl (xB kF pH rb1) fun v4 r4=>?_)
 refine w_c rfl (sC (ev1 rfl) call67 (fun w hs=>cP hs r4 (by first|omega|exact hcd1|exact hcd2|exact hcd3.2.1) (by first|omega|exact hcd1|exact hcd2|exact hcd3.2.1) (by first|omega|exact hcd1|exact hcd2|exact hcd3.2.1)) fun v5 h1 hh1 r5=>?_)
 refine w_c rfl (sC (ev2 rfl rfl) call77 (fun w hs=>zD6 hs r3.up r5 (by first|omega|exact hcd3) (by first|omega|exact hcd3)) fun v6 h2 hh2 r6=>(yI (A:=[]) rfl (uB sizeOf26 pH rb2 r6) fun cs_17 rb_18=>?_))
 refine go3 ?_
 refine wL (jZ (t:=2) yA mh0 rfl rb_18) ?_
 intro w_19 hvw_19 rr_20
 refine yE (fun E S=>zP rfl hvw_19 E S) ?_
 exact rr_20
theorem zCY{w0:World}{h0:Mem}(hs:MLe h0 (mem w0)){k m n j:Nat}{vs:Value}{s:Sq}(rs:(tSd k m n j).Is h0 vs s)(hcd0:k≤10000)(hcd1:nmA s)(hcd2:∀f,f<s.2.1.length→(s.2.1.getD f zA).2.1.length≤10000∧∀l,l<(s.2.1.getD f zA).2.1.length→((s.2.1.getD f zA).2.1.getD l []).length≤10000)(hcd3:zGT s s.2.1):
    Calls Tryz.prog 25 #[vs] w0 (Ret w0 h0 (fun h r=>∃u0,r=.tuple #[u0,vB (cnO s)]∧(tPt (50000*k+300000)).Is h u0 (cnS s))):=by
 have hps:=zL3 rs
 have hfl:=hcd3.2.1
 refine cb1 55 vs func25 hs ?_
 refine go2 ?_
 refine nB rs fun b1 cs1 rb1=>(nA (ρ:=(tPt (50000*k+300000))) (X:=zT) yV (xW (yF oM)) fun b2 cs2 rb2=>?_)
 refine go5 ?_
 refine nA (ρ:=(tPt (20000*k+100000))) (X:=zT) yV (xW (yF oM)) fun b4 cs4 rb4=>?_
 refine go4 ?_
 refine nA (ρ:=(rpQ (20000*k+100000))) (X:=(0:Rat)) yN (yF oM) fun b5 cs5 rb5=>?_
 refine go5 ?_
 refine lX (xB kF pH rb1) fun v13 r13=>(cL (ev1 rfl) call67 (fun w hs=>cP hs r13 (by first|omega|exact hcd1|exact hcd2|exact hcd3.2.1) (by first|omega|exact hcd1|exact hcd2|exact hcd3.2.1) (by first|omega|exact hcd1|exact hcd2|exact hcd3.2.1)) fun v14 h1 hh1 r14=>?_)
 refine go5 ?_
 refine gcL (ι:=Nat×List Value×List Value×Mem) (fun(i,cs_21,cs_23,ma)=>(MLe h1 ma∧((tPt (20000*k+100000)).R ma cs_21 (zFT (fQ s s.2.1 i))∧(rpQ (20000*k+100000)).R ma cs_23 (iP (fQ s s.2.1 i))∧i≤s.2.1.length),[(1,vP b1 0),(2,vP b2 0),(4,vP b4 0),(5,vP b5 0),(14,v14),(15,vI (↑(s.2.1).length:Int)),(16,vI ↑i)],[.var b5 26 cs_23,.var b4 53 cs_21,.var b2 53 cs2,.var b1 50 cs1],ma,s.2.1.length-i)) (0,cs4,cs5,h1) ?_ ?_
 ·
  refine⟨MLe.refl _,?_⟩
  replace rb4:=rb4.mono hh1
  replace rb5:=rb5.mono hh1
  refine⟨rb4,rb5,?_⟩
  exact oM
 intro x hx
 obtain⟨i,cs_21,cs_23,ma⟩:=x
 dsimp only at hx
 obtain⟨hmma,hinv⟩:=hx
 refine yS ?_
 obtain⟨rb_22,rb_24,hinv⟩:=hinv
 have hi1:=hinv
 refine go6 ?_
 refine cnd (fun hc17=>?_) fun hc17=>?_
 ·
  have hfo:=hcd3.1 i oM
  have hfc:=j9 hcd3 (i:=i) oM
  refine go6 ?_
  refine lX (xI zA i underlying47 fR r14) fun v18 r18=>(lX (xA fR r18) fun v19 r19=>(nA (ρ:=(tFc 1 1)) (X:=((zT,(0:Rat)),([],([]:List Nat)))) jA (yJ (yJ (xW (yF dC)) (yF dC)) (yJ qL kO)) fun b7 cs7 rb7=>?_))
  have rw_25:=(Le.p (Le.p (Le.t (Le.q (l:=m+1) oM)) (Le.q (l:=n+1) oM)) (Le.refl _)).R rb7
  refine zR (A:=[]) (uB sizeOf83 pH rw_25 r19) fun cs_26 rb_27=>?_
  refine go4 ?_
  refine lX (xB kF pH rb1) fun v20 r20=>(lX (xB fR pH rb_27) fun v21 r21=>(cL (ev2 rfl rfl) call68 (fun w hs=>tI hs (r20.le (Le.p (Le.refl _) (Le.p (Le.s (Le.p (Le.p (Le.t (Le.q (l:=m+1) oM)) (Le.q (l:=n+1) oM)) (Le.refl _))) (Le.refl _)))) r21 (by first|omega|exact hfo.1|exact hfo.2.1|exact hfo.2.2) (by first|omega|exact hfo.1|exact hfo.2.1|exact hfo.2.2) (by first|omega|exact hfo.1|exact hfo.2.1|exact hfo.2.2)) fun v22 h2 hh2 r22=>?_))
  refine go5 ?_
  refine gcL (ι:=Nat×List Value×List Value×Mem) (fun(q,cs_28,cs_30,mb)=>(MLe h2 mb∧((tPt (20000*k+100000)).R mb cs_28 (zFT (fQ s s.2.1 i++(jL s (s.2.1.getD i zA).2.1 (s.2.1.getD i zA).2.1.length).take q))∧(rpQ (20000*k+100000)).R mb cs_30 (iP (fQ s s.2.1 i++(jL s (s.2.1.getD i zA).2.1 (s.2.1.getD i zA).2.1.length).take q))∧q≤(jL s (s.2.1.getD i zA).2.1 (s.2.1.getD i zA).2.1.length).length),[(1,vP b1 0),(2,vP b2 0),(4,vP b4 0),(5,vP b5 0),(14,v14),(15,vI (↑(s.2.1).length:Int)),(16,vI ↑i),(22,v22),(23,vI (↑(jL s (s.2.1.getD i zA).2.1 (s.2.1.getD i zA).2.1.length).length:Int)),(24,vI ↑q)],[.var b7 83 cs_26,.var b5 26 cs_30,.var b4 53 cs_28,.var b2 53 cs2,.var b1 50 cs1],mb,(jL s (s.2.1.getD i zA).2.1 (s.2.1.getD i zA).2.1.length).length-q)) (0,cs_21,cs_23,h2) ?_ ?_
  ·
   refine⟨MLe.refl _,?_⟩
   replace rb_22:=rb_22.mono hh2
   replace rb_24:=rb_24.mono hh2
   refine⟨(Rp.castR rb_22 (by rw[List.take_zero,List.append_nil])),(Rp.castR rb_24 (by rw[List.take_zero,List.append_nil])),?_⟩
   exact oM
  intro x hx
  obtain⟨q,cs_28,cs_30,mb⟩:=x
  dsimp only at hx
  obtain⟨hmmb,hinv⟩:=hx
  refine yS ?_
  obtain⟨rb_29,rb_31,hinv⟩:=hinv
  have hq1:=hinv
  refine go6 ?_
  refine cnd (fun hc25=>?_) fun hc25=>?_
  ·
   refine go6 ?_
   refine lX (xI (T3.mk zT zT zT) q underlying106 pC r22) fun v26 r26=>(lX (xA pC r26) fun v27 r27=>(nA (ρ:=(rpT (tPt (k+1)))) (X:=(T3.mk zT zT zT)) rZ (xW (xW (yF oM))) fun b9 cs9 rb9=>(zR (A:=[]) (uB sizeOf108 pH rb9 r27) fun cs_32 rb_33=>?_)))
   refine go4 ?_
   refine lX (xB pC pH rb_33) fun v28 r28=>(cL (ev1 rfl) call69 (fun w hs=>aT hs r28 oM) fun v29 h3 hh3 r29=>?_)
   replace r29:=Rp.Is.le r29 (Le.q (l:=20*k+60) oM)
   refine nA (ρ:=(rpQ (20*k+40))) (X:=(0:Rat)) yN (yF oM) fun b10 cs10 rb10=>?_
   have rw_34:=(Le.q (l:=20*k+60) oM).R rb10
   refine zR (A:=[]) (uB sizeOf26 pH rw_34 r29) fun cs_35 rb_36=>?_
   refine go4 ?_
   replace rb_31:=rb_31.mono hh3
   refine lX (xB yA pH rb_31) fun v30 r30=>(lX (xB yA pH rb_36) fun v31 r31=>(cL (ev2 rfl rfl) call70 (fun w hs=>fJ hs r30 r31 oM) fun v32 h4 hh4 r32=>?_))
   replace r32:=Rp.Is.le r32 (Le.q (l:=20020*k+100061) oM)
   replace rb_31:=rb_31.mono hh4
   have rw_37:=(Le.q (l:=20020*k+100061) oM).R rb_31
   refine zR (A:=[_,_,_]) (uB sizeOf26 pH rw_37 r32) fun cs_38 rb_39=>?_
   refine go2 ?_
   refine gD 6 (qq 0 3 [(3,.c),(4,.c),(5,.c),(6,.t)]) (by kernel_rfl) ?_
   replace rb_29:=rb_29.mono (hh3.trans hh4)
   refine wX rfl (xB zS pH rb_29) fun v33 r33=>(wX rfl (xB yA pH rb_36) fun v34 r34=>(wX rfl (xB pC pH rb_33) fun v35 r35=>?_))
   refine w_c rfl (sC (ev1 rfl) call73 (fun w hs=>zCW hs r35 oM) fun v36 h5 hh5 r36=>?_)
   replace r36:=Rp.Is.le r36 (Le.t (Le.q (l:=4*k+14) oM))
   refine w_c rfl (sC (ev2 rfl rfl) call72 (fun w hs=>zAG hs r34.up r36 oM) fun v37 h6 hh6 r37=>?_)
   replace r37:=Rp.Is.le r37 (Le.t (Le.q (l:=24*k+76) oM))
   refine w_c rfl (sC (ev2 rfl rfl) call71 (fun w hs=>zBU hs r33.up r37 oM) fun v38 h7 hh7 r38=>?_)
   replace r38:=Rp.Is.le r38 (Le.t (Le.q (l:=20024*k+100078) oM))
   replace rb_29:=rb_29.mono ((hh5.trans hh6).trans hh7)
   have rw_40:=(Le.t (Le.q (l:=20024*k+100078) oM)).R rb_29
   refine yI (A:=[_,_,_,_]) rfl (uB sizeOf53 pH rw_40 r38) fun cs_41 rb_42=>?_
   refine go7 ?_
   refine vV (A:=[]) (vV (A:=[]) ?_)
   refine gqL ((q+1),cs_41,cs_38,h7) ?_ ?_
   ·
    refine⟨(((((hmmb.trans hh3).trans hh4).trans hh5).trans hh6).trans hh7),?_⟩
    replace rb_39:=rb_39.mono ((hh5.trans hh6).trans hh7)
    refine⟨(zX4 rb_42 (by refine Eq.trans (zNN _ _) ?_;rw[List.append_assoc,rR (T3.mk zT zT zT) oM]) (lq_C (eC hcd3 hps oM))),(zUE rb_39 (by rw[zEH,List.append_assoc,rR (T3.mk zT zT zT) oM]) (yBC (eC hcd3 hps oM))),?_⟩
    exact oM
   omega
  have eq2:q=(jL s (s.2.1.getD i zA).2.1 (s.2.1.getD i zA).2.1.length).length:=by omega
  refine vO ?_
  refine vV (A:=[]) ?_
  refine gqL ((i+1),cs_28,cs_30,mb) ?_ ?_
  ·
   refine⟨((hmma.trans hh2).trans hmmb),?_⟩
   refine⟨(Rp.castR rb_29 (by rw[eq2,List.take_length];rfl)),(Rp.castR rb_31 (by rw[eq2,List.take_length];rfl)),?_⟩
   exact oM
  omega
 have ei:i=s.2.1.length:=by omega
 refine go6 ?_
 refine kE 11 _ [(8,(11,26,[.bool false,.slice none 0 0,.slice none 0 0]))] [(2,.q),(0,.c),(1,.c),(3,.c),(4,.c),(5,.q),(6,.q),(7,.q),(8,.a),(9,.c),(10,.q)] jN (jK.cons rfl rfl (uZ yN rfl rfl) jK.nil) (by kernel_rfl) (qB rfl rfl kM) (fun r hr=>hr) (wX rfl (xB yA pH rb_24) fun v44 r44=>?_)
 refine w_c rfl (sC (vs:=[vI (1)]) ⟨rfl,trivial⟩ call75 (fun w hs=>eP hs dC dC) fun v42 h2 hh2 r42=>?_)
 refine w_c rfl (sC (vs:=[vI (4)]) ⟨rfl,trivial⟩ call75 (fun w hs=>eP hs dC dC) fun v43 h3 hh3 r43=>?_)
 refine w_c rfl (sC (ev2 rfl rfl) call76 (fun w hs=>qS hs r43 r44.up oM) fun v45 h4 hh4 r45=>?_)
 replace r45:=Rp.Is.le r45 (Le.q (l:=20000*k+100002) oM)
 refine w_c rfl (sC (ev2 rfl rfl) call74 (fun w hs=>zEV hs r42.up r45 oM) fun v46 h5 hh5 r46=>?_)
 obtain⟨v46_0,rfl,r46_0⟩:=r46
 change (rpQ (2+(20000*k+100002))).Is h5 v46_0 (if((((4:Int):Int):Rat)*(iP (fQ s s.2.1 i)))=0 then 0 else(((1:Int):Int):Rat)/((((4:Int):Int):Rat)*(iP (fQ s s.2.1 i)))) at r46_0
 replace r46_0:=Rp.Is.le r46_0 (Le.q (l:=20000*k+100004) oM)
 refine go3 ?_
 refine w_a rfl rfl (fun b11=>?_)
 have rb11:(rpQ (20000*k+100010)).R h5 [.bool false,.slice none 0 0,.slice none 0 0] (0:Rat):=(yF oM)
 refine w_c rfl (bE (A:=[]) (uB sizeOf26 pH rb11 (r46_0.le (Le.q (l:=20000*k+100010) oM))) (wM (by first|(simp;done)|grind)) fun cs_43 rb_44=>?_)
 refine vO ?_
 refine cnd (fun hc50=>?_) fun hc50=>?_
 ·
  have hz:((4:Int):Rat)*dS s=0:=by rw[ei] at hc50;exact Classical.not_not.1 (fun e=>hc50 (if_neg e))
  refine go2 ?_
  refine lX (xV (ρ:=(tPt 1)) (xC (ps':=[]) underlying53 yV rfl rfl sizeOf26 trivial rfl (xW (yF dC)) zX)) fun v51 r51=>(zR (A:=[_,_,_]) (uB sizeOf53 pH rb2 (r51.le (Le.t (Le.q (l:=50000*k+300000) oM)))) fun cs_45 rb_46=>?_)
  refine go5 ?_
  refine wL (jZ (t:=2) zS mh3 rfl rb_46) ?_
  intro w_47 hvw_47 rr_48
  refine yE (fun E S=>vW rfl hvw_47 (jP rfl) E S) ?_
  refine⟨_,?_,(Rp.Is.cast rr_48 (by exact(if_pos hz).symm))⟩
  rw[yU (fun e=>e hz)]
 have hnz:¬((4:Int):Rat)*dS s=0:=fun e=>hc50 (by rw[ei];refine(congrArg (· ≠(0:Int)) (if_pos e)).mpr ?_;decide)
 refine go4 ?_
 refine lX (xB yA pH rb_44) fun v52 r52=>?_
 replace rb_22:=rb_22.mono (((hh2.trans hh3).trans hh4).trans hh5)
 refine lX (xB zS pH rb_22) fun v53 r53=>(cL (ev2 rfl rfl) call72 (fun w hs=>zAG hs r52 r53 oM) fun v54 h6 hh6 r54=>?_)
 replace r54:=Rp.Is.le r54 (Le.t (Le.q (l:=40000*k+200012) oM))
 refine zR (A:=[_,_,_]) (uB sizeOf53 pH rb2 (r54.le (Le.t (Le.q (l:=50000*k+300000) oM)))) fun cs_49 rb_50=>?_
 refine go4 ?_
 refine wL (jZ (t:=2) zS mh3 rfl rb_50) ?_
 intro w_51 hvw_51 rr_52
 refine yE (fun E S=>vW rfl hvw_51 (jP rfl) E S) ?_
 refine⟨_,?_,(Rp.Is.cast rr_52 (by rw[ei];unfold cnS dS at *;rw[if_neg hnz,if_neg hnz];rfl))⟩
 rw[xL (show cnO s from hnz)]
theorem zH9{w0:World}{h0:Mem}(hs:MLe h0 (mem w0)){k m n j:Nat}{vs:Value}{s:Sq}(rs:(tSd k m n j).Is h0 vs s){vf:Value}{f:(Pq×((List (List Int))×(List Nat)))}(rf:(tFc m n).Is h0 vf f)(hcd0:k≤10000)(hcd1:zZL s f)(hcd2:(jL s f.2.1 f.2.1.length).length≤1000):
    Calls Tryz.prog 87 #[vs,vf] w0 (Ret w0 h0 (fun h r=>(tPt (20000*k+100010)).Is h r (arV s f))):=by
 have hps:=zL3 rs
 have hfo:=hcd1
 have hfn:=zDJ hps hfo
 refine cb2 34 vs vf func87 hs ?_
 refine go2 ?_
 refine nB rs fun b2 cs2 rb2=>(nB rf fun b3 cs3 rb3=>(nA (ρ:=(tPt (20000*k+100010))) (X:=zT) yV (xW (yF oM)) fun b4 cs4 rb4=>?_))
 refine go4 ?_
 refine nA (ρ:=(tPt (20000*k+100000))) (X:=zT) yV (xW (yF oM)) fun b5 cs5 rb5=>?_
 refine go5 ?_
 refine lX (xB kF pH rb2) fun v8 r8=>(lX (xB fR pH rb3) fun v9 r9=>(cL (ev2 rfl rfl) call68 (fun w hs=>tI hs r8 r9 (by first|omega|exact hfo.1|exact hfo.2.1|exact hfo.2.2) (by first|omega|exact hfo.1|exact hfo.2.1|exact hfo.2.2) (by first|omega|exact hfo.1|exact hfo.2.1|exact hfo.2.2)) fun v10 h1 hh1 r10=>?_))
 refine go5 ?_
 refine gcL (ι:=Nat×List Value×Mem) (fun(q,cs_53,ma)=>(MLe h1 ma∧((tPt (20000*k+100000)).R ma cs_53 (dY ((jL s f.2.1 f.2.1.length).take q))∧q≤(jL s f.2.1 f.2.1.length).length),[(4,vP b4 0),(5,vP b5 0),(10,v10),(11,vI (↑(jL s f.2.1 f.2.1.length).length:Int)),(12,vI ↑q)],[.var b5 53 cs_53,.var b4 53 cs4,.var b3 83 cs3,.var b2 50 cs2],ma,(jL s f.2.1 f.2.1.length).length-q)) (0,cs5,h1) ?_ ?_
 ·
  refine⟨MLe.refl _,?_⟩
  refine⟨rb5.up,?_⟩
  exact oM
 intro x hx
 obtain⟨q,cs_53,ma⟩:=x
 dsimp only at hx
 obtain⟨hmma,hinv⟩:=hx
 refine yS ?_
 obtain⟨rb_54,hinv⟩:=hinv
 have hq1:=hinv
 refine go6 ?_
 refine cnd (fun hc13=>?_) fun hc13=>?_
 ·
  refine go6 ?_
  refine lX (xI (T3.mk zT zT zT) q underlying106 pC r10) fun v14 r14=>(lX (xA pC r14) fun v15 r15=>(nA (ρ:=(rpT (tPt (k+1)))) (X:=(T3.mk zT zT zT)) rZ (xW (xW (yF oM))) fun b7 cs7 rb7=>(zR (A:=[]) (uB sizeOf108 pH rb7 r15) fun cs_55 rb_56=>?_)))
  refine go2 ?_
  refine gD 13 (qq 0 5 (qq 6 4 [(5,.c),(10,.c),(11,.c),(12,.c),(13,.t)])) (vG [0,0,2,0,8,20,0,64,0,256,672,1056,2049,8191] (frz 16383 [0,0,2,0,8,20,0,64,0,256,640,1056,2049,4096]) (by kernel_rfl)) ?_
  refine wX rfl (xB zS pH rb_54) fun v16 r16=>?_
  refine go1 ?_
  refine wX rfl (xB zS (Pc.ty pH) rb_56) fun v18 r18=>?_
  refine go1 ?_
  refine wX rfl (xB zS (Pc.tx pH) rb_56) fun v20 r20=>?_
  refine go1 ?_
  refine wX rfl (xB zS (Pc.tz pH) rb_56) fun v23 r23=>?_
  refine go1 ?_
  refine wX rfl (xB zS (Pc.tx pH) rb_56) fun v25 r25=>?_
  refine w_c rfl (sC (ev2 rfl rfl) call133 (fun w hs=>zMF hs r18 r20 oM) fun v21 h2 hh2 r21=>?_)
  replace r21:=Rp.Is.le r21 (Le.t (Le.q (l:=2*k+4) oM))
  refine w_c rfl (sC (ev2 rfl rfl) call133 (fun w hs=>zMF hs r23.up r25.up oM) fun v26 h3 hh3 r26=>?_)
  replace r26:=Rp.Is.le r26 (Le.t (Le.q (l:=2*k+4) oM))
  refine w_c rfl (sC (ev2 rfl rfl) call132 (fun w hs=>zEU hs r21.up r26 oM) fun v27 h4 hh4 r27=>?_)
  replace r27:=Rp.Is.le r27 (Le.t (Le.q (l:=8*k+19) oM))
  refine w_c rfl (sC (ev2 rfl rfl) call71 (fun w hs=>zBU hs r16.up r27 oM) fun v28 h5 hh5 r28=>?_)
  replace r28:=Rp.Is.le r28 (Le.t (Le.q (l:=20008*k+100021) oM))
  replace rb_54:=rb_54.mono (((hh2.trans hh3).trans hh4).trans hh5)
  have rw_57:=(Le.t (Le.q (l:=20008*k+100021) oM)).R rb_54
  refine yI (A:=[_]) rfl (uB sizeOf53 pH rw_57 r28) fun cs_58 rb_59=>?_
  refine go7 ?_
  refine vV (A:=[]) ?_
  refine gqL ((q+1),cs_58,h5) ?_ ?_
  ·
   refine⟨((((hmma.trans hh2).trans hh3).trans hh4).trans hh5),?_⟩
   refine⟨(zX4 rb_59 (by refine Eq.trans (zNM _ _) ?_;rw[rR (T3.mk zT zT zT) oM]) (lq_V ⟨by rw[List.length_take];omega,fun t ht=>hfn t (List.mem_of_mem_take ht)⟩)),?_⟩
   exact oM
  omega
 have eq2:q=(jL s f.2.1 f.2.1.length).length:=by omega
 refine go6 ?_
 refine gD 4 [(2,.q),(0,.c),(1,.c),(3,.c),(4,.t)] (by kernel_rfl) ?_
 refine wX rfl (xB zS pH rb_54) fun v32 r32=>?_
 refine w_c rfl (sC (vs:=[vI (1)]) ⟨rfl,trivial⟩ call75 (fun w hs=>eP hs dC dC) fun v30 h2 hh2 r30=>?_)
 refine w_c rfl (sC (vs:=[_,vI (2)]) e2z call83 (fun w hs=>nY hs r30 dC dC dC oM) fun v31 h3 hh3 r31=>?_)
 replace r31:=Rp.Is.le r31 (Le.q (l:=6) oM)
 refine w_c rfl (sC (ev2 rfl rfl) call72 (fun w hs=>zAG hs r31 r32.up oM) fun v33 h4 hh4 r33=>?_)
 replace r33:=Rp.Is.le r33 (Le.t (Le.q (l:=20000*k+100008) oM))
 refine yI (A:=[_]) rfl (uB sizeOf53 pH rb4 (r33.le (Le.t (Le.q (l:=20000*k+100010) oM)))) fun cs_60 rb_61=>?_
 refine go3 ?_
 refine wL (jZ (t:=4) zS mh1 rfl rb_61) ?_
 intro w_62 hvw_62 rr_63
 refine yE (fun E S=>zP rfl hvw_62 E S) ?_
 exact(Rp.Is.cast rr_63 (by rw[eq2,List.take_length];rfl))
theorem u5{w0:World}{h0:Mem}(hs:MLe h0 (mem w0)){k m n j:Nat}{vs:Value}{s:Sq}(rs:(tSd k m n j).Is h0 vs s){d:Int}(hd1:-9223372036854775808≤d)(hd2:d<9223372036854775808)(hcd0:k≤10000)(hcd1:nmA s)(hcd2:∀f,f<s.2.1.length→(s.2.1.getD f zA).2.1.length≤10000∧∀l,l<(s.2.1.getD f zA).2.1.length→((s.2.1.getD f zA).2.1.getD l []).length≤10000)(hcd3:zGT s s.2.1)(hcd4:zZ1 s)(hcd5:0≤d)(hcd6:d≤64):
    Calls Tryz.prog 40 #[vs,vI d] w0 (Ret w0 h0 (fun h r=>∃u0,r=.tuple #[u0,vB (True)]∧(rpP (rpQ 400000) (rpQ 400000)).Is h u0 (arS s d s.2.1.length))):=by
 have hfl:=hcd3.2.1
 refine cb2 42 vs (vI d) func40 hs ?_
 refine go2 ?_
 refine nB rs fun b2 cs2 rb2=>(nA (ρ:=(rpP (rpQ 400000) (rpQ 400000))) (X:=((0:Rat),(0:Rat))) gC (yJ (yF dC) (yF dC)) fun b4 cs4 rb4=>?_)
 refine go8 ?_
 refine gU 4 17 (vB ((d<(0:Int))∨((64:Int)<d))) ?_ ?_
 ·
  refine yB (d<(0:Int)) (fun hg=>?_) (fun hg=>?_)
  ·
   refine gT hg rfl ?_
   refine go4 ?_
   refine gqU ?_
   exact congrArg some (uA hg)
  refine gF hg rfl ?_
  refine go6 ?_
  refine gqU ?_
  exact congrArg some (uC hg)
 refine go2 ?_
 refine cnd (fun hc17=>?_) fun hc17=>?_
 ·
  exact absurd hc17 oM
 refine go4 ?_
 refine nA (ρ:=(rpP (rpQ 400000) (rpQ 400000))) (X:=((0:Rat),(0:Rat))) gC (yJ (yF dC) (yF dC)) fun b6 cs6 rb6=>?_
 refine go5 ?_
 refine lX (xB kF pH rb2) fun v19 r19=>(cL (ev1 rfl) call67 (fun w hs=>cP hs r19 (by first|omega|exact hcd1|exact hcd2|exact hcd3.2.1) (by first|omega|exact hcd1|exact hcd2|exact hcd3.2.1) (by first|omega|exact hcd1|exact hcd2|exact hcd3.2.1)) fun v20 h1 hh1 r20=>?_)
 refine go5 ?_
 refine gcL (ι:=Nat×List Value×Mem) (fun(i,cs_64,ma)=>(MLe h1 ma∧((rpP (rpQ 400000) (rpQ 400000)).R ma cs_64 (arS s d i)∧i≤s.2.1.length),[(1,vI d),(2,vP b2 0),(4,vP b4 0),(6,vP b6 0),(20,v20),(21,vI (↑(s.2.1).length:Int)),(22,vI ↑i)],[.var b6 34 cs_64,.var b4 34 cs4,.var b2 50 cs2],ma,s.2.1.length-i)) (0,cs6,h1) ?_ ?_
 ·
  refine⟨MLe.refl _,?_⟩
  refine⟨rb6.up,?_⟩
  exact oM
 intro x hx
 obtain⟨i,cs_64,ma⟩:=x
 dsimp only at hx
 obtain⟨hmma,hinv⟩:=hx
 refine yS ?_
 obtain⟨rb_65,hinv⟩:=hinv
 have hi1:=hinv
 refine go6 ?_
 refine cnd (fun hc23=>?_) fun hc23=>?_
 ·
  have hfo:=hcd3.1 i oM
  have hfc:=j9 hcd3 (i:=i) oM
  refine go6 ?_
  refine lX (xI zA i underlying47 fR r20) fun v24 r24=>(lX (xA fR r24) fun v25 r25=>(nA (ρ:=(tFc 1 1)) (X:=((zT,(0:Rat)),([],([]:List Nat)))) jA (yJ (yJ (xW (yF dC)) (yF dC)) (yJ qL kO)) fun b8 cs8 rb8=>?_))
  have rw_66:=(Le.p (Le.p (Le.t (Le.q (l:=m+1) oM)) (Le.q (l:=n+1) oM)) (Le.refl _)).R rb8
  refine zR (A:=[]) (uB sizeOf83 pH rw_66 r25) fun cs_67 rb_68=>?_
  refine go4 ?_
  refine lX (xB kF pH rb2) fun v26 r26=>(lX (xB fR pH rb_68) fun v27 r27=>(cL (ev2 rfl rfl) call87 (fun w hs=>zH9 hs (r26.le (Le.p (Le.refl _) (Le.p (Le.s (Le.p (Le.p (Le.t (Le.q (l:=m+1) oM)) (Le.q (l:=n+1) oM)) (Le.refl _))) (Le.refl _)))) r27 (by first|omega|exact hfo|exact hfc) (by first|omega|exact hfo|exact hfc) (by first|omega|exact hfo|exact hfc)) fun v28 h2 hh2 r28=>(nA (ρ:=(tPt (20000*k+100010))) (X:=zT) yV (xW (yF oM)) fun b9 cs9 rb9=>(zR (A:=[]) (uB sizeOf53 pH rb9 r28) fun cs_69 rb_70=>?_))))
  refine go4 ?_
  refine lX (xB zS pH rb_70) fun v30 r30=>(lX (xB zS pH rb_70) fun v31 r31=>(cL (ev2 rfl rfl) call88 (fun w hs=>zMG hs r30 r31 oM) fun v32 h3 hh3 r32=>?_))
  replace r32:=Rp.Is.le r32 (Le.q (l:=120000*k+600069) oM)
  replace r32:(rpQ 200).Is h3 v32 (jG (arV s (s.2.1.getD i zA)) (arV s (s.2.1.getD i zA))):=(reb r32 rfl (hcd4 i oM))
  refine go1 ?_
  refine cL (ev2 rfl rfl) call13 (fun w hs=>oT hs r32 oM oM dC) fun v34 h4 hh4 r34=>?_
  obtain⟨v34_0,rfl,r34_0⟩:=r34
  change (rpP (rpQ (200+140)) (rpQ (200+140))).Is h4 v34_0 (cD (jG (arV s (s.2.1.getD i zA)) (arV s (s.2.1.getD i zA))) d,cQ (jG (arV s (s.2.1.getD i zA)) (arV s (s.2.1.getD i zA))) d) at r34_0
  replace r34_0:=Rp.Is.le r34_0 (Le.p (Le.q (l:=340) oM) (Le.q (l:=340) oM))
  refine go3 ?_
  refine nA (ρ:=(rpP (rpQ 340) (rpQ 340))) (X:=((0:Rat),(0:Rat))) gC (yJ (yF dC) (yF dC)) fun b10 cs10 rb10=>(zR (A:=[]) (uB sizeOf34 pH rb10 r34_0) fun cs_71 rb_72=>?_)
  refine go4 ?_
  replace rb_65:=rb_65.mono ((hh2.trans hh3).trans hh4)
  refine lX (xB zG5 pH rb_65) fun v37 r37=>(lX (xB zG5 pH rb_72) fun v38 r38=>(cL (ev2 rfl rfl) call89 (fun w hs=>zKN hs r37 r38 dC) fun v39 h5 hh5 r39=>?_))
  replace r39:=Rp.Is.le r39 (Le.p (Le.q (l:=400341) oM) (Le.q (l:=400341) oM))
  replace rb_65:=rb_65.mono hh5
  have rw_73:=(Le.p (Le.q (l:=400341) dC) (Le.q (l:=400341) dC)).R rb_65
  refine zR (A:=[_,_,_]) (uB sizeOf34 pH rw_73 r39) fun cs_74 rb_75=>?_
  refine go7 ?_
  refine vV (A:=[]) (vV (A:=[]) (vV (A:=[]) ?_))
  refine gqL ((i+1),cs_74,h5) ?_ ?_
  ·
   refine⟨((((hmma.trans hh2).trans hh3).trans hh4).trans hh5),?_⟩
   refine⟨(reb2 rb_75 rfl (by have:=(zLD hcd4 d (i+1) oM).1;omega) (by have:=(zLD hcd4 d (i+1) oM).2;omega)),?_⟩
   exact oM
  omega
 have ei:i=s.2.1.length:=by omega
 refine go7 ?_
 refine lX (xB zG5 pH rb_65) fun v41 r41=>(zR (A:=[_]) (uB sizeOf34 pH rb4 r41) fun cs_76 rb_77=>?_)
 refine go4 ?_
 refine wL (jZ (t:=4) zG5 mh1 rfl rb_77) ?_
 intro w_78 hvw_78 rr_79
 refine yE (fun E S=>vW rfl hvw_78 (jP rfl) E S) ?_
 refine⟨_,?_,(Rp.Is.cast rr_79 (by rw[ei]))⟩
 rw[xL trivial]
end Go.Proofs.YtboaboflnckgoaaGreat
namespace Go.Proofs.YtboaboflnckgoaaGreat
open Bk Go Tryz
set_option linter.unusedVariables false
set_option linter.unusedSimpArgs false
set_option maxRecDepth 10000
set_option maxHeartbeats 1000000
attribute [local irreducible] GL GC GQ W OpV
theorem zRC{w0:World}{h0:Mem}(hs:MLe h0 (mem w0)){k l:Nat}{vp:Value}{p:Tq}(rp:(tPt k).Is h0 vp p){vq:Value}{q:Tq}(rq:(tPt l).Is h0 vq q)(hcd0:k≤100000000)(hcd1:l≤100000000):
    Calls Tryz.prog 175 #[vp,vq] w0 (Ret w0 h0 (fun _ r=>r=vB (lsP p q))):=by
 refine cb2 22 vp vq func175 hs ?_
 refine go2 ?_
 refine nB rp fun b2 cs2 rb2=>(nB rq fun b3 cs3 rb3=>?_)
 refine vO ?_
 refine gcL (ι:=Nat×Mem) (fun(i,ma)=>(MLe h0 ma∧(i≤3∧∀u,u<i→wG (p.at u) (q.at u)=0),[(2,vP b2 0),(3,vP b3 0),(5,vI ↑i)],[.var b3 53 cs3,.var b2 53 cs2],ma,3-i)) (0,h0) ?_ ?_
 ·
  refine⟨MLe.refl _,?_⟩
  exact⟨by omega,fun u h=>by omega⟩
 intro x hx
 obtain⟨i,ma⟩:=x
 dsimp only at hx
 obtain⟨hmma,hinv⟩:=hx
 refine yS ?_
 obtain⟨hi1,hi2⟩:=hinv
 refine go7 ?_
 refine cnd (fun hc8=>?_) fun hc8=>?_
 ·
  refine go5 ?_
  refine gD 8 (qq 0 6 [(6,.c),(7,.q)]) (by kernel_rfl) ?_
  refine go1 ?_
  refine xJ rfl (fun _ _=>(zW (sz:=3) i underlying53 sizeOf26 rfl rfl rfl oM).cv (show _=vP b2 ((i*3+0)) from congrArg (vP b2) oM)) rfl (wX rfl (xB yA (Pc.ta pH i oM) rb2) fun v13 r13=>?_)
  refine go1 ?_
  refine xJ rfl (fun _ _=>(zW (sz:=3) i underlying53 sizeOf26 rfl rfl rfl oM).cv (show _=vP b3 ((i*3+0)) from congrArg (vP b3) oM)) rfl (wX rfl (xB yA (Pc.ta pH i oM) rb3) fun v16 r16=>?_)
  refine w_c rfl (sC (ev2 rfl rfl) call18 (fun w hs=>kA hs r13 r16 oM) fun v17 h1 hh1 r17=>?_)
  obtain rfl:v17=vI (wG (p.at i) (q.at i)):=r17
  have hcr17:=jB (p.at i) (q.at i)
  refine go9 ?_
  refine cnd (fun hc19=>?_) fun hc19=>?_
  ·
   refine sL ?_
   refine zD rfl rfl ?_
   exact fL (yBA oM hi2 hc19)
  refine go8 ?_
  refine gqL ((i+1),h1) ?_ ?_
  ·
   refine⟨(hmma.trans hh1),?_⟩
   exact⟨by omega,qN (Q:=fun u=>wG (p.at u) (q.at u)=0) hi2 (Classical.not_not.1 hc19)⟩
  omega
 have ei:i=3:=by omega
 refine uP ?_
 refine zD rfl rfl ?_
 exact(yU (zYT fun u hu=>hi2 u oM)).symm
theorem zBB{w0:World}{h0:Mem}(hs:MLe h0 (mem w0)){va:Value}{a:(List Int)}(ra:(rpS rpI).Is h0 va a){vb:Value}{b:(List Int)}(rb:(rpS rpI).Is h0 vb b):
    Calls Tryz.prog 178 #[va,vb] w0 (Ret w0 h0 (fun _ r=>r=vI (pX a b))):=by
 have hla:=yAU ra
 have hlb:=yAU rb
 refine cb2 48 va vb func178 hs ?_
 refine uN ?_
 refine gcL (ι:=Nat×Mem) (fun(i,ma)=>(MLe h0 ma∧((i≤a.length∧i≤b.length)∧∀u,u<i→a.getD u 0=b.getD u 0),[(0,va),(1,vb),(5,vI ↑i)],[],ma,a.length-i)) (0,h0) ?_ ?_
 ·
  refine⟨MLe.refl _,?_⟩
  exact⟨by omega,fun u h=>by omega⟩
 intro x hx
 obtain⟨i,ma⟩:=x
 dsimp only at hx
 obtain⟨hmma,hinv⟩:=hx
 refine yS ?_
 obtain⟨hi1,hi2⟩:=hinv
 refine go7 ?_
 refine gU 6 15 (vB (((↑i:Int)<(↑(a).length:Int))∧((↑i:Int)<(↑(b).length:Int)))) ?_ ?_
 ·
  refine yB ((↑i:Int)<(↑(a).length:Int)) (fun hg=>?_) (fun hg=>?_)
  ·
   refine gT hg rfl ?_
   refine vO ?_
   refine gqU ?_
   exact congrArg some (xM hg)
  refine gF hg rfl ?_
  refine go6 ?_
  refine gqU ?_
  exact congrArg some (xN hg)
 refine go2 ?_
 refine cnd (fun hc15=>?_) fun hc15=>?_
 ·
  refine go5 ?_
  refine gD 9 (qq 0 9 []) (by kernel_rfl) ?_
  refine go2 ?_
  refine wX rfl (xI (0:Int) i underlying32 ty3 ra) fun v20 r20=>(wX rfl (xA ty3 r20) fun v21 r21=>?_)
  obtain⟨rfl,hl21,hu21⟩:=jW r21
  refine go2 ?_
  refine wX rfl (xI (0:Int) i underlying32 ty3 rb) fun v24 r24=>(wX rfl (xA ty3 r24) fun v25 r25=>?_)
  obtain⟨rfl,hl25,hu25⟩:=jW r25
  refine go3 ?_
  refine cnd (fun hc26=>?_) fun hc26=>?_
  ·
   refine go2 ?_
   refine gD 9 (qq 0 9 []) (by kernel_rfl) ?_
   refine go2 ?_
   refine wX rfl (xI (0:Int) i underlying32 ty3 ra) fun v29 r29=>(wX rfl (xA ty3 r29) fun v30 r30=>?_)
   obtain⟨rfl,hl30,hu30⟩:=jW r30
   refine go2 ?_
   refine wX rfl (xI (0:Int) i underlying32 ty3 rb) fun v33 r33=>(wX rfl (xA ty3 r33) fun v34 r34=>?_)
   obtain⟨rfl,hl34,hu34⟩:=jW r34
   refine go3 ?_
   refine cnd (fun hc35=>?_) fun hc35=>?_
   ·
    refine uN ?_
    refine zD rfl rfl ?_
    refine congrArg vI ?_;rw[zM7 hi2 oM oM hc26,if_pos hc35]
   refine sL ?_
   refine zD rfl rfl ?_
   refine congrArg vI ?_;rw[zM7 hi2 oM oM hc26,if_neg hc35]
  refine go8 ?_
  refine gqL ((i+1),ma) ?_ ?_
  ·
   refine⟨hmma,?_⟩
   exact⟨by omega,qN (Q:=fun u=>a.getD u 0=b.getD u 0) hi2 (Classical.not_not.1 hc26)⟩
  omega
 have ei:i=min a.length b.length:=by omega
 refine dG ?_
 refine cnd (fun hc36=>?_) fun hc36=>?_
 ·
  refine go8 ?_
  refine zD rfl rfl ?_
  refine congrArg vI ?_;rw[zDN hi2 ei,if_pos oM]
 refine vO ?_
 refine cnd (fun hc42=>?_) fun hc42=>?_
 ·
  refine go8 ?_
  refine zD rfl rfl ?_
  refine congrArg vI ?_;rw[zDN hi2 ei,if_neg oM,if_pos oM]
 refine go9 ?_
 refine zD rfl rfl ?_
 refine congrArg vI ?_;rw[zDN hi2 ei,if_neg oM,if_neg oM]
theorem zKS{w0:World}{h0:Mem}(hs:MLe h0 (mem w0)){vx:Value}{x:(List Int)}(rx:(rpS rpI).Is h0 vx x)(hcd0:x.length≤100000):
    Calls Tryz.prog 177 #[vx] w0 (Ret w0 h0 (fun h r=>(rpS rpI).Is h r (zQE x))):=by
 refine cb1 29 vx func177 hs ?_
 refine dG ?_
 refine vC (ι:=Nat×Mem) (fun(i,ma)=>MLe h0 ma∧(i≤x.length)) (fun(i,ma)=>[(0,vx),(3,vI ↑(rN x i)),(4,vI ↑i)]) (fun(i,ma)=>[]) (fun(i,ma)=>ma) (fun(i,ma)=>x.length-i) (0,h0) ?_ e3z rfl rfl ?_
 ·
  refine⟨MLe.refl _,?_⟩
  exact oM
 intro x hx
 obtain⟨i,ma⟩:=x
 obtain⟨hmma,hinv⟩:=hx
 refine yS ?_
 have hi1:=hinv
 have hmn:=zWE x i
 replace rx:=rx.mono hmma
 refine go9 ?_
 refine cnd (fun hc8=>?_) fun hc8=>?_
 ·
  refine go5 ?_
  refine gD 9 (qq 0 9 []) (by kernel_rfl) ?_
  refine go2 ?_
  refine wX rfl (xI (0:Int) i underlying32 ty3 rx) fun v13 r13=>(wX rfl (xA ty3 r13) fun v14 r14=>?_)
  obtain⟨rfl,hl14,hu14⟩:=jW r14
  refine go2 ?_
  refine wX rfl (xI (0:Int) (rN x i) underlying32 ty3 rx) fun v17 r17=>(wX rfl (xA ty3 r17) fun v18 r18=>?_)
  obtain⟨rfl,hl18,hu18⟩:=jW r18
  refine go3 ?_
  refine cnd (fun hc19=>?_) fun hc19=>?_
  ·
   refine uP ?_
   refine yQ ((i+1),ma) ?_ ?_ ⟨rfl,?_,rfl,trivial⟩ rfl rfl
   ·
    refine⟨hmma,?_⟩
    exact oM
   ·
    dsimp only
    omega
   · exact congrArg (fun z:Nat=>some (vI ↑z)) (mn_t hc19)
  refine go8 ?_
  refine yQ ((i+1),ma) ?_ ?_ ⟨rfl,?_,rfl,trivial⟩ rfl rfl
  ·
   refine⟨hmma,?_⟩
   exact oM
  ·
   dsimp only
   omega
  · exact congrArg (fun z:Nat=>some (vI ↑z)) (mn_f hc19)
 have ei:i=x.length:=by omega
 refine go6 ?_
 refine gD 9 (qq 0 3 (qq 4 3 [(3,.c),(7,.c),(8,.q)])) (by kernel_rfl) ?_
 refine go2 ?_
 refine mZ (F:=fun v_=>(rpS rpI).Is ma v_ (x.drop (rN x i))) rfl (zKB (ρ:=rpI) (rN x i) underlying32 sizeOf3 rfl rfl rx oM oM) zBI rfl ?_
 intro v23 r23
 refine go2 ?_
 refine mZ (F:=fun v_=>(rpS rpI).Is ma v_ (x.take (rN x i))) rfl (zKC (ρ:=rpI) (rN x i) underlying32 sizeOf3 rfl rfl rx oM oM) zBI rfl ?_
 intro v27 r27
 refine w_c rfl (zP5 3 1 ?_)
 have rl_1:RL rpI ma [] ([]:List Int):=RL.nil
 refine sR (A:=[]) (fun X=>yD (ρ:=rpI) (bytes:=8) underlying32 gK rfl rfl rfl rfl nP rfl rfl rl_1 r23 (by first|omega|(simp only[lAz,List.length_drop,List.length_take,lN];omega)) (by first|omega|(simp only[lAz,List.length_drop,List.length_take,lN];omega))) rfl (wM (by first|(simp;done)|grind)) ?_
 intro v24 q24 hq24
 obtain⟨cs24,rfl,rl24⟩:=hq24
 refine w_c rfl (sR (A:=[]) (fun X=>yD (ρ:=rpI) (bytes:=8) underlying32 gK rfl rfl rfl rfl nP rfl rfl rl24 r27 (by first|omega|(simp only[lAz,List.length_drop,List.length_take,lN];omega)) (by first|omega|(simp only[lAz,List.length_drop,List.length_take,lN];omega))) rfl (wM (by first|(simp;done)|grind)) ?_)
 intro v28 q28 hq28
 obtain⟨cs28,rfl,rl28⟩:=hq28
 refine go4 ?_
 refine wW (A:=[]) (ρ:=rpI) rl28 ?_
 intro h1 hh1 rs_2
 refine zD rfl rfl ?_
 exact(Rp.Is.cast rs_2 (by rw[ei,List.nil_append];rfl))
theorem zGE{w0:World}{h0:Mem}(hs:MLe h0 (mem w0)){m n k l:Nat}{va:Value}{a:(Pq×((List (List Int))×(List Nat)))}(ra:(tFc m n).Is h0 va a){vb:Value}{b:(Pq×((List (List Int))×(List Nat)))}(rb:(tFc k l).Is h0 vb b)(hcd0:a.2.1.length≤100000)(hcd1:b.2.1.length≤100000):
    Calls Tryz.prog 129 #[va,vb] w0 (Ret w0 h0 (fun _ r=>r=vB (lsF a b))):=by
 refine cb2 53 va vb func129 hs ?_
 refine go2 ?_
 refine nB ra fun b2 cs2 rb2=>(nB rb fun b3 cs3 rb3=>?_)
 refine go7 ?_
 refine lX (xB ty9 (Pc.snd (Pc.snd pH)) rb2) fun v8 r8=>?_
 obtain⟨rfl,hb8⟩:=kH r8
 refine go1 ?_
 refine lX (xB ty9 (Pc.snd (Pc.snd pH)) rb3) fun v10 r10=>?_
 obtain⟨rfl,hb10⟩:=kH r10
 refine gv (zQW (pa:=a.2.2) (pb:=b.2.2) hb8 hb10 rfl rfl) rfl ?_
 refine go2 ?_
 refine cnd (fun hc11=>?_) fun hc11=>?_
 ·
  refine go3 ?_
  refine lX (xB ty9 (Pc.snd (Pc.snd pH)) rb2) fun v13 r13=>?_
  obtain⟨rfl,hb13⟩:=kH r13
  refine go1 ?_
  refine lX (xB ty9 (Pc.snd (Pc.snd pH)) rb3) fun v15 r15=>?_
  obtain⟨rfl,hb15⟩:=kH r15
  refine gv (zQ0 (pa:=a.2.2) (pb:=b.2.2) hb13 hb15 rfl rfl) rfl ?_
  refine go5 ?_
  refine zD rfl rfl ?_
  exact fL (Iff.of_eq (if_neg hc11).symm)
 have hnm:a.2.2=b.2.2:=Classical.not_not.1 hc11
 refine go9 ?_
 refine gcL (ι:=Nat×Mem) (fun(i,ma)=>(MLe h0 ma∧((i≤a.2.1.length∧i≤b.2.1.length)∧∀u,u<i→pX (a.2.1.getD u []) (b.2.1.getD u [])=0),[(2,vP b2 0),(3,vP b3 0),(5,vI ↑i)],[.var b3 83 cs3,.var b2 83 cs2],ma,a.2.1.length-i)) (0,h0) ?_ ?_
 ·
  refine⟨MLe.refl _,?_⟩
  exact⟨by omega,fun u h=>by omega⟩
 intro x hx
 obtain⟨i,ma⟩:=x
 dsimp only at hx
 obtain⟨hmma,hinv⟩:=hx
 refine yS ?_
 obtain⟨hi1,hi2⟩:=hinv
 refine go5 ?_
 refine lX (xB cK (Pc.snd (Pc.fst pH)) rb2) fun v19 r19=>?_
 refine go2 ?_
 refine gU 7 28 (vB (((↑i:Int)<(↑(a.2.1).length:Int))∧((↑i:Int)<(↑(b.2.1).length:Int)))) ?_ ?_
 ·
  refine yB ((↑i:Int)<(↑(a.2.1).length:Int)) (fun hg=>?_) (fun hg=>?_)
  ·
   refine gT hg rfl ?_
   refine go5 ?_
   refine lX (xB cK (Pc.snd (Pc.fst pH)) rb3) fun v25 r25=>?_
   refine go6 ?_
   refine gqU ?_
   exact congrArg some (xM hg)
  refine gF hg rfl ?_
  refine go7 ?_
  refine gqU ?_
  exact congrArg some (xN hg)
 refine go2 ?_
 refine cnd (fun hc28=>?_) fun hc28=>?_
 ·
  refine go5 ?_
  refine gD 12 (qq 0 10 [(10,.c),(11,.q)]) (vG [0,1,0,6,8,0,32,0,192,256,528,2047] (frz 4095 [0,1,0,6,8,0,32,0,192,256,528,1024]) (by kernel_rfl)) ?_
  refine go1 ?_
  refine wX rfl (xB cK (Pc.snd (Pc.fst pH)) rb2) fun v32 r32=>?_
  refine go1 ?_
  refine wX rfl (xI [] i underlying81 fO r32) fun v34 r34=>(wX rfl (xA fO r34) fun v35 r35=>?_)
  refine go1 ?_
  refine wX rfl (xB cK (Pc.snd (Pc.fst pH)) rb3) fun v37 r37=>?_
  refine go1 ?_
  refine wX rfl (xI [] i underlying81 fO r37) fun v39 r39=>(wX rfl (xA fO r39) fun v40 r40=>?_)
  refine w_c rfl (sC (ev2 rfl rfl) call178 (fun w hs=>zBB hs r35 r40) fun v41 h1 hh1 r41=>?_)
  obtain rfl:v41=vI (pX (a.2.1.getD i []) (b.2.1.getD i [])):=r41
  have hcr41:=dM (a.2.1.getD i []) (b.2.1.getD i [])
  refine go9 ?_
  refine cnd (fun hc43=>?_) fun hc43=>?_
  ·
   refine sL ?_
   refine zD rfl rfl ?_
   exact fL ((zU6 hi2 oM oM hc43).symm.trans (Iff.of_eq (if_pos hnm).symm))
  refine go8 ?_
  refine gqL ((i+1),h1) ?_ ?_
  ·
   refine⟨(hmma.trans hh1),?_⟩
   exact⟨by omega,qN (Q:=fun u=>pX (a.2.1.getD u []) (b.2.1.getD u [])=0) hi2 (Classical.not_not.1 hc43)⟩
  omega
 have ei:i=min a.2.1.length b.2.1.length:=by omega
 refine go8 ?_
 refine lX (xB cK (Pc.snd (Pc.fst pH)) rb2) fun v47 r47=>?_
 refine go2 ?_
 refine lX (xB cK (Pc.snd (Pc.fst pH)) rb3) fun v50 r50=>?_
 refine go6 ?_
 refine zD rfl rfl ?_
 exact fL (Iff.trans oM ((zRU hi2 ei).symm.trans (Iff.of_eq (if_pos hnm).symm)))
theorem zOD{w0:World}{h0:Mem}(hs:MLe h0 (mem w0)){m n:Nat}{vs:Value}{s:Pq}(rs:(tPl m n).Is h0 vs s)(hcd0:m≤10000000)(hcd1:n≤10000000):
    Calls Tryz.prog 64 #[vs] w0 (Ret w0 h0 (fun h r=>(tPl (4*m+10) (m+n+10)).Is h r (scZ s))):=by
 refine cb1 36 vs func64 hs ?_
 refine go2 ?_
 refine nB rs fun b1 cs1 rb1=>(nA (ρ:=(tPl 1 1)) (X:=(zT,(0:Rat))) mE (yJ (xW (yF dC)) (yF dC)) fun b2 cs2 rb2=>?_)
 refine go9 ?_
 refine gcL (ι:=Nat×Mem) (fun(i,ma)=>(MLe h0 ma∧(i≤3∧∀u,u<i→xH (s.1.at u)=0),[(1,vP b1 0),(2,vP b2 0),(3,vI ↑i)],[.var b2 80 cs2,.var b1 80 cs1],ma,3-i)) (0,h0) ?_ ?_
 ·
  refine⟨MLe.refl _,?_⟩
  exact⟨by omega,fun u h=>by omega⟩
 intro x hx
 obtain⟨i,ma⟩:=x
 dsimp only at hx
 obtain⟨hmma,hinv⟩:=hx
 refine yS ?_
 obtain⟨hi1,hi2⟩:=hinv
 refine go7 ?_
 refine cnd (fun hc7=>?_) fun hc7=>?_
 ·
  refine go8 ?_
  refine gv ((zW (sz:=3) i underlying53 sizeOf26 rfl rfl rfl oM).cv (show _=vP b1 ((i*3+0)) from congrArg (vP b1) oM)) rfl ?_
  replace rb1:=rb1.mono hmma
  refine lX (xB yA (Pc.fst (Pc.ta pH i oM)) rb1) fun v13 r13=>(cL (ev1 rfl) call17 (fun w hs=>qO hs r13 oM) fun v14 h1 hh1 r14=>?_)
  obtain rfl:v14=vI (xH (s.1.at i)):=r14
  have hsr14:=wH (s.1.at i)
  refine go3 ?_
  refine cnd (fun hc15=>?_) fun hc15=>?_
  ·
   refine go1 ?_
   refine kE 13 _ [(10,(4,26,[.bool false,.slice none 0 0,.slice none 0 0]))] [(1,.q),(2,.q),(3,.q),(4,.q),(0,.c),(5,.c),(6,.c),(7,.q),(8,.q),(9,.q),(10,.a),(11,.c),(12,.q)] jN (jK.cons rfl rfl (uZ yN rfl rfl) jK.nil) (vG [0,0,0,6,8,17,33,64,128,128,0,1535,4095] [8191,8191,8191,8185,8183,8175,8158,8127,8063,8063,8191,6911,7679] (by kernel_rfl)) (qB rfl rfl kM) (fun r hr=>hr) ?_
   refine go2 ?_
   refine xJ rfl (fun _ _=>(zW (sz:=3) i underlying53 sizeOf26 rfl rfl rfl oM).cv (show _=vP b1 ((i*3+0)) from congrArg (vP b1) oM)) rfl ?_
   replace rb1:=rb1.mono hh1
   refine wX rfl (xB yA (Pc.fst (Pc.ta pH i oM)) rb1) fun v21 r21=>?_
   refine w_c rfl (sC (vs:=[vI (1)]) ⟨rfl,trivial⟩ call39 (fun w hs=>jR hs dC dC) fun v17 h2 hh2 r17=>?_)
   refine w_c rfl (sC (ev1 rfl) call29 (fun w hs=>zKP hs r21.up oM) fun v22 h3 hh3 r22=>?_)
   refine w_c rfl (sC (ev2 rfl rfl) call112 (fun w hs=>zKO hs r17.up r22 oM) fun v23 h4 hh4 r23=>?_)
   obtain⟨v23_0,rfl,r23_0⟩:=r23
   change (rpQ (2+m)).Is h4 v23_0 (if(dO (s.1.at i))=0 then 0 else(((1:Int):Int):Rat)/(dO (s.1.at i))) at r23_0
   replace r23_0:=Rp.Is.le r23_0 (Le.q (l:=m+2) oM)
   refine go3 ?_
   refine w_a rfl rfl (fun b4=>?_)
   have rb4:(rpQ 1).R h4 [.bool false,.slice none 0 0,.slice none 0 0] (0:Rat):=(yF dC)
   refine w_c rfl ?_
   have rw_3:=(Le.q (l:=m+2) oM).R rb4
   refine bE (A:=[]) (uB sizeOf26 pH rw_3 r23_0) (wM (by first|(simp;done)|grind)) fun cs_4 rb_5=>?_
   refine go4 ?_
   refine gD 9 (qq 0 3 (qq 4 3 [(3,.c),(7,.c),(8,.q),(9,.t)])) (by kernel_rfl) ?_
   refine wX rfl (xB yA pH rb_5) fun v26 r26=>?_
   refine go1 ?_
   replace rb1:=rb1.mono ((hh2.trans hh3).trans hh4)
   refine wX rfl (xB zS (Pc.fst pH) rb1) fun v28 r28=>(wX rfl (xB yA pH rb_5) fun v30 r30=>?_)
   refine go1 ?_
   refine wX rfl (xB yA (Pc.snd pH) rb1) fun v32 r32=>?_
   refine w_c rfl (sC (ev2 rfl rfl) call111 (fun w hs=>zKR hs r26 r28 oM) fun v29 h5 hh5 r29=>?_)
   replace r29:=Rp.Is.le r29 (Le.t (Le.q (l:=4*m+7) oM))
   refine w_c rfl (sC (ev2 rfl rfl) call9 (fun w hs=>wN hs r30.up r32.up oM) fun v33 h6 hh6 r33=>?_)
   replace r33:=Rp.Is.le r33 (Le.q (l:=m+n+2) oM)
   replace r29:=r29.mono hh6
   refine wX rfl (xV (ρ:=(tPl (4*m+7) (m+n+2))) (wC (ps':=[(0,_),(1,_)]) underlying80 mE rfl rfl (bF underlying80) e4z rfl (yJ (xW (yF oM)) (yF oM)) (zI rfl (Pc.fst (Pc.here _)) r29 (zI rfl (Pc.snd (Pc.here _)) r33 zX)))) fun v34 r34=>?_
   replace rb2:=rb2.mono ((((((hmma.trans hh1).trans hh2).trans hh3).trans hh4).trans hh5).trans hh6)
   have rw_6:=(Le.p (Le.t (Le.q (l:=4*m+7) oM)) (Le.q (l:=m+n+2) oM)).R rb2
   refine yI (A:=[_]) rfl (uB sizeOf80 pH rw_6 r34) fun cs_7 rb_8=>?_
   refine go8 ?_
   refine wL (jZ (t:=2) zG4 mh1 rfl rb_8) ?_
   intro w_9 hvw_9 rr_10
   refine yE (fun E S=>zP rfl hvw_9 E S) ?_
   exact(Rp.Is.cast (Rp.Is.le rr_10 (Le.p (Le.t (Le.q (l:=4*m+10) oM)) (Le.q (l:=m+n+10) oM))) (by exact yAS oM hi2 hc15))
  refine go8 ?_
  refine gqL ((i+1),h1) ?_ ?_
  ·
   refine⟨(hmma.trans hh1),?_⟩
   exact⟨by omega,qN (Q:=fun u=>xH (s.1.at u)=0) hi2 (Classical.not_not.1 hc15)⟩
  omega
 have ei:i=3:=by omega
 refine go7 ?_
 refine lX (xV (ρ:=(tPl 1 1)) (wC (ps':=[]) underlying80 mE rfl rfl (bF underlying80) trivial rfl (yJ (xW (yF dC)) (yF dC)) zX)) fun v35 r35=>?_
 replace rb2:=rb2.mono hmma
 refine zR (A:=[]) (uB sizeOf80 pH rb2 r35) fun cs_11 rb_12=>?_
 refine go3 ?_
 refine wL (jZ (t:=2) zG4 mh0 rfl rb_12) ?_
 intro w_13 hvw_13 rr_14
 refine yE (fun E S=>zP rfl hvw_13 E S) ?_
 exact(Rp.Is.cast (Rp.Is.le rr_14 (Le.p (Le.t (Le.q (l:=4*m+10) oM)) (Le.q (l:=m+n+10) oM))) (by exact zXY fun u hu=>hi2 u oM))
theorem zH7{w0:World}{h0:Mem}(hs:MLe h0 (mem w0)){vx:Value}{x:(List Int)}(rx:(rpS rpI).Is h0 vx x)(hcd0:x.length≤100000):
    Calls Tryz.prog 65 #[vx] w0 (Ret w0 h0 (fun h r=>(rpS rpI).Is h r (zJ0 x x.length))):=by
 refine cb1 20 vx func65 hs ?_
 refine go20 ?_
 refine xQ 3 1 ?_
 have rl_15:RL rpI h0 [] ([]:List Int):=RL.nil
 refine vC (ι:=Nat×List Int×Value×List Value×Mem) (fun(i,D,s3_16,cs_17,ma)=>MLe h0 ma∧(RL rpI ma cs_17 D∧i≤x.length∧D=zJ0 x i)) (fun(i,D,s3_16,cs_17,ma)=>[(0,vx),(3,s3_16),(4,vI (↑x.length-1-↑i))]) (fun(i,D,s3_16,cs_17,ma)=>[.gs 3 1 s3_16 D.length cs_17]) (fun(i,D,s3_16,cs_17,ma)=>ma) (fun(i,D,s3_16,cs_17,ma)=>x.length-i) (0,[],(.slice none 0 0),[],h0) ?_ ⟨?_,?_,?_,trivial⟩ rfl rfl ?_
 ·
  refine⟨MLe.refl _,?_⟩
  refine⟨rl_15,?_⟩
  exact⟨by omega,rfl⟩
 · exact rfl
 · exact rfl
 · exact congrArg (fun z=>some (vI z)) oM
 intro x hx
 obtain⟨i,D,s3_16,cs_17,ma⟩:=x
 obtain⟨hmma,hinv⟩:=hx
 refine yS ?_
 obtain⟨rl_18,hinv⟩:=hinv
 obtain⟨hi1,hD⟩:=hinv
 have hDl:D.length=i:=by rw[hD];exact wJ _ _
 refine go7 ?_
 refine cnd (fun hc9=>?_) fun hc9=>?_
 ·
  refine go8 ?_
  refine lX (xI (0:Int) (x.length-1-i) underlying32 ty3 rx) fun v15 r15=>(lX (xA ty3 r15) fun v16 r16=>?_)
  obtain⟨rfl,hl16,hu16⟩:=jW r16
  refine zF (zV (ρ:=rpI) (m:=1) (xs:=[(x.getD (x.length-1-i) (0:Int))]) (ps':=[(0,_)]) underlying32 gK rfl rfl rfl wF e2z (zI rfl (Pc.arr (Pc.here _) (0:Int) 0 dC) (qF oM oM) zX) (show 1*1≤16777216 from by decide) nP) rfl rfl rfl ?_
  intro v17 q17 hq17
  obtain⟨cs17,rfl,rl17⟩:=hq17
  refine yH (A:=[]) (ρ:=rpI) rl17 ?_
  intro h1 hh1 rs_19
  replace rl_18:=rl_18.mono hh1
  refine xS (A:=[]) (yD (ρ:=rpI) (bytes:=8) underlying32 gK rfl rfl rfl rfl nP rfl rfl rl_18 rs_19 bO bO) rfl rfl rfl ?_
  intro v18 q18 hq18
  obtain⟨cs18,rfl,rl18⟩:=hq18
  refine go9 ?_
  refine yQ ((i+1),(D++[(x.getD (x.length-1-i) (0:Int))]),v18,cs18,h1) ?_ ?_ ⟨rfl,rfl,?_,trivial⟩ rfl rfl
  ·
   refine⟨(hmma.trans hh1),?_⟩
   refine⟨rl18,?_⟩
   exact⟨by omega,by rw[hD];rfl⟩
  ·
   dsimp only
   omega
  · exact congrArg (fun z=>some (vI z)) oM
 have ei:i=x.length:=by omega
 refine uN ?_
 refine wW (A:=[]) (ρ:=rpI) rl_18 ?_
 intro h1 hh1 rs_20
 refine zD rfl rfl ?_
 exact(Rp.Is.cast rs_20 (by rw[hD,ei]))
end Go.Proofs.YtboaboflnckgoaaGreat
namespace Go.Proofs.YtboaboflnckgoaaGreat
open Bk Go Tryz
set_option linter.unusedVariables false
set_option linter.unusedSimpArgs false
set_option maxRecDepth 10000
set_option maxHeartbeats 1000000
attribute [local irreducible] GL GC GQ W OpV
theorem zOF{w0:World}{h0:Mem}(hs:MLe h0 (mem w0)){k m n j:Nat}{vs:Value}{s:Sq}(rs:(tSd k m n j).Is h0 vs s)(hcd0:k≤1000)(hcd1:okS s)(hcd2:nmA s):
    Calls Tryz.prog 127 #[vs] w0 (Ret w0 h0 (fun h r=>(rpS rpI).Is h r (bM s s.1.length))):=by
 have hk1:=hcd1.1.1.1
 have hk2:=hcd1.1.1.2
 have hll:=lZ s
 refine cb1 80 vs func127 hs ?_
 refine go2 ?_
 refine nB rs fun b1 cs1 rb1=>?_
 refine go6 ?_
 refine lX (xB uT (Pc.fst pH) rb1) fun v10 r10=>?_
 refine go1 ?_
 refine zF (zE2 (ρ:=rpB) (X:=False) (by':=1) s.1.length underlying189 zWK rfl rfl rfl rfl zr_b rfl rfl (by rfl) (by rfl) bO bO) rfl rfl rfl ?_
 intro v12 q12 hq12
 obtain⟨cs12,rfl,rl12⟩:=hq12
 refine go5 ?_
 refine lX (xB kF pH rb1) fun v13 r13=>(cL (ev1 rfl) call159 (fun w hs=>zEZ hs r13 (by first|omega|exact hcd1.mem) (by first|omega|exact hcd1.mem)) fun v14 h1 hh1 r14=>(cL (ev1 rfl) call174 (fun w hs=>zCR hs r14 (by first|omega|exact fun f hf=>(by rw[hll] at hf;rw[zAP hf];exact hcd1.2.1 f hf)) (by first|omega|exact fun f hf=>(by rw[hll] at hf;rw[zAP hf];exact hcd1.2.1 f hf))) fun v15 h2 hh2 r15=>?_))
 refine go6 ?_
 have hel:=zVS hcd1
 have hE:∀q,q<(edZ (vN s)).length→0≤((edZ (vN s)).getD q e50).1∧((edZ (vN s)).getD q e50).1<↑s.1.length:=fun q hq=>zOY hcd2 hq
 refine go4 ?_
 refine gcL (ι:=Nat×List Prop×Value×List Value×Mem) (fun(i,U,s3_1,cs_2,ma)=>(MLe h2 ma∧(RL rpB ma cs_2 U∧(i≤(edZ (vN s)).length∧U.length=s.1.length)∧∀u,u<s.1.length→(U.getD u False↔zFP (edZ (vN s)) i u)),[(1,vP b1 0),(3,s3_1),(4,v15),(5,vI ↑i)],[.gs 4 1 s3_1 U.length cs_2,.var b1 50 cs1],ma,(edZ (vN s)).length-i)) (0,(List.replicate s.1.length False),v12,cs12,h2) ?_ ?_
 ·
  refine⟨MLe.refl _,?_⟩
  refine⟨rl12.up,?_⟩
  exact⟨⟨by omega,List.length_replicate⟩,fun u h=>by rw[zNX h];exact⟨False.elim,fun⟨q,h,_⟩=>by omega⟩⟩
 intro x hx
 obtain⟨i,U,s3_1,cs_2,ma⟩:=x
 dsimp only at hx
 obtain⟨hmma,hinv⟩:=hx
 refine yS ?_
 obtain⟨rl_3,hinv⟩:=hinv
 obtain⟨⟨hi1,hU1⟩,hU2⟩:=hinv
 refine go9 ?_
 refine cnd (fun hc19=>?_) fun hc19=>?_
 ·
  refine go8 ?_
  refine lX (xI e50 i underlying190 iC r15) fun v25 r25=>(lX (xF underlying193 sizeOf3 (Pc.fst pH) r25) fun v26 r26=>(lX (xA ty3 r26) fun v27 r27=>?_))
  obtain⟨rfl,hl27,hu27⟩:=jW r27
  refine gv ((yY (((edZ (vN s)).getD i e50).1.toNat) mh0 underlying189 sizeOf4 rfl rfl (by(have:=hE i oM;omega)) (by(have:=hE i oM;omega)) nP).cv (show _=zK 1 s3_1 ((((edZ (vN s)).getD i e50).1.toNat*1+0)) from congrArg (zK 1 s3_1) (by rfl))) rfl (gE (A:=[]) (F:=fun c_=>RL rpB ma c_ (U.set (((edZ (vN s)).getD i e50).1.toNat) True)) (rQ sizeOf4 (Pc.arr (Pc.here _) False (((edZ (vN s)).getD i e50).1.toNat) (by(have:=hE i oM;omega))) rfl nP rfl rfl rl_3 (yBG) rfl) ?_)
  intro cs_4 rl_5
  refine go8 ?_
  refine gqL ((i+1),(U.set (((edZ (vN s)).getD i e50).1.toNat) True),s3_1,cs_4,ma) ?_ ?_
  ·
   refine⟨hmma,?_⟩
   refine⟨rl_5,?_⟩
   exact⟨⟨by omega,by rw[lS];exact hU1⟩,zPH hU1 hU2 (hE i oM).1 (hE i oM).2⟩
  omega
 have hus:∀u,u<s.1.length→(U.getD u False↔zFP (edZ (vN s)) (edZ (vN s)).length u):=fun u hu=>by rw[show(edZ (vN s)).length=i by omega];exact hU2 u hu
 refine dG ?_
 refine xQ 3 1 ?_
 have rl_6:RL rpI ma [] ([]:List Int):=RL.nil
 refine vC (ι:=Nat×List Int×Value×List Value×Mem) (fun(i,D,s6_7,cs_8,mb)=>MLe ma mb∧(RL rpI mb cs_8 D∧i≤s.1.length∧D=bM s i)) (fun(i,D,s6_7,cs_8,mb)=>[(1,vP b1 0),(3,s3_1),(6,s6_7),(7,vI ↑i)]) (fun(i,D,s6_7,cs_8,mb)=>[.gs 3 1 s6_7 D.length cs_8,.gs 4 1 s3_1 U.length cs_2,.var b1 50 cs1]) (fun(i,D,s6_7,cs_8,mb)=>mb) (fun(i,D,s6_7,cs_8,mb)=>s.1.length-i) (0,[],(.slice none 0 0),[],ma) ?_ e4z rfl rfl ?_
 ·
  refine⟨MLe.refl _,?_⟩
  refine⟨rl_6,?_⟩
  exact⟨by omega,rfl⟩
 intro x hx
 obtain⟨i,D,s6_7,cs_8,mb⟩:=x
 obtain⟨hmmb,hinv⟩:=hx
 refine yS ?_
 obtain⟨rl_9,hinv⟩:=hinv
 obtain⟨hi2,hD⟩:=hinv
 have hDl:D.length≤i:=by rw[hD];exact zKL s i
 refine go5 ?_
 refine lX (xB uT (Pc.fst pH) rb1) fun v31 r31=>?_
 refine go4 ?_
 refine cnd (fun hc33=>?_) fun hc33=>?_
 ·
  refine go9 ?_
  refine gv ((yY i mh1 underlying189 sizeOf4 rfl rfl rfl bO nP).cv (show _=zK 1 s3_1 ((i*1+0)) from congrArg (zK 1 s3_1) (by rfl))) rfl ?_
  replace rl_3:=rl_3.mono hmmb
  refine zEA (F:=fun v_=>rpB.Is mb v_ (U.getD i False)) (wV ty4 (Pc.arr (Pc.here _) False i bO) rfl nP rfl rl_3 rfl) (tT mh1) rfl ?_
  intro v39 r39
  obtain rfl:=of_b r39
  refine go3 ?_
  refine cnd (fun hc40=>?_) fun hc40=>?_
  ·
   refine go9 ?_
   refine yQ ((i+1),D,s6_7,cs_8,mb) ?_ ?_ e4z rfl rfl
   ·
    refine⟨hmmb,?_⟩
    refine⟨rl_9,?_⟩
    exact⟨by omega,by rw[hD];exact(if_neg (fun e=>hc40 ((hus i oM).2 e))).symm⟩
   dsimp only
   omega
  refine go5 ?_
  refine gv (gA mh0 underlying32 rfl) rfl ?_
  refine go5 ?_
  refine vC (ι:=Nat×Mem) (fun(kp,mk)=>MLe mb mk∧(kp≤D.length∧cW (zN4 s D i) D.length=cW (zN4 s D i) kp)) (fun(kp,mk)=>[(1,vP b1 0),(3,s3_1),(6,s6_7),(7,vI ↑i),(8,vI ↑kp)]) (fun(kp,mk)=>[.gs 3 1 s6_7 D.length cs_8,.gs 4 1 s3_1 U.length cs_2,.var b1 50 cs1]) (fun(kp,mk)=>mk) (fun(kp,mk)=>kp) (D.length,mb) ?_ ⟨?_,?_,?_,?_,?_,trivial⟩ rfl rfl ?_
  ·
   refine⟨MLe.refl _,?_⟩
   exact⟨by omega,rfl⟩
  · exact rfl
  · exact rfl
  · exact rfl
  · exact rfl
  · exact rfl
  intro x hx
  obtain⟨kp,mk⟩:=x
  obtain⟨hmmk,hinv⟩:=hx
  refine yS ?_
  obtain⟨hk3,hk4⟩:=hinv
  refine go2 ?_
  refine gD 19 (qq 0 17 [(17,.c),(18,.q)]) (vG [0,1,2,4,12,4,52,68,4,260,4,4,2052,5124,8196,16900,32772,65668,131076] (frz 524287 [0,1,2,4,12,4,52,68,4,260,4,4,2052,5124,8196,16900,32772,65668,131076]) (by kernel_rfl)) ?_
  refine go3 ?_
  refine gS ((0:Int)<(↑kp:Int)) (fun hg_10=>?_) (fun hg_10=>?_)
  ·
   rw[xL hg_10]
   refine go1 ?_
   refine oX rfl (xB uT (Pc.fst pH) rb1) fun v47 r47=>(yM rfl rfl rfl (fun h' L' hh hR=>yW rfl) rfl (oX rfl (xI zT i underlying46 zS r47) fun v49 r49=>(oX rfl (xA zS r49) fun v50 r50=>?_)))
   refine go1 ?_
   refine oX rfl (xB uT (Pc.fst pH) rb1) fun v52 r52=>(yM rfl rfl rfl (fun h' L' hh hR=>yW rfl) rfl (yM rfl rfl rfl (fun h' L' hh hR=>yW rfl) rfl ?_))
   refine go1 ?_
   refine yM rfl rfl rfl (fun h' L' hh hR=>(yY (kp-1) (hR _ mh0) underlying32 sizeOf3 rfl rfl oM oM nP).cv (show _=zK 1 s6_7 (((kp-1)*1+0)) from congrArg (zK 1 s6_7) (by rfl))) rfl ?_
   replace rl_9:=rl_9.mono hmmk
   refine aC (F:=fun v_=>rpI.Is mk v_ (D.getD (kp-1) (0:Int))) rfl rfl rfl (wV ty3 (Pc.arr (Pc.here _) (0:Int) (kp-1) oM) rfl nP rfl rl_9 rfl) (tT mh0) rfl ?_
   intro v57 r57
   obtain⟨rfl,hl57,hu57⟩:=jW r57
   refine aC (F:=fun v_=>AtP (tPt k) mk v_ (s.1.getD ((D.getD (kp-1) 0).toNat) zT)) rfl rfl rfl (lI zT ((D.getD (kp-1) 0).toNat) underlying46 zS rfl rfl r52 (by(have:=oR (s:=s) (i:=i) (k:=kp-1) (by rw[←hD];omega);rw[←hD] at this;omega)) (by(have:=oR (s:=s) (i:=i) (k:=kp-1) (by rw[←hD];omega);rw[←hD] at this;omega)) nP) zBI rfl ?_
   intro v58 r58
   refine oX rfl (xA zS r58) fun v59 r59=>?_
   refine w_c rfl (rK rfl rfl (sC (ev2 rfl rfl) call175 (fun w hs=>zRC hs r50 r59 oM oM) fun v60 h3 hh3 r60=>?_))
   obtain rfl:v60=vB (lsP (s.1.getD i zT) (s.1.getD ((D.getD (kp-1) 0).toNat) zT)):=r60
   refine go3 ?_
   refine cnd (fun hc61=>?_) fun hc61=>?_
   ·
    refine go9 ?_
    refine yQ ((kp-1),h3) ?_ ?_ ⟨rfl,rfl,rfl,rfl,?_,trivial⟩ rfl rfl
    ·
     refine⟨(hmmk.trans hh3),?_⟩
     exact⟨by omega,by rw[hk4];exact zLS oM hc61⟩
    ·
     dsimp only
     omega
    · exact congrArg (fun z=>some (vI z)) oM
   refine go8 ?_
   refine zF (zV (ρ:=rpI) (m:=1) (xs:=[(0:Int)]) (ps':=[(0,_)]) underlying32 gK rfl rfl rfl wF e2z (zI rfl (Pc.arr (Pc.here _) (0:Int) 0 dC) (qF dC dC) zX) (show 1*1≤16777216 from by decide) nP) rfl rfl rfl ?_
   intro v65 q65 hq65
   obtain⟨cs65,rfl,rl65⟩:=hq65
   refine yH (A:=[]) (ρ:=rpI) rl65 ?_
   intro h4 hh4 rs_11
   replace rl_9:=rl_9.mono (hh3.trans hh4)
   refine xS (A:=[]) (yD (ρ:=rpI) (bytes:=8) underlying32 gK rfl rfl rfl rfl nP rfl rfl rl_9 rs_11 bO bO) rfl rfl rfl ?_
   intro v66 q66 hq66
   obtain⟨cs66,rfl,rl66⟩:=hq66
   refine go4 ?_
   refine bS (A:=[]) (by rw[lAz];exact Nat.succ_pos _) (fun ob cap hsv hsc=>?_)
   refine jI (A:=[]) 8 [] [(0,.q),(1,.q),(2,.q),(3,.q),(4,.q),(5,.q),(6,.q),(7,.c)] jN nX (by kernel_rfl) nX ?_
   refine go3 ?_
   refine xJ rfl (fun _ _=>qH (kp+1) underlying32 sizeOf3 rfl rfl ⟨_,_,hsv,hsc⟩ oM (by simp only[lAz,lC,lN];omega)) rfl ?_
   refine go2 ?_
   refine xJ rfl (fun _ _=>qH kp underlying32 sizeOf3 rfl rfl ⟨_,_,hsv,hsc⟩ oM (by simp only[lAz,lC,lN];omega)) rfl ?_
   refine w_c rfl (sR (A:=[]) (fun X=>lD (ρ:=rpI) kp hsv hsc underlying32 sizeOf3 rfl rfl (by simp only[lAz,lC,lN];omega) rl66) rfl (wM (by first|(simp;done)|grind)) ?_)
   intro v74 q74 hq74
   obtain⟨cs_12,rfl,rl_13⟩:=hq74
   refine go6 ?_
   refine gv ((yY kp mh0 underlying32 sizeOf3 rfl rfl oM (by rw[kZ (by simp only[lAz,lC,lN];omega)];simp only[lAz,lC,lN];omega) nP).cv (show _=zK 1 v66 ((kp*1+0)) from congrArg (zK 1 v66) (by rfl))) rfl (gE (A:=[]) (F:=fun c_=>RL rpI h4 c_ ((fT (D++[(0:Int)]) kp).set kp (↑i:Int))) (rQ sizeOf3 (Pc.arr (Pc.here _) (0:Int) kp (by rw[kZ (by simp only[lAz,lC,lN];omega)];simp only[lAz,lC,lN];omega)) rfl nP rfl rfl rl_13 (qF oM oM) rfl) ?_)
   intro cs_14 rl_15
   refine go8 ?_
   refine yQ ((i+1),((fT (D++[(0:Int)]) kp).set kp (↑i:Int)),v66,cs_14,h4) ?_ ?_ e4z rfl rfl
   ·
    refine⟨(((hmmb.trans hmmk).trans hh3).trans hh4),?_⟩
    refine⟨rl_15,?_⟩
    exact⟨by omega,by rw[aX oM];have hkk:cW (zN4 s D i) D.length=kp:=by{rw[hk4];exact zDO (fun e=>by first|omega|exact hc61 e.2)};rw[←hkk,hD];exact(if_pos ((hus i oM).1 (Classical.not_not.1 hc40))).symm⟩
   dsimp only
   omega
  rw[yU hg_10]
  refine tV ?_
  refine w_c rfl (y9 rfl rfl rfl rfl ?_)
  refine uN ?_
  refine zF (zV (ρ:=rpI) (m:=1) (xs:=[(0:Int)]) (ps':=[(0,_)]) underlying32 gK rfl rfl rfl wF e2z (zI rfl (Pc.arr (Pc.here _) (0:Int) 0 dC) (qF dC dC) zX) (show 1*1≤16777216 from by decide) nP) rfl rfl rfl ?_
  intro v65 q65 hq65
  obtain⟨cs65,rfl,rl65⟩:=hq65
  refine yH (A:=[]) (ρ:=rpI) rl65 ?_
  intro h3 hh3 rs_16
  replace rl_9:=rl_9.mono (hmmk.trans hh3)
  refine xS (A:=[]) (yD (ρ:=rpI) (bytes:=8) underlying32 gK rfl rfl rfl rfl nP rfl rfl rl_9 rs_16 bO bO) rfl rfl rfl ?_
  intro v66 q66 hq66
  obtain⟨cs66,rfl,rl66⟩:=hq66
  refine go4 ?_
  refine bS (A:=[]) (by rw[lAz];exact Nat.succ_pos _) (fun ob cap hsv hsc=>?_)
  refine jI (A:=[]) 8 [] [(0,.q),(1,.q),(2,.q),(3,.q),(4,.q),(5,.q),(6,.q),(7,.c)] jN nX (by kernel_rfl) nX ?_
  refine go3 ?_
  refine xJ rfl (fun _ _=>qH (kp+1) underlying32 sizeOf3 rfl rfl ⟨_,_,hsv,hsc⟩ oM (by simp only[lAz,lC,lN];omega)) rfl ?_
  refine go2 ?_
  refine xJ rfl (fun _ _=>qH kp underlying32 sizeOf3 rfl rfl ⟨_,_,hsv,hsc⟩ oM (by simp only[lAz,lC,lN];omega)) rfl ?_
  refine w_c rfl (sR (A:=[]) (fun X=>lD (ρ:=rpI) kp hsv hsc underlying32 sizeOf3 rfl rfl (by simp only[lAz,lC,lN];omega) rl66) rfl (wM (by first|(simp;done)|grind)) ?_)
  intro v74 q74 hq74
  obtain⟨cs_17,rfl,rl_18⟩:=hq74
  refine go6 ?_
  refine gv ((yY kp mh0 underlying32 sizeOf3 rfl rfl oM (by rw[kZ (by simp only[lAz,lC,lN];omega)];simp only[lAz,lC,lN];omega) nP).cv (show _=zK 1 v66 ((kp*1+0)) from congrArg (zK 1 v66) (by rfl))) rfl (gE (A:=[]) (F:=fun c_=>RL rpI h3 c_ ((fT (D++[(0:Int)]) kp).set kp (↑i:Int))) (rQ sizeOf3 (Pc.arr (Pc.here _) (0:Int) kp (by rw[kZ (by simp only[lAz,lC,lN];omega)];simp only[lAz,lC,lN];omega)) rfl nP rfl rfl rl_18 (qF oM oM) rfl) ?_)
  intro cs_19 rl_20
  refine go8 ?_
  refine yQ ((i+1),((fT (D++[(0:Int)]) kp).set kp (↑i:Int)),v66,cs_19,h3) ?_ ?_ e4z rfl rfl
  ·
   refine⟨((hmmb.trans hmmk).trans hh3),?_⟩
   refine⟨rl_20,?_⟩
   exact⟨by omega,by rw[aX oM];have hkk:cW (zN4 s D i) D.length=kp:=by{rw[hk4];exact zDO (fun e=>by first|omega|exact hc61 e.2)};rw[←hkk,hD];exact(if_pos ((hus i oM).1 (Classical.not_not.1 hc40))).symm⟩
  dsimp only
  omega
 have ei:i=s.1.length:=by omega
 refine uN ?_
 refine wW (A:=[]) (ρ:=rpI) rl_9 ?_
 intro h3 hh3 rs_21
 refine zD rfl rfl ?_
 exact(Rp.Is.cast rs_21 (by rw[hD,ei]))
end Go.Proofs.YtboaboflnckgoaaGreat
namespace Go.Proofs.YtboaboflnckgoaaGreat
open Bk Go Tryz
set_option linter.unusedVariables false
set_option linter.unusedSimpArgs false
set_option maxRecDepth 10000
set_option maxHeartbeats 1000000
attribute [local irreducible] GL GC GQ W OpV
theorem rW{w0:World}{h0:Mem}(hs:MLe h0 (mem w0)){k:Nat}{vp:Value}{p:Tq}(rp:(tPt k).Is h0 vp p):
    Calls Tryz.prog 201 #[vp] w0 (Ret w0 h0 (fun h r=>(tPt (k+1)).Is h r (zZ p))):=by
 refine cb1 8 vp func201 hs ?_
 refine go2 ?_
 refine nB rp fun b1 cs1 rb1=>(nA (ρ:=(tPt (k+1))) (X:=zT) yV (xW (yF oM)) fun b2 cs2 rb2=>?_)
 refine go5 ?_
 refine lX (xB yA (Pc.tx pH) rb1) fun v4 r4=>?_
 refine go1 ?_
 refine lX (xB yA (Pc.ty pH) rb1) fun v6 r6=>(lX (xV (ρ:=(tPt (k+1))) (xC (ps':=[(0,_),(1,_)]) underlying53 yV rfl rfl sizeOf26 e4z rfl (xW (yF oM)) (zI rfl (Pc.tx (Pc.here _)) (r4.le (Le.q (l:=k+1) oM)) (zI rfl (Pc.ty (Pc.here _)) (r6.le (Le.q (l:=k+1) oM)) zX)))) fun v7 r7=>(zR (A:=[]) (uB sizeOf53 pH rb2 r7) fun cs_1 rb_2=>?_))
 refine go3 ?_
 refine wL (jZ (t:=2) zS mh0 rfl rb_2) ?_
 intro w_3 hvw_3 rr_4
 refine yE (fun E S=>zP rfl hvw_3 E S) ?_
 exact rr_4
theorem qR{w0:World}{h0:Mem}(hs:MLe h0 (mem w0)){k:Nat}{va:Value}{a:Tq}(ra:(tPt k).Is h0 va a){vb:Value}{b:Tq}(rb:(tPt k).Is h0 vb b)(hcd0:k≤2000000000):
    Calls Tryz.prog 193 #[va,vb] w0 (Ret w0 h0 (fun _ r=>r=vB ((pr a 0 1)=(pr b 0 1)))):=by
 refine cb2 17 va vb func193 hs ?_
 refine go2 ?_
 refine nB ra fun b2 cs2 rb2=>(nB rb fun b3 cs3 rb3=>?_)
 refine go6 ?_
 refine lX (xB yA (Pc.tx pH) rb2) fun v6 r6=>?_
 refine go1 ?_
 refine lX (xB yA (Pc.tx pH) rb3) fun v8 r8=>(cL (ev2 rfl rfl) call15 (fun w hs=>vQ hs r6 r8 oM) fun v9 h1 hh1 r9=>?_)
 obtain rfl:v9=vB (a.x=b.x):=r9
 refine uO (ι:=Mem) 7 (fun m_=>MLe h1 m_) (fun _=>[(16,vB ((a.x=b.x)∧(a.y=b.y)))]) (fun _=>[.var b3 53 cs3,.var b2 53 cs2]) (fun m_=>m_) ?_ ?_
 ·
  refine yB (a.x=b.x) (fun hg=>?_) (fun hg=>?_)
  ·
   refine gT hg rfl ?_
   refine go3 ?_
   refine lX (xB yA (Pc.ty pH) rb2) fun v12 r12=>?_
   refine go3 ?_
   refine lX (xB yA (Pc.ty pH) rb3) fun v14 r14=>?_
   refine go1 ?_
   refine cL (ev2 rfl rfl) call15 (fun w hs=>vQ hs r12 r14 oM) fun v15 h2 hh2 r15=>?_
   obtain rfl:v15=vB (a.y=b.y):=r15
   refine go2 ?_
   refine zN h2 hh2 ⟨?_,trivial⟩ rfl rfl
   exact congrArg some (xM hg)
  refine gF hg rfl ?_
  refine go7 ?_
  refine zN h1 (MLe.refl _) ⟨?_,trivial⟩ rfl rfl
  exact congrArg some (xN hg)
 intro mg1_5 hmmg1_5
 refine tJ ?_
 refine go4 ?_
 refine zD rfl rfl ?_
 first|exact fL (by rw[zQP];exact Iff.rfl)|exact(xL (by rw[zQP];exact Iff.rfl)).symm|exact(yU (by rw[zQP];exact Iff.rfl)).symm
theorem sU{w0:World}{h0:Mem}(hs:MLe h0 (mem w0)){k:Nat}{va:Value}{a:Tq}(ra:(tPt k).Is h0 va a){vb:Value}{b:Tq}(rb:(tPt k).Is h0 vb b)(hcd0:k≤2000000000):
    Calls Tryz.prog 202 #[va,vb] w0 (Ret w0 h0 (fun _ r=>r=vB (lx (pr a 0 1) (pr b 0 1)))):=by
 refine cb2 21 va vb func202 hs ?_
 refine go2 ?_
 refine nB ra fun b2 cs2 rb2=>(nB rb fun b3 cs3 rb3=>?_)
 refine go7 ?_
 refine lX (xB yA (Pc.tx pH) rb2) fun v7 r7=>?_
 refine go1 ?_
 refine lX (xB yA (Pc.tx pH) rb3) fun v9 r9=>(cL (ev2 rfl rfl) call18 (fun w hs=>kA hs r7 r9 oM) fun v10 h1 hh1 r10=>?_)
 obtain rfl:v10=vI (wG a.x b.x):=r10
 have hcr10:=jB a.x b.x
 refine go9 ?_
 refine cnd (fun hc12=>?_) fun hc12=>?_
 ·
  refine go9 ?_
  refine zD rfl rfl ?_
  exact fL (zY2 hc12)
 refine go5 ?_
 refine lX (xB yA (Pc.ty pH) rb2) fun v16 r16=>?_
 refine go1 ?_
 refine lX (xB yA (Pc.ty pH) rb3) fun v18 r18=>(cL (ev2 rfl rfl) call18 (fun w hs=>kA hs r16 r18 oM) fun v19 h2 hh2 r19=>?_)
 obtain rfl:v19=vI (wG a.y b.y):=r19
 have hcr19:=jB a.y b.y
 refine go5 ?_
 refine zD rfl rfl ?_
 exact fL (zY1 hc12)
theorem sV{w0:World}{h0:Mem}(hs:MLe h0 (mem w0)){k:Nat}{vl:Value}{l:(List Tq)}(rl:(tLs k).Is h0 vl l)(hcd0:k≤100000)(hcd1:l.length≤1000):
    Calls Tryz.prog 170 #[vl] w0 (Ret w0 h0 (fun h r=>(rpQ 1000000000).Is h r (uU l 0 1 l.length))):=by
 refine cb1 40 vl func170 hs ?_
 refine go2 ?_
 refine nA (ρ:=(rpQ 1)) (X:=(0:Rat)) yN (yF dC) fun b2 cs2 rb2=>?_
 refine go4 ?_
 refine lX (xV (ρ:=(rpQ 1)) (wC (ps':=[]) underlying26 yN rfl rfl (vD underlying26) trivial rfl (yF dC) zX)) fun v7 r7=>(nA (ρ:=(rpQ 1)) (X:=(0:Rat)) yN (yF dC) fun b3 cs3 rb3=>(zR (A:=[]) (uB sizeOf26 pH rb3 r7) fun cs_5 rb_6=>?_))
 refine go9 ?_
 refine gcL (ι:=Nat×Nat×List Value×Mem) (fun(m,q,cs_7,ma)=>(MLe h0 ma∧((rpQ q).R ma cs_7 (uU l 0 1 m)∧m≤l.length∧q≤(4*k+9)*m+1),[(0,vl),(2,vP b2 0),(3,vP b3 0),(4,vI ↑m)],[.var b3 26 cs_7,.var b2 26 cs2],ma,l.length-m)) (0,1,cs_5,h0) ?_ ?_
 ·
  refine⟨MLe.refl _,?_⟩
  refine⟨rb_6,?_⟩
  exact⟨by omega,by omega⟩
 intro x hx
 obtain⟨m,q,cs_7,ma⟩:=x
 dsimp only at hx
 obtain⟨hmma,hinv⟩:=hx
 refine yS ?_
 obtain⟨rb_8,hinv⟩:=hinv
 obtain⟨hm1,hq1⟩:=hinv
 have hq2:=Nat.mul_le_mul_left (4*k+9) (show m≤1000 by omega)
 replace rl:=rl.mono hmma
 refine go9 ?_
 refine cnd (fun hc11=>?_) fun hc11=>?_
 ·
  refine go5 ?_
  refine kE 16 _ [(12,(5,53,[.bool false,.slice none 0 0,.slice none 0 0,.bool false,.slice none 0 0,.slice none 0 0,.bool false,.slice none 0 0,.slice none 0 0])),(13,(6,53,[.bool false,.slice none 0 0,.slice none 0 0,.bool false,.slice none 0 0,.slice none 0 0,.bool false,.slice none 0 0,.slice none 0 0]))] [(0,.q),(1,.q),(2,.q),(3,.q),(4,.q),(5,.q),(6,.q),(7,.q),(8,.q),(9,.q),(10,.q),(11,.q),(12,.a),(13,.a),(14,.c),(15,.c)] jN (jK.cons rfl rfl (uZ yV rfl rfl) (jK.cons rfl rfl (uZ yV rfl rfl) jK.nil)) (vG [0,0,3,4,0,0,32,0,128,320,528,1024,0,0,12303,32767] [65535,65535,65532,65531,65535,65535,65503,65535,65407,65215,65007,64511,65535,65535,61431,55295] (by kernel_rfl)) (qB rfl rfl (qB rfl rfl kM)) (fun r hr=>hr) ?_
  refine go2 ?_
  refine wX rfl (xI zT m underlying46 zS rl) fun v16 r16=>(wX rfl (xA zS r16) fun v17 r17=>?_)
  refine go4 ?_
  refine w_q rfl (fun h' L' hh hR=>uY underlying46 rfl (rl.mono hh)) rfl (xJ rfl (fun _ _=>vX rfl rfl oM oM) rfl (wX rfl (xI zT ((m+1)%l.length) underlying46 zS rl (hi:=by exact Nat.mod_lt _ oM)) fun v24 r24=>(wX rfl (xA zS r24) fun v25 r25=>?_)))
  refine w_a rfl rfl (fun b5=>?_)
  have rb5:(tPt 1).R ma [.bool false,.slice none 0 0,.slice none 0 0,.bool false,.slice none 0 0,.slice none 0 0,.bool false,.slice none 0 0,.slice none 0 0] zT:=(xW (yF dC))
  refine w_a rfl rfl (fun b6=>?_)
  have rb6:(tPt 1).R ma [.bool false,.slice none 0 0,.slice none 0 0,.bool false,.slice none 0 0,.slice none 0 0,.bool false,.slice none 0 0,.slice none 0 0] zT:=(xW (yF dC))
  refine w_c rfl ?_
  have rw_9:=(Le.t (Le.q (l:=k+1) oM)).R rb5
  refine bE (A:=[_]) (uB sizeOf53 pH rw_9 (r17.le (Le.t (Le.q (l:=k+1) oM)))) (wM (by first|(simp;done)|grind)) fun cs_10 rb_11=>?_
  refine w_c rfl ?_
  have rw_12:=(Le.t (Le.q (l:=k+1) oM)).R rb6
  refine bE (A:=[]) (uB sizeOf53 pH rw_12 (r25.le (Le.t (Le.q (l:=k+1) oM)))) (wM (by first|(simp;done)|grind)) fun cs_13 rb_14=>?_
  refine go2 ?_
  refine gD 13 (qq 0 5 (qq 6 4 [(5,.c),(10,.c),(11,.c),(12,.c),(13,.t)])) (vG [0,0,2,0,8,20,0,64,0,256,672,1056,2049,8191] (frz 16383 [0,0,2,0,8,20,0,64,0,256,640,1056,2049,4096]) (by kernel_rfl)) ?_
  refine wX rfl (xB yA pH rb_8) fun v26 r26=>?_
  refine go1 ?_
  refine wX rfl (xB yA (Pc.tx pH) rb_11) fun v28 r28=>?_
  refine go1 ?_
  refine wX rfl (xB yA (Pc.ty pH) rb_14) fun v30 r30=>?_
  refine go1 ?_
  refine wX rfl (xB yA (Pc.tx pH) rb_14) fun v33 r33=>?_
  refine go1 ?_
  refine wX rfl (xB yA (Pc.ty pH) rb_11) fun v35 r35=>?_
  refine w_c rfl (sC (ev2 rfl rfl) call9 (fun w hs=>wN hs r28 r30 oM) fun v31 h1 hh1 r31=>?_)
  replace r31:=Rp.Is.le r31 (Le.q (l:=2*k+2) oM)
  refine w_c rfl (sC (ev2 rfl rfl) call9 (fun w hs=>wN hs r33.up r35.up oM) fun v36 h2 hh2 r36=>?_)
  replace r36:=Rp.Is.le r36 (Le.q (l:=2*k+2) oM)
  refine w_c rfl (sC (ev2 rfl rfl) call16 (fun w hs=>bN hs r31.up r36 oM) fun v37 h3 hh3 r37=>?_)
  replace r37:=Rp.Is.le r37 (Le.q (l:=4*k+5) oM)
  refine w_c rfl (sC (ev2 rfl rfl) call37 (fun w hs=>kB hs r26.up r37 oM) fun v38 h4 hh4 r38=>?_)
  replace r38:=Rp.Is.le r38 (Le.q (l:=4*k+q+6) oM)
  replace rb_8:=rb_8.mono (((hh1.trans hh2).trans hh3).trans hh4)
  have rw_15:=(Le.q (l:=4*k+q+6) oM).R rb_8
  refine yI (A:=[_,_]) rfl (uB sizeOf26 pH rw_15 r38) fun cs_16 rb_17=>?_
  refine go8 ?_
  refine vV (A:=[]) (vV (A:=[]) ?_)
  refine gqL ((m+1),(q+(4*k+9)),cs_16,h4) ?_ ?_
  ·
   refine⟨((((hmma.trans hh1).trans hh2).trans hh3).trans hh4),?_⟩
   refine⟨(Rp.castR (Le.R (Le.q (l:=q+(4*k+9)) oM) rb_17) rfl),?_⟩
   exact⟨by omega,by rw[Nat.mul_succ];omega⟩
  omega
 have em:m=l.length:=by omega
 have hq2:=Nat.mul_le_mul_left (4*k+9) (show m≤1000 by omega)
 refine go7 ?_
 refine lX (xB yA pH rb_8) fun v39 r39=>?_
 replace rb2:=rb2.mono hmma
 have rw_18:=(Le.q (l:=q+1) oM).R rb2
 refine zR (A:=[_]) (uB sizeOf26 pH rw_18 (r39.le (Le.q (l:=q+1) oM))) fun cs_19 rb_20=>?_
 refine go3 ?_
 refine wL (jZ (t:=2) yA mh1 rfl rb_20) ?_
 intro w_21 hvw_21 rr_22
 refine yE (fun E S=>zP rfl hvw_21 E S) ?_
 exact(Rp.Is.cast (Rp.Is.le rr_22 (Le.q (l:=1000000000) oM)) (by rw[em]))
theorem fK{w0:World}{h0:Mem}(hs:MLe h0 (mem w0)){k:Nat}{va:Value}{a:Tq}(ra:(tPt k).Is h0 va a){vb:Value}{b:Tq}(rb:(tPt k).Is h0 vb b){vc:Value}{c:Tq}(rc:(tPt k).Is h0 vc c)(hcd0:k≤10000):
    Calls Tryz.prog 203 #[va,vb,vc] w0 (Ret w0 h0 (fun _ r=>r=vI (orZ (pr a 0 1) (pr b 0 1) (pr c 0 1)))):=by
 refine cb3 13 va vb vc func203 hs ?_
 refine go2 ?_
 refine nB ra fun b3 cs3 rb3=>(nB rb fun b4 cs4 rb4=>(nB rc fun b5 cs5 rb5=>?_))
 refine go5 ?_
 refine lX (xB zS pH rb3) fun v7 r7=>(lX (xB zS pH rb4) fun v8 r8=>(lX (xB zS pH rb5) fun v9 r9=>(zF (zV (ρ:=(tPt (k+1))) (m:=3) (xs:=[a,b,c]) (ps':=[(0,_),(1,_),(2,_)]) underlying46 yV rfl rfl rfl (xW (yF oM)) e6z (zI rfl (Pc.arr (Pc.here _) zT 0 dC) (r7.le (Le.t (Le.q (l:=k+1) oM))) (zI rfl (Pc.arr (Pc.here _) zT 1 dC) (r8.le (Le.t (Le.q (l:=k+1) oM))) (zI rfl (Pc.arr (Pc.here _) zT 2 dC) (r9.le (Le.t (Le.q (l:=k+1) oM))) zX))) (show 3*9≤16777216 from by decide) nP) rfl rfl rfl ?_)))
 intro v10 q10 hq10
 obtain⟨cs10,rfl,rl10⟩:=hq10
 refine yH (A:=[]) (ρ:=(tPt (k+1))) rl10 ?_
 intro h1 hh1 rs_23
 refine cL (ev1 rfl) call170 (fun w hs=>sV hs rs_23 (by first|omega|exact(by decide:3≤1000)) (by first|omega|exact(by decide:3≤1000))) fun v11 h2 hh2 r11=>(cL (ev1 rfl) call17 (fun w hs=>qO hs r11 dC) fun v12 h3 hh3 r12=>?_)
 obtain rfl:v12=vI (xH (uU [a,b,c] 0 1 [a,b,c].length)):=r12
 have hsr12:=wH (uU [a,b,c] 0 1 [a,b,c].length)
 refine go4 ?_
 refine zD rfl rfl ?_
 exact congrArg vI (zTR a b c)
theorem nW{w0:World}{h0:Mem}(hs:MLe h0 (mem w0)){k:Nat}{va:Value}{a:Tq}(ra:(tPt k).Is h0 va a){vb:Value}{b:Tq}(rb:(tPt k).Is h0 vb b){vp:Value}{p:Tq}(rp:(tPt k).Is h0 vp p)(hcd0:k≤10000):
    Calls Tryz.prog 206 #[va,vb,vp] w0 (Ret w0 h0 (fun _ r=>r=vB (onS (pr a 0 1) (pr b 0 1) (pr p 0 1)))):=by
 refine cb3 29 va vb vp func206 hs ?_
 refine go2 ?_
 refine nB ra fun b3 cs3 rb3=>(nB rb fun b4 cs4 rb4=>(nB rp fun b5 cs5 rb5=>?_))
 refine go3 ?_
 refine qK (ι:=List Value×List Value×Mem) (fun(cs_24,cs_26,m1)=>MLe h0 m1∧((tPt k).R m1 cs_24 (loT a b 0 1)∧(tPt k).R m1 cs_26 (hiT a b 0 1)∧True)) (fun(cs_24,cs_26,m1)=>[(3,vP b3 0),(4,vP b4 0),(5,vP b5 0)]) (fun(cs_24,cs_26,m1)=>[.var b5 53 cs5,.var b4 53 cs_26,.var b3 53 cs_24]) (fun(cs_24,cs_26,m1)=>m1) ?_ ?_
 ·
  refine go2 ?_
  refine lX (xB zS pH rb4) fun v7 r7=>(lX (xB zS pH rb3) fun v8 r8=>(cL (ev2 rfl rfl) call202 (fun w hs=>sU hs r7 r8 oM) fun v9 h1 hh1 r9=>?_))
  obtain rfl:v9=vB (lx (pr b 0 1) (pr a 0 1)):=r9
  refine go2 ?_
  refine cnd (fun hc9=>?_) fun hc9=>?_
  ·
   refine go1 ?_
   replace rb4:=rb4.mono hh1
   refine lX (xB zS pH rb4) fun v10 r10=>?_
   replace rb3:=rb3.mono hh1
   refine lX (xB zS pH rb3) fun v11 r11=>(zR (A:=[_,_]) (uB sizeOf53 pH rb3 r10) fun cs_28 rb_29=>(zR (A:=[_]) (uB sizeOf53 pH rb4 r11) fun cs_30 rb_31=>?_))
   refine go1 ?_
   refine zN (cs_28,cs_30,h1) ?_ e3z rfl rfl
   refine⟨hh1,?_⟩
   refine⟨(Rp.castR rb_29 (if_pos hc9).symm),(Rp.castR rb_31 (if_pos hc9).symm),?_⟩
   trivial
  refine go1 ?_
  refine zN (cs3,cs4,h1) ?_ e3z rfl rfl
  refine⟨hh1,?_⟩
  replace rb3:=rb3.mono hh1
  replace rb4:=rb4.mono hh1
  refine⟨(Rp.castR rb3 (if_neg hc9).symm),(Rp.castR rb4 (if_neg hc9).symm),?_⟩
  trivial
 intro x hx
 obtain⟨cs_24,cs_26,m1⟩:=x
 obtain⟨hmm1,hcut⟩:=hx
 refine yS ?_
 obtain⟨rb_25,rb_27,hcut⟩:=hcut
 refine go2 ?_
 refine lX (xB zS pH rb_25) fun v12 r12=>(lX (xB zS pH rb_27) fun v13 r13=>(lX (xB zS pH rb5) fun v14 r14=>(cL (ev3 rfl rfl rfl) call203 (fun w hs=>fK hs r12 r13 r14 oM) fun v15 h1 hh1 r15=>?_)))
 obtain rfl:v15=vI (orZ (pr (loT a b 0 1) 0 1) (pr (hiT a b 0 1) 0 1) (pr p 0 1)):=r15
 have hor15:=tR (pr (loT a b 0 1) 0 1) (pr (hiT a b 0 1) 0 1) (pr p 0 1)
 refine go1 ?_
 refine uO (ι:=Mem) 6 (fun m_=>MLe h1 m_) (fun _=>[(22,vB (((orZ (pr (loT a b 0 1) 0 1) (pr (hiT a b 0 1) 0 1) (pr p 0 1))=(0:Int))∧(¬(lx (pr p 0 1) (pr (loT a b 0 1) 0 1))))),(4,vP b4 0),(5,vP b5 0)]) (fun _=>[.var b5 53 cs5,.var b4 53 cs_26,.var b3 53 cs_24]) (fun m_=>m_) ?_ ?_
 ·
  refine yB ((orZ (pr (loT a b 0 1) 0 1) (pr (hiT a b 0 1) 0 1) (pr p 0 1))=(0:Int)) (fun hg=>?_) (fun hg=>?_)
  ·
   refine gT hg rfl ?_
   refine go1 ?_
   refine lX (xB zS pH rb5) fun v18 r18=>?_
   refine go1 ?_
   refine lX (xB zS pH rb_25) fun v19 r19=>?_
   refine go1 ?_
   refine cL (ev2 rfl rfl) call202 (fun w hs=>sU hs r18 r19 oM) fun v20 h2 hh2 r20=>?_
   obtain rfl:v20=vB (lx (pr p 0 1) (pr (loT a b 0 1) 0 1)):=r20
   refine go4 ?_
   refine zN h2 hh2 ⟨?_,rfl,rfl,trivial⟩ rfl rfl
   exact congrArg some (xM hg)
  refine gF hg rfl ?_
  refine go6 ?_
  refine zN h1 (MLe.refl _) ⟨?_,rfl,rfl,trivial⟩ rfl rfl
  exact congrArg some (xN hg)
 intro mg3_5 hmmg3_5
 refine tJ ?_
 refine uO (ι:=Mem) 6 (fun m_=>MLe mg3_5 m_) (fun _=>[(28,vB ((((orZ (pr (loT a b 0 1) 0 1) (pr (hiT a b 0 1) 0 1) (pr p 0 1))=(0:Int))∧(¬(lx (pr p 0 1) (pr (loT a b 0 1) 0 1))))∧(¬(lx (pr (hiT a b 0 1) 0 1) (pr p 0 1)))))]) (fun _=>[.var b5 53 cs5,.var b4 53 cs_26,.var b3 53 cs_24]) (fun m_=>m_) ?_ ?_
 ·
  refine yB (((orZ (pr (loT a b 0 1) 0 1) (pr (hiT a b 0 1) 0 1) (pr p 0 1))=(0:Int))∧(¬(lx (pr p 0 1) (pr (loT a b 0 1) 0 1)))) (fun hg=>?_) (fun hg=>?_)
  ·
   refine gT hg rfl ?_
   refine go1 ?_
   refine lX (xB zS pH rb_27) fun v24 r24=>?_
   refine go1 ?_
   refine lX (xB zS pH rb5) fun v25 r25=>?_
   refine go1 ?_
   refine cL (ev2 rfl rfl) call202 (fun w hs=>sU hs r24 r25 oM) fun v26 h2 hh2 r26=>?_
   obtain rfl:v26=vB (lx (pr (hiT a b 0 1) 0 1) (pr p 0 1)):=r26
   refine go4 ?_
   refine zN h2 hh2 ⟨?_,trivial⟩ rfl rfl
   exact congrArg some (xM hg)
  refine gF hg rfl ?_
  refine go6 ?_
  refine zN mg3_5 (MLe.refl _) ⟨?_,trivial⟩ rfl rfl
  exact congrArg some (xN hg)
 intro mg3_11 hmmg3_11
 refine tJ ?_
 refine go4 ?_
 refine zD rfl rfl ?_
 first|exact fL (by rw[←zYG];grind)|exact(xL (by rw[←zYG];grind)).symm|exact(yU (by rw[←zYG];grind)).symm
theorem zN6{w0:World}{h0:Mem}(hs:MLe h0 (mem w0)){k:Nat}{va:Value}{a:Tq}(ra:(tPt k).Is h0 va a){vb:Value}{b:Tq}(rb:(tPt k).Is h0 vb b){vc:Value}{c:Tq}(rc:(tPt k).Is h0 vc c){vd:Value}{d:Tq}(rd:(tPt k).Is h0 vd d)(hcd0:k≤9000):
    Calls Tryz.prog 204 #[va,vb,vc,vd] w0 (Ret w0 h0 (fun _ r=>r=vI (zBC (pr a 0 1) (pr b 0 1) (pr c 0 1) (pr d 0 1)))):=by
 refine gN (n:=72) (e:=[(0,va),(1,vb),(2,vc),(3,vd)]) (vs:=[va,vb,vc,vd]) func204 rfl rfl (bL rfl) hs e4z ?_
 refine go2 ?_
 refine nB ra fun b4 cs4 rb4=>(nB rb fun b5 cs5 rb5=>(nB rc fun b6 cs6 rb6=>(nB rd fun b7 cs7 rb7=>?_)))
 refine go4 ?_
 refine kE 6 _ [(2,(9,53,[.bool false,.slice none 0 0,.slice none 0 0,.bool false,.slice none 0 0,.slice none 0 0,.bool false,.slice none 0 0,.slice none 0 0])),(3,(10,53,[.bool false,.slice none 0 0,.slice none 0 0,.bool false,.slice none 0 0,.slice none 0 0,.bool false,.slice none 0 0,.slice none 0 0]))] [(0,.q),(1,.q),(2,.a),(3,.a),(4,.c),(5,.c)] jN (jK.cons rfl rfl (uZ yV rfl rfl) (jK.cons rfl rfl (uZ yV rfl rfl) jK.nil)) (by kernel_rfl) (qB rfl rfl (qB rfl rfl kM)) (fun r hr=>hr) (wX rfl (xB zS pH rb4) fun v11 r11=>(wX rfl (xB zS pH rb5) fun v12 r12=>?_))
 refine w_a rfl rfl (fun b9=>?_)
 have rb9:(tPt (k+1)).R h0 [.bool false,.slice none 0 0,.slice none 0 0,.bool false,.slice none 0 0,.slice none 0 0,.bool false,.slice none 0 0,.slice none 0 0] zT:=(xW (yF oM))
 refine w_a rfl rfl (fun b10=>?_)
 have rb10:(tPt (k+1)).R h0 [.bool false,.slice none 0 0,.slice none 0 0,.bool false,.slice none 0 0,.slice none 0 0,.bool false,.slice none 0 0,.slice none 0 0] zT:=(xW (yF oM))
 refine w_c rfl (bE (A:=[_]) (uB sizeOf53 pH rb9 (r11.le (Le.t (Le.q (l:=k+1) oM)))) (wM (by first|(simp;done)|grind)) fun cs_32 rb_33=>?_)
 refine w_c rfl (bE (A:=[]) (uB sizeOf53 pH rb10 (r12.le (Le.t (Le.q (l:=k+1) oM)))) (wM (by first|(simp;done)|grind)) fun cs_34 rb_35=>?_)
 refine go2 ?_
 refine qK (ι:=List Value×Mem) (fun(cs_36,m1)=>MLe h0 m1∧((tPt (k+1)).R m1 cs_36 (mxT a c 0 1)∧True)) (fun(cs_36,m1)=>[(4,vP b4 0),(5,vP b5 0),(6,vP b6 0),(7,vP b7 0),(9,vP b9 0),(10,vP b10 0)]) (fun(cs_36,m1)=>[.var b10 53 cs_34,.var b9 53 cs_36,.var b7 53 cs7,.var b6 53 cs6,.var b5 53 cs5,.var b4 53 cs4]) (fun(cs_36,m1)=>m1) ?_ ?_
 ·
  refine go2 ?_
  refine lX (xB zS pH rb_33) fun v13 r13=>(lX (xB zS pH rb6) fun v14 r14=>(cL (ev2 rfl rfl) call202 (fun w hs=>sU hs r13 (r14.le (Le.t (Le.q (l:=k+1) oM))) oM) fun v15 h1 hh1 r15=>?_))
  obtain rfl:v15=vB (lx (pr a 0 1) (pr c 0 1)):=r15
  refine go2 ?_
  refine cnd (fun hc15=>?_) fun hc15=>?_
  ·
   refine go1 ?_
   refine lX (xB zS pH rb6) fun v16 r16=>?_
   replace rb_33:=rb_33.mono hh1
   refine zR (A:=[_]) (uB sizeOf53 pH rb_33 (r16.le (Le.t (Le.q (l:=k+1) oM)))) fun cs_38 rb_39=>?_
   refine go1 ?_
   refine zN (cs_38,h1) ?_ e6z rfl rfl
   refine⟨hh1,?_⟩
   refine⟨(Rp.castR rb_39 (if_pos hc15).symm),?_⟩
   trivial
  refine go1 ?_
  refine zN (cs_32,h1) ?_ e6z rfl rfl
  refine⟨hh1,?_⟩
  replace rb_33:=rb_33.mono hh1
  refine⟨(Rp.castR rb_33 (if_neg hc15).symm),?_⟩
  trivial
 intro x hx
 obtain⟨cs_36,m1⟩:=x
 obtain⟨hmm1,hcut⟩:=hx
 refine yS ?_
 obtain⟨rb_37,hcut⟩:=hcut
 refine qK (ι:=List Value×Mem) (fun(cs_40,m2)=>MLe m1 m2∧((tPt (k+1)).R m2 cs_40 (mnT b d 0 1)∧True)) (fun(cs_40,m2)=>[(4,vP b4 0),(5,vP b5 0),(6,vP b6 0),(7,vP b7 0),(9,vP b9 0),(10,vP b10 0)]) (fun(cs_40,m2)=>[.var b10 53 cs_40,.var b9 53 cs_36,.var b7 53 cs7,.var b6 53 cs6,.var b5 53 cs5,.var b4 53 cs4]) (fun(cs_40,m2)=>m2) ?_ ?_
 ·
  refine go2 ?_
  refine lX (xB zS pH rb7) fun v17 r17=>?_
  replace rb_35:=rb_35.mono hmm1
  refine lX (xB zS pH rb_35) fun v18 r18=>(cL (ev2 rfl rfl) call202 (fun w hs=>sU hs (r17.le (Le.t (Le.q (l:=k+1) oM))) r18 oM) fun v19 h1 hh1 r19=>?_)
  obtain rfl:v19=vB (lx (pr d 0 1) (pr b 0 1)):=r19
  refine go2 ?_
  refine cnd (fun hc19=>?_) fun hc19=>?_
  ·
   refine go1 ?_
   refine lX (xB zS pH rb7) fun v20 r20=>?_
   replace rb_35:=rb_35.mono hh1
   refine zR (A:=[]) (uB sizeOf53 pH rb_35 (r20.le (Le.t (Le.q (l:=k+1) oM)))) fun cs_42 rb_43=>?_
   refine go1 ?_
   refine zN (cs_42,h1) ?_ e6z rfl rfl
   refine⟨hh1,?_⟩
   refine⟨(Rp.castR rb_43 (if_pos hc19).symm),?_⟩
   trivial
  refine go1 ?_
  refine zN (cs_34,h1) ?_ e6z rfl rfl
  refine⟨hh1,?_⟩
  replace rb_35:=rb_35.mono hh1
  refine⟨(Rp.castR rb_35 (if_neg hc19).symm),?_⟩
  trivial
 intro x hx
 obtain⟨cs_40,m2⟩:=x
 obtain⟨hmm2,hcut⟩:=hx
 refine yS ?_
 obtain⟨rb_41,hcut⟩:=hcut
 refine go4 ?_
 refine lX (xB zS pH rb_41) fun v22 r22=>(lX (xB zS pH rb_37) fun v23 r23=>(cL (ev2 rfl rfl) call202 (fun w hs=>sU hs r22 r23 oM) fun v24 h1 hh1 r24=>?_))
 obtain rfl:v24=vB (lx (pr (mnT b d 0 1) 0 1) (pr (mxT a c 0 1) 0 1)):=r24
 refine go3 ?_
 refine cnd (fun hc21=>?_) fun hc21=>?_
 ·
  refine go8 ?_
  refine zD rfl rfl ?_
  refine congrArg vI ?_;rw[←zC8 rfl rfl];unfold zC9;grind
 refine go2 ?_
 refine lX (xB zS pH rb_37) fun v26 r26=>(lX (xB zS pH rb_41) fun v27 r27=>(cL (ev2 rfl rfl) call193 (fun w hs=>qR hs r26 r27 oM) fun v28 h2 hh2 r28=>?_))
 obtain rfl:v28=vB ((pr (mxT a c 0 1) 0 1)=(pr (mnT b d 0 1) 0 1)):=r28
 refine go4 ?_
 refine cnd (fun hc25=>?_) fun hc25=>?_
 ·
  refine go8 ?_
  refine zD rfl rfl ?_
  refine congrArg vI ?_;rw[←zC8 rfl rfl];unfold zC9;grind
 refine go2 ?_
 refine lX (xB zS pH rb_37) fun v31 r31=>(lX (xB zS pH rb4) fun v32 r32=>(cL (ev2 rfl rfl) call193 (fun w hs=>qR hs r31 (r32.le (Le.t (Le.q (l:=k+1) oM))) oM) fun v33 h3 hh3 r33=>?_))
 obtain rfl:v33=vB ((pr (mxT a c 0 1) 0 1)=(pr a 0 1)):=r33
 refine uO (ι:=Mem) 5 (fun m_=>MLe h3 m_) (fun _=>[(38,vB (((pr (mxT a c 0 1) 0 1)=(pr a 0 1))∨((pr (mxT a c 0 1) 0 1)=(pr b 0 1)))),(4,vP b4 0),(5,vP b5 0),(6,vP b6 0),(7,vP b7 0),(9,vP b9 0)]) (fun _=>[.var b10 53 cs_40,.var b9 53 cs_36,.var b7 53 cs7,.var b6 53 cs6,.var b5 53 cs5,.var b4 53 cs4]) (fun m_=>m_) ?_ ?_
 ·
  refine yB ((pr (mxT a c 0 1) 0 1)=(pr a 0 1)) (fun hg=>?_) (fun hg=>?_)
  ·
   refine gT hg rfl ?_
   refine go5 ?_
   refine zN h3 (MLe.refl _) ⟨?_,rfl,rfl,rfl,rfl,rfl,trivial⟩ rfl rfl
   exact congrArg some (uA hg)
  refine gF hg rfl ?_
  refine go1 ?_
  refine lX (xB zS pH rb_37) fun v35 r35=>?_
  refine go1 ?_
  refine lX (xB zS pH rb5) fun v36 r36=>?_
  refine go1 ?_
  refine cL (ev2 rfl rfl) call193 (fun w hs=>qR hs r35 (r36.le (Le.t (Le.q (l:=k+1) oM))) oM) fun v37 h4 hh4 r37=>?_
  obtain rfl:v37=vB ((pr (mxT a c 0 1) 0 1)=(pr b 0 1)):=r37
  refine go2 ?_
  refine zN h4 hh4 ⟨?_,rfl,rfl,rfl,rfl,rfl,trivial⟩ rfl rfl
  exact congrArg some (uC hg)
 intro mg10_3 hmmg10_3
 refine tJ ?_
 refine uO (ι:=Mem) 10 (fun m_=>MLe mg10_3 m_) (fun _=>[(48,vB ((((pr (mxT a c 0 1) 0 1)=(pr a 0 1))∨((pr (mxT a c 0 1) 0 1)=(pr b 0 1)))∧(((pr (mxT a c 0 1) 0 1)=(pr c 0 1))∨((pr (mxT a c 0 1) 0 1)=(pr d 0 1))))),(4,vP b4 0),(5,vP b5 0),(6,vP b6 0),(7,vP b7 0),(9,vP b9 0)]) (fun _=>[.var b10 53 cs_40,.var b9 53 cs_36,.var b7 53 cs7,.var b6 53 cs6,.var b5 53 cs5,.var b4 53 cs4]) (fun m_=>m_) ?_ ?_
 ·
  refine yB (((pr (mxT a c 0 1) 0 1)=(pr a 0 1))∨((pr (mxT a c 0 1) 0 1)=(pr b 0 1))) (fun hg=>?_) (fun hg=>?_)
  ·
   refine gT hg rfl ?_
   refine go1 ?_
   refine lX (xB zS pH rb_37) fun v40 r40=>?_
   refine go1 ?_
   refine lX (xB zS pH rb6) fun v41 r41=>?_
   refine go1 ?_
   refine cL (ev2 rfl rfl) call193 (fun w hs=>qR hs r40 (r41.le (Le.t (Le.q (l:=k+1) oM))) oM) fun v42 h4 hh4 r42=>?_
   obtain rfl:v42=vB ((pr (mxT a c 0 1) 0 1)=(pr c 0 1)):=r42
   refine uO (ι:=Mem) 5 (fun m_=>MLe h4 m_) (fun _=>[(47,vB (((pr (mxT a c 0 1) 0 1)=(pr c 0 1))∨((pr (mxT a c 0 1) 0 1)=(pr d 0 1)))),(4,vP b4 0),(5,vP b5 0),(6,vP b6 0),(7,vP b7 0),(9,vP b9 0),(39,.bool true)]) (fun _=>[.var b10 53 cs_40,.var b9 53 cs_36,.var b7 53 cs7,.var b6 53 cs6,.var b5 53 cs5,.var b4 53 cs4]) (fun m_=>m_) ?_ ?_
   ·
    refine yB ((pr (mxT a c 0 1) 0 1)=(pr c 0 1)) (fun hg=>?_) (fun hg=>?_)
    ·
     refine go1 ?_
     refine gT hg rfl ?_
     refine go6 ?_
     refine zN h4 (MLe.refl _) ⟨?_,rfl,rfl,rfl,rfl,rfl,rfl,trivial⟩ rfl rfl
     exact congrArg some (uA hg)
    refine go1 ?_
    refine gF hg rfl ?_
    refine go1 ?_
    refine lX (xB zS pH rb_37) fun v44 r44=>?_
    refine go1 ?_
    refine lX (xB zS pH rb7) fun v45 r45=>?_
    refine go1 ?_
    refine cL (ev2 rfl rfl) call193 (fun w hs=>qR hs r44 (r45.le (Le.t (Le.q (l:=k+1) oM))) oM) fun v46 h5 hh5 r46=>?_
    obtain rfl:v46=vB ((pr (mxT a c 0 1) 0 1)=(pr d 0 1)):=r46
    refine go3 ?_
    refine zN h5 hh5 ⟨?_,rfl,rfl,rfl,rfl,rfl,rfl,trivial⟩ rfl rfl
    exact congrArg some (uC hg)
   intro mg10_12 hmmg10_12
   refine tJ ?_
   refine go2 ?_
   refine zN mg10_12 (hh4.trans hmmg10_12) ⟨?_,rfl,rfl,rfl,rfl,rfl,trivial⟩ rfl rfl
   exact congrArg some (xM hg)
  refine gF hg rfl ?_
  refine vO ?_
  refine zN mg10_3 (MLe.refl _) ⟨?_,rfl,rfl,rfl,rfl,rfl,trivial⟩ rfl rfl
  exact congrArg some (xN hg)
 intro mg10_8 hmmg10_8
 refine tJ ?_
 refine uO (ι:=Mem) 6 (fun m_=>MLe mg10_8 m_) (fun _=>[(54,vB (((((pr (mxT a c 0 1) 0 1)=(pr a 0 1))∨((pr (mxT a c 0 1) 0 1)=(pr b 0 1)))∧(((pr (mxT a c 0 1) 0 1)=(pr c 0 1))∨((pr (mxT a c 0 1) 0 1)=(pr d 0 1))))∧(onS (pr a 0 1) (pr b 0 1) (pr (mxT a c 0 1) 0 1)))),(4,vP b4 0),(5,vP b5 0),(6,vP b6 0),(7,vP b7 0),(9,vP b9 0)]) (fun _=>[.var b10 53 cs_40,.var b9 53 cs_36,.var b7 53 cs7,.var b6 53 cs6,.var b5 53 cs5,.var b4 53 cs4]) (fun m_=>m_) ?_ ?_
 ·
  refine yB ((((pr (mxT a c 0 1) 0 1)=(pr a 0 1))∨((pr (mxT a c 0 1) 0 1)=(pr b 0 1)))∧(((pr (mxT a c 0 1) 0 1)=(pr c 0 1))∨((pr (mxT a c 0 1) 0 1)=(pr d 0 1)))) (fun hg=>?_) (fun hg=>?_)
  ·
   refine gT hg rfl ?_
   refine go1 ?_
   refine lX (xB zS pH rb4) fun v50 r50=>?_
   refine go1 ?_
   refine lX (xB zS pH rb5) fun v51 r51=>?_
   refine go1 ?_
   refine lX (xB zS pH rb_37) fun v52 r52=>?_
   refine go1 ?_
   refine cL (ev3 rfl rfl rfl) call206 (fun w hs=>nW hs (r50.le (Le.t (Le.q (l:=k+1) oM))) (r51.le (Le.t (Le.q (l:=k+1) oM))) r52 oM) fun v53 h4 hh4 r53=>?_
   obtain rfl:v53=vB (onS (pr a 0 1) (pr b 0 1) (pr (mxT a c 0 1) 0 1)):=r53
   refine go2 ?_
   refine zN h4 hh4 ⟨?_,rfl,rfl,rfl,rfl,rfl,trivial⟩ rfl rfl
   exact congrArg some (xM hg)
  refine gF hg rfl ?_
  refine go6 ?_
  refine zN mg10_8 (MLe.refl _) ⟨?_,rfl,rfl,rfl,rfl,rfl,trivial⟩ rfl rfl
  exact congrArg some (xN hg)
 intro mg10_18 hmmg10_18
 refine tJ ?_
 refine uO (ι:=Mem) 6 (fun m_=>MLe mg10_18 m_) (fun _=>[(60,vB ((((((pr (mxT a c 0 1) 0 1)=(pr a 0 1))∨((pr (mxT a c 0 1) 0 1)=(pr b 0 1)))∧(((pr (mxT a c 0 1) 0 1)=(pr c 0 1))∨((pr (mxT a c 0 1) 0 1)=(pr d 0 1))))∧(onS (pr a 0 1) (pr b 0 1) (pr (mxT a c 0 1) 0 1)))∧(onS (pr c 0 1) (pr d 0 1) (pr (mxT a c 0 1) 0 1)))),(4,vP b4 0),(5,vP b5 0),(6,vP b6 0),(7,vP b7 0),(9,vP b9 0)]) (fun _=>[.var b10 53 cs_40,.var b9 53 cs_36,.var b7 53 cs7,.var b6 53 cs6,.var b5 53 cs5,.var b4 53 cs4]) (fun m_=>m_) ?_ ?_
 ·
  refine yB (((((pr (mxT a c 0 1) 0 1)=(pr a 0 1))∨((pr (mxT a c 0 1) 0 1)=(pr b 0 1)))∧(((pr (mxT a c 0 1) 0 1)=(pr c 0 1))∨((pr (mxT a c 0 1) 0 1)=(pr d 0 1))))∧(onS (pr a 0 1) (pr b 0 1) (pr (mxT a c 0 1) 0 1))) (fun hg=>?_) (fun hg=>?_)
  ·
   refine gT hg rfl ?_
   refine go1 ?_
   refine lX (xB zS pH rb6) fun v56 r56=>?_
   refine go1 ?_
   refine lX (xB zS pH rb7) fun v57 r57=>?_
   refine go1 ?_
   refine lX (xB zS pH rb_37) fun v58 r58=>?_
   refine go1 ?_
   refine cL (ev3 rfl rfl rfl) call206 (fun w hs=>nW hs (r56.le (Le.t (Le.q (l:=k+1) oM))) (r57.le (Le.t (Le.q (l:=k+1) oM))) r58 oM) fun v59 h4 hh4 r59=>?_
   obtain rfl:v59=vB (onS (pr c 0 1) (pr d 0 1) (pr (mxT a c 0 1) 0 1)):=r59
   refine go2 ?_
   refine zN h4 hh4 ⟨?_,rfl,rfl,rfl,rfl,rfl,trivial⟩ rfl rfl
   exact congrArg some (xM hg)
  refine gF hg rfl ?_
  refine go6 ?_
  refine zN mg10_18 (MLe.refl _) ⟨?_,rfl,rfl,rfl,rfl,rfl,trivial⟩ rfl rfl
  exact congrArg some (xN hg)
 intro mg10_24 hmmg10_24
 refine tJ ?_
 refine go3 ?_
 refine cnd (fun hc30=>?_) fun hc30=>?_
 ·
  refine go8 ?_
  refine zD rfl rfl ?_
  refine congrArg vI ?_;rw[←zC8 rfl rfl];unfold zC9;grind
 refine go2 ?_
 refine lX (xB zS pH rb4) fun v62 r62=>(lX (xB zS pH rb5) fun v63 r63=>(lX (xB zS pH rb_37) fun v64 r64=>(cL (ev3 rfl rfl rfl) call206 (fun w hs=>nW hs (r62.le (Le.t (Le.q (l:=k+1) oM))) (r63.le (Le.t (Le.q (l:=k+1) oM))) r64 oM) fun v65 h4 hh4 r65=>?_)))
 obtain rfl:v65=vB (onS (pr a 0 1) (pr b 0 1) (pr (mxT a c 0 1) 0 1)):=r65
 refine uO (ι:=Mem) 6 (fun m_=>MLe h4 m_) (fun _=>[(71,vB ((onS (pr a 0 1) (pr b 0 1) (pr (mxT a c 0 1) 0 1))∧(onS (pr c 0 1) (pr d 0 1) (pr (mxT a c 0 1) 0 1))))]) (fun _=>[.var b10 53 cs_40,.var b9 53 cs_36,.var b7 53 cs7,.var b6 53 cs6,.var b5 53 cs5,.var b4 53 cs4]) (fun m_=>m_) ?_ ?_
 ·
  refine yB (onS (pr a 0 1) (pr b 0 1) (pr (mxT a c 0 1) 0 1)) (fun hg=>?_) (fun hg=>?_)
  ·
   refine gT hg rfl ?_
   refine go1 ?_
   refine lX (xB zS pH rb6) fun v67 r67=>?_
   refine go1 ?_
   refine lX (xB zS pH rb7) fun v68 r68=>?_
   refine go1 ?_
   refine lX (xB zS pH rb_37) fun v69 r69=>?_
   refine go1 ?_
   refine cL (ev3 rfl rfl rfl) call206 (fun w hs=>nW hs (r67.le (Le.t (Le.q (l:=k+1) oM))) (r68.le (Le.t (Le.q (l:=k+1) oM))) r69 oM) fun v70 h5 hh5 r70=>?_
   obtain rfl:v70=vB (onS (pr c 0 1) (pr d 0 1) (pr (mxT a c 0 1) 0 1)):=r70
   refine go2 ?_
   refine zN h5 hh5 ⟨?_,trivial⟩ rfl rfl
   exact congrArg some (xM hg)
  refine gF hg rfl ?_
  refine go6 ?_
  refine zN h4 (MLe.refl _) ⟨?_,trivial⟩ rfl rfl
  exact congrArg some (xN hg)
 intro mg12_4 hmmg12_4
 refine tJ ?_
 refine go3 ?_
 refine cnd (fun hc61=>?_) fun hc61=>?_
 ·
  refine go8 ?_
  refine zD rfl rfl ?_
  refine congrArg vI ?_;rw[←zC8 rfl rfl];unfold zC9;grind
 refine go9 ?_
 refine zD rfl rfl ?_
 refine congrArg vI ?_;rw[←zC8 rfl rfl];unfold zC9;grind
theorem zH2{w0:World}{h0:Mem}(hs:MLe h0 (mem w0)){k:Nat}{va:Value}{a:Tq}(ra:(tPt k).Is h0 va a){vb:Value}{b:Tq}(rb:(tPt k).Is h0 vb b){vc:Value}{c:Tq}(rc:(tPt k).Is h0 vc c){vd:Value}{d:Tq}(rd:(tPt k).Is h0 vd d)(hcd0:k≤10000):
    Calls Tryz.prog 205 #[va,vb,vc,vd] w0 (Ret w0 h0 (fun _ r=>r=vI (eL (pr a 0 1) (pr b 0 1) (pr c 0 1) (pr d 0 1)))):=by
 refine gN (n:=29) (e:=[(0,va),(1,vb),(2,vc),(3,vd)]) (vs:=[va,vb,vc,vd]) func205 rfl rfl (bL rfl) hs e4z ?_
 refine go2 ?_
 refine nB ra fun b4 cs4 rb4=>(nB rb fun b5 cs5 rb5=>(nB rc fun b6 cs6 rb6=>(nB rd fun b7 cs7 rb7=>?_)))
 refine go6 ?_
 refine lX (xB zS pH rb4) fun v9 r9=>(lX (xB zS pH rb5) fun v10 r10=>(cL (ev2 rfl rfl) call193 (fun w hs=>qR hs r9 r10 oM) fun v11 h1 hh1 r11=>?_))
 obtain rfl:v11=vB ((pr a 0 1)=(pr b 0 1)):=r11
 refine uO (ι:=Mem) 6 (fun m_=>MLe h1 m_) (fun _=>[(17,vB (((pr a 0 1)=(pr b 0 1))∧(onS (pr c 0 1) (pr d 0 1) (pr a 0 1)))),(4,vP b4 0),(5,vP b5 0),(6,vP b6 0),(7,vP b7 0)]) (fun _=>[.var b7 53 cs7,.var b6 53 cs6,.var b5 53 cs5,.var b4 53 cs4]) (fun m_=>m_) ?_ ?_
 ·
  refine yB ((pr a 0 1)=(pr b 0 1)) (fun hg=>?_) (fun hg=>?_)
  ·
   refine gT hg rfl ?_
   refine go1 ?_
   refine lX (xB zS pH rb6) fun v13 r13=>?_
   refine go1 ?_
   refine lX (xB zS pH rb7) fun v14 r14=>?_
   refine go1 ?_
   refine lX (xB zS pH rb4) fun v15 r15=>?_
   refine go1 ?_
   refine cL (ev3 rfl rfl rfl) call206 (fun w hs=>nW hs r13 r14 r15 oM) fun v16 h2 hh2 r16=>?_
   obtain rfl:v16=vB (onS (pr c 0 1) (pr d 0 1) (pr a 0 1)):=r16
   refine go2 ?_
   refine zN h2 hh2 ⟨?_,rfl,rfl,rfl,rfl,trivial⟩ rfl rfl
   exact congrArg some (xM hg)
  refine gF hg rfl ?_
  refine go6 ?_
  refine zN h1 (MLe.refl _) ⟨?_,rfl,rfl,rfl,rfl,trivial⟩ rfl rfl
  exact congrArg some (xN hg)
 intro mg1_3 hmmg1_3
 refine tJ ?_
 refine uO (ι:=Mem) 11 (fun m_=>MLe mg1_3 m_) (fun _=>[(28,vB ((((pr a 0 1)=(pr b 0 1))∧(onS (pr c 0 1) (pr d 0 1) (pr a 0 1)))∨(((pr c 0 1)=(pr d 0 1))∧(onS (pr a 0 1) (pr b 0 1) (pr c 0 1)))))]) (fun _=>[.var b7 53 cs7,.var b6 53 cs6,.var b5 53 cs5,.var b4 53 cs4]) (fun m_=>m_) ?_ ?_
 ·
  refine yB (((pr a 0 1)=(pr b 0 1))∧(onS (pr c 0 1) (pr d 0 1) (pr a 0 1))) (fun hg=>?_) (fun hg=>?_)
  ·
   refine gT hg rfl ?_
   refine uP ?_
   refine zN mg1_3 (MLe.refl _) ⟨?_,trivial⟩ rfl rfl
   exact congrArg some (uA hg)
  refine gF hg rfl ?_
  refine go1 ?_
  refine lX (xB zS pH rb6) fun v19 r19=>?_
  refine go1 ?_
  refine lX (xB zS pH rb7) fun v20 r20=>?_
  refine go1 ?_
  refine cL (ev2 rfl rfl) call193 (fun w hs=>qR hs r19 r20 oM) fun v21 h2 hh2 r21=>?_
  obtain rfl:v21=vB ((pr c 0 1)=(pr d 0 1)):=r21
  refine uO (ι:=Mem) 6 (fun m_=>MLe h2 m_) (fun _=>[(27,vB (((pr c 0 1)=(pr d 0 1))∧(onS (pr a 0 1) (pr b 0 1) (pr c 0 1)))),(18,.bool false)]) (fun _=>[.var b7 53 cs7,.var b6 53 cs6,.var b5 53 cs5,.var b4 53 cs4]) (fun m_=>m_) ?_ ?_
  ·
   refine yB ((pr c 0 1)=(pr d 0 1)) (fun hg=>?_) (fun hg=>?_)
   ·
    refine go1 ?_
    refine gT hg rfl ?_
    refine go1 ?_
    refine lX (xB zS pH rb4) fun v23 r23=>?_
    refine go1 ?_
    refine lX (xB zS pH rb5) fun v24 r24=>?_
    refine go1 ?_
    refine lX (xB zS pH rb6) fun v25 r25=>?_
    refine go1 ?_
    refine cL (ev3 rfl rfl rfl) call206 (fun w hs=>nW hs r23 r24 r25 oM) fun v26 h3 hh3 r26=>?_
    obtain rfl:v26=vB (onS (pr a 0 1) (pr b 0 1) (pr c 0 1)):=r26
    refine go3 ?_
    refine zN h3 hh3 ⟨?_,rfl,trivial⟩ rfl rfl
    exact congrArg some (xM hg)
   refine go1 ?_
   refine gF hg rfl ?_
   refine go7 ?_
   refine zN h2 (MLe.refl _) ⟨?_,rfl,trivial⟩ rfl rfl
   exact congrArg some (xN hg)
  intro mg1_13 hmmg1_13
  refine tJ ?_
  refine go2 ?_
  refine zN mg1_13 (hh2.trans hmmg1_13) ⟨?_,trivial⟩ rfl rfl
  exact congrArg some (uC hg)
 intro mg1_9 hmmg1_9
 refine tJ ?_
 refine go2 ?_
 refine cnd (fun hc28=>?_) fun hc28=>?_
 ·
  refine go7 ?_
  refine zD rfl rfl ?_
  exact congrArg vI (if_pos hc28).symm
 refine go8 ?_
 refine zD rfl rfl ?_
 exact congrArg vI (if_neg hc28).symm
theorem zCS{w0:World}{h0:Mem}(hs:MLe h0 (mem w0)){k:Nat}{va:Value}{a:Tq}(ra:(tPt k).Is h0 va a){vb:Value}{b:Tq}(rb:(tPt k).Is h0 vb b){vc:Value}{c:Tq}(rc:(tPt k).Is h0 vc c){vd:Value}{d:Tq}(rd:(tPt k).Is h0 vd d)(hcd0:k≤5000):
    Calls Tryz.prog 194 #[va,vb,vc,vd] w0 (Ret w0 h0 (fun _ r=>r=vI (nN (pr a 0 1) (pr b 0 1) (pr c 0 1) (pr d 0 1)))):=by
 refine gN (n:=117) (e:=[(0,va),(1,vb),(2,vc),(3,vd)]) (vs:=[va,vb,vc,vd]) func194 rfl rfl (bL rfl) hs e4z ?_
 refine go2 ?_
 refine nB ra fun b4 cs4 rb4=>(nB rb fun b5 cs5 rb5=>(nB rc fun b6 cs6 rb6=>(nB rd fun b7 cs7 rb7=>?_)))
 refine go4 ?_
 refine gD 8 [(0,.q),(2,.q),(4,.q),(6,.q),(1,.c),(3,.c),(5,.c),(7,.c),(8,.t),(9,.t),(10,.t),(11,.t)] (vG [0,1,0,6,0,24,0,96,131,271,831,2047] (frz 4095 [0,1,0,4,0,16,0,64,2,8,32,128]) (by kernel_rfl)) ?_
 refine wX rfl (xB zS pH rb4) fun v11 r11=>(wX rfl (xB zS pH rb5) fun v13 r13=>(wX rfl (xB zS pH rb6) fun v15 r15=>(wX rfl (xB zS pH rb7) fun v17 r17=>?_)))
 refine w_c rfl (sC (ev1 rfl) call201 (fun w hs=>rW hs r11) fun v12 h1 hh1 r12=>?_)
 refine w_c rfl (sC (ev1 rfl) call201 (fun w hs=>rW hs r13.up) fun v14 h2 hh2 r14=>?_)
 refine w_c rfl (sC (ev1 rfl) call201 (fun w hs=>rW hs r15.up) fun v16 h3 hh3 r16=>?_)
 refine w_c rfl (sC (ev1 rfl) call201 (fun w hs=>rW hs r17.up) fun v18 h4 hh4 r18=>?_)
 replace rb4:=rb4.mono (((hh1.trans hh2).trans hh3).trans hh4)
 have rw_44:=(Le.t (Le.q (l:=k+1) oM)).R rb4
 refine yI (A:=[_,_,_]) rfl (uB sizeOf53 pH rw_44 r12) fun cs_45 rb_46=>?_
 replace rb5:=rb5.mono (((hh1.trans hh2).trans hh3).trans hh4)
 have rw_47:=(Le.t (Le.q (l:=k+1) oM)).R rb5
 refine yI (A:=[_,_]) rfl (uB sizeOf53 pH rw_47 r14) fun cs_48 rb_49=>?_
 replace rb6:=rb6.mono (((hh1.trans hh2).trans hh3).trans hh4)
 have rw_50:=(Le.t (Le.q (l:=k+1) oM)).R rb6
 refine yI (A:=[_]) rfl (uB sizeOf53 pH rw_50 r16) fun cs_51 rb_52=>?_
 replace rb7:=rb7.mono (((hh1.trans hh2).trans hh3).trans hh4)
 have rw_53:=(Le.t (Le.q (l:=k+1) oM)).R rb7
 refine yI (A:=[]) rfl (uB sizeOf53 pH rw_53 r18) fun cs_54 rb_55=>?_
 refine go2 ?_
 refine qK (ι:=List Value×List Value×Mem) (fun(cs_56,cs_58,m1)=>MLe h4 m1∧((tPt (k+1)).R m1 cs_56 (loT (zZ a) (zZ b) 0 1)∧(tPt (k+1)).R m1 cs_58 (hiT (zZ a) (zZ b) 0 1)∧True)) (fun(cs_56,cs_58,m1)=>[(4,vP b4 0),(5,vP b5 0),(6,vP b6 0),(7,vP b7 0)]) (fun(cs_56,cs_58,m1)=>[.var b7 53 cs_54,.var b6 53 cs_51,.var b5 53 cs_58,.var b4 53 cs_56]) (fun(cs_56,cs_58,m1)=>m1) ?_ ?_
 ·
  refine go2 ?_
  refine lX (xB zS pH rb_49) fun v19 r19=>(lX (xB zS pH rb_46) fun v20 r20=>(cL (ev2 rfl rfl) call202 (fun w hs=>sU hs r19 r20 oM) fun v21 h5 hh5 r21=>?_))
  obtain rfl:v21=vB (lx (pr (zZ b) 0 1) (pr (zZ a) 0 1)):=r21
  refine go2 ?_
  refine cnd (fun hc21=>?_) fun hc21=>?_
  ·
   refine go1 ?_
   replace rb_49:=rb_49.mono hh5
   refine lX (xB zS pH rb_49) fun v22 r22=>?_
   replace rb_46:=rb_46.mono hh5
   refine lX (xB zS pH rb_46) fun v23 r23=>(zR (A:=[_,_,_]) (uB sizeOf53 pH rb_46 r22) fun cs_60 rb_61=>(zR (A:=[_,_]) (uB sizeOf53 pH rb_49 r23) fun cs_62 rb_63=>?_))
   refine go1 ?_
   refine zN (cs_60,cs_62,h5) ?_ e4z rfl rfl
   refine⟨hh5,?_⟩
   refine⟨(Rp.castR rb_61 (if_pos hc21).symm),(Rp.castR rb_63 (if_pos hc21).symm),?_⟩
   trivial
  refine go1 ?_
  refine zN (cs_45,cs_48,h5) ?_ e4z rfl rfl
  refine⟨hh5,?_⟩
  replace rb_46:=rb_46.mono hh5
  replace rb_49:=rb_49.mono hh5
  refine⟨(Rp.castR rb_46 (if_neg hc21).symm),(Rp.castR rb_49 (if_neg hc21).symm),?_⟩
  trivial
 intro x hx
 obtain⟨cs_56,cs_58,m1⟩:=x
 obtain⟨hmm1,hcut⟩:=hx
 refine yS ?_
 obtain⟨rb_57,rb_59,hcut⟩:=hcut
 refine qK (ι:=List Value×List Value×Mem) (fun(cs_64,cs_66,m2)=>MLe m1 m2∧((tPt (k+1)).R m2 cs_64 (loT (zZ c) (zZ d) 0 1)∧(tPt (k+1)).R m2 cs_66 (hiT (zZ c) (zZ d) 0 1)∧True)) (fun(cs_64,cs_66,m2)=>[(4,vP b4 0),(5,vP b5 0),(6,vP b6 0),(7,vP b7 0)]) (fun(cs_64,cs_66,m2)=>[.var b7 53 cs_66,.var b6 53 cs_64,.var b5 53 cs_58,.var b4 53 cs_56]) (fun(cs_64,cs_66,m2)=>m2) ?_ ?_
 ·
  refine go2 ?_
  replace rb_55:=rb_55.mono hmm1
  refine lX (xB zS pH rb_55) fun v24 r24=>?_
  replace rb_52:=rb_52.mono hmm1
  refine lX (xB zS pH rb_52) fun v25 r25=>(cL (ev2 rfl rfl) call202 (fun w hs=>sU hs r24 r25 oM) fun v26 h5 hh5 r26=>?_)
  obtain rfl:v26=vB (lx (pr (zZ d) 0 1) (pr (zZ c) 0 1)):=r26
  refine go2 ?_
  refine cnd (fun hc26=>?_) fun hc26=>?_
  ·
   refine go1 ?_
   replace rb_55:=rb_55.mono hh5
   refine lX (xB zS pH rb_55) fun v27 r27=>?_
   replace rb_52:=rb_52.mono hh5
   refine lX (xB zS pH rb_52) fun v28 r28=>(zR (A:=[_]) (uB sizeOf53 pH rb_52 r27) fun cs_68 rb_69=>(zR (A:=[]) (uB sizeOf53 pH rb_55 r28) fun cs_70 rb_71=>?_))
   refine go1 ?_
   refine zN (cs_68,cs_70,h5) ?_ e4z rfl rfl
   refine⟨hh5,?_⟩
   refine⟨(Rp.castR rb_69 (if_pos hc26).symm),(Rp.castR rb_71 (if_pos hc26).symm),?_⟩
   trivial
  refine go1 ?_
  refine zN (cs_51,cs_54,h5) ?_ e4z rfl rfl
  refine⟨hh5,?_⟩
  replace rb_52:=rb_52.mono hh5
  replace rb_55:=rb_55.mono hh5
  refine⟨(Rp.castR rb_52 (if_neg hc26).symm),(Rp.castR rb_55 (if_neg hc26).symm),?_⟩
  trivial
 intro x hx
 obtain⟨cs_64,cs_66,m2⟩:=x
 obtain⟨hmm2,hcut⟩:=hx
 refine yS ?_
 obtain⟨rb_65,rb_67,hcut⟩:=hcut
 refine go3 ?_
 refine lX (xB zS pH rb_57) fun v29 r29=>(lX (xB zS pH rb_59) fun v30 r30=>(lX (xB zS pH rb_65) fun v31 r31=>(cL (ev3 rfl rfl rfl) call203 (fun w hs=>fK hs r29 r30 r31 oM) fun v32 h5 hh5 r32=>?_)))
 obtain rfl:v32=vI (orZ (pr (loT (zZ a) (zZ b) 0 1) 0 1) (pr (hiT (zZ a) (zZ b) 0 1) 0 1) (pr (loT (zZ c) (zZ d) 0 1) 0 1)):=r32
 have hor32:=tR (pr (loT (zZ a) (zZ b) 0 1) 0 1) (pr (hiT (zZ a) (zZ b) 0 1) 0 1) (pr (loT (zZ c) (zZ d) 0 1) 0 1)
 refine go1 ?_
 refine uO (ι:=Mem) 7 (fun m_=>MLe h5 m_) (fun _=>[(40,vB (((orZ (pr (loT (zZ a) (zZ b) 0 1) 0 1) (pr (hiT (zZ a) (zZ b) 0 1) 0 1) (pr (loT (zZ c) (zZ d) 0 1) 0 1))=(0:Int))∧((orZ (pr (loT (zZ a) (zZ b) 0 1) 0 1) (pr (hiT (zZ a) (zZ b) 0 1) 0 1) (pr (hiT (zZ c) (zZ d) 0 1) 0 1))=(0:Int)))),(4,vP b4 0),(5,vP b5 0),(6,vP b6 0),(7,vP b7 0)]) (fun _=>[.var b7 53 cs_66,.var b6 53 cs_64,.var b5 53 cs_58,.var b4 53 cs_56]) (fun m_=>m_) ?_ ?_
 ·
  refine yB ((orZ (pr (loT (zZ a) (zZ b) 0 1) 0 1) (pr (hiT (zZ a) (zZ b) 0 1) 0 1) (pr (loT (zZ c) (zZ d) 0 1) 0 1))=(0:Int)) (fun hg=>?_) (fun hg=>?_)
  ·
   refine gT hg rfl ?_
   refine go1 ?_
   refine lX (xB zS pH rb_57) fun v35 r35=>?_
   refine go1 ?_
   refine lX (xB zS pH rb_59) fun v36 r36=>?_
   refine go1 ?_
   refine lX (xB zS pH rb_67) fun v37 r37=>?_
   refine go1 ?_
   refine cL (ev3 rfl rfl rfl) call203 (fun w hs=>fK hs r35 r36 r37 oM) fun v38 h6 hh6 r38=>?_
   obtain rfl:v38=vI (orZ (pr (loT (zZ a) (zZ b) 0 1) 0 1) (pr (hiT (zZ a) (zZ b) 0 1) 0 1) (pr (hiT (zZ c) (zZ d) 0 1) 0 1)):=r38
   have hor38:=tR (pr (loT (zZ a) (zZ b) 0 1) 0 1) (pr (hiT (zZ a) (zZ b) 0 1) 0 1) (pr (hiT (zZ c) (zZ d) 0 1) 0 1)
   refine go4 ?_
   refine zN h6 hh6 ⟨?_,rfl,rfl,rfl,rfl,trivial⟩ rfl rfl
   exact congrArg some (xM hg)
  refine gF hg rfl ?_
  refine go7 ?_
  refine zN h5 (MLe.refl _) ⟨?_,rfl,rfl,rfl,rfl,trivial⟩ rfl rfl
  exact congrArg some (xN hg)
 intro mg6_5 hmmg6_5
 refine tJ ?_
 refine uO (ι:=Mem) 7 (fun m_=>MLe mg6_5 m_) (fun _=>[(47,vB ((((orZ (pr (loT (zZ a) (zZ b) 0 1) 0 1) (pr (hiT (zZ a) (zZ b) 0 1) 0 1) (pr (loT (zZ c) (zZ d) 0 1) 0 1))=(0:Int))∧((orZ (pr (loT (zZ a) (zZ b) 0 1) 0 1) (pr (hiT (zZ a) (zZ b) 0 1) 0 1) (pr (hiT (zZ c) (zZ d) 0 1) 0 1))=(0:Int)))∧((orZ (pr (loT (zZ c) (zZ d) 0 1) 0 1) (pr (hiT (zZ c) (zZ d) 0 1) 0 1) (pr (loT (zZ a) (zZ b) 0 1) 0 1))=(0:Int)))),(4,vP b4 0),(5,vP b5 0),(6,vP b6 0),(7,vP b7 0)]) (fun _=>[.var b7 53 cs_66,.var b6 53 cs_64,.var b5 53 cs_58,.var b4 53 cs_56]) (fun m_=>m_) ?_ ?_
 ·
  refine yB (((orZ (pr (loT (zZ a) (zZ b) 0 1) 0 1) (pr (hiT (zZ a) (zZ b) 0 1) 0 1) (pr (loT (zZ c) (zZ d) 0 1) 0 1))=(0:Int))∧((orZ (pr (loT (zZ a) (zZ b) 0 1) 0 1) (pr (hiT (zZ a) (zZ b) 0 1) 0 1) (pr (hiT (zZ c) (zZ d) 0 1) 0 1))=(0:Int))) (fun hg=>?_) (fun hg=>?_)
  ·
   refine gT hg rfl ?_
   refine go1 ?_
   refine lX (xB zS pH rb_65) fun v42 r42=>?_
   refine go1 ?_
   refine lX (xB zS pH rb_67) fun v43 r43=>?_
   refine go1 ?_
   refine lX (xB zS pH rb_57) fun v44 r44=>?_
   refine go1 ?_
   refine cL (ev3 rfl rfl rfl) call203 (fun w hs=>fK hs r42 r43 r44 oM) fun v45 h6 hh6 r45=>?_
   obtain rfl:v45=vI (orZ (pr (loT (zZ c) (zZ d) 0 1) 0 1) (pr (hiT (zZ c) (zZ d) 0 1) 0 1) (pr (loT (zZ a) (zZ b) 0 1) 0 1)):=r45
   have hor45:=tR (pr (loT (zZ c) (zZ d) 0 1) 0 1) (pr (hiT (zZ c) (zZ d) 0 1) 0 1) (pr (loT (zZ a) (zZ b) 0 1) 0 1)
   refine go4 ?_
   refine zN h6 hh6 ⟨?_,rfl,rfl,rfl,rfl,trivial⟩ rfl rfl
   exact congrArg some (xM hg)
  refine gF hg rfl ?_
  refine go7 ?_
  refine zN mg6_5 (MLe.refl _) ⟨?_,rfl,rfl,rfl,rfl,trivial⟩ rfl rfl
  exact congrArg some (xN hg)
 intro mg6_12 hmmg6_12
 refine tJ ?_
 refine uO (ι:=Mem) 7 (fun m_=>MLe mg6_12 m_) (fun _=>[(54,vB (((((orZ (pr (loT (zZ a) (zZ b) 0 1) 0 1) (pr (hiT (zZ a) (zZ b) 0 1) 0 1) (pr (loT (zZ c) (zZ d) 0 1) 0 1))=(0:Int))∧((orZ (pr (loT (zZ a) (zZ b) 0 1) 0 1) (pr (hiT (zZ a) (zZ b) 0 1) 0 1) (pr (hiT (zZ c) (zZ d) 0 1) 0 1))=(0:Int)))∧((orZ (pr (loT (zZ c) (zZ d) 0 1) 0 1) (pr (hiT (zZ c) (zZ d) 0 1) 0 1) (pr (loT (zZ a) (zZ b) 0 1) 0 1))=(0:Int)))∧((orZ (pr (loT (zZ c) (zZ d) 0 1) 0 1) (pr (hiT (zZ c) (zZ d) 0 1) 0 1) (pr (hiT (zZ a) (zZ b) 0 1) 0 1))=(0:Int)))),(4,vP b4 0),(5,vP b5 0),(6,vP b6 0),(7,vP b7 0)]) (fun _=>[.var b7 53 cs_66,.var b6 53 cs_64,.var b5 53 cs_58,.var b4 53 cs_56]) (fun m_=>m_) ?_ ?_
 ·
  refine yB ((((orZ (pr (loT (zZ a) (zZ b) 0 1) 0 1) (pr (hiT (zZ a) (zZ b) 0 1) 0 1) (pr (loT (zZ c) (zZ d) 0 1) 0 1))=(0:Int))∧((orZ (pr (loT (zZ a) (zZ b) 0 1) 0 1) (pr (hiT (zZ a) (zZ b) 0 1) 0 1) (pr (hiT (zZ c) (zZ d) 0 1) 0 1))=(0:Int)))∧((orZ (pr (loT (zZ c) (zZ d) 0 1) 0 1) (pr (hiT (zZ c) (zZ d) 0 1) 0 1) (pr (loT (zZ a) (zZ b) 0 1) 0 1))=(0:Int))) (fun hg=>?_) (fun hg=>?_)
  ·
   refine gT hg rfl ?_
   refine go1 ?_
   refine lX (xB zS pH rb_65) fun v49 r49=>?_
   refine go1 ?_
   refine lX (xB zS pH rb_67) fun v50 r50=>?_
   refine go1 ?_
   refine lX (xB zS pH rb_59) fun v51 r51=>?_
   refine go1 ?_
   refine cL (ev3 rfl rfl rfl) call203 (fun w hs=>fK hs r49 r50 r51 oM) fun v52 h6 hh6 r52=>?_
   obtain rfl:v52=vI (orZ (pr (loT (zZ c) (zZ d) 0 1) 0 1) (pr (hiT (zZ c) (zZ d) 0 1) 0 1) (pr (hiT (zZ a) (zZ b) 0 1) 0 1)):=r52
   have hor52:=tR (pr (loT (zZ c) (zZ d) 0 1) 0 1) (pr (hiT (zZ c) (zZ d) 0 1) 0 1) (pr (hiT (zZ a) (zZ b) 0 1) 0 1)
   refine go4 ?_
   refine zN h6 hh6 ⟨?_,rfl,rfl,rfl,rfl,trivial⟩ rfl rfl
   exact congrArg some (xM hg)
  refine gF hg rfl ?_
  refine go7 ?_
  refine zN mg6_12 (MLe.refl _) ⟨?_,rfl,rfl,rfl,rfl,trivial⟩ rfl rfl
  exact congrArg some (xN hg)
 intro mg6_19 hmmg6_19
 refine tJ ?_
 refine go2 ?_
 refine cnd (fun hc54=>?_) fun hc54=>?_
 ·
  refine go2 ?_
  refine lX (xB zS pH rb_57) fun v55 r55=>(lX (xB zS pH rb_59) fun v56 r56=>(lX (xB zS pH rb_65) fun v57 r57=>(lX (xB zS pH rb_67) fun v58 r58=>(cL (ev4 rfl rfl rfl rfl) call204 (fun w hs=>zN6 hs r55 r56 r57 r58 oM) fun v59 h6 hh6 r59=>?_))))
  obtain rfl:v59=vI (zBC (pr (loT (zZ a) (zZ b) 0 1) 0 1) (pr (hiT (zZ a) (zZ b) 0 1) 0 1) (pr (loT (zZ c) (zZ d) 0 1) 0 1) (pr (hiT (zZ c) (zZ d) 0 1) 0 1)):=r59
  refine go5 ?_
  refine zD rfl rfl ?_
  refine congrArg vI ?_;rw[←dU rfl rfl rfl rfl];unfold iO;grind
 refine go5 ?_
 refine lX (xB zS pH rb_57) fun v60 r60=>(lX (xB zS pH rb_59) fun v61 r61=>(cL (ev2 rfl rfl) call193 (fun w hs=>qR hs r60 r61 oM) fun v62 h6 hh6 r62=>?_))
 obtain rfl:v62=vB ((pr (loT (zZ a) (zZ b) 0 1) 0 1)=(pr (hiT (zZ a) (zZ b) 0 1) 0 1)):=r62
 refine uO (ι:=Mem) 5 (fun m_=>MLe h6 m_) (fun _=>[(67,vB (((pr (loT (zZ a) (zZ b) 0 1) 0 1)=(pr (hiT (zZ a) (zZ b) 0 1) 0 1))∨((pr (loT (zZ c) (zZ d) 0 1) 0 1)=(pr (hiT (zZ c) (zZ d) 0 1) 0 1)))),(4,vP b4 0),(5,vP b5 0),(6,vP b6 0),(7,vP b7 0)]) (fun _=>[.var b7 53 cs_66,.var b6 53 cs_64,.var b5 53 cs_58,.var b4 53 cs_56]) (fun m_=>m_) ?_ ?_
 ·
  refine yB ((pr (loT (zZ a) (zZ b) 0 1) 0 1)=(pr (hiT (zZ a) (zZ b) 0 1) 0 1)) (fun hg=>?_) (fun hg=>?_)
  ·
   refine gT hg rfl ?_
   refine go5 ?_
   refine zN h6 (MLe.refl _) ⟨?_,rfl,rfl,rfl,rfl,trivial⟩ rfl rfl
   exact congrArg some (uA hg)
  refine gF hg rfl ?_
  refine go1 ?_
  refine lX (xB zS pH rb_65) fun v64 r64=>?_
  refine go1 ?_
  refine lX (xB zS pH rb_67) fun v65 r65=>?_
  refine go1 ?_
  refine cL (ev2 rfl rfl) call193 (fun w hs=>qR hs r64 r65 oM) fun v66 h7 hh7 r66=>?_
  obtain rfl:v66=vB ((pr (loT (zZ c) (zZ d) 0 1) 0 1)=(pr (hiT (zZ c) (zZ d) 0 1) 0 1)):=r66
  refine go2 ?_
  refine zN h7 hh7 ⟨?_,rfl,rfl,rfl,rfl,trivial⟩ rfl rfl
  exact congrArg some (uC hg)
 intro mg8_3 hmmg8_3
 refine tJ ?_
 refine go2 ?_
 refine cnd (fun hc67=>?_) fun hc67=>?_
 ·
  refine go2 ?_
  refine lX (xB zS pH rb_57) fun v68 r68=>(lX (xB zS pH rb_59) fun v69 r69=>(lX (xB zS pH rb_65) fun v70 r70=>(lX (xB zS pH rb_67) fun v71 r71=>(cL (ev4 rfl rfl rfl rfl) call205 (fun w hs=>zH2 hs r68 r69 r70 r71 oM) fun v72 h7 hh7 r72=>?_))))
  obtain rfl:v72=vI (eL (pr (loT (zZ a) (zZ b) 0 1) 0 1) (pr (hiT (zZ a) (zZ b) 0 1) 0 1) (pr (loT (zZ c) (zZ d) 0 1) 0 1) (pr (hiT (zZ c) (zZ d) 0 1) 0 1)):=r72
  refine go5 ?_
  refine zD rfl rfl ?_
  refine congrArg vI ?_;rw[←dU rfl rfl rfl rfl];unfold iO;grind
 refine go3 ?_
 refine gD 20 (qq 0 3 (qq 4 3 (qq 9 3 (qq 13 3 ((3,.c)::(7,.c)::(8,.q)::(12,.c)::(16,.c)::(qq 17 3 [])))))) (vG [0,0,0,7,0,0,0,120,136,0,0,0,3712,0,0,0,61440,69632,66047,524287] (frz 1048575 [0,0,0,7,0,0,0,112,136,0,0,0,3584,0,0,0,57344,69632,256,131072]) (by kernel_rfl)) ?_
 refine wX rfl (xB zS pH rb_57) fun v73 r73=>(wX rfl (xB zS pH rb_59) fun v74 r74=>(wX rfl (xB zS pH rb_65) fun v75 r75=>(wX rfl (xB zS pH rb_57) fun v77 r77=>(wX rfl (xB zS pH rb_59) fun v78 r78=>(wX rfl (xB zS pH rb_67) fun v79 r79=>(wX rfl (xB zS pH rb_65) fun v82 r82=>(wX rfl (xB zS pH rb_67) fun v83 r83=>(wX rfl (xB zS pH rb_57) fun v84 r84=>(wX rfl (xB zS pH rb_65) fun v86 r86=>(wX rfl (xB zS pH rb_67) fun v87 r87=>(wX rfl (xB zS pH rb_59) fun v88 r88=>?_)))))))))))
 refine w_c rfl (sC (ev3 rfl rfl rfl) call203 (fun w hs=>fK hs r73 r74 r75 oM) fun v76 h7 hh7 r76=>?_)
 obtain rfl:v76=vI (orZ (pr (loT (zZ a) (zZ b) 0 1) 0 1) (pr (hiT (zZ a) (zZ b) 0 1) 0 1) (pr (loT (zZ c) (zZ d) 0 1) 0 1)):=r76
 have hor76:=tR (pr (loT (zZ a) (zZ b) 0 1) 0 1) (pr (hiT (zZ a) (zZ b) 0 1) 0 1) (pr (loT (zZ c) (zZ d) 0 1) 0 1)
 refine w_c rfl (sC (ev3 rfl rfl rfl) call203 (fun w hs=>fK hs r77.up r78.up r79.up oM) fun v80 h8 hh8 r80=>?_)
 obtain rfl:v80=vI (orZ (pr (loT (zZ a) (zZ b) 0 1) 0 1) (pr (hiT (zZ a) (zZ b) 0 1) 0 1) (pr (hiT (zZ c) (zZ d) 0 1) 0 1)):=r80
 have hor80:=tR (pr (loT (zZ a) (zZ b) 0 1) 0 1) (pr (hiT (zZ a) (zZ b) 0 1) 0 1) (pr (hiT (zZ c) (zZ d) 0 1) 0 1)
 refine xJ rfl (fun _ _=>bJ rfl rfl (by have:=eT hor76 hor80;omega) (by have:=eT hor76 hor80;omega)) rfl ?_
 refine w_c rfl (sC (ev3 rfl rfl rfl) call203 (fun w hs=>fK hs r82.up r83.up r84.up oM) fun v85 h9 hh9 r85=>?_)
 obtain rfl:v85=vI (orZ (pr (loT (zZ c) (zZ d) 0 1) 0 1) (pr (hiT (zZ c) (zZ d) 0 1) 0 1) (pr (loT (zZ a) (zZ b) 0 1) 0 1)):=r85
 have hor85:=tR (pr (loT (zZ c) (zZ d) 0 1) 0 1) (pr (hiT (zZ c) (zZ d) 0 1) 0 1) (pr (loT (zZ a) (zZ b) 0 1) 0 1)
 refine w_c rfl (sC (ev3 rfl rfl rfl) call203 (fun w hs=>fK hs r86.up r87.up r88.up oM) fun v89 h10 hh10 r89=>?_)
 obtain rfl:v89=vI (orZ (pr (loT (zZ c) (zZ d) 0 1) 0 1) (pr (hiT (zZ c) (zZ d) 0 1) 0 1) (pr (hiT (zZ a) (zZ b) 0 1) 0 1)):=r89
 have hor89:=tR (pr (loT (zZ c) (zZ d) 0 1) 0 1) (pr (hiT (zZ c) (zZ d) 0 1) 0 1) (pr (hiT (zZ a) (zZ b) 0 1) 0 1)
 refine xJ rfl (fun _ _=>bJ rfl rfl (by have:=eT hor85 hor89;omega) (by have:=eT hor85 hor89;omega)) rfl ?_
 refine vO ?_
 refine gU 4 97 (vB (((0:Int)<((orZ (pr (loT (zZ a) (zZ b) 0 1) 0 1) (pr (hiT (zZ a) (zZ b) 0 1) 0 1) (pr (loT (zZ c) (zZ d) 0 1) 0 1))*(orZ (pr (loT (zZ a) (zZ b) 0 1) 0 1) (pr (hiT (zZ a) (zZ b) 0 1) 0 1) (pr (hiT (zZ c) (zZ d) 0 1) 0 1))))∨((0:Int)<((orZ (pr (loT (zZ c) (zZ d) 0 1) 0 1) (pr (hiT (zZ c) (zZ d) 0 1) 0 1) (pr (loT (zZ a) (zZ b) 0 1) 0 1))*(orZ (pr (loT (zZ c) (zZ d) 0 1) 0 1) (pr (hiT (zZ c) (zZ d) 0 1) 0 1) (pr (hiT (zZ a) (zZ b) 0 1) 0 1)))))) ?_ ?_
 ·
  refine yB ((0:Int)<((orZ (pr (loT (zZ a) (zZ b) 0 1) 0 1) (pr (hiT (zZ a) (zZ b) 0 1) 0 1) (pr (loT (zZ c) (zZ d) 0 1) 0 1))*(orZ (pr (loT (zZ a) (zZ b) 0 1) 0 1) (pr (hiT (zZ a) (zZ b) 0 1) 0 1) (pr (hiT (zZ c) (zZ d) 0 1) 0 1)))) (fun hg=>?_) (fun hg=>?_)
  ·
   refine gT hg rfl ?_
   refine go4 ?_
   refine gqU ?_
   exact congrArg some (uA hg)
  refine gF hg rfl ?_
  refine go6 ?_
  refine gqU ?_
  exact congrArg some (uC hg)
 refine go3 ?_
 refine cnd (fun hc91=>?_) fun hc91=>?_
 ·
  refine go8 ?_
  refine zD rfl rfl ?_
  refine congrArg vI ?_;rw[←dU rfl rfl rfl rfl];unfold iO;grind
 refine go2 ?_
 refine lX (xB zS pH rb_57) fun v99 r99=>(lX (xB zS pH rb_65) fun v100 r100=>(cL (ev2 rfl rfl) call193 (fun w hs=>qR hs r99 r100 oM) fun v101 h11 hh11 r101=>?_))
 obtain rfl:v101=vB ((pr (loT (zZ a) (zZ b) 0 1) 0 1)=(pr (loT (zZ c) (zZ d) 0 1) 0 1)):=r101
 refine uO (ι:=Mem) 5 (fun m_=>MLe h11 m_) (fun _=>[(106,vB (((pr (loT (zZ a) (zZ b) 0 1) 0 1)=(pr (loT (zZ c) (zZ d) 0 1) 0 1))∨((pr (loT (zZ a) (zZ b) 0 1) 0 1)=(pr (hiT (zZ c) (zZ d) 0 1) 0 1)))),(5,vP b5 0),(6,vP b6 0),(7,vP b7 0)]) (fun _=>[.var b7 53 cs_66,.var b6 53 cs_64,.var b5 53 cs_58,.var b4 53 cs_56]) (fun m_=>m_) ?_ ?_
 ·
  refine yB ((pr (loT (zZ a) (zZ b) 0 1) 0 1)=(pr (loT (zZ c) (zZ d) 0 1) 0 1)) (fun hg=>?_) (fun hg=>?_)
  ·
   refine gT hg rfl ?_
   refine go5 ?_
   refine zN h11 (MLe.refl _) ⟨?_,rfl,rfl,rfl,trivial⟩ rfl rfl
   exact congrArg some (uA hg)
  refine gF hg rfl ?_
  refine go1 ?_
  refine lX (xB zS pH rb_57) fun v103 r103=>?_
  refine go1 ?_
  refine lX (xB zS pH rb_67) fun v104 r104=>?_
  refine go1 ?_
  refine cL (ev2 rfl rfl) call193 (fun w hs=>qR hs r103 r104 oM) fun v105 h12 hh12 r105=>?_
  obtain rfl:v105=vB ((pr (loT (zZ a) (zZ b) 0 1) 0 1)=(pr (hiT (zZ c) (zZ d) 0 1) 0 1)):=r105
  refine go2 ?_
  refine zN h12 hh12 ⟨?_,rfl,rfl,rfl,trivial⟩ rfl rfl
  exact congrArg some (uC hg)
 intro mg13_3 hmmg13_3
 refine tJ ?_
 refine uO (ι:=Mem) 5 (fun m_=>MLe mg13_3 m_) (fun _=>[(111,vB ((((pr (loT (zZ a) (zZ b) 0 1) 0 1)=(pr (loT (zZ c) (zZ d) 0 1) 0 1))∨((pr (loT (zZ a) (zZ b) 0 1) 0 1)=(pr (hiT (zZ c) (zZ d) 0 1) 0 1)))∨((pr (hiT (zZ a) (zZ b) 0 1) 0 1)=(pr (loT (zZ c) (zZ d) 0 1) 0 1)))),(5,vP b5 0),(7,vP b7 0)]) (fun _=>[.var b7 53 cs_66,.var b6 53 cs_64,.var b5 53 cs_58,.var b4 53 cs_56]) (fun m_=>m_) ?_ ?_
 ·
  refine yB (((pr (loT (zZ a) (zZ b) 0 1) 0 1)=(pr (loT (zZ c) (zZ d) 0 1) 0 1))∨((pr (loT (zZ a) (zZ b) 0 1) 0 1)=(pr (hiT (zZ c) (zZ d) 0 1) 0 1))) (fun hg=>?_) (fun hg=>?_)
  ·
   refine gT hg rfl ?_
   refine go5 ?_
   refine zN mg13_3 (MLe.refl _) ⟨?_,rfl,rfl,trivial⟩ rfl rfl
   exact congrArg some (uA hg)
  refine gF hg rfl ?_
  refine go1 ?_
  refine lX (xB zS pH rb_59) fun v108 r108=>?_
  refine go1 ?_
  refine lX (xB zS pH rb_65) fun v109 r109=>?_
  refine go1 ?_
  refine cL (ev2 rfl rfl) call193 (fun w hs=>qR hs r108 r109 oM) fun v110 h12 hh12 r110=>?_
  obtain rfl:v110=vB ((pr (hiT (zZ a) (zZ b) 0 1) 0 1)=(pr (loT (zZ c) (zZ d) 0 1) 0 1)):=r110
  refine go2 ?_
  refine zN h12 hh12 ⟨?_,rfl,rfl,trivial⟩ rfl rfl
  exact congrArg some (uC hg)
 intro mg13_8 hmmg13_8
 refine tJ ?_
 refine uO (ι:=Mem) 5 (fun m_=>MLe mg13_8 m_) (fun _=>[(116,vB (((((pr (loT (zZ a) (zZ b) 0 1) 0 1)=(pr (loT (zZ c) (zZ d) 0 1) 0 1))∨((pr (loT (zZ a) (zZ b) 0 1) 0 1)=(pr (hiT (zZ c) (zZ d) 0 1) 0 1)))∨((pr (hiT (zZ a) (zZ b) 0 1) 0 1)=(pr (loT (zZ c) (zZ d) 0 1) 0 1)))∨((pr (hiT (zZ a) (zZ b) 0 1) 0 1)=(pr (hiT (zZ c) (zZ d) 0 1) 0 1))))]) (fun _=>[.var b7 53 cs_66,.var b6 53 cs_64,.var b5 53 cs_58,.var b4 53 cs_56]) (fun m_=>m_) ?_ ?_
 ·
  refine yB ((((pr (loT (zZ a) (zZ b) 0 1) 0 1)=(pr (loT (zZ c) (zZ d) 0 1) 0 1))∨((pr (loT (zZ a) (zZ b) 0 1) 0 1)=(pr (hiT (zZ c) (zZ d) 0 1) 0 1)))∨((pr (hiT (zZ a) (zZ b) 0 1) 0 1)=(pr (loT (zZ c) (zZ d) 0 1) 0 1))) (fun hg=>?_) (fun hg=>?_)
  ·
   refine gT hg rfl ?_
   refine go5 ?_
   refine zN mg13_8 (MLe.refl _) ⟨?_,trivial⟩ rfl rfl
   exact congrArg some (uA hg)
  refine gF hg rfl ?_
  refine go1 ?_
  refine lX (xB zS pH rb_59) fun v113 r113=>?_
  refine go1 ?_
  refine lX (xB zS pH rb_67) fun v114 r114=>?_
  refine go1 ?_
  refine cL (ev2 rfl rfl) call193 (fun w hs=>qR hs r113 r114 oM) fun v115 h12 hh12 r115=>?_
  obtain rfl:v115=vB ((pr (hiT (zZ a) (zZ b) 0 1) 0 1)=(pr (hiT (zZ c) (zZ d) 0 1) 0 1)):=r115
  refine go2 ?_
  refine zN h12 hh12 ⟨?_,trivial⟩ rfl rfl
  exact congrArg some (uC hg)
 intro mg13_13 hmmg13_13
 refine tJ ?_
 refine go3 ?_
 refine cnd (fun hc98=>?_) fun hc98=>?_
 ·
  refine go8 ?_
  refine zD rfl rfl ?_
  refine congrArg vI ?_;rw[←dU rfl rfl rfl rfl];unfold iO;grind
 refine go9 ?_
 refine zD rfl rfl ?_
 refine congrArg vI ?_;rw[←dU rfl rfl rfl rfl];unfold iO;grind
end Go.Proofs.YtboaboflnckgoaaGreat
namespace Go.Proofs.YtboaboflnckgoaaGreat
open Bk Go Tryz
set_option linter.unusedVariables false
set_option linter.unusedSimpArgs false
set_option maxRecDepth 10000
set_option maxHeartbeats 1000000
attribute [local irreducible] GL GC GQ W OpV
theorem zH6{w0:World}{h0:Mem}(hs:MLe h0 (mem w0)){k:Nat}{vl:Value}{l:(List Tq)}(rl:(tLs k).Is h0 vl l){vp:Value}{p:Tq}(rp:(tPt k).Is h0 vp p)(hcd0:k≤5000)(hcd1:l.length≤1000):
    Calls Tryz.prog 195 #[vl,vp] w0 (Ret w0 h0 (fun _ r=>r=vI (zBK l (pr p 0 1) 0 1))):=by
 refine cb2 66 vl vp func195 hs ?_
 refine go2 ?_
 refine nB rp fun b3 cs3 rb3=>?_
 refine j5 ?_
 refine vC (ι:=Nat×Mem) (fun(m,ma)=>MLe h0 ma∧(m≤l.length∧∀q,q<m→¬onS (gM l 0 1 q) (gL l 0 1 q) (pr p 0 1))) (fun(m,ma)=>[(0,vl),(3,vP b3 0),(5,vB (lV l (pr p 0 1) 0 1 m)),(6,vI ↑m)]) (fun(m,ma)=>[.var b3 53 cs3]) (fun(m,ma)=>ma) (fun(m,ma)=>l.length-m) (0,h0) ?_ ⟨?_,?_,?_,?_,trivial⟩ rfl rfl ?_
 ·
  refine⟨MLe.refl _,?_⟩
  exact⟨by omega,fun q hq=>by omega⟩
 · exact rfl
 · exact rfl
 · exact congrArg some (yU id).symm
 · exact rfl
 intro x hx
 obtain⟨m,ma⟩:=x
 obtain⟨hmma,hinv⟩:=hx
 refine yS ?_
 obtain⟨hm1,hno⟩:=hinv
 replace rl:=rl.mono hmma
 refine go9 ?_
 refine cnd (fun hc12=>?_) fun hc12=>?_
 ·
  refine go5 ?_
  refine kE 16 _ [(12,(7,53,[.bool false,.slice none 0 0,.slice none 0 0,.bool false,.slice none 0 0,.slice none 0 0,.bool false,.slice none 0 0,.slice none 0 0])),(13,(8,53,[.bool false,.slice none 0 0,.slice none 0 0,.bool false,.slice none 0 0,.slice none 0 0,.bool false,.slice none 0 0,.slice none 0 0]))] [(0,.q),(1,.q),(2,.q),(3,.q),(4,.q),(5,.q),(6,.q),(7,.q),(8,.q),(9,.q),(10,.q),(11,.q),(12,.a),(13,.a),(14,.c),(15,.c)] jN (jK.cons rfl rfl (uZ yV rfl rfl) (jK.cons rfl rfl (uZ yV rfl rfl) jK.nil)) (vG [0,0,3,4,0,0,32,0,128,320,528,1024,0,0,12303,32767] [65535,65535,65532,65531,65535,65535,65503,65535,65407,65215,65007,64511,65535,65535,61431,55295] (by kernel_rfl)) (qB rfl rfl (qB rfl rfl kM)) (fun r hr=>hr) ?_
  refine go2 ?_
  refine wX rfl (xI zT m underlying46 zS rl) fun v17 r17=>(wX rfl (xA zS r17) fun v18 r18=>?_)
  refine go4 ?_
  refine w_q rfl (fun h' L' hh hR=>uY underlying46 rfl (rl.mono hh)) rfl (xJ rfl (fun _ _=>vX rfl rfl oM oM) rfl (wX rfl (xI zT ((m+1)%l.length) underlying46 zS rl (hi:=by exact Nat.mod_lt _ oM)) fun v25 r25=>(wX rfl (xA zS r25) fun v26 r26=>?_)))
  refine w_a rfl rfl (fun b7=>?_)
  have rb7:(tPt (k+1)).R ma [.bool false,.slice none 0 0,.slice none 0 0,.bool false,.slice none 0 0,.slice none 0 0,.bool false,.slice none 0 0,.slice none 0 0] zT:=(xW (yF oM))
  refine w_a rfl rfl (fun b8=>?_)
  have rb8:(tPt (k+1)).R ma [.bool false,.slice none 0 0,.slice none 0 0,.bool false,.slice none 0 0,.slice none 0 0,.bool false,.slice none 0 0,.slice none 0 0] zT:=(xW (yF oM))
  refine w_c rfl (bE (A:=[_]) (uB sizeOf53 pH rb7 (r18.le (Le.t (Le.q (l:=k+1) oM)))) (wM (by first|(simp;done)|grind)) fun cs_1 rb_2=>?_)
  refine w_c rfl (bE (A:=[]) (uB sizeOf53 pH rb8 (r26.le (Le.t (Le.q (l:=k+1) oM)))) (wM (by first|(simp;done)|grind)) fun cs_3 rb_4=>?_)
  refine go4 ?_
  refine gD 7 [(0,.q),(2,.q),(4,.q),(1,.c),(3,.c),(5,.c),(6,.c)] (by kernel_rfl) ?_
  refine wX rfl (xB zS pH rb_2) fun v27 r27=>(wX rfl (xB zS pH rb_4) fun v29 r29=>(wX rfl (xB zS pH rb3) fun v31 r31=>?_))
  refine w_c rfl (sC (ev1 rfl) call201 (fun w hs=>rW hs r27) fun v28 h1 hh1 r28=>?_)
  replace r28:=Rp.Is.le r28 (Le.t (Le.q (l:=k+2) oM))
  refine w_c rfl (sC (ev1 rfl) call201 (fun w hs=>rW hs r29.up) fun v30 h2 hh2 r30=>?_)
  replace r30:=Rp.Is.le r30 (Le.t (Le.q (l:=k+2) oM))
  refine w_c rfl (sC (ev1 rfl) call201 (fun w hs=>rW hs r31.up) fun v32 h3 hh3 r32=>?_)
  refine w_c rfl (sC (ev3 rfl rfl rfl) call206 (fun w hs=>nW hs r28.up r30.up (r32.le (Le.t (Le.q (l:=k+2) oM))) oM) fun v33 h4 hh4 r33=>?_)
  obtain rfl:v33=vB (onS (pr (T3.mk ((l.getD m zT).x) ((l.getD m zT).y) (0:Rat)) 0 1) (pr (T3.mk ((l.getD ((m+1)%l.length) zT).x) ((l.getD ((m+1)%l.length) zT).y) (0:Rat)) 0 1) (pr (zZ p) 0 1)):=r33
  refine go2 ?_
  refine cnd (fun hc33=>?_) fun hc33=>?_
  ·
   refine uN ?_
   refine zD rfl rfl ?_
   exact congrArg vI (zY4 oM hc33)
  refine go2 ?_
  refine qK (ι:=List Value×List Value×Mem) (fun(cs_5,cs_7,mc)=>MLe h4 mc∧((tPt (k+1)).R mc cs_5 (s2 (l.getD m zT) (l.getD ((m+1)%l.length) zT))∧(tPt (k+1)).R mc cs_7 (zBF (l.getD m zT) (l.getD ((m+1)%l.length) zT))∧True)) (fun(cs_5,cs_7,mc)=>[(0,vl),(3,vP b3 0),(5,vB (lV l (pr p 0 1) 0 1 m)),(6,vI ↑m),(7,vP b7 0),(8,vP b8 0)]) (fun(cs_5,cs_7,mc)=>[.var b8 53 cs_7,.var b7 53 cs_5,.var b3 53 cs3]) (fun(cs_5,cs_7,mc)=>mc) ?_ ?_
  ·
   refine go3 ?_
   replace rb_2:=rb_2.mono (((hh1.trans hh2).trans hh3).trans hh4)
   refine lX (xB yA (Pc.ty pH) rb_2) fun v35 r35=>?_
   refine go1 ?_
   replace rb_4:=rb_4.mono (((hh1.trans hh2).trans hh3).trans hh4)
   refine lX (xB yA (Pc.ty pH) rb_4) fun v37 r37=>(cL (ev2 rfl rfl) call18 (fun w hs=>kA hs r35 r37 oM) fun v38 h5 hh5 r38=>?_)
   obtain rfl:v38=vI (wG ((l.getD m zT).y) ((l.getD ((m+1)%l.length) zT).y)):=r38
   have hcr38:=jB ((l.getD m zT).y) ((l.getD ((m+1)%l.length) zT).y)
   refine go3 ?_
   refine cnd (fun hc39=>?_) fun hc39=>?_
   ·
    refine go1 ?_
    replace rb_4:=rb_4.mono hh5
    refine lX (xB zS pH rb_4) fun v40 r40=>?_
    replace rb_2:=rb_2.mono hh5
    refine lX (xB zS pH rb_2) fun v41 r41=>(zR (A:=[_]) (uB sizeOf53 pH rb_2 r40) fun cs_9 rb_10=>(zR (A:=[]) (uB sizeOf53 pH rb_4 r41) fun cs_11 rb_12=>?_))
    refine go1 ?_
    refine zN (cs_9,cs_11,h5) ?_ e6z rfl rfl
    refine⟨hh5,?_⟩
    refine⟨(Rp.castR rb_10 (if_pos hc39).symm),(Rp.castR rb_12 (if_pos hc39).symm),?_⟩
    trivial
   refine go1 ?_
   refine zN (cs_1,cs_3,h5) ?_ e6z rfl rfl
   refine⟨hh5,?_⟩
   replace rb_2:=rb_2.mono hh5
   replace rb_4:=rb_4.mono hh5
   refine⟨(Rp.castR rb_2 (if_neg hc39).symm),(Rp.castR rb_4 (if_neg hc39).symm),?_⟩
   trivial
  intro x hx
  obtain⟨cs_5,cs_7,mc⟩:=x
  obtain⟨hmmc,hcut⟩:=hx
  refine yS ?_
  obtain⟨rb_6,rb_8,hcut⟩:=hcut
  refine go3 ?_
  refine lX (xB yA (Pc.ty pH) rb_6) fun v43 r43=>?_
  refine go1 ?_
  refine lX (xB yA (Pc.ty pH) rb3) fun v45 r45=>(cL (ev2 rfl rfl) call18 (fun w hs=>kA hs r43 r45 oM) fun v46 h5 hh5 r46=>?_)
  obtain rfl:v46=vI (wG ((s2 (l.getD m zT) (l.getD ((m+1)%l.length) zT)).y) p.y):=r46
  have hcr46:=jB ((s2 (l.getD m zT) (l.getD ((m+1)%l.length) zT)).y) p.y
  refine go1 ?_
  refine uO (ι:=Mem) 8 (fun m_=>MLe h5 m_) (fun _=>[(55,vB (((wG ((s2 (l.getD m zT) (l.getD ((m+1)%l.length) zT)).y) p.y)≤(0:Int))∧((wG p.y ((zBF (l.getD m zT) (l.getD ((m+1)%l.length) zT)).y))<(0:Int)))),(0,vl),(3,vP b3 0),(5,vB (lV l (pr p 0 1) 0 1 m)),(6,vI ↑m),(7,vP b7 0),(8,vP b8 0)]) (fun _=>[.var b8 53 cs_7,.var b7 53 cs_5,.var b3 53 cs3]) (fun m_=>m_) ?_ ?_
  ·
   refine yB ((wG ((s2 (l.getD m zT) (l.getD ((m+1)%l.length) zT)).y) p.y)≤(0:Int)) (fun hg=>?_) (fun hg=>?_)
   ·
    refine gT hg rfl ?_
    refine go3 ?_
    refine lX (xB yA (Pc.ty pH) rb3) fun v50 r50=>?_
    refine go3 ?_
    refine lX (xB yA (Pc.ty pH) rb_8) fun v52 r52=>?_
    refine go1 ?_
    refine cL (ev2 rfl rfl) call18 (fun w hs=>kA hs r50 r52 oM) fun v53 h6 hh6 r53=>?_
    obtain rfl:v53=vI (wG p.y ((zBF (l.getD m zT) (l.getD ((m+1)%l.length) zT)).y)):=r53
    have hcr53:=jB p.y ((zBF (l.getD m zT) (l.getD ((m+1)%l.length) zT)).y)
    refine go4 ?_
    refine zN h6 hh6 ⟨?_,rfl,rfl,rfl,rfl,rfl,rfl,trivial⟩ rfl rfl
    exact congrArg some (xM hg)
   refine gF hg rfl ?_
   refine go8 ?_
   refine zN h5 (MLe.refl _) ⟨?_,rfl,rfl,rfl,rfl,rfl,rfl,trivial⟩ rfl rfl
   exact congrArg some (xN hg)
  intro mg10_6 hmmg10_6
  refine tJ ?_
  refine uO (ι:=Mem) 7 (fun m_=>MLe mg10_6 m_) (fun _=>[(62,vB ((((wG ((s2 (l.getD m zT) (l.getD ((m+1)%l.length) zT)).y) p.y)≤(0:Int))∧((wG p.y ((zBF (l.getD m zT) (l.getD ((m+1)%l.length) zT)).y))<(0:Int)))∧((0:Int)<(orZ (pr (s2 (l.getD m zT) (l.getD ((m+1)%l.length) zT)) 0 1) (pr (zBF (l.getD m zT) (l.getD ((m+1)%l.length) zT)) 0 1) (pr p 0 1))))),(0,vl),(3,vP b3 0),(5,vB (lV l (pr p 0 1) 0 1 m)),(6,vI ↑m)]) (fun _=>[.var b8 53 cs_7,.var b7 53 cs_5,.var b3 53 cs3]) (fun m_=>m_) ?_ ?_
  ·
   refine yB (((wG ((s2 (l.getD m zT) (l.getD ((m+1)%l.length) zT)).y) p.y)≤(0:Int))∧((wG p.y ((zBF (l.getD m zT) (l.getD ((m+1)%l.length) zT)).y))<(0:Int))) (fun hg=>?_) (fun hg=>?_)
   ·
    refine gT hg rfl ?_
    refine go1 ?_
    refine lX (xB zS pH rb_6) fun v57 r57=>?_
    refine go1 ?_
    refine lX (xB zS pH rb_8) fun v58 r58=>?_
    refine go1 ?_
    refine lX (xB zS pH rb3) fun v59 r59=>?_
    refine go1 ?_
    refine cL (ev3 rfl rfl rfl) call203 (fun w hs=>fK hs r57 r58 (r59.le (Le.t (Le.q (l:=k+1) oM))) oM) fun v60 h6 hh6 r60=>?_
    obtain rfl:v60=vI (orZ (pr (s2 (l.getD m zT) (l.getD ((m+1)%l.length) zT)) 0 1) (pr (zBF (l.getD m zT) (l.getD ((m+1)%l.length) zT)) 0 1) (pr p 0 1)):=r60
    have hor60:=tR (pr (s2 (l.getD m zT) (l.getD ((m+1)%l.length) zT)) 0 1) (pr (zBF (l.getD m zT) (l.getD ((m+1)%l.length) zT)) 0 1) (pr p 0 1)
    refine go4 ?_
    refine zN h6 hh6 ⟨?_,rfl,rfl,rfl,rfl,trivial⟩ rfl rfl
    exact congrArg some (xM hg)
   refine gF hg rfl ?_
   refine go7 ?_
   refine zN mg10_6 (MLe.refl _) ⟨?_,rfl,rfl,rfl,rfl,trivial⟩ rfl rfl
   exact congrArg some (xN hg)
  intro mg10_14 hmmg10_14
  refine tJ ?_
  refine go2 ?_
  refine cnd (fun hc62=>?_) fun hc62=>?_
  ·
   refine uN ?_
   refine vV (A:=[]) (vV (A:=[]) ?_)
   refine yQ ((m+1),mg10_14) ?_ ?_ ⟨rfl,rfl,?_,rfl,trivial⟩ rfl rfl
   ·
    refine⟨((((((((hmma.trans hh1).trans hh2).trans hh3).trans hh4).trans hmmc).trans hh5).trans hmmg10_6).trans hmmg10_14),?_⟩
    exact⟨by omega,zME hno hc33⟩
   ·
    dsimp only
    omega
   · exact congrArg (fun z=>some (vB z)) (zYH ((zDL _ _ _).1 hc62))
  refine go8 ?_
  refine vV (A:=[]) (vV (A:=[]) ?_)
  refine yQ ((m+1),mg10_14) ?_ ?_ ⟨rfl,rfl,?_,rfl,trivial⟩ rfl rfl
  ·
   refine⟨((((((((hmma.trans hh1).trans hh2).trans hh3).trans hh4).trans hmmc).trans hh5).trans hmmg10_6).trans hmmg10_14),?_⟩
   exact⟨by omega,zME hno hc33⟩
  ·
   dsimp only
   omega
  · exact congrArg (fun z=>some (vB z)) (zUT fun e=>hc62 ((zDL _ _ _).2 e))
 refine uP ?_
 refine cnd (fun hc65=>?_) fun hc65=>?_
 ·
  refine go7 ?_
  refine zD rfl rfl ?_
  exact congrArg vI (zY5 oM hm1 hno hc65)
 refine go8 ?_
 refine zD rfl rfl ?_
 exact congrArg vI (zVG oM hm1 hno hc65)
end Go.Proofs.YtboaboflnckgoaaGreat
namespace Bk
set_option linter.unusedVariables false
open Classical
def zNH(R:Nat→Nat→Prop)(q b:Nat):Prop:=∀p,p<b→R p q
def zG8(R:Nat→Nat→Prop)(a:Nat):Prop:=∀q,q<a→zNH R q q
theorem zPL{R:Nat→Nat→Prop}:zG8 R 0:=fun q h=>by omega
theorem zTL{R:Nat→Nat→Prop}{q:Nat}:zNH R q 0:=fun p h=>by omega
theorem zTM{R:Nat→Nat→Prop}{q b:Nat}(h:zNH R q b)(h1:R b q):zNH R q (b+1):=fun p h3=>by
  rcases Nat.lt_succ_iff_lt_or_eq.1 h3 with h4|h4
  · exact h p h4
  · subst h4;exact h1
theorem zPM{R:Nat→Nat→Prop}{a b:Nat}(h:zG8 R a)(h1:zNH R a b)(hb:a≤b):zG8 R (a+1):=fun q h2=>by
  rcases Nat.lt_succ_iff_lt_or_eq.1 h2 with h5|h5
  · exact h q h5
  · subst h5;exact fun p hp=>h1 p (by omega)
def zS0(l:List Pt)(k i:Nat):Prop:=yBM l 0 1 k i∧okT l 0 1 k i
theorem zT3{l:List Pt}(h3:3≤l.length)(h:zG8 (zS0 l) l.length):aQ l 0 1:=
  ⟨h3,fun p q h1 h2 h4=>(h q h4 p h2).1,fun p q h1 h2 h4=>(h q h4 p h2).2⟩
theorem zQ7{l:List Pt}{k i:Nat}:nN (gM l 0 1 i) (gL l 0 1 i) (gM l 0 1 k) (gL l 0 1 k)=zEE l.length k i↔okT l 0 1 k i:=by
  unfold okT
  rw[←zG7,zB6]
end Bk
namespace Go.Proofs.YtboaboflnckgoaaGreat
open Bk Go Tryz
set_option linter.unusedVariables false
set_option linter.unusedSimpArgs false
set_option maxRecDepth 10000
set_option maxHeartbeats 1000000
attribute [local irreducible] GL GC GQ W OpV
theorem zH3{w0:World}{h0:Mem}(hs:MLe h0 (mem w0)){k:Nat}{vl:Value}{l:(List Tq)}(rl:(tLs k).Is h0 vl l)(hcd0:k≤5000)(hcd1:l.length≤1000):
    Calls Tryz.prog 168 #[vl] w0 (Ret w0 h0 (fun _ r=>r=vB (aQ l 0 1))):=by
 refine cb1 69 vl func168 hs ?_
 refine yBI ?_
 refine cnd (fun hc10=>?_) fun hc10=>?_
 ·
  refine go7 ?_
  refine zD rfl rfl ?_
  exact(yU (fun e=>by have:=e.1;omega)).symm
 refine go9 ?_
 refine gcL (ι:=Nat×Mem) (fun(i,mi)=>(MLe h0 mi∧(i≤l.length∧zG8 (zS0 l) i),[(0,vl),(3,vI (↑(l).length:Int)),(4,vI ↑i)],[],mi,l.length-i)) (0,h0) ?_ ?_
 ·
  refine⟨MLe.refl _,?_⟩
  exact⟨by omega,zPL⟩
 intro x hx
 obtain⟨i,mi⟩:=x
 dsimp only at hx
 obtain⟨hmmi,hinv⟩:=hx
 refine yS ?_
 obtain⟨hi1,hi2⟩:=hinv
 refine go8 ?_
 refine cnd (fun hc13=>?_) fun hc13=>?_
 ·
  refine vO ?_
  refine gcL (ι:=Nat×Mem) (fun(q,mq)=>(MLe mi mq∧(q≤i∧zNH (zS0 l) i q),[(0,vl),(3,vI (↑(l).length:Int)),(4,vI ↑i),(5,vI ↑q)],[],mq,i-q)) (0,mi) ?_ ?_
  ·
   refine⟨MLe.refl _,?_⟩
   exact⟨by omega,zTL⟩
  intro x hx
  obtain⟨q,mq⟩:=x
  dsimp only at hx
  obtain⟨hmmq,hinv⟩:=hx
  refine yS ?_
  obtain⟨hq1,hq2⟩:=hinv
  refine go8 ?_
  refine cnd (fun hc18=>?_) fun hc18=>?_
  ·
   refine go6 ?_
   refine gD 9 (qq 0 8 [(8,.c)]) (by kernel_rfl) ?_
   refine go2 ?_
   refine wX rfl (xI zT i underlying46 zS rl) fun v23 r23=>(wX rfl (xA zS r23) fun v24 r24=>?_)
   refine go2 ?_
   refine wX rfl (xI zT q underlying46 zS rl) fun v27 r27=>(wX rfl (xA zS r27) fun v28 r28=>?_)
   refine w_c rfl (sC (ev2 rfl rfl) call193 (fun w hs=>qR hs r24 r28 oM) fun v29 h1 hh1 r29=>?_)
   obtain rfl:v29=vB ((pr (l.getD i zT) 0 1)=(pr (l.getD q zT) 0 1)):=r29
   refine go2 ?_
   refine cnd (fun hc29=>?_) fun hc29=>?_
   ·
    refine zAR ?_
    refine zD rfl rfl ?_
    exact(yU (fun e=>e.2.1 q i oM oM oM hc29.symm)).symm
   refine go7 ?_
   refine qK (ι:=Mem) (fun(mw:(Mem))=>MLe h1 mw∧(True)) (fun(mw:(Mem))=>[(0,vl),(3,vI (↑(l).length:Int)),(4,vI ↑i),(5,vI ↑q),(6,vI (zEE l.length q i))]) (fun(mw:(Mem))=>[]) (fun(mw:(Mem))=>mw) ?_ ?_
   ·
    refine go6 ?_
    refine gU 10 43 (vB (((↑i:Int)=((↑q:Int)+(1:Int)))∨(((↑q:Int)=(0:Int))∧((↑i:Int)=((↑(l).length:Int)-(1:Int)))))) ?_ ?_
    ·
     refine yB ((↑i:Int)=((↑q:Int)+(1:Int))) (fun hg=>?_) (fun hg=>?_)
     ·
      refine gT hg rfl ?_
      refine vO ?_
      refine gqU ?_
      exact congrArg some (uA hg)
     refine gF hg rfl ?_
     refine go4 ?_
     refine gU 6 42 (vB (((↑q:Int)=(0:Int))∧((↑i:Int)=((↑(l).length:Int)-(1:Int))))) ?_ ?_
     ·
      refine yB ((↑q:Int)=(0:Int)) (fun hg=>?_) (fun hg=>?_)
      ·
       refine go1 ?_
       refine gT hg rfl ?_
       refine uP ?_
       refine gqU ?_
       exact congrArg some (xM hg)
      refine go1 ?_
      refine gF hg rfl ?_
      refine go7 ?_
      refine gqU ?_
      exact congrArg some (xN hg)
     refine go2 ?_
     refine gqU ?_
     exact congrArg some (uC hg)
    refine go2 ?_
    refine cnd (fun hc43=>?_) fun hc43=>?_
    ·
     refine go3 ?_
     refine zN (h1) ?_ ⟨rfl,rfl,rfl,rfl,?_,trivial⟩ rfl rfl
     ·
      refine⟨MLe.refl _,?_⟩
      trivial
     · exact congrArg (fun z=>some (vI z)) (zW5 oM)
    refine go1 ?_
    refine zN (h1) ?_ ⟨rfl,rfl,rfl,rfl,?_,trivial⟩ rfl rfl
    ·
     refine⟨MLe.refl _,?_⟩
     trivial
    · exact congrArg (fun z=>some (vI z)) (zW6 oM)
   intro mw hx
   obtain⟨hmmw,hcut⟩:=hx
   refine yS ?_
   refine go1 ?_
   refine gD 25 (qq 0 22 [(23,.q),(22,.c),(24,.q)]) (vG [0,0,3,4,0,0,32,0,192,272,512,0,0,6144,8192,0,0,65536,0,393216,557056,1048576,2114568,0,12582912] (frz 33554431 [0,0,3,4,0,0,32,0,192,272,512,0,0,6144,8192,0,0,65536,0,393216,557056,1048576,2114568,0,12582912]) (by kernel_rfl)) ?_
   refine go2 ?_
   refine wX rfl (xI zT i underlying46 zS rl) fun v46 r46=>(wX rfl (xA zS r46) fun v47 r47=>?_)
   refine go4 ?_
   refine xJ rfl (fun _ _=>vX rfl rfl oM oM) rfl (wX rfl (xI zT ((i+1)%l.length) underlying46 zS rl (hi:=by exact Nat.mod_lt _ oM)) fun v53 r53=>(wX rfl (xA zS r53) fun v54 r54=>?_))
   refine go2 ?_
   refine wX rfl (xI zT q underlying46 zS rl) fun v57 r57=>(wX rfl (xA zS r57) fun v58 r58=>?_)
   refine go4 ?_
   refine xJ rfl (fun _ _=>vX rfl rfl oM oM) rfl (wX rfl (xI zT ((q+1)%l.length) underlying46 zS rl (hi:=by exact Nat.mod_lt _ oM)) fun v64 r64=>(wX rfl (xA zS r64) fun v65 r65=>?_))
   refine go1 ?_
   refine w_c rfl (sC (ev4 rfl rfl rfl rfl) call194 (fun w hs=>zCS hs r47 r54 r58 r65 oM) fun v66 h2 hh2 r66=>?_)
   obtain rfl:v66=vI (nN (pr (l.getD i zT) 0 1) (pr (l.getD ((i+1)%l.length) zT) 0 1) (pr (l.getD q zT) 0 1) (pr (l.getD ((q+1)%l.length) zT) 0 1)):=r66
   refine go3 ?_
   refine cnd (fun hc68=>?_) fun hc68=>?_
   ·
    refine j5 ?_
    refine zD rfl rfl ?_
    exact(yU (fun e=>hc68 (zQ7.2 (e.2.2 q i oM oM oM)))).symm
   refine go8 ?_
   refine gqL ((q+1),h2) ?_ ?_
   ·
    refine⟨(((hmmq.trans hh1).trans hmmw).trans hh2),?_⟩
    exact⟨by omega,zTM hq2 ⟨fun e=>hc29 e.symm,zQ7.1 (Classical.not_not.1 hc68)⟩⟩
   omega
  refine uP ?_
  refine gqL ((i+1),mq) ?_ ?_
  ·
   refine⟨(hmmi.trans hmmq),?_⟩
   exact⟨by omega,zPM hi2 hq2 oM⟩
  omega
 have ei:i=l.length:=by omega
 have hT:=hi2
 rw[ei] at hT
 refine uP ?_
 refine zD rfl rfl ?_
 exact(xL (zT3 oM hT)).symm
end Go.Proofs.YtboaboflnckgoaaGreat
namespace Go.Proofs.YtboaboflnckgoaaGreat
open Bk Go Tryz
set_option linter.unusedVariables false
set_option linter.unusedSimpArgs false
set_option maxRecDepth 10000
set_option maxHeartbeats 1000000
attribute [local irreducible] GL GC GQ W OpV
theorem zGD{w0:World}{h0:Mem}(hs:MLe h0 (mem w0)){k:Nat}{va:Value}{a:(List Tq)}(ra:(tLs k).Is h0 va a){vb:Value}{b:(List Tq)}(rb:(tLs k).Is h0 vb b)(hcd0:k≤5000)(hcd1:a.length≤1000)(hcd2:b.length≤1000):
    Calls Tryz.prog 169 #[va,vb] w0 (Ret w0 h0 (fun _ r=>r=vB (fH a b 0 1))):=by
 refine cb2 45 va vb func169 hs ?_
 refine uN ?_
 refine gcL (ι:=Nat×Mem) (fun(p,mp)=>(MLe h0 mp∧(p≤a.length∧∀u v,u<p→v<b.length→¬g9 a b 0 1 u v),[(0,va),(1,vb),(5,vI ↑p)],[],mp,a.length-p)) (0,h0) ?_ ?_
 ·
  refine⟨MLe.refl _,?_⟩
  exact⟨by omega,fun u v h=>by omega⟩
 intro x hx
 obtain⟨p,mp⟩:=x
 dsimp only at hx
 obtain⟨hmmp,hinv⟩:=hx
 refine yS ?_
 obtain⟨hp1,hp2⟩:=hinv
 replace ra:=ra.mono hmmp
 refine go9 ?_
 refine cnd (fun hc10=>?_) fun hc10=>?_
 ·
  refine vO ?_
  refine gcL (ι:=Nat×Mem) (fun(q,mq)=>(MLe mp mq∧(q≤b.length∧∀v,v<q→¬g9 a b 0 1 p v),[(0,va),(1,vb),(5,vI ↑p),(6,vI ↑q)],[],mq,b.length-q)) (0,mp) ?_ ?_
  ·
   refine⟨MLe.refl _,?_⟩
   exact⟨by omega,fun v h=>by omega⟩
  intro x hx
  obtain⟨q,mq⟩:=x
  dsimp only at hx
  obtain⟨hmmq,hinv⟩:=hx
  refine yS ?_
  obtain⟨hq1,hq2⟩:=hinv
  replace rb:=rb.mono (hmmp.trans hmmq)
  refine go9 ?_
  refine cnd (fun hc16=>?_) fun hc16=>?_
  ·
   refine go5 ?_
   refine gD 26 (qq 0 24 [(24,.c),(25,.q)]) (vG [0,0,3,4,0,0,32,0,128,320,528,1024,0,0,12288,16384,0,0,131072,0,524288,1310720,2162688,4194304,8423432,16777216] (frz 67108863 [0,0,3,4,0,0,32,0,128,320,528,1024,0,0,12288,16384,0,0,131072,0,524288,1310720,2162688,4194304,8423432,16777216]) (by kernel_rfl)) ?_
   refine go2 ?_
   replace ra:=ra.mono hmmq
   refine wX rfl (xI zT p underlying46 zS ra) fun v21 r21=>(wX rfl (xA zS r21) fun v22 r22=>?_)
   refine go4 ?_
   refine w_q rfl (fun h' L' hh hR=>uY underlying46 rfl (ra.mono hh)) rfl (xJ rfl (fun _ _=>vX rfl rfl oM oM) rfl (wX rfl (xI zT ((p+1)%a.length) underlying46 zS ra (hi:=by exact Nat.mod_lt _ oM)) fun v29 r29=>(wX rfl (xA zS r29) fun v30 r30=>?_)))
   refine go2 ?_
   refine wX rfl (xI zT q underlying46 zS rb) fun v33 r33=>(wX rfl (xA zS r33) fun v34 r34=>?_)
   refine go4 ?_
   refine w_q rfl (fun h' L' hh hR=>uY underlying46 rfl (rb.mono hh)) rfl (xJ rfl (fun _ _=>vX rfl rfl oM oM) rfl (wX rfl (xI zT ((q+1)%b.length) underlying46 zS rb (hi:=by exact Nat.mod_lt _ oM)) fun v41 r41=>(wX rfl (xA zS r41) fun v42 r42=>?_)))
   refine w_c rfl (sC (ev4 rfl rfl rfl rfl) call194 (fun w hs=>zCS hs r22 r30 r34 r42 oM) fun v43 h1 hh1 r43=>?_)
   obtain rfl:v43=vI (nN (pr (a.getD p zT) 0 1) (pr (a.getD ((p+1)%a.length) zT) 0 1) (pr (b.getD q zT) 0 1) (pr (b.getD ((q+1)%b.length) zT) 0 1)):=r43
   refine go3 ?_
   refine cnd (fun hc44=>?_) fun hc44=>?_
   ·
    refine j5 ?_
    refine zD rfl rfl ?_
    exact(xL ⟨p,q,by omega,by omega,(zSM.1 hc44)⟩).symm
   refine go8 ?_
   refine gqL ((q+1),h1) ?_ ?_
   ·
    refine⟨(hmmq.trans hh1),?_⟩
    exact⟨by omega,zQD (n:=0) (Q:=g9 a b 0 1) hq2 (fun e=>hc44 (zSM.2 e))⟩
   omega
  refine uP ?_
  refine gqL ((p+1),mq) ?_ ?_
  ·
   refine⟨(hmmp.trans hmmq),?_⟩
   exact⟨by omega,zNZ hp2 hq2 oM⟩
  omega
 refine uP ?_
 refine zD rfl rfl ?_
 exact(yU (fun⟨u,v,h1,h2,h3⟩=>hp2 u v oM h2 h3)).symm
theorem zH5{w0:World}{h0:Mem}(hs:MLe h0 (mem w0)){k:Nat}{vp:Value}{p:Tq}(rp:(tPt k).Is h0 vp p){vq:Value}{q:Tq}(rq:(tPt k).Is h0 vq q)(hcd0:k≤100000):
    Calls Tryz.prog 196 #[vp,vq] w0 (Ret w0 h0 (fun h r=>(tPt (2*k+2)).Is h r (T3.mk (dA p.x q.x) (dA p.y q.y) (0:Rat)))):=by
 refine cb2 16 vp vq func196 hs ?_
 refine go2 ?_
 refine nB rp fun b2 cs2 rb2=>(nB rq fun b3 cs3 rb3=>(nA (ρ:=(tPt (2*k+2))) (X:=zT) yV (xW (yF oM)) fun b4 cs4 rb4=>?_))
 refine go3 ?_
 refine gD 11 (qq 0 4 (qq 5 4 [(4,.c),(9,.c),(10,.q),(11,.t)])) (vG [0,1,0,4,10,0,32,0,128,336,528,2047] (frz 4095 [0,1,0,4,10,0,32,0,128,320,528,1024]) (by kernel_rfl)) ?_
 refine go1 ?_
 refine wX rfl (xB yA (Pc.tx pH) rb2) fun v6 r6=>?_
 refine go1 ?_
 refine wX rfl (xB yA (Pc.tx pH) rb3) fun v8 r8=>?_
 refine go1 ?_
 refine wX rfl (xB yA (Pc.ty pH) rb2) fun v11 r11=>?_
 refine go1 ?_
 refine wX rfl (xB yA (Pc.ty pH) rb3) fun v13 r13=>?_
 refine w_c rfl (sC (ev2 rfl rfl) call38 (fun w hs=>iX hs r6 r8 oM) fun v9 h1 hh1 r9=>?_)
 replace r9:=Rp.Is.le r9 (Le.q (l:=2*k+2) oM)
 refine w_c rfl (sC (ev2 rfl rfl) call38 (fun w hs=>iX hs r11.up r13.up oM) fun v14 h2 hh2 r14=>?_)
 replace r14:=Rp.Is.le r14 (Le.q (l:=2*k+2) oM)
 replace r9:=r9.mono hh2
 refine wX rfl (xV (ρ:=(tPt (2*k+2))) (xC (ps':=[(0,_),(1,_)]) underlying53 yV rfl rfl sizeOf26 e4z rfl (xW (yF oM)) (zI rfl (Pc.tx (Pc.here _)) r9 (zI rfl (Pc.ty (Pc.here _)) r14 zX)))) fun v15 r15=>(yI (A:=[]) rfl (uB sizeOf53 pH rb4 r15) fun cs_1 rb_2=>?_)
 refine go3 ?_
 refine wL (jZ (t:=4) zS mh0 rfl rb_2) ?_
 intro w_3 hvw_3 rr_4
 refine yE (fun E S=>zP rfl hvw_3 E S) ?_
 exact rr_4
theorem zA9{w0:World}{h0:Mem}(hs:MLe h0 (mem w0)){k:Nat}{va:Value}{a:(List Tq)}(ra:(tLs k).Is h0 va a){vb:Value}{b:(List Tq)}(rb:(tLs k).Is h0 vb b)(hcd0:k≤2000)(hcd1:a.length≤1000)(hcd2:b.length≤1000):
    Calls Tryz.prog 172 #[va,vb] w0 (Ret w0 h0 (fun _ r=>r=vI (wiZ a b 0 1))):=by
 refine cb2 32 va vb func172 hs ?_
 refine dG ?_
 refine vC (ι:=Nat×Mem) (fun(m,ma)=>MLe h0 ma∧(m≤b.length)) (fun(m,ma)=>[(0,va),(1,vb),(5,vI (pY a b 0 1 m)),(6,vI ↑m)]) (fun(m,ma)=>[]) (fun(m,ma)=>ma) (fun(m,ma)=>b.length-m) (0,h0) ?_ e4z rfl rfl ?_
 ·
  refine⟨MLe.refl _,?_⟩
  exact oM
 intro x hx
 obtain⟨m,ma⟩:=x
 obtain⟨hmma,hinv⟩:=hx
 refine yS ?_
 have hm1:=hinv
 have hwr:=nM a b 0 1 m
 replace rb:=rb.mono hmma
 refine go9 ?_
 refine cnd (fun hc10=>?_) fun hc10=>?_
 ·
  refine go5 ?_
  refine gD 16 (qq 0 13 [(13,.c),(14,.c),(15,.q)]) (vG [0,0,0,6,8,0,0,64,0,256,640,1056,2048,4112,8193,16384] (frz 65535 [0,0,0,6,8,0,0,64,0,256,640,1056,2048,4112,8193,16384]) (by kernel_rfl)) ?_
  refine go3 ?_
  refine wX rfl (xI zT m underlying46 zS rb) fun v16 r16=>(wX rfl (xA zS r16) fun v17 r17=>?_)
  refine go4 ?_
  refine w_q rfl (fun h' L' hh hR=>uY underlying46 rfl (rb.mono hh)) rfl (xJ rfl (fun _ _=>vX rfl rfl oM oM) rfl (wX rfl (xI zT ((m+1)%b.length) underlying46 zS rb (hi:=by exact Nat.mod_lt _ oM)) fun v24 r24=>(wX rfl (xA zS r24) fun v25 r25=>?_)))
  refine w_c rfl (sC (ev2 rfl rfl) call196 (fun w hs=>zH5 hs r17 r25 oM) fun v26 h1 hh1 r26=>?_)
  refine w_c rfl ?_
  replace ra:=ra.mono (hmma.trans hh1)
  refine sC (ev2 rfl rfl) call195 (fun w hs=>zH6 hs (ra.le (Le.s (Le.t (Le.q (l:=2*k+2) oM)))) r26 oM oM) fun v27 h2 hh2 r27=>?_
  obtain rfl:v27=vI (zBK a (pr (T3.mk (dA (b.getD m zT).x (b.getD ((m+1)%b.length) zT).x) (dA (b.getD m zT).y (b.getD ((m+1)%b.length) zT).y) (0:Rat)) 0 1) 0 1):=r27
  refine go3 ?_
  refine cnd (fun hc28=>?_) fun hc28=>?_
  ·
   refine uN ?_
   refine yQ ((m+1),h2) ?_ ?_ ⟨rfl,rfl,?_,rfl,trivial⟩ rfl rfl
   ·
    refine⟨((hmma.trans hh1).trans hh2),?_⟩
    exact oM
   ·
    dsimp only
    omega
   · exact congrArg (fun z=>some (vI z)) (zW2 (zWF _ _) hc28)
  refine go8 ?_
  refine yQ ((m+1),h2) ?_ ?_ ⟨rfl,rfl,?_,rfl,trivial⟩ rfl rfl
  ·
   refine⟨((hmma.trans hh1).trans hh2),?_⟩
   exact oM
  ·
   dsimp only
   omega
  · exact congrArg (fun z=>some (vI z)) (zW3 (zWF _ _) hc28)
 refine uN ?_
 refine zD rfl rfl ?_
 have em:m=b.length:=by omega
 subst em
 rfl
theorem zH4{w0:World}{h0:Mem}(hs:MLe h0 (mem w0)){k:Nat}{vL:Value}{L:(List (List Tq))}(rL:(tLL k).Is h0 vL L){f:Nat}(hcd0:f<L.length)(hcd1:L.length≤16)(hcd2:k≤2000)(hcd3:∀u,u<L.length→¬64<(gl L u).length):
    Calls Tryz.prog 171 #[vL,vI ↑f] w0 (Ret w0 h0 (fun _ r=>r=vI (sZ L 0 1 f L.length))):=by
 have hE:=hcd3
 refine cb2 55 vL (vI ↑f) func171 hs ?_
 refine dG ?_
 refine vC (ι:=Nat×Mem) (fun(g,ma)=>MLe h0 ma∧(g≤L.length)) (fun(g,ma)=>[(0,vL),(1,vI ↑f),(5,vI (sZ L 0 1 f g)),(6,vI ↑g)]) (fun(g,ma)=>[]) (fun(g,ma)=>ma) (fun(g,ma)=>L.length-g) (0,h0) ?_ e4z rfl rfl ?_
 ·
  refine⟨MLe.refl _,?_⟩
  exact oM
 intro x hx
 obtain⟨g,ma⟩:=x
 obtain⟨hmma,hinv⟩:=hx
 refine yS ?_
 have hg1:=hinv
 have hpr:=zAE L 0 1 f g
 refine go9 ?_
 refine cnd (fun hc10=>?_) fun hc10=>?_
 ·
  refine go6 ?_
  refine gD 24 (qq 0 4 ((4,.c)::(5,.c)::(qq 6 10 (qq 17 5 [(16,.c),(22,.q),(23,.q)])))) (vG [0,0,3,4,8,16,32,96,128,128,896,1152,128,128,12416,16512,34944,128,128,393344,524416,1048704,2162816,4194432] (frz 16777215 [0,0,3,4,8,16,32,64,128,128,896,1152,128,128,12416,16512,34944,128,128,393344,524416,1048704,2162816,4194432]) (by kernel_rfl)) ?_
  refine go2 ?_
  refine wX rfl (xI [] g underlying115 uT rL) fun v15 r15=>(wX rfl (xA uT r15) fun v16 r16=>?_)
  refine w_c rfl (sC (ev1 rfl) call170 (fun w hs=>sV hs r16 (by first|omega|exact Nat.le_trans (Nat.not_lt.1 (hE _ oM)) dC|exact Nat.le_trans (hF _ oM) dC) (by first|omega|exact Nat.le_trans (Nat.not_lt.1 (hE _ oM)) dC|exact Nat.le_trans (hF _ oM) dC)) fun v17 h1 hh1 r17=>?_)
  refine w_c rfl (sC (ev1 rfl) call17 (fun w hs=>qO hs r17 dC) fun v18 h2 hh2 r18=>?_)
  obtain rfl:v18=vI (xH (uU (L.getD g []) 0 1 (L.getD g []).length)):=r18
  have hsr18:=wH (uU (L.getD g []) 0 1 (L.getD g []).length)
  refine go2 ?_
  refine gS ((xH (uU (L.getD g []) 0 1 (L.getD g []).length))≤(0:Int)) (fun hg_5=>?_) (fun hg_5=>?_)
  ·
   rw[xL hg_5]
   refine sL ?_
   refine w_c rfl (y9 rfl rfl rfl rfl ?_)
   refine tV ?_
   refine yQ ((g+1),h2) ?_ ?_ ⟨rfl,rfl,?_,rfl,trivial⟩ rfl rfl
   ·
    refine⟨((hmma.trans hh1).trans hh2),?_⟩
    exact oM
   ·
    dsimp only
    omega
   · exact congrArg (fun z=>some (vI z)) ((if_neg (fun e=>absurd e.1.1 (Int.not_lt.2 (by assumption)))).symm)
  rw[yU hg_5]
  refine yM rfl rfl rfl (fun h' L' hh hR=>yW rfl) rfl (yM rfl rfl rfl (fun h' L' hh hR=>yW rfl) rfl (oX rfl (xI [] g underlying115 uT rL) fun v23 r23=>(oX rfl (xA uT r23) fun v24 r24=>(yM rfl rfl rfl (fun h' L' hh hR=>yW rfl) rfl (yM rfl rfl rfl (fun h' L' hh hR=>yW rfl) rfl (oX rfl (xI [] f underlying115 uT rL) fun v27 r27=>(oX rfl (xA uT r27) fun v28 r28=>(yM rfl rfl rfl (fun h' L' hh hR=>yW rfl) rfl (yM rfl rfl rfl (fun h' L' hh hR=>yW rfl) rfl (oX rfl (xI [] f underlying115 uT rL) fun v32 r32=>(oX rfl (xA uT r32) fun v33 r33=>(yM rfl rfl rfl (fun h' L' hh hR=>uY underlying46 rfl (r33.mono hh)) rfl ?_))))))))))))
  refine w_c rfl (rK rfl rfl (sC (ev2 rfl rfl) call172 (fun w hs=>zA9 hs r24 r28 (by first|omega|exact Nat.le_trans (Nat.not_lt.1 (hE _ oM)) dC|exact Nat.le_trans (hF _ oM) dC) (by first|omega|exact Nat.le_trans (Nat.not_lt.1 (hE _ oM)) dC|exact Nat.le_trans (hF _ oM) dC) (by first|omega|exact Nat.le_trans (Nat.not_lt.1 (hE _ oM)) dC|exact Nat.le_trans (hF _ oM) dC)) fun v29 h3 hh3 r29=>?_))
  obtain rfl:v29=vI (wiZ (L.getD g []) (L.getD f []) 0 1):=r29
  have hwz29:=nM (L.getD g []) (L.getD f []) 0 1 (L.getD f []).length
  refine go4 ?_
  refine cnd (fun hc36=>?_) fun hc36=>?_
  ·
   refine go9 ?_
   refine yQ ((g+1),h3) ?_ ?_ ⟨rfl,rfl,?_,rfl,trivial⟩ rfl rfl
   ·
    refine⟨(((hmma.trans hh1).trans hh2).trans hh3),?_⟩
    exact oM
   ·
    dsimp only
    omega
   · exact congrArg (fun z=>some (vI z)) ((if_neg (fun e=>hc36 e.1.2)).symm)
  refine go3 ?_
  refine gD 16 (qq 0 7 (qq 8 4 [(7,.c),(12,.c),(13,.c),(14,.q),(15,.q)])) (vG [0,1,2,4,4,28,36,68,4,4,772,1028,2180,4228,8196,16388] (frz 65535 [0,1,2,4,4,28,36,68,4,4,772,1028,2052,4228,8196,16388]) (by kernel_rfl)) ?_
  refine go3 ?_
  refine gS ((sZ L 0 1 f g)<(0:Int)) (fun hg_6=>?_) (fun hg_6=>?_)
  ·
   rw[xL hg_6]
   refine go8 ?_
   refine w_c rfl (y9 rfl rfl rfl rfl ?_)
   refine w_c rfl (y9 rfl rfl rfl rfl ?_)
   refine w_c rfl (y9 rfl rfl rfl rfl ?_)
   refine zAR ?_
   refine yQ ((g+1),h3) ?_ ?_ ⟨rfl,rfl,?_,rfl,trivial⟩ rfl rfl
   ·
    refine⟨(((hmma.trans hh1).trans hh2).trans hh3),?_⟩
    exact oM
   ·
    dsimp only
    omega
   · exact congrArg (fun z=>some (vI z)) ((if_pos ⟨⟨Int.not_le.1 (by assumption),Classical.not_not.1 hc36⟩,.inl (by assumption)⟩).symm)
  rw[yU hg_6]
  refine yM rfl rfl rfl (fun h' L' hh hR=>yW rfl) rfl (yM rfl rfl rfl (fun h' L' hh hR=>yW rfl) rfl (oX rfl (xI [] g underlying115 uT rL) fun v42 r42=>(oX rfl (xA uT r42) fun v43 r43=>(yM rfl rfl rfl (fun h' L' hh hR=>yW rfl) rfl (yM rfl rfl rfl (fun h' L' hh hR=>yW rfl) rfl (oX rfl (xI [] ((sZ L 0 1 f g).toNat) underlying115 uT rL) fun v47 r47=>(oX rfl (xA uT r47) fun v48 r48=>?_)))))))
  refine w_c rfl (rK rfl rfl (sC (ev1 rfl) call170 (fun w hs=>sV hs r43 (by first|omega|exact Nat.le_trans (Nat.not_lt.1 (hE _ oM)) dC|exact Nat.le_trans (hF _ oM) dC) (by first|omega|exact Nat.le_trans (Nat.not_lt.1 (hE _ oM)) dC|exact Nat.le_trans (hF _ oM) dC)) fun v44 h4 hh4 r44=>?_))
  refine w_c rfl (rK rfl rfl (sC (ev1 rfl) call170 (fun w hs=>sV hs r48.up (by first|omega|exact Nat.le_trans (Nat.not_lt.1 (hE _ oM)) dC|exact Nat.le_trans (hF _ oM) dC) (by first|omega|exact Nat.le_trans (Nat.not_lt.1 (hE _ oM)) dC|exact Nat.le_trans (hF _ oM) dC)) fun v49 h5 hh5 r49=>?_))
  refine w_c rfl (rK rfl rfl (sC (ev2 rfl rfl) call18 (fun w hs=>kA hs r44.up r49 dC) fun v50 h6 hh6 r50=>?_))
  obtain rfl:v50=vI (wG (uU (L.getD g []) 0 1 (L.getD g []).length) (uU (L.getD ((sZ L 0 1 f g).toNat) []) 0 1 (L.getD ((sZ L 0 1 f g).toNat) []).length)):=r50
  have hcr50:=jB (uU (L.getD g []) 0 1 (L.getD g []).length) (uU (L.getD ((sZ L 0 1 f g).toNat) []) 0 1 (L.getD ((sZ L 0 1 f g).toNat) []).length)
  refine go4 ?_
  refine cnd (fun hc52=>?_) fun hc52=>?_
  ·
   refine uP ?_
   refine yQ ((g+1),h6) ?_ ?_ ⟨rfl,rfl,?_,rfl,trivial⟩ rfl rfl
   ·
    refine⟨((((((hmma.trans hh1).trans hh2).trans hh3).trans hh4).trans hh5).trans hh6),?_⟩
    exact oM
   ·
    dsimp only
    omega
   · exact congrArg (fun z=>some (vI z)) ((if_pos ⟨⟨Int.not_le.1 (by assumption),Classical.not_not.1 hc36⟩,.inr hc52⟩).symm)
  refine go8 ?_
  refine yQ ((g+1),h6) ?_ ?_ ⟨rfl,rfl,?_,rfl,trivial⟩ rfl rfl
  ·
   refine⟨((((((hmma.trans hh1).trans hh2).trans hh3).trans hh4).trans hh5).trans hh6),?_⟩
   exact oM
  ·
   dsimp only
   omega
  · exact congrArg (fun z=>some (vI z)) ((if_neg (fun e=>e.2.elim (fun h=>absurd h (by assumption)) hc52)).symm)
 refine uN ?_
 refine zD rfl rfl ?_
 have eg:g=L.length:=by omega
 rw[eg]
end Go.Proofs.YtboaboflnckgoaaGreat
namespace Go.Proofs.YtboaboflnckgoaaGreat
open Bk Go Tryz
set_option linter.unusedVariables false
set_option linter.unusedSimpArgs false
set_option maxRecDepth 10000
set_option maxHeartbeats 1000000
attribute [local irreducible] GL GC GQ W OpV
set_option maxHeartbeats 2000000 in
theorem zEW{w0:World}{h0:Mem}(hs:MLe h0 (mem w0)){k:Nat}{vL:Value}{L:(List (List Tq))}(rL:(tLL k).Is h0 vL L)(hcd0:k≤2000)(hcd1:∀x,x∈L→nG x):
    Calls Tryz.prog 123 #[vL] w0 (Ret w0 h0 (fun h r=>∃u0,r=.tuple #[u0,vI (vS L 0 1)]∧(rpS rpI).Is h u0 (fX L 0 1))):=by
 have hF:=hcd1
 refine cb1 133 vL func123 hs ?_
 refine tV ?_
 refine cnd (fun hc15=>?_) fun hc15=>?_
 ·
  refine go8 ?_
  refine vT rfl rfl rfl ?_
  refine⟨_,?_,(Rp.Is.cast (mD _) (by exact(show vS L 0 1=2∧fX L 0 1=[] from zGG (.inl oM)).2.symm))⟩
  rw[(show vS L 0 1=2∧fX L 0 1=[] from zGG (.inl oM)).1]
 refine go9 ?_
 refine gcL (ι:=Nat×Mem) (fun(q,ma)=>(MLe h0 ma∧(q≤L.length∧∀u,u<q→¬64<(gl L u).length),[(0,vL),(4,vI ↑q)],[],ma,L.length-q)) (0,h0) ?_ ?_
 ·
  refine⟨MLe.refl _,?_⟩
  exact⟨by omega,fun u h=>by omega⟩
 intro x hx
 obtain⟨q,ma⟩:=x
 dsimp only at hx
 obtain⟨hmma,hinv⟩:=hx
 refine yS ?_
 obtain⟨hq1,hq2⟩:=hinv
 replace rL:=rL.mono hmma
 refine go9 ?_
 refine cnd (fun hc19=>?_) fun hc19=>?_
 ·
  refine go8 ?_
  refine lX (xI [] q underlying115 uT rL) fun v24 r24=>(lX (xA uT r24) fun v25 r25=>?_)
  refine go4 ?_
  refine cnd (fun hc27=>?_) fun hc27=>?_
  ·
   refine uN ?_
   refine vT rfl rfl rfl ?_
   refine⟨_,?_,(Rp.Is.cast (mD _) (by exact(show vS L 0 1=2∧fX L 0 1=[] from zGG (.inr ⟨q,by omega,(by show 64<(L.getD q []).length;omega)⟩)).2.symm))⟩
   rw[(show vS L 0 1=2∧fX L 0 1=[] from zGG (.inr ⟨q,by omega,(by show 64<(L.getD q []).length;omega)⟩)).1]
  refine go8 ?_
  refine gqL ((q+1),ma) ?_ ?_
  ·
   refine⟨hmma,?_⟩
   exact⟨by omega,qN (Q:=fun u=>¬64<(gl L u).length) hq2 (by show ¬64<(L.getD q []).length;omega)⟩
  omega
 have hE:∀u,u<L.length→¬64<(gl L u).length:=fun u hu=>hq2 u oM
 refine uN ?_
 refine gcL (ι:=Nat×Mem) (fun(s,ms)=>(MLe ma ms∧(s≤L.length∧∀u,u<s→aQ (gl L u) 0 1),[(0,vL),(5,vI ↑s)],[],ms,L.length-s)) (0,ma) ?_ ?_
 ·
  refine⟨MLe.refl _,?_⟩
  exact⟨by omega,fun u h=>by omega⟩
 intro x hx
 obtain⟨s,ms⟩:=x
 dsimp only at hx
 obtain⟨hmms,hinv⟩:=hx
 refine yS ?_
 obtain⟨hs1,hs2⟩:=hinv
 replace rL:=rL.mono hmms
 refine go9 ?_
 refine cnd (fun hc31=>?_) fun hc31=>?_
 ·
  refine go8 ?_
  refine lX (xI [] s underlying115 uT rL) fun v36 r36=>(lX (xA uT r36) fun v37 r37=>(cL (ev1 rfl) call168 (fun w hs=>zH3 hs r37 (by first|omega|assumption|exact Nat.le_trans (Nat.not_lt.1 (hE _ oM)) dC) (by first|omega|assumption|exact Nat.le_trans (Nat.not_lt.1 (hE _ oM)) dC)) fun v38 h1 hh1 r38=>?_))
  obtain rfl:v38=vB (aQ (L.getD s []) 0 1):=r38
  refine go3 ?_
  refine cnd (fun hc39=>?_) fun hc39=>?_
  ·
   refine uN ?_
   refine vT rfl rfl rfl ?_
   refine⟨_,?_,(Rp.Is.cast (mD _) (by exact(show vS L 0 1=8∧fX L 0 1=[] from zRJ oM hE ⟨s,by omega,hc39⟩).2.symm))⟩
   rw[(show vS L 0 1=8∧fX L 0 1=[] from zRJ oM hE ⟨s,by omega,hc39⟩).1]
  refine go8 ?_
  refine gqL ((s+1),h1) ?_ ?_
  ·
   refine⟨(hmms.trans hh1),?_⟩
   exact⟨by omega,qN (Q:=fun u=>aQ (gl L u) 0 1) hs2 (Classical.not_not.1 hc39)⟩
  omega
 have hS:∀u,u<L.length→aQ (gl L u) 0 1:=fun u hu=>hs2 u oM
 refine uN ?_
 refine gcL (ι:=Nat×Mem) (fun(c,mc)=>(MLe ms mc∧(c≤L.length∧∀u v,v<c→u<v→¬fH (gl L u) (gl L v) 0 1),[(0,vL),(6,vI ↑c)],[],mc,L.length-c)) (0,ms) ?_ ?_
 ·
  refine⟨MLe.refl _,?_⟩
  exact⟨by omega,fun u v h=>by omega⟩
 intro x hx
 obtain⟨c,mc⟩:=x
 dsimp only at hx
 obtain⟨hmmc,hinv⟩:=hx
 refine yS ?_
 obtain⟨hcc1,hcc2⟩:=hinv
 replace rL:=rL.mono hmmc
 refine go9 ?_
 refine cnd (fun hc43=>?_) fun hc43=>?_
 ·
  refine vO ?_
  refine gcL (ι:=Nat×Mem) (fun(d,md)=>(MLe mc md∧(d≤c∧∀u,u<d→¬fH (gl L u) (gl L c) 0 1),[(0,vL),(6,vI ↑c),(7,vI ↑d)],[],md,c-d)) (0,mc) ?_ ?_
  ·
   refine⟨MLe.refl _,?_⟩
   exact⟨by omega,fun u h=>by omega⟩
  intro x hx
  obtain⟨d,md⟩:=x
  dsimp only at hx
  obtain⟨hmmd,hinv⟩:=hx
  refine yS ?_
  obtain⟨hd1,hd2⟩:=hinv
  refine go8 ?_
  refine cnd (fun hc48=>?_) fun hc48=>?_
  ·
   refine go5 ?_
   refine gD 9 (qq 0 8 [(8,.c)]) (by kernel_rfl) ?_
   refine go2 ?_
   replace rL:=rL.mono hmmd
   refine wX rfl (xI [] c underlying115 uT rL) fun v53 r53=>(wX rfl (xA uT r53) fun v54 r54=>?_)
   refine go2 ?_
   refine wX rfl (xI [] d underlying115 uT rL) fun v57 r57=>(wX rfl (xA uT r57) fun v58 r58=>?_)
   refine w_c rfl (sC (ev2 rfl rfl) call169 (fun w hs=>zGD hs r54 r58 (by first|omega|assumption|exact Nat.le_trans (Nat.not_lt.1 (hE _ oM)) dC) (by first|omega|assumption|exact Nat.le_trans (Nat.not_lt.1 (hE _ oM)) dC) (by first|omega|assumption|exact Nat.le_trans (Nat.not_lt.1 (hE _ oM)) dC)) fun v59 h1 hh1 r59=>?_)
   obtain rfl:v59=vB (fH (L.getD c []) (L.getD d []) 0 1):=r59
   refine go2 ?_
   refine cnd (fun hc59=>?_) fun hc59=>?_
   ·
    refine zAR ?_
    refine vT rfl rfl rfl ?_
    refine⟨_,?_,(Rp.Is.cast (mD _) (by exact(show vS L 0 1=32∧fX L 0 1=[] from zMI oM hE hS ⟨d,c,by omega,by omega,mJ hc59⟩).2.symm))⟩
    rw[(show vS L 0 1=32∧fX L 0 1=[] from zMI oM hE hS ⟨d,c,by omega,by omega,mJ hc59⟩).1]
   refine go8 ?_
   refine gqL ((d+1),h1) ?_ ?_
   ·
    refine⟨(hmmd.trans hh1),?_⟩
    exact⟨by omega,qN (Q:=fun u=>¬fH (gl L u) (gl L c) 0 1) hd2 (fun e=>hc59 (mJ e))⟩
   omega
  refine uP ?_
  refine gqL ((c+1),md) ?_ ?_
  ·
   refine⟨(hmmc.trans hmmd),?_⟩
   exact⟨by omega,zPJ hcc2 hd2 oM⟩
  omega
 have hX:∀a b,b<L.length→a<b→¬fH (gl L a) (gl L b) 0 1:=fun a b hb ha=>hcc2 a b oM ha
 refine dG ?_
 refine xQ 3 1 ?_
 have rl_1:RL rpI mc [] ([]:List Int):=RL.nil
 refine gcL (ι:=Nat×List Int×Value×List Value×Mem) (fun(f,OU,s8_2,cs_3,mf)=>(MLe mc mf∧(RL rpI mf cs_3 OU∧(f≤L.length∧OU.length=f)∧∀u,u<f→OU.getD u (0:Int)=pZ L 0 1 u),[(0,vL),(8,s8_2),(9,vI ↑f)],[.gs 3 1 s8_2 OU.length cs_3],mf,L.length-f)) (0,([]:List Int),(.slice none 0 0),[],mc) ?_ ?_
 ·
  refine⟨MLe.refl _,?_⟩
  refine⟨rl_1,?_⟩
  exact⟨⟨by omega,rfl⟩,fun u h=>by omega⟩
 intro x hx
 obtain⟨f,OU,s8_2,cs_3,mf⟩:=x
 dsimp only at hx
 obtain⟨hmmf,hinv⟩:=hx
 refine yS ?_
 obtain⟨rl_4,hinv⟩:=hinv
 obtain⟨⟨hf1,hf2⟩,hf3⟩:=hinv
 replace rL:=rL.mono hmmf
 refine go9 ?_
 refine cnd (fun hc63=>?_) fun hc63=>?_
 ·
  refine go9 ?_
  refine qK (ι:=Int×Mem) (fun(p,mp)=>MLe mf mp∧((-1≤p∧p<9223372036854775808)∧p=pZ L 0 1 f)) (fun(p,mp)=>[(0,vL),(8,s8_2),(9,vI ↑f),(10,vI p)]) (fun(p,mp)=>[.gs 3 1 s8_2 OU.length cs_3]) (fun(p,mp)=>mp) ?_ ?_
  ·
   refine go4 ?_
   refine lX (xI [] f underlying115 uT rL) fun v68 r68=>(lX (xA uT r68) fun v69 r69=>(cL (ev1 rfl) call170 (fun w hs=>sV hs r69 (by first|omega|assumption|exact Nat.le_trans (Nat.not_lt.1 (hE _ oM)) dC) (by first|omega|assumption|exact Nat.le_trans (Nat.not_lt.1 (hE _ oM)) dC)) fun v70 h1 hh1 r70=>(cL (ev1 rfl) call17 (fun w hs=>qO hs r70 dC) fun v71 h2 hh2 r71=>?_)))
   obtain rfl:v71=vI (xH (uU (L.getD f []) 0 1 (L.getD f []).length)):=r71
   have hsr71:=wH (uU (L.getD f []) 0 1 (L.getD f []).length)
   refine go3 ?_
   refine cnd (fun hc72=>?_) fun hc72=>?_
   ·
    refine go3 ?_
    replace rL:=rL.mono (hh1.trans hh2)
    refine cL (ev2 rfl rfl) call171 (fun w hs=>zH4 (f:=f) hs rL (by first|omega|assumption|exact Nat.le_trans (Nat.not_lt.1 (hE _ oM)) dC) (by first|omega|assumption|exact Nat.le_trans (Nat.not_lt.1 (hE _ oM)) dC) (by first|omega|assumption|exact Nat.le_trans (Nat.not_lt.1 (hE _ oM)) dC) (by first|omega|assumption|exact Nat.le_trans (Nat.not_lt.1 (hE _ oM)) dC)) fun v75 h3 hh3 r75=>?_
    obtain rfl:v75=vI (sZ L 0 1 f L.length):=r75
    have hpr75:=zAE L 0 1 f L.length
    refine go2 ?_
    refine zN ((sZ L 0 1 f L.length),h3) ?_ e4z rfl rfl
    refine⟨((hh1.trans hh2).trans hh3),?_⟩
    exact⟨⟨by omega,by omega⟩,zYD hc72⟩
   refine go1 ?_
   refine zN ((-1:Int),h2) ?_ e4z rfl rfl
   refine⟨(hh1.trans hh2),?_⟩
   exact⟨⟨by omega,by omega⟩,zYC hF (hS f oM) hc72⟩
  intro x hx
  obtain⟨p,mp⟩:=x
  obtain⟨hmmp,hcut⟩:=hx
  refine yS ?_
  obtain⟨hp1,hpz⟩:=hcut
  refine go3 ?_
  refine zF (zV (ρ:=rpI) (m:=1) (xs:=[p]) (ps':=[(0,_)]) underlying32 gK rfl rfl rfl wF e2z (zI rfl (Pc.arr (Pc.here _) (0:Int) 0 dC) (qF oM oM) zX) (show 1*1≤16777216 from by decide) nP) rfl rfl rfl ?_
  intro v78 q78 hq78
  obtain⟨cs78,rfl,rl78⟩:=hq78
  refine yH (A:=[]) (ρ:=rpI) rl78 ?_
  intro h1 hh1 rs_5
  replace rl_4:=rl_4.mono (hmmp.trans hh1)
  refine xS (A:=[]) (yD (ρ:=rpI) (bytes:=8) underlying32 gK rfl rfl rfl rfl nP rfl rfl rl_4 rs_5 bO bO) rfl rfl rfl ?_
  intro v79 q79 hq79
  obtain⟨cs79,rfl,rl79⟩:=hq79
  refine go9 ?_
  refine gqL ((f+1),(OU++[p]),v79,cs79,h1) ?_ ?_
  ·
   refine⟨((hmmf.trans hmmp).trans hh1),?_⟩
   refine⟨rl79,?_⟩
   exact⟨⟨by omega,(zFE hf2 hf3 hpz).1⟩,(zFE hf2 hf3 hpz).2⟩
  omega
 have hO:∀u,u<L.length→OU.getD u (0:Int)=pZ L 0 1 u:=fun u hu=>hf3 u oM
 have hlo:OU.length=L.length:=by omega
 refine uN ?_
 refine gcL (ι:=Nat×Mem) (fun(v,mvv)=>(MLe mf mvv∧(v≤L.length∧∀a,a<v→¬mQ L 0 1 a∧∀b,b<L.length→¬s9 L 0 1 a b),[(0,vL),(8,s8_2),(11,vI ↑v)],[.gs 3 1 s8_2 OU.length cs_3],mvv,L.length-v)) (0,mf) ?_ ?_
 ·
  refine⟨MLe.refl _,?_⟩
  exact⟨by omega,fun a h=>by omega⟩
 intro x hx
 obtain⟨v,mvv⟩:=x
 dsimp only at hx
 obtain⟨hmmvv,hinv⟩:=hx
 refine yS ?_
 obtain⟨hv1,hv2⟩:=hinv
 replace rL:=rL.mono hmmvv
 refine go9 ?_
 refine cnd (fun hc83=>?_) fun hc83=>?_
 ·
  refine go9 ?_
  refine lX (xI [] v underlying115 uT rL) fun v88 r88=>(lX (xA uT r88) fun v89 r89=>(cL (ev1 rfl) call170 (fun w hs=>sV hs r89 (by first|omega|assumption|exact Nat.le_trans (Nat.not_lt.1 (hE _ oM)) dC) (by first|omega|assumption|exact Nat.le_trans (Nat.not_lt.1 (hE _ oM)) dC)) fun v90 h1 hh1 r90=>(cL (ev1 rfl) call17 (fun w hs=>qO hs r90 dC) fun v91 h2 hh2 r91=>?_)))
  obtain rfl:v91=vI (xH (uU (L.getD v []) 0 1 (L.getD v []).length)):=r91
  have hsr91:=wH (uU (L.getD v []) 0 1 (L.getD v []).length)
  refine go3 ?_
  refine cnd (fun hc92=>?_) fun hc92=>?_
  ·
   refine go9 ?_
   refine gqL ((v+1),h2) ?_ ?_
   ·
    refine⟨((hmmvv.trans hh1).trans hh2),?_⟩
    exact⟨by omega,qN (Q:=fun a=>¬mQ L 0 1 a∧∀b,b<L.length→¬s9 L 0 1 a b) hv2 (zYI (zZE hF (hS v oM) hc92))⟩
   omega
  refine go8 ?_
  refine gcL (ι:=Nat×Mem) (fun(w,mw)=>(MLe h2 mw∧((w≤L.length∧(0<w→¬mQ L 0 1 v))∧∀b,b<w→¬s9 L 0 1 v b),[(0,vL),(8,s8_2),(11,vI ↑v),(12,vI ↑w)],[.gs 3 1 s8_2 OU.length cs_3],mw,L.length-w)) (0,h2) ?_ ?_
  ·
   refine⟨MLe.refl _,?_⟩
   exact⟨⟨by omega,fun h=>by omega⟩,fun b h=>by omega⟩
  intro x hx
  obtain⟨w,mw⟩:=x
  dsimp only at hx
  obtain⟨hmmw,hinv⟩:=hx
  refine yS ?_
  obtain⟨⟨hw1,hw3⟩,hw2⟩:=hinv
  replace rL:=rL.mono ((hh1.trans hh2).trans hmmw)
  refine go9 ?_
  refine cnd (fun hc96=>?_) fun hc96=>?_
  ·
   refine go5 ?_
   refine gD 33 (qq 0 29 ((29,.c)::(qq 30 3 []))) (vG [0,0,3,4,8,16,32,32,224,288,512,512,3584,4608,512,512,49664,66048,139776,262688,524832,1048576,1048576,7340032,9437184,1048576,1048576,101711872,135266304,286261248,537919488,1074790432,2147483680] (frz 8589934591 [0,0,3,4,8,16,32,32,224,288,512,512,3584,4608,512,512,49664,66048,139776,262688,524320,1048576,1048576,7340032,9437184,1048576,1048576,101711872,135266304,286261248,537919488,1074790432,2147483680]) (by kernel_rfl)) ?_
   refine go2 ?_
   refine w_q rfl (fun h' L' hh hR=>(yY v (hR _ mh0) underlying32 sizeOf3 rfl rfl rfl bO nP).cv (show _=zK 1 s8_2 ((v*1+0)) from congrArg (zK 1 s8_2) (by rfl))) rfl ?_
   replace rl_4:=rl_4.mono (((hmmvv.trans hh1).trans hh2).trans hmmw)
   refine mZ (F:=fun v_=>rpI.Is mw v_ (OU.getD v (0:Int))) rfl (wV ty3 (Pc.arr (Pc.here _) (0:Int) v bO) rfl nP rfl rl_4 rfl) (tT mh0) rfl ?_
   intro v102 r102
   obtain⟨rfl,hl102,hu102⟩:=jW r102
   refine go2 ?_
   refine gS ((OU.getD v (0:Int))<(0:Int)) (fun hg_6=>?_) (fun hg_6=>?_)
   ·
    rw[xL hg_6]
    refine go23 ?_
    refine w_c rfl (zX0 rfl rfl rfl ?_)
    refine go22 ?_
    refine vT rfl rfl rfl ?_
    refine⟨_,?_,(Rp.Is.cast (mD _) (by exact(show vS L 0 1=33∧fX L 0 1=[] from zBV oM hE hS hX (.inl ⟨v,by omega,zMT hc92 (hO v oM) (by assumption)⟩)).2.symm))⟩
    rw[(show vS L 0 1=33∧fX L 0 1=[] from zBV oM hE hS hX (.inl ⟨v,by omega,zMT hc92 (hO v oM) (by assumption)⟩)).1]
   rw[yU hg_6]
   refine yM rfl rfl rfl (fun h' L' hh hR=>yW rfl) rfl (yM rfl rfl rfl (fun h' L' hh hR=>yW rfl) rfl ?_)
   refine go1 ?_
   refine yM rfl rfl rfl (fun h' L' hh hR=>yW rfl) rfl ?_
   refine gS ((↑w:Int)≠(↑v:Int)) (fun hg_7=>?_) (fun hg_7=>?_)
   ·
    rw[xL hg_7]
    refine yM rfl rfl rfl (fun h' L' hh hR=>yW rfl) rfl (yM rfl rfl rfl (fun h' L' hh hR=>yW rfl) rfl (yM rfl rfl rfl (fun h' L' hh hR=>(yY w (hR _ mh0) underlying32 sizeOf3 rfl rfl rfl bO nP).cv (show _=zK 1 s8_2 ((w*1+0)) from congrArg (zK 1 s8_2) (by rfl))) rfl (aC (F:=fun v_=>rpI.Is mw v_ (OU.getD w (0:Int))) rfl rfl rfl (wV ty3 (Pc.arr (Pc.here _) (0:Int) w bO) rfl nP rfl rl_4 rfl) (tT mh0) rfl ?_)))
    intro v112 r112
    obtain⟨rfl,hl112,hu112⟩:=jW r112
    refine yM rfl rfl rfl (fun h' L' hh hR=>yW rfl) rfl (yM rfl rfl rfl (fun h' L' hh hR=>yW rfl) rfl (yM rfl rfl rfl (fun h' L' hh hR=>(yY v (hR _ mh0) underlying32 sizeOf3 rfl rfl rfl bO nP).cv (show _=zK 1 s8_2 ((v*1+0)) from congrArg (zK 1 s8_2) (by rfl))) rfl (aC (F:=fun v_=>rpI.Is mw v_ (OU.getD v (0:Int))) rfl rfl rfl (wV ty3 (Pc.arr (Pc.here _) (0:Int) v bO) rfl nP rfl rl_4 rfl) (tT mh0) rfl ?_)))
    intro v116 r116
    obtain⟨rfl,hl116,hu116⟩:=jW r116
    refine go2 ?_
    refine yM rfl rfl rfl (fun h' L' hh hR=>yW rfl) rfl ?_
    refine gS ((OU.getD w (0:Int))=(OU.getD v (0:Int))) (fun hg_8=>?_) (fun hg_8=>?_)
    ·
     rw[xL hg_8]
     refine yM rfl rfl rfl (fun h' L' hh hR=>yW rfl) rfl (yM rfl rfl rfl (fun h' L' hh hR=>yW rfl) rfl (oX rfl (xI [] w underlying115 uT rL) fun v122 r122=>(oX rfl (xA uT r122) fun v123 r123=>(yM rfl rfl rfl (fun h' L' hh hR=>yW rfl) rfl (yM rfl rfl rfl (fun h' L' hh hR=>yW rfl) rfl (oX rfl (xI [] v underlying115 uT rL) fun v126 r126=>(oX rfl (xA uT r126) fun v127 r127=>?_)))))))
     refine w_c rfl (rK rfl rfl (sC (ev2 rfl rfl) call172 (fun w hs=>zA9 hs r123 r127 (by first|omega|assumption|exact Nat.le_trans (Nat.not_lt.1 (hE _ oM)) dC) (by first|omega|assumption|exact Nat.le_trans (Nat.not_lt.1 (hE _ oM)) dC) (by first|omega|assumption|exact Nat.le_trans (Nat.not_lt.1 (hE _ oM)) dC)) fun v128 h3 hh3 r128=>?_))
     obtain rfl:v128=vI (wiZ (L.getD w []) (L.getD v []) 0 1):=r128
     have hwz128:=nM (L.getD w []) (L.getD v []) 0 1 (L.getD v []).length
     refine go5 ?_
     refine cnd (fun hc131=>?_) fun hc131=>?_
     ·
      have hsib:s9 L 0 1 v w:=⟨⟨⟨by omega,by have:=u9 (hO v oM) (by assumption);rw[←hO v oM];omega⟩,by rw[←hO w oM,←hO v oM];assumption⟩,hc131⟩
      refine zAR ?_
      refine vT rfl rfl rfl ?_
      refine⟨_,?_,(Rp.Is.cast (mD _) (by exact(show vS L 0 1=33∧fX L 0 1=[] from zBV oM hE hS hX (.inr ⟨v,w,by omega,by omega,hsib⟩)).2.symm))⟩
      rw[(show vS L 0 1=33∧fX L 0 1=[] from zBV oM hE hS hX (.inr ⟨v,w,by omega,by omega,hsib⟩)).1]
     refine go8 ?_
     refine gqL ((w+1),h3) ?_ ?_
     ·
      refine⟨(hmmw.trans hh3),?_⟩
      exact⟨⟨by omega,fun _=>u9 (hO v oM) (by assumption)⟩,qN (Q:=fun b=>¬s9 L 0 1 v b) hw2 (fun e=>hc131 e.2)⟩
     omega
    rw[yU hg_8]
    refine go8 ?_
    refine w_c rfl (y9 rfl rfl rfl rfl ?_)
    refine tV ?_
    refine gqL ((w+1),mw) ?_ ?_
    ·
     refine⟨hmmw,?_⟩
     exact⟨⟨by omega,fun _=>u9 (hO v oM) (by assumption)⟩,qN (Q:=fun b=>¬s9 L 0 1 v b) hw2 (fun e=>absurd e.1.2 (by rw[←hO w oM,←hO v oM];assumption))⟩
    omega
   rw[yU hg_7]
   refine vO ?_
   refine yM rfl rfl rfl (fun h' L' hh hR=>yW rfl) rfl ?_
   refine go8 ?_
   refine w_c rfl (y9 rfl rfl rfl rfl ?_)
   refine tV ?_
   refine gqL ((w+1),mw) ?_ ?_
   ·
    refine⟨hmmw,?_⟩
    exact⟨⟨by omega,fun _=>u9 (hO v oM) (by assumption)⟩,qN (Q:=fun b=>¬s9 L 0 1 v b) hw2 (fun e=>absurd e.1.1.1 oM)⟩
   omega
  refine uP ?_
  refine gqL ((v+1),mw) ?_ ?_
  ·
   refine⟨(((hmmvv.trans hh1).trans hh2).trans hmmw),?_⟩
   exact⟨by omega,qN (Q:=fun a=>¬mQ L 0 1 a∧∀b,b<L.length→¬s9 L 0 1 a b) hv2 ⟨hw3 oM,fun b hb=>hw2 b oM⟩⟩
  omega
 have hB:∀a b,a<L.length→b<L.length→¬s9 L 0 1 a b:=fun a b ha hb=>(hv2 a oM).2 b hb
 have hL:∀a,a<L.length→¬mQ L 0 1 a:=fun a ha=>(hv2 a oM).1
 refine sL ?_
 replace rl_4:=rl_4.mono hmmvv
 refine wW (A:=[]) (ρ:=rpI) rl_4 ?_
 intro h1 hh1 rs_9
 refine vT rfl rfl rfl ?_
 refine⟨_,?_,(Rp.Is.cast rs_9 (by exact(show vS L 0 1=0∧fX L 0 1=OU from zRK oM hE hS hX hL hB hlo hO).2.symm))⟩
 rw[(show vS L 0 1=0∧fX L 0 1=OU from zRK oM hE hS hX hL hB hlo hO).1]
end Go.Proofs.YtboaboflnckgoaaGreat
namespace Go.Proofs.YtboaboflnckgoaaGreat
open Bk Go Tryz
set_option linter.unusedVariables false
set_option linter.unusedSimpArgs false
set_option maxRecDepth 10000
set_option maxHeartbeats 1000000
attribute [local irreducible] GL GC GQ W OpV
theorem zCT{w0:World}{h0:Mem}(hs:MLe h0 (mem w0)){k m n j:Nat}{vs:Value}{s:Sq}(rs:(tSd k m n j).Is h0 vs s){f:Nat}{vix:Value}{ix:(List Int)}(rix:(rpS rpI).Is h0 vix ix)(hcd0:k≤1000)(hcd1:m≤100000)(hcd2:n≤100000)(hcd3:okS s)(hcd4:f<s.2.1.length)(hcd5:nmP s f)(hcd6:ix.length=s.1.length):
    Calls Tryz.prog 128 #[vs,vI ↑f,vix] w0 (Ret w0 h0 (fun h r=>(tFc (4*m+11) (m+n+11)).Is h r (nfF s ix f))):=by
 have hk1:=hcd3.1.1.1
 have hk2:=hcd3.1.1.2
 have hfl:=zGU s f
 have hfk:=zZH hcd4 hcd5
 have hln:=hcd3.2.1 f hcd4
 have hcl:=nH (s:=s) (f:=↑f) hcd3.2.1
 refine cb3 121 vs (vI ↑f) vix func128 hs ?_
 refine go2 ?_
 refine nB rs fun b3 cs3 rb3=>(nA (ρ:=(tFc 1 1)) (X:=((zT,(0:Rat)),([],([]:List Nat)))) jA (yJ (yJ (xW (yF dC)) (yF dC)) (yJ qL kO)) fun b6 cs6 rb6=>?_)
 refine go4 ?_
 refine lX (xB kF pH rb3) fun v14 r14=>?_
 refine go1 ?_
 refine cL (ev2 rfl rfl) call176 (fun w hs=>zH8 (f:=f) hs r14 (by first|omega|exact hcd3.big) (by first|omega|exact hcd3.big) (by first|omega|exact hcd3.big) (by first|omega|exact hcd3.big) (by first|omega|exact hcd3.big) (by first|omega|exact hcd3.big) (by first|omega|exact hcd3.big)) fun v16 h1 hh1 r16=>?_
 refine go4 ?_
 refine kE 15 _ [(14,(8,83,[.bool false,.slice none 0 0,.slice none 0 0,.bool false,.slice none 0 0,.slice none 0 0,.bool false,.slice none 0 0,.slice none 0 0,.bool false,.slice none 0 0,.slice none 0 0,.slice none 0 0,.string ⟨#[]⟩]))] [(0,.q),(1,.q),(2,.q),(3,.q),(4,.q),(5,.q),(7,.q),(8,.q),(9,.q),(10,.q),(11,.q),(12,.q),(6,.c),(13,.q),(14,.a),(15,.t)] jN (jK.cons rfl rfl (uZ jA rfl rfl) jK.nil) (vG [0,1,0,6,8,16,32,0,128,0,768,1024,2048,4160,0,32767] [65535,65534,65535,65529,65527,65519,65503,65535,65407,65535,64767,64511,63487,61375,65535,40959] (by kernel_rfl)) (qB rfl rfl kM) (fun r hr=>hr) ?_
 refine go1 ?_
 refine wX rfl (xB tM (Pc.snd (Pc.fst pH)) rb3) fun v18 r18=>?_
 refine go1 ?_
 refine wX rfl (xI zA f underlying47 fR r18) fun v20 r20=>(wX rfl (xF underlying83 sizeOf80 (Pc.fst pH) r20) fun v21 r21=>(wX rfl (xA zG4 r21) fun v22 r22=>?_))
 refine go1 ?_
 refine wX rfl (xB tM (Pc.snd (Pc.fst pH)) rb3) fun v25 r25=>?_
 refine go1 ?_
 refine wX rfl (xI zA f underlying47 fR r25) fun v27 r27=>(wX rfl (xF underlying83 sizeOf9 (Pc.snd (Pc.snd pH)) r27) fun v28 r28=>(wX rfl (xA ty9 r28) fun v29 r29=>?_))
 obtain⟨rfl,hb29⟩:=kH r29
 refine w_c rfl (sC (ev1 rfl) call64 (fun w hs=>zOD hs r22 oM oM) fun v23 h2 hh2 r23=>(wX rfl (xV (ρ:=(rpP (tPl (4*m+10) (m+n+10)) (rpP rpV cH))) (wC (ps':=[(0,_),(2,_)]) underlying83 jA rfl rfl (lG underlying83) e4z rfl (yJ (yJ (xW (yF oM)) (yF oM)) (yJ cJ kO)) (zI rfl (Pc.fst (Pc.here _)) r23 (zI rfl (Pc.snd (Pc.snd (Pc.here _))) (bQ hb29) zX)))) fun v30 r30=>?_))
 refine w_a rfl rfl (fun b8=>?_)
 have rb8:(rpP (tPl 1 1) (rpP rpV cH)).R h2 [.bool false,.slice none 0 0,.slice none 0 0,.bool false,.slice none 0 0,.slice none 0 0,.bool false,.slice none 0 0,.slice none 0 0,.bool false,.slice none 0 0,.slice none 0 0,.slice none 0 0,.string ⟨#[]⟩] ((zT,(0:Rat)),((Value.slice none 0 0),([]:List Nat))):=(yJ (yJ (xW (yF dC)) (yF dC)) (yJ cJ kO))
 have rw_1:=(Le.p (Le.p (Le.t (Le.q (l:=4*m+10) oM)) (Le.q (l:=m+n+10) oM)) (Le.refl _)).R rb8
 refine yI (A:=[]) rfl (uB sizeOf83 pH rw_1 r30) fun cs_2 rb_3=>?_
 refine tV ?_
 refine xQ 32 1 ?_
 have rl_4:RL (rpS rpI) h2 [] ([]:List (List Int)):=RL.nil
 refine xQ 32 1 ?_
 have rl_5:RL (rpS rpI) h2 [] ([]:List (List Int)):=RL.nil
 refine gcL (ι:=Nat×List (List Int)×List (List Int)×List Value×Value×List Value×Value×List Value×Mem) (fun(i,D,G,cs_8,s9_6,cs_10,sA_7,cs_12,ma)=>(MLe h2 ma∧((rpP (tPl (4*m+11) (m+n+11)) (rpP rpV cH)).R ma cs_8 (scZ (s.2.1.getD f zA).1,(sA_7,(s.2.1.getD f zA).2.2))∧RL (rpS rpI) ma cs_10 D∧RL (rpS rpI) ma cs_12 G∧sA_7.oneCell'=true∧i≤(s.2.1.getD f zA).2.1.length∧D=zBL s ix f i∧G=ouL s ix f i),[(1,vI ↑f),(2,vix),(3,vP b3 0),(6,vP b6 0),(7,v16),(8,vP b8 0),(9,s9_6),(10,vI ↑i)],[.gs 32 1 sA_7 G.length cs_12,.gs 32 1 s9_6 D.length cs_10,.var b8 83 cs_8,.var b6 83 cs6,.var b3 50 cs3],ma,(s.2.1.getD f zA).2.1.length-i)) (0,[],[],cs_2,(.slice none 0 0),[],(.slice none 0 0),[],h2) ?_ ?_
 ·
  refine⟨MLe.refl _,?_⟩
  refine⟨((Le.p (Le.p (Le.t (Le.q (l:=4*m+11) oM)) (Le.q (l:=m+n+11) oM)) (Le.refl _)).R rb_3),rl_4,rl_5,rfl,?_⟩
  exact⟨by omega,rfl,rfl⟩
 intro x hx
 obtain⟨i,D,G,cs_8,s9_6,cs_10,sA_7,cs_12,ma⟩:=x
 dsimp only at hx
 obtain⟨hmma,hinv⟩:=hx
 refine yS ?_
 obtain⟨rb_9,rl_11,rl_13,ho_14,hinv⟩:=hinv
 obtain⟨hi1,hD,hG⟩:=hinv
 have hDl:D.length≤i:=by rw[hD];exact zLM s ix f i
 have hGl:G.length≤i:=by rw[hG];exact sY _ _ i
 refine go9 ?_
 refine cnd (fun hc34=>?_) fun hc34=>?_
 ·
  refine zAR ?_
  refine xQ 3 1 ?_
  have rl_15:RL rpI ma [] ([]:List Int):=RL.nil
  refine gcL (ι:=Nat×List Int×Value×List Value×Mem) (fun(q,EL,s11_16,cs_17,mb)=>(MLe ma mb∧(RL rpI mb cs_17 EL∧q≤((s.2.1.getD f zA).2.1.getD i []).length∧EL=nwL s ix f i q),[(1,vI ↑f),(2,vix),(3,vP b3 0),(6,vP b6 0),(7,v16),(8,vP b8 0),(9,s9_6),(10,vI ↑i),(11,s11_16),(12,vI ↑q)],[.gs 3 1 s11_16 EL.length cs_17,.gs 32 1 sA_7 G.length cs_12,.gs 32 1 s9_6 D.length cs_10,.var b8 83 cs_8,.var b6 83 cs6,.var b3 50 cs3],mb,((s.2.1.getD f zA).2.1.getD i []).length-q)) (0,[],(.slice none 0 0),[],ma) ?_ ?_
  ·
   refine⟨MLe.refl _,?_⟩
   refine⟨rl_15,?_⟩
   exact⟨by omega,rfl⟩
  intro x hx
  obtain⟨q,EL,s11_16,cs_17,mb⟩:=x
  dsimp only at hx
  obtain⟨hmmb,hinv⟩:=hx
  refine yS ?_
  obtain⟨rl_18,hinv⟩:=hinv
  obtain⟨hq1,hE⟩:=hinv
  have hEl:EL.length=q:=by rw[hE];exact wJ _ _
  have hln2:=hln.2 i oM
  refine go5 ?_
  refine lX (xB tM (Pc.snd (Pc.fst pH)) rb3) fun v39 r39=>?_
  refine go1 ?_
  refine lX (xI zA f underlying47 fR r39) fun v41 r41=>(lX (xF underlying83 sizeOf81 (Pc.snd (Pc.fst pH)) r41) fun v42 r42=>(lX (xA cK r42) fun v43 r43=>?_))
  refine go1 ?_
  refine lX (xI [] i underlying81 fO r43) fun v45 r45=>(lX (xA fO r45) fun v46 r46=>?_)
  refine go4 ?_
  refine cnd (fun hc48=>?_) fun hc48=>?_
  ·
   refine go8 ?_
   refine lX (xB tM (Pc.snd (Pc.fst pH)) rb3) fun v54 r54=>?_
   refine go1 ?_
   refine lX (xI zA f underlying47 fR r54) fun v56 r56=>(lX (xF underlying83 sizeOf81 (Pc.snd (Pc.fst pH)) r56) fun v57 r57=>(lX (xA cK r57) fun v58 r58=>?_))
   refine go1 ?_
   refine lX (xI [] i underlying81 fO r58) fun v60 r60=>(lX (xA fO r60) fun v61 r61=>?_)
   refine go1 ?_
   refine lX (xI (0:Int) q underlying32 ty3 r61) fun v63 r63=>(lX (xA ty3 r63) fun v64 r64=>?_)
   obtain⟨rfl,hl64,hu64⟩:=jW r64
   replace rix:=rix.mono (((hh1.trans hh2).trans hmma).trans hmmb)
   refine zEA (F:=fun v_=>AtP rpI mb v_ (ix.getD ((((s.2.1.getD f zA).2.1.getD i []).getD q 0).toNat) (0:Int))) (lI (0:Int) ((((s.2.1.getD f zA).2.1.getD i []).getD q 0).toNat) underlying32 ty3 rfl rfl rix (by(have:=hcd5 i oM q oM;omega)) (by(have:=hcd5 i oM q oM;omega)) nP) zBI rfl ?_
   intro v65 r65
   refine lX (xA ty3 r65) fun v66 r66=>?_
   obtain⟨rfl,hl66,hu66⟩:=jW r66
   refine zF (zV (ρ:=rpI) (m:=1) (xs:=[(ix.getD ((((s.2.1.getD f zA).2.1.getD i []).getD q 0).toNat) (0:Int))]) (ps':=[(0,_)]) underlying32 gK rfl rfl rfl wF e2z (zI rfl (Pc.arr (Pc.here _) (0:Int) 0 dC) (qF oM oM) zX) (show 1*1≤16777216 from by decide) nP) rfl rfl rfl ?_
   intro v67 q67 hq67
   obtain⟨cs67,rfl,rl67⟩:=hq67
   refine yH (A:=[]) (ρ:=rpI) rl67 ?_
   intro h3 hh3 rs_19
   replace rl_18:=rl_18.mono hh3
   refine xS (A:=[]) (jM (yD (ρ:=rpI) (bytes:=8) underlying32 gK rfl rfl rfl rfl nP rfl rfl rl_18 rs_19 bO bO)) rfl rfl rfl ?_
   intro v68 q68 hq68
   obtain⟨ho68,cs68,rfl,rl68⟩:=hq68
   refine go9 ?_
   refine gqL ((q+1),(EL++[(ix.getD ((((s.2.1.getD f zA).2.1.getD i []).getD q 0).toNat) (0:Int))]),v68,cs68,h3) ?_ ?_
   ·
    refine⟨(hmmb.trans hh3),?_⟩
    refine⟨rl68,?_⟩
    exact⟨by omega,by rw[hE];rfl⟩
   omega
  have eq:q=((s.2.1.getD f zA).2.1.getD i []).length:=by omega
  have hln2:=hln.2 i oM
  refine go8 ?_
  refine yH (A:=[]) (ρ:=rpI) rl_18 ?_
  intro h3 hh3 rs_20
  refine cL (ev1 rfl) call177 (fun w hs=>zKS hs rs_20 oM) fun v70 h4 hh4 r70=>?_
  replace r70:=Rp.Is.cast (y:=(nfL s ix f i)) r70 (by rw[hE,eq];rfl)
  refine go8 ?_
  refine lX (xI [] i underlying115 uT r16) fun v73 r73=>(lX (xA uT r73) fun v74 r74=>(cL (ev1 rfl) call170 (fun w hs=>sV hs r74 (by first|omega|(have:=hcl.2 i;rw[←hfl.2 i] at this;omega)) (by first|omega|(have:=hcl.2 i;rw[←hfl.2 i] at this;omega))) fun v75 h5 hh5 r75=>(cL (ev1 rfl) call17 (fun w hs=>qO hs r75 dC) fun v76 h6 hh6 r76=>?_)))
  obtain rfl:v76=vI (xH (uU ((rH s f).getD i []) 0 1 ((rH s f).getD i []).length)):=r76
  have hsr76:=wH (uU ((rH s f).getD i []) 0 1 ((rH s f).getD i []).length)
  refine go3 ?_
  refine cnd (fun hc77=>?_) fun hc77=>?_
  ·
   refine go3 ?_
   replace rb_9:=rb_9.mono ((((hmmb.trans hh3).trans hh4).trans hh5).trans hh6)
   refine lX (aR (xB cK (Pc.snd (Pc.fst pH)) rb_9)) fun v79 r79=>?_
   subst r79
   refine go1 ?_
   replace r70:=r70.mono (hh5.trans hh6)
   refine zF (zV (ρ:=(rpS rpI)) (m:=1) (xs:=[(nfL s ix f i)]) (ps':=[(0,_)]) underlying81 jT rfl rfl rfl qL e2z (zI rfl (Pc.arr (Pc.here _) [] 0 dC) r70 zX) (show 1*1≤16777216 from by decide) nP) rfl rfl rfl ?_
   intro v81 q81 hq81
   obtain⟨cs81,rfl,rl81⟩:=hq81
   refine yH (A:=[]) (ρ:=(rpS rpI)) rl81 ?_
   intro h7 hh7 rs_21
   replace rl_13:=rl_13.mono (((((hmmb.trans hh3).trans hh4).trans hh5).trans hh6).trans hh7)
   refine xS (A:=[]) (jM (yD (ρ:=(rpS rpI)) (bytes:=24) underlying81 jT rfl rfl rfl rfl nP rfl rfl rl_13 rs_21 bO bO)) rfl rfl rfl ?_
   intro v82 q82 hq82
   obtain⟨ho82,cs82,rfl,rl82⟩:=hq82
   refine go1 ?_
   replace rb_9:=rb_9.mono hh7
   refine zR (A:=[_,_]) (uB sizeOf81 (Pc.snd (Pc.fst pH)) rb_9 (zDD ho82)) fun cs_22 rb_23=>?_
   refine uP ?_
   refine gqL ((i+1),D,(G++[(nfL s ix f i)]),cs_22,s9_6,cs_10,v82,cs82,h7) ?_ ?_
   ·
    refine⟨((((((hmma.trans hmmb).trans hh3).trans hh4).trans hh5).trans hh6).trans hh7),?_⟩
    replace rl_11:=rl_11.mono (((((hmmb.trans hh3).trans hh4).trans hh5).trans hh6).trans hh7)
    refine⟨rb_23,rl_11,rl82,ho82,?_⟩
    exact⟨by omega,by rw[hD];exact(if_pos hc77).symm,by rw[hG];exact y6 (p:=zHS s f) hc77⟩
   omega
  refine go5 ?_
  refine gv (gA mh1 underlying81 rfl) rfl ?_
  refine go5 ?_
  refine vC (ι:=Nat×Mem) (fun(kp,mk)=>MLe h6 mk∧(kp≤D.length∧cW (zVI (nfL s ix f i) D) D.length=cW (zVI (nfL s ix f i) D) kp)) (fun(kp,mk)=>[(1,vI ↑f),(2,vix),(3,vP b3 0),(6,vP b6 0),(7,v16),(8,vP b8 0),(9,s9_6),(10,vI ↑i),(11,v70),(13,vI ↑kp)]) (fun(kp,mk)=>[.gs 32 1 sA_7 G.length cs_12,.gs 32 1 s9_6 D.length cs_10,.var b8 83 cs_8,.var b6 83 cs6,.var b3 50 cs3]) (fun(kp,mk)=>mk) (fun(kp,mk)=>kp) (D.length,h6) ?_ e10 rfl rfl ?_
  ·
   refine⟨MLe.refl _,?_⟩
   exact⟨by omega,rfl⟩
  intro x hx
  obtain⟨kp,mk⟩:=x
  obtain⟨hmmk,hinv⟩:=hx
  refine yS ?_
  obtain⟨hk3,hk4⟩:=hinv
  refine go5 ?_
  refine uO (ι:=Mem) 10 (fun m_=>MLe mk m_) (fun _=>[(97,vB (((0:Int)<(↑kp:Int))∧((pX (nfL s ix f i) (D.getD (kp-1) []))<(0:Int)))),(1,vI ↑f),(2,vix),(3,vP b3 0),(6,vP b6 0),(7,v16),(8,vP b8 0),(9,s9_6),(10,vI ↑i),(11,v70),(13,vI ↑kp)]) (fun _=>[.gs 32 1 sA_7 G.length cs_12,.gs 32 1 s9_6 D.length cs_10,.var b8 83 cs_8,.var b6 83 cs6,.var b3 50 cs3]) (fun m_=>m_) ?_ ?_
  ·
   refine yB ((0:Int)<(↑kp:Int)) (fun hg=>?_) (fun hg=>?_)
   ·
    refine gT hg rfl ?_
    refine go9 ?_
    refine gv ((yY (kp-1) mh1 underlying81 sizeOf32 rfl rfl oM oM nP).cv (show _=zK 1 s9_6 (((kp-1)*1+0)) from congrArg (zK 1 s9_6) (by rfl))) rfl ?_
    refine go1 ?_
    replace rl_11:=rl_11.mono (((((hmmb.trans hh3).trans hh4).trans hh5).trans hh6).trans hmmk)
    refine zEA (F:=fun v_=>(rpS rpI).Is mk v_ (D.getD (kp-1) [])) (wV fO (Pc.arr (Pc.here _) [] (kp-1) oM) rfl nP rfl rl_11 rfl) (tT mh1) rfl ?_
    intro v94 r94
    refine go1 ?_
    replace r70:=r70.mono ((hh5.trans hh6).trans hmmk)
    refine cL (ev2 rfl rfl) call178 (fun w hs=>zBB hs r70 r94) fun v95 h7 hh7 r95=>?_
    obtain rfl:v95=vI (pX (nfL s ix f i) (D.getD (kp-1) [])):=r95
    have hcr95:=dM (nfL s ix f i) (D.getD (kp-1) [])
    refine go4 ?_
    refine zN h7 hh7 ⟨?_,rfl,rfl,rfl,rfl,rfl,rfl,rfl,rfl,rfl,rfl,trivial⟩ rfl rfl
    exact congrArg some (xM hg)
   refine gF hg rfl ?_
   refine vO ?_
   refine zN mk (MLe.refl _) ⟨?_,rfl,rfl,rfl,rfl,rfl,rfl,rfl,rfl,rfl,rfl,trivial⟩ rfl rfl
   exact congrArg some (xN hg)
  intro mg16_2 hmmg16_2
  refine tJ ?_
  refine go2 ?_
  refine cnd (fun hc97=>?_) fun hc97=>?_
  ·
   refine go9 ?_
   refine yQ ((kp-1),mg16_2) ?_ ?_ ⟨rfl,rfl,rfl,rfl,rfl,rfl,rfl,rfl,rfl,?_,trivial⟩ rfl rfl
   ·
    refine⟨(hmmk.trans hmmg16_2),?_⟩
    exact⟨by omega,by rw[hk4];exact zLS oM hc97.2⟩
   ·
    dsimp only
    omega
   · exact congrArg (fun z=>some (vI z)) oM
  refine go8 ?_
  refine zF (zV (ρ:=(rpS rpI)) (m:=1) (xs:=[[]]) (ps':=[(0,_)]) underlying81 jT rfl rfl rfl qL e2z (zI rfl (Pc.arr (Pc.here _) [] 0 dC) (mD _) zX) (show 1*1≤16777216 from by decide) nP) rfl rfl rfl ?_
  intro v101 q101 hq101
  obtain⟨cs101,rfl,rl101⟩:=hq101
  refine yH (A:=[]) (ρ:=(rpS rpI)) rl101 ?_
  intro h7 hh7 rs_24
  replace rl_11:=rl_11.mono (((((((hmmb.trans hh3).trans hh4).trans hh5).trans hh6).trans hmmk).trans hmmg16_2).trans hh7)
  refine xS (A:=[_]) (jM (yD (ρ:=(rpS rpI)) (bytes:=24) underlying81 jT rfl rfl rfl rfl nP rfl rfl rl_11 rs_24 bO bO)) rfl rfl rfl ?_
  intro v102 q102 hq102
  obtain⟨ho102,cs102,rfl,rl102⟩:=hq102
  refine go4 ?_
  refine bS (A:=[_]) (by rw[lAz];exact Nat.succ_pos _) (fun ob cap hsv hsc=>?_)
  refine jI (A:=[_]) 8 [] [(0,.q),(1,.q),(2,.q),(3,.q),(4,.q),(5,.q),(6,.q),(7,.c)] jN nX (by kernel_rfl) nX ?_
  refine go3 ?_
  refine xJ rfl (fun _ _=>qH (kp+1) underlying81 sizeOf32 rfl rfl ⟨_,_,hsv,hsc⟩ oM (by simp only[lAz,lC,lN];omega)) rfl ?_
  refine go2 ?_
  refine xJ rfl (fun _ _=>qH kp underlying81 sizeOf32 rfl rfl ⟨_,_,hsv,hsc⟩ oM (by simp only[lAz,lC,lN];omega)) rfl ?_
  refine w_c rfl (sR (A:=[_]) (fun X=>lD (ρ:=(rpS rpI)) kp hsv hsc underlying81 sizeOf32 rfl rfl (by simp only[lAz,lC,lN];omega) rl102) rfl (wM (by first|(simp;done)|grind)) ?_)
  intro v110 q110 hq110
  obtain⟨cs_25,rfl,rl_26⟩:=hq110
  refine go6 ?_
  refine gv ((yY kp mh1 underlying81 sizeOf32 rfl rfl oM (by rw[kZ (by simp only[lAz,lC,lN];omega)];simp only[lAz,lC,lN];omega) nP).cv (show _=zK 1 v102 ((kp*1+0)) from congrArg (zK 1 v102) (by rfl))) rfl ?_
  replace r70:=r70.mono ((((hh5.trans hh6).trans hmmk).trans hmmg16_2).trans hh7)
  refine gE (A:=[_]) (F:=fun c_=>RL (rpS rpI) h7 c_ ((fT (D++[[]]) kp).set kp (nfL s ix f i))) (rQ sizeOf32 (Pc.arr (Pc.here _) [] kp (by rw[kZ (by simp only[lAz,lC,lN];omega)];simp only[lAz,lC,lN];omega)) rfl nP rfl rfl rl_26 r70 rfl) ?_
  intro cs_27 rl_28
  refine go8 ?_
  refine yQ ((i+1),((fT (D++[[]]) kp).set kp (nfL s ix f i)),G,cs_8,v102,cs_27,sA_7,cs_12,h7) ?_ ?_ e8 rfl rfl
  ·
   refine⟨((((((((hmma.trans hmmb).trans hh3).trans hh4).trans hh5).trans hh6).trans hmmk).trans hmmg16_2).trans hh7),?_⟩
   replace rb_9:=rb_9.mono (((((((hmmb.trans hh3).trans hh4).trans hh5).trans hh6).trans hmmk).trans hmmg16_2).trans hh7)
   replace rl_13:=rl_13.mono (((((((hmmb.trans hh3).trans hh4).trans hh5).trans hh6).trans hmmk).trans hmmg16_2).trans hh7)
   refine⟨rb_9,rl_28,rl_13,ho_14,?_⟩
   exact⟨by omega,by rw[aX oM];have hkk:cW (zVI (nfL s ix f i) D) D.length=kp:=by{rw[hk4];exact zDO (fun e=>hc97 ⟨by omega,e.2⟩)};rw[←hkk,hD];exact(if_neg hc77).symm,by rw[hG];exact y7 (p:=zHS s f) hc77⟩
  dsimp only
  omega
 have ei:i=(s.2.1.getD f zA).2.1.length:=by omega
 refine go8 ?_
 refine lX (aR (xB cK (Pc.snd (Pc.fst pH)) rb_9)) fun v116 r116=>?_
 subst r116
 refine go1 ?_
 refine yH (A:=[_]) (ρ:=(rpS rpI)) rl_11 ?_
 intro h3 hh3 rs_29
 replace rl_13:=rl_13.mono hh3
 refine xS (A:=[]) (jM (yD (ρ:=(rpS rpI)) (bytes:=24) underlying81 jT rfl rfl rfl rfl nP rfl rfl rl_13 rs_29 bO bO)) rfl rfl rfl ?_
 intro v118 q118 hq118
 obtain⟨ho118,cs118,rfl,rl118⟩:=hq118
 refine go1 ?_
 replace rb_9:=rb_9.mono hh3
 refine zR (A:=[_]) (uB sizeOf81 (Pc.snd (Pc.fst pH)) rb_9 (zDD ho118)) fun cs_30 rb_31=>?_
 refine go4 ?_
 refine yH (A:=[]) (ρ:=(rpS rpI)) rl118 ?_
 intro h4 hh4 rs_32
 replace rb_31:=rb_31.mono hh4
 have rb_33:(tFc (4*m+11) (m+n+11)).R h4 cs_30 ((scZ (s.2.1.getD f zA).1,(sA_7,(s.2.1.getD f zA).2.2)).1,((G++D),((scZ (s.2.1.getD f zA).1,(sA_7,(s.2.1.getD f zA).2.2)).2).2)):=zJI rb_31 rs_32
 refine lX (xB fR pH rb_33) fun v120 r120=>?_
 replace rb6:=rb6.mono ((((hh1.trans hh2).trans hmma).trans hh3).trans hh4)
 have rw_34:=(Le.p (Le.p (Le.t (Le.q (l:=4*m+11) oM)) (Le.q (l:=m+n+11) oM)) (Le.refl _)).R rb6
 refine zR (A:=[_]) (uB sizeOf83 pH rw_34 r120) fun cs_35 rb_36=>?_
 refine go3 ?_
 refine wL (jZ (t:=6) fR mh1 rfl rb_36) ?_
 intro w_37 hvw_37 rr_38
 refine yE (fun E S=>zP rfl hvw_37 E S) ?_
 exact(Rp.Is.cast rr_38 (by rw[hD,hG,ei];rfl))
end Go.Proofs.YtboaboflnckgoaaGreat
namespace Go.Proofs.YtboaboflnckgoaaGreat
open Bk Go Tryz
set_option linter.unusedVariables false
set_option linter.unusedSimpArgs false
set_option maxRecDepth 10000
set_option maxHeartbeats 1000000
attribute [local irreducible] GL GC GQ W OpV
theorem zOC{w0:World}{h0:Mem}(hs:MLe h0 (mem w0)){k m n j:Nat}{vs:Value}{s:Sq}(rs:(tSd k m n j).Is h0 vs s)(hcd0:s.2.1.length≤100000):
    Calls Tryz.prog 154 #[vs] w0 (Ret w0 h0 (fun h r=>(rpS tE5).Is h r (szZ s))):=by
 refine cb1 52 vs func154 hs ?_
 refine go2 ?_
 refine nB rs fun b1 cs1 rb1=>?_
 refine j5 ?_
 refine xQ 200 5 ?_
 have rl_1:RL tE5 h0 [] ([]:List (Int×(Int×(Int×(Int×Int))))):=RL.nil
 refine gcL (ι:=Nat×List (Int×Int×Int×Int×Int)×Value×List Value×Mem) (fun(f,D,s3_2,cs_3,mf)=>(MLe h0 mf∧(RL tE5 mf cs_3 D∧f≤s.2.1.length∧D=zXH s f),[(1,vP b1 0),(3,s3_2),(4,vI ↑f)],[.gs 200 5 s3_2 D.length cs_3,.var b1 50 cs1],mf,s.2.1.length-f)) (0,[],(.slice none 0 0),[],h0) ?_ ?_
 ·
  refine⟨MLe.refl _,?_⟩
  refine⟨rl_1,?_⟩
  exact⟨by omega,rfl⟩
 intro x hx
 obtain⟨f,D,s3_2,cs_3,mf⟩:=x
 dsimp only at hx
 obtain⟨hmmf,hinv⟩:=hx
 refine yS ?_
 obtain⟨rl_4,hinv⟩:=hinv
 obtain⟨hf1,hD⟩:=hinv
 have hDl:D.length≤f:=by rw[hD];exact sY _ _ f
 refine go5 ?_
 refine lX (xB tM (Pc.snd (Pc.fst pH)) rb1) fun v7 r7=>?_
 refine go4 ?_
 refine cnd (fun hc9=>?_) fun hc9=>?_
 ·
  refine go7 ?_
  refine lX (xB tM (Pc.snd (Pc.fst pH)) rb1) fun v13 r13=>?_
  refine go1 ?_
  refine lX (xI zA f underlying47 fR r13) fun v15 r15=>(lX (xF underlying83 sizeOf81 (Pc.snd (Pc.fst pH)) r15) fun v16 r16=>(lX (xA cK r16) fun v17 r17=>(cL (ev1 rfl) call186 (fun w hs=>oS hs r17) fun v18 h1 hh1 r18=>?_)))
  obtain rfl:v18=vB (vfP (((s.2.1.getD f zA).2).1)):=r18
  refine go1 ?_
  refine uO (ι:=Mem) 6 (fun m_=>MLe h1 m_) (fun _=>[(25,vB ((¬(vfP (((s.2.1.getD f zA).2).1)))∨(¬(nmP s (↑f:Int).toNat)))),(1,vP b1 0),(3,s3_2),(4,vI ↑f)]) (fun _=>[.gs 200 5 s3_2 D.length cs_3,.var b1 50 cs1]) (fun m_=>m_) ?_ ?_
  ·
   refine yB (¬(vfP (((s.2.1.getD f zA).2).1))) (fun hg=>?_) (fun hg=>?_)
   ·
    refine gT hg rfl ?_
    refine go6 ?_
    refine zN h1 (MLe.refl _) ⟨?_,rfl,rfl,rfl,trivial⟩ rfl rfl
    exact congrArg some (uA hg)
   refine gF hg rfl ?_
   refine go1 ?_
   refine lX (xB kF pH rb1) fun v21 r21=>?_
   refine go3 ?_
   refine cL (ev2 rfl rfl) call187 (fun w hs=>zEY hs r21 oM oM (by first|omega|exact Nat.le_trans (Classical.not_not.1 hg).1.2 dC|exact fun l hl=>Nat.le_trans ((Classical.not_not.1 hg).2 l hl).1.2 dC) (by first|omega|exact Nat.le_trans (Classical.not_not.1 hg).1.2 dC|exact fun l hl=>Nat.le_trans ((Classical.not_not.1 hg).2 l hl).1.2 dC) (by first|omega|exact Nat.le_trans (Classical.not_not.1 hg).1.2 dC|exact fun l hl=>Nat.le_trans ((Classical.not_not.1 hg).2 l hl).1.2 dC) (by first|omega|exact Nat.le_trans (Classical.not_not.1 hg).1.2 dC|exact fun l hl=>Nat.le_trans ((Classical.not_not.1 hg).2 l hl).1.2 dC)) fun v23 h2 hh2 r23=>?_
   obtain rfl:v23=vB (nmP s (↑f:Int).toNat):=r23
   refine go4 ?_
   refine zN h2 hh2 ⟨?_,rfl,rfl,rfl,trivial⟩ rfl rfl
   exact congrArg some (uC hg)
  intro mg5_8 hmmg5_8
  refine tJ ?_
  refine go2 ?_
  refine cnd (fun hc25=>?_) fun hc25=>?_
  ·
   have hsz:szP s f:=hc25
   refine go3 ?_
   refine cL (vs:=[vI (1),_,vI (-1),vI (-1)]) e4z call188 (fun w hs=>iZ hs dC dC oM oM dC dC dC dC) fun v28 h2 hh2 r28=>(zF (zV (ρ:=tE5) (m:=1) (xs:=[dg (1:Int) (↑f:Int) (-1:Int) (-1:Int)]) (ps':=[(0,_)]) underlying137 qV rfl rfl rfl (yJ wF (yJ wF (yJ wF (yJ wF wF)))) e2z (zI rfl (Pc.arr (Pc.here _) e50 0 dC) r28 zX) (show 1*5≤16777216 from by decide) nP) rfl rfl rfl ?_)
   intro v29 q29 hq29
   obtain⟨cs29,rfl,rl29⟩:=hq29
   refine yH (A:=[]) (ρ:=tE5) rl29 ?_
   intro h3 hh3 rs_5
   replace rl_4:=rl_4.mono (((hh1.trans hmmg5_8).trans hh2).trans hh3)
   refine xS (A:=[]) (yD (ρ:=tE5) (bytes:=40) underlying137 qV rfl rfl rfl rfl nP rfl rfl rl_4 rs_5 bO bO) rfl rfl rfl ?_
   intro v30 q30 hq30
   obtain⟨cs30,rfl,rl30⟩:=hq30
   refine go9 ?_
   refine gqL ((f+1),(D++[dg (1:Int) (↑f:Int) (-1:Int) (-1:Int)]),v30,cs30,h3) ?_ ?_
   ·
    refine⟨((((hmmf.trans hh1).trans hmmg5_8).trans hh2).trans hh3),?_⟩
    refine⟨rl30,?_⟩
    exact⟨by omega,by rw[hD];exact y6 hsz⟩
   omega
  have hsz:¬szP s f:=hc25
  refine go8 ?_
  refine gqL ((f+1),D,s3_2,cs_3,mg5_8) ?_ ?_
  ·
   refine⟨((hmmf.trans hh1).trans hmmg5_8),?_⟩
   replace rl_4:=rl_4.mono (hh1.trans hmmg5_8)
   refine⟨rl_4,?_⟩
   exact⟨by omega,by rw[hD];exact y7 hsz⟩
  omega
 have ef:f=s.2.1.length:=by omega
 refine go9 ?_
 refine lX (xB uT (Pc.fst pH) rb1) fun v32 r32=>?_
 refine go2 ?_
 refine gU 6 40 (vB (((512:Int)<(↑(s.1).length:Int))∨((256:Int)<(↑(s.2.1).length:Int)))) ?_ ?_
 ·
  refine yB ((512:Int)<(↑(s.1).length:Int)) (fun hg=>?_) (fun hg=>?_)
  ·
   refine gT hg rfl ?_
   refine go6 ?_
   refine gqU ?_
   exact congrArg some (uA hg)
  refine gF hg rfl ?_
  refine go3 ?_
  refine lX (xB tM (Pc.snd (Pc.fst pH)) rb1) fun v37 r37=>?_
  refine go6 ?_
  refine gqU ?_
  exact congrArg some (uC hg)
 refine gU 6 46 (vB ((((512:Int)<(↑(s.1).length:Int))∨((256:Int)<(↑(s.2.1).length:Int)))∨((1024:Int)<(↑(s.2.2).length:Int)))) ?_ ?_
 ·
  refine yB (((512:Int)<(↑(s.1).length:Int))∨((256:Int)<(↑(s.2.1).length:Int))) (fun hg=>?_) (fun hg=>?_)
  ·
   refine gT hg rfl ?_
   refine go6 ?_
   refine gqU ?_
   exact congrArg some (uA hg)
  refine gF hg rfl ?_
  refine go3 ?_
  refine lX (xB yAD (Pc.snd (Pc.snd pH)) rb1) fun v43 r43=>?_
  refine go6 ?_
  refine gqU ?_
  exact congrArg some (uC hg)
 refine go2 ?_
 refine cnd (fun hc46=>?_) fun hc46=>?_
 ·
  have hbg:zO8 s:=by unfold zO8;omega
  refine go2 ?_
  refine cL (vs:=[vI (2),vI (-1),vI (-1),vI (-1)]) e4z call188 (fun w hs=>iZ hs dC dC dC dC dC dC dC dC) fun v48 h1 hh1 r48=>(zF (zV (ρ:=tE5) (m:=1) (xs:=[dg (2:Int) (-1:Int) (-1:Int) (-1:Int)]) (ps':=[(0,_)]) underlying137 qV rfl rfl rfl (yJ wF (yJ wF (yJ wF (yJ wF wF)))) e2z (zI rfl (Pc.arr (Pc.here _) e50 0 dC) r48 zX) (show 1*5≤16777216 from by decide) nP) rfl rfl rfl ?_)
  intro v49 q49 hq49
  obtain⟨cs49,rfl,rl49⟩:=hq49
  refine yH (A:=[]) (ρ:=tE5) rl49 ?_
  intro h2 hh2 rs_6
  replace rl_4:=rl_4.mono (hh1.trans hh2)
  refine xS (A:=[]) (yD (ρ:=tE5) (bytes:=40) underlying137 qV rfl rfl rfl rfl nP rfl rfl rl_4 rs_6 bO bO) rfl rfl rfl ?_
  intro v50 q50 hq50
  obtain⟨cs50,rfl,rl50⟩:=hq50
  refine vO ?_
  refine wW (A:=[]) (ρ:=tE5) rl50 ?_
  intro h3 hh3 rs_7
  refine zD rfl rfl ?_
  exact(Rp.Is.cast rs_7 (by rw[hD,ef];exact(if_pos hbg).symm))
 have hbg:¬zO8 s:=by unfold zO8;omega
 refine go9 ?_
 refine wW (A:=[]) (ρ:=tE5) rl_4 ?_
 intro h1 hh1 rs_8
 refine zD rfl rfl ?_
 exact(Rp.Is.cast rs_8 (by rw[hD,ef];exact(if_neg hbg).symm))
theorem zOA{w0:World}{h0:Mem}(hs:MLe h0 (mem w0)){k m n j:Nat}{vs:Value}{s:Sq}(rs:(tSd k m n j).Is h0 vs s)(hcd0:s.1.length≤100000)(hcd1:k≤100000000):
    Calls Tryz.prog 155 #[vs] w0 (Ret w0 h0 (fun h r=>(rpS tE5).Is h r (zNI s s.1.length))):=by
 refine cb1 35 vs func155 hs ?_
 refine go2 ?_
 refine nB rs fun b1 cs1 rb1=>?_
 refine j5 ?_
 refine xQ 200 5 ?_
 have rl_9:RL tE5 h0 [] ([]:List (Int×(Int×(Int×(Int×Int))))):=RL.nil
 refine gcL (ι:=Nat×List (Int×Int×Int×Int×Int)×Value×List Value×Mem) (fun(f,D,s3_10,cs_11,mf)=>(MLe h0 mf∧(RL tE5 mf cs_11 D∧f≤s.1.length∧D=zNI s f),[(1,vP b1 0),(3,s3_10),(4,vI ↑f)],[.gs 200 5 s3_10 D.length cs_11,.var b1 50 cs1],mf,s.1.length-f)) (0,[],(.slice none 0 0),[],h0) ?_ ?_
 ·
  refine⟨MLe.refl _,?_⟩
  refine⟨rl_9,?_⟩
  exact⟨by omega,rfl⟩
 intro x hx
 obtain⟨f,D,s3_10,cs_11,mf⟩:=x
 dsimp only at hx
 obtain⟨hmmf,hinv⟩:=hx
 refine yS ?_
 obtain⟨rl_12,hinv⟩:=hinv
 obtain⟨hf1,hD⟩:=hinv
 have hDl:D.length≤f:=by rw[hD];exact sY _ _ f
 refine go5 ?_
 refine lX (xB uT (Pc.fst pH) rb1) fun v8 r8=>?_
 refine go4 ?_
 refine cnd (fun hc10=>?_) fun hc10=>?_
 ·
  refine vO ?_
  refine gcL (ι:=Nat×Mem) (fun(q,mb)=>(MLe mf mb∧(q≤f∧∀u,u<q→¬gp s.1 f=gp s.1 u),[(1,vP b1 0),(3,s3_10),(4,vI ↑f),(5,vI ↑q)],[.gs 200 5 s3_10 D.length cs_11,.var b1 50 cs1],mb,f-q)) (0,mf) ?_ ?_
  ·
   refine⟨MLe.refl _,?_⟩
   exact⟨by omega,fun u h=>by omega⟩
  intro x hx
  obtain⟨q,mb⟩:=x
  dsimp only at hx
  obtain⟨hmmb,hinv⟩:=hx
  refine yS ?_
  obtain⟨hq1,hq2⟩:=hinv
  refine go8 ?_
  refine cnd (fun hc15=>?_) fun hc15=>?_
  ·
   refine go5 ?_
   refine gD 11 (qq 0 10 [(10,.c)]) (by kernel_rfl) ?_
   refine go1 ?_
   refine wX rfl (xB uT (Pc.fst pH) rb1) fun v19 r19=>?_
   refine go1 ?_
   refine wX rfl (xI zT f underlying46 zS r19) fun v21 r21=>(wX rfl (xA zS r21) fun v22 r22=>?_)
   refine go1 ?_
   refine wX rfl (xB uT (Pc.fst pH) rb1) fun v24 r24=>?_
   refine go1 ?_
   refine wX rfl (xI zT q underlying46 zS r24) fun v26 r26=>(wX rfl (xA zS r26) fun v27 r27=>?_)
   refine w_c rfl (sC (ev2 rfl rfl) call27 (fun w hs=>zAH hs r22 r27 oM) fun v28 h1 hh1 r28=>?_)
   obtain rfl:v28=vB ((s.1.getD f zT)=(s.1.getD q zT)):=r28
   refine go2 ?_
   refine cnd (fun hc28=>?_) fun hc28=>?_
   ·
    have htw:twP s f:=⟨q,by omega,hc28⟩
    refine go4 ?_
    refine cL (vs:=[vI (37),vI (-1),vI (-1),_]) e4z call188 (fun w hs=>iZ hs dC dC dC dC dC dC oM oM) fun v31 h2 hh2 r31=>(zF (zV (ρ:=tE5) (m:=1) (xs:=[dg (37:Int) (-1:Int) (-1:Int) (↑f:Int)]) (ps':=[(0,_)]) underlying137 qV rfl rfl rfl (yJ wF (yJ wF (yJ wF (yJ wF wF)))) e2z (zI rfl (Pc.arr (Pc.here _) e50 0 dC) r31 zX) (show 1*5≤16777216 from by decide) nP) rfl rfl rfl ?_)
    intro v32 q32 hq32
    obtain⟨cs32,rfl,rl32⟩:=hq32
    refine yH (A:=[]) (ρ:=tE5) rl32 ?_
    intro h3 hh3 rs_13
    replace rl_12:=rl_12.mono (((hmmb.trans hh1).trans hh2).trans hh3)
    refine xS (A:=[]) (yD (ρ:=tE5) (bytes:=40) underlying137 qV rfl rfl rfl rfl nP rfl rfl rl_12 rs_13 bO bO) rfl rfl rfl ?_
    intro v33 q33 hq33
    obtain⟨cs33,rfl,rl33⟩:=hq33
    refine j5 ?_
    refine gqL ((f+1),(D++[dg (37:Int) (-1:Int) (-1:Int) (↑f:Int)]),v33,cs33,h3) ?_ ?_
    ·
     refine⟨((((hmmf.trans hmmb).trans hh1).trans hh2).trans hh3),?_⟩
     refine⟨rl33,?_⟩
     exact⟨by omega,by rw[hD];exact y6 htw⟩
    omega
   refine go8 ?_
   refine gqL ((q+1),h1) ?_ ?_
   ·
    refine⟨(hmmb.trans hh1),?_⟩
    exact⟨by omega,qN (Q:=fun u=>¬gp s.1 f=gp s.1 u) hq2 hc28⟩
   omega
  have htw:¬twP s f:=fun⟨u,h1,h2⟩=>hq2 u oM h2
  refine uP ?_
  refine gqL ((f+1),D,s3_10,cs_11,mb) ?_ ?_
  ·
   refine⟨(hmmf.trans hmmb),?_⟩
   replace rl_12:=rl_12.mono hmmb
   refine⟨rl_12,?_⟩
   exact⟨by omega,by rw[hD];exact y7 htw⟩
  omega
 have ef:f=s.1.length:=by omega
 refine uN ?_
 refine wW (A:=[]) (ρ:=tE5) rl_12 ?_
 intro h1 hh1 rs_14
 refine zD rfl rfl ?_
 exact(Rp.Is.cast rs_14 (by rw[hD,ef]))
theorem zKT{w0:World}{h0:Mem}(hs:MLe h0 (mem w0)){k m n j:Nat}{vs:Value}{s:Sq}(rs:(tSd k m n j).Is h0 vs s)(hcd0:k≤1000)(hcd1:m≤100000)(hcd2:n≤100000)(hcd3:s.1.length≤100000)(hcd4:∀f,f<s.2.1.length→(s.2.1.getD f zA).2.1.length≤10000∧∀l,l<(s.2.1.getD f zA).2.1.length→((s.2.1.getD f zA).2.1.getD l []).length≤10000)(hcd5:s.2.1.length≤1000)(hcd6:s.1.length≤100000)(hcd7:∀f,f<s.2.1.length→(s.2.1.getD f zA).2.1.length≤16∧∀l,l<(s.2.1.getD f zA).2.1.length→((s.2.1.getD f zA).2.1.getD l []).length≤64):
    Calls Tryz.prog 156 #[vs] w0 (Ret w0 h0 (fun h r=>(rpS tE5).Is h r (plZ s))):=by
 refine cb1 74 vs func156 hs ?_
 refine go2 ?_
 refine nB rs fun b1 cs1 rb1=>?_
 refine zAR ?_
 refine xQ 200 5 ?_
 have rl_15:RL tE5 h0 [] ([]:List (Int×(Int×(Int×(Int×Int))))):=RL.nil
 refine xQ 200 5 ?_
 have rl_16:RL tE5 h0 [] ([]:List (Int×(Int×(Int×(Int×Int))))):=RL.nil
 refine gcL (ι:=Nat×List (Int×Int×Int×Int×Int)×List (Int×Int×Int×Int×Int)×Value×List Value×Value×List Value×Mem) (fun(f,D,G,s3_17,cs_19,s4_18,cs_21,ma)=>(MLe h0 ma∧(RL tE5 ma cs_19 D∧RL tE5 ma cs_21 G∧f≤s.2.1.length∧D=zPB s f∧G=zKM s f),[(1,vP b1 0),(3,s3_17),(4,s4_18),(5,vI ↑f)],[.gs 200 5 s4_18 G.length cs_21,.gs 200 5 s3_17 D.length cs_19,.var b1 50 cs1],ma,s.2.1.length-f)) (0,[],[],(.slice none 0 0),[],(.slice none 0 0),[],h0) ?_ ?_
 ·
  refine⟨MLe.refl _,?_⟩
  refine⟨rl_15,rl_16,?_⟩
  exact⟨by omega,rfl,rfl⟩
 intro x hx
 obtain⟨f,D,G,s3_17,cs_19,s4_18,cs_21,ma⟩:=x
 dsimp only at hx
 obtain⟨hmma,hinv⟩:=hx
 refine yS ?_
 obtain⟨rl_20,rl_22,hinv⟩:=hinv
 obtain⟨hf1,hD,hG⟩:=hinv
 have hDl:D.length≤f:=by rw[hD];exact sY _ _ f
 have hGl:G.length≤1024*f:=by rw[hG];exact zQ8 hcd7 f oM
 have hcl:=nH (s:=s) (f:=↑f) hcd7
 refine go5 ?_
 refine lX (xB tM (Pc.snd (Pc.fst pH)) rb1) fun v11 r11=>?_
 refine go4 ?_
 refine cnd (fun hc13=>?_) fun hc13=>?_
 ·
  refine go4 ?_
  refine qK (ι:=List (Int×Int×Int×Int×Int)×Value×List Value×Mem) (fun(ZR,s3_23,cs_24,mz)=>MLe ma mz∧(RL tE5 mz cs_24 ZR∧ZR=zPB s (f+1))) (fun(ZR,s3_23,cs_24,mz)=>[(1,vP b1 0),(3,s3_23),(4,s4_18),(5,vI ↑f)]) (fun(ZR,s3_23,cs_24,mz)=>[.gs 200 5 s4_18 G.length cs_21,.gs 200 5 s3_23 ZR.length cs_24,.var b1 50 cs1]) (fun(ZR,s3_23,cs_24,mz)=>mz) ?_ ?_
  ·
   refine go3 ?_
   refine lX (xB tM (Pc.snd (Pc.fst pH)) rb1) fun v17 r17=>?_
   refine go1 ?_
   refine lX (xI zA f underlying47 fR r17) fun v19 r19=>(lX (xF underlying83 sizeOf80 (Pc.fst pH) r19) fun v20 r20=>(lX (xF underlying80 sizeOf53 (Pc.fst pH) r20) fun v21 r21=>(lX (xA zS r21) fun v22 r22=>(cL (ev1 rfl) call42 (fun w hs=>zN8 hs r22 oM) fun v23 h1 hh1 r23=>?_))))
   obtain rfl:v23=vB ((((s.2.1.getD f zA).1).1)=zT):=r23
   refine go2 ?_
   refine cnd (fun hc23=>?_) fun hc23=>?_
   ·
    refine go3 ?_
    refine cL (vs:=[vI (9),_,vI (-1),vI (-1)]) e4z call188 (fun w hs=>iZ hs dC dC oM oM dC dC dC dC) fun v26 h2 hh2 r26=>(zF (zV (ρ:=tE5) (m:=1) (xs:=[dg (9:Int) (↑f:Int) (-1:Int) (-1:Int)]) (ps':=[(0,_)]) underlying137 qV rfl rfl rfl (yJ wF (yJ wF (yJ wF (yJ wF wF)))) e2z (zI rfl (Pc.arr (Pc.here _) e50 0 dC) r26 zX) (show 1*5≤16777216 from by decide) nP) rfl rfl rfl ?_)
    intro v27 q27 hq27
    obtain⟨cs27,rfl,rl27⟩:=hq27
    refine yH (A:=[]) (ρ:=tE5) rl27 ?_
    intro h3 hh3 rs_26
    replace rl_20:=rl_20.mono ((hh1.trans hh2).trans hh3)
    refine xS (A:=[_]) (yD (ρ:=tE5) (bytes:=40) underlying137 qV rfl rfl rfl rfl nP rfl rfl rl_20 rs_26 bO bO) rfl rfl rfl ?_
    intro v28 q28 hq28
    obtain⟨cs28,rfl,rl28⟩:=hq28
    refine go2 ?_
    refine zN ((D++[dg (9:Int) (↑f:Int) (-1:Int) (-1:Int)]),v28,cs28,h3) ?_ e4z rfl rfl
    refine⟨((hh1.trans hh2).trans hh3),?_⟩
    refine⟨rl28,?_⟩
    exact(by rw[hD];exact y6 hc23)
   refine go1 ?_
   refine zN (D,s3_17,cs_19,h1) ?_ e4z rfl rfl
   refine⟨hh1,?_⟩
   replace rl_20:=rl_20.mono hh1
   refine⟨rl_20,?_⟩
   exact(by rw[hD];exact y7 hc23)
  intro x hx
  obtain⟨ZR,s3_23,cs_24,mz⟩:=x
  obtain⟨hmmz,hZ⟩:=hx
  refine yS ?_
  obtain⟨rl_25,hZ⟩:=hZ
  refine go2 ?_
  refine lX (xB kF pH rb1) fun v29 r29=>?_
  refine go1 ?_
  refine cL (ev2 rfl rfl) call189 (fun w hs=>zBA hs r29 oM oM (by first|omega|exact hcd4) (by first|omega|exact hcd4)) fun v31 h1 hh1 r31=>?_
  refine go9 ?_
  refine gcL (ι:=Nat×List (Int×Int×Int×Int×Int)×Value×List Value×Mem) (fun(l,G1,s4_27,cs_28,mb)=>(MLe h1 mb∧(RL tE5 mb cs_28 G1∧l≤(fP s ↑f).length∧G1=zKM s f++ofL s f l),[(1,vP b1 0),(3,s3_23),(4,s4_27),(5,vI ↑f),(6,v31),(7,vI ↑l)],[.gs 200 5 s4_27 G1.length cs_28,.gs 200 5 s3_23 ZR.length cs_24,.var b1 50 cs1],mb,(fP s ↑f).length-l)) (0,G,s4_18,cs_21,h1) ?_ ?_
  ·
   refine⟨MLe.refl _,?_⟩
   replace rl_22:=rl_22.mono (hmmz.trans hh1)
   refine⟨rl_22,?_⟩
   exact⟨by omega,by rw[hG];exact(List.append_nil _).symm⟩
  intro x hx
  obtain⟨l,G1,s4_27,cs_28,mb⟩:=x
  dsimp only at hx
  obtain⟨hmmb,hinv⟩:=hx
  refine yS ?_
  obtain⟨rl_29,hinv⟩:=hinv
  obtain⟨hl1,hG1⟩:=hinv
  have hol2:=zCP (s:=s) hcd7 f l
  have hG1l:G1.length≤1024*f+1024:=by rw[hG1,lAz,←hG];have:=hcl.1;omega
  refine go9 ?_
  refine cnd (fun hc35=>?_) fun hc35=>?_
  ·
   refine vO ?_
   refine gcL (ι:=Nat×List (Int×Int×Int×Int×Int)×Value×List Value×Mem) (fun(i,G2,s4_30,cs_31,mc)=>(MLe mb mc∧(RL tE5 mc cs_31 G2∧i≤((fP s ↑f).getD l []).length∧G2=zKM s f++ofL s f l++ofX s f l i),[(1,vP b1 0),(3,s3_23),(4,s4_30),(5,vI ↑f),(6,v31),(7,vI ↑l),(8,vI ↑i)],[.gs 200 5 s4_30 G2.length cs_31,.gs 200 5 s3_23 ZR.length cs_24,.var b1 50 cs1],mc,((fP s ↑f).getD l []).length-i)) (0,G1,s4_27,cs_28,mb) ?_ ?_
   ·
    refine⟨MLe.refl _,?_⟩
    refine⟨rl_29,?_⟩
    exact⟨by omega,by rw[hG1];exact(List.append_nil _).symm⟩
   intro x hx
   obtain⟨i,G2,s4_30,cs_31,mc⟩:=x
   dsimp only at hx
   obtain⟨hmmc,hinv⟩:=hx
   refine yS ?_
   obtain⟨rl_32,hinv⟩:=hinv
   obtain⟨hi1,hG2⟩:=hinv
   have hcl2:=hcl.2 l
   have hol3:(ofX s f l i).length≤i:=sY _ _ i
   have hG2l:G2.length≤1024*f+2048:=by rw[hG2,lAz,←hG1];omega
   refine go6 ?_
   refine lX (xI [] l underlying115 uT r31) fun v41 r41=>(lX (xA uT r41) fun v42 r42=>?_)
   refine go4 ?_
   refine cnd (fun hc44=>?_) fun hc44=>?_
   ·
    refine go5 ?_
    refine gD 15 (qq 0 13 [(13,.c),(14,.q)]) (vG [0,1,0,6,8,16,0,0,192,256,0,1536,2048,4128,8192] (frz 32767 [0,1,0,6,8,16,0,0,192,256,0,1536,2048,4128,8192]) (by kernel_rfl)) ?_
    refine go1 ?_
    refine wX rfl (xB tM (Pc.snd (Pc.fst pH)) rb1) fun v48 r48=>?_
    refine go1 ?_
    refine wX rfl (xI zA f underlying47 fR r48) fun v50 r50=>(wX rfl (xF underlying83 sizeOf80 (Pc.fst pH) r50) fun v51 r51=>(wX rfl (xA zG4 r51) fun v52 r52=>?_))
    refine go2 ?_
    refine wX rfl (xI [] l underlying115 uT r31) fun v55 r55=>(wX rfl (xA uT r55) fun v56 r56=>?_)
    refine go1 ?_
    refine wX rfl (xI zT i underlying46 zS r56) fun v58 r58=>(wX rfl (xA zS r58) fun v59 r59=>?_)
    refine w_c rfl (sC (ev2 rfl rfl) call153 (fun w hs=>zN9 hs r52 r59 oM oM oM) fun v60 h2 hh2 r60=>?_)
    obtain rfl:v60=vI (xH (jG ((s.2.1.getD f zA).1).1 (((fP s (↑f:Int)).getD l []).getD i zT)-((s.2.1.getD f zA).1).2)):=r60
    have hsd60:=wH (jG ((s.2.1.getD f zA).1).1 (((fP s (↑f:Int)).getD l []).getD i zT)-((s.2.1.getD f zA).1).2)
    refine go3 ?_
    refine cnd (fun hc61=>?_) fun hc61=>?_
    ·
     refine go5 ?_
     refine cL (vs:=[vI (31),_,_,_]) e4z call188 (fun w hs=>iZ hs dC dC oM oM oM oM oM oM) fun v66 h3 hh3 r66=>(zF (zV (ρ:=tE5) (m:=1) (xs:=[dg (31:Int) (↑f:Int) (↑l:Int) (↑i:Int)]) (ps':=[(0,_)]) underlying137 qV rfl rfl rfl (yJ wF (yJ wF (yJ wF (yJ wF wF)))) e2z (zI rfl (Pc.arr (Pc.here _) e50 0 dC) r66 zX) (show 1*5≤16777216 from by decide) nP) rfl rfl rfl ?_)
     intro v67 q67 hq67
     obtain⟨cs67,rfl,rl67⟩:=hq67
     refine yH (A:=[]) (ρ:=tE5) rl67 ?_
     intro h4 hh4 rs_33
     replace rl_32:=rl_32.mono ((hh2.trans hh3).trans hh4)
     refine xS (A:=[]) (yD (ρ:=tE5) (bytes:=40) underlying137 qV rfl rfl rfl rfl nP rfl rfl rl_32 rs_33 bO bO) rfl rfl rfl ?_
     intro v68 q68 hq68
     obtain⟨cs68,rfl,rl68⟩:=hq68
     refine go9 ?_
     refine gqL ((i+1),(G2++[dg (31:Int) (↑f:Int) (↑l:Int) (↑i:Int)]),v68,cs68,h4) ?_ ?_
     ·
      refine⟨(((hmmc.trans hh2).trans hh3).trans hh4),?_⟩
      refine⟨rl68,?_⟩
      exact⟨by omega,by rw[hG2,List.append_assoc,show ofX s f l i++_=_ from y6 (p:=ofP s f l) hc61];rfl⟩
     omega
    refine go8 ?_
    refine gqL ((i+1),G2,s4_30,cs_31,h2) ?_ ?_
    ·
     refine⟨(hmmc.trans hh2),?_⟩
     replace rl_32:=rl_32.mono hh2
     refine⟨rl_32,?_⟩
     exact⟨by omega,by rw[hG2,show ofX s f l i=_ from y7 (p:=ofP s f l) hc61];rfl⟩
    omega
   have ei:i=((fP s ↑f).getD l []).length:=by omega
   refine uP ?_
   refine gqL ((l+1),G2,s4_30,cs_31,mc) ?_ ?_
   ·
    refine⟨(hmmb.trans hmmc),?_⟩
    refine⟨rl_32,?_⟩
    exact⟨by omega,by rw[hG2,ei,List.append_assoc];rfl⟩
   omega
  have el:l=(fP s ↑f).length:=by omega
  refine uP ?_
  refine gqL ((f+1),ZR,G1,s3_23,cs_24,s4_27,cs_28,mb) ?_ ?_
  ·
   refine⟨(((hmma.trans hmmz).trans hh1).trans hmmb),?_⟩
   replace rl_25:=rl_25.mono (hh1.trans hmmb)
   refine⟨rl_25,rl_29,?_⟩
   exact⟨by omega,hZ,by rw[hG1,el];rfl⟩
  omega
 have ef:f=s.2.1.length:=by omega
 refine go9 ?_
 refine gv (gA mh1 underlying137 rfl) rfl ?_
 refine go3 ?_
 refine cnd (fun hc71=>?_) fun hc71=>?_
 ·
  refine go8 ?_
  refine wW (A:=[_]) (ρ:=tE5) rl_20 ?_
  intro h1 hh1 rs_34
  refine zD rfl rfl ?_
  exact(Rp.Is.cast rs_34 (by rw[hD,ef];exact(if_pos (by rw[←ef,←hD];omega)).symm))
 refine go9 ?_
 refine wW (A:=[]) (ρ:=tE5) rl_22 ?_
 intro h1 hh1 rs_35
 refine zD rfl rfl ?_
 exact(Rp.Is.cast rs_35 (by rw[hG,ef];exact(if_neg (by rw[←ef,←hD];omega)).symm))
theorem zEX{w0:World}{h0:Mem}(hs:MLe h0 (mem w0)){k:Nat}{vL:Value}{L:(List (List Tq))}(rL:(tLL k).Is h0 vL L)(hcd0:k≤100000)(hcd1:∀l,l<L.length→(L.getD l []).length≤1000)(hcd2:L.length≤100000):
    Calls Tryz.prog 124 #[vL] w0 (Ret w0 h0 (fun _ r=>r=vI (ouZ L))):=by
 refine cb1 21 vL func124 hs ?_
 refine dG ?_
 refine vC (ι:=Nat×Mem) (fun(m,ma)=>MLe h0 ma∧(m≤L.length)) (fun(m,ma)=>[(0,vL),(3,vI (zBG L m)),(4,vI ↑m)]) (fun(m,ma)=>[]) (fun(m,ma)=>ma) (fun(m,ma)=>L.length-m) (0,h0) ?_ e3z rfl rfl ?_
 ·
  refine⟨MLe.refl _,?_⟩
  exact oM
 intro x hx
 obtain⟨m,ma⟩:=x
 obtain⟨hmma,hinv⟩:=hx
 refine yS ?_
 have hm1:=hinv
 have hor:=w6 L m
 have hlm:=hcd1 m
 refine go9 ?_
 refine cnd (fun hc8=>?_) fun hc8=>?_
 ·
  refine go8 ?_
  refine lX (xI [] m underlying115 uT rL) fun v13 r13=>(lX (xA uT r13) fun v14 r14=>(cL (ev1 rfl) call170 (fun w hs=>sV hs r14 oM oM) fun v15 h1 hh1 r15=>(cL (ev1 rfl) call17 (fun w hs=>qO hs r15 dC) fun v16 h2 hh2 r16=>?_)))
  obtain rfl:v16=vI (xH (uU (L.getD m []) 0 1 (L.getD m []).length)):=r16
  have hsr16:=wH (uU (L.getD m []) 0 1 (L.getD m []).length)
  refine go3 ?_
  refine cnd (fun hc17=>?_) fun hc17=>?_
  ·
   refine uN ?_
   refine yQ ((m+1),h2) ?_ ?_ ⟨rfl,?_,rfl,trivial⟩ rfl rfl
   ·
    refine⟨((hmma.trans hh1).trans hh2),?_⟩
    exact oM
   ·
    dsimp only
    omega
   · exact congrArg (fun z=>some (vI z)) (ou_t hc17)
  refine go8 ?_
  refine yQ ((m+1),h2) ?_ ?_ ⟨rfl,?_,rfl,trivial⟩ rfl rfl
  ·
   refine⟨((hmma.trans hh1).trans hh2),?_⟩
   exact oM
  ·
   dsimp only
   omega
  · exact congrArg (fun z=>some (vI z)) (ou_f hc17)
 refine uN ?_
 refine zD rfl rfl ?_
 have em:m=L.length:=by omega
 subst em
 rfl
end Go.Proofs.YtboaboflnckgoaaGreat
namespace Go.Proofs.YtboaboflnckgoaaGreat
open Bk Go Tryz
set_option linter.unusedVariables false
set_option linter.unusedSimpArgs false
set_option maxRecDepth 10000
set_option maxHeartbeats 1000000
attribute [local irreducible] GL GC GQ W OpV
theorem zOG{w0:World}{h0:Mem}(hs:MLe h0 (mem w0)){k m n j:Nat}{vs:Value}{s:Sq}(rs:(tSd k m n j).Is h0 vs s)(hcd0:k≤1000)(hcd1:m≤100000)(hcd2:n≤100000)(hcd3:okS s):
    Calls Tryz.prog 157 #[vs] w0 (Ret w0 h0 (fun h r=>(rpS tE5).Is h r (neZ s))):=by
 have hk1:=hcd3.1.1.1
 have hk2:=hcd3.1.1.2
 refine cb1 45 vs func157 hs ?_
 refine go2 ?_
 refine nB rs fun b1 cs1 rb1=>?_
 refine zAR ?_
 refine xQ 200 5 ?_
 have rl_1:RL tE5 h0 [] ([]:List (Int×(Int×(Int×(Int×Int))))):=RL.nil
 refine xQ 200 5 ?_
 have rl_2:RL tE5 h0 [] ([]:List (Int×(Int×(Int×(Int×Int))))):=RL.nil
 refine gcL (ι:=Nat×List (Int×Int×Int×Int×Int)×List (Int×Int×Int×Int×Int)×Value×List Value×Value×List Value×Mem) (fun(f,D,G,s3_3,cs_5,s4_4,cs_7,ma)=>(MLe h0 ma∧(RL tE5 ma cs_5 D∧RL tE5 ma cs_7 G∧f≤s.2.1.length∧D=zS1 s f∧G=zYM s f),[(1,vP b1 0),(3,s3_3),(4,s4_4),(5,vI ↑f)],[.gs 200 5 s4_4 G.length cs_7,.gs 200 5 s3_3 D.length cs_5,.var b1 50 cs1],ma,s.2.1.length-f)) (0,[],[],(.slice none 0 0),[],(.slice none 0 0),[],h0) ?_ ?_
 ·
  refine⟨MLe.refl _,?_⟩
  refine⟨rl_1,rl_2,?_⟩
  exact⟨by omega,rfl,rfl⟩
 intro x hx
 obtain⟨f,D,G,s3_3,cs_5,s4_4,cs_7,ma⟩:=x
 dsimp only at hx
 obtain⟨hmma,hinv⟩:=hx
 refine yS ?_
 obtain⟨rl_6,rl_8,hinv⟩:=hinv
 obtain⟨hf1,hD,hG⟩:=hinv
 have hDl:D.length≤f:=by rw[hD];exact sY _ _ f
 have hGl:G.length≤f:=by rw[hG];exact sY _ _ f
 have hfl:=zGU s f
 have hcl:=nH (s:=s) (f:=↑f) hcd3.2.1
 have hne:=zIF (rH s f) 0 1
 refine go5 ?_
 refine lX (xB tM (Pc.snd (Pc.fst pH)) rb1) fun v11 r11=>?_
 refine go4 ?_
 refine cnd (fun hc13=>?_) fun hc13=>?_
 ·
  refine go6 ?_
  refine lX (xB kF pH rb1) fun v16 r16=>?_
  refine go1 ?_
  refine cL (ev2 rfl rfl) call176 (fun w hs=>zH8 (f:=f) hs r16 (by first|omega|exact hcd3.big) (by first|omega|exact hcd3.big) (by first|omega|exact hcd3.big) (by first|omega|exact hcd3.big) (by first|omega|exact hcd3.big) (by first|omega|exact hcd3.big) (by first|omega|exact hcd3.big)) fun v18 h1 hh1 r18=>?_
  refine go3 ?_
  refine qK (ι:=List (Int×Int×Int×Int×Int)×Value×List Value×Mem) (fun(ZR,s3_9,cs_10,mz)=>MLe h1 mz∧(RL tE5 mz cs_10 ZR∧ZR=zS1 s (f+1))) (fun(ZR,s3_9,cs_10,mz)=>[(1,vP b1 0),(3,s3_9),(4,s4_4),(5,vI ↑f),(6,v18)]) (fun(ZR,s3_9,cs_10,mz)=>[.gs 200 5 s4_4 G.length cs_7,.gs 200 5 s3_9 ZR.length cs_10,.var b1 50 cs1]) (fun(ZR,s3_9,cs_10,mz)=>mz) ?_ ?_
  ·
   refine go3 ?_
   refine cL (ev1 rfl) call123 (fun w hs=>zEW hs r18 (by first|omega|exact hcd3.2.2 f oM) (by first|omega|exact hcd3.2.2 f oM)) fun v21 h2 hh2 r21=>?_
   obtain⟨v21_0,rfl,r21_0⟩:=r21
   change (rpS rpI).Is h2 v21_0 (fX (rH s f) 0 1) at r21_0
   refine sL ?_
   refine cnd (fun hc25=>?_) fun hc25=>?_
   ·
    refine go4 ?_
    refine cL (vs:=[_,_,vI (-1),vI (-1)]) e4z call188 (fun w hs=>iZ hs oM oM oM oM dC dC dC dC) fun v29 h3 hh3 r29=>(zF (zV (ρ:=tE5) (m:=1) (xs:=[dg (vS (rH s f) 0 1) (↑f:Int) (-1:Int) (-1:Int)]) (ps':=[(0,_)]) underlying137 qV rfl rfl rfl (yJ wF (yJ wF (yJ wF (yJ wF wF)))) e2z (zI rfl (Pc.arr (Pc.here _) e50 0 dC) r29 zX) (show 1*5≤16777216 from by decide) nP) rfl rfl rfl ?_)
    intro v30 q30 hq30
    obtain⟨cs30,rfl,rl30⟩:=hq30
    refine yH (A:=[]) (ρ:=tE5) rl30 ?_
    intro h4 hh4 rs_12
    replace rl_6:=rl_6.mono (((hh1.trans hh2).trans hh3).trans hh4)
    refine xS (A:=[_]) (yD (ρ:=tE5) (bytes:=40) underlying137 qV rfl rfl rfl rfl nP rfl rfl rl_6 rs_12 bO bO) rfl rfl rfl ?_
    intro v31 q31 hq31
    obtain⟨cs31,rfl,rl31⟩:=hq31
    refine go2 ?_
    refine zN ((D++[dg (vS (rH s f) 0 1) (↑f:Int) (-1:Int) (-1:Int)]),v31,cs31,h4) ?_ e5 rfl rfl
    refine⟨((hh2.trans hh3).trans hh4),?_⟩
    refine⟨rl31,?_⟩
    exact(by rw[hD];exact y6 hc25)
   refine go1 ?_
   refine zN (D,s3_3,cs_5,h2) ?_ e5 rfl rfl
   refine⟨hh2,?_⟩
   replace rl_6:=rl_6.mono (hh1.trans hh2)
   refine⟨rl_6,?_⟩
   exact(by rw[hD];exact y7 hc25)
  intro x hx
  obtain⟨ZR,s3_9,cs_10,mz⟩:=x
  obtain⟨hmmz,hZ⟩:=hx
  refine yS ?_
  obtain⟨rl_11,hZ⟩:=hZ
  refine go3 ?_
  refine cL (ev1 rfl) call124 (fun w hs=>zEX hs r18.up (by first|omega|exact fun l hl=>(by rw[hfl.2 l];exact Nat.le_trans (hcl.2 l) dC)) (by first|omega|exact fun l hl=>(by rw[hfl.2 l];exact Nat.le_trans (hcl.2 l) dC)) (by first|omega|exact fun l hl=>(by rw[hfl.2 l];exact Nat.le_trans (hcl.2 l) dC))) fun v33 h2 hh2 r33=>?_
  obtain rfl:v33=vI (ouZ (rH s f)):=r33
  have hou33:=w6 (rH s f) (rH s f).length
  refine go3 ?_
  refine cnd (fun hc34=>?_) fun hc34=>?_
  ·
   refine go3 ?_
   refine cL (vs:=[vI (33),_,vI (-1),vI (-1)]) e4z call188 (fun w hs=>iZ hs dC dC oM oM dC dC dC dC) fun v37 h3 hh3 r37=>(zF (zV (ρ:=tE5) (m:=1) (xs:=[dg (33:Int) (↑f:Int) (-1:Int) (-1:Int)]) (ps':=[(0,_)]) underlying137 qV rfl rfl rfl (yJ wF (yJ wF (yJ wF (yJ wF wF)))) e2z (zI rfl (Pc.arr (Pc.here _) e50 0 dC) r37 zX) (show 1*5≤16777216 from by decide) nP) rfl rfl rfl ?_)
   intro v38 q38 hq38
   obtain⟨cs38,rfl,rl38⟩:=hq38
   refine yH (A:=[]) (ρ:=tE5) rl38 ?_
   intro h4 hh4 rs_13
   replace rl_8:=rl_8.mono ((((hh1.trans hmmz).trans hh2).trans hh3).trans hh4)
   refine xS (A:=[]) (yD (ρ:=tE5) (bytes:=40) underlying137 qV rfl rfl rfl rfl nP rfl rfl rl_8 rs_13 bO bO) rfl rfl rfl ?_
   intro v39 q39 hq39
   obtain⟨cs39,rfl,rl39⟩:=hq39
   refine go9 ?_
   refine gqL ((f+1),ZR,(G++[dg (33:Int) (↑f:Int) (-1:Int) (-1:Int)]),s3_9,cs_10,v39,cs39,h4) ?_ ?_
   ·
    refine⟨(((((hmma.trans hh1).trans hmmz).trans hh2).trans hh3).trans hh4),?_⟩
    replace rl_11:=rl_11.mono ((hh2.trans hh3).trans hh4)
    refine⟨rl_11,rl39,?_⟩
    exact⟨by omega,hZ,by rw[hG];exact y6 hc34⟩
   omega
  refine go8 ?_
  refine gqL ((f+1),ZR,G,s3_9,cs_10,s4_4,cs_7,h2) ?_ ?_
  ·
   refine⟨(((hmma.trans hh1).trans hmmz).trans hh2),?_⟩
   replace rl_8:=rl_8.mono ((hh1.trans hmmz).trans hh2)
   replace rl_11:=rl_11.mono hh2
   refine⟨rl_11,rl_8,?_⟩
   exact⟨by omega,hZ,by rw[hG];exact y7 hc34⟩
  omega
 have ef:f=s.2.1.length:=by omega
 refine go9 ?_
 refine gv (gA mh1 underlying137 rfl) rfl ?_
 refine go3 ?_
 refine cnd (fun hc42=>?_) fun hc42=>?_
 ·
  refine go8 ?_
  refine wW (A:=[_]) (ρ:=tE5) rl_6 ?_
  intro h1 hh1 rs_14
  refine zD rfl rfl ?_
  exact(Rp.Is.cast rs_14 (by rw[hD,ef];exact(if_pos (by rw[←ef,←hD];omega)).symm))
 refine go9 ?_
 refine wW (A:=[]) (ρ:=tE5) rl_8 ?_
 intro h1 hh1 rs_15
 refine zD rfl rfl ?_
 exact(Rp.Is.cast rs_15 (by rw[hG,ef];exact(if_neg (by rw[←ef,←hD];omega)).symm))
theorem zOH{w0:World}{h0:Mem}(hs:MLe h0 (mem w0)){k m n j:Nat}{vs:Value}{s:Sq}(rs:(tSd k m n j).Is h0 vs s)(hcd0:k≤1000)(hcd1:m≤100000)(hcd2:n≤100000)(hcd3:okS s):
    Calls Tryz.prog 107 #[vs] w0 (Ret w0 h0 (fun h r=>(rpS tE5).Is h r (zVW s))):=by
 have hk1:=hcd3.1.1.1
 have hk2:=hcd3.1.1.2
 refine cb1 34 vs func107 hs ?_
 refine go2 ?_
 refine nB rs fun b1 cs1 rb1=>?_
 refine go6 ?_
 refine lX (xB kF pH rb1) fun v7 r7=>(cL (ev1 rfl) call154 (fun w hs=>zOC hs r7 (by first|omega|exact hcd3|exact hcd3.big|exact hcd3.mem|exact hcd3.2.1)) fun v8 h1 hh1 r8=>?_)
 refine vO ?_
 refine cnd (fun hc11=>?_) fun hc11=>?_
 ·
  refine go8 ?_
  refine zD rfl rfl ?_
  exact(Rp.Is.cast r8 (by exact(if_pos oM).symm))
 refine go5 ?_
 refine lX (xB kF pH rb1) fun v13 r13=>(cL (ev1 rfl) call155 (fun w hs=>zOA hs r13 (by first|omega|exact hcd3|exact hcd3.big|exact hcd3.mem|exact hcd3.2.1) (by first|omega|exact hcd3|exact hcd3.big|exact hcd3.mem|exact hcd3.2.1)) fun v14 h2 hh2 r14=>?_)
 refine vO ?_
 refine cnd (fun hc17=>?_) fun hc17=>?_
 ·
  refine go8 ?_
  refine zD rfl rfl ?_
  exact(Rp.Is.cast r14 (by exact((if_neg oM).trans (if_pos oM)).symm))
 refine go5 ?_
 refine lX (xB kF pH rb1) fun v19 r19=>(cL (ev1 rfl) call156 (fun w hs=>zKT hs r19 (by first|omega|exact hcd3|exact hcd3.big|exact hcd3.mem|exact hcd3.2.1) (by first|omega|exact hcd3|exact hcd3.big|exact hcd3.mem|exact hcd3.2.1) (by first|omega|exact hcd3|exact hcd3.big|exact hcd3.mem|exact hcd3.2.1) (by first|omega|exact hcd3|exact hcd3.big|exact hcd3.mem|exact hcd3.2.1) (by first|omega|exact hcd3|exact hcd3.big|exact hcd3.mem|exact hcd3.2.1) (by first|omega|exact hcd3|exact hcd3.big|exact hcd3.mem|exact hcd3.2.1) (by first|omega|exact hcd3|exact hcd3.big|exact hcd3.mem|exact hcd3.2.1) (by first|omega|exact hcd3|exact hcd3.big|exact hcd3.mem|exact hcd3.2.1)) fun v20 h3 hh3 r20=>?_)
 refine vO ?_
 refine cnd (fun hc23=>?_) fun hc23=>?_
 ·
  refine go8 ?_
  refine zD rfl rfl ?_
  exact(Rp.Is.cast r20 (by exact((if_neg oM).trans ((if_neg oM).trans (if_pos oM))).symm))
 refine go5 ?_
 refine lX (xB kF pH rb1) fun v25 r25=>(cL (ev1 rfl) call157 (fun w hs=>zOG hs r25 (by first|omega|exact hcd3|exact hcd3.big|exact hcd3.mem|exact hcd3.2.1) (by first|omega|exact hcd3|exact hcd3.big|exact hcd3.mem|exact hcd3.2.1) (by first|omega|exact hcd3|exact hcd3.big|exact hcd3.mem|exact hcd3.2.1) (by first|omega|exact hcd3|exact hcd3.big|exact hcd3.mem|exact hcd3.2.1)) fun v26 h4 hh4 r26=>?_)
 refine vO ?_
 refine cnd (fun hc29=>?_) fun hc29=>?_
 ·
  refine go8 ?_
  refine zD rfl rfl ?_
  exact(Rp.Is.cast r26 (by exact((if_neg oM).trans ((if_neg oM).trans ((if_neg oM).trans (if_pos oM)))).symm))
 refine go4 ?_
 refine lX (xB kF pH rb1) fun v31 r31=>(cL (ev1 rfl) call159 (fun w hs=>zEZ hs r31 (by first|omega|exact hcd3|exact hcd3.big|exact hcd3.mem|exact hcd3.2.1) (by first|omega|exact hcd3|exact hcd3.big|exact hcd3.mem|exact hcd3.2.1)) fun v32 h5 hh5 r32=>(cL (ev1 rfl) call158 (fun w hs=>zH1 hs r32) fun v33 h6 hh6 r33=>?_))
 refine go4 ?_
 refine zD rfl rfl ?_
 exact(Rp.Is.cast r33 (by exact((if_neg oM).trans ((if_neg oM).trans ((if_neg oM).trans (if_neg oM)))).symm))
theorem zOB{w0:World}{h0:Mem}(hs:MLe h0 (mem w0)){k m n j:Nat}{vs:Value}{s:Sq}(rs:(tSd k m n j).Is h0 vs s)(hcd0:k≤1000)(hcd1:m≤100000)(hcd2:n≤100000)(hcd3:okS s):
    Calls Tryz.prog 61 #[vs] w0 (Ret w0 h0 (fun _ r=>r=vB (z4 s))):=by
 refine cb1 7 vs func61 hs ?_
 refine go2 ?_
 refine nB rs fun b1 cs1 rb1=>?_
 refine go5 ?_
 refine lX (xB kF pH rb1) fun v3 r3=>(cL (ev1 rfl) call107 (fun w hs=>zOH hs r3 (by first|omega|exact hcd3) (by first|omega|exact hcd3) (by first|omega|exact hcd3) (by first|omega|exact hcd3)) fun v4 h1 hh1 r4=>?_)
 refine go6 ?_
 refine zD rfl rfl ?_
 exact fL (by unfold z4;omega)
end Go.Proofs.YtboaboflnckgoaaGreat
