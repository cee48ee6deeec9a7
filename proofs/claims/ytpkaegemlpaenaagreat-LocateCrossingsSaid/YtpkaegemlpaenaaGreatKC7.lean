/- Texts that the proof needs, part 7. -/
import Derived.Test.YtpkaegemlpaenaaGreatKC6
import Derived.Scope
set_option linter.unusedVariables false
set_option linter.unusedSimpArgs false
namespace Bk
open Classical
variable {a b p d:Pt}
theorem yEB:∀xs:List Rat,∃M:Rat,0<M/\∀x,x∈xs-> -M<x/\x<M
  |[]=>⟨1,by decide,λx hx=>by cases hx⟩
  |y::xs=>by
   obtain⟨M,hM,h⟩:=yEB xs
   by_cases hy:0<=y
   · refine⟨M+y,by grind,λx hx=>?_⟩
     rcases List.mem_cons.1 hx with rfl|hx
     · exact⟨by grind,by grind⟩
     · have:=h x hx;exact⟨by grind,by grind⟩
   · refine⟨M-y,by grind,λx hx=>?_⟩
     rcases List.mem_cons.1 hx with rfl|hx
     · exact⟨by grind,by grind⟩
     · have:=h x hx;exact⟨by grind,by grind⟩
theorem zES{x y:Rat}(h:y≠0):x/y*y=x:=by grind
theorem zZ0{u:Nat}(hab:a.at u<b.at u)(hs:d.at u=0->sI a b p u):∃(g:Rat->Rat×Rat) (xs:List Rat),∀M,0<M->(∀x,x∈xs-> -M<x/\x<M)->Ax a b p d M u (g M).1 (g M).2:=by
 by_cases h0:d.at u=0
 · exact⟨λM=>(-M,M),[],λM C _=>zZZ C h0 (hs h0)⟩
 · by_cases hp:0<d.at u
   · exact⟨λ_=>((a.at u-p.at u)/d.at u,(b.at u-p.at u)/d.at u),[(a.at u-p.at u)/d.at u,(b.at u-p.at u)/d.at u],λM C hx=>yJE hab hp (zES h0) (zES h0) ⟨hx _ zo2,hx _ zo2⟩⟩
   · exact⟨λ_=>((b.at u-p.at u)/d.at u,(a.at u-p.at u)/d.at u),[(b.at u-p.at u)/d.at u,(a.at u-p.at u)/d.at u],λM C hx=>yJF hab zo1 (zES h0) (zES h0) ⟨hx _ zo2,hx _ zo2⟩⟩
theorem yK8{t l2 h2 l3 h3:Rat}:exI t l2 h2 l3 h3=exI t l3 h3 l2 h2:=propext ⟨λe=>⟨e.1,e.2.2,e.2.1⟩,λe=>⟨e.1,e.2.2,e.2.1⟩⟩
theorem yLA{t l2 h2 l3 h3:Rat}:enI t l2 h2 l3 h3=enI t l3 h3 l2 h2:=propext ⟨λe=>⟨e.1,e.2.2,e.2.1⟩,λe=>⟨e.1,e.2.2,e.2.1⟩⟩
theorem yDR{t l2 h2 l3 h3:Rat}(k:iI t l2 h2 l3 h3):iI t l3 h3 l2 h2:=λe c1 c2=>⟨(k e c2 c1).2,(k e c2 c1).1⟩
theorem yJY{d:Pt}(h:d≠zT):d.at 0≠0\/d.at 1≠0\/d.at 2≠0:=by
 by_cases h0:d.at 0=0
 · by_cases h1:d.at 1=0
   · by_cases h2:d.at 2=0
     · exact absurd (tU.2 ⟨h0,h1,h2⟩) h
     · exact .inr (.inr h2)
   · exact .inr (.inl h1)
 · exact .inl h0
theorem yC3(hab:∀i,a.at i<b.at i){v:Nat}(hv:v<3)(h0:d.at v=0)(hs:¬sI a b p v){u s:Nat}(hu:u<3)(hs2:s<2):crE (bxS a b) p d (2*u+s)=0:=by
 unfold crE
 by_cases hk:skP (bxS a b) p d (2*u+s)
 · exact if_pos hk
 · rw[if_neg hk]
   refine if_neg λe=>?_;have D:=(yEQ hab hu hs2 _).2.1 e;have G:∀t,(bM p d t).at v=p.at v:=λt=>by rw[t7,h0];grind
   have C:∀t,¬sI a b (bM p d t) v:=λt h=>hs (by unfold sI at *;rw[G] at h;exact h)
   by_cases huv:u=v
   · refine hk ?_
     unfold skP;rw[j7,yIQ zot,show(2*u+s)/2=v by omega,h0]
     split<;>grind
   · have:v=(u+1)%3\/v=(u+2)%3:=by omega
     rcases this with e1|e1
     · exact C _ (e1▸D.1)
     · exact C _ (e1▸D.2)
theorem zZK(hab:∀i,a.at i<b.at i)(hd:d≠zT)(hon:(∀u,u<3->kI a b p u)->∀u,u<3->sI a b p u)(hb:∀f,f<6->¬skP (bxS a b) p d f->whF (bxS a b) f (bM p d (hnF (bxS a b) p f/cnF (bxS a b) d f))≠0):
 crS (bxS a b) p d 6=cW (∀u,u<3->sI a b p u):=by
 have e6:crS (bxS a b) p d 6=(crE (bxS a b) p d (2*0)+crE (bxS a b) p d (2*0+1))+(crE (bxS a b) p d (2*1)+crE (bxS a b) p d (2*1+1))+(crE (bxS a b) p d (2*2)+crE (bxS a b) p d (2*2+1)):=by
  show 0+crE (bxS a b) p d 0+crE (bxS a b) p d 1+crE (bxS a b) p d 2+crE (bxS a b) p d 3+crE (bxS a b) p d 4+crE (bxS a b) p d 5=_
  simp only[Nat.reduceMul,Nat.reduceAdd];omega
 by_cases hall:∀u,u<3->d.at u=0->sI a b p u
 · obtain⟨g0,x0,A0⟩:=zZ0 (p:=p) (d:=d) (hab 0) (hall 0 zow)
   obtain⟨g1,x1,A1⟩:=zZ0 (p:=p) (d:=d) (hab 1) (hall 1 zow);obtain⟨g2,x2,A2⟩:=zZ0 (p:=p) (d:=d) (hab 2) (hall 2 zow);obtain⟨M,D,hx⟩:=yEB (x0++(x1++x2));have J:=A0 M D λx h=>hx x (by simp[h]);have H:=A1 M D λx h=>hx x (by simp[h]);have G:=A2 M D λx h=>hx x (by simp[h])
   clear A0 A1 A2 hx
   generalize (g0 M).1=l1 at *;generalize (g0 M).2=h1 at *;generalize (g1 M).1=l2 at *;generalize (g1 M).2=h2 at *;generalize (g2 M).1=l3 at *;generalize (g2 M).2=h3 at *;have nz:=yJY hd;obtain⟨s0,k0,m0⟩:=zHG hab D (u:=0) zow J H G (λe=>nz.elim (λk=>absurd e k) id) hb;obtain⟨s1,k1,m1⟩:=zHG hab D (u:=1) zow H G J (λe=>nz.elim (λk=>.inr k) λk=>k.elim (λk=>absurd e k) λk=>.inl k) hb;obtain⟨s2,k2,m2⟩:=zHG hab D (u:=2) zow G J H (λe=>nz.elim (λk=>.inl k) λk=>k.elim (λk=>.inr k) λk=>absurd e k) hb;rw[e6,s0,s1,s2,yK8 (t:=h2),yLA (t:=l2)];have r0:∀u,(bM p d 0).at u=p.at u:=λu=>by rw[t7];grind
   have ab:-M<0:=by grind
   have C:∀{u l h},Ax a b p d M u l h->(sI a b p u↔l<0/\0<h):=λ{u l h} A=>by
    have:=A.s 0 ab D;unfold sI at *;rw[r0] at this;exact this
   have kv:∀{u l h},Ax a b p d M u l h->(kI a b p u↔l<=0/\0<=h):=λ{u l h} A=>by
    have:=A.k 0 ab D;unfold kI at *;rw[r0] at this;exact this
   have aa:=yHL J.lt H.lt G.lt k0 (yDR k1) k2 m0 (yDR m1) m2 λc0 c1 c2=>by
    have O:=hon λu hu=>by
     have:u=0\/u=1\/u=2:=by omega
     rcases this with rfl|rfl|rfl
     · exact(kv J).2 c0
     · exact(kv H).2 c1
     · exact(kv G).2 c2
    exact⟨(C J).1 (O 0 zow),(C H).1 (O 1 zow),(C G).1 (O 2 zow)⟩
   have Z:((l1<0/\0<h1)/\(l2<0/\0<h2)/\l3<0/\0<h3)=(∀u,u<3->sI a b p u):=propext ⟨λe u hu=>by
    have:u=0\/u=1\/u=2:=by omega
    rcases this with rfl|rfl|rfl
    · exact(C J).2 e.1
    · exact(C H).2 e.2.1
    · exact(C G).2 e.2.2,λe=>⟨(C J).1 (e 0 zow),(C H).1 (e 1 zow),(C G).1 (e 2 zow)⟩⟩
   rw[Z] at aa;omega
 · obtain⟨v,hv⟩:=Classical.not_forall.1 hall
   obtain⟨U,hv⟩:=Classical.not_imp.1 hv;obtain⟨h0,O⟩:=Classical.not_imp.1 hv;have z:∀u s,u<3->s<2->crE (bxS a b) p d (2*u+s)=0:=λu s hu h2=>yC3 hab U h0 O hu h2;rw[e6,z 0 1 zow zow,z 1 1 zow zow,z 2 1 zow zow,show crE (bxS a b) p d (2*0)=0 from z 0 0 zow zow,show crE (bxS a b) p d (2*1)=0 from z 1 0 zow zow,show crE (bxS a b) p d (2*2)=0 from z 2 0 zow zow,kG λe=>O (e v U)]
   rfl
def onP(s:Sd)(p:Pt)(f:Nat):Prop:=sdZ (s.2.1.getD f zA).1 p=0/\0<=whF s f p
def onB(s:Sd)(p:Pt):Prop:=∃f,f<s.2.1.length/\onP s p f
noncomputable def onI(s:Sd)(p:Pt):Nat:=if onB s p then nO λf=>f<s.2.1.length/\onP s p f else 0
theorem zWY{s:Sd}{p:Pt}{f:Nat}(hf:f<s.2.1.length)(h:onP s p f)(hl:∀j,j<f->¬onP s p j):onI s p=f/\onB s p:=by
 have C:onB s p:=⟨f,hf,h⟩;obtain⟨h1,h2,h3⟩:=oR (q:=λf=>f<s.2.1.length/\onP s p f) ⟨hf,h⟩;refine⟨?_,C⟩;unfold onI;rw[if_pos C]
 rcases Nat.lt_or_ge (nO λf=>f<s.2.1.length/\onP s p f) f with h4|h4
 · exact absurd h2.2 (hl _ h4)
 · omega
theorem yBU{s:Sd}{p:Pt}(h:∀f,f<s.2.1.length->¬onP s p f):onI s p=0/\¬onB s p:=by
 have C:¬onB s p:=λ⟨f,D,e⟩=>h f D e;exact⟨if_neg C,C⟩
noncomputable def crP(s:Sd)(p d:Pt):Nat->Int×Int
  |0=>(0,0)
  |n+1=>if skP s p d n then crP s p d n else if whF s n (bM p d (hnF s p n/cnF s d n))=1 then(if 0<cnF s d n then((crP s p d n).1+1,(crP s p d n).2) else((crP s p d n).1,(crP s p d n).2+1)) else crP s p d n
theorem zR0(s:Sd)(p d:Pt):∀n,(crP s p d n).1-(crP s p d n).2=crS s p d n
  |0=>rfl
  |n+1=>by
   have ih:=zR0 s p d n;unfold crP crS crE
   split
   · omega
   · split
     · split
       · show(crP s p d n).1+1-(crP s p d n).2=_;omega
       · show(crP s p d n).1-((crP s p d n).2+1)=_;omega
     · omega
noncomputable def zLG(s:Sd)(p:Pt):Int:=if onB s p then 0 else crS s p (vK (zP8 s p)) s.2.1.length
noncomputable def inZ(s:Sd)(p:Pt):Int:=if onB s p then 0 else if 0<zLG s p then 1 else -1
theorem yJP(k:Int):vK k≠zT:=λe=>by
 have:=congrArg T3.x e;have e1:((1:Int):Rat)=0:=this;exact absurd e1 zow
section
variable {a b:Pt}
theorem zVE(h:a.x<b.x/\a.y<b.y/\a.z<b.z):gK (bxS a b):=by
 have g:∀i,i<uB1.length->∀k,k<i->¬uB1.getD i u0=uB1.getD k u0:=by decide +kernel
 have D:vN (uB1.map (cU a b),fB3 a b,[])=[[[0,1,3,2]],[[4,6,7,5]],[[0,4,5,1]],[[2,3,7,6]],[[0,2,6,4]],[[1,5,7,3]]]:=I;refine zLB h (λi k G hi=>g i hi k G) ⟨by decide,show 6<=256 by decide⟩ (λf C=>⟨_,(dX (a:=a) (b:=b) C).1⟩) (λf C=>?_) ?_ ?_
 · have H:f<6:=C
   have:f=0\/f=1\/f=2\/f=3\/f=4\/f=5:=by omega
   rcases this with rfl|rfl|rfl|rfl|rfl|rfl
   · show vfP [[0,1,3,2]];decide +kernel
   · show vfP [[4,6,7,5]];decide +kernel
   · show vfP [[0,4,5,1]];decide +kernel
   · show vfP [[2,3,7,6]];decide +kernel
   · show vfP [[0,2,6,4]];decide +kernel
   · show vfP [[1,5,7,3]];decide +kernel
 · rw[D];decide +kernel
 · rw[D];decide +kernel
theorem zQ5(h:∀i,a.at i<b.at i)(p:Pt):onB (bxS a b) p↔(∀u,u<3->kI a b p u)/\¬∀u,u<3->sI a b p u:=by
 have hk:∀v,sI a b p v->kI a b p v:=λv e=>⟨Rat.le_of_lt e.1,Rat.le_of_lt e.2⟩;have C:∀u s,u<3->s<2->(onP (bxS a b) p (2*u+s)↔(if s=1 then b.at u=p.at u else p.at u=a.at u)/\kI a b p ((u+1)%3)/\kI a b p ((u+2)%3)):=λu s J Z=>by
  obtain⟨w0,O⟩:=yEQ h J Z p;have hw:0<=whF (bxS a b) (2*u+s) p↔kI a b p ((u+1)%3)/\kI a b p ((u+2)%3):=by
   constructor
   · intro e
     by_cases h0:whF (bxS a b) (2*u+s) p=0
     · exact(w0.1 h0).1
     · have h1:whF (bxS a b) (2*u+s) p=1:=by
        rw[yDH h zot] at e h0 ⊢
        split at e
        · rename_i hc;rw[if_pos hc] at h0;exact absurd I h0
        · split at e
          · rename_i hc hc2;rw[if_neg hc,if_pos hc2]
          · exact absurd e zow
       exact⟨hk _ (O.1 h1).1,hk _ (O.1 h1).2⟩
   · intro e
     by_cases hs2:sI a b p ((u+1)%3)/\sI a b p ((u+2)%3)
     · rw[O.2 hs2];decide
     · rw[w0.2 ⟨e,hs2⟩];exact Int.le_refl 0
  unfold onP;rw[hw];have U:sdZ ((bxS a b).2.1.getD (2*u+s) zA).1 p=0↔hnF (bxS a b) p (2*u+s)=0:=by
   unfold sdZ hgt hnF;rw[uS];constructor<;>intro e<;>grind
  rw[U,yHV zot,show(2*u+s)/2=u by omega]
  by_cases e1:s=1
  · rw[if_pos zot,if_pos e1]
    constructor
    · rintro⟨e,k⟩;exact⟨by grind,k⟩
    · rintro⟨e,k⟩;exact⟨by grind,k⟩
  · rw[if_neg zot,if_neg e1]
    constructor
    · rintro⟨e,k⟩;exact⟨by grind,k⟩
    · rintro⟨e,k⟩;exact⟨by grind,k⟩
 have M:∀u,u<3->∀q:Nat->Prop,q u->q ((u+1)%3)->q ((u+2)%3)->∀v,v<3->q v:=λu J q h0 h1 h2 v hv=>by
  have:v=u\/v=(u+1)%3\/v=(u+2)%3:=by omega
  rcases this with rfl|rfl|rfl<;>assumption
 constructor
 · rintro⟨f,hf,ho⟩
   have ab:f<6:=hf;have e:f=2*(f/2)+f%2:=by omega
   rw[e] at ho;obtain⟨h1,h2,h3⟩:=(C (f/2) (f%2) zot zot).1 ho;have aa:=h (f/2);have G:kI a b p (f/2):=by
    unfold kI
    by_cases e1:f%2=1
    · rw[if_pos e1] at h1;exact⟨by grind,by grind⟩
    · rw[if_neg e1] at h1;exact⟨by grind,by grind⟩
   refine⟨M (f/2) zot _ G h2 h3,λZ=>?_⟩;have:=Z (f/2) zot;unfold sI at this
   by_cases e1:f%2=1
   · rw[if_pos e1] at h1;grind
   · rw[if_neg e1] at h1;grind
 · rintro⟨H,hn⟩
   obtain⟨u,J⟩:=Classical.not_forall.1 hn;obtain⟨D,J⟩:=Classical.not_imp.1 J;have G:=H u D;unfold sI at J;unfold kI at G;have k1:=H ((u+1)%3) zot;have k2:=H ((u+2)%3) zot
   by_cases e:p.at u=a.at u
   · exact⟨2*u+0,show 2*u+0<6 by omega,(C u 0 D zow).2 ⟨by rw[if_neg zow];exact e,k1,k2⟩⟩
   · exact⟨2*u+1,show 2*u+1<6 by omega,(C u 1 D zow).2 ⟨by rw[if_pos I];grind,k1,k2⟩⟩
theorem zQK(h:∀i,a.at i<b.at i){p:Pt}(ho:¬onB (bxS a b) p):zLG (bxS a b) p=cW (∀u,u<3->sI a b p u):=by
 have D:=zVE (a:=a) (b:=b) ⟨h 0,h 1,h 2⟩;have H:=zG4 (cS D) p;unfold zLG;rw[if_neg ho];refine zZK h (yJP _) (λC=>Classical.not_not.1 λe=>ho ((zQ5 h p).2 ⟨C,e⟩)) λf G C=>zXG (zLO D) G H.2.1 C
theorem yK2(h:∀i,a.at i<b.at i)(p:Pt):inZ (bxS a b) p=if ∀u,u<3->sI a b p u then 1 else if ∀u,u<3->kI a b p u then 0 else -1:=by
 unfold inZ
 by_cases ho:onB (bxS a b) p
 · obtain⟨h1,h2⟩:=(zQ5 h p).1 ho
   rw[if_pos ho,if_neg h2,if_pos h1]
 · rw[if_neg ho,zQK h ho]
   by_cases hs:∀u,u<3->sI a b p u
   · rw[lD hs,if_pos zow,if_pos hs]
   · rw[kG hs,if_neg zow,if_neg hs,if_neg λe=>ho ((zQ5 h p).2 ⟨e,hs⟩)]
end
abbrev Fm:=Pl×List (List Pt)×Int×Int
abbrev Md:=List Fm×List (List Pt)
abbrev ed0:List Pt:=List.replicate 2 zT
abbrev fm0:Fm:=(zS7,([]:List (List Pt)),(0:Int),(0:Int))
def zAX(P:List Pt)(L:List (List Int)):Nat->List (List Pt):=uZ λl=>zFK P (L.getD l []) (L.getD l []).length
noncomputable def fmF(s:Sd)(f:Fc):Fm:=(f.1,zAX s.1 f.2.1 f.2.1.length,(↑(axI f.1.1):Int),(↑(axJ f.1.1):Int))
def edP(P:List Pt)(e:PIr):List Pt:=[ptI P e.1,ptI P e.2]
noncomputable def fmT(s:Sd):Nat->List Fm:=uZ λf=>fmF s (s.2.1.getD f zA)
noncomputable def gL(s:Sd):Md:=(fmT s s.2.1.length,(sfE s s.2.1.length).map (edP s.1))
noncomputable def whM(f:Fm)(p:Pt):Int:=whZ f.2.1 (pr p f.2.2.1.toNat f.2.2.2.toNat) f.2.2.1.toNat f.2.2.2.toNat
def onM(md:Md)(p:Pt)(f:Nat):Prop:=(sdZ (md.1.getD f fm0).1 p=0/\0<(md.1.getD f fm0).2.1.length)/\0<=whM (md.1.getD f fm0) p
def onA(md:Md)(p:Pt):Prop:=∃f,f<md.1.length/\onM md p f
noncomputable def onJ(md:Md)(p:Pt):Nat:=if onA md p then nO λf=>f<md.1.length/\onM md p f else 0
def cnM(f:Fm)(d:Pt):Rat:=xH f.1.1 d
def hnM(f:Fm)(p:Pt):Rat:=f.1.2-xH f.1.1 p
def skM(f:Fm)(p d:Pt):Prop:=yR (cnM f d)*yR (hnM f p)<=0\/f.2.1.length=0
noncomputable def wrM(f:Fm)(p d:Pt):Int:=whM f (bM p d (hnM f p/cnM f d))
def bdM(f:Fm)(p d:Pt):Prop:=¬skM f p d/\wrM f p d=0
noncomputable def crM(md:Md)(p d:Pt):Nat->Int×Int
  |0=>(0,0)
  |n+1=>if skM (md.1.getD n fm0) p d then crM md p d n else if wrM (md.1.getD n fm0) p d=1 then(if 0<cnM (md.1.getD n fm0) d then((crM md p d n).1+1,(crM md p d n).2) else((crM md p d n).1,(crM md p d n).2+1)) else crM md p d n
def nbM(md:Md)(p d:Pt):Prop:=∀f,f<md.1.length->¬bdM (md.1.getD f fm0) p d
def clM(md:Md)(p v:Pt):Prop:=∀q,q<md.2.length->¬nQ p ((md.2.getD q ed0).getD 0 zT) ((md.2.getD q ed0).getD 1 zT) v
noncomputable def cH(md:Md)(p:Pt):Nat:=nO λk=>clM md p (vK k)
def yH3(f:Fm):Prop:=(0<=f.2.2.1/\f.2.2.1<3)/\(0<=f.2.2.2/\f.2.2.2<3)/\f.2.1.length<=1000/\∀x,x∈f.2.1->x.length<=1000
def zTW(md:Md):Prop:=md.1.length<=1000/\md.2.length<=2000000/\∀f,f<md.1.length->yH3 (md.1.getD f fm0)
theorem zTD{md:Md}{p:Pt}{f:Nat}(hf:f<md.1.length)(h:onM md p f)(hl:∀u,u<f->¬onM md p u):onJ md p=f/\onA md p:=by
 have C:onA md p:=⟨f,hf,h⟩;obtain⟨h1,h2,h3⟩:=oR (q:=λf=>f<md.1.length/\onM md p f) ⟨hf,h⟩;refine⟨?_,C⟩;unfold onJ;rw[if_pos C]
 rcases Nat.lt_or_ge (nO λf=>f<md.1.length/\onM md p f) f with h4|h4
 · exact absurd h2.2 (hl _ h4)
 · omega
theorem zWZ{md:Md}{p:Pt}(h:∀f,f<md.1.length->¬onM md p f):onJ md p=0/\¬onA md p:=by
 have C:¬onA md p:=λ⟨f,D,e⟩=>h f D e;exact⟨if_neg C,C⟩
theorem yBB{q:Rat}:yR q=0↔q=0:=by
 refine⟨λe=>?_,aN⟩;rw[rR] at e
 split at e
 · assumption
 · split at e<;>exact absurd e zow
abbrev Ac:=Pt×Pt×Prop
def zGT(x:Ac)(d:Pt):Prop:=if x.2.2 then xQ x.2.1 d=zT else xH x.1 d=0
noncomputable def acF(p:Pt)(e:List Pt):Ac:=(xQ (uL (e.getD 0 zT) p) (uL (e.getD 1 zT) p),if xQ (uL (e.getD 0 zT) p) (uL (e.getD 1 zT) p)=zT then uL (e.getD 1 zT) (e.getD 0 zT) else zT,xQ (uL (e.getD 0 zT) p) (uL (e.getD 1 zT) p)=zT)
noncomputable def acT(p:Pt)(E:List (List Pt)):Nat->List Ac:=uZ λq=>acF p (E.getD q ed0)
theorem yCZ(a b d:Pt):xH (xQ a b) d=y5 a b d:=by
 unfold y5 xH xQ;grind
theorem zYL(p d:Pt)(e:List Pt):zGT (acF p e) d↔nQ p (e.getD 0 zT) (e.getD 1 zT) d:=by
 unfold zGT nQ acF
 by_cases h:xQ (uL (e.getD 0 zT) p) (uL (e.getD 1 zT) p)=zT
 · simp only[h,if_true]
 · simp only[h,if_false]
   rw[show xH (xQ (uL (e.getD 0 zT) p) (uL (e.getD 1 zT) p)) d=y5 (uL (e.getD 0 zT) p) (uL (e.getD 1 zT) p) d from yCZ _ _ _]
noncomputable def crA(md:Md)(p d:Pt):Int:=if nbM md p d then(crM md p d md.1.length).1 else 0
noncomputable def crB(md:Md)(p d:Pt):Int:=if nbM md p d then(crM md p d md.1.length).2 else 0
theorem zDA(md:Md)(p d:Pt):∀n:Nat,(0<=(crM md p d n).1/\(crM md p d n).1<=n)/\(0<=(crM md p d n).2/\(crM md p d n).2<=n)
  |0=>by
   show(0<=(0:Int)/\(0:Int)<=((0:Nat):Int))/\(0<=(0:Int)/\(0:Int)<=((0:Nat):Int))
   omega
  |n+1=>by
   have ih:=zDA md p d n;unfold crM
   split
   · omega
   · split
     · split
       · show(0<=(crM md p d n).1+1/\(crM md p d n).1+1<=_)/\(0<=(crM md p d n).2/\(crM md p d n).2<=_)
         omega
       · show(0<=(crM md p d n).1/\(crM md p d n).1<=_)/\(0<=(crM md p d n).2+1/\(crM md p d n).2+1<=_)
         omega
     · omega
section
variable {md:Md}{p d:Pt}{f:Nat}
theorem zNS(h:skM (md.1.getD f fm0) p d):crM md p d (f+1)=crM md p d f:=if_pos h
theorem yC6(h:¬skM (md.1.getD f fm0) p d)(h1:wrM (md.1.getD f fm0) p d=1)(h2:0<cnM (md.1.getD f fm0) d):crM md p d (f+1)=((crM md p d f).1+1,(crM md p d f).2):=(if_neg h).trans ((if_pos h1).trans (if_pos h2))
theorem yIN(h:¬skM (md.1.getD f fm0) p d)(h1:wrM (md.1.getD f fm0) p d=1)(h2:¬0<cnM (md.1.getD f fm0) d):crM md p d (f+1)=((crM md p d f).1,(crM md p d f).2+1):=(if_neg h).trans ((if_pos h1).trans (if_neg h2))
theorem yIM(h:¬skM (md.1.getD f fm0) p d)(h1:¬wrM (md.1.getD f fm0) p d=1):crM md p d (f+1)=crM md p d f:=(if_neg h).trans (if_neg h1)
theorem yC7(hf:f<md.1.length)(h:bdM (md.1.getD f fm0) p d):crA md p d=0/\crB md p d=0/\¬nbM md p d:=by
 have C:¬nbM md p d:=λe=>e f hf h;exact⟨if_neg C,if_neg C,C⟩
theorem yIO(h:∀f,f<md.1.length->¬bdM (md.1.getD f fm0) p d):crA md p d=(crM md p d md.1.length).1/\crB md p d=(crM md p d md.1.length).2/\nbM md p d:=⟨if_pos h,if_pos h,h⟩
end
theorem ac_t{p:Pt}{E:List (List Pt)}{q:Nat}{D:List Ac}(hD:D=acT p E q)(h:xQ (uL ((E.getD q ed0).getD 0 zT) p) (uL ((E.getD q ed0).getD 1 zT) p)=zT):D++[(xQ (uL ((E.getD q ed0).getD 0 zT) p) (uL ((E.getD q ed0).getD 1 zT) p),(uL ((E.getD q ed0).getD 1 zT) ((E.getD q ed0).getD 0 zT),xQ (uL ((E.getD q ed0).getD 0 zT) p) (uL ((E.getD q ed0).getD 1 zT) p)=zT))]=acT p E (q+1):=by
 rw[hD]
 show _=acT p E q++[acF p (E.getD q ed0)]
 unfold acF;rw[if_pos h]
theorem ac_f{p:Pt}{E:List (List Pt)}{q:Nat}{D:List Ac}(hD:D=acT p E q)(h:¬xQ (uL ((E.getD q ed0).getD 0 zT) p) (uL ((E.getD q ed0).getD 1 zT) p)=zT):D++[(xQ (uL ((E.getD q ed0).getD 0 zT) p) (uL ((E.getD q ed0).getD 1 zT) p),(zT,xQ (uL ((E.getD q ed0).getD 0 zT) p) (uL ((E.getD q ed0).getD 1 zT) p)=zT))]=acT p E (q+1):=by
 rw[hD]
 show _=acT p E q++[acF p (E.getD q ed0)]
 unfold acF;rw[if_neg h]
abbrev ac0:Ac:=(zT,(zT,False))
theorem yAC{p v:Pt}{md:Md}{u:Nat}(hu:u<md.2.length):zGT ((acT p md.2 md.2.length).getD u ac0) v↔nQ p ((md.2.getD u ed0).getD 0 zT) ((md.2.getD u ed0).getD 1 zT) v:=by
 rw[show(acT p md.2 md.2.length).getD u ac0=acF p (md.2.getD u ed0) from uT _ ac0 hu];exact zYL p v _
theorem zNO{p:Pt}{md:Md}{D:List Ac}{u kk:Nat}(hD:D=acT p md.2 md.2.length)(hc:clM md p (vK ↑(cH md p)))(hk:kk<=cH md p)(hu:u<D.length)(h:zGT (D.getD u ac0) (vK ↑kk)):kk+1<=cH md p:=by
 have C:D.length=md.2.length:=by rw[hD];exact yY _ _
 rcases Nat.lt_or_ge kk (cH md p) with h1|h1
 · exact h1
 · have e:kk=cH md p:=by omega
   rw[e,hD] at h;exact absurd ((yAC zot).1 h) (hc u zot)
theorem yCX{p:Pt}{md:Md}{D:List Ac}{kk:Nat}(hD:D=acT p md.2 md.2.length)(hk:kk<=cH md p)(h:∀v,v<D.length->¬zGT (D.getD v ac0) (vK ↑kk)):kk=cH md p:=by
 have H:D.length=md.2.length:=by rw[hD];exact yY _ _
 have G:clM md p (vK ↑kk):=λq C e=>by
  refine h q zot ?_;rw[hD];exact(yAC C).2 e
 have h1:cH md p<=kk:=(oR (q:=λk=>clM md p (vK k)) G).1;omega
theorem zJB(md:Md)(p d:Pt):(0<=crA md p d/\crA md p d<=md.1.length)/\(0<=crB md p d/\crB md p d<=md.1.length):=by
 have h:=zDA md p d md.1.length;unfold crA crB
 split
 · exact h
 · omega
noncomputable def wdM(md:Md)(p:Pt):Int:=if onA md p then 0 else crA md p (vK ↑(cH md p))-crB md p (vK ↑(cH md p))
theorem zGY{s:Sd}{f:Nat}(hf:f<s.2.1.length):(gL s).1.getD f fm0=fmF s (s.2.1.getD f zA):=uT _ fm0 hf
theorem zAC(s:Sd):(gL s).1.length=s.2.1.length:=yY _ _
theorem yA8{s:Sd}{f:Nat}(hf:f<s.2.1.length)(hn:nmP s f):vT s f=zAX s.1 (s.2.1.getD f zA).2.1 (s.2.1.getD f zA).2.1.length:=by
 unfold vT;rw[if_pos ⟨⟨by omega,by omega⟩,by simpa using hn⟩]
 rfl
theorem zQL{s:Sd}{f:Nat}(hf:f<s.2.1.length)(hn:nmP s f)(p:Pt):whM (fmF s (s.2.1.getD f zA)) p=whF s f p:=by
 rw[zRQ,yA8 hf hn];unfold whM fmF;simp only[Int.toNat_natCast]
theorem zI0{s:Sd}(h:gK s){f:Nat}(hf:f<s.2.1.length):0<(s.2.1.getD f zA).2.1.length:=(zE6 h hf).1.1.1
theorem zQ4{s:Sd}(h:gK s)(p:Pt){f:Nat}(hf:f<s.2.1.length):onM (gL s) p f↔onP s p f:=by
 unfold onM onP;rw[zGY hf,zQL hf (zE6 h hf).2];have h1:0<(fmF s (s.2.1.getD f zA)).2.1.length:=by
  show 0<(zAX _ _ _).length
  rw[show(zAX s.1 (s.2.1.getD f zA).2.1 (s.2.1.getD f zA).2.1.length).length=_ from yY _ _];exact zI0 h hf
 exact⟨λe=>⟨e.1.1,e.2⟩,λe=>⟨⟨e.1,h1⟩,e.2⟩⟩
theorem bT{s:Sd}(h:gK s)(p:Pt):onA (gL s) p↔onB s p:=by
 unfold onA onB;rw[zAC];exact⟨λ⟨f,C,e⟩=>⟨f,C,(zQ4 h p C).1 e⟩,λ⟨f,C,e⟩=>⟨f,C,(zQ4 h p C).2 e⟩⟩
theorem zEH{s:Sd}(h:gK s)(p d:Pt){f:Nat}(hf:f<s.2.1.length):skM (fmF s (s.2.1.getD f zA)) p d↔skP s p d f:=by
 have h1:(fmF s (s.2.1.getD f zA)).2.1.length≠0:=by
  show(zAX _ _ _).length≠0
  rw[show(zAX s.1 (s.2.1.getD f zA).2.1 (s.2.1.getD f zA).2.1.length).length=_ from yY _ _];have:=zI0 h hf;omega
 exact⟨λe=>e.resolve_right h1,λe=>.inl e⟩
theorem zJJ{s:Sd}(h:gK s)(p d:Pt){f:Nat}(hf:f<s.2.1.length):wrM (fmF s (s.2.1.getD f zA)) p d=whF s f (bM p d (hnF s p f/cnF s d f)):=zQL hf (zE6 h hf).2 _
theorem zK6{s:Sd}(h:gK s)(p d:Pt):∀n,n<=s.2.1.length->crM (gL s) p d n=crP s p d n
  |0,_=>rfl
  |n+1,hn=>by
   unfold crM crP;rw[zGY zot,zK6 h p d n zot,zJJ h p d zot]
   by_cases e:skP s p d n
   · rw[if_pos e,if_pos ((zEH h p d zot).2 e)]
   · rw[if_neg e,if_neg λe'=>e ((zEH h p d zot).1 e')]
     rfl
theorem zY4(P:List Pt)(S:List PIr){q:Nat}(hq:q<S.length):(S.map (edP P)).getD q ed0=edP P S[q]:=by
 rw[zoa,List.getElem?_map,zoc hq]
 rfl
theorem zR6{s:Sd}(h:gK s)(p v:Pt):clM (gL s) p v↔zK8 s p v:=by
 rw[zR5 (cS h)];unfold clM gL;simp only[List.length_map];constructor
 · intro e x hx
   obtain⟨q,C,rfl⟩:=List.mem_iff_getElem.1 hx;have:=e q C;rw[zY4 _ _ C] at this;exact this
 · intro e q C
   have:=e _ (List.getElem_mem C);rw[zY4 _ _ C];exact this
theorem zNP{s:Sd}(h:gK s)(p:Pt):cH (gL s) p=zP8 s p:=by
 unfold cH zP8
 congr 1
 funext k
 exact propext (zR6 h p _)
theorem yB4{s:Sd}(h:gK s){p d:Pt}(hc:zK8 s p d):nbM (gL s) p d:=by
 intro f C e;rw[zAC] at C;rw[zGY C] at e;have D:¬skP s p d f:=λG=>e.1 ((zEH h p d C).2 G);have h0:=e.2;rw[zJJ h p d C] at h0;exact zXG (zLO h) C hc D h0
theorem zQM{s:Sd}(h:gK s)(p:Pt):wdM (gL s) p=zLG s p:=by
 unfold wdM zLG;rw[zNP h]
 by_cases ho:onB s p
 · rw[if_pos ho,if_pos ((bT h p).2 ho)]
 · rw[if_neg ho,if_neg λe=>ho ((bT h p).1 e)]
   have C:=yB4 h (zG4 (cS h) p).2.1;unfold crA crB;rw[if_pos C,if_pos C,zAC,zK6 h _ _ _ (Nat.le_refl _)];exact zR0 s p _ _
end Bk
namespace Bk
open Go Go.RowKit
open Classical
section
variable {P:Program}{n:Nat}{w0:World}{h0:Mem}{e:List (Nat×Value)}{L:List Res}{h:Mem}{Q:Exit->Act->World->Prop}
variable {ds:Option Tmp}{ty:TypeId}{ps:String}{af:Array Edge}{gd:Option (Nat×Bool)}
abbrev tI(u:Int×Int):Value:=.agg #[vI u.1,vI u.2]
def lP(es:Array MapEntry)(S:List (Int×Int)):Prop:=es.toList.map (λx=>(x.key,x.val))=S.map λu=>(tI u,Value.bool true)
theorem map_nil:lP #[] []:=rfl
theorem zMV{t:TypeId}:lO P n w0 h0 ⟨ds,.makeMap t none,ty,ps,af,gd⟩ e L h (λu r=>∃b,u=.map (some b)/\r=.blk b (.map #[] 0)):=by
 intro a w D S;refine⟨_,w.alloc (.map #[] 0),.blk w.heap.size (.map #[] 0),?_,World.grownBy_alloc w _ none,zC1 w _,λb C=>?_,_,I,I⟩
 · simp[execOp,Instr.makeMap,newObj,Sem.run]
 · simp only[Res.fp,Option.some.injEq] at C
   omega
structure MapTy(P:Program)(mt kt et it:TypeId):Prop where
 m:P.underlying mt=some (.map kt et)
 k:P.underlying kt=some (.array 2 it)
 i:P.underlying it=some (.int .i64)
 sz:∀w,(Go.sizeOf it).run P w=.ok 1 w
 ag:∀w,(isAgg it).run P w=.ok false w
 z:∀w,(zeroValue et).run P w=.ok (.bool false) w
variable {mt kt et it:TypeId}
theorem zVX(T:MapTy P mt kt et it)(x y:Int)(w:World):(part it #[vI x,vI y] 0).run P w=.ok (vI x) w:=by simp[part,Sem.run_bind,T.ag]
theorem zVW(T:MapTy P mt kt et it)(x y:Int)(w:World):(part it #[vI x,vI y] 1).run P w=.ok (vI y) w:=by simp[part,Sem.run_bind,T.ag]
theorem mZ{w:World}{r:Nat}{es:Array MapEntry}{clock:Nat}(hb:w.heap[r]?=some (.map es clock)):(getObj r).run P w=.ok (.map es clock) w:=by
 simp[getObj,Sem.run,hb]
theorem zOM{w:World}{r:Nat}{es:Array MapEntry}{clock:Nat}(o:Obj)(hb:w.heap[r]?=some (.map es clock)):(setObj r o).run P w=.ok () {w with heap:=w.heap.setIfInBounds r o}:=by
 simp[setObj,Sem.run,hb]
theorem zSU(T:MapTy P mt kt et it)(u v:Int×Int)(w:World):(Op.equal kt (tI u) (tI v)).run P w=.ok (decide (u=v)) w:=by
 have H:∀(d:Nat) (x y:Int),(Op.equalIn (d+1) it (vI x) (vI y)).run P w=.ok (x==y) w:=λd x y=>by
  unfold Op.equalIn;simp[Sem.run_bind,run_underlying T.i,vI]
 show(Op.equalIn 10000 kt (tI u) (tI v)).run P w=_
 rw[show(10000:Nat)=9999+1 from I,Op.equalIn];simp only[Sem.run_bind,run_underlying T.k,Result.andThen_ok,T.sz];simp only[Std.Legacy.Range.forIn_eq_forIn_range',Std.Legacy.Range.size,Nat.sub_zero,Nat.add_sub_cancel,Nat.div_one,List.range'_succ,List.range'_zero,List.forIn_cons,List.forIn_nil,Nat.zero_mul,Nat.mul_one,Nat.zero_add];have G:∀(x y:Int),(Op.equalIn 9999 it (vI x) (vI y)).run P w=.ok (x==y) w:=λx y=>H 9998 x y;obtain⟨D,C⟩:=u;obtain⟨v1,v2⟩:=v
 by_cases h1:D=v1<;>by_cases h2:C=v2<;>simp[Sem.run_bind,zVX T,zVW T,G,h1,h2]
theorem dG(T:MapTy P mt kt et it)(em:Bool)(u:Int×Int)(w:World):(Instr.checkKey em 10000 kt (tI u)).run P w=.ok () w:=by
 have C:∀(x:Int),(Instr.checkKey em 9999 it (vI x)).run P w=.ok () w:=λx=>by
  rw[show(9999:Nat)=9998+1 from I];unfold Instr.checkKey;simp[Sem.run_bind,run_underlying T.i,vI]
 rw[show(10000:Nat)=9999+1 from I,Instr.checkKey];simp only[Sem.run_bind,run_underlying T.k,Result.andThen_ok];simp only[Std.Legacy.Range.forIn_eq_forIn_range',Std.Legacy.Range.size,Nat.sub_zero,Nat.add_sub_cancel,Nat.div_one,List.range'_succ,List.range'_zero,List.forIn_cons,List.forIn_nil,Nat.zero_mul,Nat.mul_one,Nat.zero_add];simp[Sem.run_bind,T.sz,zVX T,zVW T,C]
theorem zFA(T:MapTy P mt kt et it)(u:Int×Int)(w:World):∀(es:List MapEntry) (S:List (Int×Int)) (i:Nat),es.map (λx=>(x.key,x.val))=S.map (λu=>(tI u,Value.bool true))->
 (u∈S->∃j,(Instr.findAsking kt (tI u) es i).run P w=.ok (some (j,.bool true)) w)/\(u ∉ S->(Instr.findAsking kt (tI u) es i).run P w=.ok none w)
 |[],S,i,hm=>by
  have:S=[]:=by simpa using hm.symm
  subst this;exact⟨λh=>absurd h List.not_mem_nil,λ_=>by simp[Instr.findAsking]⟩
 |x::es,S,i,hm=>by
  match S,hm with
  |v::S,hm=>
   simp only[List.map_cons,List.cons.injEq,Prod.mk.injEq] at hm;obtain⟨⟨J,H⟩,hm⟩:=hm;have G:=zFA T u w es S (i+1) hm;have D:=zSU T u v w;unfold Instr.findAsking;rw[J]
   by_cases huv:u=v
   · refine⟨λ_=>⟨i,?_⟩,λh=>absurd (huv▸List.mem_cons_self) h⟩
     subst huv;have C:decide (u=u)=true:=by simp
     simp only[Sem.run_bind,D,C,Result.andThen_ok];simp[H]
   · have C:decide (u=v)=false:=by simpa using huv
     refine⟨λh=>?_,λh=>?_⟩
     · obtain⟨j,M⟩:=G.1 ((List.mem_cons.1 h).resolve_left huv)
       refine⟨j,?_⟩;simp only[Sem.run_bind,D,C,Result.andThen_ok]
       simpa using M
     · simp only[Sem.run_bind,D,C,Result.andThen_ok]
       simpa using G.2 λe=>h (List.mem_cons_of_mem _ e)
theorem zL1(T:MapTy P mt kt et it)(u:Int×Int)(w:World){es:Array MapEntry}{S:List (Int×Int)}(hm:lP es S):
 (u∈S->∃j,(Instr.findKey kt (tI u) es.toList).run P w=.ok (some (j,.bool true)) w)/\(u ∉ S->(Instr.findKey kt (tI u) es.toList).run P w=.ok none w):=by
 have C:=zFA T u w es.toList S 0 hm;unfold Instr.findKey;simp only[Sem.run_bind,run_underlying T.k,Result.andThen_ok]
 cases hl:es.toList with
 |nil=>
  rw[hl] at C;refine⟨λh=>?_,λ_=>?_⟩
  · unfold lP at hm
    rw[hl] at hm;have:S=[]:=by simpa using hm.symm
    subst this;exact absurd h List.not_mem_nil
  · simp[Instr.findNow]
 |cons x r=>
  rw[hl] at C;have hx:∃v,x.key=tI v:=by
   unfold lP at hm;rw[hl] at hm
   match S,hm with
   |v::S,hm=>
    simp only[List.map_cons,List.cons.injEq,Prod.mk.injEq] at hm;exact⟨v,hm.1.1⟩
  obtain⟨v,D⟩:=hx;have G:Instr.findNow (.array 2 it) (tI u) (x::r) 0=none:=by
   unfold Instr.findNow;rw[D];simp[Instr.sameNow]
  rw[G];exact C
theorem zFQ{x y:Operand}{b clock:Nat}{es:Array MapEntry}{S:List (Int×Int)}{u:Int×Int}(T:MapTy P mt kt et it)(hm:.blk b (.map es clock)∈L)(hx:zJ e x=some (.map (some b)))(hy:zJ e y=some (tI u))(r:lP es S):
 OpV P n w0 h0 ⟨ds,.lookup mt x y false,ty,ps,af,gd⟩ e L h (vB (u∈S)):=by
 intro a w G St;have C:w.heap[b]?=some (.map es clock):=St.ok _ hm;have D:=zL1 T u w r;simp only[execOp,G.eval hx,G.eval hy,Instr.lookup];simp only[Sem.run_bind,run_underlying T.m,Result.andThen_ok,mZ C,dG T]
 by_cases hu:u∈S
 · obtain⟨j,H⟩:=D.1 hu
   rw[xM hu];simp[Sem.run_bind,H,mZ C,dG T]
 · rw[yH hu]
   simp[Sem.run_bind,D.2 hu,mZ C,dG T,T.z]
theorem yAI{A B:List Res}{x y z:Operand}{b clock:Nat}{es:Array MapEntry}{S:List (Int×Int)}{u:Int×Int}(T:MapTy P mt kt et it)(hx:zJ e x=some (.map (some b)))(hy:zJ e y=some (tI u))(hz:zJ e z=some (.bool true))(r:lP es S)(hu:u ∉ S):
 ∃es',lP es' (S++[u])/\Upd P n w0 h0 ⟨ds,.mapUpdate mt x y z,ty,ps,af,gd⟩ e A (.blk b (.map es clock)) B h (.blk b (.map es' (clock+1))):=by
 refine⟨es.push {key:=tI u,val:=.bool true,born:=clock},?_,?_⟩
 · unfold lP at *
   simp[r]
 · intro a w J St
   have H:w.heap[b]?=some (.map es clock):=St.ok (.blk b (.map es clock)) zo2;have M:=(zL1 T u w r).2 hu;refine⟨{w with heap:=w.heap.setIfInBounds b (.map (es.push {key:=tI u,val:=.bool true,born:=clock}) (clock+1))},?_,?_,?_⟩
   · simp only[execOp,J.eval hx,J.eval hy,J.eval hz,Instr.mapUpdate]
     simp[Sem.run_bind,run_underlying T.m,mZ H,dG T,M,zOM _ H]
   · refine⟨I,I,I,by simp,λU O C=>?_⟩
     have G:U≠b:=λe=>C (by simp[Res.fp,e]);simp[Ne.symm G]
   · have D:b<w.heap.size:=(Array.getElem?_eq_some_iff.1 H).1
     show(w.heap.setIfInBounds b _)[b]?=_
     simp[D]
theorem evk{x:Operand}{v w:Value}(h:zJ e x=some v)(q:v=w):zJ e x=some w:=q▸h
theorem zUR{E:TypeId}{i:TypeInfo}{z:Value}(hi:P.info? E=some i)(hz:i.zero=some z)(w:World):(zeroValue E).run P w=.ok z w:=by simp[zeroValue,typeInfo,hi,hz]
theorem zX8{h:Mem}{v:Value}{x y:Int}(r:(rpA 2 rpI).Is h v [x,y]):v=tI (x,y):=by
 obtain⟨cs,⟨_,a,b,rfl,⟨rfl,_⟩,c,d,rfl,⟨rfl,_⟩,e⟩,rfl⟩:=r;rw[show d=[] from e]
 rfl
theorem zT8{ops:Array Oper}{rest:List Oper}{A B:List Res}{x y z:Operand}{b clock:Nat}{es:Array MapEntry}{S:List (Int×Int)}{u:Int×Int}(T:MapTy P mt kt et it)(hx:zJ e x=some (.map (some b)))(hy:zJ e y=some (tI u))(hz:zJ e z=some (.bool true))(r:lP es S)(hu:u ∉ S)
    (k:∀es',lP es' (S++[u])->GL P n w0 h0 ops Q rest e (A++.blk b (.map es' (clock+1))::B) h):GL P n w0 h0 ops Q (⟨none,.mapUpdate mt x y z,ty,ps,af,none⟩::rest) e (A++.blk b (.map es clock)::B) h:=by
 obtain⟨es',C,hu⟩:=yAI (P:=P) (n:=n) (w0:=w0) (h0:=h0) (h:=h) (ds:=none) (ty:=ty) (ps:=ps) (af:=af) (gd:=none) (A:=A) (B:=B) (clock:=clock) T hx hy hz r hu;exact wN hu I I I (k es' C)
end
end Bk
namespace Bk
open Classical
section
variable {P:List Pt}{x:List Int}{S T:List PIr}{u:Nat}
theorem zJQ(P:List Pt)(x:List Int)(S:List PIr):∀n,(sxE P x S n).length<=S.length+n
  |0=>by show S.length<=_;omega
  |n+1=>by
   have ih:=zJQ P x S n;unfold sxE
   split
   · omega
   · rw[lAz]
     show _+1<=_
     omega
theorem zJT{L:List (List Int)}{b:Nat}(hb:∀l,l<L.length->(L.getD l []).length<=b)(P:List Pt)(S:List PIr):∀n,n<=L.length->(slE P L S n).length<=S.length+n*b
  |0,_=>by show S.length<=_;omega
  |n+1,hn=>by
   have ih:=zJT hb P S n zot;have h1:=zJQ P (L.getD n []) (slE P L S n) (L.getD n []).length;have h2:=hb n zot;have h3:(n+1)*b=n*b+b:=Nat.succ_mul n b
   show(sxE P (L.getD n []) (slE P L S n) (L.getD n []).length).length<=_
   omega
theorem zJW{s:Sd}(h:okS s):∀n,n<=s.2.1.length->(sfE s n).length<=n*1024
  |0,_=>by show([]:List PIr).length<=_;simp
  |n+1,hn=>by
   have ih:=zJW h n zot;have h0:=h.2.1 n zot;have h1:=zJT h0.2 s.1 (sfE s n) (s.2.1.getD n zA).2.1.length (Nat.le_refl _);have h2:(s.2.1.getD n zA).2.1.length*64<=16*64:=Nat.mul_le_mul_right _ h0.1
   show(slE s.1 (s.2.1.getD n zA).2.1 (sfE s n) (s.2.1.getD n zA).2.1.length).length<=_
   omega
theorem yFR(hT:T=sxE P x S u)(h1:¬(min (x.getD u 0) (x.getD ((u+1)%x.length) 0),max (x.getD u 0) (x.getD ((u+1)%x.length) 0))∈T)(h2:¬P.getD (x.getD u 0).toNat zT=P.getD (x.getD ((u+1)%x.length) 0).toNat zT):T++[(min (x.getD u 0) (x.getD ((u+1)%x.length) 0),max (x.getD u 0) (x.getD ((u+1)%x.length) 0))]=sxE P x S (u+1):=by
 rw[hT] at h1 ⊢;exact(if_neg λe=>e.elim h1 h2).symm
theorem yAV(hT:T=sxE P x S u)(h1:¬¬(min (x.getD u 0) (x.getD ((u+1)%x.length) 0),max (x.getD u 0) (x.getD ((u+1)%x.length) 0))∈T):T=sxE P x S (u+1):=by
 rw[hT] at h1 ⊢;exact(if_pos (.inl (Classical.not_not.1 h1))).symm
theorem yAU(hT:T=sxE P x S u)(h2:¬¬P.getD (x.getD u 0).toNat zT=P.getD (x.getD ((u+1)%x.length) 0).toNat zT):T=sxE P x S (u+1):=by
 rw[hT];exact(if_pos (.inr (Classical.not_not.1 h2))).symm
theorem yIF{E:List (List Pt)}{a b:Int}(hE:E=T.map (edP P)):E++[[P.getD (min a b).toNat zT,P.getD (max a b).toNat zT]]=(T++[(min a b,max a b)]).map (edP P):=by
 rw[hE,List.map_append]
 rfl
end
theorem zAB{α:Type}(d:α){l:List α}{x:α}(h:x∈l):∃i,i<l.length/\x=l.getD i d:=by
 obtain⟨i,hi,e⟩:=List.mem_iff_getElem.1 h;refine⟨i,hi,?_⟩;rw[<-e,zoa,zoc hi]
 rfl
theorem yDX{s:Sd}(h:okS s):zTW (gL s):=by
 refine⟨by rw[zAC];exact h.1.1.2,?_,λf D=>?_⟩
 · show((sfE s s.2.1.length).map (edP s.1)).length<=_
   rw[List.length_map];have h1:=zJW h s.2.1.length (Nat.le_refl _);have h2:=h.1.1.2;omega
 · rw[zAC] at D
   rw[zGY D];have h0:=h.2.1 f D;have G:(zAX s.1 (s.2.1.getD f zA).2.1 (s.2.1.getD f zA).2.1.length).length=(s.2.1.getD f zA).2.1.length:=yY _ _;refine⟨?_,?_,by show(zAX _ _ _).length<=_;rw[G];omega,λx hx=>?_⟩
   · have:=zDG (s.2.1.getD f zA).1.1
     show 0<=((axI (s.2.1.getD f zA).1.1:Nat):Int)/\((axI (s.2.1.getD f zA).1.1:Nat):Int)<3
     omega
   · have:=zDG (s.2.1.getD f zA).1.1
     show 0<=((axJ (s.2.1.getD f zA).1.1:Nat):Int)/\((axJ (s.2.1.getD f zA).1.1:Nat):Int)<3
     omega
   · have hx:x∈zAX s.1 (s.2.1.getD f zA).2.1 (s.2.1.getD f zA).2.1.length:=hx
     obtain⟨l,H,rfl⟩:=zAB [] hx;have C:l<(s.2.1.getD f zA).2.1.length:=by rw[<-G];exact H
     rw[show(zAX s.1 (s.2.1.getD f zA).2.1 (s.2.1.getD f zA).2.1.length).getD l []=zFK s.1 ((s.2.1.getD f zA).2.1.getD l []) ((s.2.1.getD f zA).2.1.getD l []).length from uT _ _ C,show(zFK s.1 ((s.2.1.getD f zA).2.1.getD l []) ((s.2.1.getD f zA).2.1.getD l []).length).length=_ from yY _ _];have:=h0.2 l C;omega
theorem yHA{s:Sd}(h:gK s)(p:Pt):cH (gL s) p<=3*(gL s).2.length+1/\clM (gL s) p (vK ↑(cH (gL s) p)):=by
 obtain⟨h1,h2,_⟩:=zG4 (cS h) p;rw[zNP h];refine⟨?_,(zR6 h p _).2 h2⟩;have:(gL s).2.length=(sfE s s.2.1.length).length:=List.length_map _;omega
noncomputable def inM(md:Md)(p:Pt):Int:=if onA md p then 0 else if 0<wdM md p then 1 else -1
theorem yGA(a b:Rat):-1<=yR a*yR b/\yR a*yR b<=1:=by
 have h1:=yX a;have h2:=yX b;have g:∀x y:Int,-1<=x/\x<=1-> -1<=y/\y<=1-> -1<=x*y/\x*y<=1:=λx y hx hy=>by
  have:x= -1\/x=0\/x=1:=by omega
  rcases this with rfl|rfl|rfl<;>omega
 exact g _ _ h1 h2
theorem zAY{q:Rat}:0<yR q↔0<q:=by
 rw[rR]
 split
 · next h=>subst h;exact⟨λe=>absurd e zow,λe=>absurd e zow⟩
 · next h=>
   split
   · next h2=>exact⟨λe=>absurd e zow,λe=>by grind⟩
   · next h2=>exact⟨λe=>by grind,λe=>by decide⟩
theorem zQJ{f:Fm}{p d:Pt}(h:¬skM f p d):whM f (T3.mk (p.x+(if xH f.1.1 d=0 then 0 else(f.1.2-xH f.1.1 p)/xH f.1.1 d)*d.x) (p.y+(if xH f.1.1 d=0 then 0 else(f.1.2-xH f.1.1 p)/xH f.1.1 d)*d.y) (p.z+(if xH f.1.1 d=0 then 0 else(f.1.2-xH f.1.1 p)/xH f.1.1 d)*d.z))=wrM f p d:=by
 have C:¬xH f.1.1 d=0:=λe=>h (.inl (by
  unfold cnM;rw[e,show yR 0=0 from if_pos I];omega))
 rw[if_neg C]
 rfl
end Bk
namespace Bk
open Go Go.RowKit
open Classical
theorem zFB{α:Type}{ρ σ:Rp α}(P:α->Prop)(hn:ρ.n=σ.n)(k:∀{h cs x},ρ.R h cs x->P x->σ.R h cs x){h:Mem}{cs:List Value}{xs:List α}(r:(rpS ρ).R h cs xs)(hp:∀x,x∈xs->P x):(rpS σ).R h cs xs:=by
 obtain⟨v,ds,e,s,rl⟩:=r;refine⟨v,ds,e,hn▸s,?_⟩
 clear s e
 induction xs generalizing ds with
 |nil=>exact rl
 |cons x xs ih=>
  obtain⟨a,b,e,ra,rb⟩:=rl;exact⟨a,b,e,k ra (hp x (.head _)),ih (λy hy=>hp y (.tail _ hy)) b rb⟩
def sh3(k:Nat)(p:T3 Rat):Prop:=lq p.x<=k/\lq p.y<=k/\lq p.z<=k
end Bk
namespace Bk
open Classical
theorem yCI{s:Sd}(h:gK s)(p:Pt):inM (gL s) p=inZ s p:=by
 unfold inM inZ;rw[zQM h]
 by_cases ho:onB s p
 · rw[if_pos ho,if_pos ((bT h p).2 ho)]
 · rw[if_neg ho,if_neg λe=>ho ((bT h p).1 e)]
def smS(k m n j:Nat)(s:Sd):Prop:=(∀p,p∈s.1->lqP k p)/\(∀f,f∈s.2.1->lqP m f.1.1/\lq f.1.2<=n)/\∀e,e∈s.2.2->lq e.2.2<=j
section
variable {h:Mem}{cs:List Go.Value}
theorem zYZ{M N m n:Nat}{f:Fc}(r:(rpP (rpP (rpT (rpQ M)) (rpQ N)) (rpP (rpS (rpS rpI)) qI)).R h cs f)(hp:lqP m f.1.1/\lq f.1.2<=n):(rpP (rpP (rpT (rpQ m)) (rpQ n)) (rpP (rpS (rpS rpI)) qI)).R h cs f:=by
 obtain⟨a,b,e,⟨H,G,D,r1,r2⟩,C⟩:=r;exact⟨a,b,e,⟨H,G,D,yGK r1 I hp.1,yGL r2 I hp.2⟩,C⟩
theorem zY3{J j:Nat}{x:En}(r:(rpP rpI (rpP rpI (rpQ J))).R h cs x)(hp:lq x.2.2<=j):(rpP rpI (rpP rpI (rpQ j))).R h cs x:=by
 obtain⟨a,b,e,G,c,d,H,D,C⟩:=r;exact⟨a,b,e,G,c,d,H,D,yGL C I hp⟩
theorem zA4{K M N J k m n j:Nat}{s:Sd}(r:(rpP (rpS (rpT (rpQ K))) (rpP (rpS (rpP (rpP (rpT (rpQ M)) (rpQ N)) (rpP (rpS (rpS rpI)) qI))) (rpS (rpP rpI (rpP rpI (rpQ J)))))).R h cs s)(hp:smS k m n j s):
 (rpP (rpS (rpT (rpQ k))) (rpP (rpS (rpP (rpP (rpT (rpQ m)) (rpQ n)) (rpP (rpS (rpS rpI)) qI))) (rpS (rpP rpI (rpP rpI (rpQ j)))))).R h cs s:=by
 obtain⟨a,b,e,G,c,d,H,D,C⟩:=r;exact⟨a,b,e,zFB (ρ:=rpT (rpQ K)) (σ:=rpT (rpQ k)) (lqP k) I (λr hp=>yGK r I hp) G hp.1,c,d,H,
  zFB (ρ:=rpP (rpP (rpT (rpQ M)) (rpQ N)) (rpP (rpS (rpS rpI)) qI)) (σ:=rpP (rpP (rpT (rpQ m)) (rpQ n)) (rpP (rpS (rpS rpI)) qI)) (λf=>lqP m f.1.1/\lq f.1.2<=n) I zYZ D hp.2.1,
  zFB (ρ:=rpP rpI (rpP rpI (rpQ J))) (σ:=rpP rpI (rpP rpI (rpQ j))) (λx=>lq x.2.2<=j) I zY3 C hp.2.2⟩
end
section
variable {a b:Pt}
theorem zX0{k:Nat}{p:Pt}(h:lqP k p)(i:Nat):lq (p.at i)<=k:=by
 match i with
 |0=>exact h.1
 |1=>exact h.2.1
 |_+2=>exact h.2.2
theorem yJ5{k:Nat}(hk:2<=k)(ha:lqP k a)(hb:lqP k b):smS k 2 (k+2) 0 (bxS a b):=by
 have h1:lq (1:Rat)<=2:=sL 1 zow zow;have h2:lq (-1:Rat)<=2:=sL (-1) zow zow;have h0:=zBP;refine⟨λp G=>?_,λf C=>?_,λe M=>by cases M⟩
 · obtain⟨u,_,rfl⟩:=List.mem_map.1 G
   obtain⟨J,H,u3⟩:=u;have g:∀(x:Bool) (p q:Rat),lq p<=k->lq q<=k->lq (if x then q else p)<=k:=λx p q G O=>by split<;>assumption
   exact⟨g J _ _ ha.1 hb.1,g H _ _ ha.2.1 hb.2.1,g u3 _ _ ha.2.2 hb.2.2⟩
 · have C:f∈fB3 a b:=C
   obtain⟨i,hi,rfl⟩:=zAB zA C;have e:=(dX (a:=a) (b:=b) (f:=i) hi).2;rw[e];generalize gD i=d;obtain⟨d,x⟩:=d;constructor
   · have g:∀c:Rat,lq c<=2->lqP 2 ((zT).set d c):=λc D=>by
      match d with
      |0=>exact⟨D,by show lq 0<=2;omega,by show lq 0<=2;omega⟩
      |1=>exact⟨by show lq 0<=2;omega,D,by show lq 0<=2;omega⟩
      |_+2=>exact⟨by show lq 0<=2;omega,by show lq 0<=2;omega,D⟩
     refine g _ ?_
     split<;>assumption
   · have h3:=iN (if x then 1 else -1) (if x then b.at d else a.at d)
     have Z:lq (if x then 1 else -1:Rat)<=2:=by split<;>assumption
     have U:lq (if x then b.at d else a.at d)<=k:=by
      split
      · exact zX0 hb d
      · exact zX0 ha d
     show lq ((if x then 1 else -1)*(if x then b.at d else a.at d))<=k+2
     omega
structure BoxL(k:Nat)(a b:Pt):Prop where
 lq:lqP k b
 ok:eV a b
 h:blH a b
 e:blE a b=0
 oks:okS (bkS a b)
 snd:gK (bkS a b)
 sm:smS k 2 (k+2) 0 (bkS a b)
 onb:∀p,onA (gL (bkS a b)) p↔(∀u,u<3->kI a b p u)/\¬∀u,u<3->sI a b p u
 wd:∀p,¬onA (gL (bkS a b)) p->wdM (gL (bkS a b)) p=cW (∀u,u<3->sI a b p u)
 inb:∀p,inM (gL (bkS a b)) p=if ∀u,u<3->sI a b p u then 1 else if ∀u,u<3->kI a b p u then 0 else -1
theorem zIA{i:Nat}(h:i<3):i=0\/i=1\/i=2:=by omega
theorem boxl{k:Nat}(hk:2<=k)(ha:lqP k a)(hb:lqP k b)(h:∀u,u<3->a.at u<b.at u):BoxL k a b:=by
 have C:a.x<b.x/\a.y<b.y/\a.z<b.z:=⟨h 0 zow,h 1 zow,h 2 zow⟩;have D:∀i,a.at i<b.at i:=λi=>by
  match i with
  |0=>exact C.1
  |1=>exact C.2.1
  |_+2=>exact C.2.2
 have G:eV a b:=by
  intro u M;rw[zAI];exact Rat.not_le.2 (h u M)
 have e:=zSC G;have H:=zVE C;have J:∀p,onA (gL (bxS a b)) p↔(∀u,u<3->kI a b p u)/\¬∀u,u<3->sI a b p u:=λp=>(bT H p).trans (zQ5 D p);refine⟨hb,G,zZO G,zZQ G,?_,?_,?_,?_,?_,?_⟩
 · rw[e]
   exact zQE C ⟨by decide,show 6<=256 by decide⟩ λf U=>⟨_,(dX (a:=a) (b:=b) U).1⟩
 · rw[e];exact H
 · rw[e];exact yJ5 hk ha hb
 · rw[e];exact J
 · rw[e]
   intro p O;rw[zQM H];exact zQK D λZ=>O ((bT H p).2 Z)
 · rw[e]
   intro p;rw[yCI H];exact yK2 D p
end
structure SaneL:Prop where
 b:BoxL 2 (pI 0 0 0) (pI 1 1 1)
 o1:¬onA (gL (bkS (pI 0 0 0) (pI 1 1 1))) (T3.mk (jU 1 2) (jU 1 2) (jU 1 2))
 w1:wdM (gL (bkS (pI 0 0 0) (pI 1 1 1))) (T3.mk (jU 1 2) (jU 1 2) (jU 1 2))=1
 o2:¬onA (gL (bkS (pI 0 0 0) (pI 1 1 1))) (pI 2 0 0)
 w2:wdM (gL (bkS (pI 0 0 0) (pI 1 1 1))) (pI 2 0 0)=0
 i3:inM (gL (bkS (pI 0 0 0) (pI 1 1 1))) (pI 1 1 1)=0
theorem fM:SaneL:=by
 have O:lqP 2 (pI 0 0 0):=⟨sL _ zow zow,sL _ zow zow,sL _ zow zow⟩;have l1:lqP 2 (pI 1 1 1):=⟨sL _ zow zow,sL _ zow zow,sL _ zow zow⟩;have eh:jU 1 2=1/2:=I;have h:=boxl (a:=pI 0 0 0) (b:=pI 1 1 1) (Nat.le_refl 2) O l1 λu C=>by
  rcases zIA C with rfl|rfl|rfl
  · show((0:Int):Rat)<((1:Int):Rat);decide
  · show((0:Int):Rat)<((1:Int):Rat);decide
  · show((0:Int):Rat)<((1:Int):Rat);decide
 have D:∀u,u<3->sI (pI 0 0 0) (pI 1 1 1) (T3.mk (jU 1 2) (jU 1 2) (jU 1 2)) u:=λu C=>by
  rw[eh]
  rcases zIA C with rfl|rfl|rfl
  · show((0:Int):Rat)<1/2/\1/2<((1:Int):Rat);decide +kernel
  · show((0:Int):Rat)<1/2/\1/2<((1:Int):Rat);decide +kernel
  · show((0:Int):Rat)<1/2/\1/2<((1:Int):Rat);decide +kernel
 have Z:¬∀u,u<3->kI (pI 0 0 0) (pI 1 1 1) (pI 2 0 0) u:=λe=>by
  have:=(e 0 zow).2;exact absurd (show((2:Int):Rat)<=((1:Int):Rat) from this) zow
 have M:¬∀u,u<3->sI (pI 0 0 0) (pI 1 1 1) (pI 2 0 0) u:=λe=>by
  have:=(e 0 zow).2;exact absurd (show((2:Int):Rat)<((1:Int):Rat) from this) zow
 have U:∀u,u<3->kI (pI 0 0 0) (pI 1 1 1) (pI 1 1 1) u:=λu C=>by
  rcases zIA C with rfl|rfl|rfl
  · show((0:Int):Rat)<=((1:Int):Rat)/\((1:Int):Rat)<=((1:Int):Rat);decide
  · show((0:Int):Rat)<=((1:Int):Rat)/\((1:Int):Rat)<=((1:Int):Rat);decide
  · show((0:Int):Rat)<=((1:Int):Rat)/\((1:Int):Rat)<=((1:Int):Rat);decide
 have J:¬∀u,u<3->sI (pI 0 0 0) (pI 1 1 1) (pI 1 1 1) u:=λe=>by
  have:=(e 0 zow).2;exact absurd (show((1:Int):Rat)<((1:Int):Rat) from this) zow
 have H:¬onA (gL (bkS (pI 0 0 0) (pI 1 1 1))) (T3.mk (jU 1 2) (jU 1 2) (jU 1 2)):=λe=>((h.onb _).1 e).2 D;have G:¬onA (gL (bkS (pI 0 0 0) (pI 1 1 1))) (pI 2 0 0):=λe=>Z ((h.onb _).1 e).1;refine⟨h,H,?_,G,?_,?_⟩
 · rw[h.wd _ H,lD D]
 · rw[h.wd _ G,kG M]
 · rw[h.inb,if_neg J,if_pos U]
def bxW(a b p:Pt)(i:Nat)(w:Int):Prop:=(∀u,u<i->kI a b p u)/\((w=1/\∀u,u<i->sI a b p u)\/(w=0/\¬∀u,u<i->sI a b p u))
end Bk
namespace Bk
open Go Go.RowKit
section
variable {P:Program}{n:Nat}{w0:World}{h0:Mem}{e:List (Nat×Value)}{A B R:List Res}{q:Res}{h:Mem}{Q:Exit->Act->World->Prop}
theorem yE4:(A++q::(B++R)).Perm (A++(B++(R++[q]))):=by
 refine List.Perm.append_left A ?_;rw[<-List.append_assoc];exact(List.perm_append_singleton q (B++R)).symm
theorem zT9{ops:Array Oper}{l:List Oper}(k:GL P n w0 h0 ops Q l e (A++(B++(R++[q]))) h):GL P n w0 h0 ops Q l e (A++q::(B++R)) h:=λa w E S=>k a w E (S.perm yE4)
theorem zYN{x:Exit}(k:GQ n w0 h0 Q x e (q::(A++B)) h):GQ n w0 h0 Q x e (A++q::B) h:=λa w E S=>k a w E (S.perm List.perm_middle)
theorem yKF:((A++R)++B).Perm (A++(B++R)):=by
 rw[List.append_assoc];exact List.Perm.append_left A List.perm_append_comm
theorem zYQ{ops:Array Oper}{l:List Oper}(k:GL P n w0 h0 ops Q l e (A++(B++R)) h):GL P n w0 h0 ops Q l e ((A++R)++B) h:=λa w E S=>k a w E (S.perm yKF)
end
section
variable {α:Type}{ρ:Rp α}{E:Nat}{h h':Mem}
def nY(E:Nat)(ρ:Rp α)(h:Mem):List Value->List (List α)->List Res->Prop
  |[],_,R=>R=[]
  |v::vs,x::xs,R=>∃cs R',R=.gs E ρ.n v x.length cs::R'/\v.oneCell'=true/\RL ρ h cs x/\nY E ρ h vs xs R'
  |_::_,[],_=>False
theorem nY.mono(hh:MLe h h'):∀{vs:List Value} {xs:List (List α)} {R:List Res},nY E ρ h vs xs R->nY E ρ h' vs xs R
  |[],_,_,r=>r
  |_::_,_::_,_,⟨cs,R',e,o,r,s⟩=>⟨cs,R',e,o,r.mono hh,s.mono hh⟩
  |_::_,[],_,r=>r.elim
theorem nY.snoc:∀{vs:List Value} {xs:List (List α)} {R:List Res} {v:Value} {x:List α} {cs:List Value},nY E ρ h vs xs R->vs.length=xs.length->v.oneCell'=true->RL ρ h cs x->nY E ρ h (vs++[v]) (xs++[x]) (R++[.gs E ρ.n v x.length cs])
  |[],[],R,v,x,cs,r,_,o,rl=>by
   have:R=[]:=r;subst this;exact⟨cs,[],rfl,o,rl,rfl⟩
  |[],_::_,_,_,_,_,_,hl,_,_=>absurd hl zo2
  |_::_,[],_,_,_,_,r,_,_,_=>r.elim
  |_::vs,_::xs,R,v,x,cs,⟨c1,R',e,o1,r1,s⟩,hl,o,rl=>by
   subst e;exact⟨c1,_,rfl,o1,r1,s.snoc (by simpa using hl) o rl⟩
theorem nY.head{vs:List Value}{xs:List (List α)}{R:List Res}{i:Nat}(r:nY E ρ h (vs.drop i) (xs.drop i) R)(hi:i<vs.length)(hx:i<xs.length):∃cs R',R=.gs E ρ.n (vs.getD i (.slice none 0 0)) (xs.getD i []).length cs::R'/\(vs.getD i (.slice none 0 0)).oneCell'=true/\RL ρ h cs (xs.getD i [])/\nY E ρ h (vs.drop (i+1)) (xs.drop (i+1)) R':=by
 rw[List.drop_eq_getElem_cons hi,List.drop_eq_getElem_cons hx] at r;have D:vs.getD i (.slice none 0 0)=vs[i]:=by rw[zoa,zoc hi];rfl
 have C:xs.getD i []=xs[i]:=by rw[zoa,zoc hx];rfl
 rw[D,C];exact r
end
abbrev FV:=Pl×Value×List Nat
abbrev fv0:FV:=((T3.mk (0:Rat) 0 0,(0:Rat)),((Value.slice none 0 0),([]:List Nat)))
abbrev nV:Value:=.slice none 0 0
def fvZ(F:List Fc)(vs:List Value):Nat->List FV:=uZ λu=>((F.getD u zA).1,(vs.getD u nV,(F.getD u zA).2.2))
def lpS(F:List Fc):List (List (List Int)):=F.map λf=>f.2.1
section
variable {k l:Nat}{h:Mem}
theorem fv_R{π:Rp Pl}{cs:List Value}{a:Pl}{v:Value}{X:List (List Int)}{m:List Nat}(r:(rpP π (rpP rpV qI)).R h cs (a,(v,m)))(s:(rpS (rpS rpI)).Is h v X):(rpP π (rpP (rpS (rpS rpI)) qI)).R h cs (a,(X,m)):=by
 obtain⟨p,q,e,H,C,J,M,G,D⟩:=r;exact⟨p,q,e,H,C,J,M,by rw[show C=[v] from G.1];exact zJX s,D⟩
theorem yDZ{π:Rp Pl}:∀{xs:List FV} {ys:List Fc} {cs:List Value},RL (rpP π (rpP rpV qI)) h cs xs->xs.length=ys.length->(∀u,u<xs.length->(xs.getD u fv0).1=(ys.getD u zA).1/\(xs.getD u fv0).2.2=(ys.getD u zA).2.2/\(rpS (rpS rpI)).Is h (xs.getD u fv0).2.1 (ys.getD u zA).2.1)->RL (rpP π (rpP (rpS (rpS rpI)) qI)) h cs ys
  |[],[],_,r,_,_=>r
  |[],_::_,_,_,hl,_=>absurd hl zo2
  |_::_,[],_,_,hl,_=>absurd hl zo2
  |x::xs,y::ys,_,⟨a,b,e,r,s⟩,hl,hg=>by
   obtain⟨g1,g2,g3⟩:=hg 0 (Nat.zero_lt_succ _);refine⟨a,b,e,?_,yDZ s (by simpa using hl) λu hu=>hg (u+1) (Nat.succ_lt_succ hu)⟩;obtain⟨x1,x2,x3⟩:=x;obtain⟨y1,y2,y3⟩:=y;have g1':x1=y1:=g1;have g2':x3=y3:=g2;subst g1' g2';exact fv_R r g3
end
theorem zRG(F:List Fc){i:Nat}(hi:i<F.length):(lpS F).getD i []=(F.getD i zA).2.1:=by
 unfold lpS;rw[zoa,zoa,List.getElem?_map,zoc hi];rfl
theorem zX1{F:List Fc}{i:Nat}(hi:i<F.length):(lpS F).take (i+1)=(lpS F).take i++[(F.getD i zA).2.1]:=by
 have C:i<(lpS F).length:=by unfold lpS;rw[List.length_map];exact hi
 rw[List.take_succ_eq_append_getElem C,<-zRG F hi,zoa,zoc C];rfl
theorem zKP(F:List Fc):(lpS F).length=F.length:=List.length_map _
theorem yCB(F:List Fc):(lpS F).take F.length=lpS F:=by rw[<-zKP,List.take_length]
theorem yK5{π:Rp Pl}{ρ:Rp (List Int)}{h:Mem}{v:Value}{f:Fc}(r:(rpP π (rpP (rpS ρ) qI)).Is h v f):∃u,(rpP π (rpP rpV qI)).Is h v (f.1,(u,f.2.2))/\(rpS ρ).Is h u f.2.1:=by
 obtain⟨cs,r,e⟩:=r;obtain⟨p,q,U,H,Z,J,O,C,G⟩:=r;have M:=(rpS ρ).one C;obtain⟨u,ds,rfl,s,D⟩:=C;exact⟨u,⟨cs,⟨p,q,U,H,[u],J,O,⟨I,by simpa using M⟩,G⟩,e⟩,[u],⟨u,ds,I,s,D⟩,I⟩
theorem zXZ(q:Rat):lq (((-1:Int):Rat)*q)=lq q:=by
 rw[show(((-1:Int):Rat)*q)= -q by rw[show(((-1:Int):Rat))= -(1:Rat) from I];grind];exact zGL q
theorem zWX{K L m n:Nat}{h h':Mem}{v v':Value}{pl:Pl}(r:(rpP (rpT (rpQ K)) (rpQ L)).Is h v (opP pl))(s:(rpP (rpT (rpQ m)) (rpQ n)).Is h' v' pl):(rpP (rpT (rpQ m)) (rpQ n)).Is h v (opP pl):=by
 obtain⟨cs,⟨U,O,M,r1,r2⟩,e⟩:=r;obtain⟨ds,⟨b1,b2,Z,D,C⟩,_⟩:=s;obtain⟨x,_,rfl,⟨_,J⟩,y,z,rfl,⟨_,H⟩,⟨_,G⟩⟩:=D;refine⟨cs,⟨U,O,M,yGK r1 I ⟨?_,?_,?_⟩,yGL r2 I ?_⟩,e⟩
 · exact(zXZ _).symm▸J
 · exact(zXZ _).symm▸H
 · exact(zXZ _).symm▸G
 · show lq (-pl.2)<=n
   rw[zGL];exact C.2
theorem zYU{F:List Fc}{vs:List Value}{f:Nat}(v:Value)(h:vs.length=f):fvZ F vs f++[((F.getD f zA).1,(v,(F.getD f zA).2.2))]=fvZ F (vs++[v]) (f+1):=by
 subst h
 show _=fvZ F (vs++[v]) vs.length++[((F.getD vs.length zA).1,((vs++[v]).getD vs.length nV,(F.getD vs.length zA).2.2))]
 have D:(vs++[v]).getD vs.length nV=v:=by simp
 rw[D]
 congr 1
 refine bV _ λu C=>?_;have:(vs++[v]).getD u nV=vs.getD u nV:=by
  rw[zoa,zoa,List.getElem?_append_left C]
 rw[this]
def flZ(F:List Fc)(vs:List Value)(i:Nat):List FV:=uZ (λu=>(if u<i then opP (F.getD u zA).1 else(F.getD u zA).1,(vs.getD u nV,(F.getD u zA).2.2))) F.length
theorem fl_0{F:List Fc}{vs:List Value}(h:vs.length=F.length):fvZ F vs vs.length=flZ F vs 0:=by
 unfold fvZ flZ;rw[h];exact bV _ λu _=>by rw[if_neg (Nat.not_lt_zero u)]
theorem oY(F:List Fc)(vs:List Value)(i:Nat):(flZ F vs i).length=F.length:=yY _ _
theorem zAH{F:List Fc}{vs:List Value}{i u:Nat}(hu:u<F.length):(flZ F vs i).getD u fv0=(if u<i then opP (F.getD u zA).1 else(F.getD u zA).1,(vs.getD u nV,(F.getD u zA).2.2)):=uT _ fv0 hu
theorem yH5{F:List Fc}{vs:List Value}{i:Nat}(hi:i<F.length):(flZ F vs i).set i (opP ((flZ F vs i).getD i fv0).1,((flZ F vs i).getD i fv0).2)=flZ F vs (i+1):=by
 rw[zAH hi,if_neg (Nat.lt_irrefl i)];refine mN fv0 (by rw[lS,oY,oY]) λu C=>?_;rw[lS,oY] at C;rw[zAH C]
 by_cases e:u=i
 · subst e
   rw[if_pos (Nat.lt_succ_self u),zoa,List.getElem?_set_self (by rw[oY];exact C)];rfl
 · rw[zoa,List.getElem?_set_ne (λh=>e h.symm),<-zoa,zAH C]
   by_cases c:u<i
   · rw[if_pos c,if_pos zot]
   · rw[if_neg c,if_neg zot]
def rvL(L:List (List Int))(k:Nat):List (List Int):=uZ (λq=>if q<k then zCH (L.getD q []) (L.getD q []).length else L.getD q []) L.length
theorem j9(L:List (List Int))(k:Nat):(rvL L k).length=L.length:=yY _ _
theorem zE9{L:List (List Int)}{k q:Nat}(hq:q<L.length):(rvL L k).getD q []=if q<k then zCH (L.getD q []) (L.getD q []).length else L.getD q []:=uT _ [] hq
theorem rv_0(L:List (List Int)):rvL L 0=L:=by
 refine mN [] (j9 L 0) λq C=>?_;rw[j9] at C;rw[zE9 C,if_neg (Nat.not_lt_zero q)]
theorem yGI{L:List (List Int)}{k:Nat}(hk:k<L.length):(rvL L k).set k (zCH ((rvL L k).getD k []) ((rvL L k).getD k []).length)=rvL L (k+1):=by
 rw[zE9 hk,if_neg (Nat.lt_irrefl k)];refine mN [] (by rw[lS,j9,j9]) λu C=>?_;rw[lS,j9] at C;rw[zE9 C]
 by_cases e:u=k
 · subst e
   rw[if_pos (Nat.lt_succ_self u),zoa,List.getElem?_set_self (by rw[j9];exact C)];rfl
 · rw[zoa,List.getElem?_set_ne (λh=>e h.symm),<-zoa,zE9 C]
   by_cases c:u<k
   · rw[if_pos c,if_pos zot]
   · rw[if_neg c,if_neg zot]
theorem nY.flip{E:Nat}{h:Mem}{vs:List Value}{F:List Fc}{R:List Res}{i:Nat}(r:nY E (rpS rpI) h (vs.drop i) ((lpS F).drop i) R)(hi:i<vs.length)(hx:i<F.length):∃cs R',R=.gs E 1 (vs.getD i nV) (rvL (F.getD i zA).2.1 0).length cs::R'/\(vs.getD i nV).oneCell'=true/\RL (rpS rpI) h cs (rvL (F.getD i zA).2.1 0)/\nY E (rpS rpI) h (vs.drop (i+1)) ((lpS F).drop (i+1)) R':=by
 rw[rv_0,<-zRG F hx];exact r.head hi (by rw[zKP];exact hx)
def zEB(h:Mem)(vs:List Value)(G:Nat->List (List Int))(i:Nat):Prop:=∀u,u<i->(rpS (rpS rpI)).Is h (vs.getD u nV) (G u)
theorem zEB.mono{h h':Mem}(hh:MLe h h'){vs:List Value}{G:Nat->List (List Int)}{i:Nat}(r:zEB h vs G i):zEB h' vs G i:=λu hu=>(r u hu).mono hh
theorem zEB.next{h h':Mem}(hh:MLe h h'){vs:List Value}{G:Nat->List (List Int)}{i:Nat}(r:zEB h vs G i)(s:(rpS (rpS rpI)).Is h' (vs.getD i nV) (G i)):zEB h' vs G (i+1):=λu hu=>by
 rcases Nat.lt_succ_iff_lt_or_eq.1 hu with h1|rfl
 · exact(r u h1).mono hh
 · exact s
theorem nY.up{α:Type}{ρ:Rp α}{E:Nat}{h h':Mem}{vs:List Value}{xs:List (List α)}{R:List Res}(r:nY E ρ h vs xs R)(hm:MLe h h':=by exact mle):nY E ρ h' vs xs R:=r.mono hm
theorem zEB.up{h h':Mem}{vs:List Value}{G:Nat->List (List Int)}{i:Nat}(r:zEB h vs G i)(hm:MLe h h':=by exact mle):zEB h' vs G i:=r.mono hm
def fcS(f:Fc):Fc:=(opP f.1,(rvL f.2.1 f.2.1.length,f.2.2))
def flS(s:Sd):Sd:=(s.1,(s.2.1.map fcS,s.2.2))
theorem yH6{h:Mem}{π:Rp Pl}{F:List Fc}{vs:List Value}{cs:List Value}(r:RL (rpP π (rpP rpV qI)) h cs (flZ F vs F.length))(s:zEB h vs (λu=>rvL (F.getD u zA).2.1 (F.getD u zA).2.1.length) F.length):RL (rpP π (rpP (rpS (rpS rpI)) qI)) h cs (F.map fcS):=by
 refine yDZ r (by rw[oY,List.length_map]) λu C=>?_;rw[oY] at C;have e:(F.map fcS).getD u zA=fcS (F.getD u zA):=by
  rw[zoa,zoa,List.getElem?_map,zoc C];rfl
 rw[zAH C,e,if_pos C];exact⟨I,I,s u C⟩
end Bk
namespace Go.Proofs.YtpkaegemlpaenaaGreat
open Bk Go Tryz
set_option maxRecDepth 10000
set_option maxHeartbeats 1000000
attribute [local irreducible] GL GC GQ W OpV
theorem zMP{w0:World}{h0:Mem}(hs:MLe h0 (mem w0)){vL:Value}{L:(List (List Int))}(rL:tII.Is h0 vL L)(hcd0:L.length<=100000)(hcd1:∀x,x∈L->x.length<=100000):
 Calls Tryz.prog 99 #[vL] w0 (fW w0 h0 (λh r L_=>∃vF cs,rpV.Is h r vF/\L_=[.gs 22 1 vF (L).length cs]/\vF.oneCell'=true/\RL (rpS rpI) h cs (L))):=by
 refine cb1 20 vL func99 hs ?_;refine nR ?_;refine xG 22 1 ?_;have Z:=RL.nil (ρ:=rpS rpI) (h:=h0);refine gcL (ι:=Nat×List (List Int)×Value×List Value×Mem) (λ(i,D,C,G,mi)=>(MLe h0 mi/\(RL (rpS rpI) mi G D/\C.oneCell'=true/\i<=L.length/\D=L.take i),[(0,vL),(3,C),(4,vI ↑i)],[.gs 22 1 C D.length G],mi,L.length-i)) (0,[],(.slice none 0 0),[],h0) ?_ ?_
 · exact⟨mle,Z,I,by omega,I⟩
 rintro⟨i,D,C,G,mi⟩ ⟨ao,H,J,bb,hD⟩
 refine yW ?_;have be:=zNH hcd1 i;have ba:D.length<=i:=by rw[hD,List.length_take];omega
 refine gc9 (λak=>?_) λak=>?_
 ·
  refine go8 ?_;refine lX (xI [] i underlying51 fK rL) λaw aj=>(lX (xA fK aj) λav ai=>(zC2 3 1 ?_));have U:=RL.nil (ρ:=rpI) (h:=mi);refine xL (A:=[]) (vX (zU (ρ:=rpI) (bytes:=8) underlying22 jV I I I I nP I I U ai bO bO)) I I I ?_
  rintro au az ⟨an,aq,rfl,ac⟩
  refine zP (A:=[]) (ρ:=rpI) ac ?_;intro h1 bd O;refine zG (zL (ρ:=(rpS rpI)) (m:=1) (xs:=[(([]:List Int)++(L.getD i []))]) (ps':=[(0,_)]) underlying51 qX I I I wG e2z (zD I (Pc.arr (Pc.here _) [] 0 dC) O zO) zoj nP) I I I ?_
  rintro ar ay ⟨ap,rfl,ab⟩
  refine zP (A:=[]) (ρ:=(rpS rpI)) ab ?_;intro h2 bc M;refine xL (A:=[]) (vX (zU (ρ:=(rpS rpI)) (bytes:=24) underlying51 qX I I I I nP I I H.up M bO bO)) I I I ?_
  rintro ah ax ⟨ad,ae,rfl,aa⟩
  refine go9 ?_;refine gqL ((i+1),(D++[(([]:List Int)++(L.getD i []))]),ah,ae,h2) ?_ ?_
  · exact⟨mle,aa,ad,by omega,by rw[hD,List.nil_append];exact(zIB [] oM).symm⟩
  omega
 have ei:i=L.length:=by omega
 have am:D=L:=by rw[hD,ei,List.take_length]
 refine uV ?_;rw[<-am];refine kO (.cons_cons _ (List.nil_sublist _)) (λE S=>zV I (tE I) E S) ?_;exact⟨_,_,oS J,I,J,H.up⟩
set_option maxHeartbeats 1000000 in
section
variable{w0:World}{h0:Mem}(hs:MLe h0 (mem w0))
include hs
theorem zTQ{k m n j:Nat}{vs:Value}{s:Sq}(rs:(tSd k m n j).Is h0 vs s)(hcd0:okS s)(hcd1:1<=m)(hcd2:1<=n):
 Calls Tryz.prog 64 #[vs] w0 (fW w0 h0 (λh r L_=>∃vP csP vF csF vs R,(rpP rpV (rpP rpV (rpS (rpP rpI (rpP rpI (rpQ j)))))).Is h r (vP,(vF,s.2.2))/\L_=.gs 31 9 vP s.1.length csP::.gs 53 14 vF (fvZ s.2.1 vs vs.length).length csF::R/\(vP.oneCell'=true/\vF.oneCell'=true/\vs.length=s.2.1.length)/\RL (tPt k) h csP s.1/\RL (rpP (tPl m n) (rpP rpV qI)) h csF (fvZ s.2.1 vs vs.length)/\nY 22 (rpS rpI) h vs (lpS s.2.1) R)):=by
 have dn:=hcd0.1.1.1;have dm:=hcd0.1.1.2;have dl:=hcd0.1.2;refine cb1 36 vs func64 hs ?_;refine go2 ?_;refine nB rs λb1 ck ai=>(nA (ρ:=(rpP rpV (rpP rpV (rpS (rpP rpI (rpP rpI (rpQ j))))))) (X:=((Value.slice none 0 0),((Value.slice none 0 0),[]))) qS (yC gV (yC gV wG)) λb2 cj br=>(go3 ?_));refine zK 8 _ [(7,(3,39,[.slice none 0 0,.slice none 0 0,.slice none 0 0]))] [(0,.q),(1,.q),(3,.q),(4,.q),(2,.c),(5,.c),(6,.c),(7,.a),(8,.t)] yA (jM.cons I I (uR qS I I) jM.nil) zou (uU I I kU) (λr hr=>hr) (go1 ?_);refine wX I (xB uO (Pc.fst pH) ai) λv7 r7=>(go1 ?_);refine wX I (xB yE0 (Pc.snd (Pc.snd pH)) ai) λdf cb=>?_;refine w_c I (iB 31 9 ?_);have bd:=RL.nil (ρ:=rpT (rpQ k)) (h:=h0);refine fF (A:=[]) (λX=>vX (zU (ρ:=(tPt k)) (bytes:=168) underlying35 yM I I I I nP I I bd r7 bO bO)) I (xJ zoy) ?_
 rintro v8 q8 ⟨bh,ci,rfl,bo⟩
 refine w_c I (iB 237 5 ?_);have bc:=RL.nil (ρ:=rpP rpI (rpP rpI (rpQ j))) (h:=h0);refine fF (A:=[]) (λX=>vX (zU (ρ:=(rpP rpI (rpP rpI (rpQ j)))) (bytes:=72) underlying37 zRL I I I I nP I I bc cb bO bO)) I (xJ zoy) ?_
 rintro de dk ⟨cm,cp,rfl,bf⟩
 refine w_c I (xS (A:=[]) (ρ:=(rpP rpI (rpP rpI (rpQ j)))) bf dK ?_);intro h1 dp az;refine sX (xV (ρ:=(rpP rpV (rpP rpV (rpS (rpP rpI (rpP rpI (rpQ j))))))) (xZ (ps':=[(0,_),(2,_)]) underlying39 qS I I (rH underlying39) e4z I (yC gV (yC gV wG)) (zD I (Pc.fst (Pc.here _)) (oS bh) (zD I (Pc.snd (Pc.snd (Pc.here _))) az zO)))) λdd ca=>?_;refine w_a I I (λb3=>?_);have bq:(rpP rpV (rpP rpV (rpS (rpP rpI (rpP rpI (rpQ j)))))).R h1 [.slice none 0 0,.slice none 0 0,.slice none 0 0] ((Value.slice none 0 0),((Value.slice none 0 0),[])):=(yC gV (yC gV wG));refine yK (A:=[]) I (uB sizeOf39 pH bq ca) λbl bg=>(go9 ?_);refine xG 53 14 ?_;have bb:=RL.nil (ρ:=rpP (tPl m n) (rpP rpV qI)) (h:=h1);refine gcL (ι:=Nat×List Value×List Res×List Value×Value×List Value×Value×List Value×Mem) (λ(f,us,R,ad,G,D,M,J,ma)=>(MLe h1 ma/\((rpP rpV (rpP rpV (rpS (rpP rpI (rpP rpI (rpQ j)))))).R ma ad (G,(M,s.2.2))/\RL (tPt k) ma D s.1/\G.oneCell'=true/\RL (rpP (tPl m n) (rpP rpV qI)) ma J (fvZ s.2.1 us f)/\M.oneCell'=true/\f<=s.2.1.length/\us.length=f/\nY 22 (rpS rpI) ma us ((lpS s.2.1).take f) R),[(1,vP b1 0),(2,vP b2 0),(3,vP b3 0),(4,vI ↑f)],(.gs 53 14 M (fvZ s.2.1 us f).length J::.var b3 39 ad::.gs 31 9 G s.1.length D::.var b2 39 cj::.var b1 39 ck::R),ma,s.2.1.length-f)) (0,[],([]:List Res),bl,v8,ci,(.slice none 0 0),[],h1) ?_ ?_
 · exact⟨mle,bg,bo.up,bh,bb,I,by omega,I,I⟩
 rintro⟨f,us,R,ad,G,D,M,J,ma⟩ ⟨cn,H,Z,ac,U,aw,dr,ak,bk⟩
 refine yW ?_;have dq:(fvZ s.2.1 us f).length=f:=yY _ _;refine go5 ?_;refine lX (xB kR (Pc.snd (Pc.fst pH)) ai) λdc dh=>(gc4 (λbi=>?_) λbi=>?_)
 ·
  refine go7 ?_;refine lX (xB kR (Pc.snd (Pc.fst pH)) ai) λdb bz=>(go1 ?_);refine lX (xI zA f underlying36 pV bz) λda bx=>(lX (xA pV bx) λcz bw=>?_);obtain⟨ah,ay,ba⟩:=yK5 bw;refine nA (ρ:=(rpP (tPl m n) (rpP rpV qI))) (X:=((zT,(0:Rat)),((Value.slice none 0 0),([]:List Nat)))) jE (yC (yC (xO (yI oM)) (yI oM)) (yC gV gH)) λb5 dt bp=>(zW (A:=[]) (uB sizeOf53 pH bp ay) λch aa=>(go5 ?_));refine lX (tX (xB pW (Pc.snd (Pc.fst pH)) aa)) λcy bv=>?_;subst bv;refine qA (vs:=[_]) I I I I call99 ⟨I,trivial⟩ (λw hs=>zMP hs ba (by first|omega|exact Nat.le_trans (hcd0.2.1 f oM).1 dC|(intro x hx;obtain⟨q,hq,rfl⟩:=zAB [] hx;exact Nat.le_trans ((hcd0.2.1 f oM).2 q hq) dC)) (by first|omega|exact Nat.le_trans (hcd0.2.1 f oM).1 dC|(intro x hx;obtain⟨q,hq,rfl⟩:=zAB [] hx;exact Nat.le_trans ((hcd0.2.1 f oM).2 q hq) dC))) ?_;intro cw h2 du ce av;obtain⟨C,ae,av,rfl,ab,O⟩:=av;obtain rfl:=yKP av
  change RL (rpS rpI) h2 ae ((s.2.1.getD f zA).2.1) at O
  refine go1 ?_;refine zW (A:=[_]) (uB sizeOf51 (Pc.snd (Pc.fst pH)) aa (oS ab)) λcg au=>(go4 ?_);refine lX (tX (xB kR (Pc.snd (Pc.fst pH)) H)) λcv bu=>?_;subst bu;refine lX (xB pV pH au) λcu bt=>(zG (zL (ρ:=(rpP (tPl m n) (rpP rpV qI))) (m:=1) (xs:=[(((s.2.1.getD f zA).1,(ah,(s.2.1.getD f zA).2.2)).1,(C,(((s.2.1.getD f zA).1,(ah,(s.2.1.getD f zA).2.2)).2).2))]) (ps':=[(0,_)]) underlying36 jE I I I (yC (yC (xO (yI oM)) (yI oM)) (yC gV gH)) e2z (zD I (Pc.arr (Pc.here _) fv0 0 dC) bt zO) zom nP) I I I ?_)
  rintro ct dj ⟨co,rfl,be⟩
  refine zP (A:=[]) (ρ:=(rpP (tPl m n) (rpP rpV qI))) be ?_;intro h3 cd ao;refine xL (A:=[_,_]) (vX (zU (ρ:=(rpP (tPl m n) (rpP rpV qI))) (bytes:=264) underlying36 jE I I I I nP I I U.up ao bO bO)) I I I ?_
  rintro bn di ⟨an,bm,rfl,am⟩
  rw[show((fvZ s.2.1 us f)++[(((s.2.1.getD f zA).1,(ah,(s.2.1.getD f zA).2.2)).1,(C,(((s.2.1.getD f zA).1,(ah,(s.2.1.getD f zA).2.2)).2).2))])=(fvZ s.2.1 (us++[C]) (f+1)) by exact zYU C ak] at am ⊢;refine go1 ?_;refine zW (A:=[_,_,_]) (uB sizeOf36 (Pc.snd (Pc.fst pH)) H (oS an)) λax ar=>(go4 ?_);refine zT9 (A:=[]) (B:=[_,_,_,_,_,_]) (R:=R) (go4 ?_);refine yO (A:=[]) ?_;refine gqL ((f+1),(us++[C]),(R++[.gs 22 1 C ((s.2.1.getD f zA).2.1).length ae]),ax,G,D,bn,bm,h3) ?_ ?_
  · exact⟨mle,ar,Z.up,ac,am,an,by omega,by rw[lAz,ak];rfl,by rw[zX1 oM];exact(bk.mono (ce.trans cd)).snoc (by rw[ak,List.length_take,zKP];omega) ab O.up⟩
  omega
 have ef:f=s.2.1.length:=by omega
 have cc:us.length=s.2.1.length:=by omega
 have bj:nY 22 (rpS rpI) ma us (lpS s.2.1) R:=by rw[<-yCB s.2.1,<-ef];exact bk
 refine go7 ?_;refine lX (xB jB pH H) λcq bs=>(zW (A:=[_,_,_]) (uB sizeOf39 pH br bs) λcf aq=>(go3 ?_));subst ak;refine zYN (A:=[_,_]) (wT (kJ (t:=2) jB mh3 I aq) ?_);intro cl aj ap;refine kO (.cons_cons _ (.cons_cons _ (.cons _ (.cons _ (.cons _ (List.Sublist.refl _)))))) (λE S=>zV I aj E S) ?_;exact⟨_,_,_,_,us,_,ap,I,⟨ac,aw,cc⟩,Z.up,U.up,bj⟩
theorem zFW{k l:Nat}{va:Value}{a:Tq}(ra:(tPt k).Is h0 va a){vb:Value}{b:Tq}(rb:(tPt l).Is h0 vb b)(hcd0:k+l<=1000000000):Calls Tryz.prog 14 #[va,vb] w0 (Ret w0 h0 (λh r=>(tPt (k+l+1)).Is h r (T3.mk (a.x+b.x) (a.y+b.y) (a.z+b.z)))):=by
 obtain⟨M,J,H⟩:=zLN ra;obtain⟨G,D,C⟩:=zLN rb;exact(zW7 hs ra rb hcd0).mono (gE λh r x=>zE5 x (by have:=lF a.x b.x;show lq (a.x+b.x)<=_;omega) (by have:=lF a.y b.y;show lq (a.y+b.y)<=_;omega) (by have:=lF a.z b.z;show lq (a.z+b.z)<=_;omega))
theorem lE{k l:Nat}{va:Value}{a:Tq}(ra:(tPt k).Is h0 va a){vb:Value}{b:Tq}(rb:(tPt l).Is h0 vb b)(hcd0:k+l<=1000000000):Calls Tryz.prog 22 #[va,vb] w0 (Ret w0 h0 (λh r=>(tPt (k+l+1)).Is h r (T3.mk (a.x-b.x) (a.y-b.y) (a.z-b.z)))):=by
 obtain⟨M,J,H⟩:=zLN ra;obtain⟨G,D,C⟩:=zLN rb;exact(zMN hs ra rb hcd0).mono (gE λh r x=>zE5 x (by have:=zGK a.x b.x;show lq (a.x-b.x)<=_;omega) (by have:=zGK a.y b.y;show lq (a.y-b.y)<=_;omega) (by have:=zGK a.z b.z;show lq (a.z-b.z)<=_;omega))
theorem oF{l k:Nat}{vq:Value}{q:Rat}(rq:(rpQ l).Is h0 vq q){va:Value}{a:Tq}(ra:(tPt k).Is h0 va a)(hcd0:k+l<=1000000000):Calls Tryz.prog 20 #[vq,va] w0 (Ret w0 h0 (λh r=>(tPt (k+l)).Is h r (T3.mk (q*a.x) (q*a.y) (q*a.z)))):=by
 obtain⟨H,G,D⟩:=zLN ra;have C:=(of_q rq).2;exact(zF2 hs rq ra hcd0).mono (gE λh r x=>zE5 x (by have:=iN q a.x;show lq (q*a.x)<=_;omega) (by have:=iN q a.y;show lq (q*a.y)<=_;omega) (by have:=iN q a.z;show lq (q*a.z)<=_;omega))
theorem zPN{k l:Nat}{va:Value}{a:Tq}(ra:(tPt k).Is h0 va a){vb:Value}{b:Tq}(rb:(tPt l).Is h0 vb b)(hcd0:k+l<=10000000000):
 Calls Tryz.prog 154 #[va,vb,vF 160 []] w0 (Ret w0 h0 (λh r=>(tPt (k+l+1+1)).Is h r (T3.mk (a.x+b.x) (a.y+b.y) (a.z+b.z)))):=by
 refine cb3 24 va vb (vF 160 []) func154 hs ?_;refine go2 ?_;refine nB ra λb3 bl Z=>(nB rb λb4 bk U=>(nA (ρ:=(tPt (k+l+1+1))) (X:=zT) yM (xO (yI oM)) λb6 bj az=>(go4 ?_)));refine nA (ρ:=(tPt (k+l+1+1))) (X:=zT) yM (xO (yI oM)) λb7 bi ay=>(go9 ?_);refine fU (go2 ?_);refine gv (OpV.tr dC (yJ (q:=3) I I)) I (tZ ?_);refine zK 10 _ [] [(0,.q),(1,.q),(2,.q),(3,.q),(4,.q),(5,.q),(6,.q),(7,.q),(8,.c),(9,.q),(10,.t)] yA nX zou nX (λr hr=>hr) (go4 ?_);refine wX I (xB yE (Pc.tx pH) Z) λax ai=>(go2 ?_);refine wX I (xB yE (Pc.tx pH) U) λau ad=>?_;refine w_c I (aH (cG (vs:=[_,_]) call160 I e2z) I (λw hs=>aQ hs ai ad oM) ?_);intro M h1 bh G
 change (rpQ (k+l+1)).Is h1 M (a.x+b.x) at G
 refine go1 ?_;refine yK (A:=[]) I (uB sizeOf29 (Pc.tx pH) ay (G.le (Le.q (l:=k+l+1+1) oM))) λbd ao=>(go4 ?_);refine gv ((zR (q:=1) I I oM oM).cv (show _=vI (1) from I)) I (go2 ?_);refine wE (go2 ?_);refine gv (OpV.tr dC (yJ (q:=3) I I)) I (tZ ?_);refine zK 10 _ [] [(0,.q),(1,.q),(2,.q),(3,.q),(4,.q),(5,.q),(6,.q),(7,.q),(8,.c),(9,.q),(10,.t)] yA nX zou nX (λr hr=>hr) (go4 ?_);refine wX I (xB yE (Pc.ty pH) Z) λaw ah=>(go2 ?_);refine wX I (xB yE (Pc.ty pH) U) λar ac=>?_;refine w_c I (aH (cG (vs:=[_,_]) call160 I e2z) I (λw hs=>aQ hs ah ac oM) ?_);intro J h2 bg D
 change (rpQ (k+l+1)).Is h2 J (a.y+b.y) at D
 refine go1 ?_;refine yK (A:=[]) I (uB sizeOf29 (Pc.ty pH) ao (D.le (Le.q (l:=k+l+1+1) oM))) λbc an=>(go4 ?_);refine gv ((zR (q:=1) I I oM oM).cv (show _=vI (2) from I)) I (go2 ?_);refine wE (go2 ?_);refine gv (OpV.tr dC (yJ (q:=3) I I)) I (tZ ?_);refine zK 10 _ [] [(0,.q),(1,.q),(2,.q),(3,.q),(4,.q),(5,.q),(6,.q),(7,.q),(8,.c),(9,.q),(10,.t)] yA nX zou nX (λr hr=>hr) (go4 ?_);refine wX I (xB yE (Pc.tz pH) Z) λav ae=>(go2 ?_);refine wX I (xB yE (Pc.tz pH) U) λaq ab=>?_;refine w_c I (aH (cG (vs:=[_,_]) call160 I e2z) I (λw hs=>aQ hs ae ab oM) ?_);intro H h3 bf C
 change (rpQ (k+l+1)).Is h3 H (a.z+b.z) at C
 refine go1 ?_;refine yK (A:=[]) I (uB sizeOf29 (Pc.tz pH) an (C.le (Le.q (l:=k+l+1+1) oM))) λbb am=>(go4 ?_);refine gv ((zR (q:=1) I I oM oM).cv (show _=vI (3) from I)) I (go2 ?_);refine wE (go2 ?_);refine gv (OpV.fa dC (yJ (q:=3) I I)) I (qM ?_);refine lX (xB zM pH am) λap aa=>(zW (A:=[_]) (uB sizeOf31 pH az aa) λba ak=>(go3 ?_));refine wT (kJ (t:=6) zM mh1 I ak) ?_;intro be aj O;refine yV (λE S=>zV I aj E S) ?_;exact O
theorem zPL{k l:Nat}{va:Value}{a:Tq}(ra:(tPt k).Is h0 va a){vb:Value}{b:Tq}(rb:(tPt l).Is h0 vb b)(hcd0:k+l<=10000000000):
 Calls Tryz.prog 154 #[va,vb,vF 121 []] w0 (Ret w0 h0 (λh r=>(tPt (k+l+1+1)).Is h r (T3.mk (a.x-b.x) (a.y-b.y) (a.z-b.z)))):=by
 refine cb3 24 va vb (vF 121 []) func154 hs ?_;refine go2 ?_;refine nB ra λb3 bl ae=>(nB rb λb4 bk ad=>(nA (ρ:=(tPt (k+l+1+1))) (X:=zT) yM (xO (yI oM)) λb6 bj az=>(go4 ?_)));refine nA (ρ:=(tPt (k+l+1+1))) (X:=zT) yM (xO (yI oM)) λb7 bi ay=>(go9 ?_);refine fU (go2 ?_);refine gv (OpV.tr dC (yJ (q:=3) I I)) I (tZ ?_);refine zK 10 _ [] [(0,.q),(1,.q),(2,.q),(3,.q),(4,.q),(5,.q),(6,.q),(7,.q),(8,.c),(9,.q),(10,.t)] yA nX zou nX (λr hr=>hr) (go4 ?_);refine wX I (xB yE (Pc.tx pH) ae) λax ao=>(go2 ?_);refine wX I (xB yE (Pc.tx pH) ad) λau ak=>?_;refine w_c I (aH (cG (vs:=[_,_]) call121 I e2z) I (λw hs=>fS hs ao ak oM) ?_);intro O h1 bh G
 change (rpQ (k+l+1)).Is h1 O (a.x-b.x) at G
 refine go1 ?_;refine yK (A:=[]) I (uB sizeOf29 (Pc.tx pH) ay (G.le (Le.q (l:=k+l+1+1) oM))) λbd ac=>(go4 ?_);refine gv ((zR (q:=1) I I oM oM).cv (show _=vI (1) from I)) I (go2 ?_);refine wE (go2 ?_);refine gv (OpV.tr dC (yJ (q:=3) I I)) I (tZ ?_);refine zK 10 _ [] [(0,.q),(1,.q),(2,.q),(3,.q),(4,.q),(5,.q),(6,.q),(7,.q),(8,.c),(9,.q),(10,.t)] yA nX zou nX (λr hr=>hr) (go4 ?_);refine wX I (xB yE (Pc.ty pH) ae) λaw an=>(go2 ?_);refine wX I (xB yE (Pc.ty pH) ad) λar aj=>?_;refine w_c I (aH (cG (vs:=[_,_]) call121 I e2z) I (λw hs=>fS hs an aj oM) ?_);intro M h2 bg D
 change (rpQ (k+l+1)).Is h2 M (a.y-b.y) at D
 refine go1 ?_;refine yK (A:=[]) I (uB sizeOf29 (Pc.ty pH) ac (D.le (Le.q (l:=k+l+1+1) oM))) λbc ab=>(go4 ?_);refine gv ((zR (q:=1) I I oM oM).cv (show _=vI (2) from I)) I (go2 ?_);refine wE (go2 ?_);refine gv (OpV.tr dC (yJ (q:=3) I I)) I (tZ ?_);refine zK 10 _ [] [(0,.q),(1,.q),(2,.q),(3,.q),(4,.q),(5,.q),(6,.q),(7,.q),(8,.c),(9,.q),(10,.t)] yA nX zou nX (λr hr=>hr) (go4 ?_);refine wX I (xB yE (Pc.tz pH) ae) λav am=>(go2 ?_);refine wX I (xB yE (Pc.tz pH) ad) λaq ai=>?_;refine w_c I (aH (cG (vs:=[_,_]) call121 I e2z) I (λw hs=>fS hs am ai oM) ?_);intro J h3 bf C
 change (rpQ (k+l+1)).Is h3 J (a.z-b.z) at C
 refine go1 ?_;refine yK (A:=[]) I (uB sizeOf29 (Pc.tz pH) ab (C.le (Le.q (l:=k+l+1+1) oM))) λbb aa=>(go4 ?_);refine gv ((zR (q:=1) I I oM oM).cv (show _=vI (3) from I)) I (go2 ?_);refine wE (go2 ?_);refine gv (OpV.fa dC (yJ (q:=3) I I)) I (qM ?_);refine lX (xB zM pH aa) λap ah=>(zW (A:=[_]) (uB sizeOf31 pH az ah) λba Z=>(go3 ?_));refine wT (kJ (t:=6) zM mh1 I Z) ?_;intro be H U;refine yV (λE S=>zV I H E S) ?_;exact U
theorem zPM{k l:Nat}{va:Value}{a:Tq}(ra:(tPt k).Is h0 va a){vb:Value}{b:Tq}(rb:(tPt l).Is h0 vb b)(hcd0:k+l<=10000000000):
 Calls Tryz.prog 154 #[va,vb,vF 153 []] w0 (Ret w0 h0 (λh r=>(tPt (k+l+1)).Is h r (T3.mk (a.x*b.x) (a.y*b.y) (a.z*b.z)))):=by
 refine cb3 24 va vb (vF 153 []) func154 hs ?_;refine go2 ?_;refine nB ra λb3 bl am=>(nB rb λb4 bk ak=>(nA (ρ:=(tPt (k+l+1))) (X:=zT) yM (xO (yI oM)) λb6 bj az=>(go4 ?_)));refine nA (ρ:=(tPt (k+l+1))) (X:=zT) yM (xO (yI oM)) λb7 bi ay=>(go9 ?_);refine fU (go2 ?_);refine gv (OpV.tr dC (yJ (q:=3) I I)) I (tZ ?_);refine zK 10 _ [] [(0,.q),(1,.q),(2,.q),(3,.q),(4,.q),(5,.q),(6,.q),(7,.q),(8,.c),(9,.q),(10,.t)] yA nX zou nX (λr hr=>hr) (go4 ?_);refine wX I (xB yE (Pc.tx pH) am) λax ao=>(go2 ?_);refine wX I (xB yE (Pc.tx pH) ak) λaw an=>?_;refine w_c I (aH (cG (vs:=[_,_]) call153 I e2z) I (λw hs=>kK hs ao an oM) ?_);intro ac h1 bh G
 change (rpQ (k+l)).Is h1 ac (a.x*b.x) at G
 refine go1 ?_;refine yK (A:=[]) I (uB sizeOf29 (Pc.tx pH) ay (G.le (Le.q (l:=k+l+1) oM))) λbd aj=>(go4 ?_);refine gv ((zR (q:=1) I I oM oM).cv (show _=vI (1) from I)) I (go2 ?_);refine wE (go2 ?_);refine gv (OpV.tr dC (yJ (q:=3) I I)) I (tZ ?_);refine zK 10 _ [] [(0,.q),(1,.q),(2,.q),(3,.q),(4,.q),(5,.q),(6,.q),(7,.q),(8,.c),(9,.q),(10,.t)] yA nX zou nX (λr hr=>hr) (go4 ?_);refine wX I (xB yE (Pc.ty pH) am) λav aa=>(go2 ?_);refine wX I (xB yE (Pc.ty pH) ak) λar U=>?_;refine w_c I (aH (cG (vs:=[_,_]) call153 I e2z) I (λw hs=>kK hs aa U oM) ?_);intro J h2 bg D
 change (rpQ (k+l)).Is h2 J (a.y*b.y) at D
 refine go1 ?_;refine yK (A:=[]) I (uB sizeOf29 (Pc.ty pH) aj (D.le (Le.q (l:=k+l+1) oM))) λbc ai=>(go4 ?_);refine gv ((zR (q:=1) I I oM oM).cv (show _=vI (2) from I)) I (go2 ?_);refine wE (go2 ?_);refine gv (OpV.tr dC (yJ (q:=3) I I)) I (tZ ?_);refine zK 10 _ [] [(0,.q),(1,.q),(2,.q),(3,.q),(4,.q),(5,.q),(6,.q),(7,.q),(8,.c),(9,.q),(10,.t)] yA nX zou nX (λr hr=>hr) (go4 ?_);refine wX I (xB yE (Pc.tz pH) am) λau Z=>(go2 ?_);refine wX I (xB yE (Pc.tz pH) ak) λaq O=>?_;refine w_c I (aH (cG (vs:=[_,_]) call153 I e2z) I (λw hs=>kK hs Z O oM) ?_);intro H h3 bf C
 change (rpQ (k+l)).Is h3 H (a.z*b.z) at C
 refine go1 ?_;refine yK (A:=[]) I (uB sizeOf29 (Pc.tz pH) ai (C.le (Le.q (l:=k+l+1) oM))) λbb ah=>(go4 ?_);refine gv ((zR (q:=1) I I oM oM).cv (show _=vI (3) from I)) I (go2 ?_);refine wE (go2 ?_);refine gv (OpV.fa dC (yJ (q:=3) I I)) I (qM ?_);refine lX (xB zM pH ah) λap M=>(zW (A:=[_]) (uB sizeOf31 pH az M) λba ae=>(go3 ?_));refine wT (kJ (t:=6) zM mh1 I ae) ?_;intro be ab ad;refine yV (λE S=>zV I ab E S) ?_;exact ad
theorem yBX{k l:Nat}{va:Value}{a:Tq}(ra:(tPt k).Is h0 va a){vb:Value}{b:Tq}(rb:(tPt l).Is h0 vb b)(hcd0:k+l<=10000000000):
 Calls Tryz.prog 124 #[va,vb] w0 (Ret w0 h0 (λh r=>(tPt (k+l+2)).Is h r (T3.mk (a.x+b.x) (a.y+b.y) (a.z+b.z)))):=by
 refine cb2 8 va vb func124 hs ?_;refine go2 ?_;refine nB ra λb2 ad M=>(nB rb λb3 ac J=>(nA (ρ:=(tPt (k+l+2))) (X:=zT) yM (xO (yI oM)) λb4 ab H=>(go4 ?_)));refine lX (xB zM pH M) λv5 r5=>(lX (xB zM pH J) λv6 r6=>(cL (ev3 I I I) call154 (λw hs=>zPN hs r5 r6 oM) λv7 h1 aa O=>?_));replace O:=Rp.Is.le O (Le.t (Le.q (l:=k+l+2) oM));refine zW (A:=[]) (uB sizeOf31 pH H O) λU G=>(go3 ?_);refine wT (kJ (t:=4) zM mh0 I G) ?_;intro Z C D;refine yV (λE S=>zV I C E S) ?_;exact D
theorem zKB{k l:Nat}{va:Value}{a:Tq}(ra:(tPt k).Is h0 va a){vb:Value}{b:Tq}(rb:(tPt l).Is h0 vb b)(hcd0:k+l<=10000000000):
 Calls Tryz.prog 115 #[va,vb] w0 (Ret w0 h0 (λh r=>(tPt (k+l+2)).Is h r (T3.mk (a.x-b.x) (a.y-b.y) (a.z-b.z)))):=by
 refine cb2 8 va vb func115 hs ?_;refine go2 ?_;refine nB ra λb2 ad M=>(nB rb λb3 ac J=>(nA (ρ:=(tPt (k+l+2))) (X:=zT) yM (xO (yI oM)) λb4 ab H=>(go4 ?_)));refine lX (xB zM pH M) λv5 r5=>(lX (xB zM pH J) λv6 r6=>(cL (ev3 I I I) call154 (λw hs=>zPL hs r5 r6 oM) λv7 h1 aa O=>?_));replace O:=Rp.Is.le O (Le.t (Le.q (l:=k+l+2) oM));refine zW (A:=[]) (uB sizeOf31 pH H O) λU G=>(go3 ?_);refine wT (kJ (t:=4) zM mh0 I G) ?_;intro Z C D;refine yV (λE S=>zV I C E S) ?_;exact D
theorem zTF{l k:Nat}{vq:Value}{q:Rat}(rq:(rpQ l).Is h0 vq q){va:Value}{a:Tq}(ra:(tPt k).Is h0 va a)(hcd0:k+l<=1000000000):
 Calls Tryz.prog 125 #[vq,va] w0 (Ret w0 h0 (λh r=>(tPt (k+l+2)).Is h r (T3.mk (q*a.x) (q*a.y) (q*a.z)))):=by
 refine cb2 11 vq va func125 hs ?_;refine go2 ?_;refine nB rq λb2 ae H=>(nB ra λb3 ad O=>(nA (ρ:=(tPt (k+l+2))) (X:=zT) yM (xO (yI oM)) λb4 ac M=>(go4 ?_)));refine lX (xB yE pH H) λv5 r5=>(lX (xB yE pH H) λv6 r6=>(lX (xB yE pH H) λv7 r7=>(lX (xV (ρ:=(tPt (l+1))) (wB (ps':=[(0,_),(1,_),(2,_)]) underlying31 yM I I sizeOf29 e6z I (xO (yI oM)) (zD I (Pc.tx (Pc.here _)) (r5.le (Le.q (l:=l+1) oM)) (zD I (Pc.ty (Pc.here _)) (r6.le (Le.q (l:=l+1) oM)) (zD I (Pc.tz (Pc.here _)) (r7.le (Le.q (l:=l+1) oM)) zO))))) λv8 r8=>(lX (xB zM pH O) λv9 r9=>(cL (ev3 I I I) call154 (λw hs=>zPM hs r8 r9 oM) λaa h1 ab J=>?_)))));replace J:=Rp.Is.le J (Le.t (Le.q (l:=k+l+2) oM));refine zW (A:=[]) (uB sizeOf31 pH M J) λU G=>(go3 ?_);refine wT (kJ (t:=4) zM mh0 I G) ?_;intro Z C D;refine yV (λE S=>zV I C E S) ?_;exact D
theorem zEJ{k l:Nat}{va:Value}{a:Tq}(ra:(tPt k).Is h0 va a){vb:Value}{b:Tq}(rb:(tPt l).Is h0 vb b)(hcd0:k+l<=1000000000):
 Calls Tryz.prog 120 #[va,vb] w0 (Ret w0 h0 (λh r=>(rpQ (3*k+3*l+9)).Is h r (xH a b))):=by
 refine cb2 21 va vb func120 hs ?_;refine go2 ?_;refine nB ra λb2 ce bc=>(nB rb λb3 cd bb=>(nA (ρ:=(rpQ (3*k+3*l+9))) (X:=(0:Rat)) xR (yI oM) λb4 cc bo=>(go4 ?_)));refine nA (ρ:=(rpQ 1)) (X:=(0:Rat)) xR (yI dC) λb5 cb bd=>(go9 ?_);refine fU (go2 ?_);refine gv (OpV.tr dC (yJ (q:=3) I I)) I (tZ ?_);refine zK 9 _ [] [(0,.q),(1,.q),(2,.q),(3,.q),(4,.q),(5,.q),(6,.q),(7,.c),(8,.c),(9,.t)] yA nX zou nX (λr hr=>hr) (wX I (xB yE pH bd) λbn ar=>(go2 ?_));refine wX I (xB yE (Pc.tx pH) bc) λbk ao=>(go2 ?_);refine wX I (xB yE (Pc.tx pH) bb) λbh ak=>?_;refine w_c I (sC (ev2 I I) call153 (λw hs=>kK hs ao ak oM) λae h1 ca M=>?_)
 change (rpQ (k+l)).Is h1 ae (a.x*b.x) at M
 refine w_c I (sC (ev2 I I) call160 (λw hs=>aQ hs ar.up M oM) λab h2 bz G=>?_)
 change (rpQ (1+(k+l)+1)).Is h2 ab ((0:Rat)+(a.x*b.x)) at G
 replace G:=Rp.Is.le G (Le.q (l:=k+l+2) oM);have ax:=(Le.q (l:=k+l+2) oM).R bd;refine yK (A:=[]) I (uB sizeOf29 pH ax G) λbs U=>(go4 ?_);refine gv ((zR (q:=1) I I oM oM).cv (show _=vI (1) from I)) I (go2 ?_);refine wE (go2 ?_);refine gv (OpV.tr dC (yJ (q:=3) I I)) I (tZ ?_);refine zK 9 _ [] [(0,.q),(1,.q),(2,.q),(3,.q),(4,.q),(5,.q),(6,.q),(7,.c),(8,.c),(9,.t)] yA nX zou nX (λr hr=>hr) (wX I (xB yE pH U) λbm aq=>(go2 ?_));refine wX I (xB yE (Pc.ty pH) bc) λbj an=>(go2 ?_);refine wX I (xB yE (Pc.ty pH) bb) λbg aj=>?_;refine w_c I (sC (ev2 I I) call153 (λw hs=>kK hs an aj oM) λad h3 bx J=>?_)
 change (rpQ (k+l)).Is h3 ad (a.y*b.y) at J
 refine w_c I (sC (ev2 I I) call160 (λw hs=>aQ hs aq.up J oM) λaa h4 bw D=>?_)
 change (rpQ ((k+l+2)+(k+l)+1)).Is h4 aa (((0:Rat)+(a.x*b.x))+(a.y*b.y)) at D
 replace D:=Rp.Is.le D (Le.q (l:=2*k+2*l+3) oM);have aw:=(Le.q (l:=2*k+2*l+3) oM).R U;refine yK (A:=[]) I (uB sizeOf29 pH aw D) λbr O=>(go4 ?_);refine gv ((zR (q:=1) I I oM oM).cv (show _=vI (2) from I)) I (go2 ?_);refine wE (go2 ?_);refine gv (OpV.tr dC (yJ (q:=3) I I)) I (tZ ?_);refine zK 9 _ [] [(0,.q),(1,.q),(2,.q),(3,.q),(4,.q),(5,.q),(6,.q),(7,.c),(8,.c),(9,.t)] yA nX zou nX (λr hr=>hr) (wX I (xB yE pH O) λbl ap=>(go2 ?_));refine wX I (xB yE (Pc.tz pH) bc) λbi am=>(go2 ?_);refine wX I (xB yE (Pc.tz pH) bb) λbf ai=>?_;refine w_c I (sC (ev2 I I) call153 (λw hs=>kK hs am ai oM) λac h5 bv H=>?_)
 change (rpQ (k+l)).Is h5 ac (a.z*b.z) at H
 refine w_c I (sC (ev2 I I) call160 (λw hs=>aQ hs ap.up H oM) λZ h6 bu C=>?_)
 change (rpQ ((2*k+2*l+3)+(k+l)+1)).Is h6 Z ((((0:Rat)+(a.x*b.x))+(a.y*b.y))+(a.z*b.z)) at C
 replace C:=Rp.Is.le C (Le.q (l:=3*k+3*l+4) oM);have av:=(Le.q (l:=3*k+3*l+4) oM).R O;refine yK (A:=[]) I (uB sizeOf29 pH av C) λbq ba=>(go4 ?_);refine gv ((zR (q:=1) I I oM oM).cv (show _=vI (3) from I)) I (go2 ?_);refine wE (go2 ?_);refine gv (OpV.fa dC (yJ (q:=3) I I)) I (qM ?_);refine lX (xB yE pH ba) λbe ah=>(zW (A:=[_]) (uB sizeOf29 pH bo (ah.le (Le.q (l:=3*k+3*l+9) oM))) λbp az=>(go3 ?_));refine wT (kJ (t:=4) yE mh1 I az) ?_;intro bt au ay;refine yV (λE S=>zV I au E S) ?_;exact(Rp.Is.cast ay (by unfold xH;grind))
theorem zIM{k l:Nat}{va:Value}{a:Tq}(ra:(tPt k).Is h0 va a){vb:Value}{b:Tq}(rb:(tPt l).Is h0 vb b)(hcd0:k+l<=1000000000):
 Calls Tryz.prog 114 #[va,vb] w0 (Ret w0 h0 (λh r=>(tPt (2*k+2*l+3)).Is h r (xQ a b))):=by
 refine cb2 37 va vb func114 hs ?_;refine go2 ?_;refine nB ra λb2 cq ab=>(nB rb λb3 cp aa=>(nA (ρ:=(tPt (2*k+2*l+3))) (X:=zT) yM (xO (yI oM)) λb4 co bx=>(go4 ?_)));refine nA (ρ:=(tPt (2*k+2*l+3))) (X:=zT) yM (xO (yI oM)) λb5 cn bw=>(go9 ?_);refine fU (go2 ?_);refine gv (OpV.tr dC (yJ (q:=3) I I)) I (nR ?_);refine gv ((zR (q:=1) I I oM oM).cv (show _=vI (1) from I)) I (gv ((wC (q:=3) I I oM oM).cv (show _=vI (1) from I)) I (go1 ?_));refine gv ((zR (q:=2) I I oM oM).cv (show _=vI (2) from I)) I (gv ((wC (q:=3) I I oM oM).cv (show _=vI (2) from I)) I (go4 ?_));refine zK 17 _ [] [(0,.q),(1,.q),(2,.q),(3,.q),(4,.q),(5,.q),(6,.q),(8,.q),(9,.q),(10,.q),(11,.q),(12,.q),(13,.q),(7,.c),(14,.c),(15,.c),(16,.q),(17,.t)] yA nX (wJ zou) nX (λr hr=>hr) (go3 ?_);refine wX I (xB yE (Pc.ty pH) ab) λbv bc=>(go2 ?_);refine wX I (xB yE (Pc.tz pH) aa) λbs az=>(go2 ?_);refine wX I (xB yE (Pc.tz pH) ab) λbp aw=>(go2 ?_);refine wX I (xB yE (Pc.ty pH) aa) λbm ar=>?_;refine w_c I (sC (ev2 I I) call153 (λw hs=>kK hs bc az oM) λan h1 cm Z=>?_)
 change (rpQ (k+l)).Is h1 an (a.y*b.z) at Z
 refine w_c I (sC (ev2 I I) call153 (λw hs=>kK hs aw.up ar.up oM) λaj h2 cl M=>?_)
 change (rpQ (k+l)).Is h2 aj (a.z*b.y) at M
 refine w_c I (sC (ev2 I I) call121 (λw hs=>fS hs Z.up M oM) λae h3 ck G=>?_)
 change (rpQ ((k+l)+(k+l)+1)).Is h3 ae ((a.y*b.z)-(a.z*b.y)) at G
 replace G:=Rp.Is.le G (Le.q (l:=2*k+2*l+1) oM);refine go1 ?_;refine yK (A:=[]) I (uB sizeOf29 (Pc.tx pH) bw (G.le (Le.q (l:=2*k+2*l+3) oM))) λcc bi=>(go4 ?_);refine gv ((zR (q:=1) I I oM oM).cv (show _=vI (1) from I)) I (go2 ?_);refine wE (go2 ?_);refine gv (OpV.tr dC (yJ (q:=3) I I)) I (nR ?_);refine gv ((zR (q:=1) I I oM oM).cv (show _=vI (2) from I)) I (gv ((wC (q:=3) I I oM oM).cv (show _=vI (2) from I)) I (go1 ?_));refine gv ((zR (q:=2) I I oM oM).cv (show _=vI (3) from I)) I (gv ((wC (q:=3) I I oM oM).cv (show _=vI (0) from I)) I (go4 ?_));refine zK 17 _ [] [(0,.q),(1,.q),(2,.q),(3,.q),(4,.q),(5,.q),(6,.q),(8,.q),(9,.q),(10,.q),(11,.q),(12,.q),(13,.q),(7,.c),(14,.c),(15,.c),(16,.q),(17,.t)] yA nX (wJ zou) nX (λr hr=>hr) (go3 ?_);refine wX I (xB yE (Pc.tz pH) ab) λbu bb=>(go2 ?_);refine wX I (xB yE (Pc.tx pH) aa) λbr ay=>(go2 ?_);refine wX I (xB yE (Pc.tx pH) ab) λbo av=>(go2 ?_);refine wX I (xB yE (Pc.tz pH) aa) λbl aq=>?_;refine w_c I (sC (ev2 I I) call153 (λw hs=>kK hs bb ay oM) λam h4 cj U=>?_)
 change (rpQ (k+l)).Is h4 am (a.z*b.x) at U
 refine w_c I (sC (ev2 I I) call153 (λw hs=>kK hs av.up aq.up oM) λai h5 ci J=>?_)
 change (rpQ (k+l)).Is h5 ai (a.x*b.z) at J
 refine w_c I (sC (ev2 I I) call121 (λw hs=>fS hs U.up J oM) λad h6 ch D=>?_)
 change (rpQ ((k+l)+(k+l)+1)).Is h6 ad ((a.z*b.x)-(a.x*b.z)) at D
 replace D:=Rp.Is.le D (Le.q (l:=2*k+2*l+1) oM);refine go1 ?_;refine yK (A:=[]) I (uB sizeOf29 (Pc.ty pH) bi (D.le (Le.q (l:=2*k+2*l+3) oM))) λcb bh=>(go4 ?_);refine gv ((zR (q:=1) I I oM oM).cv (show _=vI (2) from I)) I (go2 ?_);refine wE (go2 ?_);refine gv (OpV.tr dC (yJ (q:=3) I I)) I (nR ?_);refine gv ((zR (q:=1) I I oM oM).cv (show _=vI (3) from I)) I (gv ((wC (q:=3) I I oM oM).cv (show _=vI (0) from I)) I (go1 ?_));refine gv ((zR (q:=2) I I oM oM).cv (show _=vI (4) from I)) I (gv ((wC (q:=3) I I oM oM).cv (show _=vI (1) from I)) I (go4 ?_));refine zK 17 _ [] [(0,.q),(1,.q),(2,.q),(3,.q),(4,.q),(5,.q),(6,.q),(8,.q),(9,.q),(10,.q),(11,.q),(12,.q),(13,.q),(7,.c),(14,.c),(15,.c),(16,.q),(17,.t)] yA nX (wJ zou) nX (λr hr=>hr) (go3 ?_);refine wX I (xB yE (Pc.tx pH) ab) λbt ba=>(go2 ?_);refine wX I (xB yE (Pc.ty pH) aa) λbq ax=>(go2 ?_);refine wX I (xB yE (Pc.ty pH) ab) λbn au=>(go2 ?_);refine wX I (xB yE (Pc.tx pH) aa) λbk ap=>?_;refine w_c I (sC (ev2 I I) call153 (λw hs=>kK hs ba ax oM) λak h7 cg O=>?_)
 change (rpQ (k+l)).Is h7 ak (a.x*b.y) at O
 refine w_c I (sC (ev2 I I) call153 (λw hs=>kK hs au.up ap.up oM) λah h8 cf H=>?_)
 change (rpQ (k+l)).Is h8 ah (a.y*b.x) at H
 refine w_c I (sC (ev2 I I) call121 (λw hs=>fS hs O.up H oM) λac h9 ce C=>?_)
 change (rpQ ((k+l)+(k+l)+1)).Is h9 ac ((a.x*b.y)-(a.y*b.x)) at C
 replace C:=Rp.Is.le C (Le.q (l:=2*k+2*l+1) oM);refine go1 ?_;refine yK (A:=[]) I (uB sizeOf29 (Pc.tz pH) bh (C.le (Le.q (l:=2*k+2*l+3) oM))) λca bg=>(go4 ?_);refine gv ((zR (q:=1) I I oM oM).cv (show _=vI (3) from I)) I (go2 ?_);refine wE (go2 ?_);refine gv (OpV.fa dC (yJ (q:=3) I I)) I (qM ?_);refine lX (xB zM pH bg) λbj ao=>(zW (A:=[_]) (uB sizeOf31 pH bx ao) λbz bf=>(go3 ?_));refine wT (kJ (t:=4) zM mh1 I bf) ?_;intro cd bd be;refine yV (λE S=>zV I bd E S) ?_;exact be
theorem zMG{k l:Nat}{va:Value}{a:Tq}(ra:(tPt k).Is h0 va a){vb:Value}{b:Tq}(rb:(tPt l).Is h0 vb b)(hcd0:k+l<=10000000000):
 Calls Tryz.prog 119 #[va,vb] w0 (Ret w0 h0 (λ_ r=>r=vB (a=b))):=by
 refine cb2 18 va vb func119 hs ?_;refine go2 ?_;refine nB ra λb2 av ah=>(nB rb λb3 au ae=>(uG ?_));refine fU (go2 ?_);refine gv (OpV.tr dC (yJ (q:=3) I I)) I (rA ?_);refine zK 8 _ [] [(0,.q),(1,.q),(2,.q),(3,.q),(4,.q),(5,.q),(6,.c),(7,.q)] yA nX zou nX (λr hr=>hr) (go2 ?_);refine wX I (xB yE (Pc.tx pH) ah) λao ad=>(go2 ?_);refine wX I (xB yE (Pc.tx pH) ae) λak aa=>?_;refine w_c I (sC (ev2 I I) call159 (λw hs=>s6 hs ad aa oM) λH h1 ar O=>?_);obtain rfl:H=vB (a.x=b.x):=O;refine gc3 (λC=>?_) λC=>?_
 ·
  refine qM ?_;refine zC I I ?_
  first|exact(xM (by rw[tU];grind)).symm|exact(yH (by rw[tU];grind)).symm
 refine go4 ?_;refine gv ((zR (q:=1) I I oM oM).cv (show _=vI (1) from I)) I (go2 ?_);refine wE (go2 ?_);refine gv (OpV.tr dC (yJ (q:=3) I I)) I (rA ?_);refine zK 8 _ [] [(0,.q),(1,.q),(2,.q),(3,.q),(4,.q),(5,.q),(6,.c),(7,.q)] yA nX zou nX (λr hr=>hr) (go2 ?_);refine wX I (xB yE (Pc.ty pH) ah) λan ac=>(go2 ?_);refine wX I (xB yE (Pc.ty pH) ae) λaj Z=>?_;refine w_c I (sC (ev2 I I) call159 (λw hs=>s6 hs ac Z oM) λG h2 aq M=>?_);obtain rfl:G=vB (a.y=b.y):=M;refine gc3 (λC=>?_) λC=>?_
 ·
  refine qM ?_;refine zC I I ?_
  first|exact(xM (by rw[tU];grind)).symm|exact(yH (by rw[tU];grind)).symm
 refine go4 ?_;refine gv ((zR (q:=1) I I oM oM).cv (show _=vI (2) from I)) I (go2 ?_);refine wE (go2 ?_);refine gv (OpV.tr dC (yJ (q:=3) I I)) I (rA ?_);refine zK 8 _ [] [(0,.q),(1,.q),(2,.q),(3,.q),(4,.q),(5,.q),(6,.c),(7,.q)] yA nX zou nX (λr hr=>hr) (go2 ?_);refine wX I (xB yE (Pc.tz pH) ah) λam ab=>(go2 ?_);refine wX I (xB yE (Pc.tz pH) ae) λai U=>?_;refine w_c I (sC (ev2 I I) call159 (λw hs=>s6 hs ab U oM) λD h3 ap J=>?_);obtain rfl:D=vB (a.z=b.z):=J;refine gc3 (λC=>?_) λC=>?_
 ·
  refine qM ?_;refine zC I I ?_
  first|exact(xM (by rw[tU];grind)).symm|exact(yH (by rw[tU];grind)).symm
 refine go4 ?_;refine gv ((zR (q:=1) I I oM oM).cv (show _=vI (3) from I)) I (go2 ?_);refine wE (go2 ?_);refine gv (OpV.fa dC (yJ (q:=3) I I)) I (rA ?_);refine zC I I ?_
 first|exact(xM (by rw[tU];grind)).symm|exact(yH (by rw[tU];grind)).symm
theorem zFV{k:Nat}{va:Value}{a:Tq}(ra:(tPt k).Is h0 va a)(hcd0:k<=1000000000):
 Calls Tryz.prog 78 #[va] w0 (Ret w0 h0 (λ_ r=>r=vB (a=zT))):=by
 refine cb1 6 va func78 hs ?_;refine go2 ?_;refine nB ra λM J C=>(go5 ?_);refine lX (xB zM pH C) λv3 r3=>(lX (xV (ρ:=(tPt 1)) (wB (ps':=[]) underlying31 yM I I sizeOf29 trivial I (xO (yI dC)) zO)) λv4 r4=>(cL (ev2 I I) call119 (λw hs=>zMG hs r3 r4 oM) λD h1 H G=>?_));obtain rfl:D=vB (a=zT):=G;refine go4 ?_;refine zC I I ?_
 rfl
theorem zBE{m l k:Nat}{vs:Value}{s:Pq}(rs:(tPl m l).Is h0 vs s){vp:Value}{p:Tq}(rp:(tPt k).Is h0 vp p)(hcd0:k<=100000000)(hcd1:l<=100000000)(hcd2:m<=100000000):
 Calls Tryz.prog 147 #[vs,vp] w0 (Ret w0 h0 (λ_ r=>r=vI (sdZ s p))):=by
 refine cb2 12 vs vp func147 hs ?_;refine go2 ?_;refine nB rs λb2 ad C=>(nB rp λb3 ac G=>(go4 ?_));refine zK 8 _ [] [(0,.q),(1,.q),(2,.q),(4,.q),(5,.q),(3,.c),(6,.c),(7,.q)] yA nX zou nX (λr hr=>hr) (go1 ?_);refine wX I (xB zM (Pc.fst pH) C) λv6 r6=>(wX I (xB zM pH G) λv7 Z=>(go1 ?_));refine wX I (xB yE (Pc.snd pH) C) λU M=>?_;refine w_c I (sC (ev2 I I) call120 (λw hs=>zEJ hs r6 Z oM) λv8 h1 ab H=>?_);replace H:=Rp.Is.le H (Le.q (l:=3*k+3*m+9) oM);refine w_c I (sC (ev2 I I) call182 (λw hs=>aP hs H M.up oM) λD h2 aa J=>?_);obtain rfl:D=vI (xT (xH s.1 p) s.2):=J;have O:=jA (xH s.1 p) s.2;refine go4 ?_;refine zC I I ?_;exact congrArg vI (zVM s p)
theorem zTS{m l k:Nat}{vs:Value}{s:Pq}(rs:(tPl m l).Is h0 vs s){vp:Value}{p:Tq}(rp:(tPt k).Is h0 vp p)(hcd0:k<=100000000)(hcd1:l<=100000000)(hcd2:m<=100000000):
 Calls Tryz.prog 108 #[vs,vp] w0 (Ret w0 h0 (λ_ r=>r=vI (sdZ s p))):=by
 refine cb2 61 vs vp func108 hs ?_;refine go2 ?_;refine nB rs λb2 cz D=>(nB rp λb3 cy H=>(rA ?_));refine fU (go2 ?_);refine gv (OpV.tr dC (yJ (q:=3) I I)) I (zYO ?_);refine lX (xB yE (Pc.fst (Pc.tx pH)) D) λck bg=>(cL (ev1 I) call146 (λw hs=>tH hs bg) λch h1 cw bd=>?_);obtain rfl:=bd;refine qM ?_;refine lX (xB yE (Pc.tx pH) H) λce ba=>(cL (ev1 I) call146 (λw hs=>tH hs ba) λcb h2 cu ax=>?_);obtain rfl:=ax;refine uV ?_;refine gU 4 36 (vB ((¬(smB s.1.x))\/(¬(smB p.x)))) ?_ ?_
 ·
  refine zY (¬(smB s.1.x)) (λG=>?_) (λG=>?_)
  ·
   refine gT G I (go4 ?_);refine gqU ?_;exact congrArg some (vD G)
  refine gF G I (go6 ?_);refine gqU ?_;exact congrArg some (vG G)
 refine gc2 (λC=>?_) λC=>?_
 ·
  refine go2 ?_;refine lX (xB bG pH D) λbx au=>(lX (xB zM pH H) λbu ap=>(cL (ev2 I I) call147 (λw hs=>zBE hs au ap oM oM oM) λaa h3 co am=>?_));obtain rfl:aa=vI (sdZ s p):=am;have bl:=bJ s p;refine uG ?_;refine zC I I ?_
  rfl
 obtain⟨bh,bn⟩:=zJU C;refine go6 ?_;refine gv (gP I I oM oM) I (go6 ?_);refine gv ((zR (q:=1) I I oM oM).cv (show _=vI (1) from I)) I (go2 ?_);refine wE (go2 ?_);refine gv (OpV.tr dC (yJ (q:=3) I I)) I (zYO ?_);refine lX (xB yE (Pc.fst (Pc.ty pH)) D) λcj bf=>(cL (ev1 I) call146 (λw hs=>tH hs bf) λcg h3 co bc=>?_);obtain rfl:=bc;refine qM ?_;refine lX (xB yE (Pc.ty pH) H) λcd az=>(cL (ev1 I) call146 (λw hs=>tH hs az) λca h4 ct aw=>?_);obtain rfl:=aw;refine uV ?_;refine gU 4 36 (vB ((¬(smB s.1.y))\/(¬(smB p.y)))) ?_ ?_
 ·
  refine zY (¬(smB s.1.y)) (λG=>?_) (λG=>?_)
  ·
   refine gT G I (go4 ?_);refine gqU ?_;exact congrArg some (vD G)
  refine gF G I (go6 ?_);refine gqU ?_;exact congrArg some (vG G)
 refine gc2 (λC=>?_) λC=>?_
 ·
  refine go2 ?_;refine lX (xB bG pH D) λbw ar=>(lX (xB zM pH H) λbt ao=>(cL (ev2 I I) call147 (λw hs=>zBE hs ar ao oM oM oM) λZ h5 cn ak=>?_));obtain rfl:Z=vI (sdZ s p):=ak;have bk:=bJ s p;refine uG ?_;refine zC I I ?_
  rfl
 obtain⟨bh,bn⟩:=zJU C;refine go6 ?_;refine gv (gP I I oM oM) I (go6 ?_);refine gv ((zR (q:=1) I I oM oM).cv (show _=vI (2) from I)) I (go2 ?_);refine wE (go2 ?_);refine gv (OpV.tr dC (yJ (q:=3) I I)) I (zYO ?_);refine lX (xB yE (Pc.fst (Pc.tz pH)) D) λci be=>(cL (ev1 I) call146 (λw hs=>tH hs be) λcf h5 cn bb=>?_);obtain rfl:=bb;refine qM ?_;refine lX (xB yE (Pc.tz pH) H) λcc ay=>(cL (ev1 I) call146 (λw hs=>tH hs ay) λbz h6 cq av=>?_);obtain rfl:=av;refine uV ?_;refine gU 4 36 (vB ((¬(smB s.1.z))\/(¬(smB p.z)))) ?_ ?_
 ·
  refine zY (¬(smB s.1.z)) (λG=>?_) (λG=>?_)
  ·
   refine gT G I (go4 ?_);refine gqU ?_;exact congrArg some (vD G)
  refine gF G I (go6 ?_);refine gqU ?_;exact congrArg some (vG G)
 refine gc2 (λC=>?_) λC=>?_
 ·
  refine go2 ?_;refine lX (xB bG pH D) λbv aq=>(lX (xB zM pH H) λbs an=>(cL (ev2 I I) call147 (λw hs=>zBE hs aq an oM oM oM) λU h7 cm aj=>?_));obtain rfl:U=vI (sdZ s p):=aj;have bj:=bJ s p;refine uG ?_;refine zC I I ?_
  rfl
 obtain⟨bh,bn⟩:=zJU C;refine go6 ?_;refine gv (gP I I oM oM) I (go6 ?_);refine gv ((zR (q:=1) I I oM oM).cv (show _=vI (3) from I)) I (go2 ?_);refine wE (go2 ?_);refine gv (OpV.fa dC (yJ (q:=3) I I)) I (uV ?_);refine lX (xB yE (Pc.snd pH) D) λbr ai=>(cL (ev1 I) call146 (λw hs=>tH hs ai) λbq h7 cm ah=>?_);obtain rfl:=ah;refine tZ ?_;refine cnd (λJ=>?_) λJ=>?_
 ·
  refine go2 ?_;refine lX (xB bG pH D) λbp ae=>(lX (xB zM pH H) λbo ad=>(cL (ev2 I I) call147 (λw hs=>zBE hs ae ad oM oM oM) λO h8 cl ac=>?_));obtain rfl:O=vI (sdZ s p):=ac;have bi:=bJ s p;refine go5 ?_;refine zC I I ?_
  rfl
 have bm:=Classical.not_not.1 J;have cp:=sY bm;refine go7 ?_;refine cL (ev1 I) call148 (λw hs=>zIU hs oM oM) λM h8 cl ab=>?_;obtain rfl:M=vI (zHK (((((0:Int)+((smZ s.1.x)*(smZ p.x)))+((smZ s.1.y)*(smZ p.y)))+((smZ s.1.z)*(smZ p.z)))-(smZ s.2))):=ab;refine go4 ?_;refine zC I I ?_;exact congrArg vI (zVL zo4 zo4 zo4 bm)
theorem zCQ{m l k:Nat}{vs:Value}{s:Pq}(rs:(tPl m l).Is h0 vs s){vp:Value}{p:Tq}(rp:(tPt k).Is h0 vp p)(hcd0:k<=100000000)(hcd1:l<=100000000)(hcd2:m<=100000000):
 Calls Tryz.prog 23 #[vs,vp] w0 (Ret w0 h0 (λ_ r=>r=vI (sdZ s p))):=by
 refine cb2 13 vs vp func23 hs ?_;refine go2 ?_;refine nB rs λb2 ah D=>(nB rp λb3 ae H=>(go4 ?_));refine zK 9 _ [] [(0,.q),(1,.q),(2,.q),(4,.q),(5,.q),(3,.c),(6,.c),(7,.c),(8,.q)] yA nX zou nX (λr hr=>hr) (go1 ?_);refine wX I (xB zM (Pc.fst pH) D) λv6 r6=>(wX I (xB zM pH H) λv7 r7=>(go1 ?_));refine wX I (xB yE (Pc.snd pH) D) λaa O=>?_;refine w_c I (sC (ev2 I I) call56 (λw hs=>cE hs r6 r7 oM) λv8 h1 ad J=>?_);replace J:=Rp.Is.le J (Le.q (l:=3*k+3*m+9) oM);refine w_c I (sC (ev2 I I) call55 (λw hs=>gZ hs J O.up oM) λZ h2 ac C=>?_);replace C:=Rp.Is.le C (Le.q (l:=3*k+l+3*m+10) oM);refine w_c I (sC (ev1 I) call48 (λw hs=>uD hs C oM) λG h3 ab M=>?_);obtain rfl:G=vI (yR ((xH s.1 p)-s.2)):=M;have U:=yX ((xH s.1 p)-s.2);refine go4 ?_;refine zC I I ?_
 rfl
theorem zBH{k:Nat}{va:Value}{a:Tq}(ra:(tPt k).Is h0 va a){vb:Value}{b:Tq}(rb:(tPt k).Is h0 vb b){vc:Value}{c:Tq}(rc:(tPt k).Is h0 vc c)(hcd0:k<=100000):
 Calls Tryz.prog 93 #[va,vb,vc] w0 (Ret w0 h0 (λh r=>∃u0,r=.tuple #[u0,vI (thE a b c)]/\(tPl (50*k+200) (200*k+900)).Is h u0 (thZ a b c))):=by
 refine cb3 24 va vb vc func93 hs ?_;refine go2 ?_;refine nB ra λb3 cb M=>(nB rb λb4 ca an=>(nB rc λb5 bz am=>(nA (ρ:=(tPl 1 1)) (X:=(zT,(0:Rat))) sM (yC (xO (yI dC)) (yI dC)) λb6 bx ai=>(go4 ?_))));refine zK 8 _ [(7,(8,31,[.bool false,.slice none 0 0,.slice none 0 0,.bool false,.slice none 0 0,.slice none 0 0,.bool false,.slice none 0 0,.slice none 0 0]))] [(0,.q),(1,.q),(3,.q),(4,.q),(2,.c),(5,.c),(6,.c),(7,.a),(8,.t)] yA (jM.cons I I (uR yM I I) jM.nil) zou (uU I I kU) (λr hr=>hr) (wX I (xB zM pH an) λv9 r9=>(wX I (xB zM pH M) λbr az=>(wX I (xB zM pH am) λbp ay=>(wX I (xB zM pH M) λbo ax=>?_))));refine w_c I (sC (ev2 I I) call22 (λw hs=>lE hs r9 az oM) λbq h1 bw aa=>?_);replace aa:=Rp.Is.le aa (Le.t (Le.q (l:=2*k+1) oM));refine w_c I (sC (ev2 I I) call22 (λw hs=>lE hs ay.up ax.up oM) λbn h2 bv Z=>?_);replace Z:=Rp.Is.le Z (Le.t (Le.q (l:=2*k+1) oM));refine w_c I (sC (ev2 I I) call102 (λw hs=>zF3 hs aa.up Z oM) λbm h3 bu U=>?_);replace U:=Rp.Is.le U (Le.t (Le.q (l:=8*k+7) oM));refine w_a I I (λb8=>?_);have ak:(tPt 1).R h3 [.bool false,.slice none 0 0,.slice none 0 0,.bool false,.slice none 0 0,.slice none 0 0,.bool false,.slice none 0 0,.slice none 0 0] zT:=(xO (yI dC));have ad:=(Le.t (Le.q (l:=8*k+7) oM)).R ak;refine yK (A:=[]) I (uB sizeOf31 pH ad U) λbd D=>(go5 ?_);refine lX (xB zM pH D) λbl aw=>(cL (ev1 I) call80 (λw hs=>dP hs aw oM) λaj h4 bt av=>?_);obtain rfl:aj=vB ((xQ (T3.mk (b.x-a.x) (b.y-a.y) (b.z-a.z)) (T3.mk (c.x-a.x) (c.y-a.y) (c.z-a.z)))=zT):=av;refine gc2 (λC=>?_) λC=>?_
 ·
  refine go2 ?_;refine lX (xV (ρ:=(tPl 1 1)) (xZ (ps':=[]) underlying50 sM I I (rG underlying50) trivial I (yC (xO (yI dC)) (yI dC)) zO)) λbk au=>(zW (A:=[_]) (uB sizeOf50 pH ai au) λbc ah=>(go5 ?_));refine wT (kJ (t:=6) bG mh1 I ah) ?_;intro be ab ae;refine yV (λE S=>jS I ab (tE I) E S) ?_;refine⟨_,?_,(Rp.Is.cast (Rp.Is.le ae (Le.p (Le.t (Le.q (l:=50*k+200) oM)) (Le.q (l:=200*k+900) oM))) (by obtain⟨e1,e2⟩:=yJV C;rw[e1]))⟩;obtain⟨e1,e2⟩:=yJV C;rw[e2]
 refine go3 ?_;refine zK 5 _ [] [(0,.q),(1,.q),(2,.q),(3,.c),(4,.q),(5,.t),(6,.t)] yA nX zou nX (λr hr=>hr) (wX I (xB zM pH D) λbj ar=>(wX I (xB zM pH D) λbi aq=>(wX I (xB zM pH M) λbh ap=>?_)));refine w_c I (sC (ev2 I I) call56 (λw hs=>cE hs aq ap oM) λbg h5 bs O=>?_);replace O:=Rp.Is.le O (Le.q (l:=27*k+30) oM);refine wX I (xV (ρ:=(tPl (8*k+7) (27*k+30))) (xZ (ps':=[(0,_),(1,_)]) underlying50 sM I I (rG underlying50) e4z I (yC (xO (yI oM)) (yI oM)) (zD I (Pc.fst (Pc.here _)) ar.up (zD I (Pc.snd (Pc.here _)) O zO)))) λbf ao=>?_;have ac:=(Le.p (Le.t (Le.q (l:=8*k+7) oM)) (Le.q (l:=27*k+30) oM)).R ai;refine yK (A:=[_]) I (uB sizeOf50 pH ac ao) λbb J=>(zED I (pP (v:=vI (0)) I) I (go3 ?_));refine wT (kJ (t:=6) bG mh1 I J) ?_;intro ba G H;refine yV (λE S=>jS I G (tE I) E S) ?_;refine⟨_,?_,(Rp.Is.cast (Rp.Is.le H (Le.p (Le.t (Le.q (l:=50*k+200) oM)) (Le.q (l:=200*k+900) oM))) (by obtain⟨e1,e2⟩:=zU4 C;rw[e1];rfl))⟩;obtain⟨e1,e2⟩:=zU4 C;rw[e2]
theorem oI{m l:Nat}{vpl:Value}{pl:Pq}(rpl:(tPl m l).Is h0 vpl pl)(hcd0:m<=1000000)(hcd1:l<=1000000):
 Calls Tryz.prog 76 #[vpl] w0 (Ret w0 h0 (λh r=>(tPl (3*m+10) (l+1)).Is h r (opP pl))):=by
 refine cb1 11 vpl func76 hs ?_;refine go2 ?_;refine nB rpl λb1 ah J=>(nA (ρ:=(tPl 1 1)) (X:=(zT,(0:Rat))) sM (yC (xO (yI dC)) (yI dC)) λb2 ae M=>(go3 ?_));refine zK 8 _ [] [(1,.q),(2,.q),(4,.q),(5,.q),(0,.c),(3,.c),(6,.c),(7,.q),(8,.t)] yA nX zou nX (λr hr=>hr) (go1 ?_);refine wX I (xB zM (Pc.fst pH) J) λv5 r5=>(go1 ?_);refine wX I (xB yE (Pc.snd pH) J) λv8 r8=>?_;refine w_c I (sC (vs:=[vI (-1)]) ⟨I,trivial⟩ call27 (λw hs=>kM hs dC dC) λv3 h1 ad r3=>?_);refine w_c I (sC (ev2 I I) call20 (λw hs=>oF hs r3 r5.up oM) λv6 h2 ac r6=>?_);refine w_c I (sC (ev1 I) call87 (λw hs=>oG hs r8.up oM) λv9 h3 ab r9=>(wX I (xV (ρ:=(tPl (m+2) (l+1))) (xZ (ps':=[(0,_),(1,_)]) underlying50 sM I I (rG underlying50) e4z I (yC (xO (yI oM)) (yI oM)) (zD I (Pc.fst (Pc.here _)) r6.up (zD I (Pc.snd (Pc.here _)) (r9.le (Le.q (l:=l+1) oM)) zO)))) λaa O=>?_));have D:=(Le.p (Le.t (Le.q (l:=m+2) oM)) (Le.q (l:=l+1) oM)).R M;refine yK (A:=[]) I (uB sizeOf50 pH D O) λU H=>(go3 ?_);refine wT (kJ (t:=2) bG mh0 I H) ?_;intro Z C G;refine yV (λE S=>zV I C E S) ?_;exact(Rp.Is.le G (Le.p (Le.t (Le.q (l:=3*m+10) oM)) (Le.refl _)))
end
set_option maxHeartbeats 1000000 in
theorem zXA{w0:World}{h0:Mem}(hs:MLe h0 (mem w0)){k m n j:Nat}{vs:Value}{s:Sq}(rs:(tSd k m n j).Is h0 vs s)(hcd0:okS s)(hcd1:1<=m)(hcd2:1<=n)(hcd3:m<=1000000)(hcd4:n<=1000000):
 Calls Tryz.prog 39 #[vs] w0 (Ret w0 h0 (λh r=>(tSd k m n j).Is h r (flS s))):=by
 have dd:=hcd0.1.1.1;have dc:=hcd0.1.1.2;have db:=hcd0.1.2;refine cb1 57 vs func39 hs ?_;refine go2 ?_;refine nB rs λb1 bb bl=>(nA (ρ:=(tSd k m n j)) (X:=([],([],[]))) qS (yC wG (yC wG wG)) λb2 ba bk=>(go4 ?_));refine lX (xB jB pH bl) λv6 r6=>?_;refine qA (vs:=[_]) I I I I call64 ⟨I,trivial⟩ (λw hs=>zTQ hs r6 hcd0 hcd1 hcd2) ?_;intro v7 h1 L7 df r7;obtain⟨wP,di,H,ce,us,R0,r7,rfl,⟨cu,cy,bz⟩,bg,ar,an⟩:=r7;refine zYQ (A:=[_,_]) (R:=R0) (B:=[_,_]) (nA (ρ:=(rpP rpV (rpP rpV (rpS (rpP rpI (rpP rpI (rpQ j))))))) (X:=((Value.slice none 0 0),((Value.slice none 0 0),[]))) qS (yC gV (yC gV wG)) λb3 dj bj=>(zW (A:=[]) (uB sizeOf39 pH bj r7) λO Z=>(go5 ?_)));rw[show(fvZ s.2.1 us us.length)=(flZ s.2.1 us 0) by exact fl_0 bz] at ar ⊢;refine zP (A:=[_]) (ρ:=(tPt k)) bg ?_;intro h2 cb aq;replace Z:=Z.mono cb;have C:(rpP (tLs k) (rpP rpV (rpS (rpP rpI (rpP rpI (rpQ j)))))).R h2 O (s.1,(H,s.2.2)):=yAF Z aq;refine go4 ?_;refine gcL (ι:=Nat×List Res×List Value×Mem) (λ(i,R1,aa,ma)=>(MLe h2 ma/\(RL (rpP (tPl m n) (rpP rpV qI)) ma aa (flZ s.2.1 us i)/\i<=s.2.1.length/\nY 22 (rpS rpI) ma (us.drop i) ((lpS s.2.1).drop i) R1/\zEB ma us (λu=>rvL (s.2.1.getD u zA).2.1 (s.2.1.getD u zA).2.1.length) i),[(2,vP b2 0),(3,vP b3 0),(4,vI ↑i)],(.var b3 39 O::.gs 53 14 H (flZ s.2.1 us i).length aa::.var b2 39 ba::.var b1 39 bb::R1),ma,s.2.1.length-i)) (0,R0,ce,h2) ?_ ?_
 · exact⟨mle,ar.up,by omega,an.up,λu hu=>absurd hu (Nat.not_lt_zero u)⟩
 rintro⟨i,R1,aa,ma⟩ ⟨aw,G,de,an,ao⟩
 refine yW ?_;have dh:(flZ s.2.1 us i).length=s.2.1.length:=oY _ _ _;have cg:(flZ s.2.1 us (i+1)).length=s.2.1.length:=oY _ _ _;refine go5 ?_;replace C:=C.mono aw;refine lX (tX (xB kR (Pc.snd (Pc.fst pH)) C)) λcq bx=>?_;subst bx;refine gv (jZ mh1 underlying36 I) I (gc3 (λay=>?_) λay=>?_)
 ·
  obtain⟨cd,R2,rfl,cw,bh,az⟩:=nY.flip an oM oM;refine go5 ?_;refine zK 12 _ [] [(0,.q),(1,.q),(2,.q),(3,.q),(4,.q),(5,.q),(6,.q),(7,.q),(8,.q),(9,.c),(10,.q),(11,.q),(12,.t)] yA nX (wJ zou) nX (λr hr=>hr) (go1 ?_);refine wX I (tX (xB kR (Pc.snd (Pc.fst pH)) C)) λcp bw=>?_;subst bw;refine go2 ?_;refine wX I (tX (xB kR (Pc.snd (Pc.fst pH)) C)) λco bv=>?_;subst bv;refine go1 ?_;refine w_q I (λh' L' hh hR=>(yU i (hR _ mh1) underlying36 sizeOf53 I I I bO nP).cv (show _=zI 1 H ((i*14+0)) from congrArg (zI 1 H) zo3)) I (w_q I (λh' L' hh hR=>(qU (Pc.arr (Pc.here _) fv0 i bO) I nP (G.mono hh) (hR _ mh1) underlying53 I sizeOf50 I).cv (show _=zI 1 H ((i*14+0)) from congrArg (zI 1 H) (by show(i*14+0)+0=(i*14+0);omega))) I (aD (F:=λv_=>(tPl m n).Is ma v_ (((flZ s.2.1 us i).getD i fv0).1)) I (wM bG (Pc.arr (Pc.fst (Pc.here _)) fv0 i bO) I nP I G I) (tQ mh1) I ?_));intro cn au;refine w_c I (sC (ev1 I) call76 (λw hs=>oI hs au oM oM) λbf h3 ac am=>?_);replace am:(tPl m n).Is h3 bf (opP (((flZ s.2.1 us i).getD i fv0).1)):=zWX am au;refine w_q I (λh' L' hh hR=>(yU i (hR _ mh1) underlying36 sizeOf53 I I I bO nP).cv (show _=zI 1 H ((i*14+0)) from congrArg (zI 1 H) zo3)) I ?_;replace G:=G.mono ac;refine w_q I (λh' L' hh hR=>(qU (Pc.arr (Pc.here _) fv0 i bO) I nP (G.mono hh) (hR _ mh1) underlying53 I sizeOf50 I).cv (show _=zI 1 H ((i*14+0)) from congrArg (zI 1 H) (by show(i*14+0)+0=(i*14+0);omega))) I (zH5 (A:=[_]) (F:=λc_=>RL (rpP (tPl m n) (rpP rpV qI)) h3 c_ ((flZ s.2.1 us i).set i (opP (((flZ s.2.1 us i).getD i fv0).1),((flZ s.2.1 us i).getD i fv0).2))) I (rU sizeOf50 (Pc.arr (Pc.fst (Pc.here _)) fv0 i bO) I nP I I G am I) ?_);intro ad D;rw[show((flZ s.2.1 us i).set i (opP (((flZ s.2.1 us i).getD i fv0).1),((flZ s.2.1 us i).getD i fv0).2))=(flZ s.2.1 us (i+1)) by exact yH5 oM] at D ⊢;refine go8 ?_;refine gcL (ι:=Nat×List Value×Mem) (λ(k,M,mb)=>(MLe h3 mb/\(RL (rpS rpI) mb M (rvL (s.2.1.getD i zA).2.1 k)/\k<=(s.2.1.getD i zA).2.1.length),[(2,vP b2 0),(3,vP b3 0),(4,vI ↑i),(5,vI ↑k)],(.var b3 39 O::.gs 53 14 H (flZ s.2.1 us (i+1)).length ad::.var b2 39 ba::.var b1 39 bb::.gs 22 1 (us.getD i nV) (rvL (s.2.1.getD i zA).2.1 k).length M::R2),mb,(s.2.1.getD i zA).2.1.length-k)) (0,cd,h3) ?_ ?_
  · exact⟨mle,bh.up,oM⟩
  rintro⟨k,M,mb⟩ ⟨av,J,da⟩
  refine yW ?_;have cz:=(hcd0.2.1 i oM).1;have ct:(rvL (s.2.1.getD i zA).2.1 k).length=(s.2.1.getD i zA).2.1.length:=j9 _ _;refine go5 ?_;replace C:=C.mono (ac.trans av);refine lX (tX (xB kR (Pc.snd (Pc.fst pH)) C)) λcm bu=>?_;subst bu;refine go1 ?_;refine gv ((yU i mh1 underlying36 sizeOf53 I I I bO nP).cv (show _=zI 1 H ((i*14+0)) from congrArg (zI 1 H) zo3)) I (gv ((qU (Pc.arr (Pc.here _) fv0 i bO) I nP D.up mh1 underlying53 I sizeOf51 I).cv (show _=zI 1 H ((i*14+12)) from congrArg (zI 1 H) (by show(i*14+0)+12=(i*14+12);omega))) I (zHW (F:=λv_=>((((flZ s.2.1 us (i+1)).getD i fv0).2).1)=v_) (tX (wM pW (Pc.arr (Pc.snd (Pc.fst (Pc.here _))) fv0 i bO) I nP I D.up I)) (tQ mh1) I ?_));intro be bt;obtain rfl:be=(us.getD i nV):=bt.symm.trans (by rw[zAH oM]);refine gv (jZ mh4 underlying51 I) I (gc3 (λax=>?_) λax=>?_)
  ·
   refine go4 ?_;refine zK 18 _ [] [(0,.q),(1,.q),(2,.q),(3,.q),(4,.q),(5,.q),(6,.q),(7,.q),(8,.q),(9,.q),(10,.q),(11,.q),(12,.q),(13,.q),(14,.q),(15,.q),(16,.c),(17,.q),(18,.t)] yA nX (wJ zou) nX (λr hr=>hr) (go1 ?_);refine wX I (tX (xB kR (Pc.snd (Pc.fst pH)) C)) λcl bs=>?_;subst bs;refine go1 ?_;refine w_q I (λh' L' hh hR=>(yU i (hR _ mh1) underlying36 sizeOf53 I I I bO nP).cv (show _=zI 1 H ((i*14+0)) from congrArg (zI 1 H) zo3)) I (w_q I (λh' L' hh hR=>(qU (Pc.arr (Pc.here _) fv0 i bO) I nP (D.up.mono hh) (hR _ mh1) underlying53 I sizeOf51 I).cv (show _=zI 1 H ((i*14+12)) from congrArg (zI 1 H) (by show(i*14+0)+12=(i*14+12);omega))) I (aD (F:=λv_=>((((flZ s.2.1 us (i+1)).getD i fv0).2).1)=v_) I (tX (wM pW (Pc.arr (Pc.snd (Pc.fst (Pc.here _))) fv0 i bO) I nP I D.up I)) (tQ mh1) I ?_));intro bd br;obtain rfl:bd=(us.getD i nV):=br.symm.trans (by rw[zAH oM]);refine go2 ?_;refine wX I (tX (xB kR (Pc.snd (Pc.fst pH)) C)) λck bq=>?_;subst bq;refine go1 ?_;refine w_q I (λh' L' hh hR=>(yU i (hR _ mh1) underlying36 sizeOf53 I I I bO nP).cv (show _=zI 1 H ((i*14+0)) from congrArg (zI 1 H) zo3)) I (w_q I (λh' L' hh hR=>(qU (Pc.arr (Pc.here _) fv0 i bO) I nP (D.up.mono hh) (hR _ mh1) underlying53 I sizeOf51 I).cv (show _=zI 1 H ((i*14+12)) from congrArg (zI 1 H) (by show(i*14+0)+12=(i*14+12);omega))) I (aD (F:=λv_=>((((flZ s.2.1 us (i+1)).getD i fv0).2).1)=v_) I (tX (wM pW (Pc.arr (Pc.snd (Pc.fst (Pc.here _))) fv0 i bO) I nP I D.up I)) (tQ mh1) I ?_));intro bc bp;obtain rfl:bc=(us.getD i nV):=bp.symm.trans (by rw[zAH oM]);refine go1 ?_;refine w_q I (λh' L' hh hR=>(yU k (hR _ mh4) underlying51 sizeOf22 I I I bO nP).cv (show _=zI 1 (us.getD i nV) ((k*1+0)) from congrArg (zI 1 (us.getD i nV)) zo3)) I (aD (F:=λv_=>(rpS rpI).Is mb v_ ((rvL (s.2.1.getD i zA).2.1 k).getD k [])) I (wM fK (Pc.arr (Pc.here _) [] k bO) I nP I J I) (tQ mh4) I ?_);intro cj bo;refine w_c I (sC (ev1 I) call67 (λw hs=>zDS hs bo (by rw[zE9 oM,if_neg (Nat.lt_irrefl _)];exact Nat.le_trans ((hcd0.2.1 i oM).2 k oM) dC)) λci h4 ca bn=>(w_q I (λh' L' hh hR=>(yU k (hR _ mh4) underlying51 sizeOf22 I I I bO nP).cv (show _=zI 1 (us.getD i nV) ((k*1+0)) from congrArg (zI 1 (us.getD i nV)) zo3)) I (zH5 (A:=[_,_,_,_]) (F:=λc_=>RL (rpS rpI) h4 c_ ((rvL (s.2.1.getD i zA).2.1 k).set k (zCH ((rvL (s.2.1.getD i zA).2.1 k).getD k []) ((rvL (s.2.1.getD i zA).2.1 k).getD k []).length))) I (rU sizeOf22 (Pc.arr (Pc.here _) [] k bO) I nP I I J.up bn I) ?_)));intro ap U;rw[show((rvL (s.2.1.getD i zA).2.1 k).set k (zCH ((rvL (s.2.1.getD i zA).2.1 k).getD k []) ((rvL (s.2.1.getD i zA).2.1 k).getD k []).length))=(rvL (s.2.1.getD i zA).2.1 (k+1)) by exact yGI oM] at U ⊢;refine go8 ?_;refine gqL ((k+1),ap,h4) ?_ ?_
   · exact⟨mle,U,oM⟩
   omega
  have ek:k=(s.2.1.getD i zA).2.1.length:=by omega
  refine go7 ?_;refine zP (A:=[_,_,_,_]) (ρ:=(rpS rpI)) J.up ?_;intro h4 ca ah;refine go4 ?_;refine gqL ((i+1),R2,ad,h4) ?_ ?_
  · exact⟨mle,D.up,by omega,az.up,zEB.next (MLe.refl _) ao.up (by have h:=ah;rw[ek] at h;exact h)⟩
  omega
 have ei:i=s.2.1.length:=by omega
 refine go7 ?_;rw[ei] at ao;rw[ei] at G;have bi:=yH6 G ao;rw[show(flZ s.2.1 us i).length=(s.2.1.map fcS).length by rw[oY,List.length_map]];refine zP (A:=[_]) (ρ:=(tFc m n)) bi ?_;intro h3 ac ae;replace C:=C.mono ac;have ak:(tSd k m n j).R h3 O (s.1,((s.2.1.map fcS),s.2.2)):=zEV C ae;refine lX (xB jB pH ak) λch bm=>(zW (A:=[_]) (uB sizeOf39 pH bk bm) λcc aj=>(go3 ?_));refine wT (kJ (t:=2) jB mh1 I aj) ?_;intro cf ab ai;refine yV (λE S=>zV I ab E S) ?_;exact ai
end Go.Proofs.YtpkaegemlpaenaaGreat
namespace Bk
open Classical
noncomputable abbrev lp2(pl:Pl)(l:List Pt):Nat->P2:=λm=>pt2 pl (gp l m)
def upr(pl:Pl)(a b:Pt):Pl:=(xQ (uL b a) pl.1,xH (xQ (uL b a) pl.1) a)
def inP(pl:Pl)(l:List Pt)(p:Pt):Prop:=(∀m,m<l.length->¬0<sdZ (upr pl (gp l m) (nx l m)) p)/\0<l.length
noncomputable def afC(pl c:Pl):Rat×Rat×Rat:=
 (c.1.at (axK pl.1)/pl.1.at (axK pl.1)*pl.2-c.2,c.1.at (axI pl.1)-c.1.at (axK pl.1)/pl.1.at (axK pl.1)*pl.1.at (axI pl.1),c.1.at (axJ pl.1)-c.1.at (axK pl.1)/pl.1.at (axK pl.1)*pl.1.at (axJ pl.1))
def ngP(c:Pl):Pl:=(T3.mk (-c.1.x) (-c.1.y) (-c.1.z),-c.2)
def yAW(l:List Pt):Nat->Pt
  |0=>zT
  |m+1=>zH2 (yAW l m) (gp l m)
noncomputable def cenZ(l:List Pt):Pt:=if l.length=0 then zT else T3.mk (jU 1 ↑l.length*(yAW l l.length).x) (jU 1 ↑l.length*(yAW l l.length).y) (jU 1 ↑l.length*(yAW l l.length).z)
def zT7(c:Pl)(l:List Pt):Nat->Rat
  |0=>0
  |m+1=>zT7 c l m+hgt c (gp l m)
theorem zY6{pl:Pl}{a b c:Pt}(hn:¬pl.1=zT)(ha:sdZ pl a=0)(hb:sdZ pl b=0)(hc:sdZ pl c=0):yR (y5 (uL b a) (uL c a) pl.1)<=0↔¬0<orZ (pt2 pl a) (pt2 pl b) (pt2 pl c):=by
 rw[<-yIH hn ha hb hc,yII];omega
end Bk
namespace Go.Proofs.YtpkaegemlpaenaaGreat
open Bk Go Tryz
set_option maxRecDepth 10000
set_option maxHeartbeats 1000000
attribute [local irreducible] GL GC GQ W OpV
theorem zW6{w0:World}{h0:Mem}(hs:MLe h0 (mem w0)){k l m:Nat}{va:Value}{a:Tq}(ra:(tPt k).Is h0 va a){vb:Value}{b:Tq}(rb:(tPt l).Is h0 vb b){vc:Value}{c:Tq}(rc:(tPt m).Is h0 vc c)(hcd0:k<=100000000)(hcd1:l<=100000000)(hcd2:m<=100000000):
 Calls Tryz.prog 98 #[va,vb,vc] w0 (Ret w0 h0 (λh r=>(rpQ (3*k+6*l+6*m+18)).Is h r (y5 a b c))):=by
 refine cb3 12 va vb vc func98 hs ?_;refine go2 ?_;refine nB ra λb3 an Z=>(nB rb λb4 am U=>(nB rc λb5 ak O=>(nA (ρ:=(rpQ 1)) (X:=(0:Rat)) xR (yI dC) λb6 aj M=>(go3 ?_))));refine zK 5 _ [] [(0,.q),(1,.q),(2,.q),(3,.c),(4,.c),(5,.t)] yA nX zou nX (λr hr=>hr) (wX I (xB zM pH Z) λv7 r7=>(wX I (xB zM pH U) λv8 r8=>(wX I (xB zM pH O) λv9 r9=>?_)));refine w_c I (sC (ev2 I I) call102 (λw hs=>zF3 hs r8 r9 oM) λae h1 ai aa=>?_);refine w_c I (sC (ev2 I I) call56 (λw hs=>cE hs r7.up aa oM) λad h2 ah C=>?_);replace C:=Rp.Is.le C (Le.q (l:=3*k+6*l+6*m+18) oM);have G:=(Le.q (l:=3*k+6*l+6*m+18) oM).R M;refine yK (A:=[]) I (uB sizeOf29 pH G C) λab J=>(go3 ?_);refine wT (kJ (t:=6) yE mh0 I J) ?_;intro ac D H;refine yV (λE S=>zV I D E S) ?_;exact H
theorem zPF{w0:World}{h0:Mem}(hs:MLe h0 (mem w0)){k n m:Nat}{vl:Value}{l:(List Tq)}(rl:(tLs k).Is h0 vl l){vs:Value}{s:Pq}(rs:(tPl n m).Is h0 vs s)(hcd0:k<=10000000)(hcd1:m<=10000000)(hcd2:n<=1000000)(hcd3:l.length<=100000):
 Calls Tryz.prog 94 #[vl,vs] w0 (Ret w0 h0 (λ_ r=>r=vB (zG7 s l))):=by
 have dd:=zDG s.1;refine cb2 73 vl vs func94 hs ?_;refine go2 ?_;refine nB rs λb3 U ab=>(rA ?_);refine qB (ι:=Mem) 5 (λm_=>MLe h0 m_) (λ_=>[(20,vB (((↑(l).length:Int)<(3:Int))\/(s.1=zT))),(0,vl),(3,vP b3 0),(5,vI (↑(l).length:Int))]) (λ_=>[.var b3 50 U]) (λm_=>m_) ?_ ?_
 ·
  refine zY ((↑(l).length:Int)<(3:Int)) (λhg=>?_) (λhg=>?_)
  ·
   refine gT hg I (go5 ?_);refine zS h0 (MLe.refl _) ⟨?_,I,I,I,trivial⟩ I I;exact congrArg some (vD hg)
  refine gF hg I (go3 ?_);refine lX (xB zM (Pc.fst pH) ab) λcu bs=>(go1 ?_);refine cL (ev1 I) call80 (λw hs=>dP hs bs oM) λay h1 ah br=>?_;obtain rfl:ay=vB (s.1=zT):=br;refine go2 ?_;refine zS h1 ah ⟨?_,I,I,I,trivial⟩ I I;exact congrArg some (vG hg)
 intro H am;refine tY ?_;refine gc2 (λD=>?_) λD=>?_
 ·
  refine go7 ?_;refine zC I I ?_;exact(yH (λe=>D.elim (λh=>by have:=e.1.1;omega) (λh=>e.1.2 h))).symm
 have hN:¬s.1=zT:=λe=>D (.inr e);have h3:3<=l.length:=by have h:=D;omega
 refine go9 ?_;refine gcL (ι:=Nat×Mem) (λ(i,ma)=>(MLe H ma/\(i<=l.length/\∀u,u<i->sdZ s (gp l u)=0),[(0,vl),(3,vP b3 0),(5,vI (↑(l).length:Int)),(6,vI ↑i)],[.var b3 50 U],ma,l.length-i)) (0,H) ?_ ?_
 · exact⟨mle,by omega,λu h=>by omega⟩
 rintro⟨i,ma⟩ ⟨bz,cz,hi2⟩
 refine yW ?_;refine gc8 (λar=>?_) λar=>?_
 ·
  refine go5 ?_;refine zK 7 _ [] [(0,.q),(1,.q),(2,.q),(3,.q),(4,.q),(5,.c),(6,.q)] yA nX zou nX (λr hr=>hr) (wX I (xB bG pH ab) λct bq=>(go2 ?_));refine wX I (xI zT i underlying35 zM rl) λcq bp=>(wX I (xA zM bp) λcp bo=>?_);refine w_c I (sC (ev2 I I) call23 (λw hs=>zCQ hs bq bo oM oM oM) λax h1 ah bn=>?_);obtain rfl:ax=vI (sdZ s (l.getD i zT)):=bn;have bu:=bJ s (l.getD i zT);refine gc3 (λM=>?_) λM=>?_
  ·
   refine qM ?_;refine zC I I ?_;exact(yH (λe=>M (e.2.1 i oM))).symm
  refine go8 ?_;refine gqL ((i+1),h1) ?_ ?_
  · exact⟨mle,by omega,wQ (Q:=λu=>sdZ s (gp l u)=0) hi2 (Classical.not_not.1 M)⟩
  omega
 have hS:∀u,u<l.length->sdZ s (gp l u)=0:=λu hu=>hi2 u oM;refine uV ?_;refine gcL (ι:=Nat×Mem) (λ(i,mb)=>(MLe ma mb/\(i<=l.length/\∀u,u<i->∀C,2<=C->C<l.length->0<orZ (pt2 s (gp l u)) (pt2 s (nx l u)) (pt2 s (gp l ((u+C)%l.length)))),[(0,vl),(3,vP b3 0),(5,vI (↑(l).length:Int)),(7,vI ↑i)],[.var b3 50 U],mb,l.length-i)) (0,ma) ?_ ?_
 · exact⟨mle,by omega,λu h=>by omega⟩
 rintro⟨i,mb⟩ ⟨bx,cy,ao⟩
 refine yW ?_;refine gc8 (λaq=>?_) λaq=>?_
 ·
  refine go5 ?_;refine zK 15 _ [(11,(8,31,[.bool false,.slice none 0 0,.slice none 0 0,.bool false,.slice none 0 0,.slice none 0 0,.bool false,.slice none 0 0,.slice none 0 0])),(12,(9,31,[.bool false,.slice none 0 0,.slice none 0 0,.bool false,.slice none 0 0,.slice none 0 0,.bool false,.slice none 0 0,.slice none 0 0]))] [(0,.q),(1,.q),(2,.q),(3,.q),(4,.q),(5,.q),(6,.q),(7,.q),(8,.q),(9,.q),(10,.q),(11,.a),(12,.a),(13,.c),(14,.c)] yA (jM.cons I I (uR yM I I) (jM.cons I I (uR yM I I) jM.nil)) (wJ zou) (uU I I (uU I I kU)) (λr hr=>hr) (go2 ?_);refine wX I (xI zT i underlying35 zM rl) λco bm=>(wX I (xA zM bm) λcn bl=>(go4 ?_));refine wI I (λ_ _=>wC I I oM oM) I (wX I (xI zT ((i+1)%l.length) underlying35 zM rl (hi:=by exact Nat.mod_lt _ oM)) λcm bk=>(wX I (xA zM bk) λcl bj=>?_));refine w_a I I (λb8=>?_);have ba:(tPt (k+1)).R mb [.bool false,.slice none 0 0,.slice none 0 0,.bool false,.slice none 0 0,.slice none 0 0,.bool false,.slice none 0 0,.slice none 0 0] zT:=(xO (yI oM));refine w_a I I (λb9=>?_);have az:(tPt (k+1)).R mb [.bool false,.slice none 0 0,.slice none 0 0,.bool false,.slice none 0 0,.slice none 0 0,.bool false,.slice none 0 0,.slice none 0 0] zT:=(xO (yI oM));refine w_c I (pY (A:=[_]) (uB sizeOf31 pH ba (bl.le (Le.t (Le.q (l:=k+1) oM)))) (xJ zoy) λav Z=>?_);refine w_c I (pY (A:=[]) (uB sizeOf31 pH az (bj.le (Le.t (Le.q (l:=k+1) oM)))) (xJ zoy) λau aj=>(go8 ?_));refine gcL (ι:=Nat×Mem) (λ(q,mq)=>(MLe mb mq/\((2<=q/\q<=l.length)/\∀C,2<=C->C<q->0<orZ (pt2 s (gp l i)) (pt2 s (nx l i)) (pt2 s (gp l ((i+C)%l.length)))),[(0,vl),(3,vP b3 0),(5,vI (↑(l).length:Int)),(7,vI ↑i),(8,vP b8 0),(9,vP b9 0),(10,vI ↑q)],[.var b9 31 au,.var b8 31 av,.var b3 50 U],mq,l.length-q)) (2,mb) ?_ ?_
  · exact⟨mle,⟨by omega,by omega⟩,λC G O=>by omega⟩
  rintro⟨q,mq⟩ ⟨bw,⟨cw,cv⟩,an⟩
  refine yW ?_;refine gc8 (λap=>?_) λap=>?_
  ·
   refine qM ?_;refine gv (wC I I oM oM) I (lX (xI zT ((i+q)%l.length) underlying35 zM rl (hi:=by exact Nat.mod_lt _ oM)) λck bi=>(lX (xA zM bi) λcj bh=>(nA (ρ:=(tPt (k+1))) (X:=zT) yM (xO (yI oM)) λde ca ak=>(zW (A:=[]) (uB sizeOf31 pH ak (bh.le (Le.t (Le.q (l:=k+1) oM)))) λbv aa=>(go3 ?_)))));refine zK 11 _ [] [(0,.q),(1,.q),(3,.q),(4,.q),(6,.q),(7,.q),(2,.c),(5,.c),(8,.c),(9,.c),(10,.q)] yA nX zou nX (λr hr=>hr) (wX I (xB zM pH aj) λci bg=>(wX I (xB zM pH Z) λch bf=>(wX I (xB zM pH aa) λcf be=>(wX I (xB zM pH Z) λce bd=>(go1 ?_)))));refine wX I (xB zM (Pc.fst pH) ab) λcc bc=>?_;refine w_c I (sC (ev2 I I) call22 (λw hs=>lE hs bg bf oM) λcg h1 ah ae=>?_);replace ae:=Rp.Is.le ae (Le.t (Le.q (l:=2*k+3) oM));refine w_c I (sC (ev2 I I) call22 (λw hs=>lE hs be.up bd.up oM) λcd h2 dc ad=>?_);replace ad:=Rp.Is.le ad (Le.t (Le.q (l:=2*k+3) oM));refine w_c I (sC (ev3 I I I) call98 (λw hs=>zW6 hs ae.up ad bc.up oM oM oM) λcb h3 db ac=>?_);replace ac:=Rp.Is.le ac (Le.q (l:=18*k+6*n+45) oM);refine w_c I (sC (ev1 I) call48 (λw hs=>uD hs ac oM) λaw h4 da bb=>?_);obtain rfl:aw=vI (yR (y5 (T3.mk ((l.getD ((i+1)%l.length) zT).x-(l.getD i zT).x) ((l.getD ((i+1)%l.length) zT).y-(l.getD i zT).y) ((l.getD ((i+1)%l.length) zT).z-(l.getD i zT).z)) (T3.mk ((l.getD ((i+q)%l.length) zT).x-(l.getD i zT).x) ((l.getD ((i+q)%l.length) zT).y-(l.getD i zT).y) ((l.getD ((i+q)%l.length) zT).z-(l.getD i zT).z)) s.1)):=bb;have bt:=yX (y5 (T3.mk ((l.getD ((i+1)%l.length) zT).x-(l.getD i zT).x) ((l.getD ((i+1)%l.length) zT).y-(l.getD i zT).y) ((l.getD ((i+1)%l.length) zT).z-(l.getD i zT).z)) (T3.mk ((l.getD ((i+q)%l.length) zT).x-(l.getD i zT).x) ((l.getD ((i+q)%l.length) zT).y-(l.getD i zT).y) ((l.getD ((i+q)%l.length) zT).z-(l.getD i zT).z)) s.1);refine gc3 (λJ=>?_) λJ=>?_
   ·
    have ai:¬0<orZ (pt2 s (gp l i)) (pt2 s (nx l i)) (pt2 s (gp l ((i+q)%l.length))):=(zY6 hN (hS i oM) (hS ((i+1)%l.length) (Nat.mod_lt _ oM)) (hS ((i+q)%l.length) (Nat.mod_lt _ oM))).1 J;refine rA ?_;refine zC I I ?_;exact(yH (λe=>ai (e.2.2 i q oM oM oM))).symm
   have ai:0<orZ (pt2 s (gp l i)) (pt2 s (nx l i)) (pt2 s (gp l ((i+q)%l.length))):=Classical.not_not.1 (λe=>J ((zY6 hN (hS i oM) (hS ((i+1)%l.length) (Nat.mod_lt _ oM)) (hS ((i+q)%l.length) (Nat.mod_lt _ oM))).2 e));refine go8 ?_;refine yO (A:=[]) ?_;refine gqL ((q+1),h4) ?_ ?_
   · exact⟨mle,⟨by omega,by omega⟩,λC G O=>by rcases Nat.lt_succ_iff_lt_or_eq.1 O with e|e;exact an C G e;subst e;exact ai⟩
   omega
  refine qM ?_;refine yO (A:=[]) (yO (A:=[]) ?_);refine gqL ((i+1),mq) ?_ ?_
  · exact⟨mle,by omega,wQ (Q:=λu=>∀C,2<=C->C<l.length->0<orZ (pt2 s (gp l u)) (pt2 s (nx l u)) (pt2 s (gp l ((u+C)%l.length)))) ao (λC G O=>an C G oM)⟩
  omega
 have hE:∀u C,u<l.length->2<=C->C<l.length->0<orZ (pt2 s (gp l u)) (pt2 s (nx l u)) (pt2 s (gp l ((u+C)%l.length))):=λu C hu G O=>ao u oM C G O;refine qM ?_;refine zC I I ?_;exact(xM ⟨⟨h3,hN⟩,hS,hE⟩).symm
end Go.Proofs.YtpkaegemlpaenaaGreat
namespace Bk
open Classical
def badE(s:Sd)(p v:Pt)(f l k:Nat):Prop:=gp (gl (vT s f) l) k≠gp (gl (vT s f) l) ((k+1)%(gl (vT s f) l).length)/\nQ p (gp (gl (vT s f) l) k) (gp (gl (vT s f) l) ((k+1)%(gl (vT s f) l).length)) v
def okEL(s:Sd)(p v:Pt)(f l:Nat):Prop:=∀k,k<(gl (vT s f) l).length->¬badE s p v f l k
def okEF(s:Sd)(p v:Pt)(f:Nat):Prop:=∀l,l<(vT s f).length->okEL s p v f l
section
variable {A B p v:Pt}
end
theorem zH3(s:Sd)(f:Nat)(q:Pt):-1<=whF s f q/\whF s f q<=1:=by
 unfold whF whZ
 split
 · omega
 · exact zAN _ _ _ _ _
def bdS(s:Sd)(p d:Pt)(f:Nat):Prop:=¬skP s p d f/\whF s f (bM p d (hnF s p f/cnF s d f))=0
def nbS(s:Sd)(p d:Pt):Prop:=∀f,f<s.2.1.length->¬bdS s p d f
noncomputable def crU(s:Sd)(p d:Pt):Int:=if nbS s p d then(crP s p d s.2.1.length).1 else 0
noncomputable def crV(s:Sd)(p d:Pt):Int:=if nbS s p d then(crP s p d s.2.1.length).2 else 0
theorem zCU{s:Sd}(h:gK s)(p d:Pt):nbM (gL s) p d↔nbS s p d:=by
 unfold nbM nbS;rw[zAC];have g:∀f,f<s.2.1.length->(bdM ((gL s).1.getD f fm0) p d↔bdS s p d f):=λf C=>by
  unfold bdM bdS;rw[zGY C,zEH h p d C,zJJ h p d C]
 exact⟨λe f C D=>e f C ((g f C).2 D),λe f C D=>e f C ((g f C).1 D)⟩
theorem yC4{s:Sd}(h:gK s)(p d:Pt):crA (gL s) p d=crU s p d/\crB (gL s) p d=crV s p d:=by
 unfold crA crB crU crV;rw[zAC,zK6 h p d _ (Nat.le_refl _)]
 by_cases e:nbS s p d
 · rw[if_pos e,if_pos e,if_pos ((zCU h p d).2 e),if_pos ((zCU h p d).2 e)];exact⟨I,I⟩
 · rw[if_neg e,if_neg e,if_neg λC=>e ((zCU h p d).1 C),if_neg λC=>e ((zCU h p d).1 C)];exact⟨I,I⟩
def okR(s:Sd)(p d:Pt):Prop:=¬(onB s p\/d=zT)/\nbS s p d
noncomputable def crX(s:Sd)(p d:Pt):Int:=if onB s p\/d=zT then 0 else crU s p d
noncomputable def crY(s:Sd)(p d:Pt):Int:=if onB s p\/d=zT then 0 else crV s p d
theorem yD5{s:Sd}{p d:Pt}(h:onB s p\/d=zT):crX s p d=0/\crY s p d=0/\¬okR s p d:=⟨if_pos h,if_pos h,λe=>e.1 h⟩
theorem yLH{s:Sd}{p d:Pt}{f:Nat}(h:¬(onB s p\/d=zT))(hf:f<s.2.1.length)(hb:bdS s p d f):crX s p d=0/\crY s p d=0/\¬okR s p d:=by
 have C:¬nbS s p d:=λe=>e f hf hb;exact⟨(if_neg h).trans (if_neg C),(if_neg h).trans (if_neg C),λe=>C e.2⟩
theorem yIL{s:Sd}{p d:Pt}(h:¬(onB s p\/d=zT))(hn:∀f,f<s.2.1.length->¬bdS s p d f):crX s p d=(crP s p d s.2.1.length).1/\crY s p d=(crP s p d s.2.1.length).2/\okR s p d:=⟨(if_neg h).trans (if_pos hn),(if_neg h).trans (if_pos hn),h,hn⟩
theorem zC9(s:Sd)(p d:Pt):∀n:Nat,(0<=(crP s p d n).1/\(crP s p d n).1<=n)/\(0<=(crP s p d n).2/\(crP s p d n).2<=n)
  |0=>by
   show(0<=(0:Int)/\(0:Int)<=((0:Nat):Int))/\(0<=(0:Int)/\(0:Int)<=((0:Nat):Int))
   omega
  |n+1=>by
   have ih:=zC9 s p d n;unfold crP
   split
   · omega
   · split
     · split
       · show(0<=(crP s p d n).1+1/\(crP s p d n).1+1<=_)/\(0<=(crP s p d n).2/\(crP s p d n).2<=_)
         omega
       · show(0<=(crP s p d n).1/\(crP s p d n).1<=_)/\(0<=(crP s p d n).2+1/\(crP s p d n).2+1<=_)
         omega
     · omega
theorem zUK(s:Sd)(p d:Pt):(0<=crX s p d/\crX s p d<=s.2.1.length)/\(0<=crY s p d/\crY s p d<=s.2.1.length):=by
 have h:=zC9 s p d s.2.1.length;unfold crX crY crU crV
 split
 · omega
 · split
   · exact h
   · omega
section
variable {s:Sd}{p d:Pt}{f:Nat}
theorem sk_0(h:yR (cnF s d f)=0):skP s p d f:=by unfold skP;rw[h,Int.zero_mul];exact Int.le_refl 0
theorem zVI(h:¬yR (cnF s d f)=0):skP s p d f↔yR (if cnF s d f=0 then 0 else hnF s p f/cnF s d f)<=0:=by
 have G:¬cnF s d f=0:=λe=>h (if_pos e);unfold skP;rw[if_neg G,j7];generalize cnF s d f=c at *;generalize hnF s p f=t at *;have M:yR (t/c)<=0↔¬0<t/c:=by rw[<-zAY];omega
 rw[M];have J:0<t/c↔(0<c/\0<t)\/(c<0/\t<0):=by
  have H:t=(t/c)*c:=by grind
  generalize t/c=q at *;constructor
  · intro D
    have C:c<0\/c=0\/0<c:=by grind
    rcases C with hc'|hc'|hc'
    · refine .inr ⟨hc',?_⟩
      have:=kP D (show 0< -c by grind);grind
    · exact absurd hc' G
    · exact .inl ⟨hc',by rw[H];exact kP D hc'⟩
  · rintro(⟨h1,h2⟩|⟨h1,h2⟩)
    · refine Rat.not_le.1 λe=>?_
      have:=Rat.mul_le_mul_of_nonneg_right e (Rat.le_of_lt h1);grind
    · refine Rat.not_le.1 λe=>?_
      have:=Rat.mul_le_mul_of_nonneg_right e (show 0<= -c by grind);grind
 rw[J]
theorem zJZ(h:¬yR (cnF s d f)=0):whF s f (T3.mk (p.x+(if cnF s d f=0 then 0 else hnF s p f/cnF s d f)*d.x) (p.y+(if cnF s d f=0 then 0 else hnF s p f/cnF s d f)*d.y) (p.z+(if cnF s d f=0 then 0 else hnF s p f/cnF s d f)*d.z))=whF s f (bM p d (hnF s p f/cnF s d f)):=by
 have C:¬cnF s d f=0:=λe=>h (if_pos e);rw[if_neg C];rfl
theorem zR1(h:skP s p d f):crP s p d (f+1)=crP s p d f:=if_pos h
theorem yIP(h:¬skP s p d f)(h1:whF s f (bM p d (hnF s p f/cnF s d f))=1)(h2:0<cnF s d f):crP s p d (f+1)=((crP s p d f).1+1,(crP s p d f).2):=(if_neg h).trans ((if_pos h1).trans (if_pos h2))
theorem yLJ(h:¬skP s p d f)(h1:whF s f (bM p d (hnF s p f/cnF s d f))=1)(h2:¬0<cnF s d f):crP s p d (f+1)=((crP s p d f).1,(crP s p d f).2+1):=(if_neg h).trans ((if_pos h1).trans (if_neg h2))
theorem yLI(h:¬skP s p d f)(h1:¬whF s f (bM p d (hnF s p f/cnF s d f))=1):crP s p d (f+1)=crP s p d f:=(if_neg h).trans (if_neg h1)
end
end Bk
namespace Go.Proofs.YtpkaegemlpaenaaGreat
open Bk Go Tryz
set_option maxRecDepth 10000
set_option maxHeartbeats 1000000
attribute [local irreducible] GL GC GQ W OpV
section
variable{w0:World}{h0:Mem}(hs:MLe h0 (mem w0))
include hs
theorem zDR{k m n j i0:Nat}{vs:Value}{s:Sq}(rs:(tSd k m n j).Is h0 vs s){f:Nat}{vp:Value}{p:Tq}(rp:(tPt i0).Is h0 vp p)(hcd0:okS s)(hcd1:f<s.2.1.length)(hcd2:k<=1000)(hcd3:k+i0<=9800)(hcd4:m<=100000)(hcd5:n<=100000):
 Calls Tryz.prog 71 #[vs,vI ↑f,vp] w0 (Ret w0 h0 (λ_ r=>r=vI (whF s f p))):=by
 have am:=hcd0.1.1.2;have an:=hcd0.1.1.1;have D:=dW s f;have C:=aT (s:=s) (f:=↑f) hcd0.2.1;refine cb3 19 vs (vI ↑f) vp func71 hs ?_;refine go2 ?_;refine nB rs λb3 au G=>(nB rp λb5 ar J=>(go4 ?_));refine zK 13 _ [] [(0,.q),(1,.q),(3,.q),(4,.q),(5,.q),(6,.q),(7,.q),(8,.q),(9,.q),(2,.c),(10,.c),(11,.c),(12,.q)] yA nX (wJ zou) nX (λr hr=>hr) (wX I (xB jB pH G) λv7 r7=>(go2 ?_));refine wX I (xB kR (Pc.snd (Pc.fst pH)) G) λak ac=>(go1 ?_);refine wX I (xI zA f underlying36 pV ac) λaj ab=>(wX I (xF underlying53 sizeOf50 (Pc.fst pH) ab) λai aa=>(wX I (xA bG aa) λah Z=>(wX I (xB zM pH J) λae U=>?_)));refine w_c I (sC (ev2 I I) call111 (λw hs=>zF5 (f:=f) hs r7 oM oM oM (by first|omega|exact hcd0.big|exact C) (by first|omega|exact hcd0.big|exact C) (by first|omega|exact hcd0.big|exact C) (by first|omega|exact hcd0.big|exact C)) λv9 h1 aq r9=>?_);refine w_c I (sC (ev2 I I) call112 (λw hs=>zBG hs Z.up U.up oM oM) λad h2 ap O=>?_);refine w_c I (sC (ev2 I I) call110 (λw hs=>zPG hs (r9.up.le (Le.s (Le.s (Le.t (Le.q (l:=i0+k+2) oM))))) (O.le (Le.t (Le.q (l:=i0+k+2) oM))) oM (by first|omega|(rw[D.1];exact Nat.le_trans C.1 dC)|(intro x hx;obtain⟨i,hi,rfl⟩:=zAB [] hx;rw[D.2 i];exact Nat.le_trans (C.2 i) dC)) (by first|omega|(rw[D.1];exact Nat.le_trans C.1 dC)|(intro x hx;obtain⟨i,hi,rfl⟩:=zAB [] hx;rw[D.2 i];exact Nat.le_trans (C.2 i) dC))) λH h3 ao M=>?_);obtain rfl:H=vI (whZ (gR s f) (pr (qJ ((s.2.1.getD f zA).1) p) 0 1) 0 1):=M;refine go4 ?_;refine zC I I ?_
 rfl
theorem zW8{k m n j i0:Nat}{vs:Value}{s:Sq}(rs:(tSd k m n j).Is h0 vs s){vp:Value}{p:Tq}(rp:(tPt i0).Is h0 vp p)(hcd0:okS s)(hcd1:k<=1000)(hcd2:i0<=3000)(hcd3:m<=100000)(hcd4:n<=100000):
 Calls Tryz.prog 31 #[vs,vp] w0 (Ret w0 h0 (λh r=>r=.tuple #[vI (↑(onI s p):Int),vB (onB s p)])):=by
 have az:=hcd0.1.1.2;refine cb2 31 vs vp func31 hs ?_;refine go2 ?_;refine nB rs λb2 ao H=>(nB rp λb3 an J=>(qM ?_));refine gcL (ι:=Nat×Mem) (λ(f,ma)=>(MLe h0 ma/\(f<=s.2.1.length/\∀u,u<f->¬onP s p u),[(2,vP b2 0),(3,vP b3 0),(6,vI ↑f)],[.var b3 31 an,.var b2 39 ao],ma,s.2.1.length-f)) (0,h0) ?_ ?_
 · exact⟨mle,by omega,λu h=>by omega⟩
 rintro⟨f,ma⟩ ⟨ap,bc,G⟩
 refine yW ?_;refine go5 ?_;refine lX (xB kR (Pc.snd (Pc.fst pH)) H) λv9 r9=>(gc4 (λM=>?_) λM=>?_)
 ·
  refine go5 ?_;refine zK 16 _ [] [(0,.q),(1,.q),(2,.q),(3,.q),(4,.q),(5,.q),(6,.q),(7,.c),(8,.q),(9,.q),(10,.q),(11,.q),(12,.q),(13,.c),(14,.q),(15,.q)] yA nX (wJ zou) nX (λr hr=>hr) (go1 ?_);refine wX I (xB kR (Pc.snd (Pc.fst pH)) H) λay aj=>(go1 ?_);refine wX I (xI zA f underlying36 pV aj) λax ai=>(wX I (xF underlying53 sizeOf50 (Pc.fst pH) ai) λaw ah=>(wX I (xA bG ah) λav ae=>(wX I (xB zM pH J) λau ad=>?_)));refine w_c I (sC (ev2 I I) call23 (λw hs=>zCQ hs ae ad oM oM oM) λU h1 bb ac=>?_);obtain rfl:U=vI (sdZ ((s.2.1.getD f zA).1) p):=ac;have am:=bJ ((s.2.1.getD f zA).1) p;refine go2 ?_;refine jH ((sdZ ((s.2.1.getD f zA).1) p)=(0:Int)) (λC=>?_) (λC=>?_)
  ·
   rw[xM C];refine oX I (xB jB pH H) λar ab=>(yS I I I (λh' L' hh hR=>yZ I) I (oX I (xB zM pH J) λaq aa=>?_));refine w_c I (zA6 I I (sC (ev3 I I I) call71 (λw hs=>zDR (f:=f) hs ab aa (by first|omega|exact hcd0) (by first|omega|exact hcd0) oM oM oM oM) λO h2 ba Z=>?_));obtain rfl:O=vI (whF s f p):=Z;have ak:=zH3 s f p;refine gc4 (λD=>?_) λD=>?_
   ·
    obtain⟨e1,e2⟩:=zWY oM ⟨by assumption,D⟩ G;refine sO ?_;refine wK I I I ?_;rw[e1,xM e2]
   refine go8 ?_;refine gqL ((f+1),h2) ?_ ?_
   · exact⟨mle,by omega,wQ (Q:=λu=>¬onP s p u) G (λe=>D e.2)⟩
   omega
  rw[yH C];refine go3 ?_;refine w_c I (lW I I I I (sO ?_));refine gqL ((f+1),h1) ?_ ?_
  · exact⟨mle,by omega,wQ (Q:=λu=>¬onP s p u) G (λe=>absurd e.1 zo4)⟩
  omega
 obtain⟨e1,e2⟩:=yBU (s:=s) (p:=p) (λu hu=>G u oM);refine uV ?_;refine wK I I I ?_;rw[e1,yH e2];rfl
theorem zD7{k m n j i0 i1:Nat}{vs:Value}{s:Sq}(rs:(tSd k m n j).Is h0 vs s){vp:Value}{p:Tq}(rp:(tPt i0).Is h0 vp p){vd:Value}{d:Tq}(rd:(tPt i1).Is h0 vd d)(hcd0:okS s)(hcd1:k<=100)(hcd2:28*i0+30*i1+54*m+9*n<=9500):
 Calls Tryz.prog 42 #[vs,vp,vd] w0 (Ret w0 h0 (λh r=>r=.tuple #[vI (crX s p d),vI (crY s p d),vB (okR s p d)])):=by
 have eo:=hcd0.1.1.2;have en:=zUK s p d;refine cb3 85 vs vp vd func42 hs ?_;refine go2 ?_;refine nB rs λb3 bi ai=>(nB rp λb4 bh ao=>(nB rd λb5 bg an=>(go8 ?_)));refine lX (xB jB pH ai) λel cp=>(lX (xB zM pH ao) λek co=>(cL (ev2 I I) call31 (λw hs=>zW8 hs cp co (by first|omega|exact hcd0) oM oM oM oM) λej h1 ey cn=>?_));obtain rfl:=cn;refine uG ?_;refine qB (ι:=Mem) 4 (λm_=>MLe h1 m_) (λ_=>[(28,vB ((onB s p)\/(d=zT))),(3,vP b3 0),(4,vP b4 0),(5,vP b5 0)]) (λ_=>[.var b5 31 bg,.var b4 31 bh,.var b3 39 bi]) (λm_=>m_) ?_ ?_
 ·
  refine zY (onB s p) (λhg=>?_) (λhg=>?_)
  ·
   refine gT hg I (go4 ?_);refine zS h1 (MLe.refl _) ⟨?_,I,I,I,trivial⟩ I I;exact congrArg some (vD hg)
  refine gF hg I (go1 ?_);refine lX (xB zM pH an) λei cm=>(go1 ?_);refine cL (ev1 I) call80 (λw hs=>dP hs cm oM) λbn h2 bd cl=>?_;obtain rfl:bn=vB (d=zT):=cl;refine go2 ?_;refine zS h2 bd ⟨?_,I,I,I,trivial⟩ I I;exact congrArg some (vG hg)
 intro ac bc;refine tY ?_;refine gc2 (λU=>?_) λU=>?_
 ·
  obtain⟨e1,e2,e3⟩:=yD5 (s:=s) (p:=p) (d:=d) U;refine go9 ?_;refine uN I I I I ?_;rw[e1,e2,yH e3]
 refine rA ?_;refine gcL (ι:=Nat×Mem) (λ(f,ma)=>(MLe ac ma/\(f<=s.2.1.length/\∀u,u<f->¬bdS s p d u),[(3,vP b3 0),(4,vP b4 0),(5,vP b5 0),(11,vI (crP s p d f).1),(12,vI (crP s p d f).2),(13,vI ↑f)],[.var b5 31 bg,.var b4 31 bh,.var b3 39 bi],ma,s.2.1.length-f)) (0,ac) ?_ ?_
 · exact⟨mle,by omega,λu h=>by omega⟩
 rintro⟨f,ma⟩ ⟨cy,ez,Z⟩
 refine yW ?_;have fa:=zC9 s p d f;refine go5 ?_;refine lX (xB kR (Pc.snd (Pc.fst pH)) ai) λeh em=>(gc4 (λbe=>?_) λbe=>?_)
 ·
  refine go7 ?_;refine lX (xB kR (Pc.snd (Pc.fst pH)) ai) λeg ck=>(go1 ?_);refine lX (xI zA f underlying36 pV ck) λee cj=>(lX (xF underlying53 sizeOf50 (Pc.fst pH) cj) λed ci=>(lX (xA bG ci) λec ch=>(nA (ρ:=(tPl 1 1)) (X:=(zT,(0:Rat))) sM (yC (xO (yI dC)) (yI dC)) λfd df bb=>?_)));have ay:=(Le.p (Le.t (Le.q (l:=m+1) oM)) (Le.q (l:=n+1) oM)).R bb;refine zW (A:=[]) (uB sizeOf50 pH ay (ch.le (Le.p (Le.t (Le.q (l:=m+1) oM)) (Le.q (l:=n+1) oM)))) λdd ab=>(go5 ?_);refine lX (xB zM (Pc.fst pH) ab) λeb cg=>(lX (xB zM pH an) λea cf=>(cL (ev2 I I) call56 (λw hs=>cE hs cg cf oM) λdz h2 bd av=>?_));replace av:=Rp.Is.le av (Le.q (l:=3*i1+3*m+12) oM);refine nA (ρ:=(rpQ 1)) (X:=(0:Rat)) xR (yI dC) λfc de ba=>?_;have ax:=(Le.q (l:=3*i1+3*m+12) oM).R ba;refine zW (A:=[]) (uB sizeOf29 pH ax av) λdc aa=>(go5 ?_);refine lX (xB yE pH aa) λdy ce=>(cL (ev1 I) call48 (λw hs=>uD hs ce oM) λbm h3 ew cd=>?_);obtain rfl:bm=vI (yR (xH (((s.2.1.getD f zA).1).1) d)):=cd;have cv:=yX (xH (((s.2.1.getD f zA).1).1) d);refine gc3 (λH=>?_) λH=>?_
  ·
   refine go9 ?_;refine yO (A:=[]) (yO (A:=[]) ?_);have ad:skP s p d f:=sk_0 H;have C:=zR1 ad;have O:¬bdS s p d f:=λe=>e.1 ad;refine gqL ((f+1),h3) ?_ ?_ (he:=⟨I,I,I,congrArg (λz:Int=>some (vI z)) (by have J:=congrArg Prod.fst C.symm;exact J),congrArg (λz:Int=>some (vI z)) (by have J:=congrArg Prod.snd C.symm;exact J),I,trivial⟩)
   · exact⟨mle,by omega,wQ (Q:=λu=>¬bdS s p d u) Z O⟩
   omega
  refine go3 ?_;refine zK 15 _ [(12,(16,29,[.bool false,.slice none 0 0,.slice none 0 0]))] [(0,.q),(1,.q),(2,.q),(3,.q),(4,.q),(7,.q),(5,.c),(6,.c),(8,.c),(9,.q),(10,.q),(11,.q),(12,.a),(13,.c),(14,.q)] yA (jM.cons I I (uR xR I I) jM.nil) (wJ zou) (uU I I kU) (λr hr=>hr) (go1 ?_);refine wX I (xB yE (Pc.snd pH) ab) λdx cc=>(go1 ?_);refine wX I (xB zM (Pc.fst pH) ab) λdw cb=>(wX I (xB zM pH ao) λdv ca=>(wX I (xB yE pH aa) λdr bz=>?_));refine w_c I (sC (ev2 I I) call56 (λw hs=>cE hs cb ca oM) λdu h4 ev au=>?_);replace au:=Rp.Is.le au (Le.q (l:=3*i0+3*m+12) oM);refine w_c I (sC (ev2 I I) call55 (λw hs=>gZ hs cc.up au oM) λdt h5 eu ar=>?_);replace ar:=Rp.Is.le ar (Le.q (l:=3*i0+3*m+n+14) oM);refine w_c I (sC (ev2 I I) call81 (λw hs=>zFX hs ar bz.up oM) λdq h6 es bx=>?_);obtain⟨am,rfl,M⟩:=bx
  change (rpQ ((3*i0+3*m+n+14)+(3*i1+3*m+12))).Is h6 am (if(xH (((s.2.1.getD f zA).1).1) d)=0 then 0 else((((s.2.1.getD f zA).1).2)-(xH (((s.2.1.getD f zA).1).1) p))/(xH (((s.2.1.getD f zA).1).1) d)) at M
  replace M:=Rp.Is.le M (Le.q (l:=3*i0+3*i1+6*m+n+26) oM);refine go3 ?_;refine w_a I I (λfb=>?_);have az:(rpQ 1).R h6 [.bool false,.slice none 0 0,.slice none 0 0] (0:Rat):=(yI dC);refine w_c I ?_;have aw:=(Le.q (l:=3*i0+3*i1+6*m+n+26) oM).R az;refine pY (A:=[]) (uB sizeOf29 pH aw M) (xJ zoy) λdb ak=>(go6 ?_);refine lX (xB yE pH ak) λdp bw=>(cL (ev1 I) call48 (λw hs=>uD hs bw oM) λbl h7 er bv=>?_);obtain rfl:bl=vI (yR (if(xH (((s.2.1.getD f zA).1).1) d)=0 then 0 else((((s.2.1.getD f zA).1).2)-(xH (((s.2.1.getD f zA).1).1) p))/(xH (((s.2.1.getD f zA).1).1) d))):=bv;have cu:=yX (if(xH (((s.2.1.getD f zA).1).1) d)=0 then 0 else((((s.2.1.getD f zA).1).2)-(xH (((s.2.1.getD f zA).1).1) p))/(xH (((s.2.1.getD f zA).1).1) d));refine gc3 (λah=>?_) λah=>?_
  ·
   refine go9 ?_;refine yO (A:=[]) (yO (A:=[]) (yO (A:=[]) ?_));have ad:skP s p d f:=(zVI H).2 ah;have C:=zR1 ad;have O:¬bdS s p d f:=λe=>e.1 ad;refine gqL ((f+1),h7) ?_ ?_ (he:=⟨I,I,I,congrArg (λz:Int=>some (vI z)) (by have J:=congrArg Prod.fst C.symm;exact J),congrArg (λz:Int=>some (vI z)) (by have J:=congrArg Prod.snd C.symm;exact J),I,trivial⟩)
   · exact⟨mle,by omega,wQ (Q:=λu=>¬bdS s p d u) Z O⟩
   omega
  have aj:¬skP s p d f:=λe=>ah ((zVI H).1 e);refine go3 ?_;refine zK 8 _ [] [(0,.q),(1,.q),(2,.q),(3,.q),(4,.q),(5,.c),(6,.c),(7,.c)] yA nX zou nX (λr hr=>hr) (wX I (xB jB pH ai) λdn bu=>(go1 ?_));refine wX I (xB zM pH ao) λdm bt=>(wX I (xB yE pH ak) λdl bs=>(wX I (xB zM pH an) λdk br=>?_));refine w_c I (sC (ev2 I I) call20 (λw hs=>oF hs bs br oM) λdj h8 eq aq=>?_);replace aq:=Rp.Is.le aq (Le.t (Le.q (l:=3*i0+4*i1+6*m+n+26) oM));refine w_c I (sC (ev2 I I) call14 (λw hs=>zFW hs bt.up aq oM) λdi J ep ap=>?_);replace ap:=Rp.Is.le ap (Le.t (Le.q (l:=4*i0+4*i1+6*m+n+27) oM));refine w_c I (sC (ev3 I I I) call71 (λw hs=>zDR (f:=f) hs bu.up ap (by first|omega|exact hcd0) (by first|omega|exact hcd0) oM oM oM oM) λbk cw da bq=>?_);obtain rfl:bk=vI (whF s f (T3.mk (p.x+((if(xH (((s.2.1.getD f zA).1).1) d)=0 then 0 else((((s.2.1.getD f zA).1).2)-(xH (((s.2.1.getD f zA).1).1) p))/(xH (((s.2.1.getD f zA).1).1) d))*d.x)) (p.y+((if(xH (((s.2.1.getD f zA).1).1) d)=0 then 0 else((((s.2.1.getD f zA).1).2)-(xH (((s.2.1.getD f zA).1).1) p))/(xH (((s.2.1.getD f zA).1).1) d))*d.y)) (p.z+((if(xH (((s.2.1.getD f zA).1).1) d)=0 then 0 else((((s.2.1.getD f zA).1).2)-(xH (((s.2.1.getD f zA).1).1) p))/(xH (((s.2.1.getD f zA).1).1) d))*d.z)))):=bq;have cq:=zH3 s f (T3.mk (p.x+((if(xH (((s.2.1.getD f zA).1).1) d)=0 then 0 else((((s.2.1.getD f zA).1).2)-(xH (((s.2.1.getD f zA).1).1) p))/(xH (((s.2.1.getD f zA).1).1) d))*d.x)) (p.y+((if(xH (((s.2.1.getD f zA).1).1) d)=0 then 0 else((((s.2.1.getD f zA).1).2)-(xH (((s.2.1.getD f zA).1).1) p))/(xH (((s.2.1.getD f zA).1).1) d))*d.y)) (p.z+((if(xH (((s.2.1.getD f zA).1).1) d)=0 then 0 else((((s.2.1.getD f zA).1).2)-(xH (((s.2.1.getD f zA).1).1) p))/(xH (((s.2.1.getD f zA).1).1) d))*d.z)));refine gc9 (λD=>?_) λD=>?_
  ·
   replace D:=(zJZ H).symm.trans D;obtain⟨e1,e2,e3⟩:=yLH (s:=s) (p:=p) (d:=d) U (show f<s.2.1.length by omega) ⟨aj,D⟩;refine tZ ?_;refine uN I I I I ?_;rw[e1,e2,yH e3]
  replace D:=λe=>D ((zJZ H).trans e);refine gc6 (λG=>?_) λG=>?_
  ·
   replace G:=(zJZ H).symm.trans G;refine go2 ?_;refine lX (xB yE pH aa) λdh bp=>(cL (ev1 I) call48 (λw hs=>uD hs bp oM) λbj bf cz bo=>?_);obtain rfl:bj=vI (yR (xH (((s.2.1.getD f zA).1).1) d)):=bo;have ct:=yX (xH (((s.2.1.getD f zA).1).1) d);refine gc3 (λae=>?_) λae=>?_
   ·
    refine sO ?_;refine yO (A:=[]) (yO (A:=[]) (yO (A:=[]) ?_));have C:=yIP aj G (zAY.1 ae);have O:¬bdS s p d f:=λe=>D e.2;refine gqL ((f+1),bf) ?_ ?_ (he:=⟨I,I,I,congrArg (λz:Int=>some (vI z)) (by have J:=congrArg Prod.fst C.symm;exact J),congrArg (λz:Int=>some (vI z)) (by have J:=congrArg Prod.snd C.symm;exact J),I,trivial⟩)
    · exact⟨mle,by omega,wQ (Q:=λu=>¬bdS s p d u) Z O⟩
    omega
   refine sO ?_;refine yO (A:=[]) (yO (A:=[]) (yO (A:=[]) ?_));have C:=yLJ aj G (λe=>ae (zAY.2 e));have O:¬bdS s p d f:=λe=>D e.2;refine gqL ((f+1),bf) ?_ ?_ (he:=⟨I,I,I,congrArg (λz:Int=>some (vI z)) (by have J:=congrArg Prod.fst C.symm;exact J),congrArg (λz:Int=>some (vI z)) (by have J:=congrArg Prod.snd C.symm;exact J),I,trivial⟩)
   · exact⟨mle,by omega,wQ (Q:=λu=>¬bdS s p d u) Z O⟩
   omega
  replace G:=λe=>G ((zJZ H).trans e);refine go9 ?_;refine yO (A:=[]) (yO (A:=[]) (yO (A:=[]) ?_));have C:=yLI aj G;have O:¬bdS s p d f:=λe=>D e.2;refine gqL ((f+1),cw) ?_ ?_ (he:=⟨I,I,I,congrArg (λz:Int=>some (vI z)) (by have J:=congrArg Prod.fst C.symm;exact J),congrArg (λz:Int=>some (vI z)) (by have J:=congrArg Prod.snd C.symm;exact J),I,trivial⟩)
  · exact⟨mle,by omega,wQ (Q:=λu=>¬bdS s p d u) Z O⟩
  omega
 have ef:f=s.2.1.length:=by omega
 obtain⟨e1,e2,e3⟩:=yIL (s:=s) (p:=p) (d:=d) U (λu hu=>Z u oM);rw[ef] at *;refine rA ?_;refine uN I I I I ?_;rw[e1,e2,xM e3]
theorem zMR{n:Int}(hn1:-9223372036854775808<=n)(hn2:n<9223372036854775808):Calls Tryz.prog 59 #[vI n] w0 (Ret w0 h0 (λh r=>(rpQ 2).Is h r (zQ0 n))):=
 (zTZ hs hn1 hn2).mono (gE λh r x=>y0 x.2 x.1)
end
end Go.Proofs.YtpkaegemlpaenaaGreat
namespace Bk
open Go Go.RowKit
section
variable {P:Program}{n:Nat}{w0:World}{h0:Mem}{e:List (Nat×Value)}{L:List Res}{h:Mem}{Q:Exit->Act->World->Prop}
theorem zYR{c:Code}(k:GC P n w0 h0 c (Exit.noGoto Q) e L h):GC P n w0 h0 (.scope c) Q e L h:=λa w E S=>wp_scope_straight (k a w E S)
theorem zYS{l:Nat}(k:GQ n w0 h0 Q .normal e L h):GC P n w0 h0 (.label l) Q e L h:=λa w E S=>wp_label (k a w E S)
theorem yK4(k:GQ n w0 h0 Q .ret e L h):GQ n w0 h0 (Exit.noGoto Q) .ret e L h:=k
end
end Bk
namespace Go.Proofs.YtpkaegemlpaenaaGreat
open Bk Go Tryz
set_option maxRecDepth 10000
set_option maxHeartbeats 1000000
attribute [local irreducible] GL GC GQ W OpV
section
variable{w0:World}{h0:Mem}(hs:MLe h0 (mem w0))
include hs
theorem zTU{k m n j:Nat}{vs:Value}{s:Sq}(rs:(tSd k m n j).Is h0 vs s){vf:Value}{f:(Pq×((List (List Int))×(List Nat)))}(rf:(tFc m n).Is h0 vf f)(hcd0:∀u v,u<f.2.1.length->v<(f.2.1.getD u []).length->0<=(f.2.1.getD u []).getD v 0/\(f.2.1.getD u []).getD v 0<s.1.length)(hcd1:s.1.length<=100000)(hcd2:∀u,u<f.2.1.length->(f.2.1.getD u []).length<=10000)(hcd3:f.2.1.length<=10000):
 Calls Tryz.prog 104 #[vs,vf] w0 (Ret w0 h0 (λ_ r=>r=vB (True))):=by
 refine cb2 33 vs vf func104 hs ?_;refine go2 ?_;refine nB rs λb2 aa ad=>(nB rf λb3 Z ac=>(go7 ?_));refine lX (xB pW (Pc.snd (Pc.fst pH)) ac) λG ak=>(go5 ?_);refine gcL (ι:=Nat×Mem) (λ(l,J)=>(MLe h0 J/\(l<=f.2.1.length),[(2,vP b2 0),(10,G),(11,vI (↑(f.2.1).length:Int)),(12,vI ↑l)],[.var b3 53 Z,.var b2 39 aa],J,f.2.1.length-l)) (0,h0) ?_ ?_
 · exact⟨mle,oM⟩
 rintro⟨l,J⟩ ⟨ao,C⟩
 refine yW ?_;have ba:=C;refine gc6 (λU=>?_) λU=>?_
 ·
  refine go6 ?_;refine lX (xI [] l underlying51 fK ak) λav aj=>(lX (xA fK aj) λab ai=>(qM ?_));refine gcL (ι:=Nat×Mem) (λ(u,H)=>(MLe J H/\(u<=(f.2.1.getD l []).length),[(2,vP b2 0),(10,G),(11,vI (↑(f.2.1).length:Int)),(12,vI ↑l),(16,ab),(17,vI (↑((f.2.1.getD l [])).length:Int)),(18,vI ↑u)],[.var b3 53 Z,.var b2 39 aa],H,(f.2.1.getD l []).length-u)) (0,J) ?_ ?_
  · exact⟨mle,oM⟩
  rintro⟨u,H⟩ ⟨an,C⟩
  refine yW ?_;have ax:=C;have bb:=hcd2 l oM;refine gc6 (λO=>?_) λO=>?_
  ·
   obtain⟨az,ay⟩:=hcd0 l u oM oM;refine go6 ?_;refine lX (xI (0:Int) u underlying22 ty3 ai) λau ah=>(lX (xA ty3 ah) λar ae=>?_);obtain⟨rfl,ap,am⟩:=kS ae;refine go7 ?_;refine gU 7 30 (vB ((((f.2.1.getD l []).getD u (0:Int))<(0:Int))\/((↑(s.1).length:Int)<=((f.2.1.getD l []).getD u (0:Int))))) ?_ ?_
   ·
    refine zY (((f.2.1.getD l []).getD u (0:Int))<(0:Int)) (λM=>?_) (λM=>?_)
    ·
     refine gT M I (go7 ?_);refine gqU ?_;exact congrArg some (vD M)
    refine gF M I (go5 ?_);refine lX (xB uO (Pc.fst pH) ad) λaq aw=>(go6 ?_);refine gqU ?_;exact congrArg some (vG M)
   refine gc2 (λD=>?_) λD=>?_
   · exact absurd D oM
   refine go7 ?_;refine gqL ((u+1),H) ?_ ?_
   · exact⟨mle,oM⟩
   omega
  refine uG ?_;refine gqL ((l+1),H) ?_ ?_
  · exact⟨mle,oM⟩
  omega
 refine qM ?_;refine zC I I ?_;exact(xM trivial).symm
theorem zMH{k m n j:Nat}{vs:Value}{s:Sq}(rs:(tSd k m n j).Is h0 vs s){vf:Value}{f:(Pq×((List (List Int))×(List Nat)))}(rf:(tFc m n).Is h0 vf f)(hcd0:∀u v,u<f.2.1.length->v<(f.2.1.getD u []).length->0<=(f.2.1.getD u []).getD v 0/\(f.2.1.getD u []).getD v 0<s.1.length)(hcd1:s.1.length<=100000)(hcd2:∀u,u<f.2.1.length->(f.2.1.getD u []).length<=10000)(hcd3:f.2.1.length<=10000):
 Calls Tryz.prog 105 #[vs,vf] w0 (Ret w0 h0 (λh r=>(tLL (k+1)).Is h r (zAX s.1 f.2.1 f.2.1.length))):=by
 refine cb2 39 vs vf func105 hs ?_;refine go2 ?_;refine nB rs λb2 au az=>(nB rf λb3 ar ay=>(uV ?_));refine lX (xB pW (Pc.snd (Pc.fst pH)) ay) λab bh=>(go5 ?_);refine xG 35 1 ?_;have ae:=RL.nil (ρ:=rpS (tPt (k+1))) (h:=h0);refine gcL (ι:=Nat×List (List Tq)×Value×List Value×Mem) (λ(l,D,C,G,ma)=>(MLe h0 ma/\(RL (tLs (k+1)) ma G D/\l<=f.2.1.length/\D=zAX s.1 f.2.1 l),[(2,vP b2 0),(5,C),(12,ab),(13,vI (↑(f.2.1).length:Int)),(14,vI ↑l)],[.gs 35 1 C D.length G,.var b3 53 ar,.var b2 39 au],ma,f.2.1.length-l)) (0,[],(.slice none 0 0),[],h0) ?_ ?_
 · exact⟨mle,ae,by omega,I⟩
 rintro⟨l,D,C,G,ma⟩ ⟨bk,O,ce,hD⟩
 refine yW ?_;have ci:D.length=l:=by rw[hD];exact yY _ _
 refine gc6 (λao=>?_) λao=>?_
 ·
  refine go6 ?_;refine lX (xI [] l underlying51 fK bh) λbv bg=>(lX (xA fK bg) λax bf=>(nR ?_));refine xG 31 9 ?_;have ad:=RL.nil (ρ:=rpT (rpQ (k+1))) (h:=ma);refine gcL (ι:=Nat×List Tq×Value×List Value×Mem) (λ(u,E,H,J,mb)=>(MLe ma mb/\(RL (tPt (k+1)) mb J E/\u<=(f.2.1.getD l []).length/\E=zFK s.1 (f.2.1.getD l []) u),[(2,vP b2 0),(5,C),(8,H),(12,ab),(13,vI (↑(f.2.1).length:Int)),(14,vI ↑l),(18,ax),(19,vI (↑((f.2.1.getD l [])).length:Int)),(20,vI ↑u)],[.gs 31 9 H E.length J,.gs 35 1 C D.length G,.var b3 53 ar,.var b2 39 au],mb,(f.2.1.getD l []).length-u)) (0,[],(.slice none 0 0),[],ma) ?_ ?_
  · exact⟨mle,ad,by omega,I⟩
  rintro⟨u,E,H,J,mb⟩ ⟨bj,M,cb,hE⟩
  refine yW ?_;have ch:E.length=u:=by rw[hE];exact yY _ _
  have cg:=hcd2 l oM;refine gc6 (λan=>?_) λan=>?_
  ·
   obtain⟨cd,cc⟩:=hcd0 l u oM oM;refine go6 ?_;refine lX (xI (0:Int) u underlying22 ty3 bf) λbu be=>(lX (xA ty3 be) λbt bd=>?_);obtain⟨rfl,bl,bi⟩:=kS bd;refine go6 ?_;refine lX (xB uO (Pc.fst pH) az) λbs bc=>(go1 ?_);refine lX (xI zT (((f.2.1.getD l []).getD u 0).toNat) underlying35 zM bc) λbr bb=>(lX (xA zM bb) λbq ba=>(zG (zL (ρ:=(tPt (k+1))) (m:=1) (xs:=[(s.1.getD (((f.2.1.getD l []).getD u 0).toNat) zT)]) (ps':=[(0,_)]) underlying35 yM I I I (xO (yI oM)) e2z (zD I (Pc.arr (Pc.here _) zT 0 dC) (ba.le (Le.t (Le.q (l:=k+1) oM))) zO) zok nP) I I I ?_))
   rintro bp ca ⟨bn,rfl,ak⟩
   refine zP (A:=[]) (ρ:=(tPt (k+1))) ak ?_;intro h1 am ac;refine xL (A:=[]) (zU (ρ:=(tPt (k+1))) (bytes:=168) underlying35 yM I I I I nP I I M.up ac bO bO) I I I ?_
   rintro aw bz ⟨aq,rfl,aj⟩
   refine go8 ?_;refine gqL ((u+1),(E++[(s.1.getD (((f.2.1.getD l []).getD u 0).toNat) zT)]),aw,aq,h1) ?_ ?_
   · exact⟨mle,aj,by omega,by rw[hE];rfl⟩
   omega
  have eu:u=(f.2.1.getD l []).length:=by omega
  refine go8 ?_;refine zP (A:=[]) (ρ:=(tPt (k+1))) M.up ?_;intro h1 am aa;refine zG (zL (ρ:=(tLs (k+1))) (m:=1) (xs:=[E]) (ps':=[(0,_)]) underlying76 cZ I I I wG e2z (zD I (Pc.arr (Pc.here _) [] 0 dC) aa zO) zoj nP) I I I ?_
  rintro bo bx ⟨bm,rfl,ai⟩
  refine zP (A:=[]) (ρ:=(tLs (k+1))) ai ?_;intro h2 cf Z;refine xL (A:=[]) (zU (ρ:=(tLs (k+1))) (bytes:=24) underlying76 cZ I I I I nP I I O.up Z bO bO) I I I ?_
  rintro av bw ⟨ap,rfl,ah⟩
  refine go8 ?_;refine gqL ((l+1),(D++[E]),av,ap,h2) ?_ ?_
  · exact⟨mle,ah,by omega,by rw[hD,hE,eu];rfl⟩
  omega
 have el:l=f.2.1.length:=by omega
 refine uV ?_;refine wS (A:=[]) (ρ:=(tLs (k+1))) O.up ?_;intro h1 am U;refine zC I I ?_;exact(Rp.Is.cast U (by rw[hD,el]))
theorem zIV{m n k j:Nat}{vf:Value}{f:(Pq×((List (List Tq))×(Int×Int)))}(rf:(rpP (tPl m n) (rpP (tLL k) (rpP rpI rpI))).Is h0 vf f){vp:Value}{p:Tq}(rp:(tPt j).Is h0 vp p)(hcd0:k<=50000)(hcd1:j<=50000)(hcd2:yH3 f):
 Calls Tryz.prog 109 #[vf,vp] w0 (Ret w0 h0 (λ_ r=>r=vI (whM f p))):=by
 obtain⟨J,hi2⟩:∃J:Nat,f.2.2.1=↑J:=⟨f.2.2.1.toNat,by have:=hcd2.1;omega⟩;obtain⟨H,G⟩:∃H:Nat,f.2.2.2=↑H:=⟨f.2.2.2.toNat,by have:=hcd2.2.1;omega⟩;have C:=hcd2;unfold yH3 at C;rw[hi2,G] at C;refine cb2 13 vf vp func109 hs ?_;refine go2 ?_;refine nB rf λb2 aj D=>(nB rp λb3 ai O=>(go6 ?_));refine lX (xB yEZ (Pc.snd (Pc.fst pH)) D) λv6 r6=>(lX (xB zM pH O) λv7 r7=>(go1 ?_));refine lX (xB ty3 (Pc.snd (Pc.snd (Pc.fst pH))) D) λv9 r9=>?_;obtain⟨rfl,ae,ad⟩:=kS r9;refine go1 ?_;refine lX (xB ty3 (Pc.snd (Pc.snd (Pc.snd pH))) D) λac Z=>?_;obtain⟨rfl,ab,aa⟩:=kS Z;rw[hi2,G];refine cL (ev4 I I I I) call149 (λw hs=>zPJ (i:=J) (j:=H) hs (r6.le (Le.s (Le.s (Le.t (Le.q (l:=j+k) oM))))) (r7.le (Le.t (Le.q (l:=j+k) oM))) oM oM oM (by first|omega|exact C.2.2.2|exact C.2.2.1) (by first|omega|exact C.2.2.2|exact C.2.2.1)) λM h1 ah U=>?_;obtain rfl:M=vI (whZ f.2.1 (pr p J H) J H):=U;refine go4 ?_;refine zC I I ?_;unfold whM;rw[hi2,G];rfl
theorem yB0{k l j:Nat}{vx:Value}{x:(Tq×(Tq×Prop))}(rx:(rpP (tPt k) (rpP (tPt l) rpB)).Is h0 vx x){vd:Value}{d:Tq}(rd:(tPt j).Is h0 vd d)(hcd0:k<=1000000)(hcd1:l<=1000000)(hcd2:j<=1000000):
 Calls Tryz.prog 117 #[vx,vd] w0 (Ret w0 h0 (λ_ r=>r=vB (zGT x d))):=by
 refine cb2 18 vx vd func117 hs ?_;refine go2 ?_;refine nB rx λb2 an C=>(nB rd λb3 am J=>(go7 ?_));refine lX (xB ty4 (Pc.snd (Pc.snd pH)) C) λv6 r6=>?_;obtain rfl:=yG0 r6;refine gc2 (λH=>?_) λH=>?_
 ·
  refine go3 ?_;refine lX (xB zM (Pc.snd (Pc.fst pH)) C) λv8 r8=>(lX (xB zM pH J) λv9 r9=>(cL (ev2 I I) call114 (λw hs=>zIM hs r8 r9 oM) λak h1 ae G=>?_));replace G:=Rp.Is.le G (Le.t (Le.q (l:=2*j+2*l+3) oM));refine cL (ev1 I) call78 (λw hs=>zFV hs G oM) λO h2 ad ab=>?_;obtain rfl:O=vB ((xQ x.2.1 d)=zT):=ab;refine go5 ?_;refine zC I I ?_;exact kF (by unfold zGT;rw[if_pos H])
 refine go5 ?_;refine lX (xB zM (Pc.fst pH) C) λaj aa=>(lX (xB zM pH J) λai Z=>(cL (ev2 I I) call120 (λw hs=>zEJ hs aa Z oM) λah h1 ae D=>?_));replace D:=Rp.Is.le D (Le.q (l:=3*j+3*k+9) oM);refine cL (ev1 I) call122 (λw hs=>pE hs D oM) λM h2 ad U=>?_;obtain rfl:M=vI (yR (xH x.1 d)):=U;have ac:=yX (xH x.1 d);refine go5 ?_;refine zC I I ?_;exact kF (by unfold zGT;rw[if_neg H];exact yBB)
theorem zXB{m n k j:Nat}{vmd:Value}{md:((List (Pq×((List (List Tq))×(Int×Int))))×(List (List Tq)))}(rmd:(rpP (rpS (rpP (tPl m n) (rpP (tLL k) (rpP rpI rpI)))) (rpS (rpA 2 (tPt k)))).Is h0 vmd md){vp:Value}{p:Tq}(rp:(tPt j).Is h0 vp p)(hcd0:k<=20000)(hcd1:j<=20000)(hcd2:m<=20000)(hcd3:n<=20000)(hcd4:zTW md):
 Calls Tryz.prog 70 #[vmd,vp] w0 (Ret w0 h0 (λh r=>r=.tuple #[vI (↑(onJ md p):Int),vB (onA md p)])):=by
 refine cb2 35 vmd vp func70 hs ?_;refine go2 ?_;refine nB rmd λb2 ac ai=>(nB rp λb3 ab O=>(go8 ?_));refine lX (xB yEY (Pc.fst pH) ai) λv9 r9=>(go5 ?_);refine gcL (ι:=Nat×Mem) (λ(f,ma)=>(MLe h0 ma/\(f<=md.1.length/\∀u,u<f->¬onM md p u),[(3,vP b3 0),(9,v9),(10,vI (↑(md.1).length:Int)),(11,vI ↑f)],[.var b3 31 ab,.var b2 99 ac],ma,md.1.length-f)) (0,h0) ?_ ?_
 · exact⟨mle,by omega,λu h=>by omega⟩
 rintro⟨f,ma⟩ ⟨ax,bi,H⟩
 refine yW ?_;have bg:=hcd4.1;refine gc6 (λZ=>?_) λZ=>?_
 ·
  refine go7 ?_;refine lX (xI fm0 f underlying96 zEY r9) λbe ar=>(lX (xA zEY ar) λbd aq=>(nA (ρ:=(rpP (tPl 1 1) (rpP (tLL 1) (rpP rpI rpI)))) (X:=((zT,(0:Rat)),([],((0:Int),(0:Int))))) oU (yC (yC (xO (yI dC)) (yI dC)) (yC wG (yC wL wL))) λb7 bj ah=>(go1 ?_)));have M:=(Le.p (Le.p (Le.t (Le.q (l:=m+1) oM)) (Le.q (l:=n+1) oM)) (Le.p (Le.s (Le.s (Le.t (Le.q (l:=k+1) oM)))) (Le.refl _))).R ah;refine zW (A:=[]) (uB sizeOf140 pH M (aq.le (Le.p (Le.p (Le.t (Le.q (l:=m+1) oM)) (Le.q (l:=n+1) oM)) (Le.p (Le.s (Le.s (Le.t (Le.q (l:=k+1) oM)))) (Le.refl _))))) λaa C=>(go5 ?_);refine lX (xB bG (Pc.fst pH) C) λbc ap=>(lX (xB zM pH O) λbb ao=>(cL (ev2 I I) call108 (λw hs=>zTS hs ap ao oM oM oM) λae h1 bh an=>?_));obtain rfl:ae=vI (sdZ ((md.1.getD f fm0).1) p):=an;have au:=bJ ((md.1.getD f fm0).1) p;refine go1 ?_;refine gU 6 26 (vB (((sdZ ((md.1.getD f fm0).1) p)=(0:Int))/\((0:Int)<(↑(((md.1.getD f fm0).2).1).length:Int)))) ?_ ?_
  ·
   refine zY ((sdZ ((md.1.getD f fm0).1) p)=(0:Int)) (λD=>?_) (λD=>?_)
   ·
    refine gT D I (go3 ?_);refine lX (xB yEZ (Pc.snd (Pc.fst pH)) C) λba bf=>(go6 ?_);refine gqU ?_;exact congrArg some (xD D)
   refine gF D I (go6 ?_);refine gqU ?_;exact congrArg some (xE D)
  refine qB (ι:=Mem) 6 (λm_=>MLe h1 m_) (λ_=>[(32,vB ((((sdZ ((md.1.getD f fm0).1) p)=(0:Int))/\((0:Int)<(↑(((md.1.getD f fm0).2).1).length:Int)))/\((0:Int)<=(whM (md.1.getD f fm0) p)))),(3,vP b3 0),(9,v9),(10,vI (↑(md.1).length:Int)),(11,vI ↑f),(6,vI ↑f)]) (λ_=>[.var b7 140 aa,.var b3 31 ab,.var b2 99 ac]) (λm_=>m_) ?_ ?_
  ·
   refine zY (((sdZ ((md.1.getD f fm0).1) p)=(0:Int))/\((0:Int)<(↑(((md.1.getD f fm0).2).1).length:Int))) (λD=>?_) (λD=>?_)
   ·
    refine gT D I (go1 ?_);refine lX (xB zEY pH C) λaz am=>(go1 ?_);refine lX (xB zM pH O) λay ak=>(go1 ?_);refine cL (ev2 I I) call109 (λw hs=>zIV hs am ak oM oM (by first|omega|exact hcd4.2.2 f oM)) λad h2 aw aj=>?_;obtain rfl:ad=vI (whM (md.1.getD f fm0) p):=aj;refine go4 ?_;refine zS h2 aw ⟨?_,I,I,I,I,I,trivial⟩ I I;exact congrArg some (xD D)
   refine gF D I (go6 ?_);refine zS h1 (MLe.refl _) ⟨?_,I,I,I,I,I,trivial⟩ I I;exact congrArg some (xE D)
  intro G J;refine tY ?_;refine gc2 (λU=>?_) λU=>?_
  ·
   have av:onM md p f:=by show((_/\_)/\_);omega
   obtain⟨e1,e2⟩:=zTD oM av H;refine sO ?_;refine wK I I I ?_;rw[e1,xM e2]
  refine go7 ?_;refine yO (A:=[]) ?_;refine gqL ((f+1),G) ?_ ?_
  · exact⟨mle,by omega,wQ (Q:=λu=>¬onM md p u) H (by show ¬((_/\_)/\_);omega)⟩
  omega
 obtain⟨e1,e2⟩:=zWZ (md:=md) (p:=p) (λu hu=>H u oM);refine uV ?_;refine wK I I I ?_;rw[e1,yH e2];rfl
theorem zHP{m n k j:Nat}{vmd:Value}{md:((List (Pq×((List (List Tq))×(Int×Int))))×(List (List Tq)))}(rmd:(rpP (rpS (rpP (tPl m n) (rpP (tLL k) (rpP rpI rpI)))) (rpS (rpA 2 (tPt k)))).Is h0 vmd md){vp:Value}{p:Tq}(rp:(tPt j).Is h0 vp p)(hcd0:k<=10000)(hcd1:j<=10000)(hcd2:zTW md)(hcd3:cH md p<=3*md.2.length+1)(hcd4:clM md p (vK ↑(cH md p))):
 Calls Tryz.prog 74 #[vmd,vp] w0 (Ret w0 h0 (λh r=>(tPt 2).Is h r (vK ↑(cH md p)))):=by
 have fb:=hcd2.2.1;refine cb2 75 vmd vp func74 hs ?_;refine go2 ?_;refine nB rmd λb2 be cb=>(nB rp λb3 bd bh=>(nA (ρ:=(tPt 2)) (X:=zT) yM (xO (yI dC)) λb4 bc ca=>(go2 ?_)));refine zYR (go9 ?_);refine lX (xB yJS (Pc.snd pH) cb) λbw db=>(go5 ?_);refine xG 153 19 ?_;have bg:=RL.nil (ρ:=rpP (tPt (4*j+4*k+15)) (rpP (tPt (2*k+4)) rpB)) (h:=h0);refine gcL (ι:=Nat×List Ac×Value×List Value×Mem) (λ(q,D,C,H,ma)=>(MLe h0 ma/\(RL (rpP (tPt (4*j+4*k+15)) (rpP (tPt (2*k+4)) rpB)) ma H D/\q<=md.2.length/\D=acT p md.2 q),[(3,vP b3 0),(4,vP b4 0),(5,C),(14,bw),(15,vI (↑(md.2).length:Int)),(16,vI ↑q)],[.gs 153 19 C D.length H,.var b4 31 bc,.var b3 31 bd,.var b2 99 be],ma,md.2.length-q)) (0,[],(.slice none 0 0),[],h0) ?_ ?_
 · exact⟨mle,bg,by omega,I⟩
 rintro⟨q,D,C,H,ma⟩ ⟨dt,U,fa,hD⟩
 refine yW ?_;have fe:D.length=q:=by rw[hD];exact yY _ _
 refine gc6 (λbp=>?_) λbp=>?_
 ·
  refine go6 ?_;refine lX (xI ed0 q underlying97 yDI db) λey da=>(lX (xA yDI da) λew cz=>(nA (ρ:=(rpA 2 (tPt (k+1)))) (X:=ed0) zBT (zLD 2 (xO (yI oM))) λb7 ff bz=>(zW (A:=[]) (uB sizeOf151 pH bz (cz.le (Le.a (Le.t (Le.q (l:=k+1) oM))))) λdw M=>(go3 ?_))));refine zK 11 _ [(10,(8,153,[.bool false,.slice none 0 0,.slice none 0 0,.bool false,.slice none 0 0,.slice none 0 0,.bool false,.slice none 0 0,.slice none 0 0,.bool false,.slice none 0 0,.slice none 0 0,.bool false,.slice none 0 0,.slice none 0 0,.bool false,.slice none 0 0,.slice none 0 0,.bool false]))] [(0,.q),(1,.q),(2,.q),(4,.q),(5,.q),(6,.q),(3,.c),(7,.c),(8,.c),(9,.q),(10,.a),(11,.t)] yA (jM.cons I I (uR nF I I) jM.nil) (wJ zou) (uU I I kU) (λr hr=>hr) (go1 ?_);refine wX I (xB zM (Pc.arr pH zT 0 dC) M) λev cy=>(wX I (xB zM pH bh) λeu cw=>(go1 ?_));refine wX I (xB zM (Pc.arr pH zT 1 dC) M) λer cu=>(wX I (xB zM pH bh) λep ct=>?_);refine w_c I (sC (ev2 I I) call115 (λw hs=>zKB hs cy cw oM) λes h1 dj az=>?_);replace az:=Rp.Is.le az (Le.t (Le.q (l:=j+k+3) oM));refine w_c I (sC (ev2 I I) call115 (λw hs=>zKB hs cu.up ct.up oM) λeo h2 di ay=>?_);replace ay:=Rp.Is.le ay (Le.t (Le.q (l:=j+k+3) oM));refine w_c I (sC (ev2 I I) call114 (λw hs=>zIM hs az.up ay oM) λen h3 dh ax=>?_);replace ax:=Rp.Is.le ax (Le.t (Le.q (l:=4*j+4*k+15) oM));refine wX I (xV (ρ:=(rpP (tPt (4*j+4*k+15)) (rpP (tPt 1) rpB))) (xZ (ps':=[(0,_)]) underlying153 nF I I (zS5 underlying153) e2z I (yC (xO (yI oM)) (yC (xO (yI dC)) zSH)) (zD I (Pc.fst (Pc.here _)) ax zO))) λem cq=>?_;refine w_a I I (λb8=>?_);have bx:(rpP (tPt 1) (rpP (tPt 1) rpB)).R h3 [.bool false,.slice none 0 0,.slice none 0 0,.bool false,.slice none 0 0,.slice none 0 0,.bool false,.slice none 0 0,.slice none 0 0,.bool false,.slice none 0 0,.slice none 0 0,.bool false,.slice none 0 0,.slice none 0 0,.bool false,.slice none 0 0,.slice none 0 0,.bool false] (zT,(zT,False)):=(yC (xO (yI dC)) (yC (xO (yI dC)) zSH));have bf:=(Le.p (Le.t (Le.q (l:=4*j+4*k+15) oM)) (Le.refl _)).R bx;refine yK (A:=[]) I (uB sizeOf153 pH bf cq) λdv ah=>(go6 ?_);refine lX (xB zM (Pc.fst pH) ah) λel cp=>(cL (ev1 I) call78 (λw hs=>zFV hs cp oM) λbv h4 df co=>?_);obtain rfl:bv=vB ((xQ (T3.mk (((md.2.getD q ed0).getD 0 zT).x-p.x) (((md.2.getD q ed0).getD 0 zT).y-p.y) (((md.2.getD q ed0).getD 0 zT).z-p.z)) (T3.mk (((md.2.getD q ed0).getD 1 zT).x-p.x) (((md.2.getD q ed0).getD 1 zT).y-p.y) (((md.2.getD q ed0).getD 1 zT).z-p.z)))=zT):=co;refine go1 ?_;refine zW (A:=[]) (uB sizeOf4 (Pc.snd (Pc.snd pH)) ah (yKZ _)) λdn J=>(go5 ?_);refine lX (xB ty4 (Pc.snd (Pc.snd pH)) J) λek cn=>?_;obtain rfl:=yG0 cn;refine gc2 (λac=>?_) λac=>?_
  ·
   refine go2 ?_;refine lX (xB zM (Pc.arr pH zT 1 dC) M) λej cm=>(go1 ?_);refine lX (xB zM (Pc.arr pH zT 0 dC) M) λei cl=>(cL (ev2 I I) call115 (λw hs=>zKB hs cm cl oM) λeh h5 de aw=>?_);replace aw:=Rp.Is.le aw (Le.t (Le.q (l:=2*k+4) oM));refine go1 ?_;have am:=(Le.p (Le.refl _) (Le.p (Le.t (Le.q (l:=2*k+4) oM)) (Le.refl _))).R J;refine zW (A:=[]) (uB sizeOf31 (Pc.snd (Pc.fst pH)) am aw) λdm au=>(go4 ?_);refine lX (xB zQO pH au) λbu av=>(zG (zL (ρ:=(rpP (tPt (4*j+4*k+15)) (rpP (tPt (2*k+4)) rpB))) (m:=1) (xs:=[(xQ (T3.mk (((md.2.getD q ed0).getD 0 zT).x-p.x) (((md.2.getD q ed0).getD 0 zT).y-p.y) (((md.2.getD q ed0).getD 0 zT).z-p.z)) (T3.mk (((md.2.getD q ed0).getD 1 zT).x-p.x) (((md.2.getD q ed0).getD 1 zT).y-p.y) (((md.2.getD q ed0).getD 1 zT).z-p.z)),((T3.mk (((md.2.getD q ed0).getD 1 zT).x-((md.2.getD q ed0).getD 0 zT).x) (((md.2.getD q ed0).getD 1 zT).y-((md.2.getD q ed0).getD 0 zT).y) (((md.2.getD q ed0).getD 1 zT).z-((md.2.getD q ed0).getD 0 zT).z)),(xQ (T3.mk (((md.2.getD q ed0).getD 0 zT).x-p.x) (((md.2.getD q ed0).getD 0 zT).y-p.y) (((md.2.getD q ed0).getD 0 zT).z-p.z)) (T3.mk (((md.2.getD q ed0).getD 1 zT).x-p.x) (((md.2.getD q ed0).getD 1 zT).y-p.y) (((md.2.getD q ed0).getD 1 zT).z-p.z)))=zT))]) (ps':=[(0,_)]) underlying150 nF I I I (yC (xO (yI oM)) (yC (xO (yI oM)) zSH)) e2z (zD I (Pc.arr (Pc.here _) (zT,(zT,False)) 0 dC) av zO) zoo nP) I I I ?_);intro bt dd bl;obtain⟨bq,rfl,aa⟩:=bl;refine zP (A:=[]) (ρ:=(rpP (tPt (4*j+4*k+15)) (rpP (tPt (2*k+4)) rpB))) aa ?_;intro h6 fd ao;refine xL (A:=[_,_]) (zU (ρ:=(rpP (tPt (4*j+4*k+15)) (rpP (tPt (2*k+4)) rpB))) (bytes:=344) underlying150 nF I I I I nP I I U.up ao bO bO) I I I ?_;intro aj dc bk;obtain⟨ad,rfl,Z⟩:=bk;refine go8 ?_;refine yO (A:=[]) (yO (A:=[]) ?_);refine gqL ((q+1),(D++[(xQ (T3.mk (((md.2.getD q ed0).getD 0 zT).x-p.x) (((md.2.getD q ed0).getD 0 zT).y-p.y) (((md.2.getD q ed0).getD 0 zT).z-p.z)) (T3.mk (((md.2.getD q ed0).getD 1 zT).x-p.x) (((md.2.getD q ed0).getD 1 zT).y-p.y) (((md.2.getD q ed0).getD 1 zT).z-p.z)),((T3.mk (((md.2.getD q ed0).getD 1 zT).x-((md.2.getD q ed0).getD 0 zT).x) (((md.2.getD q ed0).getD 1 zT).y-((md.2.getD q ed0).getD 0 zT).y) (((md.2.getD q ed0).getD 1 zT).z-((md.2.getD q ed0).getD 0 zT).z)),(xQ (T3.mk (((md.2.getD q ed0).getD 0 zT).x-p.x) (((md.2.getD q ed0).getD 0 zT).y-p.y) (((md.2.getD q ed0).getD 0 zT).z-p.z)) (T3.mk (((md.2.getD q ed0).getD 1 zT).x-p.x) (((md.2.getD q ed0).getD 1 zT).y-p.y) (((md.2.getD q ed0).getD 1 zT).z-p.z)))=zT))]),aj,ad,h6) ?_ ?_
   · exact⟨mle,Z,by omega,ac_t hD ac⟩
   omega
  refine go4 ?_;refine lX (xB zQO pH J) λbu av=>(zG (zL (ρ:=(rpP (tPt (4*j+4*k+15)) (rpP (tPt 1) rpB))) (m:=1) (xs:=[(xQ (T3.mk (((md.2.getD q ed0).getD 0 zT).x-p.x) (((md.2.getD q ed0).getD 0 zT).y-p.y) (((md.2.getD q ed0).getD 0 zT).z-p.z)) (T3.mk (((md.2.getD q ed0).getD 1 zT).x-p.x) (((md.2.getD q ed0).getD 1 zT).y-p.y) (((md.2.getD q ed0).getD 1 zT).z-p.z)),(zT,(xQ (T3.mk (((md.2.getD q ed0).getD 0 zT).x-p.x) (((md.2.getD q ed0).getD 0 zT).y-p.y) (((md.2.getD q ed0).getD 0 zT).z-p.z)) (T3.mk (((md.2.getD q ed0).getD 1 zT).x-p.x) (((md.2.getD q ed0).getD 1 zT).y-p.y) (((md.2.getD q ed0).getD 1 zT).z-p.z)))=zT))]) (ps':=[(0,_)]) underlying150 nF I I I (yC (xO (yI oM)) (yC (xO (yI dC)) zSH)) e2z (zD I (Pc.arr (Pc.here _) (zT,(zT,False)) 0 dC) av zO) zoo nP) I I I ?_)
  rintro bt dd ⟨bq,rfl,aa⟩
  refine zP (A:=[]) (ρ:=(rpP (tPt (4*j+4*k+15)) (rpP (tPt 1) rpB))) aa ?_;intro h5 de an;refine xL (A:=[_,_]) (zU (ρ:=(rpP (tPt (4*j+4*k+15)) (rpP (tPt (2*k+4)) rpB))) (bytes:=344) underlying150 nF I I I I nP I I U.up (an.le (Le.s (Le.p (Le.refl _) (Le.p (Le.t (Le.q (l:=2*k+4) oM)) (Le.refl _))))) bO bO) I I I ?_
  rintro aj dc ⟨ad,rfl,Z⟩
  refine go8 ?_;refine yO (A:=[]) (yO (A:=[]) ?_);refine gqL ((q+1),(D++[(xQ (T3.mk (((md.2.getD q ed0).getD 0 zT).x-p.x) (((md.2.getD q ed0).getD 0 zT).y-p.y) (((md.2.getD q ed0).getD 0 zT).z-p.z)) (T3.mk (((md.2.getD q ed0).getD 1 zT).x-p.x) (((md.2.getD q ed0).getD 1 zT).y-p.y) (((md.2.getD q ed0).getD 1 zT).z-p.z)),(zT,(xQ (T3.mk (((md.2.getD q ed0).getD 0 zT).x-p.x) (((md.2.getD q ed0).getD 0 zT).y-p.y) (((md.2.getD q ed0).getD 0 zT).z-p.z)) (T3.mk (((md.2.getD q ed0).getD 1 zT).x-p.x) (((md.2.getD q ed0).getD 1 zT).y-p.y) (((md.2.getD q ed0).getD 1 zT).z-p.z)))=zT))]),aj,ad,h5) ?_ ?_
  · exact⟨mle,Z,by omega,ac_f hD ac⟩
  omega
 have eq:q=md.2.length:=by omega
 rw[eq] at hD;have du:D.length=md.2.length:=by rw[hD];exact yY _ _
 refine go6 ?_;refine zYS (go8 ?_);refine gcL (ι:=Nat×Mem) (λ(G,mb)=>(MLe ma mb/\(G<=cH md p),[(4,vP b4 0),(5,C),(9,vI ↑G)],[.gs 153 19 C D.length H,.var b4 31 bc,.var b3 31 bd,.var b2 99 be],mb,cH md p-G)) (0,ma) ?_ ?_
 · exact⟨mle,oM⟩
 rintro⟨G,mb⟩ ⟨dr,bn⟩
 refine yW ?_;have ba:=bn;refine go5 ?_;refine gv (jZ mh0 underlying150 I) I (gv (gP (p:=3) I I oM oM) I (gc4 (λai=>?_) λai=>?_))
 ·
  have fc:(0:Int)<=↑G*↑G/\(↑G:Int)*↑G<=36000012000001:=by have h9:G*G<=6000001*6000001:=Nat.mul_le_mul oM oM;rw[<-Int.natCast_mul];omega
  refine go6 ?_;refine cL (vs:=[vI (1)]) ⟨I,trivial⟩ call116 (λw hs=>zCR hs dC dC) λeg h1 dj ck=>(go1 ?_);refine cL (ev1 I) call116 (λw hs=>zCR hs oM oM) λef h2 di cj=>(go2 ?_);refine gv (gP I I oM oM) I (cL (ev1 I) call116 (λw hs=>zCR hs oM oM) λee h3 dh ci=>(lX (xV (ρ:=(tPt 2)) (wB (ps':=[(0,_),(1,_),(2,_)]) underlying31 yM I I sizeOf29 e6z I (xO (yI dC)) (zD I (Pc.tx (Pc.here _)) ck.up (zD I (Pc.ty (Pc.here _)) cj.up (zD I (Pc.tz (Pc.here _)) ci zO))))) λed ch=>(nA (ρ:=(tPt 2)) (X:=zT) yM (xO (yI dC)) λbr dy bj=>(zW (A:=[]) (uB sizeOf31 pH bj ch) λbb ab=>(go6 ?_)))));refine gv (jZ mh1 underlying150 I) I (go4 ?_);refine gcL (ι:=Nat×Mem) (λ(u,mc)=>(MLe h3 mc/\(u<=D.length/\∀v,v<u->¬zGT (D.getD v (zT,(zT,False))) (vK ↑G)),[(4,vP b4 0),(5,C),(9,vI ↑G),(10,vP br 0),(63,C),(64,vI (↑D.length:Int)),(65,vI ↑u)],[.var br 31 bb,.gs 153 19 C D.length H,.var b4 31 bc,.var b3 31 bd,.var b2 99 be],mc,D.length-u)) (0,h3) ?_ ?_
  · exact⟨mle,by omega,λv h=>by omega⟩
  rintro⟨u,mc⟩ ⟨dq,ez,bm⟩
  refine yW ?_;refine gc6 (λbo=>?_) λbo=>?_
  ·
   refine go6 ?_;refine gv ((yU u mh1 underlying150 sizeOf153 I I I bO nP).cv (show _=zI 1 C ((u*19+0)) from congrArg (zI 1 C) zo3)) I (zHW (F:=λv_=>(rpP (tPt (4*j+4*k+15)) (rpP (tPt (2*k+4)) rpB)).Is mc v_ (D.getD u (zT,(zT,False)))) (wM zQO (Pc.arr (Pc.here _) (zT,(zT,False)) u bO) I nP I U.up I) (tQ mh1) I ?_);intro ec cg;refine nA (ρ:=(rpP (tPt 1) (rpP (tPt 1) rpB))) (X:=(zT,(zT,False))) nF (yC (xO (yI dC)) (yC (xO (yI dC)) zSH)) λfg dx bi=>?_;have ak:=(Le.p (Le.t (Le.q (l:=4*j+4*k+15) oM)) (Le.p (Le.t (Le.q (l:=2*k+4) oM)) (Le.refl _))).R bi;refine zW (A:=[]) (uB sizeOf153 pH ak cg) λdl ar=>(go4 ?_);refine lX (xB zQO pH ar) λeb cf=>(lX (xB zM pH ab) λea ce=>(cL (ev2 I I) call117 (λw hs=>yB0 hs cf ce oM oM dC) λbs h4 df cd=>?_));obtain rfl:bs=vB (zGT (D.getD u (zT,(zT,False))) (T3.mk (((1:Int):Int):Rat) (((↑G:Int):Int):Rat) ((((↑G:Int)*(↑G:Int)):Int):Rat))):=cd;refine gc2 (λO=>?_) λO=>?_
   ·
    refine sO ?_;refine yO (A:=[]) (yO (A:=[]) ?_);refine gqL ((G+1),h4) ?_ ?_
    · exact⟨mle,zNO hD hcd4 ba oM O⟩
    (have:=zNO hD hcd4 ba oM O;omega)
   refine go7 ?_;refine yO (A:=[]) ?_;refine gqL ((u+1),h4) ?_ ?_
   · exact⟨mle,by omega,wQ (Q:=λv=>¬zGT (D.getD v (zT,(zT,False))) (vK ↑G)) bm O⟩
   omega
  refine go7 ?_;refine lX (xB zM pH ab) λdz cc=>(zW (A:=[_,_]) (uB sizeOf31 pH ca cc) λdk aq=>(go8 ?_));refine yK4 (wT (kJ (t:=4) zM mh2 I aq) ?_);intro dp ae ap;refine yV (λE S=>zV I ae E S) ?_;exact(Rp.Is.cast ap (by rw[<-yCX hD ba (λv hv=>bm v oM)];rfl))
 exact absurd oM ai
theorem w7{m n k j l:Nat}{vmd:Value}{md:((List (Pq×((List (List Tq))×(Int×Int))))×(List (List Tq)))}(rmd:(rpP (rpS (rpP (tPl m n) (rpP (tLL k) (rpP rpI rpI)))) (rpS (rpA 2 (tPt k)))).Is h0 vmd md){vp:Value}{p:Tq}(rp:(tPt j).Is h0 vp p){vd:Value}{d:Tq}(rd:(tPt l).Is h0 vd d)(hcd0:k<=10000)(hcd1:j<=1000)(hcd2:l<=300)(hcd3:m<=100)(hcd4:n<=100)(hcd5:zTW md):
 Calls Tryz.prog 79 #[vmd,vp,vd] w0 (Ret w0 h0 (λh r=>r=.tuple #[vI (crA md p d),vI (crB md p d),vB (nbM md p d)])):=by
 refine cb3 77 vmd vp vd func79 hs ?_;refine go2 ?_;refine nB rmd λb3 cm bh=>(nB rp λb4 cl av=>(nB rd λb5 ck au=>(rA ?_)));refine lX (xB yEY (Pc.fst pH) bh) λbg cf=>(go5 ?_);refine gcL (ι:=Nat×Mem) (λ(f,ma)=>(MLe h0 ma/\(f<=md.1.length/\∀u,u<f->¬bdM (md.1.getD u fm0) p d),[(4,vP b4 0),(5,vP b5 0),(9,vI (crM md p d f).1),(10,vI (crM md p d f).2),(18,bg),(19,vI (↑(md.1).length:Int)),(20,vI ↑f)],[.var b5 31 ck,.var b4 31 cl,.var b3 99 cm],ma,md.1.length-f)) (0,h0) ?_ ?_
 · exact⟨mle,by omega,λu h=>by omega⟩
 rintro⟨f,ma⟩ ⟨cn,ej,aa⟩
 refine yW ?_;have dy:=hcd5.1;have ek:=zDA md p d f;refine gc6 (λba=>?_) λba=>?_
 ·
  refine go6 ?_;refine lX (xI fm0 f underlying96 zEY cf) λdw ce=>(lX (xA zEY ce) λdv cd=>(nA (ρ:=(rpP (tPl 1 1) (rpP (tLL 1) (rpP rpI rpI)))) (X:=((zT,(0:Rat)),([],((0:Int),(0:Int))))) oU (yC (yC (xO (yI dC)) (yI dC)) (yC wG (yC wL wL))) λeo cv az=>?_));have ar:=(Le.p (Le.p (Le.t (Le.q (l:=m+1) oM)) (Le.q (l:=n+1) oM)) (Le.p (Le.s (Le.s (Le.t (Le.q (l:=k+1) oM)))) (Le.refl _))).R az;refine zW (A:=[]) (uB sizeOf140 pH ar (cd.le (Le.p (Le.p (Le.t (Le.q (l:=m+1) oM)) (Le.q (l:=n+1) oM)) (Le.p (Le.s (Le.s (Le.t (Le.q (l:=k+1) oM)))) (Le.refl _))))) λct O=>(go3 ?_);refine zK 16 _ [(14,(13,29,[.bool false,.slice none 0 0,.slice none 0 0])),(15,(14,29,[.bool false,.slice none 0 0,.slice none 0 0]))] [(0,.q),(1,.q),(2,.q),(3,.q),(5,.q),(6,.q),(7,.q),(8,.q),(9,.q),(10,.q),(11,.q),(4,.c),(12,.c),(13,.c),(14,.a),(15,.a),(16,.t),(17,.t)] yA (jM.cons I I (uR xR I I) (jM.cons I I (uR xR I I) jM.nil)) (wJ zou) (uU I I (uU I I kU)) (λr hr=>hr) (go2 ?_);refine wX I (xB zM (Pc.fst (Pc.fst pH)) O) λdu cc=>(wX I (xB zM pH au) λdt cb=>(go2 ?_));refine wX I (xB yE (Pc.fst (Pc.snd pH)) O) λdq ca=>(go2 ?_);refine wX I (xB zM (Pc.fst (Pc.fst pH)) O) λdp bz=>(wX I (xB zM pH av) λdn bx=>?_);refine w_c I (sC (ev2 I I) call120 (λw hs=>zEJ hs cc cb oM) λdr h1 ei ao=>?_);replace ao:=Rp.Is.le ao (Le.q (l:=3*l+3*m+12) oM);refine w_c I (sC (ev2 I I) call120 (λw hs=>zEJ hs bz.up bx.up oM) λdm h2 eh an=>?_);replace an:=Rp.Is.le an (Le.q (l:=3*j+3*m+12) oM);refine w_c I (sC (ev2 I I) call121 (λw hs=>fS hs ca.up an oM) λdl h3 eg am=>?_);replace am:=Rp.Is.le am (Le.q (l:=3*j+3*m+n+14) oM);refine w_a I I (λen=>?_);have ay:(rpQ (3*m+3*l+9)).R h3 [.bool false,.slice none 0 0,.slice none 0 0] (0:Rat):=(yI oM);refine w_a I I (λem=>?_);have ax:(rpQ (n+3*m+3*j+11)).R h3 [.bool false,.slice none 0 0,.slice none 0 0] (0:Rat):=(yI oM);have aq:=(Le.q (l:=3*l+3*m+12) oM).R ay;refine yK (A:=[_]) I (uB sizeOf29 pH aq ao) λcq ab=>?_;have ap:=(Le.q (l:=3*j+3*m+n+14) oM).R ax;refine yK (A:=[]) I (uB sizeOf29 pH ap am) λcp ad=>(go4 ?_);refine zK 12 _ [] [(0,.q),(2,.q),(1,.c),(3,.c),(4,.q),(5,.q),(6,.q),(7,.q),(8,.q),(9,.q),(10,.q),(11,.q)] yA nX (wJ zou) nX (λr hr=>hr) (wX I (xB yE pH ab) λdk bw=>(wX I (xB yE pH ad) λdj bu=>?_));refine w_c I (sC (ev1 I) call122 (λw hs=>pE hs bw oM) λbf h4 ee bv=>?_);obtain rfl:bf=vI (yR (xH (((md.1.getD f fm0).1).1) d)):=bv;have ci:=yX (xH (((md.1.getD f fm0).1).1) d);refine w_c I (sC (ev1 I) call122 (λw hs=>pE hs bu.up oM) λbe h5 ed bt=>?_);obtain rfl:be=vI (yR ((((md.1.getD f fm0).1).2)-(xH (((md.1.getD f fm0).1).1) p))):=bt;have ch:=yX ((((md.1.getD f fm0).1).2)-(xH (((md.1.getD f fm0).1).1) p));have dx:=yGA (xH (md.1.getD f fm0).1.1 d) ((md.1.getD f fm0).1.2-xH (md.1.getD f fm0).1.1 p);refine wI I (λ_ _=>gP I I oM oM) I (go2 ?_);refine jH (((yR (xH (((md.1.getD f fm0).1).1) d))*(yR ((((md.1.getD f fm0).1).2)-(xH (((md.1.getD f fm0).1).1) p))))<=(0:Int)) (λZ=>?_) (λZ=>?_)
  ·
   rw[xM Z];refine zAG ?_;refine yO (A:=[]) (yO (A:=[]) (yO (A:=[]) ?_));have C:=zNS (md:=md) (p:=p) (d:=d) (f:=f) (.inl zo4);have M:¬bdM (md.1.getD f fm0) p d:=λe=>e.1 (.inl zo4);refine gqL ((f+1),h5) ?_ ?_ (he:=⟨I,I,congrArg (λz:Int=>some (vI z)) (by have G:=congrArg Prod.fst C.symm;exact G),congrArg (λz:Int=>some (vI z)) (by have G:=congrArg Prod.snd C.symm;exact G),I,I,I,trivial⟩)
   · exact⟨mle,by omega,wQ (Q:=λu=>¬bdM (md.1.getD u fm0) p d) aa M⟩
   omega
  rw[yH Z];refine go1 ?_;refine oX I (xB yEZ (Pc.snd (Pc.fst pH)) O) λdi bs=>(yS I I I (λh' L' hh hR=>uY underlying76 I (bs.mono hh)) I (gc4 (λae=>?_) λae=>?_))
  ·
   refine go8 ?_;refine yO (A:=[]) (yO (A:=[]) (yO (A:=[]) ?_));have C:=zNS (md:=md) (p:=p) (d:=d) (f:=f) (.inr oM);have M:¬bdM (md.1.getD f fm0) p d:=λe=>e.1 (.inr oM);refine gqL ((f+1),h5) ?_ ?_ (he:=⟨I,I,congrArg (λz:Int=>some (vI z)) (by have G:=congrArg Prod.fst C.symm;exact G),congrArg (λz:Int=>some (vI z)) (by have G:=congrArg Prod.snd C.symm;exact G),I,I,I,trivial⟩)
   · exact⟨mle,by omega,wQ (Q:=λu=>¬bdM (md.1.getD u fm0) p d) aa M⟩
   omega
  have U:¬skM (md.1.getD f fm0) p d:=λe=>e.elim zo4 (λe=>ae oM);refine go4 ?_;refine lX (xB yE pH ad) λdh br=>(lX (xB yE pH ab) λdf bq=>(cL (ev2 I I) call123 (λw hs=>zTG hs br bq oM) λde h6 ec bp=>?_));obtain⟨ah,rfl,J⟩:=bp
  change (rpQ ((3*j+3*m+n+14)+(3*l+3*m+12))).Is h6 ah (if(xH (((md.1.getD f fm0).1).1) d)=0 then 0 else((((md.1.getD f fm0).1).2)-(xH (((md.1.getD f fm0).1).1) p))/(xH (((md.1.getD f fm0).1).1) d)) at J
  replace J:=Rp.Is.le J (Le.q (l:=3*j+3*l+6*m+n+26) oM);refine go3 ?_;refine nA (ρ:=(rpQ (n+6*m+3*j+3*l+30))) (X:=(0:Rat)) xR (yI oM) λel cu aw=>(zW (A:=[]) (uB sizeOf29 pH aw (J.le (Le.q (l:=n+6*m+3*j+3*l+30) oM))) λcj ai=>(go4 ?_));refine zK 7 _ [] [(0,.q),(1,.q),(2,.q),(3,.q),(4,.c),(5,.c),(6,.c)] yA nX zou nX (λr hr=>hr) (wX I (xB zEY pH O) λdd bo=>(wX I (xB zM pH av) λdc bn=>(wX I (xB yE pH ai) λdb bm=>(wX I (xB zM pH au) λda bl=>?_))));refine w_c I (sC (ev2 I I) call125 (λw hs=>zTF hs bm bl oM) λcz h7 eb ak=>?_);replace ak:=Rp.Is.le ak (Le.t (Le.q (l:=3*j+4*l+6*m+n+32) oM));refine w_c I (sC (ev2 I I) call124 (λw hs=>yBX hs bn.up ak oM) λcy h8 ea aj=>?_);replace aj:=Rp.Is.le aj (Le.t (Le.q (l:=4*j+4*l+6*m+n+34) oM));refine w_c I (sC (ev2 I I) call109 (λw hs=>zIV hs bo.up aj oM oM (by first|omega|exact hcd5.2.2 f oM)) λbd G dz bk=>?_);obtain rfl:bd=vI (whM (md.1.getD f fm0) (T3.mk (p.x+((if(xH (((md.1.getD f fm0).1).1) d)=0 then 0 else((((md.1.getD f fm0).1).2)-(xH (((md.1.getD f fm0).1).1) p))/(xH (((md.1.getD f fm0).1).1) d))*d.x)) (p.y+((if(xH (((md.1.getD f fm0).1).1) d)=0 then 0 else((((md.1.getD f fm0).1).2)-(xH (((md.1.getD f fm0).1).1) p))/(xH (((md.1.getD f fm0).1).1) d))*d.y)) (p.z+((if(xH (((md.1.getD f fm0).1).1) d)=0 then 0 else((((md.1.getD f fm0).1).2)-(xH (((md.1.getD f fm0).1).1) p))/(xH (((md.1.getD f fm0).1).1) d))*d.z)))):=bk;refine gc9 (λD=>?_) λD=>?_
  ·
   rw[zQJ U] at D;obtain⟨e1,e2,e3⟩:=yC7 (md:=md) (p:=p) (d:=d) (f:=f) oM ⟨U,D⟩;refine tZ ?_;refine uN I I I I ?_;rw[e1,e2,yH e3]
  rw[zQJ U] at D;refine gc6 (λH=>?_) λH=>?_
  ·
   rw[zQJ U] at H;refine go2 ?_;refine lX (xB yE pH ab) λcw bj=>(cL (ev1 I) call122 (λw hs=>pE hs bj oM) λbc bb co bi=>?_);obtain rfl:bc=vI (yR (xH (((md.1.getD f fm0).1).1) d)):=bi;have cg:=yX (xH (((md.1.getD f fm0).1).1) d);refine gc3 (λac=>?_) λac=>?_
   ·
    refine uV ?_;refine yO (A:=[]) (yO (A:=[]) (yO (A:=[]) (yO (A:=[]) ?_)));have C:=yC6 U H (zAY.1 ac);have M:¬bdM (md.1.getD f fm0) p d:=λe=>D e.2;refine gqL ((f+1),bb) ?_ ?_ (he:=⟨I,I,congrArg (λz:Int=>some (vI z)) (by have G:=congrArg Prod.fst C.symm;exact G),congrArg (λz:Int=>some (vI z)) (by have G:=congrArg Prod.snd C.symm;exact G),I,I,I,trivial⟩)
    · exact⟨mle,by omega,wQ (Q:=λu=>¬bdM (md.1.getD u fm0) p d) aa M⟩
    omega
   refine uV ?_;refine yO (A:=[]) (yO (A:=[]) (yO (A:=[]) (yO (A:=[]) ?_)));have C:=yIN U H (λe=>ac (zAY.2 e));have M:¬bdM (md.1.getD f fm0) p d:=λe=>D e.2;refine gqL ((f+1),bb) ?_ ?_ (he:=⟨I,I,congrArg (λz:Int=>some (vI z)) (by have G:=congrArg Prod.fst C.symm;exact G),congrArg (λz:Int=>some (vI z)) (by have G:=congrArg Prod.snd C.symm;exact G),I,I,I,trivial⟩)
   · exact⟨mle,by omega,wQ (Q:=λu=>¬bdM (md.1.getD u fm0) p d) aa M⟩
   omega
  rw[zQJ U] at H;refine go8 ?_;refine yO (A:=[]) (yO (A:=[]) (yO (A:=[]) (yO (A:=[]) ?_)));have C:=yIM U H;have M:¬bdM (md.1.getD f fm0) p d:=λe=>D e.2;refine gqL ((f+1),G) ?_ ?_ (he:=⟨I,I,congrArg (λz:Int=>some (vI z)) (by have G:=congrArg Prod.fst C.symm;exact G),congrArg (λz:Int=>some (vI z)) (by have G:=congrArg Prod.snd C.symm;exact G),I,I,I,trivial⟩)
  · exact⟨mle,by omega,wQ (Q:=λu=>¬bdM (md.1.getD u fm0) p d) aa M⟩
  omega
 have ef:f=md.1.length:=by omega
 obtain⟨e1,e2,e3⟩:=yIO (md:=md) (p:=p) (d:=d) (λu hu=>aa u oM);refine rA ?_;refine uN I I I I ?_;rw[e1,e2,ef,xM e3]
theorem zPK{m n k j:Nat}{vmd:Value}{md:((List (Pq×((List (List Tq))×(Int×Int))))×(List (List Tq)))}(rmd:(rpP (rpS (rpP (tPl m n) (rpP (tLL k) (rpP rpI rpI)))) (rpS (rpA 2 (tPt k)))).Is h0 vmd md){vp:Value}{p:Tq}(rp:(tPt j).Is h0 vp p)(hcd0:k<=10000)(hcd1:j<=1000)(hcd2:m<=100)(hcd3:n<=100)(hcd4:zTW md)(hcd5:cH md p<=3*md.2.length+1)(hcd6:clM md p (vK ↑(cH md p))):
 Calls Tryz.prog 113 #[vmd,vp] w0 (Ret w0 h0 (λ_ r=>r=vI (crA md p (vK ↑(cH md p))-crB md p (vK ↑(cH md p))))):=by
 have ai:=zJB md p (vK ↑(cH md p));have ad:=hcd4.1;refine cb2 21 vmd vp func113 hs ?_;refine go2 ?_;refine nB rmd λb2 ak D=>(nB rp λb3 aj C=>(go4 ?_));refine zK 13 _ [] [(0,.q),(1,.q),(2,.q),(3,.q),(4,.c),(5,.c),(6,.q),(7,.q),(8,.q),(9,.q),(10,.q),(11,.q),(12,.q)] yA nX (wJ zou) nX (λr hr=>hr) (wX I (xB zLJ pH D) λv9 r9=>(wX I (xB zM pH C) λac O=>(wX I (xB zLJ pH D) λab M=>(wX I (xB zM pH C) λaa J=>?_))));refine w_c I (sC (ev2 I I) call74 (λw hs=>zHP hs M J oM oM (by first|omega|exact hcd4|exact hcd5|exact hcd6) (by first|omega|exact hcd4|exact hcd5|exact hcd6) (by first|omega|exact hcd4|exact hcd5|exact hcd6)) λZ h1 ah H=>?_);refine w_c I (sC (ev3 I I I) call79 (λw hs=>w7 hs r9.up O.up H oM oM dC oM oM (by first|omega|exact hcd4)) λU h2 ae G=>?_);obtain rfl:=G;refine yCK ?_;refine zC I I ?_
 rfl
theorem zMS{m n k j:Nat}{vmd:Value}{md:((List (Pq×((List (List Tq))×(Int×Int))))×(List (List Tq)))}(rmd:(rpP (rpS (rpP (tPl m n) (rpP (tLL k) (rpP rpI rpI)))) (rpS (rpA 2 (tPt k)))).Is h0 vmd md){vp:Value}{p:Tq}(rp:(tPt j).Is h0 vp p)(hcd0:k<=10000)(hcd1:j<=1000)(hcd2:m<=100)(hcd3:n<=100)(hcd4:zTW md)(hcd5:cH md p<=3*md.2.length+1)(hcd6:clM md p (vK ↑(cH md p))):
 Calls Tryz.prog 72 #[vmd,vp] w0 (Ret w0 h0 (λh r=>r=.tuple #[vI (wdM md p),vB (¬onA md p)])):=by
 refine cb2 18 vmd vp func72 hs ?_;refine go2 ?_;refine nB rmd λb2 am H=>(nB rp λb3 ak G=>(go7 ?_));refine lX (xB zLJ pH H) λv9 r9=>(lX (xB zM pH G) λah aa=>(cL (ev2 I I) call70 (λw hs=>zXB hs r9 aa oM oM oM oM (by first|omega|exact hcd4)) λae h1 aj Z=>?_));obtain rfl:=Z;refine zK3 (λD=>?_) λD=>?_
 ·
  have C:onA md p:=D;refine go8 ?_;refine wK I I I ?_;rw[yH (λe=>e C),show wdM md p=0 from if_pos C]
 have C:¬onA md p:=D;refine go4 ?_;refine lX (xB zLJ pH H) λad U=>(lX (xB zM pH G) λac O=>(cL (ev2 I I) call113 (λw hs=>zPK hs U O oM oM oM oM (by first|omega|exact hcd4|exact hcd5|exact hcd6) (by first|omega|exact hcd4|exact hcd5|exact hcd6) (by first|omega|exact hcd4|exact hcd5|exact hcd6)) λJ h2 ai M=>?_));obtain rfl:J=vI (crA md p (vK ↑(cH md p))-crB md p (vK ↑(cH md p))):=M;have ab:=zJB md p (vK ↑(cH md p));refine go5 ?_;refine wK I I I ?_;rw[xM C,show wdM md p=_ from if_neg C]
end
theorem yKT:MapTy Tryz.prog 138 118 4 3:=⟨underlying138,underlying118,underlying3,sizeOf3,isAgg3,zUR zYH rfl⟩
theorem yB1{w0 w:World}{h0 h:Mem}{k m n j:Nat}{vs:Value}{s:Sd}(rs:(tSd k m n j).Is h vs s){vl:Value}{l:List Int}(rl:(rpS rpI).Is h vl l){b bm ck:Nat}{cs ces:List Value}{vf ve:Value}{EE:List (List Pt)}{es:Array MapEntry}{T:List PIr}(rb:(rpP rpV rpV).R h cs (vf,ve))(ho0:ve.oneCell'=true)(re:RL (rpA 2 (tPt (k+1))) h ces EE)(hm0:lP es T)(hEE:EE=T.map (edP s.1))(hcd0:∀u,u<l.length->0<=l.getD u 0/\l.getD u 0<s.1.length)(hcd1:l.length<=10000/\T.length<=10000000/\s.1.length<=100000)(hcd2:k<=1000000){L:List Res}(hs:St w0 h0 (.var b 99 cs::.gs 151 18 ve EE.length ces::.blk bm (.map es ck)::L) h w):
 Calls Tryz.prog 107 #[vP b 0,vs,vl,.map (some bm)] w (fW w0 h0 (λg v K=>∃Qs',(Qs'++L).Sublist K/\MLe h g/\∃cs' ve' ces' es' ck',Qs'=[.var b 99 cs',.gs 151 18 ve' ((sxE s.1 l T l.length).map (edP s.1)).length ces',.blk bm (.map es' ck')]/\(rpP rpV rpV).R g cs' (vf,ve')/\ve'.oneCell'=true/\RL (rpA 2 (tPt (k+1))) g ces' ((sxE s.1 l T l.length).map (edP s.1))/\lP es' (sxE s.1 l T l.length))):=by
 refine uF (n:=77) (e:=[(0,vP b 0),(1,vs),(2,vl),(3,.map (some bm))]) (vs:=[vP b 0,vs,vl,.map (some bm)]) func107 rfl rfl (bL rfl) hs e4z (go2 ?_);refine nB rs λb5 cb ae=>(uG ?_);refine gcL (ι:=Nat×List (List Pt)×List PIr×List Value×Value×List Value×Array MapEntry×Nat×Mem) (λ(u,E2,T2,O,C,M,J,U,ma)=>(MLe h ma/\((rpP rpV rpV).R ma O (vf,C)/\RL (rpA 2 (tPt (k+1))) ma M E2/\C.oneCell'=true/\lP J T2/\u<=l.length/\T2=sxE s.1 l T u/\E2=T2.map (edP s.1)),[(0,vP b 0),(2,vl),(3,.map (some bm)),(5,vP b5 0),(12,vl),(13,vI (↑(l).length:Int)),(14,vI ↑u)],(.var b5 39 cb::.var b 99 O::.gs 151 18 C E2.length M::.blk bm (.map J U)::L),ma,l.length-u)) (0,EE,T,cs,ve,ces,es,ck,h) ?_ ?_
 · exact⟨mle,rb,re,ho0,hm0,by omega,I,hEE⟩
 rintro⟨u,E2,T2,O,C,M,J,U,ma⟩ ⟨ar,G,aa,ab,H,du,ac,ad⟩
 refine yW ?_;have bz:=zJQ s.1 l T u;rw[<-ac] at bz;have dx:E2.length=T2.length:=by rw[ad];exact List.length_map _
 refine gc6 (λav=>?_) λav=>?_
 ·
  have dw:=hcd0 u oM;have dv:=hcd0 ((u+1)%l.length) (Nat.mod_lt _ oM);refine go7 ?_;refine lX (xI (0:Int) u underlying22 ty3 rl) λdq bx=>(lX (xA ty3 bx) λdp bw=>?_);obtain⟨rfl,cj,cf⟩:=kS bw;refine qM ?_;refine gv (wC I I oM oM) I (lX (xI (0:Int) ((u+1)%l.length) underlying22 ty3 rl (hi:=by exact Nat.mod_lt _ oM)) λdn bv=>(lX (xA ty3 bv) λdm bu=>?_));obtain⟨rfl,ci,ce⟩:=kS bu;refine go7 ?_;refine gv (zWR I I) I (go2 ?_);refine gv (zMA I I) I (lX (xV (ρ:=(rpA 2 rpI)) (wB (ps':=[(0,_),(1,_)]) underlying118 dU I I sizeOf3 e4z I (zLD 2 wL) (zD I (Pc.arr (Pc.here _) (0:Int) 0 dC) (wH oM oM) (zD I (Pc.arr (Pc.here _) (0:Int) 1 dC) (wH oM oM) zO)))) λdl bt=>(nA (ρ:=(rpA 2 rpI)) (X:=(List.replicate 2 (0:Int))) dU (zLD 2 wL) λea cm aq=>(zW (A:=[]) (uB sizeOf118 pH aq bt) λca D=>(go3 ?_))));refine zK 18 _ [] [(0,.q),(1,.q),(2,.q),(3,.q),(4,.q),(5,.q),(6,.q),(7,.q),(8,.q),(9,.q),(10,.q),(11,.q),(12,.q),(13,.q),(14,.q),(15,.c),(16,.q),(17,.q)] yA nX (wJ zou) nX (λr hr=>hr) (go1 ?_);refine wX I (xB yDJ pH D) λdk bs=>(w_q I (λh' L' hh hR=>zFQ (u:=((min (l.getD u (0:Int)) (l.getD ((u+1)%l.length) (0:Int))),(max (l.getD u (0:Int)) (l.getD ((u+1)%l.length) (0:Int))))) yKT (hR _ mh4) I (evk I (zX8 (bs.mono hh))) H) I (go2 ?_));refine jH (¬(((min (l.getD u (0:Int)) (l.getD ((u+1)%l.length) (0:Int))),(max (l.getD u (0:Int)) (l.getD ((u+1)%l.length) (0:Int))))∈T2)) (λZ=>?_) (λZ=>?_)
  ·
   rw[xM Z];refine go1 ?_;refine oX I (xB uO (Pc.fst pH) ae) λdj br=>(yS I I I (λh' L' hh hR=>yZ I) I (oX I (xI zT ((l.getD u (0:Int)).toNat) underlying35 zM br) λdi bq=>(oX I (xA zM bq) λdh bp=>(go1 ?_))));refine oX I (xB uO (Pc.fst pH) ae) λdf bo=>(yS I I I (λh' L' hh hR=>yZ I) I (oX I (xI zT ((l.getD ((u+1)%l.length) (0:Int)).toNat) underlying35 zM bo) λde bn=>(oX I (xA zM bn) λdd bl=>?_)));refine w_c I (zA6 I I (sC (ev2 I I) call119 (λw hs=>zMG hs bp bl oM) λay h1 dz bk=>?_));obtain rfl:ay=vB ((s.1.getD ((l.getD u (0:Int)).toNat) zT)=(s.1.getD ((l.getD ((u+1)%l.length) (0:Int)).toNat) zT)):=bk;refine gc4 (λau=>?_) λau=>?_
   ·
    refine go3 ?_;refine lX (xB yDJ pH D) λdc bj=>(zT8 (A:=[_,_,_,_]) (u:=((min (l.getD u (0:Int)) (l.getD ((u+1)%l.length) (0:Int))),(max (l.getD u (0:Int)) (l.getD ((u+1)%l.length) (0:Int))))) yKT I (evk I (zX8 bj)) I H zo4 ?_);intro am ak;refine go2 ?_;refine qG (A:=[_,_,_]) 22 [] [(0,.q),(1,.q),(2,.q),(3,.q),(4,.q),(5,.q),(6,.q),(7,.q),(8,.q),(9,.q),(10,.q),(11,.q),(12,.q),(13,.q),(14,.q),(15,.q),(16,.q),(17,.q),(18,.c),(19,.c),(20,.q),(21,.q),(22,.t)] yA nX (wJ zou) nX (go2 ?_);refine wI I (λ_ _=>gO I) I (wI I (λ_ _=>(xU underlying99 I sizeOf97 I).cv (show _=vP b 1 from congrArg (vP b) zo3)) I (wX I (tX (xB yJS (Pc.snd pH) G)) λdb bi=>?_));subst bi;refine go1 ?_;refine wX I (xB uO (Pc.fst pH) ae) λda bh=>(go1 ?_);refine wX I (xB ty3 (Pc.arr pH (0:Int) 0 dC) D) λcz bg=>?_;obtain⟨rfl,ch,cd⟩:=kS bg;refine aD (F:=λv_=>AtP (tPt k) h1 v_ (s.1.getD ((min (l.getD u (0:Int)) (l.getD ((u+1)%l.length) (0:Int))).toNat) zT)) I (rI zT ((min (l.getD u (0:Int)) (l.getD ((u+1)%l.length) (0:Int))).toNat) underlying35 zM I I bh (by(show(min (l.getD u (0:Int)) (l.getD ((u+1)%l.length) (0:Int)))=_;omega)) oM nP) zBN I ?_;intro cy bf;refine wX I (xA zM bf) λcw be=>(go1 ?_);refine wX I (xB uO (Pc.fst pH) ae) λcu bd=>(go1 ?_);refine wX I (xB ty3 (Pc.arr pH (0:Int) 1 dC) D) λct bc=>?_;obtain⟨rfl,cg,cc⟩:=kS bc;refine aD (F:=λv_=>AtP (tPt k) h1 v_ (s.1.getD ((max (l.getD u (0:Int)) (l.getD ((u+1)%l.length) (0:Int))).toNat) zT)) I (rI zT ((max (l.getD u (0:Int)) (l.getD ((u+1)%l.length) (0:Int))).toNat) underlying35 zM I I bd (by(show(max (l.getD u (0:Int)) (l.getD ((u+1)%l.length) (0:Int)))=_;omega)) oM nP) zBN I ?_;intro cq bb;refine wX I (xA zM bb) λcp ba=>(wX I (xV (ρ:=(rpA 2 (tPt (k+1)))) (wB (ps':=[(0,_),(1,_)]) underlying151 zBT I I sizeOf31 e4z I (zLD 2 (xO (yI oM))) (zD I (Pc.arr (Pc.here _) zT 0 dC) (be.le (Le.t (Le.q (l:=k+1) oM))) (zD I (Pc.arr (Pc.here _) zT 1 dC) (ba.le (Le.t (Le.q (l:=k+1) oM))) zO)))) λco az=>?_);refine w_c I (jN (λX=>zL (ρ:=(rpA 2 (tPt (k+1)))) (m:=1) (xs:=[[(s.1.getD ((min (l.getD u (0:Int)) (l.getD ((u+1)%l.length) (0:Int))).toNat) zT),(s.1.getD ((max (l.getD u (0:Int)) (l.getD ((u+1)%l.length) (0:Int))).toNat) zT)]]) (ps':=[(0,_)]) underlying97 zBT I I I (zLD 2 (xO (yI oM))) e2z (zD I (Pc.arr (Pc.here _) ed0 0 dC) az zO) (show 1*18<=16777216 from by decide) nP) I ?_)
    rintro cn dt ⟨cl,rfl,ap⟩
    refine w_c I (xS (A:=[]) (ρ:=(rpA 2 (tPt (k+1)))) ap dK ?_);intro h2 dy ai;refine fF (A:=[_,_,_]) (λX=>vX (zU (ρ:=(rpA 2 (tPt (k+1)))) (bytes:=336) underlying97 zBT I I I I nP I I aa.up ai bO bO)) I (xJ zoy) ?_
    rintro ax dr ⟨ah,aw,rfl,ao⟩
    refine wI I (λ_ _=>gO I) I (wI I (λ_ _=>(xU underlying99 I sizeOf97 I).cv (show _=vP b 1 from congrArg (vP b) zo3)) I (yK (A:=[_,_]) I (uB sizeOf97 (Pc.snd pH) G (oS ah)) λan aj=>(go7 ?_)));refine yO (A:=[]) ?_;refine gqL ((u+1),(E2++[[(s.1.getD ((min (l.getD u (0:Int)) (l.getD ((u+1)%l.length) (0:Int))).toNat) zT),(s.1.getD ((max (l.getD u (0:Int)) (l.getD ((u+1)%l.length) (0:Int))).toNat) zT)]]),(T2++[((min (l.getD u (0:Int)) (l.getD ((u+1)%l.length) (0:Int))),(max (l.getD u (0:Int)) (l.getD ((u+1)%l.length) (0:Int))))]),an,ax,aw,am,(U+1),h2) ?_ ?_
    · exact⟨mle,aj,ao,ah,ak,by omega,yFR ac zo4 zo4,yIF ad⟩
    omega
   refine go7 ?_;refine yO (A:=[]) ?_;refine gqL ((u+1),E2,T2,O,C,M,J,U,h1) ?_ ?_
   · exact⟨mle,G.up,aa.up,ab,H,by omega,yAU ac zo4,ad⟩
   omega
  rw[yH Z];refine uG ?_;refine w_c I (lW I I I I (uV ?_));refine yO (A:=[]) ?_;refine gqL ((u+1),E2,T2,O,C,M,J,U,ma) ?_ ?_
  · exact⟨mle,G.up,aa.up,ab,H,by omega,yAV ac zo4,ad⟩
  omega
 have eu:u=l.length:=by omega
 subst eu ad ac;refine go4 ?_;refine zKX I ?_;exact⟨_,(.cons _ (.cons_cons _ (.cons_cons _ (.cons_cons _ (List.Sublist.refl _))))),ar,_,_,_,_,_,I,G.up,ab,aa.up,H⟩
section
variable{w0:World}{h0:Mem}(hs:MLe h0 (mem w0))
include hs
theorem zDW{k m n j:Nat}{vs:Value}{s:Sq}(rs:(tSd k m n j).Is h0 vs s)(hcd0:okS s)(hcd1:nmA s)(hcd2:k<=1000000)(hcd3:m<=1000000)(hcd4:n<=1000000):
 Calls Tryz.prog 69 #[vs] w0 (Ret w0 h0 (λh r=>(rpP (rpS (rpP (tPl (m+1) (n+1)) (rpP (tLL (k+1)) (rpP rpI rpI)))) (rpS (rpA 2 (tPt (k+1))))).Is h r (gL s))):=by
 have fy:=hcd0.1.1.1;have fx:=hcd0.1.1.2;refine cb1 57 vs func69 hs ?_;refine go2 ?_;refine nB rs λb1 db av=>(nA (ρ:=(rpP (rpS (rpP (tPl 1 1) (rpP (tLL 1) (rpP rpI rpI)))) (rpS (rpA 2 (tPt 1))))) (X:=([],[])) zKV (yC wG wG) λb2 da di=>(go4 ?_));refine nA (ρ:=(rpP rpV rpV)) (X:=((Value.slice none 0 0),(Value.slice none 0 0))) zKV (yC gV gV) λb3 en dh=>(go4 ?_);refine zG zMV I I I ?_
 rintro fq ft ⟨ay,rfl,rfl⟩
 refine go7 ?_;refine lX (xB kR (Pc.snd (Pc.fst pH)) av) λck ee=>(go5 ?_);refine xG 140 15 ?_;have cm:=RL.nil (ρ:=rpP (tPl (m+1) (n+1)) (rpP (tLL (k+1)) (rpP rpI rpI))) (h:=h0);refine xG 151 18 ?_;have cl:=RL.nil (ρ:=rpA 2 (tPt (k+1))) (h:=h0);refine gcL (ι:=Nat×List Fm×List (List Pt)×List PIr×List Value×Value×List Value×Value×List Value×Array MapEntry×Nat×Mem) (λ(f,FF,E2,T2,U,M,an,O,ad,aa,ak,ma)=>(MLe h0 ma/\((rpP rpV rpV).R ma U (M,O)/\RL (rpP (tPl (m+1) (n+1)) (rpP (tLL (k+1)) (rpP rpI rpI))) ma an FF/\M.oneCell'=true/\RL (rpA 2 (tPt (k+1))) ma ad E2/\O.oneCell'=true/\lP aa T2/\f<=s.2.1.length/\FF=fmT s f/\T2=sfE s f/\E2=T2.map (edP s.1)),[(1,vP b1 0),(2,vP b2 0),(3,vP b3 0),(4,.map (some ay)),(12,ck),(13,vI (↑(s.2.1).length:Int)),(14,vI ↑f)],[.gs 151 18 O E2.length ad,.gs 140 15 M FF.length an,.blk ay (.map aa ak),.var b3 99 U,.var b2 99 da,.var b1 39 db],ma,s.2.1.length-f)) (0,[],[],[],en,(.slice none 0 0),[],(.slice none 0 0),[],#[],0,h0) ?_ ?_
 · exact⟨mle,dh,cm,I,cl,I,map_nil,by omega,I,I,I⟩
 rintro⟨f,FF,E2,T2,U,M,an,O,ad,aa,ak,ma⟩ ⟨er,am,az,cp,aq,bw,bz,ga,cb,cw,cy⟩
 refine yW ?_;have gc:FF.length=f:=by rw[cb];exact yY _ _
 refine gc6 (λcv=>?_) λcv=>?_
 ·
  have J:=hcd0.2.1 f oM;have fu:=zJW hcd0 f oM;have gb:=zDG (s.2.1.getD f zA).1.1;refine go6 ?_;refine lX (xI zA f underlying36 pV ee) λfp ed=>(lX (xA pV ed) λfo ec=>(nA (ρ:=(tFc 1 1)) (X:=((zT,(0:Rat)),([],([]:List Nat)))) jE (yC (yC (xO (yI dC)) (yI dC)) (yC wG gH)) λb6 gf df=>?_));have bg:=(Le.p (Le.p (Le.t (Le.q (l:=m+1) oM)) (Le.q (l:=n+1) oM)) (Le.refl _)).R df;refine zW (A:=[]) (uB sizeOf53 pH bg (ec.le (Le.p (Le.p (Le.t (Le.q (l:=m+1) oM)) (Le.q (l:=n+1) oM)) (Le.refl _)))) λch H=>(go5 ?_);refine lX (xB bG (Pc.fst pH) H) λfm eb=>(lX (xV (ρ:=(rpP (tPl (m+1) (n+1)) (rpP (tLL 1) (rpP rpI rpI)))) (xZ (ps':=[(0,_)]) underlying140 oU I I (zS6 underlying140) e2z I (yC (yC (xO (yI oM)) (yI oM)) (yC wG (yC wL wL))) (zD I (Pc.fst (Pc.here _)) eb zO))) λfl ea=>(nA (ρ:=(rpP (tPl 1 1) (rpP (tLL 1) (rpP rpI rpI)))) (X:=((zT,(0:Rat)),([],((0:Int),(0:Int))))) oU (yC (yC (xO (yI dC)) (yI dC)) (yC wG (yC wL wL))) λb7 ge de=>?_));have bf:=(Le.p (Le.p (Le.t (Le.q (l:=m+1) oM)) (Le.q (l:=n+1) oM)) (Le.refl _)).R de;refine zW (A:=[]) (uB sizeOf140 pH bf ea) λem bt=>(go5 ?_);refine lX (xB jB pH av) λfk dz=>(lX (xB pV pH H) λfj dy=>(cL (ev2 I I) call104 (λw hs=>zTU hs (dz.le (Le.p (Le.refl _) (Le.p (Le.s (Le.p (Le.p (Le.t (Le.q (l:=m+1) oM)) (Le.q (l:=n+1) oM)) (Le.refl _))) (Le.refl _)))) dy (by first|omega|exactλu v C hv=>hcd1 f oM u C v hv|exactλu C=>Nat.le_trans (J.2 u C) dC) (by first|omega|exactλu v C hv=>hcd1 f oM u C v hv|exactλu C=>Nat.le_trans (J.2 u C) dC) (by first|omega|exactλu v C hv=>hcd1 f oM u C v hv|exactλu C=>Nat.le_trans (J.2 u C) dC) (by first|omega|exactλu v C hv=>hcd1 f oM u C v hv|exactλu C=>Nat.le_trans (J.2 u C) dC)) λcj h1 ct dx=>?_));obtain rfl:cj=.bool true:=by rw[show cj=vB (True) from dx,xM (by trivial)]
  refine go5 ?_;refine lX (xB jB pH av) λfi dw=>(lX (xB pV pH H) λfh dv=>(cL (ev2 I I) call105 (λw hs=>zMH hs (dw.le (Le.p (Le.refl _) (Le.p (Le.s (Le.p (Le.p (Le.t (Le.q (l:=m+1) oM)) (Le.q (l:=n+1) oM)) (Le.refl _))) (Le.refl _)))) dv (by first|omega|exactλu v C hv=>hcd1 f oM u C v hv|exactλu C=>Nat.le_trans (J.2 u C) dC) (by first|omega|exactλu v C hv=>hcd1 f oM u C v hv|exactλu C=>Nat.le_trans (J.2 u C) dC) (by first|omega|exactλu v C hv=>hcd1 f oM u C v hv|exactλu C=>Nat.le_trans (J.2 u C) dC) (by first|omega|exactλu v C hv=>hcd1 f oM u C v hv|exactλu C=>Nat.le_trans (J.2 u C) dC)) λfg h2 cq du=>(go1 ?_)));have be:=(Le.p (Le.refl _) (Le.p (Le.s (Le.s (Le.t (Le.q (l:=k+1) oM)))) (Le.refl _))).R bt;refine zW (A:=[]) (uB sizeOf76 (Pc.snd (Pc.fst pH)) be du) λel bs=>(go6 ?_);refine lX (xB zM (Pc.fst (Pc.fst pH)) H) λff dt=>(cL (ev1 I) call106 (λw hs=>zTT hs dt oM) λfe h3 fz dr=>?_);obtain rfl:=dr;refine go4 ?_;refine zW (A:=[]) (uB sizeOf3 (Pc.snd (Pc.snd (Pc.fst pH))) bs (wH (z:=(↑(axI (((s.2.1.getD f zA).1).1)):Int)) oM oM)) λek br=>(go1 ?_);refine zW (A:=[]) (uB sizeOf3 (Pc.snd (Pc.snd (Pc.snd pH))) br (wH (z:=(↑(axJ (((s.2.1.getD f zA).1).1)):Int)) oM oM)) λcg bq=>(go5 ?_);refine lX (xB pW (Pc.snd (Pc.fst pH)) H) λdd dq=>(go5 ?_);refine gcL (ι:=Nat×List Fm×List (List Pt)×List PIr×List Value×Value×List Value×Value×List Value×Array MapEntry×Nat×Mem) (λ(q,F3,E3,T3,ai,D,ac,G,ab,Z,aj,mb)=>(MLe h3 mb/\((rpP rpV rpV).R mb ai (D,G)/\RL (rpP (tPl (m+1) (n+1)) (rpP (tLL (k+1)) (rpP rpI rpI))) mb ac F3/\D.oneCell'=true/\RL (rpA 2 (tPt (k+1))) mb ab E3/\G.oneCell'=true/\lP Z T3/\q<=(s.2.1.getD f zA).2.1.length/\F3=fmT s f/\T3=slE s.1 (s.2.1.getD f zA).2.1 (sfE s f) q/\E3=T3.map (edP s.1)),[(1,vP b1 0),(2,vP b2 0),(3,vP b3 0),(4,.map (some ay)),(7,vP b7 0),(12,ck),(13,vI (↑(s.2.1).length:Int)),(14,vI ↑f),(38,dd),(39,vI (↑(((s.2.1.getD f zA).2).1).length:Int)),(40,vI ↑q)],[.var b7 140 cg,.var b6 53 ch,.gs 151 18 G E3.length ab,.gs 140 15 D F3.length ac,.blk ay (.map Z aj),.var b3 99 ai,.var b2 99 da,.var b1 39 db],mb,(s.2.1.getD f zA).2.1.length-q)) (0,FF,E2,T2,U,M,an,O,ad,aa,ak,h3) ?_ ?_
  · exact⟨mle,am.up,az.up,cp,aq.up,bw,bz,by omega,cb,cw,cy⟩
  rintro⟨q,F3,E3,T3,ai,D,ac,G,ab,Z,aj,mb⟩ ⟨ep,ah,ap,bv,ao,ar,au,fv,cc,ca,bb⟩
  refine yW ?_;refine gc6 (λcu=>?_) λcu=>?_
  ·
   have fw:=J.2 q oM;have eh:=zJT J.2 s.1 (sfE s f) q oM;rw[<-ca] at eh;refine go6 ?_;refine lX (xI [] q underlying51 fK dq) λfd dp=>(lX (xA fK dp) λfc dn=>(go4 ?_));refine lX (xB jB pH av) λfb dm=>(go2 ?_);refine iQ (A:=[_,_,_,_]) (iQ (A:=[_,_,_]) (iQ (A:=[_,_,_,_,_]) ?_));refine zK0 (vs:=[_,_,_,_]) (Qs:=[_,_,_]) (List.Perm.refl _) call107 e4z (λw hs=>yB1 dm dn ah ar ao au bb (λu C=>hcd1 f oM q oM u C) ⟨by omega,by omega,by omega⟩ hcd2 hs) I ?_;intro fa h4 gg ei eg;obtain⟨cf,bc,ax,cd,ci,rfl,bp,bu,bl,bx⟩:=eg;refine zK1 (A:=[_,_,_,_,_]) (zK1 (A:=[_,_,_]) (zK1 (A:=[_,_,_,_]) (go7 ?_)));refine gqL ((q+1),F3,((sxE s.1 ((s.2.1.getD f zA).2.1.getD q []) T3 ((s.2.1.getD f zA).2.1.getD q []).length).map (edP s.1)),(sxE s.1 ((s.2.1.getD f zA).2.1.getD q []) T3 ((s.2.1.getD f zA).2.1.getD q []).length),cf,D,ac,bc,ax,cd,ci,h4) ?_ ?_
   · exact⟨mle,bp,ap.up,bv,bl,bu,bx,by omega,cc,by rw[ca];rfl,I⟩
   omega
  have eq:q=(s.2.1.getD f zA).2.1.length:=by omega
  have es:F3.length=f:=by rw[cc];exact yY _ _
  refine go7 ?_;refine lX (tX (xB yEY (Pc.fst pH) ah)) λez dl=>?_;subst dl;refine lX (xB zEY pH bq) λey dk=>(zG (zL (ρ:=(rpP (tPl (m+1) (n+1)) (rpP (tLL (k+1)) (rpP rpI rpI)))) (m:=1) (xs:=[((s.2.1.getD f zA).1,(zAX s.1 (s.2.1.getD f zA).2.1 (s.2.1.getD f zA).2.1.length,((↑(axI (((s.2.1.getD f zA).1).1)):Int),(↑(axJ (((s.2.1.getD f zA).1).1)):Int))))]) (ps':=[(0,_)]) underlying96 oU I I I (yC (yC (xO (yI oM)) (yI oM)) (yC wG (yC wL wL))) e2z (zD I (Pc.arr (Pc.here _) fm0 0 dC) dk zO) (show 1*15<=16777216 from by decide) nP) I I I ?_)
  rintro ew fs ⟨eu,rfl,co⟩
  refine zP (A:=[]) (ρ:=(rpP (tPl (m+1) (n+1)) (rpP (tLL (k+1)) (rpP rpI rpI)))) co ?_;intro h4 ei bj;refine xL (A:=[_,_,_]) (vX (zU (ρ:=(rpP (tPl (m+1) (n+1)) (rpP (tLL (k+1)) (rpP rpI rpI)))) (bytes:=264) underlying96 oU I I I I nP I I ap.up bj bO bO)) I I I ?_
  rintro dc fr ⟨ba,cz,rfl,cn⟩
  refine go1 ?_;refine zW (A:=[_,_,_,_,_]) (uB sizeOf96 (Pc.fst pH) ah (oS ba)) λce bo=>(go7 ?_);refine yO (A:=[]) (yO (A:=[]) ?_);refine gqL ((f+1),(F3++[((s.2.1.getD f zA).1,(zAX s.1 (s.2.1.getD f zA).2.1 (s.2.1.getD f zA).2.1.length,((↑(axI (((s.2.1.getD f zA).1).1)):Int),(↑(axJ (((s.2.1.getD f zA).1).1)):Int))))]),E3,T3,ce,dc,cz,G,ab,Z,aj,h4) ?_ ?_
  · exact⟨mle,bo,cn,ba,ao.up,ar,au,by omega,by rw[cc];rfl,by rw[ca,eq];rfl,bb⟩
  omega
 have ef:f=s.2.1.length:=by omega
 refine go7 ?_;refine zP (A:=[_]) (ρ:=(rpP (tPl (m+1) (n+1)) (rpP (tLL (k+1)) (rpP rpI rpI)))) az.up ?_;intro h1 ct bi;replace am:=am.mono ct;have ae:(rpP (rpS (rpP (tPl (m+1) (n+1)) (rpP (tLL (k+1)) (rpP rpI rpI)))) rpV).R h1 U (FF,(M,O).2):=yAF am bi;refine zP (A:=[]) (ρ:=(rpA 2 (tPt (k+1)))) aq.up ?_;intro h2 cq bh;replace ae:=ae.mono cq;have bn:(rpP (rpS (rpP (tPl (m+1) (n+1)) (rpP (tLL (k+1)) (rpP rpI rpI)))) (rpS (rpA 2 (tPt (k+1))))).R h2 U (FF,E2):=vr_1 ae bh;refine lX (xB zLJ pH bn) λev dj=>?_;have bd:=(Le.p (Le.s (Le.p (Le.p (Le.t (Le.q (l:=m+1) oM)) (Le.q (l:=n+1) oM)) (Le.p (Le.s (Le.s (Le.t (Le.q (l:=k+1) oM)))) (Le.refl _)))) (Le.s (Le.a (Le.t (Le.q (l:=k+1) oM))))).R di;refine zW (A:=[_,_]) (uB sizeOf99 pH bd dj) λej bm=>(go3 ?_);refine wT (kJ (t:=2) zLJ mh2 I bm) ?_;intro eo aw bk;refine yV (λE S=>zV I aw E S) ?_;exact(Rp.Is.cast bk (by rw[cb,cy,cw,ef];rfl))
theorem oJ{k m n j j2:Nat}{vs:Value}{s:Sq}(rs:(tSd k m n j).Is h0 vs s){vp:Value}{p:Tq}(rp:(tPt j2).Is h0 vp p)(hcd0:okS s)(hcd1:gK s)(hcd2:k<=9000)(hcd3:j2<=900)(hcd4:m<=90)(hcd5:n<=90):
 Calls Tryz.prog 32 #[vs,vp] w0 (Ret w0 h0 (λh r=>r=.tuple #[vI (wdM (gL s) p),vB (¬onA (gL s) p)])):=by
 have D:=yDX (s:=s) hcd0;have C:=yHA hcd1 p;refine cb2 12 vs vp func32 hs ?_;refine go2 ?_;refine nB rs λb2 ad H=>(nB rp λb3 ac G=>(go5 ?_));refine zK 8 _ [] [(0,.q),(2,.q),(1,.c),(3,.c),(4,.q),(5,.q),(6,.q),(7,.q)] yA nX zou nX (λr Z=>Z) (wX I (xB jB pH H) λv6 U=>(wX I (xB zM pH G) λv8 M=>?_));refine w_c I (sC (ev1 I) call69 (λw hs=>zDW hs U (by first|omega|exact hcd0|exact hcd1|exact cS hcd1|exact D|exact C.1|exact C.2) (by first|omega|exact hcd0|exact hcd1|exact cS hcd1|exact D|exact C.1|exact C.2) oM oM oM) λv7 h1 ab O=>?_);refine w_c I (sC (ev2 I I) call72 (λw hs=>zMS hs O M.up oM oM oM oM (by first|omega|exact hcd0|exact hcd1|exact cS hcd1|exact D|exact C.1|exact C.2) (by first|omega|exact hcd0|exact hcd1|exact cS hcd1|exact D|exact C.1|exact C.2) (by first|omega|exact hcd0|exact hcd1|exact cS hcd1|exact D|exact C.1|exact C.2)) λv9 h2 aa J=>?_);obtain rfl:=J;refine go7 ?_;refine wK I I I ?_
 rfl
theorem yBZ{k m n j j2:Nat}{vs:Value}{s:Sq}(rs:(tSd k m n j).Is h0 vs s){vp:Value}{p:Tq}(rp:(tPt j2).Is h0 vp p)(hcd0:okS s)(hcd1:gK s)(hcd2:k<=9000)(hcd3:j2<=900)(hcd4:m<=90)(hcd5:n<=90):
 Calls Tryz.prog 18 #[vs,vp] w0 (Ret w0 h0 (λ_ r=>r=vI (inM (gL s) p))):=by
 refine cb2 19 vs vp func18 hs ?_;refine go2 ?_;refine nB rs λb2 ab H=>(nB rp λb3 aa G=>(go5 ?_));refine lX (xB jB pH H) λv8 U=>(lX (xB zM pH G) λv9 O=>(cL (ev2 I I) call32 (λw hs=>oJ hs U O (by first|omega|exact hcd0|exact hcd1|exact cS hcd1|exact hmo|exact hmd.1|exact hmd.2) (by first|omega|exact hcd0|exact hcd1|exact cS hcd1|exact hmo|exact hmd.1|exact hmd.2) oM oM oM oM) λM h1 Z J=>?_));obtain rfl:=J;refine zAG ?_;refine cnd (λC=>?_) λC=>?_
 ·
  refine go8 ?_;refine zC I I ?_;unfold inM;rw[if_pos (by simpa using C)]
 refine gc7 (λD=>?_) λD=>?_
 ·
  refine go8 ?_;refine zC I I ?_;unfold inM;rw[if_neg (by simpa using C),if_pos D]
 refine go9 ?_;refine zC I I ?_;unfold inM;rw[if_neg (by simpa using C),if_neg D]
end
end Go.Proofs.YtpkaegemlpaenaaGreat
namespace Bk
open Classical
def yB8(u w:I3):Bool:=decide (u.1<w.1\/(u.1=w.1/\(u.2.1<w.2.1\/(u.2.1=w.2.1/\u.2.2<w.2.2))))
theorem yKW(v u w:I3):lsP (cP v u) (cP v w)↔yB8 u w=true:=by
 unfold lsP yB8 cP;rw[decide_eq_true_iff];simp only[Rat.intCast_lt_intCast,Rat.intCast_inj];omega
def lsI(I:SI):List (List (List Int)):=I.2.map λf=>f.2.2.1
def zME(I:SI):List Int:=orB (edZ (lsI I)) (λi k=>yB8 (g3 I.1 i) (g3 I.1 k)) I.1.length
def ixJ(o:List Int)(n:Nat):Nat->List Int
  |0=>List.replicate n (0:Int)
  |i+1=>(ixJ o n i).set (o.getD i 0).toNat (i:Int)
def ixI(I:SI):List Int:=ixJ (zME I) I.1.length (zME I).length
def nwB(ix x:List Int):List Int:=zSZ (uZ (λq=>ix.getD (x.getD q 0).toNat 0) x.length)
def zVR{α:Type}(p:Nat->Bool)(g:Nat->α):Nat->List α
  |0=>[]
  |i+1=>zVR p g i++(if p i then[g i] else[])
def zHV(p:Nat->Bool)(g:Nat->List Int):Nat->List (List Int)
  |0=>[]
  |i+1=>if p i then zHV p g i else iP (zHV p g i) (zD0 (λk=>decide (cI (g i) ((zHV p g i).getD k [])<0)) (zHV p g i).length) (g i)
def poB(P:List I3)(f:FI)(i:Nat):Bool:=decide (0<arG (flI (iT f.1) P (f.2.2.1.getD i [])) (f.2.2.1.getD i []).length)
def nfB(P:List I3)(ix:List Int)(f:FI):FI:=(f.1,f.2.1,zVR (poB P f) (λi=>nwB ix (f.2.2.1.getD i [])) f.2.2.1.length++zHV (poB P f) (λi=>nwB ix (f.2.2.1.getD i [])) f.2.2.1.length,f.2.2.2)
def nmI(I:SI)(i:Nat):List Nat:=(I.2.getD i fi0).2.2.2
def nrI(I:SI):SI:=((zME I).map λk=>g3 I.1 k.toNat,(nsB (nmI I) I.2.length).map λi=>nfB I.1 (ixI I) (I.2.getD i fi0))
def nmB(I:SI):Bool:=(List.range I.2.length).all λi=>(List.range i).all λk=>!decide (nmI I i=nmI I k)
theorem zQU{α:Type}{P:Nat->Prop}{p:Nat->Bool}(g:Nat->α):∀n,(∀i,i<n->(P i↔p i=true))->cM P g n=zVR p g n
  |0,_=>rfl
  |n+1,h=>by
   have ih:=zQU g n λi hi=>h i zot;have h1:=h n zot;unfold cM zVR;rw[ih]
   by_cases e:P n
   · rw[if_pos e,if_pos (h1.1 e)]
   · rw[if_neg e,if_neg λe'=>e (h1.2 e')]
theorem zYI{s:Sd}{ix:List Int}{f:Nat}{p:Nat->Bool}{g:Nat->List Int}:∀n,(∀i,i<n->(zD5 s f i↔p i=true)/\nfL s ix f i=g i)->zAF s ix f n=zHV p g n
  |0,_=>rfl
  |n+1,h=>by
   have ih:=zYI (s:=s) (ix:=ix) (f:=f) n λi hi=>h i zot;obtain⟨h1,h2⟩:=h n zot;unfold zAF zHV;rw[ih,h2,zB5 (P:=zYJ (g n) (zHV p g n)) (p:=λk=>decide (cI (g n) ((zHV p g n).getD k [])<0)) _ λk hk=>(show cI (g n) ((zHV p g n).getD k [])<0↔_ from decide_eq_true_iff.symm)]
   by_cases e:zD5 s f n
   · rw[if_pos e,if_pos (h1.1 e)]
   · rw[if_neg e,if_neg λe'=>e (h1.2 e')]
theorem zOH{q:Rat}(e:yR q=0):q=0:=by
 rw[rR] at e
 split at e
 · assumption
 · split at e<;>exact absurd e zow
theorem yBC(a r:Rat)(pl:Pl):scW a (scW r pl)=scW (a*r) pl:=by
 unfold scW;refine Prod.ext ?_ ?_
 · show T3.mk (a*(r*_)) (a*(r*_)) (a*(r*_))=T3.mk (a*r*_) (a*r*_) (a*r*_)
   rw[Rat.mul_assoc,Rat.mul_assoc,Rat.mul_assoc]
 · show a*(r*_)=a*r*_
   rw[Rat.mul_assoc]
theorem yHM{r:Rat}(hr:0<r){n:Int}(hn:¬n=0):ivA (r*(n:Rat))*r=1/((if n<0 then -n else n:Int):Rat):=by
 have D:¬(n:Rat)=0:=λe=>hn (Rat.intCast_inj.1 e);have C:¬r=0:=λe=>absurd (e▸hr) zow;have hx:¬r*(n:Rat)=0:=λe=>(zoe.1 e).elim C D;have J:iU (r*(n:Rat))=r*((if n<0 then -n else n:Int):Rat):=by
  have h1:=zVU hr n;unfold iU;simp only[lZ]
  by_cases h:n<0
  · rw[if_pos (h1.2 h),if_pos h,Rat.intCast_neg];grind
  · rw[if_neg (λe=>h (h1.1 e)),if_neg h]
 have G:¬((if n<0 then -n else n:Int):Rat)=0:=λe=>by
  have:=Rat.intCast_inj.1 e
  split at this<;>omega
 unfold ivA;rw[J,if_neg (λe=>(zoe.1 e).elim C G)];generalize ((if n<0 then -n else n:Int):Rat)=m at G ⊢;have H:((1:Int):Rat)=1:=I;rw[H];grind
theorem yGD{v:I3}{f:FI}{r:Rat}(hr:0<r)(hn:¬f.1=z3)(hb:bd3 f.1=true):∃a:Int,(0<a/\a<=1000)/\scZ (scW r (cPl v f))=scW (1/(a:Rat)) (cPl v f):=by
 unfold bd3 at hb;rw[decide_eq_true_iff] at hb;have g:∀n:Int,-1000<=n/\n<=1000->¬yR (r*(n:Rat))=0->∃a:Int,(0<a/\a<=1000)/\scW (ivA (r*(n:Rat))) (scW r (cPl v f))=scW (1/(a:Rat)) (cPl v f):=λn h1 h2=>by
  have G:¬n=0:=λe=>h2 (by
   rw[e];exact if_pos (Rat.mul_zero _))
  refine⟨if n<0 then -n else n,by split<;>omega,?_⟩;rw[yBC,yHM hr G]
 unfold scZ
 split
 · rename_i e
   exact g _ hb.1 e
 · split
   · rename_i e
     exact g _ hb.2.1 e
   · split
     · rename_i e
       exact g _ hb.2.2 e
     · rename_i e1 e2 e3
       have h:=zVV (v:=v) hr hn;refine absurd ?_ h;have D:=zOH (Classical.not_not.1 e1);have C:=zOH (Classical.not_not.1 e2);have z3:=zOH (Classical.not_not.1 e3);generalize (scW r (cPl v f)).1=t at D C z3;obtain⟨a,b,c⟩:=t;simp only at D C z3;rw[D,C,z3]
section
variable {v:I3}{I:SI}{s:Sd}
theorem zKM(h:aJ v I s)(hb:chI I=true):fR s=zME I:=by
 have C:=oL h;unfold fR zME;rw[zPB (lt:=λi k=>yB8 (g3 I.1 i) (g3 I.1 k)) (n:=s.1.length) (λi k hi D=>by rw[h.1,zI2 zot,zI2 zot];exact yKW _ _ _) _ (Nat.le_refl _),zIZ h,C];rfl
theorem zRA(h:aJ v I s)(hb:chI I=true):∀i,zHU s i=ixJ (zME I) I.1.length i
  |0=>by unfold zHU ixJ;rw[oL h]
  |i+1=>by unfold zHU ixJ;rw[zRA h hb i,zKM h hb]
theorem yG9(h:aJ v I s)(hb:chI I=true):ixZ s=ixI I:=by
 unfold ixZ ixI;rw[zRA h hb,zKM h hb]
theorem yG8{f:Nat}(h:aJ v I s)(hb:chI I=true)(hf:f<I.2.length):zKN v (nfB I.1 (ixI I) (I.2.getD f fi0)) (nfF s (ixZ s) f):=by
 obtain⟨r,hr,M⟩:=zQ8 (h.2.2.2 f hf);have e:=(h.2.2.2 f hf).2;have e1:(s.2.1.getD f zA).2.1=(I.2.getD f fi0).2.2.1:=congrArg Prod.fst e;have e2:(s.2.1.getD f zA).2.2=(I.2.getD f fi0).2.2.2:=congrArg Prod.snd e;have C:=mJ h hb hf;have O:¬(I.2.getD f fi0).1=z3:=by
  unfold faB at C;replace C:=(Bool.and_eq_true _ _▸C).2;rw[Bool.and_eq_true,Bool.and_eq_true,Bool.not_eq_true',decide_eq_false_iff_not] at C;exact C.1.2
 have U:=zQ9 h hb hf;have D:∀i,i<(I.2.getD f fi0).2.2.1.length->(zD5 s f i↔poB I.1 (I.2.getD f fi0) i=true):=λi hi=>by
  have hl:=U.2 i (by rw[List.length_map];exact hi);rw[gQ (flI (iT (I.2.getD f fi0).1) I.1) [] [] hi] at hl;unfold zD5 poB;rw[zEQ zow zow hl,dE,decide_eq_true_iff];have:(flI (iT (I.2.getD f fi0).1) I.1 ((I.2.getD f fi0).2.2.1.getD i [])).length=((I.2.getD f fi0).2.2.1.getD i []).length:=List.length_map _;rw[this]
 have G:∀i,nfL s (ixZ s) f i=nwB (ixI I) ((I.2.getD f fi0).2.2.1.getD i []):=λi=>by
  unfold nfL nwB nwL;rw[yG9 h hb,e1]
 have Z:bd3 (I.2.getD f fi0).1=true:=by
  unfold faB at C;exact(Bool.and_eq_true _ _▸(Bool.and_eq_true _ _▸C).1).1
 obtain⟨r',J,H⟩:=yGD (v:=v) hr O Z;constructor
 · refine⟨r',J,?_⟩
   show scZ (s.2.1.getD f zA).1=_
   rw[M,H];rfl
 · refine Prod.ext ?_ e2
   show ouL s (ixZ s) f (s.2.1.getD f zA).2.1.length++zAF s (ixZ s) f (s.2.1.getD f zA).2.1.length=_
   rw[e1];have g1:ouL s (ixZ s) f (I.2.getD f fi0).2.2.1.length=zVR (poB I.1 (I.2.getD f fi0)) (λi=>nwB (ixI I) ((I.2.getD f fi0).2.2.1.getD i [])) (I.2.getD f fi0).2.2.1.length:=by
    unfold ouL;rw[zQU (nfL s (ixZ s) f) _ D]
    congr 1
    funext i
    exact G i
   rw[g1,zYI (p:=poB I.1 (I.2.getD f fi0)) (g:=λi=>nwB (ixI I) ((I.2.getD f fi0).2.2.1.getD i [])) _ λi hi=>⟨D i hi,G i⟩]
   rfl
theorem zXR(h:aJ v I s)(hb:chI I=true)(hn:nmB I=true):aJ v (nrI I) (nrP s,nrF s,nrE s):=by
 have G:=(zBM h hb).1;have hl:=oL h;have H:=zKM h hb;have D:s9 s s.2.1.length=(nsB (nmI I) I.2.length).map λi=>nfF s (ixZ s) i:=by
  rw[h.2.2.1];refine zKI (n:=I.2.length) (λi hi=>by show(s.2.1.getD i zA).2.2=_;exact congrArg Prod.snd (h.2.2.2 i hi).2) (λi hi k J=>?_) _ (Nat.le_refl _);have h1:=zob.1 (zob.1 hn i (zog.2 hi)) k (zog.2 J);rw[Bool.not_eq_true',decide_eq_false_iff_not] at h1;exact h1
 refine⟨?_,?_,?_,?_⟩
 · show nrP s=_
   unfold nrP;rw[if_pos G];unfold zXF;refine mN zT (by rw[yY,H];show _=(((zME I).map _).map _).length;rw[List.length_map,List.length_map]) λi hi=>?_;rw[yY] at hi;have hg:=oD (s:=s) (i:=s.1.length) (k:=i) hi;rw[uT _ _ hi]
   show _=(((zME I).map λk=>g3 I.1 k.toNat).map (cP v)).getD i zT
   rw[H] at hi;rw[gQ (cP v) z3 zT (by rw[List.length_map];exact hi),gQ (λk:Int=>g3 I.1 k.toNat) 0 z3 hi,<-H,h.1];have:((fR s).getD i 0)=(aI s s.1.length).getD i 0:=rfl;exact zI2 zot
 · show nrE s=[]
   unfold nrE;rw[if_pos G];exact h.2.1
 · show(nrF s).length=((nsB (nmI I) I.2.length).map _).length
   unfold nrF;rw[if_pos G,D,List.length_map,List.length_map]
 · intro f O
   have C:f<(nsB (nmI I) I.2.length).length:=by
    have:((nsB (nmI I) I.2.length).map λi=>nfB I.1 (ixI I) (I.2.getD i fi0)).length=_:=List.length_map _;have M:f<((nsB (nmI I) I.2.length).map λi=>nfB I.1 (ixI I) (I.2.getD i fi0)).length:=O;omega
   have hx:=zKJ _ _ _ (gC (d:=0) C);have Z:(nrI I).2.getD f fi0=nfB I.1 (ixI I) (I.2.getD ((nsB (nmI I) I.2.length).getD f 0) fi0):=gQ (λi=>nfB I.1 (ixI I) (I.2.getD i fi0)) 0 fi0 C;have U:(nrF s).getD f zA=nfF s (ixZ s) ((nsB (nmI I) I.2.length).getD f 0):=by
    unfold nrF;rw[if_pos G,D];exact gQ (λi=>nfF s (ixZ s) i) 0 zA C
   show zKN v ((nrI I).2.getD f fi0) ((nrF s).getD f zA)
   rw[Z,U];exact yG8 h hb hx
end
def fdI(B:List PI)(p:PI):Nat->Int
  |0=>-1
  |j+1=>if B.getD j (0,0)=p then(j:Int) else fdI B p j
def adI(B:List PI)(p:PI):List PI:=if fdI B p B.length<0 then B++[p] else B
def anI(B:List PI)(p:PI):Int:=if fdI B p B.length<0 then(B.length:Int) else fdI B p B.length
def plI(B x:List PI):Nat->List PI
  |0=>B
  |k+1=>adI (plI B x k) (x.getD k (0,0))
def pnI(B x:List PI):Nat->List Int:=uZ λk=>anI (plI B x k) (x.getD k (0,0))
def zWD(T:List (List PI)):Nat->List PI
  |0=>[]
  |i+1=>plI (zWD T i) (T.getD i []) (T.getD i []).length
def bsI(T:List (List PI)):List PI:=zWD T T.length
def bxI(T:List (List PI)):List (List Int):=uZ (λi=>pnI (zWD T i) (T.getD i []) (T.getD i []).length) T.length
def ppI(T:List (List PI))(h:Int):List I3:=uZ (λi=>(((bsI T).getD (i%(bsI T).length) (0,0)).1,((bsI T).getD (i%(bsI T).length) (0,0)).2,if((bsI T).length:Int)<=(i:Int) then h else 0)) (2*(bsI T).length)
def xaI(T:List (List PI))(i k:Nat):Int:=((bxI T).getD i []).getD k 0
def xbI(T:List (List PI))(i k:Nat):Int:=((bxI T).getD i []).getD ((k+1)%((bxI T).getD i []).length) 0
def snI(T:List (List PI))(h:Int)(i k:Nat):I3:=((g3 (ppI T h) (xbI T i k).toNat).2.1-(g3 (ppI T h) (xaI T i k).toNat).2.1,-((g3 (ppI T h) (xbI T i k).toNat).1-(g3 (ppI T h) (xaI T i k).toNat).1),0)
def sdI(T:List (List PI))(h:Int)(i k:Nat):FI:=(snI T h i k,dt3 (snI T h i k) (g3 (ppI T h) (xaI T i k).toNat),[[xaI T i k,xbI T i k,xbI T i k+((bsI T).length:Int),xaI T i k+((bsI T).length:Int)]],[115,48+i,46,48+k])
def prI(T:List (List PI))(h:Int):SI:=(ppI T h,tS (λi=>uZ (λk=>sdI T h i k) ((bxI T).getD i []).length) (bxI T).length++
 [((0,0,-1),0,uZ (λi=>zCH ((bxI T).getD i []) ((bxI T).getD i []).length) (bxI T).length,[98,111,116,116,111,109]),
  ((0,0,1),h,uZ (λi=>uZ (λk=>((bxI T).getD i []).getD k 0+((bsI T).length:Int)) ((bxI T).getD i []).length) (bxI T).length,[116,111,112])])
def sb3(u w:I3):I3:=(u.1-w.1,u.2.1-w.2.1,u.2.2-w.2.2)
def cx3(a b:I3):I3:=(a.2.1*b.2.2-a.2.2*b.2.1,a.2.2*b.1-a.1*b.2.2,a.1*b.2.1-a.2.1*b.1)
def th3(a b c:I3):I3:=cx3 (sb3 b a) (sb3 c a)
def ng3(n:I3):I3:=(-n.1,-n.2.1,-n.2.2)
def tsI(a b c:I3)(i k:Int)(nm:List Nat):FI:=(th3 a b c,dt3 (th3 a b c) a,[[i,k,3]],nm)
def pyI(A B C T:I3):SI:=([A,B,C,T],[tsI A B T 0 1 [115,48],tsI B C T 1 2 [115,49],tsI C A T 2 0 [115,50],(ng3 (th3 A B C),-dt3 (th3 A B C) A,[[2,1,0]],[98,97,115,101])])
def teI(p c q e f g:Nat):SI:=pyI (0,0,0) (1+p,0,0) (c,1+q,0) (e,f,1+g)
def bxJ(p q r:Int):SI:=([(0,0,0),(0,0,r),(0,q,0),(0,q,r),(p,0,0),(p,0,r),(p,q,0),(p,q,r)],[((-1,0,0),0,[[0,1,3,2]],[120,48]),((1,0,0),p,[[4,6,7,5]],[120,49]),((0,-1,0),0,[[0,4,5,1]],[121,48]),((0,1,0),q,[[2,3,7,6]],[121,49]),((0,0,-1),0,[[0,2,6,4]],[122,48]),((0,0,1),r,[[1,5,7,3]],[122,49])])
def baT:List (List (List PI)):=[[[(0,0),(2,0),(2,1),(1,1),(1,2),(0,2)]],[[(0,0),(3,0),(3,3),(0,3)],[(1,1),(1,2),(2,2),(2,1)]],[[(0,0),(3,0),(3,3),(0,3)],[(1,1),(0,0),(1,2)]],[[(0,0),(1,0),(2,0),(2,2),(0,1)]]]
def trT(a b c:Nat):List (List PI):=[[(0,0),((1+a:Nat),0),((b:Nat),(1+c:Nat))]]
def zCP(I:SI):Bool:=chI I&&nmB I&&chI (nrI I)
def teB(p c q:Nat):Bool:=(List.range 3).all λe=>(List.range 3).all λf=>(List.range 3).all λg=>zCP (teI p c q e f g)
def bdV(v:I3):Prop:=(-1000<=v.1/\v.1<=1000)/\(-1000<=v.2.1/\v.2.1<=1000)/\(-1000<=v.2.2/\v.2.2<=1000)
theorem zSD{u:I3}:bd3 u=true↔bdV u:=by unfold bd3 bdV;rw[decide_eq_true_iff]
theorem zEO{a n:Int}(ha:0<a/\a<=1000)(hn:-9223372036854775808<=n)(hn':n<9223372036854775808):lq (1/(a:Rat)*(n:Rat))<=2:=by
 have h:=dS hn hn' (d:=a) zot zot;have e:jU n a=1/(a:Rat)*(n:Rat):=by
  unfold jU;rw[Rat.div_def,Rat.div_def,Rat.one_mul,Rat.mul_comm]
 rw[<-e];exact h
theorem zPR{a b:Int}(ha:-1000<=a/\a<=1000)(hb:-1000<=b/\b<=1000):-1000000<=a*b/\a*b<=1000000:=by
 have h1:=Int.mul_nonneg (show 0<=1000-a by omega) (show 0<=1000-b by omega);have h2:=Int.mul_nonneg (show 0<=1000+a by omega) (show 0<=1000+b by omega);have h3:=Int.mul_nonneg (show 0<=1000-a by omega) (show 0<=1000+b by omega);have C:=Int.mul_nonneg (show 0<=1000+a by omega) (show 0<=1000-b by omega);have J:(1000-a)*(1000-b)=1000000-1000*a-1000*b+a*b:=by grind
 have H:(1000+a)*(1000+b)=1000000+1000*a+1000*b+a*b:=by grind
 have G:(1000-a)*(1000+b)=1000000-1000*a+1000*b-a*b:=by grind
 have D:(1000+a)*(1000-b)=1000000+1000*a-1000*b-a*b:=by grind
 omega
theorem yLB{n u:I3}(hn:bdV n)(hu:bdV u):-3000000<=dt3 n u/\dt3 n u<=3000000:=by
 have h1:=zPR hn.1 hu.1;have h2:=zPR hn.2.1 hu.2.1;have h3:=zPR hn.2.2 hu.2.2;unfold dt3;omega
theorem zVG{v:I3}{I:SI}{s:Sd}(h:aJ v I s)(hb:chI I=true)(hv:bdV v):smS 2 2 2 1 s:=by
 refine⟨λp H=>?_,λf O=>?_,λe J=>?_⟩
 · rw[h.1] at H
   obtain⟨u,M,rfl⟩:=List.mem_map.1 H;have h1:bdV u:=zSD.1 (zob.1 (by unfold chI at hb;exact(Bool.and_eq_true _ _▸hb).1) u M);unfold bdV at h1 hv;exact⟨sL _ zot zot,sL _ zot zot,sL _ zot zot⟩
 · obtain⟨i,hi,rfl⟩:=zAB zA O
   have C:i<I.2.length:=by rw[<-h.2.2.1];exact hi
   obtain⟨a,G,e⟩:=(h.2.2.2 i C).1;have D:=mJ h hb C;unfold faB at D;have h1:=(Bool.and_eq_true _ _▸(Bool.and_eq_true _ _▸D).1);have h2:bdV (I.2.getD i fi0).1:=zSD.1 h1.1;have h3:-1000<=(I.2.getD i fi0).2.1/\(I.2.getD i fi0).2.1<=1000:=of_decide_eq_true h1.2;have U:=yLB h2 hv;rw[e];unfold bdV at h2;exact⟨⟨zEO G zot zot,zEO G zot zot,zEO G zot zot⟩,zEO G zot zot⟩
 · rw[h.2.1] at J;cases J
theorem yGX(pl:Pl):scW (1/((1:Int):Rat)) pl=pl:=by
 have e:1/((1:Int):Rat)=1:=by decide +kernel
 rw[e];unfold scW;simp only[Rat.one_mul]
theorem nC{v:I3}{f:FI}{x:Fc}(h1:x.1=cPl v f)(h2:x.2=f.2.2):zKN v f x:=⟨⟨1,by decide,by rw[yGX];exact h1⟩,h2⟩
theorem yJA{x y z p q r:Int}(hp:0<p)(hq:0<q)(hr:0<r):aJ (x,y,z) (bxJ p q r) (bkS (pI x y z) (pI (x+p) (y+q) (z+r))):=by
 have g:∀a b:Int,0<b->(a:Rat)<((a+b:Int):Rat):=λa b h=>Rat.intCast_lt_intCast.2 zot;have C:eV (pI x y z) (pI (x+p) (y+q) (z+r)):=by
  intro u D;rw[zAI];refine Rat.not_le.2 ?_
  rcases zIA D with rfl|rfl|rfl
  · exact g x p hp
  · exact g y q hq
  · exact g z r hr
 rw[zSC C];refine⟨?_,I,I,λf H=>?_⟩
 · show uB1.map (cU _ _)=_
   simp[uB1,cU,cB,pI,cP,bxJ]
 · have G:f<6:=H
   have e0:((0:Int):Rat)=0:=I;have J:((1:Int):Rat)=1:=I;have:f=0\/f=1\/f=2\/f=3\/f=4\/f=5:=by omega
   rcases this with rfl|rfl|rfl|rfl|rfl|rfl<;>
    (refine nC (Prod.ext ?_ ?_) I<;>simp[bxS,fB3,plD,dN,bxJ,cPl,nr3,dt3,pI,T3.set,T3.at,e0,J,Rat.intCast_add,Rat.intCast_neg]<;>grind)
theorem zNI{α:Type}(d:α)(l k:List α)(i:Nat):(l++k).getD i d=if i<l.length then l.getD i d else k.getD (i-l.length) d:=by
 rw[zoa,List.getElem?_append]
 split<;>rw[zoa]
def zHS(v:I3)(B:List FI)(A:List Fc):Prop:=A.length=B.length/\∀f,f<B.length->zKN v (B.getD f fi0) (A.getD f zA)
section
variable {v:I3}
theorem zKO{B B':List FI}{A A':List Fc}(h:zHS v B A)(h':zHS v B' A'):zHS v (B++B') (A++A'):=by
 refine⟨by rw[lAz,lAz,h.1,h'.1],λf C=>?_⟩;rw[lAz] at C;rw[zNI,zNI,h.1]
 by_cases e:f<B.length
 · rw[if_pos e,if_pos e];exact h.2 f e
 · rw[if_neg e,if_neg e];exact h'.2 _ zot
theorem zXU:zHS v [] []:=⟨rfl,λf hf=>absurd hf (Nat.not_lt_zero _)⟩
theorem zPX{b:FI}{a:Fc}(h:zKN v b a):zHS v [b] [a]:=⟨rfl,λf hf=>by
 have:f=0:=by have:f<1:=hf;omega
 subst this;exact h⟩
theorem zXV{g:Nat->FI}{f:Nat->Fc}:∀n,(∀i,i<n->zKN v (g i) (f i))->zHS v (uZ g n) (uZ f n)
  |0,_=>zXU
  |n+1,h=>zKO (zXV n λi hi=>h i zot) (zPX (h n zot))
theorem zRD{g:Nat->List FI}{f:Nat->List Fc}:∀n,(∀i,i<n->zHS v (g i) (f i))->zHS v (tS g n) (tS f n)
  |0,_=>zXU
  |n+1,h=>zKO (zRD n λi hi=>h i zot) (h n zot)
end
def c2(x y:Int)(u:PI):Pt:=T3.mk ((x+u.1:Int):Rat) ((y+u.2:Int):Rat) (0:Rat)
def baL(x y:Int)(T:List (List PI)):List (List Pt):=T.map λs=>s.map (c2 x y)
section
variable {x y:Int}
theorem zU6(u w:PI):zJP (c2 x y u) (c2 x y w)↔u=w:=by
 unfold zJP c2;rw[Rat.intCast_inj,Rat.intCast_inj];constructor
 · rintro⟨h1,h2⟩;exact Prod.ext zot zot
 · rintro rfl;exact⟨I,I⟩
theorem zHB(B:List PI){j:Nat}(h:j<B.length):(B.map (c2 x y)).getD j zT=c2 x y (B.getD j (0,0)):=gQ _ _ _ h
theorem zYY(B:List PI)(p:PI):∀j,j<=B.length->y4 (B.map (c2 x y)) (c2 x y p) j=fdI B p j
  |0,_=>rfl
  |j+1,h=>by
   unfold y4 fdI;rw[zYY B p j zot,zHB B zot]
   by_cases e:B.getD j (0,0)=p
   · rw[if_pos e,if_pos ((zU6 _ _).2 e)]
   · rw[if_neg e,if_neg λe'=>e ((zU6 _ _).1 e')]
theorem yAB(B:List PI)(p:PI):adB (B.map (c2 x y)) (c2 x y p)=(adI B p).map (c2 x y)/\adN (B.map (c2 x y)) (c2 x y p)=anI B p:=by
 unfold adB adN adI anI fdZ;rw[List.length_map,zYY B p _ (Nat.le_refl _)];constructor
 · split
   · rw[List.map_append];rfl
   · rfl
 · rfl
theorem zOX(B s:List PI):∀k,k<=s.length->plB (B.map (c2 x y)) (s.map (c2 x y)) k=(plI B s k).map (c2 x y)
  |0,_=>rfl
  |k+1,h=>by
   unfold plB plI;rw[zOX B s k zot,zHB s zot,(yAB _ _).1]
theorem yGS(B s:List PI):plN (B.map (c2 x y)) (s.map (c2 x y)) s.length=pnI B s s.length:=bV _ λk hk=>by
 rw[zOX B s k zot,zHB s hk,(yAB _ _).2]
theorem zHF(T:List (List PI)){i:Nat}(h:i<T.length):(baL x y T).getD i []=(T.getD i []).map (c2 x y):=gQ _ _ _ h
theorem zOS(T:List (List PI)):∀i,i<=T.length->ptB (baL x y T) i=(zWD T i).map (c2 x y)
  |0,_=>rfl
  |i+1,h=>by
   unfold ptB zWD;rw[zOS T i zot,zHF T zot,List.length_map];exact zOX _ _ _ (Nat.le_refl _)
theorem zDF(T:List (List PI)):(baL x y T).length=T.length:=List.length_map _
theorem zZJ(T:List (List PI)):bsZ (baL x y T)=(bsI T).map (c2 x y):=by
 unfold bsZ bsI;rw[zDF];exact zOS T _ (Nat.le_refl _)
theorem eF(T:List (List PI)):bxZ (baL x y T)=bxI T:=by
 unfold bxZ bxI;rw[zDF];exact bV _ λi hi=>by rw[zOS T i zot,zHF T hi,List.length_map];exact yGS _ _
theorem dZ(T:List (List PI)):(bsZ (baL x y T)).length=(bsI T).length:=by rw[zZJ,List.length_map]
section
variable {z h:Int}{T:List (List PI)}
theorem zWH:ppZ (baL x y T) (z:Rat) ((z+h:Int):Rat)=(ppI T h).map (cP (x,y,z)):=by
 have C:(ppI T h).length=2*(bsI T).length:=yY _ _;refine mN zT (by rw[zOV,dZ,List.length_map,C]) λi hi=>?_;rw[zOV,dZ] at hi;rw[gQ (cP (x,y,z)) z3 zT zot];unfold ppZ zS3 ppI;rw[dZ,uT _ _ hi,uT _ _ hi,zZJ,zHB _ (Nat.mod_lt _ zot)];unfold c2 cP;refine congrArg _ ?_
 by_cases e:((bsI T).length:Int)<=(i:Int)
 · rw[if_pos e,if_pos e]
 · rw[if_neg e,if_neg e]
   show(z:Rat)=((z+0:Int):Rat)
   rw[Int.add_zero]
theorem zOW{k:Int}(h0:0<=k)(h1:k<2*((bsI T).length:Int)):(ppZ (baL x y T) (z:Rat) ((z+h:Int):Rat)).getD k.toNat zT=cP (x,y,z) (g3 (ppI T h) k.toNat):=by
 rw[zWH];have C:(ppI T h).length=2*(bsI T).length:=yY _ _;exact gQ _ _ _ zot
theorem zLE{i k:Nat}(hi:i<T.length)(hk:k<((bxI T).getD i []).length):0<=xaI T i k/\xaI T i k<(bsI T).length:=by
 have:=zN1 (L:=baL 0 0 T) (i:=i) (k:=k) (by rw[zDF];exact hi) (by rw[eF];exact hk);rw[eF,dZ] at this;exact this
theorem yGC{i k:Nat}(hi:i<T.length)(hk:k<((bxI T).getD i []).length)(h10:i<10/\k<10):zKN (x,y,z) (sdI T h i k) (sdF (baL x y T) (z:Rat) ((z+h:Int):Rat) i k):=by
 have C:sdA (baL x y T) i k=xaI T i k:=by unfold sdA xaI;rw[eF]
 have G:sdB (baL x y T) i k=xbI T i k:=by unfold sdB xbI;rw[eF]
 have D:=zLE hi hk;have J:0<=xbI T i k/\xbI T i k<(bsI T).length:=zLE hi (Nat.mod_lt _ zot);have M:nmS i k=[115,48+i,46,48+k]:=by
  unfold nmS;rw[mW h10.1,mW h10.2];rfl
 have H:sdN (baL x y T) (z:Rat) ((z+h:Int):Rat) i k=nr3 (snI T h i k):=by
  unfold sdN;rw[C,G,zOW D.1 zot,zOW J.1 zot];unfold nr3 snI cP;simp only[Rat.intCast_sub,Rat.intCast_add,Rat.intCast_neg];have e0:((0:Int):Rat)=0:=I;rw[e0]
  congr 1<;>grind
 refine nC ?_ ?_
 · unfold sdF cPl
   refine Prod.ext H ?_
   show xH (sdN _ _ _ i k) _=_
   rw[H,C,zOW D.1 zot]
   show xH (nr3 (snI T h i k)) (cP (x,y,z) (g3 (ppI T h) (xaI T i k).toNat))=((dt3 (snI T h i k) (g3 (ppI T h) (xaI T i k).toNat)+dt3 (snI T h i k) (x,y,z):Int):Rat)
   generalize snI T h i k=n;generalize g3 (ppI T h) (xaI T i k).toNat=u;unfold xH nr3 cP dt3;simp only[Rat.intCast_add,Rat.intCast_mul];grind
 · show([[sdA _ i k,sdB _ i k,sdB _ i k+_,sdA _ i k+_]],nmS i k)=_
   rw[C,G,M,dZ];rfl
theorem zWF(h10:T.length<=10/\∀i,i<T.length->(T.getD i []).length<=10):aJ (x,y,z) (prI T h) (prR (baL x y T) (z:Rat) ((z+h:Int):Rat)):=by
 have C:(bxI T).length=T.length:=yY _ _;have D:∀i,i<T.length->((bxI T).getD i []).length=(T.getD i []).length:=λi hi=>by
  unfold bxI;rw[uT _ _ hi];exact yY _ _
 have G:zHS (x,y,z) (prI T h).2 (prR (baL x y T) (z:Rat) ((z+h:Int):Rat)).2.1:=by
  show zHS _ (tS _ _++[_,_]) (zLV _ _ _ _++[_,_])
  refine zKO ?_ (zKO (B:=[_]) (A:=[_]) (zPX ?_) (zPX ?_))
  · unfold zLV sfX
    rw[eF];refine zRD _ λi hi=>zXV _ λk H=>?_;rw[C] at hi;have:=D i hi;have:=h10.2 i hi;exact yGC hi H ⟨by omega,by omega⟩
  · refine nC ?_ ?_
    · unfold btF cPl nr3 dt3
      refine Prod.ext ?_ ?_
      · show T3.mk (0:Rat) (0:Rat) (-((1:Int):Rat))=T3.mk ((0:Int):Rat) ((0:Int):Rat) ((-1:Int):Rat)
        rw[Rat.intCast_neg];rfl
      · show -(z:Rat)=((0+(0*x+0*y+-1*z):Int):Rat)
        rw[show 0+(0*x+0*y+-1*z)= -z by omega,Rat.intCast_neg]
    · show(zZP (baL x y T) (bxZ (baL x y T)).length,_)=_
      unfold zZP;rw[eF]
  · refine nC ?_ ?_
    · unfold tpF cPl nr3 dt3
      refine Prod.ext ?_ ?_
      · show T3.mk (0:Rat) (0:Rat) ((1:Int):Rat)=T3.mk ((0:Int):Rat) ((0:Int):Rat) ((1:Int):Rat)
        rfl
      · show((z+h:Int):Rat)=((h+(0*x+0*y+1*z):Int):Rat)
        rw[show h+(0*x+0*y+1*z)=z+h by omega]
    · show(zU3 (baL x y T) (bxZ (baL x y T)).length,_)=_
      unfold zU3 tpL;rw[eF,dZ]
 exact⟨zWH,I,G.1,G.2⟩
theorem yBQ(h10:(1<=T.length/\T.length<=10)/\∀i,i<T.length->(T.getD i []).length<=10)(hn:nsI T=true)(hh:0<h)(hc:chI (prI T h)=true):(∀s,s∈baL x y T->cQ s)/\prE (baL x y T) (z:Rat) ((z+h:Int):Rat)=0/\okS (prR (baL x y T) (z:Rat) ((z+h:Int):Rat)):=by
 have hly:yHK (x:Rat) 1 (y:Rat) 1 T (baL x y T):=by
  refine⟨zDF T,λm hm=>?_⟩;rw[show gl (baL x y T) m=(T.getD m []).map (c2 x y) from zHF T hm];refine⟨List.length_map _,λk hk=>?_⟩;rw[show gp ((T.getD m []).map (c2 x y)) k=c2 x y ((T.getD m []).getD k (0,0)) from zHB _ hk];unfold pr ag gI c2;rw[Rat.one_mul,Rat.one_mul,<-Rat.intCast_add,<-Rat.intCast_add];rfl
 obtain⟨n1,n2,n3⟩:=zMX zow zow hly hn;have hm:=zWF (x:=x) (y:=y) (z:=z) (h:=h) ⟨h10.1.2,h10.2⟩;refine⟨n3,(yKM n1 n2 ?_ ?_).1,(zBM hm hc).2⟩
 · rw[zAI]
   exact Rat.not_le.2 (Rat.intCast_lt_intCast.2 zot)
 · have e1:eU (baL x y T) (baL x y T).length<=64*(baL x y T).length:=zY5 (λm hm=>by
    rw[zDF] at hm;rw[zHF T hm,List.length_map];have:=h10.2 m hm;omega) _ (Nat.le_refl _)
   have e2:=zJ0 (baL x y T) (baL x y T).length;have e3:(bsZ (baL x y T)).length=(ptB (baL x y T) (baL x y T).length).length:=I;have e4:eU (baL x y T) (baL x y T).length<=100:=by
    have g:∀i,i<=T.length->eU (baL x y T) i<=10*i:=λi=>by
     induction i with
     |zero=>exactλ_=>Nat.le_refl _
     |succ i ih=>
      intro hi;have:=ih zot;have h2:=h10.2 i zot
      show eU (baL x y T) i+((baL x y T).getD i []).length<=_
      rw[zHF T zot,List.length_map];omega
    have:=g _ (Nat.le_refl _);rw[zDF];omega
   unfold prB;omega
end
end
theorem yLN:(baT.all λT=>nsI T&&zCP (prI T 1)&&zCP (prI T 2))=true:=by decide +kernel
theorem yJU:((List.range 3).all λa=>(List.range 2).all λb=>(List.range 2).all λc=>nsI (trT a b c)&&zCP (prI (trT a b c) 1)&&zCP (prI (trT a b c) 2))=true:=by decide +kernel
theorem yI9:((List.range 2).all λp=>(List.range 2).all λq=>(List.range 2).all λr=>chI (bxJ (1+p:Nat) (1+q:Nat) (1+r:Nat)))=true:=by decide +kernel
theorem yFO:teB 0 0 0=true:=by decide +kernel
theorem yFN:teB 0 0 1=true:=by decide +kernel
theorem yFM:teB 0 0 2=true:=by decide +kernel
theorem yFL:teB 0 1 0=true:=by decide +kernel
theorem yFK:teB 0 1 1=true:=by decide +kernel
theorem yFJ:teB 0 1 2=true:=by decide +kernel
theorem yFI:teB 1 0 0=true:=by decide +kernel
theorem yFH:teB 1 0 1=true:=by decide +kernel
theorem yFG:teB 1 0 2=true:=by decide +kernel
theorem yFF:teB 1 1 0=true:=by decide +kernel
theorem yFE:teB 1 1 1=true:=by decide +kernel
theorem yFD:teB 1 1 2=true:=by decide +kernel
theorem yFC:teB 2 0 0=true:=by decide +kernel
theorem yFB:teB 2 0 1=true:=by decide +kernel
theorem yFA:teB 2 0 2=true:=by decide +kernel
theorem yE9:teB 2 1 0=true:=by decide +kernel
theorem yE8:teB 2 1 1=true:=by decide +kernel
theorem yE7:teB 2 1 2=true:=by decide +kernel
theorem yJX{p c q e f g:Nat}(hp:p<3)(hc:c<2)(hq:q<3)(he:e<3)(hf:f<3)(hg:g<3):zCP (teI p c q e f g)=true:=by
 have h:teB p c q=true:=by
  have G:p=0\/p=1\/p=2:=by omega
  have D:c=0\/c=1:=by omega
  have C:q=0\/q=1\/q=2:=by omega
  rcases G with rfl|rfl|rfl<;>rcases D with rfl|rfl<;>rcases C with rfl|rfl|rfl
  · exact yFO
  · exact yFN
  · exact yFM
  · exact yFL
  · exact yFK
  · exact yFJ
  · exact yFI
  · exact yFH
  · exact yFG
  · exact yFF
  · exact yFE
  · exact yFD
  · exact yFC
  · exact yFB
  · exact yFA
  · exact yE9
  · exact yE8
  · exact yE7
 exact zob.1 (zob.1 (zob.1 h e (zog.2 he)) f (zog.2 hf)) g (zog.2 hg)
theorem yI8{p q r:Nat}(hp:p<2)(hq:q<2)(hr:r<2):chI (bxJ (1+p:Nat) (1+q:Nat) (1+r:Nat))=true:=
 zob.1 (zob.1 (zob.1 yI9 p (zog.2 hp)) q (zog.2 hq)) r (zog.2 hr)
end Bk
