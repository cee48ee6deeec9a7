/- Texts that the proof needs, part 7. -/
import Derived.Test.YtpkaegemlpaenaaGreatKD6
import Derived.Scope
set_option linter.unusedVariables false
set_option linter.unusedSimpArgs false
noncomputable section
set_option maxRecDepth 10000
set_option maxHeartbeats 1000000
namespace Bk
open Classical
variable {a b p d:Pt}
theorem yHE:∀xs:List Rat,∃M:Rat,0<M/\∀x,x∈xs-> -M<x/\x<M
  |[]=>⟨1,by decide,λx hx=>by cases hx⟩
  |y::xs=>by
   obtain⟨M,hM,h⟩:=yHE xs
   by_cases hy:0<=y
   · refine⟨M+y,by grind,λx hx=>?_⟩
     rcases zfu.1 hx with rfl|hx
     · exact⟨by grind,by grind⟩
     · have:=h x hx;exact⟨by grind,by grind⟩
   · refine⟨M-y,by grind,λx hx=>?_⟩
     rcases zfu.1 hx with rfl|hx
     · exact⟨by grind,by grind⟩
     · have:=h x hx;exact⟨by grind,by grind⟩
theorem zFD{x y:Rat}(h:y≠0):x/y*y=x:=by grind
theorem yCY{u:Nat}(hab:a.at u<b.at u)(hs:d.at u=0->sI a b p u):∃(g:Rat->Rat×Rat) (xs:List Rat),∀M,0<M->(∀x,x∈xs-> -M<x/\x<M)->Ax a b p d M u (g M).1 (g M).2:=by
 by_cases h0:d.at u=0
 · exact⟨λM=>(-M,M),[],λM C _=>yCX C h0 (hs h0)⟩
 · by_cases hp:0<d.at u
   · exact⟨λ_=>((a.at u-p.at u)/d.at u,(b.at u-p.at u)/d.at u),[(a.at u-p.at u)/d.at u,(b.at u-p.at u)/d.at u],λM C hx=>yMJ hab hp (zFD h0) (zFD h0) ⟨hx _ zo2,hx _ zo2⟩⟩
   · exact⟨λ_=>((b.at u-p.at u)/d.at u,(a.at u-p.at u)/d.at u),[(b.at u-p.at u)/d.at u,(a.at u-p.at u)/d.at u],λM C hx=>yMK hab zo0 (zFD h0) (zFD h0) ⟨hx _ zo2,hx _ zo2⟩⟩
theorem yOE{t l2 h2 l3 h3:Rat}:exI t l2 h2 l3 h3=exI t l3 h3 l2 h2:=propext ⟨λe=>⟨e.1,e.2.2,e.2.1⟩,λe=>⟨e.1,e.2.2,e.2.1⟩⟩
theorem yOF{t l2 h2 l3 h3:Rat}:enI t l2 h2 l3 h3=enI t l3 h3 l2 h2:=propext ⟨λe=>⟨e.1,e.2.2,e.2.1⟩,λe=>⟨e.1,e.2.2,e.2.1⟩⟩
theorem yGW{t l2 h2 l3 h3:Rat}(k:dB t l2 h2 l3 h3):dB t l3 h3 l2 h2:=λe c1 c2=>⟨(k e c2 c1).2,(k e c2 c1).1⟩
theorem yNE{d:Pt}(h:d≠zT):d.at 0≠0\/d.at 1≠0\/d.at 2≠0:=by
 by_cases h0:d.at 0=0
 · by_cases h1:d.at 1=0
   · by_cases h2:d.at 2=0
     · exact absurd (kJ.2 ⟨h0,h1,h2⟩) h
     · exact .inr (.inr h2)
   · exact .inr (.inl h1)
 · exact .inl h0
theorem yF1(hab:∀i,a.at i<b.at i){v:Nat}(hv:v<3)(h0:d.at v=0)(hs:¬sI a b p v){u s:Nat}(hu:u<3)(hs2:s<2):crE (bxS a b) p d (2*u+s)=0:=by
 unfold crE
 by_cases hk:skP (bxS a b) p d (2*u+s)
 · exact zau hk
 · rw[zae hk]
   refine zae λe=>?_;have hw:=(yHS hab hu hs2 _).2.1 e;have D:∀t,(pW p d t).at v=p.at v:=λt=>by rw[zAC,h0];grind
   have C:∀t,¬sI a b (pW p d t) v:=λt h=>hs (by unfold sI at *;rw[D] at h;exact h)
   by_cases huv:u=v
   · refine hk ?_
     unfold skP;rw[aJ,yLV zot,show(2*u+s)/2=v by omega,h0]
     split<;>grind
   · have:v=(u+1)%3\/v=(u+2)%3:=by omega
     rcases this with e1|e1
     · exact C _ (e1▸hw.1)
     · exact C _ (e1▸hw.2)
theorem yCI(hab:∀i,a.at i<b.at i)(hd:d≠zT)(hon:(∀u,u<3->kI a b p u)->∀u,u<3->sI a b p u)(hb:∀f,f<6->¬skP (bxS a b) p d f->whF (bxS a b) f (pW p d (hnF (bxS a b) p f/cnF (bxS a b) d f))≠0):
 crS (bxS a b) p d 6=bD (∀u,u<3->sI a b p u):=by
 have e6:crS (bxS a b) p d 6=(crE (bxS a b) p d (2*0)+crE (bxS a b) p d (2*0+1))+(crE (bxS a b) p d (2*1)+crE (bxS a b) p d (2*1+1))+(crE (bxS a b) p d (2*2)+crE (bxS a b) p d (2*2+1)):=by
  show 0+crE (bxS a b) p d 0+crE (bxS a b) p d 1+crE (bxS a b) p d 2+crE (bxS a b) p d 3+crE (bxS a b) p d 4+crE (bxS a b) p d 5=_
  simp only[Nat.reduceMul,Nat.reduceAdd];omega
 by_cases hall:∀u,u<3->d.at u=0->sI a b p u
 · obtain⟨g0,x0,A0⟩:=yCY (p:=p) (d:=d) (hab 0) (hall 0 zow)
   obtain⟨g1,x1,A1⟩:=yCY (p:=p) (d:=d) (hab 1) (hall 1 zow);obtain⟨g2,x2,A2⟩:=yCY (p:=p) (d:=d) (hab 2) (hall 2 zow);obtain⟨M,D,hx⟩:=yHE (x0++(x1++x2));have O:=A0 M D λx h=>hx x (by simp[h]);have J:=A1 M D λx h=>hx x (by simp[h]);have H:=A2 M D λx h=>hx x (by simp[h])
   clear A0 A1 A2 hx
   generalize (g0 M).1=l1 at *;generalize (g0 M).2=h1 at *;generalize (g1 M).1=l2 at *;generalize (g1 M).2=h2 at *;generalize (g2 M).1=l3 at *;generalize (g2 M).2=h3 at *;have nz:=yNE hd;obtain⟨s0,k0,m0⟩:=zH8 hab D (u:=0) zow O J H (λe=>nz.elim (λk=>absurd e k) id) hb;obtain⟨s1,k1,m1⟩:=zH8 hab D (u:=1) zow J H O (λe=>nz.elim (λk=>.inr k) λk=>k.elim (λk=>absurd e k) λk=>.inl k) hb;obtain⟨s2,k2,m2⟩:=zH8 hab D (u:=2) zow H O J (λe=>nz.elim (λk=>.inl k) λk=>k.elim (λk=>.inr k) λk=>absurd e k) hb;rw[e6,s0,s1,s2,yOE (t:=h2),yOF (t:=l2)];have r0:∀u,(pW p d 0).at u=p.at u:=λu=>by rw[zAC];grind
   have ab:-M<0:=by grind
   have C:∀{u l h},Ax a b p d M u l h->(sI a b p u↔l<0/\0<h):=λ{u l h} A=>by
    have:=A.s 0 ab D;unfold sI at *;rw[r0] at this;exact this
   have kv:∀{u l h},Ax a b p d M u l h->(kI a b p u↔l<=0/\0<=h):=λ{u l h} A=>by
    have:=A.k 0 ab D;unfold kI at *;rw[r0] at this;exact this
   have aa:=yKT O.lt J.lt H.lt k0 (yGW k1) k2 m0 (yGW m1) m2 λc0 c1 c2=>by
    have hs:=hon λu hu=>by
     have:u=0\/u=1\/u=2:=by omega
     rcases this with rfl|rfl|rfl
     · exact(kv O).2 c0
     · exact(kv J).2 c1
     · exact(kv H).2 c2
    exact⟨(C O).1 (hs 0 zow),(C J).1 (hs 1 zow),(C H).1 (hs 2 zow)⟩
   have Z:((l1<0/\0<h1)/\(l2<0/\0<h2)/\l3<0/\0<h3)=(∀u,u<3->sI a b p u):=propext ⟨λe u hu=>by
    have:u=0\/u=1\/u=2:=by omega
    rcases this with rfl|rfl|rfl
    · exact(C O).2 e.1
    · exact(C J).2 e.2.1
    · exact(C H).2 e.2.2,λe=>⟨(C O).1 (e 0 zow),(C J).1 (e 1 zow),(C H).1 (e 2 zow)⟩⟩
   rw[Z] at aa;omega
 · obtain⟨v,hv⟩:=Classical.not_forall.1 hall
   obtain⟨U,hv⟩:=y0u.1 hv;obtain⟨h0,hs⟩:=y0u.1 hv;have z:∀u s,u<3->s<2->crE (bxS a b) p d (2*u+s)=0:=λu s hu h2=>yF1 hab U h0 hs hu h2;rw[e6,z 0 1 zow zow,z 1 1 zow zow,z 2 1 zow zow,show crE (bxS a b) p d (2*0)=0 from z 0 0 zow zow,show crE (bxS a b) p d (2*1)=0 from z 1 0 zow zow,show crE (bxS a b) p d (2*2)=0 from z 2 0 zow zow,kP λe=>hs (e v U)]
   rfl
def onP(s:Sd)(p:Pt)(f:Nat):Prop:=sdZ (s.2.1.getD f zA).1 p=0/\0<=whF s f p
def onB(s:Sd)(p:Pt):Prop:=∃f,f<s.2.1.length/\onP s p f
def crP(s:Sd)(p d:Pt):Nat->Int×Int
  |0=>(0,0)
  |n+1=>if skP s p d n then crP s p d n else if whF s n (pW p d (hnF s p n/cnF s d n))=1 then(if 0<cnF s d n then((crP s p d n).1+1,(crP s p d n).2) else((crP s p d n).1,(crP s p d n).2+1)) else crP s p d n
theorem zMI(s:Sd)(p d:Pt):∀n,(crP s p d n).1-(crP s p d n).2=crS s p d n
  |0=>rfl
  |n+1=>by
   have ih:=zMI s p d n;unfold crP crS crE
   split
   · omega
   · split
     · split
       · show(crP s p d n).1+1-(crP s p d n).2=_;omega
       · show(crP s p d n).1-((crP s p d n).2+1)=_;omega
     · omega
def iB(s:Sd)(p:Pt):Int:=if onB s p then 0 else crS s p (vK (zR1 s p)) s.2.1.length
def inZ(s:Sd)(p:Pt):Int:=if onB s p then 0 else if 0<iB s p then 1 else -1
theorem zSH(k:Int):vK k≠zT:=λe=>by
 have:=zbi T3.x e;have e1:((1:Int):Rat)=0:=this;exact absurd e1 zow
section
variable {a b:Pt}
theorem zXW(h:a.x<b.x/\a.y<b.y/\a.z<b.z):kC (bxS a b):=by
 have g:∀i,i<uB1.length->∀k,k<i->¬uB1.getD i u0=uB1.getD k u0:=by decide +kernel
 have C:wZ (uB1.map (cU a b),fB3 a b,[])=[[[0,1,3,2]],[[4,6,7,5]],[[0,4,5,1]],[[2,3,7,6]],[[0,2,6,4]],[[1,5,7,3]]]:=I;refine zMM h (λi k hk hi=>g i hi k hk) ⟨by decide,show 6<=256 by decide⟩ (λf hf=>⟨_,(w8 (a:=a) (b:=b) hf).1⟩) (λf hf=>?_) ?_ ?_
 · have D:f<6:=hf
   have:f=0\/f=1\/f=2\/f=3\/f=4\/f=5:=by omega
   rcases this with rfl|rfl|rfl|rfl|rfl|rfl
   · show vfP [[0,1,3,2]];decide +kernel
   · show vfP [[4,6,7,5]];decide +kernel
   · show vfP [[0,4,5,1]];decide +kernel
   · show vfP [[2,3,7,6]];decide +kernel
   · show vfP [[0,2,6,4]];decide +kernel
   · show vfP [[1,5,7,3]];decide +kernel
 · rw[C];decide +kernel
 · rw[C];decide +kernel
theorem zS3(h:∀i,a.at i<b.at i)(p:Pt):onB (bxS a b) p↔(∀u,u<3->kI a b p u)/\¬∀u,u<3->sI a b p u:=by
 have hk:∀v,sI a b p v->kI a b p v:=λv e=>⟨zee e.1,zee e.2⟩;have C:∀u s,u<3->s<2->(onP (bxS a b) p (2*u+s)↔(if s=1 then b.at u=p.at u else p.at u=a.at u)/\kI a b p ((u+1)%3)/\kI a b p ((u+2)%3)):=λu s M hs=>by
  obtain⟨w0,U⟩:=yHS h M hs p;have hw:0<=whF (bxS a b) (2*u+s) p↔kI a b p ((u+1)%3)/\kI a b p ((u+2)%3):=by
   constructor
   · intro e
     by_cases h0:whF (bxS a b) (2*u+s) p=0
     · exact(w0.1 h0).1
     · have h1:whF (bxS a b) (2*u+s) p=1:=by
        rw[yGH h zot] at e h0 ⊢
        split at e
        · rename_i hc;rw[zau hc] at h0;exact absurd I h0
        · split at e
          · rename_i hc hc2;rw[zae hc,zau hc2]
          · exact absurd e zow
       exact⟨hk _ (U.1 h1).1,hk _ (U.1 h1).2⟩
   · intro e
     by_cases hs2:sI a b p ((u+1)%3)/\sI a b p ((u+2)%3)
     · rw[U.2 hs2];decide
     · rw[w0.2 ⟨e,hs2⟩];exact Int.le_refl 0
  unfold onP;rw[hw];have Z:sdZ ((bxS a b).2.1.getD (2*u+s) zA).1 p=0↔hnF (bxS a b) p (2*u+s)=0:=by
   unfold sdZ hgt hnF;rw[uT];constructor<;>intro e<;>grind
  rw[Z,yK3 zot,show(2*u+s)/2=u by omega]
  by_cases e1:s=1
  · rw[zau zot,zau e1]
    constructor
    · rintro⟨e,k⟩;exact⟨by grind,k⟩
    · rintro⟨e,k⟩;exact⟨by grind,k⟩
  · rw[zae zot,zae e1]
    constructor
    · rintro⟨e,k⟩;exact⟨by grind,k⟩
    · rintro⟨e,k⟩;exact⟨by grind,k⟩
 have O:∀u,u<3->∀q:Nat->Prop,q u->q ((u+1)%3)->q ((u+2)%3)->∀v,v<3->q v:=λu M q h0 h1 h2 v hv=>by
  have:v=u\/v=(u+1)%3\/v=(u+2)%3:=by omega
  rcases this with rfl|rfl|rfl<;>assumption
 constructor
 · rintro⟨f,hf,ho⟩
   have ab:f<6:=hf;have e:f=2*(f/2)+f%2:=by omega
   rw[e] at ho;obtain⟨h1,h2,h3⟩:=(C (f/2) (f%2) zot zot).1 ho;have aa:=h (f/2);have H:kI a b p (f/2):=by
    unfold kI
    by_cases e1:f%2=1
    · rw[zau e1] at h1;exact⟨by grind,by grind⟩
    · rw[zae e1] at h1;exact⟨by grind,by grind⟩
   refine⟨O (f/2) zot _ H h2 h3,λhs=>?_⟩;have:=hs (f/2) zot;unfold sI at this
   by_cases e1:f%2=1
   · rw[zau e1] at h1;grind
   · rw[zae e1] at h1;grind
 · rintro⟨J,hn⟩
   obtain⟨u,M⟩:=Classical.not_forall.1 hn;obtain⟨D,M⟩:=y0u.1 M;have H:=J u D;unfold sI at M;unfold kI at H;have k1:=J ((u+1)%3) zot;have k2:=J ((u+2)%3) zot
   by_cases e:p.at u=a.at u
   · exact⟨2*u+0,show 2*u+0<6 by omega,(C u 0 D zow).2 ⟨by rw[zae zow];exact e,k1,k2⟩⟩
   · exact⟨2*u+1,show 2*u+1<6 by omega,(C u 1 D zow).2 ⟨by rw[zau I];grind,k1,k2⟩⟩
theorem zSE(h:∀i,a.at i<b.at i){p:Pt}(ho:¬onB (bxS a b) p):iB (bxS a b) p=bD (∀u,u<3->sI a b p u):=by
 have hs:=zXW (a:=a) (b:=b) ⟨h 0,h 1,h 2⟩;have hd:=oC (sG hs) p;unfold iB;rw[zae ho];refine yCI h (zSH _) (λhk=>zdi λe=>ho ((zS3 h p).2 ⟨hk,e⟩)) λf hf hk=>zRB (bR hs) hf hd.2.1 hk
theorem yN7(h:∀i,a.at i<b.at i)(p:Pt):inZ (bxS a b) p=if ∀u,u<3->sI a b p u then 1 else if ∀u,u<3->kI a b p u then 0 else -1:=by
 unfold inZ
 by_cases ho:onB (bxS a b) p
 · obtain⟨h1,h2⟩:=(zS3 h p).1 ho
   rw[zau ho,zae h2,zau h1]
 · rw[zae ho,zSE h ho]
   by_cases hs:∀u,u<3->sI a b p u
   · rw[lM hs,zau zow,zau hs]
   · rw[kP hs,zae zow,zae hs,zae λe=>ho ((zS3 h p).2 ⟨e,hs⟩)]
end
abbrev Fm:=Pl×List (List Pt)×Int×Int
abbrev Md:=List Fm×List (List Pt)
abbrev ed0:List Pt:=List.replicate 2 zT
abbrev fm0:Fm:=(zVG,([]:List (List Pt)),(0:Int),(0:Int))
def zA7(P:List Pt)(L:List (List Int)):Nat->List (List Pt):=wO λl=>zF7 P (L.getD l []) (L.getD l []).length
def fmF(s:Sd)(f:Fc):Fm:=(f.1,zA7 s.1 f.2.1 f.2.1.length,(↑(axI f.1.1):Int),(↑(axJ f.1.1):Int))
def edP(P:List Pt)(e:PIr):List Pt:=[ptI P e.1,ptI P e.2]
def fmT(s:Sd):Nat->List Fm:=wO λf=>fmF s (s.2.1.getD f zA)
def kG(s:Sd):Md:=(fmT s s.2.1.length,(sfE s s.2.1.length).map (edP s.1))
def whM(f:Fm)(p:Pt):Int:=whZ f.2.1 (pr p f.2.2.1.toNat f.2.2.2.toNat) f.2.2.1.toNat f.2.2.2.toNat
def onM(md:Md)(p:Pt)(f:Nat):Prop:=(sdZ (md.1.getD f fm0).1 p=0/\0<(md.1.getD f fm0).2.1.length)/\0<=whM (md.1.getD f fm0) p
def onA(md:Md)(p:Pt):Prop:=∃f,f<md.1.length/\onM md p f
def onJ(md:Md)(p:Pt):Nat:=if onA md p then dL λf=>f<md.1.length/\onM md p f else 0
def cnM(f:Fm)(d:Pt):Rat:=zM f.1.1 d
def hnM(f:Fm)(p:Pt):Rat:=f.1.2-zM f.1.1 p
def skM(f:Fm)(p d:Pt):Prop:=yX (cnM f d)*yX (hnM f p)<=0\/f.2.1.length=0
def wrM(f:Fm)(p d:Pt):Int:=whM f (pW p d (hnM f p/cnM f d))
def bdM(f:Fm)(p d:Pt):Prop:=¬skM f p d/\wrM f p d=0
def crM(md:Md)(p d:Pt):Nat->Int×Int
  |0=>(0,0)
  |n+1=>if skM (md.1.getD n fm0) p d then crM md p d n else if wrM (md.1.getD n fm0) p d=1 then(if 0<cnM (md.1.getD n fm0) d then((crM md p d n).1+1,(crM md p d n).2) else((crM md p d n).1,(crM md p d n).2+1)) else crM md p d n
def nbM(md:Md)(p d:Pt):Prop:=∀f,f<md.1.length->¬bdM (md.1.getD f fm0) p d
def clM(md:Md)(p v:Pt):Prop:=∀q,q<md.2.length->¬nG p ((md.2.getD q ed0).getD 0 zT) ((md.2.getD q ed0).getD 1 zT) v
def pY(md:Md)(p:Pt):Nat:=dL λk=>clM md p (vK k)
def yLA(f:Fm):Prop:=(0<=f.2.2.1/\f.2.2.1<3)/\(0<=f.2.2.2/\f.2.2.2<3)/\f.2.1.length<=1000/\∀x,x∈f.2.1->x.length<=1000
def zV6(md:Md):Prop:=md.1.length<=1000/\md.2.length<=2000000/\∀f,f<md.1.length->yLA (md.1.getD f fm0)
theorem zVL{md:Md}{p:Pt}{f:Nat}(hf:f<md.1.length)(h:onM md p f)(hl:∀u,u<f->¬onM md p u):onJ md p=f/\onA md p:=by
 have C:onA md p:=⟨f,hf,h⟩;obtain⟨h1,h2,h3⟩:=zAM (q:=λf=>f<md.1.length/\onM md p f) ⟨hf,h⟩;refine⟨?_,C⟩;unfold onJ;rw[zau C]
 rcases ztu (dL λf=>f<md.1.length/\onM md p f) f with h4|h4
 · exact absurd h2.2 (hl _ h4)
 · omega
theorem zZG{md:Md}{p:Pt}(h:∀f,f<md.1.length->¬onM md p f):onJ md p=0/\¬onA md p:=by
 have C:¬onA md p:=λ⟨f,hf,e⟩=>h f hf e;exact⟨zae C,C⟩
theorem zSR{q:Rat}:yX q=0↔q=0:=by
 refine⟨λe=>?_,aS⟩;rw[rT] at e
 split at e
 · assumption
 · split at e<;>exact absurd e zow
abbrev Ac:=Pt×Pt×Prop
def zHF(x:Ac)(d:Pt):Prop:=if x.2.2 then yC x.2.1 d=zT else zM x.1 d=0
def acF(p:Pt)(e:List Pt):Ac:=(yC (yZ (e.getD 0 zT) p) (yZ (e.getD 1 zT) p),if yC (yZ (e.getD 0 zT) p) (yZ (e.getD 1 zT) p)=zT then yZ (e.getD 1 zT) (e.getD 0 zT) else zT,yC (yZ (e.getD 0 zT) p) (yZ (e.getD 1 zT) p)=zT)
def acT(p:Pt)(E:List (List Pt)):Nat->List Ac:=wO λq=>acF p (E.getD q ed0)
theorem yFX(a b d:Pt):zM (yC a b) d=yH a b d:=by
 unfold yH zM yC;grind
theorem yBB(p d:Pt)(e:List Pt):zHF (acF p e) d↔nG p (e.getD 0 zT) (e.getD 1 zT) d:=by
 unfold zHF nG acF
 by_cases h:yC (yZ (e.getD 0 zT) p) (yZ (e.getD 1 zT) p)=zT
 · simp only[h,if_true]
 · simp only[h,if_false]
   rw[show zM (yC (yZ (e.getD 0 zT) p) (yZ (e.getD 1 zT) p)) d=yH (yZ (e.getD 0 zT) p) (yZ (e.getD 1 zT) p) d from yFX _ _ _]
def crA(md:Md)(p d:Pt):Int:=if nbM md p d then(crM md p d md.1.length).1 else 0
def crB(md:Md)(p d:Pt):Int:=if nbM md p d then(crM md p d md.1.length).2 else 0
theorem zDU(md:Md)(p d:Pt):∀n:Nat,(0<=(crM md p d n).1/\(crM md p d n).1<=n)/\(0<=(crM md p d n).2/\(crM md p d n).2<=n)
  |0=>by
   show(0<=(0:Int)/\(0:Int)<=((0:Nat):Int))/\(0<=(0:Int)/\(0:Int)<=((0:Nat):Int))
   omega
  |n+1=>by
   have ih:=zDU md p d n;unfold crM
   split
   · omega
   · split
     · split
       · show(0<=(crM md p d n).1+1/\(crM md p d n).1+1<=_)/\(0<=(crM md p d n).2/\(crM md p d n).2<=_)
         omega
       · show(0<=(crM md p d n).1/\(crM md p d n).1<=_)/\(0<=(crM md p d n).2+1/\(crM md p d n).2+1<=_)
         omega
     · omega
section
variable {md:Md}{p d:Pt}{f:Nat}
theorem zO7(h:skM (md.1.getD f fm0) p d):crM md p d (f+1)=crM md p d f:=zau h
theorem yF5(h:¬skM (md.1.getD f fm0) p d)(h1:wrM (md.1.getD f fm0) p d=1)(h2:0<cnM (md.1.getD f fm0) d):crM md p d (f+1)=((crM md p d f).1+1,(crM md p d f).2):=(zae h).trans ((zau h1).trans (zau h2))
theorem yLT(h:¬skM (md.1.getD f fm0) p d)(h1:wrM (md.1.getD f fm0) p d=1)(h2:¬0<cnM (md.1.getD f fm0) d):crM md p d (f+1)=((crM md p d f).1,(crM md p d f).2+1):=(zae h).trans ((zau h1).trans (zae h2))
theorem yLS(h:¬skM (md.1.getD f fm0) p d)(h1:¬wrM (md.1.getD f fm0) p d=1):crM md p d (f+1)=crM md p d f:=(zae h).trans (zae h1)
theorem yF6(hf:f<md.1.length)(h:bdM (md.1.getD f fm0) p d):crA md p d=0/\crB md p d=0/\¬nbM md p d:=by
 have C:¬nbM md p d:=λe=>e f hf h;exact⟨zae C,zae C,C⟩
theorem yLU(h:∀f,f<md.1.length->¬bdM (md.1.getD f fm0) p d):crA md p d=(crM md p d md.1.length).1/\crB md p d=(crM md p d md.1.length).2/\nbM md p d:=⟨zau h,zau h,h⟩
end
theorem ac_t{p:Pt}{E:List (List Pt)}{q:Nat}{D:List Ac}(hD:D=acT p E q)(h:yC (yZ ((E.getD q ed0).getD 0 zT) p) (yZ ((E.getD q ed0).getD 1 zT) p)=zT):D++[(yC (yZ ((E.getD q ed0).getD 0 zT) p) (yZ ((E.getD q ed0).getD 1 zT) p),(yZ ((E.getD q ed0).getD 1 zT) ((E.getD q ed0).getD 0 zT),yC (yZ ((E.getD q ed0).getD 0 zT) p) (yZ ((E.getD q ed0).getD 1 zT) p)=zT))]=acT p E (q+1):=by
 rw[hD]
 show _=acT p E q++[acF p (E.getD q ed0)]
 unfold acF;rw[zau h]
theorem ac_f{p:Pt}{E:List (List Pt)}{q:Nat}{D:List Ac}(hD:D=acT p E q)(h:¬yC (yZ ((E.getD q ed0).getD 0 zT) p) (yZ ((E.getD q ed0).getD 1 zT) p)=zT):D++[(yC (yZ ((E.getD q ed0).getD 0 zT) p) (yZ ((E.getD q ed0).getD 1 zT) p),(zT,yC (yZ ((E.getD q ed0).getD 0 zT) p) (yZ ((E.getD q ed0).getD 1 zT) p)=zT))]=acT p E (q+1):=by
 rw[hD]
 show _=acT p E q++[acF p (E.getD q ed0)]
 unfold acF;rw[zae h]
abbrev ac0:Ac:=(zT,(zT,False))
theorem yDC{p v:Pt}{md:Md}{u:Nat}(hu:u<md.2.length):zHF ((acT p md.2 md.2.length).getD u ac0) v↔nG p ((md.2.getD u ed0).getD 0 zT) ((md.2.getD u ed0).getD 1 zT) v:=by
 rw[show(acT p md.2 md.2.length).getD u ac0=acF p (md.2.getD u ed0) from uO _ ac0 hu];exact yBB p v _
theorem zO2{p:Pt}{md:Md}{D:List Ac}{u kk:Nat}(hD:D=acT p md.2 md.2.length)(hc:clM md p (vK ↑(pY md p)))(hk:kk<=pY md p)(hu:u<D.length)(h:zHF (D.getD u ac0) (vK ↑kk)):kk+1<=pY md p:=by
 have C:D.length=md.2.length:=by rw[hD];exact yY _ _
 rcases ztu kk (pY md p) with h1|h1
 · exact h1
 · have e:kk=pY md p:=by omega
   rw[e,hD] at h;exact absurd ((yDC zot).1 h) (hc u zot)
theorem yFW{p:Pt}{md:Md}{D:List Ac}{kk:Nat}(hD:D=acT p md.2 md.2.length)(hk:kk<=pY md p)(h:∀v,v<D.length->¬zHF (D.getD v ac0) (vK ↑kk)):kk=pY md p:=by
 have H:D.length=md.2.length:=by rw[hD];exact yY _ _
 have hc:clM md p (vK ↑kk):=λq C e=>by
  refine h q zot ?_;rw[hD];exact(yDC C).2 e
 have h1:pY md p<=kk:=(zAM (q:=λk=>clM md p (vK k)) hc).1;omega
theorem zDV(md:Md)(p d:Pt):(0<=crA md p d/\crA md p d<=md.1.length)/\(0<=crB md p d/\crB md p d<=md.1.length):=by
 have h:=zDU md p d md.1.length;unfold crA crB
 split
 · exact h
 · omega
def wdM(md:Md)(p:Pt):Int:=if onA md p then 0 else crA md p (vK ↑(pY md p))-crB md p (vK ↑(pY md p))
theorem zHK{s:Sd}{f:Nat}(hf:f<s.2.1.length):(kG s).1.getD f fm0=fmF s (s.2.1.getD f zA):=uO _ fm0 hf
theorem dE(s:Sd):(kG s).1.length=s.2.1.length:=yY _ _
theorem yD8{s:Sd}{f:Nat}(hf:f<s.2.1.length)(hn:nmP s f):xR s f=zA7 s.1 (s.2.1.getD f zA).2.1 (s.2.1.getD f zA).2.1.length:=by
 unfold xR;rw[zau ⟨⟨by omega,by omega⟩,by simpa using hn⟩]
 rfl
theorem zSG{s:Sd}{f:Nat}(hf:f<s.2.1.length)(hn:nmP s f)(p:Pt):whM (fmF s (s.2.1.getD f zA)) p=whF s f p:=by
 rw[zB9,yD8 hf hn];unfold whM fmF;simp only[z1i]
theorem zJV{s:Sd}(h:kC s){f:Nat}(hf:f<s.2.1.length):0<(s.2.1.getD f zA).2.1.length:=(s9 h hf).1.1.1
theorem zS2{s:Sd}(h:kC s)(p:Pt){f:Nat}(hf:f<s.2.1.length):onM (kG s) p f↔onP s p f:=by
 unfold onM onP;rw[zHK hf,zSG hf (s9 h hf).2];have h1:0<(fmF s (s.2.1.getD f zA)).2.1.length:=by
  show 0<(zA7 _ _ _).length
  rw[show(zA7 s.1 (s.2.1.getD f zA).2.1 (s.2.1.getD f zA).2.1.length).length=_ from yY _ _];exact zJV h hf
 exact⟨λe=>⟨e.1.1,e.2⟩,λe=>⟨⟨e.1,h1⟩,e.2⟩⟩
theorem sL{s:Sd}(h:kC s)(p:Pt):onA (kG s) p↔onB s p:=by
 unfold onA onB;rw[dE];exact⟨λ⟨f,hf,e⟩=>⟨f,hf,(zS2 h p hf).1 e⟩,λ⟨f,hf,e⟩=>⟨f,hf,(zS2 h p hf).2 e⟩⟩
theorem zEZ{s:Sd}(h:kC s)(p d:Pt){f:Nat}(hf:f<s.2.1.length):skM (fmF s (s.2.1.getD f zA)) p d↔skP s p d f:=by
 have h1:(fmF s (s.2.1.getD f zA)).2.1.length≠0:=by
  show(zA7 _ _ _).length≠0
  rw[show(zA7 s.1 (s.2.1.getD f zA).2.1 (s.2.1.getD f zA).2.1.length).length=_ from yY _ _];have:=zJV h hf;omega
 exact⟨λe=>e.resolve_right h1,λe=>.inl e⟩
theorem zKG{s:Sd}(h:kC s)(p d:Pt){f:Nat}(hf:f<s.2.1.length):wrM (fmF s (s.2.1.getD f zA)) p d=whF s f (pW p d (hnF s p f/cnF s d f)):=zSG hf (s9 h hf).2 _
theorem zMG{s:Sd}(h:kC s)(p d:Pt):∀n,n<=s.2.1.length->crM (kG s) p d n=crP s p d n
  |0,_=>rfl
  |n+1,hn=>by
   unfold crM crP;rw[zHK zot,zMG h p d n zot,zKG h p d zot]
   by_cases e:skP s p d n
   · rw[zau e,zau ((zEZ h p d zot).2 e)]
   · rw[zae e,zae λe'=>e ((zEZ h p d zot).1 e')]
     rfl
theorem yBZ(P:List Pt)(S:List PIr){q:Nat}(hq:q<S.length):(S.map (edP P)).getD q ed0=edP P S[q]:=by
 rw[zoa,zvi,zoc hq]
 rfl
theorem zT8{s:Sd}(h:kC s)(p v:Pt):clM (kG s) p v↔zH2 s p v:=by
 rw[zMJ (sG h)];unfold clM kG;simp only[zde];constructor
 · intro e x hx
   obtain⟨q,C,rfl⟩:=yve.1 hx;have:=e q C;rw[yBZ _ _ C] at this;exact this
 · intro e q C
   have:=e _ (ybu C);rw[yBZ _ _ C];exact this
theorem zO3{s:Sd}(h:kC s)(p:Pt):pY (kG s) p=zR1 s p:=by
 unfold pY zR1
 congr 1
 funext k
 exact propext (zT8 h p _)
theorem yE1{s:Sd}(h:kC s){p d:Pt}(hc:zH2 s p d):nbM (kG s) p d:=by
 intro f hf e;rw[dE] at hf;rw[zHK hf] at e;have hk:¬skP s p d f:=λe'=>e.1 ((zEZ h p d hf).2 e');have h0:=e.2;rw[zKG h p d hf] at h0;exact zRB (bR h) hf hc hk h0
theorem zAY{s:Sd}(h:kC s)(p:Pt):wdM (kG s) p=iB s p:=by
 unfold wdM iB;rw[zO3 h]
 by_cases ho:onB s p
 · rw[zau ho,zau ((sL h p).2 ho)]
 · rw[zae ho,zae λe=>ho ((sL h p).1 e)]
   have C:=yE1 h (oC (sG h) p).2.1;unfold crA crB;rw[zau C,zau C,dE,zMG h _ _ _ (zbe _)];exact zMI s p _ _
end Bk
namespace Bk
open Go Go.RowKit
open Classical
section
variable {P:Program}{n:Nat}{w0:World}{h0:Mem}{e:List (Nat×Value)}{L:List Res}{h:Mem}{Q:Exit->Act->World->Prop}
variable {ds:Option Tmp}{ty:TypeId}{ps:String}{af:Array Edge}{gd:Option (Nat×Bool)}
abbrev tM(u:Int×Int):Value:=.agg #[vI u.1,vI u.2]
def nE(es:Array MapEntry)(S:List (Int×Int)):Prop:=es.toList.map (λx=>(x.key,x.val))=S.map λu=>(tM u,Value.bool true)
theorem map_nil:nE #[] []:=rfl
theorem zN8{t:TypeId}:nD P n w0 h0 ⟨ds,.makeMap t none,ty,ps,af,gd⟩ e L h (λu r=>∃b,u=.map (some b)/\r=.blk b (.map #[] 0)):=by
 intro a w D S;refine⟨_,w.alloc (.map #[] 0),.blk w.heap.size (.map #[] 0),?_,World.grownBy_alloc w _ none,zDL w _,λb C=>?_,_,I,I⟩
 · simp[execOp,Instr.makeMap,newObj,Sem.run]
 · simp only[Res.fp,Option.some.injEq] at C
   omega
structure MapTy(P:Program)(mt kt et it:TypeId):Prop where
 m:P.underlying mt=some (.map kt et)
 k:P.underlying kt=some (.array 2 it)
 i:P.underlying it=some (.int .i64)
 sz:∀w,(Go.sizeOf it).run P w=.ok 1 w
 ag:∀w,(isAgg it).run P w=.ok false w
 z:∀w,(zeroValue et).run P w=.ok (.bool false) w
variable {mt kt et it:TypeId}
theorem zYE(T:MapTy P mt kt et it)(x y:Int)(w:World):(part it #[vI x,vI y] 0).run P w=.ok (vI x) w:=by simp[part,Sem.run_bind,T.ag]
theorem zYD(T:MapTy P mt kt et it)(x y:Int)(w:World):(part it #[vI x,vI y] 1).run P w=.ok (vI y) w:=by simp[part,Sem.run_bind,T.ag]
theorem oR{w:World}{r:Nat}{es:Array MapEntry}{clock:Nat}(hb:w.heap[r]?=some (.map es clock)):(getObj r).run P w=.ok (.map es clock) w:=by
 simp[getObj,Sem.run,hb]
theorem zP6{w:World}{r:Nat}{es:Array MapEntry}{clock:Nat}(o:Obj)(hb:w.heap[r]?=some (.map es clock)):(setObj r o).run P w=.ok () {w with heap:=w.heap.setIfInBounds r o}:=by
 simp[setObj,Sem.run,hb]
theorem zU3(T:MapTy P mt kt et it)(u v:Int×Int)(w:World):(Op.equal kt (tM u) (tM v)).run P w=.ok (decide (u=v)) w:=by
 have J:∀(d:Nat) (x y:Int),(Op.equalIn (d+1) it (vI x) (vI y)).run P w=.ok (x==y) w:=λd x y=>by
  unfold Op.equalIn;simp[Sem.run_bind,run_underlying T.i,vI]
 show(Op.equalIn 10000 kt (tM u) (tM v)).run P w=_
 rw[show(10000:Nat)=9999+1 from I,Op.equalIn];simp only[Sem.run_bind,run_underlying T.k,Result.andThen_ok,T.sz];simp only[Std.Legacy.Range.forIn_eq_forIn_range',Std.Legacy.Range.size,ydi,z5e,z4i,List.range'_succ,List.range'_zero,List.forIn_cons,List.forIn_nil,zwe,z6u,zyi];have H:∀(x y:Int),(Op.equalIn 9999 it (vI x) (vI y)).run P w=.ok (x==y) w:=λx y=>J 9998 x y;obtain⟨D,C⟩:=u;obtain⟨v1,v2⟩:=v
 by_cases h1:D=v1<;>by_cases h2:C=v2<;>simp[Sem.run_bind,zYE T,zYD T,H,h1,h2]
theorem y5(T:MapTy P mt kt et it)(em:Bool)(u:Int×Int)(w:World):(Instr.checkKey em 10000 kt (tM u)).run P w=.ok () w:=by
 have C:∀(x:Int),(Instr.checkKey em 9999 it (vI x)).run P w=.ok () w:=λx=>by
  rw[show(9999:Nat)=9998+1 from I];unfold Instr.checkKey;simp[Sem.run_bind,run_underlying T.i,vI]
 rw[show(10000:Nat)=9999+1 from I,Instr.checkKey];simp only[Sem.run_bind,run_underlying T.k,Result.andThen_ok];simp only[Std.Legacy.Range.forIn_eq_forIn_range',Std.Legacy.Range.size,ydi,z5e,z4i,List.range'_succ,List.range'_zero,List.forIn_cons,List.forIn_nil,zwe,z6u,zyi];simp[Sem.run_bind,T.sz,zYE T,zYD T,C]
theorem zFX(T:MapTy P mt kt et it)(u:Int×Int)(w:World):∀(es:List MapEntry) (S:List (Int×Int)) (i:Nat),es.map (λx=>(x.key,x.val))=S.map (λu=>(tM u,Value.bool true))->
 (u∈S->∃j,(Instr.findAsking kt (tM u) es i).run P w=.ok (some (j,.bool true)) w)/\(u ∉ S->(Instr.findAsking kt (tM u) es i).run P w=.ok none w)
 |[],S,i,hm=>by
  have:S=[]:=by simpa using hm.symm
  subst this;exact⟨λh=>absurd h zgu,λ_=>by simp[Instr.findAsking]⟩
 |x::es,S,i,hm=>by
  match S,hm with
  |v::S,hm=>
   simp only[zue,List.cons.injEq,Prod.mk.injEq] at hm;obtain⟨⟨hk,H⟩,hm⟩:=hm;have D:=zFX T u w es S (i+1) hm;have C:=zU3 T u v w;unfold Instr.findAsking;rw[hk]
   by_cases huv:u=v
   · refine⟨λ_=>⟨i,?_⟩,λh=>absurd (huv▸List.mem_cons_self) h⟩
     subst huv;have hd:decide (u=u)=true:=by simp
     simp only[Sem.run_bind,C,hd,Result.andThen_ok];simp[H]
   · have hd:decide (u=v)=false:=by simpa using huv
     refine⟨λh=>?_,λh=>?_⟩
     · obtain⟨j,J⟩:=D.1 ((zfu.1 h).resolve_left huv)
       refine⟨j,?_⟩;simp only[Sem.run_bind,C,hd,Result.andThen_ok]
       simpa using J
     · simp only[Sem.run_bind,C,hd,Result.andThen_ok]
       simpa using D.2 λe=>h (z3i _ e)
theorem zND(T:MapTy P mt kt et it)(u:Int×Int)(w:World){es:Array MapEntry}{S:List (Int×Int)}(hm:nE es S):
 (u∈S->∃j,(Instr.findKey kt (tM u) es.toList).run P w=.ok (some (j,.bool true)) w)/\(u ∉ S->(Instr.findKey kt (tM u) es.toList).run P w=.ok none w):=by
 have C:=zFX T u w es.toList S 0 hm;unfold Instr.findKey;simp only[Sem.run_bind,run_underlying T.k,Result.andThen_ok]
 cases hl:es.toList with
 |nil=>
  rw[hl] at C;refine⟨λh=>?_,λ_=>?_⟩
  · unfold nE at hm
    rw[hl] at hm;have:S=[]:=by simpa using hm.symm
    subst this;exact absurd h zgu
  · simp[Instr.findNow]
 |cons x r=>
  rw[hl] at C;have hx:∃v,x.key=tM v:=by
   unfold nE at hm;rw[hl] at hm
   match S,hm with
   |v::S,hm=>
    simp only[zue,List.cons.injEq,Prod.mk.injEq] at hm;exact⟨v,hm.1.1⟩
  obtain⟨v,D⟩:=hx;have H:Instr.findNow (.array 2 it) (tM u) (x::r) 0=none:=by
   unfold Instr.findNow;rw[D];simp[Instr.sameNow]
  rw[H];exact C
theorem zGD{x y:Operand}{b clock:Nat}{es:Array MapEntry}{S:List (Int×Int)}{u:Int×Int}(T:MapTy P mt kt et it)(hm:.blk b (.map es clock)∈L)(hx:zK e x=some (.map (some b)))(hy:zK e y=some (tM u))(r:nE es S):
 OpV P n w0 h0 ⟨ds,.lookup mt x y false,ty,ps,af,gd⟩ e L h (vB (u∈S)):=by
 intro a w D St;have C:w.heap[b]?=some (.map es clock):=St.ok _ hm;have hf:=zND T u w r;simp only[execOp,D.eval hx,D.eval hy,Instr.lookup];simp only[Sem.run_bind,run_underlying T.m,Result.andThen_ok,oR C,y5 T]
 by_cases hu:u∈S
 · obtain⟨j,H⟩:=hf.1 hu
   rw[wA hu];simp[Sem.run_bind,H,oR C,y5 T]
 · rw[yN hu]
   simp[Sem.run_bind,hf.2 hu,oR C,y5 T,T.z]
theorem yDI{A B:List Res}{x y z:Operand}{b clock:Nat}{es:Array MapEntry}{S:List (Int×Int)}{u:Int×Int}(T:MapTy P mt kt et it)(hx:zK e x=some (.map (some b)))(hy:zK e y=some (tM u))(hz:zK e z=some (.bool true))(r:nE es S)(hu:u ∉ S):
 ∃es',nE es' (S++[u])/\Upd P n w0 h0 ⟨ds,.mapUpdate mt x y z,ty,ps,af,gd⟩ e A (.blk b (.map es clock)) B h (.blk b (.map es' (clock+1))):=by
 refine⟨es.push {key:=tM u,val:=.bool true,born:=clock},?_,?_⟩
 · unfold nE at *
   simp[r]
 · intro a w M St
   have J:w.heap[b]?=some (.map es clock):=St.ok (.blk b (.map es clock)) zo2;have hf:=(zND T u w r).2 hu;refine⟨{w with heap:=w.heap.setIfInBounds b (.map (es.push {key:=tM u,val:=.bool true,born:=clock}) (clock+1))},?_,?_,?_⟩
   · simp only[execOp,M.eval hx,M.eval hy,M.eval hz,Instr.mapUpdate]
     simp[Sem.run_bind,run_underlying T.m,oR J,y5 T,hf,zP6 _ J]
   · refine⟨I,I,I,by simp,λU O C=>?_⟩
     have H:U≠b:=λe=>C (by simp[Res.fp,e]);simp[Ne.symm H]
   · have D:b<w.heap.size:=(zpi.1 J).1
     show(w.heap.setIfInBounds b _)[b]?=_
     simp[D]
theorem evk{x:Operand}{v w:Value}(h:zK e x=some v)(q:v=w):zK e x=some w:=q▸h
theorem zW4{E:TypeId}{i:TypeInfo}{z:Value}(hi:P.info? E=some i)(hz:i.zero=some z)(w:World):(zeroValue E).run P w=.ok z w:=by simp[zeroValue,typeInfo,hi,hz]
theorem yAU{h:Mem}{v:Value}{x y:Int}(r:(rpA 2 rpI).Is h v [x,y]):v=tM (x,y):=by
 obtain⟨cs,⟨_,a,b,rfl,⟨rfl,_⟩,c,d,rfl,⟨rfl,_⟩,e⟩,rfl⟩:=r;rw[show d=[] from e]
 rfl
theorem zWH{ops:Array Oper}{rest:List Oper}{A B:List Res}{x y z:Operand}{b clock:Nat}{es:Array MapEntry}{S:List (Int×Int)}{u:Int×Int}(T:MapTy P mt kt et it)(hx:zK e x=some (.map (some b)))(hy:zK e y=some (tM u))(hz:zK e z=some (.bool true))(r:nE es S)(hu:u ∉ S)
    (k:∀es',nE es' (S++[u])->GL P n w0 h0 ops Q rest e (A++.blk b (.map es' (clock+1))::B) h):GL P n w0 h0 ops Q (⟨none,.mapUpdate mt x y z,ty,ps,af,none⟩::rest) e (A++.blk b (.map es clock)::B) h:=by
 obtain⟨es',C,hu⟩:=yDI (P:=P) (n:=n) (w0:=w0) (h0:=h0) (h:=h) (ds:=none) (ty:=ty) (ps:=ps) (af:=af) (gd:=none) (A:=A) (B:=B) (clock:=clock) T hx hy hz r hu;exact wR hu I I I (k es' C)
end
end Bk
namespace Bk
open Classical
section
variable {P:List Pt}{x:List Int}{S T:List PIr}{u:Nat}
theorem zKO(P:List Pt)(x:List Int)(S:List PIr):∀n,(sxE P x S n).length<=S.length+n
  |0=>by show S.length<=_;omega
  |n+1=>by
   have ih:=zKO P x S n;unfold sxE
   split
   · omega
   · rw[lAz]
     show _+1<=_
     omega
theorem zKQ{L:List (List Int)}{b:Nat}(hb:∀l,l<L.length->(L.getD l []).length<=b)(P:List Pt)(S:List PIr):∀n,n<=L.length->(slE P L S n).length<=S.length+n*b
  |0,_=>by show S.length<=_;omega
  |n+1,hn=>by
   have ih:=zKQ hb P S n zot;have h1:=zKO P (L.getD n []) (slE P L S n) (L.getD n []).length;have h2:=hb n zot;have h3:(n+1)*b=n*b+b:=yqu n b
   show(sxE P (L.getD n []) (slE P L S n) (L.getD n []).length).length<=_
   omega
theorem zKT{s:Sd}(h:okS s):∀n,n<=s.2.1.length->(sfE s n).length<=n*1024
  |0,_=>by show([]:List PIr).length<=_;simp
  |n+1,hn=>by
   have ih:=zKT h n zot;have h0:=h.2.1 n zot;have h1:=zKQ h0.2 s.1 (sfE s n) (s.2.1.getD n zA).2.1.length (zbe _);have h2:(s.2.1.getD n zA).2.1.length*64<=16*64:=zfe _ h0.1
   show(slE s.1 (s.2.1.getD n zA).2.1 (sfE s n) (s.2.1.getD n zA).2.1.length).length<=_
   omega
theorem yIW(hT:T=sxE P x S u)(h1:¬(min (x.getD u 0) (x.getD ((u+1)%x.length) 0),max (x.getD u 0) (x.getD ((u+1)%x.length) 0))∈T)(h2:¬P.getD (x.getD u 0).toNat zT=P.getD (x.getD ((u+1)%x.length) 0).toNat zT):T++[(min (x.getD u 0) (x.getD ((u+1)%x.length) 0),max (x.getD u 0) (x.getD ((u+1)%x.length) 0))]=sxE P x S (u+1):=by
 rw[hT] at h1 ⊢;exact(zae λe=>e.elim h1 h2).symm
theorem yDV(hT:T=sxE P x S u)(h1:¬¬(min (x.getD u 0) (x.getD ((u+1)%x.length) 0),max (x.getD u 0) (x.getD ((u+1)%x.length) 0))∈T):T=sxE P x S (u+1):=by
 rw[hT] at h1 ⊢;exact(zau (.inl (zdi h1))).symm
theorem yDU(hT:T=sxE P x S u)(h2:¬¬P.getD (x.getD u 0).toNat zT=P.getD (x.getD ((u+1)%x.length) 0).toNat zT):T=sxE P x S (u+1):=by
 rw[hT];exact(zau (.inr (zdi h2))).symm
theorem yLL{E:List (List Pt)}{a b:Int}(hE:E=T.map (edP P)):E++[[P.getD (min a b).toNat zT,P.getD (max a b).toNat zT]]=(T++[(min a b,max a b)]).map (edP P):=by
 rw[hE,znu]
 rfl
end
theorem zG3{α:Type}(d:α){l:List α}{x:α}(h:x∈l):∃i,i<l.length/\x=l.getD i d:=by
 obtain⟨i,hi,e⟩:=yve.1 h;refine⟨i,hi,?_⟩;rw[<-e,zoa,zoc hi]
 rfl
theorem yG1{s:Sd}(h:okS s):zV6 (kG s):=by
 refine⟨by rw[dE];exact h.1.1.2,?_,λf hf=>?_⟩
 · show((sfE s s.2.1.length).map (edP s.1)).length<=_
   rw[zde];have h1:=zKT h s.2.1.length (zbe _);have h2:=h.1.1.2;omega
 · rw[dE] at hf
   rw[zHK hf];have h0:=h.2.1 f hf;have D:(zA7 s.1 (s.2.1.getD f zA).2.1 (s.2.1.getD f zA).2.1.length).length=(s.2.1.getD f zA).2.1.length:=yY _ _;refine⟨?_,?_,by show(zA7 _ _ _).length<=_;rw[D];omega,λx hx=>?_⟩
   · have:=zD2 (s.2.1.getD f zA).1.1
     show 0<=((axI (s.2.1.getD f zA).1.1:Nat):Int)/\((axI (s.2.1.getD f zA).1.1:Nat):Int)<3
     omega
   · have:=zD2 (s.2.1.getD f zA).1.1
     show 0<=((axJ (s.2.1.getD f zA).1.1:Nat):Int)/\((axJ (s.2.1.getD f zA).1.1:Nat):Int)<3
     omega
   · have hx:x∈zA7 s.1 (s.2.1.getD f zA).2.1 (s.2.1.getD f zA).2.1.length:=hx
     obtain⟨l,H,rfl⟩:=zG3 [] hx;have C:l<(s.2.1.getD f zA).2.1.length:=by rw[<-D];exact H
     rw[show(zA7 s.1 (s.2.1.getD f zA).2.1 (s.2.1.getD f zA).2.1.length).getD l []=zF7 s.1 ((s.2.1.getD f zA).2.1.getD l []) ((s.2.1.getD f zA).2.1.getD l []).length from uO _ _ C,show(zF7 s.1 ((s.2.1.getD f zA).2.1.getD l []) ((s.2.1.getD f zA).2.1.getD l []).length).length=_ from yY _ _];have:=h0.2 l C;omega
theorem yKG{s:Sd}(h:kC s)(p:Pt):pY (kG s) p<=3*(kG s).2.length+1/\clM (kG s) p (vK ↑(pY (kG s) p)):=by
 obtain⟨h1,h2,_⟩:=oC (sG h) p;rw[zO3 h];refine⟨?_,(zT8 h p _).2 h2⟩;have:(kG s).2.length=(sfE s s.2.1.length).length:=zde _;omega
def inM(md:Md)(p:Pt):Int:=if onA md p then 0 else if 0<wdM md p then 1 else -1
theorem yJF(a b:Rat):-1<=yX a*yX b/\yX a*yX b<=1:=by
 have h1:=xK a;have h2:=xK b;have g:∀x y:Int,-1<=x/\x<=1-> -1<=y/\y<=1-> -1<=x*y/\x*y<=1:=λx y hx hy=>by
  have:x= -1\/x=0\/x=1:=by omega
  rcases this with rfl|rfl|rfl<;>omega
 exact g _ _ h1 h2
theorem zSP{q:Rat}:0<yX q↔0<q:=by
 rw[rT]
 split
 · next h=>subst h;exact⟨λe=>absurd e zow,λe=>absurd e zow⟩
 · next h=>
   split
   · next h2=>exact⟨λe=>absurd e zow,λe=>by grind⟩
   · next h2=>exact⟨λe=>by grind,λe=>by decide⟩
theorem zSC{f:Fm}{p d:Pt}(h:¬skM f p d):whM f (T3.mk (p.x+(if zM f.1.1 d=0 then 0 else(f.1.2-zM f.1.1 p)/zM f.1.1 d)*d.x) (p.y+(if zM f.1.1 d=0 then 0 else(f.1.2-zM f.1.1 p)/zM f.1.1 d)*d.y) (p.z+(if zM f.1.1 d=0 then 0 else(f.1.2-zM f.1.1 p)/zM f.1.1 d)*d.z))=wrM f p d:=by
 have hc:¬zM f.1.1 d=0:=λe=>h (.inl (by
  unfold cnM;rw[e,show yX 0=0 from zau I];omega))
 rw[zae hc]
 rfl
end Bk
namespace Bk
open Go Go.RowKit
open Classical
theorem zFY{α:Type}{ρ σ:Rp α}(P:α->Prop)(hn:ρ.n=σ.n)(k:∀{h cs x},ρ.R h cs x->P x->σ.R h cs x){h:Mem}{cs:List Value}{xs:List α}(r:(rpS ρ).R h cs xs)(hp:∀x,x∈xs->P x):(rpS σ).R h cs xs:=by
 obtain⟨v,ds,e,s,rl⟩:=r;refine⟨v,ds,e,hn▸s,?_⟩
 clear s e
 induction xs generalizing ds with
 |nil=>exact rl
 |cons x xs ih=>
  obtain⟨a,b,e,ra,rb⟩:=rl;exact⟨a,b,e,k ra (hp x (.head _)),ih (λy hy=>hp y (.tail _ hy)) b rb⟩
end Bk
namespace Bk
open Classical
theorem yFI{s:Sd}(h:kC s)(p:Pt):inM (kG s) p=inZ s p:=by
 unfold inM inZ;rw[zAY h]
 by_cases ho:onB s p
 · rw[zau ho,zau ((sL h p).2 ho)]
 · rw[zae ho,zae λe=>ho ((sL h p).1 e)]
def smS(k m n j:Nat)(s:Sd):Prop:=(∀p,p∈s.1->lqP k p)/\(∀f,f∈s.2.1->lqP m f.1.1/\lq f.1.2<=n)/\∀e,e∈s.2.2->lq e.2.2<=j
section
variable {h:Mem}{cs:List Go.Value}
theorem yBW{M N m n:Nat}{f:Fc}(r:(rpP (rpP (rpT (rpQ M)) (rpQ N)) (rpP (rpS (rpS rpI)) qF)).R h cs f)(hp:lqP m f.1.1/\lq f.1.2<=n):(rpP (rpP (rpT (rpQ m)) (rpQ n)) (rpP (rpS (rpS rpI)) qF)).R h cs f:=by
 obtain⟨a,b,e,⟨J,H,D,r1,r2⟩,C⟩:=r;exact⟨a,b,e,⟨J,H,D,yJP r1 I hp.1,yJQ r2 I hp.2⟩,C⟩
theorem yBY{J j:Nat}{x:En}(r:(rpP rpI (rpP rpI (rpQ J))).R h cs x)(hp:lq x.2.2<=j):(rpP rpI (rpP rpI (rpQ j))).R h cs x:=by
 obtain⟨a,b,e,H,c,d,M,D,C⟩:=r;exact⟨a,b,e,H,c,d,M,D,yJQ C I hp⟩
theorem zBD{K M N J k m n j:Nat}{s:Sd}(r:(rpP (rpS (rpT (rpQ K))) (rpP (rpS (rpP (rpP (rpT (rpQ M)) (rpQ N)) (rpP (rpS (rpS rpI)) qF))) (rpS (rpP rpI (rpP rpI (rpQ J)))))).R h cs s)(hp:smS k m n j s):
 (rpP (rpS (rpT (rpQ k))) (rpP (rpS (rpP (rpP (rpT (rpQ m)) (rpQ n)) (rpP (rpS (rpS rpI)) qF))) (rpS (rpP rpI (rpP rpI (rpQ j)))))).R h cs s:=by
 obtain⟨a,b,e,H,c,d,O,D,C⟩:=r;exact⟨a,b,e,zFY (ρ:=rpT (rpQ K)) (σ:=rpT (rpQ k)) (lqP k) I (λr hp=>yJP r I hp) H hp.1,c,d,O,
  zFY (ρ:=rpP (rpP (rpT (rpQ M)) (rpQ N)) (rpP (rpS (rpS rpI)) qF)) (σ:=rpP (rpP (rpT (rpQ m)) (rpQ n)) (rpP (rpS (rpS rpI)) qF)) (λf=>lqP m f.1.1/\lq f.1.2<=n) I yBW D hp.2.1,
  zFY (ρ:=rpP rpI (rpP rpI (rpQ J))) (σ:=rpP rpI (rpP rpI (rpQ j))) (λx=>lq x.2.2<=j) I yBY C hp.2.2⟩
end
section
variable {a b:Pt}
theorem yAI{k:Nat}{p:Pt}(h:lqP k p)(i:Nat):lq (p.at i)<=k:=by
 match i with
 |0=>exact h.1
 |1=>exact h.2.1
 |_+2=>exact h.2.2
theorem yNH{k:Nat}(hk:2<=k)(ha:lqP k a)(hb:lqP k b):smS k 2 (k+2) 0 (bxS a b):=by
 have h1:lq (1:Rat)<=2:=sR 1 zow zow;have h2:lq (-1:Rat)<=2:=sR (-1) zow zow;have h0:=zBY;refine⟨λp C=>?_,λf hf=>?_,λe J=>by cases J⟩
 · obtain⟨u,_,rfl⟩:=zle.1 C
   obtain⟨H,D,u3⟩:=u;have g:∀(x:Bool) (p q:Rat),lq p<=k->lq q<=k->lq (if x then q else p)<=k:=λx p q C M=>by split<;>assumption
   exact⟨g H _ _ ha.1 hb.1,g D _ _ ha.2.1 hb.2.1,g u3 _ _ ha.2.2 hb.2.2⟩
 · have hf:f∈fB3 a b:=hf
   obtain⟨i,hi,rfl⟩:=zG3 zA hf;have e:=(w8 (a:=a) (b:=b) (f:=i) hi).2;rw[e];generalize gN i=d;obtain⟨d,x⟩:=d;constructor
   · have g:∀c:Rat,lq c<=2->lqP 2 ((zT).set d c):=λc hc=>by
      match d with
      |0=>exact⟨hc,by show lq 0<=2;omega,by show lq 0<=2;omega⟩
      |1=>exact⟨by show lq 0<=2;omega,hc,by show lq 0<=2;omega⟩
      |_+2=>exact⟨by show lq 0<=2;omega,by show lq 0<=2;omega,hc⟩
     refine g _ ?_
     split<;>assumption
   · have h3:=dF (if x then 1 else -1) (if x then b.at d else a.at d)
     have U:lq (if x then 1 else -1:Rat)<=2:=by split<;>assumption
     have O:lq (if x then b.at d else a.at d)<=k:=by
      split
      · exact yAI hb d
      · exact yAI ha d
     show lq ((if x then 1 else -1)*(if x then b.at d else a.at d))<=k+2
     omega
structure BoxL(k:Nat)(a b:Pt):Prop where
 lq:lqP k b
 ok:iL a b
 h:blH a b
 e:blE a b=0
 oks:okS (bkS a b)
 snd:kC (bkS a b)
 sm:smS k 2 (k+2) 0 (bkS a b)
 onb:∀p,onA (kG (bkS a b)) p↔(∀u,u<3->kI a b p u)/\¬∀u,u<3->sI a b p u
 wd:∀p,¬onA (kG (bkS a b)) p->wdM (kG (bkS a b)) p=bD (∀u,u<3->sI a b p u)
 inb:∀p,inM (kG (bkS a b)) p=if ∀u,u<3->sI a b p u then 1 else if ∀u,u<3->kI a b p u then 0 else -1
theorem zI3{i:Nat}(h:i<3):i=0\/i=1\/i=2:=by omega
theorem boxl{k:Nat}(hk:2<=k)(ha:lqP k a)(hb:lqP k b)(h:∀u,u<3->a.at u<b.at u):BoxL k a b:=by
 have C:a.x<b.x/\a.y<b.y/\a.z<b.z:=⟨h 0 zow,h 1 zow,h 2 zow⟩;have D:∀i,a.at i<b.at i:=λi=>by
  match i with
  |0=>exact C.1
  |1=>exact C.2.1
  |_+2=>exact C.2.2
 have H:iL a b:=by
  intro u M;rw[zAT];exact Rat.not_le.2 (h u M)
 have e:=zUF H;have hs:=zXW C;have J:∀p,onA (kG (bxS a b)) p↔(∀u,u<3->kI a b p u)/\¬∀u,u<3->sI a b p u:=λp=>(sL hs p).trans (zS3 D p);refine⟨hb,H,yCM H,yCO H,?_,?_,?_,?_,?_,?_⟩
 · rw[e]
   exact zR6 C ⟨by decide,show 6<=256 by decide⟩ λf hf=>⟨_,(w8 (a:=a) (b:=b) hf).1⟩
 · rw[e];exact hs
 · rw[e];exact yNH hk ha hb
 · rw[e];exact J
 · rw[e]
   intro p O;rw[zAY hs];exact zSE D λe'=>O ((sL hs p).2 e')
 · rw[e]
   intro p;rw[yFI hs];exact yN7 D p
end
structure SaneL:Prop where
 b:BoxL 2 (pI 0 0 0) (pI 1 1 1)
 o1:¬onA (kG (bkS (pI 0 0 0) (pI 1 1 1))) (T3.mk (jP 1 2) (jP 1 2) (jP 1 2))
 w1:wdM (kG (bkS (pI 0 0 0) (pI 1 1 1))) (T3.mk (jP 1 2) (jP 1 2) (jP 1 2))=1
 o2:¬onA (kG (bkS (pI 0 0 0) (pI 1 1 1))) (pI 2 0 0)
 w2:wdM (kG (bkS (pI 0 0 0) (pI 1 1 1))) (pI 2 0 0)=0
 i3:inM (kG (bkS (pI 0 0 0) (pI 1 1 1))) (pI 1 1 1)=0
theorem fS:SaneL:=by
 have U:lqP 2 (pI 0 0 0):=⟨sR _ zow zow,sR _ zow zow,sR _ zow zow⟩;have l1:lqP 2 (pI 1 1 1):=⟨sR _ zow zow,sR _ zow zow,sR _ zow zow⟩;have eh:jP 1 2=1/2:=I;have h:=boxl (a:=pI 0 0 0) (b:=pI 1 1 1) (zbe 2) U l1 λu C=>by
  rcases zI3 C with rfl|rfl|rfl
  · show((0:Int):Rat)<((1:Int):Rat);decide
  · show((0:Int):Rat)<((1:Int):Rat);decide
  · show((0:Int):Rat)<((1:Int):Rat);decide
 have D:∀u,u<3->sI (pI 0 0 0) (pI 1 1 1) (T3.mk (jP 1 2) (jP 1 2) (jP 1 2)) u:=λu C=>by
  rw[eh]
  rcases zI3 C with rfl|rfl|rfl
  · show((0:Int):Rat)<1/2/\1/2<((1:Int):Rat);decide +kernel
  · show((0:Int):Rat)<1/2/\1/2<((1:Int):Rat);decide +kernel
  · show((0:Int):Rat)<1/2/\1/2<((1:Int):Rat);decide +kernel
 have k2:¬∀u,u<3->kI (pI 0 0 0) (pI 1 1 1) (pI 2 0 0) u:=λe=>by
  have:=(e 0 zow).2;exact absurd (show((2:Int):Rat)<=((1:Int):Rat) from this) zow
 have O:¬∀u,u<3->sI (pI 0 0 0) (pI 1 1 1) (pI 2 0 0) u:=λe=>by
  have:=(e 0 zow).2;exact absurd (show((2:Int):Rat)<((1:Int):Rat) from this) zow
 have Z:∀u,u<3->kI (pI 0 0 0) (pI 1 1 1) (pI 1 1 1) u:=λu C=>by
  rcases zI3 C with rfl|rfl|rfl
  · show((0:Int):Rat)<=((1:Int):Rat)/\((1:Int):Rat)<=((1:Int):Rat);decide
  · show((0:Int):Rat)<=((1:Int):Rat)/\((1:Int):Rat)<=((1:Int):Rat);decide
  · show((0:Int):Rat)<=((1:Int):Rat)/\((1:Int):Rat)<=((1:Int):Rat);decide
 have M:¬∀u,u<3->sI (pI 0 0 0) (pI 1 1 1) (pI 1 1 1) u:=λe=>by
  have:=(e 0 zow).2;exact absurd (show((1:Int):Rat)<((1:Int):Rat) from this) zow
 have J:¬onA (kG (bkS (pI 0 0 0) (pI 1 1 1))) (T3.mk (jP 1 2) (jP 1 2) (jP 1 2)):=λe=>((h.onb _).1 e).2 D;have H:¬onA (kG (bkS (pI 0 0 0) (pI 1 1 1))) (pI 2 0 0):=λe=>k2 ((h.onb _).1 e).1;refine⟨h,J,?_,H,?_,?_⟩
 · rw[h.wd _ J,lM D]
 · rw[h.wd _ H,kP O]
 · rw[h.inb,zae M,zau Z]
end Bk
namespace Bk
open Go Go.RowKit
section
variable {P:Program}{n:Nat}{w0:World}{h0:Mem}{e:List (Nat×Value)}{A B R:List Res}{q:Res}{h:Mem}{Q:Exit->Act->World->Prop}
theorem yH8:(A++q::(B++R)).Perm (A++(B++(R++[q]))):=by
 refine List.Perm.append_left A ?_;rw[<-zju];exact(List.perm_append_singleton q (B++R)).symm
theorem zWI{ops:Array Oper}{l:List Oper}(k:GL P n w0 h0 ops Q l e (A++(B++(R++[q]))) h):GL P n w0 h0 ops Q l e (A++q::(B++R)) h:=λa w E S=>k a w E (S.perm yH8)
theorem yBD{x:Exit}(k:GQ n w0 h0 Q x e (q::(A++B)) h):GQ n w0 h0 Q x e (A++q::B) h:=λa w E S=>k a w E (S.perm ybe)
theorem yNO:((A++R)++B).Perm (A++(B++R)):=by
 rw[zju];exact List.Perm.append_left A List.perm_append_comm
theorem yBH{ops:Array Oper}{l:List Oper}(k:GL P n w0 h0 ops Q l e (A++(B++R)) h):GL P n w0 h0 ops Q l e ((A++R)++B) h:=λa w E S=>k a w E (S.perm yNO)
end
section
variable {α:Type}{ρ:Rp α}{E:Nat}{h h':Mem}
def mK(E:Nat)(ρ:Rp α)(h:Mem):List Value->List (List α)->List Res->Prop
  |[],_,R=>R=[]
  |v::vs,x::xs,R=>∃cs R',R=.gs E ρ.n v x.length cs::R'/\v.oneCell'=true/\RL ρ h cs x/\mK E ρ h vs xs R'
  |_::_,[],_=>False
theorem mK.mono(hh:MLe h h'):∀{vs:List Value} {xs:List (List α)} {R:List Res},mK E ρ h vs xs R->mK E ρ h' vs xs R
  |[],_,_,r=>r
  |_::_,_::_,_,⟨cs,R',e,o,r,s⟩=>⟨cs,R',e,o,r.mono hh,s.mono hh⟩
  |_::_,[],_,r=>r.elim
theorem mK.snoc:∀{vs:List Value} {xs:List (List α)} {R:List Res} {v:Value} {x:List α} {cs:List Value},mK E ρ h vs xs R->vs.length=xs.length->v.oneCell'=true->RL ρ h cs x->mK E ρ h (vs++[v]) (xs++[x]) (R++[.gs E ρ.n v x.length cs])
  |[],[],R,v,x,cs,r,_,o,rl=>by
   have:R=[]:=r;subst this;exact⟨cs,[],rfl,o,rl,rfl⟩
  |[],_::_,_,_,_,_,_,hl,_,_=>absurd hl zo2
  |_::_,[],_,_,_,_,r,_,_,_=>r.elim
  |_::vs,_::xs,R,v,x,cs,⟨c1,R',e,o1,r1,s⟩,hl,o,rl=>by
   subst e;exact⟨c1,_,rfl,o1,r1,s.snoc (by simpa using hl) o rl⟩
theorem mK.head{vs:List Value}{xs:List (List α)}{R:List Res}{i:Nat}(r:mK E ρ h (vs.drop i) (xs.drop i) R)(hi:i<vs.length)(hx:i<xs.length):∃cs R',R=.gs E ρ.n (vs.getD i (.slice none 0 0)) (xs.getD i []).length cs::R'/\(vs.getD i (.slice none 0 0)).oneCell'=true/\RL ρ h cs (xs.getD i [])/\mK E ρ h (vs.drop (i+1)) (xs.drop (i+1)) R':=by
 rw[z4e hi,z4e hx] at r;have D:vs.getD i (.slice none 0 0)=vs[i]:=by rw[zoa,zoc hi];rfl
 have C:xs.getD i []=xs[i]:=by rw[zoa,zoc hx];rfl
 rw[D,C];exact r
end
abbrev FV:=Pl×Value×List Nat
abbrev fv0:FV:=((T3.mk (0:Rat) 0 0,(0:Rat)),((Value.slice none 0 0),([]:List Nat)))
abbrev nV:Value:=.slice none 0 0
def fvZ(F:List Fc)(vs:List Value):Nat->List FV:=wO λu=>((F.getD u zA).1,(vs.getD u nV,(F.getD u zA).2.2))
def lpS(F:List Fc):List (List (List Int)):=F.map λf=>f.2.1
section
variable {k l:Nat}{h:Mem}
theorem fv_R{π:Rp Pl}{cs:List Value}{a:Pl}{v:Value}{X:List (List Int)}{m:List Nat}(r:(rpP π (rpP rpV qF)).R h cs (a,(v,m)))(s:(rpS (rpS rpI)).Is h v X):(rpP π (rpP (rpS (rpS rpI)) qF)).R h cs (a,(X,m)):=by
 obtain⟨p,q,e,J,C,M,O,H,D⟩:=r;exact⟨p,q,e,J,C,M,O,by rw[show C=[v] from H.1];exact zKU s,D⟩
theorem yG5{π:Rp Pl}:∀{xs:List FV} {ys:List Fc} {cs:List Value},RL (rpP π (rpP rpV qF)) h cs xs->xs.length=ys.length->(∀u,u<xs.length->(xs.getD u fv0).1=(ys.getD u zA).1/\(xs.getD u fv0).2.2=(ys.getD u zA).2.2/\(rpS (rpS rpI)).Is h (xs.getD u fv0).2.1 (ys.getD u zA).2.1)->RL (rpP π (rpP (rpS (rpS rpI)) qF)) h cs ys
  |[],[],_,r,_,_=>r
  |[],_::_,_,_,hl,_=>absurd hl zo2
  |_::_,[],_,_,hl,_=>absurd hl zo2
  |x::xs,y::ys,_,⟨a,b,e,r,s⟩,hl,hg=>by
   obtain⟨g1,g2,g3⟩:=hg 0 (yle _);refine⟨a,b,e,?_,yG5 s (by simpa using hl) λu hu=>hg (u+1) (Nat.succ_lt_succ hu)⟩;obtain⟨x1,x2,x3⟩:=x;obtain⟨y1,y2,y3⟩:=y;have g1':x1=y1:=g1;have g2':x3=y3:=g2;subst g1' g2';exact fv_R r g3
end
theorem zTD(F:List Fc){i:Nat}(hi:i<F.length):(lpS F).getD i []=(F.getD i zA).2.1:=by
 unfold lpS;rw[zoa,zoa,zvi,zoc hi];rfl
theorem yAJ{F:List Fc}{i:Nat}(hi:i<F.length):(lpS F).take (i+1)=(lpS F).take i++[(F.getD i zA).2.1]:=by
 have C:i<(lpS F).length:=by unfold lpS;rw[zde];exact hi
 rw[zuu C,<-zTD F hi,zoa,zoc C];rfl
theorem zLQ(F:List Fc):(lpS F).length=F.length:=zde _
theorem yE8(F:List Fc):(lpS F).take F.length=lpS F:=by rw[<-zLQ,z6i]
theorem yOA{π:Rp Pl}{ρ:Rp (List Int)}{h:Mem}{v:Value}{f:Fc}(r:(rpP π (rpP (rpS ρ) qF)).Is h v f):∃u,(rpP π (rpP rpV qF)).Is h v (f.1,(u,f.2.2))/\(rpS ρ).Is h u f.2.1:=by
 obtain⟨cs,r,e⟩:=r;obtain⟨p,q,Z,J,p2,M,U,C,H⟩:=r;have O:=(rpS ρ).one C;obtain⟨u,ds,rfl,s,D⟩:=C;exact⟨u,⟨cs,⟨p,q,Z,J,[u],M,U,⟨I,by simpa using O⟩,H⟩,e⟩,[u],⟨u,ds,I,s,D⟩,I⟩
theorem yAH(q:Rat):lq (((-1:Int):Rat)*q)=lq q:=by
 rw[show(((-1:Int):Rat)*q)= -q by rw[show(((-1:Int):Rat))= -(1:Rat) from I];grind];exact zG6 q
theorem zZF{K L m n:Nat}{h h':Mem}{v v':Value}{pl:Pl}(r:(rpP (rpT (rpQ K)) (rpQ L)).Is h v (opP pl))(s:(rpP (rpT (rpQ m)) (rpQ n)).Is h' v' pl):(rpP (rpT (rpQ m)) (rpQ n)).Is h v (opP pl):=by
 obtain⟨cs,⟨Z,U,O,r1,r2⟩,e⟩:=r;obtain⟨ds,⟨b1,b2,e3,D,C⟩,_⟩:=s;obtain⟨x,_,rfl,⟨_,M⟩,y,z,rfl,⟨_,J⟩,⟨_,H⟩⟩:=D;refine⟨cs,⟨Z,U,O,yJP r1 I ⟨?_,?_,?_⟩,yJQ r2 I ?_⟩,e⟩
 · exact(yAH _).symm▸M
 · exact(yAH _).symm▸J
 · exact(yAH _).symm▸H
 · show lq (-pl.2)<=n
   rw[zG6];exact C.2
theorem yBM{F:List Fc}{vs:List Value}{f:Nat}(v:Value)(h:vs.length=f):fvZ F vs f++[((F.getD f zA).1,(v,(F.getD f zA).2.2))]=fvZ F (vs++[v]) (f+1):=by
 subst h
 show _=fvZ F (vs++[v]) vs.length++[((F.getD vs.length zA).1,((vs++[v]).getD vs.length nV,(F.getD vs.length zA).2.2))]
 have D:(vs++[v]).getD vs.length nV=v:=by simp
 rw[D]
 congr 1
 refine sQ _ λu C=>?_;have:(vs++[v]).getD u nV=vs.getD u nV:=by
  rw[zoa,zoa,yoi C]
 rw[this]
def flZ(F:List Fc)(vs:List Value)(i:Nat):List FV:=wO (λu=>(if u<i then opP (F.getD u zA).1 else(F.getD u zA).1,(vs.getD u nV,(F.getD u zA).2.2))) F.length
theorem fl_0{F:List Fc}{vs:List Value}(h:vs.length=F.length):fvZ F vs vs.length=flZ F vs 0:=by
 unfold fvZ flZ;rw[h];exact sQ _ λu _=>by rw[zae (z2u u)]
theorem eS(F:List Fc)(vs:List Value)(i:Nat):(flZ F vs i).length=F.length:=yY _ _
theorem zAR{F:List Fc}{vs:List Value}{i u:Nat}(hu:u<F.length):(flZ F vs i).getD u fv0=(if u<i then opP (F.getD u zA).1 else(F.getD u zA).1,(vs.getD u nV,(F.getD u zA).2.2)):=uO _ fv0 hu
theorem yLC{F:List Fc}{vs:List Value}{i:Nat}(hi:i<F.length):(flZ F vs i).set i (opP ((flZ F vs i).getD i fv0).1,((flZ F vs i).getD i fv0).2)=flZ F vs (i+1):=by
 rw[zAR hi,zae (ymi i)];refine oA fv0 (by rw[lS,eS,eS]) λu C=>?_;rw[lS,eS] at C;rw[zAR C]
 by_cases e:u=i
 · subst e
   rw[zau (Nat.lt_succ_self u),zoa,List.getElem?_set_self (by rw[eS];exact C)];rfl
 · rw[zoa,yte (λh=>e h.symm),<-zoa,zAR C]
   by_cases c:u<i
   · rw[zau c,zau zot]
   · rw[zae c,zae zot]
def rvL(L:List (List Int))(k:Nat):List (List Int):=wO (λq=>if q<k then iJ (L.getD q []) (L.getD q []).length else L.getD q []) L.length
theorem iV(L:List (List Int))(k:Nat):(rvL L k).length=L.length:=yY _ _
theorem zCX{L:List (List Int)}{k q:Nat}(hq:q<L.length):(rvL L k).getD q []=if q<k then iJ (L.getD q []) (L.getD q []).length else L.getD q []:=uO _ [] hq
theorem rv_0(L:List (List Int)):rvL L 0=L:=by
 refine oA [] (iV L 0) λq C=>?_;rw[iV] at C;rw[zCX C,zae (z2u q)]
theorem yJN{L:List (List Int)}{k:Nat}(hk:k<L.length):(rvL L k).set k (iJ ((rvL L k).getD k []) ((rvL L k).getD k []).length)=rvL L (k+1):=by
 rw[zCX hk,zae (ymi k)];refine oA [] (by rw[lS,iV,iV]) λu C=>?_;rw[lS,iV] at C;rw[zCX C]
 by_cases e:u=k
 · subst e
   rw[zau (Nat.lt_succ_self u),zoa,List.getElem?_set_self (by rw[iV];exact C)];rfl
 · rw[zoa,yte (λh=>e h.symm),<-zoa,zCX C]
   by_cases c:u<k
   · rw[zau c,zau zot]
   · rw[zae c,zae zot]
theorem mK.flip{E:Nat}{h:Mem}{vs:List Value}{F:List Fc}{R:List Res}{i:Nat}(r:mK E (rpS rpI) h (vs.drop i) ((lpS F).drop i) R)(hi:i<vs.length)(hx:i<F.length):∃cs R',R=.gs E 1 (vs.getD i nV) (rvL (F.getD i zA).2.1 0).length cs::R'/\(vs.getD i nV).oneCell'=true/\RL (rpS rpI) h cs (rvL (F.getD i zA).2.1 0)/\mK E (rpS rpI) h (vs.drop (i+1)) ((lpS F).drop (i+1)) R':=by
 rw[rv_0,<-zTD F hx];exact r.head hi (by rw[zLQ];exact hx)
def zEU(h:Mem)(vs:List Value)(G:Nat->List (List Int))(i:Nat):Prop:=∀u,u<i->(rpS (rpS rpI)).Is h (vs.getD u nV) (G u)
theorem zEU.mono{h h':Mem}(hh:MLe h h'){vs:List Value}{G:Nat->List (List Int)}{i:Nat}(r:zEU h vs G i):zEU h' vs G i:=λu hu=>(r u hu).mono hh
theorem zEU.next{h h':Mem}(hh:MLe h h'){vs:List Value}{G:Nat->List (List Int)}{i:Nat}(r:zEU h vs G i)(s:(rpS (rpS rpI)).Is h' (vs.getD i nV) (G i)):zEU h' vs G (i+1):=λu hu=>by
 rcases zhu.1 hu with h1|rfl
 · exact(r u h1).mono hh
 · exact s
theorem mK.up{α:Type}{ρ:Rp α}{E:Nat}{h h':Mem}{vs:List Value}{xs:List (List α)}{R:List Res}(r:mK E ρ h vs xs R)(hm:MLe h h':=by exact mle):mK E ρ h' vs xs R:=r.mono hm
theorem zEU.up{h h':Mem}{vs:List Value}{G:Nat->List (List Int)}{i:Nat}(r:zEU h vs G i)(hm:MLe h h':=by exact mle):zEU h' vs G i:=r.mono hm
def fcS(f:Fc):Fc:=(opP f.1,(rvL f.2.1 f.2.1.length,f.2.2))
def flS(s:Sd):Sd:=(s.1,(s.2.1.map fcS,s.2.2))
theorem yLE{h:Mem}{π:Rp Pl}{F:List Fc}{vs:List Value}{cs:List Value}(r:RL (rpP π (rpP rpV qF)) h cs (flZ F vs F.length))(s:zEU h vs (λu=>rvL (F.getD u zA).2.1 (F.getD u zA).2.1.length) F.length):RL (rpP π (rpP (rpS (rpS rpI)) qF)) h cs (F.map fcS):=by
 refine yG5 r (by rw[eS,zde]) λu C=>?_;rw[eS] at C;have e:(F.map fcS).getD u zA=fcS (F.getD u zA):=by
  rw[zoa,zoa,zvi,zoc C];rfl
 rw[zAR C,e,zau C];exact⟨I,I,s u C⟩
end Bk
namespace Go.Proofs.YtpkaegemlpaenaaGreat
open Bk Go Tryz
attribute [local irreducible] GL GC GQ W OpV
theorem zN4{w0:World}{h0:Mem}(hs:MLe h0 (mem w0)){vL:Value}{L:(List (List Int))}(rL:tII.Is h0 vL L)(hcd0:L.length<=100000)(hcd1:∀x,x∈L->x.length<=100000):
 Calls prog 99 #[vL] w0 (tO w0 h0 (λh r L_=>∃vF cs,rpV.Is h r vF/\L_=[.gs 22 1 vF (L).length cs]/\vF.oneCell'=true/\RL (rpS rpI) h cs (L))):=by
 refine cb1 20 vL func99 hs ?_;refine mF ?_;refine xN 22 1 ?_;have aa:=RL.nil (ρ:=rpS rpI) (h:=h0);refine gcL (ι:=Nat×List (List Int)×Value×List Value×Mem) (λ(i,D,C,H,mi)=>(MLe h0 mi/\(RL (rpS rpI) mi H D/\C.oneCell'=true/\i<=L.length/\D=L.take i),[(0,vL),(3,C),(4,vI ↑i)],[.gs 22 1 C D.length H],mi,L.length-i)) (0,[],(.slice none 0 0),[],h0) ?_ ?_
 · exact⟨mle,aa,I,by omega,I⟩
 rintro⟨i,D,C,H,mi⟩ ⟨ap,J,M,bc,hD⟩
 refine xD ?_;have bf:=zOW hcd1 i;have bb:D.length<=i:=by rw[hD,zei];omega
 refine gc9 (λam=>?_) λam=>?_
 ·
  refine go8 ?_;refine lX (xI [] i underlying51 fQ rL) λax ak=>(lX (xA fQ ak) λaw aj=>(zDM 3 1 ?_));have Z:=RL.nil (ρ:=rpI) (h:=mi);refine xP (A:=[]) (uE (zS (ρ:=rpI) (bytes:=8) underlying22 jY I I I I nP I I Z aj bO bO)) I I I ?_
  rintro av ba ⟨ao,ar,rfl,ad⟩
  refine zQ (A:=[]) (ρ:=rpI) ad ?_;intro h1 be U;refine zH (zJ (ρ:=(rpS rpI)) (m:=1) (xs:=[(([]:List Int)++(L.getD i []))]) (ps':=[(0,_)]) underlying51 jD I I I wK e2z (zD I (y4u (y4i _) [] 0 dC) U zP) zoj nP) I I I ?_
  rintro au az ⟨aq,rfl,ac⟩
  refine zQ (A:=[]) (ρ:=(rpS rpI)) ac ?_;intro h2 bd O;refine xP (A:=[]) (uE (zS (ρ:=(rpS rpI)) (bytes:=24) underlying51 jD I I I I nP I I J.up O bO bO)) I I I ?_
  rintro ai ay ⟨ae,ah,rfl,ab⟩
  refine go9 ?_;refine gqL ((i+1),(D++[(([]:List Int)++(L.getD i []))]),ai,ah,h2) ?_ ?_
  · exact⟨mle,ab,ae,by omega,by rw[hD,zhe];exact(zI4 [] oM).symm⟩
  omega
 have ei:i=L.length:=by omega
 have an:D=L:=by rw[hD,ei,z6i]
 refine uY ?_;rw[<-an];refine kV (.cons_cons _ (zsu _)) (λE S=>yB I (tH I) E S) ?_;exact⟨_,_,eM M,I,M,J.up⟩
set_option maxHeartbeats 1000000 in
section
variable{w0:World}{h0:Mem}(hs:MLe h0 (mem w0))
include hs
theorem zVZ{k m n j:Nat}{vs:Value}{s:Sq}(rs:(tSd k m n j).Is h0 vs s)(hcd0:okS s)(hcd1:1<=m)(hcd2:1<=n):
 Calls prog 64 #[vs] w0 (tO w0 h0 (λh r L_=>∃vP csP vF csF vs R,(rpP rpV (rpP rpV (rpS (rpP rpI (rpP rpI (rpQ j)))))).Is h r (vP,(vF,s.2.2))/\L_=.gs 31 9 vP s.1.length csP::.gs 53 14 vF (fvZ s.2.1 vs vs.length).length csF::R/\(vP.oneCell'=true/\vF.oneCell'=true/\vs.length=s.2.1.length)/\RL (tPt k) h csP s.1/\RL (rpP (tPl m n) (rpP rpV qF)) h csF (fvZ s.2.1 vs vs.length)/\mK 22 (rpS rpI) h vs (lpS s.2.1) R)):=by
 have dp:=hcd0.1.1.1;have dn:=hcd0.1.1.2;have dm:=hcd0.1.2;refine cb1 36 vs func64 hs ?_;refine go2 ?_;refine nB rs λb1 cl aj=>(nA (ρ:=(rpP rpV (rpP rpV (rpS (rpP rpI (rpP rpI (rpQ j))))))) (X:=((Value.slice none 0 0),((Value.slice none 0 0),[]))) qX (yE fC (yE fC wK)) λb2 ck bs=>(go3 ?_));refine zL 8 _ [(7,(3,39,[.slice none 0 0,.slice none 0 0,.slice none 0 0]))] [(0,.q),(1,.q),(3,.q),(4,.q),(2,.c),(5,.c),(6,.c),(7,.a),(8,.t)] yF (kL.cons I I (qQ qX I I) kL.nil) zou (qR I I gY) (λr hr=>hr) (go1 ?_);refine wX I (xB qD (y4e pH) aj) λv7 r7=>(go1 ?_);refine wX I (xB yH4 (y5i (y5i pH)) aj) λdh cc=>?_;refine w_c I (iT 31 9 ?_);have be:=RL.nil (ρ:=rpT (rpQ k)) (h:=h0);refine fL (A:=[]) (λX=>uE (zS (ρ:=(tPt k)) (bytes:=168) underlying35 yS I I I I nP I I be r7 bO bO)) I (xQ zoy) ?_
 rintro v8 q8 ⟨bi,cj,rfl,bp⟩
 refine w_c I (iT 237 5 ?_);have bd:=RL.nil (ρ:=rpP rpI (rpP rpI (rpQ j))) (h:=h0);refine fL (A:=[]) (λX=>uE (zS (ρ:=(rpP rpI (rpP rpI (rpQ j)))) (bytes:=72) underlying37 zTM I I I I nP I I bd cc bO bO)) I (xQ zoy) ?_
 rintro df dl ⟨cn,cq,rfl,bg⟩
 refine w_c I (xT (A:=[]) (ρ:=(rpP rpI (rpP rpI (rpQ j)))) bg dK ?_);intro h1 dq ba;refine sX (xV (ρ:=(rpP rpV (rpP rpV (rpS (rpP rpI (rpP rpI (rpQ j))))))) (wE (ps':=[(0,_),(2,_)]) underlying39 qX I I (rK underlying39) e4z I (yE fC (yE fC wK)) (zD I (y4e (y4i _)) (eM bi) (zD I (y5i (y5i (y4i _))) ba zP)))) λde cb=>?_;refine w_a I I (λb3=>?_);have br:(rpP rpV (rpP rpV (rpS (rpP rpI (rpP rpI (rpQ j)))))).R h1 [.slice none 0 0,.slice none 0 0,.slice none 0 0] ((Value.slice none 0 0),((Value.slice none 0 0),[])):=(yE fC (yE fC wK));refine yJ (A:=[]) I (uB sizeOf39 pH br cb) λbm bh=>(go9 ?_);refine xN 53 14 ?_;have bc:=RL.nil (ρ:=rpP (tPl m n) (rpP rpV qF)) (h:=h1);refine gcL (ι:=Nat×List Value×List Res×List Value×Value×List Value×Value×List Value×Mem) (λ(f,us,R,ae,H,D,O,M,ma)=>(MLe h1 ma/\((rpP rpV (rpP rpV (rpS (rpP rpI (rpP rpI (rpQ j)))))).R ma ae (H,(O,s.2.2))/\RL (tPt k) ma D s.1/\H.oneCell'=true/\RL (rpP (tPl m n) (rpP rpV qF)) ma M (fvZ s.2.1 us f)/\O.oneCell'=true/\f<=s.2.1.length/\us.length=f/\mK 22 (rpS rpI) ma us ((lpS s.2.1).take f) R),[(1,vP b1 0),(2,vP b2 0),(3,vP b3 0),(4,vI ↑f)],(.gs 53 14 O (fvZ s.2.1 us f).length M::.var b3 39 ae::.gs 31 9 H s.1.length D::.var b2 39 ck::.var b1 39 cl::R),ma,s.2.1.length-f)) (0,[],([]:List Res),bm,v8,cj,(.slice none 0 0),[],h1) ?_ ?_
 · exact⟨mle,bh,bp.up,bi,bc,I,by omega,I,I⟩
 rintro⟨f,us,R,ae,H,D,O,M,ma⟩ ⟨co,J,aa,ad,Z,ax,dt,am,bl⟩
 refine xD ?_;have dr:(fvZ s.2.1 us f).length=f:=yY _ _;refine go5 ?_;refine lX (xB gS (y5i (y4e pH)) aj) λdd di=>(gc4 (λbj=>?_) λbj=>?_)
 ·
  refine go7 ?_;refine lX (xB gS (y5i (y4e pH)) aj) λdc ca=>(go1 ?_);refine lX (xI zA f underlying36 bQ ca) λdb bz=>(lX (xA bQ bz) λda bx=>?_);obtain⟨ai,az,bb⟩:=yOA bx;refine nA (ρ:=(rpP (tPl m n) (rpP rpV qF))) (X:=((zT,(0:Rat)),((Value.slice none 0 0),([]:List Nat)))) jJ (yE (yE (xW (yM oM)) (yM oM)) (yE fC gP)) λb5 du bq=>(yD (A:=[]) (uB sizeOf53 pH bq az) λci ab=>(go5 ?_));refine lX (sE (xB cD (y5i (y4e pH)) ab)) λcz bw=>?_;subst bw;refine uX (vs:=[_]) I I I I call99 ⟨I,y3e⟩ (λw hs=>zN4 hs bb (by first|omega|exact zci (hcd0.2.1 f oM).1 dC|(intro x hx;obtain⟨q,hq,rfl⟩:=zG3 [] hx;exact zci ((hcd0.2.1 f oM).2 q hq) dC)) (by first|omega|exact zci (hcd0.2.1 f oM).1 dC|(intro x hx;obtain⟨q,hq,rfl⟩:=zG3 [] hx;exact zci ((hcd0.2.1 f oM).2 q hq) dC))) ?_;intro cy h2 dv cf aw;obtain⟨C,ah,aw,rfl,ac,U⟩:=aw;obtain rfl:=yNV aw
  change RL (rpS rpI) h2 ah ((s.2.1.getD f zA).2.1) at U
  refine go1 ?_;refine yD (A:=[_]) (uB sizeOf51 (y5i (y4e pH)) ab (eM ac)) λch av=>(go4 ?_);refine lX (sE (xB gS (y5i (y4e pH)) J)) λcw bv=>?_;subst bv;refine lX (xB bQ pH av) λcv bu=>(zH (zJ (ρ:=(rpP (tPl m n) (rpP rpV qF))) (m:=1) (xs:=[(((s.2.1.getD f zA).1,(ai,(s.2.1.getD f zA).2.2)).1,(C,(((s.2.1.getD f zA).1,(ai,(s.2.1.getD f zA).2.2)).2).2))]) (ps':=[(0,_)]) underlying36 jJ I I I (yE (yE (xW (yM oM)) (yM oM)) (yE fC gP)) e2z (zD I (y4u (y4i _) fv0 0 dC) bu zP) zom nP) I I I ?_)
  rintro cu dk ⟨cp,rfl,bf⟩
  refine zQ (A:=[]) (ρ:=(rpP (tPl m n) (rpP rpV qF))) bf ?_;intro h3 ce ap;refine xP (A:=[_,_]) (uE (zS (ρ:=(rpP (tPl m n) (rpP rpV qF))) (bytes:=264) underlying36 jJ I I I I nP I I Z.up ap bO bO)) I I I ?_
  rintro bo dj ⟨ao,bn,rfl,an⟩
  rw[show((fvZ s.2.1 us f)++[(((s.2.1.getD f zA).1,(ai,(s.2.1.getD f zA).2.2)).1,(C,(((s.2.1.getD f zA).1,(ai,(s.2.1.getD f zA).2.2)).2).2))])=(fvZ s.2.1 (us++[C]) (f+1)) by exact yBM C am] at an ⊢;refine go1 ?_;refine yD (A:=[_,_,_]) (uB sizeOf36 (y5i (y4e pH)) J (eM ao)) λay au=>(go4 ?_);refine zWI (A:=[]) (B:=[_,_,_,_,_,_]) (R:=R) (go4 ?_);refine yW (A:=[]) ?_;refine gqL ((f+1),(us++[C]),(R++[.gs 22 1 C ((s.2.1.getD f zA).2.1).length ah]),ay,H,D,bo,bn,h3) ?_ ?_
  · exact⟨mle,au,aa.up,ad,an,ao,by omega,by rw[lAz,am];rfl,by rw[yAJ oM];exact(bl.mono (cf.trans ce)).snoc (by rw[am,zei,zLQ];omega) ac U.up⟩
  omega
 have ef:f=s.2.1.length:=by omega
 have cd:us.length=s.2.1.length:=by omega
 have bk:mK 22 (rpS rpI) ma us (lpS s.2.1) R:=by rw[<-yE8 s.2.1,<-ef];exact bl
 refine go7 ?_;refine lX (xB jV pH J) λct bt=>(yD (A:=[_,_,_]) (uB sizeOf39 pH bs bt) λcg ar=>(go3 ?_));subst am;refine yBD (A:=[_,_]) (vM (gG (t:=2) jV mh3 I ar) ?_);intro cm ak aq;refine kV (.cons_cons _ (.cons_cons _ (.cons _ (.cons _ (.cons _ (zme _)))))) (λE S=>yB I ak E S) ?_;exact⟨_,_,_,_,us,_,aq,I,⟨ad,ax,cd⟩,aa.up,Z.up,bk⟩
theorem zBN{k l:Nat}{va:Value}{a:Tq}(ra:(tPt k).Is h0 va a){vb:Value}{b:Tq}(rb:(tPt l).Is h0 vb b)(hcd0:k+l<=1000000000):Calls prog 22 #[va,vb] w0 (Ret w0 h0 (λh r=>(tPt (k+l+1)).Is h r (T3.mk (a.x-b.x) (a.y-b.y) (a.z-b.z)))):=by
 obtain⟨O,M,J⟩:=zXN ra;obtain⟨H,D,C⟩:=zXN rb;exact(zN1 hs ra rb hcd0).mono (fM λh r x=>zMZ x (by have:=zG5 a.x b.x;show lq (a.x-b.x)<=_;omega) (by have:=zG5 a.y b.y;show lq (a.y-b.y)<=_;omega) (by have:=zG5 a.z b.z;show lq (a.z-b.z)<=_;omega))
theorem zQX{l k:Nat}{vq:Value}{q:Rat}(rq:(rpQ l).Is h0 vq q){va:Value}{a:Tq}(ra:(tPt k).Is h0 va a)(hcd0:k+l<=1000000000):Calls prog 20 #[vq,va] w0 (Ret w0 h0 (λh r=>(tPt (k+l)).Is h r (T3.mk (q*a.x) (q*a.y) (q*a.z)))):=by
 obtain⟨J,H,D⟩:=zXN ra;have C:=(of_q rq).2;exact(zGN hs rq ra hcd0).mono (fM λh r x=>zMZ x (by have:=dF q a.x;show lq (q*a.x)<=_;omega) (by have:=dF q a.y;show lq (q*a.y)<=_;omega) (by have:=dF q a.z;show lq (q*a.z)<=_;omega))
theorem zQ8{k l:Nat}{va:Value}{a:Tq}(ra:(tPt k).Is h0 va a){vb:Value}{b:Tq}(rb:(tPt l).Is h0 vb b)(hcd0:k+l<=10000000000):
 Calls prog 154 #[va,vb,vF 160 []] w0 (Ret w0 h0 (λh r=>(tPt (k+l+1+1)).Is h r (T3.mk (a.x+b.x) (a.y+b.y) (a.z+b.z)))):=by
 refine cb3 24 va vb (vF 160 []) func154 hs ?_;refine go2 ?_;refine nB ra λb3 bm aa=>(nB rb λb4 bl Z=>(nA (ρ:=(tPt (k+l+1+1))) (X:=zT) yS (xW (yM oM)) λb6 bk ba=>(go4 ?_)));refine nA (ρ:=(tPt (k+l+1+1))) (X:=zT) yS (xW (yM oM)) λb7 bj az=>(go9 ?_);refine tV (go2 ?_);refine gv (OpV.tr dC (yO (q:=3) I I)) I (sS ?_);refine zL 10 _ [] (zai 0 8 [(8,.c),(9,.q),(10,.t)]) yF nX zou nX (λr hr=>hr) (go4 ?_);refine wX I (xB yI (y5u pH) aa) λay aj=>(go2 ?_);refine wX I (xB yI (y5u pH) Z) λav ae=>?_;refine w_c I (aN (cO (vs:=[_,_]) call160 I e2z) I (λw hs=>aV hs aj ae oM) ?_);intro O h1 bi H
 change (rpQ (k+l+1)).Is h1 O (a.x+b.x) at H
 refine go1 ?_;refine yJ (A:=[]) I (uB sizeOf29 (y5u pH) az (H.le (Le.q (l:=k+l+1+1) oM))) λbe ap=>(go4 ?_);refine gv ((zU (q:=1) I I oM oM).cv (show _=vI (1) from I)) I (go2 ?_);refine wQ (go2 ?_);refine gv (OpV.tr dC (yO (q:=3) I I)) I (sS ?_);refine zL 10 _ [] (zai 0 8 [(8,.c),(9,.q),(10,.t)]) yF nX zou nX (λr hr=>hr) (go4 ?_);refine wX I (xB yI (y5e pH) aa) λax ai=>(go2 ?_);refine wX I (xB yI (y5e pH) Z) λau ad=>?_;refine w_c I (aN (cO (vs:=[_,_]) call160 I e2z) I (λw hs=>aV hs ai ad oM) ?_);intro M h2 bh D
 change (rpQ (k+l+1)).Is h2 M (a.y+b.y) at D
 refine go1 ?_;refine yJ (A:=[]) I (uB sizeOf29 (y5e pH) ap (D.le (Le.q (l:=k+l+1+1) oM))) λbd ao=>(go4 ?_);refine gv ((zU (q:=1) I I oM oM).cv (show _=vI (2) from I)) I (go2 ?_);refine wQ (go2 ?_);refine gv (OpV.tr dC (yO (q:=3) I I)) I (sS ?_);refine zL 10 _ [] (zai 0 8 [(8,.c),(9,.q),(10,.t)]) yF nX zou nX (λr hr=>hr) (go4 ?_);refine wX I (xB yI (y6i pH) aa) λaw ah=>(go2 ?_);refine wX I (xB yI (y6i pH) Z) λar ac=>?_;refine w_c I (aN (cO (vs:=[_,_]) call160 I e2z) I (λw hs=>aV hs ah ac oM) ?_);intro J h3 bg C
 change (rpQ (k+l+1)).Is h3 J (a.z+b.z) at C
 refine go1 ?_;refine yJ (A:=[]) I (uB sizeOf29 (y6i pH) ao (C.le (Le.q (l:=k+l+1+1) oM))) λbc an=>(go4 ?_);refine gv ((zU (q:=1) I I oM oM).cv (show _=vI (3) from I)) I (go2 ?_);refine wQ (go2 ?_);refine gv (OpV.fa dC (yO (q:=3) I I)) I (qK ?_);refine lX (xB zN pH an) λaq ab=>(yD (A:=[_]) (uB sizeOf31 pH ba ab) λbb am=>(go3 ?_));refine vM (gG (t:=6) zN mh1 I am) ?_;intro bf ak U;refine xC (λE S=>yB I ak E S) ?_;exact U
theorem zQ6{k l:Nat}{va:Value}{a:Tq}(ra:(tPt k).Is h0 va a){vb:Value}{b:Tq}(rb:(tPt l).Is h0 vb b)(hcd0:k+l<=10000000000):
 Calls prog 154 #[va,vb,vF 121 []] w0 (Ret w0 h0 (λh r=>(tPt (k+l+1+1)).Is h r (T3.mk (a.x-b.x) (a.y-b.y) (a.z-b.z)))):=by
 refine cb3 24 va vb (vF 121 []) func154 hs ?_;refine go2 ?_;refine nB ra λb3 bm ah=>(nB rb λb4 bl ae=>(nA (ρ:=(tPt (k+l+1+1))) (X:=zT) yS (xW (yM oM)) λb6 bk ba=>(go4 ?_)));refine nA (ρ:=(tPt (k+l+1+1))) (X:=zT) yS (xW (yM oM)) λb7 bj az=>(go9 ?_);refine tV (go2 ?_);refine gv (OpV.tr dC (yO (q:=3) I I)) I (sS ?_);refine zL 10 _ [] (zai 0 8 [(8,.c),(9,.q),(10,.t)]) yF nX zou nX (λr hr=>hr) (go4 ?_);refine wX I (xB yI (y5u pH) ah) λay ap=>(go2 ?_);refine wX I (xB yI (y5u pH) ae) λav am=>?_;refine w_c I (aN (cO (vs:=[_,_]) call121 I e2z) I (λw hs=>fY hs ap am oM) ?_);intro U h1 bi H
 change (rpQ (k+l+1)).Is h1 U (a.x-b.x) at H
 refine go1 ?_;refine yJ (A:=[]) I (uB sizeOf29 (y5u pH) az (H.le (Le.q (l:=k+l+1+1) oM))) λbe ad=>(go4 ?_);refine gv ((zU (q:=1) I I oM oM).cv (show _=vI (1) from I)) I (go2 ?_);refine wQ (go2 ?_);refine gv (OpV.tr dC (yO (q:=3) I I)) I (sS ?_);refine zL 10 _ [] (zai 0 8 [(8,.c),(9,.q),(10,.t)]) yF nX zou nX (λr hr=>hr) (go4 ?_);refine wX I (xB yI (y5e pH) ah) λax ao=>(go2 ?_);refine wX I (xB yI (y5e pH) ae) λau ak=>?_;refine w_c I (aN (cO (vs:=[_,_]) call121 I e2z) I (λw hs=>fY hs ao ak oM) ?_);intro O h2 bh D
 change (rpQ (k+l+1)).Is h2 O (a.y-b.y) at D
 refine go1 ?_;refine yJ (A:=[]) I (uB sizeOf29 (y5e pH) ad (D.le (Le.q (l:=k+l+1+1) oM))) λbd ac=>(go4 ?_);refine gv ((zU (q:=1) I I oM oM).cv (show _=vI (2) from I)) I (go2 ?_);refine wQ (go2 ?_);refine gv (OpV.tr dC (yO (q:=3) I I)) I (sS ?_);refine zL 10 _ [] (zai 0 8 [(8,.c),(9,.q),(10,.t)]) yF nX zou nX (λr hr=>hr) (go4 ?_);refine wX I (xB yI (y6i pH) ah) λaw an=>(go2 ?_);refine wX I (xB yI (y6i pH) ae) λar aj=>?_;refine w_c I (aN (cO (vs:=[_,_]) call121 I e2z) I (λw hs=>fY hs an aj oM) ?_);intro M h3 bg C
 change (rpQ (k+l+1)).Is h3 M (a.z-b.z) at C
 refine go1 ?_;refine yJ (A:=[]) I (uB sizeOf29 (y6i pH) ac (C.le (Le.q (l:=k+l+1+1) oM))) λbc ab=>(go4 ?_);refine gv ((zU (q:=1) I I oM oM).cv (show _=vI (3) from I)) I (go2 ?_);refine wQ (go2 ?_);refine gv (OpV.fa dC (yO (q:=3) I I)) I (qK ?_);refine lX (xB zN pH ab) λaq ai=>(yD (A:=[_]) (uB sizeOf31 pH ba ai) λbb aa=>(go3 ?_));refine vM (gG (t:=6) zN mh1 I aa) ?_;intro bf J Z;refine xC (λE S=>yB I J E S) ?_;exact Z
theorem zQ7{k l:Nat}{va:Value}{a:Tq}(ra:(tPt k).Is h0 va a){vb:Value}{b:Tq}(rb:(tPt l).Is h0 vb b)(hcd0:k+l<=10000000000):
 Calls prog 154 #[va,vb,vF 153 []] w0 (Ret w0 h0 (λh r=>(tPt (k+l+1)).Is h r (T3.mk (a.x*b.x) (a.y*b.y) (a.z*b.z)))):=by
 refine cb3 24 va vb (vF 153 []) func154 hs ?_;refine go2 ?_;refine nB ra λb3 bm an=>(nB rb λb4 bl am=>(nA (ρ:=(tPt (k+l+1))) (X:=zT) yS (xW (yM oM)) λb6 bk ba=>(go4 ?_)));refine nA (ρ:=(tPt (k+l+1))) (X:=zT) yS (xW (yM oM)) λb7 bj az=>(go9 ?_);refine tV (go2 ?_);refine gv (OpV.tr dC (yO (q:=3) I I)) I (sS ?_);refine zL 10 _ [] (zai 0 8 [(8,.c),(9,.q),(10,.t)]) yF nX zou nX (λr hr=>hr) (go4 ?_);refine wX I (xB yI (y5u pH) an) λay ap=>(go2 ?_);refine wX I (xB yI (y5u pH) am) λax ao=>?_;refine w_c I (aN (cO (vs:=[_,_]) call153 I e2z) I (λw hs=>kT hs ap ao oM) ?_);intro ad h1 bi H
 change (rpQ (k+l)).Is h1 ad (a.x*b.x) at H
 refine go1 ?_;refine yJ (A:=[]) I (uB sizeOf29 (y5u pH) az (H.le (Le.q (l:=k+l+1) oM))) λbe ak=>(go4 ?_);refine gv ((zU (q:=1) I I oM oM).cv (show _=vI (1) from I)) I (go2 ?_);refine wQ (go2 ?_);refine gv (OpV.tr dC (yO (q:=3) I I)) I (sS ?_);refine zL 10 _ [] (zai 0 8 [(8,.c),(9,.q),(10,.t)]) yF nX zou nX (λr hr=>hr) (go4 ?_);refine wX I (xB yI (y5e pH) an) λaw ab=>(go2 ?_);refine wX I (xB yI (y5e pH) am) λau Z=>?_;refine w_c I (aN (cO (vs:=[_,_]) call153 I e2z) I (λw hs=>kT hs ab Z oM) ?_);intro M h2 bh D
 change (rpQ (k+l)).Is h2 M (a.y*b.y) at D
 refine go1 ?_;refine yJ (A:=[]) I (uB sizeOf29 (y5e pH) ak (D.le (Le.q (l:=k+l+1) oM))) λbd aj=>(go4 ?_);refine gv ((zU (q:=1) I I oM oM).cv (show _=vI (2) from I)) I (go2 ?_);refine wQ (go2 ?_);refine gv (OpV.tr dC (yO (q:=3) I I)) I (sS ?_);refine zL 10 _ [] (zai 0 8 [(8,.c),(9,.q),(10,.t)]) yF nX zou nX (λr hr=>hr) (go4 ?_);refine wX I (xB yI (y6i pH) an) λav aa=>(go2 ?_);refine wX I (xB yI (y6i pH) am) λar U=>?_;refine w_c I (aN (cO (vs:=[_,_]) call153 I e2z) I (λw hs=>kT hs aa U oM) ?_);intro J h3 bg C
 change (rpQ (k+l)).Is h3 J (a.z*b.z) at C
 refine go1 ?_;refine yJ (A:=[]) I (uB sizeOf29 (y6i pH) aj (C.le (Le.q (l:=k+l+1) oM))) λbc ai=>(go4 ?_);refine gv ((zU (q:=1) I I oM oM).cv (show _=vI (3) from I)) I (go2 ?_);refine wQ (go2 ?_);refine gv (OpV.fa dC (yO (q:=3) I I)) I (qK ?_);refine lX (xB zN pH ai) λaq O=>(yD (A:=[_]) (uB sizeOf31 pH ba O) λbb ah=>(go3 ?_));refine vM (gG (t:=6) zN mh1 I ah) ?_;intro bf ac ae;refine xC (λE S=>yB I ac E S) ?_;exact ae
theorem yEU{k l:Nat}{va:Value}{a:Tq}(ra:(tPt k).Is h0 va a){vb:Value}{b:Tq}(rb:(tPt l).Is h0 vb b)(hcd0:k+l<=10000000000):
 Calls prog 124 #[va,vb] w0 (Ret w0 h0 (λh r=>(tPt (k+l+2)).Is h r (T3.mk (a.x+b.x) (a.y+b.y) (a.z+b.z)))):=by
 refine cb2 8 va vb func124 hs ?_;refine go2 ?_;refine nB ra λb2 ae O=>(nB rb λb3 ad M=>(nA (ρ:=(tPt (k+l+2))) (X:=zT) yS (xW (yM oM)) λb4 ac J=>(go4 ?_)));refine lX (xB zN pH O) λv5 r5=>(lX (xB zN pH M) λv6 r6=>(cL (ev3 I I I) call154 (λw hs=>zQ8 hs r5 r6 oM) λv7 h1 ab U=>?_));replace U:=Rp.Is.le U (Le.t (Le.q (l:=k+l+2) oM));refine yD (A:=[]) (uB sizeOf31 pH J U) λZ H=>(go3 ?_);refine vM (gG (t:=4) zN mh0 I H) ?_;intro aa C D;refine xC (λE S=>yB I C E S) ?_;exact D
theorem zK8{k l:Nat}{va:Value}{a:Tq}(ra:(tPt k).Is h0 va a){vb:Value}{b:Tq}(rb:(tPt l).Is h0 vb b)(hcd0:k+l<=10000000000):
 Calls prog 115 #[va,vb] w0 (Ret w0 h0 (λh r=>(tPt (k+l+2)).Is h r (T3.mk (a.x-b.x) (a.y-b.y) (a.z-b.z)))):=by
 refine cb2 8 va vb func115 hs ?_;refine go2 ?_;refine nB ra λb2 ae O=>(nB rb λb3 ad M=>(nA (ρ:=(tPt (k+l+2))) (X:=zT) yS (xW (yM oM)) λb4 ac J=>(go4 ?_)));refine lX (xB zN pH O) λv5 r5=>(lX (xB zN pH M) λv6 r6=>(cL (ev3 I I I) call154 (λw hs=>zQ6 hs r5 r6 oM) λv7 h1 ab U=>?_));replace U:=Rp.Is.le U (Le.t (Le.q (l:=k+l+2) oM));refine yD (A:=[]) (uB sizeOf31 pH J U) λZ H=>(go3 ?_);refine vM (gG (t:=4) zN mh0 I H) ?_;intro aa C D;refine xC (λE S=>yB I C E S) ?_;exact D
theorem zVO{l k:Nat}{vq:Value}{q:Rat}(rq:(rpQ l).Is h0 vq q){va:Value}{a:Tq}(ra:(tPt k).Is h0 va a)(hcd0:k+l<=1000000000):
 Calls prog 125 #[vq,va] w0 (Ret w0 h0 (λh r=>(tPt (k+l+2)).Is h r (T3.mk (q*a.x) (q*a.y) (q*a.z)))):=by
 refine cb2 11 vq va func125 hs ?_;refine go2 ?_;refine nB rq λb2 ah J=>(nB ra λb3 ae U=>(nA (ρ:=(tPt (k+l+2))) (X:=zT) yS (xW (yM oM)) λb4 ad O=>(go4 ?_)));refine lX (xB yI pH J) λv5 r5=>(lX (xB yI pH J) λv6 r6=>(lX (xB yI pH J) λv7 r7=>(lX (xV (ρ:=(tPt (l+1))) (wH (ps':=[(0,_),(1,_),(2,_)]) underlying31 yS I I sizeOf29 e6z I (xW (yM oM)) (zD I (y5u (y4i _)) (r5.le (Le.q (l:=l+1) oM)) (zD I (y5e (y4i _)) (r6.le (Le.q (l:=l+1) oM)) (zD I (y6i (y4i _)) (r7.le (Le.q (l:=l+1) oM)) zP))))) λv8 r8=>(lX (xB zN pH U) λv9 r9=>(cL (ev3 I I I) call154 (λw hs=>zQ7 hs r8 r9 oM) λab h1 ac M=>?_)))));replace M:=Rp.Is.le M (Le.t (Le.q (l:=k+l+2) oM));refine yD (A:=[]) (uB sizeOf31 pH O M) λZ H=>(go3 ?_);refine vM (gG (t:=4) zN mh0 I H) ?_;intro aa C D;refine xC (λE S=>yB I C E S) ?_;exact D
theorem zE1{k l:Nat}{va:Value}{a:Tq}(ra:(tPt k).Is h0 va a){vb:Value}{b:Tq}(rb:(tPt l).Is h0 vb b)(hcd0:k+l<=1000000000):
 Calls prog 120 #[va,vb] w0 (Ret w0 h0 (λh r=>(rpQ (3*k+3*l+9)).Is h r (zM a b))):=by
 refine cb2 21 va vb func120 hs ?_;refine go2 ?_;refine nB ra λb2 cf bd=>(nB rb λb3 ce bc=>(nA (ρ:=(rpQ (3*k+3*l+9))) (X:=(0:Rat)) wD (yM oM) λb4 cd bp=>(go4 ?_)));refine nA (ρ:=(rpQ 1)) (X:=(0:Rat)) wD (yM dC) λb5 cc be=>(go9 ?_);refine tV (go2 ?_);refine gv (OpV.tr dC (yO (q:=3) I I)) I (sS ?_);refine zL 9 _ [] (zai 0 7 [(7,.c),(8,.c),(9,.t)]) yF nX zou nX (λr hr=>hr) (wX I (xB yI pH be) λbo au=>(go2 ?_));refine wX I (xB yI (y5u pH) bd) λbl ap=>(go2 ?_);refine wX I (xB yI (y5u pH) bc) λbi am=>?_;refine w_c I (sC (ev2 I I) call153 (λw hs=>kT hs ap am oM) λah h1 cb O=>?_)
 change (rpQ (k+l)).Is h1 ah (a.x*b.x) at O
 refine w_c I (sC (ev2 I I) call160 (λw hs=>aV hs au.up O oM) λac h2 ca H=>?_)
 change (rpQ (1+(k+l)+1)).Is h2 ac ((0:Rat)+(a.x*b.x)) at H
 replace H:=Rp.Is.le H (Le.q (l:=k+l+2) oM);have ay:=(Le.q (l:=k+l+2) oM).R be;refine yJ (A:=[]) I (uB sizeOf29 pH ay H) λbt Z=>(go4 ?_);refine gv ((zU (q:=1) I I oM oM).cv (show _=vI (1) from I)) I (go2 ?_);refine wQ (go2 ?_);refine gv (OpV.tr dC (yO (q:=3) I I)) I (sS ?_);refine zL 9 _ [] (zai 0 7 [(7,.c),(8,.c),(9,.t)]) yF nX zou nX (λr hr=>hr) (wX I (xB yI pH Z) λbn ar=>(go2 ?_));refine wX I (xB yI (y5e pH) bd) λbk ao=>(go2 ?_);refine wX I (xB yI (y5e pH) bc) λbh ak=>?_;refine w_c I (sC (ev2 I I) call153 (λw hs=>kT hs ao ak oM) λae h3 bz M=>?_)
 change (rpQ (k+l)).Is h3 ae (a.y*b.y) at M
 refine w_c I (sC (ev2 I I) call160 (λw hs=>aV hs ar.up M oM) λab h4 bx D=>?_)
 change (rpQ ((k+l+2)+(k+l)+1)).Is h4 ab (((0:Rat)+(a.x*b.x))+(a.y*b.y)) at D
 replace D:=Rp.Is.le D (Le.q (l:=2*k+2*l+3) oM);have ax:=(Le.q (l:=2*k+2*l+3) oM).R Z;refine yJ (A:=[]) I (uB sizeOf29 pH ax D) λbs U=>(go4 ?_);refine gv ((zU (q:=1) I I oM oM).cv (show _=vI (2) from I)) I (go2 ?_);refine wQ (go2 ?_);refine gv (OpV.tr dC (yO (q:=3) I I)) I (sS ?_);refine zL 9 _ [] (zai 0 7 [(7,.c),(8,.c),(9,.t)]) yF nX zou nX (λr hr=>hr) (wX I (xB yI pH U) λbm aq=>(go2 ?_));refine wX I (xB yI (y6i pH) bd) λbj an=>(go2 ?_);refine wX I (xB yI (y6i pH) bc) λbg aj=>?_;refine w_c I (sC (ev2 I I) call153 (λw hs=>kT hs an aj oM) λad h5 bw J=>?_)
 change (rpQ (k+l)).Is h5 ad (a.z*b.z) at J
 refine w_c I (sC (ev2 I I) call160 (λw hs=>aV hs aq.up J oM) λaa h6 bv C=>?_)
 change (rpQ ((2*k+2*l+3)+(k+l)+1)).Is h6 aa ((((0:Rat)+(a.x*b.x))+(a.y*b.y))+(a.z*b.z)) at C
 replace C:=Rp.Is.le C (Le.q (l:=3*k+3*l+4) oM);have aw:=(Le.q (l:=3*k+3*l+4) oM).R U;refine yJ (A:=[]) I (uB sizeOf29 pH aw C) λbr bb=>(go4 ?_);refine gv ((zU (q:=1) I I oM oM).cv (show _=vI (3) from I)) I (go2 ?_);refine wQ (go2 ?_);refine gv (OpV.fa dC (yO (q:=3) I I)) I (qK ?_);refine lX (xB yI pH bb) λbf ai=>(yD (A:=[_]) (uB sizeOf29 pH bp (ai.le (Le.q (l:=3*k+3*l+9) oM))) λbq ba=>(go3 ?_));refine vM (gG (t:=4) yI mh1 I ba) ?_;intro bu av az;refine xC (λE S=>yB I av E S) ?_;exact(Rp.Is.cast az (by unfold zM;grind))
theorem zJG{k l:Nat}{va:Value}{a:Tq}(ra:(tPt k).Is h0 va a){vb:Value}{b:Tq}(rb:(tPt l).Is h0 vb b)(hcd0:k+l<=1000000000):
 Calls prog 114 #[va,vb] w0 (Ret w0 h0 (λh r=>(tPt (2*k+2*l+3)).Is h r (yC a b))):=by
 refine cb2 37 va vb func114 hs ?_;refine go2 ?_;refine nB ra λb2 ct ac=>(nB rb λb3 cq ab=>(nA (ρ:=(tPt (2*k+2*l+3))) (X:=zT) yS (xW (yM oM)) λb4 cp bz=>(go4 ?_)));refine nA (ρ:=(tPt (2*k+2*l+3))) (X:=zT) yS (xW (yM oM)) λb5 co bx=>(go9 ?_);refine tV (go2 ?_);refine gv (OpV.tr dC (yO (q:=3) I I)) I (mF ?_);refine gv ((zU (q:=1) I I oM oM).cv (show _=vI (1) from I)) I (gv ((wI (q:=3) I I oM oM).cv (show _=vI (1) from I)) I (go1 ?_));refine gv ((zU (q:=2) I I oM oM).cv (show _=vI (2) from I)) I (gv ((wI (q:=3) I I oM oM).cv (show _=vI (2) from I)) I (go4 ?_));refine zL 17 _ [] (zai 0 7 (zai 8 6 [(7,.c),(14,.c),(15,.c),(16,.q),(17,.t)])) yF nX (wS zou) nX (λr hr=>hr) (go3 ?_);refine wX I (xB yI (y5e pH) ac) λbw bd=>(go2 ?_);refine wX I (xB yI (y6i pH) ab) λbt ba=>(go2 ?_);refine wX I (xB yI (y6i pH) ac) λbq ax=>(go2 ?_);refine wX I (xB yI (y5e pH) ab) λbn au=>?_;refine w_c I (sC (ev2 I I) call153 (λw hs=>kT hs bd ba oM) λao h1 cn aa=>?_)
 change (rpQ (k+l)).Is h1 ao (a.y*b.z) at aa
 refine w_c I (sC (ev2 I I) call153 (λw hs=>kT hs ax.up au.up oM) λak h2 cm O=>?_)
 change (rpQ (k+l)).Is h2 ak (a.z*b.y) at O
 refine w_c I (sC (ev2 I I) call121 (λw hs=>fY hs aa.up O oM) λah h3 cl H=>?_)
 change (rpQ ((k+l)+(k+l)+1)).Is h3 ah ((a.y*b.z)-(a.z*b.y)) at H
 replace H:=Rp.Is.le H (Le.q (l:=2*k+2*l+1) oM);refine go1 ?_;refine yJ (A:=[]) I (uB sizeOf29 (y5u pH) bx (H.le (Le.q (l:=2*k+2*l+3) oM))) λcd bj=>(go4 ?_);refine gv ((zU (q:=1) I I oM oM).cv (show _=vI (1) from I)) I (go2 ?_);refine wQ (go2 ?_);refine gv (OpV.tr dC (yO (q:=3) I I)) I (mF ?_);refine gv ((zU (q:=1) I I oM oM).cv (show _=vI (2) from I)) I (gv ((wI (q:=3) I I oM oM).cv (show _=vI (2) from I)) I (go1 ?_));refine gv ((zU (q:=2) I I oM oM).cv (show _=vI (3) from I)) I (gv ((wI (q:=3) I I oM oM).cv (show _=vI (0) from I)) I (go4 ?_));refine zL 17 _ [] (zai 0 7 (zai 8 6 [(7,.c),(14,.c),(15,.c),(16,.q),(17,.t)])) yF nX (wS zou) nX (λr hr=>hr) (go3 ?_);refine wX I (xB yI (y6i pH) ac) λbv bc=>(go2 ?_);refine wX I (xB yI (y5u pH) ab) λbs az=>(go2 ?_);refine wX I (xB yI (y5u pH) ac) λbp aw=>(go2 ?_);refine wX I (xB yI (y6i pH) ab) λbm ar=>?_;refine w_c I (sC (ev2 I I) call153 (λw hs=>kT hs bc az oM) λan h4 ck Z=>?_)
 change (rpQ (k+l)).Is h4 an (a.z*b.x) at Z
 refine w_c I (sC (ev2 I I) call153 (λw hs=>kT hs aw.up ar.up oM) λaj h5 cj M=>?_)
 change (rpQ (k+l)).Is h5 aj (a.x*b.z) at M
 refine w_c I (sC (ev2 I I) call121 (λw hs=>fY hs Z.up M oM) λae h6 ci D=>?_)
 change (rpQ ((k+l)+(k+l)+1)).Is h6 ae ((a.z*b.x)-(a.x*b.z)) at D
 replace D:=Rp.Is.le D (Le.q (l:=2*k+2*l+1) oM);refine go1 ?_;refine yJ (A:=[]) I (uB sizeOf29 (y5e pH) bj (D.le (Le.q (l:=2*k+2*l+3) oM))) λcc bi=>(go4 ?_);refine gv ((zU (q:=1) I I oM oM).cv (show _=vI (2) from I)) I (go2 ?_);refine wQ (go2 ?_);refine gv (OpV.tr dC (yO (q:=3) I I)) I (mF ?_);refine gv ((zU (q:=1) I I oM oM).cv (show _=vI (3) from I)) I (gv ((wI (q:=3) I I oM oM).cv (show _=vI (0) from I)) I (go1 ?_));refine gv ((zU (q:=2) I I oM oM).cv (show _=vI (4) from I)) I (gv ((wI (q:=3) I I oM oM).cv (show _=vI (1) from I)) I (go4 ?_));refine zL 17 _ [] (zai 0 7 (zai 8 6 [(7,.c),(14,.c),(15,.c),(16,.q),(17,.t)])) yF nX (wS zou) nX (λr hr=>hr) (go3 ?_);refine wX I (xB yI (y5u pH) ac) λbu bb=>(go2 ?_);refine wX I (xB yI (y5e pH) ab) λbr ay=>(go2 ?_);refine wX I (xB yI (y5e pH) ac) λbo av=>(go2 ?_);refine wX I (xB yI (y5u pH) ab) λbl aq=>?_;refine w_c I (sC (ev2 I I) call153 (λw hs=>kT hs bb ay oM) λam h7 ch U=>?_)
 change (rpQ (k+l)).Is h7 am (a.x*b.y) at U
 refine w_c I (sC (ev2 I I) call153 (λw hs=>kT hs av.up aq.up oM) λai h8 cg J=>?_)
 change (rpQ (k+l)).Is h8 ai (a.y*b.x) at J
 refine w_c I (sC (ev2 I I) call121 (λw hs=>fY hs U.up J oM) λad h9 cf C=>?_)
 change (rpQ ((k+l)+(k+l)+1)).Is h9 ad ((a.x*b.y)-(a.y*b.x)) at C
 replace C:=Rp.Is.le C (Le.q (l:=2*k+2*l+1) oM);refine go1 ?_;refine yJ (A:=[]) I (uB sizeOf29 (y6i pH) bi (C.le (Le.q (l:=2*k+2*l+3) oM))) λcb bh=>(go4 ?_);refine gv ((zU (q:=1) I I oM oM).cv (show _=vI (3) from I)) I (go2 ?_);refine wQ (go2 ?_);refine gv (OpV.fa dC (yO (q:=3) I I)) I (qK ?_);refine lX (xB zN pH bh) λbk ap=>(yD (A:=[_]) (uB sizeOf31 pH bz ap) λca bg=>(go3 ?_));refine vM (gG (t:=4) zN mh1 I bg) ?_;intro ce be bf;refine xC (λE S=>yB I be E S) ?_;exact bf
theorem zNT{k l:Nat}{va:Value}{a:Tq}(ra:(tPt k).Is h0 va a){vb:Value}{b:Tq}(rb:(tPt l).Is h0 vb b)(hcd0:k+l<=10000000000):
 Calls prog 119 #[va,vb] w0 (Ret w0 h0 (λ_ r=>r=vB (a=b))):=by
 refine cb2 18 va vb func119 hs ?_;refine go2 ?_;refine nB ra λb2 aw ai=>(nB rb λb3 av ah=>(uQ ?_));refine tV (go2 ?_);refine gv (OpV.tr dC (yO (q:=3) I I)) I (pX ?_);refine zL 8 _ [] (zai 0 6 [(6,.c),(7,.q)]) yF nX zou nX (λr hr=>hr) (go2 ?_);refine wX I (xB yI (y5u pH) ai) λap ae=>(go2 ?_);refine wX I (xB yI (y5u pH) ah) λam ab=>?_;refine w_c I (sC (ev2 I I) call159 (λw hs=>zAG hs ae ab oM) λJ h1 au U=>?_);obtain rfl:J=vB (a.x=b.x):=U;refine gc3 (λC=>?_) λC=>?_
 ·
  refine qK ?_;refine zC I I ?_
  first|exact(wA (by rw[kJ];grind)).symm|exact(yN (by rw[kJ];grind)).symm
 refine go4 ?_;refine gv ((zU (q:=1) I I oM oM).cv (show _=vI (1) from I)) I (go2 ?_);refine wQ (go2 ?_);refine gv (OpV.tr dC (yO (q:=3) I I)) I (pX ?_);refine zL 8 _ [] (zai 0 6 [(6,.c),(7,.q)]) yF nX zou nX (λr hr=>hr) (go2 ?_);refine wX I (xB yI (y5e pH) ai) λao ad=>(go2 ?_);refine wX I (xB yI (y5e pH) ah) λak aa=>?_;refine w_c I (sC (ev2 I I) call159 (λw hs=>zAG hs ad aa oM) λH h2 ar O=>?_);obtain rfl:H=vB (a.y=b.y):=O;refine gc3 (λC=>?_) λC=>?_
 ·
  refine qK ?_;refine zC I I ?_
  first|exact(wA (by rw[kJ];grind)).symm|exact(yN (by rw[kJ];grind)).symm
 refine go4 ?_;refine gv ((zU (q:=1) I I oM oM).cv (show _=vI (2) from I)) I (go2 ?_);refine wQ (go2 ?_);refine gv (OpV.tr dC (yO (q:=3) I I)) I (pX ?_);refine zL 8 _ [] (zai 0 6 [(6,.c),(7,.q)]) yF nX zou nX (λr hr=>hr) (go2 ?_);refine wX I (xB yI (y6i pH) ai) λan ac=>(go2 ?_);refine wX I (xB yI (y6i pH) ah) λaj Z=>?_;refine w_c I (sC (ev2 I I) call159 (λw hs=>zAG hs ac Z oM) λD h3 aq M=>?_);obtain rfl:D=vB (a.z=b.z):=M;refine gc3 (λC=>?_) λC=>?_
 ·
  refine qK ?_;refine zC I I ?_
  first|exact(wA (by rw[kJ];grind)).symm|exact(yN (by rw[kJ];grind)).symm
 refine go4 ?_;refine gv ((zU (q:=1) I I oM oM).cv (show _=vI (3) from I)) I (go2 ?_);refine wQ (go2 ?_);refine gv (OpV.fa dC (yO (q:=3) I I)) I (pX ?_);refine zC I I ?_
 first|exact(wA (by rw[kJ];grind)).symm|exact(yN (by rw[kJ];grind)).symm
theorem zGI{k:Nat}{va:Value}{a:Tq}(ra:(tPt k).Is h0 va a)(hcd0:k<=1000000000):
 Calls prog 78 #[va] w0 (Ret w0 h0 (λ_ r=>r=vB (a=zT))):=by
 refine cb1 6 va func78 hs ?_;refine go2 ?_;refine nB ra λO M C=>(go5 ?_);refine lX (xB zN pH C) λv3 r3=>(lX (xV (ρ:=(tPt 1)) (wH (ps':=[]) underlying31 yS I I sizeOf29 trivial I (xW (yM dC)) zP)) λv4 r4=>(cL (ev2 I I) call119 (λw hs=>zNT hs r3 r4 oM) λD h1 J H=>?_));obtain rfl:D=vB (a=zT):=H;refine go4 ?_;refine zC I I ?_
 rfl
theorem zBM{m l k:Nat}{vs:Value}{s:Pq}(rs:(tPl m l).Is h0 vs s){vp:Value}{p:Tq}(rp:(tPt k).Is h0 vp p)(hcd0:k<=100000000)(hcd1:l<=100000000)(hcd2:m<=100000000):
 Calls prog 147 #[vs,vp] w0 (Ret w0 h0 (λ_ r=>r=vI (sdZ s p))):=by
 refine cb2 12 vs vp func147 hs ?_;refine go2 ?_;refine nB rs λb2 ad C=>(nB rp λb3 ac H=>(go4 ?_));refine zL 8 _ [] [(0,.q),(1,.q),(2,.q),(4,.q),(5,.q),(3,.c),(6,.c),(7,.q)] yF nX zou nX (λr hr=>hr) (go1 ?_);refine wX I (xB zN (y4e pH) C) λv6 r6=>(wX I (xB zN pH H) λv7 r7=>(go1 ?_));refine wX I (xB yI (y5i pH) C) λZ O=>?_;refine w_c I (sC (ev2 I I) call120 (λw hs=>zE1 hs r6 r7 oM) λv8 h1 ab J=>?_);replace J:=Rp.Is.le J (Le.q (l:=3*k+3*m+9) oM);refine w_c I (sC (ev2 I I) call182 (λw hs=>aU hs J O.up oM) λD h2 aa M=>?_);obtain rfl:D=vI (xU (zM s.1 p) s.2):=M;have U:=jF (zM s.1 p) s.2;refine go4 ?_;refine zC I I ?_;exact zbi vI (zX3 s p)
theorem zV1{m l k:Nat}{vs:Value}{s:Pq}(rs:(tPl m l).Is h0 vs s){vp:Value}{p:Tq}(rp:(tPt k).Is h0 vp p)(hcd0:k<=100000000)(hcd1:l<=100000000)(hcd2:m<=100000000):
 Calls prog 108 #[vs,vp] w0 (Ret w0 h0 (λ_ r=>r=vI (sdZ s p))):=by
 refine cb2 61 vs vp func108 hs ?_;refine go2 ?_;refine nB rs λb2 da D=>(nB rp λb3 cz J=>(pX ?_));refine tV (go2 ?_);refine gv (OpV.tr dC (yO (q:=3) I I)) I (yBF ?_);refine lX (xB yI (y4e (y5u pH)) D) λcl bh=>(cL (ev1 I) call146 (λw hs=>tL hs bh) λci h1 cy be=>?_);obtain rfl:=be;refine qK ?_;refine lX (xB yI (y5u pH) J) λcf bb=>(cL (ev1 I) call146 (λw hs=>tL hs bb) λcc h2 cw ay=>?_);obtain rfl:=ay;refine uY ?_;refine gU 4 36 (vB ((¬(smB s.1.x))\/(¬(smB p.x)))) ?_ ?_
 ·
  refine zY (¬(smB s.1.x)) (λH=>?_) (λH=>?_)
  ·
   refine gT H I (go4 ?_);refine gqU ?_;exact y3u (vV H)
  refine gF H I (go6 ?_);refine gqU ?_;exact y3u (vW H)
 refine gc2 (λC=>?_) λC=>?_
 ·
  refine go2 ?_;refine lX (xB lE pH D) λbz av=>(lX (xB zN pH J) λbv aq=>(cL (ev2 I I) call147 (λw hs=>zBM hs av aq oM oM oM) λab h3 cp an=>?_));obtain rfl:ab=vI (sdZ s p):=an;have bm:=lF s p;refine uQ ?_;refine zC I I ?_
  rfl
 obtain⟨bi,bo⟩:=zKR C;refine go6 ?_;refine gv (gX I I oM oM) I (go6 ?_);refine gv ((zU (q:=1) I I oM oM).cv (show _=vI (1) from I)) I (go2 ?_);refine wQ (go2 ?_);refine gv (OpV.tr dC (yO (q:=3) I I)) I (yBF ?_);refine lX (xB yI (y4e (y5e pH)) D) λck bg=>(cL (ev1 I) call146 (λw hs=>tL hs bg) λch h3 cp bd=>?_);obtain rfl:=bd;refine qK ?_;refine lX (xB yI (y5e pH) J) λce ba=>(cL (ev1 I) call146 (λw hs=>tL hs ba) λcb h4 cu ax=>?_);obtain rfl:=ax;refine uY ?_;refine gU 4 36 (vB ((¬(smB s.1.y))\/(¬(smB p.y)))) ?_ ?_
 ·
  refine zY (¬(smB s.1.y)) (λH=>?_) (λH=>?_)
  ·
   refine gT H I (go4 ?_);refine gqU ?_;exact y3u (vV H)
  refine gF H I (go6 ?_);refine gqU ?_;exact y3u (vW H)
 refine gc2 (λC=>?_) λC=>?_
 ·
  refine go2 ?_;refine lX (xB lE pH D) λbx au=>(lX (xB zN pH J) λbu ap=>(cL (ev2 I I) call147 (λw hs=>zBM hs au ap oM oM oM) λaa h5 co am=>?_));obtain rfl:aa=vI (sdZ s p):=am;have bl:=lF s p;refine uQ ?_;refine zC I I ?_
  rfl
 obtain⟨bi,bo⟩:=zKR C;refine go6 ?_;refine gv (gX I I oM oM) I (go6 ?_);refine gv ((zU (q:=1) I I oM oM).cv (show _=vI (2) from I)) I (go2 ?_);refine wQ (go2 ?_);refine gv (OpV.tr dC (yO (q:=3) I I)) I (yBF ?_);refine lX (xB yI (y4e (y6i pH)) D) λcj bf=>(cL (ev1 I) call146 (λw hs=>tL hs bf) λcg h5 co bc=>?_);obtain rfl:=bc;refine qK ?_;refine lX (xB yI (y6i pH) J) λcd az=>(cL (ev1 I) call146 (λw hs=>tL hs az) λca h6 ct aw=>?_);obtain rfl:=aw;refine uY ?_;refine gU 4 36 (vB ((¬(smB s.1.z))\/(¬(smB p.z)))) ?_ ?_
 ·
  refine zY (¬(smB s.1.z)) (λH=>?_) (λH=>?_)
  ·
   refine gT H I (go4 ?_);refine gqU ?_;exact y3u (vV H)
  refine gF H I (go6 ?_);refine gqU ?_;exact y3u (vW H)
 refine gc2 (λC=>?_) λC=>?_
 ·
  refine go2 ?_;refine lX (xB lE pH D) λbw ar=>(lX (xB zN pH J) λbt ao=>(cL (ev2 I I) call147 (λw hs=>zBM hs ar ao oM oM oM) λZ h7 cn ak=>?_));obtain rfl:Z=vI (sdZ s p):=ak;have bk:=lF s p;refine uQ ?_;refine zC I I ?_
  rfl
 obtain⟨bi,bo⟩:=zKR C;refine go6 ?_;refine gv (gX I I oM oM) I (go6 ?_);refine gv ((zU (q:=1) I I oM oM).cv (show _=vI (3) from I)) I (go2 ?_);refine wQ (go2 ?_);refine gv (OpV.fa dC (yO (q:=3) I I)) I (uY ?_);refine lX (xB yI (y5i pH) D) λbs aj=>(cL (ev1 I) call146 (λw hs=>tL hs aj) λbr h7 cn ai=>?_);obtain rfl:=ai;refine sS ?_;refine cnd (λM=>?_) λM=>?_
 ·
  refine go2 ?_;refine lX (xB lE pH D) λbq ah=>(lX (xB zN pH J) λbp ae=>(cL (ev2 I I) call147 (λw hs=>zBM hs ah ae oM oM oM) λU h8 cm ad=>?_));obtain rfl:U=vI (sdZ s p):=ad;have bj:=lF s p;refine go5 ?_;refine zC I I ?_
  rfl
 have bn:=zdi M;have cq:=rC bn;refine go7 ?_;refine cL (ev1 I) call148 (λw hs=>zJP hs oM oM) λO h8 cm ac=>?_;obtain rfl:O=vI (zID (((((0:Int)+((smZ s.1.x)*(smZ p.x)))+((smZ s.1.y)*(smZ p.y)))+((smZ s.1.z)*(smZ p.z)))-(smZ s.2))):=ac;refine go4 ?_;refine zC I I ?_;exact zbi vI (zX2 zo4 zo4 zo4 bn)
theorem zJH{m l k:Nat}{vs:Value}{s:Pq}(rs:(tPl m l).Is h0 vs s){vp:Value}{p:Tq}(rp:(tPt k).Is h0 vp p)(hcd0:k<=100000000)(hcd1:l<=100000000)(hcd2:m<=100000000):
 Calls prog 23 #[vs,vp] w0 (Ret w0 h0 (λ_ r=>r=vI (sdZ s p))):=by
 refine cb2 13 vs vp func23 hs ?_;refine go2 ?_;refine nB rs λb2 ai D=>(nB rp λb3 ah J=>(go4 ?_));refine zL 9 _ [] [(0,.q),(1,.q),(2,.q),(4,.q),(5,.q),(3,.c),(6,.c),(7,.c),(8,.q)] yF nX zou nX (λr hr=>hr) (go1 ?_);refine wX I (xB zN (y4e pH) D) λv6 r6=>(wX I (xB zN pH J) λv7 r7=>(go1 ?_));refine wX I (xB yI (y5i pH) D) λab U=>?_;refine w_c I (sC (ev2 I I) call56 (λw hs=>lO hs r6 r7 oM) λv8 h1 ae M=>?_);replace M:=Rp.Is.le M (Le.q (l:=3*k+3*m+9) oM);refine w_c I (sC (ev2 I I) call55 (λw hs=>tJ hs M U.up oM) λaa h2 ad C=>?_);replace C:=Rp.Is.le C (Le.q (l:=3*k+l+3*m+10) oM);refine w_c I (sC (ev1 I) call48 (λw hs=>qI hs C oM) λH h3 ac O=>?_);obtain rfl:H=vI (yX ((zM s.1 p)-s.2)):=O;have Z:=xK ((zM s.1 p)-s.2);refine go4 ?_;refine zC I I ?_
 rfl
theorem zBP{k:Nat}{va:Value}{a:Tq}(ra:(tPt k).Is h0 va a){vb:Value}{b:Tq}(rb:(tPt k).Is h0 vb b){vc:Value}{c:Tq}(rc:(tPt k).Is h0 vc c)(hcd0:k<=100000):
 Calls prog 93 #[va,vb,vc] w0 (Ret w0 h0 (λh r=>∃u0,r=.tuple #[u0,vI (thE a b c)]/\(tPl (50*k+200) (200*k+900)).Is h u0 (thZ a b c))):=by
 refine cb3 24 va vb vc func93 hs ?_;refine go2 ?_;refine nB ra λb3 cc O=>(nB rb λb4 cb ao=>(nB rc λb5 ca an=>(nA (ρ:=(tPl 1 1)) (X:=(zT,(0:Rat))) rG (yE (xW (yM dC)) (yM dC)) λb6 bz aj=>(go4 ?_))));refine zL 8 _ [(7,(8,31,y6u))] [(0,.q),(1,.q),(3,.q),(4,.q),(2,.c),(5,.c),(6,.c),(7,.a),(8,.t)] yF (kL.cons I I (qQ yS I I) kL.nil) zou (qR I I gY) (λr hr=>hr) (wX I (xB zN pH ao) λv9 r9=>(wX I (xB zN pH O) λbs ba=>(wX I (xB zN pH an) λbq az=>(wX I (xB zN pH O) λbp ay=>?_))));refine w_c I (sC (ev2 I I) call22 (λw hs=>zBN hs r9 ba oM) λbr h1 bx ab=>?_);replace ab:=Rp.Is.le ab (Le.t (Le.q (l:=2*k+1) oM));refine w_c I (sC (ev2 I I) call22 (λw hs=>zBN hs az.up ay.up oM) λbo h2 bw aa=>?_);replace aa:=Rp.Is.le aa (Le.t (Le.q (l:=2*k+1) oM));refine w_c I (sC (ev2 I I) call102 (λw hs=>zGO hs ab.up aa oM) λbn h3 bv Z=>?_);replace Z:=Rp.Is.le Z (Le.t (Le.q (l:=8*k+7) oM));refine w_a I I (λb8=>?_);have am:(tPt 1).R h3 y6u zT:=(xW (yM dC));have ae:=(Le.t (Le.q (l:=8*k+7) oM)).R am;refine yJ (A:=[]) I (uB sizeOf31 pH ae Z) λbe D=>(go5 ?_);refine lX (xB zN pH D) λbm ax=>(cL (ev1 I) call80 (λw hs=>zC8 hs ax oM) λak h4 bu aw=>?_);obtain rfl:ak=vB ((yC (T3.mk (b.x-a.x) (b.y-a.y) (b.z-a.z)) (T3.mk (c.x-a.x) (c.y-a.y) (c.z-a.z)))=zT):=aw;refine gc2 (λC=>?_) λC=>?_
 ·
  refine go2 ?_;refine lX (xV (ρ:=(tPl 1 1)) (wE (ps':=[]) underlying50 rG I I (rJ underlying50) trivial I (yE (xW (yM dC)) (yM dC)) zP)) λbl av=>(yD (A:=[_]) (uB sizeOf50 pH aj av) λbd ai=>(go5 ?_));refine vM (gG (t:=6) lE mh1 I ai) ?_;intro bf ac ah;refine xC (λE S=>jW I ac (tH I) E S) ?_;refine⟨_,?_,(Rp.Is.cast (Rp.Is.le ah (Le.p (Le.t (Le.q (l:=50*k+200) oM)) (Le.q (l:=200*k+900) oM))) (by obtain⟨e1,e2⟩:=yNB C;rw[e1]))⟩;obtain⟨e1,e2⟩:=yNB C;rw[e2]
 refine go3 ?_;refine zL 5 _ [] [(0,.q),(1,.q),(2,.q),(3,.c),(4,.q),(5,.t),(6,.t)] yF nX zou nX (λr hr=>hr) (wX I (xB zN pH D) λbk au=>(wX I (xB zN pH D) λbj ar=>(wX I (xB zN pH O) λbi aq=>?_)));refine w_c I (sC (ev2 I I) call56 (λw hs=>lO hs ar aq oM) λbh h5 bt U=>?_);replace U:=Rp.Is.le U (Le.q (l:=27*k+30) oM);refine wX I (xV (ρ:=(tPl (8*k+7) (27*k+30))) (wE (ps':=[(0,_),(1,_)]) underlying50 rG I I (rJ underlying50) e4z I (yE (xW (yM oM)) (yM oM)) (zD I (y4e (y4i _)) au.up (zD I (y5i (y4i _)) U zP)))) λbg ap=>?_;have ad:=(Le.p (Le.t (Le.q (l:=8*k+7) oM)) (Le.q (l:=27*k+30) oM)).R aj;refine yJ (A:=[_]) I (uB sizeOf50 pH ad ap) λbc M=>(zEV I (pS (v:=vI (0)) I) I (go3 ?_));refine vM (gG (t:=6) lE mh1 I M) ?_;intro bb H J;refine xC (λE S=>jW I H (tH I) E S) ?_;refine⟨_,?_,(Rp.Is.cast (Rp.Is.le J (Le.p (Le.t (Le.q (l:=50*k+200) oM)) (Le.q (l:=200*k+900) oM))) (by obtain⟨e1,e2⟩:=zXL C;rw[e1];rfl))⟩;obtain⟨e1,e2⟩:=zXL C;rw[e2]
theorem eD{m l:Nat}{vpl:Value}{pl:Pq}(rpl:(tPl m l).Is h0 vpl pl)(hcd0:m<=1000000)(hcd1:l<=1000000):
 Calls prog 76 #[vpl] w0 (Ret w0 h0 (λh r=>(tPl (3*m+10) (l+1)).Is h r (opP pl))):=by
 refine cb1 11 vpl func76 hs ?_;refine go2 ?_;refine nB rpl λb1 ai M=>(nA (ρ:=(tPl 1 1)) (X:=(zT,(0:Rat))) rG (yE (xW (yM dC)) (yM dC)) λb2 ah O=>(go3 ?_));refine zL 8 _ [] [(1,.q),(2,.q),(4,.q),(5,.q),(0,.c),(3,.c),(6,.c),(7,.q),(8,.t)] yF nX zou nX (λr hr=>hr) (go1 ?_);refine wX I (xB zN (y4e pH) M) λv5 r5=>(go1 ?_);refine wX I (xB yI (y5i pH) M) λv8 r8=>?_;refine w_c I (sC (vs:=[vI (-1)]) ⟨I,y3e⟩ call27 (λw hs=>gJ hs dC dC) λv3 h1 ae r3=>?_);refine w_c I (sC (ev2 I I) call20 (λw hs=>zQX hs r3 r5.up oM) λv6 h2 ad r6=>?_);refine w_c I (sC (ev1 I) call87 (λw hs=>oY hs r8.up oM) λv9 h3 ac r9=>(wX I (xV (ρ:=(tPl (m+2) (l+1))) (wE (ps':=[(0,_),(1,_)]) underlying50 rG I I (rJ underlying50) e4z I (yE (xW (yM oM)) (yM oM)) (zD I (y4e (y4i _)) r6.up (zD I (y5i (y4i _)) (r9.le (Le.q (l:=l+1) oM)) zP)))) λab U=>?_));have D:=(Le.p (Le.t (Le.q (l:=m+2) oM)) (Le.q (l:=l+1) oM)).R O;refine yJ (A:=[]) I (uB sizeOf50 pH D U) λZ J=>(go3 ?_);refine vM (gG (t:=2) lE mh0 I J) ?_;intro aa C H;refine xC (λE S=>yB I C E S) ?_;exact(Rp.Is.le H (Le.p (Le.t (Le.q (l:=3*m+10) oM)) (Le.refl _)))
end
set_option maxHeartbeats 1000000 in
theorem zZQ{w0:World}{h0:Mem}(hs:MLe h0 (mem w0)){k m n j:Nat}{vs:Value}{s:Sq}(rs:(tSd k m n j).Is h0 vs s)(hcd0:okS s)(hcd1:1<=m)(hcd2:1<=n)(hcd3:m<=1000000)(hcd4:n<=1000000):
 Calls prog 39 #[vs] w0 (Ret w0 h0 (λh r=>(tSd k m n j).Is h r (flS s))):=by
 have de:=hcd0.1.1.1;have dd:=hcd0.1.1.2;have dc:=hcd0.1.2;refine cb1 57 vs func39 hs ?_;refine go2 ?_;refine nB rs λb1 bc bm=>(nA (ρ:=(tSd k m n j)) (X:=([],([],[]))) qX (yE wK (yE wK wK)) λb2 bb bl=>(go4 ?_));refine lX (xB jV pH bm) λv6 r6=>?_;refine uX (vs:=[_]) I I I I call64 ⟨I,y3e⟩ (λw hs=>zVZ hs r6 hcd0 hcd1 hcd2) ?_;intro v7 h1 L7 dh r7;obtain⟨wP,dj,J,cf,us,R0,r7,rfl,⟨cw,cz,ca⟩,bh,au,ao⟩:=r7;refine yBH (A:=[_,_]) (R:=R0) (B:=[_,_]) (nA (ρ:=(rpP rpV (rpP rpV (rpS (rpP rpI (rpP rpI (rpQ j))))))) (X:=((Value.slice none 0 0),((Value.slice none 0 0),[]))) qX (yE fC (yE fC wK)) λb3 dk bk=>(yD (A:=[]) (uB sizeOf39 pH bk r7) λU aa=>(go5 ?_)));rw[show(fvZ s.2.1 us us.length)=(flZ s.2.1 us 0) by exact fl_0 ca] at au ⊢;refine zQ (A:=[_]) (ρ:=(tPt k)) bh ?_;intro h2 cc ar;replace aa:=aa.mono cc;have C:(rpP (tLs k) (rpP rpV (rpS (rpP rpI (rpP rpI (rpQ j)))))).R h2 U (s.1,(J,s.2.2)):=yDF aa ar;refine go4 ?_;refine gcL (ι:=Nat×List Res×List Value×Mem) (λ(i,R1,ab,ma)=>(MLe h2 ma/\(RL (rpP (tPl m n) (rpP rpV qF)) ma ab (flZ s.2.1 us i)/\i<=s.2.1.length/\mK 22 (rpS rpI) ma (us.drop i) ((lpS s.2.1).drop i) R1/\zEU ma us (λu=>rvL (s.2.1.getD u zA).2.1 (s.2.1.getD u zA).2.1.length) i),[(2,vP b2 0),(3,vP b3 0),(4,vI ↑i)],(.var b3 39 U::.gs 53 14 J (flZ s.2.1 us i).length ab::.var b2 39 bb::.var b1 39 bc::R1),ma,s.2.1.length-i)) (0,R0,cf,h2) ?_ ?_
 · exact⟨mle,au.up,by omega,ao.up,λu hu=>absurd hu (z2u u)⟩
 rintro⟨i,R1,ab,ma⟩ ⟨ax,H,df,ao,ap⟩
 refine xD ?_;have di:(flZ s.2.1 us i).length=s.2.1.length:=eS _ _ _;have ch:(flZ s.2.1 us (i+1)).length=s.2.1.length:=eS _ _ _;refine go5 ?_;replace C:=C.mono ax;refine lX (sE (xB gS (y5i (y4e pH)) C)) λct bz=>?_;subst bz;refine gv (kF mh1 underlying36 I) I (gc3 (λaz=>?_) λaz=>?_)
 ·
  obtain⟨ce,R2,rfl,cy,bi,ba⟩:=mK.flip ao oM oM;refine go5 ?_;refine zL 12 _ [] (zai 0 9 [(9,.c),(10,.q),(11,.q),(12,.t)]) yF nX (wS zou) nX (λr hr=>hr) (go1 ?_);refine wX I (sE (xB gS (y5i (y4e pH)) C)) λcq bx=>?_;subst bx;refine go2 ?_;refine wX I (sE (xB gS (y5i (y4e pH)) C)) λcp bw=>?_;subst bw;refine go1 ?_;refine w_q I (λh' L' hh hR=>(yK i (hR _ mh1) underlying36 sizeOf53 I I I bO nP).cv (show _=zG 1 J ((i*14+0)) from zbi (zG 1 J) zo3)) I (w_q I (λh' L' hh hR=>(jA (y4u (y4i _) fv0 i bO) I nP (H.mono hh) (hR _ mh1) underlying53 I sizeOf50 I).cv (show _=zG 1 J ((i*14+0)) from zbi (zG 1 J) (by show(i*14+0)+0=(i*14+0);omega))) I (aI (F:=λv_=>(tPl m n).Is ma v_ (((flZ s.2.1 us i).getD i fv0).1)) I (xE lE (y4u (y4e (y4i _)) fv0 i bO) I nP I H I) (gC mh1) I ?_));intro co av;refine w_c I (sC (ev1 I) call76 (λw hs=>eD hs av oM oM) λbg h3 ad an=>?_);replace an:(tPl m n).Is h3 bg (opP (((flZ s.2.1 us i).getD i fv0).1)):=zZF an av;refine w_q I (λh' L' hh hR=>(yK i (hR _ mh1) underlying36 sizeOf53 I I I bO nP).cv (show _=zG 1 J ((i*14+0)) from zbi (zG 1 J) zo3)) I ?_;replace H:=H.mono ad;refine w_q I (λh' L' hh hR=>(jA (y4u (y4i _) fv0 i bO) I nP (H.mono hh) (hR _ mh1) underlying53 I sizeOf50 I).cv (show _=zG 1 J ((i*14+0)) from zbi (zG 1 J) (by show(i*14+0)+0=(i*14+0);omega))) I (zIY (A:=[_]) (F:=λc_=>RL (rpP (tPl m n) (rpP rpV qF)) h3 c_ ((flZ s.2.1 us i).set i (opP (((flZ s.2.1 us i).getD i fv0).1),((flZ s.2.1 us i).getD i fv0).2))) I (rW sizeOf50 (y4u (y4e (y4i _)) fv0 i bO) I nP I I H an I) ?_);intro ae D;rw[show((flZ s.2.1 us i).set i (opP (((flZ s.2.1 us i).getD i fv0).1),((flZ s.2.1 us i).getD i fv0).2))=(flZ s.2.1 us (i+1)) by exact yLC oM] at D ⊢;refine go8 ?_;refine gcL (ι:=Nat×List Value×Mem) (λ(k,O,mb)=>(MLe h3 mb/\(RL (rpS rpI) mb O (rvL (s.2.1.getD i zA).2.1 k)/\k<=(s.2.1.getD i zA).2.1.length),[(2,vP b2 0),(3,vP b3 0),(4,vI ↑i),(5,vI ↑k)],(.var b3 39 U::.gs 53 14 J (flZ s.2.1 us (i+1)).length ae::.var b2 39 bb::.var b1 39 bc::.gs 22 1 (us.getD i nV) (rvL (s.2.1.getD i zA).2.1 k).length O::R2),mb,(s.2.1.getD i zA).2.1.length-k)) (0,ce,h3) ?_ ?_
  · exact⟨mle,bi.up,oM⟩
  rintro⟨k,O,mb⟩ ⟨aw,M,db⟩
  refine xD ?_;have da:=(hcd0.2.1 i oM).1;have cu:(rvL (s.2.1.getD i zA).2.1 k).length=(s.2.1.getD i zA).2.1.length:=iV _ _;refine go5 ?_;replace C:=C.mono (ad.trans aw);refine lX (sE (xB gS (y5i (y4e pH)) C)) λcn bv=>?_;subst bv;refine go1 ?_;refine gv ((yK i mh1 underlying36 sizeOf53 I I I bO nP).cv (show _=zG 1 J ((i*14+0)) from zbi (zG 1 J) zo3)) I (gv ((jA (y4u (y4i _) fv0 i bO) I nP D.up mh1 underlying53 I sizeOf51 I).cv (show _=zG 1 J ((i*14+12)) from zbi (zG 1 J) (by show(i*14+0)+12=(i*14+12);omega))) I (zIP (F:=λv_=>((((flZ s.2.1 us (i+1)).getD i fv0).2).1)=v_) (sE (xE cD (y4u (y5i (y4e (y4i _))) fv0 i bO) I nP I D.up I)) (gC mh1) I ?_));intro bf bu;obtain rfl:bf=(us.getD i nV):=bu.symm.trans (by rw[zAR oM]);refine gv (kF mh4 underlying51 I) I (gc3 (λay=>?_) λay=>?_)
  ·
   refine go4 ?_;refine zL 18 _ [] (zai 0 16 [(16,.c),(17,.q),(18,.t)]) yF nX (wS zou) nX (λr hr=>hr) (go1 ?_);refine wX I (sE (xB gS (y5i (y4e pH)) C)) λcm bt=>?_;subst bt;refine go1 ?_;refine w_q I (λh' L' hh hR=>(yK i (hR _ mh1) underlying36 sizeOf53 I I I bO nP).cv (show _=zG 1 J ((i*14+0)) from zbi (zG 1 J) zo3)) I (w_q I (λh' L' hh hR=>(jA (y4u (y4i _) fv0 i bO) I nP (D.up.mono hh) (hR _ mh1) underlying53 I sizeOf51 I).cv (show _=zG 1 J ((i*14+12)) from zbi (zG 1 J) (by show(i*14+0)+12=(i*14+12);omega))) I (aI (F:=λv_=>((((flZ s.2.1 us (i+1)).getD i fv0).2).1)=v_) I (sE (xE cD (y4u (y5i (y4e (y4i _))) fv0 i bO) I nP I D.up I)) (gC mh1) I ?_));intro be bs;obtain rfl:be=(us.getD i nV):=bs.symm.trans (by rw[zAR oM]);refine go2 ?_;refine wX I (sE (xB gS (y5i (y4e pH)) C)) λcl br=>?_;subst br;refine go1 ?_;refine w_q I (λh' L' hh hR=>(yK i (hR _ mh1) underlying36 sizeOf53 I I I bO nP).cv (show _=zG 1 J ((i*14+0)) from zbi (zG 1 J) zo3)) I (w_q I (λh' L' hh hR=>(jA (y4u (y4i _) fv0 i bO) I nP (D.up.mono hh) (hR _ mh1) underlying53 I sizeOf51 I).cv (show _=zG 1 J ((i*14+12)) from zbi (zG 1 J) (by show(i*14+0)+12=(i*14+12);omega))) I (aI (F:=λv_=>((((flZ s.2.1 us (i+1)).getD i fv0).2).1)=v_) I (sE (xE cD (y4u (y5i (y4e (y4i _))) fv0 i bO) I nP I D.up I)) (gC mh1) I ?_));intro bd bq;obtain rfl:bd=(us.getD i nV):=bq.symm.trans (by rw[zAR oM]);refine go1 ?_;refine w_q I (λh' L' hh hR=>(yK k (hR _ mh4) underlying51 sizeOf22 I I I bO nP).cv (show _=zG 1 (us.getD i nV) ((k*1+0)) from zbi (zG 1 (us.getD i nV)) zo3)) I (aI (F:=λv_=>(rpS rpI).Is mb v_ ((rvL (s.2.1.getD i zA).2.1 k).getD k [])) I (xE fQ (y4u (y4i _) [] k bO) I nP I M I) (gC mh4) I ?_);intro ck bp;refine w_c I (sC (ev1 I) call67 (λw hs=>zED hs bp (by rw[zCX oM,zae (ymi _)];exact zci ((hcd0.2.1 i oM).2 k oM) dC)) λcj h4 cb bo=>(w_q I (λh' L' hh hR=>(yK k (hR _ mh4) underlying51 sizeOf22 I I I bO nP).cv (show _=zG 1 (us.getD i nV) ((k*1+0)) from zbi (zG 1 (us.getD i nV)) zo3)) I (zIY (A:=[_,_,_,_]) (F:=λc_=>RL (rpS rpI) h4 c_ ((rvL (s.2.1.getD i zA).2.1 k).set k (iJ ((rvL (s.2.1.getD i zA).2.1 k).getD k []) ((rvL (s.2.1.getD i zA).2.1 k).getD k []).length))) I (rW sizeOf22 (y4u (y4i _) [] k bO) I nP I I M.up bo I) ?_)));intro aq Z;rw[show((rvL (s.2.1.getD i zA).2.1 k).set k (iJ ((rvL (s.2.1.getD i zA).2.1 k).getD k []) ((rvL (s.2.1.getD i zA).2.1 k).getD k []).length))=(rvL (s.2.1.getD i zA).2.1 (k+1)) by exact yJN oM] at Z ⊢;refine go8 ?_;refine gqL ((k+1),aq,h4) ?_ ?_
   · exact⟨mle,Z,oM⟩
   omega
  have ek:k=(s.2.1.getD i zA).2.1.length:=by omega
  refine go7 ?_;refine zQ (A:=[_,_,_,_]) (ρ:=(rpS rpI)) M.up ?_;intro h4 cb ai;refine go4 ?_;refine gqL ((i+1),R2,ae,h4) ?_ ?_
  · exact⟨mle,D.up,by omega,ba.up,zEU.next (MLe.refl _) ap.up (by have h:=ai;rw[ek] at h;exact h)⟩
  omega
 have ei:i=s.2.1.length:=by omega
 refine go7 ?_;rw[ei] at ap;rw[ei] at H;have bj:=yLE H ap;rw[show(flZ s.2.1 us i).length=(s.2.1.map fcS).length by rw[eS,zde]];refine zQ (A:=[_]) (ρ:=(tFc m n)) bj ?_;intro h3 ad ah;replace C:=C.mono ad;have am:(tSd k m n j).R h3 U (s.1,((s.2.1.map fcS),s.2.2)):=zFJ C ah;refine lX (xB jV pH am) λci bn=>(yD (A:=[_]) (uB sizeOf39 pH bl bn) λcd ak=>(go3 ?_));refine vM (gG (t:=2) jV mh1 I ak) ?_;intro cg ac aj;refine xC (λE S=>yB I ac E S) ?_;exact aj
end Go.Proofs.YtpkaegemlpaenaaGreat
namespace Bk
open Classical
def zWG(c:Pl)(l:List Pt):Nat->Rat
  |0=>0
  |m+1=>zWG c l m+hgt c (gp l m)
theorem yB2{pl:Pl}{a b c:Pt}(hn:¬pl.1=zT)(ha:sdZ pl a=0)(hb:sdZ pl b=0)(hc:sdZ pl c=0):yX (yH (yZ b a) (yZ c a) pl.1)<=0↔¬0<orZ (pt2 pl a) (pt2 pl b) (pt2 pl c):=by
 rw[<-yLN hn ha hb hc,yLO];omega
end Bk
namespace Go.Proofs.YtpkaegemlpaenaaGreat
open Bk Go Tryz
attribute [local irreducible] GL GC GQ W OpV
theorem zZO{w0:World}{h0:Mem}(hs:MLe h0 (mem w0)){k l m:Nat}{va:Value}{a:Tq}(ra:(tPt k).Is h0 va a){vb:Value}{b:Tq}(rb:(tPt l).Is h0 vb b){vc:Value}{c:Tq}(rc:(tPt m).Is h0 vc c)(hcd0:k<=100000000)(hcd1:l<=100000000)(hcd2:m<=100000000):
 Calls prog 98 #[va,vb,vc] w0 (Ret w0 h0 (λh r=>(rpQ (3*k+6*l+6*m+18)).Is h r (yH a b c))):=by
 refine cb3 12 va vb vc func98 hs ?_;refine go2 ?_;refine nB ra λb3 ao aa=>(nB rb λb4 an Z=>(nB rc λb5 am U=>(nA (ρ:=(rpQ 1)) (X:=(0:Rat)) wD (yM dC) λb6 ak O=>(go3 ?_))));refine zL 5 _ [] [(0,.q),(1,.q),(2,.q),(3,.c),(4,.c),(5,.t)] yF nX zou nX (λr hr=>hr) (wX I (xB zN pH aa) λv7 r7=>(wX I (xB zN pH Z) λv8 r8=>(wX I (xB zN pH U) λv9 r9=>?_)));refine w_c I (sC (ev2 I I) call102 (λw hs=>zGO hs r8 r9 oM) λah h1 aj ab=>?_);refine w_c I (sC (ev2 I I) call56 (λw hs=>lO hs r7.up ab oM) λae h2 ai C=>?_);replace C:=Rp.Is.le C (Le.q (l:=3*k+6*l+6*m+18) oM);have H:=(Le.q (l:=3*k+6*l+6*m+18) oM).R O;refine yJ (A:=[]) I (uB sizeOf29 pH H C) λac M=>(go3 ?_);refine vM (gG (t:=6) yI mh0 I M) ?_;intro ad D J;refine xC (λE S=>yB I D E S) ?_;exact J
theorem zQ1{w0:World}{h0:Mem}(hs:MLe h0 (mem w0)){k n m:Nat}{vl:Value}{l:(List Tq)}(rl:(tLs k).Is h0 vl l){vs:Value}{s:Pq}(rs:(tPl n m).Is h0 vs s)(hcd0:k<=10000000)(hcd1:m<=10000000)(hcd2:n<=1000000)(hcd3:l.length<=100000):
 Calls prog 94 #[vl,vs] w0 (Ret w0 h0 (λ_ r=>r=vB (zHY s l))):=by
 have de:=zD2 s.1;refine cb2 73 vl vs func94 hs ?_;refine go2 ?_;refine nB rs λb3 Z ac=>(pX ?_);refine qE (ι:=Mem) 5 (λm_=>MLe h0 m_) (λ_=>[(20,vB (((↑(l).length:Int)<(3:Int))\/(s.1=zT))),(0,vl),(3,vP b3 0),(5,vI (↑(l).length:Int))]) (λ_=>[.var b3 50 Z]) (λm_=>m_) ?_ ?_
 ·
  refine zY ((↑(l).length:Int)<(3:Int)) (λhg=>?_) (λhg=>?_)
  ·
   refine gT hg I (go5 ?_);refine zV h0 (MLe.refl _) ⟨?_,I,I,I,y3e⟩ I I;exact y3u (vV hg)
  refine gF hg I (go3 ?_);refine lX (xB zN (y4e pH) ac) λcv bt=>(go1 ?_);refine cL (ev1 I) call80 (λw hs=>zC8 hs bt oM) λaz h1 ai bs=>?_;obtain rfl:az=vB (s.1=zT):=bs;refine go2 ?_;refine zV h1 ai ⟨?_,I,I,I,y3e⟩ I I;exact y3u (vW hg)
 intro J an;refine sN ?_;refine gc2 (λD=>?_) λD=>?_
 ·
  refine go7 ?_;refine zC I I ?_;exact(yN (λe=>D.elim (λh=>by have:=e.1.1;omega) (λh=>e.1.2 h))).symm
 have hN:¬s.1=zT:=λe=>D (.inr e);have h3:3<=l.length:=by have h:=D;omega
 refine go9 ?_;refine gcL (ι:=Nat×Mem) (λ(i,ma)=>(MLe J ma/\(i<=l.length/\∀u,u<i->sdZ s (gp l u)=0),[(0,vl),(3,vP b3 0),(5,vI (↑(l).length:Int)),(6,vI ↑i)],[.var b3 50 Z],ma,l.length-i)) (0,J) ?_ ?_
 · exact⟨mle,by omega,λu h=>by omega⟩
 rintro⟨i,ma⟩ ⟨ca,da,hi2⟩
 refine xD ?_;refine gc8 (λau=>?_) λau=>?_
 ·
  refine go5 ?_;refine zL 7 _ [] (zai 0 5 [(5,.c),(6,.q)]) yF nX zou nX (λr hr=>hr) (wX I (xB lE pH ac) λcu br=>(go2 ?_));refine wX I (xI zT i underlying35 zN rl) λct bq=>(wX I (xA zN bq) λcq bp=>?_);refine w_c I (sC (ev2 I I) call23 (λw hs=>zJH hs br bp oM oM oM) λay h1 ai bo=>?_);obtain rfl:ay=vI (sdZ s (l.getD i zT)):=bo;have bv:=lF s (l.getD i zT);refine gc3 (λO=>?_) λO=>?_
  ·
   refine qK ?_;refine zC I I ?_;exact(yN (λe=>O (e.2.1 i oM))).symm
  refine go8 ?_;refine gqL ((i+1),h1) ?_ ?_
  · exact⟨mle,by omega,vX (Q:=λu=>sdZ s (gp l u)=0) hi2 (zdi O)⟩
  omega
 have hS:∀u,u<l.length->sdZ s (gp l u)=0:=λu hu=>hi2 u oM;refine uY ?_;refine gcL (ι:=Nat×Mem) (λ(i,mb)=>(MLe ma mb/\(i<=l.length/\∀u,u<i->∀C,2<=C->C<l.length->0<orZ (pt2 s (gp l u)) (pt2 s (nx l u)) (pt2 s (gp l ((u+C)%l.length)))),[(0,vl),(3,vP b3 0),(5,vI (↑(l).length:Int)),(7,vI ↑i)],[.var b3 50 Z],mb,l.length-i)) (0,ma) ?_ ?_
 · exact⟨mle,by omega,λu h=>by omega⟩
 rintro⟨i,mb⟩ ⟨bz,cz,ap⟩
 refine xD ?_;refine gc8 (λar=>?_) λar=>?_
 ·
  refine go5 ?_;refine zL 15 _ [(11,(8,31,y6u)),(12,(9,31,y6u))] (zai 0 11 [(11,.a),(12,.a),(13,.c),(14,.c)]) yF (kL.cons I I (qQ yS I I) (kL.cons I I (qQ yS I I) kL.nil)) (wS zou) (qR I I (qR I I gY)) (λr hr=>hr) (go2 ?_);refine wX I (xI zT i underlying35 zN rl) λcp bn=>(wX I (xA zN bn) λco bm=>(go4 ?_));refine xY I (λ_ _=>wI I I oM oM) I (wX I (xI zT ((i+1)%l.length) underlying35 zN rl (hi:=by exact zcu _ oM)) λcn bl=>(wX I (xA zN bl) λcm bk=>?_));refine w_a I I (λb8=>?_);have bb:(tPt (k+1)).R mb y6u zT:=(xW (yM oM));refine w_a I I (λb9=>?_);have ba:(tPt (k+1)).R mb y6u zT:=(xW (yM oM));refine w_c I (lG (A:=[_]) (uB sizeOf31 pH bb (bm.le (Le.t (Le.q (l:=k+1) oM)))) (xQ zoy) λaw aa=>?_);refine w_c I (lG (A:=[]) (uB sizeOf31 pH ba (bk.le (Le.t (Le.q (l:=k+1) oM)))) (xQ zoy) λav ak=>(go8 ?_));refine gcL (ι:=Nat×Mem) (λ(q,mq)=>(MLe mb mq/\((2<=q/\q<=l.length)/\∀C,2<=C->C<q->0<orZ (pt2 s (gp l i)) (pt2 s (nx l i)) (pt2 s (gp l ((i+C)%l.length)))),[(0,vl),(3,vP b3 0),(5,vI (↑(l).length:Int)),(7,vI ↑i),(8,vP b8 0),(9,vP b9 0),(10,vI ↑q)],[.var b9 31 av,.var b8 31 aw,.var b3 50 Z],mq,l.length-q)) (2,mb) ?_ ?_
  · exact⟨mle,⟨by omega,by omega⟩,λC H U=>by omega⟩
  rintro⟨q,mq⟩ ⟨bx,⟨cy,cw⟩,ao⟩
  refine xD ?_;refine gc8 (λaq=>?_) λaq=>?_
  ·
   refine qK ?_;refine gv (wI I I oM oM) I (lX (xI zT ((i+q)%l.length) underlying35 zN rl (hi:=by exact zcu _ oM)) λcl bj=>(lX (xA zN bj) λck bi=>(nA (ρ:=(tPt (k+1))) (X:=zT) yS (xW (yM oM)) λdf cb am=>(yD (A:=[]) (uB sizeOf31 pH am (bi.le (Le.t (Le.q (l:=k+1) oM)))) λbw ab=>(go3 ?_)))));refine zL 11 _ [] [(0,.q),(1,.q),(3,.q),(4,.q),(6,.q),(7,.q),(2,.c),(5,.c),(8,.c),(9,.c),(10,.q)] yF nX zou nX (λr hr=>hr) (wX I (xB zN pH ak) λcj bh=>(wX I (xB zN pH aa) λci bg=>(wX I (xB zN pH ab) λcg bf=>(wX I (xB zN pH aa) λcf be=>(go1 ?_)))));refine wX I (xB zN (y4e pH) ac) λcd bd=>?_;refine w_c I (sC (ev2 I I) call22 (λw hs=>zBN hs bh bg oM) λch h1 ai ah=>?_);replace ah:=Rp.Is.le ah (Le.t (Le.q (l:=2*k+3) oM));refine w_c I (sC (ev2 I I) call22 (λw hs=>zBN hs bf.up be.up oM) λce h2 dd ae=>?_);replace ae:=Rp.Is.le ae (Le.t (Le.q (l:=2*k+3) oM));refine w_c I (sC (ev3 I I I) call98 (λw hs=>zZO hs ah.up ae bd.up oM oM oM) λcc h3 dc ad=>?_);replace ad:=Rp.Is.le ad (Le.q (l:=18*k+6*n+45) oM);refine w_c I (sC (ev1 I) call48 (λw hs=>qI hs ad oM) λax h4 db bc=>?_);obtain rfl:ax=vI (yX (yH (T3.mk ((l.getD ((i+1)%l.length) zT).x-(l.getD i zT).x) ((l.getD ((i+1)%l.length) zT).y-(l.getD i zT).y) ((l.getD ((i+1)%l.length) zT).z-(l.getD i zT).z)) (T3.mk ((l.getD ((i+q)%l.length) zT).x-(l.getD i zT).x) ((l.getD ((i+q)%l.length) zT).y-(l.getD i zT).y) ((l.getD ((i+q)%l.length) zT).z-(l.getD i zT).z)) s.1)):=bc;have bu:=xK (yH (T3.mk ((l.getD ((i+1)%l.length) zT).x-(l.getD i zT).x) ((l.getD ((i+1)%l.length) zT).y-(l.getD i zT).y) ((l.getD ((i+1)%l.length) zT).z-(l.getD i zT).z)) (T3.mk ((l.getD ((i+q)%l.length) zT).x-(l.getD i zT).x) ((l.getD ((i+q)%l.length) zT).y-(l.getD i zT).y) ((l.getD ((i+q)%l.length) zT).z-(l.getD i zT).z)) s.1);refine gc3 (λM=>?_) λM=>?_
   ·
    have aj:¬0<orZ (pt2 s (gp l i)) (pt2 s (nx l i)) (pt2 s (gp l ((i+q)%l.length))):=(yB2 hN (hS i oM) (hS ((i+1)%l.length) (zcu _ oM)) (hS ((i+q)%l.length) (zcu _ oM))).1 M;refine pX ?_;refine zC I I ?_;exact(yN (λe=>aj (e.2.2 i q oM oM oM))).symm
   have aj:0<orZ (pt2 s (gp l i)) (pt2 s (nx l i)) (pt2 s (gp l ((i+q)%l.length))):=zdi (λe=>M ((yB2 hN (hS i oM) (hS ((i+1)%l.length) (zcu _ oM)) (hS ((i+q)%l.length) (zcu _ oM))).2 e));refine go8 ?_;refine yW (A:=[]) ?_;refine gqL ((q+1),h4) ?_ ?_
   · exact⟨mle,⟨by omega,by omega⟩,λC H U=>by rcases zhu.1 U with e|e;exact ao C H e;subst e;exact aj⟩
   omega
  refine qK ?_;refine yW (A:=[]) (yW (A:=[]) ?_);refine gqL ((i+1),mq) ?_ ?_
  · exact⟨mle,by omega,vX (Q:=λu=>∀C,2<=C->C<l.length->0<orZ (pt2 s (gp l u)) (pt2 s (nx l u)) (pt2 s (gp l ((u+C)%l.length)))) ap (λC H U=>ao C H oM)⟩
  omega
 have hE:∀u C,u<l.length->2<=C->C<l.length->0<orZ (pt2 s (gp l u)) (pt2 s (nx l u)) (pt2 s (gp l ((u+C)%l.length))):=λu C hu H U=>ap u oM C H U;refine qK ?_;refine zC I I ?_;exact(wA ⟨⟨h3,hN⟩,hS,hE⟩).symm
end Go.Proofs.YtpkaegemlpaenaaGreat
namespace Bk
open Classical
section
variable {A B p v:Pt}
end
theorem zIW(s:Sd)(f:Nat)(q:Pt):-1<=whF s f q/\whF s f q<=1:=by
 unfold whF whZ
 split
 · omega
 · exact zFI _ _ _ _ _
def bdS(s:Sd)(p d:Pt)(f:Nat):Prop:=¬skP s p d f/\whF s f (pW p d (hnF s p f/cnF s d f))=0
def nbS(s:Sd)(p d:Pt):Prop:=∀f,f<s.2.1.length->¬bdS s p d f
def crU(s:Sd)(p d:Pt):Int:=if nbS s p d then(crP s p d s.2.1.length).1 else 0
def crV(s:Sd)(p d:Pt):Int:=if nbS s p d then(crP s p d s.2.1.length).2 else 0
theorem zDB{s:Sd}(h:kC s)(p d:Pt):nbM (kG s) p d↔nbS s p d:=by
 unfold nbM nbS;rw[dE];have g:∀f,f<s.2.1.length->(bdM ((kG s).1.getD f fm0) p d↔bdS s p d f):=λf hf=>by
  unfold bdM bdS;rw[zHK hf,zEZ h p d hf,zKG h p d hf]
 exact⟨λe f hf e'=>e f hf ((g f hf).2 e'),λe f hf e'=>e f hf ((g f hf).1 e')⟩
theorem yF3{s:Sd}(h:kC s)(p d:Pt):crA (kG s) p d=crU s p d/\crB (kG s) p d=crV s p d:=by
 unfold crA crB crU crV;rw[dE,zMG h p d _ (zbe _)]
 by_cases e:nbS s p d
 · rw[zau e,zau e,zau ((zDB h p d).2 e),zau ((zDB h p d).2 e)];exact⟨I,I⟩
 · rw[zae e,zae e,zae λe'=>e ((zDB h p d).1 e'),zae λe'=>e ((zDB h p d).1 e')];exact⟨I,I⟩
def okR(s:Sd)(p d:Pt):Prop:=¬(onB s p\/d=zT)/\nbS s p d
def crX(s:Sd)(p d:Pt):Int:=if onB s p\/d=zT then 0 else crU s p d
def crY(s:Sd)(p d:Pt):Int:=if onB s p\/d=zT then 0 else crV s p d
theorem yOM{s:Sd}{p d:Pt}(h:onB s p\/d=zT):crX s p d=0/\crY s p d=0/\¬okR s p d:=⟨zau h,zau h,λe=>e.1 h⟩
theorem zJ7(s:Sd)(p d:Pt):∀n:Nat,(0<=(crP s p d n).1/\(crP s p d n).1<=n)/\(0<=(crP s p d n).2/\(crP s p d n).2<=n)
  |0=>by
   show(0<=(0:Int)/\(0:Int)<=((0:Nat):Int))/\(0<=(0:Int)/\(0:Int)<=((0:Nat):Int))
   omega
  |n+1=>by
   have ih:=zJ7 s p d n;unfold crP
   split
   · omega
   · split
     · split
       · show(0<=(crP s p d n).1+1/\(crP s p d n).1+1<=_)/\(0<=(crP s p d n).2/\(crP s p d n).2<=_)
         omega
       · show(0<=(crP s p d n).1/\(crP s p d n).1<=_)/\(0<=(crP s p d n).2+1/\(crP s p d n).2+1<=_)
         omega
     · omega
theorem zJ6(s:Sd)(p d:Pt):(0<=crX s p d/\crX s p d<=s.2.1.length)/\(0<=crY s p d/\crY s p d<=s.2.1.length):=by
 have h:=zJ7 s p d s.2.1.length;unfold crX crY crU crV
 split
 · omega
 · split
   · exact h
   · omega
section
variable {s:Sd}{p d:Pt}{f:Nat}
end
theorem zBS{s:Sd}(h:kC s){p d:Pt}(hc:zH2 s p d):nbS s p d:=λf hf e=>zRB (bR h) hf hc e.1 e.2
end Bk
namespace Go.Proofs.YtpkaegemlpaenaaGreat
open Bk Go Tryz
attribute [local irreducible] GL GC GQ W OpV
end Go.Proofs.YtpkaegemlpaenaaGreat
namespace Bk
open Go Go.RowKit
section
variable {P:Program}{n:Nat}{w0:World}{h0:Mem}{e:List (Nat×Value)}{L:List Res}{h:Mem}{Q:Exit->Act->World->Prop}
theorem yBJ{c:Code}(k:GC P n w0 h0 c (Exit.noGoto Q) e L h):GC P n w0 h0 (.scope c) Q e L h:=λa w E S=>wp_scope_straight (k a w E S)
theorem yBK{l:Nat}(k:GQ n w0 h0 Q .normal e L h):GC P n w0 h0 (.label l) Q e L h:=λa w E S=>wp_label (k a w E S)
theorem yN9(k:GQ n w0 h0 Q .ret e L h):GQ n w0 h0 (Exit.noGoto Q) .ret e L h:=k
end
end Bk
namespace Go.Proofs.YtpkaegemlpaenaaGreat
open Bk Go Tryz
attribute [local irreducible] GL GC GQ W OpV
section
variable{w0:World}{h0:Mem}(hs:MLe h0 (mem w0))
include hs
theorem zV3{k m n j:Nat}{vs:Value}{s:Sq}(rs:(tSd k m n j).Is h0 vs s){vf:Value}{f:(Pq×((List (List Int))×(List Nat)))}(rf:(tFc m n).Is h0 vf f)(hcd0:∀u v,u<f.2.1.length->v<(f.2.1.getD u []).length->0<=(f.2.1.getD u []).getD v 0/\(f.2.1.getD u []).getD v 0<s.1.length)(hcd1:s.1.length<=100000)(hcd2:∀u,u<f.2.1.length->(f.2.1.getD u []).length<=10000)(hcd3:f.2.1.length<=10000):
 Calls prog 104 #[vs,vf] w0 (Ret w0 h0 (λ_ r=>r=vB (True))):=by
 refine cb2 33 vs vf func104 hs ?_;refine go2 ?_;refine nB rs λb2 ab ae=>(nB rf λb3 aa ad=>(go7 ?_));refine lX (xB cD (y5i (y4e pH)) ad) λH am=>(go5 ?_);refine gcL (ι:=Nat×Mem) (λ(l,M)=>(MLe h0 M/\(l<=f.2.1.length),[(2,vP b2 0),(10,H),(11,vI (↑(f.2.1).length:Int)),(12,vI ↑l)],[.var b3 53 aa,.var b2 39 ab],M,f.2.1.length-l)) (0,h0) ?_ ?_
 · exact⟨mle,oM⟩
 rintro⟨l,M⟩ ⟨ap,C⟩
 refine xD ?_;have bb:=C;refine gc6 (λZ=>?_) λZ=>?_
 ·
  refine go6 ?_;refine lX (xI [] l underlying51 fQ am) λaw ak=>(lX (xA fQ ak) λac aj=>(qK ?_));refine gcL (ι:=Nat×Mem) (λ(u,J)=>(MLe M J/\(u<=(f.2.1.getD l []).length),[(2,vP b2 0),(10,H),(11,vI (↑(f.2.1).length:Int)),(12,vI ↑l),(16,ac),(17,vI (↑((f.2.1.getD l [])).length:Int)),(18,vI ↑u)],[.var b3 53 aa,.var b2 39 ab],J,(f.2.1.getD l []).length-u)) (0,M) ?_ ?_
  · exact⟨mle,oM⟩
  rintro⟨u,J⟩ ⟨ao,C⟩
  refine xD ?_;have ay:=C;have bc:=hcd2 l oM;refine gc6 (λU=>?_) λU=>?_
  ·
   obtain⟨ba,az⟩:=hcd0 l u oM oM;refine go6 ?_;refine lX (xI (0:Int) u underlying22 ty3 aj) λav ai=>(lX (xA ty3 ai) λau ah=>?_);obtain⟨rfl,aq,an⟩:=jM ah;refine go7 ?_;refine gU 7 30 (vB ((((f.2.1.getD l []).getD u (0:Int))<(0:Int))\/((↑(s.1).length:Int)<=((f.2.1.getD l []).getD u (0:Int))))) ?_ ?_
   ·
    refine zY (((f.2.1.getD l []).getD u (0:Int))<(0:Int)) (λO=>?_) (λO=>?_)
    ·
     refine gT O I (go7 ?_);refine gqU ?_;exact y3u (vV O)
    refine gF O I (go5 ?_);refine lX (xB qD (y4e pH) ae) λar ax=>(go6 ?_);refine gqU ?_;exact y3u (vW O)
   refine gc2 (λD=>?_) λD=>?_
   · exact absurd D oM
   refine go7 ?_;refine gqL ((u+1),J) ?_ ?_
   · exact⟨mle,oM⟩
   omega
  refine uQ ?_;refine gqL ((l+1),J) ?_ ?_
  · exact⟨mle,oM⟩
  omega
 refine qK ?_;refine zC I I ?_;exact(wA trivial).symm
theorem zNU{k m n j:Nat}{vs:Value}{s:Sq}(rs:(tSd k m n j).Is h0 vs s){vf:Value}{f:(Pq×((List (List Int))×(List Nat)))}(rf:(tFc m n).Is h0 vf f)(hcd0:∀u v,u<f.2.1.length->v<(f.2.1.getD u []).length->0<=(f.2.1.getD u []).getD v 0/\(f.2.1.getD u []).getD v 0<s.1.length)(hcd1:s.1.length<=100000)(hcd2:∀u,u<f.2.1.length->(f.2.1.getD u []).length<=10000)(hcd3:f.2.1.length<=10000):
 Calls prog 105 #[vs,vf] w0 (Ret w0 h0 (λh r=>(tLL (k+1)).Is h r (zA7 s.1 f.2.1 f.2.1.length))):=by
 refine cb2 39 vs vf func105 hs ?_;refine go2 ?_;refine nB rs λb2 av ba=>(nB rf λb3 au az=>(uY ?_));refine lX (xB cD (y5i (y4e pH)) az) λac bi=>(go5 ?_);refine xN 35 1 ?_;have ah:=RL.nil (ρ:=rpS (tPt (k+1))) (h:=h0);refine gcL (ι:=Nat×List (List Tq)×Value×List Value×Mem) (λ(l,D,C,H,ma)=>(MLe h0 ma/\(RL (tLs (k+1)) ma H D/\l<=f.2.1.length/\D=zA7 s.1 f.2.1 l),[(2,vP b2 0),(5,C),(12,ac),(13,vI (↑(f.2.1).length:Int)),(14,vI ↑l)],[.gs 35 1 C D.length H,.var b3 53 au,.var b2 39 av],ma,f.2.1.length-l)) (0,[],(.slice none 0 0),[],h0) ?_ ?_
 · exact⟨mle,ah,by omega,I⟩
 rintro⟨l,D,C,H,ma⟩ ⟨bl,U,cf,hD⟩
 refine xD ?_;have cj:D.length=l:=by rw[hD];exact yY _ _
 refine gc6 (λap=>?_) λap=>?_
 ·
  refine go6 ?_;refine lX (xI [] l underlying51 fQ bi) λbw bh=>(lX (xA fQ bh) λay bg=>(mF ?_));refine xN 31 9 ?_;have ae:=RL.nil (ρ:=rpT (rpQ (k+1))) (h:=ma);refine gcL (ι:=Nat×List Tq×Value×List Value×Mem) (λ(u,E,J,M,mb)=>(MLe ma mb/\(RL (tPt (k+1)) mb M E/\u<=(f.2.1.getD l []).length/\E=zF7 s.1 (f.2.1.getD l []) u),[(2,vP b2 0),(5,C),(8,J),(12,ac),(13,vI (↑(f.2.1).length:Int)),(14,vI ↑l),(18,ay),(19,vI (↑((f.2.1.getD l [])).length:Int)),(20,vI ↑u)],[.gs 31 9 J E.length M,.gs 35 1 C D.length H,.var b3 53 au,.var b2 39 av],mb,(f.2.1.getD l []).length-u)) (0,[],(.slice none 0 0),[],ma) ?_ ?_
  · exact⟨mle,ae,by omega,I⟩
  rintro⟨u,E,J,M,mb⟩ ⟨bk,O,cc,hE⟩
  refine xD ?_;have ci:E.length=u:=by rw[hE];exact yY _ _
  have ch:=hcd2 l oM;refine gc6 (λao=>?_) λao=>?_
  ·
   obtain⟨ce,cd⟩:=hcd0 l u oM oM;refine go6 ?_;refine lX (xI (0:Int) u underlying22 ty3 bg) λbv bf=>(lX (xA ty3 bf) λbu be=>?_);obtain⟨rfl,bm,bj⟩:=jM be;refine go6 ?_;refine lX (xB qD (y4e pH) ba) λbt bd=>(go1 ?_);refine lX (xI zT (((f.2.1.getD l []).getD u 0).toNat) underlying35 zN bd) λbs bc=>(lX (xA zN bc) λbr bb=>(zH (zJ (ρ:=(tPt (k+1))) (m:=1) (xs:=[(s.1.getD (((f.2.1.getD l []).getD u 0).toNat) zT)]) (ps':=[(0,_)]) underlying35 yS I I I (xW (yM oM)) e2z (zD I (y4u (y4i _) zT 0 dC) (bb.le (Le.t (Le.q (l:=k+1) oM))) zP) zok nP) I I I ?_))
   rintro bq cb ⟨bo,rfl,am⟩
   refine zQ (A:=[]) (ρ:=(tPt (k+1))) am ?_;intro h1 an ad;refine xP (A:=[]) (zS (ρ:=(tPt (k+1))) (bytes:=168) underlying35 yS I I I I nP I I O.up ad bO bO) I I I ?_
   rintro ax ca ⟨ar,rfl,ak⟩
   refine go8 ?_;refine gqL ((u+1),(E++[(s.1.getD (((f.2.1.getD l []).getD u 0).toNat) zT)]),ax,ar,h1) ?_ ?_
   · exact⟨mle,ak,by omega,by rw[hE];rfl⟩
   omega
  have eu:u=(f.2.1.getD l []).length:=by omega
  refine go8 ?_;refine zQ (A:=[]) (ρ:=(tPt (k+1))) O.up ?_;intro h1 an ab;refine zH (zJ (ρ:=(tLs (k+1))) (m:=1) (xs:=[E]) (ps':=[(0,_)]) underlying76 bH I I I wK e2z (zD I (y4u (y4i _) [] 0 dC) ab zP) zoj nP) I I I ?_
  rintro bp bz ⟨bn,rfl,aj⟩
  refine zQ (A:=[]) (ρ:=(tLs (k+1))) aj ?_;intro h2 cg aa;refine xP (A:=[]) (zS (ρ:=(tLs (k+1))) (bytes:=24) underlying76 bH I I I I nP I I U.up aa bO bO) I I I ?_
  rintro aw bx ⟨aq,rfl,ai⟩
  refine go8 ?_;refine gqL ((l+1),(D++[E]),aw,aq,h2) ?_ ?_
  · exact⟨mle,ai,by omega,by rw[hD,hE,eu];rfl⟩
  omega
 have el:l=f.2.1.length:=by omega
 refine uY ?_;refine wT (A:=[]) (ρ:=(tLs (k+1))) U.up ?_;intro h1 an Z;refine zC I I ?_;exact(Rp.Is.cast Z (by rw[hD,el]))
theorem zJQ{m n k j:Nat}{vf:Value}{f:(Pq×((List (List Tq))×(Int×Int)))}(rf:(rpP (tPl m n) (rpP (tLL k) (rpP rpI rpI))).Is h0 vf f){vp:Value}{p:Tq}(rp:(tPt j).Is h0 vp p)(hcd0:k<=50000)(hcd1:j<=50000)(hcd2:yLA f):
 Calls prog 109 #[vf,vp] w0 (Ret w0 h0 (λ_ r=>r=vI (whM f p))):=by
 obtain⟨M,hi2⟩:∃M:Nat,f.2.2.1=↑M:=⟨f.2.2.1.toNat,by have:=hcd2.1;omega⟩;obtain⟨J,H⟩:∃J:Nat,f.2.2.2=↑J:=⟨f.2.2.2.toNat,by have:=hcd2.2.1;omega⟩;have C:=hcd2;unfold yLA at C;rw[hi2,H] at C;refine cb2 13 vf vp func109 hs ?_;refine go2 ?_;refine nB rf λb2 ak D=>(nB rp λb3 aj U=>(go6 ?_));refine lX (xB yH3 (y5i (y4e pH)) D) λv6 r6=>(lX (xB zN pH U) λv7 r7=>(go1 ?_));refine lX (xB ty3 (y5i (y5i (y4e pH))) D) λv9 r9=>?_;obtain⟨rfl,ah,ae⟩:=jM r9;refine go1 ?_;refine lX (xB ty3 (y5i (y5i (y5i pH))) D) λad aa=>?_;obtain⟨rfl,ac,ab⟩:=jM aa;rw[hi2,H];refine cL (ev4 I I I I) call149 (λw hs=>zQ4 (i:=M) (j:=J) hs (r6.le (Le.s (Le.s (Le.t (Le.q (l:=j+k) oM))))) (r7.le (Le.t (Le.q (l:=j+k) oM))) oM oM oM (by first|omega|exact C.2.2.2|exact C.2.2.1) (by first|omega|exact C.2.2.2|exact C.2.2.1)) λO h1 ai Z=>?_;obtain rfl:O=vI (whZ f.2.1 (pr p M J) M J):=Z;refine go4 ?_;refine zC I I ?_;unfold whM;rw[hi2,H];rfl
theorem yEX{k l j:Nat}{vx:Value}{x:(Tq×(Tq×Prop))}(rx:(rpP (tPt k) (rpP (tPt l) rpB)).Is h0 vx x){vd:Value}{d:Tq}(rd:(tPt j).Is h0 vd d)(hcd0:k<=1000000)(hcd1:l<=1000000)(hcd2:j<=1000000):
 Calls prog 117 #[vx,vd] w0 (Ret w0 h0 (λ_ r=>r=vB (zHF x d))):=by
 refine cb2 18 vx vd func117 hs ?_;refine go2 ?_;refine nB rx λb2 ao C=>(nB rd λb3 an M=>(go7 ?_));refine lX (xB ty4 (y5i (y5i pH)) C) λv6 r6=>?_;obtain rfl:=yJ6 r6;refine gc2 (λJ=>?_) λJ=>?_
 ·
  refine go3 ?_;refine lX (xB zN (y5i (y4e pH)) C) λv8 r8=>(lX (xB zN pH M) λv9 r9=>(cL (ev2 I I) call114 (λw hs=>zJG hs r8 r9 oM) λam h1 ah H=>?_));replace H:=Rp.Is.le H (Le.t (Le.q (l:=2*j+2*l+3) oM));refine cL (ev1 I) call78 (λw hs=>zGI hs H oM) λU h2 ae ac=>?_;obtain rfl:U=vB ((yC x.2.1 d)=zT):=ac;refine go5 ?_;refine zC I I ?_;exact kO (by unfold zHF;rw[zau J])
 refine go5 ?_;refine lX (xB zN (y4e pH) C) λak ab=>(lX (xB zN pH M) λaj aa=>(cL (ev2 I I) call120 (λw hs=>zE1 hs ab aa oM) λai h1 ah D=>?_));replace D:=Rp.Is.le D (Le.q (l:=3*j+3*k+9) oM);refine cL (ev1 I) call122 (λw hs=>pF hs D oM) λO h2 ae Z=>?_;obtain rfl:O=vI (yX (zM x.1 d)):=Z;have ad:=xK (zM x.1 d);refine go5 ?_;refine zC I I ?_;exact kO (by unfold zHF;rw[zae J];exact zSR)
theorem zZR{m n k j:Nat}{vmd:Value}{md:((List (Pq×((List (List Tq))×(Int×Int))))×(List (List Tq)))}(rmd:(rpP (rpS (rpP (tPl m n) (rpP (tLL k) (rpP rpI rpI)))) (rpS (rpA 2 (tPt k)))).Is h0 vmd md){vp:Value}{p:Tq}(rp:(tPt j).Is h0 vp p)(hcd0:k<=20000)(hcd1:j<=20000)(hcd2:m<=20000)(hcd3:n<=20000)(hcd4:zV6 md):
 Calls prog 70 #[vmd,vp] w0 (Ret w0 h0 (λh r=>r=.tuple #[vI (↑(onJ md p):Int),vB (onA md p)])):=by
 refine cb2 35 vmd vp func70 hs ?_;refine go2 ?_;refine nB rmd λb2 ad aj=>(nB rp λb3 ac U=>(go8 ?_));refine lX (xB yH2 (y4e pH) aj) λv9 r9=>(go5 ?_);refine gcL (ι:=Nat×Mem) (λ(f,ma)=>(MLe h0 ma/\(f<=md.1.length/\∀u,u<f->¬onM md p u),[(3,vP b3 0),(9,v9),(10,vI (↑(md.1).length:Int)),(11,vI ↑f)],[.var b3 31 ac,.var b2 99 ad],ma,md.1.length-f)) (0,h0) ?_ ?_
 · exact⟨mle,by omega,λu h=>by omega⟩
 rintro⟨f,ma⟩ ⟨ay,bj,J⟩
 refine xD ?_;have bh:=hcd4.1;refine gc6 (λaa=>?_) λaa=>?_
 ·
  refine go7 ?_;refine lX (xI fm0 f underlying96 zFM r9) λbf au=>(lX (xA zFM au) λbe ar=>(nA (ρ:=(rpP (tPl 1 1) (rpP (tLL 1) (rpP rpI rpI)))) (X:=((zT,(0:Rat)),([],((0:Int),(0:Int))))) eP (yE (yE (xW (yM dC)) (yM dC)) (yE wK (yE wL wL))) λb7 bk ai=>(go1 ?_)));have O:=(Le.p (Le.p (Le.t (Le.q (l:=m+1) oM)) (Le.q (l:=n+1) oM)) (Le.p (Le.s (Le.s (Le.t (Le.q (l:=k+1) oM)))) (Le.refl _))).R ai;refine yD (A:=[]) (uB sizeOf140 pH O (ar.le (Le.p (Le.p (Le.t (Le.q (l:=m+1) oM)) (Le.q (l:=n+1) oM)) (Le.p (Le.s (Le.s (Le.t (Le.q (l:=k+1) oM)))) (Le.refl _))))) λab C=>(go5 ?_);refine lX (xB lE (y4e pH) C) λbd aq=>(lX (xB zN pH U) λbc ap=>(cL (ev2 I I) call108 (λw hs=>zV1 hs aq ap oM oM oM) λah h1 bi ao=>?_));obtain rfl:ah=vI (sdZ ((md.1.getD f fm0).1) p):=ao;have av:=lF ((md.1.getD f fm0).1) p;refine go1 ?_;refine gU 6 26 (vB (((sdZ ((md.1.getD f fm0).1) p)=(0:Int))/\((0:Int)<(↑(((md.1.getD f fm0).2).1).length:Int)))) ?_ ?_
  ·
   refine zY ((sdZ ((md.1.getD f fm0).1) p)=(0:Int)) (λD=>?_) (λD=>?_)
   ·
    refine gT D I (go3 ?_);refine lX (xB yH3 (y5i (y4e pH)) C) λbb bg=>(go6 ?_);refine gqU ?_;exact y3u (xL D)
   refine gF D I (go6 ?_);refine gqU ?_;exact y3u (xM D)
  refine qE (ι:=Mem) 6 (λm_=>MLe h1 m_) (λ_=>[(32,vB ((((sdZ ((md.1.getD f fm0).1) p)=(0:Int))/\((0:Int)<(↑(((md.1.getD f fm0).2).1).length:Int)))/\((0:Int)<=(whM (md.1.getD f fm0) p)))),(3,vP b3 0),(9,v9),(10,vI (↑(md.1).length:Int)),(11,vI ↑f),(6,vI ↑f)]) (λ_=>[.var b7 140 ab,.var b3 31 ac,.var b2 99 ad]) (λm_=>m_) ?_ ?_
  ·
   refine zY (((sdZ ((md.1.getD f fm0).1) p)=(0:Int))/\((0:Int)<(↑(((md.1.getD f fm0).2).1).length:Int))) (λD=>?_) (λD=>?_)
   ·
    refine gT D I (go1 ?_);refine lX (xB zFM pH C) λba an=>(go1 ?_);refine lX (xB zN pH U) λaz am=>(go1 ?_);refine cL (ev2 I I) call109 (λw hs=>zJQ hs an am oM oM (by first|omega|exact hcd4.2.2 f oM)) λae h2 ax ak=>?_;obtain rfl:ae=vI (whM (md.1.getD f fm0) p):=ak;refine go4 ?_;refine zV h2 ax ⟨?_,I,I,I,I,I,y3e⟩ I I;exact y3u (xL D)
   refine gF D I (go6 ?_);refine zV h1 (MLe.refl _) ⟨?_,I,I,I,I,I,y3e⟩ I I;exact y3u (xM D)
  intro H M;refine sN ?_;refine gc2 (λZ=>?_) λZ=>?_
  ·
   have aw:onM md p f:=by show((_/\_)/\_);omega
   obtain⟨e1,e2⟩:=zVL oM aw J;refine pL ?_;refine wU I I I ?_;rw[e1,wA e2]
  refine go7 ?_;refine yW (A:=[]) ?_;refine gqL ((f+1),H) ?_ ?_
  · exact⟨mle,by omega,vX (Q:=λu=>¬onM md p u) J (by show ¬((_/\_)/\_);omega)⟩
  omega
 obtain⟨e1,e2⟩:=zZG (md:=md) (p:=p) (λu hu=>J u oM);refine uY ?_;refine wU I I I ?_;rw[e1,yN e2];rfl
theorem zII{m n k j:Nat}{vmd:Value}{md:((List (Pq×((List (List Tq))×(Int×Int))))×(List (List Tq)))}(rmd:(rpP (rpS (rpP (tPl m n) (rpP (tLL k) (rpP rpI rpI)))) (rpS (rpA 2 (tPt k)))).Is h0 vmd md){vp:Value}{p:Tq}(rp:(tPt j).Is h0 vp p)(hcd0:k<=10000)(hcd1:j<=10000)(hcd2:zV6 md)(hcd3:pY md p<=3*md.2.length+1)(hcd4:clM md p (vK ↑(pY md p))):
 Calls prog 74 #[vmd,vp] w0 (Ret w0 h0 (λh r=>(tPt 2).Is h r (vK ↑(pY md p)))):=by
 have fc:=hcd2.2.1;refine cb2 75 vmd vp func74 hs ?_;refine go2 ?_;refine nB rmd λb2 bf cc=>(nB rp λb3 be bi=>(nA (ρ:=(tPt 2)) (X:=zT) yS (xW (yM dC)) λb4 bd cb=>(go2 ?_)));refine yBJ (go9 ?_);refine lX (xB yM5 (y5i pH) cc) λbx dc=>(go5 ?_);refine xN 153 19 ?_;have bh:=RL.nil (ρ:=rpP (tPt (4*j+4*k+15)) (rpP (tPt (2*k+4)) rpB)) (h:=h0);refine gcL (ι:=Nat×List Ac×Value×List Value×Mem) (λ(q,D,C,J,ma)=>(MLe h0 ma/\(RL (rpP (tPt (4*j+4*k+15)) (rpP (tPt (2*k+4)) rpB)) ma J D/\q<=md.2.length/\D=acT p md.2 q),[(3,vP b3 0),(4,vP b4 0),(5,C),(14,bx),(15,vI (↑(md.2).length:Int)),(16,vI ↑q)],[.gs 153 19 C D.length J,.var b4 31 bd,.var b3 31 be,.var b2 99 bf],ma,md.2.length-q)) (0,[],(.slice none 0 0),[],h0) ?_ ?_
 · exact⟨mle,bh,by omega,I⟩
 rintro⟨q,D,C,J,ma⟩ ⟨du,Z,fb,hD⟩
 refine xD ?_;have ff:D.length=q:=by rw[hD];exact yY _ _
 refine gc6 (λbq=>?_) λbq=>?_
 ·
  refine go6 ?_;refine lX (xI ed0 q underlying97 yGI dc) λez db=>(lX (xA yGI db) λey da=>(nA (ρ:=(rpA 2 (tPt (k+1)))) (X:=ed0) zB3 (zMO 2 (xW (yM oM))) λb7 fg ca=>(yD (A:=[]) (uB sizeOf151 pH ca (da.le (Le.a (Le.t (Le.q (l:=k+1) oM))))) λdx O=>(go3 ?_))));refine zL 11 _ [(10,(8,153,[.bool false,.slice none 0 0,.slice none 0 0,.bool false,.slice none 0 0,.slice none 0 0,.bool false,.slice none 0 0,.slice none 0 0,.bool false,.slice none 0 0,.slice none 0 0,.bool false,.slice none 0 0,.slice none 0 0,.bool false,.slice none 0 0,.slice none 0 0,.bool false]))] [(0,.q),(1,.q),(2,.q),(4,.q),(5,.q),(6,.q),(3,.c),(7,.c),(8,.c),(9,.q),(10,.a),(11,.t)] yF (kL.cons I I (qQ nT I I) kL.nil) (wS zou) (qR I I gY) (λr hr=>hr) (go1 ?_);refine wX I (xB zN (y4u pH zT 0 dC) O) λew cz=>(wX I (xB zN pH bi) λev cy=>(go1 ?_));refine wX I (xB zN (y4u pH zT 1 dC) O) λes cw=>(wX I (xB zN pH bi) λer cu=>?_);refine w_c I (sC (ev2 I I) call115 (λw hs=>zK8 hs cz cy oM) λeu h1 dk ba=>?_);replace ba:=Rp.Is.le ba (Le.t (Le.q (l:=j+k+3) oM));refine w_c I (sC (ev2 I I) call115 (λw hs=>zK8 hs cw.up cu.up oM) λep h2 dj az=>?_);replace az:=Rp.Is.le az (Le.t (Le.q (l:=j+k+3) oM));refine w_c I (sC (ev2 I I) call114 (λw hs=>zJG hs ba.up az oM) λeo h3 di ay=>?_);replace ay:=Rp.Is.le ay (Le.t (Le.q (l:=4*j+4*k+15) oM));refine wX I (xV (ρ:=(rpP (tPt (4*j+4*k+15)) (rpP (tPt 1) rpB))) (wE (ps':=[(0,_)]) underlying153 nT I I (zVE underlying153) e2z I (yE (xW (yM oM)) (yE (xW (yM dC)) zUM)) (zD I (y4e (y4i _)) ay zP))) λen ct=>?_;refine w_a I I (λb8=>?_);have bz:(rpP (tPt 1) (rpP (tPt 1) rpB)).R h3 [.bool false,.slice none 0 0,.slice none 0 0,.bool false,.slice none 0 0,.slice none 0 0,.bool false,.slice none 0 0,.slice none 0 0,.bool false,.slice none 0 0,.slice none 0 0,.bool false,.slice none 0 0,.slice none 0 0,.bool false,.slice none 0 0,.slice none 0 0,.bool false] (zT,(zT,False)):=(yE (xW (yM dC)) (yE (xW (yM dC)) zUM));have bg:=(Le.p (Le.t (Le.q (l:=4*j+4*k+15) oM)) (Le.refl _)).R bz;refine yJ (A:=[]) I (uB sizeOf153 pH bg ct) λdw ai=>(go6 ?_);refine lX (xB zN (y4e pH) ai) λem cq=>(cL (ev1 I) call78 (λw hs=>zGI hs cq oM) λbw h4 dh cp=>?_);obtain rfl:bw=vB ((yC (T3.mk (((md.2.getD q ed0).getD 0 zT).x-p.x) (((md.2.getD q ed0).getD 0 zT).y-p.y) (((md.2.getD q ed0).getD 0 zT).z-p.z)) (T3.mk (((md.2.getD q ed0).getD 1 zT).x-p.x) (((md.2.getD q ed0).getD 1 zT).y-p.y) (((md.2.getD q ed0).getD 1 zT).z-p.z)))=zT):=cp;refine go1 ?_;refine yD (A:=[]) (uB sizeOf4 (y5i (y5i pH)) ai (yN5 _)) λdp M=>(go5 ?_);refine lX (xB ty4 (y5i (y5i pH)) M) λel co=>?_;obtain rfl:=yJ6 co;refine gc2 (λad=>?_) λad=>?_
  ·
   refine go2 ?_;refine lX (xB zN (y4u pH zT 1 dC) O) λek cn=>(go1 ?_);refine lX (xB zN (y4u pH zT 0 dC) O) λej cm=>(cL (ev2 I I) call115 (λw hs=>zK8 hs cn cm oM) λei h5 df ax=>?_);replace ax:=Rp.Is.le ax (Le.t (Le.q (l:=2*k+4) oM));refine go1 ?_;have an:=(Le.p (Le.refl _) (Le.p (Le.t (Le.q (l:=2*k+4) oM)) (Le.refl _))).R M;refine yD (A:=[]) (uB sizeOf31 (y5i (y4e pH)) an ax) λdn av=>(go4 ?_);refine lX (xB zSJ pH av) λbv aw=>(zH (zJ (ρ:=(rpP (tPt (4*j+4*k+15)) (rpP (tPt (2*k+4)) rpB))) (m:=1) (xs:=[(yC (T3.mk (((md.2.getD q ed0).getD 0 zT).x-p.x) (((md.2.getD q ed0).getD 0 zT).y-p.y) (((md.2.getD q ed0).getD 0 zT).z-p.z)) (T3.mk (((md.2.getD q ed0).getD 1 zT).x-p.x) (((md.2.getD q ed0).getD 1 zT).y-p.y) (((md.2.getD q ed0).getD 1 zT).z-p.z)),((T3.mk (((md.2.getD q ed0).getD 1 zT).x-((md.2.getD q ed0).getD 0 zT).x) (((md.2.getD q ed0).getD 1 zT).y-((md.2.getD q ed0).getD 0 zT).y) (((md.2.getD q ed0).getD 1 zT).z-((md.2.getD q ed0).getD 0 zT).z)),(yC (T3.mk (((md.2.getD q ed0).getD 0 zT).x-p.x) (((md.2.getD q ed0).getD 0 zT).y-p.y) (((md.2.getD q ed0).getD 0 zT).z-p.z)) (T3.mk (((md.2.getD q ed0).getD 1 zT).x-p.x) (((md.2.getD q ed0).getD 1 zT).y-p.y) (((md.2.getD q ed0).getD 1 zT).z-p.z)))=zT))]) (ps':=[(0,_)]) underlying150 nT I I I (yE (xW (yM oM)) (yE (xW (yM oM)) zUM)) e2z (zD I (y4u (y4i _) (zT,(zT,False)) 0 dC) aw zP) zoo nP) I I I ?_);intro bu de bm;obtain⟨br,rfl,ab⟩:=bm;refine zQ (A:=[]) (ρ:=(rpP (tPt (4*j+4*k+15)) (rpP (tPt (2*k+4)) rpB))) ab ?_;intro h6 fe ap;refine xP (A:=[_,_]) (zS (ρ:=(rpP (tPt (4*j+4*k+15)) (rpP (tPt (2*k+4)) rpB))) (bytes:=344) underlying150 nT I I I I nP I I Z.up ap bO bO) I I I ?_;intro ak dd bl;obtain⟨ae,rfl,aa⟩:=bl;refine go8 ?_;refine yW (A:=[]) (yW (A:=[]) ?_);refine gqL ((q+1),(D++[(yC (T3.mk (((md.2.getD q ed0).getD 0 zT).x-p.x) (((md.2.getD q ed0).getD 0 zT).y-p.y) (((md.2.getD q ed0).getD 0 zT).z-p.z)) (T3.mk (((md.2.getD q ed0).getD 1 zT).x-p.x) (((md.2.getD q ed0).getD 1 zT).y-p.y) (((md.2.getD q ed0).getD 1 zT).z-p.z)),((T3.mk (((md.2.getD q ed0).getD 1 zT).x-((md.2.getD q ed0).getD 0 zT).x) (((md.2.getD q ed0).getD 1 zT).y-((md.2.getD q ed0).getD 0 zT).y) (((md.2.getD q ed0).getD 1 zT).z-((md.2.getD q ed0).getD 0 zT).z)),(yC (T3.mk (((md.2.getD q ed0).getD 0 zT).x-p.x) (((md.2.getD q ed0).getD 0 zT).y-p.y) (((md.2.getD q ed0).getD 0 zT).z-p.z)) (T3.mk (((md.2.getD q ed0).getD 1 zT).x-p.x) (((md.2.getD q ed0).getD 1 zT).y-p.y) (((md.2.getD q ed0).getD 1 zT).z-p.z)))=zT))]),ak,ae,h6) ?_ ?_
   · exact⟨mle,aa,by omega,ac_t hD ad⟩
   omega
  refine go4 ?_;refine lX (xB zSJ pH M) λbv aw=>(zH (zJ (ρ:=(rpP (tPt (4*j+4*k+15)) (rpP (tPt 1) rpB))) (m:=1) (xs:=[(yC (T3.mk (((md.2.getD q ed0).getD 0 zT).x-p.x) (((md.2.getD q ed0).getD 0 zT).y-p.y) (((md.2.getD q ed0).getD 0 zT).z-p.z)) (T3.mk (((md.2.getD q ed0).getD 1 zT).x-p.x) (((md.2.getD q ed0).getD 1 zT).y-p.y) (((md.2.getD q ed0).getD 1 zT).z-p.z)),(zT,(yC (T3.mk (((md.2.getD q ed0).getD 0 zT).x-p.x) (((md.2.getD q ed0).getD 0 zT).y-p.y) (((md.2.getD q ed0).getD 0 zT).z-p.z)) (T3.mk (((md.2.getD q ed0).getD 1 zT).x-p.x) (((md.2.getD q ed0).getD 1 zT).y-p.y) (((md.2.getD q ed0).getD 1 zT).z-p.z)))=zT))]) (ps':=[(0,_)]) underlying150 nT I I I (yE (xW (yM oM)) (yE (xW (yM dC)) zUM)) e2z (zD I (y4u (y4i _) (zT,(zT,False)) 0 dC) aw zP) zoo nP) I I I ?_)
  rintro bu de ⟨br,rfl,ab⟩
  refine zQ (A:=[]) (ρ:=(rpP (tPt (4*j+4*k+15)) (rpP (tPt 1) rpB))) ab ?_;intro h5 df ao;refine xP (A:=[_,_]) (zS (ρ:=(rpP (tPt (4*j+4*k+15)) (rpP (tPt (2*k+4)) rpB))) (bytes:=344) underlying150 nT I I I I nP I I Z.up (ao.le (Le.s (Le.p (Le.refl _) (Le.p (Le.t (Le.q (l:=2*k+4) oM)) (Le.refl _))))) bO bO) I I I ?_
  rintro ak dd ⟨ae,rfl,aa⟩
  refine go8 ?_;refine yW (A:=[]) (yW (A:=[]) ?_);refine gqL ((q+1),(D++[(yC (T3.mk (((md.2.getD q ed0).getD 0 zT).x-p.x) (((md.2.getD q ed0).getD 0 zT).y-p.y) (((md.2.getD q ed0).getD 0 zT).z-p.z)) (T3.mk (((md.2.getD q ed0).getD 1 zT).x-p.x) (((md.2.getD q ed0).getD 1 zT).y-p.y) (((md.2.getD q ed0).getD 1 zT).z-p.z)),(zT,(yC (T3.mk (((md.2.getD q ed0).getD 0 zT).x-p.x) (((md.2.getD q ed0).getD 0 zT).y-p.y) (((md.2.getD q ed0).getD 0 zT).z-p.z)) (T3.mk (((md.2.getD q ed0).getD 1 zT).x-p.x) (((md.2.getD q ed0).getD 1 zT).y-p.y) (((md.2.getD q ed0).getD 1 zT).z-p.z)))=zT))]),ak,ae,h5) ?_ ?_
  · exact⟨mle,aa,by omega,ac_f hD ad⟩
  omega
 have eq:q=md.2.length:=by omega
 rw[eq] at hD;have dv:D.length=md.2.length:=by rw[hD];exact yY _ _
 refine go6 ?_;refine yBK (go8 ?_);refine gcL (ι:=Nat×Mem) (λ(H,mb)=>(MLe ma mb/\(H<=pY md p),[(4,vP b4 0),(5,C),(9,vI ↑H)],[.gs 153 19 C D.length J,.var b4 31 bd,.var b3 31 be,.var b2 99 bf],mb,pY md p-H)) (0,ma) ?_ ?_
 · exact⟨mle,oM⟩
 rintro⟨H,mb⟩ ⟨dt,bo⟩
 refine xD ?_;have bb:=bo;refine go5 ?_;refine gv (kF mh0 underlying150 I) I (gv (gX (p:=3) I I oM oM) I (gc4 (λaj=>?_) λaj=>?_))
 ·
  have fd:(0:Int)<=↑H*↑H/\(↑H:Int)*↑H<=36000012000001:=by have h9:H*H<=6000001*6000001:=z7i oM oM;rw[<-zeu];omega
  refine go6 ?_;refine cL (vs:=[vI (1)]) ⟨I,y3e⟩ call116 (λw hs=>zC7 hs dC dC) λeh h1 dk cl=>(go1 ?_);refine cL (ev1 I) call116 (λw hs=>zC7 hs oM oM) λeg h2 dj ck=>(go2 ?_);refine gv (gX I I oM oM) I (cL (ev1 I) call116 (λw hs=>zC7 hs oM oM) λef h3 di cj=>(lX (xV (ρ:=(tPt 2)) (wH (ps':=[(0,_),(1,_),(2,_)]) underlying31 yS I I sizeOf29 e6z I (xW (yM dC)) (zD I (y5u (y4i _)) cl.up (zD I (y5e (y4i _)) ck.up (zD I (y6i (y4i _)) cj zP))))) λee ci=>(nA (ρ:=(tPt 2)) (X:=zT) yS (xW (yM dC)) λbs dz bk=>(yD (A:=[]) (uB sizeOf31 pH bk ci) λbc ac=>(go6 ?_)))));refine gv (kF mh1 underlying150 I) I (go4 ?_);refine gcL (ι:=Nat×Mem) (λ(u,mc)=>(MLe h3 mc/\(u<=D.length/\∀v,v<u->¬zHF (D.getD v (zT,(zT,False))) (vK ↑H)),[(4,vP b4 0),(5,C),(9,vI ↑H),(10,vP bs 0),(63,C),(64,vI (↑D.length:Int)),(65,vI ↑u)],[.var bs 31 bc,.gs 153 19 C D.length J,.var b4 31 bd,.var b3 31 be,.var b2 99 bf],mc,D.length-u)) (0,h3) ?_ ?_
  · exact⟨mle,by omega,λv h=>by omega⟩
  rintro⟨u,mc⟩ ⟨dr,fa,bn⟩
  refine xD ?_;refine gc6 (λbp=>?_) λbp=>?_
  ·
   refine go6 ?_;refine gv ((yK u mh1 underlying150 sizeOf153 I I I bO nP).cv (show _=zG 1 C ((u*19+0)) from zbi (zG 1 C) zo3)) I (zIP (F:=λv_=>(rpP (tPt (4*j+4*k+15)) (rpP (tPt (2*k+4)) rpB)).Is mc v_ (D.getD u (zT,(zT,False)))) (xE zSJ (y4u (y4i _) (zT,(zT,False)) u bO) I nP I Z.up I) (gC mh1) I ?_);intro ed ch;refine nA (ρ:=(rpP (tPt 1) (rpP (tPt 1) rpB))) (X:=(zT,(zT,False))) nT (yE (xW (yM dC)) (yE (xW (yM dC)) zUM)) λfh dy bj=>?_;have am:=(Le.p (Le.t (Le.q (l:=4*j+4*k+15) oM)) (Le.p (Le.t (Le.q (l:=2*k+4) oM)) (Le.refl _))).R bj;refine yD (A:=[]) (uB sizeOf153 pH am ch) λdm au=>(go4 ?_);refine lX (xB zSJ pH au) λec cg=>(lX (xB zN pH ac) λeb cf=>(cL (ev2 I I) call117 (λw hs=>yEX hs cg cf oM oM dC) λbt h4 dh ce=>?_));obtain rfl:bt=vB (zHF (D.getD u (zT,(zT,False))) (T3.mk (((1:Int):Int):Rat) (((↑H:Int):Int):Rat) ((((↑H:Int)*(↑H:Int)):Int):Rat))):=ce;refine gc2 (λU=>?_) λU=>?_
   ·
    refine pL ?_;refine yW (A:=[]) (yW (A:=[]) ?_);refine gqL ((H+1),h4) ?_ ?_
    · exact⟨mle,zO2 hD hcd4 bb oM U⟩
    (have:=zO2 hD hcd4 bb oM U;omega)
   refine go7 ?_;refine yW (A:=[]) ?_;refine gqL ((u+1),h4) ?_ ?_
   · exact⟨mle,by omega,vX (Q:=λv=>¬zHF (D.getD v (zT,(zT,False))) (vK ↑H)) bn U⟩
   omega
  refine go7 ?_;refine lX (xB zN pH ac) λea cd=>(yD (A:=[_,_]) (uB sizeOf31 pH cb cd) λdl ar=>(go8 ?_));refine yN9 (vM (gG (t:=4) zN mh2 I ar) ?_);intro dq ah aq;refine xC (λE S=>yB I ah E S) ?_;exact(Rp.Is.cast aq (by rw[<-yFW hD bb (λv hv=>bn v oM)];rfl))
 exact absurd oM aj
theorem j8{m n k j l:Nat}{vmd:Value}{md:((List (Pq×((List (List Tq))×(Int×Int))))×(List (List Tq)))}(rmd:(rpP (rpS (rpP (tPl m n) (rpP (tLL k) (rpP rpI rpI)))) (rpS (rpA 2 (tPt k)))).Is h0 vmd md){vp:Value}{p:Tq}(rp:(tPt j).Is h0 vp p){vd:Value}{d:Tq}(rd:(tPt l).Is h0 vd d)(hcd0:k<=10000)(hcd1:j<=1000)(hcd2:l<=300)(hcd3:m<=100)(hcd4:n<=100)(hcd5:zV6 md):
 Calls prog 79 #[vmd,vp,vd] w0 (Ret w0 h0 (λh r=>r=.tuple #[vI (crA md p d),vI (crB md p d),vB (nbM md p d)])):=by
 refine cb3 77 vmd vp vd func79 hs ?_;refine go2 ?_;refine nB rmd λb3 cn bi=>(nB rp λb4 cm aw=>(nB rd λb5 cl av=>(pX ?_)));refine lX (xB yH2 (y4e pH) bi) λbh cg=>(go5 ?_);refine gcL (ι:=Nat×Mem) (λ(f,ma)=>(MLe h0 ma/\(f<=md.1.length/\∀u,u<f->¬bdM (md.1.getD u fm0) p d),[(4,vP b4 0),(5,vP b5 0),(9,vI (crM md p d f).1),(10,vI (crM md p d f).2),(18,bh),(19,vI (↑(md.1).length:Int)),(20,vI ↑f)],[.var b5 31 cl,.var b4 31 cm,.var b3 99 cn],ma,md.1.length-f)) (0,h0) ?_ ?_
 · exact⟨mle,by omega,λu h=>by omega⟩
 rintro⟨f,ma⟩ ⟨co,ek,ab⟩
 refine xD ?_;have dz:=hcd5.1;have el:=zDU md p d f;refine gc6 (λbb=>?_) λbb=>?_
 ·
  refine go6 ?_;refine lX (xI fm0 f underlying96 zFM cg) λdx cf=>(lX (xA zFM cf) λdw ce=>(nA (ρ:=(rpP (tPl 1 1) (rpP (tLL 1) (rpP rpI rpI)))) (X:=((zT,(0:Rat)),([],((0:Int),(0:Int))))) eP (yE (yE (xW (yM dC)) (yM dC)) (yE wK (yE wL wL))) λep cw ba=>?_));have au:=(Le.p (Le.p (Le.t (Le.q (l:=m+1) oM)) (Le.q (l:=n+1) oM)) (Le.p (Le.s (Le.s (Le.t (Le.q (l:=k+1) oM)))) (Le.refl _))).R ba;refine yD (A:=[]) (uB sizeOf140 pH au (ce.le (Le.p (Le.p (Le.t (Le.q (l:=m+1) oM)) (Le.q (l:=n+1) oM)) (Le.p (Le.s (Le.s (Le.t (Le.q (l:=k+1) oM)))) (Le.refl _))))) λcu U=>(go3 ?_);refine zL 16 _ [(14,(13,29,[.bool false,.slice none 0 0,.slice none 0 0])),(15,(14,29,[.bool false,.slice none 0 0,.slice none 0 0]))] (zai 0 4 (zai 5 7 [(4,.c),(12,.c),(13,.c),(14,.a),(15,.a),(16,.t),(17,.t)])) yF (kL.cons I I (qQ wD I I) (kL.cons I I (qQ wD I I) kL.nil)) (wS zou) (qR I I (qR I I gY)) (λr hr=>hr) (go2 ?_);refine wX I (xB zN (y4e (y4e pH)) U) λdv cd=>(wX I (xB zN pH av) λdu cc=>(go2 ?_));refine wX I (xB yI (y4e (y5i pH)) U) λdr cb=>(go2 ?_);refine wX I (xB zN (y4e (y4e pH)) U) λdq ca=>(wX I (xB zN pH aw) λdp bz=>?_);refine w_c I (sC (ev2 I I) call120 (λw hs=>zE1 hs cd cc oM) λdt h1 ej ap=>?_);replace ap:=Rp.Is.le ap (Le.q (l:=3*l+3*m+12) oM);refine w_c I (sC (ev2 I I) call120 (λw hs=>zE1 hs ca.up bz.up oM) λdn h2 ei ao=>?_);replace ao:=Rp.Is.le ao (Le.q (l:=3*j+3*m+12) oM);refine w_c I (sC (ev2 I I) call121 (λw hs=>fY hs cb.up ao oM) λdm h3 eh an=>?_);replace an:=Rp.Is.le an (Le.q (l:=3*j+3*m+n+14) oM);refine w_a I I (λeo=>?_);have az:(rpQ (3*m+3*l+9)).R h3 [.bool false,.slice none 0 0,.slice none 0 0] (0:Rat):=(yM oM);refine w_a I I (λen=>?_);have ay:(rpQ (n+3*m+3*j+11)).R h3 [.bool false,.slice none 0 0,.slice none 0 0] (0:Rat):=(yM oM);have ar:=(Le.q (l:=3*l+3*m+12) oM).R az;refine yJ (A:=[_]) I (uB sizeOf29 pH ar ap) λct ac=>?_;have aq:=(Le.q (l:=3*j+3*m+n+14) oM).R ay;refine yJ (A:=[]) I (uB sizeOf29 pH aq an) λcq ae=>(go4 ?_);refine zL 12 _ [] ((0,.q)::(2,.q)::(1,.c)::(3,.c)::zai 4 8 []) yF nX (wS zou) nX (λr hr=>hr) (wX I (xB yI pH ac) λdl bx=>(wX I (xB yI pH ae) λdk bv=>?_));refine w_c I (sC (ev1 I) call122 (λw hs=>pF hs bx oM) λbg h4 eg bw=>?_);obtain rfl:bg=vI (yX (zM (((md.1.getD f fm0).1).1) d)):=bw;have cj:=xK (zM (((md.1.getD f fm0).1).1) d);refine w_c I (sC (ev1 I) call122 (λw hs=>pF hs bv.up oM) λbf h5 ee bu=>?_);obtain rfl:bf=vI (yX ((((md.1.getD f fm0).1).2)-(zM (((md.1.getD f fm0).1).1) p))):=bu;have ci:=xK ((((md.1.getD f fm0).1).2)-(zM (((md.1.getD f fm0).1).1) p));have dy:=yJF (zM (md.1.getD f fm0).1.1 d) ((md.1.getD f fm0).1.2-zM (md.1.getD f fm0).1.1 p);refine xY I (λ_ _=>gX I I oM oM) I (go2 ?_);refine kD (((yX (zM (((md.1.getD f fm0).1).1) d))*(yX ((((md.1.getD f fm0).1).2)-(zM (((md.1.getD f fm0).1).1) p))))<=(0:Int)) (λaa=>?_) (λaa=>?_)
  ·
   rw[wA aa];refine zAQ ?_;refine yW (A:=[]) (yW (A:=[]) (yW (A:=[]) ?_));have C:=zO7 (md:=md) (p:=p) (d:=d) (f:=f) (.inl zo4);have O:¬bdM (md.1.getD f fm0) p d:=λe=>e.1 (.inl zo4);refine gqL ((f+1),h5) ?_ ?_ (he:=⟨I,I,zbi (λz:Int=>some (vI z)) (by have H:=zbi Prod.fst C.symm;exact H),zbi (λz:Int=>some (vI z)) (by have H:=zbi Prod.snd C.symm;exact H),I,I,I,y3e⟩)
   · exact⟨mle,by omega,vX (Q:=λu=>¬bdM (md.1.getD u fm0) p d) ab O⟩
   omega
  rw[yN aa];refine go1 ?_;refine oX I (xB yH3 (y5i (y4e pH)) U) λdj bt=>(yV I I I (λh' L' hh hR=>qO underlying76 I (bt.mono hh)) I (gc4 (λah=>?_) λah=>?_))
  ·
   refine go8 ?_;refine yW (A:=[]) (yW (A:=[]) (yW (A:=[]) ?_));have C:=zO7 (md:=md) (p:=p) (d:=d) (f:=f) (.inr oM);have O:¬bdM (md.1.getD f fm0) p d:=λe=>e.1 (.inr oM);refine gqL ((f+1),h5) ?_ ?_ (he:=⟨I,I,zbi (λz:Int=>some (vI z)) (by have H:=zbi Prod.fst C.symm;exact H),zbi (λz:Int=>some (vI z)) (by have H:=zbi Prod.snd C.symm;exact H),I,I,I,y3e⟩)
   · exact⟨mle,by omega,vX (Q:=λu=>¬bdM (md.1.getD u fm0) p d) ab O⟩
   omega
  have Z:¬skM (md.1.getD f fm0) p d:=λe=>e.elim zo4 (λe=>ah oM);refine go4 ?_;refine lX (xB yI pH ae) λdi bs=>(lX (xB yI pH ac) λdh br=>(cL (ev2 I I) call123 (λw hs=>zVP hs bs br oM) λdf h6 ed bq=>?_));obtain⟨ai,rfl,M⟩:=bq
  change (rpQ ((3*j+3*m+n+14)+(3*l+3*m+12))).Is h6 ai (if(zM (((md.1.getD f fm0).1).1) d)=0 then 0 else((((md.1.getD f fm0).1).2)-(zM (((md.1.getD f fm0).1).1) p))/(zM (((md.1.getD f fm0).1).1) d)) at M
  replace M:=Rp.Is.le M (Le.q (l:=3*j+3*l+6*m+n+26) oM);refine go3 ?_;refine nA (ρ:=(rpQ (n+6*m+3*j+3*l+30))) (X:=(0:Rat)) wD (yM oM) λem cv ax=>(yD (A:=[]) (uB sizeOf29 pH ax (M.le (Le.q (l:=n+6*m+3*j+3*l+30) oM))) λck aj=>(go4 ?_));refine zL 7 _ [] (zai 0 4 [(4,.c),(5,.c),(6,.c)]) yF nX zou nX (λr hr=>hr) (wX I (xB zFM pH U) λde bp=>(wX I (xB zN pH aw) λdd bo=>(wX I (xB yI pH aj) λdc bn=>(wX I (xB zN pH av) λdb bm=>?_))));refine w_c I (sC (ev2 I I) call125 (λw hs=>zVO hs bn bm oM) λda h7 ec am=>?_);replace am:=Rp.Is.le am (Le.t (Le.q (l:=3*j+4*l+6*m+n+32) oM));refine w_c I (sC (ev2 I I) call124 (λw hs=>yEU hs bo.up am oM) λcz h8 eb ak=>?_);replace ak:=Rp.Is.le ak (Le.t (Le.q (l:=4*j+4*l+6*m+n+34) oM));refine w_c I (sC (ev2 I I) call109 (λw hs=>zJQ hs bp.up ak oM oM (by first|omega|exact hcd5.2.2 f oM)) λbe H ea bl=>?_);obtain rfl:be=vI (whM (md.1.getD f fm0) (T3.mk (p.x+((if(zM (((md.1.getD f fm0).1).1) d)=0 then 0 else((((md.1.getD f fm0).1).2)-(zM (((md.1.getD f fm0).1).1) p))/(zM (((md.1.getD f fm0).1).1) d))*d.x)) (p.y+((if(zM (((md.1.getD f fm0).1).1) d)=0 then 0 else((((md.1.getD f fm0).1).2)-(zM (((md.1.getD f fm0).1).1) p))/(zM (((md.1.getD f fm0).1).1) d))*d.y)) (p.z+((if(zM (((md.1.getD f fm0).1).1) d)=0 then 0 else((((md.1.getD f fm0).1).2)-(zM (((md.1.getD f fm0).1).1) p))/(zM (((md.1.getD f fm0).1).1) d))*d.z)))):=bl;refine gc9 (λD=>?_) λD=>?_
  ·
   rw[zSC Z] at D;obtain⟨e1,e2,e3⟩:=yF6 (md:=md) (p:=p) (d:=d) (f:=f) oM ⟨Z,D⟩;refine sS ?_;refine qJ I I I I ?_;rw[e1,e2,yN e3]
  rw[zSC Z] at D;refine gc6 (λJ=>?_) λJ=>?_
  ·
   rw[zSC Z] at J;refine go2 ?_;refine lX (xB yI pH ac) λcy bk=>(cL (ev1 I) call122 (λw hs=>pF hs bk oM) λbd bc cp bj=>?_);obtain rfl:bd=vI (yX (zM (((md.1.getD f fm0).1).1) d)):=bj;have ch:=xK (zM (((md.1.getD f fm0).1).1) d);refine gc3 (λad=>?_) λad=>?_
   ·
    refine uY ?_;refine yW (A:=[]) (yW (A:=[]) (yW (A:=[]) (yW (A:=[]) ?_)));have C:=yF5 Z J (zSP.1 ad);have O:¬bdM (md.1.getD f fm0) p d:=λe=>D e.2;refine gqL ((f+1),bc) ?_ ?_ (he:=⟨I,I,zbi (λz:Int=>some (vI z)) (by have H:=zbi Prod.fst C.symm;exact H),zbi (λz:Int=>some (vI z)) (by have H:=zbi Prod.snd C.symm;exact H),I,I,I,y3e⟩)
    · exact⟨mle,by omega,vX (Q:=λu=>¬bdM (md.1.getD u fm0) p d) ab O⟩
    omega
   refine uY ?_;refine yW (A:=[]) (yW (A:=[]) (yW (A:=[]) (yW (A:=[]) ?_)));have C:=yLT Z J (λe=>ad (zSP.2 e));have O:¬bdM (md.1.getD f fm0) p d:=λe=>D e.2;refine gqL ((f+1),bc) ?_ ?_ (he:=⟨I,I,zbi (λz:Int=>some (vI z)) (by have H:=zbi Prod.fst C.symm;exact H),zbi (λz:Int=>some (vI z)) (by have H:=zbi Prod.snd C.symm;exact H),I,I,I,y3e⟩)
   · exact⟨mle,by omega,vX (Q:=λu=>¬bdM (md.1.getD u fm0) p d) ab O⟩
   omega
  rw[zSC Z] at J;refine go8 ?_;refine yW (A:=[]) (yW (A:=[]) (yW (A:=[]) (yW (A:=[]) ?_)));have C:=yLS Z J;have O:¬bdM (md.1.getD f fm0) p d:=λe=>D e.2;refine gqL ((f+1),H) ?_ ?_ (he:=⟨I,I,zbi (λz:Int=>some (vI z)) (by have H:=zbi Prod.fst C.symm;exact H),zbi (λz:Int=>some (vI z)) (by have H:=zbi Prod.snd C.symm;exact H),I,I,I,y3e⟩)
  · exact⟨mle,by omega,vX (Q:=λu=>¬bdM (md.1.getD u fm0) p d) ab O⟩
  omega
 have ef:f=md.1.length:=by omega
 obtain⟨e1,e2,e3⟩:=yLU (md:=md) (p:=p) (d:=d) (λu hu=>ab u oM);refine pX ?_;refine qJ I I I I ?_;rw[e1,e2,ef,wA e3]
theorem zQ5{m n k j:Nat}{vmd:Value}{md:((List (Pq×((List (List Tq))×(Int×Int))))×(List (List Tq)))}(rmd:(rpP (rpS (rpP (tPl m n) (rpP (tLL k) (rpP rpI rpI)))) (rpS (rpA 2 (tPt k)))).Is h0 vmd md){vp:Value}{p:Tq}(rp:(tPt j).Is h0 vp p)(hcd0:k<=10000)(hcd1:j<=1000)(hcd2:m<=100)(hcd3:n<=100)(hcd4:zV6 md)(hcd5:pY md p<=3*md.2.length+1)(hcd6:clM md p (vK ↑(pY md p))):
 Calls prog 113 #[vmd,vp] w0 (Ret w0 h0 (λ_ r=>r=vI (crA md p (vK ↑(pY md p))-crB md p (vK ↑(pY md p))))):=by
 have aj:=zDV md p (vK ↑(pY md p));have ae:=hcd4.1;refine cb2 21 vmd vp func113 hs ?_;refine go2 ?_;refine nB rmd λb2 am D=>(nB rp λb3 ak C=>(go4 ?_));refine zL 13 _ [] (zai 0 4 ((4,.c)::(5,.c)::zai 6 7 [])) yF nX (wS zou) nX (λr hr=>hr) (wX I (xB zMU pH D) λv9 r9=>(wX I (xB zN pH C) λad U=>(wX I (xB zMU pH D) λac O=>(wX I (xB zN pH C) λab M=>?_))));refine w_c I (sC (ev2 I I) call74 (λw hs=>zII hs O M oM oM (by first|omega|exact hcd4|exact hcd5|exact hcd6) (by first|omega|exact hcd4|exact hcd5|exact hcd6) (by first|omega|exact hcd4|exact hcd5|exact hcd6)) λaa h1 ai J=>?_);refine w_c I (sC (ev3 I I I) call79 (λw hs=>j8 hs r9.up U.up J oM oM dC oM oM (by first|omega|exact hcd4)) λZ h2 ah H=>?_);obtain rfl:=H;refine yFJ ?_;refine zC I I ?_
 rfl
theorem zN6{m n k j:Nat}{vmd:Value}{md:((List (Pq×((List (List Tq))×(Int×Int))))×(List (List Tq)))}(rmd:(rpP (rpS (rpP (tPl m n) (rpP (tLL k) (rpP rpI rpI)))) (rpS (rpA 2 (tPt k)))).Is h0 vmd md){vp:Value}{p:Tq}(rp:(tPt j).Is h0 vp p)(hcd0:k<=10000)(hcd1:j<=1000)(hcd2:m<=100)(hcd3:n<=100)(hcd4:zV6 md)(hcd5:pY md p<=3*md.2.length+1)(hcd6:clM md p (vK ↑(pY md p))):
 Calls prog 72 #[vmd,vp] w0 (Ret w0 h0 (λh r=>r=.tuple #[vI (wdM md p),vB (¬onA md p)])):=by
 refine cb2 18 vmd vp func72 hs ?_;refine go2 ?_;refine nB rmd λb2 an J=>(nB rp λb3 am H=>(go7 ?_));refine lX (xB zMU pH J) λv9 r9=>(lX (xB zN pH H) λai ab=>(cL (ev2 I I) call70 (λw hs=>zZR hs r9 ab oM oM oM oM (by first|omega|exact hcd4)) λah h1 ak aa=>?_));obtain rfl:=aa;refine zL7 (λD=>?_) λD=>?_
 ·
  have C:onA md p:=D;refine go8 ?_;refine wU I I I ?_;rw[yN (λe=>e C),show wdM md p=0 from zau C]
 have C:¬onA md p:=D;refine go4 ?_;refine lX (xB zMU pH J) λae Z=>(lX (xB zN pH H) λad U=>(cL (ev2 I I) call113 (λw hs=>zQ5 hs Z U oM oM oM oM (by first|omega|exact hcd4|exact hcd5|exact hcd6) (by first|omega|exact hcd4|exact hcd5|exact hcd6) (by first|omega|exact hcd4|exact hcd5|exact hcd6)) λM h2 aj O=>?_));obtain rfl:M=vI (crA md p (vK ↑(pY md p))-crB md p (vK ↑(pY md p))):=O;have ac:=zDV md p (vK ↑(pY md p));refine go5 ?_;refine wU I I I ?_;rw[wA C,show wdM md p=_ from zae C]
end
theorem yNZ:MapTy prog 138 118 4 3:=⟨underlying138,underlying118,underlying3,sizeOf3,isAgg3,zW4 yA5 rfl⟩
theorem yEY{w0 w:World}{h0 h:Mem}{k m n j:Nat}{vs:Value}{s:Sd}(rs:(tSd k m n j).Is h vs s){vl:Value}{l:List Int}(rl:(rpS rpI).Is h vl l){b bm ck:Nat}{cs ces:List Value}{vf ve:Value}{EE:List (List Pt)}{es:Array MapEntry}{T:List PIr}(rb:(rpP rpV rpV).R h cs (vf,ve))(ho0:ve.oneCell'=true)(re:RL (rpA 2 (tPt (k+1))) h ces EE)(hm0:nE es T)(hEE:EE=T.map (edP s.1))(hcd0:∀u,u<l.length->0<=l.getD u 0/\l.getD u 0<s.1.length)(hcd1:l.length<=10000/\T.length<=10000000/\s.1.length<=100000)(hcd2:k<=1000000){L:List Res}(hs:St w0 h0 (.var b 99 cs::.gs 151 18 ve EE.length ces::.blk bm (.map es ck)::L) h w):
 Calls prog 107 #[vP b 0,vs,vl,.map (some bm)] w (tO w0 h0 (λg v K=>∃Qs',(Qs'++L).Sublist K/\MLe h g/\∃cs' ve' ces' es' ck',Qs'=[.var b 99 cs',.gs 151 18 ve' ((sxE s.1 l T l.length).map (edP s.1)).length ces',.blk bm (.map es' ck')]/\(rpP rpV rpV).R g cs' (vf,ve')/\ve'.oneCell'=true/\RL (rpA 2 (tPt (k+1))) g ces' ((sxE s.1 l T l.length).map (edP s.1))/\nE es' (sxE s.1 l T l.length))):=by
 refine qM (n:=77) (e:=[(0,vP b 0),(1,vs),(2,vl),(3,.map (some bm))]) (vs:=[vP b 0,vs,vl,.map (some bm)]) func107 rfl rfl (bL rfl) hs e4z (go2 ?_);refine nB rs λb5 cc ah=>(uQ ?_);refine gcL (ι:=Nat×List (List Pt)×List PIr×List Value×Value×List Value×Array MapEntry×Nat×Mem) (λ(u,E2,T2,U,C,O,M,Z,ma)=>(MLe h ma/\((rpP rpV rpV).R ma U (vf,C)/\RL (rpA 2 (tPt (k+1))) ma O E2/\C.oneCell'=true/\nE M T2/\u<=l.length/\T2=sxE s.1 l T u/\E2=T2.map (edP s.1)),[(0,vP b 0),(2,vl),(3,.map (some bm)),(5,vP b5 0),(12,vl),(13,vI (↑(l).length:Int)),(14,vI ↑u)],(.var b5 39 cc::.var b 99 U::.gs 151 18 C E2.length O::.blk bm (.map M Z)::L),ma,l.length-u)) (0,EE,T,cs,ve,ces,es,ck,h) ?_ ?_
 · exact⟨mle,rb,re,ho0,hm0,by omega,I,hEE⟩
 rintro⟨u,E2,T2,U,C,O,M,Z,ma⟩ ⟨au,H,ab,ac,J,dv,ad,ae⟩
 refine xD ?_;have ca:=zKO s.1 l T u;rw[<-ad] at ca;have dy:E2.length=T2.length:=by rw[ae];exact zde _
 refine gc6 (λaw=>?_) λaw=>?_
 ·
  have dx:=hcd0 u oM;have dw:=hcd0 ((u+1)%l.length) (zcu _ oM);refine go7 ?_;refine lX (xI (0:Int) u underlying22 ty3 rl) λdr bz=>(lX (xA ty3 bz) λdq bx=>?_);obtain⟨rfl,cl,cg⟩:=jM bx;refine qK ?_;refine gv (wI I I oM oM) I (lX (xI (0:Int) ((u+1)%l.length) underlying22 ty3 rl (hi:=by exact zcu _ oM)) λdp bw=>(lX (xA ty3 bw) λdn bv=>?_));obtain⟨rfl,cj,cf⟩:=jM bv;refine go7 ?_;refine gv (zY9 I I) I (go2 ?_);refine gv (zNN I I) I (lX (xV (ρ:=(rpA 2 rpI)) (wH (ps':=[(0,_),(1,_)]) underlying118 w7 I I sizeOf3 e4z I (zMO 2 wL) (zD I (y4u (y4i _) (0:Int) 0 dC) (xZ oM oM) (zD I (y4u (y4i _) (0:Int) 1 dC) (xZ oM oM) zP)))) λdm bu=>(nA (ρ:=(rpA 2 rpI)) (X:=(List.replicate 2 (0:Int))) w7 (zMO 2 wL) λeb cn ar=>(yD (A:=[]) (uB sizeOf118 pH ar bu) λcb D=>(go3 ?_))));refine zL 18 _ [] (zai 0 15 [(15,.c),(16,.q),(17,.q)]) yF nX (wS zou) nX (λr hr=>hr) (go1 ?_);refine wX I (xB yGJ pH D) λdl bt=>(w_q I (λh' L' hh hR=>zGD (u:=((min (l.getD u (0:Int)) (l.getD ((u+1)%l.length) (0:Int))),(max (l.getD u (0:Int)) (l.getD ((u+1)%l.length) (0:Int))))) yNZ (hR _ mh4) I (evk I (yAU (bt.mono hh))) J) I (go2 ?_));refine kD (¬(((min (l.getD u (0:Int)) (l.getD ((u+1)%l.length) (0:Int))),(max (l.getD u (0:Int)) (l.getD ((u+1)%l.length) (0:Int))))∈T2)) (λaa=>?_) (λaa=>?_)
  ·
   rw[wA aa];refine go1 ?_;refine oX I (xB qD (y4e pH) ah) λdk bs=>(yV I I I (λh' L' hh hR=>xG I) I (oX I (xI zT ((l.getD u (0:Int)).toNat) underlying35 zN bs) λdj br=>(oX I (xA zN br) λdi bq=>(go1 ?_))));refine oX I (xB qD (y4e pH) ah) λdh bp=>(yV I I I (λh' L' hh hR=>xG I) I (oX I (xI zT ((l.getD ((u+1)%l.length) (0:Int)).toNat) underlying35 zN bp) λdf bo=>(oX I (xA zN bo) λde bn=>?_)));refine w_c I (zCW I I (sC (ev2 I I) call119 (λw hs=>zNT hs bq bn oM) λaz h1 ea bl=>?_));obtain rfl:az=vB ((s.1.getD ((l.getD u (0:Int)).toNat) zT)=(s.1.getD ((l.getD ((u+1)%l.length) (0:Int)).toNat) zT)):=bl;refine gc4 (λav=>?_) λav=>?_
   ·
    refine go3 ?_;refine lX (xB yGJ pH D) λdd bk=>(zWH (A:=[_,_,_,_]) (u:=((min (l.getD u (0:Int)) (l.getD ((u+1)%l.length) (0:Int))),(max (l.getD u (0:Int)) (l.getD ((u+1)%l.length) (0:Int))))) yNZ I (evk I (yAU bk)) I J zo4 ?_);intro an am;refine go2 ?_;refine qS (A:=[_,_,_]) 22 [] (zai 0 18 [(18,.c),(19,.c),(20,.q),(21,.q),(22,.t)]) yF nX (wS zou) nX (go2 ?_);refine xY I (λ_ _=>gW I) I (xY I (λ_ _=>(wB underlying99 I sizeOf97 I).cv (show _=vP b 1 from zbi (vP b) zo3)) I (wX I (sE (xB yM5 (y5i pH) H)) λdc bj=>?_));subst bj;refine go1 ?_;refine wX I (xB qD (y4e pH) ah) λdb bi=>(go1 ?_);refine wX I (xB ty3 (y4u pH (0:Int) 0 dC) D) λda bh=>?_;obtain⟨rfl,ci,ce⟩:=jM bh;refine aI (F:=λv_=>AtP (tPt k) h1 v_ (s.1.getD ((min (l.getD u (0:Int)) (l.getD ((u+1)%l.length) (0:Int))).toNat) zT)) I (rM zT ((min (l.getD u (0:Int)) (l.getD ((u+1)%l.length) (0:Int))).toNat) underlying35 zN I I bi (by(show(min (l.getD u (0:Int)) (l.getD ((u+1)%l.length) (0:Int)))=_;omega)) oM nP) zBW I ?_;intro cz bg;refine wX I (xA zN bg) λcy bf=>(go1 ?_);refine wX I (xB qD (y4e pH) ah) λcw be=>(go1 ?_);refine wX I (xB ty3 (y4u pH (0:Int) 1 dC) D) λcu bd=>?_;obtain⟨rfl,ch,cd⟩:=jM bd;refine aI (F:=λv_=>AtP (tPt k) h1 v_ (s.1.getD ((max (l.getD u (0:Int)) (l.getD ((u+1)%l.length) (0:Int))).toNat) zT)) I (rM zT ((max (l.getD u (0:Int)) (l.getD ((u+1)%l.length) (0:Int))).toNat) underlying35 zN I I be (by(show(max (l.getD u (0:Int)) (l.getD ((u+1)%l.length) (0:Int)))=_;omega)) oM nP) zBW I ?_;intro ct bc;refine wX I (xA zN bc) λcq bb=>(wX I (xV (ρ:=(rpA 2 (tPt (k+1)))) (wH (ps':=[(0,_),(1,_)]) underlying151 zB3 I I sizeOf31 e4z I (zMO 2 (xW (yM oM))) (zD I (y4u (y4i _) zT 0 dC) (bf.le (Le.t (Le.q (l:=k+1) oM))) (zD I (y4u (y4i _) zT 1 dC) (bb.le (Le.t (Le.q (l:=k+1) oM))) zP)))) λcp ba=>?_);refine w_c I (jH (λX=>zJ (ρ:=(rpA 2 (tPt (k+1)))) (m:=1) (xs:=[[(s.1.getD ((min (l.getD u (0:Int)) (l.getD ((u+1)%l.length) (0:Int))).toNat) zT),(s.1.getD ((max (l.getD u (0:Int)) (l.getD ((u+1)%l.length) (0:Int))).toNat) zT)]]) (ps':=[(0,_)]) underlying97 zB3 I I I (zMO 2 (xW (yM oM))) e2z (zD I (y4u (y4i _) ed0 0 dC) ba zP) (show 1*18<=16777216 from by decide) nP) I ?_)
    rintro co du ⟨cm,rfl,aq⟩
    refine w_c I (xT (A:=[]) (ρ:=(rpA 2 (tPt (k+1)))) aq dK ?_);intro h2 dz aj;refine fL (A:=[_,_,_]) (λX=>uE (zS (ρ:=(rpA 2 (tPt (k+1)))) (bytes:=336) underlying97 zB3 I I I I nP I I ab.up aj bO bO)) I (xQ zoy) ?_
    rintro ay dt ⟨ai,ax,rfl,ap⟩
    refine xY I (λ_ _=>gW I) I (xY I (λ_ _=>(wB underlying99 I sizeOf97 I).cv (show _=vP b 1 from zbi (vP b) zo3)) I (yJ (A:=[_,_]) I (uB sizeOf97 (y5i pH) H (eM ai)) λao ak=>(go7 ?_)));refine yW (A:=[]) ?_;refine gqL ((u+1),(E2++[[(s.1.getD ((min (l.getD u (0:Int)) (l.getD ((u+1)%l.length) (0:Int))).toNat) zT),(s.1.getD ((max (l.getD u (0:Int)) (l.getD ((u+1)%l.length) (0:Int))).toNat) zT)]]),(T2++[((min (l.getD u (0:Int)) (l.getD ((u+1)%l.length) (0:Int))),(max (l.getD u (0:Int)) (l.getD ((u+1)%l.length) (0:Int))))]),ao,ay,ax,an,(Z+1),h2) ?_ ?_
    · exact⟨mle,ak,ap,ai,am,by omega,yIW ad zo4 zo4,yLL ae⟩
    omega
   refine go7 ?_;refine yW (A:=[]) ?_;refine gqL ((u+1),E2,T2,U,C,O,M,Z,h1) ?_ ?_
   · exact⟨mle,H.up,ab.up,ac,J,by omega,yDU ad zo4,ae⟩
   omega
  rw[yN aa];refine uQ ?_;refine w_c I (mO I I I I (uY ?_));refine yW (A:=[]) ?_;refine gqL ((u+1),E2,T2,U,C,O,M,Z,ma) ?_ ?_
  · exact⟨mle,H.up,ab.up,ac,J,by omega,yDV ad zo4,ae⟩
  omega
 have eu:u=l.length:=by omega
 subst eu ae ad;refine go4 ?_;refine zL1 I ?_;exact⟨_,(.cons _ (.cons_cons _ (.cons_cons _ (.cons_cons _ (zme _))))),au,_,_,_,_,_,I,H.up,ac,ab.up,J⟩
section
variable{w0:World}{h0:Mem}(hs:MLe h0 (mem w0))
include hs
theorem zEH{k m n j:Nat}{vs:Value}{s:Sq}(rs:(tSd k m n j).Is h0 vs s)(hcd0:okS s)(hcd1:nmA s)(hcd2:k<=1000000)(hcd3:m<=1000000)(hcd4:n<=1000000):
 Calls prog 69 #[vs] w0 (Ret w0 h0 (λh r=>(rpP (rpS (rpP (tPl (m+1) (n+1)) (rpP (tLL (k+1)) (rpP rpI rpI)))) (rpS (rpA 2 (tPt (k+1))))).Is h r (kG s))):=by
 have fz:=hcd0.1.1.1;have fy:=hcd0.1.1.2;refine cb1 57 vs func69 hs ?_;refine go2 ?_;refine nB rs λb1 dc aw=>(nA (ρ:=(rpP (rpS (rpP (tPl 1 1) (rpP (tLL 1) (rpP rpI rpI)))) (rpS (rpA 2 (tPt 1))))) (X:=([],[])) zLY (yE wK wK) λb2 db dj=>(go4 ?_));refine nA (ρ:=(rpP rpV rpV)) (X:=((Value.slice none 0 0),(Value.slice none 0 0))) zLY (yE fC fC) λb3 eo di=>(go4 ?_);refine zH zN8 I I I ?_
 rintro fr fu ⟨az,rfl,rfl⟩
 refine go7 ?_;refine lX (xB gS (y5i (y4e pH)) aw) λcl eg=>(go5 ?_);refine xN 140 15 ?_;have cn:=RL.nil (ρ:=rpP (tPl (m+1) (n+1)) (rpP (tLL (k+1)) (rpP rpI rpI))) (h:=h0);refine xN 151 18 ?_;have cm:=RL.nil (ρ:=rpA 2 (tPt (k+1))) (h:=h0);refine gcL (ι:=Nat×List Fm×List (List Pt)×List PIr×List Value×Value×List Value×Value×List Value×Array MapEntry×Nat×Mem) (λ(f,FF,E2,T2,Z,O,ao,U,ae,ab,am,ma)=>(MLe h0 ma/\((rpP rpV rpV).R ma Z (O,U)/\RL (rpP (tPl (m+1) (n+1)) (rpP (tLL (k+1)) (rpP rpI rpI))) ma ao FF/\O.oneCell'=true/\RL (rpA 2 (tPt (k+1))) ma ae E2/\U.oneCell'=true/\nE ab T2/\f<=s.2.1.length/\FF=fmT s f/\T2=sfE s f/\E2=T2.map (edP s.1)),[(1,vP b1 0),(2,vP b2 0),(3,vP b3 0),(4,.map (some az)),(12,cl),(13,vI (↑(s.2.1).length:Int)),(14,vI ↑f)],[.gs 151 18 U E2.length ae,.gs 140 15 O FF.length ao,.blk az (.map ab am),.var b3 99 Z,.var b2 99 db,.var b1 39 dc],ma,s.2.1.length-f)) (0,[],[],[],eo,(.slice none 0 0),[],(.slice none 0 0),[],#[],0,h0) ?_ ?_
 · exact⟨mle,di,cn,I,cm,I,map_nil,by omega,I,I,I⟩
 rintro⟨f,FF,E2,T2,Z,O,ao,U,ae,ab,am,ma⟩ ⟨es,an,ba,cq,ar,bx,ca,gb,cc,cy,cz⟩
 refine xD ?_;have ge:FF.length=f:=by rw[cc];exact yY _ _
 refine gc6 (λcw=>?_) λcw=>?_
 ·
  have M:=hcd0.2.1 f oM;have fv:=zKT hcd0 f oM;have gc:=zD2 (s.2.1.getD f zA).1.1;refine go6 ?_;refine lX (xI zA f underlying36 bQ eg) λfq ee=>(lX (xA bQ ee) λfp ed=>(nA (ρ:=(tFc 1 1)) (X:=((zT,(0:Rat)),([],([]:List Nat)))) jJ (yE (yE (xW (yM dC)) (yM dC)) (yE wK gP)) λb6 gg dh=>?_));have bh:=(Le.p (Le.p (Le.t (Le.q (l:=m+1) oM)) (Le.q (l:=n+1) oM)) (Le.refl _)).R dh;refine yD (A:=[]) (uB sizeOf53 pH bh (ed.le (Le.p (Le.p (Le.t (Le.q (l:=m+1) oM)) (Le.q (l:=n+1) oM)) (Le.refl _)))) λci J=>(go5 ?_);refine lX (xB lE (y4e pH) J) λfo ec=>(lX (xV (ρ:=(rpP (tPl (m+1) (n+1)) (rpP (tLL 1) (rpP rpI rpI)))) (wE (ps':=[(0,_)]) underlying140 eP I I (zVF underlying140) e2z I (yE (yE (xW (yM oM)) (yM oM)) (yE wK (yE wL wL))) (zD I (y4e (y4i _)) ec zP))) λfm eb=>(nA (ρ:=(rpP (tPl 1 1) (rpP (tLL 1) (rpP rpI rpI)))) (X:=((zT,(0:Rat)),([],((0:Int),(0:Int))))) eP (yE (yE (xW (yM dC)) (yM dC)) (yE wK (yE wL wL))) λb7 gf df=>?_));have bg:=(Le.p (Le.p (Le.t (Le.q (l:=m+1) oM)) (Le.q (l:=n+1) oM)) (Le.refl _)).R df;refine yD (A:=[]) (uB sizeOf140 pH bg eb) λen bu=>(go5 ?_);refine lX (xB jV pH aw) λfl ea=>(lX (xB bQ pH J) λfk dz=>(cL (ev2 I I) call104 (λw hs=>zV3 hs (ea.le (Le.p (Le.refl _) (Le.p (Le.s (Le.p (Le.p (Le.t (Le.q (l:=m+1) oM)) (Le.q (l:=n+1) oM)) (Le.refl _))) (Le.refl _)))) dz (by first|omega|exactλu v C hv=>hcd1 f oM u C v hv|exactλu C=>zci (M.2 u C) dC) (by first|omega|exactλu v C hv=>hcd1 f oM u C v hv|exactλu C=>zci (M.2 u C) dC) (by first|omega|exactλu v C hv=>hcd1 f oM u C v hv|exactλu C=>zci (M.2 u C) dC) (by first|omega|exactλu v C hv=>hcd1 f oM u C v hv|exactλu C=>zci (M.2 u C) dC)) λck h1 cu dy=>?_));obtain rfl:ck=.bool true:=by rw[show ck=vB (True) from dy,wA (by trivial)]
  refine go5 ?_;refine lX (xB jV pH aw) λfj dx=>(lX (xB bQ pH J) λfi dw=>(cL (ev2 I I) call105 (λw hs=>zNU hs (dx.le (Le.p (Le.refl _) (Le.p (Le.s (Le.p (Le.p (Le.t (Le.q (l:=m+1) oM)) (Le.q (l:=n+1) oM)) (Le.refl _))) (Le.refl _)))) dw (by first|omega|exactλu v C hv=>hcd1 f oM u C v hv|exactλu C=>zci (M.2 u C) dC) (by first|omega|exactλu v C hv=>hcd1 f oM u C v hv|exactλu C=>zci (M.2 u C) dC) (by first|omega|exactλu v C hv=>hcd1 f oM u C v hv|exactλu C=>zci (M.2 u C) dC) (by first|omega|exactλu v C hv=>hcd1 f oM u C v hv|exactλu C=>zci (M.2 u C) dC)) λfh h2 ct dv=>(go1 ?_)));have bf:=(Le.p (Le.refl _) (Le.p (Le.s (Le.s (Le.t (Le.q (l:=k+1) oM)))) (Le.refl _))).R bu;refine yD (A:=[]) (uB sizeOf76 (y5i (y4e pH)) bf dv) λem bt=>(go6 ?_);refine lX (xB zN (y4e (y4e pH)) J) λfg du=>(cL (ev1 I) call106 (λw hs=>zV2 hs du oM) λff h3 ga dt=>?_);obtain rfl:=dt;refine go4 ?_;refine yD (A:=[]) (uB sizeOf3 (y5i (y5i (y4e pH))) bt (xZ (z:=(↑(axI (((s.2.1.getD f zA).1).1)):Int)) oM oM)) λel bs=>(go1 ?_);refine yD (A:=[]) (uB sizeOf3 (y5i (y5i (y5i pH))) bs (xZ (z:=(↑(axJ (((s.2.1.getD f zA).1).1)):Int)) oM oM)) λch br=>(go5 ?_);refine lX (xB cD (y5i (y4e pH)) J) λde dr=>(go5 ?_);refine gcL (ι:=Nat×List Fm×List (List Pt)×List PIr×List Value×Value×List Value×Value×List Value×Array MapEntry×Nat×Mem) (λ(q,F3,E3,T3,aj,D,ad,H,ac,aa,ak,mb)=>(MLe h3 mb/\((rpP rpV rpV).R mb aj (D,H)/\RL (rpP (tPl (m+1) (n+1)) (rpP (tLL (k+1)) (rpP rpI rpI))) mb ad F3/\D.oneCell'=true/\RL (rpA 2 (tPt (k+1))) mb ac E3/\H.oneCell'=true/\nE aa T3/\q<=(s.2.1.getD f zA).2.1.length/\F3=fmT s f/\T3=slE s.1 (s.2.1.getD f zA).2.1 (sfE s f) q/\E3=T3.map (edP s.1)),[(1,vP b1 0),(2,vP b2 0),(3,vP b3 0),(4,.map (some az)),(7,vP b7 0),(12,cl),(13,vI (↑(s.2.1).length:Int)),(14,vI ↑f),(38,de),(39,vI (↑(((s.2.1.getD f zA).2).1).length:Int)),(40,vI ↑q)],[.var b7 140 ch,.var b6 53 ci,.gs 151 18 H E3.length ac,.gs 140 15 D F3.length ad,.blk az (.map aa ak),.var b3 99 aj,.var b2 99 db,.var b1 39 dc],mb,(s.2.1.getD f zA).2.1.length-q)) (0,FF,E2,T2,Z,O,ao,U,ae,ab,am,h3) ?_ ?_
  · exact⟨mle,an.up,ba.up,cq,ar.up,bx,ca,by omega,cc,cy,cz⟩
  rintro⟨q,F3,E3,T3,aj,D,ad,H,ac,aa,ak,mb⟩ ⟨er,ai,aq,bw,ap,au,av,fw,cd,cb,bc⟩
  refine xD ?_;refine gc6 (λcv=>?_) λcv=>?_
  ·
   have fx:=M.2 q oM;have ei:=zKQ M.2 s.1 (sfE s f) q oM;rw[<-cb] at ei;refine go6 ?_;refine lX (xI [] q underlying51 fQ dr) λfe dq=>(lX (xA fQ dq) λfd dp=>(go4 ?_));refine lX (xB jV pH aw) λfc dn=>(go2 ?_);refine dO (A:=[_,_,_,_]) (dO (A:=[_,_,_]) (dO (A:=[_,_,_,_,_]) ?_));refine zL4 (vs:=[_,_,_,_]) (Qs:=[_,_,_]) (List.Perm.refl _) call107 e4z (λw hs=>yEY dn dp ai au ap av bc (λu C=>hcd1 f oM q oM u C) ⟨by omega,by omega,by omega⟩ hcd2 hs) I ?_;intro fb h4 gh ej eh;obtain⟨cg,bd,ay,ce,cj,rfl,bq,bv,bm,bz⟩:=eh;refine zL5 (A:=[_,_,_,_,_]) (zL5 (A:=[_,_,_]) (zL5 (A:=[_,_,_,_]) (go7 ?_)));refine gqL ((q+1),F3,((sxE s.1 ((s.2.1.getD f zA).2.1.getD q []) T3 ((s.2.1.getD f zA).2.1.getD q []).length).map (edP s.1)),(sxE s.1 ((s.2.1.getD f zA).2.1.getD q []) T3 ((s.2.1.getD f zA).2.1.getD q []).length),cg,D,ad,bd,ay,ce,cj,h4) ?_ ?_
   · exact⟨mle,bq,aq.up,bw,bm,bv,bz,by omega,cd,by rw[cb];rfl,I⟩
   omega
  have eq:q=(s.2.1.getD f zA).2.1.length:=by omega
  have eu:F3.length=f:=by rw[cd];exact yY _ _
  refine go7 ?_;refine lX (sE (xB yH2 (y4e pH) ai)) λfa dm=>?_;subst dm;refine lX (xB zFM pH br) λez dl=>(zH (zJ (ρ:=(rpP (tPl (m+1) (n+1)) (rpP (tLL (k+1)) (rpP rpI rpI)))) (m:=1) (xs:=[((s.2.1.getD f zA).1,(zA7 s.1 (s.2.1.getD f zA).2.1 (s.2.1.getD f zA).2.1.length,((↑(axI (((s.2.1.getD f zA).1).1)):Int),(↑(axJ (((s.2.1.getD f zA).1).1)):Int))))]) (ps':=[(0,_)]) underlying96 eP I I I (yE (yE (xW (yM oM)) (yM oM)) (yE wK (yE wL wL))) e2z (zD I (y4u (y4i _) fm0 0 dC) dl zP) (show 1*15<=16777216 from by decide) nP) I I I ?_)
  rintro ey ft ⟨ev,rfl,cp⟩
  refine zQ (A:=[]) (ρ:=(rpP (tPl (m+1) (n+1)) (rpP (tLL (k+1)) (rpP rpI rpI)))) cp ?_;intro h4 ej bk;refine xP (A:=[_,_,_]) (uE (zS (ρ:=(rpP (tPl (m+1) (n+1)) (rpP (tLL (k+1)) (rpP rpI rpI)))) (bytes:=264) underlying96 eP I I I I nP I I aq.up bk bO bO)) I I I ?_
  rintro dd fs ⟨bb,da,rfl,co⟩
  refine go1 ?_;refine yD (A:=[_,_,_,_,_]) (uB sizeOf96 (y4e pH) ai (eM bb)) λcf bp=>(go7 ?_);refine yW (A:=[]) (yW (A:=[]) ?_);refine gqL ((f+1),(F3++[((s.2.1.getD f zA).1,(zA7 s.1 (s.2.1.getD f zA).2.1 (s.2.1.getD f zA).2.1.length,((↑(axI (((s.2.1.getD f zA).1).1)):Int),(↑(axJ (((s.2.1.getD f zA).1).1)):Int))))]),E3,T3,cf,dd,da,H,ac,aa,ak,h4) ?_ ?_
  · exact⟨mle,bp,co,bb,ap.up,au,av,by omega,by rw[cd];rfl,by rw[cb,eq];rfl,bc⟩
  omega
 have ef:f=s.2.1.length:=by omega
 refine go7 ?_;refine zQ (A:=[_]) (ρ:=(rpP (tPl (m+1) (n+1)) (rpP (tLL (k+1)) (rpP rpI rpI)))) ba.up ?_;intro h1 cu bj;replace an:=an.mono cu;have ah:(rpP (rpS (rpP (tPl (m+1) (n+1)) (rpP (tLL (k+1)) (rpP rpI rpI)))) rpV).R h1 Z (FF,(O,U).2):=yDF an bj;refine zQ (A:=[]) (ρ:=(rpA 2 (tPt (k+1)))) ar.up ?_;intro h2 ct bi;replace ah:=ah.mono ct;have bo:(rpP (rpS (rpP (tPl (m+1) (n+1)) (rpP (tLL (k+1)) (rpP rpI rpI)))) (rpS (rpA 2 (tPt (k+1))))).R h2 Z (FF,E2):=vr_1 ah bi;refine lX (xB zMU pH bo) λew dk=>?_;have be:=(Le.p (Le.s (Le.p (Le.p (Le.t (Le.q (l:=m+1) oM)) (Le.q (l:=n+1) oM)) (Le.p (Le.s (Le.s (Le.t (Le.q (l:=k+1) oM)))) (Le.refl _)))) (Le.s (Le.a (Le.t (Le.q (l:=k+1) oM))))).R dj;refine yD (A:=[_,_]) (uB sizeOf99 pH be dk) λek bn=>(go3 ?_);refine vM (gG (t:=2) zMU mh2 I bn) ?_;intro ep ax bl;refine xC (λE S=>yB I ax E S) ?_;exact(Rp.Is.cast bl (by rw[cc,cz,cy,ef];rfl))
theorem cJ{k m n j j2:Nat}{vs:Value}{s:Sq}(rs:(tSd k m n j).Is h0 vs s){vp:Value}{p:Tq}(rp:(tPt j2).Is h0 vp p)(hcd0:okS s)(hcd1:kC s)(hcd2:k<=9000)(hcd3:j2<=900)(hcd4:m<=90)(hcd5:n<=90):
 Calls prog 32 #[vs,vp] w0 (Ret w0 h0 (λh r=>r=.tuple #[vI (wdM (kG s) p),vB (¬onA (kG s) p)])):=by
 have D:=yG1 (s:=s) hcd0;have C:=yKG hcd1 p;refine cb2 12 vs vp func32 hs ?_;refine go2 ?_;refine nB rs λb2 ad J=>(nB rp λb3 ac H=>(go5 ?_));refine zL 8 _ [] ((0,.q)::(2,.q)::(1,.c)::(3,.c)::zai 4 4 []) yF nX zou nX (λr hr=>hr) (wX I (xB jV pH J) λv6 Z=>(wX I (xB zN pH H) λv8 O=>?_));refine w_c I (sC (ev1 I) call69 (λw hs=>zEH hs Z (by first|omega|exact hcd0|exact hcd1|exact sG hcd1|exact D|exact C.1|exact C.2) (by first|omega|exact hcd0|exact hcd1|exact sG hcd1|exact D|exact C.1|exact C.2) oM oM oM) λv7 h1 ab U=>?_);refine w_c I (sC (ev2 I I) call72 (λw hs=>zN6 hs U O.up oM oM oM oM (by first|omega|exact hcd0|exact hcd1|exact sG hcd1|exact D|exact C.1|exact C.2) (by first|omega|exact hcd0|exact hcd1|exact sG hcd1|exact D|exact C.1|exact C.2) (by first|omega|exact hcd0|exact hcd1|exact sG hcd1|exact D|exact C.1|exact C.2)) λv9 h2 aa M=>?_);obtain rfl:=M;refine go7 ?_;refine wU I I I ?_
 rfl
theorem yEW{k m n j j2:Nat}{vs:Value}{s:Sq}(rs:(tSd k m n j).Is h0 vs s){vp:Value}{p:Tq}(rp:(tPt j2).Is h0 vp p)(hcd0:okS s)(hcd1:kC s)(hcd2:k<=9000)(hcd3:j2<=900)(hcd4:m<=90)(hcd5:n<=90):
 Calls prog 18 #[vs,vp] w0 (Ret w0 h0 (λ_ r=>r=vI (inM (kG s) p))):=by
 refine cb2 19 vs vp func18 hs ?_;refine go2 ?_;refine nB rs λb2 ac J=>(nB rp λb3 ab H=>(go5 ?_));refine lX (xB jV pH J) λv8 Z=>(lX (xB zN pH H) λv9 U=>(cL (ev2 I I) call32 (λw hs=>cJ hs Z U (by first|omega|exact hcd0|exact hcd1|exact sG hcd1|exact hmo|exact hmd.1|exact hmd.2) (by first|omega|exact hcd0|exact hcd1|exact sG hcd1|exact hmo|exact hmd.1|exact hmd.2) oM oM oM oM) λO h1 aa M=>?_));obtain rfl:=M;refine zAQ ?_;refine cnd (λC=>?_) λC=>?_
 ·
  refine go8 ?_;refine zC I I ?_;unfold inM;rw[zau (by simpa using C)]
 refine gc7 (λD=>?_) λD=>?_
 ·
  refine go8 ?_;refine zC I I ?_;unfold inM;rw[zae (by simpa using C),zau D]
 refine go9 ?_;refine zC I I ?_;unfold inM;rw[zae (by simpa using C),zae D]
end
end Go.Proofs.YtpkaegemlpaenaaGreat
namespace Bk
open Classical
def yE5(u w:I3):Bool:=decide (u.1<w.1\/(u.1=w.1/\(u.2.1<w.2.1\/(u.2.1=w.2.1/\u.2.2<w.2.2))))
theorem yN1(v u w:I3):lsP (cP v u) (cP v w)↔yE5 u w=true:=by
 unfold lsP yE5 cP;rw[zgi];simp only[z4u,zqu];omega
def lsI(I:SI):List (List (List Int)):=I.2.map λf=>f.2.2.1
def zNR(I:SI):List Int:=orB (edZ (lsI I)) (λi k=>yE5 (g3 I.1 i) (g3 I.1 k)) I.1.length
def ixJ(o:List Int)(n:Nat):Nat->List Int
  |0=>List.replicate n (0:Int)
  |i+1=>(ixJ o n i).set (o.getD i 0).toNat (i:Int)
def ixI(I:SI):List Int:=ixJ (zNR I) I.1.length (zNR I).length
def nwB(ix x:List Int):List Int:=zU8 (wO (λq=>ix.getD (x.getD q 0).toNat 0) x.length)
def zX8{α:Type}(p:Nat->Bool)(g:Nat->α):Nat->List α
  |0=>[]
  |i+1=>zX8 p g i++(if p i then[g i] else[])
def zIO(p:Nat->Bool)(g:Nat->List Int):Nat->List (List Int)
  |0=>[]
  |i+1=>if p i then zIO p g i else dM (zIO p g i) (zEL (λk=>decide (cQ (g i) ((zIO p g i).getD k [])<0)) (zIO p g i).length) (g i)
def poB(P:List I3)(f:FI)(i:Nat):Bool:=decide (0<arG (flI (cT f.1) P (f.2.2.1.getD i [])) (f.2.2.1.getD i []).length)
def nfB(P:List I3)(ix:List Int)(f:FI):FI:=(f.1,f.2.1,zX8 (poB P f) (λi=>nwB ix (f.2.2.1.getD i [])) f.2.2.1.length++zIO (poB P f) (λi=>nwB ix (f.2.2.1.getD i [])) f.2.2.1.length,f.2.2.2)
def nmI(I:SI)(i:Nat):List Nat:=(I.2.getD i fi0).2.2.2
def nrI(I:SI):SI:=((zNR I).map λk=>g3 I.1 k.toNat,(nsB (nmI I) I.2.length).map λi=>nfB I.1 (ixI I) (I.2.getD i fi0))
def nmB(I:SI):Bool:=(List.range I.2.length).all λi=>(List.range i).all λk=>!decide (nmI I i=nmI I k)
theorem zSS{α:Type}{P:Nat->Prop}{p:Nat->Bool}(g:Nat->α):∀n,(∀i,i<n->(P i↔p i=true))->cW P g n=zX8 p g n
  |0,_=>rfl
  |n+1,h=>by
   have ih:=zSS g n λi hi=>h i zot;have h1:=h n zot;unfold cW zX8;rw[ih]
   by_cases e:P n
   · rw[zau e,zau (h1.1 e)]
   · rw[zae e,zae λe'=>e (h1.2 e')]
theorem yA7{s:Sd}{ix:List Int}{f:Nat}{p:Nat->Bool}{g:Nat->List Int}:∀n,(∀i,i<n->(zEQ s f i↔p i=true)/\nfL s ix f i=g i)->zAP s ix f n=zIO p g n
  |0,_=>rfl
  |n+1,h=>by
   have ih:=yA7 (s:=s) (ix:=ix) (f:=f) n λi hi=>h i zot;obtain⟨h1,h2⟩:=h n zot;unfold zAP zIO;rw[ih,h2,zCI (P:=yA8 (g n) (zIO p g n)) (p:=λk=>decide (cQ (g n) ((zIO p g n).getD k [])<0)) _ λk hk=>(show cQ (g n) ((zIO p g n).getD k [])<0↔_ from zgi.symm)]
   by_cases e:zEQ s f n
   · rw[zau e,zau (h1.1 e)]
   · rw[zae e,zae λe'=>e (h1.2 e')]
theorem zP1{q:Rat}(e:yX q=0):q=0:=by
 rw[rT] at e
 split at e
 · assumption
 · split at e<;>exact absurd e zow
theorem yEB(a r:Rat)(pl:Pl):scW a (scW r pl)=scW (a*r) pl:=by
 unfold scW;refine Prod.ext ?_ ?_
 · show T3.mk (a*(r*_)) (a*(r*_)) (a*(r*_))=T3.mk (a*r*_) (a*r*_) (a*r*_)
   rw[yzu,yzu,yzu]
 · show a*(r*_)=a*r*_
   rw[yzu]
theorem yKU{r:Rat}(hr:0<r){n:Int}(hn:¬n=0):ivA (r*(n:Rat))*r=1/((if n<0 then -n else n:Int):Rat):=by
 have D:¬(n:Rat)=0:=λe=>hn (zqu.1 e);have C:¬r=0:=λe=>absurd (e▸hr) zow;have hx:¬r*(n:Rat)=0:=λe=>(zoe.1 e).elim C D;have M:dS (r*(n:Rat))=r*((if n<0 then -n else n:Int):Rat):=by
  have h1:=zYB hr n;unfold dS;simp only[nO]
  by_cases h:n<0
  · rw[zau (h1.2 h),zau h,z2i];grind
  · rw[zae (λe=>h (h1.1 e)),zae h]
 have H:¬((if n<0 then -n else n:Int):Rat)=0:=λe=>by
  have:=zqu.1 e
  split at this<;>omega
 unfold ivA;rw[M,zae (λe=>(zoe.1 e).elim C H)];generalize ((if n<0 then -n else n:Int):Rat)=m at H ⊢;have J:((1:Int):Rat)=1:=I;rw[J];grind
theorem yJI{v:I3}{f:FI}{r:Rat}(hr:0<r)(hn:¬f.1=z3)(hb:bd3 f.1=true):∃a:Int,(0<a/\a<=1000)/\scZ (scW r (cPl v f))=scW (1/(a:Rat)) (cPl v f):=by
 unfold bd3 at hb;rw[zgi] at hb;have g:∀n:Int,-1000<=n/\n<=1000->¬yX (r*(n:Rat))=0->∃a:Int,(0<a/\a<=1000)/\scW (ivA (r*(n:Rat))) (scW r (cPl v f))=scW (1/(a:Rat)) (cPl v f):=λn h1 h2=>by
  have H:¬n=0:=λe=>h2 (by
   rw[e];exact zau (y2e _))
  refine⟨if n<0 then -n else n,by split<;>omega,?_⟩;rw[yEB,yKU hr H]
 unfold scZ
 split
 · rename_i e
   exact g _ hb.1 e
 · split
   · rename_i e
     exact g _ hb.2.1 e
   · split
     · rename_i e
       exact g _ hb.2.2 e
     · rename_i e1 e2 e3
       have h:=zYC (v:=v) hr hn;refine absurd ?_ h;have D:=zP1 (zdi e1);have C:=zP1 (zdi e2);have z3:=zP1 (zdi e3);generalize (scW r (cPl v f)).1=t at D C z3;obtain⟨a,b,c⟩:=t;simp only at D C z3;rw[D,C,z3]
section
variable {v:I3}{I:SI}{s:Sd}
theorem zLM(h:aL v I s)(hb:chI I=true):fX s=zNR I:=by
 have C:=w4 h;unfold fX zNR;rw[zQV (lt:=λi k=>yE5 (g3 I.1 i) (g3 I.1 k)) (n:=s.1.length) (λi k hi hk=>by rw[h.1,zJX zot,zJX zot];exact yN1 _ _ _) _ (zbe _),zJU h,C];rfl
theorem zS8(h:aL v I s)(hb:chI I=true):∀i,zIN s i=ixJ (zNR I) I.1.length i
  |0=>by unfold zIN ixJ;rw[w4 h]
  |i+1=>by unfold zIN ixJ;rw[zS8 h hb i,zLM h hb]
theorem yKF(h:aL v I s)(hb:chI I=true):ixZ s=ixI I:=by
 unfold ixZ ixI;rw[zS8 h hb,zLM h hb]
theorem yKE{f:Nat}(h:aL v I s)(hb:chI I=true)(hf:f<I.2.length):zLO v (nfB I.1 (ixI I) (I.2.getD f fi0)) (nfF s (ixZ s) f):=by
 obtain⟨r,hr,O⟩:=zOE (h.2.2.2 f hf);have e:=(h.2.2.2 f hf).2;have e1:(s.2.1.getD f zA).2.1=(I.2.getD f fi0).2.2.1:=zbi Prod.fst e;have e2:(s.2.1.getD f zA).2.2=(I.2.getD f fi0).2.2.2:=zbi Prod.snd e;have C:=mX h hb hf;have U:¬(I.2.getD f fi0).1=z3:=by
  unfold faB at C;replace C:=(zbu _ _▸C).2;rw[zbu,zbu,zku,zge] at C;exact C.1.2
 have Z:=zS7 h hb hf;have D:∀i,i<(I.2.getD f fi0).2.2.1.length->(zEQ s f i↔poB I.1 (I.2.getD f fi0) i=true):=λi hi=>by
  have hl:=Z.2 i (by rw[zde];exact hi);rw[kX (flI (cT (I.2.getD f fi0).1) I.1) [] [] hi] at hl;unfold zEQ poB;rw[zE9 zow zow hl,y4,zgi];have:(flI (cT (I.2.getD f fi0).1) I.1 ((I.2.getD f fi0).2.2.1.getD i [])).length=((I.2.getD f fi0).2.2.1.getD i []).length:=zde _;rw[this]
 have H:∀i,nfL s (ixZ s) f i=nwB (ixI I) ((I.2.getD f fi0).2.2.1.getD i []):=λi=>by
  unfold nfL nwB nwL;rw[yKF h hb,e1]
 have aa:bd3 (I.2.getD f fi0).1=true:=by
  unfold faB at C;exact(zbu _ _▸(zbu _ _▸C).1).1
 obtain⟨r',M,J⟩:=yJI (v:=v) hr U aa;constructor
 · refine⟨r',M,?_⟩
   show scZ (s.2.1.getD f zA).1=_
   rw[O,J];rfl
 · refine Prod.ext ?_ e2
   show ouL s (ixZ s) f (s.2.1.getD f zA).2.1.length++zAP s (ixZ s) f (s.2.1.getD f zA).2.1.length=_
   rw[e1];have g1:ouL s (ixZ s) f (I.2.getD f fi0).2.2.1.length=zX8 (poB I.1 (I.2.getD f fi0)) (λi=>nwB (ixI I) ((I.2.getD f fi0).2.2.1.getD i [])) (I.2.getD f fi0).2.2.1.length:=by
    unfold ouL;rw[zSS (nfL s (ixZ s) f) _ D]
    congr 1
    funext i
    exact H i
   rw[g1,yA7 (p:=poB I.1 (I.2.getD f fi0)) (g:=λi=>nwB (ixI I) ((I.2.getD f fi0).2.2.1.getD i [])) _ λi hi=>⟨D i hi,H i⟩]
   rfl
theorem zZ8(h:aL v I s)(hb:chI I=true)(hn:nmB I=true):aL v (nrI I) (nrP s,nrF s,nrE s):=by
 have hs:=(zBV h hb).1;have U:=w4 h;have H:=zLM h hb;have D:zAJ s s.2.1.length=(nsB (nmI I) I.2.length).map λi=>nfF s (ixZ s) i:=by
  rw[h.2.2.1];refine zLH (n:=I.2.length) (λi hi=>by show(s.2.1.getD i zA).2.2=_;exact zbi Prod.snd (h.2.2.2 i hi).2) (λi hi k hk=>?_) _ (zbe _);have h1:=zob.1 (zob.1 hn i (zog.2 hi)) k (zog.2 hk);rw[zku,zge] at h1;exact h1
 refine⟨?_,?_,?_,?_⟩
 · show nrP s=_
   unfold nrP;rw[zau hs];unfold zZV;refine oA zT (by rw[yY,H];show _=(((zNR I).map _).map _).length;rw[zde,zde]) λi hi=>?_;rw[yY] at hi;have Z:=oV (s:=s) (i:=s.1.length) (k:=i) hi;rw[uO _ _ hi]
   show _=(((zNR I).map λk=>g3 I.1 k.toNat).map (cP v)).getD i zT
   rw[H] at hi;rw[kX (cP v) z3 zT (by rw[zde];exact hi),kX (λk:Int=>g3 I.1 k.toNat) 0 z3 hi,<-H,h.1];have:((fX s).getD i 0)=(aO s s.1.length).getD i 0:=rfl;exact zJX zot
 · show nrE s=[]
   unfold nrE;rw[zau hs];exact h.2.1
 · show(nrF s).length=((nsB (nmI I) I.2.length).map _).length
   unfold nrF;rw[zau hs,D,zde,zde]
 · intro f hf
   have C:f<(nsB (nmI I) I.2.length).length:=by
    have:((nsB (nmI I) I.2.length).map λi=>nfB I.1 (ixI I) (I.2.getD i fi0)).length=_:=zde _;have J:f<((nsB (nmI I) I.2.length).map λi=>nfB I.1 (ixI I) (I.2.getD i fi0)).length:=hf;omega
   have hx:=zLI _ _ _ (kR (d:=0) C);have O:(nrI I).2.getD f fi0=nfB I.1 (ixI I) (I.2.getD ((nsB (nmI I) I.2.length).getD f 0) fi0):=kX (λi=>nfB I.1 (ixI I) (I.2.getD i fi0)) 0 fi0 C;have M:(nrF s).getD f zA=nfF s (ixZ s) ((nsB (nmI I) I.2.length).getD f 0):=by
    unfold nrF;rw[zau hs,D];exact kX (λi=>nfF s (ixZ s) i) 0 zA C
   show zLO v ((nrI I).2.getD f fi0) ((nrF s).getD f zA)
   rw[O,M];exact yKE h hb hx
end
def fdI(B:List PI)(p:PI):Nat->Int
  |0=>-1
  |j+1=>if B.getD j (0,0)=p then(j:Int) else fdI B p j
def adI(B:List PI)(p:PI):List PI:=if fdI B p B.length<0 then B++[p] else B
def anI(B:List PI)(p:PI):Int:=if fdI B p B.length<0 then(B.length:Int) else fdI B p B.length
def plI(B x:List PI):Nat->List PI
  |0=>B
  |k+1=>adI (plI B x k) (x.getD k (0,0))
def pnI(B x:List PI):Nat->List Int:=wO λk=>anI (plI B x k) (x.getD k (0,0))
def zYV(T:List (List PI)):Nat->List PI
  |0=>[]
  |i+1=>plI (zYV T i) (T.getD i []) (T.getD i []).length
def bsI(T:List (List PI)):List PI:=zYV T T.length
def bxI(T:List (List PI)):List (List Int):=wO (λi=>pnI (zYV T i) (T.getD i []) (T.getD i []).length) T.length
def ppI(T:List (List PI))(h:Int):List I3:=wO (λi=>(((bsI T).getD (i%(bsI T).length) (0,0)).1,((bsI T).getD (i%(bsI T).length) (0,0)).2,if((bsI T).length:Int)<=(i:Int) then h else 0)) (2*(bsI T).length)
def xaI(T:List (List PI))(i k:Nat):Int:=((bxI T).getD i []).getD k 0
def xbI(T:List (List PI))(i k:Nat):Int:=((bxI T).getD i []).getD ((k+1)%((bxI T).getD i []).length) 0
def snI(T:List (List PI))(h:Int)(i k:Nat):I3:=((g3 (ppI T h) (xbI T i k).toNat).2.1-(g3 (ppI T h) (xaI T i k).toNat).2.1,-((g3 (ppI T h) (xbI T i k).toNat).1-(g3 (ppI T h) (xaI T i k).toNat).1),0)
def sdI(T:List (List PI))(h:Int)(i k:Nat):FI:=(snI T h i k,dt3 (snI T h i k) (g3 (ppI T h) (xaI T i k).toNat),[[xaI T i k,xbI T i k,xbI T i k+((bsI T).length:Int),xaI T i k+((bsI T).length:Int)]],[115,48+i,46,48+k])
def prI(T:List (List PI))(h:Int):SI:=(ppI T h,gM (λi=>wO (λk=>sdI T h i k) ((bxI T).getD i []).length) (bxI T).length++
 [((0,0,-1),0,wO (λi=>iJ ((bxI T).getD i []) ((bxI T).getD i []).length) (bxI T).length,[98,111,116,116,111,109]),
  ((0,0,1),h,wO (λi=>wO (λk=>((bxI T).getD i []).getD k 0+((bsI T).length:Int)) ((bxI T).getD i []).length) (bxI T).length,[116,111,112])])
def sb3(u w:I3):I3:=(u.1-w.1,u.2.1-w.2.1,u.2.2-w.2.2)
def cx3(a b:I3):I3:=(a.2.1*b.2.2-a.2.2*b.2.1,a.2.2*b.1-a.1*b.2.2,a.1*b.2.1-a.2.1*b.1)
def th3(a b c:I3):I3:=cx3 (sb3 b a) (sb3 c a)
def ng3(n:I3):I3:=(-n.1,-n.2.1,-n.2.2)
def tsI(a b c:I3)(i k:Int)(nm:List Nat):FI:=(th3 a b c,dt3 (th3 a b c) a,[[i,k,3]],nm)
def pyI(A B C T:I3):SI:=([A,B,C,T],[tsI A B T 0 1 [115,48],tsI B C T 1 2 [115,49],tsI C A T 2 0 [115,50],(ng3 (th3 A B C),-dt3 (th3 A B C) A,[[2,1,0]],[98,97,115,101])])
def teI(p c q e f g:Nat):SI:=pyI (0,0,0) (1+p,0,0) (c,1+q,0) (e,f,1+g)
def bxJ(p q r:Int):SI:=([(0,0,0),(0,0,r),(0,q,0),(0,q,r),(p,0,0),(p,0,r),(p,q,0),(p,q,r)],[((-1,0,0),0,[[0,1,3,2]],[120,48]),((1,0,0),p,[[4,6,7,5]],[120,49]),((0,-1,0),0,[[0,4,5,1]],[121,48]),((0,1,0),q,[[2,3,7,6]],[121,49]),((0,0,-1),0,[[0,2,6,4]],[122,48]),((0,0,1),r,[[1,5,7,3]],[122,49])])
def baT:List (List (List PI)):=[[[(0,0),(2,0),(2,1),(1,1),(1,2),(0,2)]],[[(0,0),(3,0),(3,3),(0,3)],[(1,1),(1,2),(2,2),(2,1)]],[[(0,0),(3,0),(3,3),(0,3)],[(1,1),(0,0),(1,2)]],[[(0,0),(1,0),(2,0),(2,2),(0,1)]]]
def trT(a b c:Nat):List (List PI):=[[(0,0),((1+a:Nat),0),((b:Nat),(1+c:Nat))]]
def zC6(I:SI):Bool:=chI I&&nmB I&&chI (nrI I)
def teB(p c q:Nat):Bool:=(List.range 3).all λe=>(List.range 3).all λf=>(List.range 3).all λg=>zC6 (teI p c q e f g)
def bdV(v:I3):Prop:=(-1000<=v.1/\v.1<=1000)/\(-1000<=v.2.1/\v.2.1<=1000)/\(-1000<=v.2.2/\v.2.2<=1000)
theorem zUG{u:I3}:bd3 u=true↔bdV u:=by unfold bd3 bdV;rw[zgi]
theorem zE7{a n:Int}(ha:0<a/\a<=1000)(hn:-9223372036854775808<=n)(hn':n<9223372036854775808):lq (1/(a:Rat)*(n:Rat))<=2:=by
 have h:=zBZ hn hn' (d:=a) zot zot;have e:jP n a=1/(a:Rat)*(n:Rat):=by
  unfold jP;rw[Rat.div_def,Rat.div_def,yre,Rat.mul_comm]
 rw[<-e];exact h
theorem zRD{a b:Int}(ha:-1000<=a/\a<=1000)(hb:-1000<=b/\b<=1000):-1000000<=a*b/\a*b<=1000000:=by
 have h1:=yke (show 0<=1000-a by omega) (show 0<=1000-b by omega);have h2:=yke (show 0<=1000+a by omega) (show 0<=1000+b by omega);have h3:=yke (show 0<=1000-a by omega) (show 0<=1000+b by omega);have C:=yke (show 0<=1000+a by omega) (show 0<=1000-b by omega);have M:(1000-a)*(1000-b)=1000000-1000*a-1000*b+a*b:=by grind
 have J:(1000+a)*(1000+b)=1000000+1000*a+1000*b+a*b:=by grind
 have H:(1000-a)*(1000+b)=1000000-1000*a+1000*b-a*b:=by grind
 have D:(1000+a)*(1000-b)=1000000+1000*a-1000*b-a*b:=by grind
 omega
theorem yOI{n u:I3}(hn:bdV n)(hu:bdV u):-3000000<=dt3 n u/\dt3 n u<=3000000:=by
 have h1:=zRD hn.1 hu.1;have h2:=zRD hn.2.1 hu.2.1;have h3:=zRD hn.2.2 hu.2.2;unfold dt3;omega
theorem zXY{v:I3}{I:SI}{s:Sd}(h:aL v I s)(hb:chI I=true)(hv:bdV v):smS 2 2 2 1 s:=by
 refine⟨λp J=>?_,λf hf=>?_,λe M=>?_⟩
 · rw[h.1] at J
   obtain⟨u,O,rfl⟩:=zle.1 J;have h1:bdV u:=zUG.1 (zob.1 (by unfold chI at hb;exact(zbu _ _▸hb).1) u O);unfold bdV at h1 hv;exact⟨sR _ zot zot,sR _ zot zot,sR _ zot zot⟩
 · obtain⟨i,hi,rfl⟩:=zG3 zA hf
   have C:i<I.2.length:=by rw[<-h.2.2.1];exact hi
   obtain⟨a,H,e⟩:=(h.2.2.2 i C).1;have D:=mX h hb C;unfold faB at D;have h1:=(zbu _ _▸(zbu _ _▸D).1);have h2:bdV (I.2.getD i fi0).1:=zUG.1 h1.1;have h3:-1000<=(I.2.getD i fi0).2.1/\(I.2.getD i fi0).2.1<=1000:=yau h1.2;have U:=yOI h2 hv;rw[e];unfold bdV at h2;exact⟨⟨zE7 H zot zot,zE7 H zot zot,zE7 H zot zot⟩,zE7 H zot zot⟩
 · rw[h.2.1] at M;cases M
theorem yJ3(pl:Pl):scW (1/((1:Int):Rat)) pl=pl:=by
 have e:1/((1:Int):Rat)=1:=by decide +kernel
 rw[e];unfold scW;simp only[yre]
theorem nQ{v:I3}{f:FI}{x:Fc}(h1:x.1=cPl v f)(h2:x.2=f.2.2):zLO v f x:=⟨⟨1,by decide,by rw[yJ3];exact h1⟩,h2⟩
theorem yMG{x y z p q r:Int}(hp:0<p)(hq:0<q)(hr:0<r):aL (x,y,z) (bxJ p q r) (bkS (pI x y z) (pI (x+p) (y+q) (z+r))):=by
 have g:∀a b:Int,0<b->(a:Rat)<((a+b:Int):Rat):=λa b h=>z4u.2 zot;have C:iL (pI x y z) (pI (x+p) (y+q) (z+r)):=by
  intro u D;rw[zAT];refine Rat.not_le.2 ?_
  rcases zI3 D with rfl|rfl|rfl
  · exact g x p hp
  · exact g y q hq
  · exact g z r hr
 rw[zUF C];refine⟨?_,I,I,λf hf=>?_⟩
 · show uB1.map (cU _ _)=_
   simp[uB1,cU,cB,pI,cP,bxJ]
 · have H:f<6:=hf
   have e0:((0:Int):Rat)=0:=I;have J:((1:Int):Rat)=1:=I;have:f=0\/f=1\/f=2\/f=3\/f=4\/f=5:=by omega
   rcases this with rfl|rfl|rfl|rfl|rfl|rfl<;>
    (refine nQ (Prod.ext ?_ ?_) I<;>simp[bxS,fB3,plD,dN,bxJ,cPl,nr3,dt3,pI,T3.set,T3.at,e0,J,zne,z2i]<;>grind)
theorem zOX{α:Type}(d:α)(l k:List α)(i:Nat):(l++k).getD i d=if i<l.length then l.getD i d else k.getD (i-l.length) d:=by
 rw[zoa,List.getElem?_append]
 split<;>rw[zoa]
def zIL(v:I3)(B:List FI)(A:List Fc):Prop:=A.length=B.length/\∀f,f<B.length->zLO v (B.getD f fi0) (A.getD f zA)
section
variable {v:I3}
theorem zLP{B B':List FI}{A A':List Fc}(h:zIL v B A)(h':zIL v B' A'):zIL v (B++B') (A++A'):=by
 refine⟨by rw[lAz,lAz,h.1,h'.1],λf hf=>?_⟩;rw[lAz] at hf;rw[zOX,zOX,h.1]
 by_cases e:f<B.length
 · rw[zau e,zau e];exact h.2 f e
 · rw[zae e,zae e];exact h'.2 _ zot
theorem yAB:zIL v [] []:=⟨rfl,λf hf=>absurd hf (z2u _)⟩
theorem zRL{b:FI}{a:Fc}(h:zLO v b a):zIL v [b] [a]:=⟨rfl,λf hf=>by
 have:f=0:=by have:f<1:=hf;omega
 subst this;exact h⟩
theorem yAC{g:Nat->FI}{f:Nat->Fc}:∀n,(∀i,i<n->zLO v (g i) (f i))->zIL v (wO g n) (wO f n)
  |0,_=>yAB
  |n+1,h=>zLP (yAC n λi hi=>h i zot) (zRL (h n zot))
theorem zTA{g:Nat->List FI}{f:Nat->List Fc}:∀n,(∀i,i<n->zIL v (g i) (f i))->zIL v (gM g n) (gM f n)
  |0,_=>yAB
  |n+1,h=>zLP (zTA n λi hi=>h i zot) (h n zot)
end
def c2(x y:Int)(u:PI):Pt:=T3.mk ((x+u.1:Int):Rat) ((y+u.2:Int):Rat) (0:Rat)
def baL(x y:Int)(T:List (List PI)):List (List Pt):=T.map λs=>s.map (c2 x y)
section
variable {x y:Int}
theorem zXO(u w:PI):zKN (c2 x y u) (c2 x y w)↔u=w:=by
 unfold zKN c2;rw[zqu,zqu];constructor
 · rintro⟨h1,h2⟩;exact Prod.ext zot zot
 · rintro rfl;exact⟨I,I⟩
theorem zH3(B:List PI){j:Nat}(h:j<B.length):(B.map (c2 x y)).getD j zT=c2 x y (B.getD j (0,0)):=kX _ _ _ h
theorem yBV(B:List PI)(p:PI):∀j,j<=B.length->u5 (B.map (c2 x y)) (c2 x y p) j=fdI B p j
  |0,_=>rfl
  |j+1,h=>by
   unfold u5 fdI;rw[yBV B p j zot,zH3 B zot]
   by_cases e:B.getD j (0,0)=p
   · rw[zau e,zau ((zXO _ _).2 e)]
   · rw[zae e,zae λe'=>e ((zXO _ _).1 e')]
theorem yDB(B:List PI)(p:PI):adB (B.map (c2 x y)) (c2 x y p)=(adI B p).map (c2 x y)/\adN (B.map (c2 x y)) (c2 x y p)=anI B p:=by
 unfold adB adN adI anI fdZ;rw[zde,yBV B p _ (zbe _)];constructor
 · split
   · rw[znu];rfl
   · rfl
 · rfl
theorem zQH(B s:List PI):∀k,k<=s.length->plB (B.map (c2 x y)) (s.map (c2 x y)) k=(plI B s k).map (c2 x y)
  |0,_=>rfl
  |k+1,h=>by
   unfold plB plI;rw[zQH B s k zot,zH3 s zot,(yDB _ _).1]
theorem yJY(B s:List PI):plN (B.map (c2 x y)) (s.map (c2 x y)) s.length=pnI B s s.length:=sQ _ λk hk=>by
 rw[zQH B s k zot,zH3 s hk,(yDB _ _).2]
theorem zH7(T:List (List PI)){i:Nat}(h:i<T.length):(baL x y T).getD i []=(T.getD i []).map (c2 x y):=kX _ _ _ h
theorem zQC(T:List (List PI)):∀i,i<=T.length->ptB (baL x y T) i=(zYV T i).map (c2 x y)
  |0,_=>rfl
  |i+1,h=>by
   unfold ptB zYV;rw[zQC T i zot,zH7 T zot,zde];exact zQH _ _ _ (zbe _)
theorem zD1(T:List (List PI)):(baL x y T).length=T.length:=zde _
theorem yCH(T:List (List PI)):bsZ (baL x y T)=(bsI T).map (c2 x y):=by
 unfold bsZ bsI;rw[zD1];exact zQC T _ (zbe _)
theorem eX(T:List (List PI)):bxZ (baL x y T)=bxI T:=by
 unfold bxZ bxI;rw[zD1];exact sQ _ λi hi=>by rw[zQC T i zot,zH7 T hi,zde];exact yJY _ _
theorem u4(T:List (List PI)):(bsZ (baL x y T)).length=(bsI T).length:=by rw[yCH,zde]
section
variable {z h:Int}{T:List (List PI)}
theorem zY0:ppZ (baL x y T) (z:Rat) ((z+h:Int):Rat)=(ppI T h).map (cP (x,y,z)):=by
 have C:(ppI T h).length=2*(bsI T).length:=yY _ _;refine oA zT (by rw[zQF,u4,zde,C]) λi hi=>?_;rw[zQF,u4] at hi;rw[kX (cP (x,y,z)) z3 zT zot];unfold ppZ zVC ppI;rw[u4,uO _ _ hi,uO _ _ hi,yCH,zH3 _ (zcu _ zot)];unfold c2 cP;refine zbi _ ?_
 by_cases e:((bsI T).length:Int)<=(i:Int)
 · rw[zau e,zau e]
 · rw[zae e,zae e]
   show(z:Rat)=((z+0:Int):Rat)
   rw[y3i]
theorem zQG{k:Int}(h0:0<=k)(h1:k<2*((bsI T).length:Int)):(ppZ (baL x y T) (z:Rat) ((z+h:Int):Rat)).getD k.toNat zT=cP (x,y,z) (g3 (ppI T h) k.toNat):=by
 rw[zY0];have C:(ppI T h).length=2*(bsI T).length:=yY _ _;exact kX _ _ _ zot
theorem zMP{i k:Nat}(hi:i<T.length)(hk:k<((bxI T).getD i []).length):0<=xaI T i k/\xaI T i k<(bsI T).length:=by
 have:=zPH (L:=baL 0 0 T) (i:=i) (k:=k) (by rw[zD1];exact hi) (by rw[eX];exact hk);rw[eX,u4] at this;exact this
theorem yJH{i k:Nat}(hi:i<T.length)(hk:k<((bxI T).getD i []).length)(h10:i<10/\k<10):zLO (x,y,z) (sdI T h i k) (sdF (baL x y T) (z:Rat) ((z+h:Int):Rat) i k):=by
 have C:sdA (baL x y T) i k=xaI T i k:=by unfold sdA xaI;rw[eX]
 have H:sdB (baL x y T) i k=xbI T i k:=by unfold sdB xbI;rw[eX]
 have D:=zMP hi hk;have J:0<=xbI T i k/\xbI T i k<(bsI T).length:=zMP hi (zcu _ zot);have M:nmS i k=[115,48+i,46,48+k]:=by
  unfold nmS;rw[oN h10.1,oN h10.2];rfl
 have eN:sdN (baL x y T) (z:Rat) ((z+h:Int):Rat) i k=nr3 (snI T h i k):=by
  unfold sdN;rw[C,H,zQG D.1 zot,zQG J.1 zot];unfold nr3 snI cP;simp only[zwi,zne,z2i];have e0:((0:Int):Rat)=0:=I;rw[e0]
  congr 1<;>grind
 refine nQ ?_ ?_
 · unfold sdF cPl
   refine Prod.ext eN ?_
   show zM (sdN _ _ _ i k) _=_
   rw[eN,C,zQG D.1 zot]
   show zM (nr3 (snI T h i k)) (cP (x,y,z) (g3 (ppI T h) (xaI T i k).toNat))=((dt3 (snI T h i k) (g3 (ppI T h) (xaI T i k).toNat)+dt3 (snI T h i k) (x,y,z):Int):Rat)
   generalize snI T h i k=n;generalize g3 (ppI T h) (xaI T i k).toNat=u;unfold zM nr3 cP dt3;simp only[zne,zpu];grind
 · show([[sdA _ i k,sdB _ i k,sdB _ i k+_,sdA _ i k+_]],nmS i k)=_
   rw[C,H,M,u4];rfl
theorem zYX(h10:T.length<=10/\∀i,i<T.length->(T.getD i []).length<=10):aL (x,y,z) (prI T h) (prR (baL x y T) (z:Rat) ((z+h:Int):Rat)):=by
 have C:(bxI T).length=T.length:=yY _ _;have D:∀i,i<T.length->((bxI T).getD i []).length=(T.getD i []).length:=λi hi=>by
  unfold bxI;rw[uO _ _ hi];exact yY _ _
 have H:zIL (x,y,z) (prI T h).2 (prR (baL x y T) (z:Rat) ((z+h:Int):Rat)).2.1:=by
  show zIL _ (gM _ _++[_,_]) (zM7 _ _ _ _++[_,_])
  refine zLP ?_ (zLP (B:=[_]) (A:=[_]) (zRL ?_) (zRL ?_))
  · unfold zM7 sfX
    rw[eX];refine zTA _ λi hi=>yAC _ λk hk=>?_;rw[C] at hi;have:=D i hi;have:=h10.2 i hi;exact yJH hi hk ⟨by omega,by omega⟩
  · refine nQ ?_ ?_
    · unfold btF cPl nr3 dt3
      refine Prod.ext ?_ ?_
      · show T3.mk (0:Rat) (0:Rat) (-((1:Int):Rat))=T3.mk ((0:Int):Rat) ((0:Int):Rat) ((-1:Int):Rat)
        rw[z2i];rfl
      · show -(z:Rat)=((0+(0*x+0*y+-1*z):Int):Rat)
        rw[show 0+(0*x+0*y+-1*z)= -z by omega,z2i]
    · show(yCN (baL x y T) (bxZ (baL x y T)).length,_)=_
      unfold yCN;rw[eX]
  · refine nQ ?_ ?_
    · unfold tpF cPl nr3 dt3
      refine Prod.ext ?_ ?_
      · show T3.mk (0:Rat) (0:Rat) ((1:Int):Rat)=T3.mk ((0:Int):Rat) ((0:Int):Rat) ((1:Int):Rat)
        rfl
      · show((z+h:Int):Rat)=((h+(0*x+0*y+1*z):Int):Rat)
        rw[show h+(0*x+0*y+1*z)=z+h by omega]
    · show(zXK (baL x y T) (bxZ (baL x y T)).length,_)=_
      unfold zXK tpL;rw[eX,u4]
 exact⟨zY0,I,H.1,H.2⟩
theorem yEP(h10:(1<=T.length/\T.length<=10)/\∀i,i<T.length->(T.getD i []).length<=10)(hn:nsI T=true)(hh:0<h)(hc:chI (prI T h)=true):(∀s,s∈baL x y T->cY s)/\prE (baL x y T) (z:Rat) ((z+h:Int):Rat)=0/\okS (prR (baL x y T) (z:Rat) ((z+h:Int):Rat)):=by
 have hly:yKQ (x:Rat) 1 (y:Rat) 1 T (baL x y T):=by
  refine⟨zD1 T,λm hm=>?_⟩;rw[show gl (baL x y T) m=(T.getD m []).map (c2 x y) from zH7 T hm];refine⟨zde _,λk hk=>?_⟩;rw[show gp ((T.getD m []).map (c2 x y)) k=c2 x y ((T.getD m []).getD k (0,0)) from zH3 _ hk];unfold pr ag gI c2;rw[yre,yre,<-zne,<-zne];rfl
 obtain⟨n1,n2,n3⟩:=zOA zow zow hly hn;have hm:=zYX (x:=x) (y:=y) (z:=z) (h:=h) ⟨h10.1.2,h10.2⟩;refine⟨n3,(yNS n1 n2 ?_ ?_).1,(zBV hm hc).2⟩
 · rw[zAT]
   exact Rat.not_le.2 (z4u.2 zot)
 · have e1:iK (baL x y T) (baL x y T).length<=64*(baL x y T).length:=yB0 (λm hm=>by
    rw[zD1] at hm;rw[zH7 T hm,zde];have:=h10.2 m hm;omega) _ (zbe _)
   have e2:=zKW (baL x y T) (baL x y T).length;have e3:(bsZ (baL x y T)).length=(ptB (baL x y T) (baL x y T).length).length:=I;have e4:iK (baL x y T) (baL x y T).length<=100:=by
    have g:∀i,i<=T.length->iK (baL x y T) i<=10*i:=λi=>by
     induction i with
     |zero=>exactλ_=>zbe _
     |succ i ih=>
      intro hi;have:=ih zot;have h2:=h10.2 i zot
      show iK (baL x y T) i+((baL x y T).getD i []).length<=_
      rw[zH7 T zot,zde];omega
    have:=g _ (zbe _);rw[zD1];omega
   unfold prB;omega
end
end
theorem yOR:(baT.all λT=>nsI T&&zC6 (prI T 1)&&zC6 (prI T 2))=true:=by decide +kernel
theorem yM8:((List.range 3).all λa=>(List.range 2).all λb=>(List.range 2).all λc=>nsI (trT a b c)&&zC6 (prI (trT a b c) 1)&&zC6 (prI (trT a b c) 2))=true:=by decide +kernel
theorem yMF:((List.range 2).all λp=>(List.range 2).all λq=>(List.range 2).all λr=>chI (bxJ (1+p:Nat) (1+q:Nat) (1+r:Nat)))=true:=by decide +kernel
theorem yIT:teB 0 0 0=true:=by decide +kernel
theorem yIS:teB 0 0 1=true:=by decide +kernel
theorem yIR:teB 0 0 2=true:=by decide +kernel
theorem yIQ:teB 0 1 0=true:=by decide +kernel
theorem yIP:teB 0 1 1=true:=by decide +kernel
theorem yIO:teB 0 1 2=true:=by decide +kernel
theorem yIN:teB 1 0 0=true:=by decide +kernel
theorem yIM:teB 1 0 1=true:=by decide +kernel
theorem yIL:teB 1 0 2=true:=by decide +kernel
theorem yIK:teB 1 1 0=true:=by decide +kernel
theorem yIJ:teB 1 1 1=true:=by decide +kernel
theorem yII:teB 1 1 2=true:=by decide +kernel
theorem yIH:teB 2 0 0=true:=by decide +kernel
theorem yIG:teB 2 0 1=true:=by decide +kernel
theorem yIF:teB 2 0 2=true:=by decide +kernel
theorem yIE:teB 2 1 0=true:=by decide +kernel
theorem yID:teB 2 1 1=true:=by decide +kernel
theorem yIC:teB 2 1 2=true:=by decide +kernel
theorem yND{p c q e f g:Nat}(hp:p<3)(hc:c<2)(hq:q<3)(he:e<3)(hf:f<3)(hg:g<3):zC6 (teI p c q e f g)=true:=by
 have h:teB p c q=true:=by
  have H:p=0\/p=1\/p=2:=by omega
  have D:c=0\/c=1:=by omega
  have C:q=0\/q=1\/q=2:=by omega
  rcases H with rfl|rfl|rfl<;>rcases D with rfl|rfl<;>rcases C with rfl|rfl|rfl
  · exact yIT
  · exact yIS
  · exact yIR
  · exact yIQ
  · exact yIP
  · exact yIO
  · exact yIN
  · exact yIM
  · exact yIL
  · exact yIK
  · exact yIJ
  · exact yII
  · exact yIH
  · exact yIG
  · exact yIF
  · exact yIE
  · exact yID
  · exact yIC
 exact zob.1 (zob.1 (zob.1 h e (zog.2 he)) f (zog.2 hf)) g (zog.2 hg)
theorem yME{p q r:Nat}(hp:p<2)(hq:q<2)(hr:r<2):chI (bxJ (1+p:Nat) (1+q:Nat) (1+r:Nat))=true:=
 zob.1 (zob.1 (zob.1 yMF p (zog.2 hp)) q (zog.2 hq)) r (zog.2 hr)
section
variable {v:I3}
theorem yGM(a b c:I3):thN (cP v a) (cP v b) (cP v c)=nr3 (th3 a b c):=by
 unfold thN yC yZ nr3 th3 cx3 sb3 cP;simp only[zwi,zne,zpu]
 congr 1<;>grind
theorem yNW{n:I3}:nr3 n=zT↔n=z3:=by
 constructor
 · intro e
   have H:=zqu.1 (show(n.1:Rat)=((0:Int):Rat) from zbi T3.x e);have D:=zqu.1 (show(n.2.1:Rat)=((0:Int):Rat) from zbi T3.y e);have C:=zqu.1 (show(n.2.2:Rat)=((0:Int):Rat) from zbi T3.z e);exact Prod.ext H (Prod.ext D C)
 · rintro rfl;rfl
theorem yLM(n u:I3):zM (nr3 n) (cP v u)=((dt3 n u+dt3 n v:Int):Rat):=by
 unfold zM nr3 cP dt3;simp only[zne,zpu];grind
theorem zKL{a b c:I3}(h:¬th3 a b c=z3):thZ (cP v a) (cP v b) (cP v c)=(nr3 (th3 a b c),((dt3 (th3 a b c) a+dt3 (th3 a b c) v:Int):Rat)):=by
 rw[(zXL (λe=>h (yNW.1 (by rw[<-yGM (v:=v)];exact e)))).1,yGM,yLM]
theorem yJV{A B C T:I3}(h0:¬th3 A B C=z3)(h1:¬th3 A B T=z3)(h2:¬th3 B C T=z3)(h3:¬th3 C A T=z3):aL v (pyI A B C T) (pyR [cP v A,cP v B,cP v C] (cP v T)):=by
 have J:qU (((0:Nat):Int):Rat)=[48]:=oN (n:=0) zow;have H:qU (((1:Nat):Int):Rat)=[49]:=oN (n:=1) zow;have D:qU (((2:Nat):Int):Rat)=[50]:=oN (n:=2) zow;refine⟨I,I,I,λf hf=>?_⟩;have M:f<4:=hf;have:f=0\/f=1\/f=2\/f=3:=by omega
 rcases this with rfl|rfl|rfl|rfl
 · refine nQ ?_ ?_
   · show thZ (cP v A) (cP v B) (cP v T)=_
     rw[zKL h1];rfl
   · show([[((0:Nat):Int),((1%3:Nat):Int),((3:Nat):Int)]],[115]++qU (((0:Nat):Int):Rat))=_
     rw[J];rfl
 · refine nQ ?_ ?_
   · show thZ (cP v B) (cP v C) (cP v T)=_
     rw[zKL h2];rfl
   · show([[((1:Nat):Int),((2%3:Nat):Int),((3:Nat):Int)]],[115]++qU (((1:Nat):Int):Rat))=_
     rw[H];rfl
 · refine nQ ?_ ?_
   · show thZ (cP v C) ([cP v A,cP v B,cP v C].getD ((2+1)%3) zT) (cP v T)=_
     rw[show[cP v A,cP v B,cP v C].getD ((2+1)%3) zT=cP v A from I,zKL h3];rfl
   · show([[((2:Nat):Int),(((2+1)%3:Nat):Int),((3:Nat):Int)]],[115]++qU (((2:Nat):Int):Rat))=_
     rw[D];rfl
 · refine nQ ?_ ?_
   · show opP (thZ (cP v A) (cP v B) (cP v C))=(nr3 (ng3 (th3 A B C)),((-dt3 (th3 A B C) A+dt3 (ng3 (th3 A B C)) v:Int):Rat))
     rw[zKL h0];generalize th3 A B C=n;unfold opP nr3 ng3 dt3;have O:((-1:Int):Rat)= -1:=I;refine Prod.ext ?_ ?_
     · simp only[z2i,O]
       congr 1<;>grind
     · simp only[z2i,zne,zpu]
       grind
   · rfl
end
theorem zKM{p c q e f g:Nat}(hp:p<3)(hc:c<2)(hq:q<3)(he:e<3)(hf:f<3)(hg:g<3):(chI (teI p c q e f g)=true/\nmB (teI p c q e f g)=true)/\chI (nrI (teI p c q e f g))=true:=by
 have h:=yND hp hc hq he hf hg;unfold zC6 at h;rw[zbu,zbu] at h;exact h
theorem zUA{P:List I3}{F:List FI}(h:chI (P,F)=true){f:Nat}(hf:f<F.length):¬(F.getD f fi0).1=z3:=by
 unfold chI at h;replace h:=(zbu _ _▸h).2;rw[zbu,zbu,zbu] at h;have C:=zob.1 h.1.1.2 _ (kR (d:=fi0) hf);unfold faB at C;replace C:=(zbu _ _▸C).2;rw[zbu,zbu,zku,zge] at C;exact C.1.2
def teL(x y z:Int)(p c q:Nat):List Pt:=[pI x y z,pI (x+(1+p)) y z,pI (x+c) (y+(1+q)) z]
def teA(x y z:Int)(e f g:Nat):Pt:=pI (x+e) (y+f) (z+(1+g))
theorem zXM{x y z:Int}{p c q e f g:Nat}(hp:p<3)(hc:c<2)(hq:q<3)(he:e<3)(hf:f<3)(hg:g<3):aL (x,y,z) (teI p c q e f g) (pyR (teL x y z p c q) (teA x y z e f g)):=by
 have h:=(zKM hp hc hq he hf hg).1.1;have J:=zUA h (f:=0) (show 0<4 by decide);have H:=zUA h (f:=1) (show 1<4 by decide);have D:=zUA h (f:=2) (show 2<4 by decide);have M:=zUA h (f:=3) (show 3<4 by decide);have h0:¬th3 (0,0,0) (1+(p:Int),0,0) ((c:Int),1+(q:Int),0)=z3:=λe'=>M (by
  show ng3 (th3 _ _ _)=z3
  rw[show th3 _ _ _=z3 from e'];rfl)
 have C:=yJV (v:=(x,y,z)) h0 J H D;have U:[cP (x,y,z) (0,0,0),cP (x,y,z) (1+(p:Int),0,0),cP (x,y,z) ((c:Int),1+(q:Int),0)]=teL x y z p c q:=by
  unfold teL cP pI;simp
 have O:cP (x,y,z) ((e:Int),(f:Int),1+(g:Int))=teA x y z e f g:=by
  unfold teA cP pI;simp
 rw[U,O] at C;exact C
theorem yDT{x y z:Int}{p c q e f g:Nat}:(¬thN ((teL x y z p c q).getD 0 zT) ((teL x y z p c q).getD 1 zT) ((teL x y z p c q).getD 2 zT)=zT)/\zHY (thZ ((teL x y z p c q).getD 0 zT) ((teL x y z p c q).getD 1 zT) ((teL x y z p c q).getD 2 zT)) (teL x y z p c q)/\0<sdZ (thZ ((teL x y z p c q).getD 0 zT) ((teL x y z p c q).getD 1 zT) ((teL x y z p c q).getD 2 zT)) (teA x y z e f g):=by
 have hP:0<(1+(p:Int))*(1+(q:Int)):=Int.mul_pos zot zot;have hG:0<(1+(p:Int))*(1+(q:Int))*(1+(g:Int)):=Int.mul_pos hP zot;have hN:thN (pI x y z) (pI (x+(1+p)) y z) (pI (x+c) (y+(1+q)) z)=T3.mk (0:Rat) (0:Rat) (((1+(p:Int))*(1+(q:Int)):Int):Rat):=by
  unfold thN yC yZ pI;simp only[zne,zpu]
  congr 1<;>grind
 have hz:¬thN (pI x y z) (pI (x+(1+p)) y z) (pI (x+c) (y+(1+q)) z)=zT:=λe=>by
  rw[hN] at e;have:=zqu.1 (show _=((0:Int):Rat) from zbi T3.z e);omega
 have hZ:thZ (pI x y z) (pI (x+(1+p)) y z) (pI (x+c) (y+(1+q)) z)=(T3.mk (0:Rat) (0:Rat) (((1+(p:Int))*(1+(q:Int)):Int):Rat),(((1+(p:Int))*(1+(q:Int))*z:Int):Rat)):=by
  rw[(zXL hz).1,hN];unfold zM pI;simp only[zpu,y2i,Rat.zero_add]
 generalize hm:(1+(p:Int))*(1+(q:Int))=m at hP hG hN hZ;have J:∀X Y Z:Int,sdZ (T3.mk (0:Rat) (0:Rat) ((m:Int):Rat),((m*z:Int):Rat)) (pI X Y Z)=sgI (m*(Z-z)):=λX Y Z=>by
  have:hgt (T3.mk (0:Rat) (0:Rat) ((m:Int):Rat),((m*z:Int):Rat)) (pI X Y Z)=((m*(Z-z):Int):Rat):=by
   unfold hgt zM pI;simp only[zpu,zwi];grind
  unfold sdZ;rw[this,mN];rfl
 have aa:∀X Y:Int,sdZ (T3.mk (0:Rat) (0:Rat) ((m:Int):Rat),((m*z:Int):Rat)) (pI X Y z)=0:=λX Y=>by
  rw[J,yvu,yuu];rfl
 have M:axI (T3.mk (0:Rat) (0:Rat) ((m:Int):Rat))=0/\axJ (T3.mk (0:Rat) (0:Rat) ((m:Int):Rat))=1:=⟨zau (yiu.2 hP),zau (yiu.2 hP)⟩;have D:∀X Y Z:Int,pt2 (T3.mk (0:Rat) (0:Rat) ((m:Int):Rat),((m*z:Int):Rat)) (pI X Y Z)=ag (x:Rat) 1 (y:Rat) 1 (X-x,Y-y):=λX Y Z=>by
  unfold pt2 ag;rw[M.1,M.2];unfold pr pI;simp only[T3.at,zwi];refine Prod.ext ?_ ?_<;>grind
 refine⟨hz,?_,?_⟩
 · show zHY (thZ (pI x y z) (pI (x+(1+p)) y z) (pI (x+c) (y+(1+q)) z)) _
   rw[hZ];refine⟨⟨show 3<=3 from zbe 3,λe=>?_⟩,λi hi=>?_,λi k hi h2 hk=>?_⟩
   · have:=zqu.1 (show _=((0:Int):Rat) from zbi T3.z e)
     omega
   · have H:i<3:=hi
     rcases zI3 H with rfl|rfl|rfl<;>exact aa _ _
   · have H:i<3:=hi
     have ab:k<3:=hk;have:k=2:=by omega
     subst this;have C:∀u w t:PI,0<crI u w t->0<orZ (ag (x:Rat) 1 (y:Rat) 1 u) (ag (x:Rat) 1 (y:Rat) 1 w) (ag (x:Rat) 1 (y:Rat) 1 t):=λu w t h=>by
      rw[yC5 zow zow];exact y4.2 h
     have pA:pt2 (T3.mk (0:Rat) (0:Rat) ((m:Int):Rat),((m*z:Int):Rat)) (pI x y z)=ag (x:Rat) 1 (y:Rat) 1 (0,0):=by rw[D,yvu,yvu]
     have U:pt2 (T3.mk (0:Rat) (0:Rat) ((m:Int):Rat),((m*z:Int):Rat)) (pI (x+(1+p)) y z)=ag (x:Rat) 1 (y:Rat) 1 (1+(p:Int),0):=by rw[D,yvu,show x+(1+(p:Int))-x=1+(p:Int) by omega]
     have O:pt2 (T3.mk (0:Rat) (0:Rat) ((m:Int):Rat),((m*z:Int):Rat)) (pI (x+c) (y+(1+q)) z)=ag (x:Rat) 1 (y:Rat) 1 ((c:Int),1+(q:Int)):=by rw[D,show x+(c:Int)-x=(c:Int) by omega,show y+(1+(q:Int))-y=1+(q:Int) by omega]
     have c1:crI (0,0) (1+(p:Int),0) ((c:Int),1+(q:Int))=m:=by rw[<-hm];simp[crI]
     have c2:crI (1+(p:Int),0) ((c:Int),1+(q:Int)) (0,0)=m:=by rw[<-hm];simp[crI];grind
     have c3:crI ((c:Int),1+(q:Int)) (0,0) (1+(p:Int),0)=m:=by rw[<-hm];simp[crI];grind
     have hL:(teL x y z p c q).length=3:=I;have g0:gp (teL x y z p c q) 0=pI x y z:=I;have g1:gp (teL x y z p c q) 1=pI (x+(1+p)) y z:=I;have g2:gp (teL x y z p c q) 2=pI (x+c) (y+(1+q)) z:=I;unfold nx;rw[hL]
     rcases zI3 H with rfl|rfl|rfl
     · rw[show(0+1)%3=1 from I,show(0+2)%3=2 from I,g0,g1,g2,pA,U,O]
       exact C _ _ _ (by rw[c1];exact hP)
     · rw[show(1+1)%3=2 from I,show(1+2)%3=0 from I,g0,g1,g2,pA,U,O]
       exact C _ _ _ (by rw[c2];exact hP)
     · rw[show(2+1)%3=0 from I,show(2+2)%3=1 from I,g0,g1,g2,pA,U,O]
       exact C _ _ _ (by rw[c3];exact hP)
 · show 0<sdZ (thZ (pI x y z) (pI (x+(1+p)) y z) (pI (x+c) (y+(1+q)) z)) (pI (x+e) (y+f) (z+(1+g)))
   rw[hZ,J];refine y4.2 ?_;rw[show z+(1+(g:Int))-z=1+(g:Int) by omega];exact hG
theorem yIA{x y z:Int}{p c q e f g:Nat}(hp:p<3)(hc:c<2)(hq:q<3)(he:e<3)(hf:f<3)(hg:g<3):pyH (teL x y z p c q) (teA x y z e f g):=by
 obtain⟨h1,h2,h3⟩:=yDT (x:=x) (y:=y) (z:=z) (p:=p) (c:=c) (q:=q) (e:=e) (f:=f) (g:=g);exact⟨⟨⟨by show 3<=3;decide,by show 3<=64;decide⟩,h1⟩,⟨h2,h3⟩,(zBV (zXM hp hc hq he hf hg) (zKM hp hc hq he hf hg).1.1).2⟩
def baF(T:List (List PI)):Prop:=T∈baT\/∃a b c:Nat,(a<3/\b<2/\c<2)/\T=trT a b c
def zWM(I:SI):Prop:=(∃p q r:Nat,(p<2/\q<2/\r<2)/\I=bxJ (1+p:Nat) (1+q:Nat) (1+r:Nat))\/(∃T h,baF T/\(h=1\/h=2)/\I=nrI (prI T h))\/
 ∃p c q e f g:Nat,(p<3/\c<2/\q<3)/\(e<3/\f<3/\g<3)/\I=nrI (teI p c q e f g)
def zA5(s:Sd):Prop:=∃v I,zWM I/\bdV v/\aL v I s
theorem yHF{T:List (List PI)}{h:Int}(hT:baF T)(hh:h=1\/h=2):nsI T=true/\zC6 (prI T h)=true:=by
 have g:∀T,(nsI T&&zC6 (prI T 1)&&zC6 (prI T 2))=true->nsI T=true/\zC6 (prI T h)=true:=λT e=>by
  rw[zbu,zbu] at e
  rcases hh with rfl|rfl
  · exact⟨e.1.1,e.1.2⟩
  · exact⟨e.1.1,e.2⟩
 rcases hT with hT|⟨a,b,c,⟨ha,hb,hc⟩,rfl⟩
 · exact g T (zob.1 yOR T hT)
 · exact g _ (zob.1 (zob.1 (zob.1 yM8 a (zog.2 ha)) b (zog.2 hb)) c (zog.2 hc))
theorem zZI{I:SI}(h:zC6 I=true):(chI I=true/\nmB I=true)/\chI (nrI I)=true:=by
 unfold zC6 at h;rw[zbu,zbu] at h;exact h
theorem zR0{I:SI}(h:zWM I):chI I=true:=by
 rcases h with⟨p,q,r,⟨hp,hq,hr⟩,rfl⟩|⟨T,h,hT,hh,rfl⟩|⟨p,c,q,e,f,g,⟨hp,hc,hq⟩,⟨he,hf,hg⟩,rfl⟩
 · exact yME hp hq hr
 · exact(zZI (yHF hT hh).2).2
 · exact(zKM hp hc hq he hf hg).2
theorem cE{s:Sd}(h:zA5 s):(kC s/\okS s)/\smS 2 2 2 1 s:=by
 obtain⟨v,I,D,H,C⟩:=h;exact⟨zBV C (zR0 D),zXY C (zR0 D) H⟩
theorem nat_of{z:Int}{n:Nat}(h:0<=z/\z<n):∃m:Nat,m<n/\z=m:=⟨z.toNat,by omega,by omega⟩
section
variable {x y z:Int}(hx:0<=x/\x<3)(hy:0<=y/\y<3)(hz:0<=z/\z<3)
include hx hy hz
theorem zX9{p q r:Int}(hp:0<=p/\p<2)(hq:0<=q/\q<2)(hr:0<=r/\r<2):zA5 (bkS (pI x y z) (pI (x+1+p) (y+1+q) (z+1+r))):=by
 obtain⟨p,H,rfl⟩:=nat_of (n:=2) hp;obtain⟨q,D,rfl⟩:=nat_of (n:=2) hq;obtain⟨r,C,rfl⟩:=nat_of (n:=2) hr;refine⟨(x,y,z),_,.inl ⟨p,q,r,⟨H,D,C⟩,I⟩,⟨by show -1000<=x/\x<=1000;omega,by show -1000<=y/\y<=1000;omega,by show -1000<=z/\z<=1000;omega⟩,?_⟩;rw[show x+1+(p:Int)=x+((1+p:Nat):Int) by omega,show y+1+(q:Int)=y+((1+q:Nat):Int) by omega,show z+1+(r:Int)=z+((1+r:Nat):Int) by omega];exact yMG zot zot zot
theorem zP4{p c q e f g:Int}(hp:0<=p/\p<3)(hc:0<=c/\c<2)(hq:0<=q/\q<3)(he:0<=e/\e<3)(hf:0<=f/\f<3)(hg:0<=g/\g<3):pyH [pI x y z,pI (x+1+p) y z,pI (x+c) (y+1+q) z] (pI (x+e) (y+f) (z+1+g))/\
 ∃v I,(∃p c q e f g:Nat,(p<3/\c<2/\q<3)/\(e<3/\f<3/\g<3)/\I=nrI (teI p c q e f g))/\bdV v/\aL v I (nrP (pyR [pI x y z,pI (x+1+p) y z,pI (x+c) (y+1+q) z] (pI (x+e) (y+f) (z+1+g))),nrF (pyR [pI x y z,pI (x+1+p) y z,pI (x+c) (y+1+q) z] (pI (x+e) (y+f) (z+1+g))),[]):=by
 obtain⟨p,D,rfl⟩:=nat_of (n:=3) hp;obtain⟨c,O,rfl⟩:=nat_of (n:=2) hc;obtain⟨q,C,rfl⟩:=nat_of (n:=3) hq;obtain⟨e,M,rfl⟩:=nat_of (n:=3) he;obtain⟨f,J,rfl⟩:=nat_of (n:=3) hf;obtain⟨g,H,rfl⟩:=nat_of (n:=3) hg;have hm:=zXM (x:=x) (y:=y) (z:=z) D O C M J H;have h0:=zKM D O C M J H;have U:=zZ8 hm h0.1.1 h0.1.2;have Z:=yIA (x:=x) (y:=y) (z:=z) D O C M J H;unfold teL teA at U Z;rw[show x+1+(p:Int)=x+(1+p) by omega,show y+1+(q:Int)=y+(1+q) by omega,show z+1+(g:Int)=z+(1+g) by omega];refine⟨Z,(x,y,z),_,⟨p,c,q,e,f,g,⟨D,O,C⟩,⟨M,J,H⟩,rfl⟩,⟨by show -1000<=x/\x<=1000;omega,by show -1000<=y/\y<=1000;omega,by show -1000<=z/\z<=1000;omega⟩,?_⟩;have e0:nrE (pyR [pI x y z,pI (x+(1+↑p)) y z,pI (x+↑c) (y+(1+↑q)) z] (pI (x+↑e) (y+↑f) (z+(1+↑g))))=[]:=by unfold nrE;split<;>rfl
 rw[e0] at U;exact U
end
def yNC(s:Sd):Prop:=∃v I,(∃p c q e f g:Nat,(p<3/\c<2/\q<3)/\(e<3/\f<3/\g<3)/\I=nrI (teI p c q e f g))/\bdV v/\aL v I s
theorem zEX{s:Sd}(h:yNC s):zA5 s:=by
 obtain⟨v,I,C,h⟩:=h;exact⟨v,I,.inr (.inr C),h⟩
def baP(L:List (List Pt)):Prop:=∃x y T,(0<=x/\x<2)/\(0<=y/\y<2)/\baF T/\L=baL x y T
theorem yF9{T:List (List PI)}(h:baF T):(1<=T.length/\T.length<=10)/\∀i,i<T.length->(T.getD i []).length<=10:=by
 have g:∀T,T∈baT->(decide (1<=T.length/\T.length<=10)&&T.all λs=>decide (s.length<=10))=true:=λT C=>zob.1 (show(baT.all λT=>decide (1<=T.length/\T.length<=10)&&T.all λs=>decide (s.length<=10))=true by decide) T C
 rcases h with h|⟨a,b,c,_,rfl⟩
 · have:=g T h
   rw[zbu,zgi] at this;exact⟨this.1,λi hi=>yau (zob.1 this.2 _ (kR hi))⟩
 · refine⟨⟨show 1<=1 by decide,show 1<=10 by decide⟩,λi hi=>?_⟩
   have:i=0:=by have:i<1:=hi;omega
   subst this
   show 3<=10;decide
theorem zC2{L:List (List Pt)}(h:baP L){z a:Int}(hz:0<=z/\z<2)(ha:0<=a/\a<2):((∀s,s∈L->cY s)/\prE L (z:Rat) ((z+1+a:Int):Rat)=0/\okS (prR L (z:Rat) ((z+1+a:Int):Rat)))/\zA5 (prP L (z:Rat) ((z+1+a:Int):Rat),prF L (z:Rat) ((z+1+a:Int):Rat),[]):=by
 obtain⟨x,y,T,hx,hy,H,rfl⟩:=h;have hh:1+a=1\/1+a=2:=by omega
 obtain⟨h1,h2⟩:=yHF H hh;obtain⟨⟨h3,M⟩,O⟩:=zZI h2;have C:=yF9 H;have D:=yEP (x:=x) (y:=y) (z:=z) C h1 zot h3;rw[show z+1+a=z+(1+a) by omega];refine⟨D,(x,y,z),_,.inr (.inl ⟨T,_,H,hh,I⟩),⟨by show -1000<=x/\x<=1000;omega,by show -1000<=y/\y<=1000;omega,by show -1000<=z/\z<=1000;omega⟩,?_⟩;have J:=zZ8 (zYX (x:=x) (y:=y) (z:=z) (h:=1+a) ⟨C.1.2,C.2⟩) h3 M;have e0:nrE (prR (baL x y T) (z:Rat) ((z+(1+a):Int):Rat))=[]:=by unfold nrE;split<;>rfl
 unfold prP prF;rw[zau D.2.1,zau D.2.1];rw[e0] at J;exact J
def aG(x y:Int):List Int->List Pt
  |a::b::l=>T3.mk ((x+a:Int):Rat) ((y+b:Int):Rat) (0:Rat)::aG x y l
  |_=>[]
theorem yB9{x y:Int}{l:List Int}{u:Nat}{D:List Pt}(hD:D++aG x y (l.drop (2*u))=aG x y l)(h:2*u+1<l.length):(D++[T3.mk ((x+l.getD (2*u) 0:Int):Rat) ((y+l.getD (2*u+1) 0:Int):Rat) (0:Rat)])++aG x y (l.drop (2*(u+1)))=aG x y l:=by
 rw[<-hD,zju]
 congr 1
 rw[show l.drop (2*u)=l.getD (2*u) 0::l.getD (2*u+1) 0::l.drop (2*(u+1)) by
  rw[z4e zot,z4e zot,zoa,zoa,zoc zot,zoc zot]
  rfl]
 rfl
theorem yF7{x y:Int}{l:List Int}{u:Nat}{D:List Pt}(hD:D++aG x y (l.drop (2*u))=aG x y l)(h:¬2*u+1<l.length):D=aG x y l:=by
 have e:aG x y (l.drop (2*u))=[]:=by
  have C:(l.drop (2*u)).length<=1:=by rw[ziu];omega
  match l.drop (2*u),C with
  |[],_=>rfl
  |[_],_=>rfl
 rw[<-hD,e,zqi]
section
variable {x y:Int}(hx:0<=x/\x<2)(hy:0<=y/\y<2)
include hx hy
theorem yCV:baP [aG x y [0,0,2,0,2,1,1,1,1,2,0,2]]:=⟨x,y,_,hx,hy,.inl (.head _),rfl⟩
theorem yCU:baP [aG x y [0,0,3,0,3,3,0,3],aG x y [1,1,1,2,2,2,2,1]]:=⟨x,y,_,hx,hy,.inl (.tail _ (.head _)),rfl⟩
theorem yCT:baP [aG x y [0,0,3,0,3,3,0,3],aG x y [1,1,0,0,1,2]]:=⟨x,y,_,hx,hy,.inl (.tail _ (.tail _ (.head _))),rfl⟩
theorem yCS:baP [aG x y [0,0,1,0,2,0,2,2,0,1]]:=⟨x,y,_,hx,hy,.inl (.tail _ (.tail _ (.tail _ (.head _)))),rfl⟩
theorem yCR{a b c:Int}(ha:0<=a/\a<3)(hb:0<=b/\b<2)(hc:0<=c/\c<2):baP [aG x y [0,0,1+a,0,b,1+c]]:=by
 obtain⟨a,H,rfl⟩:=nat_of (n:=3) ha;obtain⟨b,D,rfl⟩:=nat_of (n:=2) hb;obtain⟨c,C,rfl⟩:=nat_of (n:=2) hc;exact⟨x,y,_,hx,hy,.inr ⟨a,b,c,⟨H,D,C⟩,I⟩,by
  unfold trT;rw[show((1+a:Nat):Int)=1+(a:Int) by omega,show((1+c:Nat):Int)=1+(c:Int) by omega]
  rfl⟩
end
def bxC(c:SI->Bool):Bool:=(List.range 2).all λp=>(List.range 2).all λq=>(List.range 2).all λr=>c (bxJ (1+p:Nat) (1+q:Nat) (1+r:Nat))
def baC(c:SI->Bool):Bool:=baT.all λT=>c (nrI (prI T 1))&&c (nrI (prI T 2))
def trC(c:SI->Bool):Bool:=(List.range 3).all λa=>(List.range 2).all λb=>(List.range 2).all λk=>c (nrI (prI (trT a b k) 1))&&c (nrI (prI (trT a b k) 2))
def teC(c:SI->Bool):Bool:=(List.range 3).all λp=>(List.range 2).all λk=>(List.range 3).all λq=>(List.range 3).all λe=>(List.range 3).all λf=>(List.range 3).all λg=>c (nrI (teI p k q e f g))
theorem yIB{c:SI->Bool}(h:teC c=true){p k q e f g:Nat}(hp:p<3)(hk:k<2)(hq:q<3)(he:e<3)(hf:f<3)(hg:g<3):c (nrI (teI p k q e f g))=true:=
 zob.1 (zob.1 (zob.1 (zob.1 (zob.1 (zob.1 h p (zog.2 hp)) k (zog.2 hk)) q (zog.2 hq)) e (zog.2 he)) f (zog.2 hf)) g (zog.2 hg)
theorem zL9{c:SI->Bool}(hb:bxC c=true)(ha:baC c=true)(hr:trC c=true)(ht:teC c=true){I:SI}(h:zWM I):c I=true:=by
 rcases h with⟨p,q,r,⟨hp,hq,hr⟩,rfl⟩|⟨T,h,hT,hh,rfl⟩|⟨p,k,q,e,f,g,⟨hp,hk,hq⟩,⟨he,hf,hg⟩,rfl⟩
 · exact zob.1 (zob.1 (zob.1 hb p (zog.2 hp)) q (zog.2 hq)) r (zog.2 hr)
 · rcases hT with hT|⟨a,b,k,⟨ha',hb',hk⟩,rfl⟩
   · have h1:=zob.1 ha T hT
     rw[zbu] at h1
     rcases hh with rfl|rfl
     · exact h1.1
     · exact h1.2
   · have h1:=zob.1 (zob.1 (zob.1 hr a (zog.2 ha')) b (zog.2 hb')) k (zog.2 hk)
     rw[zbu] at h1
     rcases hh with rfl|rfl
     · exact h1.1
     · exact h1.2
 · exact yIB ht hp hk hq he hf hg
section
variable {s:Sd}{p d:Pt}
theorem yLR(h:kC s)(hc:¬(onA (kG s) p\/d=zT)):crX s p d=crA (kG s) p d/\crY s p d=crB (kG s) p d/\(okR s p d↔nbM (kG s) p d):=by
 have h1:¬(onB s p\/d=zT):=λe=>hc (e.imp_left (sL h p).2);obtain⟨D,C⟩:=yF3 h p d;exact⟨(zae h1).trans D.symm,(zae h1).trans C.symm,λe=>(zDB h p d).2 e.2,λe=>⟨h1,(zDB h p d).1 e⟩⟩
theorem yF4(h:kC s)(hc:onA (kG s) p\/d=zT):crX s p d=0/\crY s p d=0/\¬okR s p d:=yOM (hc.imp_left (sL h p).1)
end
end Bk
