/- Texts that the proof needs, part 3. -/
import Derived.Test.YtpkaegemlpaenaaGreatKC2
set_option linter.unusedVariables false
set_option linter.unusedSimpArgs false
namespace Go.Proofs.YtpkaegemlpaenaaGreat
open Bk Go Tryz
set_option maxRecDepth 10000
set_option maxHeartbeats 1000000
attribute [local irreducible] GL GC GQ W OpV
section
variable{w0:World}{h0:Mem}(hs:MLe h0 (mem w0))
include hs
theorem jT{v:Value}{xs:List Nat}(hv:Us .u32 h0 v xs):
 Calls Tryz.prog 196 #[v] w0 (Ret w0 h0 (λh r=>r=fX 1 v 0 (zB (val xs)).length/\Us .u32 h r (zB (val xs)))):=by
 have H:=hv.lt63;refine cb1 21 v func196 hs ?_;refine tZ ?_;refine gcL (ι:=Nat) (λ(k:(Nat))=>(k<=xs.length/\∀i,k<=i->xs.getD i 0=0,[(0,v),(3,vI ↑k)],[],h0,k)) xs.length ?_ ?_
 · exact⟨Nat.le_refl _,λi hi=>by rw[zoa,List.getElem?_eq_none hi];rfl⟩
 rintro k ⟨J,hz⟩
 refine yW ?_;refine go5 ?_;refine gU 8 15 (vB (((0:Int)<↑k)/\(xs.getD (k-1) 0=0))) ?_ ?_
 ·
  refine zY ((0:Int)<↑k) (λG=>?_) (λG=>?_)
  ·
   refine gT G I (go7 ?_);refine gv (zX (k-1) underlying27 sizeOf124 I I hv oM oM) I (go3 ?_);refine gv (fP (k:=.u32) (q:=0) I I) I (go2 ?_);refine gqU ?_;exact congrArg some (xD G)
  refine gF G I (go8 ?_);refine gqU ?_;exact congrArg some (xE G)
 refine gc2 (λC=>?_) λC=>?_
 ·
  refine go9 ?_;refine gqL (k-1) ?_ ?_ (he:=⟨I,?_,trivial⟩)
  ·
   exact⟨by omega,λi hi=>by
    by_cases e:i=k-1
    · rw[e];exact C.2
    · exact hz i oM⟩
  · have:=C.1;omega
  · exact congrArg some (congrArg vI (by have:=C.1;omega))
 refine go9 ?_;refine gv (t8 _ underlying27 sizeOf124 I I hv.shape I oM) I ?_;have D:=hv.sub (lo:=0) (hi:=_) oM oM;refine go4 ?_;refine zC I I ?_;have e:(xs.drop 0).take (k-0)=zB (val xs):=zH9 hv.lt J hz (by
  by_cases h0:k=0
  · exact .inl h0
  · exact .inr λh1=>C ⟨by omega,h1⟩)
 rw[e] at D;have M:(zB (val xs)).length=k:=by
  rw[<-e,List.length_take,List.length_drop];omega
 refine⟨?_,D⟩;rw[M]
theorem nat_of{n:Nat}(hn:n<18446744073709551616):
 Calls Tryz.prog 192 #[vU .u64 n] w0 (Ret w0 h0 (λh r=>Us .u32 h r (zB n))):=by
 refine cb1 10 (vU .u64 n) func192 hs ?_;refine uV ?_;refine zG (zGB (kd:=.u32) underlying27 uP I I I I) I I I ?_;intro O U D;obtain rfl:=D;refine yQ (by intro x hx;simp only[List.mem_cons,List.not_mem_nil,or_false] at hx;simp only[ub];omega) ?_;intro h1 H J;refine cL (ev1 I) call196 (λw hs=>jT hs J) λM h2 G C=>?_;replace C:=C.2;refine go4 ?_;refine zC I I ?_;have e:val [n%4294967296,n/2^32%4294967296]=n:=by simp only[val];omega
 rw[e] at C;exact C
theorem zEN{v v':Value}{xs ys:List Nat}(hv:Us .u32 h0 v xs)(hv':Us .u32 h0 v' ys):
 Calls Tryz.prog 204 #[v,v'] w0 (Ret w0 h0 (λ_ r=>r=vI (rQ (val xs) (val ys)))):=by
 refine cb2 45 v v' func204 hs ?_;refine go8 ?_;refine cL (ev1 I) call196 (λw hs=>jT hs hv) λv7 h1 ab C=>?_;replace C:=C.2;refine go1 ?_;replace hv':=hv'.mono ab;refine cL (ev1 I) call196 (λw hs=>jT hs hv') λv9 h2 aa D=>?_;replace D:=D.2;replace C:=C.mono aa;generalize hA:zB (val xs)=AA at *;generalize hB:zB (val ys)=BB at *;have vA:val AA=val xs:=by rw[<-hA,zE]
 have J:val BB=val ys:=by rw[<-hB,zE]
 have fA:Fit AA:=C.lt;have fB:Fit BB:=D.lt;have lA:=C.lt63;have lB:=D.lt63;refine tZ ?_;refine cnd (λZ=>?_) λZ=>?_
 ·
  refine zC5 (λU=>?_) λU=>?_
  ·
   refine go8 ?_;refine zC I I ?_;rw[zB3 (rT (by rw[hA,hB];omega))]
  refine go9 ?_;refine zC I I ?_;rw[zB4 (rT (by rw[hA,hB];omega))]
 have hl:AA.length=BB.length:=by omega
 refine uV ?_;refine gcL (ι:=Nat) (λ(j:(Nat))=>(j<=AA.length/\AA.drop j=BB.drop j,[(0,v7),(1,v9),(5,vI (↑j-1))],[],h2,j)) AA.length ?_ ?_
 · exact⟨Nat.le_refl _,by rw[List.drop_of_length_le (Nat.le_refl _),List.drop_of_length_le oM]⟩
 rintro j ⟨hj,M⟩
 refine yW ?_;refine gc7 (λO=>?_) λO=>?_
 ·
  refine go5 ?_;refine zK 9 _ [] [(0,.q),(1,.q),(2,.q),(3,.q),(4,.q),(5,.q),(6,.q),(7,.q),(8,.q)] yA nX zou nX (λr hr=>hr) (go2 ?_);refine w_q I (λh' L' hh hR=>zX (j-1) underlying27 sizeOf124 I I (C.mono hh) oM oM) I (w_q I (λh' L' hh hR=>xY isAgg124 I (C.mono hh) oM) I (go2 ?_));refine w_q I (λh' L' hh hR=>zX (j-1) underlying27 sizeOf124 I I (D.mono hh) oM oM) I (w_q I (λh' L' hh hR=>xY isAgg124 I (D.mono hh) oM) I (gc3 (λH=>?_) λH=>?_))
  ·
   refine go2 ?_;refine zK 9 _ [] [(0,.q),(1,.q),(2,.q),(3,.q),(4,.q),(5,.q),(6,.q),(7,.q),(8,.q)] yA nX zou nX (λr hr=>hr) (go2 ?_);refine w_q I (λh' L' hh hR=>zX (j-1) underlying27 sizeOf124 I I (C.mono hh) oM oM) I (w_q I (λh' L' hh hR=>xY isAgg124 I (C.mono hh) oM) I (go2 ?_));refine w_q I (λh' L' hh hR=>zX (j-1) underlying27 sizeOf124 I I (D.mono hh) oM oM) I (w_q I (λh' L' hh hR=>xY isAgg124 I (D.mono hh) oM) I (gc3 (λG=>?_) λG=>?_))
   ·
    refine uV ?_;refine zC I I ?_;rw[<-vA,<-J,zB3 (zEE fA hl oM hj M G)]
   refine sO ?_;refine zC I I ?_;rw[<-vA,<-J,zB4 (zEE fB hl.symm oM oM M.symm oM)]
  refine go8 ?_;refine gqL (j-1) ?_ ?_ (he:=⟨I,I,?_,trivial⟩)
  ·
   refine⟨by omega,?_⟩;rw[tJ AA (j-1) oM,tJ BB (j-1) oM];have e:j-1+1=j:=by omega
   rw[e,M,Classical.not_not.1 H]
  · omega
  · exact congrArg some (congrArg vI oM)
 refine qM ?_;refine zC I I ?_;have h0:j=0:=by omega
 subst h0;simp only[List.drop_zero] at M;rw[<-vA,<-J,M,zR3]
theorem zE8{v:Value}{xs:List Nat}(hv:Us .u32 h0 v xs)(hl:xs.length<=1099511627776):
 Calls Tryz.prog 207 #[v] w0 (fW w0 h0 (λ_ r L=>L=[.us 124 .u32 r xs])):=by
 refine cb1 8 v func207 hs ?_;refine go9 ?_;refine gv (zO7 underlying27 I (let ⟨a,c,hv⟩:=hv.one;⟨a,_,c,hv⟩)) I (gc2 (λC=>?_) λC=>?_)
 ·
  refine go3 ?_;refine zC3 (E:=124) (k:=.u32) (go4 ?_);refine qF I I ?_;obtain⟨m,H,rfl⟩:=C;have hx:xs=[]:=hv.nil_of;subst hx
  rfl
 refine go4 ?_;refine zG (zGC (kd:=.u32) underlying27 uP I I) I I I ?_;intro M U G;obtain rfl:=G;refine go1 ?_;refine xL (A:=[]) (gW (kd:=.u32) (bytes:=4) underlying27 uP I I I I I hv (by simp only[lN];omega) (by simp only[lN];omega)) I I I ?_;intro J O D;obtain rfl:=D;refine go4 ?_;refine qF I I ?_
 rfl
theorem dQ{v v':Value}{xs ys:List Nat}(hv:Us .u32 h0 v xs)(hv':Us .u32 h0 v' ys)(hl:xs.length<=1099511627776)(hl':ys.length<=1099511627776):
 Calls Tryz.prog 191 #[v,v'] w0 (Ret w0 h0 (λh r=>Us .u32 h r (zB (val xs+val ys)))):=by
 refine cb2 58 v v' func191 hs ?_;refine go5 ?_;refine qZ (ι:=Value×List Nat×Value×List Nat) (λ(J,D,O,G)=>Us .u32 h0 J D/\Us .u32 h0 O G/\G.length<=D.length/\val D+val G=val xs+val ys/\D.length<=1099511627776) (λ(J,D,O,G)=>[(0,J),(1,O)]) (λ(J,D,O,G)=>[]) (λ(J,D,O,G)=>h0) ?_ ?_
 ·
  refine go5 ?_;refine gv (vH underlying27 I hv') I (gc3 (λad=>?_) λad=>?_)
  ·
   refine go6 ?_;refine zS (v',ys,v,xs) ?_ e2z I I;exact⟨hv',hv,by omega,by omega,hl'⟩
  refine go1 ?_;refine zS (v,xs,v',ys) ?_ e2z I I;exact⟨hv,hv',by omega,I,hl⟩
 rintro⟨J,D,O,G⟩ ⟨ha,hb,an,zT7,ao⟩
 refine yW ?_;refine go5 ?_;refine qY (kd:=.u32) (by':=4) (D.length+1) underlying27 uP I I I I I oM oM oM oM I ?_;intro M;refine go5 ?_;refine asg (v:=vU .u64 0) I I (qM ?_);refine gG (ι:=List Nat×Nat) (λ(C,c)=>C.length<=D.length/\Fit C/\c<=1/\val C+4294967296^C.length*c=val (D.take C.length)+val (G.take C.length)) (λ(C,c)=>[(0,J),(1,O),(5,M),(6,vU .u64 c),(20,J),(21,vI ↑D.length),(22,vI ↑C.length)]) (λ(C,c)=>[.us 124 .u32 M (tT C (D.length+1))]) (λ(C,c)=>h0) (λ(C,c)=>D.length-C.length) ([],0) ?_ e7 I I ?_
 · exact⟨by simp,λx hx=>by simp at hx,by omega,by simp[val]⟩
 rintro⟨C,c⟩ ⟨am,aa,ar,Z⟩
 refine yW ?_;refine gc6 (λac=>?_) λac=>?_
 ·
  refine go7 ?_;refine gv (zX _ underlying27 sizeOf124 I I ha I oM) I (go1 ?_);have ak:=ha.get32 C.length;have aj:=hb.get32 C.length;refine sO ?_;refine qZ (ι:=Unit) (λ(_u:(Unit))=>True) (λ(_u:(Unit))=>[(0,J),(1,O),(5,M),(6,vU .u64 (c+D.getD C.length 0+G.getD C.length 0)),(7,vI ↑C.length),(20,J),(21,vI ↑D.length),(22,vI ↑C.length)]) (λ(_u:(Unit))=>[.us 124 .u32 M (tT C (D.length+1))]) (λ(_u:(Unit))=>h0) ?_ ?_
  ·
   refine gc8 (λab=>?_) λab=>?_
   ·
    refine go4 ?_;refine gv (zX _ underlying27 sizeOf124 I I hb I oM) I (go5 ?_);refine zS (()) ?_ e8 I I
    trivial
   refine go1 ?_;refine zS (()) ?_ ⟨I,I,I,?_,I,I,I,I,trivial⟩ I I
   · trivial
   · exact congrArg some (congrArg (vU .u64) (by rw[sQ (xs:=G) oM];omega))
  rintro _u ah
  refine yW ?_;refine go6 ?_;refine gv (xC (A:=[]) _ underlying27 sizeOf124 I I I (by rw[uJ oM];omega)) I (wV sizeOf124 I I (by rw[uJ oM];omega) (sO ?_));refine jW (C++[(c+D.getD C.length 0+G.getD C.length 0)%4294967296],(c+D.getD C.length 0+G.getD C.length 0)/2^32) ?_ ?_ ⟨I,I,I,I,I,I,?_,trivial⟩ ?_ I
  ·
   have ae:C.length<D.length:=by omega
   refine⟨by simp;omega,uQ aa (aK oM),by omega,?_⟩;rw[lAz,List.length_singleton,uX D _ ae,uH G,rC,Nat.pow_succ];have e:=Nat.div_add_mod (c+D.getD C.length 0+G.getD C.length 0) 4294967296;have e2:(2:Nat)^32=4294967296:=I;rw[e2];generalize (c+D.getD C.length 0+G.getD C.length 0)/4294967296=q at *;generalize (c+D.getD C.length 0+G.getD C.length 0)%4294967296=r at *;grind
  ·
   dsimp only;simp;omega
  · exact congrArg some (congrArg vI zo2)
  try dsimp only[List.nil_append,List.cons_append]
  rw[pK oM]
 refine uV ?_;refine gv (xC (A:=[]) (D.length) underlying27 sizeOf124 I I zo3 (by rw[uJ oM];omega)) I (wV sizeOf124 I I (by rw[uJ oM];omega) (go5 ?_));have hk:C.length=D.length:=by omega
 have U:(tT C (D.length+1)).set D.length (c%4294967296)=C++[c%4294967296]:=by
  rw[<-hk,pK oM,bY zo2]
 refine yQ (by rw[U];exact uQ aa (aK oM)) ?_;intro h1 aq ho;refine cL (ev1 I) call196 (λw hs=>jT hs ho) λai h2 ap H=>?_;replace H:=H.2;refine go4 ?_;refine zC I I ?_;have e:val (C++[c%4294967296])=val xs+val ys:=by
  rw[rC,zoh oM,Z,wA oM,wA oM];exact zT7
 rw[U,e] at H;exact H
theorem zEL{v v':Value}{xs ys:List Nat}(hv:Us .u32 h0 v xs)(hv':Us .u32 h0 v' ys)(hl:xs.length<=1099511627776):
 Calls Tryz.prog 195 #[v,v'] w0 (Ret w0 h0 (λh r=>∃u,r=.tuple #[u,vI (if val xs<val ys then 7 else 0)]/\Us .u32 h u (zB (val xs-val ys)))):=by
 refine cb2 54 v v' func195 hs ?_;refine qM ?_;refine cL (ev2 I I) call204 (λw hs=>zEN hs hv hv') λan h1 ab aa=>?_;subst aa;refine gc3 (λH=>?_) λH=>?_
 ·
  have M:=rO.1 H;refine go8 ?_;refine wK I I I ?_;rw[if_pos M,Nat.sub_eq_zero_of_le (Nat.le_of_lt M),xK];exact⟨_,I,Us.nil _ _⟩
 have aj:val ys<=val xs:=Nat.le_of_not_lt λhc=>H (rO.2 hc);refine go5 ?_;replace hv':=hv'.mono ab;refine cL (ev1 I) call196 (λw hs=>jT hs hv') λU h2 ai G=>?_;replace G:=G.2;replace hv:=hv.mono (ab.trans ai);refine go7 ?_;refine qY (kd:=.u32) (by':=4) _ underlying27 uP I I I I I I I oM oM I ?_;intro J;refine go5 ?_;refine asg (v:=vU .u64 0) I I (qM ?_);refine gG (ι:=List Nat×Nat) (λ(C,c)=>C.length<=xs.length/\Fit C/\c<=1/\val C+val ((zB (val ys)).take C.length)=val (xs.take C.length)+4294967296^C.length*c) (λ(C,c)=>[(1,U),(6,J),(7,vU .u64 c),(21,v),(22,vI ↑xs.length),(23,vI ↑C.length)]) (λ(C,c)=>[.us 124 .u32 J (tT C xs.length)]) (λ(C,c)=>h2) (λ(C,c)=>xs.length-C.length) ([],0) ?_ e6z I I ?_
 · exact⟨by simp,λx hx=>by simp at hx,by omega,by simp[val]⟩
 rintro⟨C,c⟩ ⟨aq,O,av,Z⟩
 refine yW ?_;refine gc6 (λad=>?_) λad=>?_
 ·
  refine go7 ?_;refine gv (zX _ underlying27 sizeOf124 I I hv I oM) I (go1 ?_);have ap:=hv.get32 C.length;have ao:=G.get32 C.length;refine uG ?_;refine qZ (ι:=Unit) (λ(_u:(Unit))=>True) (λ(_u:(Unit))=>[(1,U),(6,J),(8,vI ↑C.length),(9,vU .u32 (xs.getD C.length 0)),(10,vU .u64 (c+(zB (val ys)).getD C.length 0)),(21,v),(22,vI ↑xs.length),(23,vI ↑C.length)]) (λ(_u:(Unit))=>[.us 124 .u32 J (tT C xs.length)]) (λ(_u:(Unit))=>h2) ?_ ?_
  ·
   refine gc8 (λac=>?_) λac=>?_
   ·
    refine go4 ?_;refine gv (zX _ underlying27 sizeOf124 I I G I oM) I (go5 ?_);refine zS (()) ?_ e8 I I
    trivial
   refine go1 ?_;refine zS (()) ?_ ⟨I,I,I,I,?_,I,I,I,trivial⟩ I I
   · trivial
   · exact congrArg some (congrArg (vU .u64) (by rw[sQ (xs:=zB (val ys)) oM];omega))
  rintro _u ak
  refine yW ?_;refine go5 ?_;refine gv (mE (k:=.u64) (W:=18446744073709551616) I I I I oM) I (go9 ?_);refine gv (xC (A:=[]) _ underlying27 sizeOf124 I I I (by rw[uJ oM];omega)) I (wV sizeOf124 I I (by rw[uJ oM];omega) (go4 ?_));refine gv (fN (k:=.u64) (s:=63) (yk:=.u64) I I I (by simp only[ub];omega)) I (go8 ?_);generalize hX:xs.getD C.length 0=X at *;generalize hY:(zB (val ys)).getD C.length 0=Y at *;refine jW (C++[(X+18446744073709551616-(c+Y))%18446744073709551616%4294967296],(X+18446744073709551616-(c+Y))%18446744073709551616/2^63) ?_ ?_ ⟨I,I,I,I,I,?_,trivial⟩ ?_ I
  ·
   have M:C.length<xs.length:=by omega
   refine⟨by simp;omega,uQ O (aK oM),by omega,?_⟩;rw[lAz,List.length_singleton,uX xs _ M,uH (zB (val ys)),rC,Nat.pow_succ,hX,hY];have e:(X+18446744073709551616-(c+Y))%18446744073709551616%4294967296+c+Y=X+4294967296*((X+18446744073709551616-(c+Y))%18446744073709551616/2^63):=by omega
   generalize (X+18446744073709551616-(c+Y))%18446744073709551616/2^63=q at *;generalize (X+18446744073709551616-(c+Y))%18446744073709551616%4294967296=r at *;grind
  ·
   dsimp only;simp;omega
  · exact congrArg some (congrArg vI zo2)
  try dsimp only[List.nil_append,List.cons_append]
  rw[pK oM]
 refine go8 ?_;have hk:C.length=xs.length:=by omega
 rw[bY hk];refine yQ (by exact O) ?_;intro h3 ah ho;refine cL (ev1 I) call196 (λw hs=>jT hs ho) λam h4 ae D=>?_;replace D:=D.2;refine go5 ?_;refine wK I I I ?_;replace hv:=hv.mono (ah.trans ae);rw[if_neg oM];refine⟨_,I,?_⟩;have e:val C=val xs-val ys:=by
  have au:(zB (val ys)).length<=xs.length:=Nat.le_trans (yL aj) (qD hv.lt);rw[wA oM,zE,wA oM] at Z;have h1:=kY O;have h2:c=0:=Classical.byContradiction λar=>by
   have:c=1:=by omega
   subst this;omega
  subst h2;omega
 rw[e] at D;exact D
theorem sU{v v':Value}{xs ys:List Nat}(hv:Us .u32 h0 v xs)(hv':Us .u32 h0 v' ys)(hl:xs.length<=1099511627776)(hl':ys.length<=1099511627776):
 Calls Tryz.prog 165 #[v,v'] w0 (Ret w0 h0 (λh r=>Us .u32 h r (zB (val xs*val ys)))):=by
 have av:Fit xs:=hv.lt;have au:Fit ys:=hv'.lt;refine cb2 69 v v' func165 hs ?_;refine uG ?_;refine gv (vH underlying27 I hv') I (go1 ?_);refine qY (kd:=.u32) (by':=4) (xs.length+ys.length) underlying27 uP I I I I I oM oM oM oM I ?_;intro H;refine uV ?_;refine gcL (ι:=Nat×List Nat) (λ(k,J)=>(k<=xs.length/\J.length=xs.length+ys.length/\Fit J/\val J=val (xs.take k)*val ys/\∀i,k+ys.length<=i->J.getD i 0=0,[(1,v'),(5,H),(17,v),(18,vI ↑xs.length),(19,vI ↑k)],[.us 124 .u32 H J],h0,xs.length-k)) (0,List.replicate (xs.length+ys.length) 0) ?_ ?_
 · exact⟨Nat.zero_le _,by simp,kD _,by rw[bA];simp[val],λi _=>iR _ _⟩
 rintro⟨k,J⟩ ⟨hk,ad,Z,M,hz⟩
 refine yW ?_;refine gc6 (λah=>?_) λah=>?_
 ·
  refine go7 ?_;refine gv (zX _ underlying27 sizeOf124 I I hv I oM) I (go1 ?_);have ap:=hv.get32 k;refine go8 ?_;refine gv (fP (k:=.u32) (q:=0) I I) I (gc2 (λG=>?_) λG=>?_)
  ·
   have aa:xs.getD k 0=0:=G;refine go8 ?_;refine gqL (k+1,J) ?_ ?_
   · exact⟨by omega,ad,Z,by rw[M,uX xs k oM,aa];simp,λi hi=>hz i oM⟩
   omega
  have aa:xs.getD k 0≠0:=G;refine go4 ?_;refine asg (v:=vU .u64 0) I I (go6 ?_);refine gv (vH underlying27 I hv') I (go4 ?_);refine gcL (ι:=Nat×List Nat×Nat) (λ(j,C,c)=>(j<=ys.length/\C.length=xs.length+ys.length/\Fit C/\c<4294967296/\val C+4294967296^(k+j)*c=val J+4294967296^k*(xs.getD k 0*val (ys.take j))/\∀i,k+ys.length<=i->C.getD i 0=0,[(1,v'),(5,H),(6,vI ↑k),(7,vU .u32 (xs.getD k 0)),(8,vU .u64 c),(17,v),(18,vI ↑xs.length),(19,vI ↑k),(26,v'),(27,vI ↑ys.length),(28,vI ↑j)],[.us 124 .u32 H C],h0,ys.length-j)) (0,J,0) ?_ ?_
  · exact⟨Nat.zero_le _,ad,Z,by omega,by simp[val],hz⟩
  rintro⟨j,C,c⟩ ⟨hj,ac,U,aj,ab,O⟩
  refine yW ?_;refine gc6 (λae=>?_) λae=>?_
  ·
   refine go7 ?_;refine gv (zX _ underlying27 sizeOf124 I I hv' I oM) I (gv (xY isAgg124 I hv' oM) I ?_);have ao:=hv'.get32 j;have an:=qV U (k+j);have am:xs.getD k 0*ys.getD j 0<=4294967295*4294967295:=Nat.mul_le_mul oM oM;refine zAG ?_;refine gv (xC (A:=[]) (k+j) underlying27 sizeOf124 I I oM oM) I (gv (fY (A:=[]) isAgg124 I oM) I (tZ ?_));refine gv (xC (A:=[]) (k+j) underlying27 sizeOf124 I I oM oM) I (wV sizeOf124 I I oM (sO ?_));refine gqL (j+1,C.set (k+j) ((c+(xs.getD k 0*ys.getD j 0+C.getD (k+j) 0))%4294967296),(c+(xs.getD k 0*ys.getD j 0+C.getD (k+j) 0))/2^32) ?_ ?_
   ·
    refine⟨by omega,by simp[ac],nI U _ oM,by omega,?_,λi hi=>?_⟩
    · have h1:=lT (xs:=C) (i:=k+j) oM ((c+(xs.getD k 0*ys.getD j 0+C.getD (k+j) 0))%4294967296)
      have e:=Nat.div_add_mod (c+(xs.getD k 0*ys.getD j 0+C.getD (k+j) 0)) 4294967296;have e2:(2:Nat)^32=4294967296:=I;rw[uX ys j oM,e2];have ep:(4294967296:Nat)^(k+(j+1))=4294967296^k*4294967296^j*4294967296:=by rw[<-Nat.add_assoc,Nat.pow_succ,Nat.pow_add]
      rw[ep];rw[Nat.pow_add] at h1 ab;generalize (c+(xs.getD k 0*ys.getD j 0+C.getD (k+j) 0))/4294967296=q at *;generalize (c+(xs.getD k 0*ys.getD j 0+C.getD (k+j) 0))%4294967296=r at *;grind
    · rw[jL oM];exact O i hi
   omega
  refine go9 ?_;refine gv (vH underlying27 I hv') I (go3 ?_);refine gv (xC (A:=[]) (k+ys.length) underlying27 sizeOf124 I I oM oM) I (wV sizeOf124 I I oM (go7 ?_));refine gqL (k+1,C.set (k+ys.length) (c%4294967296)) ?_ ?_
  ·
   have hj:j=ys.length:=by omega
   subst hj;refine⟨by omega,by simp[ac],nI U _ oM,?_,λi hi=>?_⟩
   · have h1:=lT (xs:=C) (i:=k+ys.length) oM (c%4294967296)
     rw[O _ (Nat.le_refl _)] at h1;rw[wA (Nat.le_refl _)] at ab;rw[zoh aj] at h1 ⊢;rw[uX xs k oM];grind
   · rw[jL oM];exact O i oM
  omega
 refine go8 ?_;refine yQ (by exact Z) ?_;intro h1 ar ho;refine cL (ev1 I) call196 (λw hs=>jT hs ho) λak h2 aq D=>?_;replace D:=D.2;refine go4 ?_;refine zC I I ?_;have ai:k=xs.length:=by omega
 rw[M,ai,wA (Nat.le_refl _)] at D;exact D
end
set_option maxRecDepth 100000 in
section
variable{w0:World}{h0:Mem}(hs:MLe h0 (mem w0))
include hs
theorem zHD{x:Nat}(hx:x<4294967296):
 Calls Tryz.prog 197 #[vU .u32 x] w0 (Ret w0 h0 (λ_ r=>r=vI ↑(uK x))):=by
 refine cb1 19 (vU .u32 x) func197 hs ?_;refine go5 ?_;refine qZ (ι:=Nat×Nat) (λ(D,G)=>D<65536/\G<=16/\uK x=uK D+G) (λ(D,G)=>[(0,vU .u32 D),(2,vI ↑G)]) (λ(D,G)=>[]) (λ(D,G)=>h0) ?_ ?_
 ·
  refine go3 ?_;refine gv (cA (k:=.u32) (q:=65536) I I) I (gc2 (λM=>?_) λM=>?_)
  ·
   refine go3 ?_;refine gv (fN (k:=.u32) (s:=16) (yk:=.u64) I I I (by simp only[ub];omega)) I (go6 ?_);refine zS (x/2^16,16) ?_ e2z I I;exact⟨by omega,by omega,zDE M⟩
  refine go1 ?_;refine zS (x,0) ?_ e2z I I;exact⟨by omega,by omega,I⟩
 rintro⟨D,G⟩ ⟨Z,ab,O⟩
 refine yW ?_;refine qZ (ι:=Nat×Nat) (λ(C,H)=>C<256/\H<=24/\uK x=uK C+H) (λ(C,H)=>[(0,vU .u32 C),(2,vI ↑H)]) (λ(C,H)=>[]) (λ(C,H)=>h0) ?_ ?_
 ·
  refine go3 ?_;refine gv (cA (k:=.u32) (q:=256) I I) I (gc2 (λJ=>?_) λJ=>?_)
  ·
   refine go3 ?_;refine gv (fN (k:=.u32) (s:=8) (yk:=.u64) I I I (by simp only[ub];omega)) I (go8 ?_);refine zS (D/2^8,G+8) ?_ ⟨I,?_,trivial⟩ I I
   · exact⟨by omega,by omega,by rw[O,zDE (k:=8) J];omega⟩
   · exact congrArg some (congrArg vI oM)
  refine go1 ?_;refine zS (D,G) ?_ e2z I I;exact⟨by omega,by omega,O⟩
 rintro⟨C,H⟩ ⟨U,aa,ad⟩
 refine yW ?_;refine go4 ?_;refine gv (tF (k:=.u32) (k':=.u8) (W:=256) underlying124 underlying5 I I I) I ?_;have ac:uK C<=8:=mS (k:=8) oM;refine oV (zJ5 (λi=>uK i) (C%256) underlying9 I I I (by decide +kernel) (by show C%256<256;omega)) I I I ?_;rw[zoh U];refine gv (zFT (k:=.u8) underlying5 underlying3 I oM) I (go5 ?_);refine zC I I ?_;exact congrArg vI oM
theorem zUN{x:Nat}(hx:x<4294967296):
 Calls Tryz.prog 210 #[vU .u32 x] w0 (Ret w0 h0 (λ_ r=>r=vI ↑(32-uK x))):=by
 refine cb1 6 (vU .u32 x) func210 hs ?_;refine go8 ?_;refine cL (ev1 I) call197 (λw hs=>zHD hs oM) λv4 h1 D C=>?_;subst C;have G:uK x<=32:=mS (k:=32) oM;refine gv (jD (p:=32) I I oM oM) I (go4 ?_);refine zC I I ?_;exact congrArg vI oM
theorem zBK{v:Value}{xs:List Nat}(hv:Us .u32 h0 v xs)(hl:xs.length<=1099511627776):
 Calls Tryz.prog 162 #[v] w0 (Ret w0 h0 (λ_ r=>r=vI ↑(uK (val xs)))):=by
 refine cb1 20 v func162 hs ?_;refine go8 ?_;refine cL (ev1 I) call196 (λw hs=>jT hs hv) λv4 h1 H C=>?_;replace C:=C.2;replace hv:=hv.mono H;have ab:=qD hv.lt;generalize M:zB (val xs)=AA at *;have O:val AA=val xs:=by rw[<-M,zE]
 have U:Fit AA:=C.lt;refine zC4 (λJ=>?_) λJ=>?_
 ·
  refine go7 ?_;refine zC I I ?_;have h0:AA=[]:=zof oM;rw[<-O,h0];rfl
 refine go6 ?_;have G:0<AA.length:=by omega
 refine go1 ?_;refine gv (gP (p:=32) I I oM oM) I (go4 ?_);refine gv (zX (AA.length-1) underlying27 sizeOf124 I I C oM oM) I (go1 ?_);have aa:=qV U (AA.length-1);have hb:=mS (n:=AA.getD (AA.length-1) 0) (k:=32) oM;refine cL (ev1 I) call197 (λw hs=>zHD hs oM) λZ h2 ac D=>?_;subst D;refine go5 ?_;refine zC I I ?_;rw[<-O,zDD U (k:=AA.length-1) oM (by rw[<-M];exact sW (by rw[M];exact G))];exact congrArg vI oM
theorem zMZ{v:Value}{xs:List Nat}(hv:Us .u32 h0 v xs)(hl:xs.length<=2):
 Calls Tryz.prog 208 #[v] w0 (Ret w0 h0 (λ_ r=>r=vU .u64 (val xs))):=by
 have H:Fit xs:=hv.lt;refine cb1 21 v func208 hs ?_;refine go2 ?_;refine asg (v:=vU .u64 0) I I (go4 ?_);refine asg (v:=vU .u64 0) I I (uV ?_);have D:val (xs.drop xs.length)=0:=by rw[List.drop_of_length_le (Nat.le_refl _)];rfl
 refine gG (ι:=Nat) (λ(j:(Nat))=>j<=xs.length) (λ(j:(Nat))=>[(0,v),(3,vU .u64 (val (xs.drop j))),(4,vI (↑j-1))]) (λ(j:(Nat))=>[]) (λ(j:(Nat))=>h0) (λ(j:(Nat))=>j) xs.length ?_ ⟨?_,?_,?_,trivial⟩ I I ?_
 · exact Nat.le_refl _
 · exact I
 · exact congrArg some (congrArg (vU .u64) D.symm)
 · exact I
 rintro j J
 refine yW ?_;refine gc7 (λG=>?_) λG=>?_
 ·
  refine go6 ?_;refine gv (fO (k:=.u64) (s:=32) (yk:=.u64) (W:=18446744073709551616) I I I I) I (go2 ?_);refine gv (zX (j-1) underlying27 sizeOf124 I I hv oM oM) I (go1 ?_);have C:=hv.get32 (j-1);refine go1 ?_;refine gv (rS (k:=.u64) I I I (by simp only[ub];omega) (by simp only[ub];omega)) I ?_;rw[cD (by
   have h2:=kY (iS H j);rw[List.length_drop] at h2;have h3:(4294967296:Nat)^(xs.length-j)<=4294967296^1:=Nat.pow_le_pow_right oM oM;omega) C]
  refine go9 ?_;refine jW (j-1) ?_ ?_ ⟨I,?_,?_,trivial⟩ I I
  · omega
  · omega
  ·
   rw[kE xs (j-1) oM];exact congrArg some (congrArg (vU .u64) (by rw[show j-1+1=j by omega];omega))
  · exact congrArg some (congrArg vI oM)
 refine uV ?_;refine zC I I ?_;rw[show j=0 by omega];rfl
theorem zTV{v:Value}{xs:List Nat}{b:Nat}(hv:Us .u32 h0 v xs)(hb:0<b)(hb':b<4294967296)(hl:xs.length<=1099511627776):
 Calls Tryz.prog 209 #[v,vU .u32 b] w0 (Ret w0 h0 (λh r=>∃u,r=.tuple #[u,vU .u32 (val xs%b)]/\Us .u32 h u (zB (val xs/b)))):=by
 have hf:Fit xs:=hv.lt;refine cb2 43 v (vU .u32 b) func209 hs ?_;refine go3 ?_;refine asg (v:=vU .u32 0) I I (go6 ?_);refine qY (kd:=.u32) (by':=4) _ underlying27 uP I I I I I I I oM oM I ?_;intro H;refine go5 ?_;refine asg (v:=vU .u64 0) I I (uV ?_);refine gG (ι:=Nat×List Nat×Nat) (λ(j,D,r)=>j<=xs.length/\D.length=xs.length-j/\Fit D/\r<b/\val (xs.drop j)=b*val D+r) (λ(j,D,r)=>[(0,v),(1,vU .u32 b),(6,H),(7,vU .u64 r),(8,vI (↑j-1))]) (λ(j,D,r)=>[.us 124 .u32 H (fE j D)]) (λ(j,D,r)=>h0) (λ(j,D,r)=>j) (xs.length,[],0) ?_ e5 ?_ I ?_
 · exact⟨Nat.le_refl _,by simp,λx hx=>by simp at hx,hb,by rw[List.drop_of_length_le (Nat.le_refl _)];rfl⟩
 ·
  try dsimp only[List.nil_append,List.cons_append]
  exact congrArg (λz=>[Res.us 124 .u32 H z]) (lJ _)
 rintro⟨j,D,r⟩ ⟨hj,ab,J,U,C⟩
 refine yW ?_;refine gc7 (λM=>?_) λM=>?_
 ·
  refine go7 ?_;refine gv (fO (k:=.u64) (s:=32) (yk:=.u64) (W:=18446744073709551616) I I I I) I (go2 ?_);refine gv (zX (j-1) underlying27 sizeOf124 I I hv oM oM) I (go1 ?_);have O:=hv.get32 (j-1);refine go1 ?_;refine gv (rS (k:=.u64) I I I (by simp only[ub];omega) (by simp only[ub];omega)) I ?_;rw[cD oM O];generalize ht:r*4294967296+xs.getD (j-1) 0=t at *;have hq:t/b<4294967296:=Nat.div_lt_of_lt_mul (by rw[<-ht];have h1:(r+1)*4294967296<=b*4294967296:=Nat.mul_le_mul_right _ U;omega);refine uG ?_;refine gv (bQ (k:=.u64) (W:=18446744073709551616) I I I I oM oM) I (gv (vJ (k:=.u64) (k':=.u32) (W:=4294967296) underlying125 underlying124 I I I oM) I (gv (xC (A:=[]) (j-1) underlying27 sizeOf124 I I oM (by rw[jG];omega)) I (wV sizeOf124 I I (by rw[jG];omega) (go6 ?_))));refine gv (bP (k:=.u64) I I oM) I (go9 ?_);refine jW (j-1,t/b::D,t%b) ?_ ?_ ⟨I,I,I,I,?_,trivial⟩ ?_ I
  ·
   refine⟨by omega,by simp only[lC];omega,rN.2 ⟨hq,J⟩,Nat.mod_lt _ hb,?_⟩;rw[kE xs (j-1) oM,show j-1+1=j by omega,val];exact zE7 C ht.symm I I
  ·
   dsimp only;omega
  · exact congrArg some (congrArg vI oM)
  try dsimp only[List.nil_append,List.cons_append]
  rw[lI oM]
 refine go8 ?_;have Z:j=0:=by omega
 subst Z;rw[bZ];refine yQ (by exact J) ?_;intro h1 ad ho;refine cL (ev1 I) call196 (λw hs=>jT hs ho) λaa h2 ac G=>?_;replace G:=G.2;refine go1 ?_;refine gv (vJ (k:=.u64) (k':=.u32) (W:=4294967296) underlying125 underlying124 I I I oM) I (go5 ?_);refine wK I I I ?_;simp only[List.drop_zero] at C;have e1:val xs/b=val D:=by rw[C,Nat.mul_add_div hb,Nat.div_eq_of_lt U];omega
 have e2:val xs%b=r:=by rw[C,Nat.mul_add_mod,zoh U]
 rw[e1,e2];exact⟨_,I,G⟩
theorem zIX{v:Value}{xs:List Nat}{s:Nat}(hv:Us .u32 h0 v xs)(hs32:s<32)(hl:xs.length<=1099511627776):
 Calls Tryz.prog 211 #[v,vI ↑s] w0 (fW w0 h0 (λ_ r L=>∃us,L=[.us 124 .u32 r us]/\us.length=xs.length+1/\Fit us/\val us=val xs*2^s)):=by
 have hf:Fit xs:=hv.lt;have hp:2^s<=2147483648:=Nat.pow_le_pow_right (n:=2) oM (show s<=31 by omega);have M:0<2^s:=Nat.pow_pos oM;refine cb2 41 v (vI ↑s) func211 hs ?_;refine uG ?_;refine qY (kd:=.u32) (by':=4) (xs.length+1) underlying27 uP I I I I I oM oM oM oM I ?_;intro D;refine go5 ?_;refine asg (v:=vU .u64 0) I I (qM ?_);refine gG (ι:=List Nat×Nat) (λ(C,c)=>C.length<=xs.length/\Fit C/\c<2^s/\val C+4294967296^C.length*c=val (xs.take C.length)*2^s) (λ(C,c)=>[(0,v),(1,vI ↑s),(5,D),(6,vU .u64 c),(13,v),(14,vI ↑xs.length),(15,vI ↑C.length)]) (λ(C,c)=>[.us 124 .u32 D (tT C (xs.length+1))]) (λ(C,c)=>h0) (λ(C,c)=>xs.length-C.length) ([],0) ?_ e7 I I ?_
 · exact⟨by simp,λx hx=>by simp at hx,M,by simp[val]⟩
 rintro⟨C,c⟩ ⟨aa,H,hc,G⟩
 refine yW ?_;refine gc6 (λJ=>?_) λJ=>?_
 ·
  refine go7 ?_;refine gv (zX _ underlying27 sizeOf124 I I hv I oM) I (go1 ?_);have Z:=hv.get32 C.length;have U:xs.getD C.length 0*2^s<18446744073709551616-4294967296:=by
   have:=Nat.mul_le_mul (show xs.getD C.length 0<=4294967295 by omega) hp;omega
  refine uG ?_;refine gv (fO (k:=.u64) (s:=s) (yk:=.i64) (W:=18446744073709551616) I I I I) I ?_;rw[zoh oM];refine gv (rS (k:=.u64) I I I (by simp only[ub];omega) (by simp only[ub];omega)) I ?_;rw[zO9 hc];refine go9 ?_;refine gv (xC (A:=[]) _ underlying27 sizeOf124 I I I (by rw[uJ oM];omega)) I (wV sizeOf124 I I (by rw[uJ oM];omega) (sO ?_));refine jW (C++[(xs.getD C.length 0*2^s+c)%4294967296],(xs.getD C.length 0*2^s+c)/2^32) ?_ ?_ ⟨I,I,I,I,I,I,?_,trivial⟩ ?_ I
  ·
   refine⟨by simp;omega,uQ H (aK oM),?_,?_⟩
   · refine Nat.div_lt_of_lt_mul ?_
     have:=Nat.mul_le_mul_right (2^s) (show xs.getD C.length 0+1<=2^32 by omega);rw[Nat.add_mul] at this;omega
   · have e:=Nat.div_add_mod (xs.getD C.length 0*2^s+c) 4294967296
     have e2:(2:Nat)^32=4294967296:=I;rw[lAz,List.length_singleton,uX xs _ oM,rC,Nat.pow_succ,e2];generalize (xs.getD C.length 0*2^s+c)/4294967296=q at *;generalize (xs.getD C.length 0*2^s+c)%4294967296=r at *;grind
  ·
   dsimp only;simp;omega
  · exact congrArg some (congrArg vI zo2)
  try dsimp only[List.nil_append,List.cons_append]
  rw[pK oM]
 refine uV ?_;refine gv (xC (A:=[]) (xs.length) underlying27 sizeOf124 I I zo3 (by rw[uJ oM];omega)) I (wV sizeOf124 I I (by rw[uJ oM];omega) (go9 ?_));refine qF I I ?_;have O:C.length=xs.length:=by omega
 refine⟨C++[c],?_,by simp[O],uQ H (aK oM),?_⟩
 · rw[<-O,pK oM,bY zo2,zoh oM]
 · rw[rC,G,wA oM]
end
set_option maxHeartbeats 2000000 in
section
variable{w0:World}{h0:Mem}(hs:MLe h0 (mem w0))
include hs
theorem zEM{v v':Value}{xs ys:List Nat}(hv:Us .u32 h0 v xs)(hv':Us .u32 h0 v' ys)(hl:xs.length<=1099511627776)(hl':ys.length<=1099511627776):
 Calls Tryz.prog 190 #[v,v'] w0 (Ret w0 h0 (λh z=>∃q r,z=.tuple #[q,r,vI (if val ys=0 then 3 else 0)]/\Us .u32 h q (zB (val xs/val ys))/\Us .u32 h r (zB (if val ys=0 then 0 else val xs%val ys)))):=by
 have er:Fit xs:=hv.lt;have eq:Fit ys:=hv'.lt;have gf:=qD er;have ge:=qD eq;refine cb2 300 v v' func190 hs ?_;refine zQ (zF (asg I I (asg I I (asg (v:=vI (0)) I I (yB (zH (zQ (zF (mv I I (cL (ev1 I) call196 (λw hs=>jT hs hv) λfu h1 en G=>?_))))))))));replace G:=G.2;refine mv I I ?_;replace hv':=hv'.mono en;refine cL (ev1 I) call196 (λw hs=>jT hs hv') λft h2 em D=>?_;replace D:=D.2;refine asg I I (asg I I (yB (zH (zQ (vQ (zQ (zF (mv I I (gv (vH underlying27 I D) I (gv (bS (q:=0) I I) I (asg I I (yB (vO (e':=[(0,_),(1,_),(30,_)]) e3z ?_)))))))))))));refine zH ?_;refine cnd (λdu=>?_) λdu=>?_
 ·
  have ea:val ys=0:=Classical.byContradiction λej=>by have:=yP.2 ej;omega
  refine zQ (zF (asg I I (asg I I (asg (v:=vI (3)) I I (yB (zH (lG (zRM (nG (uN I I I I ?_))))))))));rw[ea,Nat.div_zero,if_pos I,if_pos I,xK];exact⟨_,_,I,Us.nil _ _,Us.nil _ _⟩
 have ay:val ys≠0:=yP.1 oM;refine zQ (zF (mv I I (mv I I ?_)));replace G:=G.mono em;refine cL (ev2 I I) call204 (λw hs=>zEN hs G D) λfs h3 bk de=>?_;subst de;rw[zE,zE];refine gv (yJ (q:=0) I I) I (asg I I (yB (zH ?_)));refine cnd (λbf=>?_) λbf=>?_
 ·
  have di:=rO.1 bf;refine zQ (zF (mv I I ?_));replace G:=G.mono bk;refine qA (vs:=[_]) I I I I call207 ⟨I,trivial⟩ (λw hs=>zE8 hs G oM) ?_;intro fr h4 gy bj dd;obtain rfl:=dd;refine asg I I (asg I I (yQ (by exact wO _) ?_));intro h5 bi ho;refine asg (v:=vI (0)) I I (yB (vO (e':=[(4,_),(5,_),(6,_)]) e3z (zH (lG (zRM (nG (uN I I I I ?_)))))));rw[Nat.div_eq_of_lt di,zoh di,if_neg oM,if_neg oM,xK];exact⟨_,_,I,Us.nil _ _,ho⟩
 have ep:val ys<=val xs:=Nat.le_of_not_lt λhc=>bf (rO.2 hc);refine zQ (zF (mv I I ?_));replace D:=D.mono bk;refine gv (vH underlying27 I D) I (gv (bS (q:=1) I I) I (asg I I (yB (zH ?_))));refine cnd (λdt=>?_) λdt=>?_
 ·
  have bq:(zB (val ys)).length=1:=by omega
  have dv:(zB (val ys)).getD 0 0≠0:=by have:=sW (n:=val ys) oM;rwa [bq] at this
  have bs:=zAO bq;rw[zE] at bs;refine zK2 (e':=[(0,_),(1,_)]) e2z (zQ (zF (mv I I (mv I I (gv (zX (q:=0) (0) underlying27 sizeOf124 I I D I oM) I (gv (xY isAgg124 I D oM) I ?_))))));have cg:=D.get32 0;replace G:=G.mono bk;refine cL (ev2 I I) call209 (λw hs=>zTV hs G oM oM oM) λfq h4 bj dc=>?_;obtain⟨fv,rfl,aq⟩:=dc;refine mv I I (gv (gY (vs:=[_,_]) I I) I (gv (gY (vs:=[_,_]) I I) I (asg I I (asg I I (yB (vO (e':=[(7,_),(8,_)]) e2z (zH (zQ (zF (mv I I (mv I I (zG (pF (kd:=.u32) underlying27 uP I I I) I I I ?_))))))))))));intro fp fw db;obtain rfl:=db;refine yQ (by intro z hz;simp only[List.mem_singleton] at hz;subst hz;exact Nat.lt_trans (Nat.mod_lt _ oM) cg) ?_;intro h5 bi dp;refine cL (ev1 I) call196 (λw hs=>jT hs dp) λfo h6 dl ar=>?_;replace ar:=ar.2;refine asg I I (asg I I (asg (v:=vI (0)) I I (yB (zH (lG (zRM (nG (uN I I I I ?_))))))));replace aq:=aq.mono (bi.trans dl);rw[zE,<-bs] at aq;rw[zAO I,List.getD_cons_zero,zE,<-bs] at ar;rw[if_neg oM,if_neg oM];exact⟨_,_,I,aq,ar⟩
 have df:2<=(zB (val ys)).length:=by omega
 refine zK2 (e':=[(0,_),(1,_)]) e2z (qK (rK (zH (zQ (zF (mv I I (mv I I (gv (vH underlying27 I D) I (gv (jD (q:=1) I I oM oM) I (gv (zX ((zB (val ys)).length-1) underlying27 sizeOf124 I I D oM oM) I (gv (xY isAgg124 I D oM) I ?_)))))))))));have hgt:=D.get32 ((zB (val ys)).length-1);refine cL (ev1 I) call210 (λw hs=>zUN hs oM) λfm h4 bj da=>?_;subst da;obtain⟨s,cu⟩:∃s,s=32-uK ((zB (val ys)).getD ((zB (val ys)).length-1) 0):=⟨_,I⟩;rw[<-cu];obtain⟨ff,av,ee⟩:=zF9 (k:=(zB (val ys)).length-1) ay oM cu;refine asg I I (yB (zH (zQ (zF (mv I I (mv I I ?_))))));replace G:=G.mono (bk.trans bj);refine qA (vs:=[_,_]) I I I I call211 e2z (λw hs=>zIX hs G oM oM) ?_;intro M h5 gx bi cz;obtain⟨bn,rfl,bb,bc,ah⟩:=cz;refine mv I I (mv I I ?_);replace D:=D.mono (bj.trans bi);refine qA (vs:=[_,_]) I I I I call211 e2z (λw hs=>zIX hs D oM oM) ?_;intro fl h6 gw dl cy;obtain⟨fd,rfl,ef,bv,bu⟩:=cy;refine yQ (by exact bv) ?_;intro h7 gj ed;refine cL (ev1 I) call196 (λw hs=>jT hs ed) λai h8 gh C=>?_;replace C:=C.2;rw[bu,zE] at C;refine asg I I (asg I I ?_);rw[zE] at ah;have fg:=yL ep;have br:=kY (wO (val xs));rw[zE] at br;have ev:=sZ (n:=val ys) (k:=(zB (val ys)).length-1) oM;have bx:=zUG bc br ah (k:=(zB (val ys)).length-1) oM ev;rw[show(zB (val xs)).length-((zB (val ys)).length-1)=(zB (val xs)).length+1-(zB (val ys)).length by omega] at bx;have az:=zE (val ys*2^s);have bl:Fit (zB (val ys*2^s)):=wO _;replace av:(zB (val ys*2^s)).length=(zB (val ys)).length:=by omega
 generalize zB (val ys*2^s)=vs at *;generalize gc:(zB (val ys)).length=n at *;generalize fh:(zB (val xs)).length=la at *;obtain⟨V,hV⟩:∃V,V=val ys*2^s:=⟨_,I⟩;obtain⟨U,hU⟩:∃U,U=val xs*2^s:=⟨_,I⟩;rw[<-hV] at az bx;rw[<-hU] at ah;have ew:V<4294967296^n:=by rw[<-az,<-av];exact kY bl
 have ao:=zQN df av;rw[az] at ao;have ba:=kY (fV bl (n-2));rw[List.length_take,Nat.min_eq_left oM] at ba;have bt:=qV bl (n-2);have cp:=qV bl (n-1);refine yB (vO (e':=[(9,_),(10,_),(11,_)]) e3z (zH (zQ (zF (mv I I (gv (vH underlying27 I C) I ?_))))));rw[av];refine asg I I (yB (zH (zQ (zF (mv I I (gv (rY (A:=[]) underlying27 I) I ?_))))));rw[bb];refine mv I I (gv (jD I I oM oM) I (qY (kd:=.u32) (by':=4) (la+1-n) underlying27 uP I I I I I oM oM oM oM I ?_));intro H;refine asg I I (yB (zH (zQ (zQ (zF (mv I I (gv (rY (A:=[]) underlying27 I) I ?_)))))));rw[lR];refine gv (jD (q:=1) I I oM oM) I (asg I I (yB (vO (e':=[(9,_),(10,_),(11,_),(12,_),(4,_),(13,_)]) e6z (zH (vQ ?_)))));refine gG (ι:=Nat×List Nat×List Nat) (λ(J,us,qs)=>J<=la+1-n/\qs.length=la+1-n-J/\Fit qs/\us.length=la+1/\Fit us/\val us+4294967296^J*(val qs*V)=U/\val (us.drop J)<V) (λ(J,us,qs)=>[(4,H),(9,vI ↑s),(10,M),(11,ai),(12,vI ↑n),(13,vI (↑J-1))]) (λ(J,us,qs)=>[.us 124 .u32 H (fE J qs),.us 124 .u32 M us]) (λ(J,us,qs)=>h8) (λ(J,us,qs)=>J) (la+1-n,bn,[]) ?_ e6z ?_ I ?_
 · exact⟨Nat.le_refl _,by simp,λx hx=>by simp at hx,bb,bc,by rw[ah];simp[val],bx⟩
 ·
  try dsimp only[List.nil_append,List.cons_append]
  exact congrArg (λz=>[Res.us 124 .u32 H z,Res.us 124 .u32 M bn]) (lJ _)
 rintro⟨J,us,qs⟩ ⟨fk,ga,dq,eg,aa,ap,ca⟩
 refine yW ?_;refine zQ (zQ (zF (mv I I (gv (rJ (q:=0) I I) I (yB (zH ?_))))));refine cnd (λdr=>?_) λdr=>?_
 ·
  refine qK (zH (zQ (vQ (zQ ?_))));have hJ:1<=J:=by omega
  have ci:∀i,J+n<=i->us.getD i 0=0:=λi hi=>eO (zEW aa (Nat.lt_trans ca ew)) hi;obtain⟨wr,hW,cn⟩:=zH6 (j:=J-1) df (λi hi=>ci i oM) aa;have gq:=qV aa (J-1+n);have go:=qV aa (J-1+n-1);have eu:=qV aa (J-1+n-2);have gr:=qV aa (J-1);have dw:val (us.drop (J-1))<4294967296*V:=by
   rw[kE us (J-1) oM,Nat.sub_add_cancel hJ];omega
  refine zK 18 _ [] [(0,.q),(1,.q),(2,.q),(3,.q),(4,.q),(5,.q),(6,.q),(7,.q),(8,.q),(9,.q),(10,.q),(11,.q),(12,.q),(13,.q),(14,.q),(15,.q),(16,.q),(17,.q)] yA nX zou nX (λr hr=>hr) (qQ I I I (qQ I I I (qQ I I I (wI I (λ_ _=>zR I I oM oM) I (w_q I (λh' L' hh hR=>gX (hR _ mh1) (J-1+n) underlying27 sizeOf124 I I oM oM) I (w_q I (λh' L' hh hR=>sS (hR _ mh1) isAgg124 I oM) I (wI I (λ_ _=>vJ (k:=.u32) (k':=.u64) (W:=18446744073709551616) underlying124 underlying125 I I I oM) I (wI I (λ_ _=>fO (k:=.u64) (s:=32) (yk:=.u64) (W:=18446744073709551616) I I I I) I (qQ I I I (qQ I I I (qQ I I I (wI I (λ_ _=>zR I I oM oM) I (wI I (λ_ _=>jD (q:=1) I I oM oM) I ?_)))))))))))));refine w_q I (λh' L' hh hR=>gX (hR _ mh1) (J-1+n-1) underlying27 sizeOf124 I I oM oM) I (w_q I (λh' L' hh hR=>sS (hR _ mh1) isAgg124 I oM) I (wI I (λ_ _=>vJ (k:=.u32) (k':=.u64) (W:=18446744073709551616) underlying124 underlying125 I I I oM) I (wI I (λ_ _=>rS (k:=.u64) I I I (by simp only[ub];omega) (by simp only[ub];omega)) I ?_)));rw[cD oM oM];obtain⟨top,bo⟩:∃t,t=us.getD (J-1+n) 0*4294967296+us.getD (J-1+n-1) 0:=⟨_,I⟩;rw[<-bo];rw[<-bo] at hW;have am:=yCT ao hW ba bt dw;refine zLH I I I (cK (vO (e':=[(4,_),(9,_),(10,_),(11,_),(12,_),(13,_),(14,_)]) e7 (zH (zQ ?_))));refine zK 18 _ [] [(0,.q),(1,.q),(2,.q),(3,.q),(4,.q),(5,.q),(6,.q),(7,.q),(8,.q),(9,.q),(10,.q),(11,.q),(12,.q),(13,.q),(14,.q),(15,.q),(16,.q),(17,.q)] yA nX zou nX (λr hr=>hr) (qQ I I I (qQ I I I (qQ I I I (wI I (λ_ _=>jD (q:=1) I I oM oM) I (w_q I (λh' L' hh hR=>zX (n-1) underlying27 sizeOf124 I I (C.mono hh) oM oM) I (w_q I (λh' L' hh hR=>xY isAgg124 I (C.mono hh) oM) I (wI I (λ_ _=>vJ (k:=.u32) (k':=.u64) (W:=18446744073709551616) underlying124 underlying125 I I I oM) I (wI I (λ_ _=>bQ (k:=.u64) (W:=18446744073709551616) I I I I oM oM) I (qQ I I I (qQ I I I (qQ I I I (wI I (λ_ _=>jD (q:=1) I I oM oM) I (w_q I (λh' L' hh hR=>zX (n-1) underlying27 sizeOf124 I I (C.mono hh) oM oM) I ?_)))))))))))));refine w_q I (λh' L' hh hR=>xY isAgg124 I (C.mono hh) oM) I (wI I (λ_ _=>vJ (k:=.u32) (k':=.u64) (W:=18446744073709551616) underlying124 underlying125 I I I oM) I (wI I (λ_ _=>bP (k:=.u64) I I oM) I (zLH I I I (zLH I I I (cK (vO (e':=[(4,_),(9,_),(10,_),(11,_),(12,_),(13,_),(15,_),(16,_)]) e8 (zH ?_)))))));refine qZ (ι:=Nat) (λ(x1:(Nat))=>x1<4294967296/\val (us.drop (J-1))<(x1+1)*V/\x1*V<val (us.drop (J-1))+V) (λ(x1:(Nat))=>[(4,H),(9,vI ↑s),(10,M),(11,ai),(12,vI ↑n),(13,vI (↑J-1)),(15,vU .u64 x1)]) (λ(x1:(Nat))=>[.us 124 .u32 H (fE J qs),.us 124 .u32 M us]) (λ(x1:(Nat))=>h8) ?_ ?_
  ·
   refine vQ ?_;refine gcL (ι:=Nat×Nat) (λ(x,r)=>(x*vs.getD (n-1) 0+r=top/\val (us.drop (J-1))<(x+1)*V/\r<4294967296,[(4,H),(9,vI ↑s),(10,M),(11,ai),(12,vI ↑n),(13,vI (↑J-1)),(15,vU .u64 x),(16,vU .u64 r)],[.us 124 .u32 H (fE J qs),.us 124 .u32 M us],h8,x)) (top/vs.getD (n-1) 0,top%vs.getD (n-1) 0) ?_ ?_
   · exact⟨by rw[Nat.mul_comm];exact Nat.div_add_mod _ _,zNL ao hW eu cn oM,Nat.lt_trans (Nat.mod_lt _ oM) cp⟩
   rintro⟨x,r⟩ ⟨ak,eb,fz⟩
   refine yW ?_;have ec:=yID ak am ee;have fy:x*vs.getD (n-2) 0<=4294967297*4294967295:=Nat.mul_le_mul ec oM;refine zQ (zQ ?_);refine zYT (4294967296<=x) (λhg=>?_) (λhg=>?_)
   ·
    have ae:1<=x:=by omega
    have aj:val (us.drop (J-1))<x*V:=Nat.lt_of_lt_of_le dw (Nat.mul_le_mul_right _ hg);refine zK 24 _ [] [(0,.q),(1,.q),(2,.q),(3,.q),(4,.q),(5,.q),(6,.q),(7,.q),(8,.q),(9,.q),(10,.q),(11,.q),(12,.q),(13,.q),(14,.q),(15,.q),(16,.q),(17,.q),(18,.q),(19,.q),(20,.q),(21,.q),(22,.q),(23,.q)] yA nX zou nX (λr hr=>hr) (qQ I I I (wI I (λ_ _=>cA (k:=.u64) (q:=4294967296) I I) I (wI I (λ_ _=>yZ (v:=.bool true) (congrArg some (xM hg))) I (vW I I I I I (vW I I I I I (vW I I I I I (vW I I I I I (vW I I I I I (vW I I I I I (vW I I I I I (vW I I I I I (vW I I I I I (vW I I I I I ?_)))))))))))));refine vW I I I I I (vW I I I I I (vW I I I I I (vW I I I I I (vW I I I I I (vW I I I I I (vW I I I I I (vW I I I I I (vW I I I I I (vW I I I I I (wI I (λ_ _=>cT I I) I (cK (vO (e':=[(4,_),(9,_),(10,_),(11,_),(12,_),(13,_),(15,_),(16,_),(141,_)]) ⟨I,I,I,I,I,I,I,I,I,trivial⟩ (zH ?_)))))))))))));refine zI4 I (qK (zH (vQ (zQ (zF (mv I I (gv (aX (k:=.u64) (q:=1) (W:=18446744073709551616) I I I I oM oM) I (asg I I (yB (zH (zQ (zF (mv I I ?_)))))))))))));refine mv I I (mv I I (gv (jD (q:=1) I I oM oM) I (gv (zX (n-1) underlying27 sizeOf124 I I C oM oM) I (gv (xY isAgg124 I C oM) I (gv (vJ (k:=.u32) (k':=.u64) (W:=18446744073709551616) underlying124 underlying125 I I I oM) I (gv (sG (k:=.u64) (W:=18446744073709551616) I I I I oM) I (asg I I (yB (vO (e':=[(4,_),(9,_),(10,_),(11,_),(12,_),(13,_),(15,_),(16,_)]) e8 (zH (zQ (zF (mv I I ?_)))))))))))));refine gv (cA (k:=.u64) (q:=4294967296) I I) I (yB (zH ?_));refine cnd (λad=>?_) λad=>?_
    ·
     refine fI (zKW I (qE (fH ?_)));refine zS (x-1) ?_ e7 I I;obtain⟨b1,b2⟩:=zI8 (x:=x-1) ao hW ba bt (zB0 ak ae) ad am oM;exact⟨b1,by rw[Nat.sub_add_cancel ae];exact aj,by omega⟩
    refine qK (rK ?_);refine gqL (x-1,r+vs.getD (n-1) 0) ?_ ?_
    · exact⟨zB0 ak ae,by rw[Nat.sub_add_cancel ae];exact aj,by omega⟩
    omega
   refine zK 24 _ [] [(0,.q),(1,.q),(2,.q),(3,.q),(4,.q),(5,.q),(6,.q),(7,.q),(8,.q),(9,.q),(10,.q),(11,.q),(12,.q),(13,.q),(14,.q),(15,.q),(16,.q),(17,.q),(18,.q),(19,.q),(20,.q),(21,.q),(22,.q),(23,.q)] yA nX zou nX (λr hr=>hr) (qQ I I I (wI I (λ_ _=>cA (k:=.u64) (q:=4294967296) I I) I (wI I (λ_ _=>yZ (v:=.bool false) (congrArg some (yH hg))) I (yS I I I (λh' L' hh hR=>yZ I) I (yS I I I (λh' L' hh hR=>yZ I) I (yS I I I (λh' L' hh hR=>yZ I) I (yS I I I (λh' L' hh hR=>jD (q:=2) I I oM oM) I (yS I I I (λh' L' hh hR=>zX (n-2) underlying27 sizeOf124 I I (C.mono hh) oM oM) I (yS I I I (λh' L' hh hR=>xY isAgg124 I (C.mono hh) oM) I (yS I I I (λh' L' hh hR=>vJ (k:=.u32) (k':=.u64) (W:=18446744073709551616) underlying124 underlying125 I I I oM) I (yS I I I (λh' L' hh hR=>iF (k:=.u64) (W:=18446744073709551616) I I I I oM) I (yS I I I (λh' L' hh hR=>yZ I) I (yS I I I (λh' L' hh hR=>fO (k:=.u64) (s:=32) (yk:=.u64) (W:=18446744073709551616) I I I I) I ?_)))))))))))));refine yS I I I (λh' L' hh hR=>yZ I) I (yS I I I (λh' L' hh hR=>yZ I) I (yS I I I (λh' L' hh hR=>yZ I) I (yS I I I (λh' L' hh hR=>zR I I oM oM) I (yS I I I (λh' L' hh hR=>jD (q:=2) I I oM oM) I (yS I I I (λh' L' hh hR=>gX (hR _ mh1) (J-1+n-2) underlying27 sizeOf124 I I oM oM) I (yS I I I (λh' L' hh hR=>sS (hR _ mh1) isAgg124 I oM) I (yS I I I (λh' L' hh hR=>vJ (k:=.u32) (k':=.u64) (W:=18446744073709551616) underlying124 underlying125 I I I oM) I (yS I I I (λh' L' hh hR=>rS (k:=.u64) I I I (by simp only[ub];omega) (by simp only[ub];omega)) I ?_))))))));rw[cD oM oM];refine yS I I I (λh' L' hh hR=>mG (k:=.u64) I I) I (wI I (λ_ _=>cV I I) I (cK (vO (e':=[(4,_),(9,_),(10,_),(11,_),(12,_),(13,_),(15,_),(16,_),(141,_)]) ⟨I,I,I,I,I,I,I,I,I,trivial⟩ (zH ?_))));refine cnd (λan=>?_) λan=>?_
   ·
    have ae:1<=x:=Nat.pos_of_ne_zero λh0=>by rw[h0,Nat.zero_mul] at an;omega
    have aj:val (us.drop (J-1))<x*V:=yCU ao hW cn ak an;refine qK (zH (vQ (zQ (zF (mv I I (gv (aX (k:=.u64) (q:=1) (W:=18446744073709551616) I I I I oM oM) I (asg I I (yB (zH (zQ (zF (mv I I (mv I I ?_)))))))))))));refine mv I I (gv (jD (q:=1) I I oM oM) I (gv (zX (n-1) underlying27 sizeOf124 I I C oM oM) I (gv (xY isAgg124 I C oM) I (gv (vJ (k:=.u32) (k':=.u64) (W:=18446744073709551616) underlying124 underlying125 I I I oM) I (gv (sG (k:=.u64) (W:=18446744073709551616) I I I I oM) I (asg I I (yB (vO (e':=[(4,_),(9,_),(10,_),(11,_),(12,_),(13,_),(15,_),(16,_)]) e8 (zH (zQ (zF (mv I I (gv (cA (k:=.u64) (q:=4294967296) I I) I ?_)))))))))))));refine yB (zH ?_);refine cnd (λad=>?_) λad=>?_
    ·
     refine fI (zKW I (qE (fH ?_)));refine zS (x-1) ?_ e7 I I;obtain⟨b1,b2⟩:=zI8 (x:=x-1) ao hW ba bt (zB0 ak ae) ad am oM;exact⟨b1,by rw[Nat.sub_add_cancel ae];exact aj,by omega⟩
    refine qK (rK ?_);refine gqL (x-1,r+vs.getD (n-1) 0) ?_ ?_
    · exact⟨zB0 ak ae,by rw[Nat.sub_add_cancel ae];exact aj,by omega⟩
    omega
   refine fI (qE (qE (fH ?_)));refine zS (x) ?_ e7 I I;exact⟨by omega,eb,zY2 ao hW ba oM ak oM oM⟩
  rintro x1 ⟨cm,cj,ck⟩
  refine yW ?_;refine zQ (zF (asg (v:=vU .u64 0) I I (asg (v:=vU .u64 0) I I (yB (zH (zQ (zQ (zF (mv I I (gv (vH underlying27 I C) I ?_))))))))));rw[av];refine mv (v:=vI (0)) I I (yB (zH (vQ ?_)));refine gG (ι:=Nat×List Nat×Nat×Nat) (λ(i,ts,b,c)=>i<=n/\ts.length=la+1/\Fit ts/\c<4294967296/\b<=1/\val ts+4294967296^(J-1)*(x1*val (vs.take i))=val us+4294967296^(J-1+i)*(c+b)/\∀k,J-1+i<=k->ts.getD k 0=us.getD k 0) (λ(i,ts,b,c)=>[(4,H),(9,vI ↑s),(10,M),(11,ai),(12,vI ↑n),(13,vI (↑J-1)),(15,vU .u64 x1),(17,vU .u64 b),(18,vU .u64 c),(154,ai),(155,vI ↑n),(156,vI ↑i)]) (λ(i,ts,b,c)=>[.us 124 .u32 H (fE J qs),.us 124 .u32 M ts]) (λ(i,ts,b,c)=>h8) (λ(i,ts,b,c)=>n-i) (0,us,0,0) ?_ e12 I I ?_
  · exact⟨by omega,eg,aa,by omega,by omega,by simp[val],λ_ _=>I⟩
  rintro⟨i,ts,b,c⟩ ⟨dk,cq,bm,gk,gn,bd,ct⟩
  refine yW ?_;refine zQ (zF (gv (yJ I I) I (yB (zH (zQ ?_)))));refine cnd (λcf=>?_) λcf=>?_
  ·
   refine qK (zH (zQ (vQ (zQ (zF (mv I I (gv (zX _ underlying27 sizeOf124 I I C I oM) I (gv (xY isAgg124 I C oM) I ?_))))))));have dz:=C.get32 i;have fx:x1*vs.getD i 0<=4294967295*4294967295:=Nat.mul_le_mul oM oM;refine asg I I (asg I I (yB (zH (zQ (zF (mv I I (mv I I (mv I I (gv (vJ (k:=.u32) (k':=.u64) (W:=18446744073709551616) underlying124 underlying125 I I I oM) I (gv (iF (k:=.u64) (W:=18446744073709551616) I I I I oM) I (gv (sG (k:=.u64) (W:=18446744073709551616) I I I I oM) I (asg I I (yB ?_)))))))))))));refine vO (e':=[(4,_),(9,_),(10,_),(11,_),(12,_),(13,_),(15,_),(17,_),(154,_),(155,_),(156,_),(19,_),(18,_)]) ⟨I,I,I,I,I,I,I,I,I,I,I,I,I,trivial⟩ (zH (zQ (zF (mv I I (mv I I (mv I I (gv (zR I I oM oM) I (gv (xC (A:=[_]) (J-1+i) underlying27 sizeOf124 I I oM oM) I (gv (fY (A:=[_]) isAgg124 I oM) I ?_)))))))));have bw:=qV bm (J-1+i);refine gv (vJ (k:=.u32) (k':=.u64) (W:=18446744073709551616) underlying124 underlying125 I I I oM) I (mv I I (gv (zWU (k:=.u64) (q:=4294967295) I I I (by simp only[ub];omega) (by simp only[ub];omega)) I ?_));rw[zZ3];refine gv (mE (k:=.u64) (W:=18446744073709551616) I I I I oM) I (mv I I (gv (mE (k:=.u64) (W:=18446744073709551616) I I I I oM) I (asg I I (yB (vO (e':=[(4,_),(9,_),(10,_),(11,_),(12,_),(13,_),(15,_),(154,_),(155,_),(156,_),(19,_),(18,_),(21,_)]) ⟨I,I,I,I,I,I,I,I,I,I,I,I,I,trivial⟩ (zH (zQ (zF (mv I I (mv I I (mv I I (gv (zR I I oM oM) I (mv I I ?_)))))))))))));refine gv (tF (k:=.u64) (k':=.u32) (W:=4294967296) underlying125 underlying124 I I I) I (gv (xC (A:=[_]) (J-1+i) underlying27 sizeOf124 I I oM oM) I (rM sizeOf124 I I oM (yB (zH (zQ (zF (mv I I (gv (fN (k:=.u64) (s:=63) (yk:=.u64) I I I (by simp only[ub];omega)) I (asg I I (yB (vO (e':=[(4,_),(9,_),(10,_),(11,_),(12,_),(13,_),(15,_),(154,_),(155,_),(156,_),(18,_),(17,_)]) e12 (zH (zF ?_)))))))))))));refine mv I I (gv (fN (k:=.u64) (s:=32) (yk:=.u64) I I I (by simp only[ub];omega)) I (asg I I (yB (rK (zH (zF (gv (zR (q:=1) I I oM oM) I (mv I I (yB ?_)))))))));generalize hX:ts.getD (J-1+i) 0=X at *;generalize hY:vs.getD i 0=Y at *;refine jW (i+1,ts.set (J-1+i) (((X+18446744073709551616-(c+x1*Y)%4294967296)%18446744073709551616+18446744073709551616-b)%18446744073709551616%4294967296),((X+18446744073709551616-(c+x1*Y)%4294967296)%18446744073709551616+18446744073709551616-b)%18446744073709551616/2^63,(c+x1*Y)/2^32) ?_ ?_ e12 I I
   ·
    refine⟨by omega,by simp[cq],nI bm _ oM,by omega,by omega,?_,λk hk=>?_⟩
    · have h1:=lT (xs:=ts) (i:=J-1+i) oM (((X+18446744073709551616-(c+x1*Y)%4294967296)%18446744073709551616+18446744073709551616-b)%18446744073709551616%4294967296)
      rw[hX] at h1;rw[uX vs i oM,hY,<-Nat.add_assoc (J-1),Nat.pow_succ,Nat.pow_add];rw[Nat.pow_add] at h1 bd;exact yB6 (l:=(c+x1*Y)%4294967296) bd h1 oM oM
    · rw[jL oM];exact ct k oM
   dsimp only;omega
  refine fI (qE (qE (fH (zH (zQ (zF (mv I I (mv I I (mv I I (gv (zR I I oM oM) I (gv (xC (A:=[_]) (J-1+n) underlying27 sizeOf124 I I oM oM) I (gv (fY (A:=[_]) isAgg124 I oM) I ?_))))))))))));have bw:=qV bm (J-1+n);refine gv (vJ (k:=.u32) (k':=.u64) (W:=18446744073709551616) underlying124 underlying125 I I I oM) I (mv I I (gv (mE (k:=.u64) (W:=18446744073709551616) I I I I oM) I (mv I I (gv (mE (k:=.u64) (W:=18446744073709551616) I I I I oM) I ?_))));obtain⟨d2,es⟩:∃d,d=((ts.getD (J-1+n) 0+18446744073709551616-c)%18446744073709551616+18446744073709551616-b)%18446744073709551616:=⟨_,I⟩;rw[<-es];refine asg I I (yB (vO (e':=[(4,_),(9,_),(10,_),(11,_),(12,_),(13,_),(15,_),(22,_)]) e8 (zH (zQ (zF (mv I I (mv I I (mv I I (gv (zR I I oM oM) I (mv I I (gv (tF (k:=.u64) (k':=.u32) (W:=4294967296) underlying125 underlying124 I I I) I (gv (xC (A:=[_]) (J-1+n) underlying27 sizeOf124 I I oM oM) I (rM sizeOf124 I I oM ?_)))))))))))));have dk:i=n:=by omega
  rw[dk,wA oM,az] at bd;have co:=lT (xs:=ts) (i:=J-1+n) oM (d2%4294967296);have bp:(ts.set (J-1+n) (d2%4294967296)).length=la+1:=by simp[cq]
  have au:Fit (ts.set (J-1+n) (d2%4294967296)):=nI bm _ oM;have ch:∀k,J-1+n+1<=k->(ts.set (J-1+n) (d2%4294967296)).getD k 0=0:=λk hk=>by rw[jL oM,ct k oM];exact ci k oM
  generalize ts.set (J-1+n) (d2%4294967296)=ts2 at *;have ab:val ts2+4294967296^(J-1)*(x1*V)=val us+4294967296^(J-1+n+1)*(d2/2^63):=by
   rw[Nat.pow_succ,Nat.pow_add];rw[Nat.pow_add] at co bd;exact yG4 bd co oM
  have dh:=eW au ch;refine yB (zH ?_);refine qZ (ι:=Nat×List Nat) (λ(x2,Z)=>x2<4294967296/\Z.length=la+1/\Fit Z/\val Z+4294967296^(J-1)*(x2*V)=val us/\val (Z.drop (J-1))<V) (λ(x2,Z)=>[(4,H),(9,vI ↑s),(10,M),(11,ai),(12,vI ↑n),(13,vI (↑J-1)),(15,vU .u64 x2)]) (λ(x2,Z)=>[.us 124 .u32 H (fE J qs),.us 124 .u32 M Z]) (λ(x2,Z)=>h8) ?_ ?_
  ·
   refine zQ (zF (mv I I (gv (fN (k:=.u64) (s:=63) (yk:=.u64) I I I (by simp only[ub];omega)) I (gv (tN (k:=.u64) (q:=0) I I) I (yB (vO (e':=[(4,_),(9,_),(10,_),(11,_),(12,_),(13,_),(15,_),(211,_)]) e8 (zH ?_)))))));refine cnd (λce=>?_) λce=>?_
   ·
    have fe:1<=x1:=Nat.pos_of_ne_zero λh0=>by
     have cg:d2/2^63=1:=by omega
     rw[h0,cg,Nat.zero_mul,Nat.mul_zero,Nat.mul_one] at ab;omega
    refine zQ (zF (mv I I (gv (aX (k:=.u64) (q:=1) (W:=18446744073709551616) I I I I oM oM) I (asg I I (yB (zH (zQ (zF (asg (v:=vU .u64 0) I I (yB (zH (zQ (zQ ?_)))))))))))));refine zF (mv I I (gv (vH underlying27 I C) I ?_));rw[av];refine mv (v:=vI (0)) I I (yB (zH (vQ ?_)));refine gcL (ι:=Nat×List Nat×Nat) (λ(i2,Z,c2)=>(i2<=n/\Z.length=la+1/\Fit Z/\c2<=1/\val Z+4294967296^(J-1+i2)*c2=val ts2+4294967296^(J-1)*val (vs.take i2)/\∀k,J-1+i2<=k->Z.getD k 0=ts2.getD k 0,[(4,H),(9,vI ↑s),(10,M),(11,ai),(12,vI ↑n),(13,vI (↑J-1)),(15,vU .u64 (x1-1)),(18,vU .u64 c2),(214,ai),(215,vI ↑n),(216,vI ↑i2)],[.us 124 .u32 H (fE J qs),.us 124 .u32 M Z],h8,n-i2)) (0,ts2,0) ?_ ?_
    · exact⟨by omega,bp,au,by omega,by simp[val],λ_ _=>I⟩
    rintro⟨i2,Z,c2⟩ ⟨hi2,bh,aw,gm,bg,cv⟩
    refine yW ?_;refine zQ (zF (gv (yJ I I) I (yB (zH (zQ ?_)))));refine cnd (λcd=>?_) λcd=>?_
    ·
     refine qK (zH (zQ (vQ (zQ (zF (mv I I (gv (zX _ underlying27 sizeOf124 I I C I oM) I (gv (xY isAgg124 I C oM) I ?_))))))));have dz:=C.get32 i2;refine asg I I (asg I I (yB (zH (zQ (zF (mv I I (mv I I (mv I I (mv I I (gv (zR I I oM oM) I (gv (xC (A:=[_]) (J-1+i2) underlying27 sizeOf124 I I oM oM) I (gv (fY (A:=[_]) isAgg124 I oM) I ?_))))))))))));have bw:=qV aw (J-1+i2);refine gv (vJ (k:=.u32) (k':=.u64) (W:=18446744073709551616) underlying124 underlying125 I I I oM) I (mv I I (gv (vJ (k:=.u32) (k':=.u64) (W:=18446744073709551616) underlying124 underlying125 I I I oM) I (gv (sG (k:=.u64) (W:=18446744073709551616) I I I I oM) I (gv (sG (k:=.u64) (W:=18446744073709551616) I I I I oM) I (asg I I (yB (vO (e':=[(4,_),(9,_),(10,_),(11,_),(12,_),(13,_),(15,_),(214,_),(215,_),(216,_),(23,_),(18,_)]) e12 (zH (zQ (zF (mv I I (mv I I (mv I I ?_)))))))))))));refine gv (zR I I oM oM) I (mv I I (gv (tF (k:=.u64) (k':=.u32) (W:=4294967296) underlying125 underlying124 I I I) I (gv (xC (A:=[_]) (J-1+i2) underlying27 sizeOf124 I I oM oM) I (rM sizeOf124 I I oM (yB (zH (zF (mv I I (gv (fN (k:=.u64) (s:=32) (yk:=.u64) I I I (by simp only[ub];omega)) I (asg I I (yB (rK (vO (e':=[(4,_),(9,_),(10,_),(11,_),(12,_),(13,_),(15,_),(214,_),(215,_),(216,_),(18,_)]) ⟨I,I,I,I,I,I,I,I,I,I,I,trivial⟩ ?_)))))))))))));refine zH (zF (gv (zR (q:=1) I I oM oM) I (mv I I (yB ?_))));generalize hX:Z.getD (J-1+i2) 0=X at *;generalize hY:vs.getD i2 0=Y at *;refine gqL (i2+1,Z.set (J-1+i2) ((c2+(X+Y))%4294967296),(c2+(X+Y))/2^32) ?_ ?_
     ·
      refine⟨by omega,by simp[bh],nI aw _ oM,by omega,?_,λk hk=>?_⟩
      · have h1:=lT (xs:=Z) (i:=J-1+i2) oM ((c2+(X+Y))%4294967296)
        rw[hX] at h1;rw[uX vs i2 oM,hY,<-Nat.add_assoc (J-1),Nat.pow_succ,Nat.pow_add];rw[Nat.pow_add] at h1 bg;exact yDD bg h1 oM
      · rw[jL oM];exact cv k oM
     omega
    refine fI (qE (qE (fH (zH (zF (mv I I (mv I I (mv I I (gv (zR I I oM oM) I (gv (xC (A:=[_]) (J-1+n) underlying27 sizeOf124 I I oM oM) I (gv (fY (A:=[_]) isAgg124 I oM) I (mv I I (gv (tF (k:=.u64) (k':=.u32) (W:=4294967296) underlying125 underlying124 I I I) I ?_)))))))))))));have bw:=qV aw (J-1+n);refine gv (zTB (k:=.u32) (W:=4294967296) I I I I) I (gv (xC (A:=[_]) (J-1+n) underlying27 sizeOf124 I I oM oM) I (rM sizeOf124 I I oM (yB ?_)));generalize hX:Z.getD (J-1+n) 0=X at *;refine zS (x1-1,Z.set (J-1+n) ((X+c2%4294967296)%4294967296)) ?_ e7 I I;have dj:i2=n:=by omega
    rw[dj,wA oM,az] at bg;have h1:=lT (xs:=Z) (i:=J-1+n) oM ((X+c2%4294967296)%4294967296);rw[hX] at h1;have be:Fit (Z.set (J-1+n) ((X+c2%4294967296)%4294967296)):=nI aw _ oM;have dy:∀k,J-1+n+1<=k->(Z.set (J-1+n) ((X+c2%4294967296)%4294967296)).getD k 0=0:=λk hk=>by
     rw[jL oM,cv k oM];exact ch k hk
    have ho:val (Z.set (J-1+n) ((X+c2%4294967296)%4294967296))+4294967296^(J-1+n+1)*((X+c2)/4294967296)=val ts2+4294967296^(J-1)*V:=by
     rw[Nat.pow_succ,Nat.pow_add];rw[Nat.pow_add] at h1 bg;exact yJM bg h1 oM
    obtain⟨z1,z2,z3⟩:=zSY aa be dh (eW be dy) (b:=d2/2^63) oM ab ck ho oM;exact⟨by omega,by simp[bh],be,z2,z3⟩
   refine qK ?_;refine zS (x1,ts2) ?_ e7 I I;have dv:d2/2^63=0:=by omega
   rw[dv,Nat.mul_zero,Nat.add_zero] at ab;exact⟨cm,bp,au,ab,zFD aa au ab cj⟩
  rintro⟨x2,Z⟩ ⟨cl,bh,aw,eh,cw⟩
  refine yW ?_;refine zF (mv I I (mv I I (mv I I (gv (vJ (k:=.u64) (k':=.u32) (W:=4294967296) underlying125 underlying124 I I I oM) I (gv (xC (A:=[]) (J-1) underlying27 sizeOf124 I I oM (by rw[jG];omega)) I (wV sizeOf124 I I (by rw[jG];omega) (yB (rK (zH (zF (mv I I (gv (jD (q:=1) I I oM oM) I (asg I I ?_)))))))))))));refine yB ?_;refine jW (J-1,Z,x2::qs) ?_ ?_ ⟨I,I,I,I,I,?_,trivial⟩ ?_ I
  ·
   refine⟨by omega,by simp only[lC];omega,rN.2 ⟨cl,dq⟩,bh,aw,?_,cw⟩;have eJ:(4294967296:Nat)^J=4294967296^(J-1)*4294967296:=by rw[<-Nat.pow_succ,Nat.succ_eq_add_one,Nat.sub_add_cancel hJ]
   rw[eJ] at ap;exact yGP ap eh
  ·
   dsimp only;omega
  · exact congrArg some (congrArg vI oM)
  try dsimp only[List.nil_append,List.cons_append]
  rw[lI oM]
 refine fI (qE (qE (fH (zH (zQ ?_)))));have ez:J=0:=by omega
 subst ez;rw[bZ];rw[List.drop_zero] at ca;rw[Nat.pow_zero,Nat.one_mul] at ap;have ek:(zB (val us)).length<=us.length:=qD aa;refine zF (mv I I ?_);refine zKZ (R:=λh r=>r=fX 1 M 0 (zB (val us)).length/\Us .u32 h r (zB (val us))) (vs:=[_]) I I I I call196 ⟨I,trivial⟩ (λw hw=>jT (MLe.refl _) (hw.own_us (A:=[_]) aa)) ?_
 rintro fc ⟨_,dx,_⟩
 subst dx;refine zUA (A:=[_]) (zB (val us)).length ek ?_;rw[zE4 aa];generalize fX 1 M 0 (zB (val us)).length=vr;have ax:=wO (val us);have ey:=zE (val us);generalize zB (val us)=Rs at *;refine asg I I (yB (zH (zQ (zQ (zF (mv I I (gv (rY (A:=[_]) underlying27 I) I (mv (v:=vI (0)) I I (yB (zH (vQ ?_)))))))))));refine gG (ι:=Nat) (λ(k:(Nat))=>k<=Rs.length) (λ(k:(Nat))=>[(4,H),(5,vr),(9,vI ↑s),(261,vI ↑Rs.length),(262,vI ↑k)]) (λ(k:(Nat))=>[.us 124 .u32 H qs,.us 124 .u32 vr (j8 s Rs k)]) (λ(k:(Nat))=>h8) (λ(k:(Nat))=>Rs.length-k) 0 ?_ e5 ?_ I ?_
 · exact Nat.zero_le _
 ·
  try dsimp only[List.nil_append,List.cons_append]
  exact congrArg (λz=>[Res.us 124 .u32 H qs,Res.us 124 .u32 vr z]) (zSQ s Rs)
 rintro k hk
 refine yW ?_;refine zQ (zF (gv (yJ I I) I (yB (zH (zQ ?_)))));refine cnd (λcc=>?_) λcc=>?_
 ·
  refine qK (zH ?_);refine qZ (ι:=Unit) (λ(_u:(Unit))=>True) (λ(_u:(Unit))=>[(4,H),(5,vr),(9,vI ↑s),(261,vI ↑Rs.length),(262,vI ↑k)]) (λ(_u:(Unit))=>[.us 124 .u32 H qs,.us 124 .u32 vr (j8 s Rs (k+1))]) (λ(_u:(Unit))=>h8) ?_ ?_
  ·
   refine vQ (zQ (zF (mv I I (asg I I (yB (zH (zQ (zF (mv I I (mv I I (gv (xC (A:=[_]) (k) underlying27 sizeOf124 I I oM (by rw[tL oM];omega)) I (gv (fY (A:=[_]) isAgg124 I (by rw[tL oM];omega)) I ?_))))))))))));rw[zLR (Nat.le_refl _)];have eo:=qV ax k;refine mv I I (gv (fN (k:=.u32) (s:=s) (yk:=.i64) I I I (by simp only[ub];omega)) I ?_);have gb:Rs.getD k 0/2^s<4294967296:=Nat.lt_of_le_of_lt (Nat.div_le_self _ _) eo;refine gv (xC (A:=[_]) (k) underlying27 sizeOf124 I I oM (by rw[tL oM];omega)) I (rM sizeOf124 I I (by rw[tL oM];omega) (yB (zH (zQ (zF (mv I I (gv (mH (q:=0) I I) I ?_)))))));refine gU 7 280 (vB (((0:Int)<↑s)/\((↑k:Int)+1<↑Rs.length))) ?_ ?_
   ·
    refine zY ((0:Int)<↑s) (λhg=>?_) (λhg=>?_)
    ·
     refine gT hg I (u6 I I I (mv I I (u6 I I I (gv (zR (q:=1) I I oM oM) I (u6 I I I (mv I I (u6 I I I (gv (rY (A:=[_]) underlying27 I) I ?_))))))));rw[lS,tL oM];refine u6 I I I (gv (yJ I I) I (gv (cT I I) I (yB (gqU ?_))));exact congrArg some (xD hg)
    refine gF hg I (nS I I I I I I (nS I I I I I I (nS I I I I I I (nS I I I I I I (nS I I I I I I (gv (cV I I) I (yB (gqU ?_))))))));exact congrArg some (xE hg)
   refine yB (zH ?_);refine cnd (λcb=>?_) λcb=>?_
   ·
    refine zK 14 _ [] [(0,.q),(1,.q),(2,.q),(3,.q),(4,.q),(5,.q),(6,.q),(7,.q),(8,.q),(9,.q),(10,.q),(11,.q),(12,.q),(13,.q),(14,.t)] yA nX zou nX (λr hr=>hr) (qQ I I I (qQ I I I (w_q I (λh' L' hh hR=>gX (hR _ mh1) (k) underlying27 sizeOf124 I I oM (by rw[lS,tL oM];omega)) I (w_q I (λh' L' hh hR=>sS (hR _ mh1) isAgg124 I (by rw[lS,tL oM];omega)) I ?_))));rw[zHY (by rw[tL oM];omega)];refine qQ I I I (qQ I I I (wI I (λ_ _=>zR (q:=1) I I oM oM) I (w_q I (λh' L' hh hR=>gX (hR _ mh1) (k+1) underlying27 sizeOf124 I I oM (by rw[lS,tL oM];omega)) I (w_q I (λh' L' hh hR=>sS (hR _ mh1) isAgg124 I (by rw[lS,tL oM];omega)) I ?_))));rw[jL oM,zLR oM];refine qQ I I I (wI I (λ_ _=>jD (p:=32) I I oM oM) I ?_);rw[show((32:Int)-↑s)=↑(32-s) by omega];refine wI I (λ_ _=>fO (k:=.u32) (s:=32-s) (yk:=.i64) (W:=4294967296) I I I I) I (wI I (λ_ _=>rS (k:=.u32) I I I (by simp only[ub];omega) (by simp only[ub];omega)) I ?_);rw[yA7 ax oM oM];refine w_q I (λh' L' hh hR=>gX (hR _ mh1) (k) underlying27 sizeOf124 I I oM (by rw[lS,tL oM];omega)) I (pT (A:=[_]) I (w3 sizeOf124 I I (by rw[lS,tL oM];omega)) I (cK (rK ?_)));refine zS (()) ?_ e5 ?_ I
    · trivial
    try dsimp only[List.nil_append,List.cons_append]
    rw[List.set_set,zLQ oM];try rfl
   refine qK (rK ?_);have bz:Rs.getD k 0/2^s=eZ s Rs k:=by
    by_cases h0:s=0
    · rw[h0,zSR ax oM,Nat.pow_zero,Nat.div_one]
    · exact(zST ax oM).symm
   refine zS (()) ?_ e5 ?_ I
   · trivial
   try dsimp only[List.nil_append,List.cons_append]
   rw[bz,zLQ oM]
  rintro _u fj
  refine yW ?_;refine zF (gv (zR (q:=1) I I oM oM) I (mv I I (yB ?_)));refine jW (k+1) ?_ ?_ e5 I I
  · omega
  omega
 refine fI (qE (qE (fH (zH (zQ (zF (mv I I (yQ (by exact dq) ?_))))))));intro h9 gg hq;refine cL (ev1 I) call196 (λw hs=>jT hs hq) λfb gu fi O=>?_;replace O:=O.2;refine mv I I (yQ (by exact zYW ax) ?_);intro gt dn ei;refine cL (ev1 I) call196 (λw hs=>jT hs ei) λfa gs dm ac=>?_;replace ac:=ac.2;refine asg I I (asg I I (asg (v:=vI (0)) I I (yB (zH (lG (uN I I I I ?_))))));replace O:=O.mono (dn.trans dm);have el:k=Rs.length:=by omega
 rw[el,zUW ax,ey] at ac;obtain⟨e1,e2⟩:=zRY (X:=val xs) (Y:=val ys) (s:=s) (u:=val us) (q:=val qs) oM (by rw[<-hV,<-hU];exact ap) (by rw[<-hV];exact ca);rw[e1] at O;rw[e2] at ac;rw[if_neg ay,if_neg ay];exact⟨_,_,I,O,ac⟩
theorem tM{v:Value}{xs:List Nat}(hv:Us .u32 h0 v xs)(hl:xs.length<=17592186044416):
 Calls Tryz.prog 92 #[v] w0 (Ret w0 h0 (λh r=>Us .u32 h r (zB (val xs)))):=by
 refine cb1 23 v func92 hs ?_;refine tZ ?_;refine gcL (ι:=Nat) (λ(k:(Nat))=>(k<=xs.length/\∀i,k<=i->xs.getD i 0=0,[(0,v),(3,vI ↑k)],[],h0,k)) xs.length ?_ ?_
 · exact⟨Nat.le_refl _,λi hi=>by rw[zoa,List.getElem?_eq_none hi];rfl⟩
 rintro k ⟨hk,hz⟩
 refine yW ?_;refine go5 ?_;refine gU 8 15 (vB (((0:Int)<↑k)/\(xs.getD (k-1) 0=0))) ?_ ?_
 ·
  refine zY ((0:Int)<↑k) (λJ=>?_) (λJ=>?_)
  ·
   refine gT J I (go7 ?_);refine gv (zX (k-1) underlying27 sizeOf124 I I hv oM oM) I (go3 ?_);refine gv (fP (k:=.u32) (q:=0) I I) I (go2 ?_);refine gqU ?_;exact congrArg some (xD J)
  refine gF J I (go8 ?_);refine gqU ?_;exact congrArg some (xE J)
 refine gc2 (λC=>?_) λC=>?_
 ·
  refine go9 ?_;refine gqL (k-1) ?_ ?_ (he:=⟨I,?_,trivial⟩)
  ·
   exact⟨by omega,λi hi=>by
    by_cases e:i=k-1
    · rw[e];exact C.2
    · exact hz i oM⟩
  · have:=C.1;omega
  · exact congrArg some (congrArg vI (by have:=C.1;omega))
 refine go7 ?_;refine zG (zGC (kd:=.u32) underlying27 uP I I) I I I ?_;intro U aa H;obtain rfl:=H;refine go2 ?_;refine gv (t8 _ underlying27 sizeOf124 I I hv.shape I oM) I ?_;have D:=hv.sub (lo:=0) (hi:=_) oM oM;refine xL (A:=[]) (gW (kd:=.u32) (bytes:=4) underlying27 uP I I I I I D (by simp;omega) (by simp;omega)) I I I ?_;intro O Z G;obtain rfl:=G;rw[List.nil_append,List.drop_zero,Nat.sub_zero];refine yQ (by exact fV hv.lt k) ?_;intro h1 M ho;refine go4 ?_;refine zC I I ?_;replace hv:=hv.mono M;have e:xs.take k=zB (val xs):=zH9 hv.lt hk hz (by
  by_cases h0:k=0
  · exact .inl h0
  · exact .inr λh1=>C ⟨by omega,h1⟩)
 rw[<-e];exact ho
theorem yB5{v v':Value}{xs ys:List Nat}(hv:Us .u32 h0 v xs)(hv':Us .u32 h0 v' ys)(hl:xs.length<=1099511627776)(hl':ys.length<=1099511627776):
 Calls Tryz.prog 189 #[v,v'] w0 (Ret w0 h0 (λh r=>Us .u32 h r (zB (Nat.gcd (val xs) (val ys))))):=by
 have bx:=qD hv.lt;have bw:=qD hv'.lt;obtain⟨G,hG⟩:∃G,G=Nat.gcd (val xs) (val ys):=⟨_,I⟩;rw[<-hG];refine cb2 61 v v' func189 hs ?_;refine go8 ?_;refine cL (ev1 I) call196 (λw hs=>jT hs hv) λbt h1 bg Z=>?_;replace Z:=Z.2;refine qA (vs:=[_]) I I I I call207 ⟨I,trivial⟩ (λw hs=>zE8 hs Z oM) ?_;intro ar h2 ch bf aj;obtain rfl:=aj;refine yQ (by exact wO _) ?_;intro h3 be bj;refine go1 ?_;replace hv':=hv'.mono ((bg.trans bf).trans be);refine cL (ev1 I) call196 (λw hs=>jT hs hv') λbs h4 cf U=>?_;replace U:=U.2;refine qA (vs:=[_]) I I I I call207 ⟨I,trivial⟩ (λw hs=>zE8 hs U oM) ?_;intro aq h5 cg ce ai;obtain rfl:=ai;refine yQ (by exact wO _) ?_;intro h6 cd bi;refine go6 ?_;refine gcL (ι:=Value×Nat×Value×Nat×Mem) (λ(vx,X,vy,Y,k1)=>(MLe h6 k1/\(Us .u32 k1 vx (zB X)/\Us .u32 k1 vy (zB Y)/\Nat.gcd X Y=G/\(zB X).length<=1099511627776/\(zB Y).length<=1099511627776),[(5,vx),(6,vy)],[],k1,Y)) (ar,val xs,aq,val ys,h6) ?_ ?_
 · exact⟨mle,bj.up,bi,hG.symm,by omega,by omega⟩
 rintro⟨vx,X,vy,Y,k1⟩ ⟨bm,⟨ha,hb,hg,ca,bd⟩⟩
 refine yW ?_;refine gc8 (λap=>?_) λap=>?_
 ·
  refine go7 ?_;have H:Y≠0:=yP.1 oM;refine cL (ev2 I I) call190 (λw hs=>zEM hs ha hb oM oM) λbr h7 aa D=>?_;obtain⟨bv,av,rfl,am,D⟩:=D;simp only[zE] at am D;rw[if_neg H] at D;have bc:=yL (Nat.le_of_lt (Nat.mod_lt X (Nat.pos_of_ne_zero H)));refine zAG ?_;refine gqL (vy,Y,av,X%Y,h7) ?_ ?_
  · exact⟨mle,hb.up,D,by rw[mM];exact hg,bd,by omega⟩
  exact Nat.mod_lt _ (Nat.pos_of_ne_zero H)
 refine sO ?_;refine cnd (λao=>?_) λao=>?_
 ·
  have H:Y=0:=Classical.byContradiction λba=>by have:=yP.2 ba;omega
  refine go8 ?_;refine zC I I ?_;rw[H,Nat.gcd_zero_right] at hg;rw[<-hg];exact ha
 have H:Y≠0:=yP.1 oM;refine go2 ?_;refine qZ (ι:=Value×Nat×Value×Nat×Mem) (λ(O,X2,M,Y2,k2)=>MLe k1 k2/\(Us .u32 k2 O (zB X2)/\Us .u32 k2 M (zB Y2)/\Nat.gcd X2 Y2=G/\(zB X2).length<=2/\(zB Y2).length<=2)) (λ(O,X2,M,Y2,k2)=>[(5,O),(6,M)]) (λ(O,X2,M,Y2,k2)=>[]) (λ(O,X2,M,Y2,k2)=>k2) ?_ ?_
 ·
  refine gc7 (λan=>?_) λan=>?_
  ·
   refine go4 ?_;refine cL (ev2 I I) call190 (λw hs=>zEM hs ha hb oM oM) λbq h7 aa C=>?_;obtain⟨bu,au,rfl,ak,C⟩:=C;simp only[zE] at ak C;rw[if_neg H] at C;have bc:=yL (Nat.le_of_lt (Nat.mod_lt X (Nat.pos_of_ne_zero H)));refine rA ?_;refine zS (vy,Y,au,X%Y,h7) ?_ e2z I I;refine⟨aa,?_⟩;replace hb:=hb.mono aa;exact⟨hb,C,by rw[mM];exact hg,by omega,by omega⟩
  refine go1 ?_;refine zS (vx,X,vy,Y,k1) ?_ e2z I I;refine⟨MLe.refl _,?_⟩;exact⟨ha,hb,hg,by omega,by omega⟩
 rintro⟨O,X2,M,Y2,k2⟩ ⟨bl,⟨bk,ac,bh,ax,aw⟩⟩
 refine yW ?_;refine go3 ?_;refine cL (ev1 I) call208 (λw hs=>zMZ hs bk oM) λbp h7 aa ah=>?_;subst ah;rw[zE];have az:=nD ax;refine go1 ?_;replace ac:=ac.mono aa;refine cL (ev1 I) call208 (λw hs=>zMZ hs ac oM) λbo h8 cc ae=>?_;subst ae;rw[zE];have ay:=nD aw;refine go6 ?_;refine gcL (ι:=Nat×Nat) (λ(m,n)=>(Nat.gcd m n=G/\m<18446744073709551616/\n<18446744073709551616,[(13,vU .u64 m),(14,vU .u64 n)],[],h8,n)) (X2,Y2) ?_ ?_
 · exact⟨bh,az,ay⟩
 rintro⟨m,n⟩ ⟨ab,hm,hn⟩
 refine yW ?_;refine go4 ?_;refine gv (tN (k:=.u64) (q:=0) I I) I (gc2 (λJ=>?_) λJ=>?_)
 ·
  refine go3 ?_;refine zK 6 _ [] [(0,.q),(1,.q),(2,.q),(3,.q),(4,.q),(5,.q)] yA nX zou nX (λr hr=>hr) (go3 ?_);refine wI I (λ_ _=>bP (k:=.u64) I I oM) I (go4 ?_);refine gqL (n,m%n) ?_ ?_
  ·
   have bz:=Nat.mod_lt m (Nat.pos_of_ne_zero J);exact⟨by rw[mM];exact ab,hn,by omega⟩
  exact Nat.mod_lt _ (Nat.pos_of_ne_zero J)
 refine go8 ?_;refine cL (ev1 I) call192 (λw hs=>nat_of hs oM) λbn h9 cb ad=>(go4 ?_);refine zC I I ?_;have bb:n=0:=Classical.not_not.1 J;rw[bb,Nat.gcd_zero_right] at ab;rw[<-ab];exact ad
theorem t6{n:Nat}(hn:n<18446744073709551616):
 Calls Tryz.prog 96 #[vU .u64 n] w0 (Ret w0 h0 (λh r=>Us .u32 h r (zB n))):=by
 refine cb1 10 (vU .u64 n) func96 hs ?_;refine uV ?_;refine zG (zGB (kd:=.u32) underlying27 uP I I I I) I I I ?_;intro O U D;obtain rfl:=D;refine yQ (by intro x hx;simp only[List.mem_cons,List.not_mem_nil,or_false] at hx;simp only[ub];omega) ?_;intro h1 H J;refine cL (ev1 I) call92 (λw hs=>tM hs J zo2) λM h2 G C=>(go4 ?_);refine zC I I ?_;have e:val [n%4294967296,n/2^32%4294967296]=n:=by simp only[val];omega
 rw[e] at C;exact C
theorem oA{v v':Value}{X Y:Nat}(hv:Us .u32 h0 v (zB X))(hv':Us .u32 h0 v' (zB Y)):
 Calls Tryz.prog 49 #[v,v'] w0 (Ret w0 h0 (λ_ r=>r=vI (rQ X Y))):=by
 have U:=zE X;have D:=zE Y;generalize hA:zB X=AA at *;generalize hB:zB Y=BB at *;have fA:Fit AA:=hv.lt;have fB:Fit BB:=hv'.lt;have lA:=hv.lt63;have lB:=hv'.lt63;refine cb2 41 v v' func49 hs ?_;refine qM ?_;refine gv (vH underlying27 I hv') I (gc3 (λO=>?_) λO=>?_)
 ·
  refine go6 ?_;refine gv (vH underlying27 I hv') I (gc3 (λM=>?_) λM=>?_)
  ·
   refine go8 ?_;refine zC I I ?_;rw[zB3 (rT (by rw[hA,hB];omega))]
  refine go9 ?_;refine zC I I ?_;rw[zB4 (rT (by rw[hA,hB];omega))]
 have hl:AA.length=BB.length:=by omega
 refine uV ?_;refine gcL (ι:=Nat) (λ(j:(Nat))=>(j<=AA.length/\AA.drop j=BB.drop j,[(0,v),(1,v'),(5,vI (↑j-1))],[],h0,j)) AA.length ?_ ?_
 · exact⟨Nat.le_refl _,by rw[List.drop_of_length_le (Nat.le_refl _),List.drop_of_length_le oM]⟩
 rintro j ⟨hj,G⟩
 refine yW ?_;refine gc7 (λJ=>?_) λJ=>?_
 ·
  refine go6 ?_;refine zK 9 _ [] [(0,.q),(1,.q),(2,.q),(3,.q),(4,.q),(5,.q),(6,.q),(7,.q),(8,.q)] yA nX zou nX (λr Z=>Z) (go2 ?_);refine w_q I (λh' L' hh hR=>zX (j-1) underlying27 sizeOf124 I I (hv.mono hh) oM oM) I (w_q I (λh' L' hh hR=>xY isAgg124 I (hv.mono hh) oM) I (go2 ?_));refine w_q I (λh' L' hh hR=>zX (j-1) underlying27 sizeOf124 I I (hv'.mono hh) oM oM) I (w_q I (λh' L' hh hR=>xY isAgg124 I (hv'.mono hh) oM) I (gc3 (λC=>?_) λC=>?_))
  ·
   refine uV ?_;refine zC I I ?_;rw[<-U,<-D,zB3 (zEE fA hl oM hj G C)]
  refine go3 ?_;refine zK 9 _ [] [(0,.q),(1,.q),(2,.q),(3,.q),(4,.q),(5,.q),(6,.q),(7,.q),(8,.q)] yA nX zou nX (λr Z=>Z) (go2 ?_);refine w_q I (λh' L' hh hR=>zX (j-1) underlying27 sizeOf124 I I (hv.mono hh) oM oM) I (w_q I (λh' L' hh hR=>xY isAgg124 I (hv.mono hh) oM) I (go2 ?_));refine w_q I (λh' L' hh hR=>zX (j-1) underlying27 sizeOf124 I I (hv'.mono hh) oM oM) I (w_q I (λh' L' hh hR=>xY isAgg124 I (hv'.mono hh) oM) I (gc3 (λH=>?_) λH=>?_))
  ·
   refine qM ?_;refine zC I I ?_;rw[<-U,<-D,zB4 (zEE fB hl.symm oM oM G.symm oM)]
  refine go8 ?_;refine gqL (j-1) ?_ ?_ (he:=⟨I,I,?_,trivial⟩)
  ·
   refine⟨by omega,?_⟩;rw[tJ AA (j-1) oM,tJ BB (j-1) oM];have e:j-1+1=j:=by omega
   rw[e,G,Classical.not_not.1 (show ¬¬AA.getD (j-1) 0=BB.getD (j-1) 0 by omega)]
  · omega
  · exact congrArg some (congrArg vI oM)
 refine qM ?_;refine zC I I ?_;have h0:j=0:=by omega
 subst h0;simp only[List.drop_zero] at G;rw[<-U,<-D,G,zR3]
theorem zV7{v:Value}{X:Nat}(hv:Us .u32 h0 v (zB X))(hl:(zB X).length<=1099511627776):
 Calls Tryz.prog 169 #[v] w0 (Ret w0 h0 (λ_ r=>r=vI ↑(uK X))):=by
 refine cb1 25 v func169 hs ?_;refine sO ?_;refine cnd (λO=>?_) λO=>?_
 ·
  refine go7 ?_;refine zC I I ?_;have h0:X=0:=Classical.byContradiction λM=>by have:=yP.2 M;omega
  rw[h0];rfl
 have G:0<(zB X).length:=by omega
 have hb:=zDD (wO X) (k:=(zB X).length-1) oM (sW G);rw[zE] at hb;refine go7 ?_;refine gv (gP (p:=32) I I oM oM) I (uG ?_);refine gv (zX ((zB X).length-1) underlying27 sizeOf124 I I hv oM oM) I (go1 ?_);have D:=hv.get32 ((zB X).length-1);refine go4 ?_;refine gcL (ι:=Nat×Nat) (λ(c,x)=>(x<4294967296/\uK ((zB X).getD ((zB X).length-1) 0)=c+uK x/\c<=32,[(3,vI (32*(↑(zB X).length-1)+↑c)),(4,vU .u32 x)],[],h0,x)) (0,(zB X).getD ((zB X).length-1) 0) ?_ ?_ (he:=⟨congrArg some (congrArg vI oM),I,trivial⟩)
 · exact⟨D,by omega,by omega⟩
 rintro⟨c,x⟩ ⟨hx,H,U⟩
 refine yW ?_;have Z:=mS (n:=(zB X).getD ((zB X).length-1) 0) (k:=32) D;refine go4 ?_;refine gv (tN (k:=.u32) (q:=0) I I) I (gc2 (λC=>?_) λC=>?_)
 ·
  refine sO ?_;refine gv (fN (k:=.u32) (s:=1) (yk:=.u64) I I I (by simp only[ub];omega)) I (go2 ?_);refine gqL (c+1,x/2^1) ?_ ?_ (he:=⟨congrArg some (congrArg vI oM),I,trivial⟩)
  ·
   have h1:=zQH C;exact⟨by omega,by rw[H,h1,show x/2^1=x/2 from I];omega,by omega⟩
  omega
 refine uV ?_;refine zC I I ?_;have J:x=0:=Classical.not_not.1 C;rw[J,zQG] at H;exact congrArg vI oM
theorem yBH{v v':Value}{X Y:Nat}(hv:Us .u32 h0 v (zB X))(hv':Us .u32 h0 v' (zB Y))(hl:(zB X).length<=1099511627776)(hl':(zB Y).length<=1099511627776):
 Calls Tryz.prog 83 #[v,v'] w0 (Ret w0 h0 (λh r=>Us .u32 h r (zB (X+Y)))):=by
 have ay:=yL (Nat.le_add_right X Y);have ax:=yL (Nat.le_add_left Y X);have aw:=kV X Y;refine cb2 54 v v' func83 hs ?_;refine go7 ?_;refine oV (pP (v:=.slice none 0 0) I) I I I (zC3 (E:=124) (k:=.u32) (go4 ?_));refine asg (v:=vU .u64 0) I I (go9 ?_);refine gcL (ι:=Value×List Nat×Nat×Mem) (λ(O,C,c,Z)=>(MLe h0 Z/\(C.length<=(zB (X+Y)).length/\Fit C/\c<=1/\val C+4294967296^C.length*c=val ((zB X).take C.length)+val ((zB Y).take C.length)),[(0,v),(1,v'),(5,O),(6,vU .u64 c),(7,vI ↑C.length)],[.us 124 .u32 O C],Z,(zB (X+Y)).length-C.length)) (.slice none 0 0,[],0,h0) ?_ ?_
 · exact⟨mle,by simp,λx hx=>by simp at hx,by omega,by simp[val]⟩
 rintro⟨O,C,c,Z⟩ ⟨G,⟨aj,U,az,M⟩⟩
 refine yW ?_;replace hv:=hv.mono G;replace hv':=hv'.mono G;have av:=hv.get32 C.length;have au:=hv'.get32 C.length;refine go7 ?_;refine gU 6 17 (vB (((↑C.length:Int)<↑(zB X).length)\/((↑C.length:Int)<↑(zB Y).length))) ?_ ?_
 ·
  refine zY ((↑C.length:Int)<↑(zB X).length) (λH=>?_) (λH=>?_)
  ·
   refine gT H I (go6 ?_);refine gqU ?_;exact congrArg some (vD H)
  refine gF H I (go5 ?_);refine gv (vH underlying27 I hv') I (go4 ?_);refine gqU ?_;exact congrArg some (vG H)
 refine gU 4 21 (vB (((↑C.length:Int)<↑(zB X).length\/(↑C.length:Int)<↑(zB Y).length)\/(c≠0))) ?_ ?_
 ·
  refine zY ((↑C.length:Int)<↑(zB X).length\/(↑C.length:Int)<↑(zB Y).length) (λH=>?_) (λH=>?_)
  ·
   refine gT H I (go4 ?_);refine gqU ?_;exact congrArg some (vD H)
  refine gF H I (go3 ?_);refine gv (tN (k:=.u64) (q:=0) I I) I (go2 ?_);refine gqU ?_;exact congrArg some (vG H)
 refine gc2 (λD=>?_) λD=>?_
 ·
  refine go4 ?_;refine qZ (ι:=Unit) (λ(J:(Unit))=>True) (λ(J:(Unit))=>[(0,v),(1,v'),(5,O),(6,vU .u64 (c+(zB X).getD C.length 0)),(7,vI ↑C.length)]) (λ(J:(Unit))=>[.us 124 .u32 O C]) (λ(J:(Unit))=>Z) ?_ ?_
  ·
   refine gc8 (λah=>?_) λah=>?_
   ·
    refine go4 ?_;refine gv (zX (C.length) underlying27 sizeOf124 I I hv oM oM) I (go5 ?_);refine zS (()) ?_ e5 I I
    trivial
   refine go1 ?_;refine zS (()) ?_ ⟨I,I,I,?_,I,trivial⟩ I I
   · trivial
   · exact congrArg some (congrArg (vU .u64) (by rw[sQ (xs:=zB X) oM];omega))
  rintro J ad
  refine yW ?_;refine qZ (ι:=Unit) (λ(J:(Unit))=>True) (λ(J:(Unit))=>[(0,v),(1,v'),(5,O),(6,vU .u64 (c+(zB X).getD C.length 0+(zB Y).getD C.length 0)),(7,vI ↑C.length)]) (λ(J:(Unit))=>[.us 124 .u32 O C]) (λ(J:(Unit))=>Z) ?_ ?_
  ·
   refine go4 ?_;refine gv (vH underlying27 I hv') I (gc3 (λae=>?_) λae=>?_)
   ·
    refine go4 ?_;refine gv (zX (C.length) underlying27 sizeOf124 I I hv' oM oM) I (gv (xY isAgg124 I hv' oM) I (go4 ?_));refine zS (()) ?_ e5 I I
    trivial
   refine go1 ?_;refine zS (()) ?_ ⟨I,I,I,?_,I,trivial⟩ I I
   · trivial
   · exact congrArg some (congrArg (vU .u64) (by rw[sQ (xs:=zB Y) oM];omega))
  rintro J ad
  refine yW ?_;refine go5 ?_;refine zG (pF (kd:=.u32) underlying27 uP I I I) I I I ?_;intro ap ar ab;obtain rfl:=ab;refine yQ (by intro z hz;simp only[List.mem_singleton] at hz;subst hz;simp only[ub];omega) ?_;intro h1 ac am;refine xL (A:=[]) (gW (kd:=.u32) (bytes:=4) underlying27 uP I I I I I am zo8 zo8) I I I ?_;intro ai aq aa;obtain rfl:=aa;refine rA ?_;generalize ao:(zB X).getD C.length 0=p at *;generalize an:(zB Y).getD C.length 0=q at *;have ak:C.length<(zB (X+Y)).length:=by
   rcases D with(h|h)|h
   · omega
   · omega
   · by_cases h1:C.length<(zB X).length
     · omega
     · by_cases h2:C.length<(zB Y).length
       · omega
       · rw[wA oM,wA oM,zE,zE] at M
         refine zBS ?_;have:=Nat.le_mul_of_pos_right (4294967296^C.length) (Nat.pos_of_ne_zero h);omega
  refine gqL (ai,C++[(c+p+q)%4294967296],(c+p+q)/2^32,h1) ?_ ?_ (he:=⟨I,I,I,I,congrArg some (congrArg vI zo2),trivial⟩)
  ·
   refine⟨(G.trans ac),?_⟩;refine⟨by simp;omega,uQ U (aK oM),by omega,?_⟩;rw[lAz,List.length_singleton,uH,uH,ao,an,rC,Nat.pow_succ];have e:=Nat.div_add_mod (c+p+q) 4294967296;rw[show(2:Nat)^32=4294967296 from I];generalize (c+p+q)/4294967296=s at *;generalize (c+p+q)%4294967296=r at *;grind
  simp;omega
 refine go8 ?_;refine yQ (by exact U) ?_;intro h1 ac ho;refine go4 ?_;refine zC I I ?_;have h1:¬C.length<(zB X).length:=λh=>D (.inl (.inl oM));have h2:¬C.length<(zB Y).length:=λh=>D (.inl (.inr oM));have h3:c=0:=Classical.byContradiction λh=>D (.inr h);rw[wA oM,wA oM,zE,zE,h3] at M;have e:val C=X+Y:=by omega
 rw[<-e,zM7 U (by rw[e];exact aj)];exact ho
theorem zCK{v v':Value}{X Y:Nat}(hv:Us .u32 h0 v (zB X))(hv':Us .u32 h0 v' (zB Y))(hle:Y<=X)(hl:(zB X).length<=1099511627776):
 Calls Tryz.prog 128 #[v,v'] w0 (Ret w0 h0 (λh r=>Us .u32 h r (zB (X-Y)))):=by
 have am:=yL hle;refine cb2 50 v v' func128 hs ?_;refine go9 ?_;refine qY (kd:=.u32) (by':=4) _ underlying27 uP I I I I I I I oM oM I ?_;intro D;refine go5 ?_;refine asg (v:=vU .u64 0) I I (go9 ?_);refine gG (ι:=List Nat×Nat) (λ(C,c)=>C.length<=(zB X).length/\Fit C/\c<=1/\val C+val ((zB Y).take C.length)=val ((zB X).take C.length)+4294967296^C.length*c) (λ(C,c)=>[(0,v),(1,v'),(5,D),(6,vU .u64 c),(7,vI ↑C.length)]) (λ(C,c)=>[.us 124 .u32 D (tT C (zB X).length)]) (λ(C,c)=>h0) (λ(C,c)=>(zB X).length-C.length) ([],0) ?_ e5 I I ?_
 · exact⟨by simp,λx hx=>by simp at hx,by omega,by simp[val]⟩
 rintro⟨C,c⟩ ⟨aj,H,ar,J⟩
 refine yW ?_;have ai:=hv.get32 C.length;have ah:=hv'.get32 C.length;refine gc9 (λU=>?_) λU=>?_
 ·
  refine uG ?_;refine qZ (ι:=Unit) (λ(Z:(Unit))=>True) (λ(Z:(Unit))=>[(0,v),(1,v'),(5,D),(7,vI ↑C.length),(8,vU .u64 (c+(zB Y).getD C.length 0))]) (λ(Z:(Unit))=>[.us 124 .u32 D (tT C (zB X).length)]) (λ(Z:(Unit))=>h0) ?_ ?_
  ·
   refine go4 ?_;refine gv (vH underlying27 I hv') I (gc3 (λO=>?_) λO=>?_)
   ·
    refine go4 ?_;refine gv (zX (C.length) underlying27 sizeOf124 I I hv' oM oM) I (gv (xY isAgg124 I hv' oM) I (go4 ?_));refine zS (()) ?_ e5 I I
    trivial
   refine go1 ?_;refine zS (()) ?_ ⟨I,I,I,I,?_,trivial⟩ I I
   · trivial
   · exact congrArg some (congrArg (vU .u64) (by rw[sQ (xs:=zB Y) oM];omega))
  rintro Z ad
  refine yW ?_;refine go4 ?_;refine gv (zX (C.length) underlying27 sizeOf124 I I hv oM oM) I (go7 ?_);refine asg (v:=vU .u64 0) I I (go2 ?_);refine qZ (ι:=Nat) (λ(d:(Nat))=>d<=1/\c+(zB Y).getD C.length 0<=(zB X).getD C.length 0+4294967296*d/\(zB X).getD C.length 0+4294967296*d<c+(zB Y).getD C.length 0+4294967296) (λ(d:(Nat))=>[(0,v),(1,v'),(5,D),(6,vU .u64 d),(7,vI ↑C.length),(8,vU .u64 (c+(zB Y).getD C.length 0)),(9,vU .u64 ((zB X).getD C.length 0+4294967296*d))]) (λ(d:(Nat))=>[.us 124 .u32 D (tT C (zB X).length)]) (λ(d:(Nat))=>h0) ?_ ?_
  ·
   refine gc7 (λM=>?_) λM=>?_
   ·
    refine go3 ?_;refine gv (sG (k:=.u64) (q:=4294967296) (W:=18446744073709551616) I I I I oM) I (go4 ?_);refine asg (v:=vU .u64 1) I I (go1 ?_);refine zS (1) ?_ e7 I I;exact⟨by omega,by omega,by omega⟩
   refine go1 ?_;refine zS (0) ?_ e7 I I;exact⟨by omega,by omega,by omega⟩
  rintro d ⟨aa,aq,ap⟩
  refine yW ?_;refine go5 ?_;refine gv (aX (k:=.u64) (W:=18446744073709551616) I I I I oM oM) I (gv (vJ (k:=.u64) (k':=.u32) (W:=4294967296) underlying125 underlying124 I I I oM) I (gv (xC (A:=[]) (C.length) underlying27 sizeOf124 I I oM (by rw[uJ oM];omega)) I (wV sizeOf124 I I (by rw[uJ oM];omega) (go8 ?_))));generalize ac:(zB X).getD C.length 0=p at *;generalize ab:(zB Y).getD C.length 0=q at *;refine jW (C++[p+4294967296*d-(c+q)],d) ?_ ?_ ⟨I,I,I,I,?_,trivial⟩ ?_ I
  ·
   refine⟨by simp;omega,uQ H (aK oM),aa,?_⟩;rw[lAz,List.length_singleton,uH,uH,ac,ab,rC,Nat.pow_succ];have e:p+4294967296*d-(c+q)+c+q=p+4294967296*d:=by omega
   generalize p+4294967296*d-(c+q)=r at *;grind
  ·
   dsimp only;simp;omega
  · exact congrArg some (congrArg vI zo2)
  try dsimp only[List.nil_append,List.cons_append]
  rw[pK oM]
 refine go8 ?_;have hk:C.length=(zB X).length:=by omega
 rw[bY hk];refine yQ (by exact H) ?_;intro h1 ao ho;refine cL (ev1 I) call92 (λw hs=>tM hs ho oM) λae h2 an G=>(go4 ?_);refine zC I I ?_;have hk:C.length=(zB X).length:=by omega
 rw[wA oM,wA oM,zE,zE] at J;have h1:=kY H;have h2:c=0:=Classical.byContradiction λak=>by
  have:c=1:=by omega
  subst this;omega
 subst h2;have e:val C=X-Y:=by omega
 rw[e] at G;exact G
theorem zQW{v v':Value}{X Y:Nat}(hv:Us .u32 h0 v (zB X))(hv':Us .u32 h0 v' (zB Y))(hl:(zB X).length<=1099511627776):
 Calls Tryz.prog 84 #[v,v'] w0 (Ret w0 h0 (λh r=>∃u,r=.tuple #[u,vI (if X<Y then 7 else 0)]/\Us .u32 h u (zB (X-Y)))):=by
 refine cb2 13 v v' func84 hs ?_;refine qM ?_;refine cL (ev2 I I) call49 (λw hs=>oA hs hv hv') λv8 h1 H J=>?_;subst J;refine gc3 (λC=>?_) λC=>?_
 ·
  have G:=rO.1 C;refine go8 ?_;refine wK I I I ?_;rw[if_pos G,Nat.sub_eq_zero_of_le (Nat.le_of_lt G),xK];exact⟨_,I,Us.nil _ _⟩
 have U:Y<=X:=Nat.le_of_not_lt λZ=>C (rO.2 Z);refine go6 ?_;replace hv:=hv.mono H;replace hv':=hv'.mono H;refine cL (ev2 I I) call128 (λw hs=>zCK hs hv hv' oM oM) λM h2 O D=>(go5 ?_);refine wK I I I ?_;rw[if_neg oM];exact⟨_,I,D⟩
theorem bC{v v':Value}{xs ys:List Nat}(hv:Us .u32 h0 v xs)(hv':Us .u32 h0 v' ys)(hl:xs.length<=1099511627776)(hl':ys.length<=1099511627776):
 Calls Tryz.prog 50 #[v,v'] w0 (Ret w0 h0 (λh r=>Us .u32 h r (zB (val xs*val ys)))):=by
 have aq:Fit xs:=hv.lt;have ap:Fit ys:=hv'.lt;refine cb2 67 v v' func50 hs ?_;refine uG ?_;refine gv (vH underlying27 I hv') I (go1 ?_);refine qY (kd:=.u32) (by':=4) (xs.length+ys.length) underlying27 uP I I I I I oM oM oM oM I ?_;intro D;refine uG ?_;refine gcL (ι:=Nat×List Nat) (λ(k,G)=>(k<=xs.length/\G.length=xs.length+ys.length/\Fit G/\val G=val (xs.take k)*val ys/\∀i,k+ys.length<=i->G.getD i 0=0,[(0,v),(1,v'),(5,D),(6,vI ↑k)],[.us 124 .u32 D G],h0,xs.length-k)) (0,List.replicate (xs.length+ys.length) 0) ?_ ?_
 · exact⟨Nat.zero_le _,by simp,kD _,by rw[bA];simp[val],λi _=>iR _ _⟩
 rintro⟨k,G⟩ ⟨hk,ad,aa,O,hz⟩
 refine yW ?_;refine gc9 (λac=>?_) λac=>?_
 ·
  refine go6 ?_;refine asg (v:=vU .u64 0) I I (go9 ?_);refine gcL (ι:=Nat×List Nat×Nat) (λ(j,C,c)=>(j<=ys.length/\C.length=xs.length+ys.length/\Fit C/\c<4294967296/\val C+4294967296^(k+j)*c=val G+4294967296^k*(xs.getD k 0*val (ys.take j))/\∀i,k+ys.length<=i->C.getD i 0=0,[(0,v),(1,v'),(5,D),(6,vI ↑k),(7,vU .u64 c),(8,vI ↑j)],[.us 124 .u32 D C],h0,ys.length-j)) (0,G,0) ?_ ?_
  · exact⟨Nat.zero_le _,ad,aa,by omega,by simp[val],hz⟩
  rintro⟨j,C,c⟩ ⟨hj,Z,M,ae,U,J⟩
  refine yW ?_;have am:=hv.get32 k;have ak:=hv'.get32 j;have aj:=qV M (k+j);have ai:xs.getD k 0*ys.getD j 0<=4294967295*4294967295:=Nat.mul_le_mul oM oM;refine go5 ?_;refine gv (vH underlying27 I hv') I (gc3 (λab=>?_) λab=>?_)
  ·
   refine go5 ?_;refine zK 22 _ [] [(0,.q),(1,.q),(2,.q),(3,.q),(4,.q),(5,.q),(6,.q),(7,.q),(8,.q),(9,.q),(10,.q),(11,.q),(12,.q),(13,.q),(14,.q),(15,.q),(16,.q),(17,.q),(18,.q),(19,.q),(20,.q),(21,.q)] yA nX zou nX (λr hr=>hr) (go3 ?_);refine w_q I (λh' L' hh hR=>zX (k) underlying27 sizeOf124 I I (hv.mono hh) oM oM) I (w_q I (λh' L' hh hR=>xY isAgg124 I (hv.mono hh) oM) I (go3 ?_));refine w_q I (λh' L' hh hR=>zX (j) underlying27 sizeOf124 I I (hv'.mono hh) oM oM) I (w_q I (λh' L' hh hR=>xY isAgg124 I (hv'.mono hh) oM) I (go6 ?_));refine w_q I (λh' L' hh hR=>gX (hR _ mh0) (k+j) underlying27 sizeOf124 I I oM oM) I (w_q I (λh' L' hh hR=>sS (hR _ mh0) isAgg124 I oM) I (tZ ?_));refine gv (xC (A:=[]) (k+j) underlying27 sizeOf124 I I oM oM) I (wV sizeOf124 I I oM (tZ ?_));refine gqL (j+1,C.set (k+j) ((c+(xs.getD k 0*ys.getD j 0+C.getD (k+j) 0))%4294967296),(c+(xs.getD k 0*ys.getD j 0+C.getD (k+j) 0))/2^32) ?_ ?_
   ·
    refine⟨by omega,by simp[Z],nI M _ oM,by omega,?_,λi hi=>?_⟩
    · have h1:=lT (xs:=C) (i:=k+j) oM ((c+(xs.getD k 0*ys.getD j 0+C.getD (k+j) 0))%4294967296)
      have e:=Nat.div_add_mod (c+(xs.getD k 0*ys.getD j 0+C.getD (k+j) 0)) 4294967296;have e2:(2:Nat)^32=4294967296:=I;rw[uX ys j oM,e2];have ep:(4294967296:Nat)^(k+(j+1))=4294967296^k*4294967296^j*4294967296:=by rw[<-Nat.add_assoc,Nat.pow_succ,Nat.pow_add]
      rw[ep];rw[Nat.pow_add] at h1 U;generalize (c+(xs.getD k 0*ys.getD j 0+C.getD (k+j) 0))/4294967296=q at *;generalize (c+(xs.getD k 0*ys.getD j 0+C.getD (k+j) 0))%4294967296=r at *;grind
    · rw[jL oM];exact J i hi
   omega
  refine go9 ?_;refine gv (vH underlying27 I hv') I (go3 ?_);refine gv (xC (A:=[]) (k+ys.length) underlying27 sizeOf124 I I oM oM) I (wV sizeOf124 I I oM (go8 ?_));refine gqL (k+1,C.set (k+ys.length) (c%4294967296)) ?_ ?_
  ·
   have hj:j=ys.length:=by omega
   subst hj;refine⟨by omega,by simp[Z],nI M _ oM,?_,λi hi=>?_⟩
   · have h1:=lT (xs:=C) (i:=k+ys.length) oM (c%4294967296)
     rw[J _ (Nat.le_refl _)] at h1;rw[wA (Nat.le_refl _)] at U;rw[zoh ae] at h1 ⊢;rw[uX xs k oM];grind
   · rw[jL oM];exact J i oM
  omega
 refine go8 ?_;refine yQ (by exact aa) ?_;intro h1 ao ho;refine cL (ev1 I) call92 (λw hs=>tM hs ho oM) λah h2 an H=>(go4 ?_);refine zC I I ?_;rw[O,wA oM] at H;exact H
theorem zS1{v:Value}{X d:Nat}(hv:Us .u32 h0 v (zB X))(hd:d<4294967296)(hl:(zB X).length<=1099511627776):
 Calls Tryz.prog 172 #[v,vU .u32 d] w0 (Ret w0 h0 (λh r=>Us .u32 h r (zB (X*d)))):=by
 refine cb2 10 v (vU .u32 d) func172 hs ?_;refine uG ?_;refine cL (ev1 I) call96 (λw hs=>t6 hs oM) λO h1 G D=>?_;have J:=gB (n:=d) oM;replace hv:=hv.mono G;refine cL (ev2 I I) call50 (λw hs=>bC hs hv D oM oM) λM h2 H C=>?_;simp only[zE] at C;refine go4 ?_;refine zC I I ?_;exact C
theorem zFH{v:Value}{xs:List Nat}{b:Nat}(hv:Us .u32 h0 v xs)(hb:0<b)(hb':b<4294967296)(hl:xs.length<=1099511627776):
 Calls Tryz.prog 168 #[v,vU .u32 b] w0 (Ret w0 h0 (λh r=>∃u,r=.tuple #[u,vU .u32 (val xs%b)]/\Us .u32 h u (zB (val xs/b)))):=by
 have hf:Fit xs:=hv.lt;refine cb2 43 v (vU .u32 b) func168 hs ?_;refine go3 ?_;refine asg (v:=vU .u32 0) I I (go6 ?_);refine qY (kd:=.u32) (by':=4) _ underlying27 uP I I I I I I I oM oM I ?_;intro G;refine go5 ?_;refine asg (v:=vU .u64 0) I I (uV ?_);refine gG (ι:=Nat×List Nat×Nat) (λ(j,D,r)=>j<=xs.length/\D.length=xs.length-j/\Fit D/\r<b/\val (xs.drop j)=b*val D+r) (λ(j,D,r)=>[(0,v),(1,vU .u32 b),(6,G),(7,vU .u64 r),(8,vI (↑j-1))]) (λ(j,D,r)=>[.us 124 .u32 G (fE j D)]) (λ(j,D,r)=>h0) (λ(j,D,r)=>j) (xs.length,[],0) ?_ e5 ?_ I ?_
 · exact⟨Nat.le_refl _,by simp,λx hx=>by simp at hx,hb,by rw[List.drop_of_length_le (Nat.le_refl _)];rfl⟩
 ·
  try dsimp only[List.nil_append,List.cons_append]
  exact congrArg (λz=>[Res.us 124 .u32 G z]) (lJ _)
 rintro⟨j,D,r⟩ ⟨hj,ab,J,U,C⟩
 refine yW ?_;refine gc7 (λM=>?_) λM=>?_
 ·
  refine go7 ?_;refine gv (fO (k:=.u64) (s:=32) (yk:=.u64) (W:=18446744073709551616) I I I I) I (go2 ?_);refine gv (zX (j-1) underlying27 sizeOf124 I I hv oM oM) I (go1 ?_);have O:=hv.get32 (j-1);refine go1 ?_;refine gv (rS (k:=.u64) I I I (by simp only[ub];omega) (by simp only[ub];omega)) I ?_;rw[cD oM O];generalize ht:r*4294967296+xs.getD (j-1) 0=t at *;have hq:t/b<4294967296:=Nat.div_lt_of_lt_mul (by rw[<-ht];have h1:(r+1)*4294967296<=b*4294967296:=Nat.mul_le_mul_right _ U;omega);refine uG ?_;refine gv (bQ (k:=.u64) (W:=18446744073709551616) I I I I oM oM) I (gv (vJ (k:=.u64) (k':=.u32) (W:=4294967296) underlying125 underlying124 I I I oM) I (gv (xC (A:=[]) (j-1) underlying27 sizeOf124 I I oM (by rw[jG];omega)) I (wV sizeOf124 I I (by rw[jG];omega) (go6 ?_))));refine gv (bP (k:=.u64) I I oM) I (go9 ?_);refine jW (j-1,t/b::D,t%b) ?_ ?_ ⟨I,I,I,I,?_,trivial⟩ ?_ I
  ·
   refine⟨by omega,by simp only[lC];omega,rN.2 ⟨hq,J⟩,Nat.mod_lt _ hb,?_⟩;rw[kE xs (j-1) oM,show j-1+1=j by omega,val];exact zE7 C ht.symm I I
  ·
   dsimp only;omega
  · exact congrArg some (congrArg vI oM)
  try dsimp only[List.nil_append,List.cons_append]
  rw[lI oM]
 refine go8 ?_;have Z:j=0:=by omega
 subst Z;rw[bZ];refine yQ (by exact J) ?_;intro h1 ad ho;refine cL (ev1 I) call92 (λw hs=>tM hs ho oM) λaa h2 ac H=>(go1 ?_);refine gv (vJ (k:=.u64) (k':=.u32) (W:=4294967296) underlying125 underlying124 I I I oM) I (go5 ?_);refine wK I I I ?_;simp only[List.drop_zero] at C;have e1:val xs/b=val D:=by rw[C,Nat.mul_add_div hb,Nat.div_eq_of_lt U];omega
 have e2:val xs%b=r:=by rw[C,Nat.mul_add_mod,zoh U]
 rw[e1,e2];exact⟨_,I,H⟩
theorem zFG{v:Value}{X:Nat}(hv:Us .u32 h0 v (zB X))(hl:(zB X).length<=1099511627776):
 Calls Tryz.prog 177 #[v] w0 (Ret w0 h0 (λ_ r=>r=.string (qO (txt X)))):=by
 have aq:=zNZ (wO X);rw[zE] at aq;refine cb1 65 v func177 hs ?_;refine sO ?_;refine cnd (λau=>?_) λau=>?_
 ·
  have bh:(zB X).length=0:=by omega
  refine go7 ?_;refine zC I I ?_;have e:X=0:=Classical.byContradiction λZ=>by have:=yP.2 Z;omega
  rw[e];rfl
 have bj:(zB X).length≠0:=by omega
 refine go4 ?_;refine oV (pP (v:=.slice none 0 0) I) I I I (zC3 (E:=5) (k:=.u8) (go4 ?_));refine gG (ι:=Value×Nat×Value×List Nat×Mem) (λ(va,n,U,ds,H)=>MLe h0 H/\(Us .u32 H va (zB n)/\n<=X/\ds++y6 n=y6 (X))) (λ(va,n,U,ds,H)=>[(0,va),(3,U)]) (λ(va,n,U,ds,H)=>[.us 5 .u8 U ds]) (λ(va,n,U,ds,H)=>H) (λ(va,n,U,ds,H)=>n) (v,X,.slice none 0 0,[],h0) ?_ e2z I I ?_
 ·
  refine⟨MLe.refl _,?_⟩;exact⟨hv,Nat.le_refl _,I⟩
 rintro⟨va,n,U,ds,H⟩ ⟨ah,⟨ha,an,aa⟩⟩
 refine yW ?_;have ba:(zB n).length<=(zB X).length:=yL an;refine gc8 (λac=>?_) λac=>?_
 ·
  refine go6 ?_;refine cL (vs:=[_,vU .u32 1000000000]) e2z call168 (λw hs=>zFH hs ha oM oM oM) λbe h1 ao am=>?_;obtain⟨ai,rfl,D⟩:=am;rw[zE] at D ⊢;refine tZ ?_;refine gG (ι:=Nat×Nat×Value×List Nat×Mem) (λ(i,x,J,C,M)=>MLe h1 M/\(i<=9/\x<10^(9-i)/\C++y6 (x+10^(9-i)*(n/1000000000))=y6 (X))) (λ(i,x,J,C,M)=>[(3,J),(4,ai),(5,vU .u32 x),(6,vI ↑i)]) (λ(i,x,J,C,M)=>[.us 5 .u8 J C]) (λ(i,x,J,C,M)=>M) (λ(i,x,J,C,M)=>9-i) (0,n%1000000000,U,ds,h1) ?_ e4z I I ?_
  ·
   refine⟨MLe.refl _,?_⟩;exact⟨by omega,by omega,by rw[<-aa];congr 2;omega⟩
  rintro⟨i,x,J,C,M⟩ ⟨G,⟨hi,ae,O⟩⟩
  refine yW ?_;have bi:x<4294967296:=Nat.lt_of_lt_of_le ae (Nat.le_trans (Nat.pow_le_pow_right oM (show 9-i<=9 by omega)) dC);refine go5 ?_;refine gU 9 30 (vB (((i:Int)<9)/\(0<x\/(0:Int)<↑(zB (n/1000000000)).length))) ?_ ?_
  ·
   refine zY ((i:Int)<9) (λhg=>?_) (λhg=>?_)
   ·
    refine gT hg I (go3 ?_);refine gv (mG (k:=.u32) (q:=0) I I) I ?_;refine gU 5 29 (vB ((0<x)\/((0:Int)<↑(zB (n/1000000000)).length))) ?_ ?_
    ·
     refine zY (0<x) (λhg=>?_) (λhg=>?_)
     ·
      refine go1 ?_;refine gT hg I (go6 ?_);refine gqU ?_;exact congrArg some (vD hg)
     refine go1 ?_;refine gF hg I ?_;replace D:=D.mono G;refine go9 ?_;refine gqU ?_;exact congrArg some (vG hg)
    refine go2 ?_;refine gqU ?_;exact congrArg some (xD hg)
   refine gF hg I (go9 ?_);refine gqU ?_;exact congrArg some (xE hg)
  refine gc2 (λab=>?_) λab=>?_
  ·
   have bb:C.length<=(y6 (X)).length:=by rw[<-O];simp
   refine go8 ?_;refine gv (bP (k:=.u32) (q:=10) I I oM) I (gv (sG (k:=.u32) (p:=48) (W:=4294967296) I I I I oM) I (gv (vJ (k:=.u32) (k':=.u8) (W:=256) underlying124 underlying5 I I I oM) I (zG (pF (kd:=.u8) underlying215 zRK I I I) I I I ?_)));intro bd bg ak;obtain rfl:=ak;refine yQ (by intro z hz;simp only[List.mem_singleton] at hz;subst hz;simp only[ub];omega) ?_;intro h2 ay az;refine xL (A:=[]) (gW (kd:=.u8) (bytes:=1) underlying215 zRK I I I I I az zo8 zo8) I I I ?_;intro av bf aj;obtain rfl:=aj;refine go5 ?_;refine gv (bQ (k:=.u32) (q:=10) (W:=4294967296) I I I I oM oM) I (go9 ?_);refine jW (i+1,x/10,av,C++[48+x%10],h2) ?_ ?_ e4z I I
   ·
    refine⟨(G.trans ay),?_⟩;obtain⟨h9,hor⟩:=ab;obtain⟨k,hk⟩:∃k,9-i=k+1:=⟨8-i,by omega⟩;have bk:=yP (n:=n/1000000000);refine⟨by omega,?_,?_⟩
    · rw[show 9-(i+1)=k by omega]
      rw[hk,Nat.pow_succ] at ae;omega
    · rw[show 9-(i+1)=k by omega]
      rw[hk,zUL oM] at O;rw[List.append_assoc];exact O
   dsimp only;omega
  refine uG ?_;refine jW (ai,n/1000000000,J,C,M) ?_ ?_ e2z I I
  ·
   refine⟨((ah.trans ao).trans G),?_⟩;replace D:=D.mono G;refine⟨D,by omega,?_⟩;rw[<-O]
   congr 2
   by_cases h9:i=9
   · subst h9;simp at ae ⊢;omega
   · have h1:¬(0<x\/(0:Int)<↑(zB (n/1000000000)).length):=λh=>ab ⟨by omega,h⟩
     have h2:n/1000000000=0:=Classical.byContradiction λZ=>h1 (.inr (by have:=yP.2 Z;omega));rw[h2,show x=0 by omega,Nat.mul_zero]
  dsimp only;have:=yP (n:=n);omega
 have aw:n=0:=Classical.byContradiction λZ=>ac (by have:=yP.2 Z;omega);subst aw;rw[zJD,List.append_nil] at aa;have bc:ds.length<=10*(zB X).length:=by rw[aa];exact aq
 refine go8 ?_;refine gv (rY (A:=[]) underlying215 I) I (qY (kd:=.u8) (by':=1) (ds.length) underlying215 zRK I I I I I oM oM oM oM I ?_);intro ad;refine uG ?_;refine gG (ι:=Nat) (λ(k:(Nat))=>k<=ds.length) (λ(k:(Nat))=>[(3,U),(7,ad),(8,vI ↑k)]) (λ(k:(Nat))=>[.us 5 .u8 ad (fE (ds.length-k) (ds.take k).reverse),.us 5 .u8 U ds]) (λ(k:(Nat))=>H) (λ(k:(Nat))=>ds.length-k) 0 ?_ e3z ?_ I ?_
 · exact Nat.zero_le _
 ·
  try dsimp only[List.nil_append,List.cons_append]
  exact congrArg (λz=>[Res.us 5 .u8 ad z,Res.us 5 .u8 U ds]) (lJ _)
 rintro k hk
 refine yW ?_;refine go5 ?_;refine gv (rY (A:=[_]) underlying215 I) I (gc3 (λar=>?_) λar=>?_)
 ·
  refine go7 ?_;refine gv (rY (A:=[_]) underlying215 I) I (go5 ?_);refine gv (xC (A:=[_]) (k) underlying215 sizeOf5 I I oM oM) I (gv (fY (A:=[_]) isAgg5 I oM) I (gv (xC (A:=[]) (ds.length-k-1) underlying215 sizeOf5 I I oM (by rw[jG,List.length_reverse,List.length_take];omega)) I (wV sizeOf5 I I (by rw[jG,List.length_reverse,List.length_take];omega) (go8 ?_))));refine jW (k+1) ?_ ?_ e3z ?_ I
  · omega
  · omega
  try dsimp only[List.nil_append,List.cons_append]
  rw[lI oM,iY ds k oM,List.reverse_append,List.reverse_singleton,List.singleton_append,Nat.sub_sub]
 refine go8 ?_;have ax:k=ds.length:=by omega
 rw[ax,Nat.sub_self,bZ,List.take_length];refine yQ (by intro z hz;rw[aa] at hz;exact zR9 _ z (List.mem_reverse.1 hz)) ?_;intro h1 ao ap;refine gv (zJ7 underlying215 underlying5 underlying9 I ap) I (go4 ?_);refine zC I I ?_;have e:X≠0:=yP.1 oM;rw[txt,if_neg e,<-aa]
theorem zV5{v:Value}{X n:Nat}(hv:Us .u32 h0 v (zB X))(hn:n<=16384)(hl:(zB X).length<=1099511627776):
 Calls Tryz.prog 170 #[v,vI ↑n] w0 (Ret w0 h0 (λh r=>Us .u32 h r (zB (X*2^n)))):=by
 obtain⟨s,az⟩:∃s,s=n%32:=⟨_,I⟩;have hp:2^s<=2147483648:=Nat.pow_le_pow_right (n:=2) oM (show s<=31 by omega);have aj:0<2^s:=Nat.pow_pos oM;refine cb2 40 v (vI ↑n) func170 hs ?_;refine go8 ?_;refine gv (zFO (q:=32) I I oM oM oM) I (qY (kd:=.u32) (by':=4) (n/32) underlying27 uP I I I I I oM oM oM oM I ?_);intro ai;refine go5 ?_;refine asg (v:=vU .u64 0) I I (go9 ?_);refine gG (ι:=Value×List Nat×Nat×Mem) (λ(J,C,c,M)=>MLe h0 M/\(C.length<=(zB X).length/\Fit C/\c<2^s/\val C+4294967296^C.length*c=val ((zB X).take C.length)*2^s)) (λ(J,C,c,M)=>[(0,v),(1,vI ↑n),(5,J),(6,vU .u64 c),(7,vI ↑C.length)]) (λ(J,C,c,M)=>[.us 124 .u32 J (List.replicate (n/32) 0++C)]) (λ(J,C,c,M)=>M) (λ(J,C,c,M)=>(zB X).length-C.length) (ai,[],0,h0) ?_ e5 ?_ I ?_
 ·
  refine⟨MLe.refl _,?_⟩;exact⟨by simp,λx hx=>by simp at hx,aj,by simp[val]⟩
 ·
  try dsimp only[List.nil_append,List.cons_append]
  rw[List.append_nil]
 rintro⟨J,C,c,M⟩ ⟨H,⟨ay,ac,hc,D⟩⟩
 refine yW ?_;replace hv:=hv.mono H;refine gc9 (λae=>?_) λae=>?_
 ·
  refine go9 ?_;refine gv (zX (C.length) underlying27 sizeOf124 I I hv oM oM) I (go1 ?_);have ax:=hv.get32 C.length;have aw:(zB X).getD C.length 0*2^s<18446744073709551616-4294967296:=by
   have:=Nat.mul_le_mul (show(zB X).getD C.length 0<=4294967295 by omega) hp;omega
  refine go2 ?_;refine gv (wC (q:=32) I I oM oM) I ?_;rw[show(↑n:Int)%32=↑s by omega];refine gv (fO (k:=.u64) (s:=s) (yk:=.i64) (W:=18446744073709551616) I I I I) I ?_;rw[zoh oM];refine gv (rS (k:=.u64) I I I (by simp only[ub];omega) (by simp only[ub];omega)) I ?_;rw[zO9 hc];refine go8 ?_;refine zG (pF (kd:=.u32) underlying27 uP I I I) I I I ?_;intro ap av aa;obtain rfl:=aa;refine yQ (by intro z hz;simp only[List.mem_singleton] at hz;subst hz;simp only[ub];omega) ?_;intro h1 ab ak;refine xL (A:=[]) (gW (kd:=.u32) (bytes:=4) underlying27 uP I I I I I ak zo7 zo7) I I I ?_;intro ah au Z;obtain rfl:=Z;refine rA ?_;refine jW (ah,C++[((zB X).getD C.length 0*2^s+c)%4294967296],((zB X).getD C.length 0*2^s+c)/2^32,h1) ?_ ?_ ⟨I,I,I,I,?_,trivial⟩ ?_ I
  ·
   refine⟨(H.trans ab),?_⟩;refine⟨by simp;omega,uQ ac (aK oM),?_,?_⟩
   · refine Nat.div_lt_of_lt_mul ?_
     have:=Nat.mul_le_mul_right (2^s) (show(zB X).getD C.length 0+1<=2^32 by omega);rw[Nat.add_mul] at this;omega
   · have e:=Nat.div_add_mod ((zB X).getD C.length 0*2^s+c) 4294967296
     have e2:(2:Nat)^32=4294967296:=I;rw[lAz,List.length_singleton,uX (zB X) _ oM,rC,Nat.pow_succ,e2];generalize ((zB X).getD C.length 0*2^s+c)/4294967296=q at *;generalize ((zB X).getD C.length 0*2^s+c)%4294967296=r at *;grind
  ·
   dsimp only;simp;omega
  · exact congrArg some (congrArg vI zo2)
  try dsimp only[List.nil_append,List.cons_append]
  rw[List.append_assoc]
 refine uG ?_;refine zG (pF (kd:=.u32) underlying27 uP I I I) I I I ?_;intro ao ar U;obtain rfl:=U;refine yQ (by intro z hz;simp only[List.mem_singleton] at hz;subst hz;simp only[ub];omega) ?_;intro h1 ab ad;refine xL (A:=[]) (gW (kd:=.u32) (bytes:=4) underlying27 uP I I I I I ad zo7 zo7) I I I ?_;intro an aq O;obtain rfl:=O;refine yQ (by exact uQ (uQ (kD _) ac) (aK oM)) ?_;intro h2 bb ho;refine cL (ev1 I) call92 (λw hs=>tM hs ho (by simp;omega)) λam h3 ba G=>(go4 ?_);refine zC I I ?_;have hk:C.length=(zB X).length:=by omega
 rw[wA oM,zE] at D;rw[zoh oM,List.append_assoc,aV,bA,lR,rC,D,zHR,Nat.zero_add,show 32*(n/32)+s=n by omega] at G;exact G
theorem zV6{v:Value}{X n:Nat}(hv:Us .u32 h0 v (zB X))(hn:n<9223372036854775808)(hl:(zB X).length<=1099511627776):
 Calls Tryz.prog 173 #[v,vI ↑n] w0 (Ret w0 h0 (λh r=>Us .u32 h r (zB (X/2^n)))):=by
 obtain⟨s,ah⟩:∃s,s=n%32:=⟨_,I⟩;refine cb2 55 v (vI ↑n) func173 hs ?_;refine go9 ?_;refine gv (zFO (q:=32) I I oM oM oM) I (gc5 (λZ=>?_) λZ=>?_)
 ·
  refine go7 ?_;refine zC I I ?_;rw[show X/2^n=0 from zK5 oM,xK];exact Us.nil _ _
 refine go6 ?_;refine gv (zFO (q:=32) I I oM oM oM) I ?_;rw[show(↑n:Int)/32=↑(n/32) by omega];refine gv (jI (n/32) underlying27 sizeOf124 I I hv.shape oM oM) I ?_;have D:=hv.sub (lo:=n/32) (hi:=(zB X).length) oM oM;rw[List.take_of_length_le (by rw[List.length_drop];omega)] at D;have an:(List.drop (n/32) (zB X)).length=(zB X).length-n/32:=List.length_drop;refine go1 ?_;have M:Fit (List.drop (n/32) (zB X)):=iS (wO _) _;have aa:=kQ (wO X) (n/32);rw[zE] at aa;obtain⟨vR,ab⟩:∃z,z=fX 1 v (n/32) (zB X).length:=⟨_,I⟩;rw[<-ab] at D ⊢;generalize List.drop (n/32) (zB X)=Rs at *;refine go6 ?_;refine qY (kd:=.u32) (by':=4) (Rs.length) underlying27 uP I I I I I oM oM oM oM I ?_;intro G;refine uG ?_;refine gcL (ι:=List Nat) (λ(C:(List Nat))=>(C.length<=Rs.length/\C=(List.range C.length).map (eZ s Rs),[(0,vR),(1,vI ↑n),(5,G),(6,vI ↑C.length)],[.us 124 .u32 G (tT C Rs.length)],h0,Rs.length-C.length)) [] ?_ ?_
 · exact⟨by simp,I⟩
 rintro C ⟨ae,J⟩
 refine yW ?_;refine gc9 (λU=>?_) λU=>?_
 ·
  refine go8 ?_;refine gv (zX (C.length) underlying27 sizeOf124 I I D oM oM) I (go1 ?_);have am:=qV M C.length;have ak:=qV M (C.length+1);refine go4 ?_;refine qZ (ι:=Unit) (λ(_u:(Unit))=>True) (λ(_u:(Unit))=>[(0,vR),(1,vI ↑n),(5,G),(6,vI ↑C.length),(7,vU .u64 (Rs.getD C.length 0+4294967296*Rs.getD (C.length+1) 0))]) (λ(_u:(Unit))=>[.us 124 .u32 G (tT C Rs.length)]) (λ(_u:(Unit))=>h0) ?_ ?_
  ·
   refine gc9 (λO=>?_) λO=>?_
   ·
    refine go5 ?_;refine gv (zX (C.length+1) underlying27 sizeOf124 I I D oM oM) I (go2 ?_);refine gv (fO (k:=.u64) (s:=32) (yk:=.u64) (W:=18446744073709551616) I I I I) I (gv (rS (k:=.u64) I I I (by simp only[ub];omega) (by simp only[ub];omega)) I ?_);rw[Nat.or_comm,cD oM oM];refine go2 ?_;refine zS (()) ?_ ⟨I,I,I,I,?_,trivial⟩ I I
    · trivial
    · exact congrArg some (congrArg (vU .u64) oM)
   refine go1 ?_;refine zS (()) ?_ ⟨I,I,I,I,?_,trivial⟩ I I
   · trivial
   · exact congrArg some (congrArg (vU .u64) (by rw[sQ (xs:=Rs) (i:=C.length+1) oM];omega))
  rintro _u ac
  refine yW ?_;refine go5 ?_;refine gv (wC (q:=32) I I oM oM) I ?_;rw[show(↑n:Int)%32=↑s by omega];refine gv (fN (k:=.u64) (s:=s) (yk:=.i64) I I I (by simp only[ub];omega)) I (go1 ?_);rw[zVN oM oM];refine gv (xC (A:=[]) (C.length) underlying27 sizeOf124 I I oM (by rw[uJ oM];omega)) I (wV sizeOf124 I I (by rw[uJ oM];omega) (go8 ?_));refine gqL (C++[eZ s Rs C.length]) ?_ ?_ (he:=⟨I,I,I,?_,trivial⟩) (hL:=?_)
  ·
   refine⟨by simp;omega,?_⟩;rw[lAz,List.length_singleton,List.range_succ,List.map_append,List.map_singleton,<-J]
  · simp;omega
  · exact congrArg some (congrArg vI zo2)
  try dsimp only[List.nil_append,List.cons_append]
  rw[pK oM]
 refine go8 ?_;have hk:C.length=Rs.length:=by omega
 rw[bY hk];refine yQ (by rw[J];intro z hz;obtain⟨w,_,rfl⟩:=List.mem_map.1 hz;exact zQS s Rs w) ?_;intro h1 aj ho;refine cL (ev1 I) call92 (λw hs=>tM hs ho oM) λad h2 ai H=>(go4 ?_);refine zC I I ?_;rw[J,hk,zSS M,aa,zHZ,show 32*(n/32)+s=n by omega] at H;exact H
theorem dL{v:Value}{X:Nat}(hv:Us .u32 h0 v (zB X)):
 Calls Tryz.prog 167 #[v] w0 (Ret w0 h0 (λ_ r=>r=.tuple #[vU .u64 (if(zB X).length<=2 then X else 0),vB ((zB X).length<=2)])):=by
 have U:=hv.get32 0;have O:=hv.get32 1;have Z:=zE X;have M:=hv.lt63;refine cb1 26 v func167 hs ?_;refine go2 ?_;refine asg (v:=vU .u64 0) I I (nR ?_);refine cnd (λJ=>?_) λJ=>?_
 ·
  refine go2 ?_;refine asg (v:=vU .u64 0) I I (go6 ?_);refine wK I I I ?_;have h0:X=0:=Classical.byContradiction λG=>by have:=yP.2 G;omega
  rw[xM oM,if_pos oM,h0]
 refine gc6 (λH=>?_) λH=>?_
 ·
  have D:=zAO (xs:=zB X) oM;refine go3 ?_;refine gv (zX (q:=0) (0) underlying27 sizeOf124 I I hv I oM) I (go9 ?_);refine wK I I I ?_;rw[xM oM,if_pos oM,<-D,zE]
 refine gc6 (λC=>?_) λC=>?_
 ·
  refine go1 ?_;refine zK 12 _ [] [(0,.q),(1,.q),(2,.q),(3,.q),(4,.q),(5,.q),(6,.q),(7,.q),(8,.q),(9,.q),(10,.q),(11,.q)] yA nX zou nX (λr hr=>hr) (go1 ?_);refine w_q I (λh' L' hh hR=>zX (q:=0) (0) underlying27 sizeOf124 I I (hv.mono hh) I oM) I (w_q I (λh' L' hh hR=>xY isAgg124 I (hv.mono hh) oM) I (go2 ?_));refine w_q I (λh' L' hh hR=>zX (q:=1) (1) underlying27 sizeOf124 I I (hv.mono hh) I oM) I (w_q I (λh' L' hh hR=>xY isAgg124 I (hv.mono hh) oM) I (go1 ?_));refine wI I (λ_ _=>fO (k:=.u64) (s:=32) (yk:=.u64) (W:=18446744073709551616) I I I I) I (wI I (λ_ _=>rS (k:=.u64) I I I (by simp only[ub];omega) (by simp only[ub];omega)) I ?_);rw[Nat.or_comm,cD oM oM];refine go7 ?_;refine wK I I I ?_;have h1:=uH (zB X) 1;have h2:=uH (zB X) 0;rw[wA oM,zE] at h1;rw[List.take_zero] at h2;simp only[val,Nat.zero_add] at h2;rw[xM oM,if_pos oM];have e:(zB X).getD 1 0*4294967296+(zB X).getD 0 0=X:=by omega
  rw[e]
 refine go5 ?_;refine asg (v:=vU .u64 0) I I (go4 ?_);refine wK I I I ?_;rw[yH oM,if_neg oM]
theorem zDO{v:Value}{X k:Nat}(hv:Us .u32 h0 v (zB X))(hk:k<=4398046511104)(hl:(zB X).length<=4398046511104):
 Calls Tryz.prog 171 #[v,vI ↑k] w0 (Ret w0 h0 (λh r=>Us .u32 h r (zB (X*4294967296^k)))):=by
 refine cb2 12 v (vI ↑k) func171 hs ?_;refine sO ?_;refine cnd (λG=>?_) λG=>?_
 ·
  have h0:X=0:=Classical.byContradiction λD=>by have:=yP.2 D;omega
  refine go7 ?_;refine zC I I ?_;rw[h0,Nat.zero_mul,xK];exact Us.nil _ _
 have h0:X≠0:=yP.1 oM;refine go5 ?_;refine qY (kd:=.u32) (by':=4) (k) underlying27 uP I I I I I oM oM oM oM I ?_;intro U;refine go1 ?_;refine xL (A:=[]) (gW (kd:=.u32) (bytes:=4) underlying27 uP I I I I I hv (by rw[lR];omega) (by rw[lR];omega)) I I I ?_;intro H J C;obtain rfl:=C;refine yQ (by exact uQ (kD _) (wO _)) ?_;intro h1 O M;refine go4 ?_;refine zC I I ?_;rw[<-zM6 h0];exact M
end
set_option maxHeartbeats 1000000 in
section
variable{w0:World}{h0:Mem}(hs:MLe h0 (mem w0))
include hs
theorem zJY{v v':Value}{X Y:Nat}(hv:Us .u32 h0 v (zB X))(hv':Us .u32 h0 v' (zB Y))(hl:(zB X).length<=549755813888)(hl':(zB Y).length<=549755813888):
 Calls Tryz.prog 127 #[v,v'] w0 (Ret w0 h0 (λh z=>∃q r,z=.tuple #[q,r,vI (if Y=0 then 3 else 0)]/\Us .u32 h q (zB (X/Y))/\Us .u32 h r (zB (if Y=0 then 0 else X%Y)))):=by
 refine cb2 163 v v' func127 hs ?_;refine qM ?_;refine gv (vH underlying27 I hv') I (gc3 (λcj=>?_) λcj=>?_)
 ·
  have cp:Y=0:=Classical.byContradiction λcy=>by have:=yP.2 cy;omega
  refine go9 ?_;refine uN I I I I ?_;rw[cp,Nat.div_zero,if_pos I,if_pos I,xK];exact⟨_,_,I,Us.nil _ _,Us.nil _ _⟩
 have C:Y≠0:=yP.1 oM;refine go7 ?_;refine cL (ev2 I I) call49 (λw hs=>oA hs hv hv') λeg h1 aw bw=>?_;subst bw;refine gc3 (λap=>?_) λap=>?_
 ·
  have O:=rO.1 ap;refine go3 ?_;replace hv:=hv.mono aw;refine cL (ev1 I) call92 (λw hs=>tM hs hv oM) λef h2 an ba=>?_;rw[zE] at ba;refine go7 ?_;refine uN I I I I ?_;rw[Nat.div_eq_of_lt O,zoh O,if_neg C,if_neg C,xK];exact⟨_,_,I,Us.nil _ _,ba⟩
 have cb:Y<=X:=Nat.le_of_not_lt λhc=>ap (rO.2 hc);have ep:=yL cb;refine go6 ?_;replace hv:=hv.mono aw;refine cL (ev1 I) call167 (λw hs=>dL hs hv) λee h2 an bv=>?_;subst bv;refine zK3 (λao=>?_) λao=>?_
 ·
  have hw:=nD ao;have ei:=nD (n:=Y) oM;refine go3 ?_;replace hv':=hv'.mono (aw.trans an);refine cL (ev1 I) call167 (λw hs=>dL hs hv') λed h3 av bu=>?_;subst bu;refine go2 ?_;rw[if_pos ao,if_pos (show(zB Y).length<=2 by omega)];refine go6 ?_;refine zK 11 _ [] [(0,.q),(1,.q),(2,.q),(4,.q),(5,.q),(6,.q),(3,.c),(7,.c),(8,.q),(9,.q),(10,.q)] yA nX zou nX (λr hr=>hr) (go2 ?_);refine wI I (λ_ _=>bQ (k:=.u64) (W:=18446744073709551616) I I I I oM oM) I (go2 ?_);refine wI I (λ_ _=>bP (k:=.u64) I I oM) I ?_;refine w_c I ?_;have dt:=Nat.div_le_self X Y;have bp:=Nat.mod_lt X (Nat.pos_of_ne_zero C);refine sC (ev1 I) call96 (λw hs=>t6 hs oM) λec h4 au ae=>?_;refine w_c I (sC (ev1 I) call96 (λw hs=>t6 hs oM) λeb h5 bi bt=>(go2 ?_));refine zLH (v:=vI (0)) I I I (go4 ?_);refine uN I I I I ?_;replace ae:=ae.mono bi;rw[if_neg C,if_neg C];exact⟨_,_,I,ae,bt⟩
 refine go6 ?_;replace hv':=hv'.mono (aw.trans an);refine gv (vH underlying27 I hv') I (gc3 (λci=>?_) λci=>?_)
 ·
  have bb:(zB Y).length=1:=by omega
  have dc:(zB Y).getD 0 0≠0:=by have:=sW (n:=Y) oM;rwa [bb] at this
  have bn:=zAO bb;rw[zE] at bn;refine go4 ?_;refine gv (zX (q:=0) (0) underlying27 sizeOf124 I I hv' I oM) I (gv (xY isAgg124 I hv' oM) I ?_);have es:=hv'.get32 0;replace hv:=hv.mono an;refine cL (ev2 I I) call168 (λw hs=>zFH hs hv oM oM oM) λea h3 av bs=>?_;obtain⟨eh,rfl,J⟩:=bs;rw[zE] at J ⊢;have bp:=Nat.mod_lt X (Nat.pos_of_ne_zero dc);refine uV ?_;refine cL (ev1 I) call96 (λw hs=>t6 hs oM) λdz h4 au az=>(go7 ?_);refine uN I I I I ?_;replace J:=J.mono au;rw[<-bn] at J az;rw[if_neg C,if_neg C];exact⟨_,_,I,J,az⟩
 have bz:2<=(zB Y).length:=by omega
 refine go6 ?_;refine gv (vH underlying27 I hv') I (go1 ?_);refine gv (jI ((zB Y).length-1) underlying27 sizeOf124 I I hv'.shape oM oM) I ?_;have ad:=hv'.sub (lo:=(zB Y).length-1) (hi:=(zB Y).length) oM oM;rw[List.take_of_length_le (by rw[List.length_drop];omega),zP0 oM] at ad;have hgt:=hv'.get32 ((zB Y).length-1);have ej:=gB (n:=(zB Y).getD ((zB Y).length-1) 0) oM;have dx:=mS (n:=(zB Y).getD ((zB Y).length-1) 0) (k:=32) hgt;refine cL (ev1 I) call169 (λw hs=>zV7 hs ad oM) λdy h3 av br=>?_;subst br;refine gv (jD (p:=32) I I oM oM) I ?_;obtain⟨s,cw⟩:∃s,s=32-uK ((zB Y).getD ((zB Y).length-1) 0):=⟨_,I⟩;rw[show(32:Int)-↑(uK ((zB Y).getD ((zB Y).length-1) 0))=↑s by omega];obtain⟨bo,ac,cu⟩:=zF9 (k:=(zB Y).length-1) C oM cw;refine go7 ?_;replace hv':=hv'.mono av;refine cL (ev2 I I) call170 (λw hs=>zV5 hs hv' oM oM) λaq h4 au D=>(go2 ?_);replace hv:=hv.mono ((an.trans av).trans au);refine cL (ev2 I I) call170 (λw hs=>zV5 hs hv oM oM) λcn h5 bi ay=>(go2 ?_);replace D:=D.mono bi;replace ac:(zB (Y*2^s)).length=(zB Y).length:=by omega
 have ck:=sZ (n:=Y*2^s) (k:=(zB Y).length-1) oM;generalize em:(zB Y).length=n at *;obtain⟨V,hV⟩:∃V,V=Y*2^s:=⟨_,I⟩;obtain⟨U,hU⟩:∃U,U=X*2^s:=⟨_,I⟩;rw[<-hV] at D ac cu ck;rw[<-hU] at ay;have cm:=zQN bz ac;rw[zE] at cm;have ct:=kY (fV (wO V) (n-2));rw[List.length_take,Nat.min_eq_left oM] at ct;have ew:(zB U).length<=(zB X).length+1:=by rw[hU];exact Nat.le_trans (yN X (2^s)) (Nat.add_le_add_left (qN (k:=1) (by rw[Nat.pow_one];exact Nat.lt_of_lt_of_le (Nat.pow_lt_pow_right dC bo) dC)) _)
 have df:V<=U:=by rw[hV,hU];exact Nat.mul_le_mul_right _ cb
 have bx:=yL df;rw[ac] at bx;have cv:=zOP (qC U) ck oM bx;generalize bq:(zB U).length=r at *;have dr:=qV (wO V) (n-1);refine go6 ?_;rw[ac];refine go7 ?_;rw[bq];refine go3 ?_;refine qY (kd:=.u32) (by':=4) (r-n+1) underlying27 uP I I I I I oM oM oM oM I ?_;intro G;refine go8 ?_;rw[bq];refine go6 ?_;refine gG (ι:=Nat×Value×Nat×List Nat×Mem) (λ(K,vr,R,qs,k1)=>MLe h5 k1/\(Us .u32 k1 vr (zB R)/\K<=r-n+1/\qs.length=r-n+1-K/\Fit qs/\R+4294967296^K*(val qs*V)=U/\R<4294967296^K*V/\(zB R).length<=r)) (λ(K,vr,R,qs,k1)=>[(1,aq),(4,G),(5,vr),(13,vI ↑s),(14,vI ↑n),(15,vI (↑K-1))]) (λ(K,vr,R,qs,k1)=>[.us 124 .u32 G (fE K qs)]) (λ(K,vr,R,qs,k1)=>k1) (λ(K,vr,R,qs,k1)=>K) (r-n+1,cn,U,[],h5) ?_ ⟨?_,?_,?_,?_,?_,?_,trivial⟩ ?_ I ?_
 ·
  refine⟨MLe.refl _,?_⟩;exact⟨ay,Nat.le_refl _,by simp,λx hx=>by simp at hx,by simp[val],cv,by omega⟩
 · exact I
 · exact I
 · exact I
 · exact I
 · exact I
 · exact congrArg some (congrArg vI oM)
 ·
  try dsimp only[List.nil_append,List.cons_append]
  exact congrArg (λz=>[Res.us 124 .u32 G z]) (lJ _)
 rintro⟨K,vr,R,qs,k1⟩ ⟨bc,⟨hR,hK,el,cc,aa,O,ey⟩⟩
 refine yW ?_;refine gc7 (λch=>?_) λch=>?_
 ·
  refine go6 ?_;refine asg (v:=vU .u64 0) I I (go2 ?_);have ev:=qV (wO R) (K-1+n);have eu:=qV (wO R) (K-1+n-1);have dd:=qV (wO R) (K-1+n-2);refine qZ (ι:=Unit) (λ(_u:(Unit))=>True) (λ(_u:(Unit))=>[(1,aq),(4,G),(5,vr),(13,vI ↑s),(14,vI ↑n),(15,vI (↑K-1)),(16,vU .u64 ((zB R).getD (K-1+n) 0))]) (λ(_u:(Unit))=>[.us 124 .u32 G (fE K qs)]) (λ(_u:(Unit))=>k1) ?_ ?_
  ·
   refine zC5 (λcg=>?_) λcg=>?_
   ·
    refine go5 ?_;refine gv (zX (K-1+n) underlying27 sizeOf124 I I hR oM oM) I (go4 ?_);refine zS (()) ?_ e7 I I
    trivial
   refine go1 ?_;refine zS (()) ?_ ⟨I,I,I,I,I,I,?_,trivial⟩ I I
   · trivial
   · exact congrArg some (congrArg (vU .u64) (by rw[sQ (xs:=zB R) oM]))
  rintro _u cf
  refine yW ?_;refine qZ (ι:=Unit) (λ(_u:(Unit))=>True) (λ(_u:(Unit))=>[(1,aq),(4,G),(5,vr),(13,vI ↑s),(14,vI ↑n),(15,vI (↑K-1)),(16,vU .u64 ((zB R).getD (K-1+n) 0*4294967296+(zB R).getD (K-1+n-1) 0))]) (λ(_u:(Unit))=>[.us 124 .u32 G (fE K qs)]) (λ(_u:(Unit))=>k1) ?_ ?_
  ·
   refine zC4 (λbj=>?_) λbj=>?_
   ·
    refine go2 ?_;refine gv (fO (k:=.u64) (s:=32) (yk:=.u64) (W:=18446744073709551616) I I I I) I (go5 ?_);refine gv (zX (K-1+n-1) underlying27 sizeOf124 I I hR oM oM) I (go2 ?_);refine gv (rS (k:=.u64) I I I (by simp only[ub];omega) (by simp only[ub];omega)) I ?_;rw[cD oM oM];refine go2 ?_;refine zS (()) ?_ e7 I I
    trivial
   refine go2 ?_;refine gv (fO (k:=.u64) (s:=32) (yk:=.u64) (W:=18446744073709551616) I I I I) I (go2 ?_);refine zS (()) ?_ ⟨I,I,I,I,I,I,?_,trivial⟩ I I
   · trivial
   · exact congrArg some (congrArg (vU .u64) (by rw[sQ (xs:=zB R) (i:=K-1+n-1) oM];omega))
  rintro _u cf
  refine yW ?_;have de:V<4294967296^n:=by rw[<-ac];exact qC V
  have dh:R<4294967296^(K+n):=Nat.lt_of_lt_of_le O (by rw[Nat.pow_add];exact Nat.mul_le_mul_left _ (Nat.le_of_lt de));have co:∀i,K+n<=i->(zB R).getD i 0=0:=λi hi=>eO (by rw[zE];exact dh) hi;obtain⟨wr,hW,cq⟩:=zH6 (j:=K-1) bz (λi hi=>co i oM) (wO R);rw[kQ (wO R),zE] at hW;have cl:=zV8 (R:=R) (V:=V) (k:=K-1) (by rw[Nat.sub_add_cancel oM];exact O);obtain⟨top,ax⟩:∃t,t=(zB R).getD (K-1+n) 0*4294967296+(zB R).getD (K-1+n-1) 0:=⟨_,I⟩;rw[<-ax];rw[<-ax] at hW;have ek:top<18446744073709551616:=by omega
  have cd:=zT1 (by rw[hW] at cl ⊢;exact zV9 cm I dd cq oM cl);have dq:0<(zB V).getD (n-1) 0:=by omega
  refine go6 ?_;replace D:=D.mono bc;refine gv (zX (n-1) underlying27 sizeOf124 I I D oM oM) I (go2 ?_);refine gv (bQ (k:=.u64) (W:=18446744073709551616) I I I I oM oM) I (gv (zWQ (k:=.u64) (q:=4294967295) I I) I ?_);rw[Nat.min_def];rw[<-Nat.min_def];refine go7 ?_;refine gv (vJ (k:=.u64) (k':=.u32) (W:=4294967296) underlying125 underlying124 I I I oM) I (cL (ev2 I I) call172 (λw hs=>zS1 hs D oM oM) λdp h6 am bh=>?_);have eo:=yN V (min (top/(zB V).getD (n-1) 0) 4294967295);have eq:=gB (n:=min (top/(zB V).getD (n-1) 0) 4294967295) oM;refine go1 ?_;rw[show(↑K:Int)-1=↑(K-1) by omega];refine cL (ev2 I I) call171 (λw hs=>zDO hs bh oM oM) λbm h7 ak bg=>(go5 ?_);refine gG (ι:=Value×Nat×Mem) (λ(vp,d,k2)=>MLe h7 k2/\(Us .u32 k2 vp (zB (V*d*4294967296^(K-1)))/\d<=4294967295/\R<V*(d+1)*4294967296^(K-1))) (λ(vp,d,k2)=>[(1,aq),(4,G),(5,vr),(13,vI ↑s),(14,vI ↑n),(15,vI ↑(K-1)),(17,vU .u64 d),(18,vp)]) (λ(vp,d,k2)=>[.us 124 .u32 G (fE K qs)]) (λ(vp,d,k2)=>k2) (λ(vp,d,k2)=>d) (bm,min (top/(zB V).getD (n-1) 0) 4294967295,h7) ?_ e8 I I ?_
  ·
   refine⟨MLe.refl _,?_⟩;exact⟨bg,Nat.min_le_right _ _,cd⟩
  rintro⟨vp,d,k2⟩ ⟨ab,⟨hp,er,cz⟩⟩
  refine yW ?_;refine go5 ?_;replace hR:=hR.mono ((am.trans ak).trans ab);refine cL (ev2 I I) call49 (λw hs=>oA hs hp hR) λdn h8 M bf=>?_;subst bf;refine gc3 (λZ=>?_) λZ=>?_
  ·
   have hgt:=zNW.1 Z;have ce:1<=d:=Nat.pos_of_ne_zero λh0=>by rw[h0,Nat.mul_zero,Nat.zero_mul] at hgt;omega
   obtain⟨db,da⟩:=yBE (V:=V) (p:=4294967296^(K-1)) ce;refine go6 ?_;refine gv (aX (k:=.u64) (q:=1) (W:=18446744073709551616) I I I I oM oM) I (go7 ?_);replace D:=D.mono (((am.trans ak).trans ab).trans M);refine cL (ev2 I I) call171 (λw hs=>zDO hs D oM oM) λdm h9 ar be=>?_;have en:=zHT (V*d) (K-1);have dv:=yN V d;have du:=gB (n:=d) oM;replace hp:=hp.mono (M.trans ar);refine cL (ev2 I I) call128 (λw hs=>zCK hs hp be da oM) λbl dj ca ai=>?_;rw[db] at ai;refine go3 ?_;refine jW (bl,d-1,dj) ?_ ?_ e8 I I
   ·
    refine⟨(((ab.trans M).trans ar).trans ca),?_⟩;exact⟨ai,by omega,by rw[Nat.sub_add_cancel ce];exact hgt⟩
   dsimp only;omega
  have aj:V*d*4294967296^(K-1)<=R:=Nat.le_of_not_lt λhc=>Z (zNW.2 hc);refine uG ?_;refine gv (vJ (k:=.u64) (k':=.u32) (W:=4294967296) underlying125 underlying124 I I I oM) I (gv (xC (A:=[]) (K-1) underlying27 sizeOf124 I I oM (by rw[jG];omega)) I (wV sizeOf124 I I (by rw[jG];omega) (go5 ?_)));replace hR:=hR.mono M;replace hp:=hp.mono M;refine cL (ev2 I I) call128 (λw hs=>zCK hs hR hp aj oM) λbk h9 ar bd=>(go9 ?_);refine jW (K-1,bk,R-V*d*4294967296^(K-1),d::qs,h9) ?_ ?_ ⟨I,I,I,I,I,?_,trivial⟩ ?_ I
  ·
   refine⟨(((((bc.trans am).trans ak).trans ab).trans M).trans ar),?_⟩;have eK:(4294967296:Nat)^K=4294967296^(K-1)*4294967296:=by rw[<-Nat.pow_succ,Nat.succ_eq_add_one,Nat.sub_add_cancel oM]
   rw[eK] at aa;have dw:=yL (Nat.sub_le R (V*d*4294967296^(K-1)));exact⟨bd,by omega,by simp only[lC];omega,rN.2 ⟨by omega,cc⟩,yBD aa aj,yKH cz aj,by omega⟩
  ·
   dsimp only;omega
  · exact congrArg some (congrArg vI oM)
  try dsimp only[List.nil_append,List.cons_append]
  rw[lI oM]
 refine go6 ?_;have di:K=0:=by omega
 subst di;rw[bZ];rw[Nat.pow_zero,Nat.one_mul] at aa O;refine go2 ?_;refine yQ (by exact cc) ?_;intro h6 am hq;refine cL (ev1 I) call92 (λw hs=>tM hs hq oM) λdl h7 ak H=>(go2 ?_);replace hR:=hR.mono (am.trans ak);refine cL (ev2 I I) call173 (λw hs=>zV6 hs hR oM oM) λdk h8 M ah=>(go6 ?_);refine uN I I I I ?_;replace H:=H.mono M;obtain⟨e1,e2⟩:=zRY (X:=X) (Y:=Y) (s:=s) (u:=R) (q:=val qs) oM (by rw[<-hV,<-hU];exact aa) (by rw[<-hV];exact O);rw[e1] at H;rw[e2] at ah;rw[if_neg C,if_neg C];exact⟨_,_,I,H,ah⟩
theorem yBG{v v':Value}{A B:Nat}(hv:Us .u32 h0 v (zB A))(hv':Us .u32 h0 v' (zB B))(hl:(zB A).length<=549755813888)(hl':(zB B).length<=549755813888):
 Calls Tryz.prog 126 #[v,v'] w0 (Ret w0 h0 (λh r=>Us .u32 h r (zB (Nat.gcd A B)))):=by
 obtain⟨G,hG⟩:∃G,G=Nat.gcd A B:=⟨_,I⟩;rw[<-hG];refine cb2 51 v v' func126 hs ?_;refine go8 ?_;refine cL (ev1 I) call92 (λw hs=>tM hs hv oM) λaj h1 au U=>?_;rw[zE] at U;refine go1 ?_;replace hv':=hv'.mono au;refine cL (ev1 I) call92 (λw hs=>tM hs hv' oM) λai h2 bf O=>?_;rw[zE] at O;refine go6 ?_;refine gcL (ι:=Value×Nat×Value×Nat×Mem) (λ(vx,X,vy,Y,k1)=>(MLe h2 k1/\(Us .u32 k1 vx (zB X)/\Us .u32 k1 vy (zB Y)/\Nat.gcd X Y=G/\(zB X).length<=549755813888/\(zB Y).length<=549755813888),[(0,vx),(1,vy)],[],k1,Y)) (aj,A,ai,B,h2) ?_ ?_
 · exact⟨mle,U.up,O,hG.symm,by omega,by omega⟩
 rintro⟨vx,X,vy,Y,k1⟩ ⟨aw,⟨ha,hb,M,be,aq⟩⟩
 refine yW ?_;refine gc8 (λah=>?_) λah=>?_
 ·
  have J:Y≠0:=yP.1 oM;refine go6 ?_;refine cL (ev1 I) call167 (λw hs=>dL hs ha) λba h3 ae ac=>?_;subst ac;refine uG ?_;replace hb:=hb.mono ae;refine cL (ev1 I) call167 (λw hs=>dL hs hb) λaz h4 ad ab=>?_;subst ab;refine qM ?_;refine gU 3 32 (vB (((zB X).length<=2)/\((zB Y).length<=2))) ?_ ?_
  ·
   refine zY ((zB X).length<=2) (λM=>?_) (λM=>?_)
   ·
    refine gT M I (go4 ?_);refine gqU ?_;exact congrArg some (xD M)
   refine gF M I (go3 ?_);refine gqU ?_;exact congrArg some (xE M)
  refine gc2 (λC=>?_) λC=>?_
  ·
   rw[if_pos C.1,if_pos C.2];have an:=nD C.1;have am:=nD C.2;refine go2 ?_;refine gcL (ι:=Nat×Nat) (λ(m,n)=>(Nat.gcd m n=G/\m<18446744073709551616/\n<18446744073709551616,[(5,vU .u64 m),(7,vU .u64 n)],[],h4,n)) (X,Y) ?_ ?_
   · exact⟨M,an,am⟩
   rintro⟨m,n⟩ ⟨Z,hm,hn⟩
   refine yW ?_;refine go4 ?_;refine gv (tN (k:=.u64) (q:=0) I I) I (gc2 (λH=>?_) λH=>?_)
   ·
    refine go3 ?_;refine zK 6 _ [] [(0,.q),(1,.q),(2,.q),(3,.q),(4,.q),(5,.q)] yA nX zou nX (λr hr=>hr) (go3 ?_);refine wI I (λ_ _=>bP (k:=.u64) I I oM) I (go4 ?_);refine gqL (n,m%n) ?_ ?_
    ·
     have bc:=Nat.mod_lt m (Nat.pos_of_ne_zero H);exact⟨by rw[mM];exact Z,hn,by omega⟩
    exact Nat.mod_lt _ (Nat.pos_of_ne_zero H)
   refine go8 ?_;refine cL (ev1 I) call96 (λw hs=>t6 hs oM) λay h5 ar aa=>(go9 ?_);refine zC I I ?_;have ap:n=0:=Classical.not_not.1 H;rw[ap,Nat.gcd_zero_right] at Z;rw[<-Z];exact aa
  refine go6 ?_;replace ha:=ha.mono (ae.trans ad);replace hb:=hb.mono ad;refine cL (ev2 I I) call127 (λw hs=>zJY hs ha hb oM oM) λax h5 ar D=>?_;obtain⟨bb,ak,rfl,av,D⟩:=D;rw[if_neg J] at D;have bd:=yL (Nat.le_of_lt (Nat.mod_lt X (Nat.pos_of_ne_zero J)));refine zAG ?_;refine gqL (vy,Y,ak,X%Y,h5) ?_ ?_
  · exact⟨mle,hb.up,D,by rw[mM];exact M,aq,by omega⟩
  exact Nat.mod_lt _ (Nat.pos_of_ne_zero J)
 have J:Y=0:=Classical.byContradiction λao=>by have:=yP.2 ao;omega
 refine uV ?_;refine zC I I ?_;rw[J,Nat.gcd_zero_right] at M;rw[<-M];exact ha
theorem zQX:
 Calls Tryz.prog 157 #[] w0 (Ret w0 h0 (λh r=>Us .u32 h r [1])):=by
 refine cb0 2 func157 hs ?_;refine go7 ?_;refine zG (pF (kd:=.u32) (p:=1) underlying27 uP I I I) I I I ?_;intro v1 r1 C;obtain rfl:=C;refine yQ (by intro z hz;simp only[List.mem_singleton] at hz;subst hz;decide) ?_;intro h1 D h1;refine go4 ?_;refine zC I I ?_;exact h1
theorem tV{sa:Bool}{vna vda:Value}{na da:List Nat}(hna:Us .u32 h0 vna na)(hda:Us .u32 h0 vda da):
 Calls Tryz.prog 166 #[.agg #[.bool sa,vna,vda]] w0 (Ret w0 h0 (λh r=>Us .u32 h r (if da=[] then[1] else da))):=by
 refine cb1 10 (.agg #[.bool sa,vna,vda]) func166 hs ?_;refine go2 ?_;refine zG (wW (cs:=[_,_,_]) I I) I I I ?_;intro v1 r1 G;obtain⟨O,rfl,rfl⟩:=G;refine zK3 (λD=>?_) λD=>?_
 ·
  refine go2 ?_;refine cL (vs:=[]) trivial call157 (λw hs=>zQX hs) λM h1 J C=>?_;rw[dO] at C;have H:=zKR;refine go5 ?_;refine zC I I ?_;rw[if_pos (zof oM),dO];exact C
 refine uG ?_;refine zC I I ?_;rw[if_neg (λh=>D (by rw[h];rfl))];exact hda
theorem zA7{v:Value}{xs:List Nat}(hv:Us .u32 h0 v xs)(hl:xs.length<=2):
 Calls Tryz.prog 188 #[v] w0 (Ret w0 h0 (λ_ r=>r=vU .u64 (val xs))):=by
 have H:Fit xs:=hv.lt;refine cb1 21 v func188 hs ?_;refine go2 ?_;refine asg (v:=vU .u64 0) I I (go4 ?_);refine asg (v:=vU .u64 0) I I (uV ?_);have D:val (xs.drop xs.length)=0:=by rw[List.drop_of_length_le (Nat.le_refl _)];rfl
 refine gG (ι:=Nat) (λ(j:(Nat))=>j<=xs.length) (λ(j:(Nat))=>[(0,v),(3,vU .u64 (val (xs.drop j))),(4,vI (↑j-1))]) (λ(j:(Nat))=>[]) (λ(j:(Nat))=>h0) (λ(j:(Nat))=>j) xs.length ?_ ⟨?_,?_,?_,trivial⟩ I I ?_
 · exact Nat.le_refl _
 · exact I
 · exact congrArg some (congrArg (vU .u64) D.symm)
 · exact I
 rintro j J
 refine yW ?_;refine gc7 (λG=>?_) λG=>?_
 ·
  refine go6 ?_;refine gv (fO (k:=.u64) (s:=32) (yk:=.u64) (W:=18446744073709551616) I I I I) I (go2 ?_);refine gv (zX (j-1) underlying27 sizeOf124 I I hv oM oM) I (go1 ?_);have C:=hv.get32 (j-1);refine go1 ?_;refine gv (rS (k:=.u64) I I I (by simp only[ub];omega) (by simp only[ub];omega)) I ?_;rw[cD (by
   have h2:=kY (iS H j);rw[List.length_drop] at h2;have h3:(4294967296:Nat)^(xs.length-j)<=4294967296^1:=Nat.pow_le_pow_right oM oM;omega) C]
  refine go9 ?_;refine jW (j-1) ?_ ?_ ⟨I,?_,?_,trivial⟩ I I
  · omega
  · omega
  ·
   rw[kE xs (j-1) oM];exact congrArg some (congrArg (vU .u64) (by rw[show j-1+1=j by omega];omega))
  · exact congrArg some (congrArg vI oM)
 refine uV ?_;refine zC I I ?_;rw[show j=0 by omega];rfl
theorem zL5{m n:Nat}(hm0:m<18446744073709551616)(hn0:n<18446744073709551616):
 Calls Tryz.prog 198 #[vU .u64 m,vU .u64 n] w0 (Ret w0 h0 (λ_ r=>r=vU .u64 (Nat.gcd m n))):=by
 refine cb2 12 (vU .u64 m) (vU .u64 n) func198 hs ?_;refine go2 ?_;refine asg (v:=vU .u64 0) I I (go4 ?_);refine gcL (ι:=Nat×Nat) (λ(x,y)=>(Nat.gcd x y=Nat.gcd m n/\x<18446744073709551616/\y<18446744073709551616,[(0,vU .u64 x),(1,vU .u64 y)],[],h0,y)) (m,n) ?_ ?_
 · exact⟨I,hm0,hn0⟩
 rintro⟨x,y⟩ ⟨D,O,J⟩
 refine yW ?_;refine go4 ?_;refine gv (tN (k:=.u64) (q:=0) I I) I (gc2 (λC=>?_) λC=>?_)
 ·
  refine go3 ?_;refine zK 6 _ [] [(0,.q),(1,.q),(2,.q),(3,.q),(4,.q),(5,.q)] yA nX zou nX (λr H=>H) (go3 ?_);refine wI I (λ_ _=>bP (k:=.u64) I I oM) I (go4 ?_);refine gqL (y,x%y) ?_ ?_
  ·
   have M:=Nat.mod_lt x (Nat.pos_of_ne_zero C);exact⟨by rw[mM];exact D,J,by omega⟩
  exact Nat.mod_lt _ (Nat.pos_of_ne_zero C)
 refine uV ?_;refine zC I I ?_;have G:y=0:=Classical.not_not.1 C;rw[G,Nat.gcd_zero_right] at D;rw[D]
theorem zWA{n:Int}(hn:-9223372036854775808<=n)(hn':n<9223372036854775808):
 Calls Tryz.prog 156 #[vI n] w0 (Ret w0 h0 (λh r=>Us .u32 h r (zB n.natAbs))):=by
 refine cb1 12 (vI n) func156 hs ?_;refine zK3 (λJ=>?_) λJ=>?_
 ·
  have G:n.natAbs=9223372036854775808:=by omega
  refine go2 ?_;refine cL (vs:=[vU .u64 9223372036854775808]) ⟨I,trivial⟩ call192 (λw hs=>nat_of hs oM) λO h1 H D=>(go5 ?_);refine zC I I ?_;rw[G];exact D
 refine go6 ?_;refine gv (aY I oM oM) I (gv (zMA I I) I (gv (s4 (p:=n.natAbs) (k':=.u64) (W:=18446744073709551616) underlying2 underlying125 I I (congrArg some (congrArg vI oM)) oM) I (cL (ev1 I) call192 (λw hs=>nat_of hs oM) λM h1 H C=>(go4 ?_))));refine zC I I ?_;exact C
end
theorem zIG{w0 w:World}{h0 h:Mem}{v u:Value}{xs:List Nat}{L:List Res}{lo n:Nat}(hu:u=fX 1 v lo xs.length)(hlo:lo+2<=xs.length)(hn0:n≠0)(hn:n<18446744073709551616)(hs:St w0 h0 (.us 124 .u32 v xs::L) h w):
 Calls Tryz.prog 199 #[u,vU .u64 n] w (fW w0 h0 (λg r K=>g=h/\K=.us 124 .u32 v (xs.take lo++zB n++xs.drop (lo+(zB n).length))::L/\r=vI ↑(zB n).length)):=by
 refine uF (n:=17) (e:=[(0,u),(1,vU .u64 n)]) (vs:=[u,vU .u64 n]) func199 rfl rfl (bL rfl) hs e2z (uG ?_);refine gv (w6 (q:=0) mh0 hu (0) underlying27 sizeOf124 I I I oM) I (wV sizeOf124 I I oM (go7 ?_));refine gv (fP (k:=.u64) (q:=0) I I) I (gc2 (λD=>?_) λD=>?_)
 ·
  refine go7 ?_;refine qF I I ?_;have C:n<4294967296:=by omega
  refine⟨I,?_,by rw[gM hn0 C];rfl⟩;rw[zoh C,Nat.add_zero,putL oM hn0 C]
 refine go8 ?_;refine gv (w6 (q:=1) mh0 (by rw[lS];exact hu) (1) underlying27 sizeOf124 I I I (by rw[lS];omega)) I (wV sizeOf124 I I (by simp;omega) (go8 ?_));refine qF I I ?_;have C:4294967296<=n:=by omega
 have G:n/2^32%4294967296=n/4294967296:=by omega
 refine⟨I,?_,?_⟩
 · rw[G,Nat.add_zero,yKK hlo hn C]
 · rw[kX oM,gM (t:=n/4294967296) oM oM];rfl
section
variable{w0:World}{h0:Mem}(hs:MLe h0 (mem w0))
include hs
theorem aO{s:Prop}{n d:Nat}(hn:n<18446744073709551616)(hd:d<18446744073709551616)(hd0:d≠0):
 Calls Tryz.prog 164 #[vB s,vU .u64 n,vU .u64 d] w0 (Ret w0 h0 (λh r=>vC h r (mkRat (sg s n) d))):=by
 refine cb3 50 (vB s) (vU .u64 n) (vU .u64 d) func164 hs ?_;refine go2 ?_;refine zG (vY (cs:=[vB ((0:Rat).num<0),.slice none 0 0,.slice none 0 0]) xR I (by simp only[zb];rfl)) I I I ?_;intro v6 r6 ai;obtain⟨b6,rfl,rfl⟩:=ai;refine go6 ?_;refine gv (fP (k:=.u64) (q:=0) I I) I (gc2 (λM=>?_) λM=>?_)
 ·
  refine go2 ?_;refine gv (wD (ps':=[]) (vs:=[vB ((0:Rat).num<0),.slice none 0 0,.slice none 0 0]) underlying29 xR I (qL underlying29) trivial (by simp only[zb];exact jX)) I (wN (A:=[]) (r':=.var b6 29 [vB ((0:Rat).num<0),.slice none 0 0,.slice none 0 0]) (zN (k:=0) (cs:=[_,_,_]) (vs:=[_,_,_]) I I I I yF (bL I)) I I I (go4 ?_));refine yV (λE S=>zV I (wR (cs:=[_,_,_]) mh0 underlying29 I yF I) E S) ?_;rw[M,zBL];exact vC.zero _
 have ab:n≠0:=by omega
 refine go6 ?_;refine cL (ev2 I I) call198 (λw hs=>zL5 hs oM oM) λay h1 be Z=>?_;subst Z;refine go1 ?_;have ac:0<Nat.gcd n d:=Nat.gcd_pos_of_pos_left d oM;have aj:n/Nat.gcd n d≠0:=Nat.ne_of_gt (Nat.div_pos (Nat.le_of_dvd oM (Nat.gcd_dvd_left n d)) ac);have ao:d/Nat.gcd n d≠0:=Nat.ne_of_gt (Nat.div_pos (Nat.le_of_dvd oM (Nat.gcd_dvd_right n d)) ac);have bb:=Nat.div_le_self n (Nat.gcd n d);have bf:=Nat.div_le_self d (Nat.gcd n d);refine go3 ?_;refine zK 8 _ [] [(0,.q),(1,.q),(2,.q),(3,.q),(4,.q),(5,.q),(6,.q),(7,.q)] yA nX zou nX (λr hr=>hr) (go2 ?_);refine wI I (λ_ _=>bQ (k:=.u64) (W:=18446744073709551616) I I I I oM oM) I (go2 ?_);refine wI I (λ_ _=>bQ (k:=.u64) (W:=18446744073709551616) I I I I oM oM) I (go2 ?_);generalize hA:n/Nat.gcd n d=A at *;generalize hB:d/Nat.gcd n d=B at *;have bd:=gB (n:=A) oM;have bc:=gB (n:=B) oM;refine go4 ?_;refine qY (kd:=.u32) (by':=4) (q:=4) (q':=4) 4 underlying27 uP I I I I I I I oM oM I ?_;intro D;refine go7 ?_;refine nH (vs:=[_,_]) I I I I call199 e2z (λw hs=>zIG (hs.own_self (.head _)) dC aj oM hs) ?_;intro ax aq au H;obtain⟨e1,e2,H⟩:=H;rw[e1,e2]
 clear e1 e2 aq au
 subst H;rw[show List.take 0 (List.replicate 4 0)++zB A++List.drop (0+(zB A).length) (List.replicate 4 0)=zB A++List.replicate (4-(zB A).length) 0 from by rw[List.take_zero,List.nil_append,Nat.zero_add,List.drop_replicate]];have am:(zB A++List.replicate (4-(zB A).length) 0).length=4:=by simp;omega
 refine go9 ?_;refine zYP (.head _) (λad bg U av=>?_);have J:gJ 1 D 0 (zB A).length (zB A).length=.slice (if(zB A).length=0 then ad else ad.map (·.add (0*1))) ((zB A).length-0) ((zB A).length-0):=by rw[U];rfl
 refine gv (zFN mh0 _ _ underlying27 sizeOf124 I I I I I oM oM) I (gv (wD (ps':=[(0,_),(1,_)]) (vs:=[vB s,gJ 1 D 0 _ _,.slice none 0 0]) underlying29 xR I (qL underlying29) e4z (wZ (A:=[]) (B:=[_]) (C:=[_,_]) (cs:=[_]) (off:=0) (size:=1) I I I I I (wZ (A:=[_]) (B:=[_]) (C:=[_]) (cs:=[_]) (off:=1) (size:=1) I I I I (by rw[J];rfl) jX))) I (zG (vY (cs:=[vB ((0:Rat).num<0),.slice none 0 0,.slice none 0 0]) xR I (by simp only[zb];rfl)) I I I ?_));intro az ba aa;obtain⟨ah,rfl,rfl⟩:=aa;refine wN (A:=[]) (r':=.var ah 29 [vB s,gJ 1 D 0 _ _,.slice none 0 0]) (zN (k:=0) (cs:=[_,_,_]) (vs:=[vB s,gJ 1 D 0 _ _,.slice none 0 0]) I I I (by rw[J];rfl) yF (bL I)) I I I (go6 ?_);refine gv (mG (k:=.u64) (q:=1) I I) I (gc2 (λae=>?_) λae=>?_)
 ·
  refine go5 ?_;refine gv (zFM mh1 _ underlying27 sizeOf124 I I I oM) I (go1 ?_);refine iQ (A:=[_]) ?_;refine nH (vs:=[_,_]) I I I I call199 e2z (λw hs=>zIG (lo:=(zB A).length) zo3 oM ao oM hs) ?_;intro aw ap ar G;obtain⟨e1,e2,G⟩:=G;rw[e1,e2]
  clear e1 e2 ap ar
  subst G;rw[show List.take (zB A).length (zB A++List.replicate (4-(zB A).length) 0)++zB B++List.drop ((zB A).length+(zB B).length) (zB A++List.replicate (4-(zB A).length) 0)=zB A++zB B++List.replicate (4-(zB A).length-(zB B).length) 0 from by simp];have ak:(zB A++zB B++List.replicate (4-(zB A).length-(zB B).length) 0).length=4:=by simp;omega
  refine go9 ?_;have O:gJ 1 D (zB A).length ((zB A).length+(zB B).length) ((zB A).length+(zB B).length)=.slice (if(zB A).length+(zB B).length=(zB A).length then ad else ad.map (·.add ((zB A).length*1))) ((zB A).length+(zB B).length-(zB A).length) ((zB A).length+(zB B).length-(zB A).length):=by rw[U];rfl
  refine gv (zHN mh0 ((zB A).length) ((zB A).length+(zB B).length) ((zB A).length+(zB B).length) underlying27 sizeOf124 I I I I oM oM oM oM oM oM) I (go1 ?_);refine wN (A:=[_]) (r':=.var ah 29 [vB s,gJ 1 D 0 _ _,gJ 1 D ((zB A).length) ((zB A).length+(zB B).length) ((zB A).length+(zB B).length)]) (zN (k:=2) (cs:=[_,_,_]) (vs:=[gJ 1 D ((zB A).length) ((zB A).length+(zB B).length) ((zB A).length+(zB B).length)]) I I (by rw[O];rfl) (by rw[O];rfl) zVK (bL I)) I I I (go4 ?_);refine yQ (by first|exact uQ (uQ (wO A) (wO B)) (kD _)|exact uQ (wO A) (kD _)) ?_;intro h2 an hz;refine go1 ?_;refine wN (A:=[_]) (r':=.var b6 29 [vB s,gJ 1 D 0 _ _,gJ 1 D ((zB A).length) ((zB A).length+(zB B).length) ((zB A).length+(zB B).length)]) (zN (k:=0) (cs:=[_,_,_]) (vs:=[vB s,gJ 1 D 0 _ _,gJ 1 D ((zB A).length) ((zB A).length+(zB B).length) ((zB A).length+(zB B).length)]) I I I (by rw[J,O];rfl) yF (bL I)) I I I (go3 ?_);refine yV (λE S=>zV I (wR (cs:=[_,_,_]) mh1 underlying29 I yF I) E S) ?_;have z1:=hz.sub3 (lo:=0) (hi:=(zB A).length) (mx:=(zB A).length) oM oM oM;have z2:=hz.sub3 (lo:=(zB A).length) (hi:=(zB A).length+(zB B).length) (mx:=(zB A).length+(zB B).length) oM oM oM;refine vC.make ab hd0 ?_ ?_
  · rw[hA];simpa using z1
  · rw[hB];rw[nJ oM];simpa using z2
 refine go4 ?_;refine zHX (by first|exact uQ (uQ (wO A) (wO B)) (kD _)|exact uQ (wO A) (kD _)) ?_;intro h2 an hz;refine go1 ?_;refine wN (A:=[_]) (r':=.var b6 29 [vB s,gJ 1 D 0 _ _,.slice none 0 0]) (zN (k:=0) (cs:=[_,_,_]) (vs:=[vB s,gJ 1 D 0 _ _,.slice none 0 0]) I I I (by rw[J];rfl) yF (bL I)) I I I (go3 ?_);refine yV (λE S=>zV I (wR (cs:=[_,_,_]) mh1 underlying29 I yF I) E S) ?_;have z1:=hz.sub3 (lo:=0) (hi:=(zB A).length) (mx:=(zB A).length) oM oM oM;refine vC.make ab hd0 ?_ ?_
 · rw[hA];simpa using z1
 · rw[hB];rw[show B=1 by omega,aA,xK];exact Us.nil _ _
theorem pO{qa:Rat}{vna vda:Value}(hna:Us .u32 h0 vna (zB qa.num.natAbs))(hda:Us .u32 h0 vda (zB (wU qa.den))):
 Calls Tryz.prog 163 #[.agg #[vB (qa.num<0),vna,vda]] w0 (Ret w0 h0 (λ_ r=>r=.tuple #[vU .u64 (pN qa),vU .u64 (pD qa),vB (sD qa)])):=by
 refine cb1 30 (.agg #[vB (qa.num<0),vna,vda]) func163 hs ?_;refine go2 ?_;refine zG (wW (cs:=[_,_,_]) I I) I I I ?_;intro v1 r1 Z;obtain⟨b1,rfl,rfl⟩:=Z;refine asg (v:=vU .u64 0) I I (asg (v:=vU .u64 0) I I (uG ?_));refine gU 6 14 (vB (((1:Int)<(↑(zB qa.num.natAbs).length:Int))\/((1:Int)<(↑(zB (wU qa.den)).length:Int)))) ?_ ?_
 ·
  refine zY ((1:Int)<(↑(zB qa.num.natAbs).length:Int)) (λO=>?_) (λO=>?_)
  ·
   refine gT O I (go6 ?_);refine gqU ?_;exact congrArg some (vD O)
  refine gF O I (uG ?_);refine gqU ?_;exact congrArg some (vG O)
 refine gc2 (λH=>?_) λH=>?_
 ·
  have J:¬sD qa:=zOF H;refine go2 ?_;refine asg (v:=vU .u64 0) I I (asg (v:=vU .u64 0) I I (go5 ?_));refine uN I I I I ?_;rw[pN_f J,pD_f J,yH J]
 have C:sD qa:=zSO H;have ab:=tA C;have ac:=tB C;refine go4 ?_;refine asg (v:=vU .u64 1) I I (zC4 (λG=>?_) λG=>?_)
 ·
  have M:(zB (wU qa.den)).getD 0 0=qa.den:=zY7 G;refine go3 ?_;refine gv (zX (q:=0) (0) underlying27 sizeOf124 I I hda I oM) I (go1 ?_);rw[M];refine go8 ?_;refine cL (ev1 I) call188 (λw hs=>zA7 hs hna oM) λU h1 aa D=>?_
  try simp only[zE] at D
  subst D;refine go2 ?_;refine gv (OpV.tr (by have:=qa.den_nz;omega) (tN (k:=.u64) (q:=0) I I)) I (go6 ?_);refine uN I I I I ?_;rw[zHL C,zHM C,xM C]
 have M:qa.den=1:=zY8 G C;refine go6 ?_;refine cL (ev1 I) call188 (λw hs=>zA7 hs hna oM) λU h1 aa D=>?_
 try simp only[zE] at D
 subst D;refine go2 ?_;refine gv (OpV.tr (by have:=qa.den_nz;omega) (tN (k:=.u64) (q:=0) I I)) I (go6 ?_);refine uN I I I I ?_;rw[zHL C,zHM C,xM C,M]
theorem kZ{s:Prop}{vn vd:Value}{xs ys:List Nat}(hn:Us .u32 h0 vn xs)(hd:Us .u32 h0 vd ys)(hl:xs.length<=1000000000000)(hl':ys.length<=1000000000000):
 Calls Tryz.prog 155 #[vB s,vn,vd] w0 (Ret w0 h0 (λh r=>vC h r (mkRat (sg s (val xs)) (val ys)))):=by
 have cj:=nT (n:=val xs);have ci:=nT (n:=val ys);have cd:=qD hn.lt;have cc:=qD hd.lt;refine cb3 68 (vB s) vn vd func155 hs ?_;refine go2 ?_;refine zG (vY (cs:=[vB ((0:Rat).num<0),.slice none 0 0,.slice none 0 0]) xR I (by simp only[zb];rfl)) I I I ?_;intro v6 r6 bj;obtain⟨b6,rfl,rfl⟩:=bj;refine go6 ?_;refine cL (ev1 I) call162 (λw hs=>zBK hs hn oM) λv9 h1 am bd=>?_
 try simp only[zE] at bd
 subst bd;refine go1 ?_;refine qB (ι:=Mem) 5 (λm_=>MLe h1 m_) (λ_=>[(15,vB (((↑(uK (val (xs))):Int)=(0:Int))\/((↑(uK (val (ys))):Int)=(0:Int)))),(0,vB s),(1,vn),(2,vd),(6,vP b6 0)]) (λ_=>[.var b6 29 [vB ((0:Rat).num<0),.slice none 0 0,.slice none 0 0]]) (λm_=>m_) ?_ ?_
 ·
  refine zY ((↑(uK (val (xs))):Int)=(0:Int)) (λM=>?_) (λM=>?_)
  ·
   refine gT M I (go5 ?_);refine zS h1 (MLe.refl _) ⟨?_,I,I,I,I,trivial⟩ I I;exact congrArg some (vD M)
  refine gF M I (go3 ?_);replace hd:=hd.mono am;refine cL (ev1 I) call162 (λw hs=>zBK hs hd oM) λbv h2 Z aw=>?_
  try simp only[zE] at aw
  subst aw;refine go4 ?_;refine zS h2 Z ⟨?_,I,I,I,I,trivial⟩ I I;exact congrArg some (vG M)
 intro bi H;refine tY ?_;refine gc2 (λac=>?_) λac=>?_
 ·
  refine go2 ?_;refine gv (wD (ps':=[]) (vs:=[vB ((0:Rat).num<0),.slice none 0 0,.slice none 0 0]) underlying29 xR I (qL underlying29) trivial (by simp only[zb];exact jX)) I (wN (A:=[]) (r':=.var b6 29 [vB ((0:Rat).num<0),.slice none 0 0,.slice none 0 0]) (zN (k:=0) (cs:=[_,_,_]) (vs:=[_,_,_]) I I I I yF (bL I)) I I I (go4 ?_));refine yV (λE S=>zV I (wR (cs:=[_,_,_]) mh0 underlying29 I yF I) E S) ?_
  rcases ac with h|h
  · rw[show val xs=0 by omega,zBL];exact vC.zero _
  · rw[show val ys=0 by omega,zGE];exact vC.zero _
 have ao:val xs≠0:=λh=>ac (.inl oM);have aq:val ys≠0:=λh=>ac (.inr oM);replace hn:=hn.mono (am.trans H);refine go8 ?_;refine gU 5 24 (vB (((↑(xs).length:Int)<=(2:Int))/\((↑(ys).length:Int)<=(2:Int)))) ?_ ?_
 ·
  refine zY ((↑(xs).length:Int)<=(2:Int)) (λM=>?_) (λM=>?_)
  ·
   refine gT M I ?_;replace hd:=hd.mono (am.trans H);refine go8 ?_;refine gqU ?_;exact congrArg some (xD M)
  refine gF M I (go5 ?_);refine gqU ?_;exact congrArg some (xE M)
 refine gc2 (λbh=>?_) λbh=>?_
 ·
  have cb:=nD (n:=val xs) oM;have ch:=nD (n:=val ys) oM;refine go4 ?_;refine cL (ev1 I) call188 (λw hs=>zA7 hs hn oM) λbu h2 Z av=>?_
  try simp only[zE] at av
  subst av;refine go1 ?_;replace hd:=hd.mono ((am.trans H).trans Z);refine cL (ev1 I) call188 (λw hs=>zA7 hs hd oM) λbt h3 ad au=>?_
  try simp only[zE] at au
  subst au;refine cL (ev3 I I I) call164 (λw hs=>aO hs oM oM oM) λbs h4 ak be=>?_;obtain⟨bb,bc,rfl,ax,ay⟩:=be;refine wN (A:=[]) (r':=.var b6 29 [vB ((mkRat (sg (s) (val (xs))) (val (ys))).num<0),bb,bc]) (zN (k:=0) (cs:=[_,_,_]) (vs:=[_,_,_]) I I I (ocr I (ocu ax (ocu ay oc0))) yF (bL I)) I I I (go4 ?_);refine yV (λE S=>zV I (wR (cs:=[_,_,_]) mh0 underlying29 I yF I) E S) ?_;exact⟨_,_,I,ax,ay⟩
 refine go7 ?_;replace hd:=hd.mono (am.trans H);refine cL (ev2 I I) call189 (λw hs=>yB5 hs hn hd oM oM) λbr h2 Z J=>?_
 try simp only[zE] at J
 have bm:=w9 (val (xs)) (val (ys));have bg:Nat.gcd (val xs) (val ys)≠0:=Nat.ne_of_gt (Nat.gcd_pos_of_pos_left _ oM);have cg:=yL (Nat.le_of_dvd oM (Nat.gcd_dvd_left (val xs) (val ys)));refine go6 ?_;refine cL (ev1 I) call162 (λw hs=>zBK hs J oM) λbq h3 ad ar=>?_
 try simp only[zE] at ar
 subst ar;refine gc3 (λan=>?_) λan=>?_
 ·
  refine go4 ?_;replace hn:=hn.mono (Z.trans ad);replace J:=J.mono ad;refine cL (ev2 I I) call190 (λw hs=>zEM hs hn J oM oM) λbp h4 ak aj=>?_;obtain⟨ca,bx,rfl,ab,aj⟩:=aj
  try simp only[zE] at ab aj ⊢
  have bl:=yL (Nat.div_le_self (val (xs)) (((Nat.gcd (val (xs)) (val (ys))))));have cf:=yL (Nat.div_le_self (val xs) (Nat.gcd (val xs) (val ys)));refine uG ?_;replace hd:=hd.mono ((Z.trans ad).trans ak);replace J:=J.mono ak;refine cL (ev2 I I) call190 (λw hs=>zEM hs hd J oM oM) λbo h5 ap ai=>?_;obtain⟨bz,bw,rfl,aa,ai⟩:=ai
  try simp only[zE] at aa ai ⊢
  have bk:=yL (Nat.div_le_self (val (ys)) (((Nat.gcd (val (xs)) (val (ys))))));have ce:=yL (Nat.div_le_self (val ys) (Nat.gcd (val xs) (val ys)));refine uG ?_;replace ab:=ab.mono ap;refine cL (ev2 I I) call191 (λw hs=>dQ hs ab (Us.nil _ _) zo5 zo5) λU h6 bn D=>?_
  try simp only[zE] at D
  have ba:=kV ((((val (xs))/(((Nat.gcd (val (xs)) (val (ys)))))))) (val ([]));refine go1 ?_;replace aa:=aa.mono bn;refine cL (ev2 I I) call191 (λw hs=>dQ hs aa (Us.nil _ _) zo5 zo5) λah h7 bf G=>?_
  try simp only[zE] at G
  have az:=kV ((((val (ys))/(((Nat.gcd (val (xs)) (val (ys)))))))) (val ([]));refine uG ?_;refine gU 6 63 (vB (((↑(zB (((((val (ys))/(((Nat.gcd (val (xs)) (val (ys))))))))+(val ([])))).length:Int)=(1:Int))/\(((zB (((((val (ys))/(((Nat.gcd (val (xs)) (val (ys))))))))+(val ([])))).getD (0) 0)=(1:Nat)))) ?_ ?_
  ·
   refine zY ((↑(zB (((((val (ys))/(((Nat.gcd (val (xs)) (val (ys))))))))+(val ([])))).length:Int)=(1:Int)) (λM=>?_) (λM=>?_)
   ·
    refine gT M I (go3 ?_);refine gv (zX (q:=0) (0) underlying27 sizeOf124 I I G I oM) I (go3 ?_);refine gv (fP (k:=.u32) (q:=1) I I) I (go2 ?_);refine gqU ?_;exact congrArg some (xD M)
   refine gF M I (go6 ?_);refine gqU ?_;exact congrArg some (xE M)
  refine gc2 (λO=>?_) λO=>?_
  ·
   refine go9 ?_;replace D:=D.mono bf;refine gv (wD (ps':=[(0,_),(1,_),(2,_)]) (vs:=[vB s,U,.slice none 0 0]) underlying29 xR I (qL underlying29) e6z (wZ (A:=[]) (B:=[_]) (C:=[_,_]) (cs:=[_]) (off:=0) (size:=1) I I I I I (wZ (A:=[_]) (B:=[_]) (C:=[_]) (cs:=[_]) (off:=1) (size:=1) I I I I D.cells (wZ (A:=[_,_]) (B:=[_]) (C:=[]) (cs:=[_]) (off:=2) (size:=1) I I I I I jX)))) I (wN (A:=[]) (r':=.var b6 29 [vB s,U,.slice none 0 0]) (zN (k:=0) (cs:=[_,_,_]) (vs:=[_,_,_]) I I I (ocr I (ocu D (ocr I oc0))) yF (bL I)) I I I (go3 ?_));refine yV (λE S=>zV I (wR (cs:=[_,_,_]) mh0 underlying29 I yF I) E S) ?_;exact vC.fin1 ao aq D O
  refine go7 ?_;replace D:=D.mono bf;refine gv (wD (ps':=[(0,_),(1,_),(2,_)]) (vs:=[vB s,U,ah]) underlying29 xR I (qL underlying29) e6z (wZ (A:=[]) (B:=[_]) (C:=[_,_]) (cs:=[_]) (off:=0) (size:=1) I I I I I (wZ (A:=[_]) (B:=[_]) (C:=[_]) (cs:=[_]) (off:=1) (size:=1) I I I I D.cells (wZ (A:=[_,_]) (B:=[_]) (C:=[]) (cs:=[_]) (off:=2) (size:=1) I I I I G.cells jX)))) I (wN (A:=[]) (r':=.var b6 29 [vB s,U,ah]) (zN (k:=0) (cs:=[_,_,_]) (vs:=[_,_,_]) I I I (ocr I (ocu D (ocu G oc0))) yF (bL I)) I I I (go3 ?_));refine yV (λE S=>zV I (wR (cs:=[_,_,_]) mh0 underlying29 I yF I) E S) ?_;exact vC.fin ao aq D G O
 refine go5 ?_;replace hn:=hn.mono (Z.trans ad);refine cL (ev2 I I) call191 (λw hs=>dQ hs hn (Us.nil _ _) zo5 zo5) λU h4 ak D=>?_
 try simp only[zE] at D
 have ba:=kV (val (xs)) (val ([]));refine go1 ?_;replace hd:=hd.mono ((Z.trans ad).trans ak);refine cL (ev2 I I) call191 (λw hs=>dQ hs hd (Us.nil _ _) zo5 zo5) λah h5 ap G=>?_
 try simp only[zE] at G
 have az:=kV (val (ys)) (val ([]));refine uG ?_;refine gU 6 63 (vB (((↑(zB ((val (ys))+(val ([])))).length:Int)=(1:Int))/\(((zB ((val (ys))+(val ([])))).getD (0) 0)=(1:Nat)))) ?_ ?_
 ·
  refine zY ((↑(zB ((val (ys))+(val ([])))).length:Int)=(1:Int)) (λM=>?_) (λM=>?_)
  ·
   refine gT M I (go3 ?_);refine gv (zX (q:=0) (0) underlying27 sizeOf124 I I G I oM) I (go3 ?_);refine gv (fP (k:=.u32) (q:=1) I I) I (go2 ?_);refine gqU ?_;exact congrArg some (xD M)
  refine gF M I (go6 ?_);refine gqU ?_;exact congrArg some (xE M)
 refine gc2 (λO=>?_) λO=>?_
 ·
  refine go9 ?_;replace D:=D.mono ap;refine gv (wD (ps':=[(0,_),(1,_),(2,_)]) (vs:=[vB s,U,.slice none 0 0]) underlying29 xR I (qL underlying29) e6z (wZ (A:=[]) (B:=[_]) (C:=[_,_]) (cs:=[_]) (off:=0) (size:=1) I I I I I (wZ (A:=[_]) (B:=[_]) (C:=[_]) (cs:=[_]) (off:=1) (size:=1) I I I I D.cells (wZ (A:=[_,_]) (B:=[_]) (C:=[]) (cs:=[_]) (off:=2) (size:=1) I I I I I jX)))) I (wN (A:=[]) (r':=.var b6 29 [vB s,U,.slice none 0 0]) (zN (k:=0) (cs:=[_,_,_]) (vs:=[_,_,_]) I I I (ocr I (ocu D (ocr I oc0))) yF (bL I)) I I I (go3 ?_));refine yV (λE S=>zV I (wR (cs:=[_,_,_]) mh0 underlying29 I yF I) E S) ?_;have ae:=zJG an bg;exact vC.fin1 ao aq (by rw[ae,Nat.div_one];exact D) (by rw[ae,Nat.div_one];exact O)
 refine go7 ?_;replace D:=D.mono ap;refine gv (wD (ps':=[(0,_),(1,_),(2,_)]) (vs:=[vB s,U,ah]) underlying29 xR I (qL underlying29) e6z (wZ (A:=[]) (B:=[_]) (C:=[_,_]) (cs:=[_]) (off:=0) (size:=1) I I I I I (wZ (A:=[_]) (B:=[_]) (C:=[_]) (cs:=[_]) (off:=1) (size:=1) I I I I D.cells (wZ (A:=[_,_]) (B:=[_]) (C:=[]) (cs:=[_]) (off:=2) (size:=1) I I I I G.cells jX)))) I (wN (A:=[]) (r':=.var b6 29 [vB s,U,ah]) (zN (k:=0) (cs:=[_,_,_]) (vs:=[_,_,_]) I I I (ocr I (ocu D (ocu G oc0))) yF (bL I)) I I I (go3 ?_));refine yV (λE S=>zV I (wR (cs:=[_,_,_]) mh0 underlying29 I yF I) E S) ?_;have ae:=zJG an bg;exact vC.fin ao aq (by rw[ae,Nat.div_one];exact D) (by rw[ae,Nat.div_one];exact G) (by rw[ae,Nat.div_one];exact O)
theorem zAW{v v':Value}{xs ys:List Nat}(hv:Us .u32 h0 v xs)(hv':Us .u32 h0 v' ys):
 Calls Tryz.prog 193 #[v,v'] w0 (Ret w0 h0 (λ_ r=>r=vB (xs=ys))):=by
 have O:=hv.lt63;have M:=hv'.lt63;refine cb2 26 v v' func193 hs ?_;refine qM ?_;refine gv (vH underlying27 I hv') I (gc3 (λD=>?_) λD=>?_)
 ·
  refine go7 ?_;refine zC I I ?_;rw[yH (λe=>D (by rw[e]))]
 have J:xs.length=ys.length:=by omega
 refine qM ?_;refine gcL (ι:=Nat) (λ(i:(Nat))=>(i<=xs.length/\xs.take i=ys.take i,[(0,v),(1,v'),(12,vI ↑xs.length),(13,vI ↑i)],[],h0,xs.length-i)) 0 ?_ ?_
 · exact⟨by omega,by simp⟩
 rintro i ⟨hi,H⟩
 refine yW ?_;refine gc6 (λG=>?_) λG=>?_
 ·
  refine qM ?_;refine zK 9 _ [] [(0,.q),(1,.q),(2,.q),(3,.q),(4,.q),(5,.q),(6,.q),(7,.q),(8,.q)] yA nX zou nX (λr U=>U) (go2 ?_);refine w_q I (λh' L' hh hR=>zX (i) underlying27 sizeOf124 I I (hv.mono hh) oM oM) I (w_q I (λh' L' hh hR=>xY isAgg124 I (hv.mono hh) oM) I (go2 ?_));refine w_q I (λh' L' hh hR=>zX (i) underlying27 sizeOf124 I I (hv'.mono hh) oM oM) I (w_q I (λh' L' hh hR=>xY isAgg124 I (hv'.mono hh) oM) I (gc3 (λC=>?_) λC=>?_))
  ·
   refine qM ?_;refine zC I I ?_;rw[yH (λe=>C (by rw[e]))]
  refine go7 ?_;refine gqL (i+1) ?_ ?_ (he:=⟨I,I,I,?_,trivial⟩)
  ·
   refine⟨by omega,?_⟩;rw[iY xs i oM,iY ys i oM,H];have e:=Classical.not_not.1 C;rw[e]
  · omega
  · exact congrArg some (congrArg vI oM)
 refine qM ?_;refine zC I I ?_;have Z:xs=ys:=by
  have e:i=xs.length:=by omega
  rw[e,List.take_length,J,List.take_length] at H;exact H
 rw[xM Z]
theorem zA8{qa:Rat}{vna vda:Value}(hna:Us .u32 h0 vna (zB qa.num.natAbs))(hda:Us .u32 h0 vda (zB (wU qa.den)))(hqa:lq qa<=100000000000):
 Calls Tryz.prog 122 #[.agg #[vB (qa.num<0),vna,vda]] w0 (Ret w0 h0 (λ_ r=>r=vI (yR qa))):=by
 have J:=uE qa;have M:=uC qa;have O:=vZ qa;refine cb1 11 (.agg #[vB (qa.num<0),vna,vda]) func122 hs ?_;refine go2 ?_;refine zG (wW (cs:=[_,_,_]) I I) I I I ?_;intro v1 r1 H;obtain⟨b1,rfl,rfl⟩:=H;refine go9 ?_;refine cL (ev1 I) call162 (λw hs=>zBK hs hna oM) λZ h1 U G=>?_
 try simp only[zE] at G
 subst G;refine gc4 (λD=>?_) λD=>?_
 ·
  refine go8 ?_;refine zC I I ?_;rw[aN (zHQ D)]
 refine gc7 (λC=>?_) λC=>?_
 ·
  refine go8 ?_;refine zC I I ?_;rw[zA0 C]
 refine go9 ?_;refine zC I I ?_;rw[zAZ (λh=>D (zH1 h)) C]
theorem zWB{qa:Rat}{vna vda:Value}(hna:Us .u32 h0 vna (zB qa.num.natAbs))(hda:Us .u32 h0 vda (zB (wU qa.den))){qb:Rat}{vnb vdb:Value}(hnb:Us .u32 h0 vnb (zB qb.num.natAbs))(hdb:Us .u32 h0 vdb (zB (wU qb.den)))(hqa:lq qa<=100000000000)(hqb:lq qb<=100000000000):
 Calls Tryz.prog 159 #[.agg #[vB (qa.num<0),vna,vda],.agg #[vB (qb.num<0),vnb,vdb]] w0 (Ret w0 h0 (λ_ r=>r=vB (qa=qb))):=by
 have ad:=uE qa;have ah:=uC qa;have aj:=vZ qa;have ac:=uE qb;have ae:=uC qb;have ai:=vZ qb;refine cb2 24 (.agg #[vB (qa.num<0),vna,vda]) (.agg #[vB (qb.num<0),vnb,vdb]) func159 hs ?_;refine go2 ?_;refine zG (wW (cs:=[_,_,_]) I I) I I I ?_;intro v2 r2 ab;obtain⟨b2,rfl,rfl⟩:=ab;refine zG (wW (cs:=[_,_,_]) I I) I I I ?_;intro v3 r3 aa;obtain⟨b3,rfl,rfl⟩:=aa;refine go9 ?_;refine gv (aZ underlying4 I I) I ?_;refine qB (ι:=Mem) 7 (λH=>MLe h0 H) (λ_=>[(16,vB (((qa.num<0)↔(qb.num<0))/\((zB qa.num.natAbs)=(zB qb.num.natAbs)))),(2,vP b2 0),(3,vP b3 0)]) (λ_=>[.var b3 29 [vB (qb.num<0),vnb,vdb],.var b2 29 [vB (qa.num<0),vna,vda]]) (λH=>H) ?_ ?_
 ·
  refine zY ((qa.num<0)↔(qb.num<0)) (λG=>?_) (λG=>?_)
  ·
   refine gT G I (go9 ?_);refine cL (ev2 I I) call193 (λw hs=>zAW hs hna hnb) λam h1 J U=>?_;subst U;refine go2 ?_;refine zS h1 J ⟨?_,I,I,trivial⟩ I I;exact congrArg some (xD G)
  refine gF G I (go7 ?_);refine zS h0 (MLe.refl _) ⟨?_,I,I,trivial⟩ I I;exact congrArg some (xE G)
 intro D C;refine tY ?_;refine qB (ι:=Mem) 7 (λH=>MLe D H) (λ_=>[(23,vB ((((qa.num<0)↔(qb.num<0))/\((zB qa.num.natAbs)=(zB qb.num.natAbs)))/\((zB (wU qa.den))=(zB (wU qb.den)))))]) (λ_=>[.var b3 29 [vB (qb.num<0),vnb,vdb],.var b2 29 [vB (qa.num<0),vna,vda]]) (λH=>H) ?_ ?_
 ·
  refine zY (((qa.num<0)↔(qb.num<0))/\((zB qa.num.natAbs)=(zB qb.num.natAbs))) (λG=>?_) (λG=>?_)
  ·
   refine gT G I (go9 ?_);replace hda:=hda.mono C;replace hdb:=hdb.mono C;refine cL (ev2 I I) call193 (λw hs=>zAW hs hda hdb) λak h1 J O=>?_;subst O;refine go2 ?_;refine zS h1 J ⟨?_,trivial⟩ I I;exact congrArg some (xD G)
  refine gF G I (go7 ?_);refine zS D (MLe.refl _) ⟨?_,trivial⟩ I I;exact congrArg some (xE G)
 intro Z M;refine tY ?_;refine go4 ?_;refine zC I I ?_;exact kF zLX
theorem yBM{qa:Rat}{vna vda:Value}(hna:Us .u32 h0 vna (zB qa.num.natAbs))(hda:Us .u32 h0 vda (zB (wU qa.den))){qb:Rat}{vnb vdb:Value}(hnb:Us .u32 h0 vnb (zB qb.num.natAbs))(hdb:Us .u32 h0 vdb (zB (wU qb.den)))(hqa:lq qa<=100000000000)(hqb:lq qb<=100000000000):
 Calls Tryz.prog 182 #[.agg #[vB (qa.num<0),vna,vda],.agg #[vB (qb.num<0),vnb,vdb]] w0 (Ret w0 h0 (λ_ r=>r=vI (xT qa qb))):=by
 have bo:=uE qa;have bq:=uC qa;have bs:=vZ qa;have bn:=uE qb;have bp:=uC qb;have br:=vZ qb;refine cb2 80 (.agg #[vB (qa.num<0),vna,vda]) (.agg #[vB (qb.num<0),vnb,vdb]) func182 hs ?_;refine go2 ?_;refine zG (wW (cs:=[_,_,_]) I I) I I I ?_;intro v2 r2 bg;obtain⟨b2,rfl,rfl⟩:=bg;refine zG (wW (cs:=[_,_,_]) I I) I I I ?_;intro v3 r3 bf;obtain⟨b3,rfl,rfl⟩:=bf;refine go5 ?_;refine zK 6 _ [] [(0,.q),(2,.q),(1,.c),(3,.c),(4,.q),(5,.q)] yA nX zou nX (λr hr=>hr) (go2 ?_);refine w_c I (sC (ev1 I) call122 (λw hs=>zA8 hs hna hda oM) λcf h1 ae ay=>?_);have bc:=yX qa;subst ay;refine w_c I ?_;replace hnb:=hnb.mono ae;replace hdb:=hdb.mono ae;refine sC (ev1 I) call122 (λw hs=>zA8 hs hnb hdb oM) λce h2 M ax=>?_;have bb:=yX qb;subst ax;refine zC4 (λJ=>?_) λJ=>?_
 ·
  refine gc8 (λZ=>?_) λZ=>?_
  ·
   refine go8 ?_;refine zC I I ?_;rw[zB2 J,if_pos Z]
  refine go9 ?_;refine zC I I ?_;rw[zB2 J,if_neg Z]
 have ar:=zLS J;refine go7 ?_;refine qZ (ι:=Mem) (λ(mc:(Mem))=>MLe h2 mc/\(True)) (λ(mc:(Mem))=>[(2,vP b2 0),(7,vI (cN qa qb))]) (λ(mc:(Mem))=>[.var b3 29 [vB (qb.num<0),vnb,vdb],.var b2 29 [vB (qa.num<0),vna,vda]]) (λ(mc:(Mem))=>mc) ?_ ?_
 ·
  refine go3 ?_;replace hna:=hna.mono (ae.trans M);replace hda:=hda.mono (ae.trans M);refine cL (ev1 I) call163 (λw hs=>pO hs hna hda) λcd h3 D aw=>?_;subst aw;refine rA ?_;replace hda:=hda.mono D;replace hdb:=hdb.mono (M.trans D);refine cL (ev2 I I) call193 (λw hs=>zAW hs hda hdb) λcc h4 C av=>?_;subst av;refine gc2 (λap=>?_) λap=>?_
  ·
   refine go5 ?_;replace hna:=hna.mono (D.trans C);replace hnb:=hnb.mono ((M.trans D).trans C);refine cL (ev2 I I) call204 (λw hs=>zEN hs hna hnb) λcb h5 G am=>?_
   try simp only[zE] at am
   subst am;refine go2 ?_;refine zS (h5) ?_ ⟨I,?_,trivial⟩ I I
   ·
    refine⟨((D.trans C).trans G),?_⟩
    trivial
   · exact congrArg some (congrArg vI ((yI6 ap).symm))
  refine go3 ?_;replace hnb:=hnb.mono ((M.trans D).trans C);replace hdb:=hdb.mono C;refine cL (ev1 I) call163 (λw hs=>pO hs hnb hdb) λca h5 G au=>?_;subst au;refine uV ?_;refine gU 3 49 (vB ((sD qa)/\(sD qb))) ?_ ?_
  ·
   refine zY (sD qa) (λhg=>?_) (λhg=>?_)
   ·
    refine gT hg I (go4 ?_);refine gqU ?_;exact congrArg some (xD hg)
   refine gF hg I (go3 ?_);refine gqU ?_;exact congrArg some (xE hg)
  refine gc2 (λU=>?_) λU=>?_
  ·
   have ab:=U.1;have aa:=U.2;have bi:=tA ab;have be:=tB ab;have bh:=tA aa;have bd:=tB aa;have ch:=jC bi bd;have cg:=jC bh be;rw[zHL ab,zHM ab,zHL aa,zHM aa];refine zC4 (λao=>?_) λao=>?_
   ·
    refine go3 ?_;refine zS (h5) ?_ ⟨I,?_,trivial⟩ I I
    ·
     refine⟨((D.trans C).trans G),?_⟩
     trivial
    · exact congrArg some (congrArg vI ((zB3 ao).symm))
   refine zC4 (λan=>?_) λan=>?_
   ·
    refine go3 ?_;refine zS (h5) ?_ ⟨I,?_,trivial⟩ I I
    ·
     refine⟨((D.trans C).trans G),?_⟩
     trivial
    · exact congrArg some (congrArg vI ((zB4 an).symm))
   refine go1 ?_;refine zS (h5) ?_ ⟨I,?_,trivial⟩ I I
   ·
    refine⟨((D.trans C).trans G),?_⟩
    trivial
   · exact congrArg some (congrArg vI ((zDB.2 oM).symm))
  refine zK 12 _ [] [(0,.q),(1,.q),(2,.q),(5,.q),(6,.q),(7,.q),(3,.c),(4,.c),(8,.c),(9,.c),(10,.c),(11,.q)] yA nX zou nX (λr hr=>hr) (go6 ?_);refine w_c I ?_;replace hnb:=hnb.mono G;replace hdb:=hdb.mono G;refine sC (ev1 I) call166 (λw hs=>tV hs hnb hdb) λbz h6 ad ak=>?_;rw[qH] at ak;refine w_c I ?_;replace hna:=hna.mono (((D.trans C).trans G).trans ad);refine sC (ev2 I I) call165 (λw hs=>sU hs hna ak oM oM) λbx h7 ac H=>?_
  try simp only[zE] at H
  have bk:=yN ((qa.num.natAbs)) ((qb.den));refine w_c I ?_;replace hna:=hna.mono ac;replace hda:=hda.mono (((C.trans G).trans ad).trans ac);refine sC (ev1 I) call166 (λw hs=>tV hs hna hda) λbw h8 aq aj=>?_;rw[qH] at aj;refine w_c I ?_;replace hnb:=hnb.mono ((ad.trans ac).trans aq);refine sC (ev2 I I) call165 (λw hs=>sU hs hnb aj oM oM) λbv h9 az ai=>?_
  try simp only[zE] at ai
  have bj:=yN ((qb.num.natAbs)) ((qa.den));refine w_c I ?_;replace H:=H.mono (aq.trans az);refine sC (ev2 I I) call204 (λw hs=>zEN hs H ai) λbu bl ba ah=>?_
  try simp only[zE] at ah
  subst ah;refine go2 ?_;refine zS (bl) ?_ e2z I I;refine⟨(((((((D.trans C).trans G).trans ad).trans ac).trans aq).trans az).trans ba),?_⟩
  trivial
 rintro mc ⟨bm,bt⟩
 refine yW ?_;have ci:=zN0 qa qb;refine gc7 (λO=>?_) λO=>?_
 ·
  refine go3 ?_;refine gv (aY I oM oM) I (go5 ?_);refine zC I I ?_;rw[zR2 ar O]
 refine go9 ?_;refine zC I I ?_;rw[zNV ar O]
theorem yBK{qa:Rat}{vna vda:Value}(hna:Us .u32 h0 vna (zB qa.num.natAbs))(hda:Us .u32 h0 vda (zB (wU qa.den))){qb:Rat}{vnb vdb:Value}(hnb:Us .u32 h0 vnb (zB qb.num.natAbs))(hdb:Us .u32 h0 vdb (zB (wU qb.den)))(hqa:lq qa<=100000000000)(hqb:lq qb<=100000000000):
 Calls Tryz.prog 153 #[.agg #[vB (qa.num<0),vna,vda],.agg #[vB (qb.num<0),vnb,vdb]] w0 (Ret w0 h0 (λh r=>vC h r (qa*qb))):=by
 have bm:=uE qa;have bo:=uC qa;have bq:=vZ qa;have bl:=uE qb;have bn:=uC qb;have bp:=vZ qb;rw[<-zXN];refine cb2 64 (.agg #[vB (qa.num<0),vna,vda]) (.agg #[vB (qb.num<0),vnb,vdb]) func153 hs ?_;refine go2 ?_;refine zG (wW (cs:=[_,_,_]) I I) I I I ?_;intro v2 r2 bk;obtain⟨b2,rfl,rfl⟩:=bk;refine zG (wW (cs:=[_,_,_]) I I) I I I ?_;intro v3 r3 bj;obtain⟨b3,rfl,rfl⟩:=bj;refine zG (vY (cs:=[vB ((0:Rat).num<0),.slice none 0 0,.slice none 0 0]) xR I (by simp only[zb];rfl)) I I I ?_;intro v4 r4 bi;obtain⟨b4,rfl,rfl⟩:=bi;refine go9 ?_;refine gU 6 20 (vB (((↑(zB qa.num.natAbs).length:Int)=(0:Int))\/((↑(zB qb.num.natAbs).length:Int)=(0:Int)))) ?_ ?_
 ·
  refine zY ((↑(zB qa.num.natAbs).length:Int)=(0:Int)) (λhg=>?_) (λhg=>?_)
  ·
   refine gT hg I (go6 ?_);refine gqU ?_;exact congrArg some (vD hg)
  refine gF hg I (uG ?_);refine gqU ?_;exact congrArg some (vG hg)
 refine gc2 (λao=>?_) λao=>?_
 ·
  refine go2 ?_;refine gv (wD (ps':=[]) (vs:=[vB ((0:Rat).num<0),.slice none 0 0,.slice none 0 0]) underlying29 xR I (qL underlying29) trivial (by simp only[zb];exact jX)) I (wN (A:=[]) (r':=.var b4 29 [vB ((0:Rat).num<0),.slice none 0 0,.slice none 0 0]) (zN (k:=0) (cs:=[_,_,_]) (vs:=[_,_,_]) I I I I yF (bL I)) I I I (go4 ?_));refine yV (λE S=>zV I (wR (cs:=[_,_,_]) mh0 underlying29 I yF I) E S) ?_
  rcases ao with h|h
  · rw[bU h,show(0:Rat).num.natAbs=0 from I,Nat.zero_mul,zBL];exact vC.zero _
  · rw[bU h,show(0:Rat).num.natAbs=0 from I,Nat.mul_zero,zBL];exact vC.zero _
 refine go6 ?_;refine cL (ev1 I) call163 (λw hs=>pO hs hna hda) λbt h1 Z ba=>?_;subst ba;refine tZ ?_;refine cnd (λan=>?_) λan=>?_
 ·
  have ah:=an;have bb:=tA ah;have ap:=tB ah;refine go3 ?_;replace hnb:=hnb.mono Z;replace hdb:=hdb.mono Z;refine cL (ev1 I) call163 (λw hs=>pO hs hnb hdb) λbs h2 H az=>?_;subst az;refine tZ ?_;refine cnd (λam=>?_) λam=>?_
  ·
   have ae:=am;have aq:=tA ae;have ax:=tB ae;have bz:=jC bb ax;have bx:=jC aq ap;have bw:=jC ap ax;have bv:=jC bb aq;have bu:=jC ap aq;have cb:qa.den*qb.den≠0:=Nat.mul_ne_zero qa.den_nz qb.den_nz;simp only[zHL ah,zHM ah,zHL ae,zHM ae];refine go6 ?_;refine gv (tO underlying4 I I) I (go6 ?_);refine cL (ev3 I I I) call164 (λw hs=>aO hs oM oM oM) λbr h3 G ay=>?_;obtain⟨av,aw,rfl,aj,ak⟩:=ay;refine wN (A:=[]) (r':=.var b4 29 [vB ((mkRat (sg (¬((qa.num<0)↔(qb.num<0))) (qa.num.natAbs*qb.num.natAbs)) (qa.den*qb.den)).num<0),av,aw]) (zN (k:=0) (cs:=[_,_,_]) (vs:=[_,_,_]) I I I (ocr I (ocu aj (ocu ak oc0))) yF (bL I)) I I I (go4 ?_);refine yV (λE S=>zV I (wR (cs:=[_,_,_]) mh0 underlying29 I yF I) E S) ?_;exact⟨_,_,I,aj,ak⟩
  refine go3 ?_;refine zK 16 _ [] [(0,.q),(1,.q),(2,.q),(3,.q),(4,.q),(5,.q),(6,.q),(7,.q),(8,.q),(10,.q),(12,.q),(9,.c),(11,.c),(13,.c),(14,.c),(15,.c),(16,.t)] yA nX zou nX (λr hr=>hr) (go4 ?_);refine wI I (λ_ _=>tO underlying4 I I) I (go6 ?_);refine w_c I ?_;replace hna:=hna.mono (Z.trans H);replace hnb:=hnb.mono H;refine sC (ev2 I I) call165 (λw hs=>sU hs hna hnb oM oM) λbh h3 G D=>?_
  try simp only[zE] at D
  have au:=yN ((qa.num.natAbs)) ((qb.num.natAbs));refine w_c I ?_;replace hna:=hna.mono G;replace hda:=hda.mono ((Z.trans H).trans G);refine sC (ev1 I) call166 (λw hs=>tV hs hna hda) λbg h4 ab C=>?_;rw[qH] at C;refine w_c I ?_;replace hnb:=hnb.mono (G.trans ab);replace hdb:=hdb.mono ((H.trans G).trans ab);refine sC (ev1 I) call166 (λw hs=>tV hs hnb hdb) λbf h5 ai O=>?_;rw[qH] at O;refine w_c I ?_;replace C:=C.mono ai;refine sC (ev2 I I) call165 (λw hs=>sU hs C O oM oM) λbe h6 bc M=>?_
  try simp only[zE] at M
  have ar:=yN ((qa.den)) ((qb.den));refine w_c I ?_;replace D:=D.mono ((ab.trans ai).trans bc);refine sC (ev3 I I I) call155 (λw hs=>kZ hs D M oM oM) λbd h7 ca J=>?_
  try simp only[zE] at J
  obtain⟨ac,ad,rfl,U,aa⟩:=J;refine pT (A:=[]) (q':=.var b4 29 [vB ((mkRat (sg (¬((qa.num<0)↔(qb.num<0))) (((((qa.num.natAbs))*((qb.num.natAbs)))))) (((((qa.den))*((qb.den)))))).num<0),ac,ad]) I (zN (k:=0) (cs:=[_,_,_]) (vs:=[_,_,_]) I I I (ocr I (ocu U (ocu aa oc0))) yF (bL I)) I (go3 ?_);refine yV (λE S=>zV I (wR (cs:=[_,_,_]) mh0 underlying29 I yF I) E S) ?_;exact⟨_,_,I,U,aa⟩
 refine go3 ?_;refine zK 16 _ [] [(0,.q),(1,.q),(2,.q),(3,.q),(4,.q),(5,.q),(6,.q),(7,.q),(8,.q),(10,.q),(12,.q),(9,.c),(11,.c),(13,.c),(14,.c),(15,.c),(16,.t)] yA nX zou nX (λr hr=>hr) (go4 ?_);refine wI I (λ_ _=>tO underlying4 I I) I (go6 ?_);refine w_c I ?_;replace hna:=hna.mono Z;replace hnb:=hnb.mono Z;refine sC (ev2 I I) call165 (λw hs=>sU hs hna hnb oM oM) λbh h2 H D=>?_
 try simp only[zE] at D
 have au:=yN ((qa.num.natAbs)) ((qb.num.natAbs));refine w_c I ?_;replace hna:=hna.mono H;replace hda:=hda.mono (Z.trans H);refine sC (ev1 I) call166 (λw hs=>tV hs hna hda) λbg h3 G C=>?_;rw[qH] at C;refine w_c I ?_;replace hnb:=hnb.mono (H.trans G);replace hdb:=hdb.mono ((Z.trans H).trans G);refine sC (ev1 I) call166 (λw hs=>tV hs hnb hdb) λbf h4 ab O=>?_;rw[qH] at O;refine w_c I ?_;replace C:=C.mono ab;refine sC (ev2 I I) call165 (λw hs=>sU hs C O oM oM) λbe h5 ai M=>?_
 try simp only[zE] at M
 have ar:=yN ((qa.den)) ((qb.den));refine w_c I ?_;replace D:=D.mono ((G.trans ab).trans ai);refine sC (ev3 I I I) call155 (λw hs=>kZ hs D M oM oM) λbd h6 bc J=>?_
 try simp only[zE] at J
 obtain⟨ac,ad,rfl,U,aa⟩:=J;refine pT (A:=[]) (q':=.var b4 29 [vB ((mkRat (sg (¬((qa.num<0)↔(qb.num<0))) (((((qa.num.natAbs))*((qb.num.natAbs)))))) (((((qa.den))*((qb.den)))))).num<0),ac,ad]) I (zN (k:=0) (cs:=[_,_,_]) (vs:=[_,_,_]) I I I (ocr I (ocu U (ocu aa oc0))) yF (bL I)) I (go3 ?_);refine yV (λE S=>zV I (wR (cs:=[_,_,_]) mh0 underlying29 I yF I) E S) ?_;exact⟨_,_,I,U,aa⟩
theorem yBJ{qa:Rat}{vna vda:Value}(hna:Us .u32 h0 vna (zB qa.num.natAbs))(hda:Us .u32 h0 vda (zB (wU qa.den))){qb:Rat}{vnb vdb:Value}(hnb:Us .u32 h0 vnb (zB qb.num.natAbs))(hdb:Us .u32 h0 vdb (zB (wU qb.den)))(hqa:lq qa<=100000000000)(hqb:lq qb<=100000000000):
 Calls Tryz.prog 123 #[.agg #[vB (qa.num<0),vna,vda],.agg #[vB (qb.num<0),vnb,vdb]] w0 (Ret w0 h0 (λh r=>∃u,r=.tuple #[u,vI (if qb=0 then 3 else 0)]/\vC h u (if qb=0 then 0 else qa/qb))):=by
 have br:=uE qa;have bt:=uC qa;have bv:=vZ qa;have bq:=uE qb;have bs:=uC qb;have bu:=vZ qb;refine cb2 58 (.agg #[vB (qa.num<0),vna,vda]) (.agg #[vB (qb.num<0),vnb,vdb]) func123 hs ?_;refine go2 ?_;refine zG (wW (cs:=[_,_,_]) I I) I I I ?_;intro v2 r2 bo;obtain⟨b2,rfl,rfl⟩:=bo;refine zG (wW (cs:=[_,_,_]) I I) I I I ?_;intro v3 r3 bn;obtain⟨b3,rfl,rfl⟩:=bn;refine zG (vY (cs:=[vB ((0:Rat).num<0),.slice none 0 0,.slice none 0 0]) xR I (by simp only[zb];rfl)) I I I ?_;intro v4 r4 bm;obtain⟨b4,rfl,rfl⟩:=bm;refine go7 ?_;refine cL (ev1 I) call122 (λw hs=>zA8 hs hnb hdb oM) λca h1 ad bd=>?_;have bl:=yX qb;subst bd;refine gc3 (λai=>?_) λai=>?_
 ·
  have ab:=uS.1 ai;rw[if_pos ab,if_pos ab];refine go2 ?_;refine gv (wD (ps':=[]) (vs:=[vB ((0:Rat).num<0),.slice none 0 0,.slice none 0 0]) underlying29 xR I (qL underlying29) trivial (by simp only[zb];exact jX)) I (wN (A:=[]) (r':=.var b4 29 [vB ((0:Rat).num<0),.slice none 0 0,.slice none 0 0]) (zN (k:=0) (cs:=[_,_,_]) (vs:=[_,_,_]) I I I I yF (bL I)) I I I (go5 ?_));refine yV (λE S=>jS I (wR (cs:=[_,_,_]) mh0 underlying29 I yF I) (tE I) E S) ?_;exact⟨_,I,vC.zero _⟩
 have ab:qb≠0:=λh=>ai (uS.2 h);rw[if_neg ab,if_neg ab,<-zWC qa ab];have bp:=zF8.2 ab;refine go6 ?_;replace hna:=hna.mono ad;replace hda:=hda.mono ad;refine cL (ev1 I) call163 (λw hs=>pO hs hna hda) λbz h2 Z bc=>?_;subst bc;refine tZ ?_;refine cnd (λaq=>?_) λaq=>?_
 ·
  have ak:=aq;have be:=tA ak;have ar:=tB ak;refine go3 ?_;replace hnb:=hnb.mono (ad.trans Z);replace hdb:=hdb.mono (ad.trans Z);refine cL (ev1 I) call163 (λw hs=>pO hs hnb hdb) λbx h3 U bb=>?_;subst bb;refine tZ ?_;refine cnd (λap=>?_) λap=>?_
  ·
   have aj:=ap;have au:=tA aj;have az:=tB aj;have cf:=jC be az;have ce:=jC au ar;have cd:=jC ar az;have cc:=jC be au;have cb:=jC ar au;have ch:qa.den*qb.num.natAbs≠0:=Nat.mul_ne_zero qa.den_nz bp;simp only[zHL ak,zHM ak,zHL aj,zHM aj];refine go6 ?_;refine gv (tO underlying4 I I) I (go6 ?_);refine cL (ev3 I I I) call164 (λw hs=>aO hs oM oM oM) λbw h4 O ba=>?_;obtain⟨ax,ay,rfl,an,ao⟩:=ba;refine wN (A:=[]) (r':=.var b4 29 [vB ((mkRat (sg (¬((qa.num<0)↔(qb.num<0))) (qa.num.natAbs*qb.den)) (qa.den*qb.num.natAbs)).num<0),ax,ay]) (zN (k:=0) (cs:=[_,_,_]) (vs:=[_,_,_]) I I I (ocr I (ocu an (ocu ao oc0))) yF (bL I)) I I I (go5 ?_);refine yV (λE S=>jS I (wR (cs:=[_,_,_]) mh0 underlying29 I yF I) (tE I) E S) ?_;exact⟨_,I,_,_,I,an,ao⟩
  refine go3 ?_;refine zK 16 _ [] [(0,.q),(1,.q),(2,.q),(3,.q),(4,.q),(5,.q),(6,.q),(7,.q),(10,.q),(12,.q),(13,.q),(8,.c),(9,.c),(11,.c),(14,.c),(15,.c),(16,.t),(17,.t)] yA nX zou nX (λr hr=>hr) (go4 ?_);refine wI I (λ_ _=>tO underlying4 I I) I (go6 ?_);refine w_c I ?_;replace hnb:=hnb.mono U;replace hdb:=hdb.mono U;refine sC (ev1 I) call166 (λw hs=>tV hs hnb hdb) λbk h4 O J=>?_;rw[qH] at J;refine w_c I ?_;replace hna:=hna.mono ((Z.trans U).trans O);refine sC (ev2 I I) call165 (λw hs=>sU hs hna J oM oM) λbj h5 ac C=>?_
  try simp only[zE] at C
  have aw:=yN ((qa.num.natAbs)) ((qb.den));refine w_c I ?_;replace hna:=hna.mono ac;replace hda:=hda.mono (((Z.trans U).trans O).trans ac);refine sC (ev1 I) call166 (λw hs=>tV hs hna hda) λbi h6 am H=>?_;rw[qH] at H;refine w_c I ?_;replace hnb:=hnb.mono ((O.trans ac).trans am);refine sC (ev2 I I) call165 (λw hs=>sU hs H hnb oM oM) λbh h7 bf G=>?_
  try simp only[zE] at G
  have av:=yN ((qa.den)) ((qb.num.natAbs));refine w_c I ?_;replace C:=C.mono (am.trans bf);refine sC (ev3 I I I) call155 (λw hs=>kZ hs C G oM oM) λbg h8 cg D=>?_
  try simp only[zE] at D
  obtain⟨ae,ah,rfl,M,aa⟩:=D;refine pT (A:=[]) (q':=.var b4 29 [vB ((mkRat (sg (¬((qa.num<0)↔(qb.num<0))) (((((qa.num.natAbs))*((qb.den)))))) (((((qa.den))*((qb.num.natAbs)))))).num<0),ae,ah]) I (zN (k:=0) (cs:=[_,_,_]) (vs:=[_,_,_]) I I I (ocr I (ocu M (ocu aa oc0))) yF (bL I)) I (zED I (pP (v:=vI (0)) I) I (go3 ?_));refine yV (λE S=>jS I (wR (cs:=[_,_,_]) mh0 underlying29 I yF I) (tE I) E S) ?_;exact⟨_,I,_,_,I,M,aa⟩
 refine go3 ?_;refine zK 16 _ [] [(0,.q),(1,.q),(2,.q),(3,.q),(4,.q),(5,.q),(6,.q),(7,.q),(10,.q),(12,.q),(13,.q),(8,.c),(9,.c),(11,.c),(14,.c),(15,.c),(16,.t),(17,.t)] yA nX zou nX (λr hr=>hr) (go4 ?_);refine wI I (λ_ _=>tO underlying4 I I) I (go6 ?_);refine w_c I ?_;replace hnb:=hnb.mono (ad.trans Z);replace hdb:=hdb.mono (ad.trans Z);refine sC (ev1 I) call166 (λw hs=>tV hs hnb hdb) λbk h3 U J=>?_;rw[qH] at J;refine w_c I ?_;replace hna:=hna.mono (Z.trans U);refine sC (ev2 I I) call165 (λw hs=>sU hs hna J oM oM) λbj h4 O C=>?_
 try simp only[zE] at C
 have aw:=yN ((qa.num.natAbs)) ((qb.den));refine w_c I ?_;replace hna:=hna.mono O;replace hda:=hda.mono ((Z.trans U).trans O);refine sC (ev1 I) call166 (λw hs=>tV hs hna hda) λbi h5 ac H=>?_;rw[qH] at H;refine w_c I ?_;replace hnb:=hnb.mono ((U.trans O).trans ac);refine sC (ev2 I I) call165 (λw hs=>sU hs H hnb oM oM) λbh h6 am G=>?_
 try simp only[zE] at G
 have av:=yN ((qa.den)) ((qb.num.natAbs));refine w_c I ?_;replace C:=C.mono (ac.trans am);refine sC (ev3 I I I) call155 (λw hs=>kZ hs C G oM oM) λbg h7 bf D=>?_
 try simp only[zE] at D
 obtain⟨ae,ah,rfl,M,aa⟩:=D;refine pT (A:=[]) (q':=.var b4 29 [vB ((mkRat (sg (¬((qa.num<0)↔(qb.num<0))) (((((qa.num.natAbs))*((qb.den)))))) (((((qa.den))*((qb.num.natAbs)))))).num<0),ae,ah]) I (zN (k:=0) (cs:=[_,_,_]) (vs:=[_,_,_]) I I I (ocr I (ocu M (ocu aa oc0))) yF (bL I)) I (zED I (pP (v:=vI (0)) I) I (go3 ?_));refine yV (λE S=>jS I (wR (cs:=[_,_,_]) mh0 underlying29 I yF I) (tE I) E S) ?_;exact⟨_,I,_,_,I,M,aa⟩
theorem zL6{qa:Rat}{vna vda:Value}(hna:Us .u32 h0 vna (zB qa.num.natAbs))(hda:Us .u32 h0 vda (zB (wU qa.den))){qb:Rat}{vnb vdb:Value}(hnb:Us .u32 h0 vnb (zB qb.num.natAbs))(hdb:Us .u32 h0 vdb (zB (wU qb.den)))(hqa:lq qa<=100000000000)(hqb:lq qb<=100000000000){s:Prop}:
 Calls Tryz.prog 161 #[.agg #[vB (qa.num<0),vna,vda],.agg #[vB (qb.num<0),vnb,vdb],vB s] w0 (Ret w0 h0 (λh r=>vC h r (qa+sgd s qb))):=by
 have ea:=uE qa;have ec:=uC qa;have ee:=vZ qa;have dz:=uE qb;have eb:=uC qb;have ed:=vZ qb;refine cb3 152 (.agg #[vB (qa.num<0),vna,vda]) (.agg #[vB (qb.num<0),vnb,vdb]) (vB s) func161 hs ?_;refine go2 ?_;refine zG (wW (cs:=[_,_,_]) I I) I I I ?_;intro v3 r3 dp;obtain⟨b3,rfl,rfl⟩:=dp;refine zG (wW (cs:=[_,_,_]) I I) I I I ?_;intro v4 r4 dn;obtain⟨b4,rfl,rfl⟩:=dn;refine zG (vY (cs:=[vB ((0:Rat).num<0),.slice none 0 0,.slice none 0 0]) xR I (by simp only[zb];rfl)) I I I ?_;intro v6 r6 dm;obtain⟨b6,rfl,rfl⟩:=dm;refine go2 ?_;refine qZ (ι:=Mem) (λ(mc:(Mem))=>MLe h0 mc/\(True)) (λ(mc:(Mem))=>[(2,vB s),(3,vP b3 0),(4,vP b4 0),(6,vP b6 0)]) (λ(mc:(Mem))=>[.var b6 29 [vB ((0:Rat).num<0),.slice none 0 0,.slice none 0 0],.var b4 29 [vB (qb.num<0),vnb,vdb],.var b3 29 [vB (qa.num<0),vna,vda]]) (λ(mc:(Mem))=>mc) ?_ ?_
 ·
  refine go3 ?_;refine cL (ev1 I) call163 (λw hs=>pO hs hna hda) λel h1 Z df=>?_;subst df;refine tZ ?_;refine cnd (λcd=>?_) λcd=>?_
  ·
   have bq:=cd;have dh:=tA bq;have cf:=tB bq;refine go3 ?_;replace hnb:=hnb.mono Z;replace hdb:=hdb.mono Z;refine cL (ev1 I) call163 (λw hs=>pO hs hnb hdb) λek h2 O de=>?_;subst de;refine tZ ?_;refine cnd (λcc=>?_) λcc=>?_
   ·
    have bp:=cc;have ch:=tA bp;have da:=tB bp;have eq:=jC dh da;have ep:=jC ch cf;have eo:=jC cf da;have en:=jC dh ch;have em:=jC cf ch;have er:qa.den*qb.den≠0:=Nat.mul_ne_zero qa.den_nz qb.den_nz;simp only[zHL bq,zHM bq,zHL bp,zHM bp];refine zAG ?_;refine gv (zWT (vs:=[_,_,vU .u64 0]) (yLR _ _) e3z) I (sO ?_);refine gv (aZ underlying4 I I) I ?_;refine gU 4 56 (vB (((qa.num<0)↔(s))/\((((qa.num.natAbs*qb.den)+(qb.num.natAbs*qa.den))/18446744073709551616)=(0:Nat)))) ?_ ?_
    ·
     refine zY ((qa.num<0)↔(s)) (λhg=>?_) (λhg=>?_)
     ·
      refine gT hg I (go3 ?_);refine gv (fP (k:=.u64) (q:=0) I I) I (go2 ?_);refine gqU ?_;exact congrArg some (xD hg)
     refine gF hg I (go4 ?_);refine gqU ?_;exact congrArg some (xE hg)
    refine gc3 (λcb=>?_) λcb=>?_
    ·
     obtain⟨ce,es⟩:=cb;refine go7 ?_;refine cL (ev3 I I I) call164 (λw hs=>aO hs oM oM oM) λej h3 M dd=>?_;obtain⟨cl,co,rfl,bg,bl⟩:=dd;refine wN (A:=[]) (r':=.var b6 29 [vB ((mkRat (sg (s) (((qa.num.natAbs*qb.den)+(qb.num.natAbs*qa.den))%18446744073709551616)) (qa.den*qb.den)).num<0),cl,co]) (zN (k:=0) (cs:=[_,_,_]) (vs:=[_,_,_]) I I I (ocr I (ocu bg (ocu bl oc0))) yF (bL I)) I I I (go5 ?_);refine yV (λE S=>zV I (wR (cs:=[_,_,_]) mh0 underlying29 I yF I) E S) ?_;have e:=zoh (a:=qa.num.natAbs*qb.den+qb.num.natAbs*qa.den) (b:=18446744073709551616) oM;rw[e] at bg bl ⊢;rw[zEU ce];exact⟨_,_,I,bg,bl⟩
    refine go5 ?_;refine gv (tO underlying4 I I) I ?_;refine gU 5 72 (vB ((¬((qa.num<0)↔(s)))/\((qb.num.natAbs*qa.den)<=(qa.num.natAbs*qb.den)))) ?_ ?_
    ·
     refine zY (¬((qa.num<0)↔(s))) (λhg=>?_) (λhg=>?_)
     ·
      refine gT hg I (go8 ?_);refine gqU ?_;exact congrArg some (xD hg)
     refine gF hg I (go5 ?_);refine gqU ?_;exact congrArg some (xE hg)
    refine gc3 (λbn=>?_) λbn=>?_
    ·
     obtain⟨ce,bk⟩:=bn;refine go6 ?_;refine gv (aX (k:=.u64) (W:=18446744073709551616) I I I I oM oM) I (go3 ?_);refine cL (ev3 I I I) call164 (λw hs=>aO hs oM oM oM) λei h3 M dc=>?_;obtain⟨ck,cn,rfl,bx,ca⟩:=dc;refine wN (A:=[]) (r':=.var b6 29 [vB ((mkRat (sg (qa.num<0) ((qa.num.natAbs*qb.den)-(qb.num.natAbs*qa.den))) (qa.den*qb.den)).num<0),ck,cn]) (zN (k:=0) (cs:=[_,_,_]) (vs:=[_,_,_]) I I I (ocr I (ocu bx (ocu ca oc0))) yF (bL I)) I I I (go5 ?_);refine yV (λE S=>zV I (wR (cs:=[_,_,_]) mh0 underlying29 I yF I) E S) ?_;rw[zEG ce bk];exact⟨_,_,I,bx,ca⟩
    refine go5 ?_;refine gv (tO underlying4 I I) I (gc3 (λbm=>?_) λbm=>?_)
    ·
     have br:¬qb.num.natAbs*qa.den<=qa.num.natAbs*qb.den:=λh=>bn ⟨bm,h⟩;refine go5 ?_;refine gv (aX (k:=.u64) (W:=18446744073709551616) I I I I oM oM) I (go3 ?_);refine cL (ev3 I I I) call164 (λw hs=>aO hs oM oM oM) λeh h3 M db=>?_;obtain⟨cj,cm,rfl,bw,bz⟩:=db;refine wN (A:=[]) (r':=.var b6 29 [vB ((mkRat (sg (s) ((qb.num.natAbs*qa.den)-(qa.num.natAbs*qb.den))) (qa.den*qb.den)).num<0),cj,cm]) (zN (k:=0) (cs:=[_,_,_]) (vs:=[_,_,_]) I I I (ocr I (ocu bw (ocu bz oc0))) yF (bL I)) I I I (go5 ?_);refine yV (λE S=>zV I (wR (cs:=[_,_,_]) mh0 underlying29 I yF I) E S) ?_;rw[zAU bm oM];exact⟨_,_,I,bw,bz⟩
    refine go2 ?_;refine zS (h2) ?_ e4z I I;refine⟨(Z.trans O),?_⟩
    trivial
   refine go1 ?_;refine zS (h2) ?_ e4z I I;refine⟨(Z.trans O),?_⟩
   trivial
  refine go1 ?_;refine zS (h1) ?_ e4z I I;refine⟨Z,?_⟩
  trivial
 rintro mc ⟨ap,eg⟩
 refine yW ?_;refine go1 ?_;refine zK 9 _ [] [(0,.q),(1,.q),(2,.q),(3,.q),(4,.q),(5,.c),(6,.q),(7,.q),(8,.q)] yA nX zou nX (λr hr=>hr) (go5 ?_);refine w_c I ?_;replace hna:=hna.mono ap;replace hda:=hda.mono ap;refine sC (ev1 I) call166 (λw hs=>tV hs hna hda) λdy h1 Z C=>?_;rw[qH] at C;refine uV ?_;replace hda:=hda.mono Z;replace hdb:=hdb.mono (ap.trans Z);refine cL (ev2 I I) call193 (λw hs=>zAW hs hda hdb) λdx h2 O cg=>?_;subst cg;refine gc3 (λbo=>?_) λbo=>?_
 ·
  refine zK 15 _ [] [(0,.q),(1,.q),(4,.q),(5,.q),(8,.q),(9,.q),(2,.c),(3,.c),(6,.c),(7,.c),(10,.c),(11,.c),(12,.q),(13,.q),(14,.q)] yA nX zou nX (λr hr=>hr) (go6 ?_);refine w_c I ?_;replace hnb:=hnb.mono ((ap.trans Z).trans O);replace hdb:=hdb.mono O;refine sC (ev1 I) call166 (λw hs=>tV hs hnb hdb) λdw h3 M bf=>?_;rw[qH] at bf;refine w_c I ?_;replace hna:=hna.mono ((Z.trans O).trans M);refine sC (ev2 I I) call165 (λw hs=>sU hs hna bf oM oM) λdv h4 aq H=>?_
  try simp only[zE] at H
  have dl:=yN ((qa.num.natAbs)) ((qb.den));refine w_c I ?_;replace hna:=hna.mono aq;replace hda:=hda.mono ((O.trans M).trans aq);refine sC (ev1 I) call166 (λw hs=>tV hs hna hda) λdu h5 bc be=>?_;rw[qH] at be;refine w_c I ?_;replace hnb:=hnb.mono ((M.trans aq).trans bc);refine sC (ev2 I I) call165 (λw hs=>sU hs hnb be oM oM) λdt h6 bi G=>?_
  try simp only[zE] at G
  have dk:=yN ((qb.num.natAbs)) ((qa.den));refine w_c I ?_;replace hnb:=hnb.mono bi;replace hdb:=hdb.mono (((M.trans aq).trans bc).trans bi);refine sC (ev1 I) call166 (λw hs=>tV hs hnb hdb) λdr h7 bh bd=>?_;rw[qH] at bd;refine w_c I ?_;replace C:=C.mono (((((O.trans M).trans aq).trans bc).trans bi).trans bh);refine sC (ev2 I I) call165 (λw hs=>sU hs C bd oM oM) λdq h8 bv D=>?_
  try simp only[zE] at D
  have dj:=yN ((qa.den)) ((qb.den));refine qM ?_;refine gv (aZ underlying4 I I) I (gc2 (λJ=>?_) λJ=>?_)
  ·
   refine go5 ?_;replace H:=H.mono (((bc.trans bi).trans bh).trans bv);replace G:=G.mono (bh.trans bv);refine cL (ev2 I I) call191 (λw hs=>dQ hs H G oM oM) λcw h9 bb ah=>?_
   try simp only[zE] at ah
   have bu:=kV (((((qa.num.natAbs))*((qb.den))))) (((((qb.num.natAbs))*((qa.den)))));refine go1 ?_;replace D:=D.mono bb;refine cL (ev3 I I I) call155 (λw hs=>kZ hs ah D oM oM) λcv di bj ae=>?_
   try simp only[zE] at ae
   obtain⟨av,ay,rfl,ak,ao⟩:=ae;refine wN (A:=[]) (r':=.var b6 29 [vB ((mkRat (sg (s) ((((((((qa.num.natAbs))*((qb.den)))))+(((((qb.num.natAbs))*((qa.den))))))))) (((((qa.den))*((qb.den)))))).num<0),av,ay]) (zN (k:=0) (cs:=[_,_,_]) (vs:=[_,_,_]) I I I (ocr I (ocu ak (ocu ao oc0))) yF (bL I)) I I I (go4 ?_);refine yV (λE S=>zV I (wR (cs:=[_,_,_]) mh0 underlying29 I yF I) E S) ?_;rw[zEU J];exact⟨_,_,I,ak,ao⟩
  refine go7 ?_;replace H:=H.mono (((bc.trans bi).trans bh).trans bv);replace G:=G.mono (bh.trans bv);refine cL (ev2 I I) call195 (λw hs=>zEL hs H G oM) λcu h9 bb ba=>?_;obtain⟨cz,rfl,ab⟩:=ba
  try simp only[zE] at ab ⊢
  have bt:=yL (Nat.sub_le (((((qa.num.natAbs))*((qb.den))))) (((((qb.num.natAbs))*((qa.den))))));refine sO ?_;refine cnd (λU=>?_) λU=>?_
  ·
   have bk:=zU9 U;rw[if_neg bk];refine go6 ?_;replace D:=D.mono bb;refine cL (ev3 I I I) call155 (λw hs=>kZ hs ab D oM oM) λct di bj ad=>?_
   try simp only[zE] at ad
   obtain⟨au,ax,rfl,aj,an⟩:=ad;refine wN (A:=[]) (r':=.var b6 29 [vB ((mkRat (sg (qa.num<0) ((((((((qa.num.natAbs))*((qb.den)))))-(((((qb.num.natAbs))*((qa.den))))))))) (((((qa.den))*((qb.den)))))).num<0),au,ax]) (zN (k:=0) (cs:=[_,_,_]) (vs:=[_,_,_]) I I I (ocr I (ocu aj (ocu an oc0))) yF (bL I)) I I I (go4 ?_);refine yV (λE S=>zV I (wR (cs:=[_,_,_]) mh0 underlying29 I yF I) E S) ?_;rw[zEG J oM];exact⟨_,_,I,aj,an⟩
  have br:=zVA U;rw[if_pos br];refine go6 ?_;replace H:=H.mono bb;replace G:=G.mono bb;refine cL (ev2 I I) call195 (λw hs=>zEL hs G H oM) λcq di bj az=>?_;obtain⟨cy,rfl,aa⟩:=az
  try simp only[zE] at aa ⊢
  have bs:=yL (Nat.sub_le (((((qb.num.natAbs))*((qa.den))))) (((((qa.num.natAbs))*((qb.den))))));refine uV ?_;replace D:=D.mono (bb.trans bj);refine cL (ev3 I I I) call155 (λw hs=>kZ hs aa D oM oM) λcp eu ef ac=>?_
  try simp only[zE] at ac
  obtain⟨ar,aw,rfl,ai,am⟩:=ac;refine wN (A:=[]) (r':=.var b6 29 [vB ((mkRat (sg (s) ((((((((qb.num.natAbs))*((qa.den)))))-(((((qa.num.natAbs))*((qb.den))))))))) (((((qa.den))*((qb.den)))))).num<0),ar,aw]) (zN (k:=0) (cs:=[_,_,_]) (vs:=[_,_,_]) I I I (ocr I (ocu ai (ocu am oc0))) yF (bL I)) I I I (go3 ?_);refine yV (λE S=>zV I (wR (cs:=[_,_,_]) mh0 underlying29 I yF I) E S) ?_;rw[zAU J oM];exact⟨_,_,I,ai,am⟩
 have ci:=zP9.1 (Classical.not_not.1 bo);refine go8 ?_;refine gv (aZ underlying4 I I) I (gc2 (λJ=>?_) λJ=>?_)
 ·
  refine go5 ?_;replace hna:=hna.mono (Z.trans O);replace hnb:=hnb.mono ((ap.trans Z).trans O);refine cL (ev2 I I) call191 (λw hs=>dQ hs hna hnb oM oM) λcw h3 M ah=>?_
  try simp only[zE] at ah
  have bu:=kV ((qa.num.natAbs)) ((qb.num.natAbs));refine go1 ?_;replace C:=C.mono (O.trans M);refine cL (ev3 I I I) call155 (λw hs=>kZ hs ah C oM oM) λcv h4 aq ae=>?_
  try simp only[zE] at ae
  obtain⟨av,ay,rfl,ak,ao⟩:=ae;refine wN (A:=[]) (r':=.var b6 29 [vB ((mkRat (sg (s) (((((qa.num.natAbs))+((qb.num.natAbs)))))) ((qa.den))).num<0),av,ay]) (zN (k:=0) (cs:=[_,_,_]) (vs:=[_,_,_]) I I I (ocr I (ocu ak (ocu ao oc0))) yF (bL I)) I I I (go4 ?_);refine yV (λE S=>zV I (wR (cs:=[_,_,_]) mh0 underlying29 I yF I) E S) ?_;rw[zZ8 J ci];exact⟨_,_,I,ak,ao⟩
 refine go7 ?_;replace hna:=hna.mono (Z.trans O);replace hnb:=hnb.mono ((ap.trans Z).trans O);refine cL (ev2 I I) call195 (λw hs=>zEL hs hna hnb oM) λcu h3 M ba=>?_;obtain⟨cz,rfl,ab⟩:=ba
 try simp only[zE] at ab ⊢
 have bt:=yL (Nat.sub_le ((qa.num.natAbs)) ((qb.num.natAbs)));refine sO ?_;refine cnd (λU=>?_) λU=>?_
 ·
  have bk:=zU9 U;rw[if_neg bk];refine go6 ?_;replace C:=C.mono (O.trans M);refine cL (ev3 I I I) call155 (λw hs=>kZ hs ab C oM oM) λct h4 aq ad=>?_
  try simp only[zE] at ad
  obtain⟨au,ax,rfl,aj,an⟩:=ad;refine wN (A:=[]) (r':=.var b6 29 [vB ((mkRat (sg (qa.num<0) (((((qa.num.natAbs))-((qb.num.natAbs)))))) ((qa.den))).num<0),au,ax]) (zN (k:=0) (cs:=[_,_,_]) (vs:=[_,_,_]) I I I (ocr I (ocu aj (ocu an oc0))) yF (bL I)) I I I (go4 ?_);refine yV (λE S=>zV I (wR (cs:=[_,_,_]) mh0 underlying29 I yF I) E S) ?_;rw[zU8 J ci oM];exact⟨_,_,I,aj,an⟩
 have br:=zVA U;rw[if_pos br];refine go6 ?_;replace hna:=hna.mono M;replace hnb:=hnb.mono M;refine cL (ev2 I I) call195 (λw hs=>zEL hs hnb hna oM) λcq h4 aq az=>?_;obtain⟨cy,rfl,aa⟩:=az
 try simp only[zE] at aa ⊢
 have bs:=yL (Nat.sub_le ((qb.num.natAbs)) ((qa.num.natAbs)));refine uV ?_;replace C:=C.mono ((O.trans M).trans aq);refine cL (ev3 I I I) call155 (λw hs=>kZ hs aa C oM oM) λcp h5 bc ac=>?_
 try simp only[zE] at ac
 obtain⟨ar,aw,rfl,ai,am⟩:=ac;refine wN (A:=[]) (r':=.var b6 29 [vB ((mkRat (sg (s) (((((qb.num.natAbs))-((qa.num.natAbs)))))) ((qa.den))).num<0),ar,aw]) (zN (k:=0) (cs:=[_,_,_]) (vs:=[_,_,_]) I I I (ocr I (ocu ai (ocu am oc0))) yF (bL I)) I I I (go3 ?_);refine yV (λE S=>zV I (wR (cs:=[_,_,_]) mh0 underlying29 I yF I) E S) ?_;rw[zSM J ci oM];exact⟨_,_,I,ai,am⟩
theorem yBN{qa:Rat}{vna vda:Value}(hna:Us .u32 h0 vna (zB qa.num.natAbs))(hda:Us .u32 h0 vda (zB (wU qa.den))){qb:Rat}{vnb vdb:Value}(hnb:Us .u32 h0 vnb (zB qb.num.natAbs))(hdb:Us .u32 h0 vdb (zB (wU qb.den)))(hqa:lq qa<=100000000000)(hqb:lq qb<=100000000000):
 Calls Tryz.prog 160 #[.agg #[vB (qa.num<0),vna,vda],.agg #[vB (qb.num<0),vnb,vdb]] w0 (Ret w0 h0 (λh r=>vC h r (qa+qb))):=by
 have ac:=uE qa;have ae:=uC qa;have ai:=vZ qa;have ab:=uE qb;have ad:=uC qb;have ah:=vZ qb;refine cb2 10 (.agg #[vB (qa.num<0),vna,vda]) (.agg #[vB (qb.num<0),vnb,vdb]) func160 hs ?_;refine go2 ?_;refine zG (wW (cs:=[_,_,_]) I I) I I I ?_;intro v2 r2 U;obtain⟨b2,rfl,rfl⟩:=U;refine zG (wW (cs:=[_,_,_]) I I) I I I ?_;intro v3 r3 O;obtain⟨b3,rfl,rfl⟩:=O;refine zG (vY (cs:=[vB ((0:Rat).num<0),.slice none 0 0,.slice none 0 0]) xR I (by simp only[zb];rfl)) I I I ?_;intro v4 r4 M;obtain⟨b4,rfl,rfl⟩:=M;refine go8 ?_;refine cL (ev3 I I I) call161 (λw hs=>zL6 hs hna hda hnb hdb oM oM) λv9 h1 aj J=>?_;obtain⟨G,H,rfl,C,D⟩:=J;have aa:=lF qa (sgd (qb.num<0) qb);have Z:=zXY (qb.num<0) qb;refine wN (A:=[]) (r':=.var b4 29 [vB ((qa+sgd (qb.num<0) qb).num<0),G,H]) (zN (k:=0) (cs:=[_,_,_]) (vs:=[_,_,_]) I I I (ocr I (ocu C (ocu D oc0))) yF (bL I)) I I I (go3 ?_);refine yV (λE S=>zV I (wR (cs:=[_,_,_]) mh0 underlying29 I yF I) E S) ?_;rw[zA1] at C D ⊢;exact⟨_,_,I,C,D⟩
theorem yBI{qa:Rat}{vna vda:Value}(hna:Us .u32 h0 vna (zB qa.num.natAbs))(hda:Us .u32 h0 vda (zB (wU qa.den))){qb:Rat}{vnb vdb:Value}(hnb:Us .u32 h0 vnb (zB qb.num.natAbs))(hdb:Us .u32 h0 vdb (zB (wU qb.den)))(hqa:lq qa<=100000000000)(hqb:lq qb<=100000000000):
 Calls Tryz.prog 121 #[.agg #[vB (qa.num<0),vna,vda],.agg #[vB (qb.num<0),vnb,vdb]] w0 (Ret w0 h0 (λh r=>vC h r (qa-qb))):=by
 have ac:=uE qa;have ae:=uC qa;have ai:=vZ qa;have ab:=uE qb;have ad:=uC qb;have ah:=vZ qb;refine cb2 11 (.agg #[vB (qa.num<0),vna,vda]) (.agg #[vB (qb.num<0),vnb,vdb]) func121 hs ?_;refine go2 ?_;refine zG (wW (cs:=[_,_,_]) I I) I I I ?_;intro v2 r2 U;obtain⟨b2,rfl,rfl⟩:=U;refine zG (wW (cs:=[_,_,_]) I I) I I I ?_;intro v3 r3 O;obtain⟨b3,rfl,rfl⟩:=O;refine zG (vY (cs:=[vB ((0:Rat).num<0),.slice none 0 0,.slice none 0 0]) xR I (by simp only[zb];rfl)) I I I ?_;intro v4 r4 M;obtain⟨b4,rfl,rfl⟩:=M;refine go9 ?_;refine cL (ev3 I I I) call161 (λw hs=>zL6 hs hna hda hnb hdb oM oM) λaj h1 ak J=>?_;obtain⟨G,H,rfl,C,D⟩:=J;have aa:=lF qa (sgd (¬(qb.num<0)) qb);have Z:=zXY (¬(qb.num<0)) qb;refine wN (A:=[]) (r':=.var b4 29 [vB ((qa+sgd (¬(qb.num<0)) qb).num<0),G,H]) (zN (k:=0) (cs:=[_,_,_]) (vs:=[_,_,_]) I I I (ocr I (ocu C (ocu D oc0))) yF (bL I)) I I I (go3 ?_);refine yV (λE S=>zV I (wR (cs:=[_,_,_]) mh0 underlying29 I yF I) E S) ?_;rw[yA9,<-Rat.sub_eq_add_neg] at C D ⊢;exact⟨_,_,I,C,D⟩
theorem yBL{n:Int}(hn1:-9223372036854775808<=n)(hn2:n<9223372036854775808):
 Calls Tryz.prog 116 #[vI n] w0 (Ret w0 h0 (λh r=>vC h r (n:Rat))):=by
 refine cb1 9 (vI n) func116 hs ?_;refine go2 ?_;refine zG (vY (cs:=[vB ((0:Rat).num<0),.slice none 0 0,.slice none 0 0]) xR I (by simp only[zb];rfl)) I I I ?_;intro v2 r2 U;obtain⟨b2,rfl,rfl⟩:=U;refine go7 ?_;refine cL (ev1 I) call156 (λw hs=>zWA hs oM oM) λv6 h1 ad C=>?_;have ab:=fD (n:=n) oM oM;refine cL (vs:=[]) trivial call157 (λw hs=>zQX hs) λv7 h2 Z J=>?_;rw[dO] at J;have aa:=zKR;replace C:=C.mono Z;refine cL (ev3 I I I) call155 (λw hs=>kZ hs C J oM oM) λv8 h3 ac H=>?_
 try simp only[zE] at H
 obtain⟨M,O,rfl,D,G⟩:=H;refine wN (A:=[]) (r':=.var b2 29 [vB ((mkRat (sg (n<(0:Int)) (((n).natAbs))) ((1))).num<0),M,O]) (zN (k:=0) (cs:=[_,_,_]) (vs:=[_,_,_]) I I I (ocr I (ocu D (ocu G oc0))) yF (bL I)) I I I (go3 ?_);refine yV (λE S=>zV I (wR (cs:=[_,_,_]) mh0 underlying29 I yF I) E S) ?_;rw[zKU] at D G ⊢;exact⟨_,_,I,D,G⟩
theorem rD{sa:Prop}{ba vna vda:Value}{xa ya:List Nat}(hba:ba=vB sa)(hna:Us .u32 h0 vna xa)(hda:Us .u32 h0 vda ya):
 Calls Tryz.prog 51 #[.agg #[ba,vna,vda]] w0 (Ret w0 h0 (λh r=>Us .u32 h r (if ya=[] then[1] else ya))):=by
 subst hba;have J:=qD hna.lt;have H:=qD hda.lt;refine cb1 10 (.agg #[vB sa,vna,vda]) func51 hs ?_;refine go2 ?_;refine zG (wW (cs:=[_,_,_]) I I) I I I ?_;intro v1 r1 G;obtain⟨b1,rfl,rfl⟩:=G;refine zK3 (λC=>?_) λC=>?_
 ·
  refine go2 ?_;refine zG (pF (kd:=.u32) (p:=1) underlying27 uP I I I) I I I ?_;intro U Z D;obtain rfl:=D;refine yQ (by intro z hz;simp only[List.mem_singleton] at hz;subst hz;decide) ?_;intro h1 M O;refine go5 ?_;refine zC I I ?_;rw[if_pos (zM9.1 C)];exact O
 refine uG ?_;refine zC I I ?_;rw[if_neg (λh=>C (zM9.2 h))];exact hda
end
end Go.Proofs.YtpkaegemlpaenaaGreat
