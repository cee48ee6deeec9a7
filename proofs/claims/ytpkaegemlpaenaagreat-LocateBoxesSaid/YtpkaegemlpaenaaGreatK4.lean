/- Texts that the proof needs, part 4. -/
import Derived.Test.YtpkaegemlpaenaaGreatK3
namespace Go.Proofs.YtpkaegemlpaenaaGreat
open Bk Go Tryz
set_option linter.unusedVariables false
set_option linter.unusedSimpArgs false
set_option maxRecDepth 10000
set_option maxHeartbeats 1000000
attribute [local irreducible] GL GC GQ W OpV
set_option maxRecDepth 100000 in
theorem zDV{w0:World}{h0:Mem}(hs:MLe h0 (mem w0)){x:Nat}(hx:x<4294967296):
 Calls Tryz.prog 197 #[vU .u32 x] w0 (Ret w0 h0 (fun _ r=>r=vI ↑(vQ x))):=by
 refine cb1 19 (vU .u32 x) func197 hs ?_;refine go5 ?_;refine qN (ι:=Nat×Nat) (fun(C,D)=>C<65536∧D≤16∧vQ x=vQ C+D) (fun(C,D)=>[(0,vU .u32 C),(2,vI ↑D)]) (fun(C,D)=>[]) (fun(C,D)=>h0) ?_ ?_
 ·
  refine go3 ?_;refine gv (rS (k:=.u32) (q:=65536) rfl rfl) rfl (gc2 (fun I=>?_) fun I=>?_)
  ·
   refine go3 ?_;refine gv (gC (k:=.u32) (s:=16) (yk:=.u64) rfl rfl rfl (by simp only[ub];omega)) rfl (go6 ?_);refine zQ (x/2^16,16) ?_ e2z rfl rfl;exact⟨by omega,by omega,zAR I⟩
  refine go1 ?_;refine zQ (x,0) ?_ e2z rfl rfl;exact⟨by omega,by omega,rfl⟩
 rintro⟨C,D⟩ ⟨O,Z,J⟩
 refine yW ?_;refine qN (ι:=Nat×Nat) (fun(z,G)=>z<256∧G≤24∧vQ x=vQ z+G) (fun(z,G)=>[(0,vU .u32 z),(2,vI ↑G)]) (fun(z,G)=>[]) (fun(z,G)=>h0) ?_ ?_
 ·
  refine go3 ?_;refine gv (rS (k:=.u32) (q:=256) rfl rfl) rfl (gc2 (fun H=>?_) fun H=>?_)
  ·
   refine go3 ?_;refine gv (gC (k:=.u32) (s:=8) (yk:=.u64) rfl rfl rfl (by simp only[ub];omega)) rfl (go8 ?_);refine zQ (C/2^8,D+8) ?_ ⟨rfl,?_,trivial⟩ rfl rfl
   · exact⟨by omega,by omega,by rw[J,zAR (k:=8) H];omega⟩
   · exact congrArg some (congrArg vI oM)
  refine go1 ?_;refine zQ (C,D) ?_ e2z rfl rfl;exact⟨by omega,by omega,J⟩
 rintro⟨z,G⟩ ⟨M,U,ab⟩
 refine yW ?_;refine go4 ?_;refine gv (gW (k:=.u32) (k':=.u8) (W:=256) underlying124 underlying5 rfl rfl rfl) rfl ?_;have aa:vQ z≤8:=nH (k:=8) oM;refine mG (zGC (fun i=>vQ i) (z%256) underlying9 rfl rfl rfl (by decide +kernel) (by show z%256<256;omega)) rfl rfl rfl ?_;rw[Nat.mod_eq_of_lt M];refine gv (zCP (k:=.u8) underlying5 underlying3 rfl oM) rfl (go5 ?_);refine zC rfl rfl ?_;exact congrArg vI oM
theorem zPW{w0:World}{h0:Mem}(hs:MLe h0 (mem w0)){x:Nat}(hx:x<4294967296):
 Calls Tryz.prog 210 #[vU .u32 x] w0 (Ret w0 h0 (fun _ r=>r=vI ↑(32-vQ x))):=by
 refine cb1 6 (vU .u32 x) func210 hs ?_;refine go8 ?_;refine cL (ev1 rfl) call197 (fun w hs=>zDV hs oM) fun v4 h1 C z=>?_;subst z;have D:vQ x≤32:=nH (k:=32) oM;refine gv (qE (p:=32) rfl rfl oM oM) rfl (go4 ?_);refine zC rfl rfl ?_;exact congrArg vI oM
theorem y5{w0:World}{h0:Mem}(hs:MLe h0 (mem w0)){v:Value}{xs:List Nat}(hv:Us .u32 h0 v xs)(hl:xs.length≤1099511627776):
 Calls Tryz.prog 162 #[v] w0 (Ret w0 h0 (fun _ r=>r=vI ↑(vQ (val xs)))):=by
 refine cb1 20 v func162 hs ?_;refine go8 ?_;refine cL (ev1 rfl) call196 (fun w hs=>qR hs hv) fun v4 h1 G z=>?_;replace z:=z.2;replace hv:=hv.mono G;have Z:=uE hv.lt;generalize I:zB (val xs)=AA at *;have J:val AA=val xs:=by rw[←I,zD]
 have M:Fit AA:=z.lt;refine zAK (fun H=>?_) fun H=>?_
 ·
  refine go7 ?_;refine zC rfl rfl ?_;have h0:AA=[]:=List.eq_nil_of_length_eq_zero oM;rw[←J,h0];rfl
 refine go6 ?_;have D:0<AA.length:=by omega
 refine go1 ?_;refine gv (kO (p:=32) rfl rfl oM oM) rfl (go4 ?_);refine gv (zO (AA.length-1) underlying27 sizeOf124 rfl rfl z oM oM) rfl (go1 ?_);have U:=qB M (AA.length-1);have hb:=nH (n:=AA.getD (AA.length-1) 0) (k:=32) oM;refine cL (ev1 rfl) call197 (fun w hs=>zDV hs oM) fun O h2 aa C=>?_;subst C;refine go5 ?_;refine zC rfl rfl ?_;rw[←J,zAQ M (k:=AA.length-1) oM (by rw[←I];exact tP (by rw[I];exact D))];exact congrArg vI oM
theorem zIV{w0:World}{h0:Mem}(hs:MLe h0 (mem w0)){v:Value}{xs:List Nat}(hv:Us .u32 h0 v xs)(hl:xs.length≤2):
 Calls Tryz.prog 208 #[v] w0 (Ret w0 h0 (fun _ r=>r=vU .u64 (val xs))):=by
 have G:Fit xs:=hv.lt;refine cb1 21 v func208 hs ?_;refine go2 ?_;refine asg (v:=vU .u64 0) rfl rfl (go4 ?_);refine asg (v:=vU .u64 0) rfl rfl (uQ ?_);have C:val (xs.drop xs.length)=0:=by rw[List.drop_of_length_le (Nat.le_refl _)];rfl
 refine kE (ι:=Nat) (fun(j:(Nat))=>j≤xs.length) (fun(j:(Nat))=>[(0,v),(3,vU .u64 (val (xs.drop j))),(4,vI (↑j-1))]) (fun(j:(Nat))=>[]) (fun(j:(Nat))=>h0) (fun(j:(Nat))=>j) xs.length ?_ ⟨?_,?_,?_,trivial⟩ rfl rfl ?_
 · exact Nat.le_refl _
 · exact rfl
 · exact congrArg some (congrArg (vU .u64) C.symm)
 · exact rfl
 rintro j H
 refine yW ?_;refine gc7 (fun D=>?_) fun D=>?_
 ·
  refine go6 ?_;refine gv (gD (k:=.u64) (s:=32) (yk:=.u64) (W:=18446744073709551616) rfl rfl rfl rfl) rfl (go2 ?_);refine gv (zO (j-1) underlying27 sizeOf124 rfl rfl hv oM oM) rfl (go1 ?_);have z:=hv.get32 (j-1);refine go1 ?_;refine gv (sO (k:=.u64) rfl rfl rfl (by simp only[ub];omega) (by simp only[ub];omega)) rfl ?_;rw[rT (by
   have h2:=jW (oS G j);rw[List.length_drop] at h2;have h3:(4294967296:Nat)^(xs.length-j)≤4294967296^1:=Nat.pow_le_pow_right oM oM;omega) z]
  refine go9 ?_;refine qS (j-1) ?_ ?_ ⟨rfl,?_,?_,trivial⟩ rfl rfl
  · omega
  · omega
  ·
   rw[jB xs (j-1) oM];exact congrArg some (congrArg (vU .u64) (by rw[show j-1+1=j by omega];omega))
  · exact congrArg some (congrArg vI oM)
 refine uQ ?_;refine zC rfl rfl ?_;rw[show j=0 by omega];rfl
theorem zO6{w0:World}{h0:Mem}(hs:MLe h0 (mem w0)){v:Value}{xs:List Nat}{b:Nat}(hv:Us .u32 h0 v xs)(hb:0<b)(hb':b<4294967296)(hl:xs.length≤1099511627776):
 Calls Tryz.prog 209 #[v,vU .u32 b] w0 (Ret w0 h0 (fun h r=>∃u,r=.tuple #[u,vU .u32 (val xs%b)]∧Us .u32 h u (zB (val xs/b)))):=by
 have hf:Fit xs:=hv.lt;refine cb2 43 v (vU .u32 b) func209 hs ?_;refine go3 ?_;refine asg (v:=vU .u32 0) rfl rfl (go6 ?_);refine qC (kd:=.u32) (by':=4) _ underlying27 vW rfl rfl rfl rfl rfl rfl rfl oM oM rfl ?_;intro H;refine go5 ?_;refine asg (v:=vU .u64 0) rfl rfl (uQ ?_);refine kE (ι:=Nat×List Nat×Nat) (fun(j,D,r)=>j≤xs.length∧D.length=xs.length-j∧Fit D∧r<b∧val (xs.drop j)=b*val D+r) (fun(j,D,r)=>[(0,v),(1,vU .u32 b),(6,H),(7,vU .u64 r),(8,vI (↑j-1))]) (fun(j,D,r)=>[.us 124 .u32 H (kV j D)]) (fun(j,D,r)=>h0) (fun(j,D,r)=>j) (xs.length,[],0) ?_ e5 ?_ rfl ?_
 · exact⟨Nat.le_refl _,by simp,fun x hx=>by simp at hx,hb,by rw[List.drop_of_length_le (Nat.le_refl _)];rfl⟩
 ·
  try dsimp only[List.nil_append,List.cons_append]
  exact congrArg (fun z=>[Res.us 124 .u32 H z]) (aA _)
 rintro⟨j,D,r⟩ ⟨hj,ab,I,O,C⟩
 refine yW ?_;refine gc7 (fun J=>?_) fun J=>?_
 ·
  refine go7 ?_;refine gv (gD (k:=.u64) (s:=32) (yk:=.u64) (W:=18446744073709551616) rfl rfl rfl rfl) rfl (go2 ?_);refine gv (zO (j-1) underlying27 sizeOf124 rfl rfl hv oM oM) rfl (go1 ?_);have M:=hv.get32 (j-1);refine go1 ?_;refine gv (sO (k:=.u64) rfl rfl rfl (by simp only[ub];omega) (by simp only[ub];omega)) rfl ?_;rw[rT oM M];generalize Z:r*4294967296+xs.getD (j-1) 0=t at *;have hq:t/b<4294967296:=Nat.div_lt_of_lt_mul (by rw[←Z];have h1:(r+1)*4294967296≤b*4294967296:=Nat.mul_le_mul_right _ O;omega);refine uA ?_;refine gv (cA (k:=.u64) (W:=18446744073709551616) rfl rfl rfl rfl oM oM) rfl (gv (wN (k:=.u64) (k':=.u32) (W:=4294967296) underlying125 underlying124 rfl rfl rfl oM) rfl (gv (yR (A:=[]) (j-1) underlying27 sizeOf124 rfl rfl oM (by rw[qG];omega)) rfl (wC sizeOf124 rfl rfl (by rw[qG];omega) (go6 ?_))));refine gv (pY (k:=.u64) rfl rfl oM) rfl (go9 ?_);refine qS (j-1,t/b::D,t%b) ?_ ?_ ⟨rfl,rfl,rfl,rfl,?_,trivial⟩ ?_ rfl
  ·
   refine⟨by omega,by simp only[lC];omega,sK.2 ⟨hq,I⟩,Nat.mod_lt _ hb,?_⟩;rw[jB xs (j-1) oM,show j-1+1=j by omega,val];exact zB5 C Z.symm rfl rfl
  ·
   dsimp only;omega
  · exact congrArg some (congrArg vI oM)
  try dsimp only[List.nil_append,List.cons_append]
  rw[bZ oM]
 refine go8 ?_;have U:j=0:=by omega
 subst U;rw[cG];refine yL (by exact I) ?_;intro h1 ad ho;refine cL (ev1 rfl) call196 (fun w hs=>qR hs ho) fun aa h2 ac G=>?_;replace G:=G.2;refine go1 ?_;refine gv (wN (k:=.u64) (k':=.u32) (W:=4294967296) underlying125 underlying124 rfl rfl rfl oM) rfl (go5 ?_);refine xY rfl rfl rfl ?_;simp only[List.drop_zero] at C;have e1:val xs/b=val D:=by rw[C,Nat.mul_add_div hb,Nat.div_eq_of_lt O];omega
 have e2:val xs%b=r:=by rw[C,Nat.mul_add_mod,Nat.mod_eq_of_lt O]
 rw[e1,e2];exact⟨_,rfl,G⟩
theorem zFA{w0:World}{h0:Mem}(hs:MLe h0 (mem w0)){v:Value}{xs:List Nat}{s:Nat}(hv:Us .u32 h0 v xs)(hs32:s<32)(hl:xs.length≤1099511627776):
 Calls Tryz.prog 211 #[v,vI ↑s] w0 (tK w0 h0 (fun _ r L=>∃us,L=[.us 124 .u32 r us]∧us.length=xs.length+1∧Fit us∧val us=val xs*2^s)):=by
 have hf:Fit xs:=hv.lt;have hp:2^s≤2147483648:=Nat.pow_le_pow_right (n:=2) oM (show s≤31 by omega);have I:0<2^s:=Nat.pow_pos oM;refine cb2 41 v (vI ↑s) func211 hs ?_;refine uA ?_;refine qC (kd:=.u32) (by':=4) (xs.length+1) underlying27 vW rfl rfl rfl rfl rfl oM oM oM oM rfl ?_;intro C;refine go5 ?_;refine asg (v:=vU .u64 0) rfl rfl (qA ?_);refine kE (ι:=List Nat×Nat) (fun(z,c)=>z.length≤xs.length∧Fit z∧c<2^s∧val z+4294967296^z.length*c=val (xs.take z.length)*2^s) (fun(z,c)=>[(0,v),(1,vI ↑s),(5,C),(6,vU .u64 c),(13,v),(14,vI ↑xs.length),(15,vI ↑z.length)]) (fun(z,c)=>[.us 124 .u32 C (fU z (xs.length+1))]) (fun(z,c)=>h0) (fun(z,c)=>xs.length-z.length) ([],0) ?_ e7 rfl rfl ?_
 · exact⟨by simp,fun x U=>by simp at U,I,by simp[val]⟩
 rintro⟨z,c⟩ ⟨Z,G,hc,D⟩
 refine yW ?_;refine gc6 (fun H=>?_) fun H=>?_
 ·
  refine go7 ?_;refine gv (zO _ underlying27 sizeOf124 rfl rfl hv rfl oM) rfl (go1 ?_);have O:=hv.get32 z.length;have M:xs.getD z.length 0*2^s<18446744073709551616-4294967296:=by
   have:=Nat.mul_le_mul (show xs.getD z.length 0≤4294967295 by omega) hp;omega
  refine uA ?_;refine gv (gD (k:=.u64) (s:=s) (yk:=.i64) (W:=18446744073709551616) rfl rfl rfl rfl) rfl ?_;rw[Nat.mod_eq_of_lt oM];refine gv (sO (k:=.u64) rfl rfl rfl (by simp only[ub];omega) (by simp only[ub];omega)) rfl ?_;rw[zKR hc];refine go9 ?_;refine gv (yR (A:=[]) _ underlying27 sizeOf124 rfl rfl rfl (by rw[vN oM];omega)) rfl (wC sizeOf124 rfl rfl (by rw[vN oM];omega) (rM ?_));refine qS (z++[(xs.getD z.length 0*2^s+c)%4294967296],(xs.getD z.length 0*2^s+c)/2^32) ?_ ?_ ⟨rfl,rfl,rfl,rfl,rfl,rfl,?_,trivial⟩ ?_ rfl
  ·
   refine⟨by simp;omega,vX G (cS oM),?_,?_⟩
   · refine Nat.div_lt_of_lt_mul ?_
     have:=Nat.mul_le_mul_right (2^s) (show xs.getD z.length 0+1≤2^32 by omega);rw[Nat.add_mul] at this;omega
   · have e:=Nat.div_add_mod (xs.getD z.length 0*2^s+c) 4294967296
     have e2:(2:Nat)^32=4294967296:=rfl;rw[lAz,List.length_singleton,vY xs _ oM,tY,Nat.pow_succ,e2];generalize (xs.getD z.length 0*2^s+c)/4294967296=q at *;generalize (xs.getD z.length 0*2^s+c)%4294967296=r at *;grind
  ·
   dsimp only;simp;omega
  · exact congrArg some (congrArg vI (by simp))
  try dsimp only[List.nil_append,List.cons_append]
  rw[rD oM]
 refine uQ ?_;refine gv (yR (A:=[]) (xs.length) underlying27 sizeOf124 rfl rfl (by rfl) (by rw[vN oM];omega)) rfl (wC sizeOf124 rfl rfl (by rw[vN oM];omega) (go9 ?_));refine jQ rfl rfl ?_;have J:z.length=xs.length:=by omega
 refine⟨z++[c],?_,by simp[J],vX G (cS oM),?_⟩
 · rw[←J,rD oM,cF (by simp),Nat.mod_eq_of_lt oM]
 · rw[tY,D,xQ oM]
end Go.Proofs.YtpkaegemlpaenaaGreat
namespace Go.Proofs.YtpkaegemlpaenaaGreat
open Bk Go Tryz
set_option linter.unusedVariables false
set_option linter.unusedSimpArgs false
set_option maxRecDepth 10000
set_option maxHeartbeats 1000000
attribute [local irreducible] GL GC GQ W OpV
end Go.Proofs.YtpkaegemlpaenaaGreat
namespace Go.Proofs.YtpkaegemlpaenaaGreat
open Bk Go Tryz
set_option linter.unusedVariables false
set_option linter.unusedSimpArgs false
set_option maxRecDepth 10000
set_option maxHeartbeats 1000000
attribute [local irreducible] GL GC GQ W OpV
set_option maxHeartbeats 2000000 in
theorem zBO{w0:World}{h0:Mem}(hs:MLe h0 (mem w0)){v v':Value}{xs ys:List Nat}(hv:Us .u32 h0 v xs)(hv':Us .u32 h0 v' ys)(hl:xs.length≤1099511627776)(hl':ys.length≤1099511627776):
 Calls Tryz.prog 190 #[v,v'] w0 (Ret w0 h0 (fun h z=>∃q r,z=.tuple #[q,r,vI (if val ys=0 then 3 else 0)]∧Us .u32 h q (zB (val xs/val ys))∧Us .u32 h r (zB (if val ys=0 then 0 else val xs%val ys)))):=by
 have eq:Fit xs:=hv.lt;have ep:Fit ys:=hv'.lt;have ge:=uE eq;have gc:=uE ep;refine cb2 300 v v' func190 hs ?_;refine zM (zE (asg rfl rfl (asg rfl rfl (asg (v:=vI (0)) rfl rfl (zR (zF (zM (zE (mv rfl rfl (cL (ev1 rfl) call196 (fun w hs=>qR hs hv) fun ft h1 em G=>?_))))))))));replace G:=G.2;refine mv rfl rfl ?_;replace hv':=hv'.mono em;refine cL (ev1 rfl) call196 (fun w hs=>qR hs hv') fun fs h2 el D=>?_;replace D:=D.2;refine asg rfl rfl (asg rfl rfl (zR (zF (zM (wR (zM (zE (mv rfl rfl (gv (wM underlying27 rfl D) rfl (gv (fK (q:=0) rfl rfl) rfl (asg rfl rfl (zR (wQ (e':=[(0,_),(1,_),(30,_)]) e3z ?_)))))))))))));refine zF ?_;refine cnd (fun dt=>?_) fun dt=>?_
 ·
  have dz:val ys=0:=Classical.byContradiction fun ei=>by have:=yK.2 ei;omega
  refine zM (zE (asg rfl rfl (asg rfl rfl (asg (v:=vI (3)) rfl rfl (zR (zF (bX (zM4 (aO (uY rfl rfl rfl rfl ?_))))))))));rw[dz,Nat.div_zero,if_pos rfl,if_pos rfl,yZ];exact⟨_,_,rfl,Us.nil _ _,Us.nil _ _⟩
 have ax:val ys≠0:=yK.1 oM;refine zM (zE (mv rfl rfl (mv rfl rfl ?_)));replace G:=G.mono el;refine cL (ev2 rfl rfl) call204 (fun w hs=>zBP hs G D) fun fr h3 bj dd=>?_;subst dd;rw[zD,zD];refine gv (yG (q:=0) rfl rfl) rfl (asg rfl rfl (zR (zF ?_)));refine cnd (fun be=>?_) fun be=>?_
 ·
  have dh:=sL.1 be;refine zM (zE (mv rfl rfl ?_));replace G:=G.mono bj;refine jE (vs:=[_]) rfl rfl rfl rfl call207 ⟨rfl,trivial⟩ (fun w hs=>zB6 hs G oM) ?_;intro fq h4 gx bi dc;obtain rfl:=dc;refine asg rfl rfl (asg rfl rfl (yL (by exact xT _) ?_));intro h5 bh ho;refine asg (v:=vI (0)) rfl rfl (zR (wQ (e':=[(4,_),(5,_),(6,_)]) e3z (zF (bX (zM4 (aO (uY rfl rfl rfl rfl ?_)))))));rw[Nat.div_eq_of_lt dh,Nat.mod_eq_of_lt dh,if_neg oM,if_neg oM,yZ];exact⟨_,_,rfl,Us.nil _ _,ho⟩
 have eo:val ys≤val xs:=Nat.le_of_not_lt fun hc=>be (sL.2 hc);refine zM (zE (mv rfl rfl ?_));replace D:=D.mono bj;refine gv (wM underlying27 rfl D) rfl (gv (fK (q:=1) rfl rfl) rfl (asg rfl rfl (zR (zF ?_))));refine cnd (fun dr=>?_) fun dr=>?_
 ·
  have bp:(zB (val ys)).length=1:=by omega
  have du:(zB (val ys)).getD 0 0≠0:=by have:=tP (n:=val ys) oM;rwa [bp] at this
  have br:=dD bp;rw[zD] at br;refine zG0 (e':=[(0,_),(1,_)]) e2z (zM (zE (mv rfl rfl (mv rfl rfl (gv (zO (q:=0) (0) underlying27 sizeOf124 rfl rfl D rfl oM) rfl (gv (xO isAgg124 rfl D oM) rfl ?_))))));have cf:=D.get32 0;replace G:=G.mono bj;refine cL (ev2 rfl rfl) call209 (fun w hs=>zO6 hs G oM oM oM) fun fp h4 bi db=>?_;obtain⟨fu,rfl,ap⟩:=db;refine mv rfl rfl (gv (kS (vs:=[_,_]) rfl rfl) rfl (gv (kS (vs:=[_,_]) rfl rfl) rfl (asg rfl rfl (asg rfl rfl (zR (wQ (e':=[(7,_),(8,_)]) e2z (zF (zM (zE (mv rfl rfl (mv rfl rfl (zI (rA (kd:=.u32) underlying27 vW rfl rfl rfl) rfl rfl rfl ?_))))))))))));intro fo fv da;obtain rfl:=da;refine yL (by intro z hz;simp only[List.mem_singleton] at hz;subst hz;exact Nat.lt_trans (Nat.mod_lt _ oM) cf) ?_;intro h5 bh dn;refine cL (ev1 rfl) call196 (fun w hs=>qR hs dn) fun fm h6 dk aq=>?_;replace aq:=aq.2;refine asg rfl rfl (asg rfl rfl (asg (v:=vI (0)) rfl rfl (zR (zF (bX (zM4 (aO (uY rfl rfl rfl rfl ?_))))))));replace ap:=ap.mono (bh.trans dk);rw[zD,←br] at ap;rw[dD rfl,List.getD_cons_zero,zD,←br] at aq;rw[if_neg oM,if_neg oM];exact⟨_,_,rfl,ap,aq⟩
 have de:2≤(zB (val ys)).length:=by omega
 refine zG0 (e':=[(0,_),(1,_)]) e2z (uK (sH (zF (zM (zE (mv rfl rfl (mv rfl rfl (gv (wM underlying27 rfl D) rfl (gv (qE (q:=1) rfl rfl oM oM) rfl (gv (zO ((zB (val ys)).length-1) underlying27 sizeOf124 rfl rfl D oM oM) rfl (gv (xO isAgg124 rfl D oM) rfl ?_)))))))))));have hgt:=D.get32 ((zB (val ys)).length-1);refine cL (ev1 rfl) call210 (fun w hs=>zPW hs oM) fun fl h4 bi cz=>?_;subst cz;obtain⟨s,ct⟩:∃s,s=32-vQ ((zB (val ys)).getD ((zB (val ys)).length-1) 0):=⟨_,rfl⟩;rw[←ct];obtain⟨fe,au,ed⟩:=zCZ (k:=(zB (val ys)).length-1) ax oM ct;refine asg rfl rfl (zR (zF (zM (zE (mv rfl rfl (mv rfl rfl ?_))))));replace G:=G.mono (bj.trans bi);refine jE (vs:=[_,_]) rfl rfl rfl rfl call211 e2z (fun w hs=>zFA hs G oM oM) ?_;intro I h5 gw bh cy;obtain⟨bm,rfl,ba,bb,ae⟩:=cy;refine mv rfl rfl (mv rfl rfl ?_);replace D:=D.mono (bi.trans bh);refine jE (vs:=[_,_]) rfl rfl rfl rfl call211 e2z (fun w hs=>zFA hs D oM oM) ?_;intro fk h6 gu dk cw;obtain⟨fc,rfl,ee,bu,bt⟩:=cw;refine yL (by exact bu) ?_;intro h7 gh ec;refine cL (ev1 rfl) call196 (fun w hs=>qR hs ec) fun ah h8 gg C=>?_;replace C:=C.2;rw[bt,zD] at C;refine asg rfl rfl (asg rfl rfl ?_);rw[zD] at ae;have ff:=yF eo;have bq:=jW (xT (val xs));rw[zD] at bq;have eu:=tV (n:=val ys) (k:=(zB (val ys)).length-1) oM;have bw:=zPQ bb bq ae (k:=(zB (val ys)).length-1) oM eu;rw[show(zB (val xs)).length-((zB (val ys)).length-1)=(zB (val xs)).length+1-(zB (val ys)).length by omega] at bw;have ay:=zD (val ys*2^s);have bk:Fit (zB (val ys*2^s)):=xT _;replace au:(zB (val ys*2^s)).length=(zB (val ys)).length:=by omega
 generalize zB (val ys*2^s)=vs at *;generalize gb:(zB (val ys)).length=n at *;generalize fg:(zB (val xs)).length=la at *;obtain⟨V,hV⟩:∃V,V=val ys*2^s:=⟨_,rfl⟩;obtain⟨U,hU⟩:∃U,U=val xs*2^s:=⟨_,rfl⟩;rw[←hV] at ay bw;rw[←hU] at ae;have ev:V<4294967296^n:=by rw[←ay,←au];exact jW bk
 have an:=zMD de au;rw[ay] at an;have az:=jW (gK bk (n-2));rw[List.length_take,Nat.min_eq_left oM] at az;have bs:=qB bk (n-2);have co:=qB bk (n-1);refine zR (wQ (e':=[(9,_),(10,_),(11,_)]) e3z (zF (zM (zE (mv rfl rfl (gv (wM underlying27 rfl C) rfl ?_))))));rw[au];refine asg rfl rfl (zR (zF (zM (zE (mv rfl rfl (gv (sV (A:=[]) underlying27 rfl) rfl ?_))))));rw[ba];refine mv rfl rfl (gv (qE rfl rfl oM oM) rfl (qC (kd:=.u32) (by':=4) (la+1-n) underlying27 vW rfl rfl rfl rfl rfl oM oM oM oM rfl ?_));intro H;refine asg rfl rfl (zR (zF (zM (zM (zE (mv rfl rfl (gv (sV (A:=[]) underlying27 rfl) rfl ?_)))))));rw[lR];refine gv (qE (q:=1) rfl rfl oM oM) rfl (asg rfl rfl (zR (wQ (e':=[(9,_),(10,_),(11,_),(12,_),(4,_),(13,_)]) e6z (zF (wR ?_)))));refine kE (ι:=Nat×List Nat×List Nat) (fun(J,us,qs)=>J≤la+1-n∧qs.length=la+1-n-J∧Fit qs∧us.length=la+1∧Fit us∧val us+4294967296^J*(val qs*V)=U∧val (us.drop J)<V) (fun(J,us,qs)=>[(4,H),(9,vI ↑s),(10,I),(11,ah),(12,vI ↑n),(13,vI (↑J-1))]) (fun(J,us,qs)=>[.us 124 .u32 H (kV J qs),.us 124 .u32 I us]) (fun(J,us,qs)=>h8) (fun(J,us,qs)=>J) (la+1-n,bm,[]) ?_ e6z ?_ rfl ?_
 · exact⟨Nat.le_refl _,by simp,fun x hx=>by simp at hx,ba,bb,by rw[ae];simp[val],bw⟩
 ·
  try dsimp only[List.nil_append,List.cons_append]
  exact congrArg (fun z=>[Res.us 124 .u32 H z,Res.us 124 .u32 I bm]) (aA _)
 rintro⟨J,us,qs⟩ ⟨fj,fz,dp,ef,Z,ao,bz⟩
 refine yW ?_;refine zM (zM (zE (mv rfl rfl (gv (sD (q:=0) rfl rfl) rfl (zR (zF ?_))))));refine cnd (fun dq=>?_) fun dq=>?_
 ·
  refine uK (zF (zM (wR (zM ?_))));have hJ:1≤J:=by omega
  have ch:∀i,J+n≤i→us.getD i 0=0:=fun i hi=>mQ (zBW Z (Nat.lt_trans bz ev)) hi;obtain⟨wr,hW,cm⟩:=zEO (j:=J-1) de (fun i hi=>ch i oM) Z;have go:=qB Z (J-1+n);have gn:=qB Z (J-1+n-1);have es:=qB Z (J-1+n-2);have gq:=qB Z (J-1);have dv:val (us.drop (J-1))<4294967296*V:=by
   rw[jB us (J-1) oM,Nat.sub_add_cancel hJ];omega
  refine zL 18 _ [] [(0,.q),(1,.q),(2,.q),(3,.q),(4,.q),(5,.q),(6,.q),(7,.q),(8,.q),(9,.q),(10,.q),(11,.q),(12,.q),(13,.q),(14,.q),(15,.q),(16,.q),(17,.q)] yA nX (by kernel_rfl) nX (fun r hr=>hr) (uW rfl rfl rfl (uW rfl rfl rfl (uW rfl rfl rfl (xN rfl (fun _ _=>zP rfl rfl oM oM) rfl (w_q rfl (fun h' L' hh hR=>kR (hR _ mh1) (J-1+n) underlying27 sizeOf124 rfl rfl oM oM) rfl (w_q rfl (fun h' L' hh hR=>tM (hR _ mh1) isAgg124 rfl oM) rfl (xN rfl (fun _ _=>wN (k:=.u32) (k':=.u64) (W:=18446744073709551616) underlying124 underlying125 rfl rfl rfl oM) rfl (xN rfl (fun _ _=>gD (k:=.u64) (s:=32) (yk:=.u64) (W:=18446744073709551616) rfl rfl rfl rfl) rfl (uW rfl rfl rfl (uW rfl rfl rfl (uW rfl rfl rfl (xN rfl (fun _ _=>zP rfl rfl oM oM) rfl (xN rfl (fun _ _=>qE (q:=1) rfl rfl oM oM) rfl ?_)))))))))))));refine w_q rfl (fun h' L' hh hR=>kR (hR _ mh1) (J-1+n-1) underlying27 sizeOf124 rfl rfl oM oM) rfl (w_q rfl (fun h' L' hh hR=>tM (hR _ mh1) isAgg124 rfl oM) rfl (xN rfl (fun _ _=>wN (k:=.u32) (k':=.u64) (W:=18446744073709551616) underlying124 underlying125 rfl rfl rfl oM) rfl (xN rfl (fun _ _=>sO (k:=.u64) rfl rfl rfl (by simp only[ub];omega) (by simp only[ub];omega)) rfl ?_)));rw[rT oM oM];obtain⟨top,bn⟩:∃t,t=us.getD (J-1+n) 0*4294967296+us.getD (J-1+n-1) 0:=⟨_,rfl⟩;rw[←bn];rw[←bn] at hW;have ak:=zWS an hW az bs dv;refine zHE rfl rfl rfl (pA (wQ (e':=[(4,_),(9,_),(10,_),(11,_),(12,_),(13,_),(14,_)]) e7 (zF (zM ?_))));refine zL 18 _ [] [(0,.q),(1,.q),(2,.q),(3,.q),(4,.q),(5,.q),(6,.q),(7,.q),(8,.q),(9,.q),(10,.q),(11,.q),(12,.q),(13,.q),(14,.q),(15,.q),(16,.q),(17,.q)] yA nX (by kernel_rfl) nX (fun r hr=>hr) (uW rfl rfl rfl (uW rfl rfl rfl (uW rfl rfl rfl (xN rfl (fun _ _=>qE (q:=1) rfl rfl oM oM) rfl (w_q rfl (fun h' L' hh hR=>zO (n-1) underlying27 sizeOf124 rfl rfl (C.mono hh) oM oM) rfl (w_q rfl (fun h' L' hh hR=>xO isAgg124 rfl (C.mono hh) oM) rfl (xN rfl (fun _ _=>wN (k:=.u32) (k':=.u64) (W:=18446744073709551616) underlying124 underlying125 rfl rfl rfl oM) rfl (xN rfl (fun _ _=>cA (k:=.u64) (W:=18446744073709551616) rfl rfl rfl rfl oM oM) rfl (uW rfl rfl rfl (uW rfl rfl rfl (uW rfl rfl rfl (xN rfl (fun _ _=>qE (q:=1) rfl rfl oM oM) rfl (w_q rfl (fun h' L' hh hR=>zO (n-1) underlying27 sizeOf124 rfl rfl (C.mono hh) oM oM) rfl ?_)))))))))))));refine w_q rfl (fun h' L' hh hR=>xO isAgg124 rfl (C.mono hh) oM) rfl (xN rfl (fun _ _=>wN (k:=.u32) (k':=.u64) (W:=18446744073709551616) underlying124 underlying125 rfl rfl rfl oM) rfl (xN rfl (fun _ _=>pY (k:=.u64) rfl rfl oM) rfl (zHE rfl rfl rfl (zHE rfl rfl rfl (pA (wQ (e':=[(4,_),(9,_),(10,_),(11,_),(12,_),(13,_),(15,_),(16,_)]) e8 (zF ?_)))))));refine qN (ι:=Nat) (fun(x1:(Nat))=>x1<4294967296∧val (us.drop (J-1))<(x1+1)*V∧x1*V<val (us.drop (J-1))+V) (fun(x1:(Nat))=>[(4,H),(9,vI ↑s),(10,I),(11,ah),(12,vI ↑n),(13,vI (↑J-1)),(15,vU .u64 x1)]) (fun(x1:(Nat))=>[.us 124 .u32 H (kV J qs),.us 124 .u32 I us]) (fun(x1:(Nat))=>h8) ?_ ?_
  ·
   refine wR ?_;refine gcL (ι:=Nat×Nat) (fun(x,r)=>(x*vs.getD (n-1) 0+r=top∧val (us.drop (J-1))<(x+1)*V∧r<4294967296,[(4,H),(9,vI ↑s),(10,I),(11,ah),(12,vI ↑n),(13,vI (↑J-1)),(15,vU .u64 x),(16,vU .u64 r)],[.us 124 .u32 H (kV J qs),.us 124 .u32 I us],h8,x)) (top/vs.getD (n-1) 0,top%vs.getD (n-1) 0) ?_ ?_
   · exact⟨by rw[Nat.mul_comm];exact Nat.div_add_mod _ _,zJB an hW es cm oM,Nat.lt_trans (Nat.mod_lt _ oM) co⟩
   rintro⟨x,r⟩ ⟨aj,ea,fy⟩
   refine yW ?_;have eb:=yA1 aj ak ed;have fx:x*vs.getD (n-2) 0≤4294967297*4294967295:=Nat.mul_le_mul eb oM;refine zM (zM ?_);refine zTD (4294967296≤x) (fun hg=>?_) (fun hg=>?_)
   ·
    have ad:1≤x:=by omega
    have ai:val (us.drop (J-1))<x*V:=Nat.lt_of_lt_of_le dv (Nat.mul_le_mul_right _ hg);refine zL 24 _ [] [(0,.q),(1,.q),(2,.q),(3,.q),(4,.q),(5,.q),(6,.q),(7,.q),(8,.q),(9,.q),(10,.q),(11,.q),(12,.q),(13,.q),(14,.q),(15,.q),(16,.q),(17,.q),(18,.q),(19,.q),(20,.q),(21,.q),(22,.q),(23,.q)] yA nX (by kernel_rfl) nX (fun r hr=>hr) (uW rfl rfl rfl (xN rfl (fun _ _=>rS (k:=.u64) (q:=4294967296) rfl rfl) rfl (xN rfl (fun _ _=>yQ (v:=.bool true) (congrArg some (xE hg))) rfl (wT rfl rfl rfl rfl rfl (wT rfl rfl rfl rfl rfl (wT rfl rfl rfl rfl rfl (wT rfl rfl rfl rfl rfl (wT rfl rfl rfl rfl rfl (wT rfl rfl rfl rfl rfl (wT rfl rfl rfl rfl rfl (wT rfl rfl rfl rfl rfl (wT rfl rfl rfl rfl rfl (wT rfl rfl rfl rfl rfl ?_)))))))))))));refine wT rfl rfl rfl rfl rfl (wT rfl rfl rfl rfl rfl (wT rfl rfl rfl rfl rfl (wT rfl rfl rfl rfl rfl (wT rfl rfl rfl rfl rfl (wT rfl rfl rfl rfl rfl (wT rfl rfl rfl rfl rfl (wT rfl rfl rfl rfl rfl (wT rfl rfl rfl rfl rfl (wT rfl rfl rfl rfl rfl (xN rfl (fun _ _=>pF rfl rfl) rfl (pA (wQ (e':=[(4,_),(9,_),(10,_),(11,_),(12,_),(13,_),(15,_),(16,_),(141,_)]) ⟨rfl,rfl,rfl,rfl,rfl,rfl,rfl,rfl,rfl,trivial⟩ (zF ?_)))))))))))));refine zFG rfl (uK (zF (wR (zM (zE (mv rfl rfl (gv (bP (k:=.u64) (q:=1) (W:=18446744073709551616) rfl rfl rfl rfl oM oM) rfl (asg rfl rfl (zR (zF (zM (zE (mv rfl rfl ?_)))))))))))));refine mv rfl rfl (mv rfl rfl (gv (qE (q:=1) rfl rfl oM oM) rfl (gv (zO (n-1) underlying27 sizeOf124 rfl rfl C oM oM) rfl (gv (xO isAgg124 rfl C oM) rfl (gv (wN (k:=.u32) (k':=.u64) (W:=18446744073709551616) underlying124 underlying125 rfl rfl rfl oM) rfl (gv (tB (k:=.u64) (W:=18446744073709551616) rfl rfl rfl rfl oM) rfl (asg rfl rfl (zR (wQ (e':=[(4,_),(9,_),(10,_),(11,_),(12,_),(13,_),(15,_),(16,_)]) e8 (zF (zM (zE (mv rfl rfl ?_)))))))))))));refine gv (rS (k:=.u64) (q:=4294967296) rfl rfl) rfl (zR (zF ?_));refine cnd (fun ac=>?_) fun ac=>?_
    ·
     refine kY (zGT rfl (uF (kX ?_)));refine zQ (x-1) ?_ e7 rfl rfl;obtain⟨b1,b2⟩:=zFK (x:=x-1) an hW az bs (q9 aj ad) ac ak oM;exact⟨b1,by rw[Nat.sub_add_cancel ad];exact ai,by omega⟩
    refine uK (sH ?_);refine gqL (x-1,r+vs.getD (n-1) 0) ?_ ?_
    · exact⟨q9 aj ad,by rw[Nat.sub_add_cancel ad];exact ai,by omega⟩
    omega
   refine zL 24 _ [] [(0,.q),(1,.q),(2,.q),(3,.q),(4,.q),(5,.q),(6,.q),(7,.q),(8,.q),(9,.q),(10,.q),(11,.q),(12,.q),(13,.q),(14,.q),(15,.q),(16,.q),(17,.q),(18,.q),(19,.q),(20,.q),(21,.q),(22,.q),(23,.q)] yA nX (by kernel_rfl) nX (fun r hr=>hr) (uW rfl rfl rfl (xN rfl (fun _ _=>rS (k:=.u64) (q:=4294967296) rfl rfl) rfl (xN rfl (fun _ _=>yQ (v:=.bool false) (congrArg some (yJ hg))) rfl (yM rfl rfl rfl (fun h' L' hh hR=>yQ rfl) rfl (yM rfl rfl rfl (fun h' L' hh hR=>yQ rfl) rfl (yM rfl rfl rfl (fun h' L' hh hR=>yQ rfl) rfl (yM rfl rfl rfl (fun h' L' hh hR=>qE (q:=2) rfl rfl oM oM) rfl (yM rfl rfl rfl (fun h' L' hh hR=>zO (n-2) underlying27 sizeOf124 rfl rfl (C.mono hh) oM oM) rfl (yM rfl rfl rfl (fun h' L' hh hR=>xO isAgg124 rfl (C.mono hh) oM) rfl (yM rfl rfl rfl (fun h' L' hh hR=>wN (k:=.u32) (k':=.u64) (W:=18446744073709551616) underlying124 underlying125 rfl rfl rfl oM) rfl (yM rfl rfl rfl (fun h' L' hh hR=>oG (k:=.u64) (W:=18446744073709551616) rfl rfl rfl rfl oM) rfl (yM rfl rfl rfl (fun h' L' hh hR=>yQ rfl) rfl (yM rfl rfl rfl (fun h' L' hh hR=>gD (k:=.u64) (s:=32) (yk:=.u64) (W:=18446744073709551616) rfl rfl rfl rfl) rfl ?_)))))))))))));refine yM rfl rfl rfl (fun h' L' hh hR=>yQ rfl) rfl (yM rfl rfl rfl (fun h' L' hh hR=>yQ rfl) rfl (yM rfl rfl rfl (fun h' L' hh hR=>yQ rfl) rfl (yM rfl rfl rfl (fun h' L' hh hR=>zP rfl rfl oM oM) rfl (yM rfl rfl rfl (fun h' L' hh hR=>qE (q:=2) rfl rfl oM oM) rfl (yM rfl rfl rfl (fun h' L' hh hR=>kR (hR _ mh1) (J-1+n-2) underlying27 sizeOf124 rfl rfl oM oM) rfl (yM rfl rfl rfl (fun h' L' hh hR=>tM (hR _ mh1) isAgg124 rfl oM) rfl (yM rfl rfl rfl (fun h' L' hh hR=>wN (k:=.u32) (k':=.u64) (W:=18446744073709551616) underlying124 underlying125 rfl rfl rfl oM) rfl (yM rfl rfl rfl (fun h' L' hh hR=>sO (k:=.u64) rfl rfl rfl (by simp only[ub];omega) (by simp only[ub];omega)) rfl ?_))))))));rw[rT oM oM];refine yM rfl rfl rfl (fun h' L' hh hR=>lM (k:=.u64) rfl rfl) rfl (xN rfl (fun _ _=>pG rfl rfl) rfl (pA (wQ (e':=[(4,_),(9,_),(10,_),(11,_),(12,_),(13,_),(15,_),(16,_),(141,_)]) ⟨rfl,rfl,rfl,rfl,rfl,rfl,rfl,rfl,rfl,trivial⟩ (zF ?_))));refine cnd (fun am=>?_) fun am=>?_
   ·
    have ad:1≤x:=Nat.pos_of_ne_zero fun h0=>by rw[h0,Nat.zero_mul] at am;omega
    have ai:val (us.drop (J-1))<x*V:=zWT an hW cm aj am;refine uK (zF (wR (zM (zE (mv rfl rfl (gv (bP (k:=.u64) (q:=1) (W:=18446744073709551616) rfl rfl rfl rfl oM oM) rfl (asg rfl rfl (zR (zF (zM (zE (mv rfl rfl (mv rfl rfl ?_)))))))))))));refine mv rfl rfl (gv (qE (q:=1) rfl rfl oM oM) rfl (gv (zO (n-1) underlying27 sizeOf124 rfl rfl C oM oM) rfl (gv (xO isAgg124 rfl C oM) rfl (gv (wN (k:=.u32) (k':=.u64) (W:=18446744073709551616) underlying124 underlying125 rfl rfl rfl oM) rfl (gv (tB (k:=.u64) (W:=18446744073709551616) rfl rfl rfl rfl oM) rfl (asg rfl rfl (zR (wQ (e':=[(4,_),(9,_),(10,_),(11,_),(12,_),(13,_),(15,_),(16,_)]) e8 (zF (zM (zE (mv rfl rfl (gv (rS (k:=.u64) (q:=4294967296) rfl rfl) rfl ?_)))))))))))));refine zR (zF ?_);refine cnd (fun ac=>?_) fun ac=>?_
    ·
     refine kY (zGT rfl (uF (kX ?_)));refine zQ (x-1) ?_ e7 rfl rfl;obtain⟨b1,b2⟩:=zFK (x:=x-1) an hW az bs (q9 aj ad) ac ak oM;exact⟨b1,by rw[Nat.sub_add_cancel ad];exact ai,by omega⟩
    refine uK (sH ?_);refine gqL (x-1,r+vs.getD (n-1) 0) ?_ ?_
    · exact⟨q9 aj ad,by rw[Nat.sub_add_cancel ad];exact ai,by omega⟩
    omega
   refine kY (uF (uF (kX ?_)));refine zQ (x) ?_ e7 rfl rfl;exact⟨by omega,ea,zTI an hW az oM aj oM oM⟩
  rintro x1 ⟨cl,ci,cj⟩
  refine yW ?_;refine zM (zE (asg (v:=vU .u64 0) rfl rfl (asg (v:=vU .u64 0) rfl rfl (zR (zF (zM (zM (zE (mv rfl rfl (gv (wM underlying27 rfl C) rfl ?_))))))))));rw[au];refine mv (v:=vI (0)) rfl rfl (zR (zF (wR ?_)));refine kE (ι:=Nat×List Nat×Nat×Nat) (fun(i,ts,b,c)=>i≤n∧ts.length=la+1∧Fit ts∧c<4294967296∧b≤1∧val ts+4294967296^(J-1)*(x1*val (vs.take i))=val us+4294967296^(J-1+i)*(c+b)∧∀k,J-1+i≤k→ts.getD k 0=us.getD k 0) (fun(i,ts,b,c)=>[(4,H),(9,vI ↑s),(10,I),(11,ah),(12,vI ↑n),(13,vI (↑J-1)),(15,vU .u64 x1),(17,vU .u64 b),(18,vU .u64 c),(154,ah),(155,vI ↑n),(156,vI ↑i)]) (fun(i,ts,b,c)=>[.us 124 .u32 H (kV J qs),.us 124 .u32 I ts]) (fun(i,ts,b,c)=>h8) (fun(i,ts,b,c)=>n-i) (0,us,0,0) ?_ ⟨rfl,rfl,rfl,rfl,rfl,rfl,rfl,rfl,rfl,rfl,rfl,rfl,trivial⟩ rfl rfl ?_
  · exact⟨by omega,ef,Z,by omega,by omega,by simp[val],fun _ _=>rfl⟩
  rintro⟨i,ts,b,c⟩ ⟨dj,cp,bl,gj,gm,bc,cq⟩
  refine yW ?_;refine zM (zE (gv (yG rfl rfl) rfl (zR (zF (zM ?_)))));refine cnd (fun ce=>?_) fun ce=>?_
  ·
   refine uK (zF (zM (wR (zM (zE (mv rfl rfl (gv (zO _ underlying27 sizeOf124 rfl rfl C rfl oM) rfl (gv (xO isAgg124 rfl C oM) rfl ?_))))))));have dy:=C.get32 i;have fw:x1*vs.getD i 0≤4294967295*4294967295:=Nat.mul_le_mul oM oM;refine asg rfl rfl (asg rfl rfl (zR (zF (zM (zE (mv rfl rfl (mv rfl rfl (mv rfl rfl (gv (wN (k:=.u32) (k':=.u64) (W:=18446744073709551616) underlying124 underlying125 rfl rfl rfl oM) rfl (gv (oG (k:=.u64) (W:=18446744073709551616) rfl rfl rfl rfl oM) rfl (gv (tB (k:=.u64) (W:=18446744073709551616) rfl rfl rfl rfl oM) rfl (asg rfl rfl (zR ?_)))))))))))));refine wQ (e':=[(4,_),(9,_),(10,_),(11,_),(12,_),(13,_),(15,_),(17,_),(154,_),(155,_),(156,_),(19,_),(18,_)]) ⟨rfl,rfl,rfl,rfl,rfl,rfl,rfl,rfl,rfl,rfl,rfl,rfl,rfl,trivial⟩ (zF (zM (zE (mv rfl rfl (mv rfl rfl (mv rfl rfl (gv (zP rfl rfl oM oM) rfl (gv (yR (A:=[_]) (J-1+i) underlying27 sizeOf124 rfl rfl oM oM) rfl (gv (gN (A:=[_]) isAgg124 rfl oM) rfl ?_)))))))));have bv:=qB bl (J-1+i);refine gv (wN (k:=.u32) (k':=.u64) (W:=18446744073709551616) underlying124 underlying125 rfl rfl rfl oM) rfl (mv rfl rfl (gv (zRS (k:=.u64) (q:=4294967295) rfl rfl rfl (by simp only[ub];omega) (by simp only[ub];omega)) rfl ?_));rw[zUC];refine gv (lJ (k:=.u64) (W:=18446744073709551616) rfl rfl rfl rfl oM) rfl (mv rfl rfl (gv (lJ (k:=.u64) (W:=18446744073709551616) rfl rfl rfl rfl oM) rfl (asg rfl rfl (zR (wQ (e':=[(4,_),(9,_),(10,_),(11,_),(12,_),(13,_),(15,_),(154,_),(155,_),(156,_),(19,_),(18,_),(21,_)]) ⟨rfl,rfl,rfl,rfl,rfl,rfl,rfl,rfl,rfl,rfl,rfl,rfl,rfl,trivial⟩ (zF (zM (zE (mv rfl rfl (mv rfl rfl (mv rfl rfl (gv (zP rfl rfl oM oM) rfl (mv rfl rfl ?_)))))))))))));refine gv (gW (k:=.u64) (k':=.u32) (W:=4294967296) underlying125 underlying124 rfl rfl rfl) rfl (gv (yR (A:=[_]) (J-1+i) underlying27 sizeOf124 rfl rfl oM oM) rfl (sJ sizeOf124 rfl rfl oM (zR (zF (zM (zE (mv rfl rfl (gv (gC (k:=.u64) (s:=63) (yk:=.u64) rfl rfl rfl (by simp only[ub];omega)) rfl (asg rfl rfl (zR (wQ (e':=[(4,_),(9,_),(10,_),(11,_),(12,_),(13,_),(15,_),(154,_),(155,_),(156,_),(18,_),(17,_)]) ⟨rfl,rfl,rfl,rfl,rfl,rfl,rfl,rfl,rfl,rfl,rfl,rfl,trivial⟩ (zF (zE ?_)))))))))))));refine mv rfl rfl (gv (gC (k:=.u64) (s:=32) (yk:=.u64) rfl rfl rfl (by simp only[ub];omega)) rfl (asg rfl rfl (zR (sH (zF (zE (gv (zP (q:=1) rfl rfl oM oM) rfl (mv rfl rfl (zR ?_)))))))));generalize hX:ts.getD (J-1+i) 0=X at *;generalize hY:vs.getD i 0=Y at *;refine qS (i+1,ts.set (J-1+i) (((X+18446744073709551616-(c+x1*Y)%4294967296)%18446744073709551616+18446744073709551616-b)%18446744073709551616%4294967296),((X+18446744073709551616-(c+x1*Y)%4294967296)%18446744073709551616+18446744073709551616-b)%18446744073709551616/2^63,(c+x1*Y)/2^32) ?_ ?_ ⟨rfl,rfl,rfl,rfl,rfl,rfl,rfl,rfl,rfl,rfl,rfl,rfl,trivial⟩ rfl rfl
   ·
    refine⟨by omega,by simp[cp],aQ bl _ oM,by omega,by omega,?_,fun k hk=>?_⟩
    · have h1:=aI (xs:=ts) (i:=J-1+i) oM (((X+18446744073709551616-(c+x1*Y)%4294967296)%18446744073709551616+18446744073709551616-b)%18446744073709551616%4294967296)
      rw[hX] at h1;rw[vY vs i oM,hY,←Nat.add_assoc (J-1),Nat.pow_succ,Nat.pow_add];rw[Nat.pow_add] at h1 bc;exact zV8 (l:=(c+x1*Y)%4294967296) bc h1 oM oM
    · rw[qJ oM];exact cq k oM
   dsimp only;omega
  refine kY (uF (uF (kX (zF (zM (zE (mv rfl rfl (mv rfl rfl (mv rfl rfl (gv (zP rfl rfl oM oM) rfl (gv (yR (A:=[_]) (J-1+n) underlying27 sizeOf124 rfl rfl oM oM) rfl (gv (gN (A:=[_]) isAgg124 rfl oM) rfl ?_))))))))))));have bv:=qB bl (J-1+n);refine gv (wN (k:=.u32) (k':=.u64) (W:=18446744073709551616) underlying124 underlying125 rfl rfl rfl oM) rfl (mv rfl rfl (gv (lJ (k:=.u64) (W:=18446744073709551616) rfl rfl rfl rfl oM) rfl (mv rfl rfl (gv (lJ (k:=.u64) (W:=18446744073709551616) rfl rfl rfl rfl oM) rfl ?_))));obtain⟨d2,er⟩:∃d,d=((ts.getD (J-1+n) 0+18446744073709551616-c)%18446744073709551616+18446744073709551616-b)%18446744073709551616:=⟨_,rfl⟩;rw[←er];refine asg rfl rfl (zR (wQ (e':=[(4,_),(9,_),(10,_),(11,_),(12,_),(13,_),(15,_),(22,_)]) e8 (zF (zM (zE (mv rfl rfl (mv rfl rfl (mv rfl rfl (gv (zP rfl rfl oM oM) rfl (mv rfl rfl (gv (gW (k:=.u64) (k':=.u32) (W:=4294967296) underlying125 underlying124 rfl rfl rfl) rfl (gv (yR (A:=[_]) (J-1+n) underlying27 sizeOf124 rfl rfl oM oM) rfl (sJ sizeOf124 rfl rfl oM ?_)))))))))))));have dj:i=n:=by omega
  rw[dj,xQ oM,ay] at bc;have cn:=aI (xs:=ts) (i:=J-1+n) oM (d2%4294967296);have bo:(ts.set (J-1+n) (d2%4294967296)).length=la+1:=by simp[cp]
  have ar:Fit (ts.set (J-1+n) (d2%4294967296)):=aQ bl _ oM;have cg:∀k,J-1+n+1≤k→(ts.set (J-1+n) (d2%4294967296)).getD k 0=0:=fun k hk=>by rw[qJ oM,cq k oM];exact ch k oM
  generalize ts.set (J-1+n) (d2%4294967296)=ts2 at *;have aa:val ts2+4294967296^(J-1)*(x1*V)=val us+4294967296^(J-1+n+1)*(d2/2^63):=by
   rw[Nat.pow_succ,Nat.pow_add];rw[Nat.pow_add] at cn bc;exact zZ1 bc cn oM
  have df:=mX ar cg;refine zR (zF ?_);refine qN (ι:=Nat×List Nat) (fun(x2,O)=>x2<4294967296∧O.length=la+1∧Fit O∧val O+4294967296^(J-1)*(x2*V)=val us∧val (O.drop (J-1))<V) (fun(x2,O)=>[(4,H),(9,vI ↑s),(10,I),(11,ah),(12,vI ↑n),(13,vI (↑J-1)),(15,vU .u64 x2)]) (fun(x2,O)=>[.us 124 .u32 H (kV J qs),.us 124 .u32 I O]) (fun(x2,O)=>h8) ?_ ?_
  ·
   refine zM (zE (mv rfl rfl (gv (gC (k:=.u64) (s:=63) (yk:=.u64) rfl rfl rfl (by simp only[ub];omega)) rfl (gv (fJ (k:=.u64) (q:=0) rfl rfl) rfl (zR (wQ (e':=[(4,_),(9,_),(10,_),(11,_),(12,_),(13,_),(15,_),(211,_)]) e8 (zF ?_)))))));refine cnd (fun cd=>?_) fun cd=>?_
   ·
    have fd:1≤x1:=Nat.pos_of_ne_zero fun h0=>by
     have cf:d2/2^63=1:=by omega
     rw[h0,cf,Nat.zero_mul,Nat.mul_zero,Nat.mul_one] at aa;omega
    refine zM (zE (mv rfl rfl (gv (bP (k:=.u64) (q:=1) (W:=18446744073709551616) rfl rfl rfl rfl oM oM) rfl (asg rfl rfl (zR (zF (zM (zE (asg (v:=vU .u64 0) rfl rfl (zR (zF (zM (zM ?_)))))))))))));refine zE (mv rfl rfl (gv (wM underlying27 rfl C) rfl ?_));rw[au];refine mv (v:=vI (0)) rfl rfl (zR (zF (wR ?_)));refine gcL (ι:=Nat×List Nat×Nat) (fun(i2,O,c2)=>(i2≤n∧O.length=la+1∧Fit O∧c2≤1∧val O+4294967296^(J-1+i2)*c2=val ts2+4294967296^(J-1)*val (vs.take i2)∧∀k,J-1+i2≤k→O.getD k 0=ts2.getD k 0,[(4,H),(9,vI ↑s),(10,I),(11,ah),(12,vI ↑n),(13,vI (↑J-1)),(15,vU .u64 (x1-1)),(18,vU .u64 c2),(214,ah),(215,vI ↑n),(216,vI ↑i2)],[.us 124 .u32 H (kV J qs),.us 124 .u32 I O],h8,n-i2)) (0,ts2,0) ?_ ?_
    · exact⟨by omega,bo,ar,by omega,by simp[val],fun _ _=>rfl⟩
    rintro⟨i2,O,c2⟩ ⟨hi2,bg,av,gk,bf,cu⟩
    refine yW ?_;refine zM (zE (gv (yG rfl rfl) rfl (zR (zF (zM ?_)))));refine cnd (fun cc=>?_) fun cc=>?_
    ·
     refine uK (zF (zM (wR (zM (zE (mv rfl rfl (gv (zO _ underlying27 sizeOf124 rfl rfl C rfl oM) rfl (gv (xO isAgg124 rfl C oM) rfl ?_))))))));have dy:=C.get32 i2;refine asg rfl rfl (asg rfl rfl (zR (zF (zM (zE (mv rfl rfl (mv rfl rfl (mv rfl rfl (mv rfl rfl (gv (zP rfl rfl oM oM) rfl (gv (yR (A:=[_]) (J-1+i2) underlying27 sizeOf124 rfl rfl oM oM) rfl (gv (gN (A:=[_]) isAgg124 rfl oM) rfl ?_))))))))))));have bv:=qB av (J-1+i2);refine gv (wN (k:=.u32) (k':=.u64) (W:=18446744073709551616) underlying124 underlying125 rfl rfl rfl oM) rfl (mv rfl rfl (gv (wN (k:=.u32) (k':=.u64) (W:=18446744073709551616) underlying124 underlying125 rfl rfl rfl oM) rfl (gv (tB (k:=.u64) (W:=18446744073709551616) rfl rfl rfl rfl oM) rfl (gv (tB (k:=.u64) (W:=18446744073709551616) rfl rfl rfl rfl oM) rfl (asg rfl rfl (zR (wQ (e':=[(4,_),(9,_),(10,_),(11,_),(12,_),(13,_),(15,_),(214,_),(215,_),(216,_),(23,_),(18,_)]) ⟨rfl,rfl,rfl,rfl,rfl,rfl,rfl,rfl,rfl,rfl,rfl,rfl,trivial⟩ (zF (zM (zE (mv rfl rfl (mv rfl rfl (mv rfl rfl ?_)))))))))))));refine gv (zP rfl rfl oM oM) rfl (mv rfl rfl (gv (gW (k:=.u64) (k':=.u32) (W:=4294967296) underlying125 underlying124 rfl rfl rfl) rfl (gv (yR (A:=[_]) (J-1+i2) underlying27 sizeOf124 rfl rfl oM oM) rfl (sJ sizeOf124 rfl rfl oM (zR (zF (zE (mv rfl rfl (gv (gC (k:=.u64) (s:=32) (yk:=.u64) rfl rfl rfl (by simp only[ub];omega)) rfl (asg rfl rfl (zR (sH (wQ (e':=[(4,_),(9,_),(10,_),(11,_),(12,_),(13,_),(15,_),(214,_),(215,_),(216,_),(18,_)]) ⟨rfl,rfl,rfl,rfl,rfl,rfl,rfl,rfl,rfl,rfl,rfl,trivial⟩ ?_)))))))))))));refine zF (zE (gv (zP (q:=1) rfl rfl oM oM) rfl (mv rfl rfl (zR ?_))));generalize hX:O.getD (J-1+i2) 0=X at *;generalize hY:vs.getD i2 0=Y at *;refine gqL (i2+1,O.set (J-1+i2) ((c2+(X+Y))%4294967296),(c2+(X+Y))/2^32) ?_ ?_
     ·
      refine⟨by omega,by simp[bg],aQ av _ oM,by omega,?_,fun k hk=>?_⟩
      · have h1:=aI (xs:=O) (i:=J-1+i2) oM ((c2+(X+Y))%4294967296)
        rw[hX] at h1;rw[vY vs i2 oM,hY,←Nat.add_assoc (J-1),Nat.pow_succ,Nat.pow_add];rw[Nat.pow_add] at h1 bf;exact zXC bf h1 oM
      · rw[qJ oM];exact cu k oM
     omega
    refine kY (uF (uF (kX (zF (zE (mv rfl rfl (mv rfl rfl (mv rfl rfl (gv (zP rfl rfl oM oM) rfl (gv (yR (A:=[_]) (J-1+n) underlying27 sizeOf124 rfl rfl oM oM) rfl (gv (gN (A:=[_]) isAgg124 rfl oM) rfl (mv rfl rfl (gv (gW (k:=.u64) (k':=.u32) (W:=4294967296) underlying125 underlying124 rfl rfl rfl) rfl ?_)))))))))))));have bv:=qB av (J-1+n);refine gv (zOL (k:=.u32) (W:=4294967296) rfl rfl rfl rfl) rfl (gv (yR (A:=[_]) (J-1+n) underlying27 sizeOf124 rfl rfl oM oM) rfl (sJ sizeOf124 rfl rfl oM (zR ?_)));generalize hX:O.getD (J-1+n) 0=X at *;refine zQ (x1-1,O.set (J-1+n) ((X+c2%4294967296)%4294967296)) ?_ e7 rfl rfl;have di:i2=n:=by omega
    rw[di,xQ oM,ay] at bf;have h1:=aI (xs:=O) (i:=J-1+n) oM ((X+c2%4294967296)%4294967296);rw[hX] at h1;have bd:Fit (O.set (J-1+n) ((X+c2%4294967296)%4294967296)):=aQ av _ oM;have dx:∀k,J-1+n+1≤k→(O.set (J-1+n) ((X+c2%4294967296)%4294967296)).getD k 0=0:=fun k hk=>by
     rw[qJ oM,cu k oM];exact cg k hk
    have ho:val (O.set (J-1+n) ((X+c2%4294967296)%4294967296))+4294967296^(J-1+n+1)*((X+c2)/4294967296)=val ts2+4294967296^(J-1)*V:=by
     rw[Nat.pow_succ,Nat.pow_add];rw[Nat.pow_add] at h1 bf;exact yBT bf h1 oM
    obtain⟨z1,z2,z3⟩:=zOC Z bd df (mX bd dx) (b:=d2/2^63) oM aa cj ho oM;exact⟨by omega,by simp[bg],bd,z2,z3⟩
   refine uK ?_;refine zQ (x1,ts2) ?_ e7 rfl rfl;have du:d2/2^63=0:=by omega
   rw[du,Nat.mul_zero,Nat.add_zero] at aa;exact⟨cl,bo,ar,aa,zCB Z ar aa ci⟩
  rintro⟨x2,O⟩ ⟨ck,bg,av,eg,cv⟩
  refine yW ?_;refine zE (mv rfl rfl (mv rfl rfl (mv rfl rfl (gv (wN (k:=.u64) (k':=.u32) (W:=4294967296) underlying125 underlying124 rfl rfl rfl oM) rfl (gv (yR (A:=[]) (J-1) underlying27 sizeOf124 rfl rfl oM (by rw[qG];omega)) rfl (wC sizeOf124 rfl rfl (by rw[qG];omega) (zR (sH (zF (zE (mv rfl rfl (gv (qE (q:=1) rfl rfl oM oM) rfl (asg rfl rfl ?_)))))))))))));refine zR ?_;refine qS (J-1,O,x2::qs) ?_ ?_ ⟨rfl,rfl,rfl,rfl,rfl,?_,trivial⟩ ?_ rfl
  ·
   refine⟨by omega,by simp only[lC];omega,sK.2 ⟨ck,dp⟩,bg,av,?_,cv⟩;have eJ:(4294967296:Nat)^J=4294967296^(J-1)*4294967296:=by rw[←Nat.pow_succ,Nat.succ_eq_add_one,Nat.sub_add_cancel hJ]
   rw[eJ] at ao;exact zZN ao eg
  ·
   dsimp only;omega
  · exact congrArg some (congrArg vI oM)
  try dsimp only[List.nil_append,List.cons_append]
  rw[bZ oM]
 refine kY (uF (uF (kX (zF (zM ?_)))));have ey:J=0:=by omega
 subst ey;rw[cG];rw[List.drop_zero] at bz;rw[Nat.pow_zero,Nat.one_mul] at ao;have ej:(zB (val us)).length≤us.length:=uE Z;refine zE (mv rfl rfl ?_);refine zGX (R:=fun h r=>r=gL 1 I 0 (zB (val us)).length∧Us .u32 h r (zB (val us))) (vs:=[_]) rfl rfl rfl rfl call196 ⟨rfl,trivial⟩ (fun w hw=>qR (MLe.refl _) (hw.own_us (A:=[_]) Z)) ?_
 rintro fb ⟨_,dw,_⟩
 subst dw;refine zPJ (A:=[_]) (zB (val us)).length ej ?_;rw[zB3 Z];generalize gL 1 I 0 (zB (val us)).length=vr;have aw:=xT (val us);have ew:=zD (val us);generalize zB (val us)=Rs at *;refine asg rfl rfl (zR (zF (zM (zM (zE (mv rfl rfl (gv (sV (A:=[_]) underlying27 rfl) rfl (mv (v:=vI (0)) rfl rfl (zR (zF (wR ?_)))))))))));refine kE (ι:=Nat) (fun(k:(Nat))=>k≤Rs.length) (fun(k:(Nat))=>[(4,H),(5,vr),(9,vI ↑s),(261,vI ↑Rs.length),(262,vI ↑k)]) (fun(k:(Nat))=>[.us 124 .u32 H qs,.us 124 .u32 vr (iJ s Rs k)]) (fun(k:(Nat))=>h8) (fun(k:(Nat))=>Rs.length-k) 0 ?_ e5 ?_ rfl ?_
 · exact Nat.zero_le _
 ·
  try dsimp only[List.nil_append,List.cons_append]
  exact congrArg (fun z=>[Res.us 124 .u32 H qs,Res.us 124 .u32 vr z]) (zN3 s Rs)
 rintro k hk
 refine yW ?_;refine zM (zE (gv (yG rfl rfl) rfl (zR (zF (zM ?_)))));refine cnd (fun cb=>?_) fun cb=>?_
 ·
  refine uK (zF ?_);refine qN (ι:=Unit) (fun(_u:(Unit))=>True) (fun(_u:(Unit))=>[(4,H),(5,vr),(9,vI ↑s),(261,vI ↑Rs.length),(262,vI ↑k)]) (fun(_u:(Unit))=>[.us 124 .u32 H qs,.us 124 .u32 vr (iJ s Rs (k+1))]) (fun(_u:(Unit))=>h8) ?_ ?_
  ·
   refine wR (zM (zE (mv rfl rfl (asg rfl rfl (zR (zF (zM (zE (mv rfl rfl (mv rfl rfl (gv (yR (A:=[_]) (k) underlying27 sizeOf124 rfl rfl oM (by rw[fH oM];omega)) rfl (gv (gN (A:=[_]) isAgg124 rfl (by rw[fH oM];omega)) rfl ?_))))))))))));rw[zHM (Nat.le_refl _)];have en:=qB aw k;refine mv rfl rfl (gv (gC (k:=.u32) (s:=s) (yk:=.i64) rfl rfl rfl (by simp only[ub];omega)) rfl ?_);have ga:Rs.getD k 0/2^s<4294967296:=Nat.lt_of_le_of_lt (Nat.div_le_self _ _) en;refine gv (yR (A:=[_]) (k) underlying27 sizeOf124 rfl rfl oM (by rw[fH oM];omega)) rfl (sJ sizeOf124 rfl rfl (by rw[fH oM];omega) (zR (zF (zM (zE (mv rfl rfl (gv (lO (q:=0) rfl rfl) rfl ?_)))))));refine gU 7 280 (vB (((0:Int)<↑s)∧((↑k:Int)+1<↑Rs.length))) ?_ ?_
   ·
    refine zS ((0:Int)<↑s) (fun hg=>?_) (fun hg=>?_)
    ·
     refine gT hg rfl (iF rfl rfl rfl (mv rfl rfl (iF rfl rfl rfl (gv (zP (q:=1) rfl rfl oM oM) rfl (iF rfl rfl rfl (mv rfl rfl (iF rfl rfl rfl (gv (sV (A:=[_]) underlying27 rfl) rfl ?_))))))));rw[lS,fH oM];refine iF rfl rfl rfl (gv (yG rfl rfl) rfl (gv (pF rfl rfl) rfl (zR (gqU ?_))));exact congrArg some (yU hg)
    refine gF hg rfl (aX rfl rfl rfl rfl rfl rfl (aX rfl rfl rfl rfl rfl rfl (aX rfl rfl rfl rfl rfl rfl (aX rfl rfl rfl rfl rfl rfl (aX rfl rfl rfl rfl rfl rfl (gv (pG rfl rfl) rfl (zR (gqU ?_))))))));exact congrArg some (yV hg)
   refine zR (zF ?_);refine cnd (fun ca=>?_) fun ca=>?_
   ·
    refine zL 14 _ [] [(0,.q),(1,.q),(2,.q),(3,.q),(4,.q),(5,.q),(6,.q),(7,.q),(8,.q),(9,.q),(10,.q),(11,.q),(12,.q),(13,.q),(14,.t)] yA nX (by kernel_rfl) nX (fun r hr=>hr) (uW rfl rfl rfl (uW rfl rfl rfl (w_q rfl (fun h' L' hh hR=>kR (hR _ mh1) (k) underlying27 sizeOf124 rfl rfl oM (by rw[lS,fH oM];omega)) rfl (w_q rfl (fun h' L' hh hR=>tM (hR _ mh1) isAgg124 rfl (by rw[lS,fH oM];omega)) rfl ?_))));rw[zEH (by rw[fH oM];omega)];refine uW rfl rfl rfl (uW rfl rfl rfl (xN rfl (fun _ _=>zP (q:=1) rfl rfl oM oM) rfl (w_q rfl (fun h' L' hh hR=>kR (hR _ mh1) (k+1) underlying27 sizeOf124 rfl rfl oM (by rw[lS,fH oM];omega)) rfl (w_q rfl (fun h' L' hh hR=>tM (hR _ mh1) isAgg124 rfl (by rw[lS,fH oM];omega)) rfl ?_))));rw[qJ oM,zHM oM];refine uW rfl rfl rfl (xN rfl (fun _ _=>qE (p:=32) rfl rfl oM oM) rfl ?_);rw[show((32:Int)-↑s)=↑(32-s) by omega];refine xN rfl (fun _ _=>gD (k:=.u32) (s:=32-s) (yk:=.i64) (W:=4294967296) rfl rfl rfl rfl) rfl (xN rfl (fun _ _=>sO (k:=.u32) rfl rfl rfl (by simp only[ub];omega) (by simp only[ub];omega)) rfl ?_);rw[zVC aw oM oM];refine w_q rfl (fun h' L' hh hR=>kR (hR _ mh1) (k) underlying27 sizeOf124 rfl rfl oM (by rw[lS,fH oM];omega)) rfl (pO (A:=[_]) rfl (eY sizeOf124 rfl rfl (by rw[lS,fH oM];omega)) rfl (pA (sH ?_)));refine zQ (()) ?_ e5 ?_ rfl
    · trivial
    try dsimp only[List.nil_append,List.cons_append]
    rw[List.set_set,zHL oM];try rfl
   refine uK (sH ?_);have bx:Rs.getD k 0/2^s=oA s Rs k:=by
    by_cases h0:s=0
    · rw[h0,zN4 aw oM,Nat.pow_zero,Nat.div_one]
    · exact(zN6 aw oM).symm
   refine zQ (()) ?_ e5 ?_ rfl
   · trivial
   try dsimp only[List.nil_append,List.cons_append]
   rw[bx,zHL oM]
  rintro _u fi
  refine yW ?_;refine zE (gv (zP (q:=1) rfl rfl oM oM) rfl (mv rfl rfl (zR ?_)));refine qS (k+1) ?_ ?_ e5 rfl rfl
  · omega
  omega
 refine kY (uF (uF (kX (zF (zM (zE (mv rfl rfl (yL (by exact dp) ?_))))))));intro h9 gf hq;refine cL (ev1 rfl) call196 (fun w hs=>qR hs hq) fun fa gt fh M=>?_;replace M:=M.2;refine mv rfl rfl (yL (by exact zTF aw) ?_);intro gs dm eh;refine cL (ev1 rfl) call196 (fun w hs=>qR hs eh) fun ez gr dl ab=>?_;replace ab:=ab.2;refine asg rfl rfl (asg rfl rfl (asg (v:=vI (0)) rfl rfl (zR (zF (bX (uY rfl rfl rfl rfl ?_))))));replace M:=M.mono (dm.trans dl);have ek:k=Rs.length:=by omega
 rw[ek,zP5 aw,ew] at ab;obtain⟨e1,e2⟩:=zNF (X:=val xs) (Y:=val ys) (s:=s) (u:=val us) (q:=val qs) oM (by rw[←hV,←hU];exact ao) (by rw[←hV];exact bz);rw[e1] at M;rw[e2] at ab;rw[if_neg ax,if_neg ax];exact⟨_,_,rfl,M,ab⟩
end Go.Proofs.YtpkaegemlpaenaaGreat
namespace Go.Proofs.YtpkaegemlpaenaaGreat
open Bk Go Tryz
set_option linter.unusedVariables false
set_option linter.unusedSimpArgs false
set_option maxRecDepth 10000
set_option maxHeartbeats 1000000
attribute [local irreducible] GL GC GQ W OpV
theorem fI{w0:World}{h0:Mem}(hs:MLe h0 (mem w0)){v:Value}{xs:List Nat}(hv:Us .u32 h0 v xs)(hl:xs.length≤17592186044416):
 Calls Tryz.prog 92 #[v] w0 (Ret w0 h0 (fun h r=>Us .u32 h r (zB (val xs)))):=by
 refine cb1 23 v func92 hs ?_;refine tG ?_;refine gcL (ι:=Nat) (fun(k:(Nat))=>(k≤xs.length∧∀i,k≤i→xs.getD i 0=0,[(0,v),(3,vI ↑k)],[],h0,k)) xs.length ?_ ?_
 · exact⟨Nat.le_refl _,fun i hi=>by rw[List.getD_eq_getElem?_getD,List.getElem?_eq_none hi];rfl⟩
 rintro k ⟨hk,J⟩
 refine yW ?_;refine go5 ?_;refine gU 8 15 (vB (((0:Int)<↑k)∧(xs.getD (k-1) 0=0))) ?_ ?_
 ·
  refine zS ((0:Int)<↑k) (fun H=>?_) (fun H=>?_)
  ·
   refine gT H rfl (go7 ?_);refine gv (zO (k-1) underlying27 sizeOf124 rfl rfl hv oM oM) rfl (go3 ?_);refine gv (gE (k:=.u32) (q:=0) rfl rfl) rfl (go2 ?_);refine gqU ?_;exact congrArg some (yU H)
  refine gF H rfl (go8 ?_);refine gqU ?_;exact congrArg some (yV H)
 refine gc2 (fun z=>?_) fun z=>?_
 ·
  refine go9 ?_;refine gqL (k-1) ?_ ?_ (he:=⟨rfl,?_,trivial⟩)
  ·
   exact⟨by omega,fun i hi=>by
    by_cases e:i=k-1
    · rw[e];exact z.2
    · exact J i oM⟩
  · have:=z.1;omega
  · exact congrArg some (congrArg vI (by have:=z.1;omega))
 refine go7 ?_;refine zI (zC2 (kd:=.u32) underlying27 vW rfl rfl) rfl rfl rfl ?_;intro O Z G;obtain rfl:=G;refine go2 ?_;refine gv (iO _ underlying27 sizeOf124 rfl rfl hv.shape rfl oM) rfl ?_;have C:=hv.sub (lo:=0) (hi:=_) oM oM;refine xK (A:=[]) (kQ (kd:=.u32) (bytes:=4) underlying27 vW rfl rfl rfl rfl rfl C (by simp;omega) (by simp;omega)) rfl rfl rfl ?_;intro M U D;obtain rfl:=D;rw[List.nil_append,List.drop_zero,Nat.sub_zero];refine yL (by exact gK hv.lt k) ?_;intro h1 I ho;refine go4 ?_;refine zC rfl rfl ?_;replace hv:=hv.mono I;have e:xs.take k=zB (val xs):=zEQ hv.lt hk J (by
  by_cases h0:k=0
  · exact .inl h0
  · exact .inr fun h1=>z ⟨by omega,h1⟩)
 rw[←e];exact ho
end Go.Proofs.YtpkaegemlpaenaaGreat
namespace Go.Proofs.YtpkaegemlpaenaaGreat
open Bk Go Tryz
set_option linter.unusedVariables false
set_option linter.unusedSimpArgs false
set_option maxRecDepth 10000
set_option maxHeartbeats 1000000
attribute [local irreducible] GL GC GQ W OpV
theorem zV7{w0:World}{h0:Mem}(hs:MLe h0 (mem w0)){v v':Value}{xs ys:List Nat}(hv:Us .u32 h0 v xs)(hv':Us .u32 h0 v' ys)(hl:xs.length≤1099511627776)(hl':ys.length≤1099511627776):
 Calls Tryz.prog 189 #[v,v'] w0 (Ret w0 h0 (fun h r=>Us .u32 h r (zB (Nat.gcd (val xs) (val ys))))):=by
 have bw:=uE hv.lt;have bv:=uE hv'.lt;obtain⟨G,hG⟩:∃G,G=Nat.gcd (val xs) (val ys):=⟨_,rfl⟩;rw[←hG];refine cb2 61 v v' func189 hs ?_;refine go8 ?_;refine cL (ev1 rfl) call196 (fun w hs=>qR hs hv) fun bs h1 bf O=>?_;replace O:=O.2;refine jE (vs:=[_]) rfl rfl rfl rfl call207 ⟨rfl,trivial⟩ (fun w hs=>zB6 hs O oM) ?_;intro aq h2 cg be ai;obtain rfl:=ai;refine yL (by exact xT _) ?_;intro h3 bd bi;refine go1 ?_;replace hv':=hv'.mono ((bf.trans be).trans bd);refine cL (ev1 rfl) call196 (fun w hs=>qR hs hv') fun br h4 ce M=>?_;replace M:=M.2;refine jE (vs:=[_]) rfl rfl rfl rfl call207 ⟨rfl,trivial⟩ (fun w hs=>zB6 hs M oM) ?_;intro ap h5 cf cd ah;obtain rfl:=ah;refine yL (by exact xT _) ?_;intro h6 cc bh;refine go6 ?_;refine gcL (ι:=Value×Nat×Value×Nat×Mem) (fun(vx,X,vy,Y,k1)=>(MLe h6 k1∧(Us .u32 k1 vx (zB X)∧Us .u32 k1 vy (zB Y)∧Nat.gcd X Y=G∧(zB X).length≤1099511627776∧(zB Y).length≤1099511627776),[(5,vx),(6,vy)],[],k1,Y)) (aq,val xs,ap,val ys,h6) ?_ ?_
 · exact⟨mle,bi.up,bh,hG.symm,by omega,by omega⟩
 rintro⟨vx,X,vy,Y,k1⟩ ⟨bl,⟨ha,hb,hg,bz,bc⟩⟩
 refine yW ?_;refine gc8 (fun ao=>?_) fun ao=>?_
 ·
  refine go7 ?_;have D:Y≠0:=yK.1 oM;refine cL (ev2 rfl rfl) call190 (fun w hs=>zBO hs ha hb oM oM) fun bq h7 U C=>?_;obtain⟨bu,au,rfl,ak,C⟩:=C;simp only[zD] at ak C;rw[if_neg D] at C;have bb:=yF (Nat.le_of_lt (Nat.mod_lt X (Nat.pos_of_ne_zero D)));refine iX ?_;refine gqL (vy,Y,au,X%Y,h7) ?_ ?_
  · exact⟨mle,hb.up,C,by rw[lY];exact hg,bc,by omega⟩
  exact Nat.mod_lt _ (Nat.pos_of_ne_zero D)
 refine rM ?_;refine cnd (fun an=>?_) fun an=>?_
 ·
  have D:Y=0:=Classical.byContradiction fun az=>by have:=yK.2 az;omega
  refine go8 ?_;refine zC rfl rfl ?_;rw[D,Nat.gcd_zero_right] at hg;rw[←hg];exact ha
 have D:Y≠0:=yK.1 oM;refine go2 ?_;refine qN (ι:=Value×Nat×Value×Nat×Mem) (fun(J,X2,I,Y2,Z)=>MLe k1 Z∧(Us .u32 Z J (zB X2)∧Us .u32 Z I (zB Y2)∧Nat.gcd X2 Y2=G∧(zB X2).length≤2∧(zB Y2).length≤2)) (fun(J,X2,I,Y2,Z)=>[(5,J),(6,I)]) (fun(J,X2,I,Y2,Z)=>[]) (fun(J,X2,I,Y2,Z)=>Z) ?_ ?_
 ·
  refine gc7 (fun am=>?_) fun am=>?_
  ·
   refine go4 ?_;refine cL (ev2 rfl rfl) call190 (fun w hs=>zBO hs ha hb oM oM) fun bp h7 U z=>?_;obtain⟨bt,ar,rfl,aj,z⟩:=z;simp only[zD] at aj z;rw[if_neg D] at z;have bb:=yF (Nat.le_of_lt (Nat.mod_lt X (Nat.pos_of_ne_zero D)));refine rV ?_;refine zQ (vy,Y,ar,X%Y,h7) ?_ e2z rfl rfl;refine⟨U,?_⟩;replace hb:=hb.mono U;exact⟨hb,z,by rw[lY];exact hg,by omega,by omega⟩
  refine go1 ?_;refine zQ (vx,X,vy,Y,k1) ?_ e2z rfl rfl;refine⟨MLe.refl _,?_⟩;exact⟨ha,hb,hg,by omega,by omega⟩
 rintro⟨J,X2,I,Y2,Z⟩ ⟨bk,⟨bj,ab,bg,aw,av⟩⟩
 refine yW ?_;refine go3 ?_;refine cL (ev1 rfl) call208 (fun w hs=>zIV hs bj oM) fun bo h7 U ae=>?_;subst ae;rw[zD];have ay:=aL aw;refine go1 ?_;replace ab:=ab.mono U;refine cL (ev1 rfl) call208 (fun w hs=>zIV hs ab oM) fun bn h8 cb ad=>?_;subst ad;rw[zD];have ax:=aL av;refine go6 ?_;refine gcL (ι:=Nat×Nat) (fun(m,n)=>(Nat.gcd m n=G∧m<18446744073709551616∧n<18446744073709551616,[(13,vU .u64 m),(14,vU .u64 n)],[],h8,n)) (X2,Y2) ?_ ?_
 · exact⟨bg,ay,ax⟩
 rintro⟨m,n⟩ ⟨aa,hm,hn⟩
 refine yW ?_;refine go4 ?_;refine gv (fJ (k:=.u64) (q:=0) rfl rfl) rfl (gc2 (fun H=>?_) fun H=>?_)
 ·
  refine go3 ?_;refine zL 6 _ [] [(0,.q),(1,.q),(2,.q),(3,.q),(4,.q),(5,.q)] yA nX (by kernel_rfl) nX (fun r hr=>hr) (go3 ?_);refine xN rfl (fun _ _=>pY (k:=.u64) rfl rfl oM) rfl (go4 ?_);refine gqL (n,m%n) ?_ ?_
  ·
   have bx:=Nat.mod_lt m (Nat.pos_of_ne_zero H);exact⟨by rw[lY];exact aa,hn,by omega⟩
  exact Nat.mod_lt _ (Nat.pos_of_ne_zero H)
 refine go8 ?_;refine cL (ev1 rfl) call192 (fun w hs=>zK9 hs oM) fun bm h9 ca ac=>(go4 ?_);refine zC rfl rfl ?_;have ba:n=0:=Classical.not_not.1 H;rw[ba,Nat.gcd_zero_right] at aa;rw[←aa];exact ac
theorem iM{w0:World}{h0:Mem}(hs:MLe h0 (mem w0)){n:Nat}(hn:n<18446744073709551616):
 Calls Tryz.prog 96 #[vU .u64 n] w0 (Ret w0 h0 (fun h r=>Us .u32 h r (zB n))):=by
 refine cb1 10 (vU .u64 n) func96 hs ?_;refine uQ ?_;refine zI (zC1 (kd:=.u32) underlying27 vW rfl rfl rfl rfl) rfl rfl rfl ?_;intro M O C;obtain rfl:=C;refine yL (by intro x D;simp only[List.mem_cons,List.not_mem_nil,or_false] at D;simp only[ub];omega) ?_;intro h1 H I;refine cL (ev1 rfl) call92 (fun w hs=>fI hs I (by simp)) fun J h2 G z=>(go4 ?_);refine zC rfl rfl ?_;have e:val [n%4294967296,n/2^32%4294967296]=n:=by simp only[val];omega
 rw[e] at z;exact z
theorem nO{w0:World}{h0:Mem}(hs:MLe h0 (mem w0)){v v':Value}{X Y:Nat}(hv:Us .u32 h0 v (zB X))(hv':Us .u32 h0 v' (zB Y)):
 Calls Tryz.prog 49 #[v,v'] w0 (Ret w0 h0 (fun _ r=>r=vI (sM X Y))):=by
 have M:=zD X;have C:=zD Y;generalize hA:zB X=AA at *;generalize Z:zB Y=BB at *;have fA:Fit AA:=hv.lt;have fB:Fit BB:=hv'.lt;have lA:=hv.lt63;have lB:=hv'.lt63;refine cb2 41 v v' func49 hs ?_;refine qA ?_;refine gv (wM underlying27 rfl hv') rfl (gc3 (fun J=>?_) fun J=>?_)
 ·
  refine go6 ?_;refine gv (wM underlying27 rfl hv') rfl (gc3 (fun I=>?_) fun I=>?_)
  ·
   refine go8 ?_;refine zC rfl rfl ?_;rw[j5 (sP (by rw[hA,Z];omega))]
  refine go9 ?_;refine zC rfl rfl ?_;rw[j6 (sP (by rw[hA,Z];omega))]
 have U:AA.length=BB.length:=by omega
 refine uQ ?_;refine gcL (ι:=Nat) (fun(j:(Nat))=>(j≤AA.length∧AA.drop j=BB.drop j,[(0,v),(1,v'),(5,vI (↑j-1))],[],h0,j)) AA.length ?_ ?_
 · exact⟨Nat.le_refl _,by rw[List.drop_of_length_le (Nat.le_refl _),List.drop_of_length_le oM]⟩
 rintro j ⟨hj,D⟩
 refine yW ?_;refine gc7 (fun H=>?_) fun H=>?_
 ·
  refine go6 ?_;refine zL 9 _ [] [(0,.q),(1,.q),(2,.q),(3,.q),(4,.q),(5,.q),(6,.q),(7,.q),(8,.q)] yA nX (by kernel_rfl) nX (fun r O=>O) (go2 ?_);refine w_q rfl (fun h' L' hh hR=>zO (j-1) underlying27 sizeOf124 rfl rfl (hv.mono hh) oM oM) rfl (w_q rfl (fun h' L' hh hR=>xO isAgg124 rfl (hv.mono hh) oM) rfl (go2 ?_));refine w_q rfl (fun h' L' hh hR=>zO (j-1) underlying27 sizeOf124 rfl rfl (hv'.mono hh) oM oM) rfl (w_q rfl (fun h' L' hh hR=>xO isAgg124 rfl (hv'.mono hh) oM) rfl (gc3 (fun z=>?_) fun z=>?_))
  ·
   refine uQ ?_;refine zC rfl rfl ?_;rw[←M,←C,j5 (zBI fA U oM hj D z)]
  refine go3 ?_;refine zL 9 _ [] [(0,.q),(1,.q),(2,.q),(3,.q),(4,.q),(5,.q),(6,.q),(7,.q),(8,.q)] yA nX (by kernel_rfl) nX (fun r O=>O) (go2 ?_);refine w_q rfl (fun h' L' hh hR=>zO (j-1) underlying27 sizeOf124 rfl rfl (hv.mono hh) oM oM) rfl (w_q rfl (fun h' L' hh hR=>xO isAgg124 rfl (hv.mono hh) oM) rfl (go2 ?_));refine w_q rfl (fun h' L' hh hR=>zO (j-1) underlying27 sizeOf124 rfl rfl (hv'.mono hh) oM oM) rfl (w_q rfl (fun h' L' hh hR=>xO isAgg124 rfl (hv'.mono hh) oM) rfl (gc3 (fun G=>?_) fun G=>?_))
  ·
   refine qA ?_;refine zC rfl rfl ?_;rw[←M,←C,j6 (zBI fB U.symm oM oM D.symm oM)]
  refine go8 ?_;refine gqL (j-1) ?_ ?_ (he:=⟨rfl,rfl,?_,trivial⟩)
  ·
   refine⟨by omega,?_⟩;rw[fD AA (j-1) oM,fD BB (j-1) oM];have e:j-1+1=j:=by omega
   rw[e,D,Classical.not_not.1 (show ¬¬AA.getD (j-1) 0=BB.getD (j-1) 0 by omega)]
  · omega
  · exact congrArg some (congrArg vI oM)
 refine qA ?_;refine zC rfl rfl ?_;have h0:j=0:=by omega
 subst h0;simp only[List.drop_zero] at D;rw[←M,←C,D,zNK]
theorem zQ7{w0:World}{h0:Mem}(hs:MLe h0 (mem w0)){v:Value}{X:Nat}(hv:Us .u32 h0 v (zB X))(hl:(zB X).length≤1099511627776):
 Calls Tryz.prog 169 #[v] w0 (Ret w0 h0 (fun _ r=>r=vI ↑(vQ X))):=by
 refine cb1 25 v func169 hs ?_;refine rM ?_;refine cnd (fun J=>?_) fun J=>?_
 ·
  refine go7 ?_;refine zC rfl rfl ?_;have h0:X=0:=Classical.byContradiction fun I=>by have:=yK.2 I;omega
  rw[h0];rfl
 have D:0<(zB X).length:=by omega
 have U:=zAQ (xT X) (k:=(zB X).length-1) oM (tP D);rw[zD] at U;refine go7 ?_;refine gv (kO (p:=32) rfl rfl oM oM) rfl (uA ?_);refine gv (zO ((zB X).length-1) underlying27 sizeOf124 rfl rfl hv oM oM) rfl (go1 ?_);have C:=hv.get32 ((zB X).length-1);refine go4 ?_;refine gcL (ι:=Nat×Nat) (fun(c,x)=>(x<4294967296∧vQ ((zB X).getD ((zB X).length-1) 0)=c+vQ x∧c≤32,[(3,vI (32*(↑(zB X).length-1)+↑c)),(4,vU .u32 x)],[],h0,x)) (0,(zB X).getD ((zB X).length-1) 0) ?_ ?_ (he:=⟨congrArg some (congrArg vI oM),rfl,trivial⟩)
 · exact⟨C,by omega,by omega⟩
 rintro⟨c,x⟩ ⟨Z,G,M⟩
 refine yW ?_;have O:=nH (n:=(zB X).getD ((zB X).length-1) 0) (k:=32) C;refine go4 ?_;refine gv (fJ (k:=.u32) (q:=0) rfl rfl) rfl (gc2 (fun z=>?_) fun z=>?_)
 ·
  refine rM ?_;refine gv (gC (k:=.u32) (s:=1) (yk:=.u64) rfl rfl rfl (by simp only[ub];omega)) rfl (go2 ?_);refine gqL (c+1,x/2^1) ?_ ?_ (he:=⟨congrArg some (congrArg vI oM),rfl,trivial⟩)
  ·
   have h1:=zL4 z;exact⟨by omega,by rw[G,h1,show x/2^1=x/2 from rfl];omega,by omega⟩
  omega
 refine uQ ?_;refine zC rfl rfl ?_;have H:x=0:=Classical.not_not.1 z;rw[H,zL3] at G;exact congrArg vI oM
end Go.Proofs.YtpkaegemlpaenaaGreat
namespace Go.Proofs.YtpkaegemlpaenaaGreat
open Bk Go Tryz
set_option linter.unusedVariables false
set_option linter.unusedSimpArgs false
set_option maxRecDepth 10000
set_option maxHeartbeats 1000000
attribute [local irreducible] GL GC GQ W OpV
theorem zVL{w0:World}{h0:Mem}(hs:MLe h0 (mem w0)){v v':Value}{X Y:Nat}(hv:Us .u32 h0 v (zB X))(hv':Us .u32 h0 v' (zB Y))(hl:(zB X).length≤1099511627776)(hl':(zB Y).length≤1099511627776):
 Calls Tryz.prog 83 #[v,v'] w0 (Ret w0 h0 (fun h r=>Us .u32 h r (zB (X+Y)))):=by
 have ax:=yF (Nat.le_add_right X Y);have aw:=yF (Nat.le_add_left Y X);have av:=jS X Y;refine cb2 54 v v' func83 hs ?_;refine go7 ?_;refine mG (pJ (v:=.slice none 0 0) rfl) rfl rfl rfl (zAJ (E:=124) (k:=.u32) (go4 ?_));refine asg (v:=vU .u64 0) rfl rfl (go9 ?_);refine gcL (ι:=Value×List Nat×Nat×Mem) (fun(M,C,c,U)=>(MLe h0 U∧(C.length≤(zB (X+Y)).length∧Fit C∧c≤1∧val C+4294967296^C.length*c=val ((zB X).take C.length)+val ((zB Y).take C.length)),[(0,v),(1,v'),(5,M),(6,vU .u64 c),(7,vI ↑C.length)],[.us 124 .u32 M C],U,(zB (X+Y)).length-C.length)) (.slice none 0 0,[],0,h0) ?_ ?_
 · exact⟨mle,by simp,fun x hx=>by simp at hx,by omega,by simp[val]⟩
 rintro⟨M,C,c,U⟩ ⟨G,⟨ai,O,ay,J⟩⟩
 refine yW ?_;replace hv:=hv.mono G;replace hv':=hv'.mono G;have au:=hv.get32 C.length;have ar:=hv'.get32 C.length;refine go7 ?_;refine gU 6 17 (vB (((↑C.length:Int)<↑(zB X).length)∨((↑C.length:Int)<↑(zB Y).length))) ?_ ?_
 ·
  refine zS ((↑C.length:Int)<↑(zB X).length) (fun H=>?_) (fun H=>?_)
  ·
   refine gT H rfl (go6 ?_);refine gqU ?_;exact congrArg some (wU H)
  refine gF H rfl (go5 ?_);refine gv (wM underlying27 rfl hv') rfl (go4 ?_);refine gqU ?_;exact congrArg some (wV H)
 refine gU 4 21 (vB (((↑C.length:Int)<↑(zB X).length∨(↑C.length:Int)<↑(zB Y).length)∨(c≠0))) ?_ ?_
 ·
  refine zS ((↑C.length:Int)<↑(zB X).length∨(↑C.length:Int)<↑(zB Y).length) (fun H=>?_) (fun H=>?_)
  ·
   refine gT H rfl (go4 ?_);refine gqU ?_;exact congrArg some (wU H)
  refine gF H rfl (go3 ?_);refine gv (fJ (k:=.u64) (q:=0) rfl rfl) rfl (go2 ?_);refine gqU ?_;exact congrArg some (wV H)
 refine gc2 (fun D=>?_) fun D=>?_
 ·
  refine go4 ?_;refine qN (ι:=Unit) (fun(I:(Unit))=>True) (fun(I:(Unit))=>[(0,v),(1,v'),(5,M),(6,vU .u64 (c+(zB X).getD C.length 0)),(7,vI ↑C.length)]) (fun(I:(Unit))=>[.us 124 .u32 M C]) (fun(I:(Unit))=>U) ?_ ?_
  ·
   refine gc8 (fun ae=>?_) fun ae=>?_
   ·
    refine go4 ?_;refine gv (zO (C.length) underlying27 sizeOf124 rfl rfl hv oM oM) rfl (go5 ?_);refine zQ (()) ?_ e5 rfl rfl
    trivial
   refine go1 ?_;refine zQ (()) ?_ ⟨rfl,rfl,rfl,?_,rfl,trivial⟩ rfl rfl
   · trivial
   · exact congrArg some (congrArg (vU .u64) (by rw[tI (xs:=zB X) oM];omega))
  rintro I ac
  refine yW ?_;refine qN (ι:=Unit) (fun(I:(Unit))=>True) (fun(I:(Unit))=>[(0,v),(1,v'),(5,M),(6,vU .u64 (c+(zB X).getD C.length 0+(zB Y).getD C.length 0)),(7,vI ↑C.length)]) (fun(I:(Unit))=>[.us 124 .u32 M C]) (fun(I:(Unit))=>U) ?_ ?_
  ·
   refine go4 ?_;refine gv (wM underlying27 rfl hv') rfl (gc3 (fun ad=>?_) fun ad=>?_)
   ·
    refine go4 ?_;refine gv (zO (C.length) underlying27 sizeOf124 rfl rfl hv' oM oM) rfl (gv (xO isAgg124 rfl hv' oM) rfl (go4 ?_));refine zQ (()) ?_ e5 rfl rfl
    trivial
   refine go1 ?_;refine zQ (()) ?_ ⟨rfl,rfl,rfl,?_,rfl,trivial⟩ rfl rfl
   · trivial
   · exact congrArg some (congrArg (vU .u64) (by rw[tI (xs:=zB Y) oM];omega))
  rintro I ac
  refine yW ?_;refine go5 ?_;refine zI (rA (kd:=.u32) underlying27 vW rfl rfl rfl) rfl rfl rfl ?_;intro ao aq aa;obtain rfl:=aa;refine yL (by intro z hz;simp only[List.mem_singleton] at hz;subst hz;simp only[ub];omega) ?_;intro h1 ab ak;refine xK (A:=[]) (kQ (kd:=.u32) (bytes:=4) underlying27 vW rfl rfl rfl rfl rfl ak (by simp only[List.length_singleton];omega) (by simp only[List.length_singleton];omega)) rfl rfl rfl ?_;intro ah ap Z;obtain rfl:=Z;refine rV ?_;generalize an:(zB X).getD C.length 0=p at *;generalize am:(zB Y).getD C.length 0=q at *;have aj:C.length<(zB (X+Y)).length:=by
   rcases D with(h|h)|h
   · omega
   · omega
   · by_cases h1:C.length<(zB X).length
     · omega
     · by_cases h2:C.length<(zB Y).length
       · omega
       · rw[xQ oM,xQ oM,zD,zD] at J
         refine w4 ?_;have:=Nat.le_mul_of_pos_right (4294967296^C.length) (Nat.pos_of_ne_zero h);omega
  refine gqL (ah,C++[(c+p+q)%4294967296],(c+p+q)/2^32,h1) ?_ ?_ (he:=⟨rfl,rfl,rfl,rfl,congrArg some (congrArg vI (by simp)),trivial⟩)
  ·
   refine⟨(G.trans ab),?_⟩;refine⟨by simp;omega,vX O (cS oM),by omega,?_⟩;rw[lAz,List.length_singleton,vM,vM,an,am,tY,Nat.pow_succ];have e:=Nat.div_add_mod (c+p+q) 4294967296;rw[show(2:Nat)^32=4294967296 from rfl];generalize (c+p+q)/4294967296=s at *;generalize (c+p+q)%4294967296=r at *;grind
  simp;omega
 refine go8 ?_;refine yL (by exact O) ?_;intro h1 ab ho;refine go4 ?_;refine zC rfl rfl ?_;have h1:¬C.length<(zB X).length:=fun h=>D (.inl (.inl oM));have h2:¬C.length<(zB Y).length:=fun h=>D (.inl (.inr oM));have h3:c=0:=Classical.byContradiction fun h=>D (.inr h);rw[xQ oM,xQ oM,zD,zD,h3] at J;have e:val C=X+Y:=by omega
 rw[←e,zI2 O (by rw[e];exact ai)];exact ho
theorem s5{w0:World}{h0:Mem}(hs:MLe h0 (mem w0)){v v':Value}{X Y:Nat}(hv:Us .u32 h0 v (zB X))(hv':Us .u32 h0 v' (zB Y))(hle:Y≤X)(hl:(zB X).length≤1099511627776):
 Calls Tryz.prog 128 #[v,v'] w0 (Ret w0 h0 (fun h r=>Us .u32 h r (zB (X-Y)))):=by
 have aj:=yF hle;refine cb2 50 v v' func128 hs ?_;refine go9 ?_;refine qC (kd:=.u32) (by':=4) _ underlying27 vW rfl rfl rfl rfl rfl rfl rfl oM oM rfl ?_;intro C;refine go5 ?_;refine asg (v:=vU .u64 0) rfl rfl (go9 ?_);refine kE (ι:=List Nat×Nat) (fun(z,c)=>z.length≤(zB X).length∧Fit z∧c≤1∧val z+val ((zB Y).take z.length)=val ((zB X).take z.length)+4294967296^z.length*c) (fun(z,c)=>[(0,v),(1,v'),(5,C),(6,vU .u64 c),(7,vI ↑z.length)]) (fun(z,c)=>[.us 124 .u32 C (fU z (zB X).length)]) (fun(z,c)=>h0) (fun(z,c)=>(zB X).length-z.length) ([],0) ?_ e5 rfl rfl ?_
 · exact⟨by simp,fun x hx=>by simp at hx,by omega,by simp[val]⟩
 rintro⟨z,c⟩ ⟨ah,G,ap,H⟩
 refine yW ?_;have ae:=hv.get32 z.length;have ad:=hv'.get32 z.length;refine gc9 (fun M=>?_) fun M=>?_
 ·
  refine uA ?_;refine qN (ι:=Unit) (fun(O:(Unit))=>True) (fun(O:(Unit))=>[(0,v),(1,v'),(5,C),(7,vI ↑z.length),(8,vU .u64 (c+(zB Y).getD z.length 0))]) (fun(O:(Unit))=>[.us 124 .u32 C (fU z (zB X).length)]) (fun(O:(Unit))=>h0) ?_ ?_
  ·
   refine go4 ?_;refine gv (wM underlying27 rfl hv') rfl (gc3 (fun J=>?_) fun J=>?_)
   ·
    refine go4 ?_;refine gv (zO (z.length) underlying27 sizeOf124 rfl rfl hv' oM oM) rfl (gv (xO isAgg124 rfl hv' oM) rfl (go4 ?_));refine zQ (()) ?_ e5 rfl rfl
    trivial
   refine go1 ?_;refine zQ (()) ?_ ⟨rfl,rfl,rfl,rfl,?_,trivial⟩ rfl rfl
   · trivial
   · exact congrArg some (congrArg (vU .u64) (by rw[tI (xs:=zB Y) oM];omega))
  rintro O ab
  refine yW ?_;refine go4 ?_;refine gv (zO (z.length) underlying27 sizeOf124 rfl rfl hv oM oM) rfl (go7 ?_);refine asg (v:=vU .u64 0) rfl rfl (go2 ?_);refine qN (ι:=Nat) (fun(d:(Nat))=>d≤1∧c+(zB Y).getD z.length 0≤(zB X).getD z.length 0+4294967296*d∧(zB X).getD z.length 0+4294967296*d<c+(zB Y).getD z.length 0+4294967296) (fun(d:(Nat))=>[(0,v),(1,v'),(5,C),(6,vU .u64 d),(7,vI ↑z.length),(8,vU .u64 (c+(zB Y).getD z.length 0)),(9,vU .u64 ((zB X).getD z.length 0+4294967296*d))]) (fun(d:(Nat))=>[.us 124 .u32 C (fU z (zB X).length)]) (fun(d:(Nat))=>h0) ?_ ?_
  ·
   refine gc7 (fun I=>?_) fun I=>?_
   ·
    refine go3 ?_;refine gv (tB (k:=.u64) (q:=4294967296) (W:=18446744073709551616) rfl rfl rfl rfl oM) rfl (go4 ?_);refine asg (v:=vU .u64 1) rfl rfl (go1 ?_);refine zQ (1) ?_ e7 rfl rfl;exact⟨by omega,by omega,by omega⟩
   refine go1 ?_;refine zQ (0) ?_ e7 rfl rfl;exact⟨by omega,by omega,by omega⟩
  rintro d ⟨U,ao,an⟩
  refine yW ?_;refine go5 ?_;refine gv (bP (k:=.u64) (W:=18446744073709551616) rfl rfl rfl rfl oM oM) rfl (gv (wN (k:=.u64) (k':=.u32) (W:=4294967296) underlying125 underlying124 rfl rfl rfl oM) rfl (gv (yR (A:=[]) (z.length) underlying27 sizeOf124 rfl rfl oM (by rw[vN oM];omega)) rfl (wC sizeOf124 rfl rfl (by rw[vN oM];omega) (go8 ?_))));generalize aa:(zB X).getD z.length 0=p at *;generalize Z:(zB Y).getD z.length 0=q at *;refine qS (z++[p+4294967296*d-(c+q)],d) ?_ ?_ ⟨rfl,rfl,rfl,rfl,?_,trivial⟩ ?_ rfl
  ·
   refine⟨by simp;omega,vX G (cS oM),U,?_⟩;rw[lAz,List.length_singleton,vM,vM,aa,Z,tY,Nat.pow_succ];have e:p+4294967296*d-(c+q)+c+q=p+4294967296*d:=by omega
   generalize p+4294967296*d-(c+q)=r at *;grind
  ·
   dsimp only;simp;omega
  · exact congrArg some (congrArg vI (by simp))
  try dsimp only[List.nil_append,List.cons_append]
  rw[rD oM]
 refine go8 ?_;have hk:z.length=(zB X).length:=by omega
 rw[cF hk];refine yL (by exact G) ?_;intro h1 am ho;refine cL (ev1 rfl) call92 (fun w hs=>fI hs ho oM) fun ac h2 ak D=>(go4 ?_);refine zC rfl rfl ?_;have hk:z.length=(zB X).length:=by omega
 rw[xQ oM,xQ oM,zD,zD] at H;have h1:=jW G;have h2:c=0:=Classical.byContradiction fun ai=>by
  have:c=1:=by omega
  subst this;omega
 subst h2;have e:val z=X-Y:=by omega
 rw[e] at D;exact D
theorem zML{w0:World}{h0:Mem}(hs:MLe h0 (mem w0)){v v':Value}{X Y:Nat}(hv:Us .u32 h0 v (zB X))(hv':Us .u32 h0 v' (zB Y))(hl:(zB X).length≤1099511627776):
 Calls Tryz.prog 84 #[v,v'] w0 (Ret w0 h0 (fun h r=>∃u,r=.tuple #[u,vI (if X<Y then 7 else 0)]∧Us .u32 h u (zB (X-Y)))):=by
 refine cb2 13 v v' func84 hs ?_;refine qA ?_;refine cL (ev2 rfl rfl) call49 (fun w hs=>nO hs hv hv') fun U h1 G H=>?_;subst H;refine gc3 (fun z=>?_) fun z=>?_
 ·
  have D:=sL.1 z;refine go8 ?_;refine xY rfl rfl rfl ?_;rw[if_pos D,Nat.sub_eq_zero_of_le (Nat.le_of_lt D),yZ];exact⟨_,rfl,Us.nil _ _⟩
 have M:Y≤X:=Nat.le_of_not_lt fun O=>z (sL.2 O);refine go6 ?_;replace hv:=hv.mono G;replace hv':=hv'.mono G;refine cL (ev2 rfl rfl) call128 (fun w hs=>s5 hs hv hv' oM oM) fun I h2 J C=>(go5 ?_);refine xY rfl rfl rfl ?_;rw[if_neg oM];exact⟨_,rfl,C⟩
theorem pQ{w0:World}{h0:Mem}(hs:MLe h0 (mem w0)){v v':Value}{xs ys:List Nat}(hv:Us .u32 h0 v xs)(hv':Us .u32 h0 v' ys)(hl:xs.length≤1099511627776)(hl':ys.length≤1099511627776):
 Calls Tryz.prog 50 #[v,v'] w0 (Ret w0 h0 (fun h r=>Us .u32 h r (zB (val xs*val ys)))):=by
 have ao:Fit xs:=hv.lt;have an:Fit ys:=hv'.lt;refine cb2 67 v v' func50 hs ?_;refine uA ?_;refine gv (wM underlying27 rfl hv') rfl (go1 ?_);refine qC (kd:=.u32) (by':=4) (xs.length+ys.length) underlying27 vW rfl rfl rfl rfl rfl oM oM oM oM rfl ?_;intro C;refine uA ?_;refine gcL (ι:=Nat×List Nat) (fun(k,D)=>(k≤xs.length∧D.length=xs.length+ys.length∧Fit D∧val D=val (xs.take k)*val ys∧∀i,k+ys.length≤i→D.getD i 0=0,[(0,v),(1,v'),(5,C),(6,vI ↑k)],[.us 124 .u32 C D],h0,xs.length-k)) (0,List.replicate (xs.length+ys.length) 0) ?_ ?_
 · exact⟨Nat.zero_le _,by simp,jA _,by rw[pP];simp[val],fun i _=>oR _ _⟩
 rintro⟨k,D⟩ ⟨hk,ab,U,J,hz⟩
 refine yW ?_;refine gc9 (fun aa=>?_) fun aa=>?_
 ·
  refine go6 ?_;refine asg (v:=vU .u64 0) rfl rfl (go9 ?_);refine gcL (ι:=Nat×List Nat×Nat) (fun(j,z,c)=>(j≤ys.length∧z.length=xs.length+ys.length∧Fit z∧c<4294967296∧val z+4294967296^(k+j)*c=val D+4294967296^k*(xs.getD k 0*val (ys.take j))∧∀i,k+ys.length≤i→z.getD i 0=0,[(0,v),(1,v'),(5,C),(6,vI ↑k),(7,vU .u64 c),(8,vI ↑j)],[.us 124 .u32 C z],h0,ys.length-j)) (0,D,0) ?_ ?_
  · exact⟨Nat.zero_le _,ab,U,by omega,by simp[val],hz⟩
  rintro⟨j,z,c⟩ ⟨hj,O,I,ac,M,H⟩
  refine yW ?_;have aj:=hv.get32 k;have ai:=hv'.get32 j;have ah:=qB I (k+j);have ae:xs.getD k 0*ys.getD j 0≤4294967295*4294967295:=Nat.mul_le_mul oM oM;refine go5 ?_;refine gv (wM underlying27 rfl hv') rfl (gc3 (fun Z=>?_) fun Z=>?_)
  ·
   refine go5 ?_;refine zL 22 _ [] [(0,.q),(1,.q),(2,.q),(3,.q),(4,.q),(5,.q),(6,.q),(7,.q),(8,.q),(9,.q),(10,.q),(11,.q),(12,.q),(13,.q),(14,.q),(15,.q),(16,.q),(17,.q),(18,.q),(19,.q),(20,.q),(21,.q)] yA nX (by kernel_rfl) nX (fun r hr=>hr) (go3 ?_);refine w_q rfl (fun h' L' hh hR=>zO (k) underlying27 sizeOf124 rfl rfl (hv.mono hh) oM oM) rfl (w_q rfl (fun h' L' hh hR=>xO isAgg124 rfl (hv.mono hh) oM) rfl (go3 ?_));refine w_q rfl (fun h' L' hh hR=>zO (j) underlying27 sizeOf124 rfl rfl (hv'.mono hh) oM oM) rfl (w_q rfl (fun h' L' hh hR=>xO isAgg124 rfl (hv'.mono hh) oM) rfl (go6 ?_));refine w_q rfl (fun h' L' hh hR=>kR (hR _ mh0) (k+j) underlying27 sizeOf124 rfl rfl oM oM) rfl (w_q rfl (fun h' L' hh hR=>tM (hR _ mh0) isAgg124 rfl oM) rfl (tG ?_));refine gv (yR (A:=[]) (k+j) underlying27 sizeOf124 rfl rfl oM oM) rfl (wC sizeOf124 rfl rfl oM (tG ?_));refine gqL (j+1,z.set (k+j) ((c+(xs.getD k 0*ys.getD j 0+z.getD (k+j) 0))%4294967296),(c+(xs.getD k 0*ys.getD j 0+z.getD (k+j) 0))/2^32) ?_ ?_
   ·
    refine⟨by omega,by simp[O],aQ I _ oM,by omega,?_,fun i hi=>?_⟩
    · have h1:=aI (xs:=z) (i:=k+j) oM ((c+(xs.getD k 0*ys.getD j 0+z.getD (k+j) 0))%4294967296)
      have e:=Nat.div_add_mod (c+(xs.getD k 0*ys.getD j 0+z.getD (k+j) 0)) 4294967296;have e2:(2:Nat)^32=4294967296:=rfl;rw[vY ys j oM,e2];have ep:(4294967296:Nat)^(k+(j+1))=4294967296^k*4294967296^j*4294967296:=by rw[←Nat.add_assoc,Nat.pow_succ,Nat.pow_add]
      rw[ep];rw[Nat.pow_add] at h1 M;generalize (c+(xs.getD k 0*ys.getD j 0+z.getD (k+j) 0))/4294967296=q at *;generalize (c+(xs.getD k 0*ys.getD j 0+z.getD (k+j) 0))%4294967296=r at *;grind
    · rw[qJ oM];exact H i hi
   omega
  refine go9 ?_;refine gv (wM underlying27 rfl hv') rfl (go3 ?_);refine gv (yR (A:=[]) (k+ys.length) underlying27 sizeOf124 rfl rfl oM oM) rfl (wC sizeOf124 rfl rfl oM (go8 ?_));refine gqL (k+1,z.set (k+ys.length) (c%4294967296)) ?_ ?_
  ·
   have hj:j=ys.length:=by omega
   subst hj;refine⟨by omega,by simp[O],aQ I _ oM,?_,fun i hi=>?_⟩
   · have h1:=aI (xs:=z) (i:=k+ys.length) oM (c%4294967296)
     rw[H _ (Nat.le_refl _)] at h1;rw[xQ (Nat.le_refl _)] at M;rw[Nat.mod_eq_of_lt ac] at h1 ⊢;rw[vY xs k oM];grind
   · rw[qJ oM];exact H i oM
  omega
 refine go8 ?_;refine yL (by exact U) ?_;intro h1 am ho;refine cL (ev1 rfl) call92 (fun w hs=>fI hs ho oM) fun ad h2 ak G=>(go4 ?_);refine zC rfl rfl ?_;rw[J,xQ oM] at G;exact G
theorem zOE{w0:World}{h0:Mem}(hs:MLe h0 (mem w0)){v:Value}{X d:Nat}(hv:Us .u32 h0 v (zB X))(hd:d<4294967296)(hl:(zB X).length≤1099511627776):
 Calls Tryz.prog 172 #[v,vU .u32 d] w0 (Ret w0 h0 (fun h r=>Us .u32 h r (zB (X*d)))):=by
 refine cb2 10 v (vU .u32 d) func172 hs ?_;refine uA ?_;refine cL (ev1 rfl) call96 (fun w hs=>iM hs oM) fun J h1 D C=>?_;have H:=kC (n:=d) oM;replace hv:=hv.mono D;refine cL (ev2 rfl rfl) call50 (fun w hs=>pQ hs hv C oM oM) fun I h2 G z=>?_;simp only[zD] at z;refine go4 ?_;refine zC rfl rfl ?_;exact z
end Go.Proofs.YtpkaegemlpaenaaGreat
namespace Go.Proofs.YtpkaegemlpaenaaGreat
open Bk Go Tryz
set_option linter.unusedVariables false
set_option linter.unusedSimpArgs false
set_option maxRecDepth 10000
set_option maxHeartbeats 1000000
attribute [local irreducible] GL GC GQ W OpV
end Go.Proofs.YtpkaegemlpaenaaGreat
namespace Go.Proofs.YtpkaegemlpaenaaGreat
open Bk Go Tryz
set_option linter.unusedVariables false
set_option linter.unusedSimpArgs false
set_option maxRecDepth 10000
set_option maxHeartbeats 1000000
attribute [local irreducible] GL GC GQ W OpV
theorem zCF{w0:World}{h0:Mem}(hs:MLe h0 (mem w0)){v:Value}{xs:List Nat}{b:Nat}(hv:Us .u32 h0 v xs)(hb:0<b)(hb':b<4294967296)(hl:xs.length≤1099511627776):
 Calls Tryz.prog 168 #[v,vU .u32 b] w0 (Ret w0 h0 (fun h r=>∃u,r=.tuple #[u,vU .u32 (val xs%b)]∧Us .u32 h u (zB (val xs/b)))):=by
 have hf:Fit xs:=hv.lt;refine cb2 43 v (vU .u32 b) func168 hs ?_;refine go3 ?_;refine asg (v:=vU .u32 0) rfl rfl (go6 ?_);refine qC (kd:=.u32) (by':=4) _ underlying27 vW rfl rfl rfl rfl rfl rfl rfl oM oM rfl ?_;intro G;refine go5 ?_;refine asg (v:=vU .u64 0) rfl rfl (uQ ?_);refine kE (ι:=Nat×List Nat×Nat) (fun(j,D,r)=>j≤xs.length∧D.length=xs.length-j∧Fit D∧r<b∧val (xs.drop j)=b*val D+r) (fun(j,D,r)=>[(0,v),(1,vU .u32 b),(6,G),(7,vU .u64 r),(8,vI (↑j-1))]) (fun(j,D,r)=>[.us 124 .u32 G (kV j D)]) (fun(j,D,r)=>h0) (fun(j,D,r)=>j) (xs.length,[],0) ?_ e5 ?_ rfl ?_
 · exact⟨Nat.le_refl _,by simp,fun x hx=>by simp at hx,hb,by rw[List.drop_of_length_le (Nat.le_refl _)];rfl⟩
 ·
  try dsimp only[List.nil_append,List.cons_append]
  exact congrArg (fun z=>[Res.us 124 .u32 G z]) (aA _)
 rintro⟨j,D,r⟩ ⟨hj,ab,I,O,C⟩
 refine yW ?_;refine gc7 (fun J=>?_) fun J=>?_
 ·
  refine go7 ?_;refine gv (gD (k:=.u64) (s:=32) (yk:=.u64) (W:=18446744073709551616) rfl rfl rfl rfl) rfl (go2 ?_);refine gv (zO (j-1) underlying27 sizeOf124 rfl rfl hv oM oM) rfl (go1 ?_);have M:=hv.get32 (j-1);refine go1 ?_;refine gv (sO (k:=.u64) rfl rfl rfl (by simp only[ub];omega) (by simp only[ub];omega)) rfl ?_;rw[rT oM M];generalize Z:r*4294967296+xs.getD (j-1) 0=t at *;have hq:t/b<4294967296:=Nat.div_lt_of_lt_mul (by rw[←Z];have h1:(r+1)*4294967296≤b*4294967296:=Nat.mul_le_mul_right _ O;omega);refine uA ?_;refine gv (cA (k:=.u64) (W:=18446744073709551616) rfl rfl rfl rfl oM oM) rfl (gv (wN (k:=.u64) (k':=.u32) (W:=4294967296) underlying125 underlying124 rfl rfl rfl oM) rfl (gv (yR (A:=[]) (j-1) underlying27 sizeOf124 rfl rfl oM (by rw[qG];omega)) rfl (wC sizeOf124 rfl rfl (by rw[qG];omega) (go6 ?_))));refine gv (pY (k:=.u64) rfl rfl oM) rfl (go9 ?_);refine qS (j-1,t/b::D,t%b) ?_ ?_ ⟨rfl,rfl,rfl,rfl,?_,trivial⟩ ?_ rfl
  ·
   refine⟨by omega,by simp only[lC];omega,sK.2 ⟨hq,I⟩,Nat.mod_lt _ hb,?_⟩;rw[jB xs (j-1) oM,show j-1+1=j by omega,val];exact zB5 C Z.symm rfl rfl
  ·
   dsimp only;omega
  · exact congrArg some (congrArg vI oM)
  try dsimp only[List.nil_append,List.cons_append]
  rw[bZ oM]
 refine go8 ?_;have U:j=0:=by omega
 subst U;rw[cG];refine yL (by exact I) ?_;intro h1 ad ho;refine cL (ev1 rfl) call92 (fun w hs=>fI hs ho oM) fun aa h2 ac H=>(go1 ?_);refine gv (wN (k:=.u64) (k':=.u32) (W:=4294967296) underlying125 underlying124 rfl rfl rfl oM) rfl (go5 ?_);refine xY rfl rfl rfl ?_;simp only[List.drop_zero] at C;have e1:val xs/b=val D:=by rw[C,Nat.mul_add_div hb,Nat.div_eq_of_lt O];omega
 have e2:val xs%b=r:=by rw[C,Nat.mul_add_mod,Nat.mod_eq_of_lt O]
 rw[e1,e2];exact⟨_,rfl,H⟩
theorem zCE{w0:World}{h0:Mem}(hs:MLe h0 (mem w0)){v:Value}{X:Nat}(hv:Us .u32 h0 v (zB X))(hl:(zB X).length≤1099511627776):
 Calls Tryz.prog 177 #[v] w0 (Ret w0 h0 (fun _ r=>r=.string (uU (txt X)))):=by
 have aq:=zJO (xT X);rw[zD] at aq;refine cb1 65 v func177 hs ?_;refine rM ?_;refine cnd (fun au=>?_) fun au=>?_
 ·
  have bh:(zB X).length=0:=by omega
  refine go7 ?_;refine zC rfl rfl ?_;have e:X=0:=Classical.byContradiction fun U=>by have:=yK.2 U;omega
  rw[e];rfl
 have bj:(zB X).length≠0:=by omega
 refine go4 ?_;refine mG (pJ (v:=.slice none 0 0) rfl) rfl rfl rfl (zAJ (E:=5) (k:=.u8) (go4 ?_));refine kE (ι:=Value×Nat×Value×List Nat×Mem) (fun(va,n,O,ds,H)=>MLe h0 H∧(Us .u32 H va (zB n)∧n≤X∧ds++eU n=eU (X))) (fun(va,n,O,ds,H)=>[(0,va),(3,O)]) (fun(va,n,O,ds,H)=>[.us 5 .u8 O ds]) (fun(va,n,O,ds,H)=>H) (fun(va,n,O,ds,H)=>n) (v,X,.slice none 0 0,[],h0) ?_ e2z rfl rfl ?_
 ·
  refine⟨MLe.refl _,?_⟩;exact⟨hv,Nat.le_refl _,rfl⟩
 rintro⟨va,n,O,ds,H⟩ ⟨ah,⟨ha,an,aa⟩⟩
 refine yW ?_;have ba:(zB n).length≤(zB X).length:=yF an;refine gc8 (fun ac=>?_) fun ac=>?_
 ·
  refine go6 ?_;refine cL (vs:=[_,vU .u32 1000000000]) e2z call168 (fun w hs=>zCF hs ha oM oM oM) fun be h1 ao am=>?_;obtain⟨ai,rfl,D⟩:=am;rw[zD] at D ⊢;refine tG ?_;refine kE (ι:=Nat×Nat×Value×List Nat×Mem) (fun(i,x,I,C,J)=>MLe h1 J∧(i≤9∧x<10^(9-i)∧C++eU (x+10^(9-i)*(n/1000000000))=eU (X))) (fun(i,x,I,C,J)=>[(3,I),(4,ai),(5,vU .u32 x),(6,vI ↑i)]) (fun(i,x,I,C,J)=>[.us 5 .u8 I C]) (fun(i,x,I,C,J)=>J) (fun(i,x,I,C,J)=>9-i) (0,n%1000000000,O,ds,h1) ?_ e4z rfl rfl ?_
  ·
   refine⟨MLe.refl _,?_⟩;exact⟨by omega,by omega,by rw[←aa];congr 2;omega⟩
  rintro⟨i,x,I,C,J⟩ ⟨G,⟨hi,ae,M⟩⟩
  refine yW ?_;have bi:x<4294967296:=Nat.lt_of_lt_of_le ae (Nat.le_trans (Nat.pow_le_pow_right oM (show 9-i≤9 by omega)) dC);refine go5 ?_;refine gU 9 30 (vB (((i:Int)<9)∧(0<x∨(0:Int)<↑(zB (n/1000000000)).length))) ?_ ?_
  ·
   refine zS ((i:Int)<9) (fun Z=>?_) (fun Z=>?_)
   ·
    refine gT Z rfl (go3 ?_);refine gv (lM (k:=.u32) (q:=0) rfl rfl) rfl ?_;refine gU 5 29 (vB ((0<x)∨((0:Int)<↑(zB (n/1000000000)).length))) ?_ ?_
    ·
     refine zS (0<x) (fun Z=>?_) (fun Z=>?_)
     ·
      refine go1 ?_;refine gT Z rfl (go6 ?_);refine gqU ?_;exact congrArg some (wU Z)
     refine go1 ?_;refine gF Z rfl ?_;replace D:=D.mono G;refine go9 ?_;refine gqU ?_;exact congrArg some (wV Z)
    refine go2 ?_;refine gqU ?_;exact congrArg some (yU Z)
   refine gF Z rfl (go9 ?_);refine gqU ?_;exact congrArg some (yV Z)
  refine gc2 (fun ab=>?_) fun ab=>?_
  ·
   have bb:C.length≤(eU (X)).length:=by rw[←M];simp
   refine go8 ?_;refine gv (pY (k:=.u32) (q:=10) rfl rfl oM) rfl (gv (tB (k:=.u32) (p:=48) (W:=4294967296) rfl rfl rfl rfl oM) rfl (gv (wN (k:=.u32) (k':=.u8) (W:=256) underlying124 underlying5 rfl rfl rfl oM) rfl (zI (rA (kd:=.u8) underlying215 zM3 rfl rfl rfl) rfl rfl rfl ?_)));intro bd bg ak;obtain rfl:=ak;refine yL (by intro z hz;simp only[List.mem_singleton] at hz;subst hz;simp only[ub];omega) ?_;intro h2 ay az;refine xK (A:=[]) (kQ (kd:=.u8) (bytes:=1) underlying215 zM3 rfl rfl rfl rfl rfl az (by simp only[List.length_singleton];omega) (by simp only[List.length_singleton];omega)) rfl rfl rfl ?_;intro av bf aj;obtain rfl:=aj;refine go5 ?_;refine gv (cA (k:=.u32) (q:=10) (W:=4294967296) rfl rfl rfl rfl oM oM) rfl (go9 ?_);refine qS (i+1,x/10,av,C++[48+x%10],h2) ?_ ?_ e4z rfl rfl
   ·
    refine⟨(G.trans ay),?_⟩;obtain⟨h9,hor⟩:=ab;obtain⟨k,hk⟩:∃k,9-i=k+1:=⟨8-i,by omega⟩;have bk:=yK (n:=n/1000000000);refine⟨by omega,?_,?_⟩
    · rw[show 9-(i+1)=k by omega]
      rw[hk,Nat.pow_succ] at ae;omega
    · rw[show 9-(i+1)=k by omega]
      rw[hk,zPU oM] at M;rw[List.append_assoc];exact M
   dsimp only;omega
  refine uA ?_;refine qS (ai,n/1000000000,I,C,J) ?_ ?_ e2z rfl rfl
  ·
   refine⟨((ah.trans ao).trans G),?_⟩;replace D:=D.mono G;refine⟨D,by omega,?_⟩;rw[←M]
   congr 2
   by_cases h9:i=9
   · subst h9;simp at ae ⊢;omega
   · have h1:¬(0<x∨(0:Int)<↑(zB (n/1000000000)).length):=fun h=>ab ⟨by omega,h⟩
     have h2:n/1000000000=0:=Classical.byContradiction fun U=>h1 (.inr (by have:=yK.2 U;omega));rw[h2,show x=0 by omega,Nat.mul_zero]
  dsimp only;have:=yK (n:=n);omega
 have aw:n=0:=Classical.byContradiction fun U=>ac (by have:=yK.2 U;omega);subst aw;rw[zFP,List.append_nil] at aa;have bc:ds.length≤10*(zB X).length:=by rw[aa];exact aq
 refine go8 ?_;refine gv (sV (A:=[]) underlying215 rfl) rfl (qC (kd:=.u8) (by':=1) (ds.length) underlying215 zM3 rfl rfl rfl rfl rfl oM oM oM oM rfl ?_);intro ad;refine uA ?_;refine kE (ι:=Nat) (fun(k:(Nat))=>k≤ds.length) (fun(k:(Nat))=>[(3,O),(7,ad),(8,vI ↑k)]) (fun(k:(Nat))=>[.us 5 .u8 ad (kV (ds.length-k) (ds.take k).reverse),.us 5 .u8 O ds]) (fun(k:(Nat))=>H) (fun(k:(Nat))=>ds.length-k) 0 ?_ e3z ?_ rfl ?_
 · exact Nat.zero_le _
 ·
  try dsimp only[List.nil_append,List.cons_append]
  exact congrArg (fun z=>[Res.us 5 .u8 ad z,Res.us 5 .u8 O ds]) (aA _)
 rintro k hk
 refine yW ?_;refine go5 ?_;refine gv (sV (A:=[_]) underlying215 rfl) rfl (gc3 (fun ar=>?_) fun ar=>?_)
 ·
  refine go7 ?_;refine gv (sV (A:=[_]) underlying215 rfl) rfl (go5 ?_);refine gv (yR (A:=[_]) (k) underlying215 sizeOf5 rfl rfl oM oM) rfl (gv (gN (A:=[_]) isAgg5 rfl oM) rfl (gv (yR (A:=[]) (ds.length-k-1) underlying215 sizeOf5 rfl rfl oM (by rw[qG,List.length_reverse,List.length_take];omega)) rfl (wC sizeOf5 rfl rfl (by rw[qG,List.length_reverse,List.length_take];omega) (go8 ?_))));refine qS (k+1) ?_ ?_ e3z ?_ rfl
  · omega
  · omega
  try dsimp only[List.nil_append,List.cons_append]
  rw[bZ oM,oY ds k oM,List.reverse_append,List.reverse_singleton,List.singleton_append,Nat.sub_sub]
 refine go8 ?_;have ax:k=ds.length:=by omega
 rw[ax,Nat.sub_self,cG,List.take_length];refine yL (by intro z hz;rw[aa] at hz;exact zNP _ z (List.mem_reverse.1 hz)) ?_;intro h1 ao ap;refine gv (zGE underlying215 underlying5 underlying9 rfl ap) rfl (go4 ?_);refine zC rfl rfl ?_;have e:X≠0:=yK.1 oM;rw[txt,if_neg e,←aa]
end Go.Proofs.YtpkaegemlpaenaaGreat
namespace Go.Proofs.YtpkaegemlpaenaaGreat
open Bk Go Tryz
set_option linter.unusedVariables false
set_option linter.unusedSimpArgs false
set_option maxRecDepth 10000
set_option maxHeartbeats 1000000
attribute [local irreducible] GL GC GQ W OpV
theorem zQ5{w0:World}{h0:Mem}(hs:MLe h0 (mem w0)){v:Value}{X n:Nat}(hv:Us .u32 h0 v (zB X))(hn:n≤16384)(hl:(zB X).length≤1099511627776):
 Calls Tryz.prog 170 #[v,vI ↑n] w0 (Ret w0 h0 (fun h r=>Us .u32 h r (zB (X*2^n)))):=by
 obtain⟨s,az⟩:∃s,s=n%32:=⟨_,rfl⟩;have hp:2^s≤2147483648:=Nat.pow_le_pow_right (n:=2) oM (show s≤31 by omega);have aj:0<2^s:=Nat.pow_pos oM;refine cb2 40 v (vI ↑n) func170 hs ?_;refine go8 ?_;refine gv (zCK (q:=32) rfl rfl oM oM oM) rfl (qC (kd:=.u32) (by':=4) (n/32) underlying27 vW rfl rfl rfl rfl rfl oM oM oM oM rfl ?_);intro ai;refine go5 ?_;refine asg (v:=vU .u64 0) rfl rfl (go9 ?_);refine kE (ι:=Value×List Nat×Nat×Mem) (fun(I,C,c,J)=>MLe h0 J∧(C.length≤(zB X).length∧Fit C∧c<2^s∧val C+4294967296^C.length*c=val ((zB X).take C.length)*2^s)) (fun(I,C,c,J)=>[(0,v),(1,vI ↑n),(5,I),(6,vU .u64 c),(7,vI ↑C.length)]) (fun(I,C,c,J)=>[.us 124 .u32 I (List.replicate (n/32) 0++C)]) (fun(I,C,c,J)=>J) (fun(I,C,c,J)=>(zB X).length-C.length) (ai,[],0,h0) ?_ e5 ?_ rfl ?_
 ·
  refine⟨MLe.refl _,?_⟩;exact⟨by simp,fun x hx=>by simp at hx,aj,by simp[val]⟩
 ·
  try dsimp only[List.nil_append,List.cons_append]
  rw[List.append_nil]
 rintro⟨I,C,c,J⟩ ⟨H,⟨ay,ac,hc,D⟩⟩
 refine yW ?_;replace hv:=hv.mono H;refine gc9 (fun ae=>?_) fun ae=>?_
 ·
  refine go9 ?_;refine gv (zO (C.length) underlying27 sizeOf124 rfl rfl hv oM oM) rfl (go1 ?_);have ax:=hv.get32 C.length;have aw:(zB X).getD C.length 0*2^s<18446744073709551616-4294967296:=by
   have:=Nat.mul_le_mul (show(zB X).getD C.length 0≤4294967295 by omega) hp;omega
  refine go2 ?_;refine gv (wJ (q:=32) rfl rfl oM oM) rfl ?_;rw[show(↑n:Int)%32=↑s by omega];refine gv (gD (k:=.u64) (s:=s) (yk:=.i64) (W:=18446744073709551616) rfl rfl rfl rfl) rfl ?_;rw[Nat.mod_eq_of_lt oM];refine gv (sO (k:=.u64) rfl rfl rfl (by simp only[ub];omega) (by simp only[ub];omega)) rfl ?_;rw[zKR hc];refine go8 ?_;refine zI (rA (kd:=.u32) underlying27 vW rfl rfl rfl) rfl rfl rfl ?_;intro ap av aa;obtain rfl:=aa;refine yL (by intro z M;simp only[List.mem_singleton] at M;subst M;simp only[ub];omega) ?_;intro h1 ab ak;refine xK (A:=[]) (kQ (kd:=.u32) (bytes:=4) underlying27 vW rfl rfl rfl rfl rfl ak (by simp only[List.length_singleton,lAz,lR];omega) (by simp only[List.length_singleton,lAz,lR];omega)) rfl rfl rfl ?_;intro ah au Z;obtain rfl:=Z;refine rV ?_;refine qS (ah,C++[((zB X).getD C.length 0*2^s+c)%4294967296],((zB X).getD C.length 0*2^s+c)/2^32,h1) ?_ ?_ ⟨rfl,rfl,rfl,rfl,?_,trivial⟩ ?_ rfl
  ·
   refine⟨(H.trans ab),?_⟩;refine⟨by simp;omega,vX ac (cS oM),?_,?_⟩
   · refine Nat.div_lt_of_lt_mul ?_
     have:=Nat.mul_le_mul_right (2^s) (show(zB X).getD C.length 0+1≤2^32 by omega);rw[Nat.add_mul] at this;omega
   · have e:=Nat.div_add_mod ((zB X).getD C.length 0*2^s+c) 4294967296
     have e2:(2:Nat)^32=4294967296:=rfl;rw[lAz,List.length_singleton,vY (zB X) _ oM,tY,Nat.pow_succ,e2];generalize ((zB X).getD C.length 0*2^s+c)/4294967296=q at *;generalize ((zB X).getD C.length 0*2^s+c)%4294967296=r at *;grind
  ·
   dsimp only;simp;omega
  · exact congrArg some (congrArg vI (by simp))
  try dsimp only[List.nil_append,List.cons_append]
  rw[List.append_assoc]
 refine uA ?_;refine zI (rA (kd:=.u32) underlying27 vW rfl rfl rfl) rfl rfl rfl ?_;intro ao ar U;obtain rfl:=U;refine yL (by intro z M;simp only[List.mem_singleton] at M;subst M;simp only[ub];omega) ?_;intro h1 ab ad;refine xK (A:=[]) (kQ (kd:=.u32) (bytes:=4) underlying27 vW rfl rfl rfl rfl rfl ad (by simp only[List.length_singleton,lAz,lR];omega) (by simp only[List.length_singleton,lAz,lR];omega)) rfl rfl rfl ?_;intro an aq O;obtain rfl:=O;refine yL (by exact vX (vX (jA _) ac) (cS oM)) ?_;intro h2 bb ho;refine cL (ev1 rfl) call92 (fun w hs=>fI hs ho (by simp;omega)) fun am h3 ba G=>(go4 ?_);refine zC rfl rfl ?_;have hk:C.length=(zB X).length:=by omega
 rw[xQ oM,zD] at D;rw[Nat.mod_eq_of_lt oM,List.append_assoc,bF,pP,lR,tY,D,zED,Nat.zero_add,show 32*(n/32)+s=n by omega] at G;exact G
theorem zQ6{w0:World}{h0:Mem}(hs:MLe h0 (mem w0)){v:Value}{X n:Nat}(hv:Us .u32 h0 v (zB X))(hn:n<9223372036854775808)(hl:(zB X).length≤1099511627776):
 Calls Tryz.prog 173 #[v,vI ↑n] w0 (Ret w0 h0 (fun h r=>Us .u32 h r (zB (X/2^n)))):=by
 obtain⟨s,ae⟩:∃s,s=n%32:=⟨_,rfl⟩;refine cb2 55 v (vI ↑n) func173 hs ?_;refine go9 ?_;refine gv (zCK (q:=32) rfl rfl oM oM oM) rfl (gc5 (fun U=>?_) fun U=>?_)
 ·
  refine go7 ?_;refine zC rfl rfl ?_;rw[show X/2^n=0 from zG4 oM,yZ];exact Us.nil _ _
 refine go6 ?_;refine gv (zCK (q:=32) rfl rfl oM oM oM) rfl ?_;rw[show(↑n:Int)/32=↑(n/32) by omega];refine gv (qH (n/32) underlying27 sizeOf124 rfl rfl hv.shape oM oM) rfl ?_;have D:=hv.sub (lo:=n/32) (hi:=(zB X).length) oM oM;rw[List.take_of_length_le (by rw[List.length_drop];omega)] at D;have am:(List.drop (n/32) (zB X)).length=(zB X).length-n/32:=List.length_drop;refine go1 ?_;have J:Fit (List.drop (n/32) (zB X)):=oS (xT _) _;have Z:=jN (xT X) (n/32);rw[zD] at Z;obtain⟨vR,aa⟩:∃z,z=gL 1 v (n/32) (zB X).length:=⟨_,rfl⟩;rw[←aa] at D ⊢;generalize List.drop (n/32) (zB X)=Rs at *;refine go6 ?_;refine qC (kd:=.u32) (by':=4) (Rs.length) underlying27 vW rfl rfl rfl rfl rfl oM oM oM oM rfl ?_;intro G;refine uA ?_;refine gcL (ι:=List Nat) (fun(C:(List Nat))=>(C.length≤Rs.length∧C=(List.range C.length).map (oA s Rs),[(0,vR),(1,vI ↑n),(5,G),(6,vI ↑C.length)],[.us 124 .u32 G (fU C Rs.length)],h0,Rs.length-C.length)) [] ?_ ?_
 · exact⟨by simp,rfl⟩
 rintro C ⟨ad,I⟩
 refine yW ?_;refine gc9 (fun O=>?_) fun O=>?_
 ·
  refine go8 ?_;refine gv (zO (C.length) underlying27 sizeOf124 rfl rfl D oM oM) rfl (go1 ?_);have ak:=qB J C.length;have aj:=qB J (C.length+1);refine go4 ?_;refine qN (ι:=Unit) (fun(_u:(Unit))=>True) (fun(_u:(Unit))=>[(0,vR),(1,vI ↑n),(5,G),(6,vI ↑C.length),(7,vU .u64 (Rs.getD C.length 0+4294967296*Rs.getD (C.length+1) 0))]) (fun(_u:(Unit))=>[.us 124 .u32 G (fU C Rs.length)]) (fun(_u:(Unit))=>h0) ?_ ?_
  ·
   refine gc9 (fun M=>?_) fun M=>?_
   ·
    refine go5 ?_;refine gv (zO (C.length+1) underlying27 sizeOf124 rfl rfl D oM oM) rfl (go2 ?_);refine gv (gD (k:=.u64) (s:=32) (yk:=.u64) (W:=18446744073709551616) rfl rfl rfl rfl) rfl (gv (sO (k:=.u64) rfl rfl rfl (by simp only[ub];omega) (by simp only[ub];omega)) rfl ?_);rw[Nat.or_comm,rT oM oM];refine go2 ?_;refine zQ (()) ?_ ⟨rfl,rfl,rfl,rfl,?_,trivial⟩ rfl rfl
    · trivial
    · exact congrArg some (congrArg (vU .u64) oM)
   refine go1 ?_;refine zQ (()) ?_ ⟨rfl,rfl,rfl,rfl,?_,trivial⟩ rfl rfl
   · trivial
   · exact congrArg some (congrArg (vU .u64) (by rw[tI (xs:=Rs) (i:=C.length+1) oM];omega))
  rintro _u ab
  refine yW ?_;refine go5 ?_;refine gv (wJ (q:=32) rfl rfl oM oM) rfl ?_;rw[show(↑n:Int)%32=↑s by omega];refine gv (gC (k:=.u64) (s:=s) (yk:=.i64) rfl rfl rfl (by simp only[ub];omega)) rfl (go1 ?_);rw[zQO oM oM];refine gv (yR (A:=[]) (C.length) underlying27 sizeOf124 rfl rfl oM (by rw[vN oM];omega)) rfl (wC sizeOf124 rfl rfl (by rw[vN oM];omega) (go8 ?_));refine gqL (C++[oA s Rs C.length]) ?_ ?_ (he:=⟨rfl,rfl,rfl,?_,trivial⟩) (hL:=?_)
  ·
   refine⟨by simp;omega,?_⟩;rw[lAz,List.length_singleton,List.range_succ,List.map_append,List.map_singleton,←I]
  · simp;omega
  · exact congrArg some (congrArg vI (by simp))
  try dsimp only[List.nil_append,List.cons_append]
  rw[rD oM]
 refine go8 ?_;have hk:C.length=Rs.length:=by omega
 rw[cF hk];refine yL (by rw[I];intro z hz;obtain⟨w,_,rfl⟩:=List.mem_map.1 hz;exact zMI s Rs w) ?_;intro h1 ai ho;refine cL (ev1 rfl) call92 (fun w hs=>fI hs ho oM) fun ac h2 ah H=>(go4 ?_);refine zC rfl rfl ?_;rw[I,hk,zN5 J,Z,zEI,show 32*(n/32)+s=n by omega] at H;exact H
end Go.Proofs.YtpkaegemlpaenaaGreat
namespace Go.Proofs.YtpkaegemlpaenaaGreat
open Bk Go Tryz
set_option linter.unusedVariables false
set_option linter.unusedSimpArgs false
set_option maxRecDepth 10000
set_option maxHeartbeats 1000000
attribute [local irreducible] GL GC GQ W OpV
theorem eH{w0:World}{h0:Mem}(hs:MLe h0 (mem w0)){v:Value}{X:Nat}(hv:Us .u32 h0 v (zB X)):
 Calls Tryz.prog 167 #[v] w0 (Ret w0 h0 (fun _ r=>r=.tuple #[vU .u64 (if(zB X).length≤2 then X else 0),vB ((zB X).length≤2)])):=by
 have M:=hv.get32 0;have J:=hv.get32 1;have O:=zD X;have I:=hv.lt63;refine cb1 26 v func167 hs ?_;refine go2 ?_;refine asg (v:=vU .u64 0) rfl rfl (mW ?_);refine cnd (fun H=>?_) fun H=>?_
 ·
  refine go2 ?_;refine asg (v:=vU .u64 0) rfl rfl (go6 ?_);refine xY rfl rfl rfl ?_;have h0:X=0:=Classical.byContradiction fun D=>by have:=yK.2 D;omega
  rw[xE oM,if_pos oM,h0]
 refine gc6 (fun G=>?_) fun G=>?_
 ·
  have C:=dD (xs:=zB X) oM;refine go3 ?_;refine gv (zO (q:=0) (0) underlying27 sizeOf124 rfl rfl hv rfl oM) rfl (go9 ?_);refine xY rfl rfl rfl ?_;rw[xE oM,if_pos oM,←C,zD]
 refine gc6 (fun z=>?_) fun z=>?_
 ·
  refine go1 ?_;refine zL 12 _ [] [(0,.q),(1,.q),(2,.q),(3,.q),(4,.q),(5,.q),(6,.q),(7,.q),(8,.q),(9,.q),(10,.q),(11,.q)] yA nX (by kernel_rfl) nX (fun r U=>U) (go1 ?_);refine w_q rfl (fun h' L' hh hR=>zO (q:=0) (0) underlying27 sizeOf124 rfl rfl (hv.mono hh) rfl oM) rfl (w_q rfl (fun h' L' hh hR=>xO isAgg124 rfl (hv.mono hh) oM) rfl (go2 ?_));refine w_q rfl (fun h' L' hh hR=>zO (q:=1) (1) underlying27 sizeOf124 rfl rfl (hv.mono hh) rfl oM) rfl (w_q rfl (fun h' L' hh hR=>xO isAgg124 rfl (hv.mono hh) oM) rfl (go1 ?_));refine xN rfl (fun _ _=>gD (k:=.u64) (s:=32) (yk:=.u64) (W:=18446744073709551616) rfl rfl rfl rfl) rfl (xN rfl (fun _ _=>sO (k:=.u64) rfl rfl rfl (by simp only[ub];omega) (by simp only[ub];omega)) rfl ?_);rw[Nat.or_comm,rT oM oM];refine go7 ?_;refine xY rfl rfl rfl ?_;have h1:=vM (zB X) 1;have h2:=vM (zB X) 0;rw[xQ oM,zD] at h1;rw[List.take_zero] at h2;simp only[val,Nat.zero_add] at h2;rw[xE oM,if_pos oM];have e:(zB X).getD 1 0*4294967296+(zB X).getD 0 0=X:=by omega
  rw[e]
 refine go5 ?_;refine asg (v:=vU .u64 0) rfl rfl (go4 ?_);refine xY rfl rfl rfl ?_;rw[yJ oM,if_neg oM]
theorem zAZ{w0:World}{h0:Mem}(hs:MLe h0 (mem w0)){v:Value}{X k:Nat}(hv:Us .u32 h0 v (zB X))(hk:k≤4398046511104)(hl:(zB X).length≤4398046511104):
 Calls Tryz.prog 171 #[v,vI ↑k] w0 (Ret w0 h0 (fun h r=>Us .u32 h r (zB (X*4294967296^k)))):=by
 refine cb2 12 v (vI ↑k) func171 hs ?_;refine rM ?_;refine cnd (fun D=>?_) fun D=>?_
 ·
  have h0:X=0:=Classical.byContradiction fun C=>by have:=yK.2 C;omega
  refine go7 ?_;refine zC rfl rfl ?_;rw[h0,Nat.zero_mul,yZ];exact Us.nil _ _
 have h0:X≠0:=yK.1 oM;refine go5 ?_;refine qC (kd:=.u32) (by':=4) (k) underlying27 vW rfl rfl rfl rfl rfl oM oM oM oM rfl ?_;intro M;refine go1 ?_;refine xK (A:=[]) (kQ (kd:=.u32) (bytes:=4) underlying27 vW rfl rfl rfl rfl rfl hv (by rw[lR];omega) (by rw[lR];omega)) rfl rfl rfl ?_;intro G H z;obtain rfl:=z;refine yL (by exact vX (jA _) (xT _)) ?_;intro h1 J I;refine go4 ?_;refine zC rfl rfl ?_;rw[←zI1 h0];exact I
set_option maxHeartbeats 1000000 in
theorem zF6{w0:World}{h0:Mem}(hs:MLe h0 (mem w0)){v v':Value}{X Y:Nat}(hv:Us .u32 h0 v (zB X))(hv':Us .u32 h0 v' (zB Y))(hl:(zB X).length≤549755813888)(hl':(zB Y).length≤549755813888):
 Calls Tryz.prog 127 #[v,v'] w0 (Ret w0 h0 (fun h z=>∃q r,z=.tuple #[q,r,vI (if Y=0 then 3 else 0)]∧Us .u32 h q (zB (X/Y))∧Us .u32 h r (zB (if Y=0 then 0 else X%Y)))):=by
 refine cb2 163 v v' func127 hs ?_;refine qA ?_;refine gv (wM underlying27 rfl hv') rfl (gc3 (fun cj=>?_) fun cj=>?_)
 ·
  have cp:Y=0:=Classical.byContradiction fun cy=>by have:=yK.2 cy;omega
  refine go9 ?_;refine uY rfl rfl rfl rfl ?_;rw[cp,Nat.div_zero,if_pos rfl,if_pos rfl,yZ];exact⟨_,_,rfl,Us.nil _ _,Us.nil _ _⟩
 have C:Y≠0:=yK.1 oM;refine go7 ?_;refine cL (ev2 rfl rfl) call49 (fun w hs=>nO hs hv hv') fun eg h1 aw bw=>?_;subst bw;refine gc3 (fun ap=>?_) fun ap=>?_
 ·
  have M:=sL.1 ap;refine go3 ?_;replace hv:=hv.mono aw;refine cL (ev1 rfl) call92 (fun w hs=>fI hs hv oM) fun ef h2 an ba=>?_;rw[zD] at ba;refine go7 ?_;refine uY rfl rfl rfl rfl ?_;rw[Nat.div_eq_of_lt M,Nat.mod_eq_of_lt M,if_neg C,if_neg C,yZ];exact⟨_,_,rfl,Us.nil _ _,ba⟩
 have cb:Y≤X:=Nat.le_of_not_lt fun hc=>ap (sL.2 hc);have ep:=yF cb;refine go6 ?_;replace hv:=hv.mono aw;refine cL (ev1 rfl) call167 (fun w hs=>eH hs hv) fun ee h2 an bv=>?_;subst bv;refine zG1 (fun ao=>?_) fun ao=>?_
 ·
  have hw:=aL ao;have ei:=aL (n:=Y) oM;refine go3 ?_;replace hv':=hv'.mono (aw.trans an);refine cL (ev1 rfl) call167 (fun w hs=>eH hs hv') fun ed h3 av bu=>?_;subst bu;refine go2 ?_;rw[if_pos ao,if_pos (show(zB Y).length≤2 by omega)];refine go6 ?_;refine zL 11 _ [] [(0,.q),(1,.q),(2,.q),(4,.q),(5,.q),(6,.q),(3,.c),(7,.c),(8,.q),(9,.q),(10,.q)] yA nX (by kernel_rfl) nX (fun r hr=>hr) (go2 ?_);refine xN rfl (fun _ _=>cA (k:=.u64) (W:=18446744073709551616) rfl rfl rfl rfl oM oM) rfl (go2 ?_);refine xN rfl (fun _ _=>pY (k:=.u64) rfl rfl oM) rfl ?_;refine w_c rfl ?_;have dt:=Nat.div_le_self X Y;have bp:=Nat.mod_lt X (Nat.pos_of_ne_zero C);refine sC (ev1 rfl) call96 (fun w hs=>iM hs oM) fun ec h4 au ae=>?_;refine w_c rfl (sC (ev1 rfl) call96 (fun w hs=>iM hs oM) fun eb h5 bi bt=>(go2 ?_));refine zHE (v:=vI (0)) rfl rfl rfl (go4 ?_);refine uY rfl rfl rfl rfl ?_;replace ae:=ae.mono bi;rw[if_neg C,if_neg C];exact⟨_,_,rfl,ae,bt⟩
 refine go6 ?_;replace hv':=hv'.mono (aw.trans an);refine gv (wM underlying27 rfl hv') rfl (gc3 (fun ci=>?_) fun ci=>?_)
 ·
  have bb:(zB Y).length=1:=by omega
  have dc:(zB Y).getD 0 0≠0:=by have:=tP (n:=Y) oM;rwa [bb] at this
  have bn:=dD bb;rw[zD] at bn;refine go4 ?_;refine gv (zO (q:=0) (0) underlying27 sizeOf124 rfl rfl hv' rfl oM) rfl (gv (xO isAgg124 rfl hv' oM) rfl ?_);have es:=hv'.get32 0;replace hv:=hv.mono an;refine cL (ev2 rfl rfl) call168 (fun w hs=>zCF hs hv oM oM oM) fun ea h3 av bs=>?_;obtain⟨eh,rfl,I⟩:=bs;rw[zD] at I ⊢;have bp:=Nat.mod_lt X (Nat.pos_of_ne_zero dc);refine uQ ?_;refine cL (ev1 rfl) call96 (fun w hs=>iM hs oM) fun dz h4 au az=>(go7 ?_);refine uY rfl rfl rfl rfl ?_;replace I:=I.mono au;rw[←bn] at I az;rw[if_neg C,if_neg C];exact⟨_,_,rfl,I,az⟩
 have bz:2≤(zB Y).length:=by omega
 refine go6 ?_;refine gv (wM underlying27 rfl hv') rfl (go1 ?_);refine gv (qH ((zB Y).length-1) underlying27 sizeOf124 rfl rfl hv'.shape oM oM) rfl ?_;have ad:=hv'.sub (lo:=(zB Y).length-1) (hi:=(zB Y).length) oM oM;rw[List.take_of_length_le (by rw[List.length_drop];omega),zLI oM] at ad;have hgt:=hv'.get32 ((zB Y).length-1);have ej:=kC (n:=(zB Y).getD ((zB Y).length-1) 0) oM;have dx:=nH (n:=(zB Y).getD ((zB Y).length-1) 0) (k:=32) hgt;refine cL (ev1 rfl) call169 (fun w hs=>zQ7 hs ad oM) fun dy h3 av br=>?_;subst br;refine gv (qE (p:=32) rfl rfl oM oM) rfl ?_;obtain⟨s,cw⟩:∃s,s=32-vQ ((zB Y).getD ((zB Y).length-1) 0):=⟨_,rfl⟩;rw[show(32:Int)-↑(vQ ((zB Y).getD ((zB Y).length-1) 0))=↑s by omega];obtain⟨bo,ac,cu⟩:=zCZ (k:=(zB Y).length-1) C oM cw;refine go7 ?_;replace hv':=hv'.mono av;refine cL (ev2 rfl rfl) call170 (fun w hs=>zQ5 hs hv' oM oM) fun aq h4 au D=>(go2 ?_);replace hv:=hv.mono ((an.trans av).trans au);refine cL (ev2 rfl rfl) call170 (fun w hs=>zQ5 hs hv oM oM) fun cn h5 bi ay=>(go2 ?_);replace D:=D.mono bi;replace ac:(zB (Y*2^s)).length=(zB Y).length:=by omega
 have ck:=tV (n:=Y*2^s) (k:=(zB Y).length-1) oM;generalize em:(zB Y).length=n at *;obtain⟨V,hV⟩:∃V,V=Y*2^s:=⟨_,rfl⟩;obtain⟨U,hU⟩:∃U,U=X*2^s:=⟨_,rfl⟩;rw[←hV] at D ac cu ck;rw[←hU] at ay;have cm:=zMD bz ac;rw[zD] at cm;have ct:=jW (gK (xT V) (n-2));rw[List.length_take,Nat.min_eq_left oM] at ct;have ew:(zB U).length≤(zB X).length+1:=by rw[hU];exact Nat.le_trans (yH X (2^s)) (Nat.add_le_add_left (uO (k:=1) (by rw[Nat.pow_one];exact Nat.lt_of_lt_of_le (Nat.pow_lt_pow_right dC bo) dC)) _)
 have df:V≤U:=by rw[hV,hU];exact Nat.mul_le_mul_right _ cb
 have bx:=yF df;rw[ac] at bx;have cv:=zKC (uD U) ck oM bx;generalize bq:(zB U).length=r at *;have dr:=qB (xT V) (n-1);refine go6 ?_;rw[ac];refine go7 ?_;rw[bq];refine go3 ?_;refine qC (kd:=.u32) (by':=4) (r-n+1) underlying27 vW rfl rfl rfl rfl rfl oM oM oM oM rfl ?_;intro G;refine go8 ?_;rw[bq];refine go6 ?_;refine kE (ι:=Nat×Value×Nat×List Nat×Mem) (fun(K,vr,R,Z,k1)=>MLe h5 k1∧(Us .u32 k1 vr (zB R)∧K≤r-n+1∧Z.length=r-n+1-K∧Fit Z∧R+4294967296^K*(val Z*V)=U∧R<4294967296^K*V∧(zB R).length≤r)) (fun(K,vr,R,Z,k1)=>[(1,aq),(4,G),(5,vr),(13,vI ↑s),(14,vI ↑n),(15,vI (↑K-1))]) (fun(K,vr,R,Z,k1)=>[.us 124 .u32 G (kV K Z)]) (fun(K,vr,R,Z,k1)=>k1) (fun(K,vr,R,Z,k1)=>K) (r-n+1,cn,U,[],h5) ?_ ⟨?_,?_,?_,?_,?_,?_,trivial⟩ ?_ rfl ?_
 ·
  refine⟨MLe.refl _,?_⟩;exact⟨ay,Nat.le_refl _,by simp,fun x hx=>by simp at hx,by simp[val],cv,by omega⟩
 · exact rfl
 · exact rfl
 · exact rfl
 · exact rfl
 · exact rfl
 · exact congrArg some (congrArg vI oM)
 ·
  try dsimp only[List.nil_append,List.cons_append]
  exact congrArg (fun z=>[Res.us 124 .u32 G z]) (aA _)
 rintro⟨K,vr,R,Z,k1⟩ ⟨bc,⟨hR,hK,el,cc,aa,M,ey⟩⟩
 refine yW ?_;refine gc7 (fun ch=>?_) fun ch=>?_
 ·
  refine go6 ?_;refine asg (v:=vU .u64 0) rfl rfl (go2 ?_);have ev:=qB (xT R) (K-1+n);have eu:=qB (xT R) (K-1+n-1);have dd:=qB (xT R) (K-1+n-2);refine qN (ι:=Unit) (fun(_u:(Unit))=>True) (fun(_u:(Unit))=>[(1,aq),(4,G),(5,vr),(13,vI ↑s),(14,vI ↑n),(15,vI (↑K-1)),(16,vU .u64 ((zB R).getD (K-1+n) 0))]) (fun(_u:(Unit))=>[.us 124 .u32 G (kV K Z)]) (fun(_u:(Unit))=>k1) ?_ ?_
  ·
   refine zBF (fun cg=>?_) fun cg=>?_
   ·
    refine go5 ?_;refine gv (zO (K-1+n) underlying27 sizeOf124 rfl rfl hR oM oM) rfl (go4 ?_);refine zQ (()) ?_ e7 rfl rfl
    trivial
   refine go1 ?_;refine zQ (()) ?_ ⟨rfl,rfl,rfl,rfl,rfl,rfl,?_,trivial⟩ rfl rfl
   · trivial
   · exact congrArg some (congrArg (vU .u64) (by rw[tI (xs:=zB R) oM]))
  rintro _u cf
  refine yW ?_;refine qN (ι:=Unit) (fun(_u:(Unit))=>True) (fun(_u:(Unit))=>[(1,aq),(4,G),(5,vr),(13,vI ↑s),(14,vI ↑n),(15,vI (↑K-1)),(16,vU .u64 ((zB R).getD (K-1+n) 0*4294967296+(zB R).getD (K-1+n-1) 0))]) (fun(_u:(Unit))=>[.us 124 .u32 G (kV K Z)]) (fun(_u:(Unit))=>k1) ?_ ?_
  ·
   refine zAK (fun bj=>?_) fun bj=>?_
   ·
    refine go2 ?_;refine gv (gD (k:=.u64) (s:=32) (yk:=.u64) (W:=18446744073709551616) rfl rfl rfl rfl) rfl (go5 ?_);refine gv (zO (K-1+n-1) underlying27 sizeOf124 rfl rfl hR oM oM) rfl (go2 ?_);refine gv (sO (k:=.u64) rfl rfl rfl (by simp only[ub];omega) (by simp only[ub];omega)) rfl ?_;rw[rT oM oM];refine go2 ?_;refine zQ (()) ?_ e7 rfl rfl
    trivial
   refine go2 ?_;refine gv (gD (k:=.u64) (s:=32) (yk:=.u64) (W:=18446744073709551616) rfl rfl rfl rfl) rfl (go2 ?_);refine zQ (()) ?_ ⟨rfl,rfl,rfl,rfl,rfl,rfl,?_,trivial⟩ rfl rfl
   · trivial
   · exact congrArg some (congrArg (vU .u64) (by rw[tI (xs:=zB R) (i:=K-1+n-1) oM];omega))
  rintro _u cf
  refine yW ?_;have de:V<4294967296^n:=by rw[←ac];exact uD V
  have dh:R<4294967296^(K+n):=Nat.lt_of_lt_of_le M (by rw[Nat.pow_add];exact Nat.mul_le_mul_left _ (Nat.le_of_lt de));have co:∀i,K+n≤i→(zB R).getD i 0=0:=fun i hi=>mQ (by rw[zD];exact dh) hi;obtain⟨wr,hW,cq⟩:=zEO (j:=K-1) bz (fun i hi=>co i oM) (xT R);rw[jN (xT R),zD] at hW;have cl:=zQ8 (R:=R) (V:=V) (k:=K-1) (by rw[Nat.sub_add_cancel oM];exact M);obtain⟨top,ax⟩:∃t,t=(zB R).getD (K-1+n) 0*4294967296+(zB R).getD (K-1+n-1) 0:=⟨_,rfl⟩;rw[←ax];rw[←ax] at hW;have ek:top<18446744073709551616:=by omega
  have cd:=zPB (by rw[hW] at cl ⊢;exact zQ9 cm rfl dd cq oM cl);have dq:0<(zB V).getD (n-1) 0:=by omega
  refine go6 ?_;replace D:=D.mono bc;refine gv (zO (n-1) underlying27 sizeOf124 rfl rfl D oM oM) rfl (go2 ?_);refine gv (cA (k:=.u64) (W:=18446744073709551616) rfl rfl rfl rfl oM oM) rfl (gv (zRO (k:=.u64) (q:=4294967295) rfl rfl) rfl ?_);rw[Nat.min_def];rw[←Nat.min_def];refine go7 ?_;refine gv (wN (k:=.u64) (k':=.u32) (W:=4294967296) underlying125 underlying124 rfl rfl rfl oM) rfl (cL (ev2 rfl rfl) call172 (fun w hs=>zOE hs D oM oM) fun dp h6 am bh=>?_);have eo:=yH V (min (top/(zB V).getD (n-1) 0) 4294967295);have eq:=kC (n:=min (top/(zB V).getD (n-1) 0) 4294967295) oM;refine go1 ?_;rw[show(↑K:Int)-1=↑(K-1) by omega];refine cL (ev2 rfl rfl) call171 (fun w hs=>zAZ hs bh oM oM) fun bm h7 ak bg=>(go5 ?_);refine kE (ι:=Value×Nat×Mem) (fun(vp,d,k2)=>MLe h7 k2∧(Us .u32 k2 vp (zB (V*d*4294967296^(K-1)))∧d≤4294967295∧R<V*(d+1)*4294967296^(K-1))) (fun(vp,d,k2)=>[(1,aq),(4,G),(5,vr),(13,vI ↑s),(14,vI ↑n),(15,vI ↑(K-1)),(17,vU .u64 d),(18,vp)]) (fun(vp,d,k2)=>[.us 124 .u32 G (kV K Z)]) (fun(vp,d,k2)=>k2) (fun(vp,d,k2)=>d) (bm,min (top/(zB V).getD (n-1) 0) 4294967295,h7) ?_ e8 rfl rfl ?_
  ·
   refine⟨MLe.refl _,?_⟩;exact⟨bg,Nat.min_le_right _ _,cd⟩
  rintro⟨vp,d,k2⟩ ⟨ab,⟨hp,er,cz⟩⟩
  refine yW ?_;refine go5 ?_;replace hR:=hR.mono ((am.trans ak).trans ab);refine cL (ev2 rfl rfl) call49 (fun w hs=>nO hs hp hR) fun dn h8 J bf=>?_;subst bf;refine gc3 (fun O=>?_) fun O=>?_
  ·
   have hgt:=zJL.1 O;have ce:1≤d:=Nat.pos_of_ne_zero fun h0=>by rw[h0,Nat.mul_zero,Nat.zero_mul] at hgt;omega
   obtain⟨db,da⟩:=zVI (V:=V) (p:=4294967296^(K-1)) ce;refine go6 ?_;refine gv (bP (k:=.u64) (q:=1) (W:=18446744073709551616) rfl rfl rfl rfl oM oM) rfl (go7 ?_);replace D:=D.mono (((am.trans ak).trans ab).trans J);refine cL (ev2 rfl rfl) call171 (fun w hs=>zAZ hs D oM oM) fun dm h9 ar be=>?_;have en:=zEF (V*d) (K-1);have dv:=yH V d;have du:=kC (n:=d) oM;replace hp:=hp.mono (J.trans ar);refine cL (ev2 rfl rfl) call128 (fun w hs=>s5 hs hp be da oM) fun bl dj ca ai=>?_;rw[db] at ai;refine go3 ?_;refine qS (bl,d-1,dj) ?_ ?_ e8 rfl rfl
   ·
    refine⟨(((ab.trans J).trans ar).trans ca),?_⟩;exact⟨ai,by omega,by rw[Nat.sub_add_cancel ce];exact hgt⟩
   dsimp only;omega
  have aj:V*d*4294967296^(K-1)≤R:=Nat.le_of_not_lt fun hc=>O (zJL.2 hc);refine uA ?_;refine gv (wN (k:=.u64) (k':=.u32) (W:=4294967296) underlying125 underlying124 rfl rfl rfl oM) rfl (gv (yR (A:=[]) (K-1) underlying27 sizeOf124 rfl rfl oM (by rw[qG];omega)) rfl (wC sizeOf124 rfl rfl (by rw[qG];omega) (go5 ?_)));replace hR:=hR.mono J;replace hp:=hp.mono J;refine cL (ev2 rfl rfl) call128 (fun w hs=>s5 hs hR hp aj oM) fun bk h9 ar bd=>(go9 ?_);refine qS (K-1,bk,R-V*d*4294967296^(K-1),d::Z,h9) ?_ ?_ ⟨rfl,rfl,rfl,rfl,rfl,?_,trivial⟩ ?_ rfl
  ·
   refine⟨(((((bc.trans am).trans ak).trans ab).trans J).trans ar),?_⟩;have eK:(4294967296:Nat)^K=4294967296^(K-1)*4294967296:=by rw[←Nat.pow_succ,Nat.succ_eq_add_one,Nat.sub_add_cancel oM]
   rw[eK] at aa;have dw:=yF (Nat.sub_le R (V*d*4294967296^(K-1)));exact⟨bd,by omega,by simp only[lC];omega,sK.2 ⟨by omega,cc⟩,zVH aa aj,yCM cz aj,by omega⟩
  ·
   dsimp only;omega
  · exact congrArg some (congrArg vI oM)
  try dsimp only[List.nil_append,List.cons_append]
  rw[bZ oM]
 refine go6 ?_;have di:K=0:=by omega
 subst di;rw[cG];rw[Nat.pow_zero,Nat.one_mul] at aa M;refine go2 ?_;refine yL (by exact cc) ?_;intro h6 am hq;refine cL (ev1 rfl) call92 (fun w hs=>fI hs hq oM) fun dl h7 ak H=>(go2 ?_);replace hR:=hR.mono (am.trans ak);refine cL (ev2 rfl rfl) call173 (fun w hs=>zQ6 hs hR oM oM) fun dk h8 J ah=>(go6 ?_);refine uY rfl rfl rfl rfl ?_;replace H:=H.mono J;obtain⟨e1,e2⟩:=zNF (X:=X) (Y:=Y) (s:=s) (u:=R) (q:=val Z) oM (by rw[←hV,←hU];exact aa) (by rw[←hV];exact M);rw[e1] at H;rw[e2] at ah;rw[if_neg C,if_neg C];exact⟨_,_,rfl,H,ah⟩
theorem zVK{w0:World}{h0:Mem}(hs:MLe h0 (mem w0)){v v':Value}{A B:Nat}(hv:Us .u32 h0 v (zB A))(hv':Us .u32 h0 v' (zB B))(hl:(zB A).length≤549755813888)(hl':(zB B).length≤549755813888):
 Calls Tryz.prog 126 #[v,v'] w0 (Ret w0 h0 (fun h r=>Us .u32 h r (zB (Nat.gcd A B)))):=by
 obtain⟨G,hG⟩:∃G,G=Nat.gcd A B:=⟨_,rfl⟩;rw[←hG];refine cb2 51 v v' func126 hs ?_;refine go8 ?_;refine cL (ev1 rfl) call92 (fun w hs=>fI hs hv oM) fun aj h1 au M=>?_;rw[zD] at M;refine go1 ?_;replace hv':=hv'.mono au;refine cL (ev1 rfl) call92 (fun w hs=>fI hs hv' oM) fun ai h2 bf J=>?_;rw[zD] at J;refine go6 ?_;refine gcL (ι:=Value×Nat×Value×Nat×Mem) (fun(vx,X,vy,Y,Z)=>(MLe h2 Z∧(Us .u32 Z vx (zB X)∧Us .u32 Z vy (zB Y)∧Nat.gcd X Y=G∧(zB X).length≤549755813888∧(zB Y).length≤549755813888),[(0,vx),(1,vy)],[],Z,Y)) (aj,A,ai,B,h2) ?_ ?_
 · exact⟨mle,M.up,J,hG.symm,by omega,by omega⟩
 rintro⟨vx,X,vy,Y,Z⟩ ⟨aw,⟨ha,U,I,be,aq⟩⟩
 refine yW ?_;refine gc8 (fun ah=>?_) fun ah=>?_
 ·
  have H:Y≠0:=yK.1 oM;refine go6 ?_;refine cL (ev1 rfl) call167 (fun w hs=>eH hs ha) fun ba h3 ae ac=>?_;subst ac;refine uA ?_;replace U:=U.mono ae;refine cL (ev1 rfl) call167 (fun w hs=>eH hs U) fun az h4 ad ab=>?_;subst ab;refine qA ?_;refine gU 3 32 (vB (((zB X).length≤2)∧((zB Y).length≤2))) ?_ ?_
  ·
   refine zS ((zB X).length≤2) (fun I=>?_) (fun I=>?_)
   ·
    refine gT I rfl (go4 ?_);refine gqU ?_;exact congrArg some (yU I)
   refine gF I rfl (go3 ?_);refine gqU ?_;exact congrArg some (yV I)
  refine gc2 (fun z=>?_) fun z=>?_
  ·
   rw[if_pos z.1,if_pos z.2];have an:=aL z.1;have am:=aL z.2;refine go2 ?_;refine gcL (ι:=Nat×Nat) (fun(m,n)=>(Nat.gcd m n=G∧m<18446744073709551616∧n<18446744073709551616,[(5,vU .u64 m),(7,vU .u64 n)],[],h4,n)) (X,Y) ?_ ?_
   · exact⟨I,an,am⟩
   rintro⟨m,n⟩ ⟨O,hm,hn⟩
   refine yW ?_;refine go4 ?_;refine gv (fJ (k:=.u64) (q:=0) rfl rfl) rfl (gc2 (fun D=>?_) fun D=>?_)
   ·
    refine go3 ?_;refine zL 6 _ [] [(0,.q),(1,.q),(2,.q),(3,.q),(4,.q),(5,.q)] yA nX (by kernel_rfl) nX (fun r hr=>hr) (go3 ?_);refine xN rfl (fun _ _=>pY (k:=.u64) rfl rfl oM) rfl (go4 ?_);refine gqL (n,m%n) ?_ ?_
    ·
     have bc:=Nat.mod_lt m (Nat.pos_of_ne_zero D);exact⟨by rw[lY];exact O,hn,by omega⟩
    exact Nat.mod_lt _ (Nat.pos_of_ne_zero D)
   refine go8 ?_;refine cL (ev1 rfl) call96 (fun w hs=>iM hs oM) fun ay h5 ar aa=>(go9 ?_);refine zC rfl rfl ?_;have ap:n=0:=Classical.not_not.1 D;rw[ap,Nat.gcd_zero_right] at O;rw[←O];exact aa
  refine go6 ?_;replace ha:=ha.mono (ae.trans ad);replace U:=U.mono ad;refine cL (ev2 rfl rfl) call127 (fun w hs=>zF6 hs ha U oM oM) fun ax h5 ar C=>?_;obtain⟨bb,ak,rfl,av,C⟩:=C;rw[if_neg H] at C;have bd:=yF (Nat.le_of_lt (Nat.mod_lt X (Nat.pos_of_ne_zero H)));refine iX ?_;refine gqL (vy,Y,ak,X%Y,h5) ?_ ?_
  · exact⟨mle,U.up,C,by rw[lY];exact I,aq,by omega⟩
  exact Nat.mod_lt _ (Nat.pos_of_ne_zero H)
 have H:Y=0:=Classical.byContradiction fun ao=>by have:=yK.2 ao;omega
 refine uQ ?_;refine zC rfl rfl ?_;rw[H,Nat.gcd_zero_right] at I;rw[←I];exact ha
end Go.Proofs.YtpkaegemlpaenaaGreat
namespace Go.Proofs.YtpkaegemlpaenaaGreat
open Bk Go Tryz
set_option linter.unusedVariables false
set_option linter.unusedSimpArgs false
set_option maxRecDepth 10000
set_option maxHeartbeats 1000000
attribute [local irreducible] GL GC GQ W OpV
theorem zMM{w0:World}{h0:Mem}(hs:MLe h0 (mem w0)):
 Calls Tryz.prog 157 #[] w0 (Ret w0 h0 (fun h r=>Us .u32 h r [1])):=by
 refine cb0 2 func157 hs ?_;refine go7 ?_;refine zI (rA (kd:=.u32) (p:=1) underlying27 vW rfl rfl rfl) rfl rfl rfl ?_;intro v1 r1 C;obtain rfl:=C;refine yL (by intro z D;simp only[List.mem_singleton] at D;subst D;decide) ?_;intro h1 G h1;refine go4 ?_;refine zC rfl rfl ?_;exact h1
theorem fW{w0:World}{h0:Mem}(hs:MLe h0 (mem w0)){sa:Bool}{vna vda:Value}{na da:List Nat}(hna:Us .u32 h0 vna na)(hda:Us .u32 h0 vda da):
 Calls Tryz.prog 166 #[.agg #[.bool sa,vna,vda]] w0 (Ret w0 h0 (fun h r=>Us .u32 h r (if da=[] then[1] else da))):=by
 refine cb1 10 (.agg #[.bool sa,vna,vda]) func166 hs ?_;refine go2 ?_;refine zI (wF (cs:=[_,_,_]) rfl rfl) rfl rfl rfl ?_;intro v1 r1 D;obtain⟨J,rfl,rfl⟩:=D;refine zG1 (fun C=>?_) fun C=>?_
 ·
  refine go2 ?_;refine cL (vs:=[]) trivial call157 (fun w hs=>zMM hs) fun I h1 H z=>?_;rw[eM] at z;have G:=zGR;refine go5 ?_;refine zC rfl rfl ?_;rw[if_pos (List.eq_nil_of_length_eq_zero oM),eM];exact z
 refine uA ?_;refine zC rfl rfl ?_;rw[if_neg (fun h=>C (by rw[h];rfl))];exact hda
end Go.Proofs.YtpkaegemlpaenaaGreat
namespace Go.Proofs.YtpkaegemlpaenaaGreat
open Bk Go Tryz
set_option linter.unusedVariables false
set_option linter.unusedSimpArgs false
set_option maxRecDepth 10000
set_option maxHeartbeats 1000000
attribute [local irreducible] GL GC GQ W OpV
theorem dX{w0:World}{h0:Mem}(hs:MLe h0 (mem w0)){v:Value}{xs:List Nat}(hv:Us .u32 h0 v xs)(hl:xs.length≤2):
 Calls Tryz.prog 188 #[v] w0 (Ret w0 h0 (fun _ r=>r=vU .u64 (val xs))):=by
 have G:Fit xs:=hv.lt;refine cb1 21 v func188 hs ?_;refine go2 ?_;refine asg (v:=vU .u64 0) rfl rfl (go4 ?_);refine asg (v:=vU .u64 0) rfl rfl (uQ ?_);have C:val (xs.drop xs.length)=0:=by rw[List.drop_of_length_le (Nat.le_refl _)];rfl
 refine kE (ι:=Nat) (fun(j:(Nat))=>j≤xs.length) (fun(j:(Nat))=>[(0,v),(3,vU .u64 (val (xs.drop j))),(4,vI (↑j-1))]) (fun(j:(Nat))=>[]) (fun(j:(Nat))=>h0) (fun(j:(Nat))=>j) xs.length ?_ ⟨?_,?_,?_,trivial⟩ rfl rfl ?_
 · exact Nat.le_refl _
 · exact rfl
 · exact congrArg some (congrArg (vU .u64) C.symm)
 · exact rfl
 rintro j H
 refine yW ?_;refine gc7 (fun D=>?_) fun D=>?_
 ·
  refine go6 ?_;refine gv (gD (k:=.u64) (s:=32) (yk:=.u64) (W:=18446744073709551616) rfl rfl rfl rfl) rfl (go2 ?_);refine gv (zO (j-1) underlying27 sizeOf124 rfl rfl hv oM oM) rfl (go1 ?_);have z:=hv.get32 (j-1);refine go1 ?_;refine gv (sO (k:=.u64) rfl rfl rfl (by simp only[ub];omega) (by simp only[ub];omega)) rfl ?_;rw[rT (by
   have h2:=jW (oS G j);rw[List.length_drop] at h2;have h3:(4294967296:Nat)^(xs.length-j)≤4294967296^1:=Nat.pow_le_pow_right oM oM;omega) z]
  refine go9 ?_;refine qS (j-1) ?_ ?_ ⟨rfl,?_,?_,trivial⟩ rfl rfl
  · omega
  · omega
  ·
   rw[jB xs (j-1) oM];exact congrArg some (congrArg (vU .u64) (by rw[show j-1+1=j by omega];omega))
  · exact congrArg some (congrArg vI oM)
 refine uQ ?_;refine zC rfl rfl ?_;rw[show j=0 by omega];rfl
theorem zH0{w0:World}{h0:Mem}(hs:MLe h0 (mem w0)){m n:Nat}(hm0:m<18446744073709551616)(hn0:n<18446744073709551616):
 Calls Tryz.prog 198 #[vU .u64 m,vU .u64 n] w0 (Ret w0 h0 (fun _ r=>r=vU .u64 (Nat.gcd m n))):=by
 refine cb2 12 (vU .u64 m) (vU .u64 n) func198 hs ?_;refine go2 ?_;refine asg (v:=vU .u64 0) rfl rfl (go4 ?_);refine gcL (ι:=Nat×Nat) (fun(x,y)=>(Nat.gcd x y=Nat.gcd m n∧x<18446744073709551616∧y<18446744073709551616,[(0,vU .u64 x),(1,vU .u64 y)],[],h0,y)) (m,n) ?_ ?_
 · exact⟨rfl,hm0,hn0⟩
 rintro⟨x,y⟩ ⟨C,J,H⟩
 refine yW ?_;refine go4 ?_;refine gv (fJ (k:=.u64) (q:=0) rfl rfl) rfl (gc2 (fun z=>?_) fun z=>?_)
 ·
  refine go3 ?_;refine zL 6 _ [] [(0,.q),(1,.q),(2,.q),(3,.q),(4,.q),(5,.q)] yA nX (by kernel_rfl) nX (fun r G=>G) (go3 ?_);refine xN rfl (fun _ _=>pY (k:=.u64) rfl rfl oM) rfl (go4 ?_);refine gqL (y,x%y) ?_ ?_
  ·
   have I:=Nat.mod_lt x (Nat.pos_of_ne_zero z);exact⟨by rw[lY];exact C,H,by omega⟩
  exact Nat.mod_lt _ (Nat.pos_of_ne_zero z)
 refine uQ ?_;refine zC rfl rfl ?_;have D:y=0:=Classical.not_not.1 z;rw[D,Nat.gcd_zero_right] at C;rw[C]
theorem zRA{w0:World}{h0:Mem}(hs:MLe h0 (mem w0)){n:Int}(hn:-9223372036854775808≤n)(hn':n<9223372036854775808):
 Calls Tryz.prog 156 #[vI n] w0 (Ret w0 h0 (fun h r=>Us .u32 h r (zB n.natAbs))):=by
 refine cb1 12 (vI n) func156 hs ?_;refine zG1 (fun H=>?_) fun H=>?_
 ·
  have D:n.natAbs=9223372036854775808:=by omega
  refine go2 ?_;refine cL (vs:=[vU .u64 9223372036854775808]) ⟨rfl,trivial⟩ call192 (fun w hs=>zK9 hs oM) fun J h1 G C=>(go5 ?_);refine zC rfl rfl ?_;rw[D];exact C
 refine go6 ?_;refine gv (lK rfl oM oM) rfl (gv (zH6 rfl rfl) rfl (gv (iP (p:=n.natAbs) (k':=.u64) (W:=18446744073709551616) underlying2 underlying125 rfl rfl (congrArg some (congrArg vI oM)) oM) rfl (cL (ev1 rfl) call192 (fun w hs=>zK9 hs oM) fun I h1 G z=>(go4 ?_))));refine zC rfl rfl ?_;exact z
end Go.Proofs.YtpkaegemlpaenaaGreat
namespace Go.Proofs.YtpkaegemlpaenaaGreat
open Bk Go Tryz
set_option linter.unusedVariables false
set_option linter.unusedSimpArgs false
set_option maxRecDepth 10000
set_option maxHeartbeats 1000000
attribute [local irreducible] GL GC GQ W OpV
theorem zEV{w0 w:World}{h0 h:Mem}{v u:Value}{xs:List Nat}{L:List Res}{lo n:Nat}(hu:u=gL 1 v lo xs.length)(hlo:lo+2≤xs.length)(hn0:n≠0)(hn:n<18446744073709551616)(hs:St w0 h0 (.us 124 .u32 v xs::L) h w):
 Calls Tryz.prog 199 #[u,vU .u64 n] w (tK w0 h0 (fun g r K=>g=h∧K=.us 124 .u32 v (xs.take lo++zB n++xs.drop (lo+(zB n).length))::L∧r=vI ↑(zB n).length)):=by
 refine tJ (n:=17) (e:=[(0,u),(1,vU .u64 n)]) (vs:=[u,vU .u64 n]) func199 rfl rfl (bL rfl) hs e2z (uA ?_);refine gv (iB (q:=0) mh0 hu (0) underlying27 sizeOf124 rfl rfl rfl oM) rfl (wC sizeOf124 rfl rfl oM (go7 ?_));refine gv (gE (k:=.u64) (q:=0) rfl rfl) rfl (gc2 (fun C=>?_) fun C=>?_)
 ·
  refine go7 ?_;refine jQ rfl rfl ?_;have z:n<4294967296:=by omega
  refine⟨rfl,?_,by rw[kK hn0 z];rfl⟩;rw[Nat.mod_eq_of_lt z,Nat.add_zero,putL oM hn0 z]
 refine go8 ?_;refine gv (iB (q:=1) mh0 (by rw[lS];exact hu) (1) underlying27 sizeOf124 rfl rfl rfl (by rw[lS];omega)) rfl (wC sizeOf124 rfl rfl (by simp;omega) (go8 ?_));refine jQ rfl rfl ?_;have z:4294967296≤n:=by omega
 have D:n/2^32%4294967296=n/4294967296:=by omega
 refine⟨rfl,?_,?_⟩
 · rw[D,Nat.add_zero,yCR hlo hn z]
 · rw[jV oM,kK (t:=n/4294967296) oM oM];rfl
theorem cY{w0:World}{h0:Mem}(hs:MLe h0 (mem w0)){s:Prop}{n d:Nat}(hn:n<18446744073709551616)(hd:d<18446744073709551616)(hd0:d≠0):
 Calls Tryz.prog 164 #[vB s,vU .u64 n,vU .u64 d] w0 (Ret w0 h0 (fun h r=>wS h r (mkRat (sg s n) d))):=by
 refine cb3 50 (vB s) (vU .u64 n) (vU .u64 d) func164 hs ?_;refine go2 ?_;refine zI (vV (cs:=[vB ((0:Rat).num<0),.slice none 0 0,.slice none 0 0]) xS rfl (by simp only[zb];rfl)) rfl rfl rfl ?_;intro v6 r6 ae;obtain⟨b6,rfl,rfl⟩:=ae;refine go6 ?_;refine gv (gE (k:=.u64) (q:=0) rfl rfl) rfl (gc2 (fun I=>?_) fun I=>?_)
 ·
  refine go2 ?_;refine gv (xR (ps':=[]) (vs:=[vB ((0:Rat).num<0),.slice none 0 0,.slice none 0 0]) underlying29 xS rfl (uL underlying29) trivial (by simp only[zb];exact qU)) rfl (xZ (A:=[]) (r':=.var b6 29 [vB ((0:Rat).num<0),.slice none 0 0,.slice none 0 0]) (zK (k:=0) (cs:=[_,_,_]) (vs:=[_,_,_]) rfl rfl rfl rfl yC (bL rfl)) rfl rfl rfl (go4 ?_));refine yS (fun E S=>yD rfl (wE (cs:=[_,_,_]) mh0 underlying29 rfl yC rfl) E S) ?_;rw[I,y6];exact wS.zero _
 have Z:n≠0:=by omega
 refine go6 ?_;refine cL (ev2 rfl rfl) call198 (fun w hs=>zH0 hs oM oM) fun aw h1 bc O=>?_;subst O;refine go1 ?_;have aa:0<Nat.gcd n d:=Nat.gcd_pos_of_pos_left d oM;have ah:n/Nat.gcd n d≠0:=Nat.ne_of_gt (Nat.div_pos (Nat.le_of_dvd oM (Nat.gcd_dvd_left n d)) aa);have am:d/Nat.gcd n d≠0:=Nat.ne_of_gt (Nat.div_pos (Nat.le_of_dvd oM (Nat.gcd_dvd_right n d)) aa);have az:=Nat.div_le_self n (Nat.gcd n d);have bd:=Nat.div_le_self d (Nat.gcd n d);refine go3 ?_;refine zL 8 _ [] [(0,.q),(1,.q),(2,.q),(3,.q),(4,.q),(5,.q),(6,.q),(7,.q)] yA nX (by kernel_rfl) nX (fun r hr=>hr) (go2 ?_);refine xN rfl (fun _ _=>cA (k:=.u64) (W:=18446744073709551616) rfl rfl rfl rfl oM oM) rfl (go2 ?_);refine xN rfl (fun _ _=>cA (k:=.u64) (W:=18446744073709551616) rfl rfl rfl rfl oM oM) rfl (go2 ?_);generalize hA:n/Nat.gcd n d=A at *;generalize hB:d/Nat.gcd n d=B at *;have bb:=kC (n:=A) oM;have ba:=kC (n:=B) oM;refine go4 ?_;refine qC (kd:=.u32) (by':=4) (q:=4) (q':=4) 4 underlying27 vW rfl rfl rfl rfl rfl rfl rfl oM oM rfl ?_;intro z;refine go7 ?_;refine aP (vs:=[_,_]) rfl rfl rfl rfl call199 e2z (fun w hs=>zEV (hs.own_self (.head _)) dC ah oM hs) ?_;intro av ao aq G;obtain⟨e1,e2,G⟩:=G;rw[e1,e2]
 clear e1 e2 ao aq
 subst G;rw[show List.take 0 (List.replicate 4 0)++zB A++List.drop (0+(zB A).length) (List.replicate 4 0)=zB A++List.replicate (4-(zB A).length) 0 from by rw[List.take_zero,List.nil_append,Nat.zero_add,List.drop_replicate]];have aj:(zB A++List.replicate (4-(zB A).length) 0).length=4:=by simp;omega
 refine go9 ?_;refine zS8 (.head _) (fun ad be M ar=>?_);have H:kH 1 z 0 (zB A).length (zB A).length=.slice (if(zB A).length=0 then ad else ad.map (·.add (0*1))) ((zB A).length-0) ((zB A).length-0):=by rw[M];rfl
 refine gv (zCJ mh0 _ _ underlying27 sizeOf124 rfl rfl rfl rfl rfl oM oM) rfl (gv (xR (ps':=[(0,_),(1,_)]) (vs:=[vB s,kH 1 z 0 _ _,.slice none 0 0]) underlying29 xS rfl (uL underlying29) e4z (wK (A:=[]) (B:=[_]) (C:=[_,_]) (cs:=[_]) (off:=0) (size:=1) rfl rfl rfl rfl rfl (wK (A:=[_]) (B:=[_]) (C:=[_]) (cs:=[_]) (off:=1) (size:=1) rfl rfl rfl rfl (by rw[H];rfl) qU))) rfl (zI (vV (cs:=[vB ((0:Rat).num<0),.slice none 0 0,.slice none 0 0]) xS rfl (by simp only[zb];rfl)) rfl rfl rfl ?_));intro ax ay U;obtain⟨ac,rfl,rfl⟩:=U;refine xZ (A:=[]) (r':=.var ac 29 [vB s,kH 1 z 0 _ _,.slice none 0 0]) (zK (k:=0) (cs:=[_,_,_]) (vs:=[vB s,kH 1 z 0 _ _,.slice none 0 0]) rfl rfl rfl (by rw[H];rfl) yC (bL rfl)) rfl rfl rfl (go6 ?_);refine gv (lM (k:=.u64) (q:=1) rfl rfl) rfl (gc2 (fun ab=>?_) fun ab=>?_)
 ·
  refine go5 ?_;refine gv (zCI mh1 _ underlying27 sizeOf124 rfl rfl rfl oM) rfl (go1 ?_);refine oQ (A:=[_]) ?_;refine aP (vs:=[_,_]) rfl rfl rfl rfl call199 e2z (fun w hs=>zEV (lo:=(zB A).length) (by rfl) oM am oM hs) ?_;intro au an ap D;obtain⟨e1,e2,D⟩:=D;rw[e1,e2]
  clear e1 e2 an ap
  subst D;rw[show List.take (zB A).length (zB A++List.replicate (4-(zB A).length) 0)++zB B++List.drop ((zB A).length+(zB B).length) (zB A++List.replicate (4-(zB A).length) 0)=zB A++zB B++List.replicate (4-(zB A).length-(zB B).length) 0 from by simp];have ai:(zB A++zB B++List.replicate (4-(zB A).length-(zB B).length) 0).length=4:=by simp;omega
  refine go9 ?_;have J:kH 1 z (zB A).length ((zB A).length+(zB B).length) ((zB A).length+(zB B).length)=.slice (if(zB A).length+(zB B).length=(zB A).length then ad else ad.map (·.add ((zB A).length*1))) ((zB A).length+(zB B).length-(zB A).length) ((zB A).length+(zB B).length-(zB A).length):=by rw[M];rfl
  refine gv (zD8 mh0 ((zB A).length) ((zB A).length+(zB B).length) ((zB A).length+(zB B).length) underlying27 sizeOf124 rfl rfl rfl rfl oM oM oM oM oM oM) rfl (go1 ?_);refine xZ (A:=[_]) (r':=.var ac 29 [vB s,kH 1 z 0 _ _,kH 1 z ((zB A).length) ((zB A).length+(zB B).length) ((zB A).length+(zB B).length)]) (zK (k:=2) (cs:=[_,_,_]) (vs:=[kH 1 z ((zB A).length) ((zB A).length+(zB B).length) ((zB A).length+(zB B).length)]) rfl rfl (by rw[J];rfl) (by rw[J];rfl) zQL (bL rfl)) rfl rfl rfl (go4 ?_);refine yL (by first|exact vX (vX (xT A) (xT B)) (jA _)|exact vX (xT A) (jA _)) ?_;intro h2 ak hz;refine go1 ?_;refine xZ (A:=[_]) (r':=.var b6 29 [vB s,kH 1 z 0 _ _,kH 1 z ((zB A).length) ((zB A).length+(zB B).length) ((zB A).length+(zB B).length)]) (zK (k:=0) (cs:=[_,_,_]) (vs:=[vB s,kH 1 z 0 _ _,kH 1 z ((zB A).length) ((zB A).length+(zB B).length) ((zB A).length+(zB B).length)]) rfl rfl rfl (by rw[H,J];rfl) yC (bL rfl)) rfl rfl rfl (go3 ?_);refine yS (fun E S=>yD rfl (wE (cs:=[_,_,_]) mh1 underlying29 rfl yC rfl) E S) ?_;have z1:=hz.sub3 (lo:=0) (hi:=(zB A).length) (mx:=(zB A).length) oM oM oM;have z2:=hz.sub3 (lo:=(zB A).length) (hi:=(zB A).length+(zB B).length) (mx:=(zB A).length+(zB B).length) oM oM oM;refine wS.make Z hd0 ?_ ?_
  · rw[hA];simpa using z1
  · rw[hB];rw[aR oM];simpa using z2
 refine go4 ?_;refine zEG (by first|exact vX (vX (xT A) (xT B)) (jA _)|exact vX (xT A) (jA _)) ?_;intro h2 ak hz;refine go1 ?_;refine xZ (A:=[_]) (r':=.var b6 29 [vB s,kH 1 z 0 _ _,.slice none 0 0]) (zK (k:=0) (cs:=[_,_,_]) (vs:=[vB s,kH 1 z 0 _ _,.slice none 0 0]) rfl rfl rfl (by rw[H];rfl) yC (bL rfl)) rfl rfl rfl (go3 ?_);refine yS (fun E S=>yD rfl (wE (cs:=[_,_,_]) mh1 underlying29 rfl yC rfl) E S) ?_;have z1:=hz.sub3 (lo:=0) (hi:=(zB A).length) (mx:=(zB A).length) oM oM oM;refine wS.make Z hd0 ?_ ?_
 · rw[hA];simpa using z1
 · rw[hB];rw[show B=1 by omega,cH,yZ];exact Us.nil _ _
theorem rI{w0:World}{h0:Mem}(hs:MLe h0 (mem w0)){qa:Rat}{vna vda:Value}(hna:Us .u32 h0 vna (zB qa.num.natAbs))(hda:Us .u32 h0 vda (zB (wA qa.den))):
 Calls Tryz.prog 163 #[.agg #[vB (qa.num<0),vna,vda]] w0 (Ret w0 h0 (fun _ r=>r=.tuple #[vU .u64 (pN qa),vU .u64 (pD qa),vB (fY qa)])):=by
 refine cb1 30 (.agg #[vB (qa.num<0),vna,vda]) func163 hs ?_;refine go2 ?_;refine zI (wF (cs:=[_,_,_]) rfl rfl) rfl rfl rfl ?_;intro v1 r1 O;obtain⟨b1,rfl,rfl⟩:=O;refine asg (v:=vU .u64 0) rfl rfl (asg (v:=vU .u64 0) rfl rfl (uA ?_));refine gU 6 14 (vB (((1:Int)<(↑(zB qa.num.natAbs).length:Int))∨((1:Int)<(↑(zB (wA qa.den)).length:Int)))) ?_ ?_
 ·
  refine zS ((1:Int)<(↑(zB qa.num.natAbs).length:Int)) (fun J=>?_) (fun J=>?_)
  ·
   refine gT J rfl (go6 ?_);refine gqU ?_;exact congrArg some (wU J)
  refine gF J rfl (uA ?_);refine gqU ?_;exact congrArg some (wV J)
 refine gc2 (fun G=>?_) fun G=>?_
 ·
  have H:¬fY qa:=zJ3 G;refine go2 ?_;refine asg (v:=vU .u64 0) rfl rfl (asg (v:=vU .u64 0) rfl rfl (go5 ?_));refine uY rfl rfl rfl rfl ?_;rw[pN_f H,pD_f H,yJ H]
 have z:fY qa:=zN2 G;have Z:=gP z;have aa:=gQ z;refine go4 ?_;refine asg (v:=vU .u64 1) rfl rfl (zAK (fun D=>?_) fun D=>?_)
 ·
  have I:(zB (wA qa.den)).getD 0 0=qa.den:=zTL D;refine go3 ?_;refine gv (zO (q:=0) (0) underlying27 sizeOf124 rfl rfl hda rfl oM) rfl (go1 ?_);rw[I];refine go8 ?_;refine cL (ev1 rfl) call188 (fun w hs=>dX hs hna oM) fun M h1 U C=>?_
  try simp only[zD] at C
  subst C;refine go2 ?_;refine gv (OpV.tr (by have:=qa.den_nz;omega) (fJ (k:=.u64) (q:=0) rfl rfl)) rfl (go6 ?_);refine uY rfl rfl rfl rfl ?_;rw[zD6 z,zD7 z,xE z]
 have I:qa.den=1:=zTM D z;refine go6 ?_;refine cL (ev1 rfl) call188 (fun w hs=>dX hs hna oM) fun M h1 U C=>?_
 try simp only[zD] at C
 subst C;refine go2 ?_;refine gv (OpV.tr (by have:=qa.den_nz;omega) (fJ (k:=.u64) (q:=0) rfl rfl)) rfl (go6 ?_);refine uY rfl rfl rfl rfl ?_;rw[zD6 z,zD7 z,xE z,I]
theorem jY{w0:World}{h0:Mem}(hs:MLe h0 (mem w0)){s:Prop}{vn vd:Value}{xs ys:List Nat}(hn:Us .u32 h0 vn xs)(hd:Us .u32 h0 vd ys)(hl:xs.length≤1000000000000)(hl':ys.length≤1000000000000):
 Calls Tryz.prog 155 #[vB s,vn,vd] w0 (Ret w0 h0 (fun h r=>wS h r (mkRat (sg s (val xs)) (val ys)))):=by
 have ch:=aY (n:=val xs);have cg:=aY (n:=val ys);have cb:=uE hn.lt;have ca:=uE hd.lt;refine cb3 68 (vB s) vn vd func155 hs ?_;refine go2 ?_;refine zI (vV (cs:=[vB ((0:Rat).num<0),.slice none 0 0,.slice none 0 0]) xS rfl (by simp only[zb];rfl)) rfl rfl rfl ?_;intro v6 r6 bh;obtain⟨b6,rfl,rfl⟩:=bh;refine go6 ?_;refine cL (ev1 rfl) call162 (fun w hs=>y5 hs hn oM) fun v9 h1 aj bb=>?_
 try simp only[zD] at bb
 subst bb;refine go1 ?_;refine uS (ι:=Mem) 5 (fun m_=>MLe h1 m_) (fun _=>[(15,vB (((↑(vQ (val (xs))):Int)=(0:Int))∨((↑(vQ (val (ys))):Int)=(0:Int)))),(0,vB s),(1,vn),(2,vd),(6,vP b6 0)]) (fun _=>[.var b6 29 [vB ((0:Rat).num<0),.slice none 0 0,.slice none 0 0]]) (fun m_=>m_) ?_ ?_
 ·
  refine zS ((↑(vQ (val (xs))):Int)=(0:Int)) (fun I=>?_) (fun I=>?_)
  ·
   refine gT I rfl (go5 ?_);refine zQ h1 (MLe.refl _) ⟨?_,rfl,rfl,rfl,rfl,trivial⟩ rfl rfl;exact congrArg some (wU I)
  refine gF I rfl (go3 ?_);replace hd:=hd.mono aj;refine cL (ev1 rfl) call162 (fun w hs=>y5 hs hd oM) fun bt h2 O au=>?_
  try simp only[zD] at au
  subst au;refine go4 ?_;refine zQ h2 O ⟨?_,rfl,rfl,rfl,rfl,trivial⟩ rfl rfl;exact congrArg some (wV I)
 intro bg G;refine sE ?_;refine gc2 (fun aa=>?_) fun aa=>?_
 ·
  refine go2 ?_;refine gv (xR (ps':=[]) (vs:=[vB ((0:Rat).num<0),.slice none 0 0,.slice none 0 0]) underlying29 xS rfl (uL underlying29) trivial (by simp only[zb];exact qU)) rfl (xZ (A:=[]) (r':=.var b6 29 [vB ((0:Rat).num<0),.slice none 0 0,.slice none 0 0]) (zK (k:=0) (cs:=[_,_,_]) (vs:=[_,_,_]) rfl rfl rfl rfl yC (bL rfl)) rfl rfl rfl (go4 ?_));refine yS (fun E S=>yD rfl (wE (cs:=[_,_,_]) mh0 underlying29 rfl yC rfl) E S) ?_
  rcases aa with h|h
  · rw[show val xs=0 by omega,y6];exact wS.zero _
  · rw[show val ys=0 by omega,zC3];exact wS.zero _
 have am:val xs≠0:=fun h=>aa (.inl oM);have ao:val ys≠0:=fun h=>aa (.inr oM);replace hn:=hn.mono (aj.trans G);refine go8 ?_;refine gU 5 24 (vB (((↑(xs).length:Int)≤(2:Int))∧((↑(ys).length:Int)≤(2:Int)))) ?_ ?_
 ·
  refine zS ((↑(xs).length:Int)≤(2:Int)) (fun I=>?_) (fun I=>?_)
  ·
   refine gT I rfl ?_;replace hd:=hd.mono (aj.trans G);refine go8 ?_;refine gqU ?_;exact congrArg some (yU I)
  refine gF I rfl (go5 ?_);refine gqU ?_;exact congrArg some (yV I)
 refine gc2 (fun bf=>?_) fun bf=>?_
 ·
  have bz:=aL (n:=val xs) oM;have cf:=aL (n:=val ys) oM;refine go4 ?_;refine cL (ev1 rfl) call188 (fun w hs=>dX hs hn oM) fun bs h2 O ar=>?_
  try simp only[zD] at ar
  subst ar;refine go1 ?_;replace hd:=hd.mono ((aj.trans G).trans O);refine cL (ev1 rfl) call188 (fun w hs=>dX hs hd oM) fun br h3 ab aq=>?_
  try simp only[zD] at aq
  subst aq;refine cL (ev3 rfl rfl rfl) call164 (fun w hs=>cY hs oM oM oM) fun bq h4 ai bc=>?_;obtain⟨az,ba,rfl,av,aw⟩:=bc;refine xZ (A:=[]) (r':=.var b6 29 [vB ((mkRat (sg (s) (val (xs))) (val (ys))).num<0),az,ba]) (zK (k:=0) (cs:=[_,_,_]) (vs:=[_,_,_]) rfl rfl rfl (ocr rfl (ocu av (ocu aw oc0))) yC (bL rfl)) rfl rfl rfl (go4 ?_);refine yS (fun E S=>yD rfl (wE (cs:=[_,_,_]) mh0 underlying29 rfl yC rfl) E S) ?_;exact⟨_,_,rfl,av,aw⟩
 refine go7 ?_;replace hd:=hd.mono (aj.trans G);refine cL (ev2 rfl rfl) call189 (fun w hs=>zV7 hs hn hd oM oM) fun bp h2 O H=>?_
 try simp only[zD] at H
 have bk:=iD (val (xs)) (val (ys));have be:Nat.gcd (val xs) (val ys)≠0:=Nat.ne_of_gt (Nat.gcd_pos_of_pos_left _ oM);have ce:=yF (Nat.le_of_dvd oM (Nat.gcd_dvd_left (val xs) (val ys)));refine go6 ?_;refine cL (ev1 rfl) call162 (fun w hs=>y5 hs H oM) fun bo h3 ab ap=>?_
 try simp only[zD] at ap
 subst ap;refine gc3 (fun ak=>?_) fun ak=>?_
 ·
  refine go4 ?_;replace hn:=hn.mono (O.trans ab);replace H:=H.mono ab;refine cL (ev2 rfl rfl) call190 (fun w hs=>zBO hs hn H oM oM) fun bn h4 ai ah=>?_;obtain⟨bx,bv,rfl,Z,ah⟩:=ah
  try simp only[zD] at Z ah ⊢
  have bj:=yF (Nat.div_le_self (val (xs)) (((Nat.gcd (val (xs)) (val (ys))))));have cd:=yF (Nat.div_le_self (val xs) (Nat.gcd (val xs) (val ys)));refine uA ?_;replace hd:=hd.mono ((O.trans ab).trans ai);replace H:=H.mono ai;refine cL (ev2 rfl rfl) call190 (fun w hs=>zBO hs hd H oM oM) fun bm h5 an ae=>?_;obtain⟨bw,bu,rfl,U,ae⟩:=ae
  try simp only[zD] at U ae ⊢
  have bi:=yF (Nat.div_le_self (val (ys)) (((Nat.gcd (val (xs)) (val (ys))))));have cc:=yF (Nat.div_le_self (val ys) (Nat.gcd (val xs) (val ys)));refine uA ?_;replace Z:=Z.mono an;refine cL (ev2 rfl rfl) call191 (fun w hs=>eN hs Z (Us.nil _ _) (by first|omega|(simp only[lN];omega)) (by first|omega|(simp only[lN];omega))) fun M h6 bl z=>?_
  try simp only[zD] at z
  have ay:=jS ((((val (xs))/(((Nat.gcd (val (xs)) (val (ys)))))))) (val ([]));refine go1 ?_;replace U:=U.mono bl;refine cL (ev2 rfl rfl) call191 (fun w hs=>eN hs U (Us.nil _ _) (by first|omega|(simp only[lN];omega)) (by first|omega|(simp only[lN];omega))) fun ad h7 bd D=>?_
  try simp only[zD] at D
  have ax:=jS ((((val (ys))/(((Nat.gcd (val (xs)) (val (ys)))))))) (val ([]));refine uA ?_;refine gU 6 63 (vB (((↑(zB (((((val (ys))/(((Nat.gcd (val (xs)) (val (ys))))))))+(val ([])))).length:Int)=(1:Int))∧(((zB (((((val (ys))/(((Nat.gcd (val (xs)) (val (ys))))))))+(val ([])))).getD (0) 0)=(1:Nat)))) ?_ ?_
  ·
   refine zS ((↑(zB (((((val (ys))/(((Nat.gcd (val (xs)) (val (ys))))))))+(val ([])))).length:Int)=(1:Int)) (fun I=>?_) (fun I=>?_)
   ·
    refine gT I rfl (go3 ?_);refine gv (zO (q:=0) (0) underlying27 sizeOf124 rfl rfl D rfl oM) rfl (go3 ?_);refine gv (gE (k:=.u32) (q:=1) rfl rfl) rfl (go2 ?_);refine gqU ?_;exact congrArg some (yU I)
   refine gF I rfl (go6 ?_);refine gqU ?_;exact congrArg some (yV I)
  refine gc2 (fun J=>?_) fun J=>?_
  ·
   refine go9 ?_;replace z:=z.mono bd;refine gv (xR (ps':=[(0,_),(1,_),(2,_)]) (vs:=[vB s,M,.slice none 0 0]) underlying29 xS rfl (uL underlying29) e6z (wK (A:=[]) (B:=[_]) (C:=[_,_]) (cs:=[_]) (off:=0) (size:=1) rfl rfl rfl rfl rfl (wK (A:=[_]) (B:=[_]) (C:=[_]) (cs:=[_]) (off:=1) (size:=1) rfl rfl rfl rfl z.cells (wK (A:=[_,_]) (B:=[_]) (C:=[]) (cs:=[_]) (off:=2) (size:=1) rfl rfl rfl rfl rfl qU)))) rfl (xZ (A:=[]) (r':=.var b6 29 [vB s,M,.slice none 0 0]) (zK (k:=0) (cs:=[_,_,_]) (vs:=[_,_,_]) rfl rfl rfl (ocr rfl (ocu z (ocr rfl oc0))) yC (bL rfl)) rfl rfl rfl (go3 ?_));refine yS (fun E S=>yD rfl (wE (cs:=[_,_,_]) mh0 underlying29 rfl yC rfl) E S) ?_;exact wS.fin1 am ao z J
  refine go7 ?_;replace z:=z.mono bd;refine gv (xR (ps':=[(0,_),(1,_),(2,_)]) (vs:=[vB s,M,ad]) underlying29 xS rfl (uL underlying29) e6z (wK (A:=[]) (B:=[_]) (C:=[_,_]) (cs:=[_]) (off:=0) (size:=1) rfl rfl rfl rfl rfl (wK (A:=[_]) (B:=[_]) (C:=[_]) (cs:=[_]) (off:=1) (size:=1) rfl rfl rfl rfl z.cells (wK (A:=[_,_]) (B:=[_]) (C:=[]) (cs:=[_]) (off:=2) (size:=1) rfl rfl rfl rfl D.cells qU)))) rfl (xZ (A:=[]) (r':=.var b6 29 [vB s,M,ad]) (zK (k:=0) (cs:=[_,_,_]) (vs:=[_,_,_]) rfl rfl rfl (ocr rfl (ocu z (ocu D oc0))) yC (bL rfl)) rfl rfl rfl (go3 ?_));refine yS (fun E S=>yD rfl (wE (cs:=[_,_,_]) mh0 underlying29 rfl yC rfl) E S) ?_;exact wS.fin am ao z D J
 refine go5 ?_;replace hn:=hn.mono (O.trans ab);refine cL (ev2 rfl rfl) call191 (fun w hs=>eN hs hn (Us.nil _ _) (by first|omega|(simp only[lN];omega)) (by first|omega|(simp only[lN];omega))) fun M h4 ai z=>?_
 try simp only[zD] at z
 have ay:=jS (val (xs)) (val ([]));refine go1 ?_;replace hd:=hd.mono ((O.trans ab).trans ai);refine cL (ev2 rfl rfl) call191 (fun w hs=>eN hs hd (Us.nil _ _) (by first|omega|(simp only[lN];omega)) (by first|omega|(simp only[lN];omega))) fun ad h5 an D=>?_
 try simp only[zD] at D
 have ax:=jS (val (ys)) (val ([]));refine uA ?_;refine gU 6 63 (vB (((↑(zB ((val (ys))+(val ([])))).length:Int)=(1:Int))∧(((zB ((val (ys))+(val ([])))).getD (0) 0)=(1:Nat)))) ?_ ?_
 ·
  refine zS ((↑(zB ((val (ys))+(val ([])))).length:Int)=(1:Int)) (fun I=>?_) (fun I=>?_)
  ·
   refine gT I rfl (go3 ?_);refine gv (zO (q:=0) (0) underlying27 sizeOf124 rfl rfl D rfl oM) rfl (go3 ?_);refine gv (gE (k:=.u32) (q:=1) rfl rfl) rfl (go2 ?_);refine gqU ?_;exact congrArg some (yU I)
  refine gF I rfl (go6 ?_);refine gqU ?_;exact congrArg some (yV I)
 refine gc2 (fun J=>?_) fun J=>?_
 ·
  refine go9 ?_;replace z:=z.mono an;refine gv (xR (ps':=[(0,_),(1,_),(2,_)]) (vs:=[vB s,M,.slice none 0 0]) underlying29 xS rfl (uL underlying29) e6z (wK (A:=[]) (B:=[_]) (C:=[_,_]) (cs:=[_]) (off:=0) (size:=1) rfl rfl rfl rfl rfl (wK (A:=[_]) (B:=[_]) (C:=[_]) (cs:=[_]) (off:=1) (size:=1) rfl rfl rfl rfl z.cells (wK (A:=[_,_]) (B:=[_]) (C:=[]) (cs:=[_]) (off:=2) (size:=1) rfl rfl rfl rfl rfl qU)))) rfl (xZ (A:=[]) (r':=.var b6 29 [vB s,M,.slice none 0 0]) (zK (k:=0) (cs:=[_,_,_]) (vs:=[_,_,_]) rfl rfl rfl (ocr rfl (ocu z (ocr rfl oc0))) yC (bL rfl)) rfl rfl rfl (go3 ?_));refine yS (fun E S=>yD rfl (wE (cs:=[_,_,_]) mh0 underlying29 rfl yC rfl) E S) ?_;have ac:=zFS ak be;exact wS.fin1 am ao (by rw[ac,Nat.div_one];exact z) (by rw[ac,Nat.div_one];exact J)
 refine go7 ?_;replace z:=z.mono an;refine gv (xR (ps':=[(0,_),(1,_),(2,_)]) (vs:=[vB s,M,ad]) underlying29 xS rfl (uL underlying29) e6z (wK (A:=[]) (B:=[_]) (C:=[_,_]) (cs:=[_]) (off:=0) (size:=1) rfl rfl rfl rfl rfl (wK (A:=[_]) (B:=[_]) (C:=[_]) (cs:=[_]) (off:=1) (size:=1) rfl rfl rfl rfl z.cells (wK (A:=[_,_]) (B:=[_]) (C:=[]) (cs:=[_]) (off:=2) (size:=1) rfl rfl rfl rfl D.cells qU)))) rfl (xZ (A:=[]) (r':=.var b6 29 [vB s,M,ad]) (zK (k:=0) (cs:=[_,_,_]) (vs:=[_,_,_]) rfl rfl rfl (ocr rfl (ocu z (ocu D oc0))) yC (bL rfl)) rfl rfl rfl (go3 ?_));refine yS (fun E S=>yD rfl (wE (cs:=[_,_,_]) mh0 underlying29 rfl yC rfl) E S) ?_;have ac:=zFS ak be;exact wS.fin am ao (by rw[ac,Nat.div_one];exact z) (by rw[ac,Nat.div_one];exact D) (by rw[ac,Nat.div_one];exact J)
end Go.Proofs.YtpkaegemlpaenaaGreat
namespace Go.Proofs.YtpkaegemlpaenaaGreat
open Bk Go Tryz
set_option linter.unusedVariables false
set_option linter.unusedSimpArgs false
set_option maxRecDepth 10000
set_option maxHeartbeats 1000000
attribute [local irreducible] GL GC GQ W OpV
theorem dO{w0:World}{h0:Mem}(hs:MLe h0 (mem w0)){v v':Value}{xs ys:List Nat}(hv:Us .u32 h0 v xs)(hv':Us .u32 h0 v' ys):
 Calls Tryz.prog 193 #[v,v'] w0 (Ret w0 h0 (fun _ r=>r=vB (xs=ys))):=by
 have J:=hv.lt63;have I:=hv'.lt63;refine cb2 26 v v' func193 hs ?_;refine qA ?_;refine gv (wM underlying27 rfl hv') rfl (gc3 (fun C=>?_) fun C=>?_)
 ·
  refine go7 ?_;refine zC rfl rfl ?_;rw[yJ (fun e=>C (by rw[e]))]
 have H:xs.length=ys.length:=by omega
 refine qA ?_;refine gcL (ι:=Nat) (fun(i:(Nat))=>(i≤xs.length∧xs.take i=ys.take i,[(0,v),(1,v'),(12,vI ↑xs.length),(13,vI ↑i)],[],h0,xs.length-i)) 0 ?_ ?_
 · exact⟨by omega,by simp⟩
 rintro i ⟨hi,G⟩
 refine yW ?_;refine gc6 (fun D=>?_) fun D=>?_
 ·
  refine qA ?_;refine zL 9 _ [] [(0,.q),(1,.q),(2,.q),(3,.q),(4,.q),(5,.q),(6,.q),(7,.q),(8,.q)] yA nX (by kernel_rfl) nX (fun r M=>M) (go2 ?_);refine w_q rfl (fun h' L' hh hR=>zO (i) underlying27 sizeOf124 rfl rfl (hv.mono hh) oM oM) rfl (w_q rfl (fun h' L' hh hR=>xO isAgg124 rfl (hv.mono hh) oM) rfl (go2 ?_));refine w_q rfl (fun h' L' hh hR=>zO (i) underlying27 sizeOf124 rfl rfl (hv'.mono hh) oM oM) rfl (w_q rfl (fun h' L' hh hR=>xO isAgg124 rfl (hv'.mono hh) oM) rfl (gc3 (fun z=>?_) fun z=>?_))
  ·
   refine qA ?_;refine zC rfl rfl ?_;rw[yJ (fun e=>z (by rw[e]))]
  refine go7 ?_;refine gqL (i+1) ?_ ?_ (he:=⟨rfl,rfl,rfl,?_,trivial⟩)
  ·
   refine⟨by omega,?_⟩;rw[oY xs i oM,oY ys i oM,G];have e:=Classical.not_not.1 z;rw[e]
  · omega
  · exact congrArg some (congrArg vI oM)
 refine qA ?_;refine zC rfl rfl ?_;have O:xs=ys:=by
  have e:i=xs.length:=by omega
  rw[e,List.take_length,H,List.take_length] at G;exact G
 rw[xE O]
theorem dY{w0:World}{h0:Mem}(hs:MLe h0 (mem w0)){qa:Rat}{vna vda:Value}(hna:Us .u32 h0 vna (zB qa.num.natAbs))(hda:Us .u32 h0 vda (zB (wA qa.den)))(hqa:lq qa≤100000000000):
 Calls Tryz.prog 122 #[.agg #[vB (qa.num<0),vna,vda]] w0 (Ret w0 h0 (fun _ r=>r=vI (xC qa))):=by
 have H:=vH qa;have I:=wY qa;have J:=wW qa;refine cb1 11 (.agg #[vB (qa.num<0),vna,vda]) func122 hs ?_;refine go2 ?_;refine zI (wF (cs:=[_,_,_]) rfl rfl) rfl rfl rfl ?_;intro v1 r1 G;obtain⟨U,rfl,rfl⟩:=G;refine go9 ?_;refine cL (ev1 rfl) call162 (fun w hs=>y5 hs hna oM) fun O h1 M D=>?_
 try simp only[zD] at D
 subst D;refine gc4 (fun C=>?_) fun C=>?_
 ·
  refine go8 ?_;refine zC rfl rfl ?_;rw[cX (zEC C)]
 refine gc7 (fun z=>?_) fun z=>?_
 ·
  refine go8 ?_;refine zC rfl rfl ?_;rw[dR z]
 refine go9 ?_;refine zC rfl rfl ?_;rw[dQ (fun h=>C (zEM h)) z]
theorem zRB{w0:World}{h0:Mem}(hs:MLe h0 (mem w0)){qa:Rat}{vna vda:Value}(hna:Us .u32 h0 vna (zB qa.num.natAbs))(hda:Us .u32 h0 vda (zB (wA qa.den))){qb:Rat}{vnb vdb:Value}(hnb:Us .u32 h0 vnb (zB qb.num.natAbs))(hdb:Us .u32 h0 vdb (zB (wA qb.den)))(hqa:lq qa≤100000000000)(hqb:lq qb≤100000000000):
 Calls Tryz.prog 159 #[.agg #[vB (qa.num<0),vna,vda],.agg #[vB (qb.num<0),vnb,vdb]] w0 (Ret w0 h0 (fun _ r=>r=vB (qa=qb))):=by
 have ab:=vH qa;have ad:=wY qa;have ah:=wW qa;have aa:=vH qb;have ac:=wY qb;have ae:=wW qb;refine cb2 24 (.agg #[vB (qa.num<0),vna,vda]) (.agg #[vB (qb.num<0),vnb,vdb]) func159 hs ?_;refine go2 ?_;refine zI (wF (cs:=[_,_,_]) rfl rfl) rfl rfl rfl ?_;intro v2 r2 Z;obtain⟨b2,rfl,rfl⟩:=Z;refine zI (wF (cs:=[_,_,_]) rfl rfl) rfl rfl rfl ?_;intro v3 r3 U;obtain⟨b3,rfl,rfl⟩:=U;refine go9 ?_;refine gv (bQ underlying4 rfl rfl) rfl ?_;refine uS (ι:=Mem) 7 (fun G=>MLe h0 G) (fun _=>[(16,vB (((qa.num<0)↔(qb.num<0))∧((zB qa.num.natAbs)=(zB qb.num.natAbs)))),(2,vP b2 0),(3,vP b3 0)]) (fun _=>[.var b3 29 [vB (qb.num<0),vnb,vdb],.var b2 29 [vB (qa.num<0),vna,vda]]) (fun G=>G) ?_ ?_
 ·
  refine zS ((qa.num<0)↔(qb.num<0)) (fun D=>?_) (fun D=>?_)
  ·
   refine gT D rfl (go9 ?_);refine cL (ev2 rfl rfl) call193 (fun w hs=>dO hs hna hnb) fun aj h1 H M=>?_;subst M;refine go2 ?_;refine zQ h1 H ⟨?_,rfl,rfl,trivial⟩ rfl rfl;exact congrArg some (yU D)
  refine gF D rfl (go7 ?_);refine zQ h0 (MLe.refl _) ⟨?_,rfl,rfl,trivial⟩ rfl rfl;exact congrArg some (yV D)
 intro C z;refine sE ?_;refine uS (ι:=Mem) 7 (fun G=>MLe C G) (fun _=>[(23,vB ((((qa.num<0)↔(qb.num<0))∧((zB qa.num.natAbs)=(zB qb.num.natAbs)))∧((zB (wA qa.den))=(zB (wA qb.den)))))]) (fun _=>[.var b3 29 [vB (qb.num<0),vnb,vdb],.var b2 29 [vB (qa.num<0),vna,vda]]) (fun G=>G) ?_ ?_
 ·
  refine zS (((qa.num<0)↔(qb.num<0))∧((zB qa.num.natAbs)=(zB qb.num.natAbs))) (fun D=>?_) (fun D=>?_)
  ·
   refine gT D rfl (go9 ?_);replace hda:=hda.mono z;replace hdb:=hdb.mono z;refine cL (ev2 rfl rfl) call193 (fun w hs=>dO hs hda hdb) fun ai h1 H J=>?_;subst J;refine go2 ?_;refine zQ h1 H ⟨?_,trivial⟩ rfl rfl;exact congrArg some (yU D)
  refine gF D rfl (go7 ?_);refine zQ C (MLe.refl _) ⟨?_,trivial⟩ rfl rfl;exact congrArg some (yV D)
 intro O I;refine sE ?_;refine go4 ?_;refine zC rfl rfl ?_;exact jI zHS
theorem zVQ{w0:World}{h0:Mem}(hs:MLe h0 (mem w0)){qa:Rat}{vna vda:Value}(hna:Us .u32 h0 vna (zB qa.num.natAbs))(hda:Us .u32 h0 vda (zB (wA qa.den))){qb:Rat}{vnb vdb:Value}(hnb:Us .u32 h0 vnb (zB qb.num.natAbs))(hdb:Us .u32 h0 vdb (zB (wA qb.den)))(hqa:lq qa≤100000000000)(hqb:lq qb≤100000000000):
 Calls Tryz.prog 182 #[.agg #[vB (qa.num<0),vna,vda],.agg #[vB (qb.num<0),vnb,vdb]] w0 (Ret w0 h0 (fun _ r=>r=vI (yP qa qb))):=by
 have bm:=vH qa;have bo:=wY qa;have bq:=wW qa;have bl:=vH qb;have bn:=wY qb;have bp:=wW qb;refine cb2 80 (.agg #[vB (qa.num<0),vna,vda]) (.agg #[vB (qb.num<0),vnb,vdb]) func182 hs ?_;refine go2 ?_;refine zI (wF (cs:=[_,_,_]) rfl rfl) rfl rfl rfl ?_;intro v2 r2 be;obtain⟨b2,rfl,rfl⟩:=be;refine zI (wF (cs:=[_,_,_]) rfl rfl) rfl rfl rfl ?_;intro v3 r3 bd;obtain⟨b3,rfl,rfl⟩:=bd;refine go5 ?_;refine zL 6 _ [] [(0,.q),(2,.q),(1,.c),(3,.c),(4,.q),(5,.q)] yA nX (by kernel_rfl) nX (fun r hr=>hr) (go2 ?_);refine w_c rfl (sC (ev1 rfl) call122 (fun w hs=>dY hs hna hda oM) fun cd h1 ac aw=>?_);have ba:=yY qa;subst aw;refine w_c rfl ?_;replace hnb:=hnb.mono ac;replace hdb:=hdb.mono ac;refine sC (ev1 rfl) call122 (fun w hs=>dY hs hnb hdb oM) fun cc h2 I av=>?_;have az:=yY qb;subst av;refine zAK (fun H=>?_) fun H=>?_
 ·
  refine gc8 (fun O=>?_) fun O=>?_
  ·
   refine go8 ?_;refine zC rfl rfl ?_;rw[j4 H,if_pos O]
  refine go9 ?_;refine zC rfl rfl ?_;rw[j4 H,if_neg O]
 have ap:=zHN H;refine go7 ?_;refine qN (ι:=Mem) (fun(mc:(Mem))=>MLe h2 mc∧(True)) (fun(mc:(Mem))=>[(2,vP b2 0),(7,vI (cN qa qb))]) (fun(mc:(Mem))=>[.var b3 29 [vB (qb.num<0),vnb,vdb],.var b2 29 [vB (qa.num<0),vna,vda]]) (fun(mc:(Mem))=>mc) ?_ ?_
 ·
  refine go3 ?_;replace hna:=hna.mono (ac.trans I);replace hda:=hda.mono (ac.trans I);refine cL (ev1 rfl) call163 (fun w hs=>rI hs hna hda) fun cb h3 C au=>?_;subst au;refine rV ?_;replace hda:=hda.mono C;replace hdb:=hdb.mono (I.trans C);refine cL (ev2 rfl rfl) call193 (fun w hs=>dO hs hda hdb) fun ca h4 z ar=>?_;subst ar;refine gc2 (fun an=>?_) fun an=>?_
  ·
   refine go5 ?_;replace hna:=hna.mono (C.trans z);replace hnb:=hnb.mono ((I.trans C).trans z);refine cL (ev2 rfl rfl) call204 (fun w hs=>zBP hs hna hnb) fun bz h5 D aj=>?_
   try simp only[zD] at aj
   subst aj;refine go2 ?_;refine zQ (h5) ?_ ⟨rfl,?_,trivial⟩ rfl rfl
   ·
    refine⟨((C.trans z).trans D),?_⟩
    trivial
   · exact congrArg some (congrArg vI ((yBC an).symm))
  refine go3 ?_;replace hnb:=hnb.mono ((I.trans C).trans z);replace hdb:=hdb.mono z;refine cL (ev1 rfl) call163 (fun w hs=>rI hs hnb hdb) fun bx h5 D aq=>?_;subst aq;refine uQ ?_;refine gU 3 49 (vB ((fY qa)∧(fY qb))) ?_ ?_
  ·
   refine zS (fY qa) (fun hg=>?_) (fun hg=>?_)
   ·
    refine gT hg rfl (go4 ?_);refine gqU ?_;exact congrArg some (yU hg)
   refine gF hg rfl (go3 ?_);refine gqU ?_;exact congrArg some (yV hg)
  refine gc2 (fun M=>?_) fun M=>?_
  ·
   have Z:=M.1;have U:=M.2;have bg:=gP Z;have bc:=gQ Z;have bf:=gP U;have bb:=gQ U;have cf:=qD bg bb;have ce:=qD bf bc;rw[zD6 Z,zD7 Z,zD6 U,zD7 U];refine zAK (fun am=>?_) fun am=>?_
   ·
    refine go3 ?_;refine zQ (h5) ?_ ⟨rfl,?_,trivial⟩ rfl rfl
    ·
     refine⟨((C.trans z).trans D),?_⟩
     trivial
    · exact congrArg some (congrArg vI ((j5 am).symm))
   refine zAK (fun ak=>?_) fun ak=>?_
   ·
    refine go3 ?_;refine zQ (h5) ?_ ⟨rfl,?_,trivial⟩ rfl rfl
    ·
     refine⟨((C.trans z).trans D),?_⟩
     trivial
    · exact congrArg some (congrArg vI ((j6 ak).symm))
   refine go1 ?_;refine zQ (h5) ?_ ⟨rfl,?_,trivial⟩ rfl rfl
   ·
    refine⟨((C.trans z).trans D),?_⟩
    trivial
   · exact congrArg some (congrArg vI ((zAO.2 oM).symm))
  refine zL 12 _ [] [(0,.q),(1,.q),(2,.q),(5,.q),(6,.q),(7,.q),(3,.c),(4,.c),(8,.c),(9,.c),(10,.c),(11,.q)] yA nX (by kernel_rfl) nX (fun r hr=>hr) (go6 ?_);refine w_c rfl ?_;replace hnb:=hnb.mono D;replace hdb:=hdb.mono D;refine sC (ev1 rfl) call166 (fun w hs=>fW hs hnb hdb) fun bw h6 ab ai=>?_;rw[uG] at ai;refine w_c rfl ?_;replace hna:=hna.mono (((C.trans z).trans D).trans ab);refine sC (ev2 rfl rfl) call165 (fun w hs=>tO hs hna ai oM oM) fun bv h7 aa G=>?_
  try simp only[zD] at G
  have bi:=yH ((qa.num.natAbs)) ((qb.den));refine w_c rfl ?_;replace hna:=hna.mono aa;replace hda:=hda.mono (((z.trans D).trans ab).trans aa);refine sC (ev1 rfl) call166 (fun w hs=>fW hs hna hda) fun bu h8 ao ah=>?_;rw[uG] at ah;refine w_c rfl ?_;replace hnb:=hnb.mono ((ab.trans aa).trans ao);refine sC (ev2 rfl rfl) call165 (fun w hs=>tO hs hnb ah oM oM) fun bt h9 ax ae=>?_
  try simp only[zD] at ae
  have bh:=yH ((qb.num.natAbs)) ((qa.den));refine w_c rfl ?_;replace G:=G.mono (ao.trans ax);refine sC (ev2 rfl rfl) call204 (fun w hs=>zBP hs G ae) fun bs bj ay ad=>?_
  try simp only[zD] at ad
  subst ad;refine go2 ?_;refine zQ (bj) ?_ e2z rfl rfl;refine⟨(((((((C.trans z).trans D).trans ab).trans aa).trans ao).trans ax).trans ay),?_⟩
  trivial
 rintro mc ⟨bk,br⟩
 refine yW ?_;have cg:=zJP qa qb;refine gc7 (fun J=>?_) fun J=>?_
 ·
  refine go3 ?_;refine gv (lK rfl oM oM) rfl (go5 ?_);refine zC rfl rfl ?_;rw[zNJ ap J]
 refine go9 ?_;refine zC rfl rfl ?_;rw[zJK ap J]
theorem zVO{w0:World}{h0:Mem}(hs:MLe h0 (mem w0)){qa:Rat}{vna vda:Value}(hna:Us .u32 h0 vna (zB qa.num.natAbs))(hda:Us .u32 h0 vda (zB (wA qa.den))){qb:Rat}{vnb vdb:Value}(hnb:Us .u32 h0 vnb (zB qb.num.natAbs))(hdb:Us .u32 h0 vdb (zB (wA qb.den)))(hqa:lq qa≤100000000000)(hqb:lq qb≤100000000000):
 Calls Tryz.prog 153 #[.agg #[vB (qa.num<0),vna,vda],.agg #[vB (qb.num<0),vnb,vdb]] w0 (Ret w0 h0 (fun h r=>wS h r (qa*qb))):=by
 have bk:=vH qa;have bm:=wY qa;have bo:=wW qa;have bj:=vH qb;have bl:=wY qb;have bn:=wW qb;rw[←zSG];refine cb2 64 (.agg #[vB (qa.num<0),vna,vda]) (.agg #[vB (qb.num<0),vnb,vdb]) func153 hs ?_;refine go2 ?_;refine zI (wF (cs:=[_,_,_]) rfl rfl) rfl rfl rfl ?_;intro v2 r2 bi;obtain⟨b2,rfl,rfl⟩:=bi;refine zI (wF (cs:=[_,_,_]) rfl rfl) rfl rfl rfl ?_;intro v3 r3 bh;obtain⟨b3,rfl,rfl⟩:=bh;refine zI (vV (cs:=[vB ((0:Rat).num<0),.slice none 0 0,.slice none 0 0]) xS rfl (by simp only[zb];rfl)) rfl rfl rfl ?_;intro v4 r4 bg;obtain⟨b4,rfl,rfl⟩:=bg;refine go9 ?_;refine gU 6 20 (vB (((↑(zB qa.num.natAbs).length:Int)=(0:Int))∨((↑(zB qb.num.natAbs).length:Int)=(0:Int)))) ?_ ?_
 ·
  refine zS ((↑(zB qa.num.natAbs).length:Int)=(0:Int)) (fun hg=>?_) (fun hg=>?_)
  ·
   refine gT hg rfl (go6 ?_);refine gqU ?_;exact congrArg some (wU hg)
  refine gF hg rfl (uA ?_);refine gqU ?_;exact congrArg some (wV hg)
 refine gc2 (fun am=>?_) fun am=>?_
 ·
  refine go2 ?_;refine gv (xR (ps':=[]) (vs:=[vB ((0:Rat).num<0),.slice none 0 0,.slice none 0 0]) underlying29 xS rfl (uL underlying29) trivial (by simp only[zb];exact qU)) rfl (xZ (A:=[]) (r':=.var b4 29 [vB ((0:Rat).num<0),.slice none 0 0,.slice none 0 0]) (zK (k:=0) (cs:=[_,_,_]) (vs:=[_,_,_]) rfl rfl rfl rfl yC (bL rfl)) rfl rfl rfl (go4 ?_));refine yS (fun E S=>yD rfl (wE (cs:=[_,_,_]) mh0 underlying29 rfl yC rfl) E S) ?_
  rcases am with h|h
  · rw[cD h,show(0:Rat).num.natAbs=0 from rfl,Nat.zero_mul,y6];exact wS.zero _
  · rw[cD h,show(0:Rat).num.natAbs=0 from rfl,Nat.mul_zero,y6];exact wS.zero _
 refine go6 ?_;refine cL (ev1 rfl) call163 (fun w hs=>rI hs hna hda) fun br h1 O ay=>?_;subst ay;refine tG ?_;refine cnd (fun ak=>?_) fun ak=>?_
 ·
  have ad:=ak;have az:=gP ad;have an:=gQ ad;refine go3 ?_;replace hnb:=hnb.mono O;replace hdb:=hdb.mono O;refine cL (ev1 rfl) call163 (fun w hs=>rI hs hnb hdb) fun bq h2 G ax=>?_;subst ax;refine tG ?_;refine cnd (fun aj=>?_) fun aj=>?_
  ·
   have ac:=aj;have ao:=gP ac;have av:=gQ ac;have bw:=qD az av;have bv:=qD ao an;have bu:=qD an av;have bt:=qD az ao;have bs:=qD an ao;have bz:qa.den*qb.den≠0:=Nat.mul_ne_zero qa.den_nz qb.den_nz;simp only[zD6 ad,zD7 ad,zD6 ac,zD7 ac];refine go6 ?_;refine gv (tA underlying4 rfl rfl) rfl (go6 ?_);refine cL (ev3 rfl rfl rfl) call164 (fun w hs=>cY hs oM oM oM) fun bp h3 D aw=>?_;obtain⟨ar,au,rfl,ah,ai⟩:=aw;refine xZ (A:=[]) (r':=.var b4 29 [vB ((mkRat (sg (¬((qa.num<0)↔(qb.num<0))) (qa.num.natAbs*qb.num.natAbs)) (qa.den*qb.den)).num<0),ar,au]) (zK (k:=0) (cs:=[_,_,_]) (vs:=[_,_,_]) rfl rfl rfl (ocr rfl (ocu ah (ocu ai oc0))) yC (bL rfl)) rfl rfl rfl (go4 ?_);refine yS (fun E S=>yD rfl (wE (cs:=[_,_,_]) mh0 underlying29 rfl yC rfl) E S) ?_;exact⟨_,_,rfl,ah,ai⟩
  refine go3 ?_;refine zL 16 _ [] [(0,.q),(1,.q),(2,.q),(3,.q),(4,.q),(5,.q),(6,.q),(7,.q),(8,.q),(10,.q),(12,.q),(9,.c),(11,.c),(13,.c),(14,.c),(15,.c),(16,.t)] yA nX (by kernel_rfl) nX (fun r hr=>hr) (go4 ?_);refine xN rfl (fun _ _=>tA underlying4 rfl rfl) rfl (go6 ?_);refine w_c rfl ?_;replace hna:=hna.mono (O.trans G);replace hnb:=hnb.mono G;refine sC (ev2 rfl rfl) call165 (fun w hs=>tO hs hna hnb oM oM) fun bf h3 D C=>?_
  try simp only[zD] at C
  have aq:=yH ((qa.num.natAbs)) ((qb.num.natAbs));refine w_c rfl ?_;replace hna:=hna.mono D;replace hda:=hda.mono ((O.trans G).trans D);refine sC (ev1 rfl) call166 (fun w hs=>fW hs hna hda) fun be h4 Z z=>?_;rw[uG] at z;refine w_c rfl ?_;replace hnb:=hnb.mono (D.trans Z);replace hdb:=hdb.mono ((G.trans D).trans Z);refine sC (ev1 rfl) call166 (fun w hs=>fW hs hnb hdb) fun bd h5 ae J=>?_;rw[uG] at J;refine w_c rfl ?_;replace z:=z.mono ae;refine sC (ev2 rfl rfl) call165 (fun w hs=>tO hs z J oM oM) fun bc h6 ba I=>?_
  try simp only[zD] at I
  have ap:=yH ((qa.den)) ((qb.den));refine w_c rfl ?_;replace C:=C.mono ((Z.trans ae).trans ba);refine sC (ev3 rfl rfl rfl) call155 (fun w hs=>jY hs C I oM oM) fun bb h7 bx H=>?_
  try simp only[zD] at H
  obtain⟨aa,ab,rfl,M,U⟩:=H;refine pO (A:=[]) (q':=.var b4 29 [vB ((mkRat (sg (¬((qa.num<0)↔(qb.num<0))) (((((qa.num.natAbs))*((qb.num.natAbs)))))) (((((qa.den))*((qb.den)))))).num<0),aa,ab]) rfl (zK (k:=0) (cs:=[_,_,_]) (vs:=[_,_,_]) rfl rfl rfl (ocr rfl (ocu M (ocu U oc0))) yC (bL rfl)) rfl (go3 ?_);refine yS (fun E S=>yD rfl (wE (cs:=[_,_,_]) mh0 underlying29 rfl yC rfl) E S) ?_;exact⟨_,_,rfl,M,U⟩
 refine go3 ?_;refine zL 16 _ [] [(0,.q),(1,.q),(2,.q),(3,.q),(4,.q),(5,.q),(6,.q),(7,.q),(8,.q),(10,.q),(12,.q),(9,.c),(11,.c),(13,.c),(14,.c),(15,.c),(16,.t)] yA nX (by kernel_rfl) nX (fun r hr=>hr) (go4 ?_);refine xN rfl (fun _ _=>tA underlying4 rfl rfl) rfl (go6 ?_);refine w_c rfl ?_;replace hna:=hna.mono O;replace hnb:=hnb.mono O;refine sC (ev2 rfl rfl) call165 (fun w hs=>tO hs hna hnb oM oM) fun bf h2 G C=>?_
 try simp only[zD] at C
 have aq:=yH ((qa.num.natAbs)) ((qb.num.natAbs));refine w_c rfl ?_;replace hna:=hna.mono G;replace hda:=hda.mono (O.trans G);refine sC (ev1 rfl) call166 (fun w hs=>fW hs hna hda) fun be h3 D z=>?_;rw[uG] at z;refine w_c rfl ?_;replace hnb:=hnb.mono (G.trans D);replace hdb:=hdb.mono ((O.trans G).trans D);refine sC (ev1 rfl) call166 (fun w hs=>fW hs hnb hdb) fun bd h4 Z J=>?_;rw[uG] at J;refine w_c rfl ?_;replace z:=z.mono Z;refine sC (ev2 rfl rfl) call165 (fun w hs=>tO hs z J oM oM) fun bc h5 ae I=>?_
 try simp only[zD] at I
 have ap:=yH ((qa.den)) ((qb.den));refine w_c rfl ?_;replace C:=C.mono ((D.trans Z).trans ae);refine sC (ev3 rfl rfl rfl) call155 (fun w hs=>jY hs C I oM oM) fun bb h6 ba H=>?_
 try simp only[zD] at H
 obtain⟨aa,ab,rfl,M,U⟩:=H;refine pO (A:=[]) (q':=.var b4 29 [vB ((mkRat (sg (¬((qa.num<0)↔(qb.num<0))) (((((qa.num.natAbs))*((qb.num.natAbs)))))) (((((qa.den))*((qb.den)))))).num<0),aa,ab]) rfl (zK (k:=0) (cs:=[_,_,_]) (vs:=[_,_,_]) rfl rfl rfl (ocr rfl (ocu M (ocu U oc0))) yC (bL rfl)) rfl (go3 ?_);refine yS (fun E S=>yD rfl (wE (cs:=[_,_,_]) mh0 underlying29 rfl yC rfl) E S) ?_;exact⟨_,_,rfl,M,U⟩
theorem zVN{w0:World}{h0:Mem}(hs:MLe h0 (mem w0)){qa:Rat}{vna vda:Value}(hna:Us .u32 h0 vna (zB qa.num.natAbs))(hda:Us .u32 h0 vda (zB (wA qa.den))){qb:Rat}{vnb vdb:Value}(hnb:Us .u32 h0 vnb (zB qb.num.natAbs))(hdb:Us .u32 h0 vdb (zB (wA qb.den)))(hqa:lq qa≤100000000000)(hqb:lq qb≤100000000000):
 Calls Tryz.prog 123 #[.agg #[vB (qa.num<0),vna,vda],.agg #[vB (qb.num<0),vnb,vdb]] w0 (Ret w0 h0 (fun h r=>∃u,r=.tuple #[u,vI (if qb=0 then 3 else 0)]∧wS h u (if qb=0 then 0 else qa/qb))):=by
 have bp:=vH qa;have br:=wY qa;have bt:=wW qa;have bo:=vH qb;have bq:=wY qb;have bs:=wW qb;refine cb2 58 (.agg #[vB (qa.num<0),vna,vda]) (.agg #[vB (qb.num<0),vnb,vdb]) func123 hs ?_;refine go2 ?_;refine zI (wF (cs:=[_,_,_]) rfl rfl) rfl rfl rfl ?_;intro v2 r2 bm;obtain⟨b2,rfl,rfl⟩:=bm;refine zI (wF (cs:=[_,_,_]) rfl rfl) rfl rfl rfl ?_;intro v3 r3 bl;obtain⟨b3,rfl,rfl⟩:=bl;refine zI (vV (cs:=[vB ((0:Rat).num<0),.slice none 0 0,.slice none 0 0]) xS rfl (by simp only[zb];rfl)) rfl rfl rfl ?_;intro v4 r4 bk;obtain⟨b4,rfl,rfl⟩:=bk;refine go7 ?_;refine cL (ev1 rfl) call122 (fun w hs=>dY hs hnb hdb oM) fun bx h1 ab bb=>?_;have bj:=yY qb;subst bb;refine gc3 (fun ae=>?_) fun ae=>?_
 ·
  have Z:=uC.1 ae;rw[if_pos Z,if_pos Z];refine go2 ?_;refine gv (xR (ps':=[]) (vs:=[vB ((0:Rat).num<0),.slice none 0 0,.slice none 0 0]) underlying29 xS rfl (uL underlying29) trivial (by simp only[zb];exact qU)) rfl (xZ (A:=[]) (r':=.var b4 29 [vB ((0:Rat).num<0),.slice none 0 0,.slice none 0 0]) (zK (k:=0) (cs:=[_,_,_]) (vs:=[_,_,_]) rfl rfl rfl rfl yC (bL rfl)) rfl rfl rfl (go5 ?_));refine yS (fun E S=>jX rfl (wE (cs:=[_,_,_]) mh0 underlying29 rfl yC rfl) (sR rfl) E S) ?_;exact⟨_,rfl,wS.zero _⟩
 have Z:qb≠0:=fun h=>ae (uC.2 h);rw[if_neg Z,if_neg Z,←zRC qa Z];have bn:=zCY.2 Z;refine go6 ?_;replace hna:=hna.mono ab;replace hda:=hda.mono ab;refine cL (ev1 rfl) call163 (fun w hs=>rI hs hna hda) fun bw h2 O ba=>?_;subst ba;refine tG ?_;refine cnd (fun ao=>?_) fun ao=>?_
 ·
  have ai:=ao;have bc:=gP ai;have ap:=gQ ai;refine go3 ?_;replace hnb:=hnb.mono (ab.trans O);replace hdb:=hdb.mono (ab.trans O);refine cL (ev1 rfl) call163 (fun w hs=>rI hs hnb hdb) fun bv h3 M az=>?_;subst az;refine tG ?_;refine cnd (fun an=>?_) fun an=>?_
  ·
   have ah:=an;have aq:=gP ah;have ax:=gQ ah;have cd:=qD bc ax;have cc:=qD aq ap;have cb:=qD ap ax;have ca:=qD bc aq;have bz:=qD ap aq;have cf:qa.den*qb.num.natAbs≠0:=Nat.mul_ne_zero qa.den_nz bn;simp only[zD6 ai,zD7 ai,zD6 ah,zD7 ah];refine go6 ?_;refine gv (tA underlying4 rfl rfl) rfl (go6 ?_);refine cL (ev3 rfl rfl rfl) call164 (fun w hs=>cY hs oM oM oM) fun bu h4 J ay=>?_;obtain⟨av,aw,rfl,ak,am⟩:=ay;refine xZ (A:=[]) (r':=.var b4 29 [vB ((mkRat (sg (¬((qa.num<0)↔(qb.num<0))) (qa.num.natAbs*qb.den)) (qa.den*qb.num.natAbs)).num<0),av,aw]) (zK (k:=0) (cs:=[_,_,_]) (vs:=[_,_,_]) rfl rfl rfl (ocr rfl (ocu ak (ocu am oc0))) yC (bL rfl)) rfl rfl rfl (go5 ?_);refine yS (fun E S=>jX rfl (wE (cs:=[_,_,_]) mh0 underlying29 rfl yC rfl) (sR rfl) E S) ?_;exact⟨_,rfl,_,_,rfl,ak,am⟩
  refine go3 ?_;refine zL 16 _ [] [(0,.q),(1,.q),(2,.q),(3,.q),(4,.q),(5,.q),(6,.q),(7,.q),(10,.q),(12,.q),(13,.q),(8,.c),(9,.c),(11,.c),(14,.c),(15,.c),(16,.t),(17,.t)] yA nX (by kernel_rfl) nX (fun r hr=>hr) (go4 ?_);refine xN rfl (fun _ _=>tA underlying4 rfl rfl) rfl (go6 ?_);refine w_c rfl ?_;replace hnb:=hnb.mono M;replace hdb:=hdb.mono M;refine sC (ev1 rfl) call166 (fun w hs=>fW hs hnb hdb) fun bi h4 J H=>?_;rw[uG] at H;refine w_c rfl ?_;replace hna:=hna.mono ((O.trans M).trans J);refine sC (ev2 rfl rfl) call165 (fun w hs=>tO hs hna H oM oM) fun bh h5 aa z=>?_
  try simp only[zD] at z
  have au:=yH ((qa.num.natAbs)) ((qb.den));refine w_c rfl ?_;replace hna:=hna.mono aa;replace hda:=hda.mono (((O.trans M).trans J).trans aa);refine sC (ev1 rfl) call166 (fun w hs=>fW hs hna hda) fun bg h6 aj G=>?_;rw[uG] at G;refine w_c rfl ?_;replace hnb:=hnb.mono ((J.trans aa).trans aj);refine sC (ev2 rfl rfl) call165 (fun w hs=>tO hs G hnb oM oM) fun bf h7 bd D=>?_
  try simp only[zD] at D
  have ar:=yH ((qa.den)) ((qb.num.natAbs));refine w_c rfl ?_;replace z:=z.mono (aj.trans bd);refine sC (ev3 rfl rfl rfl) call155 (fun w hs=>jY hs z D oM oM) fun be h8 ce C=>?_
  try simp only[zD] at C
  obtain⟨ac,ad,rfl,I,U⟩:=C;refine pO (A:=[]) (q':=.var b4 29 [vB ((mkRat (sg (¬((qa.num<0)↔(qb.num<0))) (((((qa.num.natAbs))*((qb.den)))))) (((((qa.den))*((qb.num.natAbs)))))).num<0),ac,ad]) rfl (zK (k:=0) (cs:=[_,_,_]) (vs:=[_,_,_]) rfl rfl rfl (ocr rfl (ocu I (ocu U oc0))) yC (bL rfl)) rfl (zFV rfl (pJ (v:=vI (0)) rfl) rfl (go3 ?_));refine yS (fun E S=>jX rfl (wE (cs:=[_,_,_]) mh0 underlying29 rfl yC rfl) (sR rfl) E S) ?_;exact⟨_,rfl,_,_,rfl,I,U⟩
 refine go3 ?_;refine zL 16 _ [] [(0,.q),(1,.q),(2,.q),(3,.q),(4,.q),(5,.q),(6,.q),(7,.q),(10,.q),(12,.q),(13,.q),(8,.c),(9,.c),(11,.c),(14,.c),(15,.c),(16,.t),(17,.t)] yA nX (by kernel_rfl) nX (fun r hr=>hr) (go4 ?_);refine xN rfl (fun _ _=>tA underlying4 rfl rfl) rfl (go6 ?_);refine w_c rfl ?_;replace hnb:=hnb.mono (ab.trans O);replace hdb:=hdb.mono (ab.trans O);refine sC (ev1 rfl) call166 (fun w hs=>fW hs hnb hdb) fun bi h3 M H=>?_;rw[uG] at H;refine w_c rfl ?_;replace hna:=hna.mono (O.trans M);refine sC (ev2 rfl rfl) call165 (fun w hs=>tO hs hna H oM oM) fun bh h4 J z=>?_
 try simp only[zD] at z
 have au:=yH ((qa.num.natAbs)) ((qb.den));refine w_c rfl ?_;replace hna:=hna.mono J;replace hda:=hda.mono ((O.trans M).trans J);refine sC (ev1 rfl) call166 (fun w hs=>fW hs hna hda) fun bg h5 aa G=>?_;rw[uG] at G;refine w_c rfl ?_;replace hnb:=hnb.mono ((M.trans J).trans aa);refine sC (ev2 rfl rfl) call165 (fun w hs=>tO hs G hnb oM oM) fun bf h6 aj D=>?_
 try simp only[zD] at D
 have ar:=yH ((qa.den)) ((qb.num.natAbs));refine w_c rfl ?_;replace z:=z.mono (aa.trans aj);refine sC (ev3 rfl rfl rfl) call155 (fun w hs=>jY hs z D oM oM) fun be h7 bd C=>?_
 try simp only[zD] at C
 obtain⟨ac,ad,rfl,I,U⟩:=C;refine pO (A:=[]) (q':=.var b4 29 [vB ((mkRat (sg (¬((qa.num<0)↔(qb.num<0))) (((((qa.num.natAbs))*((qb.den)))))) (((((qa.den))*((qb.num.natAbs)))))).num<0),ac,ad]) rfl (zK (k:=0) (cs:=[_,_,_]) (vs:=[_,_,_]) rfl rfl rfl (ocr rfl (ocu I (ocu U oc0))) yC (bL rfl)) rfl (zFV rfl (pJ (v:=vI (0)) rfl) rfl (go3 ?_));refine yS (fun E S=>jX rfl (wE (cs:=[_,_,_]) mh0 underlying29 rfl yC rfl) (sR rfl) E S) ?_;exact⟨_,rfl,_,_,rfl,I,U⟩
theorem zH1{w0:World}{h0:Mem}(hs:MLe h0 (mem w0)){qa:Rat}{vna vda:Value}(hna:Us .u32 h0 vna (zB qa.num.natAbs))(hda:Us .u32 h0 vda (zB (wA qa.den))){qb:Rat}{vnb vdb:Value}(hnb:Us .u32 h0 vnb (zB qb.num.natAbs))(hdb:Us .u32 h0 vdb (zB (wA qb.den)))(hqa:lq qa≤100000000000)(hqb:lq qb≤100000000000){s:Prop}:
 Calls Tryz.prog 161 #[.agg #[vB (qa.num<0),vna,vda],.agg #[vB (qb.num<0),vnb,vdb],vB s] w0 (Ret w0 h0 (fun h r=>wS h r (qa+sgd s qb))):=by
 have dy:=vH qa;have ea:=wY qa;have ec:=wW qa;have dx:=vH qb;have dz:=wY qb;have eb:=wW qb;refine cb3 152 (.agg #[vB (qa.num<0),vna,vda]) (.agg #[vB (qb.num<0),vnb,vdb]) (vB s) func161 hs ?_;refine go2 ?_;refine zI (wF (cs:=[_,_,_]) rfl rfl) rfl rfl rfl ?_;intro v3 r3 dm;obtain⟨b3,rfl,rfl⟩:=dm;refine zI (wF (cs:=[_,_,_]) rfl rfl) rfl rfl rfl ?_;intro v4 r4 dl;obtain⟨b4,rfl,rfl⟩:=dl;refine zI (vV (cs:=[vB ((0:Rat).num<0),.slice none 0 0,.slice none 0 0]) xS rfl (by simp only[zb];rfl)) rfl rfl rfl ?_;intro v6 r6 dk;obtain⟨b6,rfl,rfl⟩:=dk;refine go2 ?_;refine qN (ι:=Mem) (fun(mc:(Mem))=>MLe h0 mc∧(True)) (fun(mc:(Mem))=>[(2,vB s),(3,vP b3 0),(4,vP b4 0),(6,vP b6 0)]) (fun(mc:(Mem))=>[.var b6 29 [vB ((0:Rat).num<0),.slice none 0 0,.slice none 0 0],.var b4 29 [vB (qb.num<0),vnb,vdb],.var b3 29 [vB (qa.num<0),vna,vda]]) (fun(mc:(Mem))=>mc) ?_ ?_
 ·
  refine go3 ?_;refine cL (ev1 rfl) call163 (fun w hs=>rI hs hna hda) fun ej h1 O dd=>?_;subst dd;refine tG ?_;refine cnd (fun cb=>?_) fun cb=>?_
  ·
   have bo:=cb;have de:=gP bo;have cd:=gQ bo;refine go3 ?_;replace hnb:=hnb.mono O;replace hdb:=hdb.mono O;refine cL (ev1 rfl) call163 (fun w hs=>rI hs hnb hdb) fun ei h2 J dc=>?_;subst dc;refine tG ?_;refine cnd (fun ca=>?_) fun ca=>?_
   ·
    have bn:=ca;have cf:=gP bn;have cy:=gQ bn;have eo:=qD de cy;have en:=qD cf cd;have em:=qD cd cy;have el:=qD de cf;have ek:=qD cd cf;have ep:qa.den*qb.den≠0:=Nat.mul_ne_zero qa.den_nz qb.den_nz;simp only[zD6 bo,zD7 bo,zD6 bn,zD7 bn];refine iX ?_;refine gv (zRR (vs:=[_,_,vU .u64 0]) (yDU _ _) e3z) rfl (rM ?_);refine gv (bQ underlying4 rfl rfl) rfl ?_;refine gU 4 56 (vB (((qa.num<0)↔(s))∧((((qa.num.natAbs*qb.den)+(qb.num.natAbs*qa.den))/18446744073709551616)=(0:Nat)))) ?_ ?_
    ·
     refine zS ((qa.num<0)↔(s)) (fun hg=>?_) (fun hg=>?_)
     ·
      refine gT hg rfl (go3 ?_);refine gv (gE (k:=.u64) (q:=0) rfl rfl) rfl (go2 ?_);refine gqU ?_;exact congrArg some (yU hg)
     refine gF hg rfl (go4 ?_);refine gqU ?_;exact congrArg some (yV hg)
    refine gc3 (fun bz=>?_) fun bz=>?_
    ·
     obtain⟨cc,eq⟩:=bz;refine go7 ?_;refine cL (ev3 rfl rfl rfl) call164 (fun w hs=>cY hs oM oM oM) fun eh h3 I db=>?_;obtain⟨cj,cm,rfl,be,bj⟩:=db;refine xZ (A:=[]) (r':=.var b6 29 [vB ((mkRat (sg (s) (((qa.num.natAbs*qb.den)+(qb.num.natAbs*qa.den))%18446744073709551616)) (qa.den*qb.den)).num<0),cj,cm]) (zK (k:=0) (cs:=[_,_,_]) (vs:=[_,_,_]) rfl rfl rfl (ocr rfl (ocu be (ocu bj oc0))) yC (bL rfl)) rfl rfl rfl (go5 ?_);refine yS (fun E S=>yD rfl (wE (cs:=[_,_,_]) mh0 underlying29 rfl yC rfl) E S) ?_;have e:=Nat.mod_eq_of_lt (a:=qa.num.natAbs*qb.den+qb.num.natAbs*qa.den) (b:=18446744073709551616) oM;rw[e] at be bj ⊢;rw[zBV cc];exact⟨_,_,rfl,be,bj⟩
    refine go5 ?_;refine gv (tA underlying4 rfl rfl) rfl ?_;refine gU 5 72 (vB ((¬((qa.num<0)↔(s)))∧((qb.num.natAbs*qa.den)≤(qa.num.natAbs*qb.den)))) ?_ ?_
    ·
     refine zS (¬((qa.num<0)↔(s))) (fun hg=>?_) (fun hg=>?_)
     ·
      refine gT hg rfl (go8 ?_);refine gqU ?_;exact congrArg some (yU hg)
     refine gF hg rfl (go5 ?_);refine gqU ?_;exact congrArg some (yV hg)
    refine gc3 (fun bl=>?_) fun bl=>?_
    ·
     obtain⟨cc,bi⟩:=bl;refine go6 ?_;refine gv (bP (k:=.u64) (W:=18446744073709551616) rfl rfl rfl rfl oM oM) rfl (go3 ?_);refine cL (ev3 rfl rfl rfl) call164 (fun w hs=>cY hs oM oM oM) fun eg h3 I da=>?_;obtain⟨ci,cl,rfl,bv,bx⟩:=da;refine xZ (A:=[]) (r':=.var b6 29 [vB ((mkRat (sg (qa.num<0) ((qa.num.natAbs*qb.den)-(qb.num.natAbs*qa.den))) (qa.den*qb.den)).num<0),ci,cl]) (zK (k:=0) (cs:=[_,_,_]) (vs:=[_,_,_]) rfl rfl rfl (ocr rfl (ocu bv (ocu bx oc0))) yC (bL rfl)) rfl rfl rfl (go5 ?_);refine yS (fun E S=>yD rfl (wE (cs:=[_,_,_]) mh0 underlying29 rfl yC rfl) E S) ?_;rw[zBJ cc bi];exact⟨_,_,rfl,bv,bx⟩
    refine go5 ?_;refine gv (tA underlying4 rfl rfl) rfl (gc3 (fun bk=>?_) fun bk=>?_)
    ·
     have bp:¬qb.num.natAbs*qa.den≤qa.num.natAbs*qb.den:=fun h=>bl ⟨bk,h⟩;refine go5 ?_;refine gv (bP (k:=.u64) (W:=18446744073709551616) rfl rfl rfl rfl oM oM) rfl (go3 ?_);refine cL (ev3 rfl rfl rfl) call164 (fun w hs=>cY hs oM oM oM) fun ef h3 I cz=>?_;obtain⟨ch,ck,rfl,bu,bw⟩:=cz;refine xZ (A:=[]) (r':=.var b6 29 [vB ((mkRat (sg (s) ((qb.num.natAbs*qa.den)-(qa.num.natAbs*qb.den))) (qa.den*qb.den)).num<0),ch,ck]) (zK (k:=0) (cs:=[_,_,_]) (vs:=[_,_,_]) rfl rfl rfl (ocr rfl (ocu bu (ocu bw oc0))) yC (bL rfl)) rfl rfl rfl (go5 ?_);refine yS (fun E S=>yD rfl (wE (cs:=[_,_,_]) mh0 underlying29 rfl yC rfl) E S) ?_;rw[dM bk oM];exact⟨_,_,rfl,bu,bw⟩
    refine go2 ?_;refine zQ (h2) ?_ e4z rfl rfl;refine⟨(O.trans J),?_⟩
    trivial
   refine go1 ?_;refine zQ (h2) ?_ e4z rfl rfl;refine⟨(O.trans J),?_⟩
   trivial
  refine go1 ?_;refine zQ (h1) ?_ e4z rfl rfl;refine⟨O,?_⟩
  trivial
 rintro mc ⟨an,ee⟩
 refine yW ?_;refine go1 ?_;refine zL 9 _ [] [(0,.q),(1,.q),(2,.q),(3,.q),(4,.q),(5,.c),(6,.q),(7,.q),(8,.q)] yA nX (by kernel_rfl) nX (fun r hr=>hr) (go5 ?_);refine w_c rfl ?_;replace hna:=hna.mono an;replace hda:=hda.mono an;refine sC (ev1 rfl) call166 (fun w hs=>fW hs hna hda) fun dw h1 O z=>?_;rw[uG] at z;refine uQ ?_;replace hda:=hda.mono O;replace hdb:=hdb.mono (an.trans O);refine cL (ev2 rfl rfl) call193 (fun w hs=>dO hs hda hdb) fun dv h2 J ce=>?_;subst ce;refine gc3 (fun bm=>?_) fun bm=>?_
 ·
  refine zL 15 _ [] [(0,.q),(1,.q),(4,.q),(5,.q),(8,.q),(9,.q),(2,.c),(3,.c),(6,.c),(7,.c),(10,.c),(11,.c),(12,.q),(13,.q),(14,.q)] yA nX (by kernel_rfl) nX (fun r hr=>hr) (go6 ?_);refine w_c rfl ?_;replace hnb:=hnb.mono ((an.trans O).trans J);replace hdb:=hdb.mono J;refine sC (ev1 rfl) call166 (fun w hs=>fW hs hnb hdb) fun du h3 I bd=>?_;rw[uG] at bd;refine w_c rfl ?_;replace hna:=hna.mono ((O.trans J).trans I);refine sC (ev2 rfl rfl) call165 (fun w hs=>tO hs hna bd oM oM) fun dt h4 ao G=>?_
  try simp only[zD] at G
  have dj:=yH ((qa.num.natAbs)) ((qb.den));refine w_c rfl ?_;replace hna:=hna.mono ao;replace hda:=hda.mono ((J.trans I).trans ao);refine sC (ev1 rfl) call166 (fun w hs=>fW hs hna hda) fun dr h5 ba bc=>?_;rw[uG] at bc;refine w_c rfl ?_;replace hnb:=hnb.mono ((I.trans ao).trans ba);refine sC (ev2 rfl rfl) call165 (fun w hs=>tO hs hnb bc oM oM) fun dq h6 bg D=>?_
  try simp only[zD] at D
  have di:=yH ((qb.num.natAbs)) ((qa.den));refine w_c rfl ?_;replace hnb:=hnb.mono bg;replace hdb:=hdb.mono (((I.trans ao).trans ba).trans bg);refine sC (ev1 rfl) call166 (fun w hs=>fW hs hnb hdb) fun dp h7 bf bb=>?_;rw[uG] at bb;refine w_c rfl ?_;replace z:=z.mono (((((J.trans I).trans ao).trans ba).trans bg).trans bf);refine sC (ev2 rfl rfl) call165 (fun w hs=>tO hs z bb oM oM) fun dn h8 bt C=>?_
  try simp only[zD] at C
  have dh:=yH ((qa.den)) ((qb.den));refine qA ?_;refine gv (bQ underlying4 rfl rfl) rfl (gc2 (fun H=>?_) fun H=>?_)
  ·
   refine go5 ?_;replace G:=G.mono (((ba.trans bg).trans bf).trans bt);replace D:=D.mono (bf.trans bt);refine cL (ev2 rfl rfl) call191 (fun w hs=>eN hs G D oM oM) fun cu h9 az ad=>?_
   try simp only[zD] at ad
   have bs:=jS (((((qa.num.natAbs))*((qb.den))))) (((((qb.num.natAbs))*((qa.den)))));refine go1 ?_;replace C:=C.mono az;refine cL (ev3 rfl rfl rfl) call155 (fun w hs=>jY hs ad C oM oM) fun ct df bh ac=>?_
   try simp only[zD] at ac
   obtain⟨ar,aw,rfl,ai,am⟩:=ac;refine xZ (A:=[]) (r':=.var b6 29 [vB ((mkRat (sg (s) ((((((((qa.num.natAbs))*((qb.den)))))+(((((qb.num.natAbs))*((qa.den))))))))) (((((qa.den))*((qb.den)))))).num<0),ar,aw]) (zK (k:=0) (cs:=[_,_,_]) (vs:=[_,_,_]) rfl rfl rfl (ocr rfl (ocu ai (ocu am oc0))) yC (bL rfl)) rfl rfl rfl (go4 ?_);refine yS (fun E S=>yD rfl (wE (cs:=[_,_,_]) mh0 underlying29 rfl yC rfl) E S) ?_;rw[zBV H];exact⟨_,_,rfl,ai,am⟩
  refine go7 ?_;replace G:=G.mono (((ba.trans bg).trans bf).trans bt);replace D:=D.mono (bf.trans bt);refine cL (ev2 rfl rfl) call195 (fun w hs=>zBN hs G D oM) fun cq h9 az ay=>?_;obtain⟨cw,rfl,Z⟩:=ay
  try simp only[zD] at Z ⊢
  have br:=yF (Nat.sub_le (((((qa.num.natAbs))*((qb.den))))) (((((qb.num.natAbs))*((qa.den))))));refine rM ?_;refine cnd (fun M=>?_) fun M=>?_
  ·
   have bi:=zQE M;rw[if_neg bi];refine go6 ?_;replace C:=C.mono az;refine cL (ev3 rfl rfl rfl) call155 (fun w hs=>jY hs Z C oM oM) fun cp df bh ab=>?_
   try simp only[zD] at ab
   obtain⟨aq,av,rfl,ah,ak⟩:=ab;refine xZ (A:=[]) (r':=.var b6 29 [vB ((mkRat (sg (qa.num<0) ((((((((qa.num.natAbs))*((qb.den)))))-(((((qb.num.natAbs))*((qa.den))))))))) (((((qa.den))*((qb.den)))))).num<0),aq,av]) (zK (k:=0) (cs:=[_,_,_]) (vs:=[_,_,_]) rfl rfl rfl (ocr rfl (ocu ah (ocu ak oc0))) yC (bL rfl)) rfl rfl rfl (go4 ?_);refine yS (fun E S=>yD rfl (wE (cs:=[_,_,_]) mh0 underlying29 rfl yC rfl) E S) ?_;rw[zBJ H oM];exact⟨_,_,rfl,ah,ak⟩
  have bp:=zQF M;rw[if_pos bp];refine go6 ?_;replace G:=G.mono az;replace D:=D.mono az;refine cL (ev2 rfl rfl) call195 (fun w hs=>zBN hs D G oM) fun co df bh ax=>?_;obtain⟨cv,rfl,U⟩:=ax
  try simp only[zD] at U ⊢
  have bq:=yF (Nat.sub_le (((((qb.num.natAbs))*((qa.den))))) (((((qa.num.natAbs))*((qb.den))))));refine uQ ?_;replace C:=C.mono (az.trans bh);refine cL (ev3 rfl rfl rfl) call155 (fun w hs=>jY hs U C oM oM) fun cn er ed aa=>?_
  try simp only[zD] at aa
  obtain⟨ap,au,rfl,ae,aj⟩:=aa;refine xZ (A:=[]) (r':=.var b6 29 [vB ((mkRat (sg (s) ((((((((qb.num.natAbs))*((qa.den)))))-(((((qa.num.natAbs))*((qb.den))))))))) (((((qa.den))*((qb.den)))))).num<0),ap,au]) (zK (k:=0) (cs:=[_,_,_]) (vs:=[_,_,_]) rfl rfl rfl (ocr rfl (ocu ae (ocu aj oc0))) yC (bL rfl)) rfl rfl rfl (go3 ?_);refine yS (fun E S=>yD rfl (wE (cs:=[_,_,_]) mh0 underlying29 rfl yC rfl) E S) ?_;rw[dM H oM];exact⟨_,_,rfl,ae,aj⟩
 have cg:=zLV.1 (Classical.not_not.1 bm);refine go8 ?_;refine gv (bQ underlying4 rfl rfl) rfl (gc2 (fun H=>?_) fun H=>?_)
 ·
  refine go5 ?_;replace hna:=hna.mono (O.trans J);replace hnb:=hnb.mono ((an.trans O).trans J);refine cL (ev2 rfl rfl) call191 (fun w hs=>eN hs hna hnb oM oM) fun cu h3 I ad=>?_
  try simp only[zD] at ad
  have bs:=jS ((qa.num.natAbs)) ((qb.num.natAbs));refine go1 ?_;replace z:=z.mono (J.trans I);refine cL (ev3 rfl rfl rfl) call155 (fun w hs=>jY hs ad z oM oM) fun ct h4 ao ac=>?_
  try simp only[zD] at ac
  obtain⟨ar,aw,rfl,ai,am⟩:=ac;refine xZ (A:=[]) (r':=.var b6 29 [vB ((mkRat (sg (s) (((((qa.num.natAbs))+((qb.num.natAbs)))))) ((qa.den))).num<0),ar,aw]) (zK (k:=0) (cs:=[_,_,_]) (vs:=[_,_,_]) rfl rfl rfl (ocr rfl (ocu ai (ocu am oc0))) yC (bL rfl)) rfl rfl rfl (go4 ?_);refine yS (fun E S=>yD rfl (wE (cs:=[_,_,_]) mh0 underlying29 rfl yC rfl) E S) ?_;rw[zUG H cg];exact⟨_,_,rfl,ai,am⟩
 refine go7 ?_;replace hna:=hna.mono (O.trans J);replace hnb:=hnb.mono ((an.trans O).trans J);refine cL (ev2 rfl rfl) call195 (fun w hs=>zBN hs hna hnb oM) fun cq h3 I ay=>?_;obtain⟨cw,rfl,Z⟩:=ay
 try simp only[zD] at Z ⊢
 have br:=yF (Nat.sub_le ((qa.num.natAbs)) ((qb.num.natAbs)));refine rM ?_;refine cnd (fun M=>?_) fun M=>?_
 ·
  have bi:=zQE M;rw[if_neg bi];refine go6 ?_;replace z:=z.mono (J.trans I);refine cL (ev3 rfl rfl rfl) call155 (fun w hs=>jY hs Z z oM oM) fun cp h4 ao ab=>?_
  try simp only[zD] at ab
  obtain⟨aq,av,rfl,ah,ak⟩:=ab;refine xZ (A:=[]) (r':=.var b6 29 [vB ((mkRat (sg (qa.num<0) (((((qa.num.natAbs))-((qb.num.natAbs)))))) ((qa.den))).num<0),aq,av]) (zK (k:=0) (cs:=[_,_,_]) (vs:=[_,_,_]) rfl rfl rfl (ocr rfl (ocu ah (ocu ak oc0))) yC (bL rfl)) rfl rfl rfl (go4 ?_);refine yS (fun E S=>yD rfl (wE (cs:=[_,_,_]) mh0 underlying29 rfl yC rfl) E S) ?_;rw[zQD H cg oM];exact⟨_,_,rfl,ah,ak⟩
 have bp:=zQF M;rw[if_pos bp];refine go6 ?_;replace hna:=hna.mono I;replace hnb:=hnb.mono I;refine cL (ev2 rfl rfl) call195 (fun w hs=>zBN hs hnb hna oM) fun co h4 ao ax=>?_;obtain⟨cv,rfl,U⟩:=ax
 try simp only[zD] at U ⊢
 have bq:=yF (Nat.sub_le ((qb.num.natAbs)) ((qa.num.natAbs)));refine uQ ?_;replace z:=z.mono ((J.trans I).trans ao);refine cL (ev3 rfl rfl rfl) call155 (fun w hs=>jY hs U z oM oM) fun cn h5 ba aa=>?_
 try simp only[zD] at aa
 obtain⟨ap,au,rfl,ae,aj⟩:=aa;refine xZ (A:=[]) (r':=.var b6 29 [vB ((mkRat (sg (s) (((((qb.num.natAbs))-((qa.num.natAbs)))))) ((qa.den))).num<0),ap,au]) (zK (k:=0) (cs:=[_,_,_]) (vs:=[_,_,_]) rfl rfl rfl (ocr rfl (ocu ae (ocu aj oc0))) yC (bL rfl)) rfl rfl rfl (go3 ?_);refine yS (fun E S=>yD rfl (wE (cs:=[_,_,_]) mh0 underlying29 rfl yC rfl) E S) ?_;rw[zN0 H cg oM];exact⟨_,_,rfl,ae,aj⟩
end Go.Proofs.YtpkaegemlpaenaaGreat
namespace Go.Proofs.YtpkaegemlpaenaaGreat
open Bk Go Tryz
set_option linter.unusedVariables false
set_option linter.unusedSimpArgs false
set_option maxRecDepth 10000
set_option maxHeartbeats 1000000
attribute [local irreducible] GL GC GQ W OpV
theorem zVR{w0:World}{h0:Mem}(hs:MLe h0 (mem w0)){qa:Rat}{vna vda:Value}(hna:Us .u32 h0 vna (zB qa.num.natAbs))(hda:Us .u32 h0 vda (zB (wA qa.den))){qb:Rat}{vnb vdb:Value}(hnb:Us .u32 h0 vnb (zB qb.num.natAbs))(hdb:Us .u32 h0 vdb (zB (wA qb.den)))(hqa:lq qa≤100000000000)(hqb:lq qb≤100000000000):
 Calls Tryz.prog 160 #[.agg #[vB (qa.num<0),vna,vda],.agg #[vB (qb.num<0),vnb,vdb]] w0 (Ret w0 h0 (fun h r=>wS h r (qa+qb))):=by
 have aa:=vH qa;have ac:=wY qa;have ae:=wW qa;have Z:=vH qb;have ab:=wY qb;have ad:=wW qb;refine cb2 10 (.agg #[vB (qa.num<0),vna,vda]) (.agg #[vB (qb.num<0),vnb,vdb]) func160 hs ?_;refine go2 ?_;refine zI (wF (cs:=[_,_,_]) rfl rfl) rfl rfl rfl ?_;intro v2 r2 M;obtain⟨b2,rfl,rfl⟩:=M;refine zI (wF (cs:=[_,_,_]) rfl rfl) rfl rfl rfl ?_;intro v3 r3 J;obtain⟨b3,rfl,rfl⟩:=J;refine zI (vV (cs:=[vB ((0:Rat).num<0),.slice none 0 0,.slice none 0 0]) xS rfl (by simp only[zb];rfl)) rfl rfl rfl ?_;intro v4 r4 I;obtain⟨b4,rfl,rfl⟩:=I;refine go8 ?_;refine cL (ev3 rfl rfl rfl) call161 (fun w hs=>zH1 hs hna hda hnb hdb oM oM) fun v9 h1 ah H=>?_;obtain⟨D,G,rfl,z,C⟩:=H;have U:=bU qa (sgd (qb.num<0) qb);have O:=zSP (qb.num<0) qb;refine xZ (A:=[]) (r':=.var b4 29 [vB ((qa+sgd (qb.num<0) qb).num<0),D,G]) (zK (k:=0) (cs:=[_,_,_]) (vs:=[_,_,_]) rfl rfl rfl (ocr rfl (ocu z (ocu C oc0))) yC (bL rfl)) rfl rfl rfl (go3 ?_);refine yS (fun E S=>yD rfl (wE (cs:=[_,_,_]) mh0 underlying29 rfl yC rfl) E S) ?_;rw[dS] at z C ⊢;exact⟨_,_,rfl,z,C⟩
theorem zVM{w0:World}{h0:Mem}(hs:MLe h0 (mem w0)){qa:Rat}{vna vda:Value}(hna:Us .u32 h0 vna (zB qa.num.natAbs))(hda:Us .u32 h0 vda (zB (wA qa.den))){qb:Rat}{vnb vdb:Value}(hnb:Us .u32 h0 vnb (zB qb.num.natAbs))(hdb:Us .u32 h0 vdb (zB (wA qb.den)))(hqa:lq qa≤100000000000)(hqb:lq qb≤100000000000):
 Calls Tryz.prog 121 #[.agg #[vB (qa.num<0),vna,vda],.agg #[vB (qb.num<0),vnb,vdb]] w0 (Ret w0 h0 (fun h r=>wS h r (qa-qb))):=by
 have aa:=vH qa;have ac:=wY qa;have ae:=wW qa;have Z:=vH qb;have ab:=wY qb;have ad:=wW qb;refine cb2 11 (.agg #[vB (qa.num<0),vna,vda]) (.agg #[vB (qb.num<0),vnb,vdb]) func121 hs ?_;refine go2 ?_;refine zI (wF (cs:=[_,_,_]) rfl rfl) rfl rfl rfl ?_;intro v2 r2 M;obtain⟨b2,rfl,rfl⟩:=M;refine zI (wF (cs:=[_,_,_]) rfl rfl) rfl rfl rfl ?_;intro v3 r3 J;obtain⟨b3,rfl,rfl⟩:=J;refine zI (vV (cs:=[vB ((0:Rat).num<0),.slice none 0 0,.slice none 0 0]) xS rfl (by simp only[zb];rfl)) rfl rfl rfl ?_;intro v4 r4 I;obtain⟨b4,rfl,rfl⟩:=I;refine go9 ?_;refine cL (ev3 rfl rfl rfl) call161 (fun w hs=>zH1 hs hna hda hnb hdb oM oM) fun ah h1 ai H=>?_;obtain⟨D,G,rfl,z,C⟩:=H;have U:=bU qa (sgd (¬(qb.num<0)) qb);have O:=zSP (¬(qb.num<0)) qb;refine xZ (A:=[]) (r':=.var b4 29 [vB ((qa+sgd (¬(qb.num<0)) qb).num<0),D,G]) (zK (k:=0) (cs:=[_,_,_]) (vs:=[_,_,_]) rfl rfl rfl (ocr rfl (ocu z (ocu C oc0))) yC (bL rfl)) rfl rfl rfl (go3 ?_);refine yS (fun E S=>yD rfl (wE (cs:=[_,_,_]) mh0 underlying29 rfl yC rfl) E S) ?_;rw[zVE,←Rat.sub_eq_add_neg] at z C ⊢;exact⟨_,_,rfl,z,C⟩
theorem zVP{w0:World}{h0:Mem}(hs:MLe h0 (mem w0)){n:Int}(hn1:-9223372036854775808≤n)(hn2:n<9223372036854775808):
 Calls Tryz.prog 116 #[vI n] w0 (Ret w0 h0 (fun h r=>wS h r (n:Rat))):=by
 refine cb1 9 (vI n) func116 hs ?_;refine go2 ?_;refine zI (vV (cs:=[vB ((0:Rat).num<0),.slice none 0 0,.slice none 0 0]) xS rfl (by simp only[zb];rfl)) rfl rfl rfl ?_;intro v2 r2 M;obtain⟨b2,rfl,rfl⟩:=M;refine go7 ?_;refine cL (ev1 rfl) call156 (fun w hs=>zRA hs oM oM) fun v6 h1 ab z=>?_;have Z:=kT (n:=n) oM oM;refine cL (vs:=[]) trivial call157 (fun w hs=>zMM hs) fun v7 h2 O H=>?_;rw[eM] at H;have U:=zGR;replace z:=z.mono O;refine cL (ev3 rfl rfl rfl) call155 (fun w hs=>jY hs z H oM oM) fun v8 h3 aa G=>?_
 try simp only[zD] at G
 obtain⟨I,J,rfl,C,D⟩:=G;refine xZ (A:=[]) (r':=.var b2 29 [vB ((mkRat (sg (n<(0:Int)) (((n).natAbs))) ((1))).num<0),I,J]) (zK (k:=0) (cs:=[_,_,_]) (vs:=[_,_,_]) rfl rfl rfl (ocr rfl (ocu C (ocu D oc0))) yC (bL rfl)) rfl rfl rfl (go3 ?_);refine yS (fun E S=>yD rfl (wE (cs:=[_,_,_]) mh0 underlying29 rfl yC rfl) E S) ?_;rw[zGS] at C D ⊢;exact⟨_,_,rfl,C,D⟩
end Go.Proofs.YtpkaegemlpaenaaGreat
namespace Go.Proofs.YtpkaegemlpaenaaGreat
open Bk Go Tryz
set_option linter.unusedVariables false
set_option linter.unusedSimpArgs false
set_option maxRecDepth 10000
set_option maxHeartbeats 1000000
attribute [local irreducible] GL GC GQ W OpV
theorem tZ{w0:World}{h0:Mem}(hs:MLe h0 (mem w0)){sa:Prop}{ba vna vda:Value}{xa ya:List Nat}(hba:ba=vB sa)(hna:Us .u32 h0 vna xa)(hda:Us .u32 h0 vda ya):
 Calls Tryz.prog 51 #[.agg #[ba,vna,vda]] w0 (Ret w0 h0 (fun h r=>Us .u32 h r (if ya=[] then[1] else ya))):=by
 subst hba;have J:=uE hna.lt;have I:=uE hda.lt;refine cb1 10 (.agg #[vB sa,vna,vda]) func51 hs ?_;refine go2 ?_;refine zI (wF (cs:=[_,_,_]) rfl rfl) rfl rfl rfl ?_;intro v1 r1 G;obtain⟨b1,rfl,rfl⟩:=G;refine zG1 (fun C=>?_) fun C=>?_
 ·
  refine go2 ?_;refine zI (rA (kd:=.u32) (p:=1) underlying27 vW rfl rfl rfl) rfl rfl rfl ?_;intro U Z D;obtain rfl:=D;refine yL (by intro z H;simp only[List.mem_singleton] at H;subst H;decide) ?_;intro h1 M O;refine go5 ?_;refine zC rfl rfl ?_;rw[if_pos (zI4.1 C)];exact O
 refine uA ?_;refine zC rfl rfl ?_;rw[if_neg (fun h=>C (zI4.2 h))];exact hda
end Go.Proofs.YtpkaegemlpaenaaGreat
namespace Go.Proofs.YtpkaegemlpaenaaGreat
open Bk Go Tryz
set_option linter.unusedVariables false
set_option linter.unusedSimpArgs false
set_option maxRecDepth 10000
set_option maxHeartbeats 1000000
attribute [local irreducible] GL GC GQ W OpV
theorem rH{w0:World}{h0:Mem}(hs:MLe h0 (mem w0)){s:Prop}{vn vd:Value}{xs ys:List Nat}(hn:Us .u32 h0 vn xs)(hd:Us .u32 h0 vd ys)(hl:xs.length≤500000000000)(hl':ys.length≤500000000000)(hd0:val ys≠0):
 Calls Tryz.prog 82 #[vB s,vn,vd] w0 (Ret w0 h0 (fun h r=>wS h r (mkRat (sg s (val xs)) (val ys)))):=by
 have ba:=uE hn.lt;have az:=uE hd.lt;refine cb3 55 (vB s) vn vd func82 hs ?_;refine go2 ?_;refine zI (vV (cs:=[vB ((0:Rat).num<0),.slice none 0 0,.slice none 0 0]) xS rfl (by simp only[zb];rfl)) rfl rfl rfl ?_;intro v6 r6 am;obtain⟨b6,rfl,rfl⟩:=am;refine go5 ?_;refine cL (ev1 rfl) call92 (fun w hs=>fI hs hn oM) fun v9 h1 ar z=>(go1 ?_);replace hd:=hd.mono ar;refine cL (ev1 rfl) call92 (fun w hs=>fI hs hd oM) fun ae h2 aq D=>?_;replace z:=z.mono aq;refine zG1 (fun ak=>?_) fun ak=>?_
 ·
  refine go2 ?_;refine gv (xR (ps':=[]) (vs:=[vB ((0:Rat).num<0),.slice none 0 0,.slice none 0 0]) underlying29 xS rfl (uL underlying29) trivial (by simp only[zb];exact qU)) rfl (xZ (A:=[]) (r':=.var b6 29 [vB ((0:Rat).num<0),.slice none 0 0,.slice none 0 0]) (zK (k:=0) (cs:=[_,_,_]) (vs:=[_,_,_]) rfl rfl rfl rfl yC (bL rfl)) rfl rfl rfl (go4 ?_));refine yS (fun E S=>yD rfl (wE (cs:=[_,_,_]) mh0 underlying29 rfl yC rfl) E S) ?_;have e:val xs=0:=Classical.byContradiction fun e=>by have:=yK.2 e;omega
  rw[e,y6];exact wS.zero _
 have ab:val xs≠0:=yK.1 oM;have bb:Nat.gcd (val xs) (val ys)≠0:=Nat.ne_of_gt (Nat.gcd_pos_of_pos_left _ oM);refine go6 ?_;refine cL (ev2 rfl rfl) call126 (fun w hs=>zVK hs z D oM oM) fun aw h3 U I=>?_;have ap:=iD ((val (xs))) ((val (ys)));refine go9 ?_;refine gU 6 27 (vB (((↑(zB (Nat.gcd ((val (xs))) ((val (ys))))).length:Int)≠(1:Int))∨(((zB (Nat.gcd ((val (xs))) ((val (ys))))).getD (0) 0)≠(1:Nat)))) ?_ ?_
 ·
  refine zS ((↑(zB (Nat.gcd ((val (xs))) ((val (ys))))).length:Int)≠(1:Int)) (fun J=>?_) (fun J=>?_)
  ·
   refine gT J rfl (go6 ?_);refine gqU ?_;exact congrArg some (wU J)
  refine gF J rfl (go3 ?_);refine gv (zO (q:=0) (0) underlying27 sizeOf124 rfl rfl I rfl oM) rfl (go3 ?_);refine gv (fJ (k:=.u32) (q:=1) rfl rfl) rfl (go2 ?_);refine gqU ?_;exact congrArg some (wV J)
 refine gc2 (fun Z=>?_) fun Z=>?_
 ·
  refine go4 ?_;replace z:=z.mono U;refine cL (ev2 rfl rfl) call127 (fun w hs=>zF6 hs z I oM oM) fun av h4 aj ad=>?_;obtain⟨aa,ay,rfl,G,ad⟩:=ad;have ao:=yF (Nat.div_le_self ((val (xs))) ((Nat.gcd ((val (xs))) ((val (ys))))));refine uA ?_;replace D:=D.mono (U.trans aj);replace I:=I.mono aj;refine cL (ev2 rfl rfl) call127 (fun w hs=>zF6 hs D I oM oM) fun au h5 ai ac=>?_;obtain⟨ah,ax,rfl,M,ac⟩:=ac;have an:=yF (Nat.div_le_self ((val (ys))) ((Nat.gcd ((val (xs))) ((val (ys))))));refine rM ?_;refine gU 6 50 (vB (((↑(zB (((val (ys)))/((Nat.gcd ((val (xs))) ((val (ys))))))).length:Int)=(1:Int))∧(((zB (((val (ys)))/((Nat.gcd ((val (xs))) ((val (ys))))))).getD (0) 0)=(1:Nat)))) ?_ ?_
  ·
   refine zS ((↑(zB (((val (ys)))/((Nat.gcd ((val (xs))) ((val (ys))))))).length:Int)=(1:Int)) (fun J=>?_) (fun J=>?_)
   ·
    refine gT J rfl (go3 ?_);refine gv (zO (q:=0) (0) underlying27 sizeOf124 rfl rfl M rfl oM) rfl (go3 ?_);refine gv (gE (k:=.u32) (q:=1) rfl rfl) rfl (go2 ?_);refine gqU ?_;exact congrArg some (yU J)
   refine gF J rfl (go6 ?_);refine gqU ?_;exact congrArg some (yV J)
  refine gc2 (fun H=>?_) fun H=>?_
  ·
   refine go9 ?_;replace G:=G.mono ai;refine gv (xR (ps':=[(0,_),(1,_),(2,_)]) (vs:=[vB s,aa,.slice none 0 0]) underlying29 xS rfl (uL underlying29) e6z (wK (A:=[]) (B:=[_]) (C:=[_,_]) (cs:=[_]) (off:=0) (size:=1) rfl rfl rfl rfl rfl (wK (A:=[_]) (B:=[_]) (C:=[_]) (cs:=[_]) (off:=1) (size:=1) rfl rfl rfl rfl G.cells (wK (A:=[_,_]) (B:=[_]) (C:=[]) (cs:=[_]) (off:=2) (size:=1) rfl rfl rfl rfl rfl qU)))) rfl (xZ (A:=[]) (r':=.var b6 29 [vB s,aa,.slice none 0 0]) (zK (k:=0) (cs:=[_,_,_]) (vs:=[_,_,_]) rfl rfl rfl (ocr rfl (ocu G (ocr rfl oc0))) yC (bL rfl)) rfl rfl rfl (go3 ?_));refine yS (fun E S=>yD rfl (wE (cs:=[_,_,_]) mh0 underlying29 rfl yC rfl) E S) ?_;exact wS.fin1 ab hd0 G H
  refine go7 ?_;replace G:=G.mono ai;refine gv (xR (ps':=[(0,_),(1,_),(2,_)]) (vs:=[vB s,aa,ah]) underlying29 xS rfl (uL underlying29) e6z (wK (A:=[]) (B:=[_]) (C:=[_,_]) (cs:=[_]) (off:=0) (size:=1) rfl rfl rfl rfl rfl (wK (A:=[_]) (B:=[_]) (C:=[_]) (cs:=[_]) (off:=1) (size:=1) rfl rfl rfl rfl G.cells (wK (A:=[_,_]) (B:=[_]) (C:=[]) (cs:=[_]) (off:=2) (size:=1) rfl rfl rfl rfl M.cells qU)))) rfl (xZ (A:=[]) (r':=.var b6 29 [vB s,aa,ah]) (zK (k:=0) (cs:=[_,_,_]) (vs:=[_,_,_]) rfl rfl rfl (ocr rfl (ocu G (ocu M oc0))) yC (bL rfl)) rfl rfl rfl (go3 ?_));refine yS (fun E S=>yD rfl (wE (cs:=[_,_,_]) mh0 underlying29 rfl yC rfl) E S) ?_;exact wS.fin ab hd0 G M H
 replace D:=D.mono U;refine go8 ?_;refine gU 6 50 (vB (((↑(zB (val (ys))).length:Int)=(1:Int))∧(((zB (val (ys))).getD (0) 0)=(1:Nat)))) ?_ ?_
 ·
  refine zS ((↑(zB (val (ys))).length:Int)=(1:Int)) (fun J=>?_) (fun J=>?_)
  ·
   refine gT J rfl (go3 ?_);refine gv (zO (q:=0) (0) underlying27 sizeOf124 rfl rfl D rfl oM) rfl (go3 ?_);refine gv (gE (k:=.u32) (q:=1) rfl rfl) rfl (go2 ?_);refine gqU ?_;exact congrArg some (yU J)
  refine gF J rfl (go6 ?_);refine gqU ?_;exact congrArg some (yV J)
 refine gc2 (fun H=>?_) fun H=>?_
 ·
  refine go9 ?_;replace z:=z.mono U;refine gv (xR (ps':=[(0,_),(1,_),(2,_)]) (vs:=[vB s,v9,.slice none 0 0]) underlying29 xS rfl (uL underlying29) e6z (wK (A:=[]) (B:=[_]) (C:=[_,_]) (cs:=[_]) (off:=0) (size:=1) rfl rfl rfl rfl rfl (wK (A:=[_]) (B:=[_]) (C:=[_]) (cs:=[_]) (off:=1) (size:=1) rfl rfl rfl rfl z.cells (wK (A:=[_,_]) (B:=[_]) (C:=[]) (cs:=[_]) (off:=2) (size:=1) rfl rfl rfl rfl rfl qU)))) rfl (xZ (A:=[]) (r':=.var b6 29 [vB s,v9,.slice none 0 0]) (zK (k:=0) (cs:=[_,_,_]) (vs:=[_,_,_]) rfl rfl rfl (ocr rfl (ocu z (ocr rfl oc0))) yC (bL rfl)) rfl rfl rfl (go3 ?_));refine yS (fun E S=>yD rfl (wE (cs:=[_,_,_]) mh0 underlying29 rfl yC rfl) E S) ?_;have O:=zDI Z;exact wS.fin1 ab hd0 (by rw[O,Nat.div_one];exact z) (by rw[O,Nat.div_one];exact H)
 refine go7 ?_;replace z:=z.mono U;refine gv (xR (ps':=[(0,_),(1,_),(2,_)]) (vs:=[vB s,v9,ae]) underlying29 xS rfl (uL underlying29) e6z (wK (A:=[]) (B:=[_]) (C:=[_,_]) (cs:=[_]) (off:=0) (size:=1) rfl rfl rfl rfl rfl (wK (A:=[_]) (B:=[_]) (C:=[_]) (cs:=[_]) (off:=1) (size:=1) rfl rfl rfl rfl z.cells (wK (A:=[_,_]) (B:=[_]) (C:=[]) (cs:=[_]) (off:=2) (size:=1) rfl rfl rfl rfl D.cells qU)))) rfl (xZ (A:=[]) (r':=.var b6 29 [vB s,v9,ae]) (zK (k:=0) (cs:=[_,_,_]) (vs:=[_,_,_]) rfl rfl rfl (ocr rfl (ocu z (ocu D oc0))) yC (bL rfl)) rfl rfl rfl (go3 ?_));refine yS (fun E S=>yD rfl (wE (cs:=[_,_,_]) mh0 underlying29 rfl yC rfl) E S) ?_;have O:=zDI Z;exact wS.fin ab hd0 (by rw[O,Nat.div_one];exact z) (by rw[O,Nat.div_one];exact D) (by rw[O,Nat.div_one];exact H)
theorem t8{w0:World}{h0:Mem}(hs:MLe h0 (mem w0)){n:Int}(hn1:-9223372036854775808≤n)(hn2:n<9223372036854775808):
 Calls Tryz.prog 61 #[vI n] w0 (Ret w0 h0 (fun h r=>∃u,r=.tuple #[u,vB (n<0)]∧Us .u32 h u (zB n.natAbs))):=by
 refine cb1 15 (vI n) func61 hs ?_;refine rM ?_;refine cnd (fun z=>?_) fun z=>?_
 ·
  refine go4 ?_;refine gv (lK rfl oM oM) rfl (gv (iP (p:=(-(n+1)).toNat) (k':=.u64) (W:=18446744073709551616) underlying2 underlying125 rfl rfl (congrArg some (congrArg vI oM)) oM) rfl (gv (tB (k:=.u64) (q:=1) (W:=18446744073709551616) rfl rfl rfl rfl oM) rfl (cL (ev1 rfl) call96 (fun w hs=>iM hs oM) fun I h1 G D=>(go6 ?_))));refine xY rfl rfl rfl ?_;rw[xE z,show n.natAbs=(-(n+1)).toNat+1 by omega];exact⟨_,rfl,D⟩
 refine go5 ?_;refine gv (iP (p:=n.toNat) (k':=.u64) (W:=18446744073709551616) underlying2 underlying125 rfl rfl (congrArg some (congrArg vI oM)) oM) rfl (cL (ev1 rfl) call96 (fun w hs=>iM hs oM) fun H h1 G C=>(go5 ?_));refine xY rfl rfl rfl ?_;rw[yJ z,show n.natAbs=n.toNat by omega];exact⟨_,rfl,C⟩
theorem zOB{w0:World}{h0:Mem}(hs:MLe h0 (mem w0)){n:Int}(hn1:-9223372036854775808≤n)(hn2:n<9223372036854775808){d:Int}(hd1:-9223372036854775808≤d)(hd2:d<9223372036854775808):
 Calls Tryz.prog 54 #[vI n,vI d] w0 (Ret w0 h0 (fun h r=>∃u,r=.tuple #[u,vI (if d=0 then 3 else 0)]∧wS h u (kG n d))):=by
 refine cb2 29 (vI n) (vI d) func54 hs ?_;refine go2 ?_;refine zI (vV (cs:=[vB ((0:Rat).num<0),.slice none 0 0,.slice none 0 0]) xS rfl (by simp only[zb];rfl)) rfl rfl rfl ?_;intro v4 r4 Z;obtain⟨b4,rfl,rfl⟩:=Z;refine zBF (fun z=>?_) fun z=>?_
 ·
  refine go2 ?_;refine gv (xR (ps':=[]) (vs:=[vB ((0:Rat).num<0),.slice none 0 0,.slice none 0 0]) underlying29 xS rfl (uL underlying29) trivial (by simp only[zb];exact qU)) rfl (xZ (A:=[]) (r':=.var b4 29 [vB ((0:Rat).num<0),.slice none 0 0,.slice none 0 0]) (zK (k:=0) (cs:=[_,_,_]) (vs:=[_,_,_]) rfl rfl rfl rfl yC (bL rfl)) rfl rfl rfl (go5 ?_));refine yS (fun E S=>jX rfl (wE (cs:=[_,_,_]) mh0 underlying29 rfl yC rfl) (sR rfl) E S) ?_;rw[if_pos z,z,zC8];exact⟨_,rfl,wS.zero _⟩
 have an:d.natAbs≠0:=by omega
 refine go5 ?_;refine cL (ev1 rfl) call61 (fun w hs=>t8 hs oM oM) fun ah h1 am U=>?_;obtain⟨aj,rfl,C⟩:=U;have ab:=kT (n:=n) oM oM;refine uA ?_;refine cL (ev1 rfl) call61 (fun w hs=>t8 hs oM oM) fun ae h2 ac O=>?_;obtain⟨ai,rfl,M⟩:=O;have aa:=kT (n:=d) oM oM;refine qA ?_;refine gv (tA underlying4 rfl rfl) rfl (go2 ?_);replace C:=C.mono ac;refine cL (ev3 rfl rfl rfl) call82 (fun w hs=>rH hs C M oM oM (by first|(simp only[zD];omega)|(simp only[zD];first|exact Rat.den_nz _|exact Nat.mul_ne_zero (Rat.den_nz _) (Rat.den_nz _)|exact Nat.one_ne_zero|assumption)|assumption)) fun ad h3 ak D=>?_
 try simp only[zD] at D
 obtain⟨I,J,rfl,G,H⟩:=D;refine xZ (A:=[]) (r':=.var b4 29 [vB ((mkRat (sg (¬((n<0)↔(d<0))) (((n).natAbs))) (((d).natAbs))).num<0),I,J]) (zK (k:=0) (cs:=[_,_,_]) (vs:=[_,_,_]) rfl rfl rfl (ocr rfl (ocu G (ocu H oc0))) yC (bL rfl)) rfl rfl rfl (go4 ?_);refine yS (fun E S=>jX rfl (wE (cs:=[_,_,_]) mh0 underlying29 rfl yC rfl) (sR rfl) E S) ?_;rw[if_neg z,←zIY z];exact⟨_,rfl,_,_,rfl,G,H⟩
theorem zQZ{w0:World}{h0:Mem}(hs:MLe h0 (mem w0)){n:Int}(hn1:-9223372036854775808≤n)(hn2:n<9223372036854775808):
 Calls Tryz.prog 27 #[vI n] w0 (Ret w0 h0 (fun h r=>wS h r (n:Rat))):=by
 refine cb1 13 (vI n) func27 hs ?_;refine go2 ?_;refine zI (vV (cs:=[vB ((0:Rat).num<0),.slice none 0 0,.slice none 0 0]) xS rfl (by simp only[zb];rfl)) rfl rfl rfl ?_;intro v2 r2 G;obtain⟨M,rfl,rfl⟩:=G;refine go5 ?_;refine cL (ev1 rfl) call61 (fun w hs=>t8 hs oM oM) fun O h1 J D=>?_;obtain⟨H,rfl,z⟩:=D;have I:=kT (n:=n) oM oM;refine qA ?_;refine gv (xR (ps':=[(0,_),(1,_)]) (vs:=[vB (n<0),H,.slice none 0 0]) underlying29 xS rfl (uL underlying29) e4z (wK (A:=[]) (B:=[_]) (C:=[_,_]) (cs:=[_]) (off:=0) (size:=1) rfl rfl rfl rfl rfl (wK (A:=[_]) (B:=[_]) (C:=[_]) (cs:=[_]) (off:=1) (size:=1) rfl rfl rfl rfl z.cells qU))) rfl (xZ (A:=[]) (r':=.var M 29 [vB (n<0),H,.slice none 0 0]) (zK (k:=0) (cs:=[_,_,_]) (vs:=[_,_,_]) rfl rfl rfl (ocr rfl (ocu z (ocr rfl oc0))) yC (bL rfl)) rfl rfl rfl (go3 ?_));refine yS (fun E S=>yD rfl (wE (cs:=[_,_,_]) mh0 underlying29 rfl yC rfl) E S) ?_;exact wS.int z
theorem zET{w0:World}{h0:Mem}(hs:MLe h0 (mem w0)){n:Int}(hn1:-9223372036854775808≤n)(hn2:n<9223372036854775808){d:Int}(hd1:-9223372036854775808≤d)(hd2:d<9223372036854775808):
 Calls Tryz.prog 21 #[vI n,vI d] w0 (Ret w0 h0 (fun h r=>wS h r (kG n d))):=by
 refine cb2 14 (vI n) (vI d) func21 hs ?_;refine go2 ?_;refine zI (vV (cs:=[vB ((0:Rat).num<0),.slice none 0 0,.slice none 0 0]) xS rfl (by simp only[zb];rfl)) rfl rfl rfl ?_;intro v4 r4 J;obtain⟨b4,rfl,rfl⟩:=J;refine go6 ?_;refine cL (ev2 rfl rfl) call54 (fun w hs=>zOB hs oM oM oM oM) fun O h1 U H=>?_;obtain⟨_,rfl,D,G,rfl,z,C⟩:=H;have M:=zGP (n:=n) (d:=d) oM oM oM oM;refine go3 ?_;refine zI (vV (cs:=[vB ((0:Rat).num<0),.slice none 0 0,.slice none 0 0]) xS rfl (by simp only[zb];rfl)) rfl rfl rfl ?_;intro v5 r5 I;obtain⟨Z,rfl,rfl⟩:=I;refine xZ (A:=[]) (r':=.var Z 29 [vB ((kG n d).num<0),D,G]) (zK (k:=0) (cs:=[_,_,_]) (vs:=[_,_,_]) rfl rfl rfl (ocr rfl (ocu z (ocu C oc0))) yC (bL rfl)) rfl rfl rfl (go6 ?_);refine xZ (A:=[_]) (r':=.var b4 29 [vB ((kG n d).num<0),D,G]) (zK (k:=0) (cs:=[_,_,_]) (vs:=[_,_,_]) rfl rfl rfl (ocr rfl (ocu z (ocu C oc0))) yC (bL rfl)) rfl rfl rfl (go3 ?_);refine yS (fun E S=>yD rfl (wE (cs:=[_,_,_]) mh1 underlying29 rfl yC rfl) E S) ?_;exact⟨_,_,rfl,z,C⟩
theorem zOA{w0:World}{h0:Mem}(hs:MLe h0 (mem w0)){qa:Rat}{vna vda:Value}(hna:Us .u32 h0 vna (zB qa.num.natAbs))(hda:Us .u32 h0 vda (zB (wA qa.den))){qb:Rat}{vnb vdb:Value}(hnb:Us .u32 h0 vnb (zB qb.num.natAbs))(hdb:Us .u32 h0 vdb (zB (wA qb.den)))(hqa:lq qa≤100000000000)(hqb:lq qb≤100000000000):
 Calls Tryz.prog 73 #[.agg #[vB (qa.num<0),vna,vda],.agg #[vB (qb.num<0),vnb,vdb]] w0 (Ret w0 h0 (fun _ r=>r=vB (qa=qb))):=by
 have ab:=vH qa;have ad:=wY qa;have ah:=wW qa;have aa:=vH qb;have ac:=wY qb;have ae:=wW qb;refine cb2 26 (.agg #[vB (qa.num<0),vna,vda]) (.agg #[vB (qb.num<0),vnb,vdb]) func73 hs ?_;refine go2 ?_;refine zI (wF (cs:=[_,_,_]) rfl rfl) rfl rfl rfl ?_;intro v2 r2 Z;obtain⟨b2,rfl,rfl⟩:=Z;refine zI (wF (cs:=[_,_,_]) rfl rfl) rfl rfl rfl ?_;intro v3 r3 U;obtain⟨b3,rfl,rfl⟩:=U;refine go9 ?_;refine gv (bQ underlying4 rfl rfl) rfl ?_;refine uS (ι:=Mem) 8 (fun G=>MLe h0 G) (fun _=>[(17,vB (((qa.num<0)↔(qb.num<0))∧((sM (qa.num.natAbs) (qb.num.natAbs))=(0:Int)))),(2,vP b2 0),(3,vP b3 0)]) (fun _=>[.var b3 29 [vB (qb.num<0),vnb,vdb],.var b2 29 [vB (qa.num<0),vna,vda]]) (fun G=>G) ?_ ?_
 ·
  refine zS ((qa.num<0)↔(qb.num<0)) (fun D=>?_) (fun D=>?_)
  ·
   refine gT D rfl (go9 ?_);refine cL (ev2 rfl rfl) call49 (fun w hs=>nO hs hna hnb) fun aj h1 H M=>?_;subst M;refine go4 ?_;refine zQ h1 H ⟨?_,rfl,rfl,trivial⟩ rfl rfl;exact congrArg some (yU D)
  refine gF D rfl (go8 ?_);refine zQ h0 (MLe.refl _) ⟨?_,rfl,rfl,trivial⟩ rfl rfl;exact congrArg some (yV D)
 intro C z;refine sE ?_;refine uS (ι:=Mem) 8 (fun G=>MLe C G) (fun _=>[(25,vB ((((qa.num<0)↔(qb.num<0))∧((sM (qa.num.natAbs) (qb.num.natAbs))=(0:Int)))∧((sM ((wA qa.den)) ((wA qb.den)))=(0:Int))))]) (fun _=>[.var b3 29 [vB (qb.num<0),vnb,vdb],.var b2 29 [vB (qa.num<0),vna,vda]]) (fun G=>G) ?_ ?_
 ·
  refine zS (((qa.num<0)↔(qb.num<0))∧((sM (qa.num.natAbs) (qb.num.natAbs))=(0:Int))) (fun D=>?_) (fun D=>?_)
  ·
   refine gT D rfl (go9 ?_);replace hda:=hda.mono z;replace hdb:=hdb.mono z;refine cL (ev2 rfl rfl) call49 (fun w hs=>nO hs hda hdb) fun ai h1 H J=>?_;subst J;refine go4 ?_;refine zQ h1 H ⟨?_,trivial⟩ rfl rfl;exact congrArg some (yU D)
  refine gF D rfl (go8 ?_);refine zQ C (MLe.refl _) ⟨?_,trivial⟩ rfl rfl;exact congrArg some (yV D)
 intro O I;refine sE ?_;refine go4 ?_;refine zC rfl rfl ?_;exact jI zTR
theorem s4{w0:World}{h0:Mem}(hs:MLe h0 (mem w0)){qa:Rat}{vna vda:Value}(hna:Us .u32 h0 vna (zB qa.num.natAbs))(hda:Us .u32 h0 vda (zB (wA qa.den)))(hqa:lq qa≤100000000000):
 Calls Tryz.prog 48 #[.agg #[vB (qa.num<0),vna,vda]] w0 (Ret w0 h0 (fun _ r=>r=vI (xC qa))):=by
 have G:=vH qa;have H:=wY qa;have I:=wW qa;refine cb1 9 (.agg #[vB (qa.num<0),vna,vda]) func48 hs ?_;refine go2 ?_;refine zI (wF (cs:=[_,_,_]) rfl rfl) rfl rfl rfl ?_;intro v1 r1 D;obtain⟨J,rfl,rfl⟩:=D;refine zG1 (fun C=>?_) fun C=>?_
 ·
  refine go7 ?_;refine zC rfl rfl ?_;rw[cX (cD C)]
 refine gc9 (fun z=>?_) fun z=>?_
 ·
  refine go7 ?_;refine zC rfl rfl ?_;rw[dR z]
 refine go8 ?_;refine zC rfl rfl ?_;rw[dQ (zCX C) z]
theorem zHX{w0:World}{h0:Mem}(hs:MLe h0 (mem w0)){qa:Rat}{vna vda:Value}(hna:Us .u32 h0 vna (zB qa.num.natAbs))(hda:Us .u32 h0 vda (zB (wA qa.den)))(hqa:lq qa≤100000000000):
 Calls Tryz.prog 87 #[.agg #[vB (qa.num<0),vna,vda]] w0 (Ret w0 h0 (fun h r=>wS h r (-qa))):=by
 have G:=vH qa;have H:=wY qa;have I:=wW qa;refine cb1 14 (.agg #[vB (qa.num<0),vna,vda]) func87 hs ?_;refine go2 ?_;refine zI (wF (cs:=[_,_,_]) rfl rfl) rfl rfl rfl ?_;intro v1 r1 D;obtain⟨M,rfl,rfl⟩:=D;refine zI (vV (cs:=[vB ((0:Rat).num<0),.slice none 0 0,.slice none 0 0]) xS rfl (by simp only[zb];rfl)) rfl rfl rfl ?_;intro v2 r2 C;obtain⟨J,rfl,rfl⟩:=C;refine go7 ?_;refine gU 6 11 (vB ((¬(qa.num<0))∧((0:Int)<(↑(zB qa.num.natAbs).length:Int)))) ?_ ?_
 ·
  refine zS (¬(qa.num<0)) (fun z=>?_) (fun z=>?_)
  ·
   refine gT z rfl (uA ?_);refine gqU ?_;exact congrArg some (yU z)
  refine gF z rfl (go6 ?_);refine gqU ?_;exact congrArg some (yV z)
 refine go1 ?_;refine xZ (A:=[_]) (r':=.var M 29 [vB ((¬(qa.num<0))∧((0:Int)<(↑(zB qa.num.natAbs).length:Int))),vna,vda]) (zK (k:=0) (cs:=[_,_,_]) (vs:=[_]) rfl rfl rfl rfl zQK (bL rfl)) rfl rfl rfl (go5 ?_);refine xZ (A:=[]) (r':=.var J 29 [vB ((¬(qa.num<0))∧((0:Int)<(↑(zB qa.num.natAbs).length:Int))),vna,vda]) (zK (k:=0) (cs:=[_,_,_]) (vs:=[_,_,_]) rfl rfl rfl (ocr rfl (ocu hna (ocu hda oc0))) yC (bL rfl)) rfl rfl rfl (go3 ?_);refine yS (fun E S=>yD rfl (wE (cs:=[_,_,_]) mh0 underlying29 rfl yC rfl) E S) ?_;exact wS.negB hna hda
theorem zQ1{w0:World}{h0:Mem}(hs:MLe h0 (mem w0)){qa:Rat}{vna vda:Value}(hna:Us .u32 h0 vna (zB qa.num.natAbs))(hda:Us .u32 h0 vda (zB (wA qa.den)))(hqa:lq qa≤100000000000):
 Calls Tryz.prog 103 #[.agg #[vB (qa.num<0),vna,vda]] w0 (Ret w0 h0 (fun h r=>wS h r (iZ qa))):=by
 have D:=vH qa;have G:=wY qa;have H:=wW qa;refine cb1 5 (.agg #[vB (qa.num<0),vna,vda]) func103 hs ?_;refine go2 ?_;refine zI (wF (cs:=[_,_,_]) rfl rfl) rfl rfl rfl ?_;intro v1 r1 C;obtain⟨J,rfl,rfl⟩:=C;refine zI (vV (cs:=[vB ((0:Rat).num<0),.slice none 0 0,.slice none 0 0]) xS rfl (by simp only[zb];rfl)) rfl rfl rfl ?_;intro v2 r2 z;obtain⟨I,rfl,rfl⟩:=z;refine go5 ?_;refine xZ (A:=[_]) (r':=.var J 29 [.bool false,vna,vda]) (zK (k:=0) (cs:=[_,_,_]) (vs:=[_]) rfl rfl rfl rfl zQK (bL rfl)) rfl rfl rfl (go5 ?_);refine xZ (A:=[]) (r':=.var I 29 [.bool false,vna,vda]) (zK (k:=0) (cs:=[_,_,_]) (vs:=[_,_,_]) rfl rfl rfl (ocr rfl (ocu hna (ocu hda oc0))) yC (bL rfl)) rfl rfl rfl (go3 ?_);refine yS (fun E S=>yD rfl (wE (cs:=[_,_,_]) mh0 underlying29 rfl yC rfl) E S) ?_;exact wS.abs hna hda
theorem zCA{w0:World}{h0:Mem}(hs:MLe h0 (mem w0)){qa:Rat}{vna vda:Value}(hna:Us .u32 h0 vna (zB qa.num.natAbs))(hda:Us .u32 h0 vda (zB (wA qa.den))){qb:Rat}{vnb vdb:Value}(hnb:Us .u32 h0 vnb (zB qb.num.natAbs))(hdb:Us .u32 h0 vdb (zB (wA qb.den)))(hqa:lq qa≤100000000000)(hqb:lq qb≤100000000000):
 Calls Tryz.prog 45 #[.agg #[vB (qa.num<0),vna,vda],.agg #[vB (qb.num<0),vnb,vdb]] w0 (Ret w0 h0 (fun h r=>wS h r (qa+qb))):=by
 have bv:=vH qa;have bx:=wY qa;have ca:=wW qa;have bu:=vH qb;have bw:=wY qb;have bz:=wW qb;refine cb2 75 (.agg #[vB (qa.num<0),vna,vda]) (.agg #[vB (qb.num<0),vnb,vdb]) func45 hs ?_;refine go2 ?_;refine zI (wF (cs:=[_,_,_]) rfl rfl) rfl rfl rfl ?_;intro v2 r2 bm;obtain⟨b2,rfl,rfl⟩:=bm;refine zI (wF (cs:=[_,_,_]) rfl rfl) rfl rfl rfl ?_;intro v3 r3 bl;obtain⟨b3,rfl,rfl⟩:=bl;refine zI (vV (cs:=[vB ((0:Rat).num<0),.slice none 0 0,.slice none 0 0]) xS rfl (by simp only[zb];rfl)) rfl rfl rfl ?_;intro v4 r4 bk;obtain⟨b4,rfl,rfl⟩:=bk;refine zAK (fun aw=>?_) fun aw=>?_
 ·
  refine go3 ?_;refine xZ (A:=[]) (r':=.var b4 29 [vB (qb.num<0),vnb,vdb]) (zK (k:=0) (cs:=[_,_,_]) (vs:=[_,_,_]) rfl rfl rfl (ocr rfl (ocu hnb (ocu hdb oc0))) yC (bL rfl)) rfl rfl rfl (go4 ?_);refine yS (fun E S=>yD rfl (wE (cs:=[_,_,_]) mh0 underlying29 rfl yC rfl) E S) ?_;rw[cD aw,Rat.zero_add];exact⟨_,_,rfl,hnb,hdb⟩
 refine zAK (fun av=>?_) fun av=>?_
 ·
  refine go3 ?_;refine xZ (A:=[]) (r':=.var b4 29 [vB (qa.num<0),vna,vda]) (zK (k:=0) (cs:=[_,_,_]) (vs:=[_,_,_]) rfl rfl rfl (ocr rfl (ocu hna (ocu hda oc0))) yC (bL rfl)) rfl rfl rfl (go4 ?_);refine yS (fun E S=>yD rfl (wE (cs:=[_,_,_]) mh0 underlying29 rfl yC rfl) E S) ?_;rw[cD av,Rat.add_zero];exact⟨_,_,rfl,hna,hda⟩
 refine go3 ?_;refine zL 12 _ [] [(0,.q),(1,.q),(2,.q),(5,.q),(6,.q),(7,.q),(3,.c),(4,.c),(8,.c),(9,.c),(10,.q),(11,.q)] yA nX (by kernel_rfl) nX (fun r hr=>hr) (go6 ?_);refine w_c rfl (sC (ev1 rfl) call51 (fun w hs=>tZ hs rfl hnb hdb) fun co h1 am au=>?_);rw[uG] at au;refine w_c rfl ?_;replace hna:=hna.mono am;refine sC (ev2 rfl rfl) call50 (fun w hs=>pQ hs hna au oM oM) fun cn h2 ak C=>?_
 try simp only[zD] at C
 have bs:=yH ((qa.num.natAbs)) ((qb.den));refine w_c rfl ?_;replace hna:=hna.mono ak;replace hda:=hda.mono (am.trans ak);refine sC (ev1 rfl) call51 (fun w hs=>tZ hs rfl hna hda) fun cm h3 O ar=>?_;rw[uG] at ar;refine w_c rfl ?_;replace hnb:=hnb.mono ((am.trans ak).trans O);refine sC (ev2 rfl rfl) call50 (fun w hs=>pQ hs hnb ar oM oM) fun cl h4 M z=>?_
 try simp only[zD] at z
 have br:=yH ((qb.num.natAbs)) ((qa.den));refine go5 ?_;refine zL 6 _ [] [(0,.q),(2,.q),(1,.c),(3,.c),(4,.c),(5,.q)] yA nX (by kernel_rfl) nX (fun r hr=>hr) (go2 ?_);refine w_c rfl ?_;replace hna:=hna.mono (O.trans M);replace hda:=hda.mono (O.trans M);refine sC (ev1 rfl) call51 (fun w hs=>tZ hs rfl hna hda) fun ck h5 J H=>?_;rw[uG] at H;refine w_c rfl ?_;replace hnb:=hnb.mono (M.trans J);replace hdb:=hdb.mono ((((am.trans ak).trans O).trans M).trans J);refine sC (ev1 rfl) call51 (fun w hs=>tZ hs rfl hnb hdb) fun cj h6 ab aq=>?_;rw[uG] at aq;refine w_c rfl ?_;replace H:=H.mono ab;refine sC (ev2 rfl rfl) call50 (fun w hs=>pQ hs H aq oM oM) fun ci h7 aj D=>?_
 try simp only[zD] at D
 have bq:=yH ((qa.den)) ((qb.den));refine uA ?_;refine gv (bQ underlying4 rfl rfl) rfl (gc2 (fun I=>?_) fun I=>?_)
 ·
  refine go1 ?_;refine zL 7 _ [] [(0,.q),(1,.q),(2,.q),(3,.q),(5,.q),(4,.c),(6,.c),(7,.t)] yA nX (by kernel_rfl) nX (fun r hr=>hr) (go5 ?_);refine w_c rfl ?_;replace C:=C.mono ((((O.trans M).trans J).trans ab).trans aj);replace z:=z.mono ((J.trans ab).trans aj);refine sC (ev2 rfl rfl) call83 (fun w hs=>zVL hs C z oM oM) fun ch h8 G bi=>?_;have bp:=jS ((((qa.num.natAbs))*((qb.den)))) ((((qb.num.natAbs))*((qa.den))));refine w_c rfl ?_;replace D:=D.mono G;refine sC (ev3 rfl rfl rfl) call82 (fun w hs=>rH hs bi D oM oM (by first|(simp only[zD];omega)|(simp only[zD];first|exact Rat.den_nz _|exact Nat.mul_ne_zero (Rat.den_nz _) (Rat.den_nz _)|exact Nat.one_ne_zero|assumption)|assumption)) fun cg h9 ai ap=>?_
  try simp only[zD] at ap
  obtain⟨az,bc,rfl,aa,ae⟩:=ap;refine pO (A:=[]) (q':=.var b4 29 [vB ((mkRat (sg (qa.num<0) (((((((qa.num.natAbs))*((qb.den))))+((((qb.num.natAbs))*((qa.den)))))))) (((((qa.den))*((qb.den)))))).num<0),az,bc]) rfl (zK (k:=0) (cs:=[_,_,_]) (vs:=[_,_,_]) rfl rfl rfl (ocr rfl (ocu aa (ocu ae oc0))) yC (bL rfl)) rfl (go4 ?_);refine yS (fun E S=>yD rfl (wE (cs:=[_,_,_]) mh0 underlying29 rfl yC rfl) E S) ?_;rw[zUH I] at aa ae ⊢;exact⟨_,_,rfl,aa,ae⟩
 refine go7 ?_;replace C:=C.mono ((((O.trans M).trans J).trans ab).trans aj);replace z:=z.mono ((J.trans ab).trans aj);refine cL (ev2 rfl rfl) call49 (fun w hs=>nO hs C z) fun cf h8 G bh=>?_;subst bh;refine gc3 (fun ah=>?_) fun ah=>?_
 ·
  refine go4 ?_;replace C:=C.mono G;replace z:=z.mono G;refine cL (ev2 rfl rfl) call84 (fun w hs=>zML hs z C oM) fun ce h9 ai bg=>?_;obtain⟨cq,rfl,be⟩:=bg;have bo:=yF (Nat.sub_le ((((qb.num.natAbs))*((qa.den)))) ((((qa.num.natAbs))*((qb.den)))));refine rM ?_;replace D:=D.mono (G.trans ai);refine cL (ev3 rfl rfl rfl) call82 (fun w hs=>rH hs be D oM oM (by first|(simp only[zD];omega)|(simp only[zD];first|exact Rat.den_nz _|exact Nat.mul_ne_zero (Rat.den_nz _) (Rat.den_nz _)|exact Nat.one_ne_zero|assumption)|assumption)) fun cd bt bj ao=>?_
  try simp only[zD] at ao
  obtain⟨ay,bb,rfl,Z,ad⟩:=ao;refine xZ (A:=[]) (r':=.var b4 29 [vB ((mkRat (sg (qb.num<0) (((((((qb.num.natAbs))*((qa.den))))-((((qa.num.natAbs))*((qb.den)))))))) (((((qa.den))*((qb.den)))))).num<0),ay,bb]) (zK (k:=0) (cs:=[_,_,_]) (vs:=[_,_,_]) rfl rfl rfl (ocr rfl (ocu Z (ocu ad oc0))) yC (bL rfl)) rfl rfl rfl (go4 ?_);refine yS (fun E S=>yD rfl (wE (cs:=[_,_,_]) mh0 underlying29 rfl yC rfl) E S) ?_;rw[yBP I (by have:=sL.1 ah;omega)] at Z ad ⊢;exact⟨_,_,rfl,Z,ad⟩
 refine go6 ?_;replace C:=C.mono G;replace z:=z.mono G;refine cL (ev2 rfl rfl) call84 (fun w hs=>zML hs C z oM) fun cc h9 ai bf=>?_;obtain⟨cp,rfl,bd⟩:=bf;have bn:=yF (Nat.sub_le ((((qa.num.natAbs))*((qb.den)))) ((((qb.num.natAbs))*((qa.den)))));refine rM ?_;replace D:=D.mono (G.trans ai);refine cL (ev3 rfl rfl rfl) call82 (fun w hs=>rH hs bd D oM oM (by first|(simp only[zD];omega)|(simp only[zD];first|exact Rat.den_nz _|exact Nat.mul_ne_zero (Rat.den_nz _) (Rat.den_nz _)|exact Nat.one_ne_zero|assumption)|assumption)) fun cb bt bj an=>?_
 try simp only[zD] at an
 obtain⟨ax,ba,rfl,U,ac⟩:=an;refine xZ (A:=[]) (r':=.var b4 29 [vB ((mkRat (sg (qa.num<0) (((((((qa.num.natAbs))*((qb.den))))-((((qb.num.natAbs))*((qa.den)))))))) (((((qa.den))*((qb.den)))))).num<0),ax,ba]) (zK (k:=0) (cs:=[_,_,_]) (vs:=[_,_,_]) rfl rfl rfl (ocr rfl (ocu U (ocu ac oc0))) yC (bL rfl)) rfl rfl rfl (go3 ?_);refine yS (fun E S=>yD rfl (wE (cs:=[_,_,_]) mh0 underlying29 rfl yC rfl) E S) ?_;rw[yBQ I (Nat.le_of_not_lt (fun h=>ah (sL.2 h)))] at U ac ⊢;exact⟨_,_,rfl,U,ac⟩
theorem zQW{w0:World}{h0:Mem}(hs:MLe h0 (mem w0)){qa:Rat}{vna vda:Value}(hna:Us .u32 h0 vna (zB qa.num.natAbs))(hda:Us .u32 h0 vda (zB (wA qa.den))){qb:Rat}{vnb vdb:Value}(hnb:Us .u32 h0 vnb (zB qb.num.natAbs))(hdb:Us .u32 h0 vdb (zB (wA qb.den)))(hqa:lq qa≤100000000000)(hqb:lq qb≤100000000000):
 Calls Tryz.prog 55 #[.agg #[vB (qa.num<0),vna,vda],.agg #[vB (qb.num<0),vnb,vdb]] w0 (Ret w0 h0 (fun h r=>wS h r (qa-qb))):=by
 have ae:=vH qa;have ai:=wY qa;have ak:=wW qa;have ad:=vH qb;have ah:=wY qb;have aj:=wW qb;refine cb2 9 (.agg #[vB (qa.num<0),vna,vda]) (.agg #[vB (qb.num<0),vnb,vdb]) func55 hs ?_;refine go2 ?_;refine zI (wF (cs:=[_,_,_]) rfl rfl) rfl rfl rfl ?_;intro v2 r2 U;obtain⟨b2,rfl,rfl⟩:=U;refine zI (wF (cs:=[_,_,_]) rfl rfl) rfl rfl rfl ?_;intro v3 r3 O;obtain⟨b3,rfl,rfl⟩:=O;refine zI (vV (cs:=[vB ((0:Rat).num<0),.slice none 0 0,.slice none 0 0]) xS rfl (by simp only[zb];rfl)) rfl rfl rfl ?_;intro v4 r4 M;obtain⟨b4,rfl,rfl⟩:=M;refine go3 ?_;refine zL 4 _ [] [(0,.q),(1,.q),(2,.c),(3,.c),(4,.t)] yA nX (by kernel_rfl) nX (fun r hr=>hr) (go2 ?_);refine w_c rfl (sC (ev1 rfl) call87 (fun w hs=>zHX hs hnb hdb oM) fun v7 h1 D J=>?_);obtain⟨am,an,rfl,Z,aa⟩:=J;have ac:=zLG qb;refine w_c rfl ?_;replace hna:=hna.mono D;replace hda:=hda.mono D;refine sC (ev2 rfl rfl) call45 (fun w hs=>zCA hs hna hda Z aa oM oM) fun v8 h2 ao I=>?_;obtain⟨G,H,rfl,z,C⟩:=I;have ab:=bU qa (-qb);refine pO (A:=[]) (q':=.var b4 29 [vB ((qa+(-qb)).num<0),G,H]) rfl (zK (k:=0) (cs:=[_,_,_]) (vs:=[_,_,_]) rfl rfl rfl (ocr rfl (ocu z (ocu C oc0))) yC (bL rfl)) rfl (go3 ?_);refine yS (fun E S=>yD rfl (wE (cs:=[_,_,_]) mh0 underlying29 rfl yC rfl) E S) ?_;rw[←Rat.sub_eq_add_neg] at z C ⊢;exact⟨_,_,rfl,z,C⟩
theorem zHY{w0:World}{h0:Mem}(hs:MLe h0 (mem w0)){qa:Rat}{vna vda:Value}(hna:Us .u32 h0 vna (zB qa.num.natAbs))(hda:Us .u32 h0 vda (zB (wA qa.den))){qb:Rat}{vnb vdb:Value}(hnb:Us .u32 h0 vnb (zB qb.num.natAbs))(hdb:Us .u32 h0 vdb (zB (wA qb.den)))(hqa:lq qa≤100000000000)(hqb:lq qb≤100000000000):
 Calls Tryz.prog 53 #[.agg #[vB (qa.num<0),vna,vda],.agg #[vB (qb.num<0),vnb,vdb]] w0 (Ret w0 h0 (fun h r=>wS h r (qa*qb))):=by
 have ak:=vH qa;have an:=wY qa;have ap:=wW qa;have aj:=vH qb;have am:=wY qb;have ao:=wW qb;refine cb2 21 (.agg #[vB (qa.num<0),vna,vda]) (.agg #[vB (qb.num<0),vnb,vdb]) func53 hs ?_;refine go2 ?_;refine zI (wF (cs:=[_,_,_]) rfl rfl) rfl rfl rfl ?_;intro v2 r2 ad;obtain⟨b2,rfl,rfl⟩:=ad;refine zI (wF (cs:=[_,_,_]) rfl rfl) rfl rfl rfl ?_;intro v3 r3 ac;obtain⟨b3,rfl,rfl⟩:=ac;refine zI (vV (cs:=[vB ((0:Rat).num<0),.slice none 0 0,.slice none 0 0]) xS rfl (by simp only[zb];rfl)) rfl rfl rfl ?_;intro v4 r4 ab;obtain⟨b4,rfl,rfl⟩:=ab;refine go3 ?_;refine zL 16 _ [] [(0,.q),(1,.q),(2,.q),(3,.q),(4,.q),(5,.q),(6,.q),(7,.q),(8,.q),(10,.q),(12,.q),(9,.c),(11,.c),(13,.c),(14,.c),(15,.c),(16,.t)] yA nX (by kernel_rfl) nX (fun r hr=>hr) (go4 ?_);refine xN rfl (fun _ _=>tA underlying4 rfl rfl) rfl (go6 ?_);refine w_c rfl (sC (ev2 rfl rfl) call50 (fun w hs=>pQ hs hna hnb oM oM) fun aw h1 H C=>?_)
 try simp only[zD] at C
 have ah:=yH ((qa.num.natAbs)) ((qb.num.natAbs));refine w_c rfl ?_;replace hna:=hna.mono H;replace hda:=hda.mono H;refine sC (ev1 rfl) call51 (fun w hs=>tZ hs rfl hna hda) fun av h2 O z=>?_;rw[uG] at z;refine w_c rfl ?_;replace hnb:=hnb.mono (H.trans O);replace hdb:=hdb.mono (H.trans O);refine sC (ev1 rfl) call51 (fun w hs=>tZ hs rfl hnb hdb) fun au h3 aa M=>?_;rw[uG] at M;refine w_c rfl ?_;replace z:=z.mono aa;refine sC (ev2 rfl rfl) call50 (fun w hs=>pQ hs z M oM oM) fun ar h4 ai J=>?_
 try simp only[zD] at J
 have ae:=yH ((qa.den)) ((qb.den));refine w_c rfl ?_;replace C:=C.mono ((O.trans aa).trans ai);refine sC (ev3 rfl rfl rfl) call82 (fun w hs=>rH hs C J oM oM (by first|(simp only[zD];omega)|(simp only[zD];first|exact Rat.den_nz _|exact Nat.mul_ne_zero (Rat.den_nz _) (Rat.den_nz _)|exact Nat.one_ne_zero|assumption)|assumption)) fun aq h5 ax I=>?_
 try simp only[zD] at I
 obtain⟨U,Z,rfl,D,G⟩:=I;refine pO (A:=[]) (q':=.var b4 29 [vB ((mkRat (sg (¬((qa.num<0)↔(qb.num<0))) (((((qa.num.natAbs))*((qb.num.natAbs)))))) (((((qa.den))*((qb.den)))))).num<0),U,Z]) rfl (zK (k:=0) (cs:=[_,_,_]) (vs:=[_,_,_]) rfl rfl rfl (ocr rfl (ocu D (ocu G oc0))) yC (bL rfl)) rfl (go3 ?_);refine yS (fun E S=>yD rfl (wE (cs:=[_,_,_]) mh0 underlying29 rfl yC rfl) E S) ?_;rw[zSG] at D G ⊢;exact⟨_,_,rfl,D,G⟩
theorem zQX{w0:World}{h0:Mem}(hs:MLe h0 (mem w0)){qa:Rat}{vna vda:Value}(hna:Us .u32 h0 vna (zB qa.num.natAbs))(hda:Us .u32 h0 vda (zB (wA qa.den))){qb:Rat}{vnb vdb:Value}(hnb:Us .u32 h0 vnb (zB qb.num.natAbs))(hdb:Us .u32 h0 vdb (zB (wA qb.den)))(hqa:lq qa≤100000000000)(hqb:lq qb≤100000000000):
 Calls Tryz.prog 81 #[.agg #[vB (qa.num<0),vna,vda],.agg #[vB (qb.num<0),vnb,vdb]] w0 (Ret w0 h0 (fun h r=>∃u,r=.tuple #[u,vI (if qb=0 then 3 else 0)]∧wS h u (if qb=0 then 0 else qa/qb))):=by
 have ao:=vH qa;have aq:=wY qa;have au:=wW qa;have an:=vH qb;have ap:=wY qb;have ar:=wW qb;refine cb2 27 (.agg #[vB (qa.num<0),vna,vda]) (.agg #[vB (qb.num<0),vnb,vdb]) func81 hs ?_;refine go2 ?_;refine zI (wF (cs:=[_,_,_]) rfl rfl) rfl rfl rfl ?_;intro v2 r2 ah;obtain⟨b2,rfl,rfl⟩:=ah;refine zI (wF (cs:=[_,_,_]) rfl rfl) rfl rfl rfl ?_;intro v3 r3 ae;obtain⟨b3,rfl,rfl⟩:=ae;refine zI (vV (cs:=[vB ((0:Rat).num<0),.slice none 0 0,.slice none 0 0]) xS rfl (by simp only[zb];rfl)) rfl rfl rfl ?_;intro v4 r4 ad;obtain⟨b4,rfl,rfl⟩:=ad;refine zG1 (fun G=>?_) fun G=>?_
 ·
  refine go2 ?_;refine gv (xR (ps':=[]) (vs:=[vB ((0:Rat).num<0),.slice none 0 0,.slice none 0 0]) underlying29 xS rfl (uL underlying29) trivial (by simp only[zb];exact qU)) rfl (xZ (A:=[]) (r':=.var b4 29 [vB ((0:Rat).num<0),.slice none 0 0,.slice none 0 0]) (zK (k:=0) (cs:=[_,_,_]) (vs:=[_,_,_]) rfl rfl rfl rfl yC (bL rfl)) rfl rfl rfl (go5 ?_));refine yS (fun E S=>jX rfl (wE (cs:=[_,_,_]) mh0 underlying29 rfl yC rfl) (sR rfl) E S) ?_;rw[if_pos (cD G),if_pos (cD G)];exact⟨_,rfl,wS.zero _⟩
 have H:=zCX G;have am:=zCY.2 H;have bb:qa.den*qb.num.natAbs≠0:=Nat.mul_ne_zero qa.den_nz am;refine go3 ?_;refine zL 16 _ [] [(0,.q),(1,.q),(2,.q),(3,.q),(4,.q),(5,.q),(6,.q),(7,.q),(10,.q),(12,.q),(13,.q),(8,.c),(9,.c),(11,.c),(14,.c),(15,.c),(16,.t),(17,.t)] yA nX (by kernel_rfl) nX (fun r hr=>hr) (go4 ?_);refine xN rfl (fun _ _=>tA underlying4 rfl rfl) rfl (go6 ?_);refine w_c rfl (sC (ev1 rfl) call51 (fun w hs=>tZ hs rfl hnb hdb) fun az h1 Z O=>?_);rw[uG] at O;refine w_c rfl ?_;replace hna:=hna.mono Z;refine sC (ev2 rfl rfl) call50 (fun w hs=>pQ hs hna O oM oM) fun ay h2 U z=>?_
 try simp only[zD] at z
 have aj:=yH ((qa.num.natAbs)) ((qb.den));refine w_c rfl ?_;replace hna:=hna.mono U;replace hda:=hda.mono (Z.trans U);refine sC (ev1 rfl) call51 (fun w hs=>tZ hs rfl hna hda) fun ax h3 ac M=>?_;rw[uG] at M;refine w_c rfl ?_;replace hnb:=hnb.mono ((Z.trans U).trans ac);refine sC (ev2 rfl rfl) call50 (fun w hs=>pQ hs M hnb oM oM) fun aw h4 ak J=>?_
 try simp only[zD] at J
 have ai:=yH ((qa.den)) ((qb.num.natAbs));refine w_c rfl ?_;replace z:=z.mono (ac.trans ak);refine sC (ev3 rfl rfl rfl) call82 (fun w hs=>rH hs z J oM oM (by first|(simp only[zD];omega)|(simp only[zD];first|exact Rat.den_nz _|exact Nat.mul_ne_zero (Rat.den_nz _) (Rat.den_nz _)|exact Nat.one_ne_zero|assumption)|assumption)) fun av h5 ba I=>?_
 try simp only[zD] at I
 obtain⟨aa,ab,rfl,C,D⟩:=I;refine pO (A:=[]) (q':=.var b4 29 [vB ((mkRat (sg (¬((qa.num<0)↔(qb.num<0))) (((((qa.num.natAbs))*((qb.den)))))) (((((qa.den))*((qb.num.natAbs)))))).num<0),aa,ab]) rfl (zK (k:=0) (cs:=[_,_,_]) (vs:=[_,_,_]) rfl rfl rfl (ocr rfl (ocu C (ocu D oc0))) yC (bL rfl)) rfl (zFV rfl (pJ (v:=vI (0)) rfl) rfl (go3 ?_));refine yS (fun E S=>jX rfl (wE (cs:=[_,_,_]) mh0 underlying29 rfl yC rfl) (sR rfl) E S) ?_;rw[if_neg H,if_neg H];rw[zRC _ H] at C D ⊢;exact⟨_,rfl,_,_,rfl,C,D⟩
theorem zQ0{w0:World}{h0:Mem}(hs:MLe h0 (mem w0)){qa:Rat}{vna vda:Value}(hna:Us .u32 h0 vna (zB qa.num.natAbs))(hda:Us .u32 h0 vda (zB (wA qa.den))){qb:Rat}{vnb vdb:Value}(hnb:Us .u32 h0 vnb (zB qb.num.natAbs))(hdb:Us .u32 h0 vdb (zB (wA qb.den)))(hqa:lq qa≤100000000000)(hqb:lq qb≤100000000000):
 Calls Tryz.prog 17 #[.agg #[vB (qa.num<0),vna,vda],.agg #[vB (qb.num<0),vnb,vdb]] w0 (Ret w0 h0 (fun _ r=>r=vI (yP qa qb))):=by
 have aq:=vH qa;have au:=wY qa;have aw:=wW qa;have ap:=vH qb;have ar:=wY qb;have av:=wW qb;have be:-1≤sM (qa.num.natAbs*qb.den) (qb.num.natAbs*qa.den)∧sM (qa.num.natAbs*qb.den) (qb.num.natAbs*qa.den)≤1:=zJP qa qb;refine cb2 34 (.agg #[vB (qa.num<0),vna,vda]) (.agg #[vB (qb.num<0),vnb,vdb]) func17 hs ?_;refine go2 ?_;refine zI (wF (cs:=[_,_,_]) rfl rfl) rfl rfl rfl ?_;intro v2 r2 aj;obtain⟨b2,rfl,rfl⟩:=aj;refine zI (wF (cs:=[_,_,_]) rfl rfl) rfl rfl rfl ?_;intro v3 r3 ai;obtain⟨b3,rfl,rfl⟩:=ai;refine go5 ?_;refine zL 6 _ [] [(0,.q),(2,.q),(1,.c),(3,.c),(4,.q),(5,.q)] yA nX (by kernel_rfl) nX (fun r hr=>hr) (go2 ?_);refine w_c rfl (sC (ev1 rfl) call48 (fun w hs=>s4 hs hna hda oM) fun v9 h1 I ah=>?_);have ao:=yY qa;subst ah;refine w_c rfl ?_;replace hnb:=hnb.mono I;replace hdb:=hdb.mono I;refine sC (ev1 rfl) call48 (fun w hs=>s4 hs hnb hdb oM) fun bc h2 H ac=>?_;have ae:=yY qb;subst ac;refine zAK (fun C=>?_) fun C=>?_
 ·
  refine gc8 (fun G=>?_) fun G=>?_
  ·
   refine go8 ?_;refine zC rfl rfl ?_;rw[j4 C,if_pos G]
  refine go9 ?_;refine zC rfl rfl ?_;rw[j4 C,if_neg G]
 have aa:=zHN C;refine go3 ?_;refine zL 12 _ [] [(0,.q),(1,.q),(2,.q),(5,.q),(6,.q),(7,.q),(3,.c),(4,.c),(8,.c),(9,.c),(10,.c),(11,.q)] yA nX (by kernel_rfl) nX (fun r hr=>hr) (go6 ?_);refine w_c rfl ?_;replace hnb:=hnb.mono H;replace hdb:=hdb.mono H;refine sC (ev1 rfl) call51 (fun w hs=>tZ hs rfl hnb hdb) fun bb h3 Z O=>?_;rw[uG] at O;refine w_c rfl ?_;replace hna:=hna.mono ((I.trans H).trans Z);refine sC (ev2 rfl rfl) call50 (fun w hs=>pQ hs hna O oM oM) fun ba h4 U z=>?_
 try simp only[zD] at z
 have am:=yH ((qa.num.natAbs)) ((qb.den));refine w_c rfl ?_;replace hna:=hna.mono U;replace hda:=hda.mono (((I.trans H).trans Z).trans U);refine sC (ev1 rfl) call51 (fun w hs=>tZ hs rfl hna hda) fun az h5 ad M=>?_;rw[uG] at M;refine w_c rfl ?_;replace hnb:=hnb.mono ((Z.trans U).trans ad);refine sC (ev2 rfl rfl) call50 (fun w hs=>pQ hs hnb M oM oM) fun ay h6 an J=>?_
 try simp only[zD] at J
 have ak:=yH ((qb.num.natAbs)) ((qa.den));refine w_c rfl ?_;replace z:=z.mono (ad.trans an);refine sC (ev2 rfl rfl) call49 (fun w hs=>nO hs z J) fun ax h7 bd ab=>?_;subst ab;refine zBF (fun D=>?_) fun D=>?_
 ·
  refine go3 ?_;refine gv (lK rfl oM oM) rfl (go5 ?_);refine zC rfl rfl ?_;rw[zNJ aa D];rfl
 refine go9 ?_;refine zC rfl rfl ?_;rw[zJK aa D];rfl
theorem zQY{w0:World}{h0:Mem}(hs:MLe h0 (mem w0)){qa:Rat}{vna vda:Value}(hna:Us .u32 h0 vna (zB qa.num.natAbs))(hda:Us .u32 h0 vda (zB (wA qa.den))){qb:Rat}{vnb vdb:Value}(hnb:Us .u32 h0 vnb (zB qb.num.natAbs))(hdb:Us .u32 h0 vdb (zB (wA qb.den)))(hqa:lq qa≤10000000000)(hqb:lq qb≤10000000000):
 Calls Tryz.prog 203 #[.agg #[vB (qa.num<0),vna,vda],.agg #[vB (qb.num<0),vnb,vdb]] w0 (Ret w0 h0 (fun h r=>wS h r (zBC qa qb))):=by
 have ak:=vH qa;have an:=wY qa;have ap:=wW qa;have aj:=vH qb;have am:=wY qb;have ao:=wW qb;refine cb2 10 (.agg #[vB (qa.num<0),vna,vda]) (.agg #[vB (qb.num<0),vnb,vdb]) func203 hs ?_;refine go2 ?_;refine zI (wF (cs:=[_,_,_]) rfl rfl) rfl rfl rfl ?_;intro v2 r2 ab;obtain⟨b2,rfl,rfl⟩:=ab;refine zI (wF (cs:=[_,_,_]) rfl rfl) rfl rfl rfl ?_;intro v3 r3 aa;obtain⟨b3,rfl,rfl⟩:=aa;refine zI (vV (cs:=[vB ((0:Rat).num<0),.slice none 0 0,.slice none 0 0]) xS rfl (by simp only[zb];rfl)) rfl rfl rfl ?_;intro v4 r4 Z;obtain⟨b4,rfl,rfl⟩:=Z;refine go6 ?_;refine cL (ev2 rfl rfl) call45 (fun w hs=>zCA hs hna hda hnb hdb oM oM) fun v7 h1 ax U=>?_;obtain⟨ar,av,rfl,C,G⟩:=U;have ai:=bU qa qb;refine cL (vs:=[vI (1),vI (2)]) e2z call21 (fun w hs=>zET hs oM oM oM oM) fun v8 h2 H O=>?_;have ah:=zGP (n:=(1:Int)) (d:=(2:Int)) oM oM oM oM;obtain⟨aq,au,rfl,ac,ad⟩:=O;replace C:=C.mono H;replace G:=G.mono H;refine cL (ev2 rfl rfl) call53 (fun w hs=>zHY hs C G ac ad oM oM) fun v9 h3 aw M=>?_;obtain⟨I,J,rfl,z,D⟩:=M;have ae:=zC9 (qa+qb) (kG (1:Int) (2:Int));refine xZ (A:=[]) (r':=.var b4 29 [vB (((qa+qb)*(kG (1:Int) (2:Int))).num<0),I,J]) (zK (k:=0) (cs:=[_,_,_]) (vs:=[_,_,_]) rfl rfl rfl (ocr rfl (ocu z (ocu D oc0))) yC (bL rfl)) rfl rfl rfl (go3 ?_);refine yS (fun E S=>yD rfl (wE (cs:=[_,_,_]) mh0 underlying29 rfl yC rfl) E S) ?_;rw[zPH] at z D ⊢;exact⟨_,_,rfl,z,D⟩
end Go.Proofs.YtpkaegemlpaenaaGreat
namespace Go.Proofs.YtpkaegemlpaenaaGreat
open Bk Go Tryz
set_option linter.unusedVariables false
set_option linter.unusedSimpArgs false
set_option maxRecDepth 10000
set_option maxHeartbeats 1000000
attribute [local irreducible] GL GC GQ W OpV
theorem zN9{w0:World}{h0:Mem}(hs:MLe h0 (mem w0)){qa:Rat}{vna vda:Value}(hna:Us .u32 h0 vna (zB qa.num.natAbs))(hda:Us .u32 h0 vda (zB (wA qa.den)))(hqa:lq qa≤100000000000):
 Calls Tryz.prog 134 #[.agg #[vB (qa.num<0),vna,vda]] w0 (Ret w0 h0 (fun _ r=>r=.string (uU (qZ qa)))):=by
 have Z:=vH qa;have aa:=wY qa;have ab:=wW qa;refine cb1 22 (.agg #[vB (qa.num<0),vna,vda]) func134 hs ?_;refine go2 ?_;refine zI (wF (cs:=[_,_,_]) rfl rfl) rfl rfl rfl ?_;intro v1 r1 M;obtain⟨b1,rfl,rfl⟩:=M;refine go7 ?_;refine cL (ev1 rfl) call177 (fun w hs=>zCE hs hna oM) fun v6 h1 H J=>?_;subst J;have U:=dF ((qa.num.natAbs));refine zBF (fun D=>?_) fun D=>?_
 ·
  refine go2 ?_;refine gv (vD (pa:=([45]:List Nat)) (pb:=(txt ((qa.num.natAbs)))) rfl rfl (by first|omega|(simp only[lAz,lC,lN,List.length_drop,List.length_take];omega))) rfl ?_;replace hda:=hda.mono H;refine zG1 (fun z=>?_) fun z=>?_
  ·
   refine go4 ?_;refine cL (ev1 rfl) call177 (fun w hs=>zCE hs hda oM) fun I h2 O C=>?_;subst C;have G:=dF (((wA qa.den)));refine gv (vD (pa:=([47]:List Nat)) (pb:=(txt (((wA qa.den))))) rfl rfl (by first|omega|(simp only[lAz,lC,lN,List.length_drop,List.length_take];omega))) rfl (gv (vD (pa:=(([45]:List Nat)++(txt ((qa.num.natAbs))))) (pb:=(([47]:List Nat)++(txt (((wA qa.den)))))) rfl rfl (by first|omega|(simp only[lAz,lC,lN,List.length_drop,List.length_take];omega))) rfl (uA ?_));refine zC rfl rfl ?_;rw[←zYP D z]
  refine go9 ?_;refine zC rfl rfl ?_;rw[←zUU D z]
 replace hda:=hda.mono H;refine zAK (fun z=>?_) fun z=>?_
 ·
  refine go4 ?_;refine cL (ev1 rfl) call177 (fun w hs=>zCE hs hda oM) fun I h2 O C=>?_;subst C;have G:=dF (((wA qa.den)));refine gv (vD (pa:=([47]:List Nat)) (pb:=(txt (((wA qa.den))))) rfl rfl (by first|omega|(simp only[lAz,lC,lN,List.length_drop,List.length_take];omega))) rfl (gv (vD (pa:=(txt ((qa.num.natAbs)))) (pb:=(([47]:List Nat)++(txt (((wA qa.den)))))) rfl rfl (by first|omega|(simp only[lAz,lC,lN,List.length_drop,List.length_take];omega))) rfl (uA ?_));refine zC rfl rfl ?_;rw[←zUV D z]
 refine go9 ?_;refine zC rfl rfl ?_;rw[←zUW D z]
end Go.Proofs.YtpkaegemlpaenaaGreat
namespace Go.Proofs.YtpkaegemlpaenaaGreat
open Bk Go Tryz
set_option linter.unusedVariables false
set_option linter.unusedSimpArgs false
set_option maxRecDepth 10000
set_option maxHeartbeats 1000000
attribute [local irreducible] GL GC GQ W OpV
theorem bA{w0:World}{h0:Mem}(hs:MLe h0 (mem w0)){k l:Nat}{va:Value}{a:Rat}(ra:(rpQ k).Is h0 va a){vb:Value}{b:Rat}(rb:(rpQ l).Is h0 vb b)(hcd0:k+l≤10000000000):
 Calls Tryz.prog 160 #[va,vb] w0 (Ret w0 h0 (fun h r=>(rpQ (k+l+1)).Is h r (a+b))):=by
 obtain⟨I,M,rfl,C,G,U⟩:=uX ra;obtain⟨H,J,rfl,z,D,O⟩:=uX rb;exact(zVR hs C G z D oM oM).mono (gS fun h r x=>w6 x (by have:=bU a b;omega))
theorem gH{w0:World}{h0:Mem}(hs:MLe h0 (mem w0)){k l:Nat}{va:Value}{a:Rat}(ra:(rpQ k).Is h0 va a){vb:Value}{b:Rat}(rb:(rpQ l).Is h0 vb b)(hcd0:k+l≤10000000000):
 Calls Tryz.prog 121 #[va,vb] w0 (Ret w0 h0 (fun h r=>(rpQ (k+l+1)).Is h r (a-b))):=by
 obtain⟨I,M,rfl,C,G,U⟩:=uX ra;obtain⟨H,J,rfl,z,D,O⟩:=uX rb;exact(zVM hs C G z D oM oM).mono (gS fun h r x=>w6 x (by have:=zSO a b;omega))
theorem jH{w0:World}{h0:Mem}(hs:MLe h0 (mem w0)){k l:Nat}{va:Value}{a:Rat}(ra:(rpQ k).Is h0 va a){vb:Value}{b:Rat}(rb:(rpQ l).Is h0 vb b)(hcd0:k+l≤10000000000):
 Calls Tryz.prog 153 #[va,vb] w0 (Ret w0 h0 (fun h r=>(rpQ (k+l)).Is h r (a*b))):=by
 obtain⟨I,M,rfl,C,G,U⟩:=uX ra;obtain⟨H,J,rfl,z,D,O⟩:=uX rb;exact(zVO hs C G z D oM oM).mono (gS fun h r x=>w6 x (by have:=zC9 a b;omega))
theorem cZ{w0:World}{h0:Mem}(hs:MLe h0 (mem w0)){k l:Nat}{va:Value}{a:Rat}(ra:(rpQ k).Is h0 va a){vb:Value}{b:Rat}(rb:(rpQ l).Is h0 vb b)(hcd0:k+l≤10000000000):
 Calls Tryz.prog 182 #[va,vb] w0 (Ret w0 h0 (fun _ r=>r=vI (yP a b))):=by
 obtain⟨I,M,rfl,C,G,U⟩:=uX ra;obtain⟨H,J,rfl,z,D,O⟩:=uX rb;exact zVQ hs C G z D oM oM
theorem sZ{w0:World}{h0:Mem}(hs:MLe h0 (mem w0)){k:Nat}{va:Value}{a:Rat}(ra:(rpQ k).Is h0 va a)(hcd0:k≤10000000000):
 Calls Tryz.prog 122 #[va] w0 (Ret w0 h0 (fun _ r=>r=vI (xC a))):=by
 obtain⟨D,G,rfl,z,C,H⟩:=uX ra;exact dY hs z C oM
theorem iR{w0:World}{h0:Mem}(hs:MLe h0 (mem w0)){k l:Nat}{va:Value}{a:Rat}(ra:(rpQ k).Is h0 va a){vb:Value}{b:Rat}(rb:(rpQ l).Is h0 vb b)(hcd0:k+l≤10000000000):
 Calls Tryz.prog 159 #[va,vb] w0 (Ret w0 h0 (fun _ r=>r=vB (a=b))):=by
 obtain⟨I,M,rfl,C,G,U⟩:=uX ra;obtain⟨H,J,rfl,z,D,O⟩:=uX rb;exact zRB hs C G z D oM oM
theorem zOQ{w0:World}{h0:Mem}(hs:MLe h0 (mem w0)){k l:Nat}{va:Value}{a:Rat}(ra:(rpQ k).Is h0 va a){vb:Value}{b:Rat}(rb:(rpQ l).Is h0 vb b)(hcd0:k+l≤10000000000):
 Calls Tryz.prog 123 #[va,vb] w0 (Ret w0 h0 (fun h r=>∃u0,r=.tuple #[u0,vI (if b=0 then 3 else 0)]∧(rpQ (k+l)).Is h u0 (if b=0 then 0 else a/b))):=by
 obtain⟨I,M,rfl,C,G,U⟩:=uX ra;obtain⟨H,J,rfl,z,D,O⟩:=uX rb;exact(zVN hs C G z D oM oM).mono (gS fun h r x=>by obtain⟨u,e,y⟩:=x;exact⟨u,e,w6 y (by have:=zMZ a b;omega)⟩)
theorem sY{w0:World}{h0:Mem}(hs:MLe h0 (mem w0)){k l:Nat}{va:Value}{a:Rat}(ra:(rpQ k).Is h0 va a){vb:Value}{b:Rat}(rb:(rpQ l).Is h0 vb b)(hcd0:k+l≤10000000000):
 Calls Tryz.prog 45 #[va,vb] w0 (Ret w0 h0 (fun h r=>(rpQ (k+l+1)).Is h r (a+b))):=by
 obtain⟨I,M,rfl,C,G,U⟩:=uX ra;obtain⟨H,J,rfl,z,D,O⟩:=uX rb;exact(zCA hs C G z D oM oM).mono (gS fun h r x=>w6 x (by have:=bU a b;omega))
theorem bT{w0:World}{h0:Mem}(hs:MLe h0 (mem w0)){k l:Nat}{va:Value}{a:Rat}(ra:(rpQ k).Is h0 va a){vb:Value}{b:Rat}(rb:(rpQ l).Is h0 vb b)(hcd0:k+l≤10000000000):
 Calls Tryz.prog 55 #[va,vb] w0 (Ret w0 h0 (fun h r=>(rpQ (k+l+1)).Is h r (a-b))):=by
 obtain⟨I,M,rfl,C,G,U⟩:=uX ra;obtain⟨H,J,rfl,z,D,O⟩:=uX rb;exact(zQW hs C G z D oM oM).mono (gS fun h r x=>w6 x (by have:=zSO a b;omega))
theorem gX{w0:World}{h0:Mem}(hs:MLe h0 (mem w0)){k l:Nat}{va:Value}{a:Rat}(ra:(rpQ k).Is h0 va a){vb:Value}{b:Rat}(rb:(rpQ l).Is h0 vb b)(hcd0:k+l≤10000000000):
 Calls Tryz.prog 53 #[va,vb] w0 (Ret w0 h0 (fun h r=>(rpQ (k+l)).Is h r (a*b))):=by
 obtain⟨I,M,rfl,C,G,U⟩:=uX ra;obtain⟨H,J,rfl,z,D,O⟩:=uX rb;exact(zHY hs C G z D oM oM).mono (gS fun h r x=>w6 x (by have:=zC9 a b;omega))
theorem zCR{w0:World}{h0:Mem}(hs:MLe h0 (mem w0)){k l:Nat}{va:Value}{a:Rat}(ra:(rpQ k).Is h0 va a){vb:Value}{b:Rat}(rb:(rpQ l).Is h0 vb b)(hcd0:k+l≤10000000000):
 Calls Tryz.prog 203 #[va,vb] w0 (Ret w0 h0 (fun h r=>(rpQ (k+l+2)).Is h r (zBC a b))):=by
 obtain⟨I,M,rfl,C,G,U⟩:=uX ra;obtain⟨H,J,rfl,z,D,O⟩:=uX rb;exact(zQY hs C G z D oM oM).mono (gS fun h r x=>w6 x (by have:=zZ7 a b;omega))
theorem kA{w0:World}{h0:Mem}(hs:MLe h0 (mem w0)){k l:Nat}{va:Value}{a:Rat}(ra:(rpQ k).Is h0 va a){vb:Value}{b:Rat}(rb:(rpQ l).Is h0 vb b)(hcd0:k+l≤10000000000):
 Calls Tryz.prog 17 #[va,vb] w0 (Ret w0 h0 (fun _ r=>r=vI (yP a b))):=by
 obtain⟨I,M,rfl,C,G,U⟩:=uX ra;obtain⟨H,J,rfl,z,D,O⟩:=uX rb;exact zQ0 hs C G z D oM oM
theorem qF{w0:World}{h0:Mem}(hs:MLe h0 (mem w0)){k:Nat}{va:Value}{a:Rat}(ra:(rpQ k).Is h0 va a)(hcd0:k≤10000000000):
 Calls Tryz.prog 48 #[va] w0 (Ret w0 h0 (fun _ r=>r=vI (xC a))):=by
 obtain⟨D,G,rfl,z,C,H⟩:=uX ra;exact s4 hs z C oM
theorem tD{w0:World}{h0:Mem}(hs:MLe h0 (mem w0)){k l:Nat}{va:Value}{a:Rat}(ra:(rpQ k).Is h0 va a){vb:Value}{b:Rat}(rb:(rpQ l).Is h0 vb b)(hcd0:k+l≤10000000000):
 Calls Tryz.prog 73 #[va,vb] w0 (Ret w0 h0 (fun _ r=>r=vB (a=b))):=by
 obtain⟨I,M,rfl,C,G,U⟩:=uX ra;obtain⟨H,J,rfl,z,D,O⟩:=uX rb;exact zOA hs C G z D oM oM
theorem zKU{w0:World}{h0:Mem}(hs:MLe h0 (mem w0)){k l:Nat}{va:Value}{a:Rat}(ra:(rpQ k).Is h0 va a){vb:Value}{b:Rat}(rb:(rpQ l).Is h0 vb b)(hcd0:k+l≤10000000000):
 Calls Tryz.prog 81 #[va,vb] w0 (Ret w0 h0 (fun h r=>∃u0,r=.tuple #[u0,vI (if b=0 then 3 else 0)]∧(rpQ (k+l)).Is h u0 (if b=0 then 0 else a/b))):=by
 obtain⟨I,M,rfl,C,G,U⟩:=uX ra;obtain⟨H,J,rfl,z,D,O⟩:=uX rb;exact(zQX hs C G z D oM oM).mono (gS fun h r x=>by obtain⟨u,e,y⟩:=x;exact⟨u,e,w6 y (by have:=zMZ a b;omega)⟩)
theorem iQ{w0:World}{h0:Mem}(hs:MLe h0 (mem w0)){k:Nat}{va:Value}{a:Rat}(ra:(rpQ k).Is h0 va a)(hcd0:k≤10000000000):
 Calls Tryz.prog 87 #[va] w0 (Ret w0 h0 (fun h r=>(rpQ k).Is h r (-a))):=by
 obtain⟨D,G,rfl,z,C,H⟩:=uX ra;exact(zHX hs z C oM).mono (gS fun h r x=>w6 x (by have:=zLG a;omega))
theorem zKV{w0:World}{h0:Mem}(hs:MLe h0 (mem w0)){k:Nat}{va:Value}{a:Rat}(ra:(rpQ k).Is h0 va a)(hcd0:k≤10000000000):
 Calls Tryz.prog 103 #[va] w0 (Ret w0 h0 (fun h r=>(rpQ k).Is h r (iZ a))):=by
 obtain⟨D,G,rfl,z,C,H⟩:=uX ra;exact(zQ1 hs z C oM).mono (gS fun h r x=>w6 x (by have:=zZ8 a;omega))
theorem sW{w0:World}{h0:Mem}(hs:MLe h0 (mem w0)){n:Int}(hn1:-9223372036854775808≤n)(hn2:n<9223372036854775808):
 Calls Tryz.prog 27 #[vI n] w0 (Ret w0 h0 (fun h r=>(rpQ 2).Is h r ((n:Int):Rat))):=by
 exact(zQZ hs hn1 hn2).mono (gS fun h r x=>w6 x (by exact cO n hn1 hn2))
theorem s9{w0:World}{h0:Mem}(hs:MLe h0 (mem w0)){n:Int}(hn1:-9223372036854775808≤n)(hn2:n<9223372036854775808):
 Calls Tryz.prog 116 #[vI n] w0 (Ret w0 h0 (fun h r=>(rpQ 2).Is h r ((n:Int):Rat))):=by
 exact(zVP hs hn1 hn2).mono (gS fun h r x=>w6 x (by exact cO n hn1 hn2))
theorem zA0{w0:World}{h0:Mem}(hs:MLe h0 (mem w0)){n:Int}(hn1:-9223372036854775808≤n)(hn2:n<9223372036854775808){d:Int}(hd1:-9223372036854775808≤d)(hd2:d<9223372036854775808):
 Calls Tryz.prog 21 #[vI n,vI d] w0 (Ret w0 h0 (fun h r=>(rpQ 2).Is h r (kG n d))):=by
 exact(zET hs hn1 hn2 hd1 hd2).mono (gS fun h r x=>w6 x (by exact zGP hn1 hn2 hd1 hd2))
end Go.Proofs.YtpkaegemlpaenaaGreat
namespace Go.Proofs.YtpkaegemlpaenaaGreat
open Bk Go Tryz
set_option linter.unusedVariables false
set_option linter.unusedSimpArgs false
set_option maxRecDepth 10000
set_option maxHeartbeats 1000000
attribute [local irreducible] GL GC GQ W OpV
end Go.Proofs.YtpkaegemlpaenaaGreat
