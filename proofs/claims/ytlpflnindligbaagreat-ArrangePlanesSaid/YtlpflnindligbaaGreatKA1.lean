/- Texts that the proof needs, part 1. -/
import Derived.WalkKit
import Derived.WalkSpells
import Derived.WalkLawsBesides
import Derived.Laws.AppendOwnNone
import Derived.Still
import Derived.Test.YtlpflnindligbaaGreatProg
import Derived.KernelRfl
import Derived.Laws.Externs
import Derived.Deep.MidRow
set_option linter.unusedVariables false
set_option linter.unusedSimpArgs false
set_option linter.defProp false
open List renaming length→A1,getD→A0,toArray→Am
open Array renaming setIfInBounds→D9
open Go renaming World→AP,Value→A2,Act→Av,Operand→Ag,Program→D,Oper→AY,Exit→BH,TypeId→Ab,IntKind→B2
namespace Bk
theorem I {α : Sort _} {a : α} : a = a := rfl
theorem BJ{α:Type _}{a b:List α}:A1 (a++b)=A1 a+b.length:=List.length_append
theorem lR{α:Type _}{n:Nat}{a:α}:A1 (List.replicate n a)=n:=List.length_replicate
theorem lC{α:Type _}{a:α}{l:List α}:A1 (a::l)=A1 l+1:=List.length_cons
theorem lN{α:Type _}:A1 ([]:List α)=0:=List.length_nil
theorem lS{α:Type _}{l:List α}{i:Nat}{a:α}:A1 (l.set i a)=A1 l:=List.length_set
theorem bL{n m:Nat}(h:Nat.ble n m=true):n<=m:=Nat.le_of_ble_eq_true h
theorem nX{α:Type _}{p:α->Prop}:∀x∈([]:List α),p x:=λ_ hx=>by cases hx
theorem Al{α0 α1:Type}{a0:α0}{a1:α1}:a0=a0/\a1=a1/\True:=⟨rfl,rfl,trivial⟩
theorem EQ{α0 α1 α2:Type}{a0:α0}{a1:α1}{a2:α2}:a0=a0/\a1=a1/\a2=a2/\True:=⟨rfl,rfl,rfl,trivial⟩
theorem BR{α0 α1 α2 α3:Type}{a0:α0}{a1:α1}{a2:α2}{a3:α3}:a0=a0/\a1=a1/\a2=a2/\a3=a3/\True:=⟨rfl,rfl,rfl,rfl,trivial⟩
theorem e5{α0 α1 α2 α3 α4:Type}{a0:α0}{a1:α1}{a2:α2}{a3:α3}{a4:α4}:a0=a0/\a1=a1/\a2=a2/\a3=a3/\a4=a4/\True:=⟨rfl,rfl,rfl,rfl,rfl,trivial⟩
theorem e6{α0 α1 α2 α3 α4 α5:Type}{a0:α0}{a1:α1}{a2:α2}{a3:α3}{a4:α4}{a5:α5}:a0=a0/\a1=a1/\a2=a2/\a3=a3/\a4=a4/\a5=a5/\True:=⟨rfl,rfl,rfl,rfl,rfl,rfl,trivial⟩
theorem e7{α0 α1 α2 α3 α4 α5 α6:Type}{a0:α0}{a1:α1}{a2:α2}{a3:α3}{a4:α4}{a5:α5}{a6:α6}:a0=a0/\a1=a1/\a2=a2/\a3=a3/\a4=a4/\a5=a5/\a6=a6/\True:=⟨rfl,rfl,rfl,rfl,rfl,rfl,rfl,trivial⟩
theorem e8{α0 α1 α2 α3 α4 α5 α6 α7:Type}{a0:α0}{a1:α1}{a2:α2}{a3:α3}{a4:α4}{a5:α5}{a6:α6}{a7:α7}:a0=a0/\a1=a1/\a2=a2/\a3=a3/\a4=a4/\a5=a5/\a6=a6/\a7=a7/\True:=⟨rfl,rfl,rfl,rfl,rfl,rfl,rfl,rfl,trivial⟩
theorem JP{α0 α1 α2 α3 α4 α5 α6 α7 α8 α9 α10 α11:Type}{a0:α0}{a1:α1}{a2:α2}{a3:α3}{a4:α4}{a5:α5}{a6:α6}{a7:α7}{a8:α8}{a9:α9}{a10:α10}{a11:α11}:a0=a0/\a1=a1/\a2=a2/\a3=a3/\a4=a4/\a5=a5/\a6=a6/\a7=a7/\a8=a8/\a9=a9/\a10=a10/\a11=a11/\True:=⟨rfl,rfl,rfl,rfl,rfl,rfl,rfl,rfl,rfl,rfl,rfl,rfl,trivial⟩
theorem Au{α:Type _}{l:List α}{i:Nat}{a:α}:A0 l i a=l[i]?.getD a:=List.getD_eq_getElem?_getD
theorem Bb{α:Type _}{p:α->Bool}{l:List α}:l.all p=true↔∀x,x∈l->p x=true:=List.all_eq_true
theorem BV{α:Type _}{l:List α}{i:Nat}(h:i<A1 l):l[i]?=some l[i]:=List.getElem?_eq_getElem h
theorem Hp{a b:Rat}:0<=a->0<=b->0<=a*b:=Rat.mul_nonneg
theorem IU{a b:Rat}:a*b=0↔a=0\/b=0:=Rat.mul_eq_zero
theorem DG{α:Type _}{l:List α}:A1 l=0->l=[]:=List.eq_nil_of_length_eq_zero
theorem C3{m n:Nat}:m∈List.range n↔m<n:=List.mem_range
theorem CG{a b:Nat}:a<b->a%b=a:=Nat.mod_eq_of_lt
theorem G3:1*5<=16777216:=by decide
theorem CO:1*1<=16777216:=by decide
theorem Dm:1*9<=16777216:=by decide
theorem Zr:3*9<=16777216:=by decide
theorem Zw:4*9<=16777216:=by decide
theorem SS:1*12<=16777216:=by decide
theorem IY:1*14<=16777216:=by decide
theorem Vk:1*19<=16777216:=by decide
theorem Yj:1*3<=16777216:=by decide
theorem Si:8*1<=16777216:=by decide
theorem Zz:2*1<=16777216:=by decide
theorem VD:6*1<=16777216:=by decide
theorem A3{p:Prop}(h:p:=by omega):p:=h
theorem Ac{p:Prop}(h:p:=by kernel_rfl):p:=h
theorem BU{p:Prop}(h:p:=by first|(simp;done)|grind):p:=h
theorem DS{p:Prop}(h:p:=by first|omega|(simp only[BJ,lC,lN,List.length_drop,List.length_take];omega)):p:=h
theorem Aa{p:Prop}(h:p:=by decide):p:=h
theorem CK{p:Prop}(h:p:=by first|omega|exact Nat.zero_le _):p:=h
theorem FE{p:Prop}(h:p:=by (simp only[Nat.reduceAdd,Nat.reduceMul,Nat.zero_add,Nat.add_zero,Nat.zero_mul])<;>exact I):p:=h
theorem Bl{p:Prop}(h:p:=by assumption):p:=h
theorem Cx{p:Prop}(h:p:=by simp only[BJ,lC,lN];omega):p:=h
theorem B5{p:Prop}(h:p:=by rfl):p:=h
theorem B9{p:Prop}(h:p:=by simp):p:=h
theorem DK{p:Prop}(h:p:=by first|omega|assumption):p:=h
theorem Bo{p:Prop}(h:p:=by grind):p:=h
theorem Hf{p:Prop}(h:p:=by first|omega|(simp only[lN];omega)):p:=h
theorem NF{p:Prop}(h:p:=by first|omega|(simp only[BJ,List.length_drop,List.length_take,lN];omega)):p:=h
theorem KG{p:Prop}(h:p:=by simp only[List.length_singleton];omega):p:=h
theorem NM{p:Prop}(h:p:=by simp only[List.length_singleton,BJ,lR];omega):p:=h
theorem Gl{p:Prop}(h:p:=by simp;omega):p:=h
theorem AC{c:Prop}{h:Decidable c}(i:c){α:Sort _}{t e:α}:ite c t e=t:=if_pos i
theorem A8{c:Prop}{h:Decidable c}(i:¬c){α:Sort _}{t e:α}:ite c t e=e:=if_neg i
theorem AJ{α:Sort _}{β:Sort _}{a b:α}(f:α->β)(h:a=b):f a=f b:=congrArg f h
theorem Ap(a b:Bool):((a&&b)=true)=(a=true/\b=true):=Bool.and_eq_true a b
theorem B1(n:Nat):n<=n:=Nat.le_refl n
theorem Ao{a b c:Nat}(h:a<=b)(i:b<=c):a<=c:=Nat.le_trans h i
theorem BQ(a:Nat){b:Nat}(h:b>0):a%b<b:=Nat.mod_lt a h
theorem Bm{n m:Nat}(h:Nat.ble n m=true):n<=m:=Nat.le_of_ble_eq_true h
theorem Br{p:Prop}(h:¬¬p):p:=Classical.not_not.1 h
theorem C7{p:Prop}(h:¬p->False):p:=Classical.byContradiction h
theorem Bu{α:Type _}{β:Type _}{l:List α}(f:α->β):A1 (l.map f)=A1 l:=List.length_map f
theorem By{α:Type _}{i:Nat}{l:List α}:A1 (l.take i)=min i (A1 l):=List.length_take
theorem Fa(a b:Nat):((a*b:Nat):Int)=a*b:=Int.natCast_mul a b
def wP:=@Classical.not_not
def BY:=@List.mem_cons
def Bv:=@List.not_mem_nil
def CE:=@decide_eq_true_iff
def CP:=@Nat.mul_le_mul_right
def CH:=@decide_eq_true_eq
def Fs:=@List.cons_append
def DH:=@decide_eq_false_iff_not
def Fg:=@List.nil_append
def D0:=@Nat.pow_le_pow_right
def Ck:=@List.append_assoc
def Cu:=@Nat.pos_of_ne_zero
def Cn:=@List.length_drop
def Ce:=@List.append_nil
def Dp:=@Nat.lt_succ_iff_lt_or_eq
def EG:=@Array.getD_eq_getD_getElem?
def E5:=@List.length_singleton
def D6:=@Bool.not_eq_true'
def Cy:=@List.mem_append
def DO:=@Nat.lt_of_lt_of_le
def CT:=@Nat.pow_succ
def DP:=@List.mem_singleton
def Eo:=@Array.getElem?_eq_some_iff
def EB:=@List.drop_of_length_le
def Dj:=@List.getElem?_take
def CX:=@Nat.pow_add
def Cq:=@Nat.add_zero
def Ci:=@Nat.zero_le
def Dz:=@Nat.mul_le_mul_left
def Cp:=@List.mem_map
def HE:=@List.take_succ_eq_append_getElem
def F0:=@List.getElem?_eq_none
def Eu:=@List.contains_eq_mem
def E3:=@List.nil_sublist
def Dq:=@Rat.intCast_mul
def EU:=@List.Sublist.refl
def Dn:=@Rat.intCast_add
def HK:=@Rat.mul_lt_mul_of_pos_right
def E1:=@Nat.div_le_self
def Dy:=@Nat.min_eq_left
def DR:=@Nat.lt_or_ge
def FV:=@List.mem_cons_of_mem
def ER:=@List.take_length
def F5:=@List.getElem?_drop
def EF:=@Rat.intCast_inj
def FA:=@List.getElem?_map
def Eb:=@Bool.or_eq_true
def DX:=@Nat.pow_pos
def Dx:=@List.map_cons
def Ey:=@List.map_toArray
def Ep:=@List.getElem_mem
def E6:=@Nat.zero_add
def E2:=@Nat.zero_mul
def Hk:=@List.getElem?_eq_some_iff
def Et:=@Rat.intCast_sub
def Dw:=@Nat.mul_comm
def Da:=@Nat.not_lt
def Hu:=@List.length_replicate
def HH:=@List.mem_of_mem_take
def FK:=@List.map_append
def GS:=@Nat.sub_add_cancel
def FQ:=@Rat.natCast_mul
def K3:=@Rat.mul_le_mul_of_nonneg_right
def Dh:=@Rat.den_nz
def Fu:=@Nat.div_eq_of_lt
def Hn:=@List.take_of_length_le
def KI:=@Array.getElem?_setIfInBounds
def EP:=@Nat.add_mul
def I8:=@List.mem_append_left
def Hv:=@Nat.div_lt_of_lt_mul
def FP:=@Nat.add_assoc
def Fl:=@Nat.mul_le_mul
def Ek:=@Nat.div_one
def JB:=@List.drop_eq_getElem_cons
def GR:=@Nat.mul_ne_zero
def HB:=@List.lookup_cons
def FT:=@Nat.mul_zero
def Hs:=@Nat.add_sub_cancel
def F9:=@Nat.mul_one
def IJ:=@List.mem_of_mem_drop
def JY:=@of_decide_eq_true
def Gm:=@Nat.div_add_mod
def Ll:=@Nat.mul_lt_mul_of_pos_right
def Gv:=@Rat.intCast_neg
def Ih:=@List.pairwise_cons
def HM:=@List.drop_drop
def K6:=@List.pairwise_append
def He:=@Bool.eq_iff_iff
def LW:=@Array.setIfInBounds_comm
def HU:=@List.mem_filter
def Hl:=@List.foldl_cons
def II:=@Int.toNat_natCast
def N3:=@List.take_append_of_le_length
def LS:=@List.getElem?_cons_succ
def J4:=@List.getElem_of_mem
def Ha:=@List.drop_zero
def HT:=@List.take_zero
def L6:=@Array.getElem?_eq_none
def GN:=@Rat.mul_pos
def L4:=@Rat.intCast_lt_intCast
def H3:=@Nat.sub_zero
def Kh:=@List.take_append_drop
def IZ:=@Nat.not_lt_zero
def Lk:=@List.getElem?_set_ne
def P5:=@List.getElem?_append_left
def Qn:=@List.set_eq_take_append_cons_drop
def Iw:=@Int.mul_nonneg
def Je:=@List.zipIdx_cons
def J2:=@List.perm_middle
def Jd:=@Nat.le_of_not_lt
def Ls:=@List.mem_map_of_mem
def Ku:=@List.replicate_succ
def Ry:=@Array.getElem?_setIfInBounds_ne
def MO:=@Nat.gcd_pos_of_pos_left
def IP:=@Nat.mul_assoc
def KX:=@Nat.eq_zero_or_pos
def HC:=@Nat.sub_le
def Kc:=@Nat.gcd_zero_right
def Jr:=@Nat.one_ne_zero
def LB:=@List.mem_cons_self
def I4:=@Nat.pow_mul
def ND:=@List.getElem?_set_self
def S4:=@List.drop_append_of_le_length
def Nc:=@List.set_append_right
def Ib:=@Nat.le_of_lt
def IH:=@Nat.succ_mul
def Rh:=@List.take_length_add_append
def L8:=@Option.getD_some
def LA:=@List.ext_getElem
def Np:=@Nat.add_mul_div_left
def Oi:=@List.forall_mem_cons
def KD:=@Nat.lt_irrefl
def Pr:=@List.getElem?_append_right
def IS:=@Nat.one_mul
def Ia:=@Rat.one_mul
def Mg:=@List.map_congr_left
def LN:=@Option.map_some
def Nk:=@Array.any_eq_true'
def PW:=@Array.size_setIfInBounds
def Mn:=@Array.ext_getElem?
def N8:=@List.append_of_mem
def Jw:=@List.map_nil
def JN:=@Nat.ne_of_gt
def Mj:=@Nat.lt_of_le_of_lt
def MD:=@Rat.div_mul_cancel
def LQ:=@List.drop_left
def IQ:=@Int.not_lt
def TO:=@List.getElem?_cons_zero
def Mv:=@List.getElem?_set
def TH:=@Nat.div_div_eq_div_mul
def M0:=@List.all_cons
def Ol:=@List.mem_reverse
def NP:=@Nat.gcd_dvd_left
def UA:=@Array.all_eq_true_iff_forall_mem
def OY:=@Nat.zero_lt_succ
def OH:=@List.any_eq_true
def PP:=@List.mem_append_right
def TJ:=@List.getElem?_toArray
def M3:=@Nat.sub_self
def Jn:=@Int.not_le
def ON:=@Rat.intCast_pos
def LZ:=@Int.sub_self
def M1:=@Nat.succ_pos
def Q1:=@List.length_reverse
def Mm:=@Nat.testBit_or
def KY:=@Nat.sub_mul
def Km:=@Nat.mul_add
def Lo:=@Int.neg_mul
def Qw:=@Rat.sub_eq_add_neg
def OC:=@Nat.le_of_dvd
def N2:=@Rat.mul_assoc
def RX:=@List.size_toArray
def S5:=@List.filter_congr
def Pv:=@List.length_range
def Oz:=@List.map_map
def Nv:=@Nat.gcd_comm
def OR:=@Nat.pow_zero
def Mp:=@Int.le_total
def Nn:=@Rat.zero_mul
theorem AV{α:Type _}{a b:α}(h:a=b):some a=some b:=congrArg some h
theorem AW:True:=trivial
end Bk
namespace Bk
open Go Go.RowKit
section
variable {α:Type _}{a b c d e f g i:α}{l:List α}
theorem Ar:a∈a::l:=.head _
theorem Ax:b∈a::b::l:=.tail _ Ar
theorem C6:c∈a::b::c::l:=.tail _ Ax
theorem DT:d∈a::b::c::d::l:=.tail _ C6
theorem Eg:e∈a::b::c::d::e::l:=.tail _ DT
theorem F8:f∈a::b::c::d::e::f::l:=.tail _ Eg
theorem Ew:g∈a::b::c::d::e::f::g::l:=.tail _ F8
theorem H9:i∈a::b::c::d::e::f::g::i::l:=.tail _ Ew
end
abbrev A4:=Nat->Option Obj
def BE(w:AP):A4:=λb=>w.heap[b]?
def MLe(h h':A4):Prop:=∀b o,h b=some o->h' b=some o
theorem MLe.refl(h:A4):MLe h h:=λ_ _ x=>x
theorem MLe.trans{a b c:A4}(h:MLe a b)(k:MLe b c):MLe a c:=λi o x=>k i o (h i o x)
def cell(h:A4)(b i:Nat):Option A2:=
 match h b with
 |some (.cells c _ _)=>c[i]?
 |_=>none
theorem TC{h h':A4}(e:MLe h h'){b i:Nat}{v:A2}(hc:cell h b i=some v):cell h' b i=some v:=by
 unfold cell at *
 cases hb:h b with
 |none=>simp[hb] at hc
 |some o=>rw[e b o hb];rw[hb] at hc;exact hc
theorem nM{h:A4}{w:AP}(e:MLe h (BE w)){b i:Nat}{v:A2}(hc:cell h b i=some v):w.cell? ⟨b,i,none⟩=some v:=by
 have:=TC e hc;unfold cell BE at this;unfold AP.cell?;exact this
theorem v8{w:AP}{b i:Nat}{v:A2}(hc:w.cell? ⟨b,i,none⟩=some v):cell (BE w) b i=some v:=by
 unfold AP.cell? at hc;unfold cell BE;exact hc
inductive AG where
 |blk(b:Nat)(o:Obj)
 |gs(E k:Nat)(v:A2)(n:Nat)(cs:List A2)
def AG.ok(base:Nat)(w:AP):AG->Prop
  | .blk b o=>w.heap[b]?=some o
  | .gs E k v n cs=>w.ownsRow base E k v n cs
def AG.fp:AG->Option Nat
  | .blk b _=>some b
  | .gs _ _ v _ _=>v.ownBlock
structure St(w0:AP)(h0:A4)(L:List AG)(h:A4)(w:AP):Prop where
 below:Below w0.heap.size w0 w
 le:MLe h0 h
 sub:MLe h (BE w)
 fresh:∀b,b<w0.heap.size->h b=h0 b
 ok:∀r∈L,r.ok w0.heap.size w
 own:∀r∈L,∀b,r.fp=some b->h b=none/\w0.heap.size<=b
 apart:L.Pairwise λr s=>∀b,r.fp=some b->s.fp≠some b
theorem St.begin{w:AP}{h:A4}(hs:MLe h (BE w)):St w h [] h w:=
 ⟨Below.refl _ _,MLe.refl h,hs,λ_ _=>rfl,λ_ hr=>by simp at hr,λ_ hr=>by simp at hr,B9⟩
theorem AG.fp_lt{base:Nat}{w:AP}{r:AG}(h:r.ok base w){b:Nat}(hb:r.fp=some b):b<w.heap.size:=by
 cases r with
 |blk b' o=>
  simp only[AG.fp,Option.some.injEq] at hb;subst hb;exact(Eo.1 h).1
 |gs E k v n cs=>exact(AP.ownsRow.lt h b hb).2
theorem AG.kept{base:Nat}{w w':AP}{r:AG}(h:r.ok base w)(hb:∀b,r.fp=some b->w'.heap[b]?=w.heap[b]?):r.ok base w':=by
 cases r with
 |blk b o=>exact(hb b rfl).trans h
 |gs E k v n cs=>
  refine⟨h.1,?_⟩
  rcases h.2 with hn|⟨g,cap,cur,rfl,hbg,hg,rest⟩
  · exact .inl hn
  · exact .inr ⟨g,cap,cur,I,hbg,(hb g I).trans hg,rest⟩
theorem AG.base_le{base base':Nat}{w:AP}{r:AG}(h:r.ok base' w)(hb:base<=base'):r.ok base w:=by
 cases r with
 |blk b o=>exact h
 |gs E k v n cs=>
  refine⟨h.1,?_⟩
  rcases h.2 with hn|⟨g,cap,cur,hv,hbg,rest⟩
  · exact .inl hn
  · exact .inr ⟨g,cap,cur,hv,Ao hb hbg,rest⟩
theorem St.call{w0 w w':AP}{h0 h h':A4}{L L':List AG}(s:St w0 h0 L h w)(c:St w h L' h' w'):St w0 h0 (L'++L) h' w':=by
 have J:w0.heap.size<=w.heap.size:=s.below.size;have H:∀r∈L,∀b,r.fp=some b->b<w.heap.size:=λr C b D=>AG.fp_lt (s.ok r C) D;refine⟨s.below.trans (c.below.mono J),s.le.trans c.le,c.sub,λb D=>(c.fresh b A3).trans (s.fresh b D),?_,?_,?_⟩
 · intro r C
   rcases Cy.1 C with C|C
   · exact AG.base_le (c.ok r C) J
   · exact AG.kept (s.ok r C) λb D=>c.below.block b (H r C b D)
 · intro r C b D
   rcases Cy.1 C with C|C
   · have:=c.own r C b D
     exact⟨this.1,A3⟩
   · have:=s.own r C b D
     exact⟨(c.fresh b (H r C b D)).trans this.1,this.2⟩
 · refine K6.2 ⟨c.apart,s.apart,λr C Z M b D U=>?_⟩
   have h1:=(c.own r C b D).2;have h2:=H Z M b U;omega
theorem St.alloc{w0 w:AP}{h0 h:A4}{L:List AG}(s:St w0 h0 L h w)(o:Obj):St w0 h0 (.blk w.heap.size o::L) h (w.alloc o):=by
 have J:w0.heap.size<=w.heap.size:=s.below.size;have H:∀b,b<w.heap.size->(w.alloc o).heap[b]?=w.heap[b]?:=λb C=>heap_alloc_old w o C;have M:∀r∈L,∀b,r.fp=some b->b<w.heap.size:=λr D b C=>AG.fp_lt (s.ok r D) C;refine⟨s.below.alloc J o,s.le,?_,s.fresh,?_,?_,?_⟩
 · intro b o' C
   have:=s.sub b o' C;unfold BE at *;rw[H b (Eo.1 this).1];exact this
 · intro r D
   rcases BY.1 D with rfl|D
   · exact heap_alloc_new w o
   · exact AG.kept (s.ok r D) λb C=>H b (M r D b C)
 · intro r D b C
   rcases BY.1 D with rfl|D
   · simp only[AG.fp,Option.some.injEq] at C
     subst C;refine⟨?_,J⟩
     cases hh:h w.heap.size with
     |none=>rfl
     |some o'=>
      have:=s.sub _ o' hh;unfold BE at this;exact absurd (Eo.1 this).1 (KD _)
   · exact s.own r D b C
 · refine Ih.2 ⟨λr D b C U=>?_,s.apart⟩
   simp only[AG.fp,Option.some.injEq] at C;have:=M r D b U;omega
theorem St.grown{w0 w w':AP}{h0 h:A4}{A B:List AG}{r r':AG}(s:St w0 h0 (A++r::B) h w)(hg:w.grownBy w' r.fp)(hok:r'.ok w0.heap.size w')
    (hfp:∀b,r'.fp=some b->r.fp=some b\/w.heap.size<=b):St w0 h0 (A++r'::B) h w':=by
 have ab:w0.heap.size<=w.heap.size:=s.below.size;have aa:∀x∈A++r::B,∀b,x.fp=some b->b<w.heap.size:=λx hx b C=>AG.fp_lt (s.ok x hx) C;have D:=s.apart;have J:r∈A++r::B:=by simp
 have Z:∀x,(x∈A\/x∈B)->∀b,x.fp=some b->r.fp≠some b:=by
  intro x hx b C hr;rw[K6,Ih] at D
  rcases hx with hx|hx
  · exact D.2.2 x hx r B9 b C hr
  · exact D.2.1.1 x hx b hr C
 have H:∀x,(x∈A\/x∈B)->∀b,x.fp=some b->w'.heap[b]?=w.heap[b]?:=by
  intro x hx b C;refine hg.block b (aa x ?_ b C) (λe=>Z x hx b C e.symm)
  rcases hx with hx|hx<;>simp[hx]
 have M:∀b,w.heap.size<=b->h b=none:=by
  intro b C
  cases hh:h b with
  |none=>rfl
  |some o=>
   have:=s.sub b o hh;unfold BE at this;have:=(Eo.1 this).1;omega
 refine⟨s.below.grown hg ab (λb C=>(s.own r J b C).2),s.le,?_,s.fresh,?_,?_,?_⟩
 · intro b o C
   have h1:=s.sub b o C;unfold BE at *;refine(hg.block b (Eo.1 h1).1 (λe=>?_)).trans h1;have:=(s.own r J b e.symm).1;rw[this] at C
   cases C
 · intro x hx
   rcases Cy.1 hx with hx|hx
   · exact AG.kept (s.ok x (by simp[hx])) (H x (.inl hx))
   · rcases BY.1 hx with rfl|hx
     · exact hok
     · exact AG.kept (s.ok x (by simp[hx])) (H x (.inr hx))
 · intro x hx b C
   rcases Cy.1 hx with hx|hx
   · exact s.own x (by simp[hx]) b C
   · rcases BY.1 hx with rfl|hx
     · rcases hfp b C with h1|h1
       · exact s.own r J b h1
       · exact⟨M b h1,A3⟩
     · exact s.own x (by simp[hx]) b C
 · have U:∀x,(x∈A\/x∈B)->∀b,x.fp=some b->r'.fp≠some b:=by
    intro x hx b C ac
    rcases hfp b ac with h1|h1
    · exact Z x hx b C h1
    · have:=aa x (by rcases hx with hx|hx<;>simp[hx]) b C
      omega
   rw[K6,Ih] at D ⊢;refine⟨D.1,⟨λx hx b C ad=>U x (.inr hx) b ad C,D.2.1.2⟩,λx hx y hy b C=>?_⟩
   rcases BY.1 hy with rfl|hy
   · exact U x (.inl hx) b C
   · exact D.2.2 x hx y (by simp[hy]) b C
theorem St.drop{w0 w:AP}{h0 h:A4}{A B:List AG}{r:AG}(s:St w0 h0 (A++r::B) h w):St w0 h0 (A++B) h w:=by
 refine⟨s.below,s.le,s.sub,s.fresh,λx hx=>s.ok x ?_,λx hx=>s.own x ?_,?_⟩
 · rcases Cy.1 hx with hx|hx<;>simp[hx]
 · rcases Cy.1 hx with hx|hx<;>simp[hx]
 · have C:=s.apart
   rw[K6,Ih] at C;rw[K6];exact⟨C.1,C.2.1.2,λx hx y hy=>C.2.2 x hx y (by simp[hy])⟩
theorem St.sublist{w0 w:AP}{h0 h:A4}{L L':List AG}(s:St w0 h0 L h w)(hl:L'.Sublist L):St w0 h0 L' h w:=
 ⟨s.below,s.le,s.sub,s.fresh,λr hr=>s.ok r (hl.subset hr),λr hr=>s.own r (hl.subset hr),s.apart.sublist hl⟩
theorem St.freeze{w0 w:AP}{h0 h:A4}{A B:List AG}{b:Nat}{o:Obj}{r:AG}(s:St w0 h0 (A++r::B) h w)(hr:r.fp=some b)(ho:w.heap[b]?=some o):
 St w0 h0 (A++B) (λi=>if i=b then some o else h i) w/\MLe h (λi=>if i=b then some o else h i):=by
 have M:r∈A++r::B:=by simp
 have Z:=s.own r M b hr;have J:MLe h (λi=>if i=b then some o else h i):=by
  intro i o' hi
  by_cases e:i=b
  · rw[e,Z.1] at hi;cases hi
  · simp[e,hi]
 have C:=s.apart;have U:∀x,x∈A++B->x.fp≠some b:=by
  intro x hx H;rw[K6,Ih] at C
  rcases Cy.1 hx with hx|hx
  · exact C.2.2 x hx r B9 b H hr
  · exact C.2.1.1 x hx b hr H
 have D:=s.drop;refine⟨⟨D.below,D.le.trans J,?_,?_,D.ok,?_,D.apart⟩,J⟩
 · intro i o' hi
   by_cases e:i=b
   · simp only[e,if_true,Option.some.injEq] at hi
     subst hi;rw[e];exact ho
   · simp only[e,if_false] at hi
     exact s.sub i o' hi
 · intro i hi
   have:i≠b:=by omega
   simp only[this,if_false];exact s.fresh i hi
 · intro x hx i hi
   have h1:=D.own x hx i hi;have:i≠b:=λe=>U x hx (e▸hi);simp only[this,if_false];exact h1
def Bh(w0:AP)(h0:A4)(R:A4->A2->Prop):Ending->AP->Prop:=λe w=>∃v h,e=.returned v/\R h v/\St w0 h0 [] h w
def gV(w0:AP)(h0:A4)(R:A4->A2->List AG->Prop):Ending->AP->Prop:=λe w=>∃v h L,e=.returned v/\R h v L/\St w0 h0 L h w
structure Bp(n:Nat)(e:List (Nat×A2))(a:Av):Prop where
 defers:a.defers=[]
 size:a.tmps.size=n
 get:∀t v,e.lookup t=some v->a.tmps[t]?=some v
def zK(e:List (Nat×A2)):Ag->Option A2
  | .tmp t=>e.lookup t
  | .const v=>some v
  | .global g=>some (.pointer (some ⟨g,0,none⟩))
  | .func f=>some (.func (.func f) #[] #[])
theorem Bp.eval{n:Nat}{e:List (Nat×A2)}{a:Av}(E:Bp n e a){x:Ag}{v:A2}(h:zK e x=some v):a.eval x=v:=by
 cases x with
 |tmp t=>
  have:=E.get t v h;simp only[Av.eval,EG,this,L8]
 |const u=>exact Option.some.inj h
 |global g=>exact Option.some.inj h
 |func f=>exact Option.some.inj h
theorem Bp.put{n:Nat}{e:List (Nat×A2)}{a:Av}(E:Bp n e a){d:Nat}{v:A2}(hd:d<n):Bp n ((d,v)::e) (a.put (some d) v):=by
 refine⟨E.defers,by simp[Av.put,E.size],λt u h=>?_⟩;simp only[HB] at h
 by_cases ht:t=d
 · subst ht
   simp at h;subst h;simp[Av.put,E.size,hd]
 · have:(t==d)=false:=by simpa using ht
   rw[this] at h;simp only[Av.put];rw[Ry (Ne.symm ht)];exact E.get t u h
@[reducible] def Ee:List (Nat×A2)->List (Nat×A2)->Prop
  |[],_=>True
  |(t,v)::r,e=>e.lookup t=some v/\Ee r e
theorem Ee.lookup{e:List (Nat×A2)}:∀{e':List (Nat×A2)},Ee e' e->∀t v,e'.lookup t=some v->e.lookup t=some v
  |[],_,t,v,h=>by simp at h
  |(k,u)::r,hs,t,v,h=>by
   simp only[HB] at h
   by_cases ht:t=k
   · subst ht
     simp at h;subst h;exact hs.1
   · have:(t==k)=false:=by simpa using ht
     rw[this] at h;exact Ee.lookup hs.2 t v h
theorem Bp.sub{n:Nat}{e e':List (Nat×A2)}{a:Av}(E:Bp n e a)(h:Ee e' e):Bp n e' a:=⟨E.defers,E.size,λt v ht=>E.get t v (h.lookup t v ht)⟩
@[reducible] def pP(e:List (Nat×A2)):List Ag->List A2->Prop
  |[],[]=>True
  |x::xs,v::vs=>zK e x=some v/\pP e xs vs
  |_,_=>False
theorem Bp.evals{n:Nat}{e:List (Nat×A2)}{a:Av}(E:Bp n e a):∀{xs:List Ag} {vs:List A2},pP e xs vs->xs.map a.eval=vs
  |[],[],_=>rfl
  |x::xs,v::vs,h=>by rw[Dx,E.eval h.1,E.evals h.2]
  |[],_::_,h=>h.elim
  |_::_,[],h=>h.elim
section goals
variable (P:D)(n:Nat)(w0:AP)(h0:A4)
def GL(ops:Array AY)(Q:BH->Av->AP->Prop)(l:List AY)(e:List (Nat×A2))(L:List AG)(h:A4):Prop:=
 ∀a w,Bp n e a->St w0 h0 L h w->wpList P ops Q l a w
def GC(c:Code)(Q:BH->Av->AP->Prop)(e:List (Nat×A2))(L:List AG)(h:A4):Prop:=
 ∀a w,Bp n e a->St w0 h0 L h w->c.wp P Q a w
def GQ(Q:BH->Av->AP->Prop)(x:BH)(e:List (Nat×A2))(L:List AG)(h:A4):Prop:=
 ∀a w,Bp n e a->St w0 h0 L h w->Q x a w
def OpV(o:AY)(e:List (Nat×A2))(L:List AG)(h:A4)(v:A2):Prop:=
 ∀a w,Bp n e a->St w0 h0 L h w->(execOp a.eval o).run P w=.ok (.value v) w
def EH(o:AY)(e:List (Nat×A2))(A:List AG)(r:AG)(B:List AG)(h:A4)(r':AG):Prop:=
 ∀a w,Bp n e a->St w0 h0 (A++r::B) h w->∃w',(execOp a.eval o).run P w=.ok .skip w'/\w.grownBy w' r.fp/\r'.ok w0.heap.size w'
end goals
section rules
variable {P:D}{n:Nat}{w0:AP}{h0:A4}{e:List (Nat×A2)}{L:List AG}{h:A4}{Q:BH->Av->AP->Prop}
theorem kA{f:FuncId}{fn:Func}{c:Code}{vs:List A2}{R:Ending->AP->Prop}{w0:AP}(hf:P.funcs[f]?=some fn)(hb:fn.body=some c)(hn:fn.ntmps=n)(hl:vs.length<=n)
    (hs:MLe h0 (BE w0))(he:Ee e (vs.zipIdx.map λp=>(p.2,p.1)))(k:GC P n w0 h0 c (bodyPost P fn R) e [] h0):Calls P f vs.toArray w0 R:=by
 refine calls_of_wp hf hb (k _ _ ?_ (St.begin hs));subst hn;refine Bp.sub ⟨I,by simp;omega,?_⟩ he;intro t v ht;have key:∀(l:List A2) (k t:Nat),((l.zipIdx k).map λp=>(p.2,p.1)).lookup t=some v->k<=t/\l[t-k]?=some v:=by
  intro l
  induction l with
  |nil=>intro k t h;simp at h
  |cons x l ih=>
   intro k t h;simp only[Je,Dx,HB] at h
   by_cases hk:t=k
   · subst hk
     simp at h;exact⟨B1 _,by simp[h]⟩
   · have:(t==k)=false:=by simpa using hk
     rw[this] at h;have:=ih (k+1) t h;refine⟨A3,?_⟩;have e1:t-k=(t-(k+1))+1:=by omega
     rw[e1,LS];exact this.2
 have:=(key vs 0 t ht).2;simp only[H3] at this;simp only[RX];rw[Array.getElem?_append_left (by simpa using(Hk.1 this).1)]
 simpa using this
theorem jZ{f:FuncId}{fn:Func}{c:Code}{vs:List A2}{R:Ending->AP->Prop}{w0 w:AP}{L:List AG}{h:A4}(hf:P.funcs[f]?=some fn)(hb:fn.body=some c)(hn:fn.ntmps=n)(hl:vs.length<=n)
    (S:St w0 h0 L h w)(he:Ee e (vs.zipIdx.map λp=>(p.2,p.1)))(k:GC P n w0 h0 c (bodyPost P fn R) e L h):Calls P f vs.toArray w R:=by
 refine calls_of_wp hf hb (k _ _ ?_ S);subst hn;refine Bp.sub ⟨I,by simp;omega,?_⟩ he;intro t v ht;have key:∀(l:List A2) (k t:Nat),((l.zipIdx k).map λp=>(p.2,p.1)).lookup t=some v->k<=t/\l[t-k]?=some v:=by
  intro l
  induction l with
  |nil=>intro k t h;simp at h
  |cons x l ih=>
   intro k t h;simp only[Je,Dx,HB] at h
   by_cases hk:t=k
   · subst hk
     simp at h;exact⟨B1 _,by simp[h]⟩
   · have:(t==k)=false:=by simpa using hk
     rw[this] at h;have:=ih (k+1) t h;refine⟨A3,?_⟩;have e1:t-k=(t-(k+1))+1:=by omega
     rw[e1,LS];exact this.2
 have:=(key vs 0 t ht).2;simp only[H3] at this;simp only[RX];rw[Array.getElem?_append_left (by simpa using(Hk.1 this).1)]
 simpa using this
theorem wD{x y:Code}(k:GC P n w0 h0 x (BH.then (y.wp P Q) Q) e L h):GC P n w0 h0 (.seq x y) Q e L h:=
 λa w E S=>wp_seq (k a w E S)
theorem pT(k:GQ n w0 h0 Q .normal e L h):GC P n w0 h0 .skip Q e L h:=λa w E S=>wp_skip (k a w E S)
theorem LJ(k:GQ n w0 h0 Q .ret e L h):GC P n w0 h0 .ret Q e L h:=λa w E S=>wp_ret (k a w E S)
theorem mJ{i:Nat}(k:GQ n w0 h0 Q (.exit i) e L h):GC P n w0 h0 (.exit i) Q e L h:=λa w E S=>wp_exit (k a w E S)
theorem fX{i:Nat}{c:Code}(k:GC P n w0 h0 c (BH.inBlock i Q) e L h):GC P n w0 h0 (.block i c) Q e L h:=λa w E S=>wp_block (k a w E S)
theorem yM{i:Nat}{l:List AY}(k:GL P n w0 h0 (Am l) Q l e L h):GC P n w0 h0 (.region i (Am l) false) Q e L h:=λa w E S=>wp_region_lit (k a w E S)
theorem wU{ops:Array AY}(k:GQ n w0 h0 Q .normal e L h):GL P n w0 h0 ops Q [] e L h:=λa w E S=>wpList_nil (k a w E S)
theorem xH{y:Code}(k:GC P n w0 h0 y Q e L h):GQ n w0 h0 (BH.then (y.wp P Q) Q) .normal e L h:=k
theorem Gn{i:Nat}(k:GQ n w0 h0 Q .normal e L h):GQ n w0 h0 (BH.inBlock i Q) .normal e L h:=k
theorem rT{N:Av->AP->Prop}{i:Nat}(k:GQ n w0 h0 Q (.exit i) e L h):GQ n w0 h0 (BH.then N Q) (.exit i) e L h:=k
theorem mI{i:Nat}(k:GQ n w0 h0 Q .normal e L h):GQ n w0 h0 (BH.inBlock i Q) (.exit i) e L h:=by
 intro a w E S;simp only[BH.inBlock,if_true];exact k a w E S
theorem T4{i j:Nat}(hij:(j==i)=false)(k:GQ n w0 h0 Q (.exit j) e L h):GQ n w0 h0 (BH.inBlock i Q) (.exit j) e L h:=by
 intro a w E S;have:j≠i:=by simpa using hij
 simp only[BH.inBlock,this,if_false];exact k a w E S
theorem OL{N:Av->AP->Prop}(k:GQ n w0 h0 Q .ret e L h):GQ n w0 h0 (BH.then N Q) .ret e L h:=k
theorem NI{i:Nat}(k:GQ n w0 h0 Q .ret e L h):GQ n w0 h0 (BH.inBlock i Q) .ret e L h:=k
theorem gQ{x:BH}{e':List (Nat×A2)}(hs:Ee e' e)(k:GQ n w0 h0 Q x e' L h):GQ n w0 h0 Q x e L h:=λa w E S=>k a w (E.sub hs) S
theorem Th{c:Code}{e':List (Nat×A2)}(hs:Ee e' e)(k:GC P n w0 h0 c Q e' L h):GC P n w0 h0 c Q e L h:=λa w E S=>k a w (E.sub hs) S
theorem yE{x:BH}{A B:List AG}{r:AG}(k:GQ n w0 h0 Q x e (A++B) h):GQ n w0 h0 Q x e (A++r::B) h:=λa w E S=>k a w E S.drop
noncomputable def vB(p:Prop):A2:=.bool (@decide p (Classical.propDecidable p))
theorem qQ{p q:Prop}(hpq:p↔q):vB p=vB q:=by rw[propext hpq]
theorem yU{p:Prop}(hp:p):vB p=.bool true:=by unfold vB;simp[hp]
theorem yH{p:Prop}(hp:¬p):vB p=.bool false:=by unfold vB;simp[hp]
theorem xE{p q:Prop}(hp:p):vB q=vB (p/\q):=qQ ⟨λh=>⟨hp,h⟩,λh=>h.2⟩
theorem xG{p q:Prop}(hp:¬p):A2.bool false=vB (p/\q):=(yH λh=>hp h.1).symm
theorem vN{p q:Prop}(hp:p):A2.bool true=vB (p\/q):=(yU (.inl hp)).symm
theorem vO{p q:Prop}(hp:¬p):vB q=vB (p\/q):=qQ ⟨.inr,λh=>h.resolve_left hp⟩
theorem ay{c:Ag}{x y:Code}{p:Prop}(hc:zK e c=some (vB p))(kt:p->GC P n w0 h0 x Q e L h)(kf:¬p->GC P n w0 h0 y Q e L h):GC P n w0 h0 (.cond c x y) Q e L h:=by
 intro a w E S
 by_cases hp:p
 · exact wp_cond_true (by rw[E.eval hc,yU hp]) (kt hp a w E S)
 · exact wp_cond_false (by rw[E.eval hc,yH hp]) (kf hp a w E S)
theorem WC{c:Ag}{x y:Code}(hc:zK e c=some (.bool true))(k:GC P n w0 h0 x Q e L h):GC P n w0 h0 (.cond c x y) Q e L h:=
 λa w E S=>wp_cond_true (E.eval hc) (k a w E S)
theorem c8{c:Ag}{x y:Code}(hc:zK e c=some (.bool false))(k:GC P n w0 h0 y Q e L h):GC P n w0 h0 (.cond c x y) Q e L h:=
 λa w E S=>wp_cond_false (E.eval hc) (k a w E S)
theorem jD{ι:Type}{x y:Code}(inv:ι->Prop)(ev:ι->List (Nat×A2))(Lv:ι->List AG)(hv:ι->A4)
    (kx:GC P n w0 h0 x (BH.then (λa w=>∃i,inv i/\Bp n (ev i) a/\St w0 h0 (Lv i) (hv i) w) Q) e L h)
    (ky:∀i,inv i->GC P n w0 h0 y Q (ev i) (Lv i) (hv i)):GC P n w0 h0 (.seq x y) Q e L h:=by
 intro a w E S;refine wp_seq (wp_mono (kx a w E S) ?_);intro x a w C
 cases x with
 |normal=>obtain⟨i,hi,E,S⟩:=C;exact ky i hi a w E S
 |_=>exact C
theorem zV{ι:Type}{inv:ι->Prop}{ev:ι->List (Nat×A2)}{Lv:ι->List AG}{hv:ι->A4}(i:ι)(hi:inv i)(he:Ee (ev i) e)(hL:Lv i=L)(hh:hv i=h):
 GQ n w0 h0 (BH.then (λa w=>∃i,inv i/\Bp n (ev i) a/\St w0 h0 (Lv i) (hv i) w) Q) .normal e L h:=
 λa w E S=>⟨i,hi,E.sub he,by rw[hL,hh];exact S⟩
theorem gB{ι:Type}{c:Code}(inv:ι->Prop)(ev:ι->List (Nat×A2))(Lv:ι->List AG)(hv:ι->A4)(μ:ι->Nat)(i0:ι)(hi0:inv i0)(he:Ee (ev i0) e)(hL:Lv i0=L)(hh:hv i0=h)
    (round:∀i,inv i->GC P n w0 h0 c (BH.then (λa w=>∃j,(inv j/\μ j<μ i)/\Bp n (ev j) a/\St w0 h0 (Lv j) (hv j) w) Q) (ev i) (Lv i) (hv i)):GC P n w0 h0 (.loop c) Q e L h:=by
 have key:∀m i,μ i=m->inv i->∀a w,Bp n (ev i) a->St w0 h0 (Lv i) (hv i) w->∀(b:Frame) (k:List Item) (cs:List Frame),
  ∃x a' w',Q x a' w'/\Arrives P (lone (b.at a (.code c::.inLoop c::k)) cs w) b k cs x a' w':=by
  intro m
  induction m using Nat.strongRecOn with
  |_ m ih=>
   intro i hm hi a w E S b k cs;obtain⟨x,a1,w1,hq,harr⟩:=round i hi a w E S b (.inLoop c::k) cs
   cases x with
   |normal=>
    obtain⟨j,⟨hj,hlt⟩,E1,S1⟩:=hq;obtain⟨x2,a2,w2,hq2,harr2⟩:=ih (μ j) (hm▸hlt) j I hj a1 w1 E1 S1 b k cs;exact⟨x2,a2,w2,hq2,.of_steps (Steps.trans harr (.one step_inLoop)) harr2⟩
   |exit id=>exact⟨_,a1,w1,hq,.pass (x:=.inLoop c) rfl (λ_ _=>.inl B9) harr⟩
   |goto l=>exact⟨_,a1,w1,hq,.pass (x:=.inLoop c) rfl (λ_ _=>.inl B9) harr⟩
   |ret=>exact⟨_,a1,w1,hq,.pass (x:=.inLoop c) rfl (λ_ _=>.inl B9) harr⟩
   |panic ch=>exact⟨_,a1,w1,hq,.pass (x:=.inLoop c) rfl (λ_ _=>.inl B9) harr⟩
   |outgrown=>exact⟨_,a1,w1,hq,.pass (x:=.inLoop c) rfl (λ_ _=>.inl B9) harr⟩
 intro a w E S b k cs;obtain⟨x,a',w',hq,harr⟩:=key _ i0 I hi0 a w (E.sub he) (by rw[hL,hh];exact S) b k cs;exact⟨x,a',w',hq,.of_steps (.one step_loop) harr⟩
theorem qL{ι:Type}{inv:ι->Prop}{ev:ι->List (Nat×A2)}{Lv:ι->List AG}{hv:ι->A4}{μ:ι->Nat}{m:Nat}(i:ι)(hi:inv i)(hm:μ i<m)(he:Ee (ev i) e)(hL:Lv i=L)(hh:hv i=h):
 GQ n w0 h0 (BH.then (λa w=>∃j,(inv j/\μ j<m)/\Bp n (ev j) a/\St w0 h0 (Lv j) (hv j) w) Q) .normal e L h:=
 λa w E S=>⟨i,⟨hi,hm⟩,E.sub he,by rw[hL,hh];exact S⟩
theorem zC{fn:Func}{t:Nat}{v:A2}{R:A4->A2->Prop}(hr:fn.results=#[.tmp t])(hv:zK e (.tmp t)=some v)(hR:R h v):GQ n w0 h0 (bodyPost P fn (Bh w0 h0 R)) .ret e L h:=by
 intro a w E S;refine bodyPost_ret (results_tmp hr _ _ _) E.defers ?_;have:=E.eval hv;simp only[Av.eval] at this;rw[this];exact⟨v,h,I,hR,S.sublist (E3 _)⟩
theorem qU{fn:Func}{t:Nat}{v:A2}{R:A4->A2->List AG->Prop}(hr:fn.results=#[.tmp t])(hv:zK e (.tmp t)=some v)(hR:R h v L):GQ n w0 h0 (bodyPost P fn (gV w0 h0 R)) .ret e L h:=by
 intro a w E S;refine bodyPost_ret (results_tmp hr _ _ _) E.defers ?_;have:=E.eval hv;simp only[Av.eval] at this;rw[this];exact⟨v,h,L,I,hR,S⟩
theorem wS{fn:Func}{t u:Nat}{v x:A2}{R:A4->A2->Prop}(hr:fn.results=#[.tmp t,.tmp u])(hv:zK e (.tmp t)=some v)(hx:zK e (.tmp u)=some x)(hR:R h (.tuple #[v,x])):
 GQ n w0 h0 (bodyPost P fn (Bh w0 h0 R)) .ret e L h:=by
 intro a w E S;refine bodyPost_ret (results_tmp2 hr _ _ _) E.defers ?_;have h1:=E.eval hv;have h2:=E.eval hx;simp only[Av.eval] at h1 h2;rw[h1,h2];exact⟨_,h,I,hR,S.sublist (E3 _)⟩
theorem jC{fn:Func}{t u s:Nat}{v x y:A2}{R:A4->A2->Prop}(hr:fn.results=#[.tmp t,.tmp u,.tmp s])(hv:zK e (.tmp t)=some v)(hx:zK e (.tmp u)=some x)(hy:zK e (.tmp s)=some y)
    (hR:R h (.tuple #[v,x,y])):GQ n w0 h0 (bodyPost P fn (Bh w0 h0 R)) .ret e L h:=by
 intro a w E S;have h1:=E.eval hv;have h2:=E.eval hx;have h3:=E.eval hy;simp only[Av.eval] at h1 h2 h3;refine bodyPost_ret (v:=.tuple #[v,x,y]) ?_ E.defers ⟨_,h,I,hR,S.sublist (E3 _)⟩;simp only[EG] at h1 h2 h3;simp[results,hr,h1,h2,h3]
theorem Ug{fn:Func}{R:A4->A2->List AG->Prop}(hr:fn.results=#[])(hR:R h (.tuple #[]) L):GQ n w0 h0 (bodyPost P fn (gV w0 h0 R)) .normal e L h:=by
 intro a w E S;refine bodyPost_end (results_none hr _ _ _) E.defers ?_;exact⟨_,h,L,I,hR,S⟩
theorem mQ{ops:Array AY}{rest:List AY}{o:AY}{d:Nat}{v:A2}(hv:OpV P n w0 h0 o e L h v)(hg:o.guard=none)(hd:o.dst=some d)(hn:Nat.ble (d+1) n=true)
    (k:GL P n w0 h0 ops Q rest ((d,v)::e) L h):GL P n w0 h0 ops Q (o::rest) e L h:=by
 intro a w E S;refine wpList_plain hg λK C=>?_;unfold AY.wp;rw[hv a w E S,AY.upon_value,hd];exact C _ _ (k _ _ (E.put (Bm hn)) S)
theorem JD{ops:Array AY}{rest:List AY}{o:AY}{g t:Nat}{b:Bool}(hg:o.guard=some (g,b))(ht:(ops[g]?).bind (·.dst)=some t)(he:e.lookup t=some (.bool b))
    (k:GL P n w0 h0 ops Q ({o with guard:=none}::rest) e L h):GL P n w0 h0 ops Q (o::rest) e L h:=by
 intro a w E S;have C:=k a w E S;have D:Region.wanted o (yielded ops a.tmps)=true:=by
  have:=E.get t _ he;simp[Region.wanted,hg,yielded,ht,this]
 unfold wpList at C ⊢;rw[AC D];rw[AC (by simp[Region.wanted])] at C;exact C
theorem J3{ops:Array AY}{rest:List AY}{o:AY}{g t d:Nat}{b c:Bool}(hg:o.guard=some (g,b))(ht:(ops[g]?).bind (·.dst)=some t)(he:e.lookup t=some (.bool c))(hbc:(c==b)=false)
    (hd:o.dst=some d)(hn:Nat.ble (d+1) n=true)(k:GL P n w0 h0 ops Q rest ((d,undef)::e) L h):GL P n w0 h0 ops Q (o::rest) e L h:=by
 intro a w E S;have C:Region.wanted o (yielded ops a.tmps)=false:=by
  have:=E.get t _ he;simp only[Region.wanted,hg,yielded,ht,this,Option.bind_some]
  simpa using hbc
 unfold wpList;rw[A8 (by simp[C]),hd];exact k _ _ (E.put (Bm hn)) S
theorem OpV.tr{o:AY}{p:Prop}(hp:p)(hv:OpV P n w0 h0 o e L h (vB p)):OpV P n w0 h0 o e L h (.bool true):=yU hp▸hv
theorem OpV.fa{o:AY}{p:Prop}(hp:¬p)(hv:OpV P n w0 h0 o e L h (vB p)):OpV P n w0 h0 o e L h (.bool false):=yH hp▸hv
theorem o0{ops:Array AY}{rest:List AY}{o:AY}{g t d:Nat}{b:Bool}(hg:o.guard=some (g,b))(ht:(ops[g]?).bind (·.dst)=some t)(he:e.lookup t=some undef)
    (hd:o.dst=some d)(hn:Nat.ble (d+1) n=true)(k:GL P n w0 h0 ops Q rest ((d,undef)::e) L h):GL P n w0 h0 ops Q (o::rest) e L h:=by
 intro a w E S;have C:Region.wanted o (yielded ops a.tmps)=false:=by
  have:=E.get t _ he;simp[Region.wanted,hg,yielded,ht,this,undef]
 unfold wpList;rw[A8 (by simp[C]),hd];exact k _ _ (E.put (Bm hn)) S
theorem uH{ops:Array AY}{ι:Type}(j:Nat){l:List AY}(inv:ι->Prop)(ev:ι->List (Nat×A2))(Lv:ι->List AG)(hv:ι->A4)
    (kx:GL P n w0 h0 ops (BH.then (λa w=>∃i,inv i/\Bp n (ev i) a/\St w0 h0 (Lv i) (hv i) w) Q) (l.take j) e L h)
    (ky:∀i,inv i->GL P n w0 h0 ops Q (l.drop j) (ev i) (Lv i) (hv i)):GL P n w0 h0 ops Q l e L h:=by
 intro a w E S;have key:∀(l1:List AY) a w,wpList P ops (BH.then (λa w=>∃i,inv i/\Bp n (ev i) a/\St w0 h0 (Lv i) (hv i) w) Q) l1 a w->wpList P ops Q (l1++l.drop j) a w:=by
  intro l1
  induction l1 with
  |nil=>intro a w hq;obtain⟨i,hi,E,S⟩:=hq;exact ky i hi a w E S
  |cons o l1 ih=>
   intro a w hq;simp only[Fs];unfold wpList at hq ⊢
   split
   · rename_i hw
     rw[AC hw] at hq;refine hq.imp (λhq=>?_) (λhq=>⟨hq.1,?_⟩)
     · unfold AY.wp at *
       generalize (execOp a.eval o).run P w=r at *
       cases r with
       |ok x w'=>
        cases x<;>simp only[AY.upon] at hq ⊢<;>
         first
          |exact ih _ _ hq
          |exact Calls.mono hq (λe w'' he=>by cases e<;>first|exact ih _ _ he|exact he)
          |exact Rows.mono hq (λ_ _ he=>ih _ _ he)
       |halt x w'=>cases x<;>simp only[AY.upon] at hq ⊢<;>exact hq
     · obtain⟨a,w,hq⟩:=hq.2;exact⟨a,w,hq⟩
   · rename_i hw
     rw[A8 hw] at hq;exact ih _ _ hq
 have:=key (l.take j) a w (kx a w E S)
 rwa [Kh] at this
theorem zY{ops:Array AY}{l:List AY}(p:Prop)(kt:p->GL P n w0 h0 ops Q l e L h)(kf:¬p->GL P n w0 h0 ops Q l e L h):GL P n w0 h0 ops Q l e L h:=by
 by_cases hp:p
 · exact kt hp
 · exact kf hp
theorem rk{c:Code}(p:Prop)(kt:p->GC P n w0 h0 c Q e L h)(kf:¬p->GC P n w0 h0 c Q e L h):GC P n w0 h0 c Q e L h:=by
 by_cases hp:p
 · exact kt hp
 · exact kf hp
theorem p3{ops:Array AY}{rest:List AY}{o:AY}{d f:Nat}{xs:List Ag}{ts:Array Ab}{vs:List A2}{R:A4->A2->Prop}(hop:o.op=.call {callee:=.value (.func f),args:=Am xs,argTypes:=ts})
    (hg:o.guard=none)(hd:o.dst=some d)(hn:Nat.ble (d+1) n=true)(hcall:∀args w,(callFunc f args).run P w=.ok (.enter f args) w)(hvs:pP e xs vs)
    (hc:∀w,MLe h (BE w)->Calls P f vs.toArray w (Bh w h R))(k:∀v h',MLe h h'->R h' v->GL P n w0 h0 ops Q rest ((d,v)::e) L h'):GL P n w0 h0 ops Q (o::rest) e L h:=by
 intro a w E S;refine wpList_plain hg λK U=>?_;have C:(Am xs).map a.eval=vs.toArray:=by rw[Ey,E.evals hvs]
 have M:(execOp a.eval o).run P w=.ok (.enter f vs.toArray) w:=by
  obtain⟨dst,op,ty,J,D,guard⟩:=o;simp only at hop;subst hop;simp only[execOp,resolve,Av.eval];simp[Deferred.ofValue,invoke,hcall,C]
 unfold AY.wp;rw[M,AY.upon_enter];refine(hc w S.sub).mono ?_
 rintro e' w' ⟨v,h',rfl,hR,H⟩
 have Z:=S.call H;rw[hd];exact U _ _ (k v h' H.le hR _ _ (E.put (Bm hn)) Z)
theorem uS{ops:Array AY}{rest:List AY}{o:AY}{d f:Nat}{xs:List Ag}{ts:Array Ab}{vs:List A2}{R:A4->A2->List AG->Prop}(hop:o.op=.call {callee:=.value (.func f),args:=Am xs,argTypes:=ts})
    (hg:o.guard=none)(hd:o.dst=some d)(hn:Nat.ble (d+1) n=true)(hcall:∀args w,(callFunc f args).run P w=.ok (.enter f args) w)(hvs:pP e xs vs)
    (hc:∀w,MLe h (BE w)->Calls P f vs.toArray w (gV w h R))(k:∀v h' L',MLe h h'->R h' v L'->GL P n w0 h0 ops Q rest ((d,v)::e) (L'++L) h'):GL P n w0 h0 ops Q (o::rest) e L h:=by
 intro a w E S;refine wpList_plain hg λK U=>?_;have C:(Am xs).map a.eval=vs.toArray:=by rw[Ey,E.evals hvs]
 have M:(execOp a.eval o).run P w=.ok (.enter f vs.toArray) w:=by
  obtain⟨dst,op,ty,J,D,guard⟩:=o;simp only at hop;subst hop;simp only[execOp,resolve,Av.eval];simp[Deferred.ofValue,invoke,hcall,C]
 unfold AY.wp;rw[M,AY.upon_enter];refine(hc w S.sub).mono ?_
 rintro e' w' ⟨v,h',L',rfl,hR,H⟩
 have Z:=S.call H;rw[hd];exact U _ _ (k v h' L' H.le hR _ _ (E.put (Bm hn)) Z)
theorem Ue{ops:Array AY}{rest:List AY}{o:AY}{d f:Nat}{xs:List Ag}{ts:Array Ab}{vs:List A2}{R:A4->A2->Prop}(hop:o.op=.call {callee:=.value (.func f),args:=Am xs,argTypes:=ts})
    (hg:o.guard=none)(hd:o.dst=some d)(hn:Nat.ble (d+1) n=true)(hcall:∀args w,(callFunc f args).run P w=.ok (.enter f args) w)(hvs:pP e xs vs)
    (hc:∀w,St w0 h0 L h w->Calls P f vs.toArray w (Bh w (BE w) R))(k:∀v,(∃h',R h' v)->GL P n w0 h0 ops Q rest ((d,v)::e) L h):GL P n w0 h0 ops Q (o::rest) e L h:=by
 intro a w E S;refine wpList_plain hg λK hK=>?_;have C:(Am xs).map a.eval=vs.toArray:=by rw[Ey,E.evals hvs]
 have D:(execOp a.eval o).run P w=.ok (.enter f vs.toArray) w:=by
  obtain⟨dst,op,ty,aa,U,guard⟩:=o;simp only at hop;subst hop;simp only[execOp,resolve,Av.eval];simp[Deferred.ofValue,invoke,hcall,C]
 unfold AY.wp;rw[D,AY.upon_enter];refine(hc w S).mono ?_
 rintro e' Z ⟨v,h',rfl,hR,H⟩
 have J:∀r∈L,∀b,r.fp=some b->b<w.heap.size:=λr D b M=>AG.fp_lt (S.ok r D) M;have S2:St w0 h0 L h Z:=⟨S.below.trans (H.below.mono S.below.size),S.le,(S.sub.trans H.le).trans H.sub,S.fresh,λr D=>AG.kept (S.ok r D) λb M=>H.below.block b (J r D b M),S.own,S.apart⟩;rw[hd];exact hK _ _ (k v ⟨h',hR⟩ _ _ (E.put (Bm hn)) S2)
theorem aK{ops:Array AY}{rest:List AY}{o:AY}{d f:Nat}{xs:List Ag}{ts:Array Ab}{vs:List A2}{R:A4->A2->List AG->Prop}(hop:o.op=.call {callee:=.value (.func f),args:=Am xs,argTypes:=ts})
    (hg:o.guard=none)(hd:o.dst=some d)(hn:Nat.ble (d+1) n=true)(hcall:∀args w,(callFunc f args).run P w=.ok (.enter f args) w)(hvs:pP e xs vs)
    (hc:∀w,St w0 h0 L h w->Calls P f vs.toArray w (gV w0 h0 R))(k:∀v h' L',R h' v L'->GL P n w0 h0 ops Q rest ((d,v)::e) L' h'):GL P n w0 h0 ops Q (o::rest) e L h:=by
 intro a w E S;refine wpList_plain hg λK M=>?_;have C:(Am xs).map a.eval=vs.toArray:=by rw[Ey,E.evals hvs]
 have J:(execOp a.eval o).run P w=.ok (.enter f vs.toArray) w:=by
  obtain⟨dst,op,ty,H,D,guard⟩:=o;simp only at hop;subst hop;simp only[execOp,resolve,Av.eval];simp[Deferred.ofValue,invoke,hcall,C]
 unfold AY.wp;rw[J,AY.upon_enter];refine(hc w S).mono ?_
 rintro e' Z ⟨v,h',L',rfl,hR,U⟩
 rw[hd];exact M _ _ (k v h' L' hR _ _ (E.put (Bm hn)) U)
theorem xY{ops:Array AY}{rest:List AY}{o:AY}{A B:List AG}{r r':AG}(hv:EH P n w0 h0 o e A r B h r')
    (hfp:r'.fp=r.fp)(hg:o.guard=none)(hd:o.dst=none)(k:GL P n w0 h0 ops Q rest e (A++r'::B) h):GL P n w0 h0 ops Q (o::rest) e (A++r::B) h:=by
 intro a w E S;refine wpList_plain hg λK M=>?_;obtain⟨U,H,D,C⟩:=hv a w E S;unfold AY.wp;rw[H,AY.upon_skip,hd];exact M _ _ (k _ _ E (S.grown D C λb J=>.inl (hfp▸J)))
end rules
theorem law_true{P:D}{f:FuncId}{args:Array A2}{w:AP}{h:A4}(hc:Calls P f args w (Bh w h λ_ v=>v=.bool true)):Calls P f args w λe w'=>e=.returned (.bool true)/\Below w.heap.size w w':=
 hc.mono λ_ _ ⟨_,_,he,hv,S⟩=>⟨by rw[he,hv],S.below⟩
def vI(x:Int):A2:=.int .i64 x
def vU(k:B2)(x:Nat):A2:=.int k (x:Int)
def ub:B2->Nat
  | .u8=>256
  | .u16=>65536
  | .u32=>4294967296
  | .u64=>18446744073709551616
  |_=>0
theorem UR{k:B2}(hk:k.signed=false)(x:Int):k.wrap x=x%(ub k:Int):=by
 cases k<;>simp[B2.signed] at hk<;>simp[B2.wrap,B2.signed,B2.bits,ub]
theorem KO{k:B2}(hk:k.signed=false)(x:Nat):k.wrap (x:Int)=((x%ub k:Nat):Int):=by
 rw[UR hk];omega
theorem oV{k:B2}(hk:k.signed=false){x:Nat}(hx:x<ub k):k.wrap (x:Int)=(x:Int):=by
 rw[KO hk,CG hx]
theorem JA{x:Int}(h1:-9223372036854775808<=x)(h2:x<9223372036854775808):B2.i64.wrap x=x:=by
 rw[B2.wrap_i64];omega
section ops
variable {P:D}{n:Nat}{w0:AP}{h0:A4}{e:List (Nat×A2)}{L:List AG}{h:A4}
variable {ds:Option Tmp}{ty:Ab}{ps:String}{af:Array Edge}{gd:Option (Nat×Bool)}
theorem xK{x:Ag}{v:A2}(hx:zK e x=some v):OpV P n w0 h0 ⟨ds,.move x,ty,ps,af,gd⟩ e L h v:=by
 intro a w E S;simp[execOp,E.eval hx]
theorem rN{x:Ag}{v:A2}(hx:zK e x=some v):OpV P n w0 h0 ⟨ds,.assign x,ty,ps,af,gd⟩ e L h v:=by
 intro a w E S;simp[execOp,E.eval hx]
theorem lI{c x y:Ag}{v:A2}(hc:zK e c=some (.bool true))(hx:zK e x=some v):OpV P n w0 h0 ⟨ds,.pick c x y,ty,ps,af,gd⟩ e L h v:=by
 intro a w E S;simp[execOp,E.eval hc,E.eval hx,asBool]
theorem oA{c x y:Ag}{v:A2}(hc:zK e c=some (.bool false))(hy:zK e y=some v):OpV P n w0 h0 ⟨ds,.pick c x y,ty,ps,af,gd⟩ e L h v:=by
 intro a w E S;simp[execOp,E.eval hc,E.eval hy,asBool]
theorem rA{x:Ag}{i:Nat}{vs:List A2}{v:A2}(hx:zK e x=some (.tuple vs.toArray))(hv:vs[i]?=some v):OpV P n w0 h0 ⟨ds,.extract x i,ty,ps,af,gd⟩ e L h v:=by
 intro a w E S;simp[execOp,E.eval hx,Instr.extract,hv]
theorem Qp{t:Ab}{x:Ag}{p:Prop}(hx:zK e x=some (vB p)):OpV P n w0 h0 ⟨ds,.unOp .not t x,ty,ps,af,gd⟩ e L h (vB (¬p)):=by
 intro a w E S;simp[execOp,E.eval hx,Op.unary,vB]
theorem XD{t:Ab}{x:Ag}{b:Bool}(hx:zK e x=some (.bool b)):OpV P n w0 h0 ⟨ds,.unOp .not t x,ty,ps,af,gd⟩ e L h (.bool !b):=by
 intro a w E S;simp[execOp,E.eval hx,Op.unary]
theorem oB{t:Ab}{x:Ag}{m:Int}(hx:zK e x=some (vI m))(h1:-9223372036854775808<m)(h2:m<=9223372036854775808):OpV P n w0 h0 ⟨ds,.unOp .neg t x,ty,ps,af,gd⟩ e L h (vI (-m)):=by
 intro a w E S;have:=JA (x:=-m) A3 A3;simp[execOp,E.eval hx,Op.unary,Op.intArith,vI,this]
theorem wB(op:BinOp)(t:Ab)(x y:Ag)(k k':B2)(m m':Int)(w:AP):(eqGuard op t x y (.int k m) (.int k' m')).run P w=.ok () w:=by
 cases op<;>simp[eqGuard]
theorem yF{t yt:Ab}{x y:Ag}{p q:Int}(hx:zK e x=some (vI p))(hy:zK e y=some (vI q))(h1:-9223372036854775808<=p+q)(h2:p+q<9223372036854775808):
 OpV P n w0 h0 ⟨ds,.binOp .add t x y yt,ty,ps,af,gd⟩ e L h (vI (p+q)):=by
 intro a w E S;simp[execOp,E.eval hx,E.eval hy,vI,wB,binOp,Op.intArith,JA h1 h2]
theorem jA{t yt:Ab}{x y:Ag}{p q:Int}(hx:zK e x=some (vI p))(hy:zK e y=some (vI q))(h1:-9223372036854775808<=p-q)(h2:p-q<9223372036854775808):
 OpV P n w0 h0 ⟨ds,.binOp .sub t x y yt,ty,ps,af,gd⟩ e L h (vI (p-q)):=by
 intro a w E S;simp[execOp,E.eval hx,E.eval hy,vI,wB,binOp,Op.intArith,JA h1 h2]
theorem gM{t yt:Ab}{x y:Ag}{p q:Int}(hx:zK e x=some (vI p))(hy:zK e y=some (vI q))(h1:-9223372036854775808<=p*q)(h2:p*q<9223372036854775808):
 OpV P n w0 h0 ⟨ds,.binOp .mul t x y yt,ty,ps,af,gd⟩ e L h (vI (p*q)):=by
 intro a w E S;simp[execOp,E.eval hx,E.eval hy,vI,wB,binOp,Op.intArith,JA h1 h2]
theorem RJ{t yt:Ab}{x y:Ag}{p q:Int}(hx:zK e x=some (vI p))(hy:zK e y=some (vI q))(h1:0<=p)(h2:p<9223372036854775808)(h3:0<q):
 OpV P n w0 h0 ⟨ds,.binOp .quo t x y yt,ty,ps,af,gd⟩ e L h (vI (p/q)):=by
 intro a w E S;have D:p.tdiv q=p/q:=Int.tdiv_eq_ediv_of_nonneg h1;have J:0<=p/q:=Int.ediv_nonneg h1 A3;have H:p/q<=p:=Int.ediv_le_self q h1;have C:q≠0:=by omega
 simp[execOp,E.eval hx,E.eval hy,vI,wB,binOp,Op.intDiv,C,D,JA (x:=p/q) A3 A3]
theorem wI{t yt:Ab}{x y:Ag}{p q:Int}(hx:zK e x=some (vI p))(hy:zK e y=some (vI q))(h1:0<=p)(h3:0<q):
 OpV P n w0 h0 ⟨ds,.binOp .rem t x y yt,ty,ps,af,gd⟩ e L h (vI (p%q)):=by
 intro a w E S;have D:p.tmod q=p%q:=Int.tmod_eq_emod_of_nonneg h1;have C:q≠0:=by omega
 simp[execOp,E.eval hx,E.eval hy,vI,wB,binOp,Op.intDiv,C,D]
theorem yW{t yt:Ab}{x y:Ag}{p q:Int}(hx:zK e x=some (vI p))(hy:zK e y=some (vI q)):OpV P n w0 h0 ⟨ds,.binOp .lss t x y yt,ty,ps,af,gd⟩ e L h (vB (p<q)):=by
 intro a w E S;simp[execOp,E.eval hx,E.eval hy,vI,wB,binOp,Op.intCmp,vB]
theorem PC{t yt:Ab}{x y:Ag}{p q:Int}(hx:zK e x=some (vI p))(hy:zK e y=some (vI q)):OpV P n w0 h0 ⟨ds,.binOp .leq t x y yt,ty,ps,af,gd⟩ e L h (vB (p<=q)):=by
 intro a w E S;simp[execOp,E.eval hx,E.eval hy,vI,wB,binOp,Op.intCmp,vB]
theorem Mb{t yt:Ab}{x y:Ag}{p q:Int}(hx:zK e x=some (vI p))(hy:zK e y=some (vI q)):OpV P n w0 h0 ⟨ds,.binOp .gtr t x y yt,ty,ps,af,gd⟩ e L h (vB (q<p)):=by
 intro a w E S;simp[execOp,E.eval hx,E.eval hy,vI,wB,binOp,Op.intCmp,vB]
theorem aD{t yt:Ab}{x y:Ag}{p q:Int}(hx:zK e x=some (vI p))(hy:zK e y=some (vI q)):OpV P n w0 h0 ⟨ds,.binOp .geq t x y yt,ty,ps,af,gd⟩ e L h (vB (q<=p)):=by
 intro a w E S;simp[execOp,E.eval hx,E.eval hy,vI,wB,binOp,Op.intCmp,vB]
theorem nD{t yt:Ab}{x y:Ag}{p q:Int}(hx:zK e x=some (vI p))(hy:zK e y=some (vI q)):OpV P n w0 h0 ⟨ds,.binOp .eql t x y yt,ty,ps,af,gd⟩ e L h (vB (p=q)):=by
 intro a w E S;simp[execOp,E.eval hx,E.eval hy,vI,wB,binOp,Op.intCmp,vB,BEq.beq]
theorem dS{t yt:Ab}{x y:Ag}{p q:Int}(hx:zK e x=some (vI p))(hy:zK e y=some (vI q)):OpV P n w0 h0 ⟨ds,.binOp .neq t x y yt,ty,ps,af,gd⟩ e L h (vB (p≠q)):=by
 intro a w E S;have:(p != q)=!decide (p=q):=I;simp[execOp,E.eval hx,E.eval hy,vI,wB,binOp,Op.intCmp,vB,this]
theorem tZ{k:B2}{W:Nat}{t yt:Ab}{x y:Ag}{p q:Nat}(hk:k.signed=false)(hW:ub k=W)(hx:zK e x=some (vU k p))(hy:zK e y=some (vU k q))(hlt:p+q<W):
 OpV P n w0 h0 ⟨ds,.binOp .add t x y yt,ty,ps,af,gd⟩ e L h (vU k (p+q)):=by
 intro a w E S;have:=oV hk (x:=p+q) A3;simp only[Int.natCast_add] at this;simp[execOp,E.eval hx,E.eval hy,vU,wB,binOp,Op.intArith,this]
theorem si{k:B2}{W:Nat}{t yt:Ab}{x y:Ag}{p q:Nat}(hk:k.signed=false)(hW:ub k=W)(hx:zK e x=some (vU k p))(hy:zK e y=some (vU k q)):
 OpV P n w0 h0 ⟨ds,.binOp .add t x y yt,ty,ps,af,gd⟩ e L h (vU k ((p+q)%W)):=by
 intro a w E S;have:=KO hk (p+q);rw[hW] at this;simp only[Int.natCast_add] at this;simp[execOp,E.eval hx,E.eval hy,vU,wB,binOp,Op.intArith,this]
theorem lZ{k:B2}{W:Nat}{t yt:Ab}{x y:Ag}{p q:Nat}(hk:k.signed=false)(hW:ub k=W)(hx:zK e x=some (vU k p))(hy:zK e y=some (vU k q))(hle:q<=p)(hlt:p<W):
 OpV P n w0 h0 ⟨ds,.binOp .sub t x y yt,ty,ps,af,gd⟩ e L h (vU k (p-q)):=by
 intro a w E S;have:=oV hk (x:=p-q) A3;rw[Int.ofNat_sub hle] at this;simp[execOp,E.eval hx,E.eval hy,vU,wB,binOp,Op.intArith,this,Int.ofNat_sub hle]
theorem mZ{k:B2}{W:Nat}{t yt:Ab}{x y:Ag}{p q:Nat}(hk:k.signed=false)(hW:ub k=W)(hx:zK e x=some (vU k p))(hy:zK e y=some (vU k q))(hlt:q<=W):
 OpV P n w0 h0 ⟨ds,.binOp .sub t x y yt,ty,ps,af,gd⟩ e L h (vU k ((p+W-q)%W)):=by
 intro a w E S;have h1:=UR hk ((p:Int)-q);rw[hW] at h1;have h2:((p:Int)-q)%(W:Int)=(((p+W-q)%W:Nat):Int):=by
  have C:((p+W-q:Nat):Int)=(p:Int)-q+W:=by omega
  rw[Int.natCast_emod,C,Int.add_emod_right]
 simp[execOp,E.eval hx,E.eval hy,vU,wB,binOp,Op.intArith,h1,h2]
theorem dT{k:B2}{W:Nat}{t yt:Ab}{x y:Ag}{p q:Nat}(hk:k.signed=false)(hW:ub k=W)(hx:zK e x=some (vU k p))(hy:zK e y=some (vU k q))(hlt:p*q<W):
 OpV P n w0 h0 ⟨ds,.binOp .mul t x y yt,ty,ps,af,gd⟩ e L h (vU k (p*q)):=by
 intro a w E S;have:=oV hk (x:=p*q) A3;simp only[Fa] at this;simp[execOp,E.eval hx,E.eval hy,vU,wB,binOp,Op.intArith,this]
theorem cV{k:B2}{W:Nat}{t yt:Ab}{x y:Ag}{p q:Nat}(hk:k.signed=false)(hW:ub k=W)(hx:zK e x=some (vU k p))(hy:zK e y=some (vU k q))(hlt:p<W)(h0':0<q):
 OpV P n w0 h0 ⟨ds,.binOp .quo t x y yt,ty,ps,af,gd⟩ e L h (vU k (p/q)):=by
 intro a w E S;have h1:p/q<=p:=E1 _ _;have:=oV hk (x:=p/q) A3;have h2:((p:Int)).tdiv q=(p:Int)/(q:Int):=Int.tdiv_eq_ediv_of_nonneg A3;have h3:q≠0:=by omega
 have C:k.wrap ((p:Int)/(q:Int))=(p:Int)/(q:Int):=this;simp only[execOp,E.eval hx,E.eval hy,vU,binOp];simp[wB,Op.intDiv,h3,h2,C]
theorem cT{k:B2}{t yt:Ab}{x y:Ag}{p q:Nat}(hx:zK e x=some (vU k p))(hy:zK e y=some (vU k q))(h0':0<q):
 OpV P n w0 h0 ⟨ds,.binOp .rem t x y yt,ty,ps,af,gd⟩ e L h (vU k (p%q)):=by
 intro a w E S;have h2:((p:Int)).tmod q=(p:Int)%(q:Int):=Int.tmod_eq_emod_of_nonneg A3;have h3:q≠0:=by omega
 simp only[execOp,E.eval hx,E.eval hy,vU,binOp];simp[wB,Op.intDiv,h3,h2]
theorem TM{k:B2}{t yt:Ab}{x y:Ag}{p q:Nat}(hx:zK e x=some (vU k p))(hy:zK e y=some (vU k q)):OpV P n w0 h0 ⟨ds,.binOp .lss t x y yt,ty,ps,af,gd⟩ e L h (vB (p<q)):=by
 intro a w E S;simp[execOp,E.eval hx,E.eval hy,vU,wB,binOp,Op.intCmp,vB]
theorem nC{k:B2}{t yt:Ab}{x y:Ag}{p q:Nat}(hx:zK e x=some (vU k p))(hy:zK e y=some (vU k q)):OpV P n w0 h0 ⟨ds,.binOp .gtr t x y yt,ty,ps,af,gd⟩ e L h (vB (q<p)):=by
 intro a w E S;simp[execOp,E.eval hx,E.eval hy,vU,wB,binOp,Op.intCmp,vB]
theorem cW{k:B2}{t yt:Ab}{x y:Ag}{p q:Nat}(hx:zK e x=some (vU k p))(hy:zK e y=some (vU k q)):OpV P n w0 h0 ⟨ds,.binOp .geq t x y yt,ty,ps,af,gd⟩ e L h (vB (q<=p)):=by
 intro a w E S;simp[execOp,E.eval hx,E.eval hy,vU,wB,binOp,Op.intCmp,vB]
theorem fS{k:B2}{t yt:Ab}{x y:Ag}{p q:Nat}(hx:zK e x=some (vU k p))(hy:zK e y=some (vU k q)):OpV P n w0 h0 ⟨ds,.binOp .eql t x y yt,ty,ps,af,gd⟩ e L h (vB (p=q)):=by
 intro a w E S;have h1:((p:Int)==(q:Int))=decide (p=q):=by rw[He];simp;omega
 simp only[execOp,E.eval hx,E.eval hy,vU,binOp];simp only[Op.intCmp,vB,h1];simp[wB]
theorem tX{k:B2}{t yt:Ab}{x y:Ag}{p q:Nat}(hx:zK e x=some (vU k p))(hy:zK e y=some (vU k q)):OpV P n w0 h0 ⟨ds,.binOp .neq t x y yt,ty,ps,af,gd⟩ e L h (vB (p≠q)):=by
 intro a w E S;have h1:((p:Int) != (q:Int))=decide (p≠q):=by rw[He];simp;omega
 simp only[execOp,E.eval hx,E.eval hy,vU,binOp];simp only[Op.intCmp,vB,h1];simp[wB]
theorem rK(k:B2)(hk:k.signed=false):2^k.bits=ub k:=by cases k<;>simp[B2.signed] at hk<;>rfl
theorem fQ{k yk:B2}{t yt:Ab}{x y:Ag}{p s:Nat}(hk:k.signed=false)(hx:zK e x=some (vU k p))(hy:zK e y=some (.int yk (s:Int)))(hp:p<ub k):
 OpV P n w0 h0 ⟨ds,.binOp .shr t x y yt,ty,ps,af,gd⟩ e L h (vU k (p/2^s)):=by
 intro a w E S;have h1:¬((s:Int)<0):=by omega
 have h2:((p:Int)).fdiv (2^min s k.bits)=((p/2^s:Nat):Int):=by
  rw[Int.fdiv_eq_ediv_of_nonneg _ (Int.le_of_lt (Int.pow_pos A3))]
  rcases Nat.le_total s k.bits with hle|hle
  · rw[Dy hle];rfl
  · rw[Nat.min_eq_right hle]
    have D:p/2^s=0:=Fu (DO hp (by rw[<-rK k hk];exact D0 A3 hle));have C:p/2^k.bits=0:=Fu (by rw[rK k hk];exact hp);rw[D];have:((p:Int)/(2^k.bits:Int))=((p/2^k.bits:Nat):Int):=I;rw[this,C]
 simp only[execOp,E.eval hx,E.eval hy,vU,binOp];simp[wB,Op.shift,h1,h2]
theorem fR{k yk:B2}{W:Nat}{t yt:Ab}{x y:Ag}{p s:Nat}(hk:k.signed=false)(hW:ub k=W)(hx:zK e x=some (vU k p))(hy:zK e y=some (.int yk (s:Int))):
 OpV P n w0 h0 ⟨ds,.binOp .shl t x y yt,ty,ps,af,gd⟩ e L h (vU k (p*2^s%W)):=by
 intro a w E S;have h1:¬((s:Int)<0):=by omega
 have h2:k.wrap ((p:Int)*2^min s k.bits)=((p*2^s%W:Nat):Int):=by
  rcases Nat.le_total s k.bits with hle|hle
  · rw[Dy hle,<-hW,<-KO hk];simp
  · rw[Nat.min_eq_right hle]
    have D:p*2^s%W=0:=by
     rw[<-hW,<-rK k hk];exact Nat.mod_eq_zero_of_dvd (Nat.dvd_trans (Nat.pow_dvd_pow 2 hle) (Nat.dvd_mul_left _ _))
    have C:((p*2^k.bits%ub k:Nat):Int)=0:=by rw[rK k hk];simp
    have:=KO hk (p*2^k.bits);rw[C] at this;rw[D]
    simpa using this
 simp only[execOp,E.eval hx,E.eval hy,vU,binOp];simp[wB,Op.shift,h1,h2]
theorem pR{k:B2}{t yt:Ab}{x y:Ag}{p q:Nat}(hk:k.signed=false)(hx:zK e x=some (vU k p))(hy:zK e y=some (vU k q))(hp:p<ub k)(hq:q<ub k):
 OpV P n w0 h0 ⟨ds,.binOp .or t x y yt,ty,ps,af,gd⟩ e L h (vU k (p |||q)):=by
 intro a w E S;have J:=rK k hk;have h3:p |||q<2^k.bits:=Nat.or_lt_two_pow A3 A3;have H:=oV hk (x:=p |||q) A3;have D:=CG (a:=p) (b:=2^k.bits) A3;have C:=CG (a:=q) (b:=2^k.bits) A3;simp only[execOp,E.eval hx,E.eval hy,vU,binOp];simp[wB,Op.intBits,H,D,C]
theorem g2{k:B2}{t yt:Ab}{x y:Ag}{p q:Nat}(hk:k.signed=false)(hx:zK e x=some (vU k p))(hy:zK e y=some (vU k q))(hp:p<ub k)(hq:q<ub k):
 OpV P n w0 h0 ⟨ds,.binOp .and t x y yt,ty,ps,af,gd⟩ e L h (vU k (p&&&q)):=by
 intro a w E S;have J:=rK k hk;have h3:p&&&q<=p:=Nat.and_le_left;have H:=oV hk (x:=p&&&q) A3;have D:=CG (a:=p) (b:=2^k.bits) A3;have C:=CG (a:=q) (b:=2^k.bits) A3;simp only[execOp,E.eval hx,E.eval hy,vU,binOp];simp[wB,Op.intBits,H,D,C]
theorem dP{t:Ab}(hu:P.underlying t=some .bool)(x y:Bool)(w:AP):(Op.equal t (.bool x) (.bool y)).run P w=.ok (x==y) w:=by
 have h1:Op.equal t (.bool x) (.bool y)=Op.equalIn (9999+1) t (.bool x) (.bool y):=I;rw[h1,Op.equalIn];simp[run_underlying hu]
theorem nE{t yt:Ab}{x y:Ag}{p q:Prop}(hu:P.underlying t=some .bool)(hx:zK e x=some (vB p))(hy:zK e y=some (vB q)):
 OpV P n w0 h0 ⟨ds,.binOp .eql t x y yt,ty,ps,af,gd⟩ e L h (vB (p↔q)):=by
 intro a w E S;simp only[execOp,E.eval hx,E.eval hy,vB,binOp];simp[eqGuard,dP hu]
 by_cases hp:p<;>by_cases hq:q<;>simp[hp,hq]
theorem tY{t yt:Ab}{x y:Ag}{p q:Prop}(hu:P.underlying t=some .bool)(hx:zK e x=some (vB p))(hy:zK e y=some (vB q)):
 OpV P n w0 h0 ⟨ds,.binOp .neq t x y yt,ty,ps,af,gd⟩ e L h (vB (¬(p↔q))):=by
 intro a w E S;simp only[execOp,E.eval hx,E.eval hy,vB,binOp];simp[eqGuard,dP hu]
 by_cases hp:p<;>by_cases hq:q<;>simp[hp,hq]
theorem tI{k k':B2}{W:Nat}{s t:Ab}{d:TypeDesc}{x:Ag}{p:Nat}(hs:P.underlying s=some d)(ht:P.underlying t=some (.int k'))(hk:k'.signed=false)(hW:ub k'=W)(hx:zK e x=some (vU k p)):
 OpV P n w0 h0 ⟨ds,.convert s t x,ty,ps,af,gd⟩ e L h (vU k' (p%W)):=by
 intro a w E S;have:=KO hk p;rw[hW] at this;simp[execOp,E.eval hx,vU,convert,run_underlying hs,run_underlying ht,Conv.intToInt,this]
theorem vY{k k':B2}{W:Nat}{s t:Ab}{d:TypeDesc}{x:Ag}{p:Nat}(hs:P.underlying s=some d)(ht:P.underlying t=some (.int k'))(hk:k'.signed=false)(hW:ub k'=W)(hx:zK e x=some (vU k p))(hp:p<W):
 OpV P n w0 h0 ⟨ds,.convert s t x,ty,ps,af,gd⟩ e L h (vU k' p):=by
 have:=tI (n:=n) (w0:=w0) (h0:=h0) (L:=L) (h:=h) (ds:=ds) (ty:=ty) (ps:=ps) (af:=af) (gd:=gd) hs ht hk hW hx
 rwa [CG hp] at this
theorem RW{k':B2}{W:Nat}{s t:Ab}{d:TypeDesc}{x:Ag}{p:Nat}(hs:P.underlying s=some d)(ht:P.underlying t=some (.int k'))(hk:k'.signed=false)(hW:ub k'=W)(hx:zK e x=some (vI (p:Int)))(hp:p<W):
 OpV P n w0 h0 ⟨ds,.convert s t x,ty,ps,af,gd⟩ e L h (vU k' p):=by
 intro a w E S;have:=oV hk (x:=p) A3;simp[execOp,E.eval hx,vI,vU,convert,run_underlying hs,run_underlying ht,Conv.intToInt,this]
theorem VQ{k:B2}{s t:Ab}{d:TypeDesc}{x:Ag}{p:Nat}(hs:P.underlying s=some d)(ht:P.underlying t=some (.int .i64))(hx:zK e x=some (vU k p))(hp:p<9223372036854775808):
 OpV P n w0 h0 ⟨ds,.convert s t x,ty,ps,af,gd⟩ e L h (vI (p:Int)):=by
 intro a w E S;have:=JA (x:=(p:Int)) A3 A3;simp[execOp,E.eval hx,vI,vU,convert,run_underlying hs,run_underlying ht,Conv.intToInt,this]
def Sl(h:A4)(k:Nat)(v:A2)(m:Nat)(cs:List A2):Prop:=
 ∃a cap,v=.slice a m cap/\m<=cap/\cap<=maxLen/\A1 cs=m*k/\∀i,i<A1 cs->∃b o,a=some ⟨b,o,none⟩/\cell h b (o+i)=cs[i]?
theorem Sl.mono{h h':A4}{k:Nat}{v:A2}{m:Nat}{cs:List A2}(s:Sl h k v m cs)(hh:MLe h h'):Sl h' k v m cs:=by
 obtain⟨a,C,H,h1,h2,h3,M⟩:=s;refine⟨a,C,H,h1,h2,h3,λi hi=>?_⟩;obtain⟨b,o,J,D⟩:=M i hi;refine⟨b,o,J,?_⟩;rw[BV hi] at D ⊢;exact TC hh D
theorem Sl.nil(h:A4)(k:Nat):Sl h k (.slice none 0 0) 0 []:=⟨none,0,rfl,B1 _,by unfold maxLen;omega,B9,λi hi=>by simp at hi⟩
theorem Sl.one{h:A4}{k:Nat}{v:A2}{m:Nat}{cs:List A2}(s:Sl h k v m cs):∃a cap,v=.slice a m cap:=let ⟨a,cap,hv,_⟩:=s;⟨a,cap,hv⟩
theorem Sl.lt63{h:A4}{k:Nat}{v:A2}{m:Nat}{cs:List A2}(s:Sl h k v m cs):m<9223372036854775808:=by
 obtain⟨a,C,D,h1,h2,_⟩:=s;unfold maxLen at h2;omega
def zH(k:Nat)(v:A2)(i:Nat):A2:=
 match v with
 | .slice (some a) _ _=>.pointer (some (a.add (i*k)))
 |_=>undef
theorem kD(b o j:Nat):(⟨b,o,none⟩:Addr).add j=⟨b,o+j,none⟩:=by
 unfold Addr.add
 split
 · simp_all
 · rfl
theorem oC{v:A2}{m:Nat}{t:Ab}{E:Ab}{x:Ag}(ht:P.underlying t=some (.slice E))(hx:zK e x=some v)(hv:∃a cap,v=.slice a m cap):
 OpV P n w0 h0 ⟨ds,.call {callee:=.builtin .len,args:=#[x],argTypes:=#[t]},ty,ps,af,gd⟩ e L h (vI (m:Int)):=by
 obtain⟨a,cap,rfl⟩:=hv;intro a w E S;simp[execOp,resolve,invoke,builtin,Builtin.len_,E.eval hx,run_underlying ht,goInt,vI]
theorem dV{v:A2}{m:Nat}{cs:List A2}{k:Nat}{t E:Ab}{x y:Ag}{q:Int}(i:Nat)(ht:P.underlying t=some (.slice E))(hsz:∀w,(Go.sizeOf E).run P w=.ok k w)(hx:zK e x=some v)(hy:zK e y=some (vI q))
    (hv:Sl h k v m cs)(hq:q=(i:Int))(hi:i<m)(hk:0<k):OpV P n w0 h0 ⟨ds,.indexAddr t x y,ty,ps,af,gd⟩ e L h (zH k v i):=by
 obtain⟨U,M,rfl,h1,h2,h3,J⟩:=hv;subst hq;have C:0<A1 cs:=by rw[h3];exact Nat.mul_pos A3 hk
 obtain⟨b,o,rfl,_⟩:=J 0 C;intro a w D S;have H:(0:Int)<=(i:Int)/\(i:Int)<(m:Int):=by omega
 simp[execOp,D.eval hx,D.eval hy,Instr.indexAt,vI,asIntOf,run_underlying ht,hsz,zH,hi]
theorem Sl.cell{h:A4}{k:Nat}{v:A2}{m:Nat}{cs:List A2}(s:Sl h k v m cs){i j:Nat}{u:A2}(hj:cs[i*k+j]?=some u):∃b o,zH k v i=.pointer (some ⟨b,o,none⟩)/\Bk.cell h b (o+j)=some u:=by
 obtain⟨a,J,rfl,h1,h2,h3,H⟩:=s;obtain⟨C,_⟩:=Hk.1 hj;obtain⟨b,o,rfl,D⟩:=H _ C;refine⟨b,o+i*k,?_,?_⟩
 · simp[zH,kD]
 · rw[hj] at D
   rw[<-D];congr 1;omega
theorem PU{v u:A2}{m:Nat}{cs:List A2}{t:Ab}{x:Ag}{i:Nat}(ha:∀w,(isAgg t).run P w=.ok false w)(hx:zK e x=some (zH 1 v i))(hv:Sl h 1 v m cs)(hi:cs[i]?=some u):
 OpV P n w0 h0 ⟨ds,.load t x,ty,ps,af,gd⟩ e L h u:=by
 obtain⟨b,o,D,H⟩:=hv.cell (i:=i) (j:=0) (u:=u) (by simpa using hi);rw[D] at hx;intro a w E S;have C:=nM S.sub H;simp only[Cq] at C;simp[execOp,E.eval hx,Instr.loadAt,Instr.sureAddr,loadVar,ha,Go.load,Sem.run,C]
def us(k:B2)(xs:List Nat):List A2:=xs.map (vU k)
structure Us(k:B2)(h:A4)(v:A2)(xs:List Nat):Prop where
 sl:Sl h 1 v (A1 xs) (us k xs)
 lt:∀x∈xs,x<ub k
theorem Us.mono{k:B2}{h h':A4}{v:A2}{xs:List Nat}(s:Us k h v xs)(hh:MLe h h'):Us k h' v xs:=⟨s.sl.mono hh,s.lt⟩
theorem Us.nil(k:B2)(h:A4):Us k h (.slice none 0 0) []:=⟨Sl.nil h 1,B9⟩
theorem Us.one{k:B2}{h:A4}{v:A2}{xs:List Nat}(s:Us k h v xs):∃a cap,v=.slice a (A1 xs) cap:=s.sl.one
theorem Us.lt63{k:B2}{h:A4}{v:A2}{xs:List Nat}(s:Us k h v xs):A1 xs<9223372036854775808:=s.sl.lt63
theorem T7{k:B2}{xs:List Nat}{i:Nat}(hi:i<A1 xs):(us k xs)[i]?=some (vU k (A0 xs i 0)):=by
 simp[us,hi]
theorem Us.getLt{k:B2}{h:A4}{v:A2}{xs:List Nat}(s:Us k h v xs)(i:Nat):A0 xs i 0<ub k\/ub k=0:=by
 by_cases hi:i<A1 xs
 · rw[Au,BV hi]
   exact .inl (s.lt _ (Ep hi))
 · rw[Au,F0 A3]
   simp only[Option.getD_none];omega
theorem Us.get32{h:A4}{v:A2}{xs:List Nat}(s:Us .u32 h v xs)(i:Nat):A0 xs i 0<4294967296:=(s.getLt i).resolve_right Aa
theorem uA{k:B2}{v:A2}{xs:List Nat}{t E:Ab}{x:Ag}(ht:P.underlying t=some (.slice E))(hx:zK e x=some v)(hv:Us k h v xs):
 OpV P n w0 h0 ⟨ds,.call {callee:=.builtin .len,args:=#[x],argTypes:=#[t]},ty,ps,af,gd⟩ e L h (vI (A1 xs:Int)):=oC ht hx hv.one
theorem yB{k:B2}{v:A2}{xs:List Nat}{t E:Ab}{x y:Ag}{q:Int}(i:Nat)(ht:P.underlying t=some (.slice E))(hsz:∀w,(Go.sizeOf E).run P w=.ok 1 w)(hx:zK e x=some v)(hy:zK e y=some (vI q))
    (hv:Us k h v xs)(hq:q=(i:Int))(hi:i<A1 xs):OpV P n w0 h0 ⟨ds,.indexAddr t x y,ty,ps,af,gd⟩ e L h (zH 1 v i):=dV i ht hsz hx hy hv.sl hq hi A3
theorem wN{k:B2}{v:A2}{xs:List Nat}{t:Ab}{x:Ag}{i:Nat}(ha:∀w,(isAgg t).run P w=.ok false w)(hx:zK e x=some (zH 1 v i))(hv:Us k h v xs)(hi:i<A1 xs):
 OpV P n w0 h0 ⟨ds,.load t x,ty,ps,af,gd⟩ e L h (vU k (A0 xs i 0)):=PU ha hx hv.sl (T7 hi)
def tA(k:Nat)(v:A2)(lo hi:Nat):A2:=
 match v with
 | .slice a _ cap=>.slice (if cap=lo then a else a.map (·.add (lo*k))) (hi-lo) (cap-lo)
 |_=>undef
theorem Sl.sub{h:A4}{k:Nat}{v:A2}{m:Nat}{cs:List A2}(s:Sl h k v m cs){lo hi:Nat}(h1:lo<=hi)(h2:hi<=m):Sl h k (tA k v lo hi) (hi-lo) ((cs.drop (lo*k)).take ((hi-lo)*k)):=by
 obtain⟨a,H,rfl,h3,h4,J,U⟩:=s;have Z:(hi-lo)*k<=m*k-lo*k:=by rw[<-KY];exact CP _ A3
 refine⟨_,_,I,A3,A3,by rw[By,Cn,J];omega,λi C=>?_⟩;rw[By,Cn,J] at C;have D:lo*k+i<A1 cs:=by omega
 obtain⟨b,o,rfl,M⟩:=U _ D
 by_cases hcl:H=lo
 · exfalso
   have:hi-lo=0:=by omega
   rw[this] at C;omega
 · refine⟨b,o+lo*k,by simp[hcl,kD],?_⟩
   rw[Dj,AC A3,F5,<-M]
   congr 1
   omega
theorem Us.sub{k:B2}{h:A4}{v:A2}{xs:List Nat}(s:Us k h v xs){lo hi:Nat}(h1:lo<=hi)(h2:hi<=A1 xs):Us k h (tA 1 v lo hi) ((xs.drop lo).take (hi-lo)):=by
 have:=s.sl.sub h1 h2;simp only[F9] at this;refine⟨?_,λx hx=>s.lt x (IJ (HH hx))⟩;have C:A1 ((xs.drop lo).take (hi-lo))=hi-lo:=by rw[By,Cn];omega
 rw[C]
 simpa[us] using this
theorem u8{k:Nat}{t E:Ab}(w:AP)(ht:P.underlying t=some (.slice E))(hsz:∀w,(Go.sizeOf E).run P w=.ok k w)(a:Option Addr)(m cap hi:Nat)(h2:hi<=cap):
 (Instr.sliceAt t (.slice a m cap) none (some (vI hi)) none).run P w=.ok (tA k (.slice a m cap) 0 hi) w:=by
 simp[Instr.sliceAt,Instr.slice,run_underlying ht,Instr.sliceBounds,Instr.sliceBound,asIntOf,vI,hsz,tA,h2]
theorem rv{k:Nat}{t E:Ab}(w:AP)(ht:P.underlying t=some (.slice E))(hsz:∀w,(Go.sizeOf E).run P w=.ok k w)(a:Option Addr)(m cap lo:Nat)(h1:lo<=m):
 (Instr.sliceAt t (.slice a m cap) (some (vI lo)) none none).run P w=.ok (tA k (.slice a m cap) lo m) w:=by
 simp[Instr.sliceAt,Instr.slice,run_underlying ht,Instr.sliceBounds,Instr.sliceBound,asIntOf,vI,hsz,tA,h1]
theorem T9{v:A2}{m k:Nat}{t E:Ab}{x hi:Ag}{q:Int}(j:Nat)(ht:P.underlying t=some (.slice E))(hsz:∀w,(Go.sizeOf E).run P w=.ok k w)(hx:zK e x=some v)(hh:zK e hi=some (vI q))
    (hv:∃a cap,v=.slice a m cap/\m<=cap)(hq:q=(j:Int))(h2:j<=m):OpV P n w0 h0 ⟨ds,.slice t x none (some hi) none,ty,ps,af,gd⟩ e L h (tA k v 0 j):=by
 obtain⟨a,cap,rfl,D⟩:=hv;subst hq;intro H w C S;have:=u8 (P:=P) w ht hsz a m cap j A3;simp[execOp,C.eval hx,C.eval hh,this]
theorem jU{v:A2}{m k:Nat}{t E:Ab}{x lo:Ag}{p:Int}(i:Nat)(ht:P.underlying t=some (.slice E))(hsz:∀w,(Go.sizeOf E).run P w=.ok k w)(hx:zK e x=some v)(hl:zK e lo=some (vI p))
    (hv:∃a cap,v=.slice a m cap/\m<=cap)(hp:p=(i:Int))(h1:i<=m):OpV P n w0 h0 ⟨ds,.slice t x (some lo) none none,ty,ps,af,gd⟩ e L h (tA k v i m):=by
 obtain⟨a,cap,rfl,D⟩:=hv;subst hp;intro H w C S;have:=rv (P:=P) w ht hsz a m cap i h1;simp[execOp,C.eval hx,C.eval hl,this]
theorem Sl.shape{h:A4}{k:Nat}{v:A2}{m:Nat}{cs:List A2}(s:Sl h k v m cs):∃a cap,v=.slice a m cap/\m<=cap:=let ⟨a,cap,hv,h1,_⟩:=s;⟨a,cap,hv,h1⟩
theorem Us.shape{k:B2}{h:A4}{v:A2}{xs:List Nat}(s:Us k h v xs):∃a cap,v=.slice a (A1 xs) cap/\A1 xs<=cap:=s.sl.shape
theorem eM{v:A2}{t E yt:Ab}{x:Ag}(ht:P.underlying t=some (.slice E))(hx:zK e x=some v)(hv:∃a m cap,v=.slice a m cap):
 OpV P n w0 h0 ⟨ds,.binOp .eql t x (.const (.slice none 0 0)) yt,ty,ps,af,gd⟩ e L h (vB (∃m cap,v=.slice none m cap)):=by
 obtain⟨a,m,cap,rfl⟩:=hv;intro D w C S;have h1:=Lib.run_eql_slice_nil (P:=P) w t E a m cap 0 0 ht;have h2:(vB (∃m' cap',A2.slice a m cap=.slice none m' cap'))=.bool a.isNone:=by
  cases a<;>simp[vB]
 simp only[execOp,C.eval hx,h2];have h3:(eqGuard .eql t x (.const (.slice none 0 0)) (.slice a m cap) (.slice none 0 0)).run P w=.ok () w:=by simp[eqGuard]
 simp[h3,Av.eval,h1]
theorem hV{s r:ByteArray}{t yt:Ab}{x y:Ag}(hx:zK e x=some (.string s))(hy:zK e y=some (.string r)):OpV P n w0 h0 ⟨ds,.binOp .eql t x y yt,ty,ps,af,gd⟩ e L h (vB (s=r)):=by
 intro a w C S;have h1:(s.toList==r.toList)=@decide (s=r) (Classical.propDecidable _):=by
  rw[He];simp only[beq_iff_eq,CH];exact⟨λhh=>by
   have h2:s.data.toList=r.data.toList:=by
    rwa [ByteArray.toList_eq,ByteArray.toList_eq] at hh
   cases s;cases r
   simp only[ByteArray.mk.injEq];exact Array.toList_inj.1 h2,λhh=>by rw[hh]⟩
 simp only[execOp,C.eval hx,C.eval hy,binOp,vB];simp[eqGuard,Op.stringOp,h1]
end ops
section own
variable {P:D}{n:Nat}{w0:AP}{h0:A4}{e:List (Nat×A2)}{L:List AG}{h:A4}{Q:BH->Av->AP->Prop}
def AG.us(E:Nat)(k:B2)(v:A2)(xs:List Nat):AG:=.gs E 1 v (A1 xs) (Bk.us k xs)
theorem db{ops:Array AY}{l:List AY}{A B:List AG}{E k m:Nat}{v:A2}{cs:List A2}(k':∀h',MLe h h'->Sl h' k v m cs->GL P n w0 h0 ops Q l e (A++B) h'):GL P n w0 h0 ops Q l e (A++.gs E k v m cs::B) h:=by
 intro a w U S;have C:=S.ok (.gs E k v m cs) B9;have J:=C;obtain⟨M,Z⟩:=C
 rcases Z with⟨rfl,rfl⟩|⟨g,cap,cur,rfl,hb,hg,hn,hm,hcs,ht⟩
 · have D:cs=[]:=DG (by simpa using M)
   subst D;exact k' h (MLe.refl h) (Sl.nil h k) a w U S.drop
 · obtain⟨S',H⟩:=S.freeze (b:=g) (o:=.cells cur E (0,0)) I hg
   refine k' _ H ?_ a w U S';refine⟨_,cap,I,hn,hm,M,λi hi=>⟨g,0,I,?_⟩⟩;unfold cell;simp only[if_true,E6];rw[<-ht,Dj,AC A3];simp
theorem WV{ops:Array AY}{l:List AY}{A B:List AG}{E:Nat}{k:B2}{v:A2}{xs:List Nat}(hlt:∀x∈xs,x<ub k)(k':∀h',MLe h h'->Us k h' v xs->GL P n w0 h0 ops Q l e (A++B) h'):
 GL P n w0 h0 ops Q l e (A++.us E k v xs::B) h:=db λh' hh hs=>k' h' hh ⟨hs,hlt⟩
theorem Nm{A B:List AG}{E k m:Nat}{v:A2}{cs:List A2}{w:AP}(S:St w0 h0 (A++.gs E k v m cs::B) h w):Sl (BE w) k v m cs:=by
 have D:=S.ok (.gs E k v m cs) B9;obtain⟨H,J⟩:=D
 rcases J with⟨rfl,rfl⟩|⟨g,cap,cur,rfl,hb,hg,hn,hm,hcs,ht⟩
 · have C:cs=[]:=DG (by simpa using H)
   subst C;exact Sl.nil _ k
 · refine⟨_,cap,I,hn,hm,H,λi hi=>⟨g,0,I,?_⟩⟩
   unfold cell BE;rw[hg];simp only[E6];rw[<-ht,Dj,AC A3];simp
section vals
variable {A B:List AG}{E:Nat}{ds:Option Tmp}{ty:Ab}{ps:String}{af:Array Edge}{gd:Option (Nat×Bool)}
theorem sB{k m:Nat}{cs:List A2}{v:A2}{t E':Ab}{x:Ag}(ht:P.underlying t=some (.slice E'))(hx:zK e x=some v):
 OpV P n w0 h0 ⟨ds,.call {callee:=.builtin .len,args:=#[x],argTypes:=#[t]},ty,ps,af,gd⟩ e (A++.gs E k v m cs::B) h (vI (m:Int)):=
 λa w Ev S=>oC (L:=A++.gs E k v m cs::B) (h:=h) ht hx (Nm S).one a w Ev S
theorem jz{k m:Nat}{cs:List A2}{v:A2}{t E':Ab}{x y:Ag}{q:Int}(i:Nat)(ht:P.underlying t=some (.slice E'))(hsz:∀w,(Go.sizeOf E').run P w=.ok k w)(hx:zK e x=some v)(hy:zK e y=some (vI q))
    (hq:q=(i:Int))(hi:i<m)(hk:0<k):OpV P n w0 h0 ⟨ds,.indexAddr t x y,ty,ps,af,gd⟩ e (A++.gs E k v m cs::B) h (zH k v i):=by
 intro a w D S;have C:St w (BE w) [] (BE w) w:=St.begin (MLe.refl _);exact dV (n:=n) (w0:=w) (h0:=BE w) (L:=[]) (h:=BE w) i ht hsz hx hy (Nm S) hq hi hk a w D C
theorem ln{m:Nat}{cs:List A2}{v u:A2}{t:Ab}{x:Ag}{i:Nat}(ha:∀w,(isAgg t).run P w=.ok false w)(hx:zK e x=some (zH 1 v i))(hi:cs[i]?=some u):
 OpV P n w0 h0 ⟨ds,.load t x,ty,ps,af,gd⟩ e (A++.gs E 1 v m cs::B) h u:=by
 intro a w D S;have C:St w (BE w) [] (BE w) w:=St.begin (MLe.refl _);exact PU (n:=n) (w0:=w) (h0:=BE w) (L:=[]) (h:=BE w) ha hx (Nm S) hi a w D C
theorem xM{k:B2}{xs:List Nat}{v:A2}{t E':Ab}{x y:Ag}{q:Int}(i:Nat)(ht:P.underlying t=some (.slice E'))(hsz:∀w,(Go.sizeOf E').run P w=.ok 1 w)(hx:zK e x=some v)(hy:zK e y=some (vI q))
    (hq:q=(i:Int))(hi:i<A1 xs):OpV P n w0 h0 ⟨ds,.indexAddr t x y,ty,ps,af,gd⟩ e (A++.us E k v xs::B) h (zH 1 v i):=jz i ht hsz hx hy hq hi A3
theorem tB{k:B2}{xs:List Nat}{v:A2}{t:Ab}{x:Ag}{i:Nat}(ha:∀w,(isAgg t).run P w=.ok false w)(hx:zK e x=some (zH 1 v i))(hi:i<A1 xs):
 OpV P n w0 h0 ⟨ds,.load t x,ty,ps,af,gd⟩ e (A++.us E k v xs::B) h (vU k (A0 xs i 0)):=ln ha hx (T7 hi)
theorem sZ{k:B2}{xs:List Nat}{v:A2}{t E':Ab}{x:Ag}(ht:P.underlying t=some (.slice E'))(hx:zK e x=some v):
 OpV P n w0 h0 ⟨ds,.call {callee:=.builtin .len,args:=#[x],argTypes:=#[t]},ty,ps,af,gd⟩ e (A++.us E k v xs::B) h (vI (A1 xs:Int)):=sB ht hx
end vals
theorem hr{k:B2}{xs:List Nat}{i y:Nat}:(Bk.us k xs).set i (vU k y)=Bk.us k (xs.set i y):=by simp[Bk.us,List.map_set]
theorem hh{A B:List AG}{E m:Nat}{v u:A2}{cs:List A2}{t:Ab}{x y:Ag}{i:Nat}{ds:Option Tmp}{ty:Ab}{ps:String}{af:Array Edge}{gd:Option (Nat×Bool)}(hsz:∀w,(Go.sizeOf t).run P w=.ok 1 w)
    (hx:zK e x=some (zH 1 v i))(hy:zK e y=some u)(hu:u.oneCell'=true)(hi:i<A1 cs):EH P n w0 h0 ⟨ds,.store t x y,ty,ps,af,gd⟩ e A (.gs E 1 v m cs) B h (.gs E 1 v m (cs.set i u)):=by
 intro a w Z S;have D:=S.ok (.gs E 1 v m cs) B9;have C:=D;obtain⟨M,hr⟩:=D
 rcases hr with⟨rfl,rfl⟩|⟨g,cap,cur,rfl,hb,hg,hn,hm,hcs,ht⟩
 · simp at M;subst M;simp at hi
 · have hp:zH 1 (.slice (some ⟨g,0,none⟩) m cap) i=.pointer (some ⟨g,i,none⟩):=by simp[zH,kD]
   rw[hp] at hx;obtain⟨h1,h2⟩:=AP.ownsRow.stored C i u;refine⟨_,?_,h2,h1⟩;have J:i<m*1:=by omega
   have U:=AP.ownsRow.cellAt C i J;rw[BV hi] at U;have hf:=AP.ownsRow.frozenAt C i;have H:u.cells=#[u]:=by cases u<;>simp[A2.oneCell'] at hu<;>rfl
   cases u<;>simp[A2.oneCell'] at hu<;>
    simp[execOp,Z.eval hx,Z.eval hy,Instr.storeAt,Instr.sureAddr,storeVar,hsz,A2.cells,storeCells,Go.store,Sem.run,U,hf,Addr.add]
theorem uo{E:Nat}{k:B2}{v:A2}{xs:List Nat}{i z:Nat}:AG.gs E 1 v (A1 xs) ((Bk.us k xs).set i (vU k z))=AG.us E k v (xs.set i z):=by
 rw[hr];simp[AG.us]
theorem bT{A B:List AG}{E:Nat}{k:B2}{v:A2}{xs:List Nat}{t:Ab}{x y:Ag}{i z:Nat}{ds:Option Tmp}{ty:Ab}{ps:String}{af:Array Edge}{gd:Option (Nat×Bool)}(hsz:∀w,(Go.sizeOf t).run P w=.ok 1 w)
    (hx:zK e x=some (zH 1 v i))(hy:zK e y=some (vU k z))(hi:i<A1 xs):EH P n w0 h0 ⟨ds,.store t x y,ty,ps,af,gd⟩ e A (.us E k v xs) B h (.us E k v (xs.set i z)):=by
 have:=hh (P:=P) (n:=n) (w0:=w0) (h0:=h0) (A:=A) (B:=B) (h:=h) (E:=E) (m:=A1 xs) (cs:=Bk.us k xs) (ds:=ds) (ty:=ty) (ps:=ps) (af:=af) (gd:=gd) hsz hx hy I (by simpa[Bk.us] using hi);rw[uo] at this;exact this
theorem ZA{ops:Array AY}{rest:List AY}{A B:List AG}{E:Nat}{k:B2}{v:A2}{xs:List Nat}{t:Ab}{x y:Ag}{i z:Nat}{ty:Ab}{ps:String}{af:Array Edge}(hsz:∀w,(Go.sizeOf t).run P w=.ok 1 w)
    (hx:zK e x=some (zH 1 v i))(hy:zK e y=some (vU k z))(hi:i<A1 xs)(k':GL P n w0 h0 ops Q rest e (A++.us E k v (xs.set i z)::B) h):
    GL P n w0 h0 ops Q (⟨none,.store t x y,ty,ps,af,none⟩::rest) e (A++.us E k v xs::B) h:=xY (bT hsz hx hy hi) rfl rfl rfl k'
theorem St.new{w0 w w':AP}{h0 h:A4}{L:List AG}{r:AG}(S:St w0 h0 L h w)(hgr:w.grownBy w' none)(hok:r.ok w0.heap.size w')(hfp:∀b,r.fp=some b->w.heap.size<=b):St w0 h0 (r::L) h w':=by
 have U:w0.heap.size<=w.heap.size:=S.below.size;have J:∀r∈L,∀b,r.fp=some b->b<w.heap.size:=λr C b D=>AG.fp_lt (S.ok r C) D;have H:∀b,b<w.heap.size->w'.heap[b]?=w.heap[b]?:=λb D=>hgr.block b D B9;refine⟨S.below.trans ⟨hgr.os,hgr.tape,hgr.output,hgr.size,λk Z=>H k A3⟩,S.le,?_,S.fresh,?_,?_,?_⟩
 · intro b o D
   have h1:=S.sub b o D;unfold BE at *;exact(H b (Eo.1 h1).1).trans h1
 · intro r C
   rcases BY.1 C with rfl|C
   · exact hok
   · exact AG.kept (S.ok r C) λb D=>H b (J r C b D)
 · intro r C b D
   rcases BY.1 C with rfl|C
   · have M:=hfp b D
     refine⟨?_,A3⟩
     cases hh:h b with
     |none=>rfl
     |some o'=>
      have:=S.sub _ o' hh;unfold BE at this;have:=(Eo.1 this).1;omega
   · exact S.own r C b D
 · refine Ih.2 ⟨λr C b D M=>?_,S.apart⟩
   have:=J r C b M;have:=hfp b D;omega
def aU(P:D)(n:Nat)(w0:AP)(h0:A4)(o:AY)(e:List (Nat×A2))(L:List AG)(h:A4)(G:A2->AG->Prop):Prop:=
 ∀a w,Bp n e a->St w0 h0 L h w->∃v w' r,(execOp a.eval o).run P w=.ok (.value v) w'/\w.grownBy w' none/\r.ok w0.heap.size w'/\(∀b,r.fp=some b->w.heap.size<=b)/\G v r
theorem zE{ops:Array AY}{rest:List AY}{o:AY}{d:Nat}{G:A2->AG->Prop}(hv:aU P n w0 h0 o e L h G)(hg:o.guard=none)(hd:o.dst=some d)(hn:Nat.ble (d+1) n=true)
    (k:∀v r,G v r->GL P n w0 h0 ops Q rest ((d,v)::e) (r::L) h):GL P n w0 h0 ops Q (o::rest) e L h:=by
 intro a w J S;refine wpList_plain hg λK U=>?_;obtain⟨v,w',r,M,D,C,H,Z⟩:=hv a w J S;unfold AY.wp;rw[M,AY.upon_value,hd];exact U _ _ (k v r Z _ _ (J.put (Bm hn)) (S.new D C H))
theorem g7{t E:Ab}{i:TypeInfo}{z:A2}{x y:Ag}{ds:Option Tmp}{ty:Ab}{ps:String}{af:Array Edge}{gd:Option (Nat×Bool)}{q q':Int}(m:Nat)(ht:P.underlying t=some (.slice E))(hi:P.info? E=some i)(hz:i.zero=some z)(hone:z.cells=#[z])(hsize:i.size=1)
    (hx:zK e x=some (vI q))(hy:zK e y=some (vI q'))(hq:q=(m:Int))(hq':q'=(m:Int))(hb:i.bytes*m<=281474976710656)(hm:m<9223372036854775808):
    aU P n w0 h0 ⟨ds,.makeSlice t x y,ty,ps,af,gd⟩ e L h (λv r=>r=.gs E 1 v m (List.replicate m z)):=by
 subst hq;subst hq';intro a w J S;obtain⟨M,U,D,H⟩:=run_make_full (P:=P) w w0.heap.size t E i z 1 ht hi hz hsize .i64 .i64 m hb (by unfold maxLen;omega) S.below.size;have C:(madeCells z.cells (m*1)).toList=List.replicate m z:=by rw[hone,F9];exact toList_madeCells_one z m
 rw[C] at D;refine⟨_,M,.gs E 1 (.slice (some ⟨w.heap.size,0,none⟩) m m) m (List.replicate m z),?_,H,D,λb hb=>?_,I⟩
 · simp only[execOp,J.eval hx,J.eval hy,vI]
   simp[U]
 · simp only[AG.fp,A2.ownBlock,Option.some.injEq] at hb
   omega
theorem au{t E:Ab}{i:TypeInfo}{kd:B2}{x y:Ag}{ds:Option Tmp}{ty:Ab}{ps:String}{af:Array Edge}{gd:Option (Nat×Bool)}{q q':Int}{by':Nat}(m:Nat)(ht:P.underlying t=some (.slice E))(hi:P.info? E=some i)(hz:i.zero=some (.int kd 0))(hsize:i.size=1)
    (hby:i.bytes=by')(hx:zK e x=some (vI q))(hy:zK e y=some (vI q'))(hq:q=(m:Int))(hq':q'=(m:Int))(hb:by'*m<=281474976710656)(hm:m<9223372036854775808):
    aU P n w0 h0 ⟨ds,.makeSlice t x y,ty,ps,af,gd⟩ e L h (λv r=>r=.us E kd v (List.replicate m 0)):=by
 subst hby;intro a w J S;obtain⟨v,C,r,h1,h2,h3,H,D⟩:=g7 (n:=n) (L:=L) (h:=h) (ds:=ds) (ty:=ty) (ps:=ps) (af:=af) (gd:=gd) m ht hi hz I hsize hx hy hq hq' hb hm a w J S;refine⟨v,C,r,h1,h2,h3,H,?_⟩;rw[D];simp[AG.us,Bk.us,vU]
theorem jI{ops:Array AY}{rest:List AY}{t E:Ab}{i:TypeInfo}{kd:B2}{x y:Ag}{d:Nat}{ty:Ab}{ps:String}{af:Array Edge}{q q':Int}{by':Nat}(m:Nat)(ht:P.underlying t=some (.slice E))(hi:P.info? E=some i)(hz:i.zero=some (.int kd 0))(hsize:i.size=1)
    (hby:i.bytes=by')(hx:zK e x=some (vI q))(hy:zK e y=some (vI q'))(hq:q=(m:Int))(hq':q'=(m:Int))(hb:by'*m<=281474976710656)(hm:m<9223372036854775808)(hn:Nat.ble (d+1) n=true)
    (k:∀v,GL P n w0 h0 ops Q rest ((d,v)::e) (.us E kd v (List.replicate m 0)::L) h):GL P n w0 h0 ops Q (⟨some d,.makeSlice t x y,ty,ps,af,none⟩::rest) e L h:=
 zE (au m ht hi hz hsize hby hx hy hq hq' hb hm) rfl rfl hn λv r hr=>hr▸k v
theorem vS{ops:Array AY}{rest:List AY}{B:List AG}{E:Nat}{k:B2}{v:A2}{xs:List Nat}{t:Ab}{x y:Ag}{i z:Nat}{ty:Ab}{ps:String}{af:Array Edge}(hsz:∀w,(Go.sizeOf t).run P w=.ok 1 w)
    (hx:zK e x=some (zH 1 v i))(hy:zK e y=some (vU k z))(hi:i<A1 xs)(k':GL P n w0 h0 ops Q rest e (.us E k v (xs.set i z)::B) h):
    GL P n w0 h0 ops Q (⟨none,.store t x y,ty,ps,af,none⟩::rest) e (.us E k v xs::B) h:=ZA (A:=[]) hsz hx hy hi k'
theorem yR{ops:Array AY}{l:List AY}{B:List AG}{E:Nat}{k:B2}{v:A2}{xs:List Nat}(hlt:∀x∈xs,x<ub k)(k':∀h',MLe h h'->Us k h' v xs->GL P n w0 h0 ops Q l e (B) h'):
 GL P n w0 h0 ops Q l e (.us E k v xs::B) h:=WV (A:=[]) hlt k'
theorem pL{ops:Array AY}{rest:List AY}{r0:AG}{B:List AG}{E:Nat}{k:B2}{v:A2}{xs:List Nat}{t:Ab}{x y:Ag}{i z:Nat}{ty:Ab}{ps:String}{af:Array Edge}(hsz:∀w,(Go.sizeOf t).run P w=.ok 1 w)
    (hx:zK e x=some (zH 1 v i))(hy:zK e y=some (vU k z))(hi:i<A1 xs)(k':GL P n w0 h0 ops Q rest e (r0::.us E k v (xs.set i z)::B) h):
    GL P n w0 h0 ops Q (⟨none,.store t x y,ty,ps,af,none⟩::rest) e (r0::.us E k v xs::B) h:=ZA (A:=[r0]) hsz hx hy hi k'
theorem jb{ops:Array AY}{l:List AY}{r0:AG}{B:List AG}{E:Nat}{k:B2}{v:A2}{xs:List Nat}(hlt:∀x∈xs,x<ub k)(k':∀h',MLe h h'->Us k h' v xs->GL P n w0 h0 ops Q l e (r0::B) h'):
 GL P n w0 h0 ops Q l e (r0::.us E k v xs::B) h:=WV (A:=[r0]) hlt k'
end own
section
variable {P:D}{ops:Array AY}
def qY(P:D)(ops:Array AY)(o:AY)(a:Av)(w:AP)(K:A2->AP->Prop):Prop:=
 if Region.wanted o (yielded ops a.tmps) then
  match (execOp a.eval o).run P w with
  | .ok (.value v) w'=>K v w'
  | .ok .skip w'=>K undef w'
  | .ok (.enter f args) w'=>Calls P f args w' λe w''=>∃v,e=.returned v/\K v w''
  |_=>False
 else K undef w
theorem qY.mono{o:AY}{a:Av}{w:AP}{K K':A2->AP->Prop}(h:qY P ops o a w K)(hk:∀v w,K v w->K' v w):qY P ops o a w K':=by
 unfold qY at *
 split
 · rename_i hw
   rw[AC hw] at h;generalize (execOp a.eval o).run P w=r at *
   cases r with
   |ok x w'=>
    cases x<;>simp only at h ⊢
    case enter f args=>exact h.mono λe C ⟨v,H,D⟩=>⟨v,H,hk _ _ D⟩
    all_goals exact hk _ _ h
   |halt x w'=>exact h
 · rename_i hw
   rw[A8 hw] at h;exact hk _ _ h
theorem qY.wpOp{o:AY}{i:Nat}{a:Av}{w:AP}{K:A2->AP->Prop}{K':Av->AP->Prop}{Q:BH->Av->AP->Prop}(hi:ops[i]?=some o)(h:qY P ops o a w K)
    (hk:∀v w,K v w->K' (a.put o.dst v) w):Go.wpOp P ops Q i K' a w:=by
 unfold Go.wpOp;simp only[hi];unfold qY at h
 split
 · rename_i hw
   rw[AC hw] at h;refine .inl ?_;unfold AY.wp;generalize (execOp a.eval o).run P w=r at *
   cases r with
   |ok x w'=>
    cases x<;>simp only at h<;>simp only[AY.upon]
    case enter f args=>exact h.mono λe C ⟨v,H,D⟩=>by subst H;exact hk _ _ D
    all_goals exact hk _ _ h
   |halt x w'=>exact h.elim
 · rename_i hw
   rw[A8 hw] at h;exact hk _ _ h
theorem qY.of_put{o:AY}{a:Av}{w:AP}{K:A2->AP->Prop}{d:Option Tmp}{v:A2}(hs:∀cs b,o.op≠.select cs b)(hd:∀t,d=some t->t ∉ o.looksAt ops)(h:qY P ops o (a.put d v) w K):qY P ops o a w K:=by
 unfold qY at *;rw[execOp_put (ops:=ops) o hs a d v hd,wanted_put (ops:=ops) o a d v hd] at h;exact h
def RA(P:D)(ops:Array AY)(C:Array Bool->AP->Prop)(Q:Av->AP->Prop):Nat->Array Bool->Av->AP->Prop
  |0,listed,a,w=>Region.ready .any ops listed=[]/\Q a w
  |fuel+1,listed,a,w=>
   (Region.ready .any ops listed=[]->Q a w)/\
   ∀i∈Region.ready .any ops listed,∀o,ops[i]?=some o->qY P ops o a w λv w'=>C (listed.setIfInBounds i true) w'/\RA P ops C Q fuel (listed.setIfInBounds i true) (a.put o.dst v) w'
theorem RA.mono{C C':Array Bool->AP->Prop}{Q:Av->AP->Prop}(hC:∀l w,C l w->C' l w):∀{fuel:Nat} {listed:Array Bool} {a:Av} {w:AP},RA P ops C Q fuel listed a w->RA P ops C' Q fuel listed a w
  |0,_,_,_,h=>h
  |_+1,_,_,_,h=>⟨h.1,λi hi o ho=>(h.2 i hi o ho).mono λ_ _ hk=>⟨hC _ _ hk.1,RA.mono hC hk.2⟩⟩
theorem RA.wpAny{C:Array Bool->AP->Prop}{Q:Av->AP->Prop}{Q':BH->Av->AP->Prop}(hQ:∀a w,Q a w->Q' .normal a w):∀{fuel:Nat} {listed:Array Bool} {a:Av} {w:AP},RA P ops C Q fuel listed a w->Go.wpAny P .any ops Q' fuel listed a w
  |0,_,_,_,h=>⟨h.1,hQ _ _ h.2⟩
  |fuel+1,listed,a,w,h=>⟨λh0=>hQ _ _ (h.1 h0),λi hi=>by
   obtain⟨_,o,ho,_⟩:=mem_ready.1 hi;exact(h.2 i hi o ho).wpOp ho λv w' hk=>RA.wpAny hQ hk.2⟩
def mS(P:D)(ops:Array AY)(o:AY)(a:Av)(w:AP)(v:A2):Prop:=
 (Region.wanted o (yielded ops a.tmps)=true/\(execOp a.eval o).run P w=.ok (.value v) w)\/(Region.wanted o (yielded ops a.tmps)=false/\v=undef)
theorem mS.put{o:AY}{a:Av}{w:AP}{v u:A2}{d:Option Tmp}(hs:∀cs b,o.op≠.select cs b)(hd:∀t,d=some t->t ∉ o.looksAt ops)(h:mS P ops o a w v):mS P ops o (a.put d u) w v:=by
 unfold mS at *;rw[execOp_put (ops:=ops) o hs a d u hd,wanted_put (ops:=ops) o a d u hd];exact h
theorem mS.runs{o:AY}{a:Av}{w:AP}{v:A2}{K:A2->AP->Prop}(h:mS P ops o a w v)(hk:K v w):qY P ops o a w K:=by
 unfold qY
 rcases h with⟨h1,h2⟩|⟨h1,h2⟩
 · rw[AC h1,h2];exact hk
 · rw[A8 (by simp[h1]),<-h2];exact hk
def FM(m:Nat)(D:AP->Prop)(listed:Array Bool)(w:AP):Prop:=D w\/∃k,m<=k/\listed.getD k false=true
def Iv(ops:Array AY)(listed:Array Bool):Prop:=∀k o,listed.getD k false=true->ops[k]?=some o->∀e∈o.after,Region.binds .any e=true->listed.getD e.on false=true
theorem Iv.set{listed:Array Bool}(h:Iv ops listed){j:Nat}(hj:j∈Region.ready .any ops listed):Iv ops (listed.setIfInBounds j true):=by
 intro k o J H e M U;obtain⟨_,o',D,C⟩:=mem_ready.1 hj
 by_cases hkj:k=j
 · subst hkj
   rw[D] at H;cases H
   exact getD_set_true (C e M U)
 · rw[getD_set_ne false (Ne.symm hkj)] at J
   exact getD_set_true (h k o J H e M U)
def JO(ops:Array AY):Nat->Nat->Nat->Bool
  |0,k,i=>k==i
  |f+1,k,i=>k==i||(ops.getD k default).after.any λe=>Region.binds .any e&&JO ops f e.on i
def Hb(ops:Array AY)(k i:Nat):Bool:=
 (ops.getD k default).after.any λe=>Region.binds .any e&&JO ops 5 e.on i
theorem Z7{listed:Array Bool}(hcl:Iv ops listed)(hsz:listed.size=ops.size){i:Nat}:∀(f k:Nat),listed.getD k false=true->JO ops f k i=true->listed.getD i false=true
  |0,k,hk,hw=>by
   have:k=i:=by simpa[JO] using hw
   rw[<-this];exact hk
  |f+1,k,hk,hw=>by
   simp only[JO,Eb,beq_iff_eq,Nk,Ap] at hw
   rcases hw with hw|⟨e,he,hb,hw⟩
   · rw[<-hw];exact hk
   · have C:k<ops.size:=by
      rcases DR k listed.size with h'|h'
      · omega
      · simp[L6 h'] at hk
     have D:ops[k]?=some (ops.getD k default):=by simp[EG,C]
     exact Z7 hcl hsz f e.on (hcl _ _ hk D e he hb) hw
theorem up{listed:Array Bool}(hcl:Iv ops listed)(hsz:listed.size=ops.size){k i:Nat}(hk:k∈Region.ready .any ops listed)(hw:Hb ops k i=true):listed.getD i false=true:=by
 obtain⟨h1,o,H,C⟩:=mem_ready.1 hk;have D:ops.getD k default=o:=by simp[EG,H]
 unfold Hb at hw;rw[D] at hw;simp only[Nk,Ap] at hw;obtain⟨e,J,M,hw⟩:=hw;exact Z7 hcl hsz 5 e.on (C e J M) hw
theorem RA.first{m:Nat}{D:AP->Prop}{Q:Av->AP->Prop}{i:Nat}{oi:AY}{v:A2}(hi:ops[i]?=some oi)(hsel:Region.noSelect ops=true)(him:i<m)
    (hlast:∀k,m<=k->k<ops.size->Hb ops k i=true):
    ∀(fuel:Nat) (listed:Array Bool) (a:Av) (w:AP),Iv ops listed->listed.size=ops.size->D w->(∀k,m<=k->listed.getD k false=false)->
     (∀j oj,ops[j]?=some oj->j≠i->listed.getD j true=false->(∀e∈oj.after,Region.binds .any e=true->e.on≠i)->oi.apart ops oj=true)->
     i∈Region.ready .any ops listed->(∀w',D w'->mS P ops oi a w' v)->
     RA P ops (FM m D) Q fuel (listed.setIfInBounds i true) (a.put oi.dst v) w->RA P ops (FM m D) Q (fuel+1) listed a w:=by
 intro fuel
 induction fuel with
 |zero=>
  intro listed a w _ _ hD _ _ hr hy H;refine⟨λh=>(by rw[h] at hr;cases hr),λj hj o ho=>?_⟩
  by_cases hji:j=i
  · subst hji
    rw[hi] at ho;cases ho
    exact(hy w hD).runs ⟨.inl hD,H⟩
  · have:=ready_mono hj hji
    rw[H.1] at this
    cases this
 |succ fuel ih=>
  intro listed a w hcl hsz hD hnl hfree hr hy H;refine⟨λh=>(by rw[h] at hr;cases hr),λj hj oj ho=>?_⟩
  by_cases hji:j=i
  · subst hji
    rw[hi] at ho;cases ho
    exact(hy w hD).runs ⟨.inl hD,H⟩
  · have h1:=H.2 j (ready_mono hj hji) oj ho
    obtain⟨hjun,oj',hoj',hall⟩:=mem_ready.1 hj;rw[ho] at hoj';cases hoj'
    have hiun:=(mem_ready.1 hr).1;have hnot:∀e∈oj.after,Region.binds .any e=true->e.on≠i:=λe he hb heq=>by
     have h1:=hall e he hb;rw[heq] at h1
     rcases DR i listed.size with h'|h'
     · simp[h'] at h1 hiun;rw[hiun] at h1;cases h1
     · simp[L6 h'] at h1
    have hjm:¬m<=j:=λhm=>by
     have h2:=up hcl hsz hj (hlast j hm (Eo.1 ho).1)
     rcases DR i listed.size with h'|h'
     · simp[h'] at h2 hiun;rw[hiun] at h2;cases h2
     · simp[L6 h'] at h2
    have hap:=hfree j oj ho hji hjun hnot;obtain⟨p1,p2,p3⟩:=AY.apart_spec hap;have hsj:=λcs b=>Region.noSelect_spec hsel j oj cs b ho;have hsi:=λcs b=>Region.noSelect_spec hsel i oi cs b hi;refine(qY.of_put hsj p1 h1).mono λu w' hk=>?_;have hnl':∀k,m<=k->(listed.setIfInBounds j true).getD k false=false:=λk hk'=>by
     rw[getD_set_ne false A3];exact hnl k hk'
    have hD':D w':=by
     rcases hk.1 with h2|⟨k,hkm,hkl⟩
     · exact h2
     · rw[getD_set_ne false A3,getD_set_ne false A3,hnl k hkm] at hkl
       cases hkl
    have hfree':∀k ok,ops[k]?=some ok->k≠i->(listed.setIfInBounds j true).getD k true=false->
     (∀e∈ok.after,Region.binds .any e=true->e.on≠i)->oi.apart ops ok=true:=λk ok hk hki hun hno=>by
     refine hfree k ok hk hki ?_ hno
     by_cases hjk:j=k
     · subst hjk;exact hjun
     · rw[getD_set_ne true hjk] at hun;exact hun
    refine⟨.inl hD',ih _ _ w' (hcl.set hj) (by simpa using hsz) hD' hnl' hfree' (ready_mono hr (Ne.symm hji)) (λw'' hw=>(hy w'' hw).put hsi p3) ?_⟩;rw[LW _ _ hji,<-Av.put_comm a v u p2];exact hk.2
theorem RA.pure{m:Nat}{D:AP->Prop}{Q:Av->AP->Prop}{i:Nat}{oi:AY}{v:A2}(hi:ops[i]?=some oi)(hsel:Region.noSelect ops=true)(him:i<m):
 ∀(fuel:Nat) (listed:Array Bool) (a:Av) (w:AP),FM m D listed w->
  (∀j oj,ops[j]?=some oj->j≠i->listed.getD j true=false->(∀e∈oj.after,Region.binds .any e=true->e.on≠i)->oi.apart ops oj=true)->
  i∈Region.ready .any ops listed->(∀w',mS P ops oi a w' v)->
  RA P ops (FM m D) Q fuel (listed.setIfInBounds i true) (a.put oi.dst v) w->RA P ops (FM m D) Q (fuel+1) listed a w:=by
 intro fuel;have hset:∀(listed:Array Bool) (j:Nat) (w:AP),FM m D listed w->FM m D (listed.setIfInBounds j true) w:=λlisted j w hc=>hc.imp id λ⟨k,hk,hl⟩=>⟨k,hk,getD_set_true hl⟩
 induction fuel with
 |zero=>
  intro listed a w hD _ hr hy H;refine⟨λh=>(by rw[h] at hr;cases hr),λj hj o ho=>?_⟩
  by_cases hji:j=i
  · subst hji
    rw[hi] at ho;cases ho
    exact(hy w).runs ⟨hset _ _ _ hD,H⟩
  · have:=ready_mono hj hji
    rw[H.1] at this
    cases this
 |succ fuel ih=>
  intro listed a w hD hfree hr hy H;refine⟨λh=>(by rw[h] at hr;cases hr),λj hj oj ho=>?_⟩
  by_cases hji:j=i
  · subst hji
    rw[hi] at ho;cases ho
    exact(hy w).runs ⟨hset _ _ _ hD,H⟩
  · have h1:=H.2 j (ready_mono hj hji) oj ho
    obtain⟨hjun,oj',hoj',hall⟩:=mem_ready.1 hj;rw[ho] at hoj';cases hoj'
    have hiun:=(mem_ready.1 hr).1;have hnot:∀e∈oj.after,Region.binds .any e=true->e.on≠i:=λe he hb heq=>by
     have h1:=hall e he hb;rw[heq] at h1
     rcases DR i listed.size with h'|h'
     · simp[h'] at h1 hiun;rw[hiun] at h1;cases h1
     · simp[L6 h'] at h1
    have hap:=hfree j oj ho hji hjun hnot;obtain⟨p1,p2,p3⟩:=AY.apart_spec hap;have hsj:=λcs b=>Region.noSelect_spec hsel j oj cs b ho;have hsi:=λcs b=>Region.noSelect_spec hsel i oi cs b hi;refine(qY.of_put hsj p1 h1).mono λu w' hk=>?_;have hD':FM m D (listed.setIfInBounds j true) w':=by
     refine hk.1.imp id λ⟨k,hkm,hkl⟩=>⟨k,hkm,?_⟩;rw[LW _ _ (Ne.symm hji),getD_set_ne false A3] at hkl;exact hkl
    have hfree':∀k ok,ops[k]?=some ok->k≠i->(listed.setIfInBounds j true).getD k true=false->
     (∀e∈ok.after,Region.binds .any e=true->e.on≠i)->oi.apart ops ok=true:=λk ok hk hki hun hno=>by
     refine hfree k ok hk hki ?_ hno
     by_cases hjk:j=k
     · subst hjk;exact hjun
     · rw[getD_set_ne true hjk] at hun;exact hun
    refine⟨hD',ih _ _ w' hD' hfree' (ready_mono hr (Ne.symm hji)) (λw''=>(hy w'').put hsi p3) ?_⟩;rw[LW _ _ hji,<-Av.put_comm a v u p2];exact hk.2
def Gt(ops:Array AY)(listed:Array Bool):Nat:=A1 ((List.range ops.size).filter λi=>!listed.getD i true)
theorem mC{listed:Array Bool}{i:Nat}(hi:i<ops.size)(hl:listed.getD i true=false):Gt ops (listed.setIfInBounds i true)<Gt ops listed:=by
 unfold Gt;have C:((List.range ops.size).filter λj=>!(listed.setIfInBounds i true).getD j true)=((List.range ops.size).filter λj=>!listed.getD j true).filter λj=>j != i:=by
  rw[List.filter_filter];refine S5 λj _=>?_
  by_cases hj:j=i
  · subst hj
    have D:j<listed.size:=by
     rcases DR j listed.size with h'|h'
     · exact h'
     · simp[L6 h'] at hl
    simp[D]
  · rw[getD_set_ne true (Ne.symm hj)]
    simp[hj]
 rw[C];refine List.length_filter_lt_length_iff_exists.2 ⟨i,?_,B9⟩;simp only[HU,C3,hi,true_and,hl,Bool.not_false]
theorem mX{listed:Array Bool}(h:Gt ops listed=0):Region.ready .any ops listed=[]:=by
 rw[List.eq_nil_iff_forall_not_mem];intro i hi;obtain⟨h1,o,C,_⟩:=mem_ready.1 hi;have:=mC (ops:=ops) (Eo.1 C).1 h1;omega
end
inductive Kd where
 |q|a|c|b(j:Nat)|t|p|d(i2 j:Nat)|m(A B:List Nat)|x(Qs A B:List Nat)
def Ah:Nat->Nat->List (Nat×Kd)->List (Nat×Kd)
 |_,0,l=>l
 |i,n+1,l=>(i,.q)::Ah (i+1) n l
section yJM
variable (P:D)(n:Nat)(w0:AP)(h0:A4)(ops:Array AY)(Q:BH->Av->AP->Prop)(R:List AG)
def Ef(e:List (Nat×A2))(d:Option Tmp)(v:A2):List (Nat×A2):=
 match d with
 |some d=>(d,v)::e
 |none=>e
def Kg(o:AY)(e:List (Nat×A2))(h:A4)(v:A2):Prop:=
 (∃d,o.dst=some d/\d<n)/\∀h' L' a w,MLe h h'->(∀r∈R,r∈L')->Bp n e a->St w0 h0 L' h' w->mS P ops o a w v
def l9(o:AY)(e:List (Nat×A2))(v:A2):Prop:=
 (∃d,o.dst=some d/\d<n)/\∀a w,Bp n e a->mS P ops o a w v
def ZO(e:List (Nat×A2))(L X:List AG)(h:A4)(o:AY)(W:List (Nat×A2)->List AG->A4->Prop)(v:A2)(w:AP):Prop:=
 (∀d,o.dst=some d->d<n)/\∃L' h',MLe h h'/\((∀r∈R,r∈L)->∀r∈R,r∈L')/\St w0 h0 (L'++X) h' w/\W (Ef e o.dst v) L' h'
def qP(o:AY)(e:List (Nat×A2))(L:List AG)(h:A4)(W:List (Nat×A2)->List AG->A4->Prop):Prop:=
 ∀X a w,Bp n e a->St w0 h0 (L++X) h w->qY P ops o a w (ZO n w0 h0 R e L X h o W)
def QZ(o:AY)(e:List (Nat×A2))(L:List AG)(h:A4)(W:List (Nat×A2)->List AG->A4->Prop):Prop:=
 ∀a w,Bp n e a->St w0 h0 L h w->qY P ops o a w λv w'=>(∀d,o.dst=some d->d<n)/\∃L' h',St w0 h0 L' h' w'/\W (Ef e o.dst v) L' h'
abbrev Co:=List (Nat×(Nat×Ab×List A2))
def WM(K:List (Nat×A2)->List AG->A4->Prop):Nat->List Nat->List Nat->List (Nat×A2)->List AG->A4->Prop
  |_,[],[],e,L,h=>K e L h
  |0,_,_,_,_,_=>False
  |k+1,i::A,[],e,L,h=>qP P n w0 h0 ops R (ops.getD i default) e L h (WM K k A [])
  |k+1,[],j::B,e,L,h=>qP P n w0 h0 ops R (ops.getD j default) e L h (WM K k [] B)
  |k+1,i::A,j::B,e,L,h=>qP P n w0 h0 ops R (ops.getD i default) e L h (WM K k A (j::B))/\qP P n w0 h0 ops R (ops.getD j default) e L h (WM K k (i::A) B)
def SQ(i:Nat)(e:List (Nat×A2))(L:List AG)(h:A4)(K:List (Nat×A2)->List AG->A4->Prop):Prop:=∃v,Kg P n w0 h0 ops R (ops.getD i default) e h v/\K (Ef e (ops.getD i default).dst v) L h
def WX(Qs:List Nat)(K:List (Nat×A2)->List AG->A4->Prop):Nat->List Nat->List Nat->List (Nat×A2)->List AG->A4->Prop
  |_,[],[],e,L,h=>K e L h
  |0,_,_,_,_,_=>False
  |k+1,i::A,[],e,L,h=>bif Qs.contains i then SQ P n w0 h0 ops R i e L h (WX Qs K k A []) else qP P n w0 h0 ops R (ops.getD i default) e L h (WX Qs K k A [])
  |k+1,[],j::B,e,L,h=>bif Qs.contains j then SQ P n w0 h0 ops R j e L h (WX Qs K k [] B) else qP P n w0 h0 ops R (ops.getD j default) e L h (WX Qs K k [] B)
  |k+1,i::A,j::B,e,L,h=>bif Qs.contains i then SQ P n w0 h0 ops R i e L h (WX Qs K k A (j::B)) else bif Qs.contains j then SQ P n w0 h0 ops R j e L h (WX Qs K k (i::A) B)
    else qP P n w0 h0 ops R (ops.getD i default) e L h (WX Qs K k A (j::B))/\qP P n w0 h0 ops R (ops.getD j default) e L h (WX Qs K k (i::A) B)
def I9:Op->Option Nat
  | .buildSlice _ len _=>some len
  |_=>none
def Hg(o:Op)(b:Nat):A2:=
 match I9 o with
 |none=>.pointer (some ⟨b,0,none⟩)
 |some len=>.slice (some ⟨b,0,none⟩) len len
def W(al:Co):List (Nat×Kd)->List (Nat×A2)->List AG->A4->Prop
  |[],e,L,h=>GQ n w0 h0 Q .normal e L h
  |(i,.q)::r,e,L,h=>∃v,Kg P n w0 h0 ops R (ops.getD i default) e h v/\W al r (Ef e (ops.getD i default).dst v) L h
  |(i,.a)::r,e,L,h=>∀d E cs b,al.lookup i=some (d,E,cs)->match I9 (ops.getD i default).op with
   |none=>W al r ((d,.pointer (some ⟨b,0,none⟩))::e) (.blk b (.cells (Am cs) E)::L) h
   |some len=>∀h',MLe h h'->Sl h' 1 (.slice (some ⟨b,0,none⟩) len len) len cs->W al r ((d,.slice (some ⟨b,0,none⟩) len len)::e) L h'
  |(i,.c)::r,e,L,h=>qP P n w0 h0 ops R (ops.getD i default) e L h (W al r)
  |(i,.b j)::r,e,L,h=>qP P n w0 h0 ops R (ops.getD i default) e L h (λe L h=>qP P n w0 h0 ops R (ops.getD j default) e L h (W al r))/\
   qP P n w0 h0 ops R (ops.getD j default) e L h (λe L h=>qP P n w0 h0 ops R (ops.getD i default) e L h (W al r))
  |(i,.t)::r,e,L,h=>QZ P n w0 h0 ops (ops.getD i default) e L h (W al r)
  |(i,.p)::r,e,L,h=>∃v,l9 P n ops (ops.getD i default) e v/\W al r (Ef e (ops.getD i default).dst v) L h
  |(i,.d i2 j)::r,e,L,h=>
   qP P n w0 h0 ops R (ops.getD i default) e L h (λe L h=>
    qP P n w0 h0 ops R (ops.getD i2 default) e L h (λe L h=>qP P n w0 h0 ops R (ops.getD j default) e L h (W al r))/\
    qP P n w0 h0 ops R (ops.getD j default) e L h (λe L h=>qP P n w0 h0 ops R (ops.getD i2 default) e L h (W al r)))/\
   qP P n w0 h0 ops R (ops.getD j default) e L h (λe L h=>qP P n w0 h0 ops R (ops.getD i default) e L h (λe L h=>qP P n w0 h0 ops R (ops.getD i2 default) e L h (W al r)))
  |(_,.m A B)::r,e,L,h=>WM P n w0 h0 ops R (W al r) (A1 A+A1 B) A B e L h
  |(_,.x Qs A B)::r,e,L,h=>WX P n w0 h0 ops R Qs (W al r) (A1 A+A1 B) A B e L h
end yJM
def Bt(b:Array Bool)(l:List Nat):Array Bool:=l.foldl (λb i=>b.setIfInBounds i true) b
def FN(ops:Array AY)(m:Nat)(pend:List Nat)(K:Array Bool->Bool):Nat->List Nat->List Nat->Array Bool->Bool
  |_,[],[],base=>K base
  |0,_,_,_=>false
  |k+1,i::A,[],base=>(decide (i<m)&&!pend.contains i)&&(Region.ready .any ops (Bt base pend)==[i])&&FN ops m pend K k A [] (base.setIfInBounds i true)
  |k+1,[],j::B,base=>(decide (j<m)&&!pend.contains j)&&(Region.ready .any ops (Bt base pend)==[j])&&FN ops m pend K k [] B (base.setIfInBounds j true)
  |k+1,i::A,j::B,base=>(decide (i<m)&&!pend.contains i)&&(decide (j<m)&&!pend.contains j)&&decide (i≠j)&&(Region.ready .any ops (Bt base pend)==[i,j])&&
    FN ops m pend K k A (j::B) (base.setIfInBounds i true)&&FN ops m pend K k (i::A) B (base.setIfInBounds j true)
def Hx(ops:Array AY)(m:Nat)(pend:List Nat)(i:Nat)(base:Array Bool):Bool:=decide (i<m)&&(Region.ready .any ops base).contains i&&Region.free .any ops base i&&!pend.contains i&&((List.range ops.size).all λk=>decide (k<m)||Hb ops k i)
def oQ(ops:Array AY)(m:Nat)(pend:List Nat)(Qs:List Nat)(K:Array Bool->Bool):Nat->List Nat->List Nat->Array Bool->Bool
  |_,[],[],base=>K base
  |0,_,_,_=>false
  |k+1,i::A,[],base=>bif Qs.contains i then Hx ops m pend i base&&oQ ops m pend Qs K k A [] (base.setIfInBounds i true) else(decide (i<m)&&!pend.contains i)&&(Region.ready .any ops (Bt base pend)==[i])&&oQ ops m pend Qs K k A [] (base.setIfInBounds i true)
  |k+1,[],j::B,base=>bif Qs.contains j then Hx ops m pend j base&&oQ ops m pend Qs K k [] B (base.setIfInBounds j true) else(decide (j<m)&&!pend.contains j)&&(Region.ready .any ops (Bt base pend)==[j])&&oQ ops m pend Qs K k [] B (base.setIfInBounds j true)
  |k+1,i::A,j::B,base=>bif Qs.contains i then Hx ops m pend i base&&oQ ops m pend Qs K k A (j::B) (base.setIfInBounds i true) else bif Qs.contains j then Hx ops m pend j base&&oQ ops m pend Qs K k (i::A) B (base.setIfInBounds j true)
    else(decide (i<m)&&!pend.contains i)&&(decide (j<m)&&!pend.contains j)&&decide (i≠j)&&(Region.ready .any ops (Bt base pend)==[i,j]||Region.ready .any ops (Bt base pend)==[j,i])&&
    oQ ops m pend Qs K k A (j::B) (base.setIfInBounds i true)&&oQ ops m pend Qs K k (i::A) B (base.setIfInBounds j true)
def C0(ops:Array AY)(m:Nat):List (Nat×Kd)->Array Bool->List Nat->Bool
  |[],base,pend=>pend.isEmpty&&(Region.ready .any ops base).isEmpty
  |(i,.q)::r,base,pend=>decide (i<m)&&(Region.ready .any ops base).contains i&&Region.free .any ops base i&&!pend.contains i&&
     ((List.range ops.size).all λk=>decide (k<m)||Hb ops k i)&&C0 ops m r (base.setIfInBounds i true) pend
  |(i,.a)::r,base,pend=>pend.contains i&&(Region.ready .any ops (Bt base (pend.filter (· != i)))==[i])&&C0 ops m r (base.setIfInBounds i true) (pend.filter (· != i))
  |(i,.c)::r,base,pend=>decide (i<m)&&!pend.contains i&&(Region.ready .any ops (Bt base pend)==[i])&&C0 ops m r (base.setIfInBounds i true) pend
  |(i,.b j)::r,base,pend=>decide (i<m)&&decide (j<m)&&!pend.contains i&&!pend.contains j&&decide (i≠j)&&(Region.ready .any ops (Bt base pend)==[i,j])&&
     (Region.ready .any ops (Bt (base.setIfInBounds i true) pend)==[j])&&(Region.ready .any ops (Bt (base.setIfInBounds j true) pend)==[i])&&C0 ops m r (D9 (base.setIfInBounds i true) j true) pend
  |(i,.t)::r,base,pend=>pend.isEmpty&&(r.all λx=>match x.2 with| .t=>true|_=>false)&&decide (m<=i)&&(Region.ready .any ops base==[i])&&C0 ops m r (base.setIfInBounds i true) []
  |(i,.p)::r,base,pend=>decide (i<m)&&(Region.ready .any ops base).contains i&&Region.free .any ops base i&&!pend.contains i&&C0 ops m r (base.setIfInBounds i true) pend
  |(i,.d i2 j)::r,base,pend=>(decide (i<m)&&decide (i2<m)&&decide (j<m)&&!pend.contains i&&!pend.contains i2&&!pend.contains j)&&(decide (i≠i2)&&decide (i≠j)&&decide (i2≠j))&&
     (Region.ready .any ops (Bt base pend)==[i,j])&&(Region.ready .any ops (Bt (base.setIfInBounds i true) pend)==[i2,j])&&(Region.ready .any ops (Bt (base.setIfInBounds j true) pend)==[i])&&
     (Region.ready .any ops (Bt (D9 (base.setIfInBounds i true) i2 true) pend)==[j])&&(Region.ready .any ops (Bt (D9 (base.setIfInBounds i true) j true) pend)==[i2])&&
     C0 ops m r (D9 (D9 (base.setIfInBounds i true) i2 true) j true) pend
  |(_,.m A B)::r,base,pend=>FN ops m pend (λbase=>C0 ops m r base pend) (A1 A+A1 B) A B base
  |(_,.x Qs A B)::r,base,pend=>oQ ops m pend Qs (λbase=>C0 ops m r base pend) (A1 A+A1 B) A B base
def bA(ops:Array AY)(al:Co):Bool:=
 al.all λx=>((ops.getD x.1 default).after.all λe=>!Region.binds .any e)&&decide (x.1<ops.size)&&(ops.getD x.1 default).guard.isNone&&(ops.getD x.1 default).dst==some x.2.1&&
   (List.range ops.size).all λk=>k==x.1||(ops.getD k default).dst != some x.2.1
section sound
variable {P:D}{n:Nat}{w0:AP}{h0:A4}{ops:Array AY}{Q:BH->Av->AP->Prop}{R:List AG}{al:Co}{m:Nat}
theorem St.perm{L L':List AG}{h:A4}{w:AP}(s:St w0 h0 L h w)(hp:L.Perm L'):St w0 h0 L' h w:=
 ⟨s.below,s.le,s.sub,s.fresh,λr hr=>s.ok r (hp.mem_iff.2 hr),λr hr=>s.own r (hp.mem_iff.2 hr),(hp.pairwise_iff λh b hx hy=>h b hy hx).1 s.apart⟩
theorem mB(b:Array Bool)(l:List Nat):(Bt b l).size=b.size:=by
 induction l generalizing b with
 |nil=>rfl
 |cons i l ih=>simp only[Bt,Hl] at ih ⊢;rw[ih];simp
theorem rG(b:Array Bool)(l:List Nat)(k:Nat):(Bt b l)[k]?=if k∈l/\k<b.size then some true else b[k]?:=by
 induction l generalizing b with
 |nil=>simp[Bt]
 |cons i l ih=>
  have:=ih (b.setIfInBounds i true);simp only[Bt,Hl] at this ⊢;rw[this];simp only[PW,KI,BY]
  by_cases hk:k<b.size<;>by_cases hi:i=k<;>by_cases hl:k∈l<;>simp_all
  all_goals omega
def Gz(ops:Array AY)(base:Array Bool)(X:List Nat)(listed:Array Bool):Prop:=base.size=ops.size/\listed=Bt base X
theorem Gz.unlisted{base listed:Array Bool}{X:List Nat}(hr:Gz ops base X listed)(k:Nat):listed.getD k true=false↔base.getD k true=false/\k ∉ X:=by
 obtain⟨h1,rfl⟩:=hr;simp only[EG,rG]
 by_cases hk:k<base.size
 · by_cases hx:k∈X<;>simp[hx,hk]
 · simp[hk]
theorem Gz.listed{base listed:Array Bool}{X:List Nat}(hr:Gz ops base X listed)(k:Nat):listed.getD k false=true↔(base.getD k false=true\/(k∈X/\k<ops.size)):=by
 obtain⟨h1,rfl⟩:=hr;simp only[EG,rG]
 by_cases hk:k<base.size
 · have C:k<ops.size:=by omega
   by_cases hx:k∈X<;>simp[hx,hk,C]
 · have C:¬k<ops.size:=by omega
   simp[hk,C]
theorem pV{base:Array Bool}{X Y:List Nat}{k:Nat}(hb:base.size=ops.size)(hk:k∈Region.ready .any ops (Bt base X))(hXY:∀x∈X,x∈Y)(hkY:k ∉ Y):k∈Region.ready .any ops (Bt base Y):=by
 rw[mem_ready] at hk ⊢;obtain⟨h1,o,D,h2⟩:=hk;refine⟨((Gz.unlisted ⟨hb,I⟩ k).2 ⟨((Gz.unlisted ⟨hb,I⟩ k).1 h1).1,hkY⟩),o,D,λe H C=>?_⟩;have:=(Gz.listed (ops:=ops) ⟨hb,I⟩ _).1 (h2 e H C);exact(Gz.listed ⟨hb,I⟩ _).2 (this.imp id λh=>⟨hXY _ h.1,h.2⟩)
theorem li(b:Array Bool)(i:Nat)(l:List Nat):D9 (Bt b l) i true=Bt b (i::l):=by
 apply Mn
 intro k;rw[rG,KI,mB,rG]
 by_cases hi:i=k
 · subst hi
   by_cases hk:i<b.size<;>simp[hk]
 · by_cases hk:k<b.size<;>by_cases hl:k∈l<;>simp[hi,hk,hl,Ne.symm hi]
theorem hT(b:Array Bool)(i:Nat)(l:List Nat):Bt (b.setIfInBounds i true) l=D9 (Bt b l) i true:=by
 apply Mn
 intro k;rw[rG,KI,KI,mB,rG,PW]
 by_cases hi:i=k
 · subst hi
   by_cases hk:i<b.size<;>by_cases hl:i∈l<;>simp[hk,hl]
 · by_cases hk:k<b.size<;>by_cases hl:k∈l<;>simp[hi,hk,hl]
def FB(w0:AP)(h0:A4)(R:List AG)(h:A4)(w:AP):Prop:=∃L' h',MLe h h'/\(∀r∈R,r∈L')/\St w0 h0 L' h' w
theorem FB.mono{h h':A4}(hh:MLe h h'){w:AP}(hd:FB w0 h0 R h' w):FB w0 h0 R h w:=
 let ⟨L',h2,a,b,c⟩:=hd
 ⟨L',h2,hh.trans a,b,c⟩
def uY(P:D)(n:Nat)(ops:Array AY)(al:Co):Prop:=∀x∈al,x.2.1<n/\(∀(a:Av) w,(execOp a.eval (ops.getD x.1 default)).run P w=.ok (.value (Hg (ops.getD x.1 default).op w.heap.size)) (w.alloc (.cells (Am x.2.2.2) x.2.2.1)))/\
 ∀len,I9 (ops.getD x.1 default).op=some len->A1 x.2.2.2=len/\len<=maxLen
def oU(al:Co)(X:List (Nat×Nat)):List AG:=X.map λp=>match al.lookup p.1 with|some (_,E,cs)=>.blk p.2 (.cells (Am cs) E)|none=>.blk p.2 default
structure Gr(P:D)(n:Nat)(w0:AP)(h0:A4)(ops:Array AY)(R:List AG)(al:Co)(base:Array Bool)(pend:List Nat)(e:List (Nat×A2))(L:List AG)(h:A4)(X:List (Nat×Nat))(listed:Array Bool)(a:Av)(w:AP):Prop where
 env:Bp n e a
 st:St w0 h0 (L++oU al X) h w
 sub:∀r∈R,r∈L
 rel:Gz ops base (X.map (·.1)) listed
 xp:∀p∈X,p.1∈pend/\∃y,al.lookup p.1=some y/\a.tmps[y.1]?=some (Hg (ops.getD p.1 default).op p.2)
 nd:(X.map (·.1)).Nodup
 pe:∀i∈pend,∃y,al.lookup i=some y/\e.lookup y.1=none
 pb:∀i∈pend,base.getD i true=false
 cl:Iv ops listed
theorem PD{al:Co}{i:Nat}{y:Nat×Ab×List A2}(h:al.lookup i=some y):(i,y)∈al:=by
 induction al with
 |nil=>simp at h
 |cons x l ih=>
  obtain⟨k,z⟩:=x;simp only[HB] at h
  by_cases hk:i=k
  · subst hk;simp at h;subst h;simp
  · have:(i==k)=false:=by simpa using hk
    rw[this] at h;exact FV _ (ih h)
theorem cE(hca:bA ops al=true){i:Nat}{y:Nat×Ab×List A2}(h:al.lookup i=some y):
 (∀e∈(ops.getD i default).after,Region.binds .any e=false)/\i<ops.size/\(ops.getD i default).guard=none/\(ops.getD i default).dst=some y.1/\True/\
 ∀k,k<ops.size->k≠i->(ops.getD k default).dst≠some y.1:=by
 have D:=PD h;unfold bA at hca;have:=Bb.1 hca _ D;simp only[Ap,CH,beq_iff_eq,Array.all_eq_true',Bb,C3,Eb,bne_iff_ne,D6,Option.isNone_iff_eq_none] at this;obtain⟨⟨⟨⟨h1,h2⟩,h3⟩,M⟩,J⟩:=this;exact⟨h1,h2,h3,M,AW,λk H C=>(J k H).resolve_left C⟩
theorem oK{i:Nat}(hi:i<ops.size):ops[i]?=some (ops.getD i default):=by
 simp[EG,hi]
theorem aB(hca:bA ops al=true){base listed:Array Bool}{pend:List Nat}{e:List (Nat×A2)}{L:List AG}{h:A4}{X:List (Nat×Nat)}{a:Av}{w:AP}(I:Gr P n w0 h0 ops R al base pend e L h X listed a w){i:Nat}(hi:i∈pend)
    (hX:i ∉ X.map (·.1)):i∈Region.ready .any ops listed:=by
 obtain⟨y,hy,_⟩:=I.pe i hi;obtain⟨H,c2,_⟩:=cE hca hy;exact mem_ready.2 ⟨(I.rel.unlisted i).2 ⟨by
  have:=I.pb i hi;have J:=I.rel.1;simp only[EG] at this ⊢;rw[Array.getElem?_eq_getElem A3] at this ⊢
  simpa using this,hX⟩,_,oK c2,λe D C=>by rw[H e D] at C;cases C⟩
theorem Ub(hal:uY P n ops al)(hca:bA ops al=true){base listed:Array Bool}{pend:List Nat}{e:List (Nat×A2)}{L:List AG}{h:A4}{X:List (Nat×Nat)}{a:Av}{w:AP}(I:Gr P n w0 h0 ops R al base pend e L h X listed a w){j:Nat}(hj:j∈pend)
    (hX:j ∉ X.map (·.1)):qY P ops (ops.getD j default) a w λv w'=>FB w0 h0 R h w'/\∃b,Gr P n w0 h0 ops R al base pend e L h ((j,b)::X) (listed.setIfInBounds j true) (a.put (ops.getD j default).dst v) w':=by
 obtain⟨y,hy,ab⟩:=I.pe j hj;obtain⟨c1,c2,c3,c4,c5,c6⟩:=cE hca hy;obtain⟨hd,hz,_⟩:=hal _ (PD hy);have C:=hz a w;simp only at C;unfold qY;rw[AC (by unfold Region.wanted;rw[c3]),C];have U:=I.st.alloc (.cells (Am y.2.2) y.2.1);have H:(.blk w.heap.size (.cells (Am y.2.2) y.2.1)::(L++oU al X)).Perm (L++oU al ((j,w.heap.size)::X)):=by
  have:oU al ((j,w.heap.size)::X)=.blk w.heap.size (.cells (Am y.2.2) y.2.1)::oU al X:=by
   simp only[oU,Dx,hy]
  rw[this];exact J2.symm
 refine⟨⟨_,h,MLe.refl h,λr hr=>?_,U⟩,w.heap.size,?_⟩
 · exact FV _ (I8 _ (I.sub r hr))
 · have D:∀t,t≠y.1->(a.put (ops.getD j default).dst (Hg (ops.getD j default).op w.heap.size)).tmps[t]?=a.tmps[t]?:=by
    intro t M;rw[c4];simp only[Av.put];rw[Ry (Ne.symm M)]
   refine⟨⟨I.env.defers|>λhh=>by rw[c4];exact hh,by rw[c4];simp[Av.put,I.env.size],λt v M=>?_⟩,U.perm H,I.sub,⟨I.rel.1,by rw[I.rel.2,li];rfl⟩,?_,?_,I.pe,I.pb,I.cl.set (aB hca I hj hX)⟩
   · have:t≠y.1:=λZ=>by rw[Z,ab] at M;cases M
     rw[D t this];exact I.env.get t v M
   · intro p hp
     rcases BY.1 hp with rfl|hp
     · refine⟨hj,y,hy,?_⟩
       rw[c4];simp[Av.put,I.env.size,hd]
     · obtain⟨h1,y',J,h2⟩:=I.xp p hp
       refine⟨h1,y',J,?_⟩;have aa:p.1≠j:=λZ=>hX (Z▸Ls hp);obtain⟨_,d2,_,d4,_,_⟩:=cE hca J;have:y'.1≠y.1:=λZ=>c6 p.1 d2 aa (by rw[d4,Z]);rw[D _ this];exact h2
   · simp only[Dx,List.nodup_cons]
     exact⟨hX,I.nd⟩
def E8(P:D)(n:Nat)(w0:AP)(h0:A4)(ops:Array AY)(Q:BH->Av->AP->Prop)(R:List AG)(al:Co)(m:Nat)(base:Array Bool)(pend:List Nat)(e:List (Nat×A2))(L:List AG)(h:A4):Prop:=
 ∀fuel X listed a w,Gr P n w0 h0 ops R al base pend e L h X listed a w->Gt ops listed<=fuel->RA P ops (FM m (FB w0 h0 R h)) (λa w=>Q .normal a w) fuel listed a w
theorem N1{listed:Array Bool}{i:Nat}(hi:i<ops.size)(hl:listed.getD i true=false):0<Gt ops listed:=by
 have:=mC hi hl;omega
theorem mY{listed:Array Bool}{i:Nat}(h:i∈Region.ready .any ops listed):i<ops.size/\listed.getD i true=false:=
 let ⟨h1,_,ho,_⟩:=mem_ready.1 h
 ⟨(Eo.1 ho).1,h1⟩
theorem Gr.next(hca:bA ops al=true){base listed:Array Bool}{pend:List Nat}{e:List (Nat×A2)}{L L':List AG}{h h':A4}{X:List (Nat×Nat)}{a:Av}{w w':AP}(I:Gr P n w0 h0 ops R al base pend e L h X listed a w){i:Nat}(hi:i<ops.size)(hir:i∈Region.ready .any ops listed)(hip:i ∉ pend)
    (hd:∀d,(ops.getD i default).dst=some d->d<n)(hR:∀r∈R,r∈L')(S:St w0 h0 (L'++oU al X) h' w')(v:A2):
    Gr P n w0 h0 ops R al (base.setIfInBounds i true) pend (Ef e (ops.getD i default).dst v) L' h' X (listed.setIfInBounds i true) (a.put (ops.getD i default).dst v) w':=by
 have H:∀k∈pend,∀y,al.lookup k=some y->(ops.getD i default).dst≠some y.1:=λk C y hy=>(cE hca hy).2.2.2.2.2 i hi (λD=>hip (by rw[D];exact C));refine⟨?_,S,hR,⟨by simpa using I.rel.1,by rw[I.rel.2,hT]⟩,?_,I.nd,?_,?_,I.cl.set hir⟩
 · cases hdst:(ops.getD i default).dst with
   |none=>exact I.env
   |some d=>exact I.env.put (hd d hdst)
 · intro p M
   obtain⟨h1,y,hy,h2⟩:=I.xp p M;refine⟨h1,y,hy,?_⟩;have:=H p.1 h1 y hy
   cases hdst:(ops.getD i default).dst with
   |none=>exact h2
   |some d=>
    rw[hdst] at this;simp only[Av.put];rw[Ry (λD=>this (by rw[D]))];exact h2
 · intro k C
   obtain⟨y,hy,J⟩:=I.pe k C;refine⟨y,hy,?_⟩;have:=H k C y hy
   cases hdst:(ops.getD i default).dst with
   |none=>exact J
   |some d=>
    rw[hdst] at this;simp only[Ef,HB];have h3:(y.1==d)=false:=by simp only[beq_eq_false_iff_ne];exactλD=>this (by rw[D])
    rw[h3];exact J
 · intro k C
   rw[getD_set_ne true (λD=>hip (by rw[D];exact C))];exact I.pb k C
theorem lO(hal:uY P n ops al)(hca:bA ops al=true){base:Array Bool}{pend:List Nat}{e:List (Nat×A2)}{L:List AG}{h:A4}(opts:List Nat)(ho:opts≠[])(hr:Region.ready .any ops (Bt base pend)=opts)
    (hop:∀i∈opts,i<m/\i ∉ pend)(W1:Nat->List (Nat×A2)->List AG->A4->Prop)(hst:∀i∈opts,qP P n w0 h0 ops R (ops.getD i default) e L h (W1 i))
    (hgo:∀i∈opts,∀e' L' h',W1 i e' L' h'->E8 P n w0 h0 ops Q R al m (base.setIfInBounds i true) pend e' L' h'):E8 P n w0 h0 ops Q R al m base pend e L h:=by
 intro fuel
 induction fuel with
 |zero=>
  intro X listed a w I hrem
  exfalso
  have hnil:=mX (ops:=ops) (listed:=listed) A3
  by_cases hall:∃p∈pend,p ∉ X.map (·.1)
  · obtain⟨p,hp,hpX⟩:=hall
    have:=aB hca I hp hpX;rw[hnil] at this;cases this
  · obtain⟨i,hi⟩:=List.exists_mem_of_ne_nil _ ho
    have h1:i∈Region.ready .any ops (Bt base pend):=by rw[hr];exact hi
    have h2:=pV I.rel.1 h1 (Y:=X.map (·.1)) (λp hp=>C7 λhc=>hall ⟨p,hp,hc⟩) (λhiX=>by
     obtain⟨p,hp,rfl⟩:=Cp.1 hiX;exact(hop _ hi).2 (I.xp p hp).1)
    rw[<-I.rel.2,hnil] at h2;cases h2
 |succ fuel ih=>
  intro X listed a w I hrem;have hne:Region.ready .any ops listed≠[]:=by
   by_cases hall:∃p∈pend,p ∉ X.map (·.1)
   · obtain⟨p,hp,hpX⟩:=hall
     have:=aB hca I hp hpX;intro hnil;rw[hnil] at this;cases this
   · obtain⟨i,hi⟩:=List.exists_mem_of_ne_nil _ ho
     have h1:i∈Region.ready .any ops (Bt base pend):=by rw[hr];exact hi
     have h2:=pV I.rel.1 h1 (Y:=X.map (·.1)) (λp hp=>C7 λhc=>hall ⟨p,hp,hc⟩) (λhiX=>by
      obtain⟨p,hp,rfl⟩:=Cp.1 hiX;exact(hop _ hi).2 (I.xp p hp).1)
     rw[<-I.rel.2] at h2;intro hnil;rw[hnil] at h2;cases h2
  refine⟨λhnil=>absurd hnil hne,λj hj o hoj=>?_⟩;obtain⟨hjs,hjun⟩:=mY hj;have hjo:o=ops.getD j default:=by rw[oK hjs] at hoj;exact(Option.some.inj hoj).symm
  subst hjo;have hrem':=mC hjs hjun
  by_cases hjp:j∈pend
  · have hjX:=((I.rel.unlisted j).1 hjun).2
    refine(Ub hal hca I hjp hjX).mono λv w' ⟨hD,b,I'⟩=>⟨.inl hD,ih _ _ _ _ I' A3⟩
  · have h1:j∈Region.ready .any ops (Bt base pend):=by
     rw[I.rel.2] at hj;exact pV I.rel.1 hj (λp hp=>by obtain⟨q,hq,rfl⟩:=Cp.1 hp;exact(I.xp q hq).1) hjp
    rw[hr] at h1;refine(hst j h1 (oU al X) a w I.env I.st).mono λv w' ⟨hd,L',h',hh,hR0,S,hW⟩=>?_;have hR:=hR0 I.sub;refine⟨.inl ⟨_,h',hh,λr hr=>I8 _ (hR r hr),S⟩,?_⟩;refine RA.mono (λl w hc=>hc.imp (FB.mono hh) id) (hgo j h1 _ _ _ hW fuel X _ _ w' (I.next hca hjs hj hjp hd hR S v) A3)
theorem YS(D:AP->Prop):∀(ord:List (Nat×Kd)) (base:Array Bool) (e:List (Nat×A2)) (L:List AG) (h:A4),(ord.all λx=>match x.2 with| .t=>true|_=>false)=true->C0 ops m ord base []=true->
 W P n w0 h0 ops Q R al ord e L h->∀fuel a w,Bp n e a->St w0 h0 L h w->base.size=ops.size->Gt ops base<=fuel->RA P ops (FM m D) (λa w=>Q .normal a w) fuel base a w
 |[],base,e,L,h,_,hc,hW,fuel,a,w,E,S,_,_=>by
  have hr:Region.ready .any ops base=[]:=by simpa[C0] using hc
  cases fuel with
  |zero=>exact⟨hr,hW a w E S⟩
  |succ fuel=>exact⟨λ_=>hW a w E S,λi hi=>by rw[hr] at hi;cases hi⟩
 |(i,.t)::r,base,e,L,h,ht,hc,hW,fuel,a,w,E,S,hs,hrem=>by
  simp only[C0,Ap,beq_iff_eq,CH] at hc;obtain⟨⟨⟨⟨_,U⟩,aa⟩,hr⟩,ad⟩:=hc;have ac:i∈Region.ready .any ops base:=by rw[hr];simp
  obtain⟨C,H⟩:=mY ac;have hp:=N1 C H
  cases fuel with
  |zero=>omega
  |succ fuel=>
   refine⟨λM=>absurd (hr.symm.trans M) B9,λj hj o J=>?_⟩;rw[hr] at hj;obtain rfl:j=i:=by simpa using hj
   have ab:o=ops.getD j default:=by rw[oK C] at J;exact(Option.some.inj J).symm
   subst ab;have Z:=mC C H;refine(hW a w E S).mono λv w' ⟨hd,L',h',S',ae⟩=>⟨.inr ⟨j,aa,?_⟩,?_⟩
   · simp[EG,hs,C]
   · refine YS D r _ _ L' h' U ad ae fuel _ w' ?_ S' (by simpa using hs) A3
     cases hdst:(ops.getD j default).dst with
     |none=>exact E
     |some d=>exact E.put (hd d hdst)
 |(_,.q)::_,_,_,_,_,ht,_,_,_,_,_,_,_,_,_=>by simp at ht
 |(_,.a)::_,_,_,_,_,ht,_,_,_,_,_,_,_,_,_=>by simp at ht
 |(_,.c)::_,_,_,_,_,ht,_,_,_,_,_,_,_,_,_=>by simp at ht
 |(_,.b _)::_,_,_,_,_,ht,_,_,_,_,_,_,_,_,_=>by simp at ht
 |(_,.p)::_,_,_,_,_,ht,_,_,_,_,_,_,_,_,_=>by simp at ht
 |(_,.d _ _)::_,_,_,_,_,ht,_,_,_,_,_,_,_,_,_=>by simp at ht
theorem aJ(hal:uY P n ops al)(hca:bA ops al=true){base:Array Bool}{pend:List Nat}{e:List (Nat×A2)}{L:List AG}{h:A4}{k:Nat}{K:List (Nat×A2)->List AG->A4->Prop}(hkm:k<m)(hkp:k ∉ pend)(hr:Region.ready .any ops (Bt base pend)=[k])
    (hK:∀e L h,K e L h->E8 P n w0 h0 ops Q R al m (base.setIfInBounds k true) pend e L h)(hW:qP P n w0 h0 ops R (ops.getD k default) e L h K):E8 P n w0 h0 ops Q R al m base pend e L h:=by
 refine lO hal hca [k] B9 hr ?_ (λ_=>K) ?_ ?_
 · intro l C
   obtain rfl:l=k:=by simpa using C
   exact⟨hkm,hkp⟩
 · intro l C
   obtain rfl:l=k:=by simpa using C
   exact hW
 · intro l C H L' h' D
   obtain rfl:l=k:=by simpa using C
   exact hK H L' h' D
theorem Li(hal:uY P n ops al)(hca:bA ops al=true){base:Array Bool}{pend:List Nat}{e:List (Nat×A2)}{L:List AG}{h:A4}{k l:Nat}{K K':List (Nat×A2)->List AG->A4->Prop}(hkm:k<m)(hkp:k ∉ pend)(hlm:l<m)(hlp:l ∉ pend)(hkl:k≠l)(hr:Region.ready .any ops (Bt base pend)=[k,l])
    (hK:∀e L h,K e L h->E8 P n w0 h0 ops Q R al m (base.setIfInBounds k true) pend e L h)(hK':∀e L h,K' e L h->E8 P n w0 h0 ops Q R al m (base.setIfInBounds l true) pend e L h)
    (hW:qP P n w0 h0 ops R (ops.getD k default) e L h K)(hW':qP P n w0 h0 ops R (ops.getD l default) e L h K'):E8 P n w0 h0 ops Q R al m base pend e L h:=by
 refine lO hal hca [k,l] B9 hr ?_ (λx=>if x=k then K else K') ?_ ?_
 · intro x hx
   rcases BY.1 hx with rfl|hx
   · exact⟨hkm,hkp⟩
   · obtain rfl:x=l:=by simpa using hx
     exact⟨hlm,hlp⟩
 · intro x hx
   rcases BY.1 hx with rfl|hx
   · simp only[if_true];exact hW
   · obtain rfl:x=l:=by simpa using hx
     simp only[A8 (Ne.symm hkl)];exact hW'
 · intro x hx D L' h' C
   rcases BY.1 hx with rfl|hx
   · simp only[if_true] at C;exact hK D L' h' C
   · obtain rfl:x=l:=by simpa using hx
     simp only[A8 (Ne.symm hkl)] at C;exact hK' D L' h' C
theorem k6(hal:uY P n ops al)(hca:bA ops al=true){pend:List Nat}{KW:List (Nat×A2)->List AG->A4->Prop}{KB:Array Bool->Bool}
    (fin:∀base e L h,KB base=true->(∀k,m<=k->base.getD k false=false)->KW e L h->E8 P n w0 h0 ops Q R al m base pend e L h):∀(k:Nat) (A B:List Nat) (base:Array Bool) (e:List (Nat×A2)) (L:List AG) (h:A4),
    FN ops m pend KB k A B base=true->(∀k,m<=k->base.getD k false=false)->WM P n w0 h0 ops R KW k A B e L h->E8 P n w0 h0 ops Q R al m base pend e L h:=by
 have nx:∀(base:Array Bool) (i:Nat),i<m->(∀k,m<=k->base.getD k false=false)->∀k,m<=k->(base.setIfInBounds i true).getD k false=false:=λbase i hi hb k hk=>by
  rw[getD_set_ne false A3];exact hb k hk
 intro k
 induction k with
 |zero=>
  intro A B base e L h hc hb hw
  cases A<;>cases B
  · exact fin base e L h (by simpa[FN] using hc) hb (by simpa[WM] using hw)
  all_goals (simp[FN] at hc)
 |succ k ih=>
  intro A B base e L h hc hb hw
  cases A with
  |nil=>
   cases B with
   |nil=>exact fin base e L h (by simpa[FN] using hc) hb (by simpa[WM] using hw)
   |cons j B=>
    simp only[FN,Ap,beq_iff_eq,CH,D6,Eu,DH] at hc;obtain⟨⟨⟨m1,p1⟩,r1⟩,hc'⟩:=hc;exact aJ hal hca m1 p1 r1 (λe L h hw'=>ih [] B _ e L h hc' (nx base j m1 hb) hw') (by simpa only[WM] using hw)
  |cons i A=>
   cases B with
   |nil=>
    simp only[FN,Ap,beq_iff_eq,CH,D6,Eu,DH] at hc;obtain⟨⟨⟨m1,p1⟩,r1⟩,hc'⟩:=hc;exact aJ hal hca m1 p1 r1 (λe L h hw'=>ih A [] _ e L h hc' (nx base i m1 hb) hw') (by simpa only[WM] using hw)
   |cons j B=>
    simp only[FN,Ap,beq_iff_eq,CH,D6,Eu,DH] at hc;obtain⟨⟨⟨⟨⟨⟨m1,p1⟩,⟨m2,p2⟩⟩,n12⟩,r1⟩,hc1⟩,hc2⟩:=hc;simp only[WM] at hw;exact Li hal hca m1 p1 m2 p2 n12 r1 (λe L h hw'=>ih A (j::B) _ e L h hc1 (nx base i m1 hb) hw') (λe L h hw'=>ih (i::A) B _ e L h hc2 (nx base j m2 hb) hw') hw.1 hw.2
theorem XV{base listed:Array Bool}{e:List (Nat×A2)}{L:List AG}{h:A4}{X:List (Nat×Nat)}{a:Av}{w:AP}(I:Gr P n w0 h0 ops R al base [] e L h X listed a w):X=[]:=by
 cases X with
 |nil=>rfl
 |cons p X=>exact absurd (I.xp p B9).1 B9
theorem Xr(hal:uY P n ops al)(hca:bA ops al=true){i:Nat}(r:List (Nat×Kd))(base:Array Bool)(pend:List Nat)(e:List (Nat×A2))(L:List AG)(h:A4)
  (IH:∀(base:Array Bool) (pend:List Nat) (e:List (Nat×A2)) (L:List AG) (h:A4),C0 ops m r base pend=true->(∀k,m<=k->base.getD k false=false)->(∀i∈pend,i<m)->W P n w0 h0 ops Q R al r e L h->E8 P n w0 h0 ops Q R al m base pend e L h)
  (hc':C0 ops m r (base.setIfInBounds i true) (pend.filter (· != i))=true)(hip:i∈pend)(hnl:∀k,m<=k->base.getD k false=false)(hpm:∀i∈pend,i<m)(hW:W P n w0 h0 ops Q R al ((i,.a)::r) e L h)
    (fuel:Nat)(X:List (Nat×Nat))(listed:Array Bool)(a:Av)(w:AP)(I:Gr P n w0 h0 ops R al base pend e L h X listed a w)(hrem:Gt ops listed<=fuel)(hiX:i∈X.map (·.1)):RA P ops (FM m (FB w0 h0 R h)) (λa w=>Q .normal a w) fuel listed a w:=by
  obtain⟨p,hp,ah⟩:=Cp.1 hiX;obtain⟨J,H,rfl⟩:=N8 hp;obtain⟨_,y,hy,aa⟩:=I.xp p hp;subst ah;have M:=I.nd;simp only[FK,Dx] at M;rw[List.nodup_append] at M;obtain⟨n1,n2,n3⟩:=M;rw[List.nodup_cons] at n2;have ab:∀q∈J++H,q.1≠p.1:=by
   intro q D he
   rcases Cy.1 D with D|D
   · exact n3 q.1 (Ls D) p.1 B9 he
   · exact n2.1 (he▸Ls D)
  have e1:oU al (J++p::H)=oU al J++.blk p.2 (.cells (Am y.2.2) y.2.1)::oU al H:=by
   simp only[oU,FK,Dx,hy]
  have e2:oU al (J++H)=oU al J++oU al H:=by simp[oU]
  have ad:∀(L2:List AG) (h2:A4),MLe h h2->(∀r∈R,r∈L2)->St w0 h0 (L2++oU al (J++H)) h2 w->W P n w0 h0 ops Q R al r ((y.1,Hg (ops.getD p.1 default).op p.2)::e) L2 h2->
   RA P ops (FM m (FB w0 h0 R h)) (λa w=>Q .normal a w) fuel listed a w:=by
   intro L2 h2 am ao S2 an;refine RA.mono (λl w hc=>hc.imp (FB.mono am) id) (IH (base.setIfInBounds p.1 true) (pend.filter (· != p.1)) ((y.1,Hg (ops.getD p.1 default).op p.2)::e) L2 h2 hc' (λk hk=>by
    have:=hpm _ hip;rw[getD_set_ne false A3];exact hnl k hk) (λj Z=>hpm j (HU.1 Z).1) an fuel (J++H) listed a w ?_ hrem)
   refine⟨⟨I.env.defers,I.env.size,λt v ht=>?_⟩,S2,ao,⟨by simpa using I.rel.1,?_⟩,?_,?_,?_,?_,I.cl⟩
   · simp only[HB] at ht
     by_cases htd:t=y.1
     · subst htd
       simp at ht aa;rw[<-ht];exact aa
     · have:(t==y.1)=false:=by simpa using htd
       rw[this] at ht;exact I.env.get t v ht
   · rw[I.rel.2]
     apply Mn
     intro k;rw[rG,rG,PW,KI]
     by_cases hk:k<base.size
     · by_cases hkp:p.1=k
       · subst hkp;simp[hk]
       · simp only[FK,Dx,Cy,BY,hk,hkp,Ne.symm hkp,false_or,if_false,and_true]
     · simp[hk]
       omega
   · intro q D
     have ae:q∈J++p::H:=by
      rcases Cy.1 D with h1|h1
      · exact I8 _ h1
      · exact PP _ (FV _ h1)
     obtain⟨h1,h2⟩:=I.xp q ae;exact⟨HU.2 ⟨h1,by simpa using ab q D⟩,h2⟩
   · simp only[FK]
     rw[List.nodup_append];exact⟨n1,n2.2,λx hx y hy=>n3 x hx y (FV _ hy)⟩
   · intro j Z
     obtain⟨h1,h2⟩:=HU.1 Z;obtain⟨z,hz,hl⟩:=I.pe j h1;refine⟨z,hz,?_⟩;simp only[HB];have ai:(z.1==y.1)=false:=by
      simp only[beq_eq_false_iff_ne];intro he;obtain⟨_,d2,_,d4,_,_⟩:=cE hca hz;have U:j≠p.1:=by simpa using h2
      exact(cE hca hy).2.2.2.2.2 j d2 U (by rw[d4,he])
     rw[ai];exact hl
   · intro j Z
     obtain⟨h1,h2⟩:=HU.1 Z;have U:j≠p.1:=by simpa using h2
     rw[getD_set_ne true (Ne.symm U)];exact I.pb j h1
  have C:=I.st;rw[e1] at C;have hw:=hW y.1 y.2.1 y.2.2 p.2 hy
  cases hs:I9 (ops.getD p.1 default).op with
  |none=>
   rw[hs] at hw;refine ad _ h (MLe.refl h) (λr hr=>FV _ (I.sub r hr)) (C.perm ?_) (by unfold Hg;rw[hs];exact hw);rw[e2,<-Ck];refine J2.trans ?_;simp only[Fs,Ck];exact List.Perm.refl _
  |some len=>
   rw[hs] at hw;have hm:w.heap[p.2]?=some (.cells (Am y.2.2) y.2.1):=C.ok (.blk p.2 (.cells (Am y.2.2) y.2.1)) B9;rw[<-Ck] at C;obtain⟨S2,ac⟩:=C.freeze (b:=p.2) rfl hm;obtain⟨ak,aj⟩:=(hal _ (PD hy)).2.2 len hs;simp only at ak;refine ad L _ ac I.sub (by rw[e2,<-Ck];exact S2) (by unfold Hg;rw[hs];exact hw _ ac ⟨_,_,rfl,B1 _,aj,A3,λj Z=>⟨p.2,0,rfl,by simp[cell]⟩⟩)
theorem Mi(hsel:Region.noSelect ops=true)(hca:bA ops al=true){pend:List Nat}{i:Nat}{base:Array Bool}{e:List (Nat×A2)}{L:List AG}{h:A4}{K:List (Nat×A2)->List AG->A4->Prop}(hpm:∀i∈pend,i<m)(hc:Hx ops m pend i base=true)(hnl:∀k,m<=k->base.getD k false=false)
    (hW:SQ P n w0 h0 ops R i e L h K)(fin:∀e L h,K e L h->E8 P n w0 h0 ops Q R al m (base.setIfInBounds i true) pend e L h):E8 P n w0 h0 ops Q R al m base pend e L h:=by
 intro C X listed a w I ap;simp only[Hx,Ap,CH,D6,Eu,DH] at hc;obtain⟨⟨⟨⟨ak,aj⟩,U⟩,Z⟩,M⟩:=hc;obtain⟨v,⟨⟨d,hd,an⟩,hq⟩,ao⟩:=hW;have am:i ∉ X.map (·.1):=λhx=>by
  obtain⟨p,hp,rfl⟩:=Cp.1 hx;exact Z (I.xp p hp).1
 have H:i∈Region.ready .any ops listed:=by
  have h1:i∈Region.ready .any ops (Bt base []):=by simpa[Bt] using aj
  rw[I.rel.2];exact pV I.rel.1 h1 nX am
 obtain⟨D,J⟩:=mY H;have hp:=N1 D J;have ac:=mC D J
 cases C with
 |zero=>omega
 |succ C=>
  have hD:FB w0 h0 R h w:=⟨_,h,MLe.refl h,λr hr=>I8 _ (I.sub r hr),I.st⟩;refine RA.first (oK D) hsel ak ?_ C listed a w I.cl (by rw[I.rel.2,mB];exact I.rel.1) hD ?_ ?_ H (λw' ⟨L',h',a1,a2,a3⟩=>hq h' L' a w' a1 a2 I.env a3) ?_
  · intro k hk ah
    have:=Bb.1 M k (by simpa using ah);simp only[Eb,CH] at this;exact this.resolve_left A3
  · intro k hk
    cases hl:listed.getD k false with
    |false=>rfl
    |true=>
     rcases(I.rel.listed k).1 hl with h1|⟨h1,_⟩
     · rw[hnl k hk] at h1;cases h1
     · obtain⟨p,hp,rfl⟩:=Cp.1 h1
       have:=hpm _ (I.xp p hp).1;omega
  · intro j oj ad ai ab ae
    exact Region.free_spec (oK D) U j oj ad ai ((I.rel.unlisted j).1 ab).1 ae
  · refine fin _ L h ao C X _ _ w ?_ A3
    exact I.next hca D H Z (λd' aa=>by rw[hd] at aa;cases aa;exact an) I.sub I.st v
theorem iz(hsel:Region.noSelect ops=true)(hal:uY P n ops al)(hca:bA ops al=true){pend Qs:List Nat}(hpm:∀i∈pend,i<m){KW:List (Nat×A2)->List AG->A4->Prop}{KB:Array Bool->Bool}
    (fin:∀base e L h,KB base=true->(∀k,m<=k->base.getD k false=false)->KW e L h->E8 P n w0 h0 ops Q R al m base pend e L h):∀(k:Nat) (A B:List Nat) (base:Array Bool) (e:List (Nat×A2)) (L:List AG) (h:A4),
    oQ ops m pend Qs KB k A B base=true->(∀k,m<=k->base.getD k false=false)->WX P n w0 h0 ops R Qs KW k A B e L h->E8 P n w0 h0 ops Q R al m base pend e L h:=by
 have nx:∀(base:Array Bool) (i:Nat),i<m->(∀k,m<=k->base.getD k false=false)->∀k,m<=k->(base.setIfInBounds i true).getD k false=false:=λbase i hi hb k hk=>by
  rw[getD_set_ne false A3];exact hb k hk
 have qm:∀{i base},Hx ops m pend i base=true->i<m:=λhc=>by
  simp only[Hx,Ap,CH] at hc;exact hc.1.1.1.1
 intro k
 induction k with
 |zero=>
  intro A B base e L h hc hb hw
  cases A<;>cases B
  · exact fin base e L h (by simpa[oQ] using hc) hb (by simpa[WX] using hw)
  all_goals (simp[oQ] at hc)
 |succ k ih=>
  intro A B base e L h hc hb hw
  cases A with
  |nil=>
   cases B with
   |nil=>exact fin base e L h (by simpa[oQ] using hc) hb (by simpa[WX] using hw)
   |cons j B=>
    cases hq:Qs.contains j with
    |true=>
     simp only[oQ,WX,hq,cond_true,Ap] at hc hw;exact Mi hsel hca hpm hc.1 hb hw λe L h hw'=>ih [] B _ e L h hc.2 (nx base j (qm hc.1) hb) hw'
    |false=>
     simp only[oQ,WX,hq,cond_false,Ap,beq_iff_eq,CH,D6,Eu,DH] at hc hw;obtain⟨⟨⟨m1,p1⟩,r1⟩,hc'⟩:=hc;exact aJ hal hca m1 p1 r1 (λe L h hw'=>ih [] B _ e L h hc' (nx base j m1 hb) hw') hw
  |cons i A=>
   cases B with
   |nil=>
    cases hq:Qs.contains i with
    |true=>
     simp only[oQ,WX,hq,cond_true,Ap] at hc hw;exact Mi hsel hca hpm hc.1 hb hw λe L h hw'=>ih A [] _ e L h hc.2 (nx base i (qm hc.1) hb) hw'
    |false=>
     simp only[oQ,WX,hq,cond_false,Ap,beq_iff_eq,CH,D6,Eu,DH] at hc hw;obtain⟨⟨⟨m1,p1⟩,r1⟩,hc'⟩:=hc;exact aJ hal hca m1 p1 r1 (λe L h hw'=>ih A [] _ e L h hc' (nx base i m1 hb) hw') hw
   |cons j B=>
    cases hq:Qs.contains i with
    |true=>
     simp only[oQ,WX,hq,cond_true,Ap] at hc hw;exact Mi hsel hca hpm hc.1 hb hw λe L h hw'=>ih A (j::B) _ e L h hc.2 (nx base i (qm hc.1) hb) hw'
    |false=>
     cases hq2:Qs.contains j with
     |true=>
      simp only[oQ,WX,hq,hq2,cond_true,cond_false,Ap] at hc hw;exact Mi hsel hca hpm hc.1 hb hw λe L h hw'=>ih (i::A) B _ e L h hc.2 (nx base j (qm hc.1) hb) hw'
     |false=>
      simp only[oQ,WX,hq,hq2,cond_false,Ap,Eb,beq_iff_eq,CH,D6,Eu,DH] at hc hw;obtain⟨⟨⟨⟨⟨⟨m1,p1⟩,⟨m2,p2⟩⟩,n12⟩,r1⟩,hc1⟩,hc2⟩:=hc
      rcases r1 with r1|r1
      · exact Li hal hca m1 p1 m2 p2 n12 r1 (λe L h hw'=>ih A (j::B) _ e L h hc1 (nx base i m1 hb) hw') (λe L h hw'=>ih (i::A) B _ e L h hc2 (nx base j m2 hb) hw') hw.1 hw.2
      · exact Li hal hca m2 p2 m1 p1 (Ne.symm n12) r1 (λe L h hw'=>ih (i::A) B _ e L h hc2 (nx base j m2 hb) hw') (λe L h hw'=>ih A (j::B) _ e L h hc1 (nx base i m1 hb) hw') hw.2 hw.1
theorem Fb(hsel:Region.noSelect ops=true)(hal:uY P n ops al)(hca:bA ops al=true):∀(ord:List (Nat×Kd)) (base:Array Bool) (pend:List Nat) (e:List (Nat×A2)) (L:List AG) (h:A4),C0 ops m ord base pend=true->(∀k,m<=k->base.getD k false=false)->(∀i∈pend,i<m)->
 W P n w0 h0 ops Q R al ord e L h->E8 P n w0 h0 ops Q R al m base pend e L h
 |[],base,pend,e,L,h,hc,_,_,hW=>by
  intro fuel X listed a w I hrem;simp only[C0,Ap,List.isEmpty_iff] at hc;obtain⟨rfl,hr⟩:=hc;have hX:=XV I;subst hX;have hl:listed=base:=I.rel.2;subst hl;have S:=I.st;simp only[oU,Jw,Ce] at S
  cases fuel with
  |zero=>exact⟨hr,hW a w I.env S⟩
  |succ fuel=>exact⟨λ_=>hW a w I.env S,λi hi=>by rw[hr] at hi;cases hi⟩
 |(i,.t)::r,base,pend,e,L,h,hc,_,_,hW=>by
  intro fuel X listed a w I hrem;have hc0:=hc;simp only[C0,Ap,List.isEmpty_iff] at hc;obtain⟨⟨⟨⟨rfl,hrt⟩,_⟩,_⟩,_⟩:=hc;have hX:=XV I;subst hX;have hl:listed=base:=I.rel.2;subst hl;have S:=I.st;simp only[oU,Jw,Ce] at S;exact YS _ _ _ _ _ _ (by simpa using hrt) hc0 hW fuel a w I.env S I.rel.1 hrem
 |(i,.c)::r,base,pend,e,L,h,hc,hnl,hpm,hW=>by
  simp only[C0,Ap,beq_iff_eq,CH,D6,Eu,DH] at hc;obtain⟨⟨⟨him,hip⟩,hr⟩,hc'⟩:=hc;refine lO hal hca [i] B9 hr ?_ (λ_=>W P n w0 h0 ops Q R al r) ?_ ?_
  · intro j hj
    obtain rfl:j=i:=by simpa using hj
    exact⟨him,hip⟩
  · intro j hj
    obtain rfl:j=i:=by simpa using hj
    exact hW
  · intro j hj e' L' h' hW'
    obtain rfl:j=i:=by simpa using hj
    exact Fb hsel hal hca r _ pend e' L' h' hc' (λk hk=>by rw[getD_set_ne false A3];exact hnl k hk) hpm hW'
 |(i,.b j)::r,base,pend,e,L,h,hc,hnl,hpm,hW=>by
  simp only[C0,Ap,beq_iff_eq,CH,D6,Eu,DH] at hc;obtain⟨⟨⟨⟨⟨⟨⟨⟨him,hjm⟩,hip⟩,hjp⟩,hij⟩,hr⟩,hri⟩,hrj⟩,hc'⟩:=hc;obtain⟨hW1,hW2⟩:=hW;refine lO hal hca [i,j] B9 hr (λk hk=>?_) (λk=>if k=i then λe L h=>qP P n w0 h0 ops R (ops.getD j default) e L h (W P n w0 h0 ops Q R al r) else λe L h=>qP P n w0 h0 ops R (ops.getD i default) e L h (W P n w0 h0 ops Q R al r)) (λk hk=>?_) ?_
  · rcases BY.1 hk with rfl|hk
    · exact⟨him,hip⟩
    · obtain rfl:k=j:=by simpa using hk
      exact⟨hjm,hjp⟩
  · rcases BY.1 hk with rfl|hk
    · simp only[if_true];exact hW1
    · obtain rfl:k=j:=by simpa using hk
      simp only[A8 (Ne.symm hij)];exact hW2
  · intro k hk e' L' h' hW'
    rcases BY.1 hk with rfl|hk
    · simp only[if_true] at hW'
      refine lO hal hca [j] B9 hri ?_ (λ_=>W P n w0 h0 ops Q R al r) ?_ ?_
      · intro l hl
        obtain rfl:l=j:=by simpa using hl
        exact⟨hjm,hjp⟩
      · intro l hl
        obtain rfl:l=j:=by simpa using hl
        exact hW'
      intro l hl e2 L2 h2 hW2';obtain rfl:l=j:=by simpa using hl
      exact Fb hsel hal hca r _ pend e2 L2 h2 hc' (λk' hk'=>by rw[getD_set_ne false A3,getD_set_ne false A3];exact hnl k' hk') hpm hW2'
    · obtain rfl:k=j:=by simpa using hk
      simp only[A8 (Ne.symm hij)] at hW';refine lO hal hca [i] B9 hrj ?_ (λ_=>W P n w0 h0 ops Q R al r) ?_ ?_
      · intro l hl
        obtain rfl:l=i:=by simpa using hl
        exact⟨him,hip⟩
      · intro l hl
        obtain rfl:l=i:=by simpa using hl
        exact hW'
      intro l hl e2 L2 h2 hW2';obtain rfl:l=i:=by simpa using hl
      rw[LW _ _ hij] at hc';exact Fb hsel hal hca r _ pend e2 L2 h2 hc' (λk' hk'=>by rw[getD_set_ne false A3,getD_set_ne false A3];exact hnl k' hk') hpm hW2'
 |(i,.d i2 j)::r,base,pend,e,L,h,hc,hnl,hpm,hW=>by
  simp only[C0,Ap,beq_iff_eq,CH,D6,Eu,DH] at hc;obtain⟨⟨⟨⟨⟨⟨⟨⟨⟨⟨⟨⟨m1,m2⟩,m3⟩,p1⟩,p2⟩,p3⟩,⟨⟨n12,n13⟩,n23⟩⟩,r0⟩,ri⟩,rj⟩,rii⟩,rij⟩,hc'⟩:=hc;have fin:∀e L h,W P n w0 h0 ops Q R al r e L h->E8 P n w0 h0 ops Q R al m (D9 (D9 (base.setIfInBounds i true) i2 true) j true) pend e L h:=λe L h hw=>
   Fb hsel hal hca r _ pend e L h hc' (λk hk=>by rw[getD_set_ne false A3,getD_set_ne false A3,getD_set_ne false A3];exact hnl k hk) hpm hw
  have cm:∀(b:Array Bool) {x y:Nat},x≠y->D9 (b.setIfInBounds x true) y true=D9 (b.setIfInBounds y true) x true:=λb x y hxy=>LW _ _ hxy;obtain⟨hA,hB⟩:=hW;refine Li hal hca m1 p1 m3 p3 n13 r0 ?_ ?_ hA hB
  · rintro e L h ⟨h1,h2⟩
    refine Li hal hca m2 p2 m3 p3 n23 ri ?_ ?_ h1 h2
    · intro e L h h3
      exact aJ hal hca m3 p3 rii fin h3
    · intro e L h h3
      refine aJ hal hca m2 p2 rij ?_ h3;intro e L h h4;rw[cm _ (Ne.symm n23)];exact fin e L h h4
  · intro e L h h1
    refine aJ hal hca m1 p1 rj ?_ h1;intro e L h h2;rw[cm _ (Ne.symm n13)];refine aJ hal hca m2 p2 rij ?_ h2;intro e L h h3;rw[cm _ (Ne.symm n23)];exact fin e L h h3
 |(_,.x Qs A B)::r,base,pend,e,L,h,hc,hnl,hpm,hW=>by
  simp only[C0] at hc;exact iz hsel hal hca hpm (KB:=λbase=>C0 ops m r base pend) (λbase e L h hk hb hw=>Fb hsel hal hca r base pend e L h hk hb hpm hw) _ A B base e L h hc hnl hW
 |(_,.m A B)::r,base,pend,e,L,h,hc,hnl,hpm,hW=>by
  simp only[C0] at hc;exact k6 hal hca (KB:=λbase=>C0 ops m r base pend) (λbase e L h hk hb hw=>Fb hsel hal hca r base pend e L h hk hb hpm hw) _ A B base e L h hc hnl hW
 |(i,.q)::r,base,pend,e,L,h,hc,hnl,hpm,hW=>by
  intro fuel X listed a w I hrem;simp only[C0,Ap,CH,D6,Eu,DH] at hc;obtain⟨⟨⟨⟨⟨him,hir⟩,hfree⟩,hip⟩,hlast⟩,hc'⟩:=hc;obtain⟨v,⟨⟨d,hd,hdn⟩,hq⟩,hW'⟩:=hW;have hiX:i ∉ X.map (·.1):=λhx=>by
   obtain⟨p,hp,rfl⟩:=Cp.1 hx;exact hip (I.xp p hp).1
  have hir':i∈Region.ready .any ops listed:=by
   have h1:i∈Region.ready .any ops (Bt base []):=by simpa[Bt] using hir
   rw[I.rel.2];exact pV I.rel.1 h1 nX hiX
  obtain⟨his,hiun⟩:=mY hir';have hp:=N1 his hiun;have hrem':=mC his hiun
  cases fuel with
  |zero=>omega
  |succ fuel=>
   have hD:FB w0 h0 R h w:=⟨_,h,MLe.refl h,λr hr=>I8 _ (I.sub r hr),I.st⟩;refine RA.first (oK his) hsel him ?_ fuel listed a w I.cl (by rw[I.rel.2,mB];exact I.rel.1) hD ?_ ?_ hir' (λw' ⟨L',h',a1,a2,a3⟩=>hq h' L' a w' a1 a2 I.env a3) ?_
   · intro k hk hks
     have:=Bb.1 hlast k (by simpa using hks);simp only[Eb,CH] at this;exact this.resolve_left A3
   · intro k hk
     cases hl:listed.getD k false with
     |false=>rfl
     |true=>
      rcases(I.rel.listed k).1 hl with h1|⟨h1,_⟩
      · rw[hnl k hk] at h1;cases h1
      · obtain⟨p,hp,rfl⟩:=Cp.1 h1
        have:=hpm _ (I.xp p hp).1;omega
   · intro j oj hoj hji hun hno
     exact Region.free_spec (oK his) hfree j oj hoj hji ((I.rel.unlisted j).1 hun).1 hno
   · refine Fb hsel hal hca r _ pend _ L h hc' (λk hk=>by rw[getD_set_ne false A3];exact hnl k hk) hpm hW' fuel X _ _ w ?_ A3
     exact I.next hca his hir' hip (λd' hd'=>by rw[hd] at hd';cases hd';exact hdn) I.sub I.st v
 |(i,.p)::r,base,pend,e,L,h,hc,hnl,hpm,hW=>by
  intro fuel X listed a w I hrem;simp only[C0,Ap,CH,D6,Eu,DH] at hc;obtain⟨⟨⟨⟨him,hir⟩,hfree⟩,hip⟩,hc'⟩:=hc;obtain⟨v,⟨⟨d,hd,hdn⟩,hq⟩,hW'⟩:=hW;have hiX:i ∉ X.map (·.1):=λhx=>by
   obtain⟨p,hp,rfl⟩:=Cp.1 hx;exact hip (I.xp p hp).1
  have hir':i∈Region.ready .any ops listed:=by
   have h1:i∈Region.ready .any ops (Bt base []):=by simpa[Bt] using hir
   rw[I.rel.2];exact pV I.rel.1 h1 nX hiX
  obtain⟨his,hiun⟩:=mY hir';have hp:=N1 his hiun;have hrem':=mC his hiun
  cases fuel with
  |zero=>omega
  |succ fuel=>
   have hD:FB w0 h0 R h w:=⟨_,h,MLe.refl h,λr hr=>I8 _ (I.sub r hr),I.st⟩;refine RA.pure (oK his) hsel him fuel listed a w (.inl hD) ?_ hir' (λw'=>hq a w' I.env) ?_
   · intro j oj hoj hji hun hno
     exact Region.free_spec (oK his) hfree j oj hoj hji ((I.rel.unlisted j).1 hun).1 hno
   · refine Fb hsel hal hca r _ pend _ L h hc' (λk hk=>by rw[getD_set_ne false A3];exact hnl k hk) hpm hW' fuel X _ _ w ?_ A3
     exact I.next hca his hir' hip (λd' hd'=>by rw[hd] at hd';cases hd';exact hdn) I.sub I.st v
 |(i,.a)::r,base,pend,e,L,h,hc,hnl,hpm,hW=>by
  simp only[C0,Ap,beq_iff_eq,Eu,CH] at hc;obtain⟨⟨hip,hr⟩,hc'⟩:=hc;intro fuel
  induction fuel with
  |zero=>
   intro X listed a w I hrem
   by_cases hiX:i∈X.map (·.1)
   · exact Xr hal hca r base pend e L h (λb p e L h=>Fb hsel hal hca r b p e L h) hc' hip hnl hpm hW 0 X listed a w I hrem hiX
   · exfalso
     have:=aB hca I hip hiX;rw[mX A3] at this
     cases this
  |succ fuel ih=>
   intro X listed a w I hrem
   by_cases hiX:i∈X.map (·.1)
   · exact Xr hal hca r base pend e L h (λb p e L h=>Fb hsel hal hca r b p e L h) hc' hip hnl hpm hW _ X listed a w I hrem hiX
   · have hir:=aB hca I hip hiX
     refine⟨λhnil=>absurd hir (by rw[hnil];simp),λj hj o hoj=>?_⟩;obtain⟨hjs,hjun⟩:=mY hj;have hjo:o=ops.getD j default:=by rw[oK hjs] at hoj;exact(Option.some.inj hoj).symm
     subst hjo;have hrem':=mC hjs hjun;have hjp:j∈pend:=by
      refine C7 λhjp=>?_;have h1:j∈Region.ready .any ops (Bt base (pend.filter (· != i))):=by
       rw[I.rel.2] at hj;refine pV I.rel.1 hj (λp hp=>?_) (λhc=>hjp (HU.1 hc).1);obtain⟨q,hq,rfl⟩:=Cp.1 hp;refine HU.2 ⟨(I.xp q hq).1,?_⟩;simp only[bne_iff_ne];exactλhe=>hiX (he▸Ls hq)
      rw[hr] at h1;obtain rfl:j=i:=by simpa using h1
      exact hjp hip
     have hjX:=((I.rel.unlisted j).1 hjun).2;exact(Ub hal hca I hjp hjX).mono λv w' ⟨hD,b,I'⟩=>⟨.inl hD,ih _ _ _ _ I' A3⟩
theorem zG{id:Nat}{l:List AY}{e:List (Nat×A2)}{L:List AG}{h:A4}(m:Nat)(R:List AG)(al:Co)(ord:List (Nat×Kd))(hm:P.follows .mixedOrders=true)(hal:uY P n (Am l) al)
    (hchk:(Region.noSelect (Am l)&&bA (Am l) al&&(al.all λx=>decide (x.1<m))&&C0 (Am l) m ord (Array.replicate (A1 l) false) (al.map (·.1)))=true)(hae:∀x∈al,al.lookup x.1=some x.2/\e.lookup x.2.1=none)
    (hR:∀r∈R,r∈L)(k:W P n w0 h0 (Am l) Q R al ord e L h):GC P n w0 h0 (.region id (Am l) true) Q e L h:=by
 intro a w E S;simp only[Ap] at hchk;obtain⟨⟨⟨h1,h2⟩,h3⟩,U⟩:=hchk;have C:∀i∈al.map (·.1),i<m:=by
  intro i hi;obtain⟨x,hx,rfl⟩:=Cp.1 hi
  simpa using Bb.1 h3 x hx
 have M:=Fb (Q:=Q) (R:=R) (m:=m) h1 hal h2 ord (Array.replicate (A1 l) false) (al.map (·.1)) e L h U (λk _=>by simp[EG,Array.getElem?_replicate];split<;>rfl) C k;refine wp_region_any hm (RA.wpAny (λ_ _ H=>H) (M _ [] _ a _ ⟨⟨E.defers,E.size,E.get⟩,?_,hR,⟨B9,by simp[Bt]⟩,(λp J=>by cases J),B9,?_,?_,?_⟩ ?_))
 · simp only[oU,Jw,Ce]
   exact⟨S.below.drew,S.le,S.sub,S.fresh,S.ok,S.own,S.apart⟩
 · intro i hi
   obtain⟨x,hx,rfl⟩:=Cp.1 hi;exact⟨x.2,(hae x hx).1,(hae x hx).2⟩
 · intro i hi
   obtain⟨x,hx,rfl⟩:=Cp.1 hi;have:=(cE h2 (hae x hx).1).2.1;simp at this;simp[EG,this]
 · intro k o D
   simp[EG,Array.getElem?_replicate] at D
   split at D<;>simp at D
 · unfold Gt
   refine Ao (List.length_filter_le _ _) ?_;simp
end sound
section
variable {P:D}{n:Nat}{w0:AP}{h0:A4}{ops:Array AY}{Q:BH->Av->AP->Prop}{R:List AG}{al:Co}{e:List (Nat×A2)}{L:List AG}{h:A4}{r:List (Nat×Kd)}{i:Nat}
variable {d:Nat}{op:Op}{ty:Ab}{ps:String}{af:Array Edge}{g t:Nat}{b c:Bool}{v:A2}
theorem wn{o:AY}{y:Nat->Option Bool}(hg:o.guard=none):Region.wanted o y=true:=by
 unfold Region.wanted;rw[hg]
theorem Ic(k:GQ n w0 h0 Q .normal e L h):W P n w0 h0 ops Q R al [] e L h:=k
theorem B3(ho:ops.getD i default=⟨some d,op,ty,ps,af,none⟩)(hv:∀h' L',MLe h h'->(∀r∈R,r∈L')->OpV P n w0 h0 ⟨some d,op,ty,ps,af,none⟩ e L' h' v)(hn:Nat.ble (d+1) n=true)
    (k:W P n w0 h0 ops Q R al r ((d,v)::e) L h):W P n w0 h0 ops Q R al ((i,.q)::r) e L h:=by
 refine⟨v,?_,?_⟩
 · rw[ho]
   exact⟨⟨d,I,Bm hn⟩,λh' L' a w hh hR E S=>.inl ⟨I,hv h' L' hh hR a w E S⟩⟩
 · rw[ho];exact k
theorem wK(ho:ops.getD i default=⟨some d,op,ty,ps,af,none⟩)(hv:∀h' L',OpV P n w0 h0 ⟨some d,op,ty,ps,af,none⟩ e L' h' v)(hn:Nat.ble (d+1) n=true)
    (k:W P n w0 h0 ops Q R al r ((d,v)::e) L h):W P n w0 h0 ops Q R al ((i,.q)::r) e L h:=B3 ho (λh' L' _ _=>hv h' L') hn k
theorem lV{x:Ag}(ho:ops.getD i default=⟨some d,.move x,ty,ps,af,none⟩)(hx:zK e x=some v)(hn:Nat.ble (d+1) n=true)
    (k:W P n w0 h0 ops Q R al r ((d,v)::e) L h):W P n w0 h0 ops Q R al ((i,.q)::r) e L h:=B3 ho (λ_ _ _ _=>xK hx) hn k
theorem Kz{x:Ag}(ho:ops.getD i default=⟨some d,.assign x,ty,ps,af,none⟩)(hx:zK e x=some v)(hn:Nat.ble (d+1) n=true)
    (k:W P n w0 h0 ops Q R al r ((d,v)::e) L h):W P n w0 h0 ops Q R al ((i,.q)::r) e L h:=B3 ho (λ_ _ _ _=>rN hx) hn k
theorem w3{g t:Nat}{b c:Bool}{o:AY}{a:Av}(hg:o.guard=some (g,b))(ht:(ops[g]?).bind (·.dst)=some t)(he:e.lookup t=some (.bool c))(E:Bp n e a):Region.wanted o (yielded ops a.tmps)=(c==b):=by
 have:=E.get t _ he;simp[Region.wanted,hg,yielded,ht,this]
theorem L5{x:Ag}(hv:(op=.move x\/op=.assign x)/\zK e x=some v)(ho:ops.getD i default=⟨some d,op,ty,ps,af,none⟩)(hn:Nat.ble (d+1) n=true)
    (k:W P n w0 h0 ops Q R al r ((d,v)::e) L h):W P n w0 h0 ops Q R al ((i,.p)::r) e L h:=by
 refine⟨v,?_,?_⟩
 · rw[ho]
   refine⟨⟨d,I,Bm hn⟩,λa w E=>.inl ⟨I,?_⟩⟩
   rcases hv.1 with rfl|rfl<;>simp[execOp,E.eval hv.2]
 · rw[ho];exact k
theorem yS(ho:ops.getD i default=⟨some d,op,ty,ps,af,some (g,b)⟩)(ht:(ops[g]?).bind (·.dst)=some t)(he:e.lookup t=some (.bool b))(hv:∀h' L',MLe h h'->(∀r∈R,r∈L')->OpV P n w0 h0 ⟨some d,op,ty,ps,af,some (g,b)⟩ e L' h' v)
    (hn:Nat.ble (d+1) n=true)(k:W P n w0 h0 ops Q R al r ((d,v)::e) L h):W P n w0 h0 ops Q R al ((i,.q)::r) e L h:=by
 refine⟨v,?_,?_⟩
 · rw[ho]
   exact⟨⟨d,I,Bm hn⟩,λh' L' a w hh hR E S=>.inl ⟨by rw[w3 I ht he E];simp,hv h' L' hh hR a w E S⟩⟩
 · rw[ho];exact k
theorem i1{b:Bool}{t:Nat}(ho:ops.getD i default=⟨some d,op,ty,ps,af,some (g,b)⟩)(ht:(ops[g]?).bind (·.dst)=some t)(he:e.lookup t=some undef)(hn:Nat.ble (d+1) n=true)
    (k:W P n w0 h0 ops Q R al r ((d,undef)::e) L h):W P n w0 h0 ops Q R al ((i,.q)::r) e L h:=by
 refine⟨undef,?_,?_⟩
 · rw[ho]
   refine⟨⟨d,I,Bm hn⟩,λh' L' a w hh hR E S=>.inr ⟨?_,I⟩⟩;have:=E.get t _ he;simp[Region.wanted,yielded,ht,this,undef]
 · rw[ho];exact k
theorem kG(ho:ops.getD i default=⟨some d,op,ty,ps,af,some (g,b)⟩)(ht:(ops[g]?).bind (·.dst)=some t)(he:e.lookup t=some (.bool c))(hcb:(c==b)=false)(hn:Nat.ble (d+1) n=true)
    (k:W P n w0 h0 ops Q R al r ((d,undef)::e) L h):W P n w0 h0 ops Q R al ((i,.q)::r) e L h:=by
 refine⟨undef,?_,?_⟩
 · rw[ho]
   exact⟨⟨d,I,Bm hn⟩,λh' L' a w hh hR E S=>.inr ⟨by rw[w3 I ht he E,hcb],I⟩⟩
 · rw[ho];exact k
theorem CA{E E':Ab}{cs:List A2}(hop:(ops.getD i default).op=.alloc E')(hl:al.lookup i=some (d,E,cs))(k:∀b,W P n w0 h0 ops Q R al r ((d,.pointer (some ⟨b,0,none⟩))::e) (.blk b (.cells (Am cs) E)::L) h):W P n w0 h0 ops Q R al ((i,.a)::r) e L h:=by
 intro H E' D b C;rw[hl] at C
 cases C
 rw[hop];exact k b
section wx
variable {K:List (Nat×A2)->List AG->A4->Prop}{N i j:Nat}{A B Qs:List Nat}{o o':AY}
variable {d:Nat}{op:Op}{v:A2}
theorem XJ(ho:ops.getD i default=⟨some d,op,ty,ps,af,none⟩)(hv:∀h' L',MLe h h'->(∀r∈R,r∈L')->OpV P n w0 h0 ⟨some d,op,ty,ps,af,none⟩ e L' h' v)(hn:Nat.ble (d+1) n=true)
    (k:K ((d,v)::e) L h):SQ P n w0 h0 ops R i e L h K:=by
 refine⟨v,?_,?_⟩
 · rw[ho]
   exact⟨⟨d,I,Bm hn⟩,λh' L' a w hh hR E S=>.inl ⟨I,hv h' L' hh hR a w E S⟩⟩
 · rw[ho];exact k
theorem MP(ho:ops.getD i default=⟨some d,op,ty,ps,af,none⟩)(hv:∀h' L',OpV P n w0 h0 ⟨some d,op,ty,ps,af,none⟩ e L' h' v)(hn:Nat.ble (d+1) n=true)
    (k:K ((d,v)::e) L h):SQ P n w0 h0 ops R i e L h K:=XJ ho (λh' L' _ _=>hv h' L') hn k
end wx
theorem AB{o:AY}(ho:ops.getD i default=o)(k:qP P n w0 h0 ops R o e L h (W P n w0 h0 ops Q R al r)):W P n w0 h0 ops Q R al ((i,.c)::r) e L h:=by
 show qP P n w0 h0 ops R (ops.getD i default) e L h _
 rw[ho];exact k
theorem u7{o o':AY}{j:Nat}(ho:ops.getD i default=o)(ho':ops.getD j default=o')(k:qP P n w0 h0 ops R o e L h λe L h=>qP P n w0 h0 ops R o' e L h (W P n w0 h0 ops Q R al r))
    (k':qP P n w0 h0 ops R o' e L h λe L h=>qP P n w0 h0 ops R o e L h (W P n w0 h0 ops Q R al r)):W P n w0 h0 ops Q R al ((i,.b j)::r) e L h:=by
 refine⟨?_,?_⟩
 · rw[ho,ho'];exact k
 · rw[ho,ho'];exact k'
theorem Zq{o1 o2 o3:AY}{i2 j:Nat}(ho1:ops.getD i default=o1)(ho2:ops.getD i2 default=o2)(ho3:ops.getD j default=o3)
    (k:qP P n w0 h0 ops R o1 e L h (λe L h=>
     qP P n w0 h0 ops R o2 e L h (λe L h=>qP P n w0 h0 ops R o3 e L h (W P n w0 h0 ops Q R al r))/\
     qP P n w0 h0 ops R o3 e L h (λe L h=>qP P n w0 h0 ops R o2 e L h (W P n w0 h0 ops Q R al r))))
    (k':qP P n w0 h0 ops R o3 e L h (λe L h=>qP P n w0 h0 ops R o1 e L h (λe L h=>qP P n w0 h0 ops R o2 e L h (W P n w0 h0 ops Q R al r)))):W P n w0 h0 ops Q R al ((i,.d i2 j)::r) e L h:=by
 subst ho1 ho2 ho3;exact⟨k,k'⟩
theorem ES{W':List (Nat×A2)->List AG->A4->Prop}{ds:Option Tmp}(ht:(ops[g]?).bind (·.dst)=some t)(he:e.lookup t=some (.bool b))(k:qP P n w0 h0 ops R ⟨ds,op,ty,ps,af,none⟩ e L h W'):
 qP P n w0 h0 ops R ⟨ds,op,ty,ps,af,some (g,b)⟩ e L h W':=by
 intro X a w E S;have C:=k X a w E S;unfold qY at *;rw[AC (wn I)] at C;rw[AC (by rw[w3 I ht he E];simp)];exact C
theorem bD{W':List (Nat×A2)->List AG->A4->Prop}(ht:(ops[g]?).bind (·.dst)=some t)(he:e.lookup t=some (.bool c))(hcb:(c==b)=false)(hn:Nat.ble (d+1) n=true)(k:W' ((d,undef)::e) L h):
 qP P n w0 h0 ops R ⟨some d,op,ty,ps,af,some (g,b)⟩ e L h W':=by
 intro X a w E S;unfold qY;rw[A8 (by rw[w3 I ht he E,hcb];simp)];exact⟨λH D=>by cases D;exact Bm hn,L,h,MLe.refl _,λC=>C,S,k⟩
theorem dy{W':List (Nat×A2)->List AG->A4->Prop}{f:Nat}{xs:List Ag}{ts:Array Ab}{vs:List A2}{R':A4->A2->Prop}(hcall:∀args w,(callFunc f args).run P w=.ok (.enter f args) w)(hvs:pP e xs vs)
    (hc:∀w,MLe h (BE w)->Calls P f vs.toArray w (Bh w h R'))(hn:Nat.ble (d+1) n=true)(k:∀v h',MLe h h'->R' h' v->W' ((d,v)::e) L h'):
    qP P n w0 h0 ops R ⟨some d,.call {callee:=.value (.func f),args:=Am xs,argTypes:=ts},ty,ps,af,none⟩ e L h W':=by
 intro X a w E S;unfold qY;rw[AC (wn I)];have C:(Am xs).map a.eval=vs.toArray:=by rw[Ey,E.evals hvs]
 have H:(execOp a.eval ⟨some d,.call {callee:=.value (.func f),args:=Am xs,argTypes:=ts},ty,ps,af,none⟩).run P w=.ok (.enter f vs.toArray) w:=by
  simp only[execOp,resolve,Av.eval];simp[Deferred.ofValue,invoke,hcall,C]
 rw[H];refine(hc w S.sub).mono ?_
 rintro Z U ⟨v,h',rfl,hR,D⟩
 have M:=S.call D;exact⟨v,I,λd' J=>(by cases J;exact Bm hn),L,h',D.le,λhh=>hh,M,k v h' D.le hR⟩
theorem eF{W':List (Nat×A2)->List AG->A4->Prop}{f:Nat}{xs:List Ag}{ts:Array Ab}{vs:List A2}{R':A4->A2->List AG->Prop}(hcall:∀args w,(callFunc f args).run P w=.ok (.enter f args) w)(hvs:pP e xs vs)
    (hc:∀w,MLe h (BE w)->Calls P f vs.toArray w (gV w h R'))(hn:Nat.ble (d+1) n=true)(k:∀v h' L',MLe h h'->R' h' v L'->W' ((d,v)::e) (L'++L) h'):
    qP P n w0 h0 ops R ⟨some d,.call {callee:=.value (.func f),args:=Am xs,argTypes:=ts},ty,ps,af,none⟩ e L h W':=by
 intro X a w E S;unfold qY;rw[AC (wn I)];have C:(Am xs).map a.eval=vs.toArray:=by rw[Ey,E.evals hvs]
 have D:(execOp a.eval ⟨some d,.call {callee:=.value (.func f),args:=Am xs,argTypes:=ts},ty,ps,af,none⟩).run P w=.ok (.enter f vs.toArray) w:=by
  simp only[execOp,resolve,Av.eval];simp[Deferred.ofValue,invoke,hcall,C]
 rw[D];refine(hc w S.sub).mono ?_
 rintro Z U ⟨v,h',L',rfl,hR,H⟩
 have J:=S.call H;rw[<-Ck] at J;exact⟨v,I,λd' M=>(by cases M;exact Bm hn),L'++L,h',H.le,λhh r D=>PP _ (hh r D),J,k v h' L' H.le hR⟩
theorem tV{W':List (Nat×A2)->List AG->A4->Prop}{G:A2->AG->Prop}(hv:∀X,aU P n w0 h0 ⟨some d,op,ty,ps,af,none⟩ e (L++X) h G)(hn:Nat.ble (d+1) n=true)(k:∀v r,G v r->W' ((d,v)::e) (r::L) h):
 qP P n w0 h0 ops R ⟨some d,op,ty,ps,af,none⟩ e L h W':=by
 intro X a w E S;unfold qY;rw[AC (wn I)];obtain⟨v,Z,r,J,D,C,H,U⟩:=hv X a w E S;rw[J];exact⟨λd' M=>(by cases M;exact Bm hn),r::L,h,MLe.refl h,λhh x hx=>FV _ (hh x hx),S.new D C H,k v r U⟩
theorem Oo{W':List (Nat×A2)->List AG->A4->Prop}(hv:∀X,OpV P n w0 h0 ⟨some d,op,ty,ps,af,none⟩ e (L++X) h v)(hn:Nat.ble (d+1) n=true)(k:W' ((d,v)::e) L h):
 qP P n w0 h0 ops R ⟨some d,op,ty,ps,af,none⟩ e L h W':=by
 intro X a w E S;unfold qY;rw[AC (wn I),hv X a w E S];exact⟨λD C=>(by cases C;exact Bm hn),L,h,MLe.refl h,λhh=>hh,S,k⟩
theorem nW(ho:ops.getD i default=⟨some d,op,ty,ps,af,none⟩)(hv:OpV P n w0 h0 ⟨some d,op,ty,ps,af,none⟩ e L h v)(hn:Nat.ble (d+1) n=true)(k:W P n w0 h0 ops Q R al r ((d,v)::e) L h):W P n w0 h0 ops Q R al ((i,.t)::r) e L h:=by
 show QZ P n w0 h0 ops (ops.getD i default) e L h _
 rw[ho];intro a w E S;unfold qY;rw[AC (wn I),hv a w E S];exact⟨λD C=>(by cases C;exact Bm hn),L,h,S,k⟩
theorem tC{A B:List AG}{q q':AG}(ho:ops.getD i default=⟨none,op,ty,ps,af,none⟩)(hv:EH P n w0 h0 ⟨none,op,ty,ps,af,none⟩ e A q B h q')(hfp:q'.fp=q.fp)(k:W P n w0 h0 ops Q R al r e (A++q'::B) h):
 W P n w0 h0 ops Q R al ((i,.t)::r) e (A++q::B) h:=by
 show QZ P n w0 h0 ops (ops.getD i default) e _ h _
 rw[ho];intro a w E S;unfold qY;obtain⟨U,H,D,C⟩:=hv a w E S;rw[AC (wn I),H];exact⟨λZ J=>(by cases J),_,h,S.grown D C λb M=>.inl (hfp▸M),k⟩
theorem jS{k:B2}{E:Nat}{xs:List Nat}{v:A2}{t E':Ab}{x y:Ag}{q:Int}{ds:Option Tmp}{gd:Option (Nat×Bool)}(hm:.us E k v xs∈L)(i:Nat)(ht:P.underlying t=some (.slice E'))(hsz:∀w,(Go.sizeOf E').run P w=.ok 1 w)(hx:zK e x=some v)(hy:zK e y=some (vI q))
    (hq:q=(i:Int))(hi:i<A1 xs):OpV P n w0 h0 ⟨ds,.indexAddr t x y,ty,ps,af,gd⟩ e L h (zH 1 v i):=by
 obtain⟨A,B,rfl⟩:=N8 hm;exact xM i ht hsz hx hy hq hi
theorem gY{k:B2}{E:Nat}{xs:List Nat}{v:A2}{t:Ab}{x:Ag}{i:Nat}{ds:Option Tmp}{gd:Option (Nat×Bool)}(hm:.us E k v xs∈L)(ha:∀w,(isAgg t).run P w=.ok false w)(hx:zK e x=some (zH 1 v i))(hi:i<A1 xs):
 OpV P n w0 h0 ⟨ds,.load t x,ty,ps,af,gd⟩ e L h (vU k (A0 xs i 0)):=by
 obtain⟨A,B,rfl⟩:=N8 hm;exact tB ha hx hi
end
section
variable {P:D}{n:Nat}{w0:AP}{h0:A4}{e:List (Nat×A2)}{L:List AG}{h:A4}{Q:BH->Av->AP->Prop}
variable {ds:Option Tmp}{ty:Ab}{ps:String}{af:Array Edge}{gd:Option (Nat×Bool)}
def Hw(P:D)(n:Nat)(w0:AP)(h0:A4)(o:AY)(e:List (Nat×A2))(A:List AG)(r:AG)(B:List AG)(h:A4)(G:A2->AG->Prop):Prop:=
 ∀a w,Bp n e a->St w0 h0 (A++r::B) h w->∃v w' r',(execOp a.eval o).run P w=.ok (.value v) w'/\w.grownBy w' r.fp/\r'.ok w0.heap.size w'/\(∀b,r'.fp=some b->r.fp=some b\/w.heap.size<=b)/\G v r'
theorem yY{ops:Array AY}{rest:List AY}{o:AY}{d:Nat}{A B:List AG}{r:AG}{G:A2->AG->Prop}(hv:Hw P n w0 h0 o e A r B h G)(hg:o.guard=none)(hd:o.dst=some d)(hn:Nat.ble (d+1) n=true)
    (k:∀v r',G v r'->GL P n w0 h0 ops Q rest ((d,v)::e) (A++r'::B) h):GL P n w0 h0 ops Q (o::rest) e (A++r::B) h:=by
 intro a w J S;refine wpList_plain hg λK U=>?_;obtain⟨v,w',r',M,D,C,H,Z⟩:=hv a w J S;unfold AY.wp;rw[M,AY.upon_value,hd];exact U _ _ (k v r' Z _ _ (J.put (Bm hn)) (S.grown D C H))
theorem gv{ops:Array AY}{rest:List AY}{d:Nat}{op:Op}{v:A2}(hv:OpV P n w0 h0 ⟨some d,op,ty,ps,af,none⟩ e L h v)(hn:Nat.ble (d+1) n=true)(k:GL P n w0 h0 ops Q rest ((d,v)::e) L h):GL P n w0 h0 ops Q (⟨some d,op,ty,ps,af,none⟩::rest) e L h:=
 mQ hv rfl rfl hn k
theorem mv{ops:Array AY}{rest:List AY}{d:Nat}{x:Ag}{v:A2}(hx:zK e x=some v)(hn:Nat.ble (d+1) n=true)(k:GL P n w0 h0 ops Q rest ((d,v)::e) L h):GL P n w0 h0 ops Q (⟨some d,.move x,ty,ps,af,none⟩::rest) e L h:=
 mQ (xK hx) rfl rfl hn k
theorem BF{ops:Array AY}{rest:List AY}{d:Nat}{x:Ag}{v:A2}(hx:zK e x=some v)(hn:Nat.ble (d+1) n=true)(k:GL P n w0 h0 ops Q rest ((d,v)::e) L h):GL P n w0 h0 ops Q (⟨some d,.assign x,ty,ps,af,none⟩::rest) e L h:=
 mQ (rN hx) rfl rfl hn k
theorem US{A B:List AG}{t E:Ab}{i:TypeInfo}{z:A2}{k bytes m m':Nat}{v v':A2}{cs cs':List A2}{x y:Ag}(ht:P.underlying t=some (.slice E))(hi:P.info? E=some i)(hz:i.zero=some z)(hsize:i.size=k)(hby:i.bytes=bytes)
    (hzs:z.cells.size=k)(hk:0<k)(hx:zK e x=some v)(hy:zK e y=some v')(hv':Sl h k v' m' cs')(hone:∀u∈cs',u.oneCell'=true)(hlen:m+m'<9223372036854775808)(hb':(m+m')*bytes<=140737488355328):
    Hw P n w0 h0 ⟨ds,.call {callee:=.builtin .append,args:=#[x,y],argTypes:=#[t,t]},ty,ps,af,gd⟩ e A (.gs E k v m cs) B h (λu r'=>r'=.gs E k u (m+m') (cs++cs')):=by
 intro a w Ev S;have C:w.ownsRow w0.heap.size E k v m cs:=S.ok (.gs E k v m cs) B9;obtain⟨ad,H,rfl,h1,h2,h3,h4⟩:=hv';have aa:∀u w',(Builtin.append_ #[t,t] ty #[v,.slice ad m' H]).run P w=.ok u w'->(execOp a.eval ⟨ds,.call {callee:=.builtin .append,args:=#[x,y],argTypes:=#[t,t]},ty,ps,af,gd⟩).run P w=.ok (.value u) w':=by
  intro u w' J;simp[execOp,resolve,invoke,builtin,Ev.eval hx,Ev.eval hy,J]
 by_cases hnil:ad=none
 · subst hnil
   have hc:cs'=[]:=by
    cases cs' with
    |nil=>rfl
    |cons c cs'=>obtain⟨b,o,M,_⟩:=h4 0 B9;cases M
   subst hc;have hm:m'=0:=by
    rcases KX m' with h5|h5
    · exact h5
    · have:=Nat.mul_pos h5 hk
      simp only[lN] at h3;omega
   subst hm;refine⟨v,w,.gs E k v (m+0) (cs++[]),aa _ _ ?_,⟨I,I,I,B1 _,λ_ _ _=>I⟩,by simp only[Cq,Ce];exact C,λb M=>.inl M,I⟩;have ah:(Builtin.firstCells k 0 (.slice none 0 H)).run P w=.ok #[] w:=by simp[Builtin.firstCells]
   rcases C.2 with⟨rfl,rfl⟩|⟨g,cp,cur,rfl,_,_,hnc,_⟩
   · simp[Builtin.append_,run_underlying ht,Go.sizeOf,typeInfo,hi,Builtin.lenOf,Builtin.firstCells]
   · simp[Builtin.append_,run_underlying ht,Go.sizeOf,typeInfo,hi,Builtin.lenOf,Builtin.firstCells,hnc,storeCells]
 · obtain⟨p,rfl⟩:=Option.ne_none_iff_exists'.1 hnil
   have D:∀j u,cs'[j]?=some u->w.cell? (p.add j)=some u:=by
    intro j u hu;obtain⟨hj,_⟩:=Hk.1 hu;obtain⟨b,o,hp,hc⟩:=h4 j hj
    cases hp
    rw[hu] at hc;rw[kD];exact nM S.sub hc
   obtain⟨u,w',J,ho,ac,ae⟩:=run_append_own (P:=P) w w0.heap.size t ty E i z k bytes ht hi hz hsize hby hzs hk v m cs C p m' H cs' h3 D hone (by unfold maxLen;omega) hb' S.below.size;refine⟨u,w',.gs E k u (m+m') (cs++cs'),aa _ _ J,ac,ho,λb M=>?_,I⟩;simp only[AG.fp] at M ⊢
   by_cases hv:v.ownBlock=some b
   · exact .inl hv
   · right
     rcases DR b w.heap.size with hlt|hge
     · exfalso
       have ab:v.ownBlock=some b\/b=w.heap.size:=by
        have Z:=C
        rcases Z.2 with⟨rfl,rfl⟩|⟨g,cp,cur,rfl,hbg,hg,hnc,hcm,hcs,htake⟩
        · by_cases hm0:m'=0
          · subst hm0
            have:(Builtin.append_ #[t,t] ty #[.slice none 0 0,.slice (some p) 0 H]).run P w=.ok (.slice none 0 0) w:=by
             simp[Builtin.append_,run_underlying ht,Go.sizeOf,typeInfo,hi,Builtin.lenOf,Builtin.firstCells,loadCells,loadCellsFrom]
            rw[this] at J
            cases J
            simp[A2.ownBlock] at M
          · have h6:=run_append_nil (P:=P) w t ty E i z ht hi hz p m' H cs' (by rw[hsize];exact h3) D A3 A3 (by rw[hby];simp only[E6] at hb';omega)
            rw[h6] at J
            cases J
            simp only[A2.ownBlock,Option.some.injEq] at M;exact .inr M.symm
        · by_cases hroom:m+m'<=cp
          · have h6:=run_append_room (P:=P) w t ty E i ht hi g m cp cur hg p m' H cs' (by rw[hsize];exact h3) D hone hroom (by rw[hsize,h3,hcs,<-EP];exact CP _ hroom)
            rw[h6] at J
            cases J
            exact .inl M
          · have U:∀j u,cs[j]?=some u->w.cell? ((⟨g,0,none⟩:Addr).add j)=some u:=C.cells (g:=g) I
            have h6:=run_append_grow (P:=P) w t ty E i z ht hi hz ⟨g,0,none⟩ m cp cs (by rw[hsize];exact C.1) U p m' H cs' (by rw[hsize];exact h3) D A3 A3 (growslice_fits A3 (by rw[hby];exact hb'));rw[h6] at J
            cases J
            simp only[A2.ownBlock,Option.some.injEq] at M;exact .inr M.symm
       rcases ab with h5|h5
       · exact hv h5
       · omega
     · exact hge
theorem sa{k:B2}{xs:List Nat}:∀u∈Bk.us k xs,u.oneCell'=true:=by
 intro u C;obtain⟨x,_,rfl⟩:=Cp.1 C
 rfl
theorem gD{A B:List AG}{t E:Ab}{i:TypeInfo}{bytes:Nat}{kd:B2}{v v':A2}{xs ys:List Nat}{x y:Ag}(ht:P.underlying t=some (.slice E))(hi:P.info? E=some i)(hz:i.zero=some (.int kd 0))(hsize:i.size=1)(hby:i.bytes=bytes)
    (hx:zK e x=some v)(hy:zK e y=some v')(hv':Us kd h v' ys)(hlen:A1 xs+A1 ys<9223372036854775808)(hb':(A1 xs+A1 ys)*bytes<=140737488355328):
    Hw P n w0 h0 ⟨ds,.call {callee:=.builtin .append,args:=#[x,y],argTypes:=#[t,t]},ty,ps,af,gd⟩ e A (.us E kd v xs) B h (λu r'=>r'=.us E kd u (xs++ys)):=by
 intro a w J S;obtain⟨u,C,r',h1,h2,h3,H,D⟩:=US (A:=A) (B:=B) (v:=v) (cs:=Bk.us kd xs) (m:=A1 xs) (ds:=ds) (ty:=ty) (ps:=ps) (af:=af) (gd:=gd) ht hi hz hsize hby rfl A3 hx hy hv'.sl sa hlen hb' a w J S;refine⟨u,C,r',h1,h2,h3,H,?_⟩;rw[D];simp[AG.us,Bk.us]
theorem QE{t E:Ab}{i:TypeInfo}{z:A2}{parts:Array (Nat×Ag)}{ps':List (Nat×A2)}{m:Nat}{vs:List A2}(ht:P.underlying t=some (.slice E))(hi:P.info? E=some i)(hz:i.zero=some z)(hsize:i.size=1)(hzs:z.cells=#[z])
    (hp:∀a,Bp n e a->(parts.map λ(i,x)=>(i,a.eval x)).toList=ps')(hf:Instr.fill (λi=>some (i*1,1)) (Array.replicate m z) ps'=some vs.toArray)(hl:vs.length=m)(hm:m<=16777216):
    aU P n w0 h0 ⟨ds,.buildSlice t m parts,ty,ps,af,gd⟩ e L h (λv r=>r=.gs E 1 v m vs):=by
 intro a w Ev S;have M:=hp a Ev;have D:((Array.range (m*1)).map λj=>z.cells[j%z.cells.size]!)=Array.replicate m z:=by
  rw[hzs,F9]
  apply Mn
  intro j
  by_cases hj:j<m
  · simp[hj,Nat.mod_one]
  · simp[hj]
 refine⟨.slice (some ⟨w.heap.size,0,none⟩) m m,w.alloc (.cells vs.toArray E),.gs E 1 (.slice (some ⟨w.heap.size,0,none⟩) m m) m vs,?_,AP.grownBy_alloc w _ none,?_,λb Z=>?_,I⟩
 · have U:¬(m>16777216):=by omega
   simp only[execOp,Instr.buildSlice];rw[show(parts.map λ(i,x)=>(i,a.eval x)).toList=ps' from M]
   by_cases h0:m=0
   · subst h0
     have J:vs=[]:=DG hl;subst J;simp at hf;simp[run_underlying ht,Go.sizeOf,typeInfo,hi,hsize,newRow,newObj,Sem.run,Array.range_zero',hf]
   · have H:(zeroValue E).run P w=.ok z w:=by simp[zeroValue,typeInfo,hi,hz]
     have C:=D;simp only[F9] at C hf;simp[run_underlying ht,Go.sizeOf,typeInfo,hi,hsize,newRow,h0,U,H,C,hf]
 · have:=AP.ownsRow_lit (w:=w) (base:=w0.heap.size) (e:=E) (size:=1) vs.toArray m S.below.size (by unfold maxLen;omega) (by simp[hl])
   exact this
 · simp only[AG.fp,A2.ownBlock,Option.some.injEq] at Z
   omega
theorem UK{t E:Ab}{i:TypeInfo}{kd:B2}(ht:P.underlying t=some (.slice E))(hi:P.info? E=some i)(hz:i.zero=some (.int kd 0))(hsize:i.size=1):
 aU P n w0 h0 ⟨ds,.buildSlice t 0 #[],ty,ps,af,gd⟩ e L h (λv r=>r=.us E kd v []):=
 QE (ps':=[]) (vs:=[]) ht hi hz hsize rfl (λ_ _=>by simp) rfl rfl A3
theorem tN{t E:Ab}{i:TypeInfo}{kd:B2}{x:Ag}{p:Nat}(ht:P.underlying t=some (.slice E))(hi:P.info? E=some i)(hz:i.zero=some (.int kd 0))(hsize:i.size=1)(hx:zK e x=some (vU kd p)):
 aU P n w0 h0 ⟨ds,.buildSlice t 1 #[(0,x)],ty,ps,af,gd⟩ e L h (λv r=>r=.us E kd v [p]):=
 QE (ps':=[(0,vU kd p)]) (vs:=[vU kd p]) ht hi hz hsize rfl (λa Ev=>by simp[Ev.eval hx]) rfl rfl A3
theorem W0{t E:Ab}{i:TypeInfo}{kd:B2}{x y:Ag}{p q:Nat}(ht:P.underlying t=some (.slice E))(hi:P.info? E=some i)(hz:i.zero=some (.int kd 0))(hsize:i.size=1)(hx:zK e x=some (vU kd p))(hy:zK e y=some (vU kd q)):
 aU P n w0 h0 ⟨ds,.buildSlice t 2 #[(0,x),(1,y)],ty,ps,af,gd⟩ e L h (λv r=>r=.us E kd v [p,q]):=
 QE (ps':=[(0,vU kd p),(1,vU kd q)]) (vs:=[vU kd p,vU kd q]) ht hi hz hsize rfl (λa Ev=>by simp[Ev.eval hx,Ev.eval hy]) rfl rfl A3
def uR(xs:List Nat):ByteArray:=⟨Am (xs.map UInt8.ofNat)⟩
theorem V0{v:A2}{xs:List Nat}{s t E:Ab}{x:Ag}(hs:P.underlying s=some (.slice E))(he:P.underlying E=some (.int .u8))(ht:P.underlying t=some .string)(hx:zK e x=some v)(hv:Us .u8 h v xs):
 OpV P n w0 h0 ⟨ds,.convert s t x,ty,ps,af,gd⟩ e L h (.string (uR xs)):=by
 intro a w Ev S;obtain⟨ad,C,rfl,h1,h2,h3,U⟩:=hv.sl;have J:(convert s t (.slice ad (A1 xs) C)).run P w=.ok (.string (uR xs)) w:=by
  by_cases hnil:ad=none
  · subst hnil
    have D:xs=[]:=by
     cases xs with
     |nil=>rfl
     |cons c cs=>obtain⟨b,o,hb,_⟩:=U 0 (by simp[Bk.us]);cases hb
    subst D;exact run_convert_bytes_nil (P:=P) (w:=w) s E hs he 0 C t ht
  · obtain⟨p,rfl⟩:=Option.ne_none_iff_exists'.1 hnil
    by_cases D:xs=[]
    · subst D
      show(convert s t (.slice (some p) 0 C)).run P w=_
      rw[run_convert_bytes_string w s t E _ 0 C hs he ht];simp[Conv.bytesToString,loadCells,loadCellsFrom,uR]
      rfl
    · have H:0<A1 xs:=List.length_pos_iff.2 D
      obtain⟨b,o,M,_⟩:=U 0 (by simpa[Bk.us] using H)
      cases M
      have h6:=run_convert_bytes_arg (P:=P) w s E hs he b o (A1 xs) C (xs.map λ(x:Nat)=>(x:Int)) B9 (λi hi=>by
       obtain⟨b',o',M,Z⟩:=U i (by simpa[Bk.us] using hi)
       cases M
       rw[T7 hi] at Z;have h7:=nM S.sub Z;rw[h7];simp[vU,hi]) t ht
      rw[h6];have h8:strOfNums (xs.map λ(x:Nat)=>(x:Int))=uR xs:=by
       simp only[strOfNums,uR,Oz]
       congr 2
      rw[h8]
 simp[execOp,Ev.eval hx,J]
theorem Us.str_size{xs:List Nat}:(uR xs).size=A1 xs:=by simp[uR,ByteArray.size]
theorem t7{ops:Array AY}{l:List AY}{E:Nat}{k:B2}(k':GL P n w0 h0 ops Q l e (.us E k (.slice none 0 0) []::L) h):GL P n w0 h0 ops Q l e L h:=by
 intro a w D S;refine k' a w D (S.new (r:=.us E k (.slice none 0 0) []) ⟨I,I,I,B1 _,λ_ _ _=>I⟩ (AP.ownsRow_nil w _ _ _) (λb C=>?_));simp[AG.us,AG.fp,A2.ownBlock] at C
theorem Us.nil_of{k:B2}{h:A4}{m cap:Nat}{xs:List Nat}(hv:Us k h (.slice none m cap) xs):xs=[]:=by
 obtain⟨a,c,C,_,_,_,H⟩:=hv.sl
 cases C
 cases xs with
 |nil=>rfl
 |cons x xs=>obtain⟨b,o,D,_⟩:=H 0 (by simp[Bk.us]);cases D
theorem he{s:ByteArray}{t:Ab}{x y:Ag}{q:Int}(f:Nat->Nat)(i:Nat)(ht:P.underlying t=some .string)(hx:zK e x=some (.string s))(hy:zK e y=some (.int .u8 q))(hq:q=(i:Int))(hf:∀j,(hj:j<s.size)->(s.get j hj).toNat=f j)(hi:i<s.size):
 OpV P n w0 h0 ⟨ds,.index t x y,ty,ps,af,gd⟩ e L h (vU .u8 (f i)):=by
 subst hq;intro a w C S;have h1:s[i]?=some (s.get i hi):=by rw[getElem?_pos s i hi];rfl
 have h2:=hf i hi;simp[execOp,C.eval hx,C.eval hy,Instr.index,asIntOf,vU,run_underlying ht,h1,h2]
theorem T5{ts:Array Ab}{x y:Ag}{p q:Int}(hx:zK e x=some (vI p))(hy:zK e y=some (vI q)):OpV P n w0 h0 ⟨ds,.call {callee:=.builtin .max,args:=#[x,y],argTypes:=ts},ty,ps,af,gd⟩ e L h (vI (max p q)):=by
 intro a w C S;have:(if q>p then q else p)=max p q:=by omega
 simp[execOp,resolve,invoke,builtin,C.eval hx,C.eval hy,Builtin.max_,Builtin.max2,vI,List.foldlM,this]
theorem V2{ts:Array Ab}{x y:Ag}{p q:Int}(hx:zK e x=some (vI p))(hy:zK e y=some (vI q)):OpV P n w0 h0 ⟨ds,.call {callee:=.builtin .min,args:=#[x,y],argTypes:=ts},ty,ps,af,gd⟩ e L h (vI (min p q)):=by
 intro a w C S;have:(if q<p then q else p)=min p q:=by omega
 simp[execOp,resolve,invoke,builtin,C.eval hx,C.eval hy,Builtin.min_,Builtin.min2,vI,List.foldlM,this]
theorem q3{k:B2}{ts:Array Ab}{x y:Ag}{p q:Nat}(hx:zK e x=some (vU k p))(hy:zK e y=some (vU k q)):OpV P n w0 h0 ⟨ds,.call {callee:=.builtin .min,args:=#[x,y],argTypes:=ts},ty,ps,af,gd⟩ e L h (vU k (min p q)):=by
 intro a w C S;have:(if q<p then(q:Int) else(p:Int))=((min p q:Nat):Int):=by split<;>omega
 simp only[execOp,resolve,invoke,builtin];simp[C.eval hx,C.eval hy,Builtin.min_,Builtin.min2,vU,List.foldlM,this]
theorem va{ops:Array AY}{l:List AY}{A B:List AG}{E:Nat}{k:B2}{v:A2}{xs:List Nat}(m:Nat)(hm:m<=A1 xs)(k':GL P n w0 h0 ops Q l e (A++.us E k (tA 1 v 0 m) (xs.take m)::B) h):GL P n w0 h0 ops Q l e (A++.us E k v xs::B) h:=by
 intro a w Z S;have C:=S.ok (.us E k v xs) B9;refine k' a w Z (S.grown (r':=.us E k (tA 1 v 0 m) (xs.take m)) ⟨I,I,I,B1 _,λ_ _ _=>I⟩ ?_ ?_)
 · obtain⟨M,J⟩:=C
   have D:A1 (xs.take m)=m:=by rw[By];omega
   refine⟨by simp[Bk.us],?_⟩
   rcases J with⟨rfl,h0'⟩|⟨g,cap,cur,rfl,H,hg,hn,hcm,hcs,ht⟩
   · have:m=0:=by omega
     subst this;exact .inl ⟨I,B9⟩
   · right
     refine⟨g,cap,cur,?_,H,hg,A3,hcm,hcs,?_⟩
     · rw[D]
       simp only[tA,E2,H3,LN,kD,Cq,ite_self]
     · have U:Bk.us k (xs.take m)=(Bk.us k xs).take m:=by rw[Bk.us,Bk.us,List.map_take]
       rw[D,U,<-ht,List.take_take]
       congr 1
       omega
 · intro b H
   left
   obtain⟨M,J⟩:=C
   rcases J with⟨rfl,h0'⟩|⟨g,cap,cur,rfl,_⟩
   · simp[AG.us,AG.fp,tA,A2.ownBlock] at H
   · simpa only[AG.us,AG.fp,tA,A2.ownBlock,E2,H3,LN,kD,Cq,ite_self] using H
theorem St.own_us{A B:List AG}{E:Nat}{k:B2}{v:A2}{xs:List Nat}{w:AP}(S:St w0 h0 (A++.us E k v xs::B) h w)(hlt:∀x∈xs,x<ub k):Us k (BE w) v xs:=by
 obtain⟨H,D⟩:=S.ok (.us E k v xs) B9
 rcases D with⟨rfl,h0'⟩|⟨g,cap,cur,rfl,hb,hg,hn,hm,hcs,ht⟩
 · have C:xs=[]:=DG h0'
   subst C;exact Us.nil _ _
 · refine⟨⟨_,cap,I,hn,hm,H,λi hi=>⟨g,0,I,?_⟩⟩,hlt⟩
   have:(BE w) g=some (.cells cur E):=hg;unfold cell;rw[this];simp only[E6];rw[<-ht,Dj,AC (by simpa[Bk.us] using hi)];simp
def X1(s:ByteArray):List Nat:=s.data.toList.map UInt8.toNat
section steps
variable {ops:Array AY}{R:List AG}{d:Nat}{op:Op}
theorem OZ{o:AY}{A B:List AG}{E:Nat}{k:B2}{v:A2}{xs:List Nat}{W':List (Nat×A2)->List AG->A4->Prop}(hlt:∀x∈xs,x<ub k)(hR:∀r∈R,r∈A++.us E k v xs::B->r∈A++B)
    (k':∀h',MLe h h'->Us k h' v xs->qP P n w0 h0 ops R o e (A++B) h' W'):qP P n w0 h0 ops R o e (A++.us E k v xs::B) h W':=by
 intro X a w Ev S;have Z:St w0 h0 (A++.us E k v xs::(B++X)) h w:=by simpa using S
 have M:=Z.ok (.us E k v xs) B9;obtain⟨hl,J⟩:=M;have H:∀h',MLe h h'->Us k h' v xs->St w0 h0 (A++(B++X)) h' w->qY P ops o a w (ZO n w0 h0 R e (A++.us E k v xs::B) X h o W'):=by
  intro h' hh hu S2;refine(k' h' hh hu X a w Ev (by simpa using S2)).mono λu w' ⟨c1,L',h2,c2,c3,c4,c5⟩=>⟨c1,L',h2,hh.trans c2,λC=>c3 λr J=>hR r J (C r J),c4,c5⟩
 rcases J with⟨rfl,h0'⟩|⟨g,cap,cur,rfl,hb,hg,hn,hm,hcs,ht⟩
 · have D:xs=[]:=DG h0'
   subst D;exact H h (MLe.refl h) (Us.nil _ _) Z.drop
 · obtain⟨S',U⟩:=Z.freeze (b:=g) (o:=.cells cur E (0,0)) I hg
   refine H _ U ⟨⟨_,cap,I,hn,hm,hl,λi hi=>⟨g,0,I,?_⟩⟩,hlt⟩ S';unfold cell;simp only[if_true,E6];rw[<-ht,Dj,AC (by simpa[Bk.us] using hi)];simp
theorem kP{A B:List AG}{q:AG}{G:A2->AG->Prop}{W':List (Nat×A2)->List AG->A4->Prop}(hv:∀X,Hw P n w0 h0 ⟨some d,op,ty,ps,af,none⟩ e A q (B++X) h G)(hn:Nat.ble (d+1) n=true)
    (hR:∀r∈R,∀q',r∈A++q::B->r∈A++q'::B)(k:∀v q',G v q'->W' ((d,v)::e) (A++q'::B) h):qP P n w0 h0 ops R ⟨some d,op,ty,ps,af,none⟩ e (A++q::B) h W':=by
 intro X a w Ev S;have M:St w0 h0 (A++q::(B++X)) h w:=by simpa using S
 unfold qY;rw[AC (wn I)];obtain⟨v,w',q',C,H,D,J,Z⟩:=hv X a w Ev M;rw[C];have S2:=M.grown H D J;exact⟨λd' U=>(by cases U;exact Bm hn),A++q'::B,h,MLe.refl h,λhh r C=>hR r C q' (hh r C),by simpa using S2,k v q' Z⟩
end steps
end
end Bk
namespace Go.Proofs.YtlpflnindligbaaGreat
open Bk Go Tryz
theorem kT:prog.info? 3=some Tryz.t3:=by kernel_rfl
theorem OM:prog.info? 4=some Tryz.t4:=by kernel_rfl
theorem KU:prog.info? 5=some Tryz.t5:=by kernel_rfl
theorem sL:prog.info? 22=some Tryz.t22:=by kernel_rfl
theorem fW:prog.info? 28=some Tryz.t28:=by kernel_rfl
theorem qS:prog.info? 32=some Tryz.t32:=by kernel_rfl
theorem po:prog.info? 39=some Tryz.t39:=by kernel_rfl
theorem yQ:prog.info? 41=some Tryz.t41:=by kernel_rfl
theorem yA:prog.info? 43=some Tryz.t43:=by kernel_rfl
theorem uV:prog.info? 45=some Tryz.t45:=by kernel_rfl
theorem Vd:prog.info? 51=some Tryz.t51:=by kernel_rfl
theorem jR:prog.info? 53=some Tryz.t53:=by kernel_rfl
theorem y6:prog.info? 57=some Tryz.t57:=by kernel_rfl
theorem n7:prog.info? 80=some Tryz.t80:=by kernel_rfl
theorem Sa:prog.info? 106=some Tryz.t106:=by kernel_rfl
theorem g5:prog.info? 142=some Tryz.t142:=by kernel_rfl
theorem O8:prog.info? 144=some Tryz.t144:=by kernel_rfl
theorem j9:prog.info? 161=some Tryz.t161:=by kernel_rfl
theorem uW:prog.info? 176=some Tryz.t176:=by kernel_rfl
theorem j8:prog.info? 187=some Tryz.t187:=by kernel_rfl
theorem kJ:prog.info? 207=some Tryz.t207:=by kernel_rfl
theorem Sw:prog.info? 214=some Tryz.t214:=by kernel_rfl
theorem OS:prog.info? 216=some Tryz.t216:=by kernel_rfl
theorem iG:prog.info? 246=some Tryz.t246:=by kernel_rfl
theorem XU:prog.info? 271=some Tryz.t271:=by kernel_rfl
theorem kv:(prog.info? 3).map (·.size)=some 1:=by rw[kT];rfl
theorem OU:(prog.info? 4).map (·.size)=some 1:=by rw[OM];rfl
theorem pJ{fs:Array Go.Field}(hu:prog.underlying 32=some (.struct fs))(w:Go.World):(fs.mapM λ(f:Go.Field)=>do pure (f.offset,<-Go.sizeOf f.type)).run prog w=.ok #[(0,1),(1,1),(2,1)] w:=by
 rw[underlying32] at hu
 cases hu
 simp[sizeOf28,sizeOf29,sizeOf30]
theorem oh:(prog.info? 39).map (·.size)=some 1:=by rw[po];rfl
theorem yC:(prog.info? 41).map (·.size)=some 3:=by rw[yQ];rfl
theorem vW{fs:Array Go.Field}(hu:prog.underlying 41=some (.struct fs))(w:Go.World):(fs.mapM λ(f:Go.Field)=>do pure (f.offset,<-Go.sizeOf f.type)).run prog w=.ok #[(0,1),(1,1),(2,1)] w:=by
 rw[underlying41] at hu
 cases hu
 simp[sizeOf4,sizeOf39,sizeOf39]
theorem fP{fs:Array Go.Field}(hu:prog.underlying 45=some (.struct fs))(w:Go.World):(fs.mapM λ(f:Go.Field)=>do pure (f.offset,<-Go.sizeOf f.type)).run prog w=.ok #[(0,9),(9,3)] w:=by
 rw[underlying45] at hu
 cases hu
 simp[sizeOf43,sizeOf41]
theorem aC{fs:Array Go.Field}(hu:prog.underlying 53=some (.struct fs))(w:Go.World):(fs.mapM λ(f:Go.Field)=>do pure (f.offset,<-Go.sizeOf f.type)).run prog w=.ok #[(0,12),(12,1),(13,1)] w:=by
 rw[underlying53] at hu
 cases hu
 simp[sizeOf45,sizeOf51,sizeOf9]
theorem a1{fs:Array Go.Field}(hu:prog.underlying 57=some (.struct fs))(w:Go.World):(fs.mapM λ(f:Go.Field)=>do pure (f.offset,<-Go.sizeOf f.type)).run prog w=.ok #[(0,1),(1,12),(13,1)] w:=by
 rw[underlying57] at hu
 cases hu
 simp[sizeOf28,sizeOf45,sizeOf9]
theorem ks{fs:Array Go.Field}(hu:prog.underlying 80=some (.struct fs))(w:Go.World):(fs.mapM λ(f:Go.Field)=>do pure (f.offset,<-Go.sizeOf f.type)).run prog w=.ok #[(0,1),(1,1)] w:=by
 rw[underlying80] at hu
 cases hu
 simp[sizeOf22,sizeOf3]
theorem ld{fs:Array Go.Field}(hu:prog.underlying 144=some (.struct fs))(w:Go.World):(fs.mapM λ(f:Go.Field)=>do pure (f.offset,<-Go.sizeOf f.type)).run prog w=.ok #[(0,1),(1,1),(2,6),(8,6)] w:=by
 rw[underlying144] at hu
 cases hu
 simp[sizeOf3,sizeOf3,sizeOf142,sizeOf142]
theorem dA{fs:Array Go.Field}(hu:prog.underlying 161=some (.struct fs))(w:Go.World):(fs.mapM λ(f:Go.Field)=>do pure (f.offset,<-Go.sizeOf f.type)).run prog w=.ok #[(0,12),(12,1),(13,1),(14,1)] w:=by
 rw[underlying161] at hu
 cases hu
 simp[sizeOf45,sizeOf61,sizeOf3,sizeOf3]
theorem Rt{fs:Array Go.Field}(hu:prog.underlying 207=some (.struct fs))(w:Go.World):(fs.mapM λ(f:Go.Field)=>do pure (f.offset,<-Go.sizeOf f.type)).run prog w=.ok #[(0,1),(1,1),(2,1),(3,1),(4,1)] w:=by
 rw[underlying207] at hu
 cases hu
 simp[sizeOf75,sizeOf3,sizeOf3,sizeOf3,sizeOf3]
theorem ko{fs:Array Go.Field}(hu:prog.underlying 214=some (.struct fs))(w:Go.World):(fs.mapM λ(f:Go.Field)=>do pure (f.offset,<-Go.sizeOf f.type)).run prog w=.ok #[(0,1),(1,1),(2,1),(3,1),(4,1)] w:=by
 rw[underlying214] at hu
 cases hu
 simp[sizeOf3,sizeOf3,sizeOf3,sizeOf3,sizeOf3]
theorem nl{fs:Array Go.Field}(hu:prog.underlying 246=some (.struct fs))(w:Go.World):(fs.mapM λ(f:Go.Field)=>do pure (f.offset,<-Go.sizeOf f.type)).run prog w=.ok #[(0,9),(9,9),(18,1)] w:=by
 rw[underlying246] at hu
 cases hu
 simp[sizeOf43,sizeOf43,sizeOf4]
theorem uy:prog.funcs[214]?=some (prog.funcs[214]!):=by kernel_rfl
theorem c5(x y:Nat)(w:AP):(callFunc 214 #[vU .u64 x,vU .u64 y,vU .u64 0]).run prog w=.ok (.value (.tuple #[vU .u64 ((x+y)%18446744073709551616),vU .u64 ((x+y)/18446744073709551616)])) w:=by
 unfold vU;rw[run_callFunc_extern uy Ac Ac Ac (e:=add64Entry) Ac,run_add64 x y (0:Nat) A3 A3 A3 A3];simp only[Result.andThen]
 congr 5<;>omega
theorem zX:prog.follows .mixedOrders=true:=by kernel_rfl
end Go.Proofs.YtlpflnindligbaaGreat
namespace Bk
def val:List Nat->Nat
  |[]=>0
  |x::xs=>x+4294967296*val xs
def zB(n:Nat):List Nat:=if n=0 then[] else n%4294967296::zB (n/4294967296)
termination_by n
decreasing_by omega
def BD(xs:List Nat):Prop:=∀x∈xs,x<4294967296
theorem xT:zB 0=[]:=by unfold zB;simp
theorem gJ{n:Nat}(h:0<n):zB n=n%4294967296::zB (n/4294967296):=by
 rw[zB,A8 A3]
theorem zF(n:Nat):val (zB n)=n:=by
 induction n using Nat.strongRecOn with
 |_ n ih=>
  by_cases h:n=0
  · subst h;simp[xT,val]
  · rw[gJ A3,val,ih _ A3];omega
theorem wY(n:Nat):BD (zB n):=by
 induction n using Nat.strongRecOn with
 |_ n ih=>
  by_cases h:n=0
  · subst h;simp[xT,BD]
  · rw[gJ A3]
    intro x hx
    rcases BY.1 hx with rfl|hx
    · omega
    · exact ih _ A3 x hx
theorem j7{m n:Nat}(h:zB m=zB n):m=n:=by rw[<-zF m,<-zF n,h]
theorem pM{x:Nat}{xs:List Nat}:BD (x::xs)↔x<4294967296/\BD xs:=by simp[BD]
theorem fY{xs:List Nat}(h:BD xs)(k:Nat):BD (xs.take k):=λx hx=>h x (HH hx)
theorem x4{xs:List Nat}(h:BD xs)(k:Nat):BD (xs.drop k):=λx hx=>h x (IJ hx)
theorem Yo{xs:List Nat}(hf:BD xs)(hl:xs=[]\/0<A0 xs (A1 xs-1) 0):zB (val xs)=xs:=by
 induction xs with
 |nil=>simp[val,xT]
 |cons x xs ih=>
  have hx:=(pM.1 hf).1;have hxs:=(pM.1 hf).2;have hpos:0<val (x::xs):=by
   by_cases he:xs=[]
   · subst he
     simp at hl;simp[val];omega
   · have hne:0<A1 xs:=by cases xs with|nil=>exact absurd rfl he|cons _ _=>simp
     have:0<val xs:=by
      have:=ih hxs (.inr (by
       rcases hl with hl|hl
       · simp at hl
       · have e:A1 (x::xs)-1=(A1 xs-1)+1:=by simp;omega
         rw[e] at hl
         simpa using hl))
      cases hv:val xs with
      |zero=>rw[hv,xT] at this;exact absurd this.symm he
      |succ k=>omega
     simp only[val];omega
  rw[gJ hpos];have e1:val (x::xs)%4294967296=x:=by simp only[val];omega
  have e2:val (x::xs)/4294967296=val xs:=by simp only[val];omega
  rw[e1,e2,ih hxs]
  rcases hl with hl|hl
  · simp at hl
  · by_cases he:xs=[]
    · exact .inl he
    · have hne:0<A1 xs:=by cases xs with|nil=>exact absurd rfl he|cons _ _=>simp
      have e:A1 (x::xs)-1=(A1 xs-1)+1:=by simp;omega
      rw[e] at hl;exact .inr (by simpa using hl)
theorem lW(xs ys:List Nat):val (xs++ys)=val xs+4294967296^A1 xs*val ys:=by
 induction xs with
 |nil=>simp[val]
 |cons x xs ih=>simp only[Fs,val,ih,lC,CT];rw[Km,<-IP,Dw 4294967296 (4294967296^A1 xs)];omega
theorem bS(k:Nat):val (List.replicate k 0)=0:=by
 induction k with
 |zero=>rfl
 |succ k ih=>simp[Ku,val,ih]
theorem S2{xs:List Nat}(h:∀x∈xs,x=0):val xs=0:=by
 induction xs with
 |nil=>rfl
 |cons x xs ih=>
  have:=h x B9;rw[val,ih λy hy=>h y (by simp[hy])];omega
theorem fN(xs:List Nat)(k:Nat)(hk:k<=A1 xs):val xs=val (xs.take k)+4294967296^k*val (xs.drop k):=by
 have:=lW (xs.take k) (xs.drop k);rw[Kh,By,Dy hk] at this;exact this
theorem gL{xs:List Nat}(h:BD xs):val xs<4294967296^A1 xs:=by
 induction xs with
 |nil=>simp[val]
 |cons x xs ih=>
  have h1:=ih (pM.1 h).2;have h2:=(pM.1 h).1;simp only[val,lC,CT];have:4294967296*(val xs+1)<=4294967296*4294967296^A1 xs:=Dz _ h1;rw[Dw (4294967296^A1 xs)];omega
theorem tR(xs:List Nat)(k:Nat)(hk:k<A1 xs):xs.drop k=A0 xs k 0::xs.drop (k+1):=by
 rw[JB hk];simp[hk]
theorem w6(xs:List Nat)(k:Nat)(hk:k<A1 xs):xs.take (k+1)=xs.take k++[A0 xs k 0]:=by
 rw[HE hk];simp[hk]
theorem uZ(xs:List Nat)(k:Nat)(hk:k<A1 xs):val (xs.take (k+1))=val (xs.take k)+4294967296^k*A0 xs k 0:=by
 rw[w6 xs k hk,lW,By,Dy A3];simp[val]
theorem kL(xs:List Nat)(k:Nat)(hk:k<A1 xs):val (xs.drop k)=A0 xs k 0+4294967296*val (xs.drop (k+1)):=by
 rw[tR xs k hk,val]
theorem Yf{xs:List Nat}(hf:BD xs){k:Nat}(hk:k<=A1 xs)(hz:∀i,k<=i->A0 xs i 0=0)(ht:k=0\/A0 xs (k-1) 0≠0):xs.take k=zB (val xs):=by
 have h1:val (xs.drop k)=0:=S2 λx hx=>by
  obtain⟨i,hi,rfl⟩:=J4 hx;have:=hz (k+i) A3;simp only[Cn] at hi;rw[Au,BV A3] at this
  simpa using this
 have h2:=fN xs k hk;rw[h1,FT,Cq] at h2;rw[h2];refine(Yo (fY hf k) ?_).symm
 by_cases h0:k=0
 · exact .inl (by simp[h0])
 · right
   rcases ht with ht|ht
   · exact absurd ht h0
   · have C:A1 (xs.take k)=k:=by rw[By];omega
     rw[C];have:A0 (xs.take k) (k-1) 0=A0 xs (k-1) 0:=by
      simp only[Au];rw[Dj,AC A3]
     rw[this];omega
def sM(s:List Nat)(n:Nat):List Nat:=s++List.replicate (n-A1 s) 0
theorem uQ{s:List Nat}{n:Nat}(h:A1 s<=n):A1 (sM s n)=n:=by simp[sM];omega
theorem aL{s:List Nat}{n:Nat}(h:A1 s=n):sM s n=s:=by simp[sM,h]
theorem cC{s:List Nat}{n:Nat}(h:A1 s<n)(y:Nat):(sM s n).set (A1 s) y=sM (s++[y]) n:=by
 unfold sM;rw[Nc _ _ (B1 _),M3,BJ,E5];have e:n-A1 s=(n-(A1 s+1))+1:=by omega
 rw[e,Ku];simp
theorem uX{xs ys:List Nat}(h:BD xs)(k:BD ys):BD (xs++ys):=λx hx=>(Cy.1 hx).elim (h x) (k x)
theorem aZ{x:Nat}(h:x<4294967296):BD [x]:=λy hy=>by simp at hy;omega
theorem rZ(s:List Nat)(y:Nat):val (s++[y])=val s+4294967296^A1 s*y:=by rw[lW];simp[val]
theorem jF{xs:List Nat}(h:BD xs)(i:Nat):A0 xs i 0<4294967296:=by
 by_cases hi:i<A1 xs
 · rw[Au,BV hi];exact h _ (Ep hi)
 · rw[Au,F0 A3];decide
theorem rH{xs:List Nat}{i:Nat}(h:A1 xs<=i):A0 xs i 0=0:=by rw[Au,F0 h];rfl
theorem uP(xs:List Nat)(k:Nat):val (xs.take (k+1))=val (xs.take k)+4294967296^k*A0 xs k 0:=by
 by_cases hk:k<A1 xs
 · exact uZ xs k hk
 · rw[rH A3,Hn A3,Hn A3];omega
theorem wR{xs:List Nat}{k:Nat}(h:A1 xs<=k):val (xs.take k)=val xs:=by rw[Hn h]
def cD(m n:Nat):Int:=if m<n then -1 else if m=n then 0 else 1
theorem Lv{m n:Nat}(h:m<n):cD m n= -1:=by simp[cD,h]
theorem YQ(m:Nat):cD m m=0:=by simp[cD]
theorem LL{m n:Nat}(h:n<m):cD m n=1:=by
 have h1:¬m<n:=by omega
 have h2:m≠n:=by omega
 simp[cD,h1,h2]
theorem pO{m n:Nat}:cD m n<0↔m<n:=by
 unfold cD;split
 · simp_all
 · split<;>simp_all
theorem WS{m n:Nat}:0<cD m n↔n<m:=by
 unfold cD;split
 · simp_all;omega
 · split
   · simp_all
   · simp;omega
theorem Rb{m n:Nat}:cD m n=0↔m=n:=by
 unfold cD;split
 · simp;omega
 · split<;>simp_all
theorem yL{m n:Nat}(h:m<=n):A1 (zB m)<=A1 (zB n):=by
 induction n using Nat.strongRecOn generalizing m with
 |_ n ih=>
  by_cases hm:m=0
  · subst hm;simp[xT]
  · rw[gJ A3,gJ (show 0<n by omega)]
    have:=ih (n/4294967296) A3 (Nat.div_le_div_right (c:=4294967296) h);simp only[lC];omega
theorem pS{m n:Nat}(h:A1 (zB m)<A1 (zB n)):m<n:=by
 rcases DR m n with h'|h'
 · exact h'
 · have:=yL h';omega
theorem uU{xs:List Nat}(h:BD xs):A1 (zB (val xs))<=A1 xs:=by
 induction xs with
 |nil=>simp[val,xT]
 |cons x xs ih=>
  have h2:=(pM.1 h).1
  by_cases h0:val (x::xs)=0
  · rw[h0,xT];simp
  · rw[gJ A3]
    have e:val (x::xs)/4294967296=val xs:=by simp only[val];omega
    rw[e];have:=ih (pM.1 h).2;simp only[lC];omega
theorem qO{n k:Nat}(h:n<4294967296^k):A1 (zB n)<=k:=by
 induction k generalizing n with
 |zero=>simp at h;subst h;simp[xT]
 |succ k ih=>
  by_cases h0:n=0
  · subst h0;simp[xT]
  · rw[gJ A3,lC]
    have:=ih (n:=n/4294967296) (by rw[CT] at h;omega);omega
theorem rV{n k:Nat}(h:k<A1 (zB n)):4294967296^k<=n:=by
 rcases DR n (4294967296^k) with h'|h'
 · have:=qO h';omega
 · exact h'
theorem O7{A B:List Nat}(hA:BD A)(hl:A1 A=A1 B){j:Nat}(h1:1<=j)(hj:j<=A1 A)(hd:A.drop j=B.drop j)(hlt:A0 A (j-1) 0<A0 B (j-1) 0):val A<val B:=by
 have H:=fN A (j-1) A3;have J:=fN B (j-1) A3;rw[kL A (j-1) A3] at H;rw[kL B (j-1) A3] at J;have e:j-1+1=j:=by omega
 rw[e] at H J;rw[hd] at H;have D:=gL (fY hA (j-1));rw[By,Dy A3] at D;have C:4294967296^(j-1)*(A0 A (j-1) 0+4294967296*val (B.drop j)+1)<=4294967296^(j-1)*(A0 B (j-1) 0+4294967296*val (B.drop j)):=Dz _ A3;rw[Km,F9] at C;omega
def uO(n:Nat):Nat:=if n=0 then 0 else Nat.log2 n+1
theorem rp:uO 0=0:=rfl
theorem nO{n k:Nat}(h:n<2^k):uO n<=k:=by
 unfold uO
 split
 · omega
 · rename_i h0
   have:=(Nat.log2_lt h0).2 h;omega
theorem m6{n k:Nat}(h1:2^k<=n)(h2:n<2^(k+1)):uO n=k+1:=by
 have C:0<2^k:=DX A3;unfold uO;rw[A8 A3];have a:=(Nat.log2_lt (n:=n) (k:=k+1) A3).2 h2;have b:¬Nat.log2 n<k:=λD=>by
  have:=(Nat.log2_lt (n:=n) (k:=k) A3).1 D;omega
 omega
theorem iB(n:Nat):n<2^uO n:=by
 unfold uO
 split
 · omega
 · rename_i h0
   exact Nat.lt_log2_self
theorem Wu{n:Nat}(h:n≠0):2^(uO n-1)<=n:=by
 unfold uO;rw[A8 h];exact Nat.log2_self_le h
theorem WY{n:Nat}(h:n≠0):0<uO n:=by unfold uO;rw[A8 h];omega
theorem XP{n k r:Nat}(h:n≠0)(hr:r<2^k):uO (n*2^k+r)=uO n+k:=by
 have h1:=Wu h;have h2:=iB n;have h3:=WY h;have e:uO n+k=(uO n-1+k)+1:=by omega
 rw[e];refine m6 ?_ ?_
 · rw[CX]
   have:=CP (2^k) h1;omega
 · have C:uO n-1+k+1=uO n+k:=by omega
   rw[C,CX];have:(n+1)*2^k<=2^uO n*2^k:=CP _ h2;rw[EP] at this;omega
theorem RQ{n k:Nat}(h:2^k<=n):uO n=uO (n/2^k)+k:=by
 have C:0<2^k:=DX A3;have h0:n/2^k≠0:=JN (Nat.div_pos h C);have e:n=n/2^k*2^k+n%2^k:=(Nat.div_add_mod' n (2^k)).symm;have:=XP h0 (BQ n C);rw[<-e] at this;exact this
theorem Qq{xs:List Nat}(hf:BD xs){k:Nat}(hk:k+1=A1 xs)(ht:A0 xs k 0≠0):uO (val xs)=32*k+uO (A0 xs k 0):=by
 have e:=fN xs k A3;rw[kL xs k A3,EB A3] at e;have h1:=gL (fY hf k);rw[By,Dy A3] at h1;have D:(4294967296:Nat)^k=2^(32*k):=by rw[I4]
 rw[D] at e h1;have:=XP ht h1;have C:val xs=A0 xs k 0*2^(32*k)+val (xs.take k):=by
  rw[e];simp[val];rw[Dw];omega
 rw[C,this];omega
theorem cX{r x:Nat}(hr:r<4294967296)(hx:x<4294967296):r*2^32%18446744073709551616 |||x=r*4294967296+x:=by
 have e:r*2^32%18446744073709551616=2^32*r:=by omega
 rw[e,<-Nat.two_pow_add_eq_or_of_lt A3];omega
theorem Sn{c x s:Nat}(hc:c<2^s):c |||x*2^s=x*2^s+c:=by
 rw[Nat.or_comm,Dw,<-Nat.two_pow_add_eq_or_of_lt hc]
theorem nZ{xs:List Nat}{i:Nat}(hi:i<A1 xs)(y:Nat):val (xs.set i y)+4294967296^i*A0 xs i 0=val xs+4294967296^i*y:=by
 have D:=fN xs i A3;have C:=fN (xs.set i y) i Gl;rw[kL xs i hi] at D;rw[kL (xs.set i y) i (by simpa using hi)] at C;have h1:(xs.set i y).take i=xs.take i:=by rw[List.take_set];exact List.set_eq_of_length_le (by rw[By];omega)
 have h2:(xs.set i y).drop (i+1)=xs.drop (i+1):=by rw[List.drop_set,AC A3]
 have h3:A0 (xs.set i y) i 0=y:=by simp[hi]
 rw[h1,h2,h3] at C;rw[D,C];grind
theorem mK{xs:List Nat}(h:BD xs)(i:Nat){y:Nat}(hy:y<4294967296):BD (xs.set i y):=by
 intro x hx
 rcases List.mem_or_eq_of_mem_set hx with h1|h1
 · exact h x h1
 · omega
theorem n3{xs:List Nat}{i:Nat}(hi:i<A1 xs)(y:Nat):A0 (xs.set i y) i 0=y:=by simp[hi]
theorem jY{xs:List Nat}{i j:Nat}(h:i≠j)(y:Nat):A0 (xs.set i y) j 0=A0 xs j 0:=by
 simp[Au,Lk h]
theorem kK(n:Nat):BD (List.replicate n 0):=λx hx=>by rw[List.eq_of_mem_replicate hx];omega
theorem y9(n i:Nat):A0 (List.replicate n 0) i 0=0:=by
 rw[Au,List.getElem?_replicate];split<;>rfl
def fK(j:Nat)(s:List Nat):List Nat:=List.replicate j 0++s
theorem nK(j:Nat):fK j []=List.replicate j 0:=by simp[fK]
theorem aM(s:List Nat):fK 0 s=s:=rfl
theorem jT(j:Nat)(s:List Nat):A1 (fK j s)=j+A1 s:=by simp[fK]
theorem nJ{j:Nat}(h:0<j)(s:List Nat)(y:Nat):(fK j s).set (j-1) y=fK (j-1) (y::s):=by
 obtain⟨k,rfl⟩:∃k,j=k+1:=⟨j-1,A3⟩;unfold fK;rw[Hs,List.replicate_succ',Ck,Nc _ _ B9];simp
theorem VM{X Q q r r' x b t:Nat}(h:X=b*Q+r)(ht:t=r*4294967296+x)(hq:q=t/b)(hr:r'=t%b):x+4294967296*X=b*(q+4294967296*Q)+r':=by
 have:t=b*q+r':=by rw[hq,hr];exact(Gm t b).symm
 grind
theorem rS{n:Nat}(h:0<A1 (zB n)):A0 (zB n) (A1 (zB n)-1) 0≠0:=by
 induction n using Nat.strongRecOn with
 |_ n ih=>
  by_cases h0:n=0
  · subst h0;simp[xT] at h
  · rw[gJ A3]
    by_cases h1:A1 (zB (n/4294967296))=0
    · have e:zB (n/4294967296)=[]:=DG h1
      rw[e];have:n/4294967296=0:=by rw[<-zF (n/4294967296),e];rfl
      simp;omega
    · have:=ih (n/4294967296) A3 A3
      have e:A1 (n%4294967296::zB (n/4294967296))-1=(A1 (zB (n/4294967296))-1)+1:=by simp only[lC];omega
      rw[e]
      simpa using this
theorem Xy{xs:List Nat}(h:BD xs):xs.take (A1 (zB (val xs)))=zB (val xs):=by
 have M:=uU h;have e:val (xs.take (A1 (zB (val xs))))=val xs:=by
  have h1:=fN xs (A1 (zB (val xs))) M;have h2:val xs<4294967296^A1 (zB (val xs)):=by
   have:=gL (wY (val xs))
   rwa [zF] at this
  have h3:val (xs.drop (A1 (zB (val xs))))=0:=C7 λJ=>by
   have:4294967296^A1 (zB (val xs))*1<=4294967296^A1 (zB (val xs))*val (xs.drop (A1 (zB (val xs)))):=Dz _ A3;omega
  rw[h3] at h1;omega
 have C:A1 (xs.take (A1 (zB (val xs))))=A1 (zB (val xs)):=by rw[By];omega
 by_cases h0:A1 (zB (val xs))=0
 · rw[h0];simp[DG h0]
 · rw[<-Yo (fY h _) ?_,e]
   right
   rw[C];refine Cu λhz=>?_;have H:=uZ (xs.take (A1 (zB (val xs)))) (A1 (zB (val xs))-1) A3;rw[GS A3,wR A3,e,hz,FT,Cq] at H;have D:=gL (fY (fY h (A1 (zB (val xs)))) (A1 (zB (val xs))-1));rw[<-H,By,C,Dy A3] at D;have U:=qO D;omega
def GY(n:Nat):List Nat:=if n=0 then[] else n%10::GY (n/10)
termination_by n
decreasing_by omega
theorem iK:GY 0=[]:=by unfold GY;simp
theorem Py{n:Nat}(h:n≠0):GY n=n%10::GY (n/10):=by rw[GY];simp[h]
theorem dk{n k:Nat}(h:n<10^k):A1 (GY n)<=k:=by
 induction k generalizing n with
 |zero=>have:n=0:=by omega
        subst this;simp[iK]
 |succ k ih=>
  by_cases h0:n=0
  · subst h0;simp[iK]
  · rw[Py h0,lC]
    have:=ih (n:=n/10) (by rw[CT] at h;omega);omega
theorem ZD(n:Nat):∀d∈GY n,d<10:=by
 induction n using Nat.strongRecOn with
 |_ n ih=>
  by_cases h0:n=0
  · subst h0;simp[iK]
  · rw[Py h0]
    intro d hd
    rcases BY.1 hd with rfl|hd
    · omega
    · exact ih (n/10) A3 d hd
theorem mz{xs:List Nat}(h:BD xs):A1 (GY (val xs))<=10*A1 xs:=by
 refine dk (DO (gL h) ?_);rw[I4];exact Nat.pow_le_pow_left A3 _
def nL(n:Nat):List Nat:=(GY n).map (48+·)
def BZ(n:Nat):List Nat:=if n=0 then[48] else(nL n).reverse
theorem s0:nL 0=[]:=by simp[nL,iK]
theorem OB{n:Nat}(h:n≠0):nL n=(48+n%10)::nL (n/10):=by rw[nL,Py h];rfl
theorem Rx(n:Nat):∀d∈nL n,d<256:=by
 intro d C;obtain⟨x,hx,rfl⟩:=Cp.1 C;have:=ZD n x hx;omega
theorem Qk{xs:List Nat}(h:BD xs):A1 (nL (val xs))<=10*A1 xs:=by rw[nL,Bu];exact mz h
theorem Wz{x n k:Nat}(h:x≠0\/n≠0):nL (x+10^(k+1)*n)=(48+x%10)::nL (x/10+10^k*n):=by
 have D:0<10^k:=DX A3;have e:10^(k+1)*n=10*(10^k*n):=by rw[CT,Dw (10^k) 10,IP]
 have C:x+10^(k+1)*n≠0:=by
  rcases h with h|h
  · omega
  · have:=Nat.mul_pos (DX (n:=k+1) (show 0<10 by omega)) (Cu h)
    omega
 rw[OB C,e,show(x+10*(10^k*n))%10=x%10 by omega,show(x+10*(10^k*n))/10=x/10+10^k*n by omega]
theorem cy{xs ys:List Nat}(hl:A1 ys=A1 xs)(h:∀k,k<A1 xs->A0 ys k 0=A0 xs (A1 xs-1-k) 0):ys=xs.reverse:=by
 apply LA (by simp[hl])
 intro i h1 h2;have:=h i A3;rw[Au,BV h1,Au,BV A3] at this;rw[List.getElem_reverse]
 simpa using this
theorem yJ{n:Nat}:0<A1 (zB n)↔n≠0:=by
 by_cases h:n=0
 · subst h;simp[xT]
 · rw[gJ A3];simp[h]
theorem uT(n:Nat):n<4294967296^A1 (zB n):=by
 have:=gL (wY n)
 rwa [zF] at this
theorem yV(m n:Nat):A1 (zB (m*n))<=A1 (zB m)+A1 (zB n):=by
 refine qO ?_;rw[CX]
 rcases KX n with h|h
 · subst h
   rw[FT];exact Nat.mul_pos (DX A3) (DX A3)
 · exact DO (Ll (uT m) h) (Dz _ (Ib (uT n)))
theorem gE(m n:Nat):A1 (zB (m+n))<=A1 (zB m)+A1 (zB n)+1:=by
 refine qO ?_;have h1:=uT m;have h2:=uT n;have h3:(4294967296:Nat)^A1 (zB m)<=4294967296^(A1 (zB m)+A1 (zB n)):=D0 Aa A3;have C:(4294967296:Nat)^A1 (zB n)<=4294967296^(A1 (zB m)+A1 (zB n)):=D0 Aa A3;rw[CT];omega
theorem gP{n:Nat}(h:n<18446744073709551616):A1 (zB n)<=2:=qO h
theorem ni{x:Nat}(h:x≠0):uO x=uO (x/2)+1:=by
 by_cases h2:2<=x
 · exact RQ (k:=1) h2
 · have:x=1:=by omega
   subst this
   decide
theorem oL(m n:Nat):Nat.gcd n (m%n)=Nat.gcd m n:=by rw[Nv,<-Nat.gcd_rec,Nv]
theorem mF{n:Nat}(h:A1 (zB n)<=2):n<18446744073709551616:=DO (uT n) (D0 Aa h)
theorem Ta{xs:List Nat}(h:BD xs)(hl:A1 xs<=A1 (zB (val xs))):zB (val xs)=xs:=by
 have:=Xy h;rw[Hn hl] at this;exact this.symm
theorem Yb{n i:Nat}(h:4294967296^i<=n):i<A1 (zB n):=by
 refine C7 λC=>?_;have h1:=uT n;have h2:(4294967296:Nat)^A1 (zB n)<=4294967296^i:=D0 Aa A3;omega
end Bk
namespace Bk
open Go Go.RowKit
section
variable {P:D}{n:Nat}{w0:AP}{h0:A4}{e:List (Nat×A2)}{L:List AG}{h:A4}{Q:BH->Av->AP->Prop}
variable {ds:Option Tmp}{ty:Ab}{ps:String}{af:Array Edge}{gd:Option (Nat×Bool)}
abbrev AG.var(b:Nat)(E:Ab)(cs:List A2):AG:=.blk b (.cells (Am cs) E)
abbrev vP(b k:Nat):A2:=.pointer (some ⟨b,k,none⟩)
theorem S8(w:AP)(o:Obj):(w.alloc o).heap[w.heap.size]?=some o:=by
 show(w.heap.push o)[w.heap.size]?=some o
 exact Array.getElem?_push_size
theorem wE{E:Ab}{x:Ag}{v:A2}{cs:List A2}(hx:zK e x=some v)(hc:v.cells=Am cs):
 aU P n w0 h0 ⟨ds,.box E x,ty,ps,af,gd⟩ e L h (λu r=>∃b,u=vP b 0/\r=.var b E cs):=by
 intro a w D S;refine⟨_,w.alloc (.cells (Am cs) E),.var w.heap.size E cs,?_,AP.grownBy_alloc w _ none,?_,λb C=>?_,_,I,I⟩
 · simp[execOp,D.eval hx,Instr.box,newVar,newRow,newObj,Sem.run,hc]
 · exact S8 w _
 · simp only[AG.fp,Option.some.injEq] at C
   omega
theorem vD{E:Ab}{i:TypeInfo}{z:A2}{cs:List A2}(hi:P.info? E=some i)(hz:i.zero=some z)(hc:z.cells=Am cs):
 aU P n w0 h0 ⟨ds,.alloc E,ty,ps,af,gd⟩ e L h (λu r=>∃b,u=vP b 0/\r=.var b E cs):=by
 intro a w H S;refine⟨_,w.alloc (.cells (Am cs) E),.var w.heap.size E cs,?_,AP.grownBy_alloc w _ none,?_,λb D=>?_,_,I,I⟩
 · have C:(zeroValue E).run P w=.ok z w:=by simp[zeroValue,typeInfo,hi,hz]
   simp[execOp,Instr.alloc,C,newVar,newRow,newObj,Sem.run,hc]
 · exact S8 w _
 · simp only[AG.fp,Option.some.injEq] at D
   omega
theorem fI{t:Ab}{x:Ag}{f b k:Nat}{fs:Array Field}{fl:Field}{m:Nat}(ht:P.underlying t=some (.struct fs))(hf:fs[f]?=some fl)(hsz:∀w,(Go.sizeOf fl.type).run P w=.ok (m+1) w)(hx:zK e x=some (vP b k)):
 OpV P n w0 h0 ⟨ds,.fieldAddr t x f,ty,ps,af,gd⟩ e L h (vP b (k+fl.offset)):=by
 intro a w C S;simp[execOp,C.eval hx,Instr.fieldAt,run_underlying ht,hf,Instr.sureAddr,fieldPlace,hsz,kD]
theorem w4{b:Nat}{E:Ab}{cs:List A2}{w:AP}(hw:w.heap[b]?=some (.cells (Am cs) E))(k:Nat)(vs:List A2)(hv:(cs.drop k).take vs.length=vs):w.rangeAt b k vs:=by
 intro j v D;have C:j<vs.length:=(Hk.1 D).1;have h1:cs[k+j]?=some v:=by
  rw[<-hv,Dj,AC C,F5] at D;exact D
 unfold AP.cell?;simp[hw,h1]
theorem dU{t:Ab}{x:Ag}{b k:Nat}{E:Ab}{cs:List A2}{v:A2}(hm:.var b E cs∈L)(ha:∀w,(isAgg t).run P w=.ok false w)(hx:zK e x=some (vP b k))(hv:cs[k]?=some v):
 OpV P n w0 h0 ⟨ds,.load t x,ty,ps,af,gd⟩ e L h v:=by
 intro a w H S;have C:w.heap[b]?=some (.cells (Am cs) E):=S.ok _ hm;have D:w.cell? ⟨b,k,none⟩=some v:=by unfold AP.cell?;simp[C,hv]
 simp[execOp,H.eval hx,Instr.loadAt,Instr.sureAddr,loadVar,ha,Go.load,Sem.run,D]
theorem vp{t:Ab}{x:Ag}{b k:Nat}{E:Ab}{cs vs:List A2}{d:TypeDesc}(hm:.var b E cs∈L)(hu:P.underlying t=some d)(hd:d.isRow=true)(hi:(P.info? t).map (·.size)=some vs.length)(hx:zK e x=some (vP b k))(hv:(cs.drop k).take vs.length=vs):
 OpV P n w0 h0 ⟨ds,.load t x,ty,ps,af,gd⟩ e L h (.agg vs.toArray):=by
 intro a w D S;have C:w.heap[b]?=some (.cells (Am cs) E):=S.ok _ hm;simp only[execOp,D.eval hx];rw[Sem.run_bind,run_loadAt_mid w b k t vs d (w4 C k vs hv) hu hd hi]
 rfl
theorem eE{b:Nat}{E:Ab}:∀(vs:List A2) (k:Nat) (cs:List A2) (w:AP),w.heap[b]?=some (.cells (Am cs) E)->
 (w.setCells b k vs).heap[b]?=some (.cells (Am (vs.zipIdx.foldl (λc p=>c.set (k+p.2) p.1) cs)) E)/\w.grownBy (w.setCells b k vs) (some b)
 |[],k,cs,w,hw=>⟨hw,⟨rfl,rfl,rfl,B1 _,λ_ _ _=>rfl⟩⟩
 |v::r,k,cs,w,hw=>by
  have h1:(w.setCell ⟨b,k,none⟩ v).heap[b]?=some (.cells (Am (cs.set k v)) E):=by
   simp[AP.setCell,Array.getElem?_modify,hw]
  obtain⟨h2,h3⟩:=eE r (k+1) (cs.set k v) _ h1;have U:((v::r).zipIdx.foldl (λc p=>c.set (k+p.2) p.1) cs)=(r.zipIdx.foldl (λc p=>c.set (k+1+p.2) p.1) (cs.set k v)):=by
   rw[Je,Hl,Cq,List.zipIdx_succ,List.foldl_map]
   congr 1
   funext c p
   rw[show k+(p.2+1)=k+1+p.2 by omega]
  refine⟨?_,?_⟩
  · rw[AP.setCells,U];exact h2
  · have J:b<w.heap.size:=(Eo.1 hw).1
    refine⟨?_,?_,?_,?_,?_⟩
    · exact h3.os
    · exact h3.tape
    · exact h3.output
    · have:=h3.size
      simpa[AP.setCells,AP.setCell] using this
    · intro H D C
      have M:=h3.block H (by simpa[AP.setCell] using D) C;rw[AP.setCells,M];have:b≠H:=λhh=>C (by rw[hh]);simp[AP.setCell,Array.getElem?_modify,this]
def GJ(cs:List A2)(k:Nat)(vs:List A2):List A2:=vs.zipIdx.foldl (λc p=>c.set (k+p.2) p.1) cs
theorem zJ{A B:List AG}{E t:Ab}{b k:Nat}{cs vs:List A2}{v:A2}{x y:Ag}(hx:zK e x=some (vP b k))(hy:zK e y=some v)(hv:v.cells=vs.toArray)(h1:vs.all (·.oneCell')=true)
    (hi:(P.info? t).map (·.size)=some vs.length)(hk:k+vs.length<=A1 cs):EH P n w0 h0 ⟨ds,.store t x y,ty,ps,af,gd⟩ e A (.var b E cs) B h (.var b E (GJ cs k vs)):=by
 intro a w U S;have J:w.heap[b]?=some (.cells (Am cs) E):=S.ok (.var b E cs) B9;obtain⟨h2,h3⟩:=eE vs k cs w J;refine⟨w.setCells b k vs,?_,h3,h2⟩;have C:w.there b k vs.length:=by
  intro j H;have:k+j<A1 cs:=by omega
  refine⟨?_,?_⟩
  · unfold AP.cell?
    simp[J,this]
  · simp[AP.frozen?,J]
 have D:=run_storeCells_cells (P:=P) b k vs 0 w (λj H=>by simpa using(C j H).1) (λj H=>by simpa using(C j H).2) (λu Z=>Bb.1 h1 u Z);have M:(Go.sizeOf t).run P w=.ok vs.length w:=by
  cases hq:P.info? t with
  |none=>simp[hq] at hi
  |some i=>
   have:i.size=vs.length:=by simpa[hq] using hi
   simp[Go.sizeOf,typeInfo,hq,this]
 simp only[Cq] at D;simp[execOp,U.eval hx,U.eval hy,Instr.storeAt,Instr.sureAddr,storeVar,M,hv,D]
def iR(e:List (Nat×A2)):List (Nat×Ag)->List (Nat×A2)->Prop
  |[],[]=>True
  |(i,x)::r,(j,v)::s=>i=j/\zK e x=some v/\iR e r s
  |_,_=>False
theorem iR.eval{a:Av}(Ev:Bp n e a):∀{ps:List (Nat×Ag)} {vs:List (Nat×A2)},iR e ps vs->(ps.map λp=>(p.1,a.eval p.2))=vs
  |[],[],_=>rfl
  |(i,x)::r,(j,v)::s,h=>by
   obtain⟨rfl,h2,h3⟩:=h;rw[Dx,iR.eval Ev h3,Ev.eval h2]
  |[],_::_,h=>h.elim
  |_::_,[],h=>h.elim
theorem Us.oneCell{k:B2}{v:A2}{xs:List Nat}(s:Us k h v xs):v.oneCell'=true:=by
 obtain⟨_,_,rfl⟩:=s.one
 rfl
theorem Us.cells{k:B2}{v:A2}{xs:List Nat}(s:Us k h v xs):v.cells=[v].toArray:=by
 obtain⟨_,_,rfl⟩:=s.one
 rfl
theorem Bf:([]:List A2).all (·.oneCell')=true:=rfl
theorem Aw{k:B2}{h:A4}{v:A2}{xs:List Nat}{cs:List A2}(s:Us k h v xs)(r:cs.all (·.oneCell')=true):(v::cs).all (·.oneCell')=true:=by
 rw[M0,s.oneCell,r];rfl
theorem BW{v:A2}{cs:List A2}(s:v.oneCell'=true)(r:cs.all (·.oneCell')=true):(v::cs).all (·.oneCell')=true:=by
 rw[M0,s,r];rfl
theorem lc:∀(cs B A C:List A2),A1 cs=A1 B->(cs.zipIdx.foldl (λ(a:Array A2) (p:A2×Nat)=>D9 a (A1 A+p.2) p.1) (Am (A++B++C)))=Am (A++cs++C):=by
 have key:∀(cs B A C:List A2) (k:Nat) (A0:Nat),A1 A=A0+k->A1 cs=A1 B->((cs.zipIdx k).foldl (λ(a:Array A2) (p:A2×Nat)=>D9 a (A0+p.2) p.1) (Am (A++B++C)))=Am (A++cs++C):=by
  intro cs
  induction cs with
  |nil=>
   intro B A C k A0 hA hB;have:B=[]:=DG hB.symm;subst this;rfl
  |cons c cs ih=>
   intro B A C k A0 hA hB
   cases B with
   |nil=>simp at hB
   |cons b B=>
    have e:D9 (Am (A++b::B++C)) (A0+k) c=Am ((A++[c])++B++C):=by
     rw[<-hA];simp[List.set_append]
    rw[Je,Hl]
    show List.foldl _ (D9 (Am (A++b::B++C)) (A0+k) c) _=_
    rw[e,ih B (A++[c]) C (k+1) A0 Gl (by simpa using hB)];simp
 intro cs B A C h;exact key cs B A C 0 (A1 A) I h
theorem wV{place:Nat->Option (Nat×Nat)}{i off size:Nat}{A B C cs:List A2}{v:A2}{rest:List (Nat×A2)}{r:Option (Array A2)}(hp:place i=some (off,size))(hA:A1 A=off)(hB:A1 B=size)(hs:A1 cs=size)(hc:v.cells=Am cs)
    (k:Instr.fill place (Am (A++cs++C)) rest=r):Instr.fill place (Am (A++B++C)) ((i,v)::rest)=r:=by
 subst hA;have h1:v.cells.size=size:=by rw[hc];simpa using hs
 have h3:(decide (v.cells.size≠size)||decide (A1 A+v.cells.size>(Am (A++B++C)).size))=false:=by
  rw[h1];simp;omega
 simp only[Instr.fill,hp];rw[h3,A8 Aa,hc,<-Array.foldl_toList,Array.toList_zipIdx,lc cs B A C A3];exact k
theorem qW{place:Nat->Option (Nat×Nat)}{vs:List A2}:Instr.fill place vs.toArray []=some vs.toArray:=rfl
theorem xQ{t:Ab}{i:TypeInfo}{z:A2}{fs:Array Field}{places:Array (Nat×Nat)}{parts:List (Nat×Ag)}{ps':List (Nat×A2)}{vs:List A2}(ht:P.underlying t=some (.struct fs))(hi:P.info? t=some i)(hz:i.zero=some z)
    (hpl:∀w,(fs.mapM λ(f:Field)=>do pure (f.offset,<-Go.sizeOf f.type)).run P w=.ok places w)(hp:iR e parts ps')(hf:Instr.fill (places[·]?) z.cells ps'=some vs.toArray):
    OpV P n w0 h0 ⟨ds,.build t (Am parts),ty,ps,af,gd⟩ e L h (.agg vs.toArray):=by
 intro a w H S;have D:((Am parts).map λ(p:Nat×Ag)=>(p.1,a.eval p.2)).toList=ps':=by
  rw[Ey];exact hp.eval H
 have C:(zeroValue t).run P w=.ok z w:=by simp[zeroValue,typeInfo,hi,hz]
 simp only[execOp,Instr.build];rw[show((Am parts).map λ(i,x)=>(i,a.eval x)).toList=ps' from D];simp only[Sem.run_bind,C,Result.andThen_ok,run_underlying ht,hpl,hf]
 rfl
def LP(tmps:Array A2):ResultVar->Sem A2
  | .tmp t=>pure (tmps.getD t undef)
  | .cell a t=>do loadVar t (<-asAddr (tmps.getD a undef))
def RV(P:D)(n:Nat)(w0:AP)(h0:A4)(r:ResultVar)(e:List (Nat×A2))(L:List AG)(h:A4)(v:A2):Prop:=∀a w,Bp n e a->St w0 h0 L h w->(LP a.tmps r).run P w=.ok v w
theorem gA{t:Nat}{v:A2}(hv:zK e (.tmp t)=some v):RV P n w0 h0 (.tmp t) e L h v:=by
 intro a w E S;have:=E.eval hv;simp only[Av.eval] at this;simp[LP,this]
theorem wM{t:Nat}{T E:Ab}{b:Nat}{cs:List A2}{d:TypeDesc}(hm:.var b E cs∈L)(hu:P.underlying T=some d)(hd:d.isRow=true)(hi:(P.info? T).map (·.size)=some (A1 cs))(hx:zK e (.tmp t)=some (vP b 0)):RV P n w0 h0 (.cell t T) e L h (.agg (Am cs)):=by
 intro a w D S;have C:w.heap[b]?=some (.cells (Am cs) E):=S.ok _ hm;have:=D.eval hx;simp only[Av.eval] at this;have h2:=run_loadVar_mid (P:=P) w b 0 T cs d (w4 C 0 cs B9) hu hd hi;simp[LP,this,asAddr,h2]
theorem YO(fn:Func)(tmps:Array A2):results fn tmps=(do let vs <-fn.results.mapM (LP tmps);pure (if h:vs.size=1 then vs[0] else .tuple vs)):=by
 unfold results
 congr 1
section
variable {fn:Func}{r1 r2 r3 r4:ResultVar}{v1 v2 v3 v4:A2}{R:A4->A2->Prop}{RO:A4->A2->List AG->Prop}
theorem zS(hr:fn.results=#[r1])(h1:RV P n w0 h0 r1 e L h v1){a:Av}{w:AP}(Ev:Bp n e a)(S:St w0 h0 L h w):(results fn a.tmps).run P w=.ok v1 w:=by
 simp[YO,hr,h1 a w Ev S]
theorem qG(hr:fn.results=#[r1,r2])(h1:RV P n w0 h0 r1 e L h v1)(h2:RV P n w0 h0 r2 e L h v2){a:Av}{w:AP}(Ev:Bp n e a)(S:St w0 h0 L h w):(results fn a.tmps).run P w=.ok (.tuple #[v1,v2]) w:=by
 simp[YO,hr,h1 a w Ev S,h2 a w Ev S]
theorem yI{v:A2}(hres:∀{a:Av} {w:AP},Bp n e a->St w0 h0 L h w->(results fn a.tmps).run P w=.ok v w)(hR:R h v):GQ n w0 h0 (bodyPost P fn (Bh w0 h0 R)) .ret e L h:=by
 intro a w E S;exact bodyPost_ret (hres E S) E.defers ⟨_,h,I,hR,S.sublist (E3 _)⟩
theorem bP{v:A2}(hres:∀{a:Av} {w:AP},Bp n e a->St w0 h0 L h w->(results fn a.tmps).run P w=.ok v w)(hR:RO h v L):GQ n w0 h0 (bodyPost P fn (gV w0 h0 RO)) .ret e L h:=by
 intro a w E S;exact bodyPost_ret (hres E S) E.defers ⟨_,h,L,I,hR,S⟩
end
end
end Bk
namespace Bk
theorem iH(xs:List Nat)(j k:Nat):A0 (xs.drop j) k 0=A0 xs (j+k) 0:=by
 rw[Au,F5,<-Au]
theorem kY{xs:List Nat}(h:BD xs)(j:Nat):val (xs.drop j)=val xs/4294967296^j:=by
 by_cases hj:j<=A1 xs
 · have h1:=fN xs j hj
   have h2:=gL (fY h j);rw[By,Dy hj] at h2;rw[h1,Np _ _ (DX A3),Fu h2,E6]
 · rw[EB A3,Fu (DO (gL h) (D0 A3 A3))]
   rfl
theorem iT{xs:List Nat}{k:Nat}(h:val xs<4294967296^k){i:Nat}(hi:k<=i):A0 xs i 0=0:=by
 by_cases hl:i<A1 xs
 · refine C7 λC=>?_
   have h1:=fN xs i A3;have h2:=kL xs i hl;have h3:4294967296^k<=4294967296^i:=D0 A3 hi;have D:4294967296^i*1<=4294967296^i*val (xs.drop i):=Dz _ A3;omega
 · exact rH A3
theorem g0{xs:List Nat}(hf:BD xs){J n:Nat}(h:val (xs.drop J)<4294967296^n):val xs<4294967296^(J+n):=by
 rw[kY hf] at h;have:=Nat.lt_mul_of_div_lt h (DX A3);rw[CX,Dw];exact this
theorem dE{xs:List Nat}(hf:BD xs){k:Nat}(h:∀i,k<=i->A0 xs i 0=0):val xs<4294967296^k:=by
 by_cases hk:k<=A1 xs
 · have h1:=fN xs k hk
   have h2:=gL (fY hf k);rw[By,Dy hk] at h2;have h3:val (xs.drop k)=0:=S2 λx hx=>by
    obtain⟨i,hi,rfl⟩:=J4 hx;have:=h (k+i) A3;rw[<-iH,Au,BV hi] at this
    simpa using this
   rw[h3,FT] at h1;omega
 · exact DO (gL hf) (D0 A3 A3)
theorem a5{xs:List Nat}{n:Nat}(hn:2<=n)(hl:A1 xs=n):val xs=(A0 xs (n-1) 0*4294967296+A0 xs (n-2) 0)*4294967296^(n-2)+val (xs.take (n-2)):=by
 obtain⟨k,rfl⟩:∃k,n=k+2:=⟨n-2,A3⟩;have h1:val xs=val (xs.take (k+1+1)):=(wR A3).symm;rw[h1,uP,uP];simp only[Hs,show k+2-1=k+1 by omega,CT];generalize 4294967296^k=p;generalize (4294967296:Nat)=B;grind
theorem ne(B p q0 a b c v3 v2 v1 P1 P2:Nat)(e1:P1=p*B)(e2:P2=P1*B)(h1:v3=v2+P2*a)(h2:v2=v1+P1*b)(h3:v1=q0+p*c):v3=((a*B+b)*B+c)*p+q0:=by
 subst e2 e1 h1 h2 h3;grind
theorem of{ys:List Nat}{m:Nat}(hz:∀i,m<=i->A0 ys i 0=0):val ys=val (ys.take m):=by
 by_cases hl:m<=A1 ys
 · have h1:=fN ys m hl
   have h3:val (ys.drop m)=0:=S2 λx hx=>by
    obtain⟨i,hi,rfl⟩:=J4 hx;have:=hz (m+i) A3;rw[<-iH,Au,BV hi] at this
    simpa using this
   rw[h3,FT,Cq] at h1;exact h1
 · exact(wR A3).symm
theorem b3{xs:List Nat}{j n:Nat}(hn:2<=n)(hz:∀i,j+n<i->A0 xs i 0=0)(hf:BD xs):
 ∃w,val (xs.drop j)=((A0 xs (j+n) 0*4294967296+A0 xs (j+n-1) 0)*4294967296+A0 xs (j+n-2) 0)*4294967296^(n-2)+w/\w<4294967296^(n-2):=by
 obtain⟨k,rfl⟩:∃k,n=k+2:=⟨n-2,A3⟩;rw[Hs,show j+(k+2)-1=j+(k+1) by omega,show j+(k+2)-2=j+k by omega];refine⟨val ((xs.drop j).take k),?_,?_⟩
 · have h0:val (xs.drop j)=val ((xs.drop j).take (k+3)):=of λi hi=>by rw[iH];exact hz _ A3
   have h1:=uP (xs.drop j) (k+2);have h2:=uP (xs.drop j) (k+1);have h3:=uP (xs.drop j) k;rw[iH] at h1 h2 h3;exact h0.trans (ne _ _ _ _ _ _ _ _ _ _ _ (CT _ _) (CT _ _) h1 h2 h3)
 · have:=gL (fY (x4 hf j) k)
   refine DO this (D0 Aa ?_);simp[By];omega
section est
variable {V W P v1 v2 vr top u3 wr x rest:Nat}
theorem Vr(hV:V=(v1*4294967296+v2)*P+vr)(hW:W=(top*4294967296+u3)*P+wr)(hu:u3<4294967296)(hw:wr<P)(h1:0<v1):W<(top/v1+1)*V:=by
 have h2:top<v1*(top/v1+1):=Nat.lt_mul_div_succ top h1;have h3:(top+1)*4294967296<=v1*(top/v1+1)*4294967296:=CP _ h2;have H:(top*4294967296+u3+1)*P<=v1*(top/v1+1)*4294967296*P:=CP _ A3;have D:(top/v1+1)*V=v1*(top/v1+1)*4294967296*P+(top/v1+1)*(v2*P+vr):=by rw[hV];generalize (4294967296:Nat)=B;grind
 have C:(top*4294967296+u3+1)*P=(top*4294967296+u3)*P+P:=by generalize (4294967296:Nat)=B;grind
 omega
theorem jm(hV:V=(v1*4294967296+v2)*P+vr)(hW:W=(top*4294967296+u3)*P+wr)(hw:wr<P)(ht:x*v1+rest=top)(hb:rest*4294967296+u3<x*v2):W<x*V:=by
 have h1:(rest*4294967296+u3+1)*P<=x*v2*P:=CP _ hb;have h2:x*V=x*v1*4294967296*P+x*v2*P+x*vr:=by rw[hV];generalize (4294967296:Nat)=B;grind
 have h3:(top*4294967296+u3)*P=x*v1*4294967296*P+(rest*4294967296+u3)*P:=by rw[<-ht];generalize (4294967296:Nat)=B;grind
 have C:(rest*4294967296+u3+1)*P=(rest*4294967296+u3)*P+P:=by generalize (4294967296:Nat)=B;grind
 omega
theorem mo(hV:V=(v1*4294967296+v2)*P+vr)(hW:W=(top*4294967296+u3)*P+wr)(hr:vr<P)(h1:0<v1)(ht:x*v1+rest=top)(hx:x<4294967296)(hb:x*v2<=rest*4294967296+u3):x*V<W+V:=by
 have h2:x*v2*P<=(rest*4294967296+u3)*P:=CP _ hb;have h3:x*V=x*v1*4294967296*P+x*v2*P+x*vr:=by rw[hV];generalize (4294967296:Nat)=B;grind
 have M:(top*4294967296+u3)*P=x*v1*4294967296*P+(rest*4294967296+u3)*P:=by rw[<-ht];generalize (4294967296:Nat)=B;grind
 have C:0<P:=by omega
 have J:x*vr<4294967296*P:=by
  have:=Fl (show x<=4294967295 by omega) (show vr<=P by omega);omega
 have H:1*(4294967296*P)<=v1*(4294967296*P):=CP _ h1;have D:V=v1*(4294967296*P)+(v2*P+vr):=by rw[hV];generalize (4294967296:Nat)=B;grind
 omega
theorem c1(hV:V=(v1*4294967296+v2)*P+vr)(hW:W=(top*4294967296+u3)*P+wr)(hr:vr<P)(h2:v2<4294967296)(hWV:W<4294967296*V):top<=v1*4294967296+4294967295:=by
 refine C7 λC=>?_;have h3:(v1*4294967296+4294967296)*(4294967296*P)<=top*(4294967296*P):=CP _ A3;have M:(v1*4294967296+v2+1)*P<=(v1*4294967296+4294967296)*P:=CP _ A3;have J:(top*4294967296+u3)*P=top*(4294967296*P)+u3*P:=by generalize (4294967296:Nat)=B;grind
 have H:(v1*4294967296+v2+1)*P=(v1*4294967296+v2)*P+P:=by generalize (4294967296:Nat)=B;grind
 have D:(v1*4294967296+4294967296)*(4294967296*P)=4294967296*((v1*4294967296+4294967296)*P):=by generalize (4294967296:Nat)=B;grind
 omega
theorem Zn(hV:V=(v1*4294967296+v2)*P+vr)(hW:W=(top*4294967296+u3)*P+wr)(hr:vr<P)(h2:v2<4294967296)(ht:x*v1+rest=top)(hre:4294967296<=rest)(htop:top<=v1*4294967296+4294967295)(h1:0<v1):x<4294967296/\x*V<=W:=by
 have hx:x<4294967296:=by
  refine C7 λD=>?_;have:4294967296*v1<=x*v1:=CP _ A3;omega
 refine⟨hx,?_⟩;have h3:x*V=x*v1*4294967296*P+x*(v2*P+vr):=by rw[hV];generalize (4294967296:Nat)=B;grind
 have U:(top*4294967296+u3)*P=x*v1*4294967296*P+(rest*4294967296)*P+u3*P:=by rw[<-ht];generalize (4294967296:Nat)=B;grind
 have C:v2*P+vr<=4294967296*P:=by
  have:=CP P (show v2+1<=4294967296 by omega);generalize (4294967296:Nat)=B at *;grind
 have M:x*(v2*P+vr)<=4294967296*(4294967296*P):=Fl A3 C;have J:4294967296*4294967296*P<=rest*4294967296*P:=CP _ (CP _ hre);have H:4294967296*(4294967296*P)=4294967296*4294967296*P:=by generalize (4294967296:Nat)=B;grind
 omega
end est
theorem Vt{us ts:List Nat}{j x V:Nat}(hf:BD us)(hft:BD ts)(h:val ts+4294967296^j*(x*V)=val us)(hx:val (us.drop j)<(x+1)*V):val (ts.drop j)<V:=by
 have C:0<4294967296^j:=DX A3;rw[kY hf,<-h,Np _ _ C,<-kY hft,EP] at hx;omega
theorem sc{us ts rs:List Nat}{j n x V b o:Nat}(hf:BD us)(hfr:BD rs)(ht:val ts<4294967296^(j+n+1))(hr:val rs<4294967296^(j+n+1))(hb:b=1)(h:val ts+4294967296^j*(x*V)=val us+4294967296^(j+n+1)*b)
    (hx:x*V<val (us.drop j)+V)(ho:val rs+4294967296^(j+n+1)*o=val ts+4294967296^j*V)(ho1:o<=1):0<x/\val rs+4294967296^j*((x-1)*V)=val us/\val (rs.drop j)<V:=by
 subst hb;have U:0<4294967296^j:=DX A3;have h1:val us<4294967296^j*(x*V):=by omega
 have J:val (us.drop j)<x*V:=by
  rw[kY hf];exact Hv h1
 have H:0<x:=Cu λh0=>by rw[h0,E2] at J;omega
 obtain⟨y,rfl⟩:∃y,x=y+1:=⟨x-1,A3⟩;rw[Hs];have M:(y+1)*V=y*V+V:=by rw[EP,IS]
 have e2:4294967296^j*((y+1)*V)=4294967296^j*(y*V)+4294967296^j*V:=by rw[M,Km]
 have h2:4294967296^j*(y*V)<=val us:=by
  have h3:4294967296^j*(y*V)<=4294967296^j*val (us.drop j):=Dz _ A3;have Z:4294967296^j*val (us.drop j)<=val us:=by rw[kY hf];exact Nat.mul_div_le _ _
  omega
 have C:o=1:=by
  rcases KX o with h0|h0
  · subst h0;omega
  · omega
 subst C;have D:val rs+4294967296^j*(y*V)=val us:=by omega
 exact⟨A3,D,Vt hf hfr D A3⟩
theorem YN{Y k s:Nat}(hY:Y≠0)(hk:k+1=A1 (zB Y))(hs:s=32-uO (A0 (zB Y) k 0)):s<32/\A1 (zB (Y*2^s))=k+1/\2147483648<=A0 (zB (Y*2^s)) k 0:=by
 have hf:=wY Y;have C:A0 (zB Y) k 0≠0:=by
  have:=rS (n:=Y) A3
  rwa [show(A1 (zB Y))-1=k by omega] at this
 have hb:=Qq hf hk C;rw[zF] at hb;have ab:=WY C;have aa:=nO (n:=A0 (zB Y) k 0) (k:=32) (jF hf k);have J:=Wu hY;have U:=iB Y;have e1:(4294967296:Nat)^k*2147483648=2^(32*k+31):=by rw[CX,I4]
 have e2:(4294967296:Nat)^(k+1)=2^(32*k+32):=by rw[CT,CX,I4]
 have Z:4294967296^k*2147483648<=Y*2^s:=by
  rw[e1,show 32*k+31=(uO Y-1)+s by omega,CX];exact CP _ J
 have D:Y*2^s<4294967296^(k+1):=by
  rw[e2,show 32*k+32=uO Y+s by omega,CX];exact Ll U (DX A3)
 have M:=qO D;have H:=wY (Y*2^s);have hl:A1 (zB (Y*2^s))=k+1:=by
  refine Nat.le_antisymm M (C7 λhc=>?_);have h1:=gL H;rw[zF] at h1;have h2:(4294967296:Nat)^A1 (zB (Y*2^s))<=4294967296^k:=D0 A3 A3;omega
 refine⟨A3,hl,C7 λhc=>?_⟩;have h1:=uP (zB (Y*2^s)) k;rw[wR A3,zF] at h1;have h2:=gL (fY H k);rw[By,Dy A3] at h2;have h3:4294967296^k*(A0 (zB (Y*2^s)) k 0+1)<=4294967296^k*2147483648:=Dz _ A3;rw[Km,F9] at h3;omega
theorem g1(c:Nat):c&&&4294967295=c%4294967296:=Nat.and_two_pow_sub_one_eq_mod c 32
theorem d6{X Y la k s:Nat}{us:List Nat}(hf:BD us)(hX:X<4294967296^la)(hus:val us=X*2^s)(hk:k<=la)(hY:4294967296^k<=Y):val (us.drop (la-k))<Y*2^s:=by
 rw[kY hf,hus];refine Hv ?_;rw[<-IP];refine Ll (DO hX ?_) (DX A3);rw[show la=(la-k)+k by omega,CX,show la-k+k-k=la-k by omega];exact Dz _ hY
theorem Zs{X Y s u q:Nat}(hY:0<Y)(h:u+q*(Y*2^s)=X*2^s)(hu:u<Y*2^s):q=X/Y/\u/2^s=X%Y:=by
 have C:0<2^s:=DX A3;have h1:u=(X-q*Y)*2^s:=by
  rw[KY,IP];omega
 have h2:q*Y<=X:=by
  refine Nat.le_of_mul_le_mul_right (c:=2^s) ?_ C;rw[IP];omega
 have h3:X-q*Y<Y:=by
  refine Nat.lt_of_mul_lt_mul_right (a:=2^s) ?_;omega
 have D:X=q*Y+(X-q*Y):=by omega
 refine⟨?_,?_⟩
 · generalize X-q*Y=r at *
   rw[D,Dw q Y,Nat.mul_add_div hY,Fu h3];omega
 · rw[h1,Nat.mul_div_cancel _ C]
   generalize X-q*Y=r at *;rw[D,Dw q Y,Nat.mul_add_mod,CG h3]
theorem NR{x v r t:Nat}(h:x*v+r=t)(hx:1<=x):(x-1)*v+(r+v)=t:=by
 obtain⟨y,rfl⟩:∃y,x=y+1:=⟨x-1,A3⟩;rw[EP,IS] at h;rw[Hs];omega
theorem hP{x v r t:Nat}(h:x*v+r=t)(ht:t<=v*4294967296+4294967295)(hv:2147483648<=v):x<=4294967297:=by
 refine C7 λC=>?_;have:=CP v (show 4294967298<=x by omega);omega
theorem tj{B p q vt vt' vu x yT Y X y' c b c' b' l:Nat}(h:vt+p*(x*yT)=vu+p*q*(c+b))(h1:vt'+p*q*X=vt+p*q*y')(e1:y'+l+b=X+B*b')(e2:B*c'+l=c+x*Y):vt'+p*(x*(yT+q*Y))=vu+p*q*B*(c'+b'):=by grind
theorem kf{B p q vt vt' vu xV X y' c b b':Nat}(h:vt+p*xV=vu+p*q*(c+b))(h1:vt'+p*q*X=vt+p*q*y')(e1:y'+c+b=X+B*b'):vt'+p*xV=vu+p*q*B*b':=by grind
theorem oa{B p q vt vt' vu yT Y X y' c c':Nat}(h:vt+p*q*c=vu+p*yT)(h1:vt'+p*q*X=vt+p*q*y')(e:B*c'+y'=c+(X+Y)):vt'+p*q*B*c'=vu+p*(yT+q*Y):=by grind
theorem jn{B p q vt vt' vu V X y' c c':Nat}(h:vt+p*q*c=vu+p*V)(h1:vt'+p*q*X=vt+p*q*y')(e:B*c'+y'=X+c):vt'+p*q*B*c'=vu+p*V:=by grind
theorem tv{B p vu vr vq x V U:Nat}(h:vu+p*B*(vq*V)=U)(h2:vr+p*(x*V)=vu):vr+p*((x+B*vq)*V)=U:=by grind
theorem L9{xs:List Nat}(h:A1 xs=1):val xs=A0 xs 0 0:=by
 match xs,h with
 |[x],_=>simp[val]
def dH(s:Nat)(xs:List Nat)(i:Nat):Nat:=val (xs.drop i)/2^s%4294967296
def EC(s:Nat)(xs:List Nat)(i:Nat):List Nat:=(List.range i).map (dH s xs)++xs.drop i
theorem kg(s:Nat)(xs:List Nat):EC s xs 0=xs:=by simp[EC]
theorem tU{s:Nat}{xs:List Nat}{i:Nat}(h:i<=A1 xs):A1 (EC s xs i)=A1 xs:=by simp[EC];omega
theorem Uv{s:Nat}{xs:List Nat}{i k:Nat}(h:i<=k):A0 (EC s xs i) k 0=A0 xs k 0:=by
 rw[Au,EC,Pr (by simpa using h),Bu,Pv,F5,<-Au,show i+(k-i)=k by omega]
theorem XQ{s:Nat}{xs:List Nat}{i:Nat}(h:i<A1 xs):(EC s xs i).set i (dH s xs i)=EC s xs (i+1):=by
 rw[EC,EC,Nc _ _ B9,Bu,Pv,M3,tR xs i h,List.range_succ];simp
theorem W8(s:Nat)(xs:List Nat)(i:Nat):dH s xs i<4294967296:=BQ _ A3
theorem lw{s:Nat}{xs:List Nat}{i:Nat}(h:BD xs):BD (EC s xs i):=uX (λx hx=>by obtain⟨k,_,rfl⟩:=Cp.1 hx;exact W8 s xs k) (x4 h i)
theorem Uw{s:Nat}{xs:List Nat}(hf:BD xs)(i:Nat):val ((List.range i).map (dH s xs))=val xs/2^s%4294967296^i:=by
 induction i with
 |zero=>simp[val,Nat.mod_one]
 |succ i ih=>
  rw[List.range_succ,FK,List.map_singleton,rZ,ih,Bu,Pv,CT,Nat.mod_mul,dH,kY hf,TH,TH,Dw (2^s)]
theorem jf{s:Nat}{xs:List Nat}(hf:BD xs):val (EC s xs (A1 xs))=val xs/2^s:=by
 rw[EC,EB (B1 _),Ce,Uw hf];exact CG (Mj (E1 _ _) (gL hf))
theorem ox{xs:List Nat}{i:Nat}(hf:BD xs)(h:i<A1 xs):dH 0 xs i=A0 xs i 0:=by
 have:=jF hf i;rw[dH,kL xs i h,OR,Ek];omega
theorem qa{s:Nat}{xs:List Nat}{i:Nat}(hf:BD xs)(h:i+1=A1 xs):dH s xs i=A0 xs i 0/2^s:=by
 have h1:=jF hf i;rw[dH,kL xs i A3,EB A3]
 show(A0 xs i 0+4294967296*0)/2^s%4294967296=_
 rw[FT,Cq];exact CG (Mj (E1 _ _) h1)
theorem fA{s:Nat}{xs:List Nat}{i:Nat}(hf:BD xs)(hs:s<=32)(h:i+1<A1 xs):A0 xs i 0/2^s |||A0 xs (i+1) 0*2^(32-s)%4294967296=dH s xs i:=by
 have h1:=jF hf i;have e:(4294967296:Nat)=2^s*2^(32-s):=by rw[<-CX,show s+(32-s)=32 by omega]
 have C:0<2^s:=DX A3;have h2:A0 xs i 0/2^s<2^(32-s):=Hv (by rw[<-e];exact h1);have h3:A0 xs (i+1) 0*2^(32-s)%4294967296=(A0 xs (i+1) 0%2^s)*2^(32-s):=by
  conv=>lhs;rw[e]
  rw[Nat.mul_mod_mul_right]
 rw[h3,Sn h2,dH,kL xs i A3,kL xs (i+1) h];generalize A0 xs i 0=a at *;generalize A0 xs (i+1) 0=b at *;generalize val (List.drop (i+1+1) xs)=c at *;have Z:(a+4294967296*(b+4294967296*c))/2^s=a/2^s+2^(32-s)*(b+4294967296*c):=by
  conv=>lhs;rw[show a+4294967296*(b+4294967296*c)=a+2^s*(2^(32-s)*(b+4294967296*c)) by rw[<-IP,<-e]]
  rw[Np _ _ C]
 have U:2^(32-s)*(b+4294967296*c)=2^(32-s)*(b%2^s)+4294967296*(b/2^s+2^(32-s)*c):=by
  have M:=Gm b (2^s)
  conv=>lhs;rw[<-M]
  generalize b/2^s=p at *;generalize b%2^s=r at *;rw[e];generalize 2^s=u;generalize 2^(32-s)=v;grind
 have J:a/2^s+2^(32-s)*(b%2^s)<4294967296:=by
  have H:b%2^s<2^s:=BQ _ C;have D:2^(32-s)*(b%2^s+1)<=2^(32-s)*2^s:=Dz _ H;rw[Dw (2^(32-s)) (2^s),<-e] at D;rw[Km] at D;omega
 rw[Z,U,<-FP,Nat.add_mul_mod_self_left,CG J,Dw];omega
def GI(bs:List Nat):Bool:=bs.all λb=>decide (48<=b)&&decide (b<=57)
def DQ(bs:List Nat):Nat:=bs.foldl (λa b=>10*a+(b-48)) 0
theorem ia(bs:List Nat)(b:Nat):DQ (bs++[b])=10*DQ bs+(b-48):=by simp[DQ,List.foldl_append]
theorem rt{bs:List Nat}(h:GI bs=true){i:Nat}(hi:i<A1 bs):48<=A0 bs i 0/\A0 bs i 0<=57:=by
 have h1:=Bb.1 h (A0 bs i 0) (by rw[Au,BV hi];exact Ep _);simp only[Ap,CH] at h1;omega
theorem jh(n:Nat):DQ (nL n).reverse=n:=by
 induction n using Nat.strongRecOn with
 |_ n ih=>
  by_cases h:n=0
  · subst h;rw[s0];rfl
  · rw[OB h,List.reverse_cons,ia,ih (n/10) A3]
    omega
theorem ff(n:Nat):GI (nL n).reverse=true:=by
 refine Bb.2 λb C=>?_;obtain⟨x,hx,rfl⟩:=Cp.1 (Ol.1 C);have:=ZD n x hx;simp only[Ap,CH];omega
theorem Mq(n:Nat):DQ (BZ n)=n:=by
 unfold BZ
 by_cases h:n=0
 · rw[AC h,h];rfl
 · rw[A8 h,jh]
theorem Nt(n:Nat):GI (BZ n)=true:=by
 unfold BZ
 by_cases h:n=0
 · rw[AC h];rfl
 · rw[A8 h,ff]
theorem RZ(n:Nat):0<A1 (BZ n):=by
 unfold BZ
 by_cases h:n=0
 · rw[AC h];simp
 · rw[A8 h,OB h];simp
theorem mA(n:Nat):A1 (BZ n)<=10*A1 (zB n)+1:=by
 unfold BZ
 by_cases h:n=0
 · rw[AC h];simp
 · rw[A8 h,Q1]
   have:=Qk (wY n);rw[zF] at this;omega
theorem sv(n:Nat):∀x∈BZ n,x<256:=by
 unfold BZ
 by_cases h:n=0
 · rw[AC h];simp
 · rw[A8 h];intro x hx;exact Rx n x (Ol.1 hx)
theorem vs{X k:Nat}(h:32*A1 (zB X)<=k):X/2^k=0:=by
 refine Fu (DO (uT X) ?_);rw[show(4294967296:Nat)=2^32 by decide,<-I4];exact D0 Aa h
theorem ii(X k s:Nat):X/4294967296^k/2^s=X/2^(32*k+s):=by
 rw[TH,CX,I4]
theorem hL(X k s:Nat):4294967296^k*(X*2^s)=X*2^(32*k+s):=by
 rw[CX,I4];grind
theorem p6{s:Nat}{xs:List Nat}{i:Nat}(hs:s<=32)(h:i<A1 xs):(A0 xs i 0+4294967296*A0 xs (i+1) 0)/2^s%4294967296=dH s xs i:=by
 have e:(4294967296:Nat)=2^s*2^(32-s):=by rw[<-CX,show s+(32-s)=32 by omega]
 have C:0<2^s:=DX A3;rw[dH,kL xs i h]
 by_cases h2:i+1<A1 xs
 · rw[kL xs (i+1) h2]
   generalize A0 xs i 0=a;generalize A0 xs (i+1) 0=b;generalize val (List.drop (i+1+1) xs)=c;have D:a+4294967296*(b+4294967296*c)=(a+4294967296*b)+2^s*(4294967296*(2^(32-s)*c)):=by
    have:4294967296*(4294967296*c)=2^s*(4294967296*(2^(32-s)*c)):=by
     conv=>lhs;lhs;rw[e]
     generalize 2^s=u;generalize 2^(32-s)=v;generalize (4294967296:Nat)=B;grind
    omega
   rw[D,Np _ _ C,Nat.add_mul_mod_self_left]
 · rw[rH (xs:=xs) (i:=i+1) A3,EB A3]
   rfl
theorem ax{s:Nat}{xs:List Nat}(hf:BD xs):val ((List.range (A1 xs)).map (dH s xs))=val xs/2^s:=by
 rw[Uw hf];exact CG (Mj (E1 _ _) (gL hf))
theorem Wa(n:Nat):uO n<=32*A1 (zB n):=by
 refine nO ?_;rw[I4];exact uT n
theorem uj{X:Nat}(hX:X≠0)(k:Nat):List.replicate k 0++zB X=zB (X*4294967296^k):=by
 have C:val (List.replicate k 0++zB X)=X*4294967296^k:=by rw[lW,bS,lR,zF,E6,Dw]
 have D:BD (List.replicate k 0++zB X):=uX (kK _) (wY _);rw[<-C,Ta D];rw[C,BJ,lR];have H:=yJ.2 hX;have h1:=rV (n:=X) (k:=A1 (zB X)-1) A3;have h2:4294967296^(k+(A1 (zB X)-1))<=X*4294967296^k:=by
  rw[CX,Dw];exact CP _ h1
 have h3:=Yb h2;omega
theorem gK{t:Nat}(h0:t≠0)(h:t<4294967296):zB t=[t]:=by
 rw[gJ A3,CG h,Fu h,xT]
theorem q0{Y:Nat}(h:0<A1 (zB Y)):(zB Y).drop (A1 (zB Y)-1)=zB (A0 (zB Y) (A1 (zB Y)-1) 0):=by
 rw[gK (rS h) (jF (wY Y) _),tR _ _ A3,EB A3]
theorem fB(X k:Nat):A1 (zB (X*4294967296^k))<=A1 (zB X)+k:=by
 refine qO ?_;rw[CX];exact Ll (uT X) (DX Aa)
theorem c3{V W P v1 v2 vr top u3 wr:Nat}(hV:V=(v1*4294967296+v2)*P+vr)(hW:W=(top*4294967296+u3)*P+wr)(hu:u3<4294967296)(hw:wr<P)(h1:0<v1)(hWV:W<4294967296*V):W<(min (top/v1) 4294967295+1)*V:=by
 by_cases h:top/v1<=4294967295
 · rw[Dy h];exact Vr hV hW hu hw h1
 · rw[Nat.min_eq_right A3];exact hWV
theorem tt{R k m V:Nat}(h:R/4294967296^k<m*V):R<V*m*4294967296^k:=by
 have:=Nat.lt_mul_of_div_lt h (DX Aa);rw[Dw V m];exact this
theorem hJ{R V k:Nat}(h:R<4294967296^(k+1)*V):R/4294967296^k<4294967296*V:=by
 refine Hv ?_;rw[CT,IP] at h;exact h
theorem nz{B p R q d V U:Nat}(h:R+p*B*(q*V)=U)(hle:V*d*p<=R):R-V*d*p+p*((d+B*q)*V)=U:=by
 obtain⟨t,rfl⟩:∃t,R=V*d*p+t:=⟨R-V*d*p,A3⟩;rw[Nat.add_sub_cancel_left];grind
theorem d4{R V d p:Nat}(h:R<V*(d+1)*p)(hle:V*d*p<=R):R-V*d*p<p*V:=by
 have:V*(d+1)*p=V*d*p+p*V:=by grind
 omega
theorem pw{V d p:Nat}(h:1<=d):V*d*p-V*p=V*(d-1)*p/\V*p<=V*d*p:=by
 obtain⟨e,rfl⟩:∃e,d=e+1:=⟨d-1,A3⟩;have:V*(e+1)*p=V*e*p+V*p:=by grind
 rw[Hs];omega
theorem pi{U V r n:Nat}(hU:U<4294967296^r)(hV:4294967296^(n-1)<=V)(hn:1<=n)(hr:n<=r):U<4294967296^(r-n+1)*V:=by
 refine DO hU ?_;have h1:(4294967296:Nat)^r=4294967296^(r-n+1)*4294967296^(n-1):=by rw[<-CX,show r-n+1+(n-1)=r by omega]
 rw[h1];exact Dz _ hV
end Bk
