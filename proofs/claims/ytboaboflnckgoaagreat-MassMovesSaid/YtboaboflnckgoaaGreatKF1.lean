/- Texts that the proof needs, part 1. -/
import Derived.WalkKit
import Derived.WalkSpells
import Derived.WalkLawsBesides
import Derived.Laws.AppendOwnNone
import Derived.Still
import Derived.Test.YtboaboflnckgoaaGreatProg
import Derived.KernelRfl
import Derived.Laws.Externs
import Derived.Deep.MidRow
set_option linter.unusedVariables false
set_option linter.unusedSimpArgs false
set_option linter.defProp false
namespace Bk
theorem I {α : Sort _} {a : α} : a = a := rfl
theorem lAz{α:Type _}{a b:List α}:(a++b).length=a.length+b.length:=List.length_append
theorem lR{α:Type _}{n:Nat}{a:α}:(List.replicate n a).length=n:=List.length_replicate
theorem lC{α:Type _}{a:α}{l:List α}:(a::l).length=l.length+1:=List.length_cons
theorem lN{α:Type _}:([]:List α).length=0:=List.length_nil
theorem lS{α:Type _}{l:List α}{i:Nat}{a:α}:(l.set i a).length=l.length:=List.length_set
theorem bL{n m:Nat}(h:Nat.ble n m=true):n<=m:=Nat.le_of_ble_eq_true h
theorem nX{α:Type _}{p:α->Prop}:∀x∈([]:List α),p x:=λ_ hx=>by cases hx
theorem e2z{α0 α1:Type}{a0:α0}{a1:α1}:a0=a0/\a1=a1/\True:=⟨rfl,rfl,trivial⟩
theorem e3z{α0 α1 α2:Type}{a0:α0}{a1:α1}{a2:α2}:a0=a0/\a1=a1/\a2=a2/\True:=⟨rfl,rfl,rfl,trivial⟩
theorem e4z{α0 α1 α2 α3:Type}{a0:α0}{a1:α1}{a2:α2}{a3:α3}:a0=a0/\a1=a1/\a2=a2/\a3=a3/\True:=⟨rfl,rfl,rfl,rfl,trivial⟩
theorem e5{α0 α1 α2 α3 α4:Type}{a0:α0}{a1:α1}{a2:α2}{a3:α3}{a4:α4}:a0=a0/\a1=a1/\a2=a2/\a3=a3/\a4=a4/\True:=⟨rfl,rfl,rfl,rfl,rfl,trivial⟩
theorem e6z{α0 α1 α2 α3 α4 α5:Type}{a0:α0}{a1:α1}{a2:α2}{a3:α3}{a4:α4}{a5:α5}:a0=a0/\a1=a1/\a2=a2/\a3=a3/\a4=a4/\a5=a5/\True:=⟨rfl,rfl,rfl,rfl,rfl,rfl,trivial⟩
theorem e7{α0 α1 α2 α3 α4 α5 α6:Type}{a0:α0}{a1:α1}{a2:α2}{a3:α3}{a4:α4}{a5:α5}{a6:α6}:a0=a0/\a1=a1/\a2=a2/\a3=a3/\a4=a4/\a5=a5/\a6=a6/\True:=⟨rfl,rfl,rfl,rfl,rfl,rfl,rfl,trivial⟩
theorem e8{α0 α1 α2 α3 α4 α5 α6 α7:Type}{a0:α0}{a1:α1}{a2:α2}{a3:α3}{a4:α4}{a5:α5}{a6:α6}{a7:α7}:a0=a0/\a1=a1/\a2=a2/\a3=a3/\a4=a4/\a5=a5/\a6=a6/\a7=a7/\True:=⟨rfl,rfl,rfl,rfl,rfl,rfl,rfl,rfl,trivial⟩
theorem e10{α0 α1 α2 α3 α4 α5 α6 α7 α8 α9:Type}{a0:α0}{a1:α1}{a2:α2}{a3:α3}{a4:α4}{a5:α5}{a6:α6}{a7:α7}{a8:α8}{a9:α9}:a0=a0/\a1=a1/\a2=a2/\a3=a3/\a4=a4/\a5=a5/\a6=a6/\a7=a7/\a8=a8/\a9=a9/\True:=⟨rfl,rfl,rfl,rfl,rfl,rfl,rfl,rfl,rfl,rfl,trivial⟩
theorem e12{α0 α1 α2 α3 α4 α5 α6 α7 α8 α9 α10 α11:Type}{a0:α0}{a1:α1}{a2:α2}{a3:α3}{a4:α4}{a5:α5}{a6:α6}{a7:α7}{a8:α8}{a9:α9}{a10:α10}{a11:α11}:a0=a0/\a1=a1/\a2=a2/\a3=a3/\a4=a4/\a5=a5/\a6=a6/\a7=a7/\a8=a8/\a9=a9/\a10=a10/\a11=a11/\True:=⟨rfl,rfl,rfl,rfl,rfl,rfl,rfl,rfl,rfl,rfl,rfl,rfl,trivial⟩
theorem zoa{α:Type _}{l:List α}{i:Nat}{a:α}:l.getD i a=l[i]?.getD a:=List.getD_eq_getElem?_getD
theorem zob{α:Type _}{p:α->Bool}{l:List α}:l.all p=true↔∀x,x∈l->p x=true:=List.all_eq_true
theorem zoc{α:Type _}{l:List α}{i:Nat}(h:i<l.length):l[i]?=some l[i]:=List.getElem?_eq_getElem h
theorem zod{a b:Rat}:0<=a->0<=b->0<=a*b:=Rat.mul_nonneg
theorem zoe{a b:Rat}:a*b=0↔a=0\/b=0:=Rat.mul_eq_zero
theorem zof{α:Type _}{l:List α}:l.length=0->l=[]:=List.eq_nil_of_length_eq_zero
theorem zog{m n:Nat}:m∈List.range n↔m<n:=List.mem_range
theorem zoh{a b:Nat}:a<b->a%b=a:=Nat.mod_eq_of_lt
theorem zoi:1*5<=16777216:=by decide
theorem zoj:1*1<=16777216:=by decide
theorem zok:1*9<=16777216:=by decide
theorem zol:3*9<=16777216:=by decide
theorem zom:1*14<=16777216:=by decide
theorem zon:4*1<=16777216:=by decide
theorem zoo:3*1<=16777216:=by decide
theorem zop:8*1<=16777216:=by decide
theorem zoq:2*1<=16777216:=by decide
theorem zor:6*1<=16777216:=by decide
theorem zos{p:Prop}(h:p:=by omega):p:=h
theorem zot{p:Prop}(h:p:=by kernel_rfl):p:=h
theorem zou{p:Prop}(h:p:=by first|omega|(simp only[lAz,lC,lN,List.length_drop,List.length_take];omega)):p:=h
theorem zov{p:Prop}(h:p:=by decide):p:=h
theorem zow{p:Prop}(h:p:=by first|omega|exact Nat.zero_le _):p:=h
theorem zox{p:Prop}(h:p:=by first|(simp;done)|grind):p:=h
theorem zoy{p:Prop}(h:p:=by (simp only[Nat.reduceAdd,Nat.reduceMul,Nat.zero_add,Nat.add_zero,Nat.zero_mul])<;>exact I):p:=h
theorem zoz{p:Prop}(h:p:=by rfl):p:=h
theorem zo0{p:Prop}(h:p:=by simp only[lAz,lC,lN];omega):p:=h
theorem zo1{p:Prop}(h:p:=by simp):p:=h
theorem zo2{p:Prop}(h:p:=by grind):p:=h
theorem zo3{p:Prop}(h:p:=by assumption):p:=h
theorem zo4{p:Prop}(h:p:=by first|omega|(simp only[lN];omega)):p:=h
theorem zo5{p:Prop}(h:p:=by first|omega|(simp only[lAz,List.length_drop,List.length_take,lN];omega)):p:=h
theorem zo6{p:Prop}(h:p:=by simp only[List.length_singleton,lAz,lR];omega):p:=h
theorem zo7{p:Prop}(h:p:=by simp only[List.length_singleton];omega):p:=h
theorem zau{c:Prop}{h:Decidable c}(i:c){α:Sort _}{t e:α}:ite c t e=t:=if_pos i
theorem zae{c:Prop}{h:Decidable c}(i:¬c){α:Sort _}{t e:α}:ite c t e=e:=if_neg i
theorem zbi{α:Sort _}{β:Sort _}{a b:α}(f:α->β)(h:a=b):f a=f b:=congrArg f h
theorem zbu(a b:Bool):((a&&b)=true)=(a=true/\b=true):=Bool.and_eq_true a b
theorem zbe(n:Nat):n<=n:=Nat.le_refl n
theorem zci{a b c:Nat}(h:a<=b)(i:b<=c):a<=c:=Nat.le_trans h i
theorem zcu(a:Nat){b:Nat}(h:b>0):a%b<b:=Nat.mod_lt a h
theorem zce{n m:Nat}(h:Nat.ble n m=true):n<=m:=Nat.le_of_ble_eq_true h
theorem zdi{p:Prop}(h:¬¬p):p:=Classical.not_not.1 h
theorem zdu{p:Prop}(h:¬p->False):p:=Classical.byContradiction h
theorem zde{α:Type _}{β:Type _}{l:List α}(f:α->β):(l.map f).length=l.length:=List.length_map f
theorem zei{α:Type _}{i:Nat}{l:List α}:(l.take i).length=min i l.length:=List.length_take
theorem zeu(a b:Nat):((a*b:Nat):Int)=a*b:=Int.natCast_mul a b
def zee:=@Classical.not_not
def zfi:=@List.mem_cons
def zfu:=@Nat.mul_le_mul_right
def zfe:=@Nat.pos_of_ne_zero
def zgi:=@List.not_mem_nil
def zgu:=@decide_eq_false_iff_not
def zge:=@List.nil_append
def zhi:=@decide_eq_true_eq
def zhu:=@List.append_assoc
def zhe:=@List.length_drop
def zii:=@Nat.pow_le_pow_right
def ziu:=@List.cons_append
def zie:=@decide_eq_true_iff
def zji:=@Array.getD_eq_getD_getElem?
def zju:=@List.length_singleton
def zje:=@Bool.not_eq_true'
def zki:=@Nat.div_le_self
def zku:=@Nat.lt_of_lt_of_le
def zke:=@Nat.pow_succ
def zli:=@List.append_nil
def zlu:=@Nat.pow_add
def zle:=@List.drop_of_length_le
def zmi:=@Nat.add_zero
def zmu:=@List.getElem?_take
def zme:=@List.Sublist.refl
def zni:=@Rat.intCast_add
def znu:=@Nat.lt_succ_iff_lt_or_eq
def zne:=@Array.getElem?_eq_some_iff
def zpi:=@List.mem_append
def zpu:=@Nat.mul_le_mul_left
def zpe:=@List.mem_singleton
def zqi:=@List.contains_eq_mem
def zqu:=@Nat.pow_pos
def zqe:=@Rat.mul_lt_mul_of_pos_right
def zri:=@Nat.zero_le
def zru:=@List.nil_sublist
def zre:=@Nat.min_eq_left
def zsi:=@Rat.natCast_mul
def zsu:=@Rat.intCast_inj
def zse:=@List.getElem?_eq_none
def zti:=@List.mem_map
def ztu:=@Nat.mul_comm
def zte:=@Nat.mul_lt_mul_of_pos_right
def zui:=@Rat.intCast_neg
def zuu:=@Rat.intCast_mul
def zue:=@List.take_length
def zvi:=@Nat.zero_add
def zvu:=@Nat.zero_mul
def zve:=@Nat.lt_or_ge
def zwi:=@List.getElem?_map
def zwu:=@List.getElem?_eq_some_iff
def zwe:=@List.mem_of_mem_take
def zxi:=@List.getElem?_drop
def zxu:=@List.take_of_length_le
def zxe:=@List.map_cons
def zyi:=@Bool.or_eq_true
def zyu:=@List.foldl_cons
def zye:=@List.take_succ_eq_append_getElem
def zzi:=@List.getD_cons_zero
def zzu:=@Nat.sub_add_cancel
def zze:=@Rat.mul_le_mul_of_nonneg_right
def z0i:=@Rat.den_nz
def z0u:=@List.map_toArray
def z0e:=@Nat.div_eq_of_lt
def z1i:=@List.getD_cons_succ
def z1u:=@Nat.not_lt
def z1e:=@Array.getElem?_setIfInBounds
def z2i:=@List.map_append
def z2u:=@Nat.add_mul
def z2e:=@Nat.div_one
def z3i:=@Nat.div_lt_of_lt_mul
def z3u:=@Nat.add_assoc
def z3e:=@List.drop_eq_getElem_cons
def z4i:=@Nat.div_add_mod
def z4u:=@Nat.not_lt_zero
def z4e:=@Nat.mul_ne_zero
def z5i:=@List.lookup_cons
def z5u:=@Bool.false_eq_true
def z5e:=@List.mem_of_mem_drop
def z6i:=@List.mem_cons_of_mem
def z6u:=@List.mem_append_left
def z6e:=@Nat.mul_le_mul
def z7i:=@Int.toNat_natCast
def z7u:=@Rat.intCast_sub
def z7e:=@Nat.mul_zero
def z8i:=@Rat.mul_pos
def z8u:=@List.pairwise_cons
def z8e:=@Nat.add_sub_cancel
def z9i:=@List.drop_drop
def z9u:=@Nat.mul_one
def z9e:=@List.pairwise_append
def yai:=@Array.setIfInBounds_comm
def yau:=@of_decide_eq_true
def yae:=@List.take_append_of_le_length
def ybi:=@List.getElem?_cons_succ
def ybu:=@List.drop_zero
def ybe:=@Nat.le_of_not_lt
def yci:=@Array.getElem?_eq_none
def ycu:=@Nat.pow_mul
def yce:=@Rat.intCast_lt_intCast
def ydi:=@Nat.eq_zero_or_pos
def ydu:=@Nat.le_of_lt
def yde:=@List.length_replicate
def yei:=@List.take_append_drop
def yeu:=@List.mem_filter
def yee:=@List.getElem?_set_ne
def yfi:=@Nat.one_mul
def yfu:=@List.set_eq_take_append_cons_drop
def yfe:=@List.zipIdx_cons
def ygi:=@Nat.succ_mul
def ygu:=@List.replicate_succ
def yge:=@List.getElem_of_mem
def yhi:=@List.map_congr_left
def yhu:=@Array.getElem?_setIfInBounds_ne
def yhe:=@Nat.gcd_pos_of_pos_left
def yii:=@Nat.lt_irrefl
def yiu:=@Nat.mul_assoc
def yie:=@Bool.eq_iff_iff
def yji:=@Nat.lt_of_le_of_lt
def yju:=@Nat.sub_le
def yje:=@Nat.gcd_zero_right
def yki:=@Nat.one_ne_zero
def yku:=@Rat.one_mul
def yke:=@List.getElem?_set_self
def yli:=@List.drop_append_of_le_length
def ylu:=@Nat.sub_zero
def yle:=@List.set_append_right
def ymi:=@Nat.ne_of_gt
def ymu:=@List.take_zero
def yme:=@Int.mul_nonneg
def yni:=@List.take_length_add_append
def ynu:=@List.getElem_mem
def yne:=@List.perm_middle
def yoi:=@Nat.add_mul_div_left
def you:=@List.getElem?_append_right
def yoe:=@List.mem_map_of_mem
def ypi:=@Option.map_some
def ypu:=@List.getElem?_append_left
def ype:=@Rat.intCast_pos
def yqi:=@Array.any_eq_true'
def yqu:=@Array.size_setIfInBounds
def yqe:=@Array.ext_getElem?
def yri:=@List.append_of_mem
def yru:=@List.map_nil
def yre:=@List.getElem?_cons_zero
def ysi:=@Nat.div_div_eq_div_mul
def ysu:=@Rat.natCast_lt_natCast
def yse:=@Nat.gcd_dvd_left
def yti:=@Array.all_eq_true_iff_forall_mem
def ytu:=@Nat.zero_lt_succ
def yte:=@Nat.lt_succ_self
def yui:=@List.getElem?_toArray
def yuu:=@List.map_map
def yue:=@Nat.sub_self
def yvi:=@Nat.pow_zero
def yvu:=@Rat.natCast_add
def yve:=@Nat.pow_lt_pow_right
def ywi:=@Int.not_le
def ywu:=@Nat.succ_pos
def ywe:=@Int.sub_self
def yxi:=@Nat.lt_mul_div_succ
def yxu:=@List.length_reverse
def yxe:=@Rat.num_nonneg
def yyi:=@List.drop_left
def yyu:=@Nat.testBit_or
def yye:=@Nat.sub_mul
def yzi:=@Nat.mul_add
def yzu:=@Rat.div_def
def yze:=@Rat.sub_eq_add_neg
def y0i:=@Rat.div_mul_cancel
def y0u:=@Nat.le_of_dvd
def y0e:=@Rat.mul_assoc
def y1i:=@List.size_toArray
def y1u:=@List.length_range
def y1e:=@List.getElem?_set
def y2i:=@List.foldl_append
def y2u:=@Nat.gcd_comm
theorem y2e{α:Type _}{a b:α}(h:a=b):some a=some b:=congrArg some h
theorem y3i:True:=trivial
end Bk
namespace Bk
open Go Go.RowKit
section
variable {α:Type _}{a b c d e f g i:α}{l:List α}
theorem mh0:a∈a::l:=.head _
theorem mh1:b∈a::b::l:=.tail _ mh0
theorem mh2:c∈a::b::c::l:=.tail _ mh1
theorem mh3:d∈a::b::c::d::l:=.tail _ mh2
theorem mh4:e∈a::b::c::d::e::l:=.tail _ mh3
theorem mh5:f∈a::b::c::d::e::f::l:=.tail _ mh4
theorem mh6:g∈a::b::c::d::e::f::g::l:=.tail _ mh5
theorem mh7:i∈a::b::c::d::e::f::g::i::l:=.tail _ mh6
end
abbrev Mem:=Nat->Option Obj
def mem(w:World):Mem:=λb=>w.heap[b]?
def MLe(h h':Mem):Prop:=∀b o,h b=some o->h' b=some o
theorem MLe.refl(h:Mem):MLe h h:=λ_ _ x=>x
theorem MLe.trans{a b c:Mem}(h:MLe a b)(k:MLe b c):MLe a c:=λi o x=>k i o (h i o x)
def cell(h:Mem)(b i:Nat):Option Value:=
 match h b with
 |some (.cells c _ _)=>c[i]?
 |_=>none
theorem zDK{h h':Mem}(e:MLe h h'){b i:Nat}{v:Value}(hc:cell h b i=some v):cell h' b i=some v:=by
 unfold cell at *
 cases hb:h b with
 |none=>simp[hb] at hc
 |some o=>rw[e b o hb];rw[hb] at hc;exact hc
theorem lL{h:Mem}{w:World}(e:MLe h (mem w)){b i:Nat}{v:Value}(hc:cell h b i=some v):w.cell? ⟨b,i,none⟩=some v:=by
 have:=zDK e hc;unfold cell mem at this;unfold World.cell?;exact this
theorem zHP{w:World}{b i:Nat}{v:Value}(hc:w.cell? ⟨b,i,none⟩=some v):cell (mem w) b i=some v:=by
 unfold World.cell? at hc;unfold cell mem;exact hc
inductive Res where
 |blk(b:Nat)(o:Obj)
 |gs(E k:Nat)(v:Value)(n:Nat)(cs:List Value)
def Res.ok(base:Nat)(w:World):Res->Prop
  | .blk b o=>w.heap[b]?=some o
  | .gs E k v n cs=>w.ownsRow base E k v n cs
def Res.fp:Res->Option Nat
  | .blk b _=>some b
  | .gs _ _ v _ _=>v.ownBlock
structure St(w0:World)(h0:Mem)(L:List Res)(h:Mem)(w:World):Prop where
 below:Below w0.heap.size w0 w
 le:MLe h0 h
 sub:MLe h (mem w)
 fresh:∀b,b<w0.heap.size->h b=h0 b
 ok:∀r∈L,r.ok w0.heap.size w
 own:∀r∈L,∀b,r.fp=some b->h b=none/\w0.heap.size<=b
 apart:L.Pairwise λr s=>∀b,r.fp=some b->s.fp≠some b
theorem St.begin{w:World}{h:Mem}(hs:MLe h (mem w)):St w h [] h w:=
 ⟨Below.refl _ _,MLe.refl h,hs,λ_ _=>rfl,λ_ hr=>by simp at hr,λ_ hr=>by simp at hr,by simp⟩
theorem Res.fp_lt{base:Nat}{w:World}{r:Res}(h:r.ok base w){b:Nat}(hb:r.fp=some b):b<w.heap.size:=by
 cases r with
 |blk b' o=>
  simp only[Res.fp,Option.some.injEq] at hb;subst hb;exact(zne.1 h).1
 |gs E k v n cs=>exact(World.ownsRow.lt h b hb).2
theorem Res.kept{base:Nat}{w w':World}{r:Res}(h:r.ok base w)(hb:∀b,r.fp=some b->w'.heap[b]?=w.heap[b]?):r.ok base w':=by
 cases r with
 |blk b o=>exact(hb b rfl).trans h
 |gs E k v n cs=>
  refine⟨h.1,?_⟩
  rcases h.2 with hn|⟨g,cap,cur,rfl,hbg,hg,rest⟩
  · exact .inl hn
  · exact .inr ⟨g,cap,cur,I,hbg,(hb g I).trans hg,rest⟩
theorem Res.base_le{base base':Nat}{w:World}{r:Res}(h:r.ok base' w)(hb:base<=base'):r.ok base w:=by
 cases r with
 |blk b o=>exact h
 |gs E k v n cs=>
  refine⟨h.1,?_⟩
  rcases h.2 with hn|⟨g,cap,cur,hv,hbg,rest⟩
  · exact .inl hn
  · exact .inr ⟨g,cap,cur,hv,zci hb hbg,rest⟩
theorem St.call{w0 w w':World}{h0 h h':Mem}{L L':List Res}(s:St w0 h0 L h w)(c:St w h L' h' w'):St w0 h0 (L'++L) h' w':=by
 have G:w0.heap.size<=w.heap.size:=s.below.size;have D:∀r∈L,∀b,r.fp=some b->b<w.heap.size:=λr C b hb=>Res.fp_lt (s.ok r C) hb;refine⟨s.below.trans (c.below.mono G),s.le.trans c.le,c.sub,λb hb=>(c.fresh b zos).trans (s.fresh b hb),?_,?_,?_⟩
 · intro r C
   rcases zpi.1 C with C|C
   · exact Res.base_le (c.ok r C) G
   · exact Res.kept (s.ok r C) λb hb=>c.below.block b (D r C b hb)
 · intro r C b hb
   rcases zpi.1 C with C|C
   · have:=c.own r C b hb
     exact⟨this.1,by omega⟩
   · have:=s.own r C b hb
     exact⟨(c.fresh b (D r C b hb)).trans this.1,this.2⟩
 · refine z9e.2 ⟨c.apart,s.apart,λr C M H b hb J=>?_⟩
   have h1:=(c.own r C b hb).2;have h2:=D M H b J;omega
theorem St.alloc{w0 w:World}{h0 h:Mem}{L:List Res}(s:St w0 h0 L h w)(o:Obj):St w0 h0 (.blk w.heap.size o::L) h (w.alloc o):=by
 have G:w0.heap.size<=w.heap.size:=s.below.size;have D:∀b,b<w.heap.size->(w.alloc o).heap[b]?=w.heap[b]?:=λb hb=>heap_alloc_old w o hb;have H:∀r∈L,∀b,r.fp=some b->b<w.heap.size:=λr C b hb=>Res.fp_lt (s.ok r C) hb;refine⟨s.below.alloc G o,s.le,?_,s.fresh,?_,?_,?_⟩
 · intro b o' hb
   have:=s.sub b o' hb;unfold mem at *;rw[D b (zne.1 this).1];exact this
 · intro r C
   rcases zfi.1 C with rfl|C
   · exact heap_alloc_new w o
   · exact Res.kept (s.ok r C) λb hb=>D b (H r C b hb)
 · intro r C b hb
   rcases zfi.1 C with rfl|C
   · simp only[Res.fp,Option.some.injEq] at hb
     subst hb;refine⟨?_,G⟩
     cases hh:h w.heap.size with
     |none=>rfl
     |some o'=>
      have:=s.sub _ o' hh;unfold mem at this;exact absurd (zne.1 this).1 (yii _)
   · exact s.own r C b hb
 · refine z8u.2 ⟨λr C b hb J=>?_,s.apart⟩
   simp only[Res.fp,Option.some.injEq] at hb;have:=H r C b J;omega
theorem St.grown{w0 w w':World}{h0 h:Mem}{A B:List Res}{r r':Res}(s:St w0 h0 (A++r::B) h w)(hg:w.grownBy w' r.fp)(hok:r'.ok w0.heap.size w')
    (hfp:∀b,r'.fp=some b->r.fp=some b\/w.heap.size<=b):St w0 h0 (A++r'::B) h w':=by
 have U:w0.heap.size<=w.heap.size:=s.below.size;have O:∀x∈A++r::B,∀b,x.fp=some b->b<w.heap.size:=λx hx b hb=>Res.fp_lt (s.ok x hx) hb;have C:=s.apart;have G:r∈A++r::B:=by simp
 have M:∀x,(x∈A\/x∈B)->∀b,x.fp=some b->r.fp≠some b:=by
  intro x hx b hb hr;rw[z9e,z8u] at C
  rcases hx with hx|hx
  · exact C.2.2 x hx r zo1 b hb hr
  · exact C.2.1.1 x hx b hr hb
 have D:∀x,(x∈A\/x∈B)->∀b,x.fp=some b->w'.heap[b]?=w.heap[b]?:=by
  intro x hx b hb;refine hg.block b (O x ?_ b hb) (λe=>M x hx b hb e.symm)
  rcases hx with hx|hx<;>simp[hx]
 have H:∀b,w.heap.size<=b->h b=none:=by
  intro b hb
  cases hh:h b with
  |none=>rfl
  |some o=>
   have:=s.sub b o hh;unfold mem at this;have:=(zne.1 this).1;omega
 refine⟨s.below.grown hg U (λb hb=>(s.own r G b hb).2),s.le,?_,s.fresh,?_,?_,?_⟩
 · intro b o hb
   have h1:=s.sub b o hb;unfold mem at *;refine(hg.block b (zne.1 h1).1 (λe=>?_)).trans h1;have:=(s.own r G b e.symm).1;rw[this] at hb
   cases hb
 · intro x hx
   rcases zpi.1 hx with hx|hx
   · exact Res.kept (s.ok x (by simp[hx])) (D x (.inl hx))
   · rcases zfi.1 hx with rfl|hx
     · exact hok
     · exact Res.kept (s.ok x (by simp[hx])) (D x (.inr hx))
 · intro x hx b hb
   rcases zpi.1 hx with hx|hx
   · exact s.own x (by simp[hx]) b hb
   · rcases zfi.1 hx with rfl|hx
     · rcases hfp b hb with h1|h1
       · exact s.own r G b h1
       · exact⟨H b h1,by omega⟩
     · exact s.own x (by simp[hx]) b hb
 · have J:∀x,(x∈A\/x∈B)->∀b,x.fp=some b->r'.fp≠some b:=by
    intro x hx b hb Z
    rcases hfp b Z with h1|h1
    · exact M x hx b hb h1
    · have:=O x (by rcases hx with hx|hx<;>simp[hx]) b hb
      omega
   rw[z9e,z8u] at C ⊢;refine⟨C.1,⟨λx hx b hb aa=>J x (.inr hx) b aa hb,C.2.1.2⟩,λx hx y hy b hb=>?_⟩
   rcases zfi.1 hy with rfl|hy
   · exact J x (.inl hx) b hb
   · exact C.2.2 x hx y (by simp[hy]) b hb
theorem St.drop{w0 w:World}{h0 h:Mem}{A B:List Res}{r:Res}(s:St w0 h0 (A++r::B) h w):St w0 h0 (A++B) h w:=by
 refine⟨s.below,s.le,s.sub,s.fresh,λx hx=>s.ok x ?_,λx hx=>s.own x ?_,?_⟩
 · rcases zpi.1 hx with hx|hx<;>simp[hx]
 · rcases zpi.1 hx with hx|hx<;>simp[hx]
 · have C:=s.apart
   rw[z9e,z8u] at C;rw[z9e];exact⟨C.1,C.2.1.2,λx hx y hy=>C.2.2 x hx y (by simp[hy])⟩
theorem St.sublist{w0 w:World}{h0 h:Mem}{L L':List Res}(s:St w0 h0 L h w)(hl:L'.Sublist L):St w0 h0 L' h w:=
 ⟨s.below,s.le,s.sub,s.fresh,λr hr=>s.ok r (hl.subset hr),λr hr=>s.own r (hl.subset hr),s.apart.sublist hl⟩
theorem St.freeze{w0 w:World}{h0 h:Mem}{A B:List Res}{b:Nat}{o:Obj}{r:Res}(s:St w0 h0 (A++r::B) h w)(hr:r.fp=some b)(ho:w.heap[b]?=some o):
 St w0 h0 (A++B) (λi=>if i=b then some o else h i) w/\MLe h (λi=>if i=b then some o else h i):=by
 have J:r∈A++r::B:=by simp
 have hb:=s.own r J b hr;have H:MLe h (λi=>if i=b then some o else h i):=by
  intro i o' hi
  by_cases e:i=b
  · rw[e,hb.1] at hi;cases hi
  · simp[e,hi]
 have C:=s.apart;have M:∀x,x∈A++B->x.fp≠some b:=by
  intro x hx G;rw[z9e,z8u] at C
  rcases zpi.1 hx with hx|hx
  · exact C.2.2 x hx r zo1 b G hr
  · exact C.2.1.1 x hx b hr G
 have D:=s.drop;refine⟨⟨D.below,D.le.trans H,?_,?_,D.ok,?_,D.apart⟩,H⟩
 · intro i o' hi
   by_cases e:i=b
   · simp only[e,if_true,Option.some.injEq] at hi
     subst hi;rw[e];exact ho
   · simp only[e,if_false] at hi
     exact s.sub i o' hi
 · intro i hi
   have:i≠b:=by omega
   simp only[this,if_false];exact s.fresh i hi
 · intro x hx i hi
   have h1:=D.own x hx i hi;have:i≠b:=λe=>M x hx (e▸hi);simp only[this,if_false];exact h1
def Ret(w0:World)(h0:Mem)(R:Mem->Value->Prop):Ending->World->Prop:=λe w=>∃v h,e=.returned v/\R h v/\St w0 h0 [] h w
def rA(w0:World)(h0:Mem)(R:Mem->Value->List Res->Prop):Ending->World->Prop:=λe w=>∃v h L,e=.returned v/\R h v L/\St w0 h0 L h w
structure Env(n:Nat)(e:List (Nat×Value))(a:Act):Prop where
 defers:a.defers=[]
 size:a.tmps.size=n
 get:∀t v,e.lookup t=some v->a.tmps[t]?=some v
def zM(e:List (Nat×Value)):Operand->Option Value
  | .tmp t=>e.lookup t
  | .const v=>some v
  | .global g=>some (.pointer (some ⟨g,0,none⟩))
  | .func f=>some (.func (.func f) #[] #[])
theorem Env.eval{n:Nat}{e:List (Nat×Value)}{a:Act}(E:Env n e a){x:Operand}{v:Value}(h:zM e x=some v):a.eval x=v:=by
 cases x with
 |tmp t=>
  have:=E.get t v h;simp only[Act.eval,zji,this,Option.getD_some]
 |const u=>exact Option.some.inj h
 |global g=>exact Option.some.inj h
 |func f=>exact Option.some.inj h
theorem Env.put{n:Nat}{e:List (Nat×Value)}{a:Act}(E:Env n e a){d:Nat}{v:Value}(hd:d<n):Env n ((d,v)::e) (a.put (some d) v):=by
 refine⟨E.defers,by simp[Act.put,E.size],λt u h=>?_⟩;simp only[z5i] at h
 by_cases ht:t=d
 · subst ht
   simp at h;subst h;simp[Act.put,E.size,hd]
 · have:(t==d)=false:=by simpa using ht
   rw[this] at h;simp only[Act.put];rw[yhu (Ne.symm ht)];exact E.get t u h
@[reducible] def Sub:List (Nat×Value)->List (Nat×Value)->Prop
  |[],_=>True
  |(t,v)::r,e=>e.lookup t=some v/\Sub r e
theorem Sub.lookup{e:List (Nat×Value)}:∀{e':List (Nat×Value)},Sub e' e->∀t v,e'.lookup t=some v->e.lookup t=some v
  |[],_,t,v,h=>by simp at h
  |(k,u)::r,hs,t,v,h=>by
   simp only[z5i] at h
   by_cases ht:t=k
   · subst ht
     simp at h;subst h;exact hs.1
   · have:(t==k)=false:=by simpa using ht
     rw[this] at h;exact Sub.lookup hs.2 t v h
theorem Env.sub{n:Nat}{e e':List (Nat×Value)}{a:Act}(E:Env n e a)(h:Sub e' e):Env n e' a:=⟨E.defers,E.size,λt v ht=>E.get t v (h.lookup t v ht)⟩
@[reducible] def aC(e:List (Nat×Value)):List Operand->List Value->Prop
  |[],[]=>True
  |x::xs,v::vs=>zM e x=some v/\aC e xs vs
  |_,_=>False
theorem Env.evals{n:Nat}{e:List (Nat×Value)}{a:Act}(E:Env n e a):∀{xs:List Operand} {vs:List Value},aC e xs vs->xs.map a.eval=vs
  |[],[],_=>rfl
  |x::xs,v::vs,h=>by rw[zxe,E.eval h.1,E.evals h.2]
  |[],_::_,h=>h.elim
  |_::_,[],h=>h.elim
section goals
variable (P:Program)(n:Nat)(w0:World)(h0:Mem)
def GL(ops:Array Oper)(Q:Exit->Act->World->Prop)(l:List Oper)(e:List (Nat×Value))(L:List Res)(h:Mem):Prop:=
 ∀a w,Env n e a->St w0 h0 L h w->wpList P ops Q l a w
def GC(c:Code)(Q:Exit->Act->World->Prop)(e:List (Nat×Value))(L:List Res)(h:Mem):Prop:=
 ∀a w,Env n e a->St w0 h0 L h w->c.wp P Q a w
def GQ(Q:Exit->Act->World->Prop)(x:Exit)(e:List (Nat×Value))(L:List Res)(h:Mem):Prop:=
 ∀a w,Env n e a->St w0 h0 L h w->Q x a w
def OpV(o:Oper)(e:List (Nat×Value))(L:List Res)(h:Mem)(v:Value):Prop:=
 ∀a w,Env n e a->St w0 h0 L h w->(execOp a.eval o).run P w=.ok (.value v) w
def Upd(o:Oper)(e:List (Nat×Value))(A:List Res)(r:Res)(B:List Res)(h:Mem)(r':Res):Prop:=
 ∀a w,Env n e a->St w0 h0 (A++r::B) h w->∃w',(execOp a.eval o).run P w=.ok .skip w'/\w.grownBy w' r.fp/\r'.ok w0.heap.size w'
end goals
section rules
variable {P:Program}{n:Nat}{w0:World}{h0:Mem}{e:List (Nat×Value)}{L:List Res}{h:Mem}{Q:Exit->Act->World->Prop}
theorem fF{f:FuncId}{fn:Func}{c:Code}{vs:List Value}{R:Ending->World->Prop}{w0:World}(hf:P.funcs[f]?=some fn)(hb:fn.body=some c)(hn:fn.ntmps=n)(hl:vs.length<=n)
    (hs:MLe h0 (mem w0))(he:Sub e (vs.zipIdx.map λp=>(p.2,p.1)))(k:GC P n w0 h0 c (bodyPost P fn R) e [] h0):Calls P f vs.toArray w0 R:=by
 refine calls_of_wp hf hb (k _ _ ?_ (St.begin hs));subst hn;refine Env.sub ⟨I,by simp;omega,?_⟩ he;intro t v ht;have key:∀(l:List Value) (k t:Nat),((l.zipIdx k).map λp=>(p.2,p.1)).lookup t=some v->k<=t/\l[t-k]?=some v:=by
  intro l
  induction l with
  |nil=>intro k t h;simp at h
  |cons x l ih=>
   intro k t h;simp only[yfe,zxe,z5i] at h
   by_cases hk:t=k
   · subst hk
     simp at h;exact⟨zbe _,by simp[h]⟩
   · have:(t==k)=false:=by simpa using hk
     rw[this] at h;have:=ih (k+1) t h;refine⟨by omega,?_⟩;have e1:t-k=(t-(k+1))+1:=by omega
     rw[e1,ybi];exact this.2
 have:=(key vs 0 t ht).2;simp only[ylu] at this;simp only[y1i];rw[Array.getElem?_append_left (by simpa using(zwu.1 this).1)]
 simpa using this
theorem jE{f:FuncId}{fn:Func}{c:Code}{vs:List Value}{R:Ending->World->Prop}{w0 w:World}{L:List Res}{h:Mem}(hf:P.funcs[f]?=some fn)(hb:fn.body=some c)(hn:fn.ntmps=n)(hl:vs.length<=n)
    (S:St w0 h0 L h w)(he:Sub e (vs.zipIdx.map λp=>(p.2,p.1)))(k:GC P n w0 h0 c (bodyPost P fn R) e L h):Calls P f vs.toArray w R:=by
 refine calls_of_wp hf hb (k _ _ ?_ S);subst hn;refine Env.sub ⟨I,by simp;omega,?_⟩ he;intro t v ht;have key:∀(l:List Value) (k t:Nat),((l.zipIdx k).map λp=>(p.2,p.1)).lookup t=some v->k<=t/\l[t-k]?=some v:=by
  intro l
  induction l with
  |nil=>intro k t h;simp at h
  |cons x l ih=>
   intro k t h;simp only[yfe,zxe,z5i] at h
   by_cases hk:t=k
   · subst hk
     simp at h;exact⟨zbe _,by simp[h]⟩
   · have:(t==k)=false:=by simpa using hk
     rw[this] at h;have:=ih (k+1) t h;refine⟨by omega,?_⟩;have e1:t-k=(t-(k+1))+1:=by omega
     rw[e1,ybi];exact this.2
 have:=(key vs 0 t ht).2;simp only[ylu] at this;simp only[y1i];rw[Array.getElem?_append_left (by simpa using(zwu.1 this).1)]
 simpa using this
theorem zL{x y:Code}(k:GC P n w0 h0 x (Exit.then (y.wp P Q) Q) e L h):GC P n w0 h0 (.seq x y) Q e L h:=
 λa w E S=>wp_seq (k a w E S)
theorem wW(k:GQ n w0 h0 Q .normal e L h):GC P n w0 h0 .skip Q e L h:=λa w E S=>wp_skip (k a w E S)
theorem aF(k:GQ n w0 h0 Q .ret e L h):GC P n w0 h0 .ret Q e L h:=λa w E S=>wp_ret (k a w E S)
theorem kR{i:Nat}(k:GQ n w0 h0 Q (.exit i) e L h):GC P n w0 h0 (.exit i) Q e L h:=λa w E S=>wp_exit (k a w E S)
theorem xJ{i:Nat}{c:Code}(k:GC P n w0 h0 c (Exit.inBlock i Q) e L h):GC P n w0 h0 (.block i c) Q e L h:=λa w E S=>wp_block (k a w E S)
theorem zD{i:Nat}{l:List Oper}(k:GL P n w0 h0 l.toArray Q l e L h):GC P n w0 h0 (.region i l.toArray false) Q e L h:=λa w E S=>wp_region_lit (k a w E S)
theorem zO{ops:Array Oper}(k:GQ n w0 h0 Q .normal e L h):GL P n w0 h0 ops Q [] e L h:=λa w E S=>wpList_nil (k a w E S)
theorem zG{y:Code}(k:GC P n w0 h0 y Q e L h):GQ n w0 h0 (Exit.then (y.wp P Q) Q) .normal e L h:=k
theorem kY{i:Nat}(k:GQ n w0 h0 Q .normal e L h):GQ n w0 h0 (Exit.inBlock i Q) .normal e L h:=k
theorem vQ{N:Act->World->Prop}{i:Nat}(k:GQ n w0 h0 Q (.exit i) e L h):GQ n w0 h0 (Exit.then N Q) (.exit i) e L h:=k
theorem kP{i:Nat}(k:GQ n w0 h0 Q .normal e L h):GQ n w0 h0 (Exit.inBlock i Q) (.exit i) e L h:=by
 intro a w E S;simp only[Exit.inBlock,if_true];exact k a w E S
theorem zKP{i j:Nat}(hij:(j==i)=false)(k:GQ n w0 h0 Q (.exit j) e L h):GQ n w0 h0 (Exit.inBlock i Q) (.exit j) e L h:=by
 intro a w E S;have:j≠i:=by simpa using hij
 simp only[Exit.inBlock,this,if_false];exact k a w E S
theorem nH{N:Act->World->Prop}(k:GQ n w0 h0 Q .ret e L h):GQ n w0 h0 (Exit.then N Q) .ret e L h:=k
theorem zRT{i:Nat}(k:GQ n w0 h0 Q .ret e L h):GQ n w0 h0 (Exit.inBlock i Q) .ret e L h:=k
theorem wO{x:Exit}{e':List (Nat×Value)}(hs:Sub e' e)(k:GQ n w0 h0 Q x e' L h):GQ n w0 h0 Q x e L h:=λa w E S=>k a w (E.sub hs) S
theorem zKS{c:Code}{e':List (Nat×Value)}(hs:Sub e' e)(k:GC P n w0 h0 c Q e' L h):GC P n w0 h0 c Q e L h:=λa w E S=>k a w (E.sub hs) S
theorem uR{x:Exit}{A B:List Res}{r:Res}(k:GQ n w0 h0 Q x e (A++B) h):GQ n w0 h0 Q x e (A++r::B) h:=λa w E S=>k a w E S.drop
noncomputable def vB(p:Prop):Value:=.bool (@decide p (Classical.propDecidable p))
theorem tZ{p q:Prop}(hpq:p↔q):vB p=vB q:=by rw[propext hpq]
theorem wB{p:Prop}(hp:p):vB p=.bool true:=by unfold vB;simp[hp]
theorem yZ{p:Prop}(hp:¬p):vB p=.bool false:=by unfold vB;simp[hp]
theorem wE{p q:Prop}(hp:p):vB q=vB (p/\q):=tZ ⟨λh=>⟨hp,h⟩,λh=>h.2⟩
theorem wG{p q:Prop}(hp:¬p):Value.bool false=vB (p/\q):=(yZ λh=>hp h.1).symm
theorem uL{p q:Prop}(hp:p):Value.bool true=vB (p\/q):=(wB (.inl hp)).symm
theorem uM{p q:Prop}(hp:¬p):vB q=vB (p\/q):=tZ ⟨.inr,λh=>h.resolve_left hp⟩
theorem yBX{c:Operand}{x y:Code}{p:Prop}(hc:zM e c=some (vB p))(kt:p->GC P n w0 h0 x Q e L h)(kf:¬p->GC P n w0 h0 y Q e L h):GC P n w0 h0 (.cond c x y) Q e L h:=by
 intro a w E S
 by_cases hp:p
 · exact wp_cond_true (by rw[E.eval hc,wB hp]) (kt hp a w E S)
 · exact wp_cond_false (by rw[E.eval hc,yZ hp]) (kf hp a w E S)
theorem kS{c:Operand}{x y:Code}(hc:zM e c=some (.bool true))(k:GC P n w0 h0 x Q e L h):GC P n w0 h0 (.cond c x y) Q e L h:=
 λa w E S=>wp_cond_true (E.eval hc) (k a w E S)
theorem aU{c:Operand}{x y:Code}(hc:zM e c=some (.bool false))(k:GC P n w0 h0 y Q e L h):GC P n w0 h0 (.cond c x y) Q e L h:=
 λa w E S=>wp_cond_false (E.eval hc) (k a w E S)
theorem jC{ι:Type}{x y:Code}(inv:ι->Prop)(ev:ι->List (Nat×Value))(Lv:ι->List Res)(hv:ι->Mem)
    (kx:GC P n w0 h0 x (Exit.then (λa w=>∃i,inv i/\Env n (ev i) a/\St w0 h0 (Lv i) (hv i) w) Q) e L h)
    (ky:∀i,inv i->GC P n w0 h0 y Q (ev i) (Lv i) (hv i)):GC P n w0 h0 (.seq x y) Q e L h:=by
 intro a w E S;refine wp_seq (wp_mono (kx a w E S) ?_);intro x a w C
 cases x with
 |normal=>obtain⟨i,hi,E,S⟩:=C;exact ky i hi a w E S
 |_=>exact C
theorem zY{ι:Type}{inv:ι->Prop}{ev:ι->List (Nat×Value)}{Lv:ι->List Res}{hv:ι->Mem}(i:ι)(hi:inv i)(he:Sub (ev i) e)(hL:Lv i=L)(hh:hv i=h):
 GQ n w0 h0 (Exit.then (λa w=>∃i,inv i/\Env n (ev i) a/\St w0 h0 (Lv i) (hv i) w) Q) .normal e L h:=
 λa w E S=>⟨i,hi,E.sub he,by rw[hL,hh];exact S⟩
theorem kQ{ι:Type}{c:Code}(inv:ι->Prop)(ev:ι->List (Nat×Value))(Lv:ι->List Res)(hv:ι->Mem)(μ:ι->Nat)(i0:ι)(hi0:inv i0)(he:Sub (ev i0) e)(hL:Lv i0=L)(hh:hv i0=h)
    (round:∀i,inv i->GC P n w0 h0 c (Exit.then (λa w=>∃j,(inv j/\μ j<μ i)/\Env n (ev j) a/\St w0 h0 (Lv j) (hv j) w) Q) (ev i) (Lv i) (hv i)):GC P n w0 h0 (.loop c) Q e L h:=by
 have key:∀m i,μ i=m->inv i->∀a w,Env n (ev i) a->St w0 h0 (Lv i) (hv i) w->∀(b:Frame) (k:List Item) (cs:List Frame),
  ∃x a' w',Q x a' w'/\Arrives P (lone (b.at a (.code c::.inLoop c::k)) cs w) b k cs x a' w':=by
  intro m
  induction m using Nat.strongRecOn with
  |_ m ih=>
   intro i hm hi a w E S b k cs;obtain⟨x,a1,w1,hq,harr⟩:=round i hi a w E S b (.inLoop c::k) cs
   cases x with
   |normal=>
    obtain⟨j,⟨hj,hlt⟩,E1,S1⟩:=hq;obtain⟨x2,a2,w2,hq2,harr2⟩:=ih (μ j) (hm▸hlt) j I hj a1 w1 E1 S1 b k cs;exact⟨x2,a2,w2,hq2,.of_steps (Steps.trans harr (.one step_inLoop)) harr2⟩
   |exit id=>exact⟨_,a1,w1,hq,.pass (x:=.inLoop c) rfl (λ_ _=>.inl zo1) harr⟩
   |goto l=>exact⟨_,a1,w1,hq,.pass (x:=.inLoop c) rfl (λ_ _=>.inl zo1) harr⟩
   |ret=>exact⟨_,a1,w1,hq,.pass (x:=.inLoop c) rfl (λ_ _=>.inl zo1) harr⟩
   |panic ch=>exact⟨_,a1,w1,hq,.pass (x:=.inLoop c) rfl (λ_ _=>.inl zo1) harr⟩
   |outgrown=>exact⟨_,a1,w1,hq,.pass (x:=.inLoop c) rfl (λ_ _=>.inl zo1) harr⟩
 intro a w E S b k cs;obtain⟨x,a',w',hq,harr⟩:=key _ i0 I hi0 a w (E.sub he) (by rw[hL,hh];exact S) b k cs;exact⟨x,a',w',hq,.of_steps (.one step_loop) harr⟩
theorem jM{ι:Type}{inv:ι->Prop}{ev:ι->List (Nat×Value)}{Lv:ι->List Res}{hv:ι->Mem}{μ:ι->Nat}{m:Nat}(i:ι)(hi:inv i)(hm:μ i<m)(he:Sub (ev i) e)(hL:Lv i=L)(hh:hv i=h):
 GQ n w0 h0 (Exit.then (λa w=>∃j,(inv j/\μ j<m)/\Env n (ev j) a/\St w0 h0 (Lv j) (hv j) w) Q) .normal e L h:=
 λa w E S=>⟨i,⟨hi,hm⟩,E.sub he,by rw[hL,hh];exact S⟩
theorem zF{fn:Func}{t:Nat}{v:Value}{R:Mem->Value->Prop}(hr:fn.results=#[.tmp t])(hv:zM e (.tmp t)=some v)(hR:R h v):GQ n w0 h0 (bodyPost P fn (Ret w0 h0 R)) .ret e L h:=by
 intro a w E S;refine bodyPost_ret (results_tmp hr _ _ _) E.defers ?_;have:=E.eval hv;simp only[Act.eval] at this;rw[this];exact⟨v,h,I,hR,S.sublist (zru _)⟩
theorem qL{fn:Func}{t:Nat}{v:Value}{R:Mem->Value->List Res->Prop}(hr:fn.results=#[.tmp t])(hv:zM e (.tmp t)=some v)(hR:R h v L):GQ n w0 h0 (bodyPost P fn (rA w0 h0 R)) .ret e L h:=by
 intro a w E S;refine bodyPost_ret (results_tmp hr _ _ _) E.defers ?_;have:=E.eval hv;simp only[Act.eval] at this;rw[this];exact⟨v,h,L,I,hR,S⟩
theorem uQ{fn:Func}{t u:Nat}{v x:Value}{R:Mem->Value->Prop}(hr:fn.results=#[.tmp t,.tmp u])(hv:zM e (.tmp t)=some v)(hx:zM e (.tmp u)=some x)(hR:R h (.tuple #[v,x])):
 GQ n w0 h0 (bodyPost P fn (Ret w0 h0 R)) .ret e L h:=by
 intro a w E S;refine bodyPost_ret (results_tmp2 hr _ _ _) E.defers ?_;have h1:=E.eval hv;have h2:=E.eval hx;simp only[Act.eval] at h1 h2;rw[h1,h2];exact⟨_,h,I,hR,S.sublist (zru _)⟩
theorem jZ{fn:Func}{t u s:Nat}{v x y:Value}{R:Mem->Value->Prop}(hr:fn.results=#[.tmp t,.tmp u,.tmp s])(hv:zM e (.tmp t)=some v)(hx:zM e (.tmp u)=some x)(hy:zM e (.tmp s)=some y)
    (hR:R h (.tuple #[v,x,y])):GQ n w0 h0 (bodyPost P fn (Ret w0 h0 R)) .ret e L h:=by
 intro a w E S;have h1:=E.eval hv;have h2:=E.eval hx;have h3:=E.eval hy;simp only[Act.eval] at h1 h2 h3;refine bodyPost_ret (v:=.tuple #[v,x,y]) ?_ E.defers ⟨_,h,I,hR,S.sublist (zru _)⟩;simp only[zji] at h1 h2 h3;simp[results,hr,h1,h2,h3]
theorem eE{ops:Array Oper}{rest:List Oper}{o:Oper}{d:Nat}{v:Value}(hv:OpV P n w0 h0 o e L h v)(hg:o.guard=none)(hd:o.dst=some d)(hn:Nat.ble (d+1) n=true)
    (k:GL P n w0 h0 ops Q rest ((d,v)::e) L h):GL P n w0 h0 ops Q (o::rest) e L h:=by
 intro a w E S;refine wpList_plain hg λK C=>?_;unfold Oper.wp;rw[hv a w E S,Oper.upon_value,hd];exact C _ _ (k _ _ (E.put (zce hn)) S)
theorem t7{ops:Array Oper}{rest:List Oper}{o:Oper}{g t:Nat}{b:Bool}(hg:o.guard=some (g,b))(ht:(ops[g]?).bind (·.dst)=some t)(he:e.lookup t=some (.bool b))
    (k:GL P n w0 h0 ops Q ({o with guard:=none}::rest) e L h):GL P n w0 h0 ops Q (o::rest) e L h:=by
 intro a w E S;have C:=k a w E S;have D:Region.wanted o (yielded ops a.tmps)=true:=by
  have:=E.get t _ he;simp[Region.wanted,hg,yielded,ht,this]
 unfold wpList at C ⊢;rw[zau D];rw[zau (by simp[Region.wanted])] at C;exact C
theorem nS{ops:Array Oper}{rest:List Oper}{o:Oper}{g t d:Nat}{b c:Bool}(hg:o.guard=some (g,b))(ht:(ops[g]?).bind (·.dst)=some t)(he:e.lookup t=some (.bool c))(hbc:(c==b)=false)
    (hd:o.dst=some d)(hn:Nat.ble (d+1) n=true)(k:GL P n w0 h0 ops Q rest ((d,undef)::e) L h):GL P n w0 h0 ops Q (o::rest) e L h:=by
 intro a w E S;have C:Region.wanted o (yielded ops a.tmps)=false:=by
  have:=E.get t _ he;simp only[Region.wanted,hg,yielded,ht,this,Option.bind_some]
  simpa using hbc
 unfold wpList;rw[zae (by simp[C]),hd];exact k _ _ (E.put (zce hn)) S
theorem OpV.tr{o:Oper}{p:Prop}(hp:p)(hv:OpV P n w0 h0 o e L h (vB p)):OpV P n w0 h0 o e L h (.bool true):=wB hp▸hv
theorem OpV.fa{o:Oper}{p:Prop}(hp:¬p)(hv:OpV P n w0 h0 o e L h (vB p)):OpV P n w0 h0 o e L h (.bool false):=yZ hp▸hv
theorem yBV{ops:Array Oper}{rest:List Oper}{o:Oper}{g t d:Nat}{b:Bool}(hg:o.guard=some (g,b))(ht:(ops[g]?).bind (·.dst)=some t)(he:e.lookup t=some undef)
    (hd:o.dst=some d)(hn:Nat.ble (d+1) n=true)(k:GL P n w0 h0 ops Q rest ((d,undef)::e) L h):GL P n w0 h0 ops Q (o::rest) e L h:=by
 intro a w E S;have C:Region.wanted o (yielded ops a.tmps)=false:=by
  have:=E.get t _ he;simp[Region.wanted,hg,yielded,ht,this,undef]
 unfold wpList;rw[zae (by simp[C]),hd];exact k _ _ (E.put (zce hn)) S
theorem qM{ops:Array Oper}{ι:Type}(j:Nat){l:List Oper}(inv:ι->Prop)(ev:ι->List (Nat×Value))(Lv:ι->List Res)(hv:ι->Mem)
    (kx:GL P n w0 h0 ops (Exit.then (λa w=>∃i,inv i/\Env n (ev i) a/\St w0 h0 (Lv i) (hv i) w) Q) (l.take j) e L h)
    (ky:∀i,inv i->GL P n w0 h0 ops Q (l.drop j) (ev i) (Lv i) (hv i)):GL P n w0 h0 ops Q l e L h:=by
 intro a w E S;have key:∀(l1:List Oper) a w,wpList P ops (Exit.then (λa w=>∃i,inv i/\Env n (ev i) a/\St w0 h0 (Lv i) (hv i) w) Q) l1 a w->wpList P ops Q (l1++l.drop j) a w:=by
  intro l1
  induction l1 with
  |nil=>intro a w hq;obtain⟨i,hi,E,S⟩:=hq;exact ky i hi a w E S
  |cons o l1 ih=>
   intro a w hq;simp only[ziu];unfold wpList at hq ⊢
   split
   · rename_i hw
     rw[zau hw] at hq;refine hq.imp (λhq=>?_) (λhq=>⟨hq.1,?_⟩)
     · unfold Oper.wp at *
       generalize (execOp a.eval o).run P w=r at *
       cases r with
       |ok x w'=>
        cases x<;>simp only[Oper.upon] at hq ⊢<;>
         first
          |exact ih _ _ hq
          |exact Calls.mono hq (λe w'' he=>by cases e<;>first|exact ih _ _ he|exact he)
          |exact Rows.mono hq (λ_ _ he=>ih _ _ he)
       |halt x w'=>cases x<;>simp only[Oper.upon] at hq ⊢<;>exact hq
     · obtain⟨a,w,hq⟩:=hq.2;exact⟨a,w,hq⟩
   · rename_i hw
     rw[zae hw] at hq;exact ih _ _ hq
 have:=key (l.take j) a w (kx a w E S)
 rwa [yei] at this
theorem yK{ops:Array Oper}{l:List Oper}(p:Prop)(kt:p->GL P n w0 h0 ops Q l e L h)(kf:¬p->GL P n w0 h0 ops Q l e L h):GL P n w0 h0 ops Q l e L h:=by
 by_cases hp:p
 · exact kt hp
 · exact kf hp
theorem zX5{c:Code}(p:Prop)(kt:p->GC P n w0 h0 c Q e L h)(kf:¬p->GC P n w0 h0 c Q e L h):GC P n w0 h0 c Q e L h:=by
 by_cases hp:p
 · exact kt hp
 · exact kf hp
theorem yBW{ops:Array Oper}{rest:List Oper}{o:Oper}{d f:Nat}{xs:List Operand}{ts:Array TypeId}{vs:List Value}{R:Mem->Value->Prop}(hop:o.op=.call {callee:=.value (.func f),args:=xs.toArray,argTypes:=ts})
    (hg:o.guard=none)(hd:o.dst=some d)(hn:Nat.ble (d+1) n=true)(hcall:∀args w,(callFunc f args).run P w=.ok (.enter f args) w)(hvs:aC e xs vs)
    (hc:∀w,MLe h (mem w)->Calls P f vs.toArray w (Ret w h R))(k:∀v h',MLe h h'->R h' v->GL P n w0 h0 ops Q rest ((d,v)::e) L h'):GL P n w0 h0 ops Q (o::rest) e L h:=by
 intro a w E S;refine wpList_plain hg λK M=>?_;have C:xs.toArray.map a.eval=vs.toArray:=by rw[z0u,E.evals hvs]
 have J:(execOp a.eval o).run P w=.ok (.enter f vs.toArray) w:=by
  obtain⟨dst,op,ty,H,D,guard⟩:=o;simp only at hop;subst hop;simp only[execOp,resolve,Act.eval];simp[Deferred.ofValue,invoke,hcall,C]
 unfold Oper.wp;rw[J,Oper.upon_enter];refine(hc w S.sub).mono ?_
 rintro Z U ⟨v,h',rfl,hR,G⟩
 have O:=S.call G;rw[hd];exact M _ _ (k v h' G.le hR _ _ (E.put (zce hn)) O)
theorem uH{ops:Array Oper}{rest:List Oper}{o:Oper}{d f:Nat}{xs:List Operand}{ts:Array TypeId}{vs:List Value}{R:Mem->Value->List Res->Prop}(hop:o.op=.call {callee:=.value (.func f),args:=xs.toArray,argTypes:=ts})
    (hg:o.guard=none)(hd:o.dst=some d)(hn:Nat.ble (d+1) n=true)(hcall:∀args w,(callFunc f args).run P w=.ok (.enter f args) w)(hvs:aC e xs vs)
    (hc:∀w,MLe h (mem w)->Calls P f vs.toArray w (rA w h R))(k:∀v h' L',MLe h h'->R h' v L'->GL P n w0 h0 ops Q rest ((d,v)::e) (L'++L) h'):GL P n w0 h0 ops Q (o::rest) e L h:=by
 intro a w E S;refine wpList_plain hg λK M=>?_;have C:xs.toArray.map a.eval=vs.toArray:=by rw[z0u,E.evals hvs]
 have J:(execOp a.eval o).run P w=.ok (.enter f vs.toArray) w:=by
  obtain⟨dst,op,ty,H,D,guard⟩:=o;simp only at hop;subst hop;simp only[execOp,resolve,Act.eval];simp[Deferred.ofValue,invoke,hcall,C]
 unfold Oper.wp;rw[J,Oper.upon_enter];refine(hc w S.sub).mono ?_
 rintro Z U ⟨v,h',L',rfl,hR,G⟩
 have O:=S.call G;rw[hd];exact M _ _ (k v h' L' G.le hR _ _ (E.put (zce hn)) O)
theorem zKR{ops:Array Oper}{rest:List Oper}{o:Oper}{d f:Nat}{xs:List Operand}{ts:Array TypeId}{vs:List Value}{R:Mem->Value->Prop}(hop:o.op=.call {callee:=.value (.func f),args:=xs.toArray,argTypes:=ts})
    (hg:o.guard=none)(hd:o.dst=some d)(hn:Nat.ble (d+1) n=true)(hcall:∀args w,(callFunc f args).run P w=.ok (.enter f args) w)(hvs:aC e xs vs)
    (hc:∀w,St w0 h0 L h w->Calls P f vs.toArray w (Ret w (mem w) R))(k:∀v,(∃h',R h' v)->GL P n w0 h0 ops Q rest ((d,v)::e) L h):GL P n w0 h0 ops Q (o::rest) e L h:=by
 intro a w E S;refine wpList_plain hg λK U=>?_;have C:xs.toArray.map a.eval=vs.toArray:=by rw[z0u,E.evals hvs]
 have D:(execOp a.eval o).run P w=.ok (.enter f vs.toArray) w:=by
  obtain⟨dst,op,ty,O,J,guard⟩:=o;simp only at hop;subst hop;simp only[execOp,resolve,Act.eval];simp[Deferred.ofValue,invoke,hcall,C]
 unfold Oper.wp;rw[D,Oper.upon_enter];refine(hc w S).mono ?_
 rintro e' M ⟨v,h',rfl,hR,G⟩
 have H:∀r∈L,∀b,r.fp=some b->b<w.heap.size:=λr D b hb=>Res.fp_lt (S.ok r D) hb;have Z:St w0 h0 L h M:=⟨S.below.trans (G.below.mono S.below.size),S.le,(S.sub.trans G.le).trans G.sub,S.fresh,λr D=>Res.kept (S.ok r D) λb hb=>G.below.block b (H r D b hb),S.own,S.apart⟩;rw[hd];exact U _ _ (k v ⟨h',hR⟩ _ _ (E.put (zce hn)) Z)
theorem dL{ops:Array Oper}{rest:List Oper}{o:Oper}{d f:Nat}{xs:List Operand}{ts:Array TypeId}{vs:List Value}{R:Mem->Value->List Res->Prop}(hop:o.op=.call {callee:=.value (.func f),args:=xs.toArray,argTypes:=ts})
    (hg:o.guard=none)(hd:o.dst=some d)(hn:Nat.ble (d+1) n=true)(hcall:∀args w,(callFunc f args).run P w=.ok (.enter f args) w)(hvs:aC e xs vs)
    (hc:∀w,St w0 h0 L h w->Calls P f vs.toArray w (rA w0 h0 R))(k:∀v h' L',R h' v L'->GL P n w0 h0 ops Q rest ((d,v)::e) L' h'):GL P n w0 h0 ops Q (o::rest) e L h:=by
 intro a w E S;refine wpList_plain hg λK J=>?_;have C:xs.toArray.map a.eval=vs.toArray:=by rw[z0u,E.evals hvs]
 have H:(execOp a.eval o).run P w=.ok (.enter f vs.toArray) w:=by
  obtain⟨dst,op,ty,G,D,guard⟩:=o;simp only at hop;subst hop;simp only[execOp,resolve,Act.eval];simp[Deferred.ofValue,invoke,hcall,C]
 unfold Oper.wp;rw[H,Oper.upon_enter];refine(hc w S).mono ?_
 rintro U O ⟨v,h',L',rfl,hR,M⟩
 rw[hd];exact J _ _ (k v h' L' hR _ _ (E.put (zce hn)) M)
theorem xY{ops:Array Oper}{rest:List Oper}{o:Oper}{A B:List Res}{r r':Res}(hv:Upd P n w0 h0 o e A r B h r')
    (hfp:r'.fp=r.fp)(hg:o.guard=none)(hd:o.dst=none)(k:GL P n w0 h0 ops Q rest e (A++r'::B) h):GL P n w0 h0 ops Q (o::rest) e (A++r::B) h:=by
 intro a w E S;refine wpList_plain hg λK H=>?_;obtain⟨J,G,D,C⟩:=hv a w E S;unfold Oper.wp;rw[G,Oper.upon_skip,hd];exact H _ _ (k _ _ E (S.grown D C λb hb=>.inl (hfp▸hb)))
end rules
theorem law_true{P:Program}{f:FuncId}{args:Array Value}{w:World}{h:Mem}(hc:Calls P f args w (Ret w h λ_ v=>v=.bool true)):Calls P f args w λe w'=>e=.returned (.bool true)/\Below w.heap.size w w':=
 hc.mono λ_ _ ⟨_,_,he,hv,S⟩=>⟨by rw[he,hv],S.below⟩
def vI(x:Int):Value:=.int .i64 x
def vU(k:IntKind)(x:Nat):Value:=.int k (x:Int)
def ub:IntKind->Nat
  | .u8=>256
  | .u16=>65536
  | .u32=>4294967296
  | .u64=>18446744073709551616
  |_=>0
theorem zUI{k:IntKind}(hk:k.signed=false)(x:Int):k.wrap x=x%(ub k:Int):=by
 cases k<;>simp[IntKind.signed] at hk<;>simp[IntKind.wrap,IntKind.signed,IntKind.bits,ub]
theorem zA0{k:IntKind}(hk:k.signed=false)(x:Nat):k.wrap (x:Int)=((x%ub k:Nat):Int):=by
 rw[zUI hk];omega
theorem oB{k:IntKind}(hk:k.signed=false){x:Nat}(hx:x<ub k):k.wrap (x:Int)=(x:Int):=by
 rw[zA0 hk,zoh hx]
theorem zCM{x:Int}(h1:-9223372036854775808<=x)(h2:x<9223372036854775808):IntKind.i64.wrap x=x:=by
 rw[IntKind.wrap_i64];omega
section ops
variable {P:Program}{n:Nat}{w0:World}{h0:Mem}{e:List (Nat×Value)}{L:List Res}{h:Mem}
variable {ds:Option Tmp}{ty:TypeId}{ps:String}{af:Array Edge}{gd:Option (Nat×Bool)}
theorem xL{x:Operand}{v:Value}(hx:zM e x=some v):OpV P n w0 h0 ⟨ds,.move x,ty,ps,af,gd⟩ e L h v:=by
 intro a w E S;simp[execOp,E.eval hx]
theorem tX{x:Operand}{v:Value}(hx:zM e x=some v):OpV P n w0 h0 ⟨ds,.assign x,ty,ps,af,gd⟩ e L h v:=by
 intro a w E S;simp[execOp,E.eval hx]
theorem cV{c x y:Operand}{v:Value}(hc:zM e c=some (.bool true))(hx:zM e x=some v):OpV P n w0 h0 ⟨ds,.pick c x y,ty,ps,af,gd⟩ e L h v:=by
 intro a w E S;simp[execOp,E.eval hc,E.eval hx,asBool]
theorem cW{c x y:Operand}{v:Value}(hc:zM e c=some (.bool false))(hy:zM e y=some v):OpV P n w0 h0 ⟨ds,.pick c x y,ty,ps,af,gd⟩ e L h v:=by
 intro a w E S;simp[execOp,E.eval hc,E.eval hy,asBool]
theorem fH{x:Operand}{i:Nat}{vs:List Value}{v:Value}(hx:zM e x=some (.tuple vs.toArray))(hv:vs[i]?=some v):OpV P n w0 h0 ⟨ds,.extract x i,ty,ps,af,gd⟩ e L h v:=by
 intro a w E S;simp[execOp,E.eval hx,Instr.extract,hv]
theorem zOX{t:TypeId}{x:Operand}{p:Prop}(hx:zM e x=some (vB p)):OpV P n w0 h0 ⟨ds,.unOp .not t x,ty,ps,af,gd⟩ e L h (vB (¬p)):=by
 intro a w E S;simp[execOp,E.eval hx,Op.unary,vB]
theorem zWB{t:TypeId}{x:Operand}{b:Bool}(hx:zM e x=some (.bool b)):OpV P n w0 h0 ⟨ds,.unOp .not t x,ty,ps,af,gd⟩ e L h (.bool !b):=by
 intro a w E S;simp[execOp,E.eval hx,Op.unary]
theorem mJ{t:TypeId}{x:Operand}{m:Int}(hx:zM e x=some (vI m))(h1:-9223372036854775808<m)(h2:m<=9223372036854775808):OpV P n w0 h0 ⟨ds,.unOp .neg t x,ty,ps,af,gd⟩ e L h (vI (-m)):=by
 intro a w E S;have:=zCM (x:=-m) zos zos;simp[execOp,E.eval hx,Op.unary,Op.intArith,vI,this]
theorem xQ(op:BinOp)(t:TypeId)(x y:Operand)(k k':IntKind)(m m':Int)(w:World):(eqGuard op t x y (.int k m) (.int k' m')).run P w=.ok () w:=by
 cases op<;>simp[eqGuard]
theorem zV{t yt:TypeId}{x y:Operand}{p q:Int}(hx:zM e x=some (vI p))(hy:zM e y=some (vI q))(h1:-9223372036854775808<=p+q)(h2:p+q<9223372036854775808):
 OpV P n w0 h0 ⟨ds,.binOp .add t x y yt,ty,ps,af,gd⟩ e L h (vI (p+q)):=by
 intro a w E S;simp[execOp,E.eval hx,E.eval hy,vI,xQ,binOp,Op.intArith,zCM h1 h2]
theorem jY{t yt:TypeId}{x y:Operand}{p q:Int}(hx:zM e x=some (vI p))(hy:zM e y=some (vI q))(h1:-9223372036854775808<=p-q)(h2:p-q<9223372036854775808):
 OpV P n w0 h0 ⟨ds,.binOp .sub t x y yt,ty,ps,af,gd⟩ e L h (vI (p-q)):=by
 intro a w E S;simp[execOp,E.eval hx,E.eval hy,vI,xQ,binOp,Op.intArith,zCM h1 h2]
theorem aX{t yt:TypeId}{x y:Operand}{p q:Int}(hx:zM e x=some (vI p))(hy:zM e y=some (vI q))(h1:-9223372036854775808<=p*q)(h2:p*q<9223372036854775808):
 OpV P n w0 h0 ⟨ds,.binOp .mul t x y yt,ty,ps,af,gd⟩ e L h (vI (p*q)):=by
 intro a w E S;simp[execOp,E.eval hx,E.eval hy,vI,xQ,binOp,Op.intArith,zCM h1 h2]
theorem mH{t yt:TypeId}{x y:Operand}{p q:Int}(hx:zM e x=some (vI p))(hy:zM e y=some (vI q))(h1:0<=p)(h2:p<9223372036854775808)(h3:0<q):
 OpV P n w0 h0 ⟨ds,.binOp .quo t x y yt,ty,ps,af,gd⟩ e L h (vI (p/q)):=by
 intro a w E S;have D:p.tdiv q=p/q:=Int.tdiv_eq_ediv_of_nonneg h1;have H:0<=p/q:=Int.ediv_nonneg h1 zos;have G:p/q<=p:=Int.ediv_le_self q h1;have C:q≠0:=by omega
 simp[execOp,E.eval hx,E.eval hy,vI,xQ,binOp,Op.intDiv,C,D,zCM (x:=p/q) zos zos]
theorem vC{t yt:TypeId}{x y:Operand}{p q:Int}(hx:zM e x=some (vI p))(hy:zM e y=some (vI q))(h1:0<=p)(h3:0<q):
 OpV P n w0 h0 ⟨ds,.binOp .rem t x y yt,ty,ps,af,gd⟩ e L h (vI (p%q)):=by
 intro a w E S;have D:p.tmod q=p%q:=Int.tmod_eq_emod_of_nonneg h1;have C:q≠0:=by omega
 simp[execOp,E.eval hx,E.eval hy,vI,xQ,binOp,Op.intDiv,C,D]
theorem yH{t yt:TypeId}{x y:Operand}{p q:Int}(hx:zM e x=some (vI p))(hy:zM e y=some (vI q)):OpV P n w0 h0 ⟨ds,.binOp .lss t x y yt,ty,ps,af,gd⟩ e L h (vB (p<q)):=by
 intro a w E S;simp[execOp,E.eval hx,E.eval hy,vI,xQ,binOp,Op.intCmp,vB]
theorem zFS{t yt:TypeId}{x y:Operand}{p q:Int}(hx:zM e x=some (vI p))(hy:zM e y=some (vI q)):OpV P n w0 h0 ⟨ds,.binOp .leq t x y yt,ty,ps,af,gd⟩ e L h (vB (p<=q)):=by
 intro a w E S;simp[execOp,E.eval hx,E.eval hy,vI,xQ,binOp,Op.intCmp,vB]
theorem aY{t yt:TypeId}{x y:Operand}{p q:Int}(hx:zM e x=some (vI p))(hy:zM e y=some (vI q)):OpV P n w0 h0 ⟨ds,.binOp .gtr t x y yt,ty,ps,af,gd⟩ e L h (vB (q<p)):=by
 intro a w E S;simp[execOp,E.eval hx,E.eval hy,vI,xQ,binOp,Op.intCmp,vB]
theorem aZ{t yt:TypeId}{x y:Operand}{p q:Int}(hx:zM e x=some (vI p))(hy:zM e y=some (vI q)):OpV P n w0 h0 ⟨ds,.binOp .geq t x y yt,ty,ps,af,gd⟩ e L h (vB (q<=p)):=by
 intro a w E S;simp[execOp,E.eval hx,E.eval hy,vI,xQ,binOp,Op.intCmp,vB]
theorem mN{t yt:TypeId}{x y:Operand}{p q:Int}(hx:zM e x=some (vI p))(hy:zM e y=some (vI q)):OpV P n w0 h0 ⟨ds,.binOp .eql t x y yt,ty,ps,af,gd⟩ e L h (vB (p=q)):=by
 intro a w E S;simp[execOp,E.eval hx,E.eval hy,vI,xQ,binOp,Op.intCmp,vB,BEq.beq]
theorem mI{t yt:TypeId}{x y:Operand}{p q:Int}(hx:zM e x=some (vI p))(hy:zM e y=some (vI q)):OpV P n w0 h0 ⟨ds,.binOp .neq t x y yt,ty,ps,af,gd⟩ e L h (vB (p≠q)):=by
 intro a w E S;have:(p != q)=!decide (p=q):=I;simp[execOp,E.eval hx,E.eval hy,vI,xQ,binOp,Op.intCmp,vB,this]
theorem sR{k:IntKind}{W:Nat}{t yt:TypeId}{x y:Operand}{p q:Nat}(hk:k.signed=false)(hW:ub k=W)(hx:zM e x=some (vU k p))(hy:zM e y=some (vU k q))(hlt:p+q<W):
 OpV P n w0 h0 ⟨ds,.binOp .add t x y yt,ty,ps,af,gd⟩ e L h (vU k (p+q)):=by
 intro a w E S;have:=oB hk (x:=p+q) zos;simp only[Int.natCast_add] at this;simp[execOp,E.eval hx,E.eval hy,vU,xQ,binOp,Op.intArith,this]
theorem zTA{k:IntKind}{W:Nat}{t yt:TypeId}{x y:Operand}{p q:Nat}(hk:k.signed=false)(hW:ub k=W)(hx:zM e x=some (vU k p))(hy:zM e y=some (vU k q)):
 OpV P n w0 h0 ⟨ds,.binOp .add t x y yt,ty,ps,af,gd⟩ e L h (vU k ((p+q)%W)):=by
 intro a w E S;have:=zA0 hk (p+q);rw[hW] at this;simp only[Int.natCast_add] at this;simp[execOp,E.eval hx,E.eval hy,vU,xQ,binOp,Op.intArith,this]
theorem aW{k:IntKind}{W:Nat}{t yt:TypeId}{x y:Operand}{p q:Nat}(hk:k.signed=false)(hW:ub k=W)(hx:zM e x=some (vU k p))(hy:zM e y=some (vU k q))(hle:q<=p)(hlt:p<W):
 OpV P n w0 h0 ⟨ds,.binOp .sub t x y yt,ty,ps,af,gd⟩ e L h (vU k (p-q)):=by
 intro a w E S;have:=oB hk (x:=p-q) zos;rw[Int.ofNat_sub hle] at this;simp[execOp,E.eval hx,E.eval hy,vU,xQ,binOp,Op.intArith,this,Int.ofNat_sub hle]
theorem mG{k:IntKind}{W:Nat}{t yt:TypeId}{x y:Operand}{p q:Nat}(hk:k.signed=false)(hW:ub k=W)(hx:zM e x=some (vU k p))(hy:zM e y=some (vU k q))(hlt:q<=W):
 OpV P n w0 h0 ⟨ds,.binOp .sub t x y yt,ty,ps,af,gd⟩ e L h (vU k ((p+W-q)%W)):=by
 intro a w E S;have h1:=zUI hk ((p:Int)-q);rw[hW] at h1;have h2:((p:Int)-q)%(W:Int)=(((p+W-q)%W:Nat):Int):=by
  have C:((p+W-q:Nat):Int)=(p:Int)-q+W:=by omega
  rw[Int.natCast_emod,C,Int.add_emod_right]
 simp[execOp,E.eval hx,E.eval hy,vU,xQ,binOp,Op.intArith,h1,h2]
theorem iS{k:IntKind}{W:Nat}{t yt:TypeId}{x y:Operand}{p q:Nat}(hk:k.signed=false)(hW:ub k=W)(hx:zM e x=some (vU k p))(hy:zM e y=some (vU k q))(hlt:p*q<W):
 OpV P n w0 h0 ⟨ds,.binOp .mul t x y yt,ty,ps,af,gd⟩ e L h (vU k (p*q)):=by
 intro a w E S;have:=oB hk (x:=p*q) zos;simp only[zeu] at this;simp[execOp,E.eval hx,E.eval hy,vU,xQ,binOp,Op.intArith,this]
theorem bR{k:IntKind}{W:Nat}{t yt:TypeId}{x y:Operand}{p q:Nat}(hk:k.signed=false)(hW:ub k=W)(hx:zM e x=some (vU k p))(hy:zM e y=some (vU k q))(hlt:p<W)(h0':0<q):
 OpV P n w0 h0 ⟨ds,.binOp .quo t x y yt,ty,ps,af,gd⟩ e L h (vU k (p/q)):=by
 intro a w E S;have h1:p/q<=p:=zki _ _;have:=oB hk (x:=p/q) zos;have h2:((p:Int)).tdiv q=(p:Int)/(q:Int):=Int.tdiv_eq_ediv_of_nonneg zos;have h3:q≠0:=by omega
 have C:k.wrap ((p:Int)/(q:Int))=(p:Int)/(q:Int):=this;simp only[execOp,E.eval hx,E.eval hy,vU,binOp];simp[xQ,Op.intDiv,h3,h2,C]
theorem bQ{k:IntKind}{t yt:TypeId}{x y:Operand}{p q:Nat}(hx:zM e x=some (vU k p))(hy:zM e y=some (vU k q))(h0':0<q):
 OpV P n w0 h0 ⟨ds,.binOp .rem t x y yt,ty,ps,af,gd⟩ e L h (vU k (p%q)):=by
 intro a w E S;have h2:((p:Int)).tmod q=(p:Int)%(q:Int):=Int.tmod_eq_emod_of_nonneg zos;have h3:q≠0:=by omega
 simp only[execOp,E.eval hx,E.eval hy,vU,binOp];simp[xQ,Op.intDiv,h3,h2]
theorem zFQ{k:IntKind}{t yt:TypeId}{x y:Operand}{p q:Nat}(hx:zM e x=some (vU k p))(hy:zM e y=some (vU k q)):OpV P n w0 h0 ⟨ds,.binOp .lss t x y yt,ty,ps,af,gd⟩ e L h (vB (p<q)):=by
 intro a w E S;simp[execOp,E.eval hx,E.eval hy,vU,xQ,binOp,Op.intCmp,vB]
theorem mL{k:IntKind}{t yt:TypeId}{x y:Operand}{p q:Nat}(hx:zM e x=some (vU k p))(hy:zM e y=some (vU k q)):OpV P n w0 h0 ⟨ds,.binOp .gtr t x y yt,ty,ps,af,gd⟩ e L h (vB (q<p)):=by
 intro a w E S;simp[execOp,E.eval hx,E.eval hy,vU,xQ,binOp,Op.intCmp,vB]
theorem cE{k:IntKind}{t yt:TypeId}{x y:Operand}{p q:Nat}(hx:zM e x=some (vU k p))(hy:zM e y=some (vU k q)):OpV P n w0 h0 ⟨ds,.binOp .geq t x y yt,ty,ps,af,gd⟩ e L h (vB (q<=p)):=by
 intro a w E S;simp[execOp,E.eval hx,E.eval hy,vU,xQ,binOp,Op.intCmp,vB]
theorem fU{k:IntKind}{t yt:TypeId}{x y:Operand}{p q:Nat}(hx:zM e x=some (vU k p))(hy:zM e y=some (vU k q)):OpV P n w0 h0 ⟨ds,.binOp .eql t x y yt,ty,ps,af,gd⟩ e L h (vB (p=q)):=by
 intro a w E S;have h1:((p:Int)==(q:Int))=decide (p=q):=by rw[yie];simp;omega
 simp only[execOp,E.eval hx,E.eval hy,vU,binOp];simp only[Op.intCmp,vB,h1];simp[xQ]
theorem tT{k:IntKind}{t yt:TypeId}{x y:Operand}{p q:Nat}(hx:zM e x=some (vU k p))(hy:zM e y=some (vU k q)):OpV P n w0 h0 ⟨ds,.binOp .neq t x y yt,ty,ps,af,gd⟩ e L h (vB (p≠q)):=by
 intro a w E S;have h1:((p:Int) != (q:Int))=decide (p≠q):=by rw[yie];simp;omega
 simp only[execOp,E.eval hx,E.eval hy,vU,binOp];simp only[Op.intCmp,vB,h1];simp[xQ]
theorem rB(k:IntKind)(hk:k.signed=false):2^k.bits=ub k:=by cases k<;>simp[IntKind.signed] at hk<;>rfl
theorem gW{k yk:IntKind}{t yt:TypeId}{x y:Operand}{p s:Nat}(hk:k.signed=false)(hx:zM e x=some (vU k p))(hy:zM e y=some (.int yk (s:Int)))(hp:p<ub k):
 OpV P n w0 h0 ⟨ds,.binOp .shr t x y yt,ty,ps,af,gd⟩ e L h (vU k (p/2^s)):=by
 intro a w E S;have h1:¬((s:Int)<0):=by omega
 have h2:((p:Int)).fdiv (2^min s k.bits)=((p/2^s:Nat):Int):=by
  rw[Int.fdiv_eq_ediv_of_nonneg _ (Int.le_of_lt (Int.pow_pos zos))]
  rcases Nat.le_total s k.bits with hle|hle
  · rw[zre hle];rfl
  · rw[Nat.min_eq_right hle]
    have D:p/2^s=0:=z0e (zku hp (by rw[<-rB k hk];exact zii zos hle));have C:p/2^k.bits=0:=z0e (by rw[rB k hk];exact hp);rw[D];have:((p:Int)/(2^k.bits:Int))=((p/2^k.bits:Nat):Int):=I;rw[this,C]
 simp only[execOp,E.eval hx,E.eval hy,vU,binOp];simp[xQ,Op.shift,h1,h2]
theorem gX{k yk:IntKind}{W:Nat}{t yt:TypeId}{x y:Operand}{p s:Nat}(hk:k.signed=false)(hW:ub k=W)(hx:zM e x=some (vU k p))(hy:zM e y=some (.int yk (s:Int))):
 OpV P n w0 h0 ⟨ds,.binOp .shl t x y yt,ty,ps,af,gd⟩ e L h (vU k (p*2^s%W)):=by
 intro a w E S;have h1:¬((s:Int)<0):=by omega
 have h2:k.wrap ((p:Int)*2^min s k.bits)=((p*2^s%W:Nat):Int):=by
  rcases Nat.le_total s k.bits with hle|hle
  · rw[zre hle,<-hW,<-zA0 hk];simp
  · rw[Nat.min_eq_right hle]
    have D:p*2^s%W=0:=by
     rw[<-hW,<-rB k hk];exact Nat.mod_eq_zero_of_dvd (Nat.dvd_trans (Nat.pow_dvd_pow 2 hle) (Nat.dvd_mul_left _ _))
    have C:((p*2^k.bits%ub k:Nat):Int)=0:=by rw[rB k hk];simp
    have:=zA0 hk (p*2^k.bits);rw[C] at this;rw[D]
    simpa using this
 simp only[execOp,E.eval hx,E.eval hy,vU,binOp];simp[xQ,Op.shift,h1,h2]
theorem rD{k:IntKind}{t yt:TypeId}{x y:Operand}{p q:Nat}(hk:k.signed=false)(hx:zM e x=some (vU k p))(hy:zM e y=some (vU k q))(hp:p<ub k)(hq:q<ub k):
 OpV P n w0 h0 ⟨ds,.binOp .or t x y yt,ty,ps,af,gd⟩ e L h (vU k (p |||q)):=by
 intro a w E S;have hb:=rB k hk;have h3:p |||q<2^k.bits:=Nat.or_lt_two_pow zos zos;have G:=oB hk (x:=p |||q) zos;have D:=zoh (a:=p) (b:=2^k.bits) zos;have C:=zoh (a:=q) (b:=2^k.bits) zos;simp only[execOp,E.eval hx,E.eval hy,vU,binOp];simp[xQ,Op.intBits,G,D,C]
theorem zWI{k:IntKind}{t yt:TypeId}{x y:Operand}{p q:Nat}(hk:k.signed=false)(hx:zM e x=some (vU k p))(hy:zM e y=some (vU k q))(hp:p<ub k)(hq:q<ub k):
 OpV P n w0 h0 ⟨ds,.binOp .and t x y yt,ty,ps,af,gd⟩ e L h (vU k (p&&&q)):=by
 intro a w E S;have hb:=rB k hk;have h3:p&&&q<=p:=Nat.and_le_left;have G:=oB hk (x:=p&&&q) zos;have D:=zoh (a:=p) (b:=2^k.bits) zos;have C:=zoh (a:=q) (b:=2^k.bits) zos;simp only[execOp,E.eval hx,E.eval hy,vU,binOp];simp[xQ,Op.intBits,G,D,C]
theorem iP{t:TypeId}(hu:P.underlying t=some .bool)(x y:Bool)(w:World):(Op.equal t (.bool x) (.bool y)).run P w=.ok (x==y) w:=by
 have h1:Op.equal t (.bool x) (.bool y)=Op.equalIn (9999+1) t (.bool x) (.bool y):=I;rw[h1,Op.equalIn];simp[run_underlying hu]
theorem iV{t yt:TypeId}{x y:Operand}{p q:Prop}(hu:P.underlying t=some .bool)(hx:zM e x=some (vB p))(hy:zM e y=some (vB q)):
 OpV P n w0 h0 ⟨ds,.binOp .eql t x y yt,ty,ps,af,gd⟩ e L h (vB (p↔q)):=by
 intro a w E S;simp only[execOp,E.eval hx,E.eval hy,vB,binOp];simp[eqGuard,iP hu]
 by_cases hp:p<;>by_cases hq:q<;>simp[hp,hq]
theorem sQ{t yt:TypeId}{x y:Operand}{p q:Prop}(hu:P.underlying t=some .bool)(hx:zM e x=some (vB p))(hy:zM e y=some (vB q)):
 OpV P n w0 h0 ⟨ds,.binOp .neq t x y yt,ty,ps,af,gd⟩ e L h (vB (¬(p↔q))):=by
 intro a w E S;simp only[execOp,E.eval hx,E.eval hy,vB,binOp];simp[eqGuard,iP hu]
 by_cases hp:p<;>by_cases hq:q<;>simp[hp,hq]
theorem tL{k k':IntKind}{W:Nat}{s t:TypeId}{d:TypeDesc}{x:Operand}{p:Nat}(hs:P.underlying s=some d)(ht:P.underlying t=some (.int k'))(hk:k'.signed=false)(hW:ub k'=W)(hx:zM e x=some (vU k p)):
 OpV P n w0 h0 ⟨ds,.convert s t x,ty,ps,af,gd⟩ e L h (vU k' (p%W)):=by
 intro a w E S;have:=zA0 hk p;rw[hW] at this;simp[execOp,E.eval hx,vU,convert,run_underlying hs,run_underlying ht,Conv.intToInt,this]
theorem vV{k k':IntKind}{W:Nat}{s t:TypeId}{d:TypeDesc}{x:Operand}{p:Nat}(hs:P.underlying s=some d)(ht:P.underlying t=some (.int k'))(hk:k'.signed=false)(hW:ub k'=W)(hx:zM e x=some (vU k p))(hp:p<W):
 OpV P n w0 h0 ⟨ds,.convert s t x,ty,ps,af,gd⟩ e L h (vU k' p):=by
 have:=tL (n:=n) (w0:=w0) (h0:=h0) (L:=L) (h:=h) (ds:=ds) (ty:=ty) (ps:=ps) (af:=af) (gd:=gd) hs ht hk hW hx
 rwa [zoh hp] at this
theorem zAD{k':IntKind}{W:Nat}{s t:TypeId}{d:TypeDesc}{x:Operand}{p:Nat}(hs:P.underlying s=some d)(ht:P.underlying t=some (.int k'))(hk:k'.signed=false)(hW:ub k'=W)(hx:zM e x=some (vI (p:Int)))(hp:p<W):
 OpV P n w0 h0 ⟨ds,.convert s t x,ty,ps,af,gd⟩ e L h (vU k' p):=by
 intro a w E S;have:=oB hk (x:=p) zos;simp[execOp,E.eval hx,vI,vU,convert,run_underlying hs,run_underlying ht,Conv.intToInt,this]
theorem zO3{k:IntKind}{s t:TypeId}{d:TypeDesc}{x:Operand}{p:Nat}(hs:P.underlying s=some d)(ht:P.underlying t=some (.int .i64))(hx:zM e x=some (vU k p))(hp:p<9223372036854775808):
 OpV P n w0 h0 ⟨ds,.convert s t x,ty,ps,af,gd⟩ e L h (vI (p:Int)):=by
 intro a w E S;have:=zCM (x:=(p:Int)) zos zos;simp[execOp,E.eval hx,vI,vU,convert,run_underlying hs,run_underlying ht,Conv.intToInt,this]
def Sl(h:Mem)(k:Nat)(v:Value)(m:Nat)(cs:List Value):Prop:=
 ∃a cap,v=.slice a m cap/\m<=cap/\cap<=maxLen/\cs.length=m*k/\∀i,i<cs.length->∃b o,a=some ⟨b,o,none⟩/\cell h b (o+i)=cs[i]?
theorem Sl.mono{h h':Mem}{k:Nat}{v:Value}{m:Nat}{cs:List Value}(s:Sl h k v m cs)(hh:MLe h h'):Sl h' k v m cs:=by
 obtain⟨a,C,G,h1,h2,h3,J⟩:=s;refine⟨a,C,G,h1,h2,h3,λi hi=>?_⟩;obtain⟨b,o,H,D⟩:=J i hi;refine⟨b,o,H,?_⟩;rw[zoc hi] at D ⊢;exact zDK hh D
theorem Sl.nil(h:Mem)(k:Nat):Sl h k (.slice none 0 0) 0 []:=⟨none,0,rfl,zbe _,by unfold maxLen;omega,by simp,λi hi=>by simp at hi⟩
theorem Sl.one{h:Mem}{k:Nat}{v:Value}{m:Nat}{cs:List Value}(s:Sl h k v m cs):∃a cap,v=.slice a m cap:=let ⟨a,cap,hv,_⟩:=s;⟨a,cap,hv⟩
theorem Sl.lt63{h:Mem}{k:Nat}{v:Value}{m:Nat}{cs:List Value}(s:Sl h k v m cs):m<9223372036854775808:=by
 obtain⟨a,C,D,h1,h2,_⟩:=s;unfold maxLen at h2;omega
def zI(k:Nat)(v:Value)(i:Nat):Value:=
 match v with
 | .slice (some a) _ _=>.pointer (some (a.add (i*k)))
 |_=>undef
theorem kA(b o j:Nat):(⟨b,o,none⟩:Addr).add j=⟨b,o+j,none⟩:=by
 unfold Addr.add
 split
 · simp_all
 · rfl
theorem mK{v:Value}{m:Nat}{t:TypeId}{E:TypeId}{x:Operand}(ht:P.underlying t=some (.slice E))(hx:zM e x=some v)(hv:∃a cap,v=.slice a m cap):
 OpV P n w0 h0 ⟨ds,.call {callee:=.builtin .len,args:=#[x],argTypes:=#[t]},ty,ps,af,gd⟩ e L h (vI (m:Int)):=by
 obtain⟨a,cap,rfl⟩:=hv;intro a w E S;simp[execOp,resolve,invoke,builtin,Builtin.len_,E.eval hx,run_underlying ht,goInt,vI]
theorem iU{v:Value}{m:Nat}{cs:List Value}{k:Nat}{t E:TypeId}{x y:Operand}{q:Int}(i:Nat)(ht:P.underlying t=some (.slice E))(hsz:∀w,(Go.sizeOf E).run P w=.ok k w)(hx:zM e x=some v)(hy:zM e y=some (vI q))
    (hv:Sl h k v m cs)(hq:q=(i:Int))(hi:i<m)(hk:0<k):OpV P n w0 h0 ⟨ds,.indexAddr t x y,ty,ps,af,gd⟩ e L h (zI k v i):=by
 obtain⟨M,J,rfl,h1,h2,h3,H⟩:=hv;subst hq;have C:0<cs.length:=by rw[h3];exact Nat.mul_pos zos hk
 obtain⟨b,o,rfl,_⟩:=H 0 C;intro a w D S;have G:(0:Int)<=(i:Int)/\(i:Int)<(m:Int):=by omega
 simp[execOp,D.eval hx,D.eval hy,Instr.indexAt,vI,asIntOf,run_underlying ht,hsz,zI,hi]
theorem Sl.cell{h:Mem}{k:Nat}{v:Value}{m:Nat}{cs:List Value}(s:Sl h k v m cs){i j:Nat}{u:Value}(hj:cs[i*k+j]?=some u):∃b o,zI k v i=.pointer (some ⟨b,o,none⟩)/\Bk.cell h b (o+j)=some u:=by
 obtain⟨a,H,rfl,h1,h2,h3,G⟩:=s;obtain⟨C,_⟩:=zwu.1 hj;obtain⟨b,o,rfl,D⟩:=G _ C;refine⟨b,o+i*k,?_,?_⟩
 · simp[zI,kA]
 · rw[hj] at D
   rw[<-D];congr 1;omega
theorem zFR{v u:Value}{m:Nat}{cs:List Value}{t:TypeId}{x:Operand}{i:Nat}(ha:∀w,(isAgg t).run P w=.ok false w)(hx:zM e x=some (zI 1 v i))(hv:Sl h 1 v m cs)(hi:cs[i]?=some u):
 OpV P n w0 h0 ⟨ds,.load t x,ty,ps,af,gd⟩ e L h u:=by
 obtain⟨b,o,D,G⟩:=hv.cell (i:=i) (j:=0) (u:=u) (by simpa using hi);rw[D] at hx;intro a w E S;have C:=lL S.sub G;simp only[zmi] at C;simp[execOp,E.eval hx,Instr.loadAt,Instr.sureAddr,loadVar,ha,Go.load,Sem.run,C]
def us(k:IntKind)(xs:List Nat):List Value:=xs.map (vU k)
structure Us(k:IntKind)(h:Mem)(v:Value)(xs:List Nat):Prop where
 sl:Sl h 1 v xs.length (us k xs)
 lt:∀x∈xs,x<ub k
theorem Us.mono{k:IntKind}{h h':Mem}{v:Value}{xs:List Nat}(s:Us k h v xs)(hh:MLe h h'):Us k h' v xs:=⟨s.sl.mono hh,s.lt⟩
theorem Us.nil(k:IntKind)(h:Mem):Us k h (.slice none 0 0) []:=⟨Sl.nil h 1,by simp⟩
theorem Us.one{k:IntKind}{h:Mem}{v:Value}{xs:List Nat}(s:Us k h v xs):∃a cap,v=.slice a xs.length cap:=s.sl.one
theorem Us.lt63{k:IntKind}{h:Mem}{v:Value}{xs:List Nat}(s:Us k h v xs):xs.length<9223372036854775808:=s.sl.lt63
theorem zN1{k:IntKind}{xs:List Nat}{i:Nat}(hi:i<xs.length):(us k xs)[i]?=some (vU k (xs.getD i 0)):=by
 simp[us,hi]
theorem Us.getLt{k:IntKind}{h:Mem}{v:Value}{xs:List Nat}(s:Us k h v xs)(i:Nat):xs.getD i 0<ub k\/ub k=0:=by
 by_cases hi:i<xs.length
 · rw[zoa,zoc hi]
   exact .inl (s.lt _ (ynu hi))
 · rw[zoa,zse zos]
   simp only[Option.getD_none];omega
theorem Us.get32{h:Mem}{v:Value}{xs:List Nat}(s:Us .u32 h v xs)(i:Nat):xs.getD i 0<4294967296:=(s.getLt i).resolve_right zov
theorem vT{k:IntKind}{v:Value}{xs:List Nat}{t E:TypeId}{x:Operand}(ht:P.underlying t=some (.slice E))(hx:zM e x=some v)(hv:Us k h v xs):
 OpV P n w0 h0 ⟨ds,.call {callee:=.builtin .len,args:=#[x],argTypes:=#[t]},ty,ps,af,gd⟩ e L h (vI (xs.length:Int)):=mK ht hx hv.one
theorem yD{k:IntKind}{v:Value}{xs:List Nat}{t E:TypeId}{x y:Operand}{q:Int}(i:Nat)(ht:P.underlying t=some (.slice E))(hsz:∀w,(Go.sizeOf E).run P w=.ok 1 w)(hx:zM e x=some v)(hy:zM e y=some (vI q))
    (hv:Us k h v xs)(hq:q=(i:Int))(hi:i<xs.length):OpV P n w0 h0 ⟨ds,.indexAddr t x y,ty,ps,af,gd⟩ e L h (zI 1 v i):=iU i ht hsz hx hy hv.sl hq hi zos
theorem wC{k:IntKind}{v:Value}{xs:List Nat}{t:TypeId}{x:Operand}{i:Nat}(ha:∀w,(isAgg t).run P w=.ok false w)(hx:zM e x=some (zI 1 v i))(hv:Us k h v xs)(hi:i<xs.length):
 OpV P n w0 h0 ⟨ds,.load t x,ty,ps,af,gd⟩ e L h (vU k (xs.getD i 0)):=zFR ha hx hv.sl (zN1 hi)
def tD(k:Nat)(v:Value)(lo hi:Nat):Value:=
 match v with
 | .slice a _ cap=>.slice (if cap=lo then a else a.map (·.add (lo*k))) (hi-lo) (cap-lo)
 |_=>undef
theorem Sl.sub{h:Mem}{k:Nat}{v:Value}{m:Nat}{cs:List Value}(s:Sl h k v m cs){lo hi:Nat}(h1:lo<=hi)(h2:hi<=m):Sl h k (tD k v lo hi) (hi-lo) ((cs.drop (lo*k)).take ((hi-lo)*k)):=by
 obtain⟨a,G,rfl,h3,U,H,M⟩:=s;have O:(hi-lo)*k<=m*k-lo*k:=by rw[<-yye];exact zfu _ zos
 refine⟨_,_,I,by omega,by omega,by rw[zei,zhe,H];omega,λi C=>?_⟩;rw[zei,zhe,H] at C;have D:lo*k+i<cs.length:=by omega
 obtain⟨b,o,rfl,J⟩:=M _ D
 by_cases hcl:G=lo
 · exfalso
   have:hi-lo=0:=by omega
   rw[this] at C;omega
 · refine⟨b,o+lo*k,by simp[hcl,kA],?_⟩
   rw[zmu,zau zos,zxi,<-J]
   congr 1
   omega
theorem Us.sub{k:IntKind}{h:Mem}{v:Value}{xs:List Nat}(s:Us k h v xs){lo hi:Nat}(h1:lo<=hi)(h2:hi<=xs.length):Us k h (tD 1 v lo hi) ((xs.drop lo).take (hi-lo)):=by
 have:=s.sl.sub h1 h2;simp only[z9u] at this;refine⟨?_,λx hx=>s.lt x (z5e (zwe hx))⟩;have C:((xs.drop lo).take (hi-lo)).length=hi-lo:=by rw[zei,zhe];omega
 rw[C]
 simpa[us] using this
theorem zLN{k:Nat}{t E:TypeId}(w:World)(ht:P.underlying t=some (.slice E))(hsz:∀w,(Go.sizeOf E).run P w=.ok k w)(a:Option Addr)(m cap hi:Nat)(h2:hi<=cap):
 (Instr.sliceAt t (.slice a m cap) none (some (vI hi)) none).run P w=.ok (tD k (.slice a m cap) 0 hi) w:=by
 simp[Instr.sliceAt,Instr.slice,run_underlying ht,Instr.sliceBounds,Instr.sliceBound,asIntOf,vI,hsz,tD,h2]
theorem zLM{k:Nat}{t E:TypeId}(w:World)(ht:P.underlying t=some (.slice E))(hsz:∀w,(Go.sizeOf E).run P w=.ok k w)(a:Option Addr)(m cap lo:Nat)(h1:lo<=m):
 (Instr.sliceAt t (.slice a m cap) (some (vI lo)) none none).run P w=.ok (tD k (.slice a m cap) lo m) w:=by
 simp[Instr.sliceAt,Instr.slice,run_underlying ht,Instr.sliceBounds,Instr.sliceBound,asIntOf,vI,hsz,tD,h1]
theorem zAC{v:Value}{m k:Nat}{t E:TypeId}{x hi:Operand}{q:Int}(j:Nat)(ht:P.underlying t=some (.slice E))(hsz:∀w,(Go.sizeOf E).run P w=.ok k w)(hx:zM e x=some v)(hh:zM e hi=some (vI q))
    (hv:∃a cap,v=.slice a m cap/\m<=cap)(hq:q=(j:Int))(h2:j<=m):OpV P n w0 h0 ⟨ds,.slice t x none (some hi) none,ty,ps,af,gd⟩ e L h (tD k v 0 j):=by
 obtain⟨a,cap,rfl,D⟩:=hv;subst hq;intro G w C S;have:=zLN (P:=P) w ht hsz a m cap j zos;simp[execOp,C.eval hx,C.eval hh,this]
theorem jG{v:Value}{m k:Nat}{t E:TypeId}{x lo:Operand}{p:Int}(i:Nat)(ht:P.underlying t=some (.slice E))(hsz:∀w,(Go.sizeOf E).run P w=.ok k w)(hx:zM e x=some v)(hl:zM e lo=some (vI p))
    (hv:∃a cap,v=.slice a m cap/\m<=cap)(hp:p=(i:Int))(h1:i<=m):OpV P n w0 h0 ⟨ds,.slice t x (some lo) none none,ty,ps,af,gd⟩ e L h (tD k v i m):=by
 obtain⟨a,cap,rfl,D⟩:=hv;subst hp;intro G w C S;have:=zLM (P:=P) w ht hsz a m cap i h1;simp[execOp,C.eval hx,C.eval hl,this]
theorem Sl.shape{h:Mem}{k:Nat}{v:Value}{m:Nat}{cs:List Value}(s:Sl h k v m cs):∃a cap,v=.slice a m cap/\m<=cap:=let ⟨a,cap,hv,h1,_⟩:=s;⟨a,cap,hv,h1⟩
theorem Us.shape{k:IntKind}{h:Mem}{v:Value}{xs:List Nat}(s:Us k h v xs):∃a cap,v=.slice a xs.length cap/\xs.length<=cap:=s.sl.shape
theorem zO2{v:Value}{t E yt:TypeId}{x:Operand}(ht:P.underlying t=some (.slice E))(hx:zM e x=some v)(hv:∃a m cap,v=.slice a m cap):
 OpV P n w0 h0 ⟨ds,.binOp .eql t x (.const (.slice none 0 0)) yt,ty,ps,af,gd⟩ e L h (vB (∃m cap,v=.slice none m cap)):=by
 obtain⟨a,m,cap,rfl⟩:=hv;intro D w C S;have h1:=Lib.run_eql_slice_nil (P:=P) w t E a m cap 0 0 ht;have h2:(vB (∃m' cap',Value.slice a m cap=.slice none m' cap'))=.bool a.isNone:=by
  cases a<;>simp[vB]
 simp only[execOp,C.eval hx,h2];have h3:(eqGuard .eql t x (.const (.slice none 0 0)) (.slice a m cap) (.slice none 0 0)).run P w=.ok () w:=by simp[eqGuard]
 simp[h3,Act.eval,h1]
theorem zO1{s r:ByteArray}{t yt:TypeId}{x y:Operand}(hx:zM e x=some (.string s))(hy:zM e y=some (.string r)):OpV P n w0 h0 ⟨ds,.binOp .eql t x y yt,ty,ps,af,gd⟩ e L h (vB (s=r)):=by
 intro a w C S;have h1:(s.toList==r.toList)=@decide (s=r) (Classical.propDecidable _):=by
  rw[yie];simp only[beq_iff_eq,zhi];exact⟨λhh=>by
   have h2:s.data.toList=r.data.toList:=by
    rwa [ByteArray.toList_eq,ByteArray.toList_eq] at hh
   cases s;cases r
   simp only[ByteArray.mk.injEq];exact Array.toList_inj.1 h2,λhh=>by rw[hh]⟩
 simp only[execOp,C.eval hx,C.eval hy,binOp,vB];simp[eqGuard,Op.stringOp,h1]
end ops
section own
variable {P:Program}{n:Nat}{w0:World}{h0:Mem}{e:List (Nat×Value)}{L:List Res}{h:Mem}{Q:Exit->Act->World->Prop}
def Res.us(E:Nat)(k:IntKind)(v:Value)(xs:List Nat):Res:=.gs E 1 v xs.length (Bk.us k xs)
theorem zT1{ops:Array Oper}{l:List Oper}{A B:List Res}{E k m:Nat}{v:Value}{cs:List Value}(k':∀h',MLe h h'->Sl h' k v m cs->GL P n w0 h0 ops Q l e (A++B) h'):GL P n w0 h0 ops Q l e (A++.gs E k v m cs::B) h:=by
 intro a w M S;have C:=S.ok (.gs E k v m cs) zo1;have H:=C;obtain⟨J,O⟩:=C
 rcases O with⟨rfl,rfl⟩|⟨g,cap,cur,rfl,hb,hg,hn,hm,hcs,ht⟩
 · have D:cs=[]:=zof (by simpa using J)
   subst D;exact k' h (MLe.refl h) (Sl.nil h k) a w M S.drop
 · obtain⟨U,G⟩:=S.freeze (b:=g) (o:=.cells cur E (0,0)) I hg
   refine k' _ G ?_ a w M U;refine⟨_,cap,I,hn,hm,J,λi hi=>⟨g,0,I,?_⟩⟩;unfold cell;simp only[if_true,zvi];rw[<-ht,zmu,zau zos];simp
theorem zB8{ops:Array Oper}{l:List Oper}{A B:List Res}{E:Nat}{k:IntKind}{v:Value}{xs:List Nat}(hlt:∀x∈xs,x<ub k)(k':∀h',MLe h h'->Us k h' v xs->GL P n w0 h0 ops Q l e (A++B) h'):
 GL P n w0 h0 ops Q l e (A++.us E k v xs::B) h:=zT1 λh' hh hs=>k' h' hh ⟨hs,hlt⟩
theorem zBM{A B:List Res}{E k m:Nat}{v:Value}{cs:List Value}{w:World}(S:St w0 h0 (A++.gs E k v m cs::B) h w):Sl (mem w) k v m cs:=by
 have D:=S.ok (.gs E k v m cs) zo1;obtain⟨G,H⟩:=D
 rcases H with⟨rfl,rfl⟩|⟨g,cap,cur,rfl,hb,hg,hn,hm,hcs,ht⟩
 · have C:cs=[]:=zof (by simpa using G)
   subst C;exact Sl.nil _ k
 · refine⟨_,cap,I,hn,hm,G,λi hi=>⟨g,0,I,?_⟩⟩
   unfold cell mem;rw[hg];simp only[zvi];rw[<-ht,zmu,zau zos];simp
section vals
variable {A B:List Res}{E:Nat}{ds:Option Tmp}{ty:TypeId}{ps:String}{af:Array Edge}{gd:Option (Nat×Bool)}
theorem zOZ{k m:Nat}{cs:List Value}{v:Value}{t E':TypeId}{x:Operand}(ht:P.underlying t=some (.slice E'))(hx:zM e x=some v):
 OpV P n w0 h0 ⟨ds,.call {callee:=.builtin .len,args:=#[x],argTypes:=#[t]},ty,ps,af,gd⟩ e (A++.gs E k v m cs::B) h (vI (m:Int)):=
 λa w Ev S=>mK (L:=A++.gs E k v m cs::B) (h:=h) ht hx (zBM S).one a w Ev S
theorem zJT{k m:Nat}{cs:List Value}{v:Value}{t E':TypeId}{x y:Operand}{q:Int}(i:Nat)(ht:P.underlying t=some (.slice E'))(hsz:∀w,(Go.sizeOf E').run P w=.ok k w)(hx:zM e x=some v)(hy:zM e y=some (vI q))
    (hq:q=(i:Int))(hi:i<m)(hk:0<k):OpV P n w0 h0 ⟨ds,.indexAddr t x y,ty,ps,af,gd⟩ e (A++.gs E k v m cs::B) h (zI k v i):=by
 intro a w D S;have C:St w (mem w) [] (mem w) w:=St.begin (MLe.refl _);exact iU (n:=n) (w0:=w) (h0:=mem w) (L:=[]) (h:=mem w) i ht hsz hx hy (zBM S) hq hi hk a w D C
theorem zLZ{m:Nat}{cs:List Value}{v u:Value}{t:TypeId}{x:Operand}{i:Nat}(ha:∀w,(isAgg t).run P w=.ok false w)(hx:zM e x=some (zI 1 v i))(hi:cs[i]?=some u):
 OpV P n w0 h0 ⟨ds,.load t x,ty,ps,af,gd⟩ e (A++.gs E 1 v m cs::B) h u:=by
 intro a w D S;have C:St w (mem w) [] (mem w) w:=St.begin (MLe.refl _);exact zFR (n:=n) (w0:=w) (h0:=mem w) (L:=[]) (h:=mem w) ha hx (zBM S) hi a w D C
theorem yX{k:IntKind}{xs:List Nat}{v:Value}{t E':TypeId}{x y:Operand}{q:Int}(i:Nat)(ht:P.underlying t=some (.slice E'))(hsz:∀w,(Go.sizeOf E').run P w=.ok 1 w)(hx:zM e x=some v)(hy:zM e y=some (vI q))
    (hq:q=(i:Int))(hi:i<xs.length):OpV P n w0 h0 ⟨ds,.indexAddr t x y,ty,ps,af,gd⟩ e (A++.us E k v xs::B) h (zI 1 v i):=zJT i ht hsz hx hy hq hi zos
theorem fC{k:IntKind}{xs:List Nat}{v:Value}{t:TypeId}{x:Operand}{i:Nat}(ha:∀w,(isAgg t).run P w=.ok false w)(hx:zM e x=some (zI 1 v i))(hi:i<xs.length):
 OpV P n w0 h0 ⟨ds,.load t x,ty,ps,af,gd⟩ e (A++.us E k v xs::B) h (vU k (xs.getD i 0)):=zLZ ha hx (zN1 hi)
theorem tK{k:IntKind}{xs:List Nat}{v:Value}{t E':TypeId}{x:Operand}(ht:P.underlying t=some (.slice E'))(hx:zM e x=some v):
 OpV P n w0 h0 ⟨ds,.call {callee:=.builtin .len,args:=#[x],argTypes:=#[t]},ty,ps,af,gd⟩ e (A++.us E k v xs::B) h (vI (xs.length:Int)):=zOZ ht hx
end vals
theorem yDQ{k:IntKind}{xs:List Nat}{i y:Nat}:(Bk.us k xs).set i (vU k y)=Bk.us k (xs.set i y):=by simp[Bk.us,List.map_set]
theorem zHB{A B:List Res}{E m:Nat}{v u:Value}{cs:List Value}{t:TypeId}{x y:Operand}{i:Nat}{ds:Option Tmp}{ty:TypeId}{ps:String}{af:Array Edge}{gd:Option (Nat×Bool)}(hsz:∀w,(Go.sizeOf t).run P w=.ok 1 w)
    (hx:zM e x=some (zI 1 v i))(hy:zM e y=some u)(hu:u.oneCell'=true)(hi:i<cs.length):Upd P n w0 h0 ⟨ds,.store t x y,ty,ps,af,gd⟩ e A (.gs E 1 v m cs) B h (.gs E 1 v m (cs.set i u)):=by
 intro a w O S;have D:=S.ok (.gs E 1 v m cs) zo1;have C:=D;obtain⟨J,U⟩:=D
 rcases U with⟨rfl,rfl⟩|⟨g,cap,cur,rfl,hb,hg,hn,hm,hcs,ht⟩
 · simp at J;subst J;simp at hi
 · have Z:zI 1 (.slice (some ⟨g,0,none⟩) m cap) i=.pointer (some ⟨g,i,none⟩):=by simp[zI,kA]
   rw[Z] at hx;obtain⟨h1,h2⟩:=World.ownsRow.stored C i u;refine⟨_,?_,h2,h1⟩;have H:i<m*1:=by omega
   have M:=World.ownsRow.cellAt C i H;rw[zoc hi] at M;have hf:=World.ownsRow.frozenAt C i;have G:u.cells=#[u]:=by cases u<;>simp[Value.oneCell'] at hu<;>rfl
   cases u<;>simp[Value.oneCell'] at hu<;>
    simp[execOp,O.eval hx,O.eval hy,Instr.storeAt,Instr.sureAddr,storeVar,hsz,Value.cells,storeCells,Go.store,Sem.run,M,hf,Addr.add]
theorem yDR{E:Nat}{k:IntKind}{v:Value}{xs:List Nat}{i z:Nat}:Res.gs E 1 v xs.length ((Bk.us k xs).set i (vU k z))=Res.us E k v (xs.set i z):=by
 rw[yDQ];simp[Res.us]
theorem nM{A B:List Res}{E:Nat}{k:IntKind}{v:Value}{xs:List Nat}{t:TypeId}{x y:Operand}{i z:Nat}{ds:Option Tmp}{ty:TypeId}{ps:String}{af:Array Edge}{gd:Option (Nat×Bool)}(hsz:∀w,(Go.sizeOf t).run P w=.ok 1 w)
    (hx:zM e x=some (zI 1 v i))(hy:zM e y=some (vU k z))(hi:i<xs.length):Upd P n w0 h0 ⟨ds,.store t x y,ty,ps,af,gd⟩ e A (.us E k v xs) B h (.us E k v (xs.set i z)):=by
 have:=zHB (P:=P) (n:=n) (w0:=w0) (h0:=h0) (A:=A) (B:=B) (h:=h) (E:=E) (m:=xs.length) (cs:=Bk.us k xs) (ds:=ds) (ty:=ty) (ps:=ps) (af:=af) (gd:=gd) hsz hx hy I (by simpa[Bk.us] using hi);rw[yDR] at this;exact this
theorem zB7{ops:Array Oper}{rest:List Oper}{A B:List Res}{E:Nat}{k:IntKind}{v:Value}{xs:List Nat}{t:TypeId}{x y:Operand}{i z:Nat}{ty:TypeId}{ps:String}{af:Array Edge}(hsz:∀w,(Go.sizeOf t).run P w=.ok 1 w)
    (hx:zM e x=some (zI 1 v i))(hy:zM e y=some (vU k z))(hi:i<xs.length)(k':GL P n w0 h0 ops Q rest e (A++.us E k v (xs.set i z)::B) h):
    GL P n w0 h0 ops Q (⟨none,.store t x y,ty,ps,af,none⟩::rest) e (A++.us E k v xs::B) h:=xY (nM hsz hx hy hi) rfl rfl rfl k'
theorem St.new{w0 w w':World}{h0 h:Mem}{L:List Res}{r:Res}(S:St w0 h0 L h w)(hgr:w.grownBy w' none)(hok:r.ok w0.heap.size w')(hfp:∀b,r.fp=some b->w.heap.size<=b):St w0 h0 (r::L) h w':=by
 have J:w0.heap.size<=w.heap.size:=S.below.size;have G:∀r∈L,∀b,r.fp=some b->b<w.heap.size:=λr C b hb=>Res.fp_lt (S.ok r C) hb;have D:∀b,b<w.heap.size->w'.heap[b]?=w.heap[b]?:=λb hb=>hgr.block b hb zo1;refine⟨S.below.trans ⟨hgr.os,hgr.tape,hgr.output,hgr.size,λk M=>D k zos⟩,S.le,?_,S.fresh,?_,?_,?_⟩
 · intro b o hb
   have h1:=S.sub b o hb;unfold mem at *;exact(D b (zne.1 h1).1).trans h1
 · intro r C
   rcases zfi.1 C with rfl|C
   · exact hok
   · exact Res.kept (S.ok r C) λb hb=>D b (G r C b hb)
 · intro r C b hb
   rcases zfi.1 C with rfl|C
   · have H:=hfp b hb
     refine⟨?_,by omega⟩
     cases hh:h b with
     |none=>rfl
     |some o'=>
      have:=S.sub _ o' hh;unfold mem at this;have:=(zne.1 this).1;omega
   · exact S.own r C b hb
 · refine z8u.2 ⟨λr C b hb H=>?_,S.apart⟩
   have:=G r C b H;have:=hfp b hb;omega
def nL(P:Program)(n:Nat)(w0:World)(h0:Mem)(o:Oper)(e:List (Nat×Value))(L:List Res)(h:Mem)(G:Value->Res->Prop):Prop:=
 ∀a w,Env n e a->St w0 h0 L h w->∃v w' r,(execOp a.eval o).run P w=.ok (.value v) w'/\w.grownBy w' none/\r.ok w0.heap.size w'/\(∀b,r.fp=some b->w.heap.size<=b)/\G v r
theorem zH{ops:Array Oper}{rest:List Oper}{o:Oper}{d:Nat}{G:Value->Res->Prop}(hv:nL P n w0 h0 o e L h G)(hg:o.guard=none)(hd:o.dst=some d)(hn:Nat.ble (d+1) n=true)
    (k:∀v r,G v r->GL P n w0 h0 ops Q rest ((d,v)::e) (r::L) h):GL P n w0 h0 ops Q (o::rest) e L h:=by
 intro a w J S;refine wpList_plain hg λK O=>?_;obtain⟨v,Z,r,M,D,C,H,U⟩:=hv a w J S;unfold Oper.wp;rw[M,Oper.upon_value,hd];exact O _ _ (k v r U _ _ (J.put (zce hn)) (S.new D C H))
theorem zWY{t E:TypeId}{i:TypeInfo}{z:Value}{x y:Operand}{ds:Option Tmp}{ty:TypeId}{ps:String}{af:Array Edge}{gd:Option (Nat×Bool)}{q q':Int}(m:Nat)(ht:P.underlying t=some (.slice E))(hi:P.info? E=some i)(hz:i.zero=some z)(hone:z.cells=#[z])(hsize:i.size=1)
    (hx:zM e x=some (vI q))(hy:zM e y=some (vI q'))(hq:q=(m:Int))(hq':q'=(m:Int))(hb:i.bytes*m<=281474976710656)(hm:m<9223372036854775808):
    nL P n w0 h0 ⟨ds,.makeSlice t x y,ty,ps,af,gd⟩ e L h (λv r=>r=.gs E 1 v m (List.replicate m z)):=by
 subst hq;subst hq';intro a w H S;obtain⟨J,M,D,G⟩:=run_make_full (P:=P) w w0.heap.size t E i z 1 ht hi hz hsize .i64 .i64 m hb (by unfold maxLen;omega) S.below.size;have C:(madeCells z.cells (m*1)).toList=List.replicate m z:=by rw[hone,z9u];exact toList_madeCells_one z m
 rw[C] at D;refine⟨_,J,.gs E 1 (.slice (some ⟨w.heap.size,0,none⟩) m m) m (List.replicate m z),?_,G,D,λb hb=>?_,I⟩
 · simp only[execOp,H.eval hx,H.eval hy,vI]
   simp[M]
 · simp only[Res.fp,Value.ownBlock,Option.some.injEq] at hb
   omega
theorem iZ{t E:TypeId}{i:TypeInfo}{kd:IntKind}{x y:Operand}{ds:Option Tmp}{ty:TypeId}{ps:String}{af:Array Edge}{gd:Option (Nat×Bool)}{q q':Int}{by':Nat}(m:Nat)(ht:P.underlying t=some (.slice E))(hi:P.info? E=some i)(hz:i.zero=some (.int kd 0))(hsize:i.size=1)
    (hby:i.bytes=by')(hx:zM e x=some (vI q))(hy:zM e y=some (vI q'))(hq:q=(m:Int))(hq':q'=(m:Int))(hb:by'*m<=281474976710656)(hm:m<9223372036854775808):
    nL P n w0 h0 ⟨ds,.makeSlice t x y,ty,ps,af,gd⟩ e L h (λv r=>r=.us E kd v (List.replicate m 0)):=by
 subst hby;intro a w H S;obtain⟨v,C,r,h1,h2,h3,G,D⟩:=zWY (n:=n) (L:=L) (h:=h) (ds:=ds) (ty:=ty) (ps:=ps) (af:=af) (gd:=gd) m ht hi hz I hsize hx hy hq hq' hb hm a w H S;refine⟨v,C,r,h1,h2,h3,G,?_⟩;rw[D];simp[Res.us,Bk.us,vU]
theorem jJ{ops:Array Oper}{rest:List Oper}{t E:TypeId}{i:TypeInfo}{kd:IntKind}{x y:Operand}{d:Nat}{ty:TypeId}{ps:String}{af:Array Edge}{q q':Int}{by':Nat}(m:Nat)(ht:P.underlying t=some (.slice E))(hi:P.info? E=some i)(hz:i.zero=some (.int kd 0))(hsize:i.size=1)
    (hby:i.bytes=by')(hx:zM e x=some (vI q))(hy:zM e y=some (vI q'))(hq:q=(m:Int))(hq':q'=(m:Int))(hb:by'*m<=281474976710656)(hm:m<9223372036854775808)(hn:Nat.ble (d+1) n=true)
    (k:∀v,GL P n w0 h0 ops Q rest ((d,v)::e) (.us E kd v (List.replicate m 0)::L) h):GL P n w0 h0 ops Q (⟨some d,.makeSlice t x y,ty,ps,af,none⟩::rest) e L h:=
 zH (iZ m ht hi hz hsize hby hx hy hq hq' hb hm) rfl rfl hn λv r hr=>hr▸k v
theorem wS{ops:Array Oper}{rest:List Oper}{B:List Res}{E:Nat}{k:IntKind}{v:Value}{xs:List Nat}{t:TypeId}{x y:Operand}{i z:Nat}{ty:TypeId}{ps:String}{af:Array Edge}(hsz:∀w,(Go.sizeOf t).run P w=.ok 1 w)
    (hx:zM e x=some (zI 1 v i))(hy:zM e y=some (vU k z))(hi:i<xs.length)(k':GL P n w0 h0 ops Q rest e (.us E k v (xs.set i z)::B) h):
    GL P n w0 h0 ops Q (⟨none,.store t x y,ty,ps,af,none⟩::rest) e (.us E k v xs::B) h:=zB7 (A:=[]) hsz hx hy hi k'
theorem yN{ops:Array Oper}{l:List Oper}{B:List Res}{E:Nat}{k:IntKind}{v:Value}{xs:List Nat}(hlt:∀x∈xs,x<ub k)(k':∀h',MLe h h'->Us k h' v xs->GL P n w0 h0 ops Q l e (B) h'):
 GL P n w0 h0 ops Q l e (.us E k v xs::B) h:=zB8 (A:=[]) hlt k'
theorem rU{ops:Array Oper}{rest:List Oper}{r0:Res}{B:List Res}{E:Nat}{k:IntKind}{v:Value}{xs:List Nat}{t:TypeId}{x y:Operand}{i z:Nat}{ty:TypeId}{ps:String}{af:Array Edge}(hsz:∀w,(Go.sizeOf t).run P w=.ok 1 w)
    (hx:zM e x=some (zI 1 v i))(hy:zM e y=some (vU k z))(hi:i<xs.length)(k':GL P n w0 h0 ops Q rest e (r0::.us E k v (xs.set i z)::B) h):
    GL P n w0 h0 ops Q (⟨none,.store t x y,ty,ps,af,none⟩::rest) e (r0::.us E k v xs::B) h:=zB7 (A:=[r0]) hsz hx hy hi k'
theorem zHO{ops:Array Oper}{l:List Oper}{r0:Res}{B:List Res}{E:Nat}{k:IntKind}{v:Value}{xs:List Nat}(hlt:∀x∈xs,x<ub k)(k':∀h',MLe h h'->Us k h' v xs->GL P n w0 h0 ops Q l e (r0::B) h'):
 GL P n w0 h0 ops Q l e (r0::.us E k v xs::B) h:=zB8 (A:=[r0]) hlt k'
end own
section
variable {P:Program}{ops:Array Oper}
def qU(P:Program)(ops:Array Oper)(o:Oper)(a:Act)(w:World)(K:Value->World->Prop):Prop:=
 if Region.wanted o (yielded ops a.tmps) then
  match (execOp a.eval o).run P w with
  | .ok (.value v) w'=>K v w'
  | .ok .skip w'=>K undef w'
  | .ok (.enter f args) w'=>Calls P f args w' λe w''=>∃v,e=.returned v/\K v w''
  |_=>False
 else K undef w
theorem qU.mono{o:Oper}{a:Act}{w:World}{K K':Value->World->Prop}(h:qU P ops o a w K)(hk:∀v w,K v w->K' v w):qU P ops o a w K':=by
 unfold qU at *
 split
 · rename_i hw
   rw[zau hw] at h;generalize (execOp a.eval o).run P w=r at *
   cases r with
   |ok x w'=>
    cases x<;>simp only at h ⊢
    case enter f args=>exact h.mono λe C ⟨v,G,D⟩=>⟨v,G,hk _ _ D⟩
    all_goals exact hk _ _ h
   |halt x w'=>exact h
 · rename_i hw
   rw[zae hw] at h;exact hk _ _ h
theorem qU.wpOp{o:Oper}{i:Nat}{a:Act}{w:World}{K:Value->World->Prop}{K':Act->World->Prop}{Q:Exit->Act->World->Prop}(hi:ops[i]?=some o)(h:qU P ops o a w K)
    (hk:∀v w,K v w->K' (a.put o.dst v) w):Go.wpOp P ops Q i K' a w:=by
 unfold Go.wpOp;simp only[hi];unfold qU at h
 split
 · rename_i hw
   rw[zau hw] at h;refine .inl ?_;unfold Oper.wp;generalize (execOp a.eval o).run P w=r at *
   cases r with
   |ok x w'=>
    cases x<;>simp only at h<;>simp only[Oper.upon]
    case enter f args=>exact h.mono λe C ⟨v,G,D⟩=>by subst G;exact hk _ _ D
    all_goals exact hk _ _ h
   |halt x w'=>exact h.elim
 · rename_i hw
   rw[zae hw] at h;exact hk _ _ h
theorem qU.of_put{o:Oper}{a:Act}{w:World}{K:Value->World->Prop}{d:Option Tmp}{v:Value}(hs:∀cs b,o.op≠.select cs b)(hd:∀t,d=some t->t ∉ o.looksAt ops)(h:qU P ops o (a.put d v) w K):qU P ops o a w K:=by
 unfold qU at *;rw[execOp_put (ops:=ops) o hs a d v hd,wanted_put (ops:=ops) o a d v hd] at h;exact h
def RA(P:Program)(ops:Array Oper)(C:Array Bool->World->Prop)(Q:Act->World->Prop):Nat->Array Bool->Act->World->Prop
  |0,listed,a,w=>Region.ready .any ops listed=[]/\Q a w
  |fuel+1,listed,a,w=>
   (Region.ready .any ops listed=[]->Q a w)/\
   ∀i∈Region.ready .any ops listed,∀o,ops[i]?=some o->qU P ops o a w λv w'=>C (listed.setIfInBounds i true) w'/\RA P ops C Q fuel (listed.setIfInBounds i true) (a.put o.dst v) w'
theorem RA.mono{C C':Array Bool->World->Prop}{Q:Act->World->Prop}(hC:∀l w,C l w->C' l w):∀{fuel:Nat} {listed:Array Bool} {a:Act} {w:World},RA P ops C Q fuel listed a w->RA P ops C' Q fuel listed a w
  |0,_,_,_,h=>h
  |_+1,_,_,_,h=>⟨h.1,λi hi o ho=>(h.2 i hi o ho).mono λ_ _ hk=>⟨hC _ _ hk.1,RA.mono hC hk.2⟩⟩
theorem RA.wpAny{C:Array Bool->World->Prop}{Q:Act->World->Prop}{Q':Exit->Act->World->Prop}(hQ:∀a w,Q a w->Q' .normal a w):∀{fuel:Nat} {listed:Array Bool} {a:Act} {w:World},RA P ops C Q fuel listed a w->Go.wpAny P .any ops Q' fuel listed a w
  |0,_,_,_,h=>⟨h.1,hQ _ _ h.2⟩
  |fuel+1,listed,a,w,h=>⟨λh0=>hQ _ _ (h.1 h0),λi hi=>by
   obtain⟨_,o,ho,_⟩:=mem_ready.1 hi;exact(h.2 i hi o ho).wpOp ho λv w' hk=>RA.wpAny hQ hk.2⟩
def nT(P:Program)(ops:Array Oper)(o:Oper)(a:Act)(w:World)(v:Value):Prop:=
 (Region.wanted o (yielded ops a.tmps)=true/\(execOp a.eval o).run P w=.ok (.value v) w)\/(Region.wanted o (yielded ops a.tmps)=false/\v=undef)
theorem nT.put{o:Oper}{a:Act}{w:World}{v u:Value}{d:Option Tmp}(hs:∀cs b,o.op≠.select cs b)(hd:∀t,d=some t->t ∉ o.looksAt ops)(h:nT P ops o a w v):nT P ops o (a.put d u) w v:=by
 unfold nT at *;rw[execOp_put (ops:=ops) o hs a d u hd,wanted_put (ops:=ops) o a d u hd];exact h
theorem nT.runs{o:Oper}{a:Act}{w:World}{v:Value}{K:Value->World->Prop}(h:nT P ops o a w v)(hk:K v w):qU P ops o a w K:=by
 unfold qU
 rcases h with⟨h1,h2⟩|⟨h1,h2⟩
 · rw[zau h1,h2];exact hk
 · rw[zae (by simp[h1]),<-h2];exact hk
def Cls(m:Nat)(D:World->Prop)(listed:Array Bool)(w:World):Prop:=D w\/∃k,m<=k/\listed.getD k false=true
def zAY(ops:Array Oper)(listed:Array Bool):Prop:=∀k o,listed.getD k false=true->ops[k]?=some o->∀e∈o.after,Region.binds .any e=true->listed.getD e.on false=true
theorem zAY.set{listed:Array Bool}(h:zAY ops listed){j:Nat}(hj:j∈Region.ready .any ops listed):zAY ops (listed.setIfInBounds j true):=by
 intro k o H G e J hb;obtain⟨_,o',D,C⟩:=mem_ready.1 hj
 by_cases hkj:k=j
 · subst hkj
   rw[D] at G;cases G
   exact getD_set_true (C e J hb)
 · rw[getD_set_ne false (Ne.symm hkj)] at H
   exact getD_set_true (h k o H G e J hb)
def zCN(ops:Array Oper):Nat->Nat->Nat->Bool
  |0,k,i=>k==i
  |f+1,k,i=>k==i||(ops.getD k default).after.any λe=>Region.binds .any e&&zCN ops f e.on i
def zDQ(ops:Array Oper)(k i:Nat):Bool:=
 (ops.getD k default).after.any λe=>Region.binds .any e&&zCN ops 5 e.on i
theorem zDP{listed:Array Bool}(hcl:zAY ops listed)(hsz:listed.size=ops.size){i:Nat}:∀(f k:Nat),listed.getD k false=true->zCN ops f k i=true->listed.getD i false=true
  |0,k,hk,hw=>by
   have:k=i:=by simpa[zCN] using hw
   rw[<-this];exact hk
  |f+1,k,hk,hw=>by
   simp only[zCN,zyi,beq_iff_eq,yqi,zbu] at hw
   rcases hw with hw|⟨e,he,hb,hw⟩
   · rw[<-hw];exact hk
   · have C:k<ops.size:=by
      rcases zve k listed.size with h'|h'
      · omega
      · simp[yci h'] at hk
     have D:ops[k]?=some (ops.getD k default):=by simp[zji,C]
     exact zDP hcl hsz f e.on (hcl _ _ hk D e he hb) hw
theorem zNW{listed:Array Bool}(hcl:zAY ops listed)(hsz:listed.size=ops.size){k i:Nat}(hk:k∈Region.ready .any ops listed)(hw:zDQ ops k i=true):listed.getD i false=true:=by
 obtain⟨h1,o,G,C⟩:=mem_ready.1 hk;have D:ops.getD k default=o:=by simp[zji,G]
 unfold zDQ at hw;rw[D] at hw;simp only[yqi,zbu] at hw;obtain⟨e,H,hb,hw⟩:=hw;exact zDP hcl hsz 5 e.on (C e H hb) hw
theorem RA.first{m:Nat}{D:World->Prop}{Q:Act->World->Prop}{i:Nat}{oi:Oper}{v:Value}(hi:ops[i]?=some oi)(hsel:Region.noSelect ops=true)(him:i<m)
    (hlast:∀k,m<=k->k<ops.size->zDQ ops k i=true):
    ∀(fuel:Nat) (listed:Array Bool) (a:Act) (w:World),zAY ops listed->listed.size=ops.size->D w->(∀k,m<=k->listed.getD k false=false)->
     (∀j oj,ops[j]?=some oj->j≠i->listed.getD j true=false->(∀e∈oj.after,Region.binds .any e=true->e.on≠i)->oi.apart ops oj=true)->
     i∈Region.ready .any ops listed->(∀w',D w'->nT P ops oi a w' v)->
     RA P ops (Cls m D) Q fuel (listed.setIfInBounds i true) (a.put oi.dst v) w->RA P ops (Cls m D) Q (fuel+1) listed a w:=by
 intro fuel
 induction fuel with
 |zero=>
  intro listed a w _ _ hD _ _ hr hy H;refine⟨λh=>(by rw[h] at hr;cases hr),λj hj o ho=>?_⟩
  by_cases hji:j=i
  · subst hji
    rw[hi] at ho;cases ho
    exact(hy w hD).runs ⟨.inl hD,H⟩
  · have:=ready_mono hj hji
    rw[H.1] at this
    cases this
 |succ fuel ih=>
  intro listed a w hcl hsz hD hnl hfree hr hy H;refine⟨λh=>(by rw[h] at hr;cases hr),λj hj oj ho=>?_⟩
  by_cases hji:j=i
  · subst hji
    rw[hi] at ho;cases ho
    exact(hy w hD).runs ⟨.inl hD,H⟩
  · have h1:=H.2 j (ready_mono hj hji) oj ho
    obtain⟨hjun,oj',hoj',hall⟩:=mem_ready.1 hj;rw[ho] at hoj';cases hoj'
    have hiun:=(mem_ready.1 hr).1;have hnot:∀e∈oj.after,Region.binds .any e=true->e.on≠i:=λe he hb heq=>by
     have h1:=hall e he hb;rw[heq] at h1
     rcases zve i listed.size with h'|h'
     · simp[h'] at h1 hiun;rw[hiun] at h1;cases h1
     · simp[yci h'] at h1
    have hjm:¬m<=j:=λhm=>by
     have h2:=zNW hcl hsz hj (hlast j hm (zne.1 ho).1)
     rcases zve i listed.size with h'|h'
     · simp[h'] at h2 hiun;rw[hiun] at h2;cases h2
     · simp[yci h'] at h2
    have hap:=hfree j oj ho hji hjun hnot;obtain⟨p1,p2,p3⟩:=Oper.apart_spec hap;have hsj:=λcs b=>Region.noSelect_spec hsel j oj cs b ho;have hsi:=λcs b=>Region.noSelect_spec hsel i oi cs b hi;refine(qU.of_put hsj p1 h1).mono λu w' hk=>?_;have hnl':∀k,m<=k->(listed.setIfInBounds j true).getD k false=false:=λk hk'=>by
     rw[getD_set_ne false zos];exact hnl k hk'
    have hD':D w':=by
     rcases hk.1 with h2|⟨k,hkm,hkl⟩
     · exact h2
     · rw[getD_set_ne false zos,getD_set_ne false zos,hnl k hkm] at hkl
       cases hkl
    have hfree':∀k ok,ops[k]?=some ok->k≠i->(listed.setIfInBounds j true).getD k true=false->
     (∀e∈ok.after,Region.binds .any e=true->e.on≠i)->oi.apart ops ok=true:=λk ok hk hki hun hno=>by
     refine hfree k ok hk hki ?_ hno
     by_cases hjk:j=k
     · subst hjk;exact hjun
     · rw[getD_set_ne true hjk] at hun;exact hun
    refine⟨.inl hD',ih _ _ w' (hcl.set hj) (by simpa using hsz) hD' hnl' hfree' (ready_mono hr (Ne.symm hji)) (λw'' hw=>(hy w'' hw).put hsi p3) ?_⟩;rw[yai _ _ hji,<-Act.put_comm a v u p2];exact hk.2
theorem RA.pure{m:Nat}{D:World->Prop}{Q:Act->World->Prop}{i:Nat}{oi:Oper}{v:Value}(hi:ops[i]?=some oi)(hsel:Region.noSelect ops=true)(him:i<m):
 ∀(fuel:Nat) (listed:Array Bool) (a:Act) (w:World),Cls m D listed w->
  (∀j oj,ops[j]?=some oj->j≠i->listed.getD j true=false->(∀e∈oj.after,Region.binds .any e=true->e.on≠i)->oi.apart ops oj=true)->
  i∈Region.ready .any ops listed->(∀w',nT P ops oi a w' v)->
  RA P ops (Cls m D) Q fuel (listed.setIfInBounds i true) (a.put oi.dst v) w->RA P ops (Cls m D) Q (fuel+1) listed a w:=by
 intro fuel;have hset:∀(listed:Array Bool) (j:Nat) (w:World),Cls m D listed w->Cls m D (listed.setIfInBounds j true) w:=λlisted j w hc=>hc.imp id λ⟨k,hk,hl⟩=>⟨k,hk,getD_set_true hl⟩
 induction fuel with
 |zero=>
  intro listed a w hD _ hr hy H;refine⟨λh=>(by rw[h] at hr;cases hr),λj hj o ho=>?_⟩
  by_cases hji:j=i
  · subst hji
    rw[hi] at ho;cases ho
    exact(hy w).runs ⟨hset _ _ _ hD,H⟩
  · have:=ready_mono hj hji
    rw[H.1] at this
    cases this
 |succ fuel ih=>
  intro listed a w hD hfree hr hy H;refine⟨λh=>(by rw[h] at hr;cases hr),λj hj oj ho=>?_⟩
  by_cases hji:j=i
  · subst hji
    rw[hi] at ho;cases ho
    exact(hy w).runs ⟨hset _ _ _ hD,H⟩
  · have h1:=H.2 j (ready_mono hj hji) oj ho
    obtain⟨hjun,oj',hoj',hall⟩:=mem_ready.1 hj;rw[ho] at hoj';cases hoj'
    have hiun:=(mem_ready.1 hr).1;have hnot:∀e∈oj.after,Region.binds .any e=true->e.on≠i:=λe he hb heq=>by
     have h1:=hall e he hb;rw[heq] at h1
     rcases zve i listed.size with h'|h'
     · simp[h'] at h1 hiun;rw[hiun] at h1;cases h1
     · simp[yci h'] at h1
    have hap:=hfree j oj ho hji hjun hnot;obtain⟨p1,p2,p3⟩:=Oper.apart_spec hap;have hsj:=λcs b=>Region.noSelect_spec hsel j oj cs b ho;have hsi:=λcs b=>Region.noSelect_spec hsel i oi cs b hi;refine(qU.of_put hsj p1 h1).mono λu w' hk=>?_;have hD':Cls m D (listed.setIfInBounds j true) w':=by
     refine hk.1.imp id λ⟨k,hkm,hkl⟩=>⟨k,hkm,?_⟩;rw[yai _ _ (Ne.symm hji),getD_set_ne false zos] at hkl;exact hkl
    have hfree':∀k ok,ops[k]?=some ok->k≠i->(listed.setIfInBounds j true).getD k true=false->
     (∀e∈ok.after,Region.binds .any e=true->e.on≠i)->oi.apart ops ok=true:=λk ok hk hki hun hno=>by
     refine hfree k ok hk hki ?_ hno
     by_cases hjk:j=k
     · subst hjk;exact hjun
     · rw[getD_set_ne true hjk] at hun;exact hun
    refine⟨hD',ih _ _ w' hD' hfree' (ready_mono hr (Ne.symm hji)) (λw''=>(hy w'').put hsi p3) ?_⟩;rw[yai _ _ hji,<-Act.put_comm a v u p2];exact hk.2
def rem(ops:Array Oper)(listed:Array Bool):Nat:=((List.range ops.size).filter λi=>!listed.getD i true).length
theorem lZ{listed:Array Bool}{i:Nat}(hi:i<ops.size)(hl:listed.getD i true=false):rem ops (listed.setIfInBounds i true)<rem ops listed:=by
 unfold rem;have C:((List.range ops.size).filter λj=>!(listed.setIfInBounds i true).getD j true)=((List.range ops.size).filter λj=>!listed.getD j true).filter λj=>j != i:=by
  rw[List.filter_filter];refine List.filter_congr λj _=>?_
  by_cases hj:j=i
  · subst hj
    have D:j<listed.size:=by
     rcases zve j listed.size with h'|h'
     · exact h'
     · simp[yci h'] at hl
    simp[D]
  · rw[getD_set_ne true (Ne.symm hj)]
    simp[hj]
 rw[C];refine List.length_filter_lt_length_iff_exists.2 ⟨i,?_,by simp⟩;simp only[yeu,zog,hi,true_and,hl,Bool.not_false]
theorem mD{listed:Array Bool}(h:rem ops listed=0):Region.ready .any ops listed=[]:=by
 rw[List.eq_nil_iff_forall_not_mem];intro i hi;obtain⟨h1,o,C,_⟩:=mem_ready.1 hi;have:=lZ (ops:=ops) (zne.1 C).1 h1;omega
end
inductive Kd where
 |q|a|c|b(j:Nat)|t|p|d(i2 j:Nat)|m(A B:List Nat)|x(Qs A B:List Nat)
def zai:Nat->Nat->List (Nat×Kd)->List (Nat×Kd)
 |_,0,l=>l
 |i,n+1,l=>(i,.q)::zai (i+1) n l
section yDN
variable (P:Program)(n:Nat)(w0:World)(h0:Mem)(ops:Array Oper)(Q:Exit->Act->World->Prop)(R:List Res)
def zOL(e:List (Nat×Value))(d:Option Tmp)(v:Value):List (Nat×Value):=
 match d with
 |some d=>(d,v)::e
 |none=>e
def OpQ(o:Oper)(e:List (Nat×Value))(h:Mem)(v:Value):Prop:=
 (∃d,o.dst=some d/\d<n)/\∀h' L' a w,MLe h h'->(∀r∈R,r∈L')->Env n e a->St w0 h0 L' h' w->nT P ops o a w v
def OpP(o:Oper)(e:List (Nat×Value))(v:Value):Prop:=
 (∃d,o.dst=some d/\d<n)/\∀a w,Env n e a->nT P ops o a w v
def yJT(e:List (Nat×Value))(L X:List Res)(h:Mem)(o:Oper)(W:List (Nat×Value)->List Res->Mem->Prop)(v:Value)(w:World):Prop:=
 (∀d,o.dst=some d->d<n)/\∃L' h',MLe h h'/\((∀r∈R,r∈L)->∀r∈R,r∈L')/\St w0 h0 (L'++X) h' w/\W (zOL e o.dst v) L' h'
def jW(o:Oper)(e:List (Nat×Value))(L:List Res)(h:Mem)(W:List (Nat×Value)->List Res->Mem->Prop):Prop:=
 ∀X a w,Env n e a->St w0 h0 (L++X) h w->qU P ops o a w (yJT n w0 h0 R e L X h o W)
def yH2(o:Oper)(e:List (Nat×Value))(L:List Res)(h:Mem)(W:List (Nat×Value)->List Res->Mem->Prop):Prop:=
 ∀a w,Env n e a->St w0 h0 L h w->qU P ops o a w λv w'=>(∀d,o.dst=some d->d<n)/\∃L' h',St w0 h0 L' h' w'/\W (zOL e o.dst v) L' h'
abbrev Als:=List (Nat×(Nat×TypeId×List Value))
def WM(K:List (Nat×Value)->List Res->Mem->Prop):Nat->List Nat->List Nat->List (Nat×Value)->List Res->Mem->Prop
  |_,[],[],e,L,h=>K e L h
  |0,_,_,_,_,_=>False
  |k+1,i::A,[],e,L,h=>jW P n w0 h0 ops R (ops.getD i default) e L h (WM K k A [])
  |k+1,[],j::B,e,L,h=>jW P n w0 h0 ops R (ops.getD j default) e L h (WM K k [] B)
  |k+1,i::A,j::B,e,L,h=>jW P n w0 h0 ops R (ops.getD i default) e L h (WM K k A (j::B))/\jW P n w0 h0 ops R (ops.getD j default) e L h (WM K k (i::A) B)
def SQ(i:Nat)(e:List (Nat×Value))(L:List Res)(h:Mem)(K:List (Nat×Value)->List Res->Mem->Prop):Prop:=∃v,OpQ P n w0 h0 ops R (ops.getD i default) e h v/\K (zOL e (ops.getD i default).dst v) L h
def WX(Qs:List Nat)(K:List (Nat×Value)->List Res->Mem->Prop):Nat->List Nat->List Nat->List (Nat×Value)->List Res->Mem->Prop
  |_,[],[],e,L,h=>K e L h
  |0,_,_,_,_,_=>False
  |k+1,i::A,[],e,L,h=>bif Qs.contains i then SQ P n w0 h0 ops R i e L h (WX Qs K k A []) else jW P n w0 h0 ops R (ops.getD i default) e L h (WX Qs K k A [])
  |k+1,[],j::B,e,L,h=>bif Qs.contains j then SQ P n w0 h0 ops R j e L h (WX Qs K k [] B) else jW P n w0 h0 ops R (ops.getD j default) e L h (WX Qs K k [] B)
  |k+1,i::A,j::B,e,L,h=>bif Qs.contains i then SQ P n w0 h0 ops R i e L h (WX Qs K k A (j::B)) else bif Qs.contains j then SQ P n w0 h0 ops R j e L h (WX Qs K k (i::A) B)
    else jW P n w0 h0 ops R (ops.getD i default) e L h (WX Qs K k A (j::B))/\jW P n w0 h0 ops R (ops.getD j default) e L h (WX Qs K k (i::A) B)
def zTV:Op->Option Nat
  | .buildSlice _ len _=>some len
  |_=>none
def zK5(o:Op)(b:Nat):Value:=
 match zTV o with
 |none=>.pointer (some ⟨b,0,none⟩)
 |some len=>.slice (some ⟨b,0,none⟩) len len
def W(al:Als):List (Nat×Kd)->List (Nat×Value)->List Res->Mem->Prop
  |[],e,L,h=>GQ n w0 h0 Q .normal e L h
  |(i,.q)::r,e,L,h=>∃v,OpQ P n w0 h0 ops R (ops.getD i default) e h v/\W al r (zOL e (ops.getD i default).dst v) L h
  |(i,.a)::r,e,L,h=>∀d E cs b,al.lookup i=some (d,E,cs)->match zTV (ops.getD i default).op with
   |none=>W al r ((d,.pointer (some ⟨b,0,none⟩))::e) (.blk b (.cells cs.toArray E)::L) h
   |some len=>∀h',MLe h h'->Sl h' 1 (.slice (some ⟨b,0,none⟩) len len) len cs->W al r ((d,.slice (some ⟨b,0,none⟩) len len)::e) L h'
  |(i,.c)::r,e,L,h=>jW P n w0 h0 ops R (ops.getD i default) e L h (W al r)
  |(i,.b j)::r,e,L,h=>jW P n w0 h0 ops R (ops.getD i default) e L h (λe L h=>jW P n w0 h0 ops R (ops.getD j default) e L h (W al r))/\
   jW P n w0 h0 ops R (ops.getD j default) e L h (λe L h=>jW P n w0 h0 ops R (ops.getD i default) e L h (W al r))
  |(i,.t)::r,e,L,h=>yH2 P n w0 h0 ops (ops.getD i default) e L h (W al r)
  |(i,.p)::r,e,L,h=>∃v,OpP P n ops (ops.getD i default) e v/\W al r (zOL e (ops.getD i default).dst v) L h
  |(i,.d i2 j)::r,e,L,h=>
   jW P n w0 h0 ops R (ops.getD i default) e L h (λe L h=>
    jW P n w0 h0 ops R (ops.getD i2 default) e L h (λe L h=>jW P n w0 h0 ops R (ops.getD j default) e L h (W al r))/\
    jW P n w0 h0 ops R (ops.getD j default) e L h (λe L h=>jW P n w0 h0 ops R (ops.getD i2 default) e L h (W al r)))/\
   jW P n w0 h0 ops R (ops.getD j default) e L h (λe L h=>jW P n w0 h0 ops R (ops.getD i default) e L h (λe L h=>jW P n w0 h0 ops R (ops.getD i2 default) e L h (W al r)))
  |(_,.m A B)::r,e,L,h=>WM P n w0 h0 ops R (W al r) (A.length+B.length) A B e L h
  |(_,.x Qs A B)::r,e,L,h=>WX P n w0 h0 ops R Qs (W al r) (A.length+B.length) A B e L h
end yDN
def setAll(b:Array Bool)(l:List Nat):Array Bool:=l.foldl (λb i=>b.setIfInBounds i true) b
def zEF(ops:Array Oper)(m:Nat)(pend:List Nat)(K:Array Bool->Bool):Nat->List Nat->List Nat->Array Bool->Bool
  |_,[],[],base=>K base
  |0,_,_,_=>false
  |k+1,i::A,[],base=>(decide (i<m)&&!pend.contains i)&&(Region.ready .any ops (setAll base pend)==[i])&&zEF ops m pend K k A [] (base.setIfInBounds i true)
  |k+1,[],j::B,base=>(decide (j<m)&&!pend.contains j)&&(Region.ready .any ops (setAll base pend)==[j])&&zEF ops m pend K k [] B (base.setIfInBounds j true)
  |k+1,i::A,j::B,base=>(decide (i<m)&&!pend.contains i)&&(decide (j<m)&&!pend.contains j)&&decide (i≠j)&&(Region.ready .any ops (setAll base pend)==[i,j])&&
    zEF ops m pend K k A (j::B) (base.setIfInBounds i true)&&zEF ops m pend K k (i::A) B (base.setIfInBounds j true)
def zNJ(ops:Array Oper)(m:Nat)(pend:List Nat)(i:Nat)(base:Array Bool):Bool:=decide (i<m)&&(Region.ready .any ops base).contains i&&Region.free .any ops base i&&!pend.contains i&&((List.range ops.size).all λk=>decide (k<m)||zDQ ops k i)
def mY(ops:Array Oper)(m:Nat)(pend:List Nat)(Qs:List Nat)(K:Array Bool->Bool):Nat->List Nat->List Nat->Array Bool->Bool
  |_,[],[],base=>K base
  |0,_,_,_=>false
  |k+1,i::A,[],base=>bif Qs.contains i then zNJ ops m pend i base&&mY ops m pend Qs K k A [] (base.setIfInBounds i true) else(decide (i<m)&&!pend.contains i)&&(Region.ready .any ops (setAll base pend)==[i])&&mY ops m pend Qs K k A [] (base.setIfInBounds i true)
  |k+1,[],j::B,base=>bif Qs.contains j then zNJ ops m pend j base&&mY ops m pend Qs K k [] B (base.setIfInBounds j true) else(decide (j<m)&&!pend.contains j)&&(Region.ready .any ops (setAll base pend)==[j])&&mY ops m pend Qs K k [] B (base.setIfInBounds j true)
  |k+1,i::A,j::B,base=>bif Qs.contains i then zNJ ops m pend i base&&mY ops m pend Qs K k A (j::B) (base.setIfInBounds i true) else bif Qs.contains j then zNJ ops m pend j base&&mY ops m pend Qs K k (i::A) B (base.setIfInBounds j true)
    else(decide (i<m)&&!pend.contains i)&&(decide (j<m)&&!pend.contains j)&&decide (i≠j)&&(Region.ready .any ops (setAll base pend)==[i,j]||Region.ready .any ops (setAll base pend)==[j,i])&&
    mY ops m pend Qs K k A (j::B) (base.setIfInBounds i true)&&mY ops m pend Qs K k (i::A) B (base.setIfInBounds j true)
def chk(ops:Array Oper)(m:Nat):List (Nat×Kd)->Array Bool->List Nat->Bool
  |[],base,pend=>pend.isEmpty&&(Region.ready .any ops base).isEmpty
  |(i,.q)::r,base,pend=>decide (i<m)&&(Region.ready .any ops base).contains i&&Region.free .any ops base i&&!pend.contains i&&
     ((List.range ops.size).all λk=>decide (k<m)||zDQ ops k i)&&chk ops m r (base.setIfInBounds i true) pend
  |(i,.a)::r,base,pend=>pend.contains i&&(Region.ready .any ops (setAll base (pend.filter (· != i)))==[i])&&chk ops m r (base.setIfInBounds i true) (pend.filter (· != i))
  |(i,.c)::r,base,pend=>decide (i<m)&&!pend.contains i&&(Region.ready .any ops (setAll base pend)==[i])&&chk ops m r (base.setIfInBounds i true) pend
  |(i,.b j)::r,base,pend=>decide (i<m)&&decide (j<m)&&!pend.contains i&&!pend.contains j&&decide (i≠j)&&(Region.ready .any ops (setAll base pend)==[i,j])&&
     (Region.ready .any ops (setAll (base.setIfInBounds i true) pend)==[j])&&(Region.ready .any ops (setAll (base.setIfInBounds j true) pend)==[i])&&chk ops m r ((base.setIfInBounds i true).setIfInBounds j true) pend
  |(i,.t)::r,base,pend=>pend.isEmpty&&(r.all λx=>match x.2 with| .t=>true|_=>false)&&decide (m<=i)&&(Region.ready .any ops base==[i])&&chk ops m r (base.setIfInBounds i true) []
  |(i,.p)::r,base,pend=>decide (i<m)&&(Region.ready .any ops base).contains i&&Region.free .any ops base i&&!pend.contains i&&chk ops m r (base.setIfInBounds i true) pend
  |(i,.d i2 j)::r,base,pend=>(decide (i<m)&&decide (i2<m)&&decide (j<m)&&!pend.contains i&&!pend.contains i2&&!pend.contains j)&&(decide (i≠i2)&&decide (i≠j)&&decide (i2≠j))&&
     (Region.ready .any ops (setAll base pend)==[i,j])&&(Region.ready .any ops (setAll (base.setIfInBounds i true) pend)==[i2,j])&&(Region.ready .any ops (setAll (base.setIfInBounds j true) pend)==[i])&&
     (Region.ready .any ops (setAll ((base.setIfInBounds i true).setIfInBounds i2 true) pend)==[j])&&(Region.ready .any ops (setAll ((base.setIfInBounds i true).setIfInBounds j true) pend)==[i2])&&
     chk ops m r (((base.setIfInBounds i true).setIfInBounds i2 true).setIfInBounds j true) pend
  |(_,.m A B)::r,base,pend=>zEF ops m pend (λbase=>chk ops m r base pend) (A.length+B.length) A B base
  |(_,.x Qs A B)::r,base,pend=>mY ops m pend Qs (λbase=>chk ops m r base pend) (A.length+B.length) A B base
def cK(ops:Array Oper)(al:Als):Bool:=
 al.all λx=>((ops.getD x.1 default).after.all λe=>!Region.binds .any e)&&decide (x.1<ops.size)&&(ops.getD x.1 default).guard.isNone&&(ops.getD x.1 default).dst==some x.2.1&&
   (List.range ops.size).all λk=>k==x.1||(ops.getD k default).dst != some x.2.1
section sound
variable {P:Program}{n:Nat}{w0:World}{h0:Mem}{ops:Array Oper}{Q:Exit->Act->World->Prop}{R:List Res}{al:Als}{m:Nat}
theorem St.perm{L L':List Res}{h:Mem}{w:World}(s:St w0 h0 L h w)(hp:L.Perm L'):St w0 h0 L' h w:=
 ⟨s.below,s.le,s.sub,s.fresh,λr hr=>s.ok r (hp.mem_iff.2 hr),λr hr=>s.own r (hp.mem_iff.2 hr),(hp.pairwise_iff λh b hx hy=>h b hy hx).1 s.apart⟩
theorem lY(b:Array Bool)(l:List Nat):(setAll b l).size=b.size:=by
 induction l generalizing b with
 |nil=>rfl
 |cons i l ih=>simp only[setAll,zyu] at ih ⊢;rw[ih];simp
theorem sV(b:Array Bool)(l:List Nat)(k:Nat):(setAll b l)[k]?=if k∈l/\k<b.size then some true else b[k]?:=by
 induction l generalizing b with
 |nil=>simp[setAll]
 |cons i l ih=>
  have:=ih (b.setIfInBounds i true);simp only[setAll,zyu] at this ⊢;rw[this];simp only[yqu,z1e,zfi]
  by_cases hk:k<b.size<;>by_cases hi:i=k<;>by_cases hl:k∈l<;>simp_all
  all_goals omega
def Rel(ops:Array Oper)(base:Array Bool)(X:List Nat)(listed:Array Bool):Prop:=base.size=ops.size/\listed=setAll base X
theorem Rel.unlisted{base listed:Array Bool}{X:List Nat}(hr:Rel ops base X listed)(k:Nat):listed.getD k true=false↔base.getD k true=false/\k ∉ X:=by
 obtain⟨h1,rfl⟩:=hr;simp only[zji,sV]
 by_cases hk:k<base.size
 · by_cases hx:k∈X<;>simp[hx,hk]
 · simp[hk]
theorem Rel.listed{base listed:Array Bool}{X:List Nat}(hr:Rel ops base X listed)(k:Nat):listed.getD k false=true↔(base.getD k false=true\/(k∈X/\k<ops.size)):=by
 obtain⟨h1,rfl⟩:=hr;simp only[zji,sV]
 by_cases hk:k<base.size
 · have C:k<ops.size:=by omega
   by_cases hx:k∈X<;>simp[hx,hk,C]
 · have C:¬k<ops.size:=by omega
   simp[hk,C]
theorem pE{base:Array Bool}{X Y:List Nat}{k:Nat}(hb:base.size=ops.size)(hk:k∈Region.ready .any ops (setAll base X))(hXY:∀x∈X,x∈Y)(hkY:k ∉ Y):k∈Region.ready .any ops (setAll base Y):=by
 rw[mem_ready] at hk ⊢;obtain⟨h1,o,D,h2⟩:=hk;refine⟨((Rel.unlisted ⟨hb,I⟩ k).2 ⟨((Rel.unlisted ⟨hb,I⟩ k).1 h1).1,hkY⟩),o,D,λe G C=>?_⟩;have:=(Rel.listed (ops:=ops) ⟨hb,I⟩ _).1 (h2 e G C);exact(Rel.listed ⟨hb,I⟩ _).2 (this.imp id λh=>⟨hXY _ h.1,h.2⟩)
theorem zLK(b:Array Bool)(i:Nat)(l:List Nat):(setAll b l).setIfInBounds i true=setAll b (i::l):=by
 apply yqe
 intro k;rw[sV,z1e,lY,sV]
 by_cases hi:i=k
 · subst hi
   by_cases hk:i<b.size<;>simp[hk]
 · by_cases hk:k<b.size<;>by_cases hl:k∈l<;>simp[hi,hk,hl,Ne.symm hi]
theorem zOC(b:Array Bool)(i:Nat)(l:List Nat):setAll (b.setIfInBounds i true) l=(setAll b l).setIfInBounds i true:=by
 apply yqe
 intro k;rw[sV,z1e,z1e,lY,sV,yqu]
 by_cases hi:i=k
 · subst hi
   by_cases hk:i<b.size<;>by_cases hl:i∈l<;>simp[hk,hl]
 · by_cases hk:k<b.size<;>by_cases hl:k∈l<;>simp[hi,hk,hl]
def Dw(w0:World)(h0:Mem)(R:List Res)(h:Mem)(w:World):Prop:=∃L' h',MLe h h'/\(∀r∈R,r∈L')/\St w0 h0 L' h' w
theorem Dw.mono{h h':Mem}(hh:MLe h h'){w:World}(hd:Dw w0 h0 R h' w):Dw w0 h0 R h w:=
 let ⟨L',h2,a,b,c⟩:=hd
 ⟨L',h2,hh.trans a,b,c⟩
def jT(P:Program)(n:Nat)(ops:Array Oper)(al:Als):Prop:=∀x∈al,x.2.1<n/\(∀(a:Act) w,(execOp a.eval (ops.getD x.1 default)).run P w=.ok (.value (zK5 (ops.getD x.1 default).op w.heap.size)) (w.alloc (.cells x.2.2.2.toArray x.2.2.1)))/\
 ∀len,zTV (ops.getD x.1 default).op=some len->x.2.2.2.length=len/\len<=maxLen
def oA(al:Als)(X:List (Nat×Nat)):List Res:=X.map λp=>match al.lookup p.1 with|some (_,E,cs)=>.blk p.2 (.cells cs.toArray E)|none=>.blk p.2 default
structure Inv(P:Program)(n:Nat)(w0:World)(h0:Mem)(ops:Array Oper)(R:List Res)(al:Als)(base:Array Bool)(pend:List Nat)(e:List (Nat×Value))(L:List Res)(h:Mem)(X:List (Nat×Nat))(listed:Array Bool)(a:Act)(w:World):Prop where
 env:Env n e a
 st:St w0 h0 (L++oA al X) h w
 sub:∀r∈R,r∈L
 rel:Rel ops base (X.map (·.1)) listed
 xp:∀p∈X,p.1∈pend/\∃y,al.lookup p.1=some y/\a.tmps[y.1]?=some (zK5 (ops.getD p.1 default).op p.2)
 nd:(X.map (·.1)).Nodup
 pe:∀i∈pend,∃y,al.lookup i=some y/\e.lookup y.1=none
 pb:∀i∈pend,base.getD i true=false
 cl:zAY ops listed
theorem zAO{al:Als}{i:Nat}{y:Nat×TypeId×List Value}(h:al.lookup i=some y):(i,y)∈al:=by
 induction al with
 |nil=>simp at h
 |cons x l ih=>
  obtain⟨k,z⟩:=x;simp only[z5i] at h
  by_cases hk:i=k
  · subst hk;simp at h;subst h;simp
  · have:(i==k)=false:=by simpa using hk
    rw[this] at h;exact z6i _ (ih h)
theorem pM(hca:cK ops al=true){i:Nat}{y:Nat×TypeId×List Value}(h:al.lookup i=some y):
 (∀e∈(ops.getD i default).after,Region.binds .any e=false)/\i<ops.size/\(ops.getD i default).guard=none/\(ops.getD i default).dst=some y.1/\True/\
 ∀k,k<ops.size->k≠i->(ops.getD k default).dst≠some y.1:=by
 have D:=zAO h;unfold cK at hca;have:=zob.1 hca _ D;simp only[zbu,zhi,beq_iff_eq,Array.all_eq_true',zob,zog,zyi,bne_iff_ne,zje,Option.isNone_iff_eq_none] at this;obtain⟨⟨⟨⟨h1,h2⟩,h3⟩,J⟩,H⟩:=this;exact⟨h1,h2,h3,J,y3i,λk G C=>(H k G).resolve_left C⟩
theorem mT{i:Nat}(hi:i<ops.size):ops[i]?=some (ops.getD i default):=by
 simp[zji,hi]
theorem bN(hca:cK ops al=true){base listed:Array Bool}{pend:List Nat}{e:List (Nat×Value)}{L:List Res}{h:Mem}{X:List (Nat×Nat)}{a:Act}{w:World}(I:Inv P n w0 h0 ops R al base pend e L h X listed a w){i:Nat}(hi:i∈pend)
    (hX:i ∉ X.map (·.1)):i∈Region.ready .any ops listed:=by
 obtain⟨y,hy,_⟩:=I.pe i hi;obtain⟨D,c2,_⟩:=pM hca hy;exact mem_ready.2 ⟨(I.rel.unlisted i).2 ⟨by
  have:=I.pb i hi;have G:=I.rel.1;simp only[zji] at this ⊢;rw[Array.getElem?_eq_getElem zos] at this ⊢
  simpa using this,hX⟩,_,mT c2,λe C hb=>by rw[D e C] at hb;cases hb⟩
theorem yC2(hal:jT P n ops al)(hca:cK ops al=true){base listed:Array Bool}{pend:List Nat}{e:List (Nat×Value)}{L:List Res}{h:Mem}{X:List (Nat×Nat)}{a:Act}{w:World}(I:Inv P n w0 h0 ops R al base pend e L h X listed a w){j:Nat}(hj:j∈pend)
    (hX:j ∉ X.map (·.1)):qU P ops (ops.getD j default) a w λv w'=>Dw w0 h0 R h w'/\∃b,Inv P n w0 h0 ops R al base pend e L h ((j,b)::X) (listed.setIfInBounds j true) (a.put (ops.getD j default).dst v) w':=by
 obtain⟨y,hy,ab⟩:=I.pe j hj;obtain⟨c1,c2,c3,Z,c5,c6⟩:=pM hca hy;obtain⟨hd,hz,_⟩:=hal _ (zAO hy);have C:=hz a w;simp only at C;unfold qU;rw[zau (by unfold Region.wanted;rw[c3]),C];have M:=I.st.alloc (.cells y.2.2.toArray y.2.1);have G:(.blk w.heap.size (.cells y.2.2.toArray y.2.1)::(L++oA al X)).Perm (L++oA al ((j,w.heap.size)::X)):=by
  have:oA al ((j,w.heap.size)::X)=.blk w.heap.size (.cells y.2.2.toArray y.2.1)::oA al X:=by
   simp only[oA,zxe,hy]
  rw[this];exact yne.symm
 refine⟨⟨_,h,MLe.refl h,λr hr=>?_,M⟩,w.heap.size,?_⟩
 · exact z6i _ (z6u _ (I.sub r hr))
 · have D:∀t,t≠y.1->(a.put (ops.getD j default).dst (zK5 (ops.getD j default).op w.heap.size)).tmps[t]?=a.tmps[t]?:=by
    intro t J;rw[Z];simp only[Act.put];rw[yhu (Ne.symm J)]
   refine⟨⟨I.env.defers|>λhh=>by rw[Z];exact hh,by rw[Z];simp[Act.put,I.env.size],λt v J=>?_⟩,M.perm G,I.sub,⟨I.rel.1,by rw[I.rel.2,zLK];rfl⟩,?_,?_,I.pe,I.pb,I.cl.set (bN hca I hj hX)⟩
   · have:t≠y.1:=λO=>by rw[O,ab] at J;cases J
     rw[D t this];exact I.env.get t v J
   · intro p U
     rcases zfi.1 U with rfl|U
     · refine⟨hj,y,hy,?_⟩
       rw[Z];simp[Act.put,I.env.size,hd]
     · obtain⟨h1,y',H,h2⟩:=I.xp p U
       refine⟨h1,y',H,?_⟩;have aa:p.1≠j:=λO=>hX (O▸yoe U);obtain⟨_,d2,_,d4,_,_⟩:=pM hca H;have:y'.1≠y.1:=λO=>c6 p.1 d2 aa (by rw[d4,O]);rw[D _ this];exact h2
   · simp only[zxe,List.nodup_cons]
     exact⟨hX,I.nd⟩
def j2(P:Program)(n:Nat)(w0:World)(h0:Mem)(ops:Array Oper)(Q:Exit->Act->World->Prop)(R:List Res)(al:Als)(m:Nat)(base:Array Bool)(pend:List Nat)(e:List (Nat×Value))(L:List Res)(h:Mem):Prop:=
 ∀fuel X listed a w,Inv P n w0 h0 ops R al base pend e L h X listed a w->rem ops listed<=fuel->RA P ops (Cls m (Dw w0 h0 R h)) (λa w=>Q .normal a w) fuel listed a w
theorem zEM{listed:Array Bool}{i:Nat}(hi:i<ops.size)(hl:listed.getD i true=false):0<rem ops listed:=by
 have:=lZ hi hl;omega
theorem mE{listed:Array Bool}{i:Nat}(h:i∈Region.ready .any ops listed):i<ops.size/\listed.getD i true=false:=
 let ⟨h1,_,ho,_⟩:=mem_ready.1 h
 ⟨(zne.1 ho).1,h1⟩
theorem Inv.next(hca:cK ops al=true){base listed:Array Bool}{pend:List Nat}{e:List (Nat×Value)}{L L':List Res}{h h':Mem}{X:List (Nat×Nat)}{a:Act}{w w':World}(I:Inv P n w0 h0 ops R al base pend e L h X listed a w){i:Nat}(hi:i<ops.size)(hir:i∈Region.ready .any ops listed)(hip:i ∉ pend)
    (hd:∀d,(ops.getD i default).dst=some d->d<n)(hR:∀r∈R,r∈L')(S:St w0 h0 (L'++oA al X) h' w')(v:Value):
    Inv P n w0 h0 ops R al (base.setIfInBounds i true) pend (zOL e (ops.getD i default).dst v) L' h' X (listed.setIfInBounds i true) (a.put (ops.getD i default).dst v) w':=by
 have G:∀k∈pend,∀y,al.lookup k=some y->(ops.getD i default).dst≠some y.1:=λk C y hy=>(pM hca hy).2.2.2.2.2 i hi (λD=>hip (by rw[D];exact C));refine⟨?_,S,hR,⟨by simpa using I.rel.1,by rw[I.rel.2,zOC]⟩,?_,I.nd,?_,?_,I.cl.set hir⟩
 · cases hdst:(ops.getD i default).dst with
   |none=>exact I.env
   |some d=>exact I.env.put (hd d hdst)
 · intro p J
   obtain⟨h1,y,hy,h2⟩:=I.xp p J;refine⟨h1,y,hy,?_⟩;have:=G p.1 h1 y hy
   cases hdst:(ops.getD i default).dst with
   |none=>exact h2
   |some d=>
    rw[hdst] at this;simp only[Act.put];rw[yhu (λD=>this (by rw[D]))];exact h2
 · intro k C
   obtain⟨y,hy,H⟩:=I.pe k C;refine⟨y,hy,?_⟩;have:=G k C y hy
   cases hdst:(ops.getD i default).dst with
   |none=>exact H
   |some d=>
    rw[hdst] at this;simp only[zOL,z5i];have h3:(y.1==d)=false:=by simp only[beq_eq_false_iff_ne];exactλD=>this (by rw[D])
    rw[h3];exact H
 · intro k C
   rw[getD_set_ne true (λD=>hip (by rw[D];exact C))];exact I.pb k C
theorem aT(hal:jT P n ops al)(hca:cK ops al=true){base:Array Bool}{pend:List Nat}{e:List (Nat×Value)}{L:List Res}{h:Mem}(opts:List Nat)(ho:opts≠[])(hr:Region.ready .any ops (setAll base pend)=opts)
    (hop:∀i∈opts,i<m/\i ∉ pend)(W1:Nat->List (Nat×Value)->List Res->Mem->Prop)(hst:∀i∈opts,jW P n w0 h0 ops R (ops.getD i default) e L h (W1 i))
    (hgo:∀i∈opts,∀e' L' h',W1 i e' L' h'->j2 P n w0 h0 ops Q R al m (base.setIfInBounds i true) pend e' L' h'):j2 P n w0 h0 ops Q R al m base pend e L h:=by
 intro fuel
 induction fuel with
 |zero=>
  intro X listed a w I hrem
  exfalso
  have hnil:=mD (ops:=ops) (listed:=listed) zos
  by_cases hall:∃p∈pend,p ∉ X.map (·.1)
  · obtain⟨p,hp,hpX⟩:=hall
    have:=bN hca I hp hpX;rw[hnil] at this;cases this
  · obtain⟨i,hi⟩:=List.exists_mem_of_ne_nil _ ho
    have h1:i∈Region.ready .any ops (setAll base pend):=by rw[hr];exact hi
    have h2:=pE I.rel.1 h1 (Y:=X.map (·.1)) (λp hp=>zdu λhc=>hall ⟨p,hp,hc⟩) (λhiX=>by
     obtain⟨p,hp,rfl⟩:=zti.1 hiX;exact(hop _ hi).2 (I.xp p hp).1)
    rw[<-I.rel.2,hnil] at h2;cases h2
 |succ fuel ih=>
  intro X listed a w I hrem;have hne:Region.ready .any ops listed≠[]:=by
   by_cases hall:∃p∈pend,p ∉ X.map (·.1)
   · obtain⟨p,hp,hpX⟩:=hall
     have:=bN hca I hp hpX;intro hnil;rw[hnil] at this;cases this
   · obtain⟨i,hi⟩:=List.exists_mem_of_ne_nil _ ho
     have h1:i∈Region.ready .any ops (setAll base pend):=by rw[hr];exact hi
     have h2:=pE I.rel.1 h1 (Y:=X.map (·.1)) (λp hp=>zdu λhc=>hall ⟨p,hp,hc⟩) (λhiX=>by
      obtain⟨p,hp,rfl⟩:=zti.1 hiX;exact(hop _ hi).2 (I.xp p hp).1)
     rw[<-I.rel.2] at h2;intro hnil;rw[hnil] at h2;cases h2
  refine⟨λhnil=>absurd hnil hne,λj hj o hoj=>?_⟩;obtain⟨hjs,hjun⟩:=mE hj;have hjo:o=ops.getD j default:=by rw[mT hjs] at hoj;exact(Option.some.inj hoj).symm
  subst hjo;have hrem':=lZ hjs hjun
  by_cases hjp:j∈pend
  · have hjX:=((I.rel.unlisted j).1 hjun).2
    refine(yC2 hal hca I hjp hjX).mono λv w' ⟨hD,b,I'⟩=>⟨.inl hD,ih _ _ _ _ I' zos⟩
  · have h1:j∈Region.ready .any ops (setAll base pend):=by
     rw[I.rel.2] at hj;exact pE I.rel.1 hj (λp hp=>by obtain⟨q,hq,rfl⟩:=zti.1 hp;exact(I.xp q hq).1) hjp
    rw[hr] at h1;refine(hst j h1 (oA al X) a w I.env I.st).mono λv w' ⟨hd,L',h',hh,hR0,S,hW⟩=>?_;have hR:=hR0 I.sub;refine⟨.inl ⟨_,h',hh,λr hr=>z6u _ (hR r hr),S⟩,?_⟩;refine RA.mono (λl w hc=>hc.imp (Dw.mono hh) id) (hgo j h1 _ _ _ hW fuel X _ _ w' (I.next hca hjs hj hjp hd hR S v) zos)
theorem zIX(D:World->Prop):∀(ord:List (Nat×Kd)) (base:Array Bool) (e:List (Nat×Value)) (L:List Res) (h:Mem),(ord.all λx=>match x.2 with| .t=>true|_=>false)=true->chk ops m ord base []=true->
 W P n w0 h0 ops Q R al ord e L h->∀fuel a w,Env n e a->St w0 h0 L h w->base.size=ops.size->rem ops base<=fuel->RA P ops (Cls m D) (λa w=>Q .normal a w) fuel base a w
 |[],base,e,L,h,_,hc,hW,fuel,a,w,E,S,_,_=>by
  have hr:Region.ready .any ops base=[]:=by simpa[chk] using hc
  cases fuel with
  |zero=>exact⟨hr,hW a w E S⟩
  |succ fuel=>exact⟨λ_=>hW a w E S,λi hi=>by rw[hr] at hi;cases hi⟩
 |(i,.t)::r,base,e,L,h,ht,hc,hW,fuel,a,w,E,S,hs,hrem=>by
  simp only[chk,zbu,beq_iff_eq,zhi] at hc;obtain⟨⟨⟨⟨_,M⟩,U⟩,hr⟩,ab⟩:=hc;have aa:i∈Region.ready .any ops base:=by rw[hr];simp
  obtain⟨C,G⟩:=mE aa;have hp:=zEM C G
  cases fuel with
  |zero=>omega
  |succ fuel=>
   refine⟨λJ=>absurd (hr.symm.trans J) zo1,λj hj o H=>?_⟩;rw[hr] at hj;obtain rfl:j=i:=by simpa using hj
   have Z:o=ops.getD j default:=by rw[mT C] at H;exact(Option.some.inj H).symm
   subst Z;have O:=lZ C G;refine(hW a w E S).mono λv w' ⟨hd,L',h',S',ac⟩=>⟨.inr ⟨j,U,?_⟩,?_⟩
   · simp[zji,hs,C]
   · refine zIX D r _ _ L' h' M ab ac fuel _ w' ?_ S' (by simpa using hs) zos
     cases hdst:(ops.getD j default).dst with
     |none=>exact E
     |some d=>exact E.put (hd d hdst)
 |(_,.q)::_,_,_,_,_,ht,_,_,_,_,_,_,_,_,_=>by simp at ht
 |(_,.a)::_,_,_,_,_,ht,_,_,_,_,_,_,_,_,_=>by simp at ht
 |(_,.c)::_,_,_,_,_,ht,_,_,_,_,_,_,_,_,_=>by simp at ht
 |(_,.b _)::_,_,_,_,_,ht,_,_,_,_,_,_,_,_,_=>by simp at ht
 |(_,.p)::_,_,_,_,_,ht,_,_,_,_,_,_,_,_,_=>by simp at ht
 |(_,.d _ _)::_,_,_,_,_,ht,_,_,_,_,_,_,_,_,_=>by simp at ht
theorem bW(hal:jT P n ops al)(hca:cK ops al=true){base:Array Bool}{pend:List Nat}{e:List (Nat×Value)}{L:List Res}{h:Mem}{k:Nat}{K:List (Nat×Value)->List Res->Mem->Prop}(hkm:k<m)(hkp:k ∉ pend)(hr:Region.ready .any ops (setAll base pend)=[k])
    (hK:∀e L h,K e L h->j2 P n w0 h0 ops Q R al m (base.setIfInBounds k true) pend e L h)(hW:jW P n w0 h0 ops R (ops.getD k default) e L h K):j2 P n w0 h0 ops Q R al m base pend e L h:=by
 refine aT hal hca [k] zo1 hr ?_ (λ_=>K) ?_ ?_
 · intro l C
   obtain rfl:l=k:=by simpa using C
   exact⟨hkm,hkp⟩
 · intro l C
   obtain rfl:l=k:=by simpa using C
   exact hW
 · intro l C G L' h' D
   obtain rfl:l=k:=by simpa using C
   exact hK G L' h' D
theorem zB6(hal:jT P n ops al)(hca:cK ops al=true){base:Array Bool}{pend:List Nat}{e:List (Nat×Value)}{L:List Res}{h:Mem}{k l:Nat}{K K':List (Nat×Value)->List Res->Mem->Prop}(hkm:k<m)(hkp:k ∉ pend)(hlm:l<m)(hlp:l ∉ pend)(hkl:k≠l)(hr:Region.ready .any ops (setAll base pend)=[k,l])
    (hK:∀e L h,K e L h->j2 P n w0 h0 ops Q R al m (base.setIfInBounds k true) pend e L h)(hK':∀e L h,K' e L h->j2 P n w0 h0 ops Q R al m (base.setIfInBounds l true) pend e L h)
    (hW:jW P n w0 h0 ops R (ops.getD k default) e L h K)(hW':jW P n w0 h0 ops R (ops.getD l default) e L h K'):j2 P n w0 h0 ops Q R al m base pend e L h:=by
 refine aT hal hca [k,l] zo1 hr ?_ (λx=>if x=k then K else K') ?_ ?_
 · intro x hx
   rcases zfi.1 hx with rfl|hx
   · exact⟨hkm,hkp⟩
   · obtain rfl:x=l:=by simpa using hx
     exact⟨hlm,hlp⟩
 · intro x hx
   rcases zfi.1 hx with rfl|hx
   · simp only[if_true];exact hW
   · obtain rfl:x=l:=by simpa using hx
     simp only[zae (Ne.symm hkl)];exact hW'
 · intro x hx D L' h' C
   rcases zfi.1 hx with rfl|hx
   · simp only[if_true] at C;exact hK D L' h' C
   · obtain rfl:x=l:=by simpa using hx
     simp only[zae (Ne.symm hkl)] at C;exact hK' D L' h' C
theorem yGS(hal:jT P n ops al)(hca:cK ops al=true){pend:List Nat}{KW:List (Nat×Value)->List Res->Mem->Prop}{KB:Array Bool->Bool}
    (fin:∀base e L h,KB base=true->(∀k,m<=k->base.getD k false=false)->KW e L h->j2 P n w0 h0 ops Q R al m base pend e L h):∀(k:Nat) (A B:List Nat) (base:Array Bool) (e:List (Nat×Value)) (L:List Res) (h:Mem),
    zEF ops m pend KB k A B base=true->(∀k,m<=k->base.getD k false=false)->WM P n w0 h0 ops R KW k A B e L h->j2 P n w0 h0 ops Q R al m base pend e L h:=by
 have nx:∀(base:Array Bool) (i:Nat),i<m->(∀k,m<=k->base.getD k false=false)->∀k,m<=k->(base.setIfInBounds i true).getD k false=false:=λbase i hi hb k hk=>by
  rw[getD_set_ne false zos];exact hb k hk
 intro k
 induction k with
 |zero=>
  intro A B base e L h hc hb hw
  cases A<;>cases B
  · exact fin base e L h (by simpa[zEF] using hc) hb (by simpa[WM] using hw)
  all_goals (simp[zEF] at hc)
 |succ k ih=>
  intro A B base e L h hc hb hw
  cases A with
  |nil=>
   cases B with
   |nil=>exact fin base e L h (by simpa[zEF] using hc) hb (by simpa[WM] using hw)
   |cons j B=>
    simp only[zEF,zbu,beq_iff_eq,zhi,zje,zqi,zgu] at hc;obtain⟨⟨⟨m1,p1⟩,r1⟩,hc'⟩:=hc;exact bW hal hca m1 p1 r1 (λe L h hw'=>ih [] B _ e L h hc' (nx base j m1 hb) hw') (by simpa only[WM] using hw)
  |cons i A=>
   cases B with
   |nil=>
    simp only[zEF,zbu,beq_iff_eq,zhi,zje,zqi,zgu] at hc;obtain⟨⟨⟨m1,p1⟩,r1⟩,hc'⟩:=hc;exact bW hal hca m1 p1 r1 (λe L h hw'=>ih A [] _ e L h hc' (nx base i m1 hb) hw') (by simpa only[WM] using hw)
   |cons j B=>
    simp only[zEF,zbu,beq_iff_eq,zhi,zje,zqi,zgu] at hc;obtain⟨⟨⟨⟨⟨⟨m1,p1⟩,⟨m2,p2⟩⟩,n12⟩,r1⟩,hc1⟩,hc2⟩:=hc;simp only[WM] at hw;exact zB6 hal hca m1 p1 m2 p2 n12 r1 (λe L h hw'=>ih A (j::B) _ e L h hc1 (nx base i m1 hb) hw') (λe L h hw'=>ih (i::A) B _ e L h hc2 (nx base j m2 hb) hw') hw.1 hw.2
theorem yDE{base listed:Array Bool}{e:List (Nat×Value)}{L:List Res}{h:Mem}{X:List (Nat×Nat)}{a:Act}{w:World}(I:Inv P n w0 h0 ops R al base [] e L h X listed a w):X=[]:=by
 cases X with
 |nil=>rfl
 |cons p X=>exact absurd (I.xp p zo1).1 zo1
theorem zVR(hal:jT P n ops al)(hca:cK ops al=true){i:Nat}(r:List (Nat×Kd))(base:Array Bool)(pend:List Nat)(e:List (Nat×Value))(L:List Res)(h:Mem)
  (IH:∀(base:Array Bool) (pend:List Nat) (e:List (Nat×Value)) (L:List Res) (h:Mem),chk ops m r base pend=true->(∀k,m<=k->base.getD k false=false)->(∀i∈pend,i<m)->W P n w0 h0 ops Q R al r e L h->j2 P n w0 h0 ops Q R al m base pend e L h)
  (hc':chk ops m r (base.setIfInBounds i true) (pend.filter (· != i))=true)(hip:i∈pend)(hnl:∀k,m<=k->base.getD k false=false)(hpm:∀i∈pend,i<m)(hW:W P n w0 h0 ops Q R al ((i,.a)::r) e L h)
    (fuel:Nat)(X:List (Nat×Nat))(listed:Array Bool)(a:Act)(w:World)(I:Inv P n w0 h0 ops R al base pend e L h X listed a w)(hrem:rem ops listed<=fuel)(hiX:i∈X.map (·.1)):RA P ops (Cls m (Dw w0 h0 R h)) (λa w=>Q .normal a w) fuel listed a w:=by
  obtain⟨p,hp,ae⟩:=zti.1 hiX;obtain⟨H,G,rfl⟩:=yri hp;obtain⟨_,y,hy,U⟩:=I.xp p hp;subst ae;have J:=I.nd;simp only[z2i,zxe] at J;rw[List.nodup_append] at J;obtain⟨n1,n2,n3⟩:=J;rw[List.nodup_cons] at n2;have aa:∀q∈H++G,q.1≠p.1:=by
   intro q D he
   rcases zpi.1 D with D|D
   · exact n3 q.1 (yoe D) p.1 zo1 he
   · exact n2.1 (he▸yoe D)
  have e1:oA al (H++p::G)=oA al H++.blk p.2 (.cells y.2.2.toArray y.2.1)::oA al G:=by
   simp only[oA,z2i,zxe,hy]
  have e2:oA al (H++G)=oA al H++oA al G:=by simp[oA]
  have ac:∀(L2:List Res) (h2:Mem),MLe h h2->(∀r∈R,r∈L2)->St w0 h0 (L2++oA al (H++G)) h2 w->W P n w0 h0 ops Q R al r ((y.1,zK5 (ops.getD p.1 default).op p.2)::e) L2 h2->
   RA P ops (Cls m (Dw w0 h0 R h)) (λa w=>Q .normal a w) fuel listed a w:=by
   intro L2 h2 ak an S2 am;refine RA.mono (λl w hc=>hc.imp (Dw.mono ak) id) (IH (base.setIfInBounds p.1 true) (pend.filter (· != p.1)) ((y.1,zK5 (ops.getD p.1 default).op p.2)::e) L2 h2 hc' (λk hk=>by
    have:=hpm _ hip;rw[getD_set_ne false zos];exact hnl k hk) (λj O=>hpm j (yeu.1 O).1) am fuel (H++G) listed a w ?_ hrem)
   refine⟨⟨I.env.defers,I.env.size,λt v Z=>?_⟩,S2,an,⟨by simpa using I.rel.1,?_⟩,?_,?_,?_,?_,I.cl⟩
   · simp only[z5i] at Z
     by_cases htd:t=y.1
     · subst htd
       simp at Z U;rw[<-Z];exact U
     · have:(t==y.1)=false:=by simpa using htd
       rw[this] at Z;exact I.env.get t v Z
   · rw[I.rel.2]
     apply yqe
     intro k;rw[sV,sV,yqu,z1e]
     by_cases hk:k<base.size
     · by_cases hkp:p.1=k
       · subst hkp;simp[hk]
       · simp only[z2i,zxe,zpi,zfi,hk,hkp,Ne.symm hkp,false_or,if_false,and_true]
     · simp[hk]
       omega
   · intro q D
     have ad:q∈H++p::G:=by
      rcases zpi.1 D with h1|h1
      · exact z6u _ h1
      · exact List.mem_append_right _ (z6i _ h1)
     obtain⟨h1,h2⟩:=I.xp q ad;exact⟨yeu.2 ⟨h1,by simpa using aa q D⟩,h2⟩
   · simp only[z2i]
     rw[List.nodup_append];exact⟨n1,n2.2,λx hx y hy=>n3 x hx y (z6i _ hy)⟩
   · intro j O
     obtain⟨h1,h2⟩:=yeu.1 O;obtain⟨z,hz,hl⟩:=I.pe j h1;refine⟨z,hz,?_⟩;simp only[z5i];have ah:(z.1==y.1)=false:=by
      simp only[beq_eq_false_iff_ne];intro he;obtain⟨_,d2,_,d4,_,_⟩:=pM hca hz;have M:j≠p.1:=by simpa using h2
      exact(pM hca hy).2.2.2.2.2 j d2 M (by rw[d4,he])
     rw[ah];exact hl
   · intro j O
     obtain⟨h1,h2⟩:=yeu.1 O;have M:j≠p.1:=by simpa using h2
     rw[getD_set_ne true (Ne.symm M)];exact I.pb j h1
  have C:=I.st;rw[e1] at C;have hw:=hW y.1 y.2.1 y.2.2 p.2 hy
  cases hs:zTV (ops.getD p.1 default).op with
  |none=>
   rw[hs] at hw;refine ac _ h (MLe.refl h) (λr hr=>z6i _ (I.sub r hr)) (C.perm ?_) (by unfold zK5;rw[hs];exact hw);rw[e2,<-zhu];refine yne.trans ?_;simp only[ziu,zhu];exact List.Perm.refl _
  |some len=>
   rw[hs] at hw;have hm:w.heap[p.2]?=some (.cells y.2.2.toArray y.2.1):=C.ok (.blk p.2 (.cells y.2.2.toArray y.2.1)) zo1;rw[<-zhu] at C;obtain⟨S2,ab⟩:=C.freeze (b:=p.2) rfl hm;obtain⟨aj,ai⟩:=(hal _ (zAO hy)).2.2 len hs;simp only at aj;refine ac L _ ab I.sub (by rw[e2,<-zhu];exact S2) (by unfold zK5;rw[hs];exact hw _ ab ⟨_,_,rfl,zbe _,ai,by omega,λj O=>⟨p.2,0,rfl,by simp[cell]⟩⟩)
theorem zKQ(hsel:Region.noSelect ops=true)(hca:cK ops al=true){pend:List Nat}{i:Nat}{base:Array Bool}{e:List (Nat×Value)}{L:List Res}{h:Mem}{K:List (Nat×Value)->List Res->Mem->Prop}(hpm:∀i∈pend,i<m)(hc:zNJ ops m pend i base=true)(hnl:∀k,m<=k->base.getD k false=false)
    (hW:SQ P n w0 h0 ops R i e L h K)(fin:∀e L h,K e L h->j2 P n w0 h0 ops Q R al m (base.setIfInBounds i true) pend e L h):j2 P n w0 h0 ops Q R al m base pend e L h:=by
 intro C X listed a w I ao;simp only[zNJ,zbu,zhi,zje,zqi,zgu] at hc;obtain⟨⟨⟨⟨aj,ai⟩,M⟩,O⟩,J⟩:=hc;obtain⟨v,⟨⟨d,hd,am⟩,hq⟩,an⟩:=hW;have ak:i ∉ X.map (·.1):=λhx=>by
  obtain⟨p,Z,rfl⟩:=zti.1 hx;exact O (I.xp p Z).1
 have G:i∈Region.ready .any ops listed:=by
  have h1:i∈Region.ready .any ops (setAll base []):=by simpa[setAll] using ai
  rw[I.rel.2];exact pE I.rel.1 h1 nX ak
 obtain⟨D,H⟩:=mE G;have Z:=zEM D H;have ab:=lZ D H
 cases C with
 |zero=>omega
 |succ C=>
  have hD:Dw w0 h0 R h w:=⟨_,h,MLe.refl h,λr hr=>z6u _ (I.sub r hr),I.st⟩;refine RA.first (mT D) hsel aj ?_ C listed a w I.cl (by rw[I.rel.2,lY];exact I.rel.1) hD ?_ ?_ G (λw' ⟨L',h',a1,a2,a3⟩=>hq h' L' a w' a1 a2 I.env a3) ?_
  · intro k hk ae
    have:=zob.1 J k (by simpa using ae);simp only[zyi,zhi] at this;exact this.resolve_left zos
  · intro k hk
    cases hl:listed.getD k false with
    |false=>rfl
    |true=>
     rcases(I.rel.listed k).1 hl with h1|⟨h1,_⟩
     · rw[hnl k hk] at h1;cases h1
     · obtain⟨p,Z,rfl⟩:=zti.1 h1
       have:=hpm _ (I.xp p Z).1;omega
  · intro j oj ac ah aa ad
    exact Region.free_spec (mT D) M j oj ac ah ((I.rel.unlisted j).1 aa).1 ad
  · refine fin _ L h an C X _ _ w ?_ zos
    exact I.next hca D G O (λd' U=>by rw[hd] at U;cases U;exact am) I.sub I.st v
theorem yGR(hsel:Region.noSelect ops=true)(hal:jT P n ops al)(hca:cK ops al=true){pend Qs:List Nat}(hpm:∀i∈pend,i<m){KW:List (Nat×Value)->List Res->Mem->Prop}{KB:Array Bool->Bool}
    (fin:∀base e L h,KB base=true->(∀k,m<=k->base.getD k false=false)->KW e L h->j2 P n w0 h0 ops Q R al m base pend e L h):∀(k:Nat) (A B:List Nat) (base:Array Bool) (e:List (Nat×Value)) (L:List Res) (h:Mem),
    mY ops m pend Qs KB k A B base=true->(∀k,m<=k->base.getD k false=false)->WX P n w0 h0 ops R Qs KW k A B e L h->j2 P n w0 h0 ops Q R al m base pend e L h:=by
 have nx:∀(base:Array Bool) (i:Nat),i<m->(∀k,m<=k->base.getD k false=false)->∀k,m<=k->(base.setIfInBounds i true).getD k false=false:=λbase i hi hb k hk=>by
  rw[getD_set_ne false zos];exact hb k hk
 have qm:∀{i base},zNJ ops m pend i base=true->i<m:=λhc=>by
  simp only[zNJ,zbu,zhi] at hc;exact hc.1.1.1.1
 intro k
 induction k with
 |zero=>
  intro A B base e L h hc hb hw
  cases A<;>cases B
  · exact fin base e L h (by simpa[mY] using hc) hb (by simpa[WX] using hw)
  all_goals (simp[mY] at hc)
 |succ k ih=>
  intro A B base e L h hc hb hw
  cases A with
  |nil=>
   cases B with
   |nil=>exact fin base e L h (by simpa[mY] using hc) hb (by simpa[WX] using hw)
   |cons j B=>
    cases hq:Qs.contains j with
    |true=>
     simp only[mY,WX,hq,cond_true,zbu] at hc hw;exact zKQ hsel hca hpm hc.1 hb hw λe L h hw'=>ih [] B _ e L h hc.2 (nx base j (qm hc.1) hb) hw'
    |false=>
     simp only[mY,WX,hq,cond_false,zbu,beq_iff_eq,zhi,zje,zqi,zgu] at hc hw;obtain⟨⟨⟨m1,p1⟩,r1⟩,hc'⟩:=hc;exact bW hal hca m1 p1 r1 (λe L h hw'=>ih [] B _ e L h hc' (nx base j m1 hb) hw') hw
  |cons i A=>
   cases B with
   |nil=>
    cases hq:Qs.contains i with
    |true=>
     simp only[mY,WX,hq,cond_true,zbu] at hc hw;exact zKQ hsel hca hpm hc.1 hb hw λe L h hw'=>ih A [] _ e L h hc.2 (nx base i (qm hc.1) hb) hw'
    |false=>
     simp only[mY,WX,hq,cond_false,zbu,beq_iff_eq,zhi,zje,zqi,zgu] at hc hw;obtain⟨⟨⟨m1,p1⟩,r1⟩,hc'⟩:=hc;exact bW hal hca m1 p1 r1 (λe L h hw'=>ih A [] _ e L h hc' (nx base i m1 hb) hw') hw
   |cons j B=>
    cases hq:Qs.contains i with
    |true=>
     simp only[mY,WX,hq,cond_true,zbu] at hc hw;exact zKQ hsel hca hpm hc.1 hb hw λe L h hw'=>ih A (j::B) _ e L h hc.2 (nx base i (qm hc.1) hb) hw'
    |false=>
     cases hq2:Qs.contains j with
     |true=>
      simp only[mY,WX,hq,hq2,cond_true,cond_false,zbu] at hc hw;exact zKQ hsel hca hpm hc.1 hb hw λe L h hw'=>ih (i::A) B _ e L h hc.2 (nx base j (qm hc.1) hb) hw'
     |false=>
      simp only[mY,WX,hq,hq2,cond_false,zbu,zyi,beq_iff_eq,zhi,zje,zqi,zgu] at hc hw;obtain⟨⟨⟨⟨⟨⟨m1,p1⟩,⟨m2,p2⟩⟩,n12⟩,r1⟩,hc1⟩,hc2⟩:=hc
      rcases r1 with r1|r1
      · exact zB6 hal hca m1 p1 m2 p2 n12 r1 (λe L h hw'=>ih A (j::B) _ e L h hc1 (nx base i m1 hb) hw') (λe L h hw'=>ih (i::A) B _ e L h hc2 (nx base j m2 hb) hw') hw.1 hw.2
      · exact zB6 hal hca m2 p2 m1 p1 (Ne.symm n12) r1 (λe L h hw'=>ih (i::A) B _ e L h hc2 (nx base j m2 hb) hw') (λe L h hw'=>ih A (j::B) _ e L h hc1 (nx base i m1 hb) hw') hw.2 hw.1
theorem zGP(hsel:Region.noSelect ops=true)(hal:jT P n ops al)(hca:cK ops al=true):∀(ord:List (Nat×Kd)) (base:Array Bool) (pend:List Nat) (e:List (Nat×Value)) (L:List Res) (h:Mem),chk ops m ord base pend=true->(∀k,m<=k->base.getD k false=false)->(∀i∈pend,i<m)->
 W P n w0 h0 ops Q R al ord e L h->j2 P n w0 h0 ops Q R al m base pend e L h
 |[],base,pend,e,L,h,hc,_,_,hW=>by
  intro fuel X listed a w I hrem;simp only[chk,zbu,List.isEmpty_iff] at hc;obtain⟨rfl,hr⟩:=hc;have hX:=yDE I;subst hX;have hl:listed=base:=I.rel.2;subst hl;have S:=I.st;simp only[oA,yru,zli] at S
  cases fuel with
  |zero=>exact⟨hr,hW a w I.env S⟩
  |succ fuel=>exact⟨λ_=>hW a w I.env S,λi hi=>by rw[hr] at hi;cases hi⟩
 |(i,.t)::r,base,pend,e,L,h,hc,_,_,hW=>by
  intro fuel X listed a w I hrem;have hc0:=hc;simp only[chk,zbu,List.isEmpty_iff] at hc;obtain⟨⟨⟨⟨rfl,hrt⟩,_⟩,_⟩,_⟩:=hc;have hX:=yDE I;subst hX;have hl:listed=base:=I.rel.2;subst hl;have S:=I.st;simp only[oA,yru,zli] at S;exact zIX _ _ _ _ _ _ (by simpa using hrt) hc0 hW fuel a w I.env S I.rel.1 hrem
 |(i,.c)::r,base,pend,e,L,h,hc,hnl,hpm,hW=>by
  simp only[chk,zbu,beq_iff_eq,zhi,zje,zqi,zgu] at hc;obtain⟨⟨⟨him,hip⟩,hr⟩,hc'⟩:=hc;refine aT hal hca [i] zo1 hr ?_ (λ_=>W P n w0 h0 ops Q R al r) ?_ ?_
  · intro j hj
    obtain rfl:j=i:=by simpa using hj
    exact⟨him,hip⟩
  · intro j hj
    obtain rfl:j=i:=by simpa using hj
    exact hW
  · intro j hj e' L' h' hW'
    obtain rfl:j=i:=by simpa using hj
    exact zGP hsel hal hca r _ pend e' L' h' hc' (λk hk=>by rw[getD_set_ne false zos];exact hnl k hk) hpm hW'
 |(i,.b j)::r,base,pend,e,L,h,hc,hnl,hpm,hW=>by
  simp only[chk,zbu,beq_iff_eq,zhi,zje,zqi,zgu] at hc;obtain⟨⟨⟨⟨⟨⟨⟨⟨him,hjm⟩,hip⟩,hjp⟩,hij⟩,hr⟩,hri⟩,hrj⟩,hc'⟩:=hc;obtain⟨hW1,hW2⟩:=hW;refine aT hal hca [i,j] zo1 hr (λk hk=>?_) (λk=>if k=i then λe L h=>jW P n w0 h0 ops R (ops.getD j default) e L h (W P n w0 h0 ops Q R al r) else λe L h=>jW P n w0 h0 ops R (ops.getD i default) e L h (W P n w0 h0 ops Q R al r)) (λk hk=>?_) ?_
  · rcases zfi.1 hk with rfl|hk
    · exact⟨him,hip⟩
    · obtain rfl:k=j:=by simpa using hk
      exact⟨hjm,hjp⟩
  · rcases zfi.1 hk with rfl|hk
    · simp only[if_true];exact hW1
    · obtain rfl:k=j:=by simpa using hk
      simp only[zae (Ne.symm hij)];exact hW2
  · intro k hk e' L' h' hW'
    rcases zfi.1 hk with rfl|hk
    · simp only[if_true] at hW'
      refine aT hal hca [j] zo1 hri ?_ (λ_=>W P n w0 h0 ops Q R al r) ?_ ?_
      · intro l hl
        obtain rfl:l=j:=by simpa using hl
        exact⟨hjm,hjp⟩
      · intro l hl
        obtain rfl:l=j:=by simpa using hl
        exact hW'
      intro l hl e2 L2 h2 hW2';obtain rfl:l=j:=by simpa using hl
      exact zGP hsel hal hca r _ pend e2 L2 h2 hc' (λk' hk'=>by rw[getD_set_ne false zos,getD_set_ne false zos];exact hnl k' hk') hpm hW2'
    · obtain rfl:k=j:=by simpa using hk
      simp only[zae (Ne.symm hij)] at hW';refine aT hal hca [i] zo1 hrj ?_ (λ_=>W P n w0 h0 ops Q R al r) ?_ ?_
      · intro l hl
        obtain rfl:l=i:=by simpa using hl
        exact⟨him,hip⟩
      · intro l hl
        obtain rfl:l=i:=by simpa using hl
        exact hW'
      intro l hl e2 L2 h2 hW2';obtain rfl:l=i:=by simpa using hl
      rw[yai _ _ hij] at hc';exact zGP hsel hal hca r _ pend e2 L2 h2 hc' (λk' hk'=>by rw[getD_set_ne false zos,getD_set_ne false zos];exact hnl k' hk') hpm hW2'
 |(i,.d i2 j)::r,base,pend,e,L,h,hc,hnl,hpm,hW=>by
  simp only[chk,zbu,beq_iff_eq,zhi,zje,zqi,zgu] at hc;obtain⟨⟨⟨⟨⟨⟨⟨⟨⟨⟨⟨⟨m1,m2⟩,m3⟩,p1⟩,p2⟩,p3⟩,⟨⟨n12,n13⟩,n23⟩⟩,r0⟩,ri⟩,rj⟩,rii⟩,rij⟩,hc'⟩:=hc;have fin:∀e L h,W P n w0 h0 ops Q R al r e L h->j2 P n w0 h0 ops Q R al m (((base.setIfInBounds i true).setIfInBounds i2 true).setIfInBounds j true) pend e L h:=λe L h hw=>
   zGP hsel hal hca r _ pend e L h hc' (λk hk=>by rw[getD_set_ne false zos,getD_set_ne false zos,getD_set_ne false zos];exact hnl k hk) hpm hw
  have cm:∀(b:Array Bool) {x y:Nat},x≠y->(b.setIfInBounds x true).setIfInBounds y true=(b.setIfInBounds y true).setIfInBounds x true:=λb x y hxy=>yai _ _ hxy;obtain⟨hA,hB⟩:=hW;refine zB6 hal hca m1 p1 m3 p3 n13 r0 ?_ ?_ hA hB
  · rintro e L h ⟨h1,h2⟩
    refine zB6 hal hca m2 p2 m3 p3 n23 ri ?_ ?_ h1 h2
    · intro e L h h3
      exact bW hal hca m3 p3 rii fin h3
    · intro e L h h3
      refine bW hal hca m2 p2 rij ?_ h3;intro e L h h4;rw[cm _ (Ne.symm n23)];exact fin e L h h4
  · intro e L h h1
    refine bW hal hca m1 p1 rj ?_ h1;intro e L h h2;rw[cm _ (Ne.symm n13)];refine bW hal hca m2 p2 rij ?_ h2;intro e L h h3;rw[cm _ (Ne.symm n23)];exact fin e L h h3
 |(_,.x Qs A B)::r,base,pend,e,L,h,hc,hnl,hpm,hW=>by
  simp only[chk] at hc;exact yGR hsel hal hca hpm (KB:=λbase=>chk ops m r base pend) (λbase e L h hk hb hw=>zGP hsel hal hca r base pend e L h hk hb hpm hw) _ A B base e L h hc hnl hW
 |(_,.m A B)::r,base,pend,e,L,h,hc,hnl,hpm,hW=>by
  simp only[chk] at hc;exact yGS hal hca (KB:=λbase=>chk ops m r base pend) (λbase e L h hk hb hw=>zGP hsel hal hca r base pend e L h hk hb hpm hw) _ A B base e L h hc hnl hW
 |(i,.q)::r,base,pend,e,L,h,hc,hnl,hpm,hW=>by
  intro fuel X listed a w I hrem;simp only[chk,zbu,zhi,zje,zqi,zgu] at hc;obtain⟨⟨⟨⟨⟨him,hir⟩,hfree⟩,hip⟩,hlast⟩,hc'⟩:=hc;obtain⟨v,⟨⟨d,hd,hdn⟩,hq⟩,hW'⟩:=hW;have hiX:i ∉ X.map (·.1):=λhx=>by
   obtain⟨p,hp,rfl⟩:=zti.1 hx;exact hip (I.xp p hp).1
  have hir':i∈Region.ready .any ops listed:=by
   have h1:i∈Region.ready .any ops (setAll base []):=by simpa[setAll] using hir
   rw[I.rel.2];exact pE I.rel.1 h1 nX hiX
  obtain⟨his,hiun⟩:=mE hir';have hp:=zEM his hiun;have hrem':=lZ his hiun
  cases fuel with
  |zero=>omega
  |succ fuel=>
   have hD:Dw w0 h0 R h w:=⟨_,h,MLe.refl h,λr hr=>z6u _ (I.sub r hr),I.st⟩;refine RA.first (mT his) hsel him ?_ fuel listed a w I.cl (by rw[I.rel.2,lY];exact I.rel.1) hD ?_ ?_ hir' (λw' ⟨L',h',a1,a2,a3⟩=>hq h' L' a w' a1 a2 I.env a3) ?_
   · intro k hk hks
     have:=zob.1 hlast k (by simpa using hks);simp only[zyi,zhi] at this;exact this.resolve_left zos
   · intro k hk
     cases hl:listed.getD k false with
     |false=>rfl
     |true=>
      rcases(I.rel.listed k).1 hl with h1|⟨h1,_⟩
      · rw[hnl k hk] at h1;cases h1
      · obtain⟨p,hp,rfl⟩:=zti.1 h1
        have:=hpm _ (I.xp p hp).1;omega
   · intro j oj hoj hji hun hno
     exact Region.free_spec (mT his) hfree j oj hoj hji ((I.rel.unlisted j).1 hun).1 hno
   · refine zGP hsel hal hca r _ pend _ L h hc' (λk hk=>by rw[getD_set_ne false zos];exact hnl k hk) hpm hW' fuel X _ _ w ?_ zos
     exact I.next hca his hir' hip (λd' hd'=>by rw[hd] at hd';cases hd';exact hdn) I.sub I.st v
 |(i,.p)::r,base,pend,e,L,h,hc,hnl,hpm,hW=>by
  intro fuel X listed a w I hrem;simp only[chk,zbu,zhi,zje,zqi,zgu] at hc;obtain⟨⟨⟨⟨him,hir⟩,hfree⟩,hip⟩,hc'⟩:=hc;obtain⟨v,⟨⟨d,hd,hdn⟩,hq⟩,hW'⟩:=hW;have hiX:i ∉ X.map (·.1):=λhx=>by
   obtain⟨p,hp,rfl⟩:=zti.1 hx;exact hip (I.xp p hp).1
  have hir':i∈Region.ready .any ops listed:=by
   have h1:i∈Region.ready .any ops (setAll base []):=by simpa[setAll] using hir
   rw[I.rel.2];exact pE I.rel.1 h1 nX hiX
  obtain⟨his,hiun⟩:=mE hir';have hp:=zEM his hiun;have hrem':=lZ his hiun
  cases fuel with
  |zero=>omega
  |succ fuel=>
   have hD:Dw w0 h0 R h w:=⟨_,h,MLe.refl h,λr hr=>z6u _ (I.sub r hr),I.st⟩;refine RA.pure (mT his) hsel him fuel listed a w (.inl hD) ?_ hir' (λw'=>hq a w' I.env) ?_
   · intro j oj hoj hji hun hno
     exact Region.free_spec (mT his) hfree j oj hoj hji ((I.rel.unlisted j).1 hun).1 hno
   · refine zGP hsel hal hca r _ pend _ L h hc' (λk hk=>by rw[getD_set_ne false zos];exact hnl k hk) hpm hW' fuel X _ _ w ?_ zos
     exact I.next hca his hir' hip (λd' hd'=>by rw[hd] at hd';cases hd';exact hdn) I.sub I.st v
 |(i,.a)::r,base,pend,e,L,h,hc,hnl,hpm,hW=>by
  simp only[chk,zbu,beq_iff_eq,zqi,zhi] at hc;obtain⟨⟨hip,hr⟩,hc'⟩:=hc;intro fuel
  induction fuel with
  |zero=>
   intro X listed a w I hrem
   by_cases hiX:i∈X.map (·.1)
   · exact zVR hal hca r base pend e L h (λb p e L h=>zGP hsel hal hca r b p e L h) hc' hip hnl hpm hW 0 X listed a w I hrem hiX
   · exfalso
     have:=bN hca I hip hiX;rw[mD zos] at this
     cases this
  |succ fuel ih=>
   intro X listed a w I hrem
   by_cases hiX:i∈X.map (·.1)
   · exact zVR hal hca r base pend e L h (λb p e L h=>zGP hsel hal hca r b p e L h) hc' hip hnl hpm hW _ X listed a w I hrem hiX
   · have hir:=bN hca I hip hiX
     refine⟨λhnil=>absurd hir (by rw[hnil];simp),λj hj o hoj=>?_⟩;obtain⟨hjs,hjun⟩:=mE hj;have hjo:o=ops.getD j default:=by rw[mT hjs] at hoj;exact(Option.some.inj hoj).symm
     subst hjo;have hrem':=lZ hjs hjun;have hjp:j∈pend:=by
      refine zdu λhjp=>?_;have h1:j∈Region.ready .any ops (setAll base (pend.filter (· != i))):=by
       rw[I.rel.2] at hj;refine pE I.rel.1 hj (λp hp=>?_) (λhc=>hjp (yeu.1 hc).1);obtain⟨q,hq,rfl⟩:=zti.1 hp;refine yeu.2 ⟨(I.xp q hq).1,?_⟩;simp only[bne_iff_ne];exactλhe=>hiX (he▸yoe hq)
      rw[hr] at h1;obtain rfl:j=i:=by simpa using h1
      exact hjp hip
     have hjX:=((I.rel.unlisted j).1 hjun).2;exact(yC2 hal hca I hjp hjX).mono λv w' ⟨hD,b,I'⟩=>⟨.inl hD,ih _ _ _ _ I' zos⟩
theorem zK{id:Nat}{l:List Oper}{e:List (Nat×Value)}{L:List Res}{h:Mem}(m:Nat)(R:List Res)(al:Als)(ord:List (Nat×Kd))(hm:P.follows .mixedOrders=true)(hal:jT P n l.toArray al)
    (hchk:(Region.noSelect l.toArray&&cK l.toArray al&&(al.all λx=>decide (x.1<m))&&chk l.toArray m ord (Array.replicate l.length false) (al.map (·.1)))=true)(hae:∀x∈al,al.lookup x.1=some x.2/\e.lookup x.2.1=none)
    (hR:∀r∈R,r∈L)(k:W P n w0 h0 l.toArray Q R al ord e L h):GC P n w0 h0 (.region id l.toArray true) Q e L h:=by
 intro a w E S;simp only[zbu] at hchk;obtain⟨⟨⟨h1,h2⟩,h3⟩,M⟩:=hchk;have C:∀i∈al.map (·.1),i<m:=by
  intro i hi;obtain⟨x,hx,rfl⟩:=zti.1 hi
  simpa using zob.1 h3 x hx
 have J:=zGP (Q:=Q) (R:=R) (m:=m) h1 hal h2 ord (Array.replicate l.length false) (al.map (·.1)) e L h M (λk _=>by simp[zji,Array.getElem?_replicate];split<;>rfl) C k;refine wp_region_any hm (RA.wpAny (λ_ _ G=>G) (J _ [] _ a _ ⟨⟨E.defers,E.size,E.get⟩,?_,hR,⟨by simp,by simp[setAll]⟩,(λp H=>by cases H),by simp,?_,?_,?_⟩ ?_))
 · simp only[oA,yru,zli]
   exact⟨S.below.drew,S.le,S.sub,S.fresh,S.ok,S.own,S.apart⟩
 · intro i hi
   obtain⟨x,hx,rfl⟩:=zti.1 hi;exact⟨x.2,(hae x hx).1,(hae x hx).2⟩
 · intro i hi
   obtain⟨x,hx,rfl⟩:=zti.1 hi;have:=(pM h2 (hae x hx).1).2.1;simp at this;simp[zji,this]
 · intro k o D
   simp[zji,Array.getElem?_replicate] at D
   split at D<;>simp at D
 · unfold rem
   refine zci (List.length_filter_le _ _) ?_;simp
end sound
section
variable {P:Program}{n:Nat}{w0:World}{h0:Mem}{ops:Array Oper}{Q:Exit->Act->World->Prop}{R:List Res}{al:Als}{e:List (Nat×Value)}{L:List Res}{h:Mem}{r:List (Nat×Kd)}{i:Nat}
variable {d:Nat}{op:Op}{ty:TypeId}{ps:String}{af:Array Edge}{g t:Nat}{b c:Bool}{v:Value}
theorem wn{o:Oper}{y:Nat->Option Bool}(hg:o.guard=none):Region.wanted o y=true:=by
 unfold Region.wanted;rw[hg]
theorem fP(k:GQ n w0 h0 Q .normal e L h):W P n w0 h0 ops Q R al [] e L h:=k
theorem w_q(ho:ops.getD i default=⟨some d,op,ty,ps,af,none⟩)(hv:∀h' L',MLe h h'->(∀r∈R,r∈L')->OpV P n w0 h0 ⟨some d,op,ty,ps,af,none⟩ e L' h' v)(hn:Nat.ble (d+1) n=true)
    (k:W P n w0 h0 ops Q R al r ((d,v)::e) L h):W P n w0 h0 ops Q R al ((i,.q)::r) e L h:=by
 refine⟨v,?_,?_⟩
 · rw[ho]
   exact⟨⟨d,I,zce hn⟩,λh' L' a w hh hR E S=>.inl ⟨I,hv h' L' hh hR a w E S⟩⟩
 · rw[ho];exact k
theorem xD(ho:ops.getD i default=⟨some d,op,ty,ps,af,none⟩)(hv:∀h' L',OpV P n w0 h0 ⟨some d,op,ty,ps,af,none⟩ e L' h' v)(hn:Nat.ble (d+1) n=true)
    (k:W P n w0 h0 ops Q R al r ((d,v)::e) L h):W P n w0 h0 ops Q R al ((i,.q)::r) e L h:=w_q ho (λh' L' _ _=>hv h' L') hn k
theorem wZ{x:Operand}(ho:ops.getD i default=⟨some d,.move x,ty,ps,af,none⟩)(hx:zM e x=some v)(hn:Nat.ble (d+1) n=true)
    (k:W P n w0 h0 ops Q R al r ((d,v)::e) L h):W P n w0 h0 ops Q R al ((i,.q)::r) e L h:=w_q ho (λ_ _ _ _=>xL hx) hn k
theorem zHA{x:Operand}(ho:ops.getD i default=⟨some d,.assign x,ty,ps,af,none⟩)(hx:zM e x=some v)(hn:Nat.ble (d+1) n=true)
    (k:W P n w0 h0 ops Q R al r ((d,v)::e) L h):W P n w0 h0 ops Q R al ((i,.q)::r) e L h:=w_q ho (λ_ _ _ _=>tX hx) hn k
theorem dS{g t:Nat}{b c:Bool}{o:Oper}{a:Act}(hg:o.guard=some (g,b))(ht:(ops[g]?).bind (·.dst)=some t)(he:e.lookup t=some (.bool c))(E:Env n e a):Region.wanted o (yielded ops a.tmps)=(c==b):=by
 have:=E.get t _ he;simp[Region.wanted,hg,yielded,ht,this]
theorem xG(ho:ops.getD i default=⟨some d,op,ty,ps,af,some (g,b)⟩)(ht:(ops[g]?).bind (·.dst)=some t)(he:e.lookup t=some (.bool b))(hv:∀h' L',MLe h h'->(∀r∈R,r∈L')->OpV P n w0 h0 ⟨some d,op,ty,ps,af,some (g,b)⟩ e L' h' v)
    (hn:Nat.ble (d+1) n=true)(k:W P n w0 h0 ops Q R al r ((d,v)::e) L h):W P n w0 h0 ops Q R al ((i,.q)::r) e L h:=by
 refine⟨v,?_,?_⟩
 · rw[ho]
   exact⟨⟨d,I,zce hn⟩,λh' L' a w hh hR E S=>.inl ⟨by rw[dS I ht he E];simp,hv h' L' hh hR a w E S⟩⟩
 · rw[ho];exact k
theorem zUK{b:Bool}{t:Nat}(ho:ops.getD i default=⟨some d,op,ty,ps,af,some (g,b)⟩)(ht:(ops[g]?).bind (·.dst)=some t)(he:e.lookup t=some undef)(hn:Nat.ble (d+1) n=true)
    (k:W P n w0 h0 ops Q R al r ((d,undef)::e) L h):W P n w0 h0 ops Q R al ((i,.q)::r) e L h:=by
 refine⟨undef,?_,?_⟩
 · rw[ho]
   refine⟨⟨d,I,zce hn⟩,λh' L' a w hh hR E S=>.inr ⟨?_,I⟩⟩;have:=E.get t _ he;simp[Region.wanted,yielded,ht,this,undef]
 · rw[ho];exact k
theorem uD(ho:ops.getD i default=⟨some d,op,ty,ps,af,some (g,b)⟩)(ht:(ops[g]?).bind (·.dst)=some t)(he:e.lookup t=some (.bool c))(hcb:(c==b)=false)(hn:Nat.ble (d+1) n=true)
    (k:W P n w0 h0 ops Q R al r ((d,undef)::e) L h):W P n w0 h0 ops Q R al ((i,.q)::r) e L h:=by
 refine⟨undef,?_,?_⟩
 · rw[ho]
   exact⟨⟨d,I,zce hn⟩,λh' L' a w hh hR E S=>.inr ⟨by rw[dS I ht he E,hcb],I⟩⟩
 · rw[ho];exact k
theorem w_a{E E':TypeId}{cs:List Value}(hop:(ops.getD i default).op=.alloc E')(hl:al.lookup i=some (d,E,cs))(k:∀b,W P n w0 h0 ops Q R al r ((d,.pointer (some ⟨b,0,none⟩))::e) (.blk b (.cells cs.toArray E)::L) h):W P n w0 h0 ops Q R al ((i,.a)::r) e L h:=by
 intro G E' D b C;rw[hl] at C
 cases C
 rw[hop];exact k b
theorem yDO{Qs A B:List Nat}{N:Nat}(hN:A.length+B.length=N)(k:WX P n w0 h0 ops R Qs (W P n w0 h0 ops Q R al r) N A B e L h):W P n w0 h0 ops Q R al ((i,.x Qs A B)::r) e L h:=by
 subst hN;exact k
section wx
variable {K:List (Nat×Value)->List Res->Mem->Prop}{N i j:Nat}{A B Qs:List Nat}{o o':Oper}
theorem s6(k:K e L h):WX P n w0 h0 ops R Qs K N [] [] e L h:=by
 cases N<;>exact k
theorem tR(hq:Qs.contains i=true)(k:SQ P n w0 h0 ops R i e L h (WX P n w0 h0 ops R Qs K N A B)):WX P n w0 h0 ops R Qs K (N+1) (i::A) B e L h:=by
 cases B<;>simp only[WX,hq,cond_true]<;>exact k
theorem yH3(hq:Qs.contains j=true)(k:SQ P n w0 h0 ops R j e L h (WX P n w0 h0 ops R Qs K N [] B)):WX P n w0 h0 ops R Qs K (N+1) [] (j::B) e L h:=by
 simp only[WX,hq,cond_true];exact k
theorem yCJ(hi:Qs.contains i=false)(hq:Qs.contains j=true)(k:SQ P n w0 h0 ops R j e L h (WX P n w0 h0 ops R Qs K N (i::A) B)):WX P n w0 h0 ops R Qs K (N+1) (i::A) (j::B) e L h:=by
 simp only[WX,hi,hq,cond_true,cond_false];exact k
theorem zAZ(hi:Qs.contains i=false)(ho:ops.getD i default=o)(k:jW P n w0 h0 ops R o e L h (WX P n w0 h0 ops R Qs K N A [])):WX P n w0 h0 ops R Qs K (N+1) (i::A) [] e L h:=by
 subst ho;simp only[WX,hi,cond_false];exact k
theorem zNV(hi:Qs.contains j=false)(ho:ops.getD j default=o)(k:jW P n w0 h0 ops R o e L h (WX P n w0 h0 ops R Qs K N [] B)):WX P n w0 h0 ops R Qs K (N+1) [] (j::B) e L h:=by
 subst ho;simp only[WX,hi,cond_false];exact k
theorem zD7(hi:Qs.contains i=false)(hj:Qs.contains j=false)(ho:ops.getD i default=o)(ho':ops.getD j default=o')(k:jW P n w0 h0 ops R o e L h (WX P n w0 h0 ops R Qs K N A (j::B)))
    (k':jW P n w0 h0 ops R o' e L h (WX P n w0 h0 ops R Qs K N (i::A) B)):WX P n w0 h0 ops R Qs K (N+1) (i::A) (j::B) e L h:=by
 subst ho;subst ho';simp only[WX,hi,hj,cond_false];exact⟨k,k'⟩
variable {d:Nat}{op:Op}{v:Value}
theorem x_q(ho:ops.getD i default=⟨some d,op,ty,ps,af,none⟩)(hv:∀h' L',MLe h h'->(∀r∈R,r∈L')->OpV P n w0 h0 ⟨some d,op,ty,ps,af,none⟩ e L' h' v)(hn:Nat.ble (d+1) n=true)
    (k:K ((d,v)::e) L h):SQ P n w0 h0 ops R i e L h K:=by
 refine⟨v,?_,?_⟩
 · rw[ho]
   exact⟨⟨d,I,zce hn⟩,λh' L' a w hh hR E S=>.inl ⟨I,hv h' L' hh hR a w E S⟩⟩
 · rw[ho];exact k
theorem aD(ho:ops.getD i default=⟨some d,op,ty,ps,af,none⟩)(hv:∀h' L',OpV P n w0 h0 ⟨some d,op,ty,ps,af,none⟩ e L' h' v)(hn:Nat.ble (d+1) n=true)
    (k:K ((d,v)::e) L h):SQ P n w0 h0 ops R i e L h K:=x_q ho (λh' L' _ _=>hv h' L') hn k
end wx
theorem w_c{o:Oper}(ho:ops.getD i default=o)(k:jW P n w0 h0 ops R o e L h (W P n w0 h0 ops Q R al r)):W P n w0 h0 ops Q R al ((i,.c)::r) e L h:=by
 show jW P n w0 h0 ops R (ops.getD i default) e L h _
 rw[ho];exact k
theorem w_b{o o':Oper}{j:Nat}(ho:ops.getD i default=o)(ho':ops.getD j default=o')(k:jW P n w0 h0 ops R o e L h λe L h=>jW P n w0 h0 ops R o' e L h (W P n w0 h0 ops Q R al r))
    (k':jW P n w0 h0 ops R o' e L h λe L h=>jW P n w0 h0 ops R o e L h (W P n w0 h0 ops Q R al r)):W P n w0 h0 ops Q R al ((i,.b j)::r) e L h:=by
 refine⟨?_,?_⟩
 · rw[ho,ho'];exact k
 · rw[ho,ho'];exact k'
theorem rC{W':List (Nat×Value)->List Res->Mem->Prop}{ds:Option Tmp}(ht:(ops[g]?).bind (·.dst)=some t)(he:e.lookup t=some (.bool b))(k:jW P n w0 h0 ops R ⟨ds,op,ty,ps,af,none⟩ e L h W'):
 jW P n w0 h0 ops R ⟨ds,op,ty,ps,af,some (g,b)⟩ e L h W':=by
 intro X a w E S;have C:=k X a w E S;unfold qU at *;rw[zau (wn I)] at C;rw[zau (by rw[dS I ht he E];simp)];exact C
theorem zBI{W':List (Nat×Value)->List Res->Mem->Prop}(ht:(ops[g]?).bind (·.dst)=some t)(he:e.lookup t=some (.bool c))(hcb:(c==b)=false)(hn:Nat.ble (d+1) n=true)(k:W' ((d,undef)::e) L h):
 jW P n w0 h0 ops R ⟨some d,op,ty,ps,af,some (g,b)⟩ e L h W':=by
 intro X a w E S;unfold qU;rw[zae (by rw[dS I ht he E,hcb];simp)];exact⟨λG D=>by cases D;exact zce hn,L,h,MLe.refl _,λC=>C,S,k⟩
theorem yE8{W':List (Nat×Value)->List Res->Mem->Prop}{f:Nat}{xs:List Operand}{ts:Array TypeId}{vs:List Value}{R':Mem->Value->Prop}(hcall:∀args w,(callFunc f args).run P w=.ok (.enter f args) w)(hvs:aC e xs vs)
    (hc:∀w,MLe h (mem w)->Calls P f vs.toArray w (Ret w h R'))(hn:Nat.ble (d+1) n=true)(k:∀v h',MLe h h'->R' h' v->W' ((d,v)::e) L h'):
    jW P n w0 h0 ops R ⟨some d,.call {callee:=.value (.func f),args:=xs.toArray,argTypes:=ts},ty,ps,af,none⟩ e L h W':=by
 intro X a w E S;unfold qU;rw[zau (wn I)];have C:xs.toArray.map a.eval=vs.toArray:=by rw[z0u,E.evals hvs]
 have G:(execOp a.eval ⟨some d,.call {callee:=.value (.func f),args:=xs.toArray,argTypes:=ts},ty,ps,af,none⟩).run P w=.ok (.enter f vs.toArray) w:=by
  simp only[execOp,resolve,Act.eval];simp[Deferred.ofValue,invoke,hcall,C]
 rw[G];refine(hc w S.sub).mono ?_
 rintro O M ⟨v,h',rfl,hR,D⟩
 have J:=S.call D;exact⟨v,I,λU H=>(by cases H;exact zce hn),L,h',D.le,λhh=>hh,J,k v h' D.le hR⟩
theorem cT{W':List (Nat×Value)->List Res->Mem->Prop}{f:Nat}{xs:List Operand}{ts:Array TypeId}{vs:List Value}{R':Mem->Value->List Res->Prop}(hcall:∀args w,(callFunc f args).run P w=.ok (.enter f args) w)(hvs:aC e xs vs)
    (hc:∀w,MLe h (mem w)->Calls P f vs.toArray w (rA w h R'))(hn:Nat.ble (d+1) n=true)(k:∀v h' L',MLe h h'->R' h' v L'->W' ((d,v)::e) (L'++L) h'):
    jW P n w0 h0 ops R ⟨some d,.call {callee:=.value (.func f),args:=xs.toArray,argTypes:=ts},ty,ps,af,none⟩ e L h W':=by
 intro X a w E S;unfold qU;rw[zau (wn I)];have C:xs.toArray.map a.eval=vs.toArray:=by rw[z0u,E.evals hvs]
 have D:(execOp a.eval ⟨some d,.call {callee:=.value (.func f),args:=xs.toArray,argTypes:=ts},ty,ps,af,none⟩).run P w=.ok (.enter f vs.toArray) w:=by
  simp only[execOp,resolve,Act.eval];simp[Deferred.ofValue,invoke,hcall,C]
 rw[D];refine(hc w S.sub).mono ?_
 rintro O M ⟨v,h',L',rfl,hR,G⟩
 have H:=S.call G;rw[<-zhu] at H;exact⟨v,I,λU J=>(by cases J;exact zce hn),L'++L,h',G.le,λhh r D=>List.mem_append_right _ (hh r D),H,k v h' L' G.le hR⟩
theorem jN{W':List (Nat×Value)->List Res->Mem->Prop}{G:Value->Res->Prop}(hv:∀X,nL P n w0 h0 ⟨some d,op,ty,ps,af,none⟩ e (L++X) h G)(hn:Nat.ble (d+1) n=true)(k:∀v r,G v r->W' ((d,v)::e) (r::L) h):
 jW P n w0 h0 ops R ⟨some d,op,ty,ps,af,none⟩ e L h W':=by
 intro X a w E S;unfold qU;rw[zau (wn I)];obtain⟨v,U,r,J,D,C,H,O⟩:=hv X a w E S;rw[J];exact⟨λZ M=>(by cases M;exact zce hn),r::L,h,MLe.refl h,λhh x hx=>z6i _ (hh x hx),S.new D C H,k v r O⟩
theorem zVH{W':List (Nat×Value)->List Res->Mem->Prop}(hv:∀X,OpV P n w0 h0 ⟨some d,op,ty,ps,af,none⟩ e (L++X) h v)(hn:Nat.ble (d+1) n=true)(k:W' ((d,v)::e) L h):
 jW P n w0 h0 ops R ⟨some d,op,ty,ps,af,none⟩ e L h W':=by
 intro X a w E S;unfold qU;rw[zau (wn I),hv X a w E S];exact⟨λD C=>(by cases C;exact zce hn),L,h,MLe.refl h,λhh=>hh,S,k⟩
theorem dT(ho:ops.getD i default=⟨some d,op,ty,ps,af,none⟩)(hv:OpV P n w0 h0 ⟨some d,op,ty,ps,af,none⟩ e L h v)(hn:Nat.ble (d+1) n=true)(k:W P n w0 h0 ops Q R al r ((d,v)::e) L h):W P n w0 h0 ops Q R al ((i,.t)::r) e L h:=by
 show yH2 P n w0 h0 ops (ops.getD i default) e L h _
 rw[ho];intro a w E S;unfold qU;rw[zau (wn I),hv a w E S];exact⟨λD C=>(by cases C;exact zce hn),L,h,S,k⟩
theorem gS{A B:List Res}{q q':Res}(ho:ops.getD i default=⟨none,op,ty,ps,af,none⟩)(hv:Upd P n w0 h0 ⟨none,op,ty,ps,af,none⟩ e A q B h q')(hfp:q'.fp=q.fp)(k:W P n w0 h0 ops Q R al r e (A++q'::B) h):
 W P n w0 h0 ops Q R al ((i,.t)::r) e (A++q::B) h:=by
 show yH2 P n w0 h0 ops (ops.getD i default) e _ h _
 rw[ho];intro a w E S;unfold qU;obtain⟨J,G,D,C⟩:=hv a w E S;rw[zau (wn I),G];exact⟨λM H=>(by cases H),_,h,S.grown D C λb hb=>.inl (hfp▸hb),k⟩
theorem jO{k:IntKind}{E:Nat}{xs:List Nat}{v:Value}{t E':TypeId}{x y:Operand}{q:Int}{ds:Option Tmp}{gd:Option (Nat×Bool)}(hm:.us E k v xs∈L)(i:Nat)(ht:P.underlying t=some (.slice E'))(hsz:∀w,(Go.sizeOf E').run P w=.ok 1 w)(hx:zM e x=some v)(hy:zM e y=some (vI q))
    (hq:q=(i:Int))(hi:i<xs.length):OpV P n w0 h0 ⟨ds,.indexAddr t x y,ty,ps,af,gd⟩ e L h (zI 1 v i):=by
 obtain⟨A,B,rfl⟩:=yri hm;exact yX i ht hsz hx hy hq hi
theorem gY{k:IntKind}{E:Nat}{xs:List Nat}{v:Value}{t:TypeId}{x:Operand}{i:Nat}{ds:Option Tmp}{gd:Option (Nat×Bool)}(hm:.us E k v xs∈L)(ha:∀w,(isAgg t).run P w=.ok false w)(hx:zM e x=some (zI 1 v i))(hi:i<xs.length):
 OpV P n w0 h0 ⟨ds,.load t x,ty,ps,af,gd⟩ e L h (vU k (xs.getD i 0)):=by
 obtain⟨A,B,rfl⟩:=yri hm;exact fC ha hx hi
end
section
variable {P:Program}{n:Nat}{w0:World}{h0:Mem}{e:List (Nat×Value)}{L:List Res}{h:Mem}{Q:Exit->Act->World->Prop}
variable {ds:Option Tmp}{ty:TypeId}{ps:String}{af:Array Edge}{gd:Option (Nat×Bool)}
def zD5(P:Program)(n:Nat)(w0:World)(h0:Mem)(o:Oper)(e:List (Nat×Value))(A:List Res)(r:Res)(B:List Res)(h:Mem)(G:Value->Res->Prop):Prop:=
 ∀a w,Env n e a->St w0 h0 (A++r::B) h w->∃v w' r',(execOp a.eval o).run P w=.ok (.value v) w'/\w.grownBy w' r.fp/\r'.ok w0.heap.size w'/\(∀b,r'.fp=some b->r.fp=some b\/w.heap.size<=b)/\G v r'
theorem xU{ops:Array Oper}{rest:List Oper}{o:Oper}{d:Nat}{A B:List Res}{r:Res}{G:Value->Res->Prop}(hv:zD5 P n w0 h0 o e A r B h G)(hg:o.guard=none)(hd:o.dst=some d)(hn:Nat.ble (d+1) n=true)
    (k:∀v r',G v r'->GL P n w0 h0 ops Q rest ((d,v)::e) (A++r'::B) h):GL P n w0 h0 ops Q (o::rest) e (A++r::B) h:=by
 intro a w J S;refine wpList_plain hg λK O=>?_;obtain⟨v,Z,r',M,D,C,H,U⟩:=hv a w J S;unfold Oper.wp;rw[M,Oper.upon_value,hd];exact O _ _ (k v r' U _ _ (J.put (zce hn)) (S.grown D C H))
theorem gv{ops:Array Oper}{rest:List Oper}{d:Nat}{op:Op}{v:Value}(hv:OpV P n w0 h0 ⟨some d,op,ty,ps,af,none⟩ e L h v)(hn:Nat.ble (d+1) n=true)(k:GL P n w0 h0 ops Q rest ((d,v)::e) L h):GL P n w0 h0 ops Q (⟨some d,op,ty,ps,af,none⟩::rest) e L h:=
 eE hv rfl rfl hn k
theorem mv{ops:Array Oper}{rest:List Oper}{d:Nat}{x:Operand}{v:Value}(hx:zM e x=some v)(hn:Nat.ble (d+1) n=true)(k:GL P n w0 h0 ops Q rest ((d,v)::e) L h):GL P n w0 h0 ops Q (⟨some d,.move x,ty,ps,af,none⟩::rest) e L h:=
 eE (xL hx) rfl rfl hn k
theorem asg{ops:Array Oper}{rest:List Oper}{d:Nat}{x:Operand}{v:Value}(hx:zM e x=some v)(hn:Nat.ble (d+1) n=true)(k:GL P n w0 h0 ops Q rest ((d,v)::e) L h):GL P n w0 h0 ops Q (⟨some d,.assign x,ty,ps,af,none⟩::rest) e L h:=
 eE (tX hx) rfl rfl hn k
theorem zFH{A B:List Res}{t E:TypeId}{i:TypeInfo}{z:Value}{k bytes m m':Nat}{v v':Value}{cs cs':List Value}{x y:Operand}(ht:P.underlying t=some (.slice E))(hi:P.info? E=some i)(hz:i.zero=some z)(hsize:i.size=k)(hby:i.bytes=bytes)
    (hzs:z.cells.size=k)(hk:0<k)(hx:zM e x=some v)(hy:zM e y=some v')(hv':Sl h k v' m' cs')(hone:∀u∈cs',u.oneCell'=true)(hlen:m+m'<9223372036854775808)(hb':(m+m')*bytes<=140737488355328):
    zD5 P n w0 h0 ⟨ds,.call {callee:=.builtin .append,args:=#[x,y],argTypes:=#[t,t]},ty,ps,af,gd⟩ e A (.gs E k v m cs) B h (λu r'=>r'=.gs E k u (m+m') (cs++cs')):=by
 intro a w Ev S;have C:w.ownsRow w0.heap.size E k v m cs:=S.ok (.gs E k v m cs) zo1;obtain⟨ad,G,rfl,h1,h2,h3,h4⟩:=hv';have U:∀u O,(Builtin.append_ #[t,t] ty #[v,.slice ad m' G]).run P w=.ok u O->(execOp a.eval ⟨ds,.call {callee:=.builtin .append,args:=#[x,y],argTypes:=#[t,t]},ty,ps,af,gd⟩).run P w=.ok (.value u) O:=by
  intro u O H;simp[execOp,resolve,invoke,builtin,Ev.eval hx,Ev.eval hy,H]
 by_cases hnil:ad=none
 · subst hnil
   have hc:cs'=[]:=by
    cases cs' with
    |nil=>rfl
    |cons c cs'=>obtain⟨b,o,hb,_⟩:=h4 0 zo1;cases hb
   subst hc;have hm:m'=0:=by
    rcases ydi m' with h5|h5
    · exact h5
    · have:=Nat.mul_pos h5 hk
      simp only[lN] at h3;omega
   subst hm;refine⟨v,w,.gs E k v (m+0) (cs++[]),U _ _ ?_,⟨I,I,I,zbe _,λ_ _ _=>I⟩,by simp only[zmi,zli];exact C,λb hb=>.inl hb,I⟩;have ae:(Builtin.firstCells k 0 (.slice none 0 G)).run P w=.ok #[] w:=by simp[Builtin.firstCells]
   rcases C.2 with⟨rfl,rfl⟩|⟨g,cp,cur,rfl,_,_,hnc,_⟩
   · simp[Builtin.append_,run_underlying ht,Go.sizeOf,typeInfo,hi,Builtin.lenOf,Builtin.firstCells]
   · simp[Builtin.append_,run_underlying ht,Go.sizeOf,typeInfo,hi,Builtin.lenOf,Builtin.firstCells,hnc,storeCells]
 · obtain⟨p,rfl⟩:=Option.ne_none_iff_exists'.1 hnil
   have D:∀j u,cs'[j]?=some u->w.cell? (p.add j)=some u:=by
    intro j u hu;obtain⟨hj,_⟩:=zwu.1 hu;obtain⟨b,o,hp,hc⟩:=h4 j hj
    cases hp
    rw[hu] at hc;rw[kA];exact lL S.sub hc
   obtain⟨u,O,H,ho,ab,ac⟩:=run_append_own (P:=P) w w0.heap.size t ty E i z k bytes ht hi hz hsize hby hzs hk v m cs C p m' G cs' h3 D hone (by unfold maxLen;omega) hb' S.below.size;refine⟨u,O,.gs E k u (m+m') (cs++cs'),U _ _ H,ab,ho,λb hb=>?_,I⟩;simp only[Res.fp] at hb ⊢
   by_cases hv:v.ownBlock=some b
   · exact .inl hv
   · right
     rcases zve b w.heap.size with hlt|hge
     · exfalso
       have aa:v.ownBlock=some b\/b=w.heap.size:=by
        have M:=C
        rcases M.2 with⟨rfl,rfl⟩|⟨g,cp,cur,rfl,hbg,hg,hnc,hcm,hcs,htake⟩
        · by_cases hm0:m'=0
          · subst hm0
            have:(Builtin.append_ #[t,t] ty #[.slice none 0 0,.slice (some p) 0 G]).run P w=.ok (.slice none 0 0) w:=by
             simp[Builtin.append_,run_underlying ht,Go.sizeOf,typeInfo,hi,Builtin.lenOf,Builtin.firstCells,loadCells,loadCellsFrom]
            rw[this] at H
            cases H
            simp[Value.ownBlock] at hb
          · have Z:=run_append_nil (P:=P) w t ty E i z ht hi hz p m' G cs' (by rw[hsize];exact h3) D zos zos (by rw[hby];simp only[zvi] at hb';omega)
            rw[Z] at H
            cases H
            simp only[Value.ownBlock,Option.some.injEq] at hb;exact .inr hb.symm
        · by_cases hroom:m+m'<=cp
          · have Z:=run_append_room (P:=P) w t ty E i ht hi g m cp cur hg p m' G cs' (by rw[hsize];exact h3) D hone hroom (by rw[hsize,h3,hcs,<-z2u];exact zfu _ hroom)
            rw[Z] at H
            cases H
            exact .inl hb
          · have J:∀j u,cs[j]?=some u->w.cell? ((⟨g,0,none⟩:Addr).add j)=some u:=C.cells (g:=g) I
            have Z:=run_append_grow (P:=P) w t ty E i z ht hi hz ⟨g,0,none⟩ m cp cs (by rw[hsize];exact C.1) J p m' G cs' (by rw[hsize];exact h3) D zos zos (growslice_fits zos (by rw[hby];exact hb'));rw[Z] at H
            cases H
            simp only[Value.ownBlock,Option.some.injEq] at hb;exact .inr hb.symm
       rcases aa with h5|h5
       · exact hv h5
       · omega
     · exact hge
theorem yDS{k:IntKind}{xs:List Nat}:∀u∈Bk.us k xs,u.oneCell'=true:=by
 intro u C;obtain⟨x,_,rfl⟩:=zti.1 C
 rfl
theorem kD{A B:List Res}{t E:TypeId}{i:TypeInfo}{bytes:Nat}{kd:IntKind}{v v':Value}{xs ys:List Nat}{x y:Operand}(ht:P.underlying t=some (.slice E))(hi:P.info? E=some i)(hz:i.zero=some (.int kd 0))(hsize:i.size=1)(hby:i.bytes=bytes)
    (hx:zM e x=some v)(hy:zM e y=some v')(hv':Us kd h v' ys)(hlen:xs.length+ys.length<9223372036854775808)(hb':(xs.length+ys.length)*bytes<=140737488355328):
    zD5 P n w0 h0 ⟨ds,.call {callee:=.builtin .append,args:=#[x,y],argTypes:=#[t,t]},ty,ps,af,gd⟩ e A (.us E kd v xs) B h (λu r'=>r'=.us E kd u (xs++ys)):=by
 intro a w H S;obtain⟨u,C,r',h1,h2,h3,G,D⟩:=zFH (A:=A) (B:=B) (v:=v) (cs:=Bk.us kd xs) (m:=xs.length) (ds:=ds) (ty:=ty) (ps:=ps) (af:=af) (gd:=gd) ht hi hz hsize hby rfl zos hx hy hv'.sl yDS hlen hb' a w H S;refine⟨u,C,r',h1,h2,h3,G,?_⟩;rw[D];simp[Res.us,Bk.us]
theorem zC6{t E:TypeId}{i:TypeInfo}{z:Value}{parts:Array (Nat×Operand)}{ps':List (Nat×Value)}{m:Nat}{vs:List Value}(ht:P.underlying t=some (.slice E))(hi:P.info? E=some i)(hz:i.zero=some z)(hsize:i.size=1)(hzs:z.cells=#[z])
    (hp:∀a,Env n e a->(parts.map λ(i,x)=>(i,a.eval x)).toList=ps')(hf:Instr.fill (λi=>some (i*1,1)) (Array.replicate m z) ps'=some vs.toArray)(hl:vs.length=m)(hm:m<=16777216):
    nL P n w0 h0 ⟨ds,.buildSlice t m parts,ty,ps,af,gd⟩ e L h (λv r=>r=.gs E 1 v m vs):=by
 intro a w O S;have J:=hp a O;have D:((Array.range (m*1)).map λj=>z.cells[j%z.cells.size]!)=Array.replicate m z:=by
  rw[hzs,z9u]
  apply yqe
  intro j
  by_cases hj:j<m
  · simp[hj,Nat.mod_one]
  · simp[hj]
 refine⟨.slice (some ⟨w.heap.size,0,none⟩) m m,w.alloc (.cells vs.toArray E),.gs E 1 (.slice (some ⟨w.heap.size,0,none⟩) m m) m vs,?_,World.grownBy_alloc w _ none,?_,λb hb=>?_,I⟩
 · have M:¬(m>16777216):=by omega
   simp only[execOp,Instr.buildSlice];rw[show(parts.map λ(i,x)=>(i,a.eval x)).toList=ps' from J]
   by_cases h0:m=0
   · subst h0
     have H:vs=[]:=zof hl;subst H;simp at hf;simp[run_underlying ht,Go.sizeOf,typeInfo,hi,hsize,newRow,newObj,Sem.run,Array.range_zero',hf]
   · have G:(zeroValue E).run P w=.ok z w:=by simp[zeroValue,typeInfo,hi,hz]
     have C:=D;simp only[z9u] at C hf;simp[run_underlying ht,Go.sizeOf,typeInfo,hi,hsize,newRow,h0,M,G,C,hf]
 · have:=World.ownsRow_lit (w:=w) (base:=w0.heap.size) (e:=E) (size:=1) vs.toArray m S.below.size (by unfold maxLen;omega) (by simp[hl])
   exact this
 · simp only[Res.fp,Value.ownBlock,Option.some.injEq] at hb
   omega
theorem zF8{t E:TypeId}{i:TypeInfo}{kd:IntKind}(ht:P.underlying t=some (.slice E))(hi:P.info? E=some i)(hz:i.zero=some (.int kd 0))(hsize:i.size=1):
 nL P n w0 h0 ⟨ds,.buildSlice t 0 #[],ty,ps,af,gd⟩ e L h (λv r=>r=.us E kd v []):=
 zC6 (ps':=[]) (vs:=[]) ht hi hz hsize rfl (λ_ _=>by simp) rfl rfl zos
theorem fI{t E:TypeId}{i:TypeInfo}{kd:IntKind}{x:Operand}{p:Nat}(ht:P.underlying t=some (.slice E))(hi:P.info? E=some i)(hz:i.zero=some (.int kd 0))(hsize:i.size=1)(hx:zM e x=some (vU kd p)):
 nL P n w0 h0 ⟨ds,.buildSlice t 1 #[(0,x)],ty,ps,af,gd⟩ e L h (λv r=>r=.us E kd v [p]):=
 zC6 (ps':=[(0,vU kd p)]) (vs:=[vU kd p]) ht hi hz hsize rfl (λa Ev=>by simp[Ev.eval hx]) rfl rfl zos
theorem zF7{t E:TypeId}{i:TypeInfo}{kd:IntKind}{x y:Operand}{p q:Nat}(ht:P.underlying t=some (.slice E))(hi:P.info? E=some i)(hz:i.zero=some (.int kd 0))(hsize:i.size=1)(hx:zM e x=some (vU kd p))(hy:zM e y=some (vU kd q)):
 nL P n w0 h0 ⟨ds,.buildSlice t 2 #[(0,x),(1,y)],ty,ps,af,gd⟩ e L h (λv r=>r=.us E kd v [p,q]):=
 zC6 (ps':=[(0,vU kd p),(1,vU kd q)]) (vs:=[vU kd p,vU kd q]) ht hi hz hsize rfl (λa Ev=>by simp[Ev.eval hx,Ev.eval hy]) rfl rfl zos
def qW(xs:List Nat):ByteArray:=⟨(xs.map UInt8.ofNat).toArray⟩
theorem zJU{v:Value}{xs:List Nat}{s t E:TypeId}{x:Operand}(hs:P.underlying s=some (.slice E))(he:P.underlying E=some (.int .u8))(ht:P.underlying t=some .string)(hx:zM e x=some v)(hv:Us .u8 h v xs):
 OpV P n w0 h0 ⟨ds,.convert s t x,ty,ps,af,gd⟩ e L h (.string (qW xs)):=by
 intro a w Ev S;obtain⟨U,C,rfl,h1,h2,h3,M⟩:=hv.sl;have H:(convert s t (.slice U xs.length C)).run P w=.ok (.string (qW xs)) w:=by
  by_cases hnil:U=none
  · subst hnil
    have D:xs=[]:=by
     cases xs with
     |nil=>rfl
     |cons c cs=>obtain⟨b,o,hb,_⟩:=M 0 (by simp[Bk.us]);cases hb
    subst D;exact run_convert_bytes_nil (P:=P) (w:=w) s E hs he 0 C t ht
  · obtain⟨p,rfl⟩:=Option.ne_none_iff_exists'.1 hnil
    by_cases D:xs=[]
    · subst D
      show(convert s t (.slice (some p) 0 C)).run P w=_
      rw[run_convert_bytes_string w s t E _ 0 C hs he ht];simp[Conv.bytesToString,loadCells,loadCellsFrom,qW]
      rfl
    · have G:0<xs.length:=List.length_pos_iff.2 D
      obtain⟨b,o,J,_⟩:=M 0 (by simpa[Bk.us] using G)
      cases J
      have h6:=run_convert_bytes_arg (P:=P) w s E hs he b o xs.length C (xs.map λ(x:Nat)=>(x:Int)) zo1 (λi hi=>by
       obtain⟨b',o',J,O⟩:=M i (by simpa[Bk.us] using hi)
       cases J
       rw[zN1 hi] at O;have h7:=lL S.sub O;rw[h7];simp[vU,hi]) t ht
      rw[h6];have Z:strOfNums (xs.map λ(x:Nat)=>(x:Int))=qW xs:=by
       simp only[strOfNums,qW,yuu]
       congr 2
      rw[Z]
 simp[execOp,Ev.eval hx,H]
theorem Us.str_size{xs:List Nat}:(qW xs).size=xs.length:=by simp[qW,ByteArray.size]
theorem zDF{ops:Array Oper}{l:List Oper}{E:Nat}{k:IntKind}(k':GL P n w0 h0 ops Q l e (.us E k (.slice none 0 0) []::L) h):GL P n w0 h0 ops Q l e L h:=by
 intro a w C S;refine k' a w C (S.new (r:=.us E k (.slice none 0 0) []) ⟨I,I,I,zbe _,λ_ _ _=>I⟩ (World.ownsRow_nil w _ _ _) (λb hb=>?_));simp[Res.us,Res.fp,Value.ownBlock] at hb
theorem Us.nil_of{k:IntKind}{h:Mem}{m cap:Nat}{xs:List Nat}(hv:Us k h (.slice none m cap) xs):xs=[]:=by
 obtain⟨a,c,C,_,_,_,D⟩:=hv.sl
 cases C
 cases xs with
 |nil=>rfl
 |cons x xs=>obtain⟨b,o,hb,_⟩:=D 0 (by simp[Bk.us]);cases hb
theorem zJS{s:ByteArray}{t:TypeId}{x y:Operand}{q:Int}(f:Nat->Nat)(i:Nat)(ht:P.underlying t=some .string)(hx:zM e x=some (.string s))(hy:zM e y=some (.int .u8 q))(hq:q=(i:Int))(hf:∀j,(hj:j<s.size)->(s.get j hj).toNat=f j)(hi:i<s.size):
 OpV P n w0 h0 ⟨ds,.index t x y,ty,ps,af,gd⟩ e L h (vU .u8 (f i)):=by
 subst hq;intro a w C S;have h1:s[i]?=some (s.get i hi):=by rw[getElem?_pos s i hi];rfl
 have h2:=hf i hi;simp[execOp,C.eval hx,C.eval hy,Instr.index,asIntOf,vU,run_underlying ht,h1,h2]
theorem zLY{ts:Array TypeId}{x y:Operand}{p q:Int}(hx:zM e x=some (vI p))(hy:zM e y=some (vI q)):OpV P n w0 h0 ⟨ds,.call {callee:=.builtin .max,args:=#[x,y],argTypes:=ts},ty,ps,af,gd⟩ e L h (vI (max p q)):=by
 intro a w C S;have:(if q>p then q else p)=max p q:=by omega
 simp[execOp,resolve,invoke,builtin,C.eval hx,C.eval hy,Builtin.max_,Builtin.max2,vI,List.foldlM,this]
theorem zWE{ts:Array TypeId}{x y:Operand}{p q:Int}(hx:zM e x=some (vI p))(hy:zM e y=some (vI q)):OpV P n w0 h0 ⟨ds,.call {callee:=.builtin .min,args:=#[x,y],argTypes:=ts},ty,ps,af,gd⟩ e L h (vI (min p q)):=by
 intro a w C S;have:(if q<p then q else p)=min p q:=by omega
 simp[execOp,resolve,invoke,builtin,C.eval hx,C.eval hy,Builtin.min_,Builtin.min2,vI,List.foldlM,this]
theorem zWD{k:IntKind}{ts:Array TypeId}{x y:Operand}{p q:Nat}(hx:zM e x=some (vU k p))(hy:zM e y=some (vU k q)):OpV P n w0 h0 ⟨ds,.call {callee:=.builtin .min,args:=#[x,y],argTypes:=ts},ty,ps,af,gd⟩ e L h (vU k (min p q)):=by
 intro a w C S;have:(if q<p then(q:Int) else(p:Int))=((min p q:Nat):Int):=by split<;>omega
 simp only[execOp,resolve,invoke,builtin];simp[C.eval hx,C.eval hy,Builtin.min_,Builtin.min2,vU,List.foldlM,this]
theorem zT0{ops:Array Oper}{l:List Oper}{A B:List Res}{E:Nat}{k:IntKind}{v:Value}{xs:List Nat}(m:Nat)(hm:m<=xs.length)(k':GL P n w0 h0 ops Q l e (A++.us E k (tD 1 v 0 m) (xs.take m)::B) h):GL P n w0 h0 ops Q l e (A++.us E k v xs::B) h:=by
 intro a w M S;have C:=S.ok (.us E k v xs) zo1;refine k' a w M (S.grown (r':=.us E k (tD 1 v 0 m) (xs.take m)) ⟨I,I,I,zbe _,λ_ _ _=>I⟩ ?_ ?_)
 · obtain⟨H,G⟩:=C
   have D:(xs.take m).length=m:=by rw[zei];omega
   refine⟨by simp[Bk.us],?_⟩
   rcases G with⟨rfl,h0'⟩|⟨g,cap,cur,rfl,hb,hg,hn,hcm,hcs,ht⟩
   · have:m=0:=by omega
     subst this;exact .inl ⟨I,by simp⟩
   · right
     refine⟨g,cap,cur,?_,hb,hg,by omega,hcm,hcs,?_⟩
     · rw[D]
       simp only[tD,zvu,ylu,ypi,kA,zmi,ite_self]
     · have J:Bk.us k (xs.take m)=(Bk.us k xs).take m:=by rw[Bk.us,Bk.us,List.map_take]
       rw[D,J,<-ht,List.take_take]
       congr 1
       omega
 · intro b hb
   left
   obtain⟨H,G⟩:=C
   rcases G with⟨rfl,h0'⟩|⟨g,cap,cur,rfl,_⟩
   · simp[Res.us,Res.fp,tD,Value.ownBlock] at hb
   · simpa only[Res.us,Res.fp,tD,Value.ownBlock,zvu,ylu,ypi,kA,zmi,ite_self] using hb
theorem St.own_us{A B:List Res}{E:Nat}{k:IntKind}{v:Value}{xs:List Nat}{w:World}(S:St w0 h0 (A++.us E k v xs::B) h w)(hlt:∀x∈xs,x<ub k):Us k (mem w) v xs:=by
 obtain⟨G,D⟩:=S.ok (.us E k v xs) zo1
 rcases D with⟨rfl,h0'⟩|⟨g,cap,cur,rfl,hb,hg,hn,hm,hcs,ht⟩
 · have C:xs=[]:=zof h0'
   subst C;exact Us.nil _ _
 · refine⟨⟨_,cap,I,hn,hm,G,λi hi=>⟨g,0,I,?_⟩⟩,hlt⟩
   have:(mem w) g=some (.cells cur E):=hg;unfold cell;rw[this];simp only[zvi];rw[<-ht,zmu,zau (by simpa[Bk.us] using hi)];simp
def byt(s:ByteArray):List Nat:=s.data.toList.map UInt8.toNat
section steps
variable {ops:Array Oper}{R:List Res}{d:Nat}{op:Op}
theorem bM{o:Oper}{A B:List Res}{E:Nat}{k:IntKind}{v:Value}{xs:List Nat}{W':List (Nat×Value)->List Res->Mem->Prop}(hlt:∀x∈xs,x<ub k)(hR:∀r∈R,r∈A++.us E k v xs::B->r∈A++B)
    (k':∀h',MLe h h'->Us k h' v xs->jW P n w0 h0 ops R o e (A++B) h' W'):jW P n w0 h0 ops R o e (A++.us E k v xs::B) h W':=by
 intro X a w Ev S;have O:St w0 h0 (A++.us E k v xs::(B++X)) h w:=by simpa using S
 have J:=O.ok (.us E k v xs) zo1;obtain⟨Z,H⟩:=J;have G:∀h',MLe h h'->Us k h' v xs->St w0 h0 (A++(B++X)) h' w->qU P ops o a w (yJT n w0 h0 R e (A++.us E k v xs::B) X h o W'):=by
  intro h' hh U S2;refine(k' h' hh U X a w Ev (by simpa using S2)).mono λu w' ⟨c1,L',h2,c2,c3,c4,c5⟩=>⟨c1,L',h2,hh.trans c2,λC=>c3 λr H=>hR r H (C r H),c4,c5⟩
 rcases H with⟨rfl,h0'⟩|⟨g,cap,cur,rfl,hb,hg,hn,hm,hcs,ht⟩
 · have D:xs=[]:=zof h0'
   subst D;exact G h (MLe.refl h) (Us.nil _ _) O.drop
 · obtain⟨S',M⟩:=O.freeze (b:=g) (o:=.cells cur E (0,0)) I hg
   refine G _ M ⟨⟨_,cap,I,hn,hm,Z,λi hi=>⟨g,0,I,?_⟩⟩,hlt⟩ S';unfold cell;simp only[if_true,zvi];rw[<-ht,zmu,zau (by simpa[Bk.us] using hi)];simp
theorem gV{A B:List Res}{q:Res}{G:Value->Res->Prop}{W':List (Nat×Value)->List Res->Mem->Prop}(hv:∀X,zD5 P n w0 h0 ⟨some d,op,ty,ps,af,none⟩ e A q (B++X) h G)(hn:Nat.ble (d+1) n=true)
    (hR:∀r∈R,∀q',r∈A++q::B->r∈A++q'::B)(k:∀v q',G v q'->W' ((d,v)::e) (A++q'::B) h):jW P n w0 h0 ops R ⟨some d,op,ty,ps,af,none⟩ e (A++q::B) h W':=by
 intro X a w Ev S;have M:St w0 h0 (A++q::(B++X)) h w:=by simpa using S
 unfold qU;rw[zau (wn I)];obtain⟨v,w',q',C,H,D,J,U⟩:=hv X a w Ev M;rw[C];have Z:=M.grown H D J;exact⟨λd' O=>(by cases O;exact zce hn),A++q'::B,h,MLe.refl h,λhh r C=>hR r C q' (hh r C),by simpa using Z,k v q' U⟩
end steps
end
end Bk
namespace Go.Proofs.YtboaboflnckgoaaGreat
open Bk Go Tryz
theorem jV:prog.info? 3=some Tryz.t3:=by kernel_rfl
theorem yCY:prog.info? 4=some Tryz.t4:=by kernel_rfl
theorem zRR:prog.info? 5=some Tryz.t5:=by kernel_rfl
theorem yJB:prog.info? 9=some Tryz.t9:=by kernel_rfl
theorem yGN:prog.info? 22=some Tryz.t22:=by kernel_rfl
theorem yR:prog.info? 26=some Tryz.t26:=by kernel_rfl
theorem jH:prog.info? 32=some Tryz.t32:=by kernel_rfl
theorem tP:prog.info? 34=some Tryz.t34:=by kernel_rfl
theorem lH:prog.info? 46=some Tryz.t46:=by kernel_rfl
theorem yGM:prog.info? 47=some Tryz.t47:=by kernel_rfl
theorem yGL:prog.info? 48=some Tryz.t48:=by kernel_rfl
theorem qC:prog.info? 50=some Tryz.t50:=by kernel_rfl
theorem yO:prog.info? 53=some Tryz.t53:=by kernel_rfl
theorem zGM:prog.info? 54=some Tryz.t54:=by kernel_rfl
theorem eB:prog.info? 56=some Tryz.t56:=by kernel_rfl
theorem yGK:prog.info? 73=some Tryz.t73:=by kernel_rfl
theorem sU:prog.info? 80=some Tryz.t80:=by kernel_rfl
theorem zP3:prog.info? 81=some Tryz.t81:=by kernel_rfl
theorem qJ:prog.info? 83=some Tryz.t83:=by kernel_rfl
theorem zXY:prog.info? 97=some Tryz.t97:=by kernel_rfl
theorem aL:prog.info? 108=some Tryz.t108:=by kernel_rfl
theorem zEW:prog.info? 116=some Tryz.t116:=by kernel_rfl
theorem yBU:prog.info? 117=some Tryz.t117:=by kernel_rfl
theorem vN:prog.info? 127=some Tryz.t127:=by kernel_rfl
theorem zEV:prog.info? 193=some Tryz.t193:=by kernel_rfl
theorem jX:prog.info? 200=some Tryz.t200:=by kernel_rfl
theorem zRS:prog.info? 233=some Tryz.t233:=by kernel_rfl
theorem yCN:(prog.info? 3).map (·.size)=some 1:=by rw[jV];rfl
theorem zU4:(prog.info? 4).map (·.size)=some 1:=by rw[yCY];rfl
theorem yID:(prog.info? 5).map (·.size)=some 1:=by rw[zRR];rfl
theorem yIC:(prog.info? 9).map (·.size)=some 1:=by rw[yJB];rfl
theorem zU5:(prog.info? 22).map (·.size)=some 1:=by rw[yGN];rfl
theorem yC:(prog.info? 26).map (·.size)=some 3:=by rw[yR];rfl
theorem uE{fs:Array Go.Field}(hu:prog.underlying 26=some (.struct fs))(w:Go.World):(fs.mapM λ(f:Go.Field)=>do pure (f.offset,<-Go.sizeOf f.type)).run prog w=.ok #[(0,1),(1,1),(2,1)] w:=by
 rw[underlying26] at hu
 cases hu
 simp[sizeOf4,sizeOf22,sizeOf22]
theorem yE0:(prog.info? 32).map (·.size)=some 1:=by rw[jH];rfl
theorem s8:(prog.info? 34).map (·.size)=some 6:=by rw[tP];rfl
theorem mF{fs:Array Go.Field}(hu:prog.underlying 34=some (.struct fs))(w:Go.World):(fs.mapM λ(f:Go.Field)=>do pure (f.offset,<-Go.sizeOf f.type)).run prog w=.ok #[(0,3),(3,3)] w:=by
 rw[underlying34] at hu
 cases hu
 simp[sizeOf26,sizeOf26]
theorem yEZ:(prog.info? 46).map (·.size)=some 1:=by rw[lH];rfl
theorem yEY:(prog.info? 47).map (·.size)=some 1:=by rw[yGM];rfl
theorem yEX:(prog.info? 48).map (·.size)=some 1:=by rw[yGL];rfl
theorem yEW:(prog.info? 50).map (·.size)=some 3:=by rw[qC];rfl
theorem sN{fs:Array Go.Field}(hu:prog.underlying 50=some (.struct fs))(w:Go.World):(fs.mapM λ(f:Go.Field)=>do pure (f.offset,<-Go.sizeOf f.type)).run prog w=.ok #[(0,1),(1,1),(2,1)] w:=by
 rw[underlying50] at hu
 cases hu
 simp[sizeOf46,sizeOf47,sizeOf48]
theorem yEV:(prog.info? 53).map (·.size)=some 9:=by rw[yO];rfl
theorem yEU:(prog.info? 54).map (·.size)=some 27:=by rw[zGM];rfl
theorem yET:(prog.info? 56).map (·.size)=some 36:=by rw[eB];rfl
theorem zFN{fs:Array Go.Field}(hu:prog.underlying 56=some (.struct fs))(w:Go.World):(fs.mapM λ(f:Go.Field)=>do pure (f.offset,<-Go.sizeOf f.type)).run prog w=.ok #[(0,27),(27,9)] w:=by
 rw[underlying56] at hu
 cases hu
 simp[sizeOf54,sizeOf53]
theorem yES:(prog.info? 73).map (·.size)=some 18:=by rw[yGK];rfl
theorem yER:(prog.info? 80).map (·.size)=some 12:=by rw[sU];rfl
theorem sM{fs:Array Go.Field}(hu:prog.underlying 80=some (.struct fs))(w:Go.World):(fs.mapM λ(f:Go.Field)=>do pure (f.offset,<-Go.sizeOf f.type)).run prog w=.ok #[(0,9),(9,3)] w:=by
 rw[underlying80] at hu
 cases hu
 simp[sizeOf53,sizeOf26]
theorem yEQ:(prog.info? 81).map (·.size)=some 1:=by rw[zP3];rfl
theorem yEP:(prog.info? 83).map (·.size)=some 14:=by rw[qJ];rfl
theorem bP{fs:Array Go.Field}(hu:prog.underlying 83=some (.struct fs))(w:Go.World):(fs.mapM λ(f:Go.Field)=>do pure (f.offset,<-Go.sizeOf f.type)).run prog w=.ok #[(0,12),(12,1),(13,1)] w:=by
 rw[underlying83] at hu
 cases hu
 simp[sizeOf80,sizeOf81,sizeOf9]
theorem yEO:(prog.info? 97).map (·.size)=some 2:=by rw[zXY];rfl
theorem zV7{fs:Array Go.Field}(hu:prog.underlying 97=some (.struct fs))(w:Go.World):(fs.mapM λ(f:Go.Field)=>do pure (f.offset,<-Go.sizeOf f.type)).run prog w=.ok #[(0,1),(1,1)] w:=by
 rw[underlying97] at hu
 cases hu
 simp[sizeOf32,sizeOf3]
theorem yAD:(prog.info? 108).map (·.size)=some 27:=by rw[aL];rfl
theorem yAC:(prog.info? 116).map (·.size)=some 2:=by rw[zEW];rfl
theorem yAB:(prog.info? 117).map (·.size)=some 12:=by rw[yBU];rfl
theorem yAA:(prog.info? 127).map (·.size)=some 1:=by rw[vN];rfl
theorem zZ9:(prog.info? 193).map (·.size)=some 5:=by rw[zEV];rfl
theorem zS6{fs:Array Go.Field}(hu:prog.underlying 193=some (.struct fs))(w:Go.World):(fs.mapM λ(f:Go.Field)=>do pure (f.offset,<-Go.sizeOf f.type)).run prog w=.ok #[(0,1),(1,1),(2,1),(3,1),(4,1)] w:=by
 rw[underlying193] at hu
 cases hu
 simp[sizeOf3,sizeOf3,sizeOf3,sizeOf3,sizeOf3]
theorem zZ8:(prog.info? 200).map (·.size)=some 5:=by rw[jX];rfl
theorem zC0{fs:Array Go.Field}(hu:prog.underlying 200=some (.struct fs))(w:Go.World):(fs.mapM λ(f:Go.Field)=>do pure (f.offset,<-Go.sizeOf f.type)).run prog w=.ok #[(0,1),(1,1),(2,1),(3,1),(4,1)] w:=by
 rw[underlying200] at hu
 cases hu
 simp[sizeOf58,sizeOf3,sizeOf3,sizeOf3,sizeOf3]
theorem zZP:prog.funcs[160]?=some (prog.funcs[160]!):=by kernel_rfl
theorem yJS(x y:Nat)(w:World):(callFunc 160 #[vU .u64 x,vU .u64 y,vU .u64 0]).run prog w=.ok (.value (.tuple #[vU .u64 ((x+y)%18446744073709551616),vU .u64 ((x+y)/18446744073709551616)])) w:=by
 unfold vU;rw[run_callFunc_extern zZP zot zot zot (e:=add64Entry) zot,run_add64 x y (0:Nat) zos zos zos zos];simp only[Result.andThen]
 congr 5<;>omega
theorem yA:prog.follows .mixedOrders=true:=by kernel_rfl
end Go.Proofs.YtboaboflnckgoaaGreat
namespace Bk
def val:List Nat->Nat
  |[]=>0
  |x::xs=>x+4294967296*val xs
def zB(n:Nat):List Nat:=if n=0 then[] else n%4294967296::zB (n/4294967296)
termination_by n
decreasing_by omega
def Fit(xs:List Nat):Prop:=∀x∈xs,x<4294967296
theorem yY:zB 0=[]:=by unfold zB;simp
theorem gD{n:Nat}(h:0<n):zB n=n%4294967296::zB (n/4294967296):=by
 rw[zB,zae zos]
theorem zE(n:Nat):val (zB n)=n:=by
 induction n using Nat.strongRecOn with
 |_ n ih=>
  by_cases h:n=0
  · subst h;simp[yY,val]
  · rw[gD zos,val,ih _ zos];omega
theorem wK(n:Nat):Fit (zB n):=by
 induction n using Nat.strongRecOn with
 |_ n ih=>
  by_cases h:n=0
  · subst h;simp[yY,Fit]
  · rw[gD zos]
    intro x hx
    rcases zfi.1 hx with rfl|hx
    · omega
    · exact ih _ zos x hx
theorem w7{m n:Nat}(h:zB m=zB n):m=n:=by rw[<-zE m,<-zE n,h]
theorem rV{x:Nat}{xs:List Nat}:Fit (x::xs)↔x<4294967296/\Fit xs:=by simp[Fit]
theorem fY{xs:List Nat}(h:Fit xs)(k:Nat):Fit (xs.take k):=λx hx=>h x (zwe hx)
theorem mW{xs:List Nat}(h:Fit xs)(k:Nat):Fit (xs.drop k):=λx hx=>h x (z5e hx)
theorem zB3{xs:List Nat}(hf:Fit xs)(hl:xs=[]\/0<xs.getD (xs.length-1) 0):zB (val xs)=xs:=by
 induction xs with
 |nil=>simp[val,yY]
 |cons x xs ih=>
  have hx:=(rV.1 hf).1;have hxs:=(rV.1 hf).2;have hpos:0<val (x::xs):=by
   by_cases he:xs=[]
   · subst he
     simp at hl;simp[val];omega
   · have hne:0<xs.length:=by cases xs with|nil=>exact absurd rfl he|cons _ _=>simp
     have:0<val xs:=by
      have:=ih hxs (.inr (by
       rcases hl with hl|hl
       · simp at hl
       · have e:(x::xs).length-1=(xs.length-1)+1:=by simp;omega
         rw[e] at hl
         simpa using hl))
      cases hv:val xs with
      |zero=>rw[hv,yY] at this;exact absurd this.symm he
      |succ k=>omega
     simp only[val];omega
  rw[gD hpos];have e1:val (x::xs)%4294967296=x:=by simp only[val];omega
  have e2:val (x::xs)/4294967296=val xs:=by simp only[val];omega
  rw[e1,e2,ih hxs]
  rcases hl with hl|hl
  · simp at hl
  · by_cases he:xs=[]
    · exact .inl he
    · have hne:0<xs.length:=by cases xs with|nil=>exact absurd rfl he|cons _ _=>simp
      have e:(x::xs).length-1=(xs.length-1)+1:=by simp;omega
      rw[e] at hl;exact .inr (by simpa using hl)
theorem rZ(xs ys:List Nat):val (xs++ys)=val xs+4294967296^xs.length*val ys:=by
 induction xs with
 |nil=>simp[val]
 |cons x xs ih=>simp only[ziu,val,ih,lC,zke];rw[yzi,<-yiu,ztu 4294967296 (4294967296^xs.length)];omega
theorem tW(k:Nat):val (List.replicate k 0)=0:=by
 induction k with
 |zero=>rfl
 |succ k ih=>simp[ygu,val,ih]
theorem zCO{xs:List Nat}(h:∀x∈xs,x=0):val xs=0:=by
 induction xs with
 |nil=>rfl
 |cons x xs ih=>
  have:=h x zo1;rw[val,ih λy hy=>h y (by simp[hy])];omega
theorem fQ(xs:List Nat)(k:Nat)(hk:k<=xs.length):val xs=val (xs.take k)+4294967296^k*val (xs.drop k):=by
 have:=rZ (xs.take k) (xs.drop k);rw[yei,zei,zre hk] at this;exact this
theorem gE{xs:List Nat}(h:Fit xs):val xs<4294967296^xs.length:=by
 induction xs with
 |nil=>simp[val]
 |cons x xs ih=>
  have h1:=ih (rV.1 h).2;have h2:=(rV.1 h).1;simp only[val,lC,zke];have:4294967296*(val xs+1)<=4294967296*4294967296^xs.length:=zpu _ h1;rw[ztu (4294967296^xs.length)];omega
theorem tQ(xs:List Nat)(k:Nat)(hk:k<xs.length):xs.drop k=xs.getD k 0::xs.drop (k+1):=by
 rw[z3e hk];simp[hk]
theorem dY(xs:List Nat)(k:Nat)(hk:k<xs.length):xs.take (k+1)=xs.take k++[xs.getD k 0]:=by
 rw[zye hk];simp[hk]
theorem uV(xs:List Nat)(k:Nat)(hk:k<xs.length):val (xs.take (k+1))=val (xs.take k)+4294967296^k*xs.getD k 0:=by
 rw[dY xs k hk,rZ,zei,zre zos];simp[val]
theorem kF(xs:List Nat)(k:Nat)(hk:k<xs.length):val (xs.drop k)=xs.getD k 0+4294967296*val (xs.drop (k+1)):=by
 rw[tQ xs k hk,val]
theorem zHU{xs:List Nat}(hf:Fit xs){k:Nat}(hk:k<=xs.length)(hz:∀i,k<=i->xs.getD i 0=0)(ht:k=0\/xs.getD (k-1) 0≠0):xs.take k=zB (val xs):=by
 have h1:val (xs.drop k)=0:=zCO λx hx=>by
  obtain⟨i,hi,rfl⟩:=yge hx;have:=hz (k+i) zos;simp only[zhe] at hi;rw[zoa,zoc zos] at this
  simpa using this
 have h2:=fQ xs k hk;rw[h1,z7e,zmi] at h2;rw[h2];refine(zB3 (fY hf k) ?_).symm
 by_cases h0:k=0
 · exact .inl (by simp[h0])
 · right
   rcases ht with ht|ht
   · exact absurd ht h0
   · have C:(xs.take k).length=k:=by rw[zei];omega
     rw[C];have:(xs.take k).getD (k-1) 0=xs.getD (k-1) 0:=by
      simp only[zoa];rw[zmu,zau zos]
     rw[this];omega
def sE(s:List Nat)(n:Nat):List Nat:=s++List.replicate (n-s.length) 0
theorem uO{s:List Nat}{n:Nat}(h:s.length<=n):(sE s n).length=n:=by simp[sE];omega
theorem bX{s:List Nat}{n:Nat}(h:s.length=n):sE s n=s:=by simp[sE,h]
theorem pL{s:List Nat}{n:Nat}(h:s.length<n)(y:Nat):(sE s n).set s.length y=sE (s++[y]) n:=by
 unfold sE;rw[yle _ _ (zbe _),yue,lAz,zju];have e:n-s.length=(n-(s.length+1))+1:=by omega
 rw[e,ygu];simp
theorem uC{xs ys:List Nat}(h:Fit xs)(k:Fit ys):Fit (xs++ys):=λx hx=>(zpi.1 hx).elim (h x) (k x)
theorem aM{x:Nat}(h:x<4294967296):Fit [x]:=λy hy=>by simp at hy;omega
theorem rO(s:List Nat)(y:Nat):val (s++[y])=val s+4294967296^s.length*y:=by rw[rZ];simp[val]
theorem qY{xs:List Nat}(h:Fit xs)(i:Nat):xs.getD i 0<4294967296:=by
 by_cases hi:i<xs.length
 · rw[zoa,zoc hi];exact h _ (ynu hi)
 · rw[zoa,zse zos];decide
theorem sW{xs:List Nat}{i:Nat}(h:xs.length<=i):xs.getD i 0=0:=by rw[zoa,zse h];rfl
theorem uK(xs:List Nat)(k:Nat):val (xs.take (k+1))=val (xs.take k)+4294967296^k*xs.getD k 0:=by
 by_cases hk:k<xs.length
 · exact uV xs k hk
 · rw[sW zos,zxu zos,zxu zos];omega
theorem wH{xs:List Nat}{k:Nat}(h:xs.length<=k):val (xs.take k)=val xs:=by rw[zxu h]
def sZ(m n:Nat):Int:=if m<n then -1 else if m=n then 0 else 1
theorem zCD{m n:Nat}(h:m<n):sZ m n= -1:=by simp[sZ,h]
theorem zR6(m:Nat):sZ m m=0:=by simp[sZ]
theorem zCE{m n:Nat}(h:n<m):sZ m n=1:=by
 have h1:¬m<n:=by omega
 have h2:m≠n:=by omega
 simp[sZ,h1,h2]
theorem fZ{m n:Nat}:sZ m n<0↔m<n:=by
 unfold sZ;split
 · simp_all
 · split<;>simp_all
theorem zNI{m n:Nat}:0<sZ m n↔n<m:=by
 unfold sZ;split
 · simp_all;omega
 · split
   · simp_all
   · simp;omega
theorem zDJ{m n:Nat}:sZ m n=0↔m=n:=by
 unfold sZ;split
 · simp;omega
 · split<;>simp_all
theorem zW{m n:Nat}(h:m<=n):(zB m).length<=(zB n).length:=by
 induction n using Nat.strongRecOn generalizing m with
 |_ n ih=>
  by_cases hm:m=0
  · subst hm;simp[yY]
  · rw[gD zos,gD (show 0<n by omega)]
    have:=ih (n/4294967296) zos (Nat.div_le_div_right (c:=4294967296) h);simp only[lC];omega
theorem rY{m n:Nat}(h:(zB m).length<(zB n).length):m<n:=by
 rcases zve m n with h'|h'
 · exact h'
 · have:=zW h';omega
theorem vZ{xs:List Nat}(h:Fit xs):(zB (val xs)).length<=xs.length:=by
 induction xs with
 |nil=>simp[val,yY]
 |cons x xs ih=>
  have h2:=(rV.1 h).1
  by_cases h0:val (x::xs)=0
  · rw[h0,yY];simp
  · rw[gD zos]
    have e:val (x::xs)/4294967296=val xs:=by simp only[val];omega
    rw[e];have:=ih (rV.1 h).2;simp only[lC];omega
theorem uS{n k:Nat}(h:n<4294967296^k):(zB n).length<=k:=by
 induction k generalizing n with
 |zero=>simp at h;subst h;simp[yY]
 |succ k ih=>
  by_cases h0:n=0
  · subst h0;simp[yY]
  · rw[gD zos,lC]
    have:=ih (n:=n/4294967296) (by rw[zke] at h;omega);omega
theorem rK{n k:Nat}(h:k<(zB n).length):4294967296^k<=n:=by
 rcases zve n (4294967296^k) with h'|h'
 · have:=uS h';omega
 · exact h'
theorem zEG{A B:List Nat}(hA:Fit A)(hl:A.length=B.length){j:Nat}(h1:1<=j)(hj:j<=A.length)(hd:A.drop j=B.drop j)(hlt:A.getD (j-1) 0<B.getD (j-1) 0):val A<val B:=by
 have G:=fQ A (j-1) zos;have H:=fQ B (j-1) zos;rw[kF A (j-1) zos] at G;rw[kF B (j-1) zos] at H;have e:j-1+1=j:=by omega
 rw[e] at G H;rw[hd] at G;have D:=gE (fY hA (j-1));rw[zei,zre zos] at D;have C:4294967296^(j-1)*(A.getD (j-1) 0+4294967296*val (B.drop j)+1)<=4294967296^(j-1)*(B.getD (j-1) 0+4294967296*val (B.drop j)):=zpu _ zos;rw[yzi,z9u] at C;omega
def wU(n:Nat):Nat:=if n=0 then 0 else Nat.log2 n+1
theorem zG5:wU 0=0:=rfl
theorem lO{n k:Nat}(h:n<2^k):wU n<=k:=by
 unfold wU
 split
 · omega
 · rename_i h0
   have:=(Nat.log2_lt h0).2 h;omega
theorem zY8{n k:Nat}(h1:2^k<=n)(h2:n<2^(k+1)):wU n=k+1:=by
 have C:0<2^k:=zqu zos;unfold wU;rw[zae zos];have a:=(Nat.log2_lt (n:=n) (k:=k+1) zos).2 h2;have b:¬Nat.log2 n<k:=λD=>by
  have:=(Nat.log2_lt (n:=n) (k:=k) zos).1 D;omega
 omega
theorem aK(n:Nat):n<2^wU n:=by
 unfold wU
 split
 · omega
 · rename_i h0
   exact Nat.lt_log2_self
theorem zBL{n:Nat}(h:n≠0):2^(wU n-1)<=n:=by
 unfold wU;rw[zae h];exact Nat.log2_self_le h
theorem zI4{n:Nat}(h:n≠0):0<wU n:=by unfold wU;rw[zae h];omega
theorem s5{n k r:Nat}(h:n≠0)(hr:r<2^k):wU (n*2^k+r)=wU n+k:=by
 have h1:=zBL h;have h2:=aK n;have h3:=zI4 h;have e:wU n+k=(wU n-1+k)+1:=by omega
 rw[e];refine zY8 ?_ ?_
 · rw[zlu]
   have:=zfu (2^k) h1;omega
 · have C:wU n-1+k+1=wU n+k:=by omega
   rw[C,zlu];have:(n+1)*2^k<=2^wU n*2^k:=zfu _ h2;rw[z2u] at this;omega
theorem zDN{n k:Nat}(h:2^k<=n):wU n=wU (n/2^k)+k:=by
 have C:0<2^k:=zqu zos;have h0:n/2^k≠0:=ymi (Nat.div_pos h C);have e:n=n/2^k*2^k+n%2^k:=(Nat.div_add_mod' n (2^k)).symm;have:=s5 h0 (zcu n C);rw[<-e] at this;exact this
theorem zDM{xs:List Nat}(hf:Fit xs){k:Nat}(hk:k+1=xs.length)(ht:xs.getD k 0≠0):wU (val xs)=32*k+wU (xs.getD k 0):=by
 have e:=fQ xs k zos;rw[kF xs k zos,zle zos] at e;have h1:=gE (fY hf k);rw[zei,zre zos] at h1;have D:(4294967296:Nat)^k=2^(32*k):=by rw[ycu]
 rw[D] at e h1;have:=s5 ht h1;have C:val xs=xs.getD k 0*2^(32*k)+val (xs.take k):=by
  rw[e];simp[val];rw[ztu];omega
 rw[C,this];omega
theorem cF{r x:Nat}(hr:r<4294967296)(hx:x<4294967296):r*2^32%18446744073709551616 |||x=r*4294967296+x:=by
 have e:r*2^32%18446744073709551616=2^32*r:=by omega
 rw[e,<-Nat.two_pow_add_eq_or_of_lt zos];omega
theorem zO5{c x s:Nat}(hc:c<2^s):c |||x*2^s=x*2^s+c:=by
 rw[Nat.or_comm,ztu,<-Nat.two_pow_add_eq_or_of_lt hc]
theorem lW{xs:List Nat}{i:Nat}(hi:i<xs.length)(y:Nat):val (xs.set i y)+4294967296^i*xs.getD i 0=val xs+4294967296^i*y:=by
 have D:=fQ xs i zos;have C:=fQ (xs.set i y) i (by simp;omega);rw[kF xs i hi] at D;rw[kF (xs.set i y) i (by simpa using hi)] at C;have h1:(xs.set i y).take i=xs.take i:=by rw[List.take_set];exact List.set_eq_of_length_le (by rw[zei];omega)
 have h2:(xs.set i y).drop (i+1)=xs.drop (i+1):=by rw[List.drop_set,zau zos]
 have h3:(xs.set i y).getD i 0=y:=by simp[hi]
 rw[h1,h2,h3] at C;rw[D,C];grind
theorem nI{xs:List Nat}(h:Fit xs)(i:Nat){y:Nat}(hy:y<4294967296):Fit (xs.set i y):=by
 intro x hx
 rcases List.mem_or_eq_of_mem_set hx with h1|h1
 · exact h x h1
 · omega
theorem t8{xs:List Nat}{i:Nat}(hi:i<xs.length)(y:Nat):(xs.set i y).getD i 0=y:=by simp[hi]
theorem jB{xs:List Nat}{i j:Nat}(h:i≠j)(y:Nat):(xs.set i y).getD j 0=xs.getD j 0:=by
 simp[zoa,yee h]
theorem jD(n:Nat):Fit (List.replicate n 0):=λx hx=>by rw[List.eq_of_mem_replicate hx];omega
theorem dM(n i:Nat):(List.replicate n 0).getD i 0=0:=by
 rw[zoa,List.getElem?_replicate];split<;>rfl
def fL(j:Nat)(s:List Nat):List Nat:=List.replicate j 0++s
theorem lK(j:Nat):fL j []=List.replicate j 0:=by simp[fL]
theorem bY(s:List Nat):fL 0 s=s:=rfl
theorem jP(j:Nat)(s:List Nat):(fL j s).length=j+s.length:=by simp[fL]
theorem lJ{j:Nat}(h:0<j)(s:List Nat)(y:Nat):(fL j s).set (j-1) y=fL (j-1) (y::s):=by
 obtain⟨k,rfl⟩:∃k,j=k+1:=⟨j-1,by omega⟩;unfold fL;rw[z8e,List.replicate_succ',zhu,yle _ _ zo1];simp
theorem zFA{X Q q r r' x b t:Nat}(h:X=b*Q+r)(ht:t=r*4294967296+x)(hq:q=t/b)(hr:r'=t%b):x+4294967296*X=b*(q+4294967296*Q)+r':=by
 have:t=b*q+r':=by rw[hq,hr];exact(z4i t b).symm
 grind
theorem rI{n:Nat}(h:0<(zB n).length):(zB n).getD ((zB n).length-1) 0≠0:=by
 induction n using Nat.strongRecOn with
 |_ n ih=>
  by_cases h0:n=0
  · subst h0;simp[yY] at h
  · rw[gD zos]
    by_cases h1:(zB (n/4294967296)).length=0
    · have e:zB (n/4294967296)=[]:=zof h1
      rw[e];have:n/4294967296=0:=by rw[<-zE (n/4294967296),e];rfl
      simp;omega
    · have:=ih (n/4294967296) zos zos
      have e:(n%4294967296::zB (n/4294967296)).length-1=((zB (n/4294967296)).length-1)+1:=by simp only[lC];omega
      rw[e]
      simpa using this
theorem zE7{xs:List Nat}(h:Fit xs):xs.take (zB (val xs)).length=zB (val xs):=by
 have J:=vZ h;have e:val (xs.take (zB (val xs)).length)=val xs:=by
  have h1:=fQ xs (zB (val xs)).length J;have h2:val xs<4294967296^(zB (val xs)).length:=by
   have:=gE (wK (val xs))
   rwa [zE] at this
  have h3:val (xs.drop (zB (val xs)).length)=0:=zdu λH=>by
   have:4294967296^(zB (val xs)).length*1<=4294967296^(zB (val xs)).length*val (xs.drop (zB (val xs)).length):=zpu _ zos;omega
  rw[h3] at h1;omega
 have C:(xs.take (zB (val xs)).length).length=(zB (val xs)).length:=by rw[zei];omega
 by_cases h0:(zB (val xs)).length=0
 · rw[h0];simp[zof h0]
 · rw[<-zB3 (fY h _) ?_,e]
   right
   rw[C];refine zfe λhz=>?_;have G:=uV (xs.take (zB (val xs)).length) ((zB (val xs)).length-1) zos;rw[zzu zos,wH zos,e,hz,z7e,zmi] at G;have D:=gE (fY (fY h (zB (val xs)).length) ((zB (val xs)).length-1));rw[<-G,zei,C,zre zos] at D;have M:=uS D;omega
def s3(n:Nat):List Nat:=if n=0 then[] else n%10::s3 (n/10)
termination_by n
decreasing_by omega
theorem eL:s3 0=[]:=by unfold s3;simp
theorem zDI{n:Nat}(h:n≠0):s3 n=n%10::s3 (n/10):=by rw[s3];simp[h]
theorem zT9{n k:Nat}(h:n<10^k):(s3 n).length<=k:=by
 induction k generalizing n with
 |zero=>have:n=0:=by omega
        subst this;simp[eL]
 |succ k ih=>
  by_cases h0:n=0
  · subst h0;simp[eL]
  · rw[zDI h0,lC]
    have:=ih (n:=n/10) (by rw[zke] at h;omega);omega
theorem zYQ(n:Nat):∀d∈s3 n,d<10:=by
 induction n using Nat.strongRecOn with
 |_ n ih=>
  by_cases h0:n=0
  · subst h0;simp[eL]
  · rw[zDI h0]
    intro d hd
    rcases zfi.1 hd with rfl|hd
    · omega
    · exact ih (n/10) zos d hd
theorem zEE{xs:List Nat}(h:Fit xs):(s3 (val xs)).length<=10*xs.length:=by
 refine zT9 (zku (gE h) ?_);rw[ycu];exact Nat.pow_le_pow_left zos _
def j0(n:Nat):List Nat:=(s3 n).map (48+·)
def txt(n:Nat):List Nat:=if n=0 then[48] else(j0 n).reverse
theorem zI2:j0 0=[]:=by simp[j0,eL]
theorem zNK{n:Nat}(h:n≠0):j0 n=(48+n%10)::j0 (n/10):=by rw[j0,zDI h];rfl
theorem zSA(n:Nat):∀d∈j0 n,d<256:=by
 intro d C;obtain⟨x,hx,rfl⟩:=zti.1 C;have:=zYQ n x hx;omega
theorem zNL{xs:List Nat}(h:Fit xs):(j0 (val xs)).length<=10*xs.length:=by rw[j0,zde];exact zEE h
theorem zUB{x n k:Nat}(h:x≠0\/n≠0):j0 (x+10^(k+1)*n)=(48+x%10)::j0 (x/10+10^k*n):=by
 have D:0<10^k:=zqu zos;have e:10^(k+1)*n=10*(10^k*n):=by rw[zke,ztu (10^k) 10,yiu]
 have C:x+10^(k+1)*n≠0:=by
  rcases h with h|h
  · omega
  · have:=Nat.mul_pos (zqu (n:=k+1) (show 0<10 by omega)) (zfe h)
    omega
 rw[zNK C,e,show(x+10*(10^k*n))%10=x%10 by omega,show(x+10*(10^k*n))/10=x/10+10^k*n by omega]
theorem yQ{n:Nat}:0<(zB n).length↔n≠0:=by
 by_cases h:n=0
 · subst h;simp[yY]
 · rw[gD zos];simp[h]
theorem uZ(n:Nat):n<4294967296^(zB n).length:=by
 have:=gE (wK n)
 rwa [zE] at this
theorem yM(m n:Nat):(zB (m*n)).length<=(zB m).length+(zB n).length:=by
 refine uS ?_;rw[zlu]
 rcases ydi n with h|h
 · subst h
   rw[z7e];exact Nat.mul_pos (zqu zos) (zqu zos)
 · exact zku (zte (uZ m) h) (zpu _ (ydu (uZ n)))
theorem uW(m n:Nat):(zB (m+n)).length<=(zB m).length+(zB n).length+1:=by
 refine uS ?_;have h1:=uZ m;have h2:=uZ n;have h3:(4294967296:Nat)^(zB m).length<=4294967296^((zB m).length+(zB n).length):=zii zov zos;have C:(4294967296:Nat)^(zB n).length<=4294967296^((zB m).length+(zB n).length):=zii zov zos;rw[zke];omega
theorem gL{n:Nat}(h:n<18446744073709551616):(zB n).length<=2:=uS h
theorem zQG{x:Nat}(h:x≠0):wU x=wU (x/2)+1:=by
 by_cases h2:2<=x
 · exact zDN (k:=1) h2
 · have:x=1:=by omega
   subst this
   decide
theorem mU(m n:Nat):Nat.gcd n (m%n)=Nat.gcd m n:=by rw[y2u,<-Nat.gcd_rec,y2u]
theorem nF{n:Nat}(h:(zB n).length<=2):n<18446744073709551616:=zku (uZ n) (zii zov h)
theorem zMX{xs:List Nat}(h:Fit xs)(hl:xs.length<=(zB (val xs)).length):zB (val xs)=xs:=by
 have:=zE7 h;rw[zxu hl] at this;exact this.symm
theorem zB4{n i:Nat}(h:4294967296^i<=n):i<(zB n).length:=by
 refine zdu λC=>?_;have h1:=uZ n;have h2:(4294967296:Nat)^(zB n).length<=4294967296^i:=zii zov zos;omega
end Bk
namespace Bk
open Go Go.RowKit
section
variable {P:Program}{n:Nat}{w0:World}{h0:Mem}{e:List (Nat×Value)}{L:List Res}{h:Mem}{Q:Exit->Act->World->Prop}
variable {ds:Option Tmp}{ty:TypeId}{ps:String}{af:Array Edge}{gd:Option (Nat×Bool)}
abbrev Res.var(b:Nat)(E:TypeId)(cs:List Value):Res:=.blk b (.cells cs.toArray E)
abbrev vP(b k:Nat):Value:=.pointer (some ⟨b,k,none⟩)
theorem zIV(w:World)(o:Obj):(w.alloc o).heap[w.heap.size]?=some o:=by
 show(w.heap.push o)[w.heap.size]?=some o
 exact Array.getElem?_push_size
theorem xS{E:TypeId}{x:Operand}{v:Value}{cs:List Value}(hx:zM e x=some v)(hc:v.cells=cs.toArray):
 nL P n w0 h0 ⟨ds,.box E x,ty,ps,af,gd⟩ e L h (λu r=>∃b,u=vP b 0/\r=.var b E cs):=by
 intro a w C S;refine⟨_,w.alloc (.cells cs.toArray E),.var w.heap.size E cs,?_,World.grownBy_alloc w _ none,?_,λb hb=>?_,_,I,I⟩
 · simp[execOp,C.eval hx,Instr.box,newVar,newRow,newObj,Sem.run,hc]
 · exact zIV w _
 · simp only[Res.fp,Option.some.injEq] at hb
   omega
theorem wJ{E:TypeId}{i:TypeInfo}{z:Value}{cs:List Value}(hi:P.info? E=some i)(hz:i.zero=some z)(hc:z.cells=cs.toArray):
 nL P n w0 h0 ⟨ds,.alloc E,ty,ps,af,gd⟩ e L h (λu r=>∃b,u=vP b 0/\r=.var b E cs):=by
 intro a w D S;refine⟨_,w.alloc (.cells cs.toArray E),.var w.heap.size E cs,?_,World.grownBy_alloc w _ none,?_,λb hb=>?_,_,I,I⟩
 · have C:(zeroValue E).run P w=.ok z w:=by simp[zeroValue,typeInfo,hi,hz]
   simp[execOp,Instr.alloc,C,newVar,newRow,newObj,Sem.run,hc]
 · exact zIV w _
 · simp only[Res.fp,Option.some.injEq] at hb
   omega
theorem wN{t:TypeId}{x:Operand}{f b k:Nat}{fs:Array Field}{fl:Field}{m:Nat}(ht:P.underlying t=some (.struct fs))(hf:fs[f]?=some fl)(hsz:∀w,(Go.sizeOf fl.type).run P w=.ok (m+1) w)(hx:zM e x=some (vP b k)):
 OpV P n w0 h0 ⟨ds,.fieldAddr t x f,ty,ps,af,gd⟩ e L h (vP b (k+fl.offset)):=by
 intro a w C S;simp[execOp,C.eval hx,Instr.fieldAt,run_underlying ht,hf,Instr.sureAddr,fieldPlace,hsz,kA]
theorem dU{b:Nat}{E:TypeId}{cs:List Value}{w:World}(hw:w.heap[b]?=some (.cells cs.toArray E))(k:Nat)(vs:List Value)(hv:(cs.drop k).take vs.length=vs):w.rangeAt b k vs:=by
 intro j v D;have C:j<vs.length:=(zwu.1 D).1;have h1:cs[k+j]?=some v:=by
  rw[<-hv,zmu,zau C,zxi] at D;exact D
 unfold World.cell?;simp[hw,h1]
theorem iT{t:TypeId}{x:Operand}{b k:Nat}{E:TypeId}{cs:List Value}{v:Value}(hm:.var b E cs∈L)(ha:∀w,(isAgg t).run P w=.ok false w)(hx:zM e x=some (vP b k))(hv:cs[k]?=some v):
 OpV P n w0 h0 ⟨ds,.load t x,ty,ps,af,gd⟩ e L h v:=by
 intro a w G S;have C:w.heap[b]?=some (.cells cs.toArray E):=S.ok _ hm;have D:w.cell? ⟨b,k,none⟩=some v:=by unfold World.cell?;simp[C,hv]
 simp[execOp,G.eval hx,Instr.loadAt,Instr.sureAddr,loadVar,ha,Go.load,Sem.run,D]
theorem zL0{t:TypeId}{x:Operand}{b k:Nat}{E:TypeId}{cs vs:List Value}{d:TypeDesc}(hm:.var b E cs∈L)(hu:P.underlying t=some d)(hd:d.isRow=true)(hi:(P.info? t).map (·.size)=some vs.length)(hx:zM e x=some (vP b k))(hv:(cs.drop k).take vs.length=vs):
 OpV P n w0 h0 ⟨ds,.load t x,ty,ps,af,gd⟩ e L h (.agg vs.toArray):=by
 intro a w D S;have C:w.heap[b]?=some (.cells cs.toArray E):=S.ok _ hm;simp only[execOp,D.eval hx];rw[Sem.run_bind,run_loadAt_mid w b k t vs d (dU C k vs hv) hu hd hi]
 rfl
theorem oG{b:Nat}{E:TypeId}:∀(vs:List Value) (k:Nat) (cs:List Value) (w:World),w.heap[b]?=some (.cells cs.toArray E)->
 (w.setCells b k vs).heap[b]?=some (.cells (vs.zipIdx.foldl (λc p=>c.set (k+p.2) p.1) cs).toArray E)/\w.grownBy (w.setCells b k vs) (some b)
 |[],k,cs,w,hw=>⟨hw,⟨rfl,rfl,rfl,zbe _,λ_ _ _=>rfl⟩⟩
 |v::r,k,cs,w,hw=>by
  have h1:(w.setCell ⟨b,k,none⟩ v).heap[b]?=some (.cells (cs.set k v).toArray E):=by
   simp[World.setCell,Array.getElem?_modify,hw]
  obtain⟨h2,h3⟩:=oG r (k+1) (cs.set k v) _ h1;have M:((v::r).zipIdx.foldl (λc p=>c.set (k+p.2) p.1) cs)=(r.zipIdx.foldl (λc p=>c.set (k+1+p.2) p.1) (cs.set k v)):=by
   rw[yfe,zyu,zmi,List.zipIdx_succ,List.foldl_map]
   congr 1
   funext c p
   rw[show k+(p.2+1)=k+1+p.2 by omega]
  refine⟨?_,?_⟩
  · rw[World.setCells,M];exact h2
  · have H:b<w.heap.size:=(zne.1 hw).1
    refine⟨?_,?_,?_,?_,?_⟩
    · exact h3.os
    · exact h3.tape
    · exact h3.output
    · have:=h3.size
      simpa[World.setCells,World.setCell] using this
    · intro G D C
      have J:=h3.block G (by simpa[World.setCell] using D) C;rw[World.setCells,J];have:b≠G:=λhh=>C (by rw[hh]);simp[World.setCell,Array.getElem?_modify,this]
def j5(cs:List Value)(k:Nat)(vs:List Value):List Value:=vs.zipIdx.foldl (λc p=>c.set (k+p.2) p.1) cs
theorem zJ{A B:List Res}{E t:TypeId}{b k:Nat}{cs vs:List Value}{v:Value}{x y:Operand}(hx:zM e x=some (vP b k))(hy:zM e y=some v)(hv:v.cells=vs.toArray)(h1:vs.all (·.oneCell')=true)
    (hi:(P.info? t).map (·.size)=some vs.length)(hk:k+vs.length<=cs.length):Upd P n w0 h0 ⟨ds,.store t x y,ty,ps,af,gd⟩ e A (.var b E cs) B h (.var b E (j5 cs k vs)):=by
 intro a w M S;have H:w.heap[b]?=some (.cells cs.toArray E):=S.ok (.var b E cs) zo1;obtain⟨h2,h3⟩:=oG vs k cs w H;refine⟨w.setCells b k vs,?_,h3,h2⟩;have C:w.there b k vs.length:=by
  intro j G;have:k+j<cs.length:=by omega
  refine⟨?_,?_⟩
  · unfold World.cell?
    simp[H,this]
  · simp[World.frozen?,H]
 have D:=run_storeCells_cells (P:=P) b k vs 0 w (λj G=>by simpa using(C j G).1) (λj G=>by simpa using(C j G).2) (λu O=>zob.1 h1 u O);have J:(Go.sizeOf t).run P w=.ok vs.length w:=by
  cases hq:P.info? t with
  |none=>simp[hq] at hi
  |some i=>
   have:i.size=vs.length:=by simpa[hq] using hi
   simp[Go.sizeOf,typeInfo,hq,this]
 simp only[zmi] at D;simp[execOp,M.eval hx,M.eval hy,Instr.storeAt,Instr.sureAddr,storeVar,J,hv,D]
def eU(e:List (Nat×Value)):List (Nat×Operand)->List (Nat×Value)->Prop
  |[],[]=>True
  |(i,x)::r,(j,v)::s=>i=j/\zM e x=some v/\eU e r s
  |_,_=>False
theorem eU.eval{a:Act}(Ev:Env n e a):∀{ps:List (Nat×Operand)} {vs:List (Nat×Value)},eU e ps vs->(ps.map λp=>(p.1,a.eval p.2))=vs
  |[],[],_=>rfl
  |(i,x)::r,(j,v)::s,h=>by
   obtain⟨rfl,h2,h3⟩:=h;rw[zxe,eU.eval Ev h3,Ev.eval h2]
  |[],_::_,h=>h.elim
  |_::_,[],h=>h.elim
theorem Us.oneCell{k:IntKind}{v:Value}{xs:List Nat}(s:Us k h v xs):v.oneCell'=true:=by
 obtain⟨_,_,rfl⟩:=s.one
 rfl
theorem Us.cells{k:IntKind}{v:Value}{xs:List Nat}(s:Us k h v xs):v.cells=[v].toArray:=by
 obtain⟨_,_,rfl⟩:=s.one
 rfl
theorem oc0:([]:List Value).all (·.oneCell')=true:=rfl
theorem ocu{k:IntKind}{h:Mem}{v:Value}{xs:List Nat}{cs:List Value}(s:Us k h v xs)(r:cs.all (·.oneCell')=true):(v::cs).all (·.oneCell')=true:=by
 rw[List.all_cons,s.oneCell,r];rfl
theorem ocr{v:Value}{cs:List Value}(s:v.oneCell'=true)(r:cs.all (·.oneCell')=true):(v::cs).all (·.oneCell')=true:=by
 rw[List.all_cons,s,r];rfl
theorem zOD:∀(cs B A C:List Value),cs.length=B.length->(cs.zipIdx.foldl (λ(a:Array Value) (p:Value×Nat)=>a.setIfInBounds (A.length+p.2) p.1) (A++B++C).toArray)=(A++cs++C).toArray:=by
 have key:∀(cs B A C:List Value) (k:Nat) (A0:Nat),A.length=A0+k->cs.length=B.length->((cs.zipIdx k).foldl (λ(a:Array Value) (p:Value×Nat)=>a.setIfInBounds (A0+p.2) p.1) (A++B++C).toArray)=(A++cs++C).toArray:=by
  intro cs
  induction cs with
  |nil=>
   intro B A C k A0 hA hB;have:B=[]:=zof hB.symm;subst this;rfl
  |cons c cs ih=>
   intro B A C k A0 hA hB
   cases B with
   |nil=>simp at hB
   |cons b B=>
    have e:(A++b::B++C).toArray.setIfInBounds (A0+k) c=((A++[c])++B++C).toArray:=by
     rw[<-hA];simp[List.set_append]
    rw[yfe,zyu]
    show List.foldl _ ((A++b::B++C).toArray.setIfInBounds (A0+k) c) _=_
    rw[e,ih B (A++[c]) C (k+1) A0 (by simp;omega) (by simpa using hB)];simp
 intro cs B A C h;exact key cs B A C 0 A.length I h
theorem xN{place:Nat->Option (Nat×Nat)}{i off size:Nat}{A B C cs:List Value}{v:Value}{rest:List (Nat×Value)}{r:Option (Array Value)}(hp:place i=some (off,size))(hA:A.length=off)(hB:B.length=size)(hs:cs.length=size)(hc:v.cells=cs.toArray)
    (k:Instr.fill place (A++cs++C).toArray rest=r):Instr.fill place (A++B++C).toArray ((i,v)::rest)=r:=by
 subst hA;have h1:v.cells.size=size:=by rw[hc];simpa using hs
 have h3:(decide (v.cells.size≠size)||decide (A.length+v.cells.size>(A++B++C).toArray.size))=false:=by
  rw[h1];simp;omega
 simp only[Instr.fill,hp];rw[h3,zae zov,hc,<-Array.foldl_toList,Array.toList_zipIdx,zOD cs B A C zos];exact k
theorem uT{place:Nat->Option (Nat×Nat)}{vs:List Value}:Instr.fill place vs.toArray []=some vs.toArray:=rfl
theorem yV{t:TypeId}{i:TypeInfo}{z:Value}{fs:Array Field}{places:Array (Nat×Nat)}{parts:List (Nat×Operand)}{ps':List (Nat×Value)}{vs:List Value}(ht:P.underlying t=some (.struct fs))(hi:P.info? t=some i)(hz:i.zero=some z)
    (hpl:∀w,(fs.mapM λ(f:Field)=>do pure (f.offset,<-Go.sizeOf f.type)).run P w=.ok places w)(hp:eU e parts ps')(hf:Instr.fill (places[·]?) z.cells ps'=some vs.toArray):
    OpV P n w0 h0 ⟨ds,.build t parts.toArray,ty,ps,af,gd⟩ e L h (.agg vs.toArray):=by
 intro a w G S;have D:(parts.toArray.map λ(p:Nat×Operand)=>(p.1,a.eval p.2)).toList=ps':=by
  rw[z0u];exact hp.eval G
 have C:(zeroValue t).run P w=.ok z w:=by simp[zeroValue,typeInfo,hi,hz]
 simp only[execOp,Instr.build];rw[show(parts.toArray.map λ(i,x)=>(i,a.eval x)).toList=ps' from D];simp only[Sem.run_bind,C,Result.andThen_ok,run_underlying ht,hpl,hf]
 rfl
def zFG(tmps:Array Value):ResultVar->Sem Value
  | .tmp t=>pure (tmps.getD t undef)
  | .cell a t=>do loadVar t (<-asAddr (tmps.getD a undef))
def RV(P:Program)(n:Nat)(w0:World)(h0:Mem)(r:ResultVar)(e:List (Nat×Value))(L:List Res)(h:Mem)(v:Value):Prop:=∀a w,Env n e a->St w0 h0 L h w->(zFG a.tmps r).run P w=.ok v w
theorem qQ{t:Nat}{v:Value}(hv:zM e (.tmp t)=some v):RV P n w0 h0 (.tmp t) e L h v:=by
 intro a w E S;have:=E.eval hv;simp only[Act.eval] at this;simp[zFG,this]
theorem xR{t:Nat}{T E:TypeId}{b:Nat}{cs:List Value}{d:TypeDesc}(hm:.var b E cs∈L)(hu:P.underlying T=some d)(hd:d.isRow=true)(hi:(P.info? T).map (·.size)=some cs.length)(hx:zM e (.tmp t)=some (vP b 0)):RV P n w0 h0 (.cell t T) e L h (.agg cs.toArray):=by
 intro a w D S;have C:w.heap[b]?=some (.cells cs.toArray E):=S.ok _ hm;have:=D.eval hx;simp only[Act.eval] at this;have h2:=run_loadVar_mid (P:=P) w b 0 T cs d (dU C 0 cs zo1) hu hd hi;simp[zFG,this,asAddr,h2]
theorem zDW(fn:Func)(tmps:Array Value):results fn tmps=(do let vs <-fn.results.mapM (zFG tmps);pure (if h:vs.size=1 then vs[0] else .tuple vs)):=by
 unfold results
 congr 1
section
variable {fn:Func}{r1 r2 r3 r4:ResultVar}{v1 v2 v3 v4:Value}{R:Mem->Value->Prop}{RO:Mem->Value->List Res->Prop}
theorem zS(hr:fn.results=#[r1])(h1:RV P n w0 h0 r1 e L h v1){a:Act}{w:World}(Ev:Env n e a)(S:St w0 h0 L h w):(results fn a.tmps).run P w=.ok v1 w:=by
 simp[zDW,hr,h1 a w Ev S]
theorem vG(hr:fn.results=#[r1,r2])(h1:RV P n w0 h0 r1 e L h v1)(h2:RV P n w0 h0 r2 e L h v2){a:Act}{w:World}(Ev:Env n e a)(S:St w0 h0 L h w):(results fn a.tmps).run P w=.ok (.tuple #[v1,v2]) w:=by
 simp[zDW,hr,h1 a w Ev S,h2 a w Ev S]
theorem yI{v:Value}(hres:∀{a:Act} {w:World},Env n e a->St w0 h0 L h w->(results fn a.tmps).run P w=.ok v w)(hR:R h v):GQ n w0 h0 (bodyPost P fn (Ret w0 h0 R)) .ret e L h:=by
 intro a w E S;exact bodyPost_ret (hres E S) E.defers ⟨_,h,I,hR,S.sublist (zru _)⟩
theorem fK{v:Value}(hres:∀{a:Act} {w:World},Env n e a->St w0 h0 L h w->(results fn a.tmps).run P w=.ok v w)(hR:RO h v L):GQ n w0 h0 (bodyPost P fn (rA w0 h0 RO)) .ret e L h:=by
 intro a w E S;exact bodyPost_ret (hres E S) E.defers ⟨_,h,L,I,hR,S⟩
end
end
end Bk
namespace Bk
theorem eF(xs:List Nat)(j k:Nat):(xs.drop j).getD k 0=xs.getD (j+k) 0:=by
 rw[zoa,zxi,<-zoa]
theorem kB{xs:List Nat}(h:Fit xs)(j:Nat):val (xs.drop j)=val xs/4294967296^j:=by
 by_cases hj:j<=xs.length
 · have h1:=fQ xs j hj
   have h2:=gE (fY h j);rw[zei,zre hj] at h2;rw[h1,yoi _ _ (zqu zos),z0e h2,zvi]
 · rw[zle zos,z0e (zku (gE h) (zii zos zos))]
   rfl
theorem eY{xs:List Nat}{k:Nat}(h:val xs<4294967296^k){i:Nat}(hi:k<=i):xs.getD i 0=0:=by
 by_cases hl:i<xs.length
 · refine zdu λC=>?_
   have h1:=fQ xs i zos;have h2:=kF xs i hl;have h3:4294967296^k<=4294967296^i:=zii zos hi;have D:4294967296^i*1<=4294967296^i*val (xs.drop i):=zpu _ zos;omega
 · exact sW zos
theorem zE1{xs:List Nat}(hf:Fit xs){J n:Nat}(h:val (xs.drop J)<4294967296^n):val xs<4294967296^(J+n):=by
 rw[kB hf] at h;have:=Nat.lt_mul_of_div_lt h (zqu zos);rw[zlu,ztu];exact this
theorem iG{xs:List Nat}(hf:Fit xs){k:Nat}(h:∀i,k<=i->xs.getD i 0=0):val xs<4294967296^k:=by
 by_cases hk:k<=xs.length
 · have h1:=fQ xs k hk
   have h2:=gE (fY hf k);rw[zei,zre hk] at h2;have h3:val (xs.drop k)=0:=zCO λx hx=>by
    obtain⟨i,hi,rfl⟩:=yge hx;have:=h (k+i) zos;rw[<-eF,zoa,zoc hi] at this
    simpa using this
   rw[h3,z7e] at h1;omega
 · exact zku (gE hf) (zii zos zos)
theorem zQN{xs:List Nat}{n:Nat}(hn:2<=n)(hl:xs.length=n):val xs=(xs.getD (n-1) 0*4294967296+xs.getD (n-2) 0)*4294967296^(n-2)+val (xs.take (n-2)):=by
 obtain⟨k,rfl⟩:∃k,n=k+2:=⟨n-2,by omega⟩;have h1:val xs=val (xs.take (k+1+1)):=(wH zos).symm;rw[h1,uK,uK];simp only[z8e,show k+2-1=k+1 by omega,zke];generalize 4294967296^k=p;generalize (4294967296:Nat)=B;grind
theorem zSK(B p q0 a b c v3 v2 v1 P1 P2:Nat)(e1:P1=p*B)(e2:P2=P1*B)(h1:v3=v2+P2*a)(h2:v2=v1+P1*b)(h3:v1=q0+p*c):v3=((a*B+b)*B+c)*p+q0:=by
 subst e2 e1 h1 h2 h3;grind
theorem zZT{ys:List Nat}{m:Nat}(hz:∀i,m<=i->ys.getD i 0=0):val ys=val (ys.take m):=by
 by_cases hl:m<=ys.length
 · have h1:=fQ ys m hl
   have h3:val (ys.drop m)=0:=zCO λx hx=>by
    obtain⟨i,hi,rfl⟩:=yge hx;have:=hz (m+i) zos;rw[<-eF,zoa,zoc hi] at this
    simpa using this
   rw[h3,z7e,zmi] at h1;exact h1
 · exact(wH zos).symm
theorem zHS{xs:List Nat}{j n:Nat}(hn:2<=n)(hz:∀i,j+n<i->xs.getD i 0=0)(hf:Fit xs):
 ∃w,val (xs.drop j)=((xs.getD (j+n) 0*4294967296+xs.getD (j+n-1) 0)*4294967296+xs.getD (j+n-2) 0)*4294967296^(n-2)+w/\w<4294967296^(n-2):=by
 obtain⟨k,rfl⟩:∃k,n=k+2:=⟨n-2,by omega⟩;rw[z8e,show j+(k+2)-1=j+(k+1) by omega,show j+(k+2)-2=j+k by omega];refine⟨val ((xs.drop j).take k),?_,?_⟩
 · have h0:val (xs.drop j)=val ((xs.drop j).take (k+3)):=zZT λi hi=>by rw[eF];exact hz _ zos
   have h1:=uK (xs.drop j) (k+2);have h2:=uK (xs.drop j) (k+1);have h3:=uK (xs.drop j) k;rw[eF] at h1 h2 h3;exact h0.trans (zSK _ _ _ _ _ _ _ _ _ _ _ (zke _ _) (zke _ _) h1 h2 h3)
 · have:=gE (fY (mW hf j) k)
   refine zku this (zii zov ?_);simp[zei];omega
section est
variable {V W P v1 v2 vr top u3 wr x rest:Nat}
theorem zNA(hV:V=(v1*4294967296+v2)*P+vr)(hW:W=(top*4294967296+u3)*P+wr)(hu:u3<4294967296)(hw:wr<P)(h1:0<v1):W<(top/v1+1)*V:=by
 have h2:top<v1*(top/v1+1):=yxi top h1;have h3:(top+1)*4294967296<=v1*(top/v1+1)*4294967296:=zfu _ h2;have G:(top*4294967296+u3+1)*P<=v1*(top/v1+1)*4294967296*P:=zfu _ zos;have D:(top/v1+1)*V=v1*(top/v1+1)*4294967296*P+(top/v1+1)*(v2*P+vr):=by rw[hV];generalize (4294967296:Nat)=B;grind
 have C:(top*4294967296+u3+1)*P=(top*4294967296+u3)*P+P:=by generalize (4294967296:Nat)=B;grind
 omega
theorem yB4(hV:V=(v1*4294967296+v2)*P+vr)(hW:W=(top*4294967296+u3)*P+wr)(hw:wr<P)(ht:x*v1+rest=top)(hb:rest*4294967296+u3<x*v2):W<x*V:=by
 have h1:(rest*4294967296+u3+1)*P<=x*v2*P:=zfu _ hb;have h2:x*V=x*v1*4294967296*P+x*v2*P+x*vr:=by rw[hV];generalize (4294967296:Nat)=B;grind
 have h3:(top*4294967296+u3)*P=x*v1*4294967296*P+(rest*4294967296+u3)*P:=by rw[<-ht];generalize (4294967296:Nat)=B;grind
 have C:(rest*4294967296+u3+1)*P=(rest*4294967296+u3)*P+P:=by generalize (4294967296:Nat)=B;grind
 omega
theorem zYH(hV:V=(v1*4294967296+v2)*P+vr)(hW:W=(top*4294967296+u3)*P+wr)(hr:vr<P)(h1:0<v1)(ht:x*v1+rest=top)(hx:x<4294967296)(hb:x*v2<=rest*4294967296+u3):x*V<W+V:=by
 have h2:x*v2*P<=(rest*4294967296+u3)*P:=zfu _ hb;have h3:x*V=x*v1*4294967296*P+x*v2*P+x*vr:=by rw[hV];generalize (4294967296:Nat)=B;grind
 have J:(top*4294967296+u3)*P=x*v1*4294967296*P+(rest*4294967296+u3)*P:=by rw[<-ht];generalize (4294967296:Nat)=B;grind
 have C:0<P:=by omega
 have H:x*vr<4294967296*P:=by
  have:=z6e (show x<=4294967295 by omega) (show vr<=P by omega);omega
 have G:1*(4294967296*P)<=v1*(4294967296*P):=zfu _ h1;have D:V=v1*(4294967296*P)+(v2*P+vr):=by rw[hV];generalize (4294967296:Nat)=B;grind
 omega
theorem yB3(hV:V=(v1*4294967296+v2)*P+vr)(hW:W=(top*4294967296+u3)*P+wr)(hr:vr<P)(h2:v2<4294967296)(hWV:W<4294967296*V):top<=v1*4294967296+4294967295:=by
 refine zdu λC=>?_;have h3:(v1*4294967296+4294967296)*(4294967296*P)<=top*(4294967296*P):=zfu _ zos;have J:(v1*4294967296+v2+1)*P<=(v1*4294967296+4294967296)*P:=zfu _ zos;have H:(top*4294967296+u3)*P=top*(4294967296*P)+u3*P:=by generalize (4294967296:Nat)=B;grind
 have G:(v1*4294967296+v2+1)*P=(v1*4294967296+v2)*P+P:=by generalize (4294967296:Nat)=B;grind
 have D:(v1*4294967296+4294967296)*(4294967296*P)=4294967296*((v1*4294967296+4294967296)*P):=by generalize (4294967296:Nat)=B;grind
 omega
theorem zI0(hV:V=(v1*4294967296+v2)*P+vr)(hW:W=(top*4294967296+u3)*P+wr)(hr:vr<P)(h2:v2<4294967296)(ht:x*v1+rest=top)(hre:4294967296<=rest)(htop:top<=v1*4294967296+4294967295)(h1:0<v1):x<4294967296/\x*V<=W:=by
 have hx:x<4294967296:=by
  refine zdu λD=>?_;have:4294967296*v1<=x*v1:=zfu _ zos;omega
 refine⟨hx,?_⟩;have h3:x*V=x*v1*4294967296*P+x*(v2*P+vr):=by rw[hV];generalize (4294967296:Nat)=B;grind
 have M:(top*4294967296+u3)*P=x*v1*4294967296*P+(rest*4294967296)*P+u3*P:=by rw[<-ht];generalize (4294967296:Nat)=B;grind
 have C:v2*P+vr<=4294967296*P:=by
  have:=zfu P (show v2+1<=4294967296 by omega);generalize (4294967296:Nat)=B at *;grind
 have J:x*(v2*P+vr)<=4294967296*(4294967296*P):=z6e zos C;have H:4294967296*4294967296*P<=rest*4294967296*P:=zfu _ (zfu _ hre);have G:4294967296*(4294967296*P)=4294967296*4294967296*P:=by generalize (4294967296:Nat)=B;grind
 omega
end est
theorem zFF{us ts:List Nat}{j x V:Nat}(hf:Fit us)(hft:Fit ts)(h:val ts+4294967296^j*(x*V)=val us)(hx:val (us.drop j)<(x+1)*V):val (ts.drop j)<V:=by
 have C:0<4294967296^j:=zqu zos;rw[kB hf,<-h,yoi _ _ C,<-kB hft,z2u] at hx;omega
theorem zS0{us ts rs:List Nat}{j n x V b o:Nat}(hf:Fit us)(hfr:Fit rs)(ht:val ts<4294967296^(j+n+1))(hr:val rs<4294967296^(j+n+1))(hb:b=1)(h:val ts+4294967296^j*(x*V)=val us+4294967296^(j+n+1)*b)
    (hx:x*V<val (us.drop j)+V)(ho:val rs+4294967296^(j+n+1)*o=val ts+4294967296^j*V)(ho1:o<=1):0<x/\val rs+4294967296^j*((x-1)*V)=val us/\val (rs.drop j)<V:=by
 subst hb;have M:0<4294967296^j:=zqu zos;have h1:val us<4294967296^j*(x*V):=by omega
 have H:val (us.drop j)<x*V:=by
  rw[kB hf];exact z3i h1
 have G:0<x:=zfe λh0=>by rw[h0,zvu] at H;omega
 obtain⟨y,rfl⟩:∃y,x=y+1:=⟨x-1,by omega⟩;rw[z8e];have J:(y+1)*V=y*V+V:=by rw[z2u,yfi]
 have U:4294967296^j*((y+1)*V)=4294967296^j*(y*V)+4294967296^j*V:=by rw[J,yzi]
 have h2:4294967296^j*(y*V)<=val us:=by
  have h3:4294967296^j*(y*V)<=4294967296^j*val (us.drop j):=zpu _ zos;have O:4294967296^j*val (us.drop j)<=val us:=by rw[kB hf];exact Nat.mul_div_le _ _
  omega
 have C:o=1:=by
  rcases ydi o with h0|h0
  · subst h0;omega
  · omega
 subst C;have D:val rs+4294967296^j*(y*V)=val us:=by omega
 exact⟨by omega,D,zFF hf hfr D zos⟩
theorem zF5{Y k s:Nat}(hY:Y≠0)(hk:k+1=(zB Y).length)(hs:s=32-wU ((zB Y).getD k 0)):s<32/\(zB (Y*2^s)).length=k+1/\2147483648<=(zB (Y*2^s)).getD k 0:=by
 have U:=wK Y;have C:(zB Y).getD k 0≠0:=by
  have:=rI (n:=Y) zos
  rwa [show(zB Y).length-1=k by omega] at this
 have hb:=zDM U hk C;rw[zE] at hb;have ab:=zI4 C;have aa:=lO (n:=(zB Y).getD k 0) (k:=32) (qY U k);have H:=zBL hY;have M:=aK Y;have e1:(4294967296:Nat)^k*2147483648=2^(32*k+31):=by rw[zlu,ycu]
 have e2:(4294967296:Nat)^(k+1)=2^(32*k+32):=by rw[zke,zlu,ycu]
 have O:4294967296^k*2147483648<=Y*2^s:=by
  rw[e1,show 32*k+31=(wU Y-1)+s by omega,zlu];exact zfu _ H
 have D:Y*2^s<4294967296^(k+1):=by
  rw[e2,show 32*k+32=wU Y+s by omega,zlu];exact zte M (zqu zos)
 have J:=uS D;have G:=wK (Y*2^s);have Z:(zB (Y*2^s)).length=k+1:=by
  refine Nat.le_antisymm J (zdu λhc=>?_);have h1:=gE G;rw[zE] at h1;have h2:(4294967296:Nat)^(zB (Y*2^s)).length<=4294967296^k:=zii zos zos;omega
 refine⟨by omega,Z,zdu λhc=>?_⟩;have h1:=uK (zB (Y*2^s)) k;rw[wH zos,zE] at h1;have h2:=gE (fY G k);rw[zei,zre zos] at h2;have h3:4294967296^k*((zB (Y*2^s)).getD k 0+1)<=4294967296^k*2147483648:=zpu _ zos;rw[yzi,z9u] at h3;omega
theorem zZI(c:Nat):c&&&4294967295=c%4294967296:=Nat.and_two_pow_sub_one_eq_mod c 32
theorem zT6{X Y la k s:Nat}{us:List Nat}(hf:Fit us)(hX:X<4294967296^la)(hus:val us=X*2^s)(hk:k<=la)(hY:4294967296^k<=Y):val (us.drop (la-k))<Y*2^s:=by
 rw[kB hf,hus];refine z3i ?_;rw[<-yiu];refine zte (zku hX ?_) (zqu zos);rw[show la=(la-k)+k by omega,zlu,show la-k+k-k=la-k by omega];exact zpu _ hY
theorem zR3{X Y s u q:Nat}(hY:0<Y)(h:u+q*(Y*2^s)=X*2^s)(hu:u<Y*2^s):q=X/Y/\u/2^s=X%Y:=by
 have C:0<2^s:=zqu zos;have h1:u=(X-q*Y)*2^s:=by
  rw[yye,yiu];omega
 have h2:q*Y<=X:=by
  refine Nat.le_of_mul_le_mul_right (c:=2^s) ?_ C;rw[yiu];omega
 have h3:X-q*Y<Y:=by
  refine Nat.lt_of_mul_lt_mul_right (a:=2^s) ?_;omega
 have D:X=q*Y+(X-q*Y):=by omega
 refine⟨?_,?_⟩
 · generalize X-q*Y=r at *
   rw[D,ztu q Y,Nat.mul_add_div hY,z0e h3];omega
 · rw[h1,Nat.mul_div_cancel _ C]
   generalize X-q*Y=r at *;rw[D,ztu q Y,Nat.mul_add_mod,zoh h3]
theorem zB9{x v r t:Nat}(h:x*v+r=t)(hx:1<=x):(x-1)*v+(r+v)=t:=by
 obtain⟨y,rfl⟩:∃y,x=y+1:=⟨x-1,by omega⟩;rw[z2u,yfi] at h;rw[z8e];omega
theorem yG1{x v r t:Nat}(h:x*v+r=t)(ht:t<=v*4294967296+4294967295)(hv:2147483648<=v):x<=4294967297:=by
 refine zdu λC=>?_;have:=zfu v (show 4294967298<=x by omega);omega
theorem yBC{B p q vt vt' vu x yT Y X y' c b c' b' l:Nat}(h:vt+p*(x*yT)=vu+p*q*(c+b))(h1:vt'+p*q*X=vt+p*q*y')(e1:y'+l+b=X+B*b')(e2:B*c'+l=c+x*Y):vt'+p*(x*(yT+q*Y))=vu+p*q*B*(c'+b'):=by grind
theorem yFR{B p q vt vt' vu xV X y' c b b':Nat}(h:vt+p*xV=vu+p*q*(c+b))(h1:vt'+p*q*X=vt+p*q*y')(e1:y'+c+b=X+B*b'):vt'+p*xV=vu+p*q*B*b':=by grind
theorem yCI{B p q vt vt' vu yT Y X y' c c':Nat}(h:vt+p*q*c=vu+p*yT)(h1:vt'+p*q*X=vt+p*q*y')(e:B*c'+y'=c+(X+Y)):vt'+p*q*B*c'=vu+p*(yT+q*Y):=by grind
theorem yH1{B p q vt vt' vu V X y' c c':Nat}(h:vt+p*q*c=vu+p*V)(h1:vt'+p*q*X=vt+p*q*y')(e:B*c'+y'=X+c):vt'+p*q*B*c'=vu+p*V:=by grind
theorem yFC{B p vu vr vq x V U:Nat}(h:vu+p*B*(vq*V)=U)(h2:vr+p*(x*V)=vu):vr+p*((x+B*vq)*V)=U:=by grind
theorem zEH{xs:List Nat}(h:xs.length=1):val xs=xs.getD 0 0:=by
 match xs,h with
 |[x],_=>simp[val]
def iA(s:Nat)(xs:List Nat)(i:Nat):Nat:=val (xs.drop i)/2^s%4294967296
def iL(s:Nat)(xs:List Nat)(i:Nat):List Nat:=(List.range i).map (iA s xs)++xs.drop i
theorem zH0(s:Nat)(xs:List Nat):iL s xs 0=xs:=by simp[iL]
theorem uY{s:Nat}{xs:List Nat}{i:Nat}(h:i<=xs.length):(iL s xs i).length=xs.length:=by simp[iL];omega
theorem zBA{s:Nat}{xs:List Nat}{i k:Nat}(h:i<=k):(iL s xs i).getD k 0=xs.getD k 0:=by
 rw[zoa,iL,you (by simpa using h),zde,y1u,zxi,<-zoa,show i+(k-i)=k by omega]
theorem zA9{s:Nat}{xs:List Nat}{i:Nat}(h:i<xs.length):(iL s xs i).set i (iA s xs i)=iL s xs (i+1):=by
 rw[iL,iL,yle _ _ zo1,zde,y1u,yue,tQ xs i h,List.range_succ];simp
theorem zQS(s:Nat)(xs:List Nat)(i:Nat):iA s xs i<4294967296:=zcu _ zos
theorem zM9{s:Nat}{xs:List Nat}{i:Nat}(h:Fit xs):Fit (iL s xs i):=uC (λx hx=>by obtain⟨k,_,rfl⟩:=zti.1 hx;exact zQS s xs k) (mW h i)
theorem j3{s:Nat}{xs:List Nat}(hf:Fit xs)(i:Nat):val ((List.range i).map (iA s xs))=val xs/2^s%4294967296^i:=by
 induction i with
 |zero=>simp[val,Nat.mod_one]
 |succ i ih=>
  rw[List.range_succ,z2i,List.map_singleton,rO,ih,zde,y1u,zke,Nat.mod_mul,iA,kB hf,ysi,ysi,ztu (2^s)]
theorem zK4{s:Nat}{xs:List Nat}(hf:Fit xs):val (iL s xs xs.length)=val xs/2^s:=by
 rw[iL,zle (zbe _),zli,j3 hf];exact zoh (yji (zki _ _) (gE hf))
theorem zH1{xs:List Nat}{i:Nat}(hf:Fit xs)(h:i<xs.length):iA 0 xs i=xs.getD i 0:=by
 have:=qY hf i;rw[iA,kF xs i h,yvi,z2e];omega
theorem zH2{s:Nat}{xs:List Nat}{i:Nat}(hf:Fit xs)(h:i+1=xs.length):iA s xs i=xs.getD i 0/2^s:=by
 have h1:=qY hf i;rw[iA,kF xs i zos,zle zos]
 show(xs.getD i 0+4294967296*0)/2^s%4294967296=_
 rw[z7e,zmi];exact zoh (yji (zki _ _) h1)
theorem zQR{s:Nat}{xs:List Nat}{i:Nat}(hf:Fit xs)(hs:s<=32)(h:i+1<xs.length):xs.getD i 0/2^s |||xs.getD (i+1) 0*2^(32-s)%4294967296=iA s xs i:=by
 have h1:=qY hf i;have e:(4294967296:Nat)=2^s*2^(32-s):=by rw[<-zlu,show s+(32-s)=32 by omega]
 have C:0<2^s:=zqu zos;have h2:xs.getD i 0/2^s<2^(32-s):=z3i (by rw[<-e];exact h1);have h3:xs.getD (i+1) 0*2^(32-s)%4294967296=(xs.getD (i+1) 0%2^s)*2^(32-s):=by
  conv=>lhs;rw[e]
  rw[Nat.mul_mod_mul_right]
 rw[h3,zO5 h2,iA,kF xs i zos,kF xs (i+1) h];generalize xs.getD i 0=a at *;generalize xs.getD (i+1) 0=b at *;generalize val (List.drop (i+1+1) xs)=c at *;have O:(a+4294967296*(b+4294967296*c))/2^s=a/2^s+2^(32-s)*(b+4294967296*c):=by
  conv=>lhs;rw[show a+4294967296*(b+4294967296*c)=a+2^s*(2^(32-s)*(b+4294967296*c)) by rw[<-yiu,<-e]]
  rw[yoi _ _ C]
 have M:2^(32-s)*(b+4294967296*c)=2^(32-s)*(b%2^s)+4294967296*(b/2^s+2^(32-s)*c):=by
  have J:=z4i b (2^s)
  conv=>lhs;rw[<-J]
  generalize b/2^s=p at *;generalize b%2^s=r at *;rw[e];generalize 2^s=u;generalize 2^(32-s)=v;grind
 have H:a/2^s+2^(32-s)*(b%2^s)<4294967296:=by
  have G:b%2^s<2^s:=zcu _ C;have D:2^(32-s)*(b%2^s+1)<=2^(32-s)*2^s:=zpu _ G;rw[ztu (2^(32-s)) (2^s),<-e] at D;rw[yzi] at D;omega
 rw[O,M,<-z3u,Nat.add_mul_mod_self_left,zoh H,ztu];omega
def hor(bs:List Nat):Nat:=bs.foldl (λa b=>10*a+(b-48)) 0
theorem zA2(n:Nat):(txt n).length<=10*(zB n).length+1:=by
 unfold txt
 by_cases h:n=0
 · rw[zau h];simp
 · rw[zae h,yxu]
   have:=zNL (wK n);rw[zE] at this;omega
theorem yDU(n:Nat):∀x∈txt n,x<256:=by
 unfold txt
 by_cases h:n=0
 · rw[zau h];simp
 · rw[zae h];intro x hx;exact zSA n x (List.mem_reverse.1 hx)
def shN(X:Nat)(n:Int):Nat:=if 16384<n then 0 else if 0<=n then X*2^n.toNat else X/2^(-n).toNat
def shE(n:Int):Int:=if 16384<n then 2 else 0
theorem zJH{X:Nat}{n:Int}(h:¬16384<n)(h0:0<=n):shN X n=X*2^n.toNat:=by rw[shN,zae h,zau h0]
theorem zFB{X:Nat}{n:Int}(h0:¬0<=n):shN X n=X/2^(-n).toNat:=by rw[shN,zae zos,zae h0]
theorem zCB{X k:Nat}(h:32*(zB X).length<=k):X/2^k=0:=by
 refine z0e (zku (uZ X) ?_);rw[show(4294967296:Nat)=2^32 by decide,<-ycu];exact zii zov h
theorem s0(X k s:Nat):X/4294967296^k/2^s=X/2^(32*k+s):=by
 rw[ysi,zlu,ycu]
theorem nQ(X k s:Nat):4294967296^k*(X*2^s)=X*2^(32*k+s):=by
 rw[zlu,ycu];grind
theorem zU6{s:Nat}{xs:List Nat}{i:Nat}(hs:s<=32)(h:i<xs.length):(xs.getD i 0+4294967296*xs.getD (i+1) 0)/2^s%4294967296=iA s xs i:=by
 have e:(4294967296:Nat)=2^s*2^(32-s):=by rw[<-zlu,show s+(32-s)=32 by omega]
 have C:0<2^s:=zqu zos;rw[iA,kF xs i h]
 by_cases h2:i+1<xs.length
 · rw[kF xs (i+1) h2]
   generalize xs.getD i 0=a;generalize xs.getD (i+1) 0=b;generalize val (List.drop (i+1+1) xs)=c;have D:a+4294967296*(b+4294967296*c)=(a+4294967296*b)+2^s*(4294967296*(2^(32-s)*c)):=by
    have:4294967296*(4294967296*c)=2^s*(4294967296*(2^(32-s)*c)):=by
     conv=>lhs;lhs;rw[e]
     generalize 2^s=u;generalize 2^(32-s)=v;generalize (4294967296:Nat)=B;grind
    omega
   rw[D,yoi _ _ C,Nat.add_mul_mod_self_left]
 · rw[sW (xs:=xs) (i:=i+1) zos,zle zos]
   rfl
theorem zST{s:Nat}{xs:List Nat}(hf:Fit xs):val ((List.range xs.length).map (iA s xs))=val xs/2^s:=by
 rw[j3 hf];exact zoh (yji (zki _ _) (gE hf))
theorem zG4(n:Nat):wU n<=32*(zB n).length:=by
 refine lO ?_;rw[ycu];exact uZ n
theorem zMW{X:Nat}(hX:X≠0)(k:Nat):List.replicate k 0++zB X=zB (X*4294967296^k):=by
 have C:val (List.replicate k 0++zB X)=X*4294967296^k:=by rw[rZ,tW,lR,zE,zvi,ztu]
 have D:Fit (List.replicate k 0++zB X):=uC (jD _) (wK _);rw[<-C,zMX D];rw[C,lAz,lR];have G:=yQ.2 hX;have h1:=rK (n:=X) (k:=(zB X).length-1) zos;have h2:4294967296^(k+((zB X).length-1))<=X*4294967296^k:=by
  rw[zlu,ztu];exact zfu _ h1
 have h3:=zB4 h2;omega
theorem kM{t:Nat}(h0:t≠0)(h:t<4294967296):zB t=[t]:=by
 rw[gD zos,zoh h,z0e h,yY]
theorem zPZ{Y:Nat}(h:0<(zB Y).length):(zB Y).drop ((zB Y).length-1)=zB ((zB Y).getD ((zB Y).length-1) 0):=by
 rw[kM (rI h) (qY (wK Y) _),tQ _ _ zos,zle zos]
theorem zHL(X k:Nat):(zB (X*4294967296^k)).length<=(zB X).length+k:=by
 refine uS ?_;rw[zlu];exact zte (uZ X) (zqu zov)
theorem zVZ{V W P v1 v2 vr top u3 wr:Nat}(hV:V=(v1*4294967296+v2)*P+vr)(hW:W=(top*4294967296+u3)*P+wr)(hu:u3<4294967296)(hw:wr<P)(h1:0<v1)(hWV:W<4294967296*V):W<(min (top/v1) 4294967295+1)*V:=by
 by_cases h:top/v1<=4294967295
 · rw[zre h];exact zNA hV hW hu hw h1
 · rw[Nat.min_eq_right zos];exact hWV
theorem zTR{R k m V:Nat}(h:R/4294967296^k<m*V):R<V*m*4294967296^k:=by
 have:=Nat.lt_mul_of_div_lt h (zqu zov);rw[ztu V m];exact this
theorem zVY{R V k:Nat}(h:R<4294967296^(k+1)*V):R/4294967296^k<4294967296*V:=by
 refine z3i ?_;rw[zke,yiu] at h;exact h
theorem yAL{B p R q d V U:Nat}(h:R+p*B*(q*V)=U)(hle:V*d*p<=R):R-V*d*p+p*((d+B*q)*V)=U:=by
 obtain⟨t,rfl⟩:∃t,R=V*d*p+t:=⟨R-V*d*p,by omega⟩;rw[Nat.add_sub_cancel_left];grind
theorem yIJ{R V d p:Nat}(h:R<V*(d+1)*p)(hle:V*d*p<=R):R-V*d*p<p*V:=by
 have:V*(d+1)*p=V*d*p+p*V:=by grind
 omega
theorem yAM{V d p:Nat}(h:1<=d):V*d*p-V*p=V*(d-1)*p/\V*p<=V*d*p:=by
 obtain⟨e,rfl⟩:∃e,d=e+1:=⟨d-1,by omega⟩;have:V*(e+1)*p=V*e*p+V*p:=by grind
 rw[z8e];omega
theorem zOK{U V r n:Nat}(hU:U<4294967296^r)(hV:4294967296^(n-1)<=V)(hn:1<=n)(hr:n<=r):U<4294967296^(r-n+1)*V:=by
 refine zku hU ?_;have h1:(4294967296:Nat)^r=4294967296^(r-n+1)*4294967296^(n-1):=by rw[<-zlu,show r-n+1+(n-1)=r by omega]
 rw[h1];exact zpu _ hV
end Bk
