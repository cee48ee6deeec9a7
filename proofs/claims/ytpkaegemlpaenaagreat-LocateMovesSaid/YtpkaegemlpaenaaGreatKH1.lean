/- Texts that the proof needs, part 1. -/
import Derived.WalkKit
import Derived.WalkSpells
import Derived.WalkLawsBesides
import Derived.Laws.AppendOwnNone
import Derived.Still
import Derived.Test.YtpkaegemlpaenaaGreatProg
import Derived.KernelRfl
import Derived.Laws.Externs
import Derived.Deep.MidRow
set_option linter.unusedVariables false
set_option linter.unusedSimpArgs false
set_option linter.defProp false
namespace Bk
theorem I {α : Sort _} {a : α} : a = a := rfl
theorem lAz{α:Type _}{a b:List α}:(a++b).length=a.length+b.length:=List.length_append
theorem lR{α:Type _}{n:Nat}{a:α}:(List.replicate n a).length=n:=List.length_replicate
theorem lC{α:Type _}{a:α}{l:List α}:(a::l).length=l.length+1:=List.length_cons
theorem lN{α:Type _}:([]:List α).length=0:=List.length_nil
theorem lS{α:Type _}{l:List α}{i:Nat}{a:α}:(l.set i a).length=l.length:=List.length_set
theorem bL{n m:Nat}(h:Nat.ble n m=true):n<=m:=Nat.le_of_ble_eq_true h
theorem nX{α:Type _}{p:α->Prop}:∀x∈([]:List α),p x:=λ_ hx=>by cases hx
theorem e2z{α0 α1:Type}{a0:α0}{a1:α1}:a0=a0/\a1=a1/\True:=⟨rfl,rfl,trivial⟩
theorem e3z{α0 α1 α2:Type}{a0:α0}{a1:α1}{a2:α2}:a0=a0/\a1=a1/\a2=a2/\True:=⟨rfl,rfl,rfl,trivial⟩
theorem e4z{α0 α1 α2 α3:Type}{a0:α0}{a1:α1}{a2:α2}{a3:α3}:a0=a0/\a1=a1/\a2=a2/\a3=a3/\True:=⟨rfl,rfl,rfl,rfl,trivial⟩
theorem e5z{α0 α1 α2 α3 α4:Type}{a0:α0}{a1:α1}{a2:α2}{a3:α3}{a4:α4}:a0=a0/\a1=a1/\a2=a2/\a3=a3/\a4=a4/\True:=⟨rfl,rfl,rfl,rfl,rfl,trivial⟩
theorem e6{α0 α1 α2 α3 α4 α5:Type}{a0:α0}{a1:α1}{a2:α2}{a3:α3}{a4:α4}{a5:α5}:a0=a0/\a1=a1/\a2=a2/\a3=a3/\a4=a4/\a5=a5/\True:=⟨rfl,rfl,rfl,rfl,rfl,rfl,trivial⟩
theorem e7{α0 α1 α2 α3 α4 α5 α6:Type}{a0:α0}{a1:α1}{a2:α2}{a3:α3}{a4:α4}{a5:α5}{a6:α6}:a0=a0/\a1=a1/\a2=a2/\a3=a3/\a4=a4/\a5=a5/\a6=a6/\True:=⟨rfl,rfl,rfl,rfl,rfl,rfl,rfl,trivial⟩
theorem e8{α0 α1 α2 α3 α4 α5 α6 α7:Type}{a0:α0}{a1:α1}{a2:α2}{a3:α3}{a4:α4}{a5:α5}{a6:α6}{a7:α7}:a0=a0/\a1=a1/\a2=a2/\a3=a3/\a4=a4/\a5=a5/\a6=a6/\a7=a7/\True:=⟨rfl,rfl,rfl,rfl,rfl,rfl,rfl,rfl,trivial⟩
theorem e12{α0 α1 α2 α3 α4 α5 α6 α7 α8 α9 α10 α11:Type}{a0:α0}{a1:α1}{a2:α2}{a3:α3}{a4:α4}{a5:α5}{a6:α6}{a7:α7}{a8:α8}{a9:α9}{a10:α10}{a11:α11}:a0=a0/\a1=a1/\a2=a2/\a3=a3/\a4=a4/\a5=a5/\a6=a6/\a7=a7/\a8=a8/\a9=a9/\a10=a10/\a11=a11/\True:=⟨rfl,rfl,rfl,rfl,rfl,rfl,rfl,rfl,rfl,rfl,rfl,rfl,trivial⟩
theorem zoa{α:Type _}{l:List α}{i:Nat}{a:α}:l.getD i a=l[i]?.getD a:=List.getD_eq_getElem?_getD
theorem zob{α:Type _}{p:α->Bool}{l:List α}:l.all p=true↔∀x,x∈l->p x=true:=List.all_eq_true
theorem zoc{α:Type _}{l:List α}{i:Nat}(h:i<l.length):l[i]?=some l[i]:=List.getElem?_eq_getElem h
theorem zod{a b:Rat}:0<=a->0<=b->0<=a*b:=Rat.mul_nonneg
theorem zoe{a b:Rat}:a*b=0↔a=0\/b=0:=Rat.mul_eq_zero
theorem zof{α:Type _}{l:List α}:l.length=0->l=[]:=List.eq_nil_of_length_eq_zero
theorem zog{m n:Nat}:m∈List.range n↔m<n:=List.mem_range
theorem zoh{a b:Nat}:a<b->a%b=a:=Nat.mod_eq_of_lt
theorem zoi:1*5<=16777216:=by decide
theorem zoj:1*1<=16777216:=by decide
theorem zok:1*9<=16777216:=by decide
theorem zol:3*9<=16777216:=by decide
theorem zom:1*14<=16777216:=by decide
theorem zon:4*1<=16777216:=by decide
theorem zoo:3*1<=16777216:=by decide
theorem zop:8*1<=16777216:=by decide
theorem zoq:2*1<=16777216:=by decide
theorem zor:6*1<=16777216:=by decide
theorem zos:1*19<=16777216:=by decide
theorem zot{p:Prop}(h:p:=by omega):p:=h
theorem zou{p:Prop}(h:p:=by kernel_rfl):p:=h
theorem zov{p:Prop}(h:p:=by first|omega|(simp only[lAz,lC,lN,List.length_drop,List.length_take];omega)):p:=h
theorem zow{p:Prop}(h:p:=by first|omega|exact Nat.zero_le _):p:=h
theorem zox{p:Prop}(h:p:=by decide):p:=h
theorem zoy{p:Prop}(h:p:=by first|(simp;done)|grind):p:=h
theorem zoz{p:Prop}(h:p:=by (simp only[Nat.reduceAdd,Nat.reduceMul,Nat.zero_add,Nat.add_zero,Nat.zero_mul])<;>exact I):p:=h
theorem zo0{p:Prop}(h:p:=by grind):p:=h
theorem zo1{p:Prop}(h:p:=by simp only[lAz,lC,lN];omega):p:=h
theorem zo2{p:Prop}(h:p:=by simp only;grind):p:=h
theorem zo3{p:Prop}(h:p:=by simp):p:=h
theorem zo4{p:Prop}(h:p:=by assumption):p:=h
theorem zo5{p:Prop}(h:p:=by rfl):p:=h
theorem zo6{p:Prop}(h:p:=by first|omega|(simp only[lN];omega)):p:=h
theorem zo7{p:Prop}(h:p:=by first|omega|(simp only[lAz,List.length_drop,List.length_take,lN];omega)):p:=h
theorem zo8{p:Prop}(h:p:=by simp only[List.length_singleton,lAz,lR];omega):p:=h
theorem zo9{p:Prop}(h:p:=by simp only[List.length_singleton];omega):p:=h
theorem yoa{p:Prop}(h:p:=by first|(simp;done)|grind|(simp only[List.append_eq,List.nil_append];grind)):p:=h
theorem zau{c:Prop}{h:Decidable c}(i:c){α:Sort _}{t e:α}:ite c t e=t:=if_pos i
theorem zae{c:Prop}{h:Decidable c}(i:¬c){α:Sort _}{t e:α}:ite c t e=e:=if_neg i
theorem zbi{α:Sort _}{β:Sort _}{a b:α}(f:α->β)(h:a=b):f a=f b:=congrArg f h
theorem zbu(a b:Bool):((a&&b)=true)=(a=true/\b=true):=Bool.and_eq_true a b
theorem zbe(n:Nat):n<=n:=Nat.le_refl n
theorem zci{a b c:Nat}(h:a<=b)(i:b<=c):a<=c:=Nat.le_trans h i
theorem zcu(a:Nat){b:Nat}(h:b>0):a%b<b:=Nat.mod_lt a h
theorem zce{n m:Nat}(h:Nat.ble n m=true):n<=m:=Nat.le_of_ble_eq_true h
theorem zdi{p:Prop}(h:¬¬p):p:=Classical.not_not.1 h
theorem zdu{p:Prop}(h:¬p->False):p:=Classical.byContradiction h
theorem zde{α:Type _}{β:Type _}{l:List α}(f:α->β):(l.map f).length=l.length:=List.length_map f
theorem zei{α:Type _}{i:Nat}{l:List α}:(l.take i).length=min i l.length:=List.length_take
theorem zeu(a b:Nat):((a*b:Nat):Int)=a*b:=Int.natCast_mul a b
theorem zee{a b:Rat}(h:a<b):a<=b:=Rat.le_of_lt h
def zfi:=@Classical.not_not
def zfu:=@List.mem_cons
def zfe:=@decide_eq_true_iff
def zgi:=@Nat.mul_le_mul_right
def zgu:=@decide_eq_false_iff_not
def zge:=@List.not_mem_nil
def zhi:=@decide_eq_true_eq
def zhu:=@Nat.lt_succ_iff_lt_or_eq
def zhe:=@List.nil_append
def zii:=@Nat.pos_of_ne_zero
def ziu:=@List.length_drop
def zie:=@Array.getD_eq_getD_getElem?
def zji:=@Rat.intCast_mul
def zju:=@Nat.pow_le_pow_right
def zje:=@Bool.not_eq_true'
def zki:=@List.append_assoc
def zku:=@List.cons_append
def zke:=@List.length_singleton
def zli:=@Rat.intCast_add
def zlu:=@List.mem_map
def zle:=@List.map_append
def zmi:=@List.Sublist.refl
def zmu:=@List.mem_append
def zme:=@Nat.lt_of_lt_of_le
def zni:=@Nat.pow_succ
def znu:=@List.drop_of_length_le
def zne:=@Nat.pow_add
def zpi:=@Nat.add_zero
def zpu:=@Array.getElem?_eq_some_iff
def zpe:=@List.getElem?_take
def zqi:=@List.append_nil
def zqu:=@Rat.intCast_inj
def zqe:=@List.mem_append_left
def zri:=@List.contains_eq_mem
def zru:=@Rat.intCast_sub
def zre:=@List.getElem?_eq_none
def zsi:=@Nat.mul_le_mul_left
def zsu:=@Rat.mul_lt_mul_of_pos_right
def zse:=@List.nil_sublist
def zti:=@Nat.div_le_self
def ztu:=@Nat.min_eq_left
def zte:=@Nat.lt_or_ge
def zui:=@List.mem_singleton
def zuu:=@Nat.zero_le
def zue:=@List.take_succ_eq_append_getElem
def zvi:=@List.getElem?_map
def zvu:=@List.take_of_length_le
def zve:=@List.mem_append_right
def zwi:=@Nat.pow_pos
def zwu:=@List.map_cons
def zwe:=@Nat.zero_mul
def zxi:=@List.getElem?_eq_some_iff
def zxu:=@List.getElem?_drop
def zxe:=@Bool.or_eq_true
def zyi:=@Nat.zero_add
def zyu:=@Nat.mul_comm
def zye:=@Nat.not_lt
def zzi:=@Nat.sub_add_cancel
def zzu:=@Rat.natCast_mul
def zze:=@Rat.mul_le_mul_of_nonneg_right
def z0i:=@Nat.not_lt_zero
def z0u:=@Rat.den_nz
def z0e:=@List.map_toArray
def z1i:=@Nat.div_eq_of_lt
def z1u:=@Rat.intCast_lt_intCast
def z1e:=@Int.toNat_natCast
def z2i:=@Array.getElem?_setIfInBounds
def z2u:=@Nat.add_mul
def z2e:=@List.mem_of_mem_take
def z3i:=@List.mem_cons_of_mem
def z3u:=@Nat.div_lt_of_lt_mul
def z3e:=@Nat.add_assoc
def z4i:=@Nat.div_one
def z4u:=@of_decide_eq_true
def z4e:=@List.drop_eq_getElem_cons
def z5i:=@Nat.mul_ne_zero
def z5u:=@List.lookup_cons
def z5e:=@Nat.add_sub_cancel
def z6i:=@List.take_length
def z6u:=@Rat.div_mul_cancel
def z6e:=@Nat.mul_one
def z7i:=@List.mem_of_mem_drop
def z7u:=@Nat.mul_le_mul
def z7e:=@List.mem_filter
def z8i:=@Nat.div_add_mod
def z8u:=@Nat.mul_lt_mul_of_pos_right
def z8e:=@Rat.intCast_neg
def z9i:=@Nat.mul_zero
def z9u:=@List.pairwise_cons
def z9e:=@List.drop_drop
def yai:=@List.pairwise_append
def yau:=@Array.setIfInBounds_comm
def yae:=@List.foldl_cons
def ybi:=@List.take_append_of_le_length
def ybu:=@List.getElem?_cons_succ
def ybe:=@List.getElem_mem
def yci:=@List.perm_middle
def ycu:=@List.drop_zero
def yce:=@Array.getElem?_eq_none
def ydi:=@Rat.mul_pos
def ydu:=@Nat.sub_zero
def yde:=@List.length_replicate
def yei:=@List.take_append_drop
def yeu:=@Bool.eq_iff_iff
def yee:=@Int.tdiv_eq_ediv_of_nonneg
def yfi:=@List.set_eq_take_append_cons_drop
def yfu:=@List.zipIdx_cons
def yfe:=@Nat.le_of_not_lt
def ygi:=@List.replicate_succ
def ygu:=@List.getElem_of_mem
def yge:=@List.map_congr_left
def yhi:=@Array.getElem?_setIfInBounds_ne
def yhu:=@Nat.gcd_pos_of_pos_left
def yhe:=@Nat.mul_assoc
def yii:=@Nat.eq_zero_or_pos
def yiu:=@Nat.sub_le
def yie:=@Nat.gcd_zero_right
def yji:=@Nat.one_ne_zero
def yju:=@Rat.intCast_pos
def yje:=@List.drop_append_of_le_length
def yki:=@Rat.mul_le_mul_of_nonneg_left
def yku:=@List.length_range
def yke:=@List.set_append_right
def yli:=@Nat.le_of_lt
def ylu:=@Int.mul_nonneg
def yle:=@List.take_length_add_append
def ymi:=@List.getElem?_set_ne
def ymu:=@Nat.add_mul_div_left
def yme:=@Nat.zero_lt_succ
def yni:=@List.getElem?_append_right
def ynu:=@Nat.pow_mul
def yne:=@Nat.one_mul
def yoi:=@Rat.one_mul
def you:=@List.mem_map_of_mem
def yoe:=@Option.map_some
def ypi:=@List.getElem?_append_left
def ypu:=@Array.any_eq_true'
def ype:=@Array.size_setIfInBounds
def yqi:=@Array.ext_getElem?
def yqu:=@List.append_of_mem
def yqe:=@List.map_nil
def yri:=@List.map_map
def yru:=@Nat.ne_of_gt
def yre:=@Nat.lt_of_le_of_lt
def ysi:=@Nat.succ_mul
def ysu:=@List.getElem?_cons_zero
def yse:=@Nat.div_div_eq_div_mul
def yti:=@List.getElem?_set_self
def ytu:=@Nat.lt_irrefl
def yte:=@Nat.gcd_dvd_left
def yui:=@Array.all_eq_true_iff_forall_mem
def yuu:=@List.getElem?_toArray
def yue:=@List.eq_nil_iff_forall_not_mem
def yvi:=@Nat.sub_self
def yvu:=@List.range_succ
def yve:=@Int.le_total
def ywi:=@Int.not_le
def ywu:=@Nat.succ_pos
def ywe:=@Rat.mul_zero
def yxi:=@Int.sub_self
def yxu:=@List.mem_iff_getElem
def yxe:=@Int.zero_add
def yyi:=@List.length_reverse
def yyu:=@List.drop_left
def yye:=@Nat.testBit_or
def yzi:=@Nat.sub_mul
def yzu:=@Nat.mul_add
def yze:=@Int.neg_mul
def y0i:=@Rat.div_def
def y0u:=@Rat.sub_eq_add_neg
def y0e:=@Nat.le_of_dvd
def y1i:=@Rat.lt_irrefl
def y1u:=@Rat.mul_assoc
def y1e:=@List.size_toArray
def y2i:=@List.getElem?_set
def y2u:=@Int.not_lt
def y2e:=@Nat.gcd_comm
def y3i:=@Nat.pow_zero
def y3u:=@Rat.zero_mul
def y3e:=@Rat.mul_comm
def y4i:=@Nat.mod_self
def y4u:=@Int.add_zero
theorem y4e{α:Type _}{a b:α}(h:a=b):some a=some b:=congrArg some h
theorem y5i:True:=trivial
end Bk
namespace Bk
open Go Go.RowKit
section
variable {α:Type _}{a b c d e f g i:α}{l:List α}
theorem mh0:a∈a::l:=.head _
theorem mh1:b∈a::b::l:=.tail _ mh0
theorem mh2:c∈a::b::c::l:=.tail _ mh1
theorem mh3:d∈a::b::c::d::l:=.tail _ mh2
theorem mh4:e∈a::b::c::d::e::l:=.tail _ mh3
theorem mh5:f∈a::b::c::d::e::f::l:=.tail _ mh4
theorem mh6:g∈a::b::c::d::e::f::g::l:=.tail _ mh5
theorem mh7:i∈a::b::c::d::e::f::g::i::l:=.tail _ mh6
end
abbrev Mem:=Nat->Option Obj
def mem(w:World):Mem:=λb=>w.heap[b]?
def MLe(h h':Mem):Prop:=∀b o,h b=some o->h' b=some o
theorem MLe.refl(h:Mem):MLe h h:=λ_ _ x=>x
theorem MLe.trans{a b c:Mem}(h:MLe a b)(k:MLe b c):MLe a c:=λi o x=>k i o (h i o x)
def cell(h:Mem)(b i:Nat):Option Value:=
 match h b with
 |some (.cells c _ _)=>c[i]?
 |_=>none
theorem zD7{h h':Mem}(e:MLe h h'){b i:Nat}{v:Value}(hc:cell h b i=some v):cell h' b i=some v:=by
 unfold cell at *
 cases hb:h b with
 |none=>simp[hb] at hc
 |some o=>rw[e b o hb];rw[hb] at hc;exact hc
theorem lL{h:Mem}{w:World}(e:MLe h (mem w)){b i:Nat}{v:Value}(hc:cell h b i=some v):w.cell? ⟨b,i,none⟩=some v:=by
 have:=zD7 e hc;unfold cell mem at this;unfold World.cell?;exact this
theorem zJA{w:World}{b i:Nat}{v:Value}(hc:w.cell? ⟨b,i,none⟩=some v):cell (mem w) b i=some v:=by
 unfold World.cell? at hc;unfold cell mem;exact hc
inductive Res where
 |blk(b:Nat)(o:Obj)
 |gs(E k:Nat)(v:Value)(n:Nat)(cs:List Value)
def Res.ok(base:Nat)(w:World):Res->Prop
  | .blk b o=>w.heap[b]?=some o
  | .gs E k v n cs=>w.ownsRow base E k v n cs
def Res.fp:Res->Option Nat
  | .blk b _=>some b
  | .gs _ _ v _ _=>v.ownBlock
structure St(w0:World)(h0:Mem)(L:List Res)(h:Mem)(w:World):Prop where
 below:Below w0.heap.size w0 w
 le:MLe h0 h
 sub:MLe h (mem w)
 fresh:∀b,b<w0.heap.size->h b=h0 b
 ok:∀r∈L,r.ok w0.heap.size w
 own:∀r∈L,∀b,r.fp=some b->h b=none/\w0.heap.size<=b
 apart:L.Pairwise λr s=>∀b,r.fp=some b->s.fp≠some b
theorem St.begin{w:World}{h:Mem}(hs:MLe h (mem w)):St w h [] h w:=
 ⟨Below.refl _ _,MLe.refl h,hs,λ_ _=>rfl,λ_ hr=>by simp at hr,λ_ hr=>by simp at hr,zo3⟩
theorem Res.fp_lt{base:Nat}{w:World}{r:Res}(h:r.ok base w){b:Nat}(hb:r.fp=some b):b<w.heap.size:=by
 cases r with
 |blk b' o=>
  simp only[Res.fp,Option.some.injEq] at hb;subst hb;exact(zpu.1 h).1
 |gs E k v n cs=>exact(World.ownsRow.lt h b hb).2
theorem Res.kept{base:Nat}{w w':World}{r:Res}(h:r.ok base w)(hb:∀b,r.fp=some b->w'.heap[b]?=w.heap[b]?):r.ok base w':=by
 cases r with
 |blk b o=>exact(hb b rfl).trans h
 |gs E k v n cs=>
  refine⟨h.1,?_⟩
  rcases h.2 with hn|⟨g,cap,cur,rfl,hbg,hg,rest⟩
  · exact .inl hn
  · exact .inr ⟨g,cap,cur,I,hbg,(hb g I).trans hg,rest⟩
theorem Res.base_le{base base':Nat}{w:World}{r:Res}(h:r.ok base' w)(hb:base<=base'):r.ok base w:=by
 cases r with
 |blk b o=>exact h
 |gs E k v n cs=>
  refine⟨h.1,?_⟩
  rcases h.2 with hn|⟨g,cap,cur,hv,hbg,rest⟩
  · exact .inl hn
  · exact .inr ⟨g,cap,cur,hv,zci hb hbg,rest⟩
theorem St.call{w0 w w':World}{h0 h h':Mem}{L L':List Res}(s:St w0 h0 L h w)(c:St w h L' h' w'):St w0 h0 (L'++L) h' w':=by
 have J:w0.heap.size<=w.heap.size:=s.below.size;have H:∀r∈L,∀b,r.fp=some b->b<w.heap.size:=λr C b D=>Res.fp_lt (s.ok r C) D;refine⟨s.below.trans (c.below.mono J),s.le.trans c.le,c.sub,λb D=>(c.fresh b zot).trans (s.fresh b D),?_,?_,?_⟩
 · intro r C
   rcases zmu.1 C with C|C
   · exact Res.base_le (c.ok r C) J
   · exact Res.kept (s.ok r C) λb D=>c.below.block b (H r C b D)
 · intro r C b D
   rcases zmu.1 C with C|C
   · have:=c.own r C b D
     exact⟨this.1,zot⟩
   · have:=s.own r C b D
     exact⟨(c.fresh b (H r C b D)).trans this.1,this.2⟩
 · refine yai.2 ⟨c.apart,s.apart,λr C U M b D O=>?_⟩
   have h1:=(c.own r C b D).2;have h2:=H U M b O;omega
theorem St.alloc{w0 w:World}{h0 h:Mem}{L:List Res}(s:St w0 h0 L h w)(o:Obj):St w0 h0 (.blk w.heap.size o::L) h (w.alloc o):=by
 have J:w0.heap.size<=w.heap.size:=s.below.size;have H:∀b,b<w.heap.size->(w.alloc o).heap[b]?=w.heap[b]?:=λb C=>heap_alloc_old w o C;have M:∀r∈L,∀b,r.fp=some b->b<w.heap.size:=λr D b C=>Res.fp_lt (s.ok r D) C;refine⟨s.below.alloc J o,s.le,?_,s.fresh,?_,?_,?_⟩
 · intro b o' C
   have:=s.sub b o' C;unfold mem at *;rw[H b (zpu.1 this).1];exact this
 · intro r D
   rcases zfu.1 D with rfl|D
   · exact heap_alloc_new w o
   · exact Res.kept (s.ok r D) λb C=>H b (M r D b C)
 · intro r D b C
   rcases zfu.1 D with rfl|D
   · simp only[Res.fp,Option.some.injEq] at C
     subst C;refine⟨?_,J⟩
     cases hh:h w.heap.size with
     |none=>rfl
     |some o'=>
      have:=s.sub _ o' hh;unfold mem at this;exact absurd (zpu.1 this).1 (ytu _)
   · exact s.own r D b C
 · refine z9u.2 ⟨λr D b C O=>?_,s.apart⟩
   simp only[Res.fp,Option.some.injEq] at C;have:=M r D b O;omega
theorem St.grown{w0 w w':World}{h0 h:Mem}{A B:List Res}{r r':Res}(s:St w0 h0 (A++r::B) h w)(hg:w.grownBy w' r.fp)(hok:r'.ok w0.heap.size w')
    (hfp:∀b,r'.fp=some b->r.fp=some b\/w.heap.size<=b):St w0 h0 (A++r'::B) h w':=by
 have aa:w0.heap.size<=w.heap.size:=s.below.size;have Z:∀x∈A++r::B,∀b,x.fp=some b->b<w.heap.size:=λx hx b C=>Res.fp_lt (s.ok x hx) C;have D:=s.apart;have J:r∈A++r::B:=by simp
 have U:∀x,(x∈A\/x∈B)->∀b,x.fp=some b->r.fp≠some b:=by
  intro x hx b C hr;rw[yai,z9u] at D
  rcases hx with hx|hx
  · exact D.2.2 x hx r zo3 b C hr
  · exact D.2.1.1 x hx b hr C
 have H:∀x,(x∈A\/x∈B)->∀b,x.fp=some b->w'.heap[b]?=w.heap[b]?:=by
  intro x hx b C;refine hg.block b (Z x ?_ b C) (λe=>U x hx b C e.symm)
  rcases hx with hx|hx<;>simp[hx]
 have M:∀b,w.heap.size<=b->h b=none:=by
  intro b C
  cases hh:h b with
  |none=>rfl
  |some o=>
   have:=s.sub b o hh;unfold mem at this;have:=(zpu.1 this).1;omega
 refine⟨s.below.grown hg aa (λb C=>(s.own r J b C).2),s.le,?_,s.fresh,?_,?_,?_⟩
 · intro b o C
   have h1:=s.sub b o C;unfold mem at *;refine(hg.block b (zpu.1 h1).1 (λe=>?_)).trans h1;have:=(s.own r J b e.symm).1;rw[this] at C
   cases C
 · intro x hx
   rcases zmu.1 hx with hx|hx
   · exact Res.kept (s.ok x (by simp[hx])) (H x (.inl hx))
   · rcases zfu.1 hx with rfl|hx
     · exact hok
     · exact Res.kept (s.ok x (by simp[hx])) (H x (.inr hx))
 · intro x hx b C
   rcases zmu.1 hx with hx|hx
   · exact s.own x (by simp[hx]) b C
   · rcases zfu.1 hx with rfl|hx
     · rcases hfp b C with h1|h1
       · exact s.own r J b h1
       · exact⟨M b h1,zot⟩
     · exact s.own x (by simp[hx]) b C
 · have O:∀x,(x∈A\/x∈B)->∀b,x.fp=some b->r'.fp≠some b:=by
    intro x hx b C ab
    rcases hfp b ab with h1|h1
    · exact U x hx b C h1
    · have:=Z x (by rcases hx with hx|hx<;>simp[hx]) b C
      omega
   rw[yai,z9u] at D ⊢;refine⟨D.1,⟨λx hx b C ac=>O x (.inr hx) b ac C,D.2.1.2⟩,λx hx y hy b C=>?_⟩
   rcases zfu.1 hy with rfl|hy
   · exact O x (.inl hx) b C
   · exact D.2.2 x hx y (by simp[hy]) b C
theorem St.drop{w0 w:World}{h0 h:Mem}{A B:List Res}{r:Res}(s:St w0 h0 (A++r::B) h w):St w0 h0 (A++B) h w:=by
 refine⟨s.below,s.le,s.sub,s.fresh,λx hx=>s.ok x ?_,λx hx=>s.own x ?_,?_⟩
 · rcases zmu.1 hx with hx|hx<;>simp[hx]
 · rcases zmu.1 hx with hx|hx<;>simp[hx]
 · have C:=s.apart
   rw[yai,z9u] at C;rw[yai];exact⟨C.1,C.2.1.2,λx hx y hy=>C.2.2 x hx y (by simp[hy])⟩
theorem St.sublist{w0 w:World}{h0 h:Mem}{L L':List Res}(s:St w0 h0 L h w)(hl:L'.Sublist L):St w0 h0 L' h w:=
 ⟨s.below,s.le,s.sub,s.fresh,λr hr=>s.ok r (hl.subset hr),λr hr=>s.own r (hl.subset hr),s.apart.sublist hl⟩
theorem St.freeze{w0 w:World}{h0 h:Mem}{A B:List Res}{b:Nat}{o:Obj}{r:Res}(s:St w0 h0 (A++r::B) h w)(hr:r.fp=some b)(ho:w.heap[b]?=some o):
 St w0 h0 (A++B) (λi=>if i=b then some o else h i) w/\MLe h (λi=>if i=b then some o else h i):=by
 have M:r∈A++r::B:=by simp
 have U:=s.own r M b hr;have J:MLe h (λi=>if i=b then some o else h i):=by
  intro i o' hi
  by_cases e:i=b
  · rw[e,U.1] at hi;cases hi
  · simp[e,hi]
 have C:=s.apart;have O:∀x,x∈A++B->x.fp≠some b:=by
  intro x hx H;rw[yai,z9u] at C
  rcases zmu.1 hx with hx|hx
  · exact C.2.2 x hx r zo3 b H hr
  · exact C.2.1.1 x hx b hr H
 have D:=s.drop;refine⟨⟨D.below,D.le.trans J,?_,?_,D.ok,?_,D.apart⟩,J⟩
 · intro i o' hi
   by_cases e:i=b
   · simp only[e,if_true,Option.some.injEq] at hi
     subst hi;rw[e];exact ho
   · simp only[e,if_false] at hi
     exact s.sub i o' hi
 · intro i hi
   have:i≠b:=by omega
   simp only[this,if_false];exact s.fresh i hi
 · intro x hx i hi
   have h1:=D.own x hx i hi;have:i≠b:=λe=>O x hx (e▸hi);simp only[this,if_false];exact h1
def Ret(w0:World)(h0:Mem)(R:Mem->Value->Prop):Ending->World->Prop:=λe w=>∃v h,e=.returned v/\R h v/\St w0 h0 [] h w
def tP(w0:World)(h0:Mem)(R:Mem->Value->List Res->Prop):Ending->World->Prop:=λe w=>∃v h L,e=.returned v/\R h v L/\St w0 h0 L h w
structure Env(n:Nat)(e:List (Nat×Value))(a:Act):Prop where
 defers:a.defers=[]
 size:a.tmps.size=n
 get:∀t v,e.lookup t=some v->a.tmps[t]?=some v
def zH(e:List (Nat×Value)):Operand->Option Value
  | .tmp t=>e.lookup t
  | .const v=>some v
  | .global g=>some (.pointer (some ⟨g,0,none⟩))
  | .func f=>some (.func (.func f) #[] #[])
theorem Env.eval{n:Nat}{e:List (Nat×Value)}{a:Act}(E:Env n e a){x:Operand}{v:Value}(h:zH e x=some v):a.eval x=v:=by
 cases x with
 |tmp t=>
  have:=E.get t v h;simp only[Act.eval,zie,this,Option.getD_some]
 |const u=>exact Option.some.inj h
 |global g=>exact Option.some.inj h
 |func f=>exact Option.some.inj h
theorem Env.put{n:Nat}{e:List (Nat×Value)}{a:Act}(E:Env n e a){d:Nat}{v:Value}(hd:d<n):Env n ((d,v)::e) (a.put (some d) v):=by
 refine⟨E.defers,by simp[Act.put,E.size],λt u h=>?_⟩;simp only[z5u] at h
 by_cases ht:t=d
 · subst ht
   simp at h;subst h;simp[Act.put,E.size,hd]
 · have:(t==d)=false:=by simpa using ht
   rw[this] at h;simp only[Act.put];rw[yhi (Ne.symm ht)];exact E.get t u h
@[reducible] def Sub:List (Nat×Value)->List (Nat×Value)->Prop
  |[],_=>True
  |(t,v)::r,e=>e.lookup t=some v/\Sub r e
theorem Sub.lookup{e:List (Nat×Value)}:∀{e':List (Nat×Value)},Sub e' e->∀t v,e'.lookup t=some v->e.lookup t=some v
  |[],_,t,v,h=>by simp at h
  |(k,u)::r,hs,t,v,h=>by
   simp only[z5u] at h
   by_cases ht:t=k
   · subst ht
     simp at h;subst h;exact hs.1
   · have:(t==k)=false:=by simpa using ht
     rw[this] at h;exact Sub.lookup hs.2 t v h
theorem Env.sub{n:Nat}{e e':List (Nat×Value)}{a:Act}(E:Env n e a)(h:Sub e' e):Env n e' a:=⟨E.defers,E.size,λt v ht=>E.get t v (h.lookup t v ht)⟩
@[reducible] def bD(e:List (Nat×Value)):List Operand->List Value->Prop
  |[],[]=>True
  |x::xs,v::vs=>zH e x=some v/\bD e xs vs
  |_,_=>False
theorem Env.evals{n:Nat}{e:List (Nat×Value)}{a:Act}(E:Env n e a):∀{xs:List Operand} {vs:List Value},bD e xs vs->xs.map a.eval=vs
  |[],[],_=>rfl
  |x::xs,v::vs,h=>by rw[zwu,E.eval h.1,E.evals h.2]
  |[],_::_,h=>h.elim
  |_::_,[],h=>h.elim
section goals
variable (P:Program)(n:Nat)(w0:World)(h0:Mem)
def GL(ops:Array Oper)(Q:Exit->Act->World->Prop)(l:List Oper)(e:List (Nat×Value))(L:List Res)(h:Mem):Prop:=
 ∀a w,Env n e a->St w0 h0 L h w->wpList P ops Q l a w
def GC(c:Code)(Q:Exit->Act->World->Prop)(e:List (Nat×Value))(L:List Res)(h:Mem):Prop:=
 ∀a w,Env n e a->St w0 h0 L h w->c.wp P Q a w
def GQ(Q:Exit->Act->World->Prop)(x:Exit)(e:List (Nat×Value))(L:List Res)(h:Mem):Prop:=
 ∀a w,Env n e a->St w0 h0 L h w->Q x a w
def OpV(o:Oper)(e:List (Nat×Value))(L:List Res)(h:Mem)(v:Value):Prop:=
 ∀a w,Env n e a->St w0 h0 L h w->(execOp a.eval o).run P w=.ok (.value v) w
def Upd(o:Oper)(e:List (Nat×Value))(A:List Res)(r:Res)(B:List Res)(h:Mem)(r':Res):Prop:=
 ∀a w,Env n e a->St w0 h0 (A++r::B) h w->∃w',(execOp a.eval o).run P w=.ok .skip w'/\w.grownBy w' r.fp/\r'.ok w0.heap.size w'
end goals
section rules
variable {P:Program}{n:Nat}{w0:World}{h0:Mem}{e:List (Nat×Value)}{L:List Res}{h:Mem}{Q:Exit->Act->World->Prop}
theorem jT{f:FuncId}{fn:Func}{c:Code}{vs:List Value}{R:Ending->World->Prop}{w0:World}(hf:P.funcs[f]?=some fn)(hb:fn.body=some c)(hn:fn.ntmps=n)(hl:vs.length<=n)
    (hs:MLe h0 (mem w0))(he:Sub e (vs.zipIdx.map λp=>(p.2,p.1)))(k:GC P n w0 h0 c (bodyPost P fn R) e [] h0):Calls P f vs.toArray w0 R:=by
 refine calls_of_wp hf hb (k _ _ ?_ (St.begin hs));subst hn;refine Env.sub ⟨I,by simp;omega,?_⟩ he;intro t v ht;have key:∀(l:List Value) (k t:Nat),((l.zipIdx k).map λp=>(p.2,p.1)).lookup t=some v->k<=t/\l[t-k]?=some v:=by
  intro l
  induction l with
  |nil=>intro k t h;simp at h
  |cons x l ih=>
   intro k t h;simp only[yfu,zwu,z5u] at h
   by_cases hk:t=k
   · subst hk
     simp at h;exact⟨zbe _,by simp[h]⟩
   · have:(t==k)=false:=by simpa using hk
     rw[this] at h;have:=ih (k+1) t h;refine⟨zot,?_⟩;have e1:t-k=(t-(k+1))+1:=by omega
     rw[e1,ybu];exact this.2
 have:=(key vs 0 t ht).2;simp only[ydu] at this;simp only[y1e];rw[Array.getElem?_append_left (by simpa using(zxi.1 this).1)]
 simpa using this
theorem qK{f:FuncId}{fn:Func}{c:Code}{vs:List Value}{R:Ending->World->Prop}{w0 w:World}{L:List Res}{h:Mem}(hf:P.funcs[f]?=some fn)(hb:fn.body=some c)(hn:fn.ntmps=n)(hl:vs.length<=n)
    (S:St w0 h0 L h w)(he:Sub e (vs.zipIdx.map λp=>(p.2,p.1)))(k:GC P n w0 h0 c (bodyPost P fn R) e L h):Calls P f vs.toArray w R:=by
 refine calls_of_wp hf hb (k _ _ ?_ S);subst hn;refine Env.sub ⟨I,by simp;omega,?_⟩ he;intro t v ht;have key:∀(l:List Value) (k t:Nat),((l.zipIdx k).map λp=>(p.2,p.1)).lookup t=some v->k<=t/\l[t-k]?=some v:=by
  intro l
  induction l with
  |nil=>intro k t h;simp at h
  |cons x l ih=>
   intro k t h;simp only[yfu,zwu,z5u] at h
   by_cases hk:t=k
   · subst hk
     simp at h;exact⟨zbe _,by simp[h]⟩
   · have:(t==k)=false:=by simpa using hk
     rw[this] at h;have:=ih (k+1) t h;refine⟨zot,?_⟩;have e1:t-k=(t-(k+1))+1:=by omega
     rw[e1,ybu];exact this.2
 have:=(key vs 0 t ht).2;simp only[ydu] at this;simp only[y1e];rw[Array.getElem?_append_left (by simpa using(zxi.1 this).1)]
 simpa using this
theorem wA{x y:Code}(k:GC P n w0 h0 x (Exit.then (y.wp P Q) Q) e L h):GC P n w0 h0 (.seq x y) Q e L h:=
 λa w E S=>wp_seq (k a w E S)
theorem rZ(k:GQ n w0 h0 Q .normal e L h):GC P n w0 h0 .skip Q e L h:=λa w E S=>wp_skip (k a w E S)
theorem zH0(k:GQ n w0 h0 Q .ret e L h):GC P n w0 h0 .ret Q e L h:=λa w E S=>wp_ret (k a w E S)
theorem nN{i:Nat}(k:GQ n w0 h0 Q (.exit i) e L h):GC P n w0 h0 (.exit i) Q e L h:=λa w E S=>wp_exit (k a w E S)
theorem fY{i:Nat}{c:Code}(k:GC P n w0 h0 c (Exit.inBlock i Q) e L h):GC P n w0 h0 (.block i c) Q e L h:=λa w E S=>wp_block (k a w E S)
theorem yI{i:Nat}{l:List Oper}(k:GL P n w0 h0 l.toArray Q l e L h):GC P n w0 h0 (.region i l.toArray false) Q e L h:=λa w E S=>wp_region_lit (k a w E S)
theorem wN{ops:Array Oper}(k:GQ n w0 h0 Q .normal e L h):GL P n w0 h0 ops Q [] e L h:=λa w E S=>wpList_nil (k a w E S)
theorem yX{y:Code}(k:GC P n w0 h0 y Q e L h):GQ n w0 h0 (Exit.then (y.wp P Q) Q) .normal e L h:=k
theorem zCG{i:Nat}(k:GQ n w0 h0 Q .normal e L h):GQ n w0 h0 (Exit.inBlock i Q) .normal e L h:=k
theorem rG{N:Act->World->Prop}{i:Nat}(k:GQ n w0 h0 Q (.exit i) e L h):GQ n w0 h0 (Exit.then N Q) (.exit i) e L h:=k
theorem nL{i:Nat}(k:GQ n w0 h0 Q .normal e L h):GQ n w0 h0 (Exit.inBlock i Q) (.exit i) e L h:=by
 intro a w E S;simp only[Exit.inBlock,if_true];exact k a w E S
theorem zMP{i j:Nat}(hij:(j==i)=false)(k:GQ n w0 h0 Q (.exit j) e L h):GQ n w0 h0 (Exit.inBlock i Q) (.exit j) e L h:=by
 intro a w E S;have:j≠i:=by simpa using hij
 simp only[Exit.inBlock,this,if_false];exact k a w E S
theorem zFR{N:Act->World->Prop}(k:GQ n w0 h0 Q .ret e L h):GQ n w0 h0 (Exit.then N Q) .ret e L h:=k
theorem zT7{i:Nat}(k:GQ n w0 h0 Q .ret e L h):GQ n w0 h0 (Exit.inBlock i Q) .ret e L h:=k
theorem gQ{x:Exit}{e':List (Nat×Value)}(hs:Sub e' e)(k:GQ n w0 h0 Q x e' L h):GQ n w0 h0 Q x e L h:=λa w E S=>k a w (E.sub hs) S
theorem zT9{c:Code}{e':List (Nat×Value)}(hs:Sub e' e)(k:GC P n w0 h0 c Q e' L h):GC P n w0 h0 c Q e L h:=λa w E S=>k a w (E.sub hs) S
theorem xK{x:Exit}{A B:List Res}{r:Res}(k:GQ n w0 h0 Q x e (A++B) h):GQ n w0 h0 Q x e (A++r::B) h:=λa w E S=>k a w E S.drop
noncomputable def vB(p:Prop):Value:=.bool (@decide p (Classical.propDecidable p))
theorem kS{p q:Prop}(hpq:p↔q):vB p=vB q:=by rw[propext hpq]
theorem xW{p:Prop}(hp:p):vB p=.bool true:=by unfold vB;simp[hp]
theorem yM{p:Prop}(hp:¬p):vB p=.bool false:=by unfold vB;simp[hp]
theorem xD{p q:Prop}(hp:p):vB q=vB (p/\q):=kS ⟨λh=>⟨hp,h⟩,λh=>h.2⟩
theorem xE{p q:Prop}(hp:¬p):Value.bool false=vB (p/\q):=(yM λh=>hp h.1).symm
theorem uH{p q:Prop}(hp:p):Value.bool true=vB (p\/q):=(xW (.inl hp)).symm
theorem uJ{p q:Prop}(hp:¬p):vB q=vB (p\/q):=kS ⟨.inr,λh=>h.resolve_left hp⟩
theorem yGC{c:Operand}{x y:Code}{p:Prop}(hc:zH e c=some (vB p))(kt:p->GC P n w0 h0 x Q e L h)(kf:¬p->GC P n w0 h0 y Q e L h):GC P n w0 h0 (.cond c x y) Q e L h:=by
 intro a w E S
 by_cases hp:p
 · exact wp_cond_true (by rw[E.eval hc,xW hp]) (kt hp a w E S)
 · exact wp_cond_false (by rw[E.eval hc,yM hp]) (kf hp a w E S)
theorem zKF{c:Operand}{x y:Code}(hc:zH e c=some (.bool true))(k:GC P n w0 h0 x Q e L h):GC P n w0 h0 (.cond c x y) Q e L h:=
 λa w E S=>wp_cond_true (E.eval hc) (k a w E S)
theorem zXA{c:Operand}{x y:Code}(hc:zH e c=some (.bool false))(k:GC P n w0 h0 y Q e L h):GC P n w0 h0 (.cond c x y) Q e L h:=
 λa w E S=>wp_cond_false (E.eval hc) (k a w E S)
theorem jM{ι:Type}{x y:Code}(inv:ι->Prop)(ev:ι->List (Nat×Value))(Lv:ι->List Res)(hv:ι->Mem)
    (kx:GC P n w0 h0 x (Exit.then (λa w=>∃i,inv i/\Env n (ev i) a/\St w0 h0 (Lv i) (hv i) w) Q) e L h)
    (ky:∀i,inv i->GC P n w0 h0 y Q (ev i) (Lv i) (hv i)):GC P n w0 h0 (.seq x y) Q e L h:=by
 intro a w E S;refine wp_seq (wp_mono (kx a w E S) ?_);intro x a w C
 cases x with
 |normal=>obtain⟨i,hi,E,S⟩:=C;exact ky i hi a w E S
 |_=>exact C
theorem zU{ι:Type}{inv:ι->Prop}{ev:ι->List (Nat×Value)}{Lv:ι->List Res}{hv:ι->Mem}(i:ι)(hi:inv i)(he:Sub (ev i) e)(hL:Lv i=L)(hh:hv i=h):
 GQ n w0 h0 (Exit.then (λa w=>∃i,inv i/\Env n (ev i) a/\St w0 h0 (Lv i) (hv i) w) Q) .normal e L h:=
 λa w E S=>⟨i,hi,E.sub he,by rw[hL,hh];exact S⟩
theorem gR{ι:Type}{c:Code}(inv:ι->Prop)(ev:ι->List (Nat×Value))(Lv:ι->List Res)(hv:ι->Mem)(μ:ι->Nat)(i0:ι)(hi0:inv i0)(he:Sub (ev i0) e)(hL:Lv i0=L)(hh:hv i0=h)
    (round:∀i,inv i->GC P n w0 h0 c (Exit.then (λa w=>∃j,(inv j/\μ j<μ i)/\Env n (ev j) a/\St w0 h0 (Lv j) (hv j) w) Q) (ev i) (Lv i) (hv i)):GC P n w0 h0 (.loop c) Q e L h:=by
 have key:∀m i,μ i=m->inv i->∀a w,Env n (ev i) a->St w0 h0 (Lv i) (hv i) w->∀(b:Frame) (k:List Item) (cs:List Frame),
  ∃x a' w',Q x a' w'/\Arrives P (lone (b.at a (.code c::.inLoop c::k)) cs w) b k cs x a' w':=by
  intro m
  induction m using Nat.strongRecOn with
  |_ m ih=>
   intro i hm hi a w E S b k cs;obtain⟨x,a1,w1,hq,harr⟩:=round i hi a w E S b (.inLoop c::k) cs
   cases x with
   |normal=>
    obtain⟨j,⟨hj,hlt⟩,E1,S1⟩:=hq;obtain⟨x2,a2,w2,hq2,harr2⟩:=ih (μ j) (hm▸hlt) j I hj a1 w1 E1 S1 b k cs;exact⟨x2,a2,w2,hq2,.of_steps (Steps.trans harr (.one step_inLoop)) harr2⟩
   |exit id=>exact⟨_,a1,w1,hq,.pass (x:=.inLoop c) rfl (λ_ _=>.inl zo3) harr⟩
   |goto l=>exact⟨_,a1,w1,hq,.pass (x:=.inLoop c) rfl (λ_ _=>.inl zo3) harr⟩
   |ret=>exact⟨_,a1,w1,hq,.pass (x:=.inLoop c) rfl (λ_ _=>.inl zo3) harr⟩
   |panic ch=>exact⟨_,a1,w1,hq,.pass (x:=.inLoop c) rfl (λ_ _=>.inl zo3) harr⟩
   |outgrown=>exact⟨_,a1,w1,hq,.pass (x:=.inLoop c) rfl (λ_ _=>.inl zo3) harr⟩
 intro a w E S b k cs;obtain⟨x,a',w',hq,harr⟩:=key _ i0 I hi0 a w (E.sub he) (by rw[hL,hh];exact S) b k cs;exact⟨x,a',w',hq,.of_steps (.one step_loop) harr⟩
theorem jW{ι:Type}{inv:ι->Prop}{ev:ι->List (Nat×Value)}{Lv:ι->List Res}{hv:ι->Mem}{μ:ι->Nat}{m:Nat}(i:ι)(hi:inv i)(hm:μ i<m)(he:Sub (ev i) e)(hL:Lv i=L)(hh:hv i=h):
 GQ n w0 h0 (Exit.then (λa w=>∃j,(inv j/\μ j<m)/\Env n (ev j) a/\St w0 h0 (Lv j) (hv j) w) Q) .normal e L h:=
 λa w E S=>⟨i,⟨hi,hm⟩,E.sub he,by rw[hL,hh];exact S⟩
theorem zC{fn:Func}{t:Nat}{v:Value}{R:Mem->Value->Prop}(hr:fn.results=#[.tmp t])(hv:zH e (.tmp t)=some v)(hR:R h v):GQ n w0 h0 (bodyPost P fn (Ret w0 h0 R)) .ret e L h:=by
 intro a w E S;refine bodyPost_ret (results_tmp hr _ _ _) E.defers ?_;have:=E.eval hv;simp only[Act.eval] at this;rw[this];exact⟨v,h,I,hR,S.sublist (zse _)⟩
theorem qB{fn:Func}{t:Nat}{v:Value}{R:Mem->Value->List Res->Prop}(hr:fn.results=#[.tmp t])(hv:zH e (.tmp t)=some v)(hR:R h v L):GQ n w0 h0 (bodyPost P fn (tP w0 h0 R)) .ret e L h:=by
 intro a w E S;refine bodyPost_ret (results_tmp hr _ _ _) E.defers ?_;have:=E.eval hv;simp only[Act.eval] at this;rw[this];exact⟨v,h,L,I,hR,S⟩
theorem wY{fn:Func}{t u:Nat}{v x:Value}{R:Mem->Value->Prop}(hr:fn.results=#[.tmp t,.tmp u])(hv:zH e (.tmp t)=some v)(hx:zH e (.tmp u)=some x)(hR:R h (.tuple #[v,x])):
 GQ n w0 h0 (bodyPost P fn (Ret w0 h0 R)) .ret e L h:=by
 intro a w E S;refine bodyPost_ret (results_tmp2 hr _ _ _) E.defers ?_;have h1:=E.eval hv;have h2:=E.eval hx;simp only[Act.eval] at h1 h2;rw[h1,h2];exact⟨_,h,I,hR,S.sublist (zse _)⟩
theorem qU{fn:Func}{t u s:Nat}{v x y:Value}{R:Mem->Value->Prop}(hr:fn.results=#[.tmp t,.tmp u,.tmp s])(hv:zH e (.tmp t)=some v)(hx:zH e (.tmp u)=some x)(hy:zH e (.tmp s)=some y)
    (hR:R h (.tuple #[v,x,y])):GQ n w0 h0 (bodyPost P fn (Ret w0 h0 R)) .ret e L h:=by
 intro a w E S;have h1:=E.eval hv;have h2:=E.eval hx;have h3:=E.eval hy;simp only[Act.eval] at h1 h2 h3;refine bodyPost_ret (v:=.tuple #[v,x,y]) ?_ E.defers ⟨_,h,I,hR,S.sublist (zse _)⟩;simp only[zie] at h1 h2 h3;simp[results,hr,h1,h2,h3]
theorem zMQ{fn:Func}{R:Mem->Value->List Res->Prop}(hr:fn.results=#[])(hR:R h (.tuple #[]) L):GQ n w0 h0 (bodyPost P fn (tP w0 h0 R)) .normal e L h:=by
 intro a w E S;refine bodyPost_end (results_none hr _ _ _) E.defers ?_;exact⟨_,h,L,I,hR,S⟩
theorem eP{ops:Array Oper}{rest:List Oper}{o:Oper}{d:Nat}{v:Value}(hv:OpV P n w0 h0 o e L h v)(hg:o.guard=none)(hd:o.dst=some d)(hn:Nat.ble (d+1) n=true)
    (k:GL P n w0 h0 ops Q rest ((d,v)::e) L h):GL P n w0 h0 ops Q (o::rest) e L h:=by
 intro a w E S;refine wpList_plain hg λK C=>?_;unfold Oper.wp;rw[hv a w E S,Oper.upon_value,hd];exact C _ _ (k _ _ (E.put (zce hn)) S)
theorem zKE{ops:Array Oper}{rest:List Oper}{o:Oper}{g t:Nat}{b:Bool}(hg:o.guard=some (g,b))(ht:(ops[g]?).bind (·.dst)=some t)(he:e.lookup t=some (.bool b))
    (k:GL P n w0 h0 ops Q ({o with guard:=none}::rest) e L h):GL P n w0 h0 ops Q (o::rest) e L h:=by
 intro a w E S;have hk:=k a w E S;have hw:Region.wanted o (yielded ops a.tmps)=true:=by
  have:=E.get t _ he;simp[Region.wanted,hg,yielded,ht,this]
 unfold wpList at hk ⊢;rw[zau hw];rw[zau (by simp[Region.wanted])] at hk;exact hk
theorem zDX{ops:Array Oper}{rest:List Oper}{o:Oper}{g t d:Nat}{b c:Bool}(hg:o.guard=some (g,b))(ht:(ops[g]?).bind (·.dst)=some t)(he:e.lookup t=some (.bool c))(hbc:(c==b)=false)
    (hd:o.dst=some d)(hn:Nat.ble (d+1) n=true)(k:GL P n w0 h0 ops Q rest ((d,undef)::e) L h):GL P n w0 h0 ops Q (o::rest) e L h:=by
 intro a w E S;have hw:Region.wanted o (yielded ops a.tmps)=false:=by
  have:=E.get t _ he;simp only[Region.wanted,hg,yielded,ht,this,Option.bind_some]
  simpa using hbc
 unfold wpList;rw[zae (by simp[hw]),hd];exact k _ _ (E.put (zce hn)) S
theorem OpV.tr{o:Oper}{p:Prop}(hp:p)(hv:OpV P n w0 h0 o e L h (vB p)):OpV P n w0 h0 o e L h (.bool true):=xW hp▸hv
theorem OpV.fa{o:Oper}{p:Prop}(hp:¬p)(hv:OpV P n w0 h0 o e L h (vB p)):OpV P n w0 h0 o e L h (.bool false):=yM hp▸hv
theorem yGA{ops:Array Oper}{rest:List Oper}{o:Oper}{g t d:Nat}{b:Bool}(hg:o.guard=some (g,b))(ht:(ops[g]?).bind (·.dst)=some t)(he:e.lookup t=some undef)
    (hd:o.dst=some d)(hn:Nat.ble (d+1) n=true)(k:GL P n w0 h0 ops Q rest ((d,undef)::e) L h):GL P n w0 h0 ops Q (o::rest) e L h:=by
 intro a w E S;have hw:Region.wanted o (yielded ops a.tmps)=false:=by
  have:=E.get t _ he;simp[Region.wanted,hg,yielded,ht,this,undef]
 unfold wpList;rw[zae (by simp[hw]),hd];exact k _ _ (E.put (zce hn)) S
theorem qH{ops:Array Oper}{ι:Type}(j:Nat){l:List Oper}(inv:ι->Prop)(ev:ι->List (Nat×Value))(Lv:ι->List Res)(hv:ι->Mem)
    (kx:GL P n w0 h0 ops (Exit.then (λa w=>∃i,inv i/\Env n (ev i) a/\St w0 h0 (Lv i) (hv i) w) Q) (l.take j) e L h)
    (ky:∀i,inv i->GL P n w0 h0 ops Q (l.drop j) (ev i) (Lv i) (hv i)):GL P n w0 h0 ops Q l e L h:=by
 intro a w E S;have key:∀(l1:List Oper) a w,wpList P ops (Exit.then (λa w=>∃i,inv i/\Env n (ev i) a/\St w0 h0 (Lv i) (hv i) w) Q) l1 a w->wpList P ops Q (l1++l.drop j) a w:=by
  intro l1
  induction l1 with
  |nil=>intro a w hq;obtain⟨i,hi,E,S⟩:=hq;exact ky i hi a w E S
  |cons o l1 ih=>
   intro a w hq;simp only[zku];unfold wpList at hq ⊢
   split
   · rename_i hw
     rw[zau hw] at hq;refine hq.imp (λhq=>?_) (λhq=>⟨hq.1,?_⟩)
     · unfold Oper.wp at *
       generalize (execOp a.eval o).run P w=r at *
       cases r with
       |ok x w'=>
        cases x<;>simp only[Oper.upon] at hq ⊢<;>
         first
          |exact ih _ _ hq
          |exact Calls.mono hq (λe w'' he=>by cases e<;>first|exact ih _ _ he|exact he)
          |exact Rows.mono hq (λ_ _ he=>ih _ _ he)
       |halt x w'=>cases x<;>simp only[Oper.upon] at hq ⊢<;>exact hq
     · obtain⟨a,w,hq⟩:=hq.2;exact⟨a,w,hq⟩
   · rename_i hw
     rw[zae hw] at hq;exact ih _ _ hq
 have:=key (l.take j) a w (kx a w E S)
 rwa [yei] at this
theorem zY{ops:Array Oper}{l:List Oper}(p:Prop)(kt:p->GL P n w0 h0 ops Q l e L h)(kf:¬p->GL P n w0 h0 ops Q l e L h):GL P n w0 h0 ops Q l e L h:=by
 by_cases hp:p
 · exact kt hp
 · exact kf hp
theorem yCJ{c:Code}(p:Prop)(kt:p->GC P n w0 h0 c Q e L h)(kf:¬p->GC P n w0 h0 c Q e L h):GC P n w0 h0 c Q e L h:=by
 by_cases hp:p
 · exact kt hp
 · exact kf hp
theorem yGB{ops:Array Oper}{rest:List Oper}{o:Oper}{d f:Nat}{xs:List Operand}{ts:Array TypeId}{vs:List Value}{R:Mem->Value->Prop}(hop:o.op=.call {callee:=.value (.func f),args:=xs.toArray,argTypes:=ts})
    (hg:o.guard=none)(hd:o.dst=some d)(hn:Nat.ble (d+1) n=true)(hcall:∀args w,(callFunc f args).run P w=.ok (.enter f args) w)(hvs:bD e xs vs)
    (hc:∀w,MLe h (mem w)->Calls P f vs.toArray w (Ret w h R))(k:∀v h',MLe h h'->R h' v->GL P n w0 h0 ops Q rest ((d,v)::e) L h'):GL P n w0 h0 ops Q (o::rest) e L h:=by
 intro a w E S;refine wpList_plain hg λK O=>?_;have C:xs.toArray.map a.eval=vs.toArray:=by rw[z0e,E.evals hvs]
 have M:(execOp a.eval o).run P w=.ok (.enter f vs.toArray) w:=by
  obtain⟨dst,op,ty,J,D,guard⟩:=o;simp only at hop;subst hop;simp only[execOp,resolve,Act.eval];simp[Deferred.ofValue,invoke,hcall,C]
 unfold Oper.wp;rw[M,Oper.upon_enter];refine(hc w S.sub).mono ?_
 rintro e' Z ⟨v,h',rfl,hR,H⟩
 have U:=S.call H;rw[hd];exact O _ _ (k v h' H.le hR _ _ (E.put (zce hn)) U)
theorem uY{ops:Array Oper}{rest:List Oper}{o:Oper}{d f:Nat}{xs:List Operand}{ts:Array TypeId}{vs:List Value}{R:Mem->Value->List Res->Prop}(hop:o.op=.call {callee:=.value (.func f),args:=xs.toArray,argTypes:=ts})
    (hg:o.guard=none)(hd:o.dst=some d)(hn:Nat.ble (d+1) n=true)(hcall:∀args w,(callFunc f args).run P w=.ok (.enter f args) w)(hvs:bD e xs vs)
    (hc:∀w,MLe h (mem w)->Calls P f vs.toArray w (tP w h R))(k:∀v h' L',MLe h h'->R h' v L'->GL P n w0 h0 ops Q rest ((d,v)::e) (L'++L) h'):GL P n w0 h0 ops Q (o::rest) e L h:=by
 intro a w E S;refine wpList_plain hg λK O=>?_;have C:xs.toArray.map a.eval=vs.toArray:=by rw[z0e,E.evals hvs]
 have M:(execOp a.eval o).run P w=.ok (.enter f vs.toArray) w:=by
  obtain⟨dst,op,ty,J,D,guard⟩:=o;simp only at hop;subst hop;simp only[execOp,resolve,Act.eval];simp[Deferred.ofValue,invoke,hcall,C]
 unfold Oper.wp;rw[M,Oper.upon_enter];refine(hc w S.sub).mono ?_
 rintro e' Z ⟨v,h',L',rfl,hR,H⟩
 have U:=S.call H;rw[hd];exact O _ _ (k v h' L' H.le hR _ _ (E.put (zce hn)) U)
theorem zMS{ops:Array Oper}{rest:List Oper}{o:Oper}{d f:Nat}{xs:List Operand}{ts:Array TypeId}{vs:List Value}{R:Mem->Value->Prop}(hop:o.op=.call {callee:=.value (.func f),args:=xs.toArray,argTypes:=ts})
    (hg:o.guard=none)(hd:o.dst=some d)(hn:Nat.ble (d+1) n=true)(hcall:∀args w,(callFunc f args).run P w=.ok (.enter f args) w)(hvs:bD e xs vs)
    (hc:∀w,St w0 h0 L h w->Calls P f vs.toArray w (Ret w (mem w) R))(k:∀v,(∃h',R h' v)->GL P n w0 h0 ops Q rest ((d,v)::e) L h):GL P n w0 h0 ops Q (o::rest) e L h:=by
 intro a w E S;refine wpList_plain hg λK hK=>?_;have C:xs.toArray.map a.eval=vs.toArray:=by rw[z0e,E.evals hvs]
 have D:(execOp a.eval o).run P w=.ok (.enter f vs.toArray) w:=by
  obtain⟨dst,op,ty,Z,O,guard⟩:=o;simp only at hop;subst hop;simp only[execOp,resolve,Act.eval];simp[Deferred.ofValue,invoke,hcall,C]
 unfold Oper.wp;rw[D,Oper.upon_enter];refine(hc w S).mono ?_
 rintro e' U ⟨v,h',rfl,hR,H⟩
 have J:∀r∈L,∀b,r.fp=some b->b<w.heap.size:=λr D b M=>Res.fp_lt (S.ok r D) M;have S2:St w0 h0 L h U:=⟨S.below.trans (H.below.mono S.below.size),S.le,(S.sub.trans H.le).trans H.sub,S.fresh,λr D=>Res.kept (S.ok r D) λb M=>H.below.block b (J r D b M),S.own,S.apart⟩;rw[hd];exact hK _ _ (k v ⟨h',hR⟩ _ _ (E.put (zce hn)) S2)
theorem nM{ops:Array Oper}{rest:List Oper}{o:Oper}{d f:Nat}{xs:List Operand}{ts:Array TypeId}{vs:List Value}{R:Mem->Value->List Res->Prop}(hop:o.op=.call {callee:=.value (.func f),args:=xs.toArray,argTypes:=ts})
    (hg:o.guard=none)(hd:o.dst=some d)(hn:Nat.ble (d+1) n=true)(hcall:∀args w,(callFunc f args).run P w=.ok (.enter f args) w)(hvs:bD e xs vs)
    (hc:∀w,St w0 h0 L h w->Calls P f vs.toArray w (tP w0 h0 R))(k:∀v h' L',R h' v L'->GL P n w0 h0 ops Q rest ((d,v)::e) L' h'):GL P n w0 h0 ops Q (o::rest) e L h:=by
 intro a w E S;refine wpList_plain hg λK M=>?_;have C:xs.toArray.map a.eval=vs.toArray:=by rw[z0e,E.evals hvs]
 have J:(execOp a.eval o).run P w=.ok (.enter f vs.toArray) w:=by
  obtain⟨dst,op,ty,H,D,guard⟩:=o;simp only at hop;subst hop;simp only[execOp,resolve,Act.eval];simp[Deferred.ofValue,invoke,hcall,C]
 unfold Oper.wp;rw[J,Oper.upon_enter];refine(hc w S).mono ?_
 rintro e' U ⟨v,h',L',rfl,hR,O⟩
 rw[hd];exact M _ _ (k v h' L' hR _ _ (E.put (zce hn)) O)
theorem wT{ops:Array Oper}{rest:List Oper}{o:Oper}{A B:List Res}{r r':Res}(hv:Upd P n w0 h0 o e A r B h r')
    (hfp:r'.fp=r.fp)(hg:o.guard=none)(hd:o.dst=none)(k:GL P n w0 h0 ops Q rest e (A++r'::B) h):GL P n w0 h0 ops Q (o::rest) e (A++r::B) h:=by
 intro a w E S;refine wpList_plain hg λK M=>?_;obtain⟨O,H,D,C⟩:=hv a w E S;unfold Oper.wp;rw[H,Oper.upon_skip,hd];exact M _ _ (k _ _ E (S.grown D C λb J=>.inl (hfp▸J)))
end rules
theorem law_true{P:Program}{f:FuncId}{args:Array Value}{w:World}{h:Mem}(hc:Calls P f args w (Ret w h λ_ v=>v=.bool true)):Calls P f args w λe w'=>e=.returned (.bool true)/\Below w.heap.size w w':=
 hc.mono λ_ _ ⟨_,_,he,hv,S⟩=>⟨by rw[he,hv],S.below⟩
def vI(x:Int):Value:=.int .i64 x
def vU(k:IntKind)(x:Nat):Value:=.int k (x:Int)
def ub:IntKind->Nat
  | .u8=>256
  | .u16=>65536
  | .u32=>4294967296
  | .u64=>18446744073709551616
  |_=>0
theorem zXS{k:IntKind}(hk:k.signed=false)(x:Int):k.wrap x=x%(ub k:Int):=by
 cases k<;>simp[IntKind.signed] at hk<;>simp[IntKind.wrap,IntKind.signed,IntKind.bits,ub]
theorem zA4{k:IntKind}(hk:k.signed=false)(x:Nat):k.wrap (x:Int)=((x%ub k:Nat):Int):=by
 rw[zXS hk];omega
theorem oG{k:IntKind}(hk:k.signed=false){x:Nat}(hx:x<ub k):k.wrap (x:Int)=(x:Int):=by
 rw[zA4 hk,zoh hx]
theorem zAD{x:Int}(h1:-9223372036854775808<=x)(h2:x<9223372036854775808):IntKind.i64.wrap x=x:=by
 rw[IntKind.wrap_i64];omega
section ops
variable {P:Program}{n:Nat}{w0:World}{h0:Mem}{e:List (Nat×Value)}{L:List Res}{h:Mem}
variable {ds:Option Tmp}{ty:TypeId}{ps:String}{af:Array Edge}{gd:Option (Nat×Bool)}
theorem xG{x:Operand}{v:Value}(hx:zH e x=some v):OpV P n w0 h0 ⟨ds,.move x,ty,ps,af,gd⟩ e L h v:=by
 intro a w E S;simp[execOp,E.eval hx]
theorem pV{x:Operand}{v:Value}(hx:zH e x=some v):OpV P n w0 h0 ⟨ds,.assign x,ty,ps,af,gd⟩ e L h v:=by
 intro a w E S;simp[execOp,E.eval hx]
theorem mP{c x y:Operand}{v:Value}(hc:zH e c=some (.bool true))(hx:zH e x=some v):OpV P n w0 h0 ⟨ds,.pick c x y,ty,ps,af,gd⟩ e L h v:=by
 intro a w E S;simp[execOp,E.eval hc,E.eval hx,asBool]
theorem mQ{c x y:Operand}{v:Value}(hc:zH e c=some (.bool false))(hy:zH e y=some v):OpV P n w0 h0 ⟨ds,.pick c x y,ty,ps,af,gd⟩ e L h v:=by
 intro a w E S;simp[execOp,E.eval hc,E.eval hy,asBool]
theorem sP{x:Operand}{i:Nat}{vs:List Value}{v:Value}(hx:zH e x=some (.tuple vs.toArray))(hv:vs[i]?=some v):OpV P n w0 h0 ⟨ds,.extract x i,ty,ps,af,gd⟩ e L h v:=by
 intro a w E S;simp[execOp,E.eval hx,Instr.extract,hv]
theorem zRB{t:TypeId}{x:Operand}{p:Prop}(hx:zH e x=some (vB p)):OpV P n w0 h0 ⟨ds,.unOp .not t x,ty,ps,af,gd⟩ e L h (vB (¬p)):=by
 intro a w E S;simp[execOp,E.eval hx,Op.unary,vB]
theorem zZZ{t:TypeId}{x:Operand}{b:Bool}(hx:zH e x=some (.bool b)):OpV P n w0 h0 ⟨ds,.unOp .not t x,ty,ps,af,gd⟩ e L h (.bool !b):=by
 intro a w E S;simp[execOp,E.eval hx,Op.unary]
theorem mR{t:TypeId}{x:Operand}{m:Int}(hx:zH e x=some (vI m))(h1:-9223372036854775808<m)(h2:m<=9223372036854775808):OpV P n w0 h0 ⟨ds,.unOp .neg t x,ty,ps,af,gd⟩ e L h (vI (-m)):=by
 intro a w E S;have:=zAD (x:=-m) zot zot;simp[execOp,E.eval hx,Op.unary,Op.intArith,vI,this]
theorem xT(op:BinOp)(t:TypeId)(x y:Operand)(k k':IntKind)(m m':Int)(w:World):(eqGuard op t x y (.int k m) (.int k' m')).run P w=.ok () w:=by
 cases op<;>simp[eqGuard]
theorem yD{t yt:TypeId}{x y:Operand}{p q:Int}(hx:zH e x=some (vI p))(hy:zH e y=some (vI q))(h1:-9223372036854775808<=p+q)(h2:p+q<9223372036854775808):
 OpV P n w0 h0 ⟨ds,.binOp .add t x y yt,ty,ps,af,gd⟩ e L h (vI (p+q)):=by
 intro a w E S;simp[execOp,E.eval hx,E.eval hy,vI,xT,binOp,Op.intArith,zAD h1 h2]
theorem qT{t yt:TypeId}{x y:Operand}{p q:Int}(hx:zH e x=some (vI p))(hy:zH e y=some (vI q))(h1:-9223372036854775808<=p-q)(h2:p-q<9223372036854775808):
 OpV P n w0 h0 ⟨ds,.binOp .sub t x y yt,ty,ps,af,gd⟩ e L h (vI (p-q)):=by
 intro a w E S;simp[execOp,E.eval hx,E.eval hy,vI,xT,binOp,Op.intArith,zAD h1 h2]
theorem gK{t yt:TypeId}{x y:Operand}{p q:Int}(hx:zH e x=some (vI p))(hy:zH e y=some (vI q))(h1:-9223372036854775808<=p*q)(h2:p*q<9223372036854775808):
 OpV P n w0 h0 ⟨ds,.binOp .mul t x y yt,ty,ps,af,gd⟩ e L h (vI (p*q)):=by
 intro a w E S;simp[execOp,E.eval hx,E.eval hy,vI,xT,binOp,Op.intArith,zAD h1 h2]
theorem zGS{t yt:TypeId}{x y:Operand}{p q:Int}(hx:zH e x=some (vI p))(hy:zH e y=some (vI q))(h1:0<=p)(h2:p<9223372036854775808)(h3:0<q):
 OpV P n w0 h0 ⟨ds,.binOp .quo t x y yt,ty,ps,af,gd⟩ e L h (vI (p/q)):=by
 intro a w E S;have D:p.tdiv q=p/q:=yee h1;have J:0<=p/q:=Int.ediv_nonneg h1 zot;have H:p/q<=p:=Int.ediv_le_self q h1;have C:q≠0:=by omega
 simp[execOp,E.eval hx,E.eval hy,vI,xT,binOp,Op.intDiv,C,D,zAD (x:=p/q) zot zot]
theorem wI{t yt:TypeId}{x y:Operand}{p q:Int}(hx:zH e x=some (vI p))(hy:zH e y=some (vI q))(h1:0<=p)(h3:0<q):
 OpV P n w0 h0 ⟨ds,.binOp .rem t x y yt,ty,ps,af,gd⟩ e L h (vI (p%q)):=by
 intro a w E S;have D:p.tmod q=p%q:=Int.tmod_eq_emod_of_nonneg h1;have C:q≠0:=by omega
 simp[execOp,E.eval hx,E.eval hy,vI,xT,binOp,Op.intDiv,C,D]
theorem yS{t yt:TypeId}{x y:Operand}{p q:Int}(hx:zH e x=some (vI p))(hy:zH e y=some (vI q)):OpV P n w0 h0 ⟨ds,.binOp .lss t x y yt,ty,ps,af,gd⟩ e L h (vB (p<q)):=by
 intro a w E S;simp[execOp,E.eval hx,E.eval hy,vI,xT,binOp,Op.intCmp,vB]
theorem zGW{t yt:TypeId}{x y:Operand}{p q:Int}(hx:zH e x=some (vI p))(hy:zH e y=some (vI q)):OpV P n w0 h0 ⟨ds,.binOp .leq t x y yt,ty,ps,af,gd⟩ e L h (vB (p<=q)):=by
 intro a w E S;simp[execOp,E.eval hx,E.eval hy,vI,xT,binOp,Op.intCmp,vB]
theorem zBR{t yt:TypeId}{x y:Operand}{p q:Int}(hx:zH e x=some (vI p))(hy:zH e y=some (vI q)):OpV P n w0 h0 ⟨ds,.binOp .gtr t x y yt,ty,ps,af,gd⟩ e L h (vB (q<p)):=by
 intro a w E S;simp[execOp,E.eval hx,E.eval hy,vI,xT,binOp,Op.intCmp,vB]
theorem bW{t yt:TypeId}{x y:Operand}{p q:Int}(hx:zH e x=some (vI p))(hy:zH e y=some (vI q)):OpV P n w0 h0 ⟨ds,.binOp .geq t x y yt,ty,ps,af,gd⟩ e L h (vB (q<=p)):=by
 intro a w E S;simp[execOp,E.eval hx,E.eval hy,vI,xT,binOp,Op.intCmp,vB]
theorem rR{t yt:TypeId}{x y:Operand}{p q:Int}(hx:zH e x=some (vI p))(hy:zH e y=some (vI q)):OpV P n w0 h0 ⟨ds,.binOp .eql t x y yt,ty,ps,af,gd⟩ e L h (vB (p=q)):=by
 intro a w E S;simp[execOp,E.eval hx,E.eval hy,vI,xT,binOp,Op.intCmp,vB,BEq.beq]
theorem zBQ{t yt:TypeId}{x y:Operand}{p q:Int}(hx:zH e x=some (vI p))(hy:zH e y=some (vI q)):OpV P n w0 h0 ⟨ds,.binOp .neq t x y yt,ty,ps,af,gd⟩ e L h (vB (p≠q)):=by
 intro a w E S;have:(p != q)=!decide (p=q):=I;simp[execOp,E.eval hx,E.eval hy,vI,xT,binOp,Op.intCmp,vB,this]
theorem sQ{k:IntKind}{W:Nat}{t yt:TypeId}{x y:Operand}{p q:Nat}(hk:k.signed=false)(hW:ub k=W)(hx:zH e x=some (vU k p))(hy:zH e y=some (vU k q))(hlt:p+q<W):
 OpV P n w0 h0 ⟨ds,.binOp .add t x y yt,ty,ps,af,gd⟩ e L h (vU k (p+q)):=by
 intro a w E S;have:=oG hk (x:=p+q) zot;simp only[Int.natCast_add] at this;simp[execOp,E.eval hx,E.eval hy,vU,xT,binOp,Op.intArith,this]
theorem zV8{k:IntKind}{W:Nat}{t yt:TypeId}{x y:Operand}{p q:Nat}(hk:k.signed=false)(hW:ub k=W)(hx:zH e x=some (vU k p))(hy:zH e y=some (vU k q)):
 OpV P n w0 h0 ⟨ds,.binOp .add t x y yt,ty,ps,af,gd⟩ e L h (vU k ((p+q)%W)):=by
 intro a w E S;have:=zA4 hk (p+q);rw[hW] at this;simp only[Int.natCast_add] at this;simp[execOp,E.eval hx,E.eval hy,vU,xT,binOp,Op.intArith,this]
theorem lE{k:IntKind}{W:Nat}{t yt:TypeId}{x y:Operand}{p q:Nat}(hk:k.signed=false)(hW:ub k=W)(hx:zH e x=some (vU k p))(hy:zH e y=some (vU k q))(hle:q<=p)(hlt:p<W):
 OpV P n w0 h0 ⟨ds,.binOp .sub t x y yt,ty,ps,af,gd⟩ e L h (vU k (p-q)):=by
 intro a w E S;have:=oG hk (x:=p-q) zot;rw[Int.ofNat_sub hle] at this;simp[execOp,E.eval hx,E.eval hy,vU,xT,binOp,Op.intArith,this,Int.ofNat_sub hle]
theorem mO{k:IntKind}{W:Nat}{t yt:TypeId}{x y:Operand}{p q:Nat}(hk:k.signed=false)(hW:ub k=W)(hx:zH e x=some (vU k p))(hy:zH e y=some (vU k q))(hlt:q<=W):
 OpV P n w0 h0 ⟨ds,.binOp .sub t x y yt,ty,ps,af,gd⟩ e L h (vU k ((p+W-q)%W)):=by
 intro a w E S;have h1:=zXS hk ((p:Int)-q);rw[hW] at h1;have h2:((p:Int)-q)%(W:Int)=(((p+W-q)%W:Nat):Int):=by
  have C:((p+W-q:Nat):Int)=(p:Int)-q+W:=by omega
  rw[Int.natCast_emod,C,Int.add_emod_right]
 simp[execOp,E.eval hx,E.eval hy,vU,xT,binOp,Op.intArith,h1,h2]
theorem iZ{k:IntKind}{W:Nat}{t yt:TypeId}{x y:Operand}{p q:Nat}(hk:k.signed=false)(hW:ub k=W)(hx:zH e x=some (vU k p))(hy:zH e y=some (vU k q))(hlt:p*q<W):
 OpV P n w0 h0 ⟨ds,.binOp .mul t x y yt,ty,ps,af,gd⟩ e L h (vU k (p*q)):=by
 intro a w E S;have:=oG hk (x:=p*q) zot;simp only[zeu] at this;simp[execOp,E.eval hx,E.eval hy,vU,xT,binOp,Op.intArith,this]
theorem bV{k:IntKind}{W:Nat}{t yt:TypeId}{x y:Operand}{p q:Nat}(hk:k.signed=false)(hW:ub k=W)(hx:zH e x=some (vU k p))(hy:zH e y=some (vU k q))(hlt:p<W)(h0':0<q):
 OpV P n w0 h0 ⟨ds,.binOp .quo t x y yt,ty,ps,af,gd⟩ e L h (vU k (p/q)):=by
 intro a w E S;have h1:p/q<=p:=zti _ _;have:=oG hk (x:=p/q) zot;have h2:((p:Int)).tdiv q=(p:Int)/(q:Int):=yee zot;have h3:q≠0:=by omega
 have C:k.wrap ((p:Int)/(q:Int))=(p:Int)/(q:Int):=this;simp only[execOp,E.eval hx,E.eval hy,vU,binOp];simp[xT,Op.intDiv,h3,h2,C]
theorem bU{k:IntKind}{t yt:TypeId}{x y:Operand}{p q:Nat}(hx:zH e x=some (vU k p))(hy:zH e y=some (vU k q))(h0':0<q):
 OpV P n w0 h0 ⟨ds,.binOp .rem t x y yt,ty,ps,af,gd⟩ e L h (vU k (p%q)):=by
 intro a w E S;have h2:((p:Int)).tmod q=(p:Int)%(q:Int):=Int.tmod_eq_emod_of_nonneg zot;have h3:q≠0:=by omega
 simp only[execOp,E.eval hx,E.eval hy,vU,binOp];simp[xT,Op.intDiv,h3,h2]
theorem zGT{k:IntKind}{t yt:TypeId}{x y:Operand}{p q:Nat}(hx:zH e x=some (vU k p))(hy:zH e y=some (vU k q)):OpV P n w0 h0 ⟨ds,.binOp .lss t x y yt,ty,ps,af,gd⟩ e L h (vB (p<q)):=by
 intro a w E S;simp[execOp,E.eval hx,E.eval hy,vU,xT,binOp,Op.intCmp,vB]
theorem mT{k:IntKind}{t yt:TypeId}{x y:Operand}{p q:Nat}(hx:zH e x=some (vU k p))(hy:zH e y=some (vU k q)):OpV P n w0 h0 ⟨ds,.binOp .gtr t x y yt,ty,ps,af,gd⟩ e L h (vB (q<p)):=by
 intro a w E S;simp[execOp,E.eval hx,E.eval hy,vU,xT,binOp,Op.intCmp,vB]
theorem cK{k:IntKind}{t yt:TypeId}{x y:Operand}{p q:Nat}(hx:zH e x=some (vU k p))(hy:zH e y=some (vU k q)):OpV P n w0 h0 ⟨ds,.binOp .geq t x y yt,ty,ps,af,gd⟩ e L h (vB (q<=p)):=by
 intro a w E S;simp[execOp,E.eval hx,E.eval hy,vU,xT,binOp,Op.intCmp,vB]
theorem fS{k:IntKind}{t yt:TypeId}{x y:Operand}{p q:Nat}(hx:zH e x=some (vU k p))(hy:zH e y=some (vU k q)):OpV P n w0 h0 ⟨ds,.binOp .eql t x y yt,ty,ps,af,gd⟩ e L h (vB (p=q)):=by
 intro a w E S;have h1:((p:Int)==(q:Int))=decide (p=q):=by rw[yeu];simp;omega
 simp only[execOp,E.eval hx,E.eval hy,vU,binOp];simp only[Op.intCmp,vB,h1];simp[xT]
theorem tU{k:IntKind}{t yt:TypeId}{x y:Operand}{p q:Nat}(hx:zH e x=some (vU k p))(hy:zH e y=some (vU k q)):OpV P n w0 h0 ⟨ds,.binOp .neq t x y yt,ty,ps,af,gd⟩ e L h (vB (p≠q)):=by
 intro a w E S;have h1:((p:Int) != (q:Int))=decide (p≠q):=by rw[yeu];simp;omega
 simp only[execOp,E.eval hx,E.eval hy,vU,binOp];simp only[Op.intCmp,vB,h1];simp[xT]
theorem sW(k:IntKind)(hk:k.signed=false):2^k.bits=ub k:=by cases k<;>simp[IntKind.signed] at hk<;>rfl
theorem fQ{k yk:IntKind}{t yt:TypeId}{x y:Operand}{p s:Nat}(hk:k.signed=false)(hx:zH e x=some (vU k p))(hy:zH e y=some (.int yk (s:Int)))(hp:p<ub k):
 OpV P n w0 h0 ⟨ds,.binOp .shr t x y yt,ty,ps,af,gd⟩ e L h (vU k (p/2^s)):=by
 intro a w E S;have h1:¬((s:Int)<0):=by omega
 have h2:((p:Int)).fdiv (2^min s k.bits)=((p/2^s:Nat):Int):=by
  rw[Int.fdiv_eq_ediv_of_nonneg _ (Int.le_of_lt (Int.pow_pos zot))]
  rcases Nat.le_total s k.bits with hle|hle
  · rw[ztu hle];rfl
  · rw[Nat.min_eq_right hle]
    have D:p/2^s=0:=z1i (zme hp (by rw[<-sW k hk];exact zju zot hle));have C:p/2^k.bits=0:=z1i (by rw[sW k hk];exact hp);rw[D];have:((p:Int)/(2^k.bits:Int))=((p/2^k.bits:Nat):Int):=I;rw[this,C]
 simp only[execOp,E.eval hx,E.eval hy,vU,binOp];simp[xT,Op.shift,h1,h2]
theorem fR{k yk:IntKind}{W:Nat}{t yt:TypeId}{x y:Operand}{p s:Nat}(hk:k.signed=false)(hW:ub k=W)(hx:zH e x=some (vU k p))(hy:zH e y=some (.int yk (s:Int))):
 OpV P n w0 h0 ⟨ds,.binOp .shl t x y yt,ty,ps,af,gd⟩ e L h (vU k (p*2^s%W)):=by
 intro a w E S;have h1:¬((s:Int)<0):=by omega
 have h2:k.wrap ((p:Int)*2^min s k.bits)=((p*2^s%W:Nat):Int):=by
  rcases Nat.le_total s k.bits with hle|hle
  · rw[ztu hle,<-hW,<-zA4 hk];simp
  · rw[Nat.min_eq_right hle]
    have D:p*2^s%W=0:=by
     rw[<-hW,<-sW k hk];exact Nat.mod_eq_zero_of_dvd (Nat.dvd_trans (Nat.pow_dvd_pow 2 hle) (Nat.dvd_mul_left _ _))
    have C:((p*2^k.bits%ub k:Nat):Int)=0:=by rw[sW k hk];simp
    have:=zA4 hk (p*2^k.bits);rw[C] at this;rw[D]
    simpa using this
 simp only[execOp,E.eval hx,E.eval hy,vU,binOp];simp[xT,Op.shift,h1,h2]
theorem rX{k:IntKind}{t yt:TypeId}{x y:Operand}{p q:Nat}(hk:k.signed=false)(hx:zH e x=some (vU k p))(hy:zH e y=some (vU k q))(hp:p<ub k)(hq:q<ub k):
 OpV P n w0 h0 ⟨ds,.binOp .or t x y yt,ty,ps,af,gd⟩ e L h (vU k (p |||q)):=by
 intro a w E S;have J:=sW k hk;have h3:p |||q<2^k.bits:=Nat.or_lt_two_pow zot zot;have H:=oG hk (x:=p |||q) zot;have D:=zoh (a:=p) (b:=2^k.bits) zot;have C:=zoh (a:=q) (b:=2^k.bits) zot;simp only[execOp,E.eval hx,E.eval hy,vU,binOp];simp[xT,Op.intBits,H,D,C]
theorem zZ5{k:IntKind}{t yt:TypeId}{x y:Operand}{p q:Nat}(hk:k.signed=false)(hx:zH e x=some (vU k p))(hy:zH e y=some (vU k q))(hp:p<ub k)(hq:q<ub k):
 OpV P n w0 h0 ⟨ds,.binOp .and t x y yt,ty,ps,af,gd⟩ e L h (vU k (p&&&q)):=by
 intro a w E S;have J:=sW k hk;have h3:p&&&q<=p:=Nat.and_le_left;have H:=oG hk (x:=p&&&q) zot;have D:=zoh (a:=p) (b:=2^k.bits) zot;have C:=zoh (a:=q) (b:=2^k.bits) zot;simp only[execOp,E.eval hx,E.eval hy,vU,binOp];simp[xT,Op.intBits,H,D,C]
theorem iX{t:TypeId}(hu:P.underlying t=some .bool)(x y:Bool)(w:World):(Op.equal t (.bool x) (.bool y)).run P w=.ok (x==y) w:=by
 have h1:Op.equal t (.bool x) (.bool y)=Op.equalIn (9999+1) t (.bool x) (.bool y):=I;rw[h1,Op.equalIn];simp[run_underlying hu]
theorem lF{t yt:TypeId}{x y:Operand}{p q:Prop}(hu:P.underlying t=some .bool)(hx:zH e x=some (vB p))(hy:zH e y=some (vB q)):
 OpV P n w0 h0 ⟨ds,.binOp .eql t x y yt,ty,ps,af,gd⟩ e L h (vB (p↔q)):=by
 intro a w E S;simp only[execOp,E.eval hx,E.eval hy,vB,binOp];simp[eqGuard,iX hu]
 by_cases hp:p<;>by_cases hq:q<;>simp[hp,hq]
theorem sO{t yt:TypeId}{x y:Operand}{p q:Prop}(hu:P.underlying t=some .bool)(hx:zH e x=some (vB p))(hy:zH e y=some (vB q)):
 OpV P n w0 h0 ⟨ds,.binOp .neq t x y yt,ty,ps,af,gd⟩ e L h (vB (¬(p↔q))):=by
 intro a w E S;simp only[execOp,E.eval hx,E.eval hy,vB,binOp];simp[eqGuard,iX hu]
 by_cases hp:p<;>by_cases hq:q<;>simp[hp,hq]
theorem tI{k k':IntKind}{W:Nat}{s t:TypeId}{d:TypeDesc}{x:Operand}{p:Nat}(hs:P.underlying s=some d)(ht:P.underlying t=some (.int k'))(hk:k'.signed=false)(hW:ub k'=W)(hx:zH e x=some (vU k p)):
 OpV P n w0 h0 ⟨ds,.convert s t x,ty,ps,af,gd⟩ e L h (vU k' (p%W)):=by
 intro a w E S;have:=zA4 hk p;rw[hW] at this;simp[execOp,E.eval hx,vU,convert,run_underlying hs,run_underlying ht,Conv.intToInt,this]
theorem vX{k k':IntKind}{W:Nat}{s t:TypeId}{d:TypeDesc}{x:Operand}{p:Nat}(hs:P.underlying s=some d)(ht:P.underlying t=some (.int k'))(hk:k'.signed=false)(hW:ub k'=W)(hx:zH e x=some (vU k p))(hp:p<W):
 OpV P n w0 h0 ⟨ds,.convert s t x,ty,ps,af,gd⟩ e L h (vU k' p):=by
 have:=tI (n:=n) (w0:=w0) (h0:=h0) (L:=L) (h:=h) (ds:=ds) (ty:=ty) (ps:=ps) (af:=af) (gd:=gd) hs ht hk hW hx
 rwa [zoh hp] at this
theorem zAJ{k':IntKind}{W:Nat}{s t:TypeId}{d:TypeDesc}{x:Operand}{p:Nat}(hs:P.underlying s=some d)(ht:P.underlying t=some (.int k'))(hk:k'.signed=false)(hW:ub k'=W)(hx:zH e x=some (vI (p:Int)))(hp:p<W):
 OpV P n w0 h0 ⟨ds,.convert s t x,ty,ps,af,gd⟩ e L h (vU k' p):=by
 intro a w E S;have:=oG hk (x:=p) zot;simp[execOp,E.eval hx,vI,vU,convert,run_underlying hs,run_underlying ht,Conv.intToInt,this]
theorem zGX{k:IntKind}{s t:TypeId}{d:TypeDesc}{x:Operand}{p:Nat}(hs:P.underlying s=some d)(ht:P.underlying t=some (.int .i64))(hx:zH e x=some (vU k p))(hp:p<9223372036854775808):
 OpV P n w0 h0 ⟨ds,.convert s t x,ty,ps,af,gd⟩ e L h (vI (p:Int)):=by
 intro a w E S;have:=zAD (x:=(p:Int)) zot zot;simp[execOp,E.eval hx,vI,vU,convert,run_underlying hs,run_underlying ht,Conv.intToInt,this]
def Sl(h:Mem)(k:Nat)(v:Value)(m:Nat)(cs:List Value):Prop:=
 ∃a cap,v=.slice a m cap/\m<=cap/\cap<=maxLen/\cs.length=m*k/\∀i,i<cs.length->∃b o,a=some ⟨b,o,none⟩/\cell h b (o+i)=cs[i]?
theorem Sl.mono{h h':Mem}{k:Nat}{v:Value}{m:Nat}{cs:List Value}(s:Sl h k v m cs)(hh:MLe h h'):Sl h' k v m cs:=by
 obtain⟨a,C,D,h1,h2,h3,H⟩:=s;refine⟨a,C,D,h1,h2,h3,λi hi=>?_⟩;obtain⟨b,o,ha,hc⟩:=H i hi;refine⟨b,o,ha,?_⟩;rw[zoc hi] at hc ⊢;exact zD7 hh hc
theorem Sl.nil(h:Mem)(k:Nat):Sl h k (.slice none 0 0) 0 []:=⟨none,0,rfl,zbe _,by unfold maxLen;omega,zo3,λi hi=>by simp at hi⟩
theorem Sl.one{h:Mem}{k:Nat}{v:Value}{m:Nat}{cs:List Value}(s:Sl h k v m cs):∃a cap,v=.slice a m cap:=let ⟨a,cap,hv,_⟩:=s;⟨a,cap,hv⟩
theorem Sl.lt63{h:Mem}{k:Nat}{v:Value}{m:Nat}{cs:List Value}(s:Sl h k v m cs):m<9223372036854775808:=by
 obtain⟨a,C,D,h1,h2,_⟩:=s;unfold maxLen at h2;omega
def zI(k:Nat)(v:Value)(i:Nat):Value:=
 match v with
 | .slice (some a) _ _=>.pointer (some (a.add (i*k)))
 |_=>undef
theorem jY(b o j:Nat):(⟨b,o,none⟩:Addr).add j=⟨b,o+j,none⟩:=by
 unfold Addr.add
 split
 · simp_all
 · rfl
theorem mS{v:Value}{m:Nat}{t:TypeId}{E:TypeId}{x:Operand}(ht:P.underlying t=some (.slice E))(hx:zH e x=some v)(hv:∃a cap,v=.slice a m cap):
 OpV P n w0 h0 ⟨ds,.call {callee:=.builtin .len,args:=#[x],argTypes:=#[t]},ty,ps,af,gd⟩ e L h (vI (m:Int)):=by
 obtain⟨a,cap,rfl⟩:=hv;intro a w E S;simp[execOp,resolve,invoke,builtin,Builtin.len_,E.eval hx,run_underlying ht,goInt,vI]
theorem dB{v:Value}{m:Nat}{cs:List Value}{k:Nat}{t E:TypeId}{x y:Operand}{q:Int}(i:Nat)(ht:P.underlying t=some (.slice E))(hsz:∀w,(Go.sizeOf E).run P w=.ok k w)(hx:zH e x=some v)(hy:zH e y=some (vI q))
    (hv:Sl h k v m cs)(hq:q=(i:Int))(hi:i<m)(hk:0<k):OpV P n w0 h0 ⟨ds,.indexAddr t x y,ty,ps,af,gd⟩ e L h (zI k v i):=by
 obtain⟨O,M,rfl,h1,h2,h3,J⟩:=hv;subst hq;have C:0<cs.length:=by rw[h3];exact Nat.mul_pos zot hk
 obtain⟨b,o,rfl,_⟩:=J 0 C;intro a w D S;have H:(0:Int)<=(i:Int)/\(i:Int)<(m:Int):=by omega
 simp[execOp,D.eval hx,D.eval hy,Instr.indexAt,vI,asIntOf,run_underlying ht,hsz,zI,hi]
theorem Sl.cell{h:Mem}{k:Nat}{v:Value}{m:Nat}{cs:List Value}(s:Sl h k v m cs){i j:Nat}{u:Value}(hj:cs[i*k+j]?=some u):∃b o,zI k v i=.pointer (some ⟨b,o,none⟩)/\Bk.cell h b (o+j)=some u:=by
 obtain⟨a,H,rfl,h1,h2,h3,D⟩:=s;obtain⟨C,_⟩:=zxi.1 hj;obtain⟨b,o,rfl,hc⟩:=D _ C;refine⟨b,o+i*k,?_,?_⟩
 · simp[zI,jY]
 · rw[hj] at hc
   rw[<-hc];congr 1;omega
theorem zGV{v u:Value}{m:Nat}{cs:List Value}{t:TypeId}{x:Operand}{i:Nat}(ha:∀w,(isAgg t).run P w=.ok false w)(hx:zH e x=some (zI 1 v i))(hv:Sl h 1 v m cs)(hi:cs[i]?=some u):
 OpV P n w0 h0 ⟨ds,.load t x,ty,ps,af,gd⟩ e L h u:=by
 obtain⟨b,o,C,hc⟩:=hv.cell (i:=i) (j:=0) (u:=u) (by simpa using hi);rw[C] at hx;intro a w E S;have hw:=lL S.sub hc;simp only[zpi] at hw;simp[execOp,E.eval hx,Instr.loadAt,Instr.sureAddr,loadVar,ha,Go.load,Sem.run,hw]
def us(k:IntKind)(xs:List Nat):List Value:=xs.map (vU k)
structure Us(k:IntKind)(h:Mem)(v:Value)(xs:List Nat):Prop where
 sl:Sl h 1 v xs.length (us k xs)
 lt:∀x∈xs,x<ub k
theorem Us.mono{k:IntKind}{h h':Mem}{v:Value}{xs:List Nat}(s:Us k h v xs)(hh:MLe h h'):Us k h' v xs:=⟨s.sl.mono hh,s.lt⟩
theorem Us.nil(k:IntKind)(h:Mem):Us k h (.slice none 0 0) []:=⟨Sl.nil h 1,zo3⟩
theorem Us.one{k:IntKind}{h:Mem}{v:Value}{xs:List Nat}(s:Us k h v xs):∃a cap,v=.slice a xs.length cap:=s.sl.one
theorem Us.lt63{k:IntKind}{h:Mem}{v:Value}{xs:List Nat}(s:Us k h v xs):xs.length<9223372036854775808:=s.sl.lt63
theorem zQG{k:IntKind}{xs:List Nat}{i:Nat}(hi:i<xs.length):(us k xs)[i]?=some (vU k (xs.getD i 0)):=by
 simp[us,hi]
theorem Us.getLt{k:IntKind}{h:Mem}{v:Value}{xs:List Nat}(s:Us k h v xs)(i:Nat):xs.getD i 0<ub k\/ub k=0:=by
 by_cases hi:i<xs.length
 · rw[zoa,zoc hi]
   exact .inl (s.lt _ (ybe hi))
 · rw[zoa,zre zot]
   simp only[Option.getD_none];omega
theorem Us.get32{h:Mem}{v:Value}{xs:List Nat}(s:Us .u32 h v xs)(i:Nat):xs.getD i 0<4294967296:=(s.getLt i).resolve_right zox
theorem vW{k:IntKind}{v:Value}{xs:List Nat}{t E:TypeId}{x:Operand}(ht:P.underlying t=some (.slice E))(hx:zH e x=some v)(hv:Us k h v xs):
 OpV P n w0 h0 ⟨ds,.call {callee:=.builtin .len,args:=#[x],argTypes:=#[t]},ty,ps,af,gd⟩ e L h (vI (xs.length:Int)):=mS ht hx hv.one
theorem zV{k:IntKind}{v:Value}{xs:List Nat}{t E:TypeId}{x y:Operand}{q:Int}(i:Nat)(ht:P.underlying t=some (.slice E))(hsz:∀w,(Go.sizeOf E).run P w=.ok 1 w)(hx:zH e x=some v)(hy:zH e y=some (vI q))
    (hv:Us k h v xs)(hq:q=(i:Int))(hi:i<xs.length):OpV P n w0 h0 ⟨ds,.indexAddr t x y,ty,ps,af,gd⟩ e L h (zI 1 v i):=dB i ht hsz hx hy hv.sl hq hi zot
theorem wB{k:IntKind}{v:Value}{xs:List Nat}{t:TypeId}{x:Operand}{i:Nat}(ha:∀w,(isAgg t).run P w=.ok false w)(hx:zH e x=some (zI 1 v i))(hv:Us k h v xs)(hi:i<xs.length):
 OpV P n w0 h0 ⟨ds,.load t x,ty,ps,af,gd⟩ e L h (vU k (xs.getD i 0)):=zGV ha hx hv.sl (zQG hi)
def tB(k:Nat)(v:Value)(lo hi:Nat):Value:=
 match v with
 | .slice a _ cap=>.slice (if cap=lo then a else a.map (·.add (lo*k))) (hi-lo) (cap-lo)
 |_=>undef
theorem Sl.sub{h:Mem}{k:Nat}{v:Value}{m:Nat}{cs:List Value}(s:Sl h k v m cs){lo hi:Nat}(h1:lo<=hi)(h2:hi<=m):Sl h k (tB k v lo hi) (hi-lo) ((cs.drop (lo*k)).take ((hi-lo)*k)):=by
 obtain⟨a,H,rfl,h3,U,J,M⟩:=s;have O:(hi-lo)*k<=m*k-lo*k:=by rw[<-yzi];exact zgi _ zot
 refine⟨_,_,I,zot,zot,by rw[zei,ziu,J];omega,λi C=>?_⟩;rw[zei,ziu,J] at C;have D:lo*k+i<cs.length:=by omega
 obtain⟨b,o,rfl,hc⟩:=M _ D
 by_cases hcl:H=lo
 · exfalso
   have:hi-lo=0:=by omega
   rw[this] at C;omega
 · refine⟨b,o+lo*k,by simp[hcl,jY],?_⟩
   rw[zpe,zau zot,zxu,<-hc]
   congr 1
   omega
theorem Us.sub{k:IntKind}{h:Mem}{v:Value}{xs:List Nat}(s:Us k h v xs){lo hi:Nat}(h1:lo<=hi)(h2:hi<=xs.length):Us k h (tB 1 v lo hi) ((xs.drop lo).take (hi-lo)):=by
 have:=s.sl.sub h1 h2;simp only[z6e] at this;refine⟨?_,λx hx=>s.lt x (z7i (z2e hx))⟩;have C:((xs.drop lo).take (hi-lo)).length=hi-lo:=by rw[zei,ziu];omega
 rw[C]
 simpa[us] using this
theorem zNS{k:Nat}{t E:TypeId}(w:World)(ht:P.underlying t=some (.slice E))(hsz:∀w,(Go.sizeOf E).run P w=.ok k w)(a:Option Addr)(m cap hi:Nat)(h2:hi<=cap):
 (Instr.sliceAt t (.slice a m cap) none (some (vI hi)) none).run P w=.ok (tB k (.slice a m cap) 0 hi) w:=by
 simp[Instr.sliceAt,Instr.slice,run_underlying ht,Instr.sliceBounds,Instr.sliceBound,asIntOf,vI,hsz,tB,h2]
theorem zNR{k:Nat}{t E:TypeId}(w:World)(ht:P.underlying t=some (.slice E))(hsz:∀w,(Go.sizeOf E).run P w=.ok k w)(a:Option Addr)(m cap lo:Nat)(h1:lo<=m):
 (Instr.sliceAt t (.slice a m cap) (some (vI lo)) none none).run P w=.ok (tB k (.slice a m cap) lo m) w:=by
 simp[Instr.sliceAt,Instr.slice,run_underlying ht,Instr.sliceBounds,Instr.sliceBound,asIntOf,vI,hsz,tB,h1]
theorem zAI{v:Value}{m k:Nat}{t E:TypeId}{x hi:Operand}{q:Int}(j:Nat)(ht:P.underlying t=some (.slice E))(hsz:∀w,(Go.sizeOf E).run P w=.ok k w)(hx:zH e x=some v)(hh:zH e hi=some (vI q))
    (hv:∃a cap,v=.slice a m cap/\m<=cap)(hq:q=(j:Int))(h2:j<=m):OpV P n w0 h0 ⟨ds,.slice t x none (some hi) none,ty,ps,af,gd⟩ e L h (tB k v 0 j):=by
 obtain⟨a,cap,rfl,hc⟩:=hv;subst hq;intro D w C S;have:=zNS (P:=P) w ht hsz a m cap j zot;simp[execOp,C.eval hx,C.eval hh,this]
theorem jI{v:Value}{m k:Nat}{t E:TypeId}{x lo:Operand}{p:Int}(i:Nat)(ht:P.underlying t=some (.slice E))(hsz:∀w,(Go.sizeOf E).run P w=.ok k w)(hx:zH e x=some v)(hl:zH e lo=some (vI p))
    (hv:∃a cap,v=.slice a m cap/\m<=cap)(hp:p=(i:Int))(h1:i<=m):OpV P n w0 h0 ⟨ds,.slice t x (some lo) none none,ty,ps,af,gd⟩ e L h (tB k v i m):=by
 obtain⟨a,cap,rfl,hc⟩:=hv;subst hp;intro D w C S;have:=zNR (P:=P) w ht hsz a m cap i h1;simp[execOp,C.eval hx,C.eval hl,this]
theorem Sl.shape{h:Mem}{k:Nat}{v:Value}{m:Nat}{cs:List Value}(s:Sl h k v m cs):∃a cap,v=.slice a m cap/\m<=cap:=let ⟨a,cap,hv,h1,_⟩:=s;⟨a,cap,hv,h1⟩
theorem Us.shape{k:IntKind}{h:Mem}{v:Value}{xs:List Nat}(s:Us k h v xs):∃a cap,v=.slice a xs.length cap/\xs.length<=cap:=s.sl.shape
theorem zRG{v:Value}{t E yt:TypeId}{x:Operand}(ht:P.underlying t=some (.slice E))(hx:zH e x=some v)(hv:∃a m cap,v=.slice a m cap):
 OpV P n w0 h0 ⟨ds,.binOp .eql t x (.const (.slice none 0 0)) yt,ty,ps,af,gd⟩ e L h (vB (∃m cap,v=.slice none m cap)):=by
 obtain⟨a,m,cap,rfl⟩:=hv;intro D w C S;have h1:=Lib.run_eql_slice_nil (P:=P) w t E a m cap 0 0 ht;have h2:(vB (∃m' cap',Value.slice a m cap=.slice none m' cap'))=.bool a.isNone:=by
  cases a<;>simp[vB]
 simp only[execOp,C.eval hx,h2];have h3:(eqGuard .eql t x (.const (.slice none 0 0)) (.slice a m cap) (.slice none 0 0)).run P w=.ok () w:=by simp[eqGuard]
 simp[h3,Act.eval,h1]
theorem zRF{s r:ByteArray}{t yt:TypeId}{x y:Operand}(hx:zH e x=some (.string s))(hy:zH e y=some (.string r)):OpV P n w0 h0 ⟨ds,.binOp .eql t x y yt,ty,ps,af,gd⟩ e L h (vB (s=r)):=by
 intro a w C S;have h1:(s.toList==r.toList)=@decide (s=r) (Classical.propDecidable _):=by
  rw[yeu];simp only[beq_iff_eq,zhi];exact⟨λhh=>by
   have h2:s.data.toList=r.data.toList:=by
    rwa [ByteArray.toList_eq,ByteArray.toList_eq] at hh
   cases s;cases r
   simp only[ByteArray.mk.injEq];exact Array.toList_inj.1 h2,λhh=>by rw[hh]⟩
 simp only[execOp,C.eval hx,C.eval hy,binOp,vB];simp[eqGuard,Op.stringOp,h1]
end ops
section own
variable {P:Program}{n:Nat}{w0:World}{h0:Mem}{e:List (Nat×Value)}{L:List Res}{h:Mem}{Q:Exit->Act->World->Prop}
def Res.us(E:Nat)(k:IntKind)(v:Value)(xs:List Nat):Res:=.gs E 1 v xs.length (Bk.us k xs)
theorem zW9{ops:Array Oper}{l:List Oper}{A B:List Res}{E k m:Nat}{v:Value}{cs:List Value}(k':∀h',MLe h h'->Sl h' k v m cs->GL P n w0 h0 ops Q l e (A++B) h'):GL P n w0 h0 ops Q l e (A++.gs E k v m cs::B) h:=by
 intro a w O S;have C:=S.ok (.gs E k v m cs) zo3;have J:=C;obtain⟨M,U⟩:=C
 rcases U with⟨rfl,rfl⟩|⟨g,cap,cur,rfl,hb,hg,hn,hm,hcs,ht⟩
 · have D:cs=[]:=zof (by simpa using M)
   subst D;exact k' h (MLe.refl h) (Sl.nil h k) a w O S.drop
 · obtain⟨Z,H⟩:=S.freeze (b:=g) (o:=.cells cur E (0,0)) I hg
   refine k' _ H ?_ a w O Z;refine⟨_,cap,I,hn,hm,M,λi hi=>⟨g,0,I,?_⟩⟩;unfold cell;simp only[if_true,zyi];rw[<-ht,zpe,zau zot];simp
theorem zCK{ops:Array Oper}{l:List Oper}{A B:List Res}{E:Nat}{k:IntKind}{v:Value}{xs:List Nat}(hlt:∀x∈xs,x<ub k)(k':∀h',MLe h h'->Us k h' v xs->GL P n w0 h0 ops Q l e (A++B) h'):
 GL P n w0 h0 ops Q l e (A++.us E k v xs::B) h:=zW9 λh' hh hs=>k' h' hh ⟨hs,hlt⟩
theorem zBP{A B:List Res}{E k m:Nat}{v:Value}{cs:List Value}{w:World}(S:St w0 h0 (A++.gs E k v m cs::B) h w):Sl (mem w) k v m cs:=by
 have D:=S.ok (.gs E k v m cs) zo3;obtain⟨H,J⟩:=D
 rcases J with⟨rfl,rfl⟩|⟨g,cap,cur,rfl,hb,hg,hn,hm,hcs,ht⟩
 · have C:cs=[]:=zof (by simpa using H)
   subst C;exact Sl.nil _ k
 · refine⟨_,cap,I,hn,hm,H,λi hi=>⟨g,0,I,?_⟩⟩
   unfold cell mem;rw[hg];simp only[zyi];rw[<-ht,zpe,zau zot];simp
section vals
variable {A B:List Res}{E:Nat}{ds:Option Tmp}{ty:TypeId}{ps:String}{af:Array Edge}{gd:Option (Nat×Bool)}
theorem zRD{k m:Nat}{cs:List Value}{v:Value}{t E':TypeId}{x:Operand}(ht:P.underlying t=some (.slice E'))(hx:zH e x=some v):
 OpV P n w0 h0 ⟨ds,.call {callee:=.builtin .len,args:=#[x],argTypes:=#[t]},ty,ps,af,gd⟩ e (A++.gs E k v m cs::B) h (vI (m:Int)):=
 λa w Ev S=>mS (L:=A++.gs E k v m cs::B) (h:=h) ht hx (zBP S).one a w Ev S
theorem zLJ{k m:Nat}{cs:List Value}{v:Value}{t E':TypeId}{x y:Operand}{q:Int}(i:Nat)(ht:P.underlying t=some (.slice E'))(hsz:∀w,(Go.sizeOf E').run P w=.ok k w)(hx:zH e x=some v)(hy:zH e y=some (vI q))
    (hq:q=(i:Int))(hi:i<m)(hk:0<k):OpV P n w0 h0 ⟨ds,.indexAddr t x y,ty,ps,af,gd⟩ e (A++.gs E k v m cs::B) h (zI k v i):=by
 intro a w D S;have C:St w (mem w) [] (mem w) w:=St.begin (MLe.refl _);exact dB (n:=n) (w0:=w) (h0:=mem w) (L:=[]) (h:=mem w) i ht hsz hx hy (zBP S) hq hi hk a w D C
theorem zN5{m:Nat}{cs:List Value}{v u:Value}{t:TypeId}{x:Operand}{i:Nat}(ha:∀w,(isAgg t).run P w=.ok false w)(hx:zH e x=some (zI 1 v i))(hi:cs[i]?=some u):
 OpV P n w0 h0 ⟨ds,.load t x,ty,ps,af,gd⟩ e (A++.gs E 1 v m cs::B) h u:=by
 intro a w D S;have C:St w (mem w) [] (mem w) w:=St.begin (MLe.refl _);exact zGV (n:=n) (w0:=w) (h0:=mem w) (L:=[]) (h:=mem w) ha hx (zBP S) hi a w D C
theorem xH{k:IntKind}{xs:List Nat}{v:Value}{t E':TypeId}{x y:Operand}{q:Int}(i:Nat)(ht:P.underlying t=some (.slice E'))(hsz:∀w,(Go.sizeOf E').run P w=.ok 1 w)(hx:zH e x=some v)(hy:zH e y=some (vI q))
    (hq:q=(i:Int))(hi:i<xs.length):OpV P n w0 h0 ⟨ds,.indexAddr t x y,ty,ps,af,gd⟩ e (A++.us E k v xs::B) h (zI 1 v i):=zLJ i ht hsz hx hy hq hi zot
theorem tC{k:IntKind}{xs:List Nat}{v:Value}{t:TypeId}{x:Operand}{i:Nat}(ha:∀w,(isAgg t).run P w=.ok false w)(hx:zH e x=some (zI 1 v i))(hi:i<xs.length):
 OpV P n w0 h0 ⟨ds,.load t x,ty,ps,af,gd⟩ e (A++.us E k v xs::B) h (vU k (xs.getD i 0)):=zN5 ha hx (zQG hi)
theorem pG{k:IntKind}{xs:List Nat}{v:Value}{t E':TypeId}{x:Operand}(ht:P.underlying t=some (.slice E'))(hx:zH e x=some v):
 OpV P n w0 h0 ⟨ds,.call {callee:=.builtin .len,args:=#[x],argTypes:=#[t]},ty,ps,af,gd⟩ e (A++.us E k v xs::B) h (vI (xs.length:Int)):=zRD ht hx
end vals
theorem yIG{k:IntKind}{xs:List Nat}{i y:Nat}:(Bk.us k xs).set i (vU k y)=Bk.us k (xs.set i y):=by simp[Bk.us,List.map_set]
theorem zIO{A B:List Res}{E m:Nat}{v u:Value}{cs:List Value}{t:TypeId}{x y:Operand}{i:Nat}{ds:Option Tmp}{ty:TypeId}{ps:String}{af:Array Edge}{gd:Option (Nat×Bool)}(hsz:∀w,(Go.sizeOf t).run P w=.ok 1 w)
    (hx:zH e x=some (zI 1 v i))(hy:zH e y=some u)(hu:u.oneCell'=true)(hi:i<cs.length):Upd P n w0 h0 ⟨ds,.store t x y,ty,ps,af,gd⟩ e A (.gs E 1 v m cs) B h (.gs E 1 v m (cs.set i u)):=by
 intro a w O S;have D:=S.ok (.gs E 1 v m cs) zo3;have C:=D;obtain⟨M,U⟩:=D
 rcases U with⟨rfl,rfl⟩|⟨g,cap,cur,rfl,hb,hg,hn,hm,hcs,ht⟩
 · simp at M;subst M;simp at hi
 · have Z:zI 1 (.slice (some ⟨g,0,none⟩) m cap) i=.pointer (some ⟨g,i,none⟩):=by simp[zI,jY]
   rw[Z] at hx;obtain⟨h1,h2⟩:=World.ownsRow.stored C i u;refine⟨_,?_,h2,h1⟩;have J:i<m*1:=by omega
   have hc:=World.ownsRow.cellAt C i J;rw[zoc hi] at hc;have hf:=World.ownsRow.frozenAt C i;have H:u.cells=#[u]:=by cases u<;>simp[Value.oneCell'] at hu<;>rfl
   cases u<;>simp[Value.oneCell'] at hu<;>
    simp[execOp,O.eval hx,O.eval hy,Instr.storeAt,Instr.sureAddr,storeVar,hsz,Value.cells,storeCells,Go.store,Sem.run,hc,hf,Addr.add]
theorem yIH{E:Nat}{k:IntKind}{v:Value}{xs:List Nat}{i z:Nat}:Res.gs E 1 v xs.length ((Bk.us k xs).set i (vU k z))=Res.us E k v (xs.set i z):=by
 rw[yIG];simp[Res.us]
theorem t7{A B:List Res}{E:Nat}{k:IntKind}{v:Value}{xs:List Nat}{t:TypeId}{x y:Operand}{i z:Nat}{ds:Option Tmp}{ty:TypeId}{ps:String}{af:Array Edge}{gd:Option (Nat×Bool)}(hsz:∀w,(Go.sizeOf t).run P w=.ok 1 w)
    (hx:zH e x=some (zI 1 v i))(hy:zH e y=some (vU k z))(hi:i<xs.length):Upd P n w0 h0 ⟨ds,.store t x y,ty,ps,af,gd⟩ e A (.us E k v xs) B h (.us E k v (xs.set i z)):=by
 have:=zIO (P:=P) (n:=n) (w0:=w0) (h0:=h0) (A:=A) (B:=B) (h:=h) (E:=E) (m:=xs.length) (cs:=Bk.us k xs) (ds:=ds) (ty:=ty) (ps:=ps) (af:=af) (gd:=gd) hsz hx hy I (by simpa[Bk.us] using hi);rw[yIH] at this;exact this
theorem zCJ{ops:Array Oper}{rest:List Oper}{A B:List Res}{E:Nat}{k:IntKind}{v:Value}{xs:List Nat}{t:TypeId}{x y:Operand}{i z:Nat}{ty:TypeId}{ps:String}{af:Array Edge}(hsz:∀w,(Go.sizeOf t).run P w=.ok 1 w)
    (hx:zH e x=some (zI 1 v i))(hy:zH e y=some (vU k z))(hi:i<xs.length)(k':GL P n w0 h0 ops Q rest e (A++.us E k v (xs.set i z)::B) h):
    GL P n w0 h0 ops Q (⟨none,.store t x y,ty,ps,af,none⟩::rest) e (A++.us E k v xs::B) h:=wT (t7 hsz hx hy hi) rfl rfl rfl k'
theorem St.new{w0 w w':World}{h0 h:Mem}{L:List Res}{r:Res}(S:St w0 h0 L h w)(hgr:w.grownBy w' none)(hok:r.ok w0.heap.size w')(hfp:∀b,r.fp=some b->w.heap.size<=b):St w0 h0 (r::L) h w':=by
 have O:w0.heap.size<=w.heap.size:=S.below.size;have J:∀r∈L,∀b,r.fp=some b->b<w.heap.size:=λr C b D=>Res.fp_lt (S.ok r C) D;have H:∀b,b<w.heap.size->w'.heap[b]?=w.heap[b]?:=λb D=>hgr.block b D zo3;refine⟨S.below.trans ⟨hgr.os,hgr.tape,hgr.output,hgr.size,λk hk=>H k zot⟩,S.le,?_,S.fresh,?_,?_,?_⟩
 · intro b o D
   have h1:=S.sub b o D;unfold mem at *;exact(H b (zpu.1 h1).1).trans h1
 · intro r C
   rcases zfu.1 C with rfl|C
   · exact hok
   · exact Res.kept (S.ok r C) λb D=>H b (J r C b D)
 · intro r C b D
   rcases zfu.1 C with rfl|C
   · have M:=hfp b D
     refine⟨?_,zot⟩
     cases hh:h b with
     |none=>rfl
     |some o'=>
      have:=S.sub _ o' hh;unfold mem at this;have:=(zpu.1 this).1;omega
   · exact S.own r C b D
 · refine z9u.2 ⟨λr C b D M=>?_,S.apart⟩
   have:=J r C b M;have:=hfp b D;omega
def lT(P:Program)(n:Nat)(w0:World)(h0:Mem)(o:Oper)(e:List (Nat×Value))(L:List Res)(h:Mem)(G:Value->Res->Prop):Prop:=
 ∀a w,Env n e a->St w0 h0 L h w->∃v w' r,(execOp a.eval o).run P w=.ok (.value v) w'/\w.grownBy w' none/\r.ok w0.heap.size w'/\(∀b,r.fp=some b->w.heap.size<=b)/\G v r
theorem zG{ops:Array Oper}{rest:List Oper}{o:Oper}{d:Nat}{G:Value->Res->Prop}(hv:lT P n w0 h0 o e L h G)(hg:o.guard=none)(hd:o.dst=some d)(hn:Nat.ble (d+1) n=true)
    (k:∀v r,G v r->GL P n w0 h0 ops Q rest ((d,v)::e) (r::L) h):GL P n w0 h0 ops Q (o::rest) e L h:=by
 intro a w J S;refine wpList_plain hg λK O=>?_;obtain⟨v,Z,r,M,D,C,H,U⟩:=hv a w J S;unfold Oper.wp;rw[M,Oper.upon_value,hd];exact O _ _ (k v r U _ _ (J.put (zce hn)) (S.new D C H))
theorem yAR{t E:TypeId}{i:TypeInfo}{z:Value}{x y:Operand}{ds:Option Tmp}{ty:TypeId}{ps:String}{af:Array Edge}{gd:Option (Nat×Bool)}{q q':Int}(m:Nat)(ht:P.underlying t=some (.slice E))(hi:P.info? E=some i)(hz:i.zero=some z)(hone:z.cells=#[z])(hsize:i.size=1)
    (hx:zH e x=some (vI q))(hy:zH e y=some (vI q'))(hq:q=(m:Int))(hq':q'=(m:Int))(hb:i.bytes*m<=281474976710656)(hm:m<9223372036854775808):
    lT P n w0 h0 ⟨ds,.makeSlice t x y,ty,ps,af,gd⟩ e L h (λv r=>r=.gs E 1 v m (List.replicate m z)):=by
 subst hq;subst hq';intro a w J S;obtain⟨M,O,D,H⟩:=run_make_full (P:=P) w w0.heap.size t E i z 1 ht hi hz hsize .i64 .i64 m hb (by unfold maxLen;omega) S.below.size;have C:(madeCells z.cells (m*1)).toList=List.replicate m z:=by rw[hone,z6e];exact toList_madeCells_one z m
 rw[C] at D;refine⟨_,M,.gs E 1 (.slice (some ⟨w.heap.size,0,none⟩) m m) m (List.replicate m z),?_,H,D,λb hb=>?_,I⟩
 · simp only[execOp,J.eval hx,J.eval hy,vI]
   simp[O]
 · simp only[Res.fp,Value.ownBlock,Option.some.injEq] at hb
   omega
theorem zOW{t E:TypeId}{i:TypeInfo}{kd:IntKind}{x y:Operand}{ds:Option Tmp}{ty:TypeId}{ps:String}{af:Array Edge}{gd:Option (Nat×Bool)}{q q':Int}{by':Nat}(m:Nat)(ht:P.underlying t=some (.slice E))(hi:P.info? E=some i)(hz:i.zero=some (.int kd 0))(hsize:i.size=1)
    (hby:i.bytes=by')(hx:zH e x=some (vI q))(hy:zH e y=some (vI q'))(hq:q=(m:Int))(hq':q'=(m:Int))(hb:by'*m<=281474976710656)(hm:m<9223372036854775808):
    lT P n w0 h0 ⟨ds,.makeSlice t x y,ty,ps,af,gd⟩ e L h (λv r=>r=.us E kd v (List.replicate m 0)):=by
 subst hby;intro a w J S;obtain⟨v,C,r,h1,h2,h3,H,D⟩:=yAR (n:=n) (L:=L) (h:=h) (ds:=ds) (ty:=ty) (ps:=ps) (af:=af) (gd:=gd) m ht hi hz I hsize hx hy hq hq' hb hm a w J S;refine⟨v,C,r,h1,h2,h3,H,?_⟩;rw[D];simp[Res.us,Bk.us,vU]
theorem jB{ops:Array Oper}{rest:List Oper}{t E:TypeId}{i:TypeInfo}{kd:IntKind}{x y:Operand}{d:Nat}{ty:TypeId}{ps:String}{af:Array Edge}{q q':Int}{by':Nat}(m:Nat)(ht:P.underlying t=some (.slice E))(hi:P.info? E=some i)(hz:i.zero=some (.int kd 0))(hsize:i.size=1)
    (hby:i.bytes=by')(hx:zH e x=some (vI q))(hy:zH e y=some (vI q'))(hq:q=(m:Int))(hq':q'=(m:Int))(hb:by'*m<=281474976710656)(hm:m<9223372036854775808)(hn:Nat.ble (d+1) n=true)
    (k:∀v,GL P n w0 h0 ops Q rest ((d,v)::e) (.us E kd v (List.replicate m 0)::L) h):GL P n w0 h0 ops Q (⟨some d,.makeSlice t x y,ty,ps,af,none⟩::rest) e L h:=
 zG (zOW m ht hi hz hsize hby hx hy hq hq' hb hm) rfl rfl hn λv r hr=>hr▸k v
theorem vH{ops:Array Oper}{rest:List Oper}{B:List Res}{E:Nat}{k:IntKind}{v:Value}{xs:List Nat}{t:TypeId}{x y:Operand}{i z:Nat}{ty:TypeId}{ps:String}{af:Array Edge}(hsz:∀w,(Go.sizeOf t).run P w=.ok 1 w)
    (hx:zH e x=some (zI 1 v i))(hy:zH e y=some (vU k z))(hi:i<xs.length)(k':GL P n w0 h0 ops Q rest e (.us E k v (xs.set i z)::B) h):
    GL P n w0 h0 ops Q (⟨none,.store t x y,ty,ps,af,none⟩::rest) e (.us E k v xs::B) h:=zCJ (A:=[]) hsz hx hy hi k'
theorem yU{ops:Array Oper}{l:List Oper}{B:List Res}{E:Nat}{k:IntKind}{v:Value}{xs:List Nat}(hlt:∀x∈xs,x<ub k)(k':∀h',MLe h h'->Us k h' v xs->GL P n w0 h0 ops Q l e (B) h'):
 GL P n w0 h0 ops Q l e (.us E k v xs::B) h:=zCK (A:=[]) hlt k'
theorem rT{ops:Array Oper}{rest:List Oper}{r0:Res}{B:List Res}{E:Nat}{k:IntKind}{v:Value}{xs:List Nat}{t:TypeId}{x y:Operand}{i z:Nat}{ty:TypeId}{ps:String}{af:Array Edge}(hsz:∀w,(Go.sizeOf t).run P w=.ok 1 w)
    (hx:zH e x=some (zI 1 v i))(hy:zH e y=some (vU k z))(hi:i<xs.length)(k':GL P n w0 h0 ops Q rest e (r0::.us E k v (xs.set i z)::B) h):
    GL P n w0 h0 ops Q (⟨none,.store t x y,ty,ps,af,none⟩::rest) e (r0::.us E k v xs::B) h:=zCJ (A:=[r0]) hsz hx hy hi k'
theorem zI6{ops:Array Oper}{l:List Oper}{r0:Res}{B:List Res}{E:Nat}{k:IntKind}{v:Value}{xs:List Nat}(hlt:∀x∈xs,x<ub k)(k':∀h',MLe h h'->Us k h' v xs->GL P n w0 h0 ops Q l e (r0::B) h'):
 GL P n w0 h0 ops Q l e (r0::.us E k v xs::B) h:=zCK (A:=[r0]) hlt k'
end own
section
variable {P:Program}{ops:Array Oper}
def qV(P:Program)(ops:Array Oper)(o:Oper)(a:Act)(w:World)(K:Value->World->Prop):Prop:=
 if Region.wanted o (yielded ops a.tmps) then
  match (execOp a.eval o).run P w with
  | .ok (.value v) w'=>K v w'
  | .ok .skip w'=>K undef w'
  | .ok (.enter f args) w'=>Calls P f args w' λe w''=>∃v,e=.returned v/\K v w''
  |_=>False
 else K undef w
theorem qV.mono{o:Oper}{a:Act}{w:World}{K K':Value->World->Prop}(h:qV P ops o a w K)(hk:∀v w,K v w->K' v w):qV P ops o a w K':=by
 unfold qV at *
 split
 · rename_i hw
   rw[zau hw] at h;generalize (execOp a.eval o).run P w=r at *
   cases r with
   |ok x w'=>
    cases x<;>simp only at h ⊢
    case enter f args=>exact h.mono λe C ⟨v,H,D⟩=>⟨v,H,hk _ _ D⟩
    all_goals exact hk _ _ h
   |halt x w'=>exact h
 · rename_i hw
   rw[zae hw] at h;exact hk _ _ h
theorem qV.wpOp{o:Oper}{i:Nat}{a:Act}{w:World}{K:Value->World->Prop}{K':Act->World->Prop}{Q:Exit->Act->World->Prop}(hi:ops[i]?=some o)(h:qV P ops o a w K)
    (hk:∀v w,K v w->K' (a.put o.dst v) w):Go.wpOp P ops Q i K' a w:=by
 unfold Go.wpOp;simp only[hi];unfold qV at h
 split
 · rename_i hw
   rw[zau hw] at h;refine .inl ?_;unfold Oper.wp;generalize (execOp a.eval o).run P w=r at *
   cases r with
   |ok x w'=>
    cases x<;>simp only at h<;>simp only[Oper.upon]
    case enter f args=>exact h.mono λe C ⟨v,H,D⟩=>by subst H;exact hk _ _ D
    all_goals exact hk _ _ h
   |halt x w'=>exact h.elim
 · rename_i hw
   rw[zae hw] at h;exact hk _ _ h
theorem qV.of_put{o:Oper}{a:Act}{w:World}{K:Value->World->Prop}{d:Option Tmp}{v:Value}(hs:∀cs b,o.op≠.select cs b)(hd:∀t,d=some t->t ∉ o.looksAt ops)(h:qV P ops o (a.put d v) w K):qV P ops o a w K:=by
 unfold qV at *;rw[execOp_put (ops:=ops) o hs a d v hd,wanted_put (ops:=ops) o a d v hd] at h;exact h
def RA(P:Program)(ops:Array Oper)(C:Array Bool->World->Prop)(Q:Act->World->Prop):Nat->Array Bool->Act->World->Prop
  |0,listed,a,w=>Region.ready .any ops listed=[]/\Q a w
  |fuel+1,listed,a,w=>
   (Region.ready .any ops listed=[]->Q a w)/\
   ∀i∈Region.ready .any ops listed,∀o,ops[i]?=some o->qV P ops o a w λv w'=>C (listed.setIfInBounds i true) w'/\RA P ops C Q fuel (listed.setIfInBounds i true) (a.put o.dst v) w'
theorem RA.mono{C C':Array Bool->World->Prop}{Q:Act->World->Prop}(hC:∀l w,C l w->C' l w):∀{fuel:Nat} {listed:Array Bool} {a:Act} {w:World},RA P ops C Q fuel listed a w->RA P ops C' Q fuel listed a w
  |0,_,_,_,h=>h
  |_+1,_,_,_,h=>⟨h.1,λi hi o ho=>(h.2 i hi o ho).mono λ_ _ hk=>⟨hC _ _ hk.1,RA.mono hC hk.2⟩⟩
theorem RA.wpAny{C:Array Bool->World->Prop}{Q:Act->World->Prop}{Q':Exit->Act->World->Prop}(hQ:∀a w,Q a w->Q' .normal a w):∀{fuel:Nat} {listed:Array Bool} {a:Act} {w:World},RA P ops C Q fuel listed a w->Go.wpAny P .any ops Q' fuel listed a w
  |0,_,_,_,h=>⟨h.1,hQ _ _ h.2⟩
  |fuel+1,listed,a,w,h=>⟨λh0=>hQ _ _ (h.1 h0),λi hi=>by
   obtain⟨_,o,ho,_⟩:=mem_ready.1 hi;exact(h.2 i hi o ho).wpOp ho λv w' hk=>RA.wpAny hQ hk.2⟩
def mB(P:Program)(ops:Array Oper)(o:Oper)(a:Act)(w:World)(v:Value):Prop:=
 (Region.wanted o (yielded ops a.tmps)=true/\(execOp a.eval o).run P w=.ok (.value v) w)\/(Region.wanted o (yielded ops a.tmps)=false/\v=undef)
theorem mB.put{o:Oper}{a:Act}{w:World}{v u:Value}{d:Option Tmp}(hs:∀cs b,o.op≠.select cs b)(hd:∀t,d=some t->t ∉ o.looksAt ops)(h:mB P ops o a w v):mB P ops o (a.put d u) w v:=by
 unfold mB at *;rw[execOp_put (ops:=ops) o hs a d u hd,wanted_put (ops:=ops) o a d u hd];exact h
theorem mB.runs{o:Oper}{a:Act}{w:World}{v:Value}{K:Value->World->Prop}(h:mB P ops o a w v)(hk:K v w):qV P ops o a w K:=by
 unfold qV
 rcases h with⟨h1,h2⟩|⟨h1,h2⟩
 · rw[zau h1,h2];exact hk
 · rw[zae (by simp[h1]),<-h2];exact hk
def Cls(m:Nat)(D:World->Prop)(listed:Array Bool)(w:World):Prop:=D w\/∃k,m<=k/\listed.getD k false=true
def zA2(ops:Array Oper)(listed:Array Bool):Prop:=∀k o,listed.getD k false=true->ops[k]?=some o->∀e∈o.after,Region.binds .any e=true->listed.getD e.on false=true
theorem zA2.set{listed:Array Bool}(h:zA2 ops listed){j:Nat}(hj:j∈Region.ready .any ops listed):zA2 ops (listed.setIfInBounds j true):=by
 intro k o hk H e J M;obtain⟨_,o',D,C⟩:=mem_ready.1 hj
 by_cases hkj:k=j
 · subst hkj
   rw[D] at H;cases H
   exact getD_set_true (C e J M)
 · rw[getD_set_ne false (Ne.symm hkj)] at hk
   exact getD_set_true (h k o hk H e J M)
def zCZ(ops:Array Oper):Nat->Nat->Nat->Bool
  |0,k,i=>k==i
  |f+1,k,i=>k==i||(ops.getD k default).after.any λe=>Region.binds .any e&&zCZ ops f e.on i
def zEG(ops:Array Oper)(k i:Nat):Bool:=
 (ops.getD k default).after.any λe=>Region.binds .any e&&zCZ ops 5 e.on i
theorem zEF{listed:Array Bool}(hcl:zA2 ops listed)(hsz:listed.size=ops.size){i:Nat}:∀(f k:Nat),listed.getD k false=true->zCZ ops f k i=true->listed.getD i false=true
  |0,k,hk,hw=>by
   have:k=i:=by simpa[zCZ] using hw
   rw[<-this];exact hk
  |f+1,k,hk,hw=>by
   simp only[zCZ,zxe,beq_iff_eq,ypu,zbu] at hw
   rcases hw with hw|⟨e,he,hb,hw⟩
   · rw[<-hw];exact hk
   · have C:k<ops.size:=by
      rcases zte k listed.size with h'|h'
      · omega
      · simp[yce h'] at hk
     have D:ops[k]?=some (ops.getD k default):=by simp[zie,C]
     exact zEF hcl hsz f e.on (hcl _ _ hk D e he hb) hw
theorem zQC{listed:Array Bool}(hcl:zA2 ops listed)(hsz:listed.size=ops.size){k i:Nat}(hk:k∈Region.ready .any ops listed)(hw:zEG ops k i=true):listed.getD i false=true:=by
 obtain⟨h1,o,H,C⟩:=mem_ready.1 hk;have D:ops.getD k default=o:=by simp[zie,H]
 unfold zEG at hw;rw[D] at hw;simp only[ypu,zbu] at hw;obtain⟨e,J,M,hw⟩:=hw;exact zEF hcl hsz 5 e.on (C e J M) hw
theorem RA.first{m:Nat}{D:World->Prop}{Q:Act->World->Prop}{i:Nat}{oi:Oper}{v:Value}(hi:ops[i]?=some oi)(hsel:Region.noSelect ops=true)(him:i<m)
    (hlast:∀k,m<=k->k<ops.size->zEG ops k i=true):
    ∀(fuel:Nat) (listed:Array Bool) (a:Act) (w:World),zA2 ops listed->listed.size=ops.size->D w->(∀k,m<=k->listed.getD k false=false)->
     (∀j oj,ops[j]?=some oj->j≠i->listed.getD j true=false->(∀e∈oj.after,Region.binds .any e=true->e.on≠i)->oi.apart ops oj=true)->
     i∈Region.ready .any ops listed->(∀w',D w'->mB P ops oi a w' v)->
     RA P ops (Cls m D) Q fuel (listed.setIfInBounds i true) (a.put oi.dst v) w->RA P ops (Cls m D) Q (fuel+1) listed a w:=by
 intro fuel
 induction fuel with
 |zero=>
  intro listed a w _ _ hD _ _ hr hy H;refine⟨λh=>(by rw[h] at hr;cases hr),λj hj o ho=>?_⟩
  by_cases hji:j=i
  · subst hji
    rw[hi] at ho;cases ho
    exact(hy w hD).runs ⟨.inl hD,H⟩
  · have:=ready_mono hj hji
    rw[H.1] at this
    cases this
 |succ fuel ih=>
  intro listed a w hcl hsz hD hnl hfree hr hy H;refine⟨λh=>(by rw[h] at hr;cases hr),λj hj oj ho=>?_⟩
  by_cases hji:j=i
  · subst hji
    rw[hi] at ho;cases ho
    exact(hy w hD).runs ⟨.inl hD,H⟩
  · have h1:=H.2 j (ready_mono hj hji) oj ho
    obtain⟨hjun,oj',hoj',hall⟩:=mem_ready.1 hj;rw[ho] at hoj';cases hoj'
    have hiun:=(mem_ready.1 hr).1;have hnot:∀e∈oj.after,Region.binds .any e=true->e.on≠i:=λe he hb heq=>by
     have h1:=hall e he hb;rw[heq] at h1
     rcases zte i listed.size with h'|h'
     · simp[h'] at h1 hiun;rw[hiun] at h1;cases h1
     · simp[yce h'] at h1
    have hjm:¬m<=j:=λhm=>by
     have h2:=zQC hcl hsz hj (hlast j hm (zpu.1 ho).1)
     rcases zte i listed.size with h'|h'
     · simp[h'] at h2 hiun;rw[hiun] at h2;cases h2
     · simp[yce h'] at h2
    have hap:=hfree j oj ho hji hjun hnot;obtain⟨p1,p2,p3⟩:=Oper.apart_spec hap;have hsj:=λcs b=>Region.noSelect_spec hsel j oj cs b ho;have hsi:=λcs b=>Region.noSelect_spec hsel i oi cs b hi;refine(qV.of_put hsj p1 h1).mono λu w' hk=>?_;have hnl':∀k,m<=k->(listed.setIfInBounds j true).getD k false=false:=λk hk'=>by
     rw[getD_set_ne false zot];exact hnl k hk'
    have hD':D w':=by
     rcases hk.1 with h2|⟨k,hkm,hkl⟩
     · exact h2
     · rw[getD_set_ne false zot,getD_set_ne false zot,hnl k hkm] at hkl
       cases hkl
    have hfree':∀k ok,ops[k]?=some ok->k≠i->(listed.setIfInBounds j true).getD k true=false->
     (∀e∈ok.after,Region.binds .any e=true->e.on≠i)->oi.apart ops ok=true:=λk ok hk hki hun hno=>by
     refine hfree k ok hk hki ?_ hno
     by_cases hjk:j=k
     · subst hjk;exact hjun
     · rw[getD_set_ne true hjk] at hun;exact hun
    refine⟨.inl hD',ih _ _ w' (hcl.set hj) (by simpa using hsz) hD' hnl' hfree' (ready_mono hr (Ne.symm hji)) (λw'' hw=>(hy w'' hw).put hsi p3) ?_⟩;rw[yau _ _ hji,<-Act.put_comm a v u p2];exact hk.2
theorem RA.pure{m:Nat}{D:World->Prop}{Q:Act->World->Prop}{i:Nat}{oi:Oper}{v:Value}(hi:ops[i]?=some oi)(hsel:Region.noSelect ops=true)(him:i<m):
 ∀(fuel:Nat) (listed:Array Bool) (a:Act) (w:World),Cls m D listed w->
  (∀j oj,ops[j]?=some oj->j≠i->listed.getD j true=false->(∀e∈oj.after,Region.binds .any e=true->e.on≠i)->oi.apart ops oj=true)->
  i∈Region.ready .any ops listed->(∀w',mB P ops oi a w' v)->
  RA P ops (Cls m D) Q fuel (listed.setIfInBounds i true) (a.put oi.dst v) w->RA P ops (Cls m D) Q (fuel+1) listed a w:=by
 intro fuel;have hset:∀(listed:Array Bool) (j:Nat) (w:World),Cls m D listed w->Cls m D (listed.setIfInBounds j true) w:=λlisted j w hc=>hc.imp id λ⟨k,hk,hl⟩=>⟨k,hk,getD_set_true hl⟩
 induction fuel with
 |zero=>
  intro listed a w hD _ hr hy H;refine⟨λh=>(by rw[h] at hr;cases hr),λj hj o ho=>?_⟩
  by_cases hji:j=i
  · subst hji
    rw[hi] at ho;cases ho
    exact(hy w).runs ⟨hset _ _ _ hD,H⟩
  · have:=ready_mono hj hji
    rw[H.1] at this
    cases this
 |succ fuel ih=>
  intro listed a w hD hfree hr hy H;refine⟨λh=>(by rw[h] at hr;cases hr),λj hj oj ho=>?_⟩
  by_cases hji:j=i
  · subst hji
    rw[hi] at ho;cases ho
    exact(hy w).runs ⟨hset _ _ _ hD,H⟩
  · have h1:=H.2 j (ready_mono hj hji) oj ho
    obtain⟨hjun,oj',hoj',hall⟩:=mem_ready.1 hj;rw[ho] at hoj';cases hoj'
    have hiun:=(mem_ready.1 hr).1;have hnot:∀e∈oj.after,Region.binds .any e=true->e.on≠i:=λe he hb heq=>by
     have h1:=hall e he hb;rw[heq] at h1
     rcases zte i listed.size with h'|h'
     · simp[h'] at h1 hiun;rw[hiun] at h1;cases h1
     · simp[yce h'] at h1
    have hap:=hfree j oj ho hji hjun hnot;obtain⟨p1,p2,p3⟩:=Oper.apart_spec hap;have hsj:=λcs b=>Region.noSelect_spec hsel j oj cs b ho;have hsi:=λcs b=>Region.noSelect_spec hsel i oi cs b hi;refine(qV.of_put hsj p1 h1).mono λu w' hk=>?_;have hD':Cls m D (listed.setIfInBounds j true) w':=by
     refine hk.1.imp id λ⟨k,hkm,hkl⟩=>⟨k,hkm,?_⟩;rw[yau _ _ (Ne.symm hji),getD_set_ne false zot] at hkl;exact hkl
    have hfree':∀k ok,ops[k]?=some ok->k≠i->(listed.setIfInBounds j true).getD k true=false->
     (∀e∈ok.after,Region.binds .any e=true->e.on≠i)->oi.apart ops ok=true:=λk ok hk hki hun hno=>by
     refine hfree k ok hk hki ?_ hno
     by_cases hjk:j=k
     · subst hjk;exact hjun
     · rw[getD_set_ne true hjk] at hun;exact hun
    refine⟨hD',ih _ _ w' hD' hfree' (ready_mono hr (Ne.symm hji)) (λw''=>(hy w'').put hsi p3) ?_⟩;rw[yau _ _ hji,<-Act.put_comm a v u p2];exact hk.2
def rem(ops:Array Oper)(listed:Array Bool):Nat:=((List.range ops.size).filter λi=>!listed.getD i true).length
theorem nG{listed:Array Bool}{i:Nat}(hi:i<ops.size)(hl:listed.getD i true=false):rem ops (listed.setIfInBounds i true)<rem ops listed:=by
 unfold rem;have C:((List.range ops.size).filter λj=>!(listed.setIfInBounds i true).getD j true)=((List.range ops.size).filter λj=>!listed.getD j true).filter λj=>j != i:=by
  rw[List.filter_filter];refine List.filter_congr λj _=>?_
  by_cases hj:j=i
  · subst hj
    have D:j<listed.size:=by
     rcases zte j listed.size with h'|h'
     · exact h'
     · simp[yce h'] at hl
    simp[D]
  · rw[getD_set_ne true (Ne.symm hj)]
    simp[hj]
 rw[C];refine List.length_filter_lt_length_iff_exists.2 ⟨i,?_,zo3⟩;simp only[z7e,zog,hi,true_and,hl,Bool.not_false]
theorem mL{listed:Array Bool}(h:rem ops listed=0):Region.ready .any ops listed=[]:=by
 rw[yue];intro i hi;obtain⟨h1,o,C,_⟩:=mem_ready.1 hi;have:=nG (ops:=ops) (zpu.1 C).1 h1;omega
end
inductive Kd where
 |q|a|c|b(j:Nat)|t|p|d(i2 j:Nat)|m(A B:List Nat)|x(Qs A B:List Nat)
def zai:Nat->Nat->List (Nat×Kd)->List (Nat×Kd)
 |_,0,l=>l
 |i,n+1,l=>(i,.q)::zai (i+1) n l
section yIE
variable (P:Program)(n:Nat)(w0:World)(h0:Mem)(ops:Array Oper)(Q:Exit->Act->World->Prop)(R:List Res)
def zQY(e:List (Nat×Value))(d:Option Tmp)(v:Value):List (Nat×Value):=
 match d with
 |some d=>(d,v)::e
 |none=>e
def OpQ(o:Oper)(e:List (Nat×Value))(h:Mem)(v:Value):Prop:=
 (∃d,o.dst=some d/\d<n)/\∀h' L' a w,MLe h h'->(∀r∈R,r∈L')->Env n e a->St w0 h0 L' h' w->mB P ops o a w v
def OpP(o:Oper)(e:List (Nat×Value))(v:Value):Prop:=
 (∃d,o.dst=some d/\d<n)/\∀a w,Env n e a->mB P ops o a w v
def Next(e:List (Nat×Value))(L X:List Res)(h:Mem)(o:Oper)(W:List (Nat×Value)->List Res->Mem->Prop)(v:Value)(w:World):Prop:=
 (∀d,o.dst=some d->d<n)/\∃L' h',MLe h h'/\((∀r∈R,r∈L)->∀r∈R,r∈L')/\St w0 h0 (L'++X) h' w/\W (zQY e o.dst v) L' h'
def kB(o:Oper)(e:List (Nat×Value))(L:List Res)(h:Mem)(W:List (Nat×Value)->List Res->Mem->Prop):Prop:=
 ∀X a w,Env n e a->St w0 h0 (L++X) h w->qV P ops o a w (Next n w0 h0 R e L X h o W)
def yMM(o:Oper)(e:List (Nat×Value))(L:List Res)(h:Mem)(W:List (Nat×Value)->List Res->Mem->Prop):Prop:=
 ∀a w,Env n e a->St w0 h0 L h w->qV P ops o a w λv w'=>(∀d,o.dst=some d->d<n)/\∃L' h',St w0 h0 L' h' w'/\W (zQY e o.dst v) L' h'
abbrev Als:=List (Nat×(Nat×TypeId×List Value))
def WM(K:List (Nat×Value)->List Res->Mem->Prop):Nat->List Nat->List Nat->List (Nat×Value)->List Res->Mem->Prop
  |_,[],[],e,L,h=>K e L h
  |0,_,_,_,_,_=>False
  |k+1,i::A,[],e,L,h=>kB P n w0 h0 ops R (ops.getD i default) e L h (WM K k A [])
  |k+1,[],j::B,e,L,h=>kB P n w0 h0 ops R (ops.getD j default) e L h (WM K k [] B)
  |k+1,i::A,j::B,e,L,h=>kB P n w0 h0 ops R (ops.getD i default) e L h (WM K k A (j::B))/\kB P n w0 h0 ops R (ops.getD j default) e L h (WM K k (i::A) B)
def SQ(i:Nat)(e:List (Nat×Value))(L:List Res)(h:Mem)(K:List (Nat×Value)->List Res->Mem->Prop):Prop:=∃v,OpQ P n w0 h0 ops R (ops.getD i default) e h v/\K (zQY e (ops.getD i default).dst v) L h
def WX(Qs:List Nat)(K:List (Nat×Value)->List Res->Mem->Prop):Nat->List Nat->List Nat->List (Nat×Value)->List Res->Mem->Prop
  |_,[],[],e,L,h=>K e L h
  |0,_,_,_,_,_=>False
  |k+1,i::A,[],e,L,h=>bif Qs.contains i then SQ P n w0 h0 ops R i e L h (WX Qs K k A []) else kB P n w0 h0 ops R (ops.getD i default) e L h (WX Qs K k A [])
  |k+1,[],j::B,e,L,h=>bif Qs.contains j then SQ P n w0 h0 ops R j e L h (WX Qs K k [] B) else kB P n w0 h0 ops R (ops.getD j default) e L h (WX Qs K k [] B)
  |k+1,i::A,j::B,e,L,h=>bif Qs.contains i then SQ P n w0 h0 ops R i e L h (WX Qs K k A (j::B)) else bif Qs.contains j then SQ P n w0 h0 ops R j e L h (WX Qs K k (i::A) B)
    else kB P n w0 h0 ops R (ops.getD i default) e L h (WX Qs K k A (j::B))/\kB P n w0 h0 ops R (ops.getD j default) e L h (WX Qs K k (i::A) B)
def zW2:Op->Option Nat
  | .buildSlice _ len _=>some len
  |_=>none
def zNB(o:Op)(b:Nat):Value:=
 match zW2 o with
 |none=>.pointer (some ⟨b,0,none⟩)
 |some len=>.slice (some ⟨b,0,none⟩) len len
def W(al:Als):List (Nat×Kd)->List (Nat×Value)->List Res->Mem->Prop
  |[],e,L,h=>GQ n w0 h0 Q .normal e L h
  |(i,.q)::r,e,L,h=>∃v,OpQ P n w0 h0 ops R (ops.getD i default) e h v/\W al r (zQY e (ops.getD i default).dst v) L h
  |(i,.a)::r,e,L,h=>∀d E cs b,al.lookup i=some (d,E,cs)->match zW2 (ops.getD i default).op with
   |none=>W al r ((d,.pointer (some ⟨b,0,none⟩))::e) (.blk b (.cells cs.toArray E)::L) h
   |some len=>∀h',MLe h h'->Sl h' 1 (.slice (some ⟨b,0,none⟩) len len) len cs->W al r ((d,.slice (some ⟨b,0,none⟩) len len)::e) L h'
  |(i,.c)::r,e,L,h=>kB P n w0 h0 ops R (ops.getD i default) e L h (W al r)
  |(i,.b j)::r,e,L,h=>kB P n w0 h0 ops R (ops.getD i default) e L h (λe L h=>kB P n w0 h0 ops R (ops.getD j default) e L h (W al r))/\
   kB P n w0 h0 ops R (ops.getD j default) e L h (λe L h=>kB P n w0 h0 ops R (ops.getD i default) e L h (W al r))
  |(i,.t)::r,e,L,h=>yMM P n w0 h0 ops (ops.getD i default) e L h (W al r)
  |(i,.p)::r,e,L,h=>∃v,OpP P n ops (ops.getD i default) e v/\W al r (zQY e (ops.getD i default).dst v) L h
  |(i,.d i2 j)::r,e,L,h=>
   kB P n w0 h0 ops R (ops.getD i default) e L h (λe L h=>
    kB P n w0 h0 ops R (ops.getD i2 default) e L h (λe L h=>kB P n w0 h0 ops R (ops.getD j default) e L h (W al r))/\
    kB P n w0 h0 ops R (ops.getD j default) e L h (λe L h=>kB P n w0 h0 ops R (ops.getD i2 default) e L h (W al r)))/\
   kB P n w0 h0 ops R (ops.getD j default) e L h (λe L h=>kB P n w0 h0 ops R (ops.getD i default) e L h (λe L h=>kB P n w0 h0 ops R (ops.getD i2 default) e L h (W al r)))
  |(_,.m A B)::r,e,L,h=>WM P n w0 h0 ops R (W al r) (A.length+B.length) A B e L h
  |(_,.x Qs A B)::r,e,L,h=>WX P n w0 h0 ops R Qs (W al r) (A.length+B.length) A B e L h
end yIE
def setAll(b:Array Bool)(l:List Nat):Array Bool:=l.foldl (λb i=>b.setIfInBounds i true) b
def zE6(ops:Array Oper)(m:Nat)(pend:List Nat)(K:Array Bool->Bool):Nat->List Nat->List Nat->Array Bool->Bool
  |_,[],[],base=>K base
  |0,_,_,_=>false
  |k+1,i::A,[],base=>(decide (i<m)&&!pend.contains i)&&(Region.ready .any ops (setAll base pend)==[i])&&zE6 ops m pend K k A [] (base.setIfInBounds i true)
  |k+1,[],j::B,base=>(decide (j<m)&&!pend.contains j)&&(Region.ready .any ops (setAll base pend)==[j])&&zE6 ops m pend K k [] B (base.setIfInBounds j true)
  |k+1,i::A,j::B,base=>(decide (i<m)&&!pend.contains i)&&(decide (j<m)&&!pend.contains j)&&decide (i≠j)&&(Region.ready .any ops (setAll base pend)==[i,j])&&
    zE6 ops m pend K k A (j::B) (base.setIfInBounds i true)&&zE6 ops m pend K k (i::A) B (base.setIfInBounds j true)
def zPY(ops:Array Oper)(m:Nat)(pend:List Nat)(i:Nat)(base:Array Bool):Bool:=decide (i<m)&&(Region.ready .any ops base).contains i&&Region.free .any ops base i&&!pend.contains i&&((List.range ops.size).all λk=>decide (k<m)||zEG ops k i)
def oC(ops:Array Oper)(m:Nat)(pend:List Nat)(Qs:List Nat)(K:Array Bool->Bool):Nat->List Nat->List Nat->Array Bool->Bool
  |_,[],[],base=>K base
  |0,_,_,_=>false
  |k+1,i::A,[],base=>bif Qs.contains i then zPY ops m pend i base&&oC ops m pend Qs K k A [] (base.setIfInBounds i true) else(decide (i<m)&&!pend.contains i)&&(Region.ready .any ops (setAll base pend)==[i])&&oC ops m pend Qs K k A [] (base.setIfInBounds i true)
  |k+1,[],j::B,base=>bif Qs.contains j then zPY ops m pend j base&&oC ops m pend Qs K k [] B (base.setIfInBounds j true) else(decide (j<m)&&!pend.contains j)&&(Region.ready .any ops (setAll base pend)==[j])&&oC ops m pend Qs K k [] B (base.setIfInBounds j true)
  |k+1,i::A,j::B,base=>bif Qs.contains i then zPY ops m pend i base&&oC ops m pend Qs K k A (j::B) (base.setIfInBounds i true) else bif Qs.contains j then zPY ops m pend j base&&oC ops m pend Qs K k (i::A) B (base.setIfInBounds j true)
    else(decide (i<m)&&!pend.contains i)&&(decide (j<m)&&!pend.contains j)&&decide (i≠j)&&(Region.ready .any ops (setAll base pend)==[i,j]||Region.ready .any ops (setAll base pend)==[j,i])&&
    oC ops m pend Qs K k A (j::B) (base.setIfInBounds i true)&&oC ops m pend Qs K k (i::A) B (base.setIfInBounds j true)
def chk(ops:Array Oper)(m:Nat):List (Nat×Kd)->Array Bool->List Nat->Bool
  |[],base,pend=>pend.isEmpty&&(Region.ready .any ops base).isEmpty
  |(i,.q)::r,base,pend=>decide (i<m)&&(Region.ready .any ops base).contains i&&Region.free .any ops base i&&!pend.contains i&&
     ((List.range ops.size).all λk=>decide (k<m)||zEG ops k i)&&chk ops m r (base.setIfInBounds i true) pend
  |(i,.a)::r,base,pend=>pend.contains i&&(Region.ready .any ops (setAll base (pend.filter (· != i)))==[i])&&chk ops m r (base.setIfInBounds i true) (pend.filter (· != i))
  |(i,.c)::r,base,pend=>decide (i<m)&&!pend.contains i&&(Region.ready .any ops (setAll base pend)==[i])&&chk ops m r (base.setIfInBounds i true) pend
  |(i,.b j)::r,base,pend=>decide (i<m)&&decide (j<m)&&!pend.contains i&&!pend.contains j&&decide (i≠j)&&(Region.ready .any ops (setAll base pend)==[i,j])&&
     (Region.ready .any ops (setAll (base.setIfInBounds i true) pend)==[j])&&(Region.ready .any ops (setAll (base.setIfInBounds j true) pend)==[i])&&chk ops m r ((base.setIfInBounds i true).setIfInBounds j true) pend
  |(i,.t)::r,base,pend=>pend.isEmpty&&(r.all λx=>match x.2 with| .t=>true|_=>false)&&decide (m<=i)&&(Region.ready .any ops base==[i])&&chk ops m r (base.setIfInBounds i true) []
  |(i,.p)::r,base,pend=>decide (i<m)&&(Region.ready .any ops base).contains i&&Region.free .any ops base i&&!pend.contains i&&chk ops m r (base.setIfInBounds i true) pend
  |(i,.d i2 j)::r,base,pend=>(decide (i<m)&&decide (i2<m)&&decide (j<m)&&!pend.contains i&&!pend.contains i2&&!pend.contains j)&&(decide (i≠i2)&&decide (i≠j)&&decide (i2≠j))&&
     (Region.ready .any ops (setAll base pend)==[i,j])&&(Region.ready .any ops (setAll (base.setIfInBounds i true) pend)==[i2,j])&&(Region.ready .any ops (setAll (base.setIfInBounds j true) pend)==[i])&&
     (Region.ready .any ops (setAll ((base.setIfInBounds i true).setIfInBounds i2 true) pend)==[j])&&(Region.ready .any ops (setAll ((base.setIfInBounds i true).setIfInBounds j true) pend)==[i2])&&
     chk ops m r (((base.setIfInBounds i true).setIfInBounds i2 true).setIfInBounds j true) pend
  |(_,.m A B)::r,base,pend=>zE6 ops m pend (λbase=>chk ops m r base pend) (A.length+B.length) A B base
  |(_,.x Qs A B)::r,base,pend=>oC ops m pend Qs (λbase=>chk ops m r base pend) (A.length+B.length) A B base
def cX(ops:Array Oper)(al:Als):Bool:=
 al.all λx=>((ops.getD x.1 default).after.all λe=>!Region.binds .any e)&&decide (x.1<ops.size)&&(ops.getD x.1 default).guard.isNone&&(ops.getD x.1 default).dst==some x.2.1&&
   (List.range ops.size).all λk=>k==x.1||(ops.getD k default).dst != some x.2.1
section sound
variable {P:Program}{n:Nat}{w0:World}{h0:Mem}{ops:Array Oper}{Q:Exit->Act->World->Prop}{R:List Res}{al:Als}{m:Nat}
theorem St.perm{L L':List Res}{h:Mem}{w:World}(s:St w0 h0 L h w)(hp:L.Perm L'):St w0 h0 L' h w:=
 ⟨s.below,s.le,s.sub,s.fresh,λr hr=>s.ok r (hp.mem_iff.2 hr),λr hr=>s.own r (hp.mem_iff.2 hr),(hp.pairwise_iff λh b hx hy=>h b hy hx).1 s.apart⟩
theorem nF(b:Array Bool)(l:List Nat):(setAll b l).size=b.size:=by
 induction l generalizing b with
 |nil=>rfl
 |cons i l ih=>simp only[setAll,yae] at ih ⊢;rw[ih];simp
theorem sU(b:Array Bool)(l:List Nat)(k:Nat):(setAll b l)[k]?=if k∈l/\k<b.size then some true else b[k]?:=by
 induction l generalizing b with
 |nil=>simp[setAll]
 |cons i l ih=>
  have:=ih (b.setIfInBounds i true);simp only[setAll,yae] at this ⊢;rw[this];simp only[ype,z2i,zfu]
  by_cases hk:k<b.size<;>by_cases hi:i=k<;>by_cases hl:k∈l<;>simp_all
  all_goals omega
def Rel(ops:Array Oper)(base:Array Bool)(X:List Nat)(listed:Array Bool):Prop:=base.size=ops.size/\listed=setAll base X
theorem Rel.unlisted{base listed:Array Bool}{X:List Nat}(hr:Rel ops base X listed)(k:Nat):listed.getD k true=false↔base.getD k true=false/\k ∉ X:=by
 obtain⟨h1,rfl⟩:=hr;simp only[zie,sU]
 by_cases hk:k<base.size
 · by_cases hx:k∈X<;>simp[hx,hk]
 · simp[hk]
theorem Rel.listed{base listed:Array Bool}{X:List Nat}(hr:Rel ops base X listed)(k:Nat):listed.getD k false=true↔(base.getD k false=true\/(k∈X/\k<ops.size)):=by
 obtain⟨h1,rfl⟩:=hr;simp only[zie,sU]
 by_cases hk:k<base.size
 · have C:k<ops.size:=by omega
   by_cases hx:k∈X<;>simp[hx,hk,C]
 · have C:¬k<ops.size:=by omega
   simp[hk,C]
theorem pE{base:Array Bool}{X Y:List Nat}{k:Nat}(hb:base.size=ops.size)(hk:k∈Region.ready .any ops (setAll base X))(hXY:∀x∈X,x∈Y)(hkY:k ∉ Y):k∈Region.ready .any ops (setAll base Y):=by
 rw[mem_ready] at hk ⊢;obtain⟨h1,o,D,h2⟩:=hk;refine⟨((Rel.unlisted ⟨hb,I⟩ k).2 ⟨((Rel.unlisted ⟨hb,I⟩ k).1 h1).1,hkY⟩),o,D,λe H C=>?_⟩;have:=(Rel.listed (ops:=ops) ⟨hb,I⟩ _).1 (h2 e H C);exact(Rel.listed ⟨hb,I⟩ _).2 (this.imp id λh=>⟨hXY _ h.1,h.2⟩)
theorem zNP(b:Array Bool)(i:Nat)(l:List Nat):(setAll b l).setIfInBounds i true=setAll b (i::l):=by
 apply yqi
 intro k;rw[sU,z2i,nF,sU]
 by_cases hi:i=k
 · subst hi
   by_cases hk:i<b.size<;>simp[hk]
 · by_cases hk:k<b.size<;>by_cases hl:k∈l<;>simp[hi,hk,hl,Ne.symm hi]
theorem zQQ(b:Array Bool)(i:Nat)(l:List Nat):setAll (b.setIfInBounds i true) l=(setAll b l).setIfInBounds i true:=by
 apply yqi
 intro k;rw[sU,z2i,z2i,nF,sU,ype]
 by_cases hi:i=k
 · subst hi
   by_cases hk:i<b.size<;>by_cases hl:i∈l<;>simp[hk,hl]
 · by_cases hk:k<b.size<;>by_cases hl:k∈l<;>simp[hi,hk,hl]
def Dw(w0:World)(h0:Mem)(R:List Res)(h:Mem)(w:World):Prop:=∃L' h',MLe h h'/\(∀r∈R,r∈L')/\St w0 h0 L' h' w
theorem Dw.mono{h h':Mem}(hh:MLe h h'){w:World}(hd:Dw w0 h0 R h' w):Dw w0 h0 R h w:=
 let ⟨L',h2,a,b,c⟩:=hd
 ⟨L',h2,hh.trans a,b,c⟩
def jD(P:Program)(n:Nat)(ops:Array Oper)(al:Als):Prop:=∀x∈al,x.2.1<n/\(∀(a:Act) w,(execOp a.eval (ops.getD x.1 default)).run P w=.ok (.value (zNB (ops.getD x.1 default).op w.heap.size)) (w.alloc (.cells x.2.2.2.toArray x.2.2.1)))/\
 ∀len,zW2 (ops.getD x.1 default).op=some len->x.2.2.2.length=len/\len<=maxLen
def oF(al:Als)(X:List (Nat×Nat)):List Res:=X.map λp=>match al.lookup p.1 with|some (_,E,cs)=>.blk p.2 (.cells cs.toArray E)|none=>.blk p.2 default
structure Inv(P:Program)(n:Nat)(w0:World)(h0:Mem)(ops:Array Oper)(R:List Res)(al:Als)(base:Array Bool)(pend:List Nat)(e:List (Nat×Value))(L:List Res)(h:Mem)(X:List (Nat×Nat))(listed:Array Bool)(a:Act)(w:World):Prop where
 env:Env n e a
 st:St w0 h0 (L++oF al X) h w
 sub:∀r∈R,r∈L
 rel:Rel ops base (X.map (·.1)) listed
 xp:∀p∈X,p.1∈pend/\∃y,al.lookup p.1=some y/\a.tmps[y.1]?=some (zNB (ops.getD p.1 default).op p.2)
 nd:(X.map (·.1)).Nodup
 pe:∀i∈pend,∃y,al.lookup i=some y/\e.lookup y.1=none
 pb:∀i∈pend,base.getD i true=false
 cl:zA2 ops listed
theorem zAU{al:Als}{i:Nat}{y:Nat×TypeId×List Value}(h:al.lookup i=some y):(i,y)∈al:=by
 induction al with
 |nil=>simp at h
 |cons x l ih=>
  obtain⟨k,z⟩:=x;simp only[z5u] at h
  by_cases hk:i=k
  · subst hk;simp at h;subst h;simp
  · have:(i==k)=false:=by simpa using hk
    rw[this] at h;exact z3i _ (ih h)
theorem pR(hca:cX ops al=true){i:Nat}{y:Nat×TypeId×List Value}(h:al.lookup i=some y):
 (∀e∈(ops.getD i default).after,Region.binds .any e=false)/\i<ops.size/\(ops.getD i default).guard=none/\(ops.getD i default).dst=some y.1/\True/\
 ∀k,k<ops.size->k≠i->(ops.getD k default).dst≠some y.1:=by
 have D:=zAU h;unfold cX at hca;have:=zob.1 hca _ D;simp only[zbu,zhi,beq_iff_eq,Array.all_eq_true',zob,zog,zxe,bne_iff_ne,zje,Option.isNone_iff_eq_none] at this;obtain⟨⟨⟨⟨h1,h2⟩,h3⟩,J⟩,H⟩:=this;exact⟨h1,h2,h3,J,y5i,λk hk C=>(H k hk).resolve_left C⟩
theorem mW{i:Nat}(hi:i<ops.size):ops[i]?=some (ops.getD i default):=by
 simp[zie,hi]
theorem bS(hca:cX ops al=true){base listed:Array Bool}{pend:List Nat}{e:List (Nat×Value)}{L:List Res}{h:Mem}{X:List (Nat×Nat)}{a:Act}{w:World}(I:Inv P n w0 h0 ops R al base pend e L h X listed a w){i:Nat}(hi:i∈pend)
    (hX:i ∉ X.map (·.1)):i∈Region.ready .any ops listed:=by
 obtain⟨y,hy,_⟩:=I.pe i hi;obtain⟨H,c2,_⟩:=pR hca hy;exact mem_ready.2 ⟨(I.rel.unlisted i).2 ⟨by
  have:=I.pb i hi;have hs:=I.rel.1;simp only[zie] at this ⊢;rw[Array.getElem?_eq_getElem zot] at this ⊢
  simpa using this,hX⟩,_,mW c2,λe D C=>by rw[H e D] at C;cases C⟩
theorem yHQ(hal:jD P n ops al)(hca:cX ops al=true){base listed:Array Bool}{pend:List Nat}{e:List (Nat×Value)}{L:List Res}{h:Mem}{X:List (Nat×Nat)}{a:Act}{w:World}(I:Inv P n w0 h0 ops R al base pend e L h X listed a w){j:Nat}(hj:j∈pend)
    (hX:j ∉ X.map (·.1)):qV P ops (ops.getD j default) a w λv w'=>Dw w0 h0 R h w'/\∃b,Inv P n w0 h0 ops R al base pend e L h ((j,b)::X) (listed.setIfInBounds j true) (a.put (ops.getD j default).dst v) w':=by
 obtain⟨y,hy,ab⟩:=I.pe j hj;obtain⟨c1,c2,c3,Z,c5,c6⟩:=pR hca hy;obtain⟨hd,hz,_⟩:=hal _ (zAU hy);have C:=hz a w;simp only at C;unfold qV;rw[zau (by unfold Region.wanted;rw[c3]),C];have M:=I.st.alloc (.cells y.2.2.toArray y.2.1);have H:(.blk w.heap.size (.cells y.2.2.toArray y.2.1)::(L++oF al X)).Perm (L++oF al ((j,w.heap.size)::X)):=by
  have:oF al ((j,w.heap.size)::X)=.blk w.heap.size (.cells y.2.2.toArray y.2.1)::oF al X:=by
   simp only[oF,zwu,hy]
  rw[this];exact yci.symm
 refine⟨⟨_,h,MLe.refl h,λr hr=>?_,M⟩,w.heap.size,?_⟩
 · exact z3i _ (zqe _ (I.sub r hr))
 · have D:∀t,t≠y.1->(a.put (ops.getD j default).dst (zNB (ops.getD j default).op w.heap.size)).tmps[t]?=a.tmps[t]?:=by
    intro t ht;rw[Z];simp only[Act.put];rw[yhi (Ne.symm ht)]
   refine⟨⟨I.env.defers|>λhh=>by rw[Z];exact hh,by rw[Z];simp[Act.put,I.env.size],λt v ht=>?_⟩,M.perm H,I.sub,⟨I.rel.1,by rw[I.rel.2,zNP];rfl⟩,?_,?_,I.pe,I.pb,I.cl.set (bS hca I hj hX)⟩
   · have:t≠y.1:=λO=>by rw[O,ab] at ht;cases ht
     rw[D t this];exact I.env.get t v ht
   · intro p U
     rcases zfu.1 U with rfl|U
     · refine⟨hj,y,hy,?_⟩
       rw[Z];simp[Act.put,I.env.size,hd]
     · obtain⟨h1,y',J,h2⟩:=I.xp p U
       refine⟨h1,y',J,?_⟩;have aa:p.1≠j:=λO=>hX (O▸you U);obtain⟨_,d2,_,d4,_,_⟩:=pR hca J;have:y'.1≠y.1:=λO=>c6 p.1 d2 aa (by rw[d4,O]);rw[D _ this];exact h2
   · simp only[zwu,List.nodup_cons]
     exact⟨hX,I.nd⟩
def g5(P:Program)(n:Nat)(w0:World)(h0:Mem)(ops:Array Oper)(Q:Exit->Act->World->Prop)(R:List Res)(al:Als)(m:Nat)(base:Array Bool)(pend:List Nat)(e:List (Nat×Value))(L:List Res)(h:Mem):Prop:=
 ∀fuel X listed a w,Inv P n w0 h0 ops R al base pend e L h X listed a w->rem ops listed<=fuel->RA P ops (Cls m (Dw w0 h0 R h)) (λa w=>Q .normal a w) fuel listed a w
theorem zFD{listed:Array Bool}{i:Nat}(hi:i<ops.size)(hl:listed.getD i true=false):0<rem ops listed:=by
 have:=nG hi hl;omega
theorem mN{listed:Array Bool}{i:Nat}(h:i∈Region.ready .any ops listed):i<ops.size/\listed.getD i true=false:=
 let ⟨h1,_,ho,_⟩:=mem_ready.1 h
 ⟨(zpu.1 ho).1,h1⟩
theorem Inv.next(hca:cX ops al=true){base listed:Array Bool}{pend:List Nat}{e:List (Nat×Value)}{L L':List Res}{h h':Mem}{X:List (Nat×Nat)}{a:Act}{w w':World}(I:Inv P n w0 h0 ops R al base pend e L h X listed a w){i:Nat}(hi:i<ops.size)(hir:i∈Region.ready .any ops listed)(hip:i ∉ pend)
    (hd:∀d,(ops.getD i default).dst=some d->d<n)(hR:∀r∈R,r∈L')(S:St w0 h0 (L'++oF al X) h' w')(v:Value):
    Inv P n w0 h0 ops R al (base.setIfInBounds i true) pend (zQY e (ops.getD i default).dst v) L' h' X (listed.setIfInBounds i true) (a.put (ops.getD i default).dst v) w':=by
 have D:∀k∈pend,∀y,al.lookup k=some y->(ops.getD i default).dst≠some y.1:=λk hk y hy=>(pR hca hy).2.2.2.2.2 i hi (λC=>hip (by rw[C];exact hk));refine⟨?_,S,hR,⟨by simpa using I.rel.1,by rw[I.rel.2,zQQ]⟩,?_,I.nd,?_,?_,I.cl.set hir⟩
 · cases hdst:(ops.getD i default).dst with
   |none=>exact I.env
   |some d=>exact I.env.put (hd d hdst)
 · intro p J
   obtain⟨h1,y,hy,h2⟩:=I.xp p J;refine⟨h1,y,hy,?_⟩;have:=D p.1 h1 y hy
   cases hdst:(ops.getD i default).dst with
   |none=>exact h2
   |some d=>
    rw[hdst] at this;simp only[Act.put];rw[yhi (λC=>this (by rw[C]))];exact h2
 · intro k hk
   obtain⟨y,hy,H⟩:=I.pe k hk;refine⟨y,hy,?_⟩;have:=D k hk y hy
   cases hdst:(ops.getD i default).dst with
   |none=>exact H
   |some d=>
    rw[hdst] at this;simp only[zQY,z5u];have h3:(y.1==d)=false:=by simp only[beq_eq_false_iff_ne];exactλC=>this (by rw[C])
    rw[h3];exact H
 · intro k hk
   rw[getD_set_ne true (λC=>hip (by rw[C];exact hk))];exact I.pb k hk
theorem aU(hal:jD P n ops al)(hca:cX ops al=true){base:Array Bool}{pend:List Nat}{e:List (Nat×Value)}{L:List Res}{h:Mem}(opts:List Nat)(ho:opts≠[])(hr:Region.ready .any ops (setAll base pend)=opts)
    (hop:∀i∈opts,i<m/\i ∉ pend)(W1:Nat->List (Nat×Value)->List Res->Mem->Prop)(hst:∀i∈opts,kB P n w0 h0 ops R (ops.getD i default) e L h (W1 i))
    (hgo:∀i∈opts,∀e' L' h',W1 i e' L' h'->g5 P n w0 h0 ops Q R al m (base.setIfInBounds i true) pend e' L' h'):g5 P n w0 h0 ops Q R al m base pend e L h:=by
 intro fuel
 induction fuel with
 |zero=>
  intro X listed a w I hrem
  exfalso
  have hnil:=mL (ops:=ops) (listed:=listed) zot
  by_cases hall:∃p∈pend,p ∉ X.map (·.1)
  · obtain⟨p,hp,hpX⟩:=hall
    have:=bS hca I hp hpX;rw[hnil] at this;cases this
  · obtain⟨i,hi⟩:=List.exists_mem_of_ne_nil _ ho
    have h1:i∈Region.ready .any ops (setAll base pend):=by rw[hr];exact hi
    have h2:=pE I.rel.1 h1 (Y:=X.map (·.1)) (λp hp=>zdu λhc=>hall ⟨p,hp,hc⟩) (λhiX=>by
     obtain⟨p,hp,rfl⟩:=zlu.1 hiX;exact(hop _ hi).2 (I.xp p hp).1)
    rw[<-I.rel.2,hnil] at h2;cases h2
 |succ fuel ih=>
  intro X listed a w I hrem;have hne:Region.ready .any ops listed≠[]:=by
   by_cases hall:∃p∈pend,p ∉ X.map (·.1)
   · obtain⟨p,hp,hpX⟩:=hall
     have:=bS hca I hp hpX;intro hnil;rw[hnil] at this;cases this
   · obtain⟨i,hi⟩:=List.exists_mem_of_ne_nil _ ho
     have h1:i∈Region.ready .any ops (setAll base pend):=by rw[hr];exact hi
     have h2:=pE I.rel.1 h1 (Y:=X.map (·.1)) (λp hp=>zdu λhc=>hall ⟨p,hp,hc⟩) (λhiX=>by
      obtain⟨p,hp,rfl⟩:=zlu.1 hiX;exact(hop _ hi).2 (I.xp p hp).1)
     rw[<-I.rel.2] at h2;intro hnil;rw[hnil] at h2;cases h2
  refine⟨λhnil=>absurd hnil hne,λj hj o hoj=>?_⟩;obtain⟨hjs,hjun⟩:=mN hj;have hjo:o=ops.getD j default:=by rw[mW hjs] at hoj;exact(Option.some.inj hoj).symm
  subst hjo;have hrem':=nG hjs hjun
  by_cases hjp:j∈pend
  · have hjX:=((I.rel.unlisted j).1 hjun).2
    refine(yHQ hal hca I hjp hjX).mono λv w' ⟨hD,b,I'⟩=>⟨.inl hD,ih _ _ _ _ I' zot⟩
  · have h1:j∈Region.ready .any ops (setAll base pend):=by
     rw[I.rel.2] at hj;exact pE I.rel.1 hj (λp hp=>by obtain⟨q,hq,rfl⟩:=zlu.1 hp;exact(I.xp q hq).1) hjp
    rw[hr] at h1;refine(hst j h1 (oF al X) a w I.env I.st).mono λv w' ⟨hd,L',h',hh,hR0,S,hW⟩=>?_;have hR:=hR0 I.sub;refine⟨.inl ⟨_,h',hh,λr hr=>zqe _ (hR r hr),S⟩,?_⟩;refine RA.mono (λl w hc=>hc.imp (Dw.mono hh) id) (hgo j h1 _ _ _ hW fuel X _ _ w' (I.next hca hjs hj hjp hd hR S v) zot)
theorem zKD(D:World->Prop):∀(ord:List (Nat×Kd)) (base:Array Bool) (e:List (Nat×Value)) (L:List Res) (h:Mem),(ord.all λx=>match x.2 with| .t=>true|_=>false)=true->chk ops m ord base []=true->
 W P n w0 h0 ops Q R al ord e L h->∀fuel a w,Env n e a->St w0 h0 L h w->base.size=ops.size->rem ops base<=fuel->RA P ops (Cls m D) (λa w=>Q .normal a w) fuel base a w
 |[],base,e,L,h,_,hc,hW,fuel,a,w,E,S,_,_=>by
  have hr:Region.ready .any ops base=[]:=by simpa[chk] using hc
  cases fuel with
  |zero=>exact⟨hr,hW a w E S⟩
  |succ fuel=>exact⟨λ_=>hW a w E S,λi hi=>by rw[hr] at hi;cases hi⟩
 |(i,.t)::r,base,e,L,h,ht,hc,hW,fuel,a,w,E,S,hs,hrem=>by
  simp only[chk,zbu,beq_iff_eq,zhi] at hc;obtain⟨⟨⟨⟨_,O⟩,Z⟩,hr⟩,ac⟩:=hc;have ab:i∈Region.ready .any ops base:=by rw[hr];simp
  obtain⟨C,H⟩:=mN ab;have hp:=zFD C H
  cases fuel with
  |zero=>omega
  |succ fuel=>
   refine⟨λM=>absurd (hr.symm.trans M) zo3,λj hj o J=>?_⟩;rw[hr] at hj;obtain rfl:j=i:=by simpa using hj
   have aa:o=ops.getD j default:=by rw[mW C] at J;exact(Option.some.inj J).symm
   subst aa;have U:=nG C H;refine(hW a w E S).mono λv w' ⟨hd,L',h',S',ad⟩=>⟨.inr ⟨j,Z,?_⟩,?_⟩
   · simp[zie,hs,C]
   · refine zKD D r _ _ L' h' O ac ad fuel _ w' ?_ S' (by simpa using hs) zot
     cases hdst:(ops.getD j default).dst with
     |none=>exact E
     |some d=>exact E.put (hd d hdst)
 |(_,.q)::_,_,_,_,_,ht,_,_,_,_,_,_,_,_,_=>by simp at ht
 |(_,.a)::_,_,_,_,_,ht,_,_,_,_,_,_,_,_,_=>by simp at ht
 |(_,.c)::_,_,_,_,_,ht,_,_,_,_,_,_,_,_,_=>by simp at ht
 |(_,.b _)::_,_,_,_,_,ht,_,_,_,_,_,_,_,_,_=>by simp at ht
 |(_,.p)::_,_,_,_,_,ht,_,_,_,_,_,_,_,_,_=>by simp at ht
 |(_,.d _ _)::_,_,_,_,_,ht,_,_,_,_,_,_,_,_,_=>by simp at ht
theorem bZ(hal:jD P n ops al)(hca:cX ops al=true){base:Array Bool}{pend:List Nat}{e:List (Nat×Value)}{L:List Res}{h:Mem}{k:Nat}{K:List (Nat×Value)->List Res->Mem->Prop}(hkm:k<m)(hkp:k ∉ pend)(hr:Region.ready .any ops (setAll base pend)=[k])
    (hK:∀e L h,K e L h->g5 P n w0 h0 ops Q R al m (base.setIfInBounds k true) pend e L h)(hW:kB P n w0 h0 ops R (ops.getD k default) e L h K):g5 P n w0 h0 ops Q R al m base pend e L h:=by
 refine aU hal hca [k] zo3 hr ?_ (λ_=>K) ?_ ?_
 · intro l C
   obtain rfl:l=k:=by simpa using C
   exact⟨hkm,hkp⟩
 · intro l C
   obtain rfl:l=k:=by simpa using C
   exact hW
 · intro l C e' L' h' hk
   obtain rfl:l=k:=by simpa using C
   exact hK e' L' h' hk
theorem zCI(hal:jD P n ops al)(hca:cX ops al=true){base:Array Bool}{pend:List Nat}{e:List (Nat×Value)}{L:List Res}{h:Mem}{k l:Nat}{K K':List (Nat×Value)->List Res->Mem->Prop}(hkm:k<m)(hkp:k ∉ pend)(hlm:l<m)(hlp:l ∉ pend)(hkl:k≠l)(hr:Region.ready .any ops (setAll base pend)=[k,l])
    (hK:∀e L h,K e L h->g5 P n w0 h0 ops Q R al m (base.setIfInBounds k true) pend e L h)(hK':∀e L h,K' e L h->g5 P n w0 h0 ops Q R al m (base.setIfInBounds l true) pend e L h)
    (hW:kB P n w0 h0 ops R (ops.getD k default) e L h K)(hW':kB P n w0 h0 ops R (ops.getD l default) e L h K'):g5 P n w0 h0 ops Q R al m base pend e L h:=by
 refine aU hal hca [k,l] zo3 hr ?_ (λx=>if x=k then K else K') ?_ ?_
 · intro x hx
   rcases zfu.1 hx with rfl|hx
   · exact⟨hkm,hkp⟩
   · obtain rfl:x=l:=by simpa using hx
     exact⟨hlm,hlp⟩
 · intro x hx
   rcases zfu.1 hx with rfl|hx
   · simp only[if_true];exact hW
   · obtain rfl:x=l:=by simpa using hx
     simp only[zae (Ne.symm hkl)];exact hW'
 · intro x hx e' L' h' hk
   rcases zfu.1 hx with rfl|hx
   · simp only[if_true] at hk;exact hK e' L' h' hk
   · obtain rfl:x=l:=by simpa using hx
     simp only[zae (Ne.symm hkl)] at hk;exact hK' e' L' h' hk
theorem yLG(hal:jD P n ops al)(hca:cX ops al=true){pend:List Nat}{KW:List (Nat×Value)->List Res->Mem->Prop}{KB:Array Bool->Bool}
    (fin:∀base e L h,KB base=true->(∀k,m<=k->base.getD k false=false)->KW e L h->g5 P n w0 h0 ops Q R al m base pend e L h):∀(k:Nat) (A B:List Nat) (base:Array Bool) (e:List (Nat×Value)) (L:List Res) (h:Mem),
    zE6 ops m pend KB k A B base=true->(∀k,m<=k->base.getD k false=false)->WM P n w0 h0 ops R KW k A B e L h->g5 P n w0 h0 ops Q R al m base pend e L h:=by
 have nx:∀(base:Array Bool) (i:Nat),i<m->(∀k,m<=k->base.getD k false=false)->∀k,m<=k->(base.setIfInBounds i true).getD k false=false:=λbase i hi hb k hk=>by
  rw[getD_set_ne false zot];exact hb k hk
 intro k
 induction k with
 |zero=>
  intro A B base e L h hc hb hw
  cases A<;>cases B
  · exact fin base e L h (by simpa[zE6] using hc) hb (by simpa[WM] using hw)
  all_goals (simp[zE6] at hc)
 |succ k ih=>
  intro A B base e L h hc hb hw
  cases A with
  |nil=>
   cases B with
   |nil=>exact fin base e L h (by simpa[zE6] using hc) hb (by simpa[WM] using hw)
   |cons j B=>
    simp only[zE6,zbu,beq_iff_eq,zhi,zje,zri,zgu] at hc;obtain⟨⟨⟨m1,p1⟩,r1⟩,hc'⟩:=hc;exact bZ hal hca m1 p1 r1 (λe L h hw'=>ih [] B _ e L h hc' (nx base j m1 hb) hw') (by simpa only[WM] using hw)
  |cons i A=>
   cases B with
   |nil=>
    simp only[zE6,zbu,beq_iff_eq,zhi,zje,zri,zgu] at hc;obtain⟨⟨⟨m1,p1⟩,r1⟩,hc'⟩:=hc;exact bZ hal hca m1 p1 r1 (λe L h hw'=>ih A [] _ e L h hc' (nx base i m1 hb) hw') (by simpa only[WM] using hw)
   |cons j B=>
    simp only[zE6,zbu,beq_iff_eq,zhi,zje,zri,zgu] at hc;obtain⟨⟨⟨⟨⟨⟨m1,p1⟩,⟨m2,p2⟩⟩,n12⟩,r1⟩,hc1⟩,hc2⟩:=hc;simp only[WM] at hw;exact zCI hal hca m1 p1 m2 p2 n12 r1 (λe L h hw'=>ih A (j::B) _ e L h hc1 (nx base i m1 hb) hw') (λe L h hw'=>ih (i::A) B _ e L h hc2 (nx base j m2 hb) hw') hw.1 hw.2
theorem yH5{base listed:Array Bool}{e:List (Nat×Value)}{L:List Res}{h:Mem}{X:List (Nat×Nat)}{a:Act}{w:World}(I:Inv P n w0 h0 ops R al base [] e L h X listed a w):X=[]:=by
 cases X with
 |nil=>rfl
 |cons p X=>exact absurd (I.xp p zo3).1 zo3
theorem zZB(hal:jD P n ops al)(hca:cX ops al=true){i:Nat}(r:List (Nat×Kd))(base:Array Bool)(pend:List Nat)(e:List (Nat×Value))(L:List Res)(h:Mem)
  (IH:∀(base:Array Bool) (pend:List Nat) (e:List (Nat×Value)) (L:List Res) (h:Mem),chk ops m r base pend=true->(∀k,m<=k->base.getD k false=false)->(∀i∈pend,i<m)->W P n w0 h0 ops Q R al r e L h->g5 P n w0 h0 ops Q R al m base pend e L h)
  (hc':chk ops m r (base.setIfInBounds i true) (pend.filter (· != i))=true)(hip:i∈pend)(hnl:∀k,m<=k->base.getD k false=false)(hpm:∀i∈pend,i<m)(hW:W P n w0 h0 ops Q R al ((i,.a)::r) e L h)
    (fuel:Nat)(X:List (Nat×Nat))(listed:Array Bool)(a:Act)(w:World)(I:Inv P n w0 h0 ops R al base pend e L h X listed a w)(hrem:rem ops listed<=fuel)(hiX:i∈X.map (·.1)):RA P ops (Cls m (Dw w0 h0 R h)) (λa w=>Q .normal a w) fuel listed a w:=by
  obtain⟨p,hp,ae⟩:=zlu.1 hiX;obtain⟨J,H,rfl⟩:=yqu hp;obtain⟨_,y,hy,Z⟩:=I.xp p hp;subst ae;have M:=I.nd;simp only[zle,zwu] at M;rw[List.nodup_append] at M;obtain⟨n1,n2,n3⟩:=M;rw[List.nodup_cons] at n2;have aa:∀q∈J++H,q.1≠p.1:=by
   intro q D he
   rcases zmu.1 D with D|D
   · exact n3 q.1 (you D) p.1 zo3 he
   · exact n2.1 (he▸you D)
  have e1:oF al (J++p::H)=oF al J++.blk p.2 (.cells y.2.2.toArray y.2.1)::oF al H:=by
   simp only[oF,zle,zwu,hy]
  have e2:oF al (J++H)=oF al J++oF al H:=by simp[oF]
  have ac:∀(L2:List Res) (h2:Mem),MLe h h2->(∀r∈R,r∈L2)->St w0 h0 (L2++oF al (J++H)) h2 w->W P n w0 h0 ops Q R al r ((y.1,zNB (ops.getD p.1 default).op p.2)::e) L2 h2->
   RA P ops (Cls m (Dw w0 h0 R h)) (λa w=>Q .normal a w) fuel listed a w:=by
   intro L2 h2 ak an S2 am;refine RA.mono (λl w hc=>hc.imp (Dw.mono ak) id) (IH (base.setIfInBounds p.1 true) (pend.filter (· != p.1)) ((y.1,zNB (ops.getD p.1 default).op p.2)::e) L2 h2 hc' (λk hk=>by
    have:=hpm _ hip;rw[getD_set_ne false zot];exact hnl k hk) (λj U=>hpm j (z7e.1 U).1) am fuel (J++H) listed a w ?_ hrem)
   refine⟨⟨I.env.defers,I.env.size,λt v ht=>?_⟩,S2,an,⟨by simpa using I.rel.1,?_⟩,?_,?_,?_,?_,I.cl⟩
   · simp only[z5u] at ht
     by_cases htd:t=y.1
     · subst htd
       simp at ht Z;rw[<-ht];exact Z
     · have:(t==y.1)=false:=by simpa using htd
       rw[this] at ht;exact I.env.get t v ht
   · rw[I.rel.2]
     apply yqi
     intro k;rw[sU,sU,ype,z2i]
     by_cases hk:k<base.size
     · by_cases hkp:p.1=k
       · subst hkp;simp[hk]
       · simp only[zle,zwu,zmu,zfu,hk,hkp,Ne.symm hkp,false_or,if_false,and_true]
     · simp[hk]
       omega
   · intro q D
     have ad:q∈J++p::H:=by
      rcases zmu.1 D with h1|h1
      · exact zqe _ h1
      · exact zve _ (z3i _ h1)
     obtain⟨h1,h2⟩:=I.xp q ad;exact⟨z7e.2 ⟨h1,by simpa using aa q D⟩,h2⟩
   · simp only[zle]
     rw[List.nodup_append];exact⟨n1,n2.2,λx hx y hy=>n3 x hx y (z3i _ hy)⟩
   · intro j U
     obtain⟨h1,h2⟩:=z7e.1 U;obtain⟨z,hz,hl⟩:=I.pe j h1;refine⟨z,hz,?_⟩;simp only[z5u];have ah:(z.1==y.1)=false:=by
      simp only[beq_eq_false_iff_ne];intro he;obtain⟨_,d2,_,d4,_,_⟩:=pR hca hz;have O:j≠p.1:=by simpa using h2
      exact(pR hca hy).2.2.2.2.2 j d2 O (by rw[d4,he])
     rw[ah];exact hl
   · intro j U
     obtain⟨h1,h2⟩:=z7e.1 U;have O:j≠p.1:=by simpa using h2
     rw[getD_set_ne true (Ne.symm O)];exact I.pb j h1
  have C:=I.st;rw[e1] at C;have hw:=hW y.1 y.2.1 y.2.2 p.2 hy
  cases hs:zW2 (ops.getD p.1 default).op with
  |none=>
   rw[hs] at hw;refine ac _ h (MLe.refl h) (λr hr=>z3i _ (I.sub r hr)) (C.perm ?_) (by unfold zNB;rw[hs];exact hw);rw[e2,<-zki];refine yci.trans ?_;simp only[zku,zki];exact List.Perm.refl _
  |some len=>
   rw[hs] at hw;have hm:w.heap[p.2]?=some (.cells y.2.2.toArray y.2.1):=C.ok (.blk p.2 (.cells y.2.2.toArray y.2.1)) zo3;rw[<-zki] at C;obtain⟨S2,ab⟩:=C.freeze (b:=p.2) rfl hm;obtain⟨aj,ai⟩:=(hal _ (zAU hy)).2.2 len hs;simp only at aj;refine ac L _ ab I.sub (by rw[e2,<-zki];exact S2) (by unfold zNB;rw[hs];exact hw _ ab ⟨_,_,rfl,zbe _,ai,zot,λj U=>⟨p.2,0,rfl,by simp[cell]⟩⟩)
theorem zMR(hsel:Region.noSelect ops=true)(hca:cX ops al=true){pend:List Nat}{i:Nat}{base:Array Bool}{e:List (Nat×Value)}{L:List Res}{h:Mem}{K:List (Nat×Value)->List Res->Mem->Prop}(hpm:∀i∈pend,i<m)(hc:zPY ops m pend i base=true)(hnl:∀k,m<=k->base.getD k false=false)
    (hW:SQ P n w0 h0 ops R i e L h K)(fin:∀e L h,K e L h->g5 P n w0 h0 ops Q R al m (base.setIfInBounds i true) pend e L h):g5 P n w0 h0 ops Q R al m base pend e L h:=by
 intro C X listed a w I ao;simp only[zPY,zbu,zhi,zje,zri,zgu] at hc;obtain⟨⟨⟨⟨aj,ai⟩,O⟩,U⟩,M⟩:=hc;obtain⟨v,⟨⟨d,hd,am⟩,hq⟩,an⟩:=hW;have ak:i ∉ X.map (·.1):=λhx=>by
  obtain⟨p,hp,rfl⟩:=zlu.1 hx;exact U (I.xp p hp).1
 have H:i∈Region.ready .any ops listed:=by
  have h1:i∈Region.ready .any ops (setAll base []):=by simpa[setAll] using ai
  rw[I.rel.2];exact pE I.rel.1 h1 nX ak
 obtain⟨D,J⟩:=mN H;have hp:=zFD D J;have ab:=nG D J
 cases C with
 |zero=>omega
 |succ C=>
  have hD:Dw w0 h0 R h w:=⟨_,h,MLe.refl h,λr hr=>zqe _ (I.sub r hr),I.st⟩;refine RA.first (mW D) hsel aj ?_ C listed a w I.cl (by rw[I.rel.2,nF];exact I.rel.1) hD ?_ ?_ H (λw' ⟨L',h',a1,a2,a3⟩=>hq h' L' a w' a1 a2 I.env a3) ?_
  · intro k hk ae
    have:=zob.1 M k (by simpa using ae);simp only[zxe,zhi] at this;exact this.resolve_left zot
  · intro k hk
    cases hl:listed.getD k false with
    |false=>rfl
    |true=>
     rcases(I.rel.listed k).1 hl with h1|⟨h1,_⟩
     · rw[hnl k hk] at h1;cases h1
     · obtain⟨p,hp,rfl⟩:=zlu.1 h1
       have:=hpm _ (I.xp p hp).1;omega
  · intro j oj ac ah aa ad
    exact Region.free_spec (mW D) O j oj ac ah ((I.rel.unlisted j).1 aa).1 ad
  · refine fin _ L h an C X _ _ w ?_ zot
    exact I.next hca D H U (λd' Z=>by rw[hd] at Z;cases Z;exact am) I.sub I.st v
theorem yLF(hsel:Region.noSelect ops=true)(hal:jD P n ops al)(hca:cX ops al=true){pend Qs:List Nat}(hpm:∀i∈pend,i<m){KW:List (Nat×Value)->List Res->Mem->Prop}{KB:Array Bool->Bool}
    (fin:∀base e L h,KB base=true->(∀k,m<=k->base.getD k false=false)->KW e L h->g5 P n w0 h0 ops Q R al m base pend e L h):∀(k:Nat) (A B:List Nat) (base:Array Bool) (e:List (Nat×Value)) (L:List Res) (h:Mem),
    oC ops m pend Qs KB k A B base=true->(∀k,m<=k->base.getD k false=false)->WX P n w0 h0 ops R Qs KW k A B e L h->g5 P n w0 h0 ops Q R al m base pend e L h:=by
 have nx:∀(base:Array Bool) (i:Nat),i<m->(∀k,m<=k->base.getD k false=false)->∀k,m<=k->(base.setIfInBounds i true).getD k false=false:=λbase i hi hb k hk=>by
  rw[getD_set_ne false zot];exact hb k hk
 have qm:∀{i base},zPY ops m pend i base=true->i<m:=λhc=>by
  simp only[zPY,zbu,zhi] at hc;exact hc.1.1.1.1
 intro k
 induction k with
 |zero=>
  intro A B base e L h hc hb hw
  cases A<;>cases B
  · exact fin base e L h (by simpa[oC] using hc) hb (by simpa[WX] using hw)
  all_goals (simp[oC] at hc)
 |succ k ih=>
  intro A B base e L h hc hb hw
  cases A with
  |nil=>
   cases B with
   |nil=>exact fin base e L h (by simpa[oC] using hc) hb (by simpa[WX] using hw)
   |cons j B=>
    cases hq:Qs.contains j with
    |true=>
     simp only[oC,WX,hq,cond_true,zbu] at hc hw;exact zMR hsel hca hpm hc.1 hb hw λe L h hw'=>ih [] B _ e L h hc.2 (nx base j (qm hc.1) hb) hw'
    |false=>
     simp only[oC,WX,hq,cond_false,zbu,beq_iff_eq,zhi,zje,zri,zgu] at hc hw;obtain⟨⟨⟨m1,p1⟩,r1⟩,hc'⟩:=hc;exact bZ hal hca m1 p1 r1 (λe L h hw'=>ih [] B _ e L h hc' (nx base j m1 hb) hw') hw
  |cons i A=>
   cases B with
   |nil=>
    cases hq:Qs.contains i with
    |true=>
     simp only[oC,WX,hq,cond_true,zbu] at hc hw;exact zMR hsel hca hpm hc.1 hb hw λe L h hw'=>ih A [] _ e L h hc.2 (nx base i (qm hc.1) hb) hw'
    |false=>
     simp only[oC,WX,hq,cond_false,zbu,beq_iff_eq,zhi,zje,zri,zgu] at hc hw;obtain⟨⟨⟨m1,p1⟩,r1⟩,hc'⟩:=hc;exact bZ hal hca m1 p1 r1 (λe L h hw'=>ih A [] _ e L h hc' (nx base i m1 hb) hw') hw
   |cons j B=>
    cases hq:Qs.contains i with
    |true=>
     simp only[oC,WX,hq,cond_true,zbu] at hc hw;exact zMR hsel hca hpm hc.1 hb hw λe L h hw'=>ih A (j::B) _ e L h hc.2 (nx base i (qm hc.1) hb) hw'
    |false=>
     cases hq2:Qs.contains j with
     |true=>
      simp only[oC,WX,hq,hq2,cond_true,cond_false,zbu] at hc hw;exact zMR hsel hca hpm hc.1 hb hw λe L h hw'=>ih (i::A) B _ e L h hc.2 (nx base j (qm hc.1) hb) hw'
     |false=>
      simp only[oC,WX,hq,hq2,cond_false,zbu,zxe,beq_iff_eq,zhi,zje,zri,zgu] at hc hw;obtain⟨⟨⟨⟨⟨⟨m1,p1⟩,⟨m2,p2⟩⟩,n12⟩,r1⟩,hc1⟩,hc2⟩:=hc
      rcases r1 with r1|r1
      · exact zCI hal hca m1 p1 m2 p2 n12 r1 (λe L h hw'=>ih A (j::B) _ e L h hc1 (nx base i m1 hb) hw') (λe L h hw'=>ih (i::A) B _ e L h hc2 (nx base j m2 hb) hw') hw.1 hw.2
      · exact zCI hal hca m2 p2 m1 p1 (Ne.symm n12) r1 (λe L h hw'=>ih (i::A) B _ e L h hc2 (nx base j m2 hb) hw') (λe L h hw'=>ih A (j::B) _ e L h hc1 (nx base i m1 hb) hw') hw.2 hw.1
theorem zHY(hsel:Region.noSelect ops=true)(hal:jD P n ops al)(hca:cX ops al=true):∀(ord:List (Nat×Kd)) (base:Array Bool) (pend:List Nat) (e:List (Nat×Value)) (L:List Res) (h:Mem),chk ops m ord base pend=true->(∀k,m<=k->base.getD k false=false)->(∀i∈pend,i<m)->
 W P n w0 h0 ops Q R al ord e L h->g5 P n w0 h0 ops Q R al m base pend e L h
 |[],base,pend,e,L,h,hc,_,_,hW=>by
  intro fuel X listed a w I hrem;simp only[chk,zbu,List.isEmpty_iff] at hc;obtain⟨rfl,hr⟩:=hc;have hX:=yH5 I;subst hX;have hl:listed=base:=I.rel.2;subst hl;have S:=I.st;simp only[oF,yqe,zqi] at S
  cases fuel with
  |zero=>exact⟨hr,hW a w I.env S⟩
  |succ fuel=>exact⟨λ_=>hW a w I.env S,λi hi=>by rw[hr] at hi;cases hi⟩
 |(i,.t)::r,base,pend,e,L,h,hc,_,_,hW=>by
  intro fuel X listed a w I hrem;have hc0:=hc;simp only[chk,zbu,List.isEmpty_iff] at hc;obtain⟨⟨⟨⟨rfl,hrt⟩,_⟩,_⟩,_⟩:=hc;have hX:=yH5 I;subst hX;have hl:listed=base:=I.rel.2;subst hl;have S:=I.st;simp only[oF,yqe,zqi] at S;exact zKD _ _ _ _ _ _ (by simpa using hrt) hc0 hW fuel a w I.env S I.rel.1 hrem
 |(i,.c)::r,base,pend,e,L,h,hc,hnl,hpm,hW=>by
  simp only[chk,zbu,beq_iff_eq,zhi,zje,zri,zgu] at hc;obtain⟨⟨⟨him,hip⟩,hr⟩,hc'⟩:=hc;refine aU hal hca [i] zo3 hr ?_ (λ_=>W P n w0 h0 ops Q R al r) ?_ ?_
  · intro j hj
    obtain rfl:j=i:=by simpa using hj
    exact⟨him,hip⟩
  · intro j hj
    obtain rfl:j=i:=by simpa using hj
    exact hW
  · intro j hj e' L' h' hW'
    obtain rfl:j=i:=by simpa using hj
    exact zHY hsel hal hca r _ pend e' L' h' hc' (λk hk=>by rw[getD_set_ne false zot];exact hnl k hk) hpm hW'
 |(i,.b j)::r,base,pend,e,L,h,hc,hnl,hpm,hW=>by
  simp only[chk,zbu,beq_iff_eq,zhi,zje,zri,zgu] at hc;obtain⟨⟨⟨⟨⟨⟨⟨⟨him,hjm⟩,hip⟩,hjp⟩,hij⟩,hr⟩,hri⟩,hrj⟩,hc'⟩:=hc;obtain⟨hW1,hW2⟩:=hW;refine aU hal hca [i,j] zo3 hr (λk hk=>?_) (λk=>if k=i then λe L h=>kB P n w0 h0 ops R (ops.getD j default) e L h (W P n w0 h0 ops Q R al r) else λe L h=>kB P n w0 h0 ops R (ops.getD i default) e L h (W P n w0 h0 ops Q R al r)) (λk hk=>?_) ?_
  · rcases zfu.1 hk with rfl|hk
    · exact⟨him,hip⟩
    · obtain rfl:k=j:=by simpa using hk
      exact⟨hjm,hjp⟩
  · rcases zfu.1 hk with rfl|hk
    · simp only[if_true];exact hW1
    · obtain rfl:k=j:=by simpa using hk
      simp only[zae (Ne.symm hij)];exact hW2
  · intro k hk e' L' h' hW'
    rcases zfu.1 hk with rfl|hk
    · simp only[if_true] at hW'
      refine aU hal hca [j] zo3 hri ?_ (λ_=>W P n w0 h0 ops Q R al r) ?_ ?_
      · intro l hl
        obtain rfl:l=j:=by simpa using hl
        exact⟨hjm,hjp⟩
      · intro l hl
        obtain rfl:l=j:=by simpa using hl
        exact hW'
      intro l hl e2 L2 h2 hW2';obtain rfl:l=j:=by simpa using hl
      exact zHY hsel hal hca r _ pend e2 L2 h2 hc' (λk' hk'=>by rw[getD_set_ne false zot,getD_set_ne false zot];exact hnl k' hk') hpm hW2'
    · obtain rfl:k=j:=by simpa using hk
      simp only[zae (Ne.symm hij)] at hW';refine aU hal hca [i] zo3 hrj ?_ (λ_=>W P n w0 h0 ops Q R al r) ?_ ?_
      · intro l hl
        obtain rfl:l=i:=by simpa using hl
        exact⟨him,hip⟩
      · intro l hl
        obtain rfl:l=i:=by simpa using hl
        exact hW'
      intro l hl e2 L2 h2 hW2';obtain rfl:l=i:=by simpa using hl
      rw[yau _ _ hij] at hc';exact zHY hsel hal hca r _ pend e2 L2 h2 hc' (λk' hk'=>by rw[getD_set_ne false zot,getD_set_ne false zot];exact hnl k' hk') hpm hW2'
 |(i,.d i2 j)::r,base,pend,e,L,h,hc,hnl,hpm,hW=>by
  simp only[chk,zbu,beq_iff_eq,zhi,zje,zri,zgu] at hc;obtain⟨⟨⟨⟨⟨⟨⟨⟨⟨⟨⟨⟨m1,m2⟩,m3⟩,p1⟩,p2⟩,p3⟩,⟨⟨n12,n13⟩,n23⟩⟩,r0⟩,ri⟩,rj⟩,rii⟩,rij⟩,hc'⟩:=hc;have fin:∀e L h,W P n w0 h0 ops Q R al r e L h->g5 P n w0 h0 ops Q R al m (((base.setIfInBounds i true).setIfInBounds i2 true).setIfInBounds j true) pend e L h:=λe L h hw=>
   zHY hsel hal hca r _ pend e L h hc' (λk hk=>by rw[getD_set_ne false zot,getD_set_ne false zot,getD_set_ne false zot];exact hnl k hk) hpm hw
  have cm:∀(b:Array Bool) {x y:Nat},x≠y->(b.setIfInBounds x true).setIfInBounds y true=(b.setIfInBounds y true).setIfInBounds x true:=λb x y hxy=>yau _ _ hxy;obtain⟨hA,hB⟩:=hW;refine zCI hal hca m1 p1 m3 p3 n13 r0 ?_ ?_ hA hB
  · rintro e L h ⟨h1,h2⟩
    refine zCI hal hca m2 p2 m3 p3 n23 ri ?_ ?_ h1 h2
    · intro e L h h3
      exact bZ hal hca m3 p3 rii fin h3
    · intro e L h h3
      refine bZ hal hca m2 p2 rij ?_ h3;intro e L h h4;rw[cm _ (Ne.symm n23)];exact fin e L h h4
  · intro e L h h1
    refine bZ hal hca m1 p1 rj ?_ h1;intro e L h h2;rw[cm _ (Ne.symm n13)];refine bZ hal hca m2 p2 rij ?_ h2;intro e L h h3;rw[cm _ (Ne.symm n23)];exact fin e L h h3
 |(_,.x Qs A B)::r,base,pend,e,L,h,hc,hnl,hpm,hW=>by
  simp only[chk] at hc;exact yLF hsel hal hca hpm (KB:=λbase=>chk ops m r base pend) (λbase e L h hk hb hw=>zHY hsel hal hca r base pend e L h hk hb hpm hw) _ A B base e L h hc hnl hW
 |(_,.m A B)::r,base,pend,e,L,h,hc,hnl,hpm,hW=>by
  simp only[chk] at hc;exact yLG hal hca (KB:=λbase=>chk ops m r base pend) (λbase e L h hk hb hw=>zHY hsel hal hca r base pend e L h hk hb hpm hw) _ A B base e L h hc hnl hW
 |(i,.q)::r,base,pend,e,L,h,hc,hnl,hpm,hW=>by
  intro fuel X listed a w I hrem;simp only[chk,zbu,zhi,zje,zri,zgu] at hc;obtain⟨⟨⟨⟨⟨him,hir⟩,hfree⟩,hip⟩,hlast⟩,hc'⟩:=hc;obtain⟨v,⟨⟨d,hd,hdn⟩,hq⟩,hW'⟩:=hW;have hiX:i ∉ X.map (·.1):=λhx=>by
   obtain⟨p,hp,rfl⟩:=zlu.1 hx;exact hip (I.xp p hp).1
  have hir':i∈Region.ready .any ops listed:=by
   have h1:i∈Region.ready .any ops (setAll base []):=by simpa[setAll] using hir
   rw[I.rel.2];exact pE I.rel.1 h1 nX hiX
  obtain⟨his,hiun⟩:=mN hir';have hp:=zFD his hiun;have hrem':=nG his hiun
  cases fuel with
  |zero=>omega
  |succ fuel=>
   have hD:Dw w0 h0 R h w:=⟨_,h,MLe.refl h,λr hr=>zqe _ (I.sub r hr),I.st⟩;refine RA.first (mW his) hsel him ?_ fuel listed a w I.cl (by rw[I.rel.2,nF];exact I.rel.1) hD ?_ ?_ hir' (λw' ⟨L',h',a1,a2,a3⟩=>hq h' L' a w' a1 a2 I.env a3) ?_
   · intro k hk hks
     have:=zob.1 hlast k (by simpa using hks);simp only[zxe,zhi] at this;exact this.resolve_left zot
   · intro k hk
     cases hl:listed.getD k false with
     |false=>rfl
     |true=>
      rcases(I.rel.listed k).1 hl with h1|⟨h1,_⟩
      · rw[hnl k hk] at h1;cases h1
      · obtain⟨p,hp,rfl⟩:=zlu.1 h1
        have:=hpm _ (I.xp p hp).1;omega
   · intro j oj hoj hji hun hno
     exact Region.free_spec (mW his) hfree j oj hoj hji ((I.rel.unlisted j).1 hun).1 hno
   · refine zHY hsel hal hca r _ pend _ L h hc' (λk hk=>by rw[getD_set_ne false zot];exact hnl k hk) hpm hW' fuel X _ _ w ?_ zot
     exact I.next hca his hir' hip (λd' hd'=>by rw[hd] at hd';cases hd';exact hdn) I.sub I.st v
 |(i,.p)::r,base,pend,e,L,h,hc,hnl,hpm,hW=>by
  intro fuel X listed a w I hrem;simp only[chk,zbu,zhi,zje,zri,zgu] at hc;obtain⟨⟨⟨⟨him,hir⟩,hfree⟩,hip⟩,hc'⟩:=hc;obtain⟨v,⟨⟨d,hd,hdn⟩,hq⟩,hW'⟩:=hW;have hiX:i ∉ X.map (·.1):=λhx=>by
   obtain⟨p,hp,rfl⟩:=zlu.1 hx;exact hip (I.xp p hp).1
  have hir':i∈Region.ready .any ops listed:=by
   have h1:i∈Region.ready .any ops (setAll base []):=by simpa[setAll] using hir
   rw[I.rel.2];exact pE I.rel.1 h1 nX hiX
  obtain⟨his,hiun⟩:=mN hir';have hp:=zFD his hiun;have hrem':=nG his hiun
  cases fuel with
  |zero=>omega
  |succ fuel=>
   have hD:Dw w0 h0 R h w:=⟨_,h,MLe.refl h,λr hr=>zqe _ (I.sub r hr),I.st⟩;refine RA.pure (mW his) hsel him fuel listed a w (.inl hD) ?_ hir' (λw'=>hq a w' I.env) ?_
   · intro j oj hoj hji hun hno
     exact Region.free_spec (mW his) hfree j oj hoj hji ((I.rel.unlisted j).1 hun).1 hno
   · refine zHY hsel hal hca r _ pend _ L h hc' (λk hk=>by rw[getD_set_ne false zot];exact hnl k hk) hpm hW' fuel X _ _ w ?_ zot
     exact I.next hca his hir' hip (λd' hd'=>by rw[hd] at hd';cases hd';exact hdn) I.sub I.st v
 |(i,.a)::r,base,pend,e,L,h,hc,hnl,hpm,hW=>by
  simp only[chk,zbu,beq_iff_eq,zri,zhi] at hc;obtain⟨⟨hip,hr⟩,hc'⟩:=hc;intro fuel
  induction fuel with
  |zero=>
   intro X listed a w I hrem
   by_cases hiX:i∈X.map (·.1)
   · exact zZB hal hca r base pend e L h (λb p e L h=>zHY hsel hal hca r b p e L h) hc' hip hnl hpm hW 0 X listed a w I hrem hiX
   · exfalso
     have:=bS hca I hip hiX;rw[mL zot] at this
     cases this
  |succ fuel ih=>
   intro X listed a w I hrem
   by_cases hiX:i∈X.map (·.1)
   · exact zZB hal hca r base pend e L h (λb p e L h=>zHY hsel hal hca r b p e L h) hc' hip hnl hpm hW _ X listed a w I hrem hiX
   · have hir:=bS hca I hip hiX
     refine⟨λhnil=>absurd hir (by rw[hnil];simp),λj hj o hoj=>?_⟩;obtain⟨hjs,hjun⟩:=mN hj;have hjo:o=ops.getD j default:=by rw[mW hjs] at hoj;exact(Option.some.inj hoj).symm
     subst hjo;have hrem':=nG hjs hjun;have hjp:j∈pend:=by
      refine zdu λhjp=>?_;have h1:j∈Region.ready .any ops (setAll base (pend.filter (· != i))):=by
       rw[I.rel.2] at hj;refine pE I.rel.1 hj (λp hp=>?_) (λhc=>hjp (z7e.1 hc).1);obtain⟨q,hq,rfl⟩:=zlu.1 hp;refine z7e.2 ⟨(I.xp q hq).1,?_⟩;simp only[bne_iff_ne];exactλhe=>hiX (he▸you hq)
      rw[hr] at h1;obtain rfl:j=i:=by simpa using h1
      exact hjp hip
     have hjX:=((I.rel.unlisted j).1 hjun).2;exact(yHQ hal hca I hjp hjX).mono λv w' ⟨hD,b,I'⟩=>⟨.inl hD,ih _ _ _ _ I' zot⟩
theorem zJ{id:Nat}{l:List Oper}{e:List (Nat×Value)}{L:List Res}{h:Mem}(m:Nat)(R:List Res)(al:Als)(ord:List (Nat×Kd))(hm:P.follows .mixedOrders=true)(hal:jD P n l.toArray al)
    (hchk:(Region.noSelect l.toArray&&cX l.toArray al&&(al.all λx=>decide (x.1<m))&&chk l.toArray m ord (Array.replicate l.length false) (al.map (·.1)))=true)(hae:∀x∈al,al.lookup x.1=some x.2/\e.lookup x.2.1=none)
    (hR:∀r∈R,r∈L)(k:W P n w0 h0 l.toArray Q R al ord e L h):GC P n w0 h0 (.region id l.toArray true) Q e L h:=by
 intro a w E S;simp only[zbu] at hchk;obtain⟨⟨⟨h1,h2⟩,h3⟩,M⟩:=hchk;have C:∀i∈al.map (·.1),i<m:=by
  intro i hi;obtain⟨x,hx,rfl⟩:=zlu.1 hi
  simpa using zob.1 h3 x hx
 have J:=zHY (Q:=Q) (R:=R) (m:=m) h1 hal h2 ord (Array.replicate l.length false) (al.map (·.1)) e L h M (λk _=>by simp[zie,Array.getElem?_replicate];split<;>rfl) C k;refine wp_region_any hm (RA.wpAny (λ_ _ D=>D) (J _ [] _ a _ ⟨⟨E.defers,E.size,E.get⟩,?_,hR,⟨zo3,by simp[setAll]⟩,(λp H=>by cases H),zo3,?_,?_,?_⟩ ?_))
 · simp only[oF,yqe,zqi]
   exact⟨S.below.drew,S.le,S.sub,S.fresh,S.ok,S.own,S.apart⟩
 · intro i hi
   obtain⟨x,hx,rfl⟩:=zlu.1 hi;exact⟨x.2,(hae x hx).1,(hae x hx).2⟩
 · intro i hi
   obtain⟨x,hx,rfl⟩:=zlu.1 hi;have:=(pR h2 (hae x hx).1).2.1;simp at this;simp[zie,this]
 · intro k o hk
   simp[zie,Array.getElem?_replicate] at hk
   split at hk<;>simp at hk
 · unfold rem
   refine zci (List.length_filter_le _ _) ?_;simp
end sound
section
variable {P:Program}{n:Nat}{w0:World}{h0:Mem}{ops:Array Oper}{Q:Exit->Act->World->Prop}{R:List Res}{al:Als}{e:List (Nat×Value)}{L:List Res}{h:Mem}{r:List (Nat×Kd)}{i:Nat}
variable {d:Nat}{op:Op}{ty:TypeId}{ps:String}{af:Array Edge}{g t:Nat}{b c:Bool}{v:Value}
theorem wn{o:Oper}{y:Nat->Option Bool}(hg:o.guard=none):Region.wanted o y=true:=by
 unfold Region.wanted;rw[hg]
theorem zFY(k:GQ n w0 h0 Q .normal e L h):W P n w0 h0 ops Q R al [] e L h:=k
theorem w_q(ho:ops.getD i default=⟨some d,op,ty,ps,af,none⟩)(hv:∀h' L',MLe h h'->(∀r∈R,r∈L')->OpV P n w0 h0 ⟨some d,op,ty,ps,af,none⟩ e L' h' v)(hn:Nat.ble (d+1) n=true)
    (k:W P n w0 h0 ops Q R al r ((d,v)::e) L h):W P n w0 h0 ops Q R al ((i,.q)::r) e L h:=by
 refine⟨v,?_,?_⟩
 · rw[ho]
   exact⟨⟨d,I,zce hn⟩,λh' L' a w hh hR E S=>.inl ⟨I,hv h' L' hh hR a w E S⟩⟩
 · rw[ho];exact k
theorem wZ(ho:ops.getD i default=⟨some d,op,ty,ps,af,none⟩)(hv:∀h' L',OpV P n w0 h0 ⟨some d,op,ty,ps,af,none⟩ e L' h' v)(hn:Nat.ble (d+1) n=true)
    (k:W P n w0 h0 ops Q R al r ((d,v)::e) L h):W P n w0 h0 ops Q R al ((i,.q)::r) e L h:=w_q ho (λh' L' _ _=>hv h' L') hn k
theorem mE{x:Operand}(ho:ops.getD i default=⟨some d,.move x,ty,ps,af,none⟩)(hx:zH e x=some v)(hn:Nat.ble (d+1) n=true)
    (k:W P n w0 h0 ops Q R al r ((d,v)::e) L h):W P n w0 h0 ops Q R al ((i,.q)::r) e L h:=w_q ho (λ_ _ _ _=>xG hx) hn k
theorem zXV{x:Operand}(ho:ops.getD i default=⟨some d,.assign x,ty,ps,af,none⟩)(hx:zH e x=some v)(hn:Nat.ble (d+1) n=true)
    (k:W P n w0 h0 ops Q R al r ((d,v)::e) L h):W P n w0 h0 ops Q R al ((i,.q)::r) e L h:=w_q ho (λ_ _ _ _=>pV hx) hn k
theorem dY{g t:Nat}{b c:Bool}{o:Oper}{a:Act}(hg:o.guard=some (g,b))(ht:(ops[g]?).bind (·.dst)=some t)(he:e.lookup t=some (.bool c))(E:Env n e a):Region.wanted o (yielded ops a.tmps)=(c==b):=by
 have:=E.get t _ he;simp[Region.wanted,hg,yielded,ht,this]
theorem yV(ho:ops.getD i default=⟨some d,op,ty,ps,af,some (g,b)⟩)(ht:(ops[g]?).bind (·.dst)=some t)(he:e.lookup t=some (.bool b))(hv:∀h' L',MLe h h'->(∀r∈R,r∈L')->OpV P n w0 h0 ⟨some d,op,ty,ps,af,some (g,b)⟩ e L' h' v)
    (hn:Nat.ble (d+1) n=true)(k:W P n w0 h0 ops Q R al r ((d,v)::e) L h):W P n w0 h0 ops Q R al ((i,.q)::r) e L h:=by
 refine⟨v,?_,?_⟩
 · rw[ho]
   exact⟨⟨d,I,zce hn⟩,λh' L' a w hh hR E S=>.inl ⟨by rw[dY I ht he E];simp,hv h' L' hh hR a w E S⟩⟩
 · rw[ho];exact k
theorem zXW{b:Bool}{t:Nat}(ho:ops.getD i default=⟨some d,op,ty,ps,af,some (g,b)⟩)(ht:(ops[g]?).bind (·.dst)=some t)(he:e.lookup t=some undef)(hn:Nat.ble (d+1) n=true)
    (k:W P n w0 h0 ops Q R al r ((d,undef)::e) L h):W P n w0 h0 ops Q R al ((i,.q)::r) e L h:=by
 refine⟨undef,?_,?_⟩
 · rw[ho]
   refine⟨⟨d,I,zce hn⟩,λh' L' a w hh hR E S=>.inr ⟨?_,I⟩⟩;have:=E.get t _ he;simp[Region.wanted,yielded,ht,this,undef]
 · rw[ho];exact k
theorem kC(ho:ops.getD i default=⟨some d,op,ty,ps,af,some (g,b)⟩)(ht:(ops[g]?).bind (·.dst)=some t)(he:e.lookup t=some (.bool c))(hcb:(c==b)=false)(hn:Nat.ble (d+1) n=true)
    (k:W P n w0 h0 ops Q R al r ((d,undef)::e) L h):W P n w0 h0 ops Q R al ((i,.q)::r) e L h:=by
 refine⟨undef,?_,?_⟩
 · rw[ho]
   exact⟨⟨d,I,zce hn⟩,λh' L' a w hh hR E S=>.inr ⟨by rw[dY I ht he E,hcb],I⟩⟩
 · rw[ho];exact k
theorem w_a{E E':TypeId}{cs:List Value}(hop:(ops.getD i default).op=.alloc E')(hl:al.lookup i=some (d,E,cs))(k:∀b,W P n w0 h0 ops Q R al r ((d,.pointer (some ⟨b,0,none⟩))::e) (.blk b (.cells cs.toArray E)::L) h):W P n w0 h0 ops Q R al ((i,.a)::r) e L h:=by
 intro H E' D b C;rw[hl] at C
 cases C
 rw[hop];exact k b
theorem yIF{Qs A B:List Nat}{N:Nat}(hN:A.length+B.length=N)(k:WX P n w0 h0 ops R Qs (W P n w0 h0 ops Q R al r) N A B e L h):W P n w0 h0 ops Q R al ((i,.x Qs A B)::r) e L h:=by
 subst hN;exact k
section wx
variable {K:List (Nat×Value)->List Res->Mem->Prop}{N i j:Nat}{A B Qs:List Nat}{o o':Oper}
theorem zAC(k:K e L h):WX P n w0 h0 ops R Qs K N [] [] e L h:=by
 cases N<;>exact k
theorem tQ(hq:Qs.contains i=true)(k:SQ P n w0 h0 ops R i e L h (WX P n w0 h0 ops R Qs K N A B)):WX P n w0 h0 ops R Qs K (N+1) (i::A) B e L h:=by
 cases B<;>simp only[WX,hq,cond_true]<;>exact k
theorem yMN(hq:Qs.contains j=true)(k:SQ P n w0 h0 ops R j e L h (WX P n w0 h0 ops R Qs K N [] B)):WX P n w0 h0 ops R Qs K (N+1) [] (j::B) e L h:=by
 simp only[WX,hq,cond_true];exact k
theorem yG1(hi:Qs.contains i=false)(hq:Qs.contains j=true)(k:SQ P n w0 h0 ops R j e L h (WX P n w0 h0 ops R Qs K N (i::A) B)):WX P n w0 h0 ops R Qs K (N+1) (i::A) (j::B) e L h:=by
 simp only[WX,hi,hq,cond_true,cond_false];exact k
theorem zA3(hi:Qs.contains i=false)(ho:ops.getD i default=o)(k:kB P n w0 h0 ops R o e L h (WX P n w0 h0 ops R Qs K N A [])):WX P n w0 h0 ops R Qs K (N+1) (i::A) [] e L h:=by
 subst ho;simp only[WX,hi,cond_false];exact k
theorem zQB(hi:Qs.contains j=false)(ho:ops.getD j default=o)(k:kB P n w0 h0 ops R o e L h (WX P n w0 h0 ops R Qs K N [] B)):WX P n w0 h0 ops R Qs K (N+1) [] (j::B) e L h:=by
 subst ho;simp only[WX,hi,cond_false];exact k
theorem zE1(hi:Qs.contains i=false)(hj:Qs.contains j=false)(ho:ops.getD i default=o)(ho':ops.getD j default=o')(k:kB P n w0 h0 ops R o e L h (WX P n w0 h0 ops R Qs K N A (j::B)))
    (k':kB P n w0 h0 ops R o' e L h (WX P n w0 h0 ops R Qs K N (i::A) B)):WX P n w0 h0 ops R Qs K (N+1) (i::A) (j::B) e L h:=by
 subst ho;subst ho';simp only[WX,hi,hj,cond_false];exact⟨k,k'⟩
variable {d:Nat}{op:Op}{v:Value}
theorem x_q(ho:ops.getD i default=⟨some d,op,ty,ps,af,none⟩)(hv:∀h' L',MLe h h'->(∀r∈R,r∈L')->OpV P n w0 h0 ⟨some d,op,ty,ps,af,none⟩ e L' h' v)(hn:Nat.ble (d+1) n=true)
    (k:K ((d,v)::e) L h):SQ P n w0 h0 ops R i e L h K:=by
 refine⟨v,?_,?_⟩
 · rw[ho]
   exact⟨⟨d,I,zce hn⟩,λh' L' a w hh hR E S=>.inl ⟨I,hv h' L' hh hR a w E S⟩⟩
 · rw[ho];exact k
theorem aE(ho:ops.getD i default=⟨some d,op,ty,ps,af,none⟩)(hv:∀h' L',OpV P n w0 h0 ⟨some d,op,ty,ps,af,none⟩ e L' h' v)(hn:Nat.ble (d+1) n=true)
    (k:K ((d,v)::e) L h):SQ P n w0 h0 ops R i e L h K:=x_q ho (λh' L' _ _=>hv h' L') hn k
end wx
theorem w_c{o:Oper}(ho:ops.getD i default=o)(k:kB P n w0 h0 ops R o e L h (W P n w0 h0 ops Q R al r)):W P n w0 h0 ops Q R al ((i,.c)::r) e L h:=by
 show kB P n w0 h0 ops R (ops.getD i default) e L h _
 rw[ho];exact k
theorem w_b{o o':Oper}{j:Nat}(ho:ops.getD i default=o)(ho':ops.getD j default=o')(k:kB P n w0 h0 ops R o e L h λe L h=>kB P n w0 h0 ops R o' e L h (W P n w0 h0 ops Q R al r))
    (k':kB P n w0 h0 ops R o' e L h λe L h=>kB P n w0 h0 ops R o e L h (W P n w0 h0 ops Q R al r)):W P n w0 h0 ops Q R al ((i,.b j)::r) e L h:=by
 refine⟨?_,?_⟩
 · rw[ho,ho'];exact k
 · rw[ho,ho'];exact k'
theorem iT{W':List (Nat×Value)->List Res->Mem->Prop}{ds:Option Tmp}(ht:(ops[g]?).bind (·.dst)=some t)(he:e.lookup t=some (.bool b))(k:kB P n w0 h0 ops R ⟨ds,op,ty,ps,af,none⟩ e L h W'):
 kB P n w0 h0 ops R ⟨ds,op,ty,ps,af,some (g,b)⟩ e L h W':=by
 intro X a w E S;have hk:=k X a w E S;unfold qV at *;rw[zau (wn I)] at hk;rw[zau (by rw[dY I ht he E];simp)];exact hk
theorem mJ{W':List (Nat×Value)->List Res->Mem->Prop}(ht:(ops[g]?).bind (·.dst)=some t)(he:e.lookup t=some (.bool c))(hcb:(c==b)=false)(hn:Nat.ble (d+1) n=true)(k:W' ((d,undef)::e) L h):
 kB P n w0 h0 ops R ⟨some d,op,ty,ps,af,some (g,b)⟩ e L h W':=by
 intro X a w E S;unfold qV;rw[zae (by rw[dY I ht he E,hcb];simp)];exact⟨λD hd=>by cases hd;exact zce hn,L,h,MLe.refl _,λC=>C,S,k⟩
theorem yJQ{W':List (Nat×Value)->List Res->Mem->Prop}{f:Nat}{xs:List Operand}{ts:Array TypeId}{vs:List Value}{R':Mem->Value->Prop}(hcall:∀args w,(callFunc f args).run P w=.ok (.enter f args) w)(hvs:bD e xs vs)
    (hc:∀w,MLe h (mem w)->Calls P f vs.toArray w (Ret w h R'))(hn:Nat.ble (d+1) n=true)(k:∀v h',MLe h h'->R' h' v->W' ((d,v)::e) L h'):
    kB P n w0 h0 ops R ⟨some d,.call {callee:=.value (.func f),args:=xs.toArray,argTypes:=ts},ty,ps,af,none⟩ e L h W':=by
 intro X a w E S;unfold qV;rw[zau (wn I)];have C:xs.toArray.map a.eval=vs.toArray:=by rw[z0e,E.evals hvs]
 have H:(execOp a.eval ⟨some d,.call {callee:=.value (.func f),args:=xs.toArray,argTypes:=ts},ty,ps,af,none⟩).run P w=.ok (.enter f vs.toArray) w:=by
  simp only[execOp,resolve,Act.eval];simp[Deferred.ofValue,invoke,hcall,C]
 rw[H];refine(hc w S.sub).mono ?_
 rintro e' M ⟨v,h',rfl,hR,D⟩
 have J:=S.call D;exact⟨v,I,λO hd=>(by cases hd;exact zce hn),L,h',D.le,λhh=>hh,J,k v h' D.le hR⟩
theorem jR{W':List (Nat×Value)->List Res->Mem->Prop}{G:Value->Res->Prop}(hv:∀X,lT P n w0 h0 ⟨some d,op,ty,ps,af,none⟩ e (L++X) h G)(hn:Nat.ble (d+1) n=true)(k:∀v r,G v r->W' ((d,v)::e) (r::L) h):
 kB P n w0 h0 ops R ⟨some d,op,ty,ps,af,none⟩ e L h W':=by
 intro X a w E S;unfold qV;rw[zau (wn I)];obtain⟨v,O,r,J,D,C,H,M⟩:=hv X a w E S;rw[J];exact⟨λU hd=>(by cases hd;exact zce hn),r::L,h,MLe.refl h,λhh x hx=>z3i _ (hh x hx),S.new D C H,k v r M⟩
theorem yM8{W':List (Nat×Value)->List Res->Mem->Prop}(hv:∀X,OpV P n w0 h0 ⟨some d,op,ty,ps,af,none⟩ e (L++X) h v)(hn:Nat.ble (d+1) n=true)(k:W' ((d,v)::e) L h):
 kB P n w0 h0 ops R ⟨some d,op,ty,ps,af,none⟩ e L h W':=by
 intro X a w E S;unfold qV;rw[zau (wn I),hv X a w E S];exact⟨λC hd=>(by cases hd;exact zce hn),L,h,MLe.refl h,λhh=>hh,S,k⟩
theorem zE8(ho:ops.getD i default=⟨some d,op,ty,ps,af,none⟩)(hv:OpV P n w0 h0 ⟨some d,op,ty,ps,af,none⟩ e L h v)(hn:Nat.ble (d+1) n=true)(k:W P n w0 h0 ops Q R al r ((d,v)::e) L h):W P n w0 h0 ops Q R al ((i,.t)::r) e L h:=by
 show yMM P n w0 h0 ops (ops.getD i default) e L h _
 rw[ho];intro a w E S;unfold qV;rw[zau (wn I),hv a w E S];exact⟨λC hd=>(by cases hd;exact zce hn),L,h,S,k⟩
theorem cF{A B:List Res}{q q':Res}(ho:ops.getD i default=⟨none,op,ty,ps,af,none⟩)(hv:Upd P n w0 h0 ⟨none,op,ty,ps,af,none⟩ e A q B h q')(hfp:q'.fp=q.fp)(k:W P n w0 h0 ops Q R al r e (A++q'::B) h):
 W P n w0 h0 ops Q R al ((i,.t)::r) e (A++q::B) h:=by
 show yMM P n w0 h0 ops (ops.getD i default) e _ h _
 rw[ho];intro a w E S;unfold qV;obtain⟨M,H,D,C⟩:=hv a w E S;rw[zau (wn I),H];exact⟨λO hd=>(by cases hd),_,h,S.grown D C λb J=>.inl (hfp▸J),k⟩
theorem fG{k:IntKind}{E:Nat}{xs:List Nat}{v:Value}{t E':TypeId}{x y:Operand}{q:Int}{ds:Option Tmp}{gd:Option (Nat×Bool)}(hm:.us E k v xs∈L)(i:Nat)(ht:P.underlying t=some (.slice E'))(hsz:∀w,(Go.sizeOf E').run P w=.ok 1 w)(hx:zH e x=some v)(hy:zH e y=some (vI q))
    (hq:q=(i:Int))(hi:i<xs.length):OpV P n w0 h0 ⟨ds,.indexAddr t x y,ty,ps,af,gd⟩ e L h (zI 1 v i):=by
 obtain⟨A,B,rfl⟩:=yqu hm;exact xH i ht hsz hx hy hq hi
theorem sY{k:IntKind}{E:Nat}{xs:List Nat}{v:Value}{t:TypeId}{x:Operand}{i:Nat}{ds:Option Tmp}{gd:Option (Nat×Bool)}(hm:.us E k v xs∈L)(ha:∀w,(isAgg t).run P w=.ok false w)(hx:zH e x=some (zI 1 v i))(hi:i<xs.length):
 OpV P n w0 h0 ⟨ds,.load t x,ty,ps,af,gd⟩ e L h (vU k (xs.getD i 0)):=by
 obtain⟨A,B,rfl⟩:=yqu hm;exact tC ha hx hi
end
section
variable {P:Program}{n:Nat}{w0:World}{h0:Mem}{e:List (Nat×Value)}{L:List Res}{h:Mem}{Q:Exit->Act->World->Prop}
variable {ds:Option Tmp}{ty:TypeId}{ps:String}{af:Array Edge}{gd:Option (Nat×Bool)}
def zEZ(P:Program)(n:Nat)(w0:World)(h0:Mem)(o:Oper)(e:List (Nat×Value))(A:List Res)(r:Res)(B:List Res)(h:Mem)(G:Value->Res->Prop):Prop:=
 ∀a w,Env n e a->St w0 h0 (A++r::B) h w->∃v w' r',(execOp a.eval o).run P w=.ok (.value v) w'/\w.grownBy w' r.fp/\r'.ok w0.heap.size w'/\(∀b,r'.fp=some b->r.fp=some b\/w.heap.size<=b)/\G v r'
theorem xQ{ops:Array Oper}{rest:List Oper}{o:Oper}{d:Nat}{A B:List Res}{r:Res}{G:Value->Res->Prop}(hv:zEZ P n w0 h0 o e A r B h G)(hg:o.guard=none)(hd:o.dst=some d)(hn:Nat.ble (d+1) n=true)
    (k:∀v r',G v r'->GL P n w0 h0 ops Q rest ((d,v)::e) (A++r'::B) h):GL P n w0 h0 ops Q (o::rest) e (A++r::B) h:=by
 intro a w J S;refine wpList_plain hg λK O=>?_;obtain⟨v,Z,r',M,D,C,H,U⟩:=hv a w J S;unfold Oper.wp;rw[M,Oper.upon_value,hd];exact O _ _ (k v r' U _ _ (J.put (zce hn)) (S.grown D C H))
theorem gv{ops:Array Oper}{rest:List Oper}{d:Nat}{op:Op}{v:Value}(hv:OpV P n w0 h0 ⟨some d,op,ty,ps,af,none⟩ e L h v)(hn:Nat.ble (d+1) n=true)(k:GL P n w0 h0 ops Q rest ((d,v)::e) L h):GL P n w0 h0 ops Q (⟨some d,op,ty,ps,af,none⟩::rest) e L h:=
 eP hv rfl rfl hn k
theorem mv{ops:Array Oper}{rest:List Oper}{d:Nat}{x:Operand}{v:Value}(hx:zH e x=some v)(hn:Nat.ble (d+1) n=true)(k:GL P n w0 h0 ops Q rest ((d,v)::e) L h):GL P n w0 h0 ops Q (⟨some d,.move x,ty,ps,af,none⟩::rest) e L h:=
 eP (xG hx) rfl rfl hn k
theorem asg{ops:Array Oper}{rest:List Oper}{d:Nat}{x:Operand}{v:Value}(hx:zH e x=some v)(hn:Nat.ble (d+1) n=true)(k:GL P n w0 h0 ops Q rest ((d,v)::e) L h):GL P n w0 h0 ops Q (⟨some d,.assign x,ty,ps,af,none⟩::rest) e L h:=
 eP (pV hx) rfl rfl hn k
theorem zGI{A B:List Res}{t E:TypeId}{i:TypeInfo}{z:Value}{k bytes m m':Nat}{v v':Value}{cs cs':List Value}{x y:Operand}(ht:P.underlying t=some (.slice E))(hi:P.info? E=some i)(hz:i.zero=some z)(hsize:i.size=k)(hby:i.bytes=bytes)
    (hzs:z.cells.size=k)(hk:0<k)(hx:zH e x=some v)(hy:zH e y=some v')(hv':Sl h k v' m' cs')(hone:∀u∈cs',u.oneCell'=true)(hlen:m+m'<9223372036854775808)(hb':(m+m')*bytes<=140737488355328):
    zEZ P n w0 h0 ⟨ds,.call {callee:=.builtin .append,args:=#[x,y],argTypes:=#[t,t]},ty,ps,af,gd⟩ e A (.gs E k v m cs) B h (λu r'=>r'=.gs E k u (m+m') (cs++cs')):=by
 intro a w Ev S;have C:w.ownsRow w0.heap.size E k v m cs:=S.ok (.gs E k v m cs) zo3;obtain⟨ad,H,rfl,h1,h2,h3,h4⟩:=hv';have aa:∀u Z,(Builtin.append_ #[t,t] ty #[v,.slice ad m' H]).run P w=.ok u Z->(execOp a.eval ⟨ds,.call {callee:=.builtin .append,args:=#[x,y],argTypes:=#[t,t]},ty,ps,af,gd⟩).run P w=.ok (.value u) Z:=by
  intro u Z J;simp[execOp,resolve,invoke,builtin,Ev.eval hx,Ev.eval hy,J]
 by_cases hnil:ad=none
 · subst hnil
   have hc:cs'=[]:=by
    cases cs' with
    |nil=>rfl
    |cons c cs'=>obtain⟨b,o,M,_⟩:=h4 0 zo3;cases M
   subst hc;have hm:m'=0:=by
    rcases yii m' with h5|h5
    · exact h5
    · have:=Nat.mul_pos h5 hk
      simp only[lN] at h3;omega
   subst hm;refine⟨v,w,.gs E k v (m+0) (cs++[]),aa _ _ ?_,⟨I,I,I,zbe _,λ_ _ _=>I⟩,by simp only[zpi,zqi];exact C,λb M=>.inl M,I⟩;have ah:(Builtin.firstCells k 0 (.slice none 0 H)).run P w=.ok #[] w:=by simp[Builtin.firstCells]
   rcases C.2 with⟨rfl,rfl⟩|⟨g,cp,cur,rfl,_,_,hnc,_⟩
   · simp[Builtin.append_,run_underlying ht,Go.sizeOf,typeInfo,hi,Builtin.lenOf,Builtin.firstCells]
   · simp[Builtin.append_,run_underlying ht,Go.sizeOf,typeInfo,hi,Builtin.lenOf,Builtin.firstCells,hnc,storeCells]
 · obtain⟨p,rfl⟩:=Option.ne_none_iff_exists'.1 hnil
   have D:∀j u,cs'[j]?=some u->w.cell? (p.add j)=some u:=by
    intro j u hu;obtain⟨hj,_⟩:=zxi.1 hu;obtain⟨b,o,hp,hc⟩:=h4 j hj
    cases hp
    rw[hu] at hc;rw[jY];exact lL S.sub hc
   obtain⟨u,Z,J,ho,ac,ae⟩:=run_append_own (P:=P) w w0.heap.size t ty E i z k bytes ht hi hz hsize hby hzs hk v m cs C p m' H cs' h3 D hone (by unfold maxLen;omega) hb' S.below.size;refine⟨u,Z,.gs E k u (m+m') (cs++cs'),aa _ _ J,ac,ho,λb M=>?_,I⟩;simp only[Res.fp] at M ⊢
   by_cases hv:v.ownBlock=some b
   · exact .inl hv
   · right
     rcases zte b w.heap.size with hlt|hge
     · exfalso
       have ab:v.ownBlock=some b\/b=w.heap.size:=by
        have U:=C
        rcases U.2 with⟨rfl,rfl⟩|⟨g,cp,cur,rfl,hbg,hg,hnc,hcm,hcs,htake⟩
        · by_cases hm0:m'=0
          · subst hm0
            have:(Builtin.append_ #[t,t] ty #[.slice none 0 0,.slice (some p) 0 H]).run P w=.ok (.slice none 0 0) w:=by
             simp[Builtin.append_,run_underlying ht,Go.sizeOf,typeInfo,hi,Builtin.lenOf,Builtin.firstCells,loadCells,loadCellsFrom]
            rw[this] at J
            cases J
            simp[Value.ownBlock] at M
          · have h6:=run_append_nil (P:=P) w t ty E i z ht hi hz p m' H cs' (by rw[hsize];exact h3) D zot zot (by rw[hby];simp only[zyi] at hb';omega)
            rw[h6] at J
            cases J
            simp only[Value.ownBlock,Option.some.injEq] at M;exact .inr M.symm
        · by_cases hroom:m+m'<=cp
          · have h6:=run_append_room (P:=P) w t ty E i ht hi g m cp cur hg p m' H cs' (by rw[hsize];exact h3) D hone hroom (by rw[hsize,h3,hcs,<-z2u];exact zgi _ hroom)
            rw[h6] at J
            cases J
            exact .inl M
          · have O:∀j u,cs[j]?=some u->w.cell? ((⟨g,0,none⟩:Addr).add j)=some u:=C.cells (g:=g) I
            have h6:=run_append_grow (P:=P) w t ty E i z ht hi hz ⟨g,0,none⟩ m cp cs (by rw[hsize];exact C.1) O p m' H cs' (by rw[hsize];exact h3) D zot zot (growslice_fits zot (by rw[hby];exact hb'));rw[h6] at J
            cases J
            simp only[Value.ownBlock,Option.some.injEq] at M;exact .inr M.symm
       rcases ab with h5|h5
       · exact hv h5
       · omega
     · exact hge
theorem yII{k:IntKind}{xs:List Nat}:∀u∈Bk.us k xs,u.oneCell'=true:=by
 intro u C;obtain⟨x,_,rfl⟩:=zlu.1 C
 rfl
theorem fF{A B:List Res}{t E:TypeId}{i:TypeInfo}{bytes:Nat}{kd:IntKind}{v v':Value}{xs ys:List Nat}{x y:Operand}(ht:P.underlying t=some (.slice E))(hi:P.info? E=some i)(hz:i.zero=some (.int kd 0))(hsize:i.size=1)(hby:i.bytes=bytes)
    (hx:zH e x=some v)(hy:zH e y=some v')(hv':Us kd h v' ys)(hlen:xs.length+ys.length<9223372036854775808)(hb':(xs.length+ys.length)*bytes<=140737488355328):
    zEZ P n w0 h0 ⟨ds,.call {callee:=.builtin .append,args:=#[x,y],argTypes:=#[t,t]},ty,ps,af,gd⟩ e A (.us E kd v xs) B h (λu r'=>r'=.us E kd u (xs++ys)):=by
 intro a w J S;obtain⟨u,C,r',h1,h2,h3,H,D⟩:=zGI (A:=A) (B:=B) (v:=v) (cs:=Bk.us kd xs) (m:=xs.length) (ds:=ds) (ty:=ty) (ps:=ps) (af:=af) (gd:=gd) ht hi hz hsize hby rfl zot hx hy hv'.sl yII hlen hb' a w J S;refine⟨u,C,r',h1,h2,h3,H,?_⟩;rw[D];simp[Res.us,Bk.us]
theorem zDN{t E:TypeId}{i:TypeInfo}{z:Value}{parts:Array (Nat×Operand)}{ps':List (Nat×Value)}{m:Nat}{vs:List Value}(ht:P.underlying t=some (.slice E))(hi:P.info? E=some i)(hz:i.zero=some z)(hsize:i.size=1)(hzs:z.cells=#[z])
    (hp:∀a,Env n e a->(parts.map λ(i,x)=>(i,a.eval x)).toList=ps')(hf:Instr.fill (λi=>some (i*1,1)) (Array.replicate m z) ps'=some vs.toArray)(hl:vs.length=m)(hm:m<=16777216):
    lT P n w0 h0 ⟨ds,.buildSlice t m parts,ty,ps,af,gd⟩ e L h (λv r=>r=.gs E 1 v m vs):=by
 intro a w Z S;have M:=hp a Z;have D:((Array.range (m*1)).map λj=>z.cells[j%z.cells.size]!)=Array.replicate m z:=by
  rw[hzs,z6e]
  apply yqi
  intro j
  by_cases hj:j<m
  · simp[hj,Nat.mod_one]
  · simp[hj]
 refine⟨.slice (some ⟨w.heap.size,0,none⟩) m m,w.alloc (.cells vs.toArray E),.gs E 1 (.slice (some ⟨w.heap.size,0,none⟩) m m) m vs,?_,World.grownBy_alloc w _ none,?_,λb U=>?_,I⟩
 · have O:¬(m>16777216):=by omega
   simp only[execOp,Instr.buildSlice];rw[show(parts.map λ(i,x)=>(i,a.eval x)).toList=ps' from M]
   by_cases h0:m=0
   · subst h0
     have J:vs=[]:=zof hl;subst J;simp at hf;simp[run_underlying ht,Go.sizeOf,typeInfo,hi,hsize,newRow,newObj,Sem.run,Array.range_zero',hf]
   · have H:(zeroValue E).run P w=.ok z w:=by simp[zeroValue,typeInfo,hi,hz]
     have C:=D;simp only[z6e] at C hf;simp[run_underlying ht,Go.sizeOf,typeInfo,hi,hsize,newRow,h0,O,H,C,hf]
 · have:=World.ownsRow_lit (w:=w) (base:=w0.heap.size) (e:=E) (size:=1) vs.toArray m S.below.size (by unfold maxLen;omega) (by simp[hl])
   exact this
 · simp only[Res.fp,Value.ownBlock,Option.some.injEq] at U
   omega
theorem zHC{t E:TypeId}{i:TypeInfo}{kd:IntKind}(ht:P.underlying t=some (.slice E))(hi:P.info? E=some i)(hz:i.zero=some (.int kd 0))(hsize:i.size=1):
 lT P n w0 h0 ⟨ds,.buildSlice t 0 #[],ty,ps,af,gd⟩ e L h (λv r=>r=.us E kd v []):=
 zDN (ps':=[]) (vs:=[]) ht hi hz hsize rfl (λ_ _=>by simp) rfl rfl zot
theorem pM{t E:TypeId}{i:TypeInfo}{kd:IntKind}{x:Operand}{p:Nat}(ht:P.underlying t=some (.slice E))(hi:P.info? E=some i)(hz:i.zero=some (.int kd 0))(hsize:i.size=1)(hx:zH e x=some (vU kd p)):
 lT P n w0 h0 ⟨ds,.buildSlice t 1 #[(0,x)],ty,ps,af,gd⟩ e L h (λv r=>r=.us E kd v [p]):=
 zDN (ps':=[(0,vU kd p)]) (vs:=[vU kd p]) ht hi hz hsize rfl (λa Ev=>by simp[Ev.eval hx]) rfl rfl zot
theorem zHB{t E:TypeId}{i:TypeInfo}{kd:IntKind}{x y:Operand}{p q:Nat}(ht:P.underlying t=some (.slice E))(hi:P.info? E=some i)(hz:i.zero=some (.int kd 0))(hsize:i.size=1)(hx:zH e x=some (vU kd p))(hy:zH e y=some (vU kd q)):
 lT P n w0 h0 ⟨ds,.buildSlice t 2 #[(0,x),(1,y)],ty,ps,af,gd⟩ e L h (λv r=>r=.us E kd v [p,q]):=
 zDN (ps':=[(0,vU kd p),(1,vU kd q)]) (vs:=[vU kd p,vU kd q]) ht hi hz hsize rfl (λa Ev=>by simp[Ev.eval hx,Ev.eval hy]) rfl rfl zot
def qR(xs:List Nat):ByteArray:=⟨(xs.map UInt8.ofNat).toArray⟩
theorem zLK{v:Value}{xs:List Nat}{s t E:TypeId}{x:Operand}(hs:P.underlying s=some (.slice E))(he:P.underlying E=some (.int .u8))(ht:P.underlying t=some .string)(hx:zH e x=some v)(hv:Us .u8 h v xs):
 OpV P n w0 h0 ⟨ds,.convert s t x,ty,ps,af,gd⟩ e L h (.string (qR xs)):=by
 intro a w Ev S;obtain⟨U,C,rfl,h1,h2,h3,O⟩:=hv.sl;have J:(convert s t (.slice U xs.length C)).run P w=.ok (.string (qR xs)) w:=by
  by_cases hnil:U=none
  · subst hnil
    have D:xs=[]:=by
     cases xs with
     |nil=>rfl
     |cons c cs=>obtain⟨b,o,Z,_⟩:=O 0 (by simp[Bk.us]);cases Z
    subst D;exact run_convert_bytes_nil (P:=P) (w:=w) s E hs he 0 C t ht
  · obtain⟨p,rfl⟩:=Option.ne_none_iff_exists'.1 hnil
    by_cases D:xs=[]
    · subst D
      show(convert s t (.slice (some p) 0 C)).run P w=_
      rw[run_convert_bytes_string w s t E _ 0 C hs he ht];simp[Conv.bytesToString,loadCells,loadCellsFrom,qR]
      rfl
    · have H:0<xs.length:=List.length_pos_iff.2 D
      obtain⟨b,o,M,_⟩:=O 0 (by simpa[Bk.us] using H)
      cases M
      have h6:=run_convert_bytes_arg (P:=P) w s E hs he b o xs.length C (xs.map λ(x:Nat)=>(x:Int)) zo3 (λi hi=>by
       obtain⟨b',o',M,hc⟩:=O i (by simpa[Bk.us] using hi)
       cases M
       rw[zQG hi] at hc;have h7:=lL S.sub hc;rw[h7];simp[vU,hi]) t ht
      rw[h6];have h8:strOfNums (xs.map λ(x:Nat)=>(x:Int))=qR xs:=by
       simp only[strOfNums,qR,yri]
       congr 2
      rw[h8]
 simp[execOp,Ev.eval hx,J]
theorem Us.str_size{xs:List Nat}:(qR xs).size=xs.length:=by simp[qR,ByteArray.size]
theorem zDZ{ops:Array Oper}{l:List Oper}{E:Nat}{k:IntKind}(k':GL P n w0 h0 ops Q l e (.us E k (.slice none 0 0) []::L) h):GL P n w0 h0 ops Q l e L h:=by
 intro a w D S;refine k' a w D (S.new (r:=.us E k (.slice none 0 0) []) ⟨I,I,I,zbe _,λ_ _ _=>I⟩ (World.ownsRow_nil w _ _ _) (λb C=>?_));simp[Res.us,Res.fp,Value.ownBlock] at C
theorem Us.nil_of{k:IntKind}{h:Mem}{m cap:Nat}{xs:List Nat}(hv:Us k h (.slice none m cap) xs):xs=[]:=by
 obtain⟨a,c,C,_,_,_,H⟩:=hv.sl
 cases C
 cases xs with
 |nil=>rfl
 |cons x xs=>obtain⟨b,o,D,_⟩:=H 0 (by simp[Bk.us]);cases D
theorem zLI{s:ByteArray}{t:TypeId}{x y:Operand}{q:Int}(f:Nat->Nat)(i:Nat)(ht:P.underlying t=some .string)(hx:zH e x=some (.string s))(hy:zH e y=some (.int .u8 q))(hq:q=(i:Int))(hf:∀j,(hj:j<s.size)->(s.get j hj).toNat=f j)(hi:i<s.size):
 OpV P n w0 h0 ⟨ds,.index t x y,ty,ps,af,gd⟩ e L h (vU .u8 (f i)):=by
 subst hq;intro a w C S;have h1:s[i]?=some (s.get i hi):=by rw[getElem?_pos s i hi];rfl
 have h2:=hf i hi;simp[execOp,C.eval hx,C.eval hy,Instr.index,asIntOf,vU,run_underlying ht,h1,h2]
theorem zN4{ts:Array TypeId}{x y:Operand}{p q:Int}(hx:zH e x=some (vI p))(hy:zH e y=some (vI q)):OpV P n w0 h0 ⟨ds,.call {callee:=.builtin .max,args:=#[x,y],argTypes:=ts},ty,ps,af,gd⟩ e L h (vI (max p q)):=by
 intro a w C S;have:(if q>p then q else p)=max p q:=by omega
 simp[execOp,resolve,invoke,builtin,C.eval hx,C.eval hy,Builtin.max_,Builtin.max2,vI,List.foldlM,this]
theorem zZ2{ts:Array TypeId}{x y:Operand}{p q:Int}(hx:zH e x=some (vI p))(hy:zH e y=some (vI q)):OpV P n w0 h0 ⟨ds,.call {callee:=.builtin .min,args:=#[x,y],argTypes:=ts},ty,ps,af,gd⟩ e L h (vI (min p q)):=by
 intro a w C S;have:(if q<p then q else p)=min p q:=by omega
 simp[execOp,resolve,invoke,builtin,C.eval hx,C.eval hy,Builtin.min_,Builtin.min2,vI,List.foldlM,this]
theorem zZ1{k:IntKind}{ts:Array TypeId}{x y:Operand}{p q:Nat}(hx:zH e x=some (vU k p))(hy:zH e y=some (vU k q)):OpV P n w0 h0 ⟨ds,.call {callee:=.builtin .min,args:=#[x,y],argTypes:=ts},ty,ps,af,gd⟩ e L h (vU k (min p q)):=by
 intro a w C S;have:(if q<p then(q:Int) else(p:Int))=((min p q:Nat):Int):=by split<;>omega
 simp only[execOp,resolve,invoke,builtin];simp[C.eval hx,C.eval hy,Builtin.min_,Builtin.min2,vU,List.foldlM,this]
theorem zW8{ops:Array Oper}{l:List Oper}{A B:List Res}{E:Nat}{k:IntKind}{v:Value}{xs:List Nat}(m:Nat)(hm:m<=xs.length)(k':GL P n w0 h0 ops Q l e (A++.us E k (tB 1 v 0 m) (xs.take m)::B) h):GL P n w0 h0 ops Q l e (A++.us E k v xs::B) h:=by
 intro a w U S;have C:=S.ok (.us E k v xs) zo3;refine k' a w U (S.grown (r':=.us E k (tB 1 v 0 m) (xs.take m)) ⟨I,I,I,zbe _,λ_ _ _=>I⟩ ?_ ?_)
 · obtain⟨M,J⟩:=C
   have D:(xs.take m).length=m:=by rw[zei];omega
   refine⟨by simp[Bk.us],?_⟩
   rcases J with⟨rfl,h0'⟩|⟨g,cap,cur,rfl,H,hg,hn,hcm,hcs,ht⟩
   · have:m=0:=by omega
     subst this;exact .inl ⟨I,zo3⟩
   · right
     refine⟨g,cap,cur,?_,H,hg,zot,hcm,hcs,?_⟩
     · rw[D]
       simp only[tB,zwe,ydu,yoe,jY,zpi,ite_self]
     · have O:Bk.us k (xs.take m)=(Bk.us k xs).take m:=by rw[Bk.us,Bk.us,List.map_take]
       rw[D,O,<-ht,List.take_take]
       congr 1
       omega
 · intro b H
   left
   obtain⟨M,J⟩:=C
   rcases J with⟨rfl,h0'⟩|⟨g,cap,cur,rfl,_⟩
   · simp[Res.us,Res.fp,tB,Value.ownBlock] at H
   · simpa only[Res.us,Res.fp,tB,Value.ownBlock,zwe,ydu,yoe,jY,zpi,ite_self] using H
theorem St.own_us{A B:List Res}{E:Nat}{k:IntKind}{v:Value}{xs:List Nat}{w:World}(S:St w0 h0 (A++.us E k v xs::B) h w)(hlt:∀x∈xs,x<ub k):Us k (mem w) v xs:=by
 obtain⟨H,D⟩:=S.ok (.us E k v xs) zo3
 rcases D with⟨rfl,h0'⟩|⟨g,cap,cur,rfl,hb,hg,hn,hm,hcs,ht⟩
 · have C:xs=[]:=zof h0'
   subst C;exact Us.nil _ _
 · refine⟨⟨_,cap,I,hn,hm,H,λi hi=>⟨g,0,I,?_⟩⟩,hlt⟩
   have:(mem w) g=some (.cells cur E):=hg;unfold cell;rw[this];simp only[zyi];rw[<-ht,zpe,zau (by simpa[Bk.us] using hi)];simp
def byt(s:ByteArray):List Nat:=s.data.toList.map UInt8.toNat
section steps
variable {ops:Array Oper}{R:List Res}{d:Nat}{op:Op}
theorem fK{A B:List Res}{q:Res}{G:Value->Res->Prop}{W':List (Nat×Value)->List Res->Mem->Prop}(hv:∀X,zEZ P n w0 h0 ⟨some d,op,ty,ps,af,none⟩ e A q (B++X) h G)(hn:Nat.ble (d+1) n=true)
    (hR:∀r∈R,∀q',r∈A++q::B->r∈A++q'::B)(k:∀v q',G v q'->W' ((d,v)::e) (A++q'::B) h):kB P n w0 h0 ops R ⟨some d,op,ty,ps,af,none⟩ e (A++q::B) h W':=by
 intro X a w Z S;have M:St w0 h0 (A++q::(B++X)) h w:=by simpa using S
 unfold qV;rw[zau (wn I)];obtain⟨v,w',q',C,H,D,J,O⟩:=hv X a w Z M;rw[C];have U:=M.grown H D J;exact⟨λd' hd=>(by cases hd;exact zce hn),A++q'::B,h,MLe.refl h,λhh r C=>hR r C q' (hh r C),by simpa using U,k v q' O⟩
end steps
end
end Bk
namespace Go.Proofs.YtpkaegemlpaenaaGreat
open Bk Go Tryz
theorem jV:prog.info? 3=some Tryz.t3:=by kernel_rfl
theorem yBY:prog.info? 4=some Tryz.t4:=by kernel_rfl
theorem yBX:prog.info? 5=some Tryz.t5:=by kernel_rfl
theorem jF:prog.info? 22=some Tryz.t22:=by kernel_rfl
theorem yK9:prog.info? 27=some Tryz.t27:=by kernel_rfl
theorem xU:prog.info? 29=some Tryz.t29:=by kernel_rfl
theorem yK:prog.info? 31=some Tryz.t31:=by kernel_rfl
theorem aI:prog.info? 35=some Tryz.t35:=by kernel_rfl
theorem qQ:prog.info? 39=some Tryz.t39:=by kernel_rfl
theorem rK:prog.info? 50=some Tryz.t50:=by kernel_rfl
theorem yBW:prog.info? 51=some Tryz.t51:=by kernel_rfl
theorem jK:prog.info? 53=some Tryz.t53:=by kernel_rfl
theorem zMJ:prog.info? 56=some Tryz.t56:=by kernel_rfl
theorem dO:prog.info? 58=some Tryz.t58:=by kernel_rfl
theorem yK8:prog.info? 72=some Tryz.t72:=by kernel_rfl
theorem yBV:prog.info? 99=some Tryz.t99:=by kernel_rfl
theorem zCD:prog.info? 118=some Tryz.t118:=by kernel_rfl
theorem uW:prog.info? 124=some Tryz.t124:=by kernel_rfl
theorem u9:prog.info? 140=some Tryz.t140:=by kernel_rfl
theorem zFP:prog.info? 151=some Tryz.t151:=by kernel_rfl
theorem eM:prog.info? 153=some Tryz.t153:=by kernel_rfl
theorem zMK:prog.info? 168=some Tryz.t168:=by kernel_rfl
theorem kD:prog.info? 200=some Tryz.t200:=by kernel_rfl
theorem zT6:prog.info? 237=some Tryz.t237:=by kernel_rfl
theorem yM6:(prog.info? 3).map (·.size)=some 1:=by rw[jV];rfl
theorem yG8:(prog.info? 4).map (·.size)=some 1:=by rw[yBY];rfl
theorem yJG:(prog.info? 27).map (·.size)=some 1:=by rw[yK9];rfl
theorem yF:(prog.info? 29).map (·.size)=some 3:=by rw[xU];rfl
theorem qG{fs:Array Go.Field}(hu:prog.underlying 29=some (.struct fs))(w:Go.World):(fs.mapM λ(f:Go.Field)=>do pure (f.offset,<-Go.sizeOf f.type)).run prog w=.ok #[(0,1),(1,1),(2,1)] w:=by
 rw[underlying29] at hu
 cases hu
 simp[sizeOf4,sizeOf27,sizeOf27]
theorem sM{fs:Array Go.Field}(hu:prog.underlying 39=some (.struct fs))(w:Go.World):(fs.mapM λ(f:Go.Field)=>do pure (f.offset,<-Go.sizeOf f.type)).run prog w=.ok #[(0,1),(1,1),(2,1)] w:=by
 rw[underlying39] at hu
 cases hu
 simp[sizeOf35,sizeOf36,sizeOf37]
theorem sL{fs:Array Go.Field}(hu:prog.underlying 50=some (.struct fs))(w:Go.World):(fs.mapM λ(f:Go.Field)=>do pure (f.offset,<-Go.sizeOf f.type)).run prog w=.ok #[(0,9),(9,3)] w:=by
 rw[underlying50] at hu
 cases hu
 simp[sizeOf31,sizeOf29]
theorem bT{fs:Array Go.Field}(hu:prog.underlying 53=some (.struct fs))(w:Go.World):(fs.mapM λ(f:Go.Field)=>do pure (f.offset,<-Go.sizeOf f.type)).run prog w=.ok #[(0,12),(12,1),(13,1)] w:=by
 rw[underlying53] at hu
 cases hu
 simp[sizeOf50,sizeOf51,sizeOf9]
theorem zGP{fs:Array Go.Field}(hu:prog.underlying 58=some (.struct fs))(w:Go.World):(fs.mapM λ(f:Go.Field)=>do pure (f.offset,<-Go.sizeOf f.type)).run prog w=.ok #[(0,27),(27,9)] w:=by
 rw[underlying58] at hu
 cases hu
 simp[sizeOf56,sizeOf31]
theorem zZS{fs:Array Go.Field}(hu:prog.underlying 72=some (.struct fs))(w:Go.World):(fs.mapM λ(f:Go.Field)=>do pure (f.offset,<-Go.sizeOf f.type)).run prog w=.ok #[(0,1),(1,1)] w:=by
 rw[underlying72] at hu
 cases hu
 simp[sizeOf22,sizeOf3]
theorem zV3{fs:Array Go.Field}(hu:prog.underlying 140=some (.struct fs))(w:Go.World):(fs.mapM λ(f:Go.Field)=>do pure (f.offset,<-Go.sizeOf f.type)).run prog w=.ok #[(0,12),(12,1),(13,1),(14,1)] w:=by
 rw[underlying140] at hu
 cases hu
 simp[sizeOf50,sizeOf76,sizeOf3,sizeOf3]
theorem zV2{fs:Array Go.Field}(hu:prog.underlying 153=some (.struct fs))(w:Go.World):(fs.mapM λ(f:Go.Field)=>do pure (f.offset,<-Go.sizeOf f.type)).run prog w=.ok #[(0,9),(9,9),(18,1)] w:=by
 rw[underlying153] at hu
 cases hu
 simp[sizeOf31,sizeOf31,sizeOf4]
theorem zV1{fs:Array Go.Field}(hu:prog.underlying 168=some (.struct fs))(w:Go.World):(fs.mapM λ(f:Go.Field)=>do pure (f.offset,<-Go.sizeOf f.type)).run prog w=.ok #[(0,1),(1,1),(2,1),(3,1),(4,1)] w:=by
 rw[underlying168] at hu
 cases hu
 simp[sizeOf3,sizeOf3,sizeOf3,sizeOf3,sizeOf3]
theorem zDF{fs:Array Go.Field}(hu:prog.underlying 200=some (.struct fs))(w:Go.World):(fs.mapM λ(f:Go.Field)=>do pure (f.offset,<-Go.sizeOf f.type)).run prog w=.ok #[(0,1),(1,1),(2,1),(3,1),(4,1)] w:=by
 rw[underlying200] at hu
 cases hu
 simp[sizeOf40,sizeOf3,sizeOf3,sizeOf3,sizeOf3]
theorem yD4:prog.funcs[194]?=some (prog.funcs[194]!):=by kernel_rfl
theorem yON(x y:Nat)(w:World):(callFunc 194 #[vU .u64 x,vU .u64 y,vU .u64 0]).run prog w=.ok (.value (.tuple #[vU .u64 ((x+y)%18446744073709551616),vU .u64 ((x+y)/18446744073709551616)])) w:=by
 unfold vU;rw[run_callFunc_extern yD4 zou zou zou (e:=add64Entry) zou,run_add64 x y (0:Nat) zot zot zot zot];simp only[Result.andThen]
 congr 5<;>omega
theorem zX:prog.follows .mixedOrders=true:=by kernel_rfl
end Go.Proofs.YtpkaegemlpaenaaGreat
namespace Bk
def val:List Nat->Nat
  |[]=>0
  |x::xs=>x+4294967296*val xs
def zB(n:Nat):List Nat:=if n=0 then[] else n%4294967296::zB (n/4294967296)
termination_by n
decreasing_by omega
def Fit(xs:List Nat):Prop:=∀x∈xs,x<4294967296
theorem xM:zB 0=[]:=by unfold zB;simp
theorem gE{n:Nat}(h:0<n):zB n=n%4294967296::zB (n/4294967296):=by
 rw[zB,zae zot]
theorem zE(n:Nat):val (zB n)=n:=by
 induction n using Nat.strongRecOn with
 |_ n ih=>
  by_cases h:n=0
  · subst h;simp[xM,val]
  · rw[gE zot,val,ih _ zot];omega
theorem wU(n:Nat):Fit (zB n):=by
 induction n using Nat.strongRecOn with
 |_ n ih=>
  by_cases h:n=0
  · subst h;simp[xM,Fit]
  · rw[gE zot]
    intro x hx
    rcases zfu.1 hx with rfl|hx
    · omega
    · exact ih _ zot x hx
theorem u6{m n:Nat}(h:zB m=zB n):m=n:=by rw[<-zE m,<-zE n,h]
theorem rU{x:Nat}{xs:List Nat}:Fit (x::xs)↔x<4294967296/\Fit xs:=by simp[Fit]
theorem fZ{xs:List Nat}(h:Fit xs)(k:Nat):Fit (xs.take k):=λx hx=>h x (z2e hx)
theorem dT{xs:List Nat}(h:Fit xs)(k:Nat):Fit (xs.drop k):=λx hx=>h x (z7i hx)
theorem zB9{xs:List Nat}(hf:Fit xs)(hl:xs=[]\/0<xs.getD (xs.length-1) 0):zB (val xs)=xs:=by
 induction xs with
 |nil=>simp[val,xM]
 |cons x xs ih=>
  have hx:=(rU.1 hf).1;have hxs:=(rU.1 hf).2;have hpos:0<val (x::xs):=by
   by_cases he:xs=[]
   · subst he
     simp at hl;simp[val];omega
   · have hne:0<xs.length:=by cases xs with|nil=>exact absurd rfl he|cons _ _=>simp
     have:0<val xs:=by
      have:=ih hxs (.inr (by
       rcases hl with hl|hl
       · simp at hl
       · have e:(x::xs).length-1=(xs.length-1)+1:=by simp;omega
         rw[e] at hl
         simpa using hl))
      cases hv:val xs with
      |zero=>rw[hv,xM] at this;exact absurd this.symm he
      |succ k=>omega
     simp only[val];omega
  rw[gE hpos];have e1:val (x::xs)%4294967296=x:=by simp only[val];omega
  have e2:val (x::xs)/4294967296=val xs:=by simp only[val];omega
  rw[e1,e2,ih hxs]
  rcases hl with hl|hl
  · simp at hl
  · by_cases he:xs=[]
    · exact .inl he
    · have hne:0<xs.length:=by cases xs with|nil=>exact absurd rfl he|cons _ _=>simp
      have e:(x::xs).length-1=(xs.length-1)+1:=by simp;omega
      rw[e] at hl;exact .inr (by simpa using hl)
theorem aW(xs ys:List Nat):val (xs++ys)=val xs+4294967296^xs.length*val ys:=by
 induction xs with
 |nil=>simp[val]
 |cons x xs ih=>simp only[zku,val,ih,lC,zni];rw[yzu,<-yhe,zyu 4294967296 (4294967296^xs.length)];omega
theorem bM(k:Nat):val (List.replicate k 0)=0:=by
 induction k with
 |zero=>rfl
 |succ k ih=>simp[ygi,val,ih]
theorem zC1{xs:List Nat}(h:∀x∈xs,x=0):val xs=0:=by
 induction xs with
 |nil=>rfl
 |cons x xs ih=>
  have:=h x zo3;rw[val,ih λy hy=>h y (by simp[hy])];omega
theorem fM(xs:List Nat)(k:Nat)(hk:k<=xs.length):val xs=val (xs.take k)+4294967296^k*val (xs.drop k):=by
 have:=aW (xs.take k) (xs.drop k);rw[yei,zei,ztu hk] at this;exact this
theorem gG{xs:List Nat}(h:Fit xs):val xs<4294967296^xs.length:=by
 induction xs with
 |nil=>simp[val]
 |cons x xs ih=>
  have h1:=ih (rU.1 h).2;have h2:=(rU.1 h).1;simp only[val,lC,zni];have:4294967296*(val xs+1)<=4294967296*4294967296^xs.length:=zsi _ h1;rw[zyu (4294967296^xs.length)];omega
theorem tO(xs:List Nat)(k:Nat)(hk:k<xs.length):xs.drop k=xs.getD k 0::xs.drop (k+1):=by
 rw[z4e hk];simp[hk]
theorem y4(xs:List Nat)(k:Nat)(hk:k<xs.length):xs.take (k+1)=xs.take k++[xs.getD k 0]:=by
 rw[zue hk];simp[hk]
theorem uX(xs:List Nat)(k:Nat)(hk:k<xs.length):val (xs.take (k+1))=val (xs.take k)+4294967296^k*xs.getD k 0:=by
 rw[y4 xs k hk,aW,zei,ztu zot];simp[val]
theorem kH(xs:List Nat)(k:Nat)(hk:k<xs.length):val (xs.drop k)=xs.getD k 0+4294967296*val (xs.drop (k+1)):=by
 rw[tO xs k hk,val]
theorem zJI{xs:List Nat}(hf:Fit xs){k:Nat}(hk:k<=xs.length)(hz:∀i,k<=i->xs.getD i 0=0)(ht:k=0\/xs.getD (k-1) 0≠0):xs.take k=zB (val xs):=by
 have h1:val (xs.drop k)=0:=zC1 λx hx=>by
  obtain⟨i,hi,rfl⟩:=ygu hx;have:=hz (k+i) zot;simp only[ziu] at hi;rw[zoa,zoc zot] at this
  simpa using this
 have h2:=fM xs k hk;rw[h1,z9i,zpi] at h2;rw[h2];refine(zB9 (fZ hf k) ?_).symm
 by_cases h0:k=0
 · exact .inl (by simp[h0])
 · right
   rcases ht with ht|ht
   · exact absurd ht h0
   · have C:(xs.take k).length=k:=by rw[zei];omega
     rw[C];have:(xs.take k).getD (k-1) 0=xs.getD (k-1) 0:=by
      simp only[zoa];rw[zpe,zau zot]
     rw[this];omega
def tZ(s:List Nat)(n:Nat):List Nat:=s++List.replicate (n-s.length) 0
theorem uP{s:List Nat}{n:Nat}(h:s.length<=n):(tZ s n).length=n:=by simp[tZ];omega
theorem aA{s:List Nat}{n:Nat}(h:s.length=n):tZ s n=s:=by simp[tZ,h]
theorem pP{s:List Nat}{n:Nat}(h:s.length<n)(y:Nat):(tZ s n).set s.length y=tZ (s++[y]) n:=by
 unfold tZ;rw[yke _ _ (zbe _),yvi,lAz,zke];have e:n-s.length=(n-(s.length+1))+1:=by omega
 rw[e,ygi];simp
theorem uT{xs ys:List Nat}(h:Fit xs)(k:Fit ys):Fit (xs++ys):=λx hx=>(zmu.1 hx).elim (h x) (k x)
theorem aM{x:Nat}(h:x<4294967296):Fit [x]:=λy hy=>by simp at hy;omega
theorem rN(s:List Nat)(y:Nat):val (s++[y])=val s+4294967296^s.length*y:=by rw[aW];simp[val]
theorem qY{xs:List Nat}(h:Fit xs)(i:Nat):xs.getD i 0<4294967296:=by
 by_cases hi:i<xs.length
 · rw[zoa,zoc hi];exact h _ (ybe hi)
 · rw[zoa,zre zot];decide
theorem sV{xs:List Nat}{i:Nat}(h:xs.length<=i):xs.getD i 0=0:=by rw[zoa,zre h];rfl
theorem uO(xs:List Nat)(k:Nat):val (xs.take (k+1))=val (xs.take k)+4294967296^k*xs.getD k 0:=by
 by_cases hk:k<xs.length
 · exact uX xs k hk
 · rw[sV zot,zvu zot,zvu zot];omega
theorem wH{xs:List Nat}{k:Nat}(h:xs.length<=k):val (xs.take k)=val xs:=by rw[zvu h]
def pQ(m n:Nat):Int:=if m<n then -1 else if m=n then 0 else 1
theorem zCQ{m n:Nat}(h:m<n):pQ m n= -1:=by simp[pQ,h]
theorem zUO(m:Nat):pQ m m=0:=by simp[pQ]
theorem zCR{m n:Nat}(h:n<m):pQ m n=1:=by
 have h1:¬m<n:=by omega
 have h2:m≠n:=by omega
 simp[pQ,h1,h2]
theorem rV{m n:Nat}:pQ m n<0↔m<n:=by
 unfold pQ;split
 · simp_all
 · split<;>simp_all
theorem zPX{m n:Nat}:0<pQ m n↔n<m:=by
 unfold pQ;split
 · simp_all;omega
 · split
   · simp_all
   · simp;omega
theorem zD6{m n:Nat}:pQ m n=0↔m=n:=by
 unfold pQ;split
 · simp;omega
 · split<;>simp_all
theorem yL{m n:Nat}(h:m<=n):(zB m).length<=(zB n).length:=by
 induction n using Nat.strongRecOn generalizing m with
 |_ n ih=>
  by_cases hm:m=0
  · subst hm;simp[xM]
  · rw[gE zot,gE (show 0<n by omega)]
    have:=ih (n/4294967296) zot (Nat.div_le_div_right (c:=4294967296) h);simp only[lC];omega
theorem rY{m n:Nat}(h:(zB m).length<(zB n).length):m<n:=by
 rcases zte m n with h'|h'
 · exact h'
 · have:=yL h';omega
theorem qA{xs:List Nat}(h:Fit xs):(zB (val xs)).length<=xs.length:=by
 induction xs with
 |nil=>simp[val,xM]
 |cons x xs ih=>
  have h2:=(rU.1 h).1
  by_cases h0:val (x::xs)=0
  · rw[h0,xM];simp
  · rw[gE zot]
    have e:val (x::xs)/4294967296=val xs:=by simp only[val];omega
    rw[e];have:=ih (rU.1 h).2;simp only[lC];omega
theorem qL{n k:Nat}(h:n<4294967296^k):(zB n).length<=k:=by
 induction k generalizing n with
 |zero=>simp at h;subst h;simp[xM]
 |succ k ih=>
  by_cases h0:n=0
  · subst h0;simp[xM]
  · rw[gE zot,lC]
    have:=ih (n:=n/4294967296) (by rw[zni] at h;omega);omega
theorem rJ{n k:Nat}(h:k<(zB n).length):4294967296^k<=n:=by
 rcases zte n (4294967296^k) with h'|h'
 · have:=qL h';omega
 · exact h'
theorem zE9{A B:List Nat}(hA:Fit A)(hl:A.length=B.length){j:Nat}(h1:1<=j)(hj:j<=A.length)(hd:A.drop j=B.drop j)(hlt:A.getD (j-1) 0<B.getD (j-1) 0):val A<val B:=by
 have H:=fM A (j-1) zot;have J:=fM B (j-1) zot;rw[kH A (j-1) zot] at H;rw[kH B (j-1) zot] at J;have e:j-1+1=j:=by omega
 rw[e] at H J;rw[hd] at H;have D:=gG (fZ hA (j-1));rw[zei,ztu zot] at D;have C:4294967296^(j-1)*(A.getD (j-1) 0+4294967296*val (B.drop j)+1)<=4294967296^(j-1)*(B.getD (j-1) 0+4294967296*val (B.drop j)):=zsi _ zot;rw[yzu,z6e] at C;omega
def uU(n:Nat):Nat:=if n=0 then 0 else Nat.log2 n+1
theorem zSU:uU 0=0:=rfl
theorem oE{n k:Nat}(h:n<2^k):uU n<=k:=by
 unfold uU
 split
 · omega
 · rename_i h0
   have:=(Nat.log2_lt h0).2 h;omega
theorem yDL{n k:Nat}(h1:2^k<=n)(h2:n<2^(k+1)):uU n=k+1:=by
 have C:0<2^k:=zwi zot;unfold uU;rw[zae zot];have a:=(Nat.log2_lt (n:=n) (k:=k+1) zot).2 h2;have b:¬Nat.log2 n<k:=λhc=>by
  have:=(Nat.log2_lt (n:=n) (k:=k) zot).1 hc;omega
 omega
theorem eE(n:Nat):n<2^uU n:=by
 unfold uU
 split
 · omega
 · rename_i h0
   exact Nat.lt_log2_self
theorem zBO{n:Nat}(h:n≠0):2^(uU n-1)<=n:=by
 unfold uU;rw[zae h];exact Nat.log2_self_le h
theorem zKP{n:Nat}(h:n≠0):0<uU n:=by unfold uU;rw[zae h];omega
theorem zAB{n k r:Nat}(h:n≠0)(hr:r<2^k):uU (n*2^k+r)=uU n+k:=by
 have h1:=zBO h;have h2:=eE n;have h3:=zKP h;have e:uU n+k=(uU n-1+k)+1:=by omega
 rw[e];refine yDL ?_ ?_
 · rw[zne]
   have:=zgi (2^k) h1;omega
 · have C:uU n-1+k+1=uU n+k:=by omega
   rw[C,zne];have:(n+1)*2^k<=2^uU n*2^k:=zgi _ h2;rw[z2u] at this;omega
theorem zEA{n k:Nat}(h:2^k<=n):uU n=uU (n/2^k)+k:=by
 have C:0<2^k:=zwi zot;have h0:n/2^k≠0:=yru (Nat.div_pos h C);have e:n=n/2^k*2^k+n%2^k:=(Nat.div_add_mod' n (2^k)).symm;have:=zAB h0 (zcu n C);rw[<-e] at this;exact this
theorem zD9{xs:List Nat}(hf:Fit xs){k:Nat}(hk:k+1=xs.length)(ht:xs.getD k 0≠0):uU (val xs)=32*k+uU (xs.getD k 0):=by
 have e:=fM xs k zot;rw[kH xs k zot,znu zot] at e;have h1:=gG (fZ hf k);rw[zei,ztu zot] at h1;have D:(4294967296:Nat)^k=2^(32*k):=by rw[ynu]
 rw[D] at e h1;have:=zAB ht h1;have C:val xs=xs.getD k 0*2^(32*k)+val (xs.take k):=by
  rw[e];simp[val];rw[zyu];omega
 rw[C,this];omega
theorem cM{r x:Nat}(hr:r<4294967296)(hx:x<4294967296):r*2^32%18446744073709551616 |||x=r*4294967296+x:=by
 have e:r*2^32%18446744073709551616=2^32*r:=by omega
 rw[e,<-Nat.two_pow_add_eq_or_of_lt zot];omega
theorem zRI{c x s:Nat}(hc:c<2^s):c |||x*2^s=x*2^s+c:=by
 rw[Nat.or_comm,zyu,<-Nat.two_pow_add_eq_or_of_lt hc]
theorem nC{xs:List Nat}{i:Nat}(hi:i<xs.length)(y:Nat):val (xs.set i y)+4294967296^i*xs.getD i 0=val xs+4294967296^i*y:=by
 have D:=fM xs i zot;have C:=fM (xs.set i y) i (by simp;omega);rw[kH xs i hi] at D;rw[kH (xs.set i y) i (by simpa using hi)] at C;have h1:(xs.set i y).take i=xs.take i:=by rw[List.take_set];exact List.set_eq_of_length_le (by rw[zei];omega)
 have h2:(xs.set i y).drop (i+1)=xs.drop (i+1):=by rw[List.drop_set,zau zot]
 have h3:(xs.set i y).getD i 0=y:=by simp[hi]
 rw[h1,h2,h3] at C;rw[D,C];grind
theorem nO{xs:List Nat}(h:Fit xs)(i:Nat){y:Nat}(hy:y<4294967296):Fit (xs.set i y):=by
 intro x hx
 rcases List.mem_or_eq_of_mem_set hx with h1|h1
 · exact h x h1
 · omega
theorem zI7{xs:List Nat}{i:Nat}(hi:i<xs.length)(y:Nat):(xs.set i y).getD i 0=y:=by simp[hi]
theorem jL{xs:List Nat}{i j:Nat}(h:i≠j)(y:Nat):(xs.set i y).getD j 0=xs.getD j 0:=by
 simp[zoa,ymi h]
theorem kG(n:Nat):Fit (List.replicate n 0):=λx hx=>by rw[List.eq_of_mem_replicate hx];omega
theorem dS(n i:Nat):(List.replicate n 0).getD i 0=0:=by
 rw[zoa,List.getElem?_replicate];split<;>rfl
def fJ(j:Nat)(s:List Nat):List Nat:=List.replicate j 0++s
theorem lK(j:Nat):fJ j []=List.replicate j 0:=by simp[fJ]
theorem aB(s:List Nat):fJ 0 s=s:=rfl
theorem jH(j:Nat)(s:List Nat):(fJ j s).length=j+s.length:=by simp[fJ]
theorem lJ{j:Nat}(h:0<j)(s:List Nat)(y:Nat):(fJ j s).set (j-1) y=fJ (j-1) (y::s):=by
 obtain⟨k,rfl⟩:∃k,j=k+1:=⟨j-1,zot⟩;unfold fJ;rw[z5e,List.replicate_succ',zki,yke _ _ zo3];simp
theorem zGB{X Q q r r' x b t:Nat}(h:X=b*Q+r)(ht:t=r*4294967296+x)(hq:q=t/b)(hr:r'=t%b):x+4294967296*X=b*(q+4294967296*Q)+r':=by
 have:t=b*q+r':=by rw[hq,hr];exact(z8i t b).symm
 grind
theorem rD{n:Nat}(h:0<(zB n).length):(zB n).getD ((zB n).length-1) 0≠0:=by
 induction n using Nat.strongRecOn with
 |_ n ih=>
  by_cases h0:n=0
  · subst h0;simp[xM] at h
  · rw[gE zot]
    by_cases h1:(zB (n/4294967296)).length=0
    · have e:zB (n/4294967296)=[]:=zof h1
      rw[e];have:n/4294967296=0:=by rw[<-zE (n/4294967296),e];rfl
      simp;omega
    · have:=ih (n/4294967296) zot zot
      have e:(n%4294967296::zB (n/4294967296)).length-1=((zB (n/4294967296)).length-1)+1:=by simp only[lC];omega
      rw[e]
      simpa using this
theorem zF7{xs:List Nat}(h:Fit xs):xs.take (zB (val xs)).length=zB (val xs):=by
 have M:=qA h;have e:val (xs.take (zB (val xs)).length)=val xs:=by
  have h1:=fM xs (zB (val xs)).length M;have h2:val xs<4294967296^(zB (val xs)).length:=by
   have:=gG (wU (val xs))
   rwa [zE] at this
  have h3:val (xs.drop (zB (val xs)).length)=0:=zdu λJ=>by
   have:4294967296^(zB (val xs)).length*1<=4294967296^(zB (val xs)).length*val (xs.drop (zB (val xs)).length):=zsi _ zot;omega
  rw[h3] at h1;omega
 have C:(xs.take (zB (val xs)).length).length=(zB (val xs)).length:=by rw[zei];omega
 by_cases h0:(zB (val xs)).length=0
 · rw[h0];simp[zof h0]
 · rw[<-zB9 (fZ h _) ?_,e]
   right
   rw[C];refine zii λhz=>?_;have H:=uX (xs.take (zB (val xs)).length) ((zB (val xs)).length-1) zot;rw[zzi zot,wH zot,e,hz,z9i,zpi] at H;have D:=gG (fZ (fZ h (zB (val xs)).length) ((zB (val xs)).length-1));rw[<-H,zei,C,ztu zot] at D;have O:=qL D;omega
def s9(n:Nat):List Nat:=if n=0 then[] else n%10::s9 (n/10)
termination_by n
decreasing_by omega
theorem eT:s9 0=[]:=by unfold s9;simp
theorem zD4{n:Nat}(h:n≠0):s9 n=n%10::s9 (n/10):=by rw[s9];simp[h]
theorem zXI{n k:Nat}(h:n<10^k):(s9 n).length<=k:=by
 induction k generalizing n with
 |zero=>have:n=0:=by omega
        subst this;simp[eT]
 |succ k ih=>
  by_cases h0:n=0
  · subst h0;simp[eT]
  · rw[zD4 h0,lC]
    have:=ih (n:=n/10) (by rw[zni] at h;omega);omega
theorem yC2(n:Nat):∀d∈s9 n,d<10:=by
 induction n using Nat.strongRecOn with
 |_ n ih=>
  by_cases h0:n=0
  · subst h0;simp[eT]
  · rw[zD4 h0]
    intro d hd
    rcases zfu.1 hd with rfl|hd
    · omega
    · exact ih (n/10) zot d hd
theorem zE5{xs:List Nat}(h:Fit xs):(s9 (val xs)).length<=10*xs.length:=by
 refine zXI (zme (gG h) ?_);rw[ynu];exact Nat.pow_le_pow_left zot _
def j8(n:Nat):List Nat:=(s9 n).map (48+·)
def txt(n:Nat):List Nat:=if n=0 then[48] else(j8 n).reverse
theorem zKN:j8 0=[]:=by simp[j8,eT]
theorem zPZ{n:Nat}(h:n≠0):j8 n=(48+n%10)::j8 (n/10):=by rw[j8,zD4 h];rfl
theorem zUT(n:Nat):∀d∈j8 n,d<256:=by
 intro d hd;obtain⟨x,hx,rfl⟩:=zlu.1 hd;have:=yC2 n x hx;omega
theorem zP0{xs:List Nat}(h:Fit xs):(j8 (val xs)).length<=10*xs.length:=by rw[j8,zde];exact zE5 h
theorem zXK{x n k:Nat}(h:x≠0\/n≠0):j8 (x+10^(k+1)*n)=(48+x%10)::j8 (x/10+10^k*n):=by
 have D:0<10^k:=zwi zot;have e:10^(k+1)*n=10*(10^k*n):=by rw[zni,zyu (10^k) 10,yhe]
 have C:x+10^(k+1)*n≠0:=by
  rcases h with h|h
  · omega
  · have:=Nat.mul_pos (zwi (n:=k+1) (show 0<10 by omega)) (zii h)
    omega
 rw[zPZ C,e,show(x+10*(10^k*n))%10=x%10 by omega,show(x+10*(10^k*n))/10=x/10+10^k*n by omega]
theorem yP{n:Nat}:0<(zB n).length↔n≠0:=by
 by_cases h:n=0
 · subst h;simp[xM]
 · rw[gE zot];simp[h]
theorem uZ(n:Nat):n<4294967296^(zB n).length:=by
 have:=gG (wU n)
 rwa [zE] at this
theorem yO(m n:Nat):(zB (m*n)).length<=(zB m).length+(zB n).length:=by
 refine qL ?_;rw[zne]
 rcases yii n with h|h
 · subst h
   rw[z9i];exact Nat.mul_pos (zwi zot) (zwi zot)
 · exact zme (z8u (uZ m) h) (zsi _ (yli (uZ n)))
theorem gC(m n:Nat):(zB (m+n)).length<=(zB m).length+(zB n).length+1:=by
 refine qL ?_;have h1:=uZ m;have h2:=uZ n;have h3:(4294967296:Nat)^(zB m).length<=4294967296^((zB m).length+(zB n).length):=zju zox zot;have C:(4294967296:Nat)^(zB n).length<=4294967296^((zB m).length+(zB n).length):=zju zox zot;rw[zni];omega
theorem gN{n:Nat}(h:n<18446744073709551616):(zB n).length<=2:=qL h
theorem zSV{x:Nat}(h:x≠0):uU x=uU (x/2)+1:=by
 by_cases h2:2<=x
 · exact zEA (k:=1) h2
 · have:x=1:=by omega
   subst this
   decide
theorem mX(m n:Nat):Nat.gcd n (m%n)=Nat.gcd m n:=by rw[y2e,<-Nat.gcd_rec,y2e]
theorem nJ{n:Nat}(h:(zB n).length<=2):n<18446744073709551616:=zme (uZ n) (zju zox h)
theorem zO7{xs:List Nat}(h:Fit xs)(hl:xs.length<=(zB (val xs)).length):zB (val xs)=xs:=by
 have:=zF7 h;rw[zvu hl] at this;exact this.symm
theorem zCA{n i:Nat}(h:4294967296^i<=n):i<(zB n).length:=by
 refine zdu λhc=>?_;have h1:=uZ n;have h2:(4294967296:Nat)^(zB n).length<=4294967296^i:=zju zox zot;omega
end Bk
namespace Bk
open Go Go.RowKit
section
variable {P:Program}{n:Nat}{w0:World}{h0:Mem}{e:List (Nat×Value)}{L:List Res}{h:Mem}{Q:Exit->Act->World->Prop}
variable {ds:Option Tmp}{ty:TypeId}{ps:String}{af:Array Edge}{gd:Option (Nat×Bool)}
abbrev Res.var(b:Nat)(E:TypeId)(cs:List Value):Res:=.blk b (.cells cs.toArray E)
abbrev vP(b k:Nat):Value:=.pointer (some ⟨b,k,none⟩)
theorem zDW(w:World)(o:Obj):(w.alloc o).heap[w.heap.size]?=some o:=by
 show(w.heap.push o)[w.heap.size]?=some o
 exact Array.getElem?_push_size
theorem vG{E:TypeId}{x:Operand}{v:Value}{cs:List Value}(hx:zH e x=some v)(hc:v.cells=cs.toArray):
 lT P n w0 h0 ⟨ds,.box E x,ty,ps,af,gd⟩ e L h (λu r=>∃b,u=vP b 0/\r=.var b E cs):=by
 intro a w D S;refine⟨_,w.alloc (.cells cs.toArray E),.var w.heap.size E cs,?_,World.grownBy_alloc w _ none,?_,λb C=>?_,_,I,I⟩
 · simp[execOp,D.eval hx,Instr.box,newVar,newRow,newObj,Sem.run,hc]
 · exact zDW w _
 · simp only[Res.fp,Option.some.injEq] at C
   omega
theorem vY{E:TypeId}{i:TypeInfo}{z:Value}{cs:List Value}(hi:P.info? E=some i)(hz:i.zero=some z)(hc:z.cells=cs.toArray):
 lT P n w0 h0 ⟨ds,.alloc E,ty,ps,af,gd⟩ e L h (λu r=>∃b,u=vP b 0/\r=.var b E cs):=by
 intro a w H S;refine⟨_,w.alloc (.cells cs.toArray E),.var w.heap.size E cs,?_,World.grownBy_alloc w _ none,?_,λb D=>?_,_,I,I⟩
 · have C:(zeroValue E).run P w=.ok z w:=by simp[zeroValue,typeInfo,hi,hz]
   simp[execOp,Instr.alloc,C,newVar,newRow,newObj,Sem.run,hc]
 · exact zDW w _
 · simp only[Res.fp,Option.some.injEq] at D
   omega
theorem fH{t:TypeId}{x:Operand}{f b k:Nat}{fs:Array Field}{fl:Field}{m:Nat}(ht:P.underlying t=some (.struct fs))(hf:fs[f]?=some fl)(hsz:∀w,(Go.sizeOf fl.type).run P w=.ok (m+1) w)(hx:zH e x=some (vP b k)):
 OpV P n w0 h0 ⟨ds,.fieldAddr t x f,ty,ps,af,gd⟩ e L h (vP b (k+fl.offset)):=by
 intro a w C S;simp[execOp,C.eval hx,Instr.fieldAt,run_underlying ht,hf,Instr.sureAddr,fieldPlace,hsz,jY]
theorem dZ{b:Nat}{E:TypeId}{cs:List Value}{w:World}(hw:w.heap[b]?=some (.cells cs.toArray E))(k:Nat)(vs:List Value)(hv:(cs.drop k).take vs.length=vs):w.rangeAt b k vs:=by
 intro j v D;have C:j<vs.length:=(zxi.1 D).1;have h1:cs[k+j]?=some v:=by
  rw[<-hv,zpe,zau C,zxu] at D;exact D
 unfold World.cell?;simp[hw,h1]
theorem dA{t:TypeId}{x:Operand}{b k:Nat}{E:TypeId}{cs:List Value}{v:Value}(hm:.var b E cs∈L)(ha:∀w,(isAgg t).run P w=.ok false w)(hx:zH e x=some (vP b k))(hv:cs[k]?=some v):
 OpV P n w0 h0 ⟨ds,.load t x,ty,ps,af,gd⟩ e L h v:=by
 intro a w C S;have hw:w.heap[b]?=some (.cells cs.toArray E):=S.ok _ hm;have hc:w.cell? ⟨b,k,none⟩=some v:=by unfold World.cell?;simp[hw,hv]
 simp[execOp,C.eval hx,Instr.loadAt,Instr.sureAddr,loadVar,ha,Go.load,Sem.run,hc]
theorem zN6{t:TypeId}{x:Operand}{b k:Nat}{E:TypeId}{cs vs:List Value}{d:TypeDesc}(hm:.var b E cs∈L)(hu:P.underlying t=some d)(hd:d.isRow=true)(hi:(P.info? t).map (·.size)=some vs.length)(hx:zH e x=some (vP b k))(hv:(cs.drop k).take vs.length=vs):
 OpV P n w0 h0 ⟨ds,.load t x,ty,ps,af,gd⟩ e L h (.agg vs.toArray):=by
 intro a w C S;have hw:w.heap[b]?=some (.cells cs.toArray E):=S.ok _ hm;simp only[execOp,C.eval hx];rw[Sem.run_bind,run_loadAt_mid w b k t vs d (dZ hw k vs hv) hu hd hi]
 rfl
theorem oL{b:Nat}{E:TypeId}:∀(vs:List Value) (k:Nat) (cs:List Value) (w:World),w.heap[b]?=some (.cells cs.toArray E)->
 (w.setCells b k vs).heap[b]?=some (.cells (vs.zipIdx.foldl (λc p=>c.set (k+p.2) p.1) cs).toArray E)/\w.grownBy (w.setCells b k vs) (some b)
 |[],k,cs,w,hw=>⟨hw,⟨rfl,rfl,rfl,zbe _,λ_ _ _=>rfl⟩⟩
 |v::r,k,cs,w,hw=>by
  have h1:(w.setCell ⟨b,k,none⟩ v).heap[b]?=some (.cells (cs.set k v).toArray E):=by
   simp[World.setCell,Array.getElem?_modify,hw]
  obtain⟨h2,h3⟩:=oL r (k+1) (cs.set k v) _ h1;have O:((v::r).zipIdx.foldl (λc p=>c.set (k+p.2) p.1) cs)=(r.zipIdx.foldl (λc p=>c.set (k+1+p.2) p.1) (cs.set k v)):=by
   rw[yfu,yae,zpi,List.zipIdx_succ,List.foldl_map]
   congr 1
   funext c p
   rw[show k+(p.2+1)=k+1+p.2 by omega]
  refine⟨?_,?_⟩
  · rw[World.setCells,O];exact h2
  · have J:b<w.heap.size:=(zpu.1 hw).1
    refine⟨?_,?_,?_,?_,?_⟩
    · exact h3.os
    · exact h3.tape
    · exact h3.output
    · have:=h3.size
      simpa[World.setCells,World.setCell] using this
    · intro H D C
      have M:=h3.block H (by simpa[World.setCell] using D) C;rw[World.setCells,M];have:b≠H:=λhh=>C (by rw[hh]);simp[World.setCell,Array.getElem?_modify,this]
def t9(cs:List Value)(k:Nat)(vs:List Value):List Value:=vs.zipIdx.foldl (λc p=>c.set (k+p.2) p.1) cs
theorem zM{A B:List Res}{E t:TypeId}{b k:Nat}{cs vs:List Value}{v:Value}{x y:Operand}(hx:zH e x=some (vP b k))(hy:zH e y=some v)(hv:v.cells=vs.toArray)(h1:vs.all (·.oneCell')=true)
    (hi:(P.info? t).map (·.size)=some vs.length)(hk:k+vs.length<=cs.length):Upd P n w0 h0 ⟨ds,.store t x y,ty,ps,af,gd⟩ e A (.var b E cs) B h (.var b E (t9 cs k vs)):=by
 intro a w M S;have hw:w.heap[b]?=some (.cells cs.toArray E):=S.ok (.var b E cs) zo3;obtain⟨h2,h3⟩:=oL vs k cs w hw;refine⟨w.setCells b k vs,?_,h3,h2⟩;have C:w.there b k vs.length:=by
  intro j H;have:k+j<cs.length:=by omega
  refine⟨?_,?_⟩
  · unfold World.cell?
    simp[hw,this]
  · simp[World.frozen?,hw]
 have D:=run_storeCells_cells (P:=P) b k vs 0 w (λj H=>by simpa using(C j H).1) (λj H=>by simpa using(C j H).2) (λu O=>zob.1 h1 u O);have J:(Go.sizeOf t).run P w=.ok vs.length w:=by
  cases hq:P.info? t with
  |none=>simp[hq] at hi
  |some i=>
   have:i.size=vs.length:=by simpa[hq] using hi
   simp[Go.sizeOf,typeInfo,hq,this]
 simp only[zpi] at D;simp[execOp,M.eval hx,M.eval hy,Instr.storeAt,Instr.sureAddr,storeVar,J,hv,D]
def iC(e:List (Nat×Value)):List (Nat×Operand)->List (Nat×Value)->Prop
  |[],[]=>True
  |(i,x)::r,(j,v)::s=>i=j/\zH e x=some v/\iC e r s
  |_,_=>False
theorem iC.eval{a:Act}(Ev:Env n e a):∀{ps:List (Nat×Operand)} {vs:List (Nat×Value)},iC e ps vs->(ps.map λp=>(p.1,a.eval p.2))=vs
  |[],[],_=>rfl
  |(i,x)::r,(j,v)::s,h=>by
   obtain⟨rfl,h2,h3⟩:=h;rw[zwu,iC.eval Ev h3,Ev.eval h2]
  |[],_::_,h=>h.elim
  |_::_,[],h=>h.elim
theorem Us.oneCell{k:IntKind}{v:Value}{xs:List Nat}(s:Us k h v xs):v.oneCell'=true:=by
 obtain⟨_,_,rfl⟩:=s.one
 rfl
theorem Us.cells{k:IntKind}{v:Value}{xs:List Nat}(s:Us k h v xs):v.cells=[v].toArray:=by
 obtain⟨_,_,rfl⟩:=s.one
 rfl
theorem oc0:([]:List Value).all (·.oneCell')=true:=rfl
theorem ocu{k:IntKind}{h:Mem}{v:Value}{xs:List Nat}{cs:List Value}(s:Us k h v xs)(r:cs.all (·.oneCell')=true):(v::cs).all (·.oneCell')=true:=by
 rw[List.all_cons,s.oneCell,r];rfl
theorem ocr{v:Value}{cs:List Value}(s:v.oneCell'=true)(r:cs.all (·.oneCell')=true):(v::cs).all (·.oneCell')=true:=by
 rw[List.all_cons,s,r];rfl
theorem zQR:∀(cs B A C:List Value),cs.length=B.length->(cs.zipIdx.foldl (λ(a:Array Value) (p:Value×Nat)=>a.setIfInBounds (A.length+p.2) p.1) (A++B++C).toArray)=(A++cs++C).toArray:=by
 have key:∀(cs B A C:List Value) (k:Nat) (A0:Nat),A.length=A0+k->cs.length=B.length->((cs.zipIdx k).foldl (λ(a:Array Value) (p:Value×Nat)=>a.setIfInBounds (A0+p.2) p.1) (A++B++C).toArray)=(A++cs++C).toArray:=by
  intro cs
  induction cs with
  |nil=>
   intro B A C k A0 hA hB;have:B=[]:=zof hB.symm;subst this;rfl
  |cons c cs ih=>
   intro B A C k A0 hA hB
   cases B with
   |nil=>simp at hB
   |cons b B=>
    have e:(A++b::B++C).toArray.setIfInBounds (A0+k) c=((A++[c])++B++C).toArray:=by
     rw[<-hA];simp[List.set_append]
    rw[yfu,yae]
    show List.foldl _ ((A++b::B++C).toArray.setIfInBounds (A0+k) c) _=_
    rw[e,ih B (A++[c]) C (k+1) A0 (by simp;omega) (by simpa using hB)];simp
 intro cs B A C h;exact key cs B A C 0 A.length I h
theorem vO{place:Nat->Option (Nat×Nat)}{i off size:Nat}{A B C cs:List Value}{v:Value}{rest:List (Nat×Value)}{r:Option (Array Value)}(hp:place i=some (off,size))(hA:A.length=off)(hB:B.length=size)(hs:cs.length=size)(hc:v.cells=cs.toArray)
    (k:Instr.fill place (A++cs++C).toArray rest=r):Instr.fill place (A++B++C).toArray ((i,v)::rest)=r:=by
 subst hA;have h1:v.cells.size=size:=by rw[hc];simpa using hs
 have h3:(decide (v.cells.size≠size)||decide (A.length+v.cells.size>(A++B++C).toArray.size))=false:=by
  rw[h1];simp;omega
 simp only[Instr.fill,hp];rw[h3,zae zox,hc,<-Array.foldl_toList,Array.toList_zipIdx,zQR cs B A C zot];exact k
theorem jX{place:Nat->Option (Nat×Nat)}{vs:List Value}:Instr.fill place vs.toArray []=some vs.toArray:=rfl
theorem wJ{t:TypeId}{i:TypeInfo}{z:Value}{fs:Array Field}{places:Array (Nat×Nat)}{parts:List (Nat×Operand)}{ps':List (Nat×Value)}{vs:List Value}(ht:P.underlying t=some (.struct fs))(hi:P.info? t=some i)(hz:i.zero=some z)
    (hpl:∀w,(fs.mapM λ(f:Field)=>do pure (f.offset,<-Go.sizeOf f.type)).run P w=.ok places w)(hp:iC e parts ps')(hf:Instr.fill (places[·]?) z.cells ps'=some vs.toArray):
    OpV P n w0 h0 ⟨ds,.build t parts.toArray,ty,ps,af,gd⟩ e L h (.agg vs.toArray):=by
 intro a w H S;have D:(parts.toArray.map λ(p:Nat×Operand)=>(p.1,a.eval p.2)).toList=ps':=by
  rw[z0e];exact hp.eval H
 have C:(zeroValue t).run P w=.ok z w:=by simp[zeroValue,typeInfo,hi,hz]
 simp only[execOp,Instr.build];rw[show(parts.toArray.map λ(i,x)=>(i,a.eval x)).toList=ps' from D];simp only[Sem.run_bind,C,Result.andThen_ok,run_underlying ht,hpl,hf]
 rfl
def zGH(tmps:Array Value):ResultVar->Sem Value
  | .tmp t=>pure (tmps.getD t undef)
  | .cell a t=>do loadVar t (<-asAddr (tmps.getD a undef))
def RV(P:Program)(n:Nat)(w0:World)(h0:Mem)(r:ResultVar)(e:List (Nat×Value))(L:List Res)(h:Mem)(v:Value):Prop:=∀a w,Env n e a->St w0 h0 L h w->(zGH a.tmps r).run P w=.ok v w
theorem gH{t:Nat}{v:Value}(hv:zH e (.tmp t)=some v):RV P n w0 h0 (.tmp t) e L h v:=by
 intro a w E S;have:=E.eval hv;simp only[Act.eval] at this;simp[zGH,this]
theorem vD{t:Nat}{T E:TypeId}{b:Nat}{cs:List Value}{d:TypeDesc}(hm:.var b E cs∈L)(hu:P.underlying T=some d)(hd:d.isRow=true)(hi:(P.info? T).map (·.size)=some cs.length)(hx:zH e (.tmp t)=some (vP b 0)):RV P n w0 h0 (.cell t T) e L h (.agg cs.toArray):=by
 intro a w C S;have hw:w.heap[b]?=some (.cells cs.toArray E):=S.ok _ hm;have:=C.eval hx;simp only[Act.eval] at this;have h2:=run_loadVar_mid (P:=P) w b 0 T cs d (dZ hw 0 cs zo3) hu hd hi;simp[zGH,this,asAddr,h2]
theorem zEL(fn:Func)(tmps:Array Value):results fn tmps=(do let vs <-fn.results.mapM (zGH tmps);pure (if h:vs.size=1 then vs[0] else .tuple vs)):=by
 unfold results
 congr 1
section
variable {fn:Func}{r1 r2 r3 r4:ResultVar}{v1 v2 v3 v4:Value}{R:Mem->Value->Prop}{RO:Mem->Value->List Res->Prop}
theorem zS(hr:fn.results=#[r1])(h1:RV P n w0 h0 r1 e L h v1){a:Act}{w:World}(Ev:Env n e a)(S:St w0 h0 L h w):(results fn a.tmps).run P w=.ok v1 w:=by
 simp[zEL,hr,h1 a w Ev S]
theorem qO(hr:fn.results=#[r1,r2])(h1:RV P n w0 h0 r1 e L h v1)(h2:RV P n w0 h0 r2 e L h v2){a:Act}{w:World}(Ev:Env n e a)(S:St w0 h0 L h w):(results fn a.tmps).run P w=.ok (.tuple #[v1,v2]) w:=by
 simp[zEL,hr,h1 a w Ev S,h2 a w Ev S]
theorem yN{v:Value}(hres:∀{a:Act} {w:World},Env n e a->St w0 h0 L h w->(results fn a.tmps).run P w=.ok v w)(hR:R h v):GQ n w0 h0 (bodyPost P fn (Ret w0 h0 R)) .ret e L h:=by
 intro a w E S;exact bodyPost_ret (hres E S) E.defers ⟨_,h,I,hR,S.sublist (zse _)⟩
theorem gO{v:Value}(hres:∀{a:Act} {w:World},Env n e a->St w0 h0 L h w->(results fn a.tmps).run P w=.ok v w)(hR:RO h v L):GQ n w0 h0 (bodyPost P fn (tP w0 h0 RO)) .ret e L h:=by
 intro a w E S;exact bodyPost_ret (hres E S) E.defers ⟨_,h,L,I,hR,S⟩
end
end
end Bk
namespace Bk
theorem eQ(xs:List Nat)(j k:Nat):(xs.drop j).getD k 0=xs.getD (j+k) 0:=by
 rw[zoa,zxu,<-zoa]
theorem kZ{xs:List Nat}(h:Fit xs)(j:Nat):val (xs.drop j)=val xs/4294967296^j:=by
 by_cases hj:j<=xs.length
 · have h1:=fM xs j hj
   have h2:=gG (fZ h j);rw[zei,ztu hj] at h2;rw[h1,ymu _ _ (zwi zot),z1i h2,zyi]
 · rw[znu zot,z1i (zme (gG h) (zju zot zot))]
   rfl
theorem iG{xs:List Nat}{k:Nat}(h:val xs<4294967296^k){i:Nat}(hi:k<=i):xs.getD i 0=0:=by
 by_cases hl:i<xs.length
 · refine zdu λC=>?_
   have h1:=fM xs i zot;have h2:=kH xs i hl;have h3:4294967296^k<=4294967296^i:=zju zot hi;have D:4294967296^i*1<=4294967296^i*val (xs.drop i):=zsi _ zot;omega
 · exact sV zot
theorem zF0{xs:List Nat}(hf:Fit xs){J n:Nat}(h:val (xs.drop J)<4294967296^n):val xs<4294967296^(J+n):=by
 rw[kZ hf] at h;have:=Nat.lt_mul_of_div_lt h (zwi zot);rw[zne,zyu];exact this
theorem iM{xs:List Nat}(hf:Fit xs){k:Nat}(h:∀i,k<=i->xs.getD i 0=0):val xs<4294967296^k:=by
 by_cases hk:k<=xs.length
 · have h1:=fM xs k hk
   have h2:=gG (fZ hf k);rw[zei,ztu hk] at h2;have h3:val (xs.drop k)=0:=zC1 λx hx=>by
    obtain⟨i,hi,rfl⟩:=ygu hx;have:=h (k+i) zot;rw[<-eQ,zoa,zoc hi] at this
    simpa using this
   rw[h3,z9i] at h1;omega
 · exact zme (gG hf) (zju zot zot)
theorem zS3{xs:List Nat}{n:Nat}(hn:2<=n)(hl:xs.length=n):val xs=(xs.getD (n-1) 0*4294967296+xs.getD (n-2) 0)*4294967296^(n-2)+val (xs.take (n-2)):=by
 obtain⟨k,rfl⟩:∃k,n=k+2:=⟨n-2,zot⟩;have h1:val xs=val (xs.take (k+1+1)):=(wH zot).symm;rw[h1,uO,uO];simp only[z5e,show k+2-1=k+1 by omega,zni];generalize 4294967296^k=p;generalize (4294967296:Nat)=B;grind
theorem zVA(B p q0 a b c v3 v2 v1 P1 P2:Nat)(e1:P1=p*B)(e2:P2=P1*B)(h1:v3=v2+P2*a)(h2:v2=v1+P1*b)(h3:v1=q0+p*c):v3=((a*B+b)*B+c)*p+q0:=by
 subst e2 e1 h1 h2 h3;grind
theorem yEB{ys:List Nat}{m:Nat}(hz:∀i,m<=i->ys.getD i 0=0):val ys=val (ys.take m):=by
 by_cases hl:m<=ys.length
 · have h1:=fM ys m hl
   have h3:val (ys.drop m)=0:=zC1 λx hx=>by
    obtain⟨i,hi,rfl⟩:=ygu hx;have:=hz (m+i) zot;rw[<-eQ,zoa,zoc hi] at this
    simpa using this
   rw[h3,z9i,zpi] at h1;exact h1
 · exact(wH zot).symm
theorem zJF{xs:List Nat}{j n:Nat}(hn:2<=n)(hz:∀i,j+n<i->xs.getD i 0=0)(hf:Fit xs):
 ∃w,val (xs.drop j)=((xs.getD (j+n) 0*4294967296+xs.getD (j+n-1) 0)*4294967296+xs.getD (j+n-2) 0)*4294967296^(n-2)+w/\w<4294967296^(n-2):=by
 obtain⟨k,rfl⟩:∃k,n=k+2:=⟨n-2,zot⟩;rw[z5e,show j+(k+2)-1=j+(k+1) by omega,show j+(k+2)-2=j+k by omega];refine⟨val ((xs.drop j).take k),?_,?_⟩
 · have h0:val (xs.drop j)=val ((xs.drop j).take (k+3)):=yEB λi hi=>by rw[eQ];exact hz _ zot
   have h1:=uO (xs.drop j) (k+2);have h2:=uO (xs.drop j) (k+1);have h3:=uO (xs.drop j) k;rw[eQ] at h1 h2 h3;exact h0.trans (zVA _ _ _ _ _ _ _ _ _ _ _ (zni _ _) (zni _ _) h1 h2 h3)
 · have:=gG (fZ (dT hf j) k)
   refine zme this (zju zox ?_);simp[zei];omega
section est
variable {V W P v1 v2 vr top u3 wr x rest:Nat}
theorem zPM(hV:V=(v1*4294967296+v2)*P+vr)(hW:W=(top*4294967296+u3)*P+wr)(hu:u3<4294967296)(hw:wr<P)(h1:0<v1):W<(top/v1+1)*V:=by
 have h2:top<v1*(top/v1+1):=Nat.lt_mul_div_succ top h1;have h3:(top+1)*4294967296<=v1*(top/v1+1)*4294967296:=zgi _ h2;have H:(top*4294967296+u3+1)*P<=v1*(top/v1+1)*4294967296*P:=zgi _ zot;have D:(top/v1+1)*V=v1*(top/v1+1)*4294967296*P+(top/v1+1)*(v2*P+vr):=by rw[hV];generalize (4294967296:Nat)=B;grind
 have C:(top*4294967296+u3+1)*P=(top*4294967296+u3)*P+P:=by generalize (4294967296:Nat)=B;grind
 omega
theorem yGJ(hV:V=(v1*4294967296+v2)*P+vr)(hW:W=(top*4294967296+u3)*P+wr)(hw:wr<P)(ht:x*v1+rest=top)(hb:rest*4294967296+u3<x*v2):W<x*V:=by
 have h1:(rest*4294967296+u3+1)*P<=x*v2*P:=zgi _ hb;have h2:x*V=x*v1*4294967296*P+x*v2*P+x*vr:=by rw[hV];generalize (4294967296:Nat)=B;grind
 have h3:(top*4294967296+u3)*P=x*v1*4294967296*P+(rest*4294967296+u3)*P:=by rw[<-ht];generalize (4294967296:Nat)=B;grind
 have C:(rest*4294967296+u3+1)*P=(rest*4294967296+u3)*P+P:=by generalize (4294967296:Nat)=B;grind
 omega
theorem yCT(hV:V=(v1*4294967296+v2)*P+vr)(hW:W=(top*4294967296+u3)*P+wr)(hr:vr<P)(h1:0<v1)(ht:x*v1+rest=top)(hx:x<4294967296)(hb:x*v2<=rest*4294967296+u3):x*V<W+V:=by
 have h2:x*v2*P<=(rest*4294967296+u3)*P:=zgi _ hb;have h3:x*V=x*v1*4294967296*P+x*v2*P+x*vr:=by rw[hV];generalize (4294967296:Nat)=B;grind
 have J:(top*4294967296+u3)*P=x*v1*4294967296*P+(rest*4294967296+u3)*P:=by rw[<-ht];generalize (4294967296:Nat)=B;grind
 have hP:0<P:=by omega
 have H:x*vr<4294967296*P:=by
  have:=z7u (show x<=4294967295 by omega) (show vr<=P by omega);omega
 have D:1*(4294967296*P)<=v1*(4294967296*P):=zgi _ h1;have C:V=v1*(4294967296*P)+(v2*P+vr):=by rw[hV];generalize (4294967296:Nat)=B;grind
 omega
theorem yGI(hV:V=(v1*4294967296+v2)*P+vr)(hW:W=(top*4294967296+u3)*P+wr)(hr:vr<P)(h2:v2<4294967296)(hWV:W<4294967296*V):top<=v1*4294967296+4294967295:=by
 refine zdu λhc=>?_;have h3:(v1*4294967296+4294967296)*(4294967296*P)<=top*(4294967296*P):=zgi _ zot;have J:(v1*4294967296+v2+1)*P<=(v1*4294967296+4294967296)*P:=zgi _ zot;have H:(top*4294967296+u3)*P=top*(4294967296*P)+u3*P:=by generalize (4294967296:Nat)=B;grind
 have D:(v1*4294967296+v2+1)*P=(v1*4294967296+v2)*P+P:=by generalize (4294967296:Nat)=B;grind
 have C:(v1*4294967296+4294967296)*(4294967296*P)=4294967296*((v1*4294967296+4294967296)*P):=by generalize (4294967296:Nat)=B;grind
 omega
theorem zKI(hV:V=(v1*4294967296+v2)*P+vr)(hW:W=(top*4294967296+u3)*P+wr)(hr:vr<P)(h2:v2<4294967296)(ht:x*v1+rest=top)(hre:4294967296<=rest)(htop:top<=v1*4294967296+4294967295)(h1:0<v1):x<4294967296/\x*V<=W:=by
 have hx:x<4294967296:=by
  refine zdu λhc=>?_;have:4294967296*v1<=x*v1:=zgi _ zot;omega
 refine⟨hx,?_⟩;have h3:x*V=x*v1*4294967296*P+x*(v2*P+vr):=by rw[hV];generalize (4294967296:Nat)=B;grind
 have M:(top*4294967296+u3)*P=x*v1*4294967296*P+(rest*4294967296)*P+u3*P:=by rw[<-ht];generalize (4294967296:Nat)=B;grind
 have C:v2*P+vr<=4294967296*P:=by
  have:=zgi P (show v2+1<=4294967296 by omega);generalize (4294967296:Nat)=B at *;grind
 have J:x*(v2*P+vr)<=4294967296*(4294967296*P):=z7u zot C;have H:4294967296*4294967296*P<=rest*4294967296*P:=zgi _ (zgi _ hre);have D:4294967296*(4294967296*P)=4294967296*4294967296*P:=by generalize (4294967296:Nat)=B;grind
 omega
end est
theorem zGG{us ts:List Nat}{j x V:Nat}(hf:Fit us)(hft:Fit ts)(h:val ts+4294967296^j*(x*V)=val us)(hx:val (us.drop j)<(x+1)*V):val (ts.drop j)<V:=by
 have C:0<4294967296^j:=zwi zot;rw[kZ hf,<-h,ymu _ _ C,<-kZ hft,z2u] at hx;omega
theorem zVV{us ts rs:List Nat}{j n x V b o:Nat}(hf:Fit us)(hfr:Fit rs)(ht:val ts<4294967296^(j+n+1))(hr:val rs<4294967296^(j+n+1))(hb:b=1)(h:val ts+4294967296^j*(x*V)=val us+4294967296^(j+n+1)*b)
    (hx:x*V<val (us.drop j)+V)(ho:val rs+4294967296^(j+n+1)*o=val ts+4294967296^j*V)(ho1:o<=1):0<x/\val rs+4294967296^j*((x-1)*V)=val us/\val (rs.drop j)<V:=by
 subst hb;have O:0<4294967296^j:=zwi zot;have h1:val us<4294967296^j*(x*V):=by omega
 have J:val (us.drop j)<x*V:=by
  rw[kZ hf];exact z3u h1
 have H:0<x:=zii λh0=>by rw[h0,zwe] at J;omega
 obtain⟨y,rfl⟩:∃y,x=y+1:=⟨x-1,zot⟩;rw[z5e];have M:(y+1)*V=y*V+V:=by rw[z2u,yne]
 have Z:4294967296^j*((y+1)*V)=4294967296^j*(y*V)+4294967296^j*V:=by rw[M,yzu]
 have h2:4294967296^j*(y*V)<=val us:=by
  have h3:4294967296^j*(y*V)<=4294967296^j*val (us.drop j):=zsi _ zot;have U:4294967296^j*val (us.drop j)<=val us:=by rw[kZ hf];exact Nat.mul_div_le _ _
  omega
 have C:o=1:=by
  rcases yii o with h0|h0
  · subst h0;omega
  · omega
 subst C;have D:val rs+4294967296^j*(y*V)=val us:=by omega
 exact⟨zot,D,zGG hf hfr D zot⟩
theorem zG9{Y k s:Nat}(hY:Y≠0)(hk:k+1=(zB Y).length)(hs:s=32-uU ((zB Y).getD k 0)):s<32/\(zB (Y*2^s)).length=k+1/\2147483648<=(zB (Y*2^s)).getD k 0:=by
 have hf:=wU Y;have C:(zB Y).getD k 0≠0:=by
  have:=rD (n:=Y) zot
  rwa [show(zB Y).length-1=k by omega] at this
 have hb:=zD9 hf hk C;rw[zE] at hb;have ab:=zKP C;have aa:=oE (n:=(zB Y).getD k 0) (k:=32) (qY hf k);have J:=zBO hY;have O:=eE Y;have e1:(4294967296:Nat)^k*2147483648=2^(32*k+31):=by rw[zne,ynu]
 have e2:(4294967296:Nat)^(k+1)=2^(32*k+32):=by rw[zni,zne,ynu]
 have U:4294967296^k*2147483648<=Y*2^s:=by
  rw[e1,show 32*k+31=(uU Y-1)+s by omega,zne];exact zgi _ J
 have D:Y*2^s<4294967296^(k+1):=by
  rw[e2,show 32*k+32=uU Y+s by omega,zne];exact z8u O (zwi zot)
 have M:=qL D;have H:=wU (Y*2^s);have Z:(zB (Y*2^s)).length=k+1:=by
  refine Nat.le_antisymm M (zdu λhc=>?_);have h1:=gG H;rw[zE] at h1;have h2:(4294967296:Nat)^(zB (Y*2^s)).length<=4294967296^k:=zju zot zot;omega
 refine⟨zot,Z,zdu λhc=>?_⟩;have h1:=uO (zB (Y*2^s)) k;rw[wH zot,zE] at h1;have h2:=gG (fZ H k);rw[zei,ztu zot] at h2;have h3:4294967296^k*((zB (Y*2^s)).getD k 0+1)<=4294967296^k*2147483648:=zsi _ zot;rw[yzu,z6e] at h3;omega
theorem yDW(c:Nat):c&&&4294967295=c%4294967296:=Nat.and_two_pow_sub_one_eq_mod c 32
theorem zXG{X Y la k s:Nat}{us:List Nat}(hf:Fit us)(hX:X<4294967296^la)(hus:val us=X*2^s)(hk:k<=la)(hY:4294967296^k<=Y):val (us.drop (la-k))<Y*2^s:=by
 rw[kZ hf,hus];refine z3u ?_;rw[<-yhe];refine z8u (zme hX ?_) (zwi zot);rw[show la=(la-k)+k by omega,zne,show la-k+k-k=la-k by omega];exact zsi _ hY
theorem zUK{X Y s u q:Nat}(hY:0<Y)(h:u+q*(Y*2^s)=X*2^s)(hu:u<Y*2^s):q=X/Y/\u/2^s=X%Y:=by
 have C:0<2^s:=zwi zot;have h1:u=(X-q*Y)*2^s:=by
  rw[yzi,yhe];omega
 have h2:q*Y<=X:=by
  refine Nat.le_of_mul_le_mul_right (c:=2^s) ?_ C;rw[yhe];omega
 have h3:X-q*Y<Y:=by
  refine Nat.lt_of_mul_lt_mul_right (a:=2^s) ?_;omega
 have D:X=q*Y+(X-q*Y):=by omega
 refine⟨?_,?_⟩
 · generalize X-q*Y=r at *
   rw[D,zyu q Y,Nat.mul_add_div hY,z1i h3];omega
 · rw[h1,Nat.mul_div_cancel _ C]
   generalize X-q*Y=r at *;rw[D,zyu q Y,Nat.mul_add_mod,zoh h3]
theorem zCN{x v r t:Nat}(h:x*v+r=t)(hx:1<=x):(x-1)*v+(r+v)=t:=by
 obtain⟨y,rfl⟩:∃y,x=y+1:=⟨x-1,zot⟩;rw[z2u,yne] at h;rw[z5e];omega
theorem yLM{x v r t:Nat}(h:x*v+r=t)(ht:t<=v*4294967296+4294967295)(hv:2147483648<=v):x<=4294967297:=by
 refine zdu λhc=>?_;have:=zgi v (show 4294967298<=x by omega);omega
theorem yFQ{B p q vt vt' vu x yT Y X y' c b c' b' l:Nat}(h:vt+p*(x*yT)=vu+p*q*(c+b))(h1:vt'+p*q*X=vt+p*q*y')(e1:y'+l+b=X+B*b')(e2:B*c'+l=c+x*Y):vt'+p*(x*(yT+q*Y))=vu+p*q*B*(c'+b'):=by grind
theorem yKP{B p q vt vt' vu xV X y' c b b':Nat}(h:vt+p*xV=vu+p*q*(c+b))(h1:vt'+p*q*X=vt+p*q*y')(e1:y'+c+b=X+B*b'):vt'+p*xV=vu+p*q*B*b':=by grind
theorem yGZ{B p q vt vt' vu yT Y X y' c c':Nat}(h:vt+p*q*c=vu+p*yT)(h1:vt'+p*q*X=vt+p*q*y')(e:B*c'+y'=c+(X+Y)):vt'+p*q*B*c'=vu+p*(yT+q*Y):=by grind
theorem yML{B p q vt vt' vu V X y' c c':Nat}(h:vt+p*q*c=vu+p*V)(h1:vt'+p*q*X=vt+p*q*y')(e:B*c'+y'=X+c):vt'+p*q*B*c'=vu+p*V:=by grind
theorem yJU{B p vu vr vq x V U:Nat}(h:vu+p*B*(vq*V)=U)(h2:vr+p*(x*V)=vu):vr+p*((x+B*vq)*V)=U:=by grind
theorem zA5{xs:List Nat}(h:xs.length=1):val xs=xs.getD 0 0:=by
 match xs,h with
 |[x],_=>simp[val]
def iR(s:Nat)(xs:List Nat)(i:Nat):Nat:=val (xs.drop i)/2^s%4294967296
def zAG(s:Nat)(xs:List Nat)(i:Nat):List Nat:=(List.range i).map (iR s xs)++xs.drop i
theorem zVL(s:Nat)(xs:List Nat):zAG s xs 0=xs:=by simp[zAG]
theorem tR{s:Nat}{xs:List Nat}{i:Nat}(h:i<=xs.length):(zAG s xs i).length=xs.length:=by simp[zAG];omega
theorem zNK{s:Nat}{xs:List Nat}{i k:Nat}(h:i<=k):(zAG s xs i).getD k 0=xs.getD k 0:=by
 rw[zoa,zAG,yni (by simpa using h),zde,yku,zxu,<-zoa,show i+(k-i)=k by omega]
theorem zNJ{s:Nat}{xs:List Nat}{i:Nat}(h:i<xs.length):(zAG s xs i).set i (iR s xs i)=zAG s xs (i+1):=by
 rw[zAG,zAG,yke _ _ zo3,zde,yku,yvi,tO xs i h,yvu];simp
theorem zTA(s:Nat)(xs:List Nat)(i:Nat):iR s xs i<4294967296:=zcu _ zot
theorem yCN{s:Nat}{xs:List Nat}{i:Nat}(h:Fit xs):Fit (zAG s xs i):=uT (λx hx=>by obtain⟨k,_,rfl⟩:=zlu.1 hx;exact zTA s xs k) (dT h i)
theorem t6{s:Nat}{xs:List Nat}(hf:Fit xs)(i:Nat):val ((List.range i).map (iR s xs))=val xs/2^s%4294967296^i:=by
 induction i with
 |zero=>simp[val,Nat.mod_one]
 |succ i ih=>
  rw[yvu,zle,List.map_singleton,rN,ih,zde,yku,zni,Nat.mod_mul,iR,kZ hf,yse,yse,zyu (2^s)]
theorem zX0{s:Nat}{xs:List Nat}(hf:Fit xs):val (zAG s xs xs.length)=val xs/2^s:=by
 rw[zAG,znu (zbe _),zqi,t6 hf];exact zoh (yre (zti _ _) (gG hf))
theorem zVM{xs:List Nat}{i:Nat}(hf:Fit xs)(h:i<xs.length):iR 0 xs i=xs.getD i 0:=by
 have:=qY hf i;rw[iR,kH xs i h,y3i,z4i];omega
theorem zVO{s:Nat}{xs:List Nat}{i:Nat}(hf:Fit xs)(h:i+1=xs.length):iR s xs i=xs.getD i 0/2^s:=by
 have h1:=qY hf i;rw[iR,kH xs i zot,znu zot]
 show(xs.getD i 0+4294967296*0)/2^s%4294967296=_
 rw[z9i,zpi];exact zoh (yre (zti _ _) h1)
theorem yEW{s:Nat}{xs:List Nat}{i:Nat}(hf:Fit xs)(hs:s<=32)(h:i+1<xs.length):xs.getD i 0/2^s |||xs.getD (i+1) 0*2^(32-s)%4294967296=iR s xs i:=by
 have h1:=qY hf i;have e:(4294967296:Nat)=2^s*2^(32-s):=by rw[<-zne,show s+(32-s)=32 by omega]
 have C:0<2^s:=zwi zot;have h2:xs.getD i 0/2^s<2^(32-s):=z3u (by rw[<-e];exact h1);have h3:xs.getD (i+1) 0*2^(32-s)%4294967296=(xs.getD (i+1) 0%2^s)*2^(32-s):=by
  conv=>lhs;rw[e]
  rw[Nat.mul_mod_mul_right]
 rw[h3,zRI h2,iR,kH xs i zot,kH xs (i+1) h];generalize xs.getD i 0=a at *;generalize xs.getD (i+1) 0=b at *;generalize val (List.drop (i+1+1) xs)=c at *;have U:(a+4294967296*(b+4294967296*c))/2^s=a/2^s+2^(32-s)*(b+4294967296*c):=by
  conv=>lhs;rw[show a+4294967296*(b+4294967296*c)=a+2^s*(2^(32-s)*(b+4294967296*c)) by rw[<-yhe,<-e]]
  rw[ymu _ _ C]
 have O:2^(32-s)*(b+4294967296*c)=2^(32-s)*(b%2^s)+4294967296*(b/2^s+2^(32-s)*c):=by
  have M:=z8i b (2^s)
  conv=>lhs;rw[<-M]
  generalize b/2^s=p at *;generalize b%2^s=r at *;rw[e];generalize 2^s=u;generalize 2^(32-s)=v;grind
 have J:a/2^s+2^(32-s)*(b%2^s)<4294967296:=by
  have H:b%2^s<2^s:=zcu _ C;have D:2^(32-s)*(b%2^s+1)<=2^(32-s)*2^s:=zsi _ H;rw[zyu (2^(32-s)) (2^s),<-e] at D;rw[yzu] at D;omega
 rw[U,O,<-z3e,Nat.add_mul_mod_self_left,zoh J,zyu];omega
def hor(bs:List Nat):Nat:=bs.foldl (λa b=>10*a+(b-48)) 0
theorem zA6(n:Nat):(txt n).length<=10*(zB n).length+1:=by
 unfold txt
 by_cases h:n=0
 · rw[zau h];simp
 · rw[zae h,yyi]
   have:=zP0 (wU n);rw[zE] at this;omega
theorem yIN(n:Nat):∀x∈txt n,x<256:=by
 unfold txt
 by_cases h:n=0
 · rw[zau h];simp
 · rw[zae h];intro x hx;exact zUT n x (List.mem_reverse.1 hx)
theorem zM0{X k:Nat}(h:32*(zB X).length<=k):X/2^k=0:=by
 refine z1i (zme (uZ X) ?_);rw[show(4294967296:Nat)=2^32 by decide,<-ynu];exact zju zox h
theorem zI9(X k s:Nat):X/4294967296^k/2^s=X/2^(32*k+s):=by
 rw[yse,zne,ynu]
theorem zIZ(X k s:Nat):4294967296^k*(X*2^s)=X*2^(32*k+s):=by
 rw[zne,ynu];grind
theorem zYW{s:Nat}{xs:List Nat}{i:Nat}(hs:s<=32)(h:i<xs.length):(xs.getD i 0+4294967296*xs.getD (i+1) 0)/2^s%4294967296=iR s xs i:=by
 have e:(4294967296:Nat)=2^s*2^(32-s):=by rw[<-zne,show s+(32-s)=32 by omega]
 have C:0<2^s:=zwi zot;rw[iR,kH xs i h]
 by_cases h2:i+1<xs.length
 · rw[kH xs (i+1) h2]
   generalize xs.getD i 0=a;generalize xs.getD (i+1) 0=b;generalize val (List.drop (i+1+1) xs)=c;have D:a+4294967296*(b+4294967296*c)=(a+4294967296*b)+2^s*(4294967296*(2^(32-s)*c)):=by
    have:4294967296*(4294967296*c)=2^s*(4294967296*(2^(32-s)*c)):=by
     conv=>lhs;lhs;rw[e]
     generalize 2^s=u;generalize 2^(32-s)=v;generalize (4294967296:Nat)=B;grind
    omega
   rw[D,ymu _ _ C,Nat.add_mul_mod_self_left]
 · rw[sV (xs:=xs) (i:=i+1) zot,znu zot]
   rfl
theorem zVN{s:Nat}{xs:List Nat}(hf:Fit xs):val ((List.range xs.length).map (iR s xs))=val xs/2^s:=by
 rw[t6 hf];exact zoh (yre (zti _ _) (gG hf))
theorem zO6{X:Nat}(hX:X≠0)(k:Nat):List.replicate k 0++zB X=zB (X*4294967296^k):=by
 have C:val (List.replicate k 0++zB X)=X*4294967296^k:=by rw[aW,bM,lR,zE,zyi,zyu]
 have hf:Fit (List.replicate k 0++zB X):=uT (kG _) (wU _);rw[<-C,zO7 hf];rw[C,lAz,lR];have D:=yP.2 hX;have h1:=rJ (n:=X) (k:=(zB X).length-1) zot;have h2:4294967296^(k+((zB X).length-1))<=X*4294967296^k:=by
  rw[zne,zyu];exact zgi _ h1
 have h3:=zCA h2;omega
theorem gW{t:Nat}(h0:t≠0)(h:t<4294967296):zB t=[t]:=by
 rw[gE zot,zoh h,z1i h,xM]
theorem zSE{Y:Nat}(h:0<(zB Y).length):(zB Y).drop ((zB Y).length-1)=zB ((zB Y).getD ((zB Y).length-1) 0):=by
 rw[gW (rD h) (qY (wU Y) _),tO _ _ zot,znu zot]
theorem zI2(X k:Nat):(zB (X*4294967296^k)).length<=(zB X).length+k:=by
 refine qL ?_;rw[zne];exact z8u (uZ X) (zwi zox)
theorem zZG{V W P v1 v2 vr top u3 wr:Nat}(hV:V=(v1*4294967296+v2)*P+vr)(hW:W=(top*4294967296+u3)*P+wr)(hu:u3<4294967296)(hw:wr<P)(h1:0<v1)(hWV:W<4294967296*V):W<(min (top/v1) 4294967295+1)*V:=by
 by_cases h:top/v1<=4294967295
 · rw[ztu h];exact zPM hV hW hu hw h1
 · rw[Nat.min_eq_right zot];exact hWV
theorem zWZ{R k m V:Nat}(h:R/4294967296^k<m*V):R<V*m*4294967296^k:=by
 have:=Nat.lt_mul_of_div_lt h (zwi zox);rw[zyu V m];exact this
theorem zZF{R V k:Nat}(h:R<4294967296^(k+1)*V):R/4294967296^k<4294967296*V:=by
 refine z3u ?_;rw[zni,yhe] at h;exact h
theorem yE0{B p R q d V U:Nat}(h:R+p*B*(q*V)=U)(hle:V*d*p<=R):R-V*d*p+p*((d+B*q)*V)=U:=by
 obtain⟨t,rfl⟩:∃t,R=V*d*p+t:=⟨R-V*d*p,zot⟩;rw[Nat.add_sub_cancel_left];grind
theorem yND{R V d p:Nat}(h:R<V*(d+1)*p)(hle:V*d*p<=R):R-V*d*p<p*V:=by
 have:V*(d+1)*p=V*d*p+p*V:=by grind
 omega
theorem yE1{V d p:Nat}(h:1<=d):V*d*p-V*p=V*(d-1)*p/\V*p<=V*d*p:=by
 obtain⟨e,rfl⟩:∃e,d=e+1:=⟨d-1,zot⟩;have:V*(e+1)*p=V*e*p+V*p:=by grind
 rw[z5e];omega
theorem zQW{U V r n:Nat}(hU:U<4294967296^r)(hV:4294967296^(n-1)<=V)(hn:1<=n)(hr:n<=r):U<4294967296^(r-n+1)*V:=by
 refine zme hU ?_;have h1:(4294967296:Nat)^r=4294967296^(r-n+1)*4294967296^(n-1):=by rw[<-zne,show r-n+1+(n-1)=r by omega]
 rw[h1];exact zsi _ hV
end Bk
