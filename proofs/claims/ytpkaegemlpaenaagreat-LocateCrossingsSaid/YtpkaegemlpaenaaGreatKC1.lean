/- Texts that the proof needs, part 1. -/
import Derived.WalkKit
import Derived.WalkSpells
import Derived.WalkLawsBesides
import Derived.Laws.AppendOwnNone
import Derived.Still
import Derived.Test.YtpkaegemlpaenaaGreatProg
import Derived.KernelRfl
import Derived.Laws.Externs
import Derived.Deep.MidRow
set_option linter.unusedVariables false
set_option linter.unusedSimpArgs false
namespace Bk
theorem I {α : Sort _} {a : α} : a = a := rfl
theorem lAz{α:Type _}{a b:List α}:(a++b).length=a.length+b.length:=List.length_append
theorem lR{α:Type _}{n:Nat}{a:α}:(List.replicate n a).length=n:=List.length_replicate
theorem lC{α:Type _}{a:α}{l:List α}:(a::l).length=l.length+1:=List.length_cons
theorem lN{α:Type _}:([]:List α).length=0:=List.length_nil
theorem lS{α:Type _}{l:List α}{i:Nat}{a:α}:(l.set i a).length=l.length:=List.length_set
theorem bL{n m:Nat}(h:Nat.ble n m=true):n<=m:=Nat.le_of_ble_eq_true h
theorem nX{α:Type _}{p:α->Prop}:∀x∈([]:List α),p x:=λ_ hx=>by cases hx
theorem e2z{α0 α1:Type}{a0:α0}{a1:α1}:a0=a0/\a1=a1/\True:=⟨rfl,rfl,trivial⟩
theorem e3z{α0 α1 α2:Type}{a0:α0}{a1:α1}{a2:α2}:a0=a0/\a1=a1/\a2=a2/\True:=⟨rfl,rfl,rfl,trivial⟩
theorem e4z{α0 α1 α2 α3:Type}{a0:α0}{a1:α1}{a2:α2}{a3:α3}:a0=a0/\a1=a1/\a2=a2/\a3=a3/\True:=⟨rfl,rfl,rfl,rfl,trivial⟩
theorem e5{α0 α1 α2 α3 α4:Type}{a0:α0}{a1:α1}{a2:α2}{a3:α3}{a4:α4}:a0=a0/\a1=a1/\a2=a2/\a3=a3/\a4=a4/\True:=⟨rfl,rfl,rfl,rfl,rfl,trivial⟩
theorem e6z{α0 α1 α2 α3 α4 α5:Type}{a0:α0}{a1:α1}{a2:α2}{a3:α3}{a4:α4}{a5:α5}:a0=a0/\a1=a1/\a2=a2/\a3=a3/\a4=a4/\a5=a5/\True:=⟨rfl,rfl,rfl,rfl,rfl,rfl,trivial⟩
theorem e7{α0 α1 α2 α3 α4 α5 α6:Type}{a0:α0}{a1:α1}{a2:α2}{a3:α3}{a4:α4}{a5:α5}{a6:α6}:a0=a0/\a1=a1/\a2=a2/\a3=a3/\a4=a4/\a5=a5/\a6=a6/\True:=⟨rfl,rfl,rfl,rfl,rfl,rfl,rfl,trivial⟩
theorem e8{α0 α1 α2 α3 α4 α5 α6 α7:Type}{a0:α0}{a1:α1}{a2:α2}{a3:α3}{a4:α4}{a5:α5}{a6:α6}{a7:α7}:a0=a0/\a1=a1/\a2=a2/\a3=a3/\a4=a4/\a5=a5/\a6=a6/\a7=a7/\True:=⟨rfl,rfl,rfl,rfl,rfl,rfl,rfl,rfl,trivial⟩
theorem e10{α0 α1 α2 α3 α4 α5 α6 α7 α8 α9:Type}{a0:α0}{a1:α1}{a2:α2}{a3:α3}{a4:α4}{a5:α5}{a6:α6}{a7:α7}{a8:α8}{a9:α9}:a0=a0/\a1=a1/\a2=a2/\a3=a3/\a4=a4/\a5=a5/\a6=a6/\a7=a7/\a8=a8/\a9=a9/\True:=⟨rfl,rfl,rfl,rfl,rfl,rfl,rfl,rfl,rfl,rfl,trivial⟩
theorem e12{α0 α1 α2 α3 α4 α5 α6 α7 α8 α9 α10 α11:Type}{a0:α0}{a1:α1}{a2:α2}{a3:α3}{a4:α4}{a5:α5}{a6:α6}{a7:α7}{a8:α8}{a9:α9}{a10:α10}{a11:α11}:a0=a0/\a1=a1/\a2=a2/\a3=a3/\a4=a4/\a5=a5/\a6=a6/\a7=a7/\a8=a8/\a9=a9/\a10=a10/\a11=a11/\True:=⟨rfl,rfl,rfl,rfl,rfl,rfl,rfl,rfl,rfl,rfl,rfl,rfl,trivial⟩
theorem zoa{α:Type _}{l:List α}{i:Nat}{a:α}:l.getD i a=l[i]?.getD a:=List.getD_eq_getElem?_getD
theorem zob{α:Type _}{p:α->Bool}{l:List α}:l.all p=true↔∀x,x∈l->p x=true:=List.all_eq_true
theorem zoc{α:Type _}{l:List α}{i:Nat}(h:i<l.length):l[i]?=some l[i]:=List.getElem?_eq_getElem h
theorem zod{a b:Rat}:0<=a->0<=b->0<=a*b:=Rat.mul_nonneg
theorem zoe{a b:Rat}:a*b=0↔a=0\/b=0:=Rat.mul_eq_zero
theorem zof{α:Type _}{l:List α}:l.length=0->l=[]:=List.eq_nil_of_length_eq_zero
theorem zog{m n:Nat}:m∈List.range n↔m<n:=List.mem_range
theorem zoh{a b:Nat}:a<b->a%b=a:=Nat.mod_eq_of_lt
theorem zoi:1*5<=16777216:=by decide
theorem zoj:1*1<=16777216:=by decide
theorem zok:1*9<=16777216:=by decide
theorem zol:3*9<=16777216:=by decide
theorem zom:1*14<=16777216:=by decide
theorem zon:4*1<=16777216:=by decide
theorem zoo:1*19<=16777216:=by decide
theorem zop:3*1<=16777216:=by decide
theorem zoq:8*1<=16777216:=by decide
theorem zor:2*1<=16777216:=by decide
theorem zos:6*1<=16777216:=by decide
theorem zot{p:Prop}(h:p:=by omega):p:=h
theorem zou{p:Prop}(h:p:=by kernel_rfl):p:=h
theorem zov{p:Prop}(h:p:=by first|omega|(simp only[lAz,lC,lN,List.length_drop,List.length_take];omega)):p:=h
theorem zow{p:Prop}(h:p:=by decide):p:=h
theorem zox{p:Prop}(h:p:=by first|omega|exact Nat.zero_le _):p:=h
theorem zoy{p:Prop}(h:p:=by first|(simp;done)|grind):p:=h
theorem zoz{p:Prop}(h:p:=by (simp only[Nat.reduceAdd,Nat.reduceMul,Nat.zero_add,Nat.add_zero,Nat.zero_mul])<;>exact I):p:=h
theorem zo0{p:Prop}(h:p:=by simp only[lAz,lC,lN];omega):p:=h
theorem zo1{p:Prop}(h:p:=by grind):p:=h
theorem zo2{p:Prop}(h:p:=by simp):p:=h
theorem zo3{p:Prop}(h:p:=by rfl):p:=h
theorem zo4{p:Prop}(h:p:=by assumption):p:=h
theorem zo5{p:Prop}(h:p:=by first|omega|(simp only[lN];omega)):p:=h
theorem zo6{p:Prop}(h:p:=by first|omega|(simp only[lAz,List.length_drop,List.length_take,lN];omega)):p:=h
theorem zo7{p:Prop}(h:p:=by simp only[List.length_singleton,lAz,lR];omega):p:=h
theorem zo8{p:Prop}(h:p:=by simp only[List.length_singleton];omega):p:=h
theorem zo9{p:Prop}(h:p:=by first|(simp;done)|grind|(simp only[List.append_eq,List.nil_append];grind)):p:=h
end Bk
namespace Bk
open Go Go.RowKit
section
variable {α:Type _}{a b c d e f g i:α}{l:List α}
theorem mh0:a∈a::l:=.head _
theorem mh1:b∈a::b::l:=.tail _ mh0
theorem mh2:c∈a::b::c::l:=.tail _ mh1
theorem mh3:d∈a::b::c::d::l:=.tail _ mh2
theorem mh4:e∈a::b::c::d::e::l:=.tail _ mh3
theorem mh5:f∈a::b::c::d::e::f::l:=.tail _ mh4
theorem mh6:g∈a::b::c::d::e::f::g::l:=.tail _ mh5
theorem mh7:i∈a::b::c::d::e::f::g::i::l:=.tail _ mh6
end
abbrev Mem:=Nat->Option Obj
def mem(w:World):Mem:=λb=>w.heap[b]?
def MLe(h h':Mem):Prop:=∀b o,h b=some o->h' b=some o
theorem MLe.refl(h:Mem):MLe h h:=λ_ _ x=>x
theorem MLe.trans{a b c:Mem}(h:MLe a b)(k:MLe b c):MLe a c:=λi o x=>k i o (h i o x)
def cell(h:Mem)(b i:Nat):Option Value:=
 match h b with
 |some (.cells c _ _)=>c[i]?
 |_=>none
theorem zDC{h h':Mem}(e:MLe h h'){b i:Nat}{v:Value}(hc:cell h b i=some v):cell h' b i=some v:=by
 unfold cell at *
 cases hb:h b with
 |none=>simp[hb] at hc
 |some o=>rw[e b o hb];rw[hb] at hc;exact hc
theorem lK{h:Mem}{w:World}(e:MLe h (mem w)){b i:Nat}{v:Value}(hc:cell h b i=some v):w.cell? ⟨b,i,none⟩=some v:=by
 have:=zDC e hc;unfold cell mem at this;unfold World.cell?;exact this
theorem zH0{w:World}{b i:Nat}{v:Value}(hc:w.cell? ⟨b,i,none⟩=some v):cell (mem w) b i=some v:=by
 unfold World.cell? at hc;unfold cell mem;exact hc
inductive Res where
 |blk(b:Nat)(o:Obj)
 |gs(E k:Nat)(v:Value)(n:Nat)(cs:List Value)
def Res.ok(base:Nat)(w:World):Res->Prop
  | .blk b o=>w.heap[b]?=some o
  | .gs E k v n cs=>w.ownsRow base E k v n cs
def Res.fp:Res->Option Nat
  | .blk b _=>some b
  | .gs _ _ v _ _=>v.ownBlock
structure St(w0:World)(h0:Mem)(L:List Res)(h:Mem)(w:World):Prop where
 below:Below w0.heap.size w0 w
 le:MLe h0 h
 sub:MLe h (mem w)
 fresh:∀b,b<w0.heap.size->h b=h0 b
 ok:∀r∈L,r.ok w0.heap.size w
 own:∀r∈L,∀b,r.fp=some b->h b=none/\w0.heap.size<=b
 apart:L.Pairwise λr s=>∀b,r.fp=some b->s.fp≠some b
theorem St.begin{w:World}{h:Mem}(hs:MLe h (mem w)):St w h [] h w:=
 ⟨Below.refl _ _,MLe.refl h,hs,λ_ _=>rfl,λ_ hr=>by simp at hr,λ_ hr=>by simp at hr,by simp⟩
theorem Res.fp_lt{base:Nat}{w:World}{r:Res}(h:r.ok base w){b:Nat}(hb:r.fp=some b):b<w.heap.size:=by
 cases r with
 |blk b' o=>
  simp only[Res.fp,Option.some.injEq] at hb;subst hb;exact(Array.getElem?_eq_some_iff.1 h).1
 |gs E k v n cs=>exact(World.ownsRow.lt h b hb).2
theorem Res.kept{base:Nat}{w w':World}{r:Res}(h:r.ok base w)(hb:∀b,r.fp=some b->w'.heap[b]?=w.heap[b]?):r.ok base w':=by
 cases r with
 |blk b o=>exact(hb b rfl).trans h
 |gs E k v n cs=>
  refine⟨h.1,?_⟩
  rcases h.2 with hn|⟨g,cap,cur,rfl,hbg,hg,rest⟩
  · exact .inl hn
  · exact .inr ⟨g,cap,cur,I,hbg,(hb g I).trans hg,rest⟩
theorem Res.base_le{base base':Nat}{w:World}{r:Res}(h:r.ok base' w)(hb:base<=base'):r.ok base w:=by
 cases r with
 |blk b o=>exact h
 |gs E k v n cs=>
  refine⟨h.1,?_⟩
  rcases h.2 with hn|⟨g,cap,cur,hv,hbg,rest⟩
  · exact .inl hn
  · exact .inr ⟨g,cap,cur,hv,Nat.le_trans hb hbg,rest⟩
theorem St.call{w0 w w':World}{h0 h h':Mem}{L L':List Res}(s:St w0 h0 L h w)(c:St w h L' h' w'):St w0 h0 (L'++L) h' w':=by
 have H:w0.heap.size<=w.heap.size:=s.below.size;have G:∀r∈L,∀b,r.fp=some b->b<w.heap.size:=λr C b D=>Res.fp_lt (s.ok r C) D;refine⟨s.below.trans (c.below.mono H),s.le.trans c.le,c.sub,λb D=>(c.fresh b zot).trans (s.fresh b D),?_,?_,?_⟩
 · intro r C
   rcases List.mem_append.1 C with C|C
   · exact Res.base_le (c.ok r C) H
   · exact Res.kept (s.ok r C) λb D=>c.below.block b (G r C b D)
 · intro r C b D
   rcases List.mem_append.1 C with C|C
   · have:=c.own r C b D
     exact⟨this.1,by omega⟩
   · have:=s.own r C b D
     exact⟨(c.fresh b (G r C b D)).trans this.1,this.2⟩
 · refine List.pairwise_append.2 ⟨c.apart,s.apart,λr C O J b D M=>?_⟩
   have h1:=(c.own r C b D).2;have h2:=G O J b M;omega
theorem St.alloc{w0 w:World}{h0 h:Mem}{L:List Res}(s:St w0 h0 L h w)(o:Obj):St w0 h0 (.blk w.heap.size o::L) h (w.alloc o):=by
 have H:w0.heap.size<=w.heap.size:=s.below.size;have G:∀b,b<w.heap.size->(w.alloc o).heap[b]?=w.heap[b]?:=λb C=>heap_alloc_old w o C;have J:∀r∈L,∀b,r.fp=some b->b<w.heap.size:=λr D b C=>Res.fp_lt (s.ok r D) C;refine⟨s.below.alloc H o,s.le,?_,s.fresh,?_,?_,?_⟩
 · intro b o' C
   have:=s.sub b o' C;unfold mem at *;rw[G b (Array.getElem?_eq_some_iff.1 this).1];exact this
 · intro r D
   rcases List.mem_cons.1 D with rfl|D
   · exact heap_alloc_new w o
   · exact Res.kept (s.ok r D) λb C=>G b (J r D b C)
 · intro r D b C
   rcases List.mem_cons.1 D with rfl|D
   · simp only[Res.fp,Option.some.injEq] at C
     subst C;refine⟨?_,H⟩
     cases hh:h w.heap.size with
     |none=>rfl
     |some o'=>
      have:=s.sub _ o' hh;unfold mem at this;exact absurd (Array.getElem?_eq_some_iff.1 this).1 (Nat.lt_irrefl _)
   · exact s.own r D b C
 · refine List.pairwise_cons.2 ⟨λr D b C M=>?_,s.apart⟩
   simp only[Res.fp,Option.some.injEq] at C;have:=J r D b M;omega
theorem St.grown{w0 w w':World}{h0 h:Mem}{A B:List Res}{r r':Res}(s:St w0 h0 (A++r::B) h w)(hg:w.grownBy w' r.fp)(hok:r'.ok w0.heap.size w')
    (hfp:∀b,r'.fp=some b->r.fp=some b\/w.heap.size<=b):St w0 h0 (A++r'::B) h w':=by
 have Z:w0.heap.size<=w.heap.size:=s.below.size;have U:∀x∈A++r::B,∀b,x.fp=some b->b<w.heap.size:=λx hx b C=>Res.fp_lt (s.ok x hx) C;have D:=s.apart;have H:r∈A++r::B:=by simp
 have O:∀x,(x∈A\/x∈B)->∀b,x.fp=some b->r.fp≠some b:=by
  intro x hx b C hr;rw[List.pairwise_append,List.pairwise_cons] at D
  rcases hx with hx|hx
  · exact D.2.2 x hx r zo2 b C hr
  · exact D.2.1.1 x hx b hr C
 have G:∀x,(x∈A\/x∈B)->∀b,x.fp=some b->w'.heap[b]?=w.heap[b]?:=by
  intro x hx b C;refine hg.block b (U x ?_ b C) (λe=>O x hx b C e.symm)
  rcases hx with hx|hx<;>simp[hx]
 have J:∀b,w.heap.size<=b->h b=none:=by
  intro b C
  cases hh:h b with
  |none=>rfl
  |some o=>
   have:=s.sub b o hh;unfold mem at this;have:=(Array.getElem?_eq_some_iff.1 this).1;omega
 refine⟨s.below.grown hg Z (λb C=>(s.own r H b C).2),s.le,?_,s.fresh,?_,?_,?_⟩
 · intro b o C
   have h1:=s.sub b o C;unfold mem at *;refine(hg.block b (Array.getElem?_eq_some_iff.1 h1).1 (λe=>?_)).trans h1;have:=(s.own r H b e.symm).1;rw[this] at C
   cases C
 · intro x hx
   rcases List.mem_append.1 hx with hx|hx
   · exact Res.kept (s.ok x (by simp[hx])) (G x (.inl hx))
   · rcases List.mem_cons.1 hx with rfl|hx
     · exact hok
     · exact Res.kept (s.ok x (by simp[hx])) (G x (.inr hx))
 · intro x hx b C
   rcases List.mem_append.1 hx with hx|hx
   · exact s.own x (by simp[hx]) b C
   · rcases List.mem_cons.1 hx with rfl|hx
     · rcases hfp b C with h1|h1
       · exact s.own r H b h1
       · exact⟨J b h1,by omega⟩
     · exact s.own x (by simp[hx]) b C
 · have M:∀x,(x∈A\/x∈B)->∀b,x.fp=some b->r'.fp≠some b:=by
    intro x hx b C aa
    rcases hfp b aa with h1|h1
    · exact O x hx b C h1
    · have:=U x (by rcases hx with hx|hx<;>simp[hx]) b C
      omega
   rw[List.pairwise_append,List.pairwise_cons] at D ⊢;refine⟨D.1,⟨λx hx b C ab=>M x (.inr hx) b ab C,D.2.1.2⟩,λx hx y hy b C=>?_⟩
   rcases List.mem_cons.1 hy with rfl|hy
   · exact M x (.inl hx) b C
   · exact D.2.2 x hx y (by simp[hy]) b C
theorem St.drop{w0 w:World}{h0 h:Mem}{A B:List Res}{r:Res}(s:St w0 h0 (A++r::B) h w):St w0 h0 (A++B) h w:=by
 refine⟨s.below,s.le,s.sub,s.fresh,λx hx=>s.ok x ?_,λx hx=>s.own x ?_,?_⟩
 · rcases List.mem_append.1 hx with hx|hx<;>simp[hx]
 · rcases List.mem_append.1 hx with hx|hx<;>simp[hx]
 · have C:=s.apart
   rw[List.pairwise_append,List.pairwise_cons] at C;rw[List.pairwise_append];exact⟨C.1,C.2.1.2,λx hx y hy=>C.2.2 x hx y (by simp[hy])⟩
theorem St.sublist{w0 w:World}{h0 h:Mem}{L L':List Res}(s:St w0 h0 L h w)(hl:L'.Sublist L):St w0 h0 L' h w:=
 ⟨s.below,s.le,s.sub,s.fresh,λr hr=>s.ok r (hl.subset hr),λr hr=>s.own r (hl.subset hr),s.apart.sublist hl⟩
theorem St.freeze{w0 w:World}{h0 h:Mem}{A B:List Res}{b:Nat}{o:Obj}{r:Res}(s:St w0 h0 (A++r::B) h w)(hr:r.fp=some b)(ho:w.heap[b]?=some o):
 St w0 h0 (A++B) (λi=>if i=b then some o else h i) w/\MLe h (λi=>if i=b then some o else h i):=by
 have J:r∈A++r::B:=by simp
 have O:=s.own r J b hr;have H:MLe h (λi=>if i=b then some o else h i):=by
  intro i o' hi
  by_cases e:i=b
  · rw[e,O.1] at hi;cases hi
  · simp[e,hi]
 have C:=s.apart;have M:∀x,x∈A++B->x.fp≠some b:=by
  intro x hx G;rw[List.pairwise_append,List.pairwise_cons] at C
  rcases List.mem_append.1 hx with hx|hx
  · exact C.2.2 x hx r zo2 b G hr
  · exact C.2.1.1 x hx b hr G
 have D:=s.drop;refine⟨⟨D.below,D.le.trans H,?_,?_,D.ok,?_,D.apart⟩,H⟩
 · intro i o' hi
   by_cases e:i=b
   · simp only[e,if_true,Option.some.injEq] at hi
     subst hi;rw[e];exact ho
   · simp only[e,if_false] at hi
     exact s.sub i o' hi
 · intro i hi
   have:i≠b:=by omega
   simp only[this,if_false];exact s.fresh i hi
 · intro x hx i hi
   have h1:=D.own x hx i hi;have:i≠b:=λe=>M x hx (e▸hi);simp only[this,if_false];exact h1
def Ret(w0:World)(h0:Mem)(R:Mem->Value->Prop):Ending->World->Prop:=λe w=>∃v h,e=.returned v/\R h v/\St w0 h0 [] h w
def fW(w0:World)(h0:Mem)(R:Mem->Value->List Res->Prop):Ending->World->Prop:=λe w=>∃v h L,e=.returned v/\R h v L/\St w0 h0 L h w
structure Env(n:Nat)(e:List (Nat×Value))(a:Act):Prop where
 defers:a.defers=[]
 size:a.tmps.size=n
 get:∀t v,e.lookup t=some v->a.tmps[t]?=some v
def zJ(e:List (Nat×Value)):Operand->Option Value
  | .tmp t=>e.lookup t
  | .const v=>some v
  | .global g=>some (.pointer (some ⟨g,0,none⟩))
  | .func f=>some (.func (.func f) #[] #[])
theorem Env.eval{n:Nat}{e:List (Nat×Value)}{a:Act}(E:Env n e a){x:Operand}{v:Value}(h:zJ e x=some v):a.eval x=v:=by
 cases x with
 |tmp t=>
  have:=E.get t v h;simp only[Act.eval,Array.getD_eq_getD_getElem?,this,Option.getD_some]
 |const u=>exact Option.some.inj h
 |global g=>exact Option.some.inj h
 |func f=>exact Option.some.inj h
theorem Env.put{n:Nat}{e:List (Nat×Value)}{a:Act}(E:Env n e a){d:Nat}{v:Value}(hd:d<n):Env n ((d,v)::e) (a.put (some d) v):=by
 refine⟨E.defers,by simp[Act.put,E.size],λt u h=>?_⟩;simp only[List.lookup_cons] at h
 by_cases ht:t=d
 · subst ht
   simp at h;subst h;simp[Act.put,E.size,hd]
 · have:(t==d)=false:=by simpa using ht
   rw[this] at h;simp only[Act.put];rw[Array.getElem?_setIfInBounds_ne (Ne.symm ht)];exact E.get t u h
@[reducible] def Sub:List (Nat×Value)->List (Nat×Value)->Prop
  |[],_=>True
  |(t,v)::r,e=>e.lookup t=some v/\Sub r e
theorem Sub.lookup{e:List (Nat×Value)}:∀{e':List (Nat×Value)},Sub e' e->∀t v,e'.lookup t=some v->e.lookup t=some v
  |[],_,t,v,h=>by simp at h
  |(k,u)::r,hs,t,v,h=>by
   simp only[List.lookup_cons] at h
   by_cases ht:t=k
   · subst ht
     simp at h;subst h;exact hs.1
   · have:(t==k)=false:=by simpa using ht
     rw[this] at h;exact Sub.lookup hs.2 t v h
theorem Env.sub{n:Nat}{e e':List (Nat×Value)}{a:Act}(E:Env n e a)(h:Sub e' e):Env n e' a:=⟨E.defers,E.size,λt v ht=>E.get t v (h.lookup t v ht)⟩
@[reducible] def cR(e:List (Nat×Value)):List Operand->List Value->Prop
  |[],[]=>True
  |x::xs,v::vs=>zJ e x=some v/\cR e xs vs
  |_,_=>False
theorem Env.evals{n:Nat}{e:List (Nat×Value)}{a:Act}(E:Env n e a):∀{xs:List Operand} {vs:List Value},cR e xs vs->xs.map a.eval=vs
  |[],[],_=>rfl
  |x::xs,v::vs,h=>by rw[List.map_cons,E.eval h.1,E.evals h.2]
  |[],_::_,h=>h.elim
  |_::_,[],h=>h.elim
section goals
variable (P:Program)(n:Nat)(w0:World)(h0:Mem)
def GL(ops:Array Oper)(Q:Exit->Act->World->Prop)(l:List Oper)(e:List (Nat×Value))(L:List Res)(h:Mem):Prop:=
 ∀a w,Env n e a->St w0 h0 L h w->wpList P ops Q l a w
def GC(c:Code)(Q:Exit->Act->World->Prop)(e:List (Nat×Value))(L:List Res)(h:Mem):Prop:=
 ∀a w,Env n e a->St w0 h0 L h w->c.wp P Q a w
def GQ(Q:Exit->Act->World->Prop)(x:Exit)(e:List (Nat×Value))(L:List Res)(h:Mem):Prop:=
 ∀a w,Env n e a->St w0 h0 L h w->Q x a w
def OpV(o:Oper)(e:List (Nat×Value))(L:List Res)(h:Mem)(v:Value):Prop:=
 ∀a w,Env n e a->St w0 h0 L h w->(execOp a.eval o).run P w=.ok (.value v) w
def Upd(o:Oper)(e:List (Nat×Value))(A:List Res)(r:Res)(B:List Res)(h:Mem)(r':Res):Prop:=
 ∀a w,Env n e a->St w0 h0 (A++r::B) h w->∃w',(execOp a.eval o).run P w=.ok .skip w'/\w.grownBy w' r.fp/\r'.ok w0.heap.size w'
end goals
section rules
variable {P:Program}{n:Nat}{w0:World}{h0:Mem}{e:List (Nat×Value)}{L:List Res}{h:Mem}{Q:Exit->Act->World->Prop}
theorem jO{f:FuncId}{fn:Func}{c:Code}{vs:List Value}{R:Ending->World->Prop}{w0:World}(hf:P.funcs[f]?=some fn)(hb:fn.body=some c)(hn:fn.ntmps=n)(hl:vs.length<=n)
    (hs:MLe h0 (mem w0))(he:Sub e (vs.zipIdx.map λp=>(p.2,p.1)))(k:GC P n w0 h0 c (bodyPost P fn R) e [] h0):Calls P f vs.toArray w0 R:=by
 refine calls_of_wp hf hb (k _ _ ?_ (St.begin hs));subst hn;refine Env.sub ⟨I,by simp;omega,?_⟩ he;intro t v ht;have key:∀(l:List Value) (k t:Nat),((l.zipIdx k).map λp=>(p.2,p.1)).lookup t=some v->k<=t/\l[t-k]?=some v:=by
  intro l
  induction l with
  |nil=>intro k t h;simp at h
  |cons x l ih=>
   intro k t h;simp only[List.zipIdx_cons,List.map_cons,List.lookup_cons] at h
   by_cases hk:t=k
   · subst hk
     simp at h;exact⟨Nat.le_refl _,by simp[h]⟩
   · have:(t==k)=false:=by simpa using hk
     rw[this] at h;have:=ih (k+1) t h;refine⟨by omega,?_⟩;have e1:t-k=(t-(k+1))+1:=by omega
     rw[e1,List.getElem?_cons_succ];exact this.2
 have:=(key vs 0 t ht).2;simp only[Nat.sub_zero] at this;simp only[List.size_toArray];rw[Array.getElem?_append_left (by simpa using(List.getElem?_eq_some_iff.1 this).1)]
 simpa using this
theorem uF{f:FuncId}{fn:Func}{c:Code}{vs:List Value}{R:Ending->World->Prop}{w0 w:World}{L:List Res}{h:Mem}(hf:P.funcs[f]?=some fn)(hb:fn.body=some c)(hn:fn.ntmps=n)(hl:vs.length<=n)
    (S:St w0 h0 L h w)(he:Sub e (vs.zipIdx.map λp=>(p.2,p.1)))(k:GC P n w0 h0 c (bodyPost P fn R) e L h):Calls P f vs.toArray w R:=by
 refine calls_of_wp hf hb (k _ _ ?_ S);subst hn;refine Env.sub ⟨I,by simp;omega,?_⟩ he;intro t v ht;have key:∀(l:List Value) (k t:Nat),((l.zipIdx k).map λp=>(p.2,p.1)).lookup t=some v->k<=t/\l[t-k]?=some v:=by
  intro l
  induction l with
  |nil=>intro k t h;simp at h
  |cons x l ih=>
   intro k t h;simp only[List.zipIdx_cons,List.map_cons,List.lookup_cons] at h
   by_cases hk:t=k
   · subst hk
     simp at h;exact⟨Nat.le_refl _,by simp[h]⟩
   · have:(t==k)=false:=by simpa using hk
     rw[this] at h;have:=ih (k+1) t h;refine⟨by omega,?_⟩;have e1:t-k=(t-(k+1))+1:=by omega
     rw[e1,List.getElem?_cons_succ];exact this.2
 have:=(key vs 0 t ht).2;simp only[Nat.sub_zero] at this;simp only[List.size_toArray];rw[Array.getElem?_append_left (by simpa using(List.getElem?_eq_some_iff.1 this).1)]
 simpa using this
theorem zQ{x y:Code}(k:GC P n w0 h0 x (Exit.then (y.wp P Q) Q) e L h):GC P n w0 h0 (.seq x y) Q e L h:=
 λa w E S=>wp_seq (k a w E S)
theorem qK(k:GQ n w0 h0 Q .normal e L h):GC P n w0 h0 .skip Q e L h:=λa w E S=>wp_skip (k a w E S)
theorem lG(k:GQ n w0 h0 Q .ret e L h):GC P n w0 h0 .ret Q e L h:=λa w E S=>wp_ret (k a w E S)
theorem fI{i:Nat}(k:GQ n w0 h0 Q (.exit i) e L h):GC P n w0 h0 (.exit i) Q e L h:=λa w E S=>wp_exit (k a w E S)
theorem vQ{i:Nat}{c:Code}(k:GC P n w0 h0 c (Exit.inBlock i Q) e L h):GC P n w0 h0 (.block i c) Q e L h:=λa w E S=>wp_block (k a w E S)
theorem zF{i:Nat}{l:List Oper}(k:GL P n w0 h0 l.toArray Q l e L h):GC P n w0 h0 (.region i l.toArray false) Q e L h:=λa w E S=>wp_region_lit (k a w E S)
theorem yB{ops:Array Oper}(k:GQ n w0 h0 Q .normal e L h):GL P n w0 h0 ops Q [] e L h:=λa w E S=>wpList_nil (k a w E S)
theorem zH{y:Code}(k:GC P n w0 h0 y Q e L h):GQ n w0 h0 (Exit.then (y.wp P Q) Q) .normal e L h:=k
theorem rK{i:Nat}(k:GQ n w0 h0 Q .normal e L h):GQ n w0 h0 (Exit.inBlock i Q) .normal e L h:=k
theorem qE{N:Act->World->Prop}{i:Nat}(k:GQ n w0 h0 Q (.exit i) e L h):GQ n w0 h0 (Exit.then N Q) (.exit i) e L h:=k
theorem fH{i:Nat}(k:GQ n w0 h0 Q .normal e L h):GQ n w0 h0 (Exit.inBlock i Q) (.exit i) e L h:=by
 intro a w E S;simp only[Exit.inBlock,if_true];exact k a w E S
theorem zKW{i j:Nat}(hij:(j==i)=false)(k:GQ n w0 h0 Q (.exit j) e L h):GQ n w0 h0 (Exit.inBlock i Q) (.exit j) e L h:=by
 intro a w E S;have:j≠i:=by simpa using hij
 simp only[Exit.inBlock,this,if_false];exact k a w E S
theorem nG{N:Act->World->Prop}(k:GQ n w0 h0 Q .ret e L h):GQ n w0 h0 (Exit.then N Q) .ret e L h:=k
theorem zRM{i:Nat}(k:GQ n w0 h0 Q .ret e L h):GQ n w0 h0 (Exit.inBlock i Q) .ret e L h:=k
theorem vO{x:Exit}{e':List (Nat×Value)}(hs:Sub e' e)(k:GQ n w0 h0 Q x e' L h):GQ n w0 h0 Q x e L h:=λa w E S=>k a w (E.sub hs) S
theorem zK2{c:Code}{e':List (Nat×Value)}(hs:Sub e' e)(k:GC P n w0 h0 c Q e' L h):GC P n w0 h0 c Q e L h:=λa w E S=>k a w (E.sub hs) S
theorem yO{x:Exit}{A B:List Res}{r:Res}(k:GQ n w0 h0 Q x e (A++B) h):GQ n w0 h0 Q x e (A++r::B) h:=λa w E S=>k a w E S.drop
noncomputable def vB(p:Prop):Value:=.bool (@decide p (Classical.propDecidable p))
theorem kF{p q:Prop}(hpq:p↔q):vB p=vB q:=by rw[propext hpq]
theorem xM{p:Prop}(hp:p):vB p=.bool true:=by unfold vB;simp[hp]
theorem yH{p:Prop}(hp:¬p):vB p=.bool false:=by unfold vB;simp[hp]
theorem xD{p q:Prop}(hp:p):vB q=vB (p/\q):=kF ⟨λh=>⟨hp,h⟩,λh=>h.2⟩
theorem xE{p q:Prop}(hp:¬p):Value.bool false=vB (p/\q):=(yH λh=>hp h.1).symm
theorem vD{p q:Prop}(hp:p):Value.bool true=vB (p\/q):=(xM (.inl hp)).symm
theorem vG{p q:Prop}(hp:¬p):vB q=vB (p\/q):=kF ⟨.inr,λh=>h.resolve_left hp⟩
theorem yCN{c:Operand}{x y:Code}{p:Prop}(hc:zJ e c=some (vB p))(kt:p->GC P n w0 h0 x Q e L h)(kf:¬p->GC P n w0 h0 y Q e L h):GC P n w0 h0 (.cond c x y) Q e L h:=by
 intro a w E S
 by_cases hp:p
 · exact wp_cond_true (by rw[E.eval hc,xM hp]) (kt hp a w E S)
 · exact wp_cond_false (by rw[E.eval hc,yH hp]) (kf hp a w E S)
theorem zI4{c:Operand}{x y:Code}(hc:zJ e c=some (.bool true))(k:GC P n w0 h0 x Q e L h):GC P n w0 h0 (.cond c x y) Q e L h:=
 λa w E S=>wp_cond_true (E.eval hc) (k a w E S)
theorem zI5{c:Operand}{x y:Code}(hc:zJ e c=some (.bool false))(k:GC P n w0 h0 y Q e L h):GC P n w0 h0 (.cond c x y) Q e L h:=
 λa w E S=>wp_cond_false (E.eval hc) (k a w E S)
theorem qZ{ι:Type}{x y:Code}(inv:ι->Prop)(ev:ι->List (Nat×Value))(Lv:ι->List Res)(hv:ι->Mem)
    (kx:GC P n w0 h0 x (Exit.then (λa w=>∃i,inv i/\Env n (ev i) a/\St w0 h0 (Lv i) (hv i) w) Q) e L h)
    (ky:∀i,inv i->GC P n w0 h0 y Q (ev i) (Lv i) (hv i)):GC P n w0 h0 (.seq x y) Q e L h:=by
 intro a w E S;refine wp_seq (wp_mono (kx a w E S) ?_);intro x a w C
 cases x with
 |normal=>obtain⟨i,hi,E,S⟩:=C;exact ky i hi a w E S
 |_=>exact C
theorem zS{ι:Type}{inv:ι->Prop}{ev:ι->List (Nat×Value)}{Lv:ι->List Res}{hv:ι->Mem}(i:ι)(hi:inv i)(he:Sub (ev i) e)(hL:Lv i=L)(hh:hv i=h):
 GQ n w0 h0 (Exit.then (λa w=>∃i,inv i/\Env n (ev i) a/\St w0 h0 (Lv i) (hv i) w) Q) .normal e L h:=
 λa w E S=>⟨i,hi,E.sub he,by rw[hL,hh];exact S⟩
theorem gG{ι:Type}{c:Code}(inv:ι->Prop)(ev:ι->List (Nat×Value))(Lv:ι->List Res)(hv:ι->Mem)(μ:ι->Nat)(i0:ι)(hi0:inv i0)(he:Sub (ev i0) e)(hL:Lv i0=L)(hh:hv i0=h)
    (round:∀i,inv i->GC P n w0 h0 c (Exit.then (λa w=>∃j,(inv j/\μ j<μ i)/\Env n (ev j) a/\St w0 h0 (Lv j) (hv j) w) Q) (ev i) (Lv i) (hv i)):GC P n w0 h0 (.loop c) Q e L h:=by
 have key:∀m i,μ i=m->inv i->∀a w,Env n (ev i) a->St w0 h0 (Lv i) (hv i) w->∀(b:Frame) (k:List Item) (cs:List Frame),
  ∃x a' w',Q x a' w'/\Arrives P (lone (b.at a (.code c::.inLoop c::k)) cs w) b k cs x a' w':=by
  intro m
  induction m using Nat.strongRecOn with
  |_ m ih=>
   intro i hm hi a w E S b k cs;obtain⟨x,a1,w1,hq,harr⟩:=round i hi a w E S b (.inLoop c::k) cs
   cases x with
   |normal=>
    obtain⟨j,⟨hj,hlt⟩,E1,S1⟩:=hq;obtain⟨x2,a2,w2,hq2,harr2⟩:=ih (μ j) (hm▸hlt) j I hj a1 w1 E1 S1 b k cs;exact⟨x2,a2,w2,hq2,.of_steps (Steps.trans harr (.one step_inLoop)) harr2⟩
   |exit id=>exact⟨_,a1,w1,hq,.pass (x:=.inLoop c) rfl (λ_ _=>.inl zo2) harr⟩
   |goto l=>exact⟨_,a1,w1,hq,.pass (x:=.inLoop c) rfl (λ_ _=>.inl zo2) harr⟩
   |ret=>exact⟨_,a1,w1,hq,.pass (x:=.inLoop c) rfl (λ_ _=>.inl zo2) harr⟩
   |panic ch=>exact⟨_,a1,w1,hq,.pass (x:=.inLoop c) rfl (λ_ _=>.inl zo2) harr⟩
   |outgrown=>exact⟨_,a1,w1,hq,.pass (x:=.inLoop c) rfl (λ_ _=>.inl zo2) harr⟩
 intro a w E S b k cs;obtain⟨x,a',w',hq,harr⟩:=key _ i0 I hi0 a w (E.sub he) (by rw[hL,hh];exact S) b k cs;exact⟨x,a',w',hq,.of_steps (.one step_loop) harr⟩
theorem jW{ι:Type}{inv:ι->Prop}{ev:ι->List (Nat×Value)}{Lv:ι->List Res}{hv:ι->Mem}{μ:ι->Nat}{m:Nat}(i:ι)(hi:inv i)(hm:μ i<m)(he:Sub (ev i) e)(hL:Lv i=L)(hh:hv i=h):
 GQ n w0 h0 (Exit.then (λa w=>∃j,(inv j/\μ j<m)/\Env n (ev j) a/\St w0 h0 (Lv j) (hv j) w) Q) .normal e L h:=
 λa w E S=>⟨i,⟨hi,hm⟩,E.sub he,by rw[hL,hh];exact S⟩
theorem zC{fn:Func}{t:Nat}{v:Value}{R:Mem->Value->Prop}(hr:fn.results=#[.tmp t])(hv:zJ e (.tmp t)=some v)(hR:R h v):GQ n w0 h0 (bodyPost P fn (Ret w0 h0 R)) .ret e L h:=by
 intro a w E S;refine bodyPost_ret (results_tmp hr _ _ _) E.defers ?_;have:=E.eval hv;simp only[Act.eval] at this;rw[this];exact⟨v,h,I,hR,S.sublist (List.nil_sublist _)⟩
theorem qF{fn:Func}{t:Nat}{v:Value}{R:Mem->Value->List Res->Prop}(hr:fn.results=#[.tmp t])(hv:zJ e (.tmp t)=some v)(hR:R h v L):GQ n w0 h0 (bodyPost P fn (fW w0 h0 R)) .ret e L h:=by
 intro a w E S;refine bodyPost_ret (results_tmp hr _ _ _) E.defers ?_;have:=E.eval hv;simp only[Act.eval] at this;rw[this];exact⟨v,h,L,I,hR,S⟩
theorem wK{fn:Func}{t u:Nat}{v x:Value}{R:Mem->Value->Prop}(hr:fn.results=#[.tmp t,.tmp u])(hv:zJ e (.tmp t)=some v)(hx:zJ e (.tmp u)=some x)(hR:R h (.tuple #[v,x])):
 GQ n w0 h0 (bodyPost P fn (Ret w0 h0 R)) .ret e L h:=by
 intro a w E S;refine bodyPost_ret (results_tmp2 hr _ _ _) E.defers ?_;have h1:=E.eval hv;have h2:=E.eval hx;simp only[Act.eval] at h1 h2;rw[h1,h2];exact⟨_,h,I,hR,S.sublist (List.nil_sublist _)⟩
theorem uN{fn:Func}{t u s:Nat}{v x y:Value}{R:Mem->Value->Prop}(hr:fn.results=#[.tmp t,.tmp u,.tmp s])(hv:zJ e (.tmp t)=some v)(hx:zJ e (.tmp u)=some x)(hy:zJ e (.tmp s)=some y)
    (hR:R h (.tuple #[v,x,y])):GQ n w0 h0 (bodyPost P fn (Ret w0 h0 R)) .ret e L h:=by
 intro a w E S;have h1:=E.eval hv;have h2:=E.eval hx;have h3:=E.eval hy;simp only[Act.eval] at h1 h2 h3;refine bodyPost_ret (v:=.tuple #[v,x,y]) ?_ E.defers ⟨_,h,I,hR,S.sublist (List.nil_sublist _)⟩;simp only[Array.getD_eq_getD_getElem?] at h1 h2 h3;simp[results,hr,h1,h2,h3]
theorem zKX{fn:Func}{R:Mem->Value->List Res->Prop}(hr:fn.results=#[])(hR:R h (.tuple #[]) L):GQ n w0 h0 (bodyPost P fn (fW w0 h0 R)) .normal e L h:=by
 intro a w E S;refine bodyPost_end (results_none hr _ _ _) E.defers ?_;exact⟨_,h,L,I,hR,S⟩
theorem oV{ops:Array Oper}{rest:List Oper}{o:Oper}{d:Nat}{v:Value}(hv:OpV P n w0 h0 o e L h v)(hg:o.guard=none)(hd:o.dst=some d)(hn:Nat.ble (d+1) n=true)
    (k:GL P n w0 h0 ops Q rest ((d,v)::e) L h):GL P n w0 h0 ops Q (o::rest) e L h:=by
 intro a w E S;refine wpList_plain hg λK C=>?_;unfold Oper.wp;rw[hv a w E S,Oper.upon_value,hd];exact C _ _ (k _ _ (E.put (Nat.le_of_ble_eq_true hn)) S)
theorem u6{ops:Array Oper}{rest:List Oper}{o:Oper}{g t:Nat}{b:Bool}(hg:o.guard=some (g,b))(ht:(ops[g]?).bind (·.dst)=some t)(he:e.lookup t=some (.bool b))
    (k:GL P n w0 h0 ops Q ({o with guard:=none}::rest) e L h):GL P n w0 h0 ops Q (o::rest) e L h:=by
 intro a w E S;have C:=k a w E S;have D:Region.wanted o (yielded ops a.tmps)=true:=by
  have:=E.get t _ he;simp[Region.wanted,hg,yielded,ht,this]
 unfold wpList at C ⊢;rw[if_pos D];rw[if_pos (by simp[Region.wanted])] at C;exact C
theorem nS{ops:Array Oper}{rest:List Oper}{o:Oper}{g t d:Nat}{b c:Bool}(hg:o.guard=some (g,b))(ht:(ops[g]?).bind (·.dst)=some t)(he:e.lookup t=some (.bool c))(hbc:(c==b)=false)
    (hd:o.dst=some d)(hn:Nat.ble (d+1) n=true)(k:GL P n w0 h0 ops Q rest ((d,undef)::e) L h):GL P n w0 h0 ops Q (o::rest) e L h:=by
 intro a w E S;have C:Region.wanted o (yielded ops a.tmps)=false:=by
  have:=E.get t _ he;simp only[Region.wanted,hg,yielded,ht,this,Option.bind_some]
  simpa using hbc
 unfold wpList;rw[if_neg (by simp[C]),hd];exact k _ _ (E.put (Nat.le_of_ble_eq_true hn)) S
theorem OpV.tr{o:Oper}{p:Prop}(hp:p)(hv:OpV P n w0 h0 o e L h (vB p)):OpV P n w0 h0 o e L h (.bool true):=xM hp▸hv
theorem OpV.fa{o:Oper}{p:Prop}(hp:¬p)(hv:OpV P n w0 h0 o e L h (vB p)):OpV P n w0 h0 o e L h (.bool false):=yH hp▸hv
theorem yCL{ops:Array Oper}{rest:List Oper}{o:Oper}{g t d:Nat}{b:Bool}(hg:o.guard=some (g,b))(ht:(ops[g]?).bind (·.dst)=some t)(he:e.lookup t=some undef)
    (hd:o.dst=some d)(hn:Nat.ble (d+1) n=true)(k:GL P n w0 h0 ops Q rest ((d,undef)::e) L h):GL P n w0 h0 ops Q (o::rest) e L h:=by
 intro a w E S;have C:Region.wanted o (yielded ops a.tmps)=false:=by
  have:=E.get t _ he;simp[Region.wanted,hg,yielded,ht,this,undef]
 unfold wpList;rw[if_neg (by simp[C]),hd];exact k _ _ (E.put (Nat.le_of_ble_eq_true hn)) S
theorem qB{ops:Array Oper}{ι:Type}(j:Nat){l:List Oper}(inv:ι->Prop)(ev:ι->List (Nat×Value))(Lv:ι->List Res)(hv:ι->Mem)
    (kx:GL P n w0 h0 ops (Exit.then (λa w=>∃i,inv i/\Env n (ev i) a/\St w0 h0 (Lv i) (hv i) w) Q) (l.take j) e L h)
    (ky:∀i,inv i->GL P n w0 h0 ops Q (l.drop j) (ev i) (Lv i) (hv i)):GL P n w0 h0 ops Q l e L h:=by
 intro a w E S;have key:∀(l1:List Oper) a w,wpList P ops (Exit.then (λa w=>∃i,inv i/\Env n (ev i) a/\St w0 h0 (Lv i) (hv i) w) Q) l1 a w->wpList P ops Q (l1++l.drop j) a w:=by
  intro l1
  induction l1 with
  |nil=>intro a w hq;obtain⟨i,hi,E,S⟩:=hq;exact ky i hi a w E S
  |cons o l1 ih=>
   intro a w hq;simp only[List.cons_append];unfold wpList at hq ⊢
   split
   · rename_i hw
     rw[if_pos hw] at hq;refine hq.imp (λhq=>?_) (λhq=>⟨hq.1,?_⟩)
     · unfold Oper.wp at *
       generalize (execOp a.eval o).run P w=r at *
       cases r with
       |ok x w'=>
        cases x<;>simp only[Oper.upon] at hq ⊢<;>
         first
          |exact ih _ _ hq
          |exact Calls.mono hq (λe w'' he=>by cases e<;>first|exact ih _ _ he|exact he)
          |exact Rows.mono hq (λ_ _ he=>ih _ _ he)
       |halt x w'=>cases x<;>simp only[Oper.upon] at hq ⊢<;>exact hq
     · obtain⟨a,w,hq⟩:=hq.2;exact⟨a,w,hq⟩
   · rename_i hw
     rw[if_neg hw] at hq;exact ih _ _ hq
 have:=key (l.take j) a w (kx a w E S)
 rwa [List.take_append_drop] at this
theorem zY{ops:Array Oper}{l:List Oper}(p:Prop)(kt:p->GL P n w0 h0 ops Q l e L h)(kf:¬p->GL P n w0 h0 ops Q l e L h):GL P n w0 h0 ops Q l e L h:=by
 by_cases hp:p
 · exact kt hp
 · exact kf hp
theorem zYT{c:Code}(p:Prop)(kt:p->GC P n w0 h0 c Q e L h)(kf:¬p->GC P n w0 h0 c Q e L h):GC P n w0 h0 c Q e L h:=by
 by_cases hp:p
 · exact kt hp
 · exact kf hp
theorem yCM{ops:Array Oper}{rest:List Oper}{o:Oper}{d f:Nat}{xs:List Operand}{ts:Array TypeId}{vs:List Value}{R:Mem->Value->Prop}(hop:o.op=.call {callee:=.value (.func f),args:=xs.toArray,argTypes:=ts})
    (hg:o.guard=none)(hd:o.dst=some d)(hn:Nat.ble (d+1) n=true)(hcall:∀args w,(callFunc f args).run P w=.ok (.enter f args) w)(hvs:cR e xs vs)
    (hc:∀w,MLe h (mem w)->Calls P f vs.toArray w (Ret w h R))(k:∀v h',MLe h h'->R h' v->GL P n w0 h0 ops Q rest ((d,v)::e) L h'):GL P n w0 h0 ops Q (o::rest) e L h:=by
 intro a w E S;refine wpList_plain hg λK M=>?_;have C:xs.toArray.map a.eval=vs.toArray:=by rw[List.map_toArray,E.evals hvs]
 have J:(execOp a.eval o).run P w=.ok (.enter f vs.toArray) w:=by
  obtain⟨dst,op,ty,H,D,guard⟩:=o;simp only at hop;subst hop;simp only[execOp,resolve,Act.eval];simp[Deferred.ofValue,invoke,hcall,C]
 unfold Oper.wp;rw[J,Oper.upon_enter];refine(hc w S.sub).mono ?_
 rintro Z U ⟨v,h',rfl,hR,G⟩
 have O:=S.call G;rw[hd];exact M _ _ (k v h' G.le hR _ _ (E.put (Nat.le_of_ble_eq_true hn)) O)
theorem qA{ops:Array Oper}{rest:List Oper}{o:Oper}{d f:Nat}{xs:List Operand}{ts:Array TypeId}{vs:List Value}{R:Mem->Value->List Res->Prop}(hop:o.op=.call {callee:=.value (.func f),args:=xs.toArray,argTypes:=ts})
    (hg:o.guard=none)(hd:o.dst=some d)(hn:Nat.ble (d+1) n=true)(hcall:∀args w,(callFunc f args).run P w=.ok (.enter f args) w)(hvs:cR e xs vs)
    (hc:∀w,MLe h (mem w)->Calls P f vs.toArray w (fW w h R))(k:∀v h' L',MLe h h'->R h' v L'->GL P n w0 h0 ops Q rest ((d,v)::e) (L'++L) h'):GL P n w0 h0 ops Q (o::rest) e L h:=by
 intro a w E S;refine wpList_plain hg λK M=>?_;have C:xs.toArray.map a.eval=vs.toArray:=by rw[List.map_toArray,E.evals hvs]
 have J:(execOp a.eval o).run P w=.ok (.enter f vs.toArray) w:=by
  obtain⟨dst,op,ty,H,D,guard⟩:=o;simp only at hop;subst hop;simp only[execOp,resolve,Act.eval];simp[Deferred.ofValue,invoke,hcall,C]
 unfold Oper.wp;rw[J,Oper.upon_enter];refine(hc w S.sub).mono ?_
 rintro Z U ⟨v,h',L',rfl,hR,G⟩
 have O:=S.call G;rw[hd];exact M _ _ (k v h' L' G.le hR _ _ (E.put (Nat.le_of_ble_eq_true hn)) O)
theorem zKZ{ops:Array Oper}{rest:List Oper}{o:Oper}{d f:Nat}{xs:List Operand}{ts:Array TypeId}{vs:List Value}{R:Mem->Value->Prop}(hop:o.op=.call {callee:=.value (.func f),args:=xs.toArray,argTypes:=ts})
    (hg:o.guard=none)(hd:o.dst=some d)(hn:Nat.ble (d+1) n=true)(hcall:∀args w,(callFunc f args).run P w=.ok (.enter f args) w)(hvs:cR e xs vs)
    (hc:∀w,St w0 h0 L h w->Calls P f vs.toArray w (Ret w (mem w) R))(k:∀v,(∃h',R h' v)->GL P n w0 h0 ops Q rest ((d,v)::e) L h):GL P n w0 h0 ops Q (o::rest) e L h:=by
 intro a w E S;refine wpList_plain hg λK Z=>?_;have C:xs.toArray.map a.eval=vs.toArray:=by rw[List.map_toArray,E.evals hvs]
 have D:(execOp a.eval o).run P w=.ok (.enter f vs.toArray) w:=by
  obtain⟨dst,op,ty,U,M,guard⟩:=o;simp only at hop;subst hop;simp only[execOp,resolve,Act.eval];simp[Deferred.ofValue,invoke,hcall,C]
 unfold Oper.wp;rw[D,Oper.upon_enter];refine(hc w S).mono ?_
 rintro e' O ⟨v,h',rfl,hR,G⟩
 have H:∀r∈L,∀b,r.fp=some b->b<w.heap.size:=λr D b J=>Res.fp_lt (S.ok r D) J;have S2:St w0 h0 L h O:=⟨S.below.trans (G.below.mono S.below.size),S.le,(S.sub.trans G.le).trans G.sub,S.fresh,λr D=>Res.kept (S.ok r D) λb J=>G.below.block b (H r D b J),S.own,S.apart⟩;rw[hd];exact Z _ _ (k v ⟨h',hR⟩ _ _ (E.put (Nat.le_of_ble_eq_true hn)) S2)
theorem nH{ops:Array Oper}{rest:List Oper}{o:Oper}{d f:Nat}{xs:List Operand}{ts:Array TypeId}{vs:List Value}{R:Mem->Value->List Res->Prop}(hop:o.op=.call {callee:=.value (.func f),args:=xs.toArray,argTypes:=ts})
    (hg:o.guard=none)(hd:o.dst=some d)(hn:Nat.ble (d+1) n=true)(hcall:∀args w,(callFunc f args).run P w=.ok (.enter f args) w)(hvs:cR e xs vs)
    (hc:∀w,St w0 h0 L h w->Calls P f vs.toArray w (fW w0 h0 R))(k:∀v h' L',R h' v L'->GL P n w0 h0 ops Q rest ((d,v)::e) L' h'):GL P n w0 h0 ops Q (o::rest) e L h:=by
 intro a w E S;refine wpList_plain hg λK J=>?_;have C:xs.toArray.map a.eval=vs.toArray:=by rw[List.map_toArray,E.evals hvs]
 have H:(execOp a.eval o).run P w=.ok (.enter f vs.toArray) w:=by
  obtain⟨dst,op,ty,G,D,guard⟩:=o;simp only at hop;subst hop;simp only[execOp,resolve,Act.eval];simp[Deferred.ofValue,invoke,hcall,C]
 unfold Oper.wp;rw[H,Oper.upon_enter];refine(hc w S).mono ?_
 rintro U O ⟨v,h',L',rfl,hR,M⟩
 rw[hd];exact J _ _ (k v h' L' hR _ _ (E.put (Nat.le_of_ble_eq_true hn)) M)
theorem wN{ops:Array Oper}{rest:List Oper}{o:Oper}{A B:List Res}{r r':Res}(hv:Upd P n w0 h0 o e A r B h r')
    (hfp:r'.fp=r.fp)(hg:o.guard=none)(hd:o.dst=none)(k:GL P n w0 h0 ops Q rest e (A++r'::B) h):GL P n w0 h0 ops Q (o::rest) e (A++r::B) h:=by
 intro a w E S;refine wpList_plain hg λK J=>?_;obtain⟨M,G,D,C⟩:=hv a w E S;unfold Oper.wp;rw[G,Oper.upon_skip,hd];exact J _ _ (k _ _ E (S.grown D C λb H=>.inl (hfp▸H)))
end rules
theorem law_true{P:Program}{f:FuncId}{args:Array Value}{w:World}{h:Mem}(hc:Calls P f args w (Ret w h λ_ v=>v=.bool true)):Calls P f args w λe w'=>e=.returned (.bool true)/\Below w.heap.size w w':=
 hc.mono λ_ _ ⟨_,_,he,hv,S⟩=>⟨by rw[he,hv],S.below⟩
def vI(x:Int):Value:=.int .i64 x
def vU(k:IntKind)(x:Nat):Value:=.int k (x:Int)
def ub:IntKind->Nat
  | .u8=>256
  | .u16=>65536
  | .u32=>4294967296
  | .u64=>18446744073709551616
  |_=>0
theorem zUS{k:IntKind}(hk:k.signed=false)(x:Int):k.wrap x=x%(ub k:Int):=by
 cases k<;>simp[IntKind.signed] at hk<;>simp[IntKind.wrap,IntKind.signed,IntKind.bits,ub]
theorem zAM{k:IntKind}(hk:k.signed=false)(x:Nat):k.wrap (x:Int)=((x%ub k:Nat):Int):=by
 rw[zUS hk];omega
theorem mU{k:IntKind}(hk:k.signed=false){x:Nat}(hx:x<ub k):k.wrap (x:Int)=(x:Int):=by
 rw[zAM hk,zoh hx]
theorem j4{x:Int}(h1:-9223372036854775808<=x)(h2:x<9223372036854775808):IntKind.i64.wrap x=x:=by
 rw[IntKind.wrap_i64];omega
section ops
variable {P:Program}{n:Nat}{w0:World}{h0:Mem}{e:List (Nat×Value)}{L:List Res}{h:Mem}
variable {ds:Option Tmp}{ty:TypeId}{ps:String}{af:Array Edge}{gd:Option (Nat×Bool)}
theorem yZ{x:Operand}{v:Value}(hx:zJ e x=some v):OpV P n w0 h0 ⟨ds,.move x,ty,ps,af,gd⟩ e L h v:=by
 intro a w E S;simp[execOp,E.eval hx]
theorem pP{x:Operand}{v:Value}(hx:zJ e x=some v):OpV P n w0 h0 ⟨ds,.assign x,ty,ps,af,gd⟩ e L h v:=by
 intro a w E S;simp[execOp,E.eval hx]
theorem cT{c x y:Operand}{v:Value}(hc:zJ e c=some (.bool true))(hx:zJ e x=some v):OpV P n w0 h0 ⟨ds,.pick c x y,ty,ps,af,gd⟩ e L h v:=by
 intro a w E S;simp[execOp,E.eval hc,E.eval hx,asBool]
theorem cV{c x y:Operand}{v:Value}(hc:zJ e c=some (.bool false))(hy:zJ e y=some v):OpV P n w0 h0 ⟨ds,.pick c x y,ty,ps,af,gd⟩ e L h v:=by
 intro a w E S;simp[execOp,E.eval hc,E.eval hy,asBool]
theorem gY{x:Operand}{i:Nat}{vs:List Value}{v:Value}(hx:zJ e x=some (.tuple vs.toArray))(hv:vs[i]?=some v):OpV P n w0 h0 ⟨ds,.extract x i,ty,ps,af,gd⟩ e L h v:=by
 intro a w E S;simp[execOp,E.eval hx,Instr.extract,hv]
theorem zO2{t:TypeId}{x:Operand}{p:Prop}(hx:zJ e x=some (vB p)):OpV P n w0 h0 ⟨ds,.unOp .not t x,ty,ps,af,gd⟩ e L h (vB (¬p)):=by
 intro a w E S;simp[execOp,E.eval hx,Op.unary,vB]
theorem aY{t:TypeId}{x:Operand}{m:Int}(hx:zJ e x=some (vI m))(h1:-9223372036854775808<m)(h2:m<=9223372036854775808):OpV P n w0 h0 ⟨ds,.unOp .neg t x,ty,ps,af,gd⟩ e L h (vI (-m)):=by
 intro a w E S;have:=j4 (x:=-m) zot zot;simp[execOp,E.eval hx,Op.unary,Op.intArith,vI,this]
theorem xN(op:BinOp)(t:TypeId)(x y:Operand)(k k':IntKind)(m m':Int)(w:World):(eqGuard op t x y (.int k m) (.int k' m')).run P w=.ok () w:=by
 cases op<;>simp[eqGuard]
theorem zR{t yt:TypeId}{x y:Operand}{p q:Int}(hx:zJ e x=some (vI p))(hy:zJ e y=some (vI q))(h1:-9223372036854775808<=p+q)(h2:p+q<9223372036854775808):
 OpV P n w0 h0 ⟨ds,.binOp .add t x y yt,ty,ps,af,gd⟩ e L h (vI (p+q)):=by
 intro a w E S;simp[execOp,E.eval hx,E.eval hy,vI,xN,binOp,Op.intArith,j4 h1 h2]
theorem jD{t yt:TypeId}{x y:Operand}{p q:Int}(hx:zJ e x=some (vI p))(hy:zJ e y=some (vI q))(h1:-9223372036854775808<=p-q)(h2:p-q<9223372036854775808):
 OpV P n w0 h0 ⟨ds,.binOp .sub t x y yt,ty,ps,af,gd⟩ e L h (vI (p-q)):=by
 intro a w E S;simp[execOp,E.eval hx,E.eval hy,vI,xN,binOp,Op.intArith,j4 h1 h2]
theorem gP{t yt:TypeId}{x y:Operand}{p q:Int}(hx:zJ e x=some (vI p))(hy:zJ e y=some (vI q))(h1:-9223372036854775808<=p*q)(h2:p*q<9223372036854775808):
 OpV P n w0 h0 ⟨ds,.binOp .mul t x y yt,ty,ps,af,gd⟩ e L h (vI (p*q)):=by
 intro a w E S;simp[execOp,E.eval hx,E.eval hy,vI,xN,binOp,Op.intArith,j4 h1 h2]
theorem zFO{t yt:TypeId}{x y:Operand}{p q:Int}(hx:zJ e x=some (vI p))(hy:zJ e y=some (vI q))(h1:0<=p)(h2:p<9223372036854775808)(h3:0<q):
 OpV P n w0 h0 ⟨ds,.binOp .quo t x y yt,ty,ps,af,gd⟩ e L h (vI (p/q)):=by
 intro a w E S;have D:p.tdiv q=p/q:=Int.tdiv_eq_ediv_of_nonneg h1;have H:0<=p/q:=Int.ediv_nonneg h1 zot;have G:p/q<=p:=Int.ediv_le_self q h1;have C:q≠0:=by omega
 simp[execOp,E.eval hx,E.eval hy,vI,xN,binOp,Op.intDiv,C,D,j4 (x:=p/q) zot zot]
theorem wC{t yt:TypeId}{x y:Operand}{p q:Int}(hx:zJ e x=some (vI p))(hy:zJ e y=some (vI q))(h1:0<=p)(h3:0<q):
 OpV P n w0 h0 ⟨ds,.binOp .rem t x y yt,ty,ps,af,gd⟩ e L h (vI (p%q)):=by
 intro a w E S;have D:p.tmod q=p%q:=Int.tmod_eq_emod_of_nonneg h1;have C:q≠0:=by omega
 simp[execOp,E.eval hx,E.eval hy,vI,xN,binOp,Op.intDiv,C,D]
theorem yJ{t yt:TypeId}{x y:Operand}{p q:Int}(hx:zJ e x=some (vI p))(hy:zJ e y=some (vI q)):OpV P n w0 h0 ⟨ds,.binOp .lss t x y yt,ty,ps,af,gd⟩ e L h (vB (p<q)):=by
 intro a w E S;simp[execOp,E.eval hx,E.eval hy,vI,xN,binOp,Op.intCmp,vB]
theorem zFS{t yt:TypeId}{x y:Operand}{p q:Int}(hx:zJ e x=some (vI p))(hy:zJ e y=some (vI q)):OpV P n w0 h0 ⟨ds,.binOp .leq t x y yt,ty,ps,af,gd⟩ e L h (vB (p<=q)):=by
 intro a w E S;simp[execOp,E.eval hx,E.eval hy,vI,xN,binOp,Op.intCmp,vB]
theorem mH{t yt:TypeId}{x y:Operand}{p q:Int}(hx:zJ e x=some (vI p))(hy:zJ e y=some (vI q)):OpV P n w0 h0 ⟨ds,.binOp .gtr t x y yt,ty,ps,af,gd⟩ e L h (vB (q<p)):=by
 intro a w E S;simp[execOp,E.eval hx,E.eval hy,vI,xN,binOp,Op.intCmp,vB]
theorem rJ{t yt:TypeId}{x y:Operand}{p q:Int}(hx:zJ e x=some (vI p))(hy:zJ e y=some (vI q)):OpV P n w0 h0 ⟨ds,.binOp .geq t x y yt,ty,ps,af,gd⟩ e L h (vB (q<=p)):=by
 intro a w E S;simp[execOp,E.eval hx,E.eval hy,vI,xN,binOp,Op.intCmp,vB]
theorem bS{t yt:TypeId}{x y:Operand}{p q:Int}(hx:zJ e x=some (vI p))(hy:zJ e y=some (vI q)):OpV P n w0 h0 ⟨ds,.binOp .eql t x y yt,ty,ps,af,gd⟩ e L h (vB (p=q)):=by
 intro a w E S;simp[execOp,E.eval hx,E.eval hy,vI,xN,binOp,Op.intCmp,vB,BEq.beq]
theorem bR{t yt:TypeId}{x y:Operand}{p q:Int}(hx:zJ e x=some (vI p))(hy:zJ e y=some (vI q)):OpV P n w0 h0 ⟨ds,.binOp .neq t x y yt,ty,ps,af,gd⟩ e L h (vB (p≠q)):=by
 intro a w E S;have:(p != q)=!decide (p=q):=I;simp[execOp,E.eval hx,E.eval hy,vI,xN,binOp,Op.intCmp,vB,this]
theorem sG{k:IntKind}{W:Nat}{t yt:TypeId}{x y:Operand}{p q:Nat}(hk:k.signed=false)(hW:ub k=W)(hx:zJ e x=some (vU k p))(hy:zJ e y=some (vU k q))(hlt:p+q<W):
 OpV P n w0 h0 ⟨ds,.binOp .add t x y yt,ty,ps,af,gd⟩ e L h (vU k (p+q)):=by
 intro a w E S;have:=mU hk (x:=p+q) zot;simp only[Int.natCast_add] at this;simp[execOp,E.eval hx,E.eval hy,vU,xN,binOp,Op.intArith,this]
theorem zTB{k:IntKind}{W:Nat}{t yt:TypeId}{x y:Operand}{p q:Nat}(hk:k.signed=false)(hW:ub k=W)(hx:zJ e x=some (vU k p))(hy:zJ e y=some (vU k q)):
 OpV P n w0 h0 ⟨ds,.binOp .add t x y yt,ty,ps,af,gd⟩ e L h (vU k ((p+q)%W)):=by
 intro a w E S;have:=zAM hk (p+q);rw[hW] at this;simp only[Int.natCast_add] at this;simp[execOp,E.eval hx,E.eval hy,vU,xN,binOp,Op.intArith,this]
theorem aX{k:IntKind}{W:Nat}{t yt:TypeId}{x y:Operand}{p q:Nat}(hk:k.signed=false)(hW:ub k=W)(hx:zJ e x=some (vU k p))(hy:zJ e y=some (vU k q))(hle:q<=p)(hlt:p<W):
 OpV P n w0 h0 ⟨ds,.binOp .sub t x y yt,ty,ps,af,gd⟩ e L h (vU k (p-q)):=by
 intro a w E S;have:=mU hk (x:=p-q) zot;rw[Int.ofNat_sub hle] at this;simp[execOp,E.eval hx,E.eval hy,vU,xN,binOp,Op.intArith,this,Int.ofNat_sub hle]
theorem mE{k:IntKind}{W:Nat}{t yt:TypeId}{x y:Operand}{p q:Nat}(hk:k.signed=false)(hW:ub k=W)(hx:zJ e x=some (vU k p))(hy:zJ e y=some (vU k q))(hlt:q<=W):
 OpV P n w0 h0 ⟨ds,.binOp .sub t x y yt,ty,ps,af,gd⟩ e L h (vU k ((p+W-q)%W)):=by
 intro a w E S;have h1:=zUS hk ((p:Int)-q);rw[hW] at h1;have h2:((p:Int)-q)%(W:Int)=(((p+W-q)%W:Nat):Int):=by
  have C:((p+W-q:Nat):Int)=(p:Int)-q+W:=by omega
  rw[Int.natCast_emod,C,Int.add_emod_right]
 simp[execOp,E.eval hx,E.eval hy,vU,xN,binOp,Op.intArith,h1,h2]
theorem iF{k:IntKind}{W:Nat}{t yt:TypeId}{x y:Operand}{p q:Nat}(hk:k.signed=false)(hW:ub k=W)(hx:zJ e x=some (vU k p))(hy:zJ e y=some (vU k q))(hlt:p*q<W):
 OpV P n w0 h0 ⟨ds,.binOp .mul t x y yt,ty,ps,af,gd⟩ e L h (vU k (p*q)):=by
 intro a w E S;have:=mU hk (x:=p*q) zot;simp only[Int.natCast_mul] at this;simp[execOp,E.eval hx,E.eval hy,vU,xN,binOp,Op.intArith,this]
theorem bQ{k:IntKind}{W:Nat}{t yt:TypeId}{x y:Operand}{p q:Nat}(hk:k.signed=false)(hW:ub k=W)(hx:zJ e x=some (vU k p))(hy:zJ e y=some (vU k q))(hlt:p<W)(h0':0<q):
 OpV P n w0 h0 ⟨ds,.binOp .quo t x y yt,ty,ps,af,gd⟩ e L h (vU k (p/q)):=by
 intro a w E S;have h1:p/q<=p:=Nat.div_le_self _ _;have:=mU hk (x:=p/q) zot;have h2:((p:Int)).tdiv q=(p:Int)/(q:Int):=Int.tdiv_eq_ediv_of_nonneg zot;have h3:q≠0:=by omega
 have C:k.wrap ((p:Int)/(q:Int))=(p:Int)/(q:Int):=this;simp only[execOp,E.eval hx,E.eval hy,vU,binOp];simp[xN,Op.intDiv,h3,h2,C]
theorem bP{k:IntKind}{t yt:TypeId}{x y:Operand}{p q:Nat}(hx:zJ e x=some (vU k p))(hy:zJ e y=some (vU k q))(h0':0<q):
 OpV P n w0 h0 ⟨ds,.binOp .rem t x y yt,ty,ps,af,gd⟩ e L h (vU k (p%q)):=by
 intro a w E S;have h2:((p:Int)).tmod q=(p:Int)%(q:Int):=Int.tmod_eq_emod_of_nonneg zot;have h3:q≠0:=by omega
 simp only[execOp,E.eval hx,E.eval hy,vU,binOp];simp[xN,Op.intDiv,h3,h2]
theorem zFP{k:IntKind}{t yt:TypeId}{x y:Operand}{p q:Nat}(hx:zJ e x=some (vU k p))(hy:zJ e y=some (vU k q)):OpV P n w0 h0 ⟨ds,.binOp .lss t x y yt,ty,ps,af,gd⟩ e L h (vB (p<q)):=by
 intro a w E S;simp[execOp,E.eval hx,E.eval hy,vU,xN,binOp,Op.intCmp,vB]
theorem mG{k:IntKind}{t yt:TypeId}{x y:Operand}{p q:Nat}(hx:zJ e x=some (vU k p))(hy:zJ e y=some (vU k q)):OpV P n w0 h0 ⟨ds,.binOp .gtr t x y yt,ty,ps,af,gd⟩ e L h (vB (q<p)):=by
 intro a w E S;simp[execOp,E.eval hx,E.eval hy,vU,xN,binOp,Op.intCmp,vB]
theorem cA{k:IntKind}{t yt:TypeId}{x y:Operand}{p q:Nat}(hx:zJ e x=some (vU k p))(hy:zJ e y=some (vU k q)):OpV P n w0 h0 ⟨ds,.binOp .geq t x y yt,ty,ps,af,gd⟩ e L h (vB (q<=p)):=by
 intro a w E S;simp[execOp,E.eval hx,E.eval hy,vU,xN,binOp,Op.intCmp,vB]
theorem fP{k:IntKind}{t yt:TypeId}{x y:Operand}{p q:Nat}(hx:zJ e x=some (vU k p))(hy:zJ e y=some (vU k q)):OpV P n w0 h0 ⟨ds,.binOp .eql t x y yt,ty,ps,af,gd⟩ e L h (vB (p=q)):=by
 intro a w E S;have h1:((p:Int)==(q:Int))=decide (p=q):=by rw[Bool.eq_iff_iff];simp;omega
 simp only[execOp,E.eval hx,E.eval hy,vU,binOp];simp only[Op.intCmp,vB,h1];simp[xN]
theorem tN{k:IntKind}{t yt:TypeId}{x y:Operand}{p q:Nat}(hx:zJ e x=some (vU k p))(hy:zJ e y=some (vU k q)):OpV P n w0 h0 ⟨ds,.binOp .neq t x y yt,ty,ps,af,gd⟩ e L h (vB (p≠q)):=by
 intro a w E S;have h1:((p:Int) != (q:Int))=decide (p≠q):=by rw[Bool.eq_iff_iff];simp;omega
 simp only[execOp,E.eval hx,E.eval hy,vU,binOp];simp only[Op.intCmp,vB,h1];simp[xN]
theorem sR(k:IntKind)(hk:k.signed=false):2^k.bits=ub k:=by cases k<;>simp[IntKind.signed] at hk<;>rfl
theorem fN{k yk:IntKind}{t yt:TypeId}{x y:Operand}{p s:Nat}(hk:k.signed=false)(hx:zJ e x=some (vU k p))(hy:zJ e y=some (.int yk (s:Int)))(hp:p<ub k):
 OpV P n w0 h0 ⟨ds,.binOp .shr t x y yt,ty,ps,af,gd⟩ e L h (vU k (p/2^s)):=by
 intro a w E S;have h1:¬((s:Int)<0):=by omega
 have h2:((p:Int)).fdiv (2^min s k.bits)=((p/2^s:Nat):Int):=by
  rw[Int.fdiv_eq_ediv_of_nonneg _ (Int.le_of_lt (Int.pow_pos zot))]
  rcases Nat.le_total s k.bits with hle|hle
  · rw[Nat.min_eq_left hle];rfl
  · rw[Nat.min_eq_right hle]
    have D:p/2^s=0:=Nat.div_eq_of_lt (Nat.lt_of_lt_of_le hp (by rw[<-sR k hk];exact Nat.pow_le_pow_right zot hle));have C:p/2^k.bits=0:=Nat.div_eq_of_lt (by rw[sR k hk];exact hp);rw[D];have:((p:Int)/(2^k.bits:Int))=((p/2^k.bits:Nat):Int):=I;rw[this,C]
 simp only[execOp,E.eval hx,E.eval hy,vU,binOp];simp[xN,Op.shift,h1,h2]
theorem fO{k yk:IntKind}{W:Nat}{t yt:TypeId}{x y:Operand}{p s:Nat}(hk:k.signed=false)(hW:ub k=W)(hx:zJ e x=some (vU k p))(hy:zJ e y=some (.int yk (s:Int))):
 OpV P n w0 h0 ⟨ds,.binOp .shl t x y yt,ty,ps,af,gd⟩ e L h (vU k (p*2^s%W)):=by
 intro a w E S;have h1:¬((s:Int)<0):=by omega
 have h2:k.wrap ((p:Int)*2^min s k.bits)=((p*2^s%W:Nat):Int):=by
  rcases Nat.le_total s k.bits with hle|hle
  · rw[Nat.min_eq_left hle,<-hW,<-zAM hk];simp
  · rw[Nat.min_eq_right hle]
    have D:p*2^s%W=0:=by
     rw[<-hW,<-sR k hk];exact Nat.mod_eq_zero_of_dvd (Nat.dvd_trans (Nat.pow_dvd_pow 2 hle) (Nat.dvd_mul_left _ _))
    have C:((p*2^k.bits%ub k:Nat):Int)=0:=by rw[sR k hk];simp
    have:=zAM hk (p*2^k.bits);rw[C] at this;rw[D]
    simpa using this
 simp only[execOp,E.eval hx,E.eval hy,vU,binOp];simp[xN,Op.shift,h1,h2]
theorem rS{k:IntKind}{t yt:TypeId}{x y:Operand}{p q:Nat}(hk:k.signed=false)(hx:zJ e x=some (vU k p))(hy:zJ e y=some (vU k q))(hp:p<ub k)(hq:q<ub k):
 OpV P n w0 h0 ⟨ds,.binOp .or t x y yt,ty,ps,af,gd⟩ e L h (vU k (p |||q)):=by
 intro a w E S;have H:=sR k hk;have h3:p |||q<2^k.bits:=Nat.or_lt_two_pow zot zot;have G:=mU hk (x:=p |||q) zot;have D:=zoh (a:=p) (b:=2^k.bits) zot;have C:=zoh (a:=q) (b:=2^k.bits) zot;simp only[execOp,E.eval hx,E.eval hy,vU,binOp];simp[xN,Op.intBits,G,D,C]
theorem zWU{k:IntKind}{t yt:TypeId}{x y:Operand}{p q:Nat}(hk:k.signed=false)(hx:zJ e x=some (vU k p))(hy:zJ e y=some (vU k q))(hp:p<ub k)(hq:q<ub k):
 OpV P n w0 h0 ⟨ds,.binOp .and t x y yt,ty,ps,af,gd⟩ e L h (vU k (p&&&q)):=by
 intro a w E S;have H:=sR k hk;have h3:p&&&q<=p:=Nat.and_le_left;have G:=mU hk (x:=p&&&q) zot;have D:=zoh (a:=p) (b:=2^k.bits) zot;have C:=zoh (a:=q) (b:=2^k.bits) zot;simp only[execOp,E.eval hx,E.eval hy,vU,binOp];simp[xN,Op.intBits,G,D,C]
theorem iD{t:TypeId}(hu:P.underlying t=some .bool)(x y:Bool)(w:World):(Op.equal t (.bool x) (.bool y)).run P w=.ok (x==y) w:=by
 have h1:Op.equal t (.bool x) (.bool y)=Op.equalIn (9999+1) t (.bool x) (.bool y):=I;rw[h1,Op.equalIn];simp[run_underlying hu]
theorem aZ{t yt:TypeId}{x y:Operand}{p q:Prop}(hu:P.underlying t=some .bool)(hx:zJ e x=some (vB p))(hy:zJ e y=some (vB q)):
 OpV P n w0 h0 ⟨ds,.binOp .eql t x y yt,ty,ps,af,gd⟩ e L h (vB (p↔q)):=by
 intro a w E S;simp only[execOp,E.eval hx,E.eval hy,vB,binOp];simp[eqGuard,iD hu]
 by_cases hp:p<;>by_cases hq:q<;>simp[hp,hq]
theorem tO{t yt:TypeId}{x y:Operand}{p q:Prop}(hu:P.underlying t=some .bool)(hx:zJ e x=some (vB p))(hy:zJ e y=some (vB q)):
 OpV P n w0 h0 ⟨ds,.binOp .neq t x y yt,ty,ps,af,gd⟩ e L h (vB (¬(p↔q))):=by
 intro a w E S;simp only[execOp,E.eval hx,E.eval hy,vB,binOp];simp[eqGuard,iD hu]
 by_cases hp:p<;>by_cases hq:q<;>simp[hp,hq]
theorem tF{k k':IntKind}{W:Nat}{s t:TypeId}{d:TypeDesc}{x:Operand}{p:Nat}(hs:P.underlying s=some d)(ht:P.underlying t=some (.int k'))(hk:k'.signed=false)(hW:ub k'=W)(hx:zJ e x=some (vU k p)):
 OpV P n w0 h0 ⟨ds,.convert s t x,ty,ps,af,gd⟩ e L h (vU k' (p%W)):=by
 intro a w E S;have:=zAM hk p;rw[hW] at this;simp[execOp,E.eval hx,vU,convert,run_underlying hs,run_underlying ht,Conv.intToInt,this]
theorem vJ{k k':IntKind}{W:Nat}{s t:TypeId}{d:TypeDesc}{x:Operand}{p:Nat}(hs:P.underlying s=some d)(ht:P.underlying t=some (.int k'))(hk:k'.signed=false)(hW:ub k'=W)(hx:zJ e x=some (vU k p))(hp:p<W):
 OpV P n w0 h0 ⟨ds,.convert s t x,ty,ps,af,gd⟩ e L h (vU k' p):=by
 have:=tF (n:=n) (w0:=w0) (h0:=h0) (L:=L) (h:=h) (ds:=ds) (ty:=ty) (ps:=ps) (af:=af) (gd:=gd) hs ht hk hW hx
 rwa [zoh hp] at this
theorem s4{k':IntKind}{W:Nat}{s t:TypeId}{d:TypeDesc}{x:Operand}{p:Nat}(hs:P.underlying s=some d)(ht:P.underlying t=some (.int k'))(hk:k'.signed=false)(hW:ub k'=W)(hx:zJ e x=some (vI (p:Int)))(hp:p<W):
 OpV P n w0 h0 ⟨ds,.convert s t x,ty,ps,af,gd⟩ e L h (vU k' p):=by
 intro a w E S;have:=mU hk (x:=p) zot;simp[execOp,E.eval hx,vI,vU,convert,run_underlying hs,run_underlying ht,Conv.intToInt,this]
theorem zFT{k:IntKind}{s t:TypeId}{d:TypeDesc}{x:Operand}{p:Nat}(hs:P.underlying s=some d)(ht:P.underlying t=some (.int .i64))(hx:zJ e x=some (vU k p))(hp:p<9223372036854775808):
 OpV P n w0 h0 ⟨ds,.convert s t x,ty,ps,af,gd⟩ e L h (vI (p:Int)):=by
 intro a w E S;have:=j4 (x:=(p:Int)) zot zot;simp[execOp,E.eval hx,vI,vU,convert,run_underlying hs,run_underlying ht,Conv.intToInt,this]
def Sl(h:Mem)(k:Nat)(v:Value)(m:Nat)(cs:List Value):Prop:=
 ∃a cap,v=.slice a m cap/\m<=cap/\cap<=maxLen/\cs.length=m*k/\∀i,i<cs.length->∃b o,a=some ⟨b,o,none⟩/\cell h b (o+i)=cs[i]?
theorem Sl.mono{h h':Mem}{k:Nat}{v:Value}{m:Nat}{cs:List Value}(s:Sl h k v m cs)(hh:MLe h h'):Sl h' k v m cs:=by
 obtain⟨a,C,G,h1,h2,h3,J⟩:=s;refine⟨a,C,G,h1,h2,h3,λi hi=>?_⟩;obtain⟨b,o,H,D⟩:=J i hi;refine⟨b,o,H,?_⟩;rw[zoc hi] at D ⊢;exact zDC hh D
theorem Sl.nil(h:Mem)(k:Nat):Sl h k (.slice none 0 0) 0 []:=⟨none,0,rfl,Nat.le_refl _,by unfold maxLen;omega,by simp,λi hi=>by simp at hi⟩
theorem Sl.one{h:Mem}{k:Nat}{v:Value}{m:Nat}{cs:List Value}(s:Sl h k v m cs):∃a cap,v=.slice a m cap:=let ⟨a,cap,hv,_⟩:=s;⟨a,cap,hv⟩
theorem Sl.lt63{h:Mem}{k:Nat}{v:Value}{m:Nat}{cs:List Value}(s:Sl h k v m cs):m<9223372036854775808:=by
 obtain⟨a,C,D,h1,h2,_⟩:=s;unfold maxLen at h2;omega
def zI(k:Nat)(v:Value)(i:Nat):Value:=
 match v with
 | .slice (some a) _ _=>.pointer (some (a.add (i*k)))
 |_=>undef
theorem jY(b o j:Nat):(⟨b,o,none⟩:Addr).add j=⟨b,o+j,none⟩:=by
 unfold Addr.add
 split
 · simp_all
 · rfl
theorem mF{v:Value}{m:Nat}{t:TypeId}{E:TypeId}{x:Operand}(ht:P.underlying t=some (.slice E))(hx:zJ e x=some v)(hv:∃a cap,v=.slice a m cap):
 OpV P n w0 h0 ⟨ds,.call {callee:=.builtin .len,args:=#[x],argTypes:=#[t]},ty,ps,af,gd⟩ e L h (vI (m:Int)):=by
 obtain⟨a,cap,rfl⟩:=hv;intro a w E S;simp[execOp,resolve,invoke,builtin,Builtin.len_,E.eval hx,run_underlying ht,goInt,vI]
theorem iH{v:Value}{m:Nat}{cs:List Value}{k:Nat}{t E:TypeId}{x y:Operand}{q:Int}(i:Nat)(ht:P.underlying t=some (.slice E))(hsz:∀w,(Go.sizeOf E).run P w=.ok k w)(hx:zJ e x=some v)(hy:zJ e y=some (vI q))
    (hv:Sl h k v m cs)(hq:q=(i:Int))(hi:i<m)(hk:0<k):OpV P n w0 h0 ⟨ds,.indexAddr t x y,ty,ps,af,gd⟩ e L h (zI k v i):=by
 obtain⟨M,J,rfl,h1,h2,h3,H⟩:=hv;subst hq;have C:0<cs.length:=by rw[h3];exact Nat.mul_pos zot hk
 obtain⟨b,o,rfl,_⟩:=H 0 C;intro a w D S;have G:(0:Int)<=(i:Int)/\(i:Int)<(m:Int):=by omega
 simp[execOp,D.eval hx,D.eval hy,Instr.indexAt,vI,asIntOf,run_underlying ht,hsz,zI,hi]
theorem Sl.cell{h:Mem}{k:Nat}{v:Value}{m:Nat}{cs:List Value}(s:Sl h k v m cs){i j:Nat}{u:Value}(hj:cs[i*k+j]?=some u):∃b o,zI k v i=.pointer (some ⟨b,o,none⟩)/\Bk.cell h b (o+j)=some u:=by
 obtain⟨a,H,rfl,h1,h2,h3,G⟩:=s;obtain⟨C,_⟩:=List.getElem?_eq_some_iff.1 hj;obtain⟨b,o,rfl,D⟩:=G _ C;refine⟨b,o+i*k,?_,?_⟩
 · simp[zI,jY]
 · rw[hj] at D
   rw[<-D];congr 1;omega
theorem zFR{v u:Value}{m:Nat}{cs:List Value}{t:TypeId}{x:Operand}{i:Nat}(ha:∀w,(isAgg t).run P w=.ok false w)(hx:zJ e x=some (zI 1 v i))(hv:Sl h 1 v m cs)(hi:cs[i]?=some u):
 OpV P n w0 h0 ⟨ds,.load t x,ty,ps,af,gd⟩ e L h u:=by
 obtain⟨b,o,D,G⟩:=hv.cell (i:=i) (j:=0) (u:=u) (by simpa using hi);rw[D] at hx;intro a w E S;have C:=lK S.sub G;simp only[Nat.add_zero] at C;simp[execOp,E.eval hx,Instr.loadAt,Instr.sureAddr,loadVar,ha,Go.load,Sem.run,C]
def us(k:IntKind)(xs:List Nat):List Value:=xs.map (vU k)
structure Us(k:IntKind)(h:Mem)(v:Value)(xs:List Nat):Prop where
 sl:Sl h 1 v xs.length (us k xs)
 lt:∀x∈xs,x<ub k
theorem Us.mono{k:IntKind}{h h':Mem}{v:Value}{xs:List Nat}(s:Us k h v xs)(hh:MLe h h'):Us k h' v xs:=⟨s.sl.mono hh,s.lt⟩
theorem Us.nil(k:IntKind)(h:Mem):Us k h (.slice none 0 0) []:=⟨Sl.nil h 1,by simp⟩
theorem Us.one{k:IntKind}{h:Mem}{v:Value}{xs:List Nat}(s:Us k h v xs):∃a cap,v=.slice a xs.length cap:=s.sl.one
theorem Us.lt63{k:IntKind}{h:Mem}{v:Value}{xs:List Nat}(s:Us k h v xs):xs.length<9223372036854775808:=s.sl.lt63
theorem zOB{k:IntKind}{xs:List Nat}{i:Nat}(hi:i<xs.length):(us k xs)[i]?=some (vU k (xs.getD i 0)):=by
 simp[us,hi]
theorem Us.getLt{k:IntKind}{h:Mem}{v:Value}{xs:List Nat}(s:Us k h v xs)(i:Nat):xs.getD i 0<ub k\/ub k=0:=by
 by_cases hi:i<xs.length
 · rw[zoa,zoc hi]
   exact .inl (s.lt _ (List.getElem_mem hi))
 · rw[zoa,List.getElem?_eq_none zot]
   simp only[Option.getD_none];omega
theorem Us.get32{h:Mem}{v:Value}{xs:List Nat}(s:Us .u32 h v xs)(i:Nat):xs.getD i 0<4294967296:=(s.getLt i).resolve_right zow
theorem vH{k:IntKind}{v:Value}{xs:List Nat}{t E:TypeId}{x:Operand}(ht:P.underlying t=some (.slice E))(hx:zJ e x=some v)(hv:Us k h v xs):
 OpV P n w0 h0 ⟨ds,.call {callee:=.builtin .len,args:=#[x],argTypes:=#[t]},ty,ps,af,gd⟩ e L h (vI (xs.length:Int)):=mF ht hx hv.one
theorem zX{k:IntKind}{v:Value}{xs:List Nat}{t E:TypeId}{x y:Operand}{q:Int}(i:Nat)(ht:P.underlying t=some (.slice E))(hsz:∀w,(Go.sizeOf E).run P w=.ok 1 w)(hx:zJ e x=some v)(hy:zJ e y=some (vI q))
    (hv:Us k h v xs)(hq:q=(i:Int))(hi:i<xs.length):OpV P n w0 h0 ⟨ds,.indexAddr t x y,ty,ps,af,gd⟩ e L h (zI 1 v i):=iH i ht hsz hx hy hv.sl hq hi zot
theorem xY{k:IntKind}{v:Value}{xs:List Nat}{t:TypeId}{x:Operand}{i:Nat}(ha:∀w,(isAgg t).run P w=.ok false w)(hx:zJ e x=some (zI 1 v i))(hv:Us k h v xs)(hi:i<xs.length):
 OpV P n w0 h0 ⟨ds,.load t x,ty,ps,af,gd⟩ e L h (vU k (xs.getD i 0)):=zFR ha hx hv.sl (zOB hi)
def fX(k:Nat)(v:Value)(lo hi:Nat):Value:=
 match v with
 | .slice a _ cap=>.slice (if cap=lo then a else a.map (·.add (lo*k))) (hi-lo) (cap-lo)
 |_=>undef
theorem Sl.sub{h:Mem}{k:Nat}{v:Value}{m:Nat}{cs:List Value}(s:Sl h k v m cs){lo hi:Nat}(h1:lo<=hi)(h2:hi<=m):Sl h k (fX k v lo hi) (hi-lo) ((cs.drop (lo*k)).take ((hi-lo)*k)):=by
 obtain⟨a,G,rfl,h3,U,H,M⟩:=s;have O:(hi-lo)*k<=m*k-lo*k:=by rw[<-Nat.sub_mul];exact Nat.mul_le_mul_right _ zot
 refine⟨_,_,I,by omega,by omega,by rw[List.length_take,List.length_drop,H];omega,λi C=>?_⟩;rw[List.length_take,List.length_drop,H] at C;have D:lo*k+i<cs.length:=by omega
 obtain⟨b,o,rfl,J⟩:=M _ D
 by_cases hcl:G=lo
 · exfalso
   have:hi-lo=0:=by omega
   rw[this] at C;omega
 · refine⟨b,o+lo*k,by simp[hcl,jY],?_⟩
   rw[List.getElem?_take,if_pos zot,List.getElem?_drop,<-J]
   congr 1
   omega
theorem Us.sub{k:IntKind}{h:Mem}{v:Value}{xs:List Nat}(s:Us k h v xs){lo hi:Nat}(h1:lo<=hi)(h2:hi<=xs.length):Us k h (fX 1 v lo hi) ((xs.drop lo).take (hi-lo)):=by
 have:=s.sl.sub h1 h2;simp only[Nat.mul_one] at this;refine⟨?_,λx hx=>s.lt x (List.mem_of_mem_drop (List.mem_of_mem_take hx))⟩;have C:((xs.drop lo).take (hi-lo)).length=hi-lo:=by rw[List.length_take,List.length_drop];omega
 rw[C]
 simpa[us] using this
theorem zLZ{k:Nat}{t E:TypeId}(w:World)(ht:P.underlying t=some (.slice E))(hsz:∀w,(Go.sizeOf E).run P w=.ok k w)(a:Option Addr)(m cap hi:Nat)(h2:hi<=cap):
 (Instr.sliceAt t (.slice a m cap) none (some (vI hi)) none).run P w=.ok (fX k (.slice a m cap) 0 hi) w:=by
 simp[Instr.sliceAt,Instr.slice,run_underlying ht,Instr.sliceBounds,Instr.sliceBound,asIntOf,vI,hsz,fX,h2]
theorem zLY{k:Nat}{t E:TypeId}(w:World)(ht:P.underlying t=some (.slice E))(hsz:∀w,(Go.sizeOf E).run P w=.ok k w)(a:Option Addr)(m cap lo:Nat)(h1:lo<=m):
 (Instr.sliceAt t (.slice a m cap) (some (vI lo)) none none).run P w=.ok (fX k (.slice a m cap) lo m) w:=by
 simp[Instr.sliceAt,Instr.slice,run_underlying ht,Instr.sliceBounds,Instr.sliceBound,asIntOf,vI,hsz,fX,h1]
theorem t8{v:Value}{m k:Nat}{t E:TypeId}{x hi:Operand}{q:Int}(j:Nat)(ht:P.underlying t=some (.slice E))(hsz:∀w,(Go.sizeOf E).run P w=.ok k w)(hx:zJ e x=some v)(hh:zJ e hi=some (vI q))
    (hv:∃a cap,v=.slice a m cap/\m<=cap)(hq:q=(j:Int))(h2:j<=m):OpV P n w0 h0 ⟨ds,.slice t x none (some hi) none,ty,ps,af,gd⟩ e L h (fX k v 0 j):=by
 obtain⟨a,cap,rfl,D⟩:=hv;subst hq;intro G w C S;have:=zLZ (P:=P) w ht hsz a m cap j zot;simp[execOp,C.eval hx,C.eval hh,this]
theorem jI{v:Value}{m k:Nat}{t E:TypeId}{x lo:Operand}{p:Int}(i:Nat)(ht:P.underlying t=some (.slice E))(hsz:∀w,(Go.sizeOf E).run P w=.ok k w)(hx:zJ e x=some v)(hl:zJ e lo=some (vI p))
    (hv:∃a cap,v=.slice a m cap/\m<=cap)(hp:p=(i:Int))(h1:i<=m):OpV P n w0 h0 ⟨ds,.slice t x (some lo) none none,ty,ps,af,gd⟩ e L h (fX k v i m):=by
 obtain⟨a,cap,rfl,D⟩:=hv;subst hp;intro G w C S;have:=zLY (P:=P) w ht hsz a m cap i h1;simp[execOp,C.eval hx,C.eval hl,this]
theorem Sl.shape{h:Mem}{k:Nat}{v:Value}{m:Nat}{cs:List Value}(s:Sl h k v m cs):∃a cap,v=.slice a m cap/\m<=cap:=let ⟨a,cap,hv,h1,_⟩:=s;⟨a,cap,hv,h1⟩
theorem Us.shape{k:IntKind}{h:Mem}{v:Value}{xs:List Nat}(s:Us k h v xs):∃a cap,v=.slice a xs.length cap/\xs.length<=cap:=s.sl.shape
theorem zO7{v:Value}{t E yt:TypeId}{x:Operand}(ht:P.underlying t=some (.slice E))(hx:zJ e x=some v)(hv:∃a m cap,v=.slice a m cap):
 OpV P n w0 h0 ⟨ds,.binOp .eql t x (.const (.slice none 0 0)) yt,ty,ps,af,gd⟩ e L h (vB (∃m cap,v=.slice none m cap)):=by
 obtain⟨a,m,cap,rfl⟩:=hv;intro D w C S;have h1:=Lib.run_eql_slice_nil (P:=P) w t E a m cap 0 0 ht;have h2:(vB (∃m' cap',Value.slice a m cap=.slice none m' cap'))=.bool a.isNone:=by
  cases a<;>simp[vB]
 simp only[execOp,C.eval hx,h2];have h3:(eqGuard .eql t x (.const (.slice none 0 0)) (.slice a m cap) (.slice none 0 0)).run P w=.ok () w:=by simp[eqGuard]
 simp[h3,Act.eval,h1]
theorem zO6{s r:ByteArray}{t yt:TypeId}{x y:Operand}(hx:zJ e x=some (.string s))(hy:zJ e y=some (.string r)):OpV P n w0 h0 ⟨ds,.binOp .eql t x y yt,ty,ps,af,gd⟩ e L h (vB (s=r)):=by
 intro a w C S;have h1:(s.toList==r.toList)=@decide (s=r) (Classical.propDecidable _):=by
  rw[Bool.eq_iff_iff];simp only[beq_iff_eq,decide_eq_true_eq];exact⟨λhh=>by
   have h2:s.data.toList=r.data.toList:=by
    rwa [ByteArray.toList_eq,ByteArray.toList_eq] at hh
   cases s;cases r
   simp only[ByteArray.mk.injEq];exact Array.toList_inj.1 h2,λhh=>by rw[hh]⟩
 simp only[execOp,C.eval hx,C.eval hy,binOp,vB];simp[eqGuard,Op.stringOp,h1]
end ops
section own
variable {P:Program}{n:Nat}{w0:World}{h0:Mem}{e:List (Nat×Value)}{L:List Res}{h:Mem}{Q:Exit->Act->World->Prop}
def Res.us(E:Nat)(k:IntKind)(v:Value)(xs:List Nat):Res:=.gs E 1 v xs.length (Bk.us k xs)
theorem zUB{ops:Array Oper}{l:List Oper}{A B:List Res}{E k m:Nat}{v:Value}{cs:List Value}(k':∀h',MLe h h'->Sl h' k v m cs->GL P n w0 h0 ops Q l e (A++B) h'):GL P n w0 h0 ops Q l e (A++.gs E k v m cs::B) h:=by
 intro a w M S;have C:=S.ok (.gs E k v m cs) zo2;have H:=C;obtain⟨J,O⟩:=C
 rcases O with⟨rfl,rfl⟩|⟨g,cap,cur,rfl,hb,hg,hn,hm,hcs,ht⟩
 · have D:cs=[]:=zof (by simpa using J)
   subst D;exact k' h (MLe.refl h) (Sl.nil h k) a w M S.drop
 · obtain⟨U,G⟩:=S.freeze (b:=g) (o:=.cells cur E (0,0)) I hg
   refine k' _ G ?_ a w M U;refine⟨_,cap,I,hn,hm,J,λi hi=>⟨g,0,I,?_⟩⟩;unfold cell;simp only[if_true,Nat.zero_add];rw[<-ht,List.getElem?_take,if_pos zot];simp
theorem zBY{ops:Array Oper}{l:List Oper}{A B:List Res}{E:Nat}{k:IntKind}{v:Value}{xs:List Nat}(hlt:∀x∈xs,x<ub k)(k':∀h',MLe h h'->Us k h' v xs->GL P n w0 h0 ops Q l e (A++B) h'):
 GL P n w0 h0 ops Q l e (A++.us E k v xs::B) h:=zUB λh' hh hs=>k' h' hh ⟨hs,hlt⟩
theorem zBA{A B:List Res}{E k m:Nat}{v:Value}{cs:List Value}{w:World}(S:St w0 h0 (A++.gs E k v m cs::B) h w):Sl (mem w) k v m cs:=by
 have D:=S.ok (.gs E k v m cs) zo2;obtain⟨G,H⟩:=D
 rcases H with⟨rfl,rfl⟩|⟨g,cap,cur,rfl,hb,hg,hn,hm,hcs,ht⟩
 · have C:cs=[]:=zof (by simpa using G)
   subst C;exact Sl.nil _ k
 · refine⟨_,cap,I,hn,hm,G,λi hi=>⟨g,0,I,?_⟩⟩
   unfold cell mem;rw[hg];simp only[Nat.zero_add];rw[<-ht,List.getElem?_take,if_pos zot];simp
section vals
variable {A B:List Res}{E:Nat}{ds:Option Tmp}{ty:TypeId}{ps:String}{af:Array Edge}{gd:Option (Nat×Bool)}
theorem zO4{k m:Nat}{cs:List Value}{v:Value}{t E':TypeId}{x:Operand}(ht:P.underlying t=some (.slice E'))(hx:zJ e x=some v):
 OpV P n w0 h0 ⟨ds,.call {callee:=.builtin .len,args:=#[x],argTypes:=#[t]},ty,ps,af,gd⟩ e (A++.gs E k v m cs::B) h (vI (m:Int)):=
 λa w Ev S=>mF (L:=A++.gs E k v m cs::B) (h:=h) ht hx (zBA S).one a w Ev S
theorem zJ6{k m:Nat}{cs:List Value}{v:Value}{t E':TypeId}{x y:Operand}{q:Int}(i:Nat)(ht:P.underlying t=some (.slice E'))(hsz:∀w,(Go.sizeOf E').run P w=.ok k w)(hx:zJ e x=some v)(hy:zJ e y=some (vI q))
    (hq:q=(i:Int))(hi:i<m)(hk:0<k):OpV P n w0 h0 ⟨ds,.indexAddr t x y,ty,ps,af,gd⟩ e (A++.gs E k v m cs::B) h (zI k v i):=by
 intro a w D S;have C:St w (mem w) [] (mem w) w:=St.begin (MLe.refl _);exact iH (n:=n) (w0:=w) (h0:=mem w) (L:=[]) (h:=mem w) i ht hsz hx hy (zBA S) hq hi hk a w D C
theorem zMB{m:Nat}{cs:List Value}{v u:Value}{t:TypeId}{x:Operand}{i:Nat}(ha:∀w,(isAgg t).run P w=.ok false w)(hx:zJ e x=some (zI 1 v i))(hi:cs[i]?=some u):
 OpV P n w0 h0 ⟨ds,.load t x,ty,ps,af,gd⟩ e (A++.gs E 1 v m cs::B) h u:=by
 intro a w D S;have C:St w (mem w) [] (mem w) w:=St.begin (MLe.refl _);exact zFR (n:=n) (w0:=w) (h0:=mem w) (L:=[]) (h:=mem w) ha hx (zBA S) hi a w D C
theorem xC{k:IntKind}{xs:List Nat}{v:Value}{t E':TypeId}{x y:Operand}{q:Int}(i:Nat)(ht:P.underlying t=some (.slice E'))(hsz:∀w,(Go.sizeOf E').run P w=.ok 1 w)(hx:zJ e x=some v)(hy:zJ e y=some (vI q))
    (hq:q=(i:Int))(hi:i<xs.length):OpV P n w0 h0 ⟨ds,.indexAddr t x y,ty,ps,af,gd⟩ e (A++.us E k v xs::B) h (zI 1 v i):=zJ6 i ht hsz hx hy hq hi zot
theorem fY{k:IntKind}{xs:List Nat}{v:Value}{t:TypeId}{x:Operand}{i:Nat}(ha:∀w,(isAgg t).run P w=.ok false w)(hx:zJ e x=some (zI 1 v i))(hi:i<xs.length):
 OpV P n w0 h0 ⟨ds,.load t x,ty,ps,af,gd⟩ e (A++.us E k v xs::B) h (vU k (xs.getD i 0)):=zMB ha hx (zOB hi)
theorem rY{k:IntKind}{xs:List Nat}{v:Value}{t E':TypeId}{x:Operand}(ht:P.underlying t=some (.slice E'))(hx:zJ e x=some v):
 OpV P n w0 h0 ⟨ds,.call {callee:=.builtin .len,args:=#[x],argTypes:=#[t]},ty,ps,af,gd⟩ e (A++.us E k v xs::B) h (vI (xs.length:Int)):=zO4 ht hx
end vals
theorem yEV{k:IntKind}{xs:List Nat}{i y:Nat}:(Bk.us k xs).set i (vU k y)=Bk.us k (xs.set i y):=by simp[Bk.us,List.map_set]
theorem zHI{A B:List Res}{E m:Nat}{v u:Value}{cs:List Value}{t:TypeId}{x y:Operand}{i:Nat}{ds:Option Tmp}{ty:TypeId}{ps:String}{af:Array Edge}{gd:Option (Nat×Bool)}(hsz:∀w,(Go.sizeOf t).run P w=.ok 1 w)
    (hx:zJ e x=some (zI 1 v i))(hy:zJ e y=some u)(hu:u.oneCell'=true)(hi:i<cs.length):Upd P n w0 h0 ⟨ds,.store t x y,ty,ps,af,gd⟩ e A (.gs E 1 v m cs) B h (.gs E 1 v m (cs.set i u)):=by
 intro a w O S;have D:=S.ok (.gs E 1 v m cs) zo2;have C:=D;obtain⟨J,U⟩:=D
 rcases U with⟨rfl,rfl⟩|⟨g,cap,cur,rfl,hb,hg,hn,hm,hcs,ht⟩
 · simp at J;subst J;simp at hi
 · have Z:zI 1 (.slice (some ⟨g,0,none⟩) m cap) i=.pointer (some ⟨g,i,none⟩):=by simp[zI,jY]
   rw[Z] at hx;obtain⟨h1,h2⟩:=World.ownsRow.stored C i u;refine⟨_,?_,h2,h1⟩;have H:i<m*1:=by omega
   have M:=World.ownsRow.cellAt C i H;rw[zoc hi] at M;have hf:=World.ownsRow.frozenAt C i;have G:u.cells=#[u]:=by cases u<;>simp[Value.oneCell'] at hu<;>rfl
   cases u<;>simp[Value.oneCell'] at hu<;>
    simp[execOp,O.eval hx,O.eval hy,Instr.storeAt,Instr.sureAddr,storeVar,hsz,Value.cells,storeCells,Go.store,Sem.run,M,hf,Addr.add]
theorem yEW{E:Nat}{k:IntKind}{v:Value}{xs:List Nat}{i z:Nat}:Res.gs E 1 v xs.length ((Bk.us k xs).set i (vU k z))=Res.us E k v (xs.set i z):=by
 rw[yEV];simp[Res.us]
theorem w3{A B:List Res}{E:Nat}{k:IntKind}{v:Value}{xs:List Nat}{t:TypeId}{x y:Operand}{i z:Nat}{ds:Option Tmp}{ty:TypeId}{ps:String}{af:Array Edge}{gd:Option (Nat×Bool)}(hsz:∀w,(Go.sizeOf t).run P w=.ok 1 w)
    (hx:zJ e x=some (zI 1 v i))(hy:zJ e y=some (vU k z))(hi:i<xs.length):Upd P n w0 h0 ⟨ds,.store t x y,ty,ps,af,gd⟩ e A (.us E k v xs) B h (.us E k v (xs.set i z)):=by
 have:=zHI (P:=P) (n:=n) (w0:=w0) (h0:=h0) (A:=A) (B:=B) (h:=h) (E:=E) (m:=xs.length) (cs:=Bk.us k xs) (ds:=ds) (ty:=ty) (ps:=ps) (af:=af) (gd:=gd) hsz hx hy I (by simpa[Bk.us] using hi);rw[yEW] at this;exact this
theorem zBX{ops:Array Oper}{rest:List Oper}{A B:List Res}{E:Nat}{k:IntKind}{v:Value}{xs:List Nat}{t:TypeId}{x y:Operand}{i z:Nat}{ty:TypeId}{ps:String}{af:Array Edge}(hsz:∀w,(Go.sizeOf t).run P w=.ok 1 w)
    (hx:zJ e x=some (zI 1 v i))(hy:zJ e y=some (vU k z))(hi:i<xs.length)(k':GL P n w0 h0 ops Q rest e (A++.us E k v (xs.set i z)::B) h):
    GL P n w0 h0 ops Q (⟨none,.store t x y,ty,ps,af,none⟩::rest) e (A++.us E k v xs::B) h:=wN (w3 hsz hx hy hi) rfl rfl rfl k'
theorem St.new{w0 w w':World}{h0 h:Mem}{L:List Res}{r:Res}(S:St w0 h0 L h w)(hgr:w.grownBy w' none)(hok:r.ok w0.heap.size w')(hfp:∀b,r.fp=some b->w.heap.size<=b):St w0 h0 (r::L) h w':=by
 have M:w0.heap.size<=w.heap.size:=S.below.size;have H:∀r∈L,∀b,r.fp=some b->b<w.heap.size:=λr C b D=>Res.fp_lt (S.ok r C) D;have G:∀b,b<w.heap.size->w'.heap[b]?=w.heap[b]?:=λb D=>hgr.block b D zo2;refine⟨S.below.trans ⟨hgr.os,hgr.tape,hgr.output,hgr.size,λk O=>G k zot⟩,S.le,?_,S.fresh,?_,?_,?_⟩
 · intro b o D
   have h1:=S.sub b o D;unfold mem at *;exact(G b (Array.getElem?_eq_some_iff.1 h1).1).trans h1
 · intro r C
   rcases List.mem_cons.1 C with rfl|C
   · exact hok
   · exact Res.kept (S.ok r C) λb D=>G b (H r C b D)
 · intro r C b D
   rcases List.mem_cons.1 C with rfl|C
   · have J:=hfp b D
     refine⟨?_,by omega⟩
     cases hh:h b with
     |none=>rfl
     |some o'=>
      have:=S.sub _ o' hh;unfold mem at this;have:=(Array.getElem?_eq_some_iff.1 this).1;omega
   · exact S.own r C b D
 · refine List.pairwise_cons.2 ⟨λr C b D J=>?_,S.apart⟩
   have:=H r C b J;have:=hfp b D;omega
def lO(P:Program)(n:Nat)(w0:World)(h0:Mem)(o:Oper)(e:List (Nat×Value))(L:List Res)(h:Mem)(G:Value->Res->Prop):Prop:=
 ∀a w,Env n e a->St w0 h0 L h w->∃v w' r,(execOp a.eval o).run P w=.ok (.value v) w'/\w.grownBy w' none/\r.ok w0.heap.size w'/\(∀b,r.fp=some b->w.heap.size<=b)/\G v r
theorem zG{ops:Array Oper}{rest:List Oper}{o:Oper}{d:Nat}{G:Value->Res->Prop}(hv:lO P n w0 h0 o e L h G)(hg:o.guard=none)(hd:o.dst=some d)(hn:Nat.ble (d+1) n=true)
    (k:∀v r,G v r->GL P n w0 h0 ops Q rest ((d,v)::e) (r::L) h):GL P n w0 h0 ops Q (o::rest) e L h:=by
 intro a w J S;refine wpList_plain hg λK O=>?_;obtain⟨v,Z,r,M,D,C,H,U⟩:=hv a w J S;unfold Oper.wp;rw[M,Oper.upon_value,hd];exact O _ _ (k v r U _ _ (J.put (Nat.le_of_ble_eq_true hn)) (S.new D C H))
theorem zXI{t E:TypeId}{i:TypeInfo}{z:Value}{x y:Operand}{ds:Option Tmp}{ty:TypeId}{ps:String}{af:Array Edge}{gd:Option (Nat×Bool)}{q q':Int}(m:Nat)(ht:P.underlying t=some (.slice E))(hi:P.info? E=some i)(hz:i.zero=some z)(hone:z.cells=#[z])(hsize:i.size=1)
    (hx:zJ e x=some (vI q))(hy:zJ e y=some (vI q'))(hq:q=(m:Int))(hq':q'=(m:Int))(hb:i.bytes*m<=281474976710656)(hm:m<9223372036854775808):
    lO P n w0 h0 ⟨ds,.makeSlice t x y,ty,ps,af,gd⟩ e L h (λv r=>r=.gs E 1 v m (List.replicate m z)):=by
 subst hq;subst hq';intro a w H S;obtain⟨J,M,D,G⟩:=run_make_full (P:=P) w w0.heap.size t E i z 1 ht hi hz hsize .i64 .i64 m hb (by unfold maxLen;omega) S.below.size;have C:(madeCells z.cells (m*1)).toList=List.replicate m z:=by rw[hone,Nat.mul_one];exact toList_madeCells_one z m
 rw[C] at D;refine⟨_,J,.gs E 1 (.slice (some ⟨w.heap.size,0,none⟩) m m) m (List.replicate m z),?_,G,D,λb hb=>?_,I⟩
 · simp only[execOp,H.eval hx,H.eval hy,vI]
   simp[M]
 · simp only[Res.fp,Value.ownBlock,Option.some.injEq] at hb
   omega
theorem zMW{t E:TypeId}{i:TypeInfo}{kd:IntKind}{x y:Operand}{ds:Option Tmp}{ty:TypeId}{ps:String}{af:Array Edge}{gd:Option (Nat×Bool)}{q q':Int}{by':Nat}(m:Nat)(ht:P.underlying t=some (.slice E))(hi:P.info? E=some i)(hz:i.zero=some (.int kd 0))(hsize:i.size=1)
    (hby:i.bytes=by')(hx:zJ e x=some (vI q))(hy:zJ e y=some (vI q'))(hq:q=(m:Int))(hq':q'=(m:Int))(hb:by'*m<=281474976710656)(hm:m<9223372036854775808):
    lO P n w0 h0 ⟨ds,.makeSlice t x y,ty,ps,af,gd⟩ e L h (λv r=>r=.us E kd v (List.replicate m 0)):=by
 subst hby;intro a w H S;obtain⟨v,C,r,h1,h2,h3,G,D⟩:=zXI (n:=n) (L:=L) (h:=h) (ds:=ds) (ty:=ty) (ps:=ps) (af:=af) (gd:=gd) m ht hi hz I hsize hx hy hq hq' hb hm a w H S;refine⟨v,C,r,h1,h2,h3,G,?_⟩;rw[D];simp[Res.us,Bk.us,vU]
theorem qY{ops:Array Oper}{rest:List Oper}{t E:TypeId}{i:TypeInfo}{kd:IntKind}{x y:Operand}{d:Nat}{ty:TypeId}{ps:String}{af:Array Edge}{q q':Int}{by':Nat}(m:Nat)(ht:P.underlying t=some (.slice E))(hi:P.info? E=some i)(hz:i.zero=some (.int kd 0))(hsize:i.size=1)
    (hby:i.bytes=by')(hx:zJ e x=some (vI q))(hy:zJ e y=some (vI q'))(hq:q=(m:Int))(hq':q'=(m:Int))(hb:by'*m<=281474976710656)(hm:m<9223372036854775808)(hn:Nat.ble (d+1) n=true)
    (k:∀v,GL P n w0 h0 ops Q rest ((d,v)::e) (.us E kd v (List.replicate m 0)::L) h):GL P n w0 h0 ops Q (⟨some d,.makeSlice t x y,ty,ps,af,none⟩::rest) e L h:=
 zG (zMW m ht hi hz hsize hby hx hy hq hq' hb hm) rfl rfl hn λv r hr=>hr▸k v
theorem wV{ops:Array Oper}{rest:List Oper}{B:List Res}{E:Nat}{k:IntKind}{v:Value}{xs:List Nat}{t:TypeId}{x y:Operand}{i z:Nat}{ty:TypeId}{ps:String}{af:Array Edge}(hsz:∀w,(Go.sizeOf t).run P w=.ok 1 w)
    (hx:zJ e x=some (zI 1 v i))(hy:zJ e y=some (vU k z))(hi:i<xs.length)(k':GL P n w0 h0 ops Q rest e (.us E k v (xs.set i z)::B) h):
    GL P n w0 h0 ops Q (⟨none,.store t x y,ty,ps,af,none⟩::rest) e (.us E k v xs::B) h:=zBX (A:=[]) hsz hx hy hi k'
theorem yQ{ops:Array Oper}{l:List Oper}{B:List Res}{E:Nat}{k:IntKind}{v:Value}{xs:List Nat}(hlt:∀x∈xs,x<ub k)(k':∀h',MLe h h'->Us k h' v xs->GL P n w0 h0 ops Q l e (B) h'):
 GL P n w0 h0 ops Q l e (.us E k v xs::B) h:=zBY (A:=[]) hlt k'
theorem rM{ops:Array Oper}{rest:List Oper}{r0:Res}{B:List Res}{E:Nat}{k:IntKind}{v:Value}{xs:List Nat}{t:TypeId}{x y:Operand}{i z:Nat}{ty:TypeId}{ps:String}{af:Array Edge}(hsz:∀w,(Go.sizeOf t).run P w=.ok 1 w)
    (hx:zJ e x=some (zI 1 v i))(hy:zJ e y=some (vU k z))(hi:i<xs.length)(k':GL P n w0 h0 ops Q rest e (r0::.us E k v (xs.set i z)::B) h):
    GL P n w0 h0 ops Q (⟨none,.store t x y,ty,ps,af,none⟩::rest) e (r0::.us E k v xs::B) h:=zBX (A:=[r0]) hsz hx hy hi k'
theorem zHX{ops:Array Oper}{l:List Oper}{r0:Res}{B:List Res}{E:Nat}{k:IntKind}{v:Value}{xs:List Nat}(hlt:∀x∈xs,x<ub k)(k':∀h',MLe h h'->Us k h' v xs->GL P n w0 h0 ops Q l e (r0::B) h'):
 GL P n w0 h0 ops Q l e (r0::.us E k v xs::B) h:=zBY (A:=[r0]) hlt k'
end own
section
variable {P:Program}{ops:Array Oper}
def qT(P:Program)(ops:Array Oper)(o:Oper)(a:Act)(w:World)(K:Value->World->Prop):Prop:=
 if Region.wanted o (yielded ops a.tmps) then
  match (execOp a.eval o).run P w with
  | .ok (.value v) w'=>K v w'
  | .ok .skip w'=>K undef w'
  | .ok (.enter f args) w'=>Calls P f args w' λe w''=>∃v,e=.returned v/\K v w''
  |_=>False
 else K undef w
theorem qT.mono{o:Oper}{a:Act}{w:World}{K K':Value->World->Prop}(h:qT P ops o a w K)(hk:∀v w,K v w->K' v w):qT P ops o a w K':=by
 unfold qT at *
 split
 · rename_i hw
   rw[if_pos hw] at h;generalize (execOp a.eval o).run P w=r at *
   cases r with
   |ok x w'=>
    cases x<;>simp only at h ⊢
    case enter f args=>exact h.mono λe C ⟨v,G,D⟩=>⟨v,G,hk _ _ D⟩
    all_goals exact hk _ _ h
   |halt x w'=>exact h
 · rename_i hw
   rw[if_neg hw] at h;exact hk _ _ h
theorem qT.wpOp{o:Oper}{i:Nat}{a:Act}{w:World}{K:Value->World->Prop}{K':Act->World->Prop}{Q:Exit->Act->World->Prop}(hi:ops[i]?=some o)(h:qT P ops o a w K)
    (hk:∀v w,K v w->K' (a.put o.dst v) w):Go.wpOp P ops Q i K' a w:=by
 unfold Go.wpOp;simp only[hi];unfold qT at h
 split
 · rename_i hw
   rw[if_pos hw] at h;refine .inl ?_;unfold Oper.wp;generalize (execOp a.eval o).run P w=r at *
   cases r with
   |ok x w'=>
    cases x<;>simp only at h<;>simp only[Oper.upon]
    case enter f args=>exact h.mono λe C ⟨v,G,D⟩=>by subst G;exact hk _ _ D
    all_goals exact hk _ _ h
   |halt x w'=>exact h.elim
 · rename_i hw
   rw[if_neg hw] at h;exact hk _ _ h
theorem qT.of_put{o:Oper}{a:Act}{w:World}{K:Value->World->Prop}{d:Option Tmp}{v:Value}(hs:∀cs b,o.op≠.select cs b)(hd:∀t,d=some t->t ∉ o.looksAt ops)(h:qT P ops o (a.put d v) w K):qT P ops o a w K:=by
 unfold qT at *;rw[execOp_put (ops:=ops) o hs a d v hd,wanted_put (ops:=ops) o a d v hd] at h;exact h
def RA(P:Program)(ops:Array Oper)(C:Array Bool->World->Prop)(Q:Act->World->Prop):Nat->Array Bool->Act->World->Prop
  |0,listed,a,w=>Region.ready .any ops listed=[]/\Q a w
  |fuel+1,listed,a,w=>
   (Region.ready .any ops listed=[]->Q a w)/\
   ∀i∈Region.ready .any ops listed,∀o,ops[i]?=some o->qT P ops o a w λv w'=>C (listed.setIfInBounds i true) w'/\RA P ops C Q fuel (listed.setIfInBounds i true) (a.put o.dst v) w'
theorem RA.mono{C C':Array Bool->World->Prop}{Q:Act->World->Prop}(hC:∀l w,C l w->C' l w):∀{fuel:Nat} {listed:Array Bool} {a:Act} {w:World},RA P ops C Q fuel listed a w->RA P ops C' Q fuel listed a w
  |0,_,_,_,h=>h
  |_+1,_,_,_,h=>⟨h.1,λi hi o ho=>(h.2 i hi o ho).mono λ_ _ hk=>⟨hC _ _ hk.1,RA.mono hC hk.2⟩⟩
theorem RA.wpAny{C:Array Bool->World->Prop}{Q:Act->World->Prop}{Q':Exit->Act->World->Prop}(hQ:∀a w,Q a w->Q' .normal a w):∀{fuel:Nat} {listed:Array Bool} {a:Act} {w:World},RA P ops C Q fuel listed a w->Go.wpAny P .any ops Q' fuel listed a w
  |0,_,_,_,h=>⟨h.1,hQ _ _ h.2⟩
  |fuel+1,listed,a,w,h=>⟨λh0=>hQ _ _ (h.1 h0),λi hi=>by
   obtain⟨_,o,ho,_⟩:=mem_ready.1 hi;exact(h.2 i hi o ho).wpOp ho λv w' hk=>RA.wpAny hQ hk.2⟩
def nW(P:Program)(ops:Array Oper)(o:Oper)(a:Act)(w:World)(v:Value):Prop:=
 (Region.wanted o (yielded ops a.tmps)=true/\(execOp a.eval o).run P w=.ok (.value v) w)\/(Region.wanted o (yielded ops a.tmps)=false/\v=undef)
theorem nW.put{o:Oper}{a:Act}{w:World}{v u:Value}{d:Option Tmp}(hs:∀cs b,o.op≠.select cs b)(hd:∀t,d=some t->t ∉ o.looksAt ops)(h:nW P ops o a w v):nW P ops o (a.put d u) w v:=by
 unfold nW at *;rw[execOp_put (ops:=ops) o hs a d u hd,wanted_put (ops:=ops) o a d u hd];exact h
theorem nW.runs{o:Oper}{a:Act}{w:World}{v:Value}{K:Value->World->Prop}(h:nW P ops o a w v)(hk:K v w):qT P ops o a w K:=by
 unfold qT
 rcases h with⟨h1,h2⟩|⟨h1,h2⟩
 · rw[if_pos h1,h2];exact hk
 · rw[if_neg (by simp[h1]),<-h2];exact hk
def Cls(m:Nat)(D:World->Prop)(listed:Array Bool)(w:World):Prop:=D w\/∃k,m<=k/\listed.getD k false=true
def zAK(ops:Array Oper)(listed:Array Bool):Prop:=∀k o,listed.getD k false=true->ops[k]?=some o->∀e∈o.after,Region.binds .any e=true->listed.getD e.on false=true
theorem zAK.set{listed:Array Bool}(h:zAK ops listed){j:Nat}(hj:j∈Region.ready .any ops listed):zAK ops (listed.setIfInBounds j true):=by
 intro k o H G e J M;obtain⟨_,o',D,C⟩:=mem_ready.1 hj
 by_cases hkj:k=j
 · subst hkj
   rw[D] at G;cases G
   exact getD_set_true (C e J M)
 · rw[getD_set_ne false (Ne.symm hkj)] at H
   exact getD_set_true (h k o H G e J M)
def zCC(ops:Array Oper):Nat->Nat->Nat->Bool
  |0,k,i=>k==i
  |f+1,k,i=>k==i||(ops.getD k default).after.any λe=>Region.binds .any e&&zCC ops f e.on i
def zDI(ops:Array Oper)(k i:Nat):Bool:=
 (ops.getD k default).after.any λe=>Region.binds .any e&&zCC ops 5 e.on i
theorem zDH{listed:Array Bool}(hcl:zAK ops listed)(hsz:listed.size=ops.size){i:Nat}:∀(f k:Nat),listed.getD k false=true->zCC ops f k i=true->listed.getD i false=true
  |0,k,hk,hw=>by
   have:k=i:=by simpa[zCC] using hw
   rw[<-this];exact hk
  |f+1,k,hk,hw=>by
   simp only[zCC,Bool.or_eq_true,beq_iff_eq,Array.any_eq_true',Bool.and_eq_true] at hw
   rcases hw with hw|⟨e,he,hb,hw⟩
   · rw[<-hw];exact hk
   · have C:k<ops.size:=by
      rcases Nat.lt_or_ge k listed.size with h'|h'
      · omega
      · simp[Array.getElem?_eq_none h'] at hk
     have D:ops[k]?=some (ops.getD k default):=by simp[Array.getD_eq_getD_getElem?,C]
     exact zDH hcl hsz f e.on (hcl _ _ hk D e he hb) hw
theorem zN8{listed:Array Bool}(hcl:zAK ops listed)(hsz:listed.size=ops.size){k i:Nat}(hk:k∈Region.ready .any ops listed)(hw:zDI ops k i=true):listed.getD i false=true:=by
 obtain⟨h1,o,G,C⟩:=mem_ready.1 hk;have D:ops.getD k default=o:=by simp[Array.getD_eq_getD_getElem?,G]
 unfold zDI at hw;rw[D] at hw;simp only[Array.any_eq_true',Bool.and_eq_true] at hw;obtain⟨e,H,J,hw⟩:=hw;exact zDH hcl hsz 5 e.on (C e H J) hw
theorem RA.first{m:Nat}{D:World->Prop}{Q:Act->World->Prop}{i:Nat}{oi:Oper}{v:Value}(hi:ops[i]?=some oi)(hsel:Region.noSelect ops=true)(him:i<m)
    (hlast:∀k,m<=k->k<ops.size->zDI ops k i=true):
    ∀(fuel:Nat) (listed:Array Bool) (a:Act) (w:World),zAK ops listed->listed.size=ops.size->D w->(∀k,m<=k->listed.getD k false=false)->
     (∀j oj,ops[j]?=some oj->j≠i->listed.getD j true=false->(∀e∈oj.after,Region.binds .any e=true->e.on≠i)->oi.apart ops oj=true)->
     i∈Region.ready .any ops listed->(∀w',D w'->nW P ops oi a w' v)->
     RA P ops (Cls m D) Q fuel (listed.setIfInBounds i true) (a.put oi.dst v) w->RA P ops (Cls m D) Q (fuel+1) listed a w:=by
 intro fuel
 induction fuel with
 |zero=>
  intro listed a w _ _ hD _ _ hr hy H;refine⟨λh=>(by rw[h] at hr;cases hr),λj hj o ho=>?_⟩
  by_cases hji:j=i
  · subst hji
    rw[hi] at ho;cases ho
    exact(hy w hD).runs ⟨.inl hD,H⟩
  · have:=ready_mono hj hji
    rw[H.1] at this
    cases this
 |succ fuel ih=>
  intro listed a w hcl hsz hD hnl hfree hr hy H;refine⟨λh=>(by rw[h] at hr;cases hr),λj hj oj ho=>?_⟩
  by_cases hji:j=i
  · subst hji
    rw[hi] at ho;cases ho
    exact(hy w hD).runs ⟨.inl hD,H⟩
  · have h1:=H.2 j (ready_mono hj hji) oj ho
    obtain⟨hjun,oj',hoj',hall⟩:=mem_ready.1 hj;rw[ho] at hoj';cases hoj'
    have hiun:=(mem_ready.1 hr).1;have hnot:∀e∈oj.after,Region.binds .any e=true->e.on≠i:=λe he hb heq=>by
     have h1:=hall e he hb;rw[heq] at h1
     rcases Nat.lt_or_ge i listed.size with h'|h'
     · simp[h'] at h1 hiun;rw[hiun] at h1;cases h1
     · simp[Array.getElem?_eq_none h'] at h1
    have hjm:¬m<=j:=λhm=>by
     have h2:=zN8 hcl hsz hj (hlast j hm (Array.getElem?_eq_some_iff.1 ho).1)
     rcases Nat.lt_or_ge i listed.size with h'|h'
     · simp[h'] at h2 hiun;rw[hiun] at h2;cases h2
     · simp[Array.getElem?_eq_none h'] at h2
    have hap:=hfree j oj ho hji hjun hnot;obtain⟨p1,p2,p3⟩:=Oper.apart_spec hap;have hsj:=λcs b=>Region.noSelect_spec hsel j oj cs b ho;have hsi:=λcs b=>Region.noSelect_spec hsel i oi cs b hi;refine(qT.of_put hsj p1 h1).mono λu w' hk=>?_;have hnl':∀k,m<=k->(listed.setIfInBounds j true).getD k false=false:=λk hk'=>by
     rw[getD_set_ne false zot];exact hnl k hk'
    have hD':D w':=by
     rcases hk.1 with h2|⟨k,hkm,hkl⟩
     · exact h2
     · rw[getD_set_ne false zot,getD_set_ne false zot,hnl k hkm] at hkl
       cases hkl
    have hfree':∀k ok,ops[k]?=some ok->k≠i->(listed.setIfInBounds j true).getD k true=false->
     (∀e∈ok.after,Region.binds .any e=true->e.on≠i)->oi.apart ops ok=true:=λk ok hk hki hun hno=>by
     refine hfree k ok hk hki ?_ hno
     by_cases hjk:j=k
     · subst hjk;exact hjun
     · rw[getD_set_ne true hjk] at hun;exact hun
    refine⟨.inl hD',ih _ _ w' (hcl.set hj) (by simpa using hsz) hD' hnl' hfree' (ready_mono hr (Ne.symm hji)) (λw'' hw=>(hy w'' hw).put hsi p3) ?_⟩;rw[Array.setIfInBounds_comm _ _ hji,<-Act.put_comm a v u p2];exact hk.2
theorem RA.pure{m:Nat}{D:World->Prop}{Q:Act->World->Prop}{i:Nat}{oi:Oper}{v:Value}(hi:ops[i]?=some oi)(hsel:Region.noSelect ops=true)(him:i<m):
 ∀(fuel:Nat) (listed:Array Bool) (a:Act) (w:World),Cls m D listed w->
  (∀j oj,ops[j]?=some oj->j≠i->listed.getD j true=false->(∀e∈oj.after,Region.binds .any e=true->e.on≠i)->oi.apart ops oj=true)->
  i∈Region.ready .any ops listed->(∀w',nW P ops oi a w' v)->
  RA P ops (Cls m D) Q fuel (listed.setIfInBounds i true) (a.put oi.dst v) w->RA P ops (Cls m D) Q (fuel+1) listed a w:=by
 intro fuel;have hset:∀(listed:Array Bool) (j:Nat) (w:World),Cls m D listed w->Cls m D (listed.setIfInBounds j true) w:=λlisted j w hc=>hc.imp id λ⟨k,hk,hl⟩=>⟨k,hk,getD_set_true hl⟩
 induction fuel with
 |zero=>
  intro listed a w hD _ hr hy H;refine⟨λh=>(by rw[h] at hr;cases hr),λj hj o ho=>?_⟩
  by_cases hji:j=i
  · subst hji
    rw[hi] at ho;cases ho
    exact(hy w).runs ⟨hset _ _ _ hD,H⟩
  · have:=ready_mono hj hji
    rw[H.1] at this
    cases this
 |succ fuel ih=>
  intro listed a w hD hfree hr hy H;refine⟨λh=>(by rw[h] at hr;cases hr),λj hj oj ho=>?_⟩
  by_cases hji:j=i
  · subst hji
    rw[hi] at ho;cases ho
    exact(hy w).runs ⟨hset _ _ _ hD,H⟩
  · have h1:=H.2 j (ready_mono hj hji) oj ho
    obtain⟨hjun,oj',hoj',hall⟩:=mem_ready.1 hj;rw[ho] at hoj';cases hoj'
    have hiun:=(mem_ready.1 hr).1;have hnot:∀e∈oj.after,Region.binds .any e=true->e.on≠i:=λe he hb heq=>by
     have h1:=hall e he hb;rw[heq] at h1
     rcases Nat.lt_or_ge i listed.size with h'|h'
     · simp[h'] at h1 hiun;rw[hiun] at h1;cases h1
     · simp[Array.getElem?_eq_none h'] at h1
    have hap:=hfree j oj ho hji hjun hnot;obtain⟨p1,p2,p3⟩:=Oper.apart_spec hap;have hsj:=λcs b=>Region.noSelect_spec hsel j oj cs b ho;have hsi:=λcs b=>Region.noSelect_spec hsel i oi cs b hi;refine(qT.of_put hsj p1 h1).mono λu w' hk=>?_;have hD':Cls m D (listed.setIfInBounds j true) w':=by
     refine hk.1.imp id λ⟨k,hkm,hkl⟩=>⟨k,hkm,?_⟩;rw[Array.setIfInBounds_comm _ _ (Ne.symm hji),getD_set_ne false zot] at hkl;exact hkl
    have hfree':∀k ok,ops[k]?=some ok->k≠i->(listed.setIfInBounds j true).getD k true=false->
     (∀e∈ok.after,Region.binds .any e=true->e.on≠i)->oi.apart ops ok=true:=λk ok hk hki hun hno=>by
     refine hfree k ok hk hki ?_ hno
     by_cases hjk:j=k
     · subst hjk;exact hjun
     · rw[getD_set_ne true hjk] at hun;exact hun
    refine⟨hD',ih _ _ w' hD' hfree' (ready_mono hr (Ne.symm hji)) (λw''=>(hy w'').put hsi p3) ?_⟩;rw[Array.setIfInBounds_comm _ _ hji,<-Act.put_comm a v u p2];exact hk.2
def rem(ops:Array Oper)(listed:Array Bool):Nat:=((List.range ops.size).filter λi=>!listed.getD i true).length
theorem lY{listed:Array Bool}{i:Nat}(hi:i<ops.size)(hl:listed.getD i true=false):rem ops (listed.setIfInBounds i true)<rem ops listed:=by
 unfold rem;have C:((List.range ops.size).filter λj=>!(listed.setIfInBounds i true).getD j true)=((List.range ops.size).filter λj=>!listed.getD j true).filter λj=>j != i:=by
  rw[List.filter_filter];refine List.filter_congr λj _=>?_
  by_cases hj:j=i
  · subst hj
    have D:j<listed.size:=by
     rcases Nat.lt_or_ge j listed.size with h'|h'
     · exact h'
     · simp[Array.getElem?_eq_none h'] at hl
    simp[D]
  · rw[getD_set_ne true (Ne.symm hj)]
    simp[hj]
 rw[C];refine List.length_filter_lt_length_iff_exists.2 ⟨i,?_,by simp⟩;simp only[List.mem_filter,zog,hi,true_and,hl,Bool.not_false]
theorem mC{listed:Array Bool}(h:rem ops listed=0):Region.ready .any ops listed=[]:=by
 rw[List.eq_nil_iff_forall_not_mem];intro i hi;obtain⟨h1,o,C,_⟩:=mem_ready.1 hi;have:=lY (ops:=ops) (Array.getElem?_eq_some_iff.1 C).1 h1;omega
end
inductive Kd where
 |q|a|c|b(j:Nat)|t|p|d(i2 j:Nat)|m(A B:List Nat)|x(Qs A B:List Nat)
section yET
variable (P:Program)(n:Nat)(w0:World)(h0:Mem)(ops:Array Oper)(Q:Exit->Act->World->Prop)(R:List Res)
def zOR(e:List (Nat×Value))(d:Option Tmp)(v:Value):List (Nat×Value):=
 match d with
 |some d=>(d,v)::e
 |none=>e
def OpQ(o:Oper)(e:List (Nat×Value))(h:Mem)(v:Value):Prop:=
 (∃d,o.dst=some d/\d<n)/\∀h' L' a w,MLe h h'->(∀r∈R,r∈L')->Env n e a->St w0 h0 L' h' w->nW P ops o a w v
def OpP(o:Oper)(e:List (Nat×Value))(v:Value):Prop:=
 (∃d,o.dst=some d/\d<n)/\∀a w,Env n e a->nW P ops o a w v
def Next(e:List (Nat×Value))(L X:List Res)(h:Mem)(o:Oper)(W:List (Nat×Value)->List Res->Mem->Prop)(v:Value)(w:World):Prop:=
 (∀d,o.dst=some d->d<n)/\∃L' h',MLe h h'/\((∀r∈R,r∈L)->∀r∈R,r∈L')/\St w0 h0 (L'++X) h' w/\W (zOR e o.dst v) L' h'
def kB(o:Oper)(e:List (Nat×Value))(L:List Res)(h:Mem)(W:List (Nat×Value)->List Res->Mem->Prop):Prop:=
 ∀X a w,Env n e a->St w0 h0 (L++X) h w->qT P ops o a w (Next n w0 h0 R e L X h o W)
def yJN(o:Oper)(e:List (Nat×Value))(L:List Res)(h:Mem)(W:List (Nat×Value)->List Res->Mem->Prop):Prop:=
 ∀a w,Env n e a->St w0 h0 L h w->qT P ops o a w λv w'=>(∀d,o.dst=some d->d<n)/\∃L' h',St w0 h0 L' h' w'/\W (zOR e o.dst v) L' h'
abbrev Als:=List (Nat×(Nat×TypeId×List Value))
def WM(K:List (Nat×Value)->List Res->Mem->Prop):Nat->List Nat->List Nat->List (Nat×Value)->List Res->Mem->Prop
  |_,[],[],e,L,h=>K e L h
  |0,_,_,_,_,_=>False
  |k+1,i::A,[],e,L,h=>kB P n w0 h0 ops R (ops.getD i default) e L h (WM K k A [])
  |k+1,[],j::B,e,L,h=>kB P n w0 h0 ops R (ops.getD j default) e L h (WM K k [] B)
  |k+1,i::A,j::B,e,L,h=>kB P n w0 h0 ops R (ops.getD i default) e L h (WM K k A (j::B))/\kB P n w0 h0 ops R (ops.getD j default) e L h (WM K k (i::A) B)
def SQ(i:Nat)(e:List (Nat×Value))(L:List Res)(h:Mem)(K:List (Nat×Value)->List Res->Mem->Prop):Prop:=∃v,OpQ P n w0 h0 ops R (ops.getD i default) e h v/\K (zOR e (ops.getD i default).dst v) L h
def WX(Qs:List Nat)(K:List (Nat×Value)->List Res->Mem->Prop):Nat->List Nat->List Nat->List (Nat×Value)->List Res->Mem->Prop
  |_,[],[],e,L,h=>K e L h
  |0,_,_,_,_,_=>False
  |k+1,i::A,[],e,L,h=>bif Qs.contains i then SQ P n w0 h0 ops R i e L h (WX Qs K k A []) else kB P n w0 h0 ops R (ops.getD i default) e L h (WX Qs K k A [])
  |k+1,[],j::B,e,L,h=>bif Qs.contains j then SQ P n w0 h0 ops R j e L h (WX Qs K k [] B) else kB P n w0 h0 ops R (ops.getD j default) e L h (WX Qs K k [] B)
  |k+1,i::A,j::B,e,L,h=>bif Qs.contains i then SQ P n w0 h0 ops R i e L h (WX Qs K k A (j::B)) else bif Qs.contains j then SQ P n w0 h0 ops R j e L h (WX Qs K k (i::A) B)
    else kB P n w0 h0 ops R (ops.getD i default) e L h (WX Qs K k A (j::B))/\kB P n w0 h0 ops R (ops.getD j default) e L h (WX Qs K k (i::A) B)
def zT4:Op->Option Nat
  | .buildSlice _ len _=>some len
  |_=>none
def zLI(o:Op)(b:Nat):Value:=
 match zT4 o with
 |none=>.pointer (some ⟨b,0,none⟩)
 |some len=>.slice (some ⟨b,0,none⟩) len len
def W(al:Als):List (Nat×Kd)->List (Nat×Value)->List Res->Mem->Prop
  |[],e,L,h=>GQ n w0 h0 Q .normal e L h
  |(i,.q)::r,e,L,h=>∃v,OpQ P n w0 h0 ops R (ops.getD i default) e h v/\W al r (zOR e (ops.getD i default).dst v) L h
  |(i,.a)::r,e,L,h=>∀d E cs b,al.lookup i=some (d,E,cs)->match zT4 (ops.getD i default).op with
   |none=>W al r ((d,.pointer (some ⟨b,0,none⟩))::e) (.blk b (.cells cs.toArray E)::L) h
   |some len=>∀h',MLe h h'->Sl h' 1 (.slice (some ⟨b,0,none⟩) len len) len cs->W al r ((d,.slice (some ⟨b,0,none⟩) len len)::e) L h'
  |(i,.c)::r,e,L,h=>kB P n w0 h0 ops R (ops.getD i default) e L h (W al r)
  |(i,.b j)::r,e,L,h=>kB P n w0 h0 ops R (ops.getD i default) e L h (λe L h=>kB P n w0 h0 ops R (ops.getD j default) e L h (W al r))/\
   kB P n w0 h0 ops R (ops.getD j default) e L h (λe L h=>kB P n w0 h0 ops R (ops.getD i default) e L h (W al r))
  |(i,.t)::r,e,L,h=>yJN P n w0 h0 ops (ops.getD i default) e L h (W al r)
  |(i,.p)::r,e,L,h=>∃v,OpP P n ops (ops.getD i default) e v/\W al r (zOR e (ops.getD i default).dst v) L h
  |(i,.d i2 j)::r,e,L,h=>
   kB P n w0 h0 ops R (ops.getD i default) e L h (λe L h=>
    kB P n w0 h0 ops R (ops.getD i2 default) e L h (λe L h=>kB P n w0 h0 ops R (ops.getD j default) e L h (W al r))/\
    kB P n w0 h0 ops R (ops.getD j default) e L h (λe L h=>kB P n w0 h0 ops R (ops.getD i2 default) e L h (W al r)))/\
   kB P n w0 h0 ops R (ops.getD j default) e L h (λe L h=>kB P n w0 h0 ops R (ops.getD i default) e L h (λe L h=>kB P n w0 h0 ops R (ops.getD i2 default) e L h (W al r)))
  |(_,.m A B)::r,e,L,h=>WM P n w0 h0 ops R (W al r) (A.length+B.length) A B e L h
  |(_,.x Qs A B)::r,e,L,h=>WX P n w0 h0 ops R Qs (W al r) (A.length+B.length) A B e L h
end yET
def setAll(b:Array Bool)(l:List Nat):Array Bool:=l.foldl (λb i=>b.setIfInBounds i true) b
def zEA(ops:Array Oper)(m:Nat)(pend:List Nat)(K:Array Bool->Bool):Nat->List Nat->List Nat->Array Bool->Bool
  |_,[],[],base=>K base
  |0,_,_,_=>false
  |k+1,i::A,[],base=>(decide (i<m)&&!pend.contains i)&&(Region.ready .any ops (setAll base pend)==[i])&&zEA ops m pend K k A [] (base.setIfInBounds i true)
  |k+1,[],j::B,base=>(decide (j<m)&&!pend.contains j)&&(Region.ready .any ops (setAll base pend)==[j])&&zEA ops m pend K k [] B (base.setIfInBounds j true)
  |k+1,i::A,j::B,base=>(decide (i<m)&&!pend.contains i)&&(decide (j<m)&&!pend.contains j)&&decide (i≠j)&&(Region.ready .any ops (setAll base pend)==[i,j])&&
    zEA ops m pend K k A (j::B) (base.setIfInBounds i true)&&zEA ops m pend K k (i::A) B (base.setIfInBounds j true)
def zNX(ops:Array Oper)(m:Nat)(pend:List Nat)(i:Nat)(base:Array Bool):Bool:=decide (i<m)&&(Region.ready .any ops base).contains i&&Region.free .any ops base i&&!pend.contains i&&((List.range ops.size).all λk=>decide (k<m)||zDI ops k i)
def mP(ops:Array Oper)(m:Nat)(pend:List Nat)(Qs:List Nat)(K:Array Bool->Bool):Nat->List Nat->List Nat->Array Bool->Bool
  |_,[],[],base=>K base
  |0,_,_,_=>false
  |k+1,i::A,[],base=>bif Qs.contains i then zNX ops m pend i base&&mP ops m pend Qs K k A [] (base.setIfInBounds i true) else(decide (i<m)&&!pend.contains i)&&(Region.ready .any ops (setAll base pend)==[i])&&mP ops m pend Qs K k A [] (base.setIfInBounds i true)
  |k+1,[],j::B,base=>bif Qs.contains j then zNX ops m pend j base&&mP ops m pend Qs K k [] B (base.setIfInBounds j true) else(decide (j<m)&&!pend.contains j)&&(Region.ready .any ops (setAll base pend)==[j])&&mP ops m pend Qs K k [] B (base.setIfInBounds j true)
  |k+1,i::A,j::B,base=>bif Qs.contains i then zNX ops m pend i base&&mP ops m pend Qs K k A (j::B) (base.setIfInBounds i true) else bif Qs.contains j then zNX ops m pend j base&&mP ops m pend Qs K k (i::A) B (base.setIfInBounds j true)
    else(decide (i<m)&&!pend.contains i)&&(decide (j<m)&&!pend.contains j)&&decide (i≠j)&&(Region.ready .any ops (setAll base pend)==[i,j]||Region.ready .any ops (setAll base pend)==[j,i])&&
    mP ops m pend Qs K k A (j::B) (base.setIfInBounds i true)&&mP ops m pend Qs K k (i::A) B (base.setIfInBounds j true)
def chk(ops:Array Oper)(m:Nat):List (Nat×Kd)->Array Bool->List Nat->Bool
  |[],base,pend=>pend.isEmpty&&(Region.ready .any ops base).isEmpty
  |(i,.q)::r,base,pend=>decide (i<m)&&(Region.ready .any ops base).contains i&&Region.free .any ops base i&&!pend.contains i&&
     ((List.range ops.size).all λk=>decide (k<m)||zDI ops k i)&&chk ops m r (base.setIfInBounds i true) pend
  |(i,.a)::r,base,pend=>pend.contains i&&(Region.ready .any ops (setAll base (pend.filter (· != i)))==[i])&&chk ops m r (base.setIfInBounds i true) (pend.filter (· != i))
  |(i,.c)::r,base,pend=>decide (i<m)&&!pend.contains i&&(Region.ready .any ops (setAll base pend)==[i])&&chk ops m r (base.setIfInBounds i true) pend
  |(i,.b j)::r,base,pend=>decide (i<m)&&decide (j<m)&&!pend.contains i&&!pend.contains j&&decide (i≠j)&&(Region.ready .any ops (setAll base pend)==[i,j])&&
     (Region.ready .any ops (setAll (base.setIfInBounds i true) pend)==[j])&&(Region.ready .any ops (setAll (base.setIfInBounds j true) pend)==[i])&&chk ops m r ((base.setIfInBounds i true).setIfInBounds j true) pend
  |(i,.t)::r,base,pend=>pend.isEmpty&&(r.all λx=>match x.2 with| .t=>true|_=>false)&&decide (m<=i)&&(Region.ready .any ops base==[i])&&chk ops m r (base.setIfInBounds i true) []
  |(i,.p)::r,base,pend=>decide (i<m)&&(Region.ready .any ops base).contains i&&Region.free .any ops base i&&!pend.contains i&&chk ops m r (base.setIfInBounds i true) pend
  |(i,.d i2 j)::r,base,pend=>(decide (i<m)&&decide (i2<m)&&decide (j<m)&&!pend.contains i&&!pend.contains i2&&!pend.contains j)&&(decide (i≠i2)&&decide (i≠j)&&decide (i2≠j))&&
     (Region.ready .any ops (setAll base pend)==[i,j])&&(Region.ready .any ops (setAll (base.setIfInBounds i true) pend)==[i2,j])&&(Region.ready .any ops (setAll (base.setIfInBounds j true) pend)==[i])&&
     (Region.ready .any ops (setAll ((base.setIfInBounds i true).setIfInBounds i2 true) pend)==[j])&&(Region.ready .any ops (setAll ((base.setIfInBounds i true).setIfInBounds j true) pend)==[i2])&&
     chk ops m r (((base.setIfInBounds i true).setIfInBounds i2 true).setIfInBounds j true) pend
  |(_,.m A B)::r,base,pend=>zEA ops m pend (λbase=>chk ops m r base pend) (A.length+B.length) A B base
  |(_,.x Qs A B)::r,base,pend=>mP ops m pend Qs (λbase=>chk ops m r base pend) (A.length+B.length) A B base
def cJ(ops:Array Oper)(al:Als):Bool:=
 al.all λx=>((ops.getD x.1 default).after.all λe=>!Region.binds .any e)&&decide (x.1<ops.size)&&(ops.getD x.1 default).guard.isNone&&(ops.getD x.1 default).dst==some x.2.1&&
   (List.range ops.size).all λk=>k==x.1||(ops.getD k default).dst != some x.2.1
section sound
variable {P:Program}{n:Nat}{w0:World}{h0:Mem}{ops:Array Oper}{Q:Exit->Act->World->Prop}{R:List Res}{al:Als}{m:Nat}
theorem St.perm{L L':List Res}{h:Mem}{w:World}(s:St w0 h0 L h w)(hp:L.Perm L'):St w0 h0 L' h w:=
 ⟨s.below,s.le,s.sub,s.fresh,λr hr=>s.ok r (hp.mem_iff.2 hr),λr hr=>s.own r (hp.mem_iff.2 hr),(hp.pairwise_iff λh b hx hy=>h b hy hx).1 s.apart⟩
theorem lV(b:Array Bool)(l:List Nat):(setAll b l).size=b.size:=by
 induction l generalizing b with
 |nil=>rfl
 |cons i l ih=>simp only[setAll,List.foldl_cons] at ih ⊢;rw[ih];simp
theorem sP(b:Array Bool)(l:List Nat)(k:Nat):(setAll b l)[k]?=if k∈l/\k<b.size then some true else b[k]?:=by
 induction l generalizing b with
 |nil=>simp[setAll]
 |cons i l ih=>
  have:=ih (b.setIfInBounds i true);simp only[setAll,List.foldl_cons] at this ⊢;rw[this];simp only[Array.size_setIfInBounds,Array.getElem?_setIfInBounds,List.mem_cons]
  by_cases hk:k<b.size<;>by_cases hi:i=k<;>by_cases hl:k∈l<;>simp_all
  all_goals omega
def Rel(ops:Array Oper)(base:Array Bool)(X:List Nat)(listed:Array Bool):Prop:=base.size=ops.size/\listed=setAll base X
theorem Rel.unlisted{base listed:Array Bool}{X:List Nat}(hr:Rel ops base X listed)(k:Nat):listed.getD k true=false↔base.getD k true=false/\k ∉ X:=by
 obtain⟨h1,rfl⟩:=hr;simp only[Array.getD_eq_getD_getElem?,sP]
 by_cases hk:k<base.size
 · by_cases hx:k∈X<;>simp[hx,hk]
 · simp[hk]
theorem Rel.listed{base listed:Array Bool}{X:List Nat}(hr:Rel ops base X listed)(k:Nat):listed.getD k false=true↔(base.getD k false=true\/(k∈X/\k<ops.size)):=by
 obtain⟨h1,rfl⟩:=hr;simp only[Array.getD_eq_getD_getElem?,sP]
 by_cases hk:k<base.size
 · have C:k<ops.size:=by omega
   by_cases hx:k∈X<;>simp[hx,hk,C]
 · have C:¬k<ops.size:=by omega
   simp[hk,C]
theorem rV{base:Array Bool}{X Y:List Nat}{k:Nat}(hb:base.size=ops.size)(hk:k∈Region.ready .any ops (setAll base X))(hXY:∀x∈X,x∈Y)(hkY:k ∉ Y):k∈Region.ready .any ops (setAll base Y):=by
 rw[mem_ready] at hk ⊢;obtain⟨h1,o,D,h2⟩:=hk;refine⟨((Rel.unlisted ⟨hb,I⟩ k).2 ⟨((Rel.unlisted ⟨hb,I⟩ k).1 h1).1,hkY⟩),o,D,λe G C=>?_⟩;have:=(Rel.listed (ops:=ops) ⟨hb,I⟩ _).1 (h2 e G C);exact(Rel.listed ⟨hb,I⟩ _).2 (this.imp id λh=>⟨hXY _ h.1,h.2⟩)
theorem zLW(b:Array Bool)(i:Nat)(l:List Nat):(setAll b l).setIfInBounds i true=setAll b (i::l):=by
 apply Array.ext_getElem?
 intro k;rw[sP,Array.getElem?_setIfInBounds,lV,sP]
 by_cases hi:i=k
 · subst hi
   by_cases hk:i<b.size<;>simp[hk]
 · by_cases hk:k<b.size<;>by_cases hl:k∈l<;>simp[hi,hk,hl,Ne.symm hi]
theorem zOI(b:Array Bool)(i:Nat)(l:List Nat):setAll (b.setIfInBounds i true) l=(setAll b l).setIfInBounds i true:=by
 apply Array.ext_getElem?
 intro k;rw[sP,Array.getElem?_setIfInBounds,Array.getElem?_setIfInBounds,lV,sP,Array.size_setIfInBounds]
 by_cases hi:i=k
 · subst hi
   by_cases hk:i<b.size<;>by_cases hl:i∈l<;>simp[hk,hl]
 · by_cases hk:k<b.size<;>by_cases hl:k∈l<;>simp[hi,hk,hl]
def Dw(w0:World)(h0:Mem)(R:List Res)(h:Mem)(w:World):Prop:=∃L' h',MLe h h'/\(∀r∈R,r∈L')/\St w0 h0 L' h' w
theorem Dw.mono{h h':Mem}(hh:MLe h h'){w:World}(hd:Dw w0 h0 R h' w):Dw w0 h0 R h w:=
 let ⟨L',h2,a,b,c⟩:=hd
 ⟨L',h2,hh.trans a,b,c⟩
def jM(P:Program)(n:Nat)(ops:Array Oper)(al:Als):Prop:=∀x∈al,x.2.1<n/\(∀(a:Act) w,(execOp a.eval (ops.getD x.1 default)).run P w=.ok (.value (zLI (ops.getD x.1 default).op w.heap.size)) (w.alloc (.cells x.2.2.2.toArray x.2.2.1)))/\
 ∀len,zT4 (ops.getD x.1 default).op=some len->x.2.2.2.length=len/\len<=maxLen
def mT(al:Als)(X:List (Nat×Nat)):List Res:=X.map λp=>match al.lookup p.1 with|some (_,E,cs)=>.blk p.2 (.cells cs.toArray E)|none=>.blk p.2 default
structure Inv(P:Program)(n:Nat)(w0:World)(h0:Mem)(ops:Array Oper)(R:List Res)(al:Als)(base:Array Bool)(pend:List Nat)(e:List (Nat×Value))(L:List Res)(h:Mem)(X:List (Nat×Nat))(listed:Array Bool)(a:Act)(w:World):Prop where
 env:Env n e a
 st:St w0 h0 (L++mT al X) h w
 sub:∀r∈R,r∈L
 rel:Rel ops base (X.map (·.1)) listed
 xp:∀p∈X,p.1∈pend/\∃y,al.lookup p.1=some y/\a.tmps[y.1]?=some (zLI (ops.getD p.1 default).op p.2)
 nd:(X.map (·.1)).Nodup
 pe:∀i∈pend,∃y,al.lookup i=some y/\e.lookup y.1=none
 pb:∀i∈pend,base.getD i true=false
 cl:zAK ops listed
theorem zAE{al:Als}{i:Nat}{y:Nat×TypeId×List Value}(h:al.lookup i=some y):(i,y)∈al:=by
 induction al with
 |nil=>simp at h
 |cons x l ih=>
  obtain⟨k,z⟩:=x;simp only[List.lookup_cons] at h
  by_cases hk:i=k
  · subst hk;simp at h;subst h;simp
  · have:(i==k)=false:=by simpa using hk
    rw[this] at h;exact List.mem_cons_of_mem _ (ih h)
theorem pL(hca:cJ ops al=true){i:Nat}{y:Nat×TypeId×List Value}(h:al.lookup i=some y):
 (∀e∈(ops.getD i default).after,Region.binds .any e=false)/\i<ops.size/\(ops.getD i default).guard=none/\(ops.getD i default).dst=some y.1/\True/\
 ∀k,k<ops.size->k≠i->(ops.getD k default).dst≠some y.1:=by
 have D:=zAE h;unfold cJ at hca;have:=zob.1 hca _ D;simp only[Bool.and_eq_true,decide_eq_true_eq,beq_iff_eq,Array.all_eq_true',zob,zog,Bool.or_eq_true,bne_iff_ne,Bool.not_eq_true',Option.isNone_iff_eq_none] at this;obtain⟨⟨⟨⟨h1,h2⟩,h3⟩,J⟩,H⟩:=this;exact⟨h1,h2,h3,J,trivial,λk G C=>(H k G).resolve_left C⟩
theorem mL{i:Nat}(hi:i<ops.size):ops[i]?=some (ops.getD i default):=by
 simp[Array.getD_eq_getD_getElem?,hi]
theorem bK(hca:cJ ops al=true){base listed:Array Bool}{pend:List Nat}{e:List (Nat×Value)}{L:List Res}{h:Mem}{X:List (Nat×Nat)}{a:Act}{w:World}(I:Inv P n w0 h0 ops R al base pend e L h X listed a w){i:Nat}(hi:i∈pend)
    (hX:i ∉ X.map (·.1)):i∈Region.ready .any ops listed:=by
 obtain⟨y,hy,_⟩:=I.pe i hi;obtain⟨G,c2,_⟩:=pL hca hy;exact mem_ready.2 ⟨(I.rel.unlisted i).2 ⟨by
  have:=I.pb i hi;have H:=I.rel.1;simp only[Array.getD_eq_getD_getElem?] at this ⊢;rw[Array.getElem?_eq_getElem zot] at this ⊢
  simpa using this,hX⟩,_,mL c2,λe D C=>by rw[G e D] at C;cases C⟩
theorem yD2(hal:jM P n ops al)(hca:cJ ops al=true){base listed:Array Bool}{pend:List Nat}{e:List (Nat×Value)}{L:List Res}{h:Mem}{X:List (Nat×Nat)}{a:Act}{w:World}(I:Inv P n w0 h0 ops R al base pend e L h X listed a w){j:Nat}(hj:j∈pend)
    (hX:j ∉ X.map (·.1)):qT P ops (ops.getD j default) a w λv w'=>Dw w0 h0 R h w'/\∃b,Inv P n w0 h0 ops R al base pend e L h ((j,b)::X) (listed.setIfInBounds j true) (a.put (ops.getD j default).dst v) w':=by
 obtain⟨y,hy,ab⟩:=I.pe j hj;obtain⟨c1,c2,c3,Z,c5,c6⟩:=pL hca hy;obtain⟨hd,hz,_⟩:=hal _ (zAE hy);have C:=hz a w;simp only at C;unfold qT;rw[if_pos (by unfold Region.wanted;rw[c3]),C];have M:=I.st.alloc (.cells y.2.2.toArray y.2.1);have G:(.blk w.heap.size (.cells y.2.2.toArray y.2.1)::(L++mT al X)).Perm (L++mT al ((j,w.heap.size)::X)):=by
  have:mT al ((j,w.heap.size)::X)=.blk w.heap.size (.cells y.2.2.toArray y.2.1)::mT al X:=by
   simp only[mT,List.map_cons,hy]
  rw[this];exact List.perm_middle.symm
 refine⟨⟨_,h,MLe.refl h,λr hr=>?_,M⟩,w.heap.size,?_⟩
 · exact List.mem_cons_of_mem _ (List.mem_append_left _ (I.sub r hr))
 · have D:∀t,t≠y.1->(a.put (ops.getD j default).dst (zLI (ops.getD j default).op w.heap.size)).tmps[t]?=a.tmps[t]?:=by
    intro t J;rw[Z];simp only[Act.put];rw[Array.getElem?_setIfInBounds_ne (Ne.symm J)]
   refine⟨⟨I.env.defers|>λhh=>by rw[Z];exact hh,by rw[Z];simp[Act.put,I.env.size],λt v J=>?_⟩,M.perm G,I.sub,⟨I.rel.1,by rw[I.rel.2,zLW];rfl⟩,?_,?_,I.pe,I.pb,I.cl.set (bK hca I hj hX)⟩
   · have:t≠y.1:=λO=>by rw[O,ab] at J;cases J
     rw[D t this];exact I.env.get t v J
   · intro p U
     rcases List.mem_cons.1 U with rfl|U
     · refine⟨hj,y,hy,?_⟩
       rw[Z];simp[Act.put,I.env.size,hd]
     · obtain⟨h1,y',H,h2⟩:=I.xp p U
       refine⟨h1,y',H,?_⟩;have aa:p.1≠j:=λO=>hX (O▸List.mem_map_of_mem U);obtain⟨_,d2,_,d4,_,_⟩:=pL hca H;have:y'.1≠y.1:=λO=>c6 p.1 d2 aa (by rw[d4,O]);rw[D _ this];exact h2
   · simp only[List.map_cons,List.nodup_cons]
     exact⟨hX,I.nd⟩
def y8(P:Program)(n:Nat)(w0:World)(h0:Mem)(ops:Array Oper)(Q:Exit->Act->World->Prop)(R:List Res)(al:Als)(m:Nat)(base:Array Bool)(pend:List Nat)(e:List (Nat×Value))(L:List Res)(h:Mem):Prop:=
 ∀fuel X listed a w,Inv P n w0 h0 ops R al base pend e L h X listed a w->rem ops listed<=fuel->RA P ops (Cls m (Dw w0 h0 R h)) (λa w=>Q .normal a w) fuel listed a w
theorem zEI{listed:Array Bool}{i:Nat}(hi:i<ops.size)(hl:listed.getD i true=false):0<rem ops listed:=by
 have:=lY hi hl;omega
theorem mD{listed:Array Bool}{i:Nat}(h:i∈Region.ready .any ops listed):i<ops.size/\listed.getD i true=false:=
 let ⟨h1,_,ho,_⟩:=mem_ready.1 h
 ⟨(Array.getElem?_eq_some_iff.1 ho).1,h1⟩
theorem Inv.next(hca:cJ ops al=true){base listed:Array Bool}{pend:List Nat}{e:List (Nat×Value)}{L L':List Res}{h h':Mem}{X:List (Nat×Nat)}{a:Act}{w w':World}(I:Inv P n w0 h0 ops R al base pend e L h X listed a w){i:Nat}(hi:i<ops.size)(hir:i∈Region.ready .any ops listed)(hip:i ∉ pend)
    (hd:∀d,(ops.getD i default).dst=some d->d<n)(hR:∀r∈R,r∈L')(S:St w0 h0 (L'++mT al X) h' w')(v:Value):
    Inv P n w0 h0 ops R al (base.setIfInBounds i true) pend (zOR e (ops.getD i default).dst v) L' h' X (listed.setIfInBounds i true) (a.put (ops.getD i default).dst v) w':=by
 have G:∀k∈pend,∀y,al.lookup k=some y->(ops.getD i default).dst≠some y.1:=λk C y hy=>(pL hca hy).2.2.2.2.2 i hi (λD=>hip (by rw[D];exact C));refine⟨?_,S,hR,⟨by simpa using I.rel.1,by rw[I.rel.2,zOI]⟩,?_,I.nd,?_,?_,I.cl.set hir⟩
 · cases hdst:(ops.getD i default).dst with
   |none=>exact I.env
   |some d=>exact I.env.put (hd d hdst)
 · intro p J
   obtain⟨h1,y,hy,h2⟩:=I.xp p J;refine⟨h1,y,hy,?_⟩;have:=G p.1 h1 y hy
   cases hdst:(ops.getD i default).dst with
   |none=>exact h2
   |some d=>
    rw[hdst] at this;simp only[Act.put];rw[Array.getElem?_setIfInBounds_ne (λD=>this (by rw[D]))];exact h2
 · intro k C
   obtain⟨y,hy,H⟩:=I.pe k C;refine⟨y,hy,?_⟩;have:=G k C y hy
   cases hdst:(ops.getD i default).dst with
   |none=>exact H
   |some d=>
    rw[hdst] at this;simp only[zOR,List.lookup_cons];have h3:(y.1==d)=false:=by simp only[beq_eq_false_iff_ne];exactλD=>this (by rw[D])
    rw[h3];exact H
 · intro k C
   rw[getD_set_ne true (λD=>hip (by rw[D];exact C))];exact I.pb k C
theorem aS(hal:jM P n ops al)(hca:cJ ops al=true){base:Array Bool}{pend:List Nat}{e:List (Nat×Value)}{L:List Res}{h:Mem}(opts:List Nat)(ho:opts≠[])(hr:Region.ready .any ops (setAll base pend)=opts)
    (hop:∀i∈opts,i<m/\i ∉ pend)(W1:Nat->List (Nat×Value)->List Res->Mem->Prop)(hst:∀i∈opts,kB P n w0 h0 ops R (ops.getD i default) e L h (W1 i))
    (hgo:∀i∈opts,∀e' L' h',W1 i e' L' h'->y8 P n w0 h0 ops Q R al m (base.setIfInBounds i true) pend e' L' h'):y8 P n w0 h0 ops Q R al m base pend e L h:=by
 intro fuel
 induction fuel with
 |zero=>
  intro X listed a w I hrem
  exfalso
  have hnil:=mC (ops:=ops) (listed:=listed) zot
  by_cases hall:∃p∈pend,p ∉ X.map (·.1)
  · obtain⟨p,hp,hpX⟩:=hall
    have:=bK hca I hp hpX;rw[hnil] at this;cases this
  · obtain⟨i,hi⟩:=List.exists_mem_of_ne_nil _ ho
    have h1:i∈Region.ready .any ops (setAll base pend):=by rw[hr];exact hi
    have h2:=rV I.rel.1 h1 (Y:=X.map (·.1)) (λp hp=>Classical.byContradiction λhc=>hall ⟨p,hp,hc⟩) (λhiX=>by
     obtain⟨p,hp,rfl⟩:=List.mem_map.1 hiX;exact(hop _ hi).2 (I.xp p hp).1)
    rw[<-I.rel.2,hnil] at h2;cases h2
 |succ fuel ih=>
  intro X listed a w I hrem;have hne:Region.ready .any ops listed≠[]:=by
   by_cases hall:∃p∈pend,p ∉ X.map (·.1)
   · obtain⟨p,hp,hpX⟩:=hall
     have:=bK hca I hp hpX;intro hnil;rw[hnil] at this;cases this
   · obtain⟨i,hi⟩:=List.exists_mem_of_ne_nil _ ho
     have h1:i∈Region.ready .any ops (setAll base pend):=by rw[hr];exact hi
     have h2:=rV I.rel.1 h1 (Y:=X.map (·.1)) (λp hp=>Classical.byContradiction λhc=>hall ⟨p,hp,hc⟩) (λhiX=>by
      obtain⟨p,hp,rfl⟩:=List.mem_map.1 hiX;exact(hop _ hi).2 (I.xp p hp).1)
     rw[<-I.rel.2] at h2;intro hnil;rw[hnil] at h2;cases h2
  refine⟨λhnil=>absurd hnil hne,λj hj o hoj=>?_⟩;obtain⟨hjs,hjun⟩:=mD hj;have hjo:o=ops.getD j default:=by rw[mL hjs] at hoj;exact(Option.some.inj hoj).symm
  subst hjo;have hrem':=lY hjs hjun
  by_cases hjp:j∈pend
  · have hjX:=((I.rel.unlisted j).1 hjun).2
    refine(yD2 hal hca I hjp hjX).mono λv w' ⟨hD,b,I'⟩=>⟨.inl hD,ih _ _ _ _ I' zot⟩
  · have h1:j∈Region.ready .any ops (setAll base pend):=by
     rw[I.rel.2] at hj;exact rV I.rel.1 hj (λp hp=>by obtain⟨q,hq,rfl⟩:=List.mem_map.1 hp;exact(I.xp q hq).1) hjp
    rw[hr] at h1;refine(hst j h1 (mT al X) a w I.env I.st).mono λv w' ⟨hd,L',h',hh,hR0,S,hW⟩=>?_;have hR:=hR0 I.sub;refine⟨.inl ⟨_,h',hh,λr hr=>List.mem_append_left _ (hR r hr),S⟩,?_⟩;refine RA.mono (λl w hc=>hc.imp (Dw.mono hh) id) (hgo j h1 _ _ _ hW fuel X _ _ w' (I.next hca hjs hj hjp hd hR S v) zot)
theorem zI3(D:World->Prop):∀(ord:List (Nat×Kd)) (base:Array Bool) (e:List (Nat×Value)) (L:List Res) (h:Mem),(ord.all λx=>match x.2 with| .t=>true|_=>false)=true->chk ops m ord base []=true->
 W P n w0 h0 ops Q R al ord e L h->∀fuel a w,Env n e a->St w0 h0 L h w->base.size=ops.size->rem ops base<=fuel->RA P ops (Cls m D) (λa w=>Q .normal a w) fuel base a w
 |[],base,e,L,h,_,hc,hW,fuel,a,w,E,S,_,_=>by
  have hr:Region.ready .any ops base=[]:=by simpa[chk] using hc
  cases fuel with
  |zero=>exact⟨hr,hW a w E S⟩
  |succ fuel=>exact⟨λ_=>hW a w E S,λi hi=>by rw[hr] at hi;cases hi⟩
 |(i,.t)::r,base,e,L,h,ht,hc,hW,fuel,a,w,E,S,hs,hrem=>by
  simp only[chk,Bool.and_eq_true,beq_iff_eq,decide_eq_true_eq] at hc;obtain⟨⟨⟨⟨_,M⟩,U⟩,hr⟩,ab⟩:=hc;have aa:i∈Region.ready .any ops base:=by rw[hr];simp
  obtain⟨C,G⟩:=mD aa;have hp:=zEI C G
  cases fuel with
  |zero=>omega
  |succ fuel=>
   refine⟨λJ=>absurd (hr.symm.trans J) zo2,λj hj o H=>?_⟩;rw[hr] at hj;obtain rfl:j=i:=by simpa using hj
   have Z:o=ops.getD j default:=by rw[mL C] at H;exact(Option.some.inj H).symm
   subst Z;have O:=lY C G;refine(hW a w E S).mono λv w' ⟨hd,L',h',S',ac⟩=>⟨.inr ⟨j,U,?_⟩,?_⟩
   · simp[Array.getD_eq_getD_getElem?,hs,C]
   · refine zI3 D r _ _ L' h' M ab ac fuel _ w' ?_ S' (by simpa using hs) zot
     cases hdst:(ops.getD j default).dst with
     |none=>exact E
     |some d=>exact E.put (hd d hdst)
 |(_,.q)::_,_,_,_,_,ht,_,_,_,_,_,_,_,_,_=>by simp at ht
 |(_,.a)::_,_,_,_,_,ht,_,_,_,_,_,_,_,_,_=>by simp at ht
 |(_,.c)::_,_,_,_,_,ht,_,_,_,_,_,_,_,_,_=>by simp at ht
 |(_,.b _)::_,_,_,_,_,ht,_,_,_,_,_,_,_,_,_=>by simp at ht
 |(_,.p)::_,_,_,_,_,ht,_,_,_,_,_,_,_,_,_=>by simp at ht
 |(_,.d _ _)::_,_,_,_,_,ht,_,_,_,_,_,_,_,_,_=>by simp at ht
theorem bX(hal:jM P n ops al)(hca:cJ ops al=true){base:Array Bool}{pend:List Nat}{e:List (Nat×Value)}{L:List Res}{h:Mem}{k:Nat}{K:List (Nat×Value)->List Res->Mem->Prop}(hkm:k<m)(hkp:k ∉ pend)(hr:Region.ready .any ops (setAll base pend)=[k])
    (hK:∀e L h,K e L h->y8 P n w0 h0 ops Q R al m (base.setIfInBounds k true) pend e L h)(hW:kB P n w0 h0 ops R (ops.getD k default) e L h K):y8 P n w0 h0 ops Q R al m base pend e L h:=by
 refine aS hal hca [k] zo2 hr ?_ (λ_=>K) ?_ ?_
 · intro l C
   obtain rfl:l=k:=by simpa using C
   exact⟨hkm,hkp⟩
 · intro l C
   obtain rfl:l=k:=by simpa using C
   exact hW
 · intro l C G L' h' D
   obtain rfl:l=k:=by simpa using C
   exact hK G L' h' D
theorem zBW(hal:jM P n ops al)(hca:cJ ops al=true){base:Array Bool}{pend:List Nat}{e:List (Nat×Value)}{L:List Res}{h:Mem}{k l:Nat}{K K':List (Nat×Value)->List Res->Mem->Prop}(hkm:k<m)(hkp:k ∉ pend)(hlm:l<m)(hlp:l ∉ pend)(hkl:k≠l)(hr:Region.ready .any ops (setAll base pend)=[k,l])
    (hK:∀e L h,K e L h->y8 P n w0 h0 ops Q R al m (base.setIfInBounds k true) pend e L h)(hK':∀e L h,K' e L h->y8 P n w0 h0 ops Q R al m (base.setIfInBounds l true) pend e L h)
    (hW:kB P n w0 h0 ops R (ops.getD k default) e L h K)(hW':kB P n w0 h0 ops R (ops.getD l default) e L h K'):y8 P n w0 h0 ops Q R al m base pend e L h:=by
 refine aS hal hca [k,l] zo2 hr ?_ (λx=>if x=k then K else K') ?_ ?_
 · intro x hx
   rcases List.mem_cons.1 hx with rfl|hx
   · exact⟨hkm,hkp⟩
   · obtain rfl:x=l:=by simpa using hx
     exact⟨hlm,hlp⟩
 · intro x hx
   rcases List.mem_cons.1 hx with rfl|hx
   · simp only[if_true];exact hW
   · obtain rfl:x=l:=by simpa using hx
     simp only[if_neg (Ne.symm hkl)];exact hW'
 · intro x hx D L' h' C
   rcases List.mem_cons.1 hx with rfl|hx
   · simp only[if_true] at C;exact hK D L' h' C
   · obtain rfl:x=l:=by simpa using hx
     simp only[if_neg (Ne.symm hkl)] at C;exact hK' D L' h' C
theorem yHZ(hal:jM P n ops al)(hca:cJ ops al=true){pend:List Nat}{KW:List (Nat×Value)->List Res->Mem->Prop}{KB:Array Bool->Bool}
    (fin:∀base e L h,KB base=true->(∀k,m<=k->base.getD k false=false)->KW e L h->y8 P n w0 h0 ops Q R al m base pend e L h):∀(k:Nat) (A B:List Nat) (base:Array Bool) (e:List (Nat×Value)) (L:List Res) (h:Mem),
    zEA ops m pend KB k A B base=true->(∀k,m<=k->base.getD k false=false)->WM P n w0 h0 ops R KW k A B e L h->y8 P n w0 h0 ops Q R al m base pend e L h:=by
 have nx:∀(base:Array Bool) (i:Nat),i<m->(∀k,m<=k->base.getD k false=false)->∀k,m<=k->(base.setIfInBounds i true).getD k false=false:=λbase i hi hb k hk=>by
  rw[getD_set_ne false zot];exact hb k hk
 intro k
 induction k with
 |zero=>
  intro A B base e L h hc hb hw
  cases A<;>cases B
  · exact fin base e L h (by simpa[zEA] using hc) hb (by simpa[WM] using hw)
  all_goals (simp[zEA] at hc)
 |succ k ih=>
  intro A B base e L h hc hb hw
  cases A with
  |nil=>
   cases B with
   |nil=>exact fin base e L h (by simpa[zEA] using hc) hb (by simpa[WM] using hw)
   |cons j B=>
    simp only[zEA,Bool.and_eq_true,beq_iff_eq,decide_eq_true_eq,Bool.not_eq_true',List.contains_eq_mem,decide_eq_false_iff_not] at hc;obtain⟨⟨⟨m1,p1⟩,r1⟩,hc'⟩:=hc;exact bX hal hca m1 p1 r1 (λe L h hw'=>ih [] B _ e L h hc' (nx base j m1 hb) hw') (by simpa only[WM] using hw)
  |cons i A=>
   cases B with
   |nil=>
    simp only[zEA,Bool.and_eq_true,beq_iff_eq,decide_eq_true_eq,Bool.not_eq_true',List.contains_eq_mem,decide_eq_false_iff_not] at hc;obtain⟨⟨⟨m1,p1⟩,r1⟩,hc'⟩:=hc;exact bX hal hca m1 p1 r1 (λe L h hw'=>ih A [] _ e L h hc' (nx base i m1 hb) hw') (by simpa only[WM] using hw)
   |cons j B=>
    simp only[zEA,Bool.and_eq_true,beq_iff_eq,decide_eq_true_eq,Bool.not_eq_true',List.contains_eq_mem,decide_eq_false_iff_not] at hc;obtain⟨⟨⟨⟨⟨⟨m1,p1⟩,⟨m2,p2⟩⟩,n12⟩,r1⟩,hc1⟩,hc2⟩:=hc;simp only[WM] at hw;exact zBW hal hca m1 p1 m2 p2 n12 r1 (λe L h hw'=>ih A (j::B) _ e L h hc1 (nx base i m1 hb) hw') (λe L h hw'=>ih (i::A) B _ e L h hc2 (nx base j m2 hb) hw') hw.1 hw.2
theorem yEK{base listed:Array Bool}{e:List (Nat×Value)}{L:List Res}{h:Mem}{X:List (Nat×Nat)}{a:Act}{w:World}(I:Inv P n w0 h0 ops R al base [] e L h X listed a w):X=[]:=by
 cases X with
 |nil=>rfl
 |cons p X=>exact absurd (I.xp p zo2).1 zo2
theorem zV4(hal:jM P n ops al)(hca:cJ ops al=true){i:Nat}(r:List (Nat×Kd))(base:Array Bool)(pend:List Nat)(e:List (Nat×Value))(L:List Res)(h:Mem)
  (IH:∀(base:Array Bool) (pend:List Nat) (e:List (Nat×Value)) (L:List Res) (h:Mem),chk ops m r base pend=true->(∀k,m<=k->base.getD k false=false)->(∀i∈pend,i<m)->W P n w0 h0 ops Q R al r e L h->y8 P n w0 h0 ops Q R al m base pend e L h)
  (hc':chk ops m r (base.setIfInBounds i true) (pend.filter (· != i))=true)(hip:i∈pend)(hnl:∀k,m<=k->base.getD k false=false)(hpm:∀i∈pend,i<m)(hW:W P n w0 h0 ops Q R al ((i,.a)::r) e L h)
    (fuel:Nat)(X:List (Nat×Nat))(listed:Array Bool)(a:Act)(w:World)(I:Inv P n w0 h0 ops R al base pend e L h X listed a w)(hrem:rem ops listed<=fuel)(hiX:i∈X.map (·.1)):RA P ops (Cls m (Dw w0 h0 R h)) (λa w=>Q .normal a w) fuel listed a w:=by
  obtain⟨p,hp,ae⟩:=List.mem_map.1 hiX;obtain⟨H,G,rfl⟩:=List.append_of_mem hp;obtain⟨_,y,hy,U⟩:=I.xp p hp;subst ae;have J:=I.nd;simp only[List.map_append,List.map_cons] at J;rw[List.nodup_append] at J;obtain⟨n1,n2,n3⟩:=J;rw[List.nodup_cons] at n2;have aa:∀q∈H++G,q.1≠p.1:=by
   intro q D he
   rcases List.mem_append.1 D with D|D
   · exact n3 q.1 (List.mem_map_of_mem D) p.1 zo2 he
   · exact n2.1 (he▸List.mem_map_of_mem D)
  have e1:mT al (H++p::G)=mT al H++.blk p.2 (.cells y.2.2.toArray y.2.1)::mT al G:=by
   simp only[mT,List.map_append,List.map_cons,hy]
  have e2:mT al (H++G)=mT al H++mT al G:=by simp[mT]
  have ac:∀(L2:List Res) (h2:Mem),MLe h h2->(∀r∈R,r∈L2)->St w0 h0 (L2++mT al (H++G)) h2 w->W P n w0 h0 ops Q R al r ((y.1,zLI (ops.getD p.1 default).op p.2)::e) L2 h2->
   RA P ops (Cls m (Dw w0 h0 R h)) (λa w=>Q .normal a w) fuel listed a w:=by
   intro L2 h2 ak an S2 am;refine RA.mono (λl w hc=>hc.imp (Dw.mono ak) id) (IH (base.setIfInBounds p.1 true) (pend.filter (· != p.1)) ((y.1,zLI (ops.getD p.1 default).op p.2)::e) L2 h2 hc' (λk hk=>by
    have:=hpm _ hip;rw[getD_set_ne false zot];exact hnl k hk) (λj O=>hpm j (List.mem_filter.1 O).1) am fuel (H++G) listed a w ?_ hrem)
   refine⟨⟨I.env.defers,I.env.size,λt v Z=>?_⟩,S2,an,⟨by simpa using I.rel.1,?_⟩,?_,?_,?_,?_,I.cl⟩
   · simp only[List.lookup_cons] at Z
     by_cases htd:t=y.1
     · subst htd
       simp at Z U;rw[<-Z];exact U
     · have:(t==y.1)=false:=by simpa using htd
       rw[this] at Z;exact I.env.get t v Z
   · rw[I.rel.2]
     apply Array.ext_getElem?
     intro k;rw[sP,sP,Array.size_setIfInBounds,Array.getElem?_setIfInBounds]
     by_cases hk:k<base.size
     · by_cases hkp:p.1=k
       · subst hkp;simp[hk]
       · simp only[List.map_append,List.map_cons,List.mem_append,List.mem_cons,hk,hkp,Ne.symm hkp,false_or,if_false,and_true]
     · simp[hk]
       omega
   · intro q D
     have ad:q∈H++p::G:=by
      rcases List.mem_append.1 D with h1|h1
      · exact List.mem_append_left _ h1
      · exact List.mem_append_right _ (List.mem_cons_of_mem _ h1)
     obtain⟨h1,h2⟩:=I.xp q ad;exact⟨List.mem_filter.2 ⟨h1,by simpa using aa q D⟩,h2⟩
   · simp only[List.map_append]
     rw[List.nodup_append];exact⟨n1,n2.2,λx hx y hy=>n3 x hx y (List.mem_cons_of_mem _ hy)⟩
   · intro j O
     obtain⟨h1,h2⟩:=List.mem_filter.1 O;obtain⟨z,hz,hl⟩:=I.pe j h1;refine⟨z,hz,?_⟩;simp only[List.lookup_cons];have ah:(z.1==y.1)=false:=by
      simp only[beq_eq_false_iff_ne];intro he;obtain⟨_,d2,_,d4,_,_⟩:=pL hca hz;have M:j≠p.1:=by simpa using h2
      exact(pL hca hy).2.2.2.2.2 j d2 M (by rw[d4,he])
     rw[ah];exact hl
   · intro j O
     obtain⟨h1,h2⟩:=List.mem_filter.1 O;have M:j≠p.1:=by simpa using h2
     rw[getD_set_ne true (Ne.symm M)];exact I.pb j h1
  have C:=I.st;rw[e1] at C;have hw:=hW y.1 y.2.1 y.2.2 p.2 hy
  cases hs:zT4 (ops.getD p.1 default).op with
  |none=>
   rw[hs] at hw;refine ac _ h (MLe.refl h) (λr hr=>List.mem_cons_of_mem _ (I.sub r hr)) (C.perm ?_) (by unfold zLI;rw[hs];exact hw);rw[e2,<-List.append_assoc];refine List.perm_middle.trans ?_;simp only[List.cons_append,List.append_assoc];exact List.Perm.refl _
  |some len=>
   rw[hs] at hw;have hm:w.heap[p.2]?=some (.cells y.2.2.toArray y.2.1):=C.ok (.blk p.2 (.cells y.2.2.toArray y.2.1)) zo2;rw[<-List.append_assoc] at C;obtain⟨S2,ab⟩:=C.freeze (b:=p.2) rfl hm;obtain⟨aj,ai⟩:=(hal _ (zAE hy)).2.2 len hs;simp only at aj;refine ac L _ ab I.sub (by rw[e2,<-List.append_assoc];exact S2) (by unfold zLI;rw[hs];exact hw _ ab ⟨_,_,rfl,Nat.le_refl _,ai,by omega,λj O=>⟨p.2,0,rfl,by simp[cell]⟩⟩)
theorem zKY(hsel:Region.noSelect ops=true)(hca:cJ ops al=true){pend:List Nat}{i:Nat}{base:Array Bool}{e:List (Nat×Value)}{L:List Res}{h:Mem}{K:List (Nat×Value)->List Res->Mem->Prop}(hpm:∀i∈pend,i<m)(hc:zNX ops m pend i base=true)(hnl:∀k,m<=k->base.getD k false=false)
    (hW:SQ P n w0 h0 ops R i e L h K)(fin:∀e L h,K e L h->y8 P n w0 h0 ops Q R al m (base.setIfInBounds i true) pend e L h):y8 P n w0 h0 ops Q R al m base pend e L h:=by
 intro C X listed a w I ao;simp only[zNX,Bool.and_eq_true,decide_eq_true_eq,Bool.not_eq_true',List.contains_eq_mem,decide_eq_false_iff_not] at hc;obtain⟨⟨⟨⟨aj,ai⟩,M⟩,O⟩,J⟩:=hc;obtain⟨v,⟨⟨d,hd,am⟩,hq⟩,an⟩:=hW;have ak:i ∉ X.map (·.1):=λhx=>by
  obtain⟨p,Z,rfl⟩:=List.mem_map.1 hx;exact O (I.xp p Z).1
 have G:i∈Region.ready .any ops listed:=by
  have h1:i∈Region.ready .any ops (setAll base []):=by simpa[setAll] using ai
  rw[I.rel.2];exact rV I.rel.1 h1 nX ak
 obtain⟨D,H⟩:=mD G;have Z:=zEI D H;have ab:=lY D H
 cases C with
 |zero=>omega
 |succ C=>
  have hD:Dw w0 h0 R h w:=⟨_,h,MLe.refl h,λr hr=>List.mem_append_left _ (I.sub r hr),I.st⟩;refine RA.first (mL D) hsel aj ?_ C listed a w I.cl (by rw[I.rel.2,lV];exact I.rel.1) hD ?_ ?_ G (λw' ⟨L',h',a1,a2,a3⟩=>hq h' L' a w' a1 a2 I.env a3) ?_
  · intro k hk ae
    have:=zob.1 J k (by simpa using ae);simp only[Bool.or_eq_true,decide_eq_true_eq] at this;exact this.resolve_left zot
  · intro k hk
    cases hl:listed.getD k false with
    |false=>rfl
    |true=>
     rcases(I.rel.listed k).1 hl with h1|⟨h1,_⟩
     · rw[hnl k hk] at h1;cases h1
     · obtain⟨p,Z,rfl⟩:=List.mem_map.1 h1
       have:=hpm _ (I.xp p Z).1;omega
  · intro j oj ac ah aa ad
    exact Region.free_spec (mL D) M j oj ac ah ((I.rel.unlisted j).1 aa).1 ad
  · refine fin _ L h an C X _ _ w ?_ zot
    exact I.next hca D G O (λd' U=>by rw[hd] at U;cases U;exact am) I.sub I.st v
theorem yHY(hsel:Region.noSelect ops=true)(hal:jM P n ops al)(hca:cJ ops al=true){pend Qs:List Nat}(hpm:∀i∈pend,i<m){KW:List (Nat×Value)->List Res->Mem->Prop}{KB:Array Bool->Bool}
    (fin:∀base e L h,KB base=true->(∀k,m<=k->base.getD k false=false)->KW e L h->y8 P n w0 h0 ops Q R al m base pend e L h):∀(k:Nat) (A B:List Nat) (base:Array Bool) (e:List (Nat×Value)) (L:List Res) (h:Mem),
    mP ops m pend Qs KB k A B base=true->(∀k,m<=k->base.getD k false=false)->WX P n w0 h0 ops R Qs KW k A B e L h->y8 P n w0 h0 ops Q R al m base pend e L h:=by
 have nx:∀(base:Array Bool) (i:Nat),i<m->(∀k,m<=k->base.getD k false=false)->∀k,m<=k->(base.setIfInBounds i true).getD k false=false:=λbase i hi hb k hk=>by
  rw[getD_set_ne false zot];exact hb k hk
 have qm:∀{i base},zNX ops m pend i base=true->i<m:=λhc=>by
  simp only[zNX,Bool.and_eq_true,decide_eq_true_eq] at hc;exact hc.1.1.1.1
 intro k
 induction k with
 |zero=>
  intro A B base e L h hc hb hw
  cases A<;>cases B
  · exact fin base e L h (by simpa[mP] using hc) hb (by simpa[WX] using hw)
  all_goals (simp[mP] at hc)
 |succ k ih=>
  intro A B base e L h hc hb hw
  cases A with
  |nil=>
   cases B with
   |nil=>exact fin base e L h (by simpa[mP] using hc) hb (by simpa[WX] using hw)
   |cons j B=>
    cases hq:Qs.contains j with
    |true=>
     simp only[mP,WX,hq,cond_true,Bool.and_eq_true] at hc hw;exact zKY hsel hca hpm hc.1 hb hw λe L h hw'=>ih [] B _ e L h hc.2 (nx base j (qm hc.1) hb) hw'
    |false=>
     simp only[mP,WX,hq,cond_false,Bool.and_eq_true,beq_iff_eq,decide_eq_true_eq,Bool.not_eq_true',List.contains_eq_mem,decide_eq_false_iff_not] at hc hw;obtain⟨⟨⟨m1,p1⟩,r1⟩,hc'⟩:=hc;exact bX hal hca m1 p1 r1 (λe L h hw'=>ih [] B _ e L h hc' (nx base j m1 hb) hw') hw
  |cons i A=>
   cases B with
   |nil=>
    cases hq:Qs.contains i with
    |true=>
     simp only[mP,WX,hq,cond_true,Bool.and_eq_true] at hc hw;exact zKY hsel hca hpm hc.1 hb hw λe L h hw'=>ih A [] _ e L h hc.2 (nx base i (qm hc.1) hb) hw'
    |false=>
     simp only[mP,WX,hq,cond_false,Bool.and_eq_true,beq_iff_eq,decide_eq_true_eq,Bool.not_eq_true',List.contains_eq_mem,decide_eq_false_iff_not] at hc hw;obtain⟨⟨⟨m1,p1⟩,r1⟩,hc'⟩:=hc;exact bX hal hca m1 p1 r1 (λe L h hw'=>ih A [] _ e L h hc' (nx base i m1 hb) hw') hw
   |cons j B=>
    cases hq:Qs.contains i with
    |true=>
     simp only[mP,WX,hq,cond_true,Bool.and_eq_true] at hc hw;exact zKY hsel hca hpm hc.1 hb hw λe L h hw'=>ih A (j::B) _ e L h hc.2 (nx base i (qm hc.1) hb) hw'
    |false=>
     cases hq2:Qs.contains j with
     |true=>
      simp only[mP,WX,hq,hq2,cond_true,cond_false,Bool.and_eq_true] at hc hw;exact zKY hsel hca hpm hc.1 hb hw λe L h hw'=>ih (i::A) B _ e L h hc.2 (nx base j (qm hc.1) hb) hw'
     |false=>
      simp only[mP,WX,hq,hq2,cond_false,Bool.and_eq_true,Bool.or_eq_true,beq_iff_eq,decide_eq_true_eq,Bool.not_eq_true',List.contains_eq_mem,decide_eq_false_iff_not] at hc hw;obtain⟨⟨⟨⟨⟨⟨m1,p1⟩,⟨m2,p2⟩⟩,n12⟩,r1⟩,hc1⟩,hc2⟩:=hc
      rcases r1 with r1|r1
      · exact zBW hal hca m1 p1 m2 p2 n12 r1 (λe L h hw'=>ih A (j::B) _ e L h hc1 (nx base i m1 hb) hw') (λe L h hw'=>ih (i::A) B _ e L h hc2 (nx base j m2 hb) hw') hw.1 hw.2
      · exact zBW hal hca m2 p2 m1 p1 (Ne.symm n12) r1 (λe L h hw'=>ih (i::A) B _ e L h hc2 (nx base j m2 hb) hw') (λe L h hw'=>ih A (j::B) _ e L h hc1 (nx base i m1 hb) hw') hw.2 hw.1
theorem zGV(hsel:Region.noSelect ops=true)(hal:jM P n ops al)(hca:cJ ops al=true):∀(ord:List (Nat×Kd)) (base:Array Bool) (pend:List Nat) (e:List (Nat×Value)) (L:List Res) (h:Mem),chk ops m ord base pend=true->(∀k,m<=k->base.getD k false=false)->(∀i∈pend,i<m)->
 W P n w0 h0 ops Q R al ord e L h->y8 P n w0 h0 ops Q R al m base pend e L h
 |[],base,pend,e,L,h,hc,_,_,hW=>by
  intro fuel X listed a w I hrem;simp only[chk,Bool.and_eq_true,List.isEmpty_iff] at hc;obtain⟨rfl,hr⟩:=hc;have hX:=yEK I;subst hX;have hl:listed=base:=I.rel.2;subst hl;have S:=I.st;simp only[mT,List.map_nil,List.append_nil] at S
  cases fuel with
  |zero=>exact⟨hr,hW a w I.env S⟩
  |succ fuel=>exact⟨λ_=>hW a w I.env S,λi hi=>by rw[hr] at hi;cases hi⟩
 |(i,.t)::r,base,pend,e,L,h,hc,_,_,hW=>by
  intro fuel X listed a w I hrem;have hc0:=hc;simp only[chk,Bool.and_eq_true,List.isEmpty_iff] at hc;obtain⟨⟨⟨⟨rfl,hrt⟩,_⟩,_⟩,_⟩:=hc;have hX:=yEK I;subst hX;have hl:listed=base:=I.rel.2;subst hl;have S:=I.st;simp only[mT,List.map_nil,List.append_nil] at S;exact zI3 _ _ _ _ _ _ (by simpa using hrt) hc0 hW fuel a w I.env S I.rel.1 hrem
 |(i,.c)::r,base,pend,e,L,h,hc,hnl,hpm,hW=>by
  simp only[chk,Bool.and_eq_true,beq_iff_eq,decide_eq_true_eq,Bool.not_eq_true',List.contains_eq_mem,decide_eq_false_iff_not] at hc;obtain⟨⟨⟨him,hip⟩,hr⟩,hc'⟩:=hc;refine aS hal hca [i] zo2 hr ?_ (λ_=>W P n w0 h0 ops Q R al r) ?_ ?_
  · intro j hj
    obtain rfl:j=i:=by simpa using hj
    exact⟨him,hip⟩
  · intro j hj
    obtain rfl:j=i:=by simpa using hj
    exact hW
  · intro j hj e' L' h' hW'
    obtain rfl:j=i:=by simpa using hj
    exact zGV hsel hal hca r _ pend e' L' h' hc' (λk hk=>by rw[getD_set_ne false zot];exact hnl k hk) hpm hW'
 |(i,.b j)::r,base,pend,e,L,h,hc,hnl,hpm,hW=>by
  simp only[chk,Bool.and_eq_true,beq_iff_eq,decide_eq_true_eq,Bool.not_eq_true',List.contains_eq_mem,decide_eq_false_iff_not] at hc;obtain⟨⟨⟨⟨⟨⟨⟨⟨him,hjm⟩,hip⟩,hjp⟩,hij⟩,hr⟩,hri⟩,hrj⟩,hc'⟩:=hc;obtain⟨hW1,hW2⟩:=hW;refine aS hal hca [i,j] zo2 hr (λk hk=>?_) (λk=>if k=i then λe L h=>kB P n w0 h0 ops R (ops.getD j default) e L h (W P n w0 h0 ops Q R al r) else λe L h=>kB P n w0 h0 ops R (ops.getD i default) e L h (W P n w0 h0 ops Q R al r)) (λk hk=>?_) ?_
  · rcases List.mem_cons.1 hk with rfl|hk
    · exact⟨him,hip⟩
    · obtain rfl:k=j:=by simpa using hk
      exact⟨hjm,hjp⟩
  · rcases List.mem_cons.1 hk with rfl|hk
    · simp only[if_true];exact hW1
    · obtain rfl:k=j:=by simpa using hk
      simp only[if_neg (Ne.symm hij)];exact hW2
  · intro k hk e' L' h' hW'
    rcases List.mem_cons.1 hk with rfl|hk
    · simp only[if_true] at hW'
      refine aS hal hca [j] zo2 hri ?_ (λ_=>W P n w0 h0 ops Q R al r) ?_ ?_
      · intro l hl
        obtain rfl:l=j:=by simpa using hl
        exact⟨hjm,hjp⟩
      · intro l hl
        obtain rfl:l=j:=by simpa using hl
        exact hW'
      intro l hl e2 L2 h2 hW2';obtain rfl:l=j:=by simpa using hl
      exact zGV hsel hal hca r _ pend e2 L2 h2 hc' (λk' hk'=>by rw[getD_set_ne false zot,getD_set_ne false zot];exact hnl k' hk') hpm hW2'
    · obtain rfl:k=j:=by simpa using hk
      simp only[if_neg (Ne.symm hij)] at hW';refine aS hal hca [i] zo2 hrj ?_ (λ_=>W P n w0 h0 ops Q R al r) ?_ ?_
      · intro l hl
        obtain rfl:l=i:=by simpa using hl
        exact⟨him,hip⟩
      · intro l hl
        obtain rfl:l=i:=by simpa using hl
        exact hW'
      intro l hl e2 L2 h2 hW2';obtain rfl:l=i:=by simpa using hl
      rw[Array.setIfInBounds_comm _ _ hij] at hc';exact zGV hsel hal hca r _ pend e2 L2 h2 hc' (λk' hk'=>by rw[getD_set_ne false zot,getD_set_ne false zot];exact hnl k' hk') hpm hW2'
 |(i,.d i2 j)::r,base,pend,e,L,h,hc,hnl,hpm,hW=>by
  simp only[chk,Bool.and_eq_true,beq_iff_eq,decide_eq_true_eq,Bool.not_eq_true',List.contains_eq_mem,decide_eq_false_iff_not] at hc;obtain⟨⟨⟨⟨⟨⟨⟨⟨⟨⟨⟨⟨m1,m2⟩,m3⟩,p1⟩,p2⟩,p3⟩,⟨⟨n12,n13⟩,n23⟩⟩,r0⟩,ri⟩,rj⟩,rii⟩,rij⟩,hc'⟩:=hc;have fin:∀e L h,W P n w0 h0 ops Q R al r e L h->y8 P n w0 h0 ops Q R al m (((base.setIfInBounds i true).setIfInBounds i2 true).setIfInBounds j true) pend e L h:=λe L h hw=>
   zGV hsel hal hca r _ pend e L h hc' (λk hk=>by rw[getD_set_ne false zot,getD_set_ne false zot,getD_set_ne false zot];exact hnl k hk) hpm hw
  have cm:∀(b:Array Bool) {x y:Nat},x≠y->(b.setIfInBounds x true).setIfInBounds y true=(b.setIfInBounds y true).setIfInBounds x true:=λb x y hxy=>Array.setIfInBounds_comm _ _ hxy;obtain⟨hA,hB⟩:=hW;refine zBW hal hca m1 p1 m3 p3 n13 r0 ?_ ?_ hA hB
  · rintro e L h ⟨h1,h2⟩
    refine zBW hal hca m2 p2 m3 p3 n23 ri ?_ ?_ h1 h2
    · intro e L h h3
      exact bX hal hca m3 p3 rii fin h3
    · intro e L h h3
      refine bX hal hca m2 p2 rij ?_ h3;intro e L h h4;rw[cm _ (Ne.symm n23)];exact fin e L h h4
  · intro e L h h1
    refine bX hal hca m1 p1 rj ?_ h1;intro e L h h2;rw[cm _ (Ne.symm n13)];refine bX hal hca m2 p2 rij ?_ h2;intro e L h h3;rw[cm _ (Ne.symm n23)];exact fin e L h h3
 |(_,.x Qs A B)::r,base,pend,e,L,h,hc,hnl,hpm,hW=>by
  simp only[chk] at hc;exact yHY hsel hal hca hpm (KB:=λbase=>chk ops m r base pend) (λbase e L h hk hb hw=>zGV hsel hal hca r base pend e L h hk hb hpm hw) _ A B base e L h hc hnl hW
 |(_,.m A B)::r,base,pend,e,L,h,hc,hnl,hpm,hW=>by
  simp only[chk] at hc;exact yHZ hal hca (KB:=λbase=>chk ops m r base pend) (λbase e L h hk hb hw=>zGV hsel hal hca r base pend e L h hk hb hpm hw) _ A B base e L h hc hnl hW
 |(i,.q)::r,base,pend,e,L,h,hc,hnl,hpm,hW=>by
  intro fuel X listed a w I hrem;simp only[chk,Bool.and_eq_true,decide_eq_true_eq,Bool.not_eq_true',List.contains_eq_mem,decide_eq_false_iff_not] at hc;obtain⟨⟨⟨⟨⟨him,hir⟩,hfree⟩,hip⟩,hlast⟩,hc'⟩:=hc;obtain⟨v,⟨⟨d,hd,hdn⟩,hq⟩,hW'⟩:=hW;have hiX:i ∉ X.map (·.1):=λhx=>by
   obtain⟨p,hp,rfl⟩:=List.mem_map.1 hx;exact hip (I.xp p hp).1
  have hir':i∈Region.ready .any ops listed:=by
   have h1:i∈Region.ready .any ops (setAll base []):=by simpa[setAll] using hir
   rw[I.rel.2];exact rV I.rel.1 h1 nX hiX
  obtain⟨his,hiun⟩:=mD hir';have hp:=zEI his hiun;have hrem':=lY his hiun
  cases fuel with
  |zero=>omega
  |succ fuel=>
   have hD:Dw w0 h0 R h w:=⟨_,h,MLe.refl h,λr hr=>List.mem_append_left _ (I.sub r hr),I.st⟩;refine RA.first (mL his) hsel him ?_ fuel listed a w I.cl (by rw[I.rel.2,lV];exact I.rel.1) hD ?_ ?_ hir' (λw' ⟨L',h',a1,a2,a3⟩=>hq h' L' a w' a1 a2 I.env a3) ?_
   · intro k hk hks
     have:=zob.1 hlast k (by simpa using hks);simp only[Bool.or_eq_true,decide_eq_true_eq] at this;exact this.resolve_left zot
   · intro k hk
     cases hl:listed.getD k false with
     |false=>rfl
     |true=>
      rcases(I.rel.listed k).1 hl with h1|⟨h1,_⟩
      · rw[hnl k hk] at h1;cases h1
      · obtain⟨p,hp,rfl⟩:=List.mem_map.1 h1
        have:=hpm _ (I.xp p hp).1;omega
   · intro j oj hoj hji hun hno
     exact Region.free_spec (mL his) hfree j oj hoj hji ((I.rel.unlisted j).1 hun).1 hno
   · refine zGV hsel hal hca r _ pend _ L h hc' (λk hk=>by rw[getD_set_ne false zot];exact hnl k hk) hpm hW' fuel X _ _ w ?_ zot
     exact I.next hca his hir' hip (λd' hd'=>by rw[hd] at hd';cases hd';exact hdn) I.sub I.st v
 |(i,.p)::r,base,pend,e,L,h,hc,hnl,hpm,hW=>by
  intro fuel X listed a w I hrem;simp only[chk,Bool.and_eq_true,decide_eq_true_eq,Bool.not_eq_true',List.contains_eq_mem,decide_eq_false_iff_not] at hc;obtain⟨⟨⟨⟨him,hir⟩,hfree⟩,hip⟩,hc'⟩:=hc;obtain⟨v,⟨⟨d,hd,hdn⟩,hq⟩,hW'⟩:=hW;have hiX:i ∉ X.map (·.1):=λhx=>by
   obtain⟨p,hp,rfl⟩:=List.mem_map.1 hx;exact hip (I.xp p hp).1
  have hir':i∈Region.ready .any ops listed:=by
   have h1:i∈Region.ready .any ops (setAll base []):=by simpa[setAll] using hir
   rw[I.rel.2];exact rV I.rel.1 h1 nX hiX
  obtain⟨his,hiun⟩:=mD hir';have hp:=zEI his hiun;have hrem':=lY his hiun
  cases fuel with
  |zero=>omega
  |succ fuel=>
   have hD:Dw w0 h0 R h w:=⟨_,h,MLe.refl h,λr hr=>List.mem_append_left _ (I.sub r hr),I.st⟩;refine RA.pure (mL his) hsel him fuel listed a w (.inl hD) ?_ hir' (λw'=>hq a w' I.env) ?_
   · intro j oj hoj hji hun hno
     exact Region.free_spec (mL his) hfree j oj hoj hji ((I.rel.unlisted j).1 hun).1 hno
   · refine zGV hsel hal hca r _ pend _ L h hc' (λk hk=>by rw[getD_set_ne false zot];exact hnl k hk) hpm hW' fuel X _ _ w ?_ zot
     exact I.next hca his hir' hip (λd' hd'=>by rw[hd] at hd';cases hd';exact hdn) I.sub I.st v
 |(i,.a)::r,base,pend,e,L,h,hc,hnl,hpm,hW=>by
  simp only[chk,Bool.and_eq_true,beq_iff_eq,List.contains_eq_mem,decide_eq_true_eq] at hc;obtain⟨⟨hip,hr⟩,hc'⟩:=hc;intro fuel
  induction fuel with
  |zero=>
   intro X listed a w I hrem
   by_cases hiX:i∈X.map (·.1)
   · exact zV4 hal hca r base pend e L h (λb p e L h=>zGV hsel hal hca r b p e L h) hc' hip hnl hpm hW 0 X listed a w I hrem hiX
   · exfalso
     have:=bK hca I hip hiX;rw[mC zot] at this
     cases this
  |succ fuel ih=>
   intro X listed a w I hrem
   by_cases hiX:i∈X.map (·.1)
   · exact zV4 hal hca r base pend e L h (λb p e L h=>zGV hsel hal hca r b p e L h) hc' hip hnl hpm hW _ X listed a w I hrem hiX
   · have hir:=bK hca I hip hiX
     refine⟨λhnil=>absurd hir (by rw[hnil];simp),λj hj o hoj=>?_⟩;obtain⟨hjs,hjun⟩:=mD hj;have hjo:o=ops.getD j default:=by rw[mL hjs] at hoj;exact(Option.some.inj hoj).symm
     subst hjo;have hrem':=lY hjs hjun;have hjp:j∈pend:=by
      refine Classical.byContradiction λhjp=>?_;have h1:j∈Region.ready .any ops (setAll base (pend.filter (· != i))):=by
       rw[I.rel.2] at hj;refine rV I.rel.1 hj (λp hp=>?_) (λhc=>hjp (List.mem_filter.1 hc).1);obtain⟨q,hq,rfl⟩:=List.mem_map.1 hp;refine List.mem_filter.2 ⟨(I.xp q hq).1,?_⟩;simp only[bne_iff_ne];exactλhe=>hiX (he▸List.mem_map_of_mem hq)
      rw[hr] at h1;obtain rfl:j=i:=by simpa using h1
      exact hjp hip
     have hjX:=((I.rel.unlisted j).1 hjun).2;exact(yD2 hal hca I hjp hjX).mono λv w' ⟨hD,b,I'⟩=>⟨.inl hD,ih _ _ _ _ I' zot⟩
theorem zK{id:Nat}{l:List Oper}{e:List (Nat×Value)}{L:List Res}{h:Mem}(m:Nat)(R:List Res)(al:Als)(ord:List (Nat×Kd))(hm:P.follows .mixedOrders=true)(hal:jM P n l.toArray al)
    (hchk:(Region.noSelect l.toArray&&cJ l.toArray al&&(al.all λx=>decide (x.1<m))&&chk l.toArray m ord (Array.replicate l.length false) (al.map (·.1)))=true)(hae:∀x∈al,al.lookup x.1=some x.2/\e.lookup x.2.1=none)
    (hR:∀r∈R,r∈L)(k:W P n w0 h0 l.toArray Q R al ord e L h):GC P n w0 h0 (.region id l.toArray true) Q e L h:=by
 intro a w E S;simp only[Bool.and_eq_true] at hchk;obtain⟨⟨⟨h1,h2⟩,h3⟩,M⟩:=hchk;have C:∀i∈al.map (·.1),i<m:=by
  intro i hi;obtain⟨x,hx,rfl⟩:=List.mem_map.1 hi
  simpa using zob.1 h3 x hx
 have J:=zGV (Q:=Q) (R:=R) (m:=m) h1 hal h2 ord (Array.replicate l.length false) (al.map (·.1)) e L h M (λk _=>by simp[Array.getD_eq_getD_getElem?,Array.getElem?_replicate];split<;>rfl) C k;refine wp_region_any hm (RA.wpAny (λ_ _ G=>G) (J _ [] _ a _ ⟨⟨E.defers,E.size,E.get⟩,?_,hR,⟨by simp,by simp[setAll]⟩,(λp H=>by cases H),by simp,?_,?_,?_⟩ ?_))
 · simp only[mT,List.map_nil,List.append_nil]
   exact⟨S.below.drew,S.le,S.sub,S.fresh,S.ok,S.own,S.apart⟩
 · intro i hi
   obtain⟨x,hx,rfl⟩:=List.mem_map.1 hi;exact⟨x.2,(hae x hx).1,(hae x hx).2⟩
 · intro i hi
   obtain⟨x,hx,rfl⟩:=List.mem_map.1 hi;have:=(pL h2 (hae x hx).1).2.1;simp at this;simp[Array.getD_eq_getD_getElem?,this]
 · intro k o D
   simp[Array.getD_eq_getD_getElem?,Array.getElem?_replicate] at D
   split at D<;>simp at D
 · unfold rem
   refine Nat.le_trans (List.length_filter_le _ _) ?_;simp
end sound
section
variable {P:Program}{n:Nat}{w0:World}{h0:Mem}{ops:Array Oper}{Q:Exit->Act->World->Prop}{R:List Res}{al:Als}{e:List (Nat×Value)}{L:List Res}{h:Mem}{r:List (Nat×Kd)}{i:Nat}
variable {d:Nat}{op:Op}{ty:TypeId}{ps:String}{af:Array Edge}{g t:Nat}{b c:Bool}{v:Value}
theorem wn{o:Oper}{y:Nat->Option Bool}(hg:o.guard=none):Region.wanted o y=true:=by
 unfold Region.wanted;rw[hg]
theorem cK(k:GQ n w0 h0 Q .normal e L h):W P n w0 h0 ops Q R al [] e L h:=k
theorem w_q(ho:ops.getD i default=⟨some d,op,ty,ps,af,none⟩)(hv:∀h' L',MLe h h'->(∀r∈R,r∈L')->OpV P n w0 h0 ⟨some d,op,ty,ps,af,none⟩ e L' h' v)(hn:Nat.ble (d+1) n=true)
    (k:W P n w0 h0 ops Q R al r ((d,v)::e) L h):W P n w0 h0 ops Q R al ((i,.q)::r) e L h:=by
 refine⟨v,?_,?_⟩
 · rw[ho]
   exact⟨⟨d,I,Nat.le_of_ble_eq_true hn⟩,λh' L' a w hh hR E S=>.inl ⟨I,hv h' L' hh hR a w E S⟩⟩
 · rw[ho];exact k
theorem wI(ho:ops.getD i default=⟨some d,op,ty,ps,af,none⟩)(hv:∀h' L',OpV P n w0 h0 ⟨some d,op,ty,ps,af,none⟩ e L' h' v)(hn:Nat.ble (d+1) n=true)
    (k:W P n w0 h0 ops Q R al r ((d,v)::e) L h):W P n w0 h0 ops Q R al ((i,.q)::r) e L h:=w_q ho (λh' L' _ _=>hv h' L') hn k
theorem qQ{x:Operand}(ho:ops.getD i default=⟨some d,.move x,ty,ps,af,none⟩)(hx:zJ e x=some v)(hn:Nat.ble (d+1) n=true)
    (k:W P n w0 h0 ops Q R al r ((d,v)::e) L h):W P n w0 h0 ops Q R al ((i,.q)::r) e L h:=w_q ho (λ_ _ _ _=>yZ hx) hn k
theorem zLH{x:Operand}(ho:ops.getD i default=⟨some d,.assign x,ty,ps,af,none⟩)(hx:zJ e x=some v)(hn:Nat.ble (d+1) n=true)
    (k:W P n w0 h0 ops Q R al r ((d,v)::e) L h):W P n w0 h0 ops Q R al ((i,.q)::r) e L h:=w_q ho (λ_ _ _ _=>pP hx) hn k
theorem iV{g t:Nat}{b c:Bool}{o:Oper}{a:Act}(hg:o.guard=some (g,b))(ht:(ops[g]?).bind (·.dst)=some t)(he:e.lookup t=some (.bool c))(E:Env n e a):Region.wanted o (yielded ops a.tmps)=(c==b):=by
 have:=E.get t _ he;simp[Region.wanted,hg,yielded,ht,this]
theorem yS(ho:ops.getD i default=⟨some d,op,ty,ps,af,some (g,b)⟩)(ht:(ops[g]?).bind (·.dst)=some t)(he:e.lookup t=some (.bool b))(hv:∀h' L',MLe h h'->(∀r∈R,r∈L')->OpV P n w0 h0 ⟨some d,op,ty,ps,af,some (g,b)⟩ e L' h' v)
    (hn:Nat.ble (d+1) n=true)(k:W P n w0 h0 ops Q R al r ((d,v)::e) L h):W P n w0 h0 ops Q R al ((i,.q)::r) e L h:=by
 refine⟨v,?_,?_⟩
 · rw[ho]
   exact⟨⟨d,I,Nat.le_of_ble_eq_true hn⟩,λh' L' a w hh hR E S=>.inl ⟨by rw[iV I ht he E];simp,hv h' L' hh hR a w E S⟩⟩
 · rw[ho];exact k
theorem zUV{b:Bool}{t:Nat}(ho:ops.getD i default=⟨some d,op,ty,ps,af,some (g,b)⟩)(ht:(ops[g]?).bind (·.dst)=some t)(he:e.lookup t=some undef)(hn:Nat.ble (d+1) n=true)
    (k:W P n w0 h0 ops Q R al r ((d,undef)::e) L h):W P n w0 h0 ops Q R al ((i,.q)::r) e L h:=by
 refine⟨undef,?_,?_⟩
 · rw[ho]
   refine⟨⟨d,I,Nat.le_of_ble_eq_true hn⟩,λh' L' a w hh hR E S=>.inr ⟨?_,I⟩⟩;have:=E.get t _ he;simp[Region.wanted,yielded,ht,this,undef]
 · rw[ho];exact k
theorem vW(ho:ops.getD i default=⟨some d,op,ty,ps,af,some (g,b)⟩)(ht:(ops[g]?).bind (·.dst)=some t)(he:e.lookup t=some (.bool c))(hcb:(c==b)=false)(hn:Nat.ble (d+1) n=true)
    (k:W P n w0 h0 ops Q R al r ((d,undef)::e) L h):W P n w0 h0 ops Q R al ((i,.q)::r) e L h:=by
 refine⟨undef,?_,?_⟩
 · rw[ho]
   exact⟨⟨d,I,Nat.le_of_ble_eq_true hn⟩,λh' L' a w hh hR E S=>.inr ⟨by rw[iV I ht he E,hcb],I⟩⟩
 · rw[ho];exact k
theorem w_a{E E':TypeId}{cs:List Value}(hop:(ops.getD i default).op=.alloc E')(hl:al.lookup i=some (d,E,cs))(k:∀b,W P n w0 h0 ops Q R al r ((d,.pointer (some ⟨b,0,none⟩))::e) (.blk b (.cells cs.toArray E)::L) h):W P n w0 h0 ops Q R al ((i,.a)::r) e L h:=by
 intro G E' D b C;rw[hl] at C
 cases C
 rw[hop];exact k b
theorem yEU{Qs A B:List Nat}{N:Nat}(hN:A.length+B.length=N)(k:WX P n w0 h0 ops R Qs (W P n w0 h0 ops Q R al r) N A B e L h):W P n w0 h0 ops Q R al ((i,.x Qs A B)::r) e L h:=by
 subst hN;exact k
section wx
variable {K:List (Nat×Value)->List Res->Mem->Prop}{N i j:Nat}{A B Qs:List Nat}{o o':Oper}
theorem j3(k:K e L h):WX P n w0 h0 ops R Qs K N [] [] e L h:=by
 cases N<;>exact k
theorem tK(hq:Qs.contains i=true)(k:SQ P n w0 h0 ops R i e L h (WX P n w0 h0 ops R Qs K N A B)):WX P n w0 h0 ops R Qs K (N+1) (i::A) B e L h:=by
 cases B<;>simp only[WX,hq,cond_true]<;>exact k
theorem yJO(hq:Qs.contains j=true)(k:SQ P n w0 h0 ops R j e L h (WX P n w0 h0 ops R Qs K N [] B)):WX P n w0 h0 ops R Qs K (N+1) [] (j::B) e L h:=by
 simp only[WX,hq,cond_true];exact k
theorem yDF(hi:Qs.contains i=false)(hq:Qs.contains j=true)(k:SQ P n w0 h0 ops R j e L h (WX P n w0 h0 ops R Qs K N (i::A) B)):WX P n w0 h0 ops R Qs K (N+1) (i::A) (j::B) e L h:=by
 simp only[WX,hi,hq,cond_true,cond_false];exact k
theorem zAL(hi:Qs.contains i=false)(ho:ops.getD i default=o)(k:kB P n w0 h0 ops R o e L h (WX P n w0 h0 ops R Qs K N A [])):WX P n w0 h0 ops R Qs K (N+1) (i::A) [] e L h:=by
 subst ho;simp only[WX,hi,cond_false];exact k
theorem zN7(hi:Qs.contains j=false)(ho:ops.getD j default=o)(k:kB P n w0 h0 ops R o e L h (WX P n w0 h0 ops R Qs K N [] B)):WX P n w0 h0 ops R Qs K (N+1) [] (j::B) e L h:=by
 subst ho;simp only[WX,hi,cond_false];exact k
theorem zD4(hi:Qs.contains i=false)(hj:Qs.contains j=false)(ho:ops.getD i default=o)(ho':ops.getD j default=o')(k:kB P n w0 h0 ops R o e L h (WX P n w0 h0 ops R Qs K N A (j::B)))
    (k':kB P n w0 h0 ops R o' e L h (WX P n w0 h0 ops R Qs K N (i::A) B)):WX P n w0 h0 ops R Qs K (N+1) (i::A) (j::B) e L h:=by
 subst ho;subst ho';simp only[WX,hi,hj,cond_false];exact⟨k,k'⟩
variable {d:Nat}{op:Op}{v:Value}
theorem x_q(ho:ops.getD i default=⟨some d,op,ty,ps,af,none⟩)(hv:∀h' L',MLe h h'->(∀r∈R,r∈L')->OpV P n w0 h0 ⟨some d,op,ty,ps,af,none⟩ e L' h' v)(hn:Nat.ble (d+1) n=true)
    (k:K ((d,v)::e) L h):SQ P n w0 h0 ops R i e L h K:=by
 refine⟨v,?_,?_⟩
 · rw[ho]
   exact⟨⟨d,I,Nat.le_of_ble_eq_true hn⟩,λh' L' a w hh hR E S=>.inl ⟨I,hv h' L' hh hR a w E S⟩⟩
 · rw[ho];exact k
theorem aC(ho:ops.getD i default=⟨some d,op,ty,ps,af,none⟩)(hv:∀h' L',OpV P n w0 h0 ⟨some d,op,ty,ps,af,none⟩ e L' h' v)(hn:Nat.ble (d+1) n=true)
    (k:K ((d,v)::e) L h):SQ P n w0 h0 ops R i e L h K:=x_q ho (λh' L' _ _=>hv h' L') hn k
end wx
theorem w_c{o:Oper}(ho:ops.getD i default=o)(k:kB P n w0 h0 ops R o e L h (W P n w0 h0 ops Q R al r)):W P n w0 h0 ops Q R al ((i,.c)::r) e L h:=by
 show kB P n w0 h0 ops R (ops.getD i default) e L h _
 rw[ho];exact k
theorem w_b{o o':Oper}{j:Nat}(ho:ops.getD i default=o)(ho':ops.getD j default=o')(k:kB P n w0 h0 ops R o e L h λe L h=>kB P n w0 h0 ops R o' e L h (W P n w0 h0 ops Q R al r))
    (k':kB P n w0 h0 ops R o' e L h λe L h=>kB P n w0 h0 ops R o e L h (W P n w0 h0 ops Q R al r)):W P n w0 h0 ops Q R al ((i,.b j)::r) e L h:=by
 refine⟨?_,?_⟩
 · rw[ho,ho'];exact k
 · rw[ho,ho'];exact k'
theorem zA6{W':List (Nat×Value)->List Res->Mem->Prop}{ds:Option Tmp}(ht:(ops[g]?).bind (·.dst)=some t)(he:e.lookup t=some (.bool b))(k:kB P n w0 h0 ops R ⟨ds,op,ty,ps,af,none⟩ e L h W'):
 kB P n w0 h0 ops R ⟨ds,op,ty,ps,af,some (g,b)⟩ e L h W':=by
 intro X a w E S;have C:=k X a w E S;unfold qT at *;rw[if_pos (wn I)] at C;rw[if_pos (by rw[iV I ht he E];simp)];exact C
theorem lW{W':List (Nat×Value)->List Res->Mem->Prop}(ht:(ops[g]?).bind (·.dst)=some t)(he:e.lookup t=some (.bool c))(hcb:(c==b)=false)(hn:Nat.ble (d+1) n=true)(k:W' ((d,undef)::e) L h):
 kB P n w0 h0 ops R ⟨some d,op,ty,ps,af,some (g,b)⟩ e L h W':=by
 intro X a w E S;unfold qT;rw[if_neg (by rw[iV I ht he E,hcb];simp)];exact⟨λG D=>by cases D;exact Nat.le_of_ble_eq_true hn,L,h,MLe.refl _,λC=>C,S,k⟩
theorem yGH{W':List (Nat×Value)->List Res->Mem->Prop}{f:Nat}{xs:List Operand}{ts:Array TypeId}{vs:List Value}{R':Mem->Value->Prop}(hcall:∀args w,(callFunc f args).run P w=.ok (.enter f args) w)(hvs:cR e xs vs)
    (hc:∀w,MLe h (mem w)->Calls P f vs.toArray w (Ret w h R'))(hn:Nat.ble (d+1) n=true)(k:∀v h',MLe h h'->R' h' v->W' ((d,v)::e) L h'):
    kB P n w0 h0 ops R ⟨some d,.call {callee:=.value (.func f),args:=xs.toArray,argTypes:=ts},ty,ps,af,none⟩ e L h W':=by
 intro X a w E S;unfold qT;rw[if_pos (wn I)];have C:xs.toArray.map a.eval=vs.toArray:=by rw[List.map_toArray,E.evals hvs]
 have G:(execOp a.eval ⟨some d,.call {callee:=.value (.func f),args:=xs.toArray,argTypes:=ts},ty,ps,af,none⟩).run P w=.ok (.enter f vs.toArray) w:=by
  simp only[execOp,resolve,Act.eval];simp[Deferred.ofValue,invoke,hcall,C]
 rw[G];refine(hc w S.sub).mono ?_
 rintro O M ⟨v,h',rfl,hR,D⟩
 have J:=S.call D;exact⟨v,I,λU H=>(by cases H;exact Nat.le_of_ble_eq_true hn),L,h',D.le,λhh=>hh,J,k v h' D.le hR⟩
theorem jN{W':List (Nat×Value)->List Res->Mem->Prop}{G:Value->Res->Prop}(hv:∀X,lO P n w0 h0 ⟨some d,op,ty,ps,af,none⟩ e (L++X) h G)(hn:Nat.ble (d+1) n=true)(k:∀v r,G v r->W' ((d,v)::e) (r::L) h):
 kB P n w0 h0 ops R ⟨some d,op,ty,ps,af,none⟩ e L h W':=by
 intro X a w E S;unfold qT;rw[if_pos (wn I)];obtain⟨v,U,r,J,D,C,H,O⟩:=hv X a w E S;rw[J];exact⟨λZ M=>(by cases M;exact Nat.le_of_ble_eq_true hn),r::L,h,MLe.refl h,λhh x hx=>List.mem_cons_of_mem _ (hh x hx),S.new D C H,k v r O⟩
theorem yKC{W':List (Nat×Value)->List Res->Mem->Prop}(hv:∀X,OpV P n w0 h0 ⟨some d,op,ty,ps,af,none⟩ e (L++X) h v)(hn:Nat.ble (d+1) n=true)(k:W' ((d,v)::e) L h):
 kB P n w0 h0 ops R ⟨some d,op,ty,ps,af,none⟩ e L h W':=by
 intro X a w E S;unfold qT;rw[if_pos (wn I),hv X a w E S];exact⟨λD C=>(by cases C;exact Nat.le_of_ble_eq_true hn),L,h,MLe.refl h,λhh=>hh,S,k⟩
theorem zED(ho:ops.getD i default=⟨some d,op,ty,ps,af,none⟩)(hv:OpV P n w0 h0 ⟨some d,op,ty,ps,af,none⟩ e L h v)(hn:Nat.ble (d+1) n=true)(k:W P n w0 h0 ops Q R al r ((d,v)::e) L h):W P n w0 h0 ops Q R al ((i,.t)::r) e L h:=by
 show yJN P n w0 h0 ops (ops.getD i default) e L h _
 rw[ho];intro a w E S;unfold qT;rw[if_pos (wn I),hv a w E S];exact⟨λD C=>(by cases C;exact Nat.le_of_ble_eq_true hn),L,h,S,k⟩
theorem pT{A B:List Res}{q q':Res}(ho:ops.getD i default=⟨none,op,ty,ps,af,none⟩)(hv:Upd P n w0 h0 ⟨none,op,ty,ps,af,none⟩ e A q B h q')(hfp:q'.fp=q.fp)(k:W P n w0 h0 ops Q R al r e (A++q'::B) h):
 W P n w0 h0 ops Q R al ((i,.t)::r) e (A++q::B) h:=by
 show yJN P n w0 h0 ops (ops.getD i default) e _ h _
 rw[ho];intro a w E S;unfold qT;obtain⟨M,G,D,C⟩:=hv a w E S;rw[if_pos (wn I),G];exact⟨λO H=>(by cases H),_,h,S.grown D C λb J=>.inl (hfp▸J),k⟩
theorem gX{k:IntKind}{E:Nat}{xs:List Nat}{v:Value}{t E':TypeId}{x y:Operand}{q:Int}{ds:Option Tmp}{gd:Option (Nat×Bool)}(hm:.us E k v xs∈L)(i:Nat)(ht:P.underlying t=some (.slice E'))(hsz:∀w,(Go.sizeOf E').run P w=.ok 1 w)(hx:zJ e x=some v)(hy:zJ e y=some (vI q))
    (hq:q=(i:Int))(hi:i<xs.length):OpV P n w0 h0 ⟨ds,.indexAddr t x y,ty,ps,af,gd⟩ e L h (zI 1 v i):=by
 obtain⟨A,B,rfl⟩:=List.append_of_mem hm;exact xC i ht hsz hx hy hq hi
theorem sS{k:IntKind}{E:Nat}{xs:List Nat}{v:Value}{t:TypeId}{x:Operand}{i:Nat}{ds:Option Tmp}{gd:Option (Nat×Bool)}(hm:.us E k v xs∈L)(ha:∀w,(isAgg t).run P w=.ok false w)(hx:zJ e x=some (zI 1 v i))(hi:i<xs.length):
 OpV P n w0 h0 ⟨ds,.load t x,ty,ps,af,gd⟩ e L h (vU k (xs.getD i 0)):=by
 obtain⟨A,B,rfl⟩:=List.append_of_mem hm;exact fY ha hx hi
end
section
variable {P:Program}{n:Nat}{w0:World}{h0:Mem}{e:List (Nat×Value)}{L:List Res}{h:Mem}{Q:Exit->Act->World->Prop}
variable {ds:Option Tmp}{ty:TypeId}{ps:String}{af:Array Edge}{gd:Option (Nat×Bool)}
def zD2(P:Program)(n:Nat)(w0:World)(h0:Mem)(o:Oper)(e:List (Nat×Value))(A:List Res)(r:Res)(B:List Res)(h:Mem)(G:Value->Res->Prop):Prop:=
 ∀a w,Env n e a->St w0 h0 (A++r::B) h w->∃v w' r',(execOp a.eval o).run P w=.ok (.value v) w'/\w.grownBy w' r.fp/\r'.ok w0.heap.size w'/\(∀b,r'.fp=some b->r.fp=some b\/w.heap.size<=b)/\G v r'
theorem xL{ops:Array Oper}{rest:List Oper}{o:Oper}{d:Nat}{A B:List Res}{r:Res}{G:Value->Res->Prop}(hv:zD2 P n w0 h0 o e A r B h G)(hg:o.guard=none)(hd:o.dst=some d)(hn:Nat.ble (d+1) n=true)
    (k:∀v r',G v r'->GL P n w0 h0 ops Q rest ((d,v)::e) (A++r'::B) h):GL P n w0 h0 ops Q (o::rest) e (A++r::B) h:=by
 intro a w J S;refine wpList_plain hg λK O=>?_;obtain⟨v,Z,r',M,D,C,H,U⟩:=hv a w J S;unfold Oper.wp;rw[M,Oper.upon_value,hd];exact O _ _ (k v r' U _ _ (J.put (Nat.le_of_ble_eq_true hn)) (S.grown D C H))
theorem gv{ops:Array Oper}{rest:List Oper}{d:Nat}{op:Op}{v:Value}(hv:OpV P n w0 h0 ⟨some d,op,ty,ps,af,none⟩ e L h v)(hn:Nat.ble (d+1) n=true)(k:GL P n w0 h0 ops Q rest ((d,v)::e) L h):GL P n w0 h0 ops Q (⟨some d,op,ty,ps,af,none⟩::rest) e L h:=
 oV hv rfl rfl hn k
theorem mv{ops:Array Oper}{rest:List Oper}{d:Nat}{x:Operand}{v:Value}(hx:zJ e x=some v)(hn:Nat.ble (d+1) n=true)(k:GL P n w0 h0 ops Q rest ((d,v)::e) L h):GL P n w0 h0 ops Q (⟨some d,.move x,ty,ps,af,none⟩::rest) e L h:=
 oV (yZ hx) rfl rfl hn k
theorem asg{ops:Array Oper}{rest:List Oper}{d:Nat}{x:Operand}{v:Value}(hx:zJ e x=some v)(hn:Nat.ble (d+1) n=true)(k:GL P n w0 h0 ops Q rest ((d,v)::e) L h):GL P n w0 h0 ops Q (⟨some d,.assign x,ty,ps,af,none⟩::rest) e L h:=
 oV (pP hx) rfl rfl hn k
theorem zFF{A B:List Res}{t E:TypeId}{i:TypeInfo}{z:Value}{k bytes m m':Nat}{v v':Value}{cs cs':List Value}{x y:Operand}(ht:P.underlying t=some (.slice E))(hi:P.info? E=some i)(hz:i.zero=some z)(hsize:i.size=k)(hby:i.bytes=bytes)
    (hzs:z.cells.size=k)(hk:0<k)(hx:zJ e x=some v)(hy:zJ e y=some v')(hv':Sl h k v' m' cs')(hone:∀u∈cs',u.oneCell'=true)(hlen:m+m'<9223372036854775808)(hb':(m+m')*bytes<=140737488355328):
    zD2 P n w0 h0 ⟨ds,.call {callee:=.builtin .append,args:=#[x,y],argTypes:=#[t,t]},ty,ps,af,gd⟩ e A (.gs E k v m cs) B h (λu r'=>r'=.gs E k u (m+m') (cs++cs')):=by
 intro a w Ev S;have C:w.ownsRow w0.heap.size E k v m cs:=S.ok (.gs E k v m cs) zo2;obtain⟨ad,G,rfl,h1,h2,h3,h4⟩:=hv';have Z:∀u U,(Builtin.append_ #[t,t] ty #[v,.slice ad m' G]).run P w=.ok u U->(execOp a.eval ⟨ds,.call {callee:=.builtin .append,args:=#[x,y],argTypes:=#[t,t]},ty,ps,af,gd⟩).run P w=.ok (.value u) U:=by
  intro u U H;simp[execOp,resolve,invoke,builtin,Ev.eval hx,Ev.eval hy,H]
 by_cases hnil:ad=none
 · subst hnil
   have hc:cs'=[]:=by
    cases cs' with
    |nil=>rfl
    |cons c cs'=>obtain⟨b,o,J,_⟩:=h4 0 zo2;cases J
   subst hc;have hm:m'=0:=by
    rcases Nat.eq_zero_or_pos m' with h5|h5
    · exact h5
    · have:=Nat.mul_pos h5 hk
      simp only[lN] at h3;omega
   subst hm;refine⟨v,w,.gs E k v (m+0) (cs++[]),Z _ _ ?_,⟨I,I,I,Nat.le_refl _,λ_ _ _=>I⟩,by simp only[Nat.add_zero,List.append_nil];exact C,λb J=>.inl J,I⟩;have ae:(Builtin.firstCells k 0 (.slice none 0 G)).run P w=.ok #[] w:=by simp[Builtin.firstCells]
   rcases C.2 with⟨rfl,rfl⟩|⟨g,cp,cur,rfl,_,_,hnc,_⟩
   · simp[Builtin.append_,run_underlying ht,Go.sizeOf,typeInfo,hi,Builtin.lenOf,Builtin.firstCells]
   · simp[Builtin.append_,run_underlying ht,Go.sizeOf,typeInfo,hi,Builtin.lenOf,Builtin.firstCells,hnc,storeCells]
 · obtain⟨p,rfl⟩:=Option.ne_none_iff_exists'.1 hnil
   have D:∀j u,cs'[j]?=some u->w.cell? (p.add j)=some u:=by
    intro j u hu;obtain⟨hj,_⟩:=List.getElem?_eq_some_iff.1 hu;obtain⟨b,o,hp,hc⟩:=h4 j hj
    cases hp
    rw[hu] at hc;rw[jY];exact lK S.sub hc
   obtain⟨u,U,H,ho,ab,ac⟩:=run_append_own (P:=P) w w0.heap.size t ty E i z k bytes ht hi hz hsize hby hzs hk v m cs C p m' G cs' h3 D hone (by unfold maxLen;omega) hb' S.below.size;refine⟨u,U,.gs E k u (m+m') (cs++cs'),Z _ _ H,ab,ho,λb J=>?_,I⟩;simp only[Res.fp] at J ⊢
   by_cases hv:v.ownBlock=some b
   · exact .inl hv
   · right
     rcases Nat.lt_or_ge b w.heap.size with hlt|hge
     · exfalso
       have aa:v.ownBlock=some b\/b=w.heap.size:=by
        have O:=C
        rcases O.2 with⟨rfl,rfl⟩|⟨g,cp,cur,rfl,hbg,hg,hnc,hcm,hcs,htake⟩
        · by_cases hm0:m'=0
          · subst hm0
            have:(Builtin.append_ #[t,t] ty #[.slice none 0 0,.slice (some p) 0 G]).run P w=.ok (.slice none 0 0) w:=by
             simp[Builtin.append_,run_underlying ht,Go.sizeOf,typeInfo,hi,Builtin.lenOf,Builtin.firstCells,loadCells,loadCellsFrom]
            rw[this] at H
            cases H
            simp[Value.ownBlock] at J
          · have h6:=run_append_nil (P:=P) w t ty E i z ht hi hz p m' G cs' (by rw[hsize];exact h3) D zot zot (by rw[hby];simp only[Nat.zero_add] at hb';omega)
            rw[h6] at H
            cases H
            simp only[Value.ownBlock,Option.some.injEq] at J;exact .inr J.symm
        · by_cases hroom:m+m'<=cp
          · have h6:=run_append_room (P:=P) w t ty E i ht hi g m cp cur hg p m' G cs' (by rw[hsize];exact h3) D hone hroom (by rw[hsize,h3,hcs,<-Nat.add_mul];exact Nat.mul_le_mul_right _ hroom)
            rw[h6] at H
            cases H
            exact .inl J
          · have M:∀j u,cs[j]?=some u->w.cell? ((⟨g,0,none⟩:Addr).add j)=some u:=C.cells (g:=g) I
            have h6:=run_append_grow (P:=P) w t ty E i z ht hi hz ⟨g,0,none⟩ m cp cs (by rw[hsize];exact C.1) M p m' G cs' (by rw[hsize];exact h3) D zot zot (growslice_fits zot (by rw[hby];exact hb'));rw[h6] at H
            cases H
            simp only[Value.ownBlock,Option.some.injEq] at J;exact .inr J.symm
       rcases aa with h5|h5
       · exact hv h5
       · omega
     · exact hge
theorem yEX{k:IntKind}{xs:List Nat}:∀u∈Bk.us k xs,u.oneCell'=true:=by
 intro u C;obtain⟨x,_,rfl⟩:=List.mem_map.1 C
 rfl
theorem gW{A B:List Res}{t E:TypeId}{i:TypeInfo}{bytes:Nat}{kd:IntKind}{v v':Value}{xs ys:List Nat}{x y:Operand}(ht:P.underlying t=some (.slice E))(hi:P.info? E=some i)(hz:i.zero=some (.int kd 0))(hsize:i.size=1)(hby:i.bytes=bytes)
    (hx:zJ e x=some v)(hy:zJ e y=some v')(hv':Us kd h v' ys)(hlen:xs.length+ys.length<9223372036854775808)(hb':(xs.length+ys.length)*bytes<=140737488355328):
    zD2 P n w0 h0 ⟨ds,.call {callee:=.builtin .append,args:=#[x,y],argTypes:=#[t,t]},ty,ps,af,gd⟩ e A (.us E kd v xs) B h (λu r'=>r'=.us E kd u (xs++ys)):=by
 intro a w H S;obtain⟨u,C,r',h1,h2,h3,G,D⟩:=zFF (A:=A) (B:=B) (v:=v) (cs:=Bk.us kd xs) (m:=xs.length) (ds:=ds) (ty:=ty) (ps:=ps) (af:=af) (gd:=gd) ht hi hz hsize hby rfl zot hx hy hv'.sl yEX hlen hb' a w H S;refine⟨u,C,r',h1,h2,h3,G,?_⟩;rw[D];simp[Res.us,Bk.us]
theorem zCT{t E:TypeId}{i:TypeInfo}{z:Value}{parts:Array (Nat×Operand)}{ps':List (Nat×Value)}{m:Nat}{vs:List Value}(ht:P.underlying t=some (.slice E))(hi:P.info? E=some i)(hz:i.zero=some z)(hsize:i.size=1)(hzs:z.cells=#[z])
    (hp:∀a,Env n e a->(parts.map λ(i,x)=>(i,a.eval x)).toList=ps')(hf:Instr.fill (λi=>some (i*1,1)) (Array.replicate m z) ps'=some vs.toArray)(hl:vs.length=m)(hm:m<=16777216):
    lO P n w0 h0 ⟨ds,.buildSlice t m parts,ty,ps,af,gd⟩ e L h (λv r=>r=.gs E 1 v m vs):=by
 intro a w U S;have J:=hp a U;have D:((Array.range (m*1)).map λj=>z.cells[j%z.cells.size]!)=Array.replicate m z:=by
  rw[hzs,Nat.mul_one]
  apply Array.ext_getElem?
  intro j
  by_cases hj:j<m
  · simp[hj,Nat.mod_one]
  · simp[hj]
 refine⟨.slice (some ⟨w.heap.size,0,none⟩) m m,w.alloc (.cells vs.toArray E),.gs E 1 (.slice (some ⟨w.heap.size,0,none⟩) m m) m vs,?_,World.grownBy_alloc w _ none,?_,λb O=>?_,I⟩
 · have M:¬(m>16777216):=by omega
   simp only[execOp,Instr.buildSlice];rw[show(parts.map λ(i,x)=>(i,a.eval x)).toList=ps' from J]
   by_cases h0:m=0
   · subst h0
     have H:vs=[]:=zof hl;subst H;simp at hf;simp[run_underlying ht,Go.sizeOf,typeInfo,hi,hsize,newRow,newObj,Sem.run,Array.range_zero',hf]
   · have G:(zeroValue E).run P w=.ok z w:=by simp[zeroValue,typeInfo,hi,hz]
     have C:=D;simp only[Nat.mul_one] at C hf;simp[run_underlying ht,Go.sizeOf,typeInfo,hi,hsize,newRow,h0,M,G,C,hf]
 · have:=World.ownsRow_lit (w:=w) (base:=w0.heap.size) (e:=E) (size:=1) vs.toArray m S.below.size (by unfold maxLen;omega) (by simp[hl])
   exact this
 · simp only[Res.fp,Value.ownBlock,Option.some.injEq] at O
   omega
theorem zGC{t E:TypeId}{i:TypeInfo}{kd:IntKind}(ht:P.underlying t=some (.slice E))(hi:P.info? E=some i)(hz:i.zero=some (.int kd 0))(hsize:i.size=1):
 lO P n w0 h0 ⟨ds,.buildSlice t 0 #[],ty,ps,af,gd⟩ e L h (λv r=>r=.us E kd v []):=
 zCT (ps':=[]) (vs:=[]) ht hi hz hsize rfl (λ_ _=>by simp) rfl rfl zot
theorem pF{t E:TypeId}{i:TypeInfo}{kd:IntKind}{x:Operand}{p:Nat}(ht:P.underlying t=some (.slice E))(hi:P.info? E=some i)(hz:i.zero=some (.int kd 0))(hsize:i.size=1)(hx:zJ e x=some (vU kd p)):
 lO P n w0 h0 ⟨ds,.buildSlice t 1 #[(0,x)],ty,ps,af,gd⟩ e L h (λv r=>r=.us E kd v [p]):=
 zCT (ps':=[(0,vU kd p)]) (vs:=[vU kd p]) ht hi hz hsize rfl (λa Ev=>by simp[Ev.eval hx]) rfl rfl zot
theorem zGB{t E:TypeId}{i:TypeInfo}{kd:IntKind}{x y:Operand}{p q:Nat}(ht:P.underlying t=some (.slice E))(hi:P.info? E=some i)(hz:i.zero=some (.int kd 0))(hsize:i.size=1)(hx:zJ e x=some (vU kd p))(hy:zJ e y=some (vU kd q)):
 lO P n w0 h0 ⟨ds,.buildSlice t 2 #[(0,x),(1,y)],ty,ps,af,gd⟩ e L h (λv r=>r=.us E kd v [p,q]):=
 zCT (ps':=[(0,vU kd p),(1,vU kd q)]) (vs:=[vU kd p,vU kd q]) ht hi hz hsize rfl (λa Ev=>by simp[Ev.eval hx,Ev.eval hy]) rfl rfl zot
def qO(xs:List Nat):ByteArray:=⟨(xs.map UInt8.ofNat).toArray⟩
theorem zJ7{v:Value}{xs:List Nat}{s t E:TypeId}{x:Operand}(hs:P.underlying s=some (.slice E))(he:P.underlying E=some (.int .u8))(ht:P.underlying t=some .string)(hx:zJ e x=some v)(hv:Us .u8 h v xs):
 OpV P n w0 h0 ⟨ds,.convert s t x,ty,ps,af,gd⟩ e L h (.string (qO xs)):=by
 intro a w Ev S;obtain⟨U,C,rfl,h1,h2,h3,M⟩:=hv.sl;have H:(convert s t (.slice U xs.length C)).run P w=.ok (.string (qO xs)) w:=by
  by_cases hnil:U=none
  · subst hnil
    have D:xs=[]:=by
     cases xs with
     |nil=>rfl
     |cons c cs=>obtain⟨b,o,Z,_⟩:=M 0 (by simp[Bk.us]);cases Z
    subst D;exact run_convert_bytes_nil (P:=P) (w:=w) s E hs he 0 C t ht
  · obtain⟨p,rfl⟩:=Option.ne_none_iff_exists'.1 hnil
    by_cases D:xs=[]
    · subst D
      show(convert s t (.slice (some p) 0 C)).run P w=_
      rw[run_convert_bytes_string w s t E _ 0 C hs he ht];simp[Conv.bytesToString,loadCells,loadCellsFrom,qO]
      rfl
    · have G:0<xs.length:=List.length_pos_iff.2 D
      obtain⟨b,o,J,_⟩:=M 0 (by simpa[Bk.us] using G)
      cases J
      have h6:=run_convert_bytes_arg (P:=P) w s E hs he b o xs.length C (xs.map λ(x:Nat)=>(x:Int)) zo2 (λi hi=>by
       obtain⟨b',o',J,O⟩:=M i (by simpa[Bk.us] using hi)
       cases J
       rw[zOB hi] at O;have h7:=lK S.sub O;rw[h7];simp[vU,hi]) t ht
      rw[h6];have h8:strOfNums (xs.map λ(x:Nat)=>(x:Int))=qO xs:=by
       simp only[strOfNums,qO,List.map_map]
       congr 2
      rw[h8]
 simp[execOp,Ev.eval hx,H]
theorem Us.str_size{xs:List Nat}:(qO xs).size=xs.length:=by simp[qO,ByteArray.size]
theorem zC3{ops:Array Oper}{l:List Oper}{E:Nat}{k:IntKind}(k':GL P n w0 h0 ops Q l e (.us E k (.slice none 0 0) []::L) h):GL P n w0 h0 ops Q l e L h:=by
 intro a w D S;refine k' a w D (S.new (r:=.us E k (.slice none 0 0) []) ⟨I,I,I,Nat.le_refl _,λ_ _ _=>I⟩ (World.ownsRow_nil w _ _ _) (λb C=>?_));simp[Res.us,Res.fp,Value.ownBlock] at C
theorem Us.nil_of{k:IntKind}{h:Mem}{m cap:Nat}{xs:List Nat}(hv:Us k h (.slice none m cap) xs):xs=[]:=by
 obtain⟨a,c,C,_,_,_,G⟩:=hv.sl
 cases C
 cases xs with
 |nil=>rfl
 |cons x xs=>obtain⟨b,o,D,_⟩:=G 0 (by simp[Bk.us]);cases D
theorem zJ5{s:ByteArray}{t:TypeId}{x y:Operand}{q:Int}(f:Nat->Nat)(i:Nat)(ht:P.underlying t=some .string)(hx:zJ e x=some (.string s))(hy:zJ e y=some (.int .u8 q))(hq:q=(i:Int))(hf:∀j,(hj:j<s.size)->(s.get j hj).toNat=f j)(hi:i<s.size):
 OpV P n w0 h0 ⟨ds,.index t x y,ty,ps,af,gd⟩ e L h (vU .u8 (f i)):=by
 subst hq;intro a w C S;have h1:s[i]?=some (s.get i hi):=by rw[getElem?_pos s i hi];rfl
 have h2:=hf i hi;simp[execOp,C.eval hx,C.eval hy,Instr.index,asIntOf,vU,run_underlying ht,h1,h2]
theorem zMA{ts:Array TypeId}{x y:Operand}{p q:Int}(hx:zJ e x=some (vI p))(hy:zJ e y=some (vI q)):OpV P n w0 h0 ⟨ds,.call {callee:=.builtin .max,args:=#[x,y],argTypes:=ts},ty,ps,af,gd⟩ e L h (vI (max p q)):=by
 intro a w C S;have:(if q>p then q else p)=max p q:=by omega
 simp[execOp,resolve,invoke,builtin,C.eval hx,C.eval hy,Builtin.max_,Builtin.max2,vI,List.foldlM,this]
theorem zWR{ts:Array TypeId}{x y:Operand}{p q:Int}(hx:zJ e x=some (vI p))(hy:zJ e y=some (vI q)):OpV P n w0 h0 ⟨ds,.call {callee:=.builtin .min,args:=#[x,y],argTypes:=ts},ty,ps,af,gd⟩ e L h (vI (min p q)):=by
 intro a w C S;have:(if q<p then q else p)=min p q:=by omega
 simp[execOp,resolve,invoke,builtin,C.eval hx,C.eval hy,Builtin.min_,Builtin.min2,vI,List.foldlM,this]
theorem zWQ{k:IntKind}{ts:Array TypeId}{x y:Operand}{p q:Nat}(hx:zJ e x=some (vU k p))(hy:zJ e y=some (vU k q)):OpV P n w0 h0 ⟨ds,.call {callee:=.builtin .min,args:=#[x,y],argTypes:=ts},ty,ps,af,gd⟩ e L h (vU k (min p q)):=by
 intro a w C S;have:(if q<p then(q:Int) else(p:Int))=((min p q:Nat):Int):=by split<;>omega
 simp only[execOp,resolve,invoke,builtin];simp[C.eval hx,C.eval hy,Builtin.min_,Builtin.min2,vU,List.foldlM,this]
theorem zUA{ops:Array Oper}{l:List Oper}{A B:List Res}{E:Nat}{k:IntKind}{v:Value}{xs:List Nat}(m:Nat)(hm:m<=xs.length)(k':GL P n w0 h0 ops Q l e (A++.us E k (fX 1 v 0 m) (xs.take m)::B) h):GL P n w0 h0 ops Q l e (A++.us E k v xs::B) h:=by
 intro a w O S;have C:=S.ok (.us E k v xs) zo2;refine k' a w O (S.grown (r':=.us E k (fX 1 v 0 m) (xs.take m)) ⟨I,I,I,Nat.le_refl _,λ_ _ _=>I⟩ ?_ ?_)
 · obtain⟨J,H⟩:=C
   have D:(xs.take m).length=m:=by rw[List.length_take];omega
   refine⟨by simp[Bk.us],?_⟩
   rcases H with⟨rfl,h0'⟩|⟨g,cap,cur,rfl,G,hg,hn,hcm,hcs,ht⟩
   · have:m=0:=by omega
     subst this;exact .inl ⟨I,by simp⟩
   · right
     refine⟨g,cap,cur,?_,G,hg,by omega,hcm,hcs,?_⟩
     · rw[D]
       simp only[fX,Nat.zero_mul,Nat.sub_zero,Option.map_some,jY,Nat.add_zero,ite_self]
     · have M:Bk.us k (xs.take m)=(Bk.us k xs).take m:=by rw[Bk.us,Bk.us,List.map_take]
       rw[D,M,<-ht,List.take_take]
       congr 1
       omega
 · intro b G
   left
   obtain⟨J,H⟩:=C
   rcases H with⟨rfl,h0'⟩|⟨g,cap,cur,rfl,_⟩
   · simp[Res.us,Res.fp,fX,Value.ownBlock] at G
   · simpa only[Res.us,Res.fp,fX,Value.ownBlock,Nat.zero_mul,Nat.sub_zero,Option.map_some,jY,Nat.add_zero,ite_self] using G
theorem St.own_us{A B:List Res}{E:Nat}{k:IntKind}{v:Value}{xs:List Nat}{w:World}(S:St w0 h0 (A++.us E k v xs::B) h w)(hlt:∀x∈xs,x<ub k):Us k (mem w) v xs:=by
 obtain⟨G,D⟩:=S.ok (.us E k v xs) zo2
 rcases D with⟨rfl,h0'⟩|⟨g,cap,cur,rfl,hb,hg,hn,hm,hcs,ht⟩
 · have C:xs=[]:=zof h0'
   subst C;exact Us.nil _ _
 · refine⟨⟨_,cap,I,hn,hm,G,λi hi=>⟨g,0,I,?_⟩⟩,hlt⟩
   have:(mem w) g=some (.cells cur E):=hg;unfold cell;rw[this];simp only[Nat.zero_add];rw[<-ht,List.getElem?_take,if_pos (by simpa[Bk.us] using hi)];simp
def byt(s:ByteArray):List Nat:=s.data.toList.map UInt8.toNat
section steps
variable {ops:Array Oper}{R:List Res}{d:Nat}{op:Op}
theorem fF{A B:List Res}{q:Res}{G:Value->Res->Prop}{W':List (Nat×Value)->List Res->Mem->Prop}(hv:∀X,zD2 P n w0 h0 ⟨some d,op,ty,ps,af,none⟩ e A q (B++X) h G)(hn:Nat.ble (d+1) n=true)
    (hR:∀r∈R,∀q',r∈A++q::B->r∈A++q'::B)(k:∀v q',G v q'->W' ((d,v)::e) (A++q'::B) h):kB P n w0 h0 ops R ⟨some d,op,ty,ps,af,none⟩ e (A++q::B) h W':=by
 intro X a w Ev S;have M:St w0 h0 (A++q::(B++X)) h w:=by simpa using S
 unfold qT;rw[if_pos (wn I)];obtain⟨v,w',q',C,H,D,J,U⟩:=hv X a w Ev M;rw[C];have Z:=M.grown H D J;exact⟨λd' O=>(by cases O;exact Nat.le_of_ble_eq_true hn),A++q'::B,h,MLe.refl h,λhh r C=>hR r C q' (hh r C),by simpa using Z,k v q' U⟩
end steps
end
end Bk
namespace Go.Proofs.YtpkaegemlpaenaaGreat
open Bk Go Tryz
theorem yK1:Tryz.prog.info? 2=some Tryz.t2:=by kernel_rfl
theorem jV:Tryz.prog.info? 3=some Tryz.t3:=by kernel_rfl
theorem zYH:Tryz.prog.info? 4=some Tryz.t4:=by kernel_rfl
theorem zRK:Tryz.prog.info? 5=some Tryz.t5:=by kernel_rfl
theorem yK0:Tryz.prog.info? 9=some Tryz.t9:=by kernel_rfl
theorem qX:Tryz.prog.info? 22=some Tryz.t22:=by kernel_rfl
theorem yHU:Tryz.prog.info? 27=some Tryz.t27:=by kernel_rfl
theorem xR:Tryz.prog.info? 29=some Tryz.t29:=by kernel_rfl
theorem yM:Tryz.prog.info? 31=some Tryz.t31:=by kernel_rfl
theorem cZ:Tryz.prog.info? 35=some Tryz.t35:=by kernel_rfl
theorem yHT:Tryz.prog.info? 36=some Tryz.t36:=by kernel_rfl
theorem yHS:Tryz.prog.info? 37=some Tryz.t37:=by kernel_rfl
theorem qS:Tryz.prog.info? 39=some Tryz.t39:=by kernel_rfl
theorem sM:Tryz.prog.info? 50=some Tryz.t50:=by kernel_rfl
theorem zP4:Tryz.prog.info? 51=some Tryz.t51:=by kernel_rfl
theorem jE:Tryz.prog.info? 53=some Tryz.t53:=by kernel_rfl
theorem yHR:Tryz.prog.info? 56=some Tryz.t56:=by kernel_rfl
theorem yHQ:Tryz.prog.info? 58=some Tryz.t58:=by kernel_rfl
theorem zYG:Tryz.prog.info? 72=some Tryz.t72:=by kernel_rfl
theorem yHP:Tryz.prog.info? 76=some Tryz.t76:=by kernel_rfl
theorem yHO:Tryz.prog.info? 96=some Tryz.t96:=by kernel_rfl
theorem yHN:Tryz.prog.info? 97=some Tryz.t97:=by kernel_rfl
theorem zKV:Tryz.prog.info? 99=some Tryz.t99:=by kernel_rfl
theorem dU:Tryz.prog.info? 118=some Tryz.t118:=by kernel_rfl
theorem uP:Tryz.prog.info? 124=some Tryz.t124:=by kernel_rfl
theorem oU:Tryz.prog.info? 140=some Tryz.t140:=by kernel_rfl
theorem zBT:Tryz.prog.info? 151=some Tryz.t151:=by kernel_rfl
theorem nF:Tryz.prog.info? 153=some Tryz.t153:=by kernel_rfl
theorem zER:Tryz.prog.info? 168=some Tryz.t168:=by kernel_rfl
theorem jR:Tryz.prog.info? 200=some Tryz.t200:=by kernel_rfl
theorem zRL:Tryz.prog.info? 237=some Tryz.t237:=by kernel_rfl
theorem yJ9:(Tryz.prog.info? 2).map (·.size)=some 1:=by rw[yK1];rfl
theorem yDN:(Tryz.prog.info? 3).map (·.size)=some 1:=by rw[jV];rfl
theorem zVJ:(Tryz.prog.info? 4).map (·.size)=some 1:=by rw[zYH];rfl
theorem yJ8:(Tryz.prog.info? 5).map (·.size)=some 1:=by rw[zRK];rfl
theorem yJ7:(Tryz.prog.info? 9).map (·.size)=some 1:=by rw[yK0];rfl
theorem yF8:(Tryz.prog.info? 22).map (·.size)=some 1:=by rw[qX];rfl
theorem zVK:(Tryz.prog.info? 27).map (·.size)=some 1:=by rw[yHU];rfl
theorem yF:(Tryz.prog.info? 29).map (·.size)=some 3:=by rw[xR];rfl
theorem qL{fs:Array Go.Field}(hu:Tryz.prog.underlying 29=some (.struct fs))(w:Go.World):(fs.mapM λ(f:Go.Field)=>do pure (f.offset,<-Go.sizeOf f.type)).run Tryz.prog w=.ok #[(0,1),(1,1),(2,1)] w:=by
 rw[underlying29] at hu
 cases hu
 simp[sizeOf4,sizeOf27,sizeOf27]
theorem yF7:(Tryz.prog.info? 31).map (·.size)=some 9:=by rw[yM];rfl
theorem yF6:(Tryz.prog.info? 35).map (·.size)=some 1:=by rw[cZ];rfl
theorem yF5:(Tryz.prog.info? 36).map (·.size)=some 1:=by rw[yHT];rfl
theorem yF4:(Tryz.prog.info? 37).map (·.size)=some 1:=by rw[yHS];rfl
theorem yF3:(Tryz.prog.info? 39).map (·.size)=some 3:=by rw[qS];rfl
theorem rH{fs:Array Go.Field}(hu:Tryz.prog.underlying 39=some (.struct fs))(w:Go.World):(fs.mapM λ(f:Go.Field)=>do pure (f.offset,<-Go.sizeOf f.type)).run Tryz.prog w=.ok #[(0,1),(1,1),(2,1)] w:=by
 rw[underlying39] at hu
 cases hu
 simp[sizeOf35,sizeOf36,sizeOf37]
theorem yF2:(Tryz.prog.info? 50).map (·.size)=some 12:=by rw[sM];rfl
theorem rG{fs:Array Go.Field}(hu:Tryz.prog.underlying 50=some (.struct fs))(w:Go.World):(fs.mapM λ(f:Go.Field)=>do pure (f.offset,<-Go.sizeOf f.type)).run Tryz.prog w=.ok #[(0,9),(9,3)] w:=by
 rw[underlying50] at hu
 cases hu
 simp[sizeOf31,sizeOf29]
theorem yF1:(Tryz.prog.info? 51).map (·.size)=some 1:=by rw[zP4];rfl
theorem yF0:(Tryz.prog.info? 53).map (·.size)=some 14:=by rw[jE];rfl
theorem bN{fs:Array Go.Field}(hu:Tryz.prog.underlying 53=some (.struct fs))(w:Go.World):(fs.mapM λ(f:Go.Field)=>do pure (f.offset,<-Go.sizeOf f.type)).run Tryz.prog w=.ok #[(0,12),(12,1),(13,1)] w:=by
 rw[underlying53] at hu
 cases hu
 simp[sizeOf50,sizeOf51,sizeOf9]
theorem yFZ:(Tryz.prog.info? 56).map (·.size)=some 27:=by rw[yHR];rfl
theorem yFY:(Tryz.prog.info? 58).map (·.size)=some 36:=by rw[yHQ];rfl
theorem yFX:(Tryz.prog.info? 72).map (·.size)=some 2:=by rw[zYG];rfl
theorem zWJ{fs:Array Go.Field}(hu:Tryz.prog.underlying 72=some (.struct fs))(w:Go.World):(fs.mapM λ(f:Go.Field)=>do pure (f.offset,<-Go.sizeOf f.type)).run Tryz.prog w=.ok #[(0,1),(1,1)] w:=by
 rw[underlying72] at hu
 cases hu
 simp[sizeOf22,sizeOf3]
theorem yFW:(Tryz.prog.info? 76).map (·.size)=some 1:=by rw[yHP];rfl
theorem yFV:(Tryz.prog.info? 96).map (·.size)=some 1:=by rw[yHO];rfl
theorem yFU:(Tryz.prog.info? 97).map (·.size)=some 1:=by rw[yHN];rfl
theorem yFT:(Tryz.prog.info? 99).map (·.size)=some 2:=by rw[zKV];rfl
theorem yA5:(Tryz.prog.info? 118).map (·.size)=some 2:=by rw[dU];rfl
theorem yA4:(Tryz.prog.info? 124).map (·.size)=some 1:=by rw[uP];rfl
theorem yA3:(Tryz.prog.info? 140).map (·.size)=some 15:=by rw[oU];rfl
theorem zS6{fs:Array Go.Field}(hu:Tryz.prog.underlying 140=some (.struct fs))(w:Go.World):(fs.mapM λ(f:Go.Field)=>do pure (f.offset,<-Go.sizeOf f.type)).run Tryz.prog w=.ok #[(0,12),(12,1),(13,1),(14,1)] w:=by
 rw[underlying140] at hu
 cases hu
 simp[sizeOf50,sizeOf76,sizeOf3,sizeOf3]
theorem yA2:(Tryz.prog.info? 151).map (·.size)=some 18:=by rw[zBT];rfl
theorem yA1:(Tryz.prog.info? 153).map (·.size)=some 19:=by rw[nF];rfl
theorem zS5{fs:Array Go.Field}(hu:Tryz.prog.underlying 153=some (.struct fs))(w:Go.World):(fs.mapM λ(f:Go.Field)=>do pure (f.offset,<-Go.sizeOf f.type)).run Tryz.prog w=.ok #[(0,9),(9,9),(18,1)] w:=by
 rw[underlying153] at hu
 cases hu
 simp[sizeOf31,sizeOf31,sizeOf4]
theorem yA0:(Tryz.prog.info? 168).map (·.size)=some 5:=by rw[zER];rfl
theorem zS4{fs:Array Go.Field}(hu:Tryz.prog.underlying 168=some (.struct fs))(w:Go.World):(fs.mapM λ(f:Go.Field)=>do pure (f.offset,<-Go.sizeOf f.type)).run Tryz.prog w=.ok #[(0,1),(1,1),(2,1),(3,1),(4,1)] w:=by
 rw[underlying168] at hu
 cases hu
 simp[sizeOf3,sizeOf3,sizeOf3,sizeOf3,sizeOf3]
theorem yAZ:(Tryz.prog.info? 200).map (·.size)=some 5:=by rw[jR];rfl
theorem zCM{fs:Array Go.Field}(hu:Tryz.prog.underlying 200=some (.struct fs))(w:Go.World):(fs.mapM λ(f:Go.Field)=>do pure (f.offset,<-Go.sizeOf f.type)).run Tryz.prog w=.ok #[(0,1),(1,1),(2,1),(3,1),(4,1)] w:=by
 rw[underlying200] at hu
 cases hu
 simp[sizeOf40,sizeOf3,sizeOf3,sizeOf3,sizeOf3]
theorem yAA:Tryz.prog.funcs[194]?=some (Tryz.prog.funcs[194]!):=by kernel_rfl
theorem yLR(x y:Nat)(w:World):(callFunc 194 #[vU .u64 x,vU .u64 y,vU .u64 0]).run Tryz.prog w=.ok (.value (.tuple #[vU .u64 ((x+y)%18446744073709551616),vU .u64 ((x+y)/18446744073709551616)])) w:=by
 unfold vU;rw[run_callFunc_extern yAA zou zou zou (e:=add64Entry) zou,run_add64 x y (0:Nat) zot zot zot zot];simp only[Result.andThen]
 congr 5<;>omega
theorem yA:Tryz.prog.follows .mixedOrders=true:=by kernel_rfl
end Go.Proofs.YtpkaegemlpaenaaGreat
namespace Bk
def val:List Nat->Nat
  |[]=>0
  |x::xs=>x+4294967296*val xs
def zB(n:Nat):List Nat:=if n=0 then[] else n%4294967296::zB (n/4294967296)
termination_by n
decreasing_by omega
def Fit(xs:List Nat):Prop:=∀x∈xs,x<4294967296
theorem xK:zB 0=[]:=by unfold zB;simp
theorem kX{n:Nat}(h:0<n):zB n=n%4294967296::zB (n/4294967296):=by
 rw[zB,if_neg zot]
theorem zE(n:Nat):val (zB n)=n:=by
 induction n using Nat.strongRecOn with
 |_ n ih=>
  by_cases h:n=0
  · subst h;simp[xK,val]
  · rw[kX zot,val,ih _ zot];omega
theorem wO(n:Nat):Fit (zB n):=by
 induction n using Nat.strongRecOn with
 |_ n ih=>
  by_cases h:n=0
  · subst h;simp[xK,Fit]
  · rw[kX zot]
    intro x hx
    rcases List.mem_cons.1 hx with rfl|hx
    · omega
    · exact ih _ zot x hx
theorem dT{m n:Nat}(h:zB m=zB n):m=n:=by rw[<-zE m,<-zE n,h]
theorem rN{x:Nat}{xs:List Nat}:Fit (x::xs)↔x<4294967296/\Fit xs:=by simp[Fit]
theorem fV{xs:List Nat}(h:Fit xs)(k:Nat):Fit (xs.take k):=λx hx=>h x (List.mem_of_mem_take hx)
theorem iS{xs:List Nat}(h:Fit xs)(k:Nat):Fit (xs.drop k):=λx hx=>h x (List.mem_of_mem_drop hx)
theorem zBR{xs:List Nat}(hf:Fit xs)(hl:xs=[]\/0<xs.getD (xs.length-1) 0):zB (val xs)=xs:=by
 induction xs with
 |nil=>simp[val,xK]
 |cons x xs ih=>
  have hx:=(rN.1 hf).1;have hxs:=(rN.1 hf).2;have hpos:0<val (x::xs):=by
   by_cases he:xs=[]
   · subst he
     simp at hl;simp[val];omega
   · have hne:0<xs.length:=by cases xs with|nil=>exact absurd rfl he|cons _ _=>simp
     have:0<val xs:=by
      have:=ih hxs (.inr (by
       rcases hl with hl|hl
       · simp at hl
       · have e:(x::xs).length-1=(xs.length-1)+1:=by simp;omega
         rw[e] at hl
         simpa using hl))
      cases hv:val xs with
      |zero=>rw[hv,xK] at this;exact absurd this.symm he
      |succ k=>omega
     simp only[val];omega
  rw[kX hpos];have e1:val (x::xs)%4294967296=x:=by simp only[val];omega
  have e2:val (x::xs)/4294967296=val xs:=by simp only[val];omega
  rw[e1,e2,ih hxs]
  rcases hl with hl|hl
  · simp at hl
  · by_cases he:xs=[]
    · exact .inl he
    · have hne:0<xs.length:=by cases xs with|nil=>exact absurd rfl he|cons _ _=>simp
      have e:(x::xs).length-1=(xs.length-1)+1:=by simp;omega
      rw[e] at hl;exact .inr (by simpa using hl)
theorem aV(xs ys:List Nat):val (xs++ys)=val xs+4294967296^xs.length*val ys:=by
 induction xs with
 |nil=>simp[val]
 |cons x xs ih=>simp only[List.cons_append,val,ih,lC,Nat.pow_succ];rw[Nat.mul_add,<-Nat.mul_assoc,Nat.mul_comm 4294967296 (4294967296^xs.length)];omega
theorem bA(k:Nat):val (List.replicate k 0)=0:=by
 induction k with
 |zero=>rfl
 |succ k ih=>simp[List.replicate_succ,val,ih]
theorem zCD{xs:List Nat}(h:∀x∈xs,x=0):val xs=0:=by
 induction xs with
 |nil=>rfl
 |cons x xs ih=>
  have:=h x zo2;rw[val,ih λy hy=>h y (by simp[hy])];omega
theorem fJ(xs:List Nat)(k:Nat)(hk:k<=xs.length):val xs=val (xs.take k)+4294967296^k*val (xs.drop k):=by
 have:=aV (xs.take k) (xs.drop k);rw[List.take_append_drop,List.length_take,Nat.min_eq_left hk] at this;exact this
theorem kY{xs:List Nat}(h:Fit xs):val xs<4294967296^xs.length:=by
 induction xs with
 |nil=>simp[val]
 |cons x xs ih=>
  have h1:=ih (rN.1 h).2;have h2:=(rN.1 h).1;simp only[val,lC,Nat.pow_succ];have:4294967296*(val xs+1)<=4294967296*4294967296^xs.length:=Nat.mul_le_mul_left _ h1;rw[Nat.mul_comm (4294967296^xs.length)];omega
theorem tJ(xs:List Nat)(k:Nat)(hk:k<xs.length):xs.drop k=xs.getD k 0::xs.drop (k+1):=by
 rw[List.drop_eq_getElem_cons hk];simp[hk]
theorem iY(xs:List Nat)(k:Nat)(hk:k<xs.length):xs.take (k+1)=xs.take k++[xs.getD k 0]:=by
 rw[List.take_succ_eq_append_getElem hk];simp[hk]
theorem uX(xs:List Nat)(k:Nat)(hk:k<xs.length):val (xs.take (k+1))=val (xs.take k)+4294967296^k*xs.getD k 0:=by
 rw[iY xs k hk,aV,List.length_take,Nat.min_eq_left zot];simp[val]
theorem kE(xs:List Nat)(k:Nat)(hk:k<xs.length):val (xs.drop k)=xs.getD k 0+4294967296*val (xs.drop (k+1)):=by
 rw[tJ xs k hk,val]
theorem zH9{xs:List Nat}(hf:Fit xs){k:Nat}(hk:k<=xs.length)(hz:∀i,k<=i->xs.getD i 0=0)(ht:k=0\/xs.getD (k-1) 0≠0):xs.take k=zB (val xs):=by
 have h1:val (xs.drop k)=0:=zCD λx hx=>by
  obtain⟨i,hi,rfl⟩:=List.getElem_of_mem hx;have:=hz (k+i) zot;simp only[List.length_drop] at hi;rw[zoa,zoc zot] at this
  simpa using this
 have h2:=fJ xs k hk;rw[h1,Nat.mul_zero,Nat.add_zero] at h2;rw[h2];refine(zBR (fV hf k) ?_).symm
 by_cases h0:k=0
 · exact .inl (by simp[h0])
 · right
   rcases ht with ht|ht
   · exact absurd ht h0
   · have C:(xs.take k).length=k:=by rw[List.length_take];omega
     rw[C];have:(xs.take k).getD (k-1) 0=xs.getD (k-1) 0:=by
      simp only[zoa];rw[List.getElem?_take,if_pos zot]
     rw[this];omega
def tT(s:List Nat)(n:Nat):List Nat:=s++List.replicate (n-s.length) 0
theorem uJ{s:List Nat}{n:Nat}(h:s.length<=n):(tT s n).length=n:=by simp[tT];omega
theorem bY{s:List Nat}{n:Nat}(h:s.length=n):tT s n=s:=by simp[tT,h]
theorem pK{s:List Nat}{n:Nat}(h:s.length<n)(y:Nat):(tT s n).set s.length y=tT (s++[y]) n:=by
 unfold tT;rw[List.set_append_right _ _ (Nat.le_refl _),Nat.sub_self,lAz,List.length_singleton];have e:n-s.length=(n-(s.length+1))+1:=by omega
 rw[e,List.replicate_succ];simp
theorem uQ{xs ys:List Nat}(h:Fit xs)(k:Fit ys):Fit (xs++ys):=λx hx=>(List.mem_append.1 hx).elim (h x) (k x)
theorem aK{x:Nat}(h:x<4294967296):Fit [x]:=λy hy=>by simp at hy;omega
theorem rC(s:List Nat)(y:Nat):val (s++[y])=val s+4294967296^s.length*y:=by rw[aV];simp[val]
theorem qV{xs:List Nat}(h:Fit xs)(i:Nat):xs.getD i 0<4294967296:=by
 by_cases hi:i<xs.length
 · rw[zoa,zoc hi];exact h _ (List.getElem_mem hi)
 · rw[zoa,List.getElem?_eq_none zot];decide
theorem sQ{xs:List Nat}{i:Nat}(h:xs.length<=i):xs.getD i 0=0:=by rw[zoa,List.getElem?_eq_none h];rfl
theorem uH(xs:List Nat)(k:Nat):val (xs.take (k+1))=val (xs.take k)+4294967296^k*xs.getD k 0:=by
 by_cases hk:k<xs.length
 · exact uX xs k hk
 · rw[sQ zot,List.take_of_length_le zot,List.take_of_length_le zot];omega
theorem wA{xs:List Nat}{k:Nat}(h:xs.length<=k):val (xs.take k)=val xs:=by rw[List.take_of_length_le h]
def rQ(m n:Nat):Int:=if m<n then -1 else if m=n then 0 else 1
theorem zB3{m n:Nat}(h:m<n):rQ m n= -1:=by simp[rQ,h]
theorem zR3(m:Nat):rQ m m=0:=by simp[rQ]
theorem zB4{m n:Nat}(h:n<m):rQ m n=1:=by
 have h1:¬m<n:=by omega
 have h2:m≠n:=by omega
 simp[rQ,h1,h2]
theorem rO{m n:Nat}:rQ m n<0↔m<n:=by
 unfold rQ;split
 · simp_all
 · split<;>simp_all
theorem zNW{m n:Nat}:0<rQ m n↔n<m:=by
 unfold rQ;split
 · simp_all;omega
 · split
   · simp_all
   · simp;omega
theorem zDB{m n:Nat}:rQ m n=0↔m=n:=by
 unfold rQ;split
 · simp;omega
 · split<;>simp_all
theorem yL{m n:Nat}(h:m<=n):(zB m).length<=(zB n).length:=by
 induction n using Nat.strongRecOn generalizing m with
 |_ n ih=>
  by_cases hm:m=0
  · subst hm;simp[xK]
  · rw[kX zot,kX (show 0<n by omega)]
    have:=ih (n/4294967296) zot (Nat.div_le_div_right (c:=4294967296) h);simp only[lC];omega
theorem rT{m n:Nat}(h:(zB m).length<(zB n).length):m<n:=by
 rcases Nat.lt_or_ge m n with h'|h'
 · exact h'
 · have:=yL h';omega
theorem qD{xs:List Nat}(h:Fit xs):(zB (val xs)).length<=xs.length:=by
 induction xs with
 |nil=>simp[val,xK]
 |cons x xs ih=>
  have h2:=(rN.1 h).1
  by_cases h0:val (x::xs)=0
  · rw[h0,xK];simp
  · rw[kX zot]
    have e:val (x::xs)/4294967296=val xs:=by simp only[val];omega
    rw[e];have:=ih (rN.1 h).2;simp only[lC];omega
theorem qN{n k:Nat}(h:n<4294967296^k):(zB n).length<=k:=by
 induction k generalizing n with
 |zero=>simp at h;subst h;simp[xK]
 |succ k ih=>
  by_cases h0:n=0
  · subst h0;simp[xK]
  · rw[kX zot,lC]
    have:=ih (n:=n/4294967296) (by rw[Nat.pow_succ] at h;omega);omega
theorem sZ{n k:Nat}(h:k<(zB n).length):4294967296^k<=n:=by
 rcases Nat.lt_or_ge n (4294967296^k) with h'|h'
 · have:=qN h';omega
 · exact h'
theorem zEE{A B:List Nat}(hA:Fit A)(hl:A.length=B.length){j:Nat}(h1:1<=j)(hj:j<=A.length)(hd:A.drop j=B.drop j)(hlt:A.getD (j-1) 0<B.getD (j-1) 0):val A<val B:=by
 have G:=fJ A (j-1) zot;have H:=fJ B (j-1) zot;rw[kE A (j-1) zot] at G;rw[kE B (j-1) zot] at H;have e:j-1+1=j:=by omega
 rw[e] at G H;rw[hd] at G;have D:=kY (fV hA (j-1));rw[List.length_take,Nat.min_eq_left zot] at D;have C:4294967296^(j-1)*(A.getD (j-1) 0+4294967296*val (B.drop j)+1)<=4294967296^(j-1)*(B.getD (j-1) 0+4294967296*val (B.drop j)):=Nat.mul_le_mul_left _ zot;rw[Nat.mul_add,Nat.mul_one] at C;omega
def uK(n:Nat):Nat:=if n=0 then 0 else Nat.log2 n+1
theorem zQG:uK 0=0:=rfl
theorem mS{n k:Nat}(h:n<2^k):uK n<=k:=by
 unfold uK
 split
 · omega
 · rename_i h0
   have:=(Nat.log2_lt h0).2 h;omega
theorem zZR{n k:Nat}(h1:2^k<=n)(h2:n<2^(k+1)):uK n=k+1:=by
 have C:0<2^k:=Nat.pow_pos zot;unfold uK;rw[if_neg zot];have a:=(Nat.log2_lt (n:=n) (k:=k+1) zot).2 h2;have b:¬Nat.log2 n<k:=λD=>by
  have:=(Nat.log2_lt (n:=n) (k:=k) zot).1 D;omega
 omega
theorem oO(n:Nat):n<2^uK n:=by
 unfold uK
 split
 · omega
 · rename_i h0
   exact Nat.lt_log2_self
theorem zA9{n:Nat}(h:n≠0):2^(uK n-1)<=n:=by
 unfold uK;rw[if_neg h];exact Nat.log2_self_le h
theorem zJF{n:Nat}(h:n≠0):0<uK n:=by unfold uK;rw[if_neg h];omega
theorem j1{n k r:Nat}(h:n≠0)(hr:r<2^k):uK (n*2^k+r)=uK n+k:=by
 have h1:=zA9 h;have h2:=oO n;have h3:=zJF h;have e:uK n+k=(uK n-1+k)+1:=by omega
 rw[e];refine zZR ?_ ?_
 · rw[Nat.pow_add]
   have:=Nat.mul_le_mul_right (2^k) h1;omega
 · have C:uK n-1+k+1=uK n+k:=by omega
   rw[C,Nat.pow_add];have:(n+1)*2^k<=2^uK n*2^k:=Nat.mul_le_mul_right _ h2;rw[Nat.add_mul] at this;omega
theorem zDE{n k:Nat}(h:2^k<=n):uK n=uK (n/2^k)+k:=by
 have C:0<2^k:=Nat.pow_pos zot;have h0:n/2^k≠0:=Nat.ne_of_gt (Nat.div_pos h C);have e:n=n/2^k*2^k+n%2^k:=(Nat.div_add_mod' n (2^k)).symm;have:=j1 h0 (Nat.mod_lt n C);rw[<-e] at this;exact this
theorem zDD{xs:List Nat}(hf:Fit xs){k:Nat}(hk:k+1=xs.length)(ht:xs.getD k 0≠0):uK (val xs)=32*k+uK (xs.getD k 0):=by
 have e:=fJ xs k zot;rw[kE xs k zot,List.drop_of_length_le zot] at e;have h1:=kY (fV hf k);rw[List.length_take,Nat.min_eq_left zot] at h1;have D:(4294967296:Nat)^k=2^(32*k):=by rw[Nat.pow_mul]
 rw[D] at e h1;have:=j1 ht h1;have C:val xs=xs.getD k 0*2^(32*k)+val (xs.take k):=by
  rw[e];simp[val];rw[Nat.mul_comm];omega
 rw[C,this];omega
theorem cD{r x:Nat}(hr:r<4294967296)(hx:x<4294967296):r*2^32%18446744073709551616 |||x=r*4294967296+x:=by
 have e:r*2^32%18446744073709551616=2^32*r:=by omega
 rw[e,<-Nat.two_pow_add_eq_or_of_lt zot];omega
theorem zO9{c x s:Nat}(hc:c<2^s):c |||x*2^s=x*2^s+c:=by
 rw[Nat.or_comm,Nat.mul_comm,<-Nat.two_pow_add_eq_or_of_lt hc]
theorem lT{xs:List Nat}{i:Nat}(hi:i<xs.length)(y:Nat):val (xs.set i y)+4294967296^i*xs.getD i 0=val xs+4294967296^i*y:=by
 have D:=fJ xs i zot;have C:=fJ (xs.set i y) i (by simp;omega);rw[kE xs i hi] at D;rw[kE (xs.set i y) i (by simpa using hi)] at C;have h1:(xs.set i y).take i=xs.take i:=by rw[List.take_set];exact List.set_eq_of_length_le (by rw[List.length_take];omega)
 have h2:(xs.set i y).drop (i+1)=xs.drop (i+1):=by rw[List.drop_set,if_pos zot]
 have h3:(xs.set i y).getD i 0=y:=by simp[hi]
 rw[h1,h2,h3] at C;rw[D,C];grind
theorem nI{xs:List Nat}(h:Fit xs)(i:Nat){y:Nat}(hy:y<4294967296):Fit (xs.set i y):=by
 intro x hx
 rcases List.mem_or_eq_of_mem_set hx with h1|h1
 · exact h x h1
 · omega
theorem zHY{xs:List Nat}{i:Nat}(hi:i<xs.length)(y:Nat):(xs.set i y).getD i 0=y:=by simp[hi]
theorem jL{xs:List Nat}{i j:Nat}(h:i≠j)(y:Nat):(xs.set i y).getD j 0=xs.getD j 0:=by
 simp[zoa,List.getElem?_set_ne h]
theorem kD(n:Nat):Fit (List.replicate n 0):=λx hx=>by rw[List.eq_of_mem_replicate hx];omega
theorem iR(n i:Nat):(List.replicate n 0).getD i 0=0:=by
 rw[zoa,List.getElem?_replicate];split<;>rfl
def fE(j:Nat)(s:List Nat):List Nat:=List.replicate j 0++s
theorem lJ(j:Nat):fE j []=List.replicate j 0:=by simp[fE]
theorem bZ(s:List Nat):fE 0 s=s:=rfl
theorem jG(j:Nat)(s:List Nat):(fE j s).length=j+s.length:=by simp[fE]
theorem lI{j:Nat}(h:0<j)(s:List Nat)(y:Nat):(fE j s).set (j-1) y=fE (j-1) (y::s):=by
 obtain⟨k,rfl⟩:∃k,j=k+1:=⟨j-1,by omega⟩;unfold fE;rw[Nat.add_sub_cancel,List.replicate_succ',List.append_assoc,List.set_append_right _ _ zo2];simp
theorem zE7{X Q q r r' x b t:Nat}(h:X=b*Q+r)(ht:t=r*4294967296+x)(hq:q=t/b)(hr:r'=t%b):x+4294967296*X=b*(q+4294967296*Q)+r':=by
 have:t=b*q+r':=by rw[hq,hr];exact(Nat.div_add_mod t b).symm
 grind
theorem sW{n:Nat}(h:0<(zB n).length):(zB n).getD ((zB n).length-1) 0≠0:=by
 induction n using Nat.strongRecOn with
 |_ n ih=>
  by_cases h0:n=0
  · subst h0;simp[xK] at h
  · rw[kX zot]
    by_cases h1:(zB (n/4294967296)).length=0
    · have e:zB (n/4294967296)=[]:=zof h1
      rw[e];have:n/4294967296=0:=by rw[<-zE (n/4294967296),e];rfl
      simp;omega
    · have:=ih (n/4294967296) zot zot
      have e:(n%4294967296::zB (n/4294967296)).length-1=((zB (n/4294967296)).length-1)+1:=by simp only[lC];omega
      rw[e]
      simpa using this
theorem zE4{xs:List Nat}(h:Fit xs):xs.take (zB (val xs)).length=zB (val xs):=by
 have J:=qD h;have e:val (xs.take (zB (val xs)).length)=val xs:=by
  have h1:=fJ xs (zB (val xs)).length J;have h2:val xs<4294967296^(zB (val xs)).length:=by
   have:=kY (wO (val xs))
   rwa [zE] at this
  have h3:val (xs.drop (zB (val xs)).length)=0:=Classical.byContradiction λH=>by
   have:4294967296^(zB (val xs)).length*1<=4294967296^(zB (val xs)).length*val (xs.drop (zB (val xs)).length):=Nat.mul_le_mul_left _ zot;omega
  rw[h3] at h1;omega
 have C:(xs.take (zB (val xs)).length).length=(zB (val xs)).length:=by rw[List.length_take];omega
 by_cases h0:(zB (val xs)).length=0
 · rw[h0];simp[zof h0]
 · rw[<-zBR (fV h _) ?_,e]
   right
   rw[C];refine Nat.pos_of_ne_zero λhz=>?_;have G:=uX (xs.take (zB (val xs)).length) ((zB (val xs)).length-1) zot;rw[Nat.sub_add_cancel zot,wA zot,e,hz,Nat.mul_zero,Nat.add_zero] at G;have D:=kY (fV (fV h (zB (val xs)).length) ((zB (val xs)).length-1));rw[<-G,List.length_take,C,Nat.min_eq_left zot] at D;have M:=qN D;omega
def u9(n:Nat):List Nat:=if n=0 then[] else n%10::u9 (n/10)
termination_by n
decreasing_by omega
theorem eC:u9 0=[]:=by unfold u9;simp
theorem zC8{n:Nat}(h:n≠0):u9 n=n%10::u9 (n/10):=by rw[u9];simp[h]
theorem zUI{n k:Nat}(h:n<10^k):(u9 n).length<=k:=by
 induction k generalizing n with
 |zero=>have:n=0:=by omega
        subst this;simp[eC]
 |succ k ih=>
  by_cases h0:n=0
  · subst h0;simp[eC]
  · rw[zC8 h0,lC]
    have:=ih (n:=n/10) (by rw[Nat.pow_succ] at h;omega);omega
theorem zZA(n:Nat):∀d∈u9 n,d<10:=by
 induction n using Nat.strongRecOn with
 |_ n ih=>
  by_cases h0:n=0
  · subst h0;simp[eC]
  · rw[zC8 h0]
    intro d hd
    rcases List.mem_cons.1 hd with rfl|hd
    · omega
    · exact ih (n/10) zot d hd
theorem zD9{xs:List Nat}(h:Fit xs):(u9 (val xs)).length<=10*xs.length:=by
 refine zUI (Nat.lt_of_lt_of_le (kY h) ?_);rw[Nat.pow_mul];exact Nat.pow_le_pow_left zot _
def y6(n:Nat):List Nat:=(u9 n).map (48+·)
def txt(n:Nat):List Nat:=if n=0 then[48] else(y6 n).reverse
theorem zJD:y6 0=[]:=by simp[y6,eC]
theorem zNY{n:Nat}(h:n≠0):y6 n=(48+n%10)::y6 (n/10):=by rw[y6,zC8 h];rfl
theorem zR9(n:Nat):∀d∈y6 n,d<256:=by
 intro d C;obtain⟨x,hx,rfl⟩:=List.mem_map.1 C;have:=zZA n x hx;omega
theorem zNZ{xs:List Nat}(h:Fit xs):(y6 (val xs)).length<=10*xs.length:=by rw[y6,List.length_map];exact zD9 h
theorem zUL{x n k:Nat}(h:x≠0\/n≠0):y6 (x+10^(k+1)*n)=(48+x%10)::y6 (x/10+10^k*n):=by
 have D:0<10^k:=Nat.pow_pos zot;have e:10^(k+1)*n=10*(10^k*n):=by rw[Nat.pow_succ,Nat.mul_comm (10^k) 10,Nat.mul_assoc]
 have C:x+10^(k+1)*n≠0:=by
  rcases h with h|h
  · omega
  · have:=Nat.mul_pos (Nat.pow_pos (n:=k+1) (show 0<10 by omega)) (Nat.pos_of_ne_zero h)
    omega
 rw[zNY C,e,show(x+10*(10^k*n))%10=x%10 by omega,show(x+10*(10^k*n))/10=x/10+10^k*n by omega]
theorem yP{n:Nat}:0<(zB n).length↔n≠0:=by
 by_cases h:n=0
 · subst h;simp[xK]
 · rw[kX zot];simp[h]
theorem qC(n:Nat):n<4294967296^(zB n).length:=by
 have:=kY (wO n)
 rwa [zE] at this
theorem yN(m n:Nat):(zB (m*n)).length<=(zB m).length+(zB n).length:=by
 refine qN ?_;rw[Nat.pow_add]
 rcases Nat.eq_zero_or_pos n with h|h
 · subst h
   rw[Nat.mul_zero];exact Nat.mul_pos (Nat.pow_pos zot) (Nat.pow_pos zot)
 · exact Nat.lt_of_lt_of_le (Nat.mul_lt_mul_of_pos_right (qC m) h) (Nat.mul_le_mul_left _ (Nat.le_of_lt (qC n)))
theorem kV(m n:Nat):(zB (m+n)).length<=(zB m).length+(zB n).length+1:=by
 refine qN ?_;have h1:=qC m;have h2:=qC n;have h3:(4294967296:Nat)^(zB m).length<=4294967296^((zB m).length+(zB n).length):=Nat.pow_le_pow_right zow zot;have C:(4294967296:Nat)^(zB n).length<=4294967296^((zB m).length+(zB n).length):=Nat.pow_le_pow_right zow zot;rw[Nat.pow_succ];omega
theorem gB{n:Nat}(h:n<18446744073709551616):(zB n).length<=2:=qN h
theorem zQH{x:Nat}(h:x≠0):uK x=uK (x/2)+1:=by
 by_cases h2:2<=x
 · exact zDE (k:=1) h2
 · have:x=1:=by omega
   subst this
   decide
theorem mM(m n:Nat):Nat.gcd n (m%n)=Nat.gcd m n:=by rw[Nat.gcd_comm,<-Nat.gcd_rec,Nat.gcd_comm]
theorem nD{n:Nat}(h:(zB n).length<=2):n<18446744073709551616:=Nat.lt_of_lt_of_le (qC n) (Nat.pow_le_pow_right zow h)
theorem zM7{xs:List Nat}(h:Fit xs)(hl:xs.length<=(zB (val xs)).length):zB (val xs)=xs:=by
 have:=zE4 h;rw[List.take_of_length_le hl] at this;exact this.symm
theorem zBS{n i:Nat}(h:4294967296^i<=n):i<(zB n).length:=by
 refine Classical.byContradiction λC=>?_;have h1:=qC n;have h2:(4294967296:Nat)^(zB n).length<=4294967296^i:=Nat.pow_le_pow_right zow zot;omega
end Bk
namespace Bk
open Go Go.RowKit
section
variable {P:Program}{n:Nat}{w0:World}{h0:Mem}{e:List (Nat×Value)}{L:List Res}{h:Mem}{Q:Exit->Act->World->Prop}
variable {ds:Option Tmp}{ty:TypeId}{ps:String}{af:Array Edge}{gd:Option (Nat×Bool)}
abbrev Res.var(b:Nat)(E:TypeId)(cs:List Value):Res:=.blk b (.cells cs.toArray E)
abbrev vP(b k:Nat):Value:=.pointer (some ⟨b,k,none⟩)
theorem zC1(w:World)(o:Obj):(w.alloc o).heap[w.heap.size]?=some o:=by
 show(w.heap.push o)[w.heap.size]?=some o
 exact Array.getElem?_push_size
theorem wW{E:TypeId}{x:Operand}{v:Value}{cs:List Value}(hx:zJ e x=some v)(hc:v.cells=cs.toArray):
 lO P n w0 h0 ⟨ds,.box E x,ty,ps,af,gd⟩ e L h (λu r=>∃b,u=vP b 0/\r=.var b E cs):=by
 intro a w D S;refine⟨_,w.alloc (.cells cs.toArray E),.var w.heap.size E cs,?_,World.grownBy_alloc w _ none,?_,λb C=>?_,_,I,I⟩
 · simp[execOp,D.eval hx,Instr.box,newVar,newRow,newObj,Sem.run,hc]
 · exact zC1 w _
 · simp only[Res.fp,Option.some.injEq] at C
   omega
theorem vY{E:TypeId}{i:TypeInfo}{z:Value}{cs:List Value}(hi:P.info? E=some i)(hz:i.zero=some z)(hc:z.cells=cs.toArray):
 lO P n w0 h0 ⟨ds,.alloc E,ty,ps,af,gd⟩ e L h (λu r=>∃b,u=vP b 0/\r=.var b E cs):=by
 intro a w G S;refine⟨_,w.alloc (.cells cs.toArray E),.var w.heap.size E cs,?_,World.grownBy_alloc w _ none,?_,λb D=>?_,_,I,I⟩
 · have C:(zeroValue E).run P w=.ok z w:=by simp[zeroValue,typeInfo,hi,hz]
   simp[execOp,Instr.alloc,C,newVar,newRow,newObj,Sem.run,hc]
 · exact zC1 w _
 · simp only[Res.fp,Option.some.injEq] at D
   omega
theorem xU{t:TypeId}{x:Operand}{f b k:Nat}{fs:Array Field}{fl:Field}{m:Nat}(ht:P.underlying t=some (.struct fs))(hf:fs[f]?=some fl)(hsz:∀w,(Go.sizeOf fl.type).run P w=.ok (m+1) w)(hx:zJ e x=some (vP b k)):
 OpV P n w0 h0 ⟨ds,.fieldAddr t x f,ty,ps,af,gd⟩ e L h (vP b (k+fl.offset)):=by
 intro a w C S;simp[execOp,C.eval hx,Instr.fieldAt,run_underlying ht,hf,Instr.sureAddr,fieldPlace,hsz,jY]
theorem iW{b:Nat}{E:TypeId}{cs:List Value}{w:World}(hw:w.heap[b]?=some (.cells cs.toArray E))(k:Nat)(vs:List Value)(hv:(cs.drop k).take vs.length=vs):w.rangeAt b k vs:=by
 intro j v D;have C:j<vs.length:=(List.getElem?_eq_some_iff.1 D).1;have h1:cs[k+j]?=some v:=by
  rw[<-hv,List.getElem?_take,if_pos C,List.getElem?_drop] at D;exact D
 unfold World.cell?;simp[hw,h1]
theorem iG{t:TypeId}{x:Operand}{b k:Nat}{E:TypeId}{cs:List Value}{v:Value}(hm:.var b E cs∈L)(ha:∀w,(isAgg t).run P w=.ok false w)(hx:zJ e x=some (vP b k))(hv:cs[k]?=some v):
 OpV P n w0 h0 ⟨ds,.load t x,ty,ps,af,gd⟩ e L h v:=by
 intro a w G S;have C:w.heap[b]?=some (.cells cs.toArray E):=S.ok _ hm;have D:w.cell? ⟨b,k,none⟩=some v:=by unfold World.cell?;simp[C,hv]
 simp[execOp,G.eval hx,Instr.loadAt,Instr.sureAddr,loadVar,ha,Go.load,Sem.run,D]
theorem zMC{t:TypeId}{x:Operand}{b k:Nat}{E:TypeId}{cs vs:List Value}{d:TypeDesc}(hm:.var b E cs∈L)(hu:P.underlying t=some d)(hd:d.isRow=true)(hi:(P.info? t).map (·.size)=some vs.length)(hx:zJ e x=some (vP b k))(hv:(cs.drop k).take vs.length=vs):
 OpV P n w0 h0 ⟨ds,.load t x,ty,ps,af,gd⟩ e L h (.agg vs.toArray):=by
 intro a w D S;have C:w.heap[b]?=some (.cells cs.toArray E):=S.ok _ hm;simp only[execOp,D.eval hx];rw[Sem.run_bind,run_loadAt_mid w b k t vs d (iW C k vs hv) hu hd hi]
 rfl
theorem mY{b:Nat}{E:TypeId}:∀(vs:List Value) (k:Nat) (cs:List Value) (w:World),w.heap[b]?=some (.cells cs.toArray E)->
 (w.setCells b k vs).heap[b]?=some (.cells (vs.zipIdx.foldl (λc p=>c.set (k+p.2) p.1) cs).toArray E)/\w.grownBy (w.setCells b k vs) (some b)
 |[],k,cs,w,hw=>⟨hw,⟨rfl,rfl,rfl,Nat.le_refl _,λ_ _ _=>rfl⟩⟩
 |v::r,k,cs,w,hw=>by
  have h1:(w.setCell ⟨b,k,none⟩ v).heap[b]?=some (.cells (cs.set k v).toArray E):=by
   simp[World.setCell,Array.getElem?_modify,hw]
  obtain⟨h2,h3⟩:=mY r (k+1) (cs.set k v) _ h1;have M:((v::r).zipIdx.foldl (λc p=>c.set (k+p.2) p.1) cs)=(r.zipIdx.foldl (λc p=>c.set (k+1+p.2) p.1) (cs.set k v)):=by
   rw[List.zipIdx_cons,List.foldl_cons,Nat.add_zero,List.zipIdx_succ,List.foldl_map]
   congr 1
   funext c p
   rw[show k+(p.2+1)=k+1+p.2 by omega]
  refine⟨?_,?_⟩
  · rw[World.setCells,M];exact h2
  · have H:b<w.heap.size:=(Array.getElem?_eq_some_iff.1 hw).1
    refine⟨?_,?_,?_,?_,?_⟩
    · exact h3.os
    · exact h3.tape
    · exact h3.output
    · have:=h3.size
      simpa[World.setCells,World.setCell] using this
    · intro G D C
      have J:=h3.block G (by simpa[World.setCell] using D) C;rw[World.setCells,J];have:b≠G:=λhh=>C (by rw[hh]);simp[World.setCell,Array.getElem?_modify,this]
def w5(cs:List Value)(k:Nat)(vs:List Value):List Value:=vs.zipIdx.foldl (λc p=>c.set (k+p.2) p.1) cs
theorem zN{A B:List Res}{E t:TypeId}{b k:Nat}{cs vs:List Value}{v:Value}{x y:Operand}(hx:zJ e x=some (vP b k))(hy:zJ e y=some v)(hv:v.cells=vs.toArray)(h1:vs.all (·.oneCell')=true)
    (hi:(P.info? t).map (·.size)=some vs.length)(hk:k+vs.length<=cs.length):Upd P n w0 h0 ⟨ds,.store t x y,ty,ps,af,gd⟩ e A (.var b E cs) B h (.var b E (w5 cs k vs)):=by
 intro a w M S;have H:w.heap[b]?=some (.cells cs.toArray E):=S.ok (.var b E cs) zo2;obtain⟨h2,h3⟩:=mY vs k cs w H;refine⟨w.setCells b k vs,?_,h3,h2⟩;have C:w.there b k vs.length:=by
  intro j G;have:k+j<cs.length:=by omega
  refine⟨?_,?_⟩
  · unfold World.cell?
    simp[H,this]
  · simp[World.frozen?,H]
 have D:=run_storeCells_cells (P:=P) b k vs 0 w (λj G=>by simpa using(C j G).1) (λj G=>by simpa using(C j G).2) (λu O=>zob.1 h1 u O);have J:(Go.sizeOf t).run P w=.ok vs.length w:=by
  cases hq:P.info? t with
  |none=>simp[hq] at hi
  |some i=>
   have:i.size=vs.length:=by simpa[hq] using hi
   simp[Go.sizeOf,typeInfo,hq,this]
 simp only[Nat.add_zero] at D;simp[execOp,M.eval hx,M.eval hy,Instr.storeAt,Instr.sureAddr,storeVar,J,hv,D]
def eL(e:List (Nat×Value)):List (Nat×Operand)->List (Nat×Value)->Prop
  |[],[]=>True
  |(i,x)::r,(j,v)::s=>i=j/\zJ e x=some v/\eL e r s
  |_,_=>False
theorem eL.eval{a:Act}(Ev:Env n e a):∀{ps:List (Nat×Operand)} {vs:List (Nat×Value)},eL e ps vs->(ps.map λp=>(p.1,a.eval p.2))=vs
  |[],[],_=>rfl
  |(i,x)::r,(j,v)::s,h=>by
   obtain⟨rfl,h2,h3⟩:=h;rw[List.map_cons,eL.eval Ev h3,Ev.eval h2]
  |[],_::_,h=>h.elim
  |_::_,[],h=>h.elim
theorem Us.oneCell{k:IntKind}{v:Value}{xs:List Nat}(s:Us k h v xs):v.oneCell'=true:=by
 obtain⟨_,_,rfl⟩:=s.one
 rfl
theorem Us.cells{k:IntKind}{v:Value}{xs:List Nat}(s:Us k h v xs):v.cells=[v].toArray:=by
 obtain⟨_,_,rfl⟩:=s.one
 rfl
theorem oc0:([]:List Value).all (·.oneCell')=true:=rfl
theorem ocu{k:IntKind}{h:Mem}{v:Value}{xs:List Nat}{cs:List Value}(s:Us k h v xs)(r:cs.all (·.oneCell')=true):(v::cs).all (·.oneCell')=true:=by
 rw[List.all_cons,s.oneCell,r];rfl
theorem ocr{v:Value}{cs:List Value}(s:v.oneCell'=true)(r:cs.all (·.oneCell')=true):(v::cs).all (·.oneCell')=true:=by
 rw[List.all_cons,s,r];rfl
theorem zOJ:∀(cs B A C:List Value),cs.length=B.length->(cs.zipIdx.foldl (λ(a:Array Value) (p:Value×Nat)=>a.setIfInBounds (A.length+p.2) p.1) (A++B++C).toArray)=(A++cs++C).toArray:=by
 have key:∀(cs B A C:List Value) (k:Nat) (A0:Nat),A.length=A0+k->cs.length=B.length->((cs.zipIdx k).foldl (λ(a:Array Value) (p:Value×Nat)=>a.setIfInBounds (A0+p.2) p.1) (A++B++C).toArray)=(A++cs++C).toArray:=by
  intro cs
  induction cs with
  |nil=>
   intro B A C k A0 hA hB;have:B=[]:=zof hB.symm;subst this;rfl
  |cons c cs ih=>
   intro B A C k A0 hA hB
   cases B with
   |nil=>simp at hB
   |cons b B=>
    have e:(A++b::B++C).toArray.setIfInBounds (A0+k) c=((A++[c])++B++C).toArray:=by
     rw[<-hA];simp[List.set_append]
    rw[List.zipIdx_cons,List.foldl_cons]
    show List.foldl _ ((A++b::B++C).toArray.setIfInBounds (A0+k) c) _=_
    rw[e,ih B (A++[c]) C (k+1) A0 (by simp;omega) (by simpa using hB)];simp
 intro cs B A C h;exact key cs B A C 0 A.length I h
theorem wZ{place:Nat->Option (Nat×Nat)}{i off size:Nat}{A B C cs:List Value}{v:Value}{rest:List (Nat×Value)}{r:Option (Array Value)}(hp:place i=some (off,size))(hA:A.length=off)(hB:B.length=size)(hs:cs.length=size)(hc:v.cells=cs.toArray)
    (k:Instr.fill place (A++cs++C).toArray rest=r):Instr.fill place (A++B++C).toArray ((i,v)::rest)=r:=by
 subst hA;have h1:v.cells.size=size:=by rw[hc];simpa using hs
 have h3:(decide (v.cells.size≠size)||decide (A.length+v.cells.size>(A++B++C).toArray.size))=false:=by
  rw[h1];simp;omega
 simp only[Instr.fill,hp];rw[h3,if_neg zow,hc,<-Array.foldl_toList,Array.toList_zipIdx,zOJ cs B A C zot];exact k
theorem jX{place:Nat->Option (Nat×Nat)}{vs:List Value}:Instr.fill place vs.toArray []=some vs.toArray:=rfl
theorem wD{t:TypeId}{i:TypeInfo}{z:Value}{fs:Array Field}{places:Array (Nat×Nat)}{parts:List (Nat×Operand)}{ps':List (Nat×Value)}{vs:List Value}(ht:P.underlying t=some (.struct fs))(hi:P.info? t=some i)(hz:i.zero=some z)
    (hpl:∀w,(fs.mapM λ(f:Field)=>do pure (f.offset,<-Go.sizeOf f.type)).run P w=.ok places w)(hp:eL e parts ps')(hf:Instr.fill (places[·]?) z.cells ps'=some vs.toArray):
    OpV P n w0 h0 ⟨ds,.build t parts.toArray,ty,ps,af,gd⟩ e L h (.agg vs.toArray):=by
 intro a w G S;have D:(parts.toArray.map λ(p:Nat×Operand)=>(p.1,a.eval p.2)).toList=ps':=by
  rw[List.map_toArray];exact hp.eval G
 have C:(zeroValue t).run P w=.ok z w:=by simp[zeroValue,typeInfo,hi,hz]
 simp only[execOp,Instr.build];rw[show(parts.toArray.map λ(i,x)=>(i,a.eval x)).toList=ps' from D];simp only[Sem.run_bind,C,Result.andThen_ok,run_underlying ht,hpl,hf]
 rfl
def zFE(tmps:Array Value):ResultVar->Sem Value
  | .tmp t=>pure (tmps.getD t undef)
  | .cell a t=>do loadVar t (<-asAddr (tmps.getD a undef))
def RV(P:Program)(n:Nat)(w0:World)(h0:Mem)(r:ResultVar)(e:List (Nat×Value))(L:List Res)(h:Mem)(v:Value):Prop:=∀a w,Env n e a->St w0 h0 L h w->(zFE a.tmps r).run P w=.ok v w
theorem tE{t:Nat}{v:Value}(hv:zJ e (.tmp t)=some v):RV P n w0 h0 (.tmp t) e L h v:=by
 intro a w E S;have:=E.eval hv;simp only[Act.eval] at this;simp[zFE,this]
theorem wR{t:Nat}{T E:TypeId}{b:Nat}{cs:List Value}{d:TypeDesc}(hm:.var b E cs∈L)(hu:P.underlying T=some d)(hd:d.isRow=true)(hi:(P.info? T).map (·.size)=some cs.length)(hx:zJ e (.tmp t)=some (vP b 0)):RV P n w0 h0 (.cell t T) e L h (.agg cs.toArray):=by
 intro a w D S;have C:w.heap[b]?=some (.cells cs.toArray E):=S.ok _ hm;have:=D.eval hx;simp only[Act.eval] at this;have h2:=run_loadVar_mid (P:=P) w b 0 T cs d (iW C 0 cs zo2) hu hd hi;simp[zFE,this,asAddr,h2]
theorem zDN(fn:Func)(tmps:Array Value):results fn tmps=(do let vs <-fn.results.mapM (zFE tmps);pure (if h:vs.size=1 then vs[0] else .tuple vs)):=by
 unfold results
 congr 1
section
variable {fn:Func}{r1 r2 r3 r4:ResultVar}{v1 v2 v3 v4:Value}{R:Mem->Value->Prop}{RO:Mem->Value->List Res->Prop}
theorem zV(hr:fn.results=#[r1])(h1:RV P n w0 h0 r1 e L h v1){a:Act}{w:World}(Ev:Env n e a)(S:St w0 h0 L h w):(results fn a.tmps).run P w=.ok v1 w:=by
 simp[zDN,hr,h1 a w Ev S]
theorem jS(hr:fn.results=#[r1,r2])(h1:RV P n w0 h0 r1 e L h v1)(h2:RV P n w0 h0 r2 e L h v2){a:Act}{w:World}(Ev:Env n e a)(S:St w0 h0 L h w):(results fn a.tmps).run P w=.ok (.tuple #[v1,v2]) w:=by
 simp[zDN,hr,h1 a w Ev S,h2 a w Ev S]
theorem yV{v:Value}(hres:∀{a:Act} {w:World},Env n e a->St w0 h0 L h w->(results fn a.tmps).run P w=.ok v w)(hR:R h v):GQ n w0 h0 (bodyPost P fn (Ret w0 h0 R)) .ret e L h:=by
 intro a w E S;exact bodyPost_ret (hres E S) E.defers ⟨_,h,I,hR,S.sublist (List.nil_sublist _)⟩
theorem jK{v:Value}(hres:∀{a:Act} {w:World},Env n e a->St w0 h0 L h w->(results fn a.tmps).run P w=.ok v w)(hR:RO h v L):GQ n w0 h0 (bodyPost P fn (fW w0 h0 RO)) .ret e L h:=by
 intro a w E S;exact bodyPost_ret (hres E S) E.defers ⟨_,h,L,I,hR,S⟩
end
end
end Bk
namespace Bk
theorem oW(xs:List Nat)(j k:Nat):(xs.drop j).getD k 0=xs.getD (j+k) 0:=by
 rw[zoa,List.getElem?_drop,<-zoa]
theorem kQ{xs:List Nat}(h:Fit xs)(j:Nat):val (xs.drop j)=val xs/4294967296^j:=by
 by_cases hj:j<=xs.length
 · have h1:=fJ xs j hj
   have h2:=kY (fV h j);rw[List.length_take,Nat.min_eq_left hj] at h2;rw[h1,Nat.add_mul_div_left _ _ (Nat.pow_pos zot),Nat.div_eq_of_lt h2,Nat.zero_add]
 · rw[List.drop_of_length_le zot,Nat.div_eq_of_lt (Nat.lt_of_lt_of_le (kY h) (Nat.pow_le_pow_right zot zot))]
   rfl
theorem eO{xs:List Nat}{k:Nat}(h:val xs<4294967296^k){i:Nat}(hi:k<=i):xs.getD i 0=0:=by
 by_cases hl:i<xs.length
 · refine Classical.byContradiction λC=>?_
   have h1:=fJ xs i zot;have h2:=kE xs i hl;have h3:4294967296^k<=4294967296^i:=Nat.pow_le_pow_right zot hi;have D:4294967296^i*1<=4294967296^i*val (xs.drop i):=Nat.mul_le_mul_left _ zot;omega
 · exact sQ zot
theorem zEW{xs:List Nat}(hf:Fit xs){J n:Nat}(h:val (xs.drop J)<4294967296^n):val xs<4294967296^(J+n):=by
 rw[kQ hf] at h;have:=Nat.lt_mul_of_div_lt h (Nat.pow_pos zot);rw[Nat.pow_add,Nat.mul_comm];exact this
theorem eW{xs:List Nat}(hf:Fit xs){k:Nat}(h:∀i,k<=i->xs.getD i 0=0):val xs<4294967296^k:=by
 by_cases hk:k<=xs.length
 · have h1:=fJ xs k hk
   have h2:=kY (fV hf k);rw[List.length_take,Nat.min_eq_left hk] at h2;have h3:val (xs.drop k)=0:=zCD λx hx=>by
    obtain⟨i,hi,rfl⟩:=List.getElem_of_mem hx;have:=h (k+i) zot;rw[<-oW,zoa,zoc hi] at this
    simpa using this
   rw[h3,Nat.mul_zero] at h1;omega
 · exact Nat.lt_of_lt_of_le (kY hf) (Nat.pow_le_pow_right zot zot)
theorem zQN{xs:List Nat}{n:Nat}(hn:2<=n)(hl:xs.length=n):val xs=(xs.getD (n-1) 0*4294967296+xs.getD (n-2) 0)*4294967296^(n-2)+val (xs.take (n-2)):=by
 obtain⟨k,rfl⟩:∃k,n=k+2:=⟨n-2,by omega⟩;have h1:val xs=val (xs.take (k+1+1)):=(wA zot).symm;rw[h1,uH,uH];simp only[Nat.add_sub_cancel,show k+2-1=k+1 by omega,Nat.pow_succ];generalize 4294967296^k=p;generalize (4294967296:Nat)=B;grind
theorem zSK(B p q0 a b c v3 v2 v1 P1 P2:Nat)(e1:P1=p*B)(e2:P2=P1*B)(h1:v3=v2+P2*a)(h2:v2=v1+P1*b)(h3:v1=q0+p*c):v3=((a*B+b)*B+c)*p+q0:=by
 subst e2 e1 h1 h2 h3;grind
theorem yAH{ys:List Nat}{m:Nat}(hz:∀i,m<=i->ys.getD i 0=0):val ys=val (ys.take m):=by
 by_cases hl:m<=ys.length
 · have h1:=fJ ys m hl
   have h3:val (ys.drop m)=0:=zCD λx hx=>by
    obtain⟨i,hi,rfl⟩:=List.getElem_of_mem hx;have:=hz (m+i) zot;rw[<-oW,zoa,zoc hi] at this
    simpa using this
   rw[h3,Nat.mul_zero,Nat.add_zero] at h1;exact h1
 · exact(wA zot).symm
theorem zH6{xs:List Nat}{j n:Nat}(hn:2<=n)(hz:∀i,j+n<i->xs.getD i 0=0)(hf:Fit xs):
 ∃w,val (xs.drop j)=((xs.getD (j+n) 0*4294967296+xs.getD (j+n-1) 0)*4294967296+xs.getD (j+n-2) 0)*4294967296^(n-2)+w/\w<4294967296^(n-2):=by
 obtain⟨k,rfl⟩:∃k,n=k+2:=⟨n-2,by omega⟩;rw[Nat.add_sub_cancel,show j+(k+2)-1=j+(k+1) by omega,show j+(k+2)-2=j+k by omega];refine⟨val ((xs.drop j).take k),?_,?_⟩
 · have h0:val (xs.drop j)=val ((xs.drop j).take (k+3)):=yAH λi hi=>by rw[oW];exact hz _ zot
   have h1:=uH (xs.drop j) (k+2);have h2:=uH (xs.drop j) (k+1);have h3:=uH (xs.drop j) k;rw[oW] at h1 h2 h3;exact h0.trans (zSK _ _ _ _ _ _ _ _ _ _ _ (Nat.pow_succ _ _) (Nat.pow_succ _ _) h1 h2 h3)
 · have:=kY (fV (iS hf j) k)
   refine Nat.lt_of_lt_of_le this (Nat.pow_le_pow_right zow ?_);simp[List.length_take];omega
section est
variable {V W P v1 v2 vr top u3 wr x rest:Nat}
theorem zNL(hV:V=(v1*4294967296+v2)*P+vr)(hW:W=(top*4294967296+u3)*P+wr)(hu:u3<4294967296)(hw:wr<P)(h1:0<v1):W<(top/v1+1)*V:=by
 have h2:top<v1*(top/v1+1):=Nat.lt_mul_div_succ top h1;have h3:(top+1)*4294967296<=v1*(top/v1+1)*4294967296:=Nat.mul_le_mul_right _ h2;have G:(top*4294967296+u3+1)*P<=v1*(top/v1+1)*4294967296*P:=Nat.mul_le_mul_right _ zot;have D:(top/v1+1)*V=v1*(top/v1+1)*4294967296*P+(top/v1+1)*(v2*P+vr):=by rw[hV];generalize (4294967296:Nat)=B;grind
 have C:(top*4294967296+u3+1)*P=(top*4294967296+u3)*P+P:=by generalize (4294967296:Nat)=B;grind
 omega
theorem yCU(hV:V=(v1*4294967296+v2)*P+vr)(hW:W=(top*4294967296+u3)*P+wr)(hw:wr<P)(ht:x*v1+rest=top)(hb:rest*4294967296+u3<x*v2):W<x*V:=by
 have h1:(rest*4294967296+u3+1)*P<=x*v2*P:=Nat.mul_le_mul_right _ hb;have h2:x*V=x*v1*4294967296*P+x*v2*P+x*vr:=by rw[hV];generalize (4294967296:Nat)=B;grind
 have h3:(top*4294967296+u3)*P=x*v1*4294967296*P+(rest*4294967296+u3)*P:=by rw[<-ht];generalize (4294967296:Nat)=B;grind
 have C:(rest*4294967296+u3+1)*P=(rest*4294967296+u3)*P+P:=by generalize (4294967296:Nat)=B;grind
 omega
theorem zY2(hV:V=(v1*4294967296+v2)*P+vr)(hW:W=(top*4294967296+u3)*P+wr)(hr:vr<P)(h1:0<v1)(ht:x*v1+rest=top)(hx:x<4294967296)(hb:x*v2<=rest*4294967296+u3):x*V<W+V:=by
 have h2:x*v2*P<=(rest*4294967296+u3)*P:=Nat.mul_le_mul_right _ hb;have h3:x*V=x*v1*4294967296*P+x*v2*P+x*vr:=by rw[hV];generalize (4294967296:Nat)=B;grind
 have J:(top*4294967296+u3)*P=x*v1*4294967296*P+(rest*4294967296+u3)*P:=by rw[<-ht];generalize (4294967296:Nat)=B;grind
 have C:0<P:=by omega
 have H:x*vr<4294967296*P:=by
  have:=Nat.mul_le_mul (show x<=4294967295 by omega) (show vr<=P by omega);omega
 have G:1*(4294967296*P)<=v1*(4294967296*P):=Nat.mul_le_mul_right _ h1;have D:V=v1*(4294967296*P)+(v2*P+vr):=by rw[hV];generalize (4294967296:Nat)=B;grind
 omega
theorem yCT(hV:V=(v1*4294967296+v2)*P+vr)(hW:W=(top*4294967296+u3)*P+wr)(hr:vr<P)(h2:v2<4294967296)(hWV:W<4294967296*V):top<=v1*4294967296+4294967295:=by
 refine Classical.byContradiction λC=>?_;have h3:(v1*4294967296+4294967296)*(4294967296*P)<=top*(4294967296*P):=Nat.mul_le_mul_right _ zot;have J:(v1*4294967296+v2+1)*P<=(v1*4294967296+4294967296)*P:=Nat.mul_le_mul_right _ zot;have H:(top*4294967296+u3)*P=top*(4294967296*P)+u3*P:=by generalize (4294967296:Nat)=B;grind
 have G:(v1*4294967296+v2+1)*P=(v1*4294967296+v2)*P+P:=by generalize (4294967296:Nat)=B;grind
 have D:(v1*4294967296+4294967296)*(4294967296*P)=4294967296*((v1*4294967296+4294967296)*P):=by generalize (4294967296:Nat)=B;grind
 omega
theorem zI8(hV:V=(v1*4294967296+v2)*P+vr)(hW:W=(top*4294967296+u3)*P+wr)(hr:vr<P)(h2:v2<4294967296)(ht:x*v1+rest=top)(hre:4294967296<=rest)(htop:top<=v1*4294967296+4294967295)(h1:0<v1):x<4294967296/\x*V<=W:=by
 have hx:x<4294967296:=by
  refine Classical.byContradiction λD=>?_;have:4294967296*v1<=x*v1:=Nat.mul_le_mul_right _ zot;omega
 refine⟨hx,?_⟩;have h3:x*V=x*v1*4294967296*P+x*(v2*P+vr):=by rw[hV];generalize (4294967296:Nat)=B;grind
 have M:(top*4294967296+u3)*P=x*v1*4294967296*P+(rest*4294967296)*P+u3*P:=by rw[<-ht];generalize (4294967296:Nat)=B;grind
 have C:v2*P+vr<=4294967296*P:=by
  have:=Nat.mul_le_mul_right P (show v2+1<=4294967296 by omega);generalize (4294967296:Nat)=B at *;grind
 have J:x*(v2*P+vr)<=4294967296*(4294967296*P):=Nat.mul_le_mul zot C;have H:4294967296*4294967296*P<=rest*4294967296*P:=Nat.mul_le_mul_right _ (Nat.mul_le_mul_right _ hre);have G:4294967296*(4294967296*P)=4294967296*4294967296*P:=by generalize (4294967296:Nat)=B;grind
 omega
end est
theorem zFD{us ts:List Nat}{j x V:Nat}(hf:Fit us)(hft:Fit ts)(h:val ts+4294967296^j*(x*V)=val us)(hx:val (us.drop j)<(x+1)*V):val (ts.drop j)<V:=by
 have C:0<4294967296^j:=Nat.pow_pos zot;rw[kQ hf,<-h,Nat.add_mul_div_left _ _ C,<-kQ hft,Nat.add_mul] at hx;omega
theorem zSY{us ts rs:List Nat}{j n x V b o:Nat}(hf:Fit us)(hfr:Fit rs)(ht:val ts<4294967296^(j+n+1))(hr:val rs<4294967296^(j+n+1))(hb:b=1)(h:val ts+4294967296^j*(x*V)=val us+4294967296^(j+n+1)*b)
    (hx:x*V<val (us.drop j)+V)(ho:val rs+4294967296^(j+n+1)*o=val ts+4294967296^j*V)(ho1:o<=1):0<x/\val rs+4294967296^j*((x-1)*V)=val us/\val (rs.drop j)<V:=by
 subst hb;have M:0<4294967296^j:=Nat.pow_pos zot;have h1:val us<4294967296^j*(x*V):=by omega
 have H:val (us.drop j)<x*V:=by
  rw[kQ hf];exact Nat.div_lt_of_lt_mul h1
 have G:0<x:=Nat.pos_of_ne_zero λh0=>by rw[h0,Nat.zero_mul] at H;omega
 obtain⟨y,rfl⟩:∃y,x=y+1:=⟨x-1,by omega⟩;rw[Nat.add_sub_cancel];have J:(y+1)*V=y*V+V:=by rw[Nat.add_mul,Nat.one_mul]
 have U:4294967296^j*((y+1)*V)=4294967296^j*(y*V)+4294967296^j*V:=by rw[J,Nat.mul_add]
 have h2:4294967296^j*(y*V)<=val us:=by
  have h3:4294967296^j*(y*V)<=4294967296^j*val (us.drop j):=Nat.mul_le_mul_left _ zot;have O:4294967296^j*val (us.drop j)<=val us:=by rw[kQ hf];exact Nat.mul_div_le _ _
  omega
 have C:o=1:=by
  rcases Nat.eq_zero_or_pos o with h0|h0
  · subst h0;omega
  · omega
 subst C;have D:val rs+4294967296^j*(y*V)=val us:=by omega
 exact⟨by omega,D,zFD hf hfr D zot⟩
theorem zF9{Y k s:Nat}(hY:Y≠0)(hk:k+1=(zB Y).length)(hs:s=32-uK ((zB Y).getD k 0)):s<32/\(zB (Y*2^s)).length=k+1/\2147483648<=(zB (Y*2^s)).getD k 0:=by
 have U:=wO Y;have C:(zB Y).getD k 0≠0:=by
  have:=sW (n:=Y) zot
  rwa [show(zB Y).length-1=k by omega] at this
 have hb:=zDD U hk C;rw[zE] at hb;have ab:=zJF C;have aa:=mS (n:=(zB Y).getD k 0) (k:=32) (qV U k);have H:=zA9 hY;have M:=oO Y;have e1:(4294967296:Nat)^k*2147483648=2^(32*k+31):=by rw[Nat.pow_add,Nat.pow_mul]
 have e2:(4294967296:Nat)^(k+1)=2^(32*k+32):=by rw[Nat.pow_succ,Nat.pow_add,Nat.pow_mul]
 have O:4294967296^k*2147483648<=Y*2^s:=by
  rw[e1,show 32*k+31=(uK Y-1)+s by omega,Nat.pow_add];exact Nat.mul_le_mul_right _ H
 have D:Y*2^s<4294967296^(k+1):=by
  rw[e2,show 32*k+32=uK Y+s by omega,Nat.pow_add];exact Nat.mul_lt_mul_of_pos_right M (Nat.pow_pos zot)
 have J:=qN D;have G:=wO (Y*2^s);have Z:(zB (Y*2^s)).length=k+1:=by
  refine Nat.le_antisymm J (Classical.byContradiction λhc=>?_);have h1:=kY G;rw[zE] at h1;have h2:(4294967296:Nat)^(zB (Y*2^s)).length<=4294967296^k:=Nat.pow_le_pow_right zot zot;omega
 refine⟨by omega,Z,Classical.byContradiction λhc=>?_⟩;have h1:=uH (zB (Y*2^s)) k;rw[wA zot,zE] at h1;have h2:=kY (fV G k);rw[List.length_take,Nat.min_eq_left zot] at h2;have h3:4294967296^k*((zB (Y*2^s)).getD k 0+1)<=4294967296^k*2147483648:=Nat.mul_le_mul_left _ zot;rw[Nat.mul_add,Nat.mul_one] at h3;omega
theorem zZ3(c:Nat):c&&&4294967295=c%4294967296:=Nat.and_two_pow_sub_one_eq_mod c 32
theorem zUG{X Y la k s:Nat}{us:List Nat}(hf:Fit us)(hX:X<4294967296^la)(hus:val us=X*2^s)(hk:k<=la)(hY:4294967296^k<=Y):val (us.drop (la-k))<Y*2^s:=by
 rw[kQ hf,hus];refine Nat.div_lt_of_lt_mul ?_;rw[<-Nat.mul_assoc];refine Nat.mul_lt_mul_of_pos_right (Nat.lt_of_lt_of_le hX ?_) (Nat.pow_pos zot);rw[show la=(la-k)+k by omega,Nat.pow_add,show la-k+k-k=la-k by omega];exact Nat.mul_le_mul_left _ hY
theorem zRY{X Y s u q:Nat}(hY:0<Y)(h:u+q*(Y*2^s)=X*2^s)(hu:u<Y*2^s):q=X/Y/\u/2^s=X%Y:=by
 have C:0<2^s:=Nat.pow_pos zot;have h1:u=(X-q*Y)*2^s:=by
  rw[Nat.sub_mul,Nat.mul_assoc];omega
 have h2:q*Y<=X:=by
  refine Nat.le_of_mul_le_mul_right (c:=2^s) ?_ C;rw[Nat.mul_assoc];omega
 have h3:X-q*Y<Y:=by
  refine Nat.lt_of_mul_lt_mul_right (a:=2^s) ?_;omega
 have D:X=q*Y+(X-q*Y):=by omega
 refine⟨?_,?_⟩
 · generalize X-q*Y=r at *
   rw[D,Nat.mul_comm q Y,Nat.mul_add_div hY,Nat.div_eq_of_lt h3];omega
 · rw[h1,Nat.mul_div_cancel _ C]
   generalize X-q*Y=r at *;rw[D,Nat.mul_comm q Y,Nat.mul_add_mod,zoh h3]
theorem zB0{x v r t:Nat}(h:x*v+r=t)(hx:1<=x):(x-1)*v+(r+v)=t:=by
 obtain⟨y,rfl⟩:∃y,x=y+1:=⟨x-1,by omega⟩;rw[Nat.add_mul,Nat.one_mul] at h;rw[Nat.add_sub_cancel];omega
theorem yID{x v r t:Nat}(h:x*v+r=t)(ht:t<=v*4294967296+4294967295)(hv:2147483648<=v):x<=4294967297:=by
 refine Classical.byContradiction λC=>?_;have:=Nat.mul_le_mul_right v (show 4294967298<=x by omega);omega
theorem yB6{B p q vt vt' vu x yT Y X y' c b c' b' l:Nat}(h:vt+p*(x*yT)=vu+p*q*(c+b))(h1:vt'+p*q*X=vt+p*q*y')(e1:y'+l+b=X+B*b')(e2:B*c'+l=c+x*Y):vt'+p*(x*(yT+q*Y))=vu+p*q*B*(c'+b'):=by grind
theorem yG4{B p q vt vt' vu xV X y' c b b':Nat}(h:vt+p*xV=vu+p*q*(c+b))(h1:vt'+p*q*X=vt+p*q*y')(e1:y'+c+b=X+B*b'):vt'+p*xV=vu+p*q*B*b':=by grind
theorem yDD{B p q vt vt' vu yT Y X y' c c':Nat}(h:vt+p*q*c=vu+p*yT)(h1:vt'+p*q*X=vt+p*q*y')(e:B*c'+y'=c+(X+Y)):vt'+p*q*B*c'=vu+p*(yT+q*Y):=by grind
theorem yJM{B p q vt vt' vu V X y' c c':Nat}(h:vt+p*q*c=vu+p*V)(h1:vt'+p*q*X=vt+p*q*y')(e:B*c'+y'=X+c):vt'+p*q*B*c'=vu+p*V:=by grind
theorem yGP{B p vu vr vq x V U:Nat}(h:vu+p*B*(vq*V)=U)(h2:vr+p*(x*V)=vu):vr+p*((x+B*vq)*V)=U:=by grind
theorem zAO{xs:List Nat}(h:xs.length=1):val xs=xs.getD 0 0:=by
 match xs,h with
 |[x],_=>simp[val]
def eZ(s:Nat)(xs:List Nat)(i:Nat):Nat:=val (xs.drop i)/2^s%4294967296
def j8(s:Nat)(xs:List Nat)(i:Nat):List Nat:=(List.range i).map (eZ s xs)++xs.drop i
theorem zSQ(s:Nat)(xs:List Nat):j8 s xs 0=xs:=by simp[j8]
theorem tL{s:Nat}{xs:List Nat}{i:Nat}(h:i<=xs.length):(j8 s xs i).length=xs.length:=by simp[j8];omega
theorem zLR{s:Nat}{xs:List Nat}{i k:Nat}(h:i<=k):(j8 s xs i).getD k 0=xs.getD k 0:=by
 rw[zoa,j8,List.getElem?_append_right (by simpa using h),List.length_map,List.length_range,List.getElem?_drop,<-zoa,show i+(k-i)=k by omega]
theorem zLQ{s:Nat}{xs:List Nat}{i:Nat}(h:i<xs.length):(j8 s xs i).set i (eZ s xs i)=j8 s xs (i+1):=by
 rw[j8,j8,List.set_append_right _ _ zo2,List.length_map,List.length_range,Nat.sub_self,tJ xs i h,List.range_succ];simp
theorem zQS(s:Nat)(xs:List Nat)(i:Nat):eZ s xs i<4294967296:=Nat.mod_lt _ zot
theorem zYW{s:Nat}{xs:List Nat}{i:Nat}(h:Fit xs):Fit (j8 s xs i):=uQ (λx hx=>by obtain⟨k,_,rfl⟩:=List.mem_map.1 hx;exact zQS s xs k) (iS h i)
theorem y9{s:Nat}{xs:List Nat}(hf:Fit xs)(i:Nat):val ((List.range i).map (eZ s xs))=val xs/2^s%4294967296^i:=by
 induction i with
 |zero=>simp[val,Nat.mod_one]
 |succ i ih=>
  rw[List.range_succ,List.map_append,List.map_singleton,rC,ih,List.length_map,List.length_range,Nat.pow_succ,Nat.mod_mul,eZ,kQ hf,Nat.div_div_eq_div_mul,Nat.div_div_eq_div_mul,Nat.mul_comm (2^s)]
theorem zUW{s:Nat}{xs:List Nat}(hf:Fit xs):val (j8 s xs xs.length)=val xs/2^s:=by
 rw[j8,List.drop_of_length_le (Nat.le_refl _),List.append_nil,y9 hf];exact zoh (Nat.lt_of_le_of_lt (Nat.div_le_self _ _) (kY hf))
theorem zSR{xs:List Nat}{i:Nat}(hf:Fit xs)(h:i<xs.length):eZ 0 xs i=xs.getD i 0:=by
 have:=qV hf i;rw[eZ,kE xs i h,Nat.pow_zero,Nat.div_one];omega
theorem zST{s:Nat}{xs:List Nat}{i:Nat}(hf:Fit xs)(h:i+1=xs.length):eZ s xs i=xs.getD i 0/2^s:=by
 have h1:=qV hf i;rw[eZ,kE xs i zot,List.drop_of_length_le zot]
 show(xs.getD i 0+4294967296*0)/2^s%4294967296=_
 rw[Nat.mul_zero,Nat.add_zero];exact zoh (Nat.lt_of_le_of_lt (Nat.div_le_self _ _) h1)
theorem yA7{s:Nat}{xs:List Nat}{i:Nat}(hf:Fit xs)(hs:s<=32)(h:i+1<xs.length):xs.getD i 0/2^s |||xs.getD (i+1) 0*2^(32-s)%4294967296=eZ s xs i:=by
 have h1:=qV hf i;have e:(4294967296:Nat)=2^s*2^(32-s):=by rw[<-Nat.pow_add,show s+(32-s)=32 by omega]
 have C:0<2^s:=Nat.pow_pos zot;have h2:xs.getD i 0/2^s<2^(32-s):=Nat.div_lt_of_lt_mul (by rw[<-e];exact h1);have h3:xs.getD (i+1) 0*2^(32-s)%4294967296=(xs.getD (i+1) 0%2^s)*2^(32-s):=by
  conv=>lhs;rw[e]
  rw[Nat.mul_mod_mul_right]
 rw[h3,zO9 h2,eZ,kE xs i zot,kE xs (i+1) h];generalize xs.getD i 0=a at *;generalize xs.getD (i+1) 0=b at *;generalize val (List.drop (i+1+1) xs)=c at *;have O:(a+4294967296*(b+4294967296*c))/2^s=a/2^s+2^(32-s)*(b+4294967296*c):=by
  conv=>lhs;rw[show a+4294967296*(b+4294967296*c)=a+2^s*(2^(32-s)*(b+4294967296*c)) by rw[<-Nat.mul_assoc,<-e]]
  rw[Nat.add_mul_div_left _ _ C]
 have M:2^(32-s)*(b+4294967296*c)=2^(32-s)*(b%2^s)+4294967296*(b/2^s+2^(32-s)*c):=by
  have J:=Nat.div_add_mod b (2^s)
  conv=>lhs;rw[<-J]
  generalize b/2^s=p at *;generalize b%2^s=r at *;rw[e];generalize 2^s=u;generalize 2^(32-s)=v;grind
 have H:a/2^s+2^(32-s)*(b%2^s)<4294967296:=by
  have G:b%2^s<2^s:=Nat.mod_lt _ C;have D:2^(32-s)*(b%2^s+1)<=2^(32-s)*2^s:=Nat.mul_le_mul_left _ G;rw[Nat.mul_comm (2^(32-s)) (2^s),<-e] at D;rw[Nat.mul_add] at D;omega
 rw[O,M,<-Nat.add_assoc,Nat.add_mul_mod_self_left,zoh H,Nat.mul_comm];omega
def mixA(ps os:List Nat):List Nat:=ps++os.drop ps.length
def yLC(bs:List Nat):Bool:=bs.all λb=>decide (48<=b)&&decide (b<=57)
def hor(bs:List Nat):Nat:=bs.foldl (λa b=>10*a+(b-48)) 0
def perr(bs:List Nat):Int:=if 4096<bs.length then 2 else if bs.length=0 then 4 else if yLC bs=true then 0 else 4
def pval(bs:List Nat):Nat:=if 4096<bs.length then 0 else if yLC bs=true then hor bs else 0
theorem zAP(n:Nat):(txt n).length<=10*(zB n).length+1:=by
 unfold txt
 by_cases h:n=0
 · rw[if_pos h];simp
 · rw[if_neg h,List.length_reverse]
   have:=zNZ (wO n);rw[zE] at this;omega
theorem yE1(n:Nat):∀x∈txt n,x<256:=by
 unfold txt
 by_cases h:n=0
 · rw[if_pos h];simp
 · rw[if_neg h];intro x hx;exact zR9 n x (List.mem_reverse.1 hx)
def shN(X:Nat)(n:Int):Nat:=if 16384<n then 0 else if 0<=n then X*2^n.toNat else X/2^(-n).toNat
def shE(n:Int):Int:=if 16384<n then 2 else 0
theorem zK5{X k:Nat}(h:32*(zB X).length<=k):X/2^k=0:=by
 refine Nat.div_eq_of_lt (Nat.lt_of_lt_of_le (qC X) ?_);rw[show(4294967296:Nat)=2^32 by decide,<-Nat.pow_mul];exact Nat.pow_le_pow_right zow h
theorem zHZ(X k s:Nat):X/4294967296^k/2^s=X/2^(32*k+s):=by
 rw[Nat.div_div_eq_div_mul,Nat.pow_add,Nat.pow_mul]
theorem zHR(X k s:Nat):4294967296^k*(X*2^s)=X*2^(32*k+s):=by
 rw[Nat.pow_add,Nat.pow_mul];grind
theorem zVN{s:Nat}{xs:List Nat}{i:Nat}(hs:s<=32)(h:i<xs.length):(xs.getD i 0+4294967296*xs.getD (i+1) 0)/2^s%4294967296=eZ s xs i:=by
 have e:(4294967296:Nat)=2^s*2^(32-s):=by rw[<-Nat.pow_add,show s+(32-s)=32 by omega]
 have C:0<2^s:=Nat.pow_pos zot;rw[eZ,kE xs i h]
 by_cases h2:i+1<xs.length
 · rw[kE xs (i+1) h2]
   generalize xs.getD i 0=a;generalize xs.getD (i+1) 0=b;generalize val (List.drop (i+1+1) xs)=c;have D:a+4294967296*(b+4294967296*c)=(a+4294967296*b)+2^s*(4294967296*(2^(32-s)*c)):=by
    have:4294967296*(4294967296*c)=2^s*(4294967296*(2^(32-s)*c)):=by
     conv=>lhs;lhs;rw[e]
     generalize 2^s=u;generalize 2^(32-s)=v;generalize (4294967296:Nat)=B;grind
    omega
   rw[D,Nat.add_mul_div_left _ _ C,Nat.add_mul_mod_self_left]
 · rw[sQ (xs:=xs) (i:=i+1) zot,List.drop_of_length_le zot]
   rfl
theorem zSS{s:Nat}{xs:List Nat}(hf:Fit xs):val ((List.range xs.length).map (eZ s xs))=val xs/2^s:=by
 rw[y9 hf];exact zoh (Nat.lt_of_le_of_lt (Nat.div_le_self _ _) (kY hf))
theorem zM6{X:Nat}(hX:X≠0)(k:Nat):List.replicate k 0++zB X=zB (X*4294967296^k):=by
 have C:val (List.replicate k 0++zB X)=X*4294967296^k:=by rw[aV,bA,lR,zE,Nat.zero_add,Nat.mul_comm]
 have D:Fit (List.replicate k 0++zB X):=uQ (kD _) (wO _);rw[<-C,zM7 D];rw[C,lAz,lR];have G:=yP.2 hX;have h1:=sZ (n:=X) (k:=(zB X).length-1) zot;have h2:4294967296^(k+((zB X).length-1))<=X*4294967296^k:=by
  rw[Nat.pow_add,Nat.mul_comm];exact Nat.mul_le_mul_right _ h1
 have h3:=zBS h2;omega
theorem gM{t:Nat}(h0:t≠0)(h:t<4294967296):zB t=[t]:=by
 rw[kX zot,zoh h,Nat.div_eq_of_lt h,xK]
theorem zP0{Y:Nat}(h:0<(zB Y).length):(zB Y).drop ((zB Y).length-1)=zB ((zB Y).getD ((zB Y).length-1) 0):=by
 rw[gM (sW h) (qV (wO Y) _),tJ _ _ zot,List.drop_of_length_le zot]
theorem zHT(X k:Nat):(zB (X*4294967296^k)).length<=(zB X).length+k:=by
 refine qN ?_;rw[Nat.pow_add];exact Nat.mul_lt_mul_of_pos_right (qC X) (Nat.pow_pos zow)
theorem zV9{V W P v1 v2 vr top u3 wr:Nat}(hV:V=(v1*4294967296+v2)*P+vr)(hW:W=(top*4294967296+u3)*P+wr)(hu:u3<4294967296)(hw:wr<P)(h1:0<v1)(hWV:W<4294967296*V):W<(min (top/v1) 4294967295+1)*V:=by
 by_cases h:top/v1<=4294967295
 · rw[Nat.min_eq_left h];exact zNL hV hW hu hw h1
 · rw[Nat.min_eq_right zot];exact hWV
theorem zT1{R k m V:Nat}(h:R/4294967296^k<m*V):R<V*m*4294967296^k:=by
 have:=Nat.lt_mul_of_div_lt h (Nat.pow_pos zow);rw[Nat.mul_comm V m];exact this
theorem zV8{R V k:Nat}(h:R<4294967296^(k+1)*V):R/4294967296^k<4294967296*V:=by
 refine Nat.div_lt_of_lt_mul ?_;rw[Nat.pow_succ,Nat.mul_assoc] at h;exact h
theorem yBD{B p R q d V U:Nat}(h:R+p*B*(q*V)=U)(hle:V*d*p<=R):R-V*d*p+p*((d+B*q)*V)=U:=by
 obtain⟨t,rfl⟩:∃t,R=V*d*p+t:=⟨R-V*d*p,by omega⟩;rw[Nat.add_sub_cancel_left];grind
theorem yKH{R V d p:Nat}(h:R<V*(d+1)*p)(hle:V*d*p<=R):R-V*d*p<p*V:=by
 have:V*(d+1)*p=V*d*p+p*V:=by grind
 omega
theorem yBE{V d p:Nat}(h:1<=d):V*d*p-V*p=V*(d-1)*p/\V*p<=V*d*p:=by
 obtain⟨e,rfl⟩:∃e,d=e+1:=⟨d-1,by omega⟩;have:V*(e+1)*p=V*e*p+V*p:=by grind
 rw[Nat.add_sub_cancel];omega
theorem zOP{U V r n:Nat}(hU:U<4294967296^r)(hV:4294967296^(n-1)<=V)(hn:1<=n)(hr:n<=r):U<4294967296^(r-n+1)*V:=by
 refine Nat.lt_of_lt_of_le hU ?_;have h1:(4294967296:Nat)^r=4294967296^(r-n+1)*4294967296^(n-1):=by rw[<-Nat.pow_add,show r-n+1+(n-1)=r by omega]
 rw[h1];exact Nat.mul_le_mul_left _ hV
end Bk
