/- Texts that the proof needs, part 1. -/
import Derived.WalkKit
import Derived.WalkSpells
import Derived.WalkLawsBesides
import Derived.Laws.AppendOwnNone
import Derived.Still
import Derived.Test.YtboaboflnckgoaaGreatProg
import Derived.KernelRfl
import Derived.Laws.Externs
import Derived.Deep.MidRow
namespace Bk
theorem lAz{α:Type _}{a b:List α}:(a++b).length=a.length+b.length:=List.length_append
theorem lR{α:Type _}{n:Nat}{a:α}:(List.replicate n a).length=n:=List.length_replicate
theorem lC{α:Type _}{a:α}{l:List α}:(a::l).length=l.length+1:=List.length_cons
theorem lN{α:Type _}:([]:List α).length=0:=List.length_nil
theorem lS{α:Type _}{l:List α}{i:Nat}{a:α}:(l.set i a).length=l.length:=List.length_set
theorem bL{n m:Nat}(h:Nat.ble n m=true):n≤m:=Nat.le_of_ble_eq_true h
theorem nX{α:Type _}{p:α→Prop}:∀x∈([]:List α),p x:=fun _ hx=>by cases hx
theorem e2z{α0 α1:Type}{a0:α0}{a1:α1}:a0=a0∧a1=a1∧True:=⟨rfl,rfl,trivial⟩
theorem e3z{α0 α1 α2:Type}{a0:α0}{a1:α1}{a2:α2}:a0=a0∧a1=a1∧a2=a2∧True:=⟨rfl,rfl,rfl,trivial⟩
theorem e4z{α0 α1 α2 α3:Type}{a0:α0}{a1:α1}{a2:α2}{a3:α3}:a0=a0∧a1=a1∧a2=a2∧a3=a3∧True:=⟨rfl,rfl,rfl,rfl,trivial⟩
theorem e5{α0 α1 α2 α3 α4:Type}{a0:α0}{a1:α1}{a2:α2}{a3:α3}{a4:α4}:a0=a0∧a1=a1∧a2=a2∧a3=a3∧a4=a4∧True:=⟨rfl,rfl,rfl,rfl,rfl,trivial⟩
theorem e6z{α0 α1 α2 α3 α4 α5:Type}{a0:α0}{a1:α1}{a2:α2}{a3:α3}{a4:α4}{a5:α5}:a0=a0∧a1=a1∧a2=a2∧a3=a3∧a4=a4∧a5=a5∧True:=⟨rfl,rfl,rfl,rfl,rfl,rfl,trivial⟩
theorem e7{α0 α1 α2 α3 α4 α5 α6:Type}{a0:α0}{a1:α1}{a2:α2}{a3:α3}{a4:α4}{a5:α5}{a6:α6}:a0=a0∧a1=a1∧a2=a2∧a3=a3∧a4=a4∧a5=a5∧a6=a6∧True:=⟨rfl,rfl,rfl,rfl,rfl,rfl,rfl,trivial⟩
theorem e8{α0 α1 α2 α3 α4 α5 α6 α7:Type}{a0:α0}{a1:α1}{a2:α2}{a3:α3}{a4:α4}{a5:α5}{a6:α6}{a7:α7}:a0=a0∧a1=a1∧a2=a2∧a3=a3∧a4=a4∧a5=a5∧a6=a6∧a7=a7∧True:=⟨rfl,rfl,rfl,rfl,rfl,rfl,rfl,rfl,trivial⟩
theorem e10{α0 α1 α2 α3 α4 α5 α6 α7 α8 α9:Type}{a0:α0}{a1:α1}{a2:α2}{a3:α3}{a4:α4}{a5:α5}{a6:α6}{a7:α7}{a8:α8}{a9:α9}:a0=a0∧a1=a1∧a2=a2∧a3=a3∧a4=a4∧a5=a5∧a6=a6∧a7=a7∧a8=a8∧a9=a9∧True:=⟨rfl,rfl,rfl,rfl,rfl,rfl,rfl,rfl,rfl,rfl,trivial⟩
theorem e11{α0 α1 α2 α3 α4 α5 α6 α7 α8 α9 α10:Type}{a0:α0}{a1:α1}{a2:α2}{a3:α3}{a4:α4}{a5:α5}{a6:α6}{a7:α7}{a8:α8}{a9:α9}{a10:α10}:a0=a0∧a1=a1∧a2=a2∧a3=a3∧a4=a4∧a5=a5∧a6=a6∧a7=a7∧a8=a8∧a9=a9∧a10=a10∧True:=⟨rfl,rfl,rfl,rfl,rfl,rfl,rfl,rfl,rfl,rfl,rfl,trivial⟩
theorem e12{α0 α1 α2 α3 α4 α5 α6 α7 α8 α9 α10 α11:Type}{a0:α0}{a1:α1}{a2:α2}{a3:α3}{a4:α4}{a5:α5}{a6:α6}{a7:α7}{a8:α8}{a9:α9}{a10:α10}{a11:α11}:a0=a0∧a1=a1∧a2=a2∧a3=a3∧a4=a4∧a5=a5∧a6=a6∧a7=a7∧a8=a8∧a9=a9∧a10=a10∧a11=a11∧True:=⟨rfl,rfl,rfl,rfl,rfl,rfl,rfl,rfl,rfl,rfl,rfl,rfl,trivial⟩
end Bk
namespace Bk
set_option linter.unusedVariables false
set_option linter.unusedSimpArgs false
open Go Go.RowKit
section
variable {α:Type _}{a b c d e f g i:α}{l:List α}
theorem mh0:a∈a::l:=.head _
theorem mh1:b∈a::b::l:=.tail _ mh0
theorem mh2:c∈a::b::c::l:=.tail _ mh1
theorem mh3:d∈a::b::c::d::l:=.tail _ mh2
theorem mh4:e∈a::b::c::d::e::l:=.tail _ mh3
theorem mh5:f∈a::b::c::d::e::f::l:=.tail _ mh4
theorem mh6:g∈a::b::c::d::e::f::g::l:=.tail _ mh5
theorem mh7:i∈a::b::c::d::e::f::g::i::l:=.tail _ mh6
end
abbrev Mem:=Nat→Option Obj
def mem(w:World):Mem:=fun b=>w.heap[b]?
def MLe(h h':Mem):Prop:=∀b o,h b=some o→h' b=some o
theorem MLe.refl(h:Mem):MLe h h:=fun _ _ x=>x
theorem MLe.trans{a b c:Mem}(h:MLe a b)(k:MLe b c):MLe a c:=fun i o x=>k i o (h i o x)
def cell(h:Mem)(b i:Nat):Option Value:=
  match h b with
  |some (.cells c _ _)=>c[i]?
  |_=>none
theorem zAX{h h':Mem}(e:MLe h h'){b i:Nat}{v:Value}(hc:cell h b i=some v):cell h' b i=some v:=by
  unfold cell at *
  cases hb:h b with
  |none=>simp[hb] at hc
  |some o=>rw[e b o hb];rw[hb] at hc;exact hc
theorem bV{h:Mem}{w:World}(e:MLe h (mem w)){b i:Nat}{v:Value}(hc:cell h b i=some v):w.cell? ⟨b,i,none⟩=some v:=by
  have:=zAX e hc
  unfold cell mem at this
  unfold World.cell?
  exact this
theorem zEC{w:World}{b i:Nat}{v:Value}(hc:w.cell? ⟨b,i,none⟩=some v):cell (mem w) b i=some v:=by
  unfold World.cell? at hc
  unfold cell mem
  exact hc
inductive Res where
  |blk(b:Nat)(o:Obj)
  |gs(E k:Nat)(v:Value)(n:Nat)(cs:List Value)
def Res.ok(base:Nat)(w:World):Res→Prop
  | .blk b o=>w.heap[b]?=some o
  | .gs E k v n cs=>w.ownsRow base E k v n cs
def Res.fp:Res→Option Nat
  | .blk b _=>some b
  | .gs _ _ v _ _=>v.ownBlock
structure St(w0:World)(h0:Mem)(L:List Res)(h:Mem)(w:World):Prop where
  below:Below w0.heap.size w0 w
  le:MLe h0 h
  sub:MLe h (mem w)
  fresh:∀b,b<w0.heap.size→h b=h0 b
  ok:∀r∈L,r.ok w0.heap.size w
  own:∀r∈L,∀b,r.fp=some b→h b=none∧w0.heap.size≤b
  apart:L.Pairwise fun r s=>∀b,r.fp=some b→s.fp≠some b
theorem St.begin{w:World}{h:Mem}(hs:MLe h (mem w)):St w h [] h w:=
  ⟨Below.refl _ _,MLe.refl h,hs,fun _ _=>rfl,fun _ hr=>by simp at hr,fun _ hr=>by simp at hr,by simp⟩
theorem Res.fp_lt{base:Nat}{w:World}{r:Res}(h:r.ok base w){b:Nat}(hb:r.fp=some b):b<w.heap.size:=by
  cases r with
  |blk b' o=>
   simp only[Res.fp,Option.some.injEq] at hb
   subst hb
   exact(Array.getElem?_eq_some_iff.1 h).1
  |gs E k v n cs=>exact(World.ownsRow.lt h b hb).2
theorem Res.kept{base:Nat}{w w':World}{r:Res}(h:r.ok base w)(hb:∀b,r.fp=some b→w'.heap[b]?=w.heap[b]?):r.ok base w':=by
  cases r with
  |blk b o=>exact(hb b rfl).trans h
  |gs E k v n cs=>
   refine⟨h.1,?_⟩
   rcases h.2 with hn|⟨g,cap,cur,rfl,hbg,hg,rest⟩
   · exact .inl hn
   · exact .inr ⟨g,cap,cur,rfl,hbg,(hb g rfl).trans hg,rest⟩
theorem Res.base_le{base base':Nat}{w:World}{r:Res}(h:r.ok base' w)(hb:base≤base'):r.ok base w:=by
  cases r with
  |blk b o=>exact h
  |gs E k v n cs=>
   refine⟨h.1,?_⟩
   rcases h.2 with hn|⟨g,cap,cur,hv,hbg,rest⟩
   · exact .inl hn
   · exact .inr ⟨g,cap,cur,hv,Nat.le_trans hb hbg,rest⟩
theorem St.call{w0 w w':World}{h0 h h':Mem}{L L':List Res}(s:St w0 h0 L h w)(c:St w h L' h' w'):St w0 h0 (L'++L) h' w':=by
  have hsz:w0.heap.size≤w.heap.size:=s.below.size
  have hlt:∀r∈L,∀b,r.fp=some b→b<w.heap.size:=fun r hr b hb=>Res.fp_lt (s.ok r hr) hb
  refine⟨s.below.trans (c.below.mono hsz),s.le.trans c.le,c.sub,fun b hb=>(c.fresh b (by omega)).trans (s.fresh b hb),?_,?_,?_⟩
  · intro r hr
    rcases List.mem_append.1 hr with hr|hr
    · exact Res.base_le (c.ok r hr) hsz
    · exact Res.kept (s.ok r hr) fun b hb=>c.below.block b (hlt r hr b hb)
  · intro r hr b hb
    rcases List.mem_append.1 hr with hr|hr
    · have:=c.own r hr b hb
      exact⟨this.1,by omega⟩
    · have:=s.own r hr b hb
      exact⟨(c.fresh b (hlt r hr b hb)).trans this.1,this.2⟩
  · refine List.pairwise_append.2 ⟨c.apart,s.apart,fun r hr r' hr' b hb hb'=>?_⟩
    have h1:=(c.own r hr b hb).2
    have h2:=hlt r' hr' b hb'
    omega
theorem St.alloc{w0 w:World}{h0 h:Mem}{L:List Res}(s:St w0 h0 L h w)(o:Obj):St w0 h0 (.blk w.heap.size o::L) h (w.alloc o):=by
  have hsz:w0.heap.size≤w.heap.size:=s.below.size
  have hold:∀b,b<w.heap.size→(w.alloc o).heap[b]?=w.heap[b]?:=fun b hb=>heap_alloc_old w o hb
  have hlt:∀r∈L,∀b,r.fp=some b→b<w.heap.size:=fun r hr b hb=>Res.fp_lt (s.ok r hr) hb
  refine⟨s.below.alloc hsz o,s.le,?_,s.fresh,?_,?_,?_⟩
  · intro b o' hb
    have:=s.sub b o' hb
    unfold mem at *
    rw[hold b (Array.getElem?_eq_some_iff.1 this).1]
    exact this
  · intro r hr
    rcases List.mem_cons.1 hr with rfl|hr
    · exact heap_alloc_new w o
    · exact Res.kept (s.ok r hr) fun b hb=>hold b (hlt r hr b hb)
  · intro r hr b hb
    rcases List.mem_cons.1 hr with rfl|hr
    · simp only[Res.fp,Option.some.injEq] at hb
      subst hb
      refine⟨?_,hsz⟩
      cases hh:h w.heap.size with
      |none=>rfl
      |some o'=>
       have:=s.sub _ o' hh
       unfold mem at this
       exact absurd (Array.getElem?_eq_some_iff.1 this).1 (Nat.lt_irrefl _)
    · exact s.own r hr b hb
  · refine List.pairwise_cons.2 ⟨fun r hr b hb hb'=>?_,s.apart⟩
    simp only[Res.fp,Option.some.injEq] at hb
    have:=hlt r hr b hb'
    omega
theorem St.grown{w0 w w':World}{h0 h:Mem}{A B:List Res}{r r':Res}(s:St w0 h0 (A++r::B) h w)(hg:w.grownBy w' r.fp)(hok:r'.ok w0.heap.size w')
    (hfp:∀b,r'.fp=some b→r.fp=some b∨w.heap.size≤b):St w0 h0 (A++r'::B) h w':=by
  have hsz:w0.heap.size≤w.heap.size:=s.below.size
  have hlt:∀x∈A++r::B,∀b,x.fp=some b→b<w.heap.size:=fun x hx b hb=>Res.fp_lt (s.ok x hx) hb
  have hap:=s.apart
  have hrm:r∈A++r::B:=by simp
  have hne:∀x,(x∈A∨x∈B)→∀b,x.fp=some b→r.fp≠some b:=by
    intro x hx b hb hr
    rw[List.pairwise_append,List.pairwise_cons] at hap
    rcases hx with hx|hx
    · exact hap.2.2 x hx r (by simp) b hb hr
    · exact hap.2.1.1 x hx b hr hb
  have hkeep:∀x,(x∈A∨x∈B)→∀b,x.fp=some b→w'.heap[b]?=w.heap[b]?:=by
    intro x hx b hb
    refine hg.block b (hlt x ?_ b hb) (fun e=>hne x hx b hb e.symm)
    rcases hx with hx|hx<;>simp[hx]
  have hnone:∀b,w.heap.size≤b→h b=none:=by
    intro b hb
    cases hh:h b with
    |none=>rfl
    |some o=>
     have:=s.sub b o hh
     unfold mem at this
     have:=(Array.getElem?_eq_some_iff.1 this).1
     omega
  refine⟨s.below.grown hg hsz (fun b hb=>(s.own r hrm b hb).2),s.le,?_,s.fresh,?_,?_,?_⟩
  · intro b o hb
    have h1:=s.sub b o hb
    unfold mem at *
    refine(hg.block b (Array.getElem?_eq_some_iff.1 h1).1 (fun e=>?_)).trans h1
    have:=(s.own r hrm b e.symm).1
    rw[this] at hb
    cases hb
  · intro x hx
    rcases List.mem_append.1 hx with hx|hx
    · exact Res.kept (s.ok x (by simp[hx])) (hkeep x (.inl hx))
    · rcases List.mem_cons.1 hx with rfl|hx
      · exact hok
      · exact Res.kept (s.ok x (by simp[hx])) (hkeep x (.inr hx))
  · intro x hx b hb
    rcases List.mem_append.1 hx with hx|hx
    · exact s.own x (by simp[hx]) b hb
    · rcases List.mem_cons.1 hx with rfl|hx
      · rcases hfp b hb with h1|h1
        · exact s.own r hrm b h1
        · exact⟨hnone b h1,by omega⟩
      · exact s.own x (by simp[hx]) b hb
  · have hx':∀x,(x∈A∨x∈B)→∀b,x.fp=some b→r'.fp≠some b:=by
      intro x hx b hb hr'
      rcases hfp b hr' with h1|h1
      · exact hne x hx b hb h1
      · have:=hlt x (by rcases hx with hx|hx<;>simp[hx]) b hb
        omega
    rw[List.pairwise_append,List.pairwise_cons] at hap ⊢
    refine⟨hap.1,⟨fun x hx b hb hb'=>hx' x (.inr hx) b hb' hb,hap.2.1.2⟩,fun x hx y hy b hb=>?_⟩
    rcases List.mem_cons.1 hy with rfl|hy
    · exact hx' x (.inl hx) b hb
    · exact hap.2.2 x hx y (by simp[hy]) b hb
theorem St.drop{w0 w:World}{h0 h:Mem}{A B:List Res}{r:Res}(s:St w0 h0 (A++r::B) h w):St w0 h0 (A++B) h w:=by
  refine⟨s.below,s.le,s.sub,s.fresh,fun x hx=>s.ok x ?_,fun x hx=>s.own x ?_,?_⟩
  · rcases List.mem_append.1 hx with hx|hx<;>simp[hx]
  · rcases List.mem_append.1 hx with hx|hx<;>simp[hx]
  · have hap:=s.apart
    rw[List.pairwise_append,List.pairwise_cons] at hap
    rw[List.pairwise_append]
    exact⟨hap.1,hap.2.1.2,fun x hx y hy=>hap.2.2 x hx y (by simp[hy])⟩
theorem St.sublist{w0 w:World}{h0 h:Mem}{L L':List Res}(s:St w0 h0 L h w)(hl:L'.Sublist L):St w0 h0 L' h w:=
  ⟨s.below,s.le,s.sub,s.fresh,fun r hr=>s.ok r (hl.subset hr),fun r hr=>s.own r (hl.subset hr),s.apart.sublist hl⟩
theorem St.freeze{w0 w:World}{h0 h:Mem}{A B:List Res}{b:Nat}{o:Obj}{r:Res}(s:St w0 h0 (A++r::B) h w)(hr:r.fp=some b)(ho:w.heap[b]?=some o):
    St w0 h0 (A++B) (fun i=>if i=b then some o else h i) w∧MLe h (fun i=>if i=b then some o else h i):=by
  have hrm:r∈A++r::B:=by simp
  have hb:=s.own r hrm b hr
  have hle:MLe h (fun i=>if i=b then some o else h i):=by
    intro i o' hi
    by_cases e:i=b
    · rw[e,hb.1] at hi;cases hi
    · simp[e,hi]
  have hap:=s.apart
  have hne:∀x,x∈A++B→x.fp≠some b:=by
    intro x hx hxb
    rw[List.pairwise_append,List.pairwise_cons] at hap
    rcases List.mem_append.1 hx with hx|hx
    · exact hap.2.2 x hx r (by simp) b hxb hr
    · exact hap.2.1.1 x hx b hr hxb
  have s':=s.drop
  refine⟨⟨s'.below,s'.le.trans hle,?_,?_,s'.ok,?_,s'.apart⟩,hle⟩
  · intro i o' hi
    by_cases e:i=b
    · simp only[e,if_true,Option.some.injEq] at hi
      subst hi
      rw[e];exact ho
    · simp only[e,if_false] at hi
      exact s.sub i o' hi
  · intro i hi
    have:i≠b:=by omega
    simp only[this,if_false]
    exact s.fresh i hi
  · intro x hx i hi
    have h1:=s'.own x hx i hi
    have:i≠b:=fun e=>hne x hx (e▸hi)
    simp only[this,if_false]
    exact h1
def Ret(w0:World)(h0:Mem)(R:Mem→Value→Prop):Ending→World→Prop:=fun e w=>∃v h,e=.returned v∧R h v∧St w0 h0 [] h w
def sQ(w0:World)(h0:Mem)(R:Mem→Value→List Res→Prop):Ending→World→Prop:=fun e w=>∃v h L,e=.returned v∧R h v L∧St w0 h0 L h w
structure Env(n:Nat)(e:List (Nat×Value))(a:Act):Prop where
  defers:a.defers=[]
  size:a.tmps.size=n
  get:∀t v,e.lookup t=some v→a.tmps[t]?=some v
def zJ(e:List (Nat×Value)):Operand→Option Value
  | .tmp t=>e.lookup t
  | .const v=>some v
  | .global g=>some (.pointer (some ⟨g,0,none⟩))
  | .func f=>some (.func (.func f) #[] #[])
theorem Env.eval{n:Nat}{e:List (Nat×Value)}{a:Act}(E:Env n e a){x:Operand}{v:Value}(h:zJ e x=some v):a.eval x=v:=by
  cases x with
  |tmp t=>
   have:=E.get t v h
   simp only[Act.eval,Array.getD_eq_getD_getElem?,this,Option.getD_some]
  |const u=>exact Option.some.inj h
  |global g=>exact Option.some.inj h
  |func f=>exact Option.some.inj h
theorem Env.put{n:Nat}{e:List (Nat×Value)}{a:Act}(E:Env n e a){d:Nat}{v:Value}(hd:d<n):Env n ((d,v)::e) (a.put (some d) v):=by
  refine⟨E.defers,by simp[Act.put,E.size],fun t u h=>?_⟩
  simp only[List.lookup_cons] at h
  by_cases ht:t=d
  · subst ht
    simp at h
    subst h
    simp[Act.put,E.size,hd]
  · have:(t==d)=false:=by simpa using ht
    rw[this] at h
    simp only[Act.put]
    rw[Array.getElem?_setIfInBounds_ne (Ne.symm ht)]
    exact E.get t u h
@[reducible] def Sub:List (Nat×Value)→List (Nat×Value)→Prop
  |[],_=>True
  |(t,v)::r,e=>e.lookup t=some v∧Sub r e
theorem Sub.lookup{e:List (Nat×Value)}:∀{e':List (Nat×Value)},Sub e' e→∀t v,e'.lookup t=some v→e.lookup t=some v
  |[],_,t,v,h=>by simp at h
  |(k,u)::r,hs,t,v,h=>by
   simp only[List.lookup_cons] at h
   by_cases ht:t=k
   · subst ht
     simp at h
     subst h
     exact hs.1
   · have:(t==k)=false:=by simpa using ht
     rw[this] at h
     exact Sub.lookup hs.2 t v h
theorem Env.sub{n:Nat}{e e':List (Nat×Value)}{a:Act}(E:Env n e a)(h:Sub e' e):Env n e' a:=⟨E.defers,E.size,fun t v ht=>E.get t v (h.lookup t v ht)⟩
@[reducible] def rO(e:List (Nat×Value)):List Operand→List Value→Prop
  |[],[]=>True
  |x::xs,v::vs=>zJ e x=some v∧rO e xs vs
  |_,_=>False
theorem Env.evals{n:Nat}{e:List (Nat×Value)}{a:Act}(E:Env n e a):∀{xs:List Operand} {vs:List Value},rO e xs vs→xs.map a.eval=vs
  |[],[],_=>rfl
  |x::xs,v::vs,h=>by rw[List.map_cons,E.eval h.1,E.evals h.2]
  |[],_::_,h=>h.elim
  |_::_,[],h=>h.elim
section goals
variable (P:Program)(n:Nat)(w0:World)(h0:Mem)
def GL(ops:Array Oper)(Q:Exit→Act→World→Prop)(l:List Oper)(e:List (Nat×Value))(L:List Res)(h:Mem):Prop:=
  ∀a w,Env n e a→St w0 h0 L h w→wpList P ops Q l a w
def GC(c:Code)(Q:Exit→Act→World→Prop)(e:List (Nat×Value))(L:List Res)(h:Mem):Prop:=
  ∀a w,Env n e a→St w0 h0 L h w→c.wp P Q a w
def GQ(Q:Exit→Act→World→Prop)(x:Exit)(e:List (Nat×Value))(L:List Res)(h:Mem):Prop:=
  ∀a w,Env n e a→St w0 h0 L h w→Q x a w
def OpV(o:Oper)(e:List (Nat×Value))(L:List Res)(h:Mem)(v:Value):Prop:=
  ∀a w,Env n e a→St w0 h0 L h w→(execOp a.eval o).run P w=.ok (.value v) w
def Upd(o:Oper)(e:List (Nat×Value))(A:List Res)(r:Res)(B:List Res)(h:Mem)(r':Res):Prop:=
  ∀a w,Env n e a→St w0 h0 (A++r::B) h w→∃w',(execOp a.eval o).run P w=.ok .skip w'∧w.grownBy w' r.fp∧r'.ok w0.heap.size w'
end goals
section rules
variable {P:Program}{n:Nat}{w0:World}{h0:Mem}{e:List (Nat×Value)}{L:List Res}{h:Mem}{Q:Exit→Act→World→Prop}
theorem gN{f:FuncId}{fn:Func}{c:Code}{vs:List Value}{R:Ending→World→Prop}{w0:World}(hf:P.funcs[f]?=some fn)(hb:fn.body=some c)(hn:fn.ntmps=n)(hl:vs.length≤n)
    (hs:MLe h0 (mem w0))(he:Sub e (vs.zipIdx.map fun p=>(p.2,p.1)))(k:GC P n w0 h0 c (bodyPost P fn R) e [] h0):Calls P f vs.toArray w0 R:=by
  refine calls_of_wp hf hb (k _ _ ?_ (St.begin hs))
  subst hn
  refine Env.sub ⟨rfl,by simp;omega,?_⟩ he
  intro t v ht
  have key:∀(l:List Value) (k t:Nat),((l.zipIdx k).map fun p=>(p.2,p.1)).lookup t=some v→k≤t∧l[t-k]?=some v:=by
    intro l
    induction l with
    |nil=>intro k t h;simp at h
    |cons x l ih=>
     intro k t h
     simp only[List.zipIdx_cons,List.map_cons,List.lookup_cons] at h
     by_cases hk:t=k
     · subst hk
       simp at h
       exact⟨Nat.le_refl _,by simp[h]⟩
     · have:(t==k)=false:=by simpa using hk
       rw[this] at h
       have:=ih (k+1) t h
       refine⟨by omega,?_⟩
       have e1:t-k=(t-(k+1))+1:=by omega
       rw[e1,List.getElem?_cons_succ]
       exact this.2
  have:=(key vs 0 t ht).2
  simp only[Nat.sub_zero] at this
  simp only[List.size_toArray]
  rw[Array.getElem?_append_left (by simpa using(List.getElem?_eq_some_iff.1 this).1)]
  simpa using this
theorem rJ{f:FuncId}{fn:Func}{c:Code}{vs:List Value}{R:Ending→World→Prop}{w0 w:World}{L:List Res}{h:Mem}(hf:P.funcs[f]?=some fn)(hb:fn.body=some c)(hn:fn.ntmps=n)(hl:vs.length≤n)
    (S:St w0 h0 L h w)(he:Sub e (vs.zipIdx.map fun p=>(p.2,p.1)))(k:GC P n w0 h0 c (bodyPost P fn R) e L h):Calls P f vs.toArray w R:=by
  refine calls_of_wp hf hb (k _ _ ?_ S)
  subst hn
  refine Env.sub ⟨rfl,by simp;omega,?_⟩ he
  intro t v ht
  have key:∀(l:List Value) (k t:Nat),((l.zipIdx k).map fun p=>(p.2,p.1)).lookup t=some v→k≤t∧l[t-k]?=some v:=by
    intro l
    induction l with
    |nil=>intro k t h;simp at h
    |cons x l ih=>
     intro k t h
     simp only[List.zipIdx_cons,List.map_cons,List.lookup_cons] at h
     by_cases hk:t=k
     · subst hk
       simp at h
       exact⟨Nat.le_refl _,by simp[h]⟩
     · have:(t==k)=false:=by simpa using hk
       rw[this] at h
       have:=ih (k+1) t h
       refine⟨by omega,?_⟩
       have e1:t-k=(t-(k+1))+1:=by omega
       rw[e1,List.getElem?_cons_succ]
       exact this.2
  have:=(key vs 0 t ht).2
  simp only[Nat.sub_zero] at this
  simp only[List.size_toArray]
  rw[Array.getElem?_append_left (by simpa using(List.getElem?_eq_some_iff.1 this).1)]
  simpa using this
theorem zL{x y:Code}(k:GC P n w0 h0 x (Exit.then (y.wp P Q) Q) e L h):GC P n w0 h0 (.seq x y) Q e L h:=
  fun a w E S=>wp_seq (k a w E S)
theorem uL(k:GQ n w0 h0 Q .normal e L h):GC P n w0 h0 .skip Q e L h:=fun a w E S=>wp_skip (k a w E S)
theorem bR(k:GQ n w0 h0 Q .ret e L h):GC P n w0 h0 .ret Q e L h:=fun a w E S=>wp_ret (k a w E S)
theorem kX{i:Nat}(k:GQ n w0 h0 Q (.exit i) e L h):GC P n w0 h0 (.exit i) Q e L h:=fun a w E S=>wp_exit (k a w E S)
theorem wU{i:Nat}{c:Code}(k:GC P n w0 h0 c (Exit.inBlock i Q) e L h):GC P n w0 h0 (.block i c) Q e L h:=fun a w E S=>wp_block (k a w E S)
theorem zE{i:Nat}{l:List Oper}(k:GL P n w0 h0 l.toArray Q l e L h):GC P n w0 h0 (.region i l.toArray false) Q e L h:=fun a w E S=>wp_region_lit (k a w E S)
theorem zQ{ops:Array Oper}(k:GQ n w0 h0 Q .normal e L h):GL P n w0 h0 ops Q [] e L h:=fun a w E S=>wpList_nil (k a w E S)
theorem zH{y:Code}(k:GC P n w0 h0 y Q e L h):GQ n w0 h0 (Exit.then (y.wp P Q) Q) .normal e L h:=k
theorem tU{i:Nat}(k:GQ n w0 h0 Q .normal e L h):GQ n w0 h0 (Exit.inBlock i Q) .normal e L h:=k
theorem uJ{N:Act→World→Prop}{i:Nat}(k:GQ n w0 h0 Q (.exit i) e L h):GQ n w0 h0 (Exit.then N Q) (.exit i) e L h:=k
theorem kW{i:Nat}(k:GQ n w0 h0 Q .normal e L h):GQ n w0 h0 (Exit.inBlock i Q) (.exit i) e L h:=by
  intro a w E S
  simp only[Exit.inBlock,if_true]
  exact k a w E S
theorem zGP{i j:Nat}(hij:(j==i)=false)(k:GQ n w0 h0 Q (.exit j) e L h):GQ n w0 h0 (Exit.inBlock i Q) (.exit j) e L h:=by
  intro a w E S
  have:j≠i:=by simpa using hij
  simp only[Exit.inBlock,this,if_false]
  exact k a w E S
theorem aK{N:Act→World→Prop}(k:GQ n w0 h0 Q .ret e L h):GQ n w0 h0 (Exit.then N Q) .ret e L h:=k
theorem zMW{i:Nat}(k:GQ n w0 h0 Q .ret e L h):GQ n w0 h0 (Exit.inBlock i Q) .ret e L h:=k
theorem wT{x:Exit}{e':List (Nat×Value)}(hs:Sub e' e)(k:GQ n w0 h0 Q x e' L h):GQ n w0 h0 Q x e L h:=fun a w E S=>k a w (E.sub hs) S
theorem zGS{c:Code}{e':List (Nat×Value)}(hs:Sub e' e)(k:GC P n w0 h0 c Q e' L h):GC P n w0 h0 c Q e L h:=fun a w E S=>k a w (E.sub hs) S
theorem vV{x:Exit}{A B:List Res}{r:Res}(k:GQ n w0 h0 Q x e (A++B) h):GQ n w0 h0 Q x e (A++r::B) h:=fun a w E S=>k a w E S.drop
noncomputable def vB(p:Prop):Value:=.bool (@decide p (Classical.propDecidable p))
theorem fL{p q:Prop}(hpq:p↔q):vB p=vB q:=by rw[propext hpq]
theorem xL{p:Prop}(hp:p):vB p=.bool true:=by unfold vB;simp[hp]
theorem yU{p:Prop}(hp:¬p):vB p=.bool false:=by unfold vB;simp[hp]
theorem xM{p q:Prop}(hp:p):vB q=vB (p∧q):=fL ⟨fun h=>⟨hp,h⟩,fun h=>h.2⟩
theorem xN{p q:Prop}(hp:¬p):Value.bool false=vB (p∧q):=(yU fun h=>hp h.1).symm
theorem uA{p q:Prop}(hp:p):Value.bool true=vB (p∨q):=(xL (.inl hp)).symm
theorem uC{p q:Prop}(hp:¬p):vB q=vB (p∨q):=fL ⟨.inr,fun h=>h.resolve_left hp⟩
theorem zVM{c:Operand}{x y:Code}{p:Prop}(hc:zJ e c=some (vB p))(kt:p→GC P n w0 h0 x Q e L h)(kf:¬p→GC P n w0 h0 y Q e L h):GC P n w0 h0 (.cond c x y) Q e L h:=by
  intro a w E S
  by_cases hp:p
  · exact wp_cond_true (by rw[E.eval hc,xL hp]) (kt hp a w E S)
  · exact wp_cond_false (by rw[E.eval hc,yU hp]) (kf hp a w E S)
theorem zFC{c:Operand}{x y:Code}(hc:zJ e c=some (.bool true))(k:GC P n w0 h0 x Q e L h):GC P n w0 h0 (.cond c x y) Q e L h:=
  fun a w E S=>wp_cond_true (E.eval hc) (k a w E S)
theorem zFD{c:Operand}{x y:Code}(hc:zJ e c=some (.bool false))(k:GC P n w0 h0 y Q e L h):GC P n w0 h0 (.cond c x y) Q e L h:=
  fun a w E S=>wp_cond_false (E.eval hc) (k a w E S)
theorem qK{ι:Type}{x y:Code}(inv:ι→Prop)(ev:ι→List (Nat×Value))(Lv:ι→List Res)(hv:ι→Mem)
    (kx:GC P n w0 h0 x (Exit.then (fun a w=>∃i,inv i∧Env n (ev i) a∧St w0 h0 (Lv i) (hv i) w) Q) e L h)
    (ky:∀i,inv i→GC P n w0 h0 y Q (ev i) (Lv i) (hv i)):GC P n w0 h0 (.seq x y) Q e L h:=by
  intro a w E S
  refine wp_seq (wp_mono (kx a w E S) ?_)
  intro x a w hq
  cases x with
  |normal=>obtain⟨i,hi,E,S⟩:=hq;exact ky i hi a w E S
  |_=>exact hq
theorem zN{ι:Type}{inv:ι→Prop}{ev:ι→List (Nat×Value)}{Lv:ι→List Res}{hv:ι→Mem}(i:ι)(hi:inv i)(he:Sub (ev i) e)(hL:Lv i=L)(hh:hv i=h):
    GQ n w0 h0 (Exit.then (fun a w=>∃i,inv i∧Env n (ev i) a∧St w0 h0 (Lv i) (hv i) w) Q) .normal e L h:=
  fun a w E S=>⟨i,hi,E.sub he,by rw[hL,hh];exact S⟩
theorem vC{ι:Type}{c:Code}(inv:ι→Prop)(ev:ι→List (Nat×Value))(Lv:ι→List Res)(hv:ι→Mem)(μ:ι→Nat)(i0:ι)(hi0:inv i0)(he:Sub (ev i0) e)(hL:Lv i0=L)(hh:hv i0=h)
    (round:∀i,inv i→GC P n w0 h0 c (Exit.then (fun a w=>∃j,(inv j∧μ j<μ i)∧Env n (ev j) a∧St w0 h0 (Lv j) (hv j) w) Q) (ev i) (Lv i) (hv i)):GC P n w0 h0 (.loop c) Q e L h:=by
  have key:∀m i,μ i=m→inv i→∀a w,Env n (ev i) a→St w0 h0 (Lv i) (hv i) w→∀(b:Frame) (k:List Item) (cs:List Frame),
      ∃x a' w',Q x a' w'∧Arrives P (lone (b.at a (.code c::.inLoop c::k)) cs w) b k cs x a' w':=by
    intro m
    induction m using Nat.strongRecOn with
    |_ m ih=>
     intro i hm hi a w E S b k cs
     obtain⟨x,a1,w1,hq,harr⟩:=round i hi a w E S b (.inLoop c::k) cs
     cases x with
     |normal=>
      obtain⟨j,⟨hj,hlt⟩,E1,S1⟩:=hq
      obtain⟨x2,a2,w2,hq2,harr2⟩:=ih (μ j) (hm▸hlt) j rfl hj a1 w1 E1 S1 b k cs
      exact⟨x2,a2,w2,hq2,.of_steps (Steps.trans harr (.one step_inLoop)) harr2⟩
     |exit id=>exact⟨_,a1,w1,hq,.pass (x:=.inLoop c) rfl (fun _ _=>.inl (by simp)) harr⟩
     |goto l=>exact⟨_,a1,w1,hq,.pass (x:=.inLoop c) rfl (fun _ _=>.inl (by simp)) harr⟩
     |ret=>exact⟨_,a1,w1,hq,.pass (x:=.inLoop c) rfl (fun _ _=>.inl (by simp)) harr⟩
     |panic ch=>exact⟨_,a1,w1,hq,.pass (x:=.inLoop c) rfl (fun _ _=>.inl (by simp)) harr⟩
     |outgrown=>exact⟨_,a1,w1,hq,.pass (x:=.inLoop c) rfl (fun _ _=>.inl (by simp)) harr⟩
  intro a w E S b k cs
  obtain⟨x,a',w',hq,harr⟩:=key _ i0 rfl hi0 a w (E.sub he) (by rw[hL,hh];exact S) b k cs
  exact⟨x,a',w',hq,.of_steps (.one step_loop) harr⟩
theorem yQ{ι:Type}{inv:ι→Prop}{ev:ι→List (Nat×Value)}{Lv:ι→List Res}{hv:ι→Mem}{μ:ι→Nat}{m:Nat}(i:ι)(hi:inv i)(hm:μ i<m)(he:Sub (ev i) e)(hL:Lv i=L)(hh:hv i=h):
    GQ n w0 h0 (Exit.then (fun a w=>∃j,(inv j∧μ j<m)∧Env n (ev j) a∧St w0 h0 (Lv j) (hv j) w) Q) .normal e L h:=
  fun a w E S=>⟨i,⟨hi,hm⟩,E.sub he,by rw[hL,hh];exact S⟩
theorem zD{fn:Func}{t:Nat}{v:Value}{R:Mem→Value→Prop}(hr:fn.results=#[.tmp t])(hv:zJ e (.tmp t)=some v)(hR:R h v):GQ n w0 h0 (bodyPost P fn (Ret w0 h0 R)) .ret e L h:=by
  intro a w E S
  refine bodyPost_ret (results_tmp hr _ _ _) E.defers ?_
  have:=E.eval hv
  simp only[Act.eval] at this
  rw[this]
  exact⟨v,h,rfl,hR,S.sublist (List.nil_sublist _)⟩
theorem jU{fn:Func}{t:Nat}{v:Value}{R:Mem→Value→List Res→Prop}(hr:fn.results=#[.tmp t])(hv:zJ e (.tmp t)=some v)(hR:R h v L):GQ n w0 h0 (bodyPost P fn (sQ w0 h0 R)) .ret e L h:=by
  intro a w E S
  refine bodyPost_ret (results_tmp hr _ _ _) E.defers ?_
  have:=E.eval hv
  simp only[Act.eval] at this
  rw[this]
  exact⟨v,h,L,rfl,hR,S⟩
theorem vT{fn:Func}{t u:Nat}{v x:Value}{R:Mem→Value→Prop}(hr:fn.results=#[.tmp t,.tmp u])(hv:zJ e (.tmp t)=some v)(hx:zJ e (.tmp u)=some x)(hR:R h (.tuple #[v,x])):
    GQ n w0 h0 (bodyPost P fn (Ret w0 h0 R)) .ret e L h:=by
  intro a w E S
  refine bodyPost_ret (results_tmp2 hr _ _ _) E.defers ?_
  have h1:=E.eval hv
  have h2:=E.eval hx
  simp only[Act.eval] at h1 h2
  rw[h1,h2]
  exact⟨_,h,rfl,hR,S.sublist (List.nil_sublist _)⟩
theorem qX{fn:Func}{t u s:Nat}{v x y:Value}{R:Mem→Value→Prop}(hr:fn.results=#[.tmp t,.tmp u,.tmp s])(hv:zJ e (.tmp t)=some v)(hx:zJ e (.tmp u)=some x)(hy:zJ e (.tmp s)=some y)
    (hR:R h (.tuple #[v,x,y])):GQ n w0 h0 (bodyPost P fn (Ret w0 h0 R)) .ret e L h:=by
  intro a w E S
  have h1:=E.eval hv
  have h2:=E.eval hx
  have h3:=E.eval hy
  simp only[Act.eval] at h1 h2 h3
  refine bodyPost_ret (v:=.tuple #[v,x,y]) ?_ E.defers ⟨_,h,rfl,hR,S.sublist (List.nil_sublist _)⟩
  simp only[Array.getD_eq_getD_getElem?] at h1 h2 h3
  simp[results,hr,h1,h2,h3]
theorem mF{ops:Array Oper}{rest:List Oper}{o:Oper}{d:Nat}{v:Value}(hv:OpV P n w0 h0 o e L h v)(hg:o.guard=none)(hd:o.dst=some d)(hn:Nat.ble (d+1) n=true)
    (k:GL P n w0 h0 ops Q rest ((d,v)::e) L h):GL P n w0 h0 ops Q (o::rest) e L h:=by
  intro a w E S
  refine wpList_plain hg fun K hK=>?_
  unfold Oper.wp
  rw[hv a w E S,Oper.upon_value,hd]
  exact hK _ _ (k _ _ (E.put (Nat.le_of_ble_eq_true hn)) S)
theorem iJ{ops:Array Oper}{rest:List Oper}{o:Oper}{g t:Nat}{b:Bool}(hg:o.guard=some (g,b))(ht:(ops[g]?).bind (·.dst)=some t)(he:e.lookup t=some (.bool b))
    (k:GL P n w0 h0 ops Q ({o with guard:=none}::rest) e L h):GL P n w0 h0 ops Q (o::rest) e L h:=by
  intro a w E S
  have hk:=k a w E S
  have hw:Region.wanted o (yielded ops a.tmps)=true:=by
    have:=E.get t _ he
    simp[Region.wanted,hg,yielded,ht,this]
  unfold wpList at hk ⊢
  rw[if_pos hw]
  rw[if_pos (by simp[Region.wanted])] at hk
  exact hk
theorem aV{ops:Array Oper}{rest:List Oper}{o:Oper}{g t d:Nat}{b c:Bool}(hg:o.guard=some (g,b))(ht:(ops[g]?).bind (·.dst)=some t)(he:e.lookup t=some (.bool c))(hbc:(c==b)=false)
    (hd:o.dst=some d)(hn:Nat.ble (d+1) n=true)(k:GL P n w0 h0 ops Q rest ((d,undef)::e) L h):GL P n w0 h0 ops Q (o::rest) e L h:=by
  intro a w E S
  have hw:Region.wanted o (yielded ops a.tmps)=false:=by
    have:=E.get t _ he
    simp only[Region.wanted,hg,yielded,ht,this,Option.bind_some]
    simpa using hbc
  unfold wpList
  rw[if_neg (by simp[hw]),hd]
  exact k _ _ (E.put (Nat.le_of_ble_eq_true hn)) S
theorem OpV.tr{o:Oper}{p:Prop}(hp:p)(hv:OpV P n w0 h0 o e L h (vB p)):OpV P n w0 h0 o e L h (.bool true):=xL hp▸hv
theorem OpV.fa{o:Oper}{p:Prop}(hp:¬p)(hv:OpV P n w0 h0 o e L h (vB p)):OpV P n w0 h0 o e L h (.bool false):=yU hp▸hv
theorem zVK{ops:Array Oper}{rest:List Oper}{o:Oper}{g t d:Nat}{b:Bool}(hg:o.guard=some (g,b))(ht:(ops[g]?).bind (·.dst)=some t)(he:e.lookup t=some undef)
    (hd:o.dst=some d)(hn:Nat.ble (d+1) n=true)(k:GL P n w0 h0 ops Q rest ((d,undef)::e) L h):GL P n w0 h0 ops Q (o::rest) e L h:=by
  intro a w E S
  have hw:Region.wanted o (yielded ops a.tmps)=false:=by
    have:=E.get t _ he
    simp[Region.wanted,hg,yielded,ht,this,undef]
  unfold wpList
  rw[if_neg (by simp[hw]),hd]
  exact k _ _ (E.put (Nat.le_of_ble_eq_true hn)) S
theorem uO{ops:Array Oper}{ι:Type}(j:Nat){l:List Oper}(inv:ι→Prop)(ev:ι→List (Nat×Value))(Lv:ι→List Res)(hv:ι→Mem)
    (kx:GL P n w0 h0 ops (Exit.then (fun a w=>∃i,inv i∧Env n (ev i) a∧St w0 h0 (Lv i) (hv i) w) Q) (l.take j) e L h)
    (ky:∀i,inv i→GL P n w0 h0 ops Q (l.drop j) (ev i) (Lv i) (hv i)):GL P n w0 h0 ops Q l e L h:=by
  intro a w E S
  have key:∀(l1:List Oper) a w,wpList P ops (Exit.then (fun a w=>∃i,inv i∧Env n (ev i) a∧St w0 h0 (Lv i) (hv i) w) Q) l1 a w→wpList P ops Q (l1++l.drop j) a w:=by
    intro l1
    induction l1 with
    |nil=>intro a w hq;obtain⟨i,hi,E,S⟩:=hq;exact ky i hi a w E S
    |cons o l1 ih=>
     intro a w hq
     simp only[List.cons_append]
     unfold wpList at hq ⊢
     split
     · rename_i hw
       rw[if_pos hw] at hq
       refine hq.imp (fun hq=>?_) (fun hq=>⟨hq.1,?_⟩)
       · unfold Oper.wp at *
         generalize (execOp a.eval o).run P w=r at *
         cases r with
         |ok x w'=>
          cases x<;>simp only[Oper.upon] at hq ⊢<;>
            first
              |exact ih _ _ hq
              |exact Calls.mono hq (fun e w'' he=>by cases e<;>first|exact ih _ _ he|exact he)
              |exact Rows.mono hq (fun _ _ he=>ih _ _ he)
         |halt x w'=>cases x<;>simp only[Oper.upon] at hq ⊢<;>exact hq
       · obtain⟨a,w,hq⟩:=hq.2;exact⟨a,w,hq⟩
     · rename_i hw
       rw[if_neg hw] at hq
       exact ih _ _ hq
  have:=key (l.take j) a w (kx a w E S)
  rwa [List.take_append_drop] at this
theorem yB{ops:Array Oper}{l:List Oper}(p:Prop)(kt:p→GL P n w0 h0 ops Q l e L h)(kf:¬p→GL P n w0 h0 ops Q l e L h):GL P n w0 h0 ops Q l e L h:=by
  by_cases hp:p
  · exact kt hp
  · exact kf hp
theorem zSB{c:Code}(p:Prop)(kt:p→GC P n w0 h0 c Q e L h)(kf:¬p→GC P n w0 h0 c Q e L h):GC P n w0 h0 c Q e L h:=by
  by_cases hp:p
  · exact kt hp
  · exact kf hp
theorem zVL{ops:Array Oper}{rest:List Oper}{o:Oper}{d f:Nat}{xs:List Operand}{ts:Array TypeId}{vs:List Value}{R:Mem→Value→Prop}(hop:o.op=.call {callee:=.value (.func f),args:=xs.toArray,argTypes:=ts})
    (hg:o.guard=none)(hd:o.dst=some d)(hn:Nat.ble (d+1) n=true)(hcall:∀args w,(callFunc f args).run P w=.ok (.enter f args) w)(hvs:rO e xs vs)
    (hc:∀w,MLe h (mem w)→Calls P f vs.toArray w (Ret w h R))(k:∀v h',MLe h h'→R h' v→GL P n w0 h0 ops Q rest ((d,v)::e) L h'):GL P n w0 h0 ops Q (o::rest) e L h:=by
  intro a w E S
  refine wpList_plain hg fun K hK=>?_
  have hargs:xs.toArray.map a.eval=vs.toArray:=by rw[List.map_toArray,E.evals hvs]
  have hr:(execOp a.eval o).run P w=.ok (.enter f vs.toArray) w:=by
    obtain⟨dst,op,ty,pos,after,guard⟩:=o
    simp only at hop
    subst hop
    simp only[execOp,resolve,Act.eval]
    simp[Deferred.ofValue,invoke,hcall,hargs]
  unfold Oper.wp
  rw[hr,Oper.upon_enter]
  refine(hc w S.sub).mono ?_
  rintro e' w' ⟨v,h',rfl,hR,S'⟩
  have S2:=S.call S'
  rw[hd]
  exact hK _ _ (k v h' S'.le hR _ _ (E.put (Nat.le_of_ble_eq_true hn)) S2)
theorem qU{ops:Array Oper}{rest:List Oper}{o:Oper}{d f:Nat}{xs:List Operand}{ts:Array TypeId}{vs:List Value}{R:Mem→Value→List Res→Prop}(hop:o.op=.call {callee:=.value (.func f),args:=xs.toArray,argTypes:=ts})
    (hg:o.guard=none)(hd:o.dst=some d)(hn:Nat.ble (d+1) n=true)(hcall:∀args w,(callFunc f args).run P w=.ok (.enter f args) w)(hvs:rO e xs vs)
    (hc:∀w,MLe h (mem w)→Calls P f vs.toArray w (sQ w h R))(k:∀v h' L',MLe h h'→R h' v L'→GL P n w0 h0 ops Q rest ((d,v)::e) (L'++L) h'):GL P n w0 h0 ops Q (o::rest) e L h:=by
  intro a w E S
  refine wpList_plain hg fun K hK=>?_
  have hargs:xs.toArray.map a.eval=vs.toArray:=by rw[List.map_toArray,E.evals hvs]
  have hr:(execOp a.eval o).run P w=.ok (.enter f vs.toArray) w:=by
    obtain⟨dst,op,ty,pos,after,guard⟩:=o
    simp only at hop
    subst hop
    simp only[execOp,resolve,Act.eval]
    simp[Deferred.ofValue,invoke,hcall,hargs]
  unfold Oper.wp
  rw[hr,Oper.upon_enter]
  refine(hc w S.sub).mono ?_
  rintro e' w' ⟨v,h',L',rfl,hR,S'⟩
  have S2:=S.call S'
  rw[hd]
  exact hK _ _ (k v h' L' S'.le hR _ _ (E.put (Nat.le_of_ble_eq_true hn)) S2)
theorem zGR{ops:Array Oper}{rest:List Oper}{o:Oper}{d f:Nat}{xs:List Operand}{ts:Array TypeId}{vs:List Value}{R:Mem→Value→Prop}(hop:o.op=.call {callee:=.value (.func f),args:=xs.toArray,argTypes:=ts})
    (hg:o.guard=none)(hd:o.dst=some d)(hn:Nat.ble (d+1) n=true)(hcall:∀args w,(callFunc f args).run P w=.ok (.enter f args) w)(hvs:rO e xs vs)
    (hc:∀w,St w0 h0 L h w→Calls P f vs.toArray w (Ret w (mem w) R))(k:∀v,(∃h',R h' v)→GL P n w0 h0 ops Q rest ((d,v)::e) L h):GL P n w0 h0 ops Q (o::rest) e L h:=by
  intro a w E S
  refine wpList_plain hg fun K hK=>?_
  have hargs:xs.toArray.map a.eval=vs.toArray:=by rw[List.map_toArray,E.evals hvs]
  have hr:(execOp a.eval o).run P w=.ok (.enter f vs.toArray) w:=by
    obtain⟨dst,op,ty,pos,after,guard⟩:=o
    simp only at hop
    subst hop
    simp only[execOp,resolve,Act.eval]
    simp[Deferred.ofValue,invoke,hcall,hargs]
  unfold Oper.wp
  rw[hr,Oper.upon_enter]
  refine(hc w S).mono ?_
  rintro e' w' ⟨v,h',rfl,hR,S'⟩
  have hlt:∀r∈L,∀b,r.fp=some b→b<w.heap.size:=fun r hr b hb=>Res.fp_lt (S.ok r hr) hb
  have S2:St w0 h0 L h w':=⟨S.below.trans (S'.below.mono S.below.size),S.le,(S.sub.trans S'.le).trans S'.sub,S.fresh,fun r hr=>Res.kept (S.ok r hr) fun b hb=>S'.below.block b (hlt r hr b hb),S.own,S.apart⟩
  rw[hd]
  exact hK _ _ (k v ⟨h',hR⟩ _ _ (E.put (Nat.le_of_ble_eq_true hn)) S2)
theorem oZ{ops:Array Oper}{rest:List Oper}{o:Oper}{d f:Nat}{xs:List Operand}{ts:Array TypeId}{vs:List Value}{R:Mem→Value→List Res→Prop}(hop:o.op=.call {callee:=.value (.func f),args:=xs.toArray,argTypes:=ts})
    (hg:o.guard=none)(hd:o.dst=some d)(hn:Nat.ble (d+1) n=true)(hcall:∀args w,(callFunc f args).run P w=.ok (.enter f args) w)(hvs:rO e xs vs)
    (hc:∀w,St w0 h0 L h w→Calls P f vs.toArray w (sQ w0 h0 R))(k:∀v h' L',R h' v L'→GL P n w0 h0 ops Q rest ((d,v)::e) L' h'):GL P n w0 h0 ops Q (o::rest) e L h:=by
  intro a w E S
  refine wpList_plain hg fun K hK=>?_
  have hargs:xs.toArray.map a.eval=vs.toArray:=by rw[List.map_toArray,E.evals hvs]
  have hr:(execOp a.eval o).run P w=.ok (.enter f vs.toArray) w:=by
    obtain⟨dst,op,ty,pos,after,guard⟩:=o
    simp only at hop
    subst hop
    simp only[execOp,resolve,Act.eval]
    simp[Deferred.ofValue,invoke,hcall,hargs]
  unfold Oper.wp
  rw[hr,Oper.upon_enter]
  refine(hc w S).mono ?_
  rintro e' w' ⟨v,h',L',rfl,hR,S'⟩
  rw[hd]
  exact hK _ _ (k v h' L' hR _ _ (E.put (Nat.le_of_ble_eq_true hn)) S')
theorem xO{ops:Array Oper}{rest:List Oper}{o:Oper}{A B:List Res}{r r':Res}(hv:Upd P n w0 h0 o e A r B h r')
    (hfp:r'.fp=r.fp)(hg:o.guard=none)(hd:o.dst=none)(k:GL P n w0 h0 ops Q rest e (A++r'::B) h):GL P n w0 h0 ops Q (o::rest) e (A++r::B) h:=by
  intro a w E S
  refine wpList_plain hg fun K hK=>?_
  obtain⟨w',hr,hgr,hok⟩:=hv a w E S
  unfold Oper.wp
  rw[hr,Oper.upon_skip,hd]
  exact hK _ _ (k _ _ E (S.grown hgr hok fun b hb=>.inl (hfp▸hb)))
end rules
theorem law_true{P:Program}{f:FuncId}{args:Array Value}{w:World}{h:Mem}(hc:Calls P f args w (Ret w h fun _ v=>v=.bool true)):Calls P f args w fun e w'=>e=.returned (.bool true)∧Below w.heap.size w w':=
  hc.mono fun _ _ ⟨_,_,he,hv,S⟩=>⟨by rw[he,hv],S.below⟩
end Bk
namespace Bk
set_option linter.unusedVariables false
set_option linter.unusedSimpArgs false
open Go Go.RowKit
def vI(x:Int):Value:=.int .i64 x
def vU(k:IntKind)(x:Nat):Value:=.int k (x:Int)
def ub:IntKind→Nat
  | .u8=>256
  | .u16=>65536
  | .u32=>4294967296
  | .u64=>18446744073709551616
  |_=>0
theorem zPD{k:IntKind}(hk:k.signed=false)(x:Int):k.wrap x=x%(ub k:Int):=by
  cases k<;>simp[IntKind.signed] at hk<;>simp[IntKind.wrap,IntKind.signed,IntKind.bits,ub]
theorem dQ{k:IntKind}(hk:k.signed=false)(x:Nat):k.wrap (x:Int)=((x%ub k:Nat):Int):=by
  rw[zPD hk];omega
theorem nL{k:IntKind}(hk:k.signed=false){x:Nat}(hx:x<ub k):k.wrap (x:Int)=(x:Int):=by
  rw[dQ hk,Nat.mod_eq_of_lt hx]
theorem s3{x:Int}(h1:-9223372036854775808≤x)(h2:x<9223372036854775808):IntKind.i64.wrap x=x:=by
  rw[IntKind.wrap_i64];omega
section ops
variable {P:Program}{n:Nat}{w0:World}{h0:Mem}{e:List (Nat×Value)}{L:List Res}{h:Mem}
variable {ds:Option Tmp}{ty:TypeId}{ps:String}{af:Array Edge}{gd:Option (Nat×Bool)}
theorem yW{x:Operand}{v:Value}(hx:zJ e x=some v):OpV P n w0 h0 ⟨ds,.move x,ty,ps,af,gd⟩ e L h v:=by
  intro a w E S;simp[execOp,E.eval hx]
theorem tH{x:Operand}{v:Value}(hx:zJ e x=some v):OpV P n w0 h0 ⟨ds,.assign x,ty,ps,af,gd⟩ e L h v:=by
  intro a w E S;simp[execOp,E.eval hx]
theorem rT{c x y:Operand}{v:Value}(hc:zJ e c=some (.bool true))(hx:zJ e x=some v):OpV P n w0 h0 ⟨ds,.pick c x y,ty,ps,af,gd⟩ e L h v:=by
  intro a w E S;simp[execOp,E.eval hc,E.eval hx,asBool]
theorem rU{c x y:Operand}{v:Value}(hc:zJ e c=some (.bool false))(hy:zJ e y=some v):OpV P n w0 h0 ⟨ds,.pick c x y,ty,ps,af,gd⟩ e L h v:=by
  intro a w E S;simp[execOp,E.eval hc,E.eval hy,asBool]
theorem kP{x:Operand}{i:Nat}{vs:List Value}{v:Value}(hx:zJ e x=some (.tuple vs.toArray))(hv:vs[i]?=some v):OpV P n w0 h0 ⟨ds,.extract x i,ty,ps,af,gd⟩ e L h v:=by
  intro a w E S;simp[execOp,E.eval hx,Instr.extract,hv]
theorem oJ{t:TypeId}{x:Operand}{p:Prop}(hx:zJ e x=some (vB p)):OpV P n w0 h0 ⟨ds,.unOp .not t x,ty,ps,af,gd⟩ e L h (vB (¬p)):=by
  intro a w E S;simp[execOp,E.eval hx,Op.unary,vB]
theorem lM{t:TypeId}{x:Operand}{m:Int}(hx:zJ e x=some (vI m))(h1:-9223372036854775808<m)(h2:m≤9223372036854775808):OpV P n w0 h0 ⟨ds,.unOp .neg t x,ty,ps,af,gd⟩ e L h (vI (-m)):=by
  intro a w E S
  have:=s3 (x:=-m) (by omega) (by omega)
  simp[execOp,E.eval hx,Op.unary,Op.intArith,vI,this]
theorem yZ(op:BinOp)(t:TypeId)(x y:Operand)(k k':IntKind)(m m':Int)(w:World):(eqGuard op t x y (.int k m) (.int k' m')).run P w=.ok () w:=by
  cases op<;>simp[eqGuard]
theorem zY{t yt:TypeId}{x y:Operand}{p q:Int}(hx:zJ e x=some (vI p))(hy:zJ e y=some (vI q))(h1:-9223372036854775808≤p+q)(h2:p+q<9223372036854775808):
    OpV P n w0 h0 ⟨ds,.binOp .add t x y yt,ty,ps,af,gd⟩ e L h (vI (p+q)):=by
  intro a w E S;simp[execOp,E.eval hx,E.eval hy,vI,yZ,binOp,Op.intArith,s3 h1 h2]
theorem qW{t yt:TypeId}{x y:Operand}{p q:Int}(hx:zJ e x=some (vI p))(hy:zJ e y=some (vI q))(h1:-9223372036854775808≤p-q)(h2:p-q<9223372036854775808):
    OpV P n w0 h0 ⟨ds,.binOp .sub t x y yt,ty,ps,af,gd⟩ e L h (vI (p-q)):=by
  intro a w E S;simp[execOp,E.eval hx,E.eval hy,vI,yZ,binOp,Op.intArith,s3 h1 h2]
theorem bJ{t yt:TypeId}{x y:Operand}{p q:Int}(hx:zJ e x=some (vI p))(hy:zJ e y=some (vI q))(h1:-9223372036854775808≤p*q)(h2:p*q<9223372036854775808):
    OpV P n w0 h0 ⟨ds,.binOp .mul t x y yt,ty,ps,af,gd⟩ e L h (vI (p*q)):=by
  intro a w E S;simp[execOp,E.eval hx,E.eval hy,vI,yZ,binOp,Op.intArith,s3 h1 h2]
theorem lK{t yt:TypeId}{x y:Operand}{p q:Int}(hx:zJ e x=some (vI p))(hy:zJ e y=some (vI q))(h1:0≤p)(h2:p<9223372036854775808)(h3:0<q):
    OpV P n w0 h0 ⟨ds,.binOp .quo t x y yt,ty,ps,af,gd⟩ e L h (vI (p/q)):=by
  intro a w E S
  have h4:p.tdiv q=p/q:=Int.tdiv_eq_ediv_of_nonneg h1
  have h5:0≤p/q:=Int.ediv_nonneg h1 (by omega)
  have h6:p/q≤p:=Int.ediv_le_self q h1
  have h7:q≠0:=by omega
  simp[execOp,E.eval hx,E.eval hy,vI,yZ,binOp,Op.intDiv,h7,h4,s3 (x:=p/q) (by omega) (by omega)]
theorem vX{t yt:TypeId}{x y:Operand}{p q:Int}(hx:zJ e x=some (vI p))(hy:zJ e y=some (vI q))(h1:0≤p)(h3:0<q):
    OpV P n w0 h0 ⟨ds,.binOp .rem t x y yt,ty,ps,af,gd⟩ e L h (vI (p%q)):=by
  intro a w E S
  have h4:p.tmod q=p%q:=Int.tmod_eq_emod_of_nonneg h1
  have h7:q≠0:=by omega
  simp[execOp,E.eval hx,E.eval hy,vI,yZ,binOp,Op.intDiv,h7,h4]
theorem yL{t yt:TypeId}{x y:Operand}{p q:Int}(hx:zJ e x=some (vI p))(hy:zJ e y=some (vI q)):OpV P n w0 h0 ⟨ds,.binOp .lss t x y yt,ty,ps,af,gd⟩ e L h (vB (p<q)):=by
  intro a w E S;simp[execOp,E.eval hx,E.eval hy,vI,yZ,binOp,Op.intCmp,vB]
theorem oN{t yt:TypeId}{x y:Operand}{p q:Int}(hx:zJ e x=some (vI p))(hy:zJ e y=some (vI q)):OpV P n w0 h0 ⟨ds,.binOp .leq t x y yt,ty,ps,af,gd⟩ e L h (vB (p≤q)):=by
  intro a w E S;simp[execOp,E.eval hx,E.eval hy,vI,yZ,binOp,Op.intCmp,vB]
theorem lQ{t yt:TypeId}{x y:Operand}{p q:Int}(hx:zJ e x=some (vI p))(hy:zJ e y=some (vI q)):OpV P n w0 h0 ⟨ds,.binOp .gtr t x y yt,ty,ps,af,gd⟩ e L h (vB (q<p)):=by
  intro a w E S;simp[execOp,E.eval hx,E.eval hy,vI,yZ,binOp,Op.intCmp,vB]
theorem bK{t yt:TypeId}{x y:Operand}{p q:Int}(hx:zJ e x=some (vI p))(hy:zJ e y=some (vI q)):OpV P n w0 h0 ⟨ds,.binOp .geq t x y yt,ty,ps,af,gd⟩ e L h (vB (q≤p)):=by
  intro a w E S;simp[execOp,E.eval hx,E.eval hy,vI,yZ,binOp,Op.intCmp,vB]
theorem oP{t yt:TypeId}{x y:Operand}{p q:Int}(hx:zJ e x=some (vI p))(hy:zJ e y=some (vI q)):OpV P n w0 h0 ⟨ds,.binOp .eql t x y yt,ty,ps,af,gd⟩ e L h (vB (p=q)):=by
  intro a w E S;simp[execOp,E.eval hx,E.eval hy,vI,yZ,binOp,Op.intCmp,vB,BEq.beq]
theorem lL{t yt:TypeId}{x y:Operand}{p q:Int}(hx:zJ e x=some (vI p))(hy:zJ e y=some (vI q)):OpV P n w0 h0 ⟨ds,.binOp .neq t x y yt,ty,ps,af,gd⟩ e L h (vB (p≠q)):=by
  intro a w E S
  have:(p != q)=!decide (p=q):=rfl
  simp[execOp,E.eval hx,E.eval hy,vI,yZ,binOp,Op.intCmp,vB,this]
theorem fW{k:IntKind}{W:Nat}{t yt:TypeId}{x y:Operand}{p q:Nat}(hk:k.signed=false)(hW:ub k=W)(hx:zJ e x=some (vU k p))(hy:zJ e y=some (vU k q))(hlt:p+q<W):
    OpV P n w0 h0 ⟨ds,.binOp .add t x y yt,ty,ps,af,gd⟩ e L h (vU k (p+q)):=by
  intro a w E S
  have:=nL hk (x:=p+q) (by omega)
  simp only[Int.natCast_add] at this
  simp[execOp,E.eval hx,E.eval hy,vU,yZ,binOp,Op.intArith,this]
theorem zN3{k:IntKind}{W:Nat}{t yt:TypeId}{x y:Operand}{p q:Nat}(hk:k.signed=false)(hW:ub k=W)(hx:zJ e x=some (vU k p))(hy:zJ e y=some (vU k q)):
    OpV P n w0 h0 ⟨ds,.binOp .add t x y yt,ty,ps,af,gd⟩ e L h (vU k ((p+q)%W)):=by
  intro a w E S
  have:=dQ hk (p+q)
  rw[hW] at this
  simp only[Int.natCast_add] at this
  simp[execOp,E.eval hx,E.eval hy,vU,yZ,binOp,Op.intArith,this]
theorem bH{k:IntKind}{W:Nat}{t yt:TypeId}{x y:Operand}{p q:Nat}(hk:k.signed=false)(hW:ub k=W)(hx:zJ e x=some (vU k p))(hy:zJ e y=some (vU k q))(hle:q≤p)(hlt:p<W):
    OpV P n w0 h0 ⟨ds,.binOp .sub t x y yt,ty,ps,af,gd⟩ e L h (vU k (p-q)):=by
  intro a w E S
  have:=nL hk (x:=p-q) (by omega)
  rw[Int.ofNat_sub hle] at this
  simp[execOp,E.eval hx,E.eval hy,vU,yZ,binOp,Op.intArith,this,Int.ofNat_sub hle]
theorem lJ{k:IntKind}{W:Nat}{t yt:TypeId}{x y:Operand}{p q:Nat}(hk:k.signed=false)(hW:ub k=W)(hx:zJ e x=some (vU k p))(hy:zJ e y=some (vU k q))(hlt:q≤W):
    OpV P n w0 h0 ⟨ds,.binOp .sub t x y yt,ty,ps,af,gd⟩ e L h (vU k ((p+W-q)%W)):=by
  intro a w E S
  have h1:=zPD hk ((p:Int)-q)
  rw[hW] at h1
  have h2:((p:Int)-q)%(W:Int)=(((p+W-q)%W:Nat):Int):=by
    have e1:((p+W-q:Nat):Int)=(p:Int)-q+W:=by omega
    rw[Int.natCast_emod,e1,Int.add_emod_right]
  simp[execOp,E.eval hx,E.eval hy,vU,yZ,binOp,Op.intArith,h1,h2]
theorem oK{k:IntKind}{W:Nat}{t yt:TypeId}{x y:Operand}{p q:Nat}(hk:k.signed=false)(hW:ub k=W)(hx:zJ e x=some (vU k p))(hy:zJ e y=some (vU k q))(hlt:p*q<W):
    OpV P n w0 h0 ⟨ds,.binOp .mul t x y yt,ty,ps,af,gd⟩ e L h (vU k (p*q)):=by
  intro a w E S
  have:=nL hk (x:=p*q) (by omega)
  simp only[Int.natCast_mul] at this
  simp[execOp,E.eval hx,E.eval hy,vU,yZ,binOp,Op.intArith,this]
theorem pL{k:IntKind}{W:Nat}{t yt:TypeId}{x y:Operand}{p q:Nat}(hk:k.signed=false)(hW:ub k=W)(hx:zJ e x=some (vU k p))(hy:zJ e y=some (vU k q))(hlt:p<W)(h0':0<q):
    OpV P n w0 h0 ⟨ds,.binOp .quo t x y yt,ty,ps,af,gd⟩ e L h (vU k (p/q)):=by
  intro a w E S
  have h1:p/q≤p:=Nat.div_le_self _ _
  have:=nL hk (x:=p/q) (by omega)
  have h2:((p:Int)).tdiv q=(p:Int)/(q:Int):=Int.tdiv_eq_ediv_of_nonneg (by omega)
  have h3:q≠0:=by omega
  have h4:k.wrap ((p:Int)/(q:Int))=(p:Int)/(q:Int):=this
  simp only[execOp,E.eval hx,E.eval hy,vU,binOp]
  simp[yZ,Op.intDiv,h3,h2,h4]
theorem pK{k:IntKind}{t yt:TypeId}{x y:Operand}{p q:Nat}(hx:zJ e x=some (vU k p))(hy:zJ e y=some (vU k q))(h0':0<q):
    OpV P n w0 h0 ⟨ds,.binOp .rem t x y yt,ty,ps,af,gd⟩ e L h (vU k (p%q)):=by
  intro a w E S
  have h2:((p:Int)).tmod q=(p:Int)%(q:Int):=Int.tmod_eq_emod_of_nonneg (by omega)
  have h3:q≠0:=by omega
  simp only[execOp,E.eval hx,E.eval hy,vU,binOp]
  simp[yZ,Op.intDiv,h3,h2]
theorem zCN{k:IntKind}{t yt:TypeId}{x y:Operand}{p q:Nat}(hx:zJ e x=some (vU k p))(hy:zJ e y=some (vU k q)):OpV P n w0 h0 ⟨ds,.binOp .lss t x y yt,ty,ps,af,gd⟩ e L h (vB (p<q)):=by
  intro a w E S;simp[execOp,E.eval hx,E.eval hy,vU,yZ,binOp,Op.intCmp,vB]
theorem lP{k:IntKind}{t yt:TypeId}{x y:Operand}{p q:Nat}(hx:zJ e x=some (vU k p))(hy:zJ e y=some (vU k q)):OpV P n w0 h0 ⟨ds,.binOp .gtr t x y yt,ty,ps,af,gd⟩ e L h (vB (q<p)):=by
  intro a w E S;simp[execOp,E.eval hx,E.eval hy,vU,yZ,binOp,Op.intCmp,vB]
theorem rA{k:IntKind}{t yt:TypeId}{x y:Operand}{p q:Nat}(hx:zJ e x=some (vU k p))(hy:zJ e y=some (vU k q)):OpV P n w0 h0 ⟨ds,.binOp .geq t x y yt,ty,ps,af,gd⟩ e L h (vB (q≤p)):=by
  intro a w E S;simp[execOp,E.eval hx,E.eval hy,vU,yZ,binOp,Op.intCmp,vB]
theorem gB{k:IntKind}{t yt:TypeId}{x y:Operand}{p q:Nat}(hx:zJ e x=some (vU k p))(hy:zJ e y=some (vU k q)):OpV P n w0 h0 ⟨ds,.binOp .eql t x y yt,ty,ps,af,gd⟩ e L h (vB (p=q)):=by
  intro a w E S
  have h1:((p:Int)==(q:Int))=decide (p=q):=by rw[Bool.eq_iff_iff];simp;omega
  simp only[execOp,E.eval hx,E.eval hy,vU,binOp]
  simp only[Op.intCmp,vB,h1]
  simp[yZ]
theorem fF{k:IntKind}{t yt:TypeId}{x y:Operand}{p q:Nat}(hx:zJ e x=some (vU k p))(hy:zJ e y=some (vU k q)):OpV P n w0 h0 ⟨ds,.binOp .neq t x y yt,ty,ps,af,gd⟩ e L h (vB (p≠q)):=by
  intro a w E S
  have h1:((p:Int) != (q:Int))=decide (p≠q):=by rw[Bool.eq_iff_iff];simp;omega
  simp only[execOp,E.eval hx,E.eval hy,vU,binOp]
  simp only[Op.intCmp,vB,h1]
  simp[yZ]
theorem tE(k:IntKind)(hk:k.signed=false):2^k.bits=ub k:=by cases k<;>simp[IntKind.signed] at hk<;>rfl
theorem kI{k yk:IntKind}{t yt:TypeId}{x y:Operand}{p s:Nat}(hk:k.signed=false)(hx:zJ e x=some (vU k p))(hy:zJ e y=some (.int yk (s:Int)))(hp:p<ub k):
    OpV P n w0 h0 ⟨ds,.binOp .shr t x y yt,ty,ps,af,gd⟩ e L h (vU k (p/2^s)):=by
  intro a w E S
  have h1:¬((s:Int)<0):=by omega
  have h2:((p:Int)).fdiv (2^min s k.bits)=((p/2^s:Nat):Int):=by
    rw[Int.fdiv_eq_ediv_of_nonneg _ (Int.le_of_lt (Int.pow_pos (by omega)))]
    rcases Nat.le_total s k.bits with hle|hle
    · rw[Nat.min_eq_left hle];rfl
    · rw[Nat.min_eq_right hle]
      have e1:p/2^s=0:=Nat.div_eq_of_lt (Nat.lt_of_lt_of_le hp (by rw[←tE k hk];exact Nat.pow_le_pow_right (by omega) hle))
      have e2:p/2^k.bits=0:=Nat.div_eq_of_lt (by rw[tE k hk];exact hp)
      rw[e1]
      have:((p:Int)/(2^k.bits:Int))=((p/2^k.bits:Nat):Int):=rfl
      rw[this,e2]
  simp only[execOp,E.eval hx,E.eval hy,vU,binOp]
  simp[yZ,Op.shift,h1,h2]
theorem kJ{k yk:IntKind}{W:Nat}{t yt:TypeId}{x y:Operand}{p s:Nat}(hk:k.signed=false)(hW:ub k=W)(hx:zJ e x=some (vU k p))(hy:zJ e y=some (.int yk (s:Int))):
    OpV P n w0 h0 ⟨ds,.binOp .shl t x y yt,ty,ps,af,gd⟩ e L h (vU k (p*2^s%W)):=by
  intro a w E S
  have h1:¬((s:Int)<0):=by omega
  have h2:k.wrap ((p:Int)*2^min s k.bits)=((p*2^s%W:Nat):Int):=by
    rcases Nat.le_total s k.bits with hle|hle
    · rw[Nat.min_eq_left hle,←hW,←dQ hk];simp
    · rw[Nat.min_eq_right hle]
      have e1:p*2^s%W=0:=by
        rw[←hW,←tE k hk]
        exact Nat.mod_eq_zero_of_dvd (Nat.dvd_trans (Nat.pow_dvd_pow 2 hle) (Nat.dvd_mul_left _ _))
      have e2:((p*2^k.bits%ub k:Nat):Int)=0:=by rw[tE k hk];simp
      have:=dQ hk (p*2^k.bits)
      rw[e2] at this
      rw[e1]
      simpa using this
  simp only[execOp,E.eval hx,E.eval hy,vU,binOp]
  simp[yZ,Op.shift,h1,h2]
theorem tF{k:IntKind}{t yt:TypeId}{x y:Operand}{p q:Nat}(hk:k.signed=false)(hx:zJ e x=some (vU k p))(hy:zJ e y=some (vU k q))(hp:p<ub k)(hq:q<ub k):
    OpV P n w0 h0 ⟨ds,.binOp .or t x y yt,ty,ps,af,gd⟩ e L h (vU k (p |||q)):=by
  intro a w E S
  have hb:=tE k hk
  have h3:p |||q<2^k.bits:=Nat.or_lt_two_pow (by omega) (by omega)
  have h4:=nL hk (x:=p |||q) (by omega)
  have h5:=Nat.mod_eq_of_lt (a:=p) (b:=2^k.bits) (by omega)
  have h6:=Nat.mod_eq_of_lt (a:=q) (b:=2^k.bits) (by omega)
  simp only[execOp,E.eval hx,E.eval hy,vU,binOp]
  simp[yZ,Op.intBits,h4,h5,h6]
theorem zQ3{k:IntKind}{t yt:TypeId}{x y:Operand}{p q:Nat}(hk:k.signed=false)(hx:zJ e x=some (vU k p))(hy:zJ e y=some (vU k q))(hp:p<ub k)(hq:q<ub k):
    OpV P n w0 h0 ⟨ds,.binOp .and t x y yt,ty,ps,af,gd⟩ e L h (vU k (p&&&q)):=by
  intro a w E S
  have hb:=tE k hk
  have h3:p&&&q≤p:=Nat.and_le_left
  have h4:=nL hk (x:=p&&&q) (by omega)
  have h5:=Nat.mod_eq_of_lt (a:=p) (b:=2^k.bits) (by omega)
  have h6:=Nat.mod_eq_of_lt (a:=q) (b:=2^k.bits) (by omega)
  simp only[execOp,E.eval hx,E.eval hy,vU,binOp]
  simp[yZ,Op.intBits,h4,h5,h6]
theorem oF{t:TypeId}(hu:P.underlying t=some .bool)(x y:Bool)(w:World):(Op.equal t (.bool x) (.bool y)).run P w=.ok (x==y) w:=by
  have h1:Op.equal t (.bool x) (.bool y)=Op.equalIn (9999+1) t (.bool x) (.bool y):=rfl
  rw[h1,Op.equalIn]
  simp[run_underlying hu]
theorem oQ{t yt:TypeId}{x y:Operand}{p q:Prop}(hu:P.underlying t=some .bool)(hx:zJ e x=some (vB p))(hy:zJ e y=some (vB q)):
    OpV P n w0 h0 ⟨ds,.binOp .eql t x y yt,ty,ps,af,gd⟩ e L h (vB (p↔q)):=by
  intro a w E S
  simp only[execOp,E.eval hx,E.eval hy,vB,binOp]
  simp[eqGuard,oF hu]
  by_cases hp:p<;>by_cases hq:q<;>simp[hp,hq]
theorem fV{t yt:TypeId}{x y:Operand}{p q:Prop}(hu:P.underlying t=some .bool)(hx:zJ e x=some (vB p))(hy:zJ e y=some (vB q)):
    OpV P n w0 h0 ⟨ds,.binOp .neq t x y yt,ty,ps,af,gd⟩ e L h (vB (¬(p↔q))):=by
  intro a w E S
  simp only[execOp,E.eval hx,E.eval hy,vB,binOp]
  simp[eqGuard,oF hu]
  by_cases hp:p<;>by_cases hq:q<;>simp[hp,hq]
theorem gX{k k':IntKind}{W:Nat}{s t:TypeId}{d:TypeDesc}{x:Operand}{p:Nat}(hs:P.underlying s=some d)(ht:P.underlying t=some (.int k'))(hk:k'.signed=false)(hW:ub k'=W)(hx:zJ e x=some (vU k p)):
    OpV P n w0 h0 ⟨ds,.convert s t x,ty,ps,af,gd⟩ e L h (vU k' (p%W)):=by
  intro a w E S
  have:=dQ hk p
  rw[hW] at this
  simp[execOp,E.eval hx,vU,convert,run_underlying hs,run_underlying ht,Conv.intToInt,this]
theorem wQ{k k':IntKind}{W:Nat}{s t:TypeId}{d:TypeDesc}{x:Operand}{p:Nat}(hs:P.underlying s=some d)(ht:P.underlying t=some (.int k'))(hk:k'.signed=false)(hW:ub k'=W)(hx:zJ e x=some (vU k p))(hp:p<W):
    OpV P n w0 h0 ⟨ds,.convert s t x,ty,ps,af,gd⟩ e L h (vU k' p):=by
  have:=gX (n:=n) (w0:=w0) (h0:=h0) (L:=L) (h:=h) (ds:=ds) (ty:=ty) (ps:=ps) (af:=af) (gd:=gd) hs ht hk hW hx
  rwa [Nat.mod_eq_of_lt hp] at this
theorem iV{k':IntKind}{W:Nat}{s t:TypeId}{d:TypeDesc}{x:Operand}{p:Nat}(hs:P.underlying s=some d)(ht:P.underlying t=some (.int k'))(hk:k'.signed=false)(hW:ub k'=W)(hx:zJ e x=some (vI (p:Int)))(hp:p<W):
    OpV P n w0 h0 ⟨ds,.convert s t x,ty,ps,af,gd⟩ e L h (vU k' p):=by
  intro a w E S
  have:=nL hk (x:=p) (by omega)
  simp[execOp,E.eval hx,vI,vU,convert,run_underlying hs,run_underlying ht,Conv.intToInt,this]
theorem zKJ{k:IntKind}{s t:TypeId}{d:TypeDesc}{x:Operand}{p:Nat}(hs:P.underlying s=some d)(ht:P.underlying t=some (.int .i64))(hx:zJ e x=some (vU k p))(hp:p<9223372036854775808):
    OpV P n w0 h0 ⟨ds,.convert s t x,ty,ps,af,gd⟩ e L h (vI (p:Int)):=by
  intro a w E S
  have:=s3 (x:=(p:Int)) (by omega) (by omega)
  simp[execOp,E.eval hx,vI,vU,convert,run_underlying hs,run_underlying ht,Conv.intToInt,this]
def Sl(h:Mem)(k:Nat)(v:Value)(m:Nat)(cs:List Value):Prop:=
  ∃a cap,v=.slice a m cap∧m≤cap∧cap≤maxLen∧cs.length=m*k∧∀i,i<cs.length→∃b o,a=some ⟨b,o,none⟩∧cell h b (o+i)=cs[i]?
theorem Sl.mono{h h':Mem}{k:Nat}{v:Value}{m:Nat}{cs:List Value}(s:Sl h k v m cs)(hh:MLe h h'):Sl h' k v m cs:=by
  obtain⟨a,cap,hv,h1,h2,h3,h4⟩:=s
  refine⟨a,cap,hv,h1,h2,h3,fun i hi=>?_⟩
  obtain⟨b,o,ha,hc⟩:=h4 i hi
  refine⟨b,o,ha,?_⟩
  rw[List.getElem?_eq_getElem hi] at hc ⊢
  exact zAX hh hc
theorem Sl.nil(h:Mem)(k:Nat):Sl h k (.slice none 0 0) 0 []:=⟨none,0,rfl,Nat.le_refl _,by unfold maxLen;omega,by simp,fun i hi=>by simp at hi⟩
theorem Sl.one{h:Mem}{k:Nat}{v:Value}{m:Nat}{cs:List Value}(s:Sl h k v m cs):∃a cap,v=.slice a m cap:=let ⟨a,cap,hv,_⟩:=s;⟨a,cap,hv⟩
theorem Sl.lt63{h:Mem}{k:Nat}{v:Value}{m:Nat}{cs:List Value}(s:Sl h k v m cs):m<9223372036854775808:=by
  obtain⟨a,cap,hv,h1,h2,_⟩:=s
  unfold maxLen at h2
  omega
def zK(k:Nat)(v:Value)(i:Nat):Value:=
  match v with
  | .slice (some a) _ _=>.pointer (some (a.add (i*k)))
  |_=>undef
theorem qY(b o j:Nat):(⟨b,o,none⟩:Addr).add j=⟨b,o+j,none⟩:=by
  unfold Addr.add
  split
  · simp_all
  · rfl
theorem lO{v:Value}{m:Nat}{t:TypeId}{E:TypeId}{x:Operand}(ht:P.underlying t=some (.slice E))(hx:zJ e x=some v)(hv:∃a cap,v=.slice a m cap):
    OpV P n w0 h0 ⟨ds,.call {callee:=.builtin .len,args:=#[x],argTypes:=#[t]},ty,ps,af,gd⟩ e L h (vI (m:Int)):=by
  obtain⟨a,cap,rfl⟩:=hv
  intro a w E S
  simp[execOp,resolve,invoke,builtin,Builtin.len_,E.eval hx,run_underlying ht,goInt,vI]
theorem oO{v:Value}{m:Nat}{cs:List Value}{k:Nat}{t E:TypeId}{x y:Operand}{q:Int}(i:Nat)(ht:P.underlying t=some (.slice E))(hsz:∀w,(Go.sizeOf E).run P w=.ok k w)(hx:zJ e x=some v)(hy:zJ e y=some (vI q))
    (hv:Sl h k v m cs)(hq:q=(i:Int))(hi:i<m)(hk:0<k):OpV P n w0 h0 ⟨ds,.indexAddr t x y,ty,ps,af,gd⟩ e L h (zK k v i):=by
  obtain⟨a0,cap,rfl,h1,h2,h3,h4⟩:=hv
  subst hq
  have hpos:0<cs.length:=by rw[h3];exact Nat.mul_pos (by omega) hk
  obtain⟨b,o,rfl,_⟩:=h4 0 hpos
  intro a w Ev S
  have hlt:(0:Int)≤(i:Int)∧(i:Int)<(m:Int):=by omega
  simp[execOp,Ev.eval hx,Ev.eval hy,Instr.indexAt,vI,asIntOf,run_underlying ht,hsz,zK,hi]
theorem Sl.cell{h:Mem}{k:Nat}{v:Value}{m:Nat}{cs:List Value}(s:Sl h k v m cs){i j:Nat}{u:Value}(hj:cs[i*k+j]?=some u):∃b o,zK k v i=.pointer (some ⟨b,o,none⟩)∧Bk.cell h b (o+j)=some u:=by
  obtain⟨a,cap,rfl,h1,h2,h3,h4⟩:=s
  obtain⟨hlt,_⟩:=List.getElem?_eq_some_iff.1 hj
  obtain⟨b,o,rfl,hc⟩:=h4 _ hlt
  refine⟨b,o+i*k,?_,?_⟩
  · simp[zK,qY]
  · rw[hj] at hc
    rw[←hc];congr 1;omega
theorem zCO{v u:Value}{m:Nat}{cs:List Value}{t:TypeId}{x:Operand}{i:Nat}(ha:∀w,(isAgg t).run P w=.ok false w)(hx:zJ e x=some (zK 1 v i))(hv:Sl h 1 v m cs)(hi:cs[i]?=some u):
    OpV P n w0 h0 ⟨ds,.load t x,ty,ps,af,gd⟩ e L h u:=by
  obtain⟨b,o,hp,hc⟩:=hv.cell (i:=i) (j:=0) (u:=u) (by simpa using hi)
  rw[hp] at hx
  intro a w E S
  have hw:=bV S.sub hc
  simp only[Nat.add_zero] at hw
  simp[execOp,E.eval hx,Instr.loadAt,Instr.sureAddr,loadVar,ha,Go.load,Sem.run,hw]
def us(k:IntKind)(xs:List Nat):List Value:=xs.map (vU k)
structure Us(k:IntKind)(h:Mem)(v:Value)(xs:List Nat):Prop where
  sl:Sl h 1 v xs.length (us k xs)
  lt:∀x∈xs,x<ub k
theorem Us.mono{k:IntKind}{h h':Mem}{v:Value}{xs:List Nat}(s:Us k h v xs)(hh:MLe h h'):Us k h' v xs:=⟨s.sl.mono hh,s.lt⟩
theorem Us.nil(k:IntKind)(h:Mem):Us k h (.slice none 0 0) []:=⟨Sl.nil h 1,by simp⟩
theorem Us.one{k:IntKind}{h:Mem}{v:Value}{xs:List Nat}(s:Us k h v xs):∃a cap,v=.slice a xs.length cap:=s.sl.one
theorem Us.lt63{k:IntKind}{h:Mem}{v:Value}{xs:List Nat}(s:Us k h v xs):xs.length<9223372036854775808:=s.sl.lt63
theorem zJM{k:IntKind}{xs:List Nat}{i:Nat}(hi:i<xs.length):(us k xs)[i]?=some (vU k (xs.getD i 0)):=by
  simp[us,hi]
theorem Us.getLt{k:IntKind}{h:Mem}{v:Value}{xs:List Nat}(s:Us k h v xs)(i:Nat):xs.getD i 0<ub k∨ub k=0:=by
  by_cases hi:i<xs.length
  · rw[List.getD_eq_getElem?_getD,List.getElem?_eq_getElem hi]
    exact .inl (s.lt _ (List.getElem_mem hi))
  · rw[List.getD_eq_getElem?_getD,List.getElem?_eq_none (by omega)]
    simp only[Option.getD_none]
    omega
theorem Us.get32{h:Mem}{v:Value}{xs:List Nat}(s:Us .u32 h v xs)(i:Nat):xs.getD i 0<4294967296:=(s.getLt i).resolve_right (by decide)
theorem wP{k:IntKind}{v:Value}{xs:List Nat}{t E:TypeId}{x:Operand}(ht:P.underlying t=some (.slice E))(hx:zJ e x=some v)(hv:Us k h v xs):
    OpV P n w0 h0 ⟨ds,.call {callee:=.builtin .len,args:=#[x],argTypes:=#[t]},ty,ps,af,gd⟩ e L h (vI (xs.length:Int)):=lO ht hx hv.one
theorem zO{k:IntKind}{v:Value}{xs:List Nat}{t E:TypeId}{x y:Operand}{q:Int}(i:Nat)(ht:P.underlying t=some (.slice E))(hsz:∀w,(Go.sizeOf E).run P w=.ok 1 w)(hx:zJ e x=some v)(hy:zJ e y=some (vI q))
    (hv:Us k h v xs)(hq:q=(i:Int))(hi:i<xs.length):OpV P n w0 h0 ⟨ds,.indexAddr t x y,ty,ps,af,gd⟩ e L h (zK 1 v i):=oO i ht hsz hx hy hv.sl hq hi (by omega)
theorem xG{k:IntKind}{v:Value}{xs:List Nat}{t:TypeId}{x:Operand}{i:Nat}(ha:∀w,(isAgg t).run P w=.ok false w)(hx:zJ e x=some (zK 1 v i))(hv:Us k h v xs)(hi:i<xs.length):
    OpV P n w0 h0 ⟨ds,.load t x,ty,ps,af,gd⟩ e L h (vU k (xs.getD i 0)):=zCO ha hx hv.sl (zJM hi)
def gJ(k:Nat)(v:Value)(lo hi:Nat):Value:=
  match v with
  | .slice a _ cap=>.slice (if cap=lo then a else a.map (·.add (lo*k))) (hi-lo) (cap-lo)
  |_=>undef
theorem Sl.sub{h:Mem}{k:Nat}{v:Value}{m:Nat}{cs:List Value}(s:Sl h k v m cs){lo hi:Nat}(h1:lo≤hi)(h2:hi≤m):Sl h k (gJ k v lo hi) (hi-lo) ((cs.drop (lo*k)).take ((hi-lo)*k)):=by
  obtain⟨a,cap,rfl,h3,h4,h5,h6⟩:=s
  have hm:(hi-lo)*k≤m*k-lo*k:=by rw[←Nat.sub_mul];exact Nat.mul_le_mul_right _ (by omega)
  refine⟨_,_,rfl,by omega,by omega,by rw[List.length_take,List.length_drop,h5];omega,fun i hi'=>?_⟩
  rw[List.length_take,List.length_drop,h5] at hi'
  have hlt:lo*k+i<cs.length:=by omega
  obtain⟨b,o,rfl,hc⟩:=h6 _ hlt
  by_cases hcl:cap=lo
  · exfalso
    have:hi-lo=0:=by omega
    rw[this] at hi'
    omega
  · refine⟨b,o+lo*k,by simp[hcl,qY],?_⟩
    rw[List.getElem?_take,if_pos (by omega),List.getElem?_drop,←hc]
    congr 1
    omega
theorem Us.sub{k:IntKind}{h:Mem}{v:Value}{xs:List Nat}(s:Us k h v xs){lo hi:Nat}(h1:lo≤hi)(h2:hi≤xs.length):Us k h (gJ 1 v lo hi) ((xs.drop lo).take (hi-lo)):=by
  have:=s.sl.sub h1 h2
  simp only[Nat.mul_one] at this
  refine⟨?_,fun x hx=>s.lt x (List.mem_of_mem_drop (List.mem_of_mem_take hx))⟩
  have hl:((xs.drop lo).take (hi-lo)).length=hi-lo:=by rw[List.length_take,List.length_drop];omega
  rw[hl]
  simpa[us] using this
theorem zHI{k:Nat}{t E:TypeId}(w:World)(ht:P.underlying t=some (.slice E))(hsz:∀w,(Go.sizeOf E).run P w=.ok k w)(a:Option Addr)(m cap hi:Nat)(h2:hi≤cap):
    (Instr.sliceAt t (.slice a m cap) none (some (vI hi)) none).run P w=.ok (gJ k (.slice a m cap) 0 hi) w:=by
  simp[Instr.sliceAt,Instr.slice,run_underlying ht,Instr.sliceBounds,Instr.sliceBound,asIntOf,vI,hsz,gJ,h2]
theorem zHH{k:Nat}{t E:TypeId}(w:World)(ht:P.underlying t=some (.slice E))(hsz:∀w,(Go.sizeOf E).run P w=.ok k w)(a:Option Addr)(m cap lo:Nat)(h1:lo≤m):
    (Instr.sliceAt t (.slice a m cap) (some (vI lo)) none none).run P w=.ok (gJ k (.slice a m cap) lo m) w:=by
  simp[Instr.sliceAt,Instr.slice,run_underlying ht,Instr.sliceBounds,Instr.sliceBound,asIntOf,vI,hsz,gJ,h1]
theorem iU{v:Value}{m k:Nat}{t E:TypeId}{x hi:Operand}{q:Int}(j:Nat)(ht:P.underlying t=some (.slice E))(hsz:∀w,(Go.sizeOf E).run P w=.ok k w)(hx:zJ e x=some v)(hh:zJ e hi=some (vI q))
    (hv:∃a cap,v=.slice a m cap∧m≤cap)(hq:q=(j:Int))(h2:j≤m):OpV P n w0 h0 ⟨ds,.slice t x none (some hi) none,ty,ps,af,gd⟩ e L h (gJ k v 0 j):=by
  obtain⟨a,cap,rfl,hc⟩:=hv
  subst hq
  intro a' w Ev S
  have:=zHI (P:=P) w ht hsz a m cap j (by omega)
  simp[execOp,Ev.eval hx,Ev.eval hh,this]
theorem qH{v:Value}{m k:Nat}{t E:TypeId}{x lo:Operand}{p:Int}(i:Nat)(ht:P.underlying t=some (.slice E))(hsz:∀w,(Go.sizeOf E).run P w=.ok k w)(hx:zJ e x=some v)(hl:zJ e lo=some (vI p))
    (hv:∃a cap,v=.slice a m cap∧m≤cap)(hp:p=(i:Int))(h1:i≤m):OpV P n w0 h0 ⟨ds,.slice t x (some lo) none none,ty,ps,af,gd⟩ e L h (gJ k v i m):=by
  obtain⟨a,cap,rfl,hc⟩:=hv
  subst hp
  intro a' w Ev S
  have:=zHH (P:=P) w ht hsz a m cap i h1
  simp[execOp,Ev.eval hx,Ev.eval hl,this]
theorem Sl.shape{h:Mem}{k:Nat}{v:Value}{m:Nat}{cs:List Value}(s:Sl h k v m cs):∃a cap,v=.slice a m cap∧m≤cap:=let ⟨a,cap,hv,h1,_⟩:=s;⟨a,cap,hv,h1⟩
theorem Us.shape{k:IntKind}{h:Mem}{v:Value}{xs:List Nat}(s:Us k h v xs):∃a cap,v=.slice a xs.length cap∧xs.length≤cap:=s.sl.shape
theorem zKI{v:Value}{t E yt:TypeId}{x:Operand}(ht:P.underlying t=some (.slice E))(hx:zJ e x=some v)(hv:∃a m cap,v=.slice a m cap):
    OpV P n w0 h0 ⟨ds,.binOp .eql t x (.const (.slice none 0 0)) yt,ty,ps,af,gd⟩ e L h (vB (∃m cap,v=.slice none m cap)):=by
  obtain⟨a,m,cap,rfl⟩:=hv
  intro a' w Ev S
  have h1:=Lib.run_eql_slice_nil (P:=P) w t E a m cap 0 0 ht
  have h2:(vB (∃m' cap',Value.slice a m cap=.slice none m' cap'))=.bool a.isNone:=by
    cases a<;>simp[vB]
  simp only[execOp,Ev.eval hx,h2]
  have h3:(eqGuard .eql t x (.const (.slice none 0 0)) (.slice a m cap) (.slice none 0 0)).run P w=.ok () w:=by simp[eqGuard]
  simp[h3,Act.eval,h1]
theorem zKH{s r:ByteArray}{t yt:TypeId}{x y:Operand}(hx:zJ e x=some (.string s))(hy:zJ e y=some (.string r)):OpV P n w0 h0 ⟨ds,.binOp .eql t x y yt,ty,ps,af,gd⟩ e L h (vB (s=r)):=by
  intro a w Ev S
  have h1:(s.toList==r.toList)=@decide (s=r) (Classical.propDecidable _):=by
    rw[Bool.eq_iff_iff]
    simp only[beq_iff_eq,decide_eq_true_eq]
    exact⟨fun hh=>by
      have h2:s.data.toList=r.data.toList:=by
        rwa [ByteArray.toList_eq,ByteArray.toList_eq] at hh
      cases s;cases r
      simp only[ByteArray.mk.injEq]
      exact Array.toList_inj.1 h2,fun hh=>by rw[hh]⟩
  simp only[execOp,Ev.eval hx,Ev.eval hy,binOp,vB]
  simp[eqGuard,Op.stringOp,h1]
end ops
section own
variable {P:Program}{n:Nat}{w0:World}{h0:Mem}{e:List (Nat×Value)}{L:List Res}{h:Mem}{Q:Exit→Act→World→Prop}
def Res.us(E:Nat)(k:IntKind)(v:Value)(xs:List Nat):Res:=.gs E 1 v xs.length (Bk.us k xs)
theorem zOU{ops:Array Oper}{l:List Oper}{A B:List Res}{E k m:Nat}{v:Value}{cs:List Value}(k':∀h',MLe h h'→Sl h' k v m cs→GL P n w0 h0 ops Q l e (A++B) h'):GL P n w0 h0 ops Q l e (A++.gs E k v m cs::B) h:=by
  intro a w Ev S
  have hok:=S.ok (.gs E k v m cs) (by simp)
  have hok':=hok
  obtain⟨hl,hr⟩:=hok
  rcases hr with⟨rfl,rfl⟩|⟨g,cap,cur,rfl,hb,hg,hn,hm,hcs,ht⟩
  · have hnil:cs=[]:=List.eq_nil_of_length_eq_zero (by simpa using hl)
    subst hnil
    exact k' h (MLe.refl h) (Sl.nil h k) a w Ev S.drop
  · obtain⟨S',hle⟩:=S.freeze (b:=g) (o:=.cells cur E (0,0)) rfl hg
    refine k' _ hle ?_ a w Ev S'
    refine⟨_,cap,rfl,hn,hm,hl,fun i hi=>⟨g,0,rfl,?_⟩⟩
    unfold cell
    simp only[if_true,Nat.zero_add]
    rw[←ht,List.getElem?_take,if_pos (by omega)]
    simp
theorem j7{ops:Array Oper}{l:List Oper}{A B:List Res}{E:Nat}{k:IntKind}{v:Value}{xs:List Nat}(hlt:∀x∈xs,x<ub k)(k':∀h',MLe h h'→Us k h' v xs→GL P n w0 h0 ops Q l e (A++B) h'):
    GL P n w0 h0 ops Q l e (A++.us E k v xs::B) h:=zOU fun h' hh hs=>k' h' hh ⟨hs,hlt⟩
theorem w5{A B:List Res}{E k m:Nat}{v:Value}{cs:List Value}{w:World}(S:St w0 h0 (A++.gs E k v m cs::B) h w):Sl (mem w) k v m cs:=by
  have hok:=S.ok (.gs E k v m cs) (by simp)
  obtain⟨hl,hr⟩:=hok
  rcases hr with⟨rfl,rfl⟩|⟨g,cap,cur,rfl,hb,hg,hn,hm,hcs,ht⟩
  · have hnil:cs=[]:=List.eq_nil_of_length_eq_zero (by simpa using hl)
    subst hnil
    exact Sl.nil _ k
  · refine⟨_,cap,rfl,hn,hm,hl,fun i hi=>⟨g,0,rfl,?_⟩⟩
    unfold cell mem
    rw[hg]
    simp only[Nat.zero_add]
    rw[←ht,List.getElem?_take,if_pos (by omega)]
    simp
section vals
variable {A B:List Res}{E:Nat}{ds:Option Tmp}{ty:TypeId}{ps:String}{af:Array Edge}{gd:Option (Nat×Bool)}
theorem zKF{k m:Nat}{cs:List Value}{v:Value}{t E':TypeId}{x:Operand}(ht:P.underlying t=some (.slice E'))(hx:zJ e x=some v):
    OpV P n w0 h0 ⟨ds,.call {callee:=.builtin .len,args:=#[x],argTypes:=#[t]},ty,ps,af,gd⟩ e (A++.gs E k v m cs::B) h (vI (m:Int)):=
  fun a w Ev S=>lO (L:=A++.gs E k v m cs::B) (h:=h) ht hx (w5 S).one a w Ev S
theorem zF6{k m:Nat}{cs:List Value}{v:Value}{t E':TypeId}{x y:Operand}{q:Int}(i:Nat)(ht:P.underlying t=some (.slice E'))(hsz:∀w,(Go.sizeOf E').run P w=.ok k w)(hx:zJ e x=some v)(hy:zJ e y=some (vI q))
    (hq:q=(i:Int))(hi:i<m)(hk:0<k):OpV P n w0 h0 ⟨ds,.indexAddr t x y,ty,ps,af,gd⟩ e (A++.gs E k v m cs::B) h (zK k v i):=by
  intro a w Ev S
  have S':St w (mem w) [] (mem w) w:=St.begin (MLe.refl _)
  exact oO (n:=n) (w0:=w) (h0:=mem w) (L:=[]) (h:=mem w) i ht hsz hx hy (w5 S) hq hi hk a w Ev S'
theorem zHX{m:Nat}{cs:List Value}{v u:Value}{t:TypeId}{x:Operand}{i:Nat}(ha:∀w,(isAgg t).run P w=.ok false w)(hx:zJ e x=some (zK 1 v i))(hi:cs[i]?=some u):
    OpV P n w0 h0 ⟨ds,.load t x,ty,ps,af,gd⟩ e (A++.gs E 1 v m cs::B) h u:=by
  intro a w Ev S
  have S':St w (mem w) [] (mem w) w:=St.begin (MLe.refl _)
  exact zCO (n:=n) (w0:=w) (h0:=mem w) (L:=[]) (h:=mem w) ha hx (w5 S) hi a w Ev S'
theorem yP{k:IntKind}{xs:List Nat}{v:Value}{t E':TypeId}{x y:Operand}{q:Int}(i:Nat)(ht:P.underlying t=some (.slice E'))(hsz:∀w,(Go.sizeOf E').run P w=.ok 1 w)(hx:zJ e x=some v)(hy:zJ e y=some (vI q))
    (hq:q=(i:Int))(hi:i<xs.length):OpV P n w0 h0 ⟨ds,.indexAddr t x y,ty,ps,af,gd⟩ e (A++.us E k v xs::B) h (zK 1 v i):=zF6 i ht hsz hx hy hq hi (by omega)
theorem kL{k:IntKind}{xs:List Nat}{v:Value}{t:TypeId}{x:Operand}{i:Nat}(ha:∀w,(isAgg t).run P w=.ok false w)(hx:zJ e x=some (zK 1 v i))(hi:i<xs.length):
    OpV P n w0 h0 ⟨ds,.load t x,ty,ps,af,gd⟩ e (A++.us E k v xs::B) h (vU k (xs.getD i 0)):=zHX ha hx (zJM hi)
theorem gV{k:IntKind}{xs:List Nat}{v:Value}{t E':TypeId}{x:Operand}(ht:P.underlying t=some (.slice E'))(hx:zJ e x=some v):
    OpV P n w0 h0 ⟨ds,.call {callee:=.builtin .len,args:=#[x],argTypes:=#[t]},ty,ps,af,gd⟩ e (A++.us E k v xs::B) h (vI (xs.length:Int)):=zKF ht hx
end vals
theorem zW9{k:IntKind}{xs:List Nat}{i y:Nat}:(Bk.us k xs).set i (vU k y)=Bk.us k (xs.set i y):=by simp[Bk.us,List.map_set]
theorem zD0{A B:List Res}{E m:Nat}{v u:Value}{cs:List Value}{t:TypeId}{x y:Operand}{i:Nat}{ds:Option Tmp}{ty:TypeId}{ps:String}{af:Array Edge}{gd:Option (Nat×Bool)}(hsz:∀w,(Go.sizeOf t).run P w=.ok 1 w)
    (hx:zJ e x=some (zK 1 v i))(hy:zJ e y=some u)(hu:u.oneCell'=true)(hi:i<cs.length):Upd P n w0 h0 ⟨ds,.store t x y,ty,ps,af,gd⟩ e A (.gs E 1 v m cs) B h (.gs E 1 v m (cs.set i u)):=by
  intro a w Ev S
  have hok:=S.ok (.gs E 1 v m cs) (by simp)
  have hok':=hok
  obtain⟨hl,hr⟩:=hok
  rcases hr with⟨rfl,rfl⟩|⟨g,cap,cur,rfl,hb,hg,hn,hm,hcs,ht⟩
  · simp at hl;subst hl;simp at hi
  · have hp:zK 1 (.slice (some ⟨g,0,none⟩) m cap) i=.pointer (some ⟨g,i,none⟩):=by simp[zK,qY]
    rw[hp] at hx
    obtain⟨h1,h2⟩:=World.ownsRow.stored hok' i u
    refine⟨_,?_,h2,h1⟩
    have hi':i<m*1:=by omega
    have hc:=World.ownsRow.cellAt hok' i hi'
    rw[List.getElem?_eq_getElem hi] at hc
    have hf:=World.ownsRow.frozenAt hok' i
    have hcells:u.cells=#[u]:=by cases u<;>simp[Value.oneCell'] at hu<;>rfl
    cases u<;>simp[Value.oneCell'] at hu<;>
      simp[execOp,Ev.eval hx,Ev.eval hy,Instr.storeAt,Instr.sureAddr,storeVar,hsz,Value.cells,storeCells,Go.store,Sem.run,hc,hf,Addr.add]
theorem zXA{E:Nat}{k:IntKind}{v:Value}{xs:List Nat}{i z:Nat}:Res.gs E 1 v xs.length ((Bk.us k xs).set i (vU k z))=Res.us E k v (xs.set i z):=by
  rw[zW9];simp[Res.us]
theorem aP{A B:List Res}{E:Nat}{k:IntKind}{v:Value}{xs:List Nat}{t:TypeId}{x y:Operand}{i z:Nat}{ds:Option Tmp}{ty:TypeId}{ps:String}{af:Array Edge}{gd:Option (Nat×Bool)}(hsz:∀w,(Go.sizeOf t).run P w=.ok 1 w)
    (hx:zJ e x=some (zK 1 v i))(hy:zJ e y=some (vU k z))(hi:i<xs.length):Upd P n w0 h0 ⟨ds,.store t x y,ty,ps,af,gd⟩ e A (.us E k v xs) B h (.us E k v (xs.set i z)):=by
  have:=zD0 (P:=P) (n:=n) (w0:=w0) (h0:=h0) (A:=A) (B:=B) (h:=h) (E:=E) (m:=xs.length) (cs:=Bk.us k xs) (ds:=ds) (ty:=ty) (ps:=ps) (af:=af) (gd:=gd) hsz hx hy rfl (by simpa[Bk.us] using hi)
  rw[zXA] at this
  exact this
theorem j6{ops:Array Oper}{rest:List Oper}{A B:List Res}{E:Nat}{k:IntKind}{v:Value}{xs:List Nat}{t:TypeId}{x y:Operand}{i z:Nat}{ty:TypeId}{ps:String}{af:Array Edge}(hsz:∀w,(Go.sizeOf t).run P w=.ok 1 w)
    (hx:zJ e x=some (zK 1 v i))(hy:zJ e y=some (vU k z))(hi:i<xs.length)(k':GL P n w0 h0 ops Q rest e (A++.us E k v (xs.set i z)::B) h):
    GL P n w0 h0 ops Q (⟨none,.store t x y,ty,ps,af,none⟩::rest) e (A++.us E k v xs::B) h:=xO (aP hsz hx hy hi) rfl rfl rfl k'
theorem St.new{w0 w w':World}{h0 h:Mem}{L:List Res}{r:Res}(S:St w0 h0 L h w)(hgr:w.grownBy w' none)(hok:r.ok w0.heap.size w')(hfp:∀b,r.fp=some b→w.heap.size≤b):St w0 h0 (r::L) h w':=by
  have hsz:w0.heap.size≤w.heap.size:=S.below.size
  have hlt:∀r∈L,∀b,r.fp=some b→b<w.heap.size:=fun r hr b hb=>Res.fp_lt (S.ok r hr) hb
  have hold:∀b,b<w.heap.size→w'.heap[b]?=w.heap[b]?:=fun b hb=>hgr.block b hb (by simp)
  refine⟨S.below.trans ⟨hgr.os,hgr.tape,hgr.output,hgr.size,fun k hk=>hold k (by omega)⟩,S.le,?_,S.fresh,?_,?_,?_⟩
  · intro b o hb
    have h1:=S.sub b o hb
    unfold mem at *
    exact(hold b (Array.getElem?_eq_some_iff.1 h1).1).trans h1
  · intro r hr
    rcases List.mem_cons.1 hr with rfl|hr
    · exact hok
    · exact Res.kept (S.ok r hr) fun b hb=>hold b (hlt r hr b hb)
  · intro r hr b hb
    rcases List.mem_cons.1 hr with rfl|hr
    · have hb':=hfp b hb
      refine⟨?_,by omega⟩
      cases hh:h b with
      |none=>rfl
      |some o'=>
       have:=S.sub _ o' hh
       unfold mem at this
       have:=(Array.getElem?_eq_some_iff.1 this).1
       omega
    · exact S.own r hr b hb
  · refine List.pairwise_cons.2 ⟨fun r hr b hb hb'=>?_,S.apart⟩
    have:=hlt r hr b hb'
    have:=hfp b hb
    omega
def aO(P:Program)(n:Nat)(w0:World)(h0:Mem)(o:Oper)(e:List (Nat×Value))(L:List Res)(h:Mem)(G:Value→Res→Prop):Prop:=
  ∀a w,Env n e a→St w0 h0 L h w→∃v w' r,(execOp a.eval o).run P w=.ok (.value v) w'∧w.grownBy w' none∧r.ok w0.heap.size w'∧(∀b,r.fp=some b→w.heap.size≤b)∧G v r
theorem zF{ops:Array Oper}{rest:List Oper}{o:Oper}{d:Nat}{G:Value→Res→Prop}(hv:aO P n w0 h0 o e L h G)(hg:o.guard=none)(hd:o.dst=some d)(hn:Nat.ble (d+1) n=true)
    (k:∀v r,G v r→GL P n w0 h0 ops Q rest ((d,v)::e) (r::L) h):GL P n w0 h0 ops Q (o::rest) e L h:=by
  intro a w Ev S
  refine wpList_plain hg fun K hK=>?_
  obtain⟨v,w',r,hr,hgr,hok,hfp,hG⟩:=hv a w Ev S
  unfold Oper.wp
  rw[hr,Oper.upon_value,hd]
  exact hK _ _ (k v r hG _ _ (Ev.put (Nat.le_of_ble_eq_true hn)) (S.new hgr hok hfp))
theorem zRH{t E:TypeId}{i:TypeInfo}{z:Value}{x y:Operand}{ds:Option Tmp}{ty:TypeId}{ps:String}{af:Array Edge}{gd:Option (Nat×Bool)}{q q':Int}(m:Nat)(ht:P.underlying t=some (.slice E))(hi:P.info? E=some i)(hz:i.zero=some z)(hone:z.cells=#[z])(hsize:i.size=1)
    (hx:zJ e x=some (vI q))(hy:zJ e y=some (vI q'))(hq:q=(m:Int))(hq':q'=(m:Int))(hb:i.bytes*m≤281474976710656)(hm:m<9223372036854775808):
    aO P n w0 h0 ⟨ds,.makeSlice t x y,ty,ps,af,gd⟩ e L h (fun v r=>r=.gs E 1 v m (List.replicate m z)):=by
  subst hq;subst hq'
  intro a w Ev S
  obtain⟨w',hr,hown,hgr⟩:=run_make_full (P:=P) w w0.heap.size t E i z 1 ht hi hz hsize .i64 .i64 m hb (by unfold maxLen;omega) S.below.size
  have hcells:(madeCells z.cells (m*1)).toList=List.replicate m z:=by rw[hone,Nat.mul_one];exact toList_madeCells_one z m
  rw[hcells] at hown
  refine⟨_,w',.gs E 1 (.slice (some ⟨w.heap.size,0,none⟩) m m) m (List.replicate m z),?_,hgr,hown,fun b hb=>?_,rfl⟩
  · simp only[execOp,Ev.eval hx,Ev.eval hy,vI]
    simp[hr]
  · simp only[Res.fp,Value.ownBlock,Option.some.injEq] at hb
    omega
theorem oV{t E:TypeId}{i:TypeInfo}{kd:IntKind}{x y:Operand}{ds:Option Tmp}{ty:TypeId}{ps:String}{af:Array Edge}{gd:Option (Nat×Bool)}{q q':Int}{by':Nat}(m:Nat)(ht:P.underlying t=some (.slice E))(hi:P.info? E=some i)(hz:i.zero=some (.int kd 0))(hsize:i.size=1)
    (hby:i.bytes=by')(hx:zJ e x=some (vI q))(hy:zJ e y=some (vI q'))(hq:q=(m:Int))(hq':q'=(m:Int))(hb:by'*m≤281474976710656)(hm:m<9223372036854775808):
    aO P n w0 h0 ⟨ds,.makeSlice t x y,ty,ps,af,gd⟩ e L h (fun v r=>r=.us E kd v (List.replicate m 0)):=by
  subst hby
  intro a w Ev S
  obtain⟨v,w',r,h1,h2,h3,h4,h5⟩:=zRH (n:=n) (L:=L) (h:=h) (ds:=ds) (ty:=ty) (ps:=ps) (af:=af) (gd:=gd) m ht hi hz rfl hsize hx hy hq hq' hb hm a w Ev S
  refine⟨v,w',r,h1,h2,h3,h4,?_⟩
  rw[h5]
  simp[Res.us,Bk.us,vU]
theorem qJ{ops:Array Oper}{rest:List Oper}{t E:TypeId}{i:TypeInfo}{kd:IntKind}{x y:Operand}{d:Nat}{ty:TypeId}{ps:String}{af:Array Edge}{q q':Int}{by':Nat}(m:Nat)(ht:P.underlying t=some (.slice E))(hi:P.info? E=some i)(hz:i.zero=some (.int kd 0))(hsize:i.size=1)
    (hby:i.bytes=by')(hx:zJ e x=some (vI q))(hy:zJ e y=some (vI q'))(hq:q=(m:Int))(hq':q'=(m:Int))(hb:by'*m≤281474976710656)(hm:m<9223372036854775808)(hn:Nat.ble (d+1) n=true)
    (k:∀v,GL P n w0 h0 ops Q rest ((d,v)::e) (.us E kd v (List.replicate m 0)::L) h):GL P n w0 h0 ops Q (⟨some d,.makeSlice t x y,ty,ps,af,none⟩::rest) e L h:=
  zF (oV m ht hi hz hsize hby hx hy hq hq' hb hm) rfl rfl hn fun v r hr=>hr▸k v
theorem xZ{ops:Array Oper}{rest:List Oper}{B:List Res}{E:Nat}{k:IntKind}{v:Value}{xs:List Nat}{t:TypeId}{x y:Operand}{i z:Nat}{ty:TypeId}{ps:String}{af:Array Edge}(hsz:∀w,(Go.sizeOf t).run P w=.ok 1 w)
    (hx:zJ e x=some (zK 1 v i))(hy:zJ e y=some (vU k z))(hi:i<xs.length)(k':GL P n w0 h0 ops Q rest e (.us E k v (xs.set i z)::B) h):
    GL P n w0 h0 ops Q (⟨none,.store t x y,ty,ps,af,none⟩::rest) e (.us E k v xs::B) h:=j6 (A:=[]) hsz hx hy hi k'
theorem yG{ops:Array Oper}{l:List Oper}{B:List Res}{E:Nat}{k:IntKind}{v:Value}{xs:List Nat}(hlt:∀x∈xs,x<ub k)(k':∀h',MLe h h'→Us k h' v xs→GL P n w0 h0 ops Q l e (B) h'):
    GL P n w0 h0 ops Q l e (.us E k v xs::B) h:=j7 (A:=[]) hlt k'
theorem tW{ops:Array Oper}{rest:List Oper}{r0:Res}{B:List Res}{E:Nat}{k:IntKind}{v:Value}{xs:List Nat}{t:TypeId}{x y:Operand}{i z:Nat}{ty:TypeId}{ps:String}{af:Array Edge}(hsz:∀w,(Go.sizeOf t).run P w=.ok 1 w)
    (hx:zJ e x=some (zK 1 v i))(hy:zJ e y=some (vU k z))(hi:i<xs.length)(k':GL P n w0 h0 ops Q rest e (r0::.us E k v (xs.set i z)::B) h):
    GL P n w0 h0 ops Q (⟨none,.store t x y,ty,ps,af,none⟩::rest) e (r0::.us E k v xs::B) h:=j6 (A:=[r0]) hsz hx hy hi k'
theorem zEB{ops:Array Oper}{l:List Oper}{r0:Res}{B:List Res}{E:Nat}{k:IntKind}{v:Value}{xs:List Nat}(hlt:∀x∈xs,x<ub k)(k':∀h',MLe h h'→Us k h' v xs→GL P n w0 h0 ops Q l e (r0::B) h'):
    GL P n w0 h0 ops Q l e (r0::.us E k v xs::B) h:=j7 (A:=[r0]) hlt k'
end own
end Bk
namespace Bk
set_option linter.unusedVariables false
set_option linter.unusedSimpArgs false
open Go Go.RowKit
section
variable {P:Program}{ops:Array Oper}
def uQ(P:Program)(ops:Array Oper)(o:Oper)(a:Act)(w:World)(K:Value→World→Prop):Prop:=
  if Region.wanted o (yielded ops a.tmps) then
    match (execOp a.eval o).run P w with
    | .ok (.value v) w'=>K v w'
    | .ok .skip w'=>K undef w'
    | .ok (.enter f args) w'=>Calls P f args w' fun e w''=>∃v,e=.returned v∧K v w''
    |_=>False
  else K undef w
theorem uQ.mono{o:Oper}{a:Act}{w:World}{K K':Value→World→Prop}(h:uQ P ops o a w K)(hk:∀v w,K v w→K' v w):uQ P ops o a w K':=by
  unfold uQ at *
  split
  · rename_i hw
    rw[if_pos hw] at h
    generalize (execOp a.eval o).run P w=r at *
    cases r with
    |ok x w'=>
     cases x<;>simp only at h ⊢
     case enter f args=>exact h.mono fun e w'' ⟨v,he,hv⟩=>⟨v,he,hk _ _ hv⟩
     all_goals exact hk _ _ h
    |halt x w'=>exact h
  · rename_i hw
    rw[if_neg hw] at h
    exact hk _ _ h
theorem uQ.wpOp{o:Oper}{i:Nat}{a:Act}{w:World}{K:Value→World→Prop}{K':Act→World→Prop}{Q:Exit→Act→World→Prop}(hi:ops[i]?=some o)(h:uQ P ops o a w K)
    (hk:∀v w,K v w→K' (a.put o.dst v) w):Go.wpOp P ops Q i K' a w:=by
  unfold Go.wpOp
  simp only[hi]
  unfold uQ at h
  split
  · rename_i hw
    rw[if_pos hw] at h
    refine .inl ?_
    unfold Oper.wp
    generalize (execOp a.eval o).run P w=r at *
    cases r with
    |ok x w'=>
     cases x<;>simp only at h<;>simp only[Oper.upon]
     case enter f args=>exact h.mono fun e w'' ⟨v,he,hv⟩=>by subst he;exact hk _ _ hv
     all_goals exact hk _ _ h
    |halt x w'=>exact h.elim
  · rename_i hw
    rw[if_neg hw] at h
    exact hk _ _ h
theorem uQ.of_put{o:Oper}{a:Act}{w:World}{K:Value→World→Prop}{d:Option Tmp}{v:Value}(hs:∀cs b,o.op≠.select cs b)(hd:∀t,d=some t→t ∉ o.looksAt ops)(h:uQ P ops o (a.put d v) w K):uQ P ops o a w K:=by
  unfold uQ at *
  rw[execOp_put (ops:=ops) o hs a d v hd,wanted_put (ops:=ops) o a d v hd] at h
  exact h
def RA(P:Program)(ops:Array Oper)(C:Array Bool→World→Prop)(Q:Act→World→Prop):Nat→Array Bool→Act→World→Prop
  |0,listed,a,w=>Region.ready .any ops listed=[]∧Q a w
  |fuel+1,listed,a,w=>
   (Region.ready .any ops listed=[]→Q a w)∧
   ∀i∈Region.ready .any ops listed,∀o,ops[i]?=some o→uQ P ops o a w fun v w'=>C (listed.setIfInBounds i true) w'∧RA P ops C Q fuel (listed.setIfInBounds i true) (a.put o.dst v) w'
theorem RA.mono{C C':Array Bool→World→Prop}{Q:Act→World→Prop}(hC:∀l w,C l w→C' l w):∀{fuel:Nat} {listed:Array Bool} {a:Act} {w:World},RA P ops C Q fuel listed a w→RA P ops C' Q fuel listed a w
  |0,_,_,_,h=>h
  |_+1,_,_,_,h=>⟨h.1,fun i hi o ho=>(h.2 i hi o ho).mono fun _ _ hk=>⟨hC _ _ hk.1,RA.mono hC hk.2⟩⟩
theorem RA.wpAny{C:Array Bool→World→Prop}{Q:Act→World→Prop}{Q':Exit→Act→World→Prop}(hQ:∀a w,Q a w→Q' .normal a w):∀{fuel:Nat} {listed:Array Bool} {a:Act} {w:World},RA P ops C Q fuel listed a w→Go.wpAny P .any ops Q' fuel listed a w
  |0,_,_,_,h=>⟨h.1,hQ _ _ h.2⟩
  |fuel+1,listed,a,w,h=>⟨fun h0=>hQ _ _ (h.1 h0),fun i hi=>by
      obtain⟨_,o,ho,_⟩:=mem_ready.1 hi
      exact(h.2 i hi o ho).wpOp ho fun v w' hk=>RA.wpAny hQ hk.2⟩
def aW(P:Program)(ops:Array Oper)(o:Oper)(a:Act)(w:World)(v:Value):Prop:=
  (Region.wanted o (yielded ops a.tmps)=true∧(execOp a.eval o).run P w=.ok (.value v) w)∨(Region.wanted o (yielded ops a.tmps)=false∧v=undef)
theorem aW.put{o:Oper}{a:Act}{w:World}{v u:Value}{d:Option Tmp}(hs:∀cs b,o.op≠.select cs b)(hd:∀t,d=some t→t ∉ o.looksAt ops)(h:aW P ops o a w v):aW P ops o (a.put d u) w v:=by
  unfold aW at *
  rw[execOp_put (ops:=ops) o hs a d u hd,wanted_put (ops:=ops) o a d u hd]
  exact h
theorem aW.runs{o:Oper}{a:Act}{w:World}{v:Value}{K:Value→World→Prop}(h:aW P ops o a w v)(hk:K v w):uQ P ops o a w K:=by
  unfold uQ
  rcases h with⟨h1,h2⟩|⟨h1,h2⟩
  · rw[if_pos h1,h2];exact hk
  · rw[if_neg (by simp[h1]),←h2];exact hk
def Cls(m:Nat)(D:World→Prop)(listed:Array Bool)(w:World):Prop:=D w∨∃k,m≤k∧listed.getD k false=true
def dP(ops:Array Oper)(listed:Array Bool):Prop:=∀k o,listed.getD k false=true→ops[k]?=some o→∀e∈o.after,Region.binds .any e=true→listed.getD e.on false=true
theorem dP.set{listed:Array Bool}(h:dP ops listed){j:Nat}(hj:j∈Region.ready .any ops listed):dP ops (listed.setIfInBounds j true):=by
  intro k o hk ho e he hb
  obtain⟨_,o',ho',hall⟩:=mem_ready.1 hj
  by_cases hkj:k=j
  · subst hkj
    rw[ho'] at ho;cases ho
    exact getD_set_true (hall e he hb)
  · rw[getD_set_ne false (Ne.symm hkj)] at hk
    exact getD_set_true (h k o hk ho e he hb)
def s4(ops:Array Oper):Nat→Nat→Nat→Bool
  |0,k,i=>k==i
  |f+1,k,i=>k==i||(ops.getD k default).after.any fun e=>Region.binds .any e&&s4 ops f e.on i
def zA1(ops:Array Oper)(k i:Nat):Bool:=
  (ops.getD k default).after.any fun e=>Region.binds .any e&&s4 ops 5 e.on i
theorem zA0{listed:Array Bool}(hcl:dP ops listed)(hsz:listed.size=ops.size){i:Nat}:∀(f k:Nat),listed.getD k false=true→s4 ops f k i=true→listed.getD i false=true
  |0,k,hk,hw=>by
   have:k=i:=by simpa[s4] using hw
   rw[←this];exact hk
  |f+1,k,hk,hw=>by
   simp only[s4,Bool.or_eq_true,beq_iff_eq,Array.any_eq_true',Bool.and_eq_true] at hw
   rcases hw with hw|⟨e,he,hb,hw⟩
   · rw[←hw];exact hk
   · have hon:k<ops.size:=by
       rcases Nat.lt_or_ge k listed.size with h'|h'
       · omega
       · simp[Array.getElem?_eq_none h'] at hk
     have hoe:ops[k]?=some (ops.getD k default):=by simp[Array.getD_eq_getD_getElem?,hon]
     exact zA0 hcl hsz f e.on (hcl _ _ hk hoe e he hb) hw
theorem zJH{listed:Array Bool}(hcl:dP ops listed)(hsz:listed.size=ops.size){k i:Nat}(hk:k∈Region.ready .any ops listed)(hw:zA1 ops k i=true):listed.getD i false=true:=by
  obtain⟨h1,o,ho,hall⟩:=mem_ready.1 hk
  have hgo:ops.getD k default=o:=by simp[Array.getD_eq_getD_getElem?,ho]
  unfold zA1 at hw
  rw[hgo] at hw
  simp only[Array.any_eq_true',Bool.and_eq_true] at hw
  obtain⟨e,he,hb,hw⟩:=hw
  exact zA0 hcl hsz 5 e.on (hall e he hb) hw
theorem RA.first{m:Nat}{D:World→Prop}{Q:Act→World→Prop}{i:Nat}{oi:Oper}{v:Value}(hi:ops[i]?=some oi)(hsel:Region.noSelect ops=true)(him:i<m)
    (hlast:∀k,m≤k→k<ops.size→zA1 ops k i=true):
    ∀(fuel:Nat) (listed:Array Bool) (a:Act) (w:World),dP ops listed→listed.size=ops.size→D w→(∀k,m≤k→listed.getD k false=false)→
     (∀j oj,ops[j]?=some oj→j≠i→listed.getD j true=false→(∀e∈oj.after,Region.binds .any e=true→e.on≠i)→oi.apart ops oj=true)→
     i∈Region.ready .any ops listed→(∀w',D w'→aW P ops oi a w' v)→
     RA P ops (Cls m D) Q fuel (listed.setIfInBounds i true) (a.put oi.dst v) w→RA P ops (Cls m D) Q (fuel+1) listed a w:=by
  intro fuel
  induction fuel with
  |zero=>
   intro listed a w _ _ hD _ _ hr hy H
   refine⟨fun h=>(by rw[h] at hr;cases hr),fun j hj o ho=>?_⟩
   by_cases hji:j=i
   · subst hji
     rw[hi] at ho;cases ho
     exact(hy w hD).runs ⟨.inl hD,H⟩
   · have:=ready_mono hj hji
     rw[H.1] at this
     cases this
  |succ fuel ih=>
   intro listed a w hcl hsz hD hnl hfree hr hy H
   refine⟨fun h=>(by rw[h] at hr;cases hr),fun j hj oj ho=>?_⟩
   by_cases hji:j=i
   · subst hji
     rw[hi] at ho;cases ho
     exact(hy w hD).runs ⟨.inl hD,H⟩
   · have h1:=H.2 j (ready_mono hj hji) oj ho
     obtain⟨hjun,oj',hoj',hall⟩:=mem_ready.1 hj
     rw[ho] at hoj';cases hoj'
     have hiun:=(mem_ready.1 hr).1
     have hnot:∀e∈oj.after,Region.binds .any e=true→e.on≠i:=fun e he hb heq=>by
       have h1:=hall e he hb
       rw[heq] at h1
       rcases Nat.lt_or_ge i listed.size with h'|h'
       · simp[h'] at h1 hiun;rw[hiun] at h1;cases h1
       · simp[Array.getElem?_eq_none h'] at h1
     have hjm:¬m≤j:=fun hm=>by
       have h2:=zJH hcl hsz hj (hlast j hm (Array.getElem?_eq_some_iff.1 ho).1)
       rcases Nat.lt_or_ge i listed.size with h'|h'
       · simp[h'] at h2 hiun;rw[hiun] at h2;cases h2
       · simp[Array.getElem?_eq_none h'] at h2
     have hap:=hfree j oj ho hji hjun hnot
     obtain⟨p1,p2,p3⟩:=Oper.apart_spec hap
     have hsj:=fun cs b=>Region.noSelect_spec hsel j oj cs b ho
     have hsi:=fun cs b=>Region.noSelect_spec hsel i oi cs b hi
     refine(uQ.of_put hsj p1 h1).mono fun u w' hk=>?_
     have hnl':∀k,m≤k→(listed.setIfInBounds j true).getD k false=false:=fun k hk'=>by
       rw[getD_set_ne false (by omega)];exact hnl k hk'
     have hD':D w':=by
       rcases hk.1 with h2|⟨k,hkm,hkl⟩
       · exact h2
       · rw[getD_set_ne false (by omega),getD_set_ne false (by omega),hnl k hkm] at hkl
         cases hkl
     have hfree':∀k ok,ops[k]?=some ok→k≠i→(listed.setIfInBounds j true).getD k true=false→
         (∀e∈ok.after,Region.binds .any e=true→e.on≠i)→oi.apart ops ok=true:=fun k ok hk hki hun hno=>by
       refine hfree k ok hk hki ?_ hno
       by_cases hjk:j=k
       · subst hjk;exact hjun
       · rw[getD_set_ne true hjk] at hun;exact hun
     refine⟨.inl hD',ih _ _ w' (hcl.set hj) (by simpa using hsz) hD' hnl' hfree' (ready_mono hr (Ne.symm hji)) (fun w'' hw=>(hy w'' hw).put hsi p3) ?_⟩
     rw[Array.setIfInBounds_comm _ _ hji,←Act.put_comm a v u p2]
     exact hk.2
theorem RA.pure{m:Nat}{D:World→Prop}{Q:Act→World→Prop}{i:Nat}{oi:Oper}{v:Value}(hi:ops[i]?=some oi)(hsel:Region.noSelect ops=true)(him:i<m):
    ∀(fuel:Nat) (listed:Array Bool) (a:Act) (w:World),Cls m D listed w→
     (∀j oj,ops[j]?=some oj→j≠i→listed.getD j true=false→(∀e∈oj.after,Region.binds .any e=true→e.on≠i)→oi.apart ops oj=true)→
     i∈Region.ready .any ops listed→(∀w',aW P ops oi a w' v)→
     RA P ops (Cls m D) Q fuel (listed.setIfInBounds i true) (a.put oi.dst v) w→RA P ops (Cls m D) Q (fuel+1) listed a w:=by
  intro fuel
  have hset:∀(listed:Array Bool) (j:Nat) (w:World),Cls m D listed w→Cls m D (listed.setIfInBounds j true) w:=fun listed j w hc=>hc.imp id fun⟨k,hk,hl⟩=>⟨k,hk,getD_set_true hl⟩
  induction fuel with
  |zero=>
   intro listed a w hD _ hr hy H
   refine⟨fun h=>(by rw[h] at hr;cases hr),fun j hj o ho=>?_⟩
   by_cases hji:j=i
   · subst hji
     rw[hi] at ho;cases ho
     exact(hy w).runs ⟨hset _ _ _ hD,H⟩
   · have:=ready_mono hj hji
     rw[H.1] at this
     cases this
  |succ fuel ih=>
   intro listed a w hD hfree hr hy H
   refine⟨fun h=>(by rw[h] at hr;cases hr),fun j hj oj ho=>?_⟩
   by_cases hji:j=i
   · subst hji
     rw[hi] at ho;cases ho
     exact(hy w).runs ⟨hset _ _ _ hD,H⟩
   · have h1:=H.2 j (ready_mono hj hji) oj ho
     obtain⟨hjun,oj',hoj',hall⟩:=mem_ready.1 hj
     rw[ho] at hoj';cases hoj'
     have hiun:=(mem_ready.1 hr).1
     have hnot:∀e∈oj.after,Region.binds .any e=true→e.on≠i:=fun e he hb heq=>by
       have h1:=hall e he hb
       rw[heq] at h1
       rcases Nat.lt_or_ge i listed.size with h'|h'
       · simp[h'] at h1 hiun;rw[hiun] at h1;cases h1
       · simp[Array.getElem?_eq_none h'] at h1
     have hap:=hfree j oj ho hji hjun hnot
     obtain⟨p1,p2,p3⟩:=Oper.apart_spec hap
     have hsj:=fun cs b=>Region.noSelect_spec hsel j oj cs b ho
     have hsi:=fun cs b=>Region.noSelect_spec hsel i oi cs b hi
     refine(uQ.of_put hsj p1 h1).mono fun u w' hk=>?_
     have hD':Cls m D (listed.setIfInBounds j true) w':=by
       refine hk.1.imp id fun⟨k,hkm,hkl⟩=>⟨k,hkm,?_⟩
       rw[Array.setIfInBounds_comm _ _ (Ne.symm hji),getD_set_ne false (by omega)] at hkl
       exact hkl
     have hfree':∀k ok,ops[k]?=some ok→k≠i→(listed.setIfInBounds j true).getD k true=false→
         (∀e∈ok.after,Region.binds .any e=true→e.on≠i)→oi.apart ops ok=true:=fun k ok hk hki hun hno=>by
       refine hfree k ok hk hki ?_ hno
       by_cases hjk:j=k
       · subst hjk;exact hjun
       · rw[getD_set_ne true hjk] at hun;exact hun
     refine⟨hD',ih _ _ w' hD' hfree' (ready_mono hr (Ne.symm hji)) (fun w''=>(hy w'').put hsi p3) ?_⟩
     rw[Array.setIfInBounds_comm _ _ hji,←Act.put_comm a v u p2]
     exact hk.2
def rem(ops:Array Oper)(listed:Array Bool):Nat:=((List.range ops.size).filter fun i=>!listed.getD i true).length
theorem aF{listed:Array Bool}{i:Nat}(hi:i<ops.size)(hl:listed.getD i true=false):rem ops (listed.setIfInBounds i true)<rem ops listed:=by
  unfold rem
  have hsub:((List.range ops.size).filter fun j=>!(listed.setIfInBounds i true).getD j true)=((List.range ops.size).filter fun j=>!listed.getD j true).filter fun j=>j != i:=by
    rw[List.filter_filter]
    refine List.filter_congr fun j _=>?_
    by_cases hj:j=i
    · subst hj
      have hlt:j<listed.size:=by
        rcases Nat.lt_or_ge j listed.size with h'|h'
        · exact h'
        · simp[Array.getElem?_eq_none h'] at hl
      simp[hlt]
    · rw[getD_set_ne true (Ne.symm hj)]
      simp[hj]
  rw[hsub]
  refine List.length_filter_lt_length_iff_exists.2 ⟨i,?_,by simp⟩
  simp only[List.mem_filter,List.mem_range,hi,true_and,hl,Bool.not_false]
theorem lE{listed:Array Bool}(h:rem ops listed=0):Region.ready .any ops listed=[]:=by
  rw[List.eq_nil_iff_forall_not_mem]
  intro i hi
  obtain⟨h1,o,ho,_⟩:=mem_ready.1 hi
  have:=aF (ops:=ops) (Array.getElem?_eq_some_iff.1 ho).1 h1
  omega
end
inductive Kd where
  |q|a|c|b(j:Nat)|t|p|d(i2 j:Nat)|m(A B:List Nat)|x(Qs A B:List Nat)
section zW7
variable (P:Program)(n:Nat)(w0:World)(h0:Mem)(ops:Array Oper)(Q:Exit→Act→World→Prop)(R:List Res)
def zJ7(e:List (Nat×Value))(d:Option Tmp)(v:Value):List (Nat×Value):=
  match d with
  |some d=>(d,v)::e
  |none=>e
def OpQ(o:Oper)(e:List (Nat×Value))(h:Mem)(v:Value):Prop:=
  (∃d,o.dst=some d∧d<n)∧∀h' L' a w,MLe h h'→(∀r∈R,r∈L')→Env n e a→St w0 h0 L' h' w→aW P ops o a w v
def OpP(o:Oper)(e:List (Nat×Value))(v:Value):Prop:=
  (∃d,o.dst=some d∧d<n)∧∀a w,Env n e a→aW P ops o a w v
def yBZ(e:List (Nat×Value))(L X:List Res)(h:Mem)(o:Oper)(W:List (Nat×Value)→List Res→Mem→Prop)(v:Value)(w:World):Prop:=
  (∀d,o.dst=some d→d<n)∧∃L' h',MLe h h'∧((∀r∈R,r∈L)→∀r∈R,r∈L')∧St w0 h0 (L'++X) h' w∧W (zJ7 e o.dst v) L' h'
def qT(o:Oper)(e:List (Nat×Value))(L:List Res)(h:Mem)(W:List (Nat×Value)→List Res→Mem→Prop):Prop:=
  ∀X a w,Env n e a→St w0 h0 (L++X) h w→uQ P ops o a w (yBZ n w0 h0 R e L X h o W)
def zZ8(o:Oper)(e:List (Nat×Value))(L:List Res)(h:Mem)(W:List (Nat×Value)→List Res→Mem→Prop):Prop:=
  ∀a w,Env n e a→St w0 h0 L h w→uQ P ops o a w fun v w'=>(∀d,o.dst=some d→d<n)∧∃L' h',St w0 h0 L' h' w'∧W (zJ7 e o.dst v) L' h'
abbrev Als:=List (Nat×(Nat×TypeId×List Value))
def WM(K:List (Nat×Value)→List Res→Mem→Prop):Nat→List Nat→List Nat→List (Nat×Value)→List Res→Mem→Prop
  |_,[],[],e,L,h=>K e L h
  |0,_,_,_,_,_=>False
  |k+1,i::A,[],e,L,h=>qT P n w0 h0 ops R (ops.getD i default) e L h (WM K k A [])
  |k+1,[],j::B,e,L,h=>qT P n w0 h0 ops R (ops.getD j default) e L h (WM K k [] B)
  |k+1,i::A,j::B,e,L,h=>qT P n w0 h0 ops R (ops.getD i default) e L h (WM K k A (j::B))∧qT P n w0 h0 ops R (ops.getD j default) e L h (WM K k (i::A) B)
def SQ(i:Nat)(e:List (Nat×Value))(L:List Res)(h:Mem)(K:List (Nat×Value)→List Res→Mem→Prop):Prop:=∃v,OpQ P n w0 h0 ops R (ops.getD i default) e h v∧K (zJ7 e (ops.getD i default).dst v) L h
def WX(Qs:List Nat)(K:List (Nat×Value)→List Res→Mem→Prop):Nat→List Nat→List Nat→List (Nat×Value)→List Res→Mem→Prop
  |_,[],[],e,L,h=>K e L h
  |0,_,_,_,_,_=>False
  |k+1,i::A,[],e,L,h=>bif Qs.contains i then SQ P n w0 h0 ops R i e L h (WX Qs K k A []) else qT P n w0 h0 ops R (ops.getD i default) e L h (WX Qs K k A [])
  |k+1,[],j::B,e,L,h=>bif Qs.contains j then SQ P n w0 h0 ops R j e L h (WX Qs K k [] B) else qT P n w0 h0 ops R (ops.getD j default) e L h (WX Qs K k [] B)
  |k+1,i::A,j::B,e,L,h=>bif Qs.contains i then SQ P n w0 h0 ops R i e L h (WX Qs K k A (j::B)) else bif Qs.contains j then SQ P n w0 h0 ops R j e L h (WX Qs K k (i::A) B)
    else qT P n w0 h0 ops R (ops.getD i default) e L h (WX Qs K k A (j::B))∧qT P n w0 h0 ops R (ops.getD j default) e L h (WX Qs K k (i::A) B)
def zOR:Op→Option Nat
  | .buildSlice _ len _=>some len
  |_=>none
def zG3(o:Op)(b:Nat):Value:=
  match zOR o with
  |none=>.pointer (some ⟨b,0,none⟩)
  |some len=>.slice (some ⟨b,0,none⟩) len len
def W(al:Als):List (Nat×Kd)→List (Nat×Value)→List Res→Mem→Prop
  |[],e,L,h=>GQ n w0 h0 Q .normal e L h
  |(i,.q)::r,e,L,h=>∃v,OpQ P n w0 h0 ops R (ops.getD i default) e h v∧W al r (zJ7 e (ops.getD i default).dst v) L h
  |(i,.a)::r,e,L,h=>∀d E cs b,al.lookup i=some (d,E,cs)→match zOR (ops.getD i default).op with
   |none=>W al r ((d,.pointer (some ⟨b,0,none⟩))::e) (.blk b (.cells cs.toArray E)::L) h
   |some len=>∀h',MLe h h'→Sl h' 1 (.slice (some ⟨b,0,none⟩) len len) len cs→W al r ((d,.slice (some ⟨b,0,none⟩) len len)::e) L h'
  |(i,.c)::r,e,L,h=>qT P n w0 h0 ops R (ops.getD i default) e L h (W al r)
  |(i,.b j)::r,e,L,h=>qT P n w0 h0 ops R (ops.getD i default) e L h (fun e L h=>qT P n w0 h0 ops R (ops.getD j default) e L h (W al r))∧
     qT P n w0 h0 ops R (ops.getD j default) e L h (fun e L h=>qT P n w0 h0 ops R (ops.getD i default) e L h (W al r))
  |(i,.t)::r,e,L,h=>zZ8 P n w0 h0 ops (ops.getD i default) e L h (W al r)
  |(i,.p)::r,e,L,h=>∃v,OpP P n ops (ops.getD i default) e v∧W al r (zJ7 e (ops.getD i default).dst v) L h
  |(i,.d i2 j)::r,e,L,h=>
     qT P n w0 h0 ops R (ops.getD i default) e L h (fun e L h=>
       qT P n w0 h0 ops R (ops.getD i2 default) e L h (fun e L h=>qT P n w0 h0 ops R (ops.getD j default) e L h (W al r))∧
       qT P n w0 h0 ops R (ops.getD j default) e L h (fun e L h=>qT P n w0 h0 ops R (ops.getD i2 default) e L h (W al r)))∧
     qT P n w0 h0 ops R (ops.getD j default) e L h (fun e L h=>qT P n w0 h0 ops R (ops.getD i default) e L h (fun e L h=>qT P n w0 h0 ops R (ops.getD i2 default) e L h (W al r)))
  |(_,.m A B)::r,e,L,h=>WM P n w0 h0 ops R (W al r) (A.length+B.length) A B e L h
  |(_,.x Qs A B)::r,e,L,h=>WX P n w0 h0 ops R Qs (W al r) (A.length+B.length) A B e L h
end zW7
def setAll(b:Array Bool)(l:List Nat):Array Bool:=l.foldl (fun b i=>b.setIfInBounds i true) b
def zBN(ops:Array Oper)(m:Nat)(pend:List Nat)(K:Array Bool→Bool):Nat→List Nat→List Nat→Array Bool→Bool
  |_,[],[],base=>K base
  |0,_,_,_=>false
  |k+1,i::A,[],base=>(decide (i<m)&&!pend.contains i)&&(Region.ready .any ops (setAll base pend)==[i])&&zBN ops m pend K k A [] (base.setIfInBounds i true)
  |k+1,[],j::B,base=>(decide (j<m)&&!pend.contains j)&&(Region.ready .any ops (setAll base pend)==[j])&&zBN ops m pend K k [] B (base.setIfInBounds j true)
  |k+1,i::A,j::B,base=>(decide (i<m)&&!pend.contains i)&&(decide (j<m)&&!pend.contains j)&&decide (i≠j)&&(Region.ready .any ops (setAll base pend)==[i,j])&&
    zBN ops m pend K k A (j::B) (base.setIfInBounds i true)&&zBN ops m pend K k (i::A) B (base.setIfInBounds j true)
def zI8(ops:Array Oper)(m:Nat)(pend:List Nat)(i:Nat)(base:Array Bool):Bool:=decide (i<m)&&(Region.ready .any ops base).contains i&&Region.free .any ops base i&&!pend.contains i&&((List.range ops.size).all fun k=>decide (k<m)||zA1 ops k i)
def nI(ops:Array Oper)(m:Nat)(pend:List Nat)(Qs:List Nat)(K:Array Bool→Bool):Nat→List Nat→List Nat→Array Bool→Bool
  |_,[],[],base=>K base
  |0,_,_,_=>false
  |k+1,i::A,[],base=>bif Qs.contains i then zI8 ops m pend i base&&nI ops m pend Qs K k A [] (base.setIfInBounds i true) else(decide (i<m)&&!pend.contains i)&&(Region.ready .any ops (setAll base pend)==[i])&&nI ops m pend Qs K k A [] (base.setIfInBounds i true)
  |k+1,[],j::B,base=>bif Qs.contains j then zI8 ops m pend j base&&nI ops m pend Qs K k [] B (base.setIfInBounds j true) else(decide (j<m)&&!pend.contains j)&&(Region.ready .any ops (setAll base pend)==[j])&&nI ops m pend Qs K k [] B (base.setIfInBounds j true)
  |k+1,i::A,j::B,base=>bif Qs.contains i then zI8 ops m pend i base&&nI ops m pend Qs K k A (j::B) (base.setIfInBounds i true) else bif Qs.contains j then zI8 ops m pend j base&&nI ops m pend Qs K k (i::A) B (base.setIfInBounds j true)
    else(decide (i<m)&&!pend.contains i)&&(decide (j<m)&&!pend.contains j)&&decide (i≠j)&&(Region.ready .any ops (setAll base pend)==[i,j]||Region.ready .any ops (setAll base pend)==[j,i])&&
    nI ops m pend Qs K k A (j::B) (base.setIfInBounds i true)&&nI ops m pend Qs K k (i::A) B (base.setIfInBounds j true)
def chk(ops:Array Oper)(m:Nat):List (Nat×Kd)→Array Bool→List Nat→Bool
  |[],base,pend=>pend.isEmpty&&(Region.ready .any ops base).isEmpty
  |(i,.q)::r,base,pend=>decide (i<m)&&(Region.ready .any ops base).contains i&&Region.free .any ops base i&&!pend.contains i&&
     ((List.range ops.size).all fun k=>decide (k<m)||zA1 ops k i)&&chk ops m r (base.setIfInBounds i true) pend
  |(i,.a)::r,base,pend=>pend.contains i&&(Region.ready .any ops (setAll base (pend.filter (· != i)))==[i])&&chk ops m r (base.setIfInBounds i true) (pend.filter (· != i))
  |(i,.c)::r,base,pend=>decide (i<m)&&!pend.contains i&&(Region.ready .any ops (setAll base pend)==[i])&&chk ops m r (base.setIfInBounds i true) pend
  |(i,.b j)::r,base,pend=>decide (i<m)&&decide (j<m)&&!pend.contains i&&!pend.contains j&&decide (i≠j)&&(Region.ready .any ops (setAll base pend)==[i,j])&&
     (Region.ready .any ops (setAll (base.setIfInBounds i true) pend)==[j])&&(Region.ready .any ops (setAll (base.setIfInBounds j true) pend)==[i])&&chk ops m r ((base.setIfInBounds i true).setIfInBounds j true) pend
  |(i,.t)::r,base,pend=>pend.isEmpty&&(r.all fun x=>match x.2 with| .t=>true|_=>false)&&decide (m≤i)&&(Region.ready .any ops base==[i])&&chk ops m r (base.setIfInBounds i true) []
  |(i,.p)::r,base,pend=>decide (i<m)&&(Region.ready .any ops base).contains i&&Region.free .any ops base i&&!pend.contains i&&chk ops m r (base.setIfInBounds i true) pend
  |(i,.d i2 j)::r,base,pend=>(decide (i<m)&&decide (i2<m)&&decide (j<m)&&!pend.contains i&&!pend.contains i2&&!pend.contains j)&&(decide (i≠i2)&&decide (i≠j)&&decide (i2≠j))&&
     (Region.ready .any ops (setAll base pend)==[i,j])&&(Region.ready .any ops (setAll (base.setIfInBounds i true) pend)==[i2,j])&&(Region.ready .any ops (setAll (base.setIfInBounds j true) pend)==[i])&&
     (Region.ready .any ops (setAll ((base.setIfInBounds i true).setIfInBounds i2 true) pend)==[j])&&(Region.ready .any ops (setAll ((base.setIfInBounds i true).setIfInBounds j true) pend)==[i2])&&
     chk ops m r (((base.setIfInBounds i true).setIfInBounds i2 true).setIfInBounds j true) pend
  |(_,.m A B)::r,base,pend=>zBN ops m pend (fun base=>chk ops m r base pend) (A.length+B.length) A B base
  |(_,.x Qs A B)::r,base,pend=>nI ops m pend Qs (fun base=>chk ops m r base pend) (A.length+B.length) A B base
def sW(ops:Array Oper)(al:Als):Bool:=
  al.all fun x=>((ops.getD x.1 default).after.all fun e=>!Region.binds .any e)&&decide (x.1<ops.size)&&(ops.getD x.1 default).guard.isNone&&(ops.getD x.1 default).dst==some x.2.1&&
    (List.range ops.size).all fun k=>k==x.1||(ops.getD k default).dst != some x.2.1
section sound
variable {P:Program}{n:Nat}{w0:World}{h0:Mem}{ops:Array Oper}{Q:Exit→Act→World→Prop}{R:List Res}{al:Als}{m:Nat}
theorem St.perm{L L':List Res}{h:Mem}{w:World}(s:St w0 h0 L h w)(hp:L.Perm L'):St w0 h0 L' h w:=
  ⟨s.below,s.le,s.sub,s.fresh,fun r hr=>s.ok r (hp.mem_iff.2 hr),fun r hr=>s.own r (hp.mem_iff.2 hr),(hp.pairwise_iff fun h b hx hy=>h b hy hx).1 s.apart⟩
theorem aE(b:Array Bool)(l:List Nat):(setAll b l).size=b.size:=by
  induction l generalizing b with
  |nil=>rfl
  |cons i l ih=>simp only[setAll,List.foldl_cons] at ih ⊢;rw[ih];simp
theorem tA(b:Array Bool)(l:List Nat)(k:Nat):(setAll b l)[k]?=if k∈l∧k<b.size then some true else b[k]?:=by
  induction l generalizing b with
  |nil=>simp[setAll]
  |cons i l ih=>
   have:=ih (b.setIfInBounds i true)
   simp only[setAll,List.foldl_cons] at this ⊢
   rw[this]
   simp only[Array.size_setIfInBounds,Array.getElem?_setIfInBounds,List.mem_cons]
   by_cases hk:k<b.size<;>by_cases hi:i=k<;>by_cases hl:k∈l<;>simp_all
   all_goals omega
def Rel(ops:Array Oper)(base:Array Bool)(X:List Nat)(listed:Array Bool):Prop:=base.size=ops.size∧listed=setAll base X
theorem Rel.unlisted{base listed:Array Bool}{X:List Nat}(hr:Rel ops base X listed)(k:Nat):listed.getD k true=false↔base.getD k true=false∧k ∉ X:=by
  obtain⟨h1,rfl⟩:=hr
  simp only[Array.getD_eq_getD_getElem?,tA]
  by_cases hk:k<base.size
  · by_cases hx:k∈X<;>simp[hx,hk]
  · simp[hk]
theorem Rel.listed{base listed:Array Bool}{X:List Nat}(hr:Rel ops base X listed)(k:Nat):listed.getD k false=true↔(base.getD k false=true∨(k∈X∧k<ops.size)):=by
  obtain⟨h1,rfl⟩:=hr
  simp only[Array.getD_eq_getD_getElem?,tA]
  by_cases hk:k<base.size
  · have hk':k<ops.size:=by omega
    by_cases hx:k∈X<;>simp[hx,hk,hk']
  · have hk':¬k<ops.size:=by omega
    simp[hk,hk']
theorem sG{base:Array Bool}{X Y:List Nat}{k:Nat}(hb:base.size=ops.size)(hk:k∈Region.ready .any ops (setAll base X))(hXY:∀x∈X,x∈Y)(hkY:k ∉ Y):k∈Region.ready .any ops (setAll base Y):=by
  rw[mem_ready] at hk ⊢
  obtain⟨h1,o,ho,h2⟩:=hk
  refine⟨((Rel.unlisted ⟨hb,rfl⟩ k).2 ⟨((Rel.unlisted ⟨hb,rfl⟩ k).1 h1).1,hkY⟩),o,ho,fun e he hbd=>?_⟩
  have:=(Rel.listed (ops:=ops) ⟨hb,rfl⟩ _).1 (h2 e he hbd)
  exact(Rel.listed ⟨hb,rfl⟩ _).2 (this.imp id fun h=>⟨hXY _ h.1,h.2⟩)
theorem zHG(b:Array Bool)(i:Nat)(l:List Nat):(setAll b l).setIfInBounds i true=setAll b (i::l):=by
  apply Array.ext_getElem?
  intro k
  rw[tA,Array.getElem?_setIfInBounds,aE,tA]
  by_cases hi:i=k
  · subst hi
    by_cases hk:i<b.size<;>simp[hk]
  · by_cases hk:k<b.size<;>by_cases hl:k∈l<;>simp[hi,hk,hl,Ne.symm hi]
theorem zJX(b:Array Bool)(i:Nat)(l:List Nat):setAll (b.setIfInBounds i true) l=(setAll b l).setIfInBounds i true:=by
  apply Array.ext_getElem?
  intro k
  rw[tA,Array.getElem?_setIfInBounds,Array.getElem?_setIfInBounds,aE,tA,Array.size_setIfInBounds]
  by_cases hi:i=k
  · subst hi
    by_cases hk:i<b.size<;>by_cases hl:i∈l<;>simp[hk,hl]
  · by_cases hk:k<b.size<;>by_cases hl:k∈l<;>simp[hi,hk,hl]
def Dw(w0:World)(h0:Mem)(R:List Res)(h:Mem)(w:World):Prop:=∃L' h',MLe h h'∧(∀r∈R,r∈L')∧St w0 h0 L' h' w
theorem Dw.mono{h h':Mem}(hh:MLe h h'){w:World}(hd:Dw w0 h0 R h' w):Dw w0 h0 R h w:=
  let ⟨L',h2,a,b,c⟩:=hd
  ⟨L',h2,hh.trans a,b,c⟩
def jK(P:Program)(n:Nat)(ops:Array Oper)(al:Als):Prop:=∀x∈al,x.2.1<n∧(∀(a:Act) w,(execOp a.eval (ops.getD x.1 default)).run P w=.ok (.value (zG3 (ops.getD x.1 default).op w.heap.size)) (w.alloc (.cells x.2.2.2.toArray x.2.2.1)))∧
    ∀len,zOR (ops.getD x.1 default).op=some len→x.2.2.2.length=len∧len≤maxLen
def nK(al:Als)(X:List (Nat×Nat)):List Res:=X.map fun p=>match al.lookup p.1 with|some (_,E,cs)=>.blk p.2 (.cells cs.toArray E)|none=>.blk p.2 default
structure Inv(P:Program)(n:Nat)(w0:World)(h0:Mem)(ops:Array Oper)(R:List Res)(al:Als)(base:Array Bool)(pend:List Nat)(e:List (Nat×Value))(L:List Res)(h:Mem)(X:List (Nat×Nat))(listed:Array Bool)(a:Act)(w:World):Prop where
  env:Env n e a
  st:St w0 h0 (L++nK al X) h w
  sub:∀r∈R,r∈L
  rel:Rel ops base (X.map (·.1)) listed
  xp:∀p∈X,p.1∈pend∧∃y,al.lookup p.1=some y∧a.tmps[y.1]?=some (zG3 (ops.getD p.1 default).op p.2)
  nd:(X.map (·.1)).Nodup
  pe:∀i∈pend,∃y,al.lookup i=some y∧e.lookup y.1=none
  pb:∀i∈pend,base.getD i true=false
  cl:dP ops listed
theorem dF{al:Als}{i:Nat}{y:Nat×TypeId×List Value}(h:al.lookup i=some y):(i,y)∈al:=by
  induction al with
  |nil=>simp at h
  |cons x l ih=>
   obtain⟨k,z⟩:=x
   simp only[List.lookup_cons] at h
   by_cases hk:i=k
   · subst hk;simp at h;subst h;simp
   · have:(i==k)=false:=by simpa using hk
     rw[this] at h
     exact List.mem_cons_of_mem _ (ih h)
theorem sP(hca:sW ops al=true){i:Nat}{y:Nat×TypeId×List Value}(h:al.lookup i=some y):
    (∀e∈(ops.getD i default).after,Region.binds .any e=false)∧i<ops.size∧(ops.getD i default).guard=none∧(ops.getD i default).dst=some y.1∧True∧
    ∀k,k<ops.size→k≠i→(ops.getD k default).dst≠some y.1:=by
  have hm:=dF h
  unfold sW at hca
  have:=List.all_eq_true.1 hca _ hm
  simp only[Bool.and_eq_true,decide_eq_true_eq,beq_iff_eq,Array.all_eq_true',List.all_eq_true,List.mem_range,Bool.or_eq_true,bne_iff_ne,Bool.not_eq_true',Option.isNone_iff_eq_none] at this
  obtain⟨⟨⟨⟨h1,h2⟩,h3⟩,h4⟩,h6⟩:=this
  exact⟨h1,h2,h3,h4,trivial,fun k hk hki=>(h6 k hk).resolve_left hki⟩
theorem nC{i:Nat}(hi:i<ops.size):ops[i]?=some (ops.getD i default):=by
  simp[Array.getD_eq_getD_getElem?,hi]
theorem pJ(hca:sW ops al=true){base listed:Array Bool}{pend:List Nat}{e:List (Nat×Value)}{L:List Res}{h:Mem}{X:List (Nat×Nat)}{a:Act}{w:World}(I:Inv P n w0 h0 ops R al base pend e L h X listed a w){i:Nat}(hi:i∈pend)
    (hX:i ∉ X.map (·.1)):i∈Region.ready .any ops listed:=by
  obtain⟨y,hy,_⟩:=I.pe i hi
  obtain⟨c1,c2,_⟩:=sP hca hy
  exact mem_ready.2 ⟨(I.rel.unlisted i).2 ⟨by
    have:=I.pb i hi
    have hs:=I.rel.1
    simp only[Array.getD_eq_getD_getElem?] at this ⊢
    rw[Array.getElem?_eq_getElem (by omega)] at this ⊢
    simpa using this,hX⟩,_,nC c2,fun e he hb=>by rw[c1 e he] at hb;cases hb⟩
theorem zWP(hal:jK P n ops al)(hca:sW ops al=true){base listed:Array Bool}{pend:List Nat}{e:List (Nat×Value)}{L:List Res}{h:Mem}{X:List (Nat×Nat)}{a:Act}{w:World}(I:Inv P n w0 h0 ops R al base pend e L h X listed a w){j:Nat}(hj:j∈pend)
    (hX:j ∉ X.map (·.1)):uQ P ops (ops.getD j default) a w fun v w'=>Dw w0 h0 R h w'∧∃b,Inv P n w0 h0 ops R al base pend e L h ((j,b)::X) (listed.setIfInBounds j true) (a.put (ops.getD j default).dst v) w':=by
  obtain⟨y,hy,hey⟩:=I.pe j hj
  obtain⟨c1,c2,c3,c4,c5,c6⟩:=sP hca hy
  obtain⟨hd,hz,_⟩:=hal _ (dF hy)
  have hrun:=hz a w
  simp only at hrun
  unfold uQ
  rw[if_pos (by unfold Region.wanted;rw[c3]),hrun]
  have hst:=I.st.alloc (.cells y.2.2.toArray y.2.1)
  have hperm:(.blk w.heap.size (.cells y.2.2.toArray y.2.1)::(L++nK al X)).Perm (L++nK al ((j,w.heap.size)::X)):=by
    have:nK al ((j,w.heap.size)::X)=.blk w.heap.size (.cells y.2.2.toArray y.2.1)::nK al X:=by
      simp only[nK,List.map_cons,hy]
    rw[this]
    exact List.perm_middle.symm
  refine⟨⟨_,h,MLe.refl h,fun r hr=>?_,hst⟩,w.heap.size,?_⟩
  · exact List.mem_cons_of_mem _ (List.mem_append_left _ (I.sub r hr))
  · have hput:∀t,t≠y.1→(a.put (ops.getD j default).dst (zG3 (ops.getD j default).op w.heap.size)).tmps[t]?=a.tmps[t]?:=by
      intro t ht
      rw[c4]
      simp only[Act.put]
      rw[Array.getElem?_setIfInBounds_ne (Ne.symm ht)]
    refine⟨⟨I.env.defers|>fun hh=>by rw[c4];exact hh,by rw[c4];simp[Act.put,I.env.size],fun t v ht=>?_⟩,hst.perm hperm,I.sub,⟨I.rel.1,by rw[I.rel.2,zHG];rfl⟩,?_,?_,I.pe,I.pb,I.cl.set (pJ hca I hj hX)⟩
    · have:t≠y.1:=fun he=>by rw[he,hey] at ht;cases ht
      rw[hput t this]
      exact I.env.get t v ht
    · intro p hp
      rcases List.mem_cons.1 hp with rfl|hp
      · refine⟨hj,y,hy,?_⟩
        rw[c4]
        simp[Act.put,I.env.size,hd]
      · obtain⟨h1,y',hy',h2⟩:=I.xp p hp
        refine⟨h1,y',hy',?_⟩
        have hne:p.1≠j:=fun he=>hX (he▸List.mem_map_of_mem hp)
        obtain⟨_,d2,_,d4,_,_⟩:=sP hca hy'
        have:y'.1≠y.1:=fun he=>c6 p.1 d2 hne (by rw[d4,he])
        rw[hput _ this]
        exact h2
    · simp only[List.map_cons,List.nodup_cons]
      exact⟨hX,I.nd⟩
def iA(P:Program)(n:Nat)(w0:World)(h0:Mem)(ops:Array Oper)(Q:Exit→Act→World→Prop)(R:List Res)(al:Als)(m:Nat)(base:Array Bool)(pend:List Nat)(e:List (Nat×Value))(L:List Res)(h:Mem):Prop:=
  ∀fuel X listed a w,Inv P n w0 h0 ops R al base pend e L h X listed a w→rem ops listed≤fuel→RA P ops (Cls m (Dw w0 h0 R h)) (fun a w=>Q .normal a w) fuel listed a w
theorem zBS{listed:Array Bool}{i:Nat}(hi:i<ops.size)(hl:listed.getD i true=false):0<rem ops listed:=by
  have:=aF hi hl;omega
theorem lF{listed:Array Bool}{i:Nat}(h:i∈Region.ready .any ops listed):i<ops.size∧listed.getD i true=false:=
  let ⟨h1,_,ho,_⟩:=mem_ready.1 h
  ⟨(Array.getElem?_eq_some_iff.1 ho).1,h1⟩
theorem Inv.next(hca:sW ops al=true){base listed:Array Bool}{pend:List Nat}{e:List (Nat×Value)}{L L':List Res}{h h':Mem}{X:List (Nat×Nat)}{a:Act}{w w':World}(I:Inv P n w0 h0 ops R al base pend e L h X listed a w){i:Nat}(hi:i<ops.size)(hir:i∈Region.ready .any ops listed)(hip:i ∉ pend)
    (hd:∀d,(ops.getD i default).dst=some d→d<n)(hR:∀r∈R,r∈L')(S:St w0 h0 (L'++nK al X) h' w')(v:Value):
    Inv P n w0 h0 ops R al (base.setIfInBounds i true) pend (zJ7 e (ops.getD i default).dst v) L' h' X (listed.setIfInBounds i true) (a.put (ops.getD i default).dst v) w':=by
  have hne:∀k∈pend,∀y,al.lookup k=some y→(ops.getD i default).dst≠some y.1:=fun k hk y hy=>(sP hca hy).2.2.2.2.2 i hi (fun he=>hip (by rw[he];exact hk))
  refine⟨?_,S,hR,⟨by simpa using I.rel.1,by rw[I.rel.2,zJX]⟩,?_,I.nd,?_,?_,I.cl.set hir⟩
  · cases hdst:(ops.getD i default).dst with
    |none=>exact I.env
    |some d=>exact I.env.put (hd d hdst)
  · intro p hp
    obtain⟨h1,y,hy,h2⟩:=I.xp p hp
    refine⟨h1,y,hy,?_⟩
    have:=hne p.1 h1 y hy
    cases hdst:(ops.getD i default).dst with
    |none=>exact h2
    |some d=>
     rw[hdst] at this
     simp only[Act.put]
     rw[Array.getElem?_setIfInBounds_ne (fun he=>this (by rw[he]))]
     exact h2
  · intro k hk
    obtain⟨y,hy,hl⟩:=I.pe k hk
    refine⟨y,hy,?_⟩
    have:=hne k hk y hy
    cases hdst:(ops.getD i default).dst with
    |none=>exact hl
    |some d=>
     rw[hdst] at this
     simp only[zJ7,List.lookup_cons]
     have h3:(y.1==d)=false:=by simp only[beq_eq_false_iff_ne];exact fun he=>this (by rw[he])
     rw[h3];exact hl
  · intro k hk
    rw[getD_set_ne true (fun he=>hip (by rw[he];exact hk))]
    exact I.pb k hk
theorem bA(hal:jK P n ops al)(hca:sW ops al=true){base:Array Bool}{pend:List Nat}{e:List (Nat×Value)}{L:List Res}{h:Mem}(opts:List Nat)(ho:opts≠[])(hr:Region.ready .any ops (setAll base pend)=opts)
    (hop:∀i∈opts,i<m∧i ∉ pend)(W1:Nat→List (Nat×Value)→List Res→Mem→Prop)(hst:∀i∈opts,qT P n w0 h0 ops R (ops.getD i default) e L h (W1 i))
    (hgo:∀i∈opts,∀e' L' h',W1 i e' L' h'→iA P n w0 h0 ops Q R al m (base.setIfInBounds i true) pend e' L' h'):iA P n w0 h0 ops Q R al m base pend e L h:=by
  intro fuel
  induction fuel with
  |zero=>
   intro X listed a w I hrem
   exfalso
   have hnil:=lE (ops:=ops) (listed:=listed) (by omega)
   by_cases hall:∃p∈pend,p ∉ X.map (·.1)
   · obtain⟨p,hp,hpX⟩:=hall
     have:=pJ hca I hp hpX
     rw[hnil] at this;cases this
   · obtain⟨i,hi⟩:=List.exists_mem_of_ne_nil _ ho
     have h1:i∈Region.ready .any ops (setAll base pend):=by rw[hr];exact hi
     have h2:=sG I.rel.1 h1 (Y:=X.map (·.1)) (fun p hp=>Classical.byContradiction fun hc=>hall ⟨p,hp,hc⟩) (fun hiX=>by
       obtain⟨p,hp,rfl⟩:=List.mem_map.1 hiX
       exact(hop _ hi).2 (I.xp p hp).1)
     rw[←I.rel.2,hnil] at h2;cases h2
  |succ fuel ih=>
   intro X listed a w I hrem
   have hne:Region.ready .any ops listed≠[]:=by
     by_cases hall:∃p∈pend,p ∉ X.map (·.1)
     · obtain⟨p,hp,hpX⟩:=hall
       have:=pJ hca I hp hpX
       intro hnil;rw[hnil] at this;cases this
     · obtain⟨i,hi⟩:=List.exists_mem_of_ne_nil _ ho
       have h1:i∈Region.ready .any ops (setAll base pend):=by rw[hr];exact hi
       have h2:=sG I.rel.1 h1 (Y:=X.map (·.1)) (fun p hp=>Classical.byContradiction fun hc=>hall ⟨p,hp,hc⟩) (fun hiX=>by
         obtain⟨p,hp,rfl⟩:=List.mem_map.1 hiX
         exact(hop _ hi).2 (I.xp p hp).1)
       rw[←I.rel.2] at h2
       intro hnil;rw[hnil] at h2;cases h2
   refine⟨fun hnil=>absurd hnil hne,fun j hj o hoj=>?_⟩
   obtain⟨hjs,hjun⟩:=lF hj
   have hjo:o=ops.getD j default:=by rw[nC hjs] at hoj;exact(Option.some.inj hoj).symm
   subst hjo
   have hrem':=aF hjs hjun
   by_cases hjp:j∈pend
   · have hjX:=((I.rel.unlisted j).1 hjun).2
     refine(zWP hal hca I hjp hjX).mono fun v w' ⟨hD,b,I'⟩=>⟨.inl hD,ih _ _ _ _ I' (by omega)⟩
   · have h1:j∈Region.ready .any ops (setAll base pend):=by
       rw[I.rel.2] at hj
       exact sG I.rel.1 hj (fun p hp=>by obtain⟨q,hq,rfl⟩:=List.mem_map.1 hp;exact(I.xp q hq).1) hjp
     rw[hr] at h1
     refine(hst j h1 (nK al X) a w I.env I.st).mono fun v w' ⟨hd,L',h',hh,hR0,S,hW⟩=>?_
     have hR:=hR0 I.sub
     refine⟨.inl ⟨_,h',hh,fun r hr=>List.mem_append_left _ (hR r hr),S⟩,?_⟩
     refine RA.mono (fun l w hc=>hc.imp (Dw.mono hh) id) (hgo j h1 _ _ _ hW fuel X _ _ w' (I.next hca hjs hj hjp hd hR S v) (by omega))
theorem zFA(D:World→Prop):∀(ord:List (Nat×Kd)) (base:Array Bool) (e:List (Nat×Value)) (L:List Res) (h:Mem),(ord.all fun x=>match x.2 with| .t=>true|_=>false)=true→chk ops m ord base []=true→
    W P n w0 h0 ops Q R al ord e L h→∀fuel a w,Env n e a→St w0 h0 L h w→base.size=ops.size→rem ops base≤fuel→RA P ops (Cls m D) (fun a w=>Q .normal a w) fuel base a w
  |[],base,e,L,h,_,hc,hW,fuel,a,w,E,S,_,_=>by
   have hr:Region.ready .any ops base=[]:=by simpa[chk] using hc
   cases fuel with
   |zero=>exact⟨hr,hW a w E S⟩
   |succ fuel=>exact⟨fun _=>hW a w E S,fun i hi=>by rw[hr] at hi;cases hi⟩
  |(i,.t)::r,base,e,L,h,ht,hc,hW,fuel,a,w,E,S,hs,hrem=>by
   simp only[chk,Bool.and_eq_true,beq_iff_eq,decide_eq_true_eq] at hc
   obtain⟨⟨⟨⟨_,hrt⟩,hmi⟩,hr⟩,hc'⟩:=hc
   have hir:i∈Region.ready .any ops base:=by rw[hr];simp
   obtain⟨his,hiun⟩:=lF hir
   have hp:=zBS his hiun
   cases fuel with
   |zero=>omega
   |succ fuel=>
    refine⟨fun hnil=>absurd (hr.symm.trans hnil) (by simp),fun j hj o hoj=>?_⟩
    rw[hr] at hj
    obtain rfl:j=i:=by simpa using hj
    have hjo:o=ops.getD j default:=by rw[nC his] at hoj;exact(Option.some.inj hoj).symm
    subst hjo
    have hrem':=aF his hiun
    refine(hW a w E S).mono fun v w' ⟨hd,L',h',S',hW'⟩=>⟨.inr ⟨j,hmi,?_⟩,?_⟩
    · simp[Array.getD_eq_getD_getElem?,hs,his]
    · refine zFA D r _ _ L' h' hrt hc' hW' fuel _ w' ?_ S' (by simpa using hs) (by omega)
      cases hdst:(ops.getD j default).dst with
      |none=>exact E
      |some d=>exact E.put (hd d hdst)
  |(_,.q)::_,_,_,_,_,ht,_,_,_,_,_,_,_,_,_=>by simp at ht
  |(_,.a)::_,_,_,_,_,ht,_,_,_,_,_,_,_,_,_=>by simp at ht
  |(_,.c)::_,_,_,_,_,ht,_,_,_,_,_,_,_,_,_=>by simp at ht
  |(_,.b _)::_,_,_,_,_,ht,_,_,_,_,_,_,_,_,_=>by simp at ht
  |(_,.p)::_,_,_,_,_,ht,_,_,_,_,_,_,_,_,_=>by simp at ht
  |(_,.d _ _)::_,_,_,_,_,ht,_,_,_,_,_,_,_,_,_=>by simp at ht
theorem pQ(hal:jK P n ops al)(hca:sW ops al=true){base:Array Bool}{pend:List Nat}{e:List (Nat×Value)}{L:List Res}{h:Mem}{k:Nat}{K:List (Nat×Value)→List Res→Mem→Prop}(hkm:k<m)(hkp:k ∉ pend)(hr:Region.ready .any ops (setAll base pend)=[k])
    (hK:∀e L h,K e L h→iA P n w0 h0 ops Q R al m (base.setIfInBounds k true) pend e L h)(hW:qT P n w0 h0 ops R (ops.getD k default) e L h K):iA P n w0 h0 ops Q R al m base pend e L h:=by
  refine bA hal hca [k] (by simp) hr ?_ (fun _=>K) ?_ ?_
  · intro l hl
    obtain rfl:l=k:=by simpa using hl
    exact⟨hkm,hkp⟩
  · intro l hl
    obtain rfl:l=k:=by simpa using hl
    exact hW
  · intro l hl e' L' h' hk
    obtain rfl:l=k:=by simpa using hl
    exact hK e' L' h' hk
theorem j4(hal:jK P n ops al)(hca:sW ops al=true){base:Array Bool}{pend:List Nat}{e:List (Nat×Value)}{L:List Res}{h:Mem}{k l:Nat}{K K':List (Nat×Value)→List Res→Mem→Prop}(hkm:k<m)(hkp:k ∉ pend)(hlm:l<m)(hlp:l ∉ pend)(hkl:k≠l)(hr:Region.ready .any ops (setAll base pend)=[k,l])
    (hK:∀e L h,K e L h→iA P n w0 h0 ops Q R al m (base.setIfInBounds k true) pend e L h)(hK':∀e L h,K' e L h→iA P n w0 h0 ops Q R al m (base.setIfInBounds l true) pend e L h)
    (hW:qT P n w0 h0 ops R (ops.getD k default) e L h K)(hW':qT P n w0 h0 ops R (ops.getD l default) e L h K'):iA P n w0 h0 ops Q R al m base pend e L h:=by
  refine bA hal hca [k,l] (by simp) hr ?_ (fun x=>if x=k then K else K') ?_ ?_
  · intro x hx
    rcases List.mem_cons.1 hx with rfl|hx
    · exact⟨hkm,hkp⟩
    · obtain rfl:x=l:=by simpa using hx
      exact⟨hlm,hlp⟩
  · intro x hx
    rcases List.mem_cons.1 hx with rfl|hx
    · simp only[if_true];exact hW
    · obtain rfl:x=l:=by simpa using hx
      simp only[if_neg (Ne.symm hkl)];exact hW'
  · intro x hx e' L' h' hk
    rcases List.mem_cons.1 hx with rfl|hx
    · simp only[if_true] at hk;exact hK e' L' h' hk
    · obtain rfl:x=l:=by simpa using hx
      simp only[if_neg (Ne.symm hkl)] at hk;exact hK' e' L' h' hk
theorem zZD(hal:jK P n ops al)(hca:sW ops al=true){pend:List Nat}{KW:List (Nat×Value)→List Res→Mem→Prop}{KB:Array Bool→Bool}
    (fin:∀base e L h,KB base=true→(∀k,m≤k→base.getD k false=false)→KW e L h→iA P n w0 h0 ops Q R al m base pend e L h):∀(k:Nat) (A B:List Nat) (base:Array Bool) (e:List (Nat×Value)) (L:List Res) (h:Mem),
    zBN ops m pend KB k A B base=true→(∀k,m≤k→base.getD k false=false)→WM P n w0 h0 ops R KW k A B e L h→iA P n w0 h0 ops Q R al m base pend e L h:=by
  have nx:∀(base:Array Bool) (i:Nat),i<m→(∀k,m≤k→base.getD k false=false)→∀k,m≤k→(base.setIfInBounds i true).getD k false=false:=fun base i hi hb k hk=>by
    rw[getD_set_ne false (by omega)];exact hb k hk
  intro k
  induction k with
  |zero=>
   intro A B base e L h hc hb hw
   cases A<;>cases B
   · exact fin base e L h (by simpa[zBN] using hc) hb (by simpa[WM] using hw)
   all_goals (simp[zBN] at hc)
  |succ k ih=>
   intro A B base e L h hc hb hw
   cases A with
   |nil=>
    cases B with
    |nil=>exact fin base e L h (by simpa[zBN] using hc) hb (by simpa[WM] using hw)
    |cons j B=>
     simp only[zBN,Bool.and_eq_true,beq_iff_eq,decide_eq_true_eq,Bool.not_eq_true',List.contains_eq_mem,decide_eq_false_iff_not] at hc
     obtain⟨⟨⟨m1,p1⟩,r1⟩,hc'⟩:=hc
     exact pQ hal hca m1 p1 r1 (fun e L h hw'=>ih [] B _ e L h hc' (nx base j m1 hb) hw') (by simpa only[WM] using hw)
   |cons i A=>
    cases B with
    |nil=>
     simp only[zBN,Bool.and_eq_true,beq_iff_eq,decide_eq_true_eq,Bool.not_eq_true',List.contains_eq_mem,decide_eq_false_iff_not] at hc
     obtain⟨⟨⟨m1,p1⟩,r1⟩,hc'⟩:=hc
     exact pQ hal hca m1 p1 r1 (fun e L h hw'=>ih A [] _ e L h hc' (nx base i m1 hb) hw') (by simpa only[WM] using hw)
    |cons j B=>
     simp only[zBN,Bool.and_eq_true,beq_iff_eq,decide_eq_true_eq,Bool.not_eq_true',List.contains_eq_mem,decide_eq_false_iff_not] at hc
     obtain⟨⟨⟨⟨⟨⟨m1,p1⟩,⟨m2,p2⟩⟩,n12⟩,r1⟩,hc1⟩,hc2⟩:=hc
     simp only[WM] at hw
     exact j4 hal hca m1 p1 m2 p2 n12 r1 (fun e L h hw'=>ih A (j::B) _ e L h hc1 (nx base i m1 hb) hw') (fun e L h hw'=>ih (i::A) B _ e L h hc2 (nx base j m2 hb) hw') hw.1 hw.2
theorem zWZ{base listed:Array Bool}{e:List (Nat×Value)}{L:List Res}{h:Mem}{X:List (Nat×Nat)}{a:Act}{w:World}(I:Inv P n w0 h0 ops R al base [] e L h X listed a w):X=[]:=by
  cases X with
  |nil=>rfl
  |cons p X=>exact absurd (I.xp p (by simp)).1 (by simp)
theorem zQG(hal:jK P n ops al)(hca:sW ops al=true){i:Nat}(r:List (Nat×Kd))(base:Array Bool)(pend:List Nat)(e:List (Nat×Value))(L:List Res)(h:Mem)
  (IH:∀(base:Array Bool) (pend:List Nat) (e:List (Nat×Value)) (L:List Res) (h:Mem),chk ops m r base pend=true→(∀k,m≤k→base.getD k false=false)→(∀i∈pend,i<m)→W P n w0 h0 ops Q R al r e L h→iA P n w0 h0 ops Q R al m base pend e L h)
  (hc':chk ops m r (base.setIfInBounds i true) (pend.filter (· != i))=true)(hip:i∈pend)(hnl:∀k,m≤k→base.getD k false=false)(hpm:∀i∈pend,i<m)(hW:W P n w0 h0 ops Q R al ((i,.a)::r) e L h)
    (fuel:Nat)(X:List (Nat×Nat))(listed:Array Bool)(a:Act)(w:World)(I:Inv P n w0 h0 ops R al base pend e L h X listed a w)(hrem:rem ops listed≤fuel)(hiX:i∈X.map (·.1)):RA P ops (Cls m (Dw w0 h0 R h)) (fun a w=>Q .normal a w) fuel listed a w:=by
  obtain⟨p,hp,hpi⟩:=List.mem_map.1 hiX
  obtain⟨X1,X2,rfl⟩:=List.append_of_mem hp
  obtain⟨_,y,hy,hty⟩:=I.xp p hp
  subst hpi
  have hnd:=I.nd
  simp only[List.map_append,List.map_cons] at hnd
  rw[List.nodup_append] at hnd
  obtain⟨n1,n2,n3⟩:=hnd
  rw[List.nodup_cons] at n2
  have hnot:∀q∈X1++X2,q.1≠p.1:=by
    intro q hq he
    rcases List.mem_append.1 hq with hq|hq
    · exact n3 q.1 (List.mem_map_of_mem hq) p.1 (by simp) he
    · exact n2.1 (he▸List.mem_map_of_mem hq)
  have e1:nK al (X1++p::X2)=nK al X1++.blk p.2 (.cells y.2.2.toArray y.2.1)::nK al X2:=by
    simp only[nK,List.map_append,List.map_cons,hy]
  have e2:nK al (X1++X2)=nK al X1++nK al X2:=by simp[nK]
  have hgo:∀(L2:List Res) (h2:Mem),MLe h h2→(∀r∈R,r∈L2)→St w0 h0 (L2++nK al (X1++X2)) h2 w→W P n w0 h0 ops Q R al r ((y.1,zG3 (ops.getD p.1 default).op p.2)::e) L2 h2→
      RA P ops (Cls m (Dw w0 h0 R h)) (fun a w=>Q .normal a w) fuel listed a w:=by
   intro L2 h2 hh2 hR2 S2 hW2
   refine RA.mono (fun l w hc=>hc.imp (Dw.mono hh2) id) (IH (base.setIfInBounds p.1 true) (pend.filter (· != p.1)) ((y.1,zG3 (ops.getD p.1 default).op p.2)::e) L2 h2 hc' (fun k hk=>by
    have:=hpm _ hip
    rw[getD_set_ne false (by omega)];exact hnl k hk) (fun j hj=>hpm j (List.mem_filter.1 hj).1) hW2 fuel (X1++X2) listed a w ?_ hrem)
   refine⟨⟨I.env.defers,I.env.size,fun t v ht=>?_⟩,S2,hR2,⟨by simpa using I.rel.1,?_⟩,?_,?_,?_,?_,I.cl⟩
   · simp only[List.lookup_cons] at ht
     by_cases htd:t=y.1
     · subst htd
       simp at ht hty
       rw[←ht];exact hty
     · have:(t==y.1)=false:=by simpa using htd
       rw[this] at ht
       exact I.env.get t v ht
   · rw[I.rel.2]
     apply Array.ext_getElem?
     intro k
     rw[tA,tA,Array.size_setIfInBounds,Array.getElem?_setIfInBounds]
     by_cases hk:k<base.size
     · by_cases hkp:p.1=k
       · subst hkp;simp[hk]
       · simp only[List.map_append,List.map_cons,List.mem_append,List.mem_cons,hk,hkp,Ne.symm hkp,false_or,if_false,and_true]
     · simp[hk]
       omega
   · intro q hq
     have hq':q∈X1++p::X2:=by
       rcases List.mem_append.1 hq with h1|h1
       · exact List.mem_append_left _ h1
       · exact List.mem_append_right _ (List.mem_cons_of_mem _ h1)
     obtain⟨h1,h2⟩:=I.xp q hq'
     exact⟨List.mem_filter.2 ⟨h1,by simpa using hnot q hq⟩,h2⟩
   · simp only[List.map_append]
     rw[List.nodup_append]
     exact⟨n1,n2.2,fun x hx y hy=>n3 x hx y (List.mem_cons_of_mem _ hy)⟩
   · intro j hj
     obtain⟨h1,h2⟩:=List.mem_filter.1 hj
     obtain⟨z,hz,hl⟩:=I.pe j h1
     refine⟨z,hz,?_⟩
     simp only[List.lookup_cons]
     have hne:(z.1==y.1)=false:=by
       simp only[beq_eq_false_iff_ne]
       intro he
       obtain⟨_,d2,_,d4,_,_⟩:=sP hca hz
       have hji:j≠p.1:=by simpa using h2
       exact(sP hca hy).2.2.2.2.2 j d2 hji (by rw[d4,he])
     rw[hne];exact hl
   · intro j hj
     obtain⟨h1,h2⟩:=List.mem_filter.1 hj
     have hji:j≠p.1:=by simpa using h2
     rw[getD_set_ne true (Ne.symm hji)]
     exact I.pb j h1
  have hst:=I.st
  rw[e1] at hst
  have hw:=hW y.1 y.2.1 y.2.2 p.2 hy
  cases hs:zOR (ops.getD p.1 default).op with
  |none=>
   rw[hs] at hw
   refine hgo _ h (MLe.refl h) (fun r hr=>List.mem_cons_of_mem _ (I.sub r hr)) (hst.perm ?_) (by unfold zG3;rw[hs];exact hw)
   rw[e2,←List.append_assoc]
   refine List.perm_middle.trans ?_
   simp only[List.cons_append,List.append_assoc]
   exact List.Perm.refl _
  |some len=>
   rw[hs] at hw
   have hm:w.heap[p.2]?=some (.cells y.2.2.toArray y.2.1):=hst.ok (.blk p.2 (.cells y.2.2.toArray y.2.1)) (by simp)
   rw[←List.append_assoc] at hst
   obtain⟨S2,hle⟩:=hst.freeze (b:=p.2) rfl hm
   obtain⟨hl1,hl2⟩:=(hal _ (dF hy)).2.2 len hs
   simp only at hl1
   refine hgo L _ hle I.sub (by rw[e2,←List.append_assoc];exact S2) (by unfold zG3;rw[hs];exact hw _ hle ⟨_,_,rfl,Nat.le_refl _,hl2,by omega,fun j hj=>⟨p.2,0,rfl,by simp[cell]⟩⟩)
theorem zGQ(hsel:Region.noSelect ops=true)(hca:sW ops al=true){pend:List Nat}{i:Nat}{base:Array Bool}{e:List (Nat×Value)}{L:List Res}{h:Mem}{K:List (Nat×Value)→List Res→Mem→Prop}(hpm:∀i∈pend,i<m)(hc:zI8 ops m pend i base=true)(hnl:∀k,m≤k→base.getD k false=false)
    (hW:SQ P n w0 h0 ops R i e L h K)(fin:∀e L h,K e L h→iA P n w0 h0 ops Q R al m (base.setIfInBounds i true) pend e L h):iA P n w0 h0 ops Q R al m base pend e L h:=by
  intro fuel X listed a w I hrem
  simp only[zI8,Bool.and_eq_true,decide_eq_true_eq,Bool.not_eq_true',List.contains_eq_mem,decide_eq_false_iff_not] at hc
  obtain⟨⟨⟨⟨him,hir⟩,hfree⟩,hip⟩,hlast⟩:=hc
  obtain⟨v,⟨⟨d,hd,hdn⟩,hq⟩,hW'⟩:=hW
  have hiX:i ∉ X.map (·.1):=fun hx=>by
    obtain⟨p,hp,rfl⟩:=List.mem_map.1 hx
    exact hip (I.xp p hp).1
  have hir':i∈Region.ready .any ops listed:=by
    have h1:i∈Region.ready .any ops (setAll base []):=by simpa[setAll] using hir
    rw[I.rel.2]
    exact sG I.rel.1 h1 nX hiX
  obtain⟨his,hiun⟩:=lF hir'
  have hp:=zBS his hiun
  have hrem':=aF his hiun
  cases fuel with
  |zero=>omega
  |succ fuel=>
   have hD:Dw w0 h0 R h w:=⟨_,h,MLe.refl h,fun r hr=>List.mem_append_left _ (I.sub r hr),I.st⟩
   refine RA.first (nC his) hsel him ?_ fuel listed a w I.cl (by rw[I.rel.2,aE];exact I.rel.1) hD ?_ ?_ hir' (fun w' ⟨L',h',a1,a2,a3⟩=>hq h' L' a w' a1 a2 I.env a3) ?_
   · intro k hk hks
     have:=List.all_eq_true.1 hlast k (by simpa using hks)
     simp only[Bool.or_eq_true,decide_eq_true_eq] at this
     exact this.resolve_left (by omega)
   · intro k hk
     cases hl:listed.getD k false with
     |false=>rfl
     |true=>
      rcases(I.rel.listed k).1 hl with h1|⟨h1,_⟩
      · rw[hnl k hk] at h1;cases h1
      · obtain⟨p,hp,rfl⟩:=List.mem_map.1 h1
        have:=hpm _ (I.xp p hp).1
        omega
   · intro j oj hoj hji hun hno
     exact Region.free_spec (nC his) hfree j oj hoj hji ((I.rel.unlisted j).1 hun).1 hno
   · refine fin _ L h hW' fuel X _ _ w ?_ (by omega)
     exact I.next hca his hir' hip (fun d' hd'=>by rw[hd] at hd';cases hd';exact hdn) I.sub I.st v
theorem zZC(hsel:Region.noSelect ops=true)(hal:jK P n ops al)(hca:sW ops al=true){pend Qs:List Nat}(hpm:∀i∈pend,i<m){KW:List (Nat×Value)→List Res→Mem→Prop}{KB:Array Bool→Bool}
    (fin:∀base e L h,KB base=true→(∀k,m≤k→base.getD k false=false)→KW e L h→iA P n w0 h0 ops Q R al m base pend e L h):∀(k:Nat) (A B:List Nat) (base:Array Bool) (e:List (Nat×Value)) (L:List Res) (h:Mem),
    nI ops m pend Qs KB k A B base=true→(∀k,m≤k→base.getD k false=false)→WX P n w0 h0 ops R Qs KW k A B e L h→iA P n w0 h0 ops Q R al m base pend e L h:=by
  have nx:∀(base:Array Bool) (i:Nat),i<m→(∀k,m≤k→base.getD k false=false)→∀k,m≤k→(base.setIfInBounds i true).getD k false=false:=fun base i hi hb k hk=>by
    rw[getD_set_ne false (by omega)];exact hb k hk
  have qm:∀{i base},zI8 ops m pend i base=true→i<m:=fun hc=>by
    simp only[zI8,Bool.and_eq_true,decide_eq_true_eq] at hc
    exact hc.1.1.1.1
  intro k
  induction k with
  |zero=>
   intro A B base e L h hc hb hw
   cases A<;>cases B
   · exact fin base e L h (by simpa[nI] using hc) hb (by simpa[WX] using hw)
   all_goals (simp[nI] at hc)
  |succ k ih=>
   intro A B base e L h hc hb hw
   cases A with
   |nil=>
    cases B with
    |nil=>exact fin base e L h (by simpa[nI] using hc) hb (by simpa[WX] using hw)
    |cons j B=>
     cases hq:Qs.contains j with
     |true=>
      simp only[nI,WX,hq,cond_true,Bool.and_eq_true] at hc hw
      exact zGQ hsel hca hpm hc.1 hb hw fun e L h hw'=>ih [] B _ e L h hc.2 (nx base j (qm hc.1) hb) hw'
     |false=>
      simp only[nI,WX,hq,cond_false,Bool.and_eq_true,beq_iff_eq,decide_eq_true_eq,Bool.not_eq_true',List.contains_eq_mem,decide_eq_false_iff_not] at hc hw
      obtain⟨⟨⟨m1,p1⟩,r1⟩,hc'⟩:=hc
      exact pQ hal hca m1 p1 r1 (fun e L h hw'=>ih [] B _ e L h hc' (nx base j m1 hb) hw') hw
   |cons i A=>
    cases B with
    |nil=>
     cases hq:Qs.contains i with
     |true=>
      simp only[nI,WX,hq,cond_true,Bool.and_eq_true] at hc hw
      exact zGQ hsel hca hpm hc.1 hb hw fun e L h hw'=>ih A [] _ e L h hc.2 (nx base i (qm hc.1) hb) hw'
     |false=>
      simp only[nI,WX,hq,cond_false,Bool.and_eq_true,beq_iff_eq,decide_eq_true_eq,Bool.not_eq_true',List.contains_eq_mem,decide_eq_false_iff_not] at hc hw
      obtain⟨⟨⟨m1,p1⟩,r1⟩,hc'⟩:=hc
      exact pQ hal hca m1 p1 r1 (fun e L h hw'=>ih A [] _ e L h hc' (nx base i m1 hb) hw') hw
    |cons j B=>
     cases hq:Qs.contains i with
     |true=>
      simp only[nI,WX,hq,cond_true,Bool.and_eq_true] at hc hw
      exact zGQ hsel hca hpm hc.1 hb hw fun e L h hw'=>ih A (j::B) _ e L h hc.2 (nx base i (qm hc.1) hb) hw'
     |false=>
      cases hq2:Qs.contains j with
      |true=>
       simp only[nI,WX,hq,hq2,cond_true,cond_false,Bool.and_eq_true] at hc hw
       exact zGQ hsel hca hpm hc.1 hb hw fun e L h hw'=>ih (i::A) B _ e L h hc.2 (nx base j (qm hc.1) hb) hw'
      |false=>
       simp only[nI,WX,hq,hq2,cond_false,Bool.and_eq_true,Bool.or_eq_true,beq_iff_eq,decide_eq_true_eq,Bool.not_eq_true',List.contains_eq_mem,decide_eq_false_iff_not] at hc hw
       obtain⟨⟨⟨⟨⟨⟨m1,p1⟩,⟨m2,p2⟩⟩,n12⟩,r1⟩,hc1⟩,hc2⟩:=hc
       rcases r1 with r1|r1
       · exact j4 hal hca m1 p1 m2 p2 n12 r1 (fun e L h hw'=>ih A (j::B) _ e L h hc1 (nx base i m1 hb) hw') (fun e L h hw'=>ih (i::A) B _ e L h hc2 (nx base j m2 hb) hw') hw.1 hw.2
       · exact j4 hal hca m2 p2 m1 p1 (Ne.symm n12) r1 (fun e L h hw'=>ih (i::A) B _ e L h hc2 (nx base j m2 hb) hw') (fun e L h hw'=>ih A (j::B) _ e L h hc1 (nx base i m1 hb) hw') hw.2 hw.1
theorem zDG(hsel:Region.noSelect ops=true)(hal:jK P n ops al)(hca:sW ops al=true):∀(ord:List (Nat×Kd)) (base:Array Bool) (pend:List Nat) (e:List (Nat×Value)) (L:List Res) (h:Mem),chk ops m ord base pend=true→(∀k,m≤k→base.getD k false=false)→(∀i∈pend,i<m)→
    W P n w0 h0 ops Q R al ord e L h→iA P n w0 h0 ops Q R al m base pend e L h
  |[],base,pend,e,L,h,hc,_,_,hW=>by
   intro fuel X listed a w I hrem
   simp only[chk,Bool.and_eq_true,List.isEmpty_iff] at hc
   obtain⟨rfl,hr⟩:=hc
   have hX:=zWZ I;subst hX
   have hl:listed=base:=I.rel.2
   subst hl
   have S:=I.st
   simp only[nK,List.map_nil,List.append_nil] at S
   cases fuel with
   |zero=>exact⟨hr,hW a w I.env S⟩
   |succ fuel=>exact⟨fun _=>hW a w I.env S,fun i hi=>by rw[hr] at hi;cases hi⟩
  |(i,.t)::r,base,pend,e,L,h,hc,_,_,hW=>by
   intro fuel X listed a w I hrem
   have hc0:=hc
   simp only[chk,Bool.and_eq_true,List.isEmpty_iff] at hc
   obtain⟨⟨⟨⟨rfl,hrt⟩,_⟩,_⟩,_⟩:=hc
   have hX:=zWZ I;subst hX
   have hl:listed=base:=I.rel.2
   subst hl
   have S:=I.st
   simp only[nK,List.map_nil,List.append_nil] at S
   exact zFA _ _ _ _ _ _ (by simpa using hrt) hc0 hW fuel a w I.env S I.rel.1 hrem
  |(i,.c)::r,base,pend,e,L,h,hc,hnl,hpm,hW=>by
   simp only[chk,Bool.and_eq_true,beq_iff_eq,decide_eq_true_eq,Bool.not_eq_true',List.contains_eq_mem,decide_eq_false_iff_not] at hc
   obtain⟨⟨⟨him,hip⟩,hr⟩,hc'⟩:=hc
   refine bA hal hca [i] (by simp) hr ?_ (fun _=>W P n w0 h0 ops Q R al r) ?_ ?_
   · intro j hj
     obtain rfl:j=i:=by simpa using hj
     exact⟨him,hip⟩
   · intro j hj
     obtain rfl:j=i:=by simpa using hj
     exact hW
   · intro j hj e' L' h' hW'
     obtain rfl:j=i:=by simpa using hj
     exact zDG hsel hal hca r _ pend e' L' h' hc' (fun k hk=>by rw[getD_set_ne false (by omega)];exact hnl k hk) hpm hW'
  |(i,.b j)::r,base,pend,e,L,h,hc,hnl,hpm,hW=>by
   simp only[chk,Bool.and_eq_true,beq_iff_eq,decide_eq_true_eq,Bool.not_eq_true',List.contains_eq_mem,decide_eq_false_iff_not] at hc
   obtain⟨⟨⟨⟨⟨⟨⟨⟨him,hjm⟩,hip⟩,hjp⟩,hij⟩,hr⟩,hri⟩,hrj⟩,hc'⟩:=hc
   obtain⟨hW1,hW2⟩:=hW
   refine bA hal hca [i,j] (by simp) hr (fun k hk=>?_) (fun k=>if k=i then fun e L h=>qT P n w0 h0 ops R (ops.getD j default) e L h (W P n w0 h0 ops Q R al r) else fun e L h=>qT P n w0 h0 ops R (ops.getD i default) e L h (W P n w0 h0 ops Q R al r)) (fun k hk=>?_) ?_
   · rcases List.mem_cons.1 hk with rfl|hk
     · exact⟨him,hip⟩
     · obtain rfl:k=j:=by simpa using hk
       exact⟨hjm,hjp⟩
   · rcases List.mem_cons.1 hk with rfl|hk
     · simp only[if_true];exact hW1
     · obtain rfl:k=j:=by simpa using hk
       simp only[if_neg (Ne.symm hij)];exact hW2
   · intro k hk e' L' h' hW'
     rcases List.mem_cons.1 hk with rfl|hk
     · simp only[if_true] at hW'
       refine bA hal hca [j] (by simp) hri ?_ (fun _=>W P n w0 h0 ops Q R al r) ?_ ?_
       · intro l hl
         obtain rfl:l=j:=by simpa using hl
         exact⟨hjm,hjp⟩
       · intro l hl
         obtain rfl:l=j:=by simpa using hl
         exact hW'
       intro l hl e2 L2 h2 hW2'
       obtain rfl:l=j:=by simpa using hl
       exact zDG hsel hal hca r _ pend e2 L2 h2 hc' (fun k' hk'=>by rw[getD_set_ne false (by omega),getD_set_ne false (by omega)];exact hnl k' hk') hpm hW2'
     · obtain rfl:k=j:=by simpa using hk
       simp only[if_neg (Ne.symm hij)] at hW'
       refine bA hal hca [i] (by simp) hrj ?_ (fun _=>W P n w0 h0 ops Q R al r) ?_ ?_
       · intro l hl
         obtain rfl:l=i:=by simpa using hl
         exact⟨him,hip⟩
       · intro l hl
         obtain rfl:l=i:=by simpa using hl
         exact hW'
       intro l hl e2 L2 h2 hW2'
       obtain rfl:l=i:=by simpa using hl
       rw[Array.setIfInBounds_comm _ _ hij] at hc'
       exact zDG hsel hal hca r _ pend e2 L2 h2 hc' (fun k' hk'=>by rw[getD_set_ne false (by omega),getD_set_ne false (by omega)];exact hnl k' hk') hpm hW2'
  |(i,.d i2 j)::r,base,pend,e,L,h,hc,hnl,hpm,hW=>by
   simp only[chk,Bool.and_eq_true,beq_iff_eq,decide_eq_true_eq,Bool.not_eq_true',List.contains_eq_mem,decide_eq_false_iff_not] at hc
   obtain⟨⟨⟨⟨⟨⟨⟨⟨⟨⟨⟨⟨m1,m2⟩,m3⟩,p1⟩,p2⟩,p3⟩,⟨⟨n12,n13⟩,n23⟩⟩,r0⟩,ri⟩,rj⟩,rii⟩,rij⟩,hc'⟩:=hc
   have fin:∀e L h,W P n w0 h0 ops Q R al r e L h→iA P n w0 h0 ops Q R al m (((base.setIfInBounds i true).setIfInBounds i2 true).setIfInBounds j true) pend e L h:=fun e L h hw=>
     zDG hsel hal hca r _ pend e L h hc' (fun k hk=>by rw[getD_set_ne false (by omega),getD_set_ne false (by omega),getD_set_ne false (by omega)];exact hnl k hk) hpm hw
   have cm:∀(b:Array Bool) {x y:Nat},x≠y→(b.setIfInBounds x true).setIfInBounds y true=(b.setIfInBounds y true).setIfInBounds x true:=fun b x y hxy=>Array.setIfInBounds_comm _ _ hxy
   obtain⟨hA,hB⟩:=hW
   refine j4 hal hca m1 p1 m3 p3 n13 r0 ?_ ?_ hA hB
   · rintro e L h ⟨h1,h2⟩
     refine j4 hal hca m2 p2 m3 p3 n23 ri ?_ ?_ h1 h2
     · intro e L h h3
       exact pQ hal hca m3 p3 rii fin h3
     · intro e L h h3
       refine pQ hal hca m2 p2 rij ?_ h3
       intro e L h h4
       rw[cm _ (Ne.symm n23)]
       exact fin e L h h4
   · intro e L h h1
     refine pQ hal hca m1 p1 rj ?_ h1
     intro e L h h2
     rw[cm _ (Ne.symm n13)]
     refine pQ hal hca m2 p2 rij ?_ h2
     intro e L h h3
     rw[cm _ (Ne.symm n23)]
     exact fin e L h h3
  |(_,.x Qs A B)::r,base,pend,e,L,h,hc,hnl,hpm,hW=>by
   simp only[chk] at hc
   exact zZC hsel hal hca hpm (KB:=fun base=>chk ops m r base pend) (fun base e L h hk hb hw=>zDG hsel hal hca r base pend e L h hk hb hpm hw) _ A B base e L h hc hnl hW
  |(_,.m A B)::r,base,pend,e,L,h,hc,hnl,hpm,hW=>by
   simp only[chk] at hc
   exact zZD hal hca (KB:=fun base=>chk ops m r base pend) (fun base e L h hk hb hw=>zDG hsel hal hca r base pend e L h hk hb hpm hw) _ A B base e L h hc hnl hW
  |(i,.q)::r,base,pend,e,L,h,hc,hnl,hpm,hW=>by
   intro fuel X listed a w I hrem
   simp only[chk,Bool.and_eq_true,decide_eq_true_eq,Bool.not_eq_true',List.contains_eq_mem,decide_eq_false_iff_not] at hc
   obtain⟨⟨⟨⟨⟨him,hir⟩,hfree⟩,hip⟩,hlast⟩,hc'⟩:=hc
   obtain⟨v,⟨⟨d,hd,hdn⟩,hq⟩,hW'⟩:=hW
   have hiX:i ∉ X.map (·.1):=fun hx=>by
     obtain⟨p,hp,rfl⟩:=List.mem_map.1 hx
     exact hip (I.xp p hp).1
   have hir':i∈Region.ready .any ops listed:=by
     have h1:i∈Region.ready .any ops (setAll base []):=by simpa[setAll] using hir
     rw[I.rel.2]
     exact sG I.rel.1 h1 nX hiX
   obtain⟨his,hiun⟩:=lF hir'
   have hp:=zBS his hiun
   have hrem':=aF his hiun
   cases fuel with
   |zero=>omega
   |succ fuel=>
    have hD:Dw w0 h0 R h w:=⟨_,h,MLe.refl h,fun r hr=>List.mem_append_left _ (I.sub r hr),I.st⟩
    refine RA.first (nC his) hsel him ?_ fuel listed a w I.cl (by rw[I.rel.2,aE];exact I.rel.1) hD ?_ ?_ hir' (fun w' ⟨L',h',a1,a2,a3⟩=>hq h' L' a w' a1 a2 I.env a3) ?_
    · intro k hk hks
      have:=List.all_eq_true.1 hlast k (by simpa using hks)
      simp only[Bool.or_eq_true,decide_eq_true_eq] at this
      exact this.resolve_left (by omega)
    · intro k hk
      cases hl:listed.getD k false with
      |false=>rfl
      |true=>
       rcases(I.rel.listed k).1 hl with h1|⟨h1,_⟩
       · rw[hnl k hk] at h1;cases h1
       · obtain⟨p,hp,rfl⟩:=List.mem_map.1 h1
         have:=hpm _ (I.xp p hp).1
         omega
    · intro j oj hoj hji hun hno
      exact Region.free_spec (nC his) hfree j oj hoj hji ((I.rel.unlisted j).1 hun).1 hno
    · refine zDG hsel hal hca r _ pend _ L h hc' (fun k hk=>by rw[getD_set_ne false (by omega)];exact hnl k hk) hpm hW' fuel X _ _ w ?_ (by omega)
      exact I.next hca his hir' hip (fun d' hd'=>by rw[hd] at hd';cases hd';exact hdn) I.sub I.st v
  |(i,.p)::r,base,pend,e,L,h,hc,hnl,hpm,hW=>by
   intro fuel X listed a w I hrem
   simp only[chk,Bool.and_eq_true,decide_eq_true_eq,Bool.not_eq_true',List.contains_eq_mem,decide_eq_false_iff_not] at hc
   obtain⟨⟨⟨⟨him,hir⟩,hfree⟩,hip⟩,hc'⟩:=hc
   obtain⟨v,⟨⟨d,hd,hdn⟩,hq⟩,hW'⟩:=hW
   have hiX:i ∉ X.map (·.1):=fun hx=>by
     obtain⟨p,hp,rfl⟩:=List.mem_map.1 hx
     exact hip (I.xp p hp).1
   have hir':i∈Region.ready .any ops listed:=by
     have h1:i∈Region.ready .any ops (setAll base []):=by simpa[setAll] using hir
     rw[I.rel.2]
     exact sG I.rel.1 h1 nX hiX
   obtain⟨his,hiun⟩:=lF hir'
   have hp:=zBS his hiun
   have hrem':=aF his hiun
   cases fuel with
   |zero=>omega
   |succ fuel=>
    have hD:Dw w0 h0 R h w:=⟨_,h,MLe.refl h,fun r hr=>List.mem_append_left _ (I.sub r hr),I.st⟩
    refine RA.pure (nC his) hsel him fuel listed a w (.inl hD) ?_ hir' (fun w'=>hq a w' I.env) ?_
    · intro j oj hoj hji hun hno
      exact Region.free_spec (nC his) hfree j oj hoj hji ((I.rel.unlisted j).1 hun).1 hno
    · refine zDG hsel hal hca r _ pend _ L h hc' (fun k hk=>by rw[getD_set_ne false (by omega)];exact hnl k hk) hpm hW' fuel X _ _ w ?_ (by omega)
      exact I.next hca his hir' hip (fun d' hd'=>by rw[hd] at hd';cases hd';exact hdn) I.sub I.st v
  |(i,.a)::r,base,pend,e,L,h,hc,hnl,hpm,hW=>by
   simp only[chk,Bool.and_eq_true,beq_iff_eq,List.contains_eq_mem,decide_eq_true_eq] at hc
   obtain⟨⟨hip,hr⟩,hc'⟩:=hc
   intro fuel
   induction fuel with
   |zero=>
    intro X listed a w I hrem
    by_cases hiX:i∈X.map (·.1)
    · exact zQG hal hca r base pend e L h (fun b p e L h=>zDG hsel hal hca r b p e L h) hc' hip hnl hpm hW 0 X listed a w I hrem hiX
    · exfalso
      have:=pJ hca I hip hiX
      rw[lE (by omega)] at this
      cases this
   |succ fuel ih=>
    intro X listed a w I hrem
    by_cases hiX:i∈X.map (·.1)
    · exact zQG hal hca r base pend e L h (fun b p e L h=>zDG hsel hal hca r b p e L h) hc' hip hnl hpm hW _ X listed a w I hrem hiX
    · have hir:=pJ hca I hip hiX
      refine⟨fun hnil=>absurd hir (by rw[hnil];simp),fun j hj o hoj=>?_⟩
      obtain⟨hjs,hjun⟩:=lF hj
      have hjo:o=ops.getD j default:=by rw[nC hjs] at hoj;exact(Option.some.inj hoj).symm
      subst hjo
      have hrem':=aF hjs hjun
      have hjp:j∈pend:=by
        refine Classical.byContradiction fun hjp=>?_
        have h1:j∈Region.ready .any ops (setAll base (pend.filter (· != i))):=by
          rw[I.rel.2] at hj
          refine sG I.rel.1 hj (fun p hp=>?_) (fun hc=>hjp (List.mem_filter.1 hc).1)
          obtain⟨q,hq,rfl⟩:=List.mem_map.1 hp
          refine List.mem_filter.2 ⟨(I.xp q hq).1,?_⟩
          simp only[bne_iff_ne]
          exact fun he=>hiX (he▸List.mem_map_of_mem hq)
        rw[hr] at h1
        obtain rfl:j=i:=by simpa using h1
        exact hjp hip
      have hjX:=((I.rel.unlisted j).1 hjun).2
      exact(zWP hal hca I hjp hjX).mono fun v w' ⟨hD,b,I'⟩=>⟨.inl hD,ih _ _ _ _ I' (by omega)⟩
theorem kE{id:Nat}{l:List Oper}{e:List (Nat×Value)}{L:List Res}{h:Mem}(m:Nat)(R:List Res)(al:Als)(ord:List (Nat×Kd))(hm:P.follows .mixedOrders=true)(hal:jK P n l.toArray al)
    (hchk:(Region.noSelect l.toArray&&sW l.toArray al&&(al.all fun x=>decide (x.1<m))&&chk l.toArray m ord (Array.replicate l.length false) (al.map (·.1)))=true)(hae:∀x∈al,al.lookup x.1=some x.2∧e.lookup x.2.1=none)
    (hR:∀r∈R,r∈L)(k:W P n w0 h0 l.toArray Q R al ord e L h):GC P n w0 h0 (.region id l.toArray true) Q e L h:=by
  intro a w E S
  simp only[Bool.and_eq_true] at hchk
  obtain⟨⟨⟨h1,h2⟩,h3⟩,h4⟩:=hchk
  have hpm:∀i∈al.map (·.1),i<m:=by
    intro i hi
    obtain⟨x,hx,rfl⟩:=List.mem_map.1 hi
    simpa using List.all_eq_true.1 h3 x hx
  have hg:=zDG (Q:=Q) (R:=R) (m:=m) h1 hal h2 ord (Array.replicate l.length false) (al.map (·.1)) e L h h4 (fun k _=>by simp[Array.getD_eq_getD_getElem?,Array.getElem?_replicate];split<;>rfl) hpm k
  refine wp_region_any hm (RA.wpAny (fun _ _ hq=>hq) (hg _ [] _ a _ ⟨⟨E.defers,E.size,E.get⟩,?_,hR,⟨by simp,by simp[setAll]⟩,(fun p hp=>by cases hp),by simp,?_,?_,?_⟩ ?_))
  · simp only[nK,List.map_nil,List.append_nil]
    exact⟨S.below.drew,S.le,S.sub,S.fresh,S.ok,S.own,S.apart⟩
  · intro i hi
    obtain⟨x,hx,rfl⟩:=List.mem_map.1 hi
    exact⟨x.2,(hae x hx).1,(hae x hx).2⟩
  · intro i hi
    obtain⟨x,hx,rfl⟩:=List.mem_map.1 hi
    have:=(sP h2 (hae x hx).1).2.1
    simp at this
    simp[Array.getD_eq_getD_getElem?,this]
  · intro k o hk
    simp[Array.getD_eq_getD_getElem?,Array.getElem?_replicate] at hk
    split at hk<;>simp at hk
  · unfold rem
    refine Nat.le_trans (List.length_filter_le _ _) ?_
    simp
end sound
end Bk
namespace Bk
set_option linter.unusedVariables false
set_option linter.unusedSimpArgs false
open Go Go.RowKit
section
variable {P:Program}{n:Nat}{w0:World}{h0:Mem}{ops:Array Oper}{Q:Exit→Act→World→Prop}{R:List Res}{al:Als}{e:List (Nat×Value)}{L:List Res}{h:Mem}{r:List (Nat×Kd)}{i:Nat}
variable {d:Nat}{op:Op}{ty:TypeId}{ps:String}{af:Array Edge}{g t:Nat}{b c:Bool}{v:Value}
theorem wn{o:Oper}{y:Nat→Option Bool}(hg:o.guard=none):Region.wanted o y=true:=by
  unfold Region.wanted;rw[hg]
theorem rM(k:GQ n w0 h0 Q .normal e L h):W P n w0 h0 ops Q R al [] e L h:=k
theorem w_q(ho:ops.getD i default=⟨some d,op,ty,ps,af,none⟩)(hv:∀h' L',MLe h h'→(∀r∈R,r∈L')→OpV P n w0 h0 ⟨some d,op,ty,ps,af,none⟩ e L' h' v)(hn:Nat.ble (d+1) n=true)
    (k:W P n w0 h0 ops Q R al r ((d,v)::e) L h):W P n w0 h0 ops Q R al ((i,.q)::r) e L h:=by
  refine⟨v,?_,?_⟩
  · rw[ho]
    exact⟨⟨d,rfl,Nat.le_of_ble_eq_true hn⟩,fun h' L' a w hh hR E S=>.inl ⟨rfl,hv h' L' hh hR a w E S⟩⟩
  · rw[ho];exact k
theorem xJ(ho:ops.getD i default=⟨some d,op,ty,ps,af,none⟩)(hv:∀h' L',OpV P n w0 h0 ⟨some d,op,ty,ps,af,none⟩ e L' h' v)(hn:Nat.ble (d+1) n=true)
    (k:W P n w0 h0 ops Q R al r ((d,v)::e) L h):W P n w0 h0 ops Q R al ((i,.q)::r) e L h:=w_q ho (fun h' L' _ _=>hv h' L') hn k
theorem qA{x:Operand}(ho:ops.getD i default=⟨some d,.move x,ty,ps,af,none⟩)(hx:zJ e x=some v)(hn:Nat.ble (d+1) n=true)
    (k:W P n w0 h0 ops Q R al r ((d,v)::e) L h):W P n w0 h0 ops Q R al ((i,.q)::r) e L h:=w_q ho (fun _ _ _ _=>yW hx) hn k
theorem zDZ{x:Operand}(ho:ops.getD i default=⟨some d,.assign x,ty,ps,af,none⟩)(hx:zJ e x=some v)(hn:Nat.ble (d+1) n=true)
    (k:W P n w0 h0 ops Q R al r ((d,v)::e) L h):W P n w0 h0 ops Q R al ((i,.q)::r) e L h:=w_q ho (fun _ _ _ _=>tH hx) hn k
theorem eD{g t:Nat}{b c:Bool}{o:Oper}{a:Act}(hg:o.guard=some (g,b))(ht:(ops[g]?).bind (·.dst)=some t)(he:e.lookup t=some (.bool c))(E:Env n e a):Region.wanted o (yielded ops a.tmps)=(c==b):=by
  have:=E.get t _ he
  simp[Region.wanted,hg,yielded,ht,this]
theorem yM(ho:ops.getD i default=⟨some d,op,ty,ps,af,some (g,b)⟩)(ht:(ops[g]?).bind (·.dst)=some t)(he:e.lookup t=some (.bool b))(hv:∀h' L',MLe h h'→(∀r∈R,r∈L')→OpV P n w0 h0 ⟨some d,op,ty,ps,af,some (g,b)⟩ e L' h' v)
    (hn:Nat.ble (d+1) n=true)(k:W P n w0 h0 ops Q R al r ((d,v)::e) L h):W P n w0 h0 ops Q R al ((i,.q)::r) e L h:=by
  refine⟨v,?_,?_⟩
  · rw[ho]
    exact⟨⟨d,rfl,Nat.le_of_ble_eq_true hn⟩,fun h' L' a w hh hR E S=>.inl ⟨by rw[eD rfl ht he E];simp,hv h' L' hh hR a w E S⟩⟩
  · rw[ho];exact k
theorem zPF{b:Bool}{t:Nat}(ho:ops.getD i default=⟨some d,op,ty,ps,af,some (g,b)⟩)(ht:(ops[g]?).bind (·.dst)=some t)(he:e.lookup t=some undef)(hn:Nat.ble (d+1) n=true)
    (k:W P n w0 h0 ops Q R al r ((d,undef)::e) L h):W P n w0 h0 ops Q R al ((i,.q)::r) e L h:=by
  refine⟨undef,?_,?_⟩
  · rw[ho]
    refine⟨⟨d,rfl,Nat.le_of_ble_eq_true hn⟩,fun h' L' a w hh hR E S=>.inr ⟨?_,rfl⟩⟩
    have:=E.get t _ he
    simp[Region.wanted,yielded,ht,this,undef]
  · rw[ho];exact k
theorem wZ(ho:ops.getD i default=⟨some d,op,ty,ps,af,some (g,b)⟩)(ht:(ops[g]?).bind (·.dst)=some t)(he:e.lookup t=some (.bool c))(hcb:(c==b)=false)(hn:Nat.ble (d+1) n=true)
    (k:W P n w0 h0 ops Q R al r ((d,undef)::e) L h):W P n w0 h0 ops Q R al ((i,.q)::r) e L h:=by
  refine⟨undef,?_,?_⟩
  · rw[ho]
    exact⟨⟨d,rfl,Nat.le_of_ble_eq_true hn⟩,fun h' L' a w hh hR E S=>.inr ⟨by rw[eD rfl ht he E,hcb],rfl⟩⟩
  · rw[ho];exact k
theorem w_a{E E':TypeId}{cs:List Value}(hop:(ops.getD i default).op=.alloc E')(hl:al.lookup i=some (d,E,cs))(k:∀b,W P n w0 h0 ops Q R al r ((d,.pointer (some ⟨b,0,none⟩))::e) (.blk b (.cells cs.toArray E)::L) h):W P n w0 h0 ops Q R al ((i,.a)::r) e L h:=by
  intro d' E' cs' b hl'
  rw[hl] at hl'
  cases hl'
  rw[hop]
  exact k b
theorem w_xx{Qs A B:List Nat}{N:Nat}(hN:A.length+B.length=N)(k:WX P n w0 h0 ops R Qs (W P n w0 h0 ops Q R al r) N A B e L h):W P n w0 h0 ops Q R al ((i,.x Qs A B)::r) e L h:=by
  subst hN
  exact k
section wx
variable {K:List (Nat×Value)→List Res→Mem→Prop}{N i j:Nat}{A B Qs:List Nat}{o o':Oper}
theorem zDY(k:K e L h):WX P n w0 h0 ops R Qs K N [] [] e L h:=by
  cases N<;>exact k
theorem fD(hq:Qs.contains i=true)(k:SQ P n w0 h0 ops R i e L h (WX P n w0 h0 ops R Qs K N A B)):WX P n w0 h0 ops R Qs K (N+1) (i::A) B e L h:=by
  cases B<;>simp only[WX,hq,cond_true]<;>exact k
theorem zDX(hi:Qs.contains i=false)(ho:ops.getD i default=o)(k:qT P n w0 h0 ops R o e L h (WX P n w0 h0 ops R Qs K N A [])):WX P n w0 h0 ops R Qs K (N+1) (i::A) [] e L h:=by
  subst ho;simp only[WX,hi,cond_false];exact k
theorem zPC(hi:Qs.contains j=false)(ho:ops.getD j default=o)(k:qT P n w0 h0 ops R o e L h (WX P n w0 h0 ops R Qs K N [] B)):WX P n w0 h0 ops R Qs K (N+1) [] (j::B) e L h:=by
  subst ho;simp only[WX,hi,cond_false];exact k
theorem zFN(hi:Qs.contains i=false)(hj:Qs.contains j=false)(ho:ops.getD i default=o)(ho':ops.getD j default=o')(k:qT P n w0 h0 ops R o e L h (WX P n w0 h0 ops R Qs K N A (j::B)))
    (k':qT P n w0 h0 ops R o' e L h (WX P n w0 h0 ops R Qs K N (i::A) B)):WX P n w0 h0 ops R Qs K (N+1) (i::A) (j::B) e L h:=by
  subst ho;subst ho';simp only[WX,hi,hj,cond_false];exact⟨k,k'⟩
variable {d:Nat}{op:Op}{v:Value}
theorem x_q(ho:ops.getD i default=⟨some d,op,ty,ps,af,none⟩)(hv:∀h' L',MLe h h'→(∀r∈R,r∈L')→OpV P n w0 h0 ⟨some d,op,ty,ps,af,none⟩ e L' h' v)(hn:Nat.ble (d+1) n=true)
    (k:K ((d,v)::e) L h):SQ P n w0 h0 ops R i e L h K:=by
  refine⟨v,?_,?_⟩
  · rw[ho]
    exact⟨⟨d,rfl,Nat.le_of_ble_eq_true hn⟩,fun h' L' a w hh hR E S=>.inl ⟨rfl,hv h' L' hh hR a w E S⟩⟩
  · rw[ho];exact k
theorem bZ(ho:ops.getD i default=⟨some d,op,ty,ps,af,none⟩)(hv:∀h' L',OpV P n w0 h0 ⟨some d,op,ty,ps,af,none⟩ e L' h' v)(hn:Nat.ble (d+1) n=true)
    (k:K ((d,v)::e) L h):SQ P n w0 h0 ops R i e L h K:=x_q ho (fun h' L' _ _=>hv h' L') hn k
end wx
theorem w_c{o:Oper}(ho:ops.getD i default=o)(k:qT P n w0 h0 ops R o e L h (W P n w0 h0 ops Q R al r)):W P n w0 h0 ops Q R al ((i,.c)::r) e L h:=by
  show qT P n w0 h0 ops R (ops.getD i default) e L h _
  rw[ho];exact k
theorem w_b{o o':Oper}{j:Nat}(ho:ops.getD i default=o)(ho':ops.getD j default=o')(k:qT P n w0 h0 ops R o e L h fun e L h=>qT P n w0 h0 ops R o' e L h (W P n w0 h0 ops Q R al r))
    (k':qT P n w0 h0 ops R o' e L h fun e L h=>qT P n w0 h0 ops R o e L h (W P n w0 h0 ops Q R al r)):W P n w0 h0 ops Q R al ((i,.b j)::r) e L h:=by
  refine⟨?_,?_⟩
  · rw[ho,ho'];exact k
  · rw[ho,ho'];exact k'
theorem rK{W':List (Nat×Value)→List Res→Mem→Prop}{ds:Option Tmp}(ht:(ops[g]?).bind (·.dst)=some t)(he:e.lookup t=some (.bool b))(k:qT P n w0 h0 ops R ⟨ds,op,ty,ps,af,none⟩ e L h W'):
    qT P n w0 h0 ops R ⟨ds,op,ty,ps,af,some (g,b)⟩ e L h W':=by
  intro X a w E S
  have hk:=k X a w E S
  unfold uQ at *
  rw[if_pos (wn rfl)] at hk
  rw[if_pos (by rw[eD rfl ht he E];simp)]
  exact hk
theorem y9{W':List (Nat×Value)→List Res→Mem→Prop}(ht:(ops[g]?).bind (·.dst)=some t)(he:e.lookup t=some (.bool c))(hcb:(c==b)=false)(hn:Nat.ble (d+1) n=true)(k:W' ((d,undef)::e) L h):
    qT P n w0 h0 ops R ⟨some d,op,ty,ps,af,some (g,b)⟩ e L h W':=by
  intro X a w E S
  unfold uQ
  rw[if_neg (by rw[eD rfl ht he E,hcb];simp)]
  exact⟨fun d' hd=>by cases hd;exact Nat.le_of_ble_eq_true hn,L,h,MLe.refl _,fun hr=>hr,S,k⟩
theorem zX1{W':List (Nat×Value)→List Res→Mem→Prop}{f:Nat}{xs:List Operand}{ts:Array TypeId}{vs:List Value}{R':Mem→Value→Prop}(hcall:∀args w,(callFunc f args).run P w=.ok (.enter f args) w)(hvs:rO e xs vs)
    (hc:∀w,MLe h (mem w)→Calls P f vs.toArray w (Ret w h R'))(hn:Nat.ble (d+1) n=true)(k:∀v h',MLe h h'→R' h' v→W' ((d,v)::e) L h'):
    qT P n w0 h0 ops R ⟨some d,.call {callee:=.value (.func f),args:=xs.toArray,argTypes:=ts},ty,ps,af,none⟩ e L h W':=by
  intro X a w E S
  unfold uQ
  rw[if_pos (wn rfl)]
  have hargs:xs.toArray.map a.eval=vs.toArray:=by rw[List.map_toArray,E.evals hvs]
  have hr:(execOp a.eval ⟨some d,.call {callee:=.value (.func f),args:=xs.toArray,argTypes:=ts},ty,ps,af,none⟩).run P w=.ok (.enter f vs.toArray) w:=by
    simp only[execOp,resolve,Act.eval]
    simp[Deferred.ofValue,invoke,hcall,hargs]
  rw[hr]
  refine(hc w S.sub).mono ?_
  rintro e' w' ⟨v,h',rfl,hR,S'⟩
  have S2:=S.call S'
  exact⟨v,rfl,fun d' hd=>(by cases hd;exact Nat.le_of_ble_eq_true hn),L,h',S'.le,fun hh=>hh,S2,k v h' S'.le hR⟩
theorem rS{W':List (Nat×Value)→List Res→Mem→Prop}{f:Nat}{xs:List Operand}{ts:Array TypeId}{vs:List Value}{R':Mem→Value→List Res→Prop}(hcall:∀args w,(callFunc f args).run P w=.ok (.enter f args) w)(hvs:rO e xs vs)
    (hc:∀w,MLe h (mem w)→Calls P f vs.toArray w (sQ w h R'))(hn:Nat.ble (d+1) n=true)(k:∀v h' L',MLe h h'→R' h' v L'→W' ((d,v)::e) (L'++L) h'):
    qT P n w0 h0 ops R ⟨some d,.call {callee:=.value (.func f),args:=xs.toArray,argTypes:=ts},ty,ps,af,none⟩ e L h W':=by
  intro X a w E S
  unfold uQ
  rw[if_pos (wn rfl)]
  have hargs:xs.toArray.map a.eval=vs.toArray:=by rw[List.map_toArray,E.evals hvs]
  have hr:(execOp a.eval ⟨some d,.call {callee:=.value (.func f),args:=xs.toArray,argTypes:=ts},ty,ps,af,none⟩).run P w=.ok (.enter f vs.toArray) w:=by
    simp only[execOp,resolve,Act.eval]
    simp[Deferred.ofValue,invoke,hcall,hargs]
  rw[hr]
  refine(hc w S.sub).mono ?_
  rintro e' w' ⟨v,h',L',rfl,hR,S'⟩
  have S2:=S.call S'
  rw[←List.append_assoc] at S2
  exact⟨v,rfl,fun d' hd=>(by cases hd;exact Nat.le_of_ble_eq_true hn),L'++L,h',S'.le,fun hh r hr=>List.mem_append_right _ (hh r hr),S2,k v h' L' S'.le hR⟩
theorem kU{W':List (Nat×Value)→List Res→Mem→Prop}{G:Value→Res→Prop}(hv:∀X,aO P n w0 h0 ⟨some d,op,ty,ps,af,none⟩ e (L++X) h G)(hn:Nat.ble (d+1) n=true)(k:∀v r,G v r→W' ((d,v)::e) (r::L) h):
    qT P n w0 h0 ops R ⟨some d,op,ty,ps,af,none⟩ e L h W':=by
  intro X a w E S
  unfold uQ
  rw[if_pos (wn rfl)]
  obtain⟨v,w',r,hr,hgr,hok,hfp,hG⟩:=hv X a w E S
  rw[hr]
  exact⟨fun d' hd=>(by cases hd;exact Nat.le_of_ble_eq_true hn),r::L,h,MLe.refl h,fun hh x hx=>List.mem_cons_of_mem _ (hh x hx),S.new hgr hok hfp,k v r hG⟩
theorem zP4{W':List (Nat×Value)→List Res→Mem→Prop}(hv:∀X,OpV P n w0 h0 ⟨some d,op,ty,ps,af,none⟩ e (L++X) h v)(hn:Nat.ble (d+1) n=true)(k:W' ((d,v)::e) L h):
    qT P n w0 h0 ops R ⟨some d,op,ty,ps,af,none⟩ e L h W':=by
  intro X a w E S
  unfold uQ
  rw[if_pos (wn rfl),hv X a w E S]
  exact⟨fun d' hd=>(by cases hd;exact Nat.le_of_ble_eq_true hn),L,h,MLe.refl h,fun hh=>hh,S,k⟩
theorem dR(ho:ops.getD i default=⟨some d,op,ty,ps,af,none⟩)(hv:OpV P n w0 h0 ⟨some d,op,ty,ps,af,none⟩ e L h v)(hn:Nat.ble (d+1) n=true)(k:W P n w0 h0 ops Q R al r ((d,v)::e) L h):W P n w0 h0 ops Q R al ((i,.t)::r) e L h:=by
  show zZ8 P n w0 h0 ops (ops.getD i default) e L h _
  rw[ho]
  intro a w E S
  unfold uQ
  rw[if_pos (wn rfl),hv a w E S]
  exact⟨fun d' hd=>(by cases hd;exact Nat.le_of_ble_eq_true hn),L,h,S,k⟩
theorem kV{A B:List Res}{q q':Res}(ho:ops.getD i default=⟨none,op,ty,ps,af,none⟩)(hv:Upd P n w0 h0 ⟨none,op,ty,ps,af,none⟩ e A q B h q')(hfp:q'.fp=q.fp)(k:W P n w0 h0 ops Q R al r e (A++q'::B) h):
    W P n w0 h0 ops Q R al ((i,.t)::r) e (A++q::B) h:=by
  show zZ8 P n w0 h0 ops (ops.getD i default) e _ h _
  rw[ho]
  intro a w E S
  unfold uQ
  obtain⟨w',hr,hgr,hok⟩:=hv a w E S
  rw[if_pos (wn rfl),hr]
  exact⟨fun d' hd=>(by cases hd),_,h,S.grown hgr hok fun b hb=>.inl (hfp▸hb),k⟩
theorem qP{k:IntKind}{E:Nat}{xs:List Nat}{v:Value}{t E':TypeId}{x y:Operand}{q:Int}{ds:Option Tmp}{gd:Option (Nat×Bool)}(hm:.us E k v xs∈L)(i:Nat)(ht:P.underlying t=some (.slice E'))(hsz:∀w,(Go.sizeOf E').run P w=.ok 1 w)(hx:zJ e x=some v)(hy:zJ e y=some (vI q))
    (hq:q=(i:Int))(hi:i<xs.length):OpV P n w0 h0 ⟨ds,.indexAddr t x y,ty,ps,af,gd⟩ e L h (zK 1 v i):=by
  obtain⟨A,B,rfl⟩:=List.append_of_mem hm
  exact yP i ht hsz hx hy hq hi
theorem kK{k:IntKind}{E:Nat}{xs:List Nat}{v:Value}{t:TypeId}{x:Operand}{i:Nat}{ds:Option Tmp}{gd:Option (Nat×Bool)}(hm:.us E k v xs∈L)(ha:∀w,(isAgg t).run P w=.ok false w)(hx:zJ e x=some (zK 1 v i))(hi:i<xs.length):
    OpV P n w0 h0 ⟨ds,.load t x,ty,ps,af,gd⟩ e L h (vU k (xs.getD i 0)):=by
  obtain⟨A,B,rfl⟩:=List.append_of_mem hm
  exact kL ha hx hi
end
end Bk
namespace Bk
set_option linter.unusedVariables false
set_option linter.unusedSimpArgs false
open Go Go.RowKit
section
variable {P:Program}{n:Nat}{w0:World}{h0:Mem}{e:List (Nat×Value)}{L:List Res}{h:Mem}{Q:Exit→Act→World→Prop}
variable {ds:Option Tmp}{ty:TypeId}{ps:String}{af:Array Edge}{gd:Option (Nat×Bool)}
def zBE(P:Program)(n:Nat)(w0:World)(h0:Mem)(o:Oper)(e:List (Nat×Value))(A:List Res)(r:Res)(B:List Res)(h:Mem)(G:Value→Res→Prop):Prop:=
  ∀a w,Env n e a→St w0 h0 (A++r::B) h w→∃v w' r',(execOp a.eval o).run P w=.ok (.value v) w'∧w.grownBy w' r.fp∧r'.ok w0.heap.size w'∧(∀b,r'.fp=some b→r.fp=some b∨w.heap.size≤b)∧G v r'
theorem xS{ops:Array Oper}{rest:List Oper}{o:Oper}{d:Nat}{A B:List Res}{r:Res}{G:Value→Res→Prop}(hv:zBE P n w0 h0 o e A r B h G)(hg:o.guard=none)(hd:o.dst=some d)(hn:Nat.ble (d+1) n=true)
    (k:∀v r',G v r'→GL P n w0 h0 ops Q rest ((d,v)::e) (A++r'::B) h):GL P n w0 h0 ops Q (o::rest) e (A++r::B) h:=by
  intro a w Ev S
  refine wpList_plain hg fun K hK=>?_
  obtain⟨v,w',r',hr,hgr,hok,hfp,hG⟩:=hv a w Ev S
  unfold Oper.wp
  rw[hr,Oper.upon_value,hd]
  exact hK _ _ (k v r' hG _ _ (Ev.put (Nat.le_of_ble_eq_true hn)) (S.grown hgr hok hfp))
theorem gv{ops:Array Oper}{rest:List Oper}{d:Nat}{op:Op}{v:Value}(hv:OpV P n w0 h0 ⟨some d,op,ty,ps,af,none⟩ e L h v)(hn:Nat.ble (d+1) n=true)(k:GL P n w0 h0 ops Q rest ((d,v)::e) L h):GL P n w0 h0 ops Q (⟨some d,op,ty,ps,af,none⟩::rest) e L h:=
  mF hv rfl rfl hn k
theorem mv{ops:Array Oper}{rest:List Oper}{d:Nat}{x:Operand}{v:Value}(hx:zJ e x=some v)(hn:Nat.ble (d+1) n=true)(k:GL P n w0 h0 ops Q rest ((d,v)::e) L h):GL P n w0 h0 ops Q (⟨some d,.move x,ty,ps,af,none⟩::rest) e L h:=
  mF (yW hx) rfl rfl hn k
theorem asg{ops:Array Oper}{rest:List Oper}{d:Nat}{x:Operand}{v:Value}(hx:zJ e x=some v)(hn:Nat.ble (d+1) n=true)(k:GL P n w0 h0 ops Q rest ((d,v)::e) L h):GL P n w0 h0 ops Q (⟨some d,.assign x,ty,ps,af,none⟩::rest) e L h:=
  mF (tH hx) rfl rfl hn k
theorem zCG{A B:List Res}{t E:TypeId}{i:TypeInfo}{z:Value}{k bytes m m':Nat}{v v':Value}{cs cs':List Value}{x y:Operand}(ht:P.underlying t=some (.slice E))(hi:P.info? E=some i)(hz:i.zero=some z)(hsize:i.size=k)(hby:i.bytes=bytes)
    (hzs:z.cells.size=k)(hk:0<k)(hx:zJ e x=some v)(hy:zJ e y=some v')(hv':Sl h k v' m' cs')(hone:∀u∈cs',u.oneCell'=true)(hlen:m+m'<9223372036854775808)(hb':(m+m')*bytes≤140737488355328):
    zBE P n w0 h0 ⟨ds,.call {callee:=.builtin .append,args:=#[x,y],argTypes:=#[t,t]},ty,ps,af,gd⟩ e A (.gs E k v m cs) B h (fun u r'=>r'=.gs E k u (m+m') (cs++cs')):=by
  intro a w Ev S
  have hown:w.ownsRow w0.heap.size E k v m cs:=S.ok (.gs E k v m cs) (by simp)
  obtain⟨ad,cap,rfl,h1,h2,h3,h4⟩:=hv'
  have hex:∀u w',(Builtin.append_ #[t,t] ty #[v,.slice ad m' cap]).run P w=.ok u w'→(execOp a.eval ⟨ds,.call {callee:=.builtin .append,args:=#[x,y],argTypes:=#[t,t]},ty,ps,af,gd⟩).run P w=.ok (.value u) w':=by
    intro u w' hr
    simp[execOp,resolve,invoke,builtin,Ev.eval hx,Ev.eval hy,hr]
  by_cases hnil:ad=none
  · subst hnil
    have hc:cs'=[]:=by
      cases cs' with
      |nil=>rfl
      |cons c cs'=>obtain⟨b,o,hb,_⟩:=h4 0 (by simp);cases hb
    subst hc
    have hm:m'=0:=by
      rcases Nat.eq_zero_or_pos m' with h5|h5
      · exact h5
      · have:=Nat.mul_pos h5 hk
        simp only[lN] at h3
        omega
    subst hm
    refine⟨v,w,.gs E k v (m+0) (cs++[]),hex _ _ ?_,⟨rfl,rfl,rfl,Nat.le_refl _,fun _ _ _=>rfl⟩,by simp only[Nat.add_zero,List.append_nil];exact hown,fun b hb=>.inl hb,rfl⟩
    have hfl:(Builtin.firstCells k 0 (.slice none 0 cap)).run P w=.ok #[] w:=by simp[Builtin.firstCells]
    rcases hown.2 with⟨rfl,rfl⟩|⟨g,cp,cur,rfl,_,_,hnc,_⟩
    · simp[Builtin.append_,run_underlying ht,Go.sizeOf,typeInfo,hi,Builtin.lenOf,Builtin.firstCells]
    · simp[Builtin.append_,run_underlying ht,Go.sizeOf,typeInfo,hi,Builtin.lenOf,Builtin.firstCells,hnc,storeCells]
  · obtain⟨p,rfl⟩:=Option.ne_none_iff_exists'.1 hnil
    have hcell:∀j u,cs'[j]?=some u→w.cell? (p.add j)=some u:=by
      intro j u hu
      obtain⟨hj,_⟩:=List.getElem?_eq_some_iff.1 hu
      obtain⟨b,o,hp,hc⟩:=h4 j hj
      cases hp
      rw[hu] at hc
      rw[qY]
      exact bV S.sub hc
    obtain⟨u,w',hr,ho,hgr,hiff⟩:=run_append_own (P:=P) w w0.heap.size t ty E i z k bytes ht hi hz hsize hby hzs hk v m cs hown p m' cap cs' h3 hcell hone (by unfold maxLen;omega) hb' S.below.size
    refine⟨u,w',.gs E k u (m+m') (cs++cs'),hex _ _ hr,hgr,ho,fun b hb=>?_,rfl⟩
    simp only[Res.fp] at hb ⊢
    by_cases hv:v.ownBlock=some b
    · exact .inl hv
    · right
      rcases Nat.lt_or_ge b w.heap.size with hlt|hge
      · exfalso
        have key:v.ownBlock=some b∨b=w.heap.size:=by
          have hown':=hown
          rcases hown'.2 with⟨rfl,rfl⟩|⟨g,cp,cur,rfl,hbg,hg,hnc,hcm,hcs,htake⟩
          · by_cases hm0:m'=0
            · subst hm0
              have:(Builtin.append_ #[t,t] ty #[.slice none 0 0,.slice (some p) 0 cap]).run P w=.ok (.slice none 0 0) w:=by
                simp[Builtin.append_,run_underlying ht,Go.sizeOf,typeInfo,hi,Builtin.lenOf,Builtin.firstCells,loadCells,loadCellsFrom]
              rw[this] at hr
              cases hr
              simp[Value.ownBlock] at hb
            · have h6:=run_append_nil (P:=P) w t ty E i z ht hi hz p m' cap cs' (by rw[hsize];exact h3) hcell (by omega) (by omega) (by rw[hby];simp only[Nat.zero_add] at hb';omega)
              rw[h6] at hr
              cases hr
              simp only[Value.ownBlock,Option.some.injEq] at hb
              exact .inr hb.symm
          · by_cases hroom:m+m'≤cp
            · have h6:=run_append_room (P:=P) w t ty E i ht hi g m cp cur hg p m' cap cs' (by rw[hsize];exact h3) hcell hone hroom (by rw[hsize,h3,hcs,←Nat.add_mul];exact Nat.mul_le_mul_right _ hroom)
              rw[h6] at hr
              cases hr
              exact .inl hb
            · have hcells:∀j u,cs[j]?=some u→w.cell? ((⟨g,0,none⟩:Addr).add j)=some u:=hown.cells (g:=g) rfl
              have h6:=run_append_grow (P:=P) w t ty E i z ht hi hz ⟨g,0,none⟩ m cp cs (by rw[hsize];exact hown.1) hcells p m' cap cs' (by rw[hsize];exact h3) hcell (by omega) (by omega) (growslice_fits (by omega) (by rw[hby];exact hb'))
              rw[h6] at hr
              cases hr
              simp only[Value.ownBlock,Option.some.injEq] at hb
              exact .inr hb.symm
        rcases key with h5|h5
        · exact hv h5
        · omega
      · exact hge
theorem zXB{k:IntKind}{xs:List Nat}:∀u∈Bk.us k xs,u.oneCell'=true:=by
  intro u hu
  obtain⟨x,_,rfl⟩:=List.mem_map.1 hu
  rfl
theorem jF{A B:List Res}{t E:TypeId}{i:TypeInfo}{bytes:Nat}{kd:IntKind}{v v':Value}{xs ys:List Nat}{x y:Operand}(ht:P.underlying t=some (.slice E))(hi:P.info? E=some i)(hz:i.zero=some (.int kd 0))(hsize:i.size=1)(hby:i.bytes=bytes)
    (hx:zJ e x=some v)(hy:zJ e y=some v')(hv':Us kd h v' ys)(hlen:xs.length+ys.length<9223372036854775808)(hb':(xs.length+ys.length)*bytes≤140737488355328):
    zBE P n w0 h0 ⟨ds,.call {callee:=.builtin .append,args:=#[x,y],argTypes:=#[t,t]},ty,ps,af,gd⟩ e A (.us E kd v xs) B h (fun u r'=>r'=.us E kd u (xs++ys)):=by
  intro a w Ev S
  obtain⟨u,w',r',h1,h2,h3,h4,h5⟩:=zCG (A:=A) (B:=B) (v:=v) (cs:=Bk.us kd xs) (m:=xs.length) (ds:=ds) (ty:=ty) (ps:=ps) (af:=af) (gd:=gd) ht hi hz hsize hby rfl (by omega) hx hy hv'.sl zXB hlen hb' a w Ev S
  refine⟨u,w',r',h1,h2,h3,h4,?_⟩
  rw[h5]
  simp[Res.us,Bk.us]
theorem zAI{t E:TypeId}{i:TypeInfo}{z:Value}{parts:Array (Nat×Operand)}{ps':List (Nat×Value)}{m:Nat}{vs:List Value}(ht:P.underlying t=some (.slice E))(hi:P.info? E=some i)(hz:i.zero=some z)(hsize:i.size=1)(hzs:z.cells=#[z])
    (hp:∀a,Env n e a→(parts.map fun(i,x)=>(i,a.eval x)).toList=ps')(hf:Instr.fill (fun i=>some (i*1,1)) (Array.replicate m z) ps'=some vs.toArray)(hl:vs.length=m)(hm:m≤16777216):
    aO P n w0 h0 ⟨ds,.buildSlice t m parts,ty,ps,af,gd⟩ e L h (fun v r=>r=.gs E 1 v m vs):=by
  intro a w Ev S
  have hpa:=hp a Ev
  have hzero:((Array.range (m*1)).map fun j=>z.cells[j%z.cells.size]!)=Array.replicate m z:=by
    rw[hzs,Nat.mul_one]
    apply Array.ext_getElem?
    intro j
    by_cases hj:j<m
    · simp[hj,Nat.mod_one]
    · simp[hj]
  refine⟨.slice (some ⟨w.heap.size,0,none⟩) m m,w.alloc (.cells vs.toArray E),.gs E 1 (.slice (some ⟨w.heap.size,0,none⟩) m m) m vs,?_,World.grownBy_alloc w _ none,?_,fun b hb=>?_,rfl⟩
  · have h24:¬(m>16777216):=by omega
    simp only[execOp,Instr.buildSlice]
    rw[show(parts.map fun(i,x)=>(i,a.eval x)).toList=ps' from hpa]
    by_cases h0:m=0
    · subst h0
      have hvs:vs=[]:=List.eq_nil_of_length_eq_zero hl
      subst hvs
      simp at hf
      simp[run_underlying ht,Go.sizeOf,typeInfo,hi,hsize,newRow,newObj,Sem.run,Array.range_zero',hf]
    · have hz':(zeroValue E).run P w=.ok z w:=by simp[zeroValue,typeInfo,hi,hz]
      have hzero':=hzero
      simp only[Nat.mul_one] at hzero' hf
      simp[run_underlying ht,Go.sizeOf,typeInfo,hi,hsize,newRow,h0,h24,hz',hzero',hf]
  · have:=World.ownsRow_lit (w:=w) (base:=w0.heap.size) (e:=E) (size:=1) vs.toArray m S.below.size (by unfold maxLen;omega) (by simp[hl])
    exact this
  · simp only[Res.fp,Value.ownBlock,Option.some.injEq] at hb
    omega
theorem zC4{t E:TypeId}{i:TypeInfo}{kd:IntKind}(ht:P.underlying t=some (.slice E))(hi:P.info? E=some i)(hz:i.zero=some (.int kd 0))(hsize:i.size=1):
    aO P n w0 h0 ⟨ds,.buildSlice t 0 #[],ty,ps,af,gd⟩ e L h (fun v r=>r=.us E kd v []):=
  zAI (ps':=[]) (vs:=[]) ht hi hz hsize rfl (fun _ _=>by simp) rfl rfl (by omega)
theorem kQ{t E:TypeId}{i:TypeInfo}{kd:IntKind}{x:Operand}{p:Nat}(ht:P.underlying t=some (.slice E))(hi:P.info? E=some i)(hz:i.zero=some (.int kd 0))(hsize:i.size=1)(hx:zJ e x=some (vU kd p)):
    aO P n w0 h0 ⟨ds,.buildSlice t 1 #[(0,x)],ty,ps,af,gd⟩ e L h (fun v r=>r=.us E kd v [p]):=
  zAI (ps':=[(0,vU kd p)]) (vs:=[vU kd p]) ht hi hz hsize rfl (fun a Ev=>by simp[Ev.eval hx]) rfl rfl (by omega)
theorem zC3{t E:TypeId}{i:TypeInfo}{kd:IntKind}{x y:Operand}{p q:Nat}(ht:P.underlying t=some (.slice E))(hi:P.info? E=some i)(hz:i.zero=some (.int kd 0))(hsize:i.size=1)(hx:zJ e x=some (vU kd p))(hy:zJ e y=some (vU kd q)):
    aO P n w0 h0 ⟨ds,.buildSlice t 2 #[(0,x),(1,y)],ty,ps,af,gd⟩ e L h (fun v r=>r=.us E kd v [p,q]):=
  zAI (ps':=[(0,vU kd p),(1,vU kd q)]) (vs:=[vU kd p,vU kd q]) ht hi hz hsize rfl (fun a Ev=>by simp[Ev.eval hx,Ev.eval hy]) rfl rfl (by omega)
def uV(xs:List Nat):ByteArray:=⟨(xs.map UInt8.ofNat).toArray⟩
theorem zF7{v:Value}{xs:List Nat}{s t E:TypeId}{x:Operand}(hs:P.underlying s=some (.slice E))(he:P.underlying E=some (.int .u8))(ht:P.underlying t=some .string)(hx:zJ e x=some v)(hv:Us .u8 h v xs):
    OpV P n w0 h0 ⟨ds,.convert s t x,ty,ps,af,gd⟩ e L h (.string (uV xs)):=by
  intro a w Ev S
  obtain⟨ad,cap,rfl,h1,h2,h3,h4⟩:=hv.sl
  have key:(convert s t (.slice ad xs.length cap)).run P w=.ok (.string (uV xs)) w:=by
    by_cases hnil:ad=none
    · subst hnil
      have hx0:xs=[]:=by
        cases xs with
        |nil=>rfl
        |cons c cs=>obtain⟨b,o,hb,_⟩:=h4 0 (by simp[Bk.us]);cases hb
      subst hx0
      exact run_convert_bytes_nil (P:=P) (w:=w) s E hs he 0 cap t ht
    · obtain⟨p,rfl⟩:=Option.ne_none_iff_exists'.1 hnil
      by_cases hx0:xs=[]
      · subst hx0
        show(convert s t (.slice (some p) 0 cap)).run P w=_
        rw[run_convert_bytes_string w s t E _ 0 cap hs he ht]
        simp[Conv.bytesToString,loadCells,loadCellsFrom,uV]
        rfl
      · have hpos:0<xs.length:=List.length_pos_iff.2 hx0
        obtain⟨b,o,hp,_⟩:=h4 0 (by simpa[Bk.us] using hpos)
        cases hp
        have h6:=run_convert_bytes_arg (P:=P) w s E hs he b o xs.length cap (xs.map fun(x:Nat)=>(x:Int)) (by simp) (fun i hi=>by
          obtain⟨b',o',hp,hc⟩:=h4 i (by simpa[Bk.us] using hi)
          cases hp
          rw[zJM hi] at hc
          have h7:=bV S.sub hc
          rw[h7]
          simp[vU,hi]) t ht
        rw[h6]
        have h8:strOfNums (xs.map fun(x:Nat)=>(x:Int))=uV xs:=by
          simp only[strOfNums,uV,List.map_map]
          congr 2
        rw[h8]
  simp[execOp,Ev.eval hx,key]
theorem Us.str_size{xs:List Nat}:(uV xs).size=xs.length:=by simp[uV,ByteArray.size]
theorem zAS{ops:Array Oper}{l:List Oper}{E:Nat}{k:IntKind}(k':GL P n w0 h0 ops Q l e (.us E k (.slice none 0 0) []::L) h):GL P n w0 h0 ops Q l e L h:=by
  intro a w Ev S
  refine k' a w Ev (S.new (r:=.us E k (.slice none 0 0) []) ⟨rfl,rfl,rfl,Nat.le_refl _,fun _ _ _=>rfl⟩ (World.ownsRow_nil w _ _ _) (fun b hb=>?_))
  simp[Res.us,Res.fp,Value.ownBlock] at hb
theorem Us.nil_of{k:IntKind}{h:Mem}{m cap:Nat}{xs:List Nat}(hv:Us k h (.slice none m cap) xs):xs=[]:=by
  obtain⟨a,c,he,_,_,_,h4⟩:=hv.sl
  cases he
  cases xs with
  |nil=>rfl
  |cons x xs=>obtain⟨b,o,hb,_⟩:=h4 0 (by simp[Bk.us]);cases hb
theorem zF5{s:ByteArray}{t:TypeId}{x y:Operand}{q:Int}(f:Nat→Nat)(i:Nat)(ht:P.underlying t=some .string)(hx:zJ e x=some (.string s))(hy:zJ e y=some (.int .u8 q))(hq:q=(i:Int))(hf:∀j,(hj:j<s.size)→(s.get j hj).toNat=f j)(hi:i<s.size):
    OpV P n w0 h0 ⟨ds,.index t x y,ty,ps,af,gd⟩ e L h (vU .u8 (f i)):=by
  subst hq
  intro a w Ev S
  have h1:s[i]?=some (s.get i hi):=by rw[getElem?_pos s i hi];rfl
  have h2:=hf i hi
  simp[execOp,Ev.eval hx,Ev.eval hy,Instr.index,asIntOf,vU,run_underlying ht,h1,h2]
theorem zHW{ts:Array TypeId}{x y:Operand}{p q:Int}(hx:zJ e x=some (vI p))(hy:zJ e y=some (vI q)):OpV P n w0 h0 ⟨ds,.call {callee:=.builtin .max,args:=#[x,y],argTypes:=ts},ty,ps,af,gd⟩ e L h (vI (max p q)):=by
  intro a w Ev S
  have:(if q>p then q else p)=max p q:=by omega
  simp[execOp,resolve,invoke,builtin,Ev.eval hx,Ev.eval hy,Builtin.max_,Builtin.max2,vI,List.foldlM,this]
theorem zQY{ts:Array TypeId}{x y:Operand}{p q:Int}(hx:zJ e x=some (vI p))(hy:zJ e y=some (vI q)):OpV P n w0 h0 ⟨ds,.call {callee:=.builtin .min,args:=#[x,y],argTypes:=ts},ty,ps,af,gd⟩ e L h (vI (min p q)):=by
  intro a w Ev S
  have:(if q<p then q else p)=min p q:=by omega
  simp[execOp,resolve,invoke,builtin,Ev.eval hx,Ev.eval hy,Builtin.min_,Builtin.min2,vI,List.foldlM,this]
theorem zQX{k:IntKind}{ts:Array TypeId}{x y:Operand}{p q:Nat}(hx:zJ e x=some (vU k p))(hy:zJ e y=some (vU k q)):OpV P n w0 h0 ⟨ds,.call {callee:=.builtin .min,args:=#[x,y],argTypes:=ts},ty,ps,af,gd⟩ e L h (vU k (min p q)):=by
  intro a w Ev S
  have:(if q<p then(q:Int) else(p:Int))=((min p q:Nat):Int):=by split<;>omega
  simp only[execOp,resolve,invoke,builtin]
  simp[Ev.eval hx,Ev.eval hy,Builtin.min_,Builtin.min2,vU,List.foldlM,this]
theorem zOT{ops:Array Oper}{l:List Oper}{A B:List Res}{E:Nat}{k:IntKind}{v:Value}{xs:List Nat}(m:Nat)(hm:m≤xs.length)(k':GL P n w0 h0 ops Q l e (A++.us E k (gJ 1 v 0 m) (xs.take m)::B) h):GL P n w0 h0 ops Q l e (A++.us E k v xs::B) h:=by
  intro a w Ev S
  have hok:=S.ok (.us E k v xs) (by simp)
  refine k' a w Ev (S.grown (r':=.us E k (gJ 1 v 0 m) (xs.take m)) ⟨rfl,rfl,rfl,Nat.le_refl _,fun _ _ _=>rfl⟩ ?_ ?_)
  · obtain⟨hl,hr⟩:=hok
    have hl2:(xs.take m).length=m:=by rw[List.length_take];omega
    refine⟨by simp[Bk.us],?_⟩
    rcases hr with⟨rfl,h0'⟩|⟨g,cap,cur,rfl,hb,hg,hn,hcm,hcs,ht⟩
    · have:m=0:=by omega
      subst this
      exact .inl ⟨rfl,by simp⟩
    · right
      refine⟨g,cap,cur,?_,hb,hg,by omega,hcm,hcs,?_⟩
      · rw[hl2]
        simp only[gJ,Nat.zero_mul,Nat.sub_zero,Option.map_some,qY,Nat.add_zero,ite_self]
      · have h5:Bk.us k (xs.take m)=(Bk.us k xs).take m:=by rw[Bk.us,Bk.us,List.map_take]
        rw[hl2,h5,←ht,List.take_take]
        congr 1
        omega
  · intro b hb
    left
    obtain⟨hl,hr⟩:=hok
    rcases hr with⟨rfl,h0'⟩|⟨g,cap,cur,rfl,_⟩
    · simp[Res.us,Res.fp,gJ,Value.ownBlock] at hb
    · simpa only[Res.us,Res.fp,gJ,Value.ownBlock,Nat.zero_mul,Nat.sub_zero,Option.map_some,qY,Nat.add_zero,ite_self] using hb
theorem St.own_us{A B:List Res}{E:Nat}{k:IntKind}{v:Value}{xs:List Nat}{w:World}(S:St w0 h0 (A++.us E k v xs::B) h w)(hlt:∀x∈xs,x<ub k):Us k (mem w) v xs:=by
  obtain⟨hl,hr⟩:=S.ok (.us E k v xs) (by simp)
  rcases hr with⟨rfl,h0'⟩|⟨g,cap,cur,rfl,hb,hg,hn,hm,hcs,ht⟩
  · have hnil:xs=[]:=List.eq_nil_of_length_eq_zero h0'
    subst hnil
    exact Us.nil _ _
  · refine⟨⟨_,cap,rfl,hn,hm,hl,fun i hi=>⟨g,0,rfl,?_⟩⟩,hlt⟩
    have:(mem w) g=some (.cells cur E):=hg
    unfold cell
    rw[this]
    simp only[Nat.zero_add]
    rw[←ht,List.getElem?_take,if_pos (by simpa[Bk.us] using hi)]
    simp
def byt(s:ByteArray):List Nat:=s.data.toList.map UInt8.toNat
section steps
variable {ops:Array Oper}{R:List Res}{d:Nat}{op:Op}
theorem pG{o:Oper}{A B:List Res}{E:Nat}{k:IntKind}{v:Value}{xs:List Nat}{W':List (Nat×Value)→List Res→Mem→Prop}(hlt:∀x∈xs,x<ub k)(hR:∀r∈R,r∈A++.us E k v xs::B→r∈A++B)
    (k':∀h',MLe h h'→Us k h' v xs→qT P n w0 h0 ops R o e (A++B) h' W'):qT P n w0 h0 ops R o e (A++.us E k v xs::B) h W':=by
  intro X a w Ev S
  have S1:St w0 h0 (A++.us E k v xs::(B++X)) h w:=by simpa using S
  have hok:=S1.ok (.us E k v xs) (by simp)
  obtain⟨hl,hr⟩:=hok
  have fin:∀h',MLe h h'→Us k h' v xs→St w0 h0 (A++(B++X)) h' w→uQ P ops o a w (yBZ n w0 h0 R e (A++.us E k v xs::B) X h o W'):=by
    intro h' hh hu S2
    refine(k' h' hh hu X a w Ev (by simpa using S2)).mono fun u w' ⟨c1,L',h2,c2,c3,c4,c5⟩=>⟨c1,L',h2,hh.trans c2,fun hsub=>c3 fun r hr=>hR r hr (hsub r hr),c4,c5⟩
  rcases hr with⟨rfl,h0'⟩|⟨g,cap,cur,rfl,hb,hg,hn,hm,hcs,ht⟩
  · have hnil:xs=[]:=List.eq_nil_of_length_eq_zero h0'
    subst hnil
    exact fin h (MLe.refl h) (Us.nil _ _) S1.drop
  · obtain⟨S',hle⟩:=S1.freeze (b:=g) (o:=.cells cur E (0,0)) rfl hg
    refine fin _ hle ⟨⟨_,cap,rfl,hn,hm,hl,fun i hi=>⟨g,0,rfl,?_⟩⟩,hlt⟩ S'
    unfold cell
    simp only[if_true,Nat.zero_add]
    rw[←ht,List.getElem?_take,if_pos (by simpa[Bk.us] using hi)]
    simp
theorem sR{A B:List Res}{q:Res}{G:Value→Res→Prop}{W':List (Nat×Value)→List Res→Mem→Prop}(hv:∀X,zBE P n w0 h0 ⟨some d,op,ty,ps,af,none⟩ e A q (B++X) h G)(hn:Nat.ble (d+1) n=true)
    (hR:∀r∈R,∀q',r∈A++q::B→r∈A++q'::B)(k:∀v q',G v q'→W' ((d,v)::e) (A++q'::B) h):qT P n w0 h0 ops R ⟨some d,op,ty,ps,af,none⟩ e (A++q::B) h W':=by
  intro X a w Ev S
  have S1:St w0 h0 (A++q::(B++X)) h w:=by simpa using S
  unfold uQ
  rw[if_pos (wn rfl)]
  obtain⟨v,w',q',hr,hgr,hok,hfp,hG⟩:=hv X a w Ev S1
  rw[hr]
  have S2:=S1.grown hgr hok hfp
  exact⟨fun d' hd=>(by cases hd;exact Nat.le_of_ble_eq_true hn),A++q'::B,h,MLe.refl h,fun hh r hr=>hR r hr q' (hh r hr),by simpa using S2,k v q' hG⟩
end steps
end
end Bk
namespace Go.Proofs.YtboaboflnckgoaaGreat
open Bk Go Tryz
theorem gK:Tryz.prog.info? 3=some Tryz.t3:=by kernel_rfl
theorem zWK:Tryz.prog.info? 4=some Tryz.t4:=by kernel_rfl
theorem zMV:Tryz.prog.info? 5=some Tryz.t5:=by kernel_rfl
theorem yBH:Tryz.prog.info? 9=some Tryz.t9:=by kernel_rfl
theorem zZA:Tryz.prog.info? 22=some Tryz.t22:=by kernel_rfl
theorem yN:Tryz.prog.info? 26=some Tryz.t26:=by kernel_rfl
theorem jT:Tryz.prog.info? 32=some Tryz.t32:=by kernel_rfl
theorem gC:Tryz.prog.info? 34=some Tryz.t34:=by kernel_rfl
theorem zAQ:Tryz.prog.info? 46=some Tryz.t46:=by kernel_rfl
theorem zY9:Tryz.prog.info? 47=some Tryz.t47:=by kernel_rfl
theorem zY8:Tryz.prog.info? 48=some Tryz.t48:=by kernel_rfl
theorem tO:Tryz.prog.info? 50=some Tryz.t50:=by kernel_rfl
theorem yV:Tryz.prog.info? 53=some Tryz.t53:=by kernel_rfl
theorem zY7:Tryz.prog.info? 54=some Tryz.t54:=by kernel_rfl
theorem zY6:Tryz.prog.info? 56=some Tryz.t56:=by kernel_rfl
theorem zGN:Tryz.prog.info? 73=some Tryz.t73:=by kernel_rfl
theorem mE:Tryz.prog.info? 80=some Tryz.t80:=by kernel_rfl
theorem zLL:Tryz.prog.info? 81=some Tryz.t81:=by kernel_rfl
theorem jA:Tryz.prog.info? 83=some Tryz.t83:=by kernel_rfl
theorem zR6:Tryz.prog.info? 97=some Tryz.t97:=by kernel_rfl
theorem rZ:Tryz.prog.info? 108=some Tryz.t108:=by kernel_rfl
theorem rG:Tryz.prog.info? 116=some Tryz.t116:=by kernel_rfl
theorem zGO:Tryz.prog.info? 117=some Tryz.t117:=by kernel_rfl
theorem wK:Tryz.prog.info? 127=some Tryz.t127:=by kernel_rfl
theorem zBZ:Tryz.prog.info? 193=some Tryz.t193:=by kernel_rfl
theorem qV:Tryz.prog.info? 200=some Tryz.t200:=by kernel_rfl
theorem zVH:Tryz.prog.info? 233=some Tryz.t233:=by kernel_rfl
theorem zV4:(Tryz.prog.info? 3).map (·.size)=some 1:=by rw[gK];rfl
theorem zPU:(Tryz.prog.info? 4).map (·.size)=some 1:=by rw[zWK];rfl
theorem yAP:(Tryz.prog.info? 5).map (·.size)=some 1:=by rw[zMV];rfl
theorem yAO:(Tryz.prog.info? 9).map (·.size)=some 1:=by rw[yBH];rfl
theorem zPV:(Tryz.prog.info? 22).map (·.size)=some 1:=by rw[zZA];rfl
theorem zU:(Tryz.prog.info? 26).map (·.size)=some 3:=by rw[yN];rfl
theorem vD{fs:Array Go.Field}(hu:Tryz.prog.underlying 26=some (.struct fs))(w:Go.World):(fs.mapM fun(f:Go.Field)=>do pure (f.offset,←Go.sizeOf f.type)).run Tryz.prog w=.ok #[(0,1),(1,1),(2,1)] w:=by
  rw[underlying26] at hu
  cases hu
  simp[sizeOf4,sizeOf22,sizeOf22]
theorem zXV:(Tryz.prog.info? 32).map (·.size)=some 1:=by rw[jT];rfl
theorem iR:(Tryz.prog.info? 34).map (·.size)=some 6:=by rw[gC];rfl
theorem lH{fs:Array Go.Field}(hu:Tryz.prog.underlying 34=some (.struct fs))(w:Go.World):(fs.mapM fun(f:Go.Field)=>do pure (f.offset,←Go.sizeOf f.type)).run Tryz.prog w=.ok #[(0,3),(3,3)] w:=by
  rw[underlying34] at hu
  cases hu
  simp[sizeOf26,sizeOf26]
theorem zXU:(Tryz.prog.info? 46).map (·.size)=some 1:=by rw[zAQ];rfl
theorem zXT:(Tryz.prog.info? 47).map (·.size)=some 1:=by rw[zY9];rfl
theorem zXS:(Tryz.prog.info? 48).map (·.size)=some 1:=by rw[zY8];rfl
theorem zXR:(Tryz.prog.info? 50).map (·.size)=some 3:=by rw[tO];rfl
theorem bG{fs:Array Go.Field}(hu:Tryz.prog.underlying 50=some (.struct fs))(w:Go.World):(fs.mapM fun(f:Go.Field)=>do pure (f.offset,←Go.sizeOf f.type)).run Tryz.prog w=.ok #[(0,1),(1,1),(2,1)] w:=by
  rw[underlying50] at hu
  cases hu
  simp[sizeOf46,sizeOf47,sizeOf48]
theorem zXQ:(Tryz.prog.info? 53).map (·.size)=some 9:=by rw[yV];rfl
theorem zXP:(Tryz.prog.info? 54).map (·.size)=some 27:=by rw[zY7];rfl
theorem zXO:(Tryz.prog.info? 56).map (·.size)=some 36:=by rw[zY6];rfl
theorem zXN:(Tryz.prog.info? 73).map (·.size)=some 18:=by rw[zGN];rfl
theorem zXM:(Tryz.prog.info? 80).map (·.size)=some 12:=by rw[mE];rfl
theorem bF{fs:Array Go.Field}(hu:Tryz.prog.underlying 80=some (.struct fs))(w:Go.World):(fs.mapM fun(f:Go.Field)=>do pure (f.offset,←Go.sizeOf f.type)).run Tryz.prog w=.ok #[(0,9),(9,3)] w:=by
  rw[underlying80] at hu
  cases hu
  simp[sizeOf53,sizeOf26]
theorem zXL:(Tryz.prog.info? 81).map (·.size)=some 1:=by rw[zLL];rfl
theorem zXK:(Tryz.prog.info? 83).map (·.size)=some 14:=by rw[jA];rfl
theorem lG{fs:Array Go.Field}(hu:Tryz.prog.underlying 83=some (.struct fs))(w:Go.World):(fs.mapM fun(f:Go.Field)=>do pure (f.offset,←Go.sizeOf f.type)).run Tryz.prog w=.ok #[(0,12),(12,1),(13,1)] w:=by
  rw[underlying83] at hu
  cases hu
  simp[sizeOf80,sizeOf81,sizeOf9]
theorem zXJ:(Tryz.prog.info? 97).map (·.size)=some 2:=by rw[zR6];rfl
theorem zQS{fs:Array Go.Field}(hu:Tryz.prog.underlying 97=some (.struct fs))(w:Go.World):(fs.mapM fun(f:Go.Field)=>do pure (f.offset,←Go.sizeOf f.type)).run Tryz.prog w=.ok #[(0,1),(1,1)] w:=by
  rw[underlying97] at hu
  cases hu
  simp[sizeOf32,sizeOf3]
theorem zT2:(Tryz.prog.info? 108).map (·.size)=some 27:=by rw[rZ];rfl
theorem zT1:(Tryz.prog.info? 116).map (·.size)=some 2:=by rw[rG];rfl
theorem zT0:(Tryz.prog.info? 117).map (·.size)=some 12:=by rw[zGO];rfl
theorem zTZ:(Tryz.prog.info? 127).map (·.size)=some 1:=by rw[wK];rfl
theorem zTY:(Tryz.prog.info? 193).map (·.size)=some 5:=by rw[zBZ];rfl
theorem zN0{fs:Array Go.Field}(hu:Tryz.prog.underlying 193=some (.struct fs))(w:Go.World):(fs.mapM fun(f:Go.Field)=>do pure (f.offset,←Go.sizeOf f.type)).run Tryz.prog w=.ok #[(0,1),(1,1),(2,1),(3,1),(4,1)] w:=by
  rw[underlying193] at hu
  cases hu
  simp[sizeOf3,sizeOf3,sizeOf3,sizeOf3,sizeOf3]
theorem zTX:(Tryz.prog.info? 200).map (·.size)=some 5:=by rw[qV];rfl
theorem zAD{fs:Array Go.Field}(hu:Tryz.prog.underlying 200=some (.struct fs))(w:Go.World):(fs.mapM fun(f:Go.Field)=>do pure (f.offset,←Go.sizeOf f.type)).run Tryz.prog w=.ok #[(0,1),(1,1),(2,1),(3,1),(4,1)] w:=by
  rw[underlying200] at hu
  cases hu
  simp[sizeOf58,sizeOf3,sizeOf3,sizeOf3,sizeOf3]
theorem zTG:Tryz.prog.funcs[160]?=some (Tryz.prog.funcs[160]!):=by kernel_rfl
theorem yBY(x y:Nat)(w:World):(callFunc 160 #[vU .u64 x,vU .u64 y,vU .u64 0]).run Tryz.prog w=.ok (.value (.tuple #[vU .u64 ((x+y)%18446744073709551616),vU .u64 ((x+y)/18446744073709551616)])) w:=by
  unfold vU
  rw[run_callFunc_extern zTG (by kernel_rfl) (by kernel_rfl) (by kernel_rfl) (e:=add64Entry) (by kernel_rfl),run_add64 x y (0:Nat) (by omega) (by omega) (by omega) (by omega)]
  simp only[Result.andThen]
  congr 5<;>omega
theorem jN:Tryz.prog.follows .mixedOrders=true:=by kernel_rfl
end Go.Proofs.YtboaboflnckgoaaGreat
namespace Bk
set_option linter.unusedVariables false
set_option linter.unusedSimpArgs false
def val:List Nat→Nat
  |[]=>0
  |x::xs=>x+4294967296*val xs
def zB(n:Nat):List Nat:=if n=0 then[] else n%4294967296::zB (n/4294967296)
termination_by n
decreasing_by omega
def Fit(xs:List Nat):Prop:=∀x∈xs,x<4294967296
theorem yR:zB 0=[]:=by unfold zB;simp
theorem jX{n:Nat}(h:0<n):zB n=n%4294967296::zB (n/4294967296):=by
  rw[zB,if_neg (by omega)]
theorem zC(n:Nat):val (zB n)=n:=by
  induction n using Nat.strongRecOn with
  |_ n ih=>
   by_cases h:n=0
   · subst h;simp[yR,val]
   · rw[jX (by omega),val,ih _ (by omega)];omega
theorem xR(n:Nat):Fit (zB n):=by
  induction n using Nat.strongRecOn with
  |_ n ih=>
   by_cases h:n=0
   · subst h;simp[yR,Fit]
   · rw[jX (by omega)]
     intro x hx
     rcases List.mem_cons.1 hx with rfl|hx
     · omega
     · exact ih _ (by omega) x hx
theorem eU{m n:Nat}(h:zB m=zB n):m=n:=by rw[←zC m,←zC n,h]
theorem tY{x:Nat}{xs:List Nat}:Fit (x::xs)↔x<4294967296∧Fit xs:=by simp[Fit]
theorem gG{xs:List Nat}(h:Fit xs)(k:Nat):Fit (xs.take k):=fun x hx=>h x (List.mem_of_mem_take hx)
theorem nF{xs:List Nat}(h:Fit xs)(k:Nat):Fit (xs.drop k):=fun x hx=>h x (List.mem_of_mem_drop hx)
theorem j0{xs:List Nat}(hf:Fit xs)(hl:xs=[]∨0<xs.getD (xs.length-1) 0):zB (val xs)=xs:=by
  induction xs with
  |nil=>simp[val,yR]
  |cons x xs ih=>
   have hx:=(tY.1 hf).1
   have hxs:=(tY.1 hf).2
   have hpos:0<val (x::xs):=by
     by_cases he:xs=[]
     · subst he
       simp at hl
       simp[val];omega
     · have hne:0<xs.length:=by cases xs with|nil=>exact absurd rfl he|cons _ _=>simp
       have:0<val xs:=by
         have:=ih hxs (.inr (by
           rcases hl with hl|hl
           · simp at hl
           · have e:(x::xs).length-1=(xs.length-1)+1:=by simp;omega
             rw[e] at hl
             simpa using hl))
         cases hv:val xs with
         |zero=>rw[hv,yR] at this;exact absurd this.symm he
         |succ k=>omega
       simp only[val];omega
   rw[jX hpos]
   have e1:val (x::xs)%4294967296=x:=by simp only[val];omega
   have e2:val (x::xs)/4294967296=val xs:=by simp only[val];omega
   rw[e1,e2,ih hxs]
   rcases hl with hl|hl
   · simp at hl
   · by_cases he:xs=[]
     · exact .inl he
     · have hne:0<xs.length:=by cases xs with|nil=>exact absurd rfl he|cons _ _=>simp
       have e:(x::xs).length-1=(xs.length-1)+1:=by simp;omega
       rw[e] at hl
       exact .inr (by simpa using hl)
theorem sE(xs ys:List Nat):val (xs++ys)=val xs+4294967296^xs.length*val ys:=by
  induction xs with
  |nil=>simp[val]
  |cons x xs ih=>simp only[List.cons_append,val,ih,lC,Nat.pow_succ];rw[Nat.mul_add,←Nat.mul_assoc,Nat.mul_comm 4294967296 (4294967296^xs.length)];omega
theorem fI(k:Nat):val (List.replicate k 0)=0:=by
  induction k with
  |zero=>rfl
  |succ k ih=>simp[List.replicate_succ,val,ih]
theorem s5{xs:List Nat}(h:∀x∈xs,x=0):val xs=0:=by
  induction xs with
  |nil=>rfl
  |cons x xs ih=>
   have:=h x (by simp)
   rw[val,ih fun y hy=>h y (by simp[hy])];omega
theorem kY(xs:List Nat)(k:Nat)(hk:k≤xs.length):val xs=val (xs.take k)+4294967296^k*val (xs.drop k):=by
  have:=sE (xs.take k) (xs.drop k)
  rw[List.take_append_drop,List.length_take,Nat.min_eq_left hk] at this
  exact this
theorem jY{xs:List Nat}(h:Fit xs):val xs<4294967296^xs.length:=by
  induction xs with
  |nil=>simp[val]
  |cons x xs ih=>
   have h1:=ih (tY.1 h).2
   have h2:=(tY.1 h).1
   simp only[val,lC,Nat.pow_succ]
   have:4294967296*(val xs+1)≤4294967296*4294967296^xs.length:=Nat.mul_le_mul_left _ h1
   rw[Nat.mul_comm (4294967296^xs.length)]
   omega
theorem fC(xs:List Nat)(k:Nat)(hk:k<xs.length):xs.drop k=xs.getD k 0::xs.drop (k+1):=by
  rw[List.drop_eq_getElem_cons hk]
  simp[hk]
theorem eG(xs:List Nat)(k:Nat)(hk:k<xs.length):xs.take (k+1)=xs.take k++[xs.getD k 0]:=by
  rw[List.take_succ_eq_append_getElem hk]
  simp[hk]
theorem uD(xs:List Nat)(k:Nat)(hk:k<xs.length):val (xs.take (k+1))=val (xs.take k)+4294967296^k*xs.getD k 0:=by
  rw[eG xs k hk,sE,List.length_take,Nat.min_eq_left (by omega)]
  simp[val]
theorem jH(xs:List Nat)(k:Nat)(hk:k<xs.length):val (xs.drop k)=xs.getD k 0+4294967296*val (xs.drop (k+1)):=by
  rw[fC xs k hk,val]
theorem zEG{xs:List Nat}(hf:Fit xs){k:Nat}(hk:k≤xs.length)(hz:∀i,k≤i→xs.getD i 0=0)(ht:k=0∨xs.getD (k-1) 0≠0):xs.take k=zB (val xs):=by
  have h1:val (xs.drop k)=0:=s5 fun x hx=>by
    obtain⟨i,hi,rfl⟩:=List.getElem_of_mem hx
    have:=hz (k+i) (by omega)
    simp only[List.length_drop] at hi
    rw[List.getD_eq_getElem?_getD,List.getElem?_eq_getElem (by omega)] at this
    simpa using this
  have h2:=kY xs k hk
  rw[h1,Nat.mul_zero,Nat.add_zero] at h2
  rw[h2]
  refine(j0 (gG hf k) ?_).symm
  by_cases h0:k=0
  · exact .inl (by simp[h0])
  · right
    rcases ht with ht|ht
    · exact absurd ht h0
    · have hl:(xs.take k).length=k:=by rw[List.length_take];omega
      rw[hl]
      have:(xs.take k).getD (k-1) 0=xs.getD (k-1) 0:=by
        simp only[List.getD_eq_getElem?_getD]
        rw[List.getElem?_take,if_pos (by omega)]
      rw[this];omega
def fM(s:List Nat)(n:Nat):List Nat:=s++List.replicate (n-s.length) 0
theorem vM{s:List Nat}{n:Nat}(h:s.length≤n):(fM s n).length=n:=by simp[fM];omega
theorem pS{s:List Nat}{n:Nat}(h:s.length=n):fM s n=s:=by simp[fM,h]
theorem sM{s:List Nat}{n:Nat}(h:s.length<n)(y:Nat):(fM s n).set s.length y=fM (s++[y]) n:=by
  unfold fM
  rw[List.set_append_right _ _ (Nat.le_refl _),Nat.sub_self,lAz,List.length_singleton]
  have e:n-s.length=(n-(s.length+1))+1:=by omega
  rw[e,List.replicate_succ]
  simp
theorem wY{xs ys:List Nat}(h:Fit xs)(k:Fit ys):Fit (xs++ys):=fun x hx=>(List.mem_append.1 hx).elim (h x) (k x)
theorem cS{x:Nat}(h:x<4294967296):Fit [x]:=fun y hy=>by simp at hy;omega
theorem tP(s:List Nat)(y:Nat):val (s++[y])=val s+4294967296^s.length*y:=by rw[sE];simp[val]
theorem uX{xs:List Nat}(h:Fit xs)(i:Nat):xs.getD i 0<4294967296:=by
  by_cases hi:i<xs.length
  · rw[List.getD_eq_getElem?_getD,List.getElem?_eq_getElem hi];exact h _ (List.getElem_mem hi)
  · rw[List.getD_eq_getElem?_getD,List.getElem?_eq_none (by omega)];decide
theorem tB{xs:List Nat}{i:Nat}(h:xs.length≤i):xs.getD i 0=0:=by rw[List.getD_eq_getElem?_getD,List.getElem?_eq_none h];rfl
theorem vK(xs:List Nat)(k:Nat):val (xs.take (k+1))=val (xs.take k)+4294967296^k*xs.getD k 0:=by
  by_cases hk:k<xs.length
  · exact uD xs k hk
  · rw[tB (by omega),List.take_of_length_le (by omega),List.take_of_length_le (by omega)];omega
theorem xK{xs:List Nat}{k:Nat}(h:xs.length≤k):val (xs.take k)=val xs:=by rw[List.take_of_length_le h]
def tD(m n:Nat):Int:=if m<n then -1 else if m=n then 0 else 1
theorem t6{m n:Nat}(h:m<n):tD m n= -1:=by simp[tD,h]
theorem zM6(m:Nat):tD m m=0:=by simp[tD]
theorem t7{m n:Nat}(h:n<m):tD m n=1:=by
  have h1:¬m<n:=by omega
  have h2:m≠n:=by omega
  simp[tD,h1,h2]
theorem gH{m n:Nat}:tD m n<0↔m<n:=by
  unfold tD;split
  · simp_all
  · split<;>simp_all
theorem zI7{m n:Nat}:0<tD m n↔n<m:=by
  unfold tD;split
  · simp_all;omega
  · split
    · simp_all
    · simp;omega
theorem zAW{m n:Nat}:tD m n=0↔m=n:=by
  unfold tD;split
  · simp;omega
  · split<;>simp_all
theorem zM{m n:Nat}(h:m≤n):(zB m).length≤(zB n).length:=by
  induction n using Nat.strongRecOn generalizing m with
  |_ n ih=>
   by_cases hm:m=0
   · subst hm;simp[yR]
   · rw[jX (by omega),jX (show 0<n by omega)]
     have:=ih (n/4294967296) (by omega) (Nat.div_le_div_right (c:=4294967296) h)
     simp only[lC];omega
theorem sD{m n:Nat}(h:(zB m).length<(zB n).length):m<n:=by
  rcases Nat.lt_or_ge m n with h'|h'
  · exact h'
  · have:=zM h';omega
theorem wR{xs:List Nat}(h:Fit xs):(zB (val xs)).length≤xs.length:=by
  induction xs with
  |nil=>simp[val,yR]
  |cons x xs ih=>
   have h2:=(tY.1 h).1
   by_cases h0:val (x::xs)=0
   · rw[h0,yR];simp
   · rw[jX (by omega)]
     have e:val (x::xs)/4294967296=val xs:=by simp only[val];omega
     rw[e]
     have:=ih (tY.1 h).2
     simp only[lC];omega
theorem vY{n k:Nat}(h:n<4294967296^k):(zB n).length≤k:=by
  induction k generalizing n with
  |zero=>simp at h;subst h;simp[yR]
  |succ k ih=>
   by_cases h0:n=0
   · subst h0;simp[yR]
   · rw[jX (by omega),lC]
     have:=ih (n:=n/4294967296) (by rw[Nat.pow_succ] at h;omega)
     omega
theorem tN{n k:Nat}(h:k<(zB n).length):4294967296^k≤n:=by
  rcases Nat.lt_or_ge n (4294967296^k) with h'|h'
  · have:=vY h';omega
  · exact h'
theorem zBO{A B:List Nat}(hA:Fit A)(hl:A.length=B.length){j:Nat}(h1:1≤j)(hj:j≤A.length)(hd:A.drop j=B.drop j)(hlt:A.getD (j-1) 0<B.getD (j-1) 0):val A<val B:=by
  have sA:=kY A (j-1) (by omega)
  have sB:=kY B (j-1) (by omega)
  rw[jH A (j-1) (by omega)] at sA
  rw[jH B (j-1) (by omega)] at sB
  have e:j-1+1=j:=by omega
  rw[e] at sA sB
  rw[hd] at sA
  have hlow:=jY (gG hA (j-1))
  rw[List.length_take,Nat.min_eq_left (by omega)] at hlow
  have hmul:4294967296^(j-1)*(A.getD (j-1) 0+4294967296*val (B.drop j)+1)≤4294967296^(j-1)*(B.getD (j-1) 0+4294967296*val (B.drop j)):=Nat.mul_le_mul_left _ (by omega)
  rw[Nat.mul_add,Nat.mul_one] at hmul
  omega
def xY(n:Nat):Nat:=if n=0 then 0 else Nat.log2 n+1
theorem zDT:xY 0=0:=rfl
theorem bX{n k:Nat}(h:n<2^k):xY n≤k:=by
  unfold xY
  split
  · omega
  · rename_i h0
    have:=(Nat.log2_lt h0).2 h
    omega
theorem zS4{n k:Nat}(h1:2^k≤n)(h2:n<2^(k+1)):xY n=k+1:=by
  have hpos:0<2^k:=Nat.pow_pos (by omega)
  unfold xY
  rw[if_neg (by omega)]
  have a:=(Nat.log2_lt (n:=n) (k:=k+1) (by omega)).2 h2
  have b:¬Nat.log2 n<k:=fun hc=>by
    have:=(Nat.log2_lt (n:=n) (k:=k) (by omega)).1 hc
    omega
  omega
theorem cR(n:Nat):n<2^xY n:=by
  unfold xY
  split
  · omega
  · rename_i h0
    exact Nat.lt_log2_self
theorem w4{n:Nat}(h:n≠0):2^(xY n-1)≤n:=by
  unfold xY
  rw[if_neg h]
  exact Nat.log2_self_le h
theorem zFK{n:Nat}(h:n≠0):0<xY n:=by unfold xY;rw[if_neg h];omega
theorem iN{n k r:Nat}(h:n≠0)(hr:r<2^k):xY (n*2^k+r)=xY n+k:=by
  have h1:=w4 h
  have h2:=cR n
  have h3:=zFK h
  have e:xY n+k=(xY n-1+k)+1:=by omega
  rw[e]
  refine zS4 ?_ ?_
  · rw[Nat.pow_add]
    have:=Nat.mul_le_mul_right (2^k) h1
    omega
  · have e2:xY n-1+k+1=xY n+k:=by omega
    rw[e2,Nat.pow_add]
    have:(n+1)*2^k≤2^xY n*2^k:=Nat.mul_le_mul_right _ h2
    rw[Nat.add_mul] at this
    omega
theorem zAZ{n k:Nat}(h:2^k≤n):xY n=xY (n/2^k)+k:=by
  have hp:0<2^k:=Nat.pow_pos (by omega)
  have h0:n/2^k≠0:=Nat.ne_of_gt (Nat.div_pos h hp)
  have e:n=n/2^k*2^k+n%2^k:=(Nat.div_add_mod' n (2^k)).symm
  have:=iN h0 (Nat.mod_lt n hp)
  rw[←e] at this
  exact this
theorem zAY{xs:List Nat}(hf:Fit xs){k:Nat}(hk:k+1=xs.length)(ht:xs.getD k 0≠0):xY (val xs)=32*k+xY (xs.getD k 0):=by
  have e:=kY xs k (by omega)
  rw[jH xs k (by omega),List.drop_of_length_le (by omega)] at e
  have h1:=jY (gG hf k)
  rw[List.length_take,Nat.min_eq_left (by omega)] at h1
  have e2:(4294967296:Nat)^k=2^(32*k):=by rw[Nat.pow_mul]
  rw[e2] at e h1
  have:=iN ht h1
  have e3:val xs=xs.getD k 0*2^(32*k)+val (xs.take k):=by
    rw[e];simp[val];rw[Nat.mul_comm];omega
  rw[e3,this];omega
theorem rB{r x:Nat}(hr:r<4294967296)(hx:x<4294967296):r*2^32%18446744073709551616 |||x=r*4294967296+x:=by
  have e:r*2^32%18446744073709551616=2^32*r:=by omega
  rw[e,←Nat.two_pow_add_eq_or_of_lt (by omega)]
  omega
theorem zKK{c x s:Nat}(hc:c<2^s):c |||x*2^s=x*2^s+c:=by
  rw[Nat.or_comm,Nat.mul_comm,←Nat.two_pow_add_eq_or_of_lt hc]
theorem aD{xs:List Nat}{i:Nat}(hi:i<xs.length)(y:Nat):val (xs.set i y)+4294967296^i*xs.getD i 0=val xs+4294967296^i*y:=by
  have e1:=kY xs i (by omega)
  have e2:=kY (xs.set i y) i (by simp;omega)
  rw[jH xs i hi] at e1
  rw[jH (xs.set i y) i (by simpa using hi)] at e2
  have h1:(xs.set i y).take i=xs.take i:=by rw[List.take_set];exact List.set_eq_of_length_le (by rw[List.length_take];omega)
  have h2:(xs.set i y).drop (i+1)=xs.drop (i+1):=by rw[List.drop_set,if_pos (by omega)]
  have h3:(xs.set i y).getD i 0=y:=by simp[hi]
  rw[h1,h2,h3] at e2
  rw[e1,e2]
  grind
theorem aL{xs:List Nat}(h:Fit xs)(i:Nat){y:Nat}(hy:y<4294967296):Fit (xs.set i y):=by
  intro x hx
  rcases List.mem_or_eq_of_mem_set hx with h1|h1
  · exact h x h1
  · omega
theorem iK{xs:List Nat}{i:Nat}(hi:i<xs.length)(y:Nat):(xs.set i y).getD i 0=y:=by simp[hi]
theorem qC{xs:List Nat}{i j:Nat}(h:i≠j)(y:Nat):(xs.set i y).getD j 0=xs.getD j 0:=by
  simp[List.getD_eq_getElem?_getD,List.getElem?_set_ne h]
theorem qD(n:Nat):Fit (List.replicate n 0):=fun x hx=>by rw[List.eq_of_mem_replicate hx];omega
theorem eA(n i:Nat):(List.replicate n 0).getD i 0=0:=by
  rw[List.getD_eq_getElem?_getD,List.getElem?_replicate];split<;>rfl
def kS(j:Nat)(s:List Nat):List Nat:=List.replicate j 0++s
theorem bU(j:Nat):kS j []=List.replicate j 0:=by simp[kS]
theorem pT(s:List Nat):kS 0 s=s:=rfl
theorem qQ(j:Nat)(s:List Nat):(kS j s).length=j+s.length:=by simp[kS]
theorem bT{j:Nat}(h:0<j)(s:List Nat)(y:Nat):(kS j s).set (j-1) y=kS (j-1) (y::s):=by
  obtain⟨k,rfl⟩:∃k,j=k+1:=⟨j-1,by omega⟩
  unfold kS
  rw[Nat.add_sub_cancel,List.replicate_succ',List.append_assoc,List.set_append_right _ _ (by simp)]
  simp
theorem zCA{X Q q r r' x b t:Nat}(h:X=b*Q+r)(ht:t=r*4294967296+x)(hq:q=t/b)(hr:r'=t%b):x+4294967296*X=b*(q+4294967296*Q)+r':=by
  have:t=b*q+r':=by rw[hq,hr];exact(Nat.div_add_mod t b).symm
  grind
theorem tL{n:Nat}(h:0<(zB n).length):(zB n).getD ((zB n).length-1) 0≠0:=by
  induction n using Nat.strongRecOn with
  |_ n ih=>
   by_cases h0:n=0
   · subst h0;simp[yR] at h
   · rw[jX (by omega)]
     by_cases h1:(zB (n/4294967296)).length=0
     · have e:zB (n/4294967296)=[]:=List.eq_nil_of_length_eq_zero h1
       rw[e]
       have:n/4294967296=0:=by rw[←zC (n/4294967296),e];rfl
       simp;omega
     · have:=ih (n/4294967296) (by omega) (by omega)
       have e:(n%4294967296::zB (n/4294967296)).length-1=((zB (n/4294967296)).length-1)+1:=by simp only[lC];omega
       rw[e]
       simpa using this
theorem zB8{xs:List Nat}(h:Fit xs):xs.take (zB (val xs)).length=zB (val xs):=by
  have hl:=wR h
  have e:val (xs.take (zB (val xs)).length)=val xs:=by
    have h1:=kY xs (zB (val xs)).length hl
    have h2:val xs<4294967296^(zB (val xs)).length:=by
      have:=jY (xR (val xs))
      rwa [zC] at this
    have h3:val (xs.drop (zB (val xs)).length)=0:=Classical.byContradiction fun hne=>by
      have:4294967296^(zB (val xs)).length*1≤4294967296^(zB (val xs)).length*val (xs.drop (zB (val xs)).length):=Nat.mul_le_mul_left _ (by omega)
      omega
    rw[h3] at h1
    omega
  have hlen:(xs.take (zB (val xs)).length).length=(zB (val xs)).length:=by rw[List.length_take];omega
  by_cases h0:(zB (val xs)).length=0
  · rw[h0];simp[List.eq_nil_of_length_eq_zero h0]
  · rw[←j0 (gG h _) ?_,e]
    right
    rw[hlen]
    refine Nat.pos_of_ne_zero fun hz=>?_
    have h4:=uD (xs.take (zB (val xs)).length) ((zB (val xs)).length-1) (by omega)
    rw[Nat.sub_add_cancel (by omega),xK (by omega),e,hz,Nat.mul_zero,Nat.add_zero] at h4
    have h5:=jY (gG (gG h (zB (val xs)).length) ((zB (val xs)).length-1))
    rw[←h4,List.length_take,hlen,Nat.min_eq_left (by omega)] at h5
    have h6:=vY h5
    omega
def iM(n:Nat):List Nat:=if n=0 then[] else n%10::iM (n/10)
termination_by n
decreasing_by omega
theorem mI:iM 0=[]:=by unfold iM;simp
theorem zAU{n:Nat}(h:n≠0):iM n=n%10::iM (n/10):=by rw[iM];simp[h]
theorem zO2{n k:Nat}(h:n<10^k):(iM n).length≤k:=by
  induction k generalizing n with
  |zero=>have:n=0:=by omega
         subst this;simp[mI]
  |succ k ih=>
   by_cases h0:n=0
   · subst h0;simp[mI]
   · rw[zAU h0,lC]
     have:=ih (n:=n/10) (by rw[Nat.pow_succ] at h;omega)
     omega
theorem zSL(n:Nat):∀d∈iM n,d<10:=by
  induction n using Nat.strongRecOn with
  |_ n ih=>
   by_cases h0:n=0
   · subst h0;simp[mI]
   · rw[zAU h0]
     intro d hd
     rcases List.mem_cons.1 hd with rfl|hd
     · omega
     · exact ih (n/10) (by omega) d hd
theorem zBM{xs:List Nat}(h:Fit xs):(iM (val xs)).length≤10*xs.length:=by
  refine zO2 (Nat.lt_of_lt_of_le (jY h) ?_)
  rw[Nat.pow_mul]
  exact Nat.pow_le_pow_left (by omega) _
def eY(n:Nat):List Nat:=(iM n).map (48+·)
def txt(n:Nat):List Nat:=if n=0 then[48] else(eY n).reverse
theorem zFI:eY 0=[]:=by simp[eY,mI]
theorem zI9{n:Nat}(h:n≠0):eY n=(48+n%10)::eY (n/10):=by rw[eY,zAU h];rfl
theorem zM9(n:Nat):∀d∈eY n,d<256:=by
  intro d hd
  obtain⟨x,hx,rfl⟩:=List.mem_map.1 hd
  have:=zSL n x hx
  omega
theorem zJA{xs:List Nat}(h:Fit xs):(eY (val xs)).length≤10*xs.length:=by rw[eY,List.length_map];exact zBM h
theorem zO4{x n k:Nat}(h:x≠0∨n≠0):eY (x+10^(k+1)*n)=(48+x%10)::eY (x/10+10^k*n):=by
  have hp:0<10^k:=Nat.pow_pos (by omega)
  have e:10^(k+1)*n=10*(10^k*n):=by rw[Nat.pow_succ,Nat.mul_comm (10^k) 10,Nat.mul_assoc]
  have hne:x+10^(k+1)*n≠0:=by
    rcases h with h|h
    · omega
    · have:=Nat.mul_pos (Nat.pow_pos (n:=k+1) (show 0<10 by omega)) (Nat.pos_of_ne_zero h)
      omega
  rw[zI9 hne,e,show(x+10*(10^k*n))%10=x%10 by omega,show(x+10*(10^k*n))/10=x/10+10^k*n by omega]
theorem yK{n:Nat}:0<(zB n).length↔n≠0:=by
  by_cases h:n=0
  · subst h;simp[yR]
  · rw[jX (by omega)];simp[h]
theorem uH(n:Nat):n<4294967296^(zB n).length:=by
  have:=jY (xR n)
  rwa [zC] at this
theorem yC(m n:Nat):(zB (m*n)).length≤(zB m).length+(zB n).length:=by
  refine vY ?_
  rw[Nat.pow_add]
  rcases Nat.eq_zero_or_pos n with h|h
  · subst h
    rw[Nat.mul_zero]
    exact Nat.mul_pos (Nat.pow_pos (by omega)) (Nat.pow_pos (by omega))
  · exact Nat.lt_of_lt_of_le (Nat.mul_lt_mul_of_pos_right (uH m) h) (Nat.mul_le_mul_left _ (Nat.le_of_lt (uH n)))
theorem uE(m n:Nat):(zB (m+n)).length≤(zB m).length+(zB n).length+1:=by
  refine vY ?_
  have h1:=uH m
  have h2:=uH n
  have h3:(4294967296:Nat)^(zB m).length≤4294967296^((zB m).length+(zB n).length):=Nat.pow_le_pow_right (by decide) (by omega)
  have h4:(4294967296:Nat)^(zB n).length≤4294967296^((zB m).length+(zB n).length):=Nat.pow_le_pow_right (by decide) (by omega)
  rw[Nat.pow_succ]
  omega
theorem kC{n:Nat}(h:n<18446744073709551616):(zB n).length≤2:=vY h
theorem zLU{x:Nat}(h:x≠0):xY x=xY (x/2)+1:=by
  by_cases h2:2≤x
  · exact zAZ (k:=1) h2
  · have:x=1:=by omega
    subst this
    decide
theorem nD(m n:Nat):Nat.gcd n (m%n)=Nat.gcd m n:=by rw[Nat.gcd_comm,←Nat.gcd_rec,Nat.gcd_comm]
theorem aI{n:Nat}(h:(zB n).length≤2):n<18446744073709551616:=Nat.lt_of_lt_of_le (uH n) (Nat.pow_le_pow_right (by decide) h)
theorem zIP{xs:List Nat}(h:Fit xs)(hl:xs.length≤(zB (val xs)).length):zB (val xs)=xs:=by
  have:=zB8 h
  rw[List.take_of_length_le hl] at this
  exact this.symm
theorem j1{n i:Nat}(h:4294967296^i≤n):i<(zB n).length:=by
  refine Classical.byContradiction fun hc=>?_
  have h1:=uH n
  have h2:(4294967296:Nat)^(zB n).length≤4294967296^i:=Nat.pow_le_pow_right (by decide) (by omega)
  omega
end Bk
namespace Bk
set_option linter.unusedVariables false
set_option linter.unusedSimpArgs false
open Go Go.RowKit
section
variable {P:Program}{n:Nat}{w0:World}{h0:Mem}{e:List (Nat×Value)}{L:List Res}{h:Mem}{Q:Exit→Act→World→Prop}
variable {ds:Option Tmp}{ty:TypeId}{ps:String}{af:Array Edge}{gd:Option (Nat×Bool)}
abbrev Res.var(b:Nat)(E:TypeId)(cs:List Value):Res:=.blk b (.cells cs.toArray E)
abbrev vP(b k:Nat):Value:=.pointer (some ⟨b,k,none⟩)
theorem zE8(w:World)(o:Obj):(w.alloc o).heap[w.heap.size]?=some o:=by
  show(w.heap.push o)[w.heap.size]?=some o
  exact Array.getElem?_push_size
theorem xD{E:TypeId}{x:Operand}{v:Value}{cs:List Value}(hx:zJ e x=some v)(hc:v.cells=cs.toArray):
    aO P n w0 h0 ⟨ds,.box E x,ty,ps,af,gd⟩ e L h (fun u r=>∃b,u=vP b 0∧r=.var b E cs):=by
  intro a w Ev S
  refine⟨_,w.alloc (.cells cs.toArray E),.var w.heap.size E cs,?_,World.grownBy_alloc w _ none,?_,fun b hb=>?_,_,rfl,rfl⟩
  · simp[execOp,Ev.eval hx,Instr.box,newVar,newRow,newObj,Sem.run,hc]
  · exact zE8 w _
  · simp only[Res.fp,Option.some.injEq] at hb
    omega
theorem wA{E:TypeId}{i:TypeInfo}{z:Value}{cs:List Value}(hi:P.info? E=some i)(hz:i.zero=some z)(hc:z.cells=cs.toArray):
    aO P n w0 h0 ⟨ds,.alloc E,ty,ps,af,gd⟩ e L h (fun u r=>∃b,u=vP b 0∧r=.var b E cs):=by
  intro a w Ev S
  refine⟨_,w.alloc (.cells cs.toArray E),.var w.heap.size E cs,?_,World.grownBy_alloc w _ none,?_,fun b hb=>?_,_,rfl,rfl⟩
  · have hz':(zeroValue E).run P w=.ok z w:=by simp[zeroValue,typeInfo,hi,hz]
    simp[execOp,Instr.alloc,hz',newVar,newRow,newObj,Sem.run,hc]
  · exact zE8 w _
  · simp only[Res.fp,Option.some.injEq] at hb
    omega
theorem xU{t:TypeId}{x:Operand}{f b k:Nat}{fs:Array Field}{fl:Field}{m:Nat}(ht:P.underlying t=some (.struct fs))(hf:fs[f]?=some fl)(hsz:∀w,(Go.sizeOf fl.type).run P w=.ok (m+1) w)(hx:zJ e x=some (vP b k)):
    OpV P n w0 h0 ⟨ds,.fieldAddr t x f,ty,ps,af,gd⟩ e L h (vP b (k+fl.offset)):=by
  intro a w Ev S
  simp[execOp,Ev.eval hx,Instr.fieldAt,run_underlying ht,hf,Instr.sureAddr,fieldPlace,hsz,qY]
theorem eE{b:Nat}{E:TypeId}{cs:List Value}{w:World}(hw:w.heap[b]?=some (.cells cs.toArray E))(k:Nat)(vs:List Value)(hv:(cs.drop k).take vs.length=vs):w.rangeAt b k vs:=by
  intro j v hj
  have hjl:j<vs.length:=(List.getElem?_eq_some_iff.1 hj).1
  have h1:cs[k+j]?=some v:=by
    rw[←hv,List.getElem?_take,if_pos hjl,List.getElem?_drop] at hj
    exact hj
  unfold World.cell?
  simp[hw,h1]
theorem oL{t:TypeId}{x:Operand}{b k:Nat}{E:TypeId}{cs:List Value}{v:Value}(hm:.var b E cs∈L)(ha:∀w,(isAgg t).run P w=.ok false w)(hx:zJ e x=some (vP b k))(hv:cs[k]?=some v):
    OpV P n w0 h0 ⟨ds,.load t x,ty,ps,af,gd⟩ e L h v:=by
  intro a w Ev S
  have hw:w.heap[b]?=some (.cells cs.toArray E):=S.ok _ hm
  have hc:w.cell? ⟨b,k,none⟩=some v:=by unfold World.cell?;simp[hw,hv]
  simp[execOp,Ev.eval hx,Instr.loadAt,Instr.sureAddr,loadVar,ha,Go.load,Sem.run,hc]
theorem zHY{t:TypeId}{x:Operand}{b k:Nat}{E:TypeId}{cs vs:List Value}{d:TypeDesc}(hm:.var b E cs∈L)(hu:P.underlying t=some d)(hd:d.isRow=true)(hi:(P.info? t).map (·.size)=some vs.length)(hx:zJ e x=some (vP b k))(hv:(cs.drop k).take vs.length=vs):
    OpV P n w0 h0 ⟨ds,.load t x,ty,ps,af,gd⟩ e L h (.agg vs.toArray):=by
  intro a w Ev S
  have hw:w.heap[b]?=some (.cells cs.toArray E):=S.ok _ hm
  simp only[execOp,Ev.eval hx]
  rw[Sem.run_bind,run_loadAt_mid w b k t vs d (eE hw k vs hv) hu hd hi]
  rfl
theorem nO{b:Nat}{E:TypeId}:∀(vs:List Value) (k:Nat) (cs:List Value) (w:World),w.heap[b]?=some (.cells cs.toArray E)→
    (w.setCells b k vs).heap[b]?=some (.cells (vs.zipIdx.foldl (fun c p=>c.set (k+p.2) p.1) cs).toArray E)∧w.grownBy (w.setCells b k vs) (some b)
  |[],k,cs,w,hw=>⟨hw,⟨rfl,rfl,rfl,Nat.le_refl _,fun _ _ _=>rfl⟩⟩
  |v::r,k,cs,w,hw=>by
   have h1:(w.setCell ⟨b,k,none⟩ v).heap[b]?=some (.cells (cs.set k v).toArray E):=by
     simp[World.setCell,Array.getElem?_modify,hw]
   obtain⟨h2,h3⟩:=nO r (k+1) (cs.set k v) _ h1
   have e1:((v::r).zipIdx.foldl (fun c p=>c.set (k+p.2) p.1) cs)=(r.zipIdx.foldl (fun c p=>c.set (k+1+p.2) p.1) (cs.set k v)):=by
     rw[List.zipIdx_cons,List.foldl_cons,Nat.add_zero,List.zipIdx_succ,List.foldl_map]
     congr 1
     funext c p
     rw[show k+(p.2+1)=k+1+p.2 by omega]
   refine⟨?_,?_⟩
   · rw[World.setCells,e1];exact h2
   · have hlt:b<w.heap.size:=(Array.getElem?_eq_some_iff.1 hw).1
     refine⟨?_,?_,?_,?_,?_⟩
     · exact h3.os
     · exact h3.tape
     · exact h3.output
     · have:=h3.size
       simpa[World.setCells,World.setCell] using this
     · intro b' hb' hne
       have h4:=h3.block b' (by simpa[World.setCell] using hb') hne
       rw[World.setCells,h4]
       have:b≠b':=fun hh=>hne (by rw[hh])
       simp[World.setCell,Array.getElem?_modify,this]
def iE(cs:List Value)(k:Nat)(vs:List Value):List Value:=vs.zipIdx.foldl (fun c p=>c.set (k+p.2) p.1) cs
theorem zG{A B:List Res}{E t:TypeId}{b k:Nat}{cs vs:List Value}{v:Value}{x y:Operand}(hx:zJ e x=some (vP b k))(hy:zJ e y=some v)(hv:v.cells=vs.toArray)(h1:vs.all (·.oneCell')=true)
    (hi:(P.info? t).map (·.size)=some vs.length)(hk:k+vs.length≤cs.length):Upd P n w0 h0 ⟨ds,.store t x y,ty,ps,af,gd⟩ e A (.var b E cs) B h (.var b E (iE cs k vs)):=by
  intro a w Ev S
  have hw:w.heap[b]?=some (.cells cs.toArray E):=S.ok (.var b E cs) (by simp)
  obtain⟨h2,h3⟩:=nO vs k cs w hw
  refine⟨w.setCells b k vs,?_,h3,h2⟩
  have hthere:w.there b k vs.length:=by
    intro j hj
    have:k+j<cs.length:=by omega
    refine⟨?_,?_⟩
    · unfold World.cell?
      simp[hw,this]
    · simp[World.frozen?,hw]
  have hrun:=run_storeCells_cells (P:=P) b k vs 0 w (fun j hj=>by simpa using(hthere j hj).1) (fun j hj=>by simpa using(hthere j hj).2) (fun u hu=>List.all_eq_true.1 h1 u hu)
  have hsz:(Go.sizeOf t).run P w=.ok vs.length w:=by
    cases hq:P.info? t with
    |none=>simp[hq] at hi
    |some i=>
     have:i.size=vs.length:=by simpa[hq] using hi
     simp[Go.sizeOf,typeInfo,hq,this]
  simp only[Nat.add_zero] at hrun
  simp[execOp,Ev.eval hx,Ev.eval hy,Instr.storeAt,Instr.sureAddr,storeVar,hsz,hv,hrun]
def mO(e:List (Nat×Value)):List (Nat×Operand)→List (Nat×Value)→Prop
  |[],[]=>True
  |(i,x)::r,(j,v)::s=>i=j∧zJ e x=some v∧mO e r s
  |_,_=>False
theorem mO.eval{a:Act}(Ev:Env n e a):∀{ps:List (Nat×Operand)} {vs:List (Nat×Value)},mO e ps vs→(ps.map fun p=>(p.1,a.eval p.2))=vs
  |[],[],_=>rfl
  |(i,x)::r,(j,v)::s,h=>by
   obtain⟨rfl,h2,h3⟩:=h
   rw[List.map_cons,mO.eval Ev h3,Ev.eval h2]
  |[],_::_,h=>h.elim
  |_::_,[],h=>h.elim
theorem Us.oneCell{k:IntKind}{v:Value}{xs:List Nat}(s:Us k h v xs):v.oneCell'=true:=by
  obtain⟨_,_,rfl⟩:=s.one
  rfl
theorem Us.cells{k:IntKind}{v:Value}{xs:List Nat}(s:Us k h v xs):v.cells=[v].toArray:=by
  obtain⟨_,_,rfl⟩:=s.one
  rfl
theorem oc0:([]:List Value).all (·.oneCell')=true:=rfl
theorem ocu{k:IntKind}{h:Mem}{v:Value}{xs:List Nat}{cs:List Value}(s:Us k h v xs)(r:cs.all (·.oneCell')=true):(v::cs).all (·.oneCell')=true:=by
  rw[List.all_cons,s.oneCell,r];rfl
theorem ocr{v:Value}{cs:List Value}(s:v.oneCell'=true)(r:cs.all (·.oneCell')=true):(v::cs).all (·.oneCell')=true:=by
  rw[List.all_cons,s,r];rfl
theorem zJY:∀(cs B A C:List Value),cs.length=B.length→(cs.zipIdx.foldl (fun(a:Array Value) (p:Value×Nat)=>a.setIfInBounds (A.length+p.2) p.1) (A++B++C).toArray)=(A++cs++C).toArray:=by
  have key:∀(cs B A C:List Value) (k:Nat) (A0:Nat),A.length=A0+k→cs.length=B.length→((cs.zipIdx k).foldl (fun(a:Array Value) (p:Value×Nat)=>a.setIfInBounds (A0+p.2) p.1) (A++B++C).toArray)=(A++cs++C).toArray:=by
    intro cs
    induction cs with
    |nil=>
     intro B A C k A0 hA hB
     have:B=[]:=List.eq_nil_of_length_eq_zero hB.symm
     subst this;rfl
    |cons c cs ih=>
     intro B A C k A0 hA hB
     cases B with
     |nil=>simp at hB
     |cons b B=>
      have e:(A++b::B++C).toArray.setIfInBounds (A0+k) c=((A++[c])++B++C).toArray:=by
        rw[←hA]
        simp[List.set_append]
      rw[List.zipIdx_cons,List.foldl_cons]
      show List.foldl _ ((A++b::B++C).toArray.setIfInBounds (A0+k) c) _=_
      rw[e,ih B (A++[c]) C (k+1) A0 (by simp;omega) (by simpa using hB)]
      simp
  intro cs B A C h
  exact key cs B A C 0 A.length rfl h
theorem yX{place:Nat→Option (Nat×Nat)}{i off size:Nat}{A B C cs:List Value}{v:Value}{rest:List (Nat×Value)}{r:Option (Array Value)}(hp:place i=some (off,size))(hA:A.length=off)(hB:B.length=size)(hs:cs.length=size)(hc:v.cells=cs.toArray)
    (k:Instr.fill place (A++cs++C).toArray rest=r):Instr.fill place (A++B++C).toArray ((i,v)::rest)=r:=by
  subst hA
  have h1:v.cells.size=size:=by rw[hc];simpa using hs
  have h3:(decide (v.cells.size≠size)||decide (A.length+v.cells.size>(A++B++C).toArray.size))=false:=by
    rw[h1];simp;omega
  simp only[Instr.fill,hp]
  rw[h3,if_neg (by decide),hc,←Array.foldl_toList,Array.toList_zipIdx,zJY cs B A C (by omega)]
  exact k
theorem vZ{place:Nat→Option (Nat×Nat)}{vs:List Value}:Instr.fill place vs.toArray []=some vs.toArray:=rfl
theorem yO{t:TypeId}{i:TypeInfo}{z:Value}{fs:Array Field}{places:Array (Nat×Nat)}{parts:List (Nat×Operand)}{ps':List (Nat×Value)}{vs:List Value}(ht:P.underlying t=some (.struct fs))(hi:P.info? t=some i)(hz:i.zero=some z)
    (hpl:∀w,(fs.mapM fun(f:Field)=>do pure (f.offset,←Go.sizeOf f.type)).run P w=.ok places w)(hp:mO e parts ps')(hf:Instr.fill (places[·]?) z.cells ps'=some vs.toArray):
    OpV P n w0 h0 ⟨ds,.build t parts.toArray,ty,ps,af,gd⟩ e L h (.agg vs.toArray):=by
  intro a w Ev S
  have hpa:(parts.toArray.map fun(p:Nat×Operand)=>(p.1,a.eval p.2)).toList=ps':=by
    rw[List.map_toArray]
    exact hp.eval Ev
  have hz':(zeroValue t).run P w=.ok z w:=by simp[zeroValue,typeInfo,hi,hz]
  simp only[execOp,Instr.build]
  rw[show(parts.toArray.map fun(i,x)=>(i,a.eval x)).toList=ps' from hpa]
  simp only[Sem.run_bind,hz',Result.andThen_ok,run_underlying ht,hpl,hf]
  rfl
def zCF(tmps:Array Value):ResultVar→Sem Value
  | .tmp t=>pure (tmps.getD t undef)
  | .cell a t=>do loadVar t (←asAddr (tmps.getD a undef))
def RV(P:Program)(n:Nat)(w0:World)(h0:Mem)(r:ResultVar)(e:List (Nat×Value))(L:List Res)(h:Mem)(v:Value):Prop:=∀a w,Env n e a→St w0 h0 L h w→(zCF a.tmps r).run P w=.ok v w
theorem jP{t:Nat}{v:Value}(hv:zJ e (.tmp t)=some v):RV P n w0 h0 (.tmp t) e L h v:=by
  intro a w E S
  have:=E.eval hv
  simp only[Act.eval] at this
  simp[zCF,this]
theorem xE{t:Nat}{T E:TypeId}{b:Nat}{cs:List Value}{d:TypeDesc}(hm:.var b E cs∈L)(hu:P.underlying T=some d)(hd:d.isRow=true)(hi:(P.info? T).map (·.size)=some cs.length)(hx:zJ e (.tmp t)=some (vP b 0)):RV P n w0 h0 (.cell t T) e L h (.agg cs.toArray):=by
  intro a w Ev S
  have hw:w.heap[b]?=some (.cells cs.toArray E):=S.ok _ hm
  have:=Ev.eval hx
  simp only[Act.eval] at this
  have h2:=run_loadVar_mid (P:=P) w b 0 T cs d (eE hw 0 cs (by simp)) hu hd hi
  simp[zCF,this,asAddr,h2]
theorem zA7(fn:Func)(tmps:Array Value):results fn tmps=(do let vs ←fn.results.mapM (zCF tmps);pure (if h:vs.size=1 then vs[0] else .tuple vs)):=by
  unfold results
  congr 1
section
variable {fn:Func}{r1 r2 r3 r4:ResultVar}{v1 v2 v3 v4:Value}{R:Mem→Value→Prop}{RO:Mem→Value→List Res→Prop}
theorem zP(hr:fn.results=#[r1])(h1:RV P n w0 h0 r1 e L h v1){a:Act}{w:World}(Ev:Env n e a)(S:St w0 h0 L h w):(results fn a.tmps).run P w=.ok v1 w:=by
  simp[zA7,hr,h1 a w Ev S]
theorem vW(hr:fn.results=#[r1,r2])(h1:RV P n w0 h0 r1 e L h v1)(h2:RV P n w0 h0 r2 e L h v2){a:Act}{w:World}(Ev:Env n e a)(S:St w0 h0 L h w):(results fn a.tmps).run P w=.ok (.tuple #[v1,v2]) w:=by
  simp[zA7,hr,h1 a w Ev S,h2 a w Ev S]
theorem yE{v:Value}(hres:∀{a:Act} {w:World},Env n e a→St w0 h0 L h w→(results fn a.tmps).run P w=.ok v w)(hR:R h v):GQ n w0 h0 (bodyPost P fn (Ret w0 h0 R)) .ret e L h:=by
  intro a w E S
  exact bodyPost_ret (hres E S) E.defers ⟨_,h,rfl,hR,S.sublist (List.nil_sublist _)⟩
theorem zLN{v:Value}(hres:∀{a:Act} {w:World},Env n e a→St w0 h0 L h w→(results fn a.tmps).run P w=.ok v w)(hR:RO h v L):GQ n w0 h0 (bodyPost P fn (sQ w0 h0 RO)) .ret e L h:=by
  intro a w E S
  exact bodyPost_ret (hres E S) E.defers ⟨_,h,L,rfl,hR,S⟩
end
end
end Bk
namespace Bk
set_option linter.unusedVariables false
set_option linter.unusedSimpArgs false
theorem mG(xs:List Nat)(j k:Nat):(xs.drop j).getD k 0=xs.getD (j+k) 0:=by
  rw[List.getD_eq_getElem?_getD,List.getElem?_drop,←List.getD_eq_getElem?_getD]
theorem jD{xs:List Nat}(h:Fit xs)(j:Nat):val (xs.drop j)=val xs/4294967296^j:=by
  by_cases hj:j≤xs.length
  · have h1:=kY xs j hj
    have h2:=jY (gG h j)
    rw[List.length_take,Nat.min_eq_left hj] at h2
    rw[h1,Nat.add_mul_div_left _ _ (Nat.pow_pos (by omega)),Nat.div_eq_of_lt h2,Nat.zero_add]
  · rw[List.drop_of_length_le (by omega),Nat.div_eq_of_lt (Nat.lt_of_lt_of_le (jY h) (Nat.pow_le_pow_right (by omega) (by omega)))]
    rfl
theorem mR{xs:List Nat}{k:Nat}(h:val xs<4294967296^k){i:Nat}(hi:k≤i):xs.getD i 0=0:=by
  by_cases hl:i<xs.length
  · refine Classical.byContradiction fun hne=>?_
    have h1:=kY xs i (by omega)
    have h2:=jH xs i hl
    have h3:4294967296^k≤4294967296^i:=Nat.pow_le_pow_right (by omega) hi
    have h4:4294967296^i*1≤4294967296^i*val (xs.drop i):=Nat.mul_le_mul_left _ (by omega)
    omega
  · exact tB (by omega)
theorem zB3{xs:List Nat}(hf:Fit xs){J n:Nat}(h:val (xs.drop J)<4294967296^n):val xs<4294967296^(J+n):=by
  rw[jD hf] at h
  have:=Nat.lt_mul_of_div_lt h (Nat.pow_pos (by omega))
  rw[Nat.pow_add,Nat.mul_comm]
  exact this
theorem oA{xs:List Nat}(hf:Fit xs){k:Nat}(h:∀i,k≤i→xs.getD i 0=0):val xs<4294967296^k:=by
  by_cases hk:k≤xs.length
  · have h1:=kY xs k hk
    have h2:=jY (gG hf k)
    rw[List.length_take,Nat.min_eq_left hk] at h2
    have h3:val (xs.drop k)=0:=s5 fun x hx=>by
      obtain⟨i,hi,rfl⟩:=List.getElem_of_mem hx
      have:=h (k+i) (by omega)
      rw[←mG,List.getD_eq_getElem?_getD,List.getElem?_eq_getElem hi] at this
      simpa using this
    rw[h3,Nat.mul_zero] at h1
    omega
  · exact Nat.lt_of_lt_of_le (jY hf) (Nat.pow_le_pow_right (by omega) (by omega))
theorem zLY{xs:List Nat}{n:Nat}(hn:2≤n)(hl:xs.length=n):val xs=(xs.getD (n-1) 0*4294967296+xs.getD (n-2) 0)*4294967296^(n-2)+val (xs.take (n-2)):=by
  obtain⟨k,rfl⟩:∃k,n=k+2:=⟨n-2,by omega⟩
  have h1:val xs=val (xs.take (k+1+1)):=(xK (by omega)).symm
  rw[h1,vK,vK]
  simp only[Nat.add_sub_cancel,show k+2-1=k+1 by omega,Nat.pow_succ]
  generalize 4294967296^k=p
  generalize (4294967296:Nat)=B
  grind
theorem zNJ(B p q0 a b c v3 v2 v1 P1 P2:Nat)(e1:P1=p*B)(e2:P2=P1*B)(h1:v3=v2+P2*a)(h2:v2=v1+P1*b)(h3:v1=q0+p*c):v3=((a*B+b)*B+c)*p+q0:=by
  subst e2 e1 h1 h2 h3
  grind
theorem zTI{ys:List Nat}{m:Nat}(hz:∀i,m≤i→ys.getD i 0=0):val ys=val (ys.take m):=by
  by_cases hl:m≤ys.length
  · have h1:=kY ys m hl
    have h3:val (ys.drop m)=0:=s5 fun x hx=>by
      obtain⟨i,hi,rfl⟩:=List.getElem_of_mem hx
      have:=hz (m+i) (by omega)
      rw[←mG,List.getD_eq_getElem?_getD,List.getElem?_eq_getElem hi] at this
      simpa using this
    rw[h3,Nat.mul_zero,Nat.add_zero] at h1
    exact h1
  · exact(xK (by omega)).symm
theorem zEF{xs:List Nat}{j n:Nat}(hn:2≤n)(hz:∀i,j+n<i→xs.getD i 0=0)(hf:Fit xs):
    ∃w,val (xs.drop j)=((xs.getD (j+n) 0*4294967296+xs.getD (j+n-1) 0)*4294967296+xs.getD (j+n-2) 0)*4294967296^(n-2)+w∧w<4294967296^(n-2):=by
  obtain⟨k,rfl⟩:∃k,n=k+2:=⟨n-2,by omega⟩
  rw[Nat.add_sub_cancel,show j+(k+2)-1=j+(k+1) by omega,show j+(k+2)-2=j+k by omega]
  refine⟨val ((xs.drop j).take k),?_,?_⟩
  · have h0:val (xs.drop j)=val ((xs.drop j).take (k+3)):=zTI fun i hi=>by rw[mG];exact hz _ (by omega)
    have h1:=vK (xs.drop j) (k+2)
    have h2:=vK (xs.drop j) (k+1)
    have h3:=vK (xs.drop j) k
    rw[mG] at h1 h2 h3
    exact h0.trans (zNJ _ _ _ _ _ _ _ _ _ _ _ (Nat.pow_succ _ _) (Nat.pow_succ _ _) h1 h2 h3)
  · have:=jY (gG (nF hf j) k)
    refine Nat.lt_of_lt_of_le this (Nat.pow_le_pow_right (by decide) ?_)
    simp[List.length_take];omega
section est
variable {V W P v1 v2 vr top u3 wr x rest:Nat}
theorem zIZ(hV:V=(v1*4294967296+v2)*P+vr)(hW:W=(top*4294967296+u3)*P+wr)(hu:u3<4294967296)(hw:wr<P)(h1:0<v1):W<(top/v1+1)*V:=by
  have h2:top<v1*(top/v1+1):=Nat.lt_mul_div_succ top h1
  have h3:(top+1)*4294967296≤v1*(top/v1+1)*4294967296:=Nat.mul_le_mul_right _ h2
  have h4:(top*4294967296+u3+1)*P≤v1*(top/v1+1)*4294967296*P:=Nat.mul_le_mul_right _ (by omega)
  have h5:(top/v1+1)*V=v1*(top/v1+1)*4294967296*P+(top/v1+1)*(v2*P+vr):=by rw[hV];generalize (4294967296:Nat)=B;grind
  have h6:(top*4294967296+u3+1)*P=(top*4294967296+u3)*P+P:=by generalize (4294967296:Nat)=B;grind
  omega
theorem zVR(hV:V=(v1*4294967296+v2)*P+vr)(hW:W=(top*4294967296+u3)*P+wr)(hw:wr<P)(ht:x*v1+rest=top)(hb:rest*4294967296+u3<x*v2):W<x*V:=by
  have h1:(rest*4294967296+u3+1)*P≤x*v2*P:=Nat.mul_le_mul_right _ hb
  have h2:x*V=x*v1*4294967296*P+x*v2*P+x*vr:=by rw[hV];generalize (4294967296:Nat)=B;grind
  have h3:(top*4294967296+u3)*P=x*v1*4294967296*P+(rest*4294967296+u3)*P:=by rw[←ht];generalize (4294967296:Nat)=B;grind
  have h4:(rest*4294967296+u3+1)*P=(rest*4294967296+u3)*P+P:=by generalize (4294967296:Nat)=B;grind
  omega
theorem zSH(hV:V=(v1*4294967296+v2)*P+vr)(hW:W=(top*4294967296+u3)*P+wr)(hr:vr<P)(h1:0<v1)(ht:x*v1+rest=top)(hx:x<4294967296)(hb:x*v2≤rest*4294967296+u3):x*V<W+V:=by
  have h2:x*v2*P≤(rest*4294967296+u3)*P:=Nat.mul_le_mul_right _ hb
  have h3:x*V=x*v1*4294967296*P+x*v2*P+x*vr:=by rw[hV];generalize (4294967296:Nat)=B;grind
  have h4:(top*4294967296+u3)*P=x*v1*4294967296*P+(rest*4294967296+u3)*P:=by rw[←ht];generalize (4294967296:Nat)=B;grind
  have hP:0<P:=by omega
  have h5:x*vr<4294967296*P:=by
    have:=Nat.mul_le_mul (show x≤4294967295 by omega) (show vr≤P by omega)
    omega
  have h6:1*(4294967296*P)≤v1*(4294967296*P):=Nat.mul_le_mul_right _ h1
  have h7:V=v1*(4294967296*P)+(v2*P+vr):=by rw[hV];generalize (4294967296:Nat)=B;grind
  omega
theorem zVQ(hV:V=(v1*4294967296+v2)*P+vr)(hW:W=(top*4294967296+u3)*P+wr)(hr:vr<P)(h2:v2<4294967296)(hWV:W<4294967296*V):top≤v1*4294967296+4294967295:=by
  refine Classical.byContradiction fun hc=>?_
  have h3:(v1*4294967296+4294967296)*(4294967296*P)≤top*(4294967296*P):=Nat.mul_le_mul_right _ (by omega)
  have h4:(v1*4294967296+v2+1)*P≤(v1*4294967296+4294967296)*P:=Nat.mul_le_mul_right _ (by omega)
  have h5:(top*4294967296+u3)*P=top*(4294967296*P)+u3*P:=by generalize (4294967296:Nat)=B;grind
  have h6:(v1*4294967296+v2+1)*P=(v1*4294967296+v2)*P+P:=by generalize (4294967296:Nat)=B;grind
  have h7:(v1*4294967296+4294967296)*(4294967296*P)=4294967296*((v1*4294967296+4294967296)*P):=by generalize (4294967296:Nat)=B;grind
  omega
theorem zFG(hV:V=(v1*4294967296+v2)*P+vr)(hW:W=(top*4294967296+u3)*P+wr)(hr:vr<P)(h2:v2<4294967296)(ht:x*v1+rest=top)(hre:4294967296≤rest)(htop:top≤v1*4294967296+4294967295)(h1:0<v1):x<4294967296∧x*V≤W:=by
  have hx:x<4294967296:=by
    refine Classical.byContradiction fun hc=>?_
    have:4294967296*v1≤x*v1:=Nat.mul_le_mul_right _ (by omega)
    omega
  refine⟨hx,?_⟩
  have h3:x*V=x*v1*4294967296*P+x*(v2*P+vr):=by rw[hV];generalize (4294967296:Nat)=B;grind
  have h4:(top*4294967296+u3)*P=x*v1*4294967296*P+(rest*4294967296)*P+u3*P:=by rw[←ht];generalize (4294967296:Nat)=B;grind
  have h5:v2*P+vr≤4294967296*P:=by
    have:=Nat.mul_le_mul_right P (show v2+1≤4294967296 by omega)
    generalize (4294967296:Nat)=B at *
    grind
  have h6:x*(v2*P+vr)≤4294967296*(4294967296*P):=Nat.mul_le_mul (by omega) h5
  have h7:4294967296*4294967296*P≤rest*4294967296*P:=Nat.mul_le_mul_right _ (Nat.mul_le_mul_right _ hre)
  have h8:4294967296*(4294967296*P)=4294967296*4294967296*P:=by generalize (4294967296:Nat)=B;grind
  omega
end est
theorem zCD{us ts:List Nat}{j x V:Nat}(hf:Fit us)(hft:Fit ts)(h:val ts+4294967296^j*(x*V)=val us)(hx:val (us.drop j)<(x+1)*V):val (ts.drop j)<V:=by
  have hp:0<4294967296^j:=Nat.pow_pos (by omega)
  rw[jD hf,←h,Nat.add_mul_div_left _ _ hp,←jD hft,Nat.add_mul] at hx
  omega
theorem zNW{us ts rs:List Nat}{j n x V b o:Nat}(hf:Fit us)(hfr:Fit rs)(ht:val ts<4294967296^(j+n+1))(hr:val rs<4294967296^(j+n+1))(hb:b=1)(h:val ts+4294967296^j*(x*V)=val us+4294967296^(j+n+1)*b)
    (hx:x*V<val (us.drop j)+V)(ho:val rs+4294967296^(j+n+1)*o=val ts+4294967296^j*V)(ho1:o≤1):0<x∧val rs+4294967296^j*((x-1)*V)=val us∧val (rs.drop j)<V:=by
  subst hb
  have hp:0<4294967296^j:=Nat.pow_pos (by omega)
  have h1:val us<4294967296^j*(x*V):=by omega
  have hW:val (us.drop j)<x*V:=by
    rw[jD hf]
    exact Nat.div_lt_of_lt_mul h1
  have hx0:0<x:=Nat.pos_of_ne_zero fun h0=>by rw[h0,Nat.zero_mul] at hW;omega
  obtain⟨y,rfl⟩:∃y,x=y+1:=⟨x-1,by omega⟩
  rw[Nat.add_sub_cancel]
  have e1:(y+1)*V=y*V+V:=by rw[Nat.add_mul,Nat.one_mul]
  have e2:4294967296^j*((y+1)*V)=4294967296^j*(y*V)+4294967296^j*V:=by rw[e1,Nat.mul_add]
  have h2:4294967296^j*(y*V)≤val us:=by
    have h3:4294967296^j*(y*V)≤4294967296^j*val (us.drop j):=Nat.mul_le_mul_left _ (by omega)
    have h4:4294967296^j*val (us.drop j)≤val us:=by rw[jD hf];exact Nat.mul_div_le _ _
    omega
  have ho2:o=1:=by
    rcases Nat.eq_zero_or_pos o with h0|h0
    · subst h0;omega
    · omega
  subst ho2
  have h5:val rs+4294967296^j*(y*V)=val us:=by omega
  exact⟨by omega,h5,zCD hf hfr h5 (by omega)⟩
theorem zC1{Y k s:Nat}(hY:Y≠0)(hk:k+1=(zB Y).length)(hs:s=32-xY ((zB Y).getD k 0)):s<32∧(zB (Y*2^s)).length=k+1∧2147483648≤(zB (Y*2^s)).getD k 0:=by
  have hf:=xR Y
  have htop:(zB Y).getD k 0≠0:=by
    have:=tL (n:=Y) (by omega)
    rwa [show(zB Y).length-1=k by omega] at this
  have hb:=zAY hf hk htop
  rw[zC] at hb
  have hb1:=zFK htop
  have hb2:=bX (n:=(zB Y).getD k 0) (k:=32) (uX hf k)
  have hlo:=w4 hY
  have hhi:=cR Y
  have e1:(4294967296:Nat)^k*2147483648=2^(32*k+31):=by rw[Nat.pow_add,Nat.pow_mul]
  have e2:(4294967296:Nat)^(k+1)=2^(32*k+32):=by rw[Nat.pow_succ,Nat.pow_add,Nat.pow_mul]
  have hlo2:4294967296^k*2147483648≤Y*2^s:=by
    rw[e1,show 32*k+31=(xY Y-1)+s by omega,Nat.pow_add]
    exact Nat.mul_le_mul_right _ hlo
  have hhi2:Y*2^s<4294967296^(k+1):=by
    rw[e2,show 32*k+32=xY Y+s by omega,Nat.pow_add]
    exact Nat.mul_lt_mul_of_pos_right hhi (Nat.pow_pos (by omega))
  have hl1:=vY hhi2
  have hf2:=xR (Y*2^s)
  have hl:(zB (Y*2^s)).length=k+1:=by
    refine Nat.le_antisymm hl1 (Classical.byContradiction fun hc=>?_)
    have h1:=jY hf2
    rw[zC] at h1
    have h2:(4294967296:Nat)^(zB (Y*2^s)).length≤4294967296^k:=Nat.pow_le_pow_right (by omega) (by omega)
    omega
  refine⟨by omega,hl,Classical.byContradiction fun hc=>?_⟩
  have h1:=vK (zB (Y*2^s)) k
  rw[xK (by omega),zC] at h1
  have h2:=jY (gG hf2 k)
  rw[List.length_take,Nat.min_eq_left (by omega)] at h2
  have h3:4294967296^k*((zB (Y*2^s)).getD k 0+1)≤4294967296^k*2147483648:=Nat.mul_le_mul_left _ (by omega)
  rw[Nat.mul_add,Nat.mul_one] at h3
  omega
theorem zTA(c:Nat):c&&&4294967295=c%4294967296:=Nat.and_two_pow_sub_one_eq_mod c 32
theorem zO0{X Y la k s:Nat}{us:List Nat}(hf:Fit us)(hX:X<4294967296^la)(hus:val us=X*2^s)(hk:k≤la)(hY:4294967296^k≤Y):val (us.drop (la-k))<Y*2^s:=by
  rw[jD hf,hus]
  refine Nat.div_lt_of_lt_mul ?_
  rw[←Nat.mul_assoc]
  refine Nat.mul_lt_mul_of_pos_right (Nat.lt_of_lt_of_le hX ?_) (Nat.pow_pos (by omega))
  rw[show la=(la-k)+k by omega,Nat.pow_add,show la-k+k-k=la-k by omega]
  exact Nat.mul_le_mul_left _ hY
theorem zM4{X Y s u q:Nat}(hY:0<Y)(h:u+q*(Y*2^s)=X*2^s)(hu:u<Y*2^s):q=X/Y∧u/2^s=X%Y:=by
  have hp:0<2^s:=Nat.pow_pos (by omega)
  have h1:u=(X-q*Y)*2^s:=by
    rw[Nat.sub_mul,Nat.mul_assoc]
    omega
  have h2:q*Y≤X:=by
    refine Nat.le_of_mul_le_mul_right (c:=2^s) ?_ hp
    rw[Nat.mul_assoc];omega
  have h3:X-q*Y<Y:=by
    refine Nat.lt_of_mul_lt_mul_right (a:=2^s) ?_
    omega
  have h4:X=q*Y+(X-q*Y):=by omega
  refine⟨?_,?_⟩
  · generalize X-q*Y=r at *
    rw[h4,Nat.mul_comm q Y,Nat.mul_add_div hY,Nat.div_eq_of_lt h3];omega
  · rw[h1,Nat.mul_div_cancel _ hp]
    generalize X-q*Y=r at *
    rw[h4,Nat.mul_comm q Y,Nat.mul_add_mod,Nat.mod_eq_of_lt h3]
theorem k8{x v r t:Nat}(h:x*v+r=t)(hx:1≤x):(x-1)*v+(r+v)=t:=by
  obtain⟨y,rfl⟩:∃y,x=y+1:=⟨x-1,by omega⟩
  rw[Nat.add_mul,Nat.one_mul] at h
  rw[Nat.add_sub_cancel]
  omega
theorem zZN{x v r t:Nat}(h:x*v+r=t)(ht:t≤v*4294967296+4294967295)(hv:2147483648≤v):x≤4294967297:=by
  refine Classical.byContradiction fun hc=>?_
  have:=Nat.mul_le_mul_right v (show 4294967298≤x by omega)
  omega
theorem zUZ{B p q vt vt' vu x yT Y X y' c b c' b' l:Nat}(h:vt+p*(x*yT)=vu+p*q*(c+b))(h1:vt'+p*q*X=vt+p*q*y')(e1:y'+l+b=X+B*b')(e2:B*c'+l=c+x*Y):vt'+p*(x*(yT+q*Y))=vu+p*q*B*(c'+b'):=by grind
theorem zYK{B p q vt vt' vu xV X y' c b b':Nat}(h:vt+p*xV=vu+p*q*(c+b))(h1:vt'+p*q*X=vt+p*q*y')(e1:y'+c+b=X+B*b'):vt'+p*xV=vu+p*q*B*b':=by grind
theorem zV1{B p q vt vt' vu yT Y X y' c c':Nat}(h:vt+p*q*c=vu+p*yT)(h1:vt'+p*q*X=vt+p*q*y')(e:B*c'+y'=c+(X+Y)):vt'+p*q*B*c'=vu+p*(yT+q*Y):=by grind
theorem zZ7{B p q vt vt' vu V X y' c c':Nat}(h:vt+p*q*c=vu+p*V)(h1:vt'+p*q*X=vt+p*q*y')(e:B*c'+y'=X+c):vt'+p*q*B*c'=vu+p*V:=by grind
theorem zX7{B p vu vr vq x V U:Nat}(h:vu+p*B*(vq*V)=U)(h2:vr+p*(x*V)=vu):vr+p*((x+B*vq)*V)=U:=by grind
theorem zBP{xs:List Nat}(h:xs.length=1):val xs=xs.getD 0 0:=by
  match xs,h with
  |[x],_=>simp[val]
def mT(s:Nat)(xs:List Nat)(i:Nat):Nat:=val (xs.drop i)/2^s%4294967296
def oD(s:Nat)(xs:List Nat)(i:Nat):List Nat:=(List.range i).map (mT s xs)++xs.drop i
theorem zEL(s:Nat)(xs:List Nat):oD s xs 0=xs:=by simp[oD]
theorem uG{s:Nat}{xs:List Nat}{i:Nat}(h:i≤xs.length):(oD s xs i).length=xs.length:=by simp[oD];omega
theorem z6{s:Nat}{xs:List Nat}{i k:Nat}(h:i≤k):(oD s xs i).getD k 0=xs.getD k 0:=by
  rw[List.getD_eq_getElem?_getD,oD,List.getElem?_append_right (by simpa using h),List.length_map,List.length_range,List.getElem?_drop,←List.getD_eq_getElem?_getD,show i+(k-i)=k by omega]
theorem z5{s:Nat}{xs:List Nat}{i:Nat}(h:i<xs.length):(oD s xs i).set i (mT s xs i)=oD s xs (i+1):=by
  rw[oD,oD,List.set_append_right _ _ (by simp),List.length_map,List.length_range,Nat.sub_self,fC xs i h,List.range_succ]
  simp
theorem zL1(s:Nat)(xs:List Nat)(i:Nat):mT s xs i<4294967296:=Nat.mod_lt _ (by omega)
theorem zIX{s:Nat}{xs:List Nat}{i:Nat}(h:Fit xs):Fit (oD s xs i):=wY (fun x hx=>by obtain⟨k,_,rfl⟩:=List.mem_map.1 hx;exact zL1 s xs k) (nF h i)
theorem iB{s:Nat}{xs:List Nat}(hf:Fit xs)(i:Nat):val ((List.range i).map (mT s xs))=val xs/2^s%4294967296^i:=by
  induction i with
  |zero=>simp[val,Nat.mod_one]
  |succ i ih=>
   rw[List.range_succ,List.map_append,List.map_singleton,tP,ih,List.length_map,List.length_range,Nat.pow_succ,Nat.mod_mul,mT,jD hf,Nat.div_div_eq_div_mul,Nat.div_div_eq_div_mul,Nat.mul_comm (2^s)]
theorem zG2{s:Nat}{xs:List Nat}(hf:Fit xs):val (oD s xs xs.length)=val xs/2^s:=by
  rw[oD,List.drop_of_length_le (Nat.le_refl _),List.append_nil,iB hf]
  exact Nat.mod_eq_of_lt (Nat.lt_of_le_of_lt (Nat.div_le_self _ _) (jY hf))
theorem zEM{xs:List Nat}{i:Nat}(hf:Fit xs)(h:i<xs.length):mT 0 xs i=xs.getD i 0:=by
  have:=uX hf i
  rw[mT,jH xs i h,Nat.pow_zero,Nat.div_one]
  omega
theorem zEN{s:Nat}{xs:List Nat}{i:Nat}(hf:Fit xs)(h:i+1=xs.length):mT s xs i=xs.getD i 0/2^s:=by
  have h1:=uX hf i
  rw[mT,jH xs i (by omega),List.drop_of_length_le (by omega)]
  show(xs.getD i 0+4294967296*0)/2^s%4294967296=_
  rw[Nat.mul_zero,Nat.add_zero]
  exact Nat.mod_eq_of_lt (Nat.lt_of_le_of_lt (Nat.div_le_self _ _) h1)
theorem zL0{s:Nat}{xs:List Nat}{i:Nat}(hf:Fit xs)(hs:s≤32)(h:i+1<xs.length):xs.getD i 0/2^s |||xs.getD (i+1) 0*2^(32-s)%4294967296=mT s xs i:=by
  have h1:=uX hf i
  have e:(4294967296:Nat)=2^s*2^(32-s):=by rw[←Nat.pow_add,show s+(32-s)=32 by omega]
  have hp:0<2^s:=Nat.pow_pos (by omega)
  have h2:xs.getD i 0/2^s<2^(32-s):=Nat.div_lt_of_lt_mul (by rw[←e];exact h1)
  have h3:xs.getD (i+1) 0*2^(32-s)%4294967296=(xs.getD (i+1) 0%2^s)*2^(32-s):=by
    conv=>lhs;rw[e]
    rw[Nat.mul_mod_mul_right]
  rw[h3,zKK h2,mT,jH xs i (by omega),jH xs (i+1) h]
  generalize xs.getD i 0=a at *
  generalize xs.getD (i+1) 0=b at *
  generalize val (List.drop (i+1+1) xs)=c at *
  have h4:(a+4294967296*(b+4294967296*c))/2^s=a/2^s+2^(32-s)*(b+4294967296*c):=by
    conv=>lhs;rw[show a+4294967296*(b+4294967296*c)=a+2^s*(2^(32-s)*(b+4294967296*c)) by rw[←Nat.mul_assoc,←e]]
    rw[Nat.add_mul_div_left _ _ hp]
  have h5:2^(32-s)*(b+4294967296*c)=2^(32-s)*(b%2^s)+4294967296*(b/2^s+2^(32-s)*c):=by
    have h6:=Nat.div_add_mod b (2^s)
    conv=>lhs;rw[←h6]
    generalize b/2^s=p at *
    generalize b%2^s=r at *
    rw[e]
    generalize 2^s=u
    generalize 2^(32-s)=v
    grind
  have h7:a/2^s+2^(32-s)*(b%2^s)<4294967296:=by
    have h8:b%2^s<2^s:=Nat.mod_lt _ hp
    have h9:2^(32-s)*(b%2^s+1)≤2^(32-s)*2^s:=Nat.mul_le_mul_left _ h8
    rw[Nat.mul_comm (2^(32-s)) (2^s),←e] at h9
    rw[Nat.mul_add] at h9
    omega
  rw[h4,h5,←Nat.add_assoc,Nat.add_mul_mod_self_left,Nat.mod_eq_of_lt h7,Nat.mul_comm]
  omega
end Bk
namespace Bk
set_option linter.unusedVariables false
set_option linter.unusedSimpArgs false
def mixA(ps os:List Nat):List Nat:=ps++os.drop ps.length
def yBL(bs:List Nat):Bool:=bs.all fun b=>decide (48≤b)&&decide (b≤57)
def hor(bs:List Nat):Nat:=bs.foldl (fun a b=>10*a+(b-48)) 0
def perr(bs:List Nat):Int:=if 4096<bs.length then 2 else if bs.length=0 then 4 else if yBL bs=true then 0 else 4
def pval(bs:List Nat):Nat:=if 4096<bs.length then 0 else if yBL bs=true then hor bs else 0
theorem dT(n:Nat):(txt n).length≤10*(zB n).length+1:=by
  unfold txt
  by_cases h:n=0
  · rw[if_pos h];simp
  · rw[if_neg h,List.length_reverse]
    have:=zJA (xR n)
    rw[zC] at this
    omega
theorem zXC(n:Nat):∀x∈txt n,x<256:=by
  unfold txt
  by_cases h:n=0
  · rw[if_pos h];simp
  · rw[if_neg h];intro x hx;exact zM9 n x (List.mem_reverse.1 hx)
def shN(X:Nat)(n:Int):Nat:=if 16384<n then 0 else if 0≤n then X*2^n.toNat else X/2^(-n).toNat
def shE(n:Int):Int:=if 16384<n then 2 else 0
theorem zFV{X:Nat}{n:Int}(h:¬16384<n)(h0:0≤n):shN X n=X*2^n.toNat:=by rw[shN,if_neg h,if_pos h0]
theorem zCB{X:Nat}{n:Int}(h0:¬0≤n):shN X n=X/2^(-n).toNat:=by rw[shN,if_neg (by omega),if_neg h0]
theorem g8{X k:Nat}(h:32*(zB X).length≤k):X/2^k=0:=by
  refine Nat.div_eq_of_lt (Nat.lt_of_lt_of_le (uH X) ?_)
  rw[show(4294967296:Nat)=2^32 by decide,←Nat.pow_mul]
  exact Nat.pow_le_pow_right (by decide) h
theorem iL(X k s:Nat):X/4294967296^k/2^s=X/2^(32*k+s):=by
  rw[Nat.div_div_eq_div_mul,Nat.pow_add,Nat.pow_mul]
theorem aU(X k s:Nat):4294967296^k*(X*2^s)=X*2^(32*k+s):=by
  rw[Nat.pow_add,Nat.pow_mul]
  grind
theorem zPW{s:Nat}{xs:List Nat}{i:Nat}(hs:s≤32)(h:i<xs.length):(xs.getD i 0+4294967296*xs.getD (i+1) 0)/2^s%4294967296=mT s xs i:=by
  have e:(4294967296:Nat)=2^s*2^(32-s):=by rw[←Nat.pow_add,show s+(32-s)=32 by omega]
  have hp:0<2^s:=Nat.pow_pos (by omega)
  rw[mT,jH xs i h]
  by_cases h2:i+1<xs.length
  · rw[jH xs (i+1) h2]
    generalize xs.getD i 0=a
    generalize xs.getD (i+1) 0=b
    generalize val (List.drop (i+1+1) xs)=c
    have h4:a+4294967296*(b+4294967296*c)=(a+4294967296*b)+2^s*(4294967296*(2^(32-s)*c)):=by
      have:4294967296*(4294967296*c)=2^s*(4294967296*(2^(32-s)*c)):=by
        conv=>lhs;lhs;rw[e]
        generalize 2^s=u
        generalize 2^(32-s)=v
        generalize (4294967296:Nat)=B
        grind
      omega
    rw[h4,Nat.add_mul_div_left _ _ hp,Nat.add_mul_mod_self_left]
  · rw[tB (xs:=xs) (i:=i+1) (by omega),List.drop_of_length_le (by omega)]
    rfl
theorem zNR{s:Nat}{xs:List Nat}(hf:Fit xs):val ((List.range xs.length).map (mT s xs))=val xs/2^s:=by
  rw[iB hf]
  exact Nat.mod_eq_of_lt (Nat.lt_of_le_of_lt (Nat.div_le_self _ _) (jY hf))
theorem zDS(n:Nat):xY n≤32*(zB n).length:=by
  refine bX ?_
  rw[Nat.pow_mul]
  exact uH n
theorem zIO{X:Nat}(hX:X≠0)(k:Nat):List.replicate k 0++zB X=zB (X*4294967296^k):=by
  have hv:val (List.replicate k 0++zB X)=X*4294967296^k:=by rw[sE,fI,lR,zC,Nat.zero_add,Nat.mul_comm]
  have hf:Fit (List.replicate k 0++zB X):=wY (qD _) (xR _)
  rw[←hv,zIP hf]
  rw[hv,lAz,lR]
  have hp:=yK.2 hX
  have h1:=tN (n:=X) (k:=(zB X).length-1) (by omega)
  have h2:4294967296^(k+((zB X).length-1))≤X*4294967296^k:=by
    rw[Nat.pow_add,Nat.mul_comm]
    exact Nat.mul_le_mul_right _ h1
  have h3:=j1 h2
  omega
theorem jO{t:Nat}(h0:t≠0)(h:t<4294967296):zB t=[t]:=by
  rw[jX (by omega),Nat.mod_eq_of_lt h,Nat.div_eq_of_lt h,yR]
theorem zLG{Y:Nat}(h:0<(zB Y).length):(zB Y).drop ((zB Y).length-1)=zB ((zB Y).getD ((zB Y).length-1) 0):=by
  rw[jO (tL h) (uX (xR Y) _),fC _ _ (by omega),List.drop_of_length_le (by omega)]
theorem zD9(X k:Nat):(zB (X*4294967296^k)).length≤(zB X).length+k:=by
  refine vY ?_
  rw[Nat.pow_add]
  exact Nat.mul_lt_mul_of_pos_right (uH X) (Nat.pow_pos (by decide))
theorem zQM{V W P v1 v2 vr top u3 wr:Nat}(hV:V=(v1*4294967296+v2)*P+vr)(hW:W=(top*4294967296+u3)*P+wr)(hu:u3<4294967296)(hw:wr<P)(h1:0<v1)(hWV:W<4294967296*V):W<(min (top/v1) 4294967295+1)*V:=by
  by_cases h:top/v1≤4294967295
  · rw[Nat.min_eq_left h];exact zIZ hV hW hu hw h1
  · rw[Nat.min_eq_right (by omega)];exact hWV
theorem zON{R k m V:Nat}(h:R/4294967296^k<m*V):R<V*m*4294967296^k:=by
  have:=Nat.lt_mul_of_div_lt h (Nat.pow_pos (by decide))
  rw[Nat.mul_comm V m]
  exact this
theorem zQL{R V k:Nat}(h:R<4294967296^(k+1)*V):R/4294967296^k<4294967296*V:=by
  refine Nat.div_lt_of_lt_mul ?_
  rw[Nat.pow_succ,Nat.mul_assoc] at h
  exact h
theorem zT9{B p R q d V U:Nat}(h:R+p*B*(q*V)=U)(hle:V*d*p≤R):R-V*d*p+p*((d+B*q)*V)=U:=by
  obtain⟨t,rfl⟩:∃t,R=V*d*p+t:=⟨R-V*d*p,by omega⟩
  rw[Nat.add_sub_cancel_left]
  grind
theorem yAV{R V d p:Nat}(h:R<V*(d+1)*p)(hle:V*d*p≤R):R-V*d*p<p*V:=by
  have:V*(d+1)*p=V*d*p+p*V:=by grind
  omega
theorem zUA{V d p:Nat}(h:1≤d):V*d*p-V*p=V*(d-1)*p∧V*p≤V*d*p:=by
  obtain⟨e,rfl⟩:∃e,d=e+1:=⟨d-1,by omega⟩
  have:V*(e+1)*p=V*e*p+V*p:=by grind
  rw[Nat.add_sub_cancel]
  omega
theorem zJ6{U V r n:Nat}(hU:U<4294967296^r)(hV:4294967296^(n-1)≤V)(hn:1≤n)(hr:n≤r):U<4294967296^(r-n+1)*V:=by
  refine Nat.lt_of_lt_of_le hU ?_
  have h1:(4294967296:Nat)^r=4294967296^(r-n+1)*4294967296^(n-1):=by rw[←Nat.pow_add,show r-n+1+(n-1)=r by omega]
  rw[h1]
  exact Nat.mul_le_mul_left _ hV
end Bk
