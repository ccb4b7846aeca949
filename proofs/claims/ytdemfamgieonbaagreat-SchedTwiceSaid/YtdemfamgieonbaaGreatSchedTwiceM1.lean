/- Texts of the claim SchedTwice, one behind the other. -/
import Derived.Below
import Derived.Calls
import Derived.OrdersHeld
import Derived.Still
import Derived.Tactics
import Derived.Laws.Sem
import Derived.KernelRfl
import Derived.Laws.Bits
import Derived.RangeFuncRecord
import Derived.RangeFuncSeq
import Derived.RangeFuncCalls
import Derived.TacticsIn
import Derived.OrdersIn
import Derived.Laws.Externs
import Derived.Test.YtdemfamgieonbaaGreatProg
import Derived.DefersIn
import Derived.RangeFuncLeaves
import GoSem.Instr.MapEntry
import Derived.Deep.Slices
import Derived.Carry
import Derived.ProofKit
import Derived.OpenShut
set_option linter.all false
set_option maxRecDepth 100000
abbrev Go.Sep.Pt:=Option Go.Addr
abbrev Go.Sep.Av:=Array Go.Value
namespace Go.Sep
section
open Go Go.RowKit
abbrev Hp:=Nat→Option Obj
abbrev zB:=Hp→Prop
def Hp.le (h g:Hp):Prop:=∀ b o,h b = some o→g b = some o
def Hp.zMN (h g:Hp):Prop:=∀ b,h b = none∨g b = none
def Hp.one (b:Nat) (o:Obj):Hp:=fun c=>if c = b then some o else none
def Hp.or (h g:Hp):Hp:=fun b=>match h b with | some o=>some o | none=>g b
theorem Hp.le_refl (h:Hp):h.le h:=fun _ _ e=>e
theorem Hp.le_trans {a b c:Hp} (h:a.le b) (g:b.le c):a.le c:=fun k o e=>g k o (h k o e)
theorem Hp.zEx {a b:Hp} (h:a.zMN b):b.zMN a:=fun k=>(h k).symm
theorem Hp.zEC {a b c d:Hp} (h:a.zMN b) (hc:c.le a) (hd:d.le b):c.zMN d:=fun k=>by
 rcases h k with h | h
 ·left; cases e:c k with
  | none=>rfl
  | some o=>have:=hc k o e; rw [h] at this; cases this
 ·right; cases e:d k with
  | none=>rfl
  | some o=>have:=hd k o e; rw [h] at this; cases this
theorem Hp.zH0 (a b:Hp):a.le (a.or b):=fun k o e=>by simp [Hp.or,e]
theorem Hp.zGI {a b:Hp} (h:a.zMN b):b.le (a.or b):=fun k o e=>by
 rcases h k with h | h
 ·simp [Hp.or,h,e]
 ·rw [h] at e; cases e
theorem Hp.zUj {a b c:Hp} (ha:a.le c) (hb:b.le c):(a.or b).le c:=fun k o e=>by
 unfold Hp.or at e
 split at e
 ·rename_i x hx; cases e; exact ha _ _ hx
 ·exact hb _ _ e
theorem Hp.zNi {a b c:Hp} (ha:a.zMN c) (hb:b.zMN c):(a.or b).zMN c:=fun k=>by
 rcases hb k with h | h
 ·rcases ha k with g | g
  ·left; simp [Hp.or,g,h]
  ·right; exact g
 ·right; exact h
def blk (b:Nat) (o:Obj):zB:=fun h=>h b = some o
def pur (p:Prop):zB:=fun _=>p
def ex {α:Sort _} (A:α→zB):zB:=fun h=>∃ x,A x h
def stars:List zB→zB
 | [],_=>True
 | A::Γ,h=>∃ h1 h2,A h1∧stars Γ h2∧h1.le h∧h2.le h∧h1.zMN h2
theorem zPL {Γ:List zB} {h g:Hp} (hs:stars Γ h) (hl:h.le g):stars Γ g:=by
 cases Γ with
 | nil=>trivial
 | cons A Γ=>
  obtain ⟨h1,h2,a,b,l1,l2,d⟩:=hs
  exact ⟨h1,h2,a,b,Hp.le_trans l1 hl,Hp.le_trans l2 hl,d⟩
theorem zK1 {A:zB} {Γ:List zB} {h:Hp} (hs:stars (A::Γ) h):stars Γ h:=by
 obtain ⟨h1,h2,_,b,_,l2,_⟩:=hs
 exact zPL b l2
theorem zK2 {A B:zB} {Γ:List zB} {h:Hp} (hs:stars (A::B::Γ) h):stars (B::A::Γ) h:=by
 obtain ⟨h1,h2,a,⟨h3,h4,b,c,l3,l4,d'⟩,l1,l2,d⟩:=hs
 refine ⟨h3,h1.or h4,b,⟨h1,h4,a,c,Hp.zH0 _ _,?_,?_⟩,Hp.le_trans l3 l2,Hp.zUj l1 (Hp.le_trans l4 l2),?_⟩
 ·exact Hp.zGI (Hp.zEC d (Hp.le_refl _) l4)
 ·exact Hp.zEC d (Hp.le_refl _) l4
 ·exact Hp.zEx (Hp.zNi (Hp.zEC d (Hp.le_refl _) l3) (Hp.zEx d'))
theorem zBi {A B:zB} {Γ Δ:List zB} {h:Hp} (ha:∀ h,A h→B h) (hg:∀ h,stars Γ h→stars Δ h) (hs:stars (A::Γ) h):stars (B::Δ) h:=by
 obtain ⟨h1,h2,a,b,l1,l2,d⟩:=hs
 exact ⟨h1,h2,ha _ a,hg _ b,l1,l2,d⟩
theorem zK3 {Γ Δ:List zB} (hp:Γ.Perm Δ):∀ {h:Hp},stars Γ h→stars Δ h:=by
 induction hp with
 | nil=>exact fun h=>h
 | cons x _ ih=>exact fun h=>zBi (fun _ h=>h) (fun _ h=>ih h) h
 | swap x y l=>exact zK2
 | trans _ _ ih1 ih2=>exact fun h=>ih2 (ih1 h)
theorem zNj {Γ Δ:List zB}:∀ {h:Hp},stars (Γ++Δ) h ↔ ∃ h1 h2,stars Γ h1∧stars Δ h2∧h1.le h∧h2.le h∧h1.zMN h2:=by
 induction Γ with
 | nil=>
  intro h
  constructor
  ·intro hs; exact ⟨fun _=>none,h,trivial,hs,fun _ _ e=>(by cases e),Hp.le_refl _,fun _=>.inl rfl⟩
  ·rintro ⟨_,h2,_,hs,_,l,_⟩; exact zPL hs l
 | cons A Γ ih=>
  intro h
  constructor
  ·rintro ⟨h1,h2,a,b,l1,l2,d⟩
   obtain ⟨h3,h4,c,e,l3,l4,d'⟩:=ih.1 b
   refine ⟨h1.or h3,h4,⟨h1,h3,a,c,Hp.zH0 _ _,Hp.zGI (Hp.zEC d (Hp.le_refl _) l3),Hp.zEC d (Hp.le_refl _) l3⟩,e,Hp.zUj l1 (Hp.le_trans l3 l2),Hp.le_trans l4 l2,?_⟩
   exact Hp.zNi (Hp.zEC d (Hp.le_refl _) l4) d'
  ·rintro ⟨h1,h2,⟨h3,h4,a,c,l3,l4,d'⟩,b,l1,l2,d⟩
   refine ⟨h3,h4.or h2,a,ih.2 ⟨h4,h2,c,b,Hp.zH0 _ _,Hp.zGI (Hp.zEC d l4 (Hp.le_refl _)),Hp.zEC d l4 (Hp.le_refl _)⟩,Hp.le_trans l3 l1,Hp.zUj (Hp.le_trans l4 l1) l2,?_⟩
   exact Hp.zEx (Hp.zNi (Hp.zEx d') (Hp.zEx (Hp.zEC d l3 (Hp.le_refl _))))
def own (B w:World):Hp:=fun b=>if b < B.heap.size then none else w.heap[b]?
theorem zGJ {B w:World} {b:Nat} {o:Obj} (h:own B w b = some o):B.heap.size ≤ b∧w.heap[b]? = some o:=by
 unfold own at h
 split at h
 ·cases h
 ·exact ⟨by omega,h⟩
structure Holds (B:World) (Γ:List zB) (w:World):Prop where
 below:Below B.heap.size B w
 stars:stars Γ (own B w)
section
variable {B w:World} {Γ Δ:List zB} {A A':zB}
theorem Holds.start (B:World):Holds B [] B:=⟨Below.refl _ _,trivial⟩
theorem Holds.perm (h:Holds B Γ w) (hp:Γ.Perm Δ):Holds B Δ w:=⟨h.below,zK3 hp h.stars⟩
theorem Holds.tail (h:Holds B (A::Γ) w):Holds B Γ w:=⟨h.below,zK1 h.stars⟩
theorem Holds.swap {A A':zB} (h:Holds B (A::A'::Γ) w):Holds B (A'::A::Γ) w:=⟨h.below,zK2 h.stars⟩
theorem Holds.imp (h:Holds B (A::Γ) w) (hi:∀ h,A h→A' h):Holds B (A'::Γ) w:=⟨h.below,zBi hi (fun _ h=>h) h.stars⟩
theorem zJC {α:Type _}:∀ {l:List α} {i:Nat} {x:α},l[i]? = some x→l.Perm (x::l.eraseIdx i)
 | [],i,x,h=>by simp at h
 | y::l,0,x,h=>by simp at h; subst h; simp
 | y::l,i + 1,x,h=>by
  simp only [List.getElem?_cons_succ] at h
  exact ((zJC h).cons y).trans (.swap _ _ _)
theorem Holds.pick (i:Nat) (h:Holds B Γ w) (hi:Γ[i]? = some A):Holds B (A::Γ.eraseIdx i) w:=h.perm (zJC hi)
theorem Holds.del (i:Nat) (h:Holds B Γ w) (hi:Γ[i]? = some A):Holds B (Γ.eraseIdx i) w:=(h.pick i hi).tail
theorem zPM {α:Type _}:∀ {l:List α} {i:Nat} {x y:α},l[i]? = some x→(y::l.eraseIdx i).Perm (l.set i y)
 | [],i,x,y,h=>by simp at h
 | z::l,0,x,y,h=>by simp
 | z::l,i + 1,x,y,h=>by
  simp only [List.getElem?_cons_succ] at h
  exact (List.Perm.swap _ _ _).trans ((zPM h).cons z)
theorem Holds.put (i:Nat) (hi:Γ[i]? = some A) (h:Holds B (A'::Γ.eraseIdx i) w):Holds B (Γ.set i A') w:=h.perm (zPM hi)
theorem Holds.ex {α:Sort _} {F:α→zB}:Holds B (Sep.ex F::Γ) w ↔ ∃ x,Holds B (F x::Γ) w:=by
 constructor
 ·rintro ⟨hb,h1,h2,⟨x,a⟩,b,l1,l2,d⟩; exact ⟨x,hb,h1,h2,a,b,l1,l2,d⟩
 ·rintro ⟨x,hb,h1,h2,a,b,l1,l2,d⟩; exact ⟨hb,h1,h2,⟨x,a⟩,b,l1,l2,d⟩
theorem Holds.pur {p:Prop}:Holds B (Sep.pur p::Γ) w ↔ p∧Holds B Γ w:=by
 constructor
 ·intro h; exact ⟨by obtain ⟨_,_,_,a,_⟩:=h; exact a,h.tail⟩
 ·rintro ⟨hp,hb,hs⟩; exact ⟨hb,fun _=>Option.none,_,hp,hs,fun _ _ e=>(by cases e),Hp.le_refl _,fun _=>.inl rfl⟩
theorem zK4 {h:Hp}:Sep.stars (Sep.stars Δ::Γ) h ↔ Sep.stars (Δ++Γ) h:=by
 rw [zNj]; rfl
theorem Holds.flat:Holds B (Sep.stars Δ::Γ) w ↔ Holds B (Δ++Γ) w :=
 ⟨fun h=>⟨h.below,zK4.1 h.stars⟩,fun h=>⟨h.below,zK4.2 h.stars⟩⟩
theorem Holds.zCv (h:Holds B Γ w):Holds B (Sep.stars []::Γ) w:=Holds.flat.2 h
theorem Holds.fact {p:Prop} (h:Holds B (A::Γ) w) (hi:∀ h,A h→p):p:=by
 obtain ⟨_,_,_,a,_⟩:=h; exact hi _ a
theorem Holds.block {b:Nat} {o:Obj} (h:Holds B (blk b o::Γ) w):w.heap[b]? = some o:=by
 obtain ⟨_,h1,h2,a,_,l1,_,_⟩:=h
 exact (zGJ (l1 _ _ a)).2
theorem Holds.base {b:Nat} {o:Obj} (h:Holds B (blk b o::Γ) w):B.heap.size ≤ b:=by
 obtain ⟨_,h1,h2,a,_,l1,_,_⟩:=h
 exact (zGJ (l1 _ _ a)).1
theorem Holds.apart {b c:Nat} {o p:Obj} (h:Holds B (blk b o::blk c p::Γ) w):b ≠ c:=by
 rintro rfl
 obtain ⟨_,h1,h2,a,⟨h3,h4,a',_,l3,_,_⟩,l1,_,d⟩:=h
 rcases d b with e | e
 ·unfold blk at a; rw [e] at a; cases a
 ·have:=l3 _ _ a'; rw [e] at this; cases this
theorem zPN (B w:World) (o:Obj):(own B w).le (own B { w with heap:=w.heap.push o }):=fun b p e=>by
 obtain ⟨hb,e⟩:=zGJ e
 have hlt:b < w.heap.size:=(Array.getElem?_eq_some_iff.1 e).1
 unfold own
 rw [if_neg (by omega)]
 show (w.heap.push o)[b]? = _
 rw [Array.getElem?_push,if_neg (by omega)]; exact e
theorem zQ0 (h:Below B.heap.size B w) (o:Obj):Below B.heap.size B { w with heap:=w.heap.push o }:=h.alloc h.size o
theorem Holds.alloc (h:Holds B Γ w) (o:Obj):Holds B (blk w.heap.size o::Γ) { w with heap:=w.heap.push o }:=by
 refine ⟨zQ0 h.below o,Hp.one w.heap.size o,own B w,by simp [blk,Hp.one],h.stars,?_,zPN B w o,?_⟩
 ·intro b p e
  unfold Hp.one at e
  split at e
  ·rename_i hb; subst hb; cases e
   unfold own
   rw [if_neg (by have:=h.below.size; omega)]
   show (w.heap.push o)[w.heap.size]? = _
   simp
  ·cases e
 ·intro b
  by_cases hb:b = w.heap.size
  ·right; unfold own; split
   ·rfl
   ·subst hb; simp
  ·left; simp [Hp.one,hb]
theorem Holds.setBlock {b:Nat} {o o':Obj} (h:Holds B (blk b o::Γ) w) {w':World} (hw:w' = { w with heap:=w.heap.setIfInBounds b o' }):Holds B (blk b o'::Γ) w':=by
 subst hw
 have hblock:=h.block
 have hlt:b < w.heap.size:=(Array.getElem?_eq_some_iff.1 hblock).1
 have hbase:=h.base
 obtain ⟨hbelow,h1,h2,a,b2,l1,l2,d⟩:=h
 refine ⟨⟨hbelow.os,hbelow.tape,hbelow.output,by simpa using hbelow.size,fun k hk=>?_⟩,Hp.one b o',h2,by simp [blk,Hp.one],b2,?_,?_,?_⟩
 ·show (w.heap.setIfInBounds b o')[k]? = _
  rw [Array.getElem?_setIfInBounds_ne (by omega)]; exact hbelow.block k hk
 ·intro c p e
  unfold Hp.one at e
  split at e
  ·rename_i hc; subst hc; cases e
   unfold own; rw [if_neg (by omega)]
   show (w.heap.setIfInBounds c o')[c]? = _
   simp [hlt]
  ·cases e
 ·intro c p e
  have hne:c ≠ b:=by
   rintro rfl
   rcases d c with e' | e'
   ·unfold blk at a; rw [e'] at a; cases a
   ·rw [e'] at e; cases e
  obtain ⟨hc,e⟩:=zGJ (l2 _ _ e)
  unfold own; rw [if_neg (by omega)]
  show (w.heap.setIfInBounds b o')[c]? = _
  rw [Array.getElem?_setIfInBounds_ne (by omega)]; exact e
 ·intro c
  by_cases hc:c = b
  ·subst hc
   rcases d c with e' | e'
   ·unfold blk at a; rw [e'] at a; cases a
   ·right; exact e'
  ·left; simp [Hp.one,hc]
theorem Holds.zSD (h:Holds B Γ w) {w':World} (hh:w'.heap = w.heap) (ho:w'.os = w.os) (ht:w'.tape = w.tape) (hp:w'.output = w.output):Holds B Γ w':=by
 refine ⟨⟨ho.trans h.below.os,ht.trans h.below.tape,hp.trans h.below.output,by rw [hh]; exact h.below.size,fun k hk=>by rw [hh]; exact h.below.block k hk⟩,?_⟩
 have:own B w' = own B w:=by funext b; simp [own,hh]
 rw [this]; exact h.stars
theorem Holds.drew (h:Holds B Γ w) (n:Nat):Holds B Γ { w with drawn:=n }:=h.zSD rfl rfl rfl rfl
theorem Holds.old (h:Holds B Γ w) {b:Nat} {o:Obj} (hb:B.heap[b]? = some o):w.heap[b]? = some o:=by
 have hlt:b < B.heap.size:=(Array.getElem?_eq_some_iff.1 hb).1
 rw [h.below.block b hlt]; exact hb
end
end
section
open Go
structure Sl where
 a:Option Addr
 n:Nat
 c:Nat
abbrev Sl.val (s:Sl):Value:=.slice s.a s.n s.c
def Ret (k:Value→World→Prop):Ending→World→Prop
 | .returned v,w=>k v w
 | _,_=>False
def look:List (Nat×Value)→Nat→Option Value
 | [],_=>none
 | (j,v)::σ,i=>match Nat.beq i j with
  | true=>some v
  | false=>look σ i
theorem zJD {p:Nat×Value} {σ:List (Nat×Value)} {i:Nat}:look (p::σ) i = if i = p.1 then some p.2 else look σ i:=by
 obtain ⟨j,u⟩:=p
 show (match Nat.beq i j with | true=>some u | false=>look σ i) = _
 by_cases h:i = j
 ·simp [h]
 ·have:Nat.beq i j = false:=by
   cases hb:Nat.beq i j with
   | false=>rfl
   | true=>exact absurd (Nat.eq_of_beq_eq_true hb) h
  simp [this,h]
def ev (σ:List (Nat×Value)):Operand→Option Value
 | .tmp t=>look σ t
 | .const v=>some v
 | .global g=>some (.pointer (some ⟨g,0,none⟩))
 | .func f=>some (.func (.func f) #[] #[])
structure Slots (a:Act) (n:Nat) (σ:List (Nat×Value)):Prop where
 size:a.tmps.size = n
 defers:a.defers = []
 at':∀ i v,look σ i = some v→a.tmps.getD i undef = v
def Sub (σ:List (Nat×Value)):List (Nat×Value)→Prop
 | []=>True
 | p::τ=>look σ p.1 = some p.2∧Sub σ τ
theorem Sub.look {σ:List (Nat×Value)}:∀ {τ:List (Nat×Value)},Sub σ τ→∀ i v,look τ i = some v→Sep.look σ i = some v
 | [],_,i,v,h=>by simp [Sep.look] at h
 | p::τ,hs,i,v,h=>by
  rw [zJD] at h
  split at h
  ·rename_i e; subst e; cases h; exact hs.1
  ·exact Sub.look hs.2 i v h
section
variable {a:Act} {n:Nat} {σ τ:List (Nat×Value)}
theorem Slots.to (h:Slots a n σ) (hs:Sub σ τ):Slots a n τ:=⟨h.size,h.defers,fun i v e=>h.at' i v (hs.look i v e)⟩
theorem Slots.ev (h:Slots a n σ) {x:Operand} {v:Value} (hx:Sep.ev σ x = some v):a.eval x = v:=by
 cases x with
 | tmp t=>exact h.at' _ _ hx
 | const u=>exact Option.some.inj hx
 | global g=>exact Option.some.inj hx
 | func f=>exact Option.some.inj hx
theorem Slots.put (h:Slots a n σ) {d:Nat} (hd:d < n) (v:Value):Slots (a.put (some d) v) n ((d,v)::σ):=by
 refine ⟨by simp [Act.put,h.size],h.defers,fun i u e=>?_⟩
 rw [zJD] at e
 split at e
 ·rename_i hi; simp only at hi; subst hi; cases e
  have:i < a.tmps.size:=by rw [h.size]; exact hd
  simp [Act.put,this]
 ·rename_i hi
  have:=h.at' i u e
  simpa [Act.put,Array.getElem?_setIfInBounds_ne (Ne.symm hi)] using this
theorem Slots.init (args:List Value) (n:Nat) (hn:args.length ≤ n):Slots { tmps:=args.toArray++Array.replicate (n - args.toArray.size) undef,defers:=[] } n (args.zipIdx.map fun p=>(p.2,p.1)):=by
 refine ⟨by simp; omega,rfl,fun i v e=>?_⟩
 have key:∀ (l:List Value) (k i:Nat) (v:Value),look ((l.zipIdx k).map fun p=>(p.2,p.1)) i = some v→k ≤ i∧l[i - k]? = some v:=by
  intro l
  induction l with
  | nil=>intro k i v e; simp [look] at e
  | cons x l ih=>
   intro k i v e
   simp only [List.zipIdx_cons,List.map_cons] at e
   rw [zJD] at e
   split at e
   ·rename_i hi; simp only at hi; subst hi; cases e; simp
   ·rename_i hi
    obtain ⟨h1,h2⟩:=ih _ _ _ e
    refine ⟨by omega,?_⟩
    rw [show i - k = (i - (k + 1)) + 1 by omega]; simpa using h2
 obtain ⟨_,h2⟩:=key args 0 i v e
 simp only [Nat.sub_zero] at h2
 have hlt:i < args.length:=(List.getElem?_eq_some_iff.1 h2).1
 have h3:=(List.getElem?_eq_some_iff.1 h2).2
 simp [Array.getElem?_append,hlt,h3]
end
section
variable {P:Program} {ops:Array Oper} {Q:Exit→Act→World→Prop} {rest:List Oper} {o:Oper} {a:Act} {n:Nat} {σ:List (Nat×Value)} {w w':World} {v:Value}
def Pure (P:Program) (σ:List (Nat×Value)) (o:Oper) (v:Value):Prop :=
 ∀ (a:Act) (n:Nat),Slots a n σ→∀ w,(execOp a.eval o).run P w = .ok (.value v) w
def Eff (P:Program) (σ:List (Nat×Value)) (o:Oper) (w:World) (x:Next) (w':World):Prop :=
 ∀ (a:Act) (n:Nat),Slots a n σ→(execOp a.eval o).run P w = .ok x w'
theorem Pure.eff (h:Pure P σ o v) (w:World):Eff P σ o w (.value v) w:=fun a n hs=>h a n hs w
def wants (ops:Array Oper) (σ:List (Nat×Value)) (o:Oper):Option Bool :=
 match o.guard with
 | none=>some true
 | some (j,want)=>match (ops[j]?).bind (·.dst) with
  | none=>some false
  | some t=>match look σ t with
   | some v=>match v with
    | .bool b=>some (b == want)
    | _=>some false
   | none=>none
theorem uT (hs:Slots a n σ) {b:Bool} (h:wants ops σ o = some b):Region.wanted o (yielded ops a.tmps) = b:=by
 unfold wants at h
 unfold Region.wanted
 split at h
 ·rename_i hg; simp only [hg]; simpa using h
 ·rename_i j want hg
  simp only [hg]
  unfold yielded
  split at h
  ·rename_i hd; simp only [Option.some.injEq] at h; subst h
   cases hj:ops[j]? with
   | none=>simp
   | some oj=>simp [hj] at hd; simp [hd]
  ·rename_i t ht
   split at h
   ·rename_i v hb
    have:=hs.at' _ _ hb
    cases hj:ops[j]? with
    | none=>simp [hj] at ht
    | some oj=>
     simp [hj] at ht
     simp only [ht,Option.bind_some]
     cases hx:a.tmps[t]? with
     | none=>
      simp [hx] at this; subst this
      simp [undef] at h; subst h; simp
     | some x=>
      simp [hx] at this; subst this
      cases x <;> simp at h <;> subst h <;> simp
   ·cases h
def Oper.bare (o:Oper):Oper:={ o with guard:=none }
end
section
variable {P:Program} {ops:Array Oper} {Q:Exit→Act→World→Prop} {S:World→Prop} {o:Oper} {a:Act} {n:Nat} {σ:List (Nat×Value)} {w w':World} {v:Value} {fuel:Nat} {listed:Array Bool}
def Any:World→Prop:=fun _=>True
theorem Any.intro (w:World):Any w:=trivial
def Is (u:World):World→Prop:=fun x=>x = u
theorem Is.intro (u:World):Is u u:=rfl
theorem Is.out {u x:World} (h:Is u x):x = u:=h
def zD9 (Q:Exit→Act→World→Prop):Prop:=∀ c a w,¬ Q (.panic c) a w
def zQ1 (P:Program) (ops:Array Oper) (Q:Exit→Act→World→Prop) (S:World→Prop) (ds:List Nat):Nat→Array Bool→Act→World→Prop
 | 0,listed,a,w=>Region.ready .any ops listed = []∧Q .normal a w
 | fuel + 1,listed,a,w=>
  (Region.ready .any ops listed = []→Q .normal a w) ∧
  ∀ i ∈ Region.ready .any ops listed,wpOp P ops Q i (fun a' w'=>(i ∉ ds→S w→S w')∧zQ1 P ops Q S ds fuel (listed.setIfInBounds i true) a' w') a w
variable {ds:List Nat}
def reach (ops:Array Oper) (i:Nat):Nat→Nat→Bool
 | 0,_=>false
 | n + 1,d=>match ops[d]? with
  | some od=>od.after.any fun e=>Region.binds .any e && (e.on == i || reach ops i n e.on)
  | none=>false
def Closed (ops:Array Oper) (l:Array Bool):Prop :=
 ∀ (j:Nat) (oj:Oper),ops[j]? = some oj→l.getD j false = true→∀ e ∈ oj.after,Region.binds .any e = true→l.getD e.on false = true
theorem zFU {ops:Array Oper} {l:Array Bool} {i:Nat} (hc:Closed ops l):∀ (n d:Nat) (od:Oper),ops[d]? = some od→(∀ e ∈ od.after,Region.binds .any e = true→l.getD e.on false = true)→reach ops i n d = true→l.getD i false = true
 | 0,_,_,_,_,h=>by simp [reach] at h
 | n + 1,d,od,hd,hall,h=>by
  simp only [reach,hd,Array.any_eq_true'] at h
  obtain ⟨e,he,hb⟩:=h
  simp only [Bool.and_eq_true,Bool.or_eq_true,beq_iff_eq] at hb
  have h1:=hall e he hb.1
  rcases hb.2 with h2 | h2
  ·rw [← h2]; exact h1
  ·cases ho:ops[e.on]? with
   | none=>cases n <;> simp [reach,ho] at h2
   | some oe=>exact zFU hc n e.on oe ho (hc e.on oe ho h1) h2
theorem Closed.put {ops:Array Oper} {l:Array Bool} (h:Closed ops l) {j:Nat} (hj:j ∈ Region.ready .any ops l):Closed ops (l.setIfInBounds j true):=by
 intro k ok hk hl e he hb
 obtain ⟨_,oj,hoj,hall⟩:=mem_ready.1 hj
 by_cases hjk:j = k
 ·subst hjk; rw [hk] at hoj; cases hoj; exact getD_set_true (hall e he hb)
 ·rw [getD_set_ne false hjk] at hl; exact getD_set_true (h k ok hk hl e he hb)
def zUk (P:Program) (ops:Array Oper) (Q:Exit→Act→World→Prop) (S:World→Prop) (ds:List Nat) (fuel:Nat) (l:Array Bool) (a:Act) (w:World) (rs:List Nat):Prop :=
 ∀ i ∈ rs,wpOp P ops Q i (fun a' w'=>(i ∉ ds→S w→S w')∧zQ1 P ops Q S ds fuel (l.setIfInBounds i true) a' w') a w
theorem zUk.nil {l:Array Bool}:zUk P ops Q S ds fuel l a w []:=fun _ h=>by cases h
theorem zUk.cons {l:Array Bool} {i:Nat} {rs:List Nat} (h:wpOp P ops Q i (fun a' w'=>(i ∉ ds→S w→S w')∧zQ1 P ops Q S ds fuel (l.setIfInBounds i true) a' w') a w)
  (hs:zUk P ops Q S ds fuel l a w rs):zUk P ops Q S ds fuel l a w (i::rs):=fun j hj=>by
 rcases List.mem_cons.1 hj with rfl | hj
 ·exact h
 ·exact hs j hj
end
section
variable {P:Program} {ops:Array Oper} {Q:Act→Prop} {rest:List Oper} {o:Oper} {a:Act} {n:Nat} {σ:List (Nat×Value)} {w:World} {v:Value}
theorem zYE (hs:Slots a n σ) {d:Nat} (hg:o.guard = none) (hd:o.dst = some d) (hn:d < n) (hp:Eff P σ o w (.value v) w)
  (hk:∀ a,Slots a n ((d,v)::σ)→wpStill P ops w Q rest a):wpStill P ops w Q (o::rest) a:=by
 unfold wpStill
 rw [if_pos (by simp [Region.wanted,hg])]
 unfold Oper.still
 rw [hp a n hs,Oper.stillUpon_value,hd]
 exact hk _ (hs.put hn v)
theorem zY0 (hs:Slots a n σ) {d:Nat} (hg:o.guard = none) (hd:o.dst = some d) (hn:d < n) (hp:Pure P σ o v)
  (hk:∀ a,Slots a n ((d,v)::σ)→wpStill P ops w Q rest a):wpStill P ops w Q (o::rest) a:=zYE hs hg hd hn (hp.eff w) hk
theorem zYF (hs:Slots a n σ) (hw:wants ops σ o = some true) (hk:wpStill P ops w Q (Sep.Oper.bare o::rest) a):wpStill P ops w Q (o::rest) a:=by
 have h1:=uT hs hw
 unfold wpStill at hk ⊢
 rw [if_pos h1]
 rw [if_pos (by simp [Region.wanted,Sep.Oper.bare])] at hk
 exact hk
theorem zbJ (hs:Slots a n σ) (hw:wants ops σ o = some false) {d:Nat} (hd:o.dst = some d) (hn:d < n) (hk:∀ a,Slots a n ((d,undef)::σ)→wpStill P ops w Q rest a):wpStill P ops w Q (o::rest) a:=by
 have h1:=uT hs hw
 unfold wpStill
 rw [if_neg (by rw [h1]; simp),hd]
 exact hk _ (hs.put hn _)
theorem zWp {l:List Oper} {id:Nat} {Q:Exit→Act→World→Prop} {w':World} (hm:P.follows .mixedOrders = true) (hB:Region.lexB .any l.toArray = true) (hw:w' = { w with drawn:=w.drawn + 1 })
  (h:wpStill P l.toArray w' (fun a'=>Q .normal a' w') l a):(Code.region id l.toArray true).wp P Q a w:=by
 subst hw; exact wp_region_still_lit hm hB h
end
section
variable {P:Program} {Q:Exit→Act→World→Prop} {a:Act} {n:Nat} {σ:List (Nat×Value)} {w:World}
def yN {α:Type} (body:(α→World→Prop)→α→World→Prop) (x:α) (w:World):Prop :=
 ∃ (I:α→World→Prop) (μ:α→World→Nat),I x w∧∀ x w,I x w→body (fun x' w'=>I x' w'∧μ x' w' < μ x w) x w
theorem yN.of {α:Type} {body:(α→World→Prop)→α→World→Prop} {x:α} {w:World} (I:α→World→Prop) (μ:α→World→Nat) (h0:I x w)
  (h:∀ x w,I x w→body (fun x' w'=>I x' w'∧μ x' w' < μ x w) x w):yN body x w:=⟨I,μ,h0,h⟩
end
end
section
open Go
abbrev K:=World→Prop
def callable (P:Program) (f:FuncId):Bool:=match P.funcs[f]? with
 | some fn => fn.name != "runtime.NumGoroutine" && fn.body.isSome
 | none=>false
def Do {α β:Type} (P:Program) (s:Sem β) (c:α→β) (k:α→K):K:=fun w=>∃ x w',s.run P w = .ok (c x) w'∧k x w'
def Ld {α:Type} (a:Addr) (c:α→Value) (k:α→K):K:=fun w=>∃ x,w.cell? a = some (c x)∧k x w
def RdN (w:World) (a:Addr) (cs:Array Value):Prop:=∀ i,i < cs.size→w.cell? (a.add i) = cs[i]?
def LdN (a:Addr) (n:Nat) (k:Array Value→K):K:=fun w=>∃ cs:Array Value,cs.size = n∧RdN w a cs∧k cs w
def yX:Value→Bool
 | .agg _ | .tuple _=>false
 | _=>true
def St (a:Addr) (v:Value) (k:K):K:=fun w=>∃ w',w' = w.setCell a v∧(∃ u,w.cell? a = some u)∧w.frozen? a = false∧yX v = true∧k w'
def setCells (a:Addr):List Value→Nat→World→World
 | [],_,w=>w
 | v::vs,i,w=>setCells a vs (i + 1) (w.setCell (a.add i) v)
def StN (a:Addr) (n:Nat) (cs:Array Value) (k:K):K:=fun w=>∃ w',w' = setCells a cs.toList 0 w∧cs.size = n ∧
 (∀ i,i < cs.size→(∃ u,w.cell? (a.add i) = some u)∧w.frozen? (a.add i) = false)∧(∀ v ∈ cs.toList,yX v = true)∧k w'
def New (T:TypeId) (cs:Array Value) (k:Addr→K):K:=fun w=>∃ a w',a = ⟨w.heap.size,0,none⟩∧w' = { w with heap:=w.heap.push (.cells cs T) }∧k a w'
def zK (P:Program) (f:FuncId) (args:Array Value) (k:Value→K):K:=fun w=>Calls P f args w (Ret k)
def Ar (e:Int) (k:Int→K):K:=fun w=>∃ t,t = e∧k t w
def Do2 {α β γ:Type} (P:Program) (s:Sem γ) (c:α→β→γ) (k:α→β→K):K:=fun w=>∃ x y w',s.run P w = .ok (c x y) w'∧k x y w'
def DoU (P:Program) (s:Sem Unit) (k:K):K:=fun w=>∃ u w',s.run P w = .ok u w'∧k w'
def Rd {α:Type} (P:Program) (s:Sem Value) (c:α→Value) (k:α→K):K:=fun w=>∃ x,s.run P w = .ok (c x) w∧k x w
def Rd2 {α β:Type} (P:Program) (s:Sem Value) (c:α→β→Value) (k:α→β→K):K:=fun w=>∃ x y,s.run P w = .ok (c x y) w∧k x y w
def Pu {α:Type} (P:Program) (s:Sem Value) (c:α→Value) (k:α→K):K:=fun w=>∃ x,(∀ w,s.run P w = .ok (c x) w)∧k x w
def Cd (p:Prop) (k:K):K:=fun w=>p∧k w
def Ite (b:Bool) (x y:K):K:=fun w=>(b = true→x w)∧(b = false→y w)
def Fv (P:Program) (f:Value) (k:FuncId→Array Value→Array Value→K):K:=fun w=>∃ g fs cs,f = .func (.func g) fs cs∧callable P g = true∧k g fs cs w
def vW (P:Program) (f:Value) (args:List Value) (k:Value→K):K:=fun w =>
 ∃ g fs cs,f = .func (.func g) fs cs∧callable P g = true∧Calls P g (fs++args.toArray++cs) w (Ret k)
def jI (v0:Value) (k:K):Value→K:=fun v w=>v = v0∧k w
def yH {α:Type} (c:α→Value) (k:α→K):Value→K:=fun v w=>∃ x,v = c x∧k x w
def zAZ {α β:Type} (c:α→β→Value) (k:α→β→K):Value→K:=fun v w=>∃ x y,v = c x y∧k x y w
def zDH {α β γ:Type} (c:α→β→γ→Value) (k:α→β→γ→K):Value→K:=fun v w=>∃ x y z,v = c x y z∧k x y z w
def Ext {α:Type} (t:Value) (i:Nat) (c:α→Value) (k:α→K):K:=fun w=>∃ vs x,t = .tuple vs∧vs[i]? = some (c x)∧k x w
def Dead:K:=fun _=>False
def Dr (k:K):K:=fun w=>∃ w',w' = { w with drawn:=w.drawn + 1 }∧k w'
def yZ (k:(World→Prop)→K):K:=fun w=>∃ S:World→Prop,S w∧k S w
def Sv (S:World→Prop) (k:K):K:=fun w=>S w∧k w
def LdS {α:Type} (S:World→Prop) (a:Addr) (c:α→Value) (k:α→K):K:=fun w=>∃ x,(∀ w,S w→w.cell? a = some (c x))∧k x w
def vG (S:World→Prop) (a:Addr) (n:Nat) (k:Array Value→K):K:=fun w=>∃ cs:Array Value,cs.size = n∧(∀ w,S w→RdN w a cs)∧k cs w
def RdS {α:Type} (P:Program) (S:World→Prop) (s:Sem Value) (c:α→Value) (k:α→K):K:=fun w=>∃ x,(∀ w,S w→s.run P w = .ok (c x) w)∧k x w
def zDw {α β:Type} (P:Program) (S:World→Prop) (s:Sem Value) (c:α→β→Value) (k:α→β→K):K:=fun w=>∃ x y,(∀ w,S w→s.run P w = .ok (c x y) w)∧k x y w
def Nn (p:Option Addr) (k:Addr→K):K:=fun w=>∃ a,p = some a∧k a w
def Idx (s:Sl) (i:Int) (esz:Nat) (k:Addr→K):K:=fun w=>∃ a t,s.a = some a∧0 ≤ i∧i < s.n∧t = a.add (i.toNat * esz)∧k t w
def zAz (a:Addr) (len:Nat) (i:Int) (esz:Nat) (k:Addr→K):K:=fun w=>∃ t,0 ≤ i∧i < len∧t = a.add (i.toNat * esz)∧k t w
def zDk (s:ByteArray) (i:Int) (k:Int→K):K:=fun w=>∃ (t:Int) (b:UInt8),0 ≤ i∧s[i.toNat]? = some b∧t = (b.toNat:Int)∧k t w
def Fld {α:Type} (cs:Array Value) (off:Nat) (c:α→Value) (k:α→K):K:=fun w=>∃ x,cs[off]? = some (c x)∧k x w
def Bld (zero:Array Value) (place:Nat→Option (Nat×Nat)) (parts:List (Nat×Value)) (k:Array Value→K):K:=fun w =>
 ∃ cs,Instr.fill place zero parts = some cs∧k cs w
def zBj (a:Option Addr) (l m esz:Nat):Option Addr:=if m = l then a else a.map (·.add (l * esz))
def Slc (s:Sl) (lo hi mx:Int) (esz:Nat) (k:Sl→K):K:=fun w =>
 ∃ t,0 ≤ lo∧lo ≤ hi∧hi ≤ mx∧mx ≤ s.c∧t = ⟨zBj s.a lo.toNat mx.toNat esz,hi.toNat - lo.toNat,mx.toNat - lo.toNat⟩∧k t w
def zDx (s:ByteArray) (lo hi:Int) (k:ByteArray→K):K:=fun w =>
 ∃ t,0 ≤ lo∧lo ≤ hi∧hi ≤ s.size∧t = s.extract lo.toNat hi.toNat∧k t w
def Cat (a b:ByteArray) (k:ByteArray→K):K:=fun w=>∃ t,((a.size + b.size:Nat):Int) ≤ 9223372036854775807∧t = a++b∧k t w
def All (l:List (World→Prop)):K:=fun w=>∀ (i:Nat) (x:World→Prop),l[i]? = some x→x w
def zMo (P:Program) (T:TypeId):Bool:=match P.underlying T with
 | some (.struct _) | some (.array _ _) | none=>false
 | some _=>true
def zTn (P:Program) (T:TypeId) (n:Nat):Bool:=match P.underlying T with
 | some (.struct _) | some (.array _ _)=>(P.info? T).map (·.size) == some n
 | _=>false
def sizeT (P:Program) (T:TypeId) (n:Nat):Bool:=(P.info? T).map (·.size) == some n
def sliceT (P:Program) (T E:TypeId) (esz:Nat):Bool:=match P.underlying T with
 | some (.slice e)=>e == E && (P.info? E).map (·.size) == some esz
 | _=>false
def zNk (P:Program) (T E:TypeId) (len esz:Nat):Bool:=match P.underlying T with
 | some (.array n e)=>n == len && e == E && (P.info? E).map (·.size) == some esz
 | _=>false
def zEi (P:Program) (T:TypeId):Bool:=match P.underlying T with | some .string=>true | _=>false
def zUl (P:Program) (T:TypeId) (k:IntKind):Bool:=match P.underlying T with | some (.int k')=>k == k' | _=>false
def zNl (P:Program) (S i off n:Nat):Bool:=match P.underlying S with
 | some (.struct fs)=>match fs[i]? with
  | some f=>f.offset == off && n != 0 && (P.info? f.type).map (·.size) == some n
  | none=>false
 | _=>false
def zQ2 (P:Program) (S i off:Nat):Bool:=match P.underlying S with
 | some (.struct fs)=>match fs[i]? with
  | some f=>f.offset == off && zMo P f.type
  | none=>false
 | _=>false
def zQ3 (P:Program) (S i off n:Nat):Bool:=match P.underlying S with
 | some (.struct fs)=>match fs[i]? with
  | some f=>f.offset == off && zTn P f.type n
  | none=>false
 | _=>false
section
variable {P:Program} {w:World}
theorem zH1 {T:TypeId} (h:zMo P T = true):(isAgg T).run P w = .ok false w:=by
 unfold zMo at h
 unfold isAgg underlying program
 cases hu:P.underlying T with
 | none=>simp [hu] at h
 | some d=>cases d <;> simp [hu,Sem.run,Sem.run_bind'] at h ⊢ <;> simp_all [bind,Sem.bind,Sem.run,pure]
theorem zEO {T n:Nat} (h:zTn P T n = true):(isAgg T).run P w = .ok true w∧(sizeOf T).run P w = .ok n w:=by
 unfold zTn at h
 unfold isAgg sizeOf typeInfo underlying program
 cases hi:P.info? T with
 | none=>cases hu:P.underlying T with
  | none=>simp [hu] at h
  | some d=>cases d <;> simp [hu,hi] at h
 | some i=>cases hu:P.underlying T with
  | none=>simp [hu] at h
  | some d=>cases d <;> simp [hu,hi] at h ⊢ <;> simp_all [bind,Sem.bind,Sem.run,pure]
theorem jD {T n:Nat} (h:sizeT P T n = true):(sizeOf T).run P w = .ok n w:=by
 unfold sizeT at h
 unfold sizeOf typeInfo program
 cases hi:P.info? T with
 | none=>simp [hi] at h
 | some i=>simp [hi] at h ⊢; simp_all [bind,Sem.bind,Sem.run,pure]
theorem je {T E esz:Nat} (h:sliceT P T E esz = true):P.underlying T = some (.slice E)∧sizeT P E esz = true:=by
 unfold sliceT at h
 split at h
 ·rename_i e he; simp at h; obtain ⟨rfl,h⟩:=h; exact ⟨he,by unfold sizeT; simpa using h⟩
 ·cases h
theorem zJq {T E len esz:Nat} (h:zNk P T E len esz = true):P.underlying T = some (.array len E)∧sizeT P E esz = true:=by
 unfold zNk at h
 split at h
 ·rename_i n e he; simp at h; obtain ⟨⟨rfl,rfl⟩,h⟩:=h; exact ⟨he,by unfold sizeT; simpa using h⟩
 ·cases h
theorem zCw {T:Nat} (h:zEi P T = true):P.underlying T = some .string:=by
 unfold zEi at h; split at h
 ·assumption
 ·cases h
theorem zMp {T:Nat} {k:IntKind} (h:zUl P T k = true):P.underlying T = some (.int k):=by
 unfold zUl at h; split at h
 ·rename_i k' hk; simp at h; subst h; exact hk
 ·cases h
theorem run_underlying {T:TypeId} {d:TypeDesc} (h:P.underlying T = some d):(underlying T).run P w = .ok d w:=by
 simp [underlying,program,h,Sem.run]
end
theorem Pure.adr {P:Program} {σ:List (Nat×Value)} {o:Oper} {t e:Addr} (he:t = e) (h:Pure P σ o (.pointer (some e))):Pure P σ o (.pointer (some t)):=he ▸ h
theorem Pure.sl {P:Program} {σ:List (Nat×Value)} {o:Oper} {t e:Sl} (he:t = e) (h:Pure P σ o e.val):Pure P σ o t.val:=he ▸ h
theorem Pure.str {P:Program} {σ:List (Nat×Value)} {o:Oper} {t e:ByteArray} (he:t = e) (h:Pure P σ o (.string e)):Pure P σ o (.string t):=he ▸ h
theorem Pure.int {P:Program} {σ:List (Nat×Value)} {o:Oper} {k:IntKind} {t e:Int} (he:t = e) (h:Pure P σ o (.int k e)):Pure P σ o (.int k t):=he ▸ h
section
variable {P:Program} {σ:List (Nat×Value)} {o:Oper} {x y:Operand} {w:World}
theorem zUm {v:Value} (ho:o.op = .move x) (hx:ev σ x = some v):Pure P σ o v:=fun a n hs w=>by
 simp [execOp,ho,hs.ev hx]
theorem zPO {v:Value} (ho:o.op = .assign x) (hx:ev σ x = some v):Pure P σ o v:=fun a n hs w=>by
 simp [execOp,ho,hs.ev hx]
theorem zPP {c:Operand} {v:Value} (ho:o.op = .pick c x y) (hc:ev σ c = some (.bool true)) (hx:ev σ x = some v):Pure P σ o v:=fun a n hs w=>by
 simp [execOp,ho,hs.ev hx,hs.ev hc,asBool]
theorem zPQ {c:Operand} {v:Value} (ho:o.op = .pick c x y) (hc:ev σ c = some (.bool false)) (hy:ev σ y = some v):Pure P σ o v:=fun a n hs w=>by
 simp [execOp,ho,hs.ev hy,hs.ev hc,asBool]
theorem zPR {c:Operand} {b p q:Bool} (ho:o.op = .pick c x y) (hc:ev σ c = some (.bool b)) (hx:ev σ x = some (.bool p)) (hy:ev σ y = some (.bool q)):Pure P σ o (.bool (bif b then p else q)):=fun a n hs w=>by
 cases b <;> simp [execOp,ho,hs.ev hx,hs.ev hy,hs.ev hc,asBool]
theorem zYG {a:Addr} (ho:o.op = .nilCheck x) (hx:ev σ x = some (.pointer (some a))):Pure P σ o (.pointer (some a)):=fun _ n hs w=>by
 simp [execOp,ho,hs.ev hx]
theorem zUn {f:FuncId} {c d:Array Value} (ho:o.op = .nilCheck x) (hx:ev σ x = some (.func (.func f) c d)):Pure P σ o (.func (.func f) c d):=fun _ n hs w=>by
 simp [execOp,ho,hs.ev hx]
theorem zJr {S i off n:Nat} {a:Addr} (ho:o.op = .fieldAddr S x i) (hx:ev σ x = some (.pointer (some a))) (hf:zNl P S i off n = true):Pure P σ o (.pointer (some (a.add off))):=fun _ _ hs w=>by
 unfold zNl at hf
 split at hf
 ·rename_i fs hS
  split at hf
  ·rename_i f hfi
   simp at hf
   obtain ⟨⟨h1,h2⟩,h3⟩:=hf
   have hz:(sizeOf f.type).run P w = .ok n w:=jD (by unfold sizeT; simpa using h3)
   simp [execOp,ho,hs.ev hx,Instr.fieldAt,run_underlying hS,hfi,Instr.sureAddr,fieldPlace,hz,h2,h1]
  ·cases hf
 ·cases hf
theorem zNm {S i n:Nat} {a:Addr} (ho:o.op = .fieldAddr S x i) (hx:ev σ x = some (.pointer (some a))) (hf:zNl P S i 0 n = true):Pure P σ o (.pointer (some a)):=by
 simpa [Addr.add] using zJr ho hx hf
theorem zWq {S i off:Nat} {cs:Array Value} {v:Value} (ho:o.op = .field S x i) (hx:ev σ x = some (.agg cs)) (hf:zQ2 P S i off = true) (hv:cs[off]? = some v):Pure P σ o v:=fun _ _ hs w=>by
 unfold zQ2 at hf
 split at hf
 ·rename_i fs hS
  split at hf
  ·rename_i f hfi
   simp at hf
   obtain ⟨h1,h2⟩:=hf
   subst h1
   simp [execOp,ho,hs.ev hx,Instr.field,run_underlying hS,hfi,asAgg,part,zH1 h2,hv]
  ·cases hf
 ·cases hf
theorem zUo {S i off n:Nat} {cs:Array Value} (ho:o.op = .field S x i) (hx:ev σ x = some (.agg cs)) (hf:zQ3 P S i off n = true):Pure P σ o (.agg (cs.extract off (off + n))):=fun _ _ hs w=>by
 unfold zQ3 at hf
 split at hf
 ·rename_i fs hS
  split at hf
  ·rename_i f hfi
   simp at hf
   obtain ⟨h1,h2⟩:=hf
   subst h1
   simp [execOp,ho,hs.ev hx,Instr.field,run_underlying hS,hfi,asAgg,part,(zEO h2).1,(zEO h2).2]
  ·cases hf
 ·cases hf
section ints
variable {T U:TypeId} {k:IntKind} {a b:Int}
theorem zYH (ho:o.op = .binOp .add T x y U) (hx:ev σ x = some (.int k a)) (hy:ev σ y = some (.int k b)):Pure P σ o (.int k (k.wrap (a + b))):=fun _ _ hs w=>by
 simp [execOp,ho,hs.ev hx,hs.ev hy,eqGuard,binOp,Op.intArith]
theorem zYI (ho:o.op = .binOp .sub T x y U) (hx:ev σ x = some (.int k a)) (hy:ev σ y = some (.int k b)):Pure P σ o (.int k (k.wrap (a - b))):=fun _ _ hs w=>by
 simp [execOp,ho,hs.ev hx,hs.ev hy,eqGuard,binOp,Op.intArith]
theorem zYJ (ho:o.op = .binOp .mul T x y U) (hx:ev σ x = some (.int k a)) (hy:ev σ y = some (.int k b)):Pure P σ o (.int k (k.wrap (a * b))):=fun _ _ hs w=>by
 simp [execOp,ho,hs.ev hx,hs.ev hy,eqGuard,binOp,Op.intArith]
theorem zYK (ho:o.op = .binOp .quo T x y U) (hx:ev σ x = some (.int k a)) (hy:ev σ y = some (.int k b)) (hb:b ≠ 0):Pure P σ o (.int k (k.wrap (a.tdiv b))):=fun _ _ hs w=>by
 simp [execOp,ho,hs.ev hx,hs.ev hy,eqGuard,binOp,Op.intDiv,hb]
theorem zYL (ho:o.op = .binOp .rem T x y U) (hx:ev σ x = some (.int k a)) (hy:ev σ y = some (.int k b)) (hb:b ≠ 0):Pure P σ o (.int k (a.tmod b)):=fun _ _ hs w=>by
 simp [execOp,ho,hs.ev hx,hs.ev hy,eqGuard,binOp,Op.intDiv,hb]
theorem zZz (ho:o.op = .binOp .eql T x y U) (hx:ev σ x = some (.int k a)) (hy:ev σ y = some (.int k b)):Pure P σ o (.bool (decide (a = b))):=fun _ _ hs w=>by
 simp [execOp,ho,hs.ev hx,hs.ev hy,eqGuard,binOp,Op.intCmp]; rfl
theorem zZ0 (ho:o.op = .binOp .neq T x y U) (hx:ev σ x = some (.int k a)) (hy:ev σ y = some (.int k b)):Pure P σ o (.bool (decide (a ≠ b))):=fun _ _ hs w=>by
 by_cases h:a = b <;> simp [execOp,ho,hs.ev hx,hs.ev hy,eqGuard,binOp,Op.intCmp,h]
theorem zZ1 (ho:o.op = .binOp .lss T x y U) (hx:ev σ x = some (.int k a)) (hy:ev σ y = some (.int k b)):Pure P σ o (.bool (decide (a < b))):=fun _ _ hs w=>by
 simp [execOp,ho,hs.ev hx,hs.ev hy,eqGuard,binOp,Op.intCmp]
theorem zZ2 (ho:o.op = .binOp .leq T x y U) (hx:ev σ x = some (.int k a)) (hy:ev σ y = some (.int k b)):Pure P σ o (.bool (decide (a ≤ b))):=fun _ _ hs w=>by
 simp [execOp,ho,hs.ev hx,hs.ev hy,eqGuard,binOp,Op.intCmp]
theorem zZ3 (ho:o.op = .binOp .gtr T x y U) (hx:ev σ x = some (.int k a)) (hy:ev σ y = some (.int k b)):Pure P σ o (.bool (decide (b < a))):=fun _ _ hs w=>by
 simp [execOp,ho,hs.ev hx,hs.ev hy,eqGuard,binOp,Op.intCmp]
theorem zZ4 (ho:o.op = .binOp .geq T x y U) (hx:ev σ x = some (.int k a)) (hy:ev σ y = some (.int k b)):Pure P σ o (.bool (decide (b ≤ a))):=fun _ _ hs w=>by
 simp [execOp,ho,hs.ev hx,hs.ev hy,eqGuard,binOp,Op.intCmp]
def bitsOf (op:BinOp) (k:IntKind) (a b:Int):Int :=
 let u:=BitVec.ofInt k.bits a
 let v:=BitVec.ofInt k.bits b
 k.wrap (match op with | .and=>(u &&& v).toNat | .or=>(u ||| v).toNat | .xor=>(u ^^^ v).toNat | _=>(u &&& ~~~v).toNat)
theorem zYM (ho:o.op = .binOp .and T x y U) (hx:ev σ x = some (.int k a)) (hy:ev σ y = some (.int k b)):Pure P σ o (.int k (bitsOf .and k a b)):=fun _ _ hs w=>by
 simp [execOp,ho,hs.ev hx,hs.ev hy,eqGuard,binOp,Op.intBits,bitsOf]
theorem zZ5 (ho:o.op = .binOp .or T x y U) (hx:ev σ x = some (.int k a)) (hy:ev σ y = some (.int k b)):Pure P σ o (.int k (bitsOf .or k a b)):=fun _ _ hs w=>by
 simp [execOp,ho,hs.ev hx,hs.ev hy,eqGuard,binOp,Op.intBits,bitsOf]
theorem zYN (ho:o.op = .binOp .xor T x y U) (hx:ev σ x = some (.int k a)) (hy:ev σ y = some (.int k b)):Pure P σ o (.int k (bitsOf .xor k a b)):=fun _ _ hs w=>by
 simp [execOp,ho,hs.ev hx,hs.ev hy,eqGuard,binOp,Op.intBits,bitsOf]
def zMq (k:IntKind) (a b:Int):Int:=k.wrap (a * 2 ^ (min b.toNat k.bits))
def zGK (k:IntKind) (a b:Int):Int:=a.fdiv (2 ^ (min b.toNat k.bits))
theorem zYO {j:IntKind} (ho:o.op = .binOp .shl T x y U) (hx:ev σ x = some (.int k a)) (hy:ev σ y = some (.int j b)) (hb:0 ≤ b):Pure P σ o (.int k (zMq k a b)):=fun _ _ hs w=>by
 simp [execOp,ho,hs.ev hx,hs.ev hy,eqGuard,binOp,Op.shift,zMq,show ¬ b < 0 by omega]
theorem zYP {j:IntKind} (ho:o.op = .binOp .shr T x y U) (hx:ev σ x = some (.int k a)) (hy:ev σ y = some (.int j b)) (hb:0 ≤ b):Pure P σ o (.int k (zGK k a b)):=fun _ _ hs w=>by
 simp [execOp,ho,hs.ev hx,hs.ev hy,eqGuard,binOp,Op.shift,zGK,show ¬ b < 0 by omega]
theorem zYQ (ho:o.op = .unOp .neg T x) (hx:ev σ x = some (.int k a)):Pure P σ o (.int k (k.wrap (0 - a))):=fun _ _ hs w=>by
 simp [execOp,ho,hs.ev hx,Op.unary,Op.intArith]
theorem zYR (ho:o.op = .unOp .xor T x) (hx:ev σ x = some (.int k a)):Pure P σ o (.int k (bitsOf .xor k (if k.signed then -1 else k.max) a)):=fun _ _ hs w=>by
 simp [execOp,ho,hs.ev hx,Op.unary,Op.intBits,bitsOf]
theorem zQ4 {j:IntKind} (ho:o.op = .convert T U x) (hx:ev σ x = some (.int k a)) (hT:zUl P T k = true) (hU:zUl P U j = true):Pure P σ o (.int j (j.wrap a)):=fun _ _ hs w=>by
 simp [execOp,ho,hs.ev hx,convert,run_underlying (zMp hT),run_underlying (zMp hU),Conv.intToInt]
theorem zYS (t:Array TypeId) (ho:o.op = .call { callee:=.builtin .max,args:=#[x,y],argTypes:=t }) (hx:ev σ x = some (.int k a)) (hy:ev σ y = some (.int k b)):Pure P σ o (.int k (if b > a then b else a)):=fun _ _ hs w=>by
 simp [execOp,ho,hs.ev hx,hs.ev hy,resolve,invoke,builtin,Builtin.max_,Builtin.max2]
theorem zYT (t:Array TypeId) (ho:o.op = .call { callee:=.builtin .min,args:=#[x,y],argTypes:=t }) (hx:ev σ x = some (.int k a)) (hy:ev σ y = some (.int k b)):Pure P σ o (.int k (if b < a then b else a)):=fun _ _ hs w=>by
 simp [execOp,ho,hs.ev hx,hs.ev hy,resolve,invoke,builtin,Builtin.min_,Builtin.min2]
end ints
theorem zYU {T:TypeId} {b:Bool} (ho:o.op = .unOp .not T x) (hx:ev σ x = some (.bool b)):Pure P σ o (.bool (!b)):=fun _ _ hs w=>by
 simp [execOp,ho,hs.ev hx,Op.unary]
section strings
variable {T U:TypeId} {a b:ByteArray}
theorem zYV (ho:o.op = .binOp .eql T x y U) (hx:ev σ x = some (.string a)) (hy:ev σ y = some (.string b)):Pure P σ o (.bool (a.toList == b.toList)):=fun _ _ hs w=>by
 simp [execOp,ho,hs.ev hx,hs.ev hy,eqGuard,binOp,Op.stringOp]
theorem zYW (ho:o.op = .binOp .neq T x y U) (hx:ev σ x = some (.string a)) (hy:ev σ y = some (.string b)):Pure P σ o (.bool (!(a.toList == b.toList))):=fun _ _ hs w=>by
 simp [execOp,ho,hs.ev hx,hs.ev hy,eqGuard,binOp,Op.stringOp]
theorem zYX (ho:o.op = .binOp .lss T x y U) (hx:ev σ x = some (.string a)) (hy:ev σ y = some (.string b)):Pure P σ o (.bool (Op.bytesLess a.toList b.toList)):=fun _ _ hs w=>by
 simp [execOp,ho,hs.ev hx,hs.ev hy,eqGuard,binOp,Op.stringOp]
theorem zYY (ho:o.op = .binOp .gtr T x y U) (hx:ev σ x = some (.string a)) (hy:ev σ y = some (.string b)):Pure P σ o (.bool !(Op.bytesLess a.toList b.toList || a.toList == b.toList)):=fun _ _ hs w=>by
 simp [execOp,ho,hs.ev hx,hs.ev hy,eqGuard,binOp,Op.stringOp]
theorem zY1 (ho:o.op = .binOp .add T x y U) (hx:ev σ x = some (.string a)) (hy:ev σ y = some (.string b)) (hl:((a.size + b.size:Nat):Int) ≤ 9223372036854775807):Pure P σ o (.string (a++b)):=fun _ _ hs w=>by
 have:¬ ((a.size + b.size:Nat):Int) > IntKind.i64.max:=by simp [IntKind.max,IntKind.signed,IntKind.bits]; omega
 simp only [execOp,ho,hs.ev hx,hs.ev hy,eqGuard,binOp,Op.stringOp]
 simp at this
 simp [Int.not_lt.2 (by simpa using this),this]
theorem zQ5 (ho:o.op = .convert T U x) (hx:ev σ x = some (.string a)) (hT:zEi P T = true) (hU:zEi P U = true):Pure P σ o (.string a):=fun _ _ hs w=>by
 simp [execOp,ho,hs.ev hx,convert,run_underlying (zCw hT),run_underlying (zCw hU)]
end strings
section nils
variable {T U E:TypeId}
theorem zSE {a b:Bool} (hT:P.underlying T = some .bool):(Op.equal T (.bool a) (.bool b)).run P w = .ok (a == b) w:=by
 unfold Op.equal Op.maxDepth
 rw [Op.equalIn]
 simp only [Sem.run_bind,run_underlying hT,Result.andThen,Sem.run_pure]
theorem zZ6 {a b:Bool} (ho:o.op = .binOp .eql T x y U) (hx:ev σ x = some (.bool a)) (hy:ev σ y = some (.bool b)) (hT:P.underlying T = some .bool):Pure P σ o (.bool (a == b)):=fun _ _ hs w=>by
 simp only [execOp,ho,hs.ev hx,hs.ev hy,eqGuard,binOp]
 simp [zSE hT]
theorem zZ7 {a b:Bool} (ho:o.op = .binOp .neq T x y U) (hx:ev σ x = some (.bool a)) (hy:ev σ y = some (.bool b)) (hT:P.underlying T = some .bool):Pure P σ o (.bool (!(a == b))):=fun _ _ hs w=>by
 simp only [execOp,ho,hs.ev hx,hs.ev hy,eqGuard,binOp]
 simp [zSE hT]
theorem zGL {p:Option Addr} (hT:P.underlying T = some (.pointer E)):(Op.equal T (.pointer p) (.pointer none)).run P w = .ok p.isNone w:=by
 unfold Op.equal Op.maxDepth
 rw [Op.equalIn]
 cases p <;> simp only [Sem.run_bind,run_underlying hT,Result.andThen,Sem.run_pure] <;> rfl
theorem zUp {p:Option Addr} (ho:o.op = .binOp .eql T x y U) (hx:ev σ x = some (.pointer p)) (hy:ev σ y = some (.pointer none)) (hT:P.underlying T = some (.pointer E)):Pure P σ o (.bool p.isNone):=fun _ _ hs w=>by
 cases p <;> simp only [execOp,ho,hs.ev hx,hs.ev hy,eqGuard,binOp] <;> simp [zGL hT]
theorem zUq {p:Option Addr} (ho:o.op = .binOp .neq T x y U) (hx:ev σ x = some (.pointer p)) (hy:ev σ y = some (.pointer none)) (hT:P.underlying T = some (.pointer E)):Pure P σ o (.bool (!p.isNone)):=fun _ _ hs w=>by
 cases p <;> simp only [execOp,ho,hs.ev hx,hs.ev hy,eqGuard,binOp] <;> simp [zGL hT]
theorem zHo {s:Sl} {n c:Nat} (hT:P.underlying T = some (.slice E)):(Op.equal T s.val (.slice none n c)).run P w = .ok s.a.isNone w:=by
 obtain ⟨a,m,d⟩:=s
 unfold Op.equal Op.maxDepth
 rw [Op.equalIn]
 cases a <;> simp only [Sl.val,Sem.run_bind,run_underlying hT,Result.andThen,Sem.run_pure] <;> rfl
theorem zWr {s:Sl} {n c:Nat} (ho:o.op = .binOp .eql T x y U) (hx:ev σ x = some s.val) (hy:ev σ y = some (.slice none n c)) (hT:P.underlying T = some (.slice E)):Pure P σ o (.bool s.a.isNone):=fun _ _ hs w=>by
 obtain ⟨a,m,d⟩:=s
 have:=zHo (w:=w) (s:=⟨a,m,d⟩) (n:=n) (c:=c) hT
 simp only [execOp,ho,hs.ev hx,hs.ev hy,eqGuard,binOp]
 simp [this]
theorem zWs {s:Sl} {n c:Nat} (ho:o.op = .binOp .neq T x y U) (hx:ev σ x = some s.val) (hy:ev σ y = some (.slice none n c)) (hT:P.underlying T = some (.slice E)):Pure P σ o (.bool (!s.a.isNone)):=fun _ _ hs w=>by
 obtain ⟨a,m,d⟩:=s
 have:=zHo (w:=w) (s:=⟨a,m,d⟩) (n:=n) (c:=c) hT
 simp only [execOp,ho,hs.ev hx,hs.ev hy,eqGuard,binOp]
 simp [this]
end nils
theorem zZ8 {T:TypeId} {s:Sl} {E esz:Nat} (ho:o.op = .call { callee:=.builtin .len,args:=#[x],argTypes:=#[T] }) (hx:ev σ x = some s.val) (hT:sliceT P T E esz = true):Pure P σ o (.int .i64 s.n):=fun _ _ hs w=>by
 simp [execOp,ho,hs.ev hx,resolve,invoke,builtin,Builtin.len_,run_underlying (je hT).1,goInt]
theorem zY2 {T:TypeId} {s:ByteArray} (ho:o.op = .call { callee:=.builtin .len,args:=#[x],argTypes:=#[T] }) (hx:ev σ x = some (.string s)) (hT:zEi P T = true):Pure P σ o (.int .i64 s.size):=fun _ _ hs w=>by
 simp [execOp,ho,hs.ev hx,resolve,invoke,builtin,Builtin.len_,run_underlying (zCw hT),goInt]
theorem zMr {vs:Array Value} {i:Nat} {v:Value} (ho:o.op = .extract x i) (hx:ev σ x = some (.tuple vs)) (hv:vs[i]? = some v):Pure P σ o v:=fun _ _ hs w=>by
 simp [execOp,ho,hs.ev hx,Instr.extract,hv]
theorem zZ9 {T E esz:Nat} {k:IntKind} {s:Sl} {i:Int} {a:Addr} (ho:o.op = .indexAddr T x y) (hx:ev σ x = some s.val) (hy:ev σ y = some (.int k i)) (hT:sliceT P T E esz = true)
  (ha:s.a = some a) (h0:0 ≤ i) (h1:i < s.n):Pure P σ o (.pointer (some (a.add (i.toNat * esz)))):=fun _ _ hs w=>by
 simp [execOp,ho,hs.ev hx,hs.ev hy,Instr.indexAt,asIntOf,run_underlying (je hT).1,ha,h0,h1,jD (je hT).2]
theorem zY3 {T E len esz:Nat} {k:IntKind} {i:Int} {a:Addr} (ho:o.op = .indexAddr T x y) (hx:ev σ x = some (.pointer (some a))) (hy:ev σ y = some (.int k i)) (hT:zNk P T E len esz = true)
  (h0:0 ≤ i) (h1:i < len):Pure P σ o (.pointer (some (a.add (i.toNat * esz)))):=fun _ _ hs w=>by
 simp [execOp,ho,hs.ev hx,hs.ev hy,Instr.indexAt,asIntOf,Instr.sureAddr,run_underlying (zJq hT).1,h0,h1,jD (zJq hT).2]
theorem zY4 {T:Nat} {k:IntKind} {s:ByteArray} {i:Int} {b:UInt8} (ho:o.op = .index T x y) (hx:ev σ x = some (.string s)) (hy:ev σ y = some (.int k i)) (hT:zEi P T = true)
  (h0:0 ≤ i) (h1:s[i.toNat]? = some b):Pure P σ o (.int .u8 (b.toNat:Int)):=fun _ _ hs w=>by
 simp [execOp,ho,hs.ev hx,hs.ev hy,Instr.index,asIntOf,run_underlying (zCw hT),h0,h1]
theorem zK5 {fn:Fn} {first cap:Array Operand} {fs cs:List Value} (ho:o.op = .makeFunc fn first cap) (hf:first.toList.mapM (ev σ) = some fs) (hc:cap.toList.mapM (ev σ) = some cs):Pure P σ o (.func fn fs.toArray cs.toArray):=fun a _ hs w=>by
 have key:∀ (l:List Operand) (vs:List Value),l.mapM (ev σ) = some vs→l.map a.eval = vs:=by
  intro l
  induction l with
  | nil=>intro vs h; simp at h; simp [h]
  | cons u l ih =>
   intro vs h
   simp only [List.mapM_cons] at h
   cases hu:ev σ u with
   | none=>simp [hu] at h
   | some v =>
    cases hl:l.mapM (ev σ) with
    | none=>simp [hu,hl] at h
    | some vs'=>simp [hu,hl] at h; subst h; simp [hs.ev hu,ih _ hl]
 have h1:first.map a.eval = fs.toArray:=by
  apply Array.ext'; simpa using key _ _ hf
 have h2:cap.map a.eval = cs.toArray:=by
  apply Array.ext'; simpa using key _ _ hc
 simp only [execOp,ho,Instr.makeFunc,h1,h2]
 simp
end
end
section
open Go
section
variable {P : Program} {σ : List (Nat × Value)} {o : Oper} {x y z : Operand} {w w' : World} {v : Value}
def zF1 (σ : List (Nat × Value)) (x : Option Operand) (d : Int) (i : Int) : Prop :=
  match x with
  | none => i = d
  | some x => ∃ k, ev σ x = some (.int k i)
theorem zaA {T E esz : Nat} {s : Sl} {lo hi mx : Option Operand} {l h m : Int} (ho : o.op = .slice T x lo hi mx) (hx : ev σ x = some s.val) (hT : sliceT P T E esz = true)
    (hl : zF1 σ lo 0 l) (hh : zF1 σ hi s.n h) (hm : zF1 σ mx s.c m) (hmx : mx.isSome = true → hi.isSome = true) (h0 : 0 ≤ l) (h1 : l ≤ h) (h2 : h ≤ m) (h3 : m ≤ s.c) :
    Pure P σ o (Sl.val ⟨zBj s.a l.toNat m.toNat esz, h.toNat - l.toNat, m.toNat - l.toNat⟩) := fun a n hs w => by
  obtain ⟨hsl, hsz⟩ := je hT
  have hz := jD (w := w) hsz
  have bound : ∀ (k : IntKind) (i : Int) (y : Nat) (c : BoundsCode), 0 ≤ i → i ≤ y → (Instr.sliceBound (.int k i) y c).run P w = .ok i.toNat w := fun k i y c ha hb => by
    simp [Instr.sliceBound, asIntOf, ha, hb]
  have hmE : m.toNat ≤ s.c := by omega
  have hmI : ((m.toNat : Nat) : Int) = m := Int.toNat_of_nonneg (by omega)
  have hhI : ((h.toNat : Nat) : Int) = h := Int.toNat_of_nonneg (by omega)
  simp only [execOp, ho, Instr.sliceAt, hs.ev hx]
  simp only [Sem.run_bind, run_underlying hsl, Result.andThen, Instr.slice, Sl.val]
  simp only [Instr.sliceBounds]
  cases mx with
  | none =>
    simp only [zF1] at hm; subst hm
    cases hi with
    | none =>
      simp only [zF1] at hh; subst hh
      cases lo with
      | none =>
        simp only [zF1] at hl; subst hl
        simp [hz, zBj]
      | some lo =>
        obtain ⟨k, hk⟩ := hl
        simp [hs.ev hk, bound k l s.n _ h0 (by omega), hz, zBj]
    | some hi =>
      obtain ⟨k', hk'⟩ := hh
      cases lo with
      | none =>
        simp only [zF1] at hl; subst hl
        simp [hs.ev hk', bound k' h s.c _ (by omega) (by omega), hz, zBj]
      | some lo =>
        obtain ⟨k, hk⟩ := hl
        simp [hs.ev hk, hs.ev hk', bound k' h s.c _ (by omega) (by omega), bound k l h.toNat _ h0 (by omega), hz, zBj]
  | some mx =>
    obtain ⟨k'', hk''⟩ := hm
    cases hi with
    | none => simp at hmx
    | some hi =>
      obtain ⟨k', hk'⟩ := hh
      cases lo with
      | none =>
        simp only [zF1] at hl; subst hl
        simp [hs.ev hk', hs.ev hk'', bound k'' m s.c _ (by omega) (by omega), bound k' h m.toNat _ (by omega) (by omega), hz, zBj]
      | some lo =>
        obtain ⟨k, hk⟩ := hl
        simp [hs.ev hk, hs.ev hk', hs.ev hk'', bound k'' m s.c _ (by omega) (by omega), bound k' h m.toNat _ (by omega) (by omega), bound k l h.toNat _ h0 (by omega), hz, zBj]
theorem zY5 {T : Nat} {s : ByteArray} {lo hi : Option Operand} {l h : Int} (ho : o.op = .slice T x lo hi none) (hx : ev σ x = some (.string s)) (hT : zEi P T = true)
    (hl : zF1 σ lo 0 l) (hh : zF1 σ hi s.size h) (h0 : 0 ≤ l) (h1 : l ≤ h) (h2 : h ≤ s.size) : Pure P σ o (.string (s.extract l.toNat h.toNat)) := fun a n hs w => by
  have hsl := zCw hT
  have bound : ∀ (k : IntKind) (i : Int) (y : Nat) (c : BoundsCode), 0 ≤ i → i ≤ y → (Instr.sliceBound (.int k i) y c).run P w = .ok i.toNat w := fun k i y c ha hb => by
    simp [Instr.sliceBound, asIntOf, ha, hb]
  simp only [execOp, ho, Instr.sliceAt, hs.ev hx]
  simp only [Sem.run_bind, run_underlying hsl, Result.andThen, Instr.slice]
  simp only [Instr.sliceBounds]
  cases hi with
  | none =>
    simp only [zF1] at hh; subst hh
    cases lo with
    | none => simp only [zF1] at hl; subst hl; simp
    | some lo =>
      obtain ⟨k, hk⟩ := hl
      simp [hs.ev hk, bound k l s.size _ h0 (by omega)]
  | some hi =>
    obtain ⟨k', hk'⟩ := hh
    cases lo with
    | none =>
      simp only [zF1] at hl; subst hl
      simp [hs.ev hk', bound k' h s.size _ (by omega) (by omega)]
    | some lo =>
      obtain ⟨k, hk⟩ := hl
      simp [hs.ev hk, hs.ev hk', bound k' h s.size _ (by omega) (by omega), bound k l h.toNat _ h0 (by omega)]
theorem zUr {T : TypeId} {a : Addr} (ho : o.op = .load T x) (hx : ev σ x = some (.pointer (some a))) (hT : zMo P T = true) (hv : w.cell? a = some v) : Eff P σ o w (.value v) w := fun _ _ hs => by
  simp [execOp, ho, hs.ev hx, Instr.loadAt, Instr.sureAddr, loadVar, zH1 hT, load, Sem.run, hv]
theorem run_loadCells {a : Addr} {cs : Array Value} (h : RdN w a cs) : (loadCells a cs.size).run P w = .ok cs w := by
  have key : ∀ (n i : Nat) (acc : Array Value), i + n = cs.size → acc.toList = cs.toList.take i → (loadCellsFrom a i n acc).run P w = .ok cs w := by
    intro n
    induction n with
    | zero =>
      intro i acc hi hacc
      have : acc = cs := by apply Array.ext'; rw [hacc, List.take_of_length_le]; simp; omega
      simp [loadCellsFrom, this]
    | succ n ih =>
      intro i acc hi hacc
      have hlt : i < cs.size := by omega
      have hc := h i hlt
      rw [Array.getElem?_eq_getElem hlt] at hc
      simp only [loadCellsFrom, Sem.run_bind, load, Sem.run, hc, Result.andThen]
      refine ih (i + 1) _ (by omega) ?_
      rw [Array.toList_push, hacc, List.take_succ_eq_append_getElem (by simpa using hlt)]
      simp
  exact key cs.size 0 #[] (by omega) (by simp)
theorem zSF {T n : Nat} {a : Addr} {cs : Array Value} (ho : o.op = .load T x) (hx : ev σ x = some (.pointer (some a))) (hT : zTn P T n = true) (hn : cs.size = n) (hv : RdN w a cs) : Eff P σ o w (.value (.agg cs)) w := fun _ _ hs => by
  subst hn
  simp [execOp, ho, hs.ev hx, Instr.loadAt, Instr.sureAddr, loadVar, (zEO hT).1, (zEO hT).2, run_loadCells hv]
theorem zK6 {a : Addr} (hv : yX v = true) (hc : ∃ u, w.cell? a = some u) (hf : w.frozen? a = false) : (store a v).run P w = .ok () (w.setCell a v) := by
  obtain ⟨u, hu⟩ := hc
  cases v <;> simp [yX] at hv <;> simp [store, Sem.run, hu, hf]
theorem zIN {w : World} {p q : Addr} {x : Value} (h : ∃ u, w.cell? q = some u) : ∃ u, (w.setCell p x).cell? q = some u := by
  obtain ⟨u, hu⟩ := h
  unfold World.cell? at hu ⊢
  unfold World.setCell
  simp only [Array.getElem?_modify]
  cases hb : w.heap[q.block]? with
  | none => simp [hb] at hu
  | some o =>
    cases o <;> simp [hb] at hu
    rename_i c e fz
    by_cases hq : p.block = q.block
    · simp only [hq, if_true, hb, Option.map_some]
      obtain ⟨h1, h2⟩ := hu
      have hlt : q.off < c.size := (Array.getElem?_eq_some_iff.1 h2).1
      simp only [h1]
      cases hsp : p.spot with
      | some s => simp [h2]
      | none =>
        by_cases ho : p.off = q.off
        · simp [ho, hlt]
        · simp [Array.getElem?_setIfInBounds_ne ho, h2]
    · simp only [hq, if_false, hb]
      obtain ⟨h1, h2⟩ := hu
      simp [h1, h2]
theorem zK7 {w : World} {p q : Addr} {x : Value} : (w.setCell p x).frozen? q = w.frozen? q := by
  unfold World.frozen? World.setCell
  simp only [Array.getElem?_modify]
  by_cases hq : p.block = q.block
  · simp only [hq, if_true]
    cases hb : w.heap[q.block]? with
    | none => rfl
    | some o => cases o <;> rfl
  · simp [hq]
theorem zBk {a : Addr} : ∀ (vs : List Value) (i : Nat) (w : World), (∀ v ∈ vs, yX v = true) → (∀ j, j < vs.length → (∃ u, w.cell? (a.add (i + j)) = some u) ∧ w.frozen? (a.add (i + j)) = false) →
    (storeCells a vs i).run P w = .ok () (setCells a vs i w)
  | [], i, w, _, _ => rfl
  | v :: vs, i, w, hf, hc => by
    have h0 := hc 0 (by simp)
    simp only [Nat.add_zero] at h0
    simp only [storeCells, Sem.run_bind, zK6 (hf v (by simp)) h0.1 h0.2, Result.andThen, setCells]
    refine zBk vs (i + 1) _ (fun u hu => hf u (by simp [hu])) fun j hj => ?_
    have hj' := hc (j + 1) (by simpa using hj)
    rw [show i + 1 + j = i + (j + 1) by omega]
    exact ⟨zIN hj'.1, by rw [zK7]; exact hj'.2⟩
theorem zWt {T : TypeId} {a : Addr} (ho : o.op = .store T x y) (hx : ev σ x = some (.pointer (some a))) (hy : ev σ y = some v) (hT : sizeT P T 1 = true)
    (hw : w' = w.setCell a v) (hc : ∃ u, w.cell? a = some u) (hf : w.frozen? a = false) (hv : yX v = true) : Eff P σ o w .skip w' := fun _ _ hs => by
  subst hw
  have h1 : v.cells = #[v] := by cases v <;> simp [yX] at hv <;> rfl
  have ha : a.add 0 = a := by simp [Addr.add]
  simp [execOp, ho, hs.ev hx, hs.ev hy, Instr.storeAt, Instr.sureAddr, storeVar, jD hT, h1, storeCells, ha, zK6 hv hc hf]
theorem zUs {T n : Nat} {a : Addr} {cs : Array Value} (ho : o.op = .store T x y) (hx : ev σ x = some (.pointer (some a))) (hy : ev σ y = some (.agg cs)) (hT : sizeT P T n = true) (hw : w' = setCells a cs.toList 0 w) (hn : cs.size = n)
    (hc : ∀ i, i < cs.size → (∃ u, w.cell? (a.add i) = some u) ∧ w.frozen? (a.add i) = false) (hv : ∀ v ∈ cs.toList, yX v = true) : Eff P σ o w .skip w' := fun _ _ hs => by
  subst hn; subst hw
  have := zBk (P := P) (a := a) cs.toList 0 w hv (fun j hj => by simpa using hc j (by simpa using hj))
  simp [execOp, ho, hs.ev hx, hs.ev hy, Instr.storeAt, Instr.sureAddr, storeVar, jD hT, Value.cells, this]
theorem zaB {T : TypeId} {cs : Array Value} {a : Addr} (ho : o.op = .box T x) (hx : ev σ x = some v) (hc : v.cells = cs) (ha : a = ⟨w.heap.size, 0, none⟩) (hw : w' = { w with heap := w.heap.push (.cells cs T) }) : Eff P σ o w (.value (.pointer (some a))) w' := fun _ _ hs => by
  subst ha; subst hw; subst hc
  simp [execOp, ho, hs.ev hx, Instr.box, newVar, newRow, newObj, Sem.run]
def zBN (P : Program) (T : TypeId) (z : Value) : Prop := ∃ i, P.info? T = some i ∧ i.zero = some z
theorem zAU {T : TypeId} {z : Value} (h : zBN P T z) : (zeroValue T).run P w = .ok z w := by
  obtain ⟨i, hi, hz⟩ := h
  simp [zeroValue, typeInfo, program, hi, hz, Sem.run]
theorem zWu {T : TypeId} {zv : Value} {cs : Array Value} {a : Addr} (ho : o.op = .alloc T) (hz : zBN P T zv) (hc : zv.cells = cs) (ha : a = ⟨w.heap.size, 0, none⟩) (hw : w' = { w with heap := w.heap.push (.cells cs T) }) : Eff P σ o w (.value (.pointer (some a))) w' := fun _ _ hs => by
  subst ha; subst hw; subst hc
  simp [execOp, ho, Instr.alloc, zAU hz, newVar, newRow, newObj, Sem.run]
def partsOf (σ : List (Nat × Value)) : List (Nat × Operand) → Option (List (Nat × Value))
  | [] => some []
  | p :: ps => match ev σ p.2, partsOf σ ps with
    | some v, some vs => some ((p.1, v) :: vs)
    | _, _ => none
theorem zED {a : Act} {n : Nat} (hs : Slots a n σ) : ∀ {ps : List (Nat × Operand)} {vs : List (Nat × Value)}, partsOf σ ps = some vs → ps.map (fun p => (p.1, a.eval p.2)) = vs
  | [], vs, h => by simp [partsOf] at h; subst h; rfl
  | p :: ps, vs, h => by
    unfold partsOf at h
    split at h
    · rename_i v vs' hv hvs
      cases h
      simp [hs.ev hv, zED hs hvs]
    · cases h
def zSG (P : Program) (T : TypeId) (places : List (Nat × Nat)) : Prop :=
  ∃ fs, P.underlying T = some (.struct fs) ∧ fs.toList.map (fun f => ((P.info? f.type).map fun i => (f.offset, i.size))) = places.map some
theorem run_places {fs : List Field} : ∀ {places : List (Nat × Nat)}, fs.map (fun f => ((P.info? f.type).map fun i => (f.offset, i.size))) = places.map some →
    (List.mapM (fun f : Field => (Prod.mk f.offset <$> sizeOf f.type : Sem (Nat × Nat))) fs).run P w = .ok places w := by
  induction fs with
  | nil => intro places h; cases places <;> simp at h; simp
  | cons f fs ih =>
    intro places h
    cases places with
    | nil => simp at h
    | cons p places =>
      simp only [List.map_cons, List.cons.injEq] at h
      obtain ⟨h1, h2⟩ := h
      cases hi : P.info? f.type with
      | none => simp [hi] at h1
      | some i =>
        simp [hi] at h1; subst h1
        have hz : (sizeOf f.type).run P w = .ok i.size w := jD (by simp [sizeT, hi])
        rw [List.mapM_cons]
        simp only [Sem.run_bind, Sem.run_map, hz, Result.andThen, ih h2, Sem.run_pure]
theorem zSH {T : TypeId} {zv : Value} {places : List (Nat × Nat)} {ps : Array (Nat × Operand)} {vs : List (Nat × Value)} {cs : Array Value} (ho : o.op = .build T ps) (hz : zBN P T zv) (hp : zSG P T places)
    (hv : partsOf σ ps.toList = some vs) (hc : Instr.fill (places[·]?) zv.cells vs = some cs) : Pure P σ o (.agg cs) := fun _ _ hs w => by
  obtain ⟨fs, hu, hf⟩ := hp
  have h1 := zED hs hv
  have h2 : (fs.mapM fun f => do pure (f.offset, ← sizeOf f.type) : Sem (Array (Nat × Nat))).run P w = .ok places.toArray w := by
    rw [Array.mapM_eq_mapM_toList]
    simp [run_places (w := w) hf, Result.andThen]
  simp only [execOp, ho, Instr.build]
  simp only [Sem.run_bind, zAU hz, Result.andThen, run_underlying hu, h2]
  have h3 : (fun x : Nat => places.toArray[x]?) = (fun x : Nat => places[x]?) := by funext i; simp
  simp [h1, h3, hc]
theorem zUt {T : TypeId} {ps : Array (Nat × Operand)} {vs : List (Nat × Value)} (ho : o.op = .build T ps) (hv : partsOf σ ps.toList = some vs) (hr : (Instr.build T vs.toArray).run P w = .ok v w') : Eff P σ o w (.value v) w' := fun _ _ hs => by
  have h1 := zED hs hv
  have h2 : ∀ f : Operand → Value, ps.map (fun p => (p.1, f p.2)) = (ps.toList.map (fun p => (p.1, f p.2))).toArray := fun f => by apply Array.ext'; simp
  simp only [execOp, ho]
  rw [h2, h1]
  simp [hr]
theorem zaC {v : Value} (h : ∀ w, Eff P σ o w (.value v) w) : Pure P σ o v := fun a n hs w => h w a n hs
theorem zIO {T E esz len : Nat} {zv : Value} {ps : Array (Nat × Operand)} {vs : List (Nat × Value)} {z cs : Array Value} {a : Addr} (ho : o.op = .buildSlice T len ps) (hT : sliceT P T E esz = true) (hz : zBN P E zv)
    (hl : len * esz ≤ 2 ^ 24) (hv : partsOf σ ps.toList = some vs) (hzz : (Array.range (len * esz)).map (fun i => (if len * esz = 0 then #[] else zv.cells)[i % (if len * esz = 0 then #[] else zv.cells).size]!) = z)
    (hc : Instr.fill (fun i => some (i * esz, esz)) z vs = some cs) (ha : a = ⟨w.heap.size, 0, none⟩) (hw : w' = { w with heap := w.heap.push (.cells cs E) }) :
    Eff P σ o w (.value (Sl.val ⟨some a, len, len⟩)) w' := fun _ _ hs => by
  subst ha; subst hw; subst hzz
  obtain ⟨hsl, hsz⟩ := je hT
  have h1 := zED hs hv
  simp only [execOp, ho, Instr.buildSlice]
  simp only [Sem.run_bind, Result.andThen, run_underlying hsl, jD hsz]
  have h4 : ¬ (len * esz > 2 ^ 24) := by omega
  by_cases h0 : len * esz = 0
  · simp [h0] at hc
    simp [h0, h1, hc, newRow, newObj, Sem.run]
  · simp [h0] at hc
    simp [h0, h4, zAU hz, h1, hc, newRow, newObj, Sem.run]
theorem zUu {T : TypeId} {ok : Bool} {vx vy : Value} (ho : o.op = .lookup T x y ok) (hx : ev σ x = some vx) (hy : ev σ y = some vy) (hr : (Instr.lookup T vx vy ok).run P w = .ok v w') : Eff P σ o w (.value v) w' := fun _ _ hs => by
  simp [execOp, ho, hs.ev hx, hs.ev hy, hr]
theorem zPS {T : TypeId} {vx vy vz : Value} {u : Unit} (ho : o.op = .mapUpdate T x y z) (hx : ev σ x = some vx) (hy : ev σ y = some vy) (hz : ev σ z = some vz) (hr : (Instr.mapUpdate T vx vy vz).run P w = .ok u w') : Eff P σ o w .skip w' := fun _ _ hs => by
  simp [execOp, ho, hs.ev hx, hs.ev hy, hs.ev hz, hr]
theorem zTo {T U : TypeId} {vx : Value} (ho : o.op = .convert T U x) (hx : ev σ x = some vx) (hr : (convert T U vx).run P w = .ok v w') : Eff P σ o w (.value v) w' := fun _ _ hs => by
  simp [execOp, ho, hs.ev hx, hr]
theorem zWv {op : BinOp} {T U : TypeId} {vx vy : Value} (ho : o.op = .binOp op T x y U) (hx : ev σ x = some vx) (hy : ev σ y = some vy) (hr : (do eqGuard op T x y vx vy; binOp op T vx vy : Sem Value).run P w = .ok v w') : Eff P σ o w (.value v) w' := fun _ _ hs => by
  simp only [execOp, ho, hs.ev hx, hs.ev hy]
  rw [Sem.run_bind, hr]; rfl
theorem zTp {T : TypeId} (ho : o.op = .makeMap T none) (hr : (Instr.makeMap T none).run P w = .ok v w') : Eff P σ o w (.value v) w' := fun _ _ hs => by
  simp [execOp, ho, hr]
theorem zPT {T : TypeId} {vx vy : Value} (ho : o.op = .makeSlice T x y) (hx : ev σ x = some vx) (hy : ev σ y = some vy) (hr : (Instr.makeSlice T vx vy).run P w = .ok v w') : Eff P σ o w (.value v) w' := fun _ _ hs => by
  simp [execOp, ho, hs.ev hx, hs.ev hy, hr]
theorem zWw {T : TypeId} {vx : Value} (ho : o.op = .range T x) (hx : ev σ x = some vx) (hr : (Instr.range T vx).run P w = .ok v w') : Eff P σ o w (.value v) w' := fun _ _ hs => by
  simp [execOp, ho, hs.ev hx, hr]
theorem zY6 {s : Bool} {vx : Value} {t : TypeId} (ho : o.op = .next x s) (ht : o.type = t) (hx : ev σ x = some vx) (hr : (Instr.next vx s t).run P w = .ok v w') : Eff P σ o w (.value v) w' := fun _ _ hs => by
  simp [execOp, ho, ht, hs.ev hx, hr]
theorem zWx {vx : Value} (ho : o.op = .entry x) (hx : ev σ x = some vx) (hr : (Instr.entry vx).run P w = .ok v w') : Eff P σ o w (.value v) w' := fun _ _ hs => by
  simp [execOp, ho, hs.ev hx, hr]
theorem zKD {T : TypeId} {vx : Value} (ho : o.op = .makeInterface T x) (hx : ev σ x = some vx) (hr : (Instr.makeInterface T vx).run P w = .ok v w') : Eff P σ o w (.value v) w' := fun _ _ hs => by
  simp [execOp, ho, hs.ev hx, hr]
section builtins
variable {ts : Array TypeId} {t : TypeId} {vx vy : Value}
theorem zUv (ho : o.op = .call { callee := .builtin .append, args := #[x, y], argTypes := ts }) (ht : o.type = t) (hx : ev σ x = some vx) (hy : ev σ y = some vy) (hr : (Builtin.append_ ts t #[vx, vy]).run P w = .ok v w') : Eff P σ o w (.value v) w' := fun _ _ hs => by
  simp [execOp, ho, hs.ev hx, hs.ev hy, ht, resolve, invoke, builtin, hr]
theorem zY7 (ho : o.op = .call { callee := .builtin .copy, args := #[x, y], argTypes := ts }) (ht : o.type = t) (hx : ev σ x = some vx) (hy : ev σ y = some vy) (hr : (Builtin.copy_ ts t #[vx, vy]).run P w = .ok v w') : Eff P σ o w (.value v) w' := fun _ _ hs => by
  simp [execOp, ho, hs.ev hx, hs.ev hy, ht, resolve, invoke, builtin, hr]
theorem zUw (ho : o.op = .call { callee := .builtin .delete, args := #[x, y], argTypes := ts }) (ht : o.type = t) (hx : ev σ x = some vx) (hy : ev σ y = some vy) (hr : (Builtin.delete_ ts t #[vx, vy]).run P w = .ok v w') : Eff P σ o w (.value v) w' := fun _ _ hs => by
  simp [execOp, ho, hs.ev hx, hs.ev hy, ht, resolve, invoke, builtin, hr]
theorem zWy (ho : o.op = .call { callee := .builtin .clear, args := #[x], argTypes := ts }) (ht : o.type = t) (hx : ev σ x = some vx) (hr : (Builtin.clear_ ts t #[vx]).run P w = .ok v w') : Eff P σ o w (.value v) w' := fun _ _ hs => by
  simp [execOp, ho, hs.ev hx, ht, resolve, invoke, builtin, hr]
theorem zaD (ho : o.op = .call { callee := .builtin .len, args := #[x], argTypes := ts }) (ht : o.type = t) (hx : ev σ x = some vx) (hr : (Builtin.len_ ts t #[vx]).run P w = .ok v w') : Eff P σ o w (.value v) w' := fun _ _ hs => by
  simp [execOp, ho, hs.ev hx, ht, resolve, invoke, builtin, hr]
theorem zaE (ho : o.op = .call { callee := .builtin .cap, args := #[x], argTypes := ts }) (ht : o.type = t) (hx : ev σ x = some vx) (hr : (Builtin.cap_ ts t #[vx]).run P w = .ok v w') : Eff P σ o w (.value v) w' := fun _ _ hs => by
  simp [execOp, ho, hs.ev hx, ht, resolve, invoke, builtin, hr]
end builtins
def evs (σ : List (Nat × Value)) : List Operand → Option (List Value)
  | [] => some []
  | x :: xs => match ev σ x, evs σ xs with
    | some v, some vs => some (v :: vs)
    | _, _ => none
theorem zEy {a : Act} {n : Nat} (hs : Slots a n σ) : ∀ {xs : List Operand} {vs : List Value}, evs σ xs = some vs → xs.map a.eval = vs
  | [], vs, h => by simp [evs] at h; subst h; rfl
  | x :: xs, vs, h => by
    unfold evs at h
    split at h
    · rename_i v vs' hv hvs
      cases h
      simp [hs.ev hv, zEy hs hvs]
    · cases h
theorem zCx {f : FuncId} {args : Array Value} (h : callable P f = true) : (callFunc f args).run P w = .ok (.enter f args) w := by
  unfold callable at h
  unfold callFunc program
  cases hf : P.funcs[f]? with
  | none => simp [hf] at h
  | some fn =>
    simp [hf] at h
    have h2 : fn.body.isNone = false := by cases hb : fn.body <;> simp [hb] at h ⊢
    have h1 : (fn.name == "runtime.NumGoroutine") = false := by simpa using h.1
    simp only [Sem.run_bind, Sem.run, Result.andThen, hf, h1, h2, Bool.false_eq_true, if_false, Sem.run_pure]
theorem zY8 {f : FuncId} {xs : Array Operand} {ts : Array TypeId} {vs : List Value} (ho : o.op = .call { callee := .value x, args := xs, argTypes := ts }) (hx : ev σ x = some (.func (.func f) #[] #[])) (hv : evs σ xs.toList = some vs)
    (hf : callable P f = true) : Eff P σ o w (.enter f vs.toArray) w := fun a _ hs => by
  have h1 : xs.map a.eval = vs.toArray := by apply Array.ext'; simpa using zEy hs hv
  simp [execOp, ho, resolve, hs.ev hx, h1, Deferred.ofValue, invoke, zCx hf]
theorem zSI {f : FuncId} {first cap : Array Value} {xs : Array Operand} {ts : Array TypeId} {vs : List Value} (ho : o.op = .call { callee := .value x, args := xs, argTypes := ts }) (hx : ev σ x = some (.func (.func f) first cap)) (hv : evs σ xs.toList = some vs)
    (hf : callable P f = true) : Eff P σ o w (.enter f (first ++ vs.toArray ++ cap)) w := fun a _ hs => by
  have h1 : xs.map a.eval = vs.toArray := by apply Array.ext'; simpa using zEy hs hv
  simp [execOp, ho, resolve, hs.ev hx, h1, Deferred.ofValue, invoke, zCx hf]
end
section
variable {P : Program} {fn : Func} {a : Act} {n : Nat} {σ : List (Nat × Value)} {w : World}
theorem zPU {T : TypeId} {b : Addr} {v : Value} (hT : zMo P T = true) (hv : w.cell? b = some v) : (loadVar T b).run P w = .ok v w := by
  simp [loadVar, zH1 hT, load, Sem.run, hv]
theorem zNn {T m : Nat} {b : Addr} {cs : Array Value} (hT : zTn P T m = true) (hm : cs.size = m) (hv : RdN w b cs) : (loadVar T b).run P w = .ok (.agg cs) w := by
  subst hm
  simp [loadVar, (zEO hT).1, (zEO hT).2, run_loadCells hv]
def zaF (P : Program) (σ : List (Nat × Value)) (w : World) (r : ResultVar) (v : Value) : Prop :=
  match r with
  | .tmp t => look σ t = some v
  | .cell t T => ∃ b, look σ t = some (.pointer (some b)) ∧ (loadVar T b).run P w = .ok v w
def zGM (tmps : Array Value) : ResultVar → Sem Value
  | .tmp t => pure (tmps.getD t undef)
  | .cell b t => do loadVar t (← asAddr (tmps.getD b undef))
theorem zQ6 (fn : Func) (tmps : Array Value) : results fn tmps = (do
    let vs ← fn.results.mapM (zGM tmps)
    pure (if h : vs.size = 1 then vs[0] else .tuple vs)) := by
  unfold results
  congr 1
theorem zJE {r : ResultVar} {v : Value} (hs : Slots a n σ) (h : zaF P σ w r v) : (zGM a.tmps r).run P w = .ok v w := by
  cases r with
  | tmp t => simp only [zGM, Sem.run_pure, hs.at' _ _ h]
  | cell b T =>
    obtain ⟨c, hc, hl⟩ := h
    have := hs.at' _ _ hc
    simp only [zGM]
    rw [this]
    simp [asAddr, hl]
end
end
section
open Go Go.RowKit
theorem uV (b o n:Nat):(⟨b,o,none⟩:Addr).add n = ⟨b,o + n,none⟩:=by
 unfold Addr.add; split
 ·rename_i h; subst h; rfl
 ·rfl
theorem add_add' (a:Addr) (h:a.spot = none) (m n:Nat):(a.add m).add n = a.add (m + n):=by
 obtain ⟨b,o,s⟩:=a; simp only at h; subst h; simp [uV,Nat.add_assoc]
section
variable {B w:World} {Γ:List zB}
theorem vI {b off:Nat} {cs:Array Value} {T:TypeId} {fz:Nat×Nat} {v:Value} (h:w.heap[b]? = some (.cells cs T fz)) (hv:cs[off]? = some v):w.cell? ⟨b,off,none⟩ = some v:=by
 simp [World.cell?,h,hv]
theorem zAf {b off:Nat} {cs:Array Value} {T:TypeId} {fz:Nat×Nat} (h:w.heap[b]? = some (.cells cs T fz)) (hf:¬ (fz.1 ≤ off∧off < fz.2)):w.frozen? ⟨b,off,none⟩ = false:=by
 obtain ⟨lo,hi⟩:=fz
 simp [World.frozen?,h]
 simp at hf
 exact hf
theorem Holds.mem {A:zB} (h:Holds B Γ w) (hm:A ∈ Γ):∃ Δ,Holds B (A::Δ) w:=by
 obtain ⟨i,hi⟩:=List.mem_iff_getElem?.1 hm
 exact ⟨_,h.pick i hi⟩
theorem Holds.zSJ {b:Nat} {o:Obj} (h:Holds B Γ w) (hm:blk b o ∈ Γ):w.heap[b]? = some o:=by
 obtain ⟨Δ,h'⟩:=h.mem hm; exact h'.block
theorem Holds.zWz (h:Holds B Γ w) {a:Addr} {v:Value} (hc:B.cell? a = some v):w.cell? a = some v:=by
 unfold World.cell? at hc ⊢
 cases hb:B.heap[a.block]? with
 | none=>simp [hb] at hc
 | some o=>rw [h.old hb]; simpa [hb] using hc
theorem zPV {T:TypeId} {cs:Array Value} {k:Addr→K} (h:Holds B Γ w) (hk:∀ b w',Holds B (blk b (.cells cs T (0,0))::Γ) w'→k ⟨b,0,none⟩ w'):New T cs k w :=
 ⟨_,_,rfl,rfl,hk _ _ (h.alloc _)⟩
theorem zbK {k:K} (h:Holds B Γ w) (hk:∀ w',Holds B Γ w'→k w'):Dr k w:=⟨_,rfl,hk _ (h.drew _)⟩
theorem zSK {b:Bool} {x y:K} (h1:b = true→x w) (h2:b = false→y w):Ite b x y w:=⟨h1,h2⟩
theorem zSL {b:Bool} {x y:K} (hb:b = true) (h1:x w):Ite b x y w:=⟨fun _=>h1,fun h=>absurd (hb.symm.trans h) (by simp)⟩
theorem zNo {b:Bool} {x y:K} (hb:b = false) (h1:y w):Ite b x y w:=⟨fun h=>absurd (hb.symm.trans h) (by simp),fun _=>h1⟩
theorem zK8 {e e':Int} {k:Int→K} (he:e = e') (hk:k e' w):Ar e k w:=⟨e',he.symm,hk⟩
theorem zaG {p:Prop} {k:K} (hp:p) (hk:k w):Cd p k w:=⟨hp,hk⟩
theorem wrap64 {e:Int} (h0:-9223372036854775808 ≤ e) (h1:e ≤ 9223372036854775807):IntKind.wrap .i64 e = e:=by
 unfold IntKind.wrap; simp only [IntKind.bits,IntKind.signed,Bool.true_and,decide_eq_true_eq,Nat.reduceSub,Int.reducePow,ge_iff_le]; split <;> omega
theorem zDg {e:Int} (h0:0 ≤ e) (h1:e ≤ 18446744073709551615):IntKind.wrap .u64 e = e:=by
 unfold IntKind.wrap; simp only [IntKind.bits,IntKind.signed,Bool.false_and,Bool.false_eq_true,if_false]; omega
theorem zSM {e:Int} {k:Int→K} (h0:-9223372036854775808 ≤ e) (h1:e ≤ 9223372036854775807) (hk:k e w):Ar (IntKind.wrap .i64 e) k w:=zK8 (wrap64 h0 h1) hk
theorem zY9 {α:Type} {a:Addr} {b off:Nat} {cs:Array Value} {T:TypeId} {fz:Nat×Nat} {c:α→Value} {x:α} {k:α→K} (h:Holds B Γ w) (ha:a = ⟨b,off,none⟩) (hm:blk b (.cells cs T fz) ∈ Γ)
  (hv:cs[off]? = some (c x)) (hk:k x w):Ld a c k w:=⟨x,by subst ha; exact vI (h.zSJ hm) hv,hk⟩
theorem zTq {b off:Nat} {cs cs':Array Value} {T:TypeId} {fz:Nat×Nat} (h:w.heap[b]? = some (.cells cs T fz)) (hc:∀ i,i < cs'.size→cs[off + i]? = cs'[i]?):RdN w ⟨b,off,none⟩ cs':=fun i hi=>by
 rw [uV]
 rw [← hc i hi]
 have:cs[off + i]? = some cs'[i]:=by rw [hc i hi]; simp [hi]
 rw [vI h this,this]
theorem zIP {b off:Nat} {cs:Array Value} {T:TypeId} {fz:Nat×Nat} {v:Value} (h:w.heap[b]? = some (.cells cs T fz)) :
  w.setCell ⟨b,off,none⟩ v = { w with heap:=w.heap.setIfInBounds b (.cells (cs.setIfInBounds off v) T fz) }:=by
 unfold World.setCell
 congr 1
 apply Array.ext_getElem?
 intro i
 rw [Array.getElem?_modify]
 by_cases hi:b = i
 ·subst hi
  have h3:b < w.heap.size:=(Array.getElem?_eq_some_iff.1 h).1
  simp only [if_true,h,Option.map_some]
  simp [h3]
 ·rw [if_neg hi,Array.getElem?_setIfInBounds_ne hi]
theorem zMO {a:Addr} {b off:Nat} {cs:Array Value} {T:TypeId} {fz:Nat×Nat} {v:Value} {k:K} (i:Nat) (h:Holds B Γ w) (ha:a = ⟨b,off,none⟩) (hi:Γ[i]? = some (blk b (.cells cs T fz))) (ho:off < cs.size)
  (hf:¬ (fz.1 ≤ off∧off < fz.2)) (hv:yX v = true) (hk:∀ w',Holds B (Γ.set i (blk b (.cells (cs.setIfInBounds off v) T fz))) w'→k w'):St a v k w:=by
 subst ha
 have h1:=h.pick i hi
 have hb:=h1.block
 refine ⟨_,rfl,⟨_,vI hb (Array.getElem?_eq_getElem ho)⟩,zAf hb hf,hv,hk _ ?_⟩
 exact Holds.put i hi (h1.setBlock (zIP hb))
theorem zBS {b:Nat} {T:TypeId} {fz:Nat×Nat}:∀ (vs:List Value) (off i:Nat) (w:World) (cs:Array Value),w.heap[b]? = some (.cells cs T fz) →
  setCells ⟨b,off,none⟩ vs i w = { w with heap:=w.heap.setIfInBounds b (.cells ((vs.zipIdx (off + i)).foldl (fun c p=>c.setIfInBounds p.2 p.1) cs) T fz) }
 | [],off,i,w,cs,h=>by
  simp only [setCells,List.zipIdx_nil,List.foldl_nil]
  have hlt:=(Array.getElem?_eq_some_iff.1 h).1
  have:w.heap.setIfInBounds b (.cells cs T fz) = w.heap:=by
   apply Array.ext
   ·simp
   ·intro j h1 h2
    rw [Array.getElem_setIfInBounds]
    split
    ·rename_i hj; subst hj; exact (Array.getElem?_eq_some_iff.1 h).2.symm
    ·rfl
  rw [this]
 | v::vs,off,i,w,cs,h=>by
  have hlt:=(Array.getElem?_eq_some_iff.1 h).1
  simp only [setCells,uV]
  rw [zIP h]
  rw [zBS (T:=T) (fz:=fz) vs off (i + 1) _ (cs.setIfInBounds (off + i) v) (by simp [hlt])]
  simp only [List.zipIdx_cons,List.foldl_cons,Array.setIfInBounds_setIfInBounds]
  rw [Nat.add_assoc]
theorem zDh:∀ (vs:List Value) (pre cs:List Value),pre.length + vs.length = (pre++cs).length →
  (vs.zipIdx pre.length).foldl (fun c p=>c.setIfInBounds p.2 p.1) (pre++cs).toArray = (pre++vs).toArray
 | [],pre,cs,h=>by
  have:cs = []:=by simpa using h
  simp [this]
 | v::vs,pre,[],h=>by simp at h
 | v::vs,pre,c::cs,h=>by
  simp only [List.zipIdx_cons,List.foldl_cons]
  have h1:(pre++c::cs).toArray.setIfInBounds pre.length v = ((pre++[v])++cs).toArray:=by
   apply Array.ext'; simp
  rw [h1]
  have:=zDh vs (pre++[v]) cs (by simp at h ⊢; omega)
  simpa using this
theorem zaH {a:Addr} {b n:Nat} {cs vs:Array Value} {T:TypeId} {fz:Nat×Nat} {k:K} (i:Nat) (h:Holds B Γ w) (ha:a = ⟨b,0,none⟩) (hi:Γ[i]? = some (blk b (.cells cs T fz))) (hn:cs.size = n) (hv:vs.size = n)
  (hf:∀ o,o < n→¬ (fz.1 ≤ o∧o < fz.2)) (hfl:∀ v ∈ vs.toList,yX v = true) (hk:∀ w',Holds B (Γ.set i (blk b (.cells vs T fz))) w'→k w'):StN a n vs k w:=by
 subst ha
 have h1:=h.pick i hi
 have hb:=h1.block
 refine ⟨_,rfl,hv,fun j hj=>?_,hfl,hk _ ?_⟩
 ·rw [uV,Nat.zero_add]
  exact ⟨⟨_,vI hb (Array.getElem?_eq_getElem (by omega))⟩,zAf hb (hf j (by omega))⟩
 ·refine Holds.put i hi (h1.setBlock ?_)
  rw [zBS _ _ _ _ _ hb]
  have:=zDh vs.toList [] cs.toList (by simp; omega)
  simp only [List.length_nil,List.nil_append] at this
  have h2:(cs.toList).toArray = cs:=by simp
  have h3:(vs.toList).toArray = vs:=by simp
  rw [h2,h3] at this
  simp only [Nat.zero_add,Nat.add_zero]
  rw [this]
theorem zZA {zero cs:Array Value} {n:Nat} {k:Array Value→K} (hz:zero.size = n) (hn:cs.size = n) (hk:k cs w):Bld zero (fun i=>some (i * n,n)) [(0,.agg cs)] k w:=by
 refine ⟨cs,?_,hk⟩
 have h1:(Value.agg cs).cells = cs:=rfl
 simp only [Instr.fill,h1,Nat.zero_mul,Nat.zero_add]
 rw [if_neg (by simp [hz,hn])]
 have h2:=zDh cs.toList [] zero.toList (by simp; omega)
 simp only [List.length_nil,List.nil_append] at h2
 have h3:(cs.toList).toArray = cs:=by simp
 have h4:(zero.toList).toArray = zero:=by simp
 rw [h3,h4] at h2
 rw [← Array.foldl_toList,Array.toList_zipIdx]
 exact congrArg some h2
theorem zMP (o:Nat):¬ (((0,0):Nat×Nat).1 ≤ o∧o < ((0,0):Nat×Nat).2):=by simp
end
theorem at2 {A0:zB} {A1:zB} {A:zB} {Γ:List zB}:(A0::A1::A::Γ)[2]? = some A:=rfl
theorem at3 {A0:zB} {A1:zB} {A2:zB} {A:zB} {Γ:List zB}:(A0::A1::A2::A::Γ)[3]? = some A:=rfl
theorem at4 {A0:zB} {A1:zB} {A2:zB} {A3:zB} {A:zB} {Γ:List zB}:(A0::A1::A2::A3::A::Γ)[4]? = some A:=rfl
def SlC (E esz:Nat) (s:Sl) (vs:List Value):zB:=fun h=>
 vs.length = s.n * esz∧s.n ≤ s.c ∧
 match s.a with
 | none=>s.c = 0
 | some a=>a.spot = none∧∃ cs fz,h a.block = some (.cells cs E fz)∧(∀ i,a.off ≤ i→i < a.off + s.c * esz→¬ (fz.1 ≤ i∧i < fz.2))∧a.off + s.c * esz ≤ cs.size∧∀ i,i < vs.length→cs[a.off + i]? = vs[i]?
structure RdC (w:World) (s:Sl) (esz:Nat) (vs:List Value):Prop where
 len:vs.length = s.n * esz
 nil:s.a = none→s.n = 0
 at':∀ a,s.a = some a→∀ i,i < vs.length→w.cell? (a.add i) = vs[i]?
def jm (b:UInt8):Value:=.int .u8 b.toNat
def Bytes (E:Nat) (s:Sl) (xs:List UInt8):zB:=SlC E 1 s (xs.map jm)
abbrev RdB (w:World) (s:Sl) (xs:List UInt8):Prop:=RdC w s 1 (xs.map jm)
section
variable {B w:World} {Γ:List zB} {E esz:Nat} {s:Sl} {vs:List Value}
theorem zGv {b:Nat} {o:Obj} {h1:Hp} (hl:h1.le (own B w)) (hb:h1 b = some o):w.heap[b]? = some o:=(zGJ (hl _ _ hb)).2
theorem Holds.rdC (h:Holds B Γ w) (hm:SlC E esz s vs ∈ Γ):RdC w s esz vs:=by
 obtain ⟨Δ,h'⟩:=h.mem hm
 obtain ⟨_,h1,h2,⟨hl,hc,hs⟩,_,l1,_,_⟩:=h'
 refine ⟨hl,fun hn=>?_,fun a ha i hi=>?_⟩
 ·rw [hn] at hs; simp only at hs; omega
 ·rw [ha] at hs
  obtain ⟨hsp,cs,fz,hb,_,_,hv⟩:=hs
  obtain ⟨b,off,sp⟩:=a
  simp only at hsp; subst hsp
  rw [uV]
  have:=zGv l1 hb
  have h3:=hv i hi
  have h4:vs[i]? = some vs[i]:=by simp [hi]
  rw [h4] at h3
  rw [vI this h3,h4]
theorem Holds.imp' {a:Addr} {n c:Nat} {cs:Array Value} {T:TypeId} {fz:Nat×Nat} (h:Holds B (SlC E esz ⟨some a,n,c⟩ vs::Γ) w) (hb:w.heap[a.block]? = some (.cells cs T fz)):Holds B (blk a.block (.cells cs T fz)::Γ) w:=by
 obtain ⟨hw,h1,h2,⟨hl,hc,hsp,cs',fz',hb',hf,hsz,hv⟩,b2,l1,l2,d⟩:=h
 have:=zGv l1 hb'
 rw [hb] at this
 refine ⟨hw,h1,h2,?_,b2,l1,l2,d⟩
 unfold blk; rw [hb',this]
theorem RdC.old {s:Sl} {esz:Nat} {vs:List Value} (hr:RdC B s esz vs) (h:Holds B Γ w):RdC w s esz vs :=
 ⟨hr.len,hr.nil,fun a ha i hi=>by
  have h1:=hr.at' a ha i hi
  have h2:vs[i]? = some vs[i]:=by simp [hi]
  rw [h2] at h1 ⊢
  exact h.zWz h1⟩
end
end
section
open Go
def jM (ds:List Deferred) (a:Act) (n:Nat) (σ:List (Nat×Value)):Prop:=Slots { a with defers:=[] } n σ∧a.defers = ds
section
variable {P:Program} {ops:Array Oper} {Q:Exit→Act→World→Prop} {rest:List Oper} {o:Oper} {a:Act} {n m:Nat} {σ τ:List (Nat×Value)} {w w':World} {v:Value} {F:Fence} {ds:List Deferred}
theorem Slots.D (h:Slots a n σ):jM [] a n σ:=by
 obtain ⟨t,d⟩:=a
 have:=h.defers
 simp only at this
 subst this
 exact ⟨h,rfl⟩
theorem jM.nil (h:jM [] a n σ):Slots a n σ:=by
 obtain ⟨t,d⟩:=a
 obtain ⟨h1,h2⟩:=h
 simp only at h2
 subst h2
 exact h1
theorem jM.to (h:jM ds a n σ) (hs:Sub σ τ):jM ds a n τ:=⟨h.1.to hs,h.2⟩
theorem jM.put (h:jM ds a n σ) {d:Nat} (hd:d < n) (v:Value):jM ds (a.put (some d) v) n ((d,v)::σ):=by
 have h1:=h.1.put hd v
 exact ⟨h1,h.2⟩
structure Free (F:Fence):Prop where
 fn:∀ f,F.fn f
 depth:F.depth = none
theorem zGw:Free Fence.wide:=⟨fun _=>trivial,rfl⟩
theorem Free.round (h:Free F) (l:Nat):Free (F.inRound l):=⟨h.fn,h.depth⟩
theorem zFV (hF:Free F) {f:FuncId} {args:Array Value} {R:Ending→World→Prop} (ha:F.alive = false) (h:Calls P f args w R):CallsIn F m P f args w R:=by
 obtain ⟨h1,h2⟩:=(callsIn_wide (n:=m)).2 h
 refine ⟨hF.fn f,fun cs hr=>?_⟩
 obtain ⟨e,w',fr,r,s,x⟩:=h2 cs (fun d hd=>by cases hd)
 refine ⟨e,w',fr,r,?_,x⟩
 have key:Machine.fenced P Fence.wide = Machine.fenced P F:=by
  funext mm
  unfold Machine.fenced
  simp [Fence.wide,ha,hF.fn,Fence.room,hF.depth]
 rwa [key] at s
theorem zNp {m' l:Nat} {f:FuncId} {tmps:Array Value} {assign body:Code} {R:Ending→World→Prop} (h:RoundIn Fence.wide m P l f tmps assign body w R):RoundIn Fence.wide m' P l f tmps assign body w R :=
 ⟨h.1,fun c cs _=>h.2 c cs (fun d hd=>by cases hd)⟩
theorem zW0 {α:Type} {c:Code} (I:α→World→Prop) (μ:α→World→Nat) (G:α→Act→Prop) (x:α) (h0:I x w) (hG:G x a)
  (h:∀ x a w,I x w→G x a→c.wpIn F m P (Exit.then (fun a' w'=>∃ x',G x' a'∧I x' w'∧μ x' w' < μ x w) Q) a w):(Code.loop c).wpIn F m P Q a w:=by
 classical
 let R:Act→World→Nat→Prop:=fun a w k=>∃ x,I x w∧G x a∧μ x w = k
 have key:∀ k a w,R a w k→(Code.loop c).wpIn F m P Q a w:=by
  intro k0 a0 w0 hR0
  intro b kk cs hro hb hr
  have key2:∀ j a w,R a w j→∃ e a' w',Q e a' w'∧ArrivesIn (Machine.fenced P F) P (lone (b.atR a (.code c::.inLoop c::kk)) cs w) b kk cs e a' w':=by
   intro j
   induction j using Nat.strongRecOn with
   | _ j ih=>
    rintro a w ⟨x,hI,hGx,hμ⟩
    obtain ⟨e,a₁,w₁,hq,harr⟩:=h x a w hI hGx b (.inLoop c::kk) cs hro hb hr
    cases e with
    | normal=>
     obtain ⟨x',hG',hI',hlt⟩:=hq
     obtain ⟨e₂,a₂,w₂,hq₂,harr₂⟩:=ih (μ x' w₁) (hμ ▸ hlt) a₁ w₁ ⟨x',hI',hG',rfl⟩
     exact ⟨e₂,a₂,w₂,hq₂,.of_steps (StepsIn.trans harr (.one (fenced_calm hb hr rfl) stepR_inLoop)) harr₂⟩
    | exit id=>exact ⟨_,a₁,w₁,hq,.pass (x:=.inLoop c) rfl (fun _ _=>.inl (by simp)) harr⟩
    | goto l=>exact ⟨_,a₁,w₁,hq,.pass (x:=.inLoop c) rfl (fun _ _=>.inl (by simp)) harr⟩
    | ret=>exact ⟨_,a₁,w₁,hq,.pass (x:=.inLoop c) rfl (fun _ _=>.inl (by simp)) harr⟩
    | panic ch=>exact ⟨_,a₁,w₁,hq,.pass (x:=.inLoop c) rfl (fun _ _=>.inl (by simp)) harr⟩
    | outgrown=>exact ⟨_,a₁,w₁,hq,.pass (x:=.inLoop c) rfl (fun _ _=>.inl (by simp)) harr⟩
  obtain ⟨e,a',w',hq,harr⟩:=key2 k0 a0 w0 hR0
  exact ⟨e,a',w',hq,.of_steps (.one (fenced_calm hb hr rfl) stepR_loop) harr⟩
 exact key _ a w ⟨x,h0,hG,rfl⟩
abbrev yv (l:Nat):Value:=.func (.yield l) #[] #[]
def jU (P:Program) (f:Value) (args:List Value) (k:Value→K):K:=fun w=>∃ l,f = .func (.yield l) #[] #[]∧YieldAt Fence.wide 0 P l args.toArray w (Ret k)
theorem zW1 {l:Nat} {x:Operand} {xs:Array Operand} {ts:Array TypeId} {vs:List Value} (ho:o.op = .call { callee:=.value x,args:=xs,argTypes:=ts }) (hx:ev σ x = some (.func (.yield l) #[] #[])) (hv:evs σ xs.toList = some vs) :
  ∀ (y:Next),(Instr.yield l vs.toArray).run P w = .ok y w→Eff P σ o w y w:=fun y hy a _ hs=>by
 have h1:xs.map a.eval = vs.toArray:=by apply Array.ext'; simpa using zEy hs hv
 simp [execOp,ho,resolve,hs.ev hx,h1,Deferred.ofValue,invoke,hy]
def zEz (D:Nat):List Deferred:=[{ target:=.collected D,args:=#[] }]
def zNq (l:Nat) (r:Loop) (k:K):K:=fun w=>w.heap[l]? = some (.loop r)∧k (w.putObj l (.loop { r with state:=.ready,pending:=none }))
def jV (D:Nat) (k:K):K:=fun w=>w.heap[D]? = some (.deferred (some []))∧k (w.putObj D (.deferred none))
def jN {α:Type} (P:Program) (fv:Value) (cX:α→Value) (body:K→α→K) (after:Nat→K):K:=fun w=>
 ∃ g cs,fv = .func (.func g) #[] cs∧callable P g = true ∧
  ∀ (r:Loop) (w1:World),r.state = .ready→r.pending = none→r.defers = w.heap.size→w1 = (w.alloc (.deferred (some []))).alloc (.loop r) →
   (∀ (x:α) (k:K) (W:World),W.heap[w.heap.size + 1]? = some (.loop r) →
    body (zNq (w.heap.size + 1) { r with state:=.busy } k) x (W.putObj (w.heap.size + 1) (.loop { r with state:=.busy })) →
    YieldAt Fence.wide 0 P (w.heap.size + 1) #[cX x] W (Ret fun v w'=>v = .bool true∧k w')) →
   Calls P g (yv (w.heap.size + 1)::cs.toList).toArray w1 (Ret fun _ w3=>w3.heap[w.heap.size + 1]? = some (.loop r)∧after w.heap.size (w3.putObj (w.heap.size + 1) (.loop { r with state:=.exhausted })))
theorem jM.init (args:List Value) (n:Nat) (hn:args.length ≤ n):jM [] { tmps:=args.toArray++Array.replicate (n - args.toArray.size) undef,defers:=[] } n (args.zipIdx.map fun p=>(p.2,p.1)):=(Slots.init args n hn).D
def zA9 (P:Program) (fn:Func) (R:Ending→World→Prop):Exit→Act→World→Prop
 | .normal,a,w | .ret,a,w=>LeavesInM Fence.wide 0 P fn a.tmps R a.defers .returning w
 | _,_,_=>False
theorem zPW {fn:Func} {R:Ending→World→Prop}:zD9 (zA9 P fn R):=fun _ _ _ h=>h
theorem zUx {f:FuncId} {fn:Func} {c:Code} {args:List Value} {R:Value→World→Prop} (hf:P.funcs[f]? = some fn) (hb:fn.body = some c) (hn:args.length ≤ fn.ntmps)
  (h:∀ a,jM [] a fn.ntmps (args.zipIdx.map fun p=>(p.2,p.1))→c.wpIn Fence.wide 0 P (zA9 P fn (Ret R)) a w):Calls P f args.toArray w (Ret R):=by
 refine callsIn_wide.1 (callsIn_of_wp_marks (n:=0) hf hb trivial ?_)
 refine wpIn_mono (h _ (jM.init args _ hn)) fun e a w hq=>?_
 cases e with
 | normal=>exact hq
 | ret=>exact hq
 | _=>exact hq.elim
end
section
variable {P:Program} {B w:World} {Γ:List zB}
theorem jX {l:Nat} {o o':Obj} (h:Holds B (blk l o::Γ) w):Holds B (blk l o'::Γ) (w.putObj l o'):=h.setBlock rfl
theorem zZB {l:Nat} {r:Loop} {k:K} (h:Holds B (blk l (.loop r)::Γ) w) (hk:∀ w,Holds B (blk l (.loop { r with state:=.ready,pending:=none })::Γ) w→k w):zNq l r k w:=⟨h.block,hk _ (jX h)⟩
theorem zSN {D:Nat} {k:K} (h:Holds B (blk D (.deferred (some []))::Γ) w) (hk:∀ w,Holds B Γ w→k w):jV D k w:=⟨h.block,hk _ (jX (o':=.deferred none) h).tail⟩
theorem zUy {α:Type} {fv:Value} {cX:α→Value} {body:K→α→K} {after:Nat→K} {g:FuncId} {cs:Array Value} (h:Holds B Γ w) (hf:fv = .func (.func g) #[] cs) (hc:callable P g = true)
  (hk:∀ (D l:Nat) (r:Loop) (w:World),r.state = .ready→r.pending = none→Holds B (blk l (.loop r)::blk D (.deferred (some []))::Γ) w →
   (∀ (x:α) (k:K) (W:World) (Δ:List zB),Holds B (blk l (.loop r)::Δ) W→(∀ W,Holds B (blk l (.loop { r with state:=.busy })::Δ) W→body (zNq l { r with state:=.busy } k) x W) →
    jU P (.func (.yield l) #[] #[]) [cX x] (fun v w=>v = .bool true∧k w) W) →
   Calls P g (yv l::cs.toList).toArray w (Ret fun _ w3=>∃ Δ,Holds B (blk l (.loop r)::Δ) w3∧∀ w,Holds B Δ w→after D w)):jN P fv cX body after w:=by
 refine ⟨g,cs,hf,hc,fun r w1 h1 h2 h3 hw hy=>?_⟩
 have h4:=h.alloc (.deferred (some []))
 have h5:=h4.alloc (.loop r)
 have e:({ w with heap:=w.heap.push (.deferred (some [])) }:World).heap.size = w.heap.size + 1:=by simp
 rw [e] at h5
 subst hw
 refine (hk w.heap.size (w.heap.size + 1) r _ h1 h2 h5 fun x k W Δ hW hb=>?_).mono fun e w3 he=>?_
 ·exact ⟨_,rfl,hy x k W hW.block (hb _ (jX hW))⟩
 ·cases e with
  | returned v=>
   obtain ⟨Δ,h6,h7⟩:=he
   exact ⟨h6.block,h7 _ (jX h6).tail⟩
  | panicked c=>exact he.elim
  | outgrown=>exact he.elim
end
theorem zK9 {P:Program} {f:FuncId} {args:Array Value} {w:World} {k k':Value→World→Prop} (h:Calls P f args w (Ret k)) (hk:∀ v w,k v w→k' v w):Calls P f args w (Ret k') :=
 h.mono fun e w he=>by
  cases e with
  | returned v=>exact hk _ _ he
  | panicked c=>exact he.elim
  | outgrown=>exact he.elim
theorem zLA {P:Program} {f:Value} {args:List Value} {w:World} {k k':Value→K} (h:jU P f args k w) (hk:∀ v w,k v w→k' v w):jU P f args k' w:=by
 obtain ⟨l,hl,fn,tm,sg,bd,hy,hr⟩:=h
 refine ⟨l,hl,fn,tm,sg,bd,hy,hr.mono fun e w he=>?_⟩
 cases e with
 | returned v=>exact hk _ _ he
 | panicked c=>exact he.elim
 | outgrown=>exact he.elim
end
section
open Go
section
variable {P:Program} {ops:Array Oper} {Q:Exit→Act→World→Prop} {S:World→Prop} {o:Oper} {a:Act} {w w':World} {v:Value} {fuel:Nat} {listed:Array Bool}
abbrev opW (P:Program) (ops:Array Oper) (Q:Exit→Act→World→Prop):=wpOpIn Fence.wide 0 P ops Q
theorem zYZ {i:Nat} (hi:ops[i]? = some o) (hy:YieldsIf P ops S o v a) {K:Act→World→Prop} (hS:S w) (h:K (a.put o.dst v) w):opW P ops Q i K a w:=by
 unfold opW Go.wpOpIn
 simp only [hi]
 rcases hy with ⟨hw,hv⟩ | ⟨hw,rfl⟩
 ·simp only [hw,if_true,Oper.wpIn]
  refine ⟨fun _ _=>trivial,?_⟩
  show o.uponIn Fence.wide 0 P a K Q ((o.semAt none a.eval).run P w)
  rw [Oper.semAt_none,hv w hS]; exact h
 ·simp only [hw,Bool.false_eq_true,if_false]; exact ⟨fun _ _=>trivial,h⟩
theorem zW2 {j:Nat} {oi oj:Oper} (hj:ops[j]? = some oj) (hap:oi.apart ops oj = true) (hsi:∀ cs b,oi.op ≠ .select cs b) (hsj:∀ cs b,oj.op ≠ .select cs b)
  (hQ:∀ c a w,Q (.panic c) (a.put oi.dst v) w→Q (.panic c) a w) {K:Act→World→Prop} (hy:YieldsIf P ops S oi v a) (h:opW P ops Q j K (a.put oi.dst v) w) :
  opW P ops Q j (fun a' w'=>YieldsIf P ops S oi v a'∧K (a'.put oi.dst v) w') a w:=by
 obtain ⟨h1,h2,h3⟩:=Oper.apart_spec hap
 have keep:∀ (a:Act),YieldsIf P ops S oi v a→∀ u,YieldsIf P ops S oi v (a.put oj.dst u):=fun a hy u=>
  hy.of_same (execOp_put oi hsi a oj.dst u h3) (wanted_put oi a oj.dst u h3)
 have keepD:∀ d,YieldsIf P ops S oi v { a with defers:=d::a.defers }:=fun d=>hy.of_same rfl rfl
 unfold opW wpOpIn at *
 simp only [hj] at *
 rw [wanted_put oj a oi.dst v h1] at h
 split
 ·rename_i hw
  simp only [hw,if_true] at h
  unfold Oper.wpIn at *
  refine ⟨fun _ _=>trivial,?_⟩
  have h:=h.2
  have hro:Fence.wide.round = none:=rfl
  rw [hro,Oper.semAt_none,execOp_put oj hsj a oi.dst v h1] at h
  rw [hro,Oper.semAt_none]
  generalize (execOp a.eval oj).run P w = r at *
  cases r with
  | ok x w'=>
   cases x <;> simp only [Oper.uponIn] at h ⊢
   case value u=>exact ⟨keep a hy u,by rw [← Act.put_comm a v u h2]; exact h⟩
   case skip=>exact ⟨keep a hy _,by rw [← Act.put_comm a v undef h2]; exact h⟩
   case defer d=>
    refine ⟨keep _ (keepD d) _,?_⟩
    rw [← Act.put_comm _ v undef h2,← Act.put_defers]
    exact h
   case enter f args=>
    refine ⟨h.1,CallsIn.mono h.2 fun e w'' he=>?_⟩
    cases e with
    | returned u=>exact ⟨keep a hy u,by rw [← Act.put_comm a v u h2]; exact he⟩
    | panicked c=>exact hQ _ _ _ he
    | outgrown=>exact he
   case row row args=>exact ⟨h.1,RowsIn.mono h.2 fun u w'' he=>⟨keep a hy u,by rw [← Act.put_comm a v u h2]; exact he⟩⟩
   case round l f tmps assign body=>
    refine ⟨h.1,RoundIn.mono h.2 fun e w'' he=>?_⟩
    cases e with
    | returned u=>exact ⟨keep a hy u,by rw [← Act.put_comm a v u h2]; exact he⟩
    | panicked c=>exact hQ _ _ _ he
    | outgrown=>exact he
  | halt x w'=>
   cases x <;> simp only [Oper.uponIn] at h ⊢
   case panic u=>exact hQ _ _ _ h
 ·rename_i hw
  simp only [hw] at h
  exact ⟨fun _ _=>trivial,keep a hy _,by rw [← Act.put_comm a v undef h2]; exact h.2⟩
def alive (ds:List Nat) (l:Array Bool):Bool:=ds.all fun d=>!l.getD d false
def zDP (P:Program) (ops:Array Oper) (Q:Exit→Act→World→Prop) (S:World→Prop) (ds:List Nat):Nat→Array Bool→Act→World→Prop
 | 0,listed,a,w=>Region.ready .any ops listed = []∧Q .normal a w
 | fuel + 1,listed,a,w=>
  (Region.ready .any ops listed = []→Q .normal a w) ∧
  ∀ i ∈ Region.ready .any ops listed,opW P ops Q i (fun a' w'=>(alive ds listed = true→i ∉ ds→S w→S w')∧zDP P ops Q S ds fuel (listed.setIfInBounds i true) a' w') a w
variable {ds:List Nat}
theorem zEE:∀ (fuel:Nat) (listed:Array Bool) (a:Act) (w:World),zDP P ops Q S ds fuel listed a w→wpAnyIn Fence.wide 0 P .any ops Q fuel listed a w
 | 0,_,_,_,h=>h
 | fuel + 1,_,_,_,h=>⟨h.1,fun i hi=>wpOpIn_mono (fun a' w' h'=>zEE fuel _ a' w' h'.2) (h.2 i hi)⟩
theorem zJF {ds':List Nat} (hsub:∀ d ∈ ds',d ∈ ds):∀ (fuel:Nat) (listed:Array Bool) (a:Act) (w:World),zDP P ops Q S ds' fuel listed a w→zDP P ops Q S ds fuel listed a w
 | 0,_,_,_,h=>h
 | fuel + 1,_,_,_,h=>⟨h.1,fun i hi=>wpOpIn_mono (fun a' w' h'=>⟨fun hal hid=>h'.1 (List.all_eq_true.2 fun d hd=>List.all_eq_true.1 hal d (hsub d hd)) (fun hm=>hid (hsub i hm)),zJF hsub fuel _ a' w' h'.2⟩) (h.2 i hi)⟩
theorem zMs {l:Array Bool} {i:Nat} (hi:i ∉ ds) (h:alive ds l = true):alive ds (l.setIfInBounds i true) = true:=by
 refine List.all_eq_true.2 fun d hd=>?_
 have:=List.all_eq_true.1 h d hd
 have hne:i ≠ d:=fun e=>hi (e ▸ hd)
 rw [getD_set_ne false hne]; exact this
theorem zNr {T:World→Prop} {i:Nat} {oi:Oper} (hi:ops[i]? = some oi) (hid:i ∉ ds) (hsel:∀ (j:Nat) (o:Oper) cs b,ops[j]? = some o→o.op ≠ .select cs b) (hQ:zD9 Q) :
  ∀ (fuel:Nat) (listed:Array Bool) (a:Act) (w:World),
   (∀ j oj,ops[j]? = some oj→j ≠ i→listed.getD j true = false→(∀ e ∈ oj.after,Region.binds .any e = true→e.on ≠ i)→oi.apart ops oj = true) →
   ((∀ w,T w)∨(T = S∧Closed ops listed∧∀ d ∈ ds,∃ n,reach ops i n d = true)) →
   i ∈ Region.ready .any ops listed→YieldsIf P ops T oi v a→T w →
   zDP P ops Q S ds fuel (listed.setIfInBounds i true) (a.put oi.dst v) w→zDP P ops Q S ds (fuel + 1) listed a w:=by
 have hQ':∀ c a w,Q (.panic c) (a.put oi.dst v) w→Q (.panic c) a w:=fun c a w h=>absurd h (hQ c _ w)
 intro fuel
 induction fuel with
 | zero=>
  intro listed a w _ _ hr hy hT H
  refine ⟨fun h=>(by rw [h] at hr; cases hr),fun j hj=>?_⟩
  by_cases hji:j = i
  ·subst hji; exact zYZ hi hy hT ⟨fun _ _ h=>h,H⟩
  ·have:=ready_mono hj hji
   rw [H.1] at this
   cases this
 | succ fuel ih=>
  intro listed a w hfree hlast hr hy hT H
  refine ⟨fun h=>(by rw [h] at hr; cases hr),fun j hj=>?_⟩
  by_cases hji:j = i
  ·subst hji; exact zYZ hi hy hT ⟨fun _ _ h=>h,H⟩
  ·have h1:=H.2 j (ready_mono hj hji)
   obtain ⟨hjun,oj,hoj,hall⟩:=mem_ready.1 hj
   have hi0:listed.getD i true = false:=(mem_ready.1 hr).1
   have hi1:listed.getD i false = false:=by
    rcases Nat.lt_or_ge i listed.size with h' | h'
    ·simp [h'] at hi0 ⊢; exact hi0
    ·simp [Array.getElem?_eq_none h'] at hi0
   have hnot:∀ e ∈ oj.after,Region.binds .any e = true→e.on ≠ i:=fun e he hb heq=>by
    have h1:=hall e he hb
    rw [heq,hi1] at h1
    cases h1
   have hTw:∀ w',(alive ds listed = true→j ∉ ds→S w→S w')→T w':=fun w' h=>by
    rcases hlast with hl | ⟨rfl,hcl,hl⟩
    ·exact hl w'
    ·refine h (List.all_eq_true.2 fun d hd=>?_) (fun hd=>?_) hT
     ·cases hld:listed.getD d false with
      | false=>rfl
      | true=>
       obtain ⟨n,hn⟩:=hl d hd
       cases hod:ops[d]? with
       | none=>cases n <;> simp [reach,hod] at hn
       | some od=>
        have:=zFU hcl n d od hod (hcl d od hod hld) hn
        rw [hi1] at this; cases this
     ·obtain ⟨n,hn⟩:=hl j hd
      have:=zFU hcl n j oj hoj hall hn
      rw [hi1] at this; cases this
   have h2:=zW2 hoj (hfree j oj hoj hji hjun hnot) (fun cs b=>hsel i oi cs b hi) (fun cs b=>hsel j oj cs b hoj) hQ' hy h1
   have hun':∀ k,(listed.setIfInBounds j true).getD k true = false→listed.getD k true = false:=fun k hun=>by
    by_cases hjk:j = k
    ·subst hjk; exact hjun
    ·rw [getD_set_ne true hjk] at hun; exact hun
   refine wpOpIn_mono (fun a' w' h3=>⟨fun hal=>h3.2.1 (zMs hid hal),ih (listed.setIfInBounds j true) a' w' (fun k ok hk hki hun hno=>hfree k ok hk hki (hun' k hun) hno) ?_ (ready_mono hr (Ne.symm hji)) h3.1 (hTw w' fun hal=>h3.2.1 (zMs hid hal)) ?_⟩) h2
   ·rcases hlast with hl | ⟨hTS,hcl,hl⟩
    ·exact .inl hl
    ·exact .inr ⟨hTS,hcl.put hj,hl⟩
   ·rw [Array.setIfInBounds_comm _ _ hji]
    exact h3.2.2
end
end
section
open Go
class CT (P:Program) (T:Nat):Prop where h:zMo P T = true
class AT (P:Program) (T:Nat) (n:outParam Nat):Prop where h:zTn P T n = true
class SZ (P:Program) (T:Nat) (n:outParam Nat):Prop where h:sizeT P T n = true
class SLT (P:Program) (T:Nat) (E esz:outParam Nat):Prop where h:sliceT P T E esz = true
class ART (P:Program) (T:Nat) (E len esz:outParam Nat):Prop where h:zNk P T E len esz = true
class STT (P:Program) (T:Nat):Prop where h:zEi P T = true
class INT (P:Program) (T:Nat) (k:outParam IntKind):Prop where h:zUl P T k = true
class ZT (P:Program) (T:Nat) (z:outParam Value):Prop where h:zBN P T z
class PLT (P:Program) (T:Nat) (l:outParam (List (Nat×Nat))):Prop where h:zSG P T l
class FT (P:Program) (S i:Nat) (off n:outParam Nat):Prop where h:zNl P S i off n = true
class FC (P:Program) (S i:Nat) (off:outParam Nat):Prop where h:zQ2 P S i off = true
class FNC (P:Program) (S i:Nat) (off n:outParam Nat):Prop where h:zQ3 P S i off n = true
class UN (P:Program) (T:Nat) (d:outParam TypeDesc):Prop where h:P.underlying T = some d
class CB (P:Program) (f:Nat):Prop where h:callable P f = true
class EXT (P:Program) (f:Nat) (e:outParam (Array Value→Sem Value)):Prop where h:∀ args w v w',(e args).run P w = .ok v w'→(callFunc f args).run P w = .ok (.value v) w'
class MX (P:Program):Prop where h:P.follows .mixedOrders = true
def zDQ {α β γ δ:Type} (c:α→β→γ→δ→Value) (k:α→β→γ→δ→K):Value→K:=fun v w=>∃ x y z u,v = c x y z u∧k x y z u w
def zDl {α β γ δ ε:Type} (c:α→β→γ→δ→ε→Value) (k:α→β→γ→δ→ε→K):Value→K:=fun v w=>∃ x y z u t,v = c x y z u t∧k x y z u t w
section
variable {P:Program} {σ τ:List (Nat×Value)} {o:Oper} {x y z:Operand} {v:Value} {T U:TypeId}
theorem zJs {S i off n:Nat} {a:Addr} [c:FT P S i off n] (ho:o.op = .fieldAddr S x i) (hx:ev σ x = some (.pointer (some a))):Pure P σ o (.pointer (some (a.add off))):=zJr ho hx c.h
theorem zIQ {S i n:Nat} {a:Addr} [c:FT P S i 0 n] (ho:o.op = .fieldAddr S x i) (hx:ev σ x = some (.pointer (some a))):Pure P σ o (.pointer (some a)):=zNm ho hx c.h
theorem zPX {S i off n:Nat} {cs:Array Value} [c:FNC P S i off n] (ho:o.op = .field S x i) (hx:ev σ x = some (.agg cs)):Pure P σ o (.agg (cs.extract off (off + n))):=zUo ho hx c.h
theorem q_len {s:Sl} {E esz:Nat} [c:SLT P T E esz] (ho:o.op = .call { callee:=.builtin .len,args:=#[x],argTypes:=#[T] }) (hx:ev σ x = some s.val):Pure P σ o (.int .i64 s.n):=zZ8 ho hx c.h
theorem zUz {s:ByteArray} [c:STT P T] (ho:o.op = .call { callee:=.builtin .len,args:=#[x],argTypes:=#[T] }) (hx:ev σ x = some (.string s)):Pure P σ o (.int .i64 s.size):=zY2 ho hx c.h
theorem zLB {s:ByteArray} [c:STT P T] [d:STT P U] (ho:o.op = .convert T U x) (hx:ev σ x = some (.string s)):Pure P σ o (.string s):=zQ5 ho hx c.h d.h
theorem zLC {k j:IntKind} {a:Int} [c:INT P T k] [d:INT P U j] (ho:o.op = .convert T U x) (hx:ev σ x = some (.int k a)):Pure P σ o (.int j (j.wrap a)):=zQ4 ho hx c.h d.h
theorem zYa {a b:Bool} [c:UN P T .bool] (ho:o.op = .binOp .eql T x y U) (hx:ev σ x = some (.bool a)) (hy:ev σ y = some (.bool b)):Pure P σ o (.bool (a == b)):=zZ6 ho hx hy c.h
theorem zYb {a b:Bool} [c:UN P T .bool] (ho:o.op = .binOp .neq T x y U) (hx:ev σ x = some (.bool a)) (hy:ev σ y = some (.bool b)):Pure P σ o (.bool (!(a == b))):=zZ7 ho hx hy c.h
theorem zPY {p:Option Addr} {E:Nat} [c:UN P T (.pointer E)] (ho:o.op = .binOp .eql T x y U) (hx:ev σ x = some (.pointer p)) (hy:ev σ y = some (.pointer none)):Pure P σ o (.bool p.isNone):=zUp ho hx hy c.h
theorem zPZ {p:Option Addr} {E:Nat} [c:UN P T (.pointer E)] (ho:o.op = .binOp .neq T x y U) (hx:ev σ x = some (.pointer p)) (hy:ev σ y = some (.pointer none)):Pure P σ o (.bool (!p.isNone)):=zUq ho hx hy c.h
theorem zSO {s:Sl} {E n c:Nat} [cl:UN P T (.slice E)] (ho:o.op = .binOp .eql T x y U) (hx:ev σ x = some s.val) (hy:ev σ y = some (.slice none n c)):Pure P σ o (.bool s.a.isNone):=zWr ho hx hy cl.h
theorem zSP {s:Sl} {E n c:Nat} [cl:UN P T (.slice E)] (ho:o.op = .binOp .neq T x y U) (hx:ev σ x = some s.val) (hy:ev σ y = some (.slice none n c)):Pure P σ o (.bool (!s.a.isNone)):=zWs ho hx hy cl.h
theorem zYc {a b:ByteArray} (ho:o.op = .binOp .geq T x y U) (hx:ev σ x = some (.string a)) (hy:ev σ y = some (.string b)):Pure P σ o (.bool !(Op.bytesLess a.toList b.toList)):=fun _ _ hs w=>by
 simp [execOp,ho,hs.ev hx,hs.ev hy,eqGuard,binOp,Op.stringOp]
theorem zYd {a b:ByteArray} (ho:o.op = .binOp .leq T x y U) (hx:ev σ x = some (.string a)) (hy:ev σ y = some (.string b)):Pure P σ o (.bool (Op.bytesLess a.toList b.toList || a.toList == b.toList)):=fun _ _ hs w=>by
 simp [execOp,ho,hs.ev hx,hs.ev hy,eqGuard,binOp,Op.stringOp]
def zNs:List Value→List (Nat×Nat)→List (Nat×Value)→List Value
 | zs,_,[]=>zs
 | zs,ps,p::vs=>zNs (zs.set ((ps.getD p.1 (0,0)).1) p.2) ps vs
def zJG:List (Nat×Value)→Bool
 | []=>true
 | p::vs=>yX p.2 && zJG vs
theorem zSQ {z:Value} {zl:List Value} {pl:List (Nat×Nat)} {ps:Array (Nat×Operand)} {vs:List (Nat×Value)} [c:ZT P T z] [d:PLT P T pl] (ho:o.op = .build T ps) (hv:partsOf σ ps.toList = some vs) (hf:zJG vs = true) (hz:z.cells = zl.toArray)
  (hc:Instr.fill (pl[·]?) z.cells vs = some (zNs zl pl vs).toArray):Pure P σ o (.agg (zNs zl pl vs).toArray):=zSH ho c.h d.h hv hc
def nth:List Value→Nat→Option Value
 | [],_=>none
 | v::_,0=>some v
 | _::l,i + 1=>nth l i
theorem zAq:∀ (l:List Value) (i:Nat),nth l i = l[i]?
 | [],_=>rfl
 | _::_,0=>rfl
 | _::l,i + 1=>by simpa [nth] using zAq l i
theorem zMt {l:List Value} {i:Nat} (ho:o.op = .extract x i) (hx:ev σ x = some (.tuple l.toArray)) (hv:nth l i = some v):Pure P σ o v:=zMr ho hx (by rw [zAq] at hv; simpa using hv)
theorem zNt (h:Pure P σ o v:=by
  first
  | exact zUm rfl rfl | exact zPO rfl rfl | exact zYG rfl rfl | exact zIQ rfl rfl | exact zJs rfl rfl | exact q_len rfl rfl | exact zZz rfl rfl rfl | exact zZ0 rfl rfl rfl | exact zZ1 rfl rfl rfl | exact zZ2 rfl rfl rfl
  | exact zZ3 rfl rfl rfl | exact zZ4 rfl rfl rfl | exact zYU rfl rfl | exact zPP rfl rfl rfl | exact zPQ rfl rfl rfl | exact zPR rfl rfl rfl rfl | exact zMt rfl rfl rfl | exact zUz rfl rfl | exact zYV rfl rfl rfl | exact zYW rfl rfl rfl
  | exact zYX rfl rfl rfl | exact zYY rfl rfl rfl | exact zYc rfl rfl rfl | exact zYd rfl rfl rfl | exact zPY rfl rfl rfl | exact zPZ rfl rfl rfl | exact zSO rfl rfl rfl | exact zSP rfl rfl rfl | exact zYa rfl rfl rfl | exact zYb rfl rfl rfl
  | exact zPX rfl rfl | exact zSQ rfl rfl rfl rfl (by kernel_rfl) | exact zK5 rfl rfl rfl | exact zUn rfl rfl | exact zLB rfl rfl):Pure P σ o v:=h
def WP (P:Program) (σ:List (Nat×Value)) (o:Oper) {α:Type} (k:K) (v:α→Value) (k':α→K):Prop:=∀ w,k w→∃ x,Pure P σ o (v x)∧k' x w
def WR (P:Program) (σ:List (Nat×Value)) (o:Oper) {α:Type} (k:K) (v:α→Value) (k':α→K):Prop:=∀ w,k w→∃ x,Eff P σ o w (.value (v x)) w∧k' x w
def WE (P:Program) (σ:List (Nat×Value)) (o:Oper) {α:Type} (k:K) (v:α→Value) (k':α→K):Prop:=∀ w,k w→∃ x w',Eff P σ o w (.value (v x)) w'∧k' x w'
def WK (P:Program) (σ:List (Nat×Value)) (o:Oper) (k k':K):Prop:=∀ w,k w→∃ w',Eff P σ o w .skip w'∧k' w'
def WC (P:Program) (σ:List (Nat×Value)) (o:Oper) (k:K) (kk:Value→K):Prop:=∀ w,k w→∃ f args w',Eff P σ o w (.enter f args) w'∧Calls P f args w' (Ret kk)
def WY (P:Program) (σ:List (Nat×Value)) (o:Oper) (k:K) (kk:Value→K):Prop:=∀ w,k w→∃ l args,(∀ y,(Instr.yield l args).run P w = .ok y w→Eff P σ o w y w)∧YieldAt Fence.wide 0 P l args w (Ret kk)
def WS (P:Program) (S:World→Prop) (σ:List (Nat×Value)) (o:Oper) {α:Type} (k:K) (v:α→Value) (k':α→K):Prop:=∀ w,k w→∃ x,(∀ w,S w→Eff P σ o w (.value (v x)) w)∧k' x w
section
variable {α β:Type} {e:Int} {p:Prop} {kk:IntKind} {ki:Int→K} {ka:Addr→K} {s:Sl} {i lo hi mx:Int} {esz:Nat} {c:α→Value} {kx:α→K} {k:K}
theorem zPa (hp:Pure P σ o (.int kk e)):WP P σ o (Ar e ki) (fun t=>.int kk t) ki:=fun w ⟨t,he,h⟩=>⟨t,he ▸ hp,h⟩
theorem zSR (hp:p→Pure P σ o (.int kk e)):WP P σ o (Cd p (Ar e ki)) (fun t=>.int kk t) ki:=fun w ⟨h0,t,he,h⟩=>⟨t,he ▸ hp h0,h⟩
theorem zU0 {E:Nat} {kj:IntKind} [cl:SLT P T E esz] (ho:o.op = .indexAddr T x y) (hx:ev σ x = some s.val) (hy:ev σ y = some (.int kj i)):WP P σ o (Idx s i esz ka) (fun t=>.pointer (some t)) ka :=
 fun w ⟨a,t,ha,h0,h1,he,h⟩=>⟨t,Pure.adr he (zZ9 ho hx hy cl.h ha h0 h1),h⟩
theorem zSS {E len:Nat} {kj:IntKind} {a:Addr} [cl:ART P T E len esz] (ho:o.op = .indexAddr T x y) (hx:ev σ x = some (.pointer (some a))) (hy:ev σ y = some (.int kj i)):WP P σ o (zAz a len i esz ka) (fun t=>.pointer (some t)) ka :=
 fun w ⟨t,h0,h1,he,h⟩=>⟨t,Pure.adr he (zY3 ho hx hy cl.h h0 h1),h⟩
theorem zST {kj:IntKind} {s:ByteArray} [cl:STT P T] (ho:o.op = .index T x y) (hx:ev σ x = some (.string s)) (hy:ev σ y = some (.int kj i)):WP P σ o (zDk s i ki) (fun t=>.int .u8 t) ki :=
 fun w ⟨t,b,h0,h1,he,h⟩=>⟨t,Pure.int he (zY4 ho hx hy cl.h h0 h1),h⟩
theorem zU1 {S j off:Nat} {cs:Array Value} [cl:FC P S j off] (ho:o.op = .field S x j) (hx:ev σ x = some (.agg cs)):WP P σ o (Fld cs off c kx) c kx :=
 fun w ⟨t,hv,h⟩=>⟨t,zWq ho hx cl.h hv,h⟩
theorem zU2 {E:Nat} {lo' hi' mx':Option Operand} {ks:Sl→K} [cl:SLT P T E esz] (ho:o.op = .slice T x lo' hi' mx') (hx:ev σ x = some s.val) (hl:zF1 σ lo' 0 lo) (hh:zF1 σ hi' s.n hi) (hm:zF1 σ mx' s.c mx) (hmx:(!mx'.isSome || hi'.isSome) = true) :
  WP P σ o (Slc s lo hi mx esz ks) (fun t=>t.val) ks :=
 fun w ⟨t,h0,h1,h2,h3,he,h⟩=>⟨t,Pure.sl he (zaA ho hx cl.h hl hh hm (fun hs=>by rw [hs] at hmx; simpa using hmx) h0 h1 h2 h3),h⟩
theorem zSU {lo' hi':Option Operand} {s:ByteArray} {ks:ByteArray→K} [cl:STT P T] (ho:o.op = .slice T x lo' hi' none) (hx:ev σ x = some (.string s)) (hl:zF1 σ lo' 0 lo) (hh:zF1 σ hi' s.size hi) :
  WP P σ o (zDx s lo hi ks) (fun t=>.string t) ks :=
 fun w ⟨t,h0,h1,h2,he,h⟩=>⟨t,Pure.str he (zY5 ho hx cl.h hl hh h0 h1 h2),h⟩
theorem zU3 {a b:ByteArray} {ks:ByteArray→K} (ho:o.op = .binOp .add T x y U) (hx:ev σ x = some (.string a)) (hy:ev σ y = some (.string b)):WP P σ o (Cat a b ks) (fun t=>.string t) ks :=
 fun w ⟨t,h0,he,h⟩=>⟨t,Pure.str he (zY1 ho hx hy h0),h⟩
theorem zU4 {sem:Sem Value} (hs:∀ v w w',sem.run P w = .ok v w'→Eff P σ o w (.value v) w'):WP P σ o (Pu P sem c kx) c kx :=
 fun w ⟨t,hd,h⟩=>⟨t,zaC fun w=>hs _ _ _ (hd w),h⟩
theorem zU5 {t:Value} {j:Nat} (ho:o.op = .extract x j) (hx:ev σ x = some t):WP P σ o (Ext t j c kx) c kx :=
 fun w ⟨vs,u,ht,hv,h⟩=>⟨u,zMr ho (hx.trans (congrArg some ht)) hv,h⟩
theorem zU6 {zv:Value} {zero:Array Value} {pl:List (Nat×Nat)} {ps:Array (Nat×Operand)} {vs:List (Nat×Value)} {kc:Array Value→K} [cz:ZT P T zv] [cp:PLT P T pl] (ho:o.op = .build T ps) (hv:partsOf σ ps.toList = some vs) (hz:zv.cells = zero) :
  WP P σ o (Bld zero (pl[·]?) vs kc) (fun t=>.agg t) kc:=fun w ⟨t,hb,h⟩=>⟨t,zSH ho cz.h cp.h hv (by rw [hz]; exact hb),h⟩
theorem zYe {a:Addr} [cl:CT P T] (ho:o.op = .load T x) (hx:ev σ x = some (.pointer (some a))):WR P σ o (Ld a c kx) c kx:=fun w ⟨t,hv,h⟩=>⟨t,zUr ho hx cl.h hv,h⟩
theorem zU7 {n:Nat} {a:Addr} {kc:Array Value→K} [cl:AT P T n] (ho:o.op = .load T x) (hx:ev σ x = some (.pointer (some a))):WR P σ o (LdN a n kc) (fun t=>.agg t) kc:=fun w ⟨t,hn,hv,h⟩=>⟨t,zSF ho hx cl.h hn hv,h⟩
theorem zAg {sem:Sem Value} (hs:∀ v w w',sem.run P w = .ok v w'→Eff P σ o w (.value v) w'):WR P σ o (Rd P sem c kx) c kx:=fun w ⟨t,hd,h⟩=>⟨t,hs _ _ _ hd,h⟩
theorem zAr {sem:Sem Value} {c:α→β→Value} {kx:α→β→K} (hs:∀ v w w',sem.run P w = .ok v w'→Eff P σ o w (.value v) w'):WR P σ o (Rd2 P sem c kx) (fun u=>u) (fun u=>zAZ c kx u):=fun w ⟨t,u,hd,h⟩=>⟨c t u,hs _ _ _ hd,t,u,rfl,h⟩
variable {S:World→Prop}
theorem zYf {a:Addr} [cl:CT P T] (ho:o.op = .load T x) (hx:ev σ x = some (.pointer (some a))):WS P S σ o (LdS S a c kx) c kx:=fun w ⟨t,hv,h⟩=>⟨t,fun w hS=>zUr ho hx cl.h (hv w hS),h⟩
theorem zU8 {n:Nat} {a:Addr} {kc:Array Value→K} [cl:AT P T n] (ho:o.op = .load T x) (hx:ev σ x = some (.pointer (some a))):WS P S σ o (vG S a n kc) (fun t=>.agg t) kc:=fun w ⟨t,hn,hv,h⟩=>⟨t,fun w hS=>zSF ho hx cl.h hn (hv w hS),h⟩
theorem zJt {sem:Sem Value} (hs:∀ v w w',sem.run P w = .ok v w'→Eff P σ o w (.value v) w'):WS P S σ o (RdS P S sem c kx) c kx:=fun w ⟨t,hd,h⟩=>⟨t,fun w hS=>hs _ _ _ (hd w hS),h⟩
theorem zLD {sem:Sem Value} {c:α→β→Value} {kx:α→β→K} (hs:∀ v w w',sem.run P w = .ok v w'→Eff P σ o w (.value v) w'):WS P S σ o (zDw P S sem c kx) (fun u=>u) (fun u=>zAZ c kx u):=fun w ⟨t,u,hd,h⟩=>⟨c t u,fun w hS=>hs _ _ _ (hd w hS),t,u,rfl,h⟩
theorem WR.is {w1:World} {v:α→Value} {k':α→K} (h:WR P σ o k v k'):∀ w,Is w1 w→k w→∃ x,(∀ w,Is w1 w→Eff P σ o w (.value (v x)) w)∧k' x w:=fun w hw hk=>by
 have:=hw.out; subst this
 obtain ⟨x,h1,h2⟩:=h _ hk
 exact ⟨x,fun w' hw'=>by have:=hw'.out; subst this; exact h1,h2⟩
theorem zU9 {cs:Array Value} {v:Value} (ho:o.op = .box T x) (hx:ev σ x = some v) (hc:v.cells = cs):WE P σ o (New T cs ka) (fun a=>.pointer (some a)) ka:=fun w ⟨a,w',ha,hw,h⟩=>⟨a,w',zaB ho hx hc ha hw,h⟩
theorem zPb {zv:Value} {cs:Array Value} [cz:ZT P T zv] (ho:o.op = .alloc T) (hc:zv.cells = cs):WE P σ o (New T cs ka) (fun a=>.pointer (some a)) ka:=fun w ⟨a,w',ha,hw,h⟩=>⟨a,w',zWu ho cz.h hc ha hw,h⟩
def zVA (len esz:Nat) (zv:Value):Array Value:=(Array.range (len * esz)).map (fun i=>(if len * esz = 0 then #[] else zv.cells)[i % (if len * esz = 0 then #[] else zv.cells).size]!)
theorem zPc {E esz len:Nat} {zv:Value} {ps:Array (Nat×Operand)} {vs:List (Nat×Value)} {cs:Array Value} [cs':SLT P T E esz] [cz:ZT P E zv] (ho:o.op = .buildSlice T len ps) (hl:Nat.ble (len * esz) 16777216 = true) (hv:partsOf σ ps.toList = some vs) (hf:zJG vs = true)
  (hc:Instr.fill (fun i=>some (i * esz,esz)) (zVA len esz zv) vs = some cs):WE P σ o (New E cs ka) (fun a=>Sl.val ⟨some a,len,len⟩) ka :=
 fun w ⟨a,w',ha,hw,h⟩=>⟨a,w',zIO ho cs'.h cz.h (Nat.le_of_ble_eq_true hl) hv rfl hc ha hw,h⟩
theorem zJu {E esz len:Nat} {zv:Value} {z:Array Value} {ps:Array (Nat×Operand)} {vs:List (Nat×Value)} [cs':SLT P T E esz] [cz:ZT P E zv] (ho:o.op = .buildSlice T len ps) (hl:Nat.ble (len * esz) 16777216 = true) (hv:partsOf σ ps.toList = some vs)
  (hz:zVA len esz zv = z):WE P σ o (Bld z (fun i=>some (i * esz,esz)) vs fun c=>New E c ka) (fun a=>Sl.val ⟨some a,len,len⟩) ka :=
 fun w ⟨c,hb,a,w',ha,hw,h⟩=>⟨a,w',zIO ho cs'.h cz.h (Nat.le_of_ble_eq_true hl) hv hz hb ha hw,h⟩
theorem zPd {sem:Sem Value} (hs:∀ v w w',sem.run P w = .ok v w'→Eff P σ o w (.value v) w'):WE P σ o (Do P sem c kx) c kx:=fun w ⟨t,w',hd,h⟩=>⟨t,w',hs _ _ _ hd,h⟩
theorem zYg {a:Addr} {v:Value} [cl:SZ P T 1] (ho:o.op = .store T x y) (hx:ev σ x = some (.pointer (some a))) (hy:ev σ y = some v):WK P σ o (St a v k) k:=fun w ⟨w',hw,hc,hf,hv,h⟩=>⟨w',zWt ho hx hy cl.h hw hc hf hv,h⟩
theorem zVB {n:Nat} {a:Addr} {cs:Array Value} [cl:SZ P T n] (ho:o.op = .store T x y) (hx:ev σ x = some (.pointer (some a))) (hy:ev σ y = some (.agg cs)):WK P σ o (StN a n cs k) k:=fun w ⟨w',hw,hn,hc,hv,h⟩=>⟨w',zUs ho hx hy cl.h hw hn hc hv,h⟩
theorem zPe {sem:Sem Unit} (hs:∀ u w w',sem.run P w = .ok u w'→Eff P σ o w .skip w'):WK P σ o (DoU P sem k) k:=fun w ⟨u,w',hd,h⟩=>⟨w',hs _ _ _ hd,h⟩
theorem zSV {f:FuncId} {xs:Array Operand} {ts:Array TypeId} {vs:List Value} {args:Array Value} {kk:Value→K} [cb:CB P f] (ho:o.op = .call { callee:=.value x,args:=xs,argTypes:=ts }) (hx:ev σ x = some (.func (.func f) #[] #[])) (hv:evs σ xs.toList = some vs) (ha:vs.toArray = args) :
  WC P σ o (zK P f args kk) kk:=fun w h=>⟨f,args,w,ha ▸ zY8 ho hx hv cb.h,h⟩
theorem zPf {f:FuncId} {first cap:Array Value} {xs:Array Operand} {ts:Array TypeId} {vs:List Value} {args:Array Value} {kk:Value→K} [cb:CB P f] (ho:o.op = .call { callee:=.value x,args:=xs,argTypes:=ts }) (hx:ev σ x = some (.func (.func f) first cap)) (hv:evs σ xs.toList = some vs)
  (ha:first++vs.toArray++cap = args):WC P σ o (zK P f args kk) kk:=fun w h=>⟨f,args,w,ha ▸ zSI ho hx hv cb.h,h⟩
theorem zYh {fv:Value} {xs:Array Operand} {ts:Array TypeId} {vs:List Value} {kk:Value→K} (ho:o.op = .call { callee:=.value x,args:=xs,argTypes:=ts }) (hx:ev σ x = some fv) (hv:evs σ xs.toList = some vs):WC P σ o (vW P fv vs kk) kk :=
 fun w ⟨g,fs,cs,hg,hcb,h⟩=>⟨g,_,w,zSI ho (hx.trans (congrArg some hg)) hv hcb,h⟩
theorem zaI {fv:Value} {xs:Array Operand} {ts:Array TypeId} {vs:List Value} {kk:Value→K} (ho:o.op = .call { callee:=.value x,args:=xs,argTypes:=ts }) (hx:ev σ x = some fv) (hv:evs σ xs.toList = some vs):WY P σ o (jU P fv vs kk) kk :=
 fun w ⟨l,hg,h⟩=>⟨l,_,zW1 ho (hx.trans (congrArg some hg)) hv,h⟩
theorem zVC {P : Program} {f : Nat} {fn : Func} {e : Array Value → Sem Value} (hf : P.funcs[f]? = some fn) (hn : (fn.name == "runtime.NumGoroutine") = false) (hb : fn.body.isNone = true) (h1 : Extern.findNext fn = none) (h2 : Extern.find fn = some e) : EXT P f e := ⟨fun args w v w' h => by rw [run_callFunc_extern hf hn hb h1 h2, h]; rfl⟩
theorem zNu {f:FuncId} {e:Array Value→Sem Value} {xs:Array Operand} {ts:Array TypeId} {vs:List Value} [c:EXT P f e] (ho:o.op = .call { callee:=.value x,args:=xs,argTypes:=ts }) (hx:ev σ x = some (.func (.func f) #[] #[])) (hv:evs σ xs.toList = some vs):∀ v w w',(e vs.toArray).run P w = .ok v w'→Eff P σ o w (.value v) w':=fun v w w' h a _ hs=>by
 have h1:xs.map a.eval = vs.toArray:=by apply Array.ext'; simpa using zEy hs hv
 simp [execOp,ho,resolve,hs.ev hx,h1,Deferred.ofValue,invoke,c.h _ _ _ _ h]
theorem yC {ok:Bool} {vx vy:Value} (ho:o.op = .lookup T x y ok) (hx:ev σ x = some vx) (hy:ev σ y = some vy):∀ v w w',(Instr.lookup T vx vy ok).run P w = .ok v w'→Eff P σ o w (.value v) w':=fun _ _ _ h=>zUu ho hx hy h
theorem zDR {vx:Value} (ho:o.op = .convert T U x) (hx:ev σ x = some vx):∀ v w w',(convert T U vx).run P w = .ok v w'→Eff P σ o w (.value v) w':=fun _ _ _ h=>zTo ho hx h
theorem zNv {vx:Value} (ho:o.op = .makeInterface T x) (hx:ev σ x = some vx):∀ v w w',(Instr.makeInterface T vx).run P w = .ok v w'→Eff P σ o w (.value v) w':=fun _ _ _ h=>zKD ho hx h
theorem zNw {t:TypeId} {ts:Array TypeId} {vx:Value} (ho:o.op = .call { callee:=.builtin .len,args:=#[x],argTypes:=ts }) (ht:o.type = t) (hx:ev σ x = some vx):∀ v w w',(Builtin.len_ ts t #[vx]).run P w = .ok v w'→Eff P σ o w (.value v) w':=fun _ _ _ h=>zaD ho ht hx h
theorem zVD {t:TypeId} {ts:Array TypeId} {vx:Value} (ho:o.op = .call { callee:=.builtin .cap,args:=#[x],argTypes:=ts }) (ht:o.type = t) (hx:ev σ x = some vx):∀ v w w',(Builtin.cap_ ts t #[vx]).run P w = .ok v w'→Eff P σ o w (.value v) w':=fun _ _ _ h=>zaE ho ht hx h
theorem zPg {t:TypeId} {ts:Array TypeId} {vx:Value} (ho:o.op = .call { callee:=.builtin .clear,args:=#[x],argTypes:=ts }) (ht:o.type = t) (hx:ev σ x = some vx):∀ v w w',(Builtin.clear_ ts t #[vx]).run P w = .ok v w'→Eff P σ o w (.value v) w':=fun _ _ _ h=>zWy ho ht hx h
theorem zMu {t:TypeId} {ts:Array TypeId} {vx vy:Value} (ho:o.op = .call { callee:=.builtin .append,args:=#[x,y],argTypes:=ts }) (ht:o.type = t) (hx:ev σ x = some vx) (hy:ev σ y = some vy):∀ v w w',(Builtin.append_ ts t #[vx,vy]).run P w = .ok v w'→Eff P σ o w (.value v) w':=fun _ _ _ h=>zUv ho ht hx hy h
theorem zSW {t:TypeId} {ts:Array TypeId} {vx vy:Value} (ho:o.op = .call { callee:=.builtin .copy,args:=#[x,y],argTypes:=ts }) (ht:o.type = t) (hx:ev σ x = some vx) (hy:ev σ y = some vy):∀ v w w',(Builtin.copy_ ts t #[vx,vy]).run P w = .ok v w'→Eff P σ o w (.value v) w':=fun _ _ _ h=>zY7 ho ht hx hy h
theorem zMv {t:TypeId} {ts:Array TypeId} {vx vy:Value} (ho:o.op = .call { callee:=.builtin .delete,args:=#[x,y],argTypes:=ts }) (ht:o.type = t) (hx:ev σ x = some vx) (hy:ev σ y = some vy):∀ v w w',(Builtin.delete_ ts t #[vx,vy]).run P w = .ok v w'→Eff P σ o w (.value v) w':=fun _ _ _ h=>zUw ho ht hx hy h
theorem zLE (ho:o.op = .makeMap T none):∀ v w w',(Instr.makeMap T none).run P w = .ok v w'→Eff P σ o w (.value v) w':=fun _ _ _ h=>zTp ho h
theorem zIR {vx vy:Value} (ho:o.op = .makeSlice T x y) (hx:ev σ x = some vx) (hy:ev σ y = some vy):∀ v w w',(Instr.makeSlice T vx vy).run P w = .ok v w'→Eff P σ o w (.value v) w':=fun _ _ _ h=>zPT ho hx hy h
theorem zPh {vx:Value} (ho:o.op = .range T x) (hx:ev σ x = some vx):∀ v w w',(Instr.range T vx).run P w = .ok v w'→Eff P σ o w (.value v) w':=fun _ _ _ h=>zWw ho hx h
theorem zSX {t:TypeId} {s:Bool} {vx:Value} (ho:o.op = .next x s) (ht:o.type = t) (hx:ev σ x = some vx):∀ v w w',(Instr.next vx s t).run P w = .ok v w'→Eff P σ o w (.value v) w':=fun _ _ _ h=>zY6 ho ht hx h
theorem zPi {vx:Value} (ho:o.op = .entry x) (hx:ev σ x = some vx):∀ v w w',(Instr.entry vx).run P w = .ok v w'→Eff P σ o w (.value v) w':=fun _ _ _ h=>zWx ho hx h
theorem zPj {op:BinOp} {vx vy:Value} (ho:o.op = .binOp op T x y U) (hx:ev σ x = some vx) (hy:ev σ y = some vy):∀ v w w',(do eqGuard op T x y vx vy; binOp op T vx vy:Sem Value).run P w = .ok v w'→Eff P σ o w (.value v) w':=fun _ _ _ h=>zWv ho hx hy h
theorem zMw {ps:Array (Nat×Operand)} {vs:List (Nat×Value)} (ho:o.op = .build T ps) (hv:partsOf σ ps.toList = some vs):∀ v w w',(Instr.build T vs.toArray).run P w = .ok v w'→Eff P σ o w (.value v) w':=fun _ _ _ h=>zUt ho hv h
theorem zIS {vx vy vz:Value} (ho:o.op = .mapUpdate T x y z) (hx:ev σ x = some vx) (hy:ev σ y = some vy) (hz:ev σ z = some vz):∀ u w w',(Instr.mapUpdate T vx vy vz).run P w = .ok u w'→Eff P σ o w .skip w':=fun _ _ _ h=>zPS ho hx hy hz h
end
variable {α:Type} {k:K} {vx:α→Value} {k':α→K}
theorem zKV (h:WP P σ o k vx k':=by
  first
  | exact zPa (by first | exact zYH rfl rfl rfl | exact zYI rfl rfl rfl | exact zLC rfl rfl | exact zYJ rfl rfl rfl | exact zYM rfl rfl rfl | exact zZ5 rfl rfl rfl | exact zYN rfl rfl rfl | exact zYQ rfl rfl | exact zYR rfl rfl | exact zYS _ rfl rfl rfl | exact zYT _ rfl rfl rfl)
  | exact zU0 rfl rfl rfl | exact zU1 rfl rfl | exact zU2 rfl rfl (by first | exact rfl | exact ⟨_,rfl⟩) (by first | exact rfl | exact ⟨_,rfl⟩) (by first | exact rfl | exact ⟨_,rfl⟩) rfl | exact zST rfl rfl rfl | exact zSS rfl rfl rfl
  | exact zSR (fun h0=>by first | exact zYO rfl rfl rfl h0 | exact zYP rfl rfl rfl h0 | exact zYK rfl rfl rfl h0 | exact zYL rfl rfl rfl h0)
  | exact zSU rfl rfl (by first | exact rfl | exact ⟨_,rfl⟩) (by first | exact rfl | exact ⟨_,rfl⟩) | exact zU3 rfl rfl rfl | exact zU6 rfl rfl rfl
  | exact zU4 (by first | exact zPj rfl rfl rfl | exact zMw rfl rfl) | exact zU5 rfl rfl):WP P σ o k vx k':=h
theorem zGx (h:WR P σ o k vx k':=by
  first
  | exact zYe rfl rfl | exact zU7 rfl rfl
  | exact zAg (by first | exact yC rfl rfl rfl | exact zDR rfl rfl | exact zNw rfl rfl rfl | exact zNv rfl rfl)
  | exact zAr (yC rfl rfl rfl)):WR P σ o k vx k':=h
theorem zW3 {S:World→Prop} (h:WS P S σ o k vx k':=by
  first
  | exact zYf rfl rfl | exact zU8 rfl rfl
  | exact zJt (by first | exact yC rfl rfl rfl | exact zDR rfl rfl | exact zNw rfl rfl rfl | exact zNv rfl rfl)
  | exact zLD (yC rfl rfl rfl)):WS P S σ o k vx k':=h
theorem zGy (h:WE P σ o k vx k':=by
  first
  | exact zU9 rfl rfl rfl | exact zPb rfl rfl | exact zPc rfl rfl rfl rfl (by kernel_rfl) | exact zJu rfl rfl rfl (by kernel_rfl)
  | exact zPd (by first | exact zMu rfl rfl rfl rfl | exact zDR rfl rfl | exact zSX rfl rfl rfl | exact zPh rfl rfl | exact zPi rfl rfl | exact zLE rfl | exact zIR rfl rfl rfl | exact zSW rfl rfl rfl rfl | exact zMv rfl rfl rfl rfl | exact zVD rfl rfl rfl | exact zPg rfl rfl rfl)):WE P σ o k vx k':=h
theorem zNx {k k':K} (h:WK P σ o k k':=by
  first
  | exact zYg rfl rfl rfl | exact zVB rfl rfl rfl | exact zPe (zIS rfl rfl rfl rfl)):WK P σ o k k':=h
theorem zIT {k:K} {kk:Value→K} (h:WC P σ o k kk:=by
  first
  | exact zSV rfl rfl rfl rfl | exact zPf rfl rfl rfl rfl | exact zYh rfl rfl rfl):WC P σ o k kk:=h
end
end
section
open Go
def G (dl:List Deferred) (n:Nat) (σ:List (Nat×Value)) (k:K) (X:Act→World→Prop):Prop:=∀ a w,jM dl a n σ→k w→X a w
abbrev fe:Option Nat→Fence
 | none=>Fence.wide
 | some l=>Fence.wide.inRound l
def Cx (r:Option Nat) (P:Program) (c:Code) (Q:Exit→Act→World→Prop):Act→World→Prop:=fun a w=>c.wpIn (fe r) 0 P Q a w
def Tx (r:Option Nat) (P:Program) (ops:Array Oper) (Q:Exit→Act→World→Prop) (l:List Oper):Act→World→Prop:=fun a w=>wpListIn (fe r) 0 P ops Q l a w
def Ex (Q:Exit→Act→World→Prop) (e:Exit):Act→World→Prop:=fun a w=>Q e a w
def zAy:Op→Bool
 | .defer _=>true
 | _=>false
theorem zIU {o:Oper} (h:zAy o.op = false):∀ c,o.op ≠ .defer c:=fun c hc=>by rw [hc] at h; cases h
theorem zGz:∀ r,Free (fe r)
 | none=>zGw
 | some l=>zGw.round l
theorem zVE:∀ r,(fe r).alive = false
 | none=>rfl
 | some _=>rfl
theorem zVF:∀ r,(fe r).depth = none
 | none=>rfl
 | some _=>rfl
section
variable {P:Program} {dl:List Deferred} {n:Nat} {σ τ:List (Nat×Value)} {k:K} {X:Act→World→Prop} {r:Option Nat} {ops:Array Oper} {Q:Exit→Act→World→Prop} {l:List Oper} {o:Oper} {a:Act} {w w':World} {v:Value}
theorem zCH {K1:Act→World→Prop} (hs:jM dl a n σ) (nd:zAy o.op = false) (hp:Eff P σ o w (.value v) w') (h:K1 (a.put o.dst v) w'):o.wpIn (fe r) 0 P a w K1 Q:=by
 refine ⟨fun f _=>(zGz r).fn f,?_⟩
 rw [Oper.semAt_eq _ _ _ (zIU nd)]
 have h1:(execOp a.eval o).run P w = .ok (.value v) w':=hp { a with defers:=[] } n hs.1
 rw [h1,Oper.uponIn_value]; exact h
theorem zNy {K1:Act→World→Prop} (hs:jM dl a n σ) (nd:zAy o.op = false) (hp:Eff P σ o w .skip w') (h:K1 (a.put o.dst undef) w'):o.wpIn (fe r) 0 P a w K1 Q:=by
 refine ⟨fun f _=>(zGz r).fn f,?_⟩
 rw [Oper.semAt_eq _ _ _ (zIU nd)]
 have h1:(execOp a.eval o).run P w = .ok .skip w':=hp { a with defers:=[] } n hs.1
 rw [h1,Oper.uponIn_skip]; exact h
theorem zIV {K1:Act→World→Prop} {f:FuncId} {args:Array Value} {kk:Value→K} (hs:jM dl a n σ) (nd:zAy o.op = false) (hp:Eff P σ o w (.enter f args) w') (hc:Calls P f args w' (Ret kk))
  (h:∀ v w,kk v w→K1 (a.put o.dst v) w):o.wpIn (fe r) 0 P a w K1 Q:=by
 refine ⟨fun f _=>(zGz r).fn f,?_⟩
 rw [Oper.semAt_eq _ _ _ (zIU nd)]
 have h1:(execOp a.eval o).run P w = .ok (.enter f args) w':=hp { a with defers:=[] } n hs.1
 rw [h1,Oper.uponIn_enter]
 refine ⟨(fun h=>by rw [zVF r] at h; cases h),zFV (zGz r) (zVE r) (hc.mono fun e w'' he=>?_)⟩
 cases e with
 | returned v=>exact h v _ he
 | panicked c=>exact he.elim
 | outgrown=>exact he.elim
theorem zPk {K1:Act→World→Prop} {y:Nat} {args:Array Value} {kk:Value→K} (hs:jM dl a n σ) (nd:zAy o.op = false) (hp:∀ (x:Next),(Instr.yield y args).run P w = .ok x w→Eff P σ o w x w) (hc:YieldAt Fence.wide 0 P y args w (Ret kk))
  (h:∀ v w,kk v w→K1 (a.put o.dst v) w):o.wpIn Fence.wide 0 P a w K1 Q:=by
 obtain ⟨fn,tmps,as1,bd,hy,hr⟩:=hc
 refine ⟨fun f _=>trivial,?_⟩
 rw [Oper.semAt_eq _ _ _ (zIU nd)]
 have h1:(execOp a.eval o).run P w = .ok (.round y fn tmps as1 bd) w:=hp _ hy { a with defers:=[] } n hs.1
 rw [h1,Oper.uponIn_round]
 refine ⟨(fun h=>by cases h),zNp (hr.mono fun e w'' he=>?_)⟩
 cases e with
 | returned v=>exact h v _ he
 | panicked c=>exact he.elim
 | outgrown=>exact he.elim
theorem zJv (hs:jM dl a n σ) (hw:wants ops σ o = some true) (h:o.wpIn (fe r) 0 P a w (wpListIn (fe r) 0 P ops Q l) Q):wpListIn (fe r) 0 P ops Q (o::l) a w:=by
 unfold wpListIn
 rw [if_pos (uT hs.1 hw)]; exact h
theorem zAP {d:Nat} (h:G dl n ((d,v)::σ) k (Tx r P ops Q l)) (hd:o.dst = some d:=by rfl) (hw:wants ops σ o = some true:=by rfl) (hp:Pure P σ o v:=by exact zNt) (hn:Nat.ble (d + 1) n = true:=by rfl) (nd:zAy o.op = false:=by rfl) :
  G dl n σ k (Tx r P ops Q (o::l)):=fun a w hs hk=>zJv hs hw (zCH hs nd (hp.eff w) (by rw [hd]; exact h _ w (hs.put (Nat.le_of_ble_eq_true hn) v) hk))
theorem zSY {d:Nat} (h:G dl n ((d,undef)::σ) k (Tx r P ops Q l)) (hd:o.dst = some d:=by rfl) (hw:wants ops σ o = some false:=by rfl) (hn:Nat.ble (d + 1) n = true:=by rfl):G dl n σ k (Tx r P ops Q (o::l)):=fun a w hs hk=>by
 show wpListIn (fe r) 0 P ops Q (o::l) a w
 unfold wpListIn
 rw [if_neg (by rw [uT hs.1 hw]; simp),hd]
 exact ⟨fun f _=>(zGz r).fn f,h _ w (hs.put (Nat.le_of_ble_eq_true hn) _) hk⟩
theorem zNz (h:G dl n σ k (Tx r P ops Q l)) (hd:o.dst = none:=by rfl) (hw:wants ops σ o = some false:=by rfl):G dl n σ k (Tx r P ops Q (o::l)):=fun a w hs hk=>by
 show wpListIn (fe r) 0 P ops Q (o::l) a w
 unfold wpListIn
 rw [if_neg (by rw [uT hs.1 hw]; simp),hd]
 exact ⟨fun f _=>(zGz r).fn f,h _ w hs hk⟩
section
variable {α:Type} {vx:α→Value} {k':α→K}
theorem WP.wr {σ:List (Nat×Value)} (h:WP P σ o k vx k'):WR P σ o k vx k':=fun w hk=>by obtain ⟨x,hp,h⟩:=h w hk; exact ⟨x,hp.eff w,h⟩
theorem WR.we {σ:List (Nat×Value)} (h:WR P σ o k vx k'):WE P σ o k vx k':=fun w hk=>by obtain ⟨x,hp,h⟩:=h w hk; exact ⟨x,w,hp,h⟩
theorem zVG {d:Nat} (he:WE P σ o k vx k') (h:∀ x,G dl n ((d,vx x)::σ) (k' x) (Tx r P ops Q l)) (hd:o.dst = some d) (hw:wants ops σ o = some true) (hn:Nat.ble (d + 1) n = true) (nd:zAy o.op = false):G dl n σ k (Tx r P ops Q (o::l)):=fun a w hs hk=>by
 obtain ⟨x,w',hp,h'⟩:=he w hk
 exact zJv hs hw (zCH hs nd hp (by rw [hd]; exact h x _ w' (hs.put (Nat.le_of_ble_eq_true hn) _) h'))
theorem uF {d:Nat} (h:∀ x,G dl n ((d,vx x)::σ) (k' x) (Tx r P ops Q l)) (hd:o.dst = some d:=by rfl) (hw:wants ops σ o = some true:=by rfl) (hp:WP P σ o k vx k':=by exact zKV) (hn:Nat.ble (d + 1) n = true:=by rfl) (nd:zAy o.op = false:=by rfl):G dl n σ k (Tx r P ops Q (o::l)):=zVG hp.wr.we h hd hw hn nd
theorem zAh {d:Nat} (h:∀ x,G dl n ((d,vx x)::σ) (k' x) (Tx r P ops Q l)) (hd:o.dst = some d:=by rfl) (hw:wants ops σ o = some true:=by rfl) (hp:WR P σ o k vx k':=by exact zGx) (hn:Nat.ble (d + 1) n = true:=by rfl) (nd:zAy o.op = false:=by rfl):G dl n σ k (Tx r P ops Q (o::l)):=zVG hp.we h hd hw hn nd
theorem zBO {d:Nat} (h:∀ x,G dl n ((d,vx x)::σ) (k' x) (Tx r P ops Q l)) (hd:o.dst = some d:=by rfl) (hw:wants ops σ o = some true:=by rfl) (hp:WE P σ o k vx k':=by exact zGy) (hn:Nat.ble (d + 1) n = true:=by rfl) (nd:zAy o.op = false:=by rfl):G dl n σ k (Tx r P ops Q (o::l)):=zVG hp h hd hw hn nd
theorem zN0 (h:∀ x,G dl n σ (k' x) (Tx r P ops Q l)) (hd:o.dst = none:=by rfl) (hw:wants ops σ o = some true:=by rfl) (hp:WE P σ o k vx k':=by exact zGy) (nd:zAy o.op = false:=by rfl):G dl n σ k (Tx r P ops Q (o::l)):=fun a w hs hk=>by
 obtain ⟨x,w',hp,h'⟩:=hp w hk
 exact zJv hs hw (zCH hs nd hp (by rw [hd]; exact h x _ w' hs h'))
end
theorem zIW {k':K} (h:G dl n σ k' (Tx r P ops Q l)) (hd:o.dst = none:=by rfl) (hw:wants ops σ o = some true:=by rfl) (hp:WK P σ o k k':=by exact zNx) (nd:zAy o.op = false:=by rfl):G dl n σ k (Tx r P ops Q (o::l)):=fun a w hs hk=>by
 obtain ⟨w',hp,h'⟩:=hp w hk
 exact zJv hs hw (zNy hs nd hp (by rw [hd]; exact h _ w' hs h'))
theorem zSZ {d:Nat} {kk:Value→K} (h:∀ u,G dl n ((d,u)::σ) (kk u) (Tx r P ops Q l)) (hd:o.dst = some d:=by rfl) (hw:wants ops σ o = some true:=by rfl) (hp:WC P σ o k kk:=by exact zIT) (hn:Nat.ble (d + 1) n = true:=by rfl) (nd:zAy o.op = false:=by rfl):G dl n σ k (Tx r P ops Q (o::l)):=fun a w hs hk=>by
 obtain ⟨f,args,w',hp,hc⟩:=hp w hk
 exact zJv hs hw (zIV hs nd hp hc fun v w h'=>by rw [hd]; exact h v _ w (hs.put (Nat.le_of_ble_eq_true hn) _) h')
theorem zN1 {kk:Value→K} (h:∀ u,G dl n σ (kk u) (Tx r P ops Q l)) (hd:o.dst = none:=by rfl) (hw:wants ops σ o = some true:=by rfl) (hp:WC P σ o k kk:=by exact zIT) (nd:zAy o.op = false:=by rfl):G dl n σ k (Tx r P ops Q (o::l)):=fun a w hs hk=>by
 obtain ⟨f,args,w',hp,hc⟩:=hp w hk
 exact zJv hs hw (zIV hs nd hp hc fun v w h'=>by rw [hd]; exact h v _ w hs h')
theorem zSa {d:Nat} {kk:Value→K} (h:∀ u,G dl n ((d,u)::σ) (kk u) (Tx none P ops Q l)) (hd:o.dst = some d:=by rfl) (hw:wants ops σ o = some true:=by rfl) (hp:WY P σ o k kk:=by exact zaI rfl rfl rfl) (hn:Nat.ble (d + 1) n = true:=by rfl) (nd:zAy o.op = false:=by rfl):G dl n σ k (Tx none P ops Q (o::l)):=fun a w hs hk=>by
 obtain ⟨y,args,hp,hc⟩:=hp w hk
 exact zJv (r:=none) hs hw (zPk hs nd hp hc fun v w h'=>by rw [hd]; exact h v _ w (hs.put (Nat.le_of_ble_eq_true hn) _) h')
theorem zN2 (h:G dl n σ k (Ex Q .normal)):G dl n σ k (Tx r P ops Q []):=fun a w hs hk=>h a w hs hk
section
variable {α β γ δ ε:Type} {d:Nat} {u:Value}
theorem zHQ {v0:Value} (h:G dl n ((d,v0)::σ) k X):G dl n ((d,u)::σ) (jI v0 k u) X:=fun a w hs ⟨hu,hk⟩=>h a w (hu ▸ hs) hk
theorem zHR {c:α→Value} {k:α→K} (h:∀ x,G dl n ((d,c x)::σ) (k x) X):G dl n ((d,u)::σ) (yH c k u) X:=fun a w hs ⟨x,hu,hk⟩=>h x a w (hu ▸ hs) hk
theorem zCo {c:α→β→Value} {k:α→β→K} (h:∀ x y,G dl n ((d,c x y)::σ) (k x y) X):G dl n ((d,u)::σ) (zAZ c k u) X:=fun a w hs ⟨x,y,hu,hk⟩=>h x y a w (hu ▸ hs) hk
theorem zHS {c:α→β→γ→Value} {k:α→β→γ→K} (h:∀ x y z,G dl n ((d,c x y z)::σ) (k x y z) X):G dl n ((d,u)::σ) (zDH c k u) X:=fun a w hs ⟨x,y,z,hu,hk⟩=>h x y z a w (hu ▸ hs) hk
theorem zHT {c:α→β→γ→δ→Value} {k:α→β→γ→δ→K} (h:∀ x y z t,G dl n ((d,c x y z t)::σ) (k x y z t) X):G dl n ((d,u)::σ) (zDQ c k u) X:=fun a w hs ⟨x,y,z,t,hu,hk⟩=>h x y z t a w (hu ▸ hs) hk
theorem zHU {c:α→β→γ→δ→ε→Value} {k:α→β→γ→δ→ε→K} (h:∀ x y z t s,G dl n ((d,c x y z t s)::σ) (k x y z t s) X):G dl n ((d,u)::σ) (zDl c k u) X:=fun a w hs ⟨x,y,z,t,s,hu,hk⟩=>h x y z t s a w (hu ▸ hs) hk
theorem zN3 {v0:Value} (h:G dl n σ k X):G dl n σ (jI v0 k u) X:=fun a w hs ⟨_,hk⟩=>h a w hs hk
theorem zPl {c:α→Value} {k:α→K} (h:∀ x,G dl n σ (k x) X):G dl n σ (yH c k u) X:=fun a w hs ⟨x,_,hk⟩=>h x a w hs hk
theorem zPm {c:α→β→Value} {k:α→β→K} (h:∀ x y,G dl n σ (k x y) X):G dl n σ (zAZ c k u) X:=fun a w hs ⟨x,y,_,hk⟩=>h x y a w hs hk
end
def gslot (ops:Array Oper) (σ:List (Nat×Value)) (o:Oper):Option Value:=match o.guard with
 | none=>none
 | some (j,_)=>match (ops[j]?).bind (·.dst) with
  | none=>none
  | some t=>look σ t
theorem zN4 {b:Bool} {x y:K} (h1:b = true→G dl n σ x (Tx r P ops Q (o::l))) (h2:b = false→G dl n σ y (Tx r P ops Q (o::l))) (hg:gslot ops σ o = some (.bool b):=by rfl):G dl n σ (Ite b x y) (Tx r P ops Q (o::l)):=fun a w hs hk=>by
 cases b
 ·exact h2 rfl a w hs (hk.2 rfl)
 ·exact h1 rfl a w hs (hk.1 rfl)
theorem zA0 (h:∀ a w,jM dl a n σ→k w→X a w):G dl n σ k X:=h
theorem zFr {p:Option Addr} {kp:Addr→K} (h:∀ a,p = some a→G dl n σ (kp a) X):G dl n σ (Nn p kp) X:=fun a w hs ⟨b,hb,hk⟩=>h b hb a w hs hk
theorem zFs {f:Value} {kf:FuncId→Array Value→Array Value→K} (h:∀ g fs cs,f = .func (.func g) fs cs→CB P g→G dl n σ (kf g fs cs) X):G dl n σ (Fv P f kf) X:=fun a w hs ⟨g,fs,cs,hf,hc,hk⟩=>h g fs cs hf ⟨hc⟩ a w hs hk
theorem zKW:G dl n σ Dead X:=fun _ _ _ hk=>hk.elim
def Gp (dl:List Deferred) (n:Nat) (X:Act→World→Prop) (τ:List (Nat×Value)) (k:K):Prop:=G dl n τ k X
theorem zSb (h:G dl n σ k X):Gp dl n X σ k:=h
theorem zET (h:Sub σ τ:=by repeat (first | exact trivial | refine ⟨rfl,?_⟩)):Sub σ τ:=h
theorem zKX (h:Gp dl n X τ k:=by apply_assumption) (hs:Sub σ τ:=by exact zET):G dl n σ k X:=fun a w hs' hk=>h a w (hs'.to hs) hk
theorem zB6 (h:G dl n σ k X):∀ a w,jM dl a n σ→k w→X a w:=h
def zGN (a b:Nat):Nat:=match Nat.beq a 1000000 with
 | true=>b
 | false=>a
def zCI:Code→Nat
 | .region id _ _=>id
 | .seq x y=>zGN (zCI x) (zCI y)
 | .cond _ x y=>zGN (zCI x) (zCI y)
 | .block _ c=>zCI c
 | .loop c=>zCI c
 | .scope c=>zCI c
 | .rangeFunc _ _ a _=>zCI a
 | _=>1000000
def zEF:Code→Nat
 | .region id _ _=>id
 | .seq x y=>zGN (zEF y) (zEF x)
 | .cond _ x y=>zGN (zEF y) (zEF x)
 | .block _ c=>zEF c
 | .loop c=>zEF c
 | .scope c=>zEF c
 | .rangeFunc _ _ _ b=>zEF b
 | _=>1000000
def zZC (x y:Code):Nat:=zGN (zCI y) (1000000 + zEF x)
structure JH (id:Nat) (H:(List (Nat×Value)→((List (Nat×Value)→K→Prop)→Prop)→Prop)→Prop):Prop where
 h:∀ D,H D→∃ pre C,D pre C
structure LH (id:Nat) {α:Type} (S:α→List (Nat×Value)) (body:(α→K)→α→K):Prop
structure XH (id:Nat) {α:Type} (X:α→K):Prop
variable {x y c:Code} {id:Nat}
theorem zN5 (h:G dl n σ k (Cx r P x (Exit.then (Cx r P y Q) Q))):G dl n σ k (Cx r P (.seq x y) Q):=fun a w hs hk=>wpIn_seq (h a w hs hk)
def Jp (dl:List Deferred) (n:Nat) (σ:List (Nat×Value)) (k:K) (r:Option Nat) (P:Program) (x y:Code) (Q:Exit→Act→World→Prop) (pre:List (Nat×Value)) (C:(List (Nat×Value)→K→Prop)→Prop):Prop :=
 Sub σ pre∧C (Gp dl n (Cx r P y Q))∧∀ Kc,C (Gp dl n Kc)→G dl n σ k (Cx r P x (Exit.then Kc Q))
theorem zW4 {α:Sort _} {p:α→Prop} {x:α} (h:p x):∃ x,p x:=⟨x,h⟩
theorem zKY {H:(List (Nat×Value)→((List (Nat×Value)→K→Prop)→Prop)→Prop)→Prop} (h:H (Jp dl n σ k r P x y Q)) (hi:zZC x y = id:=by rfl) (hh:JH id H:=by first | assumption | (apply_assumption <;> assumption)):G dl n σ k (Cx r P (.seq x y) Q):=fun a w hs hk=>by
 obtain ⟨pre,C,_,h1,h2⟩:=hh.h _ h
 exact wpIn_seq (h2 _ h1 a w hs hk)
theorem zKZ (h:G dl n σ k (Ex Q .normal)):G dl n σ k (Cx r P .skip Q):=fun a w hs hk=>wpIn_skip (h a w hs hk)
theorem zIX {i:Nat} (h:G dl n σ k (Ex Q .normal)):G dl n σ k (Cx r P (.label i) Q):=fun a w hs hk=>wpIn_label (h a w hs hk)
theorem zKa {i:Nat} (h:G dl n σ k (Ex Q (.exit i))):G dl n σ k (Cx r P (.exit i) Q):=fun a w hs hk=>wpIn_exit (h a w hs hk)
theorem zN6 (h:G dl n σ k (Ex Q .ret)):G dl n σ k (Cx r P .ret Q):=fun a w hs hk=>wpIn_ret (h a w hs hk)
theorem zIY {i:Nat} (h:G dl n σ k (Cx r P c (Exit.inBlock i Q))):G dl n σ k (Cx r P (.block i c) Q):=fun a w hs hk=>wpIn_block (h a w hs hk)
theorem zW5 {e:Operand} {b:Bool} {kx ky:K} (h1:G dl n σ kx (Cx r P x Q)) (h2:G dl n σ ky (Cx r P y Q)) (he:ev σ e = some (.bool b):=by rfl):G dl n σ (Ite b kx ky) (Cx r P (.cond e x y) Q):=fun a w hs hk=>
 wpIn_cond_split (hs.1.ev he) (fun hb=>h1 a w hs (hk.1 hb)) (fun hb=>h2 a w hs (hk.2 hb))
theorem zG0 {e:Operand} (h:G dl n σ k (Cx r P x Q)) (he:ev σ e = some (.bool true):=by rfl):G dl n σ k (Cx r P (.cond e x y) Q):=fun a w hs hk=>wpIn_cond_true (hs.1.ev he) (h a w hs hk)
theorem zG1 {e:Operand} (h:G dl n σ k (Cx r P y Q)) (he:ev σ e = some (.bool false):=by rfl):G dl n σ k (Cx r P (.cond e x y) Q):=fun a w hs hk=>wpIn_cond_false (hs.1.ev he) (h a w hs hk)
theorem zN7 {i:Nat} (h:G dl n σ k (Tx r P l.toArray Q l)):G dl n σ k (Cx r P (.region i l.toArray false) Q):=fun a w hs hk=>wpIn_region_lit (h a w hs hk)
def Lx (dl:List Deferred) (n:Nat) {α:Type} (S:α→List (Nat×Value)) (X:α→K):Act→World→Prop:=fun a w=>∃ x,jM dl a n (S x)∧X x w
theorem zKb {α:Type} {body:(α→K)→α→K} {x0:α} {S:α→List (Nat×Value)} (h:∀ X:α→K,XH id X→∀ x,G dl n (S x) (body X x) (Cx r P c (Exit.then (Lx dl n S X) Q))) (hi:zCI c = id:=by rfl) (hh:LH id S body:=by first | assumption | (apply_assumption <;> assumption)) (h0:Sub σ (S x0):=by exact zET) :
  G dl n σ (yN body x0) (Cx r P (.loop c) Q):=fun a w hs ⟨I,μ,hI,hr⟩=>by
 refine zW0 I μ (fun x a=>jM dl a n (S x)) x0 hI (hs.to h0) fun x a w hI hG=>?_
 refine wpIn_mono (h _ ⟨⟩ x a w hG (hr x w hI)) fun e a w hq=>?_
 cases e with
 | normal=>exact hq
 | _=>exact hq
theorem zN8 {α:Type} {S:α→List (Nat×Value)} {X:α→K} {x:α} (hk:k = X x:=by rfl) (h0:Sub σ (S x):=by exact zET):G dl n σ k (Lx dl n S X):=fun a w hs h=>⟨x,hs.to h0,hk ▸ h⟩
theorem zKc {Kc:Act→World→Prop} (h:G dl n σ k Kc):G dl n σ k (Ex (Exit.then Kc Q) .normal):=h
theorem zG2 {Kc:Act→World→Prop} {i:Nat} (h:G dl n σ k (Ex Q (.exit i))):G dl n σ k (Ex (Exit.then Kc Q) (.exit i)):=h
theorem zG3 {Kc:Act→World→Prop} (h:G dl n σ k (Ex Q .ret)):G dl n σ k (Ex (Exit.then Kc Q) .ret):=h
theorem zN9 {i:Nat} (h:G dl n σ k (Ex Q .normal)):G dl n σ k (Ex (Exit.inBlock i Q) .normal):=h
theorem zIZ {i:Nat} (h:G dl n σ k (Ex Q .ret)):G dl n σ k (Ex (Exit.inBlock i Q) .ret):=h
theorem zIa {i:Nat} (h:G dl n σ k (Ex Q .normal)):G dl n σ k (Ex (Exit.inBlock i Q) (.exit i)):=fun a w hs hk=>by
 show Exit.inBlock i Q (.exit i) a w
 simp only [Exit.inBlock,if_true]; exact h a w hs hk
theorem zIb {i j:Nat} (h:G dl n σ k (Ex Q (.exit j))) (hij:Nat.beq j i = false:=by rfl):G dl n σ k (Ex (Exit.inBlock i Q) (.exit j)):=fun a w hs hk=>by
 show Exit.inBlock i Q (.exit j) a w
 have:j ≠ i:=fun e=>by rw [e,Nat.beq_refl] at hij; cases hij
 simp only [Exit.inBlock,this,if_false]; exact h a w hs hk
def fin:List Value→Value
 | [v]=>v
 | l=>.tuple l.toArray
theorem zZD (l:List Value):fin l = if h:l.toArray.size = 1 then l.toArray[0] else .tuple l.toArray:=by
 cases l with
 | nil=>rfl
 | cons v l=>cases l <;> rfl
def Rx (P:Program) (kk:Value→K) (rs:List ResultVar) (vs:List Value):Act→World→Prop:=fun a w=>∃ us,(List.mapM (zGM a.tmps) rs).run P w = .ok us w∧kk (fin (vs++us)) w
theorem zOA {fn:Func} {kk:Value→K} (h:Rx P kk fn.results.toList [] a w):∃ v,(results fn a.tmps).run P w = .ok v w∧kk v w:=by
 obtain ⟨us,h1,h2⟩:=h
 refine ⟨fin us,?_,h2⟩
 rw [zQ6,← Array.toArray_toList (xs:=fn.results),Array.mapM_eq_mapM_toList]
 simp only [Array.toArray_toList]
 simp only [Sem.run_bind,Sem.run_map,h1,Result.andThen,Sem.run_pure]
 rw [zZD]
theorem zQ7 {fn:Func} {kk:Value→K} {rs:List ResultVar} (h:G [] n σ k (Rx P kk rs [])) (hr:fn.results = rs.toArray:=by rfl):G [] n σ k (Ex (zA9 P fn (Ret kk)) .ret):=fun a w hs hk=>by
 obtain ⟨v,h1,h2⟩:=zOA (fn:=fn) (by rw [hr]; exact h a w hs hk)
 show LeavesInM Fence.wide 0 P fn a.tmps (Ret kk) a.defers .returning w
 rw [hs.2]
 exact ⟨v,h1,h2⟩
theorem zQ8 {fn:Func} {kk:Value→K} (h:G dl n σ k (Ex (zA9 P fn (Ret kk)) .ret)):G dl n σ k (Ex (zA9 P fn (Ret kk)) .normal):=h
theorem zKd {fn:Func} {kk:Value→K} {D:Nat} {rs:List ResultVar} (h:G (zEz D) n σ k (Rx P kk rs [])) (hr:fn.results = rs.toArray:=by rfl):G (zEz D) n σ (jV D k) (Ex (zA9 P fn (Ret kk)) .ret):=fun a w hs hk=>by
 obtain ⟨v,h1,h2⟩:=zOA (fn:=fn) (by rw [hr]; exact h a _ hs hk.2)
 show LeavesInM Fence.wide 0 P fn a.tmps (Ret kk) a.defers .returning w
 rw [hs.2]
 exact ⟨by simp,.inl ⟨D,_,rfl,run_takeDeferred hk.1,v,h1,h2⟩⟩
theorem zOB {kk:Value→K} {t:Nat} {rs:List ResultVar} {vs:List Value} (h:G dl n σ k (Rx P kk rs (vs++[v]))) (ht:look σ t = some v:=by rfl):G dl n σ k (Rx P kk (.tmp t::rs) vs):=fun a w hs hk=>by
 obtain ⟨us,h1,h2⟩:=h a w hs hk
 refine ⟨v::us,?_,by simpa using h2⟩
 rw [List.mapM_cons]
 have h3:(zGM a.tmps (.tmp t)).run P w = .ok v w:=zJE (a:={ a with defers:=[] }) hs.1 (r:=.tmp t) ht
 simp only [Sem.run_bind,h3,h1,Sem.run_pure,Result.andThen]
theorem zKe {α:Type} {c:α→Value} {kx:α→K} {kk:Value→K} {t T:Nat} {b:Addr} {rs:List ResultVar} {vs:List Value} [cl:CT P T] (h:∀ x,G dl n σ (kx x) (Rx P kk rs (vs++[c x]))) (ht:look σ t = some (.pointer (some b)):=by rfl):G dl n σ (Ld b c kx) (Rx P kk (.cell t T::rs) vs):=fun a w hs ⟨x,hv,hk⟩=>by
 obtain ⟨us,h1,h2⟩:=h x a w hs hk
 refine ⟨c x::us,?_,by simpa using h2⟩
 rw [List.mapM_cons]
 have h3:(zGM a.tmps (.cell t T)).run P w = .ok (c x) w:=zJE (a:={ a with defers:=[] }) hs.1 (r:=.cell t T) ⟨_,ht,zPU cl.h hv⟩
 simp only [Sem.run_bind,h3,h1,Sem.run_pure,Result.andThen]
theorem zIc {kx:Array Value→K} {kk:Value→K} {t T m:Nat} {b:Addr} {rs:List ResultVar} {vs:List Value} [cl:AT P T m] (h:∀ x,G dl n σ (kx x) (Rx P kk rs (vs++[.agg x]))) (ht:look σ t = some (.pointer (some b)):=by rfl):G dl n σ (LdN b m kx) (Rx P kk (.cell t T::rs) vs):=fun a w hs ⟨x,hn,hv,hk⟩=>by
 obtain ⟨us,h1,h2⟩:=h x a w hs hk
 refine ⟨.agg x::us,?_,by simpa using h2⟩
 rw [List.mapM_cons]
 have h3:(zGM a.tmps (.cell t T)).run P w = .ok (.agg x) w:=zJE (a:={ a with defers:=[] }) hs.1 (r:=.cell t T) ⟨_,ht,zNn cl.h hn hv⟩
 simp only [Sem.run_bind,h3,h1,Sem.run_pure,Result.andThen]
def Fx (k:K):Act→World→Prop:=fun _ w=>k w
theorem zOC {kk:Value→K} {vs:List Value} (h:G dl n σ k (Fx (kk (fin vs)))):G dl n σ k (Rx P kk [] vs):=fun a w hs hk=>⟨[],by simp,by rw [List.append_nil]; exact h a w hs hk⟩
section
variable {α β γ δ ε:Type} {u:Value}
theorem zW6 {v0:Value} {q:K} (hk:k = q:=by rfl) (hu:u = v0:=by rfl):G dl n σ k (Fx (jI v0 q u)):=fun _ w _ h=>⟨hu,hk ▸ h⟩
theorem zW7 {c:α→Value} {q:α→K} {x:α} (hk:k = q x:=by rfl) (hu:u = c x:=by rfl):G dl n σ k (Fx (yH c q u)):=fun _ w _ h=>⟨x,hu,hk ▸ h⟩
theorem zW8 {c:α→β→Value} {q:α→β→K} {x:α} {y:β} (hk:k = q x y:=by rfl) (hu:u = c x y:=by rfl):G dl n σ k (Fx (zAZ c q u)):=fun _ w _ h=>⟨x,y,hu,hk ▸ h⟩
theorem zW9 {c:α→β→γ→Value} {q:α→β→γ→K} {x:α} {y:β} {z:γ} (hk:k = q x y z:=by rfl) (hu:u = c x y z:=by rfl):G dl n σ k (Fx (zDH c q u)):=fun _ w _ h=>⟨x,y,z,hu,hk ▸ h⟩
theorem zXA {c:α→β→γ→δ→Value} {q:α→β→γ→δ→K} {x:α} {y:β} {z:γ} {t:δ} (hk:k = q x y z t:=by rfl) (hu:u = c x y z t:=by rfl):G dl n σ k (Fx (zDQ c q u)):=fun _ w _ h=>⟨x,y,z,t,hu,hk ▸ h⟩
theorem zXB {c:α→β→γ→δ→ε→Value} {q:α→β→γ→δ→ε→K} {x:α} {y:β} {z:γ} {t:δ} {s:ε} (hk:k = q x y z t s:=by rfl) (hu:u = c x y z t s:=by rfl):G dl n σ k (Fx (zDl c q u)):=fun _ w _ h=>⟨x,y,z,t,s,hu,hk ▸ h⟩
end
end
def zPn:Nat→List Value→List (Nat×Value)
 | _,[]=>[]
 | i,v::vs=>(i,v)::zPn (i + 1) vs
theorem zSc (l:List Value) (i:Nat):((l.zipIdx i).map fun p=>(p.2,p.1)) = zPn i l:=by
 induction l generalizing i with
 | nil=>rfl
 | cons v l ih=>simp [zPn,List.zipIdx_cons,ih]
theorem zOD {P:Program} {f:FuncId} {fn:Func} {c:Code} {args:List Value} {kk:Value→K} {k:K} (n:Nat) {w:World} (hk:k w) (hf:P.funcs[f]? = some fn) (h:G [] n (zPn 0 args) k (Cx none P c (zA9 P fn (Ret kk)))) (hb:fn.body = some c:=by rfl) (hn:fn.ntmps = n:=by rfl) (hl:Nat.ble args.length n = true:=by rfl) :
  zK P f args.toArray kk w:=by
 subst hn
 refine zUx hf hb (Nat.le_of_ble_eq_true hl) fun a hs=>h a w (by rw [← zSc]; exact hs) hk
end
section
open Go
inductive Scr where
 | e
 | s (l:List Nat) (t:Scr)
 | a (l:List (Nat×Nat×Scr))
 | i (x y:Scr)
structure DH (id mode:Nat) (ds:List Nat) (t:Scr):Prop
def lst (n:Nat) (done:List Nat):Array Bool:=(Array.range n).map fun i=>done.contains i
theorem zSd (n i:Nat) (done:List Nat):(lst n done).setIfInBounds i true = lst n (i::done):=by
 apply Array.ext
 ·simp [lst]
 ·intro j h1 h2
  have h3:j < (lst n done).size:=by simpa using h1
  rw [Array.getElem_setIfInBounds h3]
  by_cases h:i = j
  ·subst h; simp [lst]
  ·have h':¬ j = i:=fun e=>h e.symm
   simp [lst,h,h']
theorem zOE (n:Nat):Array.replicate n false = lst n []:=by
 apply Array.ext
 ·simp [lst]
 ·intro j h1 h2; simp [lst]
def Dx (P:Program) (ops:Array Oper) (Q:Exit→Act→World→Prop) (S:World→Prop) (ds done:List Nat) (t:Scr):Act→World→Prop:=fun a w=>zD9 Q→zDP P ops Q S ds (ops.size - done.length) (lst ops.size done) a w
def Al (S:World→Prop) (k:K):K:=fun w=>S w∧k w
def Ox (P:Program) (ops:Array Oper) (Q:Exit→Act→World→Prop) (S:World→Prop) (ds done:List Nat) (i tag:Nat) (t:Scr):Act→World→Prop:=fun a w=>zD9 Q →
 opW P ops Q i (fun a' w'=>(alive ds (lst ops.size done) = true→i ∉ ds→S w→S w')∧zDP P ops Q S ds (ops.size - done.length - 1) (lst ops.size (i::done)) a' w') a w
def Ax (P:Program) (ops:Array Oper) (Q:Exit→Act→World→Prop) (S:World→Prop) (ds done:List Nat) (l:List (Nat×Nat×Scr)):Act→World→Prop:=fun a w=>∀ p ∈ l,Ox P ops Q S ds done p.1 p.2.1 p.2.2 a w
def takeC (ops:Array Oper) (ds done:List Nat) (i:Nat):Bool :=
 Region.noSelect ops && Region.free .any ops (lst ops.size done) i && (Region.ready .any ops (lst ops.size done)).contains i && !ds.contains i && Nat.ble (done.length + 1) ops.size
def zSe (ops:Array Oper) (l:Array Bool):Bool :=
 (List.range ops.size).all fun j=>match ops[j]? with
  | some oj=>!l.getD j false || oj.after.all fun e=>!Region.binds .any e || l.getD e.on false
  | none=>true
def zLF (ops:Array Oper) (i:Nat):Nat→Nat→List Nat→List Nat
 | 0,_,acc=>acc
 | n + 1,k,acc=>match (match ops[k]? with
   | some o=>o.after.any fun e=>Region.binds .any e && (e.on == i || acc.contains e.on)
   | none=>false) with
  | true=>zLF ops i n (k + 1) (k::acc)
  | false=>zLF ops i n (k + 1) acc
theorem zGO {ops:Array Oper} {i:Nat}:∀ (n k:Nat) (acc:List Nat),(∀ x ∈ acc,∃ m,reach ops i m x = true)→∀ d ∈ zLF ops i n k acc,∃ m,reach ops i m d = true
 | 0,_,_,h,d,hd=>h d hd
 | n + 1,k,acc,h,d,hd=>by
  unfold zLF at hd
  split at hd
  ·rename_i hb
   refine zGO n (k + 1) (k::acc) (fun x hx=>?_) d hd
   rcases List.mem_cons.1 hx with rfl | hx
   ·cases ho:ops[x]? with
    | none=>simp [ho] at hb
    | some o=>
     simp only [ho,Array.any_eq_true'] at hb
     obtain ⟨e,he,hb⟩:=hb
     simp only [Bool.and_eq_true,Bool.or_eq_true] at hb
     rcases hb.2 with h2 | h2
     ·refine ⟨1,?_⟩
      simp only [reach,ho,Array.any_eq_true']
      exact ⟨e,he,by simp [hb.1,h2]⟩
     ·obtain ⟨m,hm⟩:=h e.on (List.contains_iff_mem.1 h2)
      refine ⟨m + 1,?_⟩
      simp only [reach,ho,Array.any_eq_true']
      exact ⟨e,he,by simp [hb.1,hm]⟩
   ·exact h x hx
  ·exact zGO n (k + 1) acc h d hd
def zMx (ops:Array Oper) (ds done:List Nat) (i:Nat):Bool:=takeC ops ds done i && zSe ops (lst ops.size done) && ds.all fun d=>(zLF ops i (d - i) (i + 1) []).contains d
theorem zOF {ops:Array Oper} {l:Array Bool} (h:zSe ops l = true):Closed ops l:=fun j oj hj hl e he hb=>by
 have h1:=List.all_eq_true.1 h j (by simpa using (Array.getElem?_eq_some_iff.1 hj).1)
 simp only [hj,hl,Bool.not_true,Bool.false_or,Array.all_eq_true_iff_forall_mem] at h1
 have h2:=h1 e he
 simpa [hb] using h2
theorem zQ9 {Q:Exit→Act→World→Prop} {K:Act→World→Prop} (h:zD9 Q):zD9 (Exit.then K Q):=fun c a w hc=>h c a w hc
theorem zTr {Q:Exit→Act→World→Prop} {i:Nat} (h:zD9 Q):zD9 (Exit.inBlock i Q):=fun c a w hc=>h c a w hc
theorem zPo {P:Program} {fn:Func} {kk:Value→K}:zD9 (bodyPost P fn (Ret kk)):=fun _ _ _ h=>h.2
theorem zH2 {Q:Exit→Act→World→Prop} (h:zD9 Q:=by repeat (first | refine zQ9 ?_ | refine zTr ?_ | exact zPW | exact zPo)):zD9 Q:=h
section
variable {P:Program} {dl:List Deferred} {n:Nat} {σ τ:List (Nat×Value)} {k:K} {X:Act→World→Prop} {ops:Array Oper} {Q:Exit→Act→World→Prop} {l:List Oper} {o:Oper} {v:Value} {S:World→Prop} {ds done:List Nat} {i:Nat} {is:List Nat} {t:Scr}
theorem zE0 {T:World→Prop} (hi:ops[i]? = some o) (hc:takeC ops ds done i = true) (hT:(∀ w,T w)∨(T = S∧zMx ops ds done i = true)) (hQ:zD9 Q) {a:Act} {w:World} (hy:YieldsIf P ops T o v a) (hw:T w)
  (h:zDP P ops Q S ds (ops.size - (i::done).length) (lst ops.size (i::done)) (a.put o.dst v) w):zDP P ops Q S ds (ops.size - done.length) (lst ops.size done) a w:=by
 simp only [takeC,Bool.and_eq_true,Bool.not_eq_true'] at hc
 obtain ⟨⟨⟨⟨h1,h2⟩,h3⟩,h4⟩,h5⟩:=hc
 have h5:=Nat.le_of_ble_eq_true h5
 rw [show ops.size - done.length = (ops.size - (i::done).length) + 1 by simp only [List.length_cons]; omega]
 refine zNr hi (by intro hm; rw [List.contains_iff_mem.2 hm] at h4; cases h4) (Region.noSelect_spec h1) hQ _ _ a w (Region.free_spec hi h2) ?_ (by simpa using h3) hy hw (by rw [zSd]; exact h)
 rcases hT with h | ⟨h,hr⟩
 ·exact .inl h
 ·simp only [zMx,Bool.and_eq_true] at hr
  exact .inr ⟨h,zOF hr.1.2,fun d hd=>zGO _ _ _ (by simp) d (List.contains_iff_mem.1 (List.all_eq_true.1 hr.2 d hd))⟩
theorem zAQ {d:Nat} (h:G dl n ((d,v)::σ) k (Dx P ops Q S ds (i::done) (.s is t))) (hi:ops[i]? = some o:=by rfl) (hd:o.dst = some d:=by rfl) (hw:wants ops σ o = some true:=by rfl) (hp:Pure P σ o v:=by exact zNt) (hc:takeC ops ds done i = true:=by as_aux_lemma=>kernel_rfl)
  (hn:Nat.ble (d + 1) n = true:=by rfl):G dl n σ k (Dx P ops Q S ds done (.s (i::is) t)):=fun a w hs hk hQ=>
 zE0 (T:=fun _=>True) hi hc (.inl fun _=>trivial) hQ (.inl ⟨uT hs.1 hw,fun w _=>hp { a with defers:=[] } n hs.1 w⟩) trivial (by rw [hd]; exact h _ w (hs.put (Nat.le_of_ble_eq_true hn) v) hk hQ)
def less (ds:List Nat) (i:Nat):List Nat:=ds.filter fun j=>!Nat.beq j i
theorem zPp:∀ d ∈ less ds i,d ∈ ds:=fun d hd=>(List.mem_filter.1 hd).1
theorem zSf {d:Nat} (h:G dl n ((d,undef)::σ) k (Dx P ops Q S (less ds i) (i::done) (.s is t))) (hi:ops[i]? = some o:=by rfl) (hd:o.dst = some d:=by rfl) (hw:wants ops σ o = some false:=by rfl) (hc:takeC ops (less ds i) done i = true:=by as_aux_lemma=>kernel_rfl)
  (hn:Nat.ble (d + 1) n = true:=by rfl):G dl n σ k (Dx P ops Q S ds done (.s (i::is) t)):=fun a w hs hk hQ=>
 zJF zPp _ _ _ _ (zE0 (T:=fun _=>True) (v:=undef) hi hc (.inl fun _=>trivial) hQ (.inr ⟨uT hs.1 hw,rfl⟩) trivial (by rw [hd]; exact h _ w (hs.put (Nat.le_of_ble_eq_true hn) undef) hk hQ))
theorem zOG (h:G dl n σ k (Dx P ops Q S (less ds i) (i::done) (.s is t))) (hi:ops[i]? = some o:=by rfl) (hd:o.dst = none:=by rfl) (hw:wants ops σ o = some false:=by rfl) (hc:takeC ops (less ds i) done i = true:=by as_aux_lemma=>kernel_rfl):G dl n σ k (Dx P ops Q S ds done (.s (i::is) t)):=fun a w hs hk hQ=>
 zJF zPp _ _ _ _ (zE0 (T:=fun _=>True) (v:=undef) hi hc (.inl fun _=>trivial) hQ (.inr ⟨uT hs.1 hw,rfl⟩) trivial (by rw [hd]; exact h _ w hs hk hQ))
theorem zOH (h:G dl n σ k (Dx P ops Q S ds done t)):G dl n σ k (Dx P ops Q S ds done (.s [] t)):=h
section
variable {α:Type} {vx:α→Value} {k':α→K} {d:Nat}
theorem uG (h:∀ x,G dl n ((d,vx x)::σ) (k' x) (Dx P ops Q S ds (i::done) (.s is t))) (hi:ops[i]? = some o:=by rfl) (hd:o.dst = some d:=by rfl) (hw:wants ops σ o = some true:=by rfl) (hp:WP P σ o k vx k':=by exact zKV) (hc:takeC ops ds done i = true:=by as_aux_lemma=>kernel_rfl)
  (hn:Nat.ble (d + 1) n = true:=by rfl):G dl n σ k (Dx P ops Q S ds done (.s (i::is) t)):=fun a w hs hk hQ=>by
 obtain ⟨x,hp,hk⟩:=hp w hk
 exact zE0 (T:=fun _=>True) hi hc (.inl fun _=>trivial) hQ (.inl ⟨uT hs.1 hw,fun w _=>hp { a with defers:=[] } n hs.1 w⟩) trivial (by rw [hd]; exact h x _ w (hs.put (Nat.le_of_ble_eq_true hn) _) hk hQ)
theorem xO (h:∀ x,G dl n ((d,vx x)::σ) (Al S (k' x)) (Dx P ops Q S ds (i::done) (.s is t))) (hi:ops[i]? = some o:=by rfl) (hd:o.dst = some d:=by rfl) (hw:wants ops σ o = some true:=by rfl) (hp:WP P σ o k vx k':=by exact zKV) (hc:takeC ops ds done i = true:=by as_aux_lemma=>kernel_rfl)
  (hn:Nat.ble (d + 1) n = true:=by rfl):G dl n σ (Al S k) (Dx P ops Q S ds done (.s (i::is) t)):=fun a w hs ⟨hS,hk⟩ hQ=>by
 obtain ⟨x,hp,hk⟩:=hp w hk
 exact zE0 (T:=fun _=>True) hi hc (.inl fun _=>trivial) hQ (.inl ⟨uT hs.1 hw,fun w _=>hp { a with defers:=[] } n hs.1 w⟩) trivial (by rw [hd]; exact h x _ w (hs.put (Nat.le_of_ble_eq_true hn) _) ⟨hS,hk⟩ hQ)
theorem zYi (h:∀ x,G dl n ((d,vx x)::σ) (Al S (k' x)) (Dx P ops Q S ds (i::done) (.s is t))) (hi:ops[i]? = some o) (hd:o.dst = some d) (hw:wants ops σ o = some true) (hp:∀ w,S w→k w→∃ x,(∀ w,S w→Eff P σ o w (.value (vx x)) w)∧k' x w) (hc:zMx ops ds done i = true)
  (hn:Nat.ble (d + 1) n = true):G dl n σ (Al S k) (Dx P ops Q S ds done (.s (i::is) t)):=fun a w hs ⟨hS,hk⟩ hQ=>by
 obtain ⟨x,hp,hk⟩:=hp w hS hk
 have hc':takeC ops ds done i = true:=by simp only [zMx,Bool.and_eq_true] at hc; exact hc.1.1
 exact zE0 (T:=S) hi hc' (.inr ⟨rfl,hc⟩) hQ (.inl ⟨uT hs.1 hw,fun w hw=>hp w hw { a with defers:=[] } n hs.1⟩) hS (by rw [hd]; exact h x _ w (hs.put (Nat.le_of_ble_eq_true hn) _) ⟨hS,hk⟩ hQ)
theorem zBc {w1:World} (h:∀ x,G dl n ((d,vx x)::σ) (Al (Is w1) (k' x)) (Dx P ops Q (Is w1) ds (i::done) (.s is t))) (hi:ops[i]? = some o:=by rfl) (hd:o.dst = some d:=by rfl) (hw:wants ops σ o = some true:=by rfl) (hp:WR P σ o k vx k':=by exact zGx) (hc:zMx ops ds done i = true:=by as_aux_lemma=>kernel_rfl)
  (hn:Nat.ble (d + 1) n = true:=by rfl):G dl n σ (Al (Is w1) k) (Dx P ops Q (Is w1) ds done (.s (i::is) t)):=zYi h hi hd hw hp.is hc hn
theorem zEG (h:∀ x,G dl n ((d,vx x)::σ) (Al S (k' x)) (Dx P ops Q S ds (i::done) (.s is t))) (hi:ops[i]? = some o:=by rfl) (hd:o.dst = some d:=by rfl) (hw:wants ops σ o = some true:=by rfl) (hp:WS P S σ o k vx k':=by exact zW3) (hc:zMx ops ds done i = true:=by as_aux_lemma=>kernel_rfl)
  (hn:Nat.ble (d + 1) n = true:=by rfl):G dl n σ (Al S k) (Dx P ops Q S ds done (.s (i::is) t)):=zYi h hi hd hw (fun w _ hk=>hp w hk) hc hn
end
theorem zOI (h:G dl n σ k (Ex Q .normal)) (hc:Region.ready .any ops (lst ops.size done) = []:=by as_aux_lemma=>kernel_rfl):G dl n σ k (Dx P ops Q S ds done .e):=fun a w hs hk _=>by
 show zDP P ops Q S ds (ops.size - done.length) (lst ops.size done) a w
 cases ops.size - done.length with
 | zero=>exact ⟨hc,h a w hs hk⟩
 | succ m=>exact ⟨fun _=>h a w hs hk,by rw [hc]; simp⟩
theorem jq (h:G dl n σ k X):G dl n σ (Al S k) X:=fun a w hs hk=>h a w hs hk.2
theorem zOJ {b:Bool} {x y:K} {s t:Scr} (h1:b = true→G dl n σ x (Dx P ops Q S ds done s)) (h2:b = false→G dl n σ y (Dx P ops Q S ds done t)):G dl n σ (Ite b x y) (Dx P ops Q S ds done (.i s t)):=fun a w hs hk=>by
 cases b
 ·exact h2 rfl a w hs (hk.2 rfl)
 ·exact h1 rfl a w hs (hk.1 rfl)
theorem zKf {b:Bool} {x y:K} {s t:Scr} (h1:b = true→G dl n σ (Al S x) (Dx P ops Q S ds done s)) (h2:b = false→G dl n σ (Al S y) (Dx P ops Q S ds done t)):G dl n σ (Al S (Ite b x y)) (Dx P ops Q S ds done (.i s t)):=fun a w hs ⟨hS,hk⟩=>by
 cases b
 ·exact h2 rfl a w hs ⟨hS,hk.2 rfl⟩
 ·exact h1 rfl a w hs ⟨hS,hk.1 rfl⟩
theorem zSg {p:Option Addr} {kp:Addr→K} (h:∀ a,p = some a→G dl n σ (Al S (kp a)) X):G dl n σ (Al S (Nn p kp)) X:=fun a w hs ⟨hS,b,hb,hk⟩=>h b hb a w hs ⟨hS,hk⟩
theorem zSh {f:Value} {kf:FuncId→Array Value→Array Value→K} (h:∀ g fs cs,f = .func (.func g) fs cs→CB P g→G dl n σ (Al S (kf g fs cs)) X):G dl n σ (Al S (Fv P f kf)) X:=fun a w hs ⟨hS,g,fs,cs,hf,hc,hk⟩=>h g fs cs hf ⟨hc⟩ a w hs ⟨hS,hk⟩
theorem zOK {α:Type} {d:Nat} {u:Value} {c:α→Value} {k:α→K} (h:∀ x,G dl n ((d,c x)::σ) (Al S (k x)) X):G dl n ((d,u)::σ) (Al S (yH c k u)) X:=fun a w hs ⟨hS,x,hu,hk⟩=>h x a w (hu ▸ hs) ⟨hS,hk⟩
theorem zBl {α β:Type} {d:Nat} {u:Value} {c:α→β→Value} {k:α→β→K} (h:∀ x y,G dl n ((d,c x y)::σ) (Al S (k x y)) X):G dl n ((d,u)::σ) (Al S (zAZ c k u)) X:=fun a w hs ⟨hS,x,y,hu,hk⟩=>h x y a w (hu ▸ hs) ⟨hS,hk⟩
theorem zXC {m:List (Nat×Nat×Scr)} (h:G dl n σ k (Ax P ops Q S ds done m)) (hr:Region.ready .any ops (lst ops.size done) = m.map (·.1):=by as_aux_lemma=>kernel_rfl) (hl:(Nat.ble (done.length + 1) ops.size && !m.isEmpty) = true:=by rfl):G dl n σ k (Dx P ops Q S ds done (.a m)):=fun a w hs hk hQ=>by
 simp only [Bool.and_eq_true,Bool.not_eq_true'] at hl
 have h5:=Nat.le_of_ble_eq_true hl.1
 show zDP P ops Q S ds (ops.size - done.length) (lst ops.size done) a w
 have h0:=h a w hs hk
 rw [show ops.size - done.length = (ops.size - done.length - 1) + 1 by omega]
 refine ⟨fun h0=>?_,fun i hi=>?_⟩
 ·rw [h0] at hr
  cases m with
  | nil=>simp at hl
  | cons p m=>simp at hr
 ·rw [hr] at hi
  obtain ⟨p,hp,rfl⟩:=List.mem_map.1 hi
  have:=h0 p hp hQ
  rw [zSd]
  exact this
theorem zOL {ks:List K} {m:List (Nat×Nat×Scr)} {i tag:Nat} {t:Scr} (h1:G dl n σ k (Ox P ops Q S ds done i tag t)) (h2:G dl n σ (All ks) (Ax P ops Q S ds done m)):G dl n σ (All (k::ks)) (Ax P ops Q S ds done ((i,tag,t)::m)):=fun a w hs hk p hp=>by
 rcases List.mem_cons.1 hp with rfl | hp
 ·exact h1 a w hs (hk 0 _ rfl)
 ·exact h2 a w hs (fun j x hx=>hk (j + 1) x (by simpa using hx)) p hp
theorem zKg {ks:List K} {m:List (Nat×Nat×Scr)} {i tag:Nat} {t:Scr} (h1:G dl n σ (Al S k) (Ox P ops Q S ds done i tag t)) (h2:G dl n σ (Al S (All ks)) (Ax P ops Q S ds done m)):G dl n σ (Al S (All (k::ks))) (Ax P ops Q S ds done ((i,tag,t)::m)):=fun a w hs ⟨hS,hk⟩ p hp=>by
 rcases List.mem_cons.1 hp with rfl | hp
 ·exact h1 a w hs ⟨hS,hk 0 _ rfl⟩
 ·exact h2 a w hs ⟨hS,fun j x hx=>hk (j + 1) x (by simpa using hx)⟩ p hp
theorem zOM:G dl n σ k (Ax P ops Q S ds done []):=fun _ _ _ _ _ hp=>by cases hp
theorem zON {i tag:Nat} {t:Scr} (h1:G dl n σ k (Ox P ops Q S ds done i tag t)):G dl n σ k (Ax P ops Q S ds done [(i,tag,t)]):=fun a w hs hk p hp=>by
 rcases List.mem_cons.1 hp with rfl | hp
 ·exact h1 a w hs hk
 ·cases hp
def okK (ops:Array Oper) (S:World→Prop) (ds done:List Nat) (i:Nat):Prop:=(∀ w,S w)∨(ds.contains i || !alive ds (lst ops.size done)) = true
theorem okK.keep (h:okK ops S ds done i) (w w':World):alive ds (lst ops.size done) = true→i ∉ ds→S w→S w':=fun ha hi _=>by
 rcases h with h | h
 ·exact h w'
 ·rw [ha] at h
  simp only [Bool.not_true,Bool.or_false] at h
  exact absurd (List.contains_iff_mem.1 h) hi
theorem zEU (h:okK ops S ds done i:=by first | exact .inl (fun _=>trivial) | exact .inr (by as_aux_lemma=>kernel_rfl)):okK ops S ds done i:=h
theorem zCy {a:Act} {w:World} (hs:jM dl a n σ) (hi:ops[i]? = some o) (hw:wants ops σ o = some true) {tag:Nat} (h:zD9 Q→o.wpIn Fence.wide 0 P a w (fun a' w'=>(alive ds (lst ops.size done) = true→i ∉ ds→S w→S w')∧zDP P ops Q S ds (ops.size - done.length - 1) (lst ops.size (i::done)) a' w') Q):Ox P ops Q S ds done i tag t a w:=by
 intro hQ
 unfold opW wpOpIn
 simp only [hi,uT hs.1 hw,if_true]
 exact h hQ
theorem zCz {m:Nat}:ops.size - done.length - 1 = ops.size - (i::done).length:=by simp only [List.length_cons]; omega
section
variable {α:Type} {vx:α→Value} {k':α→K} {d:Nat} {k1:K}
theorem zDy (h:∀ x,G dl n ((d,vx x)::σ) (k' x) (Dx P ops Q S ds (i::done) t)) (hi:ops[i]? = some o:=by rfl) (hd:o.dst = some d:=by rfl) (hw:wants ops σ o = some true:=by rfl) (hp:WE P σ o k vx k':=by first | exact zGy | exact WR.we zGx) (hK:okK ops S ds done i:=by exact zEU)
  (hn:Nat.ble (d + 1) n = true:=by rfl) (nd:zAy o.op = false:=by rfl):G dl n σ k (Ox P ops Q S ds done i 0 t):=fun a w hs hk=>by
 obtain ⟨x,w',hp,h'⟩:=hp w hk
 refine zCy hs hi hw fun hQ=>(zCH (r:=none) hs nd hp ⟨hK.keep w w',?_⟩)
 rw [hd,zCz (m:=0)]; exact h x _ w' (hs.put (Nat.le_of_ble_eq_true hn) _) h' hQ
theorem zSi (h:∀ x,G dl n σ (k' x) (Dx P ops Q S ds (i::done) t)) (hi:ops[i]? = some o:=by rfl) (hd:o.dst = none:=by rfl) (hw:wants ops σ o = some true:=by rfl) (hp:WE P σ o k vx k':=by exact zGy) (hK:okK ops S ds done i:=by exact zEU)
  (nd:zAy o.op = false:=by rfl):G dl n σ k (Ox P ops Q S ds done i 0 t):=fun a w hs hk=>by
 obtain ⟨x,w',hp,h'⟩:=hp w hk
 refine zCy hs hi hw fun hQ=>(zCH (r:=none) hs nd hp ⟨hK.keep w w',?_⟩)
 rw [hd,zCz (m:=0)]; exact h x _ w' hs h' hQ
theorem zOO (h:G dl n σ k1 (Dx P ops Q S ds (i::done) t)) (hi:ops[i]? = some o:=by rfl) (hd:o.dst = none:=by rfl) (hw:wants ops σ o = some true:=by rfl) (hp:WK P σ o k k1:=by exact zNx) (hK:okK ops S ds done i:=by exact zEU)
  (nd:zAy o.op = false:=by rfl):G dl n σ k (Ox P ops Q S ds done i 0 t):=fun a w hs hk=>by
 obtain ⟨w',hp,h'⟩:=hp w hk
 refine zCy hs hi hw fun hQ=>(zNy (r:=none) hs nd hp ⟨hK.keep w w',?_⟩)
 rw [hd,zCz (m:=0)]; exact h _ w' hs h' hQ
theorem zXD {kk:Value→K} (h:∀ u,G dl n ((d,u)::σ) (kk u) (Dx P ops Q S ds (i::done) t)) (hi:ops[i]? = some o:=by rfl) (hd:o.dst = some d:=by rfl) (hw:wants ops σ o = some true:=by rfl) (hp:WC P σ o k kk:=by exact zIT) (hK:okK ops S ds done i:=by exact zEU)
  (hn:Nat.ble (d + 1) n = true:=by rfl) (nd:zAy o.op = false:=by rfl):G dl n σ k (Ox P ops Q S ds done i 0 t):=fun a w hs hk=>by
 obtain ⟨f,args,w',hp,hc⟩:=hp w hk
 refine zCy hs hi hw fun hQ=>(zIV (r:=none) hs nd hp hc fun v w1 h'=>⟨hK.keep w w1,?_⟩)
 rw [hd,zCz (m:=0)]; exact h v _ w1 (hs.put (Nat.le_of_ble_eq_true hn) _) h' hQ
theorem zSj {kk:Value→K} (h:∀ u,G dl n σ (kk u) (Dx P ops Q S ds (i::done) t)) (hi:ops[i]? = some o:=by rfl) (hd:o.dst = none:=by rfl) (hw:wants ops σ o = some true:=by rfl) (hp:WC P σ o k kk:=by exact zIT) (hK:okK ops S ds done i:=by exact zEU)
  (nd:zAy o.op = false:=by rfl):G dl n σ k (Ox P ops Q S ds done i 0 t):=fun a w hs hk=>by
 obtain ⟨f,args,w',hp,hc⟩:=hp w hk
 refine zCy hs hi hw fun hQ=>(zIV (r:=none) hs nd hp hc fun v w1 h'=>⟨hK.keep w w1,?_⟩)
 rw [hd,zCz (m:=0)]; exact h v _ w1 hs h' hQ
theorem zXE {kk:Value→K} (h:∀ u,G dl n ((d,u)::σ) (kk u) (Dx P ops Q S ds (i::done) t)) (hi:ops[i]? = some o:=by rfl) (hd:o.dst = some d:=by rfl) (hw:wants ops σ o = some true:=by rfl) (hp:WY P σ o k kk:=by exact zaI rfl rfl rfl) (hK:okK ops S ds done i:=by exact zEU)
  (hn:Nat.ble (d + 1) n = true:=by rfl) (nd:zAy o.op = false:=by rfl):G dl n σ k (Ox P ops Q S ds done i 0 t):=fun a w hs hk=>by
 obtain ⟨y,args,hp,hc⟩:=hp w hk
 refine zCy hs hi hw fun hQ=>(zPk hs nd hp hc fun v w1 h'=>⟨hK.keep w w1,?_⟩)
 rw [hd,zCz (m:=0)]; exact h v _ w1 (hs.put (Nat.le_of_ble_eq_true hn) _) h' hQ
theorem zBd (h:∀ x,G dl n ((d,vx x)::σ) (Al S (k' x)) (Dx P ops Q S ds (i::done) t)) (hi:ops[i]? = some o:=by rfl) (hd:o.dst = some d:=by rfl) (hw:wants ops σ o = some true:=by rfl) (hp:WE P σ o k vx (fun x=>Sv S (k' x)):=by exact zGy)
  (hn:Nat.ble (d + 1) n = true:=by rfl) (nd:zAy o.op = false:=by rfl):G dl n σ (Al S k) (Ox P ops Q S ds done i 1 t):=fun a w hs ⟨_,hk⟩=>by
 obtain ⟨x,w',hp,hS,h'⟩:=hp w hk
 refine zCy hs hi hw fun hQ=>(zCH (r:=none) hs nd hp ⟨fun _ _ _=>hS,?_⟩)
 rw [hd,zCz (m:=0)]; exact h x _ w' (hs.put (Nat.le_of_ble_eq_true hn) _) ⟨hS,h'⟩ hQ
theorem zOP (h:∀ x,G dl n σ (Al S (k' x)) (Dx P ops Q S ds (i::done) t)) (hi:ops[i]? = some o:=by rfl) (hd:o.dst = none:=by rfl) (hw:wants ops σ o = some true:=by rfl) (hp:WE P σ o k vx (fun x=>Sv S (k' x)):=by exact zGy)
  (nd:zAy o.op = false:=by rfl):G dl n σ (Al S k) (Ox P ops Q S ds done i 1 t):=fun a w hs ⟨_,hk⟩=>by
 obtain ⟨x,w',hp,hS,h'⟩:=hp w hk
 refine zCy hs hi hw fun hQ=>(zCH (r:=none) hs nd hp ⟨fun _ _ _=>hS,?_⟩)
 rw [hd,zCz (m:=0)]; exact h x _ w' hs ⟨hS,h'⟩ hQ
theorem zId (h:G dl n σ (Al S k1) (Dx P ops Q S ds (i::done) t)) (hi:ops[i]? = some o:=by rfl) (hd:o.dst = none:=by rfl) (hw:wants ops σ o = some true:=by rfl) (hp:WK P σ o k (Sv S k1):=by exact zNx)
  (nd:zAy o.op = false:=by rfl):G dl n σ (Al S k) (Ox P ops Q S ds done i 1 t):=fun a w hs ⟨_,hk⟩=>by
 obtain ⟨w',hp,hS,h'⟩:=hp w hk
 refine zCy hs hi hw fun hQ=>(zNy (r:=none) hs nd hp ⟨fun _ _ _=>hS,?_⟩)
 rw [hd,zCz (m:=0)]; exact h _ w' hs ⟨hS,h'⟩ hQ
def SvA (S:World→Prop) (kk:Value→K) (kS:Value→K):Prop:=∀ u w,kk u w→S w∧kS u w
theorem zaJ {v0:Value} {k:K}:SvA S (jI v0 (Sv S k)) (jI v0 k):=fun _ _ ⟨h,hS,hk⟩=>⟨hS,h,hk⟩
theorem zaK {α:Type} {c:α→Value} {k:α→K}:SvA S (yH c fun x=>Sv S (k x)) (yH c k):=fun _ _ ⟨x,h,hS,hk⟩=>⟨hS,x,h,hk⟩
theorem zYj {α β:Type} {c:α→β→Value} {k:α→β→K}:SvA S (zAZ c fun x y=>Sv S (k x y)) (zAZ c k):=fun _ _ ⟨x,y,h,hS,hk⟩=>⟨hS,x,y,h,hk⟩
theorem zaL {α β γ:Type} {c:α→β→γ→Value} {k:α→β→γ→K}:SvA S (zDH c fun x y z=>Sv S (k x y z)) (zDH c k):=fun _ _ ⟨x,y,z,h,hS,hk⟩=>⟨hS,x,y,z,h,hk⟩
theorem zSk {kk kS:Value→K} (h:∀ u,G dl n ((d,u)::σ) (Al S (kS u)) (Dx P ops Q S ds (i::done) t)) (hi:ops[i]? = some o:=by rfl) (hd:o.dst = some d:=by rfl) (hw:wants ops σ o = some true:=by rfl) (hp:WC P σ o k kk:=by exact zIT)
  (hS:SvA S kk kS:=by first | exact zaK | exact zaJ | exact zYj | exact zaL) (hn:Nat.ble (d + 1) n = true:=by rfl) (nd:zAy o.op = false:=by rfl):G dl n σ (Al S k) (Ox P ops Q S ds done i 1 t):=fun a w hs ⟨_,hk⟩=>by
 obtain ⟨f,args,w',hp,hc⟩:=hp w hk
 refine zCy hs hi hw fun hQ=>(zIV (r:=none) hs nd hp hc fun v w1 h'=>⟨fun _ _ _=>(hS v w1 h').1,?_⟩)
 rw [hd,zCz (m:=0)]; exact h v _ w1 (hs.put (Nat.le_of_ble_eq_true hn) _) (hS v w1 h') hQ
theorem zBe (h:∀ x,G dl n ((d,vx x)::σ) (k' x) (Dx P ops Q S ds (i::done) t)) (hi:ops[i]? = some o:=by rfl) (hd:o.dst = some d:=by rfl) (hw:wants ops σ o = some true:=by rfl) (hp:WR P σ o k vx k':=by exact zGx)
  (hn:Nat.ble (d + 1) n = true:=by rfl) (nd:zAy o.op = false:=by rfl):G dl n σ k (Ox P ops Q S ds done i 2 t):=fun a w hs hk=>by
 obtain ⟨x,hp,h'⟩:=hp w hk
 refine zCy hs hi hw fun hQ=>(zCH (r:=none) hs nd hp ⟨fun _ _ h=>h,?_⟩)
 rw [hd,zCz (m:=0)]; exact h x _ w (hs.put (Nat.le_of_ble_eq_true hn) _) h' hQ
theorem zAE (h:∀ x,G dl n ((d,vx x)::σ) (Al S (k' x)) (Dx P ops Q S ds (i::done) t)) (hi:ops[i]? = some o:=by rfl) (hd:o.dst = some d:=by rfl) (hw:wants ops σ o = some true:=by rfl) (hp:WR P σ o k vx k':=by exact zGx)
  (hn:Nat.ble (d + 1) n = true:=by rfl) (nd:zAy o.op = false:=by rfl):G dl n σ (Al S k) (Ox P ops Q S ds done i 2 t):=fun a w hs ⟨hS,hk⟩=>by
 obtain ⟨x,hp,h'⟩:=hp w hk
 refine zCy hs hi hw fun hQ=>(zCH (r:=none) hs nd hp ⟨fun _ _ h=>h,?_⟩)
 rw [hd,zCz (m:=0)]; exact h x _ w (hs.put (Nat.le_of_ble_eq_true hn) _) ⟨hS,h'⟩ hQ
end
variable {k0:K} {id:Nat}
theorem zIe (h:G dl n σ k0 (Dx P l.toArray Q Any ds [] t)) (hh:DH id 0 ds t:=by assumption) (hQ:zD9 Q:=by exact zH2) [hm:MX P]:G dl n σ (Dr k0) (Cx none P (.region id l.toArray true) Q):=fun a w hs ⟨w1,hw,hk⟩=>by
 subst hw
 have h1:=h a _ hs hk hQ
 refine wpIn_region_any hm.h (zEE (S:=Any) (ds:=ds) _ _ _ _ ?_)
 rw [zOE]; exact h1
theorem zIf (h:∀ w1,G dl n σ (Al (Is w1) k0) (Dx P l.toArray Q (Is w1) ds [] t)) (hh:DH id 1 ds t:=by assumption) (hQ:zD9 Q:=by exact zH2) [hm:MX P]:G dl n σ (Dr k0) (Cx none P (.region id l.toArray true) Q):=fun a w hs ⟨w1,hw,hk⟩=>by
 subst hw
 have h1:=h _ a _ hs ⟨Is.intro _,hk⟩ hQ
 refine wpIn_region_any hm.h (zEE (S:=Is { w with drawn:=w.drawn + 1 }) (ds:=ds) _ _ _ _ ?_)
 rw [zOE]; exact h1
theorem zIg {kS:(World→Prop)→K} (h:∀ S,G dl n σ (Al S (kS S)) (Dx P l.toArray Q S ds [] t)) (hh:DH id 2 ds t:=by assumption) (hQ:zD9 Q:=by exact zH2) [hm:MX P]:G dl n σ (Dr (yZ kS)) (Cx none P (.region id l.toArray true) Q):=fun a w hs ⟨w1,hw,S,hS,hk⟩=>by
 subst hw
 have h1:=h S a _ hs ⟨hS,hk⟩ hQ
 refine wpIn_region_any hm.h (zEE (S:=S) (ds:=ds) _ _ _ _ ?_)
 rw [zOE]; exact h1
def Sx (P:Program) (ops:Array Oper) (Q:Exit→Act→World→Prop) (l:List Oper):Act→World→Prop:=fun a w=>wpStill P ops w (fun a'=>Q .normal a' w) l a
theorem zIh (h:G [] n σ k0 (Sx P l.toArray Q l)) [hm:MX P] (hB:Region.lexB .any l.toArray = true:=by as_aux_lemma=>kernel_rfl):G [] n σ (Dr k0) (Cx none P (.region id l.toArray true) Q):=fun a w hs ⟨w1,hw,hk⟩=>by
 refine wpIn_wide.2 (zWp hm.h hB hw (h a w1 hs hk))
theorem zAR {d:Nat} (h:G [] n ((d,v)::σ) k (Sx P ops Q l)) (hd:o.dst = some d:=by rfl) (hw:wants ops σ o = some true:=by rfl) (hp:Pure P σ o v:=by exact zNt) (hn:Nat.ble (d + 1) n = true:=by rfl):G [] n σ k (Sx P ops Q (o::l)):=fun a w hs hk=>
 zYF hs.nil hw (zY0 hs.nil rfl hd (Nat.le_of_ble_eq_true hn) hp fun a h'=>h a w h'.D hk)
theorem zSl {d:Nat} (h:G [] n ((d,undef)::σ) k (Sx P ops Q l)) (hd:o.dst = some d:=by rfl) (hw:wants ops σ o = some false:=by rfl) (hn:Nat.ble (d + 1) n = true:=by rfl):G [] n σ k (Sx P ops Q (o::l)):=fun a w hs hk=>
 zbJ hs.nil hw hd (Nat.le_of_ble_eq_true hn) fun a h'=>h a w h'.D hk
section
variable {α:Type} {vx:α→Value} {k':α→K} {d:Nat}
theorem zYk (hr:WR P σ o k vx k') (h:∀ x,G [] n ((d,vx x)::σ) (k' x) (Sx P ops Q l)) (hd:o.dst = some d) (hw:wants ops σ o = some true) (hn:Nat.ble (d + 1) n = true):G [] n σ k (Sx P ops Q (o::l)):=fun a w hs hk=>by
 obtain ⟨x,hp,h'⟩:=hr w hk
 exact zYF hs.nil hw (zYE hs.nil rfl hd (Nat.le_of_ble_eq_true hn) hp fun a hs'=>h x a w hs'.D h')
theorem uH (h:∀ x,G [] n ((d,vx x)::σ) (k' x) (Sx P ops Q l)) (hd:o.dst = some d:=by rfl) (hw:wants ops σ o = some true:=by rfl) (hp:WP P σ o k vx k':=by exact zKV) (hn:Nat.ble (d + 1) n = true:=by rfl):G [] n σ k (Sx P ops Q (o::l)):=zYk hp.wr h hd hw hn
theorem zBf (h:∀ x,G [] n ((d,vx x)::σ) (k' x) (Sx P ops Q l)) (hd:o.dst = some d:=by rfl) (hw:wants ops σ o = some true:=by rfl) (hp:WR P σ o k vx k':=by exact zGx) (hn:Nat.ble (d + 1) n = true:=by rfl):G [] n σ k (Sx P ops Q (o::l)):=zYk hp h hd hw hn
end
theorem zOQ {b:Bool} {x y:K} (h1:b = true→G dl n σ x (Sx P ops Q (o::l))) (h2:b = false→G dl n σ y (Sx P ops Q (o::l))) (hg:gslot ops σ o = some (.bool b):=by rfl):G dl n σ (Ite b x y) (Sx P ops Q (o::l)):=fun a w hs hk=>by
 cases b
 ·exact h2 rfl a w hs (hk.2 rfl)
 ·exact h1 rfl a w hs (hk.1 rfl)
theorem zOR (h:G [] n σ k (Ex Q .normal)):G [] n σ k (Sx P ops Q []):=fun a w hs hk=>h a w hs hk
end
end
section
open Go
def zPq:Exit→Code
 | .exit i=>.exit i
 | _=>.ret
def zLG (l:Nat) (r:Loop) (k:K):K:=fun w=>w.heap[l]? = some (.loop r)∧k (w.putObj l (.loop { r with state:=.busy }))
def zPr (l:Nat) (r:Loop) (J:Exit) (k:K):K:=fun w=>w.heap[l]? = some (.loop r)∧k (w.putObj l (.loop { r with state:=.done,pending:=some (zPq J) }))
def YN (kN kJ:K):Value→K:=fun v w=>(v = .bool true∧kN w)∨(v = .bool false∧kJ w)
def jE {α:Type} (P:Program) (fv:Value) (J:Exit) (cX:α→List Value) (body:(K→K)→K→K→α→K) (after afterJ:Nat→K):K:=fun w=>
 ∃ g cs,fv = .func (.func g) #[] cs∧callable P g = true ∧
  ∀ (r:Loop) (w1:World),r.state = .ready→r.pending = none→r.defers = w.heap.size→w1 = (w.alloc (.deferred (some []))).alloc (.loop r) →
   (∀ (x:α) (kN kJ:K) (W:World),W.heap[w.heap.size + 1]? = some (.loop r) →
    body (zLG (w.heap.size + 1) r) (zNq (w.heap.size + 1) { r with state:=.busy } kN) (zPr (w.heap.size + 1) { r with state:=.busy } J kJ) x W →
    YieldAt Fence.wide 0 P (w.heap.size + 1) (cX x).toArray W (Ret (YN kN kJ))) →
   Calls P g (yv (w.heap.size + 1)::cs.toList).toArray w1 (Ret fun _ w3=>
    (w3.heap[w.heap.size + 1]? = some (.loop r)∧after w.heap.size (w3.putObj (w.heap.size + 1) (.loop { r with state:=.exhausted }))) ∨
    (w3.heap[w.heap.size + 1]? = some (.loop { r with state:=.done,pending:=some (zPq J) })∧afterJ w.heap.size (w3.putObj (w.heap.size + 1) (.loop { r with state:=.exhausted,pending:=some (zPq J) }))))
def FQ:Exit→Act→World→Prop:=fun _ _ _=>False
def RQ (J:Exit) (kN kJ:K):Exit→Act→World→Prop:=fun e _ w=>match e with
 | .normal=>kN w
 | .ret=>J = .ret∧kJ w
 | .exit i=>J = .exit i∧kJ w
 | _=>False
def Bx (kb k:K) (r:Option Nat) (P:Program) (body:Code) (Q:Exit→Act→World→Prop):Act→World→Prop:=fun a w=>k w∧∀ w,kb w→body.wpIn (fe r) 0 P Q a w
def Bj (BG:K→K) (r:Option Nat) (P:Program) (body:Code) (Q:Exit→Act→World→Prop):Act→World→Prop:=fun a w=>∃ k,BG k w∧∀ w,k w→body.wpIn (fe r) 0 P Q a w
def zZE:List Nat→List Value→List (Nat×Value)→List (Nat×Value)
 | p::ps,v::vs,σ=>zZE ps vs ((p,v)::σ)
 | _,_,σ=>σ
section
variable {P:Program} {dl:List Deferred} {n:Nat} {σ τ:List (Nat×Value)} {k kb:K} {r:Option Nat} {Q:Exit→Act→World→Prop} {body assign:Code} {a:Act} {w:World}
theorem zXF (h:G dl n σ kb (Cx r P body Q)):G dl n σ k (Bx kb k r P body Q):=fun a _ hs hk=>⟨hk,fun w hk=>h a w hs hk⟩
theorem zXG {BG:K→K} (h:G dl n σ k (Cx r P body Q)):G dl n σ (BG k) (Bj BG r P body Q):=fun a w hs hk=>⟨k,hk,fun w hk=>h a w hs hk⟩
theorem zXH {J:Exit} {kJ:K}:G dl n σ k (Ex (RQ J k kJ) .normal):=fun _ _ _ hk=>hk
theorem zXI {kN:K}:G dl n σ k (Ex (RQ .ret kN k) .ret):=fun _ _ _ hk=>⟨rfl,hk⟩
theorem zXJ {kN:K} {i:Nat}:G dl n σ k (Ex (RQ (.exit i) kN k) (.exit i)):=fun _ _ _ hk=>⟨rfl,hk⟩
theorem zMy:∀ (ps:List Nat) (vs:List Value) (σ:List (Nat×Value)) (t:Array Value),(ps.all fun p=>Nat.ble (p + 1) n) = true→Slots { tmps:=t,defers:=[] } n σ →
  Slots { tmps:=(ps.zip vs).foldl (fun t p=>t.setIfInBounds p.1 p.2) t,defers:=[] } n (zZE ps vs σ)
 | [],_,_,_,_,h=>h
 | p::ps,[],_,_,_,h=>h
 | p::ps,v::vs,σ,t,hp,h=>by
  simp only [List.all_cons,Bool.and_eq_true] at hp
  have h1:=h.put (Nat.le_of_ble_eq_true hp.1) v
  exact zMy ps vs _ _ hp.2 h1
theorem zG4 {α:Type} {g:Operand} {ps:List Tmp} {fv:Value} {J:Exit} {cX:α→List Value} {bk:(K→K)→K→K→α→K} {after afterJ:Nat→K}
  (h1:∀ (l:Nat) (BG:K→K) (KN KJ:K) (x:α),G [] n (zZE ps (cX x) σ) (bk BG KN KJ x) (Cx (some l) P assign (Exit.then (Bj BG (some l) P body (RQ J KN KJ)) FQ)))
  (h2:∀ D,G (zEz D) n σ (after D) (Ex Q .normal)) (h3:∀ D,G (zEz D) n σ (afterJ D) (Ex Q J)) (hg:ev σ g = some fv:=by rfl) (hp:(ps.all fun p=>Nat.ble (p + 1) n) = true:=by rfl) (hlen:∀ x,(cX x).length = ps.length:=by exact fun _=>rfl) (hJ:J = .ret∨∃ i,J = .exit i:=by first | exact .inl rfl | exact .inr ⟨_,rfl⟩) :
  G [] n σ (jE P fv J cX bk after afterJ) (Cx none P (.rangeFunc g ps.toArray assign body) Q):=fun a w hs ⟨gf,cs,hfv,hcb,h⟩=>by
 show (Code.rangeFunc g ps.toArray assign body).wpIn Fence.wide 0 P Q a w
 refine wpIn_rangeFunc fun fn hfn=>?_
 obtain ⟨r,hr⟩:∃ r:Loop,r = { state:=.ready,pending:=none,fn,tmps:=a.tmps,params:=ps.toArray,assign,body,defers:=w.heap.size }:=⟨_,rfl⟩
 have hh:=h r _ (by rw [hr]) (by rw [hr]) (by rw [hr]) rfl
 refine ⟨w.heap.size + 1,zEz w.heap.size,(w.alloc (.deferred (some []))).alloc (.loop r),{ target:=.fn (.func gf) cs,args:=#[.func (.yield (w.heap.size + 1)) #[] #[]] },(w.alloc (.deferred (some []))).alloc (.loop r),gf,
  (yv (w.heap.size + 1)::cs.toList).toArray,(w.alloc (.deferred (some []))).alloc (.loop r),?_,?_,fun _ _=>trivial,?_,(fun h=>by cases h),?_⟩
 ·rw [hr]; exact run_enterLoop_outer _ _ _ _ _
 ·have he:a.eval g = .func (.func gf) #[] cs:=by rw [← hfv]; exact hs.1.ev hg
  simp only [resolve,he]
  simp [go_sem]
 ·simp [invoke,zCx hcb]
 ·refine zFV zGw rfl ((hh ?_).mono fun e w3 he=>?_)
  ·intro x kN kJ W hl hb
   refine ⟨fn,_,assign,body,(run_yield (P:=P) (args:=(cX x).toArray) hl (by rw [hr]; simp [hlen])).trans (by rw [hr]),?_⟩
   refine roundIn_of_wpIn trivial ?_
   have hs1:=zMy ps (cX x) σ a.tmps hp (show Slots { tmps:=a.tmps,defers:=[] } n σ from by have:=hs.1; exact this)
   have h4:=h1 (w.heap.size + 1) _ _ _ x { tmps:=(ps.zip (cX x)).foldl (fun t p=>t.setIfInBounds p.1 p.2) a.tmps,defers:=[] } W ⟨hs1,rfl⟩ hb
   have h5:assign.wpIn (Fence.wide.inRound (w.heap.size + 1)) 0 P (Exit.then (Bj (zLG (w.heap.size + 1) r) (some (w.heap.size + 1)) P body (RQ J (zNq (w.heap.size + 1) { r with state:=.busy } kN) (zPr (w.heap.size + 1) { r with state:=.busy } J kJ))) FQ)
     { tmps:=(ps.toArray.zip (cX x).toArray).foldl (fun t p=>t.setIfInBounds p.1 p.2) a.tmps,defers:=[] } W:=by
    have:(ps.toArray.zip (cX x).toArray).foldl (fun t p=>t.setIfInBounds p.1 p.2) a.tmps = (ps.zip (cX x)).foldl (fun t p=>t.setIfInBounds p.1 p.2) a.tmps:=by simp
    rw [this]; exact h4
   refine wpIn_mono h5 fun e a2 w2 hq=>?_
   cases e with
   | normal=>
    obtain ⟨kk,hk,hbd⟩:=hq
    refine ⟨_,run_beginRound hk.1 (by rw [hr]),?_⟩
    refine wpIn_mono (hbd _ hk.2) fun e a3 w3 hq=>?_
    cases e with
    | normal=>
     obtain ⟨h3,h4⟩:=hq
     exact ⟨_,_,run_endRound none h3,.inl ⟨rfl,h4⟩⟩
    | ret=>
     obtain ⟨rfl,h3,h4⟩:=hq
     exact ⟨_,_,run_endRound (some .ret) h3,.inr ⟨rfl,h4⟩⟩
    | exit i=>
     obtain ⟨rfl,h3,h4⟩:=hq
     exact ⟨_,_,run_endRound (some (.exit i)) h3,.inr ⟨rfl,h4⟩⟩
    | goto t=>exact hq.elim
    | panic c=>exact hq.elim
    | outgrown=>exact hq.elim
   | _=>exact hq.elim
  ·cases e with
   | returned v=>
    have hn:r.pending = none:=by rw [hr]
    rcases he with ⟨h3',h4⟩ | ⟨h3',h4⟩
    ·refine ⟨_,_,run_endLoop h3' (by rw [hr]; simp),?_⟩
     have h5:=h2 _ { a with defers:=zEz w.heap.size++a.defers } _ ⟨hs.1,by simp [hs.2,zEz]⟩ h4
     rw [hn] at h5 ⊢
     exact h5
    ·refine ⟨_,_,run_endLoop h3' (by simp),?_⟩
     have h5:=h3 _ { a with defers:=zEz w.heap.size++a.defers } _ ⟨hs.1,by simp [hs.2,zEz]⟩ h4
     rcases hJ with rfl | ⟨i,rfl⟩
     ·exact wpIn_ret h5
     ·exact wpIn_exit h5
   | panicked c=>exact he.elim
   | outgrown=>exact he.elim
theorem zG5 {α:Type} {g:Operand} {p:Tmp} {fv:Value} {cX:α→Value} {bk:K→α→K} {after:Nat→K}
  (h1:∀ (l:Nat) (KN:K) (x:α) (k1:K),G [] n ((p,cX x)::σ) k1 (Cx (some l) P assign (Exit.then (Bx (bk KN x) k1 (some l) P body (RQ .normal KN Dead)) FQ)))
  (h2:∀ D,G (zEz D) n σ (after D) (Ex Q .normal)) (hg:ev σ g = some fv:=by rfl) (hp:Nat.ble (p + 1) n = true:=by rfl) :
  G [] n σ (jN P fv cX bk after) (Cx none P (.rangeFunc g #[p] assign body) Q):=fun a w hs ⟨gf,cs,hfv,hcb,h⟩=>by
 show (Code.rangeFunc g #[p] assign body).wpIn Fence.wide 0 P Q a w
 refine wpIn_rangeFunc fun fn hfn=>?_
 obtain ⟨r,hr⟩:∃ r:Loop,r = { state:=.ready,pending:=none,fn,tmps:=a.tmps,params:=#[p],assign,body,defers:=w.heap.size }:=⟨_,rfl⟩
 have hh:=h r _ (by rw [hr]) (by rw [hr]) (by rw [hr]) rfl
 refine ⟨w.heap.size + 1,zEz w.heap.size,(w.alloc (.deferred (some []))).alloc (.loop r),{ target:=.fn (.func gf) cs,args:=#[.func (.yield (w.heap.size + 1)) #[] #[]] },(w.alloc (.deferred (some []))).alloc (.loop r),gf,
  (yv (w.heap.size + 1)::cs.toList).toArray,(w.alloc (.deferred (some []))).alloc (.loop r),?_,?_,fun _ _=>trivial,?_,(fun h=>by cases h),?_⟩
 ·rw [hr]; exact run_enterLoop_outer _ _ _ _ _
 ·have he:a.eval g = .func (.func gf) #[] cs:=by rw [← hfv]; exact hs.1.ev hg
  simp only [resolve,he]
  simp [go_sem]
 ·simp [invoke,zCx hcb]
 ·refine zFV zGw rfl ((hh ?_).mono fun e w3 he=>?_)
  ·intro x kN W hl hb
   refine ⟨fn,_,assign,body,(run_yield (P:=P) (args:=#[cX x]) hl (by rw [hr]; rfl)).trans (by rw [hr]),?_⟩
   refine roundIn_of_wpIn trivial ?_
   have hs1:jM [] { tmps:=a.tmps.setIfInBounds p (cX x),defers:=[] } n ((p,cX x)::σ):=by
    have:=hs.1.put (Nat.le_of_ble_eq_true hp) (cX x)
    exact ⟨this,rfl⟩
   have h4:=h1 (w.heap.size + 1) (zNq (w.heap.size + 1) { r with state:=.busy } kN) x (fun w=>w = W) _ W hs1 rfl
   refine wpIn_mono (show assign.wpIn (Fence.wide.inRound (w.heap.size + 1)) 0 P _ _ W from by simp only [Cx] at h4; simpa using h4) fun e a2 w2 hq=>?_
   cases e with
   | normal=>
    obtain ⟨rfl,hbd⟩:=hq
    refine ⟨_,run_beginRound hl (by rw [hr]),?_⟩
    refine wpIn_mono (hbd _ hb) fun e a3 w3 hq=>?_
    cases e with
    | normal=>
     obtain ⟨h3,h4⟩:=hq
     exact ⟨_,_,run_endRound none h3,rfl,h4⟩
    | ret=>exact absurd hq.1 (by simp)
    | exit i=>exact absurd hq.1 (by simp)
    | _=>exact hq.elim
   | _=>exact hq.elim
  ·cases e with
   | returned v=>
    have hn:r.pending = none:=by rw [hr]
    obtain ⟨h3,h4⟩:=he
    refine ⟨_,_,run_endLoop h3 (by rw [hr]; simp),?_⟩
    have h5:=h2 _ { a with defers:=zEz w.heap.size++a.defers } _ ⟨hs.1,by simp [hs.2,zEz]⟩ h4
    rw [hn] at h5 ⊢
    exact h5
   | panicked c=>exact he.elim
   | outgrown=>exact he.elim
end
end
section
open Go
def opb:Builtin→Nat
 | .len=>20
 | .max | .min=>21
 | _=>22
def opc:Op→Nat
 | .move _ | .assign _=>0
 | .pick _ _ _=>1
 | .nilCheck _=>2
 | .fieldAddr _ _ _=>3
 | .extract _ _=>4
 | .makeFunc _ _ _=>5
 | .unOp o _ _=>match o with
  | .not=>6
  | _=>7
 | .binOp o _ _ _ _=>match o with
  | .add | .sub | .mul | .and | .or | .xor=>8
  | .shl | .shr | .quo | .rem | .andNot=>9
  | _=>10
 | .convert _ _ _=>11
 | .build _ _=>12
 | .load _ _=>13
 | .lookup _ _ _ _=>14
 | .alloc _ | .box _ _=>15
 | .buildSlice _ _ _=>16
 | .store _ _ _=>17
 | .mapUpdate _ _ _ _=>18
 | .call c=>match c.callee with
  | .builtin b=>opb b
  | _=>19
 | .makeMap _ _ | .makeSlice _ _ _=>23
 | .range _ _ | .next _ _ | .entry _=>24
 | .makeInterface _ _=>25
 | .field _ _ _=>26
 | .index _ _ _ | .indexAddr _ _ _=>27
 | .slice _ _ _ _ _=>28
 | _=>99
def opi (ops:Array Oper) (i:Nat):Nat:=match ops[i]? with
 | some o=>opc o.op
 | none=>98
section
variable {P:Program} {dl:List Deferred} {n:Nat} {σ:List (Nat×Value)} {k:K} {r:Option Nat} {ops:Array Oper} {Q:Exit→Act→World→Prop} {l:List Oper} {o:Oper} {S:World→Prop} {ds done is:List Nat} {i tag:Nat} {t:Scr} {c x y:Code} {e:Exit} {kk:Value→K} {u:Operand}
theorem zSm (h:G dl n σ k (Tx r P ops Q l)):G dl n σ k (Tx r P ops Q l):=h
theorem zSn (h:G dl n σ k (Cx r P c Q)):G dl n σ k (Cx r P c Q):=h
theorem zSo (h:G dl n σ k (Ex Q e)):G dl n σ k (Ex Q e):=h
theorem zSp {rs:List ResultVar} {vs:List Value} (h:G dl n σ k (Rx P kk rs vs)):G dl n σ k (Rx P kk rs vs):=h
theorem zSq {q:K} (h:G dl n σ k (Fx q)):G dl n σ k (Fx q):=h
theorem zSr (h:G dl n σ k (Dx P ops Q S ds done t)):G dl n σ k (Dx P ops Q S ds done t):=h
theorem zSs (h:G dl n σ k (Ox P ops Q S ds done i tag t)):G dl n σ k (Ox P ops Q S ds done i tag t):=h
theorem zSt (h:G dl n σ k (Sx P ops Q l)):G dl n σ k (Sx P ops Q l):=h
theorem zSu {α:Type} {S:α→List (Nat×Value)} {X:α→K} (h:G dl n σ k (Lx dl n S X)):G dl n σ k (Lx dl n S X):=h
theorem zOS (h:G dl n σ k (Cx r P (.seq x y) Q)):G dl n σ k (Cx r P (.seq x y) Q):=h
theorem zKh (h:G dl n σ k (Cx r P (.cond u x y) Q)):G dl n σ k (Cx r P (.cond u x y) Q):=h
theorem zKi (h:G dl n σ k (Cx r P (.region i ops true) Q)):G dl n σ k (Cx r P (.region i ops true) Q):=h
theorem qG (c:Nat) (h:G dl n σ k (Tx r P ops Q (o::l))) (hc:opc o.op = c):G dl n σ k (Tx r P ops Q (o::l)):=h
theorem xw (c:Nat) (h:G dl n σ k (Sx P ops Q (o::l))) (hc:opc o.op = c):G dl n σ k (Sx P ops Q (o::l)):=h
theorem x9 (c:Nat) (h:G dl n σ k (Dx P ops Q S ds done (.s (i::is) t))) (hc:opi ops i = c):G dl n σ k (Dx P ops Q S ds done (.s (i::is) t)):=h
theorem jY (c:Nat) (h:G dl n σ k (Ox P ops Q S ds done i tag t)) (hc:opi ops i = c):G dl n σ k (Ox P ops Q S ds done i tag t):=h
theorem zSv (h:G dl n σ k (Tx r P ops Q (o::l))) (hc:o.guard.isSome = true):G dl n σ k (Tx r P ops Q (o::l)):=h
theorem zSw (h:G dl n σ k (Sx P ops Q (o::l))) (hc:o.guard.isSome = true):G dl n σ k (Sx P ops Q (o::l)):=h
theorem zOT (h:G dl n σ k (Dx P ops Q S ds done (.s (i::is) t))) (hc:(ops[i]?).map (fun o=>o.guard.isSome) = some true):G dl n σ k (Dx P ops Q S ds done (.s (i::is) t)):=h
theorem zG6 {b:Bool} {kx ky:K} (h1:G dl n σ kx (Cx r P x Q)) (h2:G dl n σ ky (Cx r P y Q)) (he:ev σ u = some (.bool b)):G dl n σ (Ite b kx ky) (Cx r P (.cond u x y) Q):=zW5 h1 h2 he
theorem zOU {d:Nat} {u v0:Value} {X1:Act→World→Prop} (h:G dl n ((d,v0)::σ) (Al S k) X1):G dl n ((d,u)::σ) (Al S (jI v0 k u)) X1:=fun a w hs ⟨hS,hu,hk⟩=>h a w (hu ▸ hs) ⟨hS,hk⟩
theorem zFt {v:Value} (h:Pure P σ o v:=by first | exact zUm rfl rfl | exact zPO rfl rfl):Pure P σ o v:=h
theorem zFu {v:Value} (h:Pure P σ o v:=by first | exact zPP rfl rfl rfl | exact zPQ rfl rfl rfl | exact zPR rfl rfl rfl rfl):Pure P σ o v:=h
theorem zFv {v:Value} (h:Pure P σ o v:=by first | exact zYG rfl rfl | exact zUn rfl rfl):Pure P σ o v:=h
theorem zFw {v:Value} (h:Pure P σ o v:=by first | exact zIQ rfl rfl | exact zJs rfl rfl):Pure P σ o v:=h
theorem zFx {v:Value} (h:Pure P σ o v:=by exact zMt rfl rfl rfl):Pure P σ o v:=h
theorem zFy {v:Value} (h:Pure P σ o v:=by exact zK5 rfl rfl rfl):Pure P σ o v:=h
theorem zFz {v:Value} (h:Pure P σ o v:=by exact zYU rfl rfl):Pure P σ o v:=h
theorem zDz {v:Value} (h:Pure P σ o v:=by first | exact zZz rfl rfl rfl | exact zZ0 rfl rfl rfl | exact zZ1 rfl rfl rfl | exact zZ2 rfl rfl rfl | exact zZ3 rfl rfl rfl | exact zZ4 rfl rfl rfl | exact zYV rfl rfl rfl | exact zYW rfl rfl rfl | exact zYX rfl rfl rfl | exact zYY rfl rfl rfl | exact zYc rfl rfl rfl | exact zYd rfl rfl rfl | exact zPY rfl rfl rfl | exact zPZ rfl rfl rfl | exact zSO rfl rfl rfl | exact zSP rfl rfl rfl | exact zYa rfl rfl rfl | exact zYb rfl rfl rfl):Pure P σ o v:=h
theorem zD0 {v:Value} (h:Pure P σ o v:=by exact zLB rfl rfl):Pure P σ o v:=h
theorem zD1 {v:Value} (h:Pure P σ o v:=by exact zSQ rfl rfl rfl rfl (by kernel_rfl)):Pure P σ o v:=h
theorem zD2 {v:Value} (h:Pure P σ o v:=by first | exact q_len rfl rfl | exact zUz rfl rfl):Pure P σ o v:=h
theorem zD3 {v:Value} (h:Pure P σ o v:=by exact zPX rfl rfl):Pure P σ o v:=h
theorem zB7 {α:Type} {k:K} {vx:α→Value} {k1:α→K} (h:WP P σ o k vx k1:=by exact zU5 rfl rfl):WP P σ o k vx k1:=h
theorem zB8 {α:Type} {k:K} {vx:α→Value} {k1:α→K} (h:WP P σ o k vx k1:=by exact zPa (by first | exact zYQ rfl rfl | exact zYR rfl rfl)):WP P σ o k vx k1:=h
theorem zB9 {α:Type} {k:K} {vx:α→Value} {k1:α→K} (h:WP P σ o k vx k1:=by first | exact zPa (by first | exact zYH rfl rfl rfl | exact zYI rfl rfl rfl | exact zYJ rfl rfl rfl | exact zYM rfl rfl rfl | exact zZ5 rfl rfl rfl | exact zYN rfl rfl rfl) | exact zU3 rfl rfl rfl):WP P σ o k vx k1:=h
theorem zCA {α:Type} {k:K} {vx:α→Value} {k1:α→K} (h:WP P σ o k vx k1:=by exact zSR (fun h0=>by first | exact zYO rfl rfl rfl h0 | exact zYP rfl rfl rfl h0 | exact zYK rfl rfl rfl h0 | exact zYL rfl rfl rfl h0)):WP P σ o k vx k1:=h
theorem zA1 {α:Type} {k:K} {vx:α→Value} {k1:α→K} (h:WP P σ o k vx k1:=by exact zU4 (zPj rfl rfl rfl)):WP P σ o k vx k1:=h
theorem zA2 {α:Type} {k:K} {vx:α→Value} {k1:α→K} (h:WP P σ o k vx k1:=by exact zPa (zLC rfl rfl)):WP P σ o k vx k1:=h
theorem zA3 {α:Type} {k:K} {vx:α→Value} {k1:α→K} (h:WP P σ o k vx k1:=by first | exact zU6 rfl rfl rfl | exact zU4 (zMw rfl rfl)):WP P σ o k vx k1:=h
theorem zA4 {α:Type} {k:K} {vx:α→Value} {k1:α→K} (h:WP P σ o k vx k1:=by exact zPa (by first | exact zYS _ rfl rfl rfl | exact zYT _ rfl rfl rfl)):WP P σ o k vx k1:=h
theorem zA5 {α:Type} {k:K} {vx:α→Value} {k1:α→K} (h:WP P σ o k vx k1:=by exact zU1 rfl rfl):WP P σ o k vx k1:=h
theorem zA6 {α:Type} {k:K} {vx:α→Value} {k1:α→K} (h:WP P σ o k vx k1:=by first | exact zU0 rfl rfl rfl | exact zST rfl rfl rfl | exact zSS rfl rfl rfl):WP P σ o k vx k1:=h
theorem zA7 {α:Type} {k:K} {vx:α→Value} {k1:α→K} (h:WP P σ o k vx k1:=by first | exact zU2 rfl rfl (by first | exact rfl | exact ⟨_,rfl⟩) (by first | exact rfl | exact ⟨_,rfl⟩) (by first | exact rfl | exact ⟨_,rfl⟩) rfl | exact zSU rfl rfl (by first | exact rfl | exact ⟨_,rfl⟩) (by first | exact rfl | exact ⟨_,rfl⟩)):WP P σ o k vx k1:=h
theorem jr {α:Type} {k:K} {vx:α→Value} {k1:α→K} (h:WR P σ o k vx k1:=by exact zAg (zDR rfl rfl)):WR P σ o k vx k1:=h
theorem jv {α:Type} {k:K} {vx:α→Value} {k1:α→K} (h:WR P σ o k vx k1:=by first | exact zYe rfl rfl | exact zU7 rfl rfl):WR P σ o k vx k1:=h
theorem jw {α:Type} {k:K} {vx:α→Value} {k1:α→K} (h:WR P σ o k vx k1:=by exact zAg (zNw rfl rfl rfl)):WR P σ o k vx k1:=h
theorem jy {α:Type} {k:K} {vx:α→Value} {k1:α→K} (h:WR P σ o k vx k1:=by exact zAg (zNv rfl rfl)):WR P σ o k vx k1:=h
theorem zCW {α:Type} {k:K} {vx:α→Value} {k1:α→K} (h:WE P σ o k vx k1:=by exact zPd (zDR rfl rfl)):WE P σ o k vx k1:=h
theorem zCX {α:Type} {k:K} {vx:α→Value} {k1:α→K} (h:WE P σ o k vx k1:=by first | exact zU9 rfl rfl rfl | exact zPb rfl rfl):WE P σ o k vx k1:=h
theorem zCY {α:Type} {k:K} {vx:α→Value} {k1:α→K} (h:WE P σ o k vx k1:=by first | exact zPc rfl rfl rfl rfl (by kernel_rfl) | exact zJu rfl rfl rfl (by kernel_rfl)):WE P σ o k vx k1:=h
theorem uw {α:Type} {k:K} {vx:α→Value} {k1:α→K} (h:WE P σ o k vx k1:=by exact zPd (by first | exact zMu rfl rfl rfl rfl | exact zSW rfl rfl rfl rfl | exact zMv rfl rfl rfl rfl | exact zVD rfl rfl rfl | exact zPg rfl rfl rfl)):WE P σ o k vx k1:=h
theorem zCZ {α:Type} {k:K} {vx:α→Value} {k1:α→K} (h:WE P σ o k vx k1:=by exact zPd (by first | exact zLE rfl | exact zIR rfl rfl rfl)):WE P σ o k vx k1:=h
theorem zCa {α:Type} {k:K} {vx:α→Value} {k1:α→K} (h:WE P σ o k vx k1:=by exact zPd (by first | exact zSX rfl rfl rfl | exact zPh rfl rfl | exact zPi rfl rfl)):WE P σ o k vx k1:=h
theorem zCb {k k1:K} (h:WK P σ o k k1:=by first | exact zYg rfl rfl rfl | exact zVB rfl rfl rfl):WK P σ o k k1:=h
theorem zCc {k k1:K} (h:WK P σ o k k1:=by exact zPe (zIS rfl rfl rfl rfl)):WK P σ o k k1:=h
theorem j3 {k:K} {kk:Value→K} (h:WC P σ o k kk:=by first | exact zSV rfl rfl rfl rfl | exact zPf rfl rfl rfl rfl | exact zYh rfl rfl rfl):WC P σ o k kk:=h
theorem zKj {S:World→Prop} {α:Type} {k:K} {vx:α→Value} {k1:α→K} (h:WS P S σ o k vx k1:=by exact zJt (zDR rfl rfl)):WS P S σ o k vx k1:=h
theorem zKk {S:World→Prop} {α:Type} {k:K} {vx:α→Value} {k1:α→K} (h:WS P S σ o k vx k1:=by first | exact zYf rfl rfl | exact zU8 rfl rfl):WS P S σ o k vx k1:=h
theorem zKl {S:World→Prop} {α:Type} {k:K} {vx:α→Value} {k1:α→K} (h:WS P S σ o k vx k1:=by exact zJt (zNw rfl rfl rfl)):WS P S σ o k vx k1:=h
theorem zKm {S:World→Prop} {α:Type} {k:K} {vx:α→Value} {k1:α→K} (h:WS P S σ o k vx k1:=by exact zJt (zNv rfl rfl)):WS P S σ o k vx k1:=h
end
set_option maxRecDepth 100000 in
theorem zO {P:Program} {f:FuncId} {fn:Func} {c:Code} {args:List Value} {kk:Value→K} {k:K} (n:Nat) {w:World} (hk:k w) (hf:P.funcs[f]? = some fn) (hb:fn.body = some c:=by rfl) (hn:fn.ntmps = n:=by rfl) (hl:Nat.ble args.length n = true:=by rfl)
  (h:G [] n (zPn 0 args) k (Cx none P c (zA9 P fn (Ret kk))):=by
   repeat' first
   | intro _
   | (refine zSm ?_; first
     | refine zN2 ?_
     | (refine zSv ?_ rfl; first | refine zSY ?_ | refine zNz ?_)
     | (refine qG 0 ?_ rfl; refine zAP (hp:=by exact zFt) ?_)
     | (refine qG 2 ?_ rfl; first | refine zAP (hp:=by exact zFv) ?_ | (refine zFr ?_; intro b hb; subst hb) | (refine zFs ?_; intro g fs cs hf cb; subst hf))
     | (refine qG 3 ?_ rfl; refine zAP (hp:=by exact zFw) ?_)
     | (refine qG 13 ?_ rfl; refine zAh (hp:=by exact jv) ?_)
     | (refine qG 19 ?_ rfl; first | (refine zSZ (hp:=by exact j3) ?_; intro u; first | refine zHR ?_ | refine zHQ ?_ | refine zCo ?_ | refine zHS ?_ | refine zHT ?_ | refine zHU ?_) | refine zAh (hp:=by exact zAg (zNu rfl rfl rfl)) ?_ | (refine zN1 (hp:=by exact j3) ?_; intro u; first | refine zN3 ?_ | refine zPl ?_ | refine zPm ?_ | skip) | (refine zSa ?_; intro u; first | refine zHR ?_ | refine zHQ ?_ | refine zCo ?_ | refine zHS ?_ | refine zHT ?_ | refine zHU ?_))
     | (refine qG 10 ?_ rfl; first | refine zAP (hp:=by exact zDz) ?_ | refine uF (hp:=by exact zA1) ?_)
     | (refine qG 8 ?_ rfl; refine uF (hp:=by exact zB9) ?_)
     | (refine qG 20 ?_ rfl; first | refine zAP (hp:=by exact zD2) ?_ | refine zAh (hp:=by exact jw) ?_)
     | (refine qG 27 ?_ rfl; refine uF (hp:=by exact zA6) ?_)
     | (refine qG 4 ?_ rfl; first | refine zAP (hp:=by exact zFx) ?_ | refine uF (hp:=by exact zB7) ?_)
     | (refine qG 17 ?_ rfl; refine zIW (hp:=by exact zCb) ?_)
     | (refine qG 1 ?_ rfl; refine zAP (hp:=by exact zFu) ?_)
     | (refine qG 6 ?_ rfl; refine zAP (hp:=by exact zFz) ?_)
     | (refine qG 15 ?_ rfl; refine zBO (hp:=by exact zCX) ?_)
     | (refine qG 16 ?_ rfl; refine zBO (hp:=by exact zCY) ?_)
     | (refine qG 22 ?_ rfl; first | refine zBO (hp:=by exact uw) ?_ | refine zN0 (hp:=by exact uw) ?_)
     | (refine qG 28 ?_ rfl; refine uF (hp:=by exact zA7) ?_)
     | (refine qG 11 ?_ rfl; first | refine uF (hp:=by exact zA2) ?_ | refine zAP (hp:=by exact zD0) ?_ | refine zAh (hp:=by exact jr) ?_ | refine zBO (hp:=by exact zCW) ?_)
     | (refine qG 26 ?_ rfl; first | refine uF (hp:=by exact zA5) ?_ | refine zAP (hp:=by exact zD3) ?_)
     | (refine qG 12 ?_ rfl; first | refine uF (hp:=by exact zA3) ?_ | refine zAP (hp:=by exact zD1) ?_)
     | (refine qG 5 ?_ rfl; refine zAP (hp:=by exact zFy) ?_)
     | (refine qG 7 ?_ rfl; refine uF (hp:=by exact zB8) ?_)
     | (refine qG 9 ?_ rfl; refine uF (hp:=by exact zCA) ?_)
     | (refine qG 14 ?_ rfl; first | refine zAh (hp:=by exact zAg (yC rfl rfl rfl)) ?_ | (refine zAh (hp:=by exact zAr (yC rfl rfl rfl)) ?_; intro u; refine zCo ?_))
     | (refine qG 18 ?_ rfl; refine zIW (hp:=by exact zCc) ?_)
     | (refine qG 21 ?_ rfl; refine uF (hp:=by exact zA4) ?_)
     | (refine qG 23 ?_ rfl; refine zBO (hp:=by exact zCZ) ?_)
     | (refine qG 24 ?_ rfl; refine zBO (hp:=by exact zCa) ?_)
     | (refine qG 25 ?_ rfl; refine zAh (hp:=by exact jy) ?_)
     | (refine zN4 ?_ ?_ <;> (intro hb; refine zA0 ?_; intro a w hs; try rw [hb] at hs; clear hb; revert hs; revert w; revert a; refine zB6 ?_)))
   | (refine zSn ?_; first
     | refine zN7 ?_
     | (refine zOS ?_; first | (refine zKY ?_; (repeat apply zW4); refine And.intro zET (And.intro ?_ ?_)) | refine zN5 ?_)
     | refine zG6 ?_ ?_ rfl
     | refine zKZ ?_
     | refine zN6 ?_
     | refine zIY ?_
     | refine zKa ?_
     | refine zKb ?_
     | (refine zKh ?_; first | refine zG0 ?_ | refine zG1 ?_)
     | (refine zKi ?_; first | refine zIf ?_ | refine zIe ?_ | refine zIg ?_ | refine zIh ?_)
     | refine zIX ?_
     | refine zG5 ?_ ?_
     | refine zG4 ?_ ?_ ?_
     | refine jq ?_)
   | (refine zSo ?_; first
     | refine zKc ?_
     | refine zG3 ?_
     | refine zG2 ?_
     | refine zN9 ?_
     | refine zIZ ?_
     | refine zIa ?_
     | refine zIb ?_
     | refine zKd ?_
     | refine zQ7 ?_
     | refine zQ8 ?_
     | exact zXH
     | exact zXI
     | exact zXJ
     | refine jq ?_)
   | exact zKW
   | refine zSb ?_
   | (refine zSp ?_; first
     | refine zOB ?_
     | refine zOC ?_
     | refine zKe ?_
     | refine zIc ?_)
   | (refine zSq ?_; first
     | exact zW7
     | exact zW6
     | exact zW8
     | exact zW9
     | exact zXA
     | exact zXB)
   | (refine zSr ?_; first
     | refine zOH ?_
     | refine zOI ?_
     | refine zXC ?_
     | (refine zKf ?_ ?_ <;> (intro hb; refine zA0 ?_; intro a w hs; try rw [hb] at hs; clear hb; revert hs; revert w; revert a; refine zB6 ?_))
     | (refine zOJ ?_ ?_ <;> (intro hb; refine zA0 ?_; intro a w hs; try rw [hb] at hs; clear hb; revert hs; revert w; revert a; refine zB6 ?_))
     | (refine zOT ?_ rfl; first | refine zSf ?_ | refine zOG ?_)
     | (refine x9 0 ?_ rfl; refine zAQ (hp:=by exact zFt) ?_)
     | (refine x9 2 ?_ rfl; first | refine zAQ (hp:=by exact zFv) ?_ | (refine zSg ?_; intro b hb; subst hb) | (refine zFr ?_; intro b hb; subst hb) | (refine zSh ?_; intro g fs cs hf cb; subst hf) | (refine zFs ?_; intro g fs cs hf cb; subst hf))
     | (refine x9 3 ?_ rfl; refine zAQ (hp:=by exact zFw) ?_)
     | (refine x9 13 ?_ rfl; first | refine zBc (hp:=by exact jv) ?_ | refine zEG (hp:=by exact zKk) ?_)
     | (refine x9 10 ?_ rfl; first | refine zAQ (hp:=by exact zDz) ?_ | refine xO (hp:=by exact zA1) ?_ | refine uG (hp:=by exact zA1) ?_)
     | (refine x9 8 ?_ rfl; first | refine xO (hp:=by exact zB9) ?_ | refine uG (hp:=by exact zB9) ?_)
     | (refine x9 20 ?_ rfl; first | refine zAQ (hp:=by exact zD2) ?_ | refine zBc (hp:=by exact jw) ?_ | refine zEG (hp:=by exact zKl) ?_)
     | (refine x9 27 ?_ rfl; first | refine xO (hp:=by exact zA6) ?_ | refine uG (hp:=by exact zA6) ?_)
     | (refine x9 4 ?_ rfl; first | refine zAQ (hp:=by exact zFx) ?_ | refine xO (hp:=by exact zB7) ?_ | refine uG (hp:=by exact zB7) ?_)
     | (refine x9 1 ?_ rfl; refine zAQ (hp:=by exact zFu) ?_)
     | (refine x9 6 ?_ rfl; refine zAQ (hp:=by exact zFz) ?_)
     | (refine x9 28 ?_ rfl; first | refine xO (hp:=by exact zA7) ?_ | refine uG (hp:=by exact zA7) ?_)
     | (refine x9 11 ?_ rfl; first | refine xO (hp:=by exact zA2) ?_ | refine uG (hp:=by exact zA2) ?_ | refine zAQ (hp:=by exact zD0) ?_ | refine zBc (hp:=by exact jr) ?_ | refine zEG (hp:=by exact zKj) ?_)
     | (refine x9 26 ?_ rfl; first | refine xO (hp:=by exact zA5) ?_ | refine uG (hp:=by exact zA5) ?_ | refine zAQ (hp:=by exact zD3) ?_)
     | (refine x9 12 ?_ rfl; first | refine xO (hp:=by exact zA3) ?_ | refine uG (hp:=by exact zA3) ?_ | refine zAQ (hp:=by exact zD1) ?_)
     | (refine x9 5 ?_ rfl; refine zAQ (hp:=by exact zFy) ?_)
     | (refine x9 7 ?_ rfl; first | refine xO (hp:=by exact zB8) ?_ | refine uG (hp:=by exact zB8) ?_)
     | (refine x9 9 ?_ rfl; first | refine xO (hp:=by exact zCA) ?_ | refine uG (hp:=by exact zCA) ?_)
     | (refine x9 14 ?_ rfl; first | refine zBc (hp:=by exact zAg (yC rfl rfl rfl)) ?_ | (refine zBc (hp:=by exact zAr (yC rfl rfl rfl)) ?_; intro u; refine zBl ?_) | refine zEG (hp:=by exact zJt (yC rfl rfl rfl)) ?_ | (refine zEG (hp:=by exact zLD (yC rfl rfl rfl)) ?_; intro u; refine zBl ?_))
     | (refine x9 21 ?_ rfl; first | refine xO (hp:=by exact zA4) ?_ | refine uG (hp:=by exact zA4) ?_)
     | (refine x9 25 ?_ rfl; first | refine zBc (hp:=by exact jy) ?_ | refine zEG (hp:=by exact zKm) ?_)
     | refine jq ?_)
   | (refine zSs ?_; first
     | (refine jY 13 ?_ rfl; first | refine zAE (hp:=by exact jv) ?_ | refine zBe (hp:=by exact jv) ?_)
     | (refine jY 19 ?_ rfl; first | (refine zSk (hp:=by exact j3) ?_; intro u; first | refine zOK ?_ | refine zOU ?_ | refine zBl ?_) | (refine zXD (hp:=by exact j3) ?_; intro u; first | refine zHR ?_ | refine zHQ ?_ | refine zCo ?_ | refine zHS ?_ | refine zHT ?_ | refine zHU ?_) | (refine zSj (hp:=by exact j3) ?_; intro u; first | refine zN3 ?_ | refine zPl ?_ | refine zPm ?_ | skip) | (refine zXE ?_; intro u; first | refine zHR ?_ | refine zHQ ?_ | refine zCo ?_ | refine zHS ?_ | refine zHT ?_ | refine zHU ?_))
     | (refine jY 20 ?_ rfl; first | refine zAE (hp:=by exact jw) ?_ | refine zBe (hp:=by exact jw) ?_)
     | (refine jY 17 ?_ rfl; first | refine zId (hp:=by exact zCb) ?_ | refine zOO (hp:=by exact zCb) ?_)
     | (refine jY 15 ?_ rfl; first | refine zBd (hp:=by exact zCX) ?_ | refine zDy (hp:=by exact zCX) ?_)
     | (refine jY 16 ?_ rfl; first | refine zBd (hp:=by exact zCY) ?_ | refine zDy (hp:=by exact zCY) ?_)
     | (refine jY 22 ?_ rfl; first | refine zBd (hp:=by exact uw) ?_ | refine zDy (hp:=by exact uw) ?_ | refine zOP (hp:=by exact uw) ?_ | refine zSi (hp:=by exact uw) ?_)
     | (refine jY 11 ?_ rfl; first | refine zBd (hp:=by exact zCW) ?_ | refine zDy (hp:=by exact zCW) ?_ | refine zAE (hp:=by exact jr) ?_ | refine zBe (hp:=by exact jr) ?_)
     | (refine jY 14 ?_ rfl; first | refine zAE (hp:=by exact zAg (yC rfl rfl rfl)) ?_ | (refine zAE (hp:=by exact zAr (yC rfl rfl rfl)) ?_; intro u; refine zBl ?_) | refine zBe (hp:=by exact zAg (yC rfl rfl rfl)) ?_ | (refine zBe (hp:=by exact zAr (yC rfl rfl rfl)) ?_; intro u; refine zCo ?_))
     | (refine jY 18 ?_ rfl; first | refine zId (hp:=by exact zCc) ?_ | refine zOO (hp:=by exact zCc) ?_)
     | (refine jY 23 ?_ rfl; first | refine zBd (hp:=by exact zCZ) ?_ | refine zDy (hp:=by exact zCZ) ?_)
     | (refine jY 24 ?_ rfl; first | refine zBd (hp:=by exact zCa) ?_ | refine zDy (hp:=by exact zCa) ?_)
     | (refine jY 25 ?_ rfl; first | refine zAE (hp:=by exact jy) ?_ | refine zBe (hp:=by exact jy) ?_)
     | refine jq ?_)
   | refine zKg ?_ ?_
   | refine zOL ?_ ?_
   | exact zOM
   | refine zON ?_
   | (refine zSu ?_; exact zN8)
   | (refine zSt ?_; first
     | refine zOR ?_
     | (refine zSw ?_ rfl; refine zSl ?_)
     | (refine xw 0 ?_ rfl; refine zAR (hp:=by exact zFt) ?_)
     | (refine xw 2 ?_ rfl; first | refine zAR (hp:=by exact zFv) ?_ | (refine zFr ?_; intro b hb; subst hb) | (refine zFs ?_; intro g fs cs hf cb; subst hf))
     | (refine xw 3 ?_ rfl; refine zAR (hp:=by exact zFw) ?_)
     | (refine xw 13 ?_ rfl; refine zBf (hp:=by exact jv) ?_)
     | (refine xw 10 ?_ rfl; first | refine zAR (hp:=by exact zDz) ?_ | refine uH (hp:=by exact zA1) ?_)
     | (refine xw 8 ?_ rfl; refine uH (hp:=by exact zB9) ?_)
     | (refine xw 20 ?_ rfl; first | refine zAR (hp:=by exact zD2) ?_ | refine zBf (hp:=by exact jw) ?_)
     | (refine xw 27 ?_ rfl; refine uH (hp:=by exact zA6) ?_)
     | (refine xw 4 ?_ rfl; first | refine zAR (hp:=by exact zFx) ?_ | refine uH (hp:=by exact zB7) ?_)
     | (refine xw 1 ?_ rfl; refine zAR (hp:=by exact zFu) ?_)
     | (refine xw 6 ?_ rfl; refine zAR (hp:=by exact zFz) ?_)
     | (refine xw 28 ?_ rfl; refine uH (hp:=by exact zA7) ?_)
     | (refine xw 11 ?_ rfl; first | refine uH (hp:=by exact zA2) ?_ | refine zAR (hp:=by exact zD0) ?_ | refine zBf (hp:=by exact jr) ?_)
     | (refine xw 26 ?_ rfl; first | refine uH (hp:=by exact zA5) ?_ | refine zAR (hp:=by exact zD3) ?_)
     | (refine xw 12 ?_ rfl; first | refine uH (hp:=by exact zA3) ?_ | refine zAR (hp:=by exact zD1) ?_)
     | (refine xw 5 ?_ rfl; refine zAR (hp:=by exact zFy) ?_)
     | (refine xw 7 ?_ rfl; refine uH (hp:=by exact zB8) ?_)
     | (refine xw 9 ?_ rfl; refine uH (hp:=by exact zCA) ?_)
     | (refine xw 14 ?_ rfl; first | refine zBf (hp:=by exact zAg (yC rfl rfl rfl)) ?_ | (refine zBf (hp:=by exact zAr (yC rfl rfl rfl)) ?_; intro u; refine zCo ?_))
     | (refine xw 21 ?_ rfl; refine uH (hp:=by exact zA4) ?_)
     | (refine xw 25 ?_ rfl; refine zBf (hp:=by exact jy) ?_)
     | (refine zOQ ?_ ?_ <;> (intro hb; refine zA0 ?_; intro a w hs; try rw [hb] at hs; clear hb; revert hs; revert w; revert a; refine zB6 ?_)))
   | refine zXF ?_
   | refine zXG ?_
   | exact zKX
   | refine jq ?_) :
  zK P f args.toArray kk w:=zOD n hk hf h hb hn hl
end
end Go.Sep
namespace Go.Proofs.YtdemfamgieonbaaGreat
section
open Go Go.Sep
abbrev zAs:Nat:=3
abbrev zKn:Nat:=4
abbrev yO:Nat:=5
abbrev uh:Nat:=9
abbrev zAi:Nat:=22
abbrev yg:Nat:=25
abbrev zDS:Nat:=29
abbrev zMz:Nat:=35
abbrev xW:Nat:=37
abbrev yT:Nat:=40
abbrev zPs:Nat:=42
abbrev qF:Nat:=48
abbrev zB0:Nat:=49
abbrev xG:Nat:=51
abbrev qE:Nat:=53
abbrev zBH:Nat:=56
abbrev zf:Nat:=76
abbrev yu:Nat:=84
abbrev zH3:Nat:=85
abbrev qA:Nat:=87
abbrev zGP:Nat:=95
abbrev zLH:Nat:=119
abbrev qw:Nat:=123
abbrev zDT:Nat:=130
abbrev zJH:Nat:=133
abbrev qB:Nat:=135
abbrev uW:Nat:=136
abbrev jf:Nat:=146
abbrev zIi:Nat:=151
abbrev xX:Nat:=173
abbrev qH:Nat:=180
abbrev uy:Nat:=191
abbrev qI:Nat:=194
abbrev zBm:Nat:=195
abbrev zCe:Nat:=196
abbrev jF:Nat:=198
abbrev uj:Nat:=200
abbrev zDm:Nat:=207
abbrev jK:Nat:=219
abbrev zE1:Nat:=222
abbrev qb:Nat:=224
abbrev zAK:Nat:=226
abbrev zCp:Nat:=256
abbrev zCq:Nat:=257
abbrev zCJ:Nat:=258
abbrev zDI:Nat:=260
abbrev zDJ:Nat:=262
abbrev uN:Nat:=319
abbrev zAj:Nat:=321
abbrev zDK:Nat:=331
theorem zDn:zBN Tryz.prog zAs (.int .i64 0):=⟨Tryz.t3,by kernel_rfl,by kernel_rfl⟩
theorem zMQ:zBN Tryz.prog yO (.int .u8 0):=⟨Tryz.t5,by kernel_rfl,by kernel_rfl⟩
theorem zLI:zBN Tryz.prog uh (.string ⟨#[]⟩):=⟨Tryz.t9,by kernel_rfl,by kernel_rfl⟩
theorem zH4:zBN Tryz.prog qA (.agg #[(.bool false),(Sl.val ⟨none,0,0⟩),(.int .i64 0),(.int .u64 0)]):=⟨Tryz.t87,by kernel_rfl,by kernel_rfl⟩
theorem zGQ:zBN Tryz.prog jK (.pointer none):=⟨Tryz.t219,by kernel_rfl,by kernel_rfl⟩
theorem mixed:Tryz.prog.follows .mixedOrders = true:=by kernel_rfl
end
end Go.Proofs.YtdemfamgieonbaaGreat
namespace Go.Sep
section
open Go
abbrev dfr (g:FuncId) (fs cs:Array Value) (vs:List Value):Deferred:={ target:=.fn (.func g) cs,args:=fs++vs.toArray }
def zPt (P:Program) (f:FuncId) (args:Array Value) (kk:Value→K):K:=fun w=>∀ u,CallsDIn Fence.wide 0 P f args u w fun e u' w'=>u' = u∧Ret kk e w'
section
variable {P:Program} {dl:List Deferred} {n:Nat} {σ:List (Nat×Value)} {k:K} {ops:Array Oper} {Q:Exit→Act→World→Prop} {l:List Oper} {o:Oper} {a:Act} {w:World}
theorem zPu {K1:Act→World→Prop} {x:Operand} {xs:Array Operand} {ts:Array TypeId} {g:FuncId} {fs cs:Array Value} {vs:List Value} (hs:jM dl a n σ) (ho:o.op = .defer { callee:=.value x,args:=xs,argTypes:=ts }) (hx:ev σ x = some (.func (.func g) fs cs)) (hv:evs σ xs.toList = some vs)
  (h:K1 ({ a with defers:=dfr g fs cs vs::a.defers }.put o.dst undef) w):o.wpIn (fe none) 0 P a w K1 Q:=by
 refine ⟨fun f _=>trivial,?_⟩
 have h1:xs.map a.eval = vs.toArray:=by
  have h0:xs.map (Act.eval { a with defers:=[] }) = vs.toArray:=by apply Array.ext'; simpa using zEy hs.1 hv
  exact h0
 have h3:a.eval x = .func (.func g) fs cs:=hs.1.ev hx
 have h2:(execOp a.eval o).run P w = .ok (.defer (dfr g fs cs vs)) w:=by
  simp [execOp,ho,resolve,h3,h1,Deferred.ofValue,dfr]
 show o.uponIn Fence.wide 0 P a K1 Q ((o.semAt none a.eval).run P w)
 rw [Oper.semAt_none,h2,Oper.uponIn_defer]
 exact h
theorem zZF {x:Operand} {xs:Array Operand} {ts:Array TypeId} {g:FuncId} {fs cs:Array Value} {vs:List Value} (h:G (dfr g fs cs vs::dl) n σ k (Tx none P ops Q l)) (ho:o.op = .defer { callee:=.value x,args:=xs,argTypes:=ts }:=by rfl) (hd:o.dst = none:=by rfl) (hw:wants ops σ o = some true:=by rfl)
  (hx:ev σ x = some (.func (.func g) fs cs):=by rfl) (hv:evs σ xs.toList = some vs:=by rfl):G dl n σ k (Tx none P ops Q (o::l)):=fun a w hs hk=>by
 refine zJv hs hw (zPu hs ho hx hv ?_)
 rw [hd]
 exact h _ w ⟨hs.1,by rw [← hs.2]; rfl⟩ hk
theorem zXK {fn:Func} {kk kv:Value→K} {g:FuncId} {fs cs A:Array Value} {vs:List Value} {rs:List ResultVar} (h:∀ u,G [dfr g fs cs vs] n σ (kv u) (Rx P kk rs [])) (hr:fn.results = rs.toArray:=by rfl) (hA:fs++vs.toArray++cs = A:=by rfl) [cb:CB P g] :
  G [dfr g fs cs vs] n σ (zPt P g A kv) (Ex (zA9 P fn (Ret kk)) .ret):=fun a w hs hk=>by
 show LeavesInM Fence.wide 0 P fn a.tmps (Ret kk) a.defers .returning w
 rw [hs.2]
 refine ⟨by simp,.inr ⟨(fun h=>by cases h),.func g,cs,g,A,rfl,?_,fun _ _=>trivial,?_⟩⟩
 ·show (invoke (.fn (.func g) cs) (fs++vs.toArray)).run P w = _
  simp only [invoke]
  rw [zCx cb.h,hA]
 ·refine (hk .returning).mono fun e u' w' he=>?_
  obtain ⟨rfl,he⟩:=he
  cases e with
  | returned v=>
   obtain ⟨v2,h1,h2⟩:=zOA (fn:=fn) (a:=a) (w:=w') (by rw [hr]; exact h v a w' hs he)
   exact ⟨v2,h1,h2⟩
  | panicked c=>exact he.elim
  | outgrown=>exact he.elim
theorem zTs {x y:Operand} {T:TypeId} {vx vy:Value} (ho:o.op = .index T x y) (hx:ev σ x = some vx) (hy:ev σ y = some vy):∀ v w w',(Instr.index T vx vy).run P w = .ok v w'→Eff P σ o w (.value v) w':=fun v w w' hr _ _ hs=>by
 simp [execOp,ho,hs.ev hx,hs.ev hy,hr]
theorem zZG {x:Operand} {xs:Array Operand} {ts:Array TypeId} {g:FuncId} {fs cs:Array Value} {vs:List Value} {S:World→Prop} {ds done:List Nat} {i:Nat} {t:Scr} (h:G (dfr g fs cs vs::dl) n σ k (Dx P ops Q S ds (i::done) t)) (hi:ops[i]? = some o:=by rfl) (ho:o.op = .defer { callee:=.value x,args:=xs,argTypes:=ts }:=by rfl) (hd:o.dst = none:=by rfl) (hw:wants ops σ o = some true:=by rfl)
  (hx:ev σ x = some (.func (.func g) fs cs):=by rfl) (hv:evs σ xs.toList = some vs:=by rfl) (hK:okK ops S ds done i:=by exact zEU):G dl n σ k (Ox P ops Q S ds done i 0 t):=fun a w hs hk=>by
 refine zCy hs hi hw fun hQ=>(zPu hs ho hx hv ⟨hK.keep w w,?_⟩)
 rw [hd,zCz (m:=0)]
 exact h _ w ⟨hs.1,by rw [← hs.2]; rfl⟩ hk hQ
theorem zXL {fn:Func} {kk:Value→K} {rs:List ResultVar} (h:G [] n σ k (Rx P kk rs [])) (hr:fn.results = rs.toArray:=by rfl):G [] n σ k (Ex (bodyPost P fn (Ret kk)) .ret):=fun a w hs hk=>by
 obtain ⟨v,h1,h2⟩:=zOA (fn:=fn) (by rw [hr]; exact h a w hs hk)
 exact ⟨hs.2,v,h1,h2⟩
theorem zXM {fn:Func} {kk:Value→K} (h:G dl n σ k (Ex (bodyPost P fn (Ret kk)) .ret)):G dl n σ k (Ex (bodyPost P fn (Ret kk)) .normal):=h
end
set_option maxRecDepth 100000 in
theorem zXN {P:Program} {f:FuncId} {fn:Func} {c:Code} {args:List Value} {kk:Value→K} {k:K} (n:Nat) {w:World} (hk:k w) (hf:P.funcs[f]? = some fn) (hb:fn.body = some c:=by rfl) (hn:fn.ntmps = n:=by rfl) (hl:Nat.ble args.length n = true:=by rfl)
  (h:G [] n (zPn 0 args) k (Cx none P c (zA9 P fn (Ret kk))):=by
   repeat' first
   | intro _
   | (refine zSm ?_; first
     | refine zN2 ?_
     | (refine zSv ?_ rfl; first | refine zSY ?_ | refine zNz ?_)
     | (refine qG 0 ?_ rfl; refine zAP (hp:=by exact zFt) ?_)
     | (refine qG 2 ?_ rfl; first | refine zAP (hp:=by exact zFv) ?_ | (refine zFr ?_; intro b hb; subst hb) | (refine zFs ?_; intro g fs cs hf cb; subst hf))
     | (refine qG 3 ?_ rfl; refine zAP (hp:=by exact zFw) ?_)
     | (refine qG 13 ?_ rfl; refine zAh (hp:=by exact jv) ?_)
     | (refine qG 19 ?_ rfl; first | (refine zSZ (hp:=by exact j3) ?_; intro u; first | refine zHR ?_ | refine zHQ ?_ | refine zCo ?_ | refine zHS ?_ | refine zHT ?_ | refine zHU ?_) | refine zAh (hp:=by exact zAg (zNu rfl rfl rfl)) ?_ | (refine zN1 (hp:=by exact j3) ?_; intro u; first | refine zN3 ?_ | refine zPl ?_ | refine zPm ?_ | skip) | (refine zSa ?_; intro u; first | refine zHR ?_ | refine zHQ ?_ | refine zCo ?_ | refine zHS ?_ | refine zHT ?_ | refine zHU ?_))
     | (refine qG 10 ?_ rfl; first | refine zAP (hp:=by exact zDz) ?_ | refine uF (hp:=by exact zA1) ?_)
     | (refine qG 8 ?_ rfl; refine uF (hp:=by exact zB9) ?_)
     | (refine qG 20 ?_ rfl; first | refine zAP (hp:=by exact zD2) ?_ | refine zAh (hp:=by exact jw) ?_)
     | (refine qG 27 ?_ rfl; refine uF (hp:=by exact zA6) ?_)
     | (refine qG 27 ?_ rfl; refine zAh (hp:=by exact zAg (zTs rfl rfl rfl)) ?_)
     | (refine qG 4 ?_ rfl; first | refine zAP (hp:=by exact zFx) ?_ | refine uF (hp:=by exact zB7) ?_)
     | (refine qG 17 ?_ rfl; refine zIW (hp:=by exact zCb) ?_)
     | (refine qG 1 ?_ rfl; refine zAP (hp:=by exact zFu) ?_)
     | (refine qG 6 ?_ rfl; refine zAP (hp:=by exact zFz) ?_)
     | (refine qG 15 ?_ rfl; refine zBO (hp:=by exact zCX) ?_)
     | (refine qG 16 ?_ rfl; refine zBO (hp:=by exact zCY) ?_)
     | (refine qG 22 ?_ rfl; first | refine zBO (hp:=by exact uw) ?_ | refine zN0 (hp:=by exact uw) ?_)
     | (refine qG 28 ?_ rfl; refine uF (hp:=by exact zA7) ?_)
     | (refine qG 11 ?_ rfl; first | refine uF (hp:=by exact zA2) ?_ | refine zAP (hp:=by exact zD0) ?_ | refine zAh (hp:=by exact jr) ?_ | refine zBO (hp:=by exact zCW) ?_)
     | (refine qG 26 ?_ rfl; first | refine uF (hp:=by exact zA5) ?_ | refine zAP (hp:=by exact zD3) ?_)
     | (refine qG 12 ?_ rfl; first | refine uF (hp:=by exact zA3) ?_ | refine zAP (hp:=by exact zD1) ?_)
     | (refine qG 5 ?_ rfl; refine zAP (hp:=by exact zFy) ?_)
     | (refine qG 7 ?_ rfl; refine uF (hp:=by exact zB8) ?_)
     | (refine qG 9 ?_ rfl; refine uF (hp:=by exact zCA) ?_)
     | (refine qG 14 ?_ rfl; first | refine zAh (hp:=by exact zAg (yC rfl rfl rfl)) ?_ | (refine zAh (hp:=by exact zAr (yC rfl rfl rfl)) ?_; intro u; refine zCo ?_))
     | (refine qG 18 ?_ rfl; refine zIW (hp:=by exact zCc) ?_)
     | (refine qG 21 ?_ rfl; refine uF (hp:=by exact zA4) ?_)
     | (refine qG 23 ?_ rfl; refine zBO (hp:=by exact zCZ) ?_)
     | (refine qG 24 ?_ rfl; refine zBO (hp:=by exact zCa) ?_)
     | (refine qG 25 ?_ rfl; refine zAh (hp:=by exact jy) ?_)
     | (refine qG 99 ?_ rfl; refine zZF ?_)
     | (refine zN4 ?_ ?_ <;> (intro hb; refine zA0 ?_; intro a w hs; try rw [hb] at hs; clear hb; revert hs; revert w; revert a; refine zB6 ?_)))
   | (refine zSn ?_; first
     | refine zN7 ?_
     | (refine zOS ?_; first | (refine zKY ?_; (repeat apply zW4); refine And.intro zET (And.intro ?_ ?_)) | refine zN5 ?_)
     | refine zG6 ?_ ?_ rfl
     | refine zKZ ?_
     | refine zN6 ?_
     | refine zIY ?_
     | refine zKa ?_
     | refine zKb ?_
     | (refine zKh ?_; first | refine zG0 ?_ | refine zG1 ?_)
     | (refine zKi ?_; first | refine zIf ?_ | refine zIe ?_ | refine zIg ?_ | refine zIh ?_)
     | refine zIX ?_
     | refine zG5 ?_ ?_
     | refine zG4 ?_ ?_ ?_
     | refine jq ?_)
   | (refine zSo ?_; first
     | refine zKc ?_
     | refine zG3 ?_
     | refine zG2 ?_
     | refine zN9 ?_
     | refine zIZ ?_
     | refine zIa ?_
     | refine zIb ?_
     | (refine zXK ?_; intro u; refine zN3 ?_)
     | refine zKd ?_
     | refine zQ7 ?_
     | refine zQ8 ?_
     | exact zXH
     | exact zXI
     | exact zXJ
     | refine jq ?_)
   | exact zKW
   | refine zSb ?_
   | (refine zSp ?_; first
     | refine zOB ?_
     | refine zOC ?_
     | refine zKe ?_
     | refine zIc ?_)
   | (refine zSq ?_; first
     | exact zW7
     | exact zW6
     | exact zW8
     | exact zW9
     | exact zXA
     | exact zXB)
   | (refine zSr ?_; first
     | refine zOH ?_
     | refine zOI ?_
     | refine zXC ?_
     | (refine zKf ?_ ?_ <;> (intro hb; refine zA0 ?_; intro a w hs; try rw [hb] at hs; clear hb; revert hs; revert w; revert a; refine zB6 ?_))
     | (refine zOJ ?_ ?_ <;> (intro hb; refine zA0 ?_; intro a w hs; try rw [hb] at hs; clear hb; revert hs; revert w; revert a; refine zB6 ?_))
     | (refine zOT ?_ rfl; first | refine zSf ?_ | refine zOG ?_)
     | (refine x9 0 ?_ rfl; refine zAQ (hp:=by exact zFt) ?_)
     | (refine x9 2 ?_ rfl; first | refine zAQ (hp:=by exact zFv) ?_ | (refine zSg ?_; intro b hb; subst hb) | (refine zFr ?_; intro b hb; subst hb) | (refine zSh ?_; intro g fs cs hf cb; subst hf) | (refine zFs ?_; intro g fs cs hf cb; subst hf))
     | (refine x9 3 ?_ rfl; refine zAQ (hp:=by exact zFw) ?_)
     | (refine x9 13 ?_ rfl; first | refine zBc (hp:=by exact jv) ?_ | refine zEG (hp:=by exact zKk) ?_)
     | (refine x9 10 ?_ rfl; first | refine zAQ (hp:=by exact zDz) ?_ | refine xO (hp:=by exact zA1) ?_ | refine uG (hp:=by exact zA1) ?_)
     | (refine x9 8 ?_ rfl; first | refine xO (hp:=by exact zB9) ?_ | refine uG (hp:=by exact zB9) ?_)
     | (refine x9 20 ?_ rfl; first | refine zAQ (hp:=by exact zD2) ?_ | refine zBc (hp:=by exact jw) ?_ | refine zEG (hp:=by exact zKl) ?_)
     | (refine x9 27 ?_ rfl; first | refine xO (hp:=by exact zA6) ?_ | refine uG (hp:=by exact zA6) ?_)
     | (refine x9 4 ?_ rfl; first | refine zAQ (hp:=by exact zFx) ?_ | refine xO (hp:=by exact zB7) ?_ | refine uG (hp:=by exact zB7) ?_)
     | (refine x9 1 ?_ rfl; refine zAQ (hp:=by exact zFu) ?_)
     | (refine x9 6 ?_ rfl; refine zAQ (hp:=by exact zFz) ?_)
     | (refine x9 28 ?_ rfl; first | refine xO (hp:=by exact zA7) ?_ | refine uG (hp:=by exact zA7) ?_)
     | (refine x9 11 ?_ rfl; first | refine xO (hp:=by exact zA2) ?_ | refine uG (hp:=by exact zA2) ?_ | refine zAQ (hp:=by exact zD0) ?_ | refine zBc (hp:=by exact jr) ?_ | refine zEG (hp:=by exact zKj) ?_)
     | (refine x9 26 ?_ rfl; first | refine xO (hp:=by exact zA5) ?_ | refine uG (hp:=by exact zA5) ?_ | refine zAQ (hp:=by exact zD3) ?_)
     | (refine x9 12 ?_ rfl; first | refine xO (hp:=by exact zA3) ?_ | refine uG (hp:=by exact zA3) ?_ | refine zAQ (hp:=by exact zD1) ?_)
     | (refine x9 5 ?_ rfl; refine zAQ (hp:=by exact zFy) ?_)
     | (refine x9 7 ?_ rfl; first | refine xO (hp:=by exact zB8) ?_ | refine uG (hp:=by exact zB8) ?_)
     | (refine x9 9 ?_ rfl; first | refine xO (hp:=by exact zCA) ?_ | refine uG (hp:=by exact zCA) ?_)
     | (refine x9 14 ?_ rfl; first | refine zBc (hp:=by exact zAg (yC rfl rfl rfl)) ?_ | (refine zBc (hp:=by exact zAr (yC rfl rfl rfl)) ?_; intro u; refine zBl ?_) | refine zEG (hp:=by exact zJt (yC rfl rfl rfl)) ?_ | (refine zEG (hp:=by exact zLD (yC rfl rfl rfl)) ?_; intro u; refine zBl ?_))
     | (refine x9 21 ?_ rfl; first | refine xO (hp:=by exact zA4) ?_ | refine uG (hp:=by exact zA4) ?_)
     | (refine x9 25 ?_ rfl; first | refine zBc (hp:=by exact jy) ?_ | refine zEG (hp:=by exact zKm) ?_)
     | refine jq ?_)
   | (refine zSs ?_; first
     | (refine jY 13 ?_ rfl; first | refine zAE (hp:=by exact jv) ?_ | refine zBe (hp:=by exact jv) ?_)
     | (refine jY 19 ?_ rfl; first | (refine zSk (hp:=by exact j3) ?_; intro u; first | refine zOK ?_ | refine zOU ?_ | refine zBl ?_) | (refine zXD (hp:=by exact j3) ?_; intro u; first | refine zHR ?_ | refine zHQ ?_ | refine zCo ?_ | refine zHS ?_ | refine zHT ?_ | refine zHU ?_) | (refine zSj (hp:=by exact j3) ?_; intro u; first | refine zN3 ?_ | refine zPl ?_ | refine zPm ?_ | skip) | (refine zXE ?_; intro u; first | refine zHR ?_ | refine zHQ ?_ | refine zCo ?_ | refine zHS ?_ | refine zHT ?_ | refine zHU ?_))
     | (refine jY 20 ?_ rfl; first | refine zAE (hp:=by exact jw) ?_ | refine zBe (hp:=by exact jw) ?_)
     | (refine jY 17 ?_ rfl; first | refine zId (hp:=by exact zCb) ?_ | refine zOO (hp:=by exact zCb) ?_)
     | (refine jY 15 ?_ rfl; first | refine zBd (hp:=by exact zCX) ?_ | refine zDy (hp:=by exact zCX) ?_)
     | (refine jY 16 ?_ rfl; first | refine zBd (hp:=by exact zCY) ?_ | refine zDy (hp:=by exact zCY) ?_)
     | (refine jY 22 ?_ rfl; first | refine zBd (hp:=by exact uw) ?_ | refine zDy (hp:=by exact uw) ?_ | refine zOP (hp:=by exact uw) ?_ | refine zSi (hp:=by exact uw) ?_)
     | (refine jY 11 ?_ rfl; first | refine zBd (hp:=by exact zCW) ?_ | refine zDy (hp:=by exact zCW) ?_ | refine zAE (hp:=by exact jr) ?_ | refine zBe (hp:=by exact jr) ?_)
     | (refine jY 14 ?_ rfl; first | refine zAE (hp:=by exact zAg (yC rfl rfl rfl)) ?_ | (refine zAE (hp:=by exact zAr (yC rfl rfl rfl)) ?_; intro u; refine zBl ?_) | refine zBe (hp:=by exact zAg (yC rfl rfl rfl)) ?_ | (refine zBe (hp:=by exact zAr (yC rfl rfl rfl)) ?_; intro u; refine zCo ?_))
     | (refine jY 18 ?_ rfl; first | refine zId (hp:=by exact zCc) ?_ | refine zOO (hp:=by exact zCc) ?_)
     | (refine jY 23 ?_ rfl; first | refine zBd (hp:=by exact zCZ) ?_ | refine zDy (hp:=by exact zCZ) ?_)
     | (refine jY 24 ?_ rfl; first | refine zBd (hp:=by exact zCa) ?_ | refine zDy (hp:=by exact zCa) ?_)
     | (refine jY 25 ?_ rfl; first | refine zAE (hp:=by exact jy) ?_ | refine zBe (hp:=by exact jy) ?_)
     | (refine jY 99 ?_ rfl; refine zZG ?_)
     | refine jq ?_)
   | refine zKg ?_ ?_
   | refine zOL ?_ ?_
   | exact zOM
   | refine zON ?_
   | (refine zSu ?_; exact zN8)
   | (refine zSt ?_; first
     | refine zOR ?_
     | (refine zSw ?_ rfl; refine zSl ?_)
     | (refine xw 0 ?_ rfl; refine zAR (hp:=by exact zFt) ?_)
     | (refine xw 2 ?_ rfl; first | refine zAR (hp:=by exact zFv) ?_ | (refine zFr ?_; intro b hb; subst hb) | (refine zFs ?_; intro g fs cs hf cb; subst hf))
     | (refine xw 3 ?_ rfl; refine zAR (hp:=by exact zFw) ?_)
     | (refine xw 13 ?_ rfl; refine zBf (hp:=by exact jv) ?_)
     | (refine xw 10 ?_ rfl; first | refine zAR (hp:=by exact zDz) ?_ | refine uH (hp:=by exact zA1) ?_)
     | (refine xw 8 ?_ rfl; refine uH (hp:=by exact zB9) ?_)
     | (refine xw 20 ?_ rfl; first | refine zAR (hp:=by exact zD2) ?_ | refine zBf (hp:=by exact jw) ?_)
     | (refine xw 27 ?_ rfl; refine uH (hp:=by exact zA6) ?_)
     | (refine xw 4 ?_ rfl; first | refine zAR (hp:=by exact zFx) ?_ | refine uH (hp:=by exact zB7) ?_)
     | (refine xw 1 ?_ rfl; refine zAR (hp:=by exact zFu) ?_)
     | (refine xw 6 ?_ rfl; refine zAR (hp:=by exact zFz) ?_)
     | (refine xw 28 ?_ rfl; refine uH (hp:=by exact zA7) ?_)
     | (refine xw 11 ?_ rfl; first | refine uH (hp:=by exact zA2) ?_ | refine zAR (hp:=by exact zD0) ?_ | refine zBf (hp:=by exact jr) ?_)
     | (refine xw 26 ?_ rfl; first | refine uH (hp:=by exact zA5) ?_ | refine zAR (hp:=by exact zD3) ?_)
     | (refine xw 12 ?_ rfl; first | refine uH (hp:=by exact zA3) ?_ | refine zAR (hp:=by exact zD1) ?_)
     | (refine xw 5 ?_ rfl; refine zAR (hp:=by exact zFy) ?_)
     | (refine xw 7 ?_ rfl; refine uH (hp:=by exact zB8) ?_)
     | (refine xw 9 ?_ rfl; refine uH (hp:=by exact zCA) ?_)
     | (refine xw 14 ?_ rfl; first | refine zBf (hp:=by exact zAg (yC rfl rfl rfl)) ?_ | (refine zBf (hp:=by exact zAr (yC rfl rfl rfl)) ?_; intro u; refine zCo ?_))
     | (refine xw 21 ?_ rfl; refine uH (hp:=by exact zA4) ?_)
     | (refine xw 25 ?_ rfl; refine zBf (hp:=by exact jy) ?_)
     | (refine zOQ ?_ ?_ <;> (intro hb; refine zA0 ?_; intro a w hs; try rw [hb] at hs; clear hb; revert hs; revert w; revert a; refine zB6 ?_)))
   | refine zXF ?_
   | refine zXG ?_
   | exact zKX
   | refine jq ?_) :
  zK P f args.toArray kk w:=zOD n hk hf h hb hn hl
set_option maxRecDepth 100000 in
theorem zXO {P:Program} {f:FuncId} {fn:Func} {c:Code} {args:List Value} {kk:Value→K} {k:K} (n:Nat) {w:World} (hk:k w) (hf:P.funcs[f]? = some fn) (hb:fn.body = some c:=by rfl) (hn:fn.ntmps = n:=by rfl) (hl:Nat.ble args.length n = true:=by rfl)
  (h:G [] n (zPn 0 args) k (Cx none P c (bodyPost P fn (Ret kk))):=by
   repeat' first
   | intro _
   | (refine zSm ?_; first
     | refine zN2 ?_
     | (refine zSv ?_ rfl; first | refine zSY ?_ | refine zNz ?_)
     | (refine qG 0 ?_ rfl; refine zAP (hp:=by exact zFt) ?_)
     | (refine qG 2 ?_ rfl; first | refine zAP (hp:=by exact zFv) ?_ | (refine zFr ?_; intro b hb; subst hb) | (refine zFs ?_; intro g fs cs hf cb; subst hf))
     | (refine qG 3 ?_ rfl; refine zAP (hp:=by exact zFw) ?_)
     | (refine qG 13 ?_ rfl; refine zAh (hp:=by exact jv) ?_)
     | (refine qG 19 ?_ rfl; first | (refine zSZ (hp:=by exact j3) ?_; intro u; first | refine zHR ?_ | refine zHQ ?_ | refine zCo ?_ | refine zHS ?_ | refine zHT ?_ | refine zHU ?_) | refine zAh (hp:=by exact zAg (zNu rfl rfl rfl)) ?_ | (refine zN1 (hp:=by exact j3) ?_; intro u; first | refine zN3 ?_ | refine zPl ?_ | refine zPm ?_ | skip) | (refine zSa ?_; intro u; first | refine zHR ?_ | refine zHQ ?_ | refine zCo ?_ | refine zHS ?_ | refine zHT ?_ | refine zHU ?_))
     | (refine qG 10 ?_ rfl; first | refine zAP (hp:=by exact zDz) ?_ | refine uF (hp:=by exact zA1) ?_)
     | (refine qG 8 ?_ rfl; refine uF (hp:=by exact zB9) ?_)
     | (refine qG 20 ?_ rfl; first | refine zAP (hp:=by exact zD2) ?_ | refine zAh (hp:=by exact jw) ?_)
     | (refine qG 27 ?_ rfl; refine uF (hp:=by exact zA6) ?_)
     | (refine qG 4 ?_ rfl; first | refine zAP (hp:=by exact zFx) ?_ | refine uF (hp:=by exact zB7) ?_)
     | (refine qG 17 ?_ rfl; refine zIW (hp:=by exact zCb) ?_)
     | (refine qG 1 ?_ rfl; refine zAP (hp:=by exact zFu) ?_)
     | (refine qG 6 ?_ rfl; refine zAP (hp:=by exact zFz) ?_)
     | (refine qG 15 ?_ rfl; refine zBO (hp:=by exact zCX) ?_)
     | (refine qG 16 ?_ rfl; refine zBO (hp:=by exact zCY) ?_)
     | (refine qG 22 ?_ rfl; first | refine zBO (hp:=by exact uw) ?_ | refine zN0 (hp:=by exact uw) ?_)
     | (refine qG 28 ?_ rfl; refine uF (hp:=by exact zA7) ?_)
     | (refine qG 11 ?_ rfl; first | refine uF (hp:=by exact zA2) ?_ | refine zAP (hp:=by exact zD0) ?_ | refine zAh (hp:=by exact jr) ?_ | refine zBO (hp:=by exact zCW) ?_)
     | (refine qG 26 ?_ rfl; first | refine uF (hp:=by exact zA5) ?_ | refine zAP (hp:=by exact zD3) ?_)
     | (refine qG 12 ?_ rfl; first | refine uF (hp:=by exact zA3) ?_ | refine zAP (hp:=by exact zD1) ?_)
     | (refine qG 5 ?_ rfl; refine zAP (hp:=by exact zFy) ?_)
     | (refine qG 7 ?_ rfl; refine uF (hp:=by exact zB8) ?_)
     | (refine qG 9 ?_ rfl; refine uF (hp:=by exact zCA) ?_)
     | (refine qG 14 ?_ rfl; first | refine zAh (hp:=by exact zAg (yC rfl rfl rfl)) ?_ | (refine zAh (hp:=by exact zAr (yC rfl rfl rfl)) ?_; intro u; refine zCo ?_))
     | (refine qG 18 ?_ rfl; refine zIW (hp:=by exact zCc) ?_)
     | (refine qG 21 ?_ rfl; refine uF (hp:=by exact zA4) ?_)
     | (refine qG 23 ?_ rfl; refine zBO (hp:=by exact zCZ) ?_)
     | (refine qG 24 ?_ rfl; refine zBO (hp:=by exact zCa) ?_)
     | (refine qG 25 ?_ rfl; refine zAh (hp:=by exact jy) ?_)
     | (refine zN4 ?_ ?_ <;> (intro hb; refine zA0 ?_; intro a w hs; try rw [hb] at hs; clear hb; revert hs; revert w; revert a; refine zB6 ?_)))
   | (refine zSn ?_; first
     | refine zN7 ?_
     | (refine zOS ?_; first | (refine zKY ?_; (repeat apply zW4); refine And.intro zET (And.intro ?_ ?_)) | refine zN5 ?_)
     | refine zG6 ?_ ?_ rfl
     | refine zKZ ?_
     | refine zN6 ?_
     | refine zIY ?_
     | refine zKa ?_
     | refine zKb ?_
     | (refine zKh ?_; first | refine zG0 ?_ | refine zG1 ?_)
     | (refine zKi ?_; first | refine zIf ?_ | refine zIe ?_ | refine zIg ?_ | refine zIh ?_)
     | refine zIX ?_
     | refine zG5 ?_ ?_
     | refine zG4 ?_ ?_ ?_
     | refine jq ?_)
   | (refine zSo ?_; first
     | refine zKc ?_
     | refine zG3 ?_
     | refine zG2 ?_
     | refine zN9 ?_
     | refine zIZ ?_
     | refine zIa ?_
     | refine zIb ?_
     | refine zKd ?_
     | refine zXL ?_
     | refine zXM ?_
     | exact zXH
     | exact zXI
     | exact zXJ
     | refine jq ?_)
   | exact zKW
   | refine zSb ?_
   | (refine zSp ?_; first
     | refine zOB ?_
     | refine zOC ?_
     | refine zKe ?_
     | refine zIc ?_)
   | (refine zSq ?_; first
     | exact zW7
     | exact zW6
     | exact zW8
     | exact zW9
     | exact zXA
     | exact zXB)
   | (refine zSr ?_; first
     | refine zOH ?_
     | refine zOI ?_
     | refine zXC ?_
     | (refine zKf ?_ ?_ <;> (intro hb; refine zA0 ?_; intro a w hs; try rw [hb] at hs; clear hb; revert hs; revert w; revert a; refine zB6 ?_))
     | (refine zOJ ?_ ?_ <;> (intro hb; refine zA0 ?_; intro a w hs; try rw [hb] at hs; clear hb; revert hs; revert w; revert a; refine zB6 ?_))
     | (refine zOT ?_ rfl; first | refine zSf ?_ | refine zOG ?_)
     | (refine x9 0 ?_ rfl; refine zAQ (hp:=by exact zFt) ?_)
     | (refine x9 2 ?_ rfl; first | refine zAQ (hp:=by exact zFv) ?_ | (refine zSg ?_; intro b hb; subst hb) | (refine zFr ?_; intro b hb; subst hb) | (refine zSh ?_; intro g fs cs hf cb; subst hf) | (refine zFs ?_; intro g fs cs hf cb; subst hf))
     | (refine x9 3 ?_ rfl; refine zAQ (hp:=by exact zFw) ?_)
     | (refine x9 13 ?_ rfl; first | refine zBc (hp:=by exact jv) ?_ | refine zEG (hp:=by exact zKk) ?_)
     | (refine x9 10 ?_ rfl; first | refine zAQ (hp:=by exact zDz) ?_ | refine xO (hp:=by exact zA1) ?_ | refine uG (hp:=by exact zA1) ?_)
     | (refine x9 8 ?_ rfl; first | refine xO (hp:=by exact zB9) ?_ | refine uG (hp:=by exact zB9) ?_)
     | (refine x9 20 ?_ rfl; first | refine zAQ (hp:=by exact zD2) ?_ | refine zBc (hp:=by exact jw) ?_ | refine zEG (hp:=by exact zKl) ?_)
     | (refine x9 27 ?_ rfl; first | refine xO (hp:=by exact zA6) ?_ | refine uG (hp:=by exact zA6) ?_)
     | (refine x9 4 ?_ rfl; first | refine zAQ (hp:=by exact zFx) ?_ | refine xO (hp:=by exact zB7) ?_ | refine uG (hp:=by exact zB7) ?_)
     | (refine x9 1 ?_ rfl; refine zAQ (hp:=by exact zFu) ?_)
     | (refine x9 6 ?_ rfl; refine zAQ (hp:=by exact zFz) ?_)
     | (refine x9 28 ?_ rfl; first | refine xO (hp:=by exact zA7) ?_ | refine uG (hp:=by exact zA7) ?_)
     | (refine x9 11 ?_ rfl; first | refine xO (hp:=by exact zA2) ?_ | refine uG (hp:=by exact zA2) ?_ | refine zAQ (hp:=by exact zD0) ?_ | refine zBc (hp:=by exact jr) ?_ | refine zEG (hp:=by exact zKj) ?_)
     | (refine x9 26 ?_ rfl; first | refine xO (hp:=by exact zA5) ?_ | refine uG (hp:=by exact zA5) ?_ | refine zAQ (hp:=by exact zD3) ?_)
     | (refine x9 12 ?_ rfl; first | refine xO (hp:=by exact zA3) ?_ | refine uG (hp:=by exact zA3) ?_ | refine zAQ (hp:=by exact zD1) ?_)
     | (refine x9 5 ?_ rfl; refine zAQ (hp:=by exact zFy) ?_)
     | (refine x9 7 ?_ rfl; first | refine xO (hp:=by exact zB8) ?_ | refine uG (hp:=by exact zB8) ?_)
     | (refine x9 9 ?_ rfl; first | refine xO (hp:=by exact zCA) ?_ | refine uG (hp:=by exact zCA) ?_)
     | (refine x9 14 ?_ rfl; first | refine zBc (hp:=by exact zAg (yC rfl rfl rfl)) ?_ | (refine zBc (hp:=by exact zAr (yC rfl rfl rfl)) ?_; intro u; refine zBl ?_) | refine zEG (hp:=by exact zJt (yC rfl rfl rfl)) ?_ | (refine zEG (hp:=by exact zLD (yC rfl rfl rfl)) ?_; intro u; refine zBl ?_))
     | (refine x9 21 ?_ rfl; first | refine xO (hp:=by exact zA4) ?_ | refine uG (hp:=by exact zA4) ?_)
     | (refine x9 25 ?_ rfl; first | refine zBc (hp:=by exact jy) ?_ | refine zEG (hp:=by exact zKm) ?_)
     | refine jq ?_)
   | (refine zSs ?_; first
     | (refine jY 13 ?_ rfl; first | refine zAE (hp:=by exact jv) ?_ | refine zBe (hp:=by exact jv) ?_)
     | (refine jY 19 ?_ rfl; first | (refine zSk (hp:=by exact j3) ?_; intro u; first | refine zOK ?_ | refine zOU ?_ | refine zBl ?_) | (refine zXD (hp:=by exact j3) ?_; intro u; first | refine zHR ?_ | refine zHQ ?_ | refine zCo ?_ | refine zHS ?_ | refine zHT ?_ | refine zHU ?_) | (refine zSj (hp:=by exact j3) ?_; intro u; first | refine zN3 ?_ | refine zPl ?_ | refine zPm ?_ | skip) | (refine zXE ?_; intro u; first | refine zHR ?_ | refine zHQ ?_ | refine zCo ?_ | refine zHS ?_ | refine zHT ?_ | refine zHU ?_))
     | (refine jY 20 ?_ rfl; first | refine zAE (hp:=by exact jw) ?_ | refine zBe (hp:=by exact jw) ?_)
     | (refine jY 17 ?_ rfl; first | refine zId (hp:=by exact zCb) ?_ | refine zOO (hp:=by exact zCb) ?_)
     | (refine jY 15 ?_ rfl; first | refine zBd (hp:=by exact zCX) ?_ | refine zDy (hp:=by exact zCX) ?_)
     | (refine jY 16 ?_ rfl; first | refine zBd (hp:=by exact zCY) ?_ | refine zDy (hp:=by exact zCY) ?_)
     | (refine jY 22 ?_ rfl; first | refine zBd (hp:=by exact uw) ?_ | refine zDy (hp:=by exact uw) ?_ | refine zOP (hp:=by exact uw) ?_ | refine zSi (hp:=by exact uw) ?_)
     | (refine jY 11 ?_ rfl; first | refine zBd (hp:=by exact zCW) ?_ | refine zDy (hp:=by exact zCW) ?_ | refine zAE (hp:=by exact jr) ?_ | refine zBe (hp:=by exact jr) ?_)
     | (refine jY 14 ?_ rfl; first | refine zAE (hp:=by exact zAg (yC rfl rfl rfl)) ?_ | (refine zAE (hp:=by exact zAr (yC rfl rfl rfl)) ?_; intro u; refine zBl ?_) | refine zBe (hp:=by exact zAg (yC rfl rfl rfl)) ?_ | (refine zBe (hp:=by exact zAr (yC rfl rfl rfl)) ?_; intro u; refine zCo ?_))
     | (refine jY 18 ?_ rfl; first | refine zId (hp:=by exact zCc) ?_ | refine zOO (hp:=by exact zCc) ?_)
     | (refine jY 23 ?_ rfl; first | refine zBd (hp:=by exact zCZ) ?_ | refine zDy (hp:=by exact zCZ) ?_)
     | (refine jY 24 ?_ rfl; first | refine zBd (hp:=by exact zCa) ?_ | refine zDy (hp:=by exact zCa) ?_)
     | (refine jY 25 ?_ rfl; first | refine zAE (hp:=by exact jy) ?_ | refine zBe (hp:=by exact jy) ?_)
     | refine jq ?_)
   | refine zKg ?_ ?_
   | refine zOL ?_ ?_
   | exact zOM
   | refine zON ?_
   | (refine zSu ?_; exact zN8)
   | (refine zSt ?_; first
     | refine zOR ?_
     | (refine zSw ?_ rfl; refine zSl ?_)
     | (refine xw 0 ?_ rfl; refine zAR (hp:=by exact zFt) ?_)
     | (refine xw 2 ?_ rfl; first | refine zAR (hp:=by exact zFv) ?_ | (refine zFr ?_; intro b hb; subst hb) | (refine zFs ?_; intro g fs cs hf cb; subst hf))
     | (refine xw 3 ?_ rfl; refine zAR (hp:=by exact zFw) ?_)
     | (refine xw 13 ?_ rfl; refine zBf (hp:=by exact jv) ?_)
     | (refine xw 10 ?_ rfl; first | refine zAR (hp:=by exact zDz) ?_ | refine uH (hp:=by exact zA1) ?_)
     | (refine xw 8 ?_ rfl; refine uH (hp:=by exact zB9) ?_)
     | (refine xw 20 ?_ rfl; first | refine zAR (hp:=by exact zD2) ?_ | refine zBf (hp:=by exact jw) ?_)
     | (refine xw 27 ?_ rfl; refine uH (hp:=by exact zA6) ?_)
     | (refine xw 4 ?_ rfl; first | refine zAR (hp:=by exact zFx) ?_ | refine uH (hp:=by exact zB7) ?_)
     | (refine xw 1 ?_ rfl; refine zAR (hp:=by exact zFu) ?_)
     | (refine xw 6 ?_ rfl; refine zAR (hp:=by exact zFz) ?_)
     | (refine xw 28 ?_ rfl; refine uH (hp:=by exact zA7) ?_)
     | (refine xw 11 ?_ rfl; first | refine uH (hp:=by exact zA2) ?_ | refine zAR (hp:=by exact zD0) ?_ | refine zBf (hp:=by exact jr) ?_)
     | (refine xw 26 ?_ rfl; first | refine uH (hp:=by exact zA5) ?_ | refine zAR (hp:=by exact zD3) ?_)
     | (refine xw 12 ?_ rfl; first | refine uH (hp:=by exact zA3) ?_ | refine zAR (hp:=by exact zD1) ?_)
     | (refine xw 5 ?_ rfl; refine zAR (hp:=by exact zFy) ?_)
     | (refine xw 7 ?_ rfl; refine uH (hp:=by exact zB8) ?_)
     | (refine xw 9 ?_ rfl; refine uH (hp:=by exact zCA) ?_)
     | (refine xw 14 ?_ rfl; first | refine zBf (hp:=by exact zAg (yC rfl rfl rfl)) ?_ | (refine zBf (hp:=by exact zAr (yC rfl rfl rfl)) ?_; intro u; refine zCo ?_))
     | (refine xw 21 ?_ rfl; refine uH (hp:=by exact zA4) ?_)
     | (refine xw 25 ?_ rfl; refine zBf (hp:=by exact jy) ?_)
     | (refine zOQ ?_ ?_ <;> (intro hb; refine zA0 ?_; intro a w hs; try rw [hb] at hs; clear hb; revert hs; revert w; revert a; refine zB6 ?_)))
   | refine zXF ?_
   | refine zXG ?_
   | exact zKX
   | refine jq ?_) :
  zPt P f args.toArray kk w:=fun u=>by
 subst hn
 refine callsDIn_of_wp hf hb trivial ?_
 exact h _ w (by rw [← zSc]; exact jM.init args _ (Nat.le_of_ble_eq_true hl)) hk
end
end Go.Sep
namespace Go.Proofs.YtdemfamgieonbaaGreat
section
open Go Go.Sep
def zD.call (a b:Sl) (k:Bool→K): K:=zK Tryz.prog 7 [Sl.val a,Sl.val b].toArray (yH Value.bool k)
def qx.call  (k:Bool→K): K:=zK Tryz.prog 8 [].toArray (yH Value.bool k)
def yQ.call (a:Av) (k:Bool→K): K:=zK Tryz.prog 9 [.agg a].toArray (yH Value.bool k)
def zk.call (a:Av) (b:Int) (k:Bool→K): K:=zK Tryz.prog 10 [.agg a,.int .i64 b].toArray (yH Value.bool k)
def vv.call (c:Int) (k:Pt→Int→K): K:=zK Tryz.prog 11 [.int .i64 c].toArray (zAZ (fun a b=>.tuple #[Value.pointer a,(Value.int .i64) b]) k)
def jO.call (a:Pt) (b c:Av) (k:Av→K): K:=zK Tryz.prog 12 [.pointer a,.agg b,.agg c].toArray (yH Value.agg k)
def qo.call (a:Av) (k:Sl→K): K:=zK Tryz.prog 13 [.agg a].toArray (yH Sl.val k)
def vw.call (a:Av) (k:Bool→K): K:=zK Tryz.prog 14 [.agg a].toArray (yH Value.bool k)
def zL.call (a:Pt) (b:Int) (c:Av) (k:Sl→K): K:=zK Tryz.prog 15 [.pointer a,.int .i64 b,.agg c].toArray (yH Sl.val k)
def qO.call (a:Pt) (k:Sl→K): K:=zK Tryz.prog 16 [.pointer a].toArray (yH Sl.val k)
def jP.call (a:Pt) (k:Sl→K): K:=zK Tryz.prog 17 [.pointer a].toArray (yH Sl.val k)
def vM.call (a:Sl) (k:Bool→K): K:=zK Tryz.prog 25 [Sl.val a].toArray (yH Value.bool k)
def qD.call (c:Int) (d:Sl) (k:Av→Bool→K): K:=zK Tryz.prog 26 [.int .i64 c,Sl.val d].toArray (zAZ (fun a b=>.tuple #[Value.agg a,Value.bool b]) k)
def j6.call (a:Pt) (b:Int) (k:Int→K): K:=zK Tryz.prog 28 [.pointer a,.int .i64 b].toArray (yH (Value.int .i64) k)
def vB.call (a b:Av) (k:Bool→K): K:=zK Tryz.prog 32 [.agg a,.agg b].toArray (yH Value.bool k)
def uX.call (a b:Sl) (k:Bool→K): K:=zK Tryz.prog 33 [Sl.val a,Sl.val b].toArray (yH Value.bool k)
def uY.call (a b:Sl) (k:Bool→K): K:=zK Tryz.prog 40 [Sl.val a,Sl.val b].toArray (yH Value.bool k)
def zAt.call (a b:Sl) (k:Bool→K): K:=zK Tryz.prog 41 [Sl.val a,Sl.val b].toArray (yH Value.bool k)
def jQ.call (a:Pt) (b:Int) (k:Int→K): K:=zK Tryz.prog 42 [.pointer a,.int .i64 b].toArray (yH (Value.int .i64) k)
def jG.call (a:Sl) (k:Bool→K): K:=zK Tryz.prog 43 [Sl.val a].toArray (yH Value.bool k)
def zBP.call (a:Sl) (b:ByteArray) (k:Bool→K): K:=zK Tryz.prog 44 [Sl.val a,.string b].toArray (yH Value.bool k)
def qJ.call (a b:Av) (k:Bool→K): K:=zK Tryz.prog 45 [.agg a,.agg b].toArray (yH Value.bool k)
def zBA.call (c:Int) (k:Pt→Int→K): K:=zK Tryz.prog 46 [.int .i64 c].toArray (zAZ (fun a b=>.tuple #[Value.pointer a,(Value.int .i64) b]) k)
def zDU.call  (k:Pt→K): K:=zK Tryz.prog 47 [].toArray (yH Value.pointer k)
def zAu.call (a:Int) (k:Pt→K): K:=zK Tryz.prog 48 [.int .i64 a].toArray (yH Value.pointer k)
def zDV.call (a:Pt) (b c:Av) (k:Av→K): K:=zK Tryz.prog 49 [.pointer a,.agg b,.agg c].toArray (yH Value.agg k)
def zAY.call (a:Sl) (k:K): K:=zK Tryz.prog 50 [Sl.val a].toArray (jI (.tuple #[]) k)
def zo.call (a:Sl) (k:Sl→K): K:=zK Tryz.prog 51 [Sl.val a].toArray (yH Sl.val k)
def yG.call (c:Av) (k:Sl→Int→K): K:=zK Tryz.prog 52 [.agg c].toArray (zAZ (fun a b=>.tuple #[Sl.val a,(Value.int .i64) b]) k)
def qg.call (a:Pt) (b:Int) (k:Bool→K): K:=zK Tryz.prog 53 [.pointer a,.int .i64 b].toArray (yH Value.bool k)
def z8.call (a:Av) (b:Int) (k:Int→K): K:=zK Tryz.prog 54 [.agg a,.int .i64 b].toArray (yH (Value.int .i64) k)
def yM.call (a:Pt) (b:Av) (k:Bool→K): K:=zK Tryz.prog 55 [.pointer a,.agg b].toArray (yH Value.bool k)
def zAS.call (a:Pt) (b:Av) (k:Pt→K): K:=zK Tryz.prog 56 [.pointer a,.agg b].toArray (yH Value.pointer k)
def xJ.call (a:Pt) (k:Sl→K): K:=zK Tryz.prog 57 [.pointer a].toArray (yH Sl.val k)
def zCf.call (a:Av) (k:Av→K): K:=zK Tryz.prog 58 [.agg a].toArray (yH Value.agg k)
def uZ.call (a:Av) (b:Int) (k:Sl→K): K:=zK Tryz.prog 59 [.agg a,.int .i64 b].toArray (yH Sl.val k)
def yK.call (a:Sl) (b:Value) (k:Sl→K): K:=zK Tryz.prog 60 [Sl.val a,b].toArray (yH Sl.val k)
def zBI.call (a:Int) (b:Addr) (k:Bool→K): K:=zK Tryz.prog 61 [.int .i64 a,(.pointer (some b))].toArray (yH Value.bool k)
def yB.call (a b:Pt) (c:Av) (d:Sl) (k:K): K:=zK Tryz.prog 62 [.pointer a,.pointer b,.agg c,Sl.val d].toArray (jI (.tuple #[]) k)
def zAT.call (a:Pt) (k:Sl→K): K:=zK Tryz.prog 63 [.pointer a].toArray (yH Sl.val k)
def qR.call (a:Av) (b:Int) (k:Int→K): K:=zK Tryz.prog 65 [.agg a,.int .i64 b].toArray (yH (Value.int .i64) k)
def zBB.call (a:Av) (k:Av→K): K:=zK Tryz.prog 66 [.agg a].toArray (yH Value.agg k)
def yI.call (a:Pt) (b:Int) (k:Bool→K): K:=zK Tryz.prog 69 [.pointer a,.int .i64 b].toArray (yH Value.bool k)
def xA.call (a b:Av) (k:Bool→K): K:=zK Tryz.prog 75 [.agg a,.agg b].toArray (yH Value.bool k)
def jR.call (a:Pt) (k:Int→K): K:=zK Tryz.prog 84 [.pointer a].toArray (yH (Value.int .i64) k)
def vN.call  (k:Pt→K): K:=zK Tryz.prog 85 [].toArray (yH Value.pointer k)
def zAL.call (a:Pt) (b:Av) (k:Sl→K): K:=zK Tryz.prog 86 [.pointer a,.agg b].toArray (yH Sl.val k)
def zEf.call (a:Sl) (b c d:Int) (k:K): K:=zK Tryz.prog 87 [Sl.val a,.int .i64 b,.int .i64 c,.int .i64 d].toArray (jI (.tuple #[]) k)
def zHp.call (a:Int) (k:Int→K): K:=zK Tryz.prog 88 [.int .u64 a].toArray (yH (Value.int .i64) k)
def zAV.call (a:Pt) (b:Sl) (k:K): K:=zK Tryz.prog 89 [.pointer a,Sl.val b].toArray (jI (.tuple #[]) k)
def uI.call (a:Pt) (b:Av) (k:K): K:=zK Tryz.prog 90 [.pointer a,.agg b].toArray (jI (.tuple #[]) k)
def zBT.call (a:Pt) (k:Sl→K): K:=zK Tryz.prog 91 [.pointer a].toArray (yH Sl.val k)
def zCj.call (a:Av) (k:Sl→K): K:=zK Tryz.prog 92 [.agg a].toArray (yH Sl.val k)
def xH.call (a:Sl) (b:Int) (k:Bool→K): K:=zK Tryz.prog 93 [Sl.val a,.int .i64 b].toArray (yH Value.bool k)
def uE.call (a:Pt) (b:Av) (k:Bool→K): K:=zK Tryz.prog 94 [.pointer a,.agg b].toArray (yH Value.bool k)
def yL.call (a:Sl) (b:Value) (k:Int→K): K:=zK Tryz.prog 95 [Sl.val a,b].toArray (yH (Value.int .i64) k)
def zBJ.call (a:Pt) (b:Addr) (k:Bool→K): K:=zK Tryz.prog 96 [.pointer a,(.pointer (some b))].toArray (yH Value.bool k)
def xD.call (a:Pt) (b:Addr) (k:Bool→K): K:=zK Tryz.prog 97 [.pointer a,(.pointer (some b))].toArray (yH Value.bool k)
def uf.call (a:Pt) (b:Av) (k:Bool→K): K:=zK Tryz.prog 98 [.pointer a,.agg b].toArray (yH Value.bool k)
def y8.call (a:Pt) (b:Av) (k:Bool→K): K:=zK Tryz.prog 99 [.pointer a,.agg b].toArray (yH Value.bool k)
def qz.call (a:Sl) (b c:Int) (k:Sl→K): K:=zK Tryz.prog 100 [Sl.val a,.int .i64 b,.int .i64 c].toArray (yH Sl.val k)
def zx.call (a:Pt) (b:Av) (k:Av→K): K:=zK Tryz.prog 101 [.pointer a,.agg b].toArray (yH Value.agg k)
def qj.call (a:Sl) (k:Sl→K): K:=zK Tryz.prog 102 [Sl.val a].toArray (yH Sl.val k)
def qc.call (a:Sl) (b:Value) (k:Int→K): K:=zK Tryz.prog 103 [Sl.val a,b].toArray (yH (Value.int .i64) k)
def xB.call (a:Pt) (b:ByteArray) (k:Pt→K): K:=zK Tryz.prog 104 [.pointer a,.string b].toArray (yH Value.pointer k)
def yA.call (a:Sl) (b:Value) (k:Bool→K): K:=zK Tryz.prog 105 [Sl.val a,b].toArray (yH Value.bool k)
def zBn.call (a:Av) (k:Value→K): K:=zK Tryz.prog 106 [.agg a].toArray (yH id k)
def jH.call (a b:Av) (k:Int→K): K:=zK Tryz.prog 107 [.agg a,.agg b].toArray (yH (Value.int .i64) k)
def yx.call (a:Pt) (b:ByteArray) (k:Av→K): K:=zK Tryz.prog 108 [.pointer a,.string b].toArray (yH Value.agg k)
def xP.call (a:Pt) (k:Value→K): K:=zK Tryz.prog 109 [.pointer a].toArray (yH id k)
def xu.call (a:Sl) (k:Sl→K): K:=zK Tryz.prog 110 [Sl.val a].toArray (yH Sl.val k)
def xY.call (a:Av) (k:Bool→K): K:=zK Tryz.prog 114 [.agg a].toArray (yH Value.bool k)
def zEH.call (a:Av) (b:Addr) (k:Bool→K): K:=zK Tryz.prog 115 [.agg a,(.pointer (some b))].toArray (yH Value.bool k)
def yP.call (a b:Av) (k:Bool→K): K:=zK Tryz.prog 116 [.agg a,.agg b].toArray (yH Value.bool k)
def q8.call (a:Sl) (b:Value) (k:Bool→K): K:=zK Tryz.prog 117 [Sl.val a,b].toArray (yH Value.bool k)
def qm.call (a:Sl) (k:Sl→K): K:=zK Tryz.prog 118 [Sl.val a].toArray (yH Sl.val k)
def xK.call (a:Sl) (k:Sl→K): K:=zK Tryz.prog 119 [Sl.val a].toArray (yH Sl.val k)
def zCg.call (c:Sl) (d f:Int) (k:Av→Bool→K): K:=zK Tryz.prog 121 [Sl.val c,.int .i64 d,.int .i64 f].toArray (zAZ (fun a b=>.tuple #[Value.agg a,Value.bool b]) k)
def xE.call (a:Pt) (b:Int) (k:K): K:=zK Tryz.prog 146 [.pointer a,.int .u64 b].toArray (jI (.tuple #[]) k)
def jg.call (a:Pt) (b:Sl) (k:K): K:=zK Tryz.prog 147 [.pointer a,Sl.val b].toArray (jI (.tuple #[]) k)
def jZ.call (a:Pt) (b:Sl) (k:K): K:=zK Tryz.prog 148 [.pointer a,Sl.val b].toArray (jI (.tuple #[]) k)
def zB1.call (a:Int) (k:Int→K): K:=zK Tryz.prog 149 [.int .i64 a].toArray (yH (Value.int .u64) k)
def uO.call (a:Sl) (k:Sl→K): K:=zK Tryz.prog 150 [Sl.val a].toArray (yH Sl.val k)
def zT.call (a:Sl) (k:Sl→K): K:=zK Tryz.prog 151 [Sl.val a].toArray (yH Sl.val k)
def vO.call (a:Sl) (k:K): K:=zK Tryz.prog 152 [Sl.val a].toArray (jI (.tuple #[]) k)
def zP.call (a:Sl) (k:Sl→K): K:=zK Tryz.prog 153 [Sl.val a].toArray (yH Sl.val k)
def qy.call (a:Sl) (b:Int) (k:Int→K): K:=zK Tryz.prog 154 [Sl.val a,.int .i64 b].toArray (yH (Value.int .i64) k)
def zS.call (a:Sl) (b:Value) (k:Int→K): K:=zK Tryz.prog 155 [Sl.val a,b].toArray (yH (Value.int .i64) k)
def yV.call (a:Pt) (b:Av) (k:K): K:=zK Tryz.prog 156 [.pointer a,.agg b].toArray (jI (.tuple #[]) k)
def yV.zSx (a:Pt) (b:Av) (k:K): K:=zPt Tryz.prog 156 [.pointer a,.agg b].toArray (jI (.tuple #[]) k)
def vJ.call (c:Pt) (d:Av) (k:Av→Sl→K): K:=zK Tryz.prog 157 [.pointer c,.agg d].toArray (zAZ (fun a b=>.tuple #[Value.agg a,Sl.val b]) k)
def xI.call (a:Pt) (b:Sl) (k:K): K:=zK Tryz.prog 158 [.pointer a,Sl.val b].toArray (jI (.tuple #[]) k)
def qK.call (a b:Pt) (c:ByteArray) (k:K): K:=zK Tryz.prog 159 [.pointer a,.pointer b,.string c].toArray (jI (.tuple #[]) k)
def zFW.call (a:Av) (b:Addr) (k:Bool→K): K:=zK Tryz.prog 160 [.agg a,(.pointer (some b))].toArray (yH Value.bool k)
def yj.call (c:Pt) (d:ByteArray) (k:Av→Bool→K): K:=zK Tryz.prog 161 [.pointer c,.string d].toArray (zAZ (fun a b=>.tuple #[Value.agg a,Value.bool b]) k)
def jB.call (a:ByteArray) (b:Int) (k:Int→K): K:=zK Tryz.prog 162 [.string a,.int .i64 b].toArray (yH (Value.int .i64) k)
def ug.call (a:Value) (b:Addr) (k:K): K:=zK Tryz.prog 163 [a,(.pointer (some b))].toArray (jI (.tuple #[]) k)
def zF.call (a b:Pt) (c:Value) (k:Bool→K): K:=zK Tryz.prog 164 [.pointer a,.pointer b,c].toArray (yH Value.bool k)
def xZ.call (a:Sl) (k:Bool→K): K:=zK Tryz.prog 168 [Sl.val a].toArray (yH Value.bool k)
def q9.call (a:Sl) (b:Value) (k:Bool→K): K:=zK Tryz.prog 169 [Sl.val a,b].toArray (yH Value.bool k)
def zCd.call (a:ByteArray) (b:Addr) (k:Bool→K): K:=zK Tryz.prog 170 [.string a,(.pointer (some b))].toArray (yH Value.bool k)
def yw.call (a:Sl) (b:ByteArray) (k:Bool→K): K:=zK Tryz.prog 171 [Sl.val a,.string b].toArray (yH Value.bool k)
def qL.call (a:Sl) (b:Value) (k:Int→K): K:=zK Tryz.prog 172 [Sl.val a,b].toArray (yH (Value.int .i64) k)
def zC0.call (a:Sl) (b:Int) (k:Value→K): K:=zK Tryz.prog 173 [Sl.val a,.int .i64 b].toArray (yH id k)
def zy.call (a:Sl) (b:Int) (k:Sl→K): K:=zK Tryz.prog 190 [Sl.val a,.int .i64 b].toArray (yH Sl.val k)
def zD4.call (a:Sl) (b c d:Int) (k:K): K:=zK Tryz.prog 191 [Sl.val a,.int .i64 b,.int .i64 c,.int .i64 d].toArray (jI (.tuple #[]) k)
def zG.call (a:Sl) (b:Value) (k:Sl→K): K:=zK Tryz.prog 192 [Sl.val a,b].toArray (yH Sl.val k)
def jC.call (a:Pt) (b:Av) (k:Int→K): K:=zK Tryz.prog 193 [.pointer a,.agg b].toArray (yH (Value.int .i64) k)
def yF.call (a:Pt) (b:Av) (k:Int→K): K:=zK Tryz.prog 194 [.pointer a,.agg b].toArray (yH (Value.int .i64) k)
def uo.call (a:Value) (k:Sl→K): K:=zK Tryz.prog 195 [a].toArray (yH Sl.val k)
def yJ.call (a:(Option Nat)) (k:Value→K): K:=zK Tryz.prog 196 [.map a].toArray (yH id k)
def xC.call (a:Pt) (b:ByteArray) (c:Int) (k:Int→K): K:=zK Tryz.prog 197 [.pointer a,.string b,.int .i64 c].toArray (yH (Value.int .i64) k)
def zAe.call (a:Pt) (b:ByteArray) (c:Sl) (k:K): K:=zK Tryz.prog 198 [.pointer a,.string b,Sl.val c].toArray (jI (.tuple #[]) k)
def jS.call (a:Pt) (b:ByteArray) (k:K): K:=zK Tryz.prog 199 [.pointer a,.string b].toArray (jI (.tuple #[]) k)
def qY.call (a:Av) (b c d:Addr) (k:Bool→K): K:=zK Tryz.prog 200 [.agg a,(.pointer (some b)),(.pointer (some c)),(.pointer (some d))].toArray (yH Value.bool k)
def yR.call (c:Pt) (d:ByteArray) (k:Int→Bool→K): K:=zK Tryz.prog 201 [.pointer c,.string d].toArray (zAZ (fun a b=>.tuple #[(Value.int .i64) a,Value.bool b]) k)
def qM.call (a:Sl) (b:Value) (k:Int→K): K:=zK Tryz.prog 202 [Sl.val a,b].toArray (yH (Value.int .i64) k)
def y5.call (a:Sl) (b:ByteArray) (k:Int→K): K:=zK Tryz.prog 203 [Sl.val a,.string b].toArray (yH (Value.int .i64) k)
def yU.call (a:Value) (b c:Addr) (k:K): K:=zK Tryz.prog 204 [a,(.pointer (some b)),(.pointer (some c))].toArray (jI (.tuple #[]) k)
def zCK.call  (k:Pt→K): K:=zK Tryz.prog 205 [].toArray (yH Value.pointer k)
def qp.call (a:Pt) (b:Av) (k:Bool→K): K:=zK Tryz.prog 206 [.pointer a,.agg b].toArray (yH Value.bool k)
def zAF.call (a:Pt) (b:ByteArray) (k:Av→K): K:=zK Tryz.prog 223 [.pointer a,.string b].toArray (yH Value.agg k)
def jc.call (a:Pt) (b:ByteArray) (c:Bool) (d:Sl) (k:K): K:=zK Tryz.prog 224 [.pointer a,.string b,.bool c,Sl.val d].toArray (jI (.tuple #[]) k)
def bytes_Equal.call (a b:Sl) (k:Bool→K): K:=zK Tryz.prog 225 [Sl.val a,Sl.val b].toArray (yH Value.bool k)
def qC.call (a:Pt) (b:Av) (k:Int→K): K:=zK Tryz.prog 226 [.pointer a,.agg b].toArray (yH (Value.int .i64) k)
def uM.call (a:Value) (k:Sl→K): K:=zK Tryz.prog 227 [a].toArray (yH Sl.val k)
def zm.call (a:Value) (b:Addr) (k:K): K:=zK Tryz.prog 228 [a,(.pointer (some b))].toArray (jI (.tuple #[]) k)
def qP.call (a:Pt) (b:ByteArray) (c:Av) (k:K): K:=zK Tryz.prog 229 [.pointer a,.string b,.agg c].toArray (jI (.tuple #[]) k)
def zA.call (c:Sl) (d:ByteArray) (f:Value) (k:Int→Bool→K): K:=zK Tryz.prog 230 [Sl.val c,.string d,f].toArray (zAZ (fun a b=>.tuple #[(Value.int .i64) a,Value.bool b]) k)
def xg.call (a:Av) (b:ByteArray) (k:Int→K): K:=zK Tryz.prog 231 [.agg a,.string b].toArray (yH (Value.int .i64) k)
def jT.call (a b:ByteArray) (k:Int→K): K:=zK Tryz.prog 232 [.string a,.string b].toArray (yH (Value.int .i64) k)
def cmp_isNaN_string.call (a:ByteArray) (k:Bool→K): K:=zK Tryz.prog 238 [.string a].toArray (yH Value.bool k)
def jh.call (c:Sl) (k:Int→Bool→K): K:=zK Tryz.prog 239 [Sl.val c].toArray (zAZ (fun a b=>.tuple #[(Value.int .i64) a,Value.bool b]) k)
def zAv.call (a:Int) (k:Sl→K): K:=zK Tryz.prog 240 [.int .i64 a].toArray (yH Sl.val k)
def xQ.call (a:Sl) (b:Value) (k:Sl→K): K:=zK Tryz.prog 241 [Sl.val a,b].toArray (yH Sl.val k)
def zI.call (c:Pt) (d:ByteArray) (k:Av→Bool→K): K:=zK Tryz.prog 242 [.pointer c,.string d].toArray (zAZ (fun a b=>.tuple #[Value.agg a,Value.bool b]) k)
def zJ.call (c:Pt) (d:ByteArray) (f:Av) (k:Av→Bool→K): K:=zK Tryz.prog 243 [.pointer c,.string d,.agg f].toArray (zAZ (fun a b=>.tuple #[Value.agg a,Value.bool b]) k)
def zi.call (c:Pt) (d:ByteArray) (k:Av→Bool→K): K:=zK Tryz.prog 245 [.pointer c,.string d].toArray (zAZ (fun a b=>.tuple #[Value.agg a,Value.bool b]) k)
def zU.call (f:Pt) (g:Av) (k:Av→Bool→Pt→Pt→K): K:=zK Tryz.prog 246 [.pointer f,.agg g].toArray (zDQ (fun a b c d=>.tuple #[Value.agg a,Value.bool b,Value.pointer c,Value.pointer d]) k)
def zM.call (a:Sl) (b c:Int) (k:Sl→K): K:=zK Tryz.prog 247 [Sl.val a,.int .i64 b,.int .i64 c].toArray (yH Sl.val k)
def qZ.call (a:Pt) (k:Av→K): K:=zK Tryz.prog 248 [.pointer a].toArray (yH Value.agg k)
def za.call (a:Pt) (b:Int) (k:K): K:=zK Tryz.prog 249 [.pointer a,.int .i64 b].toArray (jI (.tuple #[]) k)
def zN.call (a:Sl) (b:Int) (c:Sl) (k:Sl→K): K:=zK Tryz.prog 250 [Sl.val a,.int .i64 b,Sl.val c].toArray (yH Sl.val k)
def zY.call (a:Sl) (b:Int) (c:Sl) (k:Sl→K): K:=zK Tryz.prog 251 [Sl.val a,.int .i64 b,Sl.val c].toArray (yH Sl.val k)
def zu.call (a:Sl) (k:Sl→K): K:=zK Tryz.prog 252 [Sl.val a].toArray (yH Sl.val k)
def zw.call (a:Sl) (k:Sl→K): K:=zK Tryz.prog 253 [Sl.val a].toArray (yH Sl.val k)
def zZ.call (a:Sl) (b c:Int) (k:Sl→K): K:=zK Tryz.prog 254 [Sl.val a,.int .i64 b,.int .i64 c].toArray (yH Sl.val k)
def uJ.call (a:Sl) (b:Int) (k:K): K:=zK Tryz.prog 256 [Sl.val a,.int .i64 b].toArray (jI (.tuple #[]) k)
def uK.call (a:Sl) (b:Int) (k:K): K:=zK Tryz.prog 258 [Sl.val a,.int .i64 b].toArray (jI (.tuple #[]) k)
def uP.call (a:Sl) (b:Int) (k:K): K:=zK Tryz.prog 259 [Sl.val a,.int .i64 b].toArray (jI (.tuple #[]) k)
def uQ.call (a:Sl) (b:Int) (k:K): K:=zK Tryz.prog 260 [Sl.val a,.int .i64 b].toArray (jI (.tuple #[]) k)
def zV.call (a:Sl) (k:K): K:=zK Tryz.prog 261 [Sl.val a].toArray (jI (.tuple #[]) k)
def zW.call (a:Sl) (k:K): K:=zK Tryz.prog 262 [Sl.val a].toArray (jI (.tuple #[]) k)
end
end Go.Proofs.YtdemfamgieonbaaGreat
namespace Go.Sep
section
open Go
section
variable {P:Program} {σ:List (Nat×Value)} {o:Oper} {w w':World} {v:Value} {x y z:Operand} {T:TypeId}
theorem zGR {vx vy:Value} (ho:o.op = .mapEntry T x y) (hx:ev σ x = some vx) (hy:ev σ y = some vy):∀ v w w',(Instr.mapEntry T vx vy).run P w = .ok v w'→Eff P σ o w (.value v) w':=fun v w w' hr _ _ hs=>by
 simp [execOp,ho,hs.ev hx,hs.ev hy,hr]
theorem zEp {vx vy vz:Value} (ho:o.op = .entryStore T x y z) (hx:ev σ x = some vx) (hy:ev σ y = some vy) (hz:ev σ z = some vz):∀ u w w',(Instr.entryStore T vx vy vz).run P w = .ok u w'→Eff P σ o w .skip w':=fun u w w' hr _ _ hs=>by
 simp [execOp,ho,hs.ev hx,hs.ev hy,hs.ev hz,hr]
theorem zRA {α β:Type} {sem:Sem Value} {c:α→β→Value} {kx:α→β→K} (hs:∀ v w w',sem.run P w = .ok v w'→Eff P σ o w (.value v) w'):WE P σ o (Do2 P sem c kx) (fun u=>u) (fun u=>zAZ c kx u):=fun w ⟨t,u,w',hd,h⟩=>⟨c t u,w',hs _ _ _ hd,t,u,rfl,h⟩
end
section
variable {P:Program} {dl:List Deferred} {n:Nat} {σ:List (Nat×Value)} {k:K} {ops:Array Oper} {Q:Exit→Act→World→Prop} {o:Oper} {S:World→Prop} {ds done:List Nat} {i d:Nat} {t:Scr}
theorem zaM {kk kS:Value→K} (h:∀ u,G dl n ((d,u)::σ) (Al S (kS u)) (Dx P ops Q S ds (i::done) t)) (hi:ops[i]? = some o:=by rfl) (hd:o.dst = some d:=by rfl) (hw:wants ops σ o = some true:=by rfl) (hp:WE P σ o k (fun u=>u) kk)
  (hS:SvA S kk kS) (hn:Nat.ble (d + 1) n = true:=by rfl) (nd:zAy o.op = false:=by rfl):G dl n σ (Al S k) (Ox P ops Q S ds done i 1 t):=fun a w hs ⟨_,hk⟩=>by
 obtain ⟨x,w',hp,h'⟩:=hp w hk
 refine zCy hs hi hw fun hQ=>(zCH (r:=none) hs nd hp ⟨fun _ _ _=>(hS x w' h').1,?_⟩)
 rw [hd,zCz (m:=0)]; exact h x _ w' (hs.put (Nat.le_of_ble_eq_true hn) _) (hS x w' h') hQ
end
set_option maxRecDepth 100000 in
theorem zXP {P:Program} {f:FuncId} {fn:Func} {c:Code} {args:List Value} {kk:Value→K} {k:K} (n:Nat) {w:World} (hk:k w) (hf:P.funcs[f]? = some fn) (hb:fn.body = some c:=by rfl) (hn:fn.ntmps = n:=by rfl) (hl:Nat.ble args.length n = true:=by rfl)
  (h:G [] n (zPn 0 args) k (Cx none P c (zA9 P fn (Ret kk))):=by
   repeat' first
   | intro _
   | (refine zSm ?_; first
     | refine zN2 ?_
     | (refine zSv ?_ rfl; first | refine zSY ?_ | refine zNz ?_)
     | (refine qG 0 ?_ rfl; refine zAP (hp:=by exact zFt) ?_)
     | (refine qG 2 ?_ rfl; first | refine zAP (hp:=by exact zFv) ?_ | (refine zFr ?_; intro b hb; subst hb) | (refine zFs ?_; intro g fs cs hf cb; subst hf))
     | (refine qG 3 ?_ rfl; refine zAP (hp:=by exact zFw) ?_)
     | (refine qG 13 ?_ rfl; refine zAh (hp:=by exact jv) ?_)
     | (refine qG 19 ?_ rfl; first | (refine zSZ (hp:=by exact j3) ?_; intro u; first | refine zHR ?_ | refine zHQ ?_ | refine zCo ?_ | refine zHS ?_ | refine zHT ?_ | refine zHU ?_) | refine zAh (hp:=by exact zAg (zNu rfl rfl rfl)) ?_ | (refine zN1 (hp:=by exact j3) ?_; intro u; first | refine zN3 ?_ | refine zPl ?_ | refine zPm ?_ | skip) | (refine zSa ?_; intro u; first | refine zHR ?_ | refine zHQ ?_ | refine zCo ?_ | refine zHS ?_ | refine zHT ?_ | refine zHU ?_))
     | (refine qG 10 ?_ rfl; first | refine zAP (hp:=by exact zDz) ?_ | refine uF (hp:=by exact zA1) ?_)
     | (refine qG 8 ?_ rfl; refine uF (hp:=by exact zB9) ?_)
     | (refine qG 20 ?_ rfl; first | refine zAP (hp:=by exact zD2) ?_ | refine zAh (hp:=by exact jw) ?_)
     | (refine qG 27 ?_ rfl; refine uF (hp:=by exact zA6) ?_)
     | (refine qG 4 ?_ rfl; first | refine zAP (hp:=by exact zFx) ?_ | refine uF (hp:=by exact zB7) ?_)
     | (refine qG 17 ?_ rfl; refine zIW (hp:=by exact zCb) ?_)
     | (refine qG 1 ?_ rfl; refine zAP (hp:=by exact zFu) ?_)
     | (refine qG 6 ?_ rfl; refine zAP (hp:=by exact zFz) ?_)
     | (refine qG 15 ?_ rfl; refine zBO (hp:=by exact zCX) ?_)
     | (refine qG 16 ?_ rfl; refine zBO (hp:=by exact zCY) ?_)
     | (refine qG 22 ?_ rfl; first | refine zBO (hp:=by exact uw) ?_ | refine zN0 (hp:=by exact uw) ?_)
     | (refine qG 28 ?_ rfl; refine uF (hp:=by exact zA7) ?_)
     | (refine qG 11 ?_ rfl; first | refine uF (hp:=by exact zA2) ?_ | refine zAP (hp:=by exact zD0) ?_ | refine zAh (hp:=by exact jr) ?_ | refine zBO (hp:=by exact zCW) ?_)
     | (refine qG 26 ?_ rfl; first | refine uF (hp:=by exact zA5) ?_ | refine zAP (hp:=by exact zD3) ?_)
     | (refine qG 12 ?_ rfl; first | refine uF (hp:=by exact zA3) ?_ | refine zAP (hp:=by exact zD1) ?_)
     | (refine qG 5 ?_ rfl; refine zAP (hp:=by exact zFy) ?_)
     | (refine qG 7 ?_ rfl; refine uF (hp:=by exact zB8) ?_)
     | (refine qG 9 ?_ rfl; refine uF (hp:=by exact zCA) ?_)
     | (refine qG 14 ?_ rfl; first | refine zAh (hp:=by exact zAg (yC rfl rfl rfl)) ?_ | (refine zAh (hp:=by exact zAr (yC rfl rfl rfl)) ?_; intro u; refine zCo ?_))
     | (refine qG 18 ?_ rfl; refine zIW (hp:=by exact zCc) ?_)
     | (refine qG 99 ?_ rfl; refine zBO (hp:=by exact zRA (zGR rfl rfl rfl)) ?_; intro u; refine zCo ?_)
     | (refine qG 99 ?_ rfl; refine zIW (hp:=by exact zPe (zEp rfl rfl rfl rfl)) ?_)
     | (refine qG 21 ?_ rfl; refine uF (hp:=by exact zA4) ?_)
     | (refine qG 23 ?_ rfl; refine zBO (hp:=by exact zCZ) ?_)
     | (refine qG 24 ?_ rfl; refine zBO (hp:=by exact zCa) ?_)
     | (refine qG 25 ?_ rfl; refine zAh (hp:=by exact jy) ?_)
     | (refine zN4 ?_ ?_ <;> (intro hb; refine zA0 ?_; intro a w hs; try rw [hb] at hs; clear hb; revert hs; revert w; revert a; refine zB6 ?_)))
   | (refine zSn ?_; first
     | refine zN7 ?_
     | (refine zOS ?_; first | (refine zKY ?_; (repeat apply zW4); refine And.intro zET (And.intro ?_ ?_)) | refine zN5 ?_)
     | refine zG6 ?_ ?_ rfl
     | refine zKZ ?_
     | refine zN6 ?_
     | refine zIY ?_
     | refine zKa ?_
     | refine zKb ?_
     | (refine zKh ?_; first | refine zG0 ?_ | refine zG1 ?_)
     | (refine zKi ?_; first | refine zIf ?_ | refine zIe ?_ | refine zIg ?_ | refine zIh ?_)
     | refine zIX ?_
     | refine zG5 ?_ ?_
     | refine zG4 ?_ ?_ ?_
     | refine jq ?_)
   | (refine zSo ?_; first
     | refine zKc ?_
     | refine zG3 ?_
     | refine zG2 ?_
     | refine zN9 ?_
     | refine zIZ ?_
     | refine zIa ?_
     | refine zIb ?_
     | refine zKd ?_
     | refine zQ7 ?_
     | refine zQ8 ?_
     | exact zXH
     | exact zXI
     | exact zXJ
     | refine jq ?_)
   | exact zKW
   | refine zSb ?_
   | (refine zSp ?_; first
     | refine zOB ?_
     | refine zOC ?_
     | refine zKe ?_
     | refine zIc ?_)
   | (refine zSq ?_; first
     | exact zW7
     | exact zW6
     | exact zW8
     | exact zW9
     | exact zXA
     | exact zXB)
   | (refine zSr ?_; first
     | refine zOH ?_
     | refine zOI ?_
     | refine zXC ?_
     | (refine zKf ?_ ?_ <;> (intro hb; refine zA0 ?_; intro a w hs; try rw [hb] at hs; clear hb; revert hs; revert w; revert a; refine zB6 ?_))
     | (refine zOJ ?_ ?_ <;> (intro hb; refine zA0 ?_; intro a w hs; try rw [hb] at hs; clear hb; revert hs; revert w; revert a; refine zB6 ?_))
     | (refine zOT ?_ rfl; first | refine zSf ?_ | refine zOG ?_)
     | (refine x9 0 ?_ rfl; refine zAQ (hp:=by exact zFt) ?_)
     | (refine x9 2 ?_ rfl; first | refine zAQ (hp:=by exact zFv) ?_ | (refine zSg ?_; intro b hb; subst hb) | (refine zFr ?_; intro b hb; subst hb) | (refine zSh ?_; intro g fs cs hf cb; subst hf) | (refine zFs ?_; intro g fs cs hf cb; subst hf))
     | (refine x9 3 ?_ rfl; refine zAQ (hp:=by exact zFw) ?_)
     | (refine x9 13 ?_ rfl; first | refine zBc (hp:=by exact jv) ?_ | refine zEG (hp:=by exact zKk) ?_)
     | (refine x9 10 ?_ rfl; first | refine zAQ (hp:=by exact zDz) ?_ | refine xO (hp:=by exact zA1) ?_ | refine uG (hp:=by exact zA1) ?_)
     | (refine x9 8 ?_ rfl; first | refine xO (hp:=by exact zB9) ?_ | refine uG (hp:=by exact zB9) ?_)
     | (refine x9 20 ?_ rfl; first | refine zAQ (hp:=by exact zD2) ?_ | refine zBc (hp:=by exact jw) ?_ | refine zEG (hp:=by exact zKl) ?_)
     | (refine x9 27 ?_ rfl; first | refine xO (hp:=by exact zA6) ?_ | refine uG (hp:=by exact zA6) ?_)
     | (refine x9 4 ?_ rfl; first | refine zAQ (hp:=by exact zFx) ?_ | refine xO (hp:=by exact zB7) ?_ | refine uG (hp:=by exact zB7) ?_)
     | (refine x9 1 ?_ rfl; refine zAQ (hp:=by exact zFu) ?_)
     | (refine x9 6 ?_ rfl; refine zAQ (hp:=by exact zFz) ?_)
     | (refine x9 28 ?_ rfl; first | refine xO (hp:=by exact zA7) ?_ | refine uG (hp:=by exact zA7) ?_)
     | (refine x9 11 ?_ rfl; first | refine xO (hp:=by exact zA2) ?_ | refine uG (hp:=by exact zA2) ?_ | refine zAQ (hp:=by exact zD0) ?_ | refine zBc (hp:=by exact jr) ?_ | refine zEG (hp:=by exact zKj) ?_)
     | (refine x9 26 ?_ rfl; first | refine xO (hp:=by exact zA5) ?_ | refine uG (hp:=by exact zA5) ?_ | refine zAQ (hp:=by exact zD3) ?_)
     | (refine x9 12 ?_ rfl; first | refine xO (hp:=by exact zA3) ?_ | refine uG (hp:=by exact zA3) ?_ | refine zAQ (hp:=by exact zD1) ?_)
     | (refine x9 5 ?_ rfl; refine zAQ (hp:=by exact zFy) ?_)
     | (refine x9 7 ?_ rfl; first | refine xO (hp:=by exact zB8) ?_ | refine uG (hp:=by exact zB8) ?_)
     | (refine x9 9 ?_ rfl; first | refine xO (hp:=by exact zCA) ?_ | refine uG (hp:=by exact zCA) ?_)
     | (refine x9 14 ?_ rfl; first | refine zBc (hp:=by exact zAg (yC rfl rfl rfl)) ?_ | (refine zBc (hp:=by exact zAr (yC rfl rfl rfl)) ?_; intro u; refine zBl ?_) | refine zEG (hp:=by exact zJt (yC rfl rfl rfl)) ?_ | (refine zEG (hp:=by exact zLD (yC rfl rfl rfl)) ?_; intro u; refine zBl ?_))
     | (refine x9 21 ?_ rfl; first | refine xO (hp:=by exact zA4) ?_ | refine uG (hp:=by exact zA4) ?_)
     | (refine x9 25 ?_ rfl; first | refine zBc (hp:=by exact jy) ?_ | refine zEG (hp:=by exact zKm) ?_)
     | refine jq ?_)
   | (refine zSs ?_; first
     | (refine jY 13 ?_ rfl; first | refine zAE (hp:=by exact jv) ?_ | refine zBe (hp:=by exact jv) ?_)
     | (refine jY 19 ?_ rfl; first | (refine zSk (hp:=by exact j3) ?_; intro u; first | refine zOK ?_ | refine zOU ?_ | refine zBl ?_) | (refine zXD (hp:=by exact j3) ?_; intro u; first | refine zHR ?_ | refine zHQ ?_ | refine zCo ?_ | refine zHS ?_ | refine zHT ?_ | refine zHU ?_) | (refine zSj (hp:=by exact j3) ?_; intro u; first | refine zN3 ?_ | refine zPl ?_ | refine zPm ?_ | skip) | (refine zXE ?_; intro u; first | refine zHR ?_ | refine zHQ ?_ | refine zCo ?_ | refine zHS ?_ | refine zHT ?_ | refine zHU ?_))
     | (refine jY 20 ?_ rfl; first | refine zAE (hp:=by exact jw) ?_ | refine zBe (hp:=by exact jw) ?_)
     | (refine jY 17 ?_ rfl; first | refine zId (hp:=by exact zCb) ?_ | refine zOO (hp:=by exact zCb) ?_)
     | (refine jY 15 ?_ rfl; first | refine zBd (hp:=by exact zCX) ?_ | refine zDy (hp:=by exact zCX) ?_)
     | (refine jY 16 ?_ rfl; first | refine zBd (hp:=by exact zCY) ?_ | refine zDy (hp:=by exact zCY) ?_)
     | (refine jY 22 ?_ rfl; first | refine zBd (hp:=by exact uw) ?_ | refine zDy (hp:=by exact uw) ?_ | refine zOP (hp:=by exact uw) ?_ | refine zSi (hp:=by exact uw) ?_)
     | (refine jY 11 ?_ rfl; first | refine zBd (hp:=by exact zCW) ?_ | refine zDy (hp:=by exact zCW) ?_ | refine zAE (hp:=by exact jr) ?_ | refine zBe (hp:=by exact jr) ?_)
     | (refine jY 14 ?_ rfl; first | refine zAE (hp:=by exact zAg (yC rfl rfl rfl)) ?_ | (refine zAE (hp:=by exact zAr (yC rfl rfl rfl)) ?_; intro u; refine zBl ?_) | refine zBe (hp:=by exact zAg (yC rfl rfl rfl)) ?_ | (refine zBe (hp:=by exact zAr (yC rfl rfl rfl)) ?_; intro u; refine zCo ?_))
     | (refine jY 18 ?_ rfl; first | refine zId (hp:=by exact zCc) ?_ | refine zOO (hp:=by exact zCc) ?_)
     | (refine jY 99 ?_ rfl; first | (refine zaM (hp:=by exact zRA (zGR rfl rfl rfl)) (hS:=zYj) ?_; intro u; refine zBl ?_) | (refine zDy (hp:=by exact zRA (zGR rfl rfl rfl)) ?_; intro u; refine zCo ?_) | refine zId (hp:=by exact zPe (zEp rfl rfl rfl rfl)) ?_ | refine zOO (hp:=by exact zPe (zEp rfl rfl rfl rfl)) ?_)
     | (refine jY 23 ?_ rfl; first | refine zBd (hp:=by exact zCZ) ?_ | refine zDy (hp:=by exact zCZ) ?_)
     | (refine jY 24 ?_ rfl; first | refine zBd (hp:=by exact zCa) ?_ | refine zDy (hp:=by exact zCa) ?_)
     | (refine jY 25 ?_ rfl; first | refine zAE (hp:=by exact jy) ?_ | refine zBe (hp:=by exact jy) ?_)
     | refine jq ?_)
   | refine zKg ?_ ?_
   | refine zOL ?_ ?_
   | exact zOM
   | refine zON ?_
   | (refine zSu ?_; exact zN8)
   | (refine zSt ?_; first
     | refine zOR ?_
     | (refine zSw ?_ rfl; refine zSl ?_)
     | (refine xw 0 ?_ rfl; refine zAR (hp:=by exact zFt) ?_)
     | (refine xw 2 ?_ rfl; first | refine zAR (hp:=by exact zFv) ?_ | (refine zFr ?_; intro b hb; subst hb) | (refine zFs ?_; intro g fs cs hf cb; subst hf))
     | (refine xw 3 ?_ rfl; refine zAR (hp:=by exact zFw) ?_)
     | (refine xw 13 ?_ rfl; refine zBf (hp:=by exact jv) ?_)
     | (refine xw 10 ?_ rfl; first | refine zAR (hp:=by exact zDz) ?_ | refine uH (hp:=by exact zA1) ?_)
     | (refine xw 8 ?_ rfl; refine uH (hp:=by exact zB9) ?_)
     | (refine xw 20 ?_ rfl; first | refine zAR (hp:=by exact zD2) ?_ | refine zBf (hp:=by exact jw) ?_)
     | (refine xw 27 ?_ rfl; refine uH (hp:=by exact zA6) ?_)
     | (refine xw 4 ?_ rfl; first | refine zAR (hp:=by exact zFx) ?_ | refine uH (hp:=by exact zB7) ?_)
     | (refine xw 1 ?_ rfl; refine zAR (hp:=by exact zFu) ?_)
     | (refine xw 6 ?_ rfl; refine zAR (hp:=by exact zFz) ?_)
     | (refine xw 28 ?_ rfl; refine uH (hp:=by exact zA7) ?_)
     | (refine xw 11 ?_ rfl; first | refine uH (hp:=by exact zA2) ?_ | refine zAR (hp:=by exact zD0) ?_ | refine zBf (hp:=by exact jr) ?_)
     | (refine xw 26 ?_ rfl; first | refine uH (hp:=by exact zA5) ?_ | refine zAR (hp:=by exact zD3) ?_)
     | (refine xw 12 ?_ rfl; first | refine uH (hp:=by exact zA3) ?_ | refine zAR (hp:=by exact zD1) ?_)
     | (refine xw 5 ?_ rfl; refine zAR (hp:=by exact zFy) ?_)
     | (refine xw 7 ?_ rfl; refine uH (hp:=by exact zB8) ?_)
     | (refine xw 9 ?_ rfl; refine uH (hp:=by exact zCA) ?_)
     | (refine xw 14 ?_ rfl; first | refine zBf (hp:=by exact zAg (yC rfl rfl rfl)) ?_ | (refine zBf (hp:=by exact zAr (yC rfl rfl rfl)) ?_; intro u; refine zCo ?_))
     | (refine xw 21 ?_ rfl; refine uH (hp:=by exact zA4) ?_)
     | (refine xw 25 ?_ rfl; refine zBf (hp:=by exact jy) ?_)
     | (refine zOQ ?_ ?_ <;> (intro hb; refine zA0 ?_; intro a w hs; try rw [hb] at hs; clear hb; revert hs; revert w; revert a; refine zB6 ?_)))
   | refine zXF ?_
   | refine zXG ?_
   | exact zKX
   | refine jq ?_) :
  zK P f args.toArray kk w:=zOD n hk hf h hb hn hl
end
section
open Go Go.RowKit
def zPv (P:Program) (U:TypeId):Bool:=match P.underlying U with | some (.slice _)=>true | _=>false
def zJI (P:Program) (E n:Nat):Bool:=(P.info? E).map (·.bytes) == some n
theorem zM0 (need:Nat):∀ (r c:Nat),Builtin.growBy need r c ≤ max c (need + (need + 768) / 4)
 | 0,c=>by simp only [Builtin.growBy]; omega
 | r + 1,c=>by
  simp only [Builtin.growBy]
  split
  ·omega
  ·have:=zM0 need r (c + (c + 768) / 4); omega
theorem zLJ {need c:Nat} (h:c < need):Builtin.nextslicecap need c ≤ 2 * need + 800:=by
 unfold Builtin.nextslicecap
 split
 ·omega
 ·split
  ·omega
  ·have:=zM0 need 4 c; omega
theorem fold_size:∀ (us:List Value) (o:Nat) (cs:Array Value),((us.zipIdx o).foldl (fun c p=>c.setIfInBounds p.2 p.1) cs).size = cs.size
 | [],o,cs=>rfl
 | u::us,o,cs=>by simp only [List.zipIdx_cons,List.foldl_cons]; rw [fold_size us (o + 1)]; simp
theorem zDo:∀ (us:List Value) (o:Nat) (cs:Array Value) (j:Nat),j < o∨o + us.length ≤ j→((us.zipIdx o).foldl (fun c p=>c.setIfInBounds p.2 p.1) cs)[j]? = cs[j]?
 | [],o,cs,j,_=>rfl
 | u::us,o,cs,j,h=>by
  simp only [List.zipIdx_cons,List.foldl_cons]
  simp only [List.length_cons] at h
  rw [zDo us (o + 1) _ j (by omega),Array.getElem?_setIfInBounds_ne (by omega)]
theorem zKo:∀ (us:List Value) (o:Nat) (cs:Array Value) (j:Nat),j < us.length→o + us.length ≤ cs.size→((us.zipIdx o).foldl (fun c p=>c.setIfInBounds p.2 p.1) cs)[o + j]? = us[j]?
 | [],o,cs,j,h,_=>by simp at h
 | u::us,o,cs,0,h,hs=>by
  simp only [List.zipIdx_cons,List.foldl_cons,List.length_cons] at hs ⊢
  rw [zDo us (o + 1) _ (o + 0) (by omega)]
  have:o < cs.size:=by omega
  simp [this]
 | u::us,o,cs,j + 1,h,hs=>by
  simp only [List.zipIdx_cons,List.foldl_cons,List.length_cons] at h hs ⊢
  rw [show o + (j + 1) = (o + 1) + j by omega,zKo us (o + 1) _ j (by omega) (by simp; omega)]
  simp
section
variable {P:Program} {B w:World} {Γ:List zB}
theorem zBo {x:Sl} {esz:Nat} {us:List Value} (h:RdC w x esz us):(Builtin.firstCells esz x.n x.val).run P w = .ok us.toArray w:=by
 obtain ⟨a,n,c⟩:=x
 cases a with
 | none=>
  have h1:=h.nil rfl
  have h2:=h.len
  simp only at h1; subst h1
  simp at h2; subst h2
  simp [Builtin.firstCells]
 | some a=>
  have h2:=h.len
  have h3:RdN w a us.toArray:=fun i hi=>by
   have:=h.at' a rfl i (by simpa using hi)
   simpa using this
  have:=run_loadCells (P:=P) h3
  simp only [List.size_toArray,h2] at this
  simp only [Builtin.firstCells]
  exact this
theorem run_askRoom (n:Nat):(askRoom n).run P w = .ok () w:=by
 unfold askRoom
 split
 ·simp [mark,Sem.run]
 ·rfl
theorem zJw {E n:Nat} (h:zJI P E n = true):∃ i,P.info? E = some i∧i.bytes = n:=by
 unfold zJI at h
 cases hi:P.info? E with
 | none=>simp [hi] at h
 | some i=>exact ⟨i,rfl,by simpa [hi] using h⟩
theorem zLK {T U E esz by' Tr:Nat} {s x:Sl} {vs us:List Value} {zv:Value} (h:Holds B (SlC E esz s vs::Γ) w) (hT:sliceT P T E esz = true) (hU:zPv P U = true) (hby:zJI P E by' = true)
  (hz:zBN P E zv) (hzs:zv.cells.size = esz) (hx:RdC w x esz us) (hfl:∀ u ∈ us,yX u = true) (hroom:(2 * (s.n + x.n) + 800) * by' ≤ 2 ^ 48) (hb0:by' ≠ 0) :
  ∃ s' w',(Builtin.append_ #[T,U] Tr #[s.val,x.val]).run P w = .ok s'.val w'∧Holds B (SlC E esz s' (vs++us)::Γ) w'∧s'.n = s.n + x.n∧(s.a.isSome = true→s'.a.isSome = true)∧(s.n + x.n ≤ s.c→s' = ⟨s.a,s.n + x.n,s.c⟩):=by
 obtain ⟨hsl,hsz⟩:=je hT
 obtain ⟨ib,hib,hbytes⟩:=zJw hby
 have hti:(typeInfo E).run P w = .ok ib w:=by simp [typeInfo,program,hib,Sem.run]
 have hU':∃ e,P.underlying U = some (.slice e):=by
  unfold zPv at hU; split at hU
  ·rename_i e he; exact ⟨e,he⟩
  ·cases hU
 obtain ⟨e,hU'⟩:=hU'
 have hrs:=h.rdC (List.mem_cons_self ..)
 have hfc:=zBo (P:=P) hx
 have hulen:=hx.len
 unfold Builtin.append_
 have hget:(#[T,U]:Array TypeId)[0]? = some T:=rfl
 have hget1:(#[T,U]:Array TypeId)[1]? = some U:=rfl
 have hv0:(#[s.val,x.val]:Array Value)[0]? = some s.val:=rfl
 have hv1:(#[s.val,x.val]:Array Value)[1]? = some x.val:=rfl
 simp only [hget,hget1,hv0,hv1]
 simp only [Sem.run_bind,run_underlying hsl,Result.andThen,Sl.val,jD hsz,run_underlying hU',Sem.run_pure,Builtin.lenOf,Bool.false_eq_true,if_false,Bool.not_false,if_true]
 by_cases hn:s.n + x.n ≤ s.c
 ·simp only [hn,if_true]
  simp only [Sem.run_bind,hfc,Result.andThen]
  obtain ⟨sa,sn,sc⟩:=s
  cases sa with
  | none=>
   have h1:=h.fact (p:=sc = 0∧vs.length = sn * esz∧sn ≤ sc) (fun _ ha=>⟨ha.2.2,ha.1,ha.2.1⟩)
   simp only at hn
   have hxn:x.n = 0:=by omega
   have hus:us = []:=by rw [hxn] at hulen; simpa using hulen
   refine ⟨⟨none,sn + x.n,sc⟩,w,by simp,?_,rfl,fun h=>h,fun _=>rfl⟩
   subst hus
   rw [hxn]
   simpa using h
  | some a=>
   obtain ⟨hl,hc,hsp,cs,fz,hcond⟩:vs.length = sn * esz∧sn ≤ sc∧a.spot = none∧∃ cs fz,(w.heap[a.block]? = some (.cells cs E fz))∧(∀ i,a.off ≤ i→i < a.off + sc * esz→¬ (fz.1 ≤ i∧i < fz.2))∧a.off + sc * esz ≤ cs.size∧∀ i,i < vs.length→cs[a.off + i]? = vs[i]?:=by
    obtain ⟨_,h1,h2,⟨hl,hc,hsp,cs,fz,hb,hf,hsz,hv⟩,_,l1,_,_⟩:=h
    exact ⟨hl,hc,hsp,cs,fz,zGv l1 hb,hf,hsz,hv⟩
   obtain ⟨hb,hf,hcap,hv⟩:=hcond
   obtain ⟨b,off,sp⟩:=a
   simp only at hsp hb hf hcap hv; subst hsp
   simp only at hn
   have hmul:sn * esz + us.length ≤ sc * esz:=by rw [hulen,← Nat.add_mul]; exact Nat.mul_le_mul_right _ hn
   have hst:(storeCells ((⟨b,off,none⟩:Addr).add (sn * esz)) us).run P w = .ok () (setCells ((⟨b,off,none⟩:Addr).add (sn * esz)) us 0 w):=by
    refine zBk us 0 w hfl fun j hj=>?_
    rw [uV,uV]
    have hlt:off + sn * esz + (0 + j) < cs.size:=by omega
    exact ⟨⟨_,vI hb (Array.getElem?_eq_getElem hlt)⟩,zAf hb (hf _ (by omega) (by omega))⟩
   refine ⟨⟨some ⟨b,off,none⟩,sn + x.n,sc⟩,setCells ((⟨b,off,none⟩:Addr).add (sn * esz)) us 0 w,by simp [hst],?_,rfl,fun _=>rfl,fun _=>rfl⟩
   rw [uV,zBS _ _ _ _ _ hb]
   have h2:Holds B (blk b (.cells cs E fz)::Γ) w:=h.imp' hb
   have h3:=h2.setBlock (o':=.cells ((us.zipIdx (off + sn * esz + 0)).foldl (fun c p=>c.setIfInBounds p.2 p.1) cs) E fz) rfl
   refine h3.imp fun g hg=>?_
   refine ⟨?_,hn,rfl,_,fz,hg,hf,?_,?_⟩
   ·simp [hl,hulen,Nat.add_mul]
   ·rw [fold_size]; exact hcap
   ·intro i hi
    simp only [List.length_append] at hi
    simp only [Nat.add_zero]
    by_cases hlt:i < vs.length
    ·rw [zDo _ _ _ _ (by omega),List.getElem?_append_left hlt]; exact hv i hlt
    ·rw [show off + i = off + sn * esz + (i - vs.length) by omega,zKo _ _ _ _ (by omega) (by omega),List.getElem?_append_right (by omega)]
 ·simp only [hn,if_false]
  have hsn:=h.fact (p:=vs.length = s.n * esz∧s.n ≤ s.c) (fun _ ha=>⟨ha.1,ha.2.1⟩)
  have hcap:=zLJ (show s.c < s.n + x.n by omega)
  have hcap2:¬ (Builtin.nextslicecap (s.n + x.n) s.c * ib.bytes > 2 ^ 48):=by
   rw [hbytes]
   have:=Nat.mul_le_mul_right by' hcap
   omega
  have hbig:s.n + x.n < 2 ^ 60:=by
   have:(2 * (s.n + x.n) + 800) * 1 ≤ (2 * (s.n + x.n) + 800) * by':=Nat.mul_le_mul_left _ (by omega)
   omega
  have hi64:¬ ((s.n + x.n:Nat):Int) > IntKind.i64.max:=by simp [IntKind.max,IntKind.signed,IntKind.bits]; omega
  simp only [Sem.run_bind,hti,Result.andThen]
  rw [if_neg (by rintro ⟨h1,_⟩; exact hi64 h1)]
  simp only [Sem.run_bind,hti,Result.andThen,Sem.run_pure]
  rw [if_neg hcap2]
  obtain ⟨newCap,w1,hch,hle,hw1⟩:∃ nc w1,(choose (.appendCap (s.n + x.n) s.c E)).run P w = .ok nc w1∧s.n + x.n ≤ nc∧w1 = { w with drawn:=w.drawn + 1 }:=by
   refine ⟨(Question.appendCap (s.n + x.n) s.c E).cut (w.tape w.drawn (.appendCap (s.n + x.n) s.c E)),_,by simp [choose,Sem.run,Question.forced],?_,rfl⟩
   simp only [Question.cut]; omega
  have h1:Holds B (SlC E esz s vs::Γ) w1:=by rw [hw1]; exact h.drew _
  have hx1:RdC w1 x esz us:=⟨hx.len,hx.nil,fun a ha i hi=>by rw [hw1]; exact hx.at' a ha i hi⟩
  have hrs1:=h1.rdC (List.mem_cons_self ..)
  have hti1:(typeInfo E).run P w1 = .ok ib w1:=by simp [typeInfo,program,hib,Sem.run]
  have hf1:=zBo (P:=P) hrs1
  have hf2:=zBo (P:=P) hx1
  simp only [Sl.val] at hf1 hf2
  simp only [hch,hti1,run_askRoom,hf1,hf2,zAU hz,Sem.run_bind,Result.andThen,Sem.run_pure,newRow,newObj,Sem.run]
  refine ⟨⟨some ⟨w1.heap.size,0,none⟩,s.n + x.n,newCap⟩,_,rfl,?_,rfl,fun _=>rfl,(fun hh=>by first | exact hh.elim | exact absurd hh hn)⟩
  have h2:=(h1.tail).alloc (.cells (vs.toArray++us.toArray++Builtin.zeroCells zv.cells (newCap - (s.n + x.n))) E)
  refine h2.imp fun g hg=>⟨?_,hle,rfl,_,(0,0),hg,?_,?_,?_⟩
  ·simp [hsn.1,hulen,Nat.add_mul]
  ·intro i _ _; simp
  ·simp only [Nat.zero_add,Array.size_append,List.size_toArray,hsn.1,hulen,Builtin.zeroCells,Array.size_map,Array.size_range,hzs]
   rw [← Nat.add_mul,← Nat.add_mul]
   exact Nat.mul_le_mul_right _ (by omega)
  ·intro i hi
   simp only [Nat.zero_add]
   rw [Array.getElem?_append_left (by simpa using hi)]
   simp [List.getElem?_append,Array.getElem?_append]
theorem zLL {T U E esz by' Tr:Nat} {s x:Sl} {vs us:List Value} {zv:Value} {k:Sl→K} (h:Holds B (SlC E esz s vs::Γ) w) (hT:sliceT P T E esz = true) (hU:zPv P U = true) (hby:zJI P E by' = true)
  (hz:zBN P E zv) (hzs:zv.cells.size = esz) (hx:RdC w x esz us) (hfl:∀ u ∈ us,yX u = true) (hroom:(2 * (s.n + x.n) + 800) * by' ≤ 2 ^ 48) (hb0:by' ≠ 0)
  (hk:∀ s' w',Holds B (SlC E esz s' (vs++us)::Γ) w'→s'.n = s.n + x.n→(s.a.isSome = true→s'.a.isSome = true)→k s' w'):Do P (Builtin.append_ #[T,U] Tr #[s.val,x.val]) Sl.val k w:=by
 obtain ⟨s',w',hr,hh,hn,ha,_⟩:=zLK (Tr:=Tr) h hT hU hby hz hzs hx hfl hroom hb0
 exact ⟨s',w',hr,hk s' w' hh hn ha⟩
theorem zEI {b E esz n:Nat} {vs:List Value} {cs:Array Value} (hc:cs.toList = vs) (hn:vs.length = n * esz) (g:Hp) (h:blk b (.cells cs E (0,0)) g):SlC E esz ⟨some ⟨b,0,none⟩,n,n⟩ vs g:=by
 subst hc
 refine ⟨hn,Nat.le_refl _,rfl,cs,(0,0),h,fun i _ _=>by simp,?_,fun i hi=>?_⟩
 ·simp at hn ⊢; omega
 ·simp
theorem Holds.zAk (h:Holds B Γ w) (E esz:Nat):Holds B (SlC E esz ⟨none,0,0⟩ []::Γ) w:=by
 refine ⟨h.below,fun _=>Option.none,_,⟨by simp,Nat.le_refl _,rfl⟩,h.stars,fun _ _ e=>(by cases e),Hp.le_refl _,fun _=>.inl rfl⟩
theorem RdC.zLM {b E esz n:Nat} {vs:List Value} {cs:Array Value} (h:Holds B Γ w) (hm:blk b (.cells cs E (0,0)) ∈ Γ) (hc:cs.toList = vs) (hn:vs.length = n * esz) (c:Nat):RdC w ⟨some ⟨b,0,none⟩,n,c⟩ esz vs:=by
 subst hc
 refine ⟨hn,(fun hh=>by cases hh),fun a ha i hi=>?_⟩
 cases ha
 rw [uV,Nat.zero_add]
 have h1:=h.zSJ hm
 have h2:cs.toList[i]? = some cs.toList[i]:=by simp [hi]
 rw [h2]
 have h3:cs[i]? = some (cs.toList[i]):=by rw [← h2]; simp
 exact vI h1 h3
theorem zIj {l:List Value} (h:l.all yX = true):∀ v ∈ l,yX v = true:=List.all_eq_true.1 h
theorem zFX (xs:List UInt8):∀ u ∈ xs.map jm,yX u = true:=fun u hu=>by
 obtain ⟨b,_,rfl⟩:=List.mem_map.1 hu; rfl
end
end
section
open Go Go.RowKit Go.ChangeShapes Go.WideShapes Go.ChangeAt Go.Deep
inductive Sh where
 | bool
 | int (k:IntKind)
 | str
 | sl (e:Sh) (esz:Nat)
 | nil
 | fld (off n:Nat) (s rest:Sh)
def Rdy (w:World):Sh→List Value→Prop
 | .bool,cs=>∃ b,cs = [.bool b]
 | .int k,cs=>∃ n,cs = [.int k n]∧(Lit.int k n).wf = true
 | .str,cs=>∃ s:ByteArray,cs = [.string s]∧s.size ≤ maxLen
 | .sl e esz,cs=>∃ s:Sl,cs = [s.val]∧s.n ≤ s.c∧s.c ≤ maxLen∧(s.a = none→s.n = 0∧s.c = 0) ∧
   ∀ a i,s.a = some a→i < s.n→∃ cs',cs'.length = esz∧(∀ j,j < esz→w.cell? (a.add (i * esz + j)) = cs'[j]?)∧Rdy w e cs'
 | .nil,_=>True
 | .fld off n s rest,cs=>Rdy w s ((cs.drop off).take n)∧Rdy w rest cs
def zOV (P:Program):Nat→TypeId→Sh
 | 0,_=>.nil
 | n + 1,t=>match P.underlying t with
  | some .bool=>.bool
  | some (.int k)=>.int k
  | some .string=>.str
  | some (.slice e)=>.sl (zOV P n e) (P.cellsOf e)
  | some (.struct fs)=>fs.toList.foldr (fun f r=>.fld f.offset (P.cellsOf f.type) (zOV P n f.type) r) .nil
  | some (.array m e)=>(List.range m).foldr (fun i r=>.fld (i * P.cellsOf e) (P.cellsOf e) (zOV P n e) r) .nil
  | _=>.nil
section
variable {H:Type} {enc:TypeId×Value→H} {P:Program} {w:World} {base:Nat} {spare:Nat→Bool} {held:Bool}
theorem zPw {cs:List Value} {g:Field→Sh}:∀ (fs:List Field),(∀ f ∈ fs,Rdy w (g f) ((cs.drop f.offset).take (P.cellsOf f.type))) →
  Rdy w (fs.foldr (fun f r=>.fld f.offset (P.cellsOf f.type) (g f) r) .nil) cs
 | [],_=>trivial
 | f::fs,h=>⟨h f (by simp),zPw fs fun x hx=>h x (by simp [hx])⟩
theorem zEj:∀ (n:Nat) (t:TypeId) (fuel:Nat) (cs:List Value) (x:DataW H×List MemPlace),DataW.trod enc P w base spare held fuel t cs = some x→Rdy w (zOV P n t) cs
 | 0,_,_,_,_,_=>trivial
 | n + 1,t,fuel,cs,x,h=>by
  unfold zOV
  split
  ·rename_i hu; obtain ⟨b,hb,_⟩:=DataW.trod_bool hu h; exact ⟨b,hb⟩
  ·rename_i k hu; obtain ⟨b,hb,_,hw⟩:=DataW.trod_int hu h; exact ⟨b,hb,hw⟩
  ·rename_i hu; obtain ⟨s,hs,_,hw⟩:=DataW.trod_string hu h; exact ⟨s,hs,hw⟩
  ·rename_i e hu
   rcases open_slice hu h with ⟨rfl,_⟩ | ⟨a,len,cap,m,n',D,Pl,rfl,hb,hl,hm,hmm,hx,hi⟩
   ·exact ⟨⟨none,0,0⟩,rfl,Nat.le_refl _,Nat.zero_le _,fun _=>⟨rfl,rfl⟩,(fun a i ha=>by cases ha)⟩
   ·refine ⟨⟨some a,len,cap⟩,rfl,hl,hm,(fun hn=>by cases hn),fun a' i ha hi'=>?_⟩
    cases ha
    simp only at hi'
    obtain ⟨cs',hc,ht⟩:=hi i (by rw [hmm]; split <;> omega)
    obtain ⟨_,hlen,hcell⟩:=World.cells?_some hc
    refine ⟨cs',hlen,fun j hj=>?_,zEj n e _ cs' _ ht⟩
    rw [← Go.Deep.add_add]
    exact hcell j hj
  ·rename_i fs hu
   obtain ⟨xs,n',_,_,hlen,hxl,hf⟩:=DataW.trod_struct hu h
   refine zPw _ fun f hf'=>?_
   obtain ⟨i,hi⟩:=List.mem_iff_getElem?.1 hf'
   have hi':fs[i]? = some f:=by simpa using hi
   have h1:=hf i f hi'
   have hlt:i < xs.length:=by rw [hxl]; exact (Array.getElem?_eq_some_iff.1 hi').1
   rw [List.getElem?_eq_getElem hlt] at h1
   exact zEj n f.type _ _ _ h1
  ·rename_i m e hu
   obtain ⟨xs,n',_,_,hlen,hxl,hf⟩:=DataW.trod_array hu h
   have key:∀ l:List Nat,(∀ i ∈ l,i < m)→Rdy w (l.foldr (fun i r=>.fld (i * P.cellsOf e) (P.cellsOf e) (zOV P n e) r) .nil) cs:=by
    intro l
    induction l with
    | nil=>intro _; trivial
    | cons i l ih=>
     intro hl
     have hi:=hl i List.mem_cons_self
     have h1:=hf i hi
     rw [List.getElem?_eq_getElem (by omega)] at h1
     exact ⟨zEj n e _ _ _ h1,ih fun j hj=>hl j (List.mem_cons_of_mem _ hj)⟩
   exact key _ fun i hi=>List.mem_range.1 hi
  ·trivial
theorem zJx {n:Nat} {t:TypeId} {v:Value} {d:DataW H} {ps:List MemPlace} (h:DataW.Trod enc P w base spare held t v d ps):Rdy w (zOV P n t) v.cells.toList:=by
 obtain ⟨fuel,h⟩:=h
 exact zEj n t fuel _ _ h
theorem zGS {α:Type} (f:α→List Value) (esz:Nat) (hf:∀ x,(f x).length = esz):∀ (l:List α) (i j:Nat),j < esz→(l.flatMap f)[i * esz + j]? = (l[i]?).bind fun x=>(f x)[j]?
 | [],i,j,_=>by simp
 | x::l,0,j,hj=>by
  simp only [List.flatMap_cons,Nat.zero_mul,Nat.zero_add]
  rw [List.getElem?_append_left (by rw [hf]; exact hj)]; simp
 | x::l,i + 1,j,hj=>by
  simp only [List.flatMap_cons]
  have e:(i + 1) * esz + j = esz + (i * esz + j):=by rw [Nat.add_mul]; omega
  rw [e,List.getElem?_append_right (by rw [hf]; omega),hf,Nat.add_sub_cancel_left,zGS f esz hf l i j hj]; simp
theorem zn {α:Type} (f:α→List Value) (esz:Nat) (hf:∀ x,(f x).length = esz):∀ (l:List α),(l.flatMap f).length = l.length * esz
 | []=>by simp
 | x::l=>by simp only [List.flatMap_cons,List.length_append,hf,zn f esz hf l,List.length_cons,Nat.add_mul]; omega
theorem zJy {α:Type} (R:Nat→α→Prop):∀ (n:Nat),(∀ i,i < n→∃ x,R i x)→∃ l:List α,l.length = n∧∀ i x,l[i]? = some x→R i x
 | 0,_=>⟨[],rfl,fun i x h=>by simp at h⟩
 | n + 1,h=>by
  obtain ⟨l,hl,hr⟩:=zJy R n fun i hi=>h i (by omega)
  obtain ⟨x,hx⟩:=h n (by omega)
  refine ⟨l++[x],by simp [hl],fun i y hy=>?_⟩
  by_cases hi:i < n
  ·rw [List.getElem?_append_left (by omega)] at hy; exact hr i y hy
  ·have hlt:i < (l++[x]).length:=(List.getElem?_eq_some_iff.1 hy).1
   have:i = n:=by simp [hl] at hlt; omega
   subst this
   rw [List.getElem?_append_right (by omega),hl] at hy
   simp at hy; subst hy; exact hx
theorem zIk {α:Type} {s:Sl} {esz:Nat} {e:Sh} (f:α→List Value) (R:α→Prop) (hf:∀ x,(f x).length = esz) (hn:s.a = none→s.n = 0∧s.c = 0)
  (h:∀ a i,s.a = some a→i < s.n→∃ cs',cs'.length = esz∧(∀ j,j < esz→w.cell? (a.add (i * esz + j)) = cs'[j]?)∧Rdy w e cs')
  (hR:∀ cs,cs.length = esz→Rdy w e cs→∃ x,cs = f x∧R x):∃ l:List α,l.length = s.n∧RdC w s esz (l.flatMap f)∧∀ x ∈ l,R x:=by
 cases ha:s.a with
 | none=>exact ⟨[],by rw [(hn ha).1]; rfl,⟨by rw [(hn ha).1]; simp,fun h=>(hn h).1,fun a h=>by rw [ha] at h; cases h⟩,fun x h=>by cases h⟩
 | some a=>
  obtain ⟨l,hl,hr⟩:=zJy (fun i x=>(∀ j,j < esz→w.cell? (a.add (i * esz + j)) = (f x)[j]?)∧R x) s.n (fun i hi=>by
   obtain ⟨cs',h1,h2,h3⟩:=h a i ha hi
   obtain ⟨x,rfl,hx⟩:=hR cs' h1 h3
   exact ⟨x,h2,hx⟩)
  refine ⟨l,hl,⟨by rw [zn f esz hf,hl],(fun h=>by rw [ha] at h; cases h),fun a' h' i hi=>?_⟩,fun x hx=>?_⟩
  ·rw [ha] at h'; cases h'
   rw [zn f esz hf] at hi
   have hpos:0 < esz:=by
                rcases Nat.eq_zero_or_pos esz with h0 | h0
                ·rw [h0] at hi; simp at hi
                ·exact h0
   have e1:i = (i / esz) * esz + i % esz:=by rw [Nat.mul_comm]; exact (Nat.div_add_mod i esz).symm
   have hj:i % esz < esz:=Nat.mod_lt _ hpos
   have hq:i / esz < l.length:=by rw [Nat.div_lt_iff_lt_mul hpos]; exact hi
   rw [e1,zGS f esz hf _ _ _ hj,List.getElem?_eq_getElem hq]
   exact (hr _ _ (List.getElem?_eq_getElem hq)).1 _ hj
  ·obtain ⟨i,hi⟩:=List.mem_iff_getElem?.1 hx
   exact (hr i x hi).2
theorem zVH {s:Sl} (hn:s.a = none→s.n = 0∧s.c = 0)
  (h:∀ a i,s.a = some a→i < s.n→∃ cs',cs'.length = 1∧(∀ j,j < 1→w.cell? (a.add (i * 1 + j)) = cs'[j]?)∧Rdy w (.int .u8) cs'):∃ xs:List UInt8,xs.length = s.n∧RdB w s xs:=by
 obtain ⟨l,hl,hr,_⟩:=zIk (e:=.int .u8) (fun b:UInt8=>[jm b]) (fun _=>True) (fun _=>rfl) hn h (fun cs hc hr=>by
  obtain ⟨n,rfl,hw⟩:=hr
  have hb:0 ≤ n∧n ≤ 255:=by simpa [Lit.wf,IntKind.min,IntKind.max,IntKind.signed,IntKind.bits] using hw
  refine ⟨UInt8.ofNat n.toNat,?_,trivial⟩
  simp only [jm,List.cons.injEq,Value.int.injEq,true_and,and_true]
  simp; omega)
 have:∀ l:List UInt8,l.flatMap (fun b:UInt8=>[jm b]) = l.map jm:=fun l=>by induction l with
  | nil=>rfl
  | cons x l ih=>simp [List.flatMap_cons,ih]
 rw [this] at hr
 exact ⟨l,hl,hr⟩
end
section
variable {H:Type} {enc:TypeId×Value→H} {P:Program}
theorem zHq (hl:laidOutB P = true) {W W':World} (hb:Below W.heap.size W W') {sp:Nat→Bool}:∀ (ts:List TypeId) (vs:List Value) (ds:List (DataW H)) (ps:List MemPlace),
  (∀ t ∈ ts,P.readableRec t = true∧t < P.types.size)→(∀ x ∈ ps,x.block < W.heap.size∧sp x.block = true)→DataW.TrodAll enc P W 0 (fun _=>true) true ts vs ds ps→DataW.TrodAll enc P W' 0 sp true ts vs ds ps
 | [],vs,ds,ps,_,_,h=>by
  cases vs <;> cases ds <;> simp [DataW.TrodAll] at h ⊢ <;> exact h
 | t::ts,vs,ds,ps,ht,hlt,h=>by
  cases vs with
  | nil=>simp [DataW.TrodAll] at h
  | cons v vs=>
   cases ds with
   | nil=>simp [DataW.TrodAll] at h
   | cons d ds=>
    obtain ⟨p,q,h1,h2,rfl⟩:=h
    exact ⟨p,q,WideElems.Trod_stays hl (ht t (by simp)).1 (ht t (by simp)).2 h1 (fun x hx=>hb.same (hlt x (by simp [hx])).1) (fun x hx=>(hlt x (by simp [hx])).2),
     zHq hl hb ts vs ds q (fun t' h'=>ht t' (by simp [h'])) (fun x hx=>hlt x (by simp [hx])) h2,rfl⟩
theorem zTt {b:Nat} {sp:Nat→Bool} {hd:Bool} {W:World} {t:TypeId} (ht:P.underlying t = some .bool):DataW.TrodAll enc P W b sp hd [t] [.bool true] [.lit (.bool true)] [] :=
 ⟨[],[],⟨1,by simp [DataW.trod,ht,Value.cells]⟩,rfl,rfl⟩
theorem zXQ {W W':World} {e:Ending} (h:Ret (fun v w'=>v = .bool true∧Below W.heap.size W w') e W'):e = .returned (.bool true)∧Below W.heap.size W W':=by
 cases e with
 | returned v=>exact ⟨by rw [h.1],h.2⟩
 | panicked c=>exact h.elim
 | outgrown=>exact h.elim
theorem zVI {P:Program} {f:FuncId} {args:Array Value} {W:World} (h:zK P f args (fun v w=>∃ r:Bool,v = .bool r∧(r = true∧Holds W [] w)) W) :
  Calls P f args W (Ret fun v w'=>v = .bool true∧Below W.heap.size W w'):=h.mono fun e w' he=>by
 cases e with
 | returned v=>obtain ⟨r,rfl,rfl,hh⟩:=he; exact ⟨rfl,hh.below⟩
 | panicked c=>exact he.elim
 | outgrown=>exact he.elim
theorem zVJ {f:Func} {s:ChangeSpec} {apart fresh handsOn again:Bool} {W W':World} {args:Array Value} {ds:List (DataW H)} {p:List MemPlace} {t:TypeId}
  (hl:laidOutB P = true) (hts:f.params.toList.all (fun t=>P.readableRec t && decide (t < P.types.size)) = true) (hrt:f.resultTypes = #[t]) (ht:P.underlying t = some .bool)
  (hW:DataW.Whole enc P f.params.toList s.vars apart W args.toList ds [] p) (hvs:s.vars = []) (hA:DataW.TrodAll enc P W 0 (fun _=>true) true f.params.toList args.toList ds p)
  (hsr:(s.fn H (ds++[])).results = [.lit (.bool true)]) (hsa:(s.fn H (ds++[])).args = ds) (hsv:(s.fn H (ds++[])).vars = []) (hb:Below W.heap.size W W') :
  s.post enc P f apart fresh handsOn again W args (.bool true) W':=by
 have hlt:∀ x ∈ p,x.block < W.heap.size:=fun x hx=>hW.lt x hx
 have hts':∀ t ∈ f.params.toList,P.readableRec t = true∧t < P.types.size:=fun t ht=>by
  have:=List.all_eq_true.1 hts t ht
  simpa using this
 have hold:∀ x ∈ p,(fun b=>decide (b < W.heap.size)) x.block = true:=fun x hx=>by simpa using hlt x hx
 have hres:∀ (b:Nat) (sp:Nat→Bool) (hd:Bool),DataW.TrodAll enc P W' b sp hd f.resultTypes.toList ((Value.bool true).resultList f.resultTypes.size) (s.fn H (ds++[])).results []:=fun b sp hd=>by
  rw [hsr,hrt]; exact zTt ht
 have hargs:∀ sp:Nat→Bool,(∀ x ∈ p,sp x.block = true)→DataW.TrodAll enc P W' 0 sp true f.params.toList args.toList (s.fn H (ds++[])).args p:=fun sp hsp=>by
  rw [hsa]; exact zHq hl hb _ _ _ _ hts' (fun x hx=>⟨hlt x hx,hsp x hx⟩) hA
 have hvars:∀ sp:Nat→Bool,DataW.TrodVars enc P W' sp s.vars (s.fn H (ds++[])).vars []:=fun sp=>by
  rw [hsv,hvs]; rfl
 refine ⟨ds,[],p,[],p,[],hW,hres _ _ _,hargs _ hold,hvars _,World.keptBut_mono (fun x hx=>⟨hx,Or.inr (Or.inl hx)⟩) (hb.frame (· ∈ p)),fun _=>?_⟩
 obtain ⟨_,_,_,_,_,hz,hn⟩:=hW
 refine ⟨?_,_,_,([]++p)++[],⟨[]++p,[],trodAll_append (hargs _ (fun _ _=>rfl)) (hres _ _ _),hvars _,rfl,?_,?_⟩,?_⟩
 ·intro j t' r h1 h2
  rw [hrt] at h1 h2
  match j with
  | 0=>
   simp at h1; subst h1
   have h3:((Value.bool true).resultList 1) = [.bool true]:=rfl
   have h4:(#[t]:Array TypeId).size = 1:=rfl
   rw [h4,h3] at h2
   simp at h2; subst h2
   exact okWide_bool_mk ht _
  | j + 1=>simp at h1
 ·intro b off hp
  have hin:MemPlace.cell b off ∈ p:=by simpa using hp
  rw [hb.frozen (hlt _ hin)]
  exact hz b off hin
 ·intro ha
  have:=hn ha
  simpa using this
 ·intro x hx _
  simpa using hx
end
end
section
open Go Go.RowKit
section
variable {P:Program} {B w:World} {Γ:List zB} {E esz:Nat} {s:Sl} {vs:List Value}
theorem SlC.take {m:Nat} (hm:m ≤ s.n) (g:Hp) (h:SlC E esz s vs g):SlC E esz ⟨s.a,m,s.c⟩ (vs.take (m * esz)) g:=by
 obtain ⟨hl,hc,hs⟩:=h
 have h1:m * esz ≤ vs.length:=by rw [hl]; exact Nat.mul_le_mul_right _ hm
 refine ⟨by simp only [List.length_take]; omega,by simp only; omega,?_⟩
 cases ha:s.a with
 | none=>rw [ha] at hs; exact hs
 | some a=>
  rw [ha] at hs
  obtain ⟨hsp,cs,fz,hb,hf,hsz,hv⟩:=hs
  refine ⟨hsp,cs,fz,hb,hf,hsz,fun i hi=>?_⟩
  rw [List.length_take] at hi
  rw [List.getElem?_take,if_pos (by omega)]
  exact hv i (by omega)
theorem RdC.drop {l c:Nat} (h:RdC w s esz vs) (hl:l ≤ s.n) (hc:s.n ≤ c) (hsp:∀ a,s.a = some a→a.spot = none):RdC w ⟨zBj s.a l c esz,s.n - l,c - l⟩ esz (vs.drop (l * esz)):=by
 have h1:=h.len
 refine ⟨by rw [List.length_drop,h1,← Nat.sub_mul],fun hn=>?_,fun a ha i hi=>?_⟩
 ·simp only at hn ⊢
  unfold zBj at hn
  split at hn
  ·have:=h.nil hn; omega
  ·cases hx:s.a with
   | none=>have:=h.nil hx; omega
   | some a=>rw [hx] at hn; cases hn
 ·simp only at ha
  rw [List.length_drop] at hi
  unfold zBj at ha
  split at ha
  ·rename_i hcl
   have:s.n = l:=by omega
   rw [h1,this] at hi
   omega
  ·cases hx:s.a with
   | none=>rw [hx] at ha; cases ha
   | some a0=>
    rw [hx] at ha
    simp only [Option.map_some,Option.some.injEq] at ha
    subst ha
    rw [add_add' _ (hsp a0 hx),h.at' a0 hx _ (by omega),List.getElem?_drop]
theorem RdC.take {m c:Nat} (h:RdC w s esz vs) (hm:m ≤ s.n):RdC w ⟨s.a,m,c⟩ esz (vs.take (m * esz)):=by
 have h1:=h.len
 have h2:m * esz ≤ vs.length:=by rw [h1]; exact Nat.mul_le_mul_right _ hm
 refine ⟨by simp only [List.length_take]; omega,fun hn=>?_,fun a ha i hi=>?_⟩
 ·have:=h.nil hn; simp only; omega
 ·rw [List.length_take] at hi
  rw [List.getElem?_take,if_pos (by omega)]
  exact h.at' a ha i (by omega)
theorem Holds.zLN (h:Holds B (SlC E esz s vs::Γ) w):vs.length = s.n * esz∧s.n ≤ s.c∧(∀ a,s.a = some a→a.spot = none)∧(s.a = none→s.c = 0):=by
 refine h.fact fun g hg=>⟨hg.1,hg.2.1,fun a ha=>?_,fun ha=>?_⟩
 ·have:=hg.2.2; rw [ha] at this; exact this.1
 ·have:=hg.2.2; rw [ha] at this; exact this
theorem zGT (z:Array Value) (n:Nat) (hz:∀ v ∈ z.toList,yX v = true):∀ v ∈ (Builtin.zeroCells z n).toList,yX v = true:=by
 intro v hv
 simp only [Builtin.zeroCells,Array.toList_map,List.mem_map] at hv
 obtain ⟨i,hi,rfl⟩:=hv
 have hi':i < n * z.size:=by simpa using hi
 have hpos:0 < z.size:=Nat.pos_of_ne_zero fun h0=>by rw [h0] at hi'; simp at hi'
 have hlt:i % z.size < z.size:=Nat.mod_lt _ hpos
 rw [getElem!_pos z (i % z.size) hlt]
 exact hz _ (by simp)
theorem zXR {T t:Nat} {l q m:Nat} {zv:Value} {k:Value→K} (h:Holds B (SlC E esz s vs::Γ) w) (hT:sliceT P T E esz = true) (hz:zBN P E zv) (hzs:zv.cells.size = esz) (hzf:∀ v ∈ zv.cells.toList,yX v = true)
  (hl:s.n ≤ l) (hq:l + q ≤ s.c) (hm:q = 0∨m ≠ l) {x:Sl} (hx:x = ⟨zBj s.a l m esz,q,m - l⟩) (hk:∀ w',Holds B (SlC E esz s vs::Γ) w'→k (.tuple #[]) w') :
  Do P (Builtin.clear_ #[T] t #[x.val]) id k w:=by
 subst hx
 obtain ⟨hsl,hsz⟩:=je hT
 have hsn:=h.zLN
 have hg0:(#[T]:Array TypeId)[0]? = some T:=rfl
 by_cases hq0:q = 0
 ·subst hq0
  refine ⟨.tuple #[],w,?_,hk w h⟩
  unfold Builtin.clear_
  have hv0:(#[Sl.val ⟨zBj s.a l m esz,0,m - l⟩]:Array Value)[0]? = some (Sl.val ⟨zBj s.a l m esz,0,m - l⟩):=rfl
  simp only [hg0,hv0]
  simp only [Sem.run_bind,run_underlying hsl,Result.andThen,Sl.val]
  cases zBj s.a l m esz <;> simp
 ·have hml:m ≠ l:=hm.resolve_left hq0
  cases ha:s.a with
  | none=>have:=hsn.2.2.2 ha; omega
  | some a=>
   have hsp:=hsn.2.2.1 a ha
   obtain ⟨b,off,sp⟩:=a
   simp only at hsp; subst hsp
   have hcut:zBj (some (⟨b,off,none⟩:Addr)) l m esz = some ⟨b,off + l * esz,none⟩:=by
    unfold zBj; rw [if_neg hml]; simp [uV]
   obtain ⟨cs,fz,hb,hf,hcap,hv⟩:∃ cs fz,w.heap[b]? = some (.cells cs E fz)∧(∀ i,off ≤ i→i < off + s.c * esz→¬ (fz.1 ≤ i∧i < fz.2))∧off + s.c * esz ≤ cs.size∧∀ i,i < vs.length→cs[off + i]? = vs[i]?:=by
    obtain ⟨_,h1,h2,⟨_,_,hs⟩,_,l1,_,_⟩:=h
    rw [ha] at hs
    obtain ⟨_,cs,fz,hb,hf,hsz,hv⟩:=hs
    exact ⟨cs,fz,zGv l1 hb,hf,hsz,hv⟩
   have hzl:(Builtin.zeroCells zv.cells q).toList.length = q * esz:=by simp [Builtin.zeroCells,hzs]
   have hmul:l * esz + q * esz ≤ s.c * esz:=by rw [← Nat.add_mul]; exact Nat.mul_le_mul_right _ hq
   have hmul2:s.n * esz ≤ l * esz:=Nat.mul_le_mul_right _ hl
   have hst:(storeCells ⟨b,off + l * esz,none⟩ (Builtin.zeroCells zv.cells q).toList).run P w = .ok () (setCells ⟨b,off + l * esz,none⟩ (Builtin.zeroCells zv.cells q).toList 0 w):=by
    refine zBk _ 0 w (zGT _ _ hzf) fun j hj=>?_
    rw [hzl] at hj
    rw [uV]
    have hlt:off + l * esz + (0 + j) < cs.size:=by omega
    exact ⟨⟨_,vI hb (Array.getElem?_eq_getElem hlt)⟩,zAf hb (hf _ (by omega) (by omega))⟩
   refine ⟨.tuple #[],setCells ⟨b,off + l * esz,none⟩ (Builtin.zeroCells zv.cells q).toList 0 w,?_,hk _ ?_⟩
   ·unfold Builtin.clear_
    rw [hcut]
    have hv0:(#[Sl.val ⟨some ⟨b,off + l * esz,none⟩,q,m - l⟩]:Array Value)[0]? = some (Sl.val ⟨some ⟨b,off + l * esz,none⟩,q,m - l⟩):=rfl
    simp only [hg0,hv0]
    simp only [Sem.run_bind,run_underlying hsl,Result.andThen,Sl.val]
    obtain ⟨q',rfl⟩:∃ q',q = q' + 1:=⟨q - 1,by omega⟩
    simp only [Sem.run_bind,zAU hz,Result.andThen,hst,Sem.run_pure]
    rfl
   ·rw [zBS _ _ _ _ _ hb]
    obtain ⟨sa,sn,sc⟩:=s
    simp only at ha hsn hl hq hf hcap hmul hmul2; subst ha
    have h2:Holds B (blk b (.cells cs E fz)::Γ) w:=h.imp' hb
    have h3:=h2.setBlock (o':=.cells (((Builtin.zeroCells zv.cells q).toList.zipIdx (off + l * esz + 0)).foldl (fun c p=>c.setIfInBounds p.2 p.1) cs) E fz) rfl
    refine h3.imp fun g hg=>⟨hsn.1,hsn.2.1,rfl,_,fz,hg,hf,?_,fun i hi=>?_⟩
    ·rw [fold_size]; exact hcap
    ·have:=hsn.1
     rw [zDo _ _ _ _ (by simp only; omega)]; exact hv i hi
end
end
end Go.Sep
