/- Texts of the claim DurablePlays, one behind the other. -/
import Derived.Below
import Derived.Calls
import Derived.OrdersHeld
import Derived.Still
import Derived.Tactics
import Derived.Laws.Sem
import Derived.KernelRfl
import Derived.Laws.Bits
import Derived.RangeFuncRecord
import Derived.RangeFuncSeq
import Derived.RangeFuncCalls
import Derived.TacticsIn
import Derived.OrdersIn
import Derived.Laws.Externs
import Derived.Test.YtgmbfnboiobeaaaGreatProg
import Derived.Deep.Slices
import Derived.Carry
import Derived.ProofKit
import Derived.OpenShut
import Derived.Laws.BytesString
import Derived.Laws.Strings
set_option linter.all false
set_option maxRecDepth 100000
abbrev Go.Sep.Pt:=Option Go.Addr
abbrev Go.Sep.Av:=Array Go.Value
namespace Go.Sep
section
open Go Go.RowKit
abbrev Hp:=Nat→Option Obj
abbrev zB:=Hp→Prop
def Hp.le (h g:Hp):Prop:=∀ b o,h b = some o→g b = some o
def Hp.zLg (h g:Hp):Prop:=∀ b,h b = none∨g b = none
def Hp.one (b:Nat) (o:Obj):Hp:=fun c=>if c = b then some o else none
def Hp.or (h g:Hp):Hp:=fun b=>match h b with | some o=>some o | none=>g b
theorem Hp.le_refl (h:Hp):h.le h:=fun _ _ e=>e
theorem Hp.le_trans {a b c:Hp} (h:a.le b) (g:b.le c):a.le c:=fun k o e=>g k o (h k o e)
theorem Hp.zED {a b:Hp} (h:a.zLg b):b.zLg a:=fun k=>(h k).symm
theorem Hp.zCx {a b c d:Hp} (h:a.zLg b) (hc:c.le a) (hd:d.le b):c.zLg d:=fun k=>by
 rcases h k with h | h
 ·left; cases e:c k with
  | none=>rfl
  | some o=>have:=hc k o e; rw [h] at this; cases this
 ·right; cases e:d k with
  | none=>rfl
  | some o=>have:=hd k o e; rw [h] at this; cases this
theorem Hp.zGn (a b:Hp):a.le (a.or b):=fun k o e=>by simp [Hp.or,e]
theorem Hp.zFM {a b:Hp} (h:a.zLg b):b.le (a.or b):=fun k o e=>by
 rcases h k with h | h
 ·simp [Hp.or,h,e]
 ·rw [h] at e; cases e
theorem Hp.zTH {a b c:Hp} (ha:a.le c) (hb:b.le c):(a.or b).le c:=fun k o e=>by
 unfold Hp.or at e
 split at e
 ·rename_i x hx; cases e; exact ha _ _ hx
 ·exact hb _ _ e
theorem Hp.zM3 {a b c:Hp} (ha:a.zLg c) (hb:b.zLg c):(a.or b).zLg c:=fun k=>by
 rcases hb k with h | h
 ·rcases ha k with g | g
  ·left; simp [Hp.or,g,h]
  ·right; exact g
 ·right; exact h
def blk (b:Nat) (o:Obj):zB:=fun h=>h b = some o
def pur (p:Prop):zB:=fun _=>p
def ex {α:Sort _} (A:α→zB):zB:=fun h=>∃ x,A x h
def stars:List zB→zB
 | [],_=>True
 | A::Γ,h=>∃ h1 h2,A h1∧stars Γ h2∧h1.le h∧h2.le h∧h1.zLg h2
theorem zOQ {Γ:List zB} {h g:Hp} (hs:stars Γ h) (hl:h.le g):stars Γ g:=by
 cases Γ with
 | nil=>trivial
 | cons A Γ=>
  obtain ⟨h1,h2,a,b,l1,l2,d⟩:=hs
  exact ⟨h1,h2,a,b,Hp.le_trans l1 hl,Hp.le_trans l2 hl,d⟩
theorem zKJ {A:zB} {Γ:List zB} {h:Hp} (hs:stars (A::Γ) h):stars Γ h:=by
 obtain ⟨h1,h2,_,b,_,l2,_⟩:=hs
 exact zOQ b l2
theorem zKK {A B:zB} {Γ:List zB} {h:Hp} (hs:stars (A::B::Γ) h):stars (B::A::Γ) h:=by
 obtain ⟨h1,h2,a,⟨h3,h4,b,c,l3,l4,d'⟩,l1,l2,d⟩:=hs
 refine ⟨h3,h1.or h4,b,⟨h1,h4,a,c,Hp.zGn _ _,?_,?_⟩,Hp.le_trans l3 l2,Hp.zTH l1 (Hp.le_trans l4 l2),?_⟩
 ·exact Hp.zFM (Hp.zCx d (Hp.le_refl _) l4)
 ·exact Hp.zCx d (Hp.le_refl _) l4
 ·exact Hp.zED (Hp.zM3 (Hp.zCx d (Hp.le_refl _) l3) (Hp.zED d'))
theorem zBH {A B:zB} {Γ Δ:List zB} {h:Hp} (ha:∀ h,A h→B h) (hg:∀ h,stars Γ h→stars Δ h) (hs:stars (A::Γ) h):stars (B::Δ) h:=by
 obtain ⟨h1,h2,a,b,l1,l2,d⟩:=hs
 exact ⟨h1,h2,ha _ a,hg _ b,l1,l2,d⟩
theorem zKL {Γ Δ:List zB} (hp:Γ.Perm Δ):∀ {h:Hp},stars Γ h→stars Δ h:=by
 induction hp with
 | nil=>exact fun h=>h
 | cons x _ ih=>exact fun h=>zBH (fun _ h=>h) (fun _ h=>ih h) h
 | swap x y l=>exact zKK
 | trans _ _ ih1 ih2=>exact fun h=>ih2 (ih1 h)
theorem zM4 {Γ Δ:List zB}:∀ {h:Hp},stars (Γ++Δ) h ↔ ∃ h1 h2,stars Γ h1∧stars Δ h2∧h1.le h∧h2.le h∧h1.zLg h2:=by
 induction Γ with
 | nil=>
  intro h
  constructor
  ·intro hs; exact ⟨fun _=>none,h,trivial,hs,fun _ _ e=>(by cases e),Hp.le_refl _,fun _=>.inl rfl⟩
  ·rintro ⟨_,h2,_,hs,_,l,_⟩; exact zOQ hs l
 | cons A Γ ih=>
  intro h
  constructor
  ·rintro ⟨h1,h2,a,b,l1,l2,d⟩
   obtain ⟨h3,h4,c,e,l3,l4,d'⟩:=ih.1 b
   refine ⟨h1.or h3,h4,⟨h1,h3,a,c,Hp.zGn _ _,Hp.zFM (Hp.zCx d (Hp.le_refl _) l3),Hp.zCx d (Hp.le_refl _) l3⟩,e,Hp.zTH l1 (Hp.le_trans l3 l2),Hp.le_trans l4 l2,?_⟩
   exact Hp.zM3 (Hp.zCx d (Hp.le_refl _) l4) d'
  ·rintro ⟨h1,h2,⟨h3,h4,a,c,l3,l4,d'⟩,b,l1,l2,d⟩
   refine ⟨h3,h4.or h2,a,ih.2 ⟨h4,h2,c,b,Hp.zGn _ _,Hp.zFM (Hp.zCx d l4 (Hp.le_refl _)),Hp.zCx d l4 (Hp.le_refl _)⟩,Hp.le_trans l3 l1,Hp.zTH (Hp.le_trans l4 l1) l2,?_⟩
   exact Hp.zED (Hp.zM3 (Hp.zED d') (Hp.zED (Hp.zCx d l3 (Hp.le_refl _))))
def own (B w:World):Hp:=fun b=>if b < B.heap.size then none else w.heap[b]?
theorem zFN {B w:World} {b:Nat} {o:Obj} (h:own B w b = some o):B.heap.size ≤ b∧w.heap[b]? = some o:=by
 unfold own at h
 split at h
 ·cases h
 ·exact ⟨by omega,h⟩
structure Holds (B:World) (Γ:List zB) (w:World):Prop where
 below:Below B.heap.size B w
 stars:stars Γ (own B w)
section
variable {B w:World} {Γ Δ:List zB} {A A':zB}
theorem Holds.start (B:World):Holds B [] B:=⟨Below.refl _ _,trivial⟩
theorem Holds.perm (h:Holds B Γ w) (hp:Γ.Perm Δ):Holds B Δ w:=⟨h.below,zKL hp h.stars⟩
theorem Holds.tail (h:Holds B (A::Γ) w):Holds B Γ w:=⟨h.below,zKJ h.stars⟩
theorem Holds.swap {A A':zB} (h:Holds B (A::A'::Γ) w):Holds B (A'::A::Γ) w:=⟨h.below,zKK h.stars⟩
theorem Holds.imp (h:Holds B (A::Γ) w) (hi:∀ h,A h→A' h):Holds B (A'::Γ) w:=⟨h.below,zBH hi (fun _ h=>h) h.stars⟩
theorem zIS {α:Type _}:∀ {l:List α} {i:Nat} {x:α},l[i]? = some x→l.Perm (x::l.eraseIdx i)
 | [],i,x,h=>by simp at h
 | y::l,0,x,h=>by simp at h; subst h; simp
 | y::l,i + 1,x,h=>by
  simp only [List.getElem?_cons_succ] at h
  exact ((zIS h).cons y).trans (.swap _ _ _)
theorem Holds.pick (i:Nat) (h:Holds B Γ w) (hi:Γ[i]? = some A):Holds B (A::Γ.eraseIdx i) w:=h.perm (zIS hi)
theorem Holds.del (i:Nat) (h:Holds B Γ w) (hi:Γ[i]? = some A):Holds B (Γ.eraseIdx i) w:=(h.pick i hi).tail
theorem zOR {α:Type _}:∀ {l:List α} {i:Nat} {x y:α},l[i]? = some x→(y::l.eraseIdx i).Perm (l.set i y)
 | [],i,x,y,h=>by simp at h
 | z::l,0,x,y,h=>by simp
 | z::l,i + 1,x,y,h=>by
  simp only [List.getElem?_cons_succ] at h
  exact (List.Perm.swap _ _ _).trans ((zOR h).cons z)
theorem Holds.put (i:Nat) (hi:Γ[i]? = some A) (h:Holds B (A'::Γ.eraseIdx i) w):Holds B (Γ.set i A') w:=h.perm (zOR hi)
theorem Holds.ex {α:Sort _} {F:α→zB}:Holds B (Sep.ex F::Γ) w ↔ ∃ x,Holds B (F x::Γ) w:=by
 constructor
 ·rintro ⟨hb,h1,h2,⟨x,a⟩,b,l1,l2,d⟩; exact ⟨x,hb,h1,h2,a,b,l1,l2,d⟩
 ·rintro ⟨x,hb,h1,h2,a,b,l1,l2,d⟩; exact ⟨hb,h1,h2,⟨x,a⟩,b,l1,l2,d⟩
theorem Holds.pur {p:Prop}:Holds B (Sep.pur p::Γ) w ↔ p∧Holds B Γ w:=by
 constructor
 ·intro h; exact ⟨by obtain ⟨_,_,_,a,_⟩:=h; exact a,h.tail⟩
 ·rintro ⟨hp,hb,hs⟩; exact ⟨hb,fun _=>Option.none,_,hp,hs,fun _ _ e=>(by cases e),Hp.le_refl _,fun _=>.inl rfl⟩
theorem zKM {h:Hp}:Sep.stars (Sep.stars Δ::Γ) h ↔ Sep.stars (Δ++Γ) h:=by
 rw [zM4]; rfl
theorem Holds.flat:Holds B (Sep.stars Δ::Γ) w ↔ Holds B (Δ++Γ) w :=
 ⟨fun h=>⟨h.below,zKM.1 h.stars⟩,fun h=>⟨h.below,zKM.2 h.stars⟩⟩
theorem Holds.snoc (h:Holds B (Sep.stars Δ::A::Γ) w):Holds B (Sep.stars (Δ++[A])::Γ) w:=by
 refine Holds.flat.2 ?_
 have:=Holds.flat.1 h
 simpa using this
theorem Holds.zA6 (h:Holds B Γ w):Holds B (Sep.stars []::Γ) w:=Holds.flat.2 h
theorem Holds.fact {p:Prop} (h:Holds B (A::Γ) w) (hi:∀ h,A h→p):p:=by
 obtain ⟨_,_,_,a,_⟩:=h; exact hi _ a
theorem Holds.block {b:Nat} {o:Obj} (h:Holds B (blk b o::Γ) w):w.heap[b]? = some o:=by
 obtain ⟨_,h1,h2,a,_,l1,_,_⟩:=h
 exact (zFN (l1 _ _ a)).2
theorem Holds.base {b:Nat} {o:Obj} (h:Holds B (blk b o::Γ) w):B.heap.size ≤ b:=by
 obtain ⟨_,h1,h2,a,_,l1,_,_⟩:=h
 exact (zFN (l1 _ _ a)).1
theorem Holds.apart {b c:Nat} {o p:Obj} (h:Holds B (blk b o::blk c p::Γ) w):b ≠ c:=by
 rintro rfl
 obtain ⟨_,h1,h2,a,⟨h3,h4,a',_,l3,_,_⟩,l1,_,d⟩:=h
 rcases d b with e | e
 ·unfold blk at a; rw [e] at a; cases a
 ·have:=l3 _ _ a'; rw [e] at this; cases this
theorem zOS (B w:World) (o:Obj):(own B w).le (own B { w with heap:=w.heap.push o }):=fun b p e=>by
 obtain ⟨hb,e⟩:=zFN e
 have hlt:b < w.heap.size:=(Array.getElem?_eq_some_iff.1 e).1
 unfold own
 rw [if_neg (by omega)]
 show (w.heap.push o)[b]? = _
 rw [Array.getElem?_push,if_neg (by omega)]; exact e
theorem zQH (h:Below B.heap.size B w) (o:Obj):Below B.heap.size B { w with heap:=w.heap.push o }:=h.alloc h.size o
theorem Holds.alloc (h:Holds B Γ w) (o:Obj):Holds B (blk w.heap.size o::Γ) { w with heap:=w.heap.push o }:=by
 refine ⟨zQH h.below o,Hp.one w.heap.size o,own B w,by simp [blk,Hp.one],h.stars,?_,zOS B w o,?_⟩
 ·intro b p e
  unfold Hp.one at e
  split at e
  ·rename_i hb; subst hb; cases e
   unfold own
   rw [if_neg (by have:=h.below.size; omega)]
   show (w.heap.push o)[w.heap.size]? = _
   simp
  ·cases e
 ·intro b
  by_cases hb:b = w.heap.size
  ·right; unfold own; split
   ·rfl
   ·subst hb; simp
  ·left; simp [Hp.one,hb]
theorem Holds.setBlock {b:Nat} {o o':Obj} (h:Holds B (blk b o::Γ) w) {w':World} (hw:w' = { w with heap:=w.heap.setIfInBounds b o' }):Holds B (blk b o'::Γ) w':=by
 subst hw
 have hblock:=h.block
 have hlt:b < w.heap.size:=(Array.getElem?_eq_some_iff.1 hblock).1
 have hbase:=h.base
 obtain ⟨hbelow,h1,h2,a,b2,l1,l2,d⟩:=h
 refine ⟨⟨hbelow.os,hbelow.tape,hbelow.output,by simpa using hbelow.size,fun k hk=>?_⟩,Hp.one b o',h2,by simp [blk,Hp.one],b2,?_,?_,?_⟩
 ·show (w.heap.setIfInBounds b o')[k]? = _
  rw [Array.getElem?_setIfInBounds_ne (by omega)]; exact hbelow.block k hk
 ·intro c p e
  unfold Hp.one at e
  split at e
  ·rename_i hc; subst hc; cases e
   unfold own; rw [if_neg (by omega)]
   show (w.heap.setIfInBounds c o')[c]? = _
   simp [hlt]
  ·cases e
 ·intro c p e
  have hne:c ≠ b:=by
   rintro rfl
   rcases d c with e' | e'
   ·unfold blk at a; rw [e'] at a; cases a
   ·rw [e'] at e; cases e
  obtain ⟨hc,e⟩:=zFN (l2 _ _ e)
  unfold own; rw [if_neg (by omega)]
  show (w.heap.setIfInBounds b o')[c]? = _
  rw [Array.getElem?_setIfInBounds_ne (by omega)]; exact e
 ·intro c
  by_cases hc:c = b
  ·subst hc
   rcases d c with e' | e'
   ·unfold blk at a; rw [e'] at a; cases a
   ·right; exact e'
  ·left; simp [Hp.one,hc]
theorem Holds.zRC (h:Holds B Γ w) {w':World} (hh:w'.heap = w.heap) (ho:w'.os = w.os) (ht:w'.tape = w.tape) (hp:w'.output = w.output):Holds B Γ w':=by
 refine ⟨⟨ho.trans h.below.os,ht.trans h.below.tape,hp.trans h.below.output,by rw [hh]; exact h.below.size,fun k hk=>by rw [hh]; exact h.below.block k hk⟩,?_⟩
 have:own B w' = own B w:=by funext b; simp [own,hh]
 rw [this]; exact h.stars
theorem Holds.drew (h:Holds B Γ w) (n:Nat):Holds B Γ { w with drawn:=n }:=h.zRC rfl rfl rfl rfl
theorem Holds.old (h:Holds B Γ w) {b:Nat} {o:Obj} (hb:B.heap[b]? = some o):w.heap[b]? = some o:=by
 have hlt:b < B.heap.size:=(Array.getElem?_eq_some_iff.1 hb).1
 rw [h.below.block b hlt]; exact hb
end
end
section
open Go
structure Sl where
 a:Option Addr
 n:Nat
 c:Nat
abbrev Sl.val (s:Sl):Value:=.slice s.a s.n s.c
def Ret (k:Value→World→Prop):Ending→World→Prop
 | .returned v,w=>k v w
 | _,_=>False
def look:List (Nat×Value)→Nat→Option Value
 | [],_=>none
 | (j,v)::σ,i=>match Nat.beq i j with
  | true=>some v
  | false=>look σ i
theorem zIT {p:Nat×Value} {σ:List (Nat×Value)} {i:Nat}:look (p::σ) i = if i = p.1 then some p.2 else look σ i:=by
 obtain ⟨j,u⟩:=p
 show (match Nat.beq i j with | true=>some u | false=>look σ i) = _
 by_cases h:i = j
 ·simp [h]
 ·have:Nat.beq i j = false:=by
   cases hb:Nat.beq i j with
   | false=>rfl
   | true=>exact absurd (Nat.eq_of_beq_eq_true hb) h
  simp [this,h]
def ev (σ:List (Nat×Value)):Operand→Option Value
 | .tmp t=>look σ t
 | .const v=>some v
 | .global g=>some (.pointer (some ⟨g,0,none⟩))
 | .func f=>some (.func (.func f) #[] #[])
structure Slots (a:Act) (n:Nat) (σ:List (Nat×Value)):Prop where
 size:a.tmps.size = n
 defers:a.defers = []
 at':∀ i v,look σ i = some v→a.tmps.getD i undef = v
def Sub (σ:List (Nat×Value)):List (Nat×Value)→Prop
 | []=>True
 | p::τ=>look σ p.1 = some p.2∧Sub σ τ
theorem Sub.look {σ:List (Nat×Value)}:∀ {τ:List (Nat×Value)},Sub σ τ→∀ i v,look τ i = some v→Sep.look σ i = some v
 | [],_,i,v,h=>by simp [Sep.look] at h
 | p::τ,hs,i,v,h=>by
  rw [zIT] at h
  split at h
  ·rename_i e; subst e; cases h; exact hs.1
  ·exact Sub.look hs.2 i v h
section
variable {a:Act} {n:Nat} {σ τ:List (Nat×Value)}
theorem Slots.to (h:Slots a n σ) (hs:Sub σ τ):Slots a n τ:=⟨h.size,h.defers,fun i v e=>h.at' i v (hs.look i v e)⟩
theorem Slots.ev (h:Slots a n σ) {x:Operand} {v:Value} (hx:Sep.ev σ x = some v):a.eval x = v:=by
 cases x with
 | tmp t=>exact h.at' _ _ hx
 | const u=>exact Option.some.inj hx
 | global g=>exact Option.some.inj hx
 | func f=>exact Option.some.inj hx
theorem Slots.put (h:Slots a n σ) {d:Nat} (hd:d < n) (v:Value):Slots (a.put (some d) v) n ((d,v)::σ):=by
 refine ⟨by simp [Act.put,h.size],h.defers,fun i u e=>?_⟩
 rw [zIT] at e
 split at e
 ·rename_i hi; simp only at hi; subst hi; cases e
  have:i < a.tmps.size:=by rw [h.size]; exact hd
  simp [Act.put,this]
 ·rename_i hi
  have:=h.at' i u e
  simpa [Act.put,Array.getElem?_setIfInBounds_ne (Ne.symm hi)] using this
theorem Slots.init (args:List Value) (n:Nat) (hn:args.length ≤ n):Slots { tmps:=args.toArray++Array.replicate (n - args.toArray.size) undef,defers:=[] } n (args.zipIdx.map fun p=>(p.2,p.1)):=by
 refine ⟨by simp; omega,rfl,fun i v e=>?_⟩
 have key:∀ (l:List Value) (k i:Nat) (v:Value),look ((l.zipIdx k).map fun p=>(p.2,p.1)) i = some v→k ≤ i∧l[i - k]? = some v:=by
  intro l
  induction l with
  | nil=>intro k i v e; simp [look] at e
  | cons x l ih=>
   intro k i v e
   simp only [List.zipIdx_cons,List.map_cons] at e
   rw [zIT] at e
   split at e
   ·rename_i hi; simp only at hi; subst hi; cases e; simp
   ·rename_i hi
    obtain ⟨h1,h2⟩:=ih _ _ _ e
    refine ⟨by omega,?_⟩
    rw [show i - k = (i - (k + 1)) + 1 by omega]; simpa using h2
 obtain ⟨_,h2⟩:=key args 0 i v e
 simp only [Nat.sub_zero] at h2
 have hlt:i < args.length:=(List.getElem?_eq_some_iff.1 h2).1
 have h3:=(List.getElem?_eq_some_iff.1 h2).2
 simp [Array.getElem?_append,hlt,h3]
end
section
variable {P:Program} {ops:Array Oper} {Q:Exit→Act→World→Prop} {rest:List Oper} {o:Oper} {a:Act} {n:Nat} {σ:List (Nat×Value)} {w w':World} {v:Value}
def Pure (P:Program) (σ:List (Nat×Value)) (o:Oper) (v:Value):Prop :=
 ∀ (a:Act) (n:Nat),Slots a n σ→∀ w,(execOp a.eval o).run P w = .ok (.value v) w
def Eff (P:Program) (σ:List (Nat×Value)) (o:Oper) (w:World) (x:Next) (w':World):Prop :=
 ∀ (a:Act) (n:Nat),Slots a n σ→(execOp a.eval o).run P w = .ok x w'
theorem Pure.eff (h:Pure P σ o v) (w:World):Eff P σ o w (.value v) w:=fun a n hs=>h a n hs w
def wants (ops:Array Oper) (σ:List (Nat×Value)) (o:Oper):Option Bool :=
 match o.guard with
 | none=>some true
 | some (j,want)=>match (ops[j]?).bind (·.dst) with
  | none=>some false
  | some t=>match look σ t with
   | some v=>match v with
    | .bool b=>some (b == want)
    | _=>some false
   | none=>none
theorem uq (hs:Slots a n σ) {b:Bool} (h:wants ops σ o = some b):Region.wanted o (yielded ops a.tmps) = b:=by
 unfold wants at h
 unfold Region.wanted
 split at h
 ·rename_i hg; simp only [hg]; simpa using h
 ·rename_i j want hg
  simp only [hg]
  unfold yielded
  split at h
  ·rename_i hd; simp only [Option.some.injEq] at h; subst h
   cases hj:ops[j]? with
   | none=>simp
   | some oj=>simp [hj] at hd; simp [hd]
  ·rename_i t ht
   split at h
   ·rename_i v hb
    have:=hs.at' _ _ hb
    cases hj:ops[j]? with
    | none=>simp [hj] at ht
    | some oj=>
     simp [hj] at ht
     simp only [ht,Option.bind_some]
     cases hx:a.tmps[t]? with
     | none=>
      simp [hx] at this; subst this
      simp [undef] at h; subst h; simp
     | some x=>
      simp [hx] at this; subst this
      cases x <;> simp at h <;> subst h <;> simp
   ·cases h
def Oper.bare (o:Oper):Oper:={ o with guard:=none }
end
section
variable {P:Program} {ops:Array Oper} {Q:Exit→Act→World→Prop} {S:World→Prop} {o:Oper} {a:Act} {n:Nat} {σ:List (Nat×Value)} {w w':World} {v:Value} {fuel:Nat} {listed:Array Bool}
def Any:World→Prop:=fun _=>True
theorem Any.intro (w:World):Any w:=trivial
def Is (u:World):World→Prop:=fun x=>x = u
theorem Is.intro (u:World):Is u u:=rfl
theorem Is.out {u x:World} (h:Is u x):x = u:=h
def zCu (Q:Exit→Act→World→Prop):Prop:=∀ c a w,¬ Q (.panic c) a w
def zQI (P:Program) (ops:Array Oper) (Q:Exit→Act→World→Prop) (S:World→Prop) (ds:List Nat):Nat→Array Bool→Act→World→Prop
 | 0,listed,a,w=>Region.ready .any ops listed = []∧Q .normal a w
 | fuel + 1,listed,a,w=>
  (Region.ready .any ops listed = []→Q .normal a w) ∧
  ∀ i ∈ Region.ready .any ops listed,wpOp P ops Q i (fun a' w'=>(i ∉ ds→S w→S w')∧zQI P ops Q S ds fuel (listed.setIfInBounds i true) a' w') a w
variable {ds:List Nat}
def reach (ops:Array Oper) (i:Nat):Nat→Nat→Bool
 | 0,_=>false
 | n + 1,d=>match ops[d]? with
  | some od=>od.after.any fun e=>Region.binds .any e && (e.on == i || reach ops i n e.on)
  | none=>false
def Closed (ops:Array Oper) (l:Array Bool):Prop :=
 ∀ (j:Nat) (oj:Oper),ops[j]? = some oj→l.getD j false = true→∀ e ∈ oj.after,Region.binds .any e = true→l.getD e.on false = true
theorem zEf {ops:Array Oper} {l:Array Bool} {i:Nat} (hc:Closed ops l):∀ (n d:Nat) (od:Oper),ops[d]? = some od→(∀ e ∈ od.after,Region.binds .any e = true→l.getD e.on false = true)→reach ops i n d = true→l.getD i false = true
 | 0,_,_,_,_,h=>by simp [reach] at h
 | n + 1,d,od,hd,hall,h=>by
  simp only [reach,hd,Array.any_eq_true'] at h
  obtain ⟨e,he,hb⟩:=h
  simp only [Bool.and_eq_true,Bool.or_eq_true,beq_iff_eq] at hb
  have h1:=hall e he hb.1
  rcases hb.2 with h2 | h2
  ·rw [← h2]; exact h1
  ·cases ho:ops[e.on]? with
   | none=>cases n <;> simp [reach,ho] at h2
   | some oe=>exact zEf hc n e.on oe ho (hc e.on oe ho h1) h2
theorem Closed.put {ops:Array Oper} {l:Array Bool} (h:Closed ops l) {j:Nat} (hj:j ∈ Region.ready .any ops l):Closed ops (l.setIfInBounds j true):=by
 intro k ok hk hl e he hb
 obtain ⟨_,oj,hoj,hall⟩:=mem_ready.1 hj
 by_cases hjk:j = k
 ·subst hjk; rw [hk] at hoj; cases hoj; exact getD_set_true (hall e he hb)
 ·rw [getD_set_ne false hjk] at hl; exact getD_set_true (h k ok hk hl e he hb)
def zTI (P:Program) (ops:Array Oper) (Q:Exit→Act→World→Prop) (S:World→Prop) (ds:List Nat) (fuel:Nat) (l:Array Bool) (a:Act) (w:World) (rs:List Nat):Prop :=
 ∀ i ∈ rs,wpOp P ops Q i (fun a' w'=>(i ∉ ds→S w→S w')∧zQI P ops Q S ds fuel (l.setIfInBounds i true) a' w') a w
theorem zTI.nil {l:Array Bool}:zTI P ops Q S ds fuel l a w []:=fun _ h=>by cases h
theorem zTI.cons {l:Array Bool} {i:Nat} {rs:List Nat} (h:wpOp P ops Q i (fun a' w'=>(i ∉ ds→S w→S w')∧zQI P ops Q S ds fuel (l.setIfInBounds i true) a' w') a w)
  (hs:zTI P ops Q S ds fuel l a w rs):zTI P ops Q S ds fuel l a w (i::rs):=fun j hj=>by
 rcases List.mem_cons.1 hj with rfl | hj
 ·exact h
 ·exact hs j hj
end
section
variable {P:Program} {ops:Array Oper} {Q:Act→Prop} {rest:List Oper} {o:Oper} {a:Act} {n:Nat} {σ:List (Nat×Value)} {w:World} {v:Value}
theorem zWs (hs:Slots a n σ) {d:Nat} (hg:o.guard = none) (hd:o.dst = some d) (hn:d < n) (hp:Eff P σ o w (.value v) w)
  (hk:∀ a,Slots a n ((d,v)::σ)→wpStill P ops w Q rest a):wpStill P ops w Q (o::rest) a:=by
 unfold wpStill
 rw [if_pos (by simp [Region.wanted,hg])]
 unfold Oper.still
 rw [hp a n hs,Oper.stillUpon_value,hd]
 exact hk _ (hs.put hn v)
theorem zXa (hs:Slots a n σ) {d:Nat} (hg:o.guard = none) (hd:o.dst = some d) (hn:d < n) (hp:Pure P σ o v)
  (hk:∀ a,Slots a n ((d,v)::σ)→wpStill P ops w Q rest a):wpStill P ops w Q (o::rest) a:=zWs hs hg hd hn (hp.eff w) hk
theorem zWt (hs:Slots a n σ) (hw:wants ops σ o = some true) (hk:wpStill P ops w Q (Sep.Oper.bare o::rest) a):wpStill P ops w Q (o::rest) a:=by
 have h1:=uq hs hw
 unfold wpStill at hk ⊢
 rw [if_pos h1]
 rw [if_pos (by simp [Region.wanted,Sep.Oper.bare])] at hk
 exact hk
theorem zaS (hs:Slots a n σ) (hw:wants ops σ o = some false) {d:Nat} (hd:o.dst = some d) (hn:d < n) (hk:∀ a,Slots a n ((d,undef)::σ)→wpStill P ops w Q rest a):wpStill P ops w Q (o::rest) a:=by
 have h1:=uq hs hw
 unfold wpStill
 rw [if_neg (by rw [h1]; simp),hd]
 exact hk _ (hs.put hn _)
theorem zVZ {l:List Oper} {id:Nat} {Q:Exit→Act→World→Prop} {w':World} (hm:P.follows .mixedOrders = true) (hB:Region.lexB .any l.toArray = true) (hw:w' = { w with drawn:=w.drawn + 1 })
  (h:wpStill P l.toArray w' (fun a'=>Q .normal a' w') l a):(Code.region id l.toArray true).wp P Q a w:=by
 subst hw; exact wp_region_still_lit hm hB h
end
section
variable {P:Program} {Q:Exit→Act→World→Prop} {a:Act} {n:Nat} {σ:List (Nat×Value)} {w:World}
def yM {α:Type} (body:(α→World→Prop)→α→World→Prop) (x:α) (w:World):Prop :=
 ∃ (I:α→World→Prop) (μ:α→World→Nat),I x w∧∀ x w,I x w→body (fun x' w'=>I x' w'∧μ x' w' < μ x w) x w
theorem yM.of {α:Type} {body:(α→World→Prop)→α→World→Prop} {x:α} {w:World} (I:α→World→Prop) (μ:α→World→Nat) (h0:I x w)
  (h:∀ x w,I x w→body (fun x' w'=>I x' w'∧μ x' w' < μ x w) x w):yM body x w:=⟨I,μ,h0,h⟩
end
end
section
open Go
abbrev K:=World→Prop
def callable (P:Program) (f:FuncId):Bool:=match P.funcs[f]? with
 | some fn => fn.name != "runtime.NumGoroutine" && fn.body.isSome
 | none=>false
def Do {α β:Type} (P:Program) (s:Sem β) (c:α→β) (k:α→K):K:=fun w=>∃ x w',s.run P w = .ok (c x) w'∧k x w'
def Ld {α:Type} (a:Addr) (c:α→Value) (k:α→K):K:=fun w=>∃ x,w.cell? a = some (c x)∧k x w
def RdN (w:World) (a:Addr) (cs:Array Value):Prop:=∀ i,i < cs.size→w.cell? (a.add i) = cs[i]?
def LdN (a:Addr) (n:Nat) (k:Array Value→K):K:=fun w=>∃ cs:Array Value,cs.size = n∧RdN w a cs∧k cs w
def qC:Value→Bool
 | .agg _ | .tuple _=>false
 | _=>true
def St (a:Addr) (v:Value) (k:K):K:=fun w=>∃ w',w' = w.setCell a v∧(∃ u,w.cell? a = some u)∧w.frozen? a = false∧qC v = true∧k w'
def setCells (a:Addr):List Value→Nat→World→World
 | [],_,w=>w
 | v::vs,i,w=>setCells a vs (i + 1) (w.setCell (a.add i) v)
def StN (a:Addr) (n:Nat) (cs:Array Value) (k:K):K:=fun w=>∃ w',w' = setCells a cs.toList 0 w∧cs.size = n ∧
 (∀ i,i < cs.size→(∃ u,w.cell? (a.add i) = some u)∧w.frozen? (a.add i) = false)∧(∀ v ∈ cs.toList,qC v = true)∧k w'
def New (T:TypeId) (cs:Array Value) (k:Addr→K):K:=fun w=>∃ a w',a = ⟨w.heap.size,0,none⟩∧w' = { w with heap:=w.heap.push (.cells cs T) }∧k a w'
def zX (P:Program) (f:FuncId) (args:Array Value) (k:Value→K):K:=fun w=>Calls P f args w (Ret k)
def Ar (e:Int) (k:Int→K):K:=fun w=>∃ t,t = e∧k t w
def DoU (P:Program) (s:Sem Unit) (k:K):K:=fun w=>∃ u w',s.run P w = .ok u w'∧k w'
def Rd {α:Type} (P:Program) (s:Sem Value) (c:α→Value) (k:α→K):K:=fun w=>∃ x,s.run P w = .ok (c x) w∧k x w
def Rd2 {α β:Type} (P:Program) (s:Sem Value) (c:α→β→Value) (k:α→β→K):K:=fun w=>∃ x y,s.run P w = .ok (c x y) w∧k x y w
def Pu {α:Type} (P:Program) (s:Sem Value) (c:α→Value) (k:α→K):K:=fun w=>∃ x,(∀ w,s.run P w = .ok (c x) w)∧k x w
def Cd (p:Prop) (k:K):K:=fun w=>p∧k w
def Ite (b:Bool) (x y:K):K:=fun w=>(b = true→x w)∧(b = false→y w)
def Fv (P:Program) (f:Value) (k:FuncId→Array Value→Array Value→K):K:=fun w=>∃ g fs cs,f = .func (.func g) fs cs∧callable P g = true∧k g fs cs w
def zAk (P:Program) (f:Value) (args:List Value) (k:Value→K):K:=fun w =>
 ∃ g fs cs,f = .func (.func g) fs cs∧callable P g = true∧Calls P g (fs++args.toArray++cs) w (Ret k)
def zAY (v0:Value) (k:K):Value→K:=fun v w=>v = v0∧k w
def qD {α:Type} (c:α→Value) (k:α→K):Value→K:=fun v w=>∃ x,v = c x∧k x w
def jT {α β:Type} (c:α→β→Value) (k:α→β→K):Value→K:=fun v w=>∃ x y,v = c x y∧k x y w
def zCN {α β γ:Type} (c:α→β→γ→Value) (k:α→β→γ→K):Value→K:=fun v w=>∃ x y z,v = c x y z∧k x y z w
def Ext {α:Type} (t:Value) (i:Nat) (c:α→Value) (k:α→K):K:=fun w=>∃ vs x,t = .tuple vs∧vs[i]? = some (c x)∧k x w
def Dead:K:=fun _=>False
def Dr (k:K):K:=fun w=>∃ w',w' = { w with drawn:=w.drawn + 1 }∧k w'
def xW (k:(World→Prop)→K):K:=fun w=>∃ S:World→Prop,S w∧k S w
def Sv (S:World→Prop) (k:K):K:=fun w=>S w∧k w
def LdS {α:Type} (S:World→Prop) (a:Addr) (c:α→Value) (k:α→K):K:=fun w=>∃ x,(∀ w,S w→w.cell? a = some (c x))∧k x w
def zBt (S:World→Prop) (a:Addr) (n:Nat) (k:Array Value→K):K:=fun w=>∃ cs:Array Value,cs.size = n∧(∀ w,S w→RdN w a cs)∧k cs w
def RdS {α:Type} (P:Program) (S:World→Prop) (s:Sem Value) (c:α→Value) (k:α→K):K:=fun w=>∃ x,(∀ w,S w→s.run P w = .ok (c x) w)∧k x w
def zDw {α β:Type} (P:Program) (S:World→Prop) (s:Sem Value) (c:α→β→Value) (k:α→β→K):K:=fun w=>∃ x y,(∀ w,S w→s.run P w = .ok (c x y) w)∧k x y w
def Nn (p:Option Addr) (k:Addr→K):K:=fun w=>∃ a,p = some a∧k a w
def Idx (s:Sl) (i:Int) (esz:Nat) (k:Addr→K):K:=fun w=>∃ a t,s.a = some a∧0 ≤ i∧i < s.n∧t = a.add (i.toNat * esz)∧k t w
def zCO (a:Addr) (len:Nat) (i:Int) (esz:Nat) (k:Addr→K):K:=fun w=>∃ t,0 ≤ i∧i < len∧t = a.add (i.toNat * esz)∧k t w
def zDx (s:ByteArray) (i:Int) (k:Int→K):K:=fun w=>∃ (t:Int) (b:UInt8),0 ≤ i∧s[i.toNat]? = some b∧t = (b.toNat:Int)∧k t w
def Fld {α:Type} (cs:Array Value) (off:Nat) (c:α→Value) (k:α→K):K:=fun w=>∃ x,cs[off]? = some (c x)∧k x w
def Bld (zero:Array Value) (place:Nat→Option (Nat×Nat)) (parts:List (Nat×Value)) (k:Array Value→K):K:=fun w =>
 ∃ cs,Instr.fill place zero parts = some cs∧k cs w
def zAB (a:Option Addr) (l m esz:Nat):Option Addr:=if m = l then a else a.map (·.add (l * esz))
def Slc (s:Sl) (lo hi mx:Int) (esz:Nat) (k:Sl→K):K:=fun w =>
 ∃ t,0 ≤ lo∧lo ≤ hi∧hi ≤ mx∧mx ≤ s.c∧t = ⟨zAB s.a lo.toNat mx.toNat esz,hi.toNat - lo.toNat,mx.toNat - lo.toNat⟩∧k t w
def zDy (s:ByteArray) (lo hi:Int) (k:ByteArray→K):K:=fun w =>
 ∃ t,0 ≤ lo∧lo ≤ hi∧hi ≤ s.size∧t = s.extract lo.toNat hi.toNat∧k t w
def Cat (a b:ByteArray) (k:ByteArray→K):K:=fun w=>∃ t,((a.size + b.size:Nat):Int) ≤ 9223372036854775807∧t = a++b∧k t w
def All (l:List (World→Prop)):K:=fun w=>∀ (i:Nat) (x:World→Prop),l[i]? = some x→x w
def zL4 (P:Program) (T:TypeId):Bool:=match P.underlying T with
 | some (.struct _) | some (.array _ _) | none=>false
 | some _=>true
def zSN (P:Program) (T:TypeId) (n:Nat):Bool:=match P.underlying T with
 | some (.struct _) | some (.array _ _)=>(P.info? T).map (·.size) == some n
 | _=>false
def sizeT (P:Program) (T:TypeId) (n:Nat):Bool:=(P.info? T).map (·.size) == some n
def sliceT (P:Program) (T E:TypeId) (esz:Nat):Bool:=match P.underlying T with
 | some (.slice e)=>e == E && (P.info? E).map (·.size) == some esz
 | _=>false
def zM5 (P:Program) (T E:TypeId) (len esz:Nat):Bool:=match P.underlying T with
 | some (.array n e)=>n == len && e == E && (P.info? E).map (·.size) == some esz
 | _=>false
def zDg (P:Program) (T:TypeId):Bool:=match P.underlying T with | some .string=>true | _=>false
def zTJ (P:Program) (T:TypeId) (k:IntKind):Bool:=match P.underlying T with | some (.int k')=>k == k' | _=>false
def zM6 (P:Program) (S i off n:Nat):Bool:=match P.underlying S with
 | some (.struct fs)=>match fs[i]? with
  | some f=>f.offset == off && n != 0 && (P.info? f.type).map (·.size) == some n
  | none=>false
 | _=>false
def zQJ (P:Program) (S i off:Nat):Bool:=match P.underlying S with
 | some (.struct fs)=>match fs[i]? with
  | some f=>f.offset == off && zL4 P f.type
  | none=>false
 | _=>false
def zQK (P:Program) (S i off n:Nat):Bool:=match P.underlying S with
 | some (.struct fs)=>match fs[i]? with
  | some f=>f.offset == off && zSN P f.type n
  | none=>false
 | _=>false
section
variable {P:Program} {w:World}
theorem zGo {T:TypeId} (h:zL4 P T = true):(isAgg T).run P w = .ok false w:=by
 unfold zL4 at h
 unfold isAgg underlying program
 cases hu:P.underlying T with
 | none=>simp [hu] at h
 | some d=>cases d <;> simp [hu,Sem.run,Sem.run_bind'] at h ⊢ <;> simp_all [bind,Sem.bind,Sem.run,pure]
theorem zC9 {T n:Nat} (h:zSN P T n = true):(isAgg T).run P w = .ok true w∧(sizeOf T).run P w = .ok n w:=by
 unfold zSN at h
 unfold isAgg sizeOf typeInfo underlying program
 cases hi:P.info? T with
 | none=>cases hu:P.underlying T with
  | none=>simp [hu] at h
  | some d=>cases d <;> simp [hu,hi] at h
 | some i=>cases hu:P.underlying T with
  | none=>simp [hu] at h
  | some d=>cases d <;> simp [hu,hi] at h ⊢ <;> simp_all [bind,Sem.bind,Sem.run,pure]
theorem jJ {T n:Nat} (h:sizeT P T n = true):(sizeOf T).run P w = .ok n w:=by
 unfold sizeT at h
 unfold sizeOf typeInfo program
 cases hi:P.info? T with
 | none=>simp [hi] at h
 | some i=>simp [hi] at h ⊢; simp_all [bind,Sem.bind,Sem.run,pure]
theorem zAI {T E esz:Nat} (h:sliceT P T E esz = true):P.underlying T = some (.slice E)∧sizeT P E esz = true:=by
 unfold sliceT at h
 split at h
 ·rename_i e he; simp at h; obtain ⟨rfl,h⟩:=h; exact ⟨he,by unfold sizeT; simpa using h⟩
 ·cases h
theorem zJB {T E len esz:Nat} (h:zM5 P T E len esz = true):P.underlying T = some (.array len E)∧sizeT P E esz = true:=by
 unfold zM5 at h
 split at h
 ·rename_i n e he; simp at h; obtain ⟨⟨rfl,rfl⟩,h⟩:=h; exact ⟨he,by unfold sizeT; simpa using h⟩
 ·cases h
theorem zB6 {T:Nat} (h:zDg P T = true):P.underlying T = some .string:=by
 unfold zDg at h; split at h
 ·assumption
 ·cases h
theorem zL5 {T:Nat} {k:IntKind} (h:zTJ P T k = true):P.underlying T = some (.int k):=by
 unfold zTJ at h; split at h
 ·rename_i k' hk; simp at h; subst h; exact hk
 ·cases h
theorem run_underlying {T:TypeId} {d:TypeDesc} (h:P.underlying T = some d):(underlying T).run P w = .ok d w:=by
 simp [underlying,program,h,Sem.run]
end
theorem Pure.adr {P:Program} {σ:List (Nat×Value)} {o:Oper} {t e:Addr} (he:t = e) (h:Pure P σ o (.pointer (some e))):Pure P σ o (.pointer (some t)):=he ▸ h
theorem Pure.sl {P:Program} {σ:List (Nat×Value)} {o:Oper} {t e:Sl} (he:t = e) (h:Pure P σ o e.val):Pure P σ o t.val:=he ▸ h
theorem Pure.str {P:Program} {σ:List (Nat×Value)} {o:Oper} {t e:ByteArray} (he:t = e) (h:Pure P σ o (.string e)):Pure P σ o (.string t):=he ▸ h
theorem Pure.int {P:Program} {σ:List (Nat×Value)} {o:Oper} {k:IntKind} {t e:Int} (he:t = e) (h:Pure P σ o (.int k e)):Pure P σ o (.int k t):=he ▸ h
section
variable {P:Program} {σ:List (Nat×Value)} {o:Oper} {x y:Operand} {w:World}
theorem zTK {v:Value} (ho:o.op = .move x) (hx:ev σ x = some v):Pure P σ o v:=fun a n hs w=>by
 simp [execOp,ho,hs.ev hx]
theorem zOT {v:Value} (ho:o.op = .assign x) (hx:ev σ x = some v):Pure P σ o v:=fun a n hs w=>by
 simp [execOp,ho,hs.ev hx]
theorem zOU {c:Operand} {v:Value} (ho:o.op = .pick c x y) (hc:ev σ c = some (.bool true)) (hx:ev σ x = some v):Pure P σ o v:=fun a n hs w=>by
 simp [execOp,ho,hs.ev hx,hs.ev hc,asBool]
theorem zOV {c:Operand} {v:Value} (ho:o.op = .pick c x y) (hc:ev σ c = some (.bool false)) (hy:ev σ y = some v):Pure P σ o v:=fun a n hs w=>by
 simp [execOp,ho,hs.ev hy,hs.ev hc,asBool]
theorem zOW {c:Operand} {b p q:Bool} (ho:o.op = .pick c x y) (hc:ev σ c = some (.bool b)) (hx:ev σ x = some (.bool p)) (hy:ev σ y = some (.bool q)):Pure P σ o (.bool (bif b then p else q)):=fun a n hs w=>by
 cases b <;> simp [execOp,ho,hs.ev hx,hs.ev hy,hs.ev hc,asBool]
theorem zWu {a:Addr} (ho:o.op = .nilCheck x) (hx:ev σ x = some (.pointer (some a))):Pure P σ o (.pointer (some a)):=fun _ n hs w=>by
 simp [execOp,ho,hs.ev hx]
theorem zTL {f:FuncId} {c d:Array Value} (ho:o.op = .nilCheck x) (hx:ev σ x = some (.func (.func f) c d)):Pure P σ o (.func (.func f) c d):=fun _ n hs w=>by
 simp [execOp,ho,hs.ev hx]
theorem zJC {S i off n:Nat} {a:Addr} (ho:o.op = .fieldAddr S x i) (hx:ev σ x = some (.pointer (some a))) (hf:zM6 P S i off n = true):Pure P σ o (.pointer (some (a.add off))):=fun _ _ hs w=>by
 unfold zM6 at hf
 split at hf
 ·rename_i fs hS
  split at hf
  ·rename_i f hfi
   simp at hf
   obtain ⟨⟨h1,h2⟩,h3⟩:=hf
   have hz:(sizeOf f.type).run P w = .ok n w:=jJ (by unfold sizeT; simpa using h3)
   simp [execOp,ho,hs.ev hx,Instr.fieldAt,run_underlying hS,hfi,Instr.sureAddr,fieldPlace,hz,h2,h1]
  ·cases hf
 ·cases hf
theorem zM7 {S i n:Nat} {a:Addr} (ho:o.op = .fieldAddr S x i) (hx:ev σ x = some (.pointer (some a))) (hf:zM6 P S i 0 n = true):Pure P σ o (.pointer (some a)):=by
 simpa [Addr.add] using zJC ho hx hf
theorem zVa {S i off:Nat} {cs:Array Value} {v:Value} (ho:o.op = .field S x i) (hx:ev σ x = some (.agg cs)) (hf:zQJ P S i off = true) (hv:cs[off]? = some v):Pure P σ o v:=fun _ _ hs w=>by
 unfold zQJ at hf
 split at hf
 ·rename_i fs hS
  split at hf
  ·rename_i f hfi
   simp at hf
   obtain ⟨h1,h2⟩:=hf
   subst h1
   simp [execOp,ho,hs.ev hx,Instr.field,run_underlying hS,hfi,asAgg,part,zGo h2,hv]
  ·cases hf
 ·cases hf
theorem zTM {S i off n:Nat} {cs:Array Value} (ho:o.op = .field S x i) (hx:ev σ x = some (.agg cs)) (hf:zQK P S i off n = true):Pure P σ o (.agg (cs.extract off (off + n))):=fun _ _ hs w=>by
 unfold zQK at hf
 split at hf
 ·rename_i fs hS
  split at hf
  ·rename_i f hfi
   simp at hf
   obtain ⟨h1,h2⟩:=hf
   subst h1
   simp [execOp,ho,hs.ev hx,Instr.field,run_underlying hS,hfi,asAgg,part,(zC9 h2).1,(zC9 h2).2]
  ·cases hf
 ·cases hf
section ints
variable {T U:TypeId} {k:IntKind} {a b:Int}
theorem zWv (ho:o.op = .binOp .add T x y U) (hx:ev σ x = some (.int k a)) (hy:ev σ y = some (.int k b)):Pure P σ o (.int k (k.wrap (a + b))):=fun _ _ hs w=>by
 simp [execOp,ho,hs.ev hx,hs.ev hy,eqGuard,binOp,Op.intArith]
theorem zWw (ho:o.op = .binOp .sub T x y U) (hx:ev σ x = some (.int k a)) (hy:ev σ y = some (.int k b)):Pure P σ o (.int k (k.wrap (a - b))):=fun _ _ hs w=>by
 simp [execOp,ho,hs.ev hx,hs.ev hy,eqGuard,binOp,Op.intArith]
theorem zWx (ho:o.op = .binOp .mul T x y U) (hx:ev σ x = some (.int k a)) (hy:ev σ y = some (.int k b)):Pure P σ o (.int k (k.wrap (a * b))):=fun _ _ hs w=>by
 simp [execOp,ho,hs.ev hx,hs.ev hy,eqGuard,binOp,Op.intArith]
theorem zWy (ho:o.op = .binOp .quo T x y U) (hx:ev σ x = some (.int k a)) (hy:ev σ y = some (.int k b)) (hb:b ≠ 0):Pure P σ o (.int k (k.wrap (a.tdiv b))):=fun _ _ hs w=>by
 simp [execOp,ho,hs.ev hx,hs.ev hy,eqGuard,binOp,Op.intDiv,hb]
theorem zWz (ho:o.op = .binOp .rem T x y U) (hx:ev σ x = some (.int k a)) (hy:ev σ y = some (.int k b)) (hb:b ≠ 0):Pure P σ o (.int k (a.tmod b)):=fun _ _ hs w=>by
 simp [execOp,ho,hs.ev hx,hs.ev hy,eqGuard,binOp,Op.intDiv,hb]
theorem zYr (ho:o.op = .binOp .eql T x y U) (hx:ev σ x = some (.int k a)) (hy:ev σ y = some (.int k b)):Pure P σ o (.bool (decide (a = b))):=fun _ _ hs w=>by
 simp [execOp,ho,hs.ev hx,hs.ev hy,eqGuard,binOp,Op.intCmp]; rfl
theorem zYs (ho:o.op = .binOp .neq T x y U) (hx:ev σ x = some (.int k a)) (hy:ev σ y = some (.int k b)):Pure P σ o (.bool (decide (a ≠ b))):=fun _ _ hs w=>by
 by_cases h:a = b <;> simp [execOp,ho,hs.ev hx,hs.ev hy,eqGuard,binOp,Op.intCmp,h]
theorem zYt (ho:o.op = .binOp .lss T x y U) (hx:ev σ x = some (.int k a)) (hy:ev σ y = some (.int k b)):Pure P σ o (.bool (decide (a < b))):=fun _ _ hs w=>by
 simp [execOp,ho,hs.ev hx,hs.ev hy,eqGuard,binOp,Op.intCmp]
theorem zYu (ho:o.op = .binOp .leq T x y U) (hx:ev σ x = some (.int k a)) (hy:ev σ y = some (.int k b)):Pure P σ o (.bool (decide (a ≤ b))):=fun _ _ hs w=>by
 simp [execOp,ho,hs.ev hx,hs.ev hy,eqGuard,binOp,Op.intCmp]
theorem zYv (ho:o.op = .binOp .gtr T x y U) (hx:ev σ x = some (.int k a)) (hy:ev σ y = some (.int k b)):Pure P σ o (.bool (decide (b < a))):=fun _ _ hs w=>by
 simp [execOp,ho,hs.ev hx,hs.ev hy,eqGuard,binOp,Op.intCmp]
theorem zYw (ho:o.op = .binOp .geq T x y U) (hx:ev σ x = some (.int k a)) (hy:ev σ y = some (.int k b)):Pure P σ o (.bool (decide (b ≤ a))):=fun _ _ hs w=>by
 simp [execOp,ho,hs.ev hx,hs.ev hy,eqGuard,binOp,Op.intCmp]
def bitsOf (op:BinOp) (k:IntKind) (a b:Int):Int :=
 let u:=BitVec.ofInt k.bits a
 let v:=BitVec.ofInt k.bits b
 k.wrap (match op with | .and=>(u &&& v).toNat | .or=>(u ||| v).toNat | .xor=>(u ^^^ v).toNat | _=>(u &&& ~~~v).toNat)
theorem zW0 (ho:o.op = .binOp .and T x y U) (hx:ev σ x = some (.int k a)) (hy:ev σ y = some (.int k b)):Pure P σ o (.int k (bitsOf .and k a b)):=fun _ _ hs w=>by
 simp [execOp,ho,hs.ev hx,hs.ev hy,eqGuard,binOp,Op.intBits,bitsOf]
theorem zYx (ho:o.op = .binOp .or T x y U) (hx:ev σ x = some (.int k a)) (hy:ev σ y = some (.int k b)):Pure P σ o (.int k (bitsOf .or k a b)):=fun _ _ hs w=>by
 simp [execOp,ho,hs.ev hx,hs.ev hy,eqGuard,binOp,Op.intBits,bitsOf]
theorem zW1 (ho:o.op = .binOp .xor T x y U) (hx:ev σ x = some (.int k a)) (hy:ev σ y = some (.int k b)):Pure P σ o (.int k (bitsOf .xor k a b)):=fun _ _ hs w=>by
 simp [execOp,ho,hs.ev hx,hs.ev hy,eqGuard,binOp,Op.intBits,bitsOf]
def zFO (k:IntKind) (a b:Int):Int:=k.wrap (a * 2 ^ (min b.toNat k.bits))
def zBc (k:IntKind) (a b:Int):Int:=a.fdiv (2 ^ (min b.toNat k.bits))
theorem zW2 {j:IntKind} (ho:o.op = .binOp .shl T x y U) (hx:ev σ x = some (.int k a)) (hy:ev σ y = some (.int j b)) (hb:0 ≤ b):Pure P σ o (.int k (zFO k a b)):=fun _ _ hs w=>by
 simp [execOp,ho,hs.ev hx,hs.ev hy,eqGuard,binOp,Op.shift,zFO,show ¬ b < 0 by omega]
theorem zW3 {j:IntKind} (ho:o.op = .binOp .shr T x y U) (hx:ev σ x = some (.int k a)) (hy:ev σ y = some (.int j b)) (hb:0 ≤ b):Pure P σ o (.int k (zBc k a b)):=fun _ _ hs w=>by
 simp [execOp,ho,hs.ev hx,hs.ev hy,eqGuard,binOp,Op.shift,zBc,show ¬ b < 0 by omega]
theorem zW4 (ho:o.op = .unOp .neg T x) (hx:ev σ x = some (.int k a)):Pure P σ o (.int k (k.wrap (0 - a))):=fun _ _ hs w=>by
 simp [execOp,ho,hs.ev hx,Op.unary,Op.intArith]
theorem zW5 (ho:o.op = .unOp .xor T x) (hx:ev σ x = some (.int k a)):Pure P σ o (.int k (bitsOf .xor k (if k.signed then -1 else k.max) a)):=fun _ _ hs w=>by
 simp [execOp,ho,hs.ev hx,Op.unary,Op.intBits,bitsOf]
theorem zQL {j:IntKind} (ho:o.op = .convert T U x) (hx:ev σ x = some (.int k a)) (hT:zTJ P T k = true) (hU:zTJ P U j = true):Pure P σ o (.int j (j.wrap a)):=fun _ _ hs w=>by
 simp [execOp,ho,hs.ev hx,convert,run_underlying (zL5 hT),run_underlying (zL5 hU),Conv.intToInt]
theorem zW6 (t:Array TypeId) (ho:o.op = .call { callee:=.builtin .max,args:=#[x,y],argTypes:=t }) (hx:ev σ x = some (.int k a)) (hy:ev σ y = some (.int k b)):Pure P σ o (.int k (if b > a then b else a)):=fun _ _ hs w=>by
 simp [execOp,ho,hs.ev hx,hs.ev hy,resolve,invoke,builtin,Builtin.max_,Builtin.max2]
theorem zW7 (t:Array TypeId) (ho:o.op = .call { callee:=.builtin .min,args:=#[x,y],argTypes:=t }) (hx:ev σ x = some (.int k a)) (hy:ev σ y = some (.int k b)):Pure P σ o (.int k (if b < a then b else a)):=fun _ _ hs w=>by
 simp [execOp,ho,hs.ev hx,hs.ev hy,resolve,invoke,builtin,Builtin.min_,Builtin.min2]
end ints
theorem zW8 {T:TypeId} {b:Bool} (ho:o.op = .unOp .not T x) (hx:ev σ x = some (.bool b)):Pure P σ o (.bool (!b)):=fun _ _ hs w=>by
 simp [execOp,ho,hs.ev hx,Op.unary]
section strings
variable {T U:TypeId} {a b:ByteArray}
theorem zW9 (ho:o.op = .binOp .eql T x y U) (hx:ev σ x = some (.string a)) (hy:ev σ y = some (.string b)):Pure P σ o (.bool (a.toList == b.toList)):=fun _ _ hs w=>by
 simp [execOp,ho,hs.ev hx,hs.ev hy,eqGuard,binOp,Op.stringOp]
theorem zXA (ho:o.op = .binOp .neq T x y U) (hx:ev σ x = some (.string a)) (hy:ev σ y = some (.string b)):Pure P σ o (.bool (!(a.toList == b.toList))):=fun _ _ hs w=>by
 simp [execOp,ho,hs.ev hx,hs.ev hy,eqGuard,binOp,Op.stringOp]
theorem zXB (ho:o.op = .binOp .lss T x y U) (hx:ev σ x = some (.string a)) (hy:ev σ y = some (.string b)):Pure P σ o (.bool (Op.bytesLess a.toList b.toList)):=fun _ _ hs w=>by
 simp [execOp,ho,hs.ev hx,hs.ev hy,eqGuard,binOp,Op.stringOp]
theorem zXC (ho:o.op = .binOp .gtr T x y U) (hx:ev σ x = some (.string a)) (hy:ev σ y = some (.string b)):Pure P σ o (.bool !(Op.bytesLess a.toList b.toList || a.toList == b.toList)):=fun _ _ hs w=>by
 simp [execOp,ho,hs.ev hx,hs.ev hy,eqGuard,binOp,Op.stringOp]
theorem zXb (ho:o.op = .binOp .add T x y U) (hx:ev σ x = some (.string a)) (hy:ev σ y = some (.string b)) (hl:((a.size + b.size:Nat):Int) ≤ 9223372036854775807):Pure P σ o (.string (a++b)):=fun _ _ hs w=>by
 have:¬ ((a.size + b.size:Nat):Int) > IntKind.i64.max:=by simp [IntKind.max,IntKind.signed,IntKind.bits]; omega
 simp only [execOp,ho,hs.ev hx,hs.ev hy,eqGuard,binOp,Op.stringOp]
 simp at this
 simp [Int.not_lt.2 (by simpa using this),this]
theorem zQM (ho:o.op = .convert T U x) (hx:ev σ x = some (.string a)) (hT:zDg P T = true) (hU:zDg P U = true):Pure P σ o (.string a):=fun _ _ hs w=>by
 simp [execOp,ho,hs.ev hx,convert,run_underlying (zB6 hT),run_underlying (zB6 hU)]
end strings
section nils
variable {T U E:TypeId}
theorem zRD {a b:Bool} (hT:P.underlying T = some .bool):(Op.equal T (.bool a) (.bool b)).run P w = .ok (a == b) w:=by
 unfold Op.equal Op.maxDepth
 rw [Op.equalIn]
 simp only [Sem.run_bind,run_underlying hT,Result.andThen,Sem.run_pure]
theorem zYy {a b:Bool} (ho:o.op = .binOp .eql T x y U) (hx:ev σ x = some (.bool a)) (hy:ev σ y = some (.bool b)) (hT:P.underlying T = some .bool):Pure P σ o (.bool (a == b)):=fun _ _ hs w=>by
 simp only [execOp,ho,hs.ev hx,hs.ev hy,eqGuard,binOp]
 simp [zRD hT]
theorem zYz {a b:Bool} (ho:o.op = .binOp .neq T x y U) (hx:ev σ x = some (.bool a)) (hy:ev σ y = some (.bool b)) (hT:P.underlying T = some .bool):Pure P σ o (.bool (!(a == b))):=fun _ _ hs w=>by
 simp only [execOp,ho,hs.ev hx,hs.ev hy,eqGuard,binOp]
 simp [zRD hT]
theorem zFP {p:Option Addr} (hT:P.underlying T = some (.pointer E)):(Op.equal T (.pointer p) (.pointer none)).run P w = .ok p.isNone w:=by
 unfold Op.equal Op.maxDepth
 rw [Op.equalIn]
 cases p <;> simp only [Sem.run_bind,run_underlying hT,Result.andThen,Sem.run_pure] <;> rfl
theorem zTN {p:Option Addr} (ho:o.op = .binOp .eql T x y U) (hx:ev σ x = some (.pointer p)) (hy:ev σ y = some (.pointer none)) (hT:P.underlying T = some (.pointer E)):Pure P σ o (.bool p.isNone):=fun _ _ hs w=>by
 cases p <;> simp only [execOp,ho,hs.ev hx,hs.ev hy,eqGuard,binOp] <;> simp [zFP hT]
theorem zTO {p:Option Addr} (ho:o.op = .binOp .neq T x y U) (hx:ev σ x = some (.pointer p)) (hy:ev σ y = some (.pointer none)) (hT:P.underlying T = some (.pointer E)):Pure P σ o (.bool (!p.isNone)):=fun _ _ hs w=>by
 cases p <;> simp only [execOp,ho,hs.ev hx,hs.ev hy,eqGuard,binOp] <;> simp [zFP hT]
theorem zGa {s:Sl} {n c:Nat} (hT:P.underlying T = some (.slice E)):(Op.equal T s.val (.slice none n c)).run P w = .ok s.a.isNone w:=by
 obtain ⟨a,m,d⟩:=s
 unfold Op.equal Op.maxDepth
 rw [Op.equalIn]
 cases a <;> simp only [Sl.val,Sem.run_bind,run_underlying hT,Result.andThen,Sem.run_pure] <;> rfl
theorem zVb {s:Sl} {n c:Nat} (ho:o.op = .binOp .eql T x y U) (hx:ev σ x = some s.val) (hy:ev σ y = some (.slice none n c)) (hT:P.underlying T = some (.slice E)):Pure P σ o (.bool s.a.isNone):=fun _ _ hs w=>by
 obtain ⟨a,m,d⟩:=s
 have:=zGa (w:=w) (s:=⟨a,m,d⟩) (n:=n) (c:=c) hT
 simp only [execOp,ho,hs.ev hx,hs.ev hy,eqGuard,binOp]
 simp [this]
theorem zVc {s:Sl} {n c:Nat} (ho:o.op = .binOp .neq T x y U) (hx:ev σ x = some s.val) (hy:ev σ y = some (.slice none n c)) (hT:P.underlying T = some (.slice E)):Pure P σ o (.bool (!s.a.isNone)):=fun _ _ hs w=>by
 obtain ⟨a,m,d⟩:=s
 have:=zGa (w:=w) (s:=⟨a,m,d⟩) (n:=n) (c:=c) hT
 simp only [execOp,ho,hs.ev hx,hs.ev hy,eqGuard,binOp]
 simp [this]
end nils
theorem zY0 {T:TypeId} {s:Sl} {E esz:Nat} (ho:o.op = .call { callee:=.builtin .len,args:=#[x],argTypes:=#[T] }) (hx:ev σ x = some s.val) (hT:sliceT P T E esz = true):Pure P σ o (.int .i64 s.n):=fun _ _ hs w=>by
 simp [execOp,ho,hs.ev hx,resolve,invoke,builtin,Builtin.len_,run_underlying (zAI hT).1,goInt]
theorem zXc {T:TypeId} {s:ByteArray} (ho:o.op = .call { callee:=.builtin .len,args:=#[x],argTypes:=#[T] }) (hx:ev σ x = some (.string s)) (hT:zDg P T = true):Pure P σ o (.int .i64 s.size):=fun _ _ hs w=>by
 simp [execOp,ho,hs.ev hx,resolve,invoke,builtin,Builtin.len_,run_underlying (zB6 hT),goInt]
theorem zL6 {vs:Array Value} {i:Nat} {v:Value} (ho:o.op = .extract x i) (hx:ev σ x = some (.tuple vs)) (hv:vs[i]? = some v):Pure P σ o v:=fun _ _ hs w=>by
 simp [execOp,ho,hs.ev hx,Instr.extract,hv]
theorem zY1 {T E esz:Nat} {k:IntKind} {s:Sl} {i:Int} {a:Addr} (ho:o.op = .indexAddr T x y) (hx:ev σ x = some s.val) (hy:ev σ y = some (.int k i)) (hT:sliceT P T E esz = true)
  (ha:s.a = some a) (h0:0 ≤ i) (h1:i < s.n):Pure P σ o (.pointer (some (a.add (i.toNat * esz)))):=fun _ _ hs w=>by
 simp [execOp,ho,hs.ev hx,hs.ev hy,Instr.indexAt,asIntOf,run_underlying (zAI hT).1,ha,h0,h1,jJ (zAI hT).2]
theorem zXd {T E len esz:Nat} {k:IntKind} {i:Int} {a:Addr} (ho:o.op = .indexAddr T x y) (hx:ev σ x = some (.pointer (some a))) (hy:ev σ y = some (.int k i)) (hT:zM5 P T E len esz = true)
  (h0:0 ≤ i) (h1:i < len):Pure P σ o (.pointer (some (a.add (i.toNat * esz)))):=fun _ _ hs w=>by
 simp [execOp,ho,hs.ev hx,hs.ev hy,Instr.indexAt,asIntOf,Instr.sureAddr,run_underlying (zJB hT).1,h0,h1,jJ (zJB hT).2]
theorem zXe {T:Nat} {k:IntKind} {s:ByteArray} {i:Int} {b:UInt8} (ho:o.op = .index T x y) (hx:ev σ x = some (.string s)) (hy:ev σ y = some (.int k i)) (hT:zDg P T = true)
  (h0:0 ≤ i) (h1:s[i.toNat]? = some b):Pure P σ o (.int .u8 (b.toNat:Int)):=fun _ _ hs w=>by
 simp [execOp,ho,hs.ev hx,hs.ev hy,Instr.index,asIntOf,run_underlying (zB6 hT),h0,h1]
theorem zKN {fn:Fn} {first cap:Array Operand} {fs cs:List Value} (ho:o.op = .makeFunc fn first cap) (hf:first.toList.mapM (ev σ) = some fs) (hc:cap.toList.mapM (ev σ) = some cs):Pure P σ o (.func fn fs.toArray cs.toArray):=fun a _ hs w=>by
 have key:∀ (l:List Operand) (vs:List Value),l.mapM (ev σ) = some vs→l.map a.eval = vs:=by
  intro l
  induction l with
  | nil=>intro vs h; simp at h; simp [h]
  | cons u l ih =>
   intro vs h
   simp only [List.mapM_cons] at h
   cases hu:ev σ u with
   | none=>simp [hu] at h
   | some v =>
    cases hl:l.mapM (ev σ) with
    | none=>simp [hu,hl] at h
    | some vs'=>simp [hu,hl] at h; subst h; simp [hs.ev hu,ih _ hl]
 have h1:first.map a.eval = fs.toArray:=by
  apply Array.ext'; simpa using key _ _ hf
 have h2:cap.map a.eval = cs.toArray:=by
  apply Array.ext'; simpa using key _ _ hc
 simp only [execOp,ho,Instr.makeFunc,h1,h2]
 simp
end
end
section
open Go
section
variable {P : Program} {σ : List (Nat × Value)} {o : Oper} {x y z : Operand} {w w' : World} {v : Value}
def zFC (σ : List (Nat × Value)) (x : Option Operand) (d : Int) (i : Int) : Prop :=
  match x with
  | none => i = d
  | some x => ∃ k, ev σ x = some (.int k i)
theorem zY2 {T E esz : Nat} {s : Sl} {lo hi mx : Option Operand} {l h m : Int} (ho : o.op = .slice T x lo hi mx) (hx : ev σ x = some s.val) (hT : sliceT P T E esz = true)
    (hl : zFC σ lo 0 l) (hh : zFC σ hi s.n h) (hm : zFC σ mx s.c m) (hmx : mx.isSome = true → hi.isSome = true) (h0 : 0 ≤ l) (h1 : l ≤ h) (h2 : h ≤ m) (h3 : m ≤ s.c) :
    Pure P σ o (Sl.val ⟨zAB s.a l.toNat m.toNat esz, h.toNat - l.toNat, m.toNat - l.toNat⟩) := fun a n hs w => by
  obtain ⟨hsl, hsz⟩ := zAI hT
  have hz := jJ (w := w) hsz
  have bound : ∀ (k : IntKind) (i : Int) (y : Nat) (c : BoundsCode), 0 ≤ i → i ≤ y → (Instr.sliceBound (.int k i) y c).run P w = .ok i.toNat w := fun k i y c ha hb => by
    simp [Instr.sliceBound, asIntOf, ha, hb]
  have hmE : m.toNat ≤ s.c := by omega
  have hmI : ((m.toNat : Nat) : Int) = m := Int.toNat_of_nonneg (by omega)
  have hhI : ((h.toNat : Nat) : Int) = h := Int.toNat_of_nonneg (by omega)
  simp only [execOp, ho, Instr.sliceAt, hs.ev hx]
  simp only [Sem.run_bind, run_underlying hsl, Result.andThen, Instr.slice, Sl.val]
  simp only [Instr.sliceBounds]
  cases mx with
  | none =>
    simp only [zFC] at hm; subst hm
    cases hi with
    | none =>
      simp only [zFC] at hh; subst hh
      cases lo with
      | none =>
        simp only [zFC] at hl; subst hl
        simp [hz, zAB]
      | some lo =>
        obtain ⟨k, hk⟩ := hl
        simp [hs.ev hk, bound k l s.n _ h0 (by omega), hz, zAB]
    | some hi =>
      obtain ⟨k', hk'⟩ := hh
      cases lo with
      | none =>
        simp only [zFC] at hl; subst hl
        simp [hs.ev hk', bound k' h s.c _ (by omega) (by omega), hz, zAB]
      | some lo =>
        obtain ⟨k, hk⟩ := hl
        simp [hs.ev hk, hs.ev hk', bound k' h s.c _ (by omega) (by omega), bound k l h.toNat _ h0 (by omega), hz, zAB]
  | some mx =>
    obtain ⟨k'', hk''⟩ := hm
    cases hi with
    | none => simp at hmx
    | some hi =>
      obtain ⟨k', hk'⟩ := hh
      cases lo with
      | none =>
        simp only [zFC] at hl; subst hl
        simp [hs.ev hk', hs.ev hk'', bound k'' m s.c _ (by omega) (by omega), bound k' h m.toNat _ (by omega) (by omega), hz, zAB]
      | some lo =>
        obtain ⟨k, hk⟩ := hl
        simp [hs.ev hk, hs.ev hk', hs.ev hk'', bound k'' m s.c _ (by omega) (by omega), bound k' h m.toNat _ (by omega) (by omega), bound k l h.toNat _ h0 (by omega), hz, zAB]
theorem zXf {T : Nat} {s : ByteArray} {lo hi : Option Operand} {l h : Int} (ho : o.op = .slice T x lo hi none) (hx : ev σ x = some (.string s)) (hT : zDg P T = true)
    (hl : zFC σ lo 0 l) (hh : zFC σ hi s.size h) (h0 : 0 ≤ l) (h1 : l ≤ h) (h2 : h ≤ s.size) : Pure P σ o (.string (s.extract l.toNat h.toNat)) := fun a n hs w => by
  have hsl := zB6 hT
  have bound : ∀ (k : IntKind) (i : Int) (y : Nat) (c : BoundsCode), 0 ≤ i → i ≤ y → (Instr.sliceBound (.int k i) y c).run P w = .ok i.toNat w := fun k i y c ha hb => by
    simp [Instr.sliceBound, asIntOf, ha, hb]
  simp only [execOp, ho, Instr.sliceAt, hs.ev hx]
  simp only [Sem.run_bind, run_underlying hsl, Result.andThen, Instr.slice]
  simp only [Instr.sliceBounds]
  cases hi with
  | none =>
    simp only [zFC] at hh; subst hh
    cases lo with
    | none => simp only [zFC] at hl; subst hl; simp
    | some lo =>
      obtain ⟨k, hk⟩ := hl
      simp [hs.ev hk, bound k l s.size _ h0 (by omega)]
  | some hi =>
    obtain ⟨k', hk'⟩ := hh
    cases lo with
    | none =>
      simp only [zFC] at hl; subst hl
      simp [hs.ev hk', bound k' h s.size _ (by omega) (by omega)]
    | some lo =>
      obtain ⟨k, hk⟩ := hl
      simp [hs.ev hk, hs.ev hk', bound k' h s.size _ (by omega) (by omega), bound k l h.toNat _ h0 (by omega)]
theorem zTP {T : TypeId} {a : Addr} (ho : o.op = .load T x) (hx : ev σ x = some (.pointer (some a))) (hT : zL4 P T = true) (hv : w.cell? a = some v) : Eff P σ o w (.value v) w := fun _ _ hs => by
  simp [execOp, ho, hs.ev hx, Instr.loadAt, Instr.sureAddr, loadVar, zGo hT, load, Sem.run, hv]
theorem run_loadCells {a : Addr} {cs : Array Value} (h : RdN w a cs) : (loadCells a cs.size).run P w = .ok cs w := by
  have key : ∀ (n i : Nat) (acc : Array Value), i + n = cs.size → acc.toList = cs.toList.take i → (loadCellsFrom a i n acc).run P w = .ok cs w := by
    intro n
    induction n with
    | zero =>
      intro i acc hi hacc
      have : acc = cs := by apply Array.ext'; rw [hacc, List.take_of_length_le]; simp; omega
      simp [loadCellsFrom, this]
    | succ n ih =>
      intro i acc hi hacc
      have hlt : i < cs.size := by omega
      have hc := h i hlt
      rw [Array.getElem?_eq_getElem hlt] at hc
      simp only [loadCellsFrom, Sem.run_bind, load, Sem.run, hc, Result.andThen]
      refine ih (i + 1) _ (by omega) ?_
      rw [Array.toList_push, hacc, List.take_succ_eq_append_getElem (by simpa using hlt)]
      simp
  exact key cs.size 0 #[] (by omega) (by simp)
theorem zRE {T n : Nat} {a : Addr} {cs : Array Value} (ho : o.op = .load T x) (hx : ev σ x = some (.pointer (some a))) (hT : zSN P T n = true) (hn : cs.size = n) (hv : RdN w a cs) : Eff P σ o w (.value (.agg cs)) w := fun _ _ hs => by
  subst hn
  simp [execOp, ho, hs.ev hx, Instr.loadAt, Instr.sureAddr, loadVar, (zC9 hT).1, (zC9 hT).2, run_loadCells hv]
theorem zKO {a : Addr} (hv : qC v = true) (hc : ∃ u, w.cell? a = some u) (hf : w.frozen? a = false) : (store a v).run P w = .ok () (w.setCell a v) := by
  obtain ⟨u, hu⟩ := hc
  cases v <;> simp [qC] at hv <;> simp [store, Sem.run, hu, hf]
theorem zHJ {w : World} {p q : Addr} {x : Value} (h : ∃ u, w.cell? q = some u) : ∃ u, (w.setCell p x).cell? q = some u := by
  obtain ⟨u, hu⟩ := h
  unfold World.cell? at hu ⊢
  unfold World.setCell
  simp only [Array.getElem?_modify]
  cases hb : w.heap[q.block]? with
  | none => simp [hb] at hu
  | some o =>
    cases o <;> simp [hb] at hu
    rename_i c e fz
    by_cases hq : p.block = q.block
    · simp only [hq, if_true, hb, Option.map_some]
      obtain ⟨h1, h2⟩ := hu
      have hlt : q.off < c.size := (Array.getElem?_eq_some_iff.1 h2).1
      simp only [h1]
      cases hsp : p.spot with
      | some s => simp [h2]
      | none =>
        by_cases ho : p.off = q.off
        · simp [ho, hlt]
        · simp [Array.getElem?_setIfInBounds_ne ho, h2]
    · simp only [hq, if_false, hb]
      obtain ⟨h1, h2⟩ := hu
      simp [h1, h2]
theorem zKP {w : World} {p q : Addr} {x : Value} : (w.setCell p x).frozen? q = w.frozen? q := by
  unfold World.frozen? World.setCell
  simp only [Array.getElem?_modify]
  by_cases hq : p.block = q.block
  · simp only [hq, if_true]
    cases hb : w.heap[q.block]? with
    | none => rfl
    | some o => cases o <;> rfl
  · simp [hq]
theorem zB7 {a : Addr} : ∀ (vs : List Value) (i : Nat) (w : World), (∀ v ∈ vs, qC v = true) → (∀ j, j < vs.length → (∃ u, w.cell? (a.add (i + j)) = some u) ∧ w.frozen? (a.add (i + j)) = false) →
    (storeCells a vs i).run P w = .ok () (setCells a vs i w)
  | [], i, w, _, _ => rfl
  | v :: vs, i, w, hf, hc => by
    have h0 := hc 0 (by simp)
    simp only [Nat.add_zero] at h0
    simp only [storeCells, Sem.run_bind, zKO (hf v (by simp)) h0.1 h0.2, Result.andThen, setCells]
    refine zB7 vs (i + 1) _ (fun u hu => hf u (by simp [hu])) fun j hj => ?_
    have hj' := hc (j + 1) (by simpa using hj)
    rw [show i + 1 + j = i + (j + 1) by omega]
    exact ⟨zHJ hj'.1, by rw [zKP]; exact hj'.2⟩
theorem zVd {T : TypeId} {a : Addr} (ho : o.op = .store T x y) (hx : ev σ x = some (.pointer (some a))) (hy : ev σ y = some v) (hT : sizeT P T 1 = true)
    (hw : w' = w.setCell a v) (hc : ∃ u, w.cell? a = some u) (hf : w.frozen? a = false) (hv : qC v = true) : Eff P σ o w .skip w' := fun _ _ hs => by
  subst hw
  have h1 : v.cells = #[v] := by cases v <;> simp [qC] at hv <;> rfl
  have ha : a.add 0 = a := by simp [Addr.add]
  simp [execOp, ho, hs.ev hx, hs.ev hy, Instr.storeAt, Instr.sureAddr, storeVar, jJ hT, h1, storeCells, ha, zKO hv hc hf]
theorem zTQ {T n : Nat} {a : Addr} {cs : Array Value} (ho : o.op = .store T x y) (hx : ev σ x = some (.pointer (some a))) (hy : ev σ y = some (.agg cs)) (hT : sizeT P T n = true) (hw : w' = setCells a cs.toList 0 w) (hn : cs.size = n)
    (hc : ∀ i, i < cs.size → (∃ u, w.cell? (a.add i) = some u) ∧ w.frozen? (a.add i) = false) (hv : ∀ v ∈ cs.toList, qC v = true) : Eff P σ o w .skip w' := fun _ _ hs => by
  subst hn; subst hw
  have := zB7 (P := P) (a := a) cs.toList 0 w hv (fun j hj => by simpa using hc j (by simpa using hj))
  simp [execOp, ho, hs.ev hx, hs.ev hy, Instr.storeAt, Instr.sureAddr, storeVar, jJ hT, Value.cells, this]
theorem zY3 {T : TypeId} {cs : Array Value} {a : Addr} (ho : o.op = .box T x) (hx : ev σ x = some v) (hc : v.cells = cs) (ha : a = ⟨w.heap.size, 0, none⟩) (hw : w' = { w with heap := w.heap.push (.cells cs T) }) : Eff P σ o w (.value (.pointer (some a))) w' := fun _ _ hs => by
  subst ha; subst hw; subst hc
  simp [execOp, ho, hs.ev hx, Instr.box, newVar, newRow, newObj, Sem.run]
def zBx (P : Program) (T : TypeId) (z : Value) : Prop := ∃ i, P.info? T = some i ∧ i.zero = some z
theorem zBI {T : TypeId} {z : Value} (h : zBx P T z) : (zeroValue T).run P w = .ok z w := by
  obtain ⟨i, hi, hz⟩ := h
  simp [zeroValue, typeInfo, program, hi, hz, Sem.run]
theorem zVe {T : TypeId} {zv : Value} {cs : Array Value} {a : Addr} (ho : o.op = .alloc T) (hz : zBx P T zv) (hc : zv.cells = cs) (ha : a = ⟨w.heap.size, 0, none⟩) (hw : w' = { w with heap := w.heap.push (.cells cs T) }) : Eff P σ o w (.value (.pointer (some a))) w' := fun _ _ hs => by
  subst ha; subst hw; subst hc
  simp [execOp, ho, Instr.alloc, zBI hz, newVar, newRow, newObj, Sem.run]
def partsOf (σ : List (Nat × Value)) : List (Nat × Operand) → Option (List (Nat × Value))
  | [] => some []
  | p :: ps => match ev σ p.2, partsOf σ ps with
    | some v, some vs => some ((p.1, v) :: vs)
    | _, _ => none
theorem zCy {a : Act} {n : Nat} (hs : Slots a n σ) : ∀ {ps : List (Nat × Operand)} {vs : List (Nat × Value)}, partsOf σ ps = some vs → ps.map (fun p => (p.1, a.eval p.2)) = vs
  | [], vs, h => by simp [partsOf] at h; subst h; rfl
  | p :: ps, vs, h => by
    unfold partsOf at h
    split at h
    · rename_i v vs' hv hvs
      cases h
      simp [hs.ev hv, zCy hs hvs]
    · cases h
def zRF (P : Program) (T : TypeId) (places : List (Nat × Nat)) : Prop :=
  ∃ fs, P.underlying T = some (.struct fs) ∧ fs.toList.map (fun f => ((P.info? f.type).map fun i => (f.offset, i.size))) = places.map some
theorem run_places {fs : List Field} : ∀ {places : List (Nat × Nat)}, fs.map (fun f => ((P.info? f.type).map fun i => (f.offset, i.size))) = places.map some →
    (List.mapM (fun f : Field => (Prod.mk f.offset <$> sizeOf f.type : Sem (Nat × Nat))) fs).run P w = .ok places w := by
  induction fs with
  | nil => intro places h; cases places <;> simp at h; simp
  | cons f fs ih =>
    intro places h
    cases places with
    | nil => simp at h
    | cons p places =>
      simp only [List.map_cons, List.cons.injEq] at h
      obtain ⟨h1, h2⟩ := h
      cases hi : P.info? f.type with
      | none => simp [hi] at h1
      | some i =>
        simp [hi] at h1; subst h1
        have hz : (sizeOf f.type).run P w = .ok i.size w := jJ (by simp [sizeT, hi])
        rw [List.mapM_cons]
        simp only [Sem.run_bind, Sem.run_map, hz, Result.andThen, ih h2, Sem.run_pure]
theorem zRG {T : TypeId} {zv : Value} {places : List (Nat × Nat)} {ps : Array (Nat × Operand)} {vs : List (Nat × Value)} {cs : Array Value} (ho : o.op = .build T ps) (hz : zBx P T zv) (hp : zRF P T places)
    (hv : partsOf σ ps.toList = some vs) (hc : Instr.fill (places[·]?) zv.cells vs = some cs) : Pure P σ o (.agg cs) := fun _ _ hs w => by
  obtain ⟨fs, hu, hf⟩ := hp
  have h1 := zCy hs hv
  have h2 : (fs.mapM fun f => do pure (f.offset, ← sizeOf f.type) : Sem (Array (Nat × Nat))).run P w = .ok places.toArray w := by
    rw [Array.mapM_eq_mapM_toList]
    simp [run_places (w := w) hf, Result.andThen]
  simp only [execOp, ho, Instr.build]
  simp only [Sem.run_bind, zBI hz, Result.andThen, run_underlying hu, h2]
  have h3 : (fun x : Nat => places.toArray[x]?) = (fun x : Nat => places[x]?) := by funext i; simp
  simp [h1, h3, hc]
theorem zTR {T : TypeId} {ps : Array (Nat × Operand)} {vs : List (Nat × Value)} (ho : o.op = .build T ps) (hv : partsOf σ ps.toList = some vs) (hr : (Instr.build T vs.toArray).run P w = .ok v w') : Eff P σ o w (.value v) w' := fun _ _ hs => by
  have h1 := zCy hs hv
  have h2 : ∀ f : Operand → Value, ps.map (fun p => (p.1, f p.2)) = (ps.toList.map (fun p => (p.1, f p.2))).toArray := fun f => by apply Array.ext'; simp
  simp only [execOp, ho]
  rw [h2, h1]
  simp [hr]
theorem zY4 {v : Value} (h : ∀ w, Eff P σ o w (.value v) w) : Pure P σ o v := fun a n hs w => h w a n hs
theorem zHK {T E esz len : Nat} {zv : Value} {ps : Array (Nat × Operand)} {vs : List (Nat × Value)} {z cs : Array Value} {a : Addr} (ho : o.op = .buildSlice T len ps) (hT : sliceT P T E esz = true) (hz : zBx P E zv)
    (hl : len * esz ≤ 2 ^ 24) (hv : partsOf σ ps.toList = some vs) (hzz : (Array.range (len * esz)).map (fun i => (if len * esz = 0 then #[] else zv.cells)[i % (if len * esz = 0 then #[] else zv.cells).size]!) = z)
    (hc : Instr.fill (fun i => some (i * esz, esz)) z vs = some cs) (ha : a = ⟨w.heap.size, 0, none⟩) (hw : w' = { w with heap := w.heap.push (.cells cs E) }) :
    Eff P σ o w (.value (Sl.val ⟨some a, len, len⟩)) w' := fun _ _ hs => by
  subst ha; subst hw; subst hzz
  obtain ⟨hsl, hsz⟩ := zAI hT
  have h1 := zCy hs hv
  simp only [execOp, ho, Instr.buildSlice]
  simp only [Sem.run_bind, Result.andThen, run_underlying hsl, jJ hsz]
  have h4 : ¬ (len * esz > 2 ^ 24) := by omega
  by_cases h0 : len * esz = 0
  · simp [h0] at hc
    simp [h0, h1, hc, newRow, newObj, Sem.run]
  · simp [h0] at hc
    simp [h0, h4, zBI hz, h1, hc, newRow, newObj, Sem.run]
theorem zTS {T : TypeId} {ok : Bool} {vx vy : Value} (ho : o.op = .lookup T x y ok) (hx : ev σ x = some vx) (hy : ev σ y = some vy) (hr : (Instr.lookup T vx vy ok).run P w = .ok v w') : Eff P σ o w (.value v) w' := fun _ _ hs => by
  simp [execOp, ho, hs.ev hx, hs.ev hy, hr]
theorem zOX {T : TypeId} {vx vy vz : Value} {u : Unit} (ho : o.op = .mapUpdate T x y z) (hx : ev σ x = some vx) (hy : ev σ y = some vy) (hz : ev σ z = some vz) (hr : (Instr.mapUpdate T vx vy vz).run P w = .ok u w') : Eff P σ o w .skip w' := fun _ _ hs => by
  simp [execOp, ho, hs.ev hx, hs.ev hy, hs.ev hz, hr]
theorem zSO {T U : TypeId} {vx : Value} (ho : o.op = .convert T U x) (hx : ev σ x = some vx) (hr : (convert T U vx).run P w = .ok v w') : Eff P σ o w (.value v) w' := fun _ _ hs => by
  simp [execOp, ho, hs.ev hx, hr]
theorem zVf {op : BinOp} {T U : TypeId} {vx vy : Value} (ho : o.op = .binOp op T x y U) (hx : ev σ x = some vx) (hy : ev σ y = some vy) (hr : (do eqGuard op T x y vx vy; binOp op T vx vy : Sem Value).run P w = .ok v w') : Eff P σ o w (.value v) w' := fun _ _ hs => by
  simp only [execOp, ho, hs.ev hx, hs.ev hy]
  rw [Sem.run_bind, hr]; rfl
theorem zSP {T : TypeId} (ho : o.op = .makeMap T none) (hr : (Instr.makeMap T none).run P w = .ok v w') : Eff P σ o w (.value v) w' := fun _ _ hs => by
  simp [execOp, ho, hr]
theorem zOY {T : TypeId} {vx vy : Value} (ho : o.op = .makeSlice T x y) (hx : ev σ x = some vx) (hy : ev σ y = some vy) (hr : (Instr.makeSlice T vx vy).run P w = .ok v w') : Eff P σ o w (.value v) w' := fun _ _ hs => by
  simp [execOp, ho, hs.ev hx, hs.ev hy, hr]
theorem zVg {T : TypeId} {vx : Value} (ho : o.op = .range T x) (hx : ev σ x = some vx) (hr : (Instr.range T vx).run P w = .ok v w') : Eff P σ o w (.value v) w' := fun _ _ hs => by
  simp [execOp, ho, hs.ev hx, hr]
theorem zXg {s : Bool} {vx : Value} {t : TypeId} (ho : o.op = .next x s) (ht : o.type = t) (hx : ev σ x = some vx) (hr : (Instr.next vx s t).run P w = .ok v w') : Eff P σ o w (.value v) w' := fun _ _ hs => by
  simp [execOp, ho, ht, hs.ev hx, hr]
theorem zVh {vx : Value} (ho : o.op = .entry x) (hx : ev σ x = some vx) (hr : (Instr.entry vx).run P w = .ok v w') : Eff P σ o w (.value v) w' := fun _ _ hs => by
  simp [execOp, ho, hs.ev hx, hr]
theorem zJW {T : TypeId} {vx : Value} (ho : o.op = .makeInterface T x) (hx : ev σ x = some vx) (hr : (Instr.makeInterface T vx).run P w = .ok v w') : Eff P σ o w (.value v) w' := fun _ _ hs => by
  simp [execOp, ho, hs.ev hx, hr]
section builtins
variable {ts : Array TypeId} {t : TypeId} {vx vy : Value}
theorem zTT (ho : o.op = .call { callee := .builtin .append, args := #[x, y], argTypes := ts }) (ht : o.type = t) (hx : ev σ x = some vx) (hy : ev σ y = some vy) (hr : (Builtin.append_ ts t #[vx, vy]).run P w = .ok v w') : Eff P σ o w (.value v) w' := fun _ _ hs => by
  simp [execOp, ho, hs.ev hx, hs.ev hy, ht, resolve, invoke, builtin, hr]
theorem zXh (ho : o.op = .call { callee := .builtin .copy, args := #[x, y], argTypes := ts }) (ht : o.type = t) (hx : ev σ x = some vx) (hy : ev σ y = some vy) (hr : (Builtin.copy_ ts t #[vx, vy]).run P w = .ok v w') : Eff P σ o w (.value v) w' := fun _ _ hs => by
  simp [execOp, ho, hs.ev hx, hs.ev hy, ht, resolve, invoke, builtin, hr]
theorem zTU (ho : o.op = .call { callee := .builtin .delete, args := #[x, y], argTypes := ts }) (ht : o.type = t) (hx : ev σ x = some vx) (hy : ev σ y = some vy) (hr : (Builtin.delete_ ts t #[vx, vy]).run P w = .ok v w') : Eff P σ o w (.value v) w' := fun _ _ hs => by
  simp [execOp, ho, hs.ev hx, hs.ev hy, ht, resolve, invoke, builtin, hr]
theorem zVi (ho : o.op = .call { callee := .builtin .clear, args := #[x], argTypes := ts }) (ht : o.type = t) (hx : ev σ x = some vx) (hr : (Builtin.clear_ ts t #[vx]).run P w = .ok v w') : Eff P σ o w (.value v) w' := fun _ _ hs => by
  simp [execOp, ho, hs.ev hx, ht, resolve, invoke, builtin, hr]
theorem zY5 (ho : o.op = .call { callee := .builtin .len, args := #[x], argTypes := ts }) (ht : o.type = t) (hx : ev σ x = some vx) (hr : (Builtin.len_ ts t #[vx]).run P w = .ok v w') : Eff P σ o w (.value v) w' := fun _ _ hs => by
  simp [execOp, ho, hs.ev hx, ht, resolve, invoke, builtin, hr]
theorem zY6 (ho : o.op = .call { callee := .builtin .cap, args := #[x], argTypes := ts }) (ht : o.type = t) (hx : ev σ x = some vx) (hr : (Builtin.cap_ ts t #[vx]).run P w = .ok v w') : Eff P σ o w (.value v) w' := fun _ _ hs => by
  simp [execOp, ho, hs.ev hx, ht, resolve, invoke, builtin, hr]
end builtins
def evs (σ : List (Nat × Value)) : List Operand → Option (List Value)
  | [] => some []
  | x :: xs => match ev σ x, evs σ xs with
    | some v, some vs => some (v :: vs)
    | _, _ => none
theorem zFQ {a : Act} {n : Nat} (hs : Slots a n σ) : ∀ {xs : List Operand} {vs : List Value}, evs σ xs = some vs → xs.map a.eval = vs
  | [], vs, h => by simp [evs] at h; subst h; rfl
  | x :: xs, vs, h => by
    unfold evs at h
    split at h
    · rename_i v vs' hv hvs
      cases h
      simp [hs.ev hv, zFQ hs hvs]
    · cases h
theorem zCz {f : FuncId} {args : Array Value} (h : callable P f = true) : (callFunc f args).run P w = .ok (.enter f args) w := by
  unfold callable at h
  unfold callFunc program
  cases hf : P.funcs[f]? with
  | none => simp [hf] at h
  | some fn =>
    simp [hf] at h
    have h2 : fn.body.isNone = false := by cases hb : fn.body <;> simp [hb] at h ⊢
    have h1 : (fn.name == "runtime.NumGoroutine") = false := by simpa using h.1
    simp only [Sem.run_bind, Sem.run, Result.andThen, hf, h1, h2, Bool.false_eq_true, if_false, Sem.run_pure]
theorem zXi {f : FuncId} {xs : Array Operand} {ts : Array TypeId} {vs : List Value} (ho : o.op = .call { callee := .value x, args := xs, argTypes := ts }) (hx : ev σ x = some (.func (.func f) #[] #[])) (hv : evs σ xs.toList = some vs)
    (hf : callable P f = true) : Eff P σ o w (.enter f vs.toArray) w := fun a _ hs => by
  have h1 : xs.map a.eval = vs.toArray := by apply Array.ext'; simpa using zFQ hs hv
  simp [execOp, ho, resolve, hs.ev hx, h1, Deferred.ofValue, invoke, zCz hf]
theorem zRH {f : FuncId} {first cap : Array Value} {xs : Array Operand} {ts : Array TypeId} {vs : List Value} (ho : o.op = .call { callee := .value x, args := xs, argTypes := ts }) (hx : ev σ x = some (.func (.func f) first cap)) (hv : evs σ xs.toList = some vs)
    (hf : callable P f = true) : Eff P σ o w (.enter f (first ++ vs.toArray ++ cap)) w := fun a _ hs => by
  have h1 : xs.map a.eval = vs.toArray := by apply Array.ext'; simpa using zFQ hs hv
  simp [execOp, ho, resolve, hs.ev hx, h1, Deferred.ofValue, invoke, zCz hf]
end
section
variable {P : Program} {fn : Func} {a : Act} {n : Nat} {σ : List (Nat × Value)} {w : World}
theorem zOZ {T : TypeId} {b : Addr} {v : Value} (hT : zL4 P T = true) (hv : w.cell? b = some v) : (loadVar T b).run P w = .ok v w := by
  simp [loadVar, zGo hT, load, Sem.run, hv]
theorem zM8 {T m : Nat} {b : Addr} {cs : Array Value} (hT : zSN P T m = true) (hm : cs.size = m) (hv : RdN w b cs) : (loadVar T b).run P w = .ok (.agg cs) w := by
  subst hm
  simp [loadVar, (zC9 hT).1, (zC9 hT).2, run_loadCells hv]
def zY7 (P : Program) (σ : List (Nat × Value)) (w : World) (r : ResultVar) (v : Value) : Prop :=
  match r with
  | .tmp t => look σ t = some v
  | .cell t T => ∃ b, look σ t = some (.pointer (some b)) ∧ (loadVar T b).run P w = .ok v w
def zFR (tmps : Array Value) : ResultVar → Sem Value
  | .tmp t => pure (tmps.getD t undef)
  | .cell b t => do loadVar t (← asAddr (tmps.getD b undef))
theorem zQN (fn : Func) (tmps : Array Value) : results fn tmps = (do
    let vs ← fn.results.mapM (zFR tmps)
    pure (if h : vs.size = 1 then vs[0] else .tuple vs)) := by
  unfold results
  congr 1
theorem zIU {r : ResultVar} {v : Value} (hs : Slots a n σ) (h : zY7 P σ w r v) : (zFR a.tmps r).run P w = .ok v w := by
  cases r with
  | tmp t => simp only [zFR, Sem.run_pure, hs.at' _ _ h]
  | cell b T =>
    obtain ⟨c, hc, hl⟩ := h
    have := hs.at' _ _ hc
    simp only [zFR]
    rw [this]
    simp [asAddr, hl]
end
end
section
open Go Go.RowKit
theorem zR (b o n:Nat):(⟨b,o,none⟩:Addr).add n = ⟨b,o + n,none⟩:=by
 unfold Addr.add; split
 ·rename_i h; subst h; rfl
 ·rfl
theorem add_add' (a:Addr) (h:a.spot = none) (m n:Nat):(a.add m).add n = a.add (m + n):=by
 obtain ⟨b,o,s⟩:=a; simp only at h; subst h; simp [zR,Nat.add_assoc]
section
variable {B w:World} {Γ:List zB}
theorem uz {b off:Nat} {cs:Array Value} {T:TypeId} {fz:Nat×Nat} {v:Value} (h:w.heap[b]? = some (.cells cs T fz)) (hv:cs[off]? = some v):w.cell? ⟨b,off,none⟩ = some v:=by
 simp [World.cell?,h,hv]
theorem zBT {b off:Nat} {cs:Array Value} {T:TypeId} {fz:Nat×Nat} (h:w.heap[b]? = some (.cells cs T fz)) (hf:¬ (fz.1 ≤ off∧off < fz.2)):w.frozen? ⟨b,off,none⟩ = false:=by
 obtain ⟨lo,hi⟩:=fz
 simp [World.frozen?,h]
 simp at hf
 exact hf
theorem Holds.mem {A:zB} (h:Holds B Γ w) (hm:A ∈ Γ):∃ Δ,Holds B (A::Δ) w:=by
 obtain ⟨i,hi⟩:=List.mem_iff_getElem?.1 hm
 exact ⟨_,h.pick i hi⟩
theorem Holds.zFx {b:Nat} {o:Obj} (h:Holds B Γ w) (hm:blk b o ∈ Γ):w.heap[b]? = some o:=by
 obtain ⟨Δ,h'⟩:=h.mem hm; exact h'.block
theorem Holds.zVj (h:Holds B Γ w) {a:Addr} {v:Value} (hc:B.cell? a = some v):w.cell? a = some v:=by
 unfold World.cell? at hc ⊢
 cases hb:B.heap[a.block]? with
 | none=>simp [hb] at hc
 | some o=>rw [h.old hb]; simpa [hb] using hc
theorem xE {T:TypeId} {cs:Array Value} {k:Addr→K} (h:Holds B Γ w) (hk:∀ b w',Holds B (blk b (.cells cs T (0,0))::Γ) w'→k ⟨b,0,none⟩ w'):New T cs k w :=
 ⟨_,_,rfl,rfl,hk _ _ (h.alloc _)⟩
theorem zAZ {p:Option Addr} {a:Addr} {k:Addr→K} (hp:p = some a) (hk:k a w):Nn p k w:=⟨a,hp,hk⟩
theorem zB8 {k:K} (h:Holds B Γ w) (hk:∀ w',Holds B Γ w'→k w'):Dr k w:=⟨_,rfl,hk _ (h.drew _)⟩
theorem zBq {k:(World→Prop)→K} (h:Holds B Γ w) (hk:k (Holds B Γ) w):xW k w:=⟨Holds B Γ,h,hk⟩
theorem zFS {S:World→Prop} {k:K} (h:S w) (hk:k w):Sv S k w:=⟨h,hk⟩
theorem yJ {b:Bool} {x y:K} (h1:b = true→x w) (h2:b = false→y w):Ite b x y w:=⟨h1,h2⟩
theorem qO {b:Bool} {x y:K} (hb:b = true) (h1:x w):Ite b x y w:=⟨fun _=>h1,fun h=>absurd (hb.symm.trans h) (by simp)⟩
theorem yH {b:Bool} {x y:K} (hb:b = false) (h1:y w):Ite b x y w:=⟨fun h=>absurd (hb.symm.trans h) (by simp),fun _=>h1⟩
theorem qP {e e':Int} {k:Int→K} (he:e = e') (hk:k e' w):Ar e k w:=⟨e',he.symm,hk⟩
theorem zDz {p:Prop} {k:K} (hp:p) (hk:k w):Cd p k w:=⟨hp,hk⟩
theorem wrap64 {e:Int} (h0:-9223372036854775808 ≤ e) (h1:e ≤ 9223372036854775807):IntKind.wrap .i64 e = e:=by
 unfold IntKind.wrap; simp only [IntKind.bits,IntKind.signed,Bool.true_and,decide_eq_true_eq,Nat.reduceSub,Int.reducePow,ge_iff_le]; split <;> omega
theorem xI {e:Int} (h0:0 ≤ e) (h1:e ≤ 18446744073709551615):IntKind.wrap .u64 e = e:=by
 unfold IntKind.wrap; simp only [IntKind.bits,IntKind.signed,Bool.false_and,Bool.false_eq_true,if_false]; omega
theorem zJv {e:Int} (h0:0 ≤ e) (h1:e ≤ 4294967295):IntKind.wrap .u32 e = e:=by
 unfold IntKind.wrap; simp only [IntKind.bits,IntKind.signed,Bool.false_and,Bool.false_eq_true,if_false]; omega
theorem xq {e:Int} {k:Int→K} (h0:-9223372036854775808 ≤ e) (h1:e ≤ 9223372036854775807) (hk:k e w):Ar (IntKind.wrap .i64 e) k w:=qP (wrap64 h0 h1) hk
theorem xQ {α:Type} {a:Addr} {b off:Nat} {cs:Array Value} {T:TypeId} {fz:Nat×Nat} {c:α→Value} {x:α} {k:α→K} (h:Holds B Γ w) (ha:a = ⟨b,off,none⟩) (hm:blk b (.cells cs T fz) ∈ Γ)
  (hv:cs[off]? = some (c x)) (hk:k x w):Ld a c k w:=⟨x,by subst ha; exact uz (h.zFx hm) hv,hk⟩
theorem zCb {α:Type} {a:Addr} {c:α→Value} {x:α} {k:α→K} (hc:w.cell? a = some (c x)) (hk:k x w):Ld a c k w:=⟨x,hc,hk⟩
theorem zFy {b off:Nat} {cs cs':Array Value} {T:TypeId} {fz:Nat×Nat} (h:w.heap[b]? = some (.cells cs T fz)) (hc:∀ i,i < cs'.size→cs[off + i]? = cs'[i]?):RdN w ⟨b,off,none⟩ cs':=fun i hi=>by
 rw [zR]
 rw [← hc i hi]
 have:cs[off + i]? = some cs'[i]:=by rw [hc i hi]; simp [hi]
 rw [uz h this,this]
theorem zCe {a:Addr} {n:Nat} {cs:Array Value} {k:Array Value→K} (hn:cs.size = n) (hc:RdN w a cs) (hk:k cs w):LdN a n k w:=⟨cs,hn,hc,hk⟩
theorem zCf {α:Type} {a:Addr} {b off:Nat} {cs:Array Value} {T:TypeId} {fz:Nat×Nat} {c:α→Value} {x:α} {k:α→K} (ha:a = ⟨b,off,none⟩) (hm:blk b (.cells cs T fz) ∈ Γ)
  (hv:cs[off]? = some (c x)) (hk:k x w):LdS (Holds B Γ) a c k w:=⟨x,fun w' h=>by subst ha; exact uz (h.zFx hm) hv,hk⟩
theorem zTV {α:Type} {a:Addr} {c:α→Value} {x:α} {k:α→K} (hc:∀ w,Holds B Γ w→w.cell? a = some (c x)) (hk:k x w):LdS (Holds B Γ) a c k w:=⟨x,hc,hk⟩
theorem zHL {b off:Nat} {cs:Array Value} {T:TypeId} {fz:Nat×Nat} {v:Value} (h:w.heap[b]? = some (.cells cs T fz)) :
  w.setCell ⟨b,off,none⟩ v = { w with heap:=w.heap.setIfInBounds b (.cells (cs.setIfInBounds off v) T fz) }:=by
 unfold World.setCell
 congr 1
 apply Array.ext_getElem?
 intro i
 rw [Array.getElem?_modify]
 by_cases hi:b = i
 ·subst hi
  have h3:b < w.heap.size:=(Array.getElem?_eq_some_iff.1 h).1
  simp only [if_true,h,Option.map_some]
  simp [h3]
 ·rw [if_neg hi,Array.getElem?_setIfInBounds_ne hi]
theorem zLh {a:Addr} {b off:Nat} {cs:Array Value} {T:TypeId} {fz:Nat×Nat} {v:Value} {k:K} (i:Nat) (h:Holds B Γ w) (ha:a = ⟨b,off,none⟩) (hi:Γ[i]? = some (blk b (.cells cs T fz))) (ho:off < cs.size)
  (hf:¬ (fz.1 ≤ off∧off < fz.2)) (hv:qC v = true) (hk:∀ w',Holds B (Γ.set i (blk b (.cells (cs.setIfInBounds off v) T fz))) w'→k w'):St a v k w:=by
 subst ha
 have h1:=h.pick i hi
 have hb:=h1.block
 refine ⟨_,rfl,⟨_,uz hb (Array.getElem?_eq_getElem ho)⟩,zBT hb hf,hv,hk _ ?_⟩
 exact Holds.put i hi (h1.setBlock (zHL hb))
theorem zBd {b:Nat} {T:TypeId} {fz:Nat×Nat}:∀ (vs:List Value) (off i:Nat) (w:World) (cs:Array Value),w.heap[b]? = some (.cells cs T fz) →
  setCells ⟨b,off,none⟩ vs i w = { w with heap:=w.heap.setIfInBounds b (.cells ((vs.zipIdx (off + i)).foldl (fun c p=>c.setIfInBounds p.2 p.1) cs) T fz) }
 | [],off,i,w,cs,h=>by
  simp only [setCells,List.zipIdx_nil,List.foldl_nil]
  have hlt:=(Array.getElem?_eq_some_iff.1 h).1
  have:w.heap.setIfInBounds b (.cells cs T fz) = w.heap:=by
   apply Array.ext
   ·simp
   ·intro j h1 h2
    rw [Array.getElem_setIfInBounds]
    split
    ·rename_i hj; subst hj; exact (Array.getElem?_eq_some_iff.1 h).2.symm
    ·rfl
  rw [this]
 | v::vs,off,i,w,cs,h=>by
  have hlt:=(Array.getElem?_eq_some_iff.1 h).1
  simp only [setCells,zR]
  rw [zHL h]
  rw [zBd (T:=T) (fz:=fz) vs off (i + 1) _ (cs.setIfInBounds (off + i) v) (by simp [hlt])]
  simp only [List.zipIdx_cons,List.foldl_cons,Array.setIfInBounds_setIfInBounds]
  rw [Nat.add_assoc]
theorem zCc:∀ (vs:List Value) (pre cs:List Value),pre.length + vs.length = (pre++cs).length →
  (vs.zipIdx pre.length).foldl (fun c p=>c.setIfInBounds p.2 p.1) (pre++cs).toArray = (pre++vs).toArray
 | [],pre,cs,h=>by
  have:cs = []:=by simpa using h
  simp [this]
 | v::vs,pre,[],h=>by simp at h
 | v::vs,pre,c::cs,h=>by
  simp only [List.zipIdx_cons,List.foldl_cons]
  have h1:(pre++c::cs).toArray.setIfInBounds pre.length v = ((pre++[v])++cs).toArray:=by
   apply Array.ext'; simp
  rw [h1]
  have:=zCc vs (pre++[v]) cs (by simp at h ⊢; omega)
  simpa using this
theorem zHM {a:Addr} {b n:Nat} {cs vs:Array Value} {T:TypeId} {fz:Nat×Nat} {k:K} (i:Nat) (h:Holds B Γ w) (ha:a = ⟨b,0,none⟩) (hi:Γ[i]? = some (blk b (.cells cs T fz))) (hn:cs.size = n) (hv:vs.size = n)
  (hf:∀ o,o < n→¬ (fz.1 ≤ o∧o < fz.2)) (hfl:∀ v ∈ vs.toList,qC v = true) (hk:∀ w',Holds B (Γ.set i (blk b (.cells vs T fz))) w'→k w'):StN a n vs k w:=by
 subst ha
 have h1:=h.pick i hi
 have hb:=h1.block
 refine ⟨_,rfl,hv,fun j hj=>?_,hfl,hk _ ?_⟩
 ·rw [zR,Nat.zero_add]
  exact ⟨⟨_,uz hb (Array.getElem?_eq_getElem (by omega))⟩,zBT hb (hf j (by omega))⟩
 ·refine Holds.put i hi (h1.setBlock ?_)
  rw [zBd _ _ _ _ _ hb]
  have:=zCc vs.toList [] cs.toList (by simp; omega)
  simp only [List.length_nil,List.nil_append] at this
  have h2:(cs.toList).toArray = cs:=by simp
  have h3:(vs.toList).toArray = vs:=by simp
  rw [h2,h3] at this
  simp only [Nat.zero_add,Nat.add_zero]
  rw [this]
theorem zQO {zero cs:Array Value} {n:Nat} {k:Array Value→K} (hz:zero.size = n) (hn:cs.size = n) (hk:k cs w):Bld zero (fun i=>some (i * n,n)) [(0,.agg cs)] k w:=by
 refine ⟨cs,?_,hk⟩
 have h1:(Value.agg cs).cells = cs:=rfl
 simp only [Instr.fill,h1,Nat.zero_mul,Nat.zero_add]
 rw [if_neg (by simp [hz,hn])]
 have h2:=zCc cs.toList [] zero.toList (by simp; omega)
 simp only [List.length_nil,List.nil_append] at h2
 have h3:(cs.toList).toArray = cs:=by simp
 have h4:(zero.toList).toArray = zero:=by simp
 rw [h3,h4] at h2
 rw [← Array.foldl_toList,Array.toList_zipIdx]
 exact congrArg some h2
theorem zFD (o:Nat):¬ (((0,0):Nat×Nat).1 ≤ o∧o < ((0,0):Nat×Nat).2):=by simp
end
theorem at0 {A:zB} {Γ:List zB}:(A::Γ)[0]? = some A:=rfl
theorem at1 {A0:zB} {A:zB} {Γ:List zB}:(A0::A::Γ)[1]? = some A:=rfl
theorem at2 {A0:zB} {A1:zB} {A:zB} {Γ:List zB}:(A0::A1::A::Γ)[2]? = some A:=rfl
theorem at3 {A0:zB} {A1:zB} {A2:zB} {A:zB} {Γ:List zB}:(A0::A1::A2::A::Γ)[3]? = some A:=rfl
theorem at4 {A0:zB} {A1:zB} {A2:zB} {A3:zB} {A:zB} {Γ:List zB}:(A0::A1::A2::A3::A::Γ)[4]? = some A:=rfl
theorem at6 {A0:zB} {A1:zB} {A2:zB} {A3:zB} {A4:zB} {A5:zB} {A:zB} {Γ:List zB}:(A0::A1::A2::A3::A4::A5::A::Γ)[6]? = some A:=rfl
theorem at7 {A0:zB} {A1:zB} {A2:zB} {A3:zB} {A4:zB} {A5:zB} {A6:zB} {A:zB} {Γ:List zB}:(A0::A1::A2::A3::A4::A5::A6::A::Γ)[7]? = some A:=rfl
def SlC (E esz:Nat) (s:Sl) (vs:List Value):zB:=fun h=>
 vs.length = s.n * esz∧s.n ≤ s.c ∧
 match s.a with
 | none=>s.c = 0
 | some a=>a.spot = none∧∃ cs fz,h a.block = some (.cells cs E fz)∧(∀ i,a.off ≤ i→i < a.off + s.c * esz→¬ (fz.1 ≤ i∧i < fz.2))∧a.off + s.c * esz ≤ cs.size∧∀ i,i < vs.length→cs[a.off + i]? = vs[i]?
structure RdC (w:World) (s:Sl) (esz:Nat) (vs:List Value):Prop where
 len:vs.length = s.n * esz
 nil:s.a = none→s.n = 0
 at':∀ a,s.a = some a→∀ i,i < vs.length→w.cell? (a.add i) = vs[i]?
def qy (b:UInt8):Value:=.int .u8 b.toNat
def Bytes (E:Nat) (s:Sl) (xs:List UInt8):zB:=SlC E 1 s (xs.map qy)
abbrev RdB (w:World) (s:Sl) (xs:List UInt8):Prop:=RdC w s 1 (xs.map qy)
section
variable {B w:World} {Γ:List zB} {E esz:Nat} {s:Sl} {vs:List Value}
theorem zIV {b:Nat} {o:Obj} {h1:Hp} (hl:h1.le (own B w)) (hb:h1 b = some o):w.heap[b]? = some o:=(zFN (hl _ _ hb)).2
theorem Holds.rdC (h:Holds B Γ w) (hm:SlC E esz s vs ∈ Γ):RdC w s esz vs:=by
 obtain ⟨Δ,h'⟩:=h.mem hm
 obtain ⟨_,h1,h2,⟨hl,hc,hs⟩,_,l1,_,_⟩:=h'
 refine ⟨hl,fun hn=>?_,fun a ha i hi=>?_⟩
 ·rw [hn] at hs; simp only at hs; omega
 ·rw [ha] at hs
  obtain ⟨hsp,cs,fz,hb,_,_,hv⟩:=hs
  obtain ⟨b,off,sp⟩:=a
  simp only at hsp; subst hsp
  rw [zR]
  have:=zIV l1 hb
  have h3:=hv i hi
  have h4:vs[i]? = some vs[i]:=by simp [hi]
  rw [h4] at h3
  rw [uz this h3,h4]
theorem Holds.imp' {a:Addr} {n c:Nat} {cs:Array Value} {T:TypeId} {fz:Nat×Nat} (h:Holds B (SlC E esz ⟨some a,n,c⟩ vs::Γ) w) (hb:w.heap[a.block]? = some (.cells cs T fz)):Holds B (blk a.block (.cells cs T fz)::Γ) w:=by
 obtain ⟨hw,h1,h2,⟨hl,hc,hsp,cs',fz',hb',hf,hsz,hv⟩,b2,l1,l2,d⟩:=h
 have:=zIV l1 hb'
 rw [hb] at this
 refine ⟨hw,h1,h2,?_,b2,l1,l2,d⟩
 unfold blk; rw [hb',this]
theorem RdC.old {s:Sl} {esz:Nat} {vs:List Value} (hr:RdC B s esz vs) (h:Holds B Γ w):RdC w s esz vs :=
 ⟨hr.len,hr.nil,fun a ha i hi=>by
  have h1:=hr.at' a ha i hi
  have h2:vs[i]? = some vs[i]:=by simp [hi]
  rw [h2] at h1 ⊢
  exact h.zVj h1⟩
end
end
section
open Go
def jy (ds:List Deferred) (a:Act) (n:Nat) (σ:List (Nat×Value)):Prop:=Slots { a with defers:=[] } n σ∧a.defers = ds
section
variable {P:Program} {ops:Array Oper} {Q:Exit→Act→World→Prop} {rest:List Oper} {o:Oper} {a:Act} {n m:Nat} {σ τ:List (Nat×Value)} {w w':World} {v:Value} {F:Fence} {ds:List Deferred}
theorem Slots.D (h:Slots a n σ):jy [] a n σ:=by
 obtain ⟨t,d⟩:=a
 have:=h.defers
 simp only at this
 subst this
 exact ⟨h,rfl⟩
theorem jy.nil (h:jy [] a n σ):Slots a n σ:=by
 obtain ⟨t,d⟩:=a
 obtain ⟨h1,h2⟩:=h
 simp only at h2
 subst h2
 exact h1
theorem jy.to (h:jy ds a n σ) (hs:Sub σ τ):jy ds a n τ:=⟨h.1.to hs,h.2⟩
theorem jy.put (h:jy ds a n σ) {d:Nat} (hd:d < n) (v:Value):jy ds (a.put (some d) v) n ((d,v)::σ):=by
 have h1:=h.1.put hd v
 exact ⟨h1,h.2⟩
structure Free (F:Fence):Prop where
 fn:∀ f,F.fn f
 depth:F.depth = none
theorem zFz:Free Fence.wide:=⟨fun _=>trivial,rfl⟩
theorem Free.round (h:Free F) (l:Nat):Free (F.inRound l):=⟨h.fn,h.depth⟩
theorem zEg (hF:Free F) {f:FuncId} {args:Array Value} {R:Ending→World→Prop} (ha:F.alive = false) (h:Calls P f args w R):CallsIn F m P f args w R:=by
 obtain ⟨h1,h2⟩:=(callsIn_wide (n:=m)).2 h
 refine ⟨hF.fn f,fun cs hr=>?_⟩
 obtain ⟨e,w',fr,r,s,x⟩:=h2 cs (fun d hd=>by cases hd)
 refine ⟨e,w',fr,r,?_,x⟩
 have key:Machine.fenced P Fence.wide = Machine.fenced P F:=by
  funext mm
  unfold Machine.fenced
  simp [Fence.wide,ha,hF.fn,Fence.room,hF.depth]
 rwa [key] at s
theorem zM9 {m' l:Nat} {f:FuncId} {tmps:Array Value} {assign body:Code} {R:Ending→World→Prop} (h:RoundIn Fence.wide m P l f tmps assign body w R):RoundIn Fence.wide m' P l f tmps assign body w R :=
 ⟨h.1,fun c cs _=>h.2 c cs (fun d hd=>by cases hd)⟩
theorem zVk {α:Type} {c:Code} (I:α→World→Prop) (μ:α→World→Nat) (G:α→Act→Prop) (x:α) (h0:I x w) (hG:G x a)
  (h:∀ x a w,I x w→G x a→c.wpIn F m P (Exit.then (fun a' w'=>∃ x',G x' a'∧I x' w'∧μ x' w' < μ x w) Q) a w):(Code.loop c).wpIn F m P Q a w:=by
 classical
 let R:Act→World→Nat→Prop:=fun a w k=>∃ x,I x w∧G x a∧μ x w = k
 have key:∀ k a w,R a w k→(Code.loop c).wpIn F m P Q a w:=by
  intro k0 a0 w0 hR0
  intro b kk cs hro hb hr
  have key2:∀ j a w,R a w j→∃ e a' w',Q e a' w'∧ArrivesIn (Machine.fenced P F) P (lone (b.atR a (.code c::.inLoop c::kk)) cs w) b kk cs e a' w':=by
   intro j
   induction j using Nat.strongRecOn with
   | _ j ih=>
    rintro a w ⟨x,hI,hGx,hμ⟩
    obtain ⟨e,a₁,w₁,hq,harr⟩:=h x a w hI hGx b (.inLoop c::kk) cs hro hb hr
    cases e with
    | normal=>
     obtain ⟨x',hG',hI',hlt⟩:=hq
     obtain ⟨e₂,a₂,w₂,hq₂,harr₂⟩:=ih (μ x' w₁) (hμ ▸ hlt) a₁ w₁ ⟨x',hI',hG',rfl⟩
     exact ⟨e₂,a₂,w₂,hq₂,.of_steps (StepsIn.trans harr (.one (fenced_calm hb hr rfl) stepR_inLoop)) harr₂⟩
    | exit id=>exact ⟨_,a₁,w₁,hq,.pass (x:=.inLoop c) rfl (fun _ _=>.inl (by simp)) harr⟩
    | goto l=>exact ⟨_,a₁,w₁,hq,.pass (x:=.inLoop c) rfl (fun _ _=>.inl (by simp)) harr⟩
    | ret=>exact ⟨_,a₁,w₁,hq,.pass (x:=.inLoop c) rfl (fun _ _=>.inl (by simp)) harr⟩
    | panic ch=>exact ⟨_,a₁,w₁,hq,.pass (x:=.inLoop c) rfl (fun _ _=>.inl (by simp)) harr⟩
    | outgrown=>exact ⟨_,a₁,w₁,hq,.pass (x:=.inLoop c) rfl (fun _ _=>.inl (by simp)) harr⟩
  obtain ⟨e,a',w',hq,harr⟩:=key2 k0 a0 w0 hR0
  exact ⟨e,a',w',hq,.of_steps (.one (fenced_calm hb hr rfl) stepR_loop) harr⟩
 exact key _ a w ⟨x,h0,hG,rfl⟩
abbrev yv (l:Nat):Value:=.func (.yield l) #[] #[]
def j6 (P:Program) (f:Value) (args:List Value) (k:Value→K):K:=fun w=>∃ l,f = .func (.yield l) #[] #[]∧YieldAt Fence.wide 0 P l args.toArray w (Ret k)
theorem zVl {l:Nat} {x:Operand} {xs:Array Operand} {ts:Array TypeId} {vs:List Value} (ho:o.op = .call { callee:=.value x,args:=xs,argTypes:=ts }) (hx:ev σ x = some (.func (.yield l) #[] #[])) (hv:evs σ xs.toList = some vs) :
  ∀ (y:Next),(Instr.yield l vs.toArray).run P w = .ok y w→Eff P σ o w y w:=fun y hy a _ hs=>by
 have h1:xs.map a.eval = vs.toArray:=by apply Array.ext'; simpa using zFQ hs hv
 simp [execOp,ho,resolve,hs.ev hx,h1,Deferred.ofValue,invoke,hy]
def zEE (D:Nat):List Deferred:=[{ target:=.collected D,args:=#[] }]
def zNA (l:Nat) (r:Loop) (k:K):K:=fun w=>w.heap[l]? = some (.loop r)∧k (w.putObj l (.loop { r with state:=.ready,pending:=none }))
def zAl (D:Nat) (k:K):K:=fun w=>w.heap[D]? = some (.deferred (some []))∧k (w.putObj D (.deferred none))
def zAC {α:Type} (P:Program) (fv:Value) (cX:α→Value) (body:K→α→K) (after:Nat→K):K:=fun w=>
 ∃ g cs,fv = .func (.func g) #[] cs∧callable P g = true ∧
  ∀ (r:Loop) (w1:World),r.state = .ready→r.pending = none→r.defers = w.heap.size→w1 = (w.alloc (.deferred (some []))).alloc (.loop r) →
   (∀ (x:α) (k:K) (W:World),W.heap[w.heap.size + 1]? = some (.loop r) →
    body (zNA (w.heap.size + 1) { r with state:=.busy } k) x (W.putObj (w.heap.size + 1) (.loop { r with state:=.busy })) →
    YieldAt Fence.wide 0 P (w.heap.size + 1) #[cX x] W (Ret fun v w'=>v = .bool true∧k w')) →
   Calls P g (yv (w.heap.size + 1)::cs.toList).toArray w1 (Ret fun _ w3=>w3.heap[w.heap.size + 1]? = some (.loop r)∧after w.heap.size (w3.putObj (w.heap.size + 1) (.loop { r with state:=.exhausted })))
theorem jy.init (args:List Value) (n:Nat) (hn:args.length ≤ n):jy [] { tmps:=args.toArray++Array.replicate (n - args.toArray.size) undef,defers:=[] } n (args.zipIdx.map fun p=>(p.2,p.1)):=(Slots.init args n hn).D
def zBy (P:Program) (fn:Func) (R:Ending→World→Prop):Exit→Act→World→Prop
 | .normal,a,w | .ret,a,w=>LeavesInM Fence.wide 0 P fn a.tmps R a.defers .returning w
 | _,_,_=>False
theorem zOa {fn:Func} {R:Ending→World→Prop}:zCu (zBy P fn R):=fun _ _ _ h=>h
theorem zTW {f:FuncId} {fn:Func} {c:Code} {args:List Value} {R:Value→World→Prop} (hf:P.funcs[f]? = some fn) (hb:fn.body = some c) (hn:args.length ≤ fn.ntmps)
  (h:∀ a,jy [] a fn.ntmps (args.zipIdx.map fun p=>(p.2,p.1))→c.wpIn Fence.wide 0 P (zBy P fn (Ret R)) a w):Calls P f args.toArray w (Ret R):=by
 refine callsIn_wide.1 (callsIn_of_wp_marks (n:=0) hf hb trivial ?_)
 refine wpIn_mono (h _ (jy.init args _ hn)) fun e a w hq=>?_
 cases e with
 | normal=>exact hq
 | ret=>exact hq
 | _=>exact hq.elim
end
section
variable {P:Program} {B w:World} {Γ:List zB}
theorem zAJ {l:Nat} {o o':Obj} (h:Holds B (blk l o::Γ) w):Holds B (blk l o'::Γ) (w.putObj l o'):=h.setBlock rfl
theorem zTX {l:Nat} {r:Loop} {k:K} (h:Holds B (blk l (.loop r)::Γ) w) (hk:∀ w,Holds B (blk l (.loop { r with state:=.ready,pending:=none })::Γ) w→k w):zNA l r k w:=⟨h.block,hk _ (zAJ h)⟩
theorem zNB {D:Nat} {k:K} (h:Holds B (blk D (.deferred (some []))::Γ) w) (hk:∀ w,Holds B Γ w→k w):zAl D k w:=⟨h.block,hk _ (zAJ (o':=.deferred none) h).tail⟩
theorem zOb {α:Type} {fv:Value} {cX:α→Value} {body:K→α→K} {after:Nat→K} {g:FuncId} {cs:Array Value} (h:Holds B Γ w) (hf:fv = .func (.func g) #[] cs) (hc:callable P g = true)
  (hk:∀ (D l:Nat) (r:Loop) (w:World),r.state = .ready→r.pending = none→Holds B (blk l (.loop r)::blk D (.deferred (some []))::Γ) w →
   (∀ (x:α) (k:K) (W:World) (Δ:List zB),Holds B (blk l (.loop r)::Δ) W→(∀ W,Holds B (blk l (.loop { r with state:=.busy })::Δ) W→body (zNA l { r with state:=.busy } k) x W) →
    j6 P (.func (.yield l) #[] #[]) [cX x] (fun v w=>v = .bool true∧k w) W) →
   Calls P g (yv l::cs.toList).toArray w (Ret fun _ w3=>∃ Δ,Holds B (blk l (.loop r)::Δ) w3∧∀ w,Holds B Δ w→after D w)):zAC P fv cX body after w:=by
 refine ⟨g,cs,hf,hc,fun r w1 h1 h2 h3 hw hy=>?_⟩
 have h4:=h.alloc (.deferred (some []))
 have h5:=h4.alloc (.loop r)
 have e:({ w with heap:=w.heap.push (.deferred (some [])) }:World).heap.size = w.heap.size + 1:=by simp
 rw [e] at h5
 subst hw
 refine (hk w.heap.size (w.heap.size + 1) r _ h1 h2 h5 fun x k W Δ hW hb=>?_).mono fun e w3 he=>?_
 ·exact ⟨_,rfl,hy x k W hW.block (hb _ (zAJ hW))⟩
 ·cases e with
  | returned v=>
   obtain ⟨Δ,h6,h7⟩:=he
   exact ⟨h6.block,h7 _ (zAJ h6).tail⟩
  | panicked c=>exact he.elim
  | outgrown=>exact he.elim
end
theorem zHN {P:Program} {f:FuncId} {args:Array Value} {w:World} {k k':Value→World→Prop} (h:Calls P f args w (Ret k)) (hk:∀ v w,k v w→k' v w):Calls P f args w (Ret k') :=
 h.mono fun e w he=>by
  cases e with
  | returned v=>exact hk _ _ he
  | panicked c=>exact he.elim
  | outgrown=>exact he.elim
theorem zGp {P:Program} {f:Value} {args:List Value} {w:World} {k k':Value→K} (h:j6 P f args k w) (hk:∀ v w,k v w→k' v w):j6 P f args k' w:=by
 obtain ⟨l,hl,fn,tm,sg,bd,hy,hr⟩:=h
 refine ⟨l,hl,fn,tm,sg,bd,hy,hr.mono fun e w he=>?_⟩
 cases e with
 | returned v=>exact hk _ _ he
 | panicked c=>exact he.elim
 | outgrown=>exact he.elim
end
section
open Go
section
variable {P:Program} {ops:Array Oper} {Q:Exit→Act→World→Prop} {S:World→Prop} {o:Oper} {a:Act} {w w':World} {v:Value} {fuel:Nat} {listed:Array Bool}
abbrev opW (P:Program) (ops:Array Oper) (Q:Exit→Act→World→Prop):=wpOpIn Fence.wide 0 P ops Q
theorem zXD {i:Nat} (hi:ops[i]? = some o) (hy:YieldsIf P ops S o v a) {K:Act→World→Prop} (hS:S w) (h:K (a.put o.dst v) w):opW P ops Q i K a w:=by
 unfold opW Go.wpOpIn
 simp only [hi]
 rcases hy with ⟨hw,hv⟩ | ⟨hw,rfl⟩
 ·simp only [hw,if_true,Oper.wpIn]
  refine ⟨fun _ _=>trivial,?_⟩
  show o.uponIn Fence.wide 0 P a K Q ((o.semAt none a.eval).run P w)
  rw [Oper.semAt_none,hv w hS]; exact h
 ·simp only [hw,Bool.false_eq_true,if_false]; exact ⟨fun _ _=>trivial,h⟩
theorem zVm {j:Nat} {oi oj:Oper} (hj:ops[j]? = some oj) (hap:oi.apart ops oj = true) (hsi:∀ cs b,oi.op ≠ .select cs b) (hsj:∀ cs b,oj.op ≠ .select cs b)
  (hQ:∀ c a w,Q (.panic c) (a.put oi.dst v) w→Q (.panic c) a w) {K:Act→World→Prop} (hy:YieldsIf P ops S oi v a) (h:opW P ops Q j K (a.put oi.dst v) w) :
  opW P ops Q j (fun a' w'=>YieldsIf P ops S oi v a'∧K (a'.put oi.dst v) w') a w:=by
 obtain ⟨h1,h2,h3⟩:=Oper.apart_spec hap
 have keep:∀ (a:Act),YieldsIf P ops S oi v a→∀ u,YieldsIf P ops S oi v (a.put oj.dst u):=fun a hy u=>
  hy.of_same (execOp_put oi hsi a oj.dst u h3) (wanted_put oi a oj.dst u h3)
 have keepD:∀ d,YieldsIf P ops S oi v { a with defers:=d::a.defers }:=fun d=>hy.of_same rfl rfl
 unfold opW wpOpIn at *
 simp only [hj] at *
 rw [wanted_put oj a oi.dst v h1] at h
 split
 ·rename_i hw
  simp only [hw,if_true] at h
  unfold Oper.wpIn at *
  refine ⟨fun _ _=>trivial,?_⟩
  have h:=h.2
  have hro:Fence.wide.round = none:=rfl
  rw [hro,Oper.semAt_none,execOp_put oj hsj a oi.dst v h1] at h
  rw [hro,Oper.semAt_none]
  generalize (execOp a.eval oj).run P w = r at *
  cases r with
  | ok x w'=>
   cases x <;> simp only [Oper.uponIn] at h ⊢
   case value u=>exact ⟨keep a hy u,by rw [← Act.put_comm a v u h2]; exact h⟩
   case skip=>exact ⟨keep a hy _,by rw [← Act.put_comm a v undef h2]; exact h⟩
   case defer d=>
    refine ⟨keep _ (keepD d) _,?_⟩
    rw [← Act.put_comm _ v undef h2,← Act.put_defers]
    exact h
   case enter f args=>
    refine ⟨h.1,CallsIn.mono h.2 fun e w'' he=>?_⟩
    cases e with
    | returned u=>exact ⟨keep a hy u,by rw [← Act.put_comm a v u h2]; exact he⟩
    | panicked c=>exact hQ _ _ _ he
    | outgrown=>exact he
   case row row args=>exact ⟨h.1,RowsIn.mono h.2 fun u w'' he=>⟨keep a hy u,by rw [← Act.put_comm a v u h2]; exact he⟩⟩
   case round l f tmps assign body=>
    refine ⟨h.1,RoundIn.mono h.2 fun e w'' he=>?_⟩
    cases e with
    | returned u=>exact ⟨keep a hy u,by rw [← Act.put_comm a v u h2]; exact he⟩
    | panicked c=>exact hQ _ _ _ he
    | outgrown=>exact he
  | halt x w'=>
   cases x <;> simp only [Oper.uponIn] at h ⊢
   case panic u=>exact hQ _ _ _ h
 ·rename_i hw
  simp only [hw] at h
  exact ⟨fun _ _=>trivial,keep a hy _,by rw [← Act.put_comm a v undef h2]; exact h.2⟩
def alive (ds:List Nat) (l:Array Bool):Bool:=ds.all fun d=>!l.getD d false
def zCS (P:Program) (ops:Array Oper) (Q:Exit→Act→World→Prop) (S:World→Prop) (ds:List Nat):Nat→Array Bool→Act→World→Prop
 | 0,listed,a,w=>Region.ready .any ops listed = []∧Q .normal a w
 | fuel + 1,listed,a,w=>
  (Region.ready .any ops listed = []→Q .normal a w) ∧
  ∀ i ∈ Region.ready .any ops listed,opW P ops Q i (fun a' w'=>(alive ds listed = true→i ∉ ds→S w→S w')∧zCS P ops Q S ds fuel (listed.setIfInBounds i true) a' w') a w
variable {ds:List Nat}
theorem zC0:∀ (fuel:Nat) (listed:Array Bool) (a:Act) (w:World),zCS P ops Q S ds fuel listed a w→wpAnyIn Fence.wide 0 P .any ops Q fuel listed a w
 | 0,_,_,_,h=>h
 | fuel + 1,_,_,_,h=>⟨h.1,fun i hi=>wpOpIn_mono (fun a' w' h'=>zC0 fuel _ a' w' h'.2) (h.2 i hi)⟩
theorem zIW {ds':List Nat} (hsub:∀ d ∈ ds',d ∈ ds):∀ (fuel:Nat) (listed:Array Bool) (a:Act) (w:World),zCS P ops Q S ds' fuel listed a w→zCS P ops Q S ds fuel listed a w
 | 0,_,_,_,h=>h
 | fuel + 1,_,_,_,h=>⟨h.1,fun i hi=>wpOpIn_mono (fun a' w' h'=>⟨fun hal hid=>h'.1 (List.all_eq_true.2 fun d hd=>List.all_eq_true.1 hal d (hsub d hd)) (fun hm=>hid (hsub i hm)),zIW hsub fuel _ a' w' h'.2⟩) (h.2 i hi)⟩
theorem zL7 {l:Array Bool} {i:Nat} (hi:i ∉ ds) (h:alive ds l = true):alive ds (l.setIfInBounds i true) = true:=by
 refine List.all_eq_true.2 fun d hd=>?_
 have:=List.all_eq_true.1 h d hd
 have hne:i ≠ d:=fun e=>hi (e ▸ hd)
 rw [getD_set_ne false hne]; exact this
theorem zNC {T:World→Prop} {i:Nat} {oi:Oper} (hi:ops[i]? = some oi) (hid:i ∉ ds) (hsel:∀ (j:Nat) (o:Oper) cs b,ops[j]? = some o→o.op ≠ .select cs b) (hQ:zCu Q) :
  ∀ (fuel:Nat) (listed:Array Bool) (a:Act) (w:World),
   (∀ j oj,ops[j]? = some oj→j ≠ i→listed.getD j true = false→(∀ e ∈ oj.after,Region.binds .any e = true→e.on ≠ i)→oi.apart ops oj = true) →
   ((∀ w,T w)∨(T = S∧Closed ops listed∧∀ d ∈ ds,∃ n,reach ops i n d = true)) →
   i ∈ Region.ready .any ops listed→YieldsIf P ops T oi v a→T w →
   zCS P ops Q S ds fuel (listed.setIfInBounds i true) (a.put oi.dst v) w→zCS P ops Q S ds (fuel + 1) listed a w:=by
 have hQ':∀ c a w,Q (.panic c) (a.put oi.dst v) w→Q (.panic c) a w:=fun c a w h=>absurd h (hQ c _ w)
 intro fuel
 induction fuel with
 | zero=>
  intro listed a w _ _ hr hy hT H
  refine ⟨fun h=>(by rw [h] at hr; cases hr),fun j hj=>?_⟩
  by_cases hji:j = i
  ·subst hji; exact zXD hi hy hT ⟨fun _ _ h=>h,H⟩
  ·have:=ready_mono hj hji
   rw [H.1] at this
   cases this
 | succ fuel ih=>
  intro listed a w hfree hlast hr hy hT H
  refine ⟨fun h=>(by rw [h] at hr; cases hr),fun j hj=>?_⟩
  by_cases hji:j = i
  ·subst hji; exact zXD hi hy hT ⟨fun _ _ h=>h,H⟩
  ·have h1:=H.2 j (ready_mono hj hji)
   obtain ⟨hjun,oj,hoj,hall⟩:=mem_ready.1 hj
   have hi0:listed.getD i true = false:=(mem_ready.1 hr).1
   have hi1:listed.getD i false = false:=by
    rcases Nat.lt_or_ge i listed.size with h' | h'
    ·simp [h'] at hi0 ⊢; exact hi0
    ·simp [Array.getElem?_eq_none h'] at hi0
   have hnot:∀ e ∈ oj.after,Region.binds .any e = true→e.on ≠ i:=fun e he hb heq=>by
    have h1:=hall e he hb
    rw [heq,hi1] at h1
    cases h1
   have hTw:∀ w',(alive ds listed = true→j ∉ ds→S w→S w')→T w':=fun w' h=>by
    rcases hlast with hl | ⟨rfl,hcl,hl⟩
    ·exact hl w'
    ·refine h (List.all_eq_true.2 fun d hd=>?_) (fun hd=>?_) hT
     ·cases hld:listed.getD d false with
      | false=>rfl
      | true=>
       obtain ⟨n,hn⟩:=hl d hd
       cases hod:ops[d]? with
       | none=>cases n <;> simp [reach,hod] at hn
       | some od=>
        have:=zEf hcl n d od hod (hcl d od hod hld) hn
        rw [hi1] at this; cases this
     ·obtain ⟨n,hn⟩:=hl j hd
      have:=zEf hcl n j oj hoj hall hn
      rw [hi1] at this; cases this
   have h2:=zVm hoj (hfree j oj hoj hji hjun hnot) (fun cs b=>hsel i oi cs b hi) (fun cs b=>hsel j oj cs b hoj) hQ' hy h1
   have hun':∀ k,(listed.setIfInBounds j true).getD k true = false→listed.getD k true = false:=fun k hun=>by
    by_cases hjk:j = k
    ·subst hjk; exact hjun
    ·rw [getD_set_ne true hjk] at hun; exact hun
   refine wpOpIn_mono (fun a' w' h3=>⟨fun hal=>h3.2.1 (zL7 hid hal),ih (listed.setIfInBounds j true) a' w' (fun k ok hk hki hun hno=>hfree k ok hk hki (hun' k hun) hno) ?_ (ready_mono hr (Ne.symm hji)) h3.1 (hTw w' fun hal=>h3.2.1 (zL7 hid hal)) ?_⟩) h2
   ·rcases hlast with hl | ⟨hTS,hcl,hl⟩
    ·exact .inl hl
    ·exact .inr ⟨hTS,hcl.put hj,hl⟩
   ·rw [Array.setIfInBounds_comm _ _ hji]
    exact h3.2.2
end
end
section
open Go
class CT (P:Program) (T:Nat):Prop where h:zL4 P T = true
class AT (P:Program) (T:Nat) (n:outParam Nat):Prop where h:zSN P T n = true
class SZ (P:Program) (T:Nat) (n:outParam Nat):Prop where h:sizeT P T n = true
class SLT (P:Program) (T:Nat) (E esz:outParam Nat):Prop where h:sliceT P T E esz = true
class ART (P:Program) (T:Nat) (E len esz:outParam Nat):Prop where h:zM5 P T E len esz = true
class STT (P:Program) (T:Nat):Prop where h:zDg P T = true
class INT (P:Program) (T:Nat) (k:outParam IntKind):Prop where h:zTJ P T k = true
class ZT (P:Program) (T:Nat) (z:outParam Value):Prop where h:zBx P T z
class PLT (P:Program) (T:Nat) (l:outParam (List (Nat×Nat))):Prop where h:zRF P T l
class FT (P:Program) (S i:Nat) (off n:outParam Nat):Prop where h:zM6 P S i off n = true
class FC (P:Program) (S i:Nat) (off:outParam Nat):Prop where h:zQJ P S i off = true
class FNC (P:Program) (S i:Nat) (off n:outParam Nat):Prop where h:zQK P S i off n = true
class UN (P:Program) (T:Nat) (d:outParam TypeDesc):Prop where h:P.underlying T = some d
class CB (P:Program) (f:Nat):Prop where h:callable P f = true
class EXT (P:Program) (f:Nat) (e:outParam (Array Value→Sem Value)):Prop where h:∀ args w v w',(e args).run P w = .ok v w'→(callFunc f args).run P w = .ok (.value v) w'
class MX (P:Program):Prop where h:P.follows .mixedOrders = true
def zDC {α β γ δ:Type} (c:α→β→γ→δ→Value) (k:α→β→γ→δ→K):Value→K:=fun v w=>∃ x y z u,v = c x y z u∧k x y z u w
def zDc {α β γ δ ε:Type} (c:α→β→γ→δ→ε→Value) (k:α→β→γ→δ→ε→K):Value→K:=fun v w=>∃ x y z u t,v = c x y z u t∧k x y z u t w
section
variable {P:Program} {σ τ:List (Nat×Value)} {o:Oper} {x y z:Operand} {v:Value} {T U:TypeId}
theorem zJD {S i off n:Nat} {a:Addr} [c:FT P S i off n] (ho:o.op = .fieldAddr S x i) (hx:ev σ x = some (.pointer (some a))):Pure P σ o (.pointer (some (a.add off))):=zJC ho hx c.h
theorem zHO {S i n:Nat} {a:Addr} [c:FT P S i 0 n] (ho:o.op = .fieldAddr S x i) (hx:ev σ x = some (.pointer (some a))):Pure P σ o (.pointer (some a)):=zM7 ho hx c.h
theorem zOc {S i off n:Nat} {cs:Array Value} [c:FNC P S i off n] (ho:o.op = .field S x i) (hx:ev σ x = some (.agg cs)):Pure P σ o (.agg (cs.extract off (off + n))):=zTM ho hx c.h
theorem q_len {s:Sl} {E esz:Nat} [c:SLT P T E esz] (ho:o.op = .call { callee:=.builtin .len,args:=#[x],argTypes:=#[T] }) (hx:ev σ x = some s.val):Pure P σ o (.int .i64 s.n):=zY0 ho hx c.h
theorem zTY {s:ByteArray} [c:STT P T] (ho:o.op = .call { callee:=.builtin .len,args:=#[x],argTypes:=#[T] }) (hx:ev σ x = some (.string s)):Pure P σ o (.int .i64 s.size):=zXc ho hx c.h
theorem zKQ {s:ByteArray} [c:STT P T] [d:STT P U] (ho:o.op = .convert T U x) (hx:ev σ x = some (.string s)):Pure P σ o (.string s):=zQM ho hx c.h d.h
theorem zKR {k j:IntKind} {a:Int} [c:INT P T k] [d:INT P U j] (ho:o.op = .convert T U x) (hx:ev σ x = some (.int k a)):Pure P σ o (.int j (j.wrap a)):=zQL ho hx c.h d.h
theorem zXE {a b:Bool} [c:UN P T .bool] (ho:o.op = .binOp .eql T x y U) (hx:ev σ x = some (.bool a)) (hy:ev σ y = some (.bool b)):Pure P σ o (.bool (a == b)):=zYy ho hx hy c.h
theorem zXF {a b:Bool} [c:UN P T .bool] (ho:o.op = .binOp .neq T x y U) (hx:ev σ x = some (.bool a)) (hy:ev σ y = some (.bool b)):Pure P σ o (.bool (!(a == b))):=zYz ho hx hy c.h
theorem zOd {p:Option Addr} {E:Nat} [c:UN P T (.pointer E)] (ho:o.op = .binOp .eql T x y U) (hx:ev σ x = some (.pointer p)) (hy:ev σ y = some (.pointer none)):Pure P σ o (.bool p.isNone):=zTN ho hx hy c.h
theorem zOe {p:Option Addr} {E:Nat} [c:UN P T (.pointer E)] (ho:o.op = .binOp .neq T x y U) (hx:ev σ x = some (.pointer p)) (hy:ev σ y = some (.pointer none)):Pure P σ o (.bool (!p.isNone)):=zTO ho hx hy c.h
theorem zRI {s:Sl} {E n c:Nat} [cl:UN P T (.slice E)] (ho:o.op = .binOp .eql T x y U) (hx:ev σ x = some s.val) (hy:ev σ y = some (.slice none n c)):Pure P σ o (.bool s.a.isNone):=zVb ho hx hy cl.h
theorem zRJ {s:Sl} {E n c:Nat} [cl:UN P T (.slice E)] (ho:o.op = .binOp .neq T x y U) (hx:ev σ x = some s.val) (hy:ev σ y = some (.slice none n c)):Pure P σ o (.bool (!s.a.isNone)):=zVc ho hx hy cl.h
theorem zXG {a b:ByteArray} (ho:o.op = .binOp .geq T x y U) (hx:ev σ x = some (.string a)) (hy:ev σ y = some (.string b)):Pure P σ o (.bool !(Op.bytesLess a.toList b.toList)):=fun _ _ hs w=>by
 simp [execOp,ho,hs.ev hx,hs.ev hy,eqGuard,binOp,Op.stringOp]
theorem zXH {a b:ByteArray} (ho:o.op = .binOp .leq T x y U) (hx:ev σ x = some (.string a)) (hy:ev σ y = some (.string b)):Pure P σ o (.bool (Op.bytesLess a.toList b.toList || a.toList == b.toList)):=fun _ _ hs w=>by
 simp [execOp,ho,hs.ev hx,hs.ev hy,eqGuard,binOp,Op.stringOp]
def zND:List Value→List (Nat×Nat)→List (Nat×Value)→List Value
 | zs,_,[]=>zs
 | zs,ps,p::vs=>zND (zs.set ((ps.getD p.1 (0,0)).1) p.2) ps vs
def zIX:List (Nat×Value)→Bool
 | []=>true
 | p::vs=>qC p.2 && zIX vs
theorem zRK {z:Value} {zl:List Value} {pl:List (Nat×Nat)} {ps:Array (Nat×Operand)} {vs:List (Nat×Value)} [c:ZT P T z] [d:PLT P T pl] (ho:o.op = .build T ps) (hv:partsOf σ ps.toList = some vs) (hf:zIX vs = true) (hz:z.cells = zl.toArray)
  (hc:Instr.fill (pl[·]?) z.cells vs = some (zND zl pl vs).toArray):Pure P σ o (.agg (zND zl pl vs).toArray):=zRG ho c.h d.h hv hc
def nth:List Value→Nat→Option Value
 | [],_=>none
 | v::_,0=>some v
 | _::l,i + 1=>nth l i
theorem zGq:∀ (l:List Value) (i:Nat),nth l i = l[i]?
 | [],_=>rfl
 | _::_,0=>rfl
 | _::l,i + 1=>by simpa [nth] using zGq l i
theorem zL8 {l:List Value} {i:Nat} (ho:o.op = .extract x i) (hx:ev σ x = some (.tuple l.toArray)) (hv:nth l i = some v):Pure P σ o v:=zL6 ho hx (by rw [zGq] at hv; simpa using hv)
theorem zNE (h:Pure P σ o v:=by
  first
  | exact zTK rfl rfl | exact zOT rfl rfl | exact zWu rfl rfl | exact zHO rfl rfl | exact zJD rfl rfl | exact q_len rfl rfl | exact zYr rfl rfl rfl | exact zYs rfl rfl rfl | exact zYt rfl rfl rfl | exact zYu rfl rfl rfl
  | exact zYv rfl rfl rfl | exact zYw rfl rfl rfl | exact zW8 rfl rfl | exact zOU rfl rfl rfl | exact zOV rfl rfl rfl | exact zOW rfl rfl rfl rfl | exact zL8 rfl rfl rfl | exact zTY rfl rfl | exact zW9 rfl rfl rfl | exact zXA rfl rfl rfl
  | exact zXB rfl rfl rfl | exact zXC rfl rfl rfl | exact zXG rfl rfl rfl | exact zXH rfl rfl rfl | exact zOd rfl rfl rfl | exact zOe rfl rfl rfl | exact zRI rfl rfl rfl | exact zRJ rfl rfl rfl | exact zXE rfl rfl rfl | exact zXF rfl rfl rfl
  | exact zOc rfl rfl | exact zRK rfl rfl rfl rfl (by kernel_rfl) | exact zKN rfl rfl rfl | exact zTL rfl rfl | exact zKQ rfl rfl):Pure P σ o v:=h
def WP (P:Program) (σ:List (Nat×Value)) (o:Oper) {α:Type} (k:K) (v:α→Value) (k':α→K):Prop:=∀ w,k w→∃ x,Pure P σ o (v x)∧k' x w
def WR (P:Program) (σ:List (Nat×Value)) (o:Oper) {α:Type} (k:K) (v:α→Value) (k':α→K):Prop:=∀ w,k w→∃ x,Eff P σ o w (.value (v x)) w∧k' x w
def WE (P:Program) (σ:List (Nat×Value)) (o:Oper) {α:Type} (k:K) (v:α→Value) (k':α→K):Prop:=∀ w,k w→∃ x w',Eff P σ o w (.value (v x)) w'∧k' x w'
def WK (P:Program) (σ:List (Nat×Value)) (o:Oper) (k k':K):Prop:=∀ w,k w→∃ w',Eff P σ o w .skip w'∧k' w'
def WC (P:Program) (σ:List (Nat×Value)) (o:Oper) (k:K) (kk:Value→K):Prop:=∀ w,k w→∃ f args w',Eff P σ o w (.enter f args) w'∧Calls P f args w' (Ret kk)
def WY (P:Program) (σ:List (Nat×Value)) (o:Oper) (k:K) (kk:Value→K):Prop:=∀ w,k w→∃ l args,(∀ y,(Instr.yield l args).run P w = .ok y w→Eff P σ o w y w)∧YieldAt Fence.wide 0 P l args w (Ret kk)
def WS (P:Program) (S:World→Prop) (σ:List (Nat×Value)) (o:Oper) {α:Type} (k:K) (v:α→Value) (k':α→K):Prop:=∀ w,k w→∃ x,(∀ w,S w→Eff P σ o w (.value (v x)) w)∧k' x w
section
variable {α β:Type} {e:Int} {p:Prop} {kk:IntKind} {ki:Int→K} {ka:Addr→K} {s:Sl} {i lo hi mx:Int} {esz:Nat} {c:α→Value} {kx:α→K} {k:K}
theorem zOf (hp:Pure P σ o (.int kk e)):WP P σ o (Ar e ki) (fun t=>.int kk t) ki:=fun w ⟨t,he,h⟩=>⟨t,he ▸ hp,h⟩
theorem zRL (hp:p→Pure P σ o (.int kk e)):WP P σ o (Cd p (Ar e ki)) (fun t=>.int kk t) ki:=fun w ⟨h0,t,he,h⟩=>⟨t,he ▸ hp h0,h⟩
theorem zTZ {E:Nat} {kj:IntKind} [cl:SLT P T E esz] (ho:o.op = .indexAddr T x y) (hx:ev σ x = some s.val) (hy:ev σ y = some (.int kj i)):WP P σ o (Idx s i esz ka) (fun t=>.pointer (some t)) ka :=
 fun w ⟨a,t,ha,h0,h1,he,h⟩=>⟨t,Pure.adr he (zY1 ho hx hy cl.h ha h0 h1),h⟩
theorem zRM {E len:Nat} {kj:IntKind} {a:Addr} [cl:ART P T E len esz] (ho:o.op = .indexAddr T x y) (hx:ev σ x = some (.pointer (some a))) (hy:ev σ y = some (.int kj i)):WP P σ o (zCO a len i esz ka) (fun t=>.pointer (some t)) ka :=
 fun w ⟨t,h0,h1,he,h⟩=>⟨t,Pure.adr he (zXd ho hx hy cl.h h0 h1),h⟩
theorem zRN {kj:IntKind} {s:ByteArray} [cl:STT P T] (ho:o.op = .index T x y) (hx:ev σ x = some (.string s)) (hy:ev σ y = some (.int kj i)):WP P σ o (zDx s i ki) (fun t=>.int .u8 t) ki :=
 fun w ⟨t,b,h0,h1,he,h⟩=>⟨t,Pure.int he (zXe ho hx hy cl.h h0 h1),h⟩
theorem zTa {S j off:Nat} {cs:Array Value} [cl:FC P S j off] (ho:o.op = .field S x j) (hx:ev σ x = some (.agg cs)):WP P σ o (Fld cs off c kx) c kx :=
 fun w ⟨t,hv,h⟩=>⟨t,zVa ho hx cl.h hv,h⟩
theorem zTb {E:Nat} {lo' hi' mx':Option Operand} {ks:Sl→K} [cl:SLT P T E esz] (ho:o.op = .slice T x lo' hi' mx') (hx:ev σ x = some s.val) (hl:zFC σ lo' 0 lo) (hh:zFC σ hi' s.n hi) (hm:zFC σ mx' s.c mx) (hmx:(!mx'.isSome || hi'.isSome) = true) :
  WP P σ o (Slc s lo hi mx esz ks) (fun t=>t.val) ks :=
 fun w ⟨t,h0,h1,h2,h3,he,h⟩=>⟨t,Pure.sl he (zY2 ho hx cl.h hl hh hm (fun hs=>by rw [hs] at hmx; simpa using hmx) h0 h1 h2 h3),h⟩
theorem zRO {lo' hi':Option Operand} {s:ByteArray} {ks:ByteArray→K} [cl:STT P T] (ho:o.op = .slice T x lo' hi' none) (hx:ev σ x = some (.string s)) (hl:zFC σ lo' 0 lo) (hh:zFC σ hi' s.size hi) :
  WP P σ o (zDy s lo hi ks) (fun t=>.string t) ks :=
 fun w ⟨t,h0,h1,h2,he,h⟩=>⟨t,Pure.str he (zXf ho hx cl.h hl hh h0 h1 h2),h⟩
theorem zTc {a b:ByteArray} {ks:ByteArray→K} (ho:o.op = .binOp .add T x y U) (hx:ev σ x = some (.string a)) (hy:ev σ y = some (.string b)):WP P σ o (Cat a b ks) (fun t=>.string t) ks :=
 fun w ⟨t,h0,he,h⟩=>⟨t,Pure.str he (zXb ho hx hy h0),h⟩
theorem zTd {sem:Sem Value} (hs:∀ v w w',sem.run P w = .ok v w'→Eff P σ o w (.value v) w'):WP P σ o (Pu P sem c kx) c kx :=
 fun w ⟨t,hd,h⟩=>⟨t,zY4 fun w=>hs _ _ _ (hd w),h⟩
theorem zTe {t:Value} {j:Nat} (ho:o.op = .extract x j) (hx:ev σ x = some t):WP P σ o (Ext t j c kx) c kx :=
 fun w ⟨vs,u,ht,hv,h⟩=>⟨u,zL6 ho (hx.trans (congrArg some ht)) hv,h⟩
theorem zTf {zv:Value} {zero:Array Value} {pl:List (Nat×Nat)} {ps:Array (Nat×Operand)} {vs:List (Nat×Value)} {kc:Array Value→K} [cz:ZT P T zv] [cp:PLT P T pl] (ho:o.op = .build T ps) (hv:partsOf σ ps.toList = some vs) (hz:zv.cells = zero) :
  WP P σ o (Bld zero (pl[·]?) vs kc) (fun t=>.agg t) kc:=fun w ⟨t,hb,h⟩=>⟨t,zRG ho cz.h cp.h hv (by rw [hz]; exact hb),h⟩
theorem zXI {a:Addr} [cl:CT P T] (ho:o.op = .load T x) (hx:ev σ x = some (.pointer (some a))):WR P σ o (Ld a c kx) c kx:=fun w ⟨t,hv,h⟩=>⟨t,zTP ho hx cl.h hv,h⟩
theorem zTg {n:Nat} {a:Addr} {kc:Array Value→K} [cl:AT P T n] (ho:o.op = .load T x) (hx:ev σ x = some (.pointer (some a))):WR P σ o (LdN a n kc) (fun t=>.agg t) kc:=fun w ⟨t,hn,hv,h⟩=>⟨t,zRE ho hx cl.h hn hv,h⟩
theorem zGb {sem:Sem Value} (hs:∀ v w w',sem.run P w = .ok v w'→Eff P σ o w (.value v) w'):WR P σ o (Rd P sem c kx) c kx:=fun w ⟨t,hd,h⟩=>⟨t,hs _ _ _ hd,h⟩
theorem zIY {sem:Sem Value} {c:α→β→Value} {kx:α→β→K} (hs:∀ v w w',sem.run P w = .ok v w'→Eff P σ o w (.value v) w'):WR P σ o (Rd2 P sem c kx) (fun u=>u) (fun u=>jT c kx u):=fun w ⟨t,u,hd,h⟩=>⟨c t u,hs _ _ _ hd,t,u,rfl,h⟩
variable {S:World→Prop}
theorem zXJ {a:Addr} [cl:CT P T] (ho:o.op = .load T x) (hx:ev σ x = some (.pointer (some a))):WS P S σ o (LdS S a c kx) c kx:=fun w ⟨t,hv,h⟩=>⟨t,fun w hS=>zTP ho hx cl.h (hv w hS),h⟩
theorem zTh {n:Nat} {a:Addr} {kc:Array Value→K} [cl:AT P T n] (ho:o.op = .load T x) (hx:ev σ x = some (.pointer (some a))):WS P S σ o (zBt S a n kc) (fun t=>.agg t) kc:=fun w ⟨t,hn,hv,h⟩=>⟨t,fun w hS=>zRE ho hx cl.h hn (hv w hS),h⟩
theorem zOg {sem:Sem Value} (hs:∀ v w w',sem.run P w = .ok v w'→Eff P σ o w (.value v) w'):WS P S σ o (RdS P S sem c kx) c kx:=fun w ⟨t,hd,h⟩=>⟨t,fun w hS=>hs _ _ _ (hd w hS),h⟩
theorem zTi {sem:Sem Value} {c:α→β→Value} {kx:α→β→K} (hs:∀ v w w',sem.run P w = .ok v w'→Eff P σ o w (.value v) w'):WS P S σ o (zDw P S sem c kx) (fun u=>u) (fun u=>jT c kx u):=fun w ⟨t,u,hd,h⟩=>⟨c t u,fun w hS=>hs _ _ _ (hd w hS),t,u,rfl,h⟩
theorem WR.is {w1:World} {v:α→Value} {k':α→K} (h:WR P σ o k v k'):∀ w,Is w1 w→k w→∃ x,(∀ w,Is w1 w→Eff P σ o w (.value (v x)) w)∧k' x w:=fun w hw hk=>by
 have:=hw.out; subst this
 obtain ⟨x,h1,h2⟩:=h _ hk
 exact ⟨x,fun w' hw'=>by have:=hw'.out; subst this; exact h1,h2⟩
theorem zTj {cs:Array Value} {v:Value} (ho:o.op = .box T x) (hx:ev σ x = some v) (hc:v.cells = cs):WE P σ o (New T cs ka) (fun a=>.pointer (some a)) ka:=fun w ⟨a,w',ha,hw,h⟩=>⟨a,w',zY3 ho hx hc ha hw,h⟩
theorem zOh {zv:Value} {cs:Array Value} [cz:ZT P T zv] (ho:o.op = .alloc T) (hc:zv.cells = cs):WE P σ o (New T cs ka) (fun a=>.pointer (some a)) ka:=fun w ⟨a,w',ha,hw,h⟩=>⟨a,w',zVe ho cz.h hc ha hw,h⟩
def zTk (len esz:Nat) (zv:Value):Array Value:=(Array.range (len * esz)).map (fun i=>(if len * esz = 0 then #[] else zv.cells)[i % (if len * esz = 0 then #[] else zv.cells).size]!)
theorem zOi {E esz len:Nat} {zv:Value} {ps:Array (Nat×Operand)} {vs:List (Nat×Value)} {cs:Array Value} [cs':SLT P T E esz] [cz:ZT P E zv] (ho:o.op = .buildSlice T len ps) (hl:Nat.ble (len * esz) 16777216 = true) (hv:partsOf σ ps.toList = some vs) (hf:zIX vs = true)
  (hc:Instr.fill (fun i=>some (i * esz,esz)) (zTk len esz zv) vs = some cs):WE P σ o (New E cs ka) (fun a=>Sl.val ⟨some a,len,len⟩) ka :=
 fun w ⟨a,w',ha,hw,h⟩=>⟨a,w',zHK ho cs'.h cz.h (Nat.le_of_ble_eq_true hl) hv rfl hc ha hw,h⟩
theorem zJE {E esz len:Nat} {zv:Value} {z:Array Value} {ps:Array (Nat×Operand)} {vs:List (Nat×Value)} [cs':SLT P T E esz] [cz:ZT P E zv] (ho:o.op = .buildSlice T len ps) (hl:Nat.ble (len * esz) 16777216 = true) (hv:partsOf σ ps.toList = some vs)
  (hz:zTk len esz zv = z):WE P σ o (Bld z (fun i=>some (i * esz,esz)) vs fun c=>New E c ka) (fun a=>Sl.val ⟨some a,len,len⟩) ka :=
 fun w ⟨c,hb,a,w',ha,hw,h⟩=>⟨a,w',zHK ho cs'.h cz.h (Nat.le_of_ble_eq_true hl) hv hz hb ha hw,h⟩
theorem zOj {sem:Sem Value} (hs:∀ v w w',sem.run P w = .ok v w'→Eff P σ o w (.value v) w'):WE P σ o (Do P sem c kx) c kx:=fun w ⟨t,w',hd,h⟩=>⟨t,w',hs _ _ _ hd,h⟩
theorem zXK {a:Addr} {v:Value} [cl:SZ P T 1] (ho:o.op = .store T x y) (hx:ev σ x = some (.pointer (some a))) (hy:ev σ y = some v):WK P σ o (St a v k) k:=fun w ⟨w',hw,hc,hf,hv,h⟩=>⟨w',zVd ho hx hy cl.h hw hc hf hv,h⟩
theorem zTl {n:Nat} {a:Addr} {cs:Array Value} [cl:SZ P T n] (ho:o.op = .store T x y) (hx:ev σ x = some (.pointer (some a))) (hy:ev σ y = some (.agg cs)):WK P σ o (StN a n cs k) k:=fun w ⟨w',hw,hn,hc,hv,h⟩=>⟨w',zTQ ho hx hy cl.h hw hn hc hv,h⟩
theorem zXL {sem:Sem Unit} (hs:∀ u w w',sem.run P w = .ok u w'→Eff P σ o w .skip w'):WK P σ o (DoU P sem k) k:=fun w ⟨u,w',hd,h⟩=>⟨w',hs _ _ _ hd,h⟩
theorem zRP {f:FuncId} {xs:Array Operand} {ts:Array TypeId} {vs:List Value} {args:Array Value} {kk:Value→K} [cb:CB P f] (ho:o.op = .call { callee:=.value x,args:=xs,argTypes:=ts }) (hx:ev σ x = some (.func (.func f) #[] #[])) (hv:evs σ xs.toList = some vs) (ha:vs.toArray = args) :
  WC P σ o (zX P f args kk) kk:=fun w h=>⟨f,args,w,ha ▸ zXi ho hx hv cb.h,h⟩
theorem zOk {f:FuncId} {first cap:Array Value} {xs:Array Operand} {ts:Array TypeId} {vs:List Value} {args:Array Value} {kk:Value→K} [cb:CB P f] (ho:o.op = .call { callee:=.value x,args:=xs,argTypes:=ts }) (hx:ev σ x = some (.func (.func f) first cap)) (hv:evs σ xs.toList = some vs)
  (ha:first++vs.toArray++cap = args):WC P σ o (zX P f args kk) kk:=fun w h=>⟨f,args,w,ha ▸ zRH ho hx hv cb.h,h⟩
theorem zXM {fv:Value} {xs:Array Operand} {ts:Array TypeId} {vs:List Value} {kk:Value→K} (ho:o.op = .call { callee:=.value x,args:=xs,argTypes:=ts }) (hx:ev σ x = some fv) (hv:evs σ xs.toList = some vs):WC P σ o (zAk P fv vs kk) kk :=
 fun w ⟨g,fs,cs,hg,hcb,h⟩=>⟨g,_,w,zRH ho (hx.trans (congrArg some hg)) hv hcb,h⟩
theorem zY8 {fv:Value} {xs:Array Operand} {ts:Array TypeId} {vs:List Value} {kk:Value→K} (ho:o.op = .call { callee:=.value x,args:=xs,argTypes:=ts }) (hx:ev σ x = some fv) (hv:evs σ xs.toList = some vs):WY P σ o (j6 P fv vs kk) kk :=
 fun w ⟨l,hg,h⟩=>⟨l,_,zVl ho (hx.trans (congrArg some hg)) hv,h⟩
theorem zTm {P : Program} {f : Nat} {fn : Func} {e : Array Value → Sem Value} (hf : P.funcs[f]? = some fn) (hn : (fn.name == "runtime.NumGoroutine") = false) (hb : fn.body.isNone = true) (h1 : Extern.findNext fn = none) (h2 : Extern.find fn = some e) : EXT P f e := ⟨fun args w v w' h => by rw [run_callFunc_extern hf hn hb h1 h2, h]; rfl⟩
theorem zXj {f:FuncId} {e:Array Value→Sem Value} {xs:Array Operand} {ts:Array TypeId} {vs:List Value} [c:EXT P f e] (ho:o.op = .call { callee:=.value x,args:=xs,argTypes:=ts }) (hx:ev σ x = some (.func (.func f) #[] #[])) (hv:evs σ xs.toList = some vs):∀ v w w',(e vs.toArray).run P w = .ok v w'→Eff P σ o w (.value v) w':=fun v w w' h a _ hs=>by
 have h1:xs.map a.eval = vs.toArray:=by apply Array.ext'; simpa using zFQ hs hv
 simp [execOp,ho,resolve,hs.ev hx,h1,Deferred.ofValue,invoke,c.h _ _ _ _ h]
theorem jM {ok:Bool} {vx vy:Value} (ho:o.op = .lookup T x y ok) (hx:ev σ x = some vx) (hy:ev σ y = some vy):∀ v w w',(Instr.lookup T vx vy ok).run P w = .ok v w'→Eff P σ o w (.value v) w':=fun _ _ _ h=>zTS ho hx hy h
theorem zCT {vx:Value} (ho:o.op = .convert T U x) (hx:ev σ x = some vx):∀ v w w',(convert T U vx).run P w = .ok v w'→Eff P σ o w (.value v) w':=fun _ _ _ h=>zSO ho hx h
theorem zNF {vx:Value} (ho:o.op = .makeInterface T x) (hx:ev σ x = some vx):∀ v w w',(Instr.makeInterface T vx).run P w = .ok v w'→Eff P σ o w (.value v) w':=fun _ _ _ h=>zJW ho hx h
theorem zNG {t:TypeId} {ts:Array TypeId} {vx:Value} (ho:o.op = .call { callee:=.builtin .len,args:=#[x],argTypes:=ts }) (ht:o.type = t) (hx:ev σ x = some vx):∀ v w w',(Builtin.len_ ts t #[vx]).run P w = .ok v w'→Eff P σ o w (.value v) w':=fun _ _ _ h=>zY5 ho ht hx h
theorem zTn {t:TypeId} {ts:Array TypeId} {vx:Value} (ho:o.op = .call { callee:=.builtin .cap,args:=#[x],argTypes:=ts }) (ht:o.type = t) (hx:ev σ x = some vx):∀ v w w',(Builtin.cap_ ts t #[vx]).run P w = .ok v w'→Eff P σ o w (.value v) w':=fun _ _ _ h=>zY6 ho ht hx h
theorem zOl {t:TypeId} {ts:Array TypeId} {vx:Value} (ho:o.op = .call { callee:=.builtin .clear,args:=#[x],argTypes:=ts }) (ht:o.type = t) (hx:ev σ x = some vx):∀ v w w',(Builtin.clear_ ts t #[vx]).run P w = .ok v w'→Eff P σ o w (.value v) w':=fun _ _ _ h=>zVi ho ht hx h
theorem zL9 {t:TypeId} {ts:Array TypeId} {vx vy:Value} (ho:o.op = .call { callee:=.builtin .append,args:=#[x,y],argTypes:=ts }) (ht:o.type = t) (hx:ev σ x = some vx) (hy:ev σ y = some vy):∀ v w w',(Builtin.append_ ts t #[vx,vy]).run P w = .ok v w'→Eff P σ o w (.value v) w':=fun _ _ _ h=>zTT ho ht hx hy h
theorem zRQ {t:TypeId} {ts:Array TypeId} {vx vy:Value} (ho:o.op = .call { callee:=.builtin .copy,args:=#[x,y],argTypes:=ts }) (ht:o.type = t) (hx:ev σ x = some vx) (hy:ev σ y = some vy):∀ v w w',(Builtin.copy_ ts t #[vx,vy]).run P w = .ok v w'→Eff P σ o w (.value v) w':=fun _ _ _ h=>zXh ho ht hx hy h
theorem zMA {t:TypeId} {ts:Array TypeId} {vx vy:Value} (ho:o.op = .call { callee:=.builtin .delete,args:=#[x,y],argTypes:=ts }) (ht:o.type = t) (hx:ev σ x = some vx) (hy:ev σ y = some vy):∀ v w w',(Builtin.delete_ ts t #[vx,vy]).run P w = .ok v w'→Eff P σ o w (.value v) w':=fun _ _ _ h=>zTU ho ht hx hy h
theorem zKS (ho:o.op = .makeMap T none):∀ v w w',(Instr.makeMap T none).run P w = .ok v w'→Eff P σ o w (.value v) w':=fun _ _ _ h=>zSP ho h
theorem zHP {vx vy:Value} (ho:o.op = .makeSlice T x y) (hx:ev σ x = some vx) (hy:ev σ y = some vy):∀ v w w',(Instr.makeSlice T vx vy).run P w = .ok v w'→Eff P σ o w (.value v) w':=fun _ _ _ h=>zOY ho hx hy h
theorem zOm {vx:Value} (ho:o.op = .range T x) (hx:ev σ x = some vx):∀ v w w',(Instr.range T vx).run P w = .ok v w'→Eff P σ o w (.value v) w':=fun _ _ _ h=>zVg ho hx h
theorem zRR {t:TypeId} {s:Bool} {vx:Value} (ho:o.op = .next x s) (ht:o.type = t) (hx:ev σ x = some vx):∀ v w w',(Instr.next vx s t).run P w = .ok v w'→Eff P σ o w (.value v) w':=fun _ _ _ h=>zXg ho ht hx h
theorem zOn {vx:Value} (ho:o.op = .entry x) (hx:ev σ x = some vx):∀ v w w',(Instr.entry vx).run P w = .ok v w'→Eff P σ o w (.value v) w':=fun _ _ _ h=>zVh ho hx h
theorem zOo {op:BinOp} {vx vy:Value} (ho:o.op = .binOp op T x y U) (hx:ev σ x = some vx) (hy:ev σ y = some vy):∀ v w w',(do eqGuard op T x y vx vy; binOp op T vx vy:Sem Value).run P w = .ok v w'→Eff P σ o w (.value v) w':=fun _ _ _ h=>zVf ho hx hy h
theorem zMB {ps:Array (Nat×Operand)} {vs:List (Nat×Value)} (ho:o.op = .build T ps) (hv:partsOf σ ps.toList = some vs):∀ v w w',(Instr.build T vs.toArray).run P w = .ok v w'→Eff P σ o w (.value v) w':=fun _ _ _ h=>zTR ho hv h
theorem zHQ {vx vy vz:Value} (ho:o.op = .mapUpdate T x y z) (hx:ev σ x = some vx) (hy:ev σ y = some vy) (hz:ev σ z = some vz):∀ u w w',(Instr.mapUpdate T vx vy vz).run P w = .ok u w'→Eff P σ o w .skip w':=fun _ _ _ h=>zOX ho hx hy hz h
end
variable {α:Type} {k:K} {vx:α→Value} {k':α→K}
theorem zJw (h:WP P σ o k vx k':=by
  first
  | exact zOf (by first | exact zWv rfl rfl rfl | exact zWw rfl rfl rfl | exact zKR rfl rfl | exact zWx rfl rfl rfl | exact zW0 rfl rfl rfl | exact zYx rfl rfl rfl | exact zW1 rfl rfl rfl | exact zW4 rfl rfl | exact zW5 rfl rfl | exact zW6 _ rfl rfl rfl | exact zW7 _ rfl rfl rfl)
  | exact zTZ rfl rfl rfl | exact zTa rfl rfl | exact zTb rfl rfl (by first | exact rfl | exact ⟨_,rfl⟩) (by first | exact rfl | exact ⟨_,rfl⟩) (by first | exact rfl | exact ⟨_,rfl⟩) rfl | exact zRN rfl rfl rfl | exact zRM rfl rfl rfl
  | exact zRL (fun h0=>by first | exact zW2 rfl rfl rfl h0 | exact zW3 rfl rfl rfl h0 | exact zWy rfl rfl rfl h0 | exact zWz rfl rfl rfl h0)
  | exact zRO rfl rfl (by first | exact rfl | exact ⟨_,rfl⟩) (by first | exact rfl | exact ⟨_,rfl⟩) | exact zTc rfl rfl rfl | exact zTf rfl rfl rfl
  | exact zTd (by first | exact zOo rfl rfl rfl | exact zMB rfl rfl) | exact zTe rfl rfl):WP P σ o k vx k':=h
theorem zF0 (h:WR P σ o k vx k':=by
  first
  | exact zXI rfl rfl | exact zTg rfl rfl
  | exact zGb (by first | exact jM rfl rfl rfl | exact zCT rfl rfl | exact zNG rfl rfl rfl | exact zNF rfl rfl)
  | exact zIY (jM rfl rfl rfl)):WR P σ o k vx k':=h
theorem zVn {S:World→Prop} (h:WS P S σ o k vx k':=by
  first
  | exact zXJ rfl rfl | exact zTh rfl rfl
  | exact zOg (by first | exact jM rfl rfl rfl | exact zCT rfl rfl | exact zNG rfl rfl rfl | exact zNF rfl rfl)
  | exact zTi (jM rfl rfl rfl)):WS P S σ o k vx k':=h
theorem zF1 (h:WE P σ o k vx k':=by
  first
  | exact zTj rfl rfl rfl | exact zOh rfl rfl | exact zOi rfl rfl rfl rfl (by kernel_rfl) | exact zJE rfl rfl rfl (by kernel_rfl)
  | exact zOj (by first | exact zL9 rfl rfl rfl rfl | exact zCT rfl rfl | exact zRR rfl rfl rfl | exact zOm rfl rfl | exact zOn rfl rfl | exact zKS rfl | exact zHP rfl rfl rfl | exact zRQ rfl rfl rfl rfl | exact zMA rfl rfl rfl rfl | exact zTn rfl rfl rfl | exact zOl rfl rfl rfl)):WE P σ o k vx k':=h
theorem zNH {k k':K} (h:WK P σ o k k':=by
  first
  | exact zXK rfl rfl rfl | exact zTl rfl rfl rfl | exact zXL (zHQ rfl rfl rfl rfl)):WK P σ o k k':=h
theorem zHR {k:K} {kk:Value→K} (h:WC P σ o k kk:=by
  first
  | exact zRP rfl rfl rfl rfl | exact zOk rfl rfl rfl rfl | exact zXM rfl rfl rfl):WC P σ o k kk:=h
end
end
section
open Go
def G (dl:List Deferred) (n:Nat) (σ:List (Nat×Value)) (k:K) (X:Act→World→Prop):Prop:=∀ a w,jy dl a n σ→k w→X a w
abbrev fe:Option Nat→Fence
 | none=>Fence.wide
 | some l=>Fence.wide.inRound l
def Cx (r:Option Nat) (P:Program) (c:Code) (Q:Exit→Act→World→Prop):Act→World→Prop:=fun a w=>c.wpIn (fe r) 0 P Q a w
def Tx (r:Option Nat) (P:Program) (ops:Array Oper) (Q:Exit→Act→World→Prop) (l:List Oper):Act→World→Prop:=fun a w=>wpListIn (fe r) 0 P ops Q l a w
def Ex (Q:Exit→Act→World→Prop) (e:Exit):Act→World→Prop:=fun a w=>Q e a w
def zAo:Op→Bool
 | .defer _=>true
 | _=>false
theorem zHS {o:Oper} (h:zAo o.op = false):∀ c,o.op ≠ .defer c:=fun c hc=>by rw [hc] at h; cases h
theorem zF2:∀ r,Free (fe r)
 | none=>zFz
 | some l=>zFz.round l
theorem zTo:∀ r,(fe r).alive = false
 | none=>rfl
 | some _=>rfl
theorem zTp:∀ r,(fe r).depth = none
 | none=>rfl
 | some _=>rfl
section
variable {P:Program} {dl:List Deferred} {n:Nat} {σ τ:List (Nat×Value)} {k:K} {X:Act→World→Prop} {r:Option Nat} {ops:Array Oper} {Q:Exit→Act→World→Prop} {l:List Oper} {o:Oper} {a:Act} {w w':World} {v:Value}
theorem zB9 {K1:Act→World→Prop} (hs:jy dl a n σ) (nd:zAo o.op = false) (hp:Eff P σ o w (.value v) w') (h:K1 (a.put o.dst v) w'):o.wpIn (fe r) 0 P a w K1 Q:=by
 refine ⟨fun f _=>(zF2 r).fn f,?_⟩
 rw [Oper.semAt_eq _ _ _ (zHS nd)]
 have h1:(execOp a.eval o).run P w = .ok (.value v) w':=hp { a with defers:=[] } n hs.1
 rw [h1,Oper.uponIn_value]; exact h
theorem zNI {K1:Act→World→Prop} (hs:jy dl a n σ) (nd:zAo o.op = false) (hp:Eff P σ o w .skip w') (h:K1 (a.put o.dst undef) w'):o.wpIn (fe r) 0 P a w K1 Q:=by
 refine ⟨fun f _=>(zF2 r).fn f,?_⟩
 rw [Oper.semAt_eq _ _ _ (zHS nd)]
 have h1:(execOp a.eval o).run P w = .ok .skip w':=hp { a with defers:=[] } n hs.1
 rw [h1,Oper.uponIn_skip]; exact h
theorem zHT {K1:Act→World→Prop} {f:FuncId} {args:Array Value} {kk:Value→K} (hs:jy dl a n σ) (nd:zAo o.op = false) (hp:Eff P σ o w (.enter f args) w') (hc:Calls P f args w' (Ret kk))
  (h:∀ v w,kk v w→K1 (a.put o.dst v) w):o.wpIn (fe r) 0 P a w K1 Q:=by
 refine ⟨fun f _=>(zF2 r).fn f,?_⟩
 rw [Oper.semAt_eq _ _ _ (zHS nd)]
 have h1:(execOp a.eval o).run P w = .ok (.enter f args) w':=hp { a with defers:=[] } n hs.1
 rw [h1,Oper.uponIn_enter]
 refine ⟨(fun h=>by rw [zTp r] at h; cases h),zEg (zF2 r) (zTo r) (hc.mono fun e w'' he=>?_)⟩
 cases e with
 | returned v=>exact h v _ he
 | panicked c=>exact he.elim
 | outgrown=>exact he.elim
theorem zOp {K1:Act→World→Prop} {y:Nat} {args:Array Value} {kk:Value→K} (hs:jy dl a n σ) (nd:zAo o.op = false) (hp:∀ (x:Next),(Instr.yield y args).run P w = .ok x w→Eff P σ o w x w) (hc:YieldAt Fence.wide 0 P y args w (Ret kk))
  (h:∀ v w,kk v w→K1 (a.put o.dst v) w):o.wpIn Fence.wide 0 P a w K1 Q:=by
 obtain ⟨fn,tmps,as1,bd,hy,hr⟩:=hc
 refine ⟨fun f _=>trivial,?_⟩
 rw [Oper.semAt_eq _ _ _ (zHS nd)]
 have h1:(execOp a.eval o).run P w = .ok (.round y fn tmps as1 bd) w:=hp _ hy { a with defers:=[] } n hs.1
 rw [h1,Oper.uponIn_round]
 refine ⟨(fun h=>by cases h),zM9 (hr.mono fun e w'' he=>?_)⟩
 cases e with
 | returned v=>exact h v _ he
 | panicked c=>exact he.elim
 | outgrown=>exact he.elim
theorem zKT (hs:jy dl a n σ) (hw:wants ops σ o = some true) (h:o.wpIn (fe r) 0 P a w (wpListIn (fe r) 0 P ops Q l) Q):wpListIn (fe r) 0 P ops Q (o::l) a w:=by
 unfold wpListIn
 rw [if_pos (uq hs.1 hw)]; exact h
theorem zJX {d:Nat} (h:G dl n ((d,v)::σ) k (Tx r P ops Q l)) (hd:o.dst = some d:=by rfl) (hw:wants ops σ o = some true:=by rfl) (hp:Pure P σ o v:=by exact zNE) (hn:Nat.ble (d + 1) n = true:=by rfl) (nd:zAo o.op = false:=by rfl) :
  G dl n σ k (Tx r P ops Q (o::l)):=fun a w hs hk=>zKT hs hw (zB9 hs nd (hp.eff w) (by rw [hd]; exact h _ w (hs.put (Nat.le_of_ble_eq_true hn) v) hk))
theorem zY9 {d:Nat} (h:G dl n ((d,undef)::σ) k (Tx r P ops Q l)) (hd:o.dst = some d:=by rfl) (hw:wants ops σ o = some false:=by rfl) (hn:Nat.ble (d + 1) n = true:=by rfl):G dl n σ k (Tx r P ops Q (o::l)):=fun a w hs hk=>by
 show wpListIn (fe r) 0 P ops Q (o::l) a w
 unfold wpListIn
 rw [if_neg (by rw [uq hs.1 hw]; simp),hd]
 exact ⟨fun f _=>(zF2 r).fn f,h _ w (hs.put (Nat.le_of_ble_eq_true hn) _) hk⟩
theorem zXk (h:G dl n σ k (Tx r P ops Q l)) (hd:o.dst = none:=by rfl) (hw:wants ops σ o = some false:=by rfl):G dl n σ k (Tx r P ops Q (o::l)):=fun a w hs hk=>by
 show wpListIn (fe r) 0 P ops Q (o::l) a w
 unfold wpListIn
 rw [if_neg (by rw [uq hs.1 hw]; simp),hd]
 exact ⟨fun f _=>(zF2 r).fn f,h _ w hs hk⟩
section
variable {α:Type} {vx:α→Value} {k':α→K}
theorem WP.wr {σ:List (Nat×Value)} (h:WP P σ o k vx k'):WR P σ o k vx k':=fun w hk=>by obtain ⟨x,hp,h⟩:=h w hk; exact ⟨x,hp.eff w,h⟩
theorem WR.we {σ:List (Nat×Value)} (h:WR P σ o k vx k'):WE P σ o k vx k':=fun w hk=>by obtain ⟨x,hp,h⟩:=h w hk; exact ⟨x,w,hp,h⟩
theorem zTq {d:Nat} (he:WE P σ o k vx k') (h:∀ x,G dl n ((d,vx x)::σ) (k' x) (Tx r P ops Q l)) (hd:o.dst = some d) (hw:wants ops σ o = some true) (hn:Nat.ble (d + 1) n = true) (nd:zAo o.op = false):G dl n σ k (Tx r P ops Q (o::l)):=fun a w hs hk=>by
 obtain ⟨x,w',hp,h'⟩:=he w hk
 exact zKT hs hw (zB9 hs nd hp (by rw [hd]; exact h x _ w' (hs.put (Nat.le_of_ble_eq_true hn) _) h'))
theorem zFT {d:Nat} (h:∀ x,G dl n ((d,vx x)::σ) (k' x) (Tx r P ops Q l)) (hd:o.dst = some d:=by rfl) (hw:wants ops σ o = some true:=by rfl) (hp:WP P σ o k vx k':=by exact zJw) (hn:Nat.ble (d + 1) n = true:=by rfl) (nd:zAo o.op = false:=by rfl):G dl n σ k (Tx r P ops Q (o::l)):=zTq hp.wr.we h hd hw hn nd
theorem zKU {d:Nat} (h:∀ x,G dl n ((d,vx x)::σ) (k' x) (Tx r P ops Q l)) (hd:o.dst = some d:=by rfl) (hw:wants ops σ o = some true:=by rfl) (hp:WR P σ o k vx k':=by exact zF0) (hn:Nat.ble (d + 1) n = true:=by rfl) (nd:zAo o.op = false:=by rfl):G dl n σ k (Tx r P ops Q (o::l)):=zTq hp.we h hd hw hn nd
theorem zMC {d:Nat} (h:∀ x,G dl n ((d,vx x)::σ) (k' x) (Tx r P ops Q l)) (hd:o.dst = some d:=by rfl) (hw:wants ops σ o = some true:=by rfl) (hp:WE P σ o k vx k':=by exact zF1) (hn:Nat.ble (d + 1) n = true:=by rfl) (nd:zAo o.op = false:=by rfl):G dl n σ k (Tx r P ops Q (o::l)):=zTq hp h hd hw hn nd
theorem zXl (h:∀ x,G dl n σ (k' x) (Tx r P ops Q l)) (hd:o.dst = none:=by rfl) (hw:wants ops σ o = some true:=by rfl) (hp:WE P σ o k vx k':=by exact zF1) (nd:zAo o.op = false:=by rfl):G dl n σ k (Tx r P ops Q (o::l)):=fun a w hs hk=>by
 obtain ⟨x,w',hp,h'⟩:=hp w hk
 exact zKT hs hw (zB9 hs nd hp (by rw [hd]; exact h x _ w' hs h'))
end
theorem zXN {k':K} (h:G dl n σ k' (Tx r P ops Q l)) (hd:o.dst = none:=by rfl) (hw:wants ops σ o = some true:=by rfl) (hp:WK P σ o k k':=by exact zNH) (nd:zAo o.op = false:=by rfl):G dl n σ k (Tx r P ops Q (o::l)):=fun a w hs hk=>by
 obtain ⟨w',hp,h'⟩:=hp w hk
 exact zKT hs hw (zNI hs nd hp (by rw [hd]; exact h _ w' hs h'))
theorem zZA {d:Nat} {kk:Value→K} (h:∀ u,G dl n ((d,u)::σ) (kk u) (Tx r P ops Q l)) (hd:o.dst = some d:=by rfl) (hw:wants ops σ o = some true:=by rfl) (hp:WC P σ o k kk:=by exact zHR) (hn:Nat.ble (d + 1) n = true:=by rfl) (nd:zAo o.op = false:=by rfl):G dl n σ k (Tx r P ops Q (o::l)):=fun a w hs hk=>by
 obtain ⟨f,args,w',hp,hc⟩:=hp w hk
 exact zKT hs hw (zHT hs nd hp hc fun v w h'=>by rw [hd]; exact h v _ w (hs.put (Nat.le_of_ble_eq_true hn) _) h')
theorem zXm {kk:Value→K} (h:∀ u,G dl n σ (kk u) (Tx r P ops Q l)) (hd:o.dst = none:=by rfl) (hw:wants ops σ o = some true:=by rfl) (hp:WC P σ o k kk:=by exact zHR) (nd:zAo o.op = false:=by rfl):G dl n σ k (Tx r P ops Q (o::l)):=fun a w hs hk=>by
 obtain ⟨f,args,w',hp,hc⟩:=hp w hk
 exact zKT hs hw (zHT hs nd hp hc fun v w h'=>by rw [hd]; exact h v _ w hs h')
theorem zZB {d:Nat} {kk:Value→K} (h:∀ u,G dl n ((d,u)::σ) (kk u) (Tx none P ops Q l)) (hd:o.dst = some d:=by rfl) (hw:wants ops σ o = some true:=by rfl) (hp:WY P σ o k kk:=by exact zY8 rfl rfl rfl) (hn:Nat.ble (d + 1) n = true:=by rfl) (nd:zAo o.op = false:=by rfl):G dl n σ k (Tx none P ops Q (o::l)):=fun a w hs hk=>by
 obtain ⟨y,args,hp,hc⟩:=hp w hk
 exact zKT (r:=none) hs hw (zOp hs nd hp hc fun v w h'=>by rw [hd]; exact h v _ w (hs.put (Nat.le_of_ble_eq_true hn) _) h')
theorem zXn (h:G dl n σ k (Ex Q .normal)):G dl n σ k (Tx r P ops Q []):=fun a w hs hk=>h a w hs hk
section
variable {α β γ δ ε:Type} {d:Nat} {u:Value}
theorem zVo {v0:Value} (h:G dl n ((d,v0)::σ) k X):G dl n ((d,u)::σ) (zAY v0 k u) X:=fun a w hs ⟨hu,hk⟩=>h a w (hu ▸ hs) hk
theorem zVp {c:α→Value} {k:α→K} (h:∀ x,G dl n ((d,c x)::σ) (k x) X):G dl n ((d,u)::σ) (qD c k u) X:=fun a w hs ⟨x,hu,hk⟩=>h x a w (hu ▸ hs) hk
theorem zQP {c:α→β→Value} {k:α→β→K} (h:∀ x y,G dl n ((d,c x y)::σ) (k x y) X):G dl n ((d,u)::σ) (jT c k u) X:=fun a w hs ⟨x,y,hu,hk⟩=>h x y a w (hu ▸ hs) hk
theorem zVq {c:α→β→γ→Value} {k:α→β→γ→K} (h:∀ x y z,G dl n ((d,c x y z)::σ) (k x y z) X):G dl n ((d,u)::σ) (zCN c k u) X:=fun a w hs ⟨x,y,z,hu,hk⟩=>h x y z a w (hu ▸ hs) hk
theorem zVr {c:α→β→γ→δ→Value} {k:α→β→γ→δ→K} (h:∀ x y z t,G dl n ((d,c x y z t)::σ) (k x y z t) X):G dl n ((d,u)::σ) (zDC c k u) X:=fun a w hs ⟨x,y,z,t,hu,hk⟩=>h x y z t a w (hu ▸ hs) hk
theorem zVs {c:α→β→γ→δ→ε→Value} {k:α→β→γ→δ→ε→K} (h:∀ x y z t s,G dl n ((d,c x y z t s)::σ) (k x y z t s) X):G dl n ((d,u)::σ) (zDc c k u) X:=fun a w hs ⟨x,y,z,t,s,hu,hk⟩=>h x y z t s a w (hu ▸ hs) hk
theorem zZC {v0:Value} (h:G dl n σ k X):G dl n σ (zAY v0 k u) X:=fun a w hs ⟨_,hk⟩=>h a w hs hk
theorem zZD {c:α→Value} {k:α→K} (h:∀ x,G dl n σ (k x) X):G dl n σ (qD c k u) X:=fun a w hs ⟨x,_,hk⟩=>h x a w hs hk
theorem zZE {c:α→β→Value} {k:α→β→K} (h:∀ x y,G dl n σ (k x y) X):G dl n σ (jT c k u) X:=fun a w hs ⟨x,y,_,hk⟩=>h x y a w hs hk
end
def gslot (ops:Array Oper) (σ:List (Nat×Value)) (o:Oper):Option Value:=match o.guard with
 | none=>none
 | some (j,_)=>match (ops[j]?).bind (·.dst) with
  | none=>none
  | some t=>look σ t
theorem zXo {b:Bool} {x y:K} (h1:b = true→G dl n σ x (Tx r P ops Q (o::l))) (h2:b = false→G dl n σ y (Tx r P ops Q (o::l))) (hg:gslot ops σ o = some (.bool b):=by rfl):G dl n σ (Ite b x y) (Tx r P ops Q (o::l)):=fun a w hs hk=>by
 cases b
 ·exact h2 rfl a w hs (hk.2 rfl)
 ·exact h1 rfl a w hs (hk.1 rfl)
theorem zJx (h:∀ a w,jy dl a n σ→k w→X a w):G dl n σ k X:=h
theorem zTr {p:Option Addr} {kp:Addr→K} (h:∀ a,p = some a→G dl n σ (kp a) X):G dl n σ (Nn p kp) X:=fun a w hs ⟨b,hb,hk⟩=>h b hb a w hs hk
theorem zTs {f:Value} {kf:FuncId→Array Value→Array Value→K} (h:∀ g fs cs,f = .func (.func g) fs cs→CB P g→G dl n σ (kf g fs cs) X):G dl n σ (Fv P f kf) X:=fun a w hs ⟨g,fs,cs,hf,hc,hk⟩=>h g fs cs hf ⟨hc⟩ a w hs hk
theorem zVt:G dl n σ Dead X:=fun _ _ _ hk=>hk.elim
def Gp (dl:List Deferred) (n:Nat) (X:Act→World→Prop) (τ:List (Nat×Value)) (k:K):Prop:=G dl n τ k X
theorem zZF (h:G dl n σ k X):Gp dl n X σ k:=h
theorem zHU (h:Sub σ τ:=by repeat (first | exact trivial | refine ⟨rfl,?_⟩)):Sub σ τ:=h
theorem zVu (h:Gp dl n X τ k:=by apply_assumption) (hs:Sub σ τ:=by exact zHU):G dl n σ k X:=fun a w hs' hk=>h a w (hs'.to hs) hk
theorem zNJ (h:G dl n σ k X):∀ a w,jy dl a n σ→k w→X a w:=h
def zFU (a b:Nat):Nat:=match Nat.beq a 1000000 with
 | true=>b
 | false=>a
def zBe:Code→Nat
 | .region id _ _=>id
 | .seq x y=>zFU (zBe x) (zBe y)
 | .cond _ x y=>zFU (zBe x) (zBe y)
 | .block _ c=>zBe c
 | .loop c=>zBe c
 | .scope c=>zBe c
 | .rangeFunc _ _ a _=>zBe a
 | _=>1000000
def zC1:Code→Nat
 | .region id _ _=>id
 | .seq x y=>zFU (zC1 y) (zC1 x)
 | .cond _ x y=>zFU (zC1 y) (zC1 x)
 | .block _ c=>zC1 c
 | .loop c=>zC1 c
 | .scope c=>zC1 c
 | .rangeFunc _ _ _ b=>zC1 b
 | _=>1000000
def zXp (x y:Code):Nat:=zFU (zBe y) (1000000 + zC1 x)
structure JH (id:Nat) (H:(List (Nat×Value)→((List (Nat×Value)→K→Prop)→Prop)→Prop)→Prop):Prop where
 h:∀ D,H D→∃ pre C,D pre C
structure LH (id:Nat) {α:Type} (S:α→List (Nat×Value)) (body:(α→K)→α→K):Prop
structure XH (id:Nat) {α:Type} (X:α→K):Prop
variable {x y c:Code} {id:Nat}
theorem zXq (h:G dl n σ k (Cx r P x (Exit.then (Cx r P y Q) Q))):G dl n σ k (Cx r P (.seq x y) Q):=fun a w hs hk=>wpIn_seq (h a w hs hk)
def Jp (dl:List Deferred) (n:Nat) (σ:List (Nat×Value)) (k:K) (r:Option Nat) (P:Program) (x y:Code) (Q:Exit→Act→World→Prop) (pre:List (Nat×Value)) (C:(List (Nat×Value)→K→Prop)→Prop):Prop :=
 Sub σ pre∧C (Gp dl n (Cx r P y Q))∧∀ Kc,C (Gp dl n Kc)→G dl n σ k (Cx r P x (Exit.then Kc Q))
theorem zaT {α:Sort _} {p:α→Prop} {x:α} (h:p x):∃ x,p x:=⟨x,h⟩
theorem zVv {H:(List (Nat×Value)→((List (Nat×Value)→K→Prop)→Prop)→Prop)→Prop} (h:H (Jp dl n σ k r P x y Q)) (hi:zXp x y = id:=by rfl) (hh:JH id H:=by first | assumption | (apply_assumption <;> assumption)):G dl n σ k (Cx r P (.seq x y) Q):=fun a w hs hk=>by
 obtain ⟨pre,C,_,h1,h2⟩:=hh.h _ h
 exact wpIn_seq (h2 _ h1 a w hs hk)
theorem zVw (h:G dl n σ k (Ex Q .normal)):G dl n σ k (Cx r P .skip Q):=fun a w hs hk=>wpIn_skip (h a w hs hk)
theorem zTt {i:Nat} (h:G dl n σ k (Ex Q .normal)):G dl n σ k (Cx r P (.label i) Q):=fun a w hs hk=>wpIn_label (h a w hs hk)
theorem zVx {i:Nat} (h:G dl n σ k (Ex Q (.exit i))):G dl n σ k (Cx r P (.exit i) Q):=fun a w hs hk=>wpIn_exit (h a w hs hk)
theorem zXr (h:G dl n σ k (Ex Q .ret)):G dl n σ k (Cx r P .ret Q):=fun a w hs hk=>wpIn_ret (h a w hs hk)
theorem zTu {i:Nat} (h:G dl n σ k (Cx r P c (Exit.inBlock i Q))):G dl n σ k (Cx r P (.block i c) Q):=fun a w hs hk=>wpIn_block (h a w hs hk)
theorem zVy {e:Operand} {b:Bool} {kx ky:K} (h1:G dl n σ kx (Cx r P x Q)) (h2:G dl n σ ky (Cx r P y Q)) (he:ev σ e = some (.bool b):=by rfl):G dl n σ (Ite b kx ky) (Cx r P (.cond e x y) Q):=fun a w hs hk=>
 wpIn_cond_split (hs.1.ev he) (fun hb=>h1 a w hs (hk.1 hb)) (fun hb=>h2 a w hs (hk.2 hb))
theorem zSQ {e:Operand} (h:G dl n σ k (Cx r P x Q)) (he:ev σ e = some (.bool true):=by rfl):G dl n σ k (Cx r P (.cond e x y) Q):=fun a w hs hk=>wpIn_cond_true (hs.1.ev he) (h a w hs hk)
theorem zSR {e:Operand} (h:G dl n σ k (Cx r P y Q)) (he:ev σ e = some (.bool false):=by rfl):G dl n σ k (Cx r P (.cond e x y) Q):=fun a w hs hk=>wpIn_cond_false (hs.1.ev he) (h a w hs hk)
theorem zXs {i:Nat} (h:G dl n σ k (Tx r P l.toArray Q l)):G dl n σ k (Cx r P (.region i l.toArray false) Q):=fun a w hs hk=>wpIn_region_lit (h a w hs hk)
def Lx (dl:List Deferred) (n:Nat) {α:Type} (S:α→List (Nat×Value)) (X:α→K):Act→World→Prop:=fun a w=>∃ x,jy dl a n (S x)∧X x w
theorem zVz {α:Type} {body:(α→K)→α→K} {x0:α} {S:α→List (Nat×Value)} (h:∀ X:α→K,XH id X→∀ x,G dl n (S x) (body X x) (Cx r P c (Exit.then (Lx dl n S X) Q))) (hi:zBe c = id:=by rfl) (hh:LH id S body:=by first | assumption | (apply_assumption <;> assumption)) (h0:Sub σ (S x0):=by exact zHU) :
  G dl n σ (yM body x0) (Cx r P (.loop c) Q):=fun a w hs ⟨I,μ,hI,hr⟩=>by
 refine zVk I μ (fun x a=>jy dl a n (S x)) x0 hI (hs.to h0) fun x a w hI hG=>?_
 refine wpIn_mono (h _ ⟨⟩ x a w hG (hr x w hI)) fun e a w hq=>?_
 cases e with
 | normal=>exact hq
 | _=>exact hq
theorem zXt {α:Type} {S:α→List (Nat×Value)} {X:α→K} {x:α} (hk:k = X x:=by rfl) (h0:Sub σ (S x):=by exact zHU):G dl n σ k (Lx dl n S X):=fun a w hs h=>⟨x,hs.to h0,hk ▸ h⟩
theorem zV0 {Kc:Act→World→Prop} (h:G dl n σ k Kc):G dl n σ k (Ex (Exit.then Kc Q) .normal):=h
theorem zSS {Kc:Act→World→Prop} {i:Nat} (h:G dl n σ k (Ex Q (.exit i))):G dl n σ k (Ex (Exit.then Kc Q) (.exit i)):=h
theorem zST {Kc:Act→World→Prop} (h:G dl n σ k (Ex Q .ret)):G dl n σ k (Ex (Exit.then Kc Q) .ret):=h
theorem zXu {i:Nat} (h:G dl n σ k (Ex Q .normal)):G dl n σ k (Ex (Exit.inBlock i Q) .normal):=h
theorem zTv {i:Nat} (h:G dl n σ k (Ex Q .ret)):G dl n σ k (Ex (Exit.inBlock i Q) .ret):=h
theorem zTw {i:Nat} (h:G dl n σ k (Ex Q .normal)):G dl n σ k (Ex (Exit.inBlock i Q) (.exit i)):=fun a w hs hk=>by
 show Exit.inBlock i Q (.exit i) a w
 simp only [Exit.inBlock,if_true]; exact h a w hs hk
theorem zTx {i j:Nat} (h:G dl n σ k (Ex Q (.exit j))) (hij:Nat.beq j i = false:=by rfl):G dl n σ k (Ex (Exit.inBlock i Q) (.exit j)):=fun a w hs hk=>by
 show Exit.inBlock i Q (.exit j) a w
 have:j ≠ i:=fun e=>by rw [e,Nat.beq_refl] at hij; cases hij
 simp only [Exit.inBlock,this,if_false]; exact h a w hs hk
def fin:List Value→Value
 | [v]=>v
 | l=>.tuple l.toArray
theorem zXv (l:List Value):fin l = if h:l.toArray.size = 1 then l.toArray[0] else .tuple l.toArray:=by
 cases l with
 | nil=>rfl
 | cons v l=>cases l <;> rfl
def Rx (P:Program) (kk:Value→K) (rs:List ResultVar) (vs:List Value):Act→World→Prop:=fun a w=>∃ us,(List.mapM (zFR a.tmps) rs).run P w = .ok us w∧kk (fin (vs++us)) w
theorem zTy {fn:Func} {kk:Value→K} (h:Rx P kk fn.results.toList [] a w):∃ v,(results fn a.tmps).run P w = .ok v w∧kk v w:=by
 obtain ⟨us,h1,h2⟩:=h
 refine ⟨fin us,?_,h2⟩
 rw [zQN,← Array.toArray_toList (xs:=fn.results),Array.mapM_eq_mapM_toList]
 simp only [Array.toArray_toList]
 simp only [Sem.run_bind,Sem.run_map,h1,Result.andThen,Sem.run_pure]
 rw [zXv]
theorem zXw {fn:Func} {kk:Value→K} {rs:List ResultVar} (h:G [] n σ k (Rx P kk rs [])) (hr:fn.results = rs.toArray:=by rfl):G [] n σ k (Ex (zBy P fn (Ret kk)) .ret):=fun a w hs hk=>by
 obtain ⟨v,h1,h2⟩:=zTy (fn:=fn) (by rw [hr]; exact h a w hs hk)
 show LeavesInM Fence.wide 0 P fn a.tmps (Ret kk) a.defers .returning w
 rw [hs.2]
 exact ⟨v,h1,h2⟩
theorem zXx {fn:Func} {kk:Value→K} (h:G dl n σ k (Ex (zBy P fn (Ret kk)) .ret)):G dl n σ k (Ex (zBy P fn (Ret kk)) .normal):=h
theorem zV1 {fn:Func} {kk:Value→K} {D:Nat} {rs:List ResultVar} (h:G (zEE D) n σ k (Rx P kk rs [])) (hr:fn.results = rs.toArray:=by rfl):G (zEE D) n σ (zAl D k) (Ex (zBy P fn (Ret kk)) .ret):=fun a w hs hk=>by
 obtain ⟨v,h1,h2⟩:=zTy (fn:=fn) (by rw [hr]; exact h a _ hs hk.2)
 show LeavesInM Fence.wide 0 P fn a.tmps (Ret kk) a.defers .returning w
 rw [hs.2]
 exact ⟨by simp,.inl ⟨D,_,rfl,run_takeDeferred hk.1,v,h1,h2⟩⟩
theorem zXy {kk:Value→K} {t:Nat} {rs:List ResultVar} {vs:List Value} (h:G dl n σ k (Rx P kk rs (vs++[v]))) (ht:look σ t = some v:=by rfl):G dl n σ k (Rx P kk (.tmp t::rs) vs):=fun a w hs hk=>by
 obtain ⟨us,h1,h2⟩:=h a w hs hk
 refine ⟨v::us,?_,by simpa using h2⟩
 rw [List.mapM_cons]
 have h3:(zFR a.tmps (.tmp t)).run P w = .ok v w:=zIU (a:={ a with defers:=[] }) hs.1 (r:=.tmp t) ht
 simp only [Sem.run_bind,h3,h1,Sem.run_pure,Result.andThen]
theorem zV2 {α:Type} {c:α→Value} {kx:α→K} {kk:Value→K} {t T:Nat} {b:Addr} {rs:List ResultVar} {vs:List Value} [cl:CT P T] (h:∀ x,G dl n σ (kx x) (Rx P kk rs (vs++[c x]))) (ht:look σ t = some (.pointer (some b)):=by rfl):G dl n σ (Ld b c kx) (Rx P kk (.cell t T::rs) vs):=fun a w hs ⟨x,hv,hk⟩=>by
 obtain ⟨us,h1,h2⟩:=h x a w hs hk
 refine ⟨c x::us,?_,by simpa using h2⟩
 rw [List.mapM_cons]
 have h3:(zFR a.tmps (.cell t T)).run P w = .ok (c x) w:=zIU (a:={ a with defers:=[] }) hs.1 (r:=.cell t T) ⟨_,ht,zOZ cl.h hv⟩
 simp only [Sem.run_bind,h3,h1,Sem.run_pure,Result.andThen]
theorem zTz {kx:Array Value→K} {kk:Value→K} {t T m:Nat} {b:Addr} {rs:List ResultVar} {vs:List Value} [cl:AT P T m] (h:∀ x,G dl n σ (kx x) (Rx P kk rs (vs++[.agg x]))) (ht:look σ t = some (.pointer (some b)):=by rfl):G dl n σ (LdN b m kx) (Rx P kk (.cell t T::rs) vs):=fun a w hs ⟨x,hn,hv,hk⟩=>by
 obtain ⟨us,h1,h2⟩:=h x a w hs hk
 refine ⟨.agg x::us,?_,by simpa using h2⟩
 rw [List.mapM_cons]
 have h3:(zFR a.tmps (.cell t T)).run P w = .ok (.agg x) w:=zIU (a:={ a with defers:=[] }) hs.1 (r:=.cell t T) ⟨_,ht,zM8 cl.h hn hv⟩
 simp only [Sem.run_bind,h3,h1,Sem.run_pure,Result.andThen]
def Fx (k:K):Act→World→Prop:=fun _ w=>k w
theorem zXz {kk:Value→K} {vs:List Value} (h:G dl n σ k (Fx (kk (fin vs)))):G dl n σ k (Rx P kk [] vs):=fun a w hs hk=>⟨[],by simp,by rw [List.append_nil]; exact h a w hs hk⟩
section
variable {α β γ δ ε:Type} {u:Value}
theorem zaU {v0:Value} {q:K} (hk:k = q:=by rfl) (hu:u = v0:=by rfl):G dl n σ k (Fx (zAY v0 q u)):=fun _ w _ h=>⟨hu,hk ▸ h⟩
theorem zaV {c:α→Value} {q:α→K} {x:α} (hk:k = q x:=by rfl) (hu:u = c x:=by rfl):G dl n σ k (Fx (qD c q u)):=fun _ w _ h=>⟨x,hu,hk ▸ h⟩
theorem zaW {c:α→β→Value} {q:α→β→K} {x:α} {y:β} (hk:k = q x y:=by rfl) (hu:u = c x y:=by rfl):G dl n σ k (Fx (jT c q u)):=fun _ w _ h=>⟨x,y,hu,hk ▸ h⟩
theorem zaX {c:α→β→γ→Value} {q:α→β→γ→K} {x:α} {y:β} {z:γ} (hk:k = q x y z:=by rfl) (hu:u = c x y z:=by rfl):G dl n σ k (Fx (zCN c q u)):=fun _ w _ h=>⟨x,y,z,hu,hk ▸ h⟩
theorem zaY {c:α→β→γ→δ→Value} {q:α→β→γ→δ→K} {x:α} {y:β} {z:γ} {t:δ} (hk:k = q x y z t:=by rfl) (hu:u = c x y z t:=by rfl):G dl n σ k (Fx (zDC c q u)):=fun _ w _ h=>⟨x,y,z,t,hu,hk ▸ h⟩
theorem zaZ {c:α→β→γ→δ→ε→Value} {q:α→β→γ→δ→ε→K} {x:α} {y:β} {z:γ} {t:δ} {s:ε} (hk:k = q x y z t s:=by rfl) (hu:u = c x y z t s:=by rfl):G dl n σ k (Fx (zDc c q u)):=fun _ w _ h=>⟨x,y,z,t,s,hu,hk ▸ h⟩
end
end
def zT0:Nat→List Value→List (Nat×Value)
 | _,[]=>[]
 | i,v::vs=>(i,v)::zT0 (i + 1) vs
theorem zV3 (l:List Value) (i:Nat):((l.zipIdx i).map fun p=>(p.2,p.1)) = zT0 i l:=by
 induction l generalizing i with
 | nil=>rfl
 | cons v l ih=>simp [zT0,List.zipIdx_cons,ih]
theorem zV4 {P:Program} {f:FuncId} {fn:Func} {c:Code} {args:List Value} {kk:Value→K} {k:K} (n:Nat) {w:World} (hk:k w) (hf:P.funcs[f]? = some fn) (h:G [] n (zT0 0 args) k (Cx none P c (zBy P fn (Ret kk)))) (hb:fn.body = some c:=by rfl) (hn:fn.ntmps = n:=by rfl) (hl:Nat.ble args.length n = true:=by rfl) :
  zX P f args.toArray kk w:=by
 subst hn
 refine zTW hf hb (Nat.le_of_ble_eq_true hl) fun a hs=>h a w (by rw [← zV3]; exact hs) hk
end
section
open Go
inductive Scr where
 | e
 | s (l:List Nat) (t:Scr)
 | a (l:List (Nat×Nat×Scr))
 | i (x y:Scr)
structure DH (id mode:Nat) (ds:List Nat) (t:Scr):Prop
def lst (n:Nat) (done:List Nat):Array Bool:=(Array.range n).map fun i=>done.contains i
theorem zRS (n i:Nat) (done:List Nat):(lst n done).setIfInBounds i true = lst n (i::done):=by
 apply Array.ext
 ·simp [lst]
 ·intro j h1 h2
  have h3:j < (lst n done).size:=by simpa using h1
  rw [Array.getElem_setIfInBounds h3]
  by_cases h:i = j
  ·subst h; simp [lst]
  ·have h':¬ j = i:=fun e=>h e.symm
   simp [lst,h,h']
theorem zNK (n:Nat):Array.replicate n false = lst n []:=by
 apply Array.ext
 ·simp [lst]
 ·intro j h1 h2; simp [lst]
def Dx (P:Program) (ops:Array Oper) (Q:Exit→Act→World→Prop) (S:World→Prop) (ds done:List Nat) (t:Scr):Act→World→Prop:=fun a w=>zCu Q→zCS P ops Q S ds (ops.size - done.length) (lst ops.size done) a w
def Al (S:World→Prop) (k:K):K:=fun w=>S w∧k w
def Ox (P:Program) (ops:Array Oper) (Q:Exit→Act→World→Prop) (S:World→Prop) (ds done:List Nat) (i tag:Nat) (t:Scr):Act→World→Prop:=fun a w=>zCu Q →
 opW P ops Q i (fun a' w'=>(alive ds (lst ops.size done) = true→i ∉ ds→S w→S w')∧zCS P ops Q S ds (ops.size - done.length - 1) (lst ops.size (i::done)) a' w') a w
def Ax (P:Program) (ops:Array Oper) (Q:Exit→Act→World→Prop) (S:World→Prop) (ds done:List Nat) (l:List (Nat×Nat×Scr)):Act→World→Prop:=fun a w=>∀ p ∈ l,Ox P ops Q S ds done p.1 p.2.1 p.2.2 a w
def takeC (ops:Array Oper) (ds done:List Nat) (i:Nat):Bool :=
 Region.noSelect ops && Region.free .any ops (lst ops.size done) i && (Region.ready .any ops (lst ops.size done)).contains i && !ds.contains i && Nat.ble (done.length + 1) ops.size
def zRT (ops:Array Oper) (l:Array Bool):Bool :=
 (List.range ops.size).all fun j=>match ops[j]? with
  | some oj=>!l.getD j false || oj.after.all fun e=>!Region.binds .any e || l.getD e.on false
  | none=>true
def zKV (ops:Array Oper) (i:Nat):Nat→Nat→List Nat→List Nat
 | 0,_,acc=>acc
 | n + 1,k,acc=>match (match ops[k]? with
   | some o=>o.after.any fun e=>Region.binds .any e && (e.on == i || acc.contains e.on)
   | none=>false) with
  | true=>zKV ops i n (k + 1) (k::acc)
  | false=>zKV ops i n (k + 1) acc
theorem zFV {ops:Array Oper} {i:Nat}:∀ (n k:Nat) (acc:List Nat),(∀ x ∈ acc,∃ m,reach ops i m x = true)→∀ d ∈ zKV ops i n k acc,∃ m,reach ops i m d = true
 | 0,_,_,h,d,hd=>h d hd
 | n + 1,k,acc,h,d,hd=>by
  unfold zKV at hd
  split at hd
  ·rename_i hb
   refine zFV n (k + 1) (k::acc) (fun x hx=>?_) d hd
   rcases List.mem_cons.1 hx with rfl | hx
   ·cases ho:ops[x]? with
    | none=>simp [ho] at hb
    | some o=>
     simp only [ho,Array.any_eq_true'] at hb
     obtain ⟨e,he,hb⟩:=hb
     simp only [Bool.and_eq_true,Bool.or_eq_true] at hb
     rcases hb.2 with h2 | h2
     ·refine ⟨1,?_⟩
      simp only [reach,ho,Array.any_eq_true']
      exact ⟨e,he,by simp [hb.1,h2]⟩
     ·obtain ⟨m,hm⟩:=h e.on (List.contains_iff_mem.1 h2)
      refine ⟨m + 1,?_⟩
      simp only [reach,ho,Array.any_eq_true']
      exact ⟨e,he,by simp [hb.1,hm]⟩
   ·exact h x hx
  ·exact zFV n (k + 1) acc h d hd
def zMD (ops:Array Oper) (ds done:List Nat) (i:Nat):Bool:=takeC ops ds done i && zRT ops (lst ops.size done) && ds.all fun d=>(zKV ops i (d - i) (i + 1) []).contains d
theorem zNL {ops:Array Oper} {l:Array Bool} (h:zRT ops l = true):Closed ops l:=fun j oj hj hl e he hb=>by
 have h1:=List.all_eq_true.1 h j (by simpa using (Array.getElem?_eq_some_iff.1 hj).1)
 simp only [hj,hl,Bool.not_true,Bool.false_or,Array.all_eq_true_iff_forall_mem] at h1
 have h2:=h1 e he
 simpa [hb] using h2
theorem zQQ {Q:Exit→Act→World→Prop} {K:Act→World→Prop} (h:zCu Q):zCu (Exit.then K Q):=fun c a w hc=>h c a w hc
theorem zSU {Q:Exit→Act→World→Prop} {i:Nat} (h:zCu Q):zCu (Exit.inBlock i Q):=fun c a w hc=>h c a w hc
theorem zOq {P:Program} {fn:Func} {kk:Value→K}:zCu (bodyPost P fn (Ret kk)):=fun _ _ _ h=>h.2
theorem zGr {Q:Exit→Act→World→Prop} (h:zCu Q:=by repeat (first | refine zQQ ?_ | refine zSU ?_ | exact zOa | exact zOq)):zCu Q:=h
section
variable {P:Program} {dl:List Deferred} {n:Nat} {σ τ:List (Nat×Value)} {k:K} {X:Act→World→Prop} {ops:Array Oper} {Q:Exit→Act→World→Prop} {l:List Oper} {o:Oper} {v:Value} {S:World→Prop} {ds done:List Nat} {i:Nat} {is:List Nat} {t:Scr}
theorem zEF {T:World→Prop} (hi:ops[i]? = some o) (hc:takeC ops ds done i = true) (hT:(∀ w,T w)∨(T = S∧zMD ops ds done i = true)) (hQ:zCu Q) {a:Act} {w:World} (hy:YieldsIf P ops T o v a) (hw:T w)
  (h:zCS P ops Q S ds (ops.size - (i::done).length) (lst ops.size (i::done)) (a.put o.dst v) w):zCS P ops Q S ds (ops.size - done.length) (lst ops.size done) a w:=by
 simp only [takeC,Bool.and_eq_true,Bool.not_eq_true'] at hc
 obtain ⟨⟨⟨⟨h1,h2⟩,h3⟩,h4⟩,h5⟩:=hc
 have h5:=Nat.le_of_ble_eq_true h5
 rw [show ops.size - done.length = (ops.size - (i::done).length) + 1 by simp only [List.length_cons]; omega]
 refine zNC hi (by intro hm; rw [List.contains_iff_mem.2 hm] at h4; cases h4) (Region.noSelect_spec h1) hQ _ _ a w (Region.free_spec hi h2) ?_ (by simpa using h3) hy hw (by rw [zRS]; exact h)
 rcases hT with h | ⟨h,hr⟩
 ·exact .inl h
 ·simp only [zMD,Bool.and_eq_true] at hr
  exact .inr ⟨h,zNL hr.1.2,fun d hd=>zFV _ _ _ (by simp) d (List.contains_iff_mem.1 (List.all_eq_true.1 hr.2 d hd))⟩
theorem zJY {d:Nat} (h:G dl n ((d,v)::σ) k (Dx P ops Q S ds (i::done) (.s is t))) (hi:ops[i]? = some o:=by rfl) (hd:o.dst = some d:=by rfl) (hw:wants ops σ o = some true:=by rfl) (hp:Pure P σ o v:=by exact zNE) (hc:takeC ops ds done i = true:=by as_aux_lemma=>kernel_rfl)
  (hn:Nat.ble (d + 1) n = true:=by rfl):G dl n σ k (Dx P ops Q S ds done (.s (i::is) t)):=fun a w hs hk hQ=>
 zEF (T:=fun _=>True) hi hc (.inl fun _=>trivial) hQ (.inl ⟨uq hs.1 hw,fun w _=>hp { a with defers:=[] } n hs.1 w⟩) trivial (by rw [hd]; exact h _ w (hs.put (Nat.le_of_ble_eq_true hn) v) hk hQ)
def less (ds:List Nat) (i:Nat):List Nat:=ds.filter fun j=>!Nat.beq j i
theorem zOr:∀ d ∈ less ds i,d ∈ ds:=fun d hd=>(List.mem_filter.1 hd).1
theorem zZG {d:Nat} (h:G dl n ((d,undef)::σ) k (Dx P ops Q S (less ds i) (i::done) (.s is t))) (hi:ops[i]? = some o:=by rfl) (hd:o.dst = some d:=by rfl) (hw:wants ops σ o = some false:=by rfl) (hc:takeC ops (less ds i) done i = true:=by as_aux_lemma=>kernel_rfl)
  (hn:Nat.ble (d + 1) n = true:=by rfl):G dl n σ k (Dx P ops Q S ds done (.s (i::is) t)):=fun a w hs hk hQ=>
 zIW zOr _ _ _ _ (zEF (T:=fun _=>True) (v:=undef) hi hc (.inl fun _=>trivial) hQ (.inr ⟨uq hs.1 hw,rfl⟩) trivial (by rw [hd]; exact h _ w (hs.put (Nat.le_of_ble_eq_true hn) undef) hk hQ))
theorem zX0 (h:G dl n σ k (Dx P ops Q S (less ds i) (i::done) (.s is t))) (hi:ops[i]? = some o:=by rfl) (hd:o.dst = none:=by rfl) (hw:wants ops σ o = some false:=by rfl) (hc:takeC ops (less ds i) done i = true:=by as_aux_lemma=>kernel_rfl):G dl n σ k (Dx P ops Q S ds done (.s (i::is) t)):=fun a w hs hk hQ=>
 zIW zOr _ _ _ _ (zEF (T:=fun _=>True) (v:=undef) hi hc (.inl fun _=>trivial) hQ (.inr ⟨uq hs.1 hw,rfl⟩) trivial (by rw [hd]; exact h _ w hs hk hQ))
theorem zX1 (h:G dl n σ k (Dx P ops Q S ds done t)):G dl n σ k (Dx P ops Q S ds done (.s [] t)):=h
section
variable {α:Type} {vx:α→Value} {k':α→K} {d:Nat}
theorem zFW (h:∀ x,G dl n ((d,vx x)::σ) (k' x) (Dx P ops Q S ds (i::done) (.s is t))) (hi:ops[i]? = some o:=by rfl) (hd:o.dst = some d:=by rfl) (hw:wants ops σ o = some true:=by rfl) (hp:WP P σ o k vx k':=by exact zJw) (hc:takeC ops ds done i = true:=by as_aux_lemma=>kernel_rfl)
  (hn:Nat.ble (d + 1) n = true:=by rfl):G dl n σ k (Dx P ops Q S ds done (.s (i::is) t)):=fun a w hs hk hQ=>by
 obtain ⟨x,hp,hk⟩:=hp w hk
 exact zEF (T:=fun _=>True) hi hc (.inl fun _=>trivial) hQ (.inl ⟨uq hs.1 hw,fun w _=>hp { a with defers:=[] } n hs.1 w⟩) trivial (by rw [hd]; exact h x _ w (hs.put (Nat.le_of_ble_eq_true hn) _) hk hQ)
theorem zDD (h:∀ x,G dl n ((d,vx x)::σ) (Al S (k' x)) (Dx P ops Q S ds (i::done) (.s is t))) (hi:ops[i]? = some o:=by rfl) (hd:o.dst = some d:=by rfl) (hw:wants ops σ o = some true:=by rfl) (hp:WP P σ o k vx k':=by exact zJw) (hc:takeC ops ds done i = true:=by as_aux_lemma=>kernel_rfl)
  (hn:Nat.ble (d + 1) n = true:=by rfl):G dl n σ (Al S k) (Dx P ops Q S ds done (.s (i::is) t)):=fun a w hs ⟨hS,hk⟩ hQ=>by
 obtain ⟨x,hp,hk⟩:=hp w hk
 exact zEF (T:=fun _=>True) hi hc (.inl fun _=>trivial) hQ (.inl ⟨uq hs.1 hw,fun w _=>hp { a with defers:=[] } n hs.1 w⟩) trivial (by rw [hd]; exact h x _ w (hs.put (Nat.le_of_ble_eq_true hn) _) ⟨hS,hk⟩ hQ)
theorem zXO (h:∀ x,G dl n ((d,vx x)::σ) (Al S (k' x)) (Dx P ops Q S ds (i::done) (.s is t))) (hi:ops[i]? = some o) (hd:o.dst = some d) (hw:wants ops σ o = some true) (hp:∀ w,S w→k w→∃ x,(∀ w,S w→Eff P σ o w (.value (vx x)) w)∧k' x w) (hc:zMD ops ds done i = true)
  (hn:Nat.ble (d + 1) n = true):G dl n σ (Al S k) (Dx P ops Q S ds done (.s (i::is) t)):=fun a w hs ⟨hS,hk⟩ hQ=>by
 obtain ⟨x,hp,hk⟩:=hp w hS hk
 have hc':takeC ops ds done i = true:=by simp only [zMD,Bool.and_eq_true] at hc; exact hc.1.1
 exact zEF (T:=S) hi hc' (.inr ⟨rfl,hc⟩) hQ (.inl ⟨uq hs.1 hw,fun w hw=>hp w hw { a with defers:=[] } n hs.1⟩) hS (by rw [hd]; exact h x _ w (hs.put (Nat.le_of_ble_eq_true hn) _) ⟨hS,hk⟩ hQ)
theorem zME {w1:World} (h:∀ x,G dl n ((d,vx x)::σ) (Al (Is w1) (k' x)) (Dx P ops Q (Is w1) ds (i::done) (.s is t))) (hi:ops[i]? = some o:=by rfl) (hd:o.dst = some d:=by rfl) (hw:wants ops σ o = some true:=by rfl) (hp:WR P σ o k vx k':=by exact zF0) (hc:zMD ops ds done i = true:=by as_aux_lemma=>kernel_rfl)
  (hn:Nat.ble (d + 1) n = true:=by rfl):G dl n σ (Al (Is w1) k) (Dx P ops Q (Is w1) ds done (.s (i::is) t)):=zXO h hi hd hw hp.is hc hn
theorem zSV (h:∀ x,G dl n ((d,vx x)::σ) (Al S (k' x)) (Dx P ops Q S ds (i::done) (.s is t))) (hi:ops[i]? = some o:=by rfl) (hd:o.dst = some d:=by rfl) (hw:wants ops σ o = some true:=by rfl) (hp:WS P S σ o k vx k':=by exact zVn) (hc:zMD ops ds done i = true:=by as_aux_lemma=>kernel_rfl)
  (hn:Nat.ble (d + 1) n = true:=by rfl):G dl n σ (Al S k) (Dx P ops Q S ds done (.s (i::is) t)):=zXO h hi hd hw (fun w _ hk=>hp w hk) hc hn
end
theorem zX2 (h:G dl n σ k (Ex Q .normal)) (hc:Region.ready .any ops (lst ops.size done) = []:=by as_aux_lemma=>kernel_rfl):G dl n σ k (Dx P ops Q S ds done .e):=fun a w hs hk _=>by
 show zCS P ops Q S ds (ops.size - done.length) (lst ops.size done) a w
 cases ops.size - done.length with
 | zero=>exact ⟨hc,h a w hs hk⟩
 | succ m=>exact ⟨fun _=>h a w hs hk,by rw [hc]; simp⟩
theorem zHV (h:G dl n σ k X):G dl n σ (Al S k) X:=fun a w hs hk=>h a w hs hk.2
theorem zX3 {b:Bool} {x y:K} {s t:Scr} (h1:b = true→G dl n σ x (Dx P ops Q S ds done s)) (h2:b = false→G dl n σ y (Dx P ops Q S ds done t)):G dl n σ (Ite b x y) (Dx P ops Q S ds done (.i s t)):=fun a w hs hk=>by
 cases b
 ·exact h2 rfl a w hs (hk.2 rfl)
 ·exact h1 rfl a w hs (hk.1 rfl)
theorem zV5 {b:Bool} {x y:K} {s t:Scr} (h1:b = true→G dl n σ (Al S x) (Dx P ops Q S ds done s)) (h2:b = false→G dl n σ (Al S y) (Dx P ops Q S ds done t)):G dl n σ (Al S (Ite b x y)) (Dx P ops Q S ds done (.i s t)):=fun a w hs ⟨hS,hk⟩=>by
 cases b
 ·exact h2 rfl a w hs ⟨hS,hk.2 rfl⟩
 ·exact h1 rfl a w hs ⟨hS,hk.1 rfl⟩
theorem zZH {p:Option Addr} {kp:Addr→K} (h:∀ a,p = some a→G dl n σ (Al S (kp a)) X):G dl n σ (Al S (Nn p kp)) X:=fun a w hs ⟨hS,b,hb,hk⟩=>h b hb a w hs ⟨hS,hk⟩
theorem zZI {f:Value} {kf:FuncId→Array Value→Array Value→K} (h:∀ g fs cs,f = .func (.func g) fs cs→CB P g→G dl n σ (Al S (kf g fs cs)) X):G dl n σ (Al S (Fv P f kf)) X:=fun a w hs ⟨hS,g,fs,cs,hf,hc,hk⟩=>h g fs cs hf ⟨hc⟩ a w hs ⟨hS,hk⟩
theorem zX4 {α:Type} {d:Nat} {u:Value} {c:α→Value} {k:α→K} (h:∀ x,G dl n ((d,c x)::σ) (Al S (k x)) X):G dl n ((d,u)::σ) (Al S (qD c k u)) X:=fun a w hs ⟨hS,x,hu,hk⟩=>h x a w (hu ▸ hs) ⟨hS,hk⟩
theorem zNM {α β:Type} {d:Nat} {u:Value} {c:α→β→Value} {k:α→β→K} (h:∀ x y,G dl n ((d,c x y)::σ) (Al S (k x y)) X):G dl n ((d,u)::σ) (Al S (jT c k u)) X:=fun a w hs ⟨hS,x,y,hu,hk⟩=>h x y a w (hu ▸ hs) ⟨hS,hk⟩
theorem zaa {m:List (Nat×Nat×Scr)} (h:G dl n σ k (Ax P ops Q S ds done m)) (hr:Region.ready .any ops (lst ops.size done) = m.map (·.1):=by as_aux_lemma=>kernel_rfl) (hl:(Nat.ble (done.length + 1) ops.size && !m.isEmpty) = true:=by rfl):G dl n σ k (Dx P ops Q S ds done (.a m)):=fun a w hs hk hQ=>by
 simp only [Bool.and_eq_true,Bool.not_eq_true'] at hl
 have h5:=Nat.le_of_ble_eq_true hl.1
 show zCS P ops Q S ds (ops.size - done.length) (lst ops.size done) a w
 have h0:=h a w hs hk
 rw [show ops.size - done.length = (ops.size - done.length - 1) + 1 by omega]
 refine ⟨fun h0=>?_,fun i hi=>?_⟩
 ·rw [h0] at hr
  cases m with
  | nil=>simp at hl
  | cons p m=>simp at hr
 ·rw [hr] at hi
  obtain ⟨p,hp,rfl⟩:=List.mem_map.1 hi
  have:=h0 p hp hQ
  rw [zRS]
  exact this
theorem zX5 {ks:List K} {m:List (Nat×Nat×Scr)} {i tag:Nat} {t:Scr} (h1:G dl n σ k (Ox P ops Q S ds done i tag t)) (h2:G dl n σ (All ks) (Ax P ops Q S ds done m)):G dl n σ (All (k::ks)) (Ax P ops Q S ds done ((i,tag,t)::m)):=fun a w hs hk p hp=>by
 rcases List.mem_cons.1 hp with rfl | hp
 ·exact h1 a w hs (hk 0 _ rfl)
 ·exact h2 a w hs (fun j x hx=>hk (j + 1) x (by simpa using hx)) p hp
theorem zV6 {ks:List K} {m:List (Nat×Nat×Scr)} {i tag:Nat} {t:Scr} (h1:G dl n σ (Al S k) (Ox P ops Q S ds done i tag t)) (h2:G dl n σ (Al S (All ks)) (Ax P ops Q S ds done m)):G dl n σ (Al S (All (k::ks))) (Ax P ops Q S ds done ((i,tag,t)::m)):=fun a w hs ⟨hS,hk⟩ p hp=>by
 rcases List.mem_cons.1 hp with rfl | hp
 ·exact h1 a w hs ⟨hS,hk 0 _ rfl⟩
 ·exact h2 a w hs ⟨hS,fun j x hx=>hk (j + 1) x (by simpa using hx)⟩ p hp
theorem zX6:G dl n σ k (Ax P ops Q S ds done []):=fun _ _ _ _ _ hp=>by cases hp
theorem zX7 {i tag:Nat} {t:Scr} (h1:G dl n σ k (Ox P ops Q S ds done i tag t)):G dl n σ k (Ax P ops Q S ds done [(i,tag,t)]):=fun a w hs hk p hp=>by
 rcases List.mem_cons.1 hp with rfl | hp
 ·exact h1 a w hs hk
 ·cases hp
def okK (ops:Array Oper) (S:World→Prop) (ds done:List Nat) (i:Nat):Prop:=(∀ w,S w)∨(ds.contains i || !alive ds (lst ops.size done)) = true
theorem okK.keep (h:okK ops S ds done i) (w w':World):alive ds (lst ops.size done) = true→i ∉ ds→S w→S w':=fun ha hi _=>by
 rcases h with h | h
 ·exact h w'
 ·rw [ha] at h
  simp only [Bool.not_true,Bool.or_false] at h
  exact absurd (List.contains_iff_mem.1 h) hi
theorem zEG (h:okK ops S ds done i:=by first | exact .inl (fun _=>trivial) | exact .inr (by as_aux_lemma=>kernel_rfl)):okK ops S ds done i:=h
theorem zCp {a:Act} {w:World} (hs:jy dl a n σ) (hi:ops[i]? = some o) (hw:wants ops σ o = some true) {tag:Nat} (h:zCu Q→o.wpIn Fence.wide 0 P a w (fun a' w'=>(alive ds (lst ops.size done) = true→i ∉ ds→S w→S w')∧zCS P ops Q S ds (ops.size - done.length - 1) (lst ops.size (i::done)) a' w') Q):Ox P ops Q S ds done i tag t a w:=by
 intro hQ
 unfold opW wpOpIn
 simp only [hi,uq hs.1 hw,if_true]
 exact h hQ
theorem zCq {m:Nat}:ops.size - done.length - 1 = ops.size - (i::done).length:=by simp only [List.length_cons]; omega
section
variable {α:Type} {vx:α→Value} {k':α→K} {d:Nat} {k1:K}
theorem zSW (h:∀ x,G dl n ((d,vx x)::σ) (k' x) (Dx P ops Q S ds (i::done) t)) (hi:ops[i]? = some o:=by rfl) (hd:o.dst = some d:=by rfl) (hw:wants ops σ o = some true:=by rfl) (hp:WE P σ o k vx k':=by first | exact zF1 | exact WR.we zF0) (hK:okK ops S ds done i:=by exact zEG)
  (hn:Nat.ble (d + 1) n = true:=by rfl) (nd:zAo o.op = false:=by rfl):G dl n σ k (Ox P ops Q S ds done i 0 t):=fun a w hs hk=>by
 obtain ⟨x,w',hp,h'⟩:=hp w hk
 refine zCp hs hi hw fun hQ=>(zB9 (r:=none) hs nd hp ⟨hK.keep w w',?_⟩)
 rw [hd,zCq (m:=0)]; exact h x _ w' (hs.put (Nat.le_of_ble_eq_true hn) _) h' hQ
theorem zZJ (h:∀ x,G dl n σ (k' x) (Dx P ops Q S ds (i::done) t)) (hi:ops[i]? = some o:=by rfl) (hd:o.dst = none:=by rfl) (hw:wants ops σ o = some true:=by rfl) (hp:WE P σ o k vx k':=by exact zF1) (hK:okK ops S ds done i:=by exact zEG)
  (nd:zAo o.op = false:=by rfl):G dl n σ k (Ox P ops Q S ds done i 0 t):=fun a w hs hk=>by
 obtain ⟨x,w',hp,h'⟩:=hp w hk
 refine zCp hs hi hw fun hQ=>(zB9 (r:=none) hs nd hp ⟨hK.keep w w',?_⟩)
 rw [hd,zCq (m:=0)]; exact h x _ w' hs h' hQ
theorem zZK (h:G dl n σ k1 (Dx P ops Q S ds (i::done) t)) (hi:ops[i]? = some o:=by rfl) (hd:o.dst = none:=by rfl) (hw:wants ops σ o = some true:=by rfl) (hp:WK P σ o k k1:=by exact zNH) (hK:okK ops S ds done i:=by exact zEG)
  (nd:zAo o.op = false:=by rfl):G dl n σ k (Ox P ops Q S ds done i 0 t):=fun a w hs hk=>by
 obtain ⟨w',hp,h'⟩:=hp w hk
 refine zCp hs hi hw fun hQ=>(zNI (r:=none) hs nd hp ⟨hK.keep w w',?_⟩)
 rw [hd,zCq (m:=0)]; exact h _ w' hs h' hQ
theorem zab {kk:Value→K} (h:∀ u,G dl n ((d,u)::σ) (kk u) (Dx P ops Q S ds (i::done) t)) (hi:ops[i]? = some o:=by rfl) (hd:o.dst = some d:=by rfl) (hw:wants ops σ o = some true:=by rfl) (hp:WC P σ o k kk:=by exact zHR) (hK:okK ops S ds done i:=by exact zEG)
  (hn:Nat.ble (d + 1) n = true:=by rfl) (nd:zAo o.op = false:=by rfl):G dl n σ k (Ox P ops Q S ds done i 0 t):=fun a w hs hk=>by
 obtain ⟨f,args,w',hp,hc⟩:=hp w hk
 refine zCp hs hi hw fun hQ=>(zHT (r:=none) hs nd hp hc fun v w1 h'=>⟨hK.keep w w1,?_⟩)
 rw [hd,zCq (m:=0)]; exact h v _ w1 (hs.put (Nat.le_of_ble_eq_true hn) _) h' hQ
theorem zZL {kk:Value→K} (h:∀ u,G dl n σ (kk u) (Dx P ops Q S ds (i::done) t)) (hi:ops[i]? = some o:=by rfl) (hd:o.dst = none:=by rfl) (hw:wants ops σ o = some true:=by rfl) (hp:WC P σ o k kk:=by exact zHR) (hK:okK ops S ds done i:=by exact zEG)
  (nd:zAo o.op = false:=by rfl):G dl n σ k (Ox P ops Q S ds done i 0 t):=fun a w hs hk=>by
 obtain ⟨f,args,w',hp,hc⟩:=hp w hk
 refine zCp hs hi hw fun hQ=>(zHT (r:=none) hs nd hp hc fun v w1 h'=>⟨hK.keep w w1,?_⟩)
 rw [hd,zCq (m:=0)]; exact h v _ w1 hs h' hQ
theorem zac {kk:Value→K} (h:∀ u,G dl n ((d,u)::σ) (kk u) (Dx P ops Q S ds (i::done) t)) (hi:ops[i]? = some o:=by rfl) (hd:o.dst = some d:=by rfl) (hw:wants ops σ o = some true:=by rfl) (hp:WY P σ o k kk:=by exact zY8 rfl rfl rfl) (hK:okK ops S ds done i:=by exact zEG)
  (hn:Nat.ble (d + 1) n = true:=by rfl) (nd:zAo o.op = false:=by rfl):G dl n σ k (Ox P ops Q S ds done i 0 t):=fun a w hs hk=>by
 obtain ⟨y,args,hp,hc⟩:=hp w hk
 refine zCp hs hi hw fun hQ=>(zOp hs nd hp hc fun v w1 h'=>⟨hK.keep w w1,?_⟩)
 rw [hd,zCq (m:=0)]; exact h v _ w1 (hs.put (Nat.le_of_ble_eq_true hn) _) h' hQ
theorem zMF (h:∀ x,G dl n ((d,vx x)::σ) (Al S (k' x)) (Dx P ops Q S ds (i::done) t)) (hi:ops[i]? = some o:=by rfl) (hd:o.dst = some d:=by rfl) (hw:wants ops σ o = some true:=by rfl) (hp:WE P σ o k vx (fun x=>Sv S (k' x)):=by exact zF1)
  (hn:Nat.ble (d + 1) n = true:=by rfl) (nd:zAo o.op = false:=by rfl):G dl n σ (Al S k) (Ox P ops Q S ds done i 1 t):=fun a w hs ⟨_,hk⟩=>by
 obtain ⟨x,w',hp,hS,h'⟩:=hp w hk
 refine zCp hs hi hw fun hQ=>(zB9 (r:=none) hs nd hp ⟨fun _ _ _=>hS,?_⟩)
 rw [hd,zCq (m:=0)]; exact h x _ w' (hs.put (Nat.le_of_ble_eq_true hn) _) ⟨hS,h'⟩ hQ
theorem zX8 (h:∀ x,G dl n σ (Al S (k' x)) (Dx P ops Q S ds (i::done) t)) (hi:ops[i]? = some o:=by rfl) (hd:o.dst = none:=by rfl) (hw:wants ops σ o = some true:=by rfl) (hp:WE P σ o k vx (fun x=>Sv S (k' x)):=by exact zF1)
  (nd:zAo o.op = false:=by rfl):G dl n σ (Al S k) (Ox P ops Q S ds done i 1 t):=fun a w hs ⟨_,hk⟩=>by
 obtain ⟨x,w',hp,hS,h'⟩:=hp w hk
 refine zCp hs hi hw fun hQ=>(zB9 (r:=none) hs nd hp ⟨fun _ _ _=>hS,?_⟩)
 rw [hd,zCq (m:=0)]; exact h x _ w' hs ⟨hS,h'⟩ hQ
theorem zXP (h:G dl n σ (Al S k1) (Dx P ops Q S ds (i::done) t)) (hi:ops[i]? = some o:=by rfl) (hd:o.dst = none:=by rfl) (hw:wants ops σ o = some true:=by rfl) (hp:WK P σ o k (Sv S k1):=by exact zNH)
  (nd:zAo o.op = false:=by rfl):G dl n σ (Al S k) (Ox P ops Q S ds done i 1 t):=fun a w hs ⟨_,hk⟩=>by
 obtain ⟨w',hp,hS,h'⟩:=hp w hk
 refine zCp hs hi hw fun hQ=>(zNI (r:=none) hs nd hp ⟨fun _ _ _=>hS,?_⟩)
 rw [hd,zCq (m:=0)]; exact h _ w' hs ⟨hS,h'⟩ hQ
def SvA (S:World→Prop) (kk:Value→K) (kS:Value→K):Prop:=∀ u w,kk u w→S w∧kS u w
theorem zZM {v0:Value} {k:K}:SvA S (zAY v0 (Sv S k)) (zAY v0 k):=fun _ _ ⟨h,hS,hk⟩=>⟨hS,h,hk⟩
theorem zZN {α:Type} {c:α→Value} {k:α→K}:SvA S (qD c fun x=>Sv S (k x)) (qD c k):=fun _ _ ⟨x,h,hS,hk⟩=>⟨hS,x,h,hk⟩
theorem zZO {α β:Type} {c:α→β→Value} {k:α→β→K}:SvA S (jT c fun x y=>Sv S (k x y)) (jT c k):=fun _ _ ⟨x,y,h,hS,hk⟩=>⟨hS,x,y,h,hk⟩
theorem zZP {α β γ:Type} {c:α→β→γ→Value} {k:α→β→γ→K}:SvA S (zCN c fun x y z=>Sv S (k x y z)) (zCN c k):=fun _ _ ⟨x,y,z,h,hS,hk⟩=>⟨hS,x,y,z,h,hk⟩
theorem zZQ {kk kS:Value→K} (h:∀ u,G dl n ((d,u)::σ) (Al S (kS u)) (Dx P ops Q S ds (i::done) t)) (hi:ops[i]? = some o:=by rfl) (hd:o.dst = some d:=by rfl) (hw:wants ops σ o = some true:=by rfl) (hp:WC P σ o k kk:=by exact zHR)
  (hS:SvA S kk kS:=by first | exact zZN | exact zZM | exact zZO | exact zZP) (hn:Nat.ble (d + 1) n = true:=by rfl) (nd:zAo o.op = false:=by rfl):G dl n σ (Al S k) (Ox P ops Q S ds done i 1 t):=fun a w hs ⟨_,hk⟩=>by
 obtain ⟨f,args,w',hp,hc⟩:=hp w hk
 refine zCp hs hi hw fun hQ=>(zHT (r:=none) hs nd hp hc fun v w1 h'=>⟨fun _ _ _=>(hS v w1 h').1,?_⟩)
 rw [hd,zCq (m:=0)]; exact h v _ w1 (hs.put (Nat.le_of_ble_eq_true hn) _) (hS v w1 h') hQ
theorem zMG (h:∀ x,G dl n ((d,vx x)::σ) (k' x) (Dx P ops Q S ds (i::done) t)) (hi:ops[i]? = some o:=by rfl) (hd:o.dst = some d:=by rfl) (hw:wants ops σ o = some true:=by rfl) (hp:WR P σ o k vx k':=by exact zF0)
  (hn:Nat.ble (d + 1) n = true:=by rfl) (nd:zAo o.op = false:=by rfl):G dl n σ k (Ox P ops Q S ds done i 2 t):=fun a w hs hk=>by
 obtain ⟨x,hp,h'⟩:=hp w hk
 refine zCp hs hi hw fun hQ=>(zB9 (r:=none) hs nd hp ⟨fun _ _ h=>h,?_⟩)
 rw [hd,zCq (m:=0)]; exact h x _ w (hs.put (Nat.le_of_ble_eq_true hn) _) h' hQ
theorem zIZ (h:∀ x,G dl n ((d,vx x)::σ) (Al S (k' x)) (Dx P ops Q S ds (i::done) t)) (hi:ops[i]? = some o:=by rfl) (hd:o.dst = some d:=by rfl) (hw:wants ops σ o = some true:=by rfl) (hp:WR P σ o k vx k':=by exact zF0)
  (hn:Nat.ble (d + 1) n = true:=by rfl) (nd:zAo o.op = false:=by rfl):G dl n σ (Al S k) (Ox P ops Q S ds done i 2 t):=fun a w hs ⟨hS,hk⟩=>by
 obtain ⟨x,hp,h'⟩:=hp w hk
 refine zCp hs hi hw fun hQ=>(zB9 (r:=none) hs nd hp ⟨fun _ _ h=>h,?_⟩)
 rw [hd,zCq (m:=0)]; exact h x _ w (hs.put (Nat.le_of_ble_eq_true hn) _) ⟨hS,h'⟩ hQ
end
variable {k0:K} {id:Nat}
theorem zT1 (h:G dl n σ k0 (Dx P l.toArray Q Any ds [] t)) (hh:DH id 0 ds t:=by assumption) (hQ:zCu Q:=by exact zGr) [hm:MX P]:G dl n σ (Dr k0) (Cx none P (.region id l.toArray true) Q):=fun a w hs ⟨w1,hw,hk⟩=>by
 subst hw
 have h1:=h a _ hs hk hQ
 refine wpIn_region_any hm.h (zC0 (S:=Any) (ds:=ds) _ _ _ _ ?_)
 rw [zNK]; exact h1
theorem zT2 (h:∀ w1,G dl n σ (Al (Is w1) k0) (Dx P l.toArray Q (Is w1) ds [] t)) (hh:DH id 1 ds t:=by assumption) (hQ:zCu Q:=by exact zGr) [hm:MX P]:G dl n σ (Dr k0) (Cx none P (.region id l.toArray true) Q):=fun a w hs ⟨w1,hw,hk⟩=>by
 subst hw
 have h1:=h _ a _ hs ⟨Is.intro _,hk⟩ hQ
 refine wpIn_region_any hm.h (zC0 (S:=Is { w with drawn:=w.drawn + 1 }) (ds:=ds) _ _ _ _ ?_)
 rw [zNK]; exact h1
theorem zT3 {kS:(World→Prop)→K} (h:∀ S,G dl n σ (Al S (kS S)) (Dx P l.toArray Q S ds [] t)) (hh:DH id 2 ds t:=by assumption) (hQ:zCu Q:=by exact zGr) [hm:MX P]:G dl n σ (Dr (xW kS)) (Cx none P (.region id l.toArray true) Q):=fun a w hs ⟨w1,hw,S,hS,hk⟩=>by
 subst hw
 have h1:=h S a _ hs ⟨hS,hk⟩ hQ
 refine wpIn_region_any hm.h (zC0 (S:=S) (ds:=ds) _ _ _ _ ?_)
 rw [zNK]; exact h1
def Sx (P:Program) (ops:Array Oper) (Q:Exit→Act→World→Prop) (l:List Oper):Act→World→Prop:=fun a w=>wpStill P ops w (fun a'=>Q .normal a' w) l a
theorem zT4 (h:G [] n σ k0 (Sx P l.toArray Q l)) [hm:MX P] (hB:Region.lexB .any l.toArray = true:=by as_aux_lemma=>kernel_rfl):G [] n σ (Dr k0) (Cx none P (.region id l.toArray true) Q):=fun a w hs ⟨w1,hw,hk⟩=>by
 refine wpIn_wide.2 (zVZ hm.h hB hw (h a w1 hs hk))
theorem zJZ {d:Nat} (h:G [] n ((d,v)::σ) k (Sx P ops Q l)) (hd:o.dst = some d:=by rfl) (hw:wants ops σ o = some true:=by rfl) (hp:Pure P σ o v:=by exact zNE) (hn:Nat.ble (d + 1) n = true:=by rfl):G [] n σ k (Sx P ops Q (o::l)):=fun a w hs hk=>
 zWt hs.nil hw (zXa hs.nil rfl hd (Nat.le_of_ble_eq_true hn) hp fun a h'=>h a w h'.D hk)
theorem zZR {d:Nat} (h:G [] n ((d,undef)::σ) k (Sx P ops Q l)) (hd:o.dst = some d:=by rfl) (hw:wants ops σ o = some false:=by rfl) (hn:Nat.ble (d + 1) n = true:=by rfl):G [] n σ k (Sx P ops Q (o::l)):=fun a w hs hk=>
 zaS hs.nil hw hd (Nat.le_of_ble_eq_true hn) fun a h'=>h a w h'.D hk
section
variable {α:Type} {vx:α→Value} {k':α→K} {d:Nat}
theorem zXQ (hr:WR P σ o k vx k') (h:∀ x,G [] n ((d,vx x)::σ) (k' x) (Sx P ops Q l)) (hd:o.dst = some d) (hw:wants ops σ o = some true) (hn:Nat.ble (d + 1) n = true):G [] n σ k (Sx P ops Q (o::l)):=fun a w hs hk=>by
 obtain ⟨x,hp,h'⟩:=hr w hk
 exact zWt hs.nil hw (zWs hs.nil rfl hd (Nat.le_of_ble_eq_true hn) hp fun a hs'=>h x a w hs'.D h')
theorem zFX (h:∀ x,G [] n ((d,vx x)::σ) (k' x) (Sx P ops Q l)) (hd:o.dst = some d:=by rfl) (hw:wants ops σ o = some true:=by rfl) (hp:WP P σ o k vx k':=by exact zJw) (hn:Nat.ble (d + 1) n = true:=by rfl):G [] n σ k (Sx P ops Q (o::l)):=zXQ hp.wr h hd hw hn
theorem zMH (h:∀ x,G [] n ((d,vx x)::σ) (k' x) (Sx P ops Q l)) (hd:o.dst = some d:=by rfl) (hw:wants ops σ o = some true:=by rfl) (hp:WR P σ o k vx k':=by exact zF0) (hn:Nat.ble (d + 1) n = true:=by rfl):G [] n σ k (Sx P ops Q (o::l)):=zXQ hp h hd hw hn
end
theorem zX9 {b:Bool} {x y:K} (h1:b = true→G dl n σ x (Sx P ops Q (o::l))) (h2:b = false→G dl n σ y (Sx P ops Q (o::l))) (hg:gslot ops σ o = some (.bool b):=by rfl):G dl n σ (Ite b x y) (Sx P ops Q (o::l)):=fun a w hs hk=>by
 cases b
 ·exact h2 rfl a w hs (hk.2 rfl)
 ·exact h1 rfl a w hs (hk.1 rfl)
theorem zYA (h:G [] n σ k (Ex Q .normal)):G [] n σ k (Sx P ops Q []):=fun a w hs hk=>h a w hs hk
end
end
section
open Go
def zOs:Exit→Code
 | .exit i=>.exit i
 | _=>.ret
def zKW (l:Nat) (r:Loop) (k:K):K:=fun w=>w.heap[l]? = some (.loop r)∧k (w.putObj l (.loop { r with state:=.busy }))
def zRU (l:Nat) (r:Loop) (J:Exit) (k:K):K:=fun w=>w.heap[l]? = some (.loop r)∧k (w.putObj l (.loop { r with state:=.done,pending:=some (zOs J) }))
def YN (kN kJ:K):Value→K:=fun v w=>(v = .bool true∧kN w)∨(v = .bool false∧kJ w)
def zAD {α:Type} (P:Program) (fv:Value) (J:Exit) (cX:α→List Value) (body:(K→K)→K→K→α→K) (after afterJ:Nat→K):K:=fun w=>
 ∃ g cs,fv = .func (.func g) #[] cs∧callable P g = true ∧
  ∀ (r:Loop) (w1:World),r.state = .ready→r.pending = none→r.defers = w.heap.size→w1 = (w.alloc (.deferred (some []))).alloc (.loop r) →
   (∀ (x:α) (kN kJ:K) (W:World),W.heap[w.heap.size + 1]? = some (.loop r) →
    body (zKW (w.heap.size + 1) r) (zNA (w.heap.size + 1) { r with state:=.busy } kN) (zRU (w.heap.size + 1) { r with state:=.busy } J kJ) x W →
    YieldAt Fence.wide 0 P (w.heap.size + 1) (cX x).toArray W (Ret (YN kN kJ))) →
   Calls P g (yv (w.heap.size + 1)::cs.toList).toArray w1 (Ret fun _ w3=>
    (w3.heap[w.heap.size + 1]? = some (.loop r)∧after w.heap.size (w3.putObj (w.heap.size + 1) (.loop { r with state:=.exhausted }))) ∨
    (w3.heap[w.heap.size + 1]? = some (.loop { r with state:=.done,pending:=some (zOs J) })∧afterJ w.heap.size (w3.putObj (w.heap.size + 1) (.loop { r with state:=.exhausted,pending:=some (zOs J) }))))
def FQ:Exit→Act→World→Prop:=fun _ _ _=>False
def RQ (J:Exit) (kN kJ:K):Exit→Act→World→Prop:=fun e _ w=>match e with
 | .normal=>kN w
 | .ret=>J = .ret∧kJ w
 | .exit i=>J = .exit i∧kJ w
 | _=>False
def Bx (kb k:K) (r:Option Nat) (P:Program) (body:Code) (Q:Exit→Act→World→Prop):Act→World→Prop:=fun a w=>k w∧∀ w,kb w→body.wpIn (fe r) 0 P Q a w
def Bj (BG:K→K) (r:Option Nat) (P:Program) (body:Code) (Q:Exit→Act→World→Prop):Act→World→Prop:=fun a w=>∃ k,BG k w∧∀ w,k w→body.wpIn (fe r) 0 P Q a w
def zYB:List Nat→List Value→List (Nat×Value)→List (Nat×Value)
 | p::ps,v::vs,σ=>zYB ps vs ((p,v)::σ)
 | _,_,σ=>σ
section
variable {P:Program} {dl:List Deferred} {n:Nat} {σ τ:List (Nat×Value)} {k kb:K} {r:Option Nat} {Q:Exit→Act→World→Prop} {body assign:Code} {a:Act} {w:World}
theorem zad (h:G dl n σ kb (Cx r P body Q)):G dl n σ k (Bx kb k r P body Q):=fun a _ hs hk=>⟨hk,fun w hk=>h a w hs hk⟩
theorem zae {BG:K→K} (h:G dl n σ k (Cx r P body Q)):G dl n σ (BG k) (Bj BG r P body Q):=fun a w hs hk=>⟨k,hk,fun w hk=>h a w hs hk⟩
theorem zaf {J:Exit} {kJ:K}:G dl n σ k (Ex (RQ J k kJ) .normal):=fun _ _ _ hk=>hk
theorem zah {kN:K}:G dl n σ k (Ex (RQ .ret kN k) .ret):=fun _ _ _ hk=>⟨rfl,hk⟩
theorem zai {kN:K} {i:Nat}:G dl n σ k (Ex (RQ (.exit i) kN k) (.exit i)):=fun _ _ _ hk=>⟨rfl,hk⟩
theorem zMI:∀ (ps:List Nat) (vs:List Value) (σ:List (Nat×Value)) (t:Array Value),(ps.all fun p=>Nat.ble (p + 1) n) = true→Slots { tmps:=t,defers:=[] } n σ →
  Slots { tmps:=(ps.zip vs).foldl (fun t p=>t.setIfInBounds p.1 p.2) t,defers:=[] } n (zYB ps vs σ)
 | [],_,_,_,_,h=>h
 | p::ps,[],_,_,_,h=>h
 | p::ps,v::vs,σ,t,hp,h=>by
  simp only [List.all_cons,Bool.and_eq_true] at hp
  have h1:=h.put (Nat.le_of_ble_eq_true hp.1) v
  exact zMI ps vs _ _ hp.2 h1
theorem zSX {α:Type} {g:Operand} {ps:List Tmp} {fv:Value} {J:Exit} {cX:α→List Value} {bk:(K→K)→K→K→α→K} {after afterJ:Nat→K}
  (h1:∀ (l:Nat) (BG:K→K) (KN KJ:K) (x:α),G [] n (zYB ps (cX x) σ) (bk BG KN KJ x) (Cx (some l) P assign (Exit.then (Bj BG (some l) P body (RQ J KN KJ)) FQ)))
  (h2:∀ D,G (zEE D) n σ (after D) (Ex Q .normal)) (h3:∀ D,G (zEE D) n σ (afterJ D) (Ex Q J)) (hg:ev σ g = some fv:=by rfl) (hp:(ps.all fun p=>Nat.ble (p + 1) n) = true:=by rfl) (hlen:∀ x,(cX x).length = ps.length:=by exact fun _=>rfl) (hJ:J = .ret∨∃ i,J = .exit i:=by first | exact .inl rfl | exact .inr ⟨_,rfl⟩) :
  G [] n σ (zAD P fv J cX bk after afterJ) (Cx none P (.rangeFunc g ps.toArray assign body) Q):=fun a w hs ⟨gf,cs,hfv,hcb,h⟩=>by
 show (Code.rangeFunc g ps.toArray assign body).wpIn Fence.wide 0 P Q a w
 refine wpIn_rangeFunc fun fn hfn=>?_
 obtain ⟨r,hr⟩:∃ r:Loop,r = { state:=.ready,pending:=none,fn,tmps:=a.tmps,params:=ps.toArray,assign,body,defers:=w.heap.size }:=⟨_,rfl⟩
 have hh:=h r _ (by rw [hr]) (by rw [hr]) (by rw [hr]) rfl
 refine ⟨w.heap.size + 1,zEE w.heap.size,(w.alloc (.deferred (some []))).alloc (.loop r),{ target:=.fn (.func gf) cs,args:=#[.func (.yield (w.heap.size + 1)) #[] #[]] },(w.alloc (.deferred (some []))).alloc (.loop r),gf,
  (yv (w.heap.size + 1)::cs.toList).toArray,(w.alloc (.deferred (some []))).alloc (.loop r),?_,?_,fun _ _=>trivial,?_,(fun h=>by cases h),?_⟩
 ·rw [hr]; exact run_enterLoop_outer _ _ _ _ _
 ·have he:a.eval g = .func (.func gf) #[] cs:=by rw [← hfv]; exact hs.1.ev hg
  simp only [resolve,he]
  simp [go_sem]
 ·simp [invoke,zCz hcb]
 ·refine zEg zFz rfl ((hh ?_).mono fun e w3 he=>?_)
  ·intro x kN kJ W hl hb
   refine ⟨fn,_,assign,body,(run_yield (P:=P) (args:=(cX x).toArray) hl (by rw [hr]; simp [hlen])).trans (by rw [hr]),?_⟩
   refine roundIn_of_wpIn trivial ?_
   have hs1:=zMI ps (cX x) σ a.tmps hp (show Slots { tmps:=a.tmps,defers:=[] } n σ from by have:=hs.1; exact this)
   have h4:=h1 (w.heap.size + 1) _ _ _ x { tmps:=(ps.zip (cX x)).foldl (fun t p=>t.setIfInBounds p.1 p.2) a.tmps,defers:=[] } W ⟨hs1,rfl⟩ hb
   have h5:assign.wpIn (Fence.wide.inRound (w.heap.size + 1)) 0 P (Exit.then (Bj (zKW (w.heap.size + 1) r) (some (w.heap.size + 1)) P body (RQ J (zNA (w.heap.size + 1) { r with state:=.busy } kN) (zRU (w.heap.size + 1) { r with state:=.busy } J kJ))) FQ)
     { tmps:=(ps.toArray.zip (cX x).toArray).foldl (fun t p=>t.setIfInBounds p.1 p.2) a.tmps,defers:=[] } W:=by
    have:(ps.toArray.zip (cX x).toArray).foldl (fun t p=>t.setIfInBounds p.1 p.2) a.tmps = (ps.zip (cX x)).foldl (fun t p=>t.setIfInBounds p.1 p.2) a.tmps:=by simp
    rw [this]; exact h4
   refine wpIn_mono h5 fun e a2 w2 hq=>?_
   cases e with
   | normal=>
    obtain ⟨kk,hk,hbd⟩:=hq
    refine ⟨_,run_beginRound hk.1 (by rw [hr]),?_⟩
    refine wpIn_mono (hbd _ hk.2) fun e a3 w3 hq=>?_
    cases e with
    | normal=>
     obtain ⟨h3,h4⟩:=hq
     exact ⟨_,_,run_endRound none h3,.inl ⟨rfl,h4⟩⟩
    | ret=>
     obtain ⟨rfl,h3,h4⟩:=hq
     exact ⟨_,_,run_endRound (some .ret) h3,.inr ⟨rfl,h4⟩⟩
    | exit i=>
     obtain ⟨rfl,h3,h4⟩:=hq
     exact ⟨_,_,run_endRound (some (.exit i)) h3,.inr ⟨rfl,h4⟩⟩
    | goto t=>exact hq.elim
    | panic c=>exact hq.elim
    | outgrown=>exact hq.elim
   | _=>exact hq.elim
  ·cases e with
   | returned v=>
    have hn:r.pending = none:=by rw [hr]
    rcases he with ⟨h3',h4⟩ | ⟨h3',h4⟩
    ·refine ⟨_,_,run_endLoop h3' (by rw [hr]; simp),?_⟩
     have h5:=h2 _ { a with defers:=zEE w.heap.size++a.defers } _ ⟨hs.1,by simp [hs.2,zEE]⟩ h4
     rw [hn] at h5 ⊢
     exact h5
    ·refine ⟨_,_,run_endLoop h3' (by simp),?_⟩
     have h5:=h3 _ { a with defers:=zEE w.heap.size++a.defers } _ ⟨hs.1,by simp [hs.2,zEE]⟩ h4
     rcases hJ with rfl | ⟨i,rfl⟩
     ·exact wpIn_ret h5
     ·exact wpIn_exit h5
   | panicked c=>exact he.elim
   | outgrown=>exact he.elim
theorem zSY {α:Type} {g:Operand} {p:Tmp} {fv:Value} {cX:α→Value} {bk:K→α→K} {after:Nat→K}
  (h1:∀ (l:Nat) (KN:K) (x:α) (k1:K),G [] n ((p,cX x)::σ) k1 (Cx (some l) P assign (Exit.then (Bx (bk KN x) k1 (some l) P body (RQ .normal KN Dead)) FQ)))
  (h2:∀ D,G (zEE D) n σ (after D) (Ex Q .normal)) (hg:ev σ g = some fv:=by rfl) (hp:Nat.ble (p + 1) n = true:=by rfl) :
  G [] n σ (zAC P fv cX bk after) (Cx none P (.rangeFunc g #[p] assign body) Q):=fun a w hs ⟨gf,cs,hfv,hcb,h⟩=>by
 show (Code.rangeFunc g #[p] assign body).wpIn Fence.wide 0 P Q a w
 refine wpIn_rangeFunc fun fn hfn=>?_
 obtain ⟨r,hr⟩:∃ r:Loop,r = { state:=.ready,pending:=none,fn,tmps:=a.tmps,params:=#[p],assign,body,defers:=w.heap.size }:=⟨_,rfl⟩
 have hh:=h r _ (by rw [hr]) (by rw [hr]) (by rw [hr]) rfl
 refine ⟨w.heap.size + 1,zEE w.heap.size,(w.alloc (.deferred (some []))).alloc (.loop r),{ target:=.fn (.func gf) cs,args:=#[.func (.yield (w.heap.size + 1)) #[] #[]] },(w.alloc (.deferred (some []))).alloc (.loop r),gf,
  (yv (w.heap.size + 1)::cs.toList).toArray,(w.alloc (.deferred (some []))).alloc (.loop r),?_,?_,fun _ _=>trivial,?_,(fun h=>by cases h),?_⟩
 ·rw [hr]; exact run_enterLoop_outer _ _ _ _ _
 ·have he:a.eval g = .func (.func gf) #[] cs:=by rw [← hfv]; exact hs.1.ev hg
  simp only [resolve,he]
  simp [go_sem]
 ·simp [invoke,zCz hcb]
 ·refine zEg zFz rfl ((hh ?_).mono fun e w3 he=>?_)
  ·intro x kN W hl hb
   refine ⟨fn,_,assign,body,(run_yield (P:=P) (args:=#[cX x]) hl (by rw [hr]; rfl)).trans (by rw [hr]),?_⟩
   refine roundIn_of_wpIn trivial ?_
   have hs1:jy [] { tmps:=a.tmps.setIfInBounds p (cX x),defers:=[] } n ((p,cX x)::σ):=by
    have:=hs.1.put (Nat.le_of_ble_eq_true hp) (cX x)
    exact ⟨this,rfl⟩
   have h4:=h1 (w.heap.size + 1) (zNA (w.heap.size + 1) { r with state:=.busy } kN) x (fun w=>w = W) _ W hs1 rfl
   refine wpIn_mono (show assign.wpIn (Fence.wide.inRound (w.heap.size + 1)) 0 P _ _ W from by simp only [Cx] at h4; simpa using h4) fun e a2 w2 hq=>?_
   cases e with
   | normal=>
    obtain ⟨rfl,hbd⟩:=hq
    refine ⟨_,run_beginRound hl (by rw [hr]),?_⟩
    refine wpIn_mono (hbd _ hb) fun e a3 w3 hq=>?_
    cases e with
    | normal=>
     obtain ⟨h3,h4⟩:=hq
     exact ⟨_,_,run_endRound none h3,rfl,h4⟩
    | ret=>exact absurd hq.1 (by simp)
    | exit i=>exact absurd hq.1 (by simp)
    | _=>exact hq.elim
   | _=>exact hq.elim
  ·cases e with
   | returned v=>
    have hn:r.pending = none:=by rw [hr]
    obtain ⟨h3,h4⟩:=he
    refine ⟨_,_,run_endLoop h3 (by rw [hr]; simp),?_⟩
    have h5:=h2 _ { a with defers:=zEE w.heap.size++a.defers } _ ⟨hs.1,by simp [hs.2,zEE]⟩ h4
    rw [hn] at h5 ⊢
    exact h5
   | panicked c=>exact he.elim
   | outgrown=>exact he.elim
end
end
section
open Go
def opb:Builtin→Nat
 | .len=>20
 | .max | .min=>21
 | _=>22
def opc:Op→Nat
 | .move _ | .assign _=>0
 | .pick _ _ _=>1
 | .nilCheck _=>2
 | .fieldAddr _ _ _=>3
 | .extract _ _=>4
 | .makeFunc _ _ _=>5
 | .unOp o _ _=>match o with
  | .not=>6
  | _=>7
 | .binOp o _ _ _ _=>match o with
  | .add | .sub | .mul | .and | .or | .xor=>8
  | .shl | .shr | .quo | .rem | .andNot=>9
  | _=>10
 | .convert _ _ _=>11
 | .build _ _=>12
 | .load _ _=>13
 | .lookup _ _ _ _=>14
 | .alloc _ | .box _ _=>15
 | .buildSlice _ _ _=>16
 | .store _ _ _=>17
 | .mapUpdate _ _ _ _=>18
 | .call c=>match c.callee with
  | .builtin b=>opb b
  | _=>19
 | .makeMap _ _ | .makeSlice _ _ _=>23
 | .range _ _ | .next _ _ | .entry _=>24
 | .makeInterface _ _=>25
 | .field _ _ _=>26
 | .index _ _ _ | .indexAddr _ _ _=>27
 | .slice _ _ _ _ _=>28
 | _=>99
def opi (ops:Array Oper) (i:Nat):Nat:=match ops[i]? with
 | some o=>opc o.op
 | none=>98
section
variable {P:Program} {dl:List Deferred} {n:Nat} {σ:List (Nat×Value)} {k:K} {r:Option Nat} {ops:Array Oper} {Q:Exit→Act→World→Prop} {l:List Oper} {o:Oper} {S:World→Prop} {ds done is:List Nat} {i tag:Nat} {t:Scr} {c x y:Code} {e:Exit} {kk:Value→K} {u:Operand}
theorem zZS (h:G dl n σ k (Tx r P ops Q l)):G dl n σ k (Tx r P ops Q l):=h
theorem zZT (h:G dl n σ k (Cx r P c Q)):G dl n σ k (Cx r P c Q):=h
theorem zZU (h:G dl n σ k (Ex Q e)):G dl n σ k (Ex Q e):=h
theorem zZV {rs:List ResultVar} {vs:List Value} (h:G dl n σ k (Rx P kk rs vs)):G dl n σ k (Rx P kk rs vs):=h
theorem zZW {q:K} (h:G dl n σ k (Fx q)):G dl n σ k (Fx q):=h
theorem zZX (h:G dl n σ k (Dx P ops Q S ds done t)):G dl n σ k (Dx P ops Q S ds done t):=h
theorem zZY (h:G dl n σ k (Ox P ops Q S ds done i tag t)):G dl n σ k (Ox P ops Q S ds done i tag t):=h
theorem zZZ (h:G dl n σ k (Sx P ops Q l)):G dl n σ k (Sx P ops Q l):=h
theorem zZa {α:Type} {S:α→List (Nat×Value)} {X:α→K} (h:G dl n σ k (Lx dl n S X)):G dl n σ k (Lx dl n S X):=h
theorem zYC (h:G dl n σ k (Cx r P (.seq x y) Q)):G dl n σ k (Cx r P (.seq x y) Q):=h
theorem zV7 (h:G dl n σ k (Cx r P (.cond u x y) Q)):G dl n σ k (Cx r P (.cond u x y) Q):=h
theorem zV8 (h:G dl n σ k (Cx r P (.region i ops true) Q)):G dl n σ k (Cx r P (.region i ops true) Q):=h
theorem zCA (c:Nat) (h:G dl n σ k (Tx r P ops Q (o::l))) (hc:opc o.op = c):G dl n σ k (Tx r P ops Q (o::l)):=h
theorem zD0 (c:Nat) (h:G dl n σ k (Sx P ops Q (o::l))) (hc:opc o.op = c):G dl n σ k (Sx P ops Q (o::l)):=h
theorem zD1 (c:Nat) (h:G dl n σ k (Dx P ops Q S ds done (.s (i::is) t))) (hc:opi ops i = c):G dl n σ k (Dx P ops Q S ds done (.s (i::is) t)):=h
theorem zIa (c:Nat) (h:G dl n σ k (Ox P ops Q S ds done i tag t)) (hc:opi ops i = c):G dl n σ k (Ox P ops Q S ds done i tag t):=h
theorem zZb (h:G dl n σ k (Tx r P ops Q (o::l))) (hc:o.guard.isSome = true):G dl n σ k (Tx r P ops Q (o::l)):=h
theorem zZc (h:G dl n σ k (Sx P ops Q (o::l))) (hc:o.guard.isSome = true):G dl n σ k (Sx P ops Q (o::l)):=h
theorem zYD (h:G dl n σ k (Dx P ops Q S ds done (.s (i::is) t))) (hc:(ops[i]?).map (fun o=>o.guard.isSome) = some true):G dl n σ k (Dx P ops Q S ds done (.s (i::is) t)):=h
theorem zSZ {b:Bool} {kx ky:K} (h1:G dl n σ kx (Cx r P x Q)) (h2:G dl n σ ky (Cx r P y Q)) (he:ev σ u = some (.bool b)):G dl n σ (Ite b kx ky) (Cx r P (.cond u x y) Q):=zVy h1 h2 he
theorem zYE {d:Nat} {u v0:Value} {X1:Act→World→Prop} (h:G dl n ((d,v0)::σ) (Al S k) X1):G dl n ((d,u)::σ) (Al S (zAY v0 k u)) X1:=fun a w hs ⟨hS,hu,hk⟩=>h a w (hu ▸ hs) ⟨hS,hk⟩
theorem zT5 {v:Value} (h:Pure P σ o v:=by first | exact zTK rfl rfl | exact zOT rfl rfl):Pure P σ o v:=h
theorem zT6 {v:Value} (h:Pure P σ o v:=by first | exact zOU rfl rfl rfl | exact zOV rfl rfl rfl | exact zOW rfl rfl rfl rfl):Pure P σ o v:=h
theorem zT7 {v:Value} (h:Pure P σ o v:=by first | exact zWu rfl rfl | exact zTL rfl rfl):Pure P σ o v:=h
theorem zT8 {v:Value} (h:Pure P σ o v:=by first | exact zHO rfl rfl | exact zJD rfl rfl):Pure P σ o v:=h
theorem zT9 {v:Value} (h:Pure P σ o v:=by exact zL8 rfl rfl rfl):Pure P σ o v:=h
theorem zUA {v:Value} (h:Pure P σ o v:=by exact zKN rfl rfl rfl):Pure P σ o v:=h
theorem zUB {v:Value} (h:Pure P σ o v:=by exact zW8 rfl rfl):Pure P σ o v:=h
theorem zQR {v:Value} (h:Pure P σ o v:=by first | exact zYr rfl rfl rfl | exact zYs rfl rfl rfl | exact zYt rfl rfl rfl | exact zYu rfl rfl rfl | exact zYv rfl rfl rfl | exact zYw rfl rfl rfl | exact zW9 rfl rfl rfl | exact zXA rfl rfl rfl | exact zXB rfl rfl rfl | exact zXC rfl rfl rfl | exact zXG rfl rfl rfl | exact zXH rfl rfl rfl | exact zOd rfl rfl rfl | exact zOe rfl rfl rfl | exact zRI rfl rfl rfl | exact zRJ rfl rfl rfl | exact zXE rfl rfl rfl | exact zXF rfl rfl rfl):Pure P σ o v:=h
theorem zQS {v:Value} (h:Pure P σ o v:=by exact zKQ rfl rfl):Pure P σ o v:=h
theorem zQT {v:Value} (h:Pure P σ o v:=by exact zRK rfl rfl rfl rfl (by kernel_rfl)):Pure P σ o v:=h
theorem zQU {v:Value} (h:Pure P σ o v:=by first | exact q_len rfl rfl | exact zTY rfl rfl):Pure P σ o v:=h
theorem zQV {v:Value} (h:Pure P σ o v:=by exact zOc rfl rfl):Pure P σ o v:=h
theorem zNN {α:Type} {k:K} {vx:α→Value} {k1:α→K} (h:WP P σ o k vx k1:=by exact zTe rfl rfl):WP P σ o k vx k1:=h
theorem zNO {α:Type} {k:K} {vx:α→Value} {k1:α→K} (h:WP P σ o k vx k1:=by exact zOf (by first | exact zW4 rfl rfl | exact zW5 rfl rfl)):WP P σ o k vx k1:=h
theorem zNP {α:Type} {k:K} {vx:α→Value} {k1:α→K} (h:WP P σ o k vx k1:=by first | exact zOf (by first | exact zWv rfl rfl rfl | exact zWw rfl rfl rfl | exact zWx rfl rfl rfl | exact zW0 rfl rfl rfl | exact zYx rfl rfl rfl | exact zW1 rfl rfl rfl) | exact zTc rfl rfl rfl):WP P σ o k vx k1:=h
theorem zNQ {α:Type} {k:K} {vx:α→Value} {k1:α→K} (h:WP P σ o k vx k1:=by exact zRL (fun h0=>by first | exact zW2 rfl rfl rfl h0 | exact zW3 rfl rfl rfl h0 | exact zWy rfl rfl rfl h0 | exact zWz rfl rfl rfl h0)):WP P σ o k vx k1:=h
theorem zJy {α:Type} {k:K} {vx:α→Value} {k1:α→K} (h:WP P σ o k vx k1:=by exact zTd (zOo rfl rfl rfl)):WP P σ o k vx k1:=h
theorem zJz {α:Type} {k:K} {vx:α→Value} {k1:α→K} (h:WP P σ o k vx k1:=by exact zOf (zKR rfl rfl)):WP P σ o k vx k1:=h
theorem zJ0 {α:Type} {k:K} {vx:α→Value} {k1:α→K} (h:WP P σ o k vx k1:=by first | exact zTf rfl rfl rfl | exact zTd (zMB rfl rfl)):WP P σ o k vx k1:=h
theorem zJ1 {α:Type} {k:K} {vx:α→Value} {k1:α→K} (h:WP P σ o k vx k1:=by exact zOf (by first | exact zW6 _ rfl rfl rfl | exact zW7 _ rfl rfl rfl)):WP P σ o k vx k1:=h
theorem zJ2 {α:Type} {k:K} {vx:α→Value} {k1:α→K} (h:WP P σ o k vx k1:=by exact zTa rfl rfl):WP P σ o k vx k1:=h
theorem zJ3 {α:Type} {k:K} {vx:α→Value} {k1:α→K} (h:WP P σ o k vx k1:=by first | exact zTZ rfl rfl rfl | exact zRN rfl rfl rfl | exact zRM rfl rfl rfl):WP P σ o k vx k1:=h
theorem zJ4 {α:Type} {k:K} {vx:α→Value} {k1:α→K} (h:WP P σ o k vx k1:=by first | exact zTb rfl rfl (by first | exact rfl | exact ⟨_,rfl⟩) (by first | exact rfl | exact ⟨_,rfl⟩) (by first | exact rfl | exact ⟨_,rfl⟩) rfl | exact zRO rfl rfl (by first | exact rfl | exact ⟨_,rfl⟩) (by first | exact rfl | exact ⟨_,rfl⟩)):WP P σ o k vx k1:=h
theorem zHW {α:Type} {k:K} {vx:α→Value} {k1:α→K} (h:WR P σ o k vx k1:=by exact zGb (zCT rfl rfl)):WR P σ o k vx k1:=h
theorem zHX {α:Type} {k:K} {vx:α→Value} {k1:α→K} (h:WR P σ o k vx k1:=by first | exact zXI rfl rfl | exact zTg rfl rfl):WR P σ o k vx k1:=h
theorem zHY {α:Type} {k:K} {vx:α→Value} {k1:α→K} (h:WR P σ o k vx k1:=by exact zGb (zNG rfl rfl rfl)):WR P σ o k vx k1:=h
theorem zHZ {α:Type} {k:K} {vx:α→Value} {k1:α→K} (h:WR P σ o k vx k1:=by exact zGb (zNF rfl rfl)):WR P σ o k vx k1:=h
theorem zNR {α:Type} {k:K} {vx:α→Value} {k1:α→K} (h:WE P σ o k vx k1:=by exact zOj (zCT rfl rfl)):WE P σ o k vx k1:=h
theorem zNS {α:Type} {k:K} {vx:α→Value} {k1:α→K} (h:WE P σ o k vx k1:=by first | exact zTj rfl rfl rfl | exact zOh rfl rfl):WE P σ o k vx k1:=h
theorem zNT {α:Type} {k:K} {vx:α→Value} {k1:α→K} (h:WE P σ o k vx k1:=by first | exact zOi rfl rfl rfl rfl (by kernel_rfl) | exact zJE rfl rfl rfl (by kernel_rfl)):WE P σ o k vx k1:=h
theorem zF3 {α:Type} {k:K} {vx:α→Value} {k1:α→K} (h:WE P σ o k vx k1:=by exact zOj (by first | exact zL9 rfl rfl rfl rfl | exact zRQ rfl rfl rfl rfl | exact zMA rfl rfl rfl rfl | exact zTn rfl rfl rfl | exact zOl rfl rfl rfl)):WE P σ o k vx k1:=h
theorem zNU {α:Type} {k:K} {vx:α→Value} {k1:α→K} (h:WE P σ o k vx k1:=by exact zOj (by first | exact zKS rfl | exact zHP rfl rfl rfl)):WE P σ o k vx k1:=h
theorem zNV {α:Type} {k:K} {vx:α→Value} {k1:α→K} (h:WE P σ o k vx k1:=by exact zOj (by first | exact zRR rfl rfl rfl | exact zOm rfl rfl | exact zOn rfl rfl)):WE P σ o k vx k1:=h
theorem zNW {k k1:K} (h:WK P σ o k k1:=by first | exact zXK rfl rfl rfl | exact zTl rfl rfl rfl):WK P σ o k k1:=h
theorem zNX {k k1:K} (h:WK P σ o k k1:=by exact zXL (zHQ rfl rfl rfl rfl)):WK P σ o k k1:=h
theorem zHa {k:K} {kk:Value→K} (h:WC P σ o k kk:=by first | exact zRP rfl rfl rfl rfl | exact zOk rfl rfl rfl rfl | exact zXM rfl rfl rfl):WC P σ o k kk:=h
theorem zV9 {S:World→Prop} {α:Type} {k:K} {vx:α→Value} {k1:α→K} (h:WS P S σ o k vx k1:=by exact zOg (zCT rfl rfl)):WS P S σ o k vx k1:=h
theorem zWA {S:World→Prop} {α:Type} {k:K} {vx:α→Value} {k1:α→K} (h:WS P S σ o k vx k1:=by first | exact zXJ rfl rfl | exact zTh rfl rfl):WS P S σ o k vx k1:=h
theorem zWB {S:World→Prop} {α:Type} {k:K} {vx:α→Value} {k1:α→K} (h:WS P S σ o k vx k1:=by exact zOg (zNG rfl rfl rfl)):WS P S σ o k vx k1:=h
theorem zWC {S:World→Prop} {α:Type} {k:K} {vx:α→Value} {k1:α→K} (h:WS P S σ o k vx k1:=by exact zOg (zNF rfl rfl)):WS P S σ o k vx k1:=h
end
set_option maxRecDepth 100000 in
theorem zS {P:Program} {f:FuncId} {fn:Func} {c:Code} {args:List Value} {kk:Value→K} {k:K} (n:Nat) {w:World} (hk:k w) (hf:P.funcs[f]? = some fn) (hb:fn.body = some c:=by rfl) (hn:fn.ntmps = n:=by rfl) (hl:Nat.ble args.length n = true:=by rfl)
  (h:G [] n (zT0 0 args) k (Cx none P c (zBy P fn (Ret kk))):=by
   repeat' first
   | intro _
   | (refine zZS ?_; first
     | refine zXn ?_
     | (refine zZb ?_ rfl; first | refine zY9 ?_ | refine zXk ?_)
     | (refine zCA 0 ?_ rfl; refine zJX (hp:=by exact zT5) ?_)
     | (refine zCA 2 ?_ rfl; first | refine zJX (hp:=by exact zT7) ?_ | (refine zTr ?_; intro b hb; subst hb) | (refine zTs ?_; intro g fs cs hf cb; subst hf))
     | (refine zCA 3 ?_ rfl; refine zJX (hp:=by exact zT8) ?_)
     | (refine zCA 13 ?_ rfl; refine zKU (hp:=by exact zHX) ?_)
     | (refine zCA 19 ?_ rfl; first | (refine zZA (hp:=by exact zHa) ?_; intro u; first | refine zVp ?_ | refine zVo ?_ | refine zQP ?_ | refine zVq ?_ | refine zVr ?_ | refine zVs ?_) | refine zKU (hp:=by exact zGb (zXj rfl rfl rfl)) ?_ | (refine zXm (hp:=by exact zHa) ?_; intro u; first | refine zZC ?_ | refine zZD ?_ | refine zZE ?_ | skip) | (refine zZB ?_; intro u; first | refine zVp ?_ | refine zVo ?_ | refine zQP ?_ | refine zVq ?_ | refine zVr ?_ | refine zVs ?_))
     | (refine zCA 10 ?_ rfl; first | refine zJX (hp:=by exact zQR) ?_ | refine zFT (hp:=by exact zJy) ?_)
     | (refine zCA 8 ?_ rfl; refine zFT (hp:=by exact zNP) ?_)
     | (refine zCA 20 ?_ rfl; first | refine zJX (hp:=by exact zQU) ?_ | refine zKU (hp:=by exact zHY) ?_)
     | (refine zCA 27 ?_ rfl; refine zFT (hp:=by exact zJ3) ?_)
     | (refine zCA 4 ?_ rfl; first | refine zJX (hp:=by exact zT9) ?_ | refine zFT (hp:=by exact zNN) ?_)
     | (refine zCA 17 ?_ rfl; refine zXN (hp:=by exact zNW) ?_)
     | (refine zCA 1 ?_ rfl; refine zJX (hp:=by exact zT6) ?_)
     | (refine zCA 6 ?_ rfl; refine zJX (hp:=by exact zUB) ?_)
     | (refine zCA 15 ?_ rfl; refine zMC (hp:=by exact zNS) ?_)
     | (refine zCA 16 ?_ rfl; refine zMC (hp:=by exact zNT) ?_)
     | (refine zCA 22 ?_ rfl; first | refine zMC (hp:=by exact zF3) ?_ | refine zXl (hp:=by exact zF3) ?_)
     | (refine zCA 28 ?_ rfl; refine zFT (hp:=by exact zJ4) ?_)
     | (refine zCA 11 ?_ rfl; first | refine zFT (hp:=by exact zJz) ?_ | refine zJX (hp:=by exact zQS) ?_ | refine zKU (hp:=by exact zHW) ?_ | refine zMC (hp:=by exact zNR) ?_)
     | (refine zCA 26 ?_ rfl; first | refine zFT (hp:=by exact zJ2) ?_ | refine zJX (hp:=by exact zQV) ?_)
     | (refine zCA 12 ?_ rfl; first | refine zFT (hp:=by exact zJ0) ?_ | refine zJX (hp:=by exact zQT) ?_)
     | (refine zCA 5 ?_ rfl; refine zJX (hp:=by exact zUA) ?_)
     | (refine zCA 7 ?_ rfl; refine zFT (hp:=by exact zNO) ?_)
     | (refine zCA 9 ?_ rfl; refine zFT (hp:=by exact zNQ) ?_)
     | (refine zCA 14 ?_ rfl; first | refine zKU (hp:=by exact zGb (jM rfl rfl rfl)) ?_ | (refine zKU (hp:=by exact zIY (jM rfl rfl rfl)) ?_; intro u; refine zQP ?_))
     | (refine zCA 18 ?_ rfl; refine zXN (hp:=by exact zNX) ?_)
     | (refine zCA 21 ?_ rfl; refine zFT (hp:=by exact zJ1) ?_)
     | (refine zCA 23 ?_ rfl; refine zMC (hp:=by exact zNU) ?_)
     | (refine zCA 24 ?_ rfl; refine zMC (hp:=by exact zNV) ?_)
     | (refine zCA 25 ?_ rfl; refine zKU (hp:=by exact zHZ) ?_)
     | (refine zXo ?_ ?_ <;> (intro hb; refine zJx ?_; intro a w hs; try rw [hb] at hs; clear hb; revert hs; revert w; revert a; refine zNJ ?_)))
   | (refine zZT ?_; first
     | refine zXs ?_
     | (refine zYC ?_; first | (refine zVv ?_; (repeat apply zaT); refine And.intro zHU (And.intro ?_ ?_)) | refine zXq ?_)
     | refine zSZ ?_ ?_ rfl
     | refine zVw ?_
     | refine zXr ?_
     | refine zTu ?_
     | refine zVx ?_
     | refine zVz ?_
     | (refine zV7 ?_; first | refine zSQ ?_ | refine zSR ?_)
     | (refine zV8 ?_; first | refine zT2 ?_ | refine zT1 ?_ | refine zT3 ?_ | refine zT4 ?_)
     | refine zTt ?_
     | refine zSY ?_ ?_
     | refine zSX ?_ ?_ ?_
     | refine zHV ?_)
   | (refine zZU ?_; first
     | refine zV0 ?_
     | refine zST ?_
     | refine zSS ?_
     | refine zXu ?_
     | refine zTv ?_
     | refine zTw ?_
     | refine zTx ?_
     | refine zV1 ?_
     | refine zXw ?_
     | refine zXx ?_
     | exact zaf
     | exact zah
     | exact zai
     | refine zHV ?_)
   | exact zVt
   | refine zZF ?_
   | (refine zZV ?_; first
     | refine zXy ?_
     | refine zXz ?_
     | refine zV2 ?_
     | refine zTz ?_)
   | (refine zZW ?_; first
     | exact zaV
     | exact zaU
     | exact zaW
     | exact zaX
     | exact zaY
     | exact zaZ)
   | (refine zZX ?_; first
     | refine zX1 ?_
     | refine zX2 ?_
     | refine zaa ?_
     | (refine zV5 ?_ ?_ <;> (intro hb; refine zJx ?_; intro a w hs; try rw [hb] at hs; clear hb; revert hs; revert w; revert a; refine zNJ ?_))
     | (refine zX3 ?_ ?_ <;> (intro hb; refine zJx ?_; intro a w hs; try rw [hb] at hs; clear hb; revert hs; revert w; revert a; refine zNJ ?_))
     | (refine zYD ?_ rfl; first | refine zZG ?_ | refine zX0 ?_)
     | (refine zD1 0 ?_ rfl; refine zJY (hp:=by exact zT5) ?_)
     | (refine zD1 2 ?_ rfl; first | refine zJY (hp:=by exact zT7) ?_ | (refine zZH ?_; intro b hb; subst hb) | (refine zTr ?_; intro b hb; subst hb) | (refine zZI ?_; intro g fs cs hf cb; subst hf) | (refine zTs ?_; intro g fs cs hf cb; subst hf))
     | (refine zD1 3 ?_ rfl; refine zJY (hp:=by exact zT8) ?_)
     | (refine zD1 13 ?_ rfl; first | refine zME (hp:=by exact zHX) ?_ | refine zSV (hp:=by exact zWA) ?_)
     | (refine zD1 10 ?_ rfl; first | refine zJY (hp:=by exact zQR) ?_ | refine zDD (hp:=by exact zJy) ?_ | refine zFW (hp:=by exact zJy) ?_)
     | (refine zD1 8 ?_ rfl; first | refine zDD (hp:=by exact zNP) ?_ | refine zFW (hp:=by exact zNP) ?_)
     | (refine zD1 20 ?_ rfl; first | refine zJY (hp:=by exact zQU) ?_ | refine zME (hp:=by exact zHY) ?_ | refine zSV (hp:=by exact zWB) ?_)
     | (refine zD1 27 ?_ rfl; first | refine zDD (hp:=by exact zJ3) ?_ | refine zFW (hp:=by exact zJ3) ?_)
     | (refine zD1 4 ?_ rfl; first | refine zJY (hp:=by exact zT9) ?_ | refine zDD (hp:=by exact zNN) ?_ | refine zFW (hp:=by exact zNN) ?_)
     | (refine zD1 1 ?_ rfl; refine zJY (hp:=by exact zT6) ?_)
     | (refine zD1 6 ?_ rfl; refine zJY (hp:=by exact zUB) ?_)
     | (refine zD1 28 ?_ rfl; first | refine zDD (hp:=by exact zJ4) ?_ | refine zFW (hp:=by exact zJ4) ?_)
     | (refine zD1 11 ?_ rfl; first | refine zDD (hp:=by exact zJz) ?_ | refine zFW (hp:=by exact zJz) ?_ | refine zJY (hp:=by exact zQS) ?_ | refine zME (hp:=by exact zHW) ?_ | refine zSV (hp:=by exact zV9) ?_)
     | (refine zD1 26 ?_ rfl; first | refine zDD (hp:=by exact zJ2) ?_ | refine zFW (hp:=by exact zJ2) ?_ | refine zJY (hp:=by exact zQV) ?_)
     | (refine zD1 12 ?_ rfl; first | refine zDD (hp:=by exact zJ0) ?_ | refine zFW (hp:=by exact zJ0) ?_ | refine zJY (hp:=by exact zQT) ?_)
     | (refine zD1 5 ?_ rfl; refine zJY (hp:=by exact zUA) ?_)
     | (refine zD1 7 ?_ rfl; first | refine zDD (hp:=by exact zNO) ?_ | refine zFW (hp:=by exact zNO) ?_)
     | (refine zD1 9 ?_ rfl; first | refine zDD (hp:=by exact zNQ) ?_ | refine zFW (hp:=by exact zNQ) ?_)
     | (refine zD1 14 ?_ rfl; first | refine zME (hp:=by exact zGb (jM rfl rfl rfl)) ?_ | (refine zME (hp:=by exact zIY (jM rfl rfl rfl)) ?_; intro u; refine zNM ?_) | refine zSV (hp:=by exact zOg (jM rfl rfl rfl)) ?_ | (refine zSV (hp:=by exact zTi (jM rfl rfl rfl)) ?_; intro u; refine zNM ?_))
     | (refine zD1 21 ?_ rfl; first | refine zDD (hp:=by exact zJ1) ?_ | refine zFW (hp:=by exact zJ1) ?_)
     | (refine zD1 25 ?_ rfl; first | refine zME (hp:=by exact zHZ) ?_ | refine zSV (hp:=by exact zWC) ?_)
     | refine zHV ?_)
   | (refine zZY ?_; first
     | (refine zIa 13 ?_ rfl; first | refine zIZ (hp:=by exact zHX) ?_ | refine zMG (hp:=by exact zHX) ?_)
     | (refine zIa 19 ?_ rfl; first | (refine zZQ (hp:=by exact zHa) ?_; intro u; first | refine zX4 ?_ | refine zYE ?_ | refine zNM ?_) | (refine zab (hp:=by exact zHa) ?_; intro u; first | refine zVp ?_ | refine zVo ?_ | refine zQP ?_ | refine zVq ?_ | refine zVr ?_ | refine zVs ?_) | (refine zZL (hp:=by exact zHa) ?_; intro u; first | refine zZC ?_ | refine zZD ?_ | refine zZE ?_ | skip) | (refine zac ?_; intro u; first | refine zVp ?_ | refine zVo ?_ | refine zQP ?_ | refine zVq ?_ | refine zVr ?_ | refine zVs ?_))
     | (refine zIa 20 ?_ rfl; first | refine zIZ (hp:=by exact zHY) ?_ | refine zMG (hp:=by exact zHY) ?_)
     | (refine zIa 17 ?_ rfl; first | refine zXP (hp:=by exact zNW) ?_ | refine zZK (hp:=by exact zNW) ?_)
     | (refine zIa 15 ?_ rfl; first | refine zMF (hp:=by exact zNS) ?_ | refine zSW (hp:=by exact zNS) ?_)
     | (refine zIa 16 ?_ rfl; first | refine zMF (hp:=by exact zNT) ?_ | refine zSW (hp:=by exact zNT) ?_)
     | (refine zIa 22 ?_ rfl; first | refine zMF (hp:=by exact zF3) ?_ | refine zSW (hp:=by exact zF3) ?_ | refine zX8 (hp:=by exact zF3) ?_ | refine zZJ (hp:=by exact zF3) ?_)
     | (refine zIa 11 ?_ rfl; first | refine zMF (hp:=by exact zNR) ?_ | refine zSW (hp:=by exact zNR) ?_ | refine zIZ (hp:=by exact zHW) ?_ | refine zMG (hp:=by exact zHW) ?_)
     | (refine zIa 14 ?_ rfl; first | refine zIZ (hp:=by exact zGb (jM rfl rfl rfl)) ?_ | (refine zIZ (hp:=by exact zIY (jM rfl rfl rfl)) ?_; intro u; refine zNM ?_) | refine zMG (hp:=by exact zGb (jM rfl rfl rfl)) ?_ | (refine zMG (hp:=by exact zIY (jM rfl rfl rfl)) ?_; intro u; refine zQP ?_))
     | (refine zIa 18 ?_ rfl; first | refine zXP (hp:=by exact zNX) ?_ | refine zZK (hp:=by exact zNX) ?_)
     | (refine zIa 23 ?_ rfl; first | refine zMF (hp:=by exact zNU) ?_ | refine zSW (hp:=by exact zNU) ?_)
     | (refine zIa 24 ?_ rfl; first | refine zMF (hp:=by exact zNV) ?_ | refine zSW (hp:=by exact zNV) ?_)
     | (refine zIa 25 ?_ rfl; first | refine zIZ (hp:=by exact zHZ) ?_ | refine zMG (hp:=by exact zHZ) ?_)
     | refine zHV ?_)
   | refine zV6 ?_ ?_
   | refine zX5 ?_ ?_
   | exact zX6
   | refine zX7 ?_
   | (refine zZa ?_; exact zXt)
   | (refine zZZ ?_; first
     | refine zYA ?_
     | (refine zZc ?_ rfl; refine zZR ?_)
     | (refine zD0 0 ?_ rfl; refine zJZ (hp:=by exact zT5) ?_)
     | (refine zD0 2 ?_ rfl; first | refine zJZ (hp:=by exact zT7) ?_ | (refine zTr ?_; intro b hb; subst hb) | (refine zTs ?_; intro g fs cs hf cb; subst hf))
     | (refine zD0 3 ?_ rfl; refine zJZ (hp:=by exact zT8) ?_)
     | (refine zD0 13 ?_ rfl; refine zMH (hp:=by exact zHX) ?_)
     | (refine zD0 10 ?_ rfl; first | refine zJZ (hp:=by exact zQR) ?_ | refine zFX (hp:=by exact zJy) ?_)
     | (refine zD0 8 ?_ rfl; refine zFX (hp:=by exact zNP) ?_)
     | (refine zD0 20 ?_ rfl; first | refine zJZ (hp:=by exact zQU) ?_ | refine zMH (hp:=by exact zHY) ?_)
     | (refine zD0 27 ?_ rfl; refine zFX (hp:=by exact zJ3) ?_)
     | (refine zD0 4 ?_ rfl; first | refine zJZ (hp:=by exact zT9) ?_ | refine zFX (hp:=by exact zNN) ?_)
     | (refine zD0 1 ?_ rfl; refine zJZ (hp:=by exact zT6) ?_)
     | (refine zD0 6 ?_ rfl; refine zJZ (hp:=by exact zUB) ?_)
     | (refine zD0 28 ?_ rfl; refine zFX (hp:=by exact zJ4) ?_)
     | (refine zD0 11 ?_ rfl; first | refine zFX (hp:=by exact zJz) ?_ | refine zJZ (hp:=by exact zQS) ?_ | refine zMH (hp:=by exact zHW) ?_)
     | (refine zD0 26 ?_ rfl; first | refine zFX (hp:=by exact zJ2) ?_ | refine zJZ (hp:=by exact zQV) ?_)
     | (refine zD0 12 ?_ rfl; first | refine zFX (hp:=by exact zJ0) ?_ | refine zJZ (hp:=by exact zQT) ?_)
     | (refine zD0 5 ?_ rfl; refine zJZ (hp:=by exact zUA) ?_)
     | (refine zD0 7 ?_ rfl; refine zFX (hp:=by exact zNO) ?_)
     | (refine zD0 9 ?_ rfl; refine zFX (hp:=by exact zNQ) ?_)
     | (refine zD0 14 ?_ rfl; first | refine zMH (hp:=by exact zGb (jM rfl rfl rfl)) ?_ | (refine zMH (hp:=by exact zIY (jM rfl rfl rfl)) ?_; intro u; refine zQP ?_))
     | (refine zD0 21 ?_ rfl; refine zFX (hp:=by exact zJ1) ?_)
     | (refine zD0 25 ?_ rfl; refine zMH (hp:=by exact zHZ) ?_)
     | (refine zX9 ?_ ?_ <;> (intro hb; refine zJx ?_; intro a w hs; try rw [hb] at hs; clear hb; revert hs; revert w; revert a; refine zNJ ?_)))
   | refine zad ?_
   | refine zae ?_
   | exact zVu
   | refine zHV ?_) :
  zX P f args.toArray kk w:=zV4 n hk hf h hb hn hl
end
end Go.Sep
namespace Go.Proofs.YtgmbfnboiobeaaaGreat
section
open Go Go.Sep
abbrev j3:Nat:=3
abbrev zF:Nat:=5
abbrev jN:Nat:=9
abbrev zOt:Nat:=21
abbrev zL:Nat:=22
abbrev zKX:Nat:=32
abbrev jA:Nat:=41
abbrev zY:Nat:=56
abbrev jV:Nat:=60
abbrev zAw:Nat:=62
abbrev zKY:Nat:=65
abbrev zDE:Nat:=66
abbrev zHb:Nat:=68
abbrev zJF:Nat:=71
abbrev zBJ:Nat:=73
abbrev zBU:Nat:=75
abbrev zDF:Nat:=78
abbrev yL:Nat:=82
abbrev zAa:Nat:=85
abbrev zK:Nat:=93
abbrev zAx:Nat:=96
abbrev zAh:Nat:=97
abbrev zFE:Nat:=99
abbrev zZ:Nat:=101
abbrev zy:Nat:=104
abbrev z8:Nat:=107
abbrev xC:Nat:=110
abbrev zEh:Nat:=111
abbrev zGs:Nat:=113
abbrev zD:Nat:=116
abbrev yB:Nat:=127
abbrev zAK:Nat:=152
abbrev qI:Nat:=154
abbrev xG:Nat:=164
abbrev vU:Nat:=193
abbrev vo:Nat:=195
abbrev zBf:Nat:=202
abbrev zAU:Nat:=204
abbrev zBg:Nat:=217
abbrev zBV:Nat:=218
abbrev qg:Nat:=220
abbrev zB5:Nat:=227
abbrev zDA:Nat:=243
theorem zBz:zBx Tryz.prog j3 (.int .i64 0):=⟨Tryz.t3,by kernel_rfl,by kernel_rfl⟩
theorem zBh:zBx Tryz.prog zF (.int .u8 0):=⟨Tryz.t5,by kernel_rfl,by kernel_rfl⟩
theorem zKZ:zBx Tryz.prog jN (.string ⟨#[]⟩):=⟨Tryz.t9,by kernel_rfl,by kernel_rfl⟩
theorem zE2:zBx Tryz.prog zL (Sl.val ⟨none,0,0⟩):=⟨Tryz.t22,by kernel_rfl,by kernel_rfl⟩
theorem zGN:zBx Tryz.prog zBJ (.pointer none):=⟨Tryz.t73,by kernel_rfl,by kernel_rfl⟩
theorem zAp:zBx Tryz.prog zDF (.pointer none):=⟨Tryz.t78,by kernel_rfl,by kernel_rfl⟩
theorem zBi:zBx Tryz.prog zD (.agg #[(.string ⟨#[]⟩),(Sl.val ⟨none,0,0⟩),(.int .i64 0)]):=⟨Tryz.t116,by kernel_rfl,by kernel_rfl⟩
theorem mixed:Tryz.prog.follows .mixedOrders = true:=by kernel_rfl
end
section
open Go Go.Sep
def zH.call (a:Sl) (b:Int) (c:Sl) (k:Bool→K): K:=zX Tryz.prog 5 [Sl.val a,.int .i64 b,Sl.val c].toArray (qD Value.bool k)
def qd.call  (k:Bool→K): K:=zX Tryz.prog 6 [].toArray (qD Value.bool k)
def zAM.call (c:Int) (k:Pt→Int→K): K:=zX Tryz.prog 7 [.int .i64 c].toArray (jT (fun a b=>.tuple #[Value.pointer a,(Value.int .i64) b]) k)
def ji.call (a:Pt) (k:Int→K): K:=zX Tryz.prog 8 [.pointer a].toArray (qD (Value.int .i64) k)
def yR.call (c:Pt) (d:Sl) (f:Int) (k:Pt→Int→K): K:=zX Tryz.prog 9 [.pointer c,Sl.val d,.int .u64 f].toArray (jT (fun a b=>.tuple #[Value.pointer a,(Value.int .i64) b]) k)
def xu.call (a:Pt) (b:Sl) (k:Int→K): K:=zX Tryz.prog 10 [.pointer a,Sl.val b].toArray (qD (Value.int .i64) k)
def jP.call (a:Pt) (b:Int) (k:K): K:=zX Tryz.prog 11 [.pointer a,.int .i64 b].toArray (zAY (.tuple #[]) k)
def qF.call (a:Pt) (b:Sl) (k:Pt→K): K:=zX Tryz.prog 12 [.pointer a,Sl.val b].toArray (qD Value.pointer k)
def jO.call (c:Pt) (k:Sl→Int→K): K:=zX Tryz.prog 13 [.pointer c].toArray (jT (fun a b=>.tuple #[Sl.val a,(Value.int .i64) b]) k)
def yI.call (d:Pt) (f g i:Int) (k:Sl→Bool→Int→K): K:=zX Tryz.prog 14 [.pointer d,.int .i64 f,.int .u64 g,.int .i64 i].toArray (zCN (fun a b c=>.tuple #[Sl.val a,Value.bool b,(Value.int .i64) c]) k)
def vE.call (a:Pt) (k:Int→K): K:=zX Tryz.prog 15 [.pointer a].toArray (qD (Value.int .u64) k)
def vF.call (a:Pt) (k:Bool→K): K:=zX Tryz.prog 16 [.pointer a].toArray (qD Value.bool k)
def vv.call (a:Sl) (k:Bool→K): K:=zX Tryz.prog 17 [Sl.val a].toArray (qD Value.bool k)
def zCU.call (a:Int) (k:Pt→K): K:=zX Tryz.prog 18 [.int .i64 a].toArray (qD Value.pointer k)
def zBW.call (a:Pt) (k:Int→K): K:=zX Tryz.prog 19 [.pointer a].toArray (qD (Value.int .i64) k)
def yg.call (c:Pt) (d:Sl) (f:Int) (k:Pt→Int→K): K:=zX Tryz.prog 20 [.pointer c,Sl.val d,.int .u64 f].toArray (jT (fun a b=>.tuple #[Value.pointer a,(Value.int .i64) b]) k)
def xU.call (a b:Pt) (k:Bool→K): K:=zX Tryz.prog 21 [.pointer a,.pointer b].toArray (qD Value.bool k)
def uJ.call (a:Pt) (b:Int) (k:K): K:=zX Tryz.prog 22 [.pointer a,.int .i64 b].toArray (zAY (.tuple #[]) k)
def y7.call (a:Pt) (b:Sl) (k:Pt→K): K:=zX Tryz.prog 23 [.pointer a,Sl.val b].toArray (qD Value.pointer k)
def yT.call (a b:Pt) (c:Av) (k:Bool→K): K:=zX Tryz.prog 24 [.pointer a,.pointer b,.agg c].toArray (qD Value.bool k)
def vR.call (a:Pt) (b:ByteArray) (c:Sl) (k:Int→K): K:=zX Tryz.prog 25 [.pointer a,.string b,Sl.val c].toArray (qD (Value.int .i64) k)
def vW.call (a:Int) (b:Bool) (k:Sl→K): K:=zX Tryz.prog 26 [.int .u64 a,.bool b].toArray (qD Sl.val k)
def za.call (a:Pt) (b:Int) (k:Int→K): K:=zX Tryz.prog 27 [.pointer a,.int .u64 b].toArray (qD (Value.int .i64) k)
def qK.call (a:Pt) (b:Int) (k:Int→K): K:=zX Tryz.prog 28 [.pointer a,.int .i64 b].toArray (qD (Value.int .i64) k)
def j4.call (a:Pt) (k:Sl→K): K:=zX Tryz.prog 29 [.pointer a].toArray (qD Sl.val k)
def yw.call (a:Sl) (k:Sl→K): K:=zX Tryz.prog 30 [Sl.val a].toArray (qD Sl.val k)
def zBA.call (c:Pt) (d:ByteArray) (k:Sl→Int→K): K:=zX Tryz.prog 31 [.pointer c,.string d].toArray (jT (fun a b=>.tuple #[Sl.val a,(Value.int .i64) b]) k)
def qA.call (a:Pt) (k:Int→K): K:=zX Tryz.prog 32 [.pointer a].toArray (qD (Value.int .u64) k)
def je.call (a:Pt) (b:Int) (k:K): K:=zX Tryz.prog 33 [.pointer a,.int .u8 b].toArray (zAY (.tuple #[]) k)
def xJ.call (a:Pt) (b:Int) (k:K): K:=zX Tryz.prog 34 [.pointer a,.int .u64 b].toArray (zAY (.tuple #[]) k)
def u6.call (a b:Pt) (k:Int→K): K:=zX Tryz.prog 35 [.pointer a,.pointer b].toArray (qD (Value.int .i64) k)
def qE.call (c:Pt) (d f:Int) (k:Sl→Bool→K): K:=zX Tryz.prog 36 [.pointer c,.int .u64 d,.int .i64 f].toArray (jT (fun a b=>.tuple #[Sl.val a,Value.bool b]) k)
def xB.call (a:Pt) (b:ByteArray) (c:Sl) (k:Int→K): K:=zX Tryz.prog 37 [.pointer a,.string b,Sl.val c].toArray (qD (Value.int .i64) k)
def zBK.call (a b:Int) (k:Sl→K): K:=zX Tryz.prog 38 [.int .u64 a,.int .u8 b].toArray (qD Sl.val k)
def zu.call (a:Pt) (b:Int) (k:Int→K): K:=zX Tryz.prog 39 [.pointer a,.int .u64 b].toArray (qD (Value.int .i64) k)
def zw.call (c:Pt) (d:ByteArray) (f:Int) (k:Pt→Int→K): K:=zX Tryz.prog 40 [.pointer c,.string d,.int .i64 f].toArray (jT (fun a b=>.tuple #[Value.pointer a,(Value.int .i64) b]) k)
def qX.call (a:Pt) (b:Sl) (k:Bool→K): K:=zX Tryz.prog 41 [.pointer a,Sl.val b].toArray (qD Value.bool k)
def jk.call (c:Pt) (d:ByteArray) (k:Sl→Int→K): K:=zX Tryz.prog 42 [.pointer c,.string d].toArray (jT (fun a b=>.tuple #[Sl.val a,(Value.int .i64) b]) k)
def uw.call (c:Pt) (d:ByteArray) (k:Sl→Int→K): K:=zX Tryz.prog 43 [.pointer c,.string d].toArray (jT (fun a b=>.tuple #[Sl.val a,(Value.int .i64) b]) k)
def yF.call (d:Pt) (f g i:Int) (k:Sl→Bool→Int→K): K:=zX Tryz.prog 44 [.pointer d,.int .i64 f,.int .u64 g,.int .i64 i].toArray (zCN (fun a b c=>.tuple #[Sl.val a,Value.bool b,(Value.int .i64) c]) k)
def uQ.call (a b:Sl) (k:Bool→K): K:=zX Tryz.prog 45 [Sl.val a,Sl.val b].toArray (qD Value.bool k)
def zBL.call (c:Pt) (d:ByteArray) (k:Sl→Int→K): K:=zX Tryz.prog 46 [.pointer c,.string d].toArray (jT (fun a b=>.tuple #[Sl.val a,(Value.int .i64) b]) k)
def yh.call (c:Pt) (d:Int) (f:Av) (k:Bool→Int→K): K:=zX Tryz.prog 47 [.pointer c,.int .i64 d,.agg f].toArray (jT (fun a b=>.tuple #[Value.bool a,(Value.int .i64) b]) k)
def yN.call (c:Pt) (d:Int) (f:Av) (k:Bool→Int→K): K:=zX Tryz.prog 48 [.pointer c,.int .i64 d,.agg f].toArray (jT (fun a b=>.tuple #[Value.bool a,(Value.int .i64) b]) k)
def vZ.call (a:Pt) (b:Int) (k:Int→K): K:=zX Tryz.prog 49 [.pointer a,.int .i64 b].toArray (qD (Value.int .u64) k)
def uY.call (a:Pt) (b:Int) (k:Int→K): K:=zX Tryz.prog 50 [.pointer a,.int .i64 b].toArray (qD (Value.int .u64) k)
def yY.call (a:Pt) (b:ByteArray) (k:Int→K): K:=zX Tryz.prog 51 [.pointer a,.string b].toArray (qD (Value.int .i64) k)
def yK.call (a:Pt) (b:ByteArray) (c:Sl) (k:Int→K): K:=zX Tryz.prog 52 [.pointer a,.string b,Sl.val c].toArray (qD (Value.int .i64) k)
def zCV.call (a:Sl) (k:Sl→K): K:=zX Tryz.prog 53 [Sl.val a].toArray (qD Sl.val k)
def y8.call (a:Pt) (b:ByteArray) (k:Int→K): K:=zX Tryz.prog 54 [.pointer a,.string b].toArray (qD (Value.int .i64) k)
def zW.call (a:Pt) (b c:ByteArray) (k:Int→K): K:=zX Tryz.prog 55 [.pointer a,.string b,.string c].toArray (qD (Value.int .i64) k)
def jI.call (a:Pt) (k:Sl→K): K:=zX Tryz.prog 56 [.pointer a].toArray (qD Sl.val k)
def zBM.call (a:Sl) (k:Pt→K): K:=zX Tryz.prog 57 [Sl.val a].toArray (qD Value.pointer k)
def yC.call (c:Pt) (k:Int→Int→K): K:=zX Tryz.prog 58 [.pointer c].toArray (jT (fun a b=>.tuple #[(Value.int .u64) a,(Value.int .i64) b]) k)
def jf.call (c:Pt) (k:Int→Int→K): K:=zX Tryz.prog 59 [.pointer c].toArray (jT (fun a b=>.tuple #[(Value.int .u8) a,(Value.int .i64) b]) k)
def zAb.call (a:Pt) (k:Int→K): K:=zX Tryz.prog 60 [.pointer a].toArray (qD (Value.int .i64) k)
def zAN.call (c:Pt) (d:ByteArray) (f:Int) (k:Pt→Int→K): K:=zX Tryz.prog 61 [.pointer c,.string d,.int .i64 f].toArray (jT (fun a b=>.tuple #[Value.pointer a,(Value.int .i64) b]) k)
def uV.call  (k:Pt→K): K:=zX Tryz.prog 62 [].toArray (qD Value.pointer k)
def uE.call (a:Pt) (k:Sl→K): K:=zX Tryz.prog 63 [.pointer a].toArray (qD Sl.val k)
def ze.call (a:Pt) (b:Sl) (k:Bool→K): K:=zX Tryz.prog 64 [.pointer a,Sl.val b].toArray (qD Value.bool k)
def jB.call (a:Value) (k:Sl→K): K:=zX Tryz.prog 65 [a].toArray (qD Sl.val k)
def yV.call (a:(Option Nat)) (k:Value→K): K:=zX Tryz.prog 66 [.map a].toArray (qD id k)
def qx.call (c:Sl) (k:Sl→Int→K): K:=zX Tryz.prog 67 [Sl.val c].toArray (jT (fun a b=>.tuple #[Sl.val a,(Value.int .i64) b]) k)
def qJ.call (a:Pt) (b:Sl) (k:Int→K): K:=zX Tryz.prog 68 [.pointer a,Sl.val b].toArray (qD (Value.int .i64) k)
def zAy.call (a:Pt) (k:Int→K): K:=zX Tryz.prog 69 [.pointer a].toArray (qD (Value.int .i64) k)
def qW.call (a:Pt) (b:Int) (k:Value→K): K:=zX Tryz.prog 70 [.pointer a,.int .i64 b].toArray (qD id k)
def uW.call (a:Pt) (b:ByteArray) (k:Int→K): K:=zX Tryz.prog 71 [.pointer a,.string b].toArray (qD (Value.int .i64) k)
def zq.call (a:Pt) (b:ByteArray) (c:Sl) (k:Int→K): K:=zX Tryz.prog 72 [.pointer a,.string b,Sl.val c].toArray (qD (Value.int .i64) k)
def uR.call (a:Sl) (k:Sl→K): K:=zX Tryz.prog 73 [Sl.val a].toArray (qD Sl.val k)
def jQ.call (a:Pt) (b:ByteArray) (k:Int→K): K:=zX Tryz.prog 74 [.pointer a,.string b].toArray (qD (Value.int .i64) k)
def xD.call (a:Pt) (b c:ByteArray) (k:Int→K): K:=zX Tryz.prog 75 [.pointer a,.string b,.string c].toArray (qD (Value.int .i64) k)
def uK.call (a:Int) (k:Sl→K): K:=zX Tryz.prog 76 [.int .u64 a].toArray (qD Sl.val k)
def zf.call (c:Pt) (k:Int→Int→K): K:=zX Tryz.prog 77 [.pointer c].toArray (jT (fun a b=>.tuple #[(Value.int .u64) a,(Value.int .i64) b]) k)
def jl.call (c:Pt) (k:Int→Int→K): K:=zX Tryz.prog 78 [.pointer c].toArray (jT (fun a b=>.tuple #[(Value.int .u8) a,(Value.int .i64) b]) k)
def uf.call (a:Pt) (k:Int→K): K:=zX Tryz.prog 79 [.pointer a].toArray (qD (Value.int .i64) k)
def xX.call (a:Pt) (b:ByteArray) (k:Int→K): K:=zX Tryz.prog 80 [.pointer a,.string b].toArray (qD (Value.int .i64) k)
def vN.call (a:Pt) (b:Int) (k:ByteArray→K): K:=zX Tryz.prog 81 [.pointer a,.int .i64 b].toArray (qD Value.string k)
def zAL.call (d:Sl) (k:Sl→Int→Int→K): K:=zX Tryz.prog 82 [Sl.val d].toArray (zCN (fun a b c=>.tuple #[Sl.val a,(Value.int .i64) b,(Value.int .i64) c]) k)
def qY.call (a:Pt) (b:ByteArray) (c:Int) (k:Int→K): K:=zX Tryz.prog 83 [.pointer a,.string b,.int .i64 c].toArray (qD (Value.int .i64) k)
def uS.call (c:Pt) (d f:Int) (k:Sl→Bool→K): K:=zX Tryz.prog 84 [.pointer c,.int .u64 d,.int .i64 f].toArray (jT (fun a b=>.tuple #[Sl.val a,Value.bool b]) k)
def zAq.call (c:Pt) (k:Sl→Int→K): K:=zX Tryz.prog 85 [.pointer c].toArray (jT (fun a b=>.tuple #[Sl.val a,(Value.int .i64) b]) k)
def qb.call (a:Pt) (b:Av) (k:Bool→K): K:=zX Tryz.prog 86 [.pointer a,.agg b].toArray (qD Value.bool k)
def ug.call (c:Pt) (d:ByteArray) (k:Pt→Int→K): K:=zX Tryz.prog 87 [.pointer c,.string d].toArray (jT (fun a b=>.tuple #[Value.pointer a,(Value.int .i64) b]) k)
def uF.call (c:Pt) (d:ByteArray) (k:Int→Int→K): K:=zX Tryz.prog 88 [.pointer c,.string d].toArray (jT (fun a b=>.tuple #[(Value.int .i64) a,(Value.int .i64) b]) k)
def xS.call (a:Pt) (b:Int) (k:Int→K): K:=zX Tryz.prog 89 [.pointer a,.int .i64 b].toArray (qD (Value.int .i64) k)
def jK.call (a:Pt) (b:Int) (c:Sl) (k:Int→K): K:=zX Tryz.prog 90 [.pointer a,.int .i64 b,Sl.val c].toArray (qD (Value.int .i64) k)
def yU.call (c:Sl) (k:Sl→Int→K): K:=zX Tryz.prog 91 [Sl.val c].toArray (jT (fun a b=>.tuple #[Sl.val a,(Value.int .i64) b]) k)
def zBB.call (a:Pt) (b:Sl) (k:K): K:=zX Tryz.prog 92 [.pointer a,Sl.val b].toArray (zAY (.tuple #[]) k)
def yO.call (a:Pt) (b:Av) (k:Bool→K): K:=zX Tryz.prog 93 [.pointer a,.agg b].toArray (qD Value.bool k)
def zCW.call (a:Sl) (k:Sl→K): K:=zX Tryz.prog 94 [Sl.val a].toArray (qD Sl.val k)
def qL.call (a:Pt) (k:Int→K): K:=zX Tryz.prog 95 [.pointer a].toArray (qD (Value.int .i64) k)
def jY.call (a:ByteArray) (k:Bool→K): K:=zX Tryz.prog 96 [.string a].toArray (qD Value.bool k)
def uh.call (a:Pt) (k:Int→K): K:=zX Tryz.prog 97 [.pointer a].toArray (qD (Value.int .i64) k)
def zAz.call (c:Sl) (k:Sl→Int→K): K:=zX Tryz.prog 98 [Sl.val c].toArray (jT (fun a b=>.tuple #[Sl.val a,(Value.int .i64) b]) k)
def qH.call (a:Sl) (b:Int) (k:Value→K): K:=zX Tryz.prog 99 [Sl.val a,.int .i64 b].toArray (qD id k)
def yD.call (a:Pt) (k:Int→K): K:=zX Tryz.prog 100 [.pointer a].toArray (qD (Value.int .i64) k)
def vG.call  (k:Pt→K): K:=zX Tryz.prog 101 [].toArray (qD Value.pointer k)
def qp.call (c:Pt) (k:Sl→Int→K): K:=zX Tryz.prog 102 [.pointer c].toArray (jT (fun a b=>.tuple #[Sl.val a,(Value.int .i64) b]) k)
def uZ.call (a:Value) (k:Sl→K): K:=zX Tryz.prog 103 [a].toArray (qD Sl.val k)
def jE.call (a:Sl) (k:K): K:=zX Tryz.prog 104 [Sl.val a].toArray (zAY (.tuple #[]) k)
def zx.call (a:Value) (b:Addr) (k:K): K:=zX Tryz.prog 105 [a,(.pointer (some b))].toArray (zAY (.tuple #[]) k)
def zAc.call (d:Sl) (k:Sl→Int→Int→K): K:=zX Tryz.prog 106 [Sl.val d].toArray (zCN (fun a b c=>.tuple #[Sl.val a,(Value.int .i64) b,(Value.int .i64) c]) k)
def y9.call (a b:Sl) (k:Bool→K): K:=zX Tryz.prog 107 [Sl.val a,Sl.val b].toArray (qD Value.bool k)
def jg.call (a:Pt) (b:Int) (k:ByteArray→K): K:=zX Tryz.prog 108 [.pointer a,.int .i64 b].toArray (qD Value.string k)
def xZ.call (a:Value) (b c:Addr) (k:K): K:=zX Tryz.prog 109 [a,(.pointer (some b)),(.pointer (some c))].toArray (zAY (.tuple #[]) k)
def zG.call (a b:Pt) (c:Value) (k:Bool→K): K:=zX Tryz.prog 110 [.pointer a,.pointer b,c].toArray (qD Value.bool k)
def qz.call (a:Pt) (k:Bool→K): K:=zX Tryz.prog 111 [.pointer a].toArray (qD Value.bool k)
def qG.call (a:Pt) (b:ByteArray) (k:K): K:=zX Tryz.prog 112 [.pointer a,.string b].toArray (zAY (.tuple #[]) k)
def xw.call (a:Pt) (k:Int→K): K:=zX Tryz.prog 113 [.pointer a].toArray (qD (Value.int .i64) k)
def yG.call (a:Pt) (b:Av) (k:K): K:=zX Tryz.prog 114 [.pointer a,.agg b].toArray (zAY (.tuple #[]) k)
def jC.call (c:Sl) (k:Sl→Int→K): K:=zX Tryz.prog 115 [Sl.val c].toArray (jT (fun a b=>.tuple #[Sl.val a,(Value.int .i64) b]) k)
def yZ.call (a:Pt) (b:Int) (k:Sl→K): K:=zX Tryz.prog 116 [.pointer a,.int .i64 b].toArray (qD Sl.val k)
def yt.call (a:Pt) (b:Sl) (k:Int→K): K:=zX Tryz.prog 117 [.pointer a,Sl.val b].toArray (qD (Value.int .i64) k)
def zAO.call (a:Pt) (k:Int→K): K:=zX Tryz.prog 118 [.pointer a].toArray (qD (Value.int .i64) k)
def zN.call (c:Pt) (d:Int) (f:Av) (k:Av→Bool→K): K:=zX Tryz.prog 119 [.pointer c,.int .i64 d,.agg f].toArray (jT (fun a b=>.tuple #[Value.agg a,Value.bool b]) k)
def zB0.call (a:Sl) (k:Int→K): K:=zX Tryz.prog 120 [Sl.val a].toArray (qD (Value.int .u32) k)
def qj.call (a:Value) (b c:Addr) (k:K): K:=zX Tryz.prog 121 [a,(.pointer (some b)),(.pointer (some c))].toArray (zAY (.tuple #[]) k)
def xY.call (a:Pt) (b:Sl) (k:Int→K): K:=zX Tryz.prog 122 [.pointer a,Sl.val b].toArray (qD (Value.int .i64) k)
def zh.call (a:Pt) (b:ByteArray) (c:Int) (k:Int→K): K:=zX Tryz.prog 123 [.pointer a,.string b,.int .i64 c].toArray (qD (Value.int .i64) k)
def xV.call (a:Sl) (b:Value) (k:Sl→K): K:=zX Tryz.prog 124 [Sl.val a,b].toArray (qD Sl.val k)
def zCr.call (a:Sl) (b c d:Int) (k:K): K:=zX Tryz.prog 125 [Sl.val a,.int .i64 b,.int .i64 c,.int .i64 d].toArray (zAY (.tuple #[]) k)
def zLi.call (a:Int) (k:Int→K): K:=zX Tryz.prog 126 [.int .u64 a].toArray (qD (Value.int .i64) k)
def yX.call (c:Pt) (d:Int) (k:Int→Bool→K): K:=zX Tryz.prog 127 [.pointer c,.int .i64 d].toArray (jT (fun a b=>.tuple #[(Value.int .i64) a,Value.bool b]) k)
def yS.call (a:Sl) (k:Int→K): K:=zX Tryz.prog 128 [Sl.val a].toArray (qD (Value.int .u32) k)
def zAP.call (a:Pt) (b:Int) (k:Int→K): K:=zX Tryz.prog 129 [.pointer a,.int .i64 b].toArray (qD (Value.int .i64) k)
def zQ.call (f:Pt) (g:Av) (k:Av→Bool→Pt→Pt→K): K:=zX Tryz.prog 130 [.pointer f,.agg g].toArray (zDC (fun a b c d=>.tuple #[Value.agg a,Value.bool b,Value.pointer c,Value.pointer d]) k)
def jD.call (a:Sl) (k:Int→K): K:=zX Tryz.prog 131 [Sl.val a].toArray (qD (Value.int .u32) k)
def zA.call (c:Sl) (d:Int) (f:Value) (k:Int→Bool→K): K:=zX Tryz.prog 143 [Sl.val c,.int .i64 d,f].toArray (jT (fun a b=>.tuple #[(Value.int .i64) a,Value.bool b]) k)
def xP.call (a:Av) (b:Int) (k:Int→K): K:=zX Tryz.prog 144 [.agg a,.int .i64 b].toArray (qD (Value.int .i64) k)
def cmp_Compare_int.call (a b:Int) (k:Int→K): K:=zX Tryz.prog 145 [.int .i64 a,.int .i64 b].toArray (qD (Value.int .i64) k)
def zV.call (a:Sl) (b:Int) (c:Sl) (k:Sl→K): K:=zX Tryz.prog 146 [Sl.val a,.int .i64 b,Sl.val c].toArray (qD Sl.val k)
def zi.call (a:Sl) (b:Int) (c:Sl) (k:Sl→K): K:=zX Tryz.prog 147 [Sl.val a,.int .i64 b,Sl.val c].toArray (qD Sl.val k)
def zn.call (a:Sl) (k:Sl→K): K:=zX Tryz.prog 148 [Sl.val a].toArray (qD Sl.val k)
def zo.call (a:Sl) (k:Sl→K): K:=zX Tryz.prog 149 [Sl.val a].toArray (qD Sl.val k)
def cmp_isNaN_int.call (a:Int) (k:Bool→K): K:=zX Tryz.prog 156 [.int .i64 a].toArray (qD Value.bool k)
def uH.call (a:Sl) (b:Int) (k:K): K:=zX Tryz.prog 158 [Sl.val a,.int .i64 b].toArray (zAY (.tuple #[]) k)
def uI.call (a:Sl) (b:Int) (k:K): K:=zX Tryz.prog 160 [Sl.val a,.int .i64 b].toArray (zAY (.tuple #[]) k)
def uO.call (a:Sl) (b:Int) (k:K): K:=zX Tryz.prog 162 [Sl.val a,.int .i64 b].toArray (zAY (.tuple #[]) k)
def uP.call (a:Sl) (b:Int) (k:K): K:=zX Tryz.prog 163 [Sl.val a,.int .i64 b].toArray (zAY (.tuple #[]) k)
def zT.call (a:Sl) (k:K): K:=zX Tryz.prog 164 [Sl.val a].toArray (zAY (.tuple #[]) k)
def zU.call (a:Sl) (k:K): K:=zX Tryz.prog 165 [Sl.val a].toArray (zAY (.tuple #[]) k)
end
end Go.Proofs.YtgmbfnboiobeaaaGreat
namespace Go.Sep
section
open Go Go.RowKit
def zMJ (P:Program) (U:TypeId):Bool:=match P.underlying U with | some (.slice _)=>true | _=>false
def zIb (P:Program) (E n:Nat):Bool:=(P.info? E).map (·.bytes) == some n
theorem zMK (need:Nat):∀ (r c:Nat),Builtin.growBy need r c ≤ max c (need + (need + 768) / 4)
 | 0,c=>by simp only [Builtin.growBy]; omega
 | r + 1,c=>by
  simp only [Builtin.growBy]
  split
  ·omega
  ·have:=zMK need r (c + (c + 768) / 4); omega
theorem zKa {need c:Nat} (h:c < need):Builtin.nextslicecap need c ≤ 2 * need + 800:=by
 unfold Builtin.nextslicecap
 split
 ·omega
 ·split
  ·omega
  ·have:=zMK need 4 c; omega
theorem fold_size:∀ (us:List Value) (o:Nat) (cs:Array Value),((us.zipIdx o).foldl (fun c p=>c.setIfInBounds p.2 p.1) cs).size = cs.size
 | [],o,cs=>rfl
 | u::us,o,cs=>by simp only [List.zipIdx_cons,List.foldl_cons]; rw [fold_size us (o + 1)]; simp
theorem zDG:∀ (us:List Value) (o:Nat) (cs:Array Value) (j:Nat),j < o∨o + us.length ≤ j→((us.zipIdx o).foldl (fun c p=>c.setIfInBounds p.2 p.1) cs)[j]? = cs[j]?
 | [],o,cs,j,_=>rfl
 | u::us,o,cs,j,h=>by
  simp only [List.zipIdx_cons,List.foldl_cons]
  simp only [List.length_cons] at h
  rw [zDG us (o + 1) _ j (by omega),Array.getElem?_setIfInBounds_ne (by omega)]
theorem zJ5:∀ (us:List Value) (o:Nat) (cs:Array Value) (j:Nat),j < us.length→o + us.length ≤ cs.size→((us.zipIdx o).foldl (fun c p=>c.setIfInBounds p.2 p.1) cs)[o + j]? = us[j]?
 | [],o,cs,j,h,_=>by simp at h
 | u::us,o,cs,0,h,hs=>by
  simp only [List.zipIdx_cons,List.foldl_cons,List.length_cons] at hs ⊢
  rw [zDG us (o + 1) _ (o + 0) (by omega)]
  have:o < cs.size:=by omega
  simp [this]
 | u::us,o,cs,j + 1,h,hs=>by
  simp only [List.zipIdx_cons,List.foldl_cons,List.length_cons] at h hs ⊢
  rw [show o + (j + 1) = (o + 1) + j by omega,zJ5 us (o + 1) _ j (by omega) (by simp; omega)]
  simp
section
variable {P:Program} {B w:World} {Γ:List zB}
theorem zBN {x:Sl} {esz:Nat} {us:List Value} (h:RdC w x esz us):(Builtin.firstCells esz x.n x.val).run P w = .ok us.toArray w:=by
 obtain ⟨a,n,c⟩:=x
 cases a with
 | none=>
  have h1:=h.nil rfl
  have h2:=h.len
  simp only at h1; subst h1
  simp at h2; subst h2
  simp [Builtin.firstCells]
 | some a=>
  have h2:=h.len
  have h3:RdN w a us.toArray:=fun i hi=>by
   have:=h.at' a rfl i (by simpa using hi)
   simpa using this
  have:=run_loadCells (P:=P) h3
  simp only [List.size_toArray,h2] at this
  simp only [Builtin.firstCells]
  exact this
theorem run_askRoom (n:Nat):(askRoom n).run P w = .ok () w:=by
 unfold askRoom
 split
 ·simp [mark,Sem.run]
 ·rfl
theorem zJG {E n:Nat} (h:zIb P E n = true):∃ i,P.info? E = some i∧i.bytes = n:=by
 unfold zIb at h
 cases hi:P.info? E with
 | none=>simp [hi] at h
 | some i=>exact ⟨i,rfl,by simpa [hi] using h⟩
theorem zQW {T U E esz by' Tr:Nat} {s x:Sl} {vs us:List Value} {zv:Value} (h:Holds B (SlC E esz s vs::Γ) w) (hT:sliceT P T E esz = true) (hU:zMJ P U = true) (hby:zIb P E by' = true)
  (hz:zBx P E zv) (hzs:zv.cells.size = esz) (hx:RdC w x esz us) (hfl:∀ u ∈ us,qC u = true) (hroom:(2 * (s.n + x.n) + 800) * by' ≤ 2 ^ 48) (hb0:by' ≠ 0) :
  ∃ s' w',(Builtin.append_ #[T,U] Tr #[s.val,x.val]).run P w = .ok s'.val w'∧Holds B (SlC E esz s' (vs++us)::Γ) w'∧s'.n = s.n + x.n∧(s.a.isSome = true→s'.a.isSome = true)∧(s.n + x.n ≤ s.c→s' = ⟨s.a,s.n + x.n,s.c⟩):=by
 obtain ⟨hsl,hsz⟩:=zAI hT
 obtain ⟨ib,hib,hbytes⟩:=zJG hby
 have hti:(typeInfo E).run P w = .ok ib w:=by simp [typeInfo,program,hib,Sem.run]
 have hU':∃ e,P.underlying U = some (.slice e):=by
  unfold zMJ at hU; split at hU
  ·rename_i e he; exact ⟨e,he⟩
  ·cases hU
 obtain ⟨e,hU'⟩:=hU'
 have hrs:=h.rdC (List.mem_cons_self ..)
 have hfc:=zBN (P:=P) hx
 have hulen:=hx.len
 unfold Builtin.append_
 have hget:(#[T,U]:Array TypeId)[0]? = some T:=rfl
 have hget1:(#[T,U]:Array TypeId)[1]? = some U:=rfl
 have hv0:(#[s.val,x.val]:Array Value)[0]? = some s.val:=rfl
 have hv1:(#[s.val,x.val]:Array Value)[1]? = some x.val:=rfl
 simp only [hget,hget1,hv0,hv1]
 simp only [Sem.run_bind,run_underlying hsl,Result.andThen,Sl.val,jJ hsz,run_underlying hU',Sem.run_pure,Builtin.lenOf,Bool.false_eq_true,if_false,Bool.not_false,if_true]
 by_cases hn:s.n + x.n ≤ s.c
 ·simp only [hn,if_true]
  simp only [Sem.run_bind,hfc,Result.andThen]
  obtain ⟨sa,sn,sc⟩:=s
  cases sa with
  | none=>
   have h1:=h.fact (p:=sc = 0∧vs.length = sn * esz∧sn ≤ sc) (fun _ ha=>⟨ha.2.2,ha.1,ha.2.1⟩)
   simp only at hn
   have hxn:x.n = 0:=by omega
   have hus:us = []:=by rw [hxn] at hulen; simpa using hulen
   refine ⟨⟨none,sn + x.n,sc⟩,w,by simp,?_,rfl,fun h=>h,fun _=>rfl⟩
   subst hus
   rw [hxn]
   simpa using h
  | some a=>
   obtain ⟨hl,hc,hsp,cs,fz,hcond⟩:vs.length = sn * esz∧sn ≤ sc∧a.spot = none∧∃ cs fz,(w.heap[a.block]? = some (.cells cs E fz))∧(∀ i,a.off ≤ i→i < a.off + sc * esz→¬ (fz.1 ≤ i∧i < fz.2))∧a.off + sc * esz ≤ cs.size∧∀ i,i < vs.length→cs[a.off + i]? = vs[i]?:=by
    obtain ⟨_,h1,h2,⟨hl,hc,hsp,cs,fz,hb,hf,hsz,hv⟩,_,l1,_,_⟩:=h
    exact ⟨hl,hc,hsp,cs,fz,zIV l1 hb,hf,hsz,hv⟩
   obtain ⟨hb,hf,hcap,hv⟩:=hcond
   obtain ⟨b,off,sp⟩:=a
   simp only at hsp hb hf hcap hv; subst hsp
   simp only at hn
   have hmul:sn * esz + us.length ≤ sc * esz:=by rw [hulen,← Nat.add_mul]; exact Nat.mul_le_mul_right _ hn
   have hst:(storeCells ((⟨b,off,none⟩:Addr).add (sn * esz)) us).run P w = .ok () (setCells ((⟨b,off,none⟩:Addr).add (sn * esz)) us 0 w):=by
    refine zB7 us 0 w hfl fun j hj=>?_
    rw [zR,zR]
    have hlt:off + sn * esz + (0 + j) < cs.size:=by omega
    exact ⟨⟨_,uz hb (Array.getElem?_eq_getElem hlt)⟩,zBT hb (hf _ (by omega) (by omega))⟩
   refine ⟨⟨some ⟨b,off,none⟩,sn + x.n,sc⟩,setCells ((⟨b,off,none⟩:Addr).add (sn * esz)) us 0 w,by simp [hst],?_,rfl,fun _=>rfl,fun _=>rfl⟩
   rw [zR,zBd _ _ _ _ _ hb]
   have h2:Holds B (blk b (.cells cs E fz)::Γ) w:=h.imp' hb
   have h3:=h2.setBlock (o':=.cells ((us.zipIdx (off + sn * esz + 0)).foldl (fun c p=>c.setIfInBounds p.2 p.1) cs) E fz) rfl
   refine h3.imp fun g hg=>?_
   refine ⟨?_,hn,rfl,_,fz,hg,hf,?_,?_⟩
   ·simp [hl,hulen,Nat.add_mul]
   ·rw [fold_size]; exact hcap
   ·intro i hi
    simp only [List.length_append] at hi
    simp only [Nat.add_zero]
    by_cases hlt:i < vs.length
    ·rw [zDG _ _ _ _ (by omega),List.getElem?_append_left hlt]; exact hv i hlt
    ·rw [show off + i = off + sn * esz + (i - vs.length) by omega,zJ5 _ _ _ _ (by omega) (by omega),List.getElem?_append_right (by omega)]
 ·simp only [hn,if_false]
  have hsn:=h.fact (p:=vs.length = s.n * esz∧s.n ≤ s.c) (fun _ ha=>⟨ha.1,ha.2.1⟩)
  have hcap:=zKa (show s.c < s.n + x.n by omega)
  have hcap2:¬ (Builtin.nextslicecap (s.n + x.n) s.c * ib.bytes > 2 ^ 48):=by
   rw [hbytes]
   have:=Nat.mul_le_mul_right by' hcap
   omega
  have hbig:s.n + x.n < 2 ^ 60:=by
   have:(2 * (s.n + x.n) + 800) * 1 ≤ (2 * (s.n + x.n) + 800) * by':=Nat.mul_le_mul_left _ (by omega)
   omega
  have hi64:¬ ((s.n + x.n:Nat):Int) > IntKind.i64.max:=by simp [IntKind.max,IntKind.signed,IntKind.bits]; omega
  simp only [Sem.run_bind,hti,Result.andThen]
  rw [if_neg (by rintro ⟨h1,_⟩; exact hi64 h1)]
  simp only [Sem.run_bind,hti,Result.andThen,Sem.run_pure]
  rw [if_neg hcap2]
  obtain ⟨newCap,w1,hch,hle,hw1⟩:∃ nc w1,(choose (.appendCap (s.n + x.n) s.c E)).run P w = .ok nc w1∧s.n + x.n ≤ nc∧w1 = { w with drawn:=w.drawn + 1 }:=by
   refine ⟨(Question.appendCap (s.n + x.n) s.c E).cut (w.tape w.drawn (.appendCap (s.n + x.n) s.c E)),_,by simp [choose,Sem.run,Question.forced],?_,rfl⟩
   simp only [Question.cut]; omega
  have h1:Holds B (SlC E esz s vs::Γ) w1:=by rw [hw1]; exact h.drew _
  have hx1:RdC w1 x esz us:=⟨hx.len,hx.nil,fun a ha i hi=>by rw [hw1]; exact hx.at' a ha i hi⟩
  have hrs1:=h1.rdC (List.mem_cons_self ..)
  have hti1:(typeInfo E).run P w1 = .ok ib w1:=by simp [typeInfo,program,hib,Sem.run]
  have hf1:=zBN (P:=P) hrs1
  have hf2:=zBN (P:=P) hx1
  simp only [Sl.val] at hf1 hf2
  simp only [hch,hti1,run_askRoom,hf1,hf2,zBI hz,Sem.run_bind,Result.andThen,Sem.run_pure,newRow,newObj,Sem.run]
  refine ⟨⟨some ⟨w1.heap.size,0,none⟩,s.n + x.n,newCap⟩,_,rfl,?_,rfl,fun _=>rfl,(fun hh=>by first | exact hh.elim | exact absurd hh hn)⟩
  have h2:=(h1.tail).alloc (.cells (vs.toArray++us.toArray++Builtin.zeroCells zv.cells (newCap - (s.n + x.n))) E)
  refine h2.imp fun g hg=>⟨?_,hle,rfl,_,(0,0),hg,?_,?_,?_⟩
  ·simp [hsn.1,hulen,Nat.add_mul]
  ·intro i _ _; simp
  ·simp only [Nat.zero_add,Array.size_append,List.size_toArray,hsn.1,hulen,Builtin.zeroCells,Array.size_map,Array.size_range,hzs]
   rw [← Nat.add_mul,← Nat.add_mul]
   exact Nat.mul_le_mul_right _ (by omega)
  ·intro i hi
   simp only [Nat.zero_add]
   rw [Array.getElem?_append_left (by simpa using hi)]
   simp [List.getElem?_append,Array.getElem?_append]
theorem zA7 {T U E esz by' Tr:Nat} {s x:Sl} {vs us:List Value} {zv:Value} {k:Sl→K} (h:Holds B (SlC E esz s vs::Γ) w) (hT:sliceT P T E esz = true) (hU:zMJ P U = true) (hby:zIb P E by' = true)
  (hz:zBx P E zv) (hzs:zv.cells.size = esz) (hx:RdC w x esz us) (hfl:∀ u ∈ us,qC u = true) (hroom:(2 * (s.n + x.n) + 800) * by' ≤ 2 ^ 48) (hb0:by' ≠ 0)
  (hk:∀ s' w',Holds B (SlC E esz s' (vs++us)::Γ) w'→s'.n = s.n + x.n→(s.a.isSome = true→s'.a.isSome = true)→k s' w'):Do P (Builtin.append_ #[T,U] Tr #[s.val,x.val]) Sl.val k w:=by
 obtain ⟨s',w',hr,hh,hn,ha,_⟩:=zQW (Tr:=Tr) h hT hU hby hz hzs hx hfl hroom hb0
 exact ⟨s',w',hr,hk s' w' hh hn ha⟩
theorem zA0 {b E esz n:Nat} {vs:List Value} {cs:Array Value} (hc:cs.toList = vs) (hn:vs.length = n * esz) (g:Hp) (h:blk b (.cells cs E (0,0)) g):SlC E esz ⟨some ⟨b,0,none⟩,n,n⟩ vs g:=by
 subst hc
 refine ⟨hn,Nat.le_refl _,rfl,cs,(0,0),h,fun i _ _=>by simp,?_,fun i hi=>?_⟩
 ·simp at hn ⊢; omega
 ·simp
theorem Holds.zAv (h:Holds B Γ w) (E esz:Nat):Holds B (SlC E esz ⟨none,0,0⟩ []::Γ) w:=by
 refine ⟨h.below,fun _=>Option.none,_,⟨by simp,Nat.le_refl _,rfl⟩,h.stars,fun _ _ e=>(by cases e),Hp.le_refl _,fun _=>.inl rfl⟩
theorem RdC.zD2 {b E esz n:Nat} {vs:List Value} {cs:Array Value} (h:Holds B Γ w) (hm:blk b (.cells cs E (0,0)) ∈ Γ) (hc:cs.toList = vs) (hn:vs.length = n * esz) (c:Nat):RdC w ⟨some ⟨b,0,none⟩,n,c⟩ esz vs:=by
 subst hc
 refine ⟨hn,(fun hh=>by cases hh),fun a ha i hi=>?_⟩
 cases ha
 rw [zR,Nat.zero_add]
 have h1:=h.zFx hm
 have h2:cs.toList[i]? = some cs.toList[i]:=by simp [hi]
 rw [h2]
 have h3:cs[i]? = some (cs.toList[i]):=by rw [← h2]; simp
 exact uz h1 h3
theorem zHc {l:List Value} (h:l.all qC = true):∀ v ∈ l,qC v = true:=List.all_eq_true.1 h
theorem zCX (xs:List UInt8):∀ u ∈ xs.map qy,qC u = true:=fun u hu=>by
 obtain ⟨b,_,rfl⟩:=List.mem_map.1 hu; rfl
end
end
section
open Go Go.RowKit Go.ChangeShapes Go.WideShapes Go.ChangeAt Go.Deep
inductive Sh where
 | bool
 | int (k:IntKind)
 | str
 | sl (e:Sh) (esz:Nat)
 | nil
 | fld (off n:Nat) (s rest:Sh)
def Rdy (w:World):Sh→List Value→Prop
 | .bool,cs=>∃ b,cs = [.bool b]
 | .int k,cs=>∃ n,cs = [.int k n]∧(Lit.int k n).wf = true
 | .str,cs=>∃ s:ByteArray,cs = [.string s]∧s.size ≤ maxLen
 | .sl e esz,cs=>∃ s:Sl,cs = [s.val]∧s.n ≤ s.c∧s.c ≤ maxLen∧(s.a = none→s.n = 0∧s.c = 0) ∧
   ∀ a i,s.a = some a→i < s.n→∃ cs',cs'.length = esz∧(∀ j,j < esz→w.cell? (a.add (i * esz + j)) = cs'[j]?)∧Rdy w e cs'
 | .nil,_=>True
 | .fld off n s rest,cs=>Rdy w s ((cs.drop off).take n)∧Rdy w rest cs
def zNY (P:Program):Nat→TypeId→Sh
 | 0,_=>.nil
 | n + 1,t=>match P.underlying t with
  | some .bool=>.bool
  | some (.int k)=>.int k
  | some .string=>.str
  | some (.slice e)=>.sl (zNY P n e) (P.cellsOf e)
  | some (.struct fs)=>fs.toList.foldr (fun f r=>.fld f.offset (P.cellsOf f.type) (zNY P n f.type) r) .nil
  | some (.array m e)=>(List.range m).foldr (fun i r=>.fld (i * P.cellsOf e) (P.cellsOf e) (zNY P n e) r) .nil
  | _=>.nil
section
variable {H:Type} {enc:TypeId×Value→H} {P:Program} {w:World} {base:Nat} {spare:Nat→Bool} {held:Bool}
theorem zOu {cs:List Value} {g:Field→Sh}:∀ (fs:List Field),(∀ f ∈ fs,Rdy w (g f) ((cs.drop f.offset).take (P.cellsOf f.type))) →
  Rdy w (fs.foldr (fun f r=>.fld f.offset (P.cellsOf f.type) (g f) r) .nil) cs
 | [],_=>trivial
 | f::fs,h=>⟨h f (by simp),zOu fs fun x hx=>h x (by simp [hx])⟩
theorem zDh:∀ (n:Nat) (t:TypeId) (fuel:Nat) (cs:List Value) (x:DataW H×List MemPlace),DataW.trod enc P w base spare held fuel t cs = some x→Rdy w (zNY P n t) cs
 | 0,_,_,_,_,_=>trivial
 | n + 1,t,fuel,cs,x,h=>by
  unfold zNY
  split
  ·rename_i hu; obtain ⟨b,hb,_⟩:=DataW.trod_bool hu h; exact ⟨b,hb⟩
  ·rename_i k hu; obtain ⟨b,hb,_,hw⟩:=DataW.trod_int hu h; exact ⟨b,hb,hw⟩
  ·rename_i hu; obtain ⟨s,hs,_,hw⟩:=DataW.trod_string hu h; exact ⟨s,hs,hw⟩
  ·rename_i e hu
   rcases open_slice hu h with ⟨rfl,_⟩ | ⟨a,len,cap,m,n',D,Pl,rfl,hb,hl,hm,hmm,hx,hi⟩
   ·exact ⟨⟨none,0,0⟩,rfl,Nat.le_refl _,Nat.zero_le _,fun _=>⟨rfl,rfl⟩,(fun a i ha=>by cases ha)⟩
   ·refine ⟨⟨some a,len,cap⟩,rfl,hl,hm,(fun hn=>by cases hn),fun a' i ha hi'=>?_⟩
    cases ha
    simp only at hi'
    obtain ⟨cs',hc,ht⟩:=hi i (by rw [hmm]; split <;> omega)
    obtain ⟨_,hlen,hcell⟩:=World.cells?_some hc
    refine ⟨cs',hlen,fun j hj=>?_,zDh n e _ cs' _ ht⟩
    rw [← Go.Deep.add_add]
    exact hcell j hj
  ·rename_i fs hu
   obtain ⟨xs,n',_,_,hlen,hxl,hf⟩:=DataW.trod_struct hu h
   refine zOu _ fun f hf'=>?_
   obtain ⟨i,hi⟩:=List.mem_iff_getElem?.1 hf'
   have hi':fs[i]? = some f:=by simpa using hi
   have h1:=hf i f hi'
   have hlt:i < xs.length:=by rw [hxl]; exact (Array.getElem?_eq_some_iff.1 hi').1
   rw [List.getElem?_eq_getElem hlt] at h1
   exact zDh n f.type _ _ _ h1
  ·rename_i m e hu
   obtain ⟨xs,n',_,_,hlen,hxl,hf⟩:=DataW.trod_array hu h
   have key:∀ l:List Nat,(∀ i ∈ l,i < m)→Rdy w (l.foldr (fun i r=>.fld (i * P.cellsOf e) (P.cellsOf e) (zNY P n e) r) .nil) cs:=by
    intro l
    induction l with
    | nil=>intro _; trivial
    | cons i l ih=>
     intro hl
     have hi:=hl i List.mem_cons_self
     have h1:=hf i hi
     rw [List.getElem?_eq_getElem (by omega)] at h1
     exact ⟨zDh n e _ _ _ h1,ih fun j hj=>hl j (List.mem_cons_of_mem _ hj)⟩
   exact key _ fun i hi=>List.mem_range.1 hi
  ·trivial
theorem zJH {n:Nat} {t:TypeId} {v:Value} {d:DataW H} {ps:List MemPlace} (h:DataW.Trod enc P w base spare held t v d ps):Rdy w (zNY P n t) v.cells.toList:=by
 obtain ⟨fuel,h⟩:=h
 exact zDh n t fuel _ _ h
theorem zFY {α:Type} (f:α→List Value) (esz:Nat) (hf:∀ x,(f x).length = esz):∀ (l:List α) (i j:Nat),j < esz→(l.flatMap f)[i * esz + j]? = (l[i]?).bind fun x=>(f x)[j]?
 | [],i,j,_=>by simp
 | x::l,0,j,hj=>by
  simp only [List.flatMap_cons,Nat.zero_mul,Nat.zero_add]
  rw [List.getElem?_append_left (by rw [hf]; exact hj)]; simp
 | x::l,i + 1,j,hj=>by
  simp only [List.flatMap_cons]
  have e:(i + 1) * esz + j = esz + (i * esz + j):=by rw [Nat.add_mul]; omega
  rw [e,List.getElem?_append_right (by rw [hf]; omega),hf,Nat.add_sub_cancel_left,zFY f esz hf l i j hj]; simp
theorem yu {α:Type} (f:α→List Value) (esz:Nat) (hf:∀ x,(f x).length = esz):∀ (l:List α),(l.flatMap f).length = l.length * esz
 | []=>by simp
 | x::l=>by simp only [List.flatMap_cons,List.length_append,hf,yu f esz hf l,List.length_cons,Nat.add_mul]; omega
theorem zJI {α:Type} (R:Nat→α→Prop):∀ (n:Nat),(∀ i,i < n→∃ x,R i x)→∃ l:List α,l.length = n∧∀ i x,l[i]? = some x→R i x
 | 0,_=>⟨[],rfl,fun i x h=>by simp at h⟩
 | n + 1,h=>by
  obtain ⟨l,hl,hr⟩:=zJI R n fun i hi=>h i (by omega)
  obtain ⟨x,hx⟩:=h n (by omega)
  refine ⟨l++[x],by simp [hl],fun i y hy=>?_⟩
  by_cases hi:i < n
  ·rw [List.getElem?_append_left (by omega)] at hy; exact hr i y hy
  ·have hlt:i < (l++[x]).length:=(List.getElem?_eq_some_iff.1 hy).1
   have:i = n:=by simp [hl] at hlt; omega
   subst this
   rw [List.getElem?_append_right (by omega),hl] at hy
   simp at hy; subst hy; exact hx
theorem zRV {α:Type} {s:Sl} {esz:Nat} {e:Sh} (f:α→List Value) (R:α→Prop) (hf:∀ x,(f x).length = esz) (hn:s.a = none→s.n = 0∧s.c = 0)
  (h:∀ a i,s.a = some a→i < s.n→∃ cs',cs'.length = esz∧(∀ j,j < esz→w.cell? (a.add (i * esz + j)) = cs'[j]?)∧Rdy w e cs')
  (hR:∀ cs,cs.length = esz→Rdy w e cs→∃ x,cs = f x∧R x):∃ l:List α,l.length = s.n∧RdC w s esz (l.flatMap f)∧∀ x ∈ l,R x:=by
 cases ha:s.a with
 | none=>exact ⟨[],by rw [(hn ha).1]; rfl,⟨by rw [(hn ha).1]; simp,fun h=>(hn h).1,fun a h=>by rw [ha] at h; cases h⟩,fun x h=>by cases h⟩
 | some a=>
  obtain ⟨l,hl,hr⟩:=zJI (fun i x=>(∀ j,j < esz→w.cell? (a.add (i * esz + j)) = (f x)[j]?)∧R x) s.n (fun i hi=>by
   obtain ⟨cs',h1,h2,h3⟩:=h a i ha hi
   obtain ⟨x,rfl,hx⟩:=hR cs' h1 h3
   exact ⟨x,h2,hx⟩)
  refine ⟨l,hl,⟨by rw [yu f esz hf,hl],(fun h=>by rw [ha] at h; cases h),fun a' h' i hi=>?_⟩,fun x hx=>?_⟩
  ·rw [ha] at h'; cases h'
   rw [yu f esz hf] at hi
   have hpos:0 < esz:=by
                rcases Nat.eq_zero_or_pos esz with h0 | h0
                ·rw [h0] at hi; simp at hi
                ·exact h0
   have e1:i = (i / esz) * esz + i % esz:=by rw [Nat.mul_comm]; exact (Nat.div_add_mod i esz).symm
   have hj:i % esz < esz:=Nat.mod_lt _ hpos
   have hq:i / esz < l.length:=by rw [Nat.div_lt_iff_lt_mul hpos]; exact hi
   rw [e1,zFY f esz hf _ _ _ hj,List.getElem?_eq_getElem hq]
   exact (hr _ _ (List.getElem?_eq_getElem hq)).1 _ hj
  ·obtain ⟨i,hi⟩:=List.mem_iff_getElem?.1 hx
   exact (hr i x hi).2
end
section
variable {H:Type} {enc:TypeId×Value→H} {P:Program}
theorem zGc (hl:laidOutB P = true) {W W':World} (hb:Below W.heap.size W W') {sp:Nat→Bool}:∀ (ts:List TypeId) (vs:List Value) (ds:List (DataW H)) (ps:List MemPlace),
  (∀ t ∈ ts,P.readableRec t = true∧t < P.types.size)→(∀ x ∈ ps,x.block < W.heap.size∧sp x.block = true)→DataW.TrodAll enc P W 0 (fun _=>true) true ts vs ds ps→DataW.TrodAll enc P W' 0 sp true ts vs ds ps
 | [],vs,ds,ps,_,_,h=>by
  cases vs <;> cases ds <;> simp [DataW.TrodAll] at h ⊢ <;> exact h
 | t::ts,vs,ds,ps,ht,hlt,h=>by
  cases vs with
  | nil=>simp [DataW.TrodAll] at h
  | cons v vs=>
   cases ds with
   | nil=>simp [DataW.TrodAll] at h
   | cons d ds=>
    obtain ⟨p,q,h1,h2,rfl⟩:=h
    exact ⟨p,q,WideElems.Trod_stays hl (ht t (by simp)).1 (ht t (by simp)).2 h1 (fun x hx=>hb.same (hlt x (by simp [hx])).1) (fun x hx=>(hlt x (by simp [hx])).2),
     zGc hl hb ts vs ds q (fun t' h'=>ht t' (by simp [h'])) (fun x hx=>hlt x (by simp [hx])) h2,rfl⟩
theorem zSa {b:Nat} {sp:Nat→Bool} {hd:Bool} {W:World} {t:TypeId} (ht:P.underlying t = some .bool):DataW.TrodAll enc P W b sp hd [t] [.bool true] [.lit (.bool true)] [] :=
 ⟨[],[],⟨1,by simp [DataW.trod,ht,Value.cells]⟩,rfl,rfl⟩
theorem zWD {W W':World} {e:Ending} (h:Ret (fun v w'=>v = .bool true∧Below W.heap.size W w') e W'):e = .returned (.bool true)∧Below W.heap.size W W':=by
 cases e with
 | returned v=>exact ⟨by rw [h.1],h.2⟩
 | panicked c=>exact h.elim
 | outgrown=>exact h.elim
theorem zUC {P:Program} {f:FuncId} {args:Array Value} {W:World} (h:zX P f args (fun v w=>∃ r:Bool,v = .bool r∧(r = true∧Holds W [] w)) W) :
  Calls P f args W (Ret fun v w'=>v = .bool true∧Below W.heap.size W w'):=h.mono fun e w' he=>by
 cases e with
 | returned v=>obtain ⟨r,rfl,rfl,hh⟩:=he; exact ⟨rfl,hh.below⟩
 | panicked c=>exact he.elim
 | outgrown=>exact he.elim
theorem zUD {f:Func} {s:ChangeSpec} {apart fresh handsOn again:Bool} {W W':World} {args:Array Value} {ds:List (DataW H)} {p:List MemPlace} {t:TypeId}
  (hl:laidOutB P = true) (hts:f.params.toList.all (fun t=>P.readableRec t && decide (t < P.types.size)) = true) (hrt:f.resultTypes = #[t]) (ht:P.underlying t = some .bool)
  (hW:DataW.Whole enc P f.params.toList s.vars apart W args.toList ds [] p) (hvs:s.vars = []) (hA:DataW.TrodAll enc P W 0 (fun _=>true) true f.params.toList args.toList ds p)
  (hsr:(s.fn H (ds++[])).results = [.lit (.bool true)]) (hsa:(s.fn H (ds++[])).args = ds) (hsv:(s.fn H (ds++[])).vars = []) (hb:Below W.heap.size W W') :
  s.post enc P f apart fresh handsOn again W args (.bool true) W':=by
 have hlt:∀ x ∈ p,x.block < W.heap.size:=fun x hx=>hW.lt x hx
 have hts':∀ t ∈ f.params.toList,P.readableRec t = true∧t < P.types.size:=fun t ht=>by
  have:=List.all_eq_true.1 hts t ht
  simpa using this
 have hold:∀ x ∈ p,(fun b=>decide (b < W.heap.size)) x.block = true:=fun x hx=>by simpa using hlt x hx
 have hres:∀ (b:Nat) (sp:Nat→Bool) (hd:Bool),DataW.TrodAll enc P W' b sp hd f.resultTypes.toList ((Value.bool true).resultList f.resultTypes.size) (s.fn H (ds++[])).results []:=fun b sp hd=>by
  rw [hsr,hrt]; exact zSa ht
 have hargs:∀ sp:Nat→Bool,(∀ x ∈ p,sp x.block = true)→DataW.TrodAll enc P W' 0 sp true f.params.toList args.toList (s.fn H (ds++[])).args p:=fun sp hsp=>by
  rw [hsa]; exact zGc hl hb _ _ _ _ hts' (fun x hx=>⟨hlt x hx,hsp x hx⟩) hA
 have hvars:∀ sp:Nat→Bool,DataW.TrodVars enc P W' sp s.vars (s.fn H (ds++[])).vars []:=fun sp=>by
  rw [hsv,hvs]; rfl
 refine ⟨ds,[],p,[],p,[],hW,hres _ _ _,hargs _ hold,hvars _,World.keptBut_mono (fun x hx=>⟨hx,Or.inr (Or.inl hx)⟩) (hb.frame (· ∈ p)),fun _=>?_⟩
 obtain ⟨_,_,_,_,_,hz,hn⟩:=hW
 refine ⟨?_,_,_,([]++p)++[],⟨[]++p,[],trodAll_append (hargs _ (fun _ _=>rfl)) (hres _ _ _),hvars _,rfl,?_,?_⟩,?_⟩
 ·intro j t' r h1 h2
  rw [hrt] at h1 h2
  match j with
  | 0=>
   simp at h1; subst h1
   have h3:((Value.bool true).resultList 1) = [.bool true]:=rfl
   have h4:(#[t]:Array TypeId).size = 1:=rfl
   rw [h4,h3] at h2
   simp at h2; subst h2
   exact okWide_bool_mk ht _
  | j + 1=>simp at h1
 ·intro b off hp
  have hin:MemPlace.cell b off ∈ p:=by simpa using hp
  rw [hb.frozen (hlt _ hin)]
  exact hz b off hin
 ·intro ha
  have:=hn ha
  simpa using this
 ·intro x hx _
  simpa using hx
end
end
section
open Go Go.RowKit
section
variable {P:Program} {B w:World} {Γ:List zB} {E esz:Nat} {s:Sl} {vs:List Value}
theorem SlC.take {m:Nat} (hm:m ≤ s.n) (g:Hp) (h:SlC E esz s vs g):SlC E esz ⟨s.a,m,s.c⟩ (vs.take (m * esz)) g:=by
 obtain ⟨hl,hc,hs⟩:=h
 have h1:m * esz ≤ vs.length:=by rw [hl]; exact Nat.mul_le_mul_right _ hm
 refine ⟨by simp only [List.length_take]; omega,by simp only; omega,?_⟩
 cases ha:s.a with
 | none=>rw [ha] at hs; exact hs
 | some a=>
  rw [ha] at hs
  obtain ⟨hsp,cs,fz,hb,hf,hsz,hv⟩:=hs
  refine ⟨hsp,cs,fz,hb,hf,hsz,fun i hi=>?_⟩
  rw [List.length_take] at hi
  rw [List.getElem?_take,if_pos (by omega)]
  exact hv i (by omega)
theorem RdC.drop {l c:Nat} (h:RdC w s esz vs) (hl:l ≤ s.n) (hc:s.n ≤ c) (hsp:∀ a,s.a = some a→a.spot = none):RdC w ⟨zAB s.a l c esz,s.n - l,c - l⟩ esz (vs.drop (l * esz)):=by
 have h1:=h.len
 refine ⟨by rw [List.length_drop,h1,← Nat.sub_mul],fun hn=>?_,fun a ha i hi=>?_⟩
 ·simp only at hn ⊢
  unfold zAB at hn
  split at hn
  ·have:=h.nil hn; omega
  ·cases hx:s.a with
   | none=>have:=h.nil hx; omega
   | some a=>rw [hx] at hn; cases hn
 ·simp only at ha
  rw [List.length_drop] at hi
  unfold zAB at ha
  split at ha
  ·rename_i hcl
   have:s.n = l:=by omega
   rw [h1,this] at hi
   omega
  ·cases hx:s.a with
   | none=>rw [hx] at ha; cases ha
   | some a0=>
    rw [hx] at ha
    simp only [Option.map_some,Option.some.injEq] at ha
    subst ha
    rw [add_add' _ (hsp a0 hx),h.at' a0 hx _ (by omega),List.getElem?_drop]
theorem RdC.take {m c:Nat} (h:RdC w s esz vs) (hm:m ≤ s.n):RdC w ⟨s.a,m,c⟩ esz (vs.take (m * esz)):=by
 have h1:=h.len
 have h2:m * esz ≤ vs.length:=by rw [h1]; exact Nat.mul_le_mul_right _ hm
 refine ⟨by simp only [List.length_take]; omega,fun hn=>?_,fun a ha i hi=>?_⟩
 ·have:=h.nil hn; simp only; omega
 ·rw [List.length_take] at hi
  rw [List.getElem?_take,if_pos (by omega)]
  exact h.at' a ha i (by omega)
theorem Holds.zAm (h:Holds B (SlC E esz s vs::Γ) w):vs.length = s.n * esz∧s.n ≤ s.c∧(∀ a,s.a = some a→a.spot = none)∧(s.a = none→s.c = 0):=by
 refine h.fact fun g hg=>⟨hg.1,hg.2.1,fun a ha=>?_,fun ha=>?_⟩
 ·have:=hg.2.2; rw [ha] at this; exact this.1
 ·have:=hg.2.2; rw [ha] at this; exact this
theorem zKb (z:Array Value) (n:Nat) (hz:∀ v ∈ z.toList,qC v = true):∀ v ∈ (Builtin.zeroCells z n).toList,qC v = true:=by
 intro v hv
 simp only [Builtin.zeroCells,Array.toList_map,List.mem_map] at hv
 obtain ⟨i,hi,rfl⟩:=hv
 have hi':i < n * z.size:=by simpa using hi
 have hpos:0 < z.size:=Nat.pos_of_ne_zero fun h0=>by rw [h0] at hi'; simp at hi'
 have hlt:i % z.size < z.size:=Nat.mod_lt _ hpos
 rw [getElem!_pos z (i % z.size) hlt]
 exact hz _ (by simp)
end
end
section
open Go Go.RowKit
section
variable {w:World}
theorem all_nil:All [] w:=fun i x h=>by simp at h
theorem all_cons {x:World→Prop} {l:List (World→Prop)} (h:x w) (hl:All l w):All (x::l) w:=fun i y hy=>by
 cases i with
 | zero=>simp at hy; subst hy; exact h
 | succ i=>exact hl i y (by simpa using hy)
def zWE (P:Program) (src dst:TypeId):Bool :=
 match P.underlying src,P.underlying dst with
 | some (.slice e),some .string=>match P.underlying e with
  | some (.int .u8)=>true
  | _=>false
 | _,_=>false
theorem zSb {P:Program} {src dst:TypeId} (h:zWE P src dst = true):∃ e,P.underlying src = some (.slice e)∧P.underlying e = some (.int .u8)∧P.underlying dst = some .string:=by
 unfold zWE at h
 split at h
 ·rename_i e h1 h2
  split at h
  ·rename_i h3; exact ⟨e,h1,h3,h2⟩
  ·cases h
 ·cases h
theorem foldl_push:∀ (xs:List UInt8) (acc:List UInt8),
  (xs.map fun b=>((b.toNat:Nat):Int)).foldl (fun r n=>r.push (UInt8.ofNat n.toNat)) (ByteArray.mk acc.toArray) = ByteArray.mk (acc++xs).toArray
 | [],acc=>by simp
 | x::xs,acc=>by
  simp only [List.map_cons,List.foldl_cons,Int.toNat_natCast,UInt8.ofNat_toNat]
  have:=foldl_push xs (acc++[x])
  simp only [List.append_assoc,List.singleton_append] at this
  rw [← this]
  congr 1
  simp [ByteArray.push]
theorem zML {P:Program} {s:Sl} {xs:List UInt8} {src dst:TypeId} {k:ByteArray→K} (hT:zWE P src dst = true) (hr:RdB w s xs) (hk:k (ByteArray.mk xs.toArray) w) :
  Rd P (convert src dst s.val) Value.string k w:=by
 refine ⟨_,?_,hk⟩
 obtain ⟨e,h1,h2,h3⟩:=zSb hT
 obtain ⟨a,n,c⟩:=s
 have hl:xs.length = n:=by have:=hr.len; simpa using this
 have:=run_convert_bytes_string (P:=P) w src dst e a n c h1 h2 h3
 rw [show (Sl.val ⟨a,n,c⟩) = .slice a n c from rfl,this]
 cases a with
 | none=>
  have hn:=hr.nil rfl
  simp only at hn
  subst hn
  have:xs = []:=by cases xs with | nil=>rfl | cons=>simp at hl
  subst this
  rfl
 | some a=>
  have h4:RdN w a (xs.map qy).toArray:=fun i hi=>by
   rw [hr.at' a rfl i (by simpa using hi)]; exact List.getElem?_toArray.symm
  have h5:=run_loadCells (P:=P) h4
  have h6:(xs.map qy) = (xs.map fun b=>((b.toNat:Nat):Int)).map (Value.int .u8):=by simp [qy,Function.comp_def]
  rw [h6] at h5
  simp only [List.size_toArray,List.length_map,hl] at h5
  rw [run_bytesToString w a n c _ h5]
  have:=foldl_push xs []
  simp only [List.nil_append] at this
  rw [← this]
  rfl
theorem uT (xs:List UInt8):(ByteArray.mk xs.toArray).toList = xs:=ByteArray.toList_mk xs
end
end
section
open Go Go.RowKit
section
variable {B w:World} {Γ:List zB}
theorem zOv (a:Addr) (m n:Nat):(a.add m).add n = a.add (m + n):=by
 obtain ⟨b,o,s⟩:=a
 unfold Addr.add
 by_cases h1:m = 0
 ·subst h1; simp
 ·by_cases h2:n = 0
  ·subst h2; simp [h1]
  ·simp [h1,h2,Nat.add_assoc]
theorem RdC.none' {esz c:Nat}:RdC w ⟨none,0,c⟩ esz []:=⟨by simp,fun _=>rfl,fun a h=>by cases h⟩
theorem zFZ {α:Type} {c:α→Value} {L:List α} {s:Sl} {j:Nat} {x:α} {k:α→K} (hr:RdC w s 1 (L.map c)) (hx:L[j]? = some x) (hk:k x w) :
  Idx s (j:Int) 1 (fun t=>Ld t c k) w:=by
 have hj:j < L.length:=(List.getElem?_eq_some_iff.1 hx).1
 have hn:L.length = s.n:=by have:=hr.len; simpa using this
 cases ha:s.a with
 | none=>have:=hr.nil ha; omega
 | some a=>
  refine ⟨a,_,ha,by omega,by omega,rfl,x,?_,hk⟩
  simp only [Int.toNat_natCast,Nat.mul_one]
  rw [hr.at' a ha j (by simpa using hj)]
  simp [hx]
theorem zNZ {α:Type} (f:α→List Value) (esz:Nat) (hf:∀ x,(f x).length = esz) {L:List α} {s:Sl} {i:Nat} {x:α} {a:Addr} (hr:RdC w s esz (L.flatMap f)) (ha:s.a = some a) (hx:L[i]? = some x) :
  RdN w (a.add (i * esz)) (f x).toArray:=by
 intro j hj
 have hj':j < esz:=by simpa [hf] using hj
 rw [zOv]
 have hlt:i < L.length:=(List.getElem?_eq_some_iff.1 hx).1
 have hb:i * esz + j < L.length * esz:=by
  have:i * esz + esz ≤ L.length * esz:=by rw [← Nat.succ_mul]; exact Nat.mul_le_mul_right _ hlt
  omega
 rw [hr.at' a ha _ (by rw [yu f esz hf]; exact hb),zFY f esz hf _ _ _ hj',hx]
 exact List.getElem?_toArray.symm
theorem zYF {α:Type} (f:α→List Value) {esz:Nat} (hf:∀ x,(f x).length = esz) (he:0 < esz) {L:List α} {s:Sl} {j:Nat} {x:α} {k:Addr→Array Value→K} {cs:Array Value} (hr:RdC w s esz (L.flatMap f)) (hx:L[j]? = some x) (hcs:(f x).toArray = cs) (hk:∀ t,k t cs w) :
  Idx s (j:Int) esz (fun t=>LdN t esz (k t)) w:=by
 have hj:j < L.length:=(List.getElem?_eq_some_iff.1 hx).1
 have hn:L.length = s.n:=by
  have:=hr.len; rw [yu f esz hf] at this
  exact Nat.eq_of_mul_eq_mul_right he this
 cases ha:s.a with
 | none=>have:=hr.nil ha; omega
 | some a=>
  subst hcs
  refine ⟨a,_,ha,by omega,by omega,rfl,_,by simp [hf],?_,hk _⟩
  simp only [Int.toNat_natCast]
  exact zNZ f esz hf hr ha hx
theorem zUE {α:Type} (f:α→List Value) {esz:Nat} (hf:∀ x,(f x).length = esz) (he:0 < esz) {L:List α} {s:Sl} {j:Nat} {x:α} {k:Addr→K} (hr:RdC w s esz (L.flatMap f)) (hx:L[j]? = some x) (hk:∀ t,(∀ w,RdC w s esz (L.flatMap f)→RdN w t (f x).toArray)→k t w) :
  Idx s (j:Int) esz k w:=by
 have hj:j < L.length:=(List.getElem?_eq_some_iff.1 hx).1
 have hn:L.length = s.n:=by
  have:=hr.len; rw [yu f esz hf] at this
  exact Nat.eq_of_mul_eq_mul_right he this
 cases ha:s.a with
 | none=>have:=hr.nil ha; omega
 | some a=>
  refine ⟨a,_,ha,by omega,by omega,rfl,hk _ fun w hr=>?_⟩
  simp only [Int.toNat_natCast]
  exact zNZ f esz hf hr ha hx
theorem SlC.cut {E esz:Nat} {s:Sl} {vs:List Value} {m:Nat} (hm:m ≤ s.n) (g:Hp) (h:SlC E esz s vs g):SlC E esz ⟨s.a,m,m⟩ (vs.take (m * esz)) g:=by
 have hc:=h.2.1
 obtain ⟨hl,_,hs⟩:=SlC.take hm g h
 refine ⟨hl,Nat.le_refl _,?_⟩
 have h1:m * esz ≤ s.c * esz:=Nat.mul_le_mul_right _ (by omega)
 cases ha:s.a with
 | none=>rw [ha] at hs; simp only at hs ⊢; omega
 | some a=>
  rw [ha] at hs
  obtain ⟨hsp,cs,fz,hb,hf,hsz,hv⟩:=hs
  exact ⟨hsp,cs,fz,hb,fun i h2 h3=>hf i h2 (by simp only at h3 ⊢; omega),by simp only at hsz ⊢; omega,hv⟩
theorem SlC.zZd {E esz:Nat} {s:Sl} {vs:List Value} {l:Nat} (hl:l ≤ s.n) (g:Hp) (h:SlC E esz s vs g):SlC E esz ⟨zAB s.a l s.c esz,s.n - l,s.c - l⟩ (vs.drop (l * esz)) g:=by
 obtain ⟨hn,hc,hs⟩:=h
 have h1:l * esz ≤ s.n * esz:=Nat.mul_le_mul_right _ hl
 have h2:(s.n - l) * esz = s.n * esz - l * esz:=Nat.sub_mul _ _ _
 have h3:(s.c - l) * esz = s.c * esz - l * esz:=Nat.sub_mul _ _ _
 have h4:s.n * esz ≤ s.c * esz:=Nat.mul_le_mul_right _ hc
 refine ⟨by simp only [List.length_drop]; omega,by simp only; omega,?_⟩
 cases ha:s.a with
 | none=>
  rw [ha] at hs
  simp only at hs
  have:zAB none l s.c esz = none:=by unfold zAB; split <;> rfl
  rw [this]; simp only; omega
 | some a=>
  rw [ha] at hs
  obtain ⟨hsp,cs,fz,hb,hf,hsz,hv⟩:=hs
  obtain ⟨b,o,sp⟩:=a
  simp only at hsp hb hf hsz hv
  subst hsp
  by_cases hcl:s.c = l
  ·have hz:s.n - l = 0:=by omega
   have:zAB (some ⟨b,o,none⟩) l s.c esz = some ⟨b,o,none⟩:=by unfold zAB; rw [if_pos hcl]
   rw [this]
   refine ⟨rfl,cs,fz,hb,fun i g1 g2=>hf i g1 ?_,?_,fun i hi=>?_⟩
   ·simp only at g2; omega
   ·simp only; omega
   ·rw [List.length_drop,hn] at hi
    rw [hz] at h2
    omega
  ·have:zAB (some ⟨b,o,none⟩) l s.c esz = some ⟨b,o + l * esz,none⟩:=by unfold zAB; rw [if_neg hcl]; simp [zR]
   rw [this]
   refine ⟨rfl,cs,fz,hb,fun i g1 g2=>hf i ?_ ?_,?_,fun i hi=>?_⟩
   ·simp only at g1; omega
   ·simp only at g2; omega
   ·simp only; omega
   ·rw [List.length_drop] at hi
    rw [List.getElem?_drop,← hv (l * esz + i) (by omega)]
    simp only [Nat.add_assoc]
theorem zQX {α:Type} {f:α→zB} {l:List α} (i:Nat) {x:α} (hx:l[i]? = some x) (h:Holds B (stars (l.map f)::Γ) w):Holds B (f x::stars ((l.eraseIdx i).map f)::Γ) w:=by
 have h1:=Holds.flat.1 h
 have h2:(l.map f++Γ).Perm (f x::((l.eraseIdx i).map f++Γ)):=by
  have h3:(l.map f).Perm (f x::(l.eraseIdx i).map f):=by
   have:=(zIS hx).map f
   simpa using this
  exact h3.append_right Γ
 have h4:Holds B (f x::((l.eraseIdx i).map f++Γ)) w:=h1.perm h2
 have h5:Holds B ((l.eraseIdx i).map f++f x::Γ) w:=h4.perm List.perm_middle.symm
 exact (Holds.flat.2 h5).swap
theorem zMM {α:Type} {f:α→zB} {l:List α} {x:α} (h:Holds B (stars (l.map f)::f x::Γ) w):Holds B (stars ((l++[x]).map f)::Γ) w:=by
 have:=h.snoc
 rwa [show l.map f++[f x] = (l++[x]).map f by simp] at this
theorem zOw {α:Type} {f:α→zB} {l:List α} {x:α} {E esz:Nat} {s:Sl} {vs:List Value} (i:Nat) (h:Holds B Γ w) (hi:Γ[i]? = some (stars (l.map f))) (hx:x ∈ l) (hf:f x = SlC E esz s vs):RdC w s esz vs:=by
 have h1:=Holds.flat.1 (h.pick i hi)
 refine h1.rdC (E:=E) ?_
 rw [← hf]
 exact List.mem_append_left _ (List.mem_map_of_mem hx)
theorem zXR {α:Type} (c:α→Value):∀ l:List α,l.flatMap (fun b=>[c b]) = l.map c
 | []=>rfl
 | x::l=>by simp [List.flatMap_cons,zXR c l]
theorem zRW {k:IntKind} {s:Sl} (hn:s.a = none→s.n = 0∧s.c = 0)
  (h:∀ a i,s.a = some a→i < s.n→∃ cs',cs'.length = 1∧(∀ j,j < 1→w.cell? (a.add (i * 1 + j)) = cs'[j]?)∧Rdy w (.int k) cs') :
  ∃ xs:List Int,xs.length = s.n∧RdC w s 1 (xs.map (Value.int k))∧∀ x ∈ xs,(Lit.int k x).wf = true:=by
 obtain ⟨l,hl,hr,hw⟩:=zRV (e:=.int k) (fun b:Int=>[Value.int k b]) (fun b=>(Lit.int k b).wf = true) (fun _=>rfl) hn h (fun cs hc hr=>by
  obtain ⟨n,rfl,hw⟩:=hr
  exact ⟨n,rfl,hw⟩)
 rw [zXR] at hr
 exact ⟨l,hl,hr,hw⟩
theorem zKc {s:Sl} {c esz:Nat} (hsp:∀ a,s.a = some a→a.spot = none):zAB s.a 0 c esz = s.a:=by
 unfold zAB
 split
 ·rfl
 ·cases hx:s.a with
  | none=>rfl
  | some a=>
   have:=hsp a hx
   obtain ⟨b,o,sp⟩:=a
   simp only at this; subst this
   simp [zR]
def slF (E esz:Nat) (s:Sl) (vs:List Value) (a:Addr) (cs:Array Value) (fz:Nat×Nat):Prop :=
 a.spot = none∧(∀ i,a.off ≤ i→i < a.off + s.c * esz→¬ (fz.1 ≤ i∧i < fz.2))∧a.off + s.c * esz ≤ cs.size∧(∀ i,i < vs.length→cs[a.off + i]? = vs[i]?)∧vs.length = s.n * esz∧s.n ≤ s.c
theorem zNa {E esz:Nat} {s:Sl} {vs:List Value} {a:Addr} (h:Holds B (SlC E esz s vs::Γ) w) (ha:s.a = some a):∃ cs fz,Holds B (blk a.block (.cells cs E fz)::Γ) w∧slF E esz s vs a cs fz:=by
 have h1:Holds B ((ex fun cs:Array Value=>ex fun fz:Nat×Nat=>fun g=>slF E esz s vs a cs fz∧blk a.block (.cells cs E fz) g)::Γ) w:=h.imp fun g hg=>by
  obtain ⟨hl,hc,hs⟩:=hg
  rw [ha] at hs
  obtain ⟨hsp,cs,fz,hb,hf,hsz,hv⟩:=hs
  exact ⟨cs,fz,⟨hsp,hf,hsz,hv,hl,hc⟩,hb⟩
 obtain ⟨cs,h1⟩:=Holds.ex.1 h1
 obtain ⟨fz,h1⟩:=Holds.ex.1 h1
 exact ⟨cs,fz,h1.imp fun g hg=>hg.2,h1.fact fun g hg=>hg.1⟩
theorem zNb {E esz:Nat} {s:Sl} {vs:List Value} {a:Addr} {cs:Array Value} {fz:Nat×Nat} (ha:s.a = some a) (h:Holds B (blk a.block (.cells cs E fz)::Γ) w) (hF:slF E esz s vs a cs fz):Holds B (SlC E esz s vs::Γ) w :=
 h.imp fun g hg=>by
  obtain ⟨hsp,hf,hsz,hv,hl,hc⟩:=hF
  refine ⟨hl,hc,?_⟩
  rw [ha]
  exact ⟨hsp,cs,fz,hg,hf,hsz,hv⟩
theorem zUF {E esz:Nat} {s:Sl} {vs:List Value} {a:Addr} {o:Nat} {v:Value} {k:K} (h:Holds B (SlC E esz s vs::Γ) w) (ha:s.a = some a) (ho:o < vs.length) (hv:qC v = true)
  (hk:∀ w',Holds B (SlC E esz s (vs.set o v)::Γ) w'→k w'):St (a.add o) v k w:=by
 obtain ⟨cs,fz,h,hsp,hf,hsz,hr,hl,hc⟩:=zNa h ha
 have hm:vs.length ≤ s.c * esz:=by rw [hl]; exact Nat.mul_le_mul_right _ hc
 have e:a.add o = ⟨a.block,a.off + o,none⟩:=by
  obtain ⟨b,f,sp⟩:=a
  simp only at hsp; subst hsp
  exact zR _ _ _
 refine zLh 0 h e rfl (by omega) (hf _ (by omega) (by omega)) hv fun w' h=>hk w' (zNb ha h ⟨hsp,hf,by simpa using hsz,fun i hi=>?_,by simpa using hl,hc⟩)
 rw [List.length_set] at hi
 by_cases hio:o = i
 ·subst hio
  rw [List.getElem?_set_self hi]
  simp [Array.getElem?_setIfInBounds]
  omega
 ·rw [List.getElem?_set_ne hio,← hr i hi,Array.getElem?_setIfInBounds_ne (by omega)]
theorem zRX {E:Nat} {s:Sl} {vs:List Value} {j:Nat} {v:Value} {k:K} (h:Holds B (SlC E 1 s vs::Γ) w) (hj:j < s.n) (hv:qC v = true)
  (hk:∀ w',Holds B (SlC E 1 s (vs.set j v)::Γ) w'→k w'):Idx s (j:Int) 1 (fun t=>St t v k) w:=by
 have hs:=h.zAm
 cases ha:s.a with
 | none=>have:=hs.2.2.2 ha; omega
 | some a=>
  refine ⟨a,_,ha,by omega,by omega,rfl,?_⟩
  simp only [Int.toNat_natCast,Nat.mul_one]
  exact zUF h ha (by omega) hv hk
theorem zUG {s s':Sl} (h:(Sl.val s).cells.toList = [s'.val]):s' = s:=by
 obtain ⟨a,n,c⟩:=s
 obtain ⟨a',n',c'⟩:=s'
 have h2:[Value.slice a n c] = [Value.slice a' n' c']:=h
 cases h2; rfl
theorem zUH {e:Sh} {esz:Nat} {s:Sl} (y:Rdy w (.sl e esz) (Sl.val s).cells.toList):(s.a = none→s.n = 0∧s.c = 0) ∧
  ∀ a i,s.a = some a→i < s.n→∃ cs',cs'.length = esz∧(∀ j,j < esz→w.cell? (a.add (i * esz + j)) = cs'[j]?)∧Rdy w e cs':=by
 obtain ⟨s',h,_,_,h1,h2⟩:=y
 obtain rfl:=zUG h
 exact ⟨h1,h2⟩
theorem zUI {k:IntKind} {s:Sl} (y:Rdy w (.sl (.int k) 1) (Sl.val s).cells.toList):∃ xs:List Int,RdC w s 1 (xs.map (Value.int k))∧∀ x ∈ xs,(Lit.int k x).wf = true:=by
 obtain ⟨h1,h2⟩:=zUH y
 obtain ⟨xs,_,h3,h4⟩:=zRW h1 h2
 exact ⟨xs,h3,h4⟩
end
theorem M0 { x:zB} {l:List zB}:x ∈ x::l:=List.mem_cons_self
theorem M1 {a0 x:zB} {l:List zB}:x ∈ a0::x::l:=List.mem_cons_of_mem _ (List.mem_cons_self)
theorem M2 {a0 a1 x:zB} {l:List zB}:x ∈ a0::a1::x::l:=List.mem_cons_of_mem _ (List.mem_cons_of_mem _ (List.mem_cons_self))
theorem M3 {a0 a1 a2 x:zB} {l:List zB}:x ∈ a0::a1::a2::x::l:=List.mem_cons_of_mem _ (List.mem_cons_of_mem _ (List.mem_cons_of_mem _ (List.mem_cons_self)))
theorem M4 {a0 a1 a2 a3 x:zB} {l:List zB}:x ∈ a0::a1::a2::a3::x::l:=List.mem_cons_of_mem _ (List.mem_cons_of_mem _ (List.mem_cons_of_mem _ (List.mem_cons_of_mem _ (List.mem_cons_self))))
theorem M5 {a0 a1 a2 a3 a4 x:zB} {l:List zB}:x ∈ a0::a1::a2::a3::a4::x::l:=List.mem_cons_of_mem _ (List.mem_cons_of_mem _ (List.mem_cons_of_mem _ (List.mem_cons_of_mem _ (List.mem_cons_of_mem _ (List.mem_cons_self)))))
theorem M6 {a0 a1 a2 a3 a4 a5 x:zB} {l:List zB}:x ∈ a0::a1::a2::a3::a4::a5::x::l:=List.mem_cons_of_mem _ (List.mem_cons_of_mem _ (List.mem_cons_of_mem _ (List.mem_cons_of_mem _ (List.mem_cons_of_mem _ (List.mem_cons_of_mem _ (List.mem_cons_self))))))
theorem M7 {a0 a1 a2 a3 a4 a5 a6 x:zB} {l:List zB}:x ∈ a0::a1::a2::a3::a4::a5::a6::x::l:=List.mem_cons_of_mem _ (List.mem_cons_of_mem _ (List.mem_cons_of_mem _ (List.mem_cons_of_mem _ (List.mem_cons_of_mem _ (List.mem_cons_of_mem _ (List.mem_cons_of_mem _ (List.mem_cons_self)))))))
theorem M8 {a0 a1 a2 a3 a4 a5 a6 a7 x:zB} {l:List zB}:x ∈ a0::a1::a2::a3::a4::a5::a6::a7::x::l:=List.mem_cons_of_mem _ (List.mem_cons_of_mem _ (List.mem_cons_of_mem _ (List.mem_cons_of_mem _ (List.mem_cons_of_mem _ (List.mem_cons_of_mem _ (List.mem_cons_of_mem _ (List.mem_cons_of_mem _ (List.mem_cons_self))))))))
theorem M9 {a0 a1 a2 a3 a4 a5 a6 a7 a8 x:zB} {l:List zB}:x ∈ a0::a1::a2::a3::a4::a5::a6::a7::a8::x::l:=List.mem_cons_of_mem _ (List.mem_cons_of_mem _ (List.mem_cons_of_mem _ (List.mem_cons_of_mem _ (List.mem_cons_of_mem _ (List.mem_cons_of_mem _ (List.mem_cons_of_mem _ (List.mem_cons_of_mem _ (List.mem_cons_of_mem _ (List.mem_cons_self)))))))))
theorem M10 {a0 a1 a2 a3 a4 a5 a6 a7 a8 a9 x:zB} {l:List zB}:x ∈ a0::a1::a2::a3::a4::a5::a6::a7::a8::a9::x::l:=List.mem_cons_of_mem _ (List.mem_cons_of_mem _ (List.mem_cons_of_mem _ (List.mem_cons_of_mem _ (List.mem_cons_of_mem _ (List.mem_cons_of_mem _ (List.mem_cons_of_mem _ (List.mem_cons_of_mem _ (List.mem_cons_of_mem _ (List.mem_cons_of_mem _ (List.mem_cons_self))))))))))
theorem M11 {a0 a1 a2 a3 a4 a5 a6 a7 a8 a9 a10 x:zB} {l:List zB}:x ∈ a0::a1::a2::a3::a4::a5::a6::a7::a8::a9::a10::x::l:=List.mem_cons_of_mem _ (List.mem_cons_of_mem _ (List.mem_cons_of_mem _ (List.mem_cons_of_mem _ (List.mem_cons_of_mem _ (List.mem_cons_of_mem _ (List.mem_cons_of_mem _ (List.mem_cons_of_mem _ (List.mem_cons_of_mem _ (List.mem_cons_of_mem _ (List.mem_cons_of_mem _ (List.mem_cons_self)))))))))))
theorem M12 {a0 a1 a2 a3 a4 a5 a6 a7 a8 a9 a10 a11 x:zB} {l:List zB}:x ∈ a0::a1::a2::a3::a4::a5::a6::a7::a8::a9::a10::a11::x::l:=List.mem_cons_of_mem _ (List.mem_cons_of_mem _ (List.mem_cons_of_mem _ (List.mem_cons_of_mem _ (List.mem_cons_of_mem _ (List.mem_cons_of_mem _ (List.mem_cons_of_mem _ (List.mem_cons_of_mem _ (List.mem_cons_of_mem _ (List.mem_cons_of_mem _ (List.mem_cons_of_mem _ (List.mem_cons_of_mem _ (List.mem_cons_self))))))))))))
section
variable {B w:World}
theorem P1 {a0 x:zB} {l:List zB} (h:Holds B (a0::x::l) w):Holds B (x::a0::l) w:=h.pick (i:=1) rfl
theorem P2 {a0 a1 x:zB} {l:List zB} (h:Holds B (a0::a1::x::l) w):Holds B (x::a0::a1::l) w:=h.pick (i:=2) rfl
theorem P3 {a0 a1 a2 x:zB} {l:List zB} (h:Holds B (a0::a1::a2::x::l) w):Holds B (x::a0::a1::a2::l) w:=h.pick (i:=3) rfl
theorem P4 {a0 a1 a2 a3 x:zB} {l:List zB} (h:Holds B (a0::a1::a2::a3::x::l) w):Holds B (x::a0::a1::a2::a3::l) w:=h.pick (i:=4) rfl
theorem P5 {a0 a1 a2 a3 a4 x:zB} {l:List zB} (h:Holds B (a0::a1::a2::a3::a4::x::l) w):Holds B (x::a0::a1::a2::a3::a4::l) w:=h.pick (i:=5) rfl
theorem P6 {a0 a1 a2 a3 a4 a5 x:zB} {l:List zB} (h:Holds B (a0::a1::a2::a3::a4::a5::x::l) w):Holds B (x::a0::a1::a2::a3::a4::a5::l) w:=h.pick (i:=6) rfl
theorem P7 {a0 a1 a2 a3 a4 a5 a6 x:zB} {l:List zB} (h:Holds B (a0::a1::a2::a3::a4::a5::a6::x::l) w):Holds B (x::a0::a1::a2::a3::a4::a5::a6::l) w:=h.pick (i:=7) rfl
theorem P8 {a0 a1 a2 a3 a4 a5 a6 a7 x:zB} {l:List zB} (h:Holds B (a0::a1::a2::a3::a4::a5::a6::a7::x::l) w):Holds B (x::a0::a1::a2::a3::a4::a5::a6::a7::l) w:=h.pick (i:=8) rfl
theorem P9 {a0 a1 a2 a3 a4 a5 a6 a7 a8 x:zB} {l:List zB} (h:Holds B (a0::a1::a2::a3::a4::a5::a6::a7::a8::x::l) w):Holds B (x::a0::a1::a2::a3::a4::a5::a6::a7::a8::l) w:=h.pick (i:=9) rfl
theorem P10 {a0 a1 a2 a3 a4 a5 a6 a7 a8 a9 x:zB} {l:List zB} (h:Holds B (a0::a1::a2::a3::a4::a5::a6::a7::a8::a9::x::l) w):Holds B (x::a0::a1::a2::a3::a4::a5::a6::a7::a8::a9::l) w:=h.pick (i:=10) rfl
theorem D1 {a0 x:zB} {l:List zB} (h:Holds B (a0::x::l) w):Holds B (a0::l) w:=h.del (i:=1) rfl
theorem D2 {a0 a1 x:zB} {l:List zB} (h:Holds B (a0::a1::x::l) w):Holds B (a0::a1::l) w:=h.del (i:=2) rfl
theorem D3 {a0 a1 a2 x:zB} {l:List zB} (h:Holds B (a0::a1::a2::x::l) w):Holds B (a0::a1::a2::l) w:=h.del (i:=3) rfl
theorem D4 {a0 a1 a2 a3 x:zB} {l:List zB} (h:Holds B (a0::a1::a2::a3::x::l) w):Holds B (a0::a1::a2::a3::l) w:=h.del (i:=4) rfl
theorem D5 {a0 a1 a2 a3 a4 x:zB} {l:List zB} (h:Holds B (a0::a1::a2::a3::a4::x::l) w):Holds B (a0::a1::a2::a3::a4::l) w:=h.del (i:=5) rfl
theorem D6 {a0 a1 a2 a3 a4 a5 x:zB} {l:List zB} (h:Holds B (a0::a1::a2::a3::a4::a5::x::l) w):Holds B (a0::a1::a2::a3::a4::a5::l) w:=h.del (i:=6) rfl
theorem D7 {a0 a1 a2 a3 a4 a5 a6 x:zB} {l:List zB} (h:Holds B (a0::a1::a2::a3::a4::a5::a6::x::l) w):Holds B (a0::a1::a2::a3::a4::a5::a6::l) w:=h.del (i:=7) rfl
end
section
variable {α:Type _}
theorem N1 (a b:α) (l:List α):(a::l).set 0 b = b::l:=rfl
theorem N2 (a b:α) (l:List α) (n:Nat):(a::l).set (n + 1) b = a::l.set n b:=rfl
theorem N3 (l:List α):l.eraseIdx 0 = l.tail:=List.eraseIdx_zero
theorem N4 (a:α) (l:List α):(a::l).eraseIdx 0 = l:=rfl
theorem N5 (a:α) (l:List α) (n:Nat):(a::l).eraseIdx (n + 1) = a::l.eraseIdx n:=rfl
theorem N6 (l:List α) (i:Nat) (a:α):l.toArray.setIfInBounds i a = (l.set i a).toArray:=List.setIfInBounds_toArray ..
theorem N7 (a:α) (l:List α):(a::l).tail = l:=rfl
end
section
variable {B w:World} {a:Addr} {b off n:Nat} {cs vs:Array Value} {T:TypeId} {v:Value} {k:K} {l:List zB}
theorem S0 (h:Holds B (blk b (.cells cs T (0,0))::l) w) (ha:a = ⟨b,off,none⟩) (ho:off < cs.size) (hv:qC v = true) (hk:∀ w',Holds B (blk b (.cells (cs.setIfInBounds off v) T (0,0))::l) w'→k w'):St a v k w:=zLh 0 h ha rfl ho (zFD _) hv hk
theorem T0 (h:Holds B (blk b (.cells cs T (0,0))::l) w) (ha:a = ⟨b,0,none⟩) (hn:cs.size = n) (hv:vs.size = n) (hfl:∀ v ∈ vs.toList,qC v = true) (hk:∀ w',Holds B (blk b (.cells vs T (0,0))::l) w'→k w'):StN a n vs k w:=zHM 0 h ha rfl hn hv (fun _ _=>zFD _) hfl hk
theorem S1 {a0:zB} (h:Holds B (a0::blk b (.cells cs T (0,0))::l) w) (ha:a = ⟨b,off,none⟩) (ho:off < cs.size) (hv:qC v = true) (hk:∀ w',Holds B (a0::blk b (.cells (cs.setIfInBounds off v) T (0,0))::l) w'→k w'):St a v k w:=zLh 1 h ha rfl ho (zFD _) hv hk
theorem T1 {a0:zB} (h:Holds B (a0::blk b (.cells cs T (0,0))::l) w) (ha:a = ⟨b,0,none⟩) (hn:cs.size = n) (hv:vs.size = n) (hfl:∀ v ∈ vs.toList,qC v = true) (hk:∀ w',Holds B (a0::blk b (.cells vs T (0,0))::l) w'→k w'):StN a n vs k w:=zHM 1 h ha rfl hn hv (fun _ _=>zFD _) hfl hk
theorem S2 {a0 a1:zB} (h:Holds B (a0::a1::blk b (.cells cs T (0,0))::l) w) (ha:a = ⟨b,off,none⟩) (ho:off < cs.size) (hv:qC v = true) (hk:∀ w',Holds B (a0::a1::blk b (.cells (cs.setIfInBounds off v) T (0,0))::l) w'→k w'):St a v k w:=zLh 2 h ha rfl ho (zFD _) hv hk
theorem T2 {a0 a1:zB} (h:Holds B (a0::a1::blk b (.cells cs T (0,0))::l) w) (ha:a = ⟨b,0,none⟩) (hn:cs.size = n) (hv:vs.size = n) (hfl:∀ v ∈ vs.toList,qC v = true) (hk:∀ w',Holds B (a0::a1::blk b (.cells vs T (0,0))::l) w'→k w'):StN a n vs k w:=zHM 2 h ha rfl hn hv (fun _ _=>zFD _) hfl hk
theorem S3 {a0 a1 a2:zB} (h:Holds B (a0::a1::a2::blk b (.cells cs T (0,0))::l) w) (ha:a = ⟨b,off,none⟩) (ho:off < cs.size) (hv:qC v = true) (hk:∀ w',Holds B (a0::a1::a2::blk b (.cells (cs.setIfInBounds off v) T (0,0))::l) w'→k w'):St a v k w:=zLh 3 h ha rfl ho (zFD _) hv hk
theorem T3 {a0 a1 a2:zB} (h:Holds B (a0::a1::a2::blk b (.cells cs T (0,0))::l) w) (ha:a = ⟨b,0,none⟩) (hn:cs.size = n) (hv:vs.size = n) (hfl:∀ v ∈ vs.toList,qC v = true) (hk:∀ w',Holds B (a0::a1::a2::blk b (.cells vs T (0,0))::l) w'→k w'):StN a n vs k w:=zHM 3 h ha rfl hn hv (fun _ _=>zFD _) hfl hk
theorem S4 {a0 a1 a2 a3:zB} (h:Holds B (a0::a1::a2::a3::blk b (.cells cs T (0,0))::l) w) (ha:a = ⟨b,off,none⟩) (ho:off < cs.size) (hv:qC v = true) (hk:∀ w',Holds B (a0::a1::a2::a3::blk b (.cells (cs.setIfInBounds off v) T (0,0))::l) w'→k w'):St a v k w:=zLh 4 h ha rfl ho (zFD _) hv hk
theorem T4 {a0 a1 a2 a3:zB} (h:Holds B (a0::a1::a2::a3::blk b (.cells cs T (0,0))::l) w) (ha:a = ⟨b,0,none⟩) (hn:cs.size = n) (hv:vs.size = n) (hfl:∀ v ∈ vs.toList,qC v = true) (hk:∀ w',Holds B (a0::a1::a2::a3::blk b (.cells vs T (0,0))::l) w'→k w'):StN a n vs k w:=zHM 4 h ha rfl hn hv (fun _ _=>zFD _) hfl hk
theorem S5 {a0 a1 a2 a3 a4:zB} (h:Holds B (a0::a1::a2::a3::a4::blk b (.cells cs T (0,0))::l) w) (ha:a = ⟨b,off,none⟩) (ho:off < cs.size) (hv:qC v = true) (hk:∀ w',Holds B (a0::a1::a2::a3::a4::blk b (.cells (cs.setIfInBounds off v) T (0,0))::l) w'→k w'):St a v k w:=zLh 5 h ha rfl ho (zFD _) hv hk
theorem T5 {a0 a1 a2 a3 a4:zB} (h:Holds B (a0::a1::a2::a3::a4::blk b (.cells cs T (0,0))::l) w) (ha:a = ⟨b,0,none⟩) (hn:cs.size = n) (hv:vs.size = n) (hfl:∀ v ∈ vs.toList,qC v = true) (hk:∀ w',Holds B (a0::a1::a2::a3::a4::blk b (.cells vs T (0,0))::l) w'→k w'):StN a n vs k w:=zHM 5 h ha rfl hn hv (fun _ _=>zFD _) hfl hk
theorem S6 {a0 a1 a2 a3 a4 a5:zB} (h:Holds B (a0::a1::a2::a3::a4::a5::blk b (.cells cs T (0,0))::l) w) (ha:a = ⟨b,off,none⟩) (ho:off < cs.size) (hv:qC v = true) (hk:∀ w',Holds B (a0::a1::a2::a3::a4::a5::blk b (.cells (cs.setIfInBounds off v) T (0,0))::l) w'→k w'):St a v k w:=zLh 6 h ha rfl ho (zFD _) hv hk
theorem T6 {a0 a1 a2 a3 a4 a5:zB} (h:Holds B (a0::a1::a2::a3::a4::a5::blk b (.cells cs T (0,0))::l) w) (ha:a = ⟨b,0,none⟩) (hn:cs.size = n) (hv:vs.size = n) (hfl:∀ v ∈ vs.toList,qC v = true) (hk:∀ w',Holds B (a0::a1::a2::a3::a4::a5::blk b (.cells vs T (0,0))::l) w'→k w'):StN a n vs k w:=zHM 6 h ha rfl hn hv (fun _ _=>zFD _) hfl hk
theorem S7 {a0 a1 a2 a3 a4 a5 a6:zB} (h:Holds B (a0::a1::a2::a3::a4::a5::a6::blk b (.cells cs T (0,0))::l) w) (ha:a = ⟨b,off,none⟩) (ho:off < cs.size) (hv:qC v = true) (hk:∀ w',Holds B (a0::a1::a2::a3::a4::a5::a6::blk b (.cells (cs.setIfInBounds off v) T (0,0))::l) w'→k w'):St a v k w:=zLh 7 h ha rfl ho (zFD _) hv hk
theorem T7 {a0 a1 a2 a3 a4 a5 a6:zB} (h:Holds B (a0::a1::a2::a3::a4::a5::a6::blk b (.cells cs T (0,0))::l) w) (ha:a = ⟨b,0,none⟩) (hn:cs.size = n) (hv:vs.size = n) (hfl:∀ v ∈ vs.toList,qC v = true) (hk:∀ w',Holds B (a0::a1::a2::a3::a4::a5::a6::blk b (.cells vs T (0,0))::l) w'→k w'):StN a n vs k w:=zHM 7 h ha rfl hn hv (fun _ _=>zFD _) hfl hk
theorem S8 {a0 a1 a2 a3 a4 a5 a6 a7:zB} (h:Holds B (a0::a1::a2::a3::a4::a5::a6::a7::blk b (.cells cs T (0,0))::l) w) (ha:a = ⟨b,off,none⟩) (ho:off < cs.size) (hv:qC v = true) (hk:∀ w',Holds B (a0::a1::a2::a3::a4::a5::a6::a7::blk b (.cells (cs.setIfInBounds off v) T (0,0))::l) w'→k w'):St a v k w:=zLh 8 h ha rfl ho (zFD _) hv hk
theorem T8 {a0 a1 a2 a3 a4 a5 a6 a7:zB} (h:Holds B (a0::a1::a2::a3::a4::a5::a6::a7::blk b (.cells cs T (0,0))::l) w) (ha:a = ⟨b,0,none⟩) (hn:cs.size = n) (hv:vs.size = n) (hfl:∀ v ∈ vs.toList,qC v = true) (hk:∀ w',Holds B (a0::a1::a2::a3::a4::a5::a6::a7::blk b (.cells vs T (0,0))::l) w'→k w'):StN a n vs k w:=zHM 8 h ha rfl hn hv (fun _ _=>zFD _) hfl hk
end
end
section
open Go Go.RowKit
def HG (B:World) (Γ:List zB) (k:K):Prop:=∀ w,Holds B Γ w→k w
class Own (b:Nat) (Γ:List zB) (A:outParam zB) (Δ:outParam (List zB)):Prop where perm:Γ.Perm (A::Δ)
class zCs (s:Sl) (Γ:List zB) (A:outParam zB) (Δ:outParam (List zB)):Prop where perm:Γ.Perm (A::Δ)
class Pick (A:zB) (Γ:List zB) (Δ:outParam (List zB)):Prop where perm:Γ.Perm (A::Δ)
class Drops (Γ Δ:List zB):Prop where imp:∀ {h:Hp},stars Γ h→stars Δ h
theorem zF4 {A X:zB} {Γ Δ:List zB} (h:Γ.Perm (A::Δ)):(X::Γ).Perm (A::X::Δ):=(h.cons X).trans (List.Perm.swap _ _ _)
instance (priority:=low) zZe {b:Nat} {X A:zB} {Γ Δ:List zB} [h:Own b Γ A Δ]:Own b (X::Γ) A (X::Δ):=⟨zF4 h.perm⟩
instance (priority:=high) zZ5 {b:Nat} {o:Obj} {Γ:List zB}:Own b (blk b o::Γ) (blk b o) Γ:=⟨.refl _⟩
instance (priority:=low) zYm {s:Sl} {X A:zB} {Γ Δ:List zB} [h:zCs s Γ A Δ]:zCs s (X::Γ) A (X::Δ):=⟨zF4 h.perm⟩
instance (priority:=high) zWF {E esz:Nat} {s:Sl} {vs:List Value} {Γ:List zB}:zCs s (SlC E esz s vs::Γ) (SlC E esz s vs) Γ:=⟨.refl _⟩
instance (priority:=high) zZ6 {E:Nat} {s:Sl} {vs:List UInt8} {Γ:List zB}:zCs s (Bytes E s vs::Γ) (Bytes E s vs) Γ:=⟨.refl _⟩
instance (priority:=low) zYn {A X:zB} {Γ Δ:List zB} [h:Pick A Γ Δ]:Pick A (X::Γ) (X::Δ):=⟨zF4 h.perm⟩
instance (priority:=high) zYo {A:zB} {Γ:List zB}:Pick A (A::Γ) Γ:=⟨.refl _⟩
instance (priority:=high) zYG {A:zB} {Γ Γ' Δ:List zB} [p:Pick A Γ Γ'] [d:Drops Γ' Δ]:Drops Γ (A::Δ):=⟨fun h=>zBH (fun _ h=>h) (fun _ h=>d.imp h) (zKL p.perm h)⟩
instance zYH {Γ:List zB}:Drops Γ Γ:=⟨fun h=>h⟩
instance (priority:=low) zYp {Γ:List zB}:Drops Γ []:=⟨fun _=>trivial⟩
instance (priority:=low) zYI {A:zB} {Γ Δ:List zB} [d:Drops Γ Δ]:Drops (A::Γ) Δ:=⟨fun h=>d.imp (zKJ h)⟩
section
variable {B w:World} {Γ Δ:List zB} {k:K} {A A':zB}
theorem Holds.drops (h:Holds B Γ w) [d:Drops Γ Δ]:Holds B Δ w:=⟨h.below,d.imp h.stars⟩
theorem hg (h:Holds B Γ w) (hk:HG B Γ k):k w:=hk w h
theorem zI (h:HG B Δ k) [d:Drops Γ Δ]:HG B Γ k:=fun w hw=>h w hw.drops
theorem zEi (hi:∀ h,A h→A' h) (h:HG B (A'::Γ) k):HG B (A::Γ) k:=fun w hw=>h w (hw.imp hi)
theorem zD3 {α:Sort _} {F:α→zB} (h:∀ x,HG B (F x::Γ) k):HG B (Sep.ex F::Γ) k:=fun w hw=>by
 obtain ⟨x,hx⟩:=Holds.ex.1 hw; exact h x w hx
theorem zHd {p:Prop} (h:p→HG B Γ k):HG B (pur p::Γ) k:=fun w hw=>by
 obtain ⟨hp,hx⟩:=Holds.pur.1 hw; exact h hp w hx
theorem zCY (h:HG B (Δ++Γ) k):HG B (Sep.stars Δ::Γ) k:=fun w hw=>h w (Holds.flat.1 hw)
theorem zOx (h:HG B (Sep.stars Δ::Γ) k):HG B (Δ++Γ) k:=fun w hw=>h w (Holds.flat.2 hw)
theorem zUJ {α:Sort _} {F:α→zB} (x:α) (h:HG B (Sep.ex F::Γ) k):HG B (F x::Γ) k:=fun w hw=>h w (Holds.ex.2 ⟨x,hw⟩)
theorem zWG {p:Prop} (hp:p) (h:HG B (pur p::Γ) k):HG B Γ k:=fun w hw=>h w (Holds.pur.2 ⟨hp,hw⟩)
theorem jF (A:zB) (h:HG B (A::Δ) k) [p:Pick A Γ Δ]:HG B Γ k:=fun w hw=>h w (hw.perm p.perm)
theorem vH (b:Nat) (h:HG B (A::Δ) k) [p:Own b Γ A Δ]:HG B Γ k:=fun w hw=>h w (hw.perm p.perm)
theorem zGt (s:Sl) (h:HG B (A::Δ) k) [p:zCs s Γ A Δ]:HG B Γ k:=fun w hw=>h w (hw.perm p.perm)
theorem vD (h:HG B (A'::A::Γ) k):HG B (A::A'::Γ) k:=fun w hw=>h w hw.swap
theorem yA {b:Bool} {x y:K} (h1:b = true→HG B Γ x) (h2:b = false→HG B Γ y):HG B Γ (Ite b x y):=fun w hw=>⟨fun hb=>h1 hb w hw,fun hb=>h2 hb w hw⟩
theorem s_t {b:Bool} {x y:K} (h:HG B Γ x) (hb:b = true:=by first | rfl | (simp; done) | (simp; omega)):HG B Γ (Ite b x y):=fun w hw=>qO hb (h w hw)
theorem s_f {b:Bool} {x y:K} (h:HG B Γ y) (hb:b = false:=by first | rfl | (simp; done) | (simp; omega)):HG B Γ (Ite b x y):=fun w hw=>yH hb (h w hw)
theorem vI {e e':Int} {k:Int→K} (he:e = e') (h:HG B Γ (k e')):HG B Γ (Ar e k):=fun w hw=>qP he (h w hw)
theorem zAn {e:Int} {k:Int→K} (h:HG B Γ (k e)) (h0:-9223372036854775808 ≤ e:=by omega) (h1:e ≤ 9223372036854775807:=by omega):HG B Γ (Ar (IntKind.wrap .i64 e) k):=vI (wrap64 h0 h1) h
theorem zNc {p:Prop} (hp:p) (h:HG B Γ k):HG B Γ (Cd p k):=fun w hw=>⟨hp,h w hw⟩
theorem xM {a:Addr} {k:Addr→K} (h:HG B Γ (k a)):HG B Γ (Nn (some a) k):=fun w hw=>⟨a,rfl,h w hw⟩
theorem zAQ (h:HG B Γ k):HG B Γ (Dr k):=fun w hw=>zB8 hw fun w hw=>h w hw
theorem zIc {k:(World→Prop)→K} (h:HG B Γ (k (Holds B Γ))):HG B Γ (xW k):=fun w hw=>⟨Holds B Γ,hw,h w hw⟩
theorem zBb (h:HG B Γ k) [d:Drops Γ Δ]:HG B Γ (Sv (Holds B Δ) k):=fun w hw=>⟨hw.drops,h w hw⟩
theorem zZf {α:Type} {cs:List Value} {off:Nat} {c:α→Value} {x:α} {k:α→K} (h:HG B Γ (k x)) (hv:nth cs off = some (c x):=by rfl):HG B Γ (Fld cs.toArray off c k):=fun w hw=>⟨x,by rw [zGq] at hv; simpa using hv,h w hw⟩
theorem zOy {a b:ByteArray} {k:ByteArray→K} (hl:((a.size + b.size:Nat):Int) ≤ 9223372036854775807) (h:HG B Γ (k (a++b))):HG B Γ (Cat a b k):=fun w hw=>⟨_,hl,rfl,h w hw⟩
theorem zZg {zero:Array Value} {pl:List (Nat×Nat)} {vs:List (Nat×Value)} {cs:List Value} {k:Array Value→K} (h:HG B Γ (k cs.toArray)) (hc:Instr.fill (pl[·]?) zero vs = some cs.toArray:=by rfl):HG B Γ (Bld zero (pl[·]?) vs k):=fun w hw=>⟨_,hc,h w hw⟩
theorem zGu {zero:List Value} {cs:List Value} {n:Nat} {k:Array Value→K} (h:HG B Γ (k cs.toArray)) (hz:zero.length = n:=by rfl) (hn:cs.length = n:=by rfl):HG B Γ (Bld zero.toArray (fun i=>some (i * n,n)) [(0,.agg cs.toArray)] k):=fun w hw=>zQO (by simpa using hz) (by simpa using hn) (h w hw)
class zCv (a:Addr) (b off:outParam Nat):Prop where h:a = ⟨b,off,none⟩
instance zaj {b off:Nat}:zCv ⟨b,off,none⟩ b off:=⟨rfl⟩
instance zZ7 {b off n:Nat}:zCv ((⟨b,off,none⟩:Addr).add n) b (off + n):=⟨zR _ _ _⟩
theorem ql {T:TypeId} {cs:Array Value} {k:Addr→K} (h:∀ b,HG B (blk b (.cells cs T (0,0))::Γ) (k ⟨b,0,none⟩)):HG B Γ (New T cs k):=fun w hw=>xE hw fun b w hw=>h b w hw
theorem zF5 {b:Nat} {o:Obj} (h:Holds B Γ w) [p:Own b Γ (blk b o) Δ]:w.heap[b]? = some o:=(h.perm p.perm).block
theorem yE {α:Type} {a:Addr} {b off:Nat} {l:List Value} {T:TypeId} {fz:Nat×Nat} {c:α→Value} {x:α} {k:α→K} (h:HG B Γ (k x)) [ad:zCv a b off] [p:Own b Γ (blk b (.cells l.toArray T fz)) Δ] (hv:nth l off = some (c x):=by rfl):HG B Γ (Ld a c k):=fun w hw=>
 ⟨x,by rw [ad.h]; exact uz (zF5 hw (p:=p)) (by rw [zGq] at hv; simpa using hv),h w hw⟩
theorem zRY {b off n:Nat} {l l':List Value} {T:TypeId} {fz:Nat×Nat} (h:w.heap[b]? = some (.cells l.toArray T fz)) (hl:(l.drop off).take n = l') (hn:l'.length = n):RdN w ⟨b,off,none⟩ l'.toArray:=by
 refine zFy h fun i hi=>?_
 have hi':i < l'.length:=by simpa using hi
 have:l'[i]? = l[off + i]?:=by rw [← hl,List.getElem?_take,if_pos (by omega),List.getElem?_drop]
 simpa using this.symm
theorem zDH {a:Addr} {b off n:Nat} {l l':List Value} {T:TypeId} {fz:Nat×Nat} {k:Array Value→K} (h:HG B Γ (k l'.toArray)) [ad:zCv a b off] [p:Own b Γ (blk b (.cells l.toArray T fz)) Δ]
  (hl:(l.drop off).take n = l':=by first | rfl | simp only [Nat.zero_add,Nat.reduceAdd,List.drop_zero,List.drop_succ_cons,List.take_succ_cons,List.take_zero]) (hn:l'.length = n:=by rfl):HG B Γ (LdN a n k):=fun w hw=>
 ⟨l'.toArray,by simpa using hn,by rw [ad.h]; exact zRY (zF5 hw (p:=p)) hl hn,h w hw⟩
variable {Γ0:List zB}
theorem jR {α:Type} {a:Addr} {b off:Nat} {l:List Value} {T:TypeId} {fz:Nat×Nat} {c:α→Value} {x:α} {k:α→K} (h:HG B Γ (k x)) [ad:zCv a b off] [p:Own b Γ0 (blk b (.cells l.toArray T fz)) Δ] (hv:nth l off = some (c x):=by rfl):HG B Γ (LdS (Holds B Γ0) a c k):=fun w hw=>
 ⟨x,fun w' hw'=>by rw [ad.h]; exact uz (zF5 hw' (p:=p)) (by rw [zGq] at hv; simpa using hv),h w hw⟩
theorem zKd {a:Addr} {b off n:Nat} {l l':List Value} {T:TypeId} {fz:Nat×Nat} {k:Array Value→K} (h:HG B Γ (k l'.toArray)) [ad:zCv a b off] [p:Own b Γ0 (blk b (.cells l.toArray T fz)) Δ]
  (hl:(l.drop off).take n = l':=by first | rfl | simp only [Nat.zero_add,Nat.reduceAdd,List.drop_zero,List.drop_succ_cons,List.take_succ_cons,List.take_zero]) (hn:l'.length = n:=by rfl):HG B Γ (zBt (Holds B Γ0) a n k):=fun w hw=>
 ⟨l'.toArray,by simpa using hn,fun w' hw'=>by rw [ad.h]; exact zRY (zF5 hw' (p:=p)) hl hn,h w hw⟩
theorem t0 {v x0:Value} {l:List Value}:(x0::l).set 0 v = v::l:=rfl
theorem t1 {v x0 x1:Value} {l:List Value}:(x0::x1::l).set 1 v = x0::v::l:=rfl
theorem t2 {v x0 x1 x2:Value} {l:List Value}:(x0::x1::x2::l).set 2 v = x0::x1::v::l:=rfl
theorem t3 {v x0 x1 x2 x3:Value} {l:List Value}:(x0::x1::x2::x3::l).set 3 v = x0::x1::x2::v::l:=rfl
theorem t4 {v x0 x1 x2 x3 x4:Value} {l:List Value}:(x0::x1::x2::x3::x4::l).set 4 v = x0::x1::x2::x3::v::l:=rfl
theorem t5 {v x0 x1 x2 x3 x4 x5:Value} {l:List Value}:(x0::x1::x2::x3::x4::x5::l).set 5 v = x0::x1::x2::x3::x4::v::l:=rfl
theorem t6 {v x0 x1 x2 x3 x4 x5 x6:Value} {l:List Value}:(x0::x1::x2::x3::x4::x5::x6::l).set 6 v = x0::x1::x2::x3::x4::x5::v::l:=rfl
theorem t7 {v x0 x1 x2 x3 x4 x5 x6 x7:Value} {l:List Value}:(x0::x1::x2::x3::x4::x5::x6::x7::l).set 7 v = x0::x1::x2::x3::x4::x5::x6::v::l:=rfl
theorem zUK {l l':List Value} {off:Nat} {v:Value} (h:l.set off v = l':=by first | exact t0 | exact t1 | exact t2 | exact t3 | exact t4 | exact t5 | exact t6 | exact t7 | rfl):l.set off v = l':=h
theorem zAd {a:Addr} {b off:Nat} {l l':List Value} {T:TypeId} {v:Value} (h:HG B (blk b (.cells l'.toArray T (0,0))::Δ) k) [ad:zCv a b off] [p:Own b Γ (blk b (.cells l.toArray T (0,0))) Δ] (ho:Nat.ble (off + 1) l.length = true:=by rfl)
  (hl:l.set off v = l':=by exact zUK) (hv:qC v = true:=by rfl):HG B Γ (St a v k):=fun w hw=>by
 have h1:=hw.perm p.perm
 refine S0 h1 ad.h (by have:=Nat.le_of_ble_eq_true ho; simp only [List.size_toArray]; omega) hv fun w2 h2=>h w2 ?_
 rw [N6,hl] at h2; exact h2
theorem zDI {a:Addr} {b n:Nat} {l l':List Value} {T:TypeId} (h:HG B (blk b (.cells l'.toArray T (0,0))::Δ) k) [ad:zCv a b 0] [p:Own b Γ (blk b (.cells l.toArray T (0,0))) Δ] (hn:l.length = n:=by rfl) (hn':l'.length = n:=by rfl)
  (hf:l'.all qC = true:=by rfl):HG B Γ (StN a n l'.toArray k):=fun w hw=>
 T0 (hw.perm p.perm) ad.h (by simpa using hn) (by simpa using hn') (fun v hv=>List.all_eq_true.1 hf v (by simpa using hv)) fun w2 h2=>h w2 h2
def elA (s:Sl) (i esz:Nat):Addr:=(s.a.getD ⟨0,0,none⟩).add (i * esz)
theorem uL {s:Sl} {E esz:Nat} {vs:List Value} (h:Holds B Γ w) [p:zCs s Γ (SlC E esz s vs) Δ]:RdC w s esz vs∧vs.length = s.n * esz∧s.n ≤ s.c∧(∀ a,s.a = some a→a.spot = none)∧(s.a = none→s.c = 0):=by
 have h1:=h.perm p.perm
 exact ⟨h1.rdC List.mem_cons_self,h1.zAm⟩
theorem zHe {s:Sl} {E esz:Nat} {vs:List Value} (h:Holds B Γ w) (p:zCs s Γ (SlC E esz s vs) Δ):vs.length = s.n * esz∧s.n ≤ s.c∧(∀ a,s.a = some a→a.spot = none)∧(s.a = none→s.c = 0):=(uL h (p:=p)).2
theorem vw (s:Sl) {E esz:Nat} {vs:List Value} [p:zCs s Γ (SlC E esz s vs) Δ] (h:vs.length = s.n * esz→s.n ≤ s.c→(∀ a,s.a = some a→a.spot = none)→(s.a = none→s.c = 0)→HG B Γ k):HG B Γ k:=fun w hw=>by
 obtain ⟨h1,h2,h3,h4⟩:=zHe hw p
 exact h h1 h2 h3 h4 w hw
theorem zCQ {s:Sl} {i:Nat} {ii:Int} {esz:Nat} {E:Nat} {vs:List Value} {k:Addr→K} (h:HG B Γ (k (elA s i esz))) [p:zCs s Γ (SlC E esz s vs) Δ] (hi:ii = (i:Int):=by first | rfl | omega) (hn:i < s.n:=by omega):HG B Γ (Idx s ii esz k):=fun w hw=>by
 obtain ⟨h1,h2,h3,h4⟩:=zHe hw p
 subst hi
 cases ha:s.a with
 | none=>have:=h4 ha; omega
 | some a=>exact ⟨a,elA s i esz,ha,by omega,by omega,by simp [elA,ha],h w hw⟩
theorem zRZ {s:Sl} {i off esz:Nat} {vs:List Value} {v:Value} (h:RdC w s esz vs) (hsp:∀ a,s.a = some a→a.spot = none) (hv:vs[i * esz + off]? = some v):w.cell? ((elA s i esz).add off) = some v:=by
 have hlt:=(List.getElem?_eq_some_iff.1 hv).1
 cases ha:s.a with
 | none=>have:=h.nil ha; have:=h.len; simp_all
 | some a=>
  have h1:=h.at' a ha _ hlt
  simp only [elA,ha,Option.getD_some]
  rw [add_add' _ (hsp a ha),h1,hv]
theorem zZh {α:Type} {s:Sl} {i off esz E:Nat} {vs:List Value} {c:α→Value} {x:α} {k:α→K} (hv:vs[i * esz + off]? = some (c x)) (h:HG B Γ (k x)) [p:zCs s Γ (SlC E esz s vs) Δ]:HG B Γ (Ld ((elA s i esz).add off) c k):=fun w hw=>by
 obtain ⟨h0,h1,h2,h3,h4⟩:=uL hw (p:=p)
 exact ⟨x,zRZ h0 h3 hv,h w hw⟩
theorem add0 (a:Addr):a.add 0 = a:=by simp [Addr.add]
theorem zGv {α:Type} {s:Sl} {i esz E:Nat} {vs:List Value} {c:α→Value} {x:α} {k:α→K} (hv:vs[i * esz]? = some (c x)) (h:HG B Γ (k x)) [p:zCs s Γ (SlC E esz s vs) Δ]:HG B Γ (Ld (elA s i esz) c k):=by
 rw [← add0 (elA s i esz)]; exact zZh (by simpa using hv) h
theorem zFa {s:Sl} {i off n esz E:Nat} {vs:List Value} {l':List Value} {k:Array Value→K} (hv:(vs.drop (i * esz + off)).take n = l') (hn:l'.length = n) (h:HG B Γ (k l'.toArray)) [p:zCs s Γ (SlC E esz s vs) Δ]:HG B Γ (LdN ((elA s i esz).add off) n k):=fun w hw=>by
 obtain ⟨h0,h1,h2,h3,h4⟩:=uL hw (p:=p)
 refine ⟨l'.toArray,by simpa using hn,fun j hj=>?_,h w hw⟩
 have hj':j < l'.length:=by simpa using hj
 have hx:vs[i * esz + (off + j)]? = some l'[j]:=by
  have:l'[j]? = vs[i * esz + off + j]?:=by rw [← hv,List.getElem?_take,if_pos (by omega),List.getElem?_drop]
  rw [← Nat.add_assoc,← this,List.getElem?_eq_getElem hj']
 have h5:=zRZ h0 h3 hx
 have h6:((elA s i esz).add off).add j = (elA s i esz).add (off + j):=by
  cases ha:s.a with
  | none=>have:=h0.nil ha; have h7:=(List.getElem?_eq_some_iff.1 hx).1; simp_all
  | some a=>
   simp only [elA,ha,Option.getD_some]
   have hsp:(a.add (i * esz)).spot = none:=by obtain ⟨b,o,t⟩:=a; have:=h3 _ ha; simp only at this; subst this; rw [zR]
   rw [add_add' _ hsp]
 rw [h6,h5]; simp [hj']
end
end
end Go.Sep
