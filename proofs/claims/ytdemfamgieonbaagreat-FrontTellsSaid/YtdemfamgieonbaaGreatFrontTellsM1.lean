/- Texts of the claim FrontTells, one behind the other. -/
import Derived.Below
import Derived.Calls
import Derived.OrdersHeld
import Derived.Still
import Derived.Tactics
import Derived.Laws.Sem
import Derived.KernelRfl
import Derived.Laws.Bits
import Derived.Deep.Slices
import Derived.Carry
import Derived.ProofKit
import Derived.OpenShut
import Derived.Laws.BytesString
import Derived.Laws.Strings
import Derived.RangeFuncRecord
import Derived.RangeFuncSeq
import Derived.RangeFuncCalls
import Derived.TacticsIn
import Derived.OrdersIn
import Derived.Laws.Externs
import Derived.Lib.Overlaps
import Derived.MapKept
import GoSem.Instr.MapUpdate
import Derived.Shelf.SortM.Plain
import Derived.Shelf.SortM.SortNone
import Derived.Ground.SlgmProg
import Derived.Test.YtdemfamgieonbaaGreatProg
set_option linter.all false
namespace Go.Sep
open Go Go.RowKit
abbrev Hp:=Nat→Option Obj
abbrev HProp:=Hp→Prop
def Hp.le (h g:Hp):Prop:=∀ b o,h b = some o→g b = some o
def Hp.disj (h g:Hp):Prop:=∀ b,h b = none∨g b = none
def Hp.one (b:Nat) (o:Obj):Hp:=fun c=>if c = b then some o else none
def Hp.or (h g:Hp):Hp:=fun b=>match h b with | some o=>some o | none=>g b
theorem Hp.le_refl (h:Hp):h.le h:=fun _ _ e=>e
theorem Hp.le_trans {a b c:Hp} (h:a.le b) (g:b.le c):a.le c:=fun k o e=>g k o (h k o e)
theorem Hp.zF3 {a b:Hp} (h:a.disj b):b.disj a:=fun k=>(h k).symm
theorem Hp.zEh {a b c d:Hp} (h:a.disj b) (hc:c.le a) (hd:d.le b):c.disj d:=fun k=>by
 rcases h k with h | h
 ·left; cases e:c k with
  | none=>rfl
  | some o=>have:=hc k o e; rw [h] at this; cases this
 ·right; cases e:d k with
  | none=>rfl
  | some o=>have:=hd k o e; rw [h] at this; cases this
theorem Hp.zHm (a b:Hp):a.le (a.or b):=fun k o e=>by simp [Hp.or,e]
theorem Hp.zG5 {a b:Hp} (h:a.disj b):b.le (a.or b):=fun k o e=>by
 rcases h k with h | h
 ·simp [Hp.or,h,e]
 ·rw [h] at e; cases e
theorem Hp.or_le {a b c:Hp} (ha:a.le c) (hb:b.le c):(a.or b).le c:=fun k o e=>by
 unfold Hp.or at e
 split at e
 ·rename_i x hx; cases e; exact ha _ _ hx
 ·exact hb _ _ e
theorem Hp.zLX {a b c:Hp} (ha:a.disj c) (hb:b.disj c):(a.or b).disj c:=fun k=>by
 rcases hb k with h | h
 ·rcases ha k with g | g
  ·left; simp [Hp.or,g,h]
  ·right; exact g
 ·right; exact h
def blk (b:Nat) (o:Obj):HProp:=fun h=>h b = some o
def pur (p:Prop):HProp:=fun _=>p
def ex {α:Sort _} (A:α→HProp):HProp:=fun h=>∃ x,A x h
def stars:List HProp→HProp
 | [],_=>True
 | A::Γ,h=>∃ h1 h2,A h1∧stars Γ h2∧h1.le h∧h2.le h∧h1.disj h2
theorem zNG {Γ:List HProp} {h g:Hp} (hs:stars Γ h) (hl:h.le g):stars Γ g:=by
 cases Γ with
 | nil=>trivial
 | cons A Γ =>
  obtain ⟨h1,h2,a,b,l1,l2,d⟩:=hs
  exact ⟨h1,h2,a,b,Hp.le_trans l1 hl,Hp.le_trans l2 hl,d⟩
theorem zKr {A:HProp} {Γ:List HProp} {h:Hp} (hs:stars (A::Γ) h):stars Γ h:=by
 obtain ⟨h1,h2,_,b,_,l2,_⟩:=hs
 exact zNG b l2
theorem zKs {A B:HProp} {Γ:List HProp} {h:Hp} (hs:stars (A::B::Γ) h):stars (B::A::Γ) h:=by
 obtain ⟨h1,h2,a,⟨h3,h4,b,c,l3,l4,d'⟩,l1,l2,d⟩:=hs
 refine ⟨h3,h1.or h4,b,⟨h1,h4,a,c,Hp.zHm _ _,?_,?_⟩,Hp.le_trans l3 l2,Hp.or_le l1 (Hp.le_trans l4 l2),?_⟩
 ·exact Hp.zG5 (Hp.zEh d (Hp.le_refl _) l4)
 ·exact Hp.zEh d (Hp.le_refl _) l4
 ·exact Hp.zF3 (Hp.zLX (Hp.zEh d (Hp.le_refl _) l3) (Hp.zF3 d'))
theorem zD9 {A B:HProp} {Γ Δ:List HProp} {h:Hp} (ha:∀ h,A h→B h) (hg:∀ h,stars Γ h→stars Δ h) (hs:stars (A::Γ) h):stars (B::Δ) h:=by
 obtain ⟨h1,h2,a,b,l1,l2,d⟩:=hs
 exact ⟨h1,h2,ha _ a,hg _ b,l1,l2,d⟩
theorem zKt {Γ Δ:List HProp} (hp:Γ.Perm Δ):∀ {h:Hp},stars Γ h→stars Δ h:=by
 induction hp with
 | nil=>exact fun h=>h
 | cons x _ ih=>exact fun h=>zD9 (fun _ h=>h) (fun _ h=>ih h) h
 | swap x y l=>exact zKs
 | trans _ _ ih1 ih2=>exact fun h=>ih2 (ih1 h)
theorem zNH {Γ Δ:List HProp}:∀ {h:Hp},stars (Γ++Δ) h ↔ ∃ h1 h2,stars Γ h1∧stars Δ h2∧h1.le h∧h2.le h∧h1.disj h2:=by
 induction Γ with
 | nil =>
  intro h
  constructor
  ·intro hs; exact ⟨fun _=>none,h,trivial,hs,fun _ _ e=>(by cases e),Hp.le_refl _,fun _=>.inl rfl⟩
  ·rintro ⟨_,h2,_,hs,_,l,_⟩; exact zNG hs l
 | cons A Γ ih =>
  intro h
  constructor
  ·rintro ⟨h1,h2,a,b,l1,l2,d⟩
   obtain ⟨h3,h4,c,e,l3,l4,d'⟩:=ih.1 b
   refine ⟨h1.or h3,h4,⟨h1,h3,a,c,Hp.zHm _ _,Hp.zG5 (Hp.zEh d (Hp.le_refl _) l3),Hp.zEh d (Hp.le_refl _) l3⟩,e,Hp.or_le l1 (Hp.le_trans l3 l2),Hp.le_trans l4 l2,?_⟩
   exact Hp.zLX (Hp.zEh d (Hp.le_refl _) l4) d'
  ·rintro ⟨h1,h2,⟨h3,h4,a,c,l3,l4,d'⟩,b,l1,l2,d⟩
   refine ⟨h3,h4.or h2,a,ih.2 ⟨h4,h2,c,b,Hp.zHm _ _,Hp.zG5 (Hp.zEh d l4 (Hp.le_refl _)),Hp.zEh d l4 (Hp.le_refl _)⟩,Hp.le_trans l3 l1,Hp.or_le (Hp.le_trans l4 l1) l2,?_⟩
   exact Hp.zF3 (Hp.zLX (Hp.zF3 d') (Hp.zF3 (Hp.zEh d l3 (Hp.le_refl _))))
def own (B w:World):Hp:=fun b=>if b < B.heap.size then none else w.heap[b]?
theorem zGW {B w:World} {b:Nat} {o:Obj} (h:own B w b = some o):B.heap.size ≤ b∧w.heap[b]? = some o:=by
 unfold own at h
 split at h
 ·cases h
 ·exact ⟨by omega,h⟩
structure Holds (B:World) (Γ:List HProp) (w:World):Prop where
 below:Below B.heap.size B w
 stars:stars Γ (own B w)
section
variable {B w:World} {Γ Δ:List HProp} {A A':HProp}
theorem Holds.start (B:World):Holds B [] B:=⟨Below.refl _ _,trivial⟩
theorem Holds.perm (h:Holds B Γ w) (hp:Γ.Perm Δ):Holds B Δ w:=⟨h.below,zKt hp h.stars⟩
theorem Holds.tail (h:Holds B (A::Γ) w):Holds B Γ w:=⟨h.below,zKr h.stars⟩
theorem Holds.swap {A A':HProp} (h:Holds B (A::A'::Γ) w):Holds B (A'::A::Γ) w:=⟨h.below,zKs h.stars⟩
theorem Holds.imp (h:Holds B (A::Γ) w) (hi:∀ h,A h→A' h):Holds B (A'::Γ) w:=⟨h.below,zD9 hi (fun _ h=>h) h.stars⟩
theorem zIj {α:Type _}:∀ {l:List α} {i:Nat} {x:α},l[i]? = some x→l.Perm (x::l.eraseIdx i)
 | [],i,x,h=>by simp at h
 | y::l,0,x,h=>by simp at h; subst h; simp
 | y::l,i + 1,x,h=>by
  simp only [List.getElem?_cons_succ] at h
  exact ((zIj h).cons y).trans (.swap _ _ _)
theorem Holds.pick (i:Nat) (h:Holds B Γ w) (hi:Γ[i]? = some A):Holds B (A::Γ.eraseIdx i) w:=h.perm (zIj hi)
theorem Holds.del (i:Nat) (h:Holds B Γ w) (hi:Γ[i]? = some A):Holds B (Γ.eraseIdx i) w:=(h.pick i hi).tail
theorem zNI {α:Type _}:∀ {l:List α} {i:Nat} {x y:α},l[i]? = some x→(y::l.eraseIdx i).Perm (l.set i y)
 | [],i,x,y,h=>by simp at h
 | z::l,0,x,y,h=>by simp
 | z::l,i + 1,x,y,h=>by
  simp only [List.getElem?_cons_succ] at h
  exact (List.Perm.swap _ _ _).trans ((zNI h).cons z)
theorem Holds.put (i:Nat) (hi:Γ[i]? = some A) (h:Holds B (A'::Γ.eraseIdx i) w):Holds B (Γ.set i A') w:=h.perm (zNI hi)
theorem Holds.ex {α:Sort _} {F:α→HProp}:Holds B (Sep.ex F::Γ) w ↔ ∃ x,Holds B (F x::Γ) w:=by
 constructor
 ·rintro ⟨hb,h1,h2,⟨x,a⟩,b,l1,l2,d⟩; exact ⟨x,hb,h1,h2,a,b,l1,l2,d⟩
 ·rintro ⟨x,hb,h1,h2,a,b,l1,l2,d⟩; exact ⟨hb,h1,h2,⟨x,a⟩,b,l1,l2,d⟩
theorem Holds.pur {p:Prop}:Holds B (Sep.pur p::Γ) w ↔ p∧Holds B Γ w:=by
 constructor
 ·intro h; exact ⟨by obtain ⟨_,_,_,a,_⟩:=h; exact a,h.tail⟩
 ·rintro ⟨hp,hb,hs⟩; exact ⟨hb,fun _=>Option.none,_,hp,hs,fun _ _ e=>(by cases e),Hp.le_refl _,fun _=>.inl rfl⟩
theorem zKu {h:Hp}:Sep.stars (Sep.stars Δ::Γ) h ↔ Sep.stars (Δ++Γ) h:=by
 rw [zNH]; rfl
theorem Holds.flat:Holds B (Sep.stars Δ::Γ) w ↔ Holds B (Δ++Γ) w :=
 ⟨fun h=>⟨h.below,zKu.1 h.stars⟩,fun h=>⟨h.below,zKu.2 h.stars⟩⟩
theorem Holds.starsNil (h:Holds B Γ w):Holds B (Sep.stars []::Γ) w:=Holds.flat.2 h
theorem Holds.fact {p:Prop} (h:Holds B (A::Γ) w) (hi:∀ h,A h→p):p:=by
 obtain ⟨_,_,_,a,_⟩:=h; exact hi _ a
theorem Holds.block {b:Nat} {o:Obj} (h:Holds B (blk b o::Γ) w):w.heap[b]? = some o:=by
 obtain ⟨_,h1,h2,a,_,l1,_,_⟩:=h
 exact (zGW (l1 _ _ a)).2
theorem Holds.base {b:Nat} {o:Obj} (h:Holds B (blk b o::Γ) w):B.heap.size ≤ b:=by
 obtain ⟨_,h1,h2,a,_,l1,_,_⟩:=h
 exact (zGW (l1 _ _ a)).1
theorem Holds.apart {b c:Nat} {o p:Obj} (h:Holds B (blk b o::blk c p::Γ) w):b ≠ c:=by
 rintro rfl
 obtain ⟨_,h1,h2,a,⟨h3,h4,a',_,l3,_,_⟩,l1,_,d⟩:=h
 rcases d b with e | e
 ·unfold blk at a; rw [e] at a; cases a
 ·have:=l3 _ _ a'; rw [e] at this; cases this
theorem zOX (B w:World) (o:Obj):(own B w).le (own B { w with heap:=w.heap.push o }):=fun b p e=>by
 obtain ⟨hb,e⟩:=zGW e
 have hlt:b < w.heap.size:=(Array.getElem?_eq_some_iff.1 e).1
 unfold own
 rw [if_neg (by omega)]
 show (w.heap.push o)[b]? = _
 rw [Array.getElem?_push,if_neg (by omega)]; exact e
theorem zPn (h:Below B.heap.size B w) (o:Obj):Below B.heap.size B { w with heap:=w.heap.push o }:=h.alloc h.size o
theorem Holds.alloc (h:Holds B Γ w) (o:Obj):Holds B (blk w.heap.size o::Γ) { w with heap:=w.heap.push o }:=by
 refine ⟨zPn h.below o,Hp.one w.heap.size o,own B w,by simp [blk,Hp.one],h.stars,?_,zOX B w o,?_⟩
 ·intro b p e
  unfold Hp.one at e
  split at e
  ·rename_i hb; subst hb; cases e
   unfold own
   rw [if_neg (by have:=h.below.size; omega)]
   show (w.heap.push o)[w.heap.size]? = _
   simp
  ·cases e
 ·intro b
  by_cases hb:b = w.heap.size
  ·right; unfold own; split
   ·rfl
   ·subst hb; simp
  ·left; simp [Hp.one,hb]
theorem Holds.setBlock {b:Nat} {o o':Obj} (h:Holds B (blk b o::Γ) w) {w':World} (hw:w' = { w with heap:=w.heap.setIfInBounds b o' }):Holds B (blk b o'::Γ) w':=by
 subst hw
 have hblock:=h.block
 have hlt:b < w.heap.size:=(Array.getElem?_eq_some_iff.1 hblock).1
 have hbase:=h.base
 obtain ⟨hbelow,h1,h2,a,b2,l1,l2,d⟩:=h
 refine ⟨⟨hbelow.os,hbelow.tape,hbelow.output,by simpa using hbelow.size,fun k hk=>?_⟩,Hp.one b o',h2,by simp [blk,Hp.one],b2,?_,?_,?_⟩
 ·show (w.heap.setIfInBounds b o')[k]? = _
  rw [Array.getElem?_setIfInBounds_ne (by omega)]; exact hbelow.block k hk
 ·intro c p e
  unfold Hp.one at e
  split at e
  ·rename_i hc; subst hc; cases e
   unfold own; rw [if_neg (by omega)]
   show (w.heap.setIfInBounds c o')[c]? = _
   simp [hlt]
  ·cases e
 ·intro c p e
  have hne:c ≠ b:=by
   rintro rfl
   rcases d c with e' | e'
   ·unfold blk at a; rw [e'] at a; cases a
   ·rw [e'] at e; cases e
  obtain ⟨hc,e⟩:=zGW (l2 _ _ e)
  unfold own; rw [if_neg (by omega)]
  show (w.heap.setIfInBounds b o')[c]? = _
  rw [Array.getElem?_setIfInBounds_ne (by omega)]; exact e
 ·intro c
  by_cases hc:c = b
  ·subst hc
   rcases d c with e' | e'
   ·unfold blk at a; rw [e'] at a; cases a
   ·right; exact e'
  ·left; simp [Hp.one,hc]
theorem Holds.zOs (h:Holds B Γ w) {w':World} (hh:w'.heap = w.heap) (ho:w'.os = w.os) (ht:w'.tape = w.tape) (hp:w'.output = w.output):Holds B Γ w':=by
 refine ⟨⟨ho.trans h.below.os,ht.trans h.below.tape,hp.trans h.below.output,by rw [hh]; exact h.below.size,fun k hk=>by rw [hh]; exact h.below.block k hk⟩,?_⟩
 have:own B w' = own B w:=by funext b; simp [own,hh]
 rw [this]; exact h.stars
theorem Holds.drew (h:Holds B Γ w) (n:Nat):Holds B Γ { w with drawn:=n }:=h.zOs rfl rfl rfl rfl
theorem Holds.old (h:Holds B Γ w) {b:Nat} {o:Obj} (hb:B.heap[b]? = some o):w.heap[b]? = some o:=by
 have hlt:b < B.heap.size:=(Array.getElem?_eq_some_iff.1 hb).1
 rw [h.below.block b hlt]; exact hb
end
end Go.Sep
namespace Go.Sep
open Go
structure Sl where
 a:Option Addr
 n:Nat
 c:Nat
abbrev Sl.val (s:Sl):Value:=.slice s.a s.n s.c
def Ret (k:Value→World→Prop):Ending→World→Prop
 | .returned v,w=>k v w
 | _,_=>False
def look:List (Nat×Value)→Nat→Option Value
 | [],_=>none
 | (j,v)::σ,i=>match Nat.beq i j with
  | true=>some v
  | false=>look σ i
theorem zIk {p:Nat×Value} {σ:List (Nat×Value)} {i:Nat}:look (p::σ) i = if i = p.1 then some p.2 else look σ i:=by
 obtain ⟨j,u⟩:=p
 show (match Nat.beq i j with | true=>some u | false=>look σ i) = _
 by_cases h:i = j
 ·simp [h]
 ·have:Nat.beq i j = false:=by
   cases hb:Nat.beq i j with
   | false=>rfl
   | true=>exact absurd (Nat.eq_of_beq_eq_true hb) h
  simp [this,h]
def ev (σ:List (Nat×Value)):Operand→Option Value
 | .tmp t=>look σ t
 | .const v=>some v
 | .global g=>some (.pointer (some ⟨g,0,none⟩))
 | .func f=>some (.func (.func f) #[] #[])
structure Slots (a:Act) (n:Nat) (σ:List (Nat×Value)):Prop where
 size:a.tmps.size = n
 defers:a.defers = []
 at':∀ i v,look σ i = some v→a.tmps.getD i undef = v
def Sub (σ:List (Nat×Value)):List (Nat×Value)→Prop
 | []=>True
 | p::τ=>look σ p.1 = some p.2∧Sub σ τ
theorem Sub.look {σ:List (Nat×Value)}:∀ {τ:List (Nat×Value)},Sub σ τ→∀ i v,look τ i = some v→Sep.look σ i = some v
 | [],_,i,v,h=>by simp [Sep.look] at h
 | p::τ,hs,i,v,h=>by
  rw [zIk] at h
  split at h
  ·rename_i e; subst e; cases h; exact hs.1
  ·exact Sub.look hs.2 i v h
section
variable {a:Act} {n:Nat} {σ τ:List (Nat×Value)}
theorem Slots.to (h:Slots a n σ) (hs:Sub σ τ):Slots a n τ:=⟨h.size,h.defers,fun i v e=>h.at' i v (hs.look i v e)⟩
theorem Slots.ev (h:Slots a n σ) {x:Operand} {v:Value} (hx:Sep.ev σ x = some v):a.eval x = v:=by
 cases x with
 | tmp t=>exact h.at' _ _ hx
 | const u=>exact Option.some.inj hx
 | global g=>exact Option.some.inj hx
 | func f=>exact Option.some.inj hx
theorem Slots.put (h:Slots a n σ) {d:Nat} (hd:d < n) (v:Value):Slots (a.put (some d) v) n ((d,v)::σ):=by
 refine ⟨by simp [Act.put,h.size],h.defers,fun i u e=>?_⟩
 rw [zIk] at e
 split at e
 ·rename_i hi; simp only at hi; subst hi; cases e
  have:i < a.tmps.size:=by rw [h.size]; exact hd
  simp [Act.put,this]
 ·rename_i hi
  have:=h.at' i u e
  simpa [Act.put,Array.getElem?_setIfInBounds_ne (Ne.symm hi)] using this
theorem Slots.init (args:List Value) (n:Nat) (hn:args.length ≤ n):Slots { tmps:=args.toArray++Array.replicate (n - args.toArray.size) undef,defers:=[] } n (args.zipIdx.map fun p=>(p.2,p.1)):=by
 refine ⟨by simp; omega,rfl,fun i v e=>?_⟩
 have key:∀ (l:List Value) (k i:Nat) (v:Value),look ((l.zipIdx k).map fun p=>(p.2,p.1)) i = some v→k ≤ i∧l[i - k]? = some v:=by
  intro l
  induction l with
  | nil=>intro k i v e; simp [look] at e
  | cons x l ih =>
   intro k i v e
   simp only [List.zipIdx_cons,List.map_cons] at e
   rw [zIk] at e
   split at e
   ·rename_i hi; simp only at hi; subst hi; cases e; simp
   ·rename_i hi
    obtain ⟨h1,h2⟩:=ih _ _ _ e
    refine ⟨by omega,?_⟩
    rw [show i - k = (i - (k + 1)) + 1 by omega]; simpa using h2
 obtain ⟨_,h2⟩:=key args 0 i v e
 simp only [Nat.sub_zero] at h2
 have hlt:i < args.length:=(List.getElem?_eq_some_iff.1 h2).1
 have h3:=(List.getElem?_eq_some_iff.1 h2).2
 simp [Array.getElem?_append,hlt,h3]
end
section
variable {P:Program} {ops:Array Oper} {Q:Exit→Act→World→Prop} {rest:List Oper} {o:Oper} {a:Act} {n:Nat} {σ:List (Nat×Value)} {w w':World} {v:Value}
def Pure (P:Program) (σ:List (Nat×Value)) (o:Oper) (v:Value):Prop :=
 ∀ (a:Act) (n:Nat),Slots a n σ→∀ w,(execOp a.eval o).run P w = .ok (.value v) w
def Eff (P:Program) (σ:List (Nat×Value)) (o:Oper) (w:World) (x:Next) (w':World):Prop :=
 ∀ (a:Act) (n:Nat),Slots a n σ→(execOp a.eval o).run P w = .ok x w'
theorem Pure.eff (h:Pure P σ o v) (w:World):Eff P σ o w (.value v) w:=fun a n hs=>h a n hs w
def wants (ops:Array Oper) (σ:List (Nat×Value)) (o:Oper):Option Bool :=
 match o.guard with
 | none=>some true
 | some (j,want)=>match (ops[j]?).bind (·.dst) with
  | none=>some false
  | some t=>match look σ t with
   | some v=>match v with
    | .bool b=>some (b == want)
    | _=>some false
   | none=>none
theorem zCE (hs:Slots a n σ) {b:Bool} (h:wants ops σ o = some b):Region.wanted o (yielded ops a.tmps) = b:=by
 unfold wants at h
 unfold Region.wanted
 split at h
 ·rename_i hg; simp only [hg]; simpa using h
 ·rename_i j want hg
  simp only [hg]
  unfold yielded
  split at h
  ·rename_i hd; simp only [Option.some.injEq] at h; subst h
   cases hj:ops[j]? with
   | none=>simp
   | some oj=>simp [hj] at hd; simp [hd]
  ·rename_i t ht
   split at h
   ·rename_i v hb
    have:=hs.at' _ _ hb
    cases hj:ops[j]? with
    | none=>simp [hj] at ht
    | some oj =>
     simp [hj] at ht
     simp only [ht,Option.bind_some]
     cases hx:a.tmps[t]? with
     | none =>
      simp [hx] at this; subst this
      simp [undef] at h; subst h; simp
     | some x =>
      simp [hx] at this; subst this
      cases x <;> simp at h <;> subst h <;> simp
   ·cases h
def Oper.bare (o:Oper):Oper:={ o with guard:=none }
end
section
variable {P:Program} {ops:Array Oper} {Q:Exit→Act→World→Prop} {S:World→Prop} {o:Oper} {a:Act} {n:Nat} {σ:List (Nat×Value)} {w w':World} {v:Value} {fuel:Nat} {listed:Array Bool}
def Any:World→Prop:=fun _=>True
theorem Any.intro (w:World):Any w:=trivial
def Is (u:World):World→Prop:=fun x=>x = u
theorem Is.intro (u:World):Is u u:=rfl
theorem Is.out {u x:World} (h:Is u x):x = u:=h
def Tight (Q:Exit→Act→World→Prop):Prop:=∀ c a w,¬ Q (.panic c) a w
def wpAnyT (P:Program) (ops:Array Oper) (Q:Exit→Act→World→Prop) (S:World→Prop) (ds:List Nat):Nat→Array Bool→Act→World→Prop
 | 0,listed,a,w=>Region.ready .any ops listed = []∧Q .normal a w
 | fuel + 1,listed,a,w =>
  (Region.ready .any ops listed = []→Q .normal a w) ∧
  ∀ i ∈ Region.ready .any ops listed,wpOp P ops Q i (fun a' w'=>(i ∉ ds→S w→S w')∧wpAnyT P ops Q S ds fuel (listed.setIfInBounds i true) a' w') a w
variable {ds:List Nat}
def reach (ops:Array Oper) (i:Nat):Nat→Nat→Bool
 | 0,_=>false
 | n + 1,d=>match ops[d]? with
  | some od=>od.after.any fun e=>Region.binds .any e && (e.on == i || reach ops i n e.on)
  | none=>false
def Closed (ops:Array Oper) (l:Array Bool):Prop :=
 ∀ (j:Nat) (oj:Oper),ops[j]? = some oj→l.getD j false = true→∀ e ∈ oj.after,Region.binds .any e = true→l.getD e.on false = true
theorem zGX {ops:Array Oper} {l:Array Bool} {i:Nat} (hc:Closed ops l):∀ (n d:Nat) (od:Oper),ops[d]? = some od→(∀ e ∈ od.after,Region.binds .any e = true→l.getD e.on false = true)→reach ops i n d = true→l.getD i false = true
 | 0,_,_,_,_,h=>by simp [reach] at h
 | n + 1,d,od,hd,hall,h=>by
  simp only [reach,hd,Array.any_eq_true'] at h
  obtain ⟨e,he,hb⟩:=h
  simp only [Bool.and_eq_true,Bool.or_eq_true,beq_iff_eq] at hb
  have h1:=hall e he hb.1
  rcases hb.2 with h2 | h2
  ·rw [← h2]; exact h1
  ·cases ho:ops[e.on]? with
   | none=>cases n <;> simp [reach,ho] at h2
   | some oe=>exact zGX hc n e.on oe ho (hc e.on oe ho h1) h2
theorem Closed.put {ops:Array Oper} {l:Array Bool} (h:Closed ops l) {j:Nat} (hj:j ∈ Region.ready .any ops l):Closed ops (l.setIfInBounds j true):=by
 intro k ok hk hl e he hb
 obtain ⟨_,oj,hoj,hall⟩:=mem_ready.1 hj
 by_cases hjk:j = k
 ·subst hjk; rw [hk] at hoj; cases hoj; exact getD_set_true (hall e he hb)
 ·rw [getD_set_ne false hjk] at hl; exact getD_set_true (h k ok hk hl e he hb)
def AllS (P:Program) (ops:Array Oper) (Q:Exit→Act→World→Prop) (S:World→Prop) (ds:List Nat) (fuel:Nat) (l:Array Bool) (a:Act) (w:World) (rs:List Nat):Prop :=
 ∀ i ∈ rs,wpOp P ops Q i (fun a' w'=>(i ∉ ds→S w→S w')∧wpAnyT P ops Q S ds fuel (l.setIfInBounds i true) a' w') a w
theorem AllS.nil {l:Array Bool}:AllS P ops Q S ds fuel l a w []:=fun _ h=>by cases h
theorem AllS.cons {l:Array Bool} {i:Nat} {rs:List Nat} (h:wpOp P ops Q i (fun a' w'=>(i ∉ ds→S w→S w')∧wpAnyT P ops Q S ds fuel (l.setIfInBounds i true) a' w') a w)
  (hs:AllS P ops Q S ds fuel l a w rs):AllS P ops Q S ds fuel l a w (i::rs):=fun j hj=>by
 rcases List.mem_cons.1 hj with rfl | hj
 ·exact h
 ·exact hs j hj
end
section
variable {P:Program} {ops:Array Oper} {Q:Act→Prop} {rest:List Oper} {o:Oper} {a:Act} {n:Nat} {σ:List (Nat×Value)} {w:World} {v:Value}
theorem s_eff (hs:Slots a n σ) {d:Nat} (hg:o.guard = none) (hd:o.dst = some d) (hn:d < n) (hp:Eff P σ o w (.value v) w)
  (hk:∀ a,Slots a n ((d,v)::σ)→wpStill P ops w Q rest a):wpStill P ops w Q (o::rest) a:=by
 unfold wpStill
 rw [if_pos (by simp [Region.wanted,hg])]
 unfold Oper.still
 rw [hp a n hs,Oper.stillUpon_value,hd]
 exact hk _ (hs.put hn v)
theorem s_pure (hs:Slots a n σ) {d:Nat} (hg:o.guard = none) (hd:o.dst = some d) (hn:d < n) (hp:Pure P σ o v)
  (hk:∀ a,Slots a n ((d,v)::σ)→wpStill P ops w Q rest a):wpStill P ops w Q (o::rest) a:=s_eff hs hg hd hn (hp.eff w) hk
theorem s_yes (hs:Slots a n σ) (hw:wants ops σ o = some true) (hk:wpStill P ops w Q (Sep.Oper.bare o::rest) a):wpStill P ops w Q (o::rest) a:=by
 have h1:=zCE hs hw
 unfold wpStill at hk ⊢
 rw [if_pos h1]
 rw [if_pos (by simp [Region.wanted,Sep.Oper.bare])] at hk
 exact hk
theorem s_no (hs:Slots a n σ) (hw:wants ops σ o = some false) {d:Nat} (hd:o.dst = some d) (hn:d < n) (hk:∀ a,Slots a n ((d,undef)::σ)→wpStill P ops w Q rest a):wpStill P ops w Q (o::rest) a:=by
 have h1:=zCE hs hw
 unfold wpStill
 rw [if_neg (by rw [h1]; simp),hd]
 exact hk _ (hs.put hn _)
theorem zSx {l:List Oper} {id:Nat} {Q:Exit→Act→World→Prop} {w':World} (hm:P.follows .mixedOrders = true) (hB:Region.lexB .any l.toArray = true) (hw:w' = { w with drawn:=w.drawn + 1 })
  (h:wpStill P l.toArray w' (fun a'=>Q .normal a' w') l a):(Code.region id l.toArray true).wp P Q a w:=by
 subst hw; exact wp_region_still_lit hm hB h
end
section
variable {P:Program} {Q:Exit→Act→World→Prop} {a:Act} {n:Nat} {σ:List (Nat×Value)} {w:World}
def LoopK {α:Type} (body:(α→World→Prop)→α→World→Prop) (x:α) (w:World):Prop :=
 ∃ (I:α→World→Prop) (μ:α→World→Nat),I x w∧∀ x w,I x w→body (fun x' w'=>I x' w'∧μ x' w' < μ x w) x w
theorem LoopK.of {α:Type} {body:(α→World→Prop)→α→World→Prop} {x:α} {w:World} (I:α→World→Prop) (μ:α→World→Nat) (h0:I x w)
  (h:∀ x w,I x w→body (fun x' w'=>I x' w'∧μ x' w' < μ x w) x w):LoopK body x w:=⟨I,μ,h0,h⟩
end
end Go.Sep
namespace Go.Sep
open Go
abbrev K:=World→Prop
def callable (P:Program) (f:FuncId):Bool:=match P.funcs[f]? with
 | some fn => fn.name != "runtime.NumGoroutine" && fn.body.isSome
 | none=>false
def Do {α β:Type} (P:Program) (s:Sem β) (c:α→β) (k:α→K):K:=fun w=>∃ x w',s.run P w = .ok (c x) w'∧k x w'
def Ld {α:Type} (a:Addr) (c:α→Value) (k:α→K):K:=fun w=>∃ x,w.cell? a = some (c x)∧k x w
def RdN (w:World) (a:Addr) (cs:Array Value):Prop:=∀ i,i < cs.size→w.cell? (a.add i) = cs[i]?
def LdN (a:Addr) (n:Nat) (k:Array Value→K):K:=fun w=>∃ cs:Array Value,cs.size = n∧RdN w a cs∧k cs w
def flatV:Value→Bool
 | .agg _ | .tuple _=>false
 | _=>true
def St (a:Addr) (v:Value) (k:K):K:=fun w=>∃ w',w' = w.setCell a v∧(∃ u,w.cell? a = some u)∧w.frozen? a = false∧flatV v = true∧k w'
def setCells (a:Addr):List Value→Nat→World→World
 | [],_,w=>w
 | v::vs,i,w=>setCells a vs (i + 1) (w.setCell (a.add i) v)
def StN (a:Addr) (n:Nat) (cs:Array Value) (k:K):K:=fun w=>∃ w',w' = setCells a cs.toList 0 w∧cs.size = n ∧
 (∀ i,i < cs.size→(∃ u,w.cell? (a.add i) = some u)∧w.frozen? (a.add i) = false)∧(∀ v ∈ cs.toList,flatV v = true)∧k w'
def New (T:TypeId) (cs:Array Value) (k:Addr→K):K:=fun w=>∃ a w',a = ⟨w.heap.size,0,none⟩∧w' = { w with heap:=w.heap.push (.cells cs T) }∧k a w'
def CallF (P:Program) (f:FuncId) (args:Array Value) (k:Value→K):K:=fun w=>Calls P f args w (Ret k)
def Ar (e:Int) (k:Int→K):K:=fun w=>∃ t,t = e∧k t w
def Do2 {α β γ:Type} (P:Program) (s:Sem γ) (c:α→β→γ) (k:α→β→K):K:=fun w=>∃ x y w',s.run P w = .ok (c x y) w'∧k x y w'
def DoU (P:Program) (s:Sem Unit) (k:K):K:=fun w=>∃ u w',s.run P w = .ok u w'∧k w'
def Rd {α:Type} (P:Program) (s:Sem Value) (c:α→Value) (k:α→K):K:=fun w=>∃ x,s.run P w = .ok (c x) w∧k x w
def Rd2 {α β:Type} (P:Program) (s:Sem Value) (c:α→β→Value) (k:α→β→K):K:=fun w=>∃ x y,s.run P w = .ok (c x y) w∧k x y w
def Pu {α:Type} (P:Program) (s:Sem Value) (c:α→Value) (k:α→K):K:=fun w=>∃ x,(∀ w,s.run P w = .ok (c x) w)∧k x w
def Cd (p:Prop) (k:K):K:=fun w=>p∧k w
def Ite (b:Bool) (x y:K):K:=fun w=>(b = true→x w)∧(b = false→y w)
def Fv (P:Program) (f:Value) (k:FuncId→Array Value→Array Value→K):K:=fun w=>∃ g fs cs,f = .func (.func g) fs cs∧callable P g = true∧k g fs cs w
def CallV (P:Program) (f:Value) (args:List Value) (k:Value→K):K:=fun w =>
 ∃ g fs cs,f = .func (.func g) fs cs∧callable P g = true∧Calls P g (fs++args.toArray++cs) w (Ret k)
def Ans0 (v0:Value) (k:K):Value→K:=fun v w=>v = v0∧k w
def Ans1 {α:Type} (c:α→Value) (k:α→K):Value→K:=fun v w=>∃ x,v = c x∧k x w
def Ans2 {α β:Type} (c:α→β→Value) (k:α→β→K):Value→K:=fun v w=>∃ x y,v = c x y∧k x y w
def Ans3 {α β γ:Type} (c:α→β→γ→Value) (k:α→β→γ→K):Value→K:=fun v w=>∃ x y z,v = c x y z∧k x y z w
def Ext {α:Type} (t:Value) (i:Nat) (c:α→Value) (k:α→K):K:=fun w=>∃ vs x,t = .tuple vs∧vs[i]? = some (c x)∧k x w
def Dead:K:=fun _=>False
def Dr (k:K):K:=fun w=>∃ w',w' = { w with drawn:=w.drawn + 1 }∧k w'
def WithS (k:(World→Prop)→K):K:=fun w=>∃ S:World→Prop,S w∧k S w
def Sv (S:World→Prop) (k:K):K:=fun w=>S w∧k w
def LdS {α:Type} (S:World→Prop) (a:Addr) (c:α→Value) (k:α→K):K:=fun w=>∃ x,(∀ w,S w→w.cell? a = some (c x))∧k x w
def LdNS (S:World→Prop) (a:Addr) (n:Nat) (k:Array Value→K):K:=fun w=>∃ cs:Array Value,cs.size = n∧(∀ w,S w→RdN w a cs)∧k cs w
def RdS {α:Type} (P:Program) (S:World→Prop) (s:Sem Value) (c:α→Value) (k:α→K):K:=fun w=>∃ x,(∀ w,S w→s.run P w = .ok (c x) w)∧k x w
def Rd2S {α β:Type} (P:Program) (S:World→Prop) (s:Sem Value) (c:α→β→Value) (k:α→β→K):K:=fun w=>∃ x y,(∀ w,S w→s.run P w = .ok (c x y) w)∧k x y w
def Nn (p:Option Addr) (k:Addr→K):K:=fun w=>∃ a,p = some a∧k a w
def Idx (s:Sl) (i:Int) (esz:Nat) (k:Addr→K):K:=fun w=>∃ a t,s.a = some a∧0 ≤ i∧i < s.n∧t = a.add (i.toNat * esz)∧k t w
def IdxA (a:Addr) (len:Nat) (i:Int) (esz:Nat) (k:Addr→K):K:=fun w=>∃ t,0 ≤ i∧i < len∧t = a.add (i.toNat * esz)∧k t w
def IdxS (s:ByteArray) (i:Int) (k:Int→K):K:=fun w=>∃ (t:Int) (b:UInt8),0 ≤ i∧s[i.toNat]? = some b∧t = (b.toNat:Int)∧k t w
def Fld {α:Type} (cs:Array Value) (off:Nat) (c:α→Value) (k:α→K):K:=fun w=>∃ x,cs[off]? = some (c x)∧k x w
def Bld (zero:Array Value) (place:Nat→Option (Nat×Nat)) (parts:List (Nat×Value)) (k:Array Value→K):K:=fun w =>
 ∃ cs,Instr.fill place zero parts = some cs∧k cs w
def cutA (a:Option Addr) (l m esz:Nat):Option Addr:=if m = l then a else a.map (·.add (l * esz))
def Slc (s:Sl) (lo hi mx:Int) (esz:Nat) (k:Sl→K):K:=fun w =>
 ∃ t,0 ≤ lo∧lo ≤ hi∧hi ≤ mx∧mx ≤ s.c∧t = ⟨cutA s.a lo.toNat mx.toNat esz,hi.toNat - lo.toNat,mx.toNat - lo.toNat⟩∧k t w
def SlcS (s:ByteArray) (lo hi:Int) (k:ByteArray→K):K:=fun w =>
 ∃ t,0 ≤ lo∧lo ≤ hi∧hi ≤ s.size∧t = s.extract lo.toNat hi.toNat∧k t w
def Cat (a b:ByteArray) (k:ByteArray→K):K:=fun w=>∃ t,((a.size + b.size:Nat):Int) ≤ 9223372036854775807∧t = a++b∧k t w
def All (l:List (World→Prop)):K:=fun w=>∀ (i:Nat) (x:World→Prop),l[i]? = some x→x w
def cellT (P:Program) (T:TypeId):Bool:=match P.underlying T with
 | some (.struct _) | some (.array _ _) | none=>false
 | some _=>true
def aggT (P:Program) (T:TypeId) (n:Nat):Bool:=match P.underlying T with
 | some (.struct _) | some (.array _ _)=>(P.info? T).map (·.size) == some n
 | _=>false
def sizeT (P:Program) (T:TypeId) (n:Nat):Bool:=(P.info? T).map (·.size) == some n
def sliceT (P:Program) (T E:TypeId) (esz:Nat):Bool:=match P.underlying T with
 | some (.slice e)=>e == E && (P.info? E).map (·.size) == some esz
 | _=>false
def arrayT (P:Program) (T E:TypeId) (len esz:Nat):Bool:=match P.underlying T with
 | some (.array n e)=>n == len && e == E && (P.info? E).map (·.size) == some esz
 | _=>false
def stringT (P:Program) (T:TypeId):Bool:=match P.underlying T with | some .string=>true | _=>false
def intT (P:Program) (T:TypeId) (k:IntKind):Bool:=match P.underlying T with | some (.int k')=>k == k' | _=>false
def fieldT (P:Program) (S i off n:Nat):Bool:=match P.underlying S with
 | some (.struct fs)=>match fs[i]? with
  | some f=>f.offset == off && n != 0 && (P.info? f.type).map (·.size) == some n
  | none=>false
 | _=>false
def fieldC (P:Program) (S i off:Nat):Bool:=match P.underlying S with
 | some (.struct fs)=>match fs[i]? with
  | some f=>f.offset == off && cellT P f.type
  | none=>false
 | _=>false
def fieldN (P:Program) (S i off n:Nat):Bool:=match P.underlying S with
 | some (.struct fs)=>match fs[i]? with
  | some f=>f.offset == off && aggT P f.type n
  | none=>false
 | _=>false
section
variable {P:Program} {w:World}
theorem zHn {T:TypeId} (h:cellT P T = true):(isAgg T).run P w = .ok false w:=by
 unfold cellT at h
 unfold isAgg underlying program
 cases hu:P.underlying T with
 | none=>simp [hu] at h
 | some d=>cases d <;> simp [hu,Sem.run,Sem.run_bind'] at h ⊢ <;> simp_all [bind,Sem.bind,Sem.run,pure]
theorem zFD {T n:Nat} (h:aggT P T n = true):(isAgg T).run P w = .ok true w∧(sizeOf T).run P w = .ok n w:=by
 unfold aggT at h
 unfold isAgg sizeOf typeInfo underlying program
 cases hi:P.info? T with
 | none=>cases hu:P.underlying T with
  | none=>simp [hu] at h
  | some d=>cases d <;> simp [hu,hi] at h
 | some i=>cases hu:P.underlying T with
  | none=>simp [hu] at h
  | some d=>cases d <;> simp [hu,hi] at h ⊢ <;> simp_all [bind,Sem.bind,Sem.run,pure]
theorem zCK {T n:Nat} (h:sizeT P T n = true):(sizeOf T).run P w = .ok n w:=by
 unfold sizeT at h
 unfold sizeOf typeInfo program
 cases hi:P.info? T with
 | none=>simp [hi] at h
 | some i=>simp [hi] at h ⊢; simp_all [bind,Sem.bind,Sem.run,pure]
theorem zCv {T E esz:Nat} (h:sliceT P T E esz = true):P.underlying T = some (.slice E)∧sizeT P E esz = true:=by
 unfold sliceT at h
 split at h
 ·rename_i e he; simp at h; obtain ⟨rfl,h⟩:=h; exact ⟨he,by unfold sizeT; simpa using h⟩
 ·cases h
theorem zJ4 {T E len esz:Nat} (h:arrayT P T E len esz = true):P.underlying T = some (.array len E)∧sizeT P E esz = true:=by
 unfold arrayT at h
 split at h
 ·rename_i n e he; simp at h; obtain ⟨⟨rfl,rfl⟩,h⟩:=h; exact ⟨he,by unfold sizeT; simpa using h⟩
 ·cases h
theorem zET {T:Nat} (h:stringT P T = true):P.underlying T = some .string:=by
 unfold stringT at h; split at h
 ·assumption
 ·cases h
theorem zMG {T:Nat} {k:IntKind} (h:intT P T k = true):P.underlying T = some (.int k):=by
 unfold intT at h; split at h
 ·rename_i k' hk; simp at h; subst h; exact hk
 ·cases h
theorem run_underlying {T:TypeId} {d:TypeDesc} (h:P.underlying T = some d):(underlying T).run P w = .ok d w:=by
 simp [underlying,program,h,Sem.run]
end
theorem Pure.adr {P:Program} {σ:List (Nat×Value)} {o:Oper} {t e:Addr} (he:t = e) (h:Pure P σ o (.pointer (some e))):Pure P σ o (.pointer (some t)):=he ▸ h
theorem Pure.sl {P:Program} {σ:List (Nat×Value)} {o:Oper} {t e:Sl} (he:t = e) (h:Pure P σ o e.val):Pure P σ o t.val:=he ▸ h
theorem Pure.str {P:Program} {σ:List (Nat×Value)} {o:Oper} {t e:ByteArray} (he:t = e) (h:Pure P σ o (.string e)):Pure P σ o (.string t):=he ▸ h
theorem Pure.int {P:Program} {σ:List (Nat×Value)} {o:Oper} {k:IntKind} {t e:Int} (he:t = e) (h:Pure P σ o (.int k e)):Pure P σ o (.int k t):=he ▸ h
section
variable {P:Program} {σ:List (Nat×Value)} {o:Oper} {x y:Operand} {w:World}
theorem p_move {v:Value} (ho:o.op = .move x) (hx:ev σ x = some v):Pure P σ o v:=fun a n hs w=>by
 simp [execOp,ho,hs.ev hx]
theorem zNJ {v:Value} (ho:o.op = .assign x) (hx:ev σ x = some v):Pure P σ o v:=fun a n hs w=>by
 simp [execOp,ho,hs.ev hx]
theorem zNK {c:Operand} {v:Value} (ho:o.op = .pick c x y) (hc:ev σ c = some (.bool true)) (hx:ev σ x = some v):Pure P σ o v:=fun a n hs w=>by
 simp [execOp,ho,hs.ev hx,hs.ev hc,asBool]
theorem zNL {c:Operand} {v:Value} (ho:o.op = .pick c x y) (hc:ev σ c = some (.bool false)) (hy:ev σ y = some v):Pure P σ o v:=fun a n hs w=>by
 simp [execOp,ho,hs.ev hy,hs.ev hc,asBool]
theorem zNM {c:Operand} {b p q:Bool} (ho:o.op = .pick c x y) (hc:ev σ c = some (.bool b)) (hx:ev σ x = some (.bool p)) (hy:ev σ y = some (.bool q)):Pure P σ o (.bool (bif b then p else q)):=fun a n hs w=>by
 cases b <;> simp [execOp,ho,hs.ev hx,hs.ev hy,hs.ev hc,asBool]
theorem p_nil {a:Addr} (ho:o.op = .nilCheck x) (hx:ev σ x = some (.pointer (some a))):Pure P σ o (.pointer (some a)):=fun _ n hs w=>by
 simp [execOp,ho,hs.ev hx]
theorem p_nilf {f:FuncId} {c d:Array Value} (ho:o.op = .nilCheck x) (hx:ev σ x = some (.func (.func f) c d)):Pure P σ o (.func (.func f) c d):=fun _ n hs w=>by
 simp [execOp,ho,hs.ev hx]
theorem zJ5 {S i off n:Nat} {a:Addr} (ho:o.op = .fieldAddr S x i) (hx:ev σ x = some (.pointer (some a))) (hf:fieldT P S i off n = true):Pure P σ o (.pointer (some (a.add off))):=fun _ _ hs w=>by
 unfold fieldT at hf
 split at hf
 ·rename_i fs hS
  split at hf
  ·rename_i f hfi
   simp at hf
   obtain ⟨⟨h1,h2⟩,h3⟩:=hf
   have hz:(sizeOf f.type).run P w = .ok n w:=zCK (by unfold sizeT; simpa using h3)
   simp [execOp,ho,hs.ev hx,Instr.fieldAt,run_underlying hS,hfi,Instr.sureAddr,fieldPlace,hz,h2,h1]
  ·cases hf
 ·cases hf
theorem zNN {S i n:Nat} {a:Addr} (ho:o.op = .fieldAddr S x i) (hx:ev σ x = some (.pointer (some a))) (hf:fieldT P S i 0 n = true):Pure P σ o (.pointer (some a)):=by
 simpa [Addr.add] using zJ5 ho hx hf
theorem zSy {S i off:Nat} {cs:Array Value} {v:Value} (ho:o.op = .field S x i) (hx:ev σ x = some (.agg cs)) (hf:fieldC P S i off = true) (hv:cs[off]? = some v):Pure P σ o v:=fun _ _ hs w=>by
 unfold fieldC at hf
 split at hf
 ·rename_i fs hS
  split at hf
  ·rename_i f hfi
   simp at hf
   obtain ⟨h1,h2⟩:=hf
   subst h1
   simp [execOp,ho,hs.ev hx,Instr.field,run_underlying hS,hfi,asAgg,part,zHn h2,hv]
  ·cases hf
 ·cases hf
theorem zRc {S i off n:Nat} {cs:Array Value} (ho:o.op = .field S x i) (hx:ev σ x = some (.agg cs)) (hf:fieldN P S i off n = true):Pure P σ o (.agg (cs.extract off (off + n))):=fun _ _ hs w=>by
 unfold fieldN at hf
 split at hf
 ·rename_i fs hS
  split at hf
  ·rename_i f hfi
   simp at hf
   obtain ⟨h1,h2⟩:=hf
   subst h1
   simp [execOp,ho,hs.ev hx,Instr.field,run_underlying hS,hfi,asAgg,part,(zFD h2).1,(zFD h2).2]
  ·cases hf
 ·cases hf
section ints
variable {T U:TypeId} {k:IntKind} {a b:Int}
theorem p_add (ho:o.op = .binOp .add T x y U) (hx:ev σ x = some (.int k a)) (hy:ev σ y = some (.int k b)):Pure P σ o (.int k (k.wrap (a + b))):=fun _ _ hs w=>by
 simp [execOp,ho,hs.ev hx,hs.ev hy,eqGuard,binOp,Op.intArith]
theorem p_sub (ho:o.op = .binOp .sub T x y U) (hx:ev σ x = some (.int k a)) (hy:ev σ y = some (.int k b)):Pure P σ o (.int k (k.wrap (a - b))):=fun _ _ hs w=>by
 simp [execOp,ho,hs.ev hx,hs.ev hy,eqGuard,binOp,Op.intArith]
theorem p_mul (ho:o.op = .binOp .mul T x y U) (hx:ev σ x = some (.int k a)) (hy:ev σ y = some (.int k b)):Pure P σ o (.int k (k.wrap (a * b))):=fun _ _ hs w=>by
 simp [execOp,ho,hs.ev hx,hs.ev hy,eqGuard,binOp,Op.intArith]
theorem p_quo (ho:o.op = .binOp .quo T x y U) (hx:ev σ x = some (.int k a)) (hy:ev σ y = some (.int k b)) (hb:b ≠ 0):Pure P σ o (.int k (k.wrap (a.tdiv b))):=fun _ _ hs w=>by
 simp [execOp,ho,hs.ev hx,hs.ev hy,eqGuard,binOp,Op.intDiv,hb]
theorem p_rem (ho:o.op = .binOp .rem T x y U) (hx:ev σ x = some (.int k a)) (hy:ev σ y = some (.int k b)) (hb:b ≠ 0):Pure P σ o (.int k (a.tmod b)):=fun _ _ hs w=>by
 simp [execOp,ho,hs.ev hx,hs.ev hy,eqGuard,binOp,Op.intDiv,hb]
theorem p_eq (ho:o.op = .binOp .eql T x y U) (hx:ev σ x = some (.int k a)) (hy:ev σ y = some (.int k b)):Pure P σ o (.bool (decide (a = b))):=fun _ _ hs w=>by
 simp [execOp,ho,hs.ev hx,hs.ev hy,eqGuard,binOp,Op.intCmp]; rfl
theorem p_ne (ho:o.op = .binOp .neq T x y U) (hx:ev σ x = some (.int k a)) (hy:ev σ y = some (.int k b)):Pure P σ o (.bool (decide (a ≠ b))):=fun _ _ hs w=>by
 by_cases h:a = b <;> simp [execOp,ho,hs.ev hx,hs.ev hy,eqGuard,binOp,Op.intCmp,h]
theorem p_lt (ho:o.op = .binOp .lss T x y U) (hx:ev σ x = some (.int k a)) (hy:ev σ y = some (.int k b)):Pure P σ o (.bool (decide (a < b))):=fun _ _ hs w=>by
 simp [execOp,ho,hs.ev hx,hs.ev hy,eqGuard,binOp,Op.intCmp]
theorem p_le (ho:o.op = .binOp .leq T x y U) (hx:ev σ x = some (.int k a)) (hy:ev σ y = some (.int k b)):Pure P σ o (.bool (decide (a ≤ b))):=fun _ _ hs w=>by
 simp [execOp,ho,hs.ev hx,hs.ev hy,eqGuard,binOp,Op.intCmp]
theorem p_gt (ho:o.op = .binOp .gtr T x y U) (hx:ev σ x = some (.int k a)) (hy:ev σ y = some (.int k b)):Pure P σ o (.bool (decide (b < a))):=fun _ _ hs w=>by
 simp [execOp,ho,hs.ev hx,hs.ev hy,eqGuard,binOp,Op.intCmp]
theorem p_ge (ho:o.op = .binOp .geq T x y U) (hx:ev σ x = some (.int k a)) (hy:ev σ y = some (.int k b)):Pure P σ o (.bool (decide (b ≤ a))):=fun _ _ hs w=>by
 simp [execOp,ho,hs.ev hx,hs.ev hy,eqGuard,binOp,Op.intCmp]
def bitsOf (op:BinOp) (k:IntKind) (a b:Int):Int :=
 let u:=BitVec.ofInt k.bits a
 let v:=BitVec.ofInt k.bits b
 k.wrap (match op with | .and=>(u &&& v).toNat | .or=>(u ||| v).toNat | .xor=>(u ^^^ v).toNat | _=>(u &&& ~~~v).toNat)
theorem p_and (ho:o.op = .binOp .and T x y U) (hx:ev σ x = some (.int k a)) (hy:ev σ y = some (.int k b)):Pure P σ o (.int k (bitsOf .and k a b)):=fun _ _ hs w=>by
 simp [execOp,ho,hs.ev hx,hs.ev hy,eqGuard,binOp,Op.intBits,bitsOf]
theorem p_or (ho:o.op = .binOp .or T x y U) (hx:ev σ x = some (.int k a)) (hy:ev σ y = some (.int k b)):Pure P σ o (.int k (bitsOf .or k a b)):=fun _ _ hs w=>by
 simp [execOp,ho,hs.ev hx,hs.ev hy,eqGuard,binOp,Op.intBits,bitsOf]
theorem p_xor (ho:o.op = .binOp .xor T x y U) (hx:ev σ x = some (.int k a)) (hy:ev σ y = some (.int k b)):Pure P σ o (.int k (bitsOf .xor k a b)):=fun _ _ hs w=>by
 simp [execOp,ho,hs.ev hx,hs.ev hy,eqGuard,binOp,Op.intBits,bitsOf]
def shlOf (k:IntKind) (a b:Int):Int:=k.wrap (a * 2 ^ (min b.toNat k.bits))
def shrOf (k:IntKind) (a b:Int):Int:=a.fdiv (2 ^ (min b.toNat k.bits))
theorem p_shl {j:IntKind} (ho:o.op = .binOp .shl T x y U) (hx:ev σ x = some (.int k a)) (hy:ev σ y = some (.int j b)) (hb:0 ≤ b):Pure P σ o (.int k (shlOf k a b)):=fun _ _ hs w=>by
 simp [execOp,ho,hs.ev hx,hs.ev hy,eqGuard,binOp,Op.shift,shlOf,show ¬ b < 0 by omega]
theorem p_shr {j:IntKind} (ho:o.op = .binOp .shr T x y U) (hx:ev σ x = some (.int k a)) (hy:ev σ y = some (.int j b)) (hb:0 ≤ b):Pure P σ o (.int k (shrOf k a b)):=fun _ _ hs w=>by
 simp [execOp,ho,hs.ev hx,hs.ev hy,eqGuard,binOp,Op.shift,shrOf,show ¬ b < 0 by omega]
theorem p_neg (ho:o.op = .unOp .neg T x) (hx:ev σ x = some (.int k a)):Pure P σ o (.int k (k.wrap (0 - a))):=fun _ _ hs w=>by
 simp [execOp,ho,hs.ev hx,Op.unary,Op.intArith]
theorem p_com (ho:o.op = .unOp .xor T x) (hx:ev σ x = some (.int k a)):Pure P σ o (.int k (bitsOf .xor k (if k.signed then -1 else k.max) a)):=fun _ _ hs w=>by
 simp [execOp,ho,hs.ev hx,Op.unary,Op.intBits,bitsOf]
theorem zPo {j:IntKind} (ho:o.op = .convert T U x) (hx:ev σ x = some (.int k a)) (hT:intT P T k = true) (hU:intT P U j = true):Pure P σ o (.int j (j.wrap a)):=fun _ _ hs w=>by
 simp [execOp,ho,hs.ev hx,convert,run_underlying (zMG hT),run_underlying (zMG hU),Conv.intToInt]
theorem p_max (t:Array TypeId) (ho:o.op = .call { callee:=.builtin .max,args:=#[x,y],argTypes:=t }) (hx:ev σ x = some (.int k a)) (hy:ev σ y = some (.int k b)):Pure P σ o (.int k (if b > a then b else a)):=fun _ _ hs w=>by
 simp [execOp,ho,hs.ev hx,hs.ev hy,resolve,invoke,builtin,Builtin.max_,Builtin.max2]
theorem p_min (t:Array TypeId) (ho:o.op = .call { callee:=.builtin .min,args:=#[x,y],argTypes:=t }) (hx:ev σ x = some (.int k a)) (hy:ev σ y = some (.int k b)):Pure P σ o (.int k (if b < a then b else a)):=fun _ _ hs w=>by
 simp [execOp,ho,hs.ev hx,hs.ev hy,resolve,invoke,builtin,Builtin.min_,Builtin.min2]
end ints
theorem p_not {T:TypeId} {b:Bool} (ho:o.op = .unOp .not T x) (hx:ev σ x = some (.bool b)):Pure P σ o (.bool (!b)):=fun _ _ hs w=>by
 simp [execOp,ho,hs.ev hx,Op.unary]
section strings
variable {T U:TypeId} {a b:ByteArray}
theorem p_eqs (ho:o.op = .binOp .eql T x y U) (hx:ev σ x = some (.string a)) (hy:ev σ y = some (.string b)):Pure P σ o (.bool (a.toList == b.toList)):=fun _ _ hs w=>by
 simp [execOp,ho,hs.ev hx,hs.ev hy,eqGuard,binOp,Op.stringOp]
theorem p_nes (ho:o.op = .binOp .neq T x y U) (hx:ev σ x = some (.string a)) (hy:ev σ y = some (.string b)):Pure P σ o (.bool (!(a.toList == b.toList))):=fun _ _ hs w=>by
 simp [execOp,ho,hs.ev hx,hs.ev hy,eqGuard,binOp,Op.stringOp]
theorem p_lts (ho:o.op = .binOp .lss T x y U) (hx:ev σ x = some (.string a)) (hy:ev σ y = some (.string b)):Pure P σ o (.bool (Op.bytesLess a.toList b.toList)):=fun _ _ hs w=>by
 simp [execOp,ho,hs.ev hx,hs.ev hy,eqGuard,binOp,Op.stringOp]
theorem p_gts (ho:o.op = .binOp .gtr T x y U) (hx:ev σ x = some (.string a)) (hy:ev σ y = some (.string b)):Pure P σ o (.bool !(Op.bytesLess a.toList b.toList || a.toList == b.toList)):=fun _ _ hs w=>by
 simp [execOp,ho,hs.ev hx,hs.ev hy,eqGuard,binOp,Op.stringOp]
theorem p_cats (ho:o.op = .binOp .add T x y U) (hx:ev σ x = some (.string a)) (hy:ev σ y = some (.string b)) (hl:((a.size + b.size:Nat):Int) ≤ 9223372036854775807):Pure P σ o (.string (a++b)):=fun _ _ hs w=>by
 have:¬ ((a.size + b.size:Nat):Int) > IntKind.i64.max:=by simp [IntKind.max,IntKind.signed,IntKind.bits]; omega
 simp only [execOp,ho,hs.ev hx,hs.ev hy,eqGuard,binOp,Op.stringOp]
 simp at this
 simp [Int.not_lt.2 (by simpa using this),this]
theorem zPp (ho:o.op = .convert T U x) (hx:ev σ x = some (.string a)) (hT:stringT P T = true) (hU:stringT P U = true):Pure P σ o (.string a):=fun _ _ hs w=>by
 simp [execOp,ho,hs.ev hx,convert,run_underlying (zET hT),run_underlying (zET hU)]
end strings
section nils
variable {T U E:TypeId}
theorem zOt {a b:Bool} (hT:P.underlying T = some .bool):(Op.equal T (.bool a) (.bool b)).run P w = .ok (a == b) w:=by
 unfold Op.equal Op.maxDepth
 rw [Op.equalIn]
 simp only [Sem.run_bind,run_underlying hT,Result.andThen,Sem.run_pure]
theorem p_eqb {a b:Bool} (ho:o.op = .binOp .eql T x y U) (hx:ev σ x = some (.bool a)) (hy:ev σ y = some (.bool b)) (hT:P.underlying T = some .bool):Pure P σ o (.bool (a == b)):=fun _ _ hs w=>by
 simp only [execOp,ho,hs.ev hx,hs.ev hy,eqGuard,binOp]
 simp [zOt hT]
theorem p_neb {a b:Bool} (ho:o.op = .binOp .neq T x y U) (hx:ev σ x = some (.bool a)) (hy:ev σ y = some (.bool b)) (hT:P.underlying T = some .bool):Pure P σ o (.bool (!(a == b))):=fun _ _ hs w=>by
 simp only [execOp,ho,hs.ev hx,hs.ev hy,eqGuard,binOp]
 simp [zOt hT]
theorem zHF {p:Option Addr} (hT:P.underlying T = some (.pointer E)):(Op.equal T (.pointer p) (.pointer none)).run P w = .ok p.isNone w:=by
 unfold Op.equal Op.maxDepth
 rw [Op.equalIn]
 cases p <;> simp only [Sem.run_bind,run_underlying hT,Result.andThen,Sem.run_pure] <;> rfl
theorem zRd {p:Option Addr} (ho:o.op = .binOp .eql T x y U) (hx:ev σ x = some (.pointer p)) (hy:ev σ y = some (.pointer none)) (hT:P.underlying T = some (.pointer E)):Pure P σ o (.bool p.isNone):=fun _ _ hs w=>by
 cases p <;> simp only [execOp,ho,hs.ev hx,hs.ev hy,eqGuard,binOp] <;> simp [zHF hT]
theorem zRe {p:Option Addr} (ho:o.op = .binOp .neq T x y U) (hx:ev σ x = some (.pointer p)) (hy:ev σ y = some (.pointer none)) (hT:P.underlying T = some (.pointer E)):Pure P σ o (.bool (!p.isNone)):=fun _ _ hs w=>by
 cases p <;> simp only [execOp,ho,hs.ev hx,hs.ev hy,eqGuard,binOp] <;> simp [zHF hT]
theorem zIR {s:Sl} {n c:Nat} (hT:P.underlying T = some (.slice E)):(Op.equal T s.val (.slice none n c)).run P w = .ok s.a.isNone w:=by
 obtain ⟨a,m,d⟩:=s
 unfold Op.equal Op.maxDepth
 rw [Op.equalIn]
 cases a <;> simp only [Sl.val,Sem.run_bind,run_underlying hT,Result.andThen,Sem.run_pure] <;> rfl
theorem zSz {s:Sl} {n c:Nat} (ho:o.op = .binOp .eql T x y U) (hx:ev σ x = some s.val) (hy:ev σ y = some (.slice none n c)) (hT:P.underlying T = some (.slice E)):Pure P σ o (.bool s.a.isNone):=fun _ _ hs w=>by
 obtain ⟨a,m,d⟩:=s
 have:=zIR (w:=w) (s:=⟨a,m,d⟩) (n:=n) (c:=c) hT
 simp only [execOp,ho,hs.ev hx,hs.ev hy,eqGuard,binOp]
 simp [this]
theorem zS0 {s:Sl} {n c:Nat} (ho:o.op = .binOp .neq T x y U) (hx:ev σ x = some s.val) (hy:ev σ y = some (.slice none n c)) (hT:P.underlying T = some (.slice E)):Pure P σ o (.bool (!s.a.isNone)):=fun _ _ hs w=>by
 obtain ⟨a,m,d⟩:=s
 have:=zIR (w:=w) (s:=⟨a,m,d⟩) (n:=n) (c:=c) hT
 simp only [execOp,ho,hs.ev hx,hs.ev hy,eqGuard,binOp]
 simp [this]
end nils
theorem p_len {T:TypeId} {s:Sl} {E esz:Nat} (ho:o.op = .call { callee:=.builtin .len,args:=#[x],argTypes:=#[T] }) (hx:ev σ x = some s.val) (hT:sliceT P T E esz = true):Pure P σ o (.int .i64 s.n):=fun _ _ hs w=>by
 simp [execOp,ho,hs.ev hx,resolve,invoke,builtin,Builtin.len_,run_underlying (zCv hT).1,goInt]
theorem p_lens {T:TypeId} {s:ByteArray} (ho:o.op = .call { callee:=.builtin .len,args:=#[x],argTypes:=#[T] }) (hx:ev σ x = some (.string s)) (hT:stringT P T = true):Pure P σ o (.int .i64 s.size):=fun _ _ hs w=>by
 simp [execOp,ho,hs.ev hx,resolve,invoke,builtin,Builtin.len_,run_underlying (zET hT),goInt]
theorem zMH {vs:Array Value} {i:Nat} {v:Value} (ho:o.op = .extract x i) (hx:ev σ x = some (.tuple vs)) (hv:vs[i]? = some v):Pure P σ o v:=fun _ _ hs w=>by
 simp [execOp,ho,hs.ev hx,Instr.extract,hv]
theorem p_idx {T E esz:Nat} {k:IntKind} {s:Sl} {i:Int} {a:Addr} (ho:o.op = .indexAddr T x y) (hx:ev σ x = some s.val) (hy:ev σ y = some (.int k i)) (hT:sliceT P T E esz = true)
  (ha:s.a = some a) (h0:0 ≤ i) (h1:i < s.n):Pure P σ o (.pointer (some (a.add (i.toNat * esz)))):=fun _ _ hs w=>by
 simp [execOp,ho,hs.ev hx,hs.ev hy,Instr.indexAt,asIntOf,run_underlying (zCv hT).1,ha,h0,h1,zCK (zCv hT).2]
theorem p_idxA {T E len esz:Nat} {k:IntKind} {i:Int} {a:Addr} (ho:o.op = .indexAddr T x y) (hx:ev σ x = some (.pointer (some a))) (hy:ev σ y = some (.int k i)) (hT:arrayT P T E len esz = true)
  (h0:0 ≤ i) (h1:i < len):Pure P σ o (.pointer (some (a.add (i.toNat * esz)))):=fun _ _ hs w=>by
 simp [execOp,ho,hs.ev hx,hs.ev hy,Instr.indexAt,asIntOf,Instr.sureAddr,run_underlying (zJ4 hT).1,h0,h1,zCK (zJ4 hT).2]
theorem p_idxS {T:Nat} {k:IntKind} {s:ByteArray} {i:Int} {b:UInt8} (ho:o.op = .index T x y) (hx:ev σ x = some (.string s)) (hy:ev σ y = some (.int k i)) (hT:stringT P T = true)
  (h0:0 ≤ i) (h1:s[i.toNat]? = some b):Pure P σ o (.int .u8 (b.toNat:Int)):=fun _ _ hs w=>by
 simp [execOp,ho,hs.ev hx,hs.ev hy,Instr.index,asIntOf,run_underlying (zET hT),h0,h1]
theorem zKv {fn:Fn} {first cap:Array Operand} {fs cs:List Value} (ho:o.op = .makeFunc fn first cap) (hf:first.toList.mapM (ev σ) = some fs) (hc:cap.toList.mapM (ev σ) = some cs):Pure P σ o (.func fn fs.toArray cs.toArray):=fun a _ hs w=>by
 have key:∀ (l:List Operand) (vs:List Value),l.mapM (ev σ) = some vs→l.map a.eval = vs:=by
  intro l
  induction l with
  | nil=>intro vs h; simp at h; simp [h]
  | cons u l ih =>
   intro vs h
   simp only [List.mapM_cons] at h
   cases hu:ev σ u with
   | none=>simp [hu] at h
   | some v =>
    cases hl:l.mapM (ev σ) with
    | none=>simp [hu,hl] at h
    | some vs'=>simp [hu,hl] at h; subst h; simp [hs.ev hu,ih _ hl]
 have h1:first.map a.eval = fs.toArray:=by
  apply Array.ext'; simpa using key _ _ hf
 have h2:cap.map a.eval = cs.toArray:=by
  apply Array.ext'; simpa using key _ _ hc
 simp only [execOp,ho,Instr.makeFunc,h1,h2]
 simp
end
end Go.Sep
namespace Go.Sep
open Go
section
variable {P : Program} {σ : List (Nat × Value)} {o : Oper} {x y z : Operand} {w w' : World} {v : Value}
def optI (σ : List (Nat × Value)) (x : Option Operand) (d : Int) (i : Int) : Prop :=
  match x with
  | none => i = d
  | some x => ∃ k, ev σ x = some (.int k i)
theorem p_slc {T E esz : Nat} {s : Sl} {lo hi mx : Option Operand} {l h m : Int} (ho : o.op = .slice T x lo hi mx) (hx : ev σ x = some s.val) (hT : sliceT P T E esz = true)
    (hl : optI σ lo 0 l) (hh : optI σ hi s.n h) (hm : optI σ mx s.c m) (hmx : mx.isSome = true → hi.isSome = true) (h0 : 0 ≤ l) (h1 : l ≤ h) (h2 : h ≤ m) (h3 : m ≤ s.c) :
    Pure P σ o (Sl.val ⟨cutA s.a l.toNat m.toNat esz, h.toNat - l.toNat, m.toNat - l.toNat⟩) := fun a n hs w => by
  obtain ⟨hsl, hsz⟩ := zCv hT
  have hz := zCK (w := w) hsz
  have bound : ∀ (k : IntKind) (i : Int) (y : Nat) (c : BoundsCode), 0 ≤ i → i ≤ y → (Instr.sliceBound (.int k i) y c).run P w = .ok i.toNat w := fun k i y c ha hb => by
    simp [Instr.sliceBound, asIntOf, ha, hb]
  have hmE : m.toNat ≤ s.c := by omega
  have hmI : ((m.toNat : Nat) : Int) = m := Int.toNat_of_nonneg (by omega)
  have hhI : ((h.toNat : Nat) : Int) = h := Int.toNat_of_nonneg (by omega)
  simp only [execOp, ho, Instr.sliceAt, hs.ev hx]
  simp only [Sem.run_bind, run_underlying hsl, Result.andThen, Instr.slice, Sl.val]
  simp only [Instr.sliceBounds]
  cases mx with
  | none =>
    simp only [optI] at hm; subst hm
    cases hi with
    | none =>
      simp only [optI] at hh; subst hh
      cases lo with
      | none =>
        simp only [optI] at hl; subst hl
        simp [hz, cutA]
      | some lo =>
        obtain ⟨k, hk⟩ := hl
        simp [hs.ev hk, bound k l s.n _ h0 (by omega), hz, cutA]
    | some hi =>
      obtain ⟨k', hk'⟩ := hh
      cases lo with
      | none =>
        simp only [optI] at hl; subst hl
        simp [hs.ev hk', bound k' h s.c _ (by omega) (by omega), hz, cutA]
      | some lo =>
        obtain ⟨k, hk⟩ := hl
        simp [hs.ev hk, hs.ev hk', bound k' h s.c _ (by omega) (by omega), bound k l h.toNat _ h0 (by omega), hz, cutA]
  | some mx =>
    obtain ⟨k'', hk''⟩ := hm
    cases hi with
    | none => simp at hmx
    | some hi =>
      obtain ⟨k', hk'⟩ := hh
      cases lo with
      | none =>
        simp only [optI] at hl; subst hl
        simp [hs.ev hk', hs.ev hk'', bound k'' m s.c _ (by omega) (by omega), bound k' h m.toNat _ (by omega) (by omega), hz, cutA]
      | some lo =>
        obtain ⟨k, hk⟩ := hl
        simp [hs.ev hk, hs.ev hk', hs.ev hk'', bound k'' m s.c _ (by omega) (by omega), bound k' h m.toNat _ (by omega) (by omega), bound k l h.toNat _ h0 (by omega), hz, cutA]
theorem p_slcS {T : Nat} {s : ByteArray} {lo hi : Option Operand} {l h : Int} (ho : o.op = .slice T x lo hi none) (hx : ev σ x = some (.string s)) (hT : stringT P T = true)
    (hl : optI σ lo 0 l) (hh : optI σ hi s.size h) (h0 : 0 ≤ l) (h1 : l ≤ h) (h2 : h ≤ s.size) : Pure P σ o (.string (s.extract l.toNat h.toNat)) := fun a n hs w => by
  have hsl := zET hT
  have bound : ∀ (k : IntKind) (i : Int) (y : Nat) (c : BoundsCode), 0 ≤ i → i ≤ y → (Instr.sliceBound (.int k i) y c).run P w = .ok i.toNat w := fun k i y c ha hb => by
    simp [Instr.sliceBound, asIntOf, ha, hb]
  simp only [execOp, ho, Instr.sliceAt, hs.ev hx]
  simp only [Sem.run_bind, run_underlying hsl, Result.andThen, Instr.slice]
  simp only [Instr.sliceBounds]
  cases hi with
  | none =>
    simp only [optI] at hh; subst hh
    cases lo with
    | none => simp only [optI] at hl; subst hl; simp
    | some lo =>
      obtain ⟨k, hk⟩ := hl
      simp [hs.ev hk, bound k l s.size _ h0 (by omega)]
  | some hi =>
    obtain ⟨k', hk'⟩ := hh
    cases lo with
    | none =>
      simp only [optI] at hl; subst hl
      simp [hs.ev hk', bound k' h s.size _ (by omega) (by omega)]
    | some lo =>
      obtain ⟨k, hk⟩ := hl
      simp [hs.ev hk, hs.ev hk', bound k' h s.size _ (by omega) (by omega), bound k l h.toNat _ h0 (by omega)]
theorem e_load {T : TypeId} {a : Addr} (ho : o.op = .load T x) (hx : ev σ x = some (.pointer (some a))) (hT : cellT P T = true) (hv : w.cell? a = some v) : Eff P σ o w (.value v) w := fun _ _ hs => by
  simp [execOp, ho, hs.ev hx, Instr.loadAt, Instr.sureAddr, loadVar, zHn hT, load, Sem.run, hv]
theorem run_loadCells {a : Addr} {cs : Array Value} (h : RdN w a cs) : (loadCells a cs.size).run P w = .ok cs w := by
  have key : ∀ (n i : Nat) (acc : Array Value), i + n = cs.size → acc.toList = cs.toList.take i → (loadCellsFrom a i n acc).run P w = .ok cs w := by
    intro n
    induction n with
    | zero =>
      intro i acc hi hacc
      have : acc = cs := by apply Array.ext'; rw [hacc, List.take_of_length_le]; simp; omega
      simp [loadCellsFrom, this]
    | succ n ih =>
      intro i acc hi hacc
      have hlt : i < cs.size := by omega
      have hc := h i hlt
      rw [Array.getElem?_eq_getElem hlt] at hc
      simp only [loadCellsFrom, Sem.run_bind, load, Sem.run, hc, Result.andThen]
      refine ih (i + 1) _ (by omega) ?_
      rw [Array.toList_push, hacc, List.take_succ_eq_append_getElem (by simpa using hlt)]
      simp
  exact key cs.size 0 #[] (by omega) (by simp)
theorem zOu {T n : Nat} {a : Addr} {cs : Array Value} (ho : o.op = .load T x) (hx : ev σ x = some (.pointer (some a))) (hT : aggT P T n = true) (hn : cs.size = n) (hv : RdN w a cs) : Eff P σ o w (.value (.agg cs)) w := fun _ _ hs => by
  subst hn
  simp [execOp, ho, hs.ev hx, Instr.loadAt, Instr.sureAddr, loadVar, (zFD hT).1, (zFD hT).2, run_loadCells hv]
theorem zKw {a : Addr} (hv : flatV v = true) (hc : ∃ u, w.cell? a = some u) (hf : w.frozen? a = false) : (store a v).run P w = .ok () (w.setCell a v) := by
  obtain ⟨u, hu⟩ := hc
  cases v <;> simp [flatV] at hv <;> simp [store, Sem.run, hu, hf]
theorem zJz {w : World} {p q : Addr} {x : Value} (h : ∃ u, w.cell? q = some u) : ∃ u, (w.setCell p x).cell? q = some u := by
  obtain ⟨u, hu⟩ := h
  unfold World.cell? at hu ⊢
  unfold World.setCell
  simp only [Array.getElem?_modify]
  cases hb : w.heap[q.block]? with
  | none => simp [hb] at hu
  | some o =>
    cases o <;> simp [hb] at hu
    rename_i c e fz
    by_cases hq : p.block = q.block
    · simp only [hq, if_true, hb, Option.map_some]
      obtain ⟨h1, h2⟩ := hu
      have hlt : q.off < c.size := (Array.getElem?_eq_some_iff.1 h2).1
      simp only [h1]
      cases hsp : p.spot with
      | some s => simp [h2]
      | none =>
        by_cases ho : p.off = q.off
        · simp [ho, hlt]
        · simp [Array.getElem?_setIfInBounds_ne ho, h2]
    · simp only [hq, if_false, hb]
      obtain ⟨h1, h2⟩ := hu
      simp [h1, h2]
theorem zLY {w : World} {p q : Addr} {x : Value} : (w.setCell p x).frozen? q = w.frozen? q := by
  unfold World.frozen? World.setCell
  simp only [Array.getElem?_modify]
  by_cases hq : p.block = q.block
  · simp only [hq, if_true]
    cases hb : w.heap[q.block]? with
    | none => rfl
    | some o => cases o <;> rfl
  · simp [hq]
theorem zEA {a : Addr} : ∀ (vs : List Value) (i : Nat) (w : World), (∀ v ∈ vs, flatV v = true) → (∀ j, j < vs.length → (∃ u, w.cell? (a.add (i + j)) = some u) ∧ w.frozen? (a.add (i + j)) = false) →
    (storeCells a vs i).run P w = .ok () (setCells a vs i w)
  | [], i, w, _, _ => rfl
  | v :: vs, i, w, hf, hc => by
    have h0 := hc 0 (by simp)
    simp only [Nat.add_zero] at h0
    simp only [storeCells, Sem.run_bind, zKw (hf v (by simp)) h0.1 h0.2, Result.andThen, setCells]
    refine zEA vs (i + 1) _ (fun u hu => hf u (by simp [hu])) fun j hj => ?_
    have hj' := hc (j + 1) (by simpa using hj)
    rw [show i + 1 + j = i + (j + 1) by omega]
    exact ⟨zJz hj'.1, by rw [zLY]; exact hj'.2⟩
theorem zS1 {T : TypeId} {a : Addr} (ho : o.op = .store T x y) (hx : ev σ x = some (.pointer (some a))) (hy : ev σ y = some v) (hT : sizeT P T 1 = true)
    (hw : w' = w.setCell a v) (hc : ∃ u, w.cell? a = some u) (hf : w.frozen? a = false) (hv : flatV v = true) : Eff P σ o w .skip w' := fun _ _ hs => by
  subst hw
  have h1 : v.cells = #[v] := by cases v <;> simp [flatV] at hv <;> rfl
  have ha : a.add 0 = a := by simp [Addr.add]
  simp [execOp, ho, hs.ev hx, hs.ev hy, Instr.storeAt, Instr.sureAddr, storeVar, zCK hT, h1, storeCells, ha, zKw hv hc hf]
theorem zRf {T n : Nat} {a : Addr} {cs : Array Value} (ho : o.op = .store T x y) (hx : ev σ x = some (.pointer (some a))) (hy : ev σ y = some (.agg cs)) (hT : sizeT P T n = true) (hw : w' = setCells a cs.toList 0 w) (hn : cs.size = n)
    (hc : ∀ i, i < cs.size → (∃ u, w.cell? (a.add i) = some u) ∧ w.frozen? (a.add i) = false) (hv : ∀ v ∈ cs.toList, flatV v = true) : Eff P σ o w .skip w' := fun _ _ hs => by
  subst hn; subst hw
  have := zEA (P := P) (a := a) cs.toList 0 w hv (fun j hj => by simpa using hc j (by simpa using hj))
  simp [execOp, ho, hs.ev hx, hs.ev hy, Instr.storeAt, Instr.sureAddr, storeVar, zCK hT, Value.cells, this]
theorem e_box {T : TypeId} {cs : Array Value} {a : Addr} (ho : o.op = .box T x) (hx : ev σ x = some v) (hc : v.cells = cs) (ha : a = ⟨w.heap.size, 0, none⟩) (hw : w' = { w with heap := w.heap.push (.cells cs T) }) : Eff P σ o w (.value (.pointer (some a))) w' := fun _ _ hs => by
  subst ha; subst hw; subst hc
  simp [execOp, ho, hs.ev hx, Instr.box, newVar, newRow, newObj, Sem.run]
def zeroT (P : Program) (T : TypeId) (z : Value) : Prop := ∃ i, P.info? T = some i ∧ i.zero = some z
theorem zDB {T : TypeId} {z : Value} (h : zeroT P T z) : (zeroValue T).run P w = .ok z w := by
  obtain ⟨i, hi, hz⟩ := h
  simp [zeroValue, typeInfo, program, hi, hz, Sem.run]
theorem zS2 {T : TypeId} {zv : Value} {cs : Array Value} {a : Addr} (ho : o.op = .alloc T) (hz : zeroT P T zv) (hc : zv.cells = cs) (ha : a = ⟨w.heap.size, 0, none⟩) (hw : w' = { w with heap := w.heap.push (.cells cs T) }) : Eff P σ o w (.value (.pointer (some a))) w' := fun _ _ hs => by
  subst ha; subst hw; subst hc
  simp [execOp, ho, Instr.alloc, zDB hz, newVar, newRow, newObj, Sem.run]
def partsOf (σ : List (Nat × Value)) : List (Nat × Operand) → Option (List (Nat × Value))
  | [] => some []
  | p :: ps => match ev σ p.2, partsOf σ ps with
    | some v, some vs => some ((p.1, v) :: vs)
    | _, _ => none
theorem zFU {a : Act} {n : Nat} (hs : Slots a n σ) : ∀ {ps : List (Nat × Operand)} {vs : List (Nat × Value)}, partsOf σ ps = some vs → ps.map (fun p => (p.1, a.eval p.2)) = vs
  | [], vs, h => by simp [partsOf] at h; subst h; rfl
  | p :: ps, vs, h => by
    unfold partsOf at h
    split at h
    · rename_i v vs' hv hvs
      cases h
      simp [hs.ev hv, zFU hs hvs]
    · cases h
def placesT (P : Program) (T : TypeId) (places : List (Nat × Nat)) : Prop :=
  ∃ fs, P.underlying T = some (.struct fs) ∧ fs.toList.map (fun f => ((P.info? f.type).map fun i => (f.offset, i.size))) = places.map some
theorem run_places {fs : List Field} : ∀ {places : List (Nat × Nat)}, fs.map (fun f => ((P.info? f.type).map fun i => (f.offset, i.size))) = places.map some →
    (List.mapM (fun f : Field => (Prod.mk f.offset <$> sizeOf f.type : Sem (Nat × Nat))) fs).run P w = .ok places w := by
  induction fs with
  | nil => intro places h; cases places <;> simp at h; simp
  | cons f fs ih =>
    intro places h
    cases places with
    | nil => simp at h
    | cons p places =>
      simp only [List.map_cons, List.cons.injEq] at h
      obtain ⟨h1, h2⟩ := h
      cases hi : P.info? f.type with
      | none => simp [hi] at h1
      | some i =>
        simp [hi] at h1; subst h1
        have hz : (sizeOf f.type).run P w = .ok i.size w := zCK (by simp [sizeT, hi])
        rw [List.mapM_cons]
        simp only [Sem.run_bind, Sem.run_map, hz, Result.andThen, ih h2, Sem.run_pure]
theorem zOv {T : TypeId} {zv : Value} {places : List (Nat × Nat)} {ps : Array (Nat × Operand)} {vs : List (Nat × Value)} {cs : Array Value} (ho : o.op = .build T ps) (hz : zeroT P T zv) (hp : placesT P T places)
    (hv : partsOf σ ps.toList = some vs) (hc : Instr.fill (places[·]?) zv.cells vs = some cs) : Pure P σ o (.agg cs) := fun _ _ hs w => by
  obtain ⟨fs, hu, hf⟩ := hp
  have h1 := zFU hs hv
  have h2 : (fs.mapM fun f => do pure (f.offset, ← sizeOf f.type) : Sem (Array (Nat × Nat))).run P w = .ok places.toArray w := by
    rw [Array.mapM_eq_mapM_toList]
    simp [run_places (w := w) hf, Result.andThen]
  simp only [execOp, ho, Instr.build]
  simp only [Sem.run_bind, zDB hz, Result.andThen, run_underlying hu, h2]
  have h3 : (fun x : Nat => places.toArray[x]?) = (fun x : Nat => places[x]?) := by funext i; simp
  simp [h1, h3, hc]
theorem zRg {T : TypeId} {ps : Array (Nat × Operand)} {vs : List (Nat × Value)} (ho : o.op = .build T ps) (hv : partsOf σ ps.toList = some vs) (hr : (Instr.build T vs.toArray).run P w = .ok v w') : Eff P σ o w (.value v) w' := fun _ _ hs => by
  have h1 := zFU hs hv
  have h2 : ∀ f : Operand → Value, ps.map (fun p => (p.1, f p.2)) = (ps.toList.map (fun p => (p.1, f p.2))).toArray := fun f => by apply Array.ext'; simp
  simp only [execOp, ho]
  rw [h2, h1]
  simp [hr]
theorem p_sem {v : Value} (h : ∀ w, Eff P σ o w (.value v) w) : Pure P σ o v := fun a n hs w => h w a n hs
theorem zIl {T E esz len : Nat} {zv : Value} {ps : Array (Nat × Operand)} {vs : List (Nat × Value)} {z cs : Array Value} {a : Addr} (ho : o.op = .buildSlice T len ps) (hT : sliceT P T E esz = true) (hz : zeroT P E zv)
    (hl : len * esz ≤ 2 ^ 24) (hv : partsOf σ ps.toList = some vs) (hzz : (Array.range (len * esz)).map (fun i => (if len * esz = 0 then #[] else zv.cells)[i % (if len * esz = 0 then #[] else zv.cells).size]!) = z)
    (hc : Instr.fill (fun i => some (i * esz, esz)) z vs = some cs) (ha : a = ⟨w.heap.size, 0, none⟩) (hw : w' = { w with heap := w.heap.push (.cells cs E) }) :
    Eff P σ o w (.value (Sl.val ⟨some a, len, len⟩)) w' := fun _ _ hs => by
  subst ha; subst hw; subst hzz
  obtain ⟨hsl, hsz⟩ := zCv hT
  have h1 := zFU hs hv
  simp only [execOp, ho, Instr.buildSlice]
  simp only [Sem.run_bind, Result.andThen, run_underlying hsl, zCK hsz]
  have h4 : ¬ (len * esz > 2 ^ 24) := by omega
  by_cases h0 : len * esz = 0
  · simp [h0] at hc
    simp [h0, h1, hc, newRow, newObj, Sem.run]
  · simp [h0] at hc
    simp [h0, h4, zDB hz, h1, hc, newRow, newObj, Sem.run]
theorem zRh {T : TypeId} {ok : Bool} {vx vy : Value} (ho : o.op = .lookup T x y ok) (hx : ev σ x = some vx) (hy : ev σ y = some vy) (hr : (Instr.lookup T vx vy ok).run P w = .ok v w') : Eff P σ o w (.value v) w' := fun _ _ hs => by
  simp [execOp, ho, hs.ev hx, hs.ev hy, hr]
theorem zOY {T : TypeId} {vx vy vz : Value} {u : Unit} (ho : o.op = .mapUpdate T x y z) (hx : ev σ x = some vx) (hy : ev σ y = some vy) (hz : ev σ z = some vz) (hr : (Instr.mapUpdate T vx vy vz).run P w = .ok u w') : Eff P σ o w .skip w' := fun _ _ hs => by
  simp [execOp, ho, hs.ev hx, hs.ev hy, hs.ev hz, hr]
theorem zQU {T U : TypeId} {vx : Value} (ho : o.op = .convert T U x) (hx : ev σ x = some vx) (hr : (convert T U vx).run P w = .ok v w') : Eff P σ o w (.value v) w' := fun _ _ hs => by
  simp [execOp, ho, hs.ev hx, hr]
theorem zS3 {op : BinOp} {T U : TypeId} {vx vy : Value} (ho : o.op = .binOp op T x y U) (hx : ev σ x = some vx) (hy : ev σ y = some vy) (hr : (do eqGuard op T x y vx vy; binOp op T vx vy : Sem Value).run P w = .ok v w') : Eff P σ o w (.value v) w' := fun _ _ hs => by
  simp only [execOp, ho, hs.ev hx, hs.ev hy]
  rw [Sem.run_bind, hr]; rfl
theorem zQV {T : TypeId} (ho : o.op = .makeMap T none) (hr : (Instr.makeMap T none).run P w = .ok v w') : Eff P σ o w (.value v) w' := fun _ _ hs => by
  simp [execOp, ho, hr]
theorem zOZ {T : TypeId} {vx vy : Value} (ho : o.op = .makeSlice T x y) (hx : ev σ x = some vx) (hy : ev σ y = some vy) (hr : (Instr.makeSlice T vx vy).run P w = .ok v w') : Eff P σ o w (.value v) w' := fun _ _ hs => by
  simp [execOp, ho, hs.ev hx, hs.ev hy, hr]
theorem zS4 {T : TypeId} {vx : Value} (ho : o.op = .range T x) (hx : ev σ x = some vx) (hr : (Instr.range T vx).run P w = .ok v w') : Eff P σ o w (.value v) w' := fun _ _ hs => by
  simp [execOp, ho, hs.ev hx, hr]
theorem e_next {s : Bool} {vx : Value} {t : TypeId} (ho : o.op = .next x s) (ht : o.type = t) (hx : ev σ x = some vx) (hr : (Instr.next vx s t).run P w = .ok v w') : Eff P σ o w (.value v) w' := fun _ _ hs => by
  simp [execOp, ho, ht, hs.ev hx, hr]
theorem zS5 {vx : Value} (ho : o.op = .entry x) (hx : ev σ x = some vx) (hr : (Instr.entry vx).run P w = .ok v w') : Eff P σ o w (.value v) w' := fun _ _ hs => by
  simp [execOp, ho, hs.ev hx, hr]
theorem zKx {T : TypeId} {vx : Value} (ho : o.op = .makeInterface T x) (hx : ev σ x = some vx) (hr : (Instr.makeInterface T vx).run P w = .ok v w') : Eff P σ o w (.value v) w' := fun _ _ hs => by
  simp [execOp, ho, hs.ev hx, hr]
section builtins
variable {ts : Array TypeId} {t : TypeId} {vx vy : Value}
theorem zRi (ho : o.op = .call { callee := .builtin .append, args := #[x, y], argTypes := ts }) (ht : o.type = t) (hx : ev σ x = some vx) (hy : ev σ y = some vy) (hr : (Builtin.append_ ts t #[vx, vy]).run P w = .ok v w') : Eff P σ o w (.value v) w' := fun _ _ hs => by
  simp [execOp, ho, hs.ev hx, hs.ev hy, ht, resolve, invoke, builtin, hr]
theorem e_copy (ho : o.op = .call { callee := .builtin .copy, args := #[x, y], argTypes := ts }) (ht : o.type = t) (hx : ev σ x = some vx) (hy : ev σ y = some vy) (hr : (Builtin.copy_ ts t #[vx, vy]).run P w = .ok v w') : Eff P σ o w (.value v) w' := fun _ _ hs => by
  simp [execOp, ho, hs.ev hx, hs.ev hy, ht, resolve, invoke, builtin, hr]
theorem zRj (ho : o.op = .call { callee := .builtin .delete, args := #[x, y], argTypes := ts }) (ht : o.type = t) (hx : ev σ x = some vx) (hy : ev σ y = some vy) (hr : (Builtin.delete_ ts t #[vx, vy]).run P w = .ok v w') : Eff P σ o w (.value v) w' := fun _ _ hs => by
  simp [execOp, ho, hs.ev hx, hs.ev hy, ht, resolve, invoke, builtin, hr]
theorem zS6 (ho : o.op = .call { callee := .builtin .clear, args := #[x], argTypes := ts }) (ht : o.type = t) (hx : ev σ x = some vx) (hr : (Builtin.clear_ ts t #[vx]).run P w = .ok v w') : Eff P σ o w (.value v) w' := fun _ _ hs => by
  simp [execOp, ho, hs.ev hx, ht, resolve, invoke, builtin, hr]
theorem e_len (ho : o.op = .call { callee := .builtin .len, args := #[x], argTypes := ts }) (ht : o.type = t) (hx : ev σ x = some vx) (hr : (Builtin.len_ ts t #[vx]).run P w = .ok v w') : Eff P σ o w (.value v) w' := fun _ _ hs => by
  simp [execOp, ho, hs.ev hx, ht, resolve, invoke, builtin, hr]
theorem e_cap (ho : o.op = .call { callee := .builtin .cap, args := #[x], argTypes := ts }) (ht : o.type = t) (hx : ev σ x = some vx) (hr : (Builtin.cap_ ts t #[vx]).run P w = .ok v w') : Eff P σ o w (.value v) w' := fun _ _ hs => by
  simp [execOp, ho, hs.ev hx, ht, resolve, invoke, builtin, hr]
end builtins
def evs (σ : List (Nat × Value)) : List Operand → Option (List Value)
  | [] => some []
  | x :: xs => match ev σ x, evs σ xs with
    | some v, some vs => some (v :: vs)
    | _, _ => none
theorem zFi {a : Act} {n : Nat} (hs : Slots a n σ) : ∀ {xs : List Operand} {vs : List Value}, evs σ xs = some vs → xs.map a.eval = vs
  | [], vs, h => by simp [evs] at h; subst h; rfl
  | x :: xs, vs, h => by
    unfold evs at h
    split at h
    · rename_i v vs' hv hvs
      cases h
      simp [hs.ev hv, zFi hs hvs]
    · cases h
theorem zEU {f : FuncId} {args : Array Value} (h : callable P f = true) : (callFunc f args).run P w = .ok (.enter f args) w := by
  unfold callable at h
  unfold callFunc program
  cases hf : P.funcs[f]? with
  | none => simp [hf] at h
  | some fn =>
    simp [hf] at h
    have h2 : fn.body.isNone = false := by cases hb : fn.body <;> simp [hb] at h ⊢
    have h1 : (fn.name == "runtime.NumGoroutine") = false := by simpa using h.1
    simp only [Sem.run_bind, Sem.run, Result.andThen, hf, h1, h2, Bool.false_eq_true, if_false, Sem.run_pure]
theorem e_call {f : FuncId} {xs : Array Operand} {ts : Array TypeId} {vs : List Value} (ho : o.op = .call { callee := .value x, args := xs, argTypes := ts }) (hx : ev σ x = some (.func (.func f) #[] #[])) (hv : evs σ xs.toList = some vs)
    (hf : callable P f = true) : Eff P σ o w (.enter f vs.toArray) w := fun a _ hs => by
  have h1 : xs.map a.eval = vs.toArray := by apply Array.ext'; simpa using zFi hs hv
  simp [execOp, ho, resolve, hs.ev hx, h1, Deferred.ofValue, invoke, zEU hf]
theorem zOw {f : FuncId} {first cap : Array Value} {xs : Array Operand} {ts : Array TypeId} {vs : List Value} (ho : o.op = .call { callee := .value x, args := xs, argTypes := ts }) (hx : ev σ x = some (.func (.func f) first cap)) (hv : evs σ xs.toList = some vs)
    (hf : callable P f = true) : Eff P σ o w (.enter f (first ++ vs.toArray ++ cap)) w := fun a _ hs => by
  have h1 : xs.map a.eval = vs.toArray := by apply Array.ext'; simpa using zFi hs hv
  simp [execOp, ho, resolve, hs.ev hx, h1, Deferred.ofValue, invoke, zEU hf]
end
section
variable {P : Program} {fn : Func} {a : Act} {n : Nat} {σ : List (Nat × Value)} {w : World}
theorem zOa {T : TypeId} {b : Addr} {v : Value} (hT : cellT P T = true) (hv : w.cell? b = some v) : (loadVar T b).run P w = .ok v w := by
  simp [loadVar, zHn hT, load, Sem.run, hv]
theorem zNO {T m : Nat} {b : Addr} {cs : Array Value} (hT : aggT P T m = true) (hm : cs.size = m) (hv : RdN w b cs) : (loadVar T b).run P w = .ok (.agg cs) w := by
  subst hm
  simp [loadVar, (zFD hT).1, (zFD hT).2, run_loadCells hv]
def resAt (P : Program) (σ : List (Nat × Value)) (w : World) (r : ResultVar) (v : Value) : Prop :=
  match r with
  | .tmp t => look σ t = some v
  | .cell t T => ∃ b, look σ t = some (.pointer (some b)) ∧ (loadVar T b).run P w = .ok v w
def resSem (tmps : Array Value) : ResultVar → Sem Value
  | .tmp t => pure (tmps.getD t undef)
  | .cell b t => do loadVar t (← asAddr (tmps.getD b undef))
theorem zPq (fn : Func) (tmps : Array Value) : results fn tmps = (do
    let vs ← fn.results.mapM (resSem tmps)
    pure (if h : vs.size = 1 then vs[0] else .tuple vs)) := by
  unfold results
  congr 1
theorem zIm {r : ResultVar} {v : Value} (hs : Slots a n σ) (h : resAt P σ w r v) : (resSem a.tmps r).run P w = .ok v w := by
  cases r with
  | tmp t => simp only [resSem, Sem.run_pure, hs.at' _ _ h]
  | cell b T =>
    obtain ⟨c, hc, hl⟩ := h
    have := hs.at' _ _ hc
    simp only [resSem]
    rw [this]
    simp [asAddr, hl]
end
end Go.Sep
namespace Go.Sep
open Go Go.RowKit
theorem add_mk (b o n:Nat):(⟨b,o,none⟩:Addr).add n = ⟨b,o + n,none⟩:=by
 unfold Addr.add; split
 ·rename_i h; subst h; rfl
 ·rfl
theorem add_add' (a:Addr) (h:a.spot = none) (m n:Nat):(a.add m).add n = a.add (m + n):=by
 obtain ⟨b,o,s⟩:=a; simp only at h; subst h; simp [add_mk,Nat.add_assoc]
section
variable {B w:World} {Γ:List HProp}
theorem zBr {b off:Nat} {cs:Array Value} {T:TypeId} {fz:Nat×Nat} {v:Value} (h:w.heap[b]? = some (.cells cs T fz)) (hv:cs[off]? = some v):w.cell? ⟨b,off,none⟩ = some v:=by
 simp [World.cell?,h,hv]
theorem zDb {b off:Nat} {cs:Array Value} {T:TypeId} {fz:Nat×Nat} (h:w.heap[b]? = some (.cells cs T fz)) (hf:¬ (fz.1 ≤ off∧off < fz.2)):w.frozen? ⟨b,off,none⟩ = false:=by
 obtain ⟨lo,hi⟩:=fz
 simp [World.frozen?,h]
 simp at hf
 exact hf
theorem Holds.mem {A:HProp} (h:Holds B Γ w) (hm:A ∈ Γ):∃ Δ,Holds B (A::Δ) w:=by
 obtain ⟨i,hi⟩:=List.mem_iff_getElem?.1 hm
 exact ⟨_,h.pick i hi⟩
theorem Holds.blockOf {b:Nat} {o:Obj} (h:Holds B Γ w) (hm:blk b o ∈ Γ):w.heap[b]? = some o:=by
 obtain ⟨Δ,h'⟩:=h.mem hm; exact h'.block
theorem Holds.oldCell (h:Holds B Γ w) {a:Addr} {v:Value} (hc:B.cell? a = some v):w.cell? a = some v:=by
 unfold World.cell? at hc ⊢
 cases hb:B.heap[a.block]? with
 | none=>simp [hb] at hc
 | some o=>rw [h.old hb]; simpa [hb] using hc
theorem r_new {T:TypeId} {cs:Array Value} {k:Addr→K} (h:Holds B Γ w) (hk:∀ b w',Holds B (blk b (.cells cs T (0,0))::Γ) w'→k ⟨b,0,none⟩ w'):New T cs k w :=
 ⟨_,_,rfl,rfl,hk _ _ (h.alloc _)⟩
theorem r_dr {k:K} (h:Holds B Γ w) (hk:∀ w',Holds B Γ w'→k w'):Dr k w:=⟨_,rfl,hk _ (h.drew _)⟩
theorem r_ite {b:Bool} {x y:K} (h1:b = true→x w) (h2:b = false→y w):Ite b x y w:=⟨h1,h2⟩
theorem zOx {b:Bool} {x y:K} (hb:b = true) (h1:x w):Ite b x y w:=⟨fun _=>h1,fun h=>absurd (hb.symm.trans h) (by simp)⟩
theorem zLZ {b:Bool} {x y:K} (hb:b = false) (h1:y w):Ite b x y w:=⟨fun h=>absurd (hb.symm.trans h) (by simp),fun _=>h1⟩
theorem r_ar {e e':Int} {k:Int→K} (he:e = e') (hk:k e' w):Ar e k w:=⟨e',he.symm,hk⟩
theorem r_cd {p:Prop} {k:K} (hp:p) (hk:k w):Cd p k w:=⟨hp,hk⟩
theorem wrap64 {e:Int} (h0:-9223372036854775808 ≤ e) (h1:e ≤ 9223372036854775807):IntKind.wrap .i64 e = e:=by
 unfold IntKind.wrap; simp only [IntKind.bits,IntKind.signed,Bool.true_and,decide_eq_true_eq,Nat.reduceSub,Int.reducePow,ge_iff_le]; split <;> omega
theorem wrapU64 {e:Int} (h0:0 ≤ e) (h1:e ≤ 18446744073709551615):IntKind.wrap .u64 e = e:=by
 unfold IntKind.wrap; simp only [IntKind.bits,IntKind.signed,Bool.false_and,Bool.false_eq_true,if_false]; omega
theorem zOy {e:Int} {k:Int→K} (h0:-9223372036854775808 ≤ e) (h1:e ≤ 9223372036854775807) (hk:k e w):Ar (IntKind.wrap .i64 e) k w:=r_ar (wrap64 h0 h1) hk
theorem r_ld {α:Type} {a:Addr} {b off:Nat} {cs:Array Value} {T:TypeId} {fz:Nat×Nat} {c:α→Value} {x:α} {k:α→K} (h:Holds B Γ w) (ha:a = ⟨b,off,none⟩) (hm:blk b (.cells cs T fz) ∈ Γ)
  (hv:cs[off]? = some (c x)) (hk:k x w):Ld a c k w:=⟨x,by subst ha; exact zBr (h.blockOf hm) hv,hk⟩
theorem zQW {b off:Nat} {cs cs':Array Value} {T:TypeId} {fz:Nat×Nat} (h:w.heap[b]? = some (.cells cs T fz)) (hc:∀ i,i < cs'.size→cs[off + i]? = cs'[i]?):RdN w ⟨b,off,none⟩ cs':=fun i hi=>by
 rw [add_mk]
 rw [← hc i hi]
 have:cs[off + i]? = some cs'[i]:=by rw [hc i hi]; simp [hi]
 rw [zBr h this,this]
theorem zIn {b off:Nat} {cs:Array Value} {T:TypeId} {fz:Nat×Nat} {v:Value} (h:w.heap[b]? = some (.cells cs T fz)) :
  w.setCell ⟨b,off,none⟩ v = { w with heap:=w.heap.setIfInBounds b (.cells (cs.setIfInBounds off v) T fz) }:=by
 unfold World.setCell
 congr 1
 apply Array.ext_getElem?
 intro i
 rw [Array.getElem?_modify]
 by_cases hi:b = i
 ·subst hi
  have h3:b < w.heap.size:=(Array.getElem?_eq_some_iff.1 h).1
  simp only [if_true,h,Option.map_some]
  simp [h3]
 ·rw [if_neg hi,Array.getElem?_setIfInBounds_ne hi]
theorem r_st {a:Addr} {b off:Nat} {cs:Array Value} {T:TypeId} {fz:Nat×Nat} {v:Value} {k:K} (i:Nat) (h:Holds B Γ w) (ha:a = ⟨b,off,none⟩) (hi:Γ[i]? = some (blk b (.cells cs T fz))) (ho:off < cs.size)
  (hf:¬ (fz.1 ≤ off∧off < fz.2)) (hv:flatV v = true) (hk:∀ w',Holds B (Γ.set i (blk b (.cells (cs.setIfInBounds off v) T fz))) w'→k w'):St a v k w:=by
 subst ha
 have h1:=h.pick i hi
 have hb:=h1.block
 refine ⟨_,rfl,⟨_,zBr hb (Array.getElem?_eq_getElem ho)⟩,zDb hb hf,hv,hk _ ?_⟩
 exact Holds.put i hi (h1.setBlock (zIn hb))
theorem zDq {b:Nat} {T:TypeId} {fz:Nat×Nat}:∀ (vs:List Value) (off i:Nat) (w:World) (cs:Array Value),w.heap[b]? = some (.cells cs T fz) →
  setCells ⟨b,off,none⟩ vs i w = { w with heap:=w.heap.setIfInBounds b (.cells ((vs.zipIdx (off + i)).foldl (fun c p=>c.setIfInBounds p.2 p.1) cs) T fz) }
 | [],off,i,w,cs,h=>by
  simp only [setCells,List.zipIdx_nil,List.foldl_nil]
  have hlt:=(Array.getElem?_eq_some_iff.1 h).1
  have:w.heap.setIfInBounds b (.cells cs T fz) = w.heap:=by
   apply Array.ext
   ·simp
   ·intro j h1 h2
    rw [Array.getElem_setIfInBounds]
    split
    ·rename_i hj; subst hj; exact (Array.getElem?_eq_some_iff.1 h).2.symm
    ·rfl
  rw [this]
 | v::vs,off,i,w,cs,h=>by
  have hlt:=(Array.getElem?_eq_some_iff.1 h).1
  simp only [setCells,add_mk]
  rw [zIn h]
  rw [zDq (T:=T) (fz:=fz) vs off (i + 1) _ (cs.setIfInBounds (off + i) v) (by simp [hlt])]
  simp only [List.zipIdx_cons,List.foldl_cons,Array.setIfInBounds_setIfInBounds]
  rw [Nat.add_assoc]
theorem zE3:∀ (vs:List Value) (pre cs:List Value),pre.length + vs.length = (pre++cs).length →
  (vs.zipIdx pre.length).foldl (fun c p=>c.setIfInBounds p.2 p.1) (pre++cs).toArray = (pre++vs).toArray
 | [],pre,cs,h=>by
  have:cs = []:=by simpa using h
  simp [this]
 | v::vs,pre,[],h=>by simp at h
 | v::vs,pre,c::cs,h=>by
  simp only [List.zipIdx_cons,List.foldl_cons]
  have h1:(pre++c::cs).toArray.setIfInBounds pre.length v = ((pre++[v])++cs).toArray:=by
   apply Array.ext'; simp
  rw [h1]
  have:=zE3 vs (pre++[v]) cs (by simp at h ⊢; omega)
  simpa using this
theorem r_stN {a:Addr} {b n:Nat} {cs vs:Array Value} {T:TypeId} {fz:Nat×Nat} {k:K} (i:Nat) (h:Holds B Γ w) (ha:a = ⟨b,0,none⟩) (hi:Γ[i]? = some (blk b (.cells cs T fz))) (hn:cs.size = n) (hv:vs.size = n)
  (hf:∀ o,o < n→¬ (fz.1 ≤ o∧o < fz.2)) (hfl:∀ v ∈ vs.toList,flatV v = true) (hk:∀ w',Holds B (Γ.set i (blk b (.cells vs T fz))) w'→k w'):StN a n vs k w:=by
 subst ha
 have h1:=h.pick i hi
 have hb:=h1.block
 refine ⟨_,rfl,hv,fun j hj=>?_,hfl,hk _ ?_⟩
 ·rw [add_mk,Nat.zero_add]
  exact ⟨⟨_,zBr hb (Array.getElem?_eq_getElem (by omega))⟩,zDb hb (hf j (by omega))⟩
 ·refine Holds.put i hi (h1.setBlock ?_)
  rw [zDq _ _ _ _ _ hb]
  have:=zE3 vs.toList [] cs.toList (by simp; omega)
  simp only [List.length_nil,List.nil_append] at this
  have h2:(cs.toList).toArray = cs:=by simp
  have h3:(vs.toList).toArray = vs:=by simp
  rw [h2,h3] at this
  simp only [Nat.zero_add,Nat.add_zero]
  rw [this]
theorem r_bld1 {zero cs:Array Value} {n:Nat} {k:Array Value→K} (hz:zero.size = n) (hn:cs.size = n) (hk:k cs w):Bld zero (fun i=>some (i * n,n)) [(0,.agg cs)] k w:=by
 refine ⟨cs,?_,hk⟩
 have h1:(Value.agg cs).cells = cs:=rfl
 simp only [Instr.fill,h1,Nat.zero_mul,Nat.zero_add]
 rw [if_neg (by simp [hz,hn])]
 have h2:=zE3 cs.toList [] zero.toList (by simp; omega)
 simp only [List.length_nil,List.nil_append] at h2
 have h3:(cs.toList).toArray = cs:=by simp
 have h4:(zero.toList).toArray = zero:=by simp
 rw [h3,h4] at h2
 rw [← Array.foldl_toList,Array.toList_zipIdx]
 exact congrArg some h2
theorem nofz (o:Nat):¬ (((0,0):Nat×Nat).1 ≤ o∧o < ((0,0):Nat×Nat).2):=by simp
end
theorem at1 {A0:HProp} {A:HProp} {Γ:List HProp}:(A0::A::Γ)[1]? = some A:=rfl
theorem at2 {A0:HProp} {A1:HProp} {A:HProp} {Γ:List HProp}:(A0::A1::A::Γ)[2]? = some A:=rfl
theorem at3 {A0:HProp} {A1:HProp} {A2:HProp} {A:HProp} {Γ:List HProp}:(A0::A1::A2::A::Γ)[3]? = some A:=rfl
theorem at4 {A0:HProp} {A1:HProp} {A2:HProp} {A3:HProp} {A:HProp} {Γ:List HProp}:(A0::A1::A2::A3::A::Γ)[4]? = some A:=rfl
def SlC (E esz:Nat) (s:Sl) (vs:List Value):HProp:=fun h =>
 vs.length = s.n * esz∧s.n ≤ s.c ∧
 match s.a with
 | none=>s.c = 0
 | some a=>a.spot = none∧∃ cs fz,h a.block = some (.cells cs E fz)∧(∀ i,a.off ≤ i→i < a.off + s.c * esz→¬ (fz.1 ≤ i∧i < fz.2))∧a.off + s.c * esz ≤ cs.size∧∀ i,i < vs.length→cs[a.off + i]? = vs[i]?
structure RdC (w:World) (s:Sl) (esz:Nat) (vs:List Value):Prop where
 len:vs.length = s.n * esz
 nil:s.a = none→s.n = 0
 at':∀ a,s.a = some a→∀ i,i < vs.length→w.cell? (a.add i) = vs[i]?
def byteV (b:UInt8):Value:=.int .u8 b.toNat
def Bytes (E:Nat) (s:Sl) (xs:List UInt8):HProp:=SlC E 1 s (xs.map byteV)
abbrev RdB (w:World) (s:Sl) (xs:List UInt8):Prop:=RdC w s 1 (xs.map byteV)
section
variable {B w:World} {Γ:List HProp} {E esz:Nat} {s:Sl} {vs:List Value}
theorem zGl {b:Nat} {o:Obj} {h1:Hp} (hl:h1.le (own B w)) (hb:h1 b = some o):w.heap[b]? = some o:=(zGW (hl _ _ hb)).2
theorem Holds.rdC (h:Holds B Γ w) (hm:SlC E esz s vs ∈ Γ):RdC w s esz vs:=by
 obtain ⟨Δ,h'⟩:=h.mem hm
 obtain ⟨_,h1,h2,⟨hl,hc,hs⟩,_,l1,_,_⟩:=h'
 refine ⟨hl,fun hn=>?_,fun a ha i hi=>?_⟩
 ·rw [hn] at hs; simp only at hs; omega
 ·rw [ha] at hs
  obtain ⟨hsp,cs,fz,hb,_,_,hv⟩:=hs
  obtain ⟨b,off,sp⟩:=a
  simp only at hsp; subst hsp
  rw [add_mk]
  have:=zGl l1 hb
  have h3:=hv i hi
  have h4:vs[i]? = some vs[i]:=by simp [hi]
  rw [h4] at h3
  rw [zBr this h3,h4]
theorem Holds.imp' {a:Addr} {n c:Nat} {cs:Array Value} {T:TypeId} {fz:Nat×Nat} (h:Holds B (SlC E esz ⟨some a,n,c⟩ vs::Γ) w) (hb:w.heap[a.block]? = some (.cells cs T fz)):Holds B (blk a.block (.cells cs T fz)::Γ) w:=by
 obtain ⟨hw,h1,h2,⟨hl,hc,hsp,cs',fz',hb',hf,hsz,hv⟩,b2,l1,l2,d⟩:=h
 have:=zGl l1 hb'
 rw [hb] at this
 refine ⟨hw,h1,h2,?_,b2,l1,l2,d⟩
 unfold blk; rw [hb',this]
theorem RdC.old {s:Sl} {esz:Nat} {vs:List Value} (hr:RdC B s esz vs) (h:Holds B Γ w):RdC w s esz vs :=
 ⟨hr.len,hr.nil,fun a ha i hi=>by
  have h1:=hr.at' a ha i hi
  have h2:vs[i]? = some vs[i]:=by simp [hi]
  rw [h2] at h1 ⊢
  exact h.oldCell h1⟩
end
end Go.Sep
namespace Go.Sep
open Go Go.RowKit
def isSlT (P:Program) (U:TypeId):Bool:=match P.underlying U with | some (.slice _)=>true | _=>false
def bytesT (P:Program) (E n:Nat):Bool:=(P.info? E).map (·.bytes) == some n
theorem zMI (need:Nat):∀ (r c:Nat),Builtin.growBy need r c ≤ max c (need + (need + 768) / 4)
 | 0,c=>by simp only [Builtin.growBy]; omega
 | r + 1,c=>by
  simp only [Builtin.growBy]
  split
  ·omega
  ·have:=zMI need r (c + (c + 768) / 4); omega
theorem zKy {need c:Nat} (h:c < need):Builtin.nextslicecap need c ≤ 2 * need + 800:=by
 unfold Builtin.nextslicecap
 split
 ·omega
 ·split
  ·omega
  ·have:=zMI need 4 c; omega
theorem fold_size:∀ (us:List Value) (o:Nat) (cs:Array Value),((us.zipIdx o).foldl (fun c p=>c.setIfInBounds p.2 p.1) cs).size = cs.size
 | [],o,cs=>rfl
 | u::us,o,cs=>by simp only [List.zipIdx_cons,List.foldl_cons]; rw [fold_size us (o + 1)]; simp
theorem zEV:∀ (us:List Value) (o:Nat) (cs:Array Value) (j:Nat),j < o∨o + us.length ≤ j→((us.zipIdx o).foldl (fun c p=>c.setIfInBounds p.2 p.1) cs)[j]? = cs[j]?
 | [],o,cs,j,_=>rfl
 | u::us,o,cs,j,h=>by
  simp only [List.zipIdx_cons,List.foldl_cons]
  simp only [List.length_cons] at h
  rw [zEV us (o + 1) _ j (by omega),Array.getElem?_setIfInBounds_ne (by omega)]
theorem zJL:∀ (us:List Value) (o:Nat) (cs:Array Value) (j:Nat),j < us.length→o + us.length ≤ cs.size→((us.zipIdx o).foldl (fun c p=>c.setIfInBounds p.2 p.1) cs)[o + j]? = us[j]?
 | [],o,cs,j,h,_=>by simp at h
 | u::us,o,cs,0,h,hs=>by
  simp only [List.zipIdx_cons,List.foldl_cons,List.length_cons] at hs ⊢
  rw [zEV us (o + 1) _ (o + 0) (by omega)]
  have:o < cs.size:=by omega
  simp [this]
 | u::us,o,cs,j + 1,h,hs=>by
  simp only [List.zipIdx_cons,List.foldl_cons,List.length_cons] at h hs ⊢
  rw [show o + (j + 1) = (o + 1) + j by omega,zJL us (o + 1) _ j (by omega) (by simp; omega)]
  simp
section
variable {P:Program} {B w:World} {Γ:List HProp}
theorem zEB {x:Sl} {esz:Nat} {us:List Value} (h:RdC w x esz us):(Builtin.firstCells esz x.n x.val).run P w = .ok us.toArray w:=by
 obtain ⟨a,n,c⟩:=x
 cases a with
 | none =>
  have h1:=h.nil rfl
  have h2:=h.len
  simp only at h1; subst h1
  simp at h2; subst h2
  simp [Builtin.firstCells]
 | some a =>
  have h2:=h.len
  have h3:RdN w a us.toArray:=fun i hi=>by
   have:=h.at' a rfl i (by simpa using hi)
   simpa using this
  have:=run_loadCells (P:=P) h3
  simp only [List.size_toArray,h2] at this
  simp only [Builtin.firstCells]
  exact this
theorem run_askRoom (n:Nat):(askRoom n).run P w = .ok () w:=by
 unfold askRoom
 split
 ·simp [mark,Sem.run]
 ·rfl
theorem zJ6 {E n:Nat} (h:bytesT P E n = true):∃ i,P.info? E = some i∧i.bytes = n:=by
 unfold bytesT at h
 cases hi:P.info? E with
 | none=>simp [hi] at h
 | some i=>exact ⟨i,rfl,by simpa [hi] using h⟩
theorem zKz {T U E esz by' Tr:Nat} {s x:Sl} {vs us:List Value} {zv:Value} (h:Holds B (SlC E esz s vs::Γ) w) (hT:sliceT P T E esz = true) (hU:isSlT P U = true) (hby:bytesT P E by' = true)
  (hz:zeroT P E zv) (hzs:zv.cells.size = esz) (hx:RdC w x esz us) (hfl:∀ u ∈ us,flatV u = true) (hroom:(2 * (s.n + x.n) + 800) * by' ≤ 2 ^ 48) (hb0:by' ≠ 0) :
  ∃ s' w',(Builtin.append_ #[T,U] Tr #[s.val,x.val]).run P w = .ok s'.val w'∧Holds B (SlC E esz s' (vs++us)::Γ) w'∧s'.n = s.n + x.n∧(s.a.isSome = true→s'.a.isSome = true)∧(s.n + x.n ≤ s.c→s' = ⟨s.a,s.n + x.n,s.c⟩):=by
 obtain ⟨hsl,hsz⟩:=zCv hT
 obtain ⟨ib,hib,hbytes⟩:=zJ6 hby
 have hti:(typeInfo E).run P w = .ok ib w:=by simp [typeInfo,program,hib,Sem.run]
 have hU':∃ e,P.underlying U = some (.slice e):=by
  unfold isSlT at hU; split at hU
  ·rename_i e he; exact ⟨e,he⟩
  ·cases hU
 obtain ⟨e,hU'⟩:=hU'
 have hrs:=h.rdC (List.mem_cons_self ..)
 have hfc:=zEB (P:=P) hx
 have hulen:=hx.len
 unfold Builtin.append_
 have hget:(#[T,U]:Array TypeId)[0]? = some T:=rfl
 have hget1:(#[T,U]:Array TypeId)[1]? = some U:=rfl
 have hv0:(#[s.val,x.val]:Array Value)[0]? = some s.val:=rfl
 have hv1:(#[s.val,x.val]:Array Value)[1]? = some x.val:=rfl
 simp only [hget,hget1,hv0,hv1]
 simp only [Sem.run_bind,run_underlying hsl,Result.andThen,Sl.val,zCK hsz,run_underlying hU',Sem.run_pure,Builtin.lenOf,Bool.false_eq_true,if_false,Bool.not_false,if_true]
 by_cases hn:s.n + x.n ≤ s.c
 ·simp only [hn,if_true]
  simp only [Sem.run_bind,hfc,Result.andThen]
  obtain ⟨sa,sn,sc⟩:=s
  cases sa with
  | none =>
   have h1:=h.fact (p:=sc = 0∧vs.length = sn * esz∧sn ≤ sc) (fun _ ha=>⟨ha.2.2,ha.1,ha.2.1⟩)
   simp only at hn
   have hxn:x.n = 0:=by omega
   have hus:us = []:=by rw [hxn] at hulen; simpa using hulen
   refine ⟨⟨none,sn + x.n,sc⟩,w,by simp,?_,rfl,fun h=>h,fun _=>rfl⟩
   subst hus
   rw [hxn]
   simpa using h
  | some a =>
   obtain ⟨hl,hc,hsp,cs,fz,hcond⟩:vs.length = sn * esz∧sn ≤ sc∧a.spot = none∧∃ cs fz,(w.heap[a.block]? = some (.cells cs E fz))∧(∀ i,a.off ≤ i→i < a.off + sc * esz→¬ (fz.1 ≤ i∧i < fz.2))∧a.off + sc * esz ≤ cs.size∧∀ i,i < vs.length→cs[a.off + i]? = vs[i]?:=by
    obtain ⟨_,h1,h2,⟨hl,hc,hsp,cs,fz,hb,hf,hsz,hv⟩,_,l1,_,_⟩:=h
    exact ⟨hl,hc,hsp,cs,fz,zGl l1 hb,hf,hsz,hv⟩
   obtain ⟨hb,hf,hcap,hv⟩:=hcond
   obtain ⟨b,off,sp⟩:=a
   simp only at hsp hb hf hcap hv; subst hsp
   simp only at hn
   have hmul:sn * esz + us.length ≤ sc * esz:=by rw [hulen,← Nat.add_mul]; exact Nat.mul_le_mul_right _ hn
   have hst:(storeCells ((⟨b,off,none⟩:Addr).add (sn * esz)) us).run P w = .ok () (setCells ((⟨b,off,none⟩:Addr).add (sn * esz)) us 0 w):=by
    refine zEA us 0 w hfl fun j hj=>?_
    rw [add_mk,add_mk]
    have hlt:off + sn * esz + (0 + j) < cs.size:=by omega
    exact ⟨⟨_,zBr hb (Array.getElem?_eq_getElem hlt)⟩,zDb hb (hf _ (by omega) (by omega))⟩
   refine ⟨⟨some ⟨b,off,none⟩,sn + x.n,sc⟩,setCells ((⟨b,off,none⟩:Addr).add (sn * esz)) us 0 w,by simp [hst],?_,rfl,fun _=>rfl,fun _=>rfl⟩
   rw [add_mk,zDq _ _ _ _ _ hb]
   have h2:Holds B (blk b (.cells cs E fz)::Γ) w:=h.imp' hb
   have h3:=h2.setBlock (o':=.cells ((us.zipIdx (off + sn * esz + 0)).foldl (fun c p=>c.setIfInBounds p.2 p.1) cs) E fz) rfl
   refine h3.imp fun g hg=>?_
   refine ⟨?_,hn,rfl,_,fz,hg,hf,?_,?_⟩
   ·simp [hl,hulen,Nat.add_mul]
   ·rw [fold_size]; exact hcap
   ·intro i hi
    simp only [List.length_append] at hi
    simp only [Nat.add_zero]
    by_cases hlt:i < vs.length
    ·rw [zEV _ _ _ _ (by omega),List.getElem?_append_left hlt]; exact hv i hlt
    ·rw [show off + i = off + sn * esz + (i - vs.length) by omega,zJL _ _ _ _ (by omega) (by omega),List.getElem?_append_right (by omega)]
 ·simp only [hn,if_false]
  have hsn:=h.fact (p:=vs.length = s.n * esz∧s.n ≤ s.c) (fun _ ha=>⟨ha.1,ha.2.1⟩)
  have hcap:=zKy (show s.c < s.n + x.n by omega)
  have hcap2:¬ (Builtin.nextslicecap (s.n + x.n) s.c * ib.bytes > 2 ^ 48):=by
   rw [hbytes]
   have:=Nat.mul_le_mul_right by' hcap
   omega
  have hbig:s.n + x.n < 2 ^ 60:=by
   have:(2 * (s.n + x.n) + 800) * 1 ≤ (2 * (s.n + x.n) + 800) * by':=Nat.mul_le_mul_left _ (by omega)
   omega
  have hi64:¬ ((s.n + x.n:Nat):Int) > IntKind.i64.max:=by simp [IntKind.max,IntKind.signed,IntKind.bits]; omega
  simp only [Sem.run_bind,hti,Result.andThen]
  rw [if_neg (by rintro ⟨h1,_⟩; exact hi64 h1)]
  simp only [Sem.run_bind,hti,Result.andThen,Sem.run_pure]
  rw [if_neg hcap2]
  obtain ⟨newCap,w1,hch,hle,hw1⟩:∃ nc w1,(choose (.appendCap (s.n + x.n) s.c E)).run P w = .ok nc w1∧s.n + x.n ≤ nc∧w1 = { w with drawn:=w.drawn + 1 }:=by
   refine ⟨(Question.appendCap (s.n + x.n) s.c E).cut (w.tape w.drawn (.appendCap (s.n + x.n) s.c E)),_,by simp [choose,Sem.run,Question.forced],?_,rfl⟩
   simp only [Question.cut]; omega
  have h1:Holds B (SlC E esz s vs::Γ) w1:=by rw [hw1]; exact h.drew _
  have hx1:RdC w1 x esz us:=⟨hx.len,hx.nil,fun a ha i hi=>by rw [hw1]; exact hx.at' a ha i hi⟩
  have hrs1:=h1.rdC (List.mem_cons_self ..)
  have hti1:(typeInfo E).run P w1 = .ok ib w1:=by simp [typeInfo,program,hib,Sem.run]
  have hf1:=zEB (P:=P) hrs1
  have hf2:=zEB (P:=P) hx1
  simp only [Sl.val] at hf1 hf2
  simp only [hch,hti1,run_askRoom,hf1,hf2,zDB hz,Sem.run_bind,Result.andThen,Sem.run_pure,newRow,newObj,Sem.run]
  refine ⟨⟨some ⟨w1.heap.size,0,none⟩,s.n + x.n,newCap⟩,_,rfl,?_,rfl,fun _=>rfl,(fun hh=>by first | exact hh.elim | exact absurd hh hn)⟩
  have h2:=(h1.tail).alloc (.cells (vs.toArray++us.toArray++Builtin.zeroCells zv.cells (newCap - (s.n + x.n))) E)
  refine h2.imp fun g hg=>⟨?_,hle,rfl,_,(0,0),hg,?_,?_,?_⟩
  ·simp [hsn.1,hulen,Nat.add_mul]
  ·intro i _ _; simp
  ·simp only [Nat.zero_add,Array.size_append,List.size_toArray,hsn.1,hulen,Builtin.zeroCells,Array.size_map,Array.size_range,hzs]
   rw [← Nat.add_mul,← Nat.add_mul]
   exact Nat.mul_le_mul_right _ (by omega)
  ·intro i hi
   simp only [Nat.zero_add]
   rw [Array.getElem?_append_left (by simpa using hi)]
   simp [List.getElem?_append,Array.getElem?_append]
theorem zHo {T U E esz by' Tr:Nat} {s x:Sl} {vs us:List Value} {zv:Value} {k:Sl→K} (h:Holds B (SlC E esz s vs::Γ) w) (hT:sliceT P T E esz = true) (hU:isSlT P U = true) (hby:bytesT P E by' = true)
  (hz:zeroT P E zv) (hzs:zv.cells.size = esz) (hx:RdC w x esz us) (hfl:∀ u ∈ us,flatV u = true) (hroom:(2 * (s.n + x.n) + 800) * by' ≤ 2 ^ 48) (hb0:by' ≠ 0)
  (hk:∀ s' w',Holds B (SlC E esz s' (vs++us)::Γ) w'→s'.n = s.n + x.n→(s.a.isSome = true→s'.a.isSome = true)→k s' w'):Do P (Builtin.append_ #[T,U] Tr #[s.val,x.val]) Sl.val k w:=by
 obtain ⟨s',w',hr,hh,hn,ha,_⟩:=zKz (Tr:=Tr) h hT hU hby hz hzs hx hfl hroom hb0
 exact ⟨s',w',hr,hk s' w' hh hn ha⟩
theorem zDk {b E esz n:Nat} {vs:List Value} {cs:Array Value} (hc:cs.toList = vs) (hn:vs.length = n * esz) (g:Hp) (h:blk b (.cells cs E (0,0)) g):SlC E esz ⟨some ⟨b,0,none⟩,n,n⟩ vs g:=by
 subst hc
 refine ⟨hn,Nat.le_refl _,rfl,cs,(0,0),h,fun i _ _=>by simp,?_,fun i hi=>?_⟩
 ·simp at hn ⊢; omega
 ·simp
theorem Holds.nilSl (h:Holds B Γ w) (E esz:Nat):Holds B (SlC E esz ⟨none,0,0⟩ []::Γ) w:=by
 refine ⟨h.below,fun _=>Option.none,_,⟨by simp,Nat.le_refl _,rfl⟩,h.stars,fun _ _ e=>(by cases e),Hp.le_refl _,fun _=>.inl rfl⟩
theorem RdC.of_blk {b E esz n:Nat} {vs:List Value} {cs:Array Value} (h:Holds B Γ w) (hm:blk b (.cells cs E (0,0)) ∈ Γ) (hc:cs.toList = vs) (hn:vs.length = n * esz) (c:Nat):RdC w ⟨some ⟨b,0,none⟩,n,c⟩ esz vs:=by
 subst hc
 refine ⟨hn,(fun hh=>by cases hh),fun a ha i hi=>?_⟩
 cases ha
 rw [add_mk,Nat.zero_add]
 have h1:=h.blockOf hm
 have h2:cs.toList[i]? = some cs.toList[i]:=by simp [hi]
 rw [h2]
 have h3:cs[i]? = some (cs.toList[i]):=by rw [← h2]; simp
 exact zBr h1 h3
theorem zHp {l:List Value} (h:l.all flatV = true):∀ v ∈ l,flatV v = true:=List.all_eq_true.1 h
theorem zFV (xs:List UInt8):∀ u ∈ xs.map byteV,flatV u = true:=fun u hu=>by
 obtain ⟨b,_,rfl⟩:=List.mem_map.1 hu; rfl
end
end Go.Sep
namespace Go.Sep
open Go Go.RowKit Go.ChangeShapes Go.WideShapes Go.ChangeAt Go.Deep
inductive Sh where
 | bool
 | int (k:IntKind)
 | str
 | sl (e:Sh) (esz:Nat)
 | nil
 | fld (off n:Nat) (s rest:Sh)
def Rdy (w:World):Sh→List Value→Prop
 | .bool,cs=>∃ b,cs = [.bool b]
 | .int k,cs=>∃ n,cs = [.int k n]∧(Lit.int k n).wf = true
 | .str,cs=>∃ s:ByteArray,cs = [.string s]∧s.size ≤ maxLen
 | .sl e esz,cs=>∃ s:Sl,cs = [s.val]∧s.n ≤ s.c∧s.c ≤ maxLen∧(s.a = none→s.n = 0∧s.c = 0) ∧
   ∀ a i,s.a = some a→i < s.n→∃ cs',cs'.length = esz∧(∀ j,j < esz→w.cell? (a.add (i * esz + j)) = cs'[j]?)∧Rdy w e cs'
 | .nil,_=>True
 | .fld off n s rest,cs=>Rdy w s ((cs.drop off).take n)∧Rdy w rest cs
def mkSh (P:Program):Nat→TypeId→Sh
 | 0,_=>.nil
 | n + 1,t=>match P.underlying t with
  | some .bool=>.bool
  | some (.int k)=>.int k
  | some .string=>.str
  | some (.slice e)=>.sl (mkSh P n e) (P.cellsOf e)
  | some (.struct fs)=>fs.toList.foldr (fun f r=>.fld f.offset (P.cellsOf f.type) (mkSh P n f.type) r) .nil
  | some (.array m e)=>(List.range m).foldr (fun i r=>.fld (i * P.cellsOf e) (P.cellsOf e) (mkSh P n e) r) .nil
  | _=>.nil
section
variable {H:Type} {enc:TypeId×Value→H} {P:Program} {w:World} {base:Nat} {spare:Nat→Bool} {held:Bool}
theorem zNP {cs:List Value} {g:Field→Sh}:∀ (fs:List Field),(∀ f ∈ fs,Rdy w (g f) ((cs.drop f.offset).take (P.cellsOf f.type))) →
  Rdy w (fs.foldr (fun f r=>.fld f.offset (P.cellsOf f.type) (g f) r) .nil) cs
 | [],_=>trivial
 | f::fs,h=>⟨h f (by simp),zNP fs fun x hx=>h x (by simp [hx])⟩
theorem zF0:∀ (n:Nat) (t:TypeId) (fuel:Nat) (cs:List Value) (x:DataW H×List MemPlace),DataW.trod enc P w base spare held fuel t cs = some x→Rdy w (mkSh P n t) cs
 | 0,_,_,_,_,_=>trivial
 | n + 1,t,fuel,cs,x,h=>by
  unfold mkSh
  split
  ·rename_i hu; obtain ⟨b,hb,_⟩:=DataW.trod_bool hu h; exact ⟨b,hb⟩
  ·rename_i k hu; obtain ⟨b,hb,_,hw⟩:=DataW.trod_int hu h; exact ⟨b,hb,hw⟩
  ·rename_i hu; obtain ⟨s,hs,_,hw⟩:=DataW.trod_string hu h; exact ⟨s,hs,hw⟩
  ·rename_i e hu
   rcases open_slice hu h with ⟨rfl,_⟩ | ⟨a,len,cap,m,n',D,Pl,rfl,hb,hl,hm,hmm,hx,hi⟩
   ·exact ⟨⟨none,0,0⟩,rfl,Nat.le_refl _,Nat.zero_le _,fun _=>⟨rfl,rfl⟩,(fun a i ha=>by cases ha)⟩
   ·refine ⟨⟨some a,len,cap⟩,rfl,hl,hm,(fun hn=>by cases hn),fun a' i ha hi'=>?_⟩
    cases ha
    simp only at hi'
    obtain ⟨cs',hc,ht⟩:=hi i (by rw [hmm]; split <;> omega)
    obtain ⟨_,hlen,hcell⟩:=World.cells?_some hc
    refine ⟨cs',hlen,fun j hj=>?_,zF0 n e _ cs' _ ht⟩
    rw [← Go.Deep.add_add]
    exact hcell j hj
  ·rename_i fs hu
   obtain ⟨xs,n',_,_,hlen,hxl,hf⟩:=DataW.trod_struct hu h
   refine zNP _ fun f hf'=>?_
   obtain ⟨i,hi⟩:=List.mem_iff_getElem?.1 hf'
   have hi':fs[i]? = some f:=by simpa using hi
   have h1:=hf i f hi'
   have hlt:i < xs.length:=by rw [hxl]; exact (Array.getElem?_eq_some_iff.1 hi').1
   rw [List.getElem?_eq_getElem hlt] at h1
   exact zF0 n f.type _ _ _ h1
  ·rename_i m e hu
   obtain ⟨xs,n',_,_,hlen,hxl,hf⟩:=DataW.trod_array hu h
   have key:∀ l:List Nat,(∀ i ∈ l,i < m)→Rdy w (l.foldr (fun i r=>.fld (i * P.cellsOf e) (P.cellsOf e) (mkSh P n e) r) .nil) cs:=by
    intro l
    induction l with
    | nil=>intro _; trivial
    | cons i l ih =>
     intro hl
     have hi:=hl i List.mem_cons_self
     have h1:=hf i hi
     rw [List.getElem?_eq_getElem (by omega)] at h1
     exact ⟨zF0 n e _ _ _ h1,ih fun j hj=>hl j (List.mem_cons_of_mem _ hj)⟩
   exact key _ fun i hi=>List.mem_range.1 hi
  ·trivial
theorem zJ7 {n:Nat} {t:TypeId} {v:Value} {d:DataW H} {ps:List MemPlace} (h:DataW.Trod enc P w base spare held t v d ps):Rdy w (mkSh P n t) v.cells.toList:=by
 obtain ⟨fuel,h⟩:=h
 exact zF0 n t fuel _ _ h
theorem zG6 {α:Type} (f:α→List Value) (esz:Nat) (hf:∀ x,(f x).length = esz):∀ (l:List α) (i j:Nat),j < esz→(l.flatMap f)[i * esz + j]? = (l[i]?).bind fun x=>(f x)[j]?
 | [],i,j,_=>by simp
 | x::l,0,j,hj=>by
  simp only [List.flatMap_cons,Nat.zero_mul,Nat.zero_add]
  rw [List.getElem?_append_left (by rw [hf]; exact hj)]; simp
 | x::l,i + 1,j,hj=>by
  simp only [List.flatMap_cons]
  have e:(i + 1) * esz + j = esz + (i * esz + j):=by rw [Nat.add_mul]; omega
  rw [e,List.getElem?_append_right (by rw [hf]; omega),hf,Nat.add_sub_cancel_left,zG6 f esz hf l i j hj]; simp
theorem zAL {α:Type} (f:α→List Value) (esz:Nat) (hf:∀ x,(f x).length = esz):∀ (l:List α),(l.flatMap f).length = l.length * esz
 | []=>by simp
 | x::l=>by simp only [List.flatMap_cons,List.length_append,hf,zAL f esz hf l,List.length_cons,Nat.add_mul]; omega
theorem zJ8 {α:Type} (R:Nat→α→Prop):∀ (n:Nat),(∀ i,i < n→∃ x,R i x)→∃ l:List α,l.length = n∧∀ i x,l[i]? = some x→R i x
 | 0,_=>⟨[],rfl,fun i x h=>by simp at h⟩
 | n + 1,h=>by
  obtain ⟨l,hl,hr⟩:=zJ8 R n fun i hi=>h i (by omega)
  obtain ⟨x,hx⟩:=h n (by omega)
  refine ⟨l++[x],by simp [hl],fun i y hy=>?_⟩
  by_cases hi:i < n
  ·rw [List.getElem?_append_left (by omega)] at hy; exact hr i y hy
  ·have hlt:i < (l++[x]).length:=(List.getElem?_eq_some_iff.1 hy).1
   have:i = n:=by simp [hl] at hlt; omega
   subst this
   rw [List.getElem?_append_right (by omega),hl] at hy
   simp at hy; subst hy; exact hx
theorem zJM {α:Type} {s:Sl} {esz:Nat} {e:Sh} (f:α→List Value) (R:α→Prop) (hf:∀ x,(f x).length = esz) (hn:s.a = none→s.n = 0∧s.c = 0)
  (h:∀ a i,s.a = some a→i < s.n→∃ cs',cs'.length = esz∧(∀ j,j < esz→w.cell? (a.add (i * esz + j)) = cs'[j]?)∧Rdy w e cs')
  (hR:∀ cs,cs.length = esz→Rdy w e cs→∃ x,cs = f x∧R x):∃ l:List α,l.length = s.n∧RdC w s esz (l.flatMap f)∧∀ x ∈ l,R x:=by
 cases ha:s.a with
 | none=>exact ⟨[],by rw [(hn ha).1]; rfl,⟨by rw [(hn ha).1]; simp,fun h=>(hn h).1,fun a h=>by rw [ha] at h; cases h⟩,fun x h=>by cases h⟩
 | some a =>
  obtain ⟨l,hl,hr⟩:=zJ8 (fun i x=>(∀ j,j < esz→w.cell? (a.add (i * esz + j)) = (f x)[j]?)∧R x) s.n (fun i hi=>by
   obtain ⟨cs',h1,h2,h3⟩:=h a i ha hi
   obtain ⟨x,rfl,hx⟩:=hR cs' h1 h3
   exact ⟨x,h2,hx⟩)
  refine ⟨l,hl,⟨by rw [zAL f esz hf,hl],(fun h=>by rw [ha] at h; cases h),fun a' h' i hi=>?_⟩,fun x hx=>?_⟩
  ·rw [ha] at h'; cases h'
   rw [zAL f esz hf] at hi
   have hpos:0 < esz:=by
                rcases Nat.eq_zero_or_pos esz with h0 | h0
                ·rw [h0] at hi; simp at hi
                ·exact h0
   have e1:i = (i / esz) * esz + i % esz:=by rw [Nat.mul_comm]; exact (Nat.div_add_mod i esz).symm
   have hj:i % esz < esz:=Nat.mod_lt _ hpos
   have hq:i / esz < l.length:=by rw [Nat.div_lt_iff_lt_mul hpos]; exact hi
   rw [e1,zG6 f esz hf _ _ _ hj,List.getElem?_eq_getElem hq]
   exact (hr _ _ (List.getElem?_eq_getElem hq)).1 _ hj
  ·obtain ⟨i,hi⟩:=List.mem_iff_getElem?.1 hx
   exact (hr i x hi).2
theorem zRk {s:Sl} (hn:s.a = none→s.n = 0∧s.c = 0)
  (h:∀ a i,s.a = some a→i < s.n→∃ cs',cs'.length = 1∧(∀ j,j < 1→w.cell? (a.add (i * 1 + j)) = cs'[j]?)∧Rdy w (.int .u8) cs'):∃ xs:List UInt8,xs.length = s.n∧RdB w s xs:=by
 obtain ⟨l,hl,hr,_⟩:=zJM (e:=.int .u8) (fun b:UInt8=>[byteV b]) (fun _=>True) (fun _=>rfl) hn h (fun cs hc hr=>by
  obtain ⟨n,rfl,hw⟩:=hr
  have hb:0 ≤ n∧n ≤ 255:=by simpa [Lit.wf,IntKind.min,IntKind.max,IntKind.signed,IntKind.bits] using hw
  refine ⟨UInt8.ofNat n.toNat,?_,trivial⟩
  simp only [byteV,List.cons.injEq,Value.int.injEq,true_and,and_true]
  simp; omega)
 have:∀ l:List UInt8,l.flatMap (fun b:UInt8=>[byteV b]) = l.map byteV:=fun l=>by induction l with
  | nil=>rfl
  | cons x l ih=>simp [List.flatMap_cons,ih]
 rw [this] at hr
 exact ⟨l,hl,hr⟩
end
section
variable {H:Type} {enc:TypeId×Value→H} {P:Program}
theorem zIS (hl:laidOutB P = true) {W W':World} (hb:Below W.heap.size W W') {sp:Nat→Bool}:∀ (ts:List TypeId) (vs:List Value) (ds:List (DataW H)) (ps:List MemPlace),
  (∀ t ∈ ts,P.readableRec t = true∧t < P.types.size)→(∀ x ∈ ps,x.block < W.heap.size∧sp x.block = true)→DataW.TrodAll enc P W 0 (fun _=>true) true ts vs ds ps→DataW.TrodAll enc P W' 0 sp true ts vs ds ps
 | [],vs,ds,ps,_,_,h=>by
  cases vs <;> cases ds <;> simp [DataW.TrodAll] at h ⊢ <;> exact h
 | t::ts,vs,ds,ps,ht,hlt,h=>by
  cases vs with
  | nil=>simp [DataW.TrodAll] at h
  | cons v vs =>
   cases ds with
   | nil=>simp [DataW.TrodAll] at h
   | cons d ds =>
    obtain ⟨p,q,h1,h2,rfl⟩:=h
    exact ⟨p,q,WideElems.Trod_stays hl (ht t (by simp)).1 (ht t (by simp)).2 h1 (fun x hx=>hb.same (hlt x (by simp [hx])).1) (fun x hx=>(hlt x (by simp [hx])).2),
     zIS hl hb ts vs ds q (fun t' h'=>ht t' (by simp [h'])) (fun x hx=>hlt x (by simp [hx])) h2,rfl⟩
theorem zQX {b:Nat} {sp:Nat→Bool} {hd:Bool} {W:World} {t:TypeId} (ht:P.underlying t = some .bool):DataW.TrodAll enc P W b sp hd [t] [.bool true] [.lit (.bool true)] [] :=
 ⟨[],[],⟨1,by simp [DataW.trod,ht,Value.cells]⟩,rfl,rfl⟩
theorem zS7 {W W':World} {e:Ending} (h:Ret (fun v w'=>v = .bool true∧Below W.heap.size W w') e W'):e = .returned (.bool true)∧Below W.heap.size W W':=by
 cases e with
 | returned v=>exact ⟨by rw [h.1],h.2⟩
 | panicked c=>exact h.elim
 | outgrown=>exact h.elim
theorem zRl {P:Program} {f:FuncId} {args:Array Value} {W:World} (h:CallF P f args (fun v w=>∃ r:Bool,v = .bool r∧(r = true∧Holds W [] w)) W) :
  Calls P f args W (Ret fun v w'=>v = .bool true∧Below W.heap.size W w'):=h.mono fun e w' he=>by
 cases e with
 | returned v=>obtain ⟨r,rfl,rfl,hh⟩:=he; exact ⟨rfl,hh.below⟩
 | panicked c=>exact he.elim
 | outgrown=>exact he.elim
theorem zRm {f:Func} {s:ChangeSpec} {apart fresh handsOn again:Bool} {W W':World} {args:Array Value} {ds:List (DataW H)} {p:List MemPlace} {t:TypeId}
  (hl:laidOutB P = true) (hts:f.params.toList.all (fun t=>P.readableRec t && decide (t < P.types.size)) = true) (hrt:f.resultTypes = #[t]) (ht:P.underlying t = some .bool)
  (hW:DataW.Whole enc P f.params.toList s.vars apart W args.toList ds [] p) (hvs:s.vars = []) (hA:DataW.TrodAll enc P W 0 (fun _=>true) true f.params.toList args.toList ds p)
  (hsr:(s.fn H (ds++[])).results = [.lit (.bool true)]) (hsa:(s.fn H (ds++[])).args = ds) (hsv:(s.fn H (ds++[])).vars = []) (hb:Below W.heap.size W W') :
  s.post enc P f apart fresh handsOn again W args (.bool true) W':=by
 have hlt:∀ x ∈ p,x.block < W.heap.size:=fun x hx=>hW.lt x hx
 have hts':∀ t ∈ f.params.toList,P.readableRec t = true∧t < P.types.size:=fun t ht=>by
  have:=List.all_eq_true.1 hts t ht
  simpa using this
 have hold:∀ x ∈ p,(fun b=>decide (b < W.heap.size)) x.block = true:=fun x hx=>by simpa using hlt x hx
 have hres:∀ (b:Nat) (sp:Nat→Bool) (hd:Bool),DataW.TrodAll enc P W' b sp hd f.resultTypes.toList ((Value.bool true).resultList f.resultTypes.size) (s.fn H (ds++[])).results []:=fun b sp hd=>by
  rw [hsr,hrt]; exact zQX ht
 have hargs:∀ sp:Nat→Bool,(∀ x ∈ p,sp x.block = true)→DataW.TrodAll enc P W' 0 sp true f.params.toList args.toList (s.fn H (ds++[])).args p:=fun sp hsp=>by
  rw [hsa]; exact zIS hl hb _ _ _ _ hts' (fun x hx=>⟨hlt x hx,hsp x hx⟩) hA
 have hvars:∀ sp:Nat→Bool,DataW.TrodVars enc P W' sp s.vars (s.fn H (ds++[])).vars []:=fun sp=>by
  rw [hsv,hvs]; rfl
 refine ⟨ds,[],p,[],p,[],hW,hres _ _ _,hargs _ hold,hvars _,World.keptBut_mono (fun x hx=>⟨hx,Or.inr (Or.inl hx)⟩) (hb.frame (· ∈ p)),fun _=>?_⟩
 obtain ⟨_,_,_,_,_,hz,hn⟩:=hW
 refine ⟨?_,_,_,([]++p)++[],⟨[]++p,[],trodAll_append (hargs _ (fun _ _=>rfl)) (hres _ _ _),hvars _,rfl,?_,?_⟩,?_⟩
 ·intro j t' r h1 h2
  rw [hrt] at h1 h2
  match j with
  | 0 =>
   simp at h1; subst h1
   have h3:((Value.bool true).resultList 1) = [.bool true]:=rfl
   have h4:(#[t]:Array TypeId).size = 1:=rfl
   rw [h4,h3] at h2
   simp at h2; subst h2
   exact okWide_bool_mk ht _
  | j + 1=>simp at h1
 ·intro b off hp
  have hin:MemPlace.cell b off ∈ p:=by simpa using hp
  rw [hb.frozen (hlt _ hin)]
  exact hz b off hin
 ·intro ha
  have:=hn ha
  simpa using this
 ·intro x hx _
  simpa using hx
end
end Go.Sep
namespace Go.Sep
open Go Go.RowKit
section
variable {P:Program} {B w:World} {Γ:List HProp} {E esz:Nat} {s:Sl} {vs:List Value}
theorem SlC.take {m:Nat} (hm:m ≤ s.n) (g:Hp) (h:SlC E esz s vs g):SlC E esz ⟨s.a,m,s.c⟩ (vs.take (m * esz)) g:=by
 obtain ⟨hl,hc,hs⟩:=h
 have h1:m * esz ≤ vs.length:=by rw [hl]; exact Nat.mul_le_mul_right _ hm
 refine ⟨by simp only [List.length_take]; omega,by simp only; omega,?_⟩
 cases ha:s.a with
 | none=>rw [ha] at hs; exact hs
 | some a =>
  rw [ha] at hs
  obtain ⟨hsp,cs,fz,hb,hf,hsz,hv⟩:=hs
  refine ⟨hsp,cs,fz,hb,hf,hsz,fun i hi=>?_⟩
  rw [List.length_take] at hi
  rw [List.getElem?_take,if_pos (by omega)]
  exact hv i (by omega)
theorem RdC.drop {l c:Nat} (h:RdC w s esz vs) (hl:l ≤ s.n) (hc:s.n ≤ c) (hsp:∀ a,s.a = some a→a.spot = none):RdC w ⟨cutA s.a l c esz,s.n - l,c - l⟩ esz (vs.drop (l * esz)):=by
 have h1:=h.len
 refine ⟨by rw [List.length_drop,h1,← Nat.sub_mul],fun hn=>?_,fun a ha i hi=>?_⟩
 ·simp only at hn ⊢
  unfold cutA at hn
  split at hn
  ·have:=h.nil hn; omega
  ·cases hx:s.a with
   | none=>have:=h.nil hx; omega
   | some a=>rw [hx] at hn; cases hn
 ·simp only at ha
  rw [List.length_drop] at hi
  unfold cutA at ha
  split at ha
  ·rename_i hcl
   have:s.n = l:=by omega
   rw [h1,this] at hi
   omega
  ·cases hx:s.a with
   | none=>rw [hx] at ha; cases ha
   | some a0 =>
    rw [hx] at ha
    simp only [Option.map_some,Option.some.injEq] at ha
    subst ha
    rw [add_add' _ (hsp a0 hx),h.at' a0 hx _ (by omega),List.getElem?_drop]
theorem RdC.take {m c:Nat} (h:RdC w s esz vs) (hm:m ≤ s.n):RdC w ⟨s.a,m,c⟩ esz (vs.take (m * esz)):=by
 have h1:=h.len
 have h2:m * esz ≤ vs.length:=by rw [h1]; exact Nat.mul_le_mul_right _ hm
 refine ⟨by simp only [List.length_take]; omega,fun hn=>?_,fun a ha i hi=>?_⟩
 ·have:=h.nil hn; simp only; omega
 ·rw [List.length_take] at hi
  rw [List.getElem?_take,if_pos (by omega)]
  exact h.at' a ha i (by omega)
theorem Holds.slCap (h:Holds B (SlC E esz s vs::Γ) w):vs.length = s.n * esz∧s.n ≤ s.c∧(∀ a,s.a = some a→a.spot = none)∧(s.a = none→s.c = 0):=by
 refine h.fact fun g hg=>⟨hg.1,hg.2.1,fun a ha=>?_,fun ha=>?_⟩
 ·have:=hg.2.2; rw [ha] at this; exact this.1
 ·have:=hg.2.2; rw [ha] at this; exact this
theorem zHG (z:Array Value) (n:Nat) (hz:∀ v ∈ z.toList,flatV v = true):∀ v ∈ (Builtin.zeroCells z n).toList,flatV v = true:=by
 intro v hv
 simp only [Builtin.zeroCells,Array.toList_map,List.mem_map] at hv
 obtain ⟨i,hi,rfl⟩:=hv
 have hi':i < n * z.size:=by simpa using hi
 have hpos:0 < z.size:=Nat.pos_of_ne_zero fun h0=>by rw [h0] at hi'; simp at hi'
 have hlt:i % z.size < z.size:=Nat.mod_lt _ hpos
 rw [getElem!_pos z (i % z.size) hlt]
 exact hz _ (by simp)
theorem zS8 {T t:Nat} {l q m:Nat} {zv:Value} {k:Value→K} (h:Holds B (SlC E esz s vs::Γ) w) (hT:sliceT P T E esz = true) (hz:zeroT P E zv) (hzs:zv.cells.size = esz) (hzf:∀ v ∈ zv.cells.toList,flatV v = true)
  (hl:s.n ≤ l) (hq:l + q ≤ s.c) (hm:q = 0∨m ≠ l) {x:Sl} (hx:x = ⟨cutA s.a l m esz,q,m - l⟩) (hk:∀ w',Holds B (SlC E esz s vs::Γ) w'→k (.tuple #[]) w') :
  Do P (Builtin.clear_ #[T] t #[x.val]) id k w:=by
 subst hx
 obtain ⟨hsl,hsz⟩:=zCv hT
 have hsn:=h.slCap
 have hg0:(#[T]:Array TypeId)[0]? = some T:=rfl
 by_cases hq0:q = 0
 ·subst hq0
  refine ⟨.tuple #[],w,?_,hk w h⟩
  unfold Builtin.clear_
  have hv0:(#[Sl.val ⟨cutA s.a l m esz,0,m - l⟩]:Array Value)[0]? = some (Sl.val ⟨cutA s.a l m esz,0,m - l⟩):=rfl
  simp only [hg0,hv0]
  simp only [Sem.run_bind,run_underlying hsl,Result.andThen,Sl.val]
  cases cutA s.a l m esz <;> simp
 ·have hml:m ≠ l:=hm.resolve_left hq0
  cases ha:s.a with
  | none=>have:=hsn.2.2.2 ha; omega
  | some a =>
   have hsp:=hsn.2.2.1 a ha
   obtain ⟨b,off,sp⟩:=a
   simp only at hsp; subst hsp
   have hcut:cutA (some (⟨b,off,none⟩:Addr)) l m esz = some ⟨b,off + l * esz,none⟩:=by
    unfold cutA; rw [if_neg hml]; simp [add_mk]
   obtain ⟨cs,fz,hb,hf,hcap,hv⟩:∃ cs fz,w.heap[b]? = some (.cells cs E fz)∧(∀ i,off ≤ i→i < off + s.c * esz→¬ (fz.1 ≤ i∧i < fz.2))∧off + s.c * esz ≤ cs.size∧∀ i,i < vs.length→cs[off + i]? = vs[i]?:=by
    obtain ⟨_,h1,h2,⟨_,_,hs⟩,_,l1,_,_⟩:=h
    rw [ha] at hs
    obtain ⟨_,cs,fz,hb,hf,hsz,hv⟩:=hs
    exact ⟨cs,fz,zGl l1 hb,hf,hsz,hv⟩
   have hzl:(Builtin.zeroCells zv.cells q).toList.length = q * esz:=by simp [Builtin.zeroCells,hzs]
   have hmul:l * esz + q * esz ≤ s.c * esz:=by rw [← Nat.add_mul]; exact Nat.mul_le_mul_right _ hq
   have hmul2:s.n * esz ≤ l * esz:=Nat.mul_le_mul_right _ hl
   have hst:(storeCells ⟨b,off + l * esz,none⟩ (Builtin.zeroCells zv.cells q).toList).run P w = .ok () (setCells ⟨b,off + l * esz,none⟩ (Builtin.zeroCells zv.cells q).toList 0 w):=by
    refine zEA _ 0 w (zHG _ _ hzf) fun j hj=>?_
    rw [hzl] at hj
    rw [add_mk]
    have hlt:off + l * esz + (0 + j) < cs.size:=by omega
    exact ⟨⟨_,zBr hb (Array.getElem?_eq_getElem hlt)⟩,zDb hb (hf _ (by omega) (by omega))⟩
   refine ⟨.tuple #[],setCells ⟨b,off + l * esz,none⟩ (Builtin.zeroCells zv.cells q).toList 0 w,?_,hk _ ?_⟩
   ·unfold Builtin.clear_
    rw [hcut]
    have hv0:(#[Sl.val ⟨some ⟨b,off + l * esz,none⟩,q,m - l⟩]:Array Value)[0]? = some (Sl.val ⟨some ⟨b,off + l * esz,none⟩,q,m - l⟩):=rfl
    simp only [hg0,hv0]
    simp only [Sem.run_bind,run_underlying hsl,Result.andThen,Sl.val]
    obtain ⟨q',rfl⟩:∃ q',q = q' + 1:=⟨q - 1,by omega⟩
    simp only [Sem.run_bind,zDB hz,Result.andThen,hst,Sem.run_pure]
    rfl
   ·rw [zDq _ _ _ _ _ hb]
    obtain ⟨sa,sn,sc⟩:=s
    simp only at ha hsn hl hq hf hcap hmul hmul2; subst ha
    have h2:Holds B (blk b (.cells cs E fz)::Γ) w:=h.imp' hb
    have h3:=h2.setBlock (o':=.cells (((Builtin.zeroCells zv.cells q).toList.zipIdx (off + l * esz + 0)).foldl (fun c p=>c.setIfInBounds p.2 p.1) cs) E fz) rfl
    refine h3.imp fun g hg=>⟨hsn.1,hsn.2.1,rfl,_,fz,hg,hf,?_,fun i hi=>?_⟩
    ·rw [fold_size]; exact hcap
    ·have:=hsn.1
     rw [zEV _ _ _ _ (by simp only; omega)]; exact hv i hi
end
end Go.Sep
namespace Go.Sep
open Go Go.RowKit
section
variable {w:World}
theorem all_nil:All [] w:=fun i x h=>by simp at h
theorem all_cons {x:World→Prop} {l:List (World→Prop)} (h:x w) (hl:All l w):All (x::l) w:=fun i y hy=>by
 cases i with
 | zero=>simp at hy; subst hy; exact h
 | succ i=>exact hl i y (by simpa using hy)
def strT (P:Program) (src dst:TypeId):Bool :=
 match P.underlying src,P.underlying dst with
 | some (.slice e),some .string=>match P.underlying e with
  | some (.int .u8)=>true
  | _=>false
 | _,_=>false
theorem zQY {P:Program} {src dst:TypeId} (h:strT P src dst = true):∃ e,P.underlying src = some (.slice e)∧P.underlying e = some (.int .u8)∧P.underlying dst = some .string:=by
 unfold strT at h
 split at h
 ·rename_i e h1 h2
  split at h
  ·rename_i h3; exact ⟨e,h1,h3,h2⟩
  ·cases h
 ·cases h
theorem zK0:∀ (xs:List UInt8) (acc:List UInt8),
  (xs.map fun b=>((b.toNat:Nat):Int)).foldl (fun r n=>r.push (UInt8.ofNat n.toNat)) (ByteArray.mk acc.toArray) = ByteArray.mk (acc++xs).toArray
 | [],acc=>by simp
 | x::xs,acc=>by
  simp only [List.map_cons,List.foldl_cons,Int.toNat_natCast,UInt8.ofNat_toNat]
  have:=zK0 xs (acc++[x])
  simp only [List.append_assoc,List.singleton_append] at this
  rw [← this]
  congr 1
  simp [ByteArray.push]
theorem r_str {P:Program} {s:Sl} {xs:List UInt8} {src dst:TypeId} {k:ByteArray→K} (hT:strT P src dst = true) (hr:RdB w s xs) (hk:k (ByteArray.mk xs.toArray) w) :
  Rd P (convert src dst s.val) Value.string k w:=by
 refine ⟨_,?_,hk⟩
 obtain ⟨e,h1,h2,h3⟩:=zQY hT
 obtain ⟨a,n,c⟩:=s
 have hl:xs.length = n:=by have:=hr.len; simpa using this
 have:=run_convert_bytes_string (P:=P) w src dst e a n c h1 h2 h3
 rw [show (Sl.val ⟨a,n,c⟩) = .slice a n c from rfl,this]
 cases a with
 | none =>
  have hn:=hr.nil rfl
  simp only at hn
  subst hn
  have:xs = []:=by cases xs with | nil=>rfl | cons=>simp at hl
  subst this
  rfl
 | some a =>
  have h4:RdN w a (xs.map byteV).toArray:=fun i hi=>by
   rw [hr.at' a rfl i (by simpa using hi)]; exact List.getElem?_toArray.symm
  have h5:=run_loadCells (P:=P) h4
  have h6:(xs.map byteV) = (xs.map fun b=>((b.toNat:Nat):Int)).map (Value.int .u8):=by simp [byteV,Function.comp_def]
  rw [h6] at h5
  simp only [List.size_toArray,List.length_map,hl] at h5
  rw [run_bytesToString w a n c _ h5]
  have:=zK0 xs []
  simp only [List.nil_append] at this
  rw [← this]
  rfl
end
end Go.Sep
namespace Go.Sep
open Go Go.RowKit
section
variable {B w:World} {Γ:List HProp}
theorem zRn (a:Addr) (m n:Nat):(a.add m).add n = a.add (m + n):=by
 obtain ⟨b,o,s⟩:=a
 unfold Addr.add
 by_cases h1:m = 0
 ·subst h1; simp
 ·by_cases h2:n = 0
  ·subst h2; simp [h1]
  ·simp [h1,h2,Nat.add_assoc]
theorem RdC.none' {esz c:Nat}:RdC w ⟨none,0,c⟩ esz []:=⟨by simp,fun _=>rfl,fun a h=>by cases h⟩
theorem r_idx1 {α:Type} {c:α→Value} {L:List α} {s:Sl} {j:Nat} {x:α} {k:α→K} (hr:RdC w s 1 (L.map c)) (hx:L[j]? = some x) (hk:k x w) :
  Idx s (j:Int) 1 (fun t=>Ld t c k) w:=by
 have hj:j < L.length:=(List.getElem?_eq_some_iff.1 hx).1
 have hn:L.length = s.n:=by have:=hr.len; simpa using this
 cases ha:s.a with
 | none=>have:=hr.nil ha; omega
 | some a =>
  refine ⟨a,_,ha,by omega,by omega,rfl,x,?_,hk⟩
  simp only [Int.toNat_natCast,Nat.mul_one]
  rw [hr.at' a ha j (by simpa using hj)]
  simp [hx]
theorem zJN {α:Type} (f:α→List Value) (esz:Nat) (hf:∀ x,(f x).length = esz) {L:List α} {s:Sl} {i:Nat} {x:α} {a:Addr} (hr:RdC w s esz (L.flatMap f)) (ha:s.a = some a) (hx:L[i]? = some x) :
  RdN w (a.add (i * esz)) (f x).toArray:=by
 intro j hj
 have hj':j < esz:=by simpa [hf] using hj
 rw [zRn]
 have hlt:i < L.length:=(List.getElem?_eq_some_iff.1 hx).1
 have hb:i * esz + j < L.length * esz:=by
  have:i * esz + esz ≤ L.length * esz:=by rw [← Nat.succ_mul]; exact Nat.mul_le_mul_right _ hlt
  omega
 rw [hr.at' a ha _ (by rw [zAL f esz hf]; exact hb),zG6 f esz hf _ _ _ hj',hx]
 exact List.getElem?_toArray.symm
theorem r_idxN {α:Type} (f:α→List Value) {esz:Nat} (hf:∀ x,(f x).length = esz) (he:0 < esz) {L:List α} {s:Sl} {j:Nat} {x:α} {k:Addr→Array Value→K} {cs:Array Value} (hr:RdC w s esz (L.flatMap f)) (hx:L[j]? = some x) (hcs:(f x).toArray = cs) (hk:∀ t,k t cs w) :
  Idx s (j:Int) esz (fun t=>LdN t esz (k t)) w:=by
 have hj:j < L.length:=(List.getElem?_eq_some_iff.1 hx).1
 have hn:L.length = s.n:=by
  have:=hr.len; rw [zAL f esz hf] at this
  exact Nat.eq_of_mul_eq_mul_right he this
 cases ha:s.a with
 | none=>have:=hr.nil ha; omega
 | some a =>
  subst hcs
  refine ⟨a,_,ha,by omega,by omega,rfl,_,by simp [hf],?_,hk _⟩
  simp only [Int.toNat_natCast]
  exact zJN f esz hf hr ha hx
theorem SlC.cut {E esz:Nat} {s:Sl} {vs:List Value} {m:Nat} (hm:m ≤ s.n) (g:Hp) (h:SlC E esz s vs g):SlC E esz ⟨s.a,m,m⟩ (vs.take (m * esz)) g:=by
 have hc:=h.2.1
 obtain ⟨hl,_,hs⟩:=SlC.take hm g h
 refine ⟨hl,Nat.le_refl _,?_⟩
 have h1:m * esz ≤ s.c * esz:=Nat.mul_le_mul_right _ (by omega)
 cases ha:s.a with
 | none=>rw [ha] at hs; simp only at hs ⊢; omega
 | some a =>
  rw [ha] at hs
  obtain ⟨hsp,cs,fz,hb,hf,hsz,hv⟩:=hs
  exact ⟨hsp,cs,fz,hb,fun i h2 h3=>hf i h2 (by simp only at h3 ⊢; omega),by simp only at hsz ⊢; omega,hv⟩
theorem zPr {α:Type} {f:α→HProp} {l:List α} (i:Nat) {x:α} (hx:l[i]? = some x) (h:Holds B (stars (l.map f)::Γ) w):Holds B (f x::stars ((l.eraseIdx i).map f)::Γ) w:=by
 have h1:=Holds.flat.1 h
 have h2:(l.map f++Γ).Perm (f x::((l.eraseIdx i).map f++Γ)):=by
  have h3:(l.map f).Perm (f x::(l.eraseIdx i).map f):=by
   have:=(zIj hx).map f
   simpa using this
  exact h3.append_right Γ
 have h4:Holds B (f x::((l.eraseIdx i).map f++Γ)) w:=h1.perm h2
 have h5:Holds B ((l.eraseIdx i).map f++f x::Γ) w:=h4.perm List.perm_middle.symm
 exact (Holds.flat.2 h5).swap
theorem cut0 {s:Sl} {c esz:Nat} (hsp:∀ a,s.a = some a→a.spot = none):cutA s.a 0 c esz = s.a:=by
 unfold cutA
 split
 ·rfl
 ·cases hx:s.a with
  | none=>rfl
  | some a =>
   have:=hsp a hx
   obtain ⟨b,o,sp⟩:=a
   simp only at this; subst this
   simp [add_mk]
def slF (E esz:Nat) (s:Sl) (vs:List Value) (a:Addr) (cs:Array Value) (fz:Nat×Nat):Prop :=
 a.spot = none∧(∀ i,a.off ≤ i→i < a.off + s.c * esz→¬ (fz.1 ≤ i∧i < fz.2))∧a.off + s.c * esz ≤ cs.size∧(∀ i,i < vs.length→cs[a.off + i]? = vs[i]?)∧vs.length = s.n * esz∧s.n ≤ s.c
theorem slOpen {E esz:Nat} {s:Sl} {vs:List Value} {a:Addr} (h:Holds B (SlC E esz s vs::Γ) w) (ha:s.a = some a):∃ cs fz,Holds B (blk a.block (.cells cs E fz)::Γ) w∧slF E esz s vs a cs fz:=by
 have h1:Holds B ((ex fun cs:Array Value=>ex fun fz:Nat×Nat=>fun g=>slF E esz s vs a cs fz∧blk a.block (.cells cs E fz) g)::Γ) w:=h.imp fun g hg=>by
  obtain ⟨hl,hc,hs⟩:=hg
  rw [ha] at hs
  obtain ⟨hsp,cs,fz,hb,hf,hsz,hv⟩:=hs
  exact ⟨cs,fz,⟨hsp,hf,hsz,hv,hl,hc⟩,hb⟩
 obtain ⟨cs,h1⟩:=Holds.ex.1 h1
 obtain ⟨fz,h1⟩:=Holds.ex.1 h1
 exact ⟨cs,fz,h1.imp fun g hg=>hg.2,h1.fact fun g hg=>hg.1⟩
theorem slShut {E esz:Nat} {s:Sl} {vs:List Value} {a:Addr} {cs:Array Value} {fz:Nat×Nat} (ha:s.a = some a) (h:Holds B (blk a.block (.cells cs E fz)::Γ) w) (hF:slF E esz s vs a cs fz):Holds B (SlC E esz s vs::Γ) w :=
 h.imp fun g hg=>by
  obtain ⟨hsp,hf,hsz,hv,hl,hc⟩:=hF
  refine ⟨hl,hc,?_⟩
  rw [ha]
  exact ⟨hsp,cs,fz,hg,hf,hsz,hv⟩
theorem r_stSl {E esz:Nat} {s:Sl} {vs:List Value} {a:Addr} {o:Nat} {v:Value} {k:K} (h:Holds B (SlC E esz s vs::Γ) w) (ha:s.a = some a) (ho:o < vs.length) (hv:flatV v = true)
  (hk:∀ w',Holds B (SlC E esz s (vs.set o v)::Γ) w'→k w'):St (a.add o) v k w:=by
 obtain ⟨cs,fz,h,hsp,hf,hsz,hr,hl,hc⟩:=slOpen h ha
 have hm:vs.length ≤ s.c * esz:=by rw [hl]; exact Nat.mul_le_mul_right _ hc
 have e:a.add o = ⟨a.block,a.off + o,none⟩:=by
  obtain ⟨b,f,sp⟩:=a
  simp only at hsp; subst hsp
  exact add_mk _ _ _
 refine r_st 0 h e rfl (by omega) (hf _ (by omega) (by omega)) hv fun w' h=>hk w' (slShut ha h ⟨hsp,hf,by simpa using hsz,fun i hi=>?_,by simpa using hl,hc⟩)
 rw [List.length_set] at hi
 by_cases hio:o = i
 ·subst hio
  rw [List.getElem?_set_self hi]
  simp [Array.getElem?_setIfInBounds]
  omega
 ·rw [List.getElem?_set_ne hio,← hr i hi,Array.getElem?_setIfInBounds_ne (by omega)]
theorem zS9 {E:Nat} {s:Sl} {vs:List Value} {j:Nat} {v:Value} {k:K} (h:Holds B (SlC E 1 s vs::Γ) w) (hj:j < s.n) (hv:flatV v = true)
  (hk:∀ w',Holds B (SlC E 1 s (vs.set j v)::Γ) w'→k w'):Idx s (j:Int) 1 (fun t=>St t v k) w:=by
 have hs:=h.slCap
 cases ha:s.a with
 | none=>have:=hs.2.2.2 ha; omega
 | some a =>
  refine ⟨a,_,ha,by omega,by omega,rfl,?_⟩
  simp only [Int.toNat_natCast,Nat.mul_one]
  exact r_stSl h ha (by omega) hv hk
theorem zRo {s s':Sl} (h:(Sl.val s).cells.toList = [s'.val]):s' = s:=by
 obtain ⟨a,n,c⟩:=s
 obtain ⟨a',n',c'⟩:=s'
 have h2:[Value.slice a n c] = [Value.slice a' n' c']:=h
 cases h2; rfl
theorem rdy_sl {e:Sh} {esz:Nat} {s:Sl} (y:Rdy w (.sl e esz) (Sl.val s).cells.toList):(s.a = none→s.n = 0∧s.c = 0) ∧
  ∀ a i,s.a = some a→i < s.n→∃ cs',cs'.length = esz∧(∀ j,j < esz→w.cell? (a.add (i * esz + j)) = cs'[j]?)∧Rdy w e cs':=by
 obtain ⟨s',h,_,_,h1,h2⟩:=y
 obtain rfl:=zRo h
 exact ⟨h1,h2⟩
end
theorem M0 { x:HProp} {l:List HProp}:x ∈ x::l:=List.mem_cons_self
theorem M1 {a0 x:HProp} {l:List HProp}:x ∈ a0::x::l:=List.mem_cons_of_mem _ (List.mem_cons_self)
theorem M2 {a0 a1 x:HProp} {l:List HProp}:x ∈ a0::a1::x::l:=List.mem_cons_of_mem _ (List.mem_cons_of_mem _ (List.mem_cons_self))
theorem M3 {a0 a1 a2 x:HProp} {l:List HProp}:x ∈ a0::a1::a2::x::l:=List.mem_cons_of_mem _ (List.mem_cons_of_mem _ (List.mem_cons_of_mem _ (List.mem_cons_self)))
theorem M4 {a0 a1 a2 a3 x:HProp} {l:List HProp}:x ∈ a0::a1::a2::a3::x::l:=List.mem_cons_of_mem _ (List.mem_cons_of_mem _ (List.mem_cons_of_mem _ (List.mem_cons_of_mem _ (List.mem_cons_self))))
theorem M5 {a0 a1 a2 a3 a4 x:HProp} {l:List HProp}:x ∈ a0::a1::a2::a3::a4::x::l:=List.mem_cons_of_mem _ (List.mem_cons_of_mem _ (List.mem_cons_of_mem _ (List.mem_cons_of_mem _ (List.mem_cons_of_mem _ (List.mem_cons_self)))))
theorem M6 {a0 a1 a2 a3 a4 a5 x:HProp} {l:List HProp}:x ∈ a0::a1::a2::a3::a4::a5::x::l:=List.mem_cons_of_mem _ (List.mem_cons_of_mem _ (List.mem_cons_of_mem _ (List.mem_cons_of_mem _ (List.mem_cons_of_mem _ (List.mem_cons_of_mem _ (List.mem_cons_self))))))
theorem M7 {a0 a1 a2 a3 a4 a5 a6 x:HProp} {l:List HProp}:x ∈ a0::a1::a2::a3::a4::a5::a6::x::l:=List.mem_cons_of_mem _ (List.mem_cons_of_mem _ (List.mem_cons_of_mem _ (List.mem_cons_of_mem _ (List.mem_cons_of_mem _ (List.mem_cons_of_mem _ (List.mem_cons_of_mem _ (List.mem_cons_self)))))))
theorem M8 {a0 a1 a2 a3 a4 a5 a6 a7 x:HProp} {l:List HProp}:x ∈ a0::a1::a2::a3::a4::a5::a6::a7::x::l:=List.mem_cons_of_mem _ (List.mem_cons_of_mem _ (List.mem_cons_of_mem _ (List.mem_cons_of_mem _ (List.mem_cons_of_mem _ (List.mem_cons_of_mem _ (List.mem_cons_of_mem _ (List.mem_cons_of_mem _ (List.mem_cons_self))))))))
theorem M9 {a0 a1 a2 a3 a4 a5 a6 a7 a8 x:HProp} {l:List HProp}:x ∈ a0::a1::a2::a3::a4::a5::a6::a7::a8::x::l:=List.mem_cons_of_mem _ (List.mem_cons_of_mem _ (List.mem_cons_of_mem _ (List.mem_cons_of_mem _ (List.mem_cons_of_mem _ (List.mem_cons_of_mem _ (List.mem_cons_of_mem _ (List.mem_cons_of_mem _ (List.mem_cons_of_mem _ (List.mem_cons_self)))))))))
theorem M10 {a0 a1 a2 a3 a4 a5 a6 a7 a8 a9 x:HProp} {l:List HProp}:x ∈ a0::a1::a2::a3::a4::a5::a6::a7::a8::a9::x::l:=List.mem_cons_of_mem _ (List.mem_cons_of_mem _ (List.mem_cons_of_mem _ (List.mem_cons_of_mem _ (List.mem_cons_of_mem _ (List.mem_cons_of_mem _ (List.mem_cons_of_mem _ (List.mem_cons_of_mem _ (List.mem_cons_of_mem _ (List.mem_cons_of_mem _ (List.mem_cons_self))))))))))
theorem M11 {a0 a1 a2 a3 a4 a5 a6 a7 a8 a9 a10 x:HProp} {l:List HProp}:x ∈ a0::a1::a2::a3::a4::a5::a6::a7::a8::a9::a10::x::l:=List.mem_cons_of_mem _ (List.mem_cons_of_mem _ (List.mem_cons_of_mem _ (List.mem_cons_of_mem _ (List.mem_cons_of_mem _ (List.mem_cons_of_mem _ (List.mem_cons_of_mem _ (List.mem_cons_of_mem _ (List.mem_cons_of_mem _ (List.mem_cons_of_mem _ (List.mem_cons_of_mem _ (List.mem_cons_self)))))))))))
theorem M12 {a0 a1 a2 a3 a4 a5 a6 a7 a8 a9 a10 a11 x:HProp} {l:List HProp}:x ∈ a0::a1::a2::a3::a4::a5::a6::a7::a8::a9::a10::a11::x::l:=List.mem_cons_of_mem _ (List.mem_cons_of_mem _ (List.mem_cons_of_mem _ (List.mem_cons_of_mem _ (List.mem_cons_of_mem _ (List.mem_cons_of_mem _ (List.mem_cons_of_mem _ (List.mem_cons_of_mem _ (List.mem_cons_of_mem _ (List.mem_cons_of_mem _ (List.mem_cons_of_mem _ (List.mem_cons_of_mem _ (List.mem_cons_self))))))))))))
section
variable {B w:World}
theorem P1 {a0 x:HProp} {l:List HProp} (h:Holds B (a0::x::l) w):Holds B (x::a0::l) w:=h.pick (i:=1) rfl
theorem P2 {a0 a1 x:HProp} {l:List HProp} (h:Holds B (a0::a1::x::l) w):Holds B (x::a0::a1::l) w:=h.pick (i:=2) rfl
theorem P3 {a0 a1 a2 x:HProp} {l:List HProp} (h:Holds B (a0::a1::a2::x::l) w):Holds B (x::a0::a1::a2::l) w:=h.pick (i:=3) rfl
theorem P4 {a0 a1 a2 a3 x:HProp} {l:List HProp} (h:Holds B (a0::a1::a2::a3::x::l) w):Holds B (x::a0::a1::a2::a3::l) w:=h.pick (i:=4) rfl
theorem P5 {a0 a1 a2 a3 a4 x:HProp} {l:List HProp} (h:Holds B (a0::a1::a2::a3::a4::x::l) w):Holds B (x::a0::a1::a2::a3::a4::l) w:=h.pick (i:=5) rfl
theorem D1 {a0 x:HProp} {l:List HProp} (h:Holds B (a0::x::l) w):Holds B (a0::l) w:=h.del (i:=1) rfl
theorem D2 {a0 a1 x:HProp} {l:List HProp} (h:Holds B (a0::a1::x::l) w):Holds B (a0::a1::l) w:=h.del (i:=2) rfl
theorem D5 {a0 a1 a2 a3 a4 x:HProp} {l:List HProp} (h:Holds B (a0::a1::a2::a3::a4::x::l) w):Holds B (a0::a1::a2::a3::a4::l) w:=h.del (i:=5) rfl
end
section
variable {α:Type _}
theorem N1 (a b:α) (l:List α):(a::l).set 0 b = b::l:=rfl
theorem N2 (a b:α) (l:List α) (n:Nat):(a::l).set (n + 1) b = a::l.set n b:=rfl
theorem N3 (l:List α):l.eraseIdx 0 = l.tail:=List.eraseIdx_zero
theorem N4 (a:α) (l:List α):(a::l).eraseIdx 0 = l:=rfl
theorem N5 (a:α) (l:List α) (n:Nat):(a::l).eraseIdx (n + 1) = a::l.eraseIdx n:=rfl
theorem N6 (l:List α) (i:Nat) (a:α):l.toArray.setIfInBounds i a = (l.set i a).toArray:=List.setIfInBounds_toArray ..
theorem N7 (a:α) (l:List α):(a::l).tail = l:=rfl
end
section
variable {B w:World} {a:Addr} {b off n:Nat} {cs vs:Array Value} {T:TypeId} {v:Value} {k:K} {l:List HProp}
theorem S0 (h:Holds B (blk b (.cells cs T (0,0))::l) w) (ha:a = ⟨b,off,none⟩) (ho:off < cs.size) (hv:flatV v = true) (hk:∀ w',Holds B (blk b (.cells (cs.setIfInBounds off v) T (0,0))::l) w'→k w'):St a v k w:=r_st 0 h ha rfl ho (nofz _) hv hk
theorem T0 (h:Holds B (blk b (.cells cs T (0,0))::l) w) (ha:a = ⟨b,0,none⟩) (hn:cs.size = n) (hv:vs.size = n) (hfl:∀ v ∈ vs.toList,flatV v = true) (hk:∀ w',Holds B (blk b (.cells vs T (0,0))::l) w'→k w'):StN a n vs k w:=r_stN 0 h ha rfl hn hv (fun _ _=>nofz _) hfl hk
theorem S1 {a0:HProp} (h:Holds B (a0::blk b (.cells cs T (0,0))::l) w) (ha:a = ⟨b,off,none⟩) (ho:off < cs.size) (hv:flatV v = true) (hk:∀ w',Holds B (a0::blk b (.cells (cs.setIfInBounds off v) T (0,0))::l) w'→k w'):St a v k w:=r_st 1 h ha rfl ho (nofz _) hv hk
theorem S2 {a0 a1:HProp} (h:Holds B (a0::a1::blk b (.cells cs T (0,0))::l) w) (ha:a = ⟨b,off,none⟩) (ho:off < cs.size) (hv:flatV v = true) (hk:∀ w',Holds B (a0::a1::blk b (.cells (cs.setIfInBounds off v) T (0,0))::l) w'→k w'):St a v k w:=r_st 2 h ha rfl ho (nofz _) hv hk
theorem S3 {a0 a1 a2:HProp} (h:Holds B (a0::a1::a2::blk b (.cells cs T (0,0))::l) w) (ha:a = ⟨b,off,none⟩) (ho:off < cs.size) (hv:flatV v = true) (hk:∀ w',Holds B (a0::a1::a2::blk b (.cells (cs.setIfInBounds off v) T (0,0))::l) w'→k w'):St a v k w:=r_st 3 h ha rfl ho (nofz _) hv hk
theorem S4 {a0 a1 a2 a3:HProp} (h:Holds B (a0::a1::a2::a3::blk b (.cells cs T (0,0))::l) w) (ha:a = ⟨b,off,none⟩) (ho:off < cs.size) (hv:flatV v = true) (hk:∀ w',Holds B (a0::a1::a2::a3::blk b (.cells (cs.setIfInBounds off v) T (0,0))::l) w'→k w'):St a v k w:=r_st 4 h ha rfl ho (nofz _) hv hk
theorem S5 {a0 a1 a2 a3 a4:HProp} (h:Holds B (a0::a1::a2::a3::a4::blk b (.cells cs T (0,0))::l) w) (ha:a = ⟨b,off,none⟩) (ho:off < cs.size) (hv:flatV v = true) (hk:∀ w',Holds B (a0::a1::a2::a3::a4::blk b (.cells (cs.setIfInBounds off v) T (0,0))::l) w'→k w'):St a v k w:=r_st 5 h ha rfl ho (nofz _) hv hk
theorem S6 {a0 a1 a2 a3 a4 a5:HProp} (h:Holds B (a0::a1::a2::a3::a4::a5::blk b (.cells cs T (0,0))::l) w) (ha:a = ⟨b,off,none⟩) (ho:off < cs.size) (hv:flatV v = true) (hk:∀ w',Holds B (a0::a1::a2::a3::a4::a5::blk b (.cells (cs.setIfInBounds off v) T (0,0))::l) w'→k w'):St a v k w:=r_st 6 h ha rfl ho (nofz _) hv hk
theorem S7 {a0 a1 a2 a3 a4 a5 a6:HProp} (h:Holds B (a0::a1::a2::a3::a4::a5::a6::blk b (.cells cs T (0,0))::l) w) (ha:a = ⟨b,off,none⟩) (ho:off < cs.size) (hv:flatV v = true) (hk:∀ w',Holds B (a0::a1::a2::a3::a4::a5::a6::blk b (.cells (cs.setIfInBounds off v) T (0,0))::l) w'→k w'):St a v k w:=r_st 7 h ha rfl ho (nofz _) hv hk
theorem S8 {a0 a1 a2 a3 a4 a5 a6 a7:HProp} (h:Holds B (a0::a1::a2::a3::a4::a5::a6::a7::blk b (.cells cs T (0,0))::l) w) (ha:a = ⟨b,off,none⟩) (ho:off < cs.size) (hv:flatV v = true) (hk:∀ w',Holds B (a0::a1::a2::a3::a4::a5::a6::a7::blk b (.cells (cs.setIfInBounds off v) T (0,0))::l) w'→k w'):St a v k w:=r_st 8 h ha rfl ho (nofz _) hv hk
end
end Go.Sep
namespace Go.Sep
open Go
def SlotsD (ds:List Deferred) (a:Act) (n:Nat) (σ:List (Nat×Value)):Prop:=Slots { a with defers:=[] } n σ∧a.defers = ds
section
variable {P:Program} {ops:Array Oper} {Q:Exit→Act→World→Prop} {rest:List Oper} {o:Oper} {a:Act} {n m:Nat} {σ τ:List (Nat×Value)} {w w':World} {v:Value} {F:Fence} {ds:List Deferred}
theorem Slots.D (h:Slots a n σ):SlotsD [] a n σ:=by
 obtain ⟨t,d⟩:=a
 have:=h.defers
 simp only at this
 subst this
 exact ⟨h,rfl⟩
theorem SlotsD.nil (h:SlotsD [] a n σ):Slots a n σ:=by
 obtain ⟨t,d⟩:=a
 obtain ⟨h1,h2⟩:=h
 simp only at h2
 subst h2
 exact h1
theorem SlotsD.to (h:SlotsD ds a n σ) (hs:Sub σ τ):SlotsD ds a n τ:=⟨h.1.to hs,h.2⟩
theorem SlotsD.put (h:SlotsD ds a n σ) {d:Nat} (hd:d < n) (v:Value):SlotsD ds (a.put (some d) v) n ((d,v)::σ):=by
 have h1:=h.1.put hd v
 exact ⟨h1,h.2⟩
structure Free (F:Fence):Prop where
 fn:∀ f,F.fn f
 depth:F.depth = none
theorem zGm:Free Fence.wide:=⟨fun _=>trivial,rfl⟩
theorem Free.round (h:Free F) (l:Nat):Free (F.inRound l):=⟨h.fn,h.depth⟩
theorem zGY (hF:Free F) {f:FuncId} {args:Array Value} {R:Ending→World→Prop} (ha:F.alive = false) (h:Calls P f args w R):CallsIn F m P f args w R:=by
 obtain ⟨h1,h2⟩:=(callsIn_wide (n:=m)).2 h
 refine ⟨hF.fn f,fun cs hr=>?_⟩
 obtain ⟨e,w',fr,r,s,x⟩:=h2 cs (fun d hd=>by cases hd)
 refine ⟨e,w',fr,r,?_,x⟩
 have key:Machine.fenced P Fence.wide = Machine.fenced P F:=by
  funext mm
  unfold Machine.fenced
  simp [Fence.wide,ha,hF.fn,Fence.room,hF.depth]
 rwa [key] at s
theorem zNQ {m' l:Nat} {f:FuncId} {tmps:Array Value} {assign body:Code} {R:Ending→World→Prop} (h:RoundIn Fence.wide m P l f tmps assign body w R):RoundIn Fence.wide m' P l f tmps assign body w R :=
 ⟨h.1,fun c cs _=>h.2 c cs (fun d hd=>by cases hd)⟩
theorem zTA {α:Type} {c:Code} (I:α→World→Prop) (μ:α→World→Nat) (G:α→Act→Prop) (x:α) (h0:I x w) (hG:G x a)
  (h:∀ x a w,I x w→G x a→c.wpIn F m P (Exit.then (fun a' w'=>∃ x',G x' a'∧I x' w'∧μ x' w' < μ x w) Q) a w):(Code.loop c).wpIn F m P Q a w:=by
 classical
 let R:Act→World→Nat→Prop:=fun a w k=>∃ x,I x w∧G x a∧μ x w = k
 have key:∀ k a w,R a w k→(Code.loop c).wpIn F m P Q a w:=by
  intro k0 a0 w0 hR0
  intro b kk cs hro hb hr
  have key2:∀ j a w,R a w j→∃ e a' w',Q e a' w'∧ArrivesIn (Machine.fenced P F) P (lone (b.atR a (.code c::.inLoop c::kk)) cs w) b kk cs e a' w':=by
   intro j
   induction j using Nat.strongRecOn with
   | _ j ih =>
    rintro a w ⟨x,hI,hGx,hμ⟩
    obtain ⟨e,a₁,w₁,hq,harr⟩:=h x a w hI hGx b (.inLoop c::kk) cs hro hb hr
    cases e with
    | normal =>
     obtain ⟨x',hG',hI',hlt⟩:=hq
     obtain ⟨e₂,a₂,w₂,hq₂,harr₂⟩:=ih (μ x' w₁) (hμ ▸ hlt) a₁ w₁ ⟨x',hI',hG',rfl⟩
     exact ⟨e₂,a₂,w₂,hq₂,.of_steps (StepsIn.trans harr (.one (fenced_calm hb hr rfl) stepR_inLoop)) harr₂⟩
    | exit id=>exact ⟨_,a₁,w₁,hq,.pass (x:=.inLoop c) rfl (fun _ _=>.inl (by simp)) harr⟩
    | goto l=>exact ⟨_,a₁,w₁,hq,.pass (x:=.inLoop c) rfl (fun _ _=>.inl (by simp)) harr⟩
    | ret=>exact ⟨_,a₁,w₁,hq,.pass (x:=.inLoop c) rfl (fun _ _=>.inl (by simp)) harr⟩
    | panic ch=>exact ⟨_,a₁,w₁,hq,.pass (x:=.inLoop c) rfl (fun _ _=>.inl (by simp)) harr⟩
    | outgrown=>exact ⟨_,a₁,w₁,hq,.pass (x:=.inLoop c) rfl (fun _ _=>.inl (by simp)) harr⟩
  obtain ⟨e,a',w',hq,harr⟩:=key2 k0 a0 w0 hR0
  exact ⟨e,a',w',hq,.of_steps (.one (fenced_calm hb hr rfl) stepR_loop) harr⟩
 exact key _ a w ⟨x,h0,hG,rfl⟩
abbrev yv (l:Nat):Value:=.func (.yield l) #[] #[]
def CallY (P:Program) (f:Value) (args:List Value) (k:Value→K):K:=fun w=>∃ l,f = .func (.yield l) #[] #[]∧YieldAt Fence.wide 0 P l args.toArray w (Ret k)
theorem zTB {l:Nat} {x:Operand} {xs:Array Operand} {ts:Array TypeId} {vs:List Value} (ho:o.op = .call { callee:=.value x,args:=xs,argTypes:=ts }) (hx:ev σ x = some (.func (.yield l) #[] #[])) (hv:evs σ xs.toList = some vs) :
  ∀ (y:Next),(Instr.yield l vs.toArray).run P w = .ok y w→Eff P σ o w y w:=fun y hy a _ hs=>by
 have h1:xs.map a.eval = vs.toArray:=by apply Array.ext'; simpa using zFi hs hv
 simp [execOp,ho,resolve,hs.ev hx,h1,Deferred.ofValue,invoke,hy]
def markD (D:Nat):List Deferred:=[{ target:=.collected D,args:=#[] }]
def EndR (l:Nat) (r:Loop) (k:K):K:=fun w=>w.heap[l]? = some (.loop r)∧k (w.putObj l (.loop { r with state:=.ready,pending:=none }))
def TakeD (D:Nat) (k:K):K:=fun w=>w.heap[D]? = some (.deferred (some []))∧k (w.putObj D (.deferred none))
def RangeF {α:Type} (P:Program) (fv:Value) (cX:α→Value) (body:K→α→K) (after:Nat→K):K:=fun w =>
 ∃ g cs,fv = .func (.func g) #[] cs∧callable P g = true ∧
  ∀ (r:Loop) (w1:World),r.state = .ready→r.pending = none→r.defers = w.heap.size→w1 = (w.alloc (.deferred (some []))).alloc (.loop r) →
   (∀ (x:α) (k:K) (W:World),W.heap[w.heap.size + 1]? = some (.loop r) →
    body (EndR (w.heap.size + 1) { r with state:=.busy } k) x (W.putObj (w.heap.size + 1) (.loop { r with state:=.busy })) →
    YieldAt Fence.wide 0 P (w.heap.size + 1) #[cX x] W (Ret fun v w'=>v = .bool true∧k w')) →
   Calls P g (yv (w.heap.size + 1)::cs.toList).toArray w1 (Ret fun _ w3=>w3.heap[w.heap.size + 1]? = some (.loop r)∧after w.heap.size (w3.putObj (w.heap.size + 1) (.loop { r with state:=.exhausted })))
theorem SlotsD.init (args:List Value) (n:Nat) (hn:args.length ≤ n):SlotsD [] { tmps:=args.toArray++Array.replicate (n - args.toArray.size) undef,defers:=[] } n (args.zipIdx.map fun p=>(p.2,p.1)):=(Slots.init args n hn).D
def bodyPostT (P:Program) (fn:Func) (R:Ending→World→Prop):Exit→Act→World→Prop
 | .normal,a,w | .ret,a,w=>LeavesInM Fence.wide 0 P fn a.tmps R a.defers .returning w
 | _,_,_=>False
theorem zOb {fn:Func} {R:Ending→World→Prop}:Tight (bodyPostT P fn R):=fun _ _ _ h=>h
theorem zRp {f:FuncId} {fn:Func} {c:Code} {args:List Value} {R:Value→World→Prop} (hf:P.funcs[f]? = some fn) (hb:fn.body = some c) (hn:args.length ≤ fn.ntmps)
  (h:∀ a,SlotsD [] a fn.ntmps (args.zipIdx.map fun p=>(p.2,p.1))→c.wpIn Fence.wide 0 P (bodyPostT P fn (Ret R)) a w):Calls P f args.toArray w (Ret R):=by
 refine callsIn_wide.1 (callsIn_of_wp_marks (n:=0) hf hb trivial ?_)
 refine wpIn_mono (h _ (SlotsD.init args _ hn)) fun e a w hq=>?_
 cases e with
 | normal=>exact hq
 | ret=>exact hq
 | _=>exact hq.elim
end
section
variable {P:Program} {B w:World} {Γ:List HProp}
theorem zE4 {l:Nat} {o o':Obj} (h:Holds B (blk l o::Γ) w):Holds B (blk l o'::Γ) (w.putObj l o'):=h.setBlock rfl
theorem r_endR {l:Nat} {r:Loop} {k:K} (h:Holds B (blk l (.loop r)::Γ) w) (hk:∀ w,Holds B (blk l (.loop { r with state:=.ready,pending:=none })::Γ) w→k w):EndR l r k w:=⟨h.block,hk _ (zE4 h)⟩
theorem zTC {D:Nat} {k:K} (h:Holds B (blk D (.deferred (some []))::Γ) w) (hk:∀ w,Holds B Γ w→k w):TakeD D k w:=⟨h.block,hk _ (zE4 (o':=.deferred none) h).tail⟩
theorem zRq {α:Type} {fv:Value} {cX:α→Value} {body:K→α→K} {after:Nat→K} {g:FuncId} {cs:Array Value} (h:Holds B Γ w) (hf:fv = .func (.func g) #[] cs) (hc:callable P g = true)
  (hk:∀ (D l:Nat) (r:Loop) (w:World),r.state = .ready→r.pending = none→Holds B (blk l (.loop r)::blk D (.deferred (some []))::Γ) w →
   (∀ (x:α) (k:K) (W:World) (Δ:List HProp),Holds B (blk l (.loop r)::Δ) W→(∀ W,Holds B (blk l (.loop { r with state:=.busy })::Δ) W→body (EndR l { r with state:=.busy } k) x W) →
    CallY P (.func (.yield l) #[] #[]) [cX x] (fun v w=>v = .bool true∧k w) W) →
   Calls P g (yv l::cs.toList).toArray w (Ret fun _ w3=>∃ Δ,Holds B (blk l (.loop r)::Δ) w3∧∀ w,Holds B Δ w→after D w)):RangeF P fv cX body after w:=by
 refine ⟨g,cs,hf,hc,fun r w1 h1 h2 h3 hw hy=>?_⟩
 have h4:=h.alloc (.deferred (some []))
 have h5:=h4.alloc (.loop r)
 have e:({ w with heap:=w.heap.push (.deferred (some [])) }:World).heap.size = w.heap.size + 1:=by simp
 rw [e] at h5
 subst hw
 refine (hk w.heap.size (w.heap.size + 1) r _ h1 h2 h5 fun x k W Δ hW hb=>?_).mono fun e w3 he=>?_
 ·exact ⟨_,rfl,hy x k W hW.block (hb _ (zE4 hW))⟩
 ·cases e with
  | returned v =>
   obtain ⟨Δ,h6,h7⟩:=he
   exact ⟨h6.block,h7 _ (zE4 h6).tail⟩
  | panicked c=>exact he.elim
  | outgrown=>exact he.elim
end
theorem zRr {P:Program} {f:FuncId} {args:Array Value} {w:World} {k k':Value→World→Prop} (h:Calls P f args w (Ret k)) (hk:∀ v w,k v w→k' v w):Calls P f args w (Ret k') :=
 h.mono fun e w he=>by
  cases e with
  | returned v=>exact hk _ _ he
  | panicked c=>exact he.elim
  | outgrown=>exact he.elim
theorem zPs {P:Program} {f:Value} {args:List Value} {w:World} {k k':Value→K} (h:CallY P f args k w) (hk:∀ v w,k v w→k' v w):CallY P f args k' w:=by
 obtain ⟨l,hl,fn,tm,sg,bd,hy,hr⟩:=h
 refine ⟨l,hl,fn,tm,sg,bd,hy,hr.mono fun e w he=>?_⟩
 cases e with
 | returned v=>exact hk _ _ he
 | panicked c=>exact he.elim
 | outgrown=>exact he.elim
end Go.Sep
namespace Go.Sep
open Go
section
variable {P:Program} {ops:Array Oper} {Q:Exit→Act→World→Prop} {S:World→Prop} {o:Oper} {a:Act} {w w':World} {v:Value} {fuel:Nat} {listed:Array Bool}
abbrev opW (P:Program) (ops:Array Oper) (Q:Exit→Act→World→Prop):=wpOpIn Fence.wide 0 P ops Q
theorem yi_op {i:Nat} (hi:ops[i]? = some o) (hy:YieldsIf P ops S o v a) {K:Act→World→Prop} (hS:S w) (h:K (a.put o.dst v) w):opW P ops Q i K a w:=by
 unfold opW Go.wpOpIn
 simp only [hi]
 rcases hy with ⟨hw,hv⟩ | ⟨hw,rfl⟩
 ·simp only [hw,if_true,Oper.wpIn]
  refine ⟨fun _ _=>trivial,?_⟩
  show o.uponIn Fence.wide 0 P a K Q ((o.semAt none a.eval).run P w)
  rw [Oper.semAt_none,hv w hS]; exact h
 ·simp only [hw,Bool.false_eq_true,if_false]; exact ⟨fun _ _=>trivial,h⟩
theorem zTD {j:Nat} {oi oj:Oper} (hj:ops[j]? = some oj) (hap:oi.apart ops oj = true) (hsi:∀ cs b,oi.op ≠ .select cs b) (hsj:∀ cs b,oj.op ≠ .select cs b)
  (hQ:∀ c a w,Q (.panic c) (a.put oi.dst v) w→Q (.panic c) a w) {K:Act→World→Prop} (hy:YieldsIf P ops S oi v a) (h:opW P ops Q j K (a.put oi.dst v) w) :
  opW P ops Q j (fun a' w'=>YieldsIf P ops S oi v a'∧K (a'.put oi.dst v) w') a w:=by
 obtain ⟨h1,h2,h3⟩:=Oper.apart_spec hap
 have keep:∀ (a:Act),YieldsIf P ops S oi v a→∀ u,YieldsIf P ops S oi v (a.put oj.dst u):=fun a hy u =>
  hy.of_same (execOp_put oi hsi a oj.dst u h3) (wanted_put oi a oj.dst u h3)
 have keepD:∀ d,YieldsIf P ops S oi v { a with defers:=d::a.defers }:=fun d=>hy.of_same rfl rfl
 unfold opW wpOpIn at *
 simp only [hj] at *
 rw [wanted_put oj a oi.dst v h1] at h
 split
 ·rename_i hw
  simp only [hw,if_true] at h
  unfold Oper.wpIn at *
  refine ⟨fun _ _=>trivial,?_⟩
  have h:=h.2
  have hro:Fence.wide.round = none:=rfl
  rw [hro,Oper.semAt_none,execOp_put oj hsj a oi.dst v h1] at h
  rw [hro,Oper.semAt_none]
  generalize (execOp a.eval oj).run P w = r at *
  cases r with
  | ok x w' =>
   cases x <;> simp only [Oper.uponIn] at h ⊢
   case value u=>exact ⟨keep a hy u,by rw [← Act.put_comm a v u h2]; exact h⟩
   case skip=>exact ⟨keep a hy _,by rw [← Act.put_comm a v undef h2]; exact h⟩
   case defer d =>
    refine ⟨keep _ (keepD d) _,?_⟩
    rw [← Act.put_comm _ v undef h2,← Act.put_defers]
    exact h
   case enter f args =>
    refine ⟨h.1,CallsIn.mono h.2 fun e w'' he=>?_⟩
    cases e with
    | returned u=>exact ⟨keep a hy u,by rw [← Act.put_comm a v u h2]; exact he⟩
    | panicked c=>exact hQ _ _ _ he
    | outgrown=>exact he
   case row row args=>exact ⟨h.1,RowsIn.mono h.2 fun u w'' he=>⟨keep a hy u,by rw [← Act.put_comm a v u h2]; exact he⟩⟩
   case round l f tmps assign body =>
    refine ⟨h.1,RoundIn.mono h.2 fun e w'' he=>?_⟩
    cases e with
    | returned u=>exact ⟨keep a hy u,by rw [← Act.put_comm a v u h2]; exact he⟩
    | panicked c=>exact hQ _ _ _ he
    | outgrown=>exact he
  | halt x w' =>
   cases x <;> simp only [Oper.uponIn] at h ⊢
   case panic u=>exact hQ _ _ _ h
 ·rename_i hw
  simp only [hw] at h
  exact ⟨fun _ _=>trivial,keep a hy _,by rw [← Act.put_comm a v undef h2]; exact h.2⟩
def alive (ds:List Nat) (l:Array Bool):Bool:=ds.all fun d=>!l.getD d false
def wpAnyD (P:Program) (ops:Array Oper) (Q:Exit→Act→World→Prop) (S:World→Prop) (ds:List Nat):Nat→Array Bool→Act→World→Prop
 | 0,listed,a,w=>Region.ready .any ops listed = []∧Q .normal a w
 | fuel + 1,listed,a,w =>
  (Region.ready .any ops listed = []→Q .normal a w) ∧
  ∀ i ∈ Region.ready .any ops listed,opW P ops Q i (fun a' w'=>(alive ds listed = true→i ∉ ds→S w→S w')∧wpAnyD P ops Q S ds fuel (listed.setIfInBounds i true) a' w') a w
variable {ds:List Nat}
theorem zFW:∀ (fuel:Nat) (listed:Array Bool) (a:Act) (w:World),wpAnyD P ops Q S ds fuel listed a w→wpAnyIn Fence.wide 0 P .any ops Q fuel listed a w
 | 0,_,_,_,h=>h
 | fuel + 1,_,_,_,h=>⟨h.1,fun i hi=>wpOpIn_mono (fun a' w' h'=>zFW fuel _ a' w' h'.2) (h.2 i hi)⟩
theorem zIo {ds':List Nat} (hsub:∀ d ∈ ds',d ∈ ds):∀ (fuel:Nat) (listed:Array Bool) (a:Act) (w:World),wpAnyD P ops Q S ds' fuel listed a w→wpAnyD P ops Q S ds fuel listed a w
 | 0,_,_,_,h=>h
 | fuel + 1,_,_,_,h=>⟨h.1,fun i hi=>wpOpIn_mono (fun a' w' h'=>⟨fun hal hid=>h'.1 (List.all_eq_true.2 fun d hd=>List.all_eq_true.1 hal d (hsub d hd)) (fun hm=>hid (hsub i hm)),zIo hsub fuel _ a' w' h'.2⟩) (h.2 i hi)⟩
theorem zMJ {l:Array Bool} {i:Nat} (hi:i ∉ ds) (h:alive ds l = true):alive ds (l.setIfInBounds i true) = true:=by
 refine List.all_eq_true.2 fun d hd=>?_
 have:=List.all_eq_true.1 h d hd
 have hne:i ≠ d:=fun e=>hi (e ▸ hd)
 rw [getD_set_ne false hne]; exact this
theorem zNR {T:World→Prop} {i:Nat} {oi:Oper} (hi:ops[i]? = some oi) (hid:i ∉ ds) (hsel:∀ (j:Nat) (o:Oper) cs b,ops[j]? = some o→o.op ≠ .select cs b) (hQ:Tight Q) :
  ∀ (fuel:Nat) (listed:Array Bool) (a:Act) (w:World),
   (∀ j oj,ops[j]? = some oj→j ≠ i→listed.getD j true = false→(∀ e ∈ oj.after,Region.binds .any e = true→e.on ≠ i)→oi.apart ops oj = true) →
   ((∀ w,T w)∨(T = S∧Closed ops listed∧∀ d ∈ ds,∃ n,reach ops i n d = true)) →
   i ∈ Region.ready .any ops listed→YieldsIf P ops T oi v a→T w →
   wpAnyD P ops Q S ds fuel (listed.setIfInBounds i true) (a.put oi.dst v) w→wpAnyD P ops Q S ds (fuel + 1) listed a w:=by
 have hQ':∀ c a w,Q (.panic c) (a.put oi.dst v) w→Q (.panic c) a w:=fun c a w h=>absurd h (hQ c _ w)
 intro fuel
 induction fuel with
 | zero =>
  intro listed a w _ _ hr hy hT H
  refine ⟨fun h=>(by rw [h] at hr; cases hr),fun j hj=>?_⟩
  by_cases hji:j = i
  ·subst hji; exact yi_op hi hy hT ⟨fun _ _ h=>h,H⟩
  ·have:=ready_mono hj hji
   rw [H.1] at this
   cases this
 | succ fuel ih =>
  intro listed a w hfree hlast hr hy hT H
  refine ⟨fun h=>(by rw [h] at hr; cases hr),fun j hj=>?_⟩
  by_cases hji:j = i
  ·subst hji; exact yi_op hi hy hT ⟨fun _ _ h=>h,H⟩
  ·have h1:=H.2 j (ready_mono hj hji)
   obtain ⟨hjun,oj,hoj,hall⟩:=mem_ready.1 hj
   have hi0:listed.getD i true = false:=(mem_ready.1 hr).1
   have hi1:listed.getD i false = false:=by
    rcases Nat.lt_or_ge i listed.size with h' | h'
    ·simp [h'] at hi0 ⊢; exact hi0
    ·simp [Array.getElem?_eq_none h'] at hi0
   have hnot:∀ e ∈ oj.after,Region.binds .any e = true→e.on ≠ i:=fun e he hb heq=>by
    have h1:=hall e he hb
    rw [heq,hi1] at h1
    cases h1
   have hTw:∀ w',(alive ds listed = true→j ∉ ds→S w→S w')→T w':=fun w' h=>by
    rcases hlast with hl | ⟨rfl,hcl,hl⟩
    ·exact hl w'
    ·refine h (List.all_eq_true.2 fun d hd=>?_) (fun hd=>?_) hT
     ·cases hld:listed.getD d false with
      | false=>rfl
      | true =>
       obtain ⟨n,hn⟩:=hl d hd
       cases hod:ops[d]? with
       | none=>cases n <;> simp [reach,hod] at hn
       | some od =>
        have:=zGX hcl n d od hod (hcl d od hod hld) hn
        rw [hi1] at this; cases this
     ·obtain ⟨n,hn⟩:=hl j hd
      have:=zGX hcl n j oj hoj hall hn
      rw [hi1] at this; cases this
   have h2:=zTD hoj (hfree j oj hoj hji hjun hnot) (fun cs b=>hsel i oi cs b hi) (fun cs b=>hsel j oj cs b hoj) hQ' hy h1
   have hun':∀ k,(listed.setIfInBounds j true).getD k true = false→listed.getD k true = false:=fun k hun=>by
    by_cases hjk:j = k
    ·subst hjk; exact hjun
    ·rw [getD_set_ne true hjk] at hun; exact hun
   refine wpOpIn_mono (fun a' w' h3=>⟨fun hal=>h3.2.1 (zMJ hid hal),ih (listed.setIfInBounds j true) a' w' (fun k ok hk hki hun hno=>hfree k ok hk hki (hun' k hun) hno) ?_ (ready_mono hr (Ne.symm hji)) h3.1 (hTw w' fun hal=>h3.2.1 (zMJ hid hal)) ?_⟩) h2
   ·rcases hlast with hl | ⟨hTS,hcl,hl⟩
    ·exact .inl hl
    ·exact .inr ⟨hTS,hcl.put hj,hl⟩
   ·rw [Array.setIfInBounds_comm _ _ hji]
    exact h3.2.2
end
end Go.Sep
namespace Go.Sep
open Go
class CT (P:Program) (T:Nat):Prop where h:cellT P T = true
class AT (P:Program) (T:Nat) (n:outParam Nat):Prop where h:aggT P T n = true
class SZ (P:Program) (T:Nat) (n:outParam Nat):Prop where h:sizeT P T n = true
class SLT (P:Program) (T:Nat) (E esz:outParam Nat):Prop where h:sliceT P T E esz = true
class ART (P:Program) (T:Nat) (E len esz:outParam Nat):Prop where h:arrayT P T E len esz = true
class STT (P:Program) (T:Nat):Prop where h:stringT P T = true
class INT (P:Program) (T:Nat) (k:outParam IntKind):Prop where h:intT P T k = true
class ZT (P:Program) (T:Nat) (z:outParam Value):Prop where h:zeroT P T z
class PLT (P:Program) (T:Nat) (l:outParam (List (Nat×Nat))):Prop where h:placesT P T l
class FT (P:Program) (S i:Nat) (off n:outParam Nat):Prop where h:fieldT P S i off n = true
class FC (P:Program) (S i:Nat) (off:outParam Nat):Prop where h:fieldC P S i off = true
class FNC (P:Program) (S i:Nat) (off n:outParam Nat):Prop where h:fieldN P S i off n = true
class UN (P:Program) (T:Nat) (d:outParam TypeDesc):Prop where h:P.underlying T = some d
class CB (P:Program) (f:Nat):Prop where h:callable P f = true
class EXT (P:Program) (f:Nat) (e:outParam (Array Value→Sem Value)):Prop where h:∀ args w v w',(e args).run P w = .ok v w'→(callFunc f args).run P w = .ok (.value v) w'
class MX (P:Program):Prop where h:P.follows .mixedOrders = true
def Ans4 {α β γ δ:Type} (c:α→β→γ→δ→Value) (k:α→β→γ→δ→K):Value→K:=fun v w=>∃ x y z u,v = c x y z u∧k x y z u w
def Ans5 {α β γ δ ε:Type} (c:α→β→γ→δ→ε→Value) (k:α→β→γ→δ→ε→K):Value→K:=fun v w=>∃ x y z u t,v = c x y z u t∧k x y z u t w
section
variable {P:Program} {σ τ:List (Nat×Value)} {o:Oper} {x y z:Operand} {v:Value} {T U:TypeId}
theorem zJ9 {S i off n:Nat} {a:Addr} [c:FT P S i off n] (ho:o.op = .fieldAddr S x i) (hx:ev σ x = some (.pointer (some a))):Pure P σ o (.pointer (some (a.add off))):=zJ5 ho hx c.h
theorem zIp {S i n:Nat} {a:Addr} [c:FT P S i 0 n] (ho:o.op = .fieldAddr S x i) (hx:ev σ x = some (.pointer (some a))):Pure P σ o (.pointer (some a)):=zNN ho hx c.h
theorem zNS {S i off n:Nat} {cs:Array Value} [c:FNC P S i off n] (ho:o.op = .field S x i) (hx:ev σ x = some (.agg cs)):Pure P σ o (.agg (cs.extract off (off + n))):=zRc ho hx c.h
theorem q_len {s:Sl} {E esz:Nat} [c:SLT P T E esz] (ho:o.op = .call { callee:=.builtin .len,args:=#[x],argTypes:=#[T] }) (hx:ev σ x = some s.val):Pure P σ o (.int .i64 s.n):=p_len ho hx c.h
theorem q_lens {s:ByteArray} [c:STT P T] (ho:o.op = .call { callee:=.builtin .len,args:=#[x],argTypes:=#[T] }) (hx:ev σ x = some (.string s)):Pure P σ o (.int .i64 s.size):=p_lens ho hx c.h
theorem zK1 {s:ByteArray} [c:STT P T] [d:STT P U] (ho:o.op = .convert T U x) (hx:ev σ x = some (.string s)):Pure P σ o (.string s):=zPp ho hx c.h d.h
theorem zK2 {k j:IntKind} {a:Int} [c:INT P T k] [d:INT P U j] (ho:o.op = .convert T U x) (hx:ev σ x = some (.int k a)):Pure P σ o (.int j (j.wrap a)):=zPo ho hx c.h d.h
theorem q_eqb {a b:Bool} [c:UN P T .bool] (ho:o.op = .binOp .eql T x y U) (hx:ev σ x = some (.bool a)) (hy:ev σ y = some (.bool b)):Pure P σ o (.bool (a == b)):=p_eqb ho hx hy c.h
theorem q_neb {a b:Bool} [c:UN P T .bool] (ho:o.op = .binOp .neq T x y U) (hx:ev σ x = some (.bool a)) (hy:ev σ y = some (.bool b)):Pure P σ o (.bool (!(a == b))):=p_neb ho hx hy c.h
theorem zNT {p:Option Addr} {E:Nat} [c:UN P T (.pointer E)] (ho:o.op = .binOp .eql T x y U) (hx:ev σ x = some (.pointer p)) (hy:ev σ y = some (.pointer none)):Pure P σ o (.bool p.isNone):=zRd ho hx hy c.h
theorem zNU {p:Option Addr} {E:Nat} [c:UN P T (.pointer E)] (ho:o.op = .binOp .neq T x y U) (hx:ev σ x = some (.pointer p)) (hy:ev σ y = some (.pointer none)):Pure P σ o (.bool (!p.isNone)):=zRe ho hx hy c.h
theorem zOz {s:Sl} {E n c:Nat} [cl:UN P T (.slice E)] (ho:o.op = .binOp .eql T x y U) (hx:ev σ x = some s.val) (hy:ev σ y = some (.slice none n c)):Pure P σ o (.bool s.a.isNone):=zSz ho hx hy cl.h
theorem zO0 {s:Sl} {E n c:Nat} [cl:UN P T (.slice E)] (ho:o.op = .binOp .neq T x y U) (hx:ev σ x = some s.val) (hy:ev σ y = some (.slice none n c)):Pure P σ o (.bool (!s.a.isNone)):=zS0 ho hx hy cl.h
theorem p_ges {a b:ByteArray} (ho:o.op = .binOp .geq T x y U) (hx:ev σ x = some (.string a)) (hy:ev σ y = some (.string b)):Pure P σ o (.bool !(Op.bytesLess a.toList b.toList)):=fun _ _ hs w=>by
 simp [execOp,ho,hs.ev hx,hs.ev hy,eqGuard,binOp,Op.stringOp]
theorem p_les {a b:ByteArray} (ho:o.op = .binOp .leq T x y U) (hx:ev σ x = some (.string a)) (hy:ev σ y = some (.string b)):Pure P σ o (.bool (Op.bytesLess a.toList b.toList || a.toList == b.toList)):=fun _ _ hs w=>by
 simp [execOp,ho,hs.ev hx,hs.ev hy,eqGuard,binOp,Op.stringOp]
def setFlat:List Value→List (Nat×Nat)→List (Nat×Value)→List Value
 | zs,_,[]=>zs
 | zs,ps,p::vs=>setFlat (zs.set ((ps.getD p.1 (0,0)).1) p.2) ps vs
def flatParts:List (Nat×Value)→Bool
 | []=>true
 | p::vs=>flatV p.2 && flatParts vs
theorem zO1 {z:Value} {zl:List Value} {pl:List (Nat×Nat)} {ps:Array (Nat×Operand)} {vs:List (Nat×Value)} [c:ZT P T z] [d:PLT P T pl] (ho:o.op = .build T ps) (hv:partsOf σ ps.toList = some vs) (hf:flatParts vs = true) (hz:z.cells = zl.toArray)
  (hc:Instr.fill (pl[·]?) z.cells vs = some (setFlat zl pl vs).toArray):Pure P σ o (.agg (setFlat zl pl vs).toArray):=zOv ho c.h d.h hv hc
def nth:List Value→Nat→Option Value
 | [],_=>none
 | v::_,0=>some v
 | _::l,i + 1=>nth l i
theorem nth_eq:∀ (l:List Value) (i:Nat),nth l i = l[i]?
 | [],_=>rfl
 | _::_,0=>rfl
 | _::l,i + 1=>by simpa [nth] using nth_eq l i
theorem zMK {l:List Value} {i:Nat} (ho:o.op = .extract x i) (hx:ev σ x = some (.tuple l.toArray)) (hv:nth l i = some v):Pure P σ o v:=zMH ho hx (by rw [nth_eq] at hv; simpa using hv)
theorem zLa (h:Pure P σ o v:=by
  first
  | exact p_move rfl rfl | exact zNJ rfl rfl | exact p_nil rfl rfl | exact zIp rfl rfl | exact zJ9 rfl rfl | exact q_len rfl rfl | exact p_eq rfl rfl rfl | exact p_ne rfl rfl rfl | exact p_lt rfl rfl rfl | exact p_le rfl rfl rfl
  | exact p_gt rfl rfl rfl | exact p_ge rfl rfl rfl | exact p_not rfl rfl | exact zNK rfl rfl rfl | exact zNL rfl rfl rfl | exact zNM rfl rfl rfl rfl | exact zMK rfl rfl rfl | exact q_lens rfl rfl | exact p_eqs rfl rfl rfl | exact p_nes rfl rfl rfl
  | exact p_lts rfl rfl rfl | exact p_gts rfl rfl rfl | exact p_ges rfl rfl rfl | exact p_les rfl rfl rfl | exact zNT rfl rfl rfl | exact zNU rfl rfl rfl | exact zOz rfl rfl rfl | exact zO0 rfl rfl rfl | exact q_eqb rfl rfl rfl | exact q_neb rfl rfl rfl
  | exact zNS rfl rfl | exact zO1 rfl rfl rfl rfl (by kernel_rfl) | exact zKv rfl rfl rfl | exact p_nilf rfl rfl | exact zK1 rfl rfl):Pure P σ o v:=h
def WP (P:Program) (σ:List (Nat×Value)) (o:Oper) {α:Type} (k:K) (v:α→Value) (k':α→K):Prop:=∀ w,k w→∃ x,Pure P σ o (v x)∧k' x w
def WR (P:Program) (σ:List (Nat×Value)) (o:Oper) {α:Type} (k:K) (v:α→Value) (k':α→K):Prop:=∀ w,k w→∃ x,Eff P σ o w (.value (v x)) w∧k' x w
def WE (P:Program) (σ:List (Nat×Value)) (o:Oper) {α:Type} (k:K) (v:α→Value) (k':α→K):Prop:=∀ w,k w→∃ x w',Eff P σ o w (.value (v x)) w'∧k' x w'
def WK (P:Program) (σ:List (Nat×Value)) (o:Oper) (k k':K):Prop:=∀ w,k w→∃ w',Eff P σ o w .skip w'∧k' w'
def WC (P:Program) (σ:List (Nat×Value)) (o:Oper) (k:K) (kk:Value→K):Prop:=∀ w,k w→∃ f args w',Eff P σ o w (.enter f args) w'∧Calls P f args w' (Ret kk)
def WY (P:Program) (σ:List (Nat×Value)) (o:Oper) (k:K) (kk:Value→K):Prop:=∀ w,k w→∃ l args,(∀ y,(Instr.yield l args).run P w = .ok y w→Eff P σ o w y w)∧YieldAt Fence.wide 0 P l args w (Ret kk)
def WS (P:Program) (S:World→Prop) (σ:List (Nat×Value)) (o:Oper) {α:Type} (k:K) (v:α→Value) (k':α→K):Prop:=∀ w,k w→∃ x,(∀ w,S w→Eff P σ o w (.value (v x)) w)∧k' x w
section
variable {α β:Type} {e:Int} {p:Prop} {kk:IntKind} {ki:Int→K} {ka:Addr→K} {s:Sl} {i lo hi mx:Int} {esz:Nat} {c:α→Value} {kx:α→K} {k:K}
theorem wp_ar (hp:Pure P σ o (.int kk e)):WP P σ o (Ar e ki) (fun t=>.int kk t) ki:=fun w ⟨t,he,h⟩=>⟨t,he ▸ hp,h⟩
theorem zO2 (hp:p→Pure P σ o (.int kk e)):WP P σ o (Cd p (Ar e ki)) (fun t=>.int kk t) ki:=fun w ⟨h0,t,he,h⟩=>⟨t,he ▸ hp h0,h⟩
theorem wp_idx {E:Nat} {kj:IntKind} [cl:SLT P T E esz] (ho:o.op = .indexAddr T x y) (hx:ev σ x = some s.val) (hy:ev σ y = some (.int kj i)):WP P σ o (Idx s i esz ka) (fun t=>.pointer (some t)) ka :=
 fun w ⟨a,t,ha,h0,h1,he,h⟩=>⟨t,Pure.adr he (p_idx ho hx hy cl.h ha h0 h1),h⟩
theorem zO3 {E len:Nat} {kj:IntKind} {a:Addr} [cl:ART P T E len esz] (ho:o.op = .indexAddr T x y) (hx:ev σ x = some (.pointer (some a))) (hy:ev σ y = some (.int kj i)):WP P σ o (IdxA a len i esz ka) (fun t=>.pointer (some t)) ka :=
 fun w ⟨t,h0,h1,he,h⟩=>⟨t,Pure.adr he (p_idxA ho hx hy cl.h h0 h1),h⟩
theorem zO4 {kj:IntKind} {s:ByteArray} [cl:STT P T] (ho:o.op = .index T x y) (hx:ev σ x = some (.string s)) (hy:ev σ y = some (.int kj i)):WP P σ o (IdxS s i ki) (fun t=>.int .u8 t) ki :=
 fun w ⟨t,b,h0,h1,he,h⟩=>⟨t,Pure.int he (p_idxS ho hx hy cl.h h0 h1),h⟩
theorem wp_fld {S j off:Nat} {cs:Array Value} [cl:FC P S j off] (ho:o.op = .field S x j) (hx:ev σ x = some (.agg cs)):WP P σ o (Fld cs off c kx) c kx :=
 fun w ⟨t,hv,h⟩=>⟨t,zSy ho hx cl.h hv,h⟩
theorem wp_slc {E:Nat} {lo' hi' mx':Option Operand} {ks:Sl→K} [cl:SLT P T E esz] (ho:o.op = .slice T x lo' hi' mx') (hx:ev σ x = some s.val) (hl:optI σ lo' 0 lo) (hh:optI σ hi' s.n hi) (hm:optI σ mx' s.c mx) (hmx:(!mx'.isSome || hi'.isSome) = true) :
  WP P σ o (Slc s lo hi mx esz ks) (fun t=>t.val) ks :=
 fun w ⟨t,h0,h1,h2,h3,he,h⟩=>⟨t,Pure.sl he (p_slc ho hx cl.h hl hh hm (fun hs=>by rw [hs] at hmx; simpa using hmx) h0 h1 h2 h3),h⟩
theorem zO5 {lo' hi':Option Operand} {s:ByteArray} {ks:ByteArray→K} [cl:STT P T] (ho:o.op = .slice T x lo' hi' none) (hx:ev σ x = some (.string s)) (hl:optI σ lo' 0 lo) (hh:optI σ hi' s.size hi) :
  WP P σ o (SlcS s lo hi ks) (fun t=>.string t) ks :=
 fun w ⟨t,h0,h1,h2,he,h⟩=>⟨t,Pure.str he (p_slcS ho hx cl.h hl hh h0 h1 h2),h⟩
theorem wp_cat {a b:ByteArray} {ks:ByteArray→K} (ho:o.op = .binOp .add T x y U) (hx:ev σ x = some (.string a)) (hy:ev σ y = some (.string b)):WP P σ o (Cat a b ks) (fun t=>.string t) ks :=
 fun w ⟨t,h0,he,h⟩=>⟨t,Pure.str he (p_cats ho hx hy h0),h⟩
theorem wp_pu {sem:Sem Value} (hs:∀ v w w',sem.run P w = .ok v w'→Eff P σ o w (.value v) w'):WP P σ o (Pu P sem c kx) c kx :=
 fun w ⟨t,hd,h⟩=>⟨t,p_sem fun w=>hs _ _ _ (hd w),h⟩
theorem wp_ext {t:Value} {j:Nat} (ho:o.op = .extract x j) (hx:ev σ x = some t):WP P σ o (Ext t j c kx) c kx :=
 fun w ⟨vs,u,ht,hv,h⟩=>⟨u,zMH ho (hx.trans (congrArg some ht)) hv,h⟩
theorem wp_bld {zv:Value} {zero:Array Value} {pl:List (Nat×Nat)} {ps:Array (Nat×Operand)} {vs:List (Nat×Value)} {kc:Array Value→K} [cz:ZT P T zv] [cp:PLT P T pl] (ho:o.op = .build T ps) (hv:partsOf σ ps.toList = some vs) (hz:zv.cells = zero) :
  WP P σ o (Bld zero (pl[·]?) vs kc) (fun t=>.agg t) kc:=fun w ⟨t,hb,h⟩=>⟨t,zOv ho cz.h cp.h hv (by rw [hz]; exact hb),h⟩
theorem wr_ld {a:Addr} [cl:CT P T] (ho:o.op = .load T x) (hx:ev σ x = some (.pointer (some a))):WR P σ o (Ld a c kx) c kx:=fun w ⟨t,hv,h⟩=>⟨t,e_load ho hx cl.h hv,h⟩
theorem wr_ldN {n:Nat} {a:Addr} {kc:Array Value→K} [cl:AT P T n] (ho:o.op = .load T x) (hx:ev σ x = some (.pointer (some a))):WR P σ o (LdN a n kc) (fun t=>.agg t) kc:=fun w ⟨t,hn,hv,h⟩=>⟨t,zOu ho hx cl.h hn hv,h⟩
theorem wr_rd {sem:Sem Value} (hs:∀ v w w',sem.run P w = .ok v w'→Eff P σ o w (.value v) w'):WR P σ o (Rd P sem c kx) c kx:=fun w ⟨t,hd,h⟩=>⟨t,hs _ _ _ hd,h⟩
theorem wr_rd2 {sem:Sem Value} {c:α→β→Value} {kx:α→β→K} (hs:∀ v w w',sem.run P w = .ok v w'→Eff P σ o w (.value v) w'):WR P σ o (Rd2 P sem c kx) (fun u=>u) (fun u=>Ans2 c kx u):=fun w ⟨t,u,hd,h⟩=>⟨c t u,hs _ _ _ hd,t,u,rfl,h⟩
variable {S:World→Prop}
theorem ws_ld {a:Addr} [cl:CT P T] (ho:o.op = .load T x) (hx:ev σ x = some (.pointer (some a))):WS P S σ o (LdS S a c kx) c kx:=fun w ⟨t,hv,h⟩=>⟨t,fun w hS=>e_load ho hx cl.h (hv w hS),h⟩
theorem ws_ldN {n:Nat} {a:Addr} {kc:Array Value→K} [cl:AT P T n] (ho:o.op = .load T x) (hx:ev σ x = some (.pointer (some a))):WS P S σ o (LdNS S a n kc) (fun t=>.agg t) kc:=fun w ⟨t,hn,hv,h⟩=>⟨t,fun w hS=>zOu ho hx cl.h hn (hv w hS),h⟩
theorem ws_rd {sem:Sem Value} (hs:∀ v w w',sem.run P w = .ok v w'→Eff P σ o w (.value v) w'):WS P S σ o (RdS P S sem c kx) c kx:=fun w ⟨t,hd,h⟩=>⟨t,fun w hS=>hs _ _ _ (hd w hS),h⟩
theorem ws_rd2 {sem:Sem Value} {c:α→β→Value} {kx:α→β→K} (hs:∀ v w w',sem.run P w = .ok v w'→Eff P σ o w (.value v) w'):WS P S σ o (Rd2S P S sem c kx) (fun u=>u) (fun u=>Ans2 c kx u):=fun w ⟨t,u,hd,h⟩=>⟨c t u,fun w hS=>hs _ _ _ (hd w hS),t,u,rfl,h⟩
theorem WR.is {w1:World} {v:α→Value} {k':α→K} (h:WR P σ o k v k'):∀ w,Is w1 w→k w→∃ x,(∀ w,Is w1 w→Eff P σ o w (.value (v x)) w)∧k' x w:=fun w hw hk=>by
 have:=hw.out; subst this
 obtain ⟨x,h1,h2⟩:=h _ hk
 exact ⟨x,fun w' hw'=>by have:=hw'.out; subst this; exact h1,h2⟩
theorem we_box {cs:Array Value} {v:Value} (ho:o.op = .box T x) (hx:ev σ x = some v) (hc:v.cells = cs):WE P σ o (New T cs ka) (fun a=>.pointer (some a)) ka:=fun w ⟨a,w',ha,hw,h⟩=>⟨a,w',e_box ho hx hc ha hw,h⟩
theorem zNV {zv:Value} {cs:Array Value} [cz:ZT P T zv] (ho:o.op = .alloc T) (hc:zv.cells = cs):WE P σ o (New T cs ka) (fun a=>.pointer (some a)) ka:=fun w ⟨a,w',ha,hw,h⟩=>⟨a,w',zS2 ho cz.h hc ha hw,h⟩
def zerosA (len esz:Nat) (zv:Value):Array Value:=(Array.range (len * esz)).map (fun i=>(if len * esz = 0 then #[] else zv.cells)[i % (if len * esz = 0 then #[] else zv.cells).size]!)
theorem zNW {E esz len:Nat} {zv:Value} {ps:Array (Nat×Operand)} {vs:List (Nat×Value)} {cs:Array Value} [cs':SLT P T E esz] [cz:ZT P E zv] (ho:o.op = .buildSlice T len ps) (hl:Nat.ble (len * esz) 16777216 = true) (hv:partsOf σ ps.toList = some vs) (hf:flatParts vs = true)
  (hc:Instr.fill (fun i=>some (i * esz,esz)) (zerosA len esz zv) vs = some cs):WE P σ o (New E cs ka) (fun a=>Sl.val ⟨some a,len,len⟩) ka :=
 fun w ⟨a,w',ha,hw,h⟩=>⟨a,w',zIl ho cs'.h cz.h (Nat.le_of_ble_eq_true hl) hv rfl hc ha hw,h⟩
theorem zKA {E esz len:Nat} {zv:Value} {z:Array Value} {ps:Array (Nat×Operand)} {vs:List (Nat×Value)} [cs':SLT P T E esz] [cz:ZT P E zv] (ho:o.op = .buildSlice T len ps) (hl:Nat.ble (len * esz) 16777216 = true) (hv:partsOf σ ps.toList = some vs)
  (hz:zerosA len esz zv = z):WE P σ o (Bld z (fun i=>some (i * esz,esz)) vs fun c=>New E c ka) (fun a=>Sl.val ⟨some a,len,len⟩) ka :=
 fun w ⟨c,hb,a,w',ha,hw,h⟩=>⟨a,w',zIl ho cs'.h cz.h (Nat.le_of_ble_eq_true hl) hv hz hb ha hw,h⟩
theorem we_do {sem:Sem Value} (hs:∀ v w w',sem.run P w = .ok v w'→Eff P σ o w (.value v) w'):WE P σ o (Do P sem c kx) c kx:=fun w ⟨t,w',hd,h⟩=>⟨t,w',hs _ _ _ hd,h⟩
theorem wk_st {a:Addr} {v:Value} [cl:SZ P T 1] (ho:o.op = .store T x y) (hx:ev σ x = some (.pointer (some a))) (hy:ev σ y = some v):WK P σ o (St a v k) k:=fun w ⟨w',hw,hc,hf,hv,h⟩=>⟨w',zS1 ho hx hy cl.h hw hc hf hv,h⟩
theorem wk_stN {n:Nat} {a:Addr} {cs:Array Value} [cl:SZ P T n] (ho:o.op = .store T x y) (hx:ev σ x = some (.pointer (some a))) (hy:ev σ y = some (.agg cs)):WK P σ o (StN a n cs k) k:=fun w ⟨w',hw,hn,hc,hv,h⟩=>⟨w',zRf ho hx hy cl.h hw hn hc hv,h⟩
theorem wk_do {sem:Sem Unit} (hs:∀ u w w',sem.run P w = .ok u w'→Eff P σ o w .skip w'):WK P σ o (DoU P sem k) k:=fun w ⟨u,w',hd,h⟩=>⟨w',hs _ _ _ hd,h⟩
theorem zO6 {f:FuncId} {xs:Array Operand} {ts:Array TypeId} {vs:List Value} {args:Array Value} {kk:Value→K} [cb:CB P f] (ho:o.op = .call { callee:=.value x,args:=xs,argTypes:=ts }) (hx:ev σ x = some (.func (.func f) #[] #[])) (hv:evs σ xs.toList = some vs) (ha:vs.toArray = args) :
  WC P σ o (CallF P f args kk) kk:=fun w h=>⟨f,args,w,ha ▸ e_call ho hx hv cb.h,h⟩
theorem zNX {f:FuncId} {first cap:Array Value} {xs:Array Operand} {ts:Array TypeId} {vs:List Value} {args:Array Value} {kk:Value→K} [cb:CB P f] (ho:o.op = .call { callee:=.value x,args:=xs,argTypes:=ts }) (hx:ev σ x = some (.func (.func f) first cap)) (hv:evs σ xs.toList = some vs)
  (ha:first++vs.toArray++cap = args):WC P σ o (CallF P f args kk) kk:=fun w h=>⟨f,args,w,ha ▸ zOw ho hx hv cb.h,h⟩
theorem wc_fv {fv:Value} {xs:Array Operand} {ts:Array TypeId} {vs:List Value} {kk:Value→K} (ho:o.op = .call { callee:=.value x,args:=xs,argTypes:=ts }) (hx:ev σ x = some fv) (hv:evs σ xs.toList = some vs):WC P σ o (CallV P fv vs kk) kk :=
 fun w ⟨g,fs,cs,hg,hcb,h⟩=>⟨g,_,w,zOw ho (hx.trans (congrArg some hg)) hv hcb,h⟩
theorem wy_y {fv:Value} {xs:Array Operand} {ts:Array TypeId} {vs:List Value} {kk:Value→K} (ho:o.op = .call { callee:=.value x,args:=xs,argTypes:=ts }) (hx:ev σ x = some fv) (hv:evs σ xs.toList = some vs):WY P σ o (CallY P fv vs kk) kk :=
 fun w ⟨l,hg,h⟩=>⟨l,_,zTB ho (hx.trans (congrArg some hg)) hv,h⟩
theorem ext_of {P : Program} {f : Nat} {fn : Func} {e : Array Value → Sem Value} (hf : P.funcs[f]? = some fn) (hn : (fn.name == "runtime.NumGoroutine") = false) (hb : fn.body.isNone = true) (h1 : Extern.findNext fn = none) (h2 : Extern.find fn = some e) : EXT P f e := ⟨fun args w v w' h => by rw [run_callFunc_extern hf hn hb h1 h2, h]; rfl⟩
theorem e_ext' {f:FuncId} {e:Array Value→Sem Value} {xs:Array Operand} {ts:Array TypeId} {vs:List Value} [c:EXT P f e] (ho:o.op = .call { callee:=.value x,args:=xs,argTypes:=ts }) (hx:ev σ x = some (.func (.func f) #[] #[])) (hv:evs σ xs.toList = some vs):∀ v w w',(e vs.toArray).run P w = .ok v w'→Eff P σ o w (.value v) w':=fun v w w' h a _ hs=>by
 have h1:xs.map a.eval = vs.toArray:=by apply Array.ext'; simpa using zFi hs hv
 simp [execOp,ho,resolve,hs.ev hx,h1,Deferred.ofValue,invoke,c.h _ _ _ _ h]
theorem zAZ {ok:Bool} {vx vy:Value} (ho:o.op = .lookup T x y ok) (hx:ev σ x = some vx) (hy:ev σ y = some vy):∀ v w w',(Instr.lookup T vx vy ok).run P w = .ok v w'→Eff P σ o w (.value v) w':=fun _ _ _ h=>zRh ho hx hy h
theorem zEi {vx:Value} (ho:o.op = .convert T U x) (hx:ev σ x = some vx):∀ v w w',(convert T U vx).run P w = .ok v w'→Eff P σ o w (.value v) w':=fun _ _ _ h=>zQU ho hx h
theorem e_mkI' {vx:Value} (ho:o.op = .makeInterface T x) (hx:ev σ x = some vx):∀ v w w',(Instr.makeInterface T vx).run P w = .ok v w'→Eff P σ o w (.value v) w':=fun _ _ _ h=>zKx ho hx h
theorem e_len' {t:TypeId} {ts:Array TypeId} {vx:Value} (ho:o.op = .call { callee:=.builtin .len,args:=#[x],argTypes:=ts }) (ht:o.type = t) (hx:ev σ x = some vx):∀ v w w',(Builtin.len_ ts t #[vx]).run P w = .ok v w'→Eff P σ o w (.value v) w':=fun _ _ _ h=>e_len ho ht hx h
theorem e_cap' {t:TypeId} {ts:Array TypeId} {vx:Value} (ho:o.op = .call { callee:=.builtin .cap,args:=#[x],argTypes:=ts }) (ht:o.type = t) (hx:ev σ x = some vx):∀ v w w',(Builtin.cap_ ts t #[vx]).run P w = .ok v w'→Eff P σ o w (.value v) w':=fun _ _ _ h=>e_cap ho ht hx h
theorem zNY {t:TypeId} {ts:Array TypeId} {vx:Value} (ho:o.op = .call { callee:=.builtin .clear,args:=#[x],argTypes:=ts }) (ht:o.type = t) (hx:ev σ x = some vx):∀ v w w',(Builtin.clear_ ts t #[vx]).run P w = .ok v w'→Eff P σ o w (.value v) w':=fun _ _ _ h=>zS6 ho ht hx h
theorem zML {t:TypeId} {ts:Array TypeId} {vx vy:Value} (ho:o.op = .call { callee:=.builtin .append,args:=#[x,y],argTypes:=ts }) (ht:o.type = t) (hx:ev σ x = some vx) (hy:ev σ y = some vy):∀ v w w',(Builtin.append_ ts t #[vx,vy]).run P w = .ok v w'→Eff P σ o w (.value v) w':=fun _ _ _ h=>zRi ho ht hx hy h
theorem zO7 {t:TypeId} {ts:Array TypeId} {vx vy:Value} (ho:o.op = .call { callee:=.builtin .copy,args:=#[x,y],argTypes:=ts }) (ht:o.type = t) (hx:ev σ x = some vx) (hy:ev σ y = some vy):∀ v w w',(Builtin.copy_ ts t #[vx,vy]).run P w = .ok v w'→Eff P σ o w (.value v) w':=fun _ _ _ h=>e_copy ho ht hx hy h
theorem zMM {t:TypeId} {ts:Array TypeId} {vx vy:Value} (ho:o.op = .call { callee:=.builtin .delete,args:=#[x,y],argTypes:=ts }) (ht:o.type = t) (hx:ev σ x = some vx) (hy:ev σ y = some vy):∀ v w w',(Builtin.delete_ ts t #[vx,vy]).run P w = .ok v w'→Eff P σ o w (.value v) w':=fun _ _ _ h=>zRj ho ht hx hy h
theorem zK3 (ho:o.op = .makeMap T none):∀ v w w',(Instr.makeMap T none).run P w = .ok v w'→Eff P σ o w (.value v) w':=fun _ _ _ h=>zQV ho h
theorem zIq {vx vy:Value} (ho:o.op = .makeSlice T x y) (hx:ev σ x = some vx) (hy:ev σ y = some vy):∀ v w w',(Instr.makeSlice T vx vy).run P w = .ok v w'→Eff P σ o w (.value v) w':=fun _ _ _ h=>zOZ ho hx hy h
theorem zNZ {vx:Value} (ho:o.op = .range T x) (hx:ev σ x = some vx):∀ v w w',(Instr.range T vx).run P w = .ok v w'→Eff P σ o w (.value v) w':=fun _ _ _ h=>zS4 ho hx h
theorem zO8 {t:TypeId} {s:Bool} {vx:Value} (ho:o.op = .next x s) (ht:o.type = t) (hx:ev σ x = some vx):∀ v w w',(Instr.next vx s t).run P w = .ok v w'→Eff P σ o w (.value v) w':=fun _ _ _ h=>e_next ho ht hx h
theorem zNa {vx:Value} (ho:o.op = .entry x) (hx:ev σ x = some vx):∀ v w w',(Instr.entry vx).run P w = .ok v w'→Eff P σ o w (.value v) w':=fun _ _ _ h=>zS5 ho hx h
theorem zNb {op:BinOp} {vx vy:Value} (ho:o.op = .binOp op T x y U) (hx:ev σ x = some vx) (hy:ev σ y = some vy):∀ v w w',(do eqGuard op T x y vx vy; binOp op T vx vy:Sem Value).run P w = .ok v w'→Eff P σ o w (.value v) w':=fun _ _ _ h=>zS3 ho hx hy h
theorem zMN {ps:Array (Nat×Operand)} {vs:List (Nat×Value)} (ho:o.op = .build T ps) (hv:partsOf σ ps.toList = some vs):∀ v w w',(Instr.build T vs.toArray).run P w = .ok v w'→Eff P σ o w (.value v) w':=fun _ _ _ h=>zRg ho hv h
theorem zIr {vx vy vz:Value} (ho:o.op = .mapUpdate T x y z) (hx:ev σ x = some vx) (hy:ev σ y = some vy) (hz:ev σ z = some vz):∀ u w w',(Instr.mapUpdate T vx vy vz).run P w = .ok u w'→Eff P σ o w .skip w':=fun _ _ _ h=>zOY ho hx hy hz h
end
variable {α:Type} {k:K} {vx:α→Value} {k':α→K}
theorem zJO (h:WP P σ o k vx k':=by
  first
  | exact wp_ar (by first | exact p_add rfl rfl rfl | exact p_sub rfl rfl rfl | exact zK2 rfl rfl | exact p_mul rfl rfl rfl | exact p_and rfl rfl rfl | exact p_or rfl rfl rfl | exact p_xor rfl rfl rfl | exact p_neg rfl rfl | exact p_com rfl rfl | exact p_max _ rfl rfl rfl | exact p_min _ rfl rfl rfl)
  | exact wp_idx rfl rfl rfl | exact wp_fld rfl rfl | exact wp_slc rfl rfl (by first | exact rfl | exact ⟨_,rfl⟩) (by first | exact rfl | exact ⟨_,rfl⟩) (by first | exact rfl | exact ⟨_,rfl⟩) rfl | exact zO4 rfl rfl rfl | exact zO3 rfl rfl rfl
  | exact zO2 (fun h0=>by first | exact p_shl rfl rfl rfl h0 | exact p_shr rfl rfl rfl h0 | exact p_quo rfl rfl rfl h0 | exact p_rem rfl rfl rfl h0)
  | exact zO5 rfl rfl (by first | exact rfl | exact ⟨_,rfl⟩) (by first | exact rfl | exact ⟨_,rfl⟩) | exact wp_cat rfl rfl rfl | exact wp_bld rfl rfl rfl
  | exact wp_pu (by first | exact zNb rfl rfl rfl | exact zMN rfl rfl) | exact wp_ext rfl rfl):WP P σ o k vx k':=h
theorem zGM (h:WR P σ o k vx k':=by
  first
  | exact wr_ld rfl rfl | exact wr_ldN rfl rfl
  | exact wr_rd (by first | exact zAZ rfl rfl rfl | exact zEi rfl rfl | exact e_len' rfl rfl rfl | exact e_mkI' rfl rfl)
  | exact wr_rd2 (zAZ rfl rfl rfl)):WR P σ o k vx k':=h
theorem zTE {S:World→Prop} (h:WS P S σ o k vx k':=by
  first
  | exact ws_ld rfl rfl | exact ws_ldN rfl rfl
  | exact ws_rd (by first | exact zAZ rfl rfl rfl | exact zEi rfl rfl | exact e_len' rfl rfl rfl | exact e_mkI' rfl rfl)
  | exact ws_rd2 (zAZ rfl rfl rfl)):WS P S σ o k vx k':=h
theorem zGN (h:WE P σ o k vx k':=by
  first
  | exact we_box rfl rfl rfl | exact zNV rfl rfl | exact zNW rfl rfl rfl rfl (by kernel_rfl) | exact zKA rfl rfl rfl (by kernel_rfl)
  | exact we_do (by first | exact zML rfl rfl rfl rfl | exact zEi rfl rfl | exact zO8 rfl rfl rfl | exact zNZ rfl rfl | exact zNa rfl rfl | exact zK3 rfl | exact zIq rfl rfl rfl | exact zO7 rfl rfl rfl rfl | exact zMM rfl rfl rfl rfl | exact e_cap' rfl rfl rfl | exact zNY rfl rfl rfl)):WE P σ o k vx k':=h
theorem zLb {k k':K} (h:WK P σ o k k':=by
  first
  | exact wk_st rfl rfl rfl | exact wk_stN rfl rfl rfl | exact wk_do (zIr rfl rfl rfl rfl)):WK P σ o k k':=h
theorem zHH {k:K} {kk:Value→K} (h:WC P σ o k kk:=by
  first
  | exact zO6 rfl rfl rfl rfl | exact zNX rfl rfl rfl rfl | exact wc_fv rfl rfl rfl):WC P σ o k kk:=h
end
end Go.Sep
namespace Go.Sep
open Go Go.RowKit
def HG (B:World) (Γ:List HProp) (k:K):Prop:=∀ w,Holds B Γ w→k w
class Own (b:Nat) (Γ:List HProp) (A:outParam HProp) (Δ:outParam (List HProp)):Prop where perm:Γ.Perm (A::Δ)
class OwnS (s:Sl) (Γ:List HProp) (A:outParam HProp) (Δ:outParam (List HProp)):Prop where perm:Γ.Perm (A::Δ)
class Pick (A:HProp) (Γ:List HProp) (Δ:outParam (List HProp)):Prop where perm:Γ.Perm (A::Δ)
class Drops (Γ Δ:List HProp):Prop where imp:∀ {h:Hp},stars Γ h→stars Δ h
theorem zGn {A X:HProp} {Γ Δ:List HProp} (h:Γ.Perm (A::Δ)):(X::Γ).Perm (A::X::Δ):=(h.cons X).trans (List.Perm.swap _ _ _)
instance (priority:=low) zUT {b:Nat} {X A:HProp} {Γ Δ:List HProp} [h:Own b Γ A Δ]:Own b (X::Γ) A (X::Δ):=⟨zGn h.perm⟩
instance (priority:=high) zVM {b:Nat} {o:Obj} {Γ:List HProp}:Own b (blk b o::Γ) (blk b o) Γ:=⟨.refl _⟩
instance (priority:=low) zUH {s:Sl} {X A:HProp} {Γ Δ:List HProp} [h:OwnS s Γ A Δ]:OwnS s (X::Γ) A (X::Δ):=⟨zGn h.perm⟩
instance (priority:=high) zTF {E esz:Nat} {s:Sl} {vs:List Value} {Γ:List HProp}:OwnS s (SlC E esz s vs::Γ) (SlC E esz s vs) Γ:=⟨.refl _⟩
instance (priority:=high) zVN {E:Nat} {s:Sl} {vs:List UInt8} {Γ:List HProp}:OwnS s (Bytes E s vs::Γ) (Bytes E s vs) Γ:=⟨.refl _⟩
instance (priority:=low) zUI {A X:HProp} {Γ Δ:List HProp} [h:Pick A Γ Δ]:Pick A (X::Γ) (X::Δ):=⟨zGn h.perm⟩
instance (priority:=high) zUJ {A:HProp} {Γ:List HProp}:Pick A (A::Γ) Γ:=⟨.refl _⟩
instance (priority:=high) zT8 {A:HProp} {Γ Γ' Δ:List HProp} [p:Pick A Γ Γ'] [d:Drops Γ' Δ]:Drops Γ (A::Δ):=⟨fun h=>zD9 (fun _ h=>h) (fun _ h=>d.imp h) (zKt p.perm h)⟩
instance zT9 {Γ:List HProp}:Drops Γ Γ:=⟨fun h=>h⟩
instance (priority:=low) zUK {Γ:List HProp}:Drops Γ []:=⟨fun _=>trivial⟩
instance (priority:=low) zUA {A:HProp} {Γ Δ:List HProp} [d:Drops Γ Δ]:Drops (A::Γ) Δ:=⟨fun h=>d.imp (zKr h)⟩
section
variable {B w:World} {Γ Δ:List HProp} {k:K} {A A':HProp}
theorem Holds.drops (h:Holds B Γ w) [d:Drops Γ Δ]:Holds B Δ w:=⟨h.below,d.imp h.stars⟩
theorem hg (h:Holds B Γ w) (hk:HG B Γ k):k w:=hk w h
theorem s_end (h:HG B Δ k) [d:Drops Γ Δ]:HG B Γ k:=fun w hw=>h w hw.drops
theorem s_conv (hi:∀ h,A h→A' h) (h:HG B (A'::Γ) k):HG B (A::Γ) k:=fun w hw=>h w (hw.imp hi)
theorem s_ex {α:Sort _} {F:α→HProp} (h:∀ x,HG B (F x::Γ) k):HG B (Sep.ex F::Γ) k:=fun w hw=>by
 obtain ⟨x,hx⟩:=Holds.ex.1 hw; exact h x w hx
theorem s_pur {p:Prop} (h:p→HG B Γ k):HG B (pur p::Γ) k:=fun w hw=>by
 obtain ⟨hp,hx⟩:=Holds.pur.1 hw; exact h hp w hx
theorem s_flat (h:HG B (Δ++Γ) k):HG B (Sep.stars Δ::Γ) k:=fun w hw=>h w (Holds.flat.1 hw)
theorem zFj (h:HG B (Sep.stars Δ::Γ) k):HG B (Δ++Γ) k:=fun w hw=>h w (Holds.flat.2 hw)
theorem s_toEx {α:Sort _} {F:α→HProp} (x:α) (h:HG B (Sep.ex F::Γ) k):HG B (F x::Γ) k:=fun w hw=>h w (Holds.ex.2 ⟨x,hw⟩)
theorem zTG {p:Prop} (hp:p) (h:HG B (pur p::Γ) k):HG B Γ k:=fun w hw=>h w (Holds.pur.2 ⟨hp,hw⟩)
theorem s_pick (A:HProp) (h:HG B (A::Δ) k) [p:Pick A Γ Δ]:HG B Γ k:=fun w hw=>h w (hw.perm p.perm)
theorem s_own (b:Nat) (h:HG B (A::Δ) k) [p:Own b Γ A Δ]:HG B Γ k:=fun w hw=>h w (hw.perm p.perm)
theorem s_ownS (s:Sl) (h:HG B (A::Δ) k) [p:OwnS s Γ A Δ]:HG B Γ k:=fun w hw=>h w (hw.perm p.perm)
theorem s_swap (h:HG B (A'::A::Γ) k):HG B (A::A'::Γ) k:=fun w hw=>h w hw.swap
theorem s_ite {b:Bool} {x y:K} (h1:b = true→HG B Γ x) (h2:b = false→HG B Γ y):HG B Γ (Ite b x y):=fun w hw=>⟨fun hb=>h1 hb w hw,fun hb=>h2 hb w hw⟩
theorem s_t {b:Bool} {x y:K} (h:HG B Γ x) (hb:b = true:=by first | rfl | (simp; done) | (simp; omega)):HG B Γ (Ite b x y):=fun w hw=>zOx hb (h w hw)
theorem s_f {b:Bool} {x y:K} (h:HG B Γ y) (hb:b = false:=by first | rfl | (simp; done) | (simp; omega)):HG B Γ (Ite b x y):=fun w hw=>zLZ hb (h w hw)
theorem s_ar {e e':Int} {k:Int→K} (he:e = e') (h:HG B Γ (k e')):HG B Γ (Ar e k):=fun w hw=>r_ar he (h w hw)
theorem s_ai {e:Int} {k:Int→K} (h:HG B Γ (k e)) (h0:-9223372036854775808 ≤ e:=by omega) (h1:e ≤ 9223372036854775807:=by omega):HG B Γ (Ar (IntKind.wrap .i64 e) k):=s_ar (wrap64 h0 h1) h
theorem s_cd {p:Prop} (hp:p) (h:HG B Γ k):HG B Γ (Cd p k):=fun w hw=>⟨hp,h w hw⟩
theorem s_nn {a:Addr} {k:Addr→K} (h:HG B Γ (k a)):HG B Γ (Nn (some a) k):=fun w hw=>⟨a,rfl,h w hw⟩
theorem s_dr (h:HG B Γ k):HG B Γ (Dr k):=fun w hw=>r_dr hw fun w hw=>h w hw
theorem s_ws {k:(World→Prop)→K} (h:HG B Γ (k (Holds B Γ))):HG B Γ (WithS k):=fun w hw=>⟨Holds B Γ,hw,h w hw⟩
theorem s_sv (h:HG B Γ k) [d:Drops Γ Δ]:HG B Γ (Sv (Holds B Δ) k):=fun w hw=>⟨hw.drops,h w hw⟩
theorem s_fld {α:Type} {cs:List Value} {off:Nat} {c:α→Value} {x:α} {k:α→K} (h:HG B Γ (k x)) (hv:nth cs off = some (c x):=by rfl):HG B Γ (Fld cs.toArray off c k):=fun w hw=>⟨x,by rw [nth_eq] at hv; simpa using hv,h w hw⟩
theorem s_bld {zero:Array Value} {pl:List (Nat×Nat)} {vs:List (Nat×Value)} {cs:List Value} {k:Array Value→K} (h:HG B Γ (k cs.toArray)) (hc:Instr.fill (pl[·]?) zero vs = some cs.toArray:=by rfl):HG B Γ (Bld zero (pl[·]?) vs k):=fun w hw=>⟨_,hc,h w hw⟩
theorem s_bld1 {zero:List Value} {cs:List Value} {n:Nat} {k:Array Value→K} (h:HG B Γ (k cs.toArray)) (hz:zero.length = n:=by rfl) (hn:cs.length = n:=by rfl):HG B Γ (Bld zero.toArray (fun i=>some (i * n,n)) [(0,.agg cs.toArray)] k):=fun w hw=>r_bld1 (by simpa using hz) (by simpa using hn) (h w hw)
class AdrIs (a:Addr) (b off:outParam Nat):Prop where h:a = ⟨b,off,none⟩
instance adr_mk {b off:Nat}:AdrIs ⟨b,off,none⟩ b off:=⟨rfl⟩
instance zVO {b off n:Nat}:AdrIs ((⟨b,off,none⟩:Addr).add n) b (off + n):=⟨add_mk _ _ _⟩
theorem s_new {T:TypeId} {cs:Array Value} {k:Addr→K} (h:∀ b,HG B (blk b (.cells cs T (0,0))::Γ) (k ⟨b,0,none⟩)):HG B Γ (New T cs k):=fun w hw=>r_new hw fun b w hw=>h b w hw
theorem zDj {b:Nat} {o:Obj} (h:Holds B Γ w) [p:Own b Γ (blk b o) Δ]:w.heap[b]? = some o:=(h.perm p.perm).block
theorem s_ld {α:Type} {a:Addr} {b off:Nat} {l:List Value} {T:TypeId} {fz:Nat×Nat} {c:α→Value} {x:α} {k:α→K} (h:HG B Γ (k x)) [ad:AdrIs a b off] [p:Own b Γ (blk b (.cells l.toArray T fz)) Δ] (hv:nth l off = some (c x):=by rfl):HG B Γ (Ld a c k):=fun w hw =>
 ⟨x,by rw [ad.h]; exact zBr (zDj hw (p:=p)) (by rw [nth_eq] at hv; simpa using hv),h w hw⟩
theorem zLc {b off n:Nat} {l l':List Value} {T:TypeId} {fz:Nat×Nat} (h:w.heap[b]? = some (.cells l.toArray T fz)) (hl:(l.drop off).take n = l') (hn:l'.length = n):RdN w ⟨b,off,none⟩ l'.toArray:=by
 refine zQW h fun i hi=>?_
 have hi':i < l'.length:=by simpa using hi
 have:l'[i]? = l[off + i]?:=by rw [← hl,List.getElem?_take,if_pos (by omega),List.getElem?_drop]
 simpa using this.symm
theorem s_ldN {a:Addr} {b off n:Nat} {l l':List Value} {T:TypeId} {fz:Nat×Nat} {k:Array Value→K} (h:HG B Γ (k l'.toArray)) [ad:AdrIs a b off] [p:Own b Γ (blk b (.cells l.toArray T fz)) Δ]
  (hl:(l.drop off).take n = l':=by first | rfl | simp only [Nat.zero_add,Nat.reduceAdd,List.drop_zero,List.drop_succ_cons,List.take_succ_cons,List.take_zero]) (hn:l'.length = n:=by rfl):HG B Γ (LdN a n k):=fun w hw =>
 ⟨l'.toArray,by simpa using hn,by rw [ad.h]; exact zLc (zDj hw (p:=p)) hl hn,h w hw⟩
variable {Γ0:List HProp}
theorem s_ldS {α:Type} {a:Addr} {b off:Nat} {l:List Value} {T:TypeId} {fz:Nat×Nat} {c:α→Value} {x:α} {k:α→K} (h:HG B Γ (k x)) [ad:AdrIs a b off] [p:Own b Γ0 (blk b (.cells l.toArray T fz)) Δ] (hv:nth l off = some (c x):=by rfl):HG B Γ (LdS (Holds B Γ0) a c k):=fun w hw =>
 ⟨x,fun w' hw'=>by rw [ad.h]; exact zBr (zDj hw' (p:=p)) (by rw [nth_eq] at hv; simpa using hv),h w hw⟩
theorem s_ldNS {a:Addr} {b off n:Nat} {l l':List Value} {T:TypeId} {fz:Nat×Nat} {k:Array Value→K} (h:HG B Γ (k l'.toArray)) [ad:AdrIs a b off] [p:Own b Γ0 (blk b (.cells l.toArray T fz)) Δ]
  (hl:(l.drop off).take n = l':=by first | rfl | simp only [Nat.zero_add,Nat.reduceAdd,List.drop_zero,List.drop_succ_cons,List.take_succ_cons,List.take_zero]) (hn:l'.length = n:=by rfl):HG B Γ (LdNS (Holds B Γ0) a n k):=fun w hw =>
 ⟨l'.toArray,by simpa using hn,fun w' hw'=>by rw [ad.h]; exact zLc (zDj hw' (p:=p)) hl hn,h w hw⟩
theorem t0 {v x0:Value} {l:List Value}:(x0::l).set 0 v = v::l:=rfl
theorem t1 {v x0 x1:Value} {l:List Value}:(x0::x1::l).set 1 v = x0::v::l:=rfl
theorem t2 {v x0 x1 x2:Value} {l:List Value}:(x0::x1::x2::l).set 2 v = x0::x1::v::l:=rfl
theorem t3 {v x0 x1 x2 x3:Value} {l:List Value}:(x0::x1::x2::x3::l).set 3 v = x0::x1::x2::v::l:=rfl
theorem t4 {v x0 x1 x2 x3 x4:Value} {l:List Value}:(x0::x1::x2::x3::x4::l).set 4 v = x0::x1::x2::x3::v::l:=rfl
theorem t5 {v x0 x1 x2 x3 x4 x5:Value} {l:List Value}:(x0::x1::x2::x3::x4::x5::l).set 5 v = x0::x1::x2::x3::x4::v::l:=rfl
theorem t6 {v x0 x1 x2 x3 x4 x5 x6:Value} {l:List Value}:(x0::x1::x2::x3::x4::x5::x6::l).set 6 v = x0::x1::x2::x3::x4::x5::v::l:=rfl
theorem t7 {v x0 x1 x2 x3 x4 x5 x6 x7:Value} {l:List Value}:(x0::x1::x2::x3::x4::x5::x6::x7::l).set 7 v = x0::x1::x2::x3::x4::x5::x6::v::l:=rfl
theorem zRs {l l':List Value} {off:Nat} {v:Value} (h:l.set off v = l':=by first | exact t0 | exact t1 | exact t2 | exact t3 | exact t4 | exact t5 | exact t6 | exact t7 | rfl):l.set off v = l':=h
theorem s_st {a:Addr} {b off:Nat} {l l':List Value} {T:TypeId} {v:Value} (h:HG B (blk b (.cells l'.toArray T (0,0))::Δ) k) [ad:AdrIs a b off] [p:Own b Γ (blk b (.cells l.toArray T (0,0))) Δ] (ho:Nat.ble (off + 1) l.length = true:=by rfl)
  (hl:l.set off v = l':=by exact zRs) (hv:flatV v = true:=by rfl):HG B Γ (St a v k):=fun w hw=>by
 have h1:=hw.perm p.perm
 refine S0 h1 ad.h (by have:=Nat.le_of_ble_eq_true ho; simp only [List.size_toArray]; omega) hv fun w2 h2=>h w2 ?_
 rw [N6,hl] at h2; exact h2
theorem s_stN {a:Addr} {b n:Nat} {l l':List Value} {T:TypeId} (h:HG B (blk b (.cells l'.toArray T (0,0))::Δ) k) [ad:AdrIs a b 0] [p:Own b Γ (blk b (.cells l.toArray T (0,0))) Δ] (hn:l.length = n:=by rfl) (hn':l'.length = n:=by rfl)
  (hf:l'.all flatV = true:=by rfl):HG B Γ (StN a n l'.toArray k):=fun w hw =>
 T0 (hw.perm p.perm) ad.h (by simpa using hn) (by simpa using hn') (fun v hv=>List.all_eq_true.1 hf v (by simpa using hv)) fun w2 h2=>h w2 h2
def elA (s:Sl) (i esz:Nat):Addr:=(s.a.getD ⟨0,0,none⟩).add (i * esz)
theorem own_rd {s:Sl} {E esz:Nat} {vs:List Value} (h:Holds B Γ w) [p:OwnS s Γ (SlC E esz s vs) Δ]:RdC w s esz vs∧vs.length = s.n * esz∧s.n ≤ s.c∧(∀ a,s.a = some a→a.spot = none)∧(s.a = none→s.c = 0):=by
 have h1:=h.perm p.perm
 exact ⟨h1.rdC List.mem_cons_self,h1.slCap⟩
theorem zGO {s:Sl} {E esz:Nat} {vs:List Value} (h:Holds B Γ w) (p:OwnS s Γ (SlC E esz s vs) Δ):vs.length = s.n * esz∧s.n ≤ s.c∧(∀ a,s.a = some a→a.spot = none)∧(s.a = none→s.c = 0):=(own_rd h (p:=p)).2
theorem s_cap (s:Sl) {E esz:Nat} {vs:List Value} [p:OwnS s Γ (SlC E esz s vs) Δ] (h:vs.length = s.n * esz→s.n ≤ s.c→(∀ a,s.a = some a→a.spot = none)→(s.a = none→s.c = 0)→HG B Γ k):HG B Γ k:=fun w hw=>by
 obtain ⟨h1,h2,h3,h4⟩:=zGO hw p
 exact h h1 h2 h3 h4 w hw
theorem s_idx {s:Sl} {i:Nat} {ii:Int} {esz:Nat} {E:Nat} {vs:List Value} {k:Addr→K} (h:HG B Γ (k (elA s i esz))) [p:OwnS s Γ (SlC E esz s vs) Δ] (hi:ii = (i:Int):=by first | rfl | omega) (hn:i < s.n:=by omega):HG B Γ (Idx s ii esz k):=fun w hw=>by
 obtain ⟨h1,h2,h3,h4⟩:=zGO hw p
 subst hi
 cases ha:s.a with
 | none=>have:=h4 ha; omega
 | some a=>exact ⟨a,elA s i esz,ha,by omega,by omega,by simp [elA,ha],h w hw⟩
theorem zLd {s:Sl} {i off esz:Nat} {vs:List Value} {v:Value} (h:RdC w s esz vs) (hsp:∀ a,s.a = some a→a.spot = none) (hv:vs[i * esz + off]? = some v):w.cell? ((elA s i esz).add off) = some v:=by
 have hlt:=(List.getElem?_eq_some_iff.1 hv).1
 cases ha:s.a with
 | none=>have:=h.nil ha; have:=h.len; simp_all
 | some a =>
  have h1:=h.at' a ha _ hlt
  simp only [elA,ha,Option.getD_some]
  rw [add_add' _ (hsp a ha),h1,hv]
theorem s_ldE {α:Type} {s:Sl} {i off esz E:Nat} {vs:List Value} {c:α→Value} {x:α} {k:α→K} (hv:vs[i * esz + off]? = some (c x)) (h:HG B Γ (k x)) [p:OwnS s Γ (SlC E esz s vs) Δ]:HG B Γ (Ld ((elA s i esz).add off) c k):=fun w hw=>by
 obtain ⟨h0,h1,h2,h3,h4⟩:=own_rd hw (p:=p)
 exact ⟨x,zLd h0 h3 hv,h w hw⟩
theorem add0 (a:Addr):a.add 0 = a:=by simp [Addr.add]
theorem s_ldE0 {α:Type} {s:Sl} {i esz E:Nat} {vs:List Value} {c:α→Value} {x:α} {k:α→K} (hv:vs[i * esz]? = some (c x)) (h:HG B Γ (k x)) [p:OwnS s Γ (SlC E esz s vs) Δ]:HG B Γ (Ld (elA s i esz) c k):=by
 rw [← add0 (elA s i esz)]; exact s_ldE (by simpa using hv) h
theorem s_ldEN {s:Sl} {i off n esz E:Nat} {vs:List Value} {l':List Value} {k:Array Value→K} (hv:(vs.drop (i * esz + off)).take n = l') (hn:l'.length = n) (h:HG B Γ (k l'.toArray)) [p:OwnS s Γ (SlC E esz s vs) Δ]:HG B Γ (LdN ((elA s i esz).add off) n k):=fun w hw=>by
 obtain ⟨h0,h1,h2,h3,h4⟩:=own_rd hw (p:=p)
 refine ⟨l'.toArray,by simpa using hn,fun j hj=>?_,h w hw⟩
 have hj':j < l'.length:=by simpa using hj
 have hx:vs[i * esz + (off + j)]? = some l'[j]:=by
  have:l'[j]? = vs[i * esz + off + j]?:=by rw [← hv,List.getElem?_take,if_pos (by omega),List.getElem?_drop]
  rw [← Nat.add_assoc,← this,List.getElem?_eq_getElem hj']
 have h5:=zLd h0 h3 hx
 have h6:((elA s i esz).add off).add j = (elA s i esz).add (off + j):=by
  cases ha:s.a with
  | none=>have:=h0.nil ha; have h7:=(List.getElem?_eq_some_iff.1 hx).1; simp_all
  | some a =>
   simp only [elA,ha,Option.getD_some]
   have hsp:(a.add (i * esz)).spot = none:=by obtain ⟨b,o,t⟩:=a; have:=h3 _ ha; simp only at this; subst this; rw [add_mk]
   rw [add_add' _ hsp]
 rw [h6,h5]; simp [hj']
end
end Go.Sep
namespace Go.Sep
open Go Go.RowKit
def appT (P:Program) (T U E esz:Nat):Bool:=sliceT P T E esz && isSlT P U && match P.info? E with
 | some i=>Nat.ble i.bytes 1000 && !Nat.beq i.bytes 0 && match i.zero with
  | some z=>Nat.beq z.cells.size esz && z.cells.toList.all flatV
  | none=>false
 | none=>false
theorem zEW {P:Program} {T U E esz:Nat} (h:appT P T U E esz = true):sliceT P T E esz = true∧isSlT P U = true∧∃ n zv,bytesT P E n = true∧n ≤ 1000∧n ≠ 0∧zeroT P E zv∧zv.cells.size = esz∧∀ v ∈ zv.cells.toList,flatV v = true:=by
 unfold appT at h
 simp only [Bool.and_eq_true] at h
 obtain ⟨⟨h1,h2⟩,h3⟩:=h
 refine ⟨h1,h2,?_⟩
 split at h3
 ·rename_i i hi
  simp only [Bool.and_eq_true,Bool.not_eq_true'] at h3
  obtain ⟨⟨h4,h5⟩,h6⟩:=h3
  split at h6
  ·rename_i z hz
   simp only [Bool.and_eq_true] at h6
   refine ⟨i.bytes,z,by unfold bytesT; rw [hi]; simp,Nat.le_of_ble_eq_true h4,(fun e=>by rw [e] at h5; cases h5),⟨i,hi,hz⟩,Nat.eq_of_beq_eq_true h6.1,List.all_eq_true.1 h6.2⟩
  ·cases h6
 ·cases h3
def apZT (P:Program) (T U E esz:Nat):Bool:=appT P T T E esz && match P.underlying U with
 | some (.int _)=>true
 | _=>false
section
variable {P:Program} {B w:World} {Γ Δ:List HProp} {E esz:Nat} {s x:Sl} {vs us:List Value}
theorem zBJ {T U Tr:Nat} {k:Sl→K} (hx:∀ w,Holds B Γ w→RdC w x esz us) (hfl:∀ u ∈ us,flatV u = true) (hroom:s.n + x.n ≤ 100000000) (h:∀ s',s'.n = s.n + x.n→HG B (SlC E esz s' (vs++us)::Δ) (k s')) [p:OwnS s Γ (SlC E esz s vs) Δ] (hT:appT P T U E esz = true:=by kernel_rfl) :
  HG B Γ (Do P (Builtin.append_ #[T,U] Tr #[s.val,x.val]) Sl.val k):=fun w hw=>by
 obtain ⟨h1,h2,n,zv,h3,h4,h5,h6,h7,_⟩:=zEW hT
 refine zHo (hw.perm p.perm) h1 h2 h3 h6 h7 (hx w hw) hfl ?_ h5 fun s' w' h' hn _=>h s' hn w' h'
 have h8:(2 * (s.n + x.n) + 800) * n ≤ 200000800 * 1000:=Nat.mul_le_mul (by omega) h4
 omega
theorem s_app1 {T U Tr m:Nat} {us:List Value} {k:Sl→K} (h:∀ s',s'.n = s.n + m→HG B (SlC E esz s' (vs++us)::Δ) (k s')) [p:OwnS s Γ (SlC E esz s vs) Δ] (hn:s.n + m ≤ 100000000:=by omega) (hl:us.length = m * esz:=by rfl) (hfl:us.all flatV = true:=by rfl) (hT:appT P T U E esz = true:=by kernel_rfl) :
  HG B Γ (New E us.toArray fun t=>Do P (Builtin.append_ #[T,U] Tr #[s.val,Sl.val (Sl.mk (some t) m m)]) Sl.val k):=s_new fun b=>by
 refine zBJ (us:=us) (fun w hw=>RdC.of_blk hw List.mem_cons_self (by simp) hl m) (zHp hfl) (by simp only; omega) (hT:=hT) fun s' hs'=>?_
 exact s_end (Δ:=SlC E esz s' (vs++us)::Δ) (h s' hs')
theorem zNc {a:Option Addr} {n c m:Nat} (hm:n + m ≤ c) {g:Hp} (h:SlC E esz ⟨a,n,c⟩ vs g):∃ js:List Value,js.length = m * esz∧SlC E esz ⟨a,n + m,c⟩ (vs++js) g:=by
 obtain ⟨hl,hc,hs⟩:=h
 simp only at hl hc hs
 cases a with
 | none =>
  simp only at hs
  have h0:n = 0∧m = 0:=by omega
  obtain ⟨rfl,rfl⟩:=h0
  exact ⟨[],by simp,by simpa using hl,by simp only; omega,hs⟩
 | some a =>
  obtain ⟨hsp,cs,fz,hb,hf,hsz,hv⟩:=hs
  have hmul:n * esz + m * esz ≤ c * esz:=by rw [← Nat.add_mul]; exact Nat.mul_le_mul_right _ hm
  refine ⟨(cs.toList.drop (a.off + vs.length)).take (m * esz),?_,?_,hm,hsp,cs,fz,hb,hf,hsz,fun i hi=>?_⟩
  ·simp only [List.length_take,List.length_drop,Array.length_toList]; omega
  ·simp only [List.length_append,List.length_take,List.length_drop,Array.length_toList,Nat.add_mul]; omega
  ·rw [List.getElem?_append]
   split
   ·rename_i h1; exact hv i h1
   ·rename_i h1
    simp only [List.length_append,List.length_take,List.length_drop,Array.length_toList] at hi
    rw [List.getElem?_take,if_pos (by omega),List.getElem?_drop,show a.off + vs.length + (i - vs.length) = a.off + i by omega]
    simp
def layAt (vs:List Value) (p:Nat) (us:List Value):List Value:=vs.take p++us++vs.drop (p + us.length)
theorem zMO {p:Nat} (h:p + us.length ≤ vs.length):(layAt vs p us).length = vs.length:=by
 simp only [layAt,List.length_append,List.length_take,List.length_drop]; omega
theorem zMP {a:Addr} {p:Nat} (h:Holds B (SlC E esz s vs::Γ) w) (ha:s.a = some a) (hp:p + us.length ≤ vs.length) (hfl:∀ u ∈ us,flatV u = true) :
  ∃ w',setCells (a.add p) us 0 w = w'∧(∀ P:Program,(storeCells (a.add p) us).run P w = .ok () w')∧Holds B (SlC E esz s (layAt vs p us)::Γ) w'∧(∀ i,i < us.length→(∃ u,w.cell? ((a.add p).add i) = some u)∧w.frozen? ((a.add p).add i) = false):=by
 obtain ⟨cs,fz,h2,hsp,hf,hsz,hr,hl,hc⟩:=slOpen h ha
 obtain ⟨b,off,sp⟩:=a
 simp only at hsp h2 hf hsz hr; subst hsp
 have hb:=h2.block
 have hmul:vs.length ≤ s.c * esz:=by rw [hl]; exact Nat.mul_le_mul_right _ hc
 have hcell:∀ i,i < us.length→(∃ u,w.cell? (((⟨b,off,none⟩:Addr).add p).add i) = some u)∧w.frozen? (((⟨b,off,none⟩:Addr).add p).add i) = false:=fun i hi=>by
  rw [add_mk,add_mk]
  have hlt:off + p + i < cs.size:=by omega
  exact ⟨⟨_,zBr hb (Array.getElem?_eq_getElem hlt)⟩,zDb hb (hf _ (by omega) (by omega))⟩
 refine ⟨_,rfl,fun P=>zEA us 0 w hfl fun j hj=>by simpa using hcell j hj,?_,hcell⟩
 rw [add_mk,zDq _ _ _ _ _ hb]
 have h3:=h2.setBlock (o':=.cells ((us.zipIdx (off + p + 0)).foldl (fun c q=>c.setIfInBounds q.2 q.1) cs) E fz) rfl
 refine slShut ha h3 ⟨rfl,hf,by rw [fold_size]; exact hsz,fun i hi=>?_,by rw [zMO hp]; exact hl,hc⟩
 rw [zMO hp] at hi
 simp only [Nat.add_zero]
 unfold layAt
 rw [List.append_assoc,List.getElem?_append]
 split
 ·rename_i h1
  simp only [List.length_take] at h1
  rw [zEV _ _ _ _ (by omega),hr i hi,List.getElem?_take,if_pos (by omega)]
 ·rename_i h1
  simp only [List.length_take] at h1 ⊢
  rw [show min p vs.length = p by omega] at h1 ⊢
  rw [List.getElem?_append]
  split
  ·rename_i h4
   rw [show off + i = off + p + (i - p) by omega,zJL _ _ _ _ h4 (by omega)]
  ·rename_i h4
   rw [zEV _ _ _ _ (by omega),hr i hi,List.getElem?_drop,show p + us.length + (i - p - us.length) = i by omega]
theorem s_stEN {i off n:Nat} {us:List Value} {k:K} (h:HG B (SlC E esz s (layAt vs (i * esz + off) us)::Δ) k) [p:OwnS s Γ (SlC E esz s vs) Δ] (hn:us.length = n:=by rfl) (hp:i * esz + off + n ≤ vs.length:=by omega) (hfl:us.all flatV = true:=by rfl):HG B Γ (StN ((elA s i esz).add off) n us.toArray k):=fun w hw=>by
 have h1:=hw.perm p.perm
 obtain ⟨h2,h3,h4,h5⟩:=zGO hw p
 cases ha:s.a with
 | none =>
  have h6:=h5 ha
  have h7:vs.length = 0:=by rw [h2,show s.n = 0 by omega]; simp
  subst hn
  have h8:us = []:=List.length_eq_zero_iff.1 (by omega)
  subst h8
  refine ⟨w,rfl,by simp,fun i hi=>by simp at hi,by simp,?_⟩
  have e:layAt vs (i * esz + off) [] = vs:=by simp [layAt]
  rw [e] at h
  exact h w h1
 | some a =>
  subst hn
  have e:(elA s i esz).add off = a.add (i * esz + off):=by simp only [elA,ha,Option.getD_some]; rw [add_add' _ (h4 a ha)]
  obtain ⟨w',e1,_,h6,h7⟩:=zMP h1 ha hp (zHp hfl)
  rw [e]
  exact ⟨w',by simpa using e1.symm,by simp,by simpa using h7,by simpa using zHp hfl,h w' h6⟩
theorem s_stE {i off:Nat} {v:Value} {k:K} (h:HG B (SlC E esz s (vs.set (i * esz + off) v)::Δ) k) [p:OwnS s Γ (SlC E esz s vs) Δ] (hp:i * esz + off < vs.length:=by omega) (hv:flatV v = true:=by rfl):HG B Γ (St ((elA s i esz).add off) v k):=fun w hw=>by
 have h1:=hw.perm p.perm
 obtain ⟨h2,h3,h4,h5⟩:=zGO hw p
 cases ha:s.a with
 | none=>have h6:=h5 ha; rw [show s.n = 0 by omega] at h2; omega
 | some a =>
  have e:(elA s i esz).add off = a.add (i * esz + off):=by simp only [elA,ha,Option.getD_some]; rw [add_add' _ (h4 a ha)]
  rw [e]
  exact r_stSl h1 ha hp hv fun w' h'=>h w' h'
theorem s_copy {T U t l:Nat} {d:Sl} {us:List Value} {k:Int→K} (hx:∀ w,Holds B Γ w→RdC w x esz us) (hfl:∀ u ∈ us.take ((s.n - l) * esz),flatV u = true) (hd:d = ⟨cutA s.a l s.c esz,s.n - l,s.c - l⟩) (hl:l ≤ s.n)
  (h:HG B (SlC E esz s (layAt vs (l * esz) (us.take ((s.n - l) * esz)))::Δ) (k (min x.n (s.n - l):Nat))) [p:OwnS s Γ (SlC E esz s vs) Δ] (hT:appT P T U E esz = true:=by kernel_rfl) :
  HG B Γ (Do P (Builtin.copy_ #[T,U] t #[d.val,x.val]) (Value.int .i64) k):=fun w hw=>by
 have hda:d.a = cutA s.a l s.c esz:=by rw [hd]
 have hdn:d.n = s.n - l:=by rw [hd]
 clear hd
 obtain ⟨hs1,_,_⟩:=zEW hT
 obtain ⟨hsl,hsz⟩:=zCv hs1
 have h1:=hw.perm p.perm
 obtain ⟨h2,h3,h4,h5⟩:=zGO hw p
 have hr:=hx w hw
 have hul:=hr.len
 have hr2:RdC w ⟨x.a,min x.n (s.n - l),x.c⟩ esz (us.take (min x.n (s.n - l) * esz)):=hr.take (Nat.min_le_left _ _)
 have hfc:=zEB (P:=P) hr2
 have hval:∀ m,Builtin.firstCells esz m (Sl.val ⟨x.a,min x.n (s.n - l),x.c⟩) = Builtin.firstCells esz m x.val:=fun m=>by
  obtain ⟨xa,xn,xc⟩:=x; cases xa <;> rfl
 rw [hval] at hfc
 have e0:us.take (min x.n (s.n - l) * esz) = us.take ((s.n - l) * esz):=by
  rcases Nat.le_total x.n (s.n - l) with h6 | h6
  ·rw [Nat.min_eq_left h6,← hul,List.take_length,List.take_of_length_le (by rw [hul]; exact Nat.mul_le_mul_right _ h6)]
  ·rw [Nat.min_eq_right h6]
 rw [e0] at hfc
 have hlen:(us.take ((s.n - l) * esz)).length ≤ (s.n - l) * esz:=by rw [List.length_take]; omega
 have hmul:l * esz + (s.n - l) * esz = vs.length:=by rw [← Nat.add_mul,h2]; congr 1; omega
 have hg0:(#[T,U]:Array TypeId)[0]? = some T:=rfl
 have hv0:(#[d.val,x.val]:Array Value)[0]? = some d.val:=rfl
 have hv1:(#[d.val,x.val]:Array Value)[1]? = some x.val:=rfl
 have hlo:(Builtin.lenOf x.val).run P w = .ok x.n w:=by simp [Builtin.lenOf,Sl.val]
 cases ha:s.a with
 | none =>
  have h6:=h5 ha
  have h7:s.n = 0:=by omega
  have h8:us.take ((s.n - l) * esz) = []:=by rw [h7]; simp
  refine ⟨((min x.n (s.n - l):Nat):Int),w,?_,?_⟩
  rotate_left
  ·rw [h8] at h
   have e:layAt vs (l * esz) [] = vs:=by simp [layAt]
   rw [e] at h
   exact h w h1
  ·unfold Builtin.copy_
   simp only [hg0,hv0,hv1]
   simp only [Sem.run_bind,run_underlying hsl,Result.andThen,Sl.val,zCK hsz]
   simp only [Sl.val] at hlo hfc
   simp only [hlo,Sem.run_bind,Result.andThen,hdn]
   rw [show Nat.min x.n (s.n - l) = min x.n (s.n - l) from rfl,hfc]
   rw [hda]
   simp [cutA,h8,goInt,storeCells]
   split <;> simp
 | some a =>
  have hsp:=h4 a ha
  obtain ⟨w',_,hst',h6,_⟩:=zMP (p:=l * esz) (us:=us.take ((s.n - l) * esz)) h1 ha (by omega) hfl
  have hst:=hst' P
  refine ⟨((min x.n (s.n - l):Nat):Int),w',?_,h w' h6⟩
  unfold Builtin.copy_
  simp only [hg0,hv0,hv1]
  simp only [Sem.run_bind,run_underlying hsl,Result.andThen,Sl.val,zCK hsz]
  simp only [Sl.val] at hlo hfc
  simp only [hlo,Sem.run_bind,Result.andThen,hdn]
  rw [show Nat.min x.n (s.n - l) = min x.n (s.n - l) from rfl,hfc]
  rw [hda,ha]
  by_cases hcl:s.c = l
  ·have h7:s.n - l = 0:=by omega
   have h8:us.take ((s.n - l) * esz) = []:=by rw [h7]; simp
   rw [h8] at hst
   have hw':w' = w:=by simpa [storeCells] using hst.symm
   simp [cutA,hcl,h8,goInt,storeCells,hw']
  ·simp [cutA,hcl,hst,goInt]
theorem zEj {T U Tr:Nat} {us:List Value} {k:Sl→K} (hx:∀ w,Holds B Γ w→RdC w x esz us) (hfl:∀ u ∈ us,flatV u = true) (hroom:x.n ≤ 100000000) (h:∀ s',s'.n = x.n→HG B (SlC E esz s' us::Γ) (k s')) (hT:appT P T U E esz = true:=by kernel_rfl) :
  HG B Γ (New E #[] fun t=>Do P (Builtin.append_ #[T,U] Tr #[Sl.val (Sl.mk (some t) 0 0),x.val]) Sl.val k):=s_new fun b=>by
 refine s_conv (A':=SlC E esz ⟨some ⟨b,0,none⟩,0,0⟩ []) (zDk (vs:=[]) rfl (by simp)) ?_
 refine zBJ (us:=us) (fun w hw=>hx w hw.tail) hfl (by simp only; omega) (hT:=hT) fun s' hs'=>?_
 have:=h s' (by simpa using hs')
 simpa using this
theorem s_appZ {T U Tr:Nat} {m:Int} {k:Sl→K} (hm:0 ≤ m) (hgrow:(s.c:Int) < s.n + m) (hroom:(s.n:Int) + m ≤ 100000000) (h:∀ s' zs,s'.n = s.n + m.toNat→zs.length = m.toNat * esz→(∀ v ∈ zs,flatV v = true)→HG B (SlC E esz s' (vs++zs)::Γ) (k s')) (hr:∀ w,Holds B Γ w→RdC w s esz vs) (hsp:s.n ≤ s.c) (hT:apZT P T U E esz = true:=by kernel_rfl) :
  HG B Γ (Do P (Builtin.append_ #[T,U] Tr #[s.val,.int .i64 m]) Sl.val k):=fun w hw=>by
 unfold apZT at hT
 simp only [Bool.and_eq_true] at hT
 obtain ⟨hT,hU⟩:=hT
 obtain ⟨hs1,_,by',zv,hby,hle,hne,hz,hzs,hzf⟩:=zEW hT
 obtain ⟨hsl,hsz⟩:=zCv hs1
 obtain ⟨ib,hib,hbytes⟩:=zJ6 hby
 obtain ⟨n,rfl⟩:∃ n:Nat,m = n:=⟨m.toNat,by omega⟩
 simp only [Int.toNat_natCast] at h
 obtain ⟨kd,hU'⟩:∃ kd,P.underlying U = some (.int kd):=by
  split at hU
  ·rename_i kd hk; exact ⟨kd,hk⟩
  ·cases hU
 have hti:(typeInfo E).run P w = .ok ib w:=by simp [typeInfo,program,hib,Sem.run]
 have hget:(#[T,U]:Array TypeId)[0]? = some T:=rfl
 have hget1:(#[T,U]:Array TypeId)[1]? = some U:=rfl
 have hv0:(#[s.val,Value.int .i64 (n:Int)]:Array Value)[0]? = some s.val:=rfl
 have hv1:(#[s.val,Value.int .i64 (n:Int)]:Array Value)[1]? = some (Value.int .i64 (n:Int)):=rfl
 have hwr:IntKind.wrap .i64 (n:Int) = n:=wrap64 (by omega) (by omega)
 have hl0:¬ ((n:Int) < 0):=by omega
 have hbig2:¬ ((n:Int) * (ib.bytes:Int) > 2 ^ 48):=by
  rw [hbytes]
  have h1:n * by' ≤ 100000000 * 1000:=Nat.mul_le_mul (by omega) hle
  have h2:((n * by':Nat):Int) ≤ 100000000 * 1000:=by omega
  rw [Int.natCast_mul] at h2
  omega
 have hcap:=zKy (show s.c < s.n + n by omega)
 have hcap2:¬ (Builtin.nextslicecap (s.n + n) s.c * ib.bytes > 2 ^ 48):=by
  rw [hbytes]
  have h1:=Nat.mul_le_mul hcap hle
  have h2:(2 * (s.n + n) + 800) * 1000 ≤ 200000800 * 1000:=Nat.mul_le_mul_right _ (by omega)
  omega
 have hi64:¬ ((s.n + n:Nat):Int) > IntKind.i64.max:=by simp [IntKind.max,IntKind.signed,IntKind.bits]; omega
 have hn:¬ (s.n + n ≤ s.c):=by omega
 have hio:(asIntOf (Value.int .i64 (n:Int))).run P w = .ok (.i64,(n:Int)) w:=by simp [asIntOf]
 show ∃ x w',(Builtin.append_ #[T,U] Tr #[s.val,.int .i64 n]).run P w = .ok (Sl.val x) w'∧k x w'
 unfold Builtin.append_
 simp only [hget,hget1,hv0,hv1]
 simp only [Sem.run_bind,run_underlying hsl,Result.andThen,Sl.val,zCK hsz,run_underlying hU',Sem.run_pure,if_true,asInt,hio,hwr,hl0,if_false,hti,hbig2,Int.toNat_natCast]
 simp only [hn,if_false]
 simp only [Sem.run_bind,hti,Result.andThen]
 rw [if_neg (by rintro ⟨h1,_⟩; exact hi64 h1)]
 simp only [Sem.run_bind,hti,Result.andThen,Sem.run_pure]
 rw [if_neg hcap2]
 obtain ⟨newCap,w1,hch,hle1,hw1⟩:∃ nc w1,(choose (.appendCap (s.n + n) s.c E)).run P w = .ok nc w1∧s.n + n ≤ nc∧w1 = { w with drawn:=w.drawn + 1 }:=by
  refine ⟨(Question.appendCap (s.n + n) s.c E).cut (w.tape w.drawn (.appendCap (s.n + n) s.c E)),_,by simp [choose,Sem.run,Question.forced],?_,rfl⟩
  simp only [Question.cut]; omega
 have hw':Holds B Γ w1:=by rw [hw1]; exact hw.drew _
 have hrs1:=hr w1 hw'
 have hti1:(typeInfo E).run P w1 = .ok ib w1:=by simp [typeInfo,program,hib,Sem.run]
 have hf1:=zEB (P:=P) hrs1
 simp only [Sl.val] at hf1
 obtain ⟨zs,hzl,hzfl,hap⟩:∃ zs:List Value,zs.length = n * esz∧(∀ v ∈ zs,flatV v = true)∧(if n * esz = 0 then (pure #[]:Sem (Array Value)) else do pure (Builtin.zeroCells (← zeroValue E).cells n)).run P w1 = .ok zs.toArray w1:=by
  by_cases h0:n * esz = 0
  ·exact ⟨[],by simp [h0],by simp,by simp [h0]⟩
  ·refine ⟨(Builtin.zeroCells zv.cells n).toList,by simp [Builtin.zeroCells,hzs],zHG _ _ hzf,?_⟩
   rw [if_neg h0]
   simp [zDB hz]
 simp only [hch,hti1,run_askRoom,hf1,zDB hz,Sem.run_bind,Result.andThen,Sem.run_pure,newRow,newObj,Sem.run,Bool.not_true,Bool.false_eq_true,if_false] at hap ⊢
 simp only [hap]
 refine ⟨⟨some ⟨w1.heap.size,0,none⟩,s.n + n,newCap⟩,_,rfl,h _ zs rfl (by simpa using hzl) hzfl _ ?_⟩
 have h2:=hw'.alloc (.cells (vs.toArray++zs.toArray++Builtin.zeroCells zv.cells (newCap - (s.n + n))) E)
 have hvl:=hrs1.len
 refine h2.imp fun g hg=>⟨?_,hle1,rfl,_,(0,0),hg,?_,?_,?_⟩
 ·simp [hvl,hzl,Nat.add_mul]
 ·intro i _ _; simp
 ·simp only [Nat.zero_add,Array.size_append,List.size_toArray,hvl,hzl,Builtin.zeroCells,Array.size_map,Array.size_range,hzs]
  rw [← Nat.add_mul,← Nat.add_mul]
  exact Nat.mul_le_mul_right _ (by omega)
 ·intro i hi
  simp only [Nat.zero_add]
  rw [Array.getElem?_append_left (by simpa using hi)]
  simp [List.getElem?_append,Array.getElem?_append]
theorem s_slc {lo hi mx:Nat} {l h' m:Int} {ks:Sl→K} (h:HG B Γ (ks ⟨cutA s.a lo mx esz,hi - lo,mx - lo⟩)) (hl:l = (lo:Int):=by first | rfl | omega) (hh:h' = (hi:Int):=by first | rfl | omega) (hm:m = (mx:Int):=by first | rfl | omega) (h1:lo ≤ hi:=by omega) (h2:hi ≤ mx:=by omega) (h3:mx ≤ s.c:=by omega) :
  HG B Γ (Slc s l h' m esz ks):=fun w hw=>by
 subst hl; subst hh; subst hm
 exact ⟨_,by omega,by omega,by omega,by omega,by simp,h w hw⟩
theorem zD6 {k:K} {m c':Nat} (hm:m ≤ s.n) (hc:m ≤ c') (hc':c' ≤ s.c) (h:HG B (SlC E esz ⟨s.a,m,c'⟩ (vs.take (m * esz))::Δ) k) [p:OwnS s Γ (SlC E esz s vs) Δ]:HG B Γ k:=fun w hw=>h w ((hw.perm p.perm).imp fun g hg=>by
 obtain ⟨hl,_,hs⟩:=SlC.take hm g hg
 refine ⟨hl,hc,?_⟩
 cases ha:s.a with
 | none=>rw [ha] at hs; simp only at hs ⊢; omega
 | some a =>
  rw [ha] at hs
  obtain ⟨hsp,cs,fz,hb,hf,hsz,hv⟩:=hs
  have:c' * esz ≤ s.c * esz:=Nat.mul_le_mul_right _ hc'
  exact ⟨hsp,cs,fz,hb,fun i h1 h2=>hf i h1 (by simp only at h2 ⊢; omega),by simp only at hsz ⊢; omega,hv⟩)
theorem s_ext {k:K} {m:Nat} (hm:s.n + m ≤ s.c) (h:∀ js:List Value,js.length = m * esz→HG B (SlC E esz ⟨s.a,s.n + m,s.c⟩ (vs++js)::Δ) k) [p:OwnS s Γ (SlC E esz s vs) Δ]:HG B Γ k:=fun w hw=>by
 have h1:=hw.perm p.perm
 have h2:Holds B ((ex fun js:List Value=>fun g=>js.length = m * esz∧SlC E esz ⟨s.a,s.n + m,s.c⟩ (vs++js) g)::Δ) w:=h1.imp fun g hg=>zNc hm hg
 obtain ⟨js,h3⟩:=Holds.ex.1 h2
 exact h js (h3.fact fun g hg=>hg.1) w (h3.imp fun g hg=>hg.2)
theorem zHI {T t l q m:Nat} {d:Sl} {k:Value→K} (hd:d = ⟨cutA s.a l m esz,q,m - l⟩) (hl:s.n ≤ l) (hq:l + q ≤ s.c) (hm:q = 0∨m ≠ l) (h:HG B (SlC E esz s vs::Δ) (k (.tuple #[]))) [p:OwnS s Γ (SlC E esz s vs) Δ] (hT:appT P T T E esz = true:=by kernel_rfl) :
  HG B Γ (Do P (Builtin.clear_ #[T] t #[d.val]) id k):=fun w hw=>by
 obtain ⟨h1,_,_,zv,_,_,_,h6,h7,h8⟩:=zEW hT
 exact zS8 (hw.perm p.perm) h1 h6 h7 h8 hl hq hm hd fun w' h'=>h w' h'
theorem zRt {n m esz:Nat} (h:vs.length = n * esz) (hm:m ≤ n):(vs.take (m * esz)).length = m * esz:=by
 have:=Nat.mul_le_mul_right esz hm
 rw [List.length_take]; omega
theorem zLe {T t:Nat} {k:Int→K} (hT:appT P T T E esz = true) (h:HG B Γ (k (s.c:Int))):HG B Γ (Do P (Builtin.cap_ #[T] t #[s.val]) (Value.int .i64) k):=fun w hw=>by
 obtain ⟨h1,_⟩:=zEW hT
 obtain ⟨hsl,_⟩:=zCv h1
 refine ⟨s.c,w,?_,h w hw⟩
 unfold Builtin.cap_
 have hget:(#[T]:Array TypeId)[0]? = some T:=rfl
 have hv0:(#[s.val]:Array Value)[0]? = some s.val:=rfl
 simp only [hget,hv0]
 simp only [Sem.run_bind,run_underlying hsl,Result.andThen,Sl.val]
 rfl
end
end Go.Sep
namespace Go.Sep
open Go Go.RowKit
def insK (P:Program) (T J R esz:Nat) (rot:Sl→Int→K→K) (s0:Sl) (i1:Int) (v2:Sl) (Q:Sl→K):K :=
 Slc s0 i1 (s0.n:Int) (s0.c:Int) esz fun _ =>
 Ite (decide ((v2.n:Int) = 0))
  (Q s0)
  (Ite (decide (i1 = (s0.n:Int)))
   (Do P (Builtin.append_ #[T,T] T #[(Sl.val s0),(Sl.val v2)]) Sl.val fun t25 =>
   Q t25)
   (Ar (IntKind.wrap .i64 ((s0.n:Int) + (v2.n:Int))) fun t28 =>
   Do P (Builtin.cap_ #[T] J #[(Sl.val s0)]) (Value.int .i64) fun t30 =>
   Ite (decide (t30 < t28))
    (Slc s0 0 i1 (s0.c:Int) esz fun t34 =>
    Ar (IntKind.wrap .i64 ((s0.n:Int) + (v2.n:Int))) fun t37 =>
    Ar (IntKind.wrap .i64 (t37 - i1)) fun t39 =>
    Do P (Builtin.append_ #[T,J] T #[(Sl.val t34),(.int .i64 t39)]) Sl.val fun t40 =>
    Slc t40 i1 (t40.n:Int) (t40.c:Int) esz fun t43 =>
    Do P (Builtin.copy_ #[T,T] J #[(Sl.val t43),(Sl.val v2)]) (Value.int .i64) fun t45 =>
    Dr <|
    Ar (IntKind.wrap .i64 (i1 + (v2.n:Int))) fun t49 =>
    Slc t40 t49 (t40.n:Int) (t40.c:Int) esz fun t50 =>
    Slc s0 i1 (s0.n:Int) (s0.c:Int) esz fun t53 =>
    Do P (Builtin.copy_ #[T,T] J #[(Sl.val t50),(Sl.val t53)]) (Value.int .i64) fun t54 =>
    Q t40)
    (Ar (IntKind.wrap .i64 ((s0.n:Int) + (v2.n:Int))) fun t59 =>
    Slc s0 0 t59 (s0.c:Int) esz fun t60 =>
    Ar (IntKind.wrap .i64 (i1 + (v2.n:Int))) fun t65 =>
    Slc t60 t65 (t60.n:Int) (t60.c:Int) esz fun t66 =>
    Rd P (Extern.SlicesOverlaps.overlaps #[T,T] #[R] [(Sl.val v2),(Sl.val t66)].toArray) Value.bool fun t67 =>
    Ite (!t67)
     (Dr <|
     Ar (IntKind.wrap .i64 (i1 + (v2.n:Int))) fun t72 =>
     Slc t60 t72 (t60.n:Int) (t60.c:Int) esz fun t73 =>
     Slc t60 i1 (t60.n:Int) (t60.c:Int) esz fun t76 =>
     Do P (Builtin.copy_ #[T,T] J #[(Sl.val t73),(Sl.val t76)]) (Value.int .i64) fun t77 =>
     Slc t60 i1 (t60.n:Int) (t60.c:Int) esz fun t80 =>
     Do P (Builtin.copy_ #[T,T] J #[(Sl.val t80),(Sl.val v2)]) (Value.int .i64) fun t82 =>
     Q t60)
     (Slc t60 (s0.n:Int) (t60.n:Int) (t60.c:Int) esz fun t86 =>
     Do P (Builtin.copy_ #[T,T] J #[(Sl.val t86),(Sl.val v2)]) (Value.int .i64) fun t88 =>
     Slc t60 i1 (t60.n:Int) (t60.c:Int) esz fun t91 =>
     rot t91 (v2.n:Int) <|
     Q t60))))
def delK (P:Program) (T Z esz:Nat) (s0:Sl) (i1 j2:Int) (Q:Sl→K):K :=
 Slc s0 i1 j2 (s0.n:Int) esz fun _ =>
 Ite (decide (i1 = j2))
  (Q s0)
  (Dr <|
  Slc s0 0 i1 (s0.c:Int) esz fun t22 =>
  Slc s0 j2 (s0.n:Int) (s0.c:Int) esz fun t25 =>
  Do P (Builtin.append_ #[T,T] T #[(Sl.val t22),(Sl.val t25)]) Sl.val fun t26 =>
  Slc t26 (t26.n:Int) (s0.n:Int) (t26.c:Int) esz fun t31 =>
  Do P (Builtin.clear_ #[T] Z #[(Sl.val t31)]) id fun _ =>
  Q t26)
def cloneK (P:Program) (E T:Nat) (s0:Sl) (Q:Sl→K):K :=
 Ite ((s0).a.isNone)
  (Q (Sl.mk none 0 0))
  (New E #[] fun t5 =>
  Do P (Builtin.append_ #[T,T] T #[(Sl.val (Sl.mk (some t5) 0 0)),(Sl.val s0)]) Sl.val fun t7 =>
  Q t7)
theorem zEX {A X C us:List Value} {p:Nat} (hp:p = A.length) (h:X.length = us.length):layAt (A++(X++C)) p us = A++(us++C):=by
 subst hp
 simp only [layAt,List.take_left,List.append_assoc,List.append_cancel_left_eq]
 rw [← h,List.drop_append,List.drop_eq_nil_of_le (by omega),List.nil_append,show A.length + X.length - A.length = X.length by omega,List.drop_left]
section
variable {P:Program} {B w:World} {Γ Δ Δ2:List HProp} {E esz:Nat} {s x:Sl} {vs us:List Value}
theorem s_ovl {T R t l:Nat} {d:Sl} {cs:List Value} {k:Bool→K} (hd:d = ⟨cutA s.a l s.c esz,s.n - l,s.c - l⟩) (h:HG B Γ (k false)) [p:OwnS s Γ (SlC E esz s vs) Δ] [q:Own t Δ (blk t (.cells cs.toArray E (0,0))) Δ2] (hc:0 < s.c) (he:0 < esz) (hT:appT P T T E esz = true) :
  HG B Γ (Rd P (Extern.SlicesOverlaps.overlaps #[T,T] #[R] [(Sl.val ⟨some ⟨t,0,none⟩,1,1⟩),(Sl.val d)].toArray) Value.bool k):=fun w hw=>by
 obtain ⟨hs1,_⟩:=zEW hT
 obtain ⟨hsl,hsz⟩:=zCv hs1
 obtain ⟨_,_,hsp,hnil⟩:=zGO hw p
 have h1:=hw.perm (p.perm.trans (q.perm.cons _))
 cases ha:s.a with
 | none=>have:=hnil ha; omega
 | some a =>
  obtain ⟨cs2,fz,h2,_,_,hsz2,_,_,_⟩:=slOpen h1 ha
  have hb2:=h2.block
  have hb1:=h2.swap.block
  have hne:=h2.swap.apart
  obtain ⟨b,off,sp⟩:=a
  have hsp':=hsp _ ha
  simp only at hsp'; subst hsp'
  simp only at hb2 hne hsz2
  have hmul:0 < s.c * esz:=Nat.mul_pos hc he
  refine ⟨false,?_,h w hw⟩
  have hcut:∃ o,cutA s.a l s.c esz = some ⟨b,o,none⟩:=by
   rw [ha]; unfold cutA
   split
   ·exact ⟨_,rfl⟩
   ·exact ⟨_,by simp only [Option.map_some,add_mk]; rfl⟩
  obtain ⟨o,ho⟩:=hcut
  subst hd
  simp only [Sl.val,ho]
  exact Go.Lib.run_overlaps_apart w T R E hsl esz (fun w=>zCK hsz) ⟨t,0,none⟩ ⟨b,o,none⟩ 1 1 _ _ hne E E cs.toArray.size cs2.size (by simp [World.shape?,hb1]) (by simp [World.shape?,hb2]) (by omega) (by simp [World.frozen?,hb1]) (by simp [World.frozen?,hb1])
theorem blk_rd {t:Nat} {cs:List Value} {T:TypeId} {k:Nat} (he:cs.length = esz) [q:Own t Γ (blk t (.cells cs.toArray T (0,0))) Δ]:∀ w,Holds B Γ w→RdC w ⟨some ⟨t,0,none⟩,1,k⟩ esz cs:=fun w hw =>
 RdC.of_blk (E:=T) (hw.perm q.perm) List.mem_cons_self (by simp) (by simpa using he) k
theorem zGo {n:Nat} (h:∀ v ∈ vs,flatV v = true):∀ v ∈ vs.take n,flatV v = true:=fun v hv=>h v (List.mem_of_mem_take hv)
theorem zMQ {n:Nat} (h:∀ v ∈ vs,flatV v = true):∀ v ∈ vs.drop n,flatV v = true:=fun v hv=>h v (List.mem_of_mem_drop hv)
theorem s_ins {T J R i t:Nat} {rot:Sl→Int→K→K} {Q:Sl→K} (hi:i ≤ s.n) (hn:s.n < 50000000) (he:us.length = esz) (he0:0 < esz) (hvf:∀ v ∈ vs,flatV v = true) (huf:∀ v ∈ us,flatV v = true)
  (h:∀ s',s'.n = s.n + 1→HG B (SlC E esz s' (vs.take (i * esz)++us++vs.drop (i * esz))::Δ2) (Q s')) [p:OwnS s Γ (SlC E esz s vs) Δ] [q:Own t Δ (blk t (.cells us.toArray E (0,0))) Δ2] (hT:appT P T T E esz = true) (hJ:apZT P T J E esz = true) :
  HG B Γ (insK P T J R esz rot s i ⟨some ⟨t,0,none⟩,1,1⟩ Q):=by
 refine fun w hw=>?_
 refine hg (hw.perm (p.perm.trans (q.perm.cons _))) ?_
 clear hw w p q
 refine s_cap s fun h1 h2 h3 h4=>?_
 unfold insK
 dsimp only
 refine s_slc (lo:=i) (hi:=s.n) (mx:=s.c) ?_
 refine s_f ?_
 refine s_ite (fun hb=>?_) fun hb=>?_
 ·have hin:i = s.n:=by simp only [decide_eq_true_eq] at hb; omega
  refine zBJ (us:=us) (blk_rd he) huf (by simp only; omega) (hT:=hT) fun s' hs'=>?_
  have e1:vs.take (i * esz) = vs:=List.take_of_length_le (by rw [h1,hin]; exact Nat.le_refl _)
  have e2:vs.drop (i * esz) = []:=List.drop_eq_nil_of_le (by rw [h1,hin]; exact Nat.le_refl _)
  have h5:=h s' (by simpa using hs')
  rw [e1,e2,List.append_nil] at h5
  exact s_end (Δ:=SlC E esz s' (vs++us)::Δ2) h5
 have hin:i < s.n:=by simp only [decide_eq_false_iff_not] at hb; omega
 have hsa:∃ a,s.a = some a:=by
  cases ha:s.a with
  | none=>have:=h4 ha; omega
  | some a=>exact ⟨a,rfl⟩
 have hle:i * esz ≤ s.n * esz:=Nat.mul_le_mul_right _ hi
 have hle1:(i + 1) * esz ≤ s.n * esz:=Nat.mul_le_mul_right _ hin
 have hx1:(s.n + 1) * esz = s.n * esz + esz:=by rw [Nat.add_mul,Nat.one_mul]
 have hx2:(i + 1) * esz = i * esz + esz:=by rw [Nat.add_mul,Nat.one_mul]
 have hx3:(s.n + 1 - i) * esz = s.n * esz + esz - i * esz:=by rw [Nat.sub_mul,hx1]
 have hx4:(s.n + 1 - (i + 1)) * esz = s.n * esz - i * esz:=by rw [show s.n + 1 - (i + 1) = s.n - i by omega,Nat.sub_mul]
 have hvs:vs = vs.take (i * esz)++vs.drop (i * esz):=(List.take_append_drop _ _).symm
 have hA:(vs.take (i * esz)).length = i * esz:=zRt h1 hi
 have hC:(vs.drop (i * esz)).length = s.n * esz - i * esz:=by rw [List.length_drop,h1]
 have hvfa:=zGo (n:=i * esz) hvf
 have hvfc:=zMQ (n:=i * esz) hvf
 refine s_ai ?_
 refine zLe hT ?_
 refine s_ite (fun hb=>?_) fun hb=>?_
 ·have hgrow:s.c < s.n + 1:=by simp only [decide_eq_true_eq] at hb; omega
  refine s_slc (lo:=0) (hi:=i) (mx:=s.c) ?_
  refine s_ai ?_
  refine s_ai ?_
  rw [cut0 h3]
  have hm:∀ z:Nat,z = 1→((s.n:Int) + (z:Int) - i).toNat = s.n + 1 - i:=by omega
  refine s_appZ (s:=⟨s.a,i - 0,s.c - 0⟩) (vs:=vs.take (i * esz)) (by omega) (by simp only; omega) (by simp only; omega) (fun s' zs hs' hz hzf=>?_) (fun w hw=>(own_rd hw (p:=zTF)).1.take (by omega)) (by simp only; omega) (hT:=hJ)
  simp only [Nat.sub_zero] at hs'
  have hs'n:s'.n = s.n + 1:=by have:=hm _ rfl; omega
  refine s_cap s' fun h5 h6 h7 h8=>?_
  refine s_slc (lo:=i) (hi:=s'.n) (mx:=s'.c) ?_
  rw [hm _ rfl] at hz hs'
  refine s_copy (s:=s') (l:=i) (us:=us) (blk_rd he) (zGo huf) rfl (by omega) (hT:=hT) ?_
  refine s_dr ?_
  refine s_ai ?_
  refine s_slc (lo:=i + 1) (hi:=s'.n) (mx:=s'.c) ?_
  refine s_slc (lo:=i) (hi:=s.n) (mx:=s.c) ?_
  refine s_copy (s:=s') (l:=i + 1) (us:=vs.drop (i * esz)) (fun w hw=>(own_rd (s:=s) hw).1.drop hi h2 h3) (zGo hvfc) rfl (by omega) (hT:=hT) ?_
  have e:layAt (layAt (vs.take (i * esz)++zs) (i * esz) (us.take ((s'.n - i) * esz))) ((i + 1) * esz) ((vs.drop (i * esz)).take ((s'.n - (i + 1)) * esz)) = vs.take (i * esz)++us++vs.drop (i * esz):=by
   rw [hs'n,hx3,hx4,List.take_of_length_le (l:=us) (by omega),List.take_of_length_le (l:=vs.drop (i * esz)) (by omega)]
   have hz2:zs = zs.take esz++(zs.drop esz++[]):=by simp
   rw [hz2,zEX hA.symm (by rw [List.length_take,hz]; omega),← List.append_assoc,zEX (by rw [List.length_append,hA]; omega) (by rw [List.length_drop,hz,hC,hx3]; omega)]
   simp
  rw [e]
  exact s_end (h s' hs'n)
 ·have hroom:s.n + 1 ≤ s.c:=by simp only [decide_eq_false_iff_not] at hb; omega
  refine s_ai ?_
  refine s_slc (lo:=0) (hi:=s.n + 1) (mx:=s.c) ?_
  rw [cut0 h3]
  refine s_ext (s:=s) (m:=1) hroom fun js hj=>?_
  simp only [Nat.sub_zero]
  generalize hs':(⟨s.a,s.n + 1,s.c⟩:Sl) = s'
  have hs'n:s'.n = s.n + 1:=by rw [← hs']
  have hs'c:s'.c = s.c:=by rw [← hs']
  have hsp':∀ a,s'.a = some a→a.spot = none:=by rw [← hs']; exact h3
  refine s_ai ?_
  refine s_slc (lo:=i + 1) (hi:=s'.n) (mx:=s'.c) ?_
  refine s_ovl (s:=s') rfl ?_ (by omega) he0 hT
  refine s_t ?_
  refine s_dr ?_
  refine s_ai ?_
  refine s_slc (lo:=i + 1) (hi:=s'.n) (mx:=s'.c) ?_
  refine s_slc (lo:=i) (hi:=s'.n) (mx:=s'.c) ?_
  have hjf:∀ v ∈ ((vs++js).drop (i * esz)).take ((s'.n - (i + 1)) * esz),flatV v = true:=fun v hv=>by
   rw [List.drop_append_of_le_length (by omega),hs'n,hx4,← hC,List.take_left] at hv
   exact hvfc v hv
  refine s_cap s' fun h5 h6 h7 h8=>?_
  refine s_copy (s:=s') (l:=i + 1) (us:=(vs++js).drop (i * esz)) (fun w hw=>(own_rd (s:=s') hw).1.drop (by omega) h6 h7) hjf rfl (by omega) (hT:=hT) ?_
  refine s_slc (lo:=i) (hi:=s'.n) (mx:=s'.c) ?_
  refine s_copy (s:=s') (l:=i) (us:=us) (blk_rd he) (zGo huf) rfl (by omega) (hT:=hT) ?_
  have e:layAt (layAt (vs++js) ((i + 1) * esz) (((vs++js).drop (i * esz)).take ((s'.n - (i + 1)) * esz))) (i * esz) (us.take ((s'.n - i) * esz)) = vs.take (i * esz)++us++vs.drop (i * esz):=by
   rw [List.drop_append_of_le_length (by omega),hs'n,hx4,← hC,List.take_left,hx3,List.take_of_length_le (l:=us) (by omega)]
   generalize hAA:vs.take (i * esz) = A at *
   generalize hCC:vs.drop (i * esz) = C at *
   have e1:vs++js = (A++(C++js).take esz)++((C++js).drop esz++[]):=by rw [hvs]; simp
   rw [e1,zEX (by rw [List.length_append,hA,List.length_take,List.length_append]; omega) (by rw [List.length_drop,List.length_append]; omega),List.append_assoc,zEX hA.symm (by rw [List.length_take,List.length_append]; omega)]
   simp
  rw [e]
  exact s_end (h s' hs'n)
theorem s_del {T Z i j:Nat} {Q:Sl→K} (hij:i < j) (hj:j ≤ s.n) (hn:s.n < 50000000) (hvf:∀ v ∈ vs,flatV v = true)
  (h:∀ s',s'.n = s.n - (j - i)→HG B (SlC E esz s' (vs.take (i * esz)++vs.drop (j * esz))::Δ) (Q s')) [p:OwnS s Γ (SlC E esz s vs) Δ] (hT:appT P T T E esz = true) :
  HG B Γ (delK P T Z esz s i j Q):=by
 refine fun w hw=>?_
 refine hg (hw.perm p.perm) ?_
 clear hw w p
 refine s_cap s fun h1 h2 h3 h4=>?_
 unfold delK
 refine s_slc (lo:=i) (hi:=j) (mx:=s.n) ?_
 refine s_f ?_
 refine s_dr ?_
 refine s_slc (lo:=0) (hi:=i) (mx:=s.c) ?_
 refine s_slc (lo:=j) (hi:=s.n) (mx:=s.c) ?_
 rw [cut0 h3]
 intro w hw
 have hx:RdC w ⟨cutA s.a j s.c esz,s.n - j,s.c - j⟩ esz (vs.drop (j * esz)):=(own_rd (s:=s) hw).1.drop hj h2 h3
 obtain ⟨g1,g2,by',zv,g3,g4,g5,g6,g7,_⟩:=zEW hT
 refine hg (k:=fun w=>RdC w ⟨cutA s.a j s.c esz,s.n - j,s.c - j⟩ esz (vs.drop (j * esz))→Do P _ _ _ w) hw (zD6 (s:=s) (m:=i) (c':=s.c) (by omega) (by omega) (Nat.le_refl _) fun w hw hx=>?_) hx
 have hroom:(2 * (i + (s.n - j)) + 800) * by' ≤ 2 ^ 48:=by
  have h8:(2 * (i + (s.n - j)) + 800) * by' ≤ 200000800 * 1000:=Nat.mul_le_mul (by omega) g4
  omega
 obtain ⟨s',w',hr,hh,hn',hsome,hin⟩:=zKz (Tr:=T) hw g1 g2 g3 g6 g7 hx (zMQ hvf) hroom g5
 simp only at hn'
 refine ⟨s',w',by simpa using hr,hg hh ?_⟩
 have hs':=hin (by simp only; omega)
 have hc':s'.c = s.c:=by rw [hs']
 simp only [Nat.sub_zero] at hn' hs' ⊢
 refine s_slc (lo:=s'.n) (hi:=s.n) (mx:=s'.c) ?_
 refine zHI (s:=s') (l:=s'.n) (q:=s.n - s'.n) (m:=s'.c) rfl (Nat.le_refl _) (by omega) (.inr (by omega)) ?_ (hT:=hT)
 exact h s' (by omega)
theorem zNd {T:Nat} {Q:Sl→K} (hx:∀ w,Holds B Γ w→RdC w s esz us) (hfl:∀ u ∈ us,flatV u = true) (hroom:s.n ≤ 100000000) (h:∀ s',s'.n = s.n→HG B (SlC E esz s' us::Γ) (Q s')) (hT:appT P T T E esz = true) :
  HG B Γ (cloneK P E T s Q):=by
 unfold cloneK
 refine fun w hw=>?_
 refine hg hw ?_
 have hr:=hx w hw
 refine s_ite (fun hb=>?_) fun hb=>?_
 ·have hn:=hr.nil (by simpa using hb)
  have hl:=hr.len
  rw [hn,Nat.zero_mul] at hl
  have:us = []:=List.length_eq_zero_iff.1 hl
  subst this
  intro w hw
  exact h ⟨none,0,0⟩ hn.symm w (hw.nilSl E esz)
 ·exact zEj hx hfl hroom h (hT:=hT)
end
section
variable {P:Program} {B w:World} {Γ Δ:List HProp} {k:K}
theorem least {p:Nat→Prop} (h:∃ n,p n):∃ n,p n∧∀ m,p m→n ≤ m:=by
 obtain ⟨n,hn⟩:=h
 induction n using Nat.strongRecOn with
 | ind n ih =>
  by_cases h:∃ m,m < n∧p m
  ·obtain ⟨m,h1,h2⟩:=h; exact ih m h1 h2
  ·exact ⟨n,hn,fun m hm=>Nat.le_of_not_lt fun h2=>h ⟨m,h2,hm⟩⟩
theorem s_loop {α ι:Type} {body:(α→K)→α→K} {x:α} (J:α→ι→Prop) (Γf:α→ι→List HProp) (m:α→ι→Nat) (i:ι) (h0:J x i)
  (h:∀ (k':α→K) x i,J x i→(∀ x' i',J x' i'→m x' i' < m x i→HG B (Γf x' i') (k' x'))→HG B (Γf x i) (body k' x)) (hΓ:Γf x i = Γ:=by rfl):HG B Γ (LoopK body x):=fun w hw=>by
 subst hΓ
 let I:α→World→Prop:=fun x w=>∃ i,J x i∧Holds B (Γf x i) w
 let p:α→World→Nat→Prop:=fun x w n=>∃ i,J x i∧Holds B (Γf x i) w∧m x i = n
 have hp:∀ x w,I x w→∃ n,p x w n:=fun x w ⟨i,h1,h2⟩=>⟨_,i,h1,h2,rfl⟩
 let μ:α→World→Nat:=fun x w=>@dite _ (I x w) (Classical.propDecidable _) (fun h=>Classical.choose (least (hp x w h))) fun _=>0
 have hμ:∀ x w (h:I x w),p x w (μ x w)∧∀ n,p x w n→μ x w ≤ n:=fun x w h=>by
  have:=Classical.choose_spec (least (hp x w h))
  simpa [μ,h] using this
 refine LoopK.of I μ ⟨i,h0,hw⟩ fun x w hI=>?_
 obtain ⟨i,hj,hw,hm⟩:=(hμ x w hI).1
 refine h _ x i hj (fun x' i' hj' hlt w' hw'=>⟨⟨i',hj',hw'⟩,?_⟩) w hw
 have:=(hμ x' w' ⟨i',hj',hw'⟩).2 _ ⟨i',hj',hw',rfl⟩
 omega
theorem zCm {α:Type} {body:(α→K)→α→K} {x:α} (J:α→Prop) (m:α→Nat) (h0:J x)
  (h:∀ (k':α→K) x,J x→(∀ x',J x'→m x' < m x→HG B Γ (k' x'))→HG B Γ (body k' x)):HG B Γ (LoopK body x) :=
 s_loop (ι:=Unit) (fun x _=>J x) (fun _ _=>Γ) (fun x _=>m x) () h0 fun k' x _ hj hk=>h k' x hj fun x' hj' hm=>hk x' () hj' hm
theorem s_all2 {x y:K} (h1:HG B Γ x) (h2:HG B Γ y):HG B Γ (All [x,y]):=fun w hw=>all_cons (h1 w hw) (all_cons (h2 w hw) all_nil)
theorem zTH {g:Nat} {args:List Value} {k:Value→K} (h:HG B Γ (CallF P g args.toArray k)) (hc:callable P g = true:=by kernel_rfl):HG B Γ (CallV P (.func (.func g) #[] #[]) args k):=fun w hw =>
 ⟨g,#[],#[],rfl,hc,by have:=h w hw; simpa [CallF] using this⟩
theorem zEY {g:Nat} {args cs:List Value} {k:Value→K} (h:HG B Γ (CallF P g (args++cs).toArray k)) (hc:callable P g = true:=by kernel_rfl):HG B Γ (CallV P (.func (.func g) #[] cs.toArray) args k):=fun w hw =>
 ⟨g,#[],cs.toArray,rfl,hc,by have:=h w hw; simpa [CallF] using this⟩
end
abbrev bs (l:List UInt8):ByteArray:=⟨l.toArray⟩
abbrev strV (l:List UInt8):Value:=.string (bs l)
theorem bs_of (b:ByteArray):∃ l,b = bs l:=⟨b.data.toList,by simp [bs]⟩
theorem zBa (l:List UInt8):(bs l).toList = l:=by simp
theorem zDr:∀ (x y:List UInt8),Op.bytesLess x y = decide (x < y)
 | [],[]=>by simp [Op.bytesLess]
 | _::_,[]=>by simp [Op.bytesLess]
 | [],_::_=>by simp [Op.bytesLess]
 | a::x,b::y=>by
  rw [Op.bytesLess,zDr x y]
  simp only [List.cons_lt_cons_iff]
  by_cases h1:a < b <;> by_cases h2:a = b <;> by_cases h3:x < y <;> simp [h1,h2,h3]
theorem gt_dec (x y:List UInt8):(!(Op.bytesLess x y || x == y)) = decide (y < x):=by
 rw [zDr]
 by_cases h1:x < y
 ·have:¬ y < x:=fun h=>List.lt_irrefl x (List.lt_trans h1 h)
  simp [h1,this]
 ·by_cases h2:x = y
  ·subst h2; simp [h1]
  ·have h3:y < x:=by
    have h4:y ≤ x:=by rw [← List.not_lt]; exact h1
    rcases List.le_iff_lt_or_eq.1 h4 with h5 | h5
    ·exact h5
    ·exact absurd h5.symm h2
   simp [h1,h2,h3]
section
variable {B w:World} {Γ Δ:List HProp} {k:K} {α:Type} {F:α→HProp} {A C:List α} {x:α}
theorem zGZ:(((A++x::C).map F)++Γ).Perm (((A++C).map F)++F x::Γ):=by
 have h2:((A++x::C).map F).Perm (F x::(A++C).map F):=(List.perm_middle (a:=x) (l₁:=A) (l₂:=C)).map _
 refine (h2.append_right Γ).trans ?_
 exact (List.perm_middle (a:=F x) (l₁:=(A++C).map F) (l₂:=Γ)).symm
theorem s_mid (h:HG B (F x::Sep.stars ((A++C).map F)::Γ) k):HG B (Sep.stars ((A++x::C).map F)::Γ) k:=fun w hw =>
 h w (Holds.flat.2 ((Holds.flat.1 hw).perm zGZ)).swap
theorem zCS (h:HG B (Sep.stars ((A++x::C).map F)::Γ) k):HG B (F x::Sep.stars ((A++C).map F)::Γ) k:=fun w hw =>
 h w (Holds.flat.2 ((Holds.flat.1 hw.swap).perm zGZ.symm))
end
def bsK (P:Program) (esz:Nat) (x0:Sl) (tv:Value) (cmp2:Value) (Q:Int→Bool→K):K :=
 LoopK (α:=Int×Int) (fun X x =>
  Ite (decide (x.1 < x.2))
   (Ar (IntKind.wrap .i64 (x.1 + x.2)) fun t20 =>
   Ar (IntKind.wrap .u64 t20) fun t21 =>
   Cd (0 ≤ (1:Int)) <|
   Ar (shrOf .u64 t21 1) fun t22 =>
   Ar (IntKind.wrap .i64 t22) fun t23 =>
   Idx x0 t23 esz fun t27 =>
   LdN t27 esz fun t28 =>
   CallV P cmp2 [(.agg t28),tv] <| Ans1 (fun (t30:Int)=>(Value.int .i64) t30) fun t30 =>
   Ite (decide (t30 < 0))
    (Ar (IntKind.wrap .i64 (t23 + 1)) fun t33 =>
    X (t33,x.2))
    (X (x.1,t23)))
   (Ite (decide (x.1 < (x0.n:Int)))
    (Idx x0 x.1 esz fun t43 =>
    LdN t43 esz fun t44 =>
    CallV P cmp2 [(.agg t44),tv] <| Ans1 (fun (t46:Int)=>(Value.int .i64) t46) fun t46 =>
    Q x.1 (decide (t46 = 0)))
    (Q x.1 false))) (0,(x0.n:Int))
section
variable {P:Program} {B w:World} {Γ Δ:List HProp}
theorem zHq {α:Type} {f:α→List Value} {esz:Nat} (hf:∀ x,(f x).length = esz):∀ {L:List α} {i:Nat} {x:α},L[i]? = some x→((L.flatMap f).drop (i * esz)).take esz = f x
 | [],i,x,h=>by simp at h
 | a::L,0,x,h=>by
  simp only [List.getElem?_cons_zero,Option.some.injEq] at h
  subst h
  simp only [Nat.zero_mul,List.drop_zero,List.flatMap_cons]
  rw [← hf a,List.take_left]
 | a::L,i + 1,x,h=>by
  simp only [List.getElem?_cons_succ] at h
  rw [List.flatMap_cons,Nat.add_mul,Nat.one_mul,Nat.add_comm,← List.drop_drop,← hf a,List.drop_left]
  rw [hf a]
  exact zHq hf h
theorem s_idxN {α:Type} (f:α→List Value) {esz:Nat} {L:List α} {s:Sl} {j:Nat} {jj:Int} {x:α} {k:Array Value→K} (hf:∀ x,(f x).length = esz) (hr:∀ w,Holds B Γ w→RdC w s esz (L.flatMap f)) (hx:L[j]? = some x) (h:HG B Γ (k (f x).toArray)) (hj:jj = (j:Int):=by first | rfl | omega) (he:0 < esz:=by omega) :
  HG B Γ (Idx s jj esz fun t=>LdN t esz k):=fun w hw=>by subst hj; exact r_idxN f hf he (hr w hw) hx rfl fun t=>h w hw
theorem s_idx1 {α:Type} {c:α→Value} {L:List α} {s:Sl} {j:Nat} {jj:Int} {x:α} {k:α→K} (hr:∀ w,Holds B Γ w→RdC w s 1 (L.map c)) (hx:L[j]? = some x) (h:HG B Γ (k x)) (hj:jj = (j:Int):=by first | rfl | omega):HG B Γ (Idx s jj 1 fun t=>Ld t c k):=fun w hw=>by
 subst hj; exact r_idx1 (hr w hw) hx (h w hw)
theorem s_idxS {L:List (List UInt8)} {s:Sl} {j:Nat} {jj:Int} {x:List UInt8} {k:ByteArray→K} (hr:∀ w,Holds B Γ w→RdC w s 1 (L.map strV)) (hx:L[j]? = some x) (h:HG B Γ (k (bs x))) (hj:jj = (j:Int):=by first | rfl | omega):HG B Γ (Idx s jj 1 fun t=>Ld t Value.string k) :=
 s_idx1 (L:=L.map bs) (fun w hw=>by have:=hr w hw; simpa [Function.comp_def] using this) (by rw [List.getElem?_map,hx]; rfl) h hj
theorem rd_len {α:Type} {f:α→List Value} {esz:Nat} {L:List α} {s:Sl} (hf:∀ x,(f x).length = esz) (he:0 < esz) (hr:RdC w s esz (L.flatMap f)):s.n = L.length:=by
 have:=hr.len
 rw [zAL f esz hf] at this
 exact (Nat.eq_of_mul_eq_mul_right he this).symm
theorem s_bs {α:Type} {f:α→List Value} {esz E:Nat} {s:Sl} {L:List α} {c:α→Int} {tv cv:Value} {Q:Int→Bool→K} {p:Nat} (hf:∀ x,(f x).length = esz) (hL:L.length < 1000000000)
  (hlo:∀ i x,L[i]? = some x→i < p→c x < 0) (hhi:∀ i x,L[i]? = some x→p ≤ i→0 ≤ c x) (hp:p ≤ L.length)
  (hc:∀ x ∈ L,∀ q:Int→K,HG B Γ (q (c x))→HG B Γ (CallV P cv [(.agg (f x).toArray),tv] (Ans1 (fun (t:Int)=>(Value.int .i64) t) q)))
  (h:HG B Γ (Q p (decide (∃ x,L[p]? = some x∧c x = 0)))) [o:OwnS s Γ (SlC E esz s (L.flatMap f)) Δ] (he:0 < esz):HG B Γ (bsK P esz s tv cv Q):=by
 refine s_cap s fun h1 h2 h3 h4=>?_
 rw [zAL f esz hf] at h1
 have hn:s.n = L.length:=(Nat.eq_of_mul_eq_mul_right he h1).symm
 have ldel:∀ (i:Nat) (x:α) (k:Array Value→K),L[i]? = some x→HG B Γ (k (f x).toArray)→HG B Γ (LdN (elA s i esz) esz k):=fun i x k hx hk=>by
  rw [← add0 (elA s i esz)]
  exact s_ldEN (s:=s) (by simpa using zHq hf hx) (hf x) hk
 unfold bsK
 refine zCm (fun x:Int×Int=>∃ a b:Nat,x = ((a:Int),(b:Int))∧a ≤ p∧p ≤ b∧b ≤ L.length) (fun x=>(x.2 - x.1).toNat) ⟨0,L.length,by rw [hn]; rfl,by omega,hp,Nat.le_refl _⟩ fun k' x hx hk=>?_
 obtain ⟨a,b,rfl,ha,hb,hbl⟩:=hx
 dsimp only
 refine s_ite (fun hlt=>?_) fun hlt=>?_
 ·have hab:a < b:=by simp only [decide_eq_true_eq] at hlt; omega
  refine s_ai ?_
  rw [show IntKind.wrap .u64 ((a:Int) + b) = ((a + b:Nat):Int) by rw [wrapU64 (by omega) (by omega)]; omega]
  refine s_ar rfl ?_
  refine s_cd (by omega) ?_
  refine s_ar (e':=(((a + b) / 2:Nat):Int)) ?_ ?_
  ·show ((a + b:Nat):Int).fdiv 2 = _
   rw [Int.fdiv_eq_ediv_of_nonneg _ (by omega)]; omega
  refine s_ai ?_
  refine s_idx (s:=s) (i:=(a + b) / 2) ?_ rfl (by omega)
  obtain ⟨x,hx⟩:∃ x,L[(a + b) / 2]? = some x:=⟨_,List.getElem?_eq_getElem (by omega)⟩
  refine ldel _ x _ hx (hc x (List.mem_of_getElem? hx) _ ?_)
  refine s_ite (fun h5=>?_) fun h5=>?_
  ·have h6:c x < 0:=by simpa using h5
   refine s_ai ?_
   refine hk _ ⟨(a + b) / 2 + 1,b,by simp,?_,hb,hbl⟩ (by simp only; omega)
   ·refine Nat.lt_of_not_le fun h7=>?_
    have:=hhi _ x hx h7; omega
  ·have h6:0 ≤ c x:=by simpa using h5
   refine hk _ ⟨a,(a + b) / 2,by simp,ha,?_,by omega⟩ (by simp only; omega)
   ·refine Nat.le_of_not_lt fun h7=>?_
    have:=hlo _ x hx h7; omega
 ·have hab:a = p∧b = p:=by simp only [decide_eq_false_iff_not] at hlt; omega
  obtain ⟨rfl,rfl⟩:=hab
  refine s_ite (fun h5=>?_) fun h5=>?_
  ·have h6:b < L.length:=by simp only [decide_eq_true_eq] at h5; omega
   refine s_idx (s:=s) (i:=b) ?_ rfl (by omega)
   obtain ⟨x,hx⟩:∃ x,L[b]? = some x:=⟨_,List.getElem?_eq_getElem h6⟩
   refine ldel _ x _ hx (hc x (List.mem_of_getElem? hx) _ ?_)
   have e:decide (∃ x,L[b]? = some x∧c x = 0) = decide (c x = 0):=by simp [hx]
   rw [e] at h
   exact h
  ·have h6:¬ b < L.length:=by simp only [decide_eq_false_iff_not] at h5; omega
   have e:decide (∃ x,L[b]? = some x∧c x = 0) = false:=by
    simp only [decide_eq_false_iff_not]
    rintro ⟨x,hx,_⟩
    rw [List.getElem?_eq_none (by omega)] at hx; cases hx
   rw [e] at h
   exact h
end
end Go.Sep
namespace Go.Sep
open Go Go.RowKit Go.MapKept
section
variable {α β:Type} [DecidableEq α]
def mget (k:α):List (α×β)→Option β
 | []=>none
 | p::m=>if k = p.1 then some p.2 else mget k m
def mset (k:α) (v:β):List (α×β)→List (α×β)
 | []=>[(k,v)]
 | p::m=>if k = p.1 then (k,v)::m else p::mset k v m
def mdel (k:α):List (α×β)→List (α×β)
 | []=>[]
 | p::m=>if k = p.1 then m else p::mdel k m
theorem mfind (k:α):∀ m:List (α×β),(mget k m = none∧(∀ v,mset k v m = m++[(k,v)])∧mdel k m = m∧∀ p ∈ m,p.1 ≠ k) ∨
  ∃ j x,j < m.length∧m[j]? = some (k,x)∧(∀ i,i < j→∀ p,m[i]? = some p→p.1 ≠ k)∧mget k m = some x∧(∀ v,mset k v m = m.set j (k,v))∧mdel k m = m.eraseIdx j
 | []=>.inl ⟨rfl,fun _=>rfl,rfl,by simp⟩
 | p::m=>by
  by_cases hk:k = p.1
  ·refine .inr ⟨0,p.2,by simp,by rw [hk]; rfl,fun i hi=>by omega,by simp [mget,hk],fun v=>by simp [mset,hk],by simp [mdel,hk]⟩
  ·rcases mfind k m with ⟨h1,h2,h3,h4⟩ | ⟨j,x,hj,h0,hb,h1,h2,h3⟩
   ·refine .inl ⟨by simp [mget,hk,h1],fun v=>by simp [mset,hk,h2],by simp [mdel,hk,h3],fun q hq=>?_⟩
    rcases List.mem_cons.1 hq with rfl | hq
    ·exact fun e=>hk e.symm
    ·exact h4 q hq
   ·refine .inr ⟨j + 1,x,by simpa using hj,by simpa using h0,fun i hi q hq=>?_,by simp [mget,hk,h1],fun v=>by simp [mset,hk,h2],by simp [mdel,hk,h3]⟩
    cases i with
    | zero=>simp at hq; subst hq; exact fun e=>hk e.symm
    | succ i=>exact hb i (by omega) q (by simpa using hq)
end
structure KeyE {α:Type} (d:TypeDesc) (enc:α→Value):Prop where
 key:∀ a,IsKey d (enc a)
 inj:∀ a b,enc a = enc b→a = b
 bits:∀ a,Instr.sameBits 10000 (enc a) (enc a) = true
theorem zOc:KeyE .string Value.string:=⟨fun _=>trivial,fun a b h=>by injection h,fun a=>by
 show (a == a) = true
 rw [bytes_beq]⟩
section
variable {α β:Type} [DecidableEq α] {P:Program} {B w:World} {Γ:List HProp} {enc:α→Value} {cV:β→Value}
def mrel (enc:α→Value) (cV:β→Value) (es:Array MapEntry) (m:List (α×β)):Prop:=es.toList.map (fun e=>(e.key,e.val)) = m.map fun p=>(enc p.1,cV p.2)
def stamps (es:Array MapEntry) (c:Nat):Prop:=(es.toList.map (·.born)).Nodup∧∀ e ∈ es.toList,e.born < c
theorem zPt (c:Nat):stamps #[] c:=⟨by simp,by simp⟩
theorem zG7 {es:Array MapEntry} {c:Nat} (h:stamps es c) (k v:Value):stamps (es.push { key:=k,val:=v,born:=c }) (c + 1):=by
 refine ⟨?_,fun e he=>?_⟩
 ·simp only [Array.toList_push,List.map_append,List.map_cons,List.map_nil]
  rw [List.nodup_append]
  refine ⟨h.1,by simp,fun x hx y hy=>?_⟩
  simp only [List.mem_singleton] at hy
  subst hy
  obtain ⟨e,he,rfl⟩:=List.mem_map.1 hx
  have:=h.2 e he
  omega
 ·simp only [Array.toList_push] at he
  rcases List.mem_append.1 he with he | he
  ·have:=h.2 e he; omega
  ·simp only [List.mem_singleton] at he; subst he; exact Nat.lt_succ_self _
theorem zGD {es:Array MapEntry} {c:Nat} (h:stamps es c) (j:Nat) (k v:Value):stamps (es.modify j fun e=>{ e with key:=k,val:=v }) c:=by
 have e1:(es.modify j fun e=>{ e with key:=k,val:=v }).toList.map (·.born) = es.toList.map (·.born):=by
  apply List.ext_getElem?
  intro i
  simp only [List.getElem?_map,Array.getElem?_toList,Array.getElem?_modify]
  split
  ·cases es[i]? <;> rfl
  ·rfl
 refine ⟨by rw [e1]; exact h.1,fun e he=>?_⟩
 have:e.born ∈ es.toList.map (·.born):=by rw [← e1]; exact List.mem_map_of_mem he
 obtain ⟨e',he',hb⟩:=List.mem_map.1 this
 rw [← hb]; exact h.2 e' he'
theorem zNe {es:Array MapEntry} {c:Nat} (h:stamps es c) (j:Nat):stamps (es.eraseIdxIfInBounds j) c:=by
 have hs:List.Sublist (es.eraseIdxIfInBounds j).toList es.toList:=by
  unfold Array.eraseIdxIfInBounds
  split
  ·rw [Array.toList_eraseIdx]; exact List.eraseIdx_sublist _ _
  ·exact List.Sublist.refl _
 exact ⟨h.1.sublist (hs.map _),fun e he=>h.2 e (hs.subset he)⟩
def MapR (enc:α→Value) (cV:β→Value) (b:Nat) (m:List (α×β)):HProp:=ex fun es:Array MapEntry=>ex fun c:Nat=>fun g=>(mrel enc cV es m∧stamps es c)∧blk b (.map es c) g
theorem MapR.opens {b:Nat} {m:List (α×β)} (h:Holds B (MapR enc cV b m::Γ) w):∃ es c,(mrel enc cV es m∧stamps es c)∧Holds B (blk b (.map es c)::Γ) w:=by
 obtain ⟨es,h⟩:=Holds.ex.1 h
 obtain ⟨c,h⟩:=Holds.ex.1 h
 exact ⟨es,c,h.fact fun g hg=>hg.1,h.imp fun g hg=>hg.2⟩
theorem MapR.shuts {b:Nat} {m:List (α×β)} {es:Array MapEntry} {c:Nat} (hr:mrel enc cV es m∧stamps es c) (h:Holds B (blk b (.map es c)::Γ) w):Holds B (MapR enc cV b m::Γ) w :=
 Holds.ex.2 ⟨es,Holds.ex.2 ⟨c,h.imp fun g hg=>⟨hr,hg⟩⟩⟩
theorem zFE {es:Array MapEntry} {m:List (α×β)} (hr:mrel enc cV es m) (i:Nat):(es.toList[i]?).map (fun e=>(e.key,e.val)) = (m[i]?).map fun p=>(enc p.1,cV p.2):=by
 have:=congrArg (·[i]?) hr
 simpa using this
theorem zQZ {d:TypeDesc} (hE:KeyE d enc) {es:Array MapEntry} {m:List (α×β)} (hr:mrel enc cV es m):∀ x ∈ es.toList,IsKey d x.key:=by
 intro x hx
 have:(x.key,x.val) ∈ m.map fun p=>(enc p.1,cV p.2):=by rw [← hr]; exact List.mem_map_of_mem hx
 obtain ⟨p,_,hp⟩:=List.mem_map.1 this
 have:enc p.1 = x.key:=congrArg Prod.fst hp
 rw [← this]; exact hE.key _
theorem mfound {d:TypeDesc} (hE:KeyE d enc) {es:Array MapEntry} {m:List (α×β)} (hr:mrel enc cV es m) (k:α) :
  (Instr.findNow d (enc k) es.toList 0 = some none∧mget k m = none∧(∀ v,mset k v m = m++[(k,v)])∧mdel k m = m) ∨
  ∃ j x,Instr.findNow d (enc k) es.toList 0 = some (some (j,cV x))∧j < m.length∧m[j]? = some (k,x)∧mget k m = some x∧(∀ v,mset k v m = m.set j (k,v))∧mdel k m = m.eraseIdx j:=by
 have hlen:es.toList.length = m.length:=by have:=congrArg List.length hr; simpa using this
 rcases mfind k m with ⟨h1,h2,h3,h4⟩ | ⟨j,x,hj,h0,hb,h1,h2,h3⟩
 ·refine .inl ⟨?_,h1,h2,h3⟩
  rcases findNow_spec (hE.key k) es.toList 0 (zQZ hE hr) with ⟨g1,_⟩ | ⟨i,e,g1,g2,g3⟩
  ·exact g1
  ·have:=zFE hr i
   rw [g2] at this
   cases hm:m[i]? with
   | none=>rw [hm] at this; simp at this
   | some p =>
    rw [hm] at this
    simp only [Option.map_some,Option.some.injEq,Prod.mk.injEq] at this
    exact absurd (hE.inj _ _ (this.1.symm.trans g3)) (h4 p (List.mem_of_getElem? hm))
 ·have key:∀ (l:List MapEntry) (m:List (α×β)) (j i:Nat),l.map (fun e=>(e.key,e.val)) = m.map (fun p=>(enc p.1,cV p.2))→m[j]? = some (k,x)→(∀ i,i < j→∀ p,m[i]? = some p→p.1 ≠ k) →
    Instr.findNow d (enc k) l i = some (some (i + j,cV x)):=by
   intro l
   induction l with
   | nil=>intro m j i hr hm _; cases m <;> simp at hr hm
   | cons e l ih =>
    intro m j i hr hm hb
    cases m with
    | nil=>simp at hr
    | cons p m =>
     simp only [List.map_cons,List.cons.injEq,Prod.mk.injEq] at hr
     obtain ⟨⟨e1,e2⟩,hr⟩:=hr
     obtain ⟨r,hs,hiff⟩:=sameNow_of_keys (hE.key k) (hE.key p.1)
     unfold Instr.findNow
     rw [e1,hs]
     cases j with
     | zero =>
      simp only [List.getElem?_cons_zero,Option.some.injEq] at hm
      subst hm
      have:r = true:=hiff.2 rfl
      subst this
      simp only [e2,Nat.add_zero]
     | succ j =>
      have hne:p.1 ≠ k:=hb 0 (by omega) p rfl
      have:r = false:=by
       cases r with
       | false=>rfl
       | true=>exact absurd (hE.inj _ _ (hiff.1 rfl)) (fun e=>hne e.symm)
      subst this
      simp only
      rw [ih m j (i + 1) hr (by simpa using hm) (fun i' hi' q hq=>hb (i' + 1) (by omega) q (by simpa using hq))]
      congr 3; omega
  refine .inr ⟨j,x,?_,hj,h0,h1,h2,h3⟩
  have:=key es.toList m j 0 hr h0 hb
  rwa [Nat.zero_add] at this
def mapIs (P:Program) (T:TypeId) (d:TypeDesc) (E:TypeId):Prop:=∃ kt,P.underlying T = some (.map kt E)∧P.underlying kt = some d
theorem zNf {T E:TypeId} {d:TypeDesc} {b:Nat} {m:List (α×β)} {z:β} {a:α} (hT:mapIs P T d E) (hE:KeyE d enc) (hz:zeroT P E (cV z)) {es:Array MapEntry} {c:Nat} (hb:w.heap[b]? = some (.map es c)) (hr:mrel enc cV es m) (ok:Bool) :
  (Instr.lookup T (.map (some b)) (enc a) ok).run P w = .ok (if ok then .tuple #[cV ((mget a m).getD z),.bool (mget a m).isSome] else cV ((mget a m).getD z)) w:=by
 obtain ⟨kt,hT,hd⟩:=hT
 unfold Instr.lookup
 simp only [Sem.run_bind,run_underlying hT,Result.andThen,MapKept.run_getObj_map hb,run_checkKey hd (hE.key a),Sem.run_pure]
 rcases mfound hE hr a with ⟨h1,h2,_⟩ | ⟨j,x,h1,_,_,h2,_⟩
 ·simp only [run_findKey hd h1,Result.andThen,Sem.run_bind,zDB hz,Sem.run_pure,h2]
  cases ok <;> rfl
 ·simp only [run_findKey hd h1,Result.andThen,Sem.run_bind,Sem.run_pure,h2]
  cases ok <;> rfl
theorem zTI {T E:TypeId} {d:TypeDesc} {b:Nat} {m:List (α×β)} {z:β} {a:α} {k:β→K} (hT:mapIs P T d E) (hE:KeyE d enc) (hz:zeroT P E (cV z)) (h:Holds B (MapR enc cV b m::Γ) w)
  (hk:k ((mget a m).getD z) w):Rd P (Instr.lookup T (.map (some b)) (enc a) false) cV k w:=by
 obtain ⟨es,c,⟨hr,hst⟩,h⟩:=MapR.opens h
 exact ⟨_,zNf hT hE hz h.block hr false,hk⟩
theorem Holds.setMap {b:Nat} {es es':Array MapEntry} {c c':Nat} (h:Holds B (blk b (.map es c)::Γ) w):(setObj b (.map es' c')).run P w = .ok () { w with heap:=w.heap.setIfInBounds b (.map es' c') } ∧
  Holds B (blk b (.map es' c')::Γ) { w with heap:=w.heap.setIfInBounds b (.map es' c') } :=
 ⟨run_setObj_map _ h.block,h.setBlock rfl⟩
theorem zRu {γ:Type} {cG:γ→Value} {g:β→γ} {T E:TypeId} {d:TypeDesc} {b:Nat} {m:List (α×β)} {z:β} {a:α} {k:γ→Bool→K} (hc:∀ x,cV x = cG (g x)) (hT:mapIs P T d E) (hE:KeyE d enc) (hz:zeroT P E (cV z)) (h:Holds B (MapR enc cV b m::Γ) w)
  (hk:k (g ((mget a m).getD z)) (mget a m).isSome w):Rd2 P (Instr.lookup T (.map (some b)) (enc a) true) (fun x y=>.tuple #[cG x,.bool y]) k w:=by
 obtain ⟨es,c,⟨hr,hst⟩,h⟩:=MapR.opens h
 have:=zNf (a:=a) hT hE hz h.block hr true
 exact ⟨g ((mget a m).getD z),_,by rw [hc] at this; exact this,hk⟩
theorem r_upd {T E:TypeId} {d:TypeDesc} {b:Nat} {m:List (α×β)} {a:α} {v:β} {k:K} (hT:mapIs P T d E) (hE:KeyE d enc) (h:Holds B (MapR enc cV b m::Γ) w)
  (hk:∀ w',Holds B (MapR enc cV b (mset a v m)::Γ) w'→k w'):DoU P (Instr.mapUpdate T (.map (some b)) (enc a) (cV v)) k w:=by
 obtain ⟨kt,hT,hd⟩:=hT
 obtain ⟨es,c,⟨hr,hst⟩,h⟩:=MapR.opens h
 have hb:=h.block
 have hlen:es.size = m.length:=by have:=congrArg List.length hr; simpa using this
 unfold Instr.mapUpdate DoU
 simp only [Sem.run_bind,run_underlying hT,Result.andThen,MapKept.run_getObj_map hb,run_checkKey hd (hE.key a)]
 rcases mfound hE hr a with ⟨h1,_,h2,_⟩ | ⟨j,x,h1,hj,h0,_,h2,_⟩
 ·simp only [run_findKey hd h1,Result.andThen]
  obtain ⟨e1,h3⟩:=h.setMap (P:=P) (es':=es.push { key:=enc a,val:=cV v,born:=c }) (c':=c + 1)
  refine ⟨_,_,e1,hk _ (MapR.shuts ⟨?_,zG7 hst _ _⟩ h3)⟩
  rw [h2]
  simp only [mrel,Array.toList_push,List.map_append,List.map_cons,List.map_nil]
  rw [show es.toList.map (fun e=>(e.key,e.val)) = _ from hr]
 ·have hes:∃ e,es.toList[j]? = some e∧e.key = enc a:=by
   have:=zFE hr j
   rw [h0] at this
   cases he:es.toList[j]? with
   | none=>rw [he] at this; simp at this
   | some e =>
    rw [he] at this
    simp only [Option.map_some,Option.some.injEq,Prod.mk.injEq] at this
    exact ⟨e,rfl,this.1⟩
  obtain ⟨e,he,hek⟩:=hes
  have he2:es[j]? = some e:=by rw [← he,Array.getElem?_toList]
  simp only [run_findKey hd h1,Result.andThen,Sem.run_bind,he2,Option.map_some,Option.getD_some,hek,Instr.keyThatStays,hE.bits,if_true,Sem.run_pure]
  obtain ⟨e1,h3⟩:=h.setMap (P:=P) (es':=es.modify j fun e=>{ e with key:=enc a,val:=cV v }) (c':=c)
  refine ⟨_,_,e1,hk _ (MapR.shuts ⟨?_,zGD hst _ _ _⟩ h3)⟩
  rw [h2]
  simp only [mrel]
  apply List.ext_getElem?
  intro i
  have hi:=zFE hr i
  simp only [List.getElem?_map,Array.getElem?_toList,Array.getElem?_modify] at hi ⊢
  by_cases hij:j = i
  ·subst hij
   rw [List.getElem?_set_self hj,he2]
   simp
  ·rw [List.getElem?_set_ne hij,if_neg hij]
   exact hi
end
section
variable {α β γ:Type} [DecidableEq α]
theorem zFk (g:β→γ) (k:α):∀ m:List (α×β),mget k (m.map fun p=>(p.1,g p.2)) = (mget k m).map g
 | []=>rfl
 | p::m=>by
  simp only [List.map_cons,mget]
  split
  ·rfl
  ·exact zFk g k m
theorem zNg (g:β→γ) (k:α) (v:β):∀ m:List (α×β),mset k (g v) (m.map fun p=>(p.1,g p.2)) = (mset k v m).map fun p=>(p.1,g p.2)
 | []=>rfl
 | p::m=>by
  simp only [List.map_cons,mset]
  split
  ·rfl
  ·rw [List.map_cons,zNg g k v m]
theorem zGp {k:α} {v:β} {m:List (α×β)} (h:mget k m = none):mset k v m = m++[(k,v)]:=by
 rcases mfind k m with ⟨_,h2,_⟩ | ⟨_,_,_,_,_,h1,_⟩
 ·exact h2 v
 ·rw [h] at h1; cases h1
end
end Go.Sep
namespace Go.Sep
open Go Go.RowKit
section
variable {α β:Type} [DecidableEq α] {P:Program} {B w:World} {Γ Δ:List HProp} {enc:α→Value} {cV:β→Value} {k:K}
instance (priority:=high) zVP {α β:Type} [DecidableEq α] {enc:α→Value} {cV:β→Value} {b:Nat} {m:List (α×β)} {Γ:List HProp}:Own b (MapR enc cV b m::Γ) (MapR enc cV b m) Γ:=⟨.refl _⟩
theorem zFl {T:TypeId} {k:Option Nat→K} (h:∀ b,HG B (MapR enc cV b []::Γ) (k (some b))):HG B Γ (Do P (Instr.makeMap T none) Value.map k):=fun w hw=>by
 refine ⟨some w.heap.size,{ w with heap:=w.heap.push (.map #[] 0) },rfl,h _ _ (MapR.shuts (es:=#[]) (c:=0) ⟨rfl,zPt 0⟩ (hw.alloc _))⟩
theorem zTJ {γ:Type} {cG:γ→Value} {g:β→γ} {T E:TypeId} {d:TypeDesc} {b:Nat} {m:List (α×β)} {z:β} {a:α} {k:γ→Bool→K} (hc:∀ x,cV x = cG (g x)) (hT:mapIs P T d E) (hE:KeyE d enc) (hz:zeroT P E (cV z)) (h:HG B Γ (k (g ((mget a m).getD z)) (mget a m).isSome)) [p:Own b Γ (MapR enc cV b m) Δ] :
  HG B Γ (Rd2 P (Instr.lookup T (.map (some b)) (enc a) true) (fun x y=>.tuple #[cG x,.bool y]) k):=fun w hw=>zRu hc hT hE hz (hw.perm p.perm) (h w hw)
theorem zTK {γ:Type} {cG:γ→Value} {g:β→γ} {T E:TypeId} {d:TypeDesc} {b:Nat} {m:List (α×β)} {z:β} {a:α} {k:γ→K} (hc:∀ x,cV x = cG (g x)) (hT:mapIs P T d E) (hE:KeyE d enc) (hz:zeroT P E (cV z)) (h:HG B Γ (k (g ((mget a m).getD z)))) [p:Own b Γ (MapR enc cV b m) Δ] :
  HG B Γ (Rd P (Instr.lookup T (.map (some b)) (enc a) false) cG k):=fun w hw=>by
 obtain ⟨x,hx,hk⟩:=zTI (P:=P) (T:=T) (a:=a) (k:=fun y w=>y = (mget a m).getD z∧k (g y) w) hT hE hz (hw.perm p.perm) ⟨rfl,h w hw⟩
 obtain ⟨rfl,hk⟩:=hk
 exact ⟨_,by rw [hx,hc],hk⟩
theorem s_upd {γ:Type} {cG:γ→Value} {T E:TypeId} {d:TypeDesc} {b:Nat} {m:List (α×β)} {a:α} {v:β} {x:Value} (hx:x = cV v) (hT:mapIs P T d E) (hE:KeyE d enc) (h:HG B (MapR enc cV b (mset a v m)::Δ) k) [p:Own b Γ (MapR enc cV b m) Δ] :
  HG B Γ (DoU P (Instr.mapUpdate T (.map (some b)) (enc a) x) k):=fun w hw=>by subst hx; exact r_upd hT hE (hw.perm p.perm) fun w' h'=>h w' h'
theorem s_bldF {zero:Array Value} {pl:Nat→Option (Nat×Nat)} {vs:List (Nat×Value)} {cs:List Value} {k:Array Value→K} (h:HG B Γ (k cs.toArray)) (hc:Instr.fill pl zero vs = some cs.toArray:=by rfl):HG B Γ (Bld zero pl vs k):=fun w hw=>⟨_,hc,h w hw⟩
theorem s_mset {F:α×β→HProp} {m:List (α×β)} {a:α} {v:β} (h:HG B (Sep.stars ((mset a v m).map F)::Γ) k):HG B (F (a,v)::Sep.stars (m.map F)::Γ) k:=by
 rcases mfind a m with ⟨_,h2,_,_⟩ | ⟨j,x,hj,h0,_,_,h2,_⟩
 ·rw [h2 v] at h
  have e:m = m++[]:=by simp
  rw [e]
  exact zCS (A:=m) (C:=[]) (x:=(a,v)) h
 ·rw [h2 v] at h
  have hj':=List.getElem?_eq_some_iff.1 h0
  have e1:m = m.take j++(a,x)::m.drop (j + 1):=by
   obtain ⟨h3,h4⟩:=hj'
   rw [← h4,← List.drop_eq_getElem_cons h3,List.take_append_drop]
  have e2:m.set j (a,v) = m.take j++(a,v)::m.drop (j + 1):=by
   rw [List.set_eq_take_append_cons_drop,if_pos hj]
  rw [e2] at h
  rw [e1]
  refine s_swap ?_
  refine s_mid ?_
  refine s_end (Δ:=F (a,v)::Sep.stars ((m.take j++m.drop (j + 1)).map F)::Γ) ?_
  exact zCS h
theorem zF4 (m:List (α×β)) (a a':α) (v:β):mget a' (mset a v m) = if a' = a then some v else mget a' m:=by
 induction m with
 | nil=>simp [mset,mget]
 | cons p m ih =>
  unfold mset
  split
  ·rename_i h
   subst h
   by_cases h2:a' = p.1 <;> simp [mget,h2]
  ·rename_i h
   by_cases h2:a' = p.1
   ·simp [mget,h2]
    intro h3; exact absurd h3.symm h
   ·simp [mget,h2,ih]
theorem zF5 (m:List (α×β)) (a:α) (v:β):(mset a v m).map Prod.fst = if a ∈ m.map Prod.fst then m.map Prod.fst else m.map Prod.fst++[a]:=by
 induction m with
 | nil=>simp [mset]
 | cons p m ih =>
  unfold mset
  split
  ·rename_i h; simp [h]
  ·rename_i h
   simp only [List.map_cons,ih,List.mem_cons,h,false_or]
   split <;> simp
theorem zF6 {m:List (α×β)} {a:α} {v:β} (h:mget a m = some v):(a,v) ∈ m:=by
 induction m with
 | nil=>cases h
 | cons p m ih =>
  unfold mget at h
  split at h
  ·rename_i h1; injection h with h; subst h1; subst h; exact List.mem_cons_self
  ·exact List.mem_cons_of_mem _ (ih h)
end
end Go.Sep
namespace Go.Proofs.YtdemfamgieonbaaGreat
open Go Go.Sep
structure OpM where
 kind:Int
 key:List UInt8
 val:List UInt8
 n:Int
deriving DecidableEq
abbrev OpX:=OpM×Sl
abbrev opF (x:OpX):List Value:=[.int .i64 x.1.kind,strV x.1.key,x.2.val,.int .i64 x.1.n]
theorem zC4 (x:OpX):(opF x).length = 4:=rfl
structure TxX where
 kind:Int
 reads:List (List UInt8)
 writes:List (List UInt8)
 ops:List OpX
 to:Int
 rs:Sl
 ws:Sl
 os:Sl
abbrev txL (t:TxX):List Value:=[.int .i64 t.kind,t.rs.val,t.ws.val,t.os.val,.int .i64 t.to]
def txRd (w:World) (t:TxX):Prop:=RdC w t.rs 1 (t.reads.map strV)∧RdC w t.ws 1 (t.writes.map strV)∧RdC w t.os 4 (t.ops.flatMap opF)∧∀ x ∈ t.ops,RdB w x.2 x.1.val
end Go.Proofs.YtdemfamgieonbaaGreat
namespace Go.Proofs.YtdemfamgieonbaaGreat
open Go.Proofs Go.Shelf
def sortRen:Go.Shelf.Ren:=⟨fun | 6=>152 | 8=>88 | 9=>191 | 19=>144 | 20=>145 | 21=>214 | 22=>215 | 23=>216 | 24=>217 | 25=>218 | 26=>219 | 27=>220 | 28=>221 | 29=>222 | 36=>235 | 31=>185 | 32=>186 | 37=>236 | 38=>237 | 39=>238 | 41=>244 | n=>n,fun | 27=>22 | 29=>9 | 3=>3 | 32=>204 | 26=>22 | 0=>0 | 44=>273 | 46=>33 | 4=>4 | 36=>265 | 35=>264 | 41=>270 | 5=>5 | 9=>9 | 53=>308 | 57=>312 | 63=>339 | 64=>340 | n=>n,fun | n=>n⟩
theorem sortLay:Go.Proofs.SlLaysM.n6 Tryz.prog sortRen:={
 mixed:=by kernel_rfl
 f6:=⟨Tryz.f152.name,by decide,Tryz.func152.trans (congrArg some (by kernel_rfl))⟩
 f8:=Tryz.func88.trans (congrArg some (by kernel_rfl))
 f9:=⟨Tryz.f191.name,by decide,Tryz.func191.trans (congrArg some (by kernel_rfl))⟩
 f19:=Tryz.func144.trans (congrArg some (by kernel_rfl))
 f20:=Tryz.func145.trans (congrArg some (by kernel_rfl))
 f21:=⟨Tryz.f214.name,by decide,Tryz.func214.trans (congrArg some (by kernel_rfl))⟩
 f22:=⟨Tryz.f215.name,by decide,Tryz.func215.trans (congrArg some (by kernel_rfl))⟩
 f23:=⟨Tryz.f216.name,by decide,Tryz.func216.trans (congrArg some (by kernel_rfl))⟩
 f24:=⟨Tryz.f217.name,by decide,Tryz.func217.trans (congrArg some (by kernel_rfl))⟩
 f25:=⟨Tryz.f218.name,by decide,Tryz.func218.trans (congrArg some (by kernel_rfl))⟩
 f26:=⟨Tryz.f219.name,by decide,Tryz.func219.trans (congrArg some (by kernel_rfl))⟩
 f27:=⟨Tryz.f220.name,by decide,Tryz.func220.trans (congrArg some (by kernel_rfl))⟩
 f28:=⟨Tryz.f221.name,by decide,Tryz.func221.trans (congrArg some (by kernel_rfl))⟩
 f29:=⟨Tryz.f222.name,by decide,Tryz.func222.trans (congrArg some (by kernel_rfl))⟩
 f31:=Tryz.func185.trans (congrArg some (by kernel_rfl))
 f32:=Tryz.func186.trans (congrArg some (by kernel_rfl))
 f36:=⟨Tryz.f235.name,by decide,Tryz.func235.trans (congrArg some (by kernel_rfl))⟩
 f37:=⟨Tryz.f236.name,by decide,Tryz.func236.trans (congrArg some (by kernel_rfl))⟩
 f38:=⟨Tryz.f237.name,by decide,Tryz.func237.trans (congrArg some (by kernel_rfl))⟩
 f39:=⟨Tryz.f238.name,by decide,Tryz.func238.trans (congrArg some (by kernel_rfl))⟩
 f41:=⟨Tryz.f244.name,by decide,Tryz.func244.trans (congrArg some (by kernel_rfl))⟩
 t0:=Tryz.underlying0
 a0:=Tryz.isAgg0
 z0:=Tryz.sizeOf0
 v0:=Tryz.zeroValue0
 t3:=Tryz.underlying3
 a3:=Tryz.isAgg3
 z3:=Tryz.sizeOf3
 v3:=Tryz.zeroValue3
 t4:=Tryz.underlying4
 a4:=Tryz.isAgg4
 z4:=Tryz.sizeOf4
 v4:=Tryz.zeroValue4
 t5:=Tryz.underlying5
 a5:=Tryz.isAgg5
 z5:=Tryz.sizeOf5
 v5:=Tryz.zeroValue5
 t9:=Tryz.underlying9
 a9:=Tryz.isAgg9
 z9:=Tryz.sizeOf9
 v9:=Tryz.zeroValue9
 t26:=Tryz.underlying22
 a26:=Tryz.isAgg22
 z26:=Tryz.sizeOf22
 v26:=Tryz.zeroValue22
 t27:=Tryz.underlying22
 a27:=Tryz.isAgg22
 z27:=Tryz.sizeOf22
 v27:=Tryz.zeroValue22
 t29:=Tryz.underlying9
 a29:=Tryz.isAgg9
 z29:=Tryz.sizeOf9
 v29:=Tryz.zeroValue9
 t32:=Tryz.underlying204
 a32:=Tryz.isAgg204
 z32:=Tryz.sizeOf204
 v32:=Tryz.zeroValue204
 t35:=Tryz.underlying264
 a35:=Tryz.isAgg264
 z35:=Tryz.sizeOf264
 v35:=Tryz.zeroValue264
 t36:=Tryz.underlying265
 a36:=Tryz.isAgg265
 z36:=Tryz.sizeOf265
 v36:=Tryz.zeroValue265
 t41:=Tryz.underlying270
 a41:=Tryz.isAgg270
 z41:=Tryz.sizeOf270
 v41:=Tryz.zeroValue270
 t44:=Tryz.underlying273
 a44:=Tryz.isAgg273
 z44:=Tryz.sizeOf273
 v44:=Tryz.zeroValue273
 t46:=Tryz.underlying33
 a46:=Tryz.isAgg33
 z46:=Tryz.sizeOf33
 v46:=Tryz.zeroValue33
 t53:=Tryz.underlying308
 a53:=Tryz.isAgg308
 z53:=Tryz.sizeOf308
 v53:=Tryz.zeroValue308
 t57:=Tryz.underlying312
 a57:=Tryz.isAgg312
 z57:=Tryz.sizeOf312
 v57:=Tryz.zeroValue312
 t63:=Tryz.underlying339
 a63:=Tryz.isAgg339
 z63:=Tryz.sizeOf339
 v63:=Tryz.zeroValue339
 t64:=Tryz.underlying340
 a64:=Tryz.isAgg340
 z64:=Tryz.sizeOf340
 v64:=Tryz.zeroValue340 }
end Go.Proofs.YtdemfamgieonbaaGreat
namespace Go.Sep
open Go
def G (dl:List Deferred) (n:Nat) (σ:List (Nat×Value)) (k:K) (X:Act→World→Prop):Prop:=∀ a w,SlotsD dl a n σ→k w→X a w
abbrev fe:Option Nat→Fence
 | none=>Fence.wide
 | some l=>Fence.wide.inRound l
def Cx (r:Option Nat) (P:Program) (c:Code) (Q:Exit→Act→World→Prop):Act→World→Prop:=fun a w=>c.wpIn (fe r) 0 P Q a w
def Tx (r:Option Nat) (P:Program) (ops:Array Oper) (Q:Exit→Act→World→Prop) (l:List Oper):Act→World→Prop:=fun a w=>wpListIn (fe r) 0 P ops Q l a w
def Ex (Q:Exit→Act→World→Prop) (e:Exit):Act→World→Prop:=fun a w=>Q e a w
def isDef:Op→Bool
 | .defer _=>true
 | _=>false
theorem zHr {o:Oper} (h:isDef o.op = false):∀ c,o.op ≠ .defer c:=fun c hc=>by rw [hc] at h; cases h
theorem zGP:∀ r,Free (fe r)
 | none=>zGm
 | some l=>zGm.round l
theorem zRv:∀ r,(fe r).alive = false
 | none=>rfl
 | some _=>rfl
theorem zRw:∀ r,(fe r).depth = none
 | none=>rfl
 | some _=>rfl
section
variable {P:Program} {dl:List Deferred} {n:Nat} {σ τ:List (Nat×Value)} {k:K} {X:Act→World→Prop} {r:Option Nat} {ops:Array Oper} {Q:Exit→Act→World→Prop} {l:List Oper} {o:Oper} {a:Act} {w w':World} {v:Value}
theorem zD7 {K1:Act→World→Prop} (hs:SlotsD dl a n σ) (nd:isDef o.op = false) (hp:Eff P σ o w (.value v) w') (h:K1 (a.put o.dst v) w'):o.wpIn (fe r) 0 P a w K1 Q:=by
 refine ⟨fun f _=>(zGP r).fn f,?_⟩
 rw [Oper.semAt_eq _ _ _ (zHr nd)]
 have h1:(execOp a.eval o).run P w = .ok (.value v) w':=hp { a with defers:=[] } n hs.1
 rw [h1,Oper.uponIn_value]; exact h
theorem zLf {K1:Act→World→Prop} (hs:SlotsD dl a n σ) (nd:isDef o.op = false) (hp:Eff P σ o w .skip w') (h:K1 (a.put o.dst undef) w'):o.wpIn (fe r) 0 P a w K1 Q:=by
 refine ⟨fun f _=>(zGP r).fn f,?_⟩
 rw [Oper.semAt_eq _ _ _ (zHr nd)]
 have h1:(execOp a.eval o).run P w = .ok .skip w':=hp { a with defers:=[] } n hs.1
 rw [h1,Oper.uponIn_skip]; exact h
theorem zHJ {K1:Act→World→Prop} {f:FuncId} {args:Array Value} {kk:Value→K} (hs:SlotsD dl a n σ) (nd:isDef o.op = false) (hp:Eff P σ o w (.enter f args) w') (hc:Calls P f args w' (Ret kk))
  (h:∀ v w,kk v w→K1 (a.put o.dst v) w):o.wpIn (fe r) 0 P a w K1 Q:=by
 refine ⟨fun f _=>(zGP r).fn f,?_⟩
 rw [Oper.semAt_eq _ _ _ (zHr nd)]
 have h1:(execOp a.eval o).run P w = .ok (.enter f args) w':=hp { a with defers:=[] } n hs.1
 rw [h1,Oper.uponIn_enter]
 refine ⟨(fun h=>by rw [zRw r] at h; cases h),zGY (zGP r) (zRv r) (hc.mono fun e w'' he=>?_)⟩
 cases e with
 | returned v=>exact h v _ he
 | panicked c=>exact he.elim
 | outgrown=>exact he.elim
theorem zNh {K1:Act→World→Prop} {y:Nat} {args:Array Value} {kk:Value→K} (hs:SlotsD dl a n σ) (nd:isDef o.op = false) (hp:∀ (x:Next),(Instr.yield y args).run P w = .ok x w→Eff P σ o w x w) (hc:YieldAt Fence.wide 0 P y args w (Ret kk))
  (h:∀ v w,kk v w→K1 (a.put o.dst v) w):o.wpIn Fence.wide 0 P a w K1 Q:=by
 obtain ⟨fn,tmps,as1,bd,hy,hr⟩:=hc
 refine ⟨fun f _=>trivial,?_⟩
 rw [Oper.semAt_eq _ _ _ (zHr nd)]
 have h1:(execOp a.eval o).run P w = .ok (.round y fn tmps as1 bd) w:=hp _ hy { a with defers:=[] } n hs.1
 rw [h1,Oper.uponIn_round]
 refine ⟨(fun h=>by cases h),zNQ (hr.mono fun e w'' he=>?_)⟩
 cases e with
 | returned v=>exact h v _ he
 | panicked c=>exact he.elim
 | outgrown=>exact he.elim
theorem t_run (hs:SlotsD dl a n σ) (hw:wants ops σ o = some true) (h:o.wpIn (fe r) 0 P a w (wpListIn (fe r) 0 P ops Q l) Q):wpListIn (fe r) 0 P ops Q (o::l) a w:=by
 unfold wpListIn
 rw [if_pos (zCE hs.1 hw)]; exact h
theorem tx_p {d:Nat} (h:G dl n ((d,v)::σ) k (Tx r P ops Q l)) (hd:o.dst = some d:=by rfl) (hw:wants ops σ o = some true:=by rfl) (hp:Pure P σ o v:=by exact zLa) (hn:Nat.ble (d + 1) n = true:=by rfl) (nd:isDef o.op = false:=by rfl) :
  G dl n σ k (Tx r P ops Q (o::l)):=fun a w hs hk=>t_run hs hw (zD7 hs nd (hp.eff w) (by rw [hd]; exact h _ w (hs.put (Nat.le_of_ble_eq_true hn) v) hk))
theorem tx_no {d:Nat} (h:G dl n ((d,undef)::σ) k (Tx r P ops Q l)) (hd:o.dst = some d:=by rfl) (hw:wants ops σ o = some false:=by rfl) (hn:Nat.ble (d + 1) n = true:=by rfl):G dl n σ k (Tx r P ops Q (o::l)):=fun a w hs hk=>by
 show wpListIn (fe r) 0 P ops Q (o::l) a w
 unfold wpListIn
 rw [if_neg (by rw [zCE hs.1 hw]; simp),hd]
 exact ⟨fun f _=>(zGP r).fn f,h _ w (hs.put (Nat.le_of_ble_eq_true hn) _) hk⟩
theorem tx_no' (h:G dl n σ k (Tx r P ops Q l)) (hd:o.dst = none:=by rfl) (hw:wants ops σ o = some false:=by rfl):G dl n σ k (Tx r P ops Q (o::l)):=fun a w hs hk=>by
 show wpListIn (fe r) 0 P ops Q (o::l) a w
 unfold wpListIn
 rw [if_neg (by rw [zCE hs.1 hw]; simp),hd]
 exact ⟨fun f _=>(zGP r).fn f,h _ w hs hk⟩
section
variable {α:Type} {vx:α→Value} {k':α→K}
theorem WP.wr {σ:List (Nat×Value)} (h:WP P σ o k vx k'):WR P σ o k vx k':=fun w hk=>by obtain ⟨x,hp,h⟩:=h w hk; exact ⟨x,hp.eff w,h⟩
theorem WR.we {σ:List (Nat×Value)} (h:WR P σ o k vx k'):WE P σ o k vx k':=fun w hk=>by obtain ⟨x,hp,h⟩:=h w hk; exact ⟨x,w,hp,h⟩
theorem tx_e0 {d:Nat} (he:WE P σ o k vx k') (h:∀ x,G dl n ((d,vx x)::σ) (k' x) (Tx r P ops Q l)) (hd:o.dst = some d) (hw:wants ops σ o = some true) (hn:Nat.ble (d + 1) n = true) (nd:isDef o.op = false):G dl n σ k (Tx r P ops Q (o::l)):=fun a w hs hk=>by
 obtain ⟨x,w',hp,h'⟩:=he w hk
 exact t_run hs hw (zD7 hs nd hp (by rw [hd]; exact h x _ w' (hs.put (Nat.le_of_ble_eq_true hn) _) h'))
theorem tx_wp {d:Nat} (h:∀ x,G dl n ((d,vx x)::σ) (k' x) (Tx r P ops Q l)) (hd:o.dst = some d:=by rfl) (hw:wants ops σ o = some true:=by rfl) (hp:WP P σ o k vx k':=by exact zJO) (hn:Nat.ble (d + 1) n = true:=by rfl) (nd:isDef o.op = false:=by rfl):G dl n σ k (Tx r P ops Q (o::l)):=tx_e0 hp.wr.we h hd hw hn nd
theorem tx_wr {d:Nat} (h:∀ x,G dl n ((d,vx x)::σ) (k' x) (Tx r P ops Q l)) (hd:o.dst = some d:=by rfl) (hw:wants ops σ o = some true:=by rfl) (hp:WR P σ o k vx k':=by exact zGM) (hn:Nat.ble (d + 1) n = true:=by rfl) (nd:isDef o.op = false:=by rfl):G dl n σ k (Tx r P ops Q (o::l)):=tx_e0 hp.we h hd hw hn nd
theorem tx_we {d:Nat} (h:∀ x,G dl n ((d,vx x)::σ) (k' x) (Tx r P ops Q l)) (hd:o.dst = some d:=by rfl) (hw:wants ops σ o = some true:=by rfl) (hp:WE P σ o k vx k':=by exact zGN) (hn:Nat.ble (d + 1) n = true:=by rfl) (nd:isDef o.op = false:=by rfl):G dl n σ k (Tx r P ops Q (o::l)):=tx_e0 hp h hd hw hn nd
theorem tx_wen (h:∀ x,G dl n σ (k' x) (Tx r P ops Q l)) (hd:o.dst = none:=by rfl) (hw:wants ops σ o = some true:=by rfl) (hp:WE P σ o k vx k':=by exact zGN) (nd:isDef o.op = false:=by rfl):G dl n σ k (Tx r P ops Q (o::l)):=fun a w hs hk=>by
 obtain ⟨x,w',hp,h'⟩:=hp w hk
 exact t_run hs hw (zD7 hs nd hp (by rw [hd]; exact h x _ w' hs h'))
end
theorem tx_wk {k':K} (h:G dl n σ k' (Tx r P ops Q l)) (hd:o.dst = none:=by rfl) (hw:wants ops σ o = some true:=by rfl) (hp:WK P σ o k k':=by exact zLb) (nd:isDef o.op = false:=by rfl):G dl n σ k (Tx r P ops Q (o::l)):=fun a w hs hk=>by
 obtain ⟨w',hp,h'⟩:=hp w hk
 exact t_run hs hw (zLf hs nd hp (by rw [hd]; exact h _ w' hs h'))
theorem tx_wc {d:Nat} {kk:Value→K} (h:∀ u,G dl n ((d,u)::σ) (kk u) (Tx r P ops Q l)) (hd:o.dst = some d:=by rfl) (hw:wants ops σ o = some true:=by rfl) (hp:WC P σ o k kk:=by exact zHH) (hn:Nat.ble (d + 1) n = true:=by rfl) (nd:isDef o.op = false:=by rfl):G dl n σ k (Tx r P ops Q (o::l)):=fun a w hs hk=>by
 obtain ⟨f,args,w',hp,hc⟩:=hp w hk
 exact t_run hs hw (zHJ hs nd hp hc fun v w h'=>by rw [hd]; exact h v _ w (hs.put (Nat.le_of_ble_eq_true hn) _) h')
theorem tx_wcn {kk:Value→K} (h:∀ u,G dl n σ (kk u) (Tx r P ops Q l)) (hd:o.dst = none:=by rfl) (hw:wants ops σ o = some true:=by rfl) (hp:WC P σ o k kk:=by exact zHH) (nd:isDef o.op = false:=by rfl):G dl n σ k (Tx r P ops Q (o::l)):=fun a w hs hk=>by
 obtain ⟨f,args,w',hp,hc⟩:=hp w hk
 exact t_run hs hw (zHJ hs nd hp hc fun v w h'=>by rw [hd]; exact h v _ w hs h')
theorem tx_wy {d:Nat} {kk:Value→K} (h:∀ u,G dl n ((d,u)::σ) (kk u) (Tx none P ops Q l)) (hd:o.dst = some d:=by rfl) (hw:wants ops σ o = some true:=by rfl) (hp:WY P σ o k kk:=by exact wy_y rfl rfl rfl) (hn:Nat.ble (d + 1) n = true:=by rfl) (nd:isDef o.op = false:=by rfl):G dl n σ k (Tx none P ops Q (o::l)):=fun a w hs hk=>by
 obtain ⟨y,args,hp,hc⟩:=hp w hk
 exact t_run (r:=none) hs hw (zNh hs nd hp hc fun v w h'=>by rw [hd]; exact h v _ w (hs.put (Nat.le_of_ble_eq_true hn) _) h')
theorem tx_nil (h:G dl n σ k (Ex Q .normal)):G dl n σ k (Tx r P ops Q []):=fun a w hs hk=>h a w hs hk
section
variable {α β γ δ ε:Type} {d:Nat} {u:Value}
theorem an_0 {v0:Value} (h:G dl n ((d,v0)::σ) k X):G dl n ((d,u)::σ) (Ans0 v0 k u) X:=fun a w hs ⟨hu,hk⟩=>h a w (hu ▸ hs) hk
theorem an_1 {c:α→Value} {k:α→K} (h:∀ x,G dl n ((d,c x)::σ) (k x) X):G dl n ((d,u)::σ) (Ans1 c k u) X:=fun a w hs ⟨x,hu,hk⟩=>h x a w (hu ▸ hs) hk
theorem an_2 {c:α→β→Value} {k:α→β→K} (h:∀ x y,G dl n ((d,c x y)::σ) (k x y) X):G dl n ((d,u)::σ) (Ans2 c k u) X:=fun a w hs ⟨x,y,hu,hk⟩=>h x y a w (hu ▸ hs) hk
theorem an_3 {c:α→β→γ→Value} {k:α→β→γ→K} (h:∀ x y z,G dl n ((d,c x y z)::σ) (k x y z) X):G dl n ((d,u)::σ) (Ans3 c k u) X:=fun a w hs ⟨x,y,z,hu,hk⟩=>h x y z a w (hu ▸ hs) hk
theorem an_4 {c:α→β→γ→δ→Value} {k:α→β→γ→δ→K} (h:∀ x y z t,G dl n ((d,c x y z t)::σ) (k x y z t) X):G dl n ((d,u)::σ) (Ans4 c k u) X:=fun a w hs ⟨x,y,z,t,hu,hk⟩=>h x y z t a w (hu ▸ hs) hk
theorem an_5 {c:α→β→γ→δ→ε→Value} {k:α→β→γ→δ→ε→K} (h:∀ x y z t s,G dl n ((d,c x y z t s)::σ) (k x y z t s) X):G dl n ((d,u)::σ) (Ans5 c k u) X:=fun a w hs ⟨x,y,z,t,s,hu,hk⟩=>h x y z t s a w (hu ▸ hs) hk
theorem am_0 {v0:Value} (h:G dl n σ k X):G dl n σ (Ans0 v0 k u) X:=fun a w hs ⟨_,hk⟩=>h a w hs hk
theorem am_1 {c:α→Value} {k:α→K} (h:∀ x,G dl n σ (k x) X):G dl n σ (Ans1 c k u) X:=fun a w hs ⟨x,_,hk⟩=>h x a w hs hk
theorem am_2 {c:α→β→Value} {k:α→β→K} (h:∀ x y,G dl n σ (k x y) X):G dl n σ (Ans2 c k u) X:=fun a w hs ⟨x,y,_,hk⟩=>h x y a w hs hk
end
def gslot (ops:Array Oper) (σ:List (Nat×Value)) (o:Oper):Option Value:=match o.guard with
 | none=>none
 | some (j,_)=>match (ops[j]?).bind (·.dst) with
  | none=>none
  | some t=>look σ t
theorem tx_ite {b:Bool} {x y:K} (h1:b = true→G dl n σ x (Tx r P ops Q (o::l))) (h2:b = false→G dl n σ y (Tx r P ops Q (o::l))) (hg:gslot ops σ o = some (.bool b):=by rfl):G dl n σ (Ite b x y) (Tx r P ops Q (o::l)):=fun a w hs hk=>by
 cases b
 ·exact h2 rfl a w hs (hk.2 rfl)
 ·exact h1 rfl a w hs (hk.1 rfl)
theorem zDE (h:∀ a w,SlotsD dl a n σ→k w→X a w):G dl n σ k X:=h
theorem gx_nn {p:Option Addr} {kp:Addr→K} (h:∀ a,p = some a→G dl n σ (kp a) X):G dl n σ (Nn p kp) X:=fun a w hs ⟨b,hb,hk⟩=>h b hb a w hs hk
theorem gx_fv {f:Value} {kf:FuncId→Array Value→Array Value→K} (h:∀ g fs cs,f = .func (.func g) fs cs→CB P g→G dl n σ (kf g fs cs) X):G dl n σ (Fv P f kf) X:=fun a w hs ⟨g,fs,cs,hf,hc,hk⟩=>h g fs cs hf ⟨hc⟩ a w hs hk
theorem zJP:G dl n σ Dead X:=fun _ _ _ hk=>hk.elim
def Gp (dl:List Deferred) (n:Nat) (X:Act→World→Prop) (τ:List (Nat×Value)) (k:K):Prop:=G dl n τ k X
theorem gp_in (h:G dl n σ k X):Gp dl n X σ k:=h
theorem zE6 (h:Sub σ τ:=by repeat (first | exact trivial | refine ⟨rfl,?_⟩)):Sub σ τ:=h
theorem zJQ (h:Gp dl n X τ k:=by apply_assumption) (hs:Sub σ τ:=by exact zE6):G dl n σ k X:=fun a w hs' hk=>h a w (hs'.to hs) hk
theorem gx_unf (h:G dl n σ k X):∀ a w,SlotsD dl a n σ→k w→X a w:=h
def firstTwo (a b:Nat):Nat:=match Nat.beq a 1000000 with
 | true=>b
 | false=>a
def firstReg:Code→Nat
 | .region id _ _=>id
 | .seq x y=>firstTwo (firstReg x) (firstReg y)
 | .cond _ x y=>firstTwo (firstReg x) (firstReg y)
 | .block _ c=>firstReg c
 | .loop c=>firstReg c
 | .scope c=>firstReg c
 | .rangeFunc _ _ a _=>firstReg a
 | _=>1000000
def lastReg:Code→Nat
 | .region id _ _=>id
 | .seq x y=>firstTwo (lastReg y) (lastReg x)
 | .cond _ x y=>firstTwo (lastReg y) (lastReg x)
 | .block _ c=>lastReg c
 | .loop c=>lastReg c
 | .scope c=>lastReg c
 | .rangeFunc _ _ _ b=>lastReg b
 | _=>1000000
def seqKey (x y:Code):Nat:=firstTwo (firstReg y) (1000000 + lastReg x)
structure JH (id:Nat) (H:(List (Nat×Value)→((List (Nat×Value)→K→Prop)→Prop)→Prop)→Prop):Prop where
 h:∀ D,H D→∃ pre C,D pre C
structure LH (id:Nat) {α:Type} (S:α→List (Nat×Value)) (body:(α→K)→α→K):Prop
structure XH (id:Nat) {α:Type} (X:α→K):Prop
variable {x y c:Code} {id:Nat}
theorem cx_seq (h:G dl n σ k (Cx r P x (Exit.then (Cx r P y Q) Q))):G dl n σ k (Cx r P (.seq x y) Q):=fun a w hs hk=>wpIn_seq (h a w hs hk)
def Jp (dl:List Deferred) (n:Nat) (σ:List (Nat×Value)) (k:K) (r:Option Nat) (P:Program) (x y:Code) (Q:Exit→Act→World→Prop) (pre:List (Nat×Value)) (C:(List (Nat×Value)→K→Prop)→Prop):Prop :=
 Sub σ pre∧C (Gp dl n (Cx r P y Q))∧∀ Kc,C (Gp dl n Kc)→G dl n σ k (Cx r P x (Exit.then Kc Q))
theorem ex_i {α:Sort _} {p:α→Prop} {x:α} (h:p x):∃ x,p x:=⟨x,h⟩
theorem zJR {H:(List (Nat×Value)→((List (Nat×Value)→K→Prop)→Prop)→Prop)→Prop} (h:H (Jp dl n σ k r P x y Q)) (hi:seqKey x y = id:=by rfl) (hh:JH id H:=by first | assumption | (apply_assumption <;> assumption)):G dl n σ k (Cx r P (.seq x y) Q):=fun a w hs hk=>by
 obtain ⟨pre,C,_,h1,h2⟩:=hh.h _ h
 exact wpIn_seq (h2 _ h1 a w hs hk)
theorem zJS (h:G dl n σ k (Ex Q .normal)):G dl n σ k (Cx r P .skip Q):=fun a w hs hk=>wpIn_skip (h a w hs hk)
theorem zHs {i:Nat} (h:G dl n σ k (Ex Q .normal)):G dl n σ k (Cx r P (.label i) Q):=fun a w hs hk=>wpIn_label (h a w hs hk)
theorem zJT {i:Nat} (h:G dl n σ k (Ex Q (.exit i))):G dl n σ k (Cx r P (.exit i) Q):=fun a w hs hk=>wpIn_exit (h a w hs hk)
theorem cx_ret (h:G dl n σ k (Ex Q .ret)):G dl n σ k (Cx r P .ret Q):=fun a w hs hk=>wpIn_ret (h a w hs hk)
theorem zHt {i:Nat} (h:G dl n σ k (Cx r P c (Exit.inBlock i Q))):G dl n σ k (Cx r P (.block i c) Q):=fun a w hs hk=>wpIn_block (h a w hs hk)
theorem zTL {e:Operand} {b:Bool} {kx ky:K} (h1:G dl n σ kx (Cx r P x Q)) (h2:G dl n σ ky (Cx r P y Q)) (he:ev σ e = some (.bool b):=by rfl):G dl n σ (Ite b kx ky) (Cx r P (.cond e x y) Q):=fun a w hs hk =>
 wpIn_cond_split (hs.1.ev he) (fun hb=>h1 a w hs (hk.1 hb)) (fun hb=>h2 a w hs (hk.2 hb))
theorem zGq {e:Operand} (h:G dl n σ k (Cx r P x Q)) (he:ev σ e = some (.bool true):=by rfl):G dl n σ k (Cx r P (.cond e x y) Q):=fun a w hs hk=>wpIn_cond_true (hs.1.ev he) (h a w hs hk)
theorem zGr {e:Operand} (h:G dl n σ k (Cx r P y Q)) (he:ev σ e = some (.bool false):=by rfl):G dl n σ k (Cx r P (.cond e x y) Q):=fun a w hs hk=>wpIn_cond_false (hs.1.ev he) (h a w hs hk)
theorem cx_reg {i:Nat} (h:G dl n σ k (Tx r P l.toArray Q l)):G dl n σ k (Cx r P (.region i l.toArray false) Q):=fun a w hs hk=>wpIn_region_lit (h a w hs hk)
def Lx (dl:List Deferred) (n:Nat) {α:Type} (S:α→List (Nat×Value)) (X:α→K):Act→World→Prop:=fun a w=>∃ x,SlotsD dl a n (S x)∧X x w
theorem zJU {α:Type} {body:(α→K)→α→K} {x0:α} {S:α→List (Nat×Value)} (h:∀ X:α→K,XH id X→∀ x,G dl n (S x) (body X x) (Cx r P c (Exit.then (Lx dl n S X) Q))) (hi:firstReg c = id:=by rfl) (hh:LH id S body:=by first | assumption | (apply_assumption <;> assumption)) (h0:Sub σ (S x0):=by exact zE6) :
  G dl n σ (LoopK body x0) (Cx r P (.loop c) Q):=fun a w hs ⟨I,μ,hI,hr⟩=>by
 refine zTA I μ (fun x a=>SlotsD dl a n (S x)) x0 hI (hs.to h0) fun x a w hI hG=>?_
 refine wpIn_mono (h _ ⟨⟩ x a w hG (hr x w hI)) fun e a w hq=>?_
 cases e with
 | normal=>exact hq
 | _=>exact hq
theorem lx_end {α:Type} {S:α→List (Nat×Value)} {X:α→K} {x:α} (hk:k = X x:=by rfl) (h0:Sub σ (S x):=by exact zE6):G dl n σ k (Lx dl n S X):=fun a w hs h=>⟨x,hs.to h0,hk ▸ h⟩
theorem zJV {Kc:Act→World→Prop} (h:G dl n σ k Kc):G dl n σ k (Ex (Exit.then Kc Q) .normal):=h
theorem zGs {Kc:Act→World→Prop} {i:Nat} (h:G dl n σ k (Ex Q (.exit i))):G dl n σ k (Ex (Exit.then Kc Q) (.exit i)):=h
theorem zGt {Kc:Act→World→Prop} (h:G dl n σ k (Ex Q .ret)):G dl n σ k (Ex (Exit.then Kc Q) .ret):=h
theorem ex_blk {i:Nat} (h:G dl n σ k (Ex Q .normal)):G dl n σ k (Ex (Exit.inBlock i Q) .normal):=h
theorem zHu {i:Nat} (h:G dl n σ k (Ex Q .ret)):G dl n σ k (Ex (Exit.inBlock i Q) .ret):=h
theorem zHv {i:Nat} (h:G dl n σ k (Ex Q .normal)):G dl n σ k (Ex (Exit.inBlock i Q) (.exit i)):=fun a w hs hk=>by
 show Exit.inBlock i Q (.exit i) a w
 simp only [Exit.inBlock,if_true]; exact h a w hs hk
theorem zHw {i j:Nat} (h:G dl n σ k (Ex Q (.exit j))) (hij:Nat.beq j i = false:=by rfl):G dl n σ k (Ex (Exit.inBlock i Q) (.exit j)):=fun a w hs hk=>by
 show Exit.inBlock i Q (.exit j) a w
 have:j ≠ i:=fun e=>by rw [e,Nat.beq_refl] at hij; cases hij
 simp only [Exit.inBlock,this,if_false]; exact h a w hs hk
def fin:List Value→Value
 | [v]=>v
 | l=>.tuple l.toArray
theorem fin_eq (l:List Value):fin l = if h:l.toArray.size = 1 then l.toArray[0] else .tuple l.toArray:=by
 cases l with
 | nil=>rfl
 | cons v l=>cases l <;> rfl
def Rx (P:Program) (kk:Value→K) (rs:List ResultVar) (vs:List Value):Act→World→Prop:=fun a w=>∃ us,(List.mapM (resSem a.tmps) rs).run P w = .ok us w∧kk (fin (vs++us)) w
theorem rx_run {fn:Func} {kk:Value→K} (h:Rx P kk fn.results.toList [] a w):∃ v,(results fn a.tmps).run P w = .ok v w∧kk v w:=by
 obtain ⟨us,h1,h2⟩:=h
 refine ⟨fin us,?_,h2⟩
 rw [zPq,← Array.toArray_toList (xs:=fn.results),Array.mapM_eq_mapM_toList]
 simp only [Array.toArray_toList]
 simp only [Sem.run_bind,Sem.run_map,h1,Result.andThen,Sem.run_pure]
 rw [fin_eq]
theorem ex_ret {fn:Func} {kk:Value→K} {rs:List ResultVar} (h:G [] n σ k (Rx P kk rs [])) (hr:fn.results = rs.toArray:=by rfl):G [] n σ k (Ex (bodyPostT P fn (Ret kk)) .ret):=fun a w hs hk=>by
 obtain ⟨v,h1,h2⟩:=rx_run (fn:=fn) (by rw [hr]; exact h a w hs hk)
 show LeavesInM Fence.wide 0 P fn a.tmps (Ret kk) a.defers .returning w
 rw [hs.2]
 exact ⟨v,h1,h2⟩
theorem ex_end {fn:Func} {kk:Value→K} (h:G dl n σ k (Ex (bodyPostT P fn (Ret kk)) .ret)):G dl n σ k (Ex (bodyPostT P fn (Ret kk)) .normal):=h
theorem zJW {fn:Func} {kk:Value→K} {D:Nat} {rs:List ResultVar} (h:G (markD D) n σ k (Rx P kk rs [])) (hr:fn.results = rs.toArray:=by rfl):G (markD D) n σ (TakeD D k) (Ex (bodyPostT P fn (Ret kk)) .ret):=fun a w hs hk=>by
 obtain ⟨v,h1,h2⟩:=rx_run (fn:=fn) (by rw [hr]; exact h a _ hs hk.2)
 show LeavesInM Fence.wide 0 P fn a.tmps (Ret kk) a.defers .returning w
 rw [hs.2]
 exact ⟨by simp,.inl ⟨D,_,rfl,run_takeDeferred hk.1,v,h1,h2⟩⟩
theorem rx_tmp {kk:Value→K} {t:Nat} {rs:List ResultVar} {vs:List Value} (h:G dl n σ k (Rx P kk rs (vs++[v]))) (ht:look σ t = some v:=by rfl):G dl n σ k (Rx P kk (.tmp t::rs) vs):=fun a w hs hk=>by
 obtain ⟨us,h1,h2⟩:=h a w hs hk
 refine ⟨v::us,?_,by simpa using h2⟩
 rw [List.mapM_cons]
 have h3:(resSem a.tmps (.tmp t)).run P w = .ok v w:=zIm (a:={ a with defers:=[] }) hs.1 (r:=.tmp t) ht
 simp only [Sem.run_bind,h3,h1,Sem.run_pure,Result.andThen]
theorem zJX {α:Type} {c:α→Value} {kx:α→K} {kk:Value→K} {t T:Nat} {b:Addr} {rs:List ResultVar} {vs:List Value} [cl:CT P T] (h:∀ x,G dl n σ (kx x) (Rx P kk rs (vs++[c x]))) (ht:look σ t = some (.pointer (some b)):=by rfl):G dl n σ (Ld b c kx) (Rx P kk (.cell t T::rs) vs):=fun a w hs ⟨x,hv,hk⟩=>by
 obtain ⟨us,h1,h2⟩:=h x a w hs hk
 refine ⟨c x::us,?_,by simpa using h2⟩
 rw [List.mapM_cons]
 have h3:(resSem a.tmps (.cell t T)).run P w = .ok (c x) w:=zIm (a:={ a with defers:=[] }) hs.1 (r:=.cell t T) ⟨_,ht,zOa cl.h hv⟩
 simp only [Sem.run_bind,h3,h1,Sem.run_pure,Result.andThen]
theorem zHx {kx:Array Value→K} {kk:Value→K} {t T m:Nat} {b:Addr} {rs:List ResultVar} {vs:List Value} [cl:AT P T m] (h:∀ x,G dl n σ (kx x) (Rx P kk rs (vs++[.agg x]))) (ht:look σ t = some (.pointer (some b)):=by rfl):G dl n σ (LdN b m kx) (Rx P kk (.cell t T::rs) vs):=fun a w hs ⟨x,hn,hv,hk⟩=>by
 obtain ⟨us,h1,h2⟩:=h x a w hs hk
 refine ⟨.agg x::us,?_,by simpa using h2⟩
 rw [List.mapM_cons]
 have h3:(resSem a.tmps (.cell t T)).run P w = .ok (.agg x) w:=zIm (a:={ a with defers:=[] }) hs.1 (r:=.cell t T) ⟨_,ht,zNO cl.h hn hv⟩
 simp only [Sem.run_bind,h3,h1,Sem.run_pure,Result.andThen]
def Fx (k:K):Act→World→Prop:=fun _ w=>k w
theorem rx_nil {kk:Value→K} {vs:List Value} (h:G dl n σ k (Fx (kk (fin vs)))):G dl n σ k (Rx P kk [] vs):=fun a w hs hk=>⟨[],by simp,by rw [List.append_nil]; exact h a w hs hk⟩
section
variable {α β γ δ ε:Type} {u:Value}
theorem fx_0 {v0:Value} {q:K} (hk:k = q:=by rfl) (hu:u = v0:=by rfl):G dl n σ k (Fx (Ans0 v0 q u)):=fun _ w _ h=>⟨hu,hk ▸ h⟩
theorem fx_1 {c:α→Value} {q:α→K} {x:α} (hk:k = q x:=by rfl) (hu:u = c x:=by rfl):G dl n σ k (Fx (Ans1 c q u)):=fun _ w _ h=>⟨x,hu,hk ▸ h⟩
theorem fx_2 {c:α→β→Value} {q:α→β→K} {x:α} {y:β} (hk:k = q x y:=by rfl) (hu:u = c x y:=by rfl):G dl n σ k (Fx (Ans2 c q u)):=fun _ w _ h=>⟨x,y,hu,hk ▸ h⟩
theorem fx_3 {c:α→β→γ→Value} {q:α→β→γ→K} {x:α} {y:β} {z:γ} (hk:k = q x y z:=by rfl) (hu:u = c x y z:=by rfl):G dl n σ k (Fx (Ans3 c q u)):=fun _ w _ h=>⟨x,y,z,hu,hk ▸ h⟩
theorem fx_4 {c:α→β→γ→δ→Value} {q:α→β→γ→δ→K} {x:α} {y:β} {z:γ} {t:δ} (hk:k = q x y z t:=by rfl) (hu:u = c x y z t:=by rfl):G dl n σ k (Fx (Ans4 c q u)):=fun _ w _ h=>⟨x,y,z,t,hu,hk ▸ h⟩
theorem fx_5 {c:α→β→γ→δ→ε→Value} {q:α→β→γ→δ→ε→K} {x:α} {y:β} {z:γ} {t:δ} {s:ε} (hk:k = q x y z t s:=by rfl) (hu:u = c x y z t s:=by rfl):G dl n σ k (Fx (Ans5 c q u)):=fun _ w _ h=>⟨x,y,z,t,s,hu,hk ▸ h⟩
end
end
def numb:Nat→List Value→List (Nat×Value)
 | _,[]=>[]
 | i,v::vs=>(i,v)::numb (i + 1) vs
theorem zO9 (l:List Value) (i:Nat):((l.zipIdx i).map fun p=>(p.2,p.1)) = numb i l:=by
 induction l generalizing i with
 | nil=>rfl
 | cons v l ih=>simp [numb,List.zipIdx_cons,ih]
theorem zLg {P:Program} {f:FuncId} {fn:Func} {c:Code} {args:List Value} {kk:Value→K} {k:K} (n:Nat) {w:World} (hk:k w) (hf:P.funcs[f]? = some fn) (h:G [] n (numb 0 args) k (Cx none P c (bodyPostT P fn (Ret kk)))) (hb:fn.body = some c:=by rfl) (hn:fn.ntmps = n:=by rfl) (hl:Nat.ble args.length n = true:=by rfl) :
  CallF P f args.toArray kk w:=by
 subst hn
 refine zRp hf hb (Nat.le_of_ble_eq_true hl) fun a hs=>h a w (by rw [← zO9]; exact hs) hk
end Go.Sep
