/- Texts of the claim SchedSerial, one behind the other. -/
import Derived.Below
import Derived.Calls
import Derived.OrdersHeld
import Derived.Still
import Derived.Tactics
import Derived.Laws.Sem
import Derived.KernelRfl
import Derived.Laws.Bits
import Derived.RangeFuncRecord
import Derived.RangeFuncSeq
import Derived.RangeFuncCalls
import Derived.TacticsIn
import Derived.OrdersIn
import Derived.Laws.Externs
import Derived.Test.YtdemfamgieonbaaGreatProg
import Derived.DefersIn
import Derived.RangeFuncLeaves
import GoSem.Instr.MapEntry
import Derived.Deep.Slices
import Derived.Carry
import Derived.ProofKit
import Derived.OpenShut
set_option linter.all false
set_option maxRecDepth 100000
abbrev Go.Sep.Pt:=Option Go.Addr
abbrev Go.Sep.Av:=Array Go.Value
namespace Go.Sep
section
open Go Go.RowKit
abbrev Hp:=Nat→Option Obj
abbrev zC:=Hp→Prop
def Hp.le (h g:Hp):Prop:=∀ b o,h b = some o→g b = some o
def Hp.zNa (h g:Hp):Prop:=∀ b,h b = none∨g b = none
def Hp.one (b:Nat) (o:Obj):Hp:=fun c=>if c = b then some o else none
def Hp.or (h g:Hp):Hp:=fun b=>match h b with | some o=>some o | none=>g b
theorem Hp.le_refl (h:Hp):h.le h:=fun _ _ e=>e
theorem Hp.le_trans {a b c:Hp} (h:a.le b) (g:b.le c):a.le c:=fun k o e=>g k o (h k o e)
theorem Hp.zFe {a b:Hp} (h:a.zNa b):b.zNa a:=fun k=>(h k).symm
theorem Hp.zEn {a b c d:Hp} (h:a.zNa b) (hc:c.le a) (hd:d.le b):c.zNa d:=fun k=>by
 rcases h k with h | h
 ·left; cases e:c k with
  | none=>rfl
  | some o=>have:=hc k o e; rw [h] at this; cases this
 ·right; cases e:d k with
  | none=>rfl
  | some o=>have:=hd k o e; rw [h] at this; cases this
theorem Hp.zIf (a b:Hp):a.le (a.or b):=fun k o e=>by simp [Hp.or,e]
theorem Hp.zGt {a b:Hp} (h:a.zNa b):b.le (a.or b):=fun k o e=>by
 rcases h k with h | h
 ·simp [Hp.or,h,e]
 ·rw [h] at e; cases e
theorem Hp.zV8 {a b c:Hp} (ha:a.le c) (hb:b.le c):(a.or b).le c:=fun k o e=>by
 unfold Hp.or at e
 split at e
 ·rename_i x hx; cases e; exact ha _ _ hx
 ·exact hb _ _ e
theorem Hp.zOz {a b c:Hp} (ha:a.zNa c) (hb:b.zNa c):(a.or b).zNa c:=fun k=>by
 rcases hb k with h | h
 ·rcases ha k with g | g
  ·left; simp [Hp.or,g,h]
  ·right; exact g
 ·right; exact h
def blk (b:Nat) (o:Obj):zC:=fun h=>h b = some o
def pur (p:Prop):zC:=fun _=>p
def ex {α:Sort _} (A:α→zC):zC:=fun h=>∃ x,A x h
def stars:List zC→zC
 | [],_=>True
 | A::Γ,h=>∃ h1 h2,A h1∧stars Γ h2∧h1.le h∧h2.le h∧h1.zNa h2
theorem zQg {Γ:List zC} {h g:Hp} (hs:stars Γ h) (hl:h.le g):stars Γ g:=by
 cases Γ with
 | nil=>trivial
 | cons A Γ=>
  obtain ⟨h1,h2,a,b,l1,l2,d⟩:=hs
  exact ⟨h1,h2,a,b,Hp.le_trans l1 hl,Hp.le_trans l2 hl,d⟩
theorem zL5 {A:zC} {Γ:List zC} {h:Hp} (hs:stars (A::Γ) h):stars Γ h:=by
 obtain ⟨h1,h2,_,b,_,l2,_⟩:=hs
 exact zQg b l2
theorem zL6 {A B:zC} {Γ:List zC} {h:Hp} (hs:stars (A::B::Γ) h):stars (B::A::Γ) h:=by
 obtain ⟨h1,h2,a,⟨h3,h4,b,c,l3,l4,d'⟩,l1,l2,d⟩:=hs
 refine ⟨h3,h1.or h4,b,⟨h1,h4,a,c,Hp.zIf _ _,?_,?_⟩,Hp.le_trans l3 l2,Hp.zV8 l1 (Hp.le_trans l4 l2),?_⟩
 ·exact Hp.zGt (Hp.zEn d (Hp.le_refl _) l4)
 ·exact Hp.zEn d (Hp.le_refl _) l4
 ·exact Hp.zFe (Hp.zOz (Hp.zEn d (Hp.le_refl _) l3) (Hp.zFe d'))
theorem zCD {A B:zC} {Γ Δ:List zC} {h:Hp} (ha:∀ h,A h→B h) (hg:∀ h,stars Γ h→stars Δ h) (hs:stars (A::Γ) h):stars (B::Δ) h:=by
 obtain ⟨h1,h2,a,b,l1,l2,d⟩:=hs
 exact ⟨h1,h2,ha _ a,hg _ b,l1,l2,d⟩
theorem zL7 {Γ Δ:List zC} (hp:Γ.Perm Δ):∀ {h:Hp},stars Γ h→stars Δ h:=by
 induction hp with
 | nil=>exact fun h=>h
 | cons x _ ih=>exact fun h=>zCD (fun _ h=>h) (fun _ h=>ih h) h
 | swap x y l=>exact zL6
 | trans _ _ ih1 ih2=>exact fun h=>ih2 (ih1 h)
theorem zO0 {Γ Δ:List zC}:∀ {h:Hp},stars (Γ++Δ) h ↔ ∃ h1 h2,stars Γ h1∧stars Δ h2∧h1.le h∧h2.le h∧h1.zNa h2:=by
 induction Γ with
 | nil=>
  intro h
  constructor
  ·intro hs; exact ⟨fun _=>none,h,trivial,hs,fun _ _ e=>(by cases e),Hp.le_refl _,fun _=>.inl rfl⟩
  ·rintro ⟨_,h2,_,hs,_,l,_⟩; exact zQg hs l
 | cons A Γ ih=>
  intro h
  constructor
  ·rintro ⟨h1,h2,a,b,l1,l2,d⟩
   obtain ⟨h3,h4,c,e,l3,l4,d'⟩:=ih.1 b
   refine ⟨h1.or h3,h4,⟨h1,h3,a,c,Hp.zIf _ _,Hp.zGt (Hp.zEn d (Hp.le_refl _) l3),Hp.zEn d (Hp.le_refl _) l3⟩,e,Hp.zV8 l1 (Hp.le_trans l3 l2),Hp.le_trans l4 l2,?_⟩
   exact Hp.zOz (Hp.zEn d (Hp.le_refl _) l4) d'
  ·rintro ⟨h1,h2,⟨h3,h4,a,c,l3,l4,d'⟩,b,l1,l2,d⟩
   refine ⟨h3,h4.or h2,a,ih.2 ⟨h4,h2,c,b,Hp.zIf _ _,Hp.zGt (Hp.zEn d l4 (Hp.le_refl _)),Hp.zEn d l4 (Hp.le_refl _)⟩,Hp.le_trans l3 l1,Hp.zV8 (Hp.le_trans l4 l1) l2,?_⟩
   exact Hp.zFe (Hp.zOz (Hp.zFe d') (Hp.zFe (Hp.zEn d l3 (Hp.le_refl _))))
def own (B w:World):Hp:=fun b=>if b < B.heap.size then none else w.heap[b]?
theorem zGu {B w:World} {b:Nat} {o:Obj} (h:own B w b = some o):B.heap.size ≤ b∧w.heap[b]? = some o:=by
 unfold own at h
 split at h
 ·cases h
 ·exact ⟨by omega,h⟩
structure Holds (B:World) (Γ:List zC) (w:World):Prop where
 below:Below B.heap.size B w
 stars:stars Γ (own B w)
section
variable {B w:World} {Γ Δ:List zC} {A A':zC}
theorem Holds.start (B:World):Holds B [] B:=⟨Below.refl _ _,trivial⟩
theorem Holds.perm (h:Holds B Γ w) (hp:Γ.Perm Δ):Holds B Δ w:=⟨h.below,zL7 hp h.stars⟩
theorem Holds.tail (h:Holds B (A::Γ) w):Holds B Γ w:=⟨h.below,zL5 h.stars⟩
theorem Holds.swap {A A':zC} (h:Holds B (A::A'::Γ) w):Holds B (A'::A::Γ) w:=⟨h.below,zL6 h.stars⟩
theorem Holds.imp (h:Holds B (A::Γ) w) (hi:∀ h,A h→A' h):Holds B (A'::Γ) w:=⟨h.below,zCD hi (fun _ h=>h) h.stars⟩
theorem zJ3 {α:Type _}:∀ {l:List α} {i:Nat} {x:α},l[i]? = some x→l.Perm (x::l.eraseIdx i)
 | [],i,x,h=>by simp at h
 | y::l,0,x,h=>by simp at h; subst h; simp
 | y::l,i + 1,x,h=>by
  simp only [List.getElem?_cons_succ] at h
  exact ((zJ3 h).cons y).trans (.swap _ _ _)
theorem Holds.pick (i:Nat) (h:Holds B Γ w) (hi:Γ[i]? = some A):Holds B (A::Γ.eraseIdx i) w:=h.perm (zJ3 hi)
theorem Holds.del (i:Nat) (h:Holds B Γ w) (hi:Γ[i]? = some A):Holds B (Γ.eraseIdx i) w:=(h.pick i hi).tail
theorem zQh {α:Type _}:∀ {l:List α} {i:Nat} {x y:α},l[i]? = some x→(y::l.eraseIdx i).Perm (l.set i y)
 | [],i,x,y,h=>by simp at h
 | z::l,0,x,y,h=>by simp
 | z::l,i + 1,x,y,h=>by
  simp only [List.getElem?_cons_succ] at h
  exact (List.Perm.swap _ _ _).trans ((zQh h).cons z)
theorem Holds.put (i:Nat) (hi:Γ[i]? = some A) (h:Holds B (A'::Γ.eraseIdx i) w):Holds B (Γ.set i A') w:=h.perm (zQh hi)
theorem Holds.ex {α:Sort _} {F:α→zC}:Holds B (Sep.ex F::Γ) w ↔ ∃ x,Holds B (F x::Γ) w:=by
 constructor
 ·rintro ⟨hb,h1,h2,⟨x,a⟩,b,l1,l2,d⟩; exact ⟨x,hb,h1,h2,a,b,l1,l2,d⟩
 ·rintro ⟨x,hb,h1,h2,a,b,l1,l2,d⟩; exact ⟨hb,h1,h2,⟨x,a⟩,b,l1,l2,d⟩
theorem Holds.pur {p:Prop}:Holds B (Sep.pur p::Γ) w ↔ p∧Holds B Γ w:=by
 constructor
 ·intro h; exact ⟨by obtain ⟨_,_,_,a,_⟩:=h; exact a,h.tail⟩
 ·rintro ⟨hp,hb,hs⟩; exact ⟨hb,fun _=>Option.none,_,hp,hs,fun _ _ e=>(by cases e),Hp.le_refl _,fun _=>.inl rfl⟩
theorem zL8 {h:Hp}:Sep.stars (Sep.stars Δ::Γ) h ↔ Sep.stars (Δ++Γ) h:=by
 rw [zO0]; rfl
theorem Holds.flat:Holds B (Sep.stars Δ::Γ) w ↔ Holds B (Δ++Γ) w :=
 ⟨fun h=>⟨h.below,zL8.1 h.stars⟩,fun h=>⟨h.below,zL8.2 h.stars⟩⟩
theorem Holds.zCn (h:Holds B Γ w):Holds B (Sep.stars []::Γ) w:=Holds.flat.2 h
theorem Holds.fact {p:Prop} (h:Holds B (A::Γ) w) (hi:∀ h,A h→p):p:=by
 obtain ⟨_,_,_,a,_⟩:=h; exact hi _ a
theorem Holds.block {b:Nat} {o:Obj} (h:Holds B (blk b o::Γ) w):w.heap[b]? = some o:=by
 obtain ⟨_,h1,h2,a,_,l1,_,_⟩:=h
 exact (zGu (l1 _ _ a)).2
theorem Holds.base {b:Nat} {o:Obj} (h:Holds B (blk b o::Γ) w):B.heap.size ≤ b:=by
 obtain ⟨_,h1,h2,a,_,l1,_,_⟩:=h
 exact (zGu (l1 _ _ a)).1
theorem Holds.apart {b c:Nat} {o p:Obj} (h:Holds B (blk b o::blk c p::Γ) w):b ≠ c:=by
 rintro rfl
 obtain ⟨_,h1,h2,a,⟨h3,h4,a',_,l3,_,_⟩,l1,_,d⟩:=h
 rcases d b with e | e
 ·unfold blk at a; rw [e] at a; cases a
 ·have:=l3 _ _ a'; rw [e] at this; cases this
theorem zQi (B w:World) (o:Obj):(own B w).le (own B { w with heap:=w.heap.push o }):=fun b p e=>by
 obtain ⟨hb,e⟩:=zGu e
 have hlt:b < w.heap.size:=(Array.getElem?_eq_some_iff.1 e).1
 unfold own
 rw [if_neg (by omega)]
 show (w.heap.push o)[b]? = _
 rw [Array.getElem?_push,if_neg (by omega)]; exact e
theorem zSP (h:Below B.heap.size B w) (o:Obj):Below B.heap.size B { w with heap:=w.heap.push o }:=h.alloc h.size o
theorem Holds.alloc (h:Holds B Γ w) (o:Obj):Holds B (blk w.heap.size o::Γ) { w with heap:=w.heap.push o }:=by
 refine ⟨zSP h.below o,Hp.one w.heap.size o,own B w,by simp [blk,Hp.one],h.stars,?_,zQi B w o,?_⟩
 ·intro b p e
  unfold Hp.one at e
  split at e
  ·rename_i hb; subst hb; cases e
   unfold own
   rw [if_neg (by have:=h.below.size; omega)]
   show (w.heap.push o)[w.heap.size]? = _
   simp
  ·cases e
 ·intro b
  by_cases hb:b = w.heap.size
  ·right; unfold own; split
   ·rfl
   ·subst hb; simp
  ·left; simp [Hp.one,hb]
theorem Holds.setBlock {b:Nat} {o o':Obj} (h:Holds B (blk b o::Γ) w) {w':World} (hw:w' = { w with heap:=w.heap.setIfInBounds b o' }):Holds B (blk b o'::Γ) w':=by
 subst hw
 have hblock:=h.block
 have hlt:b < w.heap.size:=(Array.getElem?_eq_some_iff.1 hblock).1
 have hbase:=h.base
 obtain ⟨hbelow,h1,h2,a,b2,l1,l2,d⟩:=h
 refine ⟨⟨hbelow.os,hbelow.tape,hbelow.output,by simpa using hbelow.size,fun k hk=>?_⟩,Hp.one b o',h2,by simp [blk,Hp.one],b2,?_,?_,?_⟩
 ·show (w.heap.setIfInBounds b o')[k]? = _
  rw [Array.getElem?_setIfInBounds_ne (by omega)]; exact hbelow.block k hk
 ·intro c p e
  unfold Hp.one at e
  split at e
  ·rename_i hc; subst hc; cases e
   unfold own; rw [if_neg (by omega)]
   show (w.heap.setIfInBounds c o')[c]? = _
   simp [hlt]
  ·cases e
 ·intro c p e
  have hne:c ≠ b:=by
   rintro rfl
   rcases d c with e' | e'
   ·unfold blk at a; rw [e'] at a; cases a
   ·rw [e'] at e; cases e
  obtain ⟨hc,e⟩:=zGu (l2 _ _ e)
  unfold own; rw [if_neg (by omega)]
  show (w.heap.setIfInBounds b o')[c]? = _
  rw [Array.getElem?_setIfInBounds_ne (by omega)]; exact e
 ·intro c
  by_cases hc:c = b
  ·subst hc
   rcases d c with e' | e'
   ·unfold blk at a; rw [e'] at a; cases a
   ·right; exact e'
  ·left; simp [Hp.one,hc]
theorem Holds.zTZ (h:Holds B Γ w) {w':World} (hh:w'.heap = w.heap) (ho:w'.os = w.os) (ht:w'.tape = w.tape) (hp:w'.output = w.output):Holds B Γ w':=by
 refine ⟨⟨ho.trans h.below.os,ht.trans h.below.tape,hp.trans h.below.output,by rw [hh]; exact h.below.size,fun k hk=>by rw [hh]; exact h.below.block k hk⟩,?_⟩
 have:own B w' = own B w:=by funext b; simp [own,hh]
 rw [this]; exact h.stars
theorem Holds.drew (h:Holds B Γ w) (n:Nat):Holds B Γ { w with drawn:=n }:=h.zTZ rfl rfl rfl rfl
theorem Holds.old (h:Holds B Γ w) {b:Nat} {o:Obj} (hb:B.heap[b]? = some o):w.heap[b]? = some o:=by
 have hlt:b < B.heap.size:=(Array.getElem?_eq_some_iff.1 hb).1
 rw [h.below.block b hlt]; exact hb
end
end
section
open Go
structure Sl where
 a:Option Addr
 n:Nat
 c:Nat
abbrev Sl.val (s:Sl):Value:=.slice s.a s.n s.c
def Ret (k:Value→World→Prop):Ending→World→Prop
 | .returned v,w=>k v w
 | _,_=>False
def look:List (Nat×Value)→Nat→Option Value
 | [],_=>none
 | (j,v)::σ,i=>match Nat.beq i j with
  | true=>some v
  | false=>look σ i
theorem zJ4 {p:Nat×Value} {σ:List (Nat×Value)} {i:Nat}:look (p::σ) i = if i = p.1 then some p.2 else look σ i:=by
 obtain ⟨j,u⟩:=p
 show (match Nat.beq i j with | true=>some u | false=>look σ i) = _
 by_cases h:i = j
 ·simp [h]
 ·have:Nat.beq i j = false:=by
   cases hb:Nat.beq i j with
   | false=>rfl
   | true=>exact absurd (Nat.eq_of_beq_eq_true hb) h
  simp [this,h]
def ev (σ:List (Nat×Value)):Operand→Option Value
 | .tmp t=>look σ t
 | .const v=>some v
 | .global g=>some (.pointer (some ⟨g,0,none⟩))
 | .func f=>some (.func (.func f) #[] #[])
structure Slots (a:Act) (n:Nat) (σ:List (Nat×Value)):Prop where
 size:a.tmps.size = n
 defers:a.defers = []
 at':∀ i v,look σ i = some v→a.tmps.getD i undef = v
def Sub (σ:List (Nat×Value)):List (Nat×Value)→Prop
 | []=>True
 | p::τ=>look σ p.1 = some p.2∧Sub σ τ
theorem Sub.look {σ:List (Nat×Value)}:∀ {τ:List (Nat×Value)},Sub σ τ→∀ i v,look τ i = some v→Sep.look σ i = some v
 | [],_,i,v,h=>by simp [Sep.look] at h
 | p::τ,hs,i,v,h=>by
  rw [zJ4] at h
  split at h
  ·rename_i e; subst e; cases h; exact hs.1
  ·exact Sub.look hs.2 i v h
section
variable {a:Act} {n:Nat} {σ τ:List (Nat×Value)}
theorem Slots.to (h:Slots a n σ) (hs:Sub σ τ):Slots a n τ:=⟨h.size,h.defers,fun i v e=>h.at' i v (hs.look i v e)⟩
theorem Slots.ev (h:Slots a n σ) {x:Operand} {v:Value} (hx:Sep.ev σ x = some v):a.eval x = v:=by
 cases x with
 | tmp t=>exact h.at' _ _ hx
 | const u=>exact Option.some.inj hx
 | global g=>exact Option.some.inj hx
 | func f=>exact Option.some.inj hx
theorem Slots.put (h:Slots a n σ) {d:Nat} (hd:d < n) (v:Value):Slots (a.put (some d) v) n ((d,v)::σ):=by
 refine ⟨by simp [Act.put,h.size],h.defers,fun i u e=>?_⟩
 rw [zJ4] at e
 split at e
 ·rename_i hi; simp only at hi; subst hi; cases e
  have:i < a.tmps.size:=by rw [h.size]; exact hd
  simp [Act.put,this]
 ·rename_i hi
  have:=h.at' i u e
  simpa [Act.put,Array.getElem?_setIfInBounds_ne (Ne.symm hi)] using this
theorem Slots.init (args:List Value) (n:Nat) (hn:args.length ≤ n):Slots { tmps:=args.toArray++Array.replicate (n - args.toArray.size) undef,defers:=[] } n (args.zipIdx.map fun p=>(p.2,p.1)):=by
 refine ⟨by simp; omega,rfl,fun i v e=>?_⟩
 have key:∀ (l:List Value) (k i:Nat) (v:Value),look ((l.zipIdx k).map fun p=>(p.2,p.1)) i = some v→k ≤ i∧l[i - k]? = some v:=by
  intro l
  induction l with
  | nil=>intro k i v e; simp [look] at e
  | cons x l ih=>
   intro k i v e
   simp only [List.zipIdx_cons,List.map_cons] at e
   rw [zJ4] at e
   split at e
   ·rename_i hi; simp only at hi; subst hi; cases e; simp
   ·rename_i hi
    obtain ⟨h1,h2⟩:=ih _ _ _ e
    refine ⟨by omega,?_⟩
    rw [show i - k = (i - (k + 1)) + 1 by omega]; simpa using h2
 obtain ⟨_,h2⟩:=key args 0 i v e
 simp only [Nat.sub_zero] at h2
 have hlt:i < args.length:=(List.getElem?_eq_some_iff.1 h2).1
 have h3:=(List.getElem?_eq_some_iff.1 h2).2
 simp [Array.getElem?_append,hlt,h3]
end
section
variable {P:Program} {ops:Array Oper} {Q:Exit→Act→World→Prop} {rest:List Oper} {o:Oper} {a:Act} {n:Nat} {σ:List (Nat×Value)} {w w':World} {v:Value}
def Pure (P:Program) (σ:List (Nat×Value)) (o:Oper) (v:Value):Prop :=
 ∀ (a:Act) (n:Nat),Slots a n σ→∀ w,(execOp a.eval o).run P w = .ok (.value v) w
def Eff (P:Program) (σ:List (Nat×Value)) (o:Oper) (w:World) (x:Next) (w':World):Prop :=
 ∀ (a:Act) (n:Nat),Slots a n σ→(execOp a.eval o).run P w = .ok x w'
theorem Pure.eff (h:Pure P σ o v) (w:World):Eff P σ o w (.value v) w:=fun a n hs=>h a n hs w
def wants (ops:Array Oper) (σ:List (Nat×Value)) (o:Oper):Option Bool :=
 match o.guard with
 | none=>some true
 | some (j,want)=>match (ops[j]?).bind (·.dst) with
  | none=>some false
  | some t=>match look σ t with
   | some v=>match v with
    | .bool b=>some (b == want)
    | _=>some false
   | none=>none
theorem jA (hs:Slots a n σ) {b:Bool} (h:wants ops σ o = some b):Region.wanted o (yielded ops a.tmps) = b:=by
 unfold wants at h
 unfold Region.wanted
 split at h
 ·rename_i hg; simp only [hg]; simpa using h
 ·rename_i j want hg
  simp only [hg]
  unfold yielded
  split at h
  ·rename_i hd; simp only [Option.some.injEq] at h; subst h
   cases hj:ops[j]? with
   | none=>simp
   | some oj=>simp [hj] at hd; simp [hd]
  ·rename_i t ht
   split at h
   ·rename_i v hb
    have:=hs.at' _ _ hb
    cases hj:ops[j]? with
    | none=>simp [hj] at ht
    | some oj=>
     simp [hj] at ht
     simp only [ht,Option.bind_some]
     cases hx:a.tmps[t]? with
     | none=>
      simp [hx] at this; subst this
      simp [undef] at h; subst h; simp
     | some x=>
      simp [hx] at this; subst this
      cases x <;> simp at h <;> subst h <;> simp
   ·cases h
def Oper.bare (o:Oper):Oper:={ o with guard:=none }
end
section
variable {P:Program} {ops:Array Oper} {Q:Exit→Act→World→Prop} {S:World→Prop} {o:Oper} {a:Act} {n:Nat} {σ:List (Nat×Value)} {w w':World} {v:Value} {fuel:Nat} {listed:Array Bool}
def Any:World→Prop:=fun _=>True
theorem Any.intro (w:World):Any w:=trivial
def Is (u:World):World→Prop:=fun x=>x = u
theorem Is.intro (u:World):Is u u:=rfl
theorem Is.out {u x:World} (h:Is u x):x = u:=h
def zEj (Q:Exit→Act→World→Prop):Prop:=∀ c a w,¬ Q (.panic c) a w
def zSQ (P:Program) (ops:Array Oper) (Q:Exit→Act→World→Prop) (S:World→Prop) (ds:List Nat):Nat→Array Bool→Act→World→Prop
 | 0,listed,a,w=>Region.ready .any ops listed = []∧Q .normal a w
 | fuel + 1,listed,a,w=>
  (Region.ready .any ops listed = []→Q .normal a w) ∧
  ∀ i ∈ Region.ready .any ops listed,wpOp P ops Q i (fun a' w'=>(i ∉ ds→S w→S w')∧zSQ P ops Q S ds fuel (listed.setIfInBounds i true) a' w') a w
variable {ds:List Nat}
def reach (ops:Array Oper) (i:Nat):Nat→Nat→Bool
 | 0,_=>false
 | n + 1,d=>match ops[d]? with
  | some od=>od.after.any fun e=>Region.binds .any e && (e.on == i || reach ops i n e.on)
  | none=>false
def Closed (ops:Array Oper) (l:Array Bool):Prop :=
 ∀ (j:Nat) (oj:Oper),ops[j]? = some oj→l.getD j false = true→∀ e ∈ oj.after,Region.binds .any e = true→l.getD e.on false = true
theorem zF9 {ops:Array Oper} {l:Array Bool} {i:Nat} (hc:Closed ops l):∀ (n d:Nat) (od:Oper),ops[d]? = some od→(∀ e ∈ od.after,Region.binds .any e = true→l.getD e.on false = true)→reach ops i n d = true→l.getD i false = true
 | 0,_,_,_,_,h=>by simp [reach] at h
 | n + 1,d,od,hd,hall,h=>by
  simp only [reach,hd,Array.any_eq_true'] at h
  obtain ⟨e,he,hb⟩:=h
  simp only [Bool.and_eq_true,Bool.or_eq_true,beq_iff_eq] at hb
  have h1:=hall e he hb.1
  rcases hb.2 with h2 | h2
  ·rw [← h2]; exact h1
  ·cases ho:ops[e.on]? with
   | none=>cases n <;> simp [reach,ho] at h2
   | some oe=>exact zF9 hc n e.on oe ho (hc e.on oe ho h1) h2
theorem Closed.put {ops:Array Oper} {l:Array Bool} (h:Closed ops l) {j:Nat} (hj:j ∈ Region.ready .any ops l):Closed ops (l.setIfInBounds j true):=by
 intro k ok hk hl e he hb
 obtain ⟨_,oj,hoj,hall⟩:=mem_ready.1 hj
 by_cases hjk:j = k
 ·subst hjk; rw [hk] at hoj; cases hoj; exact getD_set_true (hall e he hb)
 ·rw [getD_set_ne false hjk] at hl; exact getD_set_true (h k ok hk hl e he hb)
def zV9 (P:Program) (ops:Array Oper) (Q:Exit→Act→World→Prop) (S:World→Prop) (ds:List Nat) (fuel:Nat) (l:Array Bool) (a:Act) (w:World) (rs:List Nat):Prop :=
 ∀ i ∈ rs,wpOp P ops Q i (fun a' w'=>(i ∉ ds→S w→S w')∧zSQ P ops Q S ds fuel (l.setIfInBounds i true) a' w') a w
theorem zV9.nil {l:Array Bool}:zV9 P ops Q S ds fuel l a w []:=fun _ h=>by cases h
theorem zV9.cons {l:Array Bool} {i:Nat} {rs:List Nat} (h:wpOp P ops Q i (fun a' w'=>(i ∉ ds→S w→S w')∧zSQ P ops Q S ds fuel (l.setIfInBounds i true) a' w') a w)
  (hs:zV9 P ops Q S ds fuel l a w rs):zV9 P ops Q S ds fuel l a w (i::rs):=fun j hj=>by
 rcases List.mem_cons.1 hj with rfl | hj
 ·exact h
 ·exact hs j hj
end
section
variable {P:Program} {ops:Array Oper} {Q:Act→Prop} {rest:List Oper} {o:Oper} {a:Act} {n:Nat} {σ:List (Nat×Value)} {w:World} {v:Value}
theorem zZ2 (hs:Slots a n σ) {d:Nat} (hg:o.guard = none) (hd:o.dst = some d) (hn:d < n) (hp:Eff P σ o w (.value v) w)
  (hk:∀ a,Slots a n ((d,v)::σ)→wpStill P ops w Q rest a):wpStill P ops w Q (o::rest) a:=by
 unfold wpStill
 rw [if_pos (by simp [Region.wanted,hg])]
 unfold Oper.still
 rw [hp a n hs,Oper.stillUpon_value,hd]
 exact hk _ (hs.put hn v)
theorem zao (hs:Slots a n σ) {d:Nat} (hg:o.guard = none) (hd:o.dst = some d) (hn:d < n) (hp:Pure P σ o v)
  (hk:∀ a,Slots a n ((d,v)::σ)→wpStill P ops w Q rest a):wpStill P ops w Q (o::rest) a:=zZ2 hs hg hd hn (hp.eff w) hk
theorem zZ3 (hs:Slots a n σ) (hw:wants ops σ o = some true) (hk:wpStill P ops w Q (Sep.Oper.bare o::rest) a):wpStill P ops w Q (o::rest) a:=by
 have h1:=jA hs hw
 unfold wpStill at hk ⊢
 rw [if_pos h1]
 rw [if_pos (by simp [Region.wanted,Sep.Oper.bare])] at hk
 exact hk
theorem zc4 (hs:Slots a n σ) (hw:wants ops σ o = some false) {d:Nat} (hd:o.dst = some d) (hn:d < n) (hk:∀ a,Slots a n ((d,undef)::σ)→wpStill P ops w Q rest a):wpStill P ops w Q (o::rest) a:=by
 have h1:=jA hs hw
 unfold wpStill
 rw [if_neg (by rw [h1]; simp),hd]
 exact hk _ (hs.put hn _)
theorem zYd {l:List Oper} {id:Nat} {Q:Exit→Act→World→Prop} {w':World} (hm:P.follows .mixedOrders = true) (hB:Region.lexB .any l.toArray = true) (hw:w' = { w with drawn:=w.drawn + 1 })
  (h:wpStill P l.toArray w' (fun a'=>Q .normal a' w') l a):(Code.region id l.toArray true).wp P Q a w:=by
 subst hw; exact wp_region_still_lit hm hB h
end
section
variable {P:Program} {Q:Exit→Act→World→Prop} {a:Act} {n:Nat} {σ:List (Nat×Value)} {w:World}
def yJ {α:Type} (body:(α→World→Prop)→α→World→Prop) (x:α) (w:World):Prop :=
 ∃ (I:α→World→Prop) (μ:α→World→Nat),I x w∧∀ x w,I x w→body (fun x' w'=>I x' w'∧μ x' w' < μ x w) x w
theorem yJ.of {α:Type} {body:(α→World→Prop)→α→World→Prop} {x:α} {w:World} (I:α→World→Prop) (μ:α→World→Nat) (h0:I x w)
  (h:∀ x w,I x w→body (fun x' w'=>I x' w'∧μ x' w' < μ x w) x w):yJ body x w:=⟨I,μ,h0,h⟩
end
end
section
open Go
abbrev K:=World→Prop
def callable (P:Program) (f:FuncId):Bool:=match P.funcs[f]? with
 | some fn => fn.name != "runtime.NumGoroutine" && fn.body.isSome
 | none=>false
def Do {α β:Type} (P:Program) (s:Sem β) (c:α→β) (k:α→K):K:=fun w=>∃ x w',s.run P w = .ok (c x) w'∧k x w'
def Ld {α:Type} (a:Addr) (c:α→Value) (k:α→K):K:=fun w=>∃ x,w.cell? a = some (c x)∧k x w
def RdN (w:World) (a:Addr) (cs:Array Value):Prop:=∀ i,i < cs.size→w.cell? (a.add i) = cs[i]?
def LdN (a:Addr) (n:Nat) (k:Array Value→K):K:=fun w=>∃ cs:Array Value,cs.size = n∧RdN w a cs∧k cs w
def yu:Value→Bool
 | .agg _ | .tuple _=>false
 | _=>true
def St (a:Addr) (v:Value) (k:K):K:=fun w=>∃ w',w' = w.setCell a v∧(∃ u,w.cell? a = some u)∧w.frozen? a = false∧yu v = true∧k w'
def setCells (a:Addr):List Value→Nat→World→World
 | [],_,w=>w
 | v::vs,i,w=>setCells a vs (i + 1) (w.setCell (a.add i) v)
def StN (a:Addr) (n:Nat) (cs:Array Value) (k:K):K:=fun w=>∃ w',w' = setCells a cs.toList 0 w∧cs.size = n ∧
 (∀ i,i < cs.size→(∃ u,w.cell? (a.add i) = some u)∧w.frozen? (a.add i) = false)∧(∀ v ∈ cs.toList,yu v = true)∧k w'
def New (T:TypeId) (cs:Array Value) (k:Addr→K):K:=fun w=>∃ a w',a = ⟨w.heap.size,0,none⟩∧w' = { w with heap:=w.heap.push (.cells cs T) }∧k a w'
def zL (P:Program) (f:FuncId) (args:Array Value) (k:Value→K):K:=fun w=>Calls P f args w (Ret k)
def Ar (e:Int) (k:Int→K):K:=fun w=>∃ t,t = e∧k t w
def Do2 {α β γ:Type} (P:Program) (s:Sem γ) (c:α→β→γ) (k:α→β→K):K:=fun w=>∃ x y w',s.run P w = .ok (c x y) w'∧k x y w'
def DoU (P:Program) (s:Sem Unit) (k:K):K:=fun w=>∃ u w',s.run P w = .ok u w'∧k w'
def Rd {α:Type} (P:Program) (s:Sem Value) (c:α→Value) (k:α→K):K:=fun w=>∃ x,s.run P w = .ok (c x) w∧k x w
def Rd2 {α β:Type} (P:Program) (s:Sem Value) (c:α→β→Value) (k:α→β→K):K:=fun w=>∃ x y,s.run P w = .ok (c x y) w∧k x y w
def Pu {α:Type} (P:Program) (s:Sem Value) (c:α→Value) (k:α→K):K:=fun w=>∃ x,(∀ w,s.run P w = .ok (c x) w)∧k x w
def Cd (p:Prop) (k:K):K:=fun w=>p∧k w
def Ite (b:Bool) (x y:K):K:=fun w=>(b = true→x w)∧(b = false→y w)
def Fv (P:Program) (f:Value) (k:FuncId→Array Value→Array Value→K):K:=fun w=>∃ g fs cs,f = .func (.func g) fs cs∧callable P g = true∧k g fs cs w
def uF (P:Program) (f:Value) (args:List Value) (k:Value→K):K:=fun w =>
 ∃ g fs cs,f = .func (.func g) fs cs∧callable P g = true∧Calls P g (fs++args.toArray++cs) w (Ret k)
def jD (v0:Value) (k:K):Value→K:=fun v w=>v = v0∧k w
def yO {α:Type} (c:α→Value) (k:α→K):Value→K:=fun v w=>∃ x,v = c x∧k x w
def zAQ {α β:Type} (c:α→β→Value) (k:α→β→K):Value→K:=fun v w=>∃ x y,v = c x y∧k x y w
def zDT {α β γ:Type} (c:α→β→γ→Value) (k:α→β→γ→K):Value→K:=fun v w=>∃ x y z,v = c x y z∧k x y z w
def Ext {α:Type} (t:Value) (i:Nat) (c:α→Value) (k:α→K):K:=fun w=>∃ vs x,t = .tuple vs∧vs[i]? = some (c x)∧k x w
def Dead:K:=fun _=>False
def Dr (k:K):K:=fun w=>∃ w',w' = { w with drawn:=w.drawn + 1 }∧k w'
def yh (k:(World→Prop)→K):K:=fun w=>∃ S:World→Prop,S w∧k S w
def Sv (S:World→Prop) (k:K):K:=fun w=>S w∧k w
def LdS {α:Type} (S:World→Prop) (a:Addr) (c:α→Value) (k:α→K):K:=fun w=>∃ x,(∀ w,S w→w.cell? a = some (c x))∧k x w
def vY (S:World→Prop) (a:Addr) (n:Nat) (k:Array Value→K):K:=fun w=>∃ cs:Array Value,cs.size = n∧(∀ w,S w→RdN w a cs)∧k cs w
def RdS {α:Type} (P:Program) (S:World→Prop) (s:Sem Value) (c:α→Value) (k:α→K):K:=fun w=>∃ x,(∀ w,S w→s.run P w = .ok (c x) w)∧k x w
def zEL {α β:Type} (P:Program) (S:World→Prop) (s:Sem Value) (c:α→β→Value) (k:α→β→K):K:=fun w=>∃ x y,(∀ w,S w→s.run P w = .ok (c x y) w)∧k x y w
def Nn (p:Option Addr) (k:Addr→K):K:=fun w=>∃ a,p = some a∧k a w
def Idx (s:Sl) (i:Int) (esz:Nat) (k:Addr→K):K:=fun w=>∃ a t,s.a = some a∧0 ≤ i∧i < s.n∧t = a.add (i.toNat * esz)∧k t w
def zB0 (a:Addr) (len:Nat) (i:Int) (esz:Nat) (k:Addr→K):K:=fun w=>∃ t,0 ≤ i∧i < len∧t = a.add (i.toNat * esz)∧k t w
def zDp (s:ByteArray) (i:Int) (k:Int→K):K:=fun w=>∃ (t:Int) (b:UInt8),0 ≤ i∧s[i.toNat]? = some b∧t = (b.toNat:Int)∧k t w
def Fld {α:Type} (cs:Array Value) (off:Nat) (c:α→Value) (k:α→K):K:=fun w=>∃ x,cs[off]? = some (c x)∧k x w
def Bld (zero:Array Value) (place:Nat→Option (Nat×Nat)) (parts:List (Nat×Value)) (k:Array Value→K):K:=fun w =>
 ∃ cs,Instr.fill place zero parts = some cs∧k cs w
def zCE (a:Option Addr) (l m esz:Nat):Option Addr:=if m = l then a else a.map (·.add (l * esz))
def Slc (s:Sl) (lo hi mx:Int) (esz:Nat) (k:Sl→K):K:=fun w =>
 ∃ t,0 ≤ lo∧lo ≤ hi∧hi ≤ mx∧mx ≤ s.c∧t = ⟨zCE s.a lo.toNat mx.toNat esz,hi.toNat - lo.toNat,mx.toNat - lo.toNat⟩∧k t w
def zEM (s:ByteArray) (lo hi:Int) (k:ByteArray→K):K:=fun w =>
 ∃ t,0 ≤ lo∧lo ≤ hi∧hi ≤ s.size∧t = s.extract lo.toNat hi.toNat∧k t w
def Cat (a b:ByteArray) (k:ByteArray→K):K:=fun w=>∃ t,((a.size + b.size:Nat):Int) ≤ 9223372036854775807∧t = a++b∧k t w
def All (l:List (World→Prop)):K:=fun w=>∀ (i:Nat) (x:World→Prop),l[i]? = some x→x w
def zN1 (P:Program) (T:TypeId):Bool:=match P.underlying T with
 | some (.struct _) | some (.array _ _) | none=>false
 | some _=>true
def zVA (P:Program) (T:TypeId) (n:Nat):Bool:=match P.underlying T with
 | some (.struct _) | some (.array _ _)=>(P.info? T).map (·.size) == some n
 | _=>false
def sizeT (P:Program) (T:TypeId) (n:Nat):Bool:=(P.info? T).map (·.size) == some n
def sliceT (P:Program) (T E:TypeId) (esz:Nat):Bool:=match P.underlying T with
 | some (.slice e)=>e == E && (P.info? E).map (·.size) == some esz
 | _=>false
def zL9 (P:Program) (T E:TypeId) (len esz:Nat):Bool:=match P.underlying T with
 | some (.array n e)=>n == len && e == E && (P.info? E).map (·.size) == some esz
 | _=>false
def zFP (P:Program) (T:TypeId):Bool:=match P.underlying T with | some .string=>true | _=>false
def zWA (P:Program) (T:TypeId) (k:IntKind):Bool:=match P.underlying T with | some (.int k')=>k == k' | _=>false
def zO1 (P:Program) (S i off n:Nat):Bool:=match P.underlying S with
 | some (.struct fs)=>match fs[i]? with
  | some f=>f.offset == off && n != 0 && (P.info? f.type).map (·.size) == some n
  | none=>false
 | _=>false
def zSR (P:Program) (S i off:Nat):Bool:=match P.underlying S with
 | some (.struct fs)=>match fs[i]? with
  | some f=>f.offset == off && zN1 P f.type
  | none=>false
 | _=>false
def zSS (P:Program) (S i off n:Nat):Bool:=match P.underlying S with
 | some (.struct fs)=>match fs[i]? with
  | some f=>f.offset == off && zVA P f.type n
  | none=>false
 | _=>false
section
variable {P:Program} {w:World}
theorem zIg {T:TypeId} (h:zN1 P T = true):(isAgg T).run P w = .ok false w:=by
 unfold zN1 at h
 unfold isAgg underlying program
 cases hu:P.underlying T with
 | none=>simp [hu] at h
 | some d=>cases d <;> simp [hu,Sem.run,Sem.run_bind'] at h ⊢ <;> simp_all [bind,Sem.bind,Sem.run,pure]
theorem zEy {T n:Nat} (h:zVA P T n = true):(isAgg T).run P w = .ok true w∧(sizeOf T).run P w = .ok n w:=by
 unfold zVA at h
 unfold isAgg sizeOf typeInfo underlying program
 cases hi:P.info? T with
 | none=>cases hu:P.underlying T with
  | none=>simp [hu] at h
  | some d=>cases d <;> simp [hu,hi] at h
 | some i=>cases hu:P.underlying T with
  | none=>simp [hu] at h
  | some d=>cases d <;> simp [hu,hi] at h ⊢ <;> simp_all [bind,Sem.bind,Sem.run,pure]
theorem jE {T n:Nat} (h:sizeT P T n = true):(sizeOf T).run P w = .ok n w:=by
 unfold sizeT at h
 unfold sizeOf typeInfo program
 cases hi:P.info? T with
 | none=>simp [hi] at h
 | some i=>simp [hi] at h ⊢; simp_all [bind,Sem.bind,Sem.run,pure]
theorem zAC {T E esz:Nat} (h:sliceT P T E esz = true):P.underlying T = some (.slice E)∧sizeT P E esz = true:=by
 unfold sliceT at h
 split at h
 ·rename_i e he; simp at h; obtain ⟨rfl,h⟩:=h; exact ⟨he,by unfold sizeT; simpa using h⟩
 ·cases h
theorem zFQ {T E len esz:Nat} (h:zL9 P T E len esz = true):P.underlying T = some (.array len E)∧sizeT P E esz = true:=by
 unfold zL9 at h
 split at h
 ·rename_i n e he; simp at h; obtain ⟨⟨rfl,rfl⟩,h⟩:=h; exact ⟨he,by unfold sizeT; simpa using h⟩
 ·cases h
theorem zDU {T:Nat} (h:zFP P T = true):P.underlying T = some .string:=by
 unfold zFP at h; split at h
 ·assumption
 ·cases h
theorem zN2 {T:Nat} {k:IntKind} (h:zWA P T k = true):P.underlying T = some (.int k):=by
 unfold zWA at h; split at h
 ·rename_i k' hk; simp at h; subst h; exact hk
 ·cases h
theorem run_underlying {T:TypeId} {d:TypeDesc} (h:P.underlying T = some d):(underlying T).run P w = .ok d w:=by
 simp [underlying,program,h,Sem.run]
end
theorem Pure.adr {P:Program} {σ:List (Nat×Value)} {o:Oper} {t e:Addr} (he:t = e) (h:Pure P σ o (.pointer (some e))):Pure P σ o (.pointer (some t)):=he ▸ h
theorem Pure.sl {P:Program} {σ:List (Nat×Value)} {o:Oper} {t e:Sl} (he:t = e) (h:Pure P σ o e.val):Pure P σ o t.val:=he ▸ h
theorem Pure.str {P:Program} {σ:List (Nat×Value)} {o:Oper} {t e:ByteArray} (he:t = e) (h:Pure P σ o (.string e)):Pure P σ o (.string t):=he ▸ h
theorem Pure.int {P:Program} {σ:List (Nat×Value)} {o:Oper} {k:IntKind} {t e:Int} (he:t = e) (h:Pure P σ o (.int k e)):Pure P σ o (.int k t):=he ▸ h
section
variable {P:Program} {σ:List (Nat×Value)} {o:Oper} {x y:Operand} {w:World}
theorem zWB {v:Value} (ho:o.op = .move x) (hx:ev σ x = some v):Pure P σ o v:=fun a n hs w=>by
 simp [execOp,ho,hs.ev hx]
theorem zQj {v:Value} (ho:o.op = .assign x) (hx:ev σ x = some v):Pure P σ o v:=fun a n hs w=>by
 simp [execOp,ho,hs.ev hx]
theorem zQk {c:Operand} {v:Value} (ho:o.op = .pick c x y) (hc:ev σ c = some (.bool true)) (hx:ev σ x = some v):Pure P σ o v:=fun a n hs w=>by
 simp [execOp,ho,hs.ev hx,hs.ev hc,asBool]
theorem zQl {c:Operand} {v:Value} (ho:o.op = .pick c x y) (hc:ev σ c = some (.bool false)) (hy:ev σ y = some v):Pure P σ o v:=fun a n hs w=>by
 simp [execOp,ho,hs.ev hy,hs.ev hc,asBool]
theorem zQm {c:Operand} {b p q:Bool} (ho:o.op = .pick c x y) (hc:ev σ c = some (.bool b)) (hx:ev σ x = some (.bool p)) (hy:ev σ y = some (.bool q)):Pure P σ o (.bool (bif b then p else q)):=fun a n hs w=>by
 cases b <;> simp [execOp,ho,hs.ev hx,hs.ev hy,hs.ev hc,asBool]
theorem zZ4 {a:Addr} (ho:o.op = .nilCheck x) (hx:ev σ x = some (.pointer (some a))):Pure P σ o (.pointer (some a)):=fun _ n hs w=>by
 simp [execOp,ho,hs.ev hx]
theorem zWC {f:FuncId} {c d:Array Value} (ho:o.op = .nilCheck x) (hx:ev σ x = some (.func (.func f) c d)):Pure P σ o (.func (.func f) c d):=fun _ n hs w=>by
 simp [execOp,ho,hs.ev hx]
theorem zKq {S i off n:Nat} {a:Addr} (ho:o.op = .fieldAddr S x i) (hx:ev σ x = some (.pointer (some a))) (hf:zO1 P S i off n = true):Pure P σ o (.pointer (some (a.add off))):=fun _ _ hs w=>by
 unfold zO1 at hf
 split at hf
 ·rename_i fs hS
  split at hf
  ·rename_i f hfi
   simp at hf
   obtain ⟨⟨h1,h2⟩,h3⟩:=hf
   have hz:(sizeOf f.type).run P w = .ok n w:=jE (by unfold sizeT; simpa using h3)
   simp [execOp,ho,hs.ev hx,Instr.fieldAt,run_underlying hS,hfi,Instr.sureAddr,fieldPlace,hz,h2,h1]
  ·cases hf
 ·cases hf
theorem zO2 {S i n:Nat} {a:Addr} (ho:o.op = .fieldAddr S x i) (hx:ev σ x = some (.pointer (some a))) (hf:zO1 P S i 0 n = true):Pure P σ o (.pointer (some a)):=by
 simpa [Addr.add] using zKq ho hx hf
theorem zYe {S i off:Nat} {cs:Array Value} {v:Value} (ho:o.op = .field S x i) (hx:ev σ x = some (.agg cs)) (hf:zSR P S i off = true) (hv:cs[off]? = some v):Pure P σ o v:=fun _ _ hs w=>by
 unfold zSR at hf
 split at hf
 ·rename_i fs hS
  split at hf
  ·rename_i f hfi
   simp at hf
   obtain ⟨h1,h2⟩:=hf
   subst h1
   simp [execOp,ho,hs.ev hx,Instr.field,run_underlying hS,hfi,asAgg,part,zIg h2,hv]
  ·cases hf
 ·cases hf
theorem zWD {S i off n:Nat} {cs:Array Value} (ho:o.op = .field S x i) (hx:ev σ x = some (.agg cs)) (hf:zSS P S i off n = true):Pure P σ o (.agg (cs.extract off (off + n))):=fun _ _ hs w=>by
 unfold zSS at hf
 split at hf
 ·rename_i fs hS
  split at hf
  ·rename_i f hfi
   simp at hf
   obtain ⟨h1,h2⟩:=hf
   subst h1
   simp [execOp,ho,hs.ev hx,Instr.field,run_underlying hS,hfi,asAgg,part,(zEy h2).1,(zEy h2).2]
  ·cases hf
 ·cases hf
section ints
variable {T U:TypeId} {k:IntKind} {a b:Int}
theorem zZ5 (ho:o.op = .binOp .add T x y U) (hx:ev σ x = some (.int k a)) (hy:ev σ y = some (.int k b)):Pure P σ o (.int k (k.wrap (a + b))):=fun _ _ hs w=>by
 simp [execOp,ho,hs.ev hx,hs.ev hy,eqGuard,binOp,Op.intArith]
theorem zZ6 (ho:o.op = .binOp .sub T x y U) (hx:ev σ x = some (.int k a)) (hy:ev σ y = some (.int k b)):Pure P σ o (.int k (k.wrap (a - b))):=fun _ _ hs w=>by
 simp [execOp,ho,hs.ev hx,hs.ev hy,eqGuard,binOp,Op.intArith]
theorem zZ7 (ho:o.op = .binOp .mul T x y U) (hx:ev σ x = some (.int k a)) (hy:ev σ y = some (.int k b)):Pure P σ o (.int k (k.wrap (a * b))):=fun _ _ hs w=>by
 simp [execOp,ho,hs.ev hx,hs.ev hy,eqGuard,binOp,Op.intArith]
theorem zZ8 (ho:o.op = .binOp .quo T x y U) (hx:ev σ x = some (.int k a)) (hy:ev σ y = some (.int k b)) (hb:b ≠ 0):Pure P σ o (.int k (k.wrap (a.tdiv b))):=fun _ _ hs w=>by
 simp [execOp,ho,hs.ev hx,hs.ev hy,eqGuard,binOp,Op.intDiv,hb]
theorem zZ9 (ho:o.op = .binOp .rem T x y U) (hx:ev σ x = some (.int k a)) (hy:ev σ y = some (.int k b)) (hb:b ≠ 0):Pure P σ o (.int k (a.tmod b)):=fun _ _ hs w=>by
 simp [execOp,ho,hs.ev hx,hs.ev hy,eqGuard,binOp,Op.intDiv,hb]
theorem zbr (ho:o.op = .binOp .eql T x y U) (hx:ev σ x = some (.int k a)) (hy:ev σ y = some (.int k b)):Pure P σ o (.bool (decide (a = b))):=fun _ _ hs w=>by
 simp [execOp,ho,hs.ev hx,hs.ev hy,eqGuard,binOp,Op.intCmp]; rfl
theorem zbs (ho:o.op = .binOp .neq T x y U) (hx:ev σ x = some (.int k a)) (hy:ev σ y = some (.int k b)):Pure P σ o (.bool (decide (a ≠ b))):=fun _ _ hs w=>by
 by_cases h:a = b <;> simp [execOp,ho,hs.ev hx,hs.ev hy,eqGuard,binOp,Op.intCmp,h]
theorem zbt (ho:o.op = .binOp .lss T x y U) (hx:ev σ x = some (.int k a)) (hy:ev σ y = some (.int k b)):Pure P σ o (.bool (decide (a < b))):=fun _ _ hs w=>by
 simp [execOp,ho,hs.ev hx,hs.ev hy,eqGuard,binOp,Op.intCmp]
theorem zbu (ho:o.op = .binOp .leq T x y U) (hx:ev σ x = some (.int k a)) (hy:ev σ y = some (.int k b)):Pure P σ o (.bool (decide (a ≤ b))):=fun _ _ hs w=>by
 simp [execOp,ho,hs.ev hx,hs.ev hy,eqGuard,binOp,Op.intCmp]
theorem zbv (ho:o.op = .binOp .gtr T x y U) (hx:ev σ x = some (.int k a)) (hy:ev σ y = some (.int k b)):Pure P σ o (.bool (decide (b < a))):=fun _ _ hs w=>by
 simp [execOp,ho,hs.ev hx,hs.ev hy,eqGuard,binOp,Op.intCmp]
theorem zbw (ho:o.op = .binOp .geq T x y U) (hx:ev σ x = some (.int k a)) (hy:ev σ y = some (.int k b)):Pure P σ o (.bool (decide (b ≤ a))):=fun _ _ hs w=>by
 simp [execOp,ho,hs.ev hx,hs.ev hy,eqGuard,binOp,Op.intCmp]
def bitsOf (op:BinOp) (k:IntKind) (a b:Int):Int :=
 let u:=BitVec.ofInt k.bits a
 let v:=BitVec.ofInt k.bits b
 k.wrap (match op with | .and=>(u &&& v).toNat | .or=>(u ||| v).toNat | .xor=>(u ^^^ v).toNat | _=>(u &&& ~~~v).toNat)
theorem zaA (ho:o.op = .binOp .and T x y U) (hx:ev σ x = some (.int k a)) (hy:ev σ y = some (.int k b)):Pure P σ o (.int k (bitsOf .and k a b)):=fun _ _ hs w=>by
 simp [execOp,ho,hs.ev hx,hs.ev hy,eqGuard,binOp,Op.intBits,bitsOf]
theorem zbx (ho:o.op = .binOp .or T x y U) (hx:ev σ x = some (.int k a)) (hy:ev σ y = some (.int k b)):Pure P σ o (.int k (bitsOf .or k a b)):=fun _ _ hs w=>by
 simp [execOp,ho,hs.ev hx,hs.ev hy,eqGuard,binOp,Op.intBits,bitsOf]
theorem zaB (ho:o.op = .binOp .xor T x y U) (hx:ev σ x = some (.int k a)) (hy:ev σ y = some (.int k b)):Pure P σ o (.int k (bitsOf .xor k a b)):=fun _ _ hs w=>by
 simp [execOp,ho,hs.ev hx,hs.ev hy,eqGuard,binOp,Op.intBits,bitsOf]
def zN3 (k:IntKind) (a b:Int):Int:=k.wrap (a * 2 ^ (min b.toNat k.bits))
def zGv (k:IntKind) (a b:Int):Int:=a.fdiv (2 ^ (min b.toNat k.bits))
theorem zaC {j:IntKind} (ho:o.op = .binOp .shl T x y U) (hx:ev σ x = some (.int k a)) (hy:ev σ y = some (.int j b)) (hb:0 ≤ b):Pure P σ o (.int k (zN3 k a b)):=fun _ _ hs w=>by
 simp [execOp,ho,hs.ev hx,hs.ev hy,eqGuard,binOp,Op.shift,zN3,show ¬ b < 0 by omega]
theorem zaD {j:IntKind} (ho:o.op = .binOp .shr T x y U) (hx:ev σ x = some (.int k a)) (hy:ev σ y = some (.int j b)) (hb:0 ≤ b):Pure P σ o (.int k (zGv k a b)):=fun _ _ hs w=>by
 simp [execOp,ho,hs.ev hx,hs.ev hy,eqGuard,binOp,Op.shift,zGv,show ¬ b < 0 by omega]
theorem zaE (ho:o.op = .unOp .neg T x) (hx:ev σ x = some (.int k a)):Pure P σ o (.int k (k.wrap (0 - a))):=fun _ _ hs w=>by
 simp [execOp,ho,hs.ev hx,Op.unary,Op.intArith]
theorem zaF (ho:o.op = .unOp .xor T x) (hx:ev σ x = some (.int k a)):Pure P σ o (.int k (bitsOf .xor k (if k.signed then -1 else k.max) a)):=fun _ _ hs w=>by
 simp [execOp,ho,hs.ev hx,Op.unary,Op.intBits,bitsOf]
theorem zST {j:IntKind} (ho:o.op = .convert T U x) (hx:ev σ x = some (.int k a)) (hT:zWA P T k = true) (hU:zWA P U j = true):Pure P σ o (.int j (j.wrap a)):=fun _ _ hs w=>by
 simp [execOp,ho,hs.ev hx,convert,run_underlying (zN2 hT),run_underlying (zN2 hU),Conv.intToInt]
theorem zaG (t:Array TypeId) (ho:o.op = .call { callee:=.builtin .max,args:=#[x,y],argTypes:=t }) (hx:ev σ x = some (.int k a)) (hy:ev σ y = some (.int k b)):Pure P σ o (.int k (if b > a then b else a)):=fun _ _ hs w=>by
 simp [execOp,ho,hs.ev hx,hs.ev hy,resolve,invoke,builtin,Builtin.max_,Builtin.max2]
theorem zaH (t:Array TypeId) (ho:o.op = .call { callee:=.builtin .min,args:=#[x,y],argTypes:=t }) (hx:ev σ x = some (.int k a)) (hy:ev σ y = some (.int k b)):Pure P σ o (.int k (if b < a then b else a)):=fun _ _ hs w=>by
 simp [execOp,ho,hs.ev hx,hs.ev hy,resolve,invoke,builtin,Builtin.min_,Builtin.min2]
end ints
theorem zaI {T:TypeId} {b:Bool} (ho:o.op = .unOp .not T x) (hx:ev σ x = some (.bool b)):Pure P σ o (.bool (!b)):=fun _ _ hs w=>by
 simp [execOp,ho,hs.ev hx,Op.unary]
section strings
variable {T U:TypeId} {a b:ByteArray}
theorem zaJ (ho:o.op = .binOp .eql T x y U) (hx:ev σ x = some (.string a)) (hy:ev σ y = some (.string b)):Pure P σ o (.bool (a.toList == b.toList)):=fun _ _ hs w=>by
 simp [execOp,ho,hs.ev hx,hs.ev hy,eqGuard,binOp,Op.stringOp]
theorem zaK (ho:o.op = .binOp .neq T x y U) (hx:ev σ x = some (.string a)) (hy:ev σ y = some (.string b)):Pure P σ o (.bool (!(a.toList == b.toList))):=fun _ _ hs w=>by
 simp [execOp,ho,hs.ev hx,hs.ev hy,eqGuard,binOp,Op.stringOp]
theorem zaL (ho:o.op = .binOp .lss T x y U) (hx:ev σ x = some (.string a)) (hy:ev σ y = some (.string b)):Pure P σ o (.bool (Op.bytesLess a.toList b.toList)):=fun _ _ hs w=>by
 simp [execOp,ho,hs.ev hx,hs.ev hy,eqGuard,binOp,Op.stringOp]
theorem zaM (ho:o.op = .binOp .gtr T x y U) (hx:ev σ x = some (.string a)) (hy:ev σ y = some (.string b)):Pure P σ o (.bool !(Op.bytesLess a.toList b.toList || a.toList == b.toList)):=fun _ _ hs w=>by
 simp [execOp,ho,hs.ev hx,hs.ev hy,eqGuard,binOp,Op.stringOp]
theorem zaq (ho:o.op = .binOp .add T x y U) (hx:ev σ x = some (.string a)) (hy:ev σ y = some (.string b)) (hl:((a.size + b.size:Nat):Int) ≤ 9223372036854775807):Pure P σ o (.string (a++b)):=fun _ _ hs w=>by
 have:¬ ((a.size + b.size:Nat):Int) > IntKind.i64.max:=by simp [IntKind.max,IntKind.signed,IntKind.bits]; omega
 simp only [execOp,ho,hs.ev hx,hs.ev hy,eqGuard,binOp,Op.stringOp]
 simp at this
 simp [Int.not_lt.2 (by simpa using this),this]
theorem zSU (ho:o.op = .convert T U x) (hx:ev σ x = some (.string a)) (hT:zFP P T = true) (hU:zFP P U = true):Pure P σ o (.string a):=fun _ _ hs w=>by
 simp [execOp,ho,hs.ev hx,convert,run_underlying (zDU hT),run_underlying (zDU hU)]
end strings
section nils
variable {T U E:TypeId}
theorem zTa {a b:Bool} (hT:P.underlying T = some .bool):(Op.equal T (.bool a) (.bool b)).run P w = .ok (a == b) w:=by
 unfold Op.equal Op.maxDepth
 rw [Op.equalIn]
 simp only [Sem.run_bind,run_underlying hT,Result.andThen,Sem.run_pure]
theorem zby {a b:Bool} (ho:o.op = .binOp .eql T x y U) (hx:ev σ x = some (.bool a)) (hy:ev σ y = some (.bool b)) (hT:P.underlying T = some .bool):Pure P σ o (.bool (a == b)):=fun _ _ hs w=>by
 simp only [execOp,ho,hs.ev hx,hs.ev hy,eqGuard,binOp]
 simp [zTa hT]
theorem zbz {a b:Bool} (ho:o.op = .binOp .neq T x y U) (hx:ev σ x = some (.bool a)) (hy:ev σ y = some (.bool b)) (hT:P.underlying T = some .bool):Pure P σ o (.bool (!(a == b))):=fun _ _ hs w=>by
 simp only [execOp,ho,hs.ev hx,hs.ev hy,eqGuard,binOp]
 simp [zTa hT]
theorem zGw {p:Option Addr} (hT:P.underlying T = some (.pointer E)):(Op.equal T (.pointer p) (.pointer none)).run P w = .ok p.isNone w:=by
 unfold Op.equal Op.maxDepth
 rw [Op.equalIn]
 cases p <;> simp only [Sem.run_bind,run_underlying hT,Result.andThen,Sem.run_pure] <;> rfl
theorem zWE {p:Option Addr} (ho:o.op = .binOp .eql T x y U) (hx:ev σ x = some (.pointer p)) (hy:ev σ y = some (.pointer none)) (hT:P.underlying T = some (.pointer E)):Pure P σ o (.bool p.isNone):=fun _ _ hs w=>by
 cases p <;> simp only [execOp,ho,hs.ev hx,hs.ev hy,eqGuard,binOp] <;> simp [zGw hT]
theorem zWF {p:Option Addr} (ho:o.op = .binOp .neq T x y U) (hx:ev σ x = some (.pointer p)) (hy:ev σ y = some (.pointer none)) (hT:P.underlying T = some (.pointer E)):Pure P σ o (.bool (!p.isNone)):=fun _ _ hs w=>by
 cases p <;> simp only [execOp,ho,hs.ev hx,hs.ev hy,eqGuard,binOp] <;> simp [zGw hT]
theorem zIV {s:Sl} {n c:Nat} (hT:P.underlying T = some (.slice E)):(Op.equal T s.val (.slice none n c)).run P w = .ok s.a.isNone w:=by
 obtain ⟨a,m,d⟩:=s
 unfold Op.equal Op.maxDepth
 rw [Op.equalIn]
 cases a <;> simp only [Sl.val,Sem.run_bind,run_underlying hT,Result.andThen,Sem.run_pure] <;> rfl
theorem zYf {s:Sl} {n c:Nat} (ho:o.op = .binOp .eql T x y U) (hx:ev σ x = some s.val) (hy:ev σ y = some (.slice none n c)) (hT:P.underlying T = some (.slice E)):Pure P σ o (.bool s.a.isNone):=fun _ _ hs w=>by
 obtain ⟨a,m,d⟩:=s
 have:=zIV (w:=w) (s:=⟨a,m,d⟩) (n:=n) (c:=c) hT
 simp only [execOp,ho,hs.ev hx,hs.ev hy,eqGuard,binOp]
 simp [this]
theorem zYg {s:Sl} {n c:Nat} (ho:o.op = .binOp .neq T x y U) (hx:ev σ x = some s.val) (hy:ev σ y = some (.slice none n c)) (hT:P.underlying T = some (.slice E)):Pure P σ o (.bool (!s.a.isNone)):=fun _ _ hs w=>by
 obtain ⟨a,m,d⟩:=s
 have:=zIV (w:=w) (s:=⟨a,m,d⟩) (n:=n) (c:=c) hT
 simp only [execOp,ho,hs.ev hx,hs.ev hy,eqGuard,binOp]
 simp [this]
end nils
theorem zb0 {T:TypeId} {s:Sl} {E esz:Nat} (ho:o.op = .call { callee:=.builtin .len,args:=#[x],argTypes:=#[T] }) (hx:ev σ x = some s.val) (hT:sliceT P T E esz = true):Pure P σ o (.int .i64 s.n):=fun _ _ hs w=>by
 simp [execOp,ho,hs.ev hx,resolve,invoke,builtin,Builtin.len_,run_underlying (zAC hT).1,goInt]
theorem zar {T:TypeId} {s:ByteArray} (ho:o.op = .call { callee:=.builtin .len,args:=#[x],argTypes:=#[T] }) (hx:ev σ x = some (.string s)) (hT:zFP P T = true):Pure P σ o (.int .i64 s.size):=fun _ _ hs w=>by
 simp [execOp,ho,hs.ev hx,resolve,invoke,builtin,Builtin.len_,run_underlying (zDU hT),goInt]
theorem zN4 {vs:Array Value} {i:Nat} {v:Value} (ho:o.op = .extract x i) (hx:ev σ x = some (.tuple vs)) (hv:vs[i]? = some v):Pure P σ o v:=fun _ _ hs w=>by
 simp [execOp,ho,hs.ev hx,Instr.extract,hv]
theorem zb1 {T E esz:Nat} {k:IntKind} {s:Sl} {i:Int} {a:Addr} (ho:o.op = .indexAddr T x y) (hx:ev σ x = some s.val) (hy:ev σ y = some (.int k i)) (hT:sliceT P T E esz = true)
  (ha:s.a = some a) (h0:0 ≤ i) (h1:i < s.n):Pure P σ o (.pointer (some (a.add (i.toNat * esz)))):=fun _ _ hs w=>by
 simp [execOp,ho,hs.ev hx,hs.ev hy,Instr.indexAt,asIntOf,run_underlying (zAC hT).1,ha,h0,h1,jE (zAC hT).2]
theorem zas {T E len esz:Nat} {k:IntKind} {i:Int} {a:Addr} (ho:o.op = .indexAddr T x y) (hx:ev σ x = some (.pointer (some a))) (hy:ev σ y = some (.int k i)) (hT:zL9 P T E len esz = true)
  (h0:0 ≤ i) (h1:i < len):Pure P σ o (.pointer (some (a.add (i.toNat * esz)))):=fun _ _ hs w=>by
 simp [execOp,ho,hs.ev hx,hs.ev hy,Instr.indexAt,asIntOf,Instr.sureAddr,run_underlying (zFQ hT).1,h0,h1,jE (zFQ hT).2]
theorem zat {T:Nat} {k:IntKind} {s:ByteArray} {i:Int} {b:UInt8} (ho:o.op = .index T x y) (hx:ev σ x = some (.string s)) (hy:ev σ y = some (.int k i)) (hT:zFP P T = true)
  (h0:0 ≤ i) (h1:s[i.toNat]? = some b):Pure P σ o (.int .u8 (b.toNat:Int)):=fun _ _ hs w=>by
 simp [execOp,ho,hs.ev hx,hs.ev hy,Instr.index,asIntOf,run_underlying (zDU hT),h0,h1]
theorem zMA {fn:Fn} {first cap:Array Operand} {fs cs:List Value} (ho:o.op = .makeFunc fn first cap) (hf:first.toList.mapM (ev σ) = some fs) (hc:cap.toList.mapM (ev σ) = some cs):Pure P σ o (.func fn fs.toArray cs.toArray):=fun a _ hs w=>by
 have key:∀ (l:List Operand) (vs:List Value),l.mapM (ev σ) = some vs→l.map a.eval = vs:=by
  intro l
  induction l with
  | nil=>intro vs h; simp at h; simp [h]
  | cons u l ih =>
   intro vs h
   simp only [List.mapM_cons] at h
   cases hu:ev σ u with
   | none=>simp [hu] at h
   | some v =>
    cases hl:l.mapM (ev σ) with
    | none=>simp [hu,hl] at h
    | some vs'=>simp [hu,hl] at h; subst h; simp [hs.ev hu,ih _ hl]
 have h1:first.map a.eval = fs.toArray:=by
  apply Array.ext'; simpa using key _ _ hf
 have h2:cap.map a.eval = cs.toArray:=by
  apply Array.ext'; simpa using key _ _ hc
 simp only [execOp,ho,Instr.makeFunc,h1,h2]
 simp
end
end
section
open Go
section
variable {P : Program} {σ : List (Nat × Value)} {o : Oper} {x y z : Operand} {w w' : World} {v : Value}
def zGe (σ : List (Nat × Value)) (x : Option Operand) (d : Int) (i : Int) : Prop :=
  match x with
  | none => i = d
  | some x => ∃ k, ev σ x = some (.int k i)
theorem zb2 {T E esz : Nat} {s : Sl} {lo hi mx : Option Operand} {l h m : Int} (ho : o.op = .slice T x lo hi mx) (hx : ev σ x = some s.val) (hT : sliceT P T E esz = true)
    (hl : zGe σ lo 0 l) (hh : zGe σ hi s.n h) (hm : zGe σ mx s.c m) (hmx : mx.isSome = true → hi.isSome = true) (h0 : 0 ≤ l) (h1 : l ≤ h) (h2 : h ≤ m) (h3 : m ≤ s.c) :
    Pure P σ o (Sl.val ⟨zCE s.a l.toNat m.toNat esz, h.toNat - l.toNat, m.toNat - l.toNat⟩) := fun a n hs w => by
  obtain ⟨hsl, hsz⟩ := zAC hT
  have hz := jE (w := w) hsz
  have bound : ∀ (k : IntKind) (i : Int) (y : Nat) (c : BoundsCode), 0 ≤ i → i ≤ y → (Instr.sliceBound (.int k i) y c).run P w = .ok i.toNat w := fun k i y c ha hb => by
    simp [Instr.sliceBound, asIntOf, ha, hb]
  have hmE : m.toNat ≤ s.c := by omega
  have hmI : ((m.toNat : Nat) : Int) = m := Int.toNat_of_nonneg (by omega)
  have hhI : ((h.toNat : Nat) : Int) = h := Int.toNat_of_nonneg (by omega)
  simp only [execOp, ho, Instr.sliceAt, hs.ev hx]
  simp only [Sem.run_bind, run_underlying hsl, Result.andThen, Instr.slice, Sl.val]
  simp only [Instr.sliceBounds]
  cases mx with
  | none =>
    simp only [zGe] at hm; subst hm
    cases hi with
    | none =>
      simp only [zGe] at hh; subst hh
      cases lo with
      | none =>
        simp only [zGe] at hl; subst hl
        simp [hz, zCE]
      | some lo =>
        obtain ⟨k, hk⟩ := hl
        simp [hs.ev hk, bound k l s.n _ h0 (by omega), hz, zCE]
    | some hi =>
      obtain ⟨k', hk'⟩ := hh
      cases lo with
      | none =>
        simp only [zGe] at hl; subst hl
        simp [hs.ev hk', bound k' h s.c _ (by omega) (by omega), hz, zCE]
      | some lo =>
        obtain ⟨k, hk⟩ := hl
        simp [hs.ev hk, hs.ev hk', bound k' h s.c _ (by omega) (by omega), bound k l h.toNat _ h0 (by omega), hz, zCE]
  | some mx =>
    obtain ⟨k'', hk''⟩ := hm
    cases hi with
    | none => simp at hmx
    | some hi =>
      obtain ⟨k', hk'⟩ := hh
      cases lo with
      | none =>
        simp only [zGe] at hl; subst hl
        simp [hs.ev hk', hs.ev hk'', bound k'' m s.c _ (by omega) (by omega), bound k' h m.toNat _ (by omega) (by omega), hz, zCE]
      | some lo =>
        obtain ⟨k, hk⟩ := hl
        simp [hs.ev hk, hs.ev hk', hs.ev hk'', bound k'' m s.c _ (by omega) (by omega), bound k' h m.toNat _ (by omega) (by omega), bound k l h.toNat _ h0 (by omega), hz, zCE]
theorem zau {T : Nat} {s : ByteArray} {lo hi : Option Operand} {l h : Int} (ho : o.op = .slice T x lo hi none) (hx : ev σ x = some (.string s)) (hT : zFP P T = true)
    (hl : zGe σ lo 0 l) (hh : zGe σ hi s.size h) (h0 : 0 ≤ l) (h1 : l ≤ h) (h2 : h ≤ s.size) : Pure P σ o (.string (s.extract l.toNat h.toNat)) := fun a n hs w => by
  have hsl := zDU hT
  have bound : ∀ (k : IntKind) (i : Int) (y : Nat) (c : BoundsCode), 0 ≤ i → i ≤ y → (Instr.sliceBound (.int k i) y c).run P w = .ok i.toNat w := fun k i y c ha hb => by
    simp [Instr.sliceBound, asIntOf, ha, hb]
  simp only [execOp, ho, Instr.sliceAt, hs.ev hx]
  simp only [Sem.run_bind, run_underlying hsl, Result.andThen, Instr.slice]
  simp only [Instr.sliceBounds]
  cases hi with
  | none =>
    simp only [zGe] at hh; subst hh
    cases lo with
    | none => simp only [zGe] at hl; subst hl; simp
    | some lo =>
      obtain ⟨k, hk⟩ := hl
      simp [hs.ev hk, bound k l s.size _ h0 (by omega)]
  | some hi =>
    obtain ⟨k', hk'⟩ := hh
    cases lo with
    | none =>
      simp only [zGe] at hl; subst hl
      simp [hs.ev hk', bound k' h s.size _ (by omega) (by omega)]
    | some lo =>
      obtain ⟨k, hk⟩ := hl
      simp [hs.ev hk, hs.ev hk', bound k' h s.size _ (by omega) (by omega), bound k l h.toNat _ h0 (by omega)]
theorem zWG {T : TypeId} {a : Addr} (ho : o.op = .load T x) (hx : ev σ x = some (.pointer (some a))) (hT : zN1 P T = true) (hv : w.cell? a = some v) : Eff P σ o w (.value v) w := fun _ _ hs => by
  simp [execOp, ho, hs.ev hx, Instr.loadAt, Instr.sureAddr, loadVar, zIg hT, load, Sem.run, hv]
theorem run_loadCells {a : Addr} {cs : Array Value} (h : RdN w a cs) : (loadCells a cs.size).run P w = .ok cs w := by
  have key : ∀ (n i : Nat) (acc : Array Value), i + n = cs.size → acc.toList = cs.toList.take i → (loadCellsFrom a i n acc).run P w = .ok cs w := by
    intro n
    induction n with
    | zero =>
      intro i acc hi hacc
      have : acc = cs := by apply Array.ext'; rw [hacc, List.take_of_length_le]; simp; omega
      simp [loadCellsFrom, this]
    | succ n ih =>
      intro i acc hi hacc
      have hlt : i < cs.size := by omega
      have hc := h i hlt
      rw [Array.getElem?_eq_getElem hlt] at hc
      simp only [loadCellsFrom, Sem.run_bind, load, Sem.run, hc, Result.andThen]
      refine ih (i + 1) _ (by omega) ?_
      rw [Array.toList_push, hacc, List.take_succ_eq_append_getElem (by simpa using hlt)]
      simp
  exact key cs.size 0 #[] (by omega) (by simp)
theorem zTb {T n : Nat} {a : Addr} {cs : Array Value} (ho : o.op = .load T x) (hx : ev σ x = some (.pointer (some a))) (hT : zVA P T n = true) (hn : cs.size = n) (hv : RdN w a cs) : Eff P σ o w (.value (.agg cs)) w := fun _ _ hs => by
  subst hn
  simp [execOp, ho, hs.ev hx, Instr.loadAt, Instr.sureAddr, loadVar, (zEy hT).1, (zEy hT).2, run_loadCells hv]
theorem zMB {a : Addr} (hv : yu v = true) (hc : ∃ u, w.cell? a = some u) (hf : w.frozen? a = false) : (store a v).run P w = .ok () (w.setCell a v) := by
  obtain ⟨u, hu⟩ := hc
  cases v <;> simp [yu] at hv <;> simp [store, Sem.run, hu, hf]
theorem zI4 {w : World} {p q : Addr} {x : Value} (h : ∃ u, w.cell? q = some u) : ∃ u, (w.setCell p x).cell? q = some u := by
  obtain ⟨u, hu⟩ := h
  unfold World.cell? at hu ⊢
  unfold World.setCell
  simp only [Array.getElem?_modify]
  cases hb : w.heap[q.block]? with
  | none => simp [hb] at hu
  | some o =>
    cases o <;> simp [hb] at hu
    rename_i c e fz
    by_cases hq : p.block = q.block
    · simp only [hq, if_true, hb, Option.map_some]
      obtain ⟨h1, h2⟩ := hu
      have hlt : q.off < c.size := (Array.getElem?_eq_some_iff.1 h2).1
      simp only [h1]
      cases hsp : p.spot with
      | some s => simp [h2]
      | none =>
        by_cases ho : p.off = q.off
        · simp [ho, hlt]
        · simp [Array.getElem?_setIfInBounds_ne ho, h2]
    · simp only [hq, if_false, hb]
      obtain ⟨h1, h2⟩ := hu
      simp [h1, h2]
theorem zMC {w : World} {p q : Addr} {x : Value} : (w.setCell p x).frozen? q = w.frozen? q := by
  unfold World.frozen? World.setCell
  simp only [Array.getElem?_modify]
  by_cases hq : p.block = q.block
  · simp only [hq, if_true]
    cases hb : w.heap[q.block]? with
    | none => rfl
    | some o => cases o <;> rfl
  · simp [hq]
theorem zCF {a : Addr} : ∀ (vs : List Value) (i : Nat) (w : World), (∀ v ∈ vs, yu v = true) → (∀ j, j < vs.length → (∃ u, w.cell? (a.add (i + j)) = some u) ∧ w.frozen? (a.add (i + j)) = false) →
    (storeCells a vs i).run P w = .ok () (setCells a vs i w)
  | [], i, w, _, _ => rfl
  | v :: vs, i, w, hf, hc => by
    have h0 := hc 0 (by simp)
    simp only [Nat.add_zero] at h0
    simp only [storeCells, Sem.run_bind, zMB (hf v (by simp)) h0.1 h0.2, Result.andThen, setCells]
    refine zCF vs (i + 1) _ (fun u hu => hf u (by simp [hu])) fun j hj => ?_
    have hj' := hc (j + 1) (by simpa using hj)
    rw [show i + 1 + j = i + (j + 1) by omega]
    exact ⟨zI4 hj'.1, by rw [zMC]; exact hj'.2⟩
theorem zYh {T : TypeId} {a : Addr} (ho : o.op = .store T x y) (hx : ev σ x = some (.pointer (some a))) (hy : ev σ y = some v) (hT : sizeT P T 1 = true)
    (hw : w' = w.setCell a v) (hc : ∃ u, w.cell? a = some u) (hf : w.frozen? a = false) (hv : yu v = true) : Eff P σ o w .skip w' := fun _ _ hs => by
  subst hw
  have h1 : v.cells = #[v] := by cases v <;> simp [yu] at hv <;> rfl
  have ha : a.add 0 = a := by simp [Addr.add]
  simp [execOp, ho, hs.ev hx, hs.ev hy, Instr.storeAt, Instr.sureAddr, storeVar, jE hT, h1, storeCells, ha, zMB hv hc hf]
theorem zWH {T n : Nat} {a : Addr} {cs : Array Value} (ho : o.op = .store T x y) (hx : ev σ x = some (.pointer (some a))) (hy : ev σ y = some (.agg cs)) (hT : sizeT P T n = true) (hw : w' = setCells a cs.toList 0 w) (hn : cs.size = n)
    (hc : ∀ i, i < cs.size → (∃ u, w.cell? (a.add i) = some u) ∧ w.frozen? (a.add i) = false) (hv : ∀ v ∈ cs.toList, yu v = true) : Eff P σ o w .skip w' := fun _ _ hs => by
  subst hn; subst hw
  have := zCF (P := P) (a := a) cs.toList 0 w hv (fun j hj => by simpa using hc j (by simpa using hj))
  simp [execOp, ho, hs.ev hx, hs.ev hy, Instr.storeAt, Instr.sureAddr, storeVar, jE hT, Value.cells, this]
theorem zb3 {T : TypeId} {cs : Array Value} {a : Addr} (ho : o.op = .box T x) (hx : ev σ x = some v) (hc : v.cells = cs) (ha : a = ⟨w.heap.size, 0, none⟩) (hw : w' = { w with heap := w.heap.push (.cells cs T) }) : Eff P σ o w (.value (.pointer (some a))) w' := fun _ _ hs => by
  subst ha; subst hw; subst hc
  simp [execOp, ho, hs.ev hx, Instr.box, newVar, newRow, newObj, Sem.run]
def zBl (P : Program) (T : TypeId) (z : Value) : Prop := ∃ i, P.info? T = some i ∧ i.zero = some z
theorem zAx {T : TypeId} {z : Value} (h : zBl P T z) : (zeroValue T).run P w = .ok z w := by
  obtain ⟨i, hi, hz⟩ := h
  simp [zeroValue, typeInfo, program, hi, hz, Sem.run]
theorem zYi {T : TypeId} {zv : Value} {cs : Array Value} {a : Addr} (ho : o.op = .alloc T) (hz : zBl P T zv) (hc : zv.cells = cs) (ha : a = ⟨w.heap.size, 0, none⟩) (hw : w' = { w with heap := w.heap.push (.cells cs T) }) : Eff P σ o w (.value (.pointer (some a))) w' := fun _ _ hs => by
  subst ha; subst hw; subst hc
  simp [execOp, ho, Instr.alloc, zAx hz, newVar, newRow, newObj, Sem.run]
def partsOf (σ : List (Nat × Value)) : List (Nat × Operand) → Option (List (Nat × Value))
  | [] => some []
  | p :: ps => match ev σ p.2, partsOf σ ps with
    | some v, some vs => some ((p.1, v) :: vs)
    | _, _ => none
theorem zEo {a : Act} {n : Nat} (hs : Slots a n σ) : ∀ {ps : List (Nat × Operand)} {vs : List (Nat × Value)}, partsOf σ ps = some vs → ps.map (fun p => (p.1, a.eval p.2)) = vs
  | [], vs, h => by simp [partsOf] at h; subst h; rfl
  | p :: ps, vs, h => by
    unfold partsOf at h
    split at h
    · rename_i v vs' hv hvs
      cases h
      simp [hs.ev hv, zEo hs hvs]
    · cases h
def zTc (P : Program) (T : TypeId) (places : List (Nat × Nat)) : Prop :=
  ∃ fs, P.underlying T = some (.struct fs) ∧ fs.toList.map (fun f => ((P.info? f.type).map fun i => (f.offset, i.size))) = places.map some
theorem run_places {fs : List Field} : ∀ {places : List (Nat × Nat)}, fs.map (fun f => ((P.info? f.type).map fun i => (f.offset, i.size))) = places.map some →
    (List.mapM (fun f : Field => (Prod.mk f.offset <$> sizeOf f.type : Sem (Nat × Nat))) fs).run P w = .ok places w := by
  induction fs with
  | nil => intro places h; cases places <;> simp at h; simp
  | cons f fs ih =>
    intro places h
    cases places with
    | nil => simp at h
    | cons p places =>
      simp only [List.map_cons, List.cons.injEq] at h
      obtain ⟨h1, h2⟩ := h
      cases hi : P.info? f.type with
      | none => simp [hi] at h1
      | some i =>
        simp [hi] at h1; subst h1
        have hz : (sizeOf f.type).run P w = .ok i.size w := jE (by simp [sizeT, hi])
        rw [List.mapM_cons]
        simp only [Sem.run_bind, Sem.run_map, hz, Result.andThen, ih h2, Sem.run_pure]
theorem zTd {T : TypeId} {zv : Value} {places : List (Nat × Nat)} {ps : Array (Nat × Operand)} {vs : List (Nat × Value)} {cs : Array Value} (ho : o.op = .build T ps) (hz : zBl P T zv) (hp : zTc P T places)
    (hv : partsOf σ ps.toList = some vs) (hc : Instr.fill (places[·]?) zv.cells vs = some cs) : Pure P σ o (.agg cs) := fun _ _ hs w => by
  obtain ⟨fs, hu, hf⟩ := hp
  have h1 := zEo hs hv
  have h2 : (fs.mapM fun f => do pure (f.offset, ← sizeOf f.type) : Sem (Array (Nat × Nat))).run P w = .ok places.toArray w := by
    rw [Array.mapM_eq_mapM_toList]
    simp [run_places (w := w) hf, Result.andThen]
  simp only [execOp, ho, Instr.build]
  simp only [Sem.run_bind, zAx hz, Result.andThen, run_underlying hu, h2]
  have h3 : (fun x : Nat => places.toArray[x]?) = (fun x : Nat => places[x]?) := by funext i; simp
  simp [h1, h3, hc]
theorem zWI {T : TypeId} {ps : Array (Nat × Operand)} {vs : List (Nat × Value)} (ho : o.op = .build T ps) (hv : partsOf σ ps.toList = some vs) (hr : (Instr.build T vs.toArray).run P w = .ok v w') : Eff P σ o w (.value v) w' := fun _ _ hs => by
  have h1 := zEo hs hv
  have h2 : ∀ f : Operand → Value, ps.map (fun p => (p.1, f p.2)) = (ps.toList.map (fun p => (p.1, f p.2))).toArray := fun f => by apply Array.ext'; simp
  simp only [execOp, ho]
  rw [h2, h1]
  simp [hr]
theorem zb4 {v : Value} (h : ∀ w, Eff P σ o w (.value v) w) : Pure P σ o v := fun a n hs w => h w a n hs
theorem zI5 {T E esz len : Nat} {zv : Value} {ps : Array (Nat × Operand)} {vs : List (Nat × Value)} {z cs : Array Value} {a : Addr} (ho : o.op = .buildSlice T len ps) (hT : sliceT P T E esz = true) (hz : zBl P E zv)
    (hl : len * esz ≤ 2 ^ 24) (hv : partsOf σ ps.toList = some vs) (hzz : (Array.range (len * esz)).map (fun i => (if len * esz = 0 then #[] else zv.cells)[i % (if len * esz = 0 then #[] else zv.cells).size]!) = z)
    (hc : Instr.fill (fun i => some (i * esz, esz)) z vs = some cs) (ha : a = ⟨w.heap.size, 0, none⟩) (hw : w' = { w with heap := w.heap.push (.cells cs E) }) :
    Eff P σ o w (.value (Sl.val ⟨some a, len, len⟩)) w' := fun _ _ hs => by
  subst ha; subst hw; subst hzz
  obtain ⟨hsl, hsz⟩ := zAC hT
  have h1 := zEo hs hv
  simp only [execOp, ho, Instr.buildSlice]
  simp only [Sem.run_bind, Result.andThen, run_underlying hsl, jE hsz]
  have h4 : ¬ (len * esz > 2 ^ 24) := by omega
  by_cases h0 : len * esz = 0
  · simp [h0] at hc
    simp [h0, h1, hc, newRow, newObj, Sem.run]
  · simp [h0] at hc
    simp [h0, h4, zAx hz, h1, hc, newRow, newObj, Sem.run]
theorem zWJ {T : TypeId} {ok : Bool} {vx vy : Value} (ho : o.op = .lookup T x y ok) (hx : ev σ x = some vx) (hy : ev σ y = some vy) (hr : (Instr.lookup T vx vy ok).run P w = .ok v w') : Eff P σ o w (.value v) w' := fun _ _ hs => by
  simp [execOp, ho, hs.ev hx, hs.ev hy, hr]
theorem zQn {T : TypeId} {vx vy vz : Value} {u : Unit} (ho : o.op = .mapUpdate T x y z) (hx : ev σ x = some vx) (hy : ev σ y = some vy) (hz : ev σ z = some vz) (hr : (Instr.mapUpdate T vx vy vz).run P w = .ok u w') : Eff P σ o w .skip w' := fun _ _ hs => by
  simp [execOp, ho, hs.ev hx, hs.ev hy, hs.ev hz, hr]
theorem zVB {T U : TypeId} {vx : Value} (ho : o.op = .convert T U x) (hx : ev σ x = some vx) (hr : (convert T U vx).run P w = .ok v w') : Eff P σ o w (.value v) w' := fun _ _ hs => by
  simp [execOp, ho, hs.ev hx, hr]
theorem zYj {op : BinOp} {T U : TypeId} {vx vy : Value} (ho : o.op = .binOp op T x y U) (hx : ev σ x = some vx) (hy : ev σ y = some vy) (hr : (do eqGuard op T x y vx vy; binOp op T vx vy : Sem Value).run P w = .ok v w') : Eff P σ o w (.value v) w' := fun _ _ hs => by
  simp only [execOp, ho, hs.ev hx, hs.ev hy]
  rw [Sem.run_bind, hr]; rfl
theorem zVC {T : TypeId} (ho : o.op = .makeMap T none) (hr : (Instr.makeMap T none).run P w = .ok v w') : Eff P σ o w (.value v) w' := fun _ _ hs => by
  simp [execOp, ho, hr]
theorem zQo {T : TypeId} {vx vy : Value} (ho : o.op = .makeSlice T x y) (hx : ev σ x = some vx) (hy : ev σ y = some vy) (hr : (Instr.makeSlice T vx vy).run P w = .ok v w') : Eff P σ o w (.value v) w' := fun _ _ hs => by
  simp [execOp, ho, hs.ev hx, hs.ev hy, hr]
theorem zYk {T : TypeId} {vx : Value} (ho : o.op = .range T x) (hx : ev σ x = some vx) (hr : (Instr.range T vx).run P w = .ok v w') : Eff P σ o w (.value v) w' := fun _ _ hs => by
  simp [execOp, ho, hs.ev hx, hr]
theorem zav {s : Bool} {vx : Value} {t : TypeId} (ho : o.op = .next x s) (ht : o.type = t) (hx : ev σ x = some vx) (hr : (Instr.next vx s t).run P w = .ok v w') : Eff P σ o w (.value v) w' := fun _ _ hs => by
  simp [execOp, ho, ht, hs.ev hx, hr]
theorem zYl {vx : Value} (ho : o.op = .entry x) (hx : ev σ x = some vx) (hr : (Instr.entry vx).run P w = .ok v w') : Eff P σ o w (.value v) w' := fun _ _ hs => by
  simp [execOp, ho, hs.ev hx, hr]
theorem zLC {T : TypeId} {vx : Value} (ho : o.op = .makeInterface T x) (hx : ev σ x = some vx) (hr : (Instr.makeInterface T vx).run P w = .ok v w') : Eff P σ o w (.value v) w' := fun _ _ hs => by
  simp [execOp, ho, hs.ev hx, hr]
section builtins
variable {ts : Array TypeId} {t : TypeId} {vx vy : Value}
theorem zWK (ho : o.op = .call { callee := .builtin .append, args := #[x, y], argTypes := ts }) (ht : o.type = t) (hx : ev σ x = some vx) (hy : ev σ y = some vy) (hr : (Builtin.append_ ts t #[vx, vy]).run P w = .ok v w') : Eff P σ o w (.value v) w' := fun _ _ hs => by
  simp [execOp, ho, hs.ev hx, hs.ev hy, ht, resolve, invoke, builtin, hr]
theorem zaw (ho : o.op = .call { callee := .builtin .copy, args := #[x, y], argTypes := ts }) (ht : o.type = t) (hx : ev σ x = some vx) (hy : ev σ y = some vy) (hr : (Builtin.copy_ ts t #[vx, vy]).run P w = .ok v w') : Eff P σ o w (.value v) w' := fun _ _ hs => by
  simp [execOp, ho, hs.ev hx, hs.ev hy, ht, resolve, invoke, builtin, hr]
theorem zWL (ho : o.op = .call { callee := .builtin .delete, args := #[x, y], argTypes := ts }) (ht : o.type = t) (hx : ev σ x = some vx) (hy : ev σ y = some vy) (hr : (Builtin.delete_ ts t #[vx, vy]).run P w = .ok v w') : Eff P σ o w (.value v) w' := fun _ _ hs => by
  simp [execOp, ho, hs.ev hx, hs.ev hy, ht, resolve, invoke, builtin, hr]
theorem zYm (ho : o.op = .call { callee := .builtin .clear, args := #[x], argTypes := ts }) (ht : o.type = t) (hx : ev σ x = some vx) (hr : (Builtin.clear_ ts t #[vx]).run P w = .ok v w') : Eff P σ o w (.value v) w' := fun _ _ hs => by
  simp [execOp, ho, hs.ev hx, ht, resolve, invoke, builtin, hr]
theorem zb5 (ho : o.op = .call { callee := .builtin .len, args := #[x], argTypes := ts }) (ht : o.type = t) (hx : ev σ x = some vx) (hr : (Builtin.len_ ts t #[vx]).run P w = .ok v w') : Eff P σ o w (.value v) w' := fun _ _ hs => by
  simp [execOp, ho, hs.ev hx, ht, resolve, invoke, builtin, hr]
theorem zb6 (ho : o.op = .call { callee := .builtin .cap, args := #[x], argTypes := ts }) (ht : o.type = t) (hx : ev σ x = some vx) (hr : (Builtin.cap_ ts t #[vx]).run P w = .ok v w') : Eff P σ o w (.value v) w' := fun _ _ hs => by
  simp [execOp, ho, hs.ev hx, ht, resolve, invoke, builtin, hr]
end builtins
def evs (σ : List (Nat × Value)) : List Operand → Option (List Value)
  | [] => some []
  | x :: xs => match ev σ x, evs σ xs with
    | some v, some vs => some (v :: vs)
    | _, _ => none
theorem zFf {a : Act} {n : Nat} (hs : Slots a n σ) : ∀ {xs : List Operand} {vs : List Value}, evs σ xs = some vs → xs.map a.eval = vs
  | [], vs, h => by simp [evs] at h; subst h; rfl
  | x :: xs, vs, h => by
    unfold evs at h
    split at h
    · rename_i v vs' hv hvs
      cases h
      simp [hs.ev hv, zFf hs hvs]
    · cases h
theorem zDV {f : FuncId} {args : Array Value} (h : callable P f = true) : (callFunc f args).run P w = .ok (.enter f args) w := by
  unfold callable at h
  unfold callFunc program
  cases hf : P.funcs[f]? with
  | none => simp [hf] at h
  | some fn =>
    simp [hf] at h
    have h2 : fn.body.isNone = false := by cases hb : fn.body <;> simp [hb] at h ⊢
    have h1 : (fn.name == "runtime.NumGoroutine") = false := by simpa using h.1
    simp only [Sem.run_bind, Sem.run, Result.andThen, hf, h1, h2, Bool.false_eq_true, if_false, Sem.run_pure]
theorem zax {f : FuncId} {xs : Array Operand} {ts : Array TypeId} {vs : List Value} (ho : o.op = .call { callee := .value x, args := xs, argTypes := ts }) (hx : ev σ x = some (.func (.func f) #[] #[])) (hv : evs σ xs.toList = some vs)
    (hf : callable P f = true) : Eff P σ o w (.enter f vs.toArray) w := fun a _ hs => by
  have h1 : xs.map a.eval = vs.toArray := by apply Array.ext'; simpa using zFf hs hv
  simp [execOp, ho, resolve, hs.ev hx, h1, Deferred.ofValue, invoke, zDV hf]
theorem zTe {f : FuncId} {first cap : Array Value} {xs : Array Operand} {ts : Array TypeId} {vs : List Value} (ho : o.op = .call { callee := .value x, args := xs, argTypes := ts }) (hx : ev σ x = some (.func (.func f) first cap)) (hv : evs σ xs.toList = some vs)
    (hf : callable P f = true) : Eff P σ o w (.enter f (first ++ vs.toArray ++ cap)) w := fun a _ hs => by
  have h1 : xs.map a.eval = vs.toArray := by apply Array.ext'; simpa using zFf hs hv
  simp [execOp, ho, resolve, hs.ev hx, h1, Deferred.ofValue, invoke, zDV hf]
end
section
variable {P : Program} {fn : Func} {a : Act} {n : Nat} {σ : List (Nat × Value)} {w : World}
theorem zQp {T : TypeId} {b : Addr} {v : Value} (hT : zN1 P T = true) (hv : w.cell? b = some v) : (loadVar T b).run P w = .ok v w := by
  simp [loadVar, zIg hT, load, Sem.run, hv]
theorem zO3 {T m : Nat} {b : Addr} {cs : Array Value} (hT : zVA P T m = true) (hm : cs.size = m) (hv : RdN w b cs) : (loadVar T b).run P w = .ok (.agg cs) w := by
  subst hm
  simp [loadVar, (zEy hT).1, (zEy hT).2, run_loadCells hv]
def zb7 (P : Program) (σ : List (Nat × Value)) (w : World) (r : ResultVar) (v : Value) : Prop :=
  match r with
  | .tmp t => look σ t = some v
  | .cell t T => ∃ b, look σ t = some (.pointer (some b)) ∧ (loadVar T b).run P w = .ok v w
def zGx (tmps : Array Value) : ResultVar → Sem Value
  | .tmp t => pure (tmps.getD t undef)
  | .cell b t => do loadVar t (← asAddr (tmps.getD b undef))
theorem zSV (fn : Func) (tmps : Array Value) : results fn tmps = (do
    let vs ← fn.results.mapM (zGx tmps)
    pure (if h : vs.size = 1 then vs[0] else .tuple vs)) := by
  unfold results
  congr 1
theorem zJ5 {r : ResultVar} {v : Value} (hs : Slots a n σ) (h : zb7 P σ w r v) : (zGx a.tmps r).run P w = .ok v w := by
  cases r with
  | tmp t => simp only [zGx, Sem.run_pure, hs.at' _ _ h]
  | cell b T =>
    obtain ⟨c, hc, hl⟩ := h
    have := hs.at' _ _ hc
    simp only [zGx]
    rw [this]
    simp [asAddr, hl]
end
end
section
open Go Go.RowKit
theorem uT (b o n:Nat):(⟨b,o,none⟩:Addr).add n = ⟨b,o + n,none⟩:=by
 unfold Addr.add; split
 ·rename_i h; subst h; rfl
 ·rfl
theorem add_add' (a:Addr) (h:a.spot = none) (m n:Nat):(a.add m).add n = a.add (m + n):=by
 obtain ⟨b,o,s⟩:=a; simp only at h; subst h; simp [uT,Nat.add_assoc]
section
variable {B w:World} {Γ:List zC}
theorem vE {b off:Nat} {cs:Array Value} {T:TypeId} {fz:Nat×Nat} {v:Value} (h:w.heap[b]? = some (.cells cs T fz)) (hv:cs[off]? = some v):w.cell? ⟨b,off,none⟩ = some v:=by
 simp [World.cell?,h,hv]
theorem zA7 {b off:Nat} {cs:Array Value} {T:TypeId} {fz:Nat×Nat} (h:w.heap[b]? = some (.cells cs T fz)) (hf:¬ (fz.1 ≤ off∧off < fz.2)):w.frozen? ⟨b,off,none⟩ = false:=by
 obtain ⟨lo,hi⟩:=fz
 simp [World.frozen?,h]
 simp at hf
 exact hf
theorem Holds.mem {A:zC} (h:Holds B Γ w) (hm:A ∈ Γ):∃ Δ,Holds B (A::Δ) w:=by
 obtain ⟨i,hi⟩:=List.mem_iff_getElem?.1 hm
 exact ⟨_,h.pick i hi⟩
theorem Holds.zTf {b:Nat} {o:Obj} (h:Holds B Γ w) (hm:blk b o ∈ Γ):w.heap[b]? = some o:=by
 obtain ⟨Δ,h'⟩:=h.mem hm; exact h'.block
theorem Holds.zYn (h:Holds B Γ w) {a:Addr} {v:Value} (hc:B.cell? a = some v):w.cell? a = some v:=by
 unfold World.cell? at hc ⊢
 cases hb:B.heap[a.block]? with
 | none=>simp [hb] at hc
 | some o=>rw [h.old hb]; simpa [hb] using hc
theorem zQq {T:TypeId} {cs:Array Value} {k:Addr→K} (h:Holds B Γ w) (hk:∀ b w',Holds B (blk b (.cells cs T (0,0))::Γ) w'→k ⟨b,0,none⟩ w'):New T cs k w :=
 ⟨_,_,rfl,rfl,hk _ _ (h.alloc _)⟩
theorem zc5 {k:K} (h:Holds B Γ w) (hk:∀ w',Holds B Γ w'→k w'):Dr k w:=⟨_,rfl,hk _ (h.drew _)⟩
theorem zMD {b:Bool} {x y:K} (h1:b = true→x w) (h2:b = false→y w):Ite b x y w:=⟨h1,h2⟩
theorem zTg {b:Bool} {x y:K} (hb:b = true) (h1:x w):Ite b x y w:=⟨fun _=>h1,fun h=>absurd (hb.symm.trans h) (by simp)⟩
theorem zO4 {b:Bool} {x y:K} (hb:b = false) (h1:y w):Ite b x y w:=⟨fun h=>absurd (hb.symm.trans h) (by simp),fun _=>h1⟩
theorem zFg {e e':Int} {k:Int→K} (he:e = e') (hk:k e' w):Ar e k w:=⟨e',he.symm,hk⟩
theorem zYo {p:Prop} {k:K} (hp:p) (hk:k w):Cd p k w:=⟨hp,hk⟩
theorem wrap64 {e:Int} (h0:-9223372036854775808 ≤ e) (h1:e ≤ 9223372036854775807):IntKind.wrap .i64 e = e:=by
 unfold IntKind.wrap; simp only [IntKind.bits,IntKind.signed,Bool.true_and,decide_eq_true_eq,Nat.reduceSub,Int.reducePow,ge_iff_le]; split <;> omega
theorem zA0 {e:Int} (h0:0 ≤ e) (h1:e ≤ 18446744073709551615):IntKind.wrap .u64 e = e:=by
 unfold IntKind.wrap; simp only [IntKind.bits,IntKind.signed,Bool.false_and,Bool.false_eq_true,if_false]; omega
theorem zO5 {e:Int} {k:Int→K} (h0:-9223372036854775808 ≤ e) (h1:e ≤ 9223372036854775807) (hk:k e w):Ar (IntKind.wrap .i64 e) k w:=zFg (wrap64 h0 h1) hk
theorem zay {α:Type} {a:Addr} {b off:Nat} {cs:Array Value} {T:TypeId} {fz:Nat×Nat} {c:α→Value} {x:α} {k:α→K} (h:Holds B Γ w) (ha:a = ⟨b,off,none⟩) (hm:blk b (.cells cs T fz) ∈ Γ)
  (hv:cs[off]? = some (c x)) (hk:k x w):Ld a c k w:=⟨x,by subst ha; exact vE (h.zTf hm) hv,hk⟩
theorem zVD {b off:Nat} {cs cs':Array Value} {T:TypeId} {fz:Nat×Nat} (h:w.heap[b]? = some (.cells cs T fz)) (hc:∀ i,i < cs'.size→cs[off + i]? = cs'[i]?):RdN w ⟨b,off,none⟩ cs':=fun i hi=>by
 rw [uT]
 rw [← hc i hi]
 have:cs[off + i]? = some cs'[i]:=by rw [hc i hi]; simp [hi]
 rw [vE h this,this]
theorem zI6 {b off:Nat} {cs:Array Value} {T:TypeId} {fz:Nat×Nat} {v:Value} (h:w.heap[b]? = some (.cells cs T fz)) :
  w.setCell ⟨b,off,none⟩ v = { w with heap:=w.heap.setIfInBounds b (.cells (cs.setIfInBounds off v) T fz) }:=by
 unfold World.setCell
 congr 1
 apply Array.ext_getElem?
 intro i
 rw [Array.getElem?_modify]
 by_cases hi:b = i
 ·subst hi
  have h3:b < w.heap.size:=(Array.getElem?_eq_some_iff.1 h).1
  simp only [if_true,h,Option.map_some]
  simp [h3]
 ·rw [if_neg hi,Array.getElem?_setIfInBounds_ne hi]
theorem zNb {a:Addr} {b off:Nat} {cs:Array Value} {T:TypeId} {fz:Nat×Nat} {v:Value} {k:K} (i:Nat) (h:Holds B Γ w) (ha:a = ⟨b,off,none⟩) (hi:Γ[i]? = some (blk b (.cells cs T fz))) (ho:off < cs.size)
  (hf:¬ (fz.1 ≤ off∧off < fz.2)) (hv:yu v = true) (hk:∀ w',Holds B (Γ.set i (blk b (.cells (cs.setIfInBounds off v) T fz))) w'→k w'):St a v k w:=by
 subst ha
 have h1:=h.pick i hi
 have hb:=h1.block
 refine ⟨_,rfl,⟨_,vE hb (Array.getElem?_eq_getElem ho)⟩,zA7 hb hf,hv,hk _ ?_⟩
 exact Holds.put i hi (h1.setBlock (zI6 hb))
theorem zBv {b:Nat} {T:TypeId} {fz:Nat×Nat}:∀ (vs:List Value) (off i:Nat) (w:World) (cs:Array Value),w.heap[b]? = some (.cells cs T fz) →
  setCells ⟨b,off,none⟩ vs i w = { w with heap:=w.heap.setIfInBounds b (.cells ((vs.zipIdx (off + i)).foldl (fun c p=>c.setIfInBounds p.2 p.1) cs) T fz) }
 | [],off,i,w,cs,h=>by
  simp only [setCells,List.zipIdx_nil,List.foldl_nil]
  have hlt:=(Array.getElem?_eq_some_iff.1 h).1
  have:w.heap.setIfInBounds b (.cells cs T fz) = w.heap:=by
   apply Array.ext
   ·simp
   ·intro j h1 h2
    rw [Array.getElem_setIfInBounds]
    split
    ·rename_i hj; subst hj; exact (Array.getElem?_eq_some_iff.1 h).2.symm
    ·rfl
  rw [this]
 | v::vs,off,i,w,cs,h=>by
  have hlt:=(Array.getElem?_eq_some_iff.1 h).1
  simp only [setCells,uT]
  rw [zI6 h]
  rw [zBv (T:=T) (fz:=fz) vs off (i + 1) _ (cs.setIfInBounds (off + i) v) (by simp [hlt])]
  simp only [List.zipIdx_cons,List.foldl_cons,Array.setIfInBounds_setIfInBounds]
  rw [Nat.add_assoc]
theorem zEH:∀ (vs:List Value) (pre cs:List Value),pre.length + vs.length = (pre++cs).length →
  (vs.zipIdx pre.length).foldl (fun c p=>c.setIfInBounds p.2 p.1) (pre++cs).toArray = (pre++vs).toArray
 | [],pre,cs,h=>by
  have:cs = []:=by simpa using h
  simp [this]
 | v::vs,pre,[],h=>by simp at h
 | v::vs,pre,c::cs,h=>by
  simp only [List.zipIdx_cons,List.foldl_cons]
  have h1:(pre++c::cs).toArray.setIfInBounds pre.length v = ((pre++[v])++cs).toArray:=by
   apply Array.ext'; simp
  rw [h1]
  have:=zEH vs (pre++[v]) cs (by simp at h ⊢; omega)
  simpa using this
theorem zaN {a:Addr} {b n:Nat} {cs vs:Array Value} {T:TypeId} {fz:Nat×Nat} {k:K} (i:Nat) (h:Holds B Γ w) (ha:a = ⟨b,0,none⟩) (hi:Γ[i]? = some (blk b (.cells cs T fz))) (hn:cs.size = n) (hv:vs.size = n)
  (hf:∀ o,o < n→¬ (fz.1 ≤ o∧o < fz.2)) (hfl:∀ v ∈ vs.toList,yu v = true) (hk:∀ w',Holds B (Γ.set i (blk b (.cells vs T fz))) w'→k w'):StN a n vs k w:=by
 subst ha
 have h1:=h.pick i hi
 have hb:=h1.block
 refine ⟨_,rfl,hv,fun j hj=>?_,hfl,hk _ ?_⟩
 ·rw [uT,Nat.zero_add]
  exact ⟨⟨_,vE hb (Array.getElem?_eq_getElem (by omega))⟩,zA7 hb (hf j (by omega))⟩
 ·refine Holds.put i hi (h1.setBlock ?_)
  rw [zBv _ _ _ _ _ hb]
  have:=zEH vs.toList [] cs.toList (by simp; omega)
  simp only [List.length_nil,List.nil_append] at this
  have h2:(cs.toList).toArray = cs:=by simp
  have h3:(vs.toList).toArray = vs:=by simp
  rw [h2,h3] at this
  simp only [Nat.zero_add,Nat.add_zero]
  rw [this]
theorem zaz {zero cs:Array Value} {n:Nat} {k:Array Value→K} (hz:zero.size = n) (hn:cs.size = n) (hk:k cs w):Bld zero (fun i=>some (i * n,n)) [(0,.agg cs)] k w:=by
 refine ⟨cs,?_,hk⟩
 have h1:(Value.agg cs).cells = cs:=rfl
 simp only [Instr.fill,h1,Nat.zero_mul,Nat.zero_add]
 rw [if_neg (by simp [hz,hn])]
 have h2:=zEH cs.toList [] zero.toList (by simp; omega)
 simp only [List.length_nil,List.nil_append] at h2
 have h3:(cs.toList).toArray = cs:=by simp
 have h4:(zero.toList).toArray = zero:=by simp
 rw [h3,h4] at h2
 rw [← Array.foldl_toList,Array.toList_zipIdx]
 exact congrArg some h2
theorem zME (o:Nat):¬ (((0,0):Nat×Nat).1 ≤ o∧o < ((0,0):Nat×Nat).2):=by simp
end
theorem at3 {A0:zC} {A1:zC} {A2:zC} {A:zC} {Γ:List zC}:(A0::A1::A2::A::Γ)[3]? = some A:=rfl
theorem at4 {A0:zC} {A1:zC} {A2:zC} {A3:zC} {A:zC} {Γ:List zC}:(A0::A1::A2::A3::A::Γ)[4]? = some A:=rfl
def SlC (E esz:Nat) (s:Sl) (vs:List Value):zC:=fun h=>
 vs.length = s.n * esz∧s.n ≤ s.c ∧
 match s.a with
 | none=>s.c = 0
 | some a=>a.spot = none∧∃ cs fz,h a.block = some (.cells cs E fz)∧(∀ i,a.off ≤ i→i < a.off + s.c * esz→¬ (fz.1 ≤ i∧i < fz.2))∧a.off + s.c * esz ≤ cs.size∧∀ i,i < vs.length→cs[a.off + i]? = vs[i]?
structure RdC (w:World) (s:Sl) (esz:Nat) (vs:List Value):Prop where
 len:vs.length = s.n * esz
 nil:s.a = none→s.n = 0
 at':∀ a,s.a = some a→∀ i,i < vs.length→w.cell? (a.add i) = vs[i]?
def ji (b:UInt8):Value:=.int .u8 b.toNat
def Bytes (E:Nat) (s:Sl) (xs:List UInt8):zC:=SlC E 1 s (xs.map ji)
abbrev RdB (w:World) (s:Sl) (xs:List UInt8):Prop:=RdC w s 1 (xs.map ji)
section
variable {B w:World} {Γ:List zC} {E esz:Nat} {s:Sl} {vs:List Value}
theorem zHb {b:Nat} {o:Obj} {h1:Hp} (hl:h1.le (own B w)) (hb:h1 b = some o):w.heap[b]? = some o:=(zGu (hl _ _ hb)).2
theorem Holds.rdC (h:Holds B Γ w) (hm:SlC E esz s vs ∈ Γ):RdC w s esz vs:=by
 obtain ⟨Δ,h'⟩:=h.mem hm
 obtain ⟨_,h1,h2,⟨hl,hc,hs⟩,_,l1,_,_⟩:=h'
 refine ⟨hl,fun hn=>?_,fun a ha i hi=>?_⟩
 ·rw [hn] at hs; simp only at hs; omega
 ·rw [ha] at hs
  obtain ⟨hsp,cs,fz,hb,_,_,hv⟩:=hs
  obtain ⟨b,off,sp⟩:=a
  simp only at hsp; subst hsp
  rw [uT]
  have:=zHb l1 hb
  have h3:=hv i hi
  have h4:vs[i]? = some vs[i]:=by simp [hi]
  rw [h4] at h3
  rw [vE this h3,h4]
theorem Holds.imp' {a:Addr} {n c:Nat} {cs:Array Value} {T:TypeId} {fz:Nat×Nat} (h:Holds B (SlC E esz ⟨some a,n,c⟩ vs::Γ) w) (hb:w.heap[a.block]? = some (.cells cs T fz)):Holds B (blk a.block (.cells cs T fz)::Γ) w:=by
 obtain ⟨hw,h1,h2,⟨hl,hc,hsp,cs',fz',hb',hf,hsz,hv⟩,b2,l1,l2,d⟩:=h
 have:=zHb l1 hb'
 rw [hb] at this
 refine ⟨hw,h1,h2,?_,b2,l1,l2,d⟩
 unfold blk; rw [hb',this]
theorem RdC.old {s:Sl} {esz:Nat} {vs:List Value} (hr:RdC B s esz vs) (h:Holds B Γ w):RdC w s esz vs :=
 ⟨hr.len,hr.nil,fun a ha i hi=>by
  have h1:=hr.at' a ha i hi
  have h2:vs[i]? = some vs[i]:=by simp [hi]
  rw [h2] at h1 ⊢
  exact h.zYn h1⟩
end
end
section
open Go
def jo (ds:List Deferred) (a:Act) (n:Nat) (σ:List (Nat×Value)):Prop:=Slots { a with defers:=[] } n σ∧a.defers = ds
section
variable {P:Program} {ops:Array Oper} {Q:Exit→Act→World→Prop} {rest:List Oper} {o:Oper} {a:Act} {n m:Nat} {σ τ:List (Nat×Value)} {w w':World} {v:Value} {F:Fence} {ds:List Deferred}
theorem Slots.D (h:Slots a n σ):jo [] a n σ:=by
 obtain ⟨t,d⟩:=a
 have:=h.defers
 simp only at this
 subst this
 exact ⟨h,rfl⟩
theorem jo.nil (h:jo [] a n σ):Slots a n σ:=by
 obtain ⟨t,d⟩:=a
 obtain ⟨h1,h2⟩:=h
 simp only at h2
 subst h2
 exact h1
theorem jo.to (h:jo ds a n σ) (hs:Sub σ τ):jo ds a n τ:=⟨h.1.to hs,h.2⟩
theorem jo.put (h:jo ds a n σ) {d:Nat} (hd:d < n) (v:Value):jo ds (a.put (some d) v) n ((d,v)::σ):=by
 have h1:=h.1.put hd v
 exact ⟨h1,h.2⟩
structure Free (F:Fence):Prop where
 fn:∀ f,F.fn f
 depth:F.depth = none
theorem zHc:Free Fence.wide:=⟨fun _=>trivial,rfl⟩
theorem Free.round (h:Free F) (l:Nat):Free (F.inRound l):=⟨h.fn,h.depth⟩
theorem zGA (hF:Free F) {f:FuncId} {args:Array Value} {R:Ending→World→Prop} (ha:F.alive = false) (h:Calls P f args w R):CallsIn F m P f args w R:=by
 obtain ⟨h1,h2⟩:=(callsIn_wide (n:=m)).2 h
 refine ⟨hF.fn f,fun cs hr=>?_⟩
 obtain ⟨e,w',fr,r,s,x⟩:=h2 cs (fun d hd=>by cases hd)
 refine ⟨e,w',fr,r,?_,x⟩
 have key:Machine.fenced P Fence.wide = Machine.fenced P F:=by
  funext mm
  unfold Machine.fenced
  simp [Fence.wide,ha,hF.fn,Fence.room,hF.depth]
 rwa [key] at s
theorem zO6 {m' l:Nat} {f:FuncId} {tmps:Array Value} {assign body:Code} {R:Ending→World→Prop} (h:RoundIn Fence.wide m P l f tmps assign body w R):RoundIn Fence.wide m' P l f tmps assign body w R :=
 ⟨h.1,fun c cs _=>h.2 c cs (fun d hd=>by cases hd)⟩
theorem zYp {α:Type} {c:Code} (I:α→World→Prop) (μ:α→World→Nat) (G:α→Act→Prop) (x:α) (h0:I x w) (hG:G x a)
  (h:∀ x a w,I x w→G x a→c.wpIn F m P (Exit.then (fun a' w'=>∃ x',G x' a'∧I x' w'∧μ x' w' < μ x w) Q) a w):(Code.loop c).wpIn F m P Q a w:=by
 classical
 let R:Act→World→Nat→Prop:=fun a w k=>∃ x,I x w∧G x a∧μ x w = k
 have key:∀ k a w,R a w k→(Code.loop c).wpIn F m P Q a w:=by
  intro k0 a0 w0 hR0
  intro b kk cs hro hb hr
  have key2:∀ j a w,R a w j→∃ e a' w',Q e a' w'∧ArrivesIn (Machine.fenced P F) P (lone (b.atR a (.code c::.inLoop c::kk)) cs w) b kk cs e a' w':=by
   intro j
   induction j using Nat.strongRecOn with
   | _ j ih=>
    rintro a w ⟨x,hI,hGx,hμ⟩
    obtain ⟨e,a₁,w₁,hq,harr⟩:=h x a w hI hGx b (.inLoop c::kk) cs hro hb hr
    cases e with
    | normal=>
     obtain ⟨x',hG',hI',hlt⟩:=hq
     obtain ⟨e₂,a₂,w₂,hq₂,harr₂⟩:=ih (μ x' w₁) (hμ ▸ hlt) a₁ w₁ ⟨x',hI',hG',rfl⟩
     exact ⟨e₂,a₂,w₂,hq₂,.of_steps (StepsIn.trans harr (.one (fenced_calm hb hr rfl) stepR_inLoop)) harr₂⟩
    | exit id=>exact ⟨_,a₁,w₁,hq,.pass (x:=.inLoop c) rfl (fun _ _=>.inl (by simp)) harr⟩
    | goto l=>exact ⟨_,a₁,w₁,hq,.pass (x:=.inLoop c) rfl (fun _ _=>.inl (by simp)) harr⟩
    | ret=>exact ⟨_,a₁,w₁,hq,.pass (x:=.inLoop c) rfl (fun _ _=>.inl (by simp)) harr⟩
    | panic ch=>exact ⟨_,a₁,w₁,hq,.pass (x:=.inLoop c) rfl (fun _ _=>.inl (by simp)) harr⟩
    | outgrown=>exact ⟨_,a₁,w₁,hq,.pass (x:=.inLoop c) rfl (fun _ _=>.inl (by simp)) harr⟩
  obtain ⟨e,a',w',hq,harr⟩:=key2 k0 a0 w0 hR0
  exact ⟨e,a',w',hq,.of_steps (.one (fenced_calm hb hr rfl) stepR_loop) harr⟩
 exact key _ a w ⟨x,h0,hG,rfl⟩
abbrev yv (l:Nat):Value:=.func (.yield l) #[] #[]
def jk (P:Program) (f:Value) (args:List Value) (k:Value→K):K:=fun w=>∃ l,f = .func (.yield l) #[] #[]∧YieldAt Fence.wide 0 P l args.toArray w (Ret k)
theorem zYq {l:Nat} {x:Operand} {xs:Array Operand} {ts:Array TypeId} {vs:List Value} (ho:o.op = .call { callee:=.value x,args:=xs,argTypes:=ts }) (hx:ev σ x = some (.func (.yield l) #[] #[])) (hv:evs σ xs.toList = some vs) :
  ∀ (y:Next),(Instr.yield l vs.toArray).run P w = .ok y w→Eff P σ o w y w:=fun y hy a _ hs=>by
 have h1:xs.map a.eval = vs.toArray:=by apply Array.ext'; simpa using zFf hs hv
 simp [execOp,ho,resolve,hs.ev hx,h1,Deferred.ofValue,invoke,hy]
def zFh (D:Nat):List Deferred:=[{ target:=.collected D,args:=#[] }]
def zO7 (l:Nat) (r:Loop) (k:K):K:=fun w=>w.heap[l]? = some (.loop r)∧k (w.putObj l (.loop { r with state:=.ready,pending:=none }))
def jm (D:Nat) (k:K):K:=fun w=>w.heap[D]? = some (.deferred (some []))∧k (w.putObj D (.deferred none))
def jg {α:Type} (P:Program) (fv:Value) (cX:α→Value) (body:K→α→K) (after:Nat→K):K:=fun w=>
 ∃ g cs,fv = .func (.func g) #[] cs∧callable P g = true ∧
  ∀ (r:Loop) (w1:World),r.state = .ready→r.pending = none→r.defers = w.heap.size→w1 = (w.alloc (.deferred (some []))).alloc (.loop r) →
   (∀ (x:α) (k:K) (W:World),W.heap[w.heap.size + 1]? = some (.loop r) →
    body (zO7 (w.heap.size + 1) { r with state:=.busy } k) x (W.putObj (w.heap.size + 1) (.loop { r with state:=.busy })) →
    YieldAt Fence.wide 0 P (w.heap.size + 1) #[cX x] W (Ret fun v w'=>v = .bool true∧k w')) →
   Calls P g (yv (w.heap.size + 1)::cs.toList).toArray w1 (Ret fun _ w3=>w3.heap[w.heap.size + 1]? = some (.loop r)∧after w.heap.size (w3.putObj (w.heap.size + 1) (.loop { r with state:=.exhausted })))
theorem jo.init (args:List Value) (n:Nat) (hn:args.length ≤ n):jo [] { tmps:=args.toArray++Array.replicate (n - args.toArray.size) undef,defers:=[] } n (args.zipIdx.map fun p=>(p.2,p.1)):=(Slots.init args n hn).D
def zBb (P:Program) (fn:Func) (R:Ending→World→Prop):Exit→Act→World→Prop
 | .normal,a,w | .ret,a,w=>LeavesInM Fence.wide 0 P fn a.tmps R a.defers .returning w
 | _,_,_=>False
theorem zQr {fn:Func} {R:Ending→World→Prop}:zEj (zBb P fn R):=fun _ _ _ h=>h
theorem zWM {f:FuncId} {fn:Func} {c:Code} {args:List Value} {R:Value→World→Prop} (hf:P.funcs[f]? = some fn) (hb:fn.body = some c) (hn:args.length ≤ fn.ntmps)
  (h:∀ a,jo [] a fn.ntmps (args.zipIdx.map fun p=>(p.2,p.1))→c.wpIn Fence.wide 0 P (zBb P fn (Ret R)) a w):Calls P f args.toArray w (Ret R):=by
 refine callsIn_wide.1 (callsIn_of_wp_marks (n:=0) hf hb trivial ?_)
 refine wpIn_mono (h _ (jo.init args _ hn)) fun e a w hq=>?_
 cases e with
 | normal=>exact hq
 | ret=>exact hq
 | _=>exact hq.elim
end
section
variable {P:Program} {B w:World} {Γ:List zC}
theorem j3 {l:Nat} {o o':Obj} (h:Holds B (blk l o::Γ) w):Holds B (blk l o'::Γ) (w.putObj l o'):=h.setBlock rfl
theorem za0 {l:Nat} {r:Loop} {k:K} (h:Holds B (blk l (.loop r)::Γ) w) (hk:∀ w,Holds B (blk l (.loop { r with state:=.ready,pending:=none })::Γ) w→k w):zO7 l r k w:=⟨h.block,hk _ (j3 h)⟩
theorem zTh {D:Nat} {k:K} (h:Holds B (blk D (.deferred (some []))::Γ) w) (hk:∀ w,Holds B Γ w→k w):jm D k w:=⟨h.block,hk _ (j3 (o':=.deferred none) h).tail⟩
theorem zWN {α:Type} {fv:Value} {cX:α→Value} {body:K→α→K} {after:Nat→K} {g:FuncId} {cs:Array Value} (h:Holds B Γ w) (hf:fv = .func (.func g) #[] cs) (hc:callable P g = true)
  (hk:∀ (D l:Nat) (r:Loop) (w:World),r.state = .ready→r.pending = none→Holds B (blk l (.loop r)::blk D (.deferred (some []))::Γ) w →
   (∀ (x:α) (k:K) (W:World) (Δ:List zC),Holds B (blk l (.loop r)::Δ) W→(∀ W,Holds B (blk l (.loop { r with state:=.busy })::Δ) W→body (zO7 l { r with state:=.busy } k) x W) →
    jk P (.func (.yield l) #[] #[]) [cX x] (fun v w=>v = .bool true∧k w) W) →
   Calls P g (yv l::cs.toList).toArray w (Ret fun _ w3=>∃ Δ,Holds B (blk l (.loop r)::Δ) w3∧∀ w,Holds B Δ w→after D w)):jg P fv cX body after w:=by
 refine ⟨g,cs,hf,hc,fun r w1 h1 h2 h3 hw hy=>?_⟩
 have h4:=h.alloc (.deferred (some []))
 have h5:=h4.alloc (.loop r)
 have e:({ w with heap:=w.heap.push (.deferred (some [])) }:World).heap.size = w.heap.size + 1:=by simp
 rw [e] at h5
 subst hw
 refine (hk w.heap.size (w.heap.size + 1) r _ h1 h2 h5 fun x k W Δ hW hb=>?_).mono fun e w3 he=>?_
 ·exact ⟨_,rfl,hy x k W hW.block (hb _ (j3 hW))⟩
 ·cases e with
  | returned v=>
   obtain ⟨Δ,h6,h7⟩:=he
   exact ⟨h6.block,h7 _ (j3 h6).tail⟩
  | panicked c=>exact he.elim
  | outgrown=>exact he.elim
end
theorem zMF {P:Program} {f:FuncId} {args:Array Value} {w:World} {k k':Value→World→Prop} (h:Calls P f args w (Ret k)) (hk:∀ v w,k v w→k' v w):Calls P f args w (Ret k') :=
 h.mono fun e w he=>by
  cases e with
  | returned v=>exact hk _ _ he
  | panicked c=>exact he.elim
  | outgrown=>exact he.elim
theorem zMG {P:Program} {f:Value} {args:List Value} {w:World} {k k':Value→K} (h:jk P f args k w) (hk:∀ v w,k v w→k' v w):jk P f args k' w:=by
 obtain ⟨l,hl,fn,tm,sg,bd,hy,hr⟩:=h
 refine ⟨l,hl,fn,tm,sg,bd,hy,hr.mono fun e w he=>?_⟩
 cases e with
 | returned v=>exact hk _ _ he
 | panicked c=>exact he.elim
 | outgrown=>exact he.elim
end
section
open Go
section
variable {P:Program} {ops:Array Oper} {Q:Exit→Act→World→Prop} {S:World→Prop} {o:Oper} {a:Act} {w w':World} {v:Value} {fuel:Nat} {listed:Array Bool}
abbrev opW (P:Program) (ops:Array Oper) (Q:Exit→Act→World→Prop):=wpOpIn Fence.wide 0 P ops Q
theorem zaO {i:Nat} (hi:ops[i]? = some o) (hy:YieldsIf P ops S o v a) {K:Act→World→Prop} (hS:S w) (h:K (a.put o.dst v) w):opW P ops Q i K a w:=by
 unfold opW Go.wpOpIn
 simp only [hi]
 rcases hy with ⟨hw,hv⟩ | ⟨hw,rfl⟩
 ·simp only [hw,if_true,Oper.wpIn]
  refine ⟨fun _ _=>trivial,?_⟩
  show o.uponIn Fence.wide 0 P a K Q ((o.semAt none a.eval).run P w)
  rw [Oper.semAt_none,hv w hS]; exact h
 ·simp only [hw,Bool.false_eq_true,if_false]; exact ⟨fun _ _=>trivial,h⟩
theorem zYr {j:Nat} {oi oj:Oper} (hj:ops[j]? = some oj) (hap:oi.apart ops oj = true) (hsi:∀ cs b,oi.op ≠ .select cs b) (hsj:∀ cs b,oj.op ≠ .select cs b)
  (hQ:∀ c a w,Q (.panic c) (a.put oi.dst v) w→Q (.panic c) a w) {K:Act→World→Prop} (hy:YieldsIf P ops S oi v a) (h:opW P ops Q j K (a.put oi.dst v) w) :
  opW P ops Q j (fun a' w'=>YieldsIf P ops S oi v a'∧K (a'.put oi.dst v) w') a w:=by
 obtain ⟨h1,h2,h3⟩:=Oper.apart_spec hap
 have keep:∀ (a:Act),YieldsIf P ops S oi v a→∀ u,YieldsIf P ops S oi v (a.put oj.dst u):=fun a hy u=>
  hy.of_same (execOp_put oi hsi a oj.dst u h3) (wanted_put oi a oj.dst u h3)
 have keepD:∀ d,YieldsIf P ops S oi v { a with defers:=d::a.defers }:=fun d=>hy.of_same rfl rfl
 unfold opW wpOpIn at *
 simp only [hj] at *
 rw [wanted_put oj a oi.dst v h1] at h
 split
 ·rename_i hw
  simp only [hw,if_true] at h
  unfold Oper.wpIn at *
  refine ⟨fun _ _=>trivial,?_⟩
  have h:=h.2
  have hro:Fence.wide.round = none:=rfl
  rw [hro,Oper.semAt_none,execOp_put oj hsj a oi.dst v h1] at h
  rw [hro,Oper.semAt_none]
  generalize (execOp a.eval oj).run P w = r at *
  cases r with
  | ok x w'=>
   cases x <;> simp only [Oper.uponIn] at h ⊢
   case value u=>exact ⟨keep a hy u,by rw [← Act.put_comm a v u h2]; exact h⟩
   case skip=>exact ⟨keep a hy _,by rw [← Act.put_comm a v undef h2]; exact h⟩
   case defer d=>
    refine ⟨keep _ (keepD d) _,?_⟩
    rw [← Act.put_comm _ v undef h2,← Act.put_defers]
    exact h
   case enter f args=>
    refine ⟨h.1,CallsIn.mono h.2 fun e w'' he=>?_⟩
    cases e with
    | returned u=>exact ⟨keep a hy u,by rw [← Act.put_comm a v u h2]; exact he⟩
    | panicked c=>exact hQ _ _ _ he
    | outgrown=>exact he
   case row row args=>exact ⟨h.1,RowsIn.mono h.2 fun u w'' he=>⟨keep a hy u,by rw [← Act.put_comm a v u h2]; exact he⟩⟩
   case round l f tmps assign body=>
    refine ⟨h.1,RoundIn.mono h.2 fun e w'' he=>?_⟩
    cases e with
    | returned u=>exact ⟨keep a hy u,by rw [← Act.put_comm a v u h2]; exact he⟩
    | panicked c=>exact hQ _ _ _ he
    | outgrown=>exact he
  | halt x w'=>
   cases x <;> simp only [Oper.uponIn] at h ⊢
   case panic u=>exact hQ _ _ _ h
 ·rename_i hw
  simp only [hw] at h
  exact ⟨fun _ _=>trivial,keep a hy _,by rw [← Act.put_comm a v undef h2]; exact h.2⟩
def alive (ds:List Nat) (l:Array Bool):Bool:=ds.all fun d=>!l.getD d false
def zDz (P:Program) (ops:Array Oper) (Q:Exit→Act→World→Prop) (S:World→Prop) (ds:List Nat):Nat→Array Bool→Act→World→Prop
 | 0,listed,a,w=>Region.ready .any ops listed = []∧Q .normal a w
 | fuel + 1,listed,a,w=>
  (Region.ready .any ops listed = []→Q .normal a w) ∧
  ∀ i ∈ Region.ready .any ops listed,opW P ops Q i (fun a' w'=>(alive ds listed = true→i ∉ ds→S w→S w')∧zDz P ops Q S ds fuel (listed.setIfInBounds i true) a' w') a w
variable {ds:List Nat}
theorem zEp:∀ (fuel:Nat) (listed:Array Bool) (a:Act) (w:World),zDz P ops Q S ds fuel listed a w→wpAnyIn Fence.wide 0 P .any ops Q fuel listed a w
 | 0,_,_,_,h=>h
 | fuel + 1,_,_,_,h=>⟨h.1,fun i hi=>wpOpIn_mono (fun a' w' h'=>zEp fuel _ a' w' h'.2) (h.2 i hi)⟩
theorem zJ6 {ds':List Nat} (hsub:∀ d ∈ ds',d ∈ ds):∀ (fuel:Nat) (listed:Array Bool) (a:Act) (w:World),zDz P ops Q S ds' fuel listed a w→zDz P ops Q S ds fuel listed a w
 | 0,_,_,_,h=>h
 | fuel + 1,_,_,_,h=>⟨h.1,fun i hi=>wpOpIn_mono (fun a' w' h'=>⟨fun hal hid=>h'.1 (List.all_eq_true.2 fun d hd=>List.all_eq_true.1 hal d (hsub d hd)) (fun hm=>hid (hsub i hm)),zJ6 hsub fuel _ a' w' h'.2⟩) (h.2 i hi)⟩
theorem zN5 {l:Array Bool} {i:Nat} (hi:i ∉ ds) (h:alive ds l = true):alive ds (l.setIfInBounds i true) = true:=by
 refine List.all_eq_true.2 fun d hd=>?_
 have:=List.all_eq_true.1 h d hd
 have hne:i ≠ d:=fun e=>hi (e ▸ hd)
 rw [getD_set_ne false hne]; exact this
theorem zO8 {T:World→Prop} {i:Nat} {oi:Oper} (hi:ops[i]? = some oi) (hid:i ∉ ds) (hsel:∀ (j:Nat) (o:Oper) cs b,ops[j]? = some o→o.op ≠ .select cs b) (hQ:zEj Q) :
  ∀ (fuel:Nat) (listed:Array Bool) (a:Act) (w:World),
   (∀ j oj,ops[j]? = some oj→j ≠ i→listed.getD j true = false→(∀ e ∈ oj.after,Region.binds .any e = true→e.on ≠ i)→oi.apart ops oj = true) →
   ((∀ w,T w)∨(T = S∧Closed ops listed∧∀ d ∈ ds,∃ n,reach ops i n d = true)) →
   i ∈ Region.ready .any ops listed→YieldsIf P ops T oi v a→T w →
   zDz P ops Q S ds fuel (listed.setIfInBounds i true) (a.put oi.dst v) w→zDz P ops Q S ds (fuel + 1) listed a w:=by
 have hQ':∀ c a w,Q (.panic c) (a.put oi.dst v) w→Q (.panic c) a w:=fun c a w h=>absurd h (hQ c _ w)
 intro fuel
 induction fuel with
 | zero=>
  intro listed a w _ _ hr hy hT H
  refine ⟨fun h=>(by rw [h] at hr; cases hr),fun j hj=>?_⟩
  by_cases hji:j = i
  ·subst hji; exact zaO hi hy hT ⟨fun _ _ h=>h,H⟩
  ·have:=ready_mono hj hji
   rw [H.1] at this
   cases this
 | succ fuel ih=>
  intro listed a w hfree hlast hr hy hT H
  refine ⟨fun h=>(by rw [h] at hr; cases hr),fun j hj=>?_⟩
  by_cases hji:j = i
  ·subst hji; exact zaO hi hy hT ⟨fun _ _ h=>h,H⟩
  ·have h1:=H.2 j (ready_mono hj hji)
   obtain ⟨hjun,oj,hoj,hall⟩:=mem_ready.1 hj
   have hi0:listed.getD i true = false:=(mem_ready.1 hr).1
   have hi1:listed.getD i false = false:=by
    rcases Nat.lt_or_ge i listed.size with h' | h'
    ·simp [h'] at hi0 ⊢; exact hi0
    ·simp [Array.getElem?_eq_none h'] at hi0
   have hnot:∀ e ∈ oj.after,Region.binds .any e = true→e.on ≠ i:=fun e he hb heq=>by
    have h1:=hall e he hb
    rw [heq,hi1] at h1
    cases h1
   have hTw:∀ w',(alive ds listed = true→j ∉ ds→S w→S w')→T w':=fun w' h=>by
    rcases hlast with hl | ⟨rfl,hcl,hl⟩
    ·exact hl w'
    ·refine h (List.all_eq_true.2 fun d hd=>?_) (fun hd=>?_) hT
     ·cases hld:listed.getD d false with
      | false=>rfl
      | true=>
       obtain ⟨n,hn⟩:=hl d hd
       cases hod:ops[d]? with
       | none=>cases n <;> simp [reach,hod] at hn
       | some od=>
        have:=zF9 hcl n d od hod (hcl d od hod hld) hn
        rw [hi1] at this; cases this
     ·obtain ⟨n,hn⟩:=hl j hd
      have:=zF9 hcl n j oj hoj hall hn
      rw [hi1] at this; cases this
   have h2:=zYr hoj (hfree j oj hoj hji hjun hnot) (fun cs b=>hsel i oi cs b hi) (fun cs b=>hsel j oj cs b hoj) hQ' hy h1
   have hun':∀ k,(listed.setIfInBounds j true).getD k true = false→listed.getD k true = false:=fun k hun=>by
    by_cases hjk:j = k
    ·subst hjk; exact hjun
    ·rw [getD_set_ne true hjk] at hun; exact hun
   refine wpOpIn_mono (fun a' w' h3=>⟨fun hal=>h3.2.1 (zN5 hid hal),ih (listed.setIfInBounds j true) a' w' (fun k ok hk hki hun hno=>hfree k ok hk hki (hun' k hun) hno) ?_ (ready_mono hr (Ne.symm hji)) h3.1 (hTw w' fun hal=>h3.2.1 (zN5 hid hal)) ?_⟩) h2
   ·rcases hlast with hl | ⟨hTS,hcl,hl⟩
    ·exact .inl hl
    ·exact .inr ⟨hTS,hcl.put hj,hl⟩
   ·rw [Array.setIfInBounds_comm _ _ hji]
    exact h3.2.2
end
end
section
open Go
class CT (P:Program) (T:Nat):Prop where h:zN1 P T = true
class AT (P:Program) (T:Nat) (n:outParam Nat):Prop where h:zVA P T n = true
class SZ (P:Program) (T:Nat) (n:outParam Nat):Prop where h:sizeT P T n = true
class SLT (P:Program) (T:Nat) (E esz:outParam Nat):Prop where h:sliceT P T E esz = true
class ART (P:Program) (T:Nat) (E len esz:outParam Nat):Prop where h:zL9 P T E len esz = true
class STT (P:Program) (T:Nat):Prop where h:zFP P T = true
class INT (P:Program) (T:Nat) (k:outParam IntKind):Prop where h:zWA P T k = true
class ZT (P:Program) (T:Nat) (z:outParam Value):Prop where h:zBl P T z
class PLT (P:Program) (T:Nat) (l:outParam (List (Nat×Nat))):Prop where h:zTc P T l
class FT (P:Program) (S i:Nat) (off n:outParam Nat):Prop where h:zO1 P S i off n = true
class FC (P:Program) (S i:Nat) (off:outParam Nat):Prop where h:zSR P S i off = true
class FNC (P:Program) (S i:Nat) (off n:outParam Nat):Prop where h:zSS P S i off n = true
class UN (P:Program) (T:Nat) (d:outParam TypeDesc):Prop where h:P.underlying T = some d
class CB (P:Program) (f:Nat):Prop where h:callable P f = true
class EXT (P:Program) (f:Nat) (e:outParam (Array Value→Sem Value)):Prop where h:∀ args w v w',(e args).run P w = .ok v w'→(callFunc f args).run P w = .ok (.value v) w'
class MX (P:Program):Prop where h:P.follows .mixedOrders = true
def zDq {α β γ δ:Type} (c:α→β→γ→δ→Value) (k:α→β→γ→δ→K):Value→K:=fun v w=>∃ x y z u,v = c x y z u∧k x y z u w
def zD0 {α β γ δ ε:Type} (c:α→β→γ→δ→ε→Value) (k:α→β→γ→δ→ε→K):Value→K:=fun v w=>∃ x y z u t,v = c x y z u t∧k x y z u t w
section
variable {P:Program} {σ τ:List (Nat×Value)} {o:Oper} {x y z:Operand} {v:Value} {T U:TypeId}
theorem zKr {S i off n:Nat} {a:Addr} [c:FT P S i off n] (ho:o.op = .fieldAddr S x i) (hx:ev σ x = some (.pointer (some a))):Pure P σ o (.pointer (some (a.add off))):=zKq ho hx c.h
theorem zI7 {S i n:Nat} {a:Addr} [c:FT P S i 0 n] (ho:o.op = .fieldAddr S x i) (hx:ev σ x = some (.pointer (some a))):Pure P σ o (.pointer (some a)):=zO2 ho hx c.h
theorem zQs {S i off n:Nat} {cs:Array Value} [c:FNC P S i off n] (ho:o.op = .field S x i) (hx:ev σ x = some (.agg cs)):Pure P σ o (.agg (cs.extract off (off + n))):=zWD ho hx c.h
theorem q_len {s:Sl} {E esz:Nat} [c:SLT P T E esz] (ho:o.op = .call { callee:=.builtin .len,args:=#[x],argTypes:=#[T] }) (hx:ev σ x = some s.val):Pure P σ o (.int .i64 s.n):=zb0 ho hx c.h
theorem zWO {s:ByteArray} [c:STT P T] (ho:o.op = .call { callee:=.builtin .len,args:=#[x],argTypes:=#[T] }) (hx:ev σ x = some (.string s)):Pure P σ o (.int .i64 s.size):=zar ho hx c.h
theorem zMH {s:ByteArray} [c:STT P T] [d:STT P U] (ho:o.op = .convert T U x) (hx:ev σ x = some (.string s)):Pure P σ o (.string s):=zSU ho hx c.h d.h
theorem zMI {k j:IntKind} {a:Int} [c:INT P T k] [d:INT P U j] (ho:o.op = .convert T U x) (hx:ev σ x = some (.int k a)):Pure P σ o (.int j (j.wrap a)):=zST ho hx c.h d.h
theorem zaP {a b:Bool} [c:UN P T .bool] (ho:o.op = .binOp .eql T x y U) (hx:ev σ x = some (.bool a)) (hy:ev σ y = some (.bool b)):Pure P σ o (.bool (a == b)):=zby ho hx hy c.h
theorem zaQ {a b:Bool} [c:UN P T .bool] (ho:o.op = .binOp .neq T x y U) (hx:ev σ x = some (.bool a)) (hy:ev σ y = some (.bool b)):Pure P σ o (.bool (!(a == b))):=zbz ho hx hy c.h
theorem zQt {p:Option Addr} {E:Nat} [c:UN P T (.pointer E)] (ho:o.op = .binOp .eql T x y U) (hx:ev σ x = some (.pointer p)) (hy:ev σ y = some (.pointer none)):Pure P σ o (.bool p.isNone):=zWE ho hx hy c.h
theorem zQu {p:Option Addr} {E:Nat} [c:UN P T (.pointer E)] (ho:o.op = .binOp .neq T x y U) (hx:ev σ x = some (.pointer p)) (hy:ev σ y = some (.pointer none)):Pure P σ o (.bool (!p.isNone)):=zWF ho hx hy c.h
theorem zTi {s:Sl} {E n c:Nat} [cl:UN P T (.slice E)] (ho:o.op = .binOp .eql T x y U) (hx:ev σ x = some s.val) (hy:ev σ y = some (.slice none n c)):Pure P σ o (.bool s.a.isNone):=zYf ho hx hy cl.h
theorem zTj {s:Sl} {E n c:Nat} [cl:UN P T (.slice E)] (ho:o.op = .binOp .neq T x y U) (hx:ev σ x = some s.val) (hy:ev σ y = some (.slice none n c)):Pure P σ o (.bool (!s.a.isNone)):=zYg ho hx hy cl.h
theorem zaR {a b:ByteArray} (ho:o.op = .binOp .geq T x y U) (hx:ev σ x = some (.string a)) (hy:ev σ y = some (.string b)):Pure P σ o (.bool !(Op.bytesLess a.toList b.toList)):=fun _ _ hs w=>by
 simp [execOp,ho,hs.ev hx,hs.ev hy,eqGuard,binOp,Op.stringOp]
theorem zaS {a b:ByteArray} (ho:o.op = .binOp .leq T x y U) (hx:ev σ x = some (.string a)) (hy:ev σ y = some (.string b)):Pure P σ o (.bool (Op.bytesLess a.toList b.toList || a.toList == b.toList)):=fun _ _ hs w=>by
 simp [execOp,ho,hs.ev hx,hs.ev hy,eqGuard,binOp,Op.stringOp]
def zO9:List Value→List (Nat×Nat)→List (Nat×Value)→List Value
 | zs,_,[]=>zs
 | zs,ps,p::vs=>zO9 (zs.set ((ps.getD p.1 (0,0)).1) p.2) ps vs
def zJ7:List (Nat×Value)→Bool
 | []=>true
 | p::vs=>yu p.2 && zJ7 vs
theorem zTk {z:Value} {zl:List Value} {pl:List (Nat×Nat)} {ps:Array (Nat×Operand)} {vs:List (Nat×Value)} [c:ZT P T z] [d:PLT P T pl] (ho:o.op = .build T ps) (hv:partsOf σ ps.toList = some vs) (hf:zJ7 vs = true) (hz:z.cells = zl.toArray)
  (hc:Instr.fill (pl[·]?) z.cells vs = some (zO9 zl pl vs).toArray):Pure P σ o (.agg (zO9 zl pl vs).toArray):=zTd ho c.h d.h hv hc
def nth:List Value→Nat→Option Value
 | [],_=>none
 | v::_,0=>some v
 | _::l,i + 1=>nth l i
theorem zCc:∀ (l:List Value) (i:Nat),nth l i = l[i]?
 | [],_=>rfl
 | _::_,0=>rfl
 | _::l,i + 1=>by simpa [nth] using zCc l i
theorem zN6 {l:List Value} {i:Nat} (ho:o.op = .extract x i) (hx:ev σ x = some (.tuple l.toArray)) (hv:nth l i = some v):Pure P σ o v:=zN4 ho hx (by rw [zCc] at hv; simpa using hv)
theorem zPA (h:Pure P σ o v:=by
  first
  | exact zWB rfl rfl | exact zQj rfl rfl | exact zZ4 rfl rfl | exact zI7 rfl rfl | exact zKr rfl rfl | exact q_len rfl rfl | exact zbr rfl rfl rfl | exact zbs rfl rfl rfl | exact zbt rfl rfl rfl | exact zbu rfl rfl rfl
  | exact zbv rfl rfl rfl | exact zbw rfl rfl rfl | exact zaI rfl rfl | exact zQk rfl rfl rfl | exact zQl rfl rfl rfl | exact zQm rfl rfl rfl rfl | exact zN6 rfl rfl rfl | exact zWO rfl rfl | exact zaJ rfl rfl rfl | exact zaK rfl rfl rfl
  | exact zaL rfl rfl rfl | exact zaM rfl rfl rfl | exact zaR rfl rfl rfl | exact zaS rfl rfl rfl | exact zQt rfl rfl rfl | exact zQu rfl rfl rfl | exact zTi rfl rfl rfl | exact zTj rfl rfl rfl | exact zaP rfl rfl rfl | exact zaQ rfl rfl rfl
  | exact zQs rfl rfl | exact zTk rfl rfl rfl rfl (by kernel_rfl) | exact zMA rfl rfl rfl | exact zWC rfl rfl | exact zMH rfl rfl):Pure P σ o v:=h
def WP (P:Program) (σ:List (Nat×Value)) (o:Oper) {α:Type} (k:K) (v:α→Value) (k':α→K):Prop:=∀ w,k w→∃ x,Pure P σ o (v x)∧k' x w
def WR (P:Program) (σ:List (Nat×Value)) (o:Oper) {α:Type} (k:K) (v:α→Value) (k':α→K):Prop:=∀ w,k w→∃ x,Eff P σ o w (.value (v x)) w∧k' x w
def WE (P:Program) (σ:List (Nat×Value)) (o:Oper) {α:Type} (k:K) (v:α→Value) (k':α→K):Prop:=∀ w,k w→∃ x w',Eff P σ o w (.value (v x)) w'∧k' x w'
def WK (P:Program) (σ:List (Nat×Value)) (o:Oper) (k k':K):Prop:=∀ w,k w→∃ w',Eff P σ o w .skip w'∧k' w'
def WC (P:Program) (σ:List (Nat×Value)) (o:Oper) (k:K) (kk:Value→K):Prop:=∀ w,k w→∃ f args w',Eff P σ o w (.enter f args) w'∧Calls P f args w' (Ret kk)
def WY (P:Program) (σ:List (Nat×Value)) (o:Oper) (k:K) (kk:Value→K):Prop:=∀ w,k w→∃ l args,(∀ y,(Instr.yield l args).run P w = .ok y w→Eff P σ o w y w)∧YieldAt Fence.wide 0 P l args w (Ret kk)
def WS (P:Program) (S:World→Prop) (σ:List (Nat×Value)) (o:Oper) {α:Type} (k:K) (v:α→Value) (k':α→K):Prop:=∀ w,k w→∃ x,(∀ w,S w→Eff P σ o w (.value (v x)) w)∧k' x w
section
variable {α β:Type} {e:Int} {p:Prop} {kk:IntKind} {ki:Int→K} {ka:Addr→K} {s:Sl} {i lo hi mx:Int} {esz:Nat} {c:α→Value} {kx:α→K} {k:K}
theorem zQv (hp:Pure P σ o (.int kk e)):WP P σ o (Ar e ki) (fun t=>.int kk t) ki:=fun w ⟨t,he,h⟩=>⟨t,he ▸ hp,h⟩
theorem zTl (hp:p→Pure P σ o (.int kk e)):WP P σ o (Cd p (Ar e ki)) (fun t=>.int kk t) ki:=fun w ⟨h0,t,he,h⟩=>⟨t,he ▸ hp h0,h⟩
theorem zWP {E:Nat} {kj:IntKind} [cl:SLT P T E esz] (ho:o.op = .indexAddr T x y) (hx:ev σ x = some s.val) (hy:ev σ y = some (.int kj i)):WP P σ o (Idx s i esz ka) (fun t=>.pointer (some t)) ka :=
 fun w ⟨a,t,ha,h0,h1,he,h⟩=>⟨t,Pure.adr he (zb1 ho hx hy cl.h ha h0 h1),h⟩
theorem zTm {E len:Nat} {kj:IntKind} {a:Addr} [cl:ART P T E len esz] (ho:o.op = .indexAddr T x y) (hx:ev σ x = some (.pointer (some a))) (hy:ev σ y = some (.int kj i)):WP P σ o (zB0 a len i esz ka) (fun t=>.pointer (some t)) ka :=
 fun w ⟨t,h0,h1,he,h⟩=>⟨t,Pure.adr he (zas ho hx hy cl.h h0 h1),h⟩
theorem zTn {kj:IntKind} {s:ByteArray} [cl:STT P T] (ho:o.op = .index T x y) (hx:ev σ x = some (.string s)) (hy:ev σ y = some (.int kj i)):WP P σ o (zDp s i ki) (fun t=>.int .u8 t) ki :=
 fun w ⟨t,b,h0,h1,he,h⟩=>⟨t,Pure.int he (zat ho hx hy cl.h h0 h1),h⟩
theorem zWQ {S j off:Nat} {cs:Array Value} [cl:FC P S j off] (ho:o.op = .field S x j) (hx:ev σ x = some (.agg cs)):WP P σ o (Fld cs off c kx) c kx :=
 fun w ⟨t,hv,h⟩=>⟨t,zYe ho hx cl.h hv,h⟩
theorem zWR {E:Nat} {lo' hi' mx':Option Operand} {ks:Sl→K} [cl:SLT P T E esz] (ho:o.op = .slice T x lo' hi' mx') (hx:ev σ x = some s.val) (hl:zGe σ lo' 0 lo) (hh:zGe σ hi' s.n hi) (hm:zGe σ mx' s.c mx) (hmx:(!mx'.isSome || hi'.isSome) = true) :
  WP P σ o (Slc s lo hi mx esz ks) (fun t=>t.val) ks :=
 fun w ⟨t,h0,h1,h2,h3,he,h⟩=>⟨t,Pure.sl he (zb2 ho hx cl.h hl hh hm (fun hs=>by rw [hs] at hmx; simpa using hmx) h0 h1 h2 h3),h⟩
theorem zTo {lo' hi':Option Operand} {s:ByteArray} {ks:ByteArray→K} [cl:STT P T] (ho:o.op = .slice T x lo' hi' none) (hx:ev σ x = some (.string s)) (hl:zGe σ lo' 0 lo) (hh:zGe σ hi' s.size hi) :
  WP P σ o (zEM s lo hi ks) (fun t=>.string t) ks :=
 fun w ⟨t,h0,h1,h2,he,h⟩=>⟨t,Pure.str he (zau ho hx cl.h hl hh h0 h1 h2),h⟩
theorem zWS {a b:ByteArray} {ks:ByteArray→K} (ho:o.op = .binOp .add T x y U) (hx:ev σ x = some (.string a)) (hy:ev σ y = some (.string b)):WP P σ o (Cat a b ks) (fun t=>.string t) ks :=
 fun w ⟨t,h0,he,h⟩=>⟨t,Pure.str he (zaq ho hx hy h0),h⟩
theorem zWT {sem:Sem Value} (hs:∀ v w w',sem.run P w = .ok v w'→Eff P σ o w (.value v) w'):WP P σ o (Pu P sem c kx) c kx :=
 fun w ⟨t,hd,h⟩=>⟨t,zb4 fun w=>hs _ _ _ (hd w),h⟩
theorem zWU {t:Value} {j:Nat} (ho:o.op = .extract x j) (hx:ev σ x = some t):WP P σ o (Ext t j c kx) c kx :=
 fun w ⟨vs,u,ht,hv,h⟩=>⟨u,zN4 ho (hx.trans (congrArg some ht)) hv,h⟩
theorem zWV {zv:Value} {zero:Array Value} {pl:List (Nat×Nat)} {ps:Array (Nat×Operand)} {vs:List (Nat×Value)} {kc:Array Value→K} [cz:ZT P T zv] [cp:PLT P T pl] (ho:o.op = .build T ps) (hv:partsOf σ ps.toList = some vs) (hz:zv.cells = zero) :
  WP P σ o (Bld zero (pl[·]?) vs kc) (fun t=>.agg t) kc:=fun w ⟨t,hb,h⟩=>⟨t,zTd ho cz.h cp.h hv (by rw [hz]; exact hb),h⟩
theorem zaT {a:Addr} [cl:CT P T] (ho:o.op = .load T x) (hx:ev σ x = some (.pointer (some a))):WR P σ o (Ld a c kx) c kx:=fun w ⟨t,hv,h⟩=>⟨t,zWG ho hx cl.h hv,h⟩
theorem zWW {n:Nat} {a:Addr} {kc:Array Value→K} [cl:AT P T n] (ho:o.op = .load T x) (hx:ev σ x = some (.pointer (some a))):WR P σ o (LdN a n kc) (fun t=>.agg t) kc:=fun w ⟨t,hn,hv,h⟩=>⟨t,zTb ho hx cl.h hn hv,h⟩
theorem zA8 {sem:Sem Value} (hs:∀ v w w',sem.run P w = .ok v w'→Eff P σ o w (.value v) w'):WR P σ o (Rd P sem c kx) c kx:=fun w ⟨t,hd,h⟩=>⟨t,hs _ _ _ hd,h⟩
theorem zBI {sem:Sem Value} {c:α→β→Value} {kx:α→β→K} (hs:∀ v w w',sem.run P w = .ok v w'→Eff P σ o w (.value v) w'):WR P σ o (Rd2 P sem c kx) (fun u=>u) (fun u=>zAQ c kx u):=fun w ⟨t,u,hd,h⟩=>⟨c t u,hs _ _ _ hd,t,u,rfl,h⟩
variable {S:World→Prop}
theorem zaU {a:Addr} [cl:CT P T] (ho:o.op = .load T x) (hx:ev σ x = some (.pointer (some a))):WS P S σ o (LdS S a c kx) c kx:=fun w ⟨t,hv,h⟩=>⟨t,fun w hS=>zWG ho hx cl.h (hv w hS),h⟩
theorem zWX {n:Nat} {a:Addr} {kc:Array Value→K} [cl:AT P T n] (ho:o.op = .load T x) (hx:ev σ x = some (.pointer (some a))):WS P S σ o (vY S a n kc) (fun t=>.agg t) kc:=fun w ⟨t,hn,hv,h⟩=>⟨t,fun w hS=>zTb ho hx cl.h hn (hv w hS),h⟩
theorem zKs {sem:Sem Value} (hs:∀ v w w',sem.run P w = .ok v w'→Eff P σ o w (.value v) w'):WS P S σ o (RdS P S sem c kx) c kx:=fun w ⟨t,hd,h⟩=>⟨t,fun w hS=>hs _ _ _ (hd w hS),h⟩
theorem zMJ {sem:Sem Value} {c:α→β→Value} {kx:α→β→K} (hs:∀ v w w',sem.run P w = .ok v w'→Eff P σ o w (.value v) w'):WS P S σ o (zEL P S sem c kx) (fun u=>u) (fun u=>zAQ c kx u):=fun w ⟨t,u,hd,h⟩=>⟨c t u,fun w hS=>hs _ _ _ (hd w hS),t,u,rfl,h⟩
theorem WR.is {w1:World} {v:α→Value} {k':α→K} (h:WR P σ o k v k'):∀ w,Is w1 w→k w→∃ x,(∀ w,Is w1 w→Eff P σ o w (.value (v x)) w)∧k' x w:=fun w hw hk=>by
 have:=hw.out; subst this
 obtain ⟨x,h1,h2⟩:=h _ hk
 exact ⟨x,fun w' hw'=>by have:=hw'.out; subst this; exact h1,h2⟩
theorem zWY {cs:Array Value} {v:Value} (ho:o.op = .box T x) (hx:ev σ x = some v) (hc:v.cells = cs):WE P σ o (New T cs ka) (fun a=>.pointer (some a)) ka:=fun w ⟨a,w',ha,hw,h⟩=>⟨a,w',zb3 ho hx hc ha hw,h⟩
theorem zQw {zv:Value} {cs:Array Value} [cz:ZT P T zv] (ho:o.op = .alloc T) (hc:zv.cells = cs):WE P σ o (New T cs ka) (fun a=>.pointer (some a)) ka:=fun w ⟨a,w',ha,hw,h⟩=>⟨a,w',zYi ho cz.h hc ha hw,h⟩
def zWZ (len esz:Nat) (zv:Value):Array Value:=(Array.range (len * esz)).map (fun i=>(if len * esz = 0 then #[] else zv.cells)[i % (if len * esz = 0 then #[] else zv.cells).size]!)
theorem zQx {E esz len:Nat} {zv:Value} {ps:Array (Nat×Operand)} {vs:List (Nat×Value)} {cs:Array Value} [cs':SLT P T E esz] [cz:ZT P E zv] (ho:o.op = .buildSlice T len ps) (hl:Nat.ble (len * esz) 16777216 = true) (hv:partsOf σ ps.toList = some vs) (hf:zJ7 vs = true)
  (hc:Instr.fill (fun i=>some (i * esz,esz)) (zWZ len esz zv) vs = some cs):WE P σ o (New E cs ka) (fun a=>Sl.val ⟨some a,len,len⟩) ka :=
 fun w ⟨a,w',ha,hw,h⟩=>⟨a,w',zI5 ho cs'.h cz.h (Nat.le_of_ble_eq_true hl) hv rfl hc ha hw,h⟩
theorem zKt {E esz len:Nat} {zv:Value} {z:Array Value} {ps:Array (Nat×Operand)} {vs:List (Nat×Value)} [cs':SLT P T E esz] [cz:ZT P E zv] (ho:o.op = .buildSlice T len ps) (hl:Nat.ble (len * esz) 16777216 = true) (hv:partsOf σ ps.toList = some vs)
  (hz:zWZ len esz zv = z):WE P σ o (Bld z (fun i=>some (i * esz,esz)) vs fun c=>New E c ka) (fun a=>Sl.val ⟨some a,len,len⟩) ka :=
 fun w ⟨c,hb,a,w',ha,hw,h⟩=>⟨a,w',zI5 ho cs'.h cz.h (Nat.le_of_ble_eq_true hl) hv hz hb ha hw,h⟩
theorem zQy {sem:Sem Value} (hs:∀ v w w',sem.run P w = .ok v w'→Eff P σ o w (.value v) w'):WE P σ o (Do P sem c kx) c kx:=fun w ⟨t,w',hd,h⟩=>⟨t,w',hs _ _ _ hd,h⟩
theorem zaV {a:Addr} {v:Value} [cl:SZ P T 1] (ho:o.op = .store T x y) (hx:ev σ x = some (.pointer (some a))) (hy:ev σ y = some v):WK P σ o (St a v k) k:=fun w ⟨w',hw,hc,hf,hv,h⟩=>⟨w',zYh ho hx hy cl.h hw hc hf hv,h⟩
theorem zWa {n:Nat} {a:Addr} {cs:Array Value} [cl:SZ P T n] (ho:o.op = .store T x y) (hx:ev σ x = some (.pointer (some a))) (hy:ev σ y = some (.agg cs)):WK P σ o (StN a n cs k) k:=fun w ⟨w',hw,hn,hc,hv,h⟩=>⟨w',zWH ho hx hy cl.h hw hn hc hv,h⟩
theorem zQz {sem:Sem Unit} (hs:∀ u w w',sem.run P w = .ok u w'→Eff P σ o w .skip w'):WK P σ o (DoU P sem k) k:=fun w ⟨u,w',hd,h⟩=>⟨w',hs _ _ _ hd,h⟩
theorem zTp {f:FuncId} {xs:Array Operand} {ts:Array TypeId} {vs:List Value} {args:Array Value} {kk:Value→K} [cb:CB P f] (ho:o.op = .call { callee:=.value x,args:=xs,argTypes:=ts }) (hx:ev σ x = some (.func (.func f) #[] #[])) (hv:evs σ xs.toList = some vs) (ha:vs.toArray = args) :
  WC P σ o (zL P f args kk) kk:=fun w h=>⟨f,args,w,ha ▸ zax ho hx hv cb.h,h⟩
theorem zQ0 {f:FuncId} {first cap:Array Value} {xs:Array Operand} {ts:Array TypeId} {vs:List Value} {args:Array Value} {kk:Value→K} [cb:CB P f] (ho:o.op = .call { callee:=.value x,args:=xs,argTypes:=ts }) (hx:ev σ x = some (.func (.func f) first cap)) (hv:evs σ xs.toList = some vs)
  (ha:first++vs.toArray++cap = args):WC P σ o (zL P f args kk) kk:=fun w h=>⟨f,args,w,ha ▸ zTe ho hx hv cb.h,h⟩
theorem zaW {fv:Value} {xs:Array Operand} {ts:Array TypeId} {vs:List Value} {kk:Value→K} (ho:o.op = .call { callee:=.value x,args:=xs,argTypes:=ts }) (hx:ev σ x = some fv) (hv:evs σ xs.toList = some vs):WC P σ o (uF P fv vs kk) kk :=
 fun w ⟨g,fs,cs,hg,hcb,h⟩=>⟨g,_,w,zTe ho (hx.trans (congrArg some hg)) hv hcb,h⟩
theorem zb8 {fv:Value} {xs:Array Operand} {ts:Array TypeId} {vs:List Value} {kk:Value→K} (ho:o.op = .call { callee:=.value x,args:=xs,argTypes:=ts }) (hx:ev σ x = some fv) (hv:evs σ xs.toList = some vs):WY P σ o (jk P fv vs kk) kk :=
 fun w ⟨l,hg,h⟩=>⟨l,_,zYq ho (hx.trans (congrArg some hg)) hv,h⟩
theorem zWb {P : Program} {f : Nat} {fn : Func} {e : Array Value → Sem Value} (hf : P.funcs[f]? = some fn) (hn : (fn.name == "runtime.NumGoroutine") = false) (hb : fn.body.isNone = true) (h1 : Extern.findNext fn = none) (h2 : Extern.find fn = some e) : EXT P f e := ⟨fun args w v w' h => by rw [run_callFunc_extern hf hn hb h1 h2, h]; rfl⟩
theorem zPB {f:FuncId} {e:Array Value→Sem Value} {xs:Array Operand} {ts:Array TypeId} {vs:List Value} [c:EXT P f e] (ho:o.op = .call { callee:=.value x,args:=xs,argTypes:=ts }) (hx:ev σ x = some (.func (.func f) #[] #[])) (hv:evs σ xs.toList = some vs):∀ v w w',(e vs.toArray).run P w = .ok v w'→Eff P σ o w (.value v) w':=fun v w w' h a _ hs=>by
 have h1:xs.map a.eval = vs.toArray:=by apply Array.ext'; simpa using zFf hs hv
 simp [execOp,ho,resolve,hs.ev hx,h1,Deferred.ofValue,invoke,c.h _ _ _ _ h]
theorem yI {ok:Bool} {vx vy:Value} (ho:o.op = .lookup T x y ok) (hx:ev σ x = some vx) (hy:ev σ y = some vy):∀ v w w',(Instr.lookup T vx vy ok).run P w = .ok v w'→Eff P σ o w (.value v) w':=fun _ _ _ h=>zWJ ho hx hy h
theorem zD1 {vx:Value} (ho:o.op = .convert T U x) (hx:ev σ x = some vx):∀ v w w',(convert T U vx).run P w = .ok v w'→Eff P σ o w (.value v) w':=fun _ _ _ h=>zVB ho hx h
theorem zPC {vx:Value} (ho:o.op = .makeInterface T x) (hx:ev σ x = some vx):∀ v w w',(Instr.makeInterface T vx).run P w = .ok v w'→Eff P σ o w (.value v) w':=fun _ _ _ h=>zLC ho hx h
theorem zPD {t:TypeId} {ts:Array TypeId} {vx:Value} (ho:o.op = .call { callee:=.builtin .len,args:=#[x],argTypes:=ts }) (ht:o.type = t) (hx:ev σ x = some vx):∀ v w w',(Builtin.len_ ts t #[vx]).run P w = .ok v w'→Eff P σ o w (.value v) w':=fun _ _ _ h=>zb5 ho ht hx h
theorem zWc {t:TypeId} {ts:Array TypeId} {vx:Value} (ho:o.op = .call { callee:=.builtin .cap,args:=#[x],argTypes:=ts }) (ht:o.type = t) (hx:ev σ x = some vx):∀ v w w',(Builtin.cap_ ts t #[vx]).run P w = .ok v w'→Eff P σ o w (.value v) w':=fun _ _ _ h=>zb6 ho ht hx h
theorem zQ1 {t:TypeId} {ts:Array TypeId} {vx:Value} (ho:o.op = .call { callee:=.builtin .clear,args:=#[x],argTypes:=ts }) (ht:o.type = t) (hx:ev σ x = some vx):∀ v w w',(Builtin.clear_ ts t #[vx]).run P w = .ok v w'→Eff P σ o w (.value v) w':=fun _ _ _ h=>zYm ho ht hx h
theorem zN7 {t:TypeId} {ts:Array TypeId} {vx vy:Value} (ho:o.op = .call { callee:=.builtin .append,args:=#[x,y],argTypes:=ts }) (ht:o.type = t) (hx:ev σ x = some vx) (hy:ev σ y = some vy):∀ v w w',(Builtin.append_ ts t #[vx,vy]).run P w = .ok v w'→Eff P σ o w (.value v) w':=fun _ _ _ h=>zWK ho ht hx hy h
theorem zTq {t:TypeId} {ts:Array TypeId} {vx vy:Value} (ho:o.op = .call { callee:=.builtin .copy,args:=#[x,y],argTypes:=ts }) (ht:o.type = t) (hx:ev σ x = some vx) (hy:ev σ y = some vy):∀ v w w',(Builtin.copy_ ts t #[vx,vy]).run P w = .ok v w'→Eff P σ o w (.value v) w':=fun _ _ _ h=>zaw ho ht hx hy h
theorem zN8 {t:TypeId} {ts:Array TypeId} {vx vy:Value} (ho:o.op = .call { callee:=.builtin .delete,args:=#[x,y],argTypes:=ts }) (ht:o.type = t) (hx:ev σ x = some vx) (hy:ev σ y = some vy):∀ v w w',(Builtin.delete_ ts t #[vx,vy]).run P w = .ok v w'→Eff P σ o w (.value v) w':=fun _ _ _ h=>zWL ho ht hx hy h
theorem zMK (ho:o.op = .makeMap T none):∀ v w w',(Instr.makeMap T none).run P w = .ok v w'→Eff P σ o w (.value v) w':=fun _ _ _ h=>zVC ho h
theorem zI8 {vx vy:Value} (ho:o.op = .makeSlice T x y) (hx:ev σ x = some vx) (hy:ev σ y = some vy):∀ v w w',(Instr.makeSlice T vx vy).run P w = .ok v w'→Eff P σ o w (.value v) w':=fun _ _ _ h=>zQo ho hx hy h
theorem zQ2 {vx:Value} (ho:o.op = .range T x) (hx:ev σ x = some vx):∀ v w w',(Instr.range T vx).run P w = .ok v w'→Eff P σ o w (.value v) w':=fun _ _ _ h=>zYk ho hx h
theorem zTr {t:TypeId} {s:Bool} {vx:Value} (ho:o.op = .next x s) (ht:o.type = t) (hx:ev σ x = some vx):∀ v w w',(Instr.next vx s t).run P w = .ok v w'→Eff P σ o w (.value v) w':=fun _ _ _ h=>zav ho ht hx h
theorem zQ3 {vx:Value} (ho:o.op = .entry x) (hx:ev σ x = some vx):∀ v w w',(Instr.entry vx).run P w = .ok v w'→Eff P σ o w (.value v) w':=fun _ _ _ h=>zYl ho hx h
theorem zQ4 {op:BinOp} {vx vy:Value} (ho:o.op = .binOp op T x y U) (hx:ev σ x = some vx) (hy:ev σ y = some vy):∀ v w w',(do eqGuard op T x y vx vy; binOp op T vx vy:Sem Value).run P w = .ok v w'→Eff P σ o w (.value v) w':=fun _ _ _ h=>zYj ho hx hy h
theorem zN9 {ps:Array (Nat×Operand)} {vs:List (Nat×Value)} (ho:o.op = .build T ps) (hv:partsOf σ ps.toList = some vs):∀ v w w',(Instr.build T vs.toArray).run P w = .ok v w'→Eff P σ o w (.value v) w':=fun _ _ _ h=>zWI ho hv h
theorem zI9 {vx vy vz:Value} (ho:o.op = .mapUpdate T x y z) (hx:ev σ x = some vx) (hy:ev σ y = some vy) (hz:ev σ z = some vz):∀ u w w',(Instr.mapUpdate T vx vy vz).run P w = .ok u w'→Eff P σ o w .skip w':=fun _ _ _ h=>zQn ho hx hy hz h
end
variable {α:Type} {k:K} {vx:α→Value} {k':α→K}
theorem zLU (h:WP P σ o k vx k':=by
  first
  | exact zQv (by first | exact zZ5 rfl rfl rfl | exact zZ6 rfl rfl rfl | exact zMI rfl rfl | exact zZ7 rfl rfl rfl | exact zaA rfl rfl rfl | exact zbx rfl rfl rfl | exact zaB rfl rfl rfl | exact zaE rfl rfl | exact zaF rfl rfl | exact zaG _ rfl rfl rfl | exact zaH _ rfl rfl rfl)
  | exact zWP rfl rfl rfl | exact zWQ rfl rfl | exact zWR rfl rfl (by first | exact rfl | exact ⟨_,rfl⟩) (by first | exact rfl | exact ⟨_,rfl⟩) (by first | exact rfl | exact ⟨_,rfl⟩) rfl | exact zTn rfl rfl rfl | exact zTm rfl rfl rfl
  | exact zTl (fun h0=>by first | exact zaC rfl rfl rfl h0 | exact zaD rfl rfl rfl h0 | exact zZ8 rfl rfl rfl h0 | exact zZ9 rfl rfl rfl h0)
  | exact zTo rfl rfl (by first | exact rfl | exact ⟨_,rfl⟩) (by first | exact rfl | exact ⟨_,rfl⟩) | exact zWS rfl rfl rfl | exact zWV rfl rfl rfl
  | exact zWT (by first | exact zQ4 rfl rfl rfl | exact zN9 rfl rfl) | exact zWU rfl rfl):WP P σ o k vx k':=h
theorem zHd (h:WR P σ o k vx k':=by
  first
  | exact zaT rfl rfl | exact zWW rfl rfl
  | exact zA8 (by first | exact yI rfl rfl rfl | exact zD1 rfl rfl | exact zPD rfl rfl rfl | exact zPC rfl rfl)
  | exact zBI (yI rfl rfl rfl)):WR P σ o k vx k':=h
theorem zYs {S:World→Prop} (h:WS P S σ o k vx k':=by
  first
  | exact zaU rfl rfl | exact zWX rfl rfl
  | exact zKs (by first | exact yI rfl rfl rfl | exact zD1 rfl rfl | exact zPD rfl rfl rfl | exact zPC rfl rfl)
  | exact zMJ (yI rfl rfl rfl)):WS P S σ o k vx k':=h
theorem zHe (h:WE P σ o k vx k':=by
  first
  | exact zWY rfl rfl rfl | exact zQw rfl rfl | exact zQx rfl rfl rfl rfl (by kernel_rfl) | exact zKt rfl rfl rfl (by kernel_rfl)
  | exact zQy (by first | exact zN7 rfl rfl rfl rfl | exact zD1 rfl rfl | exact zTr rfl rfl rfl | exact zQ2 rfl rfl | exact zQ3 rfl rfl | exact zMK rfl | exact zI8 rfl rfl rfl | exact zTq rfl rfl rfl rfl | exact zN8 rfl rfl rfl rfl | exact zWc rfl rfl rfl | exact zQ1 rfl rfl rfl)):WE P σ o k vx k':=h
theorem zPE {k k':K} (h:WK P σ o k k':=by
  first
  | exact zaV rfl rfl rfl | exact zWa rfl rfl rfl | exact zQz (zI9 rfl rfl rfl rfl)):WK P σ o k k':=h
theorem zJA {k:K} {kk:Value→K} (h:WC P σ o k kk:=by
  first
  | exact zTp rfl rfl rfl rfl | exact zQ0 rfl rfl rfl rfl | exact zaW rfl rfl rfl):WC P σ o k kk:=h
end
end
section
open Go
def G (dl:List Deferred) (n:Nat) (σ:List (Nat×Value)) (k:K) (X:Act→World→Prop):Prop:=∀ a w,jo dl a n σ→k w→X a w
abbrev fe:Option Nat→Fence
 | none=>Fence.wide
 | some l=>Fence.wide.inRound l
def Cx (r:Option Nat) (P:Program) (c:Code) (Q:Exit→Act→World→Prop):Act→World→Prop:=fun a w=>c.wpIn (fe r) 0 P Q a w
def Tx (r:Option Nat) (P:Program) (ops:Array Oper) (Q:Exit→Act→World→Prop) (l:List Oper):Act→World→Prop:=fun a w=>wpListIn (fe r) 0 P ops Q l a w
def Ex (Q:Exit→Act→World→Prop) (e:Exit):Act→World→Prop:=fun a w=>Q e a w
def zBQ:Op→Bool
 | .defer _=>true
 | _=>false
theorem zJB {o:Oper} (h:zBQ o.op = false):∀ c,o.op ≠ .defer c:=fun c hc=>by rw [hc] at h; cases h
theorem zHf:∀ r,Free (fe r)
 | none=>zHc
 | some l=>zHc.round l
theorem zWd:∀ r,(fe r).alive = false
 | none=>rfl
 | some _=>rfl
theorem zWe:∀ r,(fe r).depth = none
 | none=>rfl
 | some _=>rfl
section
variable {P:Program} {dl:List Deferred} {n:Nat} {σ τ:List (Nat×Value)} {k:K} {X:Act→World→Prop} {r:Option Nat} {ops:Array Oper} {Q:Exit→Act→World→Prop} {l:List Oper} {o:Oper} {a:Act} {w w':World} {v:Value}
theorem zCo {K1:Act→World→Prop} (hs:jo dl a n σ) (nd:zBQ o.op = false) (hp:Eff P σ o w (.value v) w') (h:K1 (a.put o.dst v) w'):o.wpIn (fe r) 0 P a w K1 Q:=by
 refine ⟨fun f _=>(zHf r).fn f,?_⟩
 rw [Oper.semAt_eq _ _ _ (zJB nd)]
 have h1:(execOp a.eval o).run P w = .ok (.value v) w':=hp { a with defers:=[] } n hs.1
 rw [h1,Oper.uponIn_value]; exact h
theorem zPF {K1:Act→World→Prop} (hs:jo dl a n σ) (nd:zBQ o.op = false) (hp:Eff P σ o w .skip w') (h:K1 (a.put o.dst undef) w'):o.wpIn (fe r) 0 P a w K1 Q:=by
 refine ⟨fun f _=>(zHf r).fn f,?_⟩
 rw [Oper.semAt_eq _ _ _ (zJB nd)]
 have h1:(execOp a.eval o).run P w = .ok .skip w':=hp { a with defers:=[] } n hs.1
 rw [h1,Oper.uponIn_skip]; exact h
theorem zJC {K1:Act→World→Prop} {f:FuncId} {args:Array Value} {kk:Value→K} (hs:jo dl a n σ) (nd:zBQ o.op = false) (hp:Eff P σ o w (.enter f args) w') (hc:Calls P f args w' (Ret kk))
  (h:∀ v w,kk v w→K1 (a.put o.dst v) w):o.wpIn (fe r) 0 P a w K1 Q:=by
 refine ⟨fun f _=>(zHf r).fn f,?_⟩
 rw [Oper.semAt_eq _ _ _ (zJB nd)]
 have h1:(execOp a.eval o).run P w = .ok (.enter f args) w':=hp { a with defers:=[] } n hs.1
 rw [h1,Oper.uponIn_enter]
 refine ⟨(fun h=>by rw [zWe r] at h; cases h),zGA (zHf r) (zWd r) (hc.mono fun e w'' he=>?_)⟩
 cases e with
 | returned v=>exact h v _ he
 | panicked c=>exact he.elim
 | outgrown=>exact he.elim
theorem zQ5 {K1:Act→World→Prop} {y:Nat} {args:Array Value} {kk:Value→K} (hs:jo dl a n σ) (nd:zBQ o.op = false) (hp:∀ (x:Next),(Instr.yield y args).run P w = .ok x w→Eff P σ o w x w) (hc:YieldAt Fence.wide 0 P y args w (Ret kk))
  (h:∀ v w,kk v w→K1 (a.put o.dst v) w):o.wpIn Fence.wide 0 P a w K1 Q:=by
 obtain ⟨fn,tmps,as1,bd,hy,hr⟩:=hc
 refine ⟨fun f _=>trivial,?_⟩
 rw [Oper.semAt_eq _ _ _ (zJB nd)]
 have h1:(execOp a.eval o).run P w = .ok (.round y fn tmps as1 bd) w:=hp _ hy { a with defers:=[] } n hs.1
 rw [h1,Oper.uponIn_round]
 refine ⟨(fun h=>by cases h),zO6 (hr.mono fun e w'' he=>?_)⟩
 cases e with
 | returned v=>exact h v _ he
 | panicked c=>exact he.elim
 | outgrown=>exact he.elim
theorem zKu (hs:jo dl a n σ) (hw:wants ops σ o = some true) (h:o.wpIn (fe r) 0 P a w (wpListIn (fe r) 0 P ops Q l) Q):wpListIn (fe r) 0 P ops Q (o::l) a w:=by
 unfold wpListIn
 rw [if_pos (jA hs.1 hw)]; exact h
theorem zAp {d:Nat} (h:G dl n ((d,v)::σ) k (Tx r P ops Q l)) (hd:o.dst = some d:=by rfl) (hw:wants ops σ o = some true:=by rfl) (hp:Pure P σ o v:=by exact zPA) (hn:Nat.ble (d + 1) n = true:=by rfl) (nd:zBQ o.op = false:=by rfl) :
  G dl n σ k (Tx r P ops Q (o::l)):=fun a w hs hk=>zKu hs hw (zCo hs nd (hp.eff w) (by rw [hd]; exact h _ w (hs.put (Nat.le_of_ble_eq_true hn) v) hk))
theorem zTs {d:Nat} (h:G dl n ((d,undef)::σ) k (Tx r P ops Q l)) (hd:o.dst = some d:=by rfl) (hw:wants ops σ o = some false:=by rfl) (hn:Nat.ble (d + 1) n = true:=by rfl):G dl n σ k (Tx r P ops Q (o::l)):=fun a w hs hk=>by
 show wpListIn (fe r) 0 P ops Q (o::l) a w
 unfold wpListIn
 rw [if_neg (by rw [jA hs.1 hw]; simp),hd]
 exact ⟨fun f _=>(zHf r).fn f,h _ w (hs.put (Nat.le_of_ble_eq_true hn) _) hk⟩
theorem zPG (h:G dl n σ k (Tx r P ops Q l)) (hd:o.dst = none:=by rfl) (hw:wants ops σ o = some false:=by rfl):G dl n σ k (Tx r P ops Q (o::l)):=fun a w hs hk=>by
 show wpListIn (fe r) 0 P ops Q (o::l) a w
 unfold wpListIn
 rw [if_neg (by rw [jA hs.1 hw]; simp),hd]
 exact ⟨fun f _=>(zHf r).fn f,h _ w hs hk⟩
section
variable {α:Type} {vx:α→Value} {k':α→K}
theorem WP.wr {σ:List (Nat×Value)} (h:WP P σ o k vx k'):WR P σ o k vx k':=fun w hk=>by obtain ⟨x,hp,h⟩:=h w hk; exact ⟨x,hp.eff w,h⟩
theorem WR.we {σ:List (Nat×Value)} (h:WR P σ o k vx k'):WE P σ o k vx k':=fun w hk=>by obtain ⟨x,hp,h⟩:=h w hk; exact ⟨x,w,hp,h⟩
theorem zWf {d:Nat} (he:WE P σ o k vx k') (h:∀ x,G dl n ((d,vx x)::σ) (k' x) (Tx r P ops Q l)) (hd:o.dst = some d) (hw:wants ops σ o = some true) (hn:Nat.ble (d + 1) n = true) (nd:zBQ o.op = false):G dl n σ k (Tx r P ops Q (o::l)):=fun a w hs hk=>by
 obtain ⟨x,w',hp,h'⟩:=he w hk
 exact zKu hs hw (zCo hs nd hp (by rw [hd]; exact h x _ w' (hs.put (Nat.le_of_ble_eq_true hn) _) h'))
theorem uV {d:Nat} (h:∀ x,G dl n ((d,vx x)::σ) (k' x) (Tx r P ops Q l)) (hd:o.dst = some d:=by rfl) (hw:wants ops σ o = some true:=by rfl) (hp:WP P σ o k vx k':=by exact zLU) (hn:Nat.ble (d + 1) n = true:=by rfl) (nd:zBQ o.op = false:=by rfl):G dl n σ k (Tx r P ops Q (o::l)):=zWf hp.wr.we h hd hw hn nd
theorem zA9 {d:Nat} (h:∀ x,G dl n ((d,vx x)::σ) (k' x) (Tx r P ops Q l)) (hd:o.dst = some d:=by rfl) (hw:wants ops σ o = some true:=by rfl) (hp:WR P σ o k vx k':=by exact zHd) (hn:Nat.ble (d + 1) n = true:=by rfl) (nd:zBQ o.op = false:=by rfl):G dl n σ k (Tx r P ops Q (o::l)):=zWf hp.we h hd hw hn nd
theorem zBs {d:Nat} (h:∀ x,G dl n ((d,vx x)::σ) (k' x) (Tx r P ops Q l)) (hd:o.dst = some d:=by rfl) (hw:wants ops σ o = some true:=by rfl) (hp:WE P σ o k vx k':=by exact zHe) (hn:Nat.ble (d + 1) n = true:=by rfl) (nd:zBQ o.op = false:=by rfl):G dl n σ k (Tx r P ops Q (o::l)):=zWf hp h hd hw hn nd
theorem zPH (h:∀ x,G dl n σ (k' x) (Tx r P ops Q l)) (hd:o.dst = none:=by rfl) (hw:wants ops σ o = some true:=by rfl) (hp:WE P σ o k vx k':=by exact zHe) (nd:zBQ o.op = false:=by rfl):G dl n σ k (Tx r P ops Q (o::l)):=fun a w hs hk=>by
 obtain ⟨x,w',hp,h'⟩:=hp w hk
 exact zKu hs hw (zCo hs nd hp (by rw [hd]; exact h x _ w' hs h'))
end
theorem zJD {k':K} (h:G dl n σ k' (Tx r P ops Q l)) (hd:o.dst = none:=by rfl) (hw:wants ops σ o = some true:=by rfl) (hp:WK P σ o k k':=by exact zPE) (nd:zBQ o.op = false:=by rfl):G dl n σ k (Tx r P ops Q (o::l)):=fun a w hs hk=>by
 obtain ⟨w',hp,h'⟩:=hp w hk
 exact zKu hs hw (zPF hs nd hp (by rw [hd]; exact h _ w' hs h'))
theorem zTt {d:Nat} {kk:Value→K} (h:∀ u,G dl n ((d,u)::σ) (kk u) (Tx r P ops Q l)) (hd:o.dst = some d:=by rfl) (hw:wants ops σ o = some true:=by rfl) (hp:WC P σ o k kk:=by exact zJA) (hn:Nat.ble (d + 1) n = true:=by rfl) (nd:zBQ o.op = false:=by rfl):G dl n σ k (Tx r P ops Q (o::l)):=fun a w hs hk=>by
 obtain ⟨f,args,w',hp,hc⟩:=hp w hk
 exact zKu hs hw (zJC hs nd hp hc fun v w h'=>by rw [hd]; exact h v _ w (hs.put (Nat.le_of_ble_eq_true hn) _) h')
theorem zPI {kk:Value→K} (h:∀ u,G dl n σ (kk u) (Tx r P ops Q l)) (hd:o.dst = none:=by rfl) (hw:wants ops σ o = some true:=by rfl) (hp:WC P σ o k kk:=by exact zJA) (nd:zBQ o.op = false:=by rfl):G dl n σ k (Tx r P ops Q (o::l)):=fun a w hs hk=>by
 obtain ⟨f,args,w',hp,hc⟩:=hp w hk
 exact zKu hs hw (zJC hs nd hp hc fun v w h'=>by rw [hd]; exact h v _ w hs h')
theorem zTu {d:Nat} {kk:Value→K} (h:∀ u,G dl n ((d,u)::σ) (kk u) (Tx none P ops Q l)) (hd:o.dst = some d:=by rfl) (hw:wants ops σ o = some true:=by rfl) (hp:WY P σ o k kk:=by exact zb8 rfl rfl rfl) (hn:Nat.ble (d + 1) n = true:=by rfl) (nd:zBQ o.op = false:=by rfl):G dl n σ k (Tx none P ops Q (o::l)):=fun a w hs hk=>by
 obtain ⟨y,args,hp,hc⟩:=hp w hk
 exact zKu (r:=none) hs hw (zQ5 hs nd hp hc fun v w h'=>by rw [hd]; exact h v _ w (hs.put (Nat.le_of_ble_eq_true hn) _) h')
theorem zPJ (h:G dl n σ k (Ex Q .normal)):G dl n σ k (Tx r P ops Q []):=fun a w hs hk=>h a w hs hk
section
variable {α β γ δ ε:Type} {d:Nat} {u:Value}
theorem zH9 {v0:Value} (h:G dl n ((d,v0)::σ) k X):G dl n ((d,u)::σ) (jD v0 k u) X:=fun a w hs ⟨hu,hk⟩=>h a w (hu ▸ hs) hk
theorem zIA {c:α→Value} {k:α→K} (h:∀ x,G dl n ((d,c x)::σ) (k x) X):G dl n ((d,u)::σ) (yO c k u) X:=fun a w hs ⟨x,hu,hk⟩=>h x a w (hu ▸ hs) hk
theorem zDP {c:α→β→Value} {k:α→β→K} (h:∀ x y,G dl n ((d,c x y)::σ) (k x y) X):G dl n ((d,u)::σ) (zAQ c k u) X:=fun a w hs ⟨x,y,hu,hk⟩=>h x y a w (hu ▸ hs) hk
theorem zIB {c:α→β→γ→Value} {k:α→β→γ→K} (h:∀ x y z,G dl n ((d,c x y z)::σ) (k x y z) X):G dl n ((d,u)::σ) (zDT c k u) X:=fun a w hs ⟨x,y,z,hu,hk⟩=>h x y z a w (hu ▸ hs) hk
theorem zIC {c:α→β→γ→δ→Value} {k:α→β→γ→δ→K} (h:∀ x y z t,G dl n ((d,c x y z t)::σ) (k x y z t) X):G dl n ((d,u)::σ) (zDq c k u) X:=fun a w hs ⟨x,y,z,t,hu,hk⟩=>h x y z t a w (hu ▸ hs) hk
theorem zID {c:α→β→γ→δ→ε→Value} {k:α→β→γ→δ→ε→K} (h:∀ x y z t s,G dl n ((d,c x y z t s)::σ) (k x y z t s) X):G dl n ((d,u)::σ) (zD0 c k u) X:=fun a w hs ⟨x,y,z,t,s,hu,hk⟩=>h x y z t s a w (hu ▸ hs) hk
theorem zPK {v0:Value} (h:G dl n σ k X):G dl n σ (jD v0 k u) X:=fun a w hs ⟨_,hk⟩=>h a w hs hk
theorem zQ6 {c:α→Value} {k:α→K} (h:∀ x,G dl n σ (k x) X):G dl n σ (yO c k u) X:=fun a w hs ⟨x,_,hk⟩=>h x a w hs hk
theorem zQ7 {c:α→β→Value} {k:α→β→K} (h:∀ x y,G dl n σ (k x y) X):G dl n σ (zAQ c k u) X:=fun a w hs ⟨x,y,_,hk⟩=>h x y a w hs hk
end
def gslot (ops:Array Oper) (σ:List (Nat×Value)) (o:Oper):Option Value:=match o.guard with
 | none=>none
 | some (j,_)=>match (ops[j]?).bind (·.dst) with
  | none=>none
  | some t=>look σ t
theorem zPL {b:Bool} {x y:K} (h1:b = true→G dl n σ x (Tx r P ops Q (o::l))) (h2:b = false→G dl n σ y (Tx r P ops Q (o::l))) (hg:gslot ops σ o = some (.bool b):=by rfl):G dl n σ (Ite b x y) (Tx r P ops Q (o::l)):=fun a w hs hk=>by
 cases b
 ·exact h2 rfl a w hs (hk.2 rfl)
 ·exact h1 rfl a w hs (hk.1 rfl)
theorem zBT (h:∀ a w,jo dl a n σ→k w→X a w):G dl n σ k X:=h
theorem zGU {p:Option Addr} {kp:Addr→K} (h:∀ a,p = some a→G dl n σ (kp a) X):G dl n σ (Nn p kp) X:=fun a w hs ⟨b,hb,hk⟩=>h b hb a w hs hk
theorem zGV {f:Value} {kf:FuncId→Array Value→Array Value→K} (h:∀ g fs cs,f = .func (.func g) fs cs→CB P g→G dl n σ (kf g fs cs) X):G dl n σ (Fv P f kf) X:=fun a w hs ⟨g,fs,cs,hf,hc,hk⟩=>h g fs cs hf ⟨hc⟩ a w hs hk
theorem zLV:G dl n σ Dead X:=fun _ _ _ hk=>hk.elim
def Gp (dl:List Deferred) (n:Nat) (X:Act→World→Prop) (τ:List (Nat×Value)) (k:K):Prop:=G dl n τ k X
theorem zTv (h:G dl n σ k X):Gp dl n X σ k:=h
theorem zE8 (h:Sub σ τ:=by repeat (first | exact trivial | refine ⟨rfl,?_⟩)):Sub σ τ:=h
theorem zLW (h:Gp dl n X τ k:=by apply_assumption) (hs:Sub σ τ:=by exact zE8):G dl n σ k X:=fun a w hs' hk=>h a w (hs'.to hs) hk
theorem zCd (h:G dl n σ k X):∀ a w,jo dl a n σ→k w→X a w:=h
def zGy (a b:Nat):Nat:=match Nat.beq a 1000000 with
 | true=>b
 | false=>a
def zCp:Code→Nat
 | .region id _ _=>id
 | .seq x y=>zGy (zCp x) (zCp y)
 | .cond _ x y=>zGy (zCp x) (zCp y)
 | .block _ c=>zCp c
 | .loop c=>zCp c
 | .scope c=>zCp c
 | .rangeFunc _ _ a _=>zCp a
 | _=>1000000
def zEq:Code→Nat
 | .region id _ _=>id
 | .seq x y=>zGy (zEq y) (zEq x)
 | .cond _ x y=>zGy (zEq y) (zEq x)
 | .block _ c=>zEq c
 | .loop c=>zEq c
 | .scope c=>zEq c
 | .rangeFunc _ _ _ b=>zEq b
 | _=>1000000
def za1 (x y:Code):Nat:=zGy (zCp y) (1000000 + zEq x)
structure JH (id:Nat) (H:(List (Nat×Value)→((List (Nat×Value)→K→Prop)→Prop)→Prop)→Prop):Prop where
 h:∀ D,H D→∃ pre C,D pre C
structure LH (id:Nat) {α:Type} (S:α→List (Nat×Value)) (body:(α→K)→α→K):Prop
structure XH (id:Nat) {α:Type} (X:α→K):Prop
variable {x y c:Code} {id:Nat}
theorem zPM (h:G dl n σ k (Cx r P x (Exit.then (Cx r P y Q) Q))):G dl n σ k (Cx r P (.seq x y) Q):=fun a w hs hk=>wpIn_seq (h a w hs hk)
def Jp (dl:List Deferred) (n:Nat) (σ:List (Nat×Value)) (k:K) (r:Option Nat) (P:Program) (x y:Code) (Q:Exit→Act→World→Prop) (pre:List (Nat×Value)) (C:(List (Nat×Value)→K→Prop)→Prop):Prop :=
 Sub σ pre∧C (Gp dl n (Cx r P y Q))∧∀ Kc,C (Gp dl n Kc)→G dl n σ k (Cx r P x (Exit.then Kc Q))
theorem zYt {α:Sort _} {p:α→Prop} {x:α} (h:p x):∃ x,p x:=⟨x,h⟩
theorem zLX {H:(List (Nat×Value)→((List (Nat×Value)→K→Prop)→Prop)→Prop)→Prop} (h:H (Jp dl n σ k r P x y Q)) (hi:za1 x y = id:=by rfl) (hh:JH id H:=by first | assumption | (apply_assumption <;> assumption)):G dl n σ k (Cx r P (.seq x y) Q):=fun a w hs hk=>by
 obtain ⟨pre,C,_,h1,h2⟩:=hh.h _ h
 exact wpIn_seq (h2 _ h1 a w hs hk)
theorem zLY (h:G dl n σ k (Ex Q .normal)):G dl n σ k (Cx r P .skip Q):=fun a w hs hk=>wpIn_skip (h a w hs hk)
theorem zJE {i:Nat} (h:G dl n σ k (Ex Q .normal)):G dl n σ k (Cx r P (.label i) Q):=fun a w hs hk=>wpIn_label (h a w hs hk)
theorem zLZ {i:Nat} (h:G dl n σ k (Ex Q (.exit i))):G dl n σ k (Cx r P (.exit i) Q):=fun a w hs hk=>wpIn_exit (h a w hs hk)
theorem zPN (h:G dl n σ k (Ex Q .ret)):G dl n σ k (Cx r P .ret Q):=fun a w hs hk=>wpIn_ret (h a w hs hk)
theorem zJF {i:Nat} (h:G dl n σ k (Cx r P c (Exit.inBlock i Q))):G dl n σ k (Cx r P (.block i c) Q):=fun a w hs hk=>wpIn_block (h a w hs hk)
theorem zYu {e:Operand} {b:Bool} {kx ky:K} (h1:G dl n σ kx (Cx r P x Q)) (h2:G dl n σ ky (Cx r P y Q)) (he:ev σ e = some (.bool b):=by rfl):G dl n σ (Ite b kx ky) (Cx r P (.cond e x y) Q):=fun a w hs hk=>
 wpIn_cond_split (hs.1.ev he) (fun hb=>h1 a w hs (hk.1 hb)) (fun hb=>h2 a w hs (hk.2 hb))
theorem zHg {e:Operand} (h:G dl n σ k (Cx r P x Q)) (he:ev σ e = some (.bool true):=by rfl):G dl n σ k (Cx r P (.cond e x y) Q):=fun a w hs hk=>wpIn_cond_true (hs.1.ev he) (h a w hs hk)
theorem zHh {e:Operand} (h:G dl n σ k (Cx r P y Q)) (he:ev σ e = some (.bool false):=by rfl):G dl n σ k (Cx r P (.cond e x y) Q):=fun a w hs hk=>wpIn_cond_false (hs.1.ev he) (h a w hs hk)
theorem zPO {i:Nat} (h:G dl n σ k (Tx r P l.toArray Q l)):G dl n σ k (Cx r P (.region i l.toArray false) Q):=fun a w hs hk=>wpIn_region_lit (h a w hs hk)
def Lx (dl:List Deferred) (n:Nat) {α:Type} (S:α→List (Nat×Value)) (X:α→K):Act→World→Prop:=fun a w=>∃ x,jo dl a n (S x)∧X x w
theorem zLa {α:Type} {body:(α→K)→α→K} {x0:α} {S:α→List (Nat×Value)} (h:∀ X:α→K,XH id X→∀ x,G dl n (S x) (body X x) (Cx r P c (Exit.then (Lx dl n S X) Q))) (hi:zCp c = id:=by rfl) (hh:LH id S body:=by first | assumption | (apply_assumption <;> assumption)) (h0:Sub σ (S x0):=by exact zE8) :
  G dl n σ (yJ body x0) (Cx r P (.loop c) Q):=fun a w hs ⟨I,μ,hI,hr⟩=>by
 refine zYp I μ (fun x a=>jo dl a n (S x)) x0 hI (hs.to h0) fun x a w hI hG=>?_
 refine wpIn_mono (h _ ⟨⟩ x a w hG (hr x w hI)) fun e a w hq=>?_
 cases e with
 | normal=>exact hq
 | _=>exact hq
theorem zPP {α:Type} {S:α→List (Nat×Value)} {X:α→K} {x:α} (hk:k = X x:=by rfl) (h0:Sub σ (S x):=by exact zE8):G dl n σ k (Lx dl n S X):=fun a w hs h=>⟨x,hs.to h0,hk ▸ h⟩
theorem zLb {Kc:Act→World→Prop} (h:G dl n σ k Kc):G dl n σ k (Ex (Exit.then Kc Q) .normal):=h
theorem zHi {Kc:Act→World→Prop} {i:Nat} (h:G dl n σ k (Ex Q (.exit i))):G dl n σ k (Ex (Exit.then Kc Q) (.exit i)):=h
theorem zHj {Kc:Act→World→Prop} (h:G dl n σ k (Ex Q .ret)):G dl n σ k (Ex (Exit.then Kc Q) .ret):=h
theorem zPQ {i:Nat} (h:G dl n σ k (Ex Q .normal)):G dl n σ k (Ex (Exit.inBlock i Q) .normal):=h
theorem zJG {i:Nat} (h:G dl n σ k (Ex Q .ret)):G dl n σ k (Ex (Exit.inBlock i Q) .ret):=h
theorem zJH {i:Nat} (h:G dl n σ k (Ex Q .normal)):G dl n σ k (Ex (Exit.inBlock i Q) (.exit i)):=fun a w hs hk=>by
 show Exit.inBlock i Q (.exit i) a w
 simp only [Exit.inBlock,if_true]; exact h a w hs hk
theorem zJI {i j:Nat} (h:G dl n σ k (Ex Q (.exit j))) (hij:Nat.beq j i = false:=by rfl):G dl n σ k (Ex (Exit.inBlock i Q) (.exit j)):=fun a w hs hk=>by
 show Exit.inBlock i Q (.exit j) a w
 have:j ≠ i:=fun e=>by rw [e,Nat.beq_refl] at hij; cases hij
 simp only [Exit.inBlock,this,if_false]; exact h a w hs hk
def fin:List Value→Value
 | [v]=>v
 | l=>.tuple l.toArray
theorem za2 (l:List Value):fin l = if h:l.toArray.size = 1 then l.toArray[0] else .tuple l.toArray:=by
 cases l with
 | nil=>rfl
 | cons v l=>cases l <;> rfl
def Rx (P:Program) (kk:Value→K) (rs:List ResultVar) (vs:List Value):Act→World→Prop:=fun a w=>∃ us,(List.mapM (zGx a.tmps) rs).run P w = .ok us w∧kk (fin (vs++us)) w
theorem zPR {fn:Func} {kk:Value→K} (h:Rx P kk fn.results.toList [] a w):∃ v,(results fn a.tmps).run P w = .ok v w∧kk v w:=by
 obtain ⟨us,h1,h2⟩:=h
 refine ⟨fin us,?_,h2⟩
 rw [zSV,← Array.toArray_toList (xs:=fn.results),Array.mapM_eq_mapM_toList]
 simp only [Array.toArray_toList]
 simp only [Sem.run_bind,Sem.run_map,h1,Result.andThen,Sem.run_pure]
 rw [za2]
theorem zSW {fn:Func} {kk:Value→K} {rs:List ResultVar} (h:G [] n σ k (Rx P kk rs [])) (hr:fn.results = rs.toArray:=by rfl):G [] n σ k (Ex (zBb P fn (Ret kk)) .ret):=fun a w hs hk=>by
 obtain ⟨v,h1,h2⟩:=zPR (fn:=fn) (by rw [hr]; exact h a w hs hk)
 show LeavesInM Fence.wide 0 P fn a.tmps (Ret kk) a.defers .returning w
 rw [hs.2]
 exact ⟨v,h1,h2⟩
theorem zSX {fn:Func} {kk:Value→K} (h:G dl n σ k (Ex (zBb P fn (Ret kk)) .ret)):G dl n σ k (Ex (zBb P fn (Ret kk)) .normal):=h
theorem zLc {fn:Func} {kk:Value→K} {D:Nat} {rs:List ResultVar} (h:G (zFh D) n σ k (Rx P kk rs [])) (hr:fn.results = rs.toArray:=by rfl):G (zFh D) n σ (jm D k) (Ex (zBb P fn (Ret kk)) .ret):=fun a w hs hk=>by
 obtain ⟨v,h1,h2⟩:=zPR (fn:=fn) (by rw [hr]; exact h a _ hs hk.2)
 show LeavesInM Fence.wide 0 P fn a.tmps (Ret kk) a.defers .returning w
 rw [hs.2]
 exact ⟨by simp,.inl ⟨D,_,rfl,run_takeDeferred hk.1,v,h1,h2⟩⟩
theorem zPS {kk:Value→K} {t:Nat} {rs:List ResultVar} {vs:List Value} (h:G dl n σ k (Rx P kk rs (vs++[v]))) (ht:look σ t = some v:=by rfl):G dl n σ k (Rx P kk (.tmp t::rs) vs):=fun a w hs hk=>by
 obtain ⟨us,h1,h2⟩:=h a w hs hk
 refine ⟨v::us,?_,by simpa using h2⟩
 rw [List.mapM_cons]
 have h3:(zGx a.tmps (.tmp t)).run P w = .ok v w:=zJ5 (a:={ a with defers:=[] }) hs.1 (r:=.tmp t) ht
 simp only [Sem.run_bind,h3,h1,Sem.run_pure,Result.andThen]
theorem zLd {α:Type} {c:α→Value} {kx:α→K} {kk:Value→K} {t T:Nat} {b:Addr} {rs:List ResultVar} {vs:List Value} [cl:CT P T] (h:∀ x,G dl n σ (kx x) (Rx P kk rs (vs++[c x]))) (ht:look σ t = some (.pointer (some b)):=by rfl):G dl n σ (Ld b c kx) (Rx P kk (.cell t T::rs) vs):=fun a w hs ⟨x,hv,hk⟩=>by
 obtain ⟨us,h1,h2⟩:=h x a w hs hk
 refine ⟨c x::us,?_,by simpa using h2⟩
 rw [List.mapM_cons]
 have h3:(zGx a.tmps (.cell t T)).run P w = .ok (c x) w:=zJ5 (a:={ a with defers:=[] }) hs.1 (r:=.cell t T) ⟨_,ht,zQp cl.h hv⟩
 simp only [Sem.run_bind,h3,h1,Sem.run_pure,Result.andThen]
theorem zJJ {kx:Array Value→K} {kk:Value→K} {t T m:Nat} {b:Addr} {rs:List ResultVar} {vs:List Value} [cl:AT P T m] (h:∀ x,G dl n σ (kx x) (Rx P kk rs (vs++[.agg x]))) (ht:look σ t = some (.pointer (some b)):=by rfl):G dl n σ (LdN b m kx) (Rx P kk (.cell t T::rs) vs):=fun a w hs ⟨x,hn,hv,hk⟩=>by
 obtain ⟨us,h1,h2⟩:=h x a w hs hk
 refine ⟨.agg x::us,?_,by simpa using h2⟩
 rw [List.mapM_cons]
 have h3:(zGx a.tmps (.cell t T)).run P w = .ok (.agg x) w:=zJ5 (a:={ a with defers:=[] }) hs.1 (r:=.cell t T) ⟨_,ht,zO3 cl.h hn hv⟩
 simp only [Sem.run_bind,h3,h1,Sem.run_pure,Result.andThen]
def Fx (k:K):Act→World→Prop:=fun _ w=>k w
theorem zPT {kk:Value→K} {vs:List Value} (h:G dl n σ k (Fx (kk (fin vs)))):G dl n σ k (Rx P kk [] vs):=fun a w hs hk=>⟨[],by simp,by rw [List.append_nil]; exact h a w hs hk⟩
section
variable {α β γ δ ε:Type} {u:Value}
theorem zYv {v0:Value} {q:K} (hk:k = q:=by rfl) (hu:u = v0:=by rfl):G dl n σ k (Fx (jD v0 q u)):=fun _ w _ h=>⟨hu,hk ▸ h⟩
theorem zYw {c:α→Value} {q:α→K} {x:α} (hk:k = q x:=by rfl) (hu:u = c x:=by rfl):G dl n σ k (Fx (yO c q u)):=fun _ w _ h=>⟨x,hu,hk ▸ h⟩
theorem zYx {c:α→β→Value} {q:α→β→K} {x:α} {y:β} (hk:k = q x y:=by rfl) (hu:u = c x y:=by rfl):G dl n σ k (Fx (zAQ c q u)):=fun _ w _ h=>⟨x,y,hu,hk ▸ h⟩
theorem zYy {c:α→β→γ→Value} {q:α→β→γ→K} {x:α} {y:β} {z:γ} (hk:k = q x y z:=by rfl) (hu:u = c x y z:=by rfl):G dl n σ k (Fx (zDT c q u)):=fun _ w _ h=>⟨x,y,z,hu,hk ▸ h⟩
theorem zYz {c:α→β→γ→δ→Value} {q:α→β→γ→δ→K} {x:α} {y:β} {z:γ} {t:δ} (hk:k = q x y z t:=by rfl) (hu:u = c x y z t:=by rfl):G dl n σ k (Fx (zDq c q u)):=fun _ w _ h=>⟨x,y,z,t,hu,hk ▸ h⟩
theorem zY0 {c:α→β→γ→δ→ε→Value} {q:α→β→γ→δ→ε→K} {x:α} {y:β} {z:γ} {t:δ} {s:ε} (hk:k = q x y z t s:=by rfl) (hu:u = c x y z t s:=by rfl):G dl n σ k (Fx (zD0 c q u)):=fun _ w _ h=>⟨x,y,z,t,s,hu,hk ▸ h⟩
end
end
def zQ8:Nat→List Value→List (Nat×Value)
 | _,[]=>[]
 | i,v::vs=>(i,v)::zQ8 (i + 1) vs
theorem zTw (l:List Value) (i:Nat):((l.zipIdx i).map fun p=>(p.2,p.1)) = zQ8 i l:=by
 induction l generalizing i with
 | nil=>rfl
 | cons v l ih=>simp [zQ8,List.zipIdx_cons,ih]
theorem zPU {P:Program} {f:FuncId} {fn:Func} {c:Code} {args:List Value} {kk:Value→K} {k:K} (n:Nat) {w:World} (hk:k w) (hf:P.funcs[f]? = some fn) (h:G [] n (zQ8 0 args) k (Cx none P c (zBb P fn (Ret kk)))) (hb:fn.body = some c:=by rfl) (hn:fn.ntmps = n:=by rfl) (hl:Nat.ble args.length n = true:=by rfl) :
  zL P f args.toArray kk w:=by
 subst hn
 refine zWM hf hb (Nat.le_of_ble_eq_true hl) fun a hs=>h a w (by rw [← zTw]; exact hs) hk
end
section
open Go
inductive Scr where
 | e
 | s (l:List Nat) (t:Scr)
 | a (l:List (Nat×Nat×Scr))
 | i (x y:Scr)
structure DH (id mode:Nat) (ds:List Nat) (t:Scr):Prop
def lst (n:Nat) (done:List Nat):Array Bool:=(Array.range n).map fun i=>done.contains i
theorem zTx (n i:Nat) (done:List Nat):(lst n done).setIfInBounds i true = lst n (i::done):=by
 apply Array.ext
 ·simp [lst]
 ·intro j h1 h2
  have h3:j < (lst n done).size:=by simpa using h1
  rw [Array.getElem_setIfInBounds h3]
  by_cases h:i = j
  ·subst h; simp [lst]
  ·have h':¬ j = i:=fun e=>h e.symm
   simp [lst,h,h']
theorem zPV (n:Nat):Array.replicate n false = lst n []:=by
 apply Array.ext
 ·simp [lst]
 ·intro j h1 h2; simp [lst]
def Dx (P:Program) (ops:Array Oper) (Q:Exit→Act→World→Prop) (S:World→Prop) (ds done:List Nat) (t:Scr):Act→World→Prop:=fun a w=>zEj Q→zDz P ops Q S ds (ops.size - done.length) (lst ops.size done) a w
def Al (S:World→Prop) (k:K):K:=fun w=>S w∧k w
def Ox (P:Program) (ops:Array Oper) (Q:Exit→Act→World→Prop) (S:World→Prop) (ds done:List Nat) (i tag:Nat) (t:Scr):Act→World→Prop:=fun a w=>zEj Q →
 opW P ops Q i (fun a' w'=>(alive ds (lst ops.size done) = true→i ∉ ds→S w→S w')∧zDz P ops Q S ds (ops.size - done.length - 1) (lst ops.size (i::done)) a' w') a w
def Ax (P:Program) (ops:Array Oper) (Q:Exit→Act→World→Prop) (S:World→Prop) (ds done:List Nat) (l:List (Nat×Nat×Scr)):Act→World→Prop:=fun a w=>∀ p ∈ l,Ox P ops Q S ds done p.1 p.2.1 p.2.2 a w
def takeC (ops:Array Oper) (ds done:List Nat) (i:Nat):Bool :=
 Region.noSelect ops && Region.free .any ops (lst ops.size done) i && (Region.ready .any ops (lst ops.size done)).contains i && !ds.contains i && Nat.ble (done.length + 1) ops.size
def zTy (ops:Array Oper) (l:Array Bool):Bool :=
 (List.range ops.size).all fun j=>match ops[j]? with
  | some oj=>!l.getD j false || oj.after.all fun e=>!Region.binds .any e || l.getD e.on false
  | none=>true
def zML (ops:Array Oper) (i:Nat):Nat→Nat→List Nat→List Nat
 | 0,_,acc=>acc
 | n + 1,k,acc=>match (match ops[k]? with
   | some o=>o.after.any fun e=>Region.binds .any e && (e.on == i || acc.contains e.on)
   | none=>false) with
  | true=>zML ops i n (k + 1) (k::acc)
  | false=>zML ops i n (k + 1) acc
theorem zGz {ops:Array Oper} {i:Nat}:∀ (n k:Nat) (acc:List Nat),(∀ x ∈ acc,∃ m,reach ops i m x = true)→∀ d ∈ zML ops i n k acc,∃ m,reach ops i m d = true
 | 0,_,_,h,d,hd=>h d hd
 | n + 1,k,acc,h,d,hd=>by
  unfold zML at hd
  split at hd
  ·rename_i hb
   refine zGz n (k + 1) (k::acc) (fun x hx=>?_) d hd
   rcases List.mem_cons.1 hx with rfl | hx
   ·cases ho:ops[x]? with
    | none=>simp [ho] at hb
    | some o=>
     simp only [ho,Array.any_eq_true'] at hb
     obtain ⟨e,he,hb⟩:=hb
     simp only [Bool.and_eq_true,Bool.or_eq_true] at hb
     rcases hb.2 with h2 | h2
     ·refine ⟨1,?_⟩
      simp only [reach,ho,Array.any_eq_true']
      exact ⟨e,he,by simp [hb.1,h2]⟩
     ·obtain ⟨m,hm⟩:=h e.on (List.contains_iff_mem.1 h2)
      refine ⟨m + 1,?_⟩
      simp only [reach,ho,Array.any_eq_true']
      exact ⟨e,he,by simp [hb.1,hm]⟩
   ·exact h x hx
  ·exact zGz n (k + 1) acc h d hd
def zOA (ops:Array Oper) (ds done:List Nat) (i:Nat):Bool:=takeC ops ds done i && zTy ops (lst ops.size done) && ds.all fun d=>(zML ops i (d - i) (i + 1) []).contains d
theorem zPW {ops:Array Oper} {l:Array Bool} (h:zTy ops l = true):Closed ops l:=fun j oj hj hl e he hb=>by
 have h1:=List.all_eq_true.1 h j (by simpa using (Array.getElem?_eq_some_iff.1 hj).1)
 simp only [hj,hl,Bool.not_true,Bool.false_or,Array.all_eq_true_iff_forall_mem] at h1
 have h2:=h1 e he
 simpa [hb] using h2
theorem zSY {Q:Exit→Act→World→Prop} {K:Act→World→Prop} (h:zEj Q):zEj (Exit.then K Q):=fun c a w hc=>h c a w hc
theorem zVE {Q:Exit→Act→World→Prop} {i:Nat} (h:zEj Q):zEj (Exit.inBlock i Q):=fun c a w hc=>h c a w hc
theorem zQ9 {P:Program} {fn:Func} {kk:Value→K}:zEj (bodyPost P fn (Ret kk)):=fun _ _ _ h=>h.2
theorem zIh {Q:Exit→Act→World→Prop} (h:zEj Q:=by repeat (first | refine zSY ?_ | refine zVE ?_ | exact zQr | exact zQ9)):zEj Q:=h
section
variable {P:Program} {dl:List Deferred} {n:Nat} {σ τ:List (Nat×Value)} {k:K} {X:Act→World→Prop} {ops:Array Oper} {Q:Exit→Act→World→Prop} {l:List Oper} {o:Oper} {v:Value} {S:World→Prop} {ds done:List Nat} {i:Nat} {is:List Nat} {t:Scr}
theorem zFi {T:World→Prop} (hi:ops[i]? = some o) (hc:takeC ops ds done i = true) (hT:(∀ w,T w)∨(T = S∧zOA ops ds done i = true)) (hQ:zEj Q) {a:Act} {w:World} (hy:YieldsIf P ops T o v a) (hw:T w)
  (h:zDz P ops Q S ds (ops.size - (i::done).length) (lst ops.size (i::done)) (a.put o.dst v) w):zDz P ops Q S ds (ops.size - done.length) (lst ops.size done) a w:=by
 simp only [takeC,Bool.and_eq_true,Bool.not_eq_true'] at hc
 obtain ⟨⟨⟨⟨h1,h2⟩,h3⟩,h4⟩,h5⟩:=hc
 have h5:=Nat.le_of_ble_eq_true h5
 rw [show ops.size - done.length = (ops.size - (i::done).length) + 1 by simp only [List.length_cons]; omega]
 refine zO8 hi (by intro hm; rw [List.contains_iff_mem.2 hm] at h4; cases h4) (Region.noSelect_spec h1) hQ _ _ a w (Region.free_spec hi h2) ?_ (by simpa using h3) hy hw (by rw [zTx]; exact h)
 rcases hT with h | ⟨h,hr⟩
 ·exact .inl h
 ·simp only [zOA,Bool.and_eq_true] at hr
  exact .inr ⟨h,zPW hr.1.2,fun d hd=>zGz _ _ _ (by simp) d (List.contains_iff_mem.1 (List.all_eq_true.1 hr.2 d hd))⟩
theorem zAq {d:Nat} (h:G dl n ((d,v)::σ) k (Dx P ops Q S ds (i::done) (.s is t))) (hi:ops[i]? = some o:=by rfl) (hd:o.dst = some d:=by rfl) (hw:wants ops σ o = some true:=by rfl) (hp:Pure P σ o v:=by exact zPA) (hc:takeC ops ds done i = true:=by as_aux_lemma=>kernel_rfl)
  (hn:Nat.ble (d + 1) n = true:=by rfl):G dl n σ k (Dx P ops Q S ds done (.s (i::is) t)):=fun a w hs hk hQ=>
 zFi (T:=fun _=>True) hi hc (.inl fun _=>trivial) hQ (.inl ⟨jA hs.1 hw,fun w _=>hp { a with defers:=[] } n hs.1 w⟩) trivial (by rw [hd]; exact h _ w (hs.put (Nat.le_of_ble_eq_true hn) v) hk hQ)
def less (ds:List Nat) (i:Nat):List Nat:=ds.filter fun j=>!Nat.beq j i
theorem zRA:∀ d ∈ less ds i,d ∈ ds:=fun d hd=>(List.mem_filter.1 hd).1
theorem zTz {d:Nat} (h:G dl n ((d,undef)::σ) k (Dx P ops Q S (less ds i) (i::done) (.s is t))) (hi:ops[i]? = some o:=by rfl) (hd:o.dst = some d:=by rfl) (hw:wants ops σ o = some false:=by rfl) (hc:takeC ops (less ds i) done i = true:=by as_aux_lemma=>kernel_rfl)
  (hn:Nat.ble (d + 1) n = true:=by rfl):G dl n σ k (Dx P ops Q S ds done (.s (i::is) t)):=fun a w hs hk hQ=>
 zJ6 zRA _ _ _ _ (zFi (T:=fun _=>True) (v:=undef) hi hc (.inl fun _=>trivial) hQ (.inr ⟨jA hs.1 hw,rfl⟩) trivial (by rw [hd]; exact h _ w (hs.put (Nat.le_of_ble_eq_true hn) undef) hk hQ))
theorem zPX (h:G dl n σ k (Dx P ops Q S (less ds i) (i::done) (.s is t))) (hi:ops[i]? = some o:=by rfl) (hd:o.dst = none:=by rfl) (hw:wants ops σ o = some false:=by rfl) (hc:takeC ops (less ds i) done i = true:=by as_aux_lemma=>kernel_rfl):G dl n σ k (Dx P ops Q S ds done (.s (i::is) t)):=fun a w hs hk hQ=>
 zJ6 zRA _ _ _ _ (zFi (T:=fun _=>True) (v:=undef) hi hc (.inl fun _=>trivial) hQ (.inr ⟨jA hs.1 hw,rfl⟩) trivial (by rw [hd]; exact h _ w hs hk hQ))
theorem zPY (h:G dl n σ k (Dx P ops Q S ds done t)):G dl n σ k (Dx P ops Q S ds done (.s [] t)):=h
section
variable {α:Type} {vx:α→Value} {k':α→K} {d:Nat}
theorem uW (h:∀ x,G dl n ((d,vx x)::σ) (k' x) (Dx P ops Q S ds (i::done) (.s is t))) (hi:ops[i]? = some o:=by rfl) (hd:o.dst = some d:=by rfl) (hw:wants ops σ o = some true:=by rfl) (hp:WP P σ o k vx k':=by exact zLU) (hc:takeC ops ds done i = true:=by as_aux_lemma=>kernel_rfl)
  (hn:Nat.ble (d + 1) n = true:=by rfl):G dl n σ k (Dx P ops Q S ds done (.s (i::is) t)):=fun a w hs hk hQ=>by
 obtain ⟨x,hp,hk⟩:=hp w hk
 exact zFi (T:=fun _=>True) hi hc (.inl fun _=>trivial) hQ (.inl ⟨jA hs.1 hw,fun w _=>hp { a with defers:=[] } n hs.1 w⟩) trivial (by rw [hd]; exact h x _ w (hs.put (Nat.le_of_ble_eq_true hn) _) hk hQ)
theorem vB (h:∀ x,G dl n ((d,vx x)::σ) (Al S (k' x)) (Dx P ops Q S ds (i::done) (.s is t))) (hi:ops[i]? = some o:=by rfl) (hd:o.dst = some d:=by rfl) (hw:wants ops σ o = some true:=by rfl) (hp:WP P σ o k vx k':=by exact zLU) (hc:takeC ops ds done i = true:=by as_aux_lemma=>kernel_rfl)
  (hn:Nat.ble (d + 1) n = true:=by rfl):G dl n σ (Al S k) (Dx P ops Q S ds done (.s (i::is) t)):=fun a w hs ⟨hS,hk⟩ hQ=>by
 obtain ⟨x,hp,hk⟩:=hp w hk
 exact zFi (T:=fun _=>True) hi hc (.inl fun _=>trivial) hQ (.inl ⟨jA hs.1 hw,fun w _=>hp { a with defers:=[] } n hs.1 w⟩) trivial (by rw [hd]; exact h x _ w (hs.put (Nat.le_of_ble_eq_true hn) _) ⟨hS,hk⟩ hQ)
theorem zaX (h:∀ x,G dl n ((d,vx x)::σ) (Al S (k' x)) (Dx P ops Q S ds (i::done) (.s is t))) (hi:ops[i]? = some o) (hd:o.dst = some d) (hw:wants ops σ o = some true) (hp:∀ w,S w→k w→∃ x,(∀ w,S w→Eff P σ o w (.value (vx x)) w)∧k' x w) (hc:zOA ops ds done i = true)
  (hn:Nat.ble (d + 1) n = true):G dl n σ (Al S k) (Dx P ops Q S ds done (.s (i::is) t)):=fun a w hs ⟨hS,hk⟩ hQ=>by
 obtain ⟨x,hp,hk⟩:=hp w hS hk
 have hc':takeC ops ds done i = true:=by simp only [zOA,Bool.and_eq_true] at hc; exact hc.1.1
 exact zFi (T:=S) hi hc' (.inr ⟨rfl,hc⟩) hQ (.inl ⟨jA hs.1 hw,fun w hw=>hp w hw { a with defers:=[] } n hs.1⟩) hS (by rw [hd]; exact h x _ w (hs.put (Nat.le_of_ble_eq_true hn) _) ⟨hS,hk⟩ hQ)
theorem zB6 {w1:World} (h:∀ x,G dl n ((d,vx x)::σ) (Al (Is w1) (k' x)) (Dx P ops Q (Is w1) ds (i::done) (.s is t))) (hi:ops[i]? = some o:=by rfl) (hd:o.dst = some d:=by rfl) (hw:wants ops σ o = some true:=by rfl) (hp:WR P σ o k vx k':=by exact zHd) (hc:zOA ops ds done i = true:=by as_aux_lemma=>kernel_rfl)
  (hn:Nat.ble (d + 1) n = true:=by rfl):G dl n σ (Al (Is w1) k) (Dx P ops Q (Is w1) ds done (.s (i::is) t)):=zaX h hi hd hw hp.is hc hn
theorem zEr (h:∀ x,G dl n ((d,vx x)::σ) (Al S (k' x)) (Dx P ops Q S ds (i::done) (.s is t))) (hi:ops[i]? = some o:=by rfl) (hd:o.dst = some d:=by rfl) (hw:wants ops σ o = some true:=by rfl) (hp:WS P S σ o k vx k':=by exact zYs) (hc:zOA ops ds done i = true:=by as_aux_lemma=>kernel_rfl)
  (hn:Nat.ble (d + 1) n = true:=by rfl):G dl n σ (Al S k) (Dx P ops Q S ds done (.s (i::is) t)):=zaX h hi hd hw (fun w _ hk=>hp w hk) hc hn
end
theorem zPZ (h:G dl n σ k (Ex Q .normal)) (hc:Region.ready .any ops (lst ops.size done) = []:=by as_aux_lemma=>kernel_rfl):G dl n σ k (Dx P ops Q S ds done .e):=fun a w hs hk _=>by
 show zDz P ops Q S ds (ops.size - done.length) (lst ops.size done) a w
 cases ops.size - done.length with
 | zero=>exact ⟨hc,h a w hs hk⟩
 | succ m=>exact ⟨fun _=>h a w hs hk,by rw [hc]; simp⟩
theorem zAJ (h:G dl n σ k X):G dl n σ (Al S k) X:=fun a w hs hk=>h a w hs hk.2
theorem zPa {b:Bool} {x y:K} {s t:Scr} (h1:b = true→G dl n σ x (Dx P ops Q S ds done s)) (h2:b = false→G dl n σ y (Dx P ops Q S ds done t)):G dl n σ (Ite b x y) (Dx P ops Q S ds done (.i s t)):=fun a w hs hk=>by
 cases b
 ·exact h2 rfl a w hs (hk.2 rfl)
 ·exact h1 rfl a w hs (hk.1 rfl)
theorem zLe {b:Bool} {x y:K} {s t:Scr} (h1:b = true→G dl n σ (Al S x) (Dx P ops Q S ds done s)) (h2:b = false→G dl n σ (Al S y) (Dx P ops Q S ds done t)):G dl n σ (Al S (Ite b x y)) (Dx P ops Q S ds done (.i s t)):=fun a w hs ⟨hS,hk⟩=>by
 cases b
 ·exact h2 rfl a w hs ⟨hS,hk.2 rfl⟩
 ·exact h1 rfl a w hs ⟨hS,hk.1 rfl⟩
theorem zT0 {p:Option Addr} {kp:Addr→K} (h:∀ a,p = some a→G dl n σ (Al S (kp a)) X):G dl n σ (Al S (Nn p kp)) X:=fun a w hs ⟨hS,b,hb,hk⟩=>h b hb a w hs ⟨hS,hk⟩
theorem zT1 {f:Value} {kf:FuncId→Array Value→Array Value→K} (h:∀ g fs cs,f = .func (.func g) fs cs→CB P g→G dl n σ (Al S (kf g fs cs)) X):G dl n σ (Al S (Fv P f kf)) X:=fun a w hs ⟨hS,g,fs,cs,hf,hc,hk⟩=>h g fs cs hf ⟨hc⟩ a w hs ⟨hS,hk⟩
theorem zPb {α:Type} {d:Nat} {u:Value} {c:α→Value} {k:α→K} (h:∀ x,G dl n ((d,c x)::σ) (Al S (k x)) X):G dl n ((d,u)::σ) (Al S (yO c k u)) X:=fun a w hs ⟨hS,x,hu,hk⟩=>h x a w (hu ▸ hs) ⟨hS,hk⟩
theorem zCG {α β:Type} {d:Nat} {u:Value} {c:α→β→Value} {k:α→β→K} (h:∀ x y,G dl n ((d,c x y)::σ) (Al S (k x y)) X):G dl n ((d,u)::σ) (Al S (zAQ c k u)) X:=fun a w hs ⟨hS,x,y,hu,hk⟩=>h x y a w (hu ▸ hs) ⟨hS,hk⟩
theorem zY1 {m:List (Nat×Nat×Scr)} (h:G dl n σ k (Ax P ops Q S ds done m)) (hr:Region.ready .any ops (lst ops.size done) = m.map (·.1):=by as_aux_lemma=>kernel_rfl) (hl:(Nat.ble (done.length + 1) ops.size && !m.isEmpty) = true:=by rfl):G dl n σ k (Dx P ops Q S ds done (.a m)):=fun a w hs hk hQ=>by
 simp only [Bool.and_eq_true,Bool.not_eq_true'] at hl
 have h5:=Nat.le_of_ble_eq_true hl.1
 show zDz P ops Q S ds (ops.size - done.length) (lst ops.size done) a w
 have h0:=h a w hs hk
 rw [show ops.size - done.length = (ops.size - done.length - 1) + 1 by omega]
 refine ⟨fun h0=>?_,fun i hi=>?_⟩
 ·rw [h0] at hr
  cases m with
  | nil=>simp at hl
  | cons p m=>simp at hr
 ·rw [hr] at hi
  obtain ⟨p,hp,rfl⟩:=List.mem_map.1 hi
  have:=h0 p hp hQ
  rw [zTx]
  exact this
theorem zPc {ks:List K} {m:List (Nat×Nat×Scr)} {i tag:Nat} {t:Scr} (h1:G dl n σ k (Ox P ops Q S ds done i tag t)) (h2:G dl n σ (All ks) (Ax P ops Q S ds done m)):G dl n σ (All (k::ks)) (Ax P ops Q S ds done ((i,tag,t)::m)):=fun a w hs hk p hp=>by
 rcases List.mem_cons.1 hp with rfl | hp
 ·exact h1 a w hs (hk 0 _ rfl)
 ·exact h2 a w hs (fun j x hx=>hk (j + 1) x (by simpa using hx)) p hp
theorem zLf {ks:List K} {m:List (Nat×Nat×Scr)} {i tag:Nat} {t:Scr} (h1:G dl n σ (Al S k) (Ox P ops Q S ds done i tag t)) (h2:G dl n σ (Al S (All ks)) (Ax P ops Q S ds done m)):G dl n σ (Al S (All (k::ks))) (Ax P ops Q S ds done ((i,tag,t)::m)):=fun a w hs ⟨hS,hk⟩ p hp=>by
 rcases List.mem_cons.1 hp with rfl | hp
 ·exact h1 a w hs ⟨hS,hk 0 _ rfl⟩
 ·exact h2 a w hs ⟨hS,fun j x hx=>hk (j + 1) x (by simpa using hx)⟩ p hp
theorem zPd:G dl n σ k (Ax P ops Q S ds done []):=fun _ _ _ _ _ hp=>by cases hp
theorem zPe {i tag:Nat} {t:Scr} (h1:G dl n σ k (Ox P ops Q S ds done i tag t)):G dl n σ k (Ax P ops Q S ds done [(i,tag,t)]):=fun a w hs hk p hp=>by
 rcases List.mem_cons.1 hp with rfl | hp
 ·exact h1 a w hs hk
 ·cases hp
def okK (ops:Array Oper) (S:World→Prop) (ds done:List Nat) (i:Nat):Prop:=(∀ w,S w)∨(ds.contains i || !alive ds (lst ops.size done)) = true
theorem okK.keep (h:okK ops S ds done i) (w w':World):alive ds (lst ops.size done) = true→i ∉ ds→S w→S w':=fun ha hi _=>by
 rcases h with h | h
 ·exact h w'
 ·rw [ha] at h
  simp only [Bool.not_true,Bool.or_false] at h
  exact absurd (List.contains_iff_mem.1 h) hi
theorem zE9 (h:okK ops S ds done i:=by first | exact .inl (fun _=>trivial) | exact .inr (by as_aux_lemma=>kernel_rfl)):okK ops S ds done i:=h
theorem zDW {a:Act} {w:World} (hs:jo dl a n σ) (hi:ops[i]? = some o) (hw:wants ops σ o = some true) {tag:Nat} (h:zEj Q→o.wpIn Fence.wide 0 P a w (fun a' w'=>(alive ds (lst ops.size done) = true→i ∉ ds→S w→S w')∧zDz P ops Q S ds (ops.size - done.length - 1) (lst ops.size (i::done)) a' w') Q):Ox P ops Q S ds done i tag t a w:=by
 intro hQ
 unfold opW wpOpIn
 simp only [hi,jA hs.1 hw,if_true]
 exact h hQ
theorem zDX {m:Nat}:ops.size - done.length - 1 = ops.size - (i::done).length:=by simp only [List.length_cons]; omega
section
variable {α:Type} {vx:α→Value} {k':α→K} {d:Nat} {k1:K}
theorem zEY (h:∀ x,G dl n ((d,vx x)::σ) (k' x) (Dx P ops Q S ds (i::done) t)) (hi:ops[i]? = some o:=by rfl) (hd:o.dst = some d:=by rfl) (hw:wants ops σ o = some true:=by rfl) (hp:WE P σ o k vx k':=by first | exact zHe | exact WR.we zHd) (hK:okK ops S ds done i:=by exact zE9)
  (hn:Nat.ble (d + 1) n = true:=by rfl) (nd:zBQ o.op = false:=by rfl):G dl n σ k (Ox P ops Q S ds done i 0 t):=fun a w hs hk=>by
 obtain ⟨x,w',hp,h'⟩:=hp w hk
 refine zDW hs hi hw fun hQ=>(zCo (r:=none) hs nd hp ⟨hK.keep w w',?_⟩)
 rw [hd,zDX (m:=0)]; exact h x _ w' (hs.put (Nat.le_of_ble_eq_true hn) _) h' hQ
theorem zT2 (h:∀ x,G dl n σ (k' x) (Dx P ops Q S ds (i::done) t)) (hi:ops[i]? = some o:=by rfl) (hd:o.dst = none:=by rfl) (hw:wants ops σ o = some true:=by rfl) (hp:WE P σ o k vx k':=by exact zHe) (hK:okK ops S ds done i:=by exact zE9)
  (nd:zBQ o.op = false:=by rfl):G dl n σ k (Ox P ops Q S ds done i 0 t):=fun a w hs hk=>by
 obtain ⟨x,w',hp,h'⟩:=hp w hk
 refine zDW hs hi hw fun hQ=>(zCo (r:=none) hs nd hp ⟨hK.keep w w',?_⟩)
 rw [hd,zDX (m:=0)]; exact h x _ w' hs h' hQ
theorem zPf (h:G dl n σ k1 (Dx P ops Q S ds (i::done) t)) (hi:ops[i]? = some o:=by rfl) (hd:o.dst = none:=by rfl) (hw:wants ops σ o = some true:=by rfl) (hp:WK P σ o k k1:=by exact zPE) (hK:okK ops S ds done i:=by exact zE9)
  (nd:zBQ o.op = false:=by rfl):G dl n σ k (Ox P ops Q S ds done i 0 t):=fun a w hs hk=>by
 obtain ⟨w',hp,h'⟩:=hp w hk
 refine zDW hs hi hw fun hQ=>(zPF (r:=none) hs nd hp ⟨hK.keep w w',?_⟩)
 rw [hd,zDX (m:=0)]; exact h _ w' hs h' hQ
theorem zY2 {kk:Value→K} (h:∀ u,G dl n ((d,u)::σ) (kk u) (Dx P ops Q S ds (i::done) t)) (hi:ops[i]? = some o:=by rfl) (hd:o.dst = some d:=by rfl) (hw:wants ops σ o = some true:=by rfl) (hp:WC P σ o k kk:=by exact zJA) (hK:okK ops S ds done i:=by exact zE9)
  (hn:Nat.ble (d + 1) n = true:=by rfl) (nd:zBQ o.op = false:=by rfl):G dl n σ k (Ox P ops Q S ds done i 0 t):=fun a w hs hk=>by
 obtain ⟨f,args,w',hp,hc⟩:=hp w hk
 refine zDW hs hi hw fun hQ=>(zJC (r:=none) hs nd hp hc fun v w1 h'=>⟨hK.keep w w1,?_⟩)
 rw [hd,zDX (m:=0)]; exact h v _ w1 (hs.put (Nat.le_of_ble_eq_true hn) _) h' hQ
theorem zT3 {kk:Value→K} (h:∀ u,G dl n σ (kk u) (Dx P ops Q S ds (i::done) t)) (hi:ops[i]? = some o:=by rfl) (hd:o.dst = none:=by rfl) (hw:wants ops σ o = some true:=by rfl) (hp:WC P σ o k kk:=by exact zJA) (hK:okK ops S ds done i:=by exact zE9)
  (nd:zBQ o.op = false:=by rfl):G dl n σ k (Ox P ops Q S ds done i 0 t):=fun a w hs hk=>by
 obtain ⟨f,args,w',hp,hc⟩:=hp w hk
 refine zDW hs hi hw fun hQ=>(zJC (r:=none) hs nd hp hc fun v w1 h'=>⟨hK.keep w w1,?_⟩)
 rw [hd,zDX (m:=0)]; exact h v _ w1 hs h' hQ
theorem zY3 {kk:Value→K} (h:∀ u,G dl n ((d,u)::σ) (kk u) (Dx P ops Q S ds (i::done) t)) (hi:ops[i]? = some o:=by rfl) (hd:o.dst = some d:=by rfl) (hw:wants ops σ o = some true:=by rfl) (hp:WY P σ o k kk:=by exact zb8 rfl rfl rfl) (hK:okK ops S ds done i:=by exact zE9)
  (hn:Nat.ble (d + 1) n = true:=by rfl) (nd:zBQ o.op = false:=by rfl):G dl n σ k (Ox P ops Q S ds done i 0 t):=fun a w hs hk=>by
 obtain ⟨y,args,hp,hc⟩:=hp w hk
 refine zDW hs hi hw fun hQ=>(zQ5 hs nd hp hc fun v w1 h'=>⟨hK.keep w w1,?_⟩)
 rw [hd,zDX (m:=0)]; exact h v _ w1 (hs.put (Nat.le_of_ble_eq_true hn) _) h' hQ
theorem zB7 (h:∀ x,G dl n ((d,vx x)::σ) (Al S (k' x)) (Dx P ops Q S ds (i::done) t)) (hi:ops[i]? = some o:=by rfl) (hd:o.dst = some d:=by rfl) (hw:wants ops σ o = some true:=by rfl) (hp:WE P σ o k vx (fun x=>Sv S (k' x)):=by exact zHe)
  (hn:Nat.ble (d + 1) n = true:=by rfl) (nd:zBQ o.op = false:=by rfl):G dl n σ (Al S k) (Ox P ops Q S ds done i 1 t):=fun a w hs ⟨_,hk⟩=>by
 obtain ⟨x,w',hp,hS,h'⟩:=hp w hk
 refine zDW hs hi hw fun hQ=>(zCo (r:=none) hs nd hp ⟨fun _ _ _=>hS,?_⟩)
 rw [hd,zDX (m:=0)]; exact h x _ w' (hs.put (Nat.le_of_ble_eq_true hn) _) ⟨hS,h'⟩ hQ
theorem zPg (h:∀ x,G dl n σ (Al S (k' x)) (Dx P ops Q S ds (i::done) t)) (hi:ops[i]? = some o:=by rfl) (hd:o.dst = none:=by rfl) (hw:wants ops σ o = some true:=by rfl) (hp:WE P σ o k vx (fun x=>Sv S (k' x)):=by exact zHe)
  (nd:zBQ o.op = false:=by rfl):G dl n σ (Al S k) (Ox P ops Q S ds done i 1 t):=fun a w hs ⟨_,hk⟩=>by
 obtain ⟨x,w',hp,hS,h'⟩:=hp w hk
 refine zDW hs hi hw fun hQ=>(zCo (r:=none) hs nd hp ⟨fun _ _ _=>hS,?_⟩)
 rw [hd,zDX (m:=0)]; exact h x _ w' hs ⟨hS,h'⟩ hQ
theorem zJK (h:G dl n σ (Al S k1) (Dx P ops Q S ds (i::done) t)) (hi:ops[i]? = some o:=by rfl) (hd:o.dst = none:=by rfl) (hw:wants ops σ o = some true:=by rfl) (hp:WK P σ o k (Sv S k1):=by exact zPE)
  (nd:zBQ o.op = false:=by rfl):G dl n σ (Al S k) (Ox P ops Q S ds done i 1 t):=fun a w hs ⟨_,hk⟩=>by
 obtain ⟨w',hp,hS,h'⟩:=hp w hk
 refine zDW hs hi hw fun hQ=>(zPF (r:=none) hs nd hp ⟨fun _ _ _=>hS,?_⟩)
 rw [hd,zDX (m:=0)]; exact h _ w' hs ⟨hS,h'⟩ hQ
def SvA (S:World→Prop) (kk:Value→K) (kS:Value→K):Prop:=∀ u w,kk u w→S w∧kS u w
theorem zb9 {v0:Value} {k:K}:SvA S (jD v0 (Sv S k)) (jD v0 k):=fun _ _ ⟨h,hS,hk⟩=>⟨hS,h,hk⟩
theorem zcA {α:Type} {c:α→Value} {k:α→K}:SvA S (yO c fun x=>Sv S (k x)) (yO c k):=fun _ _ ⟨x,h,hS,hk⟩=>⟨hS,x,h,hk⟩
theorem zaY {α β:Type} {c:α→β→Value} {k:α→β→K}:SvA S (zAQ c fun x y=>Sv S (k x y)) (zAQ c k):=fun _ _ ⟨x,y,h,hS,hk⟩=>⟨hS,x,y,h,hk⟩
theorem zcB {α β γ:Type} {c:α→β→γ→Value} {k:α→β→γ→K}:SvA S (zDT c fun x y z=>Sv S (k x y z)) (zDT c k):=fun _ _ ⟨x,y,z,h,hS,hk⟩=>⟨hS,x,y,z,h,hk⟩
theorem zT4 {kk kS:Value→K} (h:∀ u,G dl n ((d,u)::σ) (Al S (kS u)) (Dx P ops Q S ds (i::done) t)) (hi:ops[i]? = some o:=by rfl) (hd:o.dst = some d:=by rfl) (hw:wants ops σ o = some true:=by rfl) (hp:WC P σ o k kk:=by exact zJA)
  (hS:SvA S kk kS:=by first | exact zcA | exact zb9 | exact zaY | exact zcB) (hn:Nat.ble (d + 1) n = true:=by rfl) (nd:zBQ o.op = false:=by rfl):G dl n σ (Al S k) (Ox P ops Q S ds done i 1 t):=fun a w hs ⟨_,hk⟩=>by
 obtain ⟨f,args,w',hp,hc⟩:=hp w hk
 refine zDW hs hi hw fun hQ=>(zJC (r:=none) hs nd hp hc fun v w1 h'=>⟨fun _ _ _=>(hS v w1 h').1,?_⟩)
 rw [hd,zDX (m:=0)]; exact h v _ w1 (hs.put (Nat.le_of_ble_eq_true hn) _) (hS v w1 h') hQ
theorem zB8 (h:∀ x,G dl n ((d,vx x)::σ) (k' x) (Dx P ops Q S ds (i::done) t)) (hi:ops[i]? = some o:=by rfl) (hd:o.dst = some d:=by rfl) (hw:wants ops σ o = some true:=by rfl) (hp:WR P σ o k vx k':=by exact zHd)
  (hn:Nat.ble (d + 1) n = true:=by rfl) (nd:zBQ o.op = false:=by rfl):G dl n σ k (Ox P ops Q S ds done i 2 t):=fun a w hs hk=>by
 obtain ⟨x,hp,h'⟩:=hp w hk
 refine zDW hs hi hw fun hQ=>(zCo (r:=none) hs nd hp ⟨fun _ _ h=>h,?_⟩)
 rw [hd,zDX (m:=0)]; exact h x _ w (hs.put (Nat.le_of_ble_eq_true hn) _) h' hQ
theorem zAZ (h:∀ x,G dl n ((d,vx x)::σ) (Al S (k' x)) (Dx P ops Q S ds (i::done) t)) (hi:ops[i]? = some o:=by rfl) (hd:o.dst = some d:=by rfl) (hw:wants ops σ o = some true:=by rfl) (hp:WR P σ o k vx k':=by exact zHd)
  (hn:Nat.ble (d + 1) n = true:=by rfl) (nd:zBQ o.op = false:=by rfl):G dl n σ (Al S k) (Ox P ops Q S ds done i 2 t):=fun a w hs ⟨hS,hk⟩=>by
 obtain ⟨x,hp,h'⟩:=hp w hk
 refine zDW hs hi hw fun hQ=>(zCo (r:=none) hs nd hp ⟨fun _ _ h=>h,?_⟩)
 rw [hd,zDX (m:=0)]; exact h x _ w (hs.put (Nat.le_of_ble_eq_true hn) _) ⟨hS,h'⟩ hQ
end
variable {k0:K} {id:Nat}
theorem zJL (h:G dl n σ k0 (Dx P l.toArray Q Any ds [] t)) (hh:DH id 0 ds t:=by assumption) (hQ:zEj Q:=by exact zIh) [hm:MX P]:G dl n σ (Dr k0) (Cx none P (.region id l.toArray true) Q):=fun a w hs ⟨w1,hw,hk⟩=>by
 subst hw
 have h1:=h a _ hs hk hQ
 refine wpIn_region_any hm.h (zEp (S:=Any) (ds:=ds) _ _ _ _ ?_)
 rw [zPV]; exact h1
theorem zJM (h:∀ w1,G dl n σ (Al (Is w1) k0) (Dx P l.toArray Q (Is w1) ds [] t)) (hh:DH id 1 ds t:=by assumption) (hQ:zEj Q:=by exact zIh) [hm:MX P]:G dl n σ (Dr k0) (Cx none P (.region id l.toArray true) Q):=fun a w hs ⟨w1,hw,hk⟩=>by
 subst hw
 have h1:=h _ a _ hs ⟨Is.intro _,hk⟩ hQ
 refine wpIn_region_any hm.h (zEp (S:=Is { w with drawn:=w.drawn + 1 }) (ds:=ds) _ _ _ _ ?_)
 rw [zPV]; exact h1
theorem zJN {kS:(World→Prop)→K} (h:∀ S,G dl n σ (Al S (kS S)) (Dx P l.toArray Q S ds [] t)) (hh:DH id 2 ds t:=by assumption) (hQ:zEj Q:=by exact zIh) [hm:MX P]:G dl n σ (Dr (yh kS)) (Cx none P (.region id l.toArray true) Q):=fun a w hs ⟨w1,hw,S,hS,hk⟩=>by
 subst hw
 have h1:=h S a _ hs ⟨hS,hk⟩ hQ
 refine wpIn_region_any hm.h (zEp (S:=S) (ds:=ds) _ _ _ _ ?_)
 rw [zPV]; exact h1
def Sx (P:Program) (ops:Array Oper) (Q:Exit→Act→World→Prop) (l:List Oper):Act→World→Prop:=fun a w=>wpStill P ops w (fun a'=>Q .normal a' w) l a
theorem zJO (h:G [] n σ k0 (Sx P l.toArray Q l)) [hm:MX P] (hB:Region.lexB .any l.toArray = true:=by as_aux_lemma=>kernel_rfl):G [] n σ (Dr k0) (Cx none P (.region id l.toArray true) Q):=fun a w hs ⟨w1,hw,hk⟩=>by
 refine wpIn_wide.2 (zYd hm.h hB hw (h a w1 hs hk))
theorem zAr {d:Nat} (h:G [] n ((d,v)::σ) k (Sx P ops Q l)) (hd:o.dst = some d:=by rfl) (hw:wants ops σ o = some true:=by rfl) (hp:Pure P σ o v:=by exact zPA) (hn:Nat.ble (d + 1) n = true:=by rfl):G [] n σ k (Sx P ops Q (o::l)):=fun a w hs hk=>
 zZ3 hs.nil hw (zao hs.nil rfl hd (Nat.le_of_ble_eq_true hn) hp fun a h'=>h a w h'.D hk)
theorem zT5 {d:Nat} (h:G [] n ((d,undef)::σ) k (Sx P ops Q l)) (hd:o.dst = some d:=by rfl) (hw:wants ops σ o = some false:=by rfl) (hn:Nat.ble (d + 1) n = true:=by rfl):G [] n σ k (Sx P ops Q (o::l)):=fun a w hs hk=>
 zc4 hs.nil hw hd (Nat.le_of_ble_eq_true hn) fun a h'=>h a w h'.D hk
section
variable {α:Type} {vx:α→Value} {k':α→K} {d:Nat}
theorem zaZ (hr:WR P σ o k vx k') (h:∀ x,G [] n ((d,vx x)::σ) (k' x) (Sx P ops Q l)) (hd:o.dst = some d) (hw:wants ops σ o = some true) (hn:Nat.ble (d + 1) n = true):G [] n σ k (Sx P ops Q (o::l)):=fun a w hs hk=>by
 obtain ⟨x,hp,h'⟩:=hr w hk
 exact zZ3 hs.nil hw (zZ2 hs.nil rfl hd (Nat.le_of_ble_eq_true hn) hp fun a hs'=>h x a w hs'.D h')
theorem uX (h:∀ x,G [] n ((d,vx x)::σ) (k' x) (Sx P ops Q l)) (hd:o.dst = some d:=by rfl) (hw:wants ops σ o = some true:=by rfl) (hp:WP P σ o k vx k':=by exact zLU) (hn:Nat.ble (d + 1) n = true:=by rfl):G [] n σ k (Sx P ops Q (o::l)):=zaZ hp.wr h hd hw hn
theorem zB9 (h:∀ x,G [] n ((d,vx x)::σ) (k' x) (Sx P ops Q l)) (hd:o.dst = some d:=by rfl) (hw:wants ops σ o = some true:=by rfl) (hp:WR P σ o k vx k':=by exact zHd) (hn:Nat.ble (d + 1) n = true:=by rfl):G [] n σ k (Sx P ops Q (o::l)):=zaZ hp h hd hw hn
end
theorem zPh {b:Bool} {x y:K} (h1:b = true→G dl n σ x (Sx P ops Q (o::l))) (h2:b = false→G dl n σ y (Sx P ops Q (o::l))) (hg:gslot ops σ o = some (.bool b):=by rfl):G dl n σ (Ite b x y) (Sx P ops Q (o::l)):=fun a w hs hk=>by
 cases b
 ·exact h2 rfl a w hs (hk.2 rfl)
 ·exact h1 rfl a w hs (hk.1 rfl)
theorem zPi (h:G [] n σ k (Ex Q .normal)):G [] n σ k (Sx P ops Q []):=fun a w hs hk=>h a w hs hk
end
end
section
open Go
def zRB:Exit→Code
 | .exit i=>.exit i
 | _=>.ret
def zMM (l:Nat) (r:Loop) (k:K):K:=fun w=>w.heap[l]? = some (.loop r)∧k (w.putObj l (.loop { r with state:=.busy }))
def zRC (l:Nat) (r:Loop) (J:Exit) (k:K):K:=fun w=>w.heap[l]? = some (.loop r)∧k (w.putObj l (.loop { r with state:=.done,pending:=some (zRB J) }))
def YN (kN kJ:K):Value→K:=fun v w=>(v = .bool true∧kN w)∨(v = .bool false∧kJ w)
def jO {α:Type} (P:Program) (fv:Value) (J:Exit) (cX:α→List Value) (body:(K→K)→K→K→α→K) (after afterJ:Nat→K):K:=fun w=>
 ∃ g cs,fv = .func (.func g) #[] cs∧callable P g = true ∧
  ∀ (r:Loop) (w1:World),r.state = .ready→r.pending = none→r.defers = w.heap.size→w1 = (w.alloc (.deferred (some []))).alloc (.loop r) →
   (∀ (x:α) (kN kJ:K) (W:World),W.heap[w.heap.size + 1]? = some (.loop r) →
    body (zMM (w.heap.size + 1) r) (zO7 (w.heap.size + 1) { r with state:=.busy } kN) (zRC (w.heap.size + 1) { r with state:=.busy } J kJ) x W →
    YieldAt Fence.wide 0 P (w.heap.size + 1) (cX x).toArray W (Ret (YN kN kJ))) →
   Calls P g (yv (w.heap.size + 1)::cs.toList).toArray w1 (Ret fun _ w3=>
    (w3.heap[w.heap.size + 1]? = some (.loop r)∧after w.heap.size (w3.putObj (w.heap.size + 1) (.loop { r with state:=.exhausted }))) ∨
    (w3.heap[w.heap.size + 1]? = some (.loop { r with state:=.done,pending:=some (zRB J) })∧afterJ w.heap.size (w3.putObj (w.heap.size + 1) (.loop { r with state:=.exhausted,pending:=some (zRB J) }))))
def FQ:Exit→Act→World→Prop:=fun _ _ _=>False
def RQ (J:Exit) (kN kJ:K):Exit→Act→World→Prop:=fun e _ w=>match e with
 | .normal=>kN w
 | .ret=>J = .ret∧kJ w
 | .exit i=>J = .exit i∧kJ w
 | _=>False
def Bx (kb k:K) (r:Option Nat) (P:Program) (body:Code) (Q:Exit→Act→World→Prop):Act→World→Prop:=fun a w=>k w∧∀ w,kb w→body.wpIn (fe r) 0 P Q a w
def Bj (BG:K→K) (r:Option Nat) (P:Program) (body:Code) (Q:Exit→Act→World→Prop):Act→World→Prop:=fun a w=>∃ k,BG k w∧∀ w,k w→body.wpIn (fe r) 0 P Q a w
def za3:List Nat→List Value→List (Nat×Value)→List (Nat×Value)
 | p::ps,v::vs,σ=>za3 ps vs ((p,v)::σ)
 | _,_,σ=>σ
section
variable {P:Program} {dl:List Deferred} {n:Nat} {σ τ:List (Nat×Value)} {k kb:K} {r:Option Nat} {Q:Exit→Act→World→Prop} {body assign:Code} {a:Act} {w:World}
theorem zY4 (h:G dl n σ kb (Cx r P body Q)):G dl n σ k (Bx kb k r P body Q):=fun a _ hs hk=>⟨hk,fun w hk=>h a w hs hk⟩
theorem zY5 {BG:K→K} (h:G dl n σ k (Cx r P body Q)):G dl n σ (BG k) (Bj BG r P body Q):=fun a w hs hk=>⟨k,hk,fun w hk=>h a w hs hk⟩
theorem zY6 {J:Exit} {kJ:K}:G dl n σ k (Ex (RQ J k kJ) .normal):=fun _ _ _ hk=>hk
theorem zY7 {kN:K}:G dl n σ k (Ex (RQ .ret kN k) .ret):=fun _ _ _ hk=>⟨rfl,hk⟩
theorem zY8 {kN:K} {i:Nat}:G dl n σ k (Ex (RQ (.exit i) kN k) (.exit i)):=fun _ _ _ hk=>⟨rfl,hk⟩
theorem zOB:∀ (ps:List Nat) (vs:List Value) (σ:List (Nat×Value)) (t:Array Value),(ps.all fun p=>Nat.ble (p + 1) n) = true→Slots { tmps:=t,defers:=[] } n σ →
  Slots { tmps:=(ps.zip vs).foldl (fun t p=>t.setIfInBounds p.1 p.2) t,defers:=[] } n (za3 ps vs σ)
 | [],_,_,_,_,h=>h
 | p::ps,[],_,_,_,h=>h
 | p::ps,v::vs,σ,t,hp,h=>by
  simp only [List.all_cons,Bool.and_eq_true] at hp
  have h1:=h.put (Nat.le_of_ble_eq_true hp.1) v
  exact zOB ps vs _ _ hp.2 h1
theorem zHk {α:Type} {g:Operand} {ps:List Tmp} {fv:Value} {J:Exit} {cX:α→List Value} {bk:(K→K)→K→K→α→K} {after afterJ:Nat→K}
  (h1:∀ (l:Nat) (BG:K→K) (KN KJ:K) (x:α),G [] n (za3 ps (cX x) σ) (bk BG KN KJ x) (Cx (some l) P assign (Exit.then (Bj BG (some l) P body (RQ J KN KJ)) FQ)))
  (h2:∀ D,G (zFh D) n σ (after D) (Ex Q .normal)) (h3:∀ D,G (zFh D) n σ (afterJ D) (Ex Q J)) (hg:ev σ g = some fv:=by rfl) (hp:(ps.all fun p=>Nat.ble (p + 1) n) = true:=by rfl) (hlen:∀ x,(cX x).length = ps.length:=by exact fun _=>rfl) (hJ:J = .ret∨∃ i,J = .exit i:=by first | exact .inl rfl | exact .inr ⟨_,rfl⟩) :
  G [] n σ (jO P fv J cX bk after afterJ) (Cx none P (.rangeFunc g ps.toArray assign body) Q):=fun a w hs ⟨gf,cs,hfv,hcb,h⟩=>by
 show (Code.rangeFunc g ps.toArray assign body).wpIn Fence.wide 0 P Q a w
 refine wpIn_rangeFunc fun fn hfn=>?_
 obtain ⟨r,hr⟩:∃ r:Loop,r = { state:=.ready,pending:=none,fn,tmps:=a.tmps,params:=ps.toArray,assign,body,defers:=w.heap.size }:=⟨_,rfl⟩
 have hh:=h r _ (by rw [hr]) (by rw [hr]) (by rw [hr]) rfl
 refine ⟨w.heap.size + 1,zFh w.heap.size,(w.alloc (.deferred (some []))).alloc (.loop r),{ target:=.fn (.func gf) cs,args:=#[.func (.yield (w.heap.size + 1)) #[] #[]] },(w.alloc (.deferred (some []))).alloc (.loop r),gf,
  (yv (w.heap.size + 1)::cs.toList).toArray,(w.alloc (.deferred (some []))).alloc (.loop r),?_,?_,fun _ _=>trivial,?_,(fun h=>by cases h),?_⟩
 ·rw [hr]; exact run_enterLoop_outer _ _ _ _ _
 ·have he:a.eval g = .func (.func gf) #[] cs:=by rw [← hfv]; exact hs.1.ev hg
  simp only [resolve,he]
  simp [go_sem]
 ·simp [invoke,zDV hcb]
 ·refine zGA zHc rfl ((hh ?_).mono fun e w3 he=>?_)
  ·intro x kN kJ W hl hb
   refine ⟨fn,_,assign,body,(run_yield (P:=P) (args:=(cX x).toArray) hl (by rw [hr]; simp [hlen])).trans (by rw [hr]),?_⟩
   refine roundIn_of_wpIn trivial ?_
   have hs1:=zOB ps (cX x) σ a.tmps hp (show Slots { tmps:=a.tmps,defers:=[] } n σ from by have:=hs.1; exact this)
   have h4:=h1 (w.heap.size + 1) _ _ _ x { tmps:=(ps.zip (cX x)).foldl (fun t p=>t.setIfInBounds p.1 p.2) a.tmps,defers:=[] } W ⟨hs1,rfl⟩ hb
   have h5:assign.wpIn (Fence.wide.inRound (w.heap.size + 1)) 0 P (Exit.then (Bj (zMM (w.heap.size + 1) r) (some (w.heap.size + 1)) P body (RQ J (zO7 (w.heap.size + 1) { r with state:=.busy } kN) (zRC (w.heap.size + 1) { r with state:=.busy } J kJ))) FQ)
     { tmps:=(ps.toArray.zip (cX x).toArray).foldl (fun t p=>t.setIfInBounds p.1 p.2) a.tmps,defers:=[] } W:=by
    have:(ps.toArray.zip (cX x).toArray).foldl (fun t p=>t.setIfInBounds p.1 p.2) a.tmps = (ps.zip (cX x)).foldl (fun t p=>t.setIfInBounds p.1 p.2) a.tmps:=by simp
    rw [this]; exact h4
   refine wpIn_mono h5 fun e a2 w2 hq=>?_
   cases e with
   | normal=>
    obtain ⟨kk,hk,hbd⟩:=hq
    refine ⟨_,run_beginRound hk.1 (by rw [hr]),?_⟩
    refine wpIn_mono (hbd _ hk.2) fun e a3 w3 hq=>?_
    cases e with
    | normal=>
     obtain ⟨h3,h4⟩:=hq
     exact ⟨_,_,run_endRound none h3,.inl ⟨rfl,h4⟩⟩
    | ret=>
     obtain ⟨rfl,h3,h4⟩:=hq
     exact ⟨_,_,run_endRound (some .ret) h3,.inr ⟨rfl,h4⟩⟩
    | exit i=>
     obtain ⟨rfl,h3,h4⟩:=hq
     exact ⟨_,_,run_endRound (some (.exit i)) h3,.inr ⟨rfl,h4⟩⟩
    | goto t=>exact hq.elim
    | panic c=>exact hq.elim
    | outgrown=>exact hq.elim
   | _=>exact hq.elim
  ·cases e with
   | returned v=>
    have hn:r.pending = none:=by rw [hr]
    rcases he with ⟨h3',h4⟩ | ⟨h3',h4⟩
    ·refine ⟨_,_,run_endLoop h3' (by rw [hr]; simp),?_⟩
     have h5:=h2 _ { a with defers:=zFh w.heap.size++a.defers } _ ⟨hs.1,by simp [hs.2,zFh]⟩ h4
     rw [hn] at h5 ⊢
     exact h5
    ·refine ⟨_,_,run_endLoop h3' (by simp),?_⟩
     have h5:=h3 _ { a with defers:=zFh w.heap.size++a.defers } _ ⟨hs.1,by simp [hs.2,zFh]⟩ h4
     rcases hJ with rfl | ⟨i,rfl⟩
     ·exact wpIn_ret h5
     ·exact wpIn_exit h5
   | panicked c=>exact he.elim
   | outgrown=>exact he.elim
theorem zHl {α:Type} {g:Operand} {p:Tmp} {fv:Value} {cX:α→Value} {bk:K→α→K} {after:Nat→K}
  (h1:∀ (l:Nat) (KN:K) (x:α) (k1:K),G [] n ((p,cX x)::σ) k1 (Cx (some l) P assign (Exit.then (Bx (bk KN x) k1 (some l) P body (RQ .normal KN Dead)) FQ)))
  (h2:∀ D,G (zFh D) n σ (after D) (Ex Q .normal)) (hg:ev σ g = some fv:=by rfl) (hp:Nat.ble (p + 1) n = true:=by rfl) :
  G [] n σ (jg P fv cX bk after) (Cx none P (.rangeFunc g #[p] assign body) Q):=fun a w hs ⟨gf,cs,hfv,hcb,h⟩=>by
 show (Code.rangeFunc g #[p] assign body).wpIn Fence.wide 0 P Q a w
 refine wpIn_rangeFunc fun fn hfn=>?_
 obtain ⟨r,hr⟩:∃ r:Loop,r = { state:=.ready,pending:=none,fn,tmps:=a.tmps,params:=#[p],assign,body,defers:=w.heap.size }:=⟨_,rfl⟩
 have hh:=h r _ (by rw [hr]) (by rw [hr]) (by rw [hr]) rfl
 refine ⟨w.heap.size + 1,zFh w.heap.size,(w.alloc (.deferred (some []))).alloc (.loop r),{ target:=.fn (.func gf) cs,args:=#[.func (.yield (w.heap.size + 1)) #[] #[]] },(w.alloc (.deferred (some []))).alloc (.loop r),gf,
  (yv (w.heap.size + 1)::cs.toList).toArray,(w.alloc (.deferred (some []))).alloc (.loop r),?_,?_,fun _ _=>trivial,?_,(fun h=>by cases h),?_⟩
 ·rw [hr]; exact run_enterLoop_outer _ _ _ _ _
 ·have he:a.eval g = .func (.func gf) #[] cs:=by rw [← hfv]; exact hs.1.ev hg
  simp only [resolve,he]
  simp [go_sem]
 ·simp [invoke,zDV hcb]
 ·refine zGA zHc rfl ((hh ?_).mono fun e w3 he=>?_)
  ·intro x kN W hl hb
   refine ⟨fn,_,assign,body,(run_yield (P:=P) (args:=#[cX x]) hl (by rw [hr]; rfl)).trans (by rw [hr]),?_⟩
   refine roundIn_of_wpIn trivial ?_
   have hs1:jo [] { tmps:=a.tmps.setIfInBounds p (cX x),defers:=[] } n ((p,cX x)::σ):=by
    have:=hs.1.put (Nat.le_of_ble_eq_true hp) (cX x)
    exact ⟨this,rfl⟩
   have h4:=h1 (w.heap.size + 1) (zO7 (w.heap.size + 1) { r with state:=.busy } kN) x (fun w=>w = W) _ W hs1 rfl
   refine wpIn_mono (show assign.wpIn (Fence.wide.inRound (w.heap.size + 1)) 0 P _ _ W from by simp only [Cx] at h4; simpa using h4) fun e a2 w2 hq=>?_
   cases e with
   | normal=>
    obtain ⟨rfl,hbd⟩:=hq
    refine ⟨_,run_beginRound hl (by rw [hr]),?_⟩
    refine wpIn_mono (hbd _ hb) fun e a3 w3 hq=>?_
    cases e with
    | normal=>
     obtain ⟨h3,h4⟩:=hq
     exact ⟨_,_,run_endRound none h3,rfl,h4⟩
    | ret=>exact absurd hq.1 (by simp)
    | exit i=>exact absurd hq.1 (by simp)
    | _=>exact hq.elim
   | _=>exact hq.elim
  ·cases e with
   | returned v=>
    have hn:r.pending = none:=by rw [hr]
    obtain ⟨h3,h4⟩:=he
    refine ⟨_,_,run_endLoop h3 (by rw [hr]; simp),?_⟩
    have h5:=h2 _ { a with defers:=zFh w.heap.size++a.defers } _ ⟨hs.1,by simp [hs.2,zFh]⟩ h4
    rw [hn] at h5 ⊢
    exact h5
   | panicked c=>exact he.elim
   | outgrown=>exact he.elim
end
end
section
open Go
def opb:Builtin→Nat
 | .len=>20
 | .max | .min=>21
 | _=>22
def opc:Op→Nat
 | .move _ | .assign _=>0
 | .pick _ _ _=>1
 | .nilCheck _=>2
 | .fieldAddr _ _ _=>3
 | .extract _ _=>4
 | .makeFunc _ _ _=>5
 | .unOp o _ _=>match o with
  | .not=>6
  | _=>7
 | .binOp o _ _ _ _=>match o with
  | .add | .sub | .mul | .and | .or | .xor=>8
  | .shl | .shr | .quo | .rem | .andNot=>9
  | _=>10
 | .convert _ _ _=>11
 | .build _ _=>12
 | .load _ _=>13
 | .lookup _ _ _ _=>14
 | .alloc _ | .box _ _=>15
 | .buildSlice _ _ _=>16
 | .store _ _ _=>17
 | .mapUpdate _ _ _ _=>18
 | .call c=>match c.callee with
  | .builtin b=>opb b
  | _=>19
 | .makeMap _ _ | .makeSlice _ _ _=>23
 | .range _ _ | .next _ _ | .entry _=>24
 | .makeInterface _ _=>25
 | .field _ _ _=>26
 | .index _ _ _ | .indexAddr _ _ _=>27
 | .slice _ _ _ _ _=>28
 | _=>99
def opi (ops:Array Oper) (i:Nat):Nat:=match ops[i]? with
 | some o=>opc o.op
 | none=>98
section
variable {P:Program} {dl:List Deferred} {n:Nat} {σ:List (Nat×Value)} {k:K} {r:Option Nat} {ops:Array Oper} {Q:Exit→Act→World→Prop} {l:List Oper} {o:Oper} {S:World→Prop} {ds done is:List Nat} {i tag:Nat} {t:Scr} {c x y:Code} {e:Exit} {kk:Value→K} {u:Operand}
theorem zT6 (h:G dl n σ k (Tx r P ops Q l)):G dl n σ k (Tx r P ops Q l):=h
theorem zT7 (h:G dl n σ k (Cx r P c Q)):G dl n σ k (Cx r P c Q):=h
theorem zT8 (h:G dl n σ k (Ex Q e)):G dl n σ k (Ex Q e):=h
theorem zT9 {rs:List ResultVar} {vs:List Value} (h:G dl n σ k (Rx P kk rs vs)):G dl n σ k (Rx P kk rs vs):=h
theorem zUA {q:K} (h:G dl n σ k (Fx q)):G dl n σ k (Fx q):=h
theorem zUB (h:G dl n σ k (Dx P ops Q S ds done t)):G dl n σ k (Dx P ops Q S ds done t):=h
theorem zUC (h:G dl n σ k (Ox P ops Q S ds done i tag t)):G dl n σ k (Ox P ops Q S ds done i tag t):=h
theorem zUD (h:G dl n σ k (Sx P ops Q l)):G dl n σ k (Sx P ops Q l):=h
theorem zUE {α:Type} {S:α→List (Nat×Value)} {X:α→K} (h:G dl n σ k (Lx dl n S X)):G dl n σ k (Lx dl n S X):=h
theorem zPj (h:G dl n σ k (Cx r P (.seq x y) Q)):G dl n σ k (Cx r P (.seq x y) Q):=h
theorem zLg (h:G dl n σ k (Cx r P (.cond u x y) Q)):G dl n σ k (Cx r P (.cond u x y) Q):=h
theorem zLh (h:G dl n σ k (Cx r P (.region i ops true) Q)):G dl n σ k (Cx r P (.region i ops true) Q):=h
theorem qP (c:Nat) (h:G dl n σ k (Tx r P ops Q (o::l))) (hc:opc o.op = c):G dl n σ k (Tx r P ops Q (o::l)):=h
theorem vL (c:Nat) (h:G dl n σ k (Sx P ops Q (o::l))) (hc:opc o.op = c):G dl n σ k (Sx P ops Q (o::l)):=h
theorem vM (c:Nat) (h:G dl n σ k (Dx P ops Q S ds done (.s (i::is) t))) (hc:opi ops i = c):G dl n σ k (Dx P ops Q S ds done (.s (i::is) t)):=h
theorem j4 (c:Nat) (h:G dl n σ k (Ox P ops Q S ds done i tag t)) (hc:opi ops i = c):G dl n σ k (Ox P ops Q S ds done i tag t):=h
theorem zUF (h:G dl n σ k (Tx r P ops Q (o::l))) (hc:o.guard.isSome = true):G dl n σ k (Tx r P ops Q (o::l)):=h
theorem zUG (h:G dl n σ k (Sx P ops Q (o::l))) (hc:o.guard.isSome = true):G dl n σ k (Sx P ops Q (o::l)):=h
theorem zPk (h:G dl n σ k (Dx P ops Q S ds done (.s (i::is) t))) (hc:(ops[i]?).map (fun o=>o.guard.isSome) = some true):G dl n σ k (Dx P ops Q S ds done (.s (i::is) t)):=h
theorem zHm {b:Bool} {kx ky:K} (h1:G dl n σ kx (Cx r P x Q)) (h2:G dl n σ ky (Cx r P y Q)) (he:ev σ u = some (.bool b)):G dl n σ (Ite b kx ky) (Cx r P (.cond u x y) Q):=zYu h1 h2 he
theorem zPl {d:Nat} {u v0:Value} {X1:Act→World→Prop} (h:G dl n ((d,v0)::σ) (Al S k) X1):G dl n ((d,u)::σ) (Al S (jD v0 k u)) X1:=fun a w hs ⟨hS,hu,hk⟩=>h a w (hu ▸ hs) ⟨hS,hk⟩
theorem zGW {v:Value} (h:Pure P σ o v:=by first | exact zWB rfl rfl | exact zQj rfl rfl):Pure P σ o v:=h
theorem zGX {v:Value} (h:Pure P σ o v:=by first | exact zQk rfl rfl rfl | exact zQl rfl rfl rfl | exact zQm rfl rfl rfl rfl):Pure P σ o v:=h
theorem zGY {v:Value} (h:Pure P σ o v:=by first | exact zZ4 rfl rfl | exact zWC rfl rfl):Pure P σ o v:=h
theorem zGZ {v:Value} (h:Pure P σ o v:=by first | exact zI7 rfl rfl | exact zKr rfl rfl):Pure P σ o v:=h
theorem zGa {v:Value} (h:Pure P σ o v:=by exact zN6 rfl rfl rfl):Pure P σ o v:=h
theorem zGb {v:Value} (h:Pure P σ o v:=by exact zMA rfl rfl rfl):Pure P σ o v:=h
theorem zGc {v:Value} (h:Pure P σ o v:=by exact zaI rfl rfl):Pure P σ o v:=h
theorem zEZ {v:Value} (h:Pure P σ o v:=by first | exact zbr rfl rfl rfl | exact zbs rfl rfl rfl | exact zbt rfl rfl rfl | exact zbu rfl rfl rfl | exact zbv rfl rfl rfl | exact zbw rfl rfl rfl | exact zaJ rfl rfl rfl | exact zaK rfl rfl rfl | exact zaL rfl rfl rfl | exact zaM rfl rfl rfl | exact zaR rfl rfl rfl | exact zaS rfl rfl rfl | exact zQt rfl rfl rfl | exact zQu rfl rfl rfl | exact zTi rfl rfl rfl | exact zTj rfl rfl rfl | exact zaP rfl rfl rfl | exact zaQ rfl rfl rfl):Pure P σ o v:=h
theorem zEa {v:Value} (h:Pure P σ o v:=by exact zMH rfl rfl):Pure P σ o v:=h
theorem zEb {v:Value} (h:Pure P σ o v:=by exact zTk rfl rfl rfl rfl (by kernel_rfl)):Pure P σ o v:=h
theorem zEc {v:Value} (h:Pure P σ o v:=by first | exact q_len rfl rfl | exact zWO rfl rfl):Pure P σ o v:=h
theorem zEd {v:Value} (h:Pure P σ o v:=by exact zQs rfl rfl):Pure P σ o v:=h
theorem zCe {α:Type} {k:K} {vx:α→Value} {k1:α→K} (h:WP P σ o k vx k1:=by exact zWU rfl rfl):WP P σ o k vx k1:=h
theorem zCf {α:Type} {k:K} {vx:α→Value} {k1:α→K} (h:WP P σ o k vx k1:=by exact zQv (by first | exact zaE rfl rfl | exact zaF rfl rfl)):WP P σ o k vx k1:=h
theorem zCg {α:Type} {k:K} {vx:α→Value} {k1:α→K} (h:WP P σ o k vx k1:=by first | exact zQv (by first | exact zZ5 rfl rfl rfl | exact zZ6 rfl rfl rfl | exact zZ7 rfl rfl rfl | exact zaA rfl rfl rfl | exact zbx rfl rfl rfl | exact zaB rfl rfl rfl) | exact zWS rfl rfl rfl):WP P σ o k vx k1:=h
theorem zCh {α:Type} {k:K} {vx:α→Value} {k1:α→K} (h:WP P σ o k vx k1:=by exact zTl (fun h0=>by first | exact zaC rfl rfl rfl h0 | exact zaD rfl rfl rfl h0 | exact zZ8 rfl rfl rfl h0 | exact zZ9 rfl rfl rfl h0)):WP P σ o k vx k1:=h
theorem zBU {α:Type} {k:K} {vx:α→Value} {k1:α→K} (h:WP P σ o k vx k1:=by exact zWT (zQ4 rfl rfl rfl)):WP P σ o k vx k1:=h
theorem zBV {α:Type} {k:K} {vx:α→Value} {k1:α→K} (h:WP P σ o k vx k1:=by exact zQv (zMI rfl rfl)):WP P σ o k vx k1:=h
theorem zBW {α:Type} {k:K} {vx:α→Value} {k1:α→K} (h:WP P σ o k vx k1:=by first | exact zWV rfl rfl rfl | exact zWT (zN9 rfl rfl)):WP P σ o k vx k1:=h
theorem zBX {α:Type} {k:K} {vx:α→Value} {k1:α→K} (h:WP P σ o k vx k1:=by exact zQv (by first | exact zaG _ rfl rfl rfl | exact zaH _ rfl rfl rfl)):WP P σ o k vx k1:=h
theorem zBY {α:Type} {k:K} {vx:α→Value} {k1:α→K} (h:WP P σ o k vx k1:=by exact zWQ rfl rfl):WP P σ o k vx k1:=h
theorem zBZ {α:Type} {k:K} {vx:α→Value} {k1:α→K} (h:WP P σ o k vx k1:=by first | exact zWP rfl rfl rfl | exact zTn rfl rfl rfl | exact zTm rfl rfl rfl):WP P σ o k vx k1:=h
theorem zBa {α:Type} {k:K} {vx:α→Value} {k1:α→K} (h:WP P σ o k vx k1:=by first | exact zWR rfl rfl (by first | exact rfl | exact ⟨_,rfl⟩) (by first | exact rfl | exact ⟨_,rfl⟩) (by first | exact rfl | exact ⟨_,rfl⟩) rfl | exact zTo rfl rfl (by first | exact rfl | exact ⟨_,rfl⟩) (by first | exact rfl | exact ⟨_,rfl⟩)):WP P σ o k vx k1:=h
theorem zAK {α:Type} {k:K} {vx:α→Value} {k1:α→K} (h:WR P σ o k vx k1:=by exact zA8 (zD1 rfl rfl)):WR P σ o k vx k1:=h
theorem zAL {α:Type} {k:K} {vx:α→Value} {k1:α→K} (h:WR P σ o k vx k1:=by first | exact zaT rfl rfl | exact zWW rfl rfl):WR P σ o k vx k1:=h
theorem zAM {α:Type} {k:K} {vx:α→Value} {k1:α→K} (h:WR P σ o k vx k1:=by exact zA8 (zPD rfl rfl rfl)):WR P σ o k vx k1:=h
theorem zAN {α:Type} {k:K} {vx:α→Value} {k1:α→K} (h:WR P σ o k vx k1:=by exact zA8 (zPC rfl rfl)):WR P σ o k vx k1:=h
theorem zC6 {α:Type} {k:K} {vx:α→Value} {k1:α→K} (h:WE P σ o k vx k1:=by exact zQy (zD1 rfl rfl)):WE P σ o k vx k1:=h
theorem zC7 {α:Type} {k:K} {vx:α→Value} {k1:α→K} (h:WE P σ o k vx k1:=by first | exact zWY rfl rfl rfl | exact zQw rfl rfl):WE P σ o k vx k1:=h
theorem zC8 {α:Type} {k:K} {vx:α→Value} {k1:α→K} (h:WE P σ o k vx k1:=by first | exact zQx rfl rfl rfl rfl (by kernel_rfl) | exact zKt rfl rfl rfl (by kernel_rfl)):WE P σ o k vx k1:=h
theorem jN {α:Type} {k:K} {vx:α→Value} {k1:α→K} (h:WE P σ o k vx k1:=by exact zQy (by first | exact zN7 rfl rfl rfl rfl | exact zTq rfl rfl rfl rfl | exact zN8 rfl rfl rfl rfl | exact zWc rfl rfl rfl | exact zQ1 rfl rfl rfl)):WE P σ o k vx k1:=h
theorem zC9 {α:Type} {k:K} {vx:α→Value} {k1:α→K} (h:WE P σ o k vx k1:=by exact zQy (by first | exact zMK rfl | exact zI8 rfl rfl rfl)):WE P σ o k vx k1:=h
theorem zDA {α:Type} {k:K} {vx:α→Value} {k1:α→K} (h:WE P σ o k vx k1:=by exact zQy (by first | exact zTr rfl rfl rfl | exact zQ2 rfl rfl | exact zQ3 rfl rfl)):WE P σ o k vx k1:=h
theorem zDB {k k1:K} (h:WK P σ o k k1:=by first | exact zaV rfl rfl rfl | exact zWa rfl rfl rfl):WK P σ o k k1:=h
theorem zDC {k k1:K} (h:WK P σ o k k1:=by exact zQz (zI9 rfl rfl rfl rfl)):WK P σ o k k1:=h
theorem zAO {k:K} {kk:Value→K} (h:WC P σ o k kk:=by first | exact zTp rfl rfl rfl rfl | exact zQ0 rfl rfl rfl rfl | exact zaW rfl rfl rfl):WC P σ o k kk:=h
theorem zLi {S:World→Prop} {α:Type} {k:K} {vx:α→Value} {k1:α→K} (h:WS P S σ o k vx k1:=by exact zKs (zD1 rfl rfl)):WS P S σ o k vx k1:=h
theorem zLj {S:World→Prop} {α:Type} {k:K} {vx:α→Value} {k1:α→K} (h:WS P S σ o k vx k1:=by first | exact zaU rfl rfl | exact zWX rfl rfl):WS P S σ o k vx k1:=h
theorem zLk {S:World→Prop} {α:Type} {k:K} {vx:α→Value} {k1:α→K} (h:WS P S σ o k vx k1:=by exact zKs (zPD rfl rfl rfl)):WS P S σ o k vx k1:=h
theorem zLl {S:World→Prop} {α:Type} {k:K} {vx:α→Value} {k1:α→K} (h:WS P S σ o k vx k1:=by exact zKs (zPC rfl rfl)):WS P S σ o k vx k1:=h
end
set_option maxRecDepth 100000 in
theorem zM {P:Program} {f:FuncId} {fn:Func} {c:Code} {args:List Value} {kk:Value→K} {k:K} (n:Nat) {w:World} (hk:k w) (hf:P.funcs[f]? = some fn) (hb:fn.body = some c:=by rfl) (hn:fn.ntmps = n:=by rfl) (hl:Nat.ble args.length n = true:=by rfl)
  (h:G [] n (zQ8 0 args) k (Cx none P c (zBb P fn (Ret kk))):=by
   repeat' first
   | intro _
   | (refine zT6 ?_; first
     | refine zPJ ?_
     | (refine zUF ?_ rfl; first | refine zTs ?_ | refine zPG ?_)
     | (refine qP 0 ?_ rfl; refine zAp (hp:=by exact zGW) ?_)
     | (refine qP 2 ?_ rfl; first | refine zAp (hp:=by exact zGY) ?_ | (refine zGU ?_; intro b hb; subst hb) | (refine zGV ?_; intro g fs cs hf cb; subst hf))
     | (refine qP 3 ?_ rfl; refine zAp (hp:=by exact zGZ) ?_)
     | (refine qP 13 ?_ rfl; refine zA9 (hp:=by exact zAL) ?_)
     | (refine qP 19 ?_ rfl; first | (refine zTt (hp:=by exact zAO) ?_; intro u; first | refine zIA ?_ | refine zH9 ?_ | refine zDP ?_ | refine zIB ?_ | refine zIC ?_ | refine zID ?_) | refine zA9 (hp:=by exact zA8 (zPB rfl rfl rfl)) ?_ | (refine zPI (hp:=by exact zAO) ?_; intro u; first | refine zPK ?_ | refine zQ6 ?_ | refine zQ7 ?_ | skip) | (refine zTu ?_; intro u; first | refine zIA ?_ | refine zH9 ?_ | refine zDP ?_ | refine zIB ?_ | refine zIC ?_ | refine zID ?_))
     | (refine qP 10 ?_ rfl; first | refine zAp (hp:=by exact zEZ) ?_ | refine uV (hp:=by exact zBU) ?_)
     | (refine qP 8 ?_ rfl; refine uV (hp:=by exact zCg) ?_)
     | (refine qP 20 ?_ rfl; first | refine zAp (hp:=by exact zEc) ?_ | refine zA9 (hp:=by exact zAM) ?_)
     | (refine qP 27 ?_ rfl; refine uV (hp:=by exact zBZ) ?_)
     | (refine qP 4 ?_ rfl; first | refine zAp (hp:=by exact zGa) ?_ | refine uV (hp:=by exact zCe) ?_)
     | (refine qP 17 ?_ rfl; refine zJD (hp:=by exact zDB) ?_)
     | (refine qP 1 ?_ rfl; refine zAp (hp:=by exact zGX) ?_)
     | (refine qP 6 ?_ rfl; refine zAp (hp:=by exact zGc) ?_)
     | (refine qP 15 ?_ rfl; refine zBs (hp:=by exact zC7) ?_)
     | (refine qP 16 ?_ rfl; refine zBs (hp:=by exact zC8) ?_)
     | (refine qP 22 ?_ rfl; first | refine zBs (hp:=by exact jN) ?_ | refine zPH (hp:=by exact jN) ?_)
     | (refine qP 28 ?_ rfl; refine uV (hp:=by exact zBa) ?_)
     | (refine qP 11 ?_ rfl; first | refine uV (hp:=by exact zBV) ?_ | refine zAp (hp:=by exact zEa) ?_ | refine zA9 (hp:=by exact zAK) ?_ | refine zBs (hp:=by exact zC6) ?_)
     | (refine qP 26 ?_ rfl; first | refine uV (hp:=by exact zBY) ?_ | refine zAp (hp:=by exact zEd) ?_)
     | (refine qP 12 ?_ rfl; first | refine uV (hp:=by exact zBW) ?_ | refine zAp (hp:=by exact zEb) ?_)
     | (refine qP 5 ?_ rfl; refine zAp (hp:=by exact zGb) ?_)
     | (refine qP 7 ?_ rfl; refine uV (hp:=by exact zCf) ?_)
     | (refine qP 9 ?_ rfl; refine uV (hp:=by exact zCh) ?_)
     | (refine qP 14 ?_ rfl; first | refine zA9 (hp:=by exact zA8 (yI rfl rfl rfl)) ?_ | (refine zA9 (hp:=by exact zBI (yI rfl rfl rfl)) ?_; intro u; refine zDP ?_))
     | (refine qP 18 ?_ rfl; refine zJD (hp:=by exact zDC) ?_)
     | (refine qP 21 ?_ rfl; refine uV (hp:=by exact zBX) ?_)
     | (refine qP 23 ?_ rfl; refine zBs (hp:=by exact zC9) ?_)
     | (refine qP 24 ?_ rfl; refine zBs (hp:=by exact zDA) ?_)
     | (refine qP 25 ?_ rfl; refine zA9 (hp:=by exact zAN) ?_)
     | (refine zPL ?_ ?_ <;> (intro hb; refine zBT ?_; intro a w hs; try rw [hb] at hs; clear hb; revert hs; revert w; revert a; refine zCd ?_)))
   | (refine zT7 ?_; first
     | refine zPO ?_
     | (refine zPj ?_; first | (refine zLX ?_; (repeat apply zYt); refine And.intro zE8 (And.intro ?_ ?_)) | refine zPM ?_)
     | refine zHm ?_ ?_ rfl
     | refine zLY ?_
     | refine zPN ?_
     | refine zJF ?_
     | refine zLZ ?_
     | refine zLa ?_
     | (refine zLg ?_; first | refine zHg ?_ | refine zHh ?_)
     | (refine zLh ?_; first | refine zJM ?_ | refine zJL ?_ | refine zJN ?_ | refine zJO ?_)
     | refine zJE ?_
     | refine zHl ?_ ?_
     | refine zHk ?_ ?_ ?_
     | refine zAJ ?_)
   | (refine zT8 ?_; first
     | refine zLb ?_
     | refine zHj ?_
     | refine zHi ?_
     | refine zPQ ?_
     | refine zJG ?_
     | refine zJH ?_
     | refine zJI ?_
     | refine zLc ?_
     | refine zSW ?_
     | refine zSX ?_
     | exact zY6
     | exact zY7
     | exact zY8
     | refine zAJ ?_)
   | exact zLV
   | refine zTv ?_
   | (refine zT9 ?_; first
     | refine zPS ?_
     | refine zPT ?_
     | refine zLd ?_
     | refine zJJ ?_)
   | (refine zUA ?_; first
     | exact zYw
     | exact zYv
     | exact zYx
     | exact zYy
     | exact zYz
     | exact zY0)
   | (refine zUB ?_; first
     | refine zPY ?_
     | refine zPZ ?_
     | refine zY1 ?_
     | (refine zLe ?_ ?_ <;> (intro hb; refine zBT ?_; intro a w hs; try rw [hb] at hs; clear hb; revert hs; revert w; revert a; refine zCd ?_))
     | (refine zPa ?_ ?_ <;> (intro hb; refine zBT ?_; intro a w hs; try rw [hb] at hs; clear hb; revert hs; revert w; revert a; refine zCd ?_))
     | (refine zPk ?_ rfl; first | refine zTz ?_ | refine zPX ?_)
     | (refine vM 0 ?_ rfl; refine zAq (hp:=by exact zGW) ?_)
     | (refine vM 2 ?_ rfl; first | refine zAq (hp:=by exact zGY) ?_ | (refine zT0 ?_; intro b hb; subst hb) | (refine zGU ?_; intro b hb; subst hb) | (refine zT1 ?_; intro g fs cs hf cb; subst hf) | (refine zGV ?_; intro g fs cs hf cb; subst hf))
     | (refine vM 3 ?_ rfl; refine zAq (hp:=by exact zGZ) ?_)
     | (refine vM 13 ?_ rfl; first | refine zB6 (hp:=by exact zAL) ?_ | refine zEr (hp:=by exact zLj) ?_)
     | (refine vM 10 ?_ rfl; first | refine zAq (hp:=by exact zEZ) ?_ | refine vB (hp:=by exact zBU) ?_ | refine uW (hp:=by exact zBU) ?_)
     | (refine vM 8 ?_ rfl; first | refine vB (hp:=by exact zCg) ?_ | refine uW (hp:=by exact zCg) ?_)
     | (refine vM 20 ?_ rfl; first | refine zAq (hp:=by exact zEc) ?_ | refine zB6 (hp:=by exact zAM) ?_ | refine zEr (hp:=by exact zLk) ?_)
     | (refine vM 27 ?_ rfl; first | refine vB (hp:=by exact zBZ) ?_ | refine uW (hp:=by exact zBZ) ?_)
     | (refine vM 4 ?_ rfl; first | refine zAq (hp:=by exact zGa) ?_ | refine vB (hp:=by exact zCe) ?_ | refine uW (hp:=by exact zCe) ?_)
     | (refine vM 1 ?_ rfl; refine zAq (hp:=by exact zGX) ?_)
     | (refine vM 6 ?_ rfl; refine zAq (hp:=by exact zGc) ?_)
     | (refine vM 28 ?_ rfl; first | refine vB (hp:=by exact zBa) ?_ | refine uW (hp:=by exact zBa) ?_)
     | (refine vM 11 ?_ rfl; first | refine vB (hp:=by exact zBV) ?_ | refine uW (hp:=by exact zBV) ?_ | refine zAq (hp:=by exact zEa) ?_ | refine zB6 (hp:=by exact zAK) ?_ | refine zEr (hp:=by exact zLi) ?_)
     | (refine vM 26 ?_ rfl; first | refine vB (hp:=by exact zBY) ?_ | refine uW (hp:=by exact zBY) ?_ | refine zAq (hp:=by exact zEd) ?_)
     | (refine vM 12 ?_ rfl; first | refine vB (hp:=by exact zBW) ?_ | refine uW (hp:=by exact zBW) ?_ | refine zAq (hp:=by exact zEb) ?_)
     | (refine vM 5 ?_ rfl; refine zAq (hp:=by exact zGb) ?_)
     | (refine vM 7 ?_ rfl; first | refine vB (hp:=by exact zCf) ?_ | refine uW (hp:=by exact zCf) ?_)
     | (refine vM 9 ?_ rfl; first | refine vB (hp:=by exact zCh) ?_ | refine uW (hp:=by exact zCh) ?_)
     | (refine vM 14 ?_ rfl; first | refine zB6 (hp:=by exact zA8 (yI rfl rfl rfl)) ?_ | (refine zB6 (hp:=by exact zBI (yI rfl rfl rfl)) ?_; intro u; refine zCG ?_) | refine zEr (hp:=by exact zKs (yI rfl rfl rfl)) ?_ | (refine zEr (hp:=by exact zMJ (yI rfl rfl rfl)) ?_; intro u; refine zCG ?_))
     | (refine vM 21 ?_ rfl; first | refine vB (hp:=by exact zBX) ?_ | refine uW (hp:=by exact zBX) ?_)
     | (refine vM 25 ?_ rfl; first | refine zB6 (hp:=by exact zAN) ?_ | refine zEr (hp:=by exact zLl) ?_)
     | refine zAJ ?_)
   | (refine zUC ?_; first
     | (refine j4 13 ?_ rfl; first | refine zAZ (hp:=by exact zAL) ?_ | refine zB8 (hp:=by exact zAL) ?_)
     | (refine j4 19 ?_ rfl; first | (refine zT4 (hp:=by exact zAO) ?_; intro u; first | refine zPb ?_ | refine zPl ?_ | refine zCG ?_) | (refine zY2 (hp:=by exact zAO) ?_; intro u; first | refine zIA ?_ | refine zH9 ?_ | refine zDP ?_ | refine zIB ?_ | refine zIC ?_ | refine zID ?_) | (refine zT3 (hp:=by exact zAO) ?_; intro u; first | refine zPK ?_ | refine zQ6 ?_ | refine zQ7 ?_ | skip) | (refine zY3 ?_; intro u; first | refine zIA ?_ | refine zH9 ?_ | refine zDP ?_ | refine zIB ?_ | refine zIC ?_ | refine zID ?_))
     | (refine j4 20 ?_ rfl; first | refine zAZ (hp:=by exact zAM) ?_ | refine zB8 (hp:=by exact zAM) ?_)
     | (refine j4 17 ?_ rfl; first | refine zJK (hp:=by exact zDB) ?_ | refine zPf (hp:=by exact zDB) ?_)
     | (refine j4 15 ?_ rfl; first | refine zB7 (hp:=by exact zC7) ?_ | refine zEY (hp:=by exact zC7) ?_)
     | (refine j4 16 ?_ rfl; first | refine zB7 (hp:=by exact zC8) ?_ | refine zEY (hp:=by exact zC8) ?_)
     | (refine j4 22 ?_ rfl; first | refine zB7 (hp:=by exact jN) ?_ | refine zEY (hp:=by exact jN) ?_ | refine zPg (hp:=by exact jN) ?_ | refine zT2 (hp:=by exact jN) ?_)
     | (refine j4 11 ?_ rfl; first | refine zB7 (hp:=by exact zC6) ?_ | refine zEY (hp:=by exact zC6) ?_ | refine zAZ (hp:=by exact zAK) ?_ | refine zB8 (hp:=by exact zAK) ?_)
     | (refine j4 14 ?_ rfl; first | refine zAZ (hp:=by exact zA8 (yI rfl rfl rfl)) ?_ | (refine zAZ (hp:=by exact zBI (yI rfl rfl rfl)) ?_; intro u; refine zCG ?_) | refine zB8 (hp:=by exact zA8 (yI rfl rfl rfl)) ?_ | (refine zB8 (hp:=by exact zBI (yI rfl rfl rfl)) ?_; intro u; refine zDP ?_))
     | (refine j4 18 ?_ rfl; first | refine zJK (hp:=by exact zDC) ?_ | refine zPf (hp:=by exact zDC) ?_)
     | (refine j4 23 ?_ rfl; first | refine zB7 (hp:=by exact zC9) ?_ | refine zEY (hp:=by exact zC9) ?_)
     | (refine j4 24 ?_ rfl; first | refine zB7 (hp:=by exact zDA) ?_ | refine zEY (hp:=by exact zDA) ?_)
     | (refine j4 25 ?_ rfl; first | refine zAZ (hp:=by exact zAN) ?_ | refine zB8 (hp:=by exact zAN) ?_)
     | refine zAJ ?_)
   | refine zLf ?_ ?_
   | refine zPc ?_ ?_
   | exact zPd
   | refine zPe ?_
   | (refine zUE ?_; exact zPP)
   | (refine zUD ?_; first
     | refine zPi ?_
     | (refine zUG ?_ rfl; refine zT5 ?_)
     | (refine vL 0 ?_ rfl; refine zAr (hp:=by exact zGW) ?_)
     | (refine vL 2 ?_ rfl; first | refine zAr (hp:=by exact zGY) ?_ | (refine zGU ?_; intro b hb; subst hb) | (refine zGV ?_; intro g fs cs hf cb; subst hf))
     | (refine vL 3 ?_ rfl; refine zAr (hp:=by exact zGZ) ?_)
     | (refine vL 13 ?_ rfl; refine zB9 (hp:=by exact zAL) ?_)
     | (refine vL 10 ?_ rfl; first | refine zAr (hp:=by exact zEZ) ?_ | refine uX (hp:=by exact zBU) ?_)
     | (refine vL 8 ?_ rfl; refine uX (hp:=by exact zCg) ?_)
     | (refine vL 20 ?_ rfl; first | refine zAr (hp:=by exact zEc) ?_ | refine zB9 (hp:=by exact zAM) ?_)
     | (refine vL 27 ?_ rfl; refine uX (hp:=by exact zBZ) ?_)
     | (refine vL 4 ?_ rfl; first | refine zAr (hp:=by exact zGa) ?_ | refine uX (hp:=by exact zCe) ?_)
     | (refine vL 1 ?_ rfl; refine zAr (hp:=by exact zGX) ?_)
     | (refine vL 6 ?_ rfl; refine zAr (hp:=by exact zGc) ?_)
     | (refine vL 28 ?_ rfl; refine uX (hp:=by exact zBa) ?_)
     | (refine vL 11 ?_ rfl; first | refine uX (hp:=by exact zBV) ?_ | refine zAr (hp:=by exact zEa) ?_ | refine zB9 (hp:=by exact zAK) ?_)
     | (refine vL 26 ?_ rfl; first | refine uX (hp:=by exact zBY) ?_ | refine zAr (hp:=by exact zEd) ?_)
     | (refine vL 12 ?_ rfl; first | refine uX (hp:=by exact zBW) ?_ | refine zAr (hp:=by exact zEb) ?_)
     | (refine vL 5 ?_ rfl; refine zAr (hp:=by exact zGb) ?_)
     | (refine vL 7 ?_ rfl; refine uX (hp:=by exact zCf) ?_)
     | (refine vL 9 ?_ rfl; refine uX (hp:=by exact zCh) ?_)
     | (refine vL 14 ?_ rfl; first | refine zB9 (hp:=by exact zA8 (yI rfl rfl rfl)) ?_ | (refine zB9 (hp:=by exact zBI (yI rfl rfl rfl)) ?_; intro u; refine zDP ?_))
     | (refine vL 21 ?_ rfl; refine uX (hp:=by exact zBX) ?_)
     | (refine vL 25 ?_ rfl; refine zB9 (hp:=by exact zAN) ?_)
     | (refine zPh ?_ ?_ <;> (intro hb; refine zBT ?_; intro a w hs; try rw [hb] at hs; clear hb; revert hs; revert w; revert a; refine zCd ?_)))
   | refine zY4 ?_
   | refine zY5 ?_
   | exact zLW
   | refine zAJ ?_) :
  zL P f args.toArray kk w:=zPU n hk hf h hb hn hl
end
end Go.Sep
namespace Go.Proofs.YtdemfamgieonbaaGreat
section
open Go Go.Sep
abbrev zBJ:Nat:=3
abbrev zLm:Nat:=4
abbrev yK:Nat:=5
abbrev ug:Nat:=9
abbrev zBA:Nat:=22
abbrev yU:Nat:=25
abbrev zD2:Nat:=29
abbrev zOC:Nat:=35
abbrev vF:Nat:=37
abbrev zn:Nat:=40
abbrev zRD:Nat:=42
abbrev qc:Nat:=48
abbrev zCU:Nat:=49
abbrev yx:Nat:=51
abbrev yQ:Nat:=53
abbrev zBo:Nat:=56
abbrev zNc:Nat:=72
abbrev zI:Nat:=76
abbrev qC:Nat:=84
abbrev zIi:Nat:=85
abbrev yc:Nat:=87
abbrev zCH:Nat:=95
abbrev qj:Nat:=123
abbrev zD3:Nat:=130
abbrev zJ8:Nat:=133
abbrev qK:Nat:=135
abbrev jF:Nat:=136
abbrev zAD:Nat:=146
abbrev zJP:Nat:=151
abbrev yY:Nat:=173
abbrev yC:Nat:=180
abbrev jP:Nat:=191
abbrev qQ:Nat:=194
abbrev zCI:Nat:=195
abbrev zDF:Nat:=196
abbrev jU:Nat:=198
abbrev jK:Nat:=200
abbrev zEN:Nat:=207
abbrev jc:Nat:=219
abbrev zFj:Nat:=222
abbrev qw:Nat:=224
abbrev zAi:Nat:=226
abbrev zDQ:Nat:=256
abbrev zDR:Nat:=257
abbrev zCq:Nat:=258
abbrev zDr:Nat:=260
abbrev zDs:Nat:=262
abbrev uw:Nat:=319
abbrev zBB:Nat:=321
abbrev zDt:Nat:=331
theorem zEO:zBl Tryz.prog zBJ (.int .i64 0):=⟨Tryz.t3,by kernel_rfl,by kernel_rfl⟩
theorem zNd:zBl Tryz.prog yK (.int .u8 0):=⟨Tryz.t5,by kernel_rfl,by kernel_rfl⟩
theorem zMN:zBl Tryz.prog ug (.string ⟨#[]⟩):=⟨Tryz.t9,by kernel_rfl,by kernel_rfl⟩
theorem zJQ:zBl Tryz.prog zn (.agg #[(.int .i64 0),(.int .u64 0),(.int .u64 0),(.int .i64 0),(.int .i64 0),(Sl.val ⟨none,0,0⟩),(Sl.val ⟨none,0,0⟩),(Sl.val ⟨none,0,0⟩),(.int .i64 0),(Sl.val ⟨none,0,0⟩)]):=⟨Tryz.t40,by kernel_rfl,by kernel_rfl⟩
theorem zIj:zBl Tryz.prog yc (.agg #[(.bool false),(Sl.val ⟨none,0,0⟩),(.int .i64 0),(.int .u64 0)]):=⟨Tryz.t87,by kernel_rfl,by kernel_rfl⟩
theorem zG0:zBl Tryz.prog jc (.pointer none):=⟨Tryz.t219,by kernel_rfl,by kernel_rfl⟩
theorem mixed:Tryz.prog.follows .mixedOrders = true:=by kernel_rfl
end
end Go.Proofs.YtdemfamgieonbaaGreat
namespace Go.Sep
section
open Go
abbrev dfr (g:FuncId) (fs cs:Array Value) (vs:List Value):Deferred:={ target:=.fn (.func g) cs,args:=fs++vs.toArray }
def zOD (P:Program) (f:FuncId) (args:Array Value) (kk:Value→K):K:=fun w=>∀ u,CallsDIn Fence.wide 0 P f args u w fun e u' w'=>u' = u∧Ret kk e w'
section
variable {P:Program} {dl:List Deferred} {n:Nat} {σ:List (Nat×Value)} {k:K} {ops:Array Oper} {Q:Exit→Act→World→Prop} {l:List Oper} {o:Oper} {a:Act} {w:World}
theorem zRE {K1:Act→World→Prop} {x:Operand} {xs:Array Operand} {ts:Array TypeId} {g:FuncId} {fs cs:Array Value} {vs:List Value} (hs:jo dl a n σ) (ho:o.op = .defer { callee:=.value x,args:=xs,argTypes:=ts }) (hx:ev σ x = some (.func (.func g) fs cs)) (hv:evs σ xs.toList = some vs)
  (h:K1 ({ a with defers:=dfr g fs cs vs::a.defers }.put o.dst undef) w):o.wpIn (fe none) 0 P a w K1 Q:=by
 refine ⟨fun f _=>trivial,?_⟩
 have h1:xs.map a.eval = vs.toArray:=by
  have h0:xs.map (Act.eval { a with defers:=[] }) = vs.toArray:=by apply Array.ext'; simpa using zFf hs.1 hv
  exact h0
 have h3:a.eval x = .func (.func g) fs cs:=hs.1.ev hx
 have h2:(execOp a.eval o).run P w = .ok (.defer (dfr g fs cs vs)) w:=by
  simp [execOp,ho,resolve,h3,h1,Deferred.ofValue,dfr]
 show o.uponIn Fence.wide 0 P a K1 Q ((o.semAt none a.eval).run P w)
 rw [Oper.semAt_none,h2,Oper.uponIn_defer]
 exact h
theorem za4 {x:Operand} {xs:Array Operand} {ts:Array TypeId} {g:FuncId} {fs cs:Array Value} {vs:List Value} (h:G (dfr g fs cs vs::dl) n σ k (Tx none P ops Q l)) (ho:o.op = .defer { callee:=.value x,args:=xs,argTypes:=ts }:=by rfl) (hd:o.dst = none:=by rfl) (hw:wants ops σ o = some true:=by rfl)
  (hx:ev σ x = some (.func (.func g) fs cs):=by rfl) (hv:evs σ xs.toList = some vs:=by rfl):G dl n σ k (Tx none P ops Q (o::l)):=fun a w hs hk=>by
 refine zKu hs hw (zRE hs ho hx hv ?_)
 rw [hd]
 exact h _ w ⟨hs.1,by rw [← hs.2]; rfl⟩ hk
theorem zY9 {fn:Func} {kk kv:Value→K} {g:FuncId} {fs cs A:Array Value} {vs:List Value} {rs:List ResultVar} (h:∀ u,G [dfr g fs cs vs] n σ (kv u) (Rx P kk rs [])) (hr:fn.results = rs.toArray:=by rfl) (hA:fs++vs.toArray++cs = A:=by rfl) [cb:CB P g] :
  G [dfr g fs cs vs] n σ (zOD P g A kv) (Ex (zBb P fn (Ret kk)) .ret):=fun a w hs hk=>by
 show LeavesInM Fence.wide 0 P fn a.tmps (Ret kk) a.defers .returning w
 rw [hs.2]
 refine ⟨by simp,.inr ⟨(fun h=>by cases h),.func g,cs,g,A,rfl,?_,fun _ _=>trivial,?_⟩⟩
 ·show (invoke (.fn (.func g) cs) (fs++vs.toArray)).run P w = _
  simp only [invoke]
  rw [zDV cb.h,hA]
 ·refine (hk .returning).mono fun e u' w' he=>?_
  obtain ⟨rfl,he⟩:=he
  cases e with
  | returned v=>
   obtain ⟨v2,h1,h2⟩:=zPR (fn:=fn) (a:=a) (w:=w') (by rw [hr]; exact h v a w' hs he)
   exact ⟨v2,h1,h2⟩
  | panicked c=>exact he.elim
  | outgrown=>exact he.elim
theorem zVF {x y:Operand} {T:TypeId} {vx vy:Value} (ho:o.op = .index T x y) (hx:ev σ x = some vx) (hy:ev σ y = some vy):∀ v w w',(Instr.index T vx vy).run P w = .ok v w'→Eff P σ o w (.value v) w':=fun v w w' hr _ _ hs=>by
 simp [execOp,ho,hs.ev hx,hs.ev hy,hr]
theorem za5 {x:Operand} {xs:Array Operand} {ts:Array TypeId} {g:FuncId} {fs cs:Array Value} {vs:List Value} {S:World→Prop} {ds done:List Nat} {i:Nat} {t:Scr} (h:G (dfr g fs cs vs::dl) n σ k (Dx P ops Q S ds (i::done) t)) (hi:ops[i]? = some o:=by rfl) (ho:o.op = .defer { callee:=.value x,args:=xs,argTypes:=ts }:=by rfl) (hd:o.dst = none:=by rfl) (hw:wants ops σ o = some true:=by rfl)
  (hx:ev σ x = some (.func (.func g) fs cs):=by rfl) (hv:evs σ xs.toList = some vs:=by rfl) (hK:okK ops S ds done i:=by exact zE9):G dl n σ k (Ox P ops Q S ds done i 0 t):=fun a w hs hk=>by
 refine zDW hs hi hw fun hQ=>(zRE hs ho hx hv ⟨hK.keep w w,?_⟩)
 rw [hd,zDX (m:=0)]
 exact h _ w ⟨hs.1,by rw [← hs.2]; rfl⟩ hk hQ
theorem zZA {fn:Func} {kk:Value→K} {rs:List ResultVar} (h:G [] n σ k (Rx P kk rs [])) (hr:fn.results = rs.toArray:=by rfl):G [] n σ k (Ex (bodyPost P fn (Ret kk)) .ret):=fun a w hs hk=>by
 obtain ⟨v,h1,h2⟩:=zPR (fn:=fn) (by rw [hr]; exact h a w hs hk)
 exact ⟨hs.2,v,h1,h2⟩
theorem zZB {fn:Func} {kk:Value→K} (h:G dl n σ k (Ex (bodyPost P fn (Ret kk)) .ret)):G dl n σ k (Ex (bodyPost P fn (Ret kk)) .normal):=h
end
set_option maxRecDepth 100000 in
theorem zUH {P:Program} {f:FuncId} {fn:Func} {c:Code} {args:List Value} {kk:Value→K} {k:K} (n:Nat) {w:World} (hk:k w) (hf:P.funcs[f]? = some fn) (hb:fn.body = some c:=by rfl) (hn:fn.ntmps = n:=by rfl) (hl:Nat.ble args.length n = true:=by rfl)
  (h:G [] n (zQ8 0 args) k (Cx none P c (zBb P fn (Ret kk))):=by
   repeat' first
   | intro _
   | (refine zT6 ?_; first
     | refine zPJ ?_
     | (refine zUF ?_ rfl; first | refine zTs ?_ | refine zPG ?_)
     | (refine qP 0 ?_ rfl; refine zAp (hp:=by exact zGW) ?_)
     | (refine qP 2 ?_ rfl; first | refine zAp (hp:=by exact zGY) ?_ | (refine zGU ?_; intro b hb; subst hb) | (refine zGV ?_; intro g fs cs hf cb; subst hf))
     | (refine qP 3 ?_ rfl; refine zAp (hp:=by exact zGZ) ?_)
     | (refine qP 13 ?_ rfl; refine zA9 (hp:=by exact zAL) ?_)
     | (refine qP 19 ?_ rfl; first | (refine zTt (hp:=by exact zAO) ?_; intro u; first | refine zIA ?_ | refine zH9 ?_ | refine zDP ?_ | refine zIB ?_ | refine zIC ?_ | refine zID ?_) | refine zA9 (hp:=by exact zA8 (zPB rfl rfl rfl)) ?_ | (refine zPI (hp:=by exact zAO) ?_; intro u; first | refine zPK ?_ | refine zQ6 ?_ | refine zQ7 ?_ | skip) | (refine zTu ?_; intro u; first | refine zIA ?_ | refine zH9 ?_ | refine zDP ?_ | refine zIB ?_ | refine zIC ?_ | refine zID ?_))
     | (refine qP 10 ?_ rfl; first | refine zAp (hp:=by exact zEZ) ?_ | refine uV (hp:=by exact zBU) ?_)
     | (refine qP 8 ?_ rfl; refine uV (hp:=by exact zCg) ?_)
     | (refine qP 20 ?_ rfl; first | refine zAp (hp:=by exact zEc) ?_ | refine zA9 (hp:=by exact zAM) ?_)
     | (refine qP 27 ?_ rfl; refine uV (hp:=by exact zBZ) ?_)
     | (refine qP 27 ?_ rfl; refine zA9 (hp:=by exact zA8 (zVF rfl rfl rfl)) ?_)
     | (refine qP 4 ?_ rfl; first | refine zAp (hp:=by exact zGa) ?_ | refine uV (hp:=by exact zCe) ?_)
     | (refine qP 17 ?_ rfl; refine zJD (hp:=by exact zDB) ?_)
     | (refine qP 1 ?_ rfl; refine zAp (hp:=by exact zGX) ?_)
     | (refine qP 6 ?_ rfl; refine zAp (hp:=by exact zGc) ?_)
     | (refine qP 15 ?_ rfl; refine zBs (hp:=by exact zC7) ?_)
     | (refine qP 16 ?_ rfl; refine zBs (hp:=by exact zC8) ?_)
     | (refine qP 22 ?_ rfl; first | refine zBs (hp:=by exact jN) ?_ | refine zPH (hp:=by exact jN) ?_)
     | (refine qP 28 ?_ rfl; refine uV (hp:=by exact zBa) ?_)
     | (refine qP 11 ?_ rfl; first | refine uV (hp:=by exact zBV) ?_ | refine zAp (hp:=by exact zEa) ?_ | refine zA9 (hp:=by exact zAK) ?_ | refine zBs (hp:=by exact zC6) ?_)
     | (refine qP 26 ?_ rfl; first | refine uV (hp:=by exact zBY) ?_ | refine zAp (hp:=by exact zEd) ?_)
     | (refine qP 12 ?_ rfl; first | refine uV (hp:=by exact zBW) ?_ | refine zAp (hp:=by exact zEb) ?_)
     | (refine qP 5 ?_ rfl; refine zAp (hp:=by exact zGb) ?_)
     | (refine qP 7 ?_ rfl; refine uV (hp:=by exact zCf) ?_)
     | (refine qP 9 ?_ rfl; refine uV (hp:=by exact zCh) ?_)
     | (refine qP 14 ?_ rfl; first | refine zA9 (hp:=by exact zA8 (yI rfl rfl rfl)) ?_ | (refine zA9 (hp:=by exact zBI (yI rfl rfl rfl)) ?_; intro u; refine zDP ?_))
     | (refine qP 18 ?_ rfl; refine zJD (hp:=by exact zDC) ?_)
     | (refine qP 21 ?_ rfl; refine uV (hp:=by exact zBX) ?_)
     | (refine qP 23 ?_ rfl; refine zBs (hp:=by exact zC9) ?_)
     | (refine qP 24 ?_ rfl; refine zBs (hp:=by exact zDA) ?_)
     | (refine qP 25 ?_ rfl; refine zA9 (hp:=by exact zAN) ?_)
     | (refine qP 99 ?_ rfl; refine za4 ?_)
     | (refine zPL ?_ ?_ <;> (intro hb; refine zBT ?_; intro a w hs; try rw [hb] at hs; clear hb; revert hs; revert w; revert a; refine zCd ?_)))
   | (refine zT7 ?_; first
     | refine zPO ?_
     | (refine zPj ?_; first | (refine zLX ?_; (repeat apply zYt); refine And.intro zE8 (And.intro ?_ ?_)) | refine zPM ?_)
     | refine zHm ?_ ?_ rfl
     | refine zLY ?_
     | refine zPN ?_
     | refine zJF ?_
     | refine zLZ ?_
     | refine zLa ?_
     | (refine zLg ?_; first | refine zHg ?_ | refine zHh ?_)
     | (refine zLh ?_; first | refine zJM ?_ | refine zJL ?_ | refine zJN ?_ | refine zJO ?_)
     | refine zJE ?_
     | refine zHl ?_ ?_
     | refine zHk ?_ ?_ ?_
     | refine zAJ ?_)
   | (refine zT8 ?_; first
     | refine zLb ?_
     | refine zHj ?_
     | refine zHi ?_
     | refine zPQ ?_
     | refine zJG ?_
     | refine zJH ?_
     | refine zJI ?_
     | (refine zY9 ?_; intro u; refine zPK ?_)
     | refine zLc ?_
     | refine zSW ?_
     | refine zSX ?_
     | exact zY6
     | exact zY7
     | exact zY8
     | refine zAJ ?_)
   | exact zLV
   | refine zTv ?_
   | (refine zT9 ?_; first
     | refine zPS ?_
     | refine zPT ?_
     | refine zLd ?_
     | refine zJJ ?_)
   | (refine zUA ?_; first
     | exact zYw
     | exact zYv
     | exact zYx
     | exact zYy
     | exact zYz
     | exact zY0)
   | (refine zUB ?_; first
     | refine zPY ?_
     | refine zPZ ?_
     | refine zY1 ?_
     | (refine zLe ?_ ?_ <;> (intro hb; refine zBT ?_; intro a w hs; try rw [hb] at hs; clear hb; revert hs; revert w; revert a; refine zCd ?_))
     | (refine zPa ?_ ?_ <;> (intro hb; refine zBT ?_; intro a w hs; try rw [hb] at hs; clear hb; revert hs; revert w; revert a; refine zCd ?_))
     | (refine zPk ?_ rfl; first | refine zTz ?_ | refine zPX ?_)
     | (refine vM 0 ?_ rfl; refine zAq (hp:=by exact zGW) ?_)
     | (refine vM 2 ?_ rfl; first | refine zAq (hp:=by exact zGY) ?_ | (refine zT0 ?_; intro b hb; subst hb) | (refine zGU ?_; intro b hb; subst hb) | (refine zT1 ?_; intro g fs cs hf cb; subst hf) | (refine zGV ?_; intro g fs cs hf cb; subst hf))
     | (refine vM 3 ?_ rfl; refine zAq (hp:=by exact zGZ) ?_)
     | (refine vM 13 ?_ rfl; first | refine zB6 (hp:=by exact zAL) ?_ | refine zEr (hp:=by exact zLj) ?_)
     | (refine vM 10 ?_ rfl; first | refine zAq (hp:=by exact zEZ) ?_ | refine vB (hp:=by exact zBU) ?_ | refine uW (hp:=by exact zBU) ?_)
     | (refine vM 8 ?_ rfl; first | refine vB (hp:=by exact zCg) ?_ | refine uW (hp:=by exact zCg) ?_)
     | (refine vM 20 ?_ rfl; first | refine zAq (hp:=by exact zEc) ?_ | refine zB6 (hp:=by exact zAM) ?_ | refine zEr (hp:=by exact zLk) ?_)
     | (refine vM 27 ?_ rfl; first | refine vB (hp:=by exact zBZ) ?_ | refine uW (hp:=by exact zBZ) ?_)
     | (refine vM 4 ?_ rfl; first | refine zAq (hp:=by exact zGa) ?_ | refine vB (hp:=by exact zCe) ?_ | refine uW (hp:=by exact zCe) ?_)
     | (refine vM 1 ?_ rfl; refine zAq (hp:=by exact zGX) ?_)
     | (refine vM 6 ?_ rfl; refine zAq (hp:=by exact zGc) ?_)
     | (refine vM 28 ?_ rfl; first | refine vB (hp:=by exact zBa) ?_ | refine uW (hp:=by exact zBa) ?_)
     | (refine vM 11 ?_ rfl; first | refine vB (hp:=by exact zBV) ?_ | refine uW (hp:=by exact zBV) ?_ | refine zAq (hp:=by exact zEa) ?_ | refine zB6 (hp:=by exact zAK) ?_ | refine zEr (hp:=by exact zLi) ?_)
     | (refine vM 26 ?_ rfl; first | refine vB (hp:=by exact zBY) ?_ | refine uW (hp:=by exact zBY) ?_ | refine zAq (hp:=by exact zEd) ?_)
     | (refine vM 12 ?_ rfl; first | refine vB (hp:=by exact zBW) ?_ | refine uW (hp:=by exact zBW) ?_ | refine zAq (hp:=by exact zEb) ?_)
     | (refine vM 5 ?_ rfl; refine zAq (hp:=by exact zGb) ?_)
     | (refine vM 7 ?_ rfl; first | refine vB (hp:=by exact zCf) ?_ | refine uW (hp:=by exact zCf) ?_)
     | (refine vM 9 ?_ rfl; first | refine vB (hp:=by exact zCh) ?_ | refine uW (hp:=by exact zCh) ?_)
     | (refine vM 14 ?_ rfl; first | refine zB6 (hp:=by exact zA8 (yI rfl rfl rfl)) ?_ | (refine zB6 (hp:=by exact zBI (yI rfl rfl rfl)) ?_; intro u; refine zCG ?_) | refine zEr (hp:=by exact zKs (yI rfl rfl rfl)) ?_ | (refine zEr (hp:=by exact zMJ (yI rfl rfl rfl)) ?_; intro u; refine zCG ?_))
     | (refine vM 21 ?_ rfl; first | refine vB (hp:=by exact zBX) ?_ | refine uW (hp:=by exact zBX) ?_)
     | (refine vM 25 ?_ rfl; first | refine zB6 (hp:=by exact zAN) ?_ | refine zEr (hp:=by exact zLl) ?_)
     | refine zAJ ?_)
   | (refine zUC ?_; first
     | (refine j4 13 ?_ rfl; first | refine zAZ (hp:=by exact zAL) ?_ | refine zB8 (hp:=by exact zAL) ?_)
     | (refine j4 19 ?_ rfl; first | (refine zT4 (hp:=by exact zAO) ?_; intro u; first | refine zPb ?_ | refine zPl ?_ | refine zCG ?_) | (refine zY2 (hp:=by exact zAO) ?_; intro u; first | refine zIA ?_ | refine zH9 ?_ | refine zDP ?_ | refine zIB ?_ | refine zIC ?_ | refine zID ?_) | (refine zT3 (hp:=by exact zAO) ?_; intro u; first | refine zPK ?_ | refine zQ6 ?_ | refine zQ7 ?_ | skip) | (refine zY3 ?_; intro u; first | refine zIA ?_ | refine zH9 ?_ | refine zDP ?_ | refine zIB ?_ | refine zIC ?_ | refine zID ?_))
     | (refine j4 20 ?_ rfl; first | refine zAZ (hp:=by exact zAM) ?_ | refine zB8 (hp:=by exact zAM) ?_)
     | (refine j4 17 ?_ rfl; first | refine zJK (hp:=by exact zDB) ?_ | refine zPf (hp:=by exact zDB) ?_)
     | (refine j4 15 ?_ rfl; first | refine zB7 (hp:=by exact zC7) ?_ | refine zEY (hp:=by exact zC7) ?_)
     | (refine j4 16 ?_ rfl; first | refine zB7 (hp:=by exact zC8) ?_ | refine zEY (hp:=by exact zC8) ?_)
     | (refine j4 22 ?_ rfl; first | refine zB7 (hp:=by exact jN) ?_ | refine zEY (hp:=by exact jN) ?_ | refine zPg (hp:=by exact jN) ?_ | refine zT2 (hp:=by exact jN) ?_)
     | (refine j4 11 ?_ rfl; first | refine zB7 (hp:=by exact zC6) ?_ | refine zEY (hp:=by exact zC6) ?_ | refine zAZ (hp:=by exact zAK) ?_ | refine zB8 (hp:=by exact zAK) ?_)
     | (refine j4 14 ?_ rfl; first | refine zAZ (hp:=by exact zA8 (yI rfl rfl rfl)) ?_ | (refine zAZ (hp:=by exact zBI (yI rfl rfl rfl)) ?_; intro u; refine zCG ?_) | refine zB8 (hp:=by exact zA8 (yI rfl rfl rfl)) ?_ | (refine zB8 (hp:=by exact zBI (yI rfl rfl rfl)) ?_; intro u; refine zDP ?_))
     | (refine j4 18 ?_ rfl; first | refine zJK (hp:=by exact zDC) ?_ | refine zPf (hp:=by exact zDC) ?_)
     | (refine j4 23 ?_ rfl; first | refine zB7 (hp:=by exact zC9) ?_ | refine zEY (hp:=by exact zC9) ?_)
     | (refine j4 24 ?_ rfl; first | refine zB7 (hp:=by exact zDA) ?_ | refine zEY (hp:=by exact zDA) ?_)
     | (refine j4 25 ?_ rfl; first | refine zAZ (hp:=by exact zAN) ?_ | refine zB8 (hp:=by exact zAN) ?_)
     | (refine j4 99 ?_ rfl; refine za5 ?_)
     | refine zAJ ?_)
   | refine zLf ?_ ?_
   | refine zPc ?_ ?_
   | exact zPd
   | refine zPe ?_
   | (refine zUE ?_; exact zPP)
   | (refine zUD ?_; first
     | refine zPi ?_
     | (refine zUG ?_ rfl; refine zT5 ?_)
     | (refine vL 0 ?_ rfl; refine zAr (hp:=by exact zGW) ?_)
     | (refine vL 2 ?_ rfl; first | refine zAr (hp:=by exact zGY) ?_ | (refine zGU ?_; intro b hb; subst hb) | (refine zGV ?_; intro g fs cs hf cb; subst hf))
     | (refine vL 3 ?_ rfl; refine zAr (hp:=by exact zGZ) ?_)
     | (refine vL 13 ?_ rfl; refine zB9 (hp:=by exact zAL) ?_)
     | (refine vL 10 ?_ rfl; first | refine zAr (hp:=by exact zEZ) ?_ | refine uX (hp:=by exact zBU) ?_)
     | (refine vL 8 ?_ rfl; refine uX (hp:=by exact zCg) ?_)
     | (refine vL 20 ?_ rfl; first | refine zAr (hp:=by exact zEc) ?_ | refine zB9 (hp:=by exact zAM) ?_)
     | (refine vL 27 ?_ rfl; refine uX (hp:=by exact zBZ) ?_)
     | (refine vL 4 ?_ rfl; first | refine zAr (hp:=by exact zGa) ?_ | refine uX (hp:=by exact zCe) ?_)
     | (refine vL 1 ?_ rfl; refine zAr (hp:=by exact zGX) ?_)
     | (refine vL 6 ?_ rfl; refine zAr (hp:=by exact zGc) ?_)
     | (refine vL 28 ?_ rfl; refine uX (hp:=by exact zBa) ?_)
     | (refine vL 11 ?_ rfl; first | refine uX (hp:=by exact zBV) ?_ | refine zAr (hp:=by exact zEa) ?_ | refine zB9 (hp:=by exact zAK) ?_)
     | (refine vL 26 ?_ rfl; first | refine uX (hp:=by exact zBY) ?_ | refine zAr (hp:=by exact zEd) ?_)
     | (refine vL 12 ?_ rfl; first | refine uX (hp:=by exact zBW) ?_ | refine zAr (hp:=by exact zEb) ?_)
     | (refine vL 5 ?_ rfl; refine zAr (hp:=by exact zGb) ?_)
     | (refine vL 7 ?_ rfl; refine uX (hp:=by exact zCf) ?_)
     | (refine vL 9 ?_ rfl; refine uX (hp:=by exact zCh) ?_)
     | (refine vL 14 ?_ rfl; first | refine zB9 (hp:=by exact zA8 (yI rfl rfl rfl)) ?_ | (refine zB9 (hp:=by exact zBI (yI rfl rfl rfl)) ?_; intro u; refine zDP ?_))
     | (refine vL 21 ?_ rfl; refine uX (hp:=by exact zBX) ?_)
     | (refine vL 25 ?_ rfl; refine zB9 (hp:=by exact zAN) ?_)
     | (refine zPh ?_ ?_ <;> (intro hb; refine zBT ?_; intro a w hs; try rw [hb] at hs; clear hb; revert hs; revert w; revert a; refine zCd ?_)))
   | refine zY4 ?_
   | refine zY5 ?_
   | exact zLW
   | refine zAJ ?_) :
  zL P f args.toArray kk w:=zPU n hk hf h hb hn hl
set_option maxRecDepth 100000 in
theorem zZC {P:Program} {f:FuncId} {fn:Func} {c:Code} {args:List Value} {kk:Value→K} {k:K} (n:Nat) {w:World} (hk:k w) (hf:P.funcs[f]? = some fn) (hb:fn.body = some c:=by rfl) (hn:fn.ntmps = n:=by rfl) (hl:Nat.ble args.length n = true:=by rfl)
  (h:G [] n (zQ8 0 args) k (Cx none P c (bodyPost P fn (Ret kk))):=by
   repeat' first
   | intro _
   | (refine zT6 ?_; first
     | refine zPJ ?_
     | (refine zUF ?_ rfl; first | refine zTs ?_ | refine zPG ?_)
     | (refine qP 0 ?_ rfl; refine zAp (hp:=by exact zGW) ?_)
     | (refine qP 2 ?_ rfl; first | refine zAp (hp:=by exact zGY) ?_ | (refine zGU ?_; intro b hb; subst hb) | (refine zGV ?_; intro g fs cs hf cb; subst hf))
     | (refine qP 3 ?_ rfl; refine zAp (hp:=by exact zGZ) ?_)
     | (refine qP 13 ?_ rfl; refine zA9 (hp:=by exact zAL) ?_)
     | (refine qP 19 ?_ rfl; first | (refine zTt (hp:=by exact zAO) ?_; intro u; first | refine zIA ?_ | refine zH9 ?_ | refine zDP ?_ | refine zIB ?_ | refine zIC ?_ | refine zID ?_) | refine zA9 (hp:=by exact zA8 (zPB rfl rfl rfl)) ?_ | (refine zPI (hp:=by exact zAO) ?_; intro u; first | refine zPK ?_ | refine zQ6 ?_ | refine zQ7 ?_ | skip) | (refine zTu ?_; intro u; first | refine zIA ?_ | refine zH9 ?_ | refine zDP ?_ | refine zIB ?_ | refine zIC ?_ | refine zID ?_))
     | (refine qP 10 ?_ rfl; first | refine zAp (hp:=by exact zEZ) ?_ | refine uV (hp:=by exact zBU) ?_)
     | (refine qP 8 ?_ rfl; refine uV (hp:=by exact zCg) ?_)
     | (refine qP 20 ?_ rfl; first | refine zAp (hp:=by exact zEc) ?_ | refine zA9 (hp:=by exact zAM) ?_)
     | (refine qP 27 ?_ rfl; refine uV (hp:=by exact zBZ) ?_)
     | (refine qP 4 ?_ rfl; first | refine zAp (hp:=by exact zGa) ?_ | refine uV (hp:=by exact zCe) ?_)
     | (refine qP 17 ?_ rfl; refine zJD (hp:=by exact zDB) ?_)
     | (refine qP 1 ?_ rfl; refine zAp (hp:=by exact zGX) ?_)
     | (refine qP 6 ?_ rfl; refine zAp (hp:=by exact zGc) ?_)
     | (refine qP 15 ?_ rfl; refine zBs (hp:=by exact zC7) ?_)
     | (refine qP 16 ?_ rfl; refine zBs (hp:=by exact zC8) ?_)
     | (refine qP 22 ?_ rfl; first | refine zBs (hp:=by exact jN) ?_ | refine zPH (hp:=by exact jN) ?_)
     | (refine qP 28 ?_ rfl; refine uV (hp:=by exact zBa) ?_)
     | (refine qP 11 ?_ rfl; first | refine uV (hp:=by exact zBV) ?_ | refine zAp (hp:=by exact zEa) ?_ | refine zA9 (hp:=by exact zAK) ?_ | refine zBs (hp:=by exact zC6) ?_)
     | (refine qP 26 ?_ rfl; first | refine uV (hp:=by exact zBY) ?_ | refine zAp (hp:=by exact zEd) ?_)
     | (refine qP 12 ?_ rfl; first | refine uV (hp:=by exact zBW) ?_ | refine zAp (hp:=by exact zEb) ?_)
     | (refine qP 5 ?_ rfl; refine zAp (hp:=by exact zGb) ?_)
     | (refine qP 7 ?_ rfl; refine uV (hp:=by exact zCf) ?_)
     | (refine qP 9 ?_ rfl; refine uV (hp:=by exact zCh) ?_)
     | (refine qP 14 ?_ rfl; first | refine zA9 (hp:=by exact zA8 (yI rfl rfl rfl)) ?_ | (refine zA9 (hp:=by exact zBI (yI rfl rfl rfl)) ?_; intro u; refine zDP ?_))
     | (refine qP 18 ?_ rfl; refine zJD (hp:=by exact zDC) ?_)
     | (refine qP 21 ?_ rfl; refine uV (hp:=by exact zBX) ?_)
     | (refine qP 23 ?_ rfl; refine zBs (hp:=by exact zC9) ?_)
     | (refine qP 24 ?_ rfl; refine zBs (hp:=by exact zDA) ?_)
     | (refine qP 25 ?_ rfl; refine zA9 (hp:=by exact zAN) ?_)
     | (refine zPL ?_ ?_ <;> (intro hb; refine zBT ?_; intro a w hs; try rw [hb] at hs; clear hb; revert hs; revert w; revert a; refine zCd ?_)))
   | (refine zT7 ?_; first
     | refine zPO ?_
     | (refine zPj ?_; first | (refine zLX ?_; (repeat apply zYt); refine And.intro zE8 (And.intro ?_ ?_)) | refine zPM ?_)
     | refine zHm ?_ ?_ rfl
     | refine zLY ?_
     | refine zPN ?_
     | refine zJF ?_
     | refine zLZ ?_
     | refine zLa ?_
     | (refine zLg ?_; first | refine zHg ?_ | refine zHh ?_)
     | (refine zLh ?_; first | refine zJM ?_ | refine zJL ?_ | refine zJN ?_ | refine zJO ?_)
     | refine zJE ?_
     | refine zHl ?_ ?_
     | refine zHk ?_ ?_ ?_
     | refine zAJ ?_)
   | (refine zT8 ?_; first
     | refine zLb ?_
     | refine zHj ?_
     | refine zHi ?_
     | refine zPQ ?_
     | refine zJG ?_
     | refine zJH ?_
     | refine zJI ?_
     | refine zLc ?_
     | refine zZA ?_
     | refine zZB ?_
     | exact zY6
     | exact zY7
     | exact zY8
     | refine zAJ ?_)
   | exact zLV
   | refine zTv ?_
   | (refine zT9 ?_; first
     | refine zPS ?_
     | refine zPT ?_
     | refine zLd ?_
     | refine zJJ ?_)
   | (refine zUA ?_; first
     | exact zYw
     | exact zYv
     | exact zYx
     | exact zYy
     | exact zYz
     | exact zY0)
   | (refine zUB ?_; first
     | refine zPY ?_
     | refine zPZ ?_
     | refine zY1 ?_
     | (refine zLe ?_ ?_ <;> (intro hb; refine zBT ?_; intro a w hs; try rw [hb] at hs; clear hb; revert hs; revert w; revert a; refine zCd ?_))
     | (refine zPa ?_ ?_ <;> (intro hb; refine zBT ?_; intro a w hs; try rw [hb] at hs; clear hb; revert hs; revert w; revert a; refine zCd ?_))
     | (refine zPk ?_ rfl; first | refine zTz ?_ | refine zPX ?_)
     | (refine vM 0 ?_ rfl; refine zAq (hp:=by exact zGW) ?_)
     | (refine vM 2 ?_ rfl; first | refine zAq (hp:=by exact zGY) ?_ | (refine zT0 ?_; intro b hb; subst hb) | (refine zGU ?_; intro b hb; subst hb) | (refine zT1 ?_; intro g fs cs hf cb; subst hf) | (refine zGV ?_; intro g fs cs hf cb; subst hf))
     | (refine vM 3 ?_ rfl; refine zAq (hp:=by exact zGZ) ?_)
     | (refine vM 13 ?_ rfl; first | refine zB6 (hp:=by exact zAL) ?_ | refine zEr (hp:=by exact zLj) ?_)
     | (refine vM 10 ?_ rfl; first | refine zAq (hp:=by exact zEZ) ?_ | refine vB (hp:=by exact zBU) ?_ | refine uW (hp:=by exact zBU) ?_)
     | (refine vM 8 ?_ rfl; first | refine vB (hp:=by exact zCg) ?_ | refine uW (hp:=by exact zCg) ?_)
     | (refine vM 20 ?_ rfl; first | refine zAq (hp:=by exact zEc) ?_ | refine zB6 (hp:=by exact zAM) ?_ | refine zEr (hp:=by exact zLk) ?_)
     | (refine vM 27 ?_ rfl; first | refine vB (hp:=by exact zBZ) ?_ | refine uW (hp:=by exact zBZ) ?_)
     | (refine vM 4 ?_ rfl; first | refine zAq (hp:=by exact zGa) ?_ | refine vB (hp:=by exact zCe) ?_ | refine uW (hp:=by exact zCe) ?_)
     | (refine vM 1 ?_ rfl; refine zAq (hp:=by exact zGX) ?_)
     | (refine vM 6 ?_ rfl; refine zAq (hp:=by exact zGc) ?_)
     | (refine vM 28 ?_ rfl; first | refine vB (hp:=by exact zBa) ?_ | refine uW (hp:=by exact zBa) ?_)
     | (refine vM 11 ?_ rfl; first | refine vB (hp:=by exact zBV) ?_ | refine uW (hp:=by exact zBV) ?_ | refine zAq (hp:=by exact zEa) ?_ | refine zB6 (hp:=by exact zAK) ?_ | refine zEr (hp:=by exact zLi) ?_)
     | (refine vM 26 ?_ rfl; first | refine vB (hp:=by exact zBY) ?_ | refine uW (hp:=by exact zBY) ?_ | refine zAq (hp:=by exact zEd) ?_)
     | (refine vM 12 ?_ rfl; first | refine vB (hp:=by exact zBW) ?_ | refine uW (hp:=by exact zBW) ?_ | refine zAq (hp:=by exact zEb) ?_)
     | (refine vM 5 ?_ rfl; refine zAq (hp:=by exact zGb) ?_)
     | (refine vM 7 ?_ rfl; first | refine vB (hp:=by exact zCf) ?_ | refine uW (hp:=by exact zCf) ?_)
     | (refine vM 9 ?_ rfl; first | refine vB (hp:=by exact zCh) ?_ | refine uW (hp:=by exact zCh) ?_)
     | (refine vM 14 ?_ rfl; first | refine zB6 (hp:=by exact zA8 (yI rfl rfl rfl)) ?_ | (refine zB6 (hp:=by exact zBI (yI rfl rfl rfl)) ?_; intro u; refine zCG ?_) | refine zEr (hp:=by exact zKs (yI rfl rfl rfl)) ?_ | (refine zEr (hp:=by exact zMJ (yI rfl rfl rfl)) ?_; intro u; refine zCG ?_))
     | (refine vM 21 ?_ rfl; first | refine vB (hp:=by exact zBX) ?_ | refine uW (hp:=by exact zBX) ?_)
     | (refine vM 25 ?_ rfl; first | refine zB6 (hp:=by exact zAN) ?_ | refine zEr (hp:=by exact zLl) ?_)
     | refine zAJ ?_)
   | (refine zUC ?_; first
     | (refine j4 13 ?_ rfl; first | refine zAZ (hp:=by exact zAL) ?_ | refine zB8 (hp:=by exact zAL) ?_)
     | (refine j4 19 ?_ rfl; first | (refine zT4 (hp:=by exact zAO) ?_; intro u; first | refine zPb ?_ | refine zPl ?_ | refine zCG ?_) | (refine zY2 (hp:=by exact zAO) ?_; intro u; first | refine zIA ?_ | refine zH9 ?_ | refine zDP ?_ | refine zIB ?_ | refine zIC ?_ | refine zID ?_) | (refine zT3 (hp:=by exact zAO) ?_; intro u; first | refine zPK ?_ | refine zQ6 ?_ | refine zQ7 ?_ | skip) | (refine zY3 ?_; intro u; first | refine zIA ?_ | refine zH9 ?_ | refine zDP ?_ | refine zIB ?_ | refine zIC ?_ | refine zID ?_))
     | (refine j4 20 ?_ rfl; first | refine zAZ (hp:=by exact zAM) ?_ | refine zB8 (hp:=by exact zAM) ?_)
     | (refine j4 17 ?_ rfl; first | refine zJK (hp:=by exact zDB) ?_ | refine zPf (hp:=by exact zDB) ?_)
     | (refine j4 15 ?_ rfl; first | refine zB7 (hp:=by exact zC7) ?_ | refine zEY (hp:=by exact zC7) ?_)
     | (refine j4 16 ?_ rfl; first | refine zB7 (hp:=by exact zC8) ?_ | refine zEY (hp:=by exact zC8) ?_)
     | (refine j4 22 ?_ rfl; first | refine zB7 (hp:=by exact jN) ?_ | refine zEY (hp:=by exact jN) ?_ | refine zPg (hp:=by exact jN) ?_ | refine zT2 (hp:=by exact jN) ?_)
     | (refine j4 11 ?_ rfl; first | refine zB7 (hp:=by exact zC6) ?_ | refine zEY (hp:=by exact zC6) ?_ | refine zAZ (hp:=by exact zAK) ?_ | refine zB8 (hp:=by exact zAK) ?_)
     | (refine j4 14 ?_ rfl; first | refine zAZ (hp:=by exact zA8 (yI rfl rfl rfl)) ?_ | (refine zAZ (hp:=by exact zBI (yI rfl rfl rfl)) ?_; intro u; refine zCG ?_) | refine zB8 (hp:=by exact zA8 (yI rfl rfl rfl)) ?_ | (refine zB8 (hp:=by exact zBI (yI rfl rfl rfl)) ?_; intro u; refine zDP ?_))
     | (refine j4 18 ?_ rfl; first | refine zJK (hp:=by exact zDC) ?_ | refine zPf (hp:=by exact zDC) ?_)
     | (refine j4 23 ?_ rfl; first | refine zB7 (hp:=by exact zC9) ?_ | refine zEY (hp:=by exact zC9) ?_)
     | (refine j4 24 ?_ rfl; first | refine zB7 (hp:=by exact zDA) ?_ | refine zEY (hp:=by exact zDA) ?_)
     | (refine j4 25 ?_ rfl; first | refine zAZ (hp:=by exact zAN) ?_ | refine zB8 (hp:=by exact zAN) ?_)
     | refine zAJ ?_)
   | refine zLf ?_ ?_
   | refine zPc ?_ ?_
   | exact zPd
   | refine zPe ?_
   | (refine zUE ?_; exact zPP)
   | (refine zUD ?_; first
     | refine zPi ?_
     | (refine zUG ?_ rfl; refine zT5 ?_)
     | (refine vL 0 ?_ rfl; refine zAr (hp:=by exact zGW) ?_)
     | (refine vL 2 ?_ rfl; first | refine zAr (hp:=by exact zGY) ?_ | (refine zGU ?_; intro b hb; subst hb) | (refine zGV ?_; intro g fs cs hf cb; subst hf))
     | (refine vL 3 ?_ rfl; refine zAr (hp:=by exact zGZ) ?_)
     | (refine vL 13 ?_ rfl; refine zB9 (hp:=by exact zAL) ?_)
     | (refine vL 10 ?_ rfl; first | refine zAr (hp:=by exact zEZ) ?_ | refine uX (hp:=by exact zBU) ?_)
     | (refine vL 8 ?_ rfl; refine uX (hp:=by exact zCg) ?_)
     | (refine vL 20 ?_ rfl; first | refine zAr (hp:=by exact zEc) ?_ | refine zB9 (hp:=by exact zAM) ?_)
     | (refine vL 27 ?_ rfl; refine uX (hp:=by exact zBZ) ?_)
     | (refine vL 4 ?_ rfl; first | refine zAr (hp:=by exact zGa) ?_ | refine uX (hp:=by exact zCe) ?_)
     | (refine vL 1 ?_ rfl; refine zAr (hp:=by exact zGX) ?_)
     | (refine vL 6 ?_ rfl; refine zAr (hp:=by exact zGc) ?_)
     | (refine vL 28 ?_ rfl; refine uX (hp:=by exact zBa) ?_)
     | (refine vL 11 ?_ rfl; first | refine uX (hp:=by exact zBV) ?_ | refine zAr (hp:=by exact zEa) ?_ | refine zB9 (hp:=by exact zAK) ?_)
     | (refine vL 26 ?_ rfl; first | refine uX (hp:=by exact zBY) ?_ | refine zAr (hp:=by exact zEd) ?_)
     | (refine vL 12 ?_ rfl; first | refine uX (hp:=by exact zBW) ?_ | refine zAr (hp:=by exact zEb) ?_)
     | (refine vL 5 ?_ rfl; refine zAr (hp:=by exact zGb) ?_)
     | (refine vL 7 ?_ rfl; refine uX (hp:=by exact zCf) ?_)
     | (refine vL 9 ?_ rfl; refine uX (hp:=by exact zCh) ?_)
     | (refine vL 14 ?_ rfl; first | refine zB9 (hp:=by exact zA8 (yI rfl rfl rfl)) ?_ | (refine zB9 (hp:=by exact zBI (yI rfl rfl rfl)) ?_; intro u; refine zDP ?_))
     | (refine vL 21 ?_ rfl; refine uX (hp:=by exact zBX) ?_)
     | (refine vL 25 ?_ rfl; refine zB9 (hp:=by exact zAN) ?_)
     | (refine zPh ?_ ?_ <;> (intro hb; refine zBT ?_; intro a w hs; try rw [hb] at hs; clear hb; revert hs; revert w; revert a; refine zCd ?_)))
   | refine zY4 ?_
   | refine zY5 ?_
   | exact zLW
   | refine zAJ ?_) :
  zOD P f args.toArray kk w:=fun u=>by
 subst hn
 refine callsDIn_of_wp hf hb trivial ?_
 exact h _ w (by rw [← zTw]; exact jo.init args _ (Nat.le_of_ble_eq_true hl)) hk
end
end Go.Sep
namespace Go.Proofs.YtdemfamgieonbaaGreat
section
open Go Go.Sep
def zD.call (a b:Sl) (k:Bool→K): K:=zL Tryz.prog 5 [Sl.val a,Sl.val b].toArray (yO Value.bool k)
def xG.call  (k:Bool→K): K:=zL Tryz.prog 8 [].toArray (yO Value.bool k)
def yj.call (a:Av) (k:Bool→K): K:=zL Tryz.prog 9 [.agg a].toArray (yO Value.bool k)
def zo.call (a:Av) (b:Int) (k:Bool→K): K:=zL Tryz.prog 10 [.agg a,.int .i64 b].toArray (yO Value.bool k)
def uh.call (c:Int) (k:Pt→Int→K): K:=zL Tryz.prog 11 [.int .i64 c].toArray (zAQ (fun a b=>.tuple #[Value.pointer a,(Value.int .i64) b]) k)
def jq.call (a:Pt) (b c:Av) (k:Av→K): K:=zL Tryz.prog 12 [.pointer a,.agg b,.agg c].toArray (yO Value.agg k)
def xB.call (a:Av) (k:Sl→K): K:=zL Tryz.prog 13 [.agg a].toArray (yO Sl.val k)
def uQ.call (a:Av) (k:Bool→K): K:=zL Tryz.prog 14 [.agg a].toArray (yO Value.bool k)
def zU.call (a:Pt) (b:Int) (c:Av) (k:Sl→K): K:=zL Tryz.prog 15 [.pointer a,.int .i64 b,.agg c].toArray (yO Sl.val k)
def xC.call (a:Pt) (k:Sl→K): K:=zL Tryz.prog 16 [.pointer a].toArray (yO Sl.val k)
def zAs.call (a:Pt) (k:Sl→K): K:=zL Tryz.prog 17 [.pointer a].toArray (yO Sl.val k)
def uE.call (a:Sl) (k:Bool→K): K:=zL Tryz.prog 25 [Sl.val a].toArray (yO Value.bool k)
def qM.call (c:Int) (d:Sl) (k:Av→Bool→K): K:=zL Tryz.prog 26 [.int .i64 c,Sl.val d].toArray (zAQ (fun a b=>.tuple #[Value.agg a,Value.bool b]) k)
def zEz.call (a:Int) (k:Pt→K): K:=zL Tryz.prog 27 [.int .i64 a].toArray (yO Value.pointer k)
def jB.call (a:Pt) (b:Int) (k:Int→K): K:=zL Tryz.prog 28 [.pointer a,.int .i64 b].toArray (yO (Value.int .i64) k)
def qm.call (a:Pt) (b:ByteArray) (k:Av→K): K:=zL Tryz.prog 29 [.pointer a,.string b].toArray (yO Value.agg k)
def qZ.call (c:Pt) (d:Av) (k:Av→Sl→K): K:=zL Tryz.prog 30 [.pointer c,.agg d].toArray (zAQ (fun a b=>.tuple #[Value.agg a,Sl.val b]) k)
def zAj.call (a:Pt) (b:Sl) (k:K): K:=zL Tryz.prog 31 [.pointer a,Sl.val b].toArray (jD (.tuple #[]) k)
def vO.call (a b:Av) (k:Bool→K): K:=zL Tryz.prog 32 [.agg a,.agg b].toArray (yO Value.bool k)
def jG.call (a b:Sl) (k:Bool→K): K:=zL Tryz.prog 33 [Sl.val a,Sl.val b].toArray (yO Value.bool k)
def jV.call (a:Sl) (k:Bool→K): K:=zL Tryz.prog 43 [Sl.val a].toArray (yO Value.bool k)
def zBc.call (a:Sl) (b:ByteArray) (k:Bool→K): K:=zL Tryz.prog 44 [Sl.val a,.string b].toArray (yO Value.bool k)
def qR.call (a b:Av) (k:Bool→K): K:=zL Tryz.prog 45 [.agg a,.agg b].toArray (yO Value.bool k)
def zBd.call (c:Int) (k:Pt→Int→K): K:=zL Tryz.prog 46 [.int .i64 c].toArray (zAQ (fun a b=>.tuple #[Value.pointer a,(Value.int .i64) b]) k)
def zD4.call  (k:Pt→K): K:=zL Tryz.prog 47 [].toArray (yO Value.pointer k)
def zBK.call (a:Int) (k:Pt→K): K:=zL Tryz.prog 48 [.int .i64 a].toArray (yO Value.pointer k)
def zD5.call (a:Pt) (b c:Av) (k:Av→K): K:=zL Tryz.prog 49 [.pointer a,.agg b,.agg c].toArray (yO Value.agg k)
def zA1.call (a:Sl) (k:K): K:=zL Tryz.prog 50 [Sl.val a].toArray (jD (.tuple #[]) k)
def zu.call (a:Sl) (k:Sl→K): K:=zL Tryz.prog 51 [Sl.val a].toArray (yO Sl.val k)
def yN.call (c:Av) (k:Sl→Int→K): K:=zL Tryz.prog 52 [.agg c].toArray (zAQ (fun a b=>.tuple #[Sl.val a,(Value.int .i64) b]) k)
def xS.call (a:Pt) (b:Int) (k:Bool→K): K:=zL Tryz.prog 53 [.pointer a,.int .i64 b].toArray (yO Value.bool k)
def yF.call (a:Av) (b:Int) (k:Int→K): K:=zL Tryz.prog 54 [.agg a,.int .i64 b].toArray (yO (Value.int .i64) k)
def yZ.call (a:Pt) (b:Av) (k:Bool→K): K:=zL Tryz.prog 55 [.pointer a,.agg b].toArray (yO Value.bool k)
def zAt.call (a:Pt) (b:Av) (k:Pt→K): K:=zL Tryz.prog 56 [.pointer a,.agg b].toArray (yO Value.pointer k)
def xu.call (a:Pt) (k:Sl→K): K:=zL Tryz.prog 57 [.pointer a].toArray (yO Sl.val k)
def zDG.call (a:Av) (k:Av→K): K:=zL Tryz.prog 58 [.agg a].toArray (yO Value.agg k)
def jH.call (a:Av) (b:Int) (k:Sl→K): K:=zL Tryz.prog 59 [.agg a,.int .i64 b].toArray (yO Sl.val k)
def yV.call (a:Sl) (b:Value) (k:Sl→K): K:=zL Tryz.prog 60 [Sl.val a,b].toArray (yO Sl.val k)
def zBp.call (a:Int) (b:Addr) (k:Bool→K): K:=zL Tryz.prog 61 [.int .i64 a,(.pointer (some b))].toArray (yO Value.bool k)
def yH.call (a b:Pt) (c:Av) (d:Sl) (k:K): K:=zL Tryz.prog 62 [.pointer a,.pointer b,.agg c,Sl.val d].toArray (jD (.tuple #[]) k)
def zAu.call (a:Pt) (k:Sl→K): K:=zL Tryz.prog 63 [.pointer a].toArray (yO Sl.val k)
def qg.call (a:Av) (b:Int) (k:Int→K): K:=zL Tryz.prog 65 [.agg a,.int .i64 b].toArray (yO (Value.int .i64) k)
def zBe.call (a:Av) (k:Av→K): K:=zL Tryz.prog 66 [.agg a].toArray (yO Value.agg k)
def qU.call (a:Av) (k:Sl→K): K:=zL Tryz.prog 68 [.agg a].toArray (yO Sl.val k)
def yR.call (a:Pt) (b:Int) (k:Bool→K): K:=zL Tryz.prog 69 [.pointer a,.int .i64 b].toArray (yO Value.bool k)
def jR.call (a:ByteArray) (b:Int) (k:Int→K): K:=zL Tryz.prog 70 [.string a,.int .i64 b].toArray (yO (Value.int .i64) k)
def zAv.call (a:Pt) (k:Pt→K): K:=zL Tryz.prog 71 [.pointer a].toArray (yO Value.pointer k)
def xM.call (a:Pt) (b:ByteArray) (c:Int) (k:Int→K): K:=zL Tryz.prog 72 [.pointer a,.string b,.int .i64 c].toArray (yO (Value.int .i64) k)
def ql.call (c:Pt) (d:Av) (k:Sl→Int→K): K:=zL Tryz.prog 73 [.pointer c,.agg d].toArray (zAQ (fun a b=>.tuple #[Sl.val a,(Value.int .i64) b]) k)
def zP.call (a:Pt) (b:ByteArray) (c:Av) (k:K): K:=zL Tryz.prog 74 [.pointer a,.string b,.agg c].toArray (jD (.tuple #[]) k)
def xO.call (a b:Av) (k:Bool→K): K:=zL Tryz.prog 75 [.agg a,.agg b].toArray (yO Value.bool k)
def uG.call  (k:Pt→K): K:=zL Tryz.prog 85 [].toArray (yO Value.pointer k)
def zAk.call (a:Pt) (b:Av) (k:Sl→K): K:=zL Tryz.prog 86 [.pointer a,.agg b].toArray (yO Sl.val k)
def zFM.call (a:Sl) (b c d:Int) (k:K): K:=zL Tryz.prog 87 [Sl.val a,.int .i64 b,.int .i64 c,.int .i64 d].toArray (jD (.tuple #[]) k)
def zIW.call (a:Int) (k:Int→K): K:=zL Tryz.prog 88 [.int .u64 a].toArray (yO (Value.int .i64) k)
def zAy.call (a:Pt) (b:Sl) (k:K): K:=zL Tryz.prog 89 [.pointer a,Sl.val b].toArray (jD (.tuple #[]) k)
def uY.call (a:Pt) (b:Av) (k:K): K:=zL Tryz.prog 90 [.pointer a,.agg b].toArray (jD (.tuple #[]) k)
def zBw.call (a:Pt) (k:Sl→K): K:=zL Tryz.prog 91 [.pointer a].toArray (yO Sl.val k)
def zDM.call (a:Av) (k:Sl→K): K:=zL Tryz.prog 92 [.agg a].toArray (yO Sl.val k)
def xZ.call (a:Sl) (b:Int) (k:Bool→K): K:=zL Tryz.prog 93 [Sl.val a,.int .i64 b].toArray (yO Value.bool k)
def uU.call (a:Pt) (b:Av) (k:Bool→K): K:=zL Tryz.prog 94 [.pointer a,.agg b].toArray (yO Value.bool k)
def yX.call (a:Sl) (b:Value) (k:Int→K): K:=zL Tryz.prog 95 [Sl.val a,b].toArray (yO (Value.int .i64) k)
def zBq.call (a:Pt) (b:Addr) (k:Bool→K): K:=zL Tryz.prog 96 [.pointer a,(.pointer (some b))].toArray (yO Value.bool k)
def xU.call (a:Pt) (b:Addr) (k:Bool→K): K:=zL Tryz.prog 97 [.pointer a,(.pointer (some b))].toArray (yO Value.bool k)
def jI.call (a:Pt) (b:Av) (k:Bool→K): K:=zL Tryz.prog 98 [.pointer a,.agg b].toArray (yO Value.bool k)
def qH.call (a:Pt) (b:Av) (k:Bool→K): K:=zL Tryz.prog 99 [.pointer a,.agg b].toArray (yO Value.bool k)
def xI.call (a:Sl) (b c:Int) (k:Sl→K): K:=zL Tryz.prog 100 [Sl.val a,.int .i64 b,.int .i64 c].toArray (yO Sl.val k)
def yD.call (a:Pt) (b:Av) (k:Av→K): K:=zL Tryz.prog 101 [.pointer a,.agg b].toArray (yO Value.agg k)
def q9.call (a:Sl) (k:Sl→K): K:=zL Tryz.prog 102 [Sl.val a].toArray (yO Sl.val k)
def qx.call (a:Sl) (b:Value) (k:Int→K): K:=zL Tryz.prog 103 [Sl.val a,b].toArray (yO (Value.int .i64) k)
def xP.call (a:Pt) (b:ByteArray) (k:Pt→K): K:=zL Tryz.prog 104 [.pointer a,.string b].toArray (yO Value.pointer k)
def yG.call (a:Sl) (b:Value) (k:Bool→K): K:=zL Tryz.prog 105 [Sl.val a,b].toArray (yO Value.bool k)
def zCJ.call (a:Av) (k:Value→K): K:=zL Tryz.prog 106 [.agg a].toArray (yO id k)
def jW.call (a b:Av) (k:Int→K): K:=zL Tryz.prog 107 [.agg a,.agg b].toArray (yO (Value.int .i64) k)
def qE.call (a:Pt) (b:ByteArray) (k:Av→K): K:=zL Tryz.prog 108 [.pointer a,.string b].toArray (yO Value.agg k)
def vC.call (a:Pt) (k:Value→K): K:=zL Tryz.prog 109 [.pointer a].toArray (yO id k)
def vK.call (a:Sl) (k:Sl→K): K:=zL Tryz.prog 110 [Sl.val a].toArray (yO Sl.val k)
def vG.call (a:Av) (k:Bool→K): K:=zL Tryz.prog 114 [.agg a].toArray (yO Value.bool k)
def zEs.call (a:Av) (b:Addr) (k:Bool→K): K:=zL Tryz.prog 115 [.agg a,(.pointer (some b))].toArray (yO Value.bool k)
def yg.call (a b:Av) (k:Bool→K): K:=zL Tryz.prog 116 [.agg a,.agg b].toArray (yO Value.bool k)
def xJ.call (a:Sl) (b:Value) (k:Bool→K): K:=zL Tryz.prog 117 [Sl.val a,b].toArray (yO Value.bool k)
def xA.call (a:Sl) (k:Sl→K): K:=zL Tryz.prog 118 [Sl.val a].toArray (yO Sl.val k)
def xw.call (a:Sl) (k:Sl→K): K:=zL Tryz.prog 119 [Sl.val a].toArray (yO Sl.val k)
def zDH.call (c:Sl) (d f:Int) (k:Av→Bool→K): K:=zL Tryz.prog 121 [Sl.val c,.int .i64 d,.int .i64 f].toArray (zAQ (fun a b=>.tuple #[Value.agg a,Value.bool b]) k)
def zAR.call (a:Pt) (b:ByteArray) (c:Sl) (k:K): K:=zL Tryz.prog 122 [.pointer a,.string b,Sl.val c].toArray (jD (.tuple #[]) k)
def jr.call (a:Pt) (b:ByteArray) (k:K): K:=zL Tryz.prog 123 [.pointer a,.string b].toArray (jD (.tuple #[]) k)
def j5.call (c:Sl) (k:Int→Bool→K): K:=zL Tryz.prog 124 [Sl.val c].toArray (zAQ (fun a b=>.tuple #[(Value.int .i64) a,Value.bool b]) k)
def vP.call (c d:Int) (k:Int→Bool→K): K:=zL Tryz.prog 125 [.int .i64 c,.int .i64 d].toArray (zAQ (fun a b=>.tuple #[(Value.int .i64) a,Value.bool b]) k)
def zAl.call (a:Int) (k:Sl→K): K:=zL Tryz.prog 126 [.int .i64 a].toArray (yO Sl.val k)
def xV.call (a:Pt) (b:Int) (k:K): K:=zL Tryz.prog 146 [.pointer a,.int .u64 b].toArray (jD (.tuple #[]) k)
def zAE.call (a:Pt) (b:Sl) (k:K): K:=zL Tryz.prog 147 [.pointer a,Sl.val b].toArray (jD (.tuple #[]) k)
def j6.call (a:Pt) (b:Sl) (k:K): K:=zL Tryz.prog 148 [.pointer a,Sl.val b].toArray (jD (.tuple #[]) k)
def zCV.call (a:Int) (k:Int→K): K:=zL Tryz.prog 149 [.int .i64 a].toArray (yO (Value.int .u64) k)
def uy.call (a:Sl) (k:Sl→K): K:=zL Tryz.prog 150 [Sl.val a].toArray (yO Sl.val k)
def zW.call (a:Sl) (k:Sl→K): K:=zL Tryz.prog 151 [Sl.val a].toArray (yO Sl.val k)
def uH.call (a:Sl) (k:K): K:=zL Tryz.prog 152 [Sl.val a].toArray (jD (.tuple #[]) k)
def zS.call (a:Sl) (k:Sl→K): K:=zL Tryz.prog 153 [Sl.val a].toArray (yO Sl.val k)
def xH.call (a:Sl) (b:Int) (k:Int→K): K:=zL Tryz.prog 154 [Sl.val a,.int .i64 b].toArray (yO (Value.int .i64) k)
def zV.call (a:Sl) (b:Value) (k:Int→K): K:=zL Tryz.prog 155 [Sl.val a,b].toArray (yO (Value.int .i64) k)
def y5.call (a:Pt) (b:Av) (k:K): K:=zL Tryz.prog 156 [.pointer a,.agg b].toArray (jD (.tuple #[]) k)
def y5.zUI (a:Pt) (b:Av) (k:K): K:=zOD Tryz.prog 156 [.pointer a,.agg b].toArray (jD (.tuple #[]) k)
def vk.call (c:Pt) (d:Av) (k:Av→Sl→K): K:=zL Tryz.prog 157 [.pointer c,.agg d].toArray (zAQ (fun a b=>.tuple #[Value.agg a,Sl.val b]) k)
def xg.call (a:Pt) (b:Sl) (k:K): K:=zL Tryz.prog 158 [.pointer a,Sl.val b].toArray (jD (.tuple #[]) k)
def qV.call (a b:Pt) (c:ByteArray) (k:K): K:=zL Tryz.prog 159 [.pointer a,.pointer b,.string c].toArray (jD (.tuple #[]) k)
def zGB.call (a:Av) (b:Addr) (k:Bool→K): K:=zL Tryz.prog 160 [.agg a,(.pointer (some b))].toArray (yO Value.bool k)
def y9.call (c:Pt) (d:ByteArray) (k:Av→Bool→K): K:=zL Tryz.prog 161 [.pointer c,.string d].toArray (zAQ (fun a b=>.tuple #[Value.agg a,Value.bool b]) k)
def jS.call (a:ByteArray) (b:Int) (k:Int→K): K:=zL Tryz.prog 162 [.string a,.int .i64 b].toArray (yO (Value.int .i64) k)
def jJ.call (a:Value) (b:Addr) (k:K): K:=zL Tryz.prog 163 [a,(.pointer (some b))].toArray (jD (.tuple #[]) k)
def zG.call (a b:Pt) (c:Value) (k:Bool→K): K:=zL Tryz.prog 164 [.pointer a,.pointer b,c].toArray (yO Value.bool k)
def vH.call (a:Sl) (k:Bool→K): K:=zL Tryz.prog 168 [Sl.val a].toArray (yO Value.bool k)
def xK.call (a:Sl) (b:Value) (k:Bool→K): K:=zL Tryz.prog 169 [Sl.val a,b].toArray (yO Value.bool k)
def zDD.call (a:ByteArray) (b:Addr) (k:Bool→K): K:=zL Tryz.prog 170 [.string a,(.pointer (some b))].toArray (yO Value.bool k)
def qD.call (a:Sl) (b:ByteArray) (k:Bool→K): K:=zL Tryz.prog 171 [Sl.val a,.string b].toArray (yO Value.bool k)
def qW.call (a:Sl) (b:Value) (k:Int→K): K:=zL Tryz.prog 172 [Sl.val a,b].toArray (yO (Value.int .i64) k)
def zDY.call (a:Sl) (b:Int) (k:Value→K): K:=zL Tryz.prog 173 [Sl.val a,.int .i64 b].toArray (yO id k)
def yE.call (a:Sl) (b:Int) (k:Sl→K): K:=zL Tryz.prog 190 [Sl.val a,.int .i64 b].toArray (yO Sl.val k)
def zEe.call (a:Sl) (b c d:Int) (k:K): K:=zL Tryz.prog 191 [Sl.val a,.int .i64 b,.int .i64 c,.int .i64 d].toArray (jD (.tuple #[]) k)
def zJ.call (a:Sl) (b:Value) (k:Sl→K): K:=zL Tryz.prog 192 [Sl.val a,b].toArray (yO Sl.val k)
def jT.call (a:Pt) (b:Av) (k:Int→K): K:=zL Tryz.prog 193 [.pointer a,.agg b].toArray (yO (Value.int .i64) k)
def yM.call (a:Pt) (b:Av) (k:Int→K): K:=zL Tryz.prog 194 [.pointer a,.agg b].toArray (yO (Value.int .i64) k)
def jL.call (a:Value) (k:Sl→K): K:=zL Tryz.prog 195 [a].toArray (yO Sl.val k)
def yT.call (a:(Option Nat)) (k:Value→K): K:=zL Tryz.prog 196 [.map a].toArray (yO id k)
def xQ.call (a:Pt) (b:ByteArray) (c:Int) (k:Int→K): K:=zL Tryz.prog 197 [.pointer a,.string b,.int .i64 c].toArray (yO (Value.int .i64) k)
def zA5.call (a:Pt) (b:ByteArray) (c:Sl) (k:K): K:=zL Tryz.prog 198 [.pointer a,.string b,Sl.val c].toArray (jD (.tuple #[]) k)
def jv.call (a:Pt) (b:ByteArray) (k:K): K:=zL Tryz.prog 199 [.pointer a,.string b].toArray (jD (.tuple #[]) k)
def qo.call (a:Av) (b c d:Addr) (k:Bool→K): K:=zL Tryz.prog 200 [.agg a,(.pointer (some b)),(.pointer (some c)),(.pointer (some d))].toArray (yO Value.bool k)
def yt.call (c:Pt) (d:ByteArray) (k:Int→Bool→K): K:=zL Tryz.prog 201 [.pointer c,.string d].toArray (zAQ (fun a b=>.tuple #[(Value.int .i64) a,Value.bool b]) k)
def qX.call (a:Sl) (b:Value) (k:Int→K): K:=zL Tryz.prog 202 [Sl.val a,b].toArray (yO (Value.int .i64) k)
def qF.call (a:Sl) (b:ByteArray) (k:Int→K): K:=zL Tryz.prog 203 [Sl.val a,.string b].toArray (yO (Value.int .i64) k)
def yw.call (a:Value) (b c:Addr) (k:K): K:=zL Tryz.prog 204 [a,(.pointer (some b)),(.pointer (some c))].toArray (jD (.tuple #[]) k)
def zCr.call  (k:Pt→K): K:=zL Tryz.prog 205 [].toArray (yO Value.pointer k)
def xD.call (a:Pt) (b:Av) (k:Bool→K): K:=zL Tryz.prog 206 [.pointer a,.agg b].toArray (yO Value.bool k)
def zAa.call (a:Pt) (b:ByteArray) (k:Av→K): K:=zL Tryz.prog 223 [.pointer a,.string b].toArray (yO Value.agg k)
def zAA.call (a:Pt) (b:ByteArray) (c:Bool) (d:Sl) (k:K): K:=zL Tryz.prog 224 [.pointer a,.string b,.bool c,Sl.val d].toArray (jD (.tuple #[]) k)
def bytes_Equal.call (a b:Sl) (k:Bool→K): K:=zL Tryz.prog 225 [Sl.val a,Sl.val b].toArray (yO Value.bool k)
def qL.call (a:Pt) (b:Av) (k:Int→K): K:=zL Tryz.prog 226 [.pointer a,.agg b].toArray (yO (Value.int .i64) k)
def uj.call (a:Value) (k:Sl→K): K:=zL Tryz.prog 227 [a].toArray (yO Sl.val k)
def zq.call (a:Value) (b:Addr) (k:K): K:=zL Tryz.prog 228 [a,(.pointer (some b))].toArray (jD (.tuple #[]) k)
def qd.call (a:Pt) (b:ByteArray) (c:Av) (k:K): K:=zL Tryz.prog 229 [.pointer a,.string b,.agg c].toArray (jD (.tuple #[]) k)
def zA.call (c:Sl) (d:ByteArray) (f:Value) (k:Int→Bool→K): K:=zL Tryz.prog 230 [Sl.val c,.string d,f].toArray (zAQ (fun a b=>.tuple #[(Value.int .i64) a,Value.bool b]) k)
def vI.call (a:Av) (b:ByteArray) (k:Int→K): K:=zL Tryz.prog 231 [.agg a,.string b].toArray (yO (Value.int .i64) k)
def jw.call (a b:ByteArray) (k:Int→K): K:=zL Tryz.prog 232 [.string a,.string b].toArray (yO (Value.int .i64) k)
def cmp_isNaN_string.call (a:ByteArray) (k:Bool→K): K:=zL Tryz.prog 238 [.string a].toArray (yO Value.bool k)
def zAF.call (c:Sl) (k:Int→Bool→K): K:=zL Tryz.prog 239 [Sl.val c].toArray (zAQ (fun a b=>.tuple #[(Value.int .i64) a,Value.bool b]) k)
def zBL.call (a:Int) (k:Sl→K): K:=zL Tryz.prog 240 [.int .i64 a].toArray (yO Sl.val k)
def vD.call (a:Sl) (b:Value) (k:Sl→K): K:=zL Tryz.prog 241 [Sl.val a,b].toArray (yO Sl.val k)
def zK.call (c:Pt) (d:ByteArray) (k:Av→Bool→K): K:=zL Tryz.prog 242 [.pointer c,.string d].toArray (zAQ (fun a b=>.tuple #[Value.agg a,Value.bool b]) k)
def zN.call (c:Pt) (d:ByteArray) (f:Av) (k:Av→Bool→K): K:=zL Tryz.prog 243 [.pointer c,.string d,.agg f].toArray (zAQ (fun a b=>.tuple #[Value.agg a,Value.bool b]) k)
def zm.call (c:Pt) (d:ByteArray) (k:Av→Bool→K): K:=zL Tryz.prog 245 [.pointer c,.string d].toArray (zAQ (fun a b=>.tuple #[Value.agg a,Value.bool b]) k)
def zY.call (f:Pt) (g:Av) (k:Av→Bool→Pt→Pt→K): K:=zL Tryz.prog 246 [.pointer f,.agg g].toArray (zDq (fun a b c d=>.tuple #[Value.agg a,Value.bool b,Value.pointer c,Value.pointer d]) k)
def zQ.call (a:Sl) (b c:Int) (k:Sl→K): K:=zL Tryz.prog 247 [Sl.val a,.int .i64 b,.int .i64 c].toArray (yO Sl.val k)
def qp.call (a:Pt) (k:Av→K): K:=zL Tryz.prog 248 [.pointer a].toArray (yO Value.agg k)
def zi.call (a:Pt) (b:Int) (k:K): K:=zL Tryz.prog 249 [.pointer a,.int .i64 b].toArray (jD (.tuple #[]) k)
def zR.call (a:Sl) (b:Int) (c:Sl) (k:Sl→K): K:=zL Tryz.prog 250 [Sl.val a,.int .i64 b,Sl.val c].toArray (yO Sl.val k)
def zf.call (a:Sl) (b:Int) (c:Sl) (k:Sl→K): K:=zL Tryz.prog 251 [Sl.val a,.int .i64 b,Sl.val c].toArray (yO Sl.val k)
def z8.call (a:Sl) (k:Sl→K): K:=zL Tryz.prog 252 [Sl.val a].toArray (yO Sl.val k)
def yA.call (a:Sl) (k:Sl→K): K:=zL Tryz.prog 253 [Sl.val a].toArray (yO Sl.val k)
def zh.call (a:Sl) (b c:Int) (k:Sl→K): K:=zL Tryz.prog 254 [Sl.val a,.int .i64 b,.int .i64 c].toArray (yO Sl.val k)
def uZ.call (a:Sl) (b:Int) (k:K): K:=zL Tryz.prog 256 [Sl.val a,.int .i64 b].toArray (jD (.tuple #[]) k)
def uf.call (a:Sl) (b:Int) (k:K): K:=zL Tryz.prog 258 [Sl.val a,.int .i64 b].toArray (jD (.tuple #[]) k)
def uz.call (a:Sl) (b:Int) (k:K): K:=zL Tryz.prog 259 [Sl.val a,.int .i64 b].toArray (jD (.tuple #[]) k)
def u6.call (a:Sl) (b:Int) (k:K): K:=zL Tryz.prog 260 [Sl.val a,.int .i64 b].toArray (jD (.tuple #[]) k)
def zZ.call (a:Sl) (k:K): K:=zL Tryz.prog 261 [Sl.val a].toArray (jD (.tuple #[]) k)
def za.call (a:Sl) (k:K): K:=zL Tryz.prog 262 [Sl.val a].toArray (jD (.tuple #[]) k)
end
end Go.Proofs.YtdemfamgieonbaaGreat
namespace Go.Sep
section
open Go
section
variable {P:Program} {σ:List (Nat×Value)} {o:Oper} {w w':World} {v:Value} {x y z:Operand} {T:TypeId}
theorem zG1 {vx vy:Value} (ho:o.op = .mapEntry T x y) (hx:ev σ x = some vx) (hy:ev σ y = some vy):∀ v w w',(Instr.mapEntry T vx vy).run P w = .ok v w'→Eff P σ o w (.value v) w':=fun v w w' hr _ _ hs=>by
 simp [execOp,ho,hs.ev hx,hs.ev hy,hr]
theorem zFW {vx vy vz:Value} (ho:o.op = .entryStore T x y z) (hx:ev σ x = some vx) (hy:ev σ y = some vy) (hz:ev σ z = some vz):∀ u w w',(Instr.entryStore T vx vy vz).run P w = .ok u w'→Eff P σ o w .skip w':=fun u w w' hr _ _ hs=>by
 simp [execOp,ho,hs.ev hx,hs.ev hy,hs.ev hz,hr]
theorem zSZ {α β:Type} {sem:Sem Value} {c:α→β→Value} {kx:α→β→K} (hs:∀ v w w',sem.run P w = .ok v w'→Eff P σ o w (.value v) w'):WE P σ o (Do2 P sem c kx) (fun u=>u) (fun u=>zAQ c kx u):=fun w ⟨t,u,w',hd,h⟩=>⟨c t u,w',hs _ _ _ hd,t,u,rfl,h⟩
end
section
variable {P:Program} {dl:List Deferred} {n:Nat} {σ:List (Nat×Value)} {k:K} {ops:Array Oper} {Q:Exit→Act→World→Prop} {o:Oper} {S:World→Prop} {ds done:List Nat} {i d:Nat} {t:Scr}
theorem zcC {kk kS:Value→K} (h:∀ u,G dl n ((d,u)::σ) (Al S (kS u)) (Dx P ops Q S ds (i::done) t)) (hi:ops[i]? = some o:=by rfl) (hd:o.dst = some d:=by rfl) (hw:wants ops σ o = some true:=by rfl) (hp:WE P σ o k (fun u=>u) kk)
  (hS:SvA S kk kS) (hn:Nat.ble (d + 1) n = true:=by rfl) (nd:zBQ o.op = false:=by rfl):G dl n σ (Al S k) (Ox P ops Q S ds done i 1 t):=fun a w hs ⟨_,hk⟩=>by
 obtain ⟨x,w',hp,h'⟩:=hp w hk
 refine zDW hs hi hw fun hQ=>(zCo (r:=none) hs nd hp ⟨fun _ _ _=>(hS x w' h').1,?_⟩)
 rw [hd,zDX (m:=0)]; exact h x _ w' (hs.put (Nat.le_of_ble_eq_true hn) _) (hS x w' h') hQ
end
set_option maxRecDepth 100000 in
theorem zZD {P:Program} {f:FuncId} {fn:Func} {c:Code} {args:List Value} {kk:Value→K} {k:K} (n:Nat) {w:World} (hk:k w) (hf:P.funcs[f]? = some fn) (hb:fn.body = some c:=by rfl) (hn:fn.ntmps = n:=by rfl) (hl:Nat.ble args.length n = true:=by rfl)
  (h:G [] n (zQ8 0 args) k (Cx none P c (zBb P fn (Ret kk))):=by
   repeat' first
   | intro _
   | (refine zT6 ?_; first
     | refine zPJ ?_
     | (refine zUF ?_ rfl; first | refine zTs ?_ | refine zPG ?_)
     | (refine qP 0 ?_ rfl; refine zAp (hp:=by exact zGW) ?_)
     | (refine qP 2 ?_ rfl; first | refine zAp (hp:=by exact zGY) ?_ | (refine zGU ?_; intro b hb; subst hb) | (refine zGV ?_; intro g fs cs hf cb; subst hf))
     | (refine qP 3 ?_ rfl; refine zAp (hp:=by exact zGZ) ?_)
     | (refine qP 13 ?_ rfl; refine zA9 (hp:=by exact zAL) ?_)
     | (refine qP 19 ?_ rfl; first | (refine zTt (hp:=by exact zAO) ?_; intro u; first | refine zIA ?_ | refine zH9 ?_ | refine zDP ?_ | refine zIB ?_ | refine zIC ?_ | refine zID ?_) | refine zA9 (hp:=by exact zA8 (zPB rfl rfl rfl)) ?_ | (refine zPI (hp:=by exact zAO) ?_; intro u; first | refine zPK ?_ | refine zQ6 ?_ | refine zQ7 ?_ | skip) | (refine zTu ?_; intro u; first | refine zIA ?_ | refine zH9 ?_ | refine zDP ?_ | refine zIB ?_ | refine zIC ?_ | refine zID ?_))
     | (refine qP 10 ?_ rfl; first | refine zAp (hp:=by exact zEZ) ?_ | refine uV (hp:=by exact zBU) ?_)
     | (refine qP 8 ?_ rfl; refine uV (hp:=by exact zCg) ?_)
     | (refine qP 20 ?_ rfl; first | refine zAp (hp:=by exact zEc) ?_ | refine zA9 (hp:=by exact zAM) ?_)
     | (refine qP 27 ?_ rfl; refine uV (hp:=by exact zBZ) ?_)
     | (refine qP 4 ?_ rfl; first | refine zAp (hp:=by exact zGa) ?_ | refine uV (hp:=by exact zCe) ?_)
     | (refine qP 17 ?_ rfl; refine zJD (hp:=by exact zDB) ?_)
     | (refine qP 1 ?_ rfl; refine zAp (hp:=by exact zGX) ?_)
     | (refine qP 6 ?_ rfl; refine zAp (hp:=by exact zGc) ?_)
     | (refine qP 15 ?_ rfl; refine zBs (hp:=by exact zC7) ?_)
     | (refine qP 16 ?_ rfl; refine zBs (hp:=by exact zC8) ?_)
     | (refine qP 22 ?_ rfl; first | refine zBs (hp:=by exact jN) ?_ | refine zPH (hp:=by exact jN) ?_)
     | (refine qP 28 ?_ rfl; refine uV (hp:=by exact zBa) ?_)
     | (refine qP 11 ?_ rfl; first | refine uV (hp:=by exact zBV) ?_ | refine zAp (hp:=by exact zEa) ?_ | refine zA9 (hp:=by exact zAK) ?_ | refine zBs (hp:=by exact zC6) ?_)
     | (refine qP 26 ?_ rfl; first | refine uV (hp:=by exact zBY) ?_ | refine zAp (hp:=by exact zEd) ?_)
     | (refine qP 12 ?_ rfl; first | refine uV (hp:=by exact zBW) ?_ | refine zAp (hp:=by exact zEb) ?_)
     | (refine qP 5 ?_ rfl; refine zAp (hp:=by exact zGb) ?_)
     | (refine qP 7 ?_ rfl; refine uV (hp:=by exact zCf) ?_)
     | (refine qP 9 ?_ rfl; refine uV (hp:=by exact zCh) ?_)
     | (refine qP 14 ?_ rfl; first | refine zA9 (hp:=by exact zA8 (yI rfl rfl rfl)) ?_ | (refine zA9 (hp:=by exact zBI (yI rfl rfl rfl)) ?_; intro u; refine zDP ?_))
     | (refine qP 18 ?_ rfl; refine zJD (hp:=by exact zDC) ?_)
     | (refine qP 99 ?_ rfl; refine zBs (hp:=by exact zSZ (zG1 rfl rfl rfl)) ?_; intro u; refine zDP ?_)
     | (refine qP 99 ?_ rfl; refine zJD (hp:=by exact zQz (zFW rfl rfl rfl rfl)) ?_)
     | (refine qP 21 ?_ rfl; refine uV (hp:=by exact zBX) ?_)
     | (refine qP 23 ?_ rfl; refine zBs (hp:=by exact zC9) ?_)
     | (refine qP 24 ?_ rfl; refine zBs (hp:=by exact zDA) ?_)
     | (refine qP 25 ?_ rfl; refine zA9 (hp:=by exact zAN) ?_)
     | (refine zPL ?_ ?_ <;> (intro hb; refine zBT ?_; intro a w hs; try rw [hb] at hs; clear hb; revert hs; revert w; revert a; refine zCd ?_)))
   | (refine zT7 ?_; first
     | refine zPO ?_
     | (refine zPj ?_; first | (refine zLX ?_; (repeat apply zYt); refine And.intro zE8 (And.intro ?_ ?_)) | refine zPM ?_)
     | refine zHm ?_ ?_ rfl
     | refine zLY ?_
     | refine zPN ?_
     | refine zJF ?_
     | refine zLZ ?_
     | refine zLa ?_
     | (refine zLg ?_; first | refine zHg ?_ | refine zHh ?_)
     | (refine zLh ?_; first | refine zJM ?_ | refine zJL ?_ | refine zJN ?_ | refine zJO ?_)
     | refine zJE ?_
     | refine zHl ?_ ?_
     | refine zHk ?_ ?_ ?_
     | refine zAJ ?_)
   | (refine zT8 ?_; first
     | refine zLb ?_
     | refine zHj ?_
     | refine zHi ?_
     | refine zPQ ?_
     | refine zJG ?_
     | refine zJH ?_
     | refine zJI ?_
     | refine zLc ?_
     | refine zSW ?_
     | refine zSX ?_
     | exact zY6
     | exact zY7
     | exact zY8
     | refine zAJ ?_)
   | exact zLV
   | refine zTv ?_
   | (refine zT9 ?_; first
     | refine zPS ?_
     | refine zPT ?_
     | refine zLd ?_
     | refine zJJ ?_)
   | (refine zUA ?_; first
     | exact zYw
     | exact zYv
     | exact zYx
     | exact zYy
     | exact zYz
     | exact zY0)
   | (refine zUB ?_; first
     | refine zPY ?_
     | refine zPZ ?_
     | refine zY1 ?_
     | (refine zLe ?_ ?_ <;> (intro hb; refine zBT ?_; intro a w hs; try rw [hb] at hs; clear hb; revert hs; revert w; revert a; refine zCd ?_))
     | (refine zPa ?_ ?_ <;> (intro hb; refine zBT ?_; intro a w hs; try rw [hb] at hs; clear hb; revert hs; revert w; revert a; refine zCd ?_))
     | (refine zPk ?_ rfl; first | refine zTz ?_ | refine zPX ?_)
     | (refine vM 0 ?_ rfl; refine zAq (hp:=by exact zGW) ?_)
     | (refine vM 2 ?_ rfl; first | refine zAq (hp:=by exact zGY) ?_ | (refine zT0 ?_; intro b hb; subst hb) | (refine zGU ?_; intro b hb; subst hb) | (refine zT1 ?_; intro g fs cs hf cb; subst hf) | (refine zGV ?_; intro g fs cs hf cb; subst hf))
     | (refine vM 3 ?_ rfl; refine zAq (hp:=by exact zGZ) ?_)
     | (refine vM 13 ?_ rfl; first | refine zB6 (hp:=by exact zAL) ?_ | refine zEr (hp:=by exact zLj) ?_)
     | (refine vM 10 ?_ rfl; first | refine zAq (hp:=by exact zEZ) ?_ | refine vB (hp:=by exact zBU) ?_ | refine uW (hp:=by exact zBU) ?_)
     | (refine vM 8 ?_ rfl; first | refine vB (hp:=by exact zCg) ?_ | refine uW (hp:=by exact zCg) ?_)
     | (refine vM 20 ?_ rfl; first | refine zAq (hp:=by exact zEc) ?_ | refine zB6 (hp:=by exact zAM) ?_ | refine zEr (hp:=by exact zLk) ?_)
     | (refine vM 27 ?_ rfl; first | refine vB (hp:=by exact zBZ) ?_ | refine uW (hp:=by exact zBZ) ?_)
     | (refine vM 4 ?_ rfl; first | refine zAq (hp:=by exact zGa) ?_ | refine vB (hp:=by exact zCe) ?_ | refine uW (hp:=by exact zCe) ?_)
     | (refine vM 1 ?_ rfl; refine zAq (hp:=by exact zGX) ?_)
     | (refine vM 6 ?_ rfl; refine zAq (hp:=by exact zGc) ?_)
     | (refine vM 28 ?_ rfl; first | refine vB (hp:=by exact zBa) ?_ | refine uW (hp:=by exact zBa) ?_)
     | (refine vM 11 ?_ rfl; first | refine vB (hp:=by exact zBV) ?_ | refine uW (hp:=by exact zBV) ?_ | refine zAq (hp:=by exact zEa) ?_ | refine zB6 (hp:=by exact zAK) ?_ | refine zEr (hp:=by exact zLi) ?_)
     | (refine vM 26 ?_ rfl; first | refine vB (hp:=by exact zBY) ?_ | refine uW (hp:=by exact zBY) ?_ | refine zAq (hp:=by exact zEd) ?_)
     | (refine vM 12 ?_ rfl; first | refine vB (hp:=by exact zBW) ?_ | refine uW (hp:=by exact zBW) ?_ | refine zAq (hp:=by exact zEb) ?_)
     | (refine vM 5 ?_ rfl; refine zAq (hp:=by exact zGb) ?_)
     | (refine vM 7 ?_ rfl; first | refine vB (hp:=by exact zCf) ?_ | refine uW (hp:=by exact zCf) ?_)
     | (refine vM 9 ?_ rfl; first | refine vB (hp:=by exact zCh) ?_ | refine uW (hp:=by exact zCh) ?_)
     | (refine vM 14 ?_ rfl; first | refine zB6 (hp:=by exact zA8 (yI rfl rfl rfl)) ?_ | (refine zB6 (hp:=by exact zBI (yI rfl rfl rfl)) ?_; intro u; refine zCG ?_) | refine zEr (hp:=by exact zKs (yI rfl rfl rfl)) ?_ | (refine zEr (hp:=by exact zMJ (yI rfl rfl rfl)) ?_; intro u; refine zCG ?_))
     | (refine vM 21 ?_ rfl; first | refine vB (hp:=by exact zBX) ?_ | refine uW (hp:=by exact zBX) ?_)
     | (refine vM 25 ?_ rfl; first | refine zB6 (hp:=by exact zAN) ?_ | refine zEr (hp:=by exact zLl) ?_)
     | refine zAJ ?_)
   | (refine zUC ?_; first
     | (refine j4 13 ?_ rfl; first | refine zAZ (hp:=by exact zAL) ?_ | refine zB8 (hp:=by exact zAL) ?_)
     | (refine j4 19 ?_ rfl; first | (refine zT4 (hp:=by exact zAO) ?_; intro u; first | refine zPb ?_ | refine zPl ?_ | refine zCG ?_) | (refine zY2 (hp:=by exact zAO) ?_; intro u; first | refine zIA ?_ | refine zH9 ?_ | refine zDP ?_ | refine zIB ?_ | refine zIC ?_ | refine zID ?_) | (refine zT3 (hp:=by exact zAO) ?_; intro u; first | refine zPK ?_ | refine zQ6 ?_ | refine zQ7 ?_ | skip) | (refine zY3 ?_; intro u; first | refine zIA ?_ | refine zH9 ?_ | refine zDP ?_ | refine zIB ?_ | refine zIC ?_ | refine zID ?_))
     | (refine j4 20 ?_ rfl; first | refine zAZ (hp:=by exact zAM) ?_ | refine zB8 (hp:=by exact zAM) ?_)
     | (refine j4 17 ?_ rfl; first | refine zJK (hp:=by exact zDB) ?_ | refine zPf (hp:=by exact zDB) ?_)
     | (refine j4 15 ?_ rfl; first | refine zB7 (hp:=by exact zC7) ?_ | refine zEY (hp:=by exact zC7) ?_)
     | (refine j4 16 ?_ rfl; first | refine zB7 (hp:=by exact zC8) ?_ | refine zEY (hp:=by exact zC8) ?_)
     | (refine j4 22 ?_ rfl; first | refine zB7 (hp:=by exact jN) ?_ | refine zEY (hp:=by exact jN) ?_ | refine zPg (hp:=by exact jN) ?_ | refine zT2 (hp:=by exact jN) ?_)
     | (refine j4 11 ?_ rfl; first | refine zB7 (hp:=by exact zC6) ?_ | refine zEY (hp:=by exact zC6) ?_ | refine zAZ (hp:=by exact zAK) ?_ | refine zB8 (hp:=by exact zAK) ?_)
     | (refine j4 14 ?_ rfl; first | refine zAZ (hp:=by exact zA8 (yI rfl rfl rfl)) ?_ | (refine zAZ (hp:=by exact zBI (yI rfl rfl rfl)) ?_; intro u; refine zCG ?_) | refine zB8 (hp:=by exact zA8 (yI rfl rfl rfl)) ?_ | (refine zB8 (hp:=by exact zBI (yI rfl rfl rfl)) ?_; intro u; refine zDP ?_))
     | (refine j4 18 ?_ rfl; first | refine zJK (hp:=by exact zDC) ?_ | refine zPf (hp:=by exact zDC) ?_)
     | (refine j4 99 ?_ rfl; first | (refine zcC (hp:=by exact zSZ (zG1 rfl rfl rfl)) (hS:=zaY) ?_; intro u; refine zCG ?_) | (refine zEY (hp:=by exact zSZ (zG1 rfl rfl rfl)) ?_; intro u; refine zDP ?_) | refine zJK (hp:=by exact zQz (zFW rfl rfl rfl rfl)) ?_ | refine zPf (hp:=by exact zQz (zFW rfl rfl rfl rfl)) ?_)
     | (refine j4 23 ?_ rfl; first | refine zB7 (hp:=by exact zC9) ?_ | refine zEY (hp:=by exact zC9) ?_)
     | (refine j4 24 ?_ rfl; first | refine zB7 (hp:=by exact zDA) ?_ | refine zEY (hp:=by exact zDA) ?_)
     | (refine j4 25 ?_ rfl; first | refine zAZ (hp:=by exact zAN) ?_ | refine zB8 (hp:=by exact zAN) ?_)
     | refine zAJ ?_)
   | refine zLf ?_ ?_
   | refine zPc ?_ ?_
   | exact zPd
   | refine zPe ?_
   | (refine zUE ?_; exact zPP)
   | (refine zUD ?_; first
     | refine zPi ?_
     | (refine zUG ?_ rfl; refine zT5 ?_)
     | (refine vL 0 ?_ rfl; refine zAr (hp:=by exact zGW) ?_)
     | (refine vL 2 ?_ rfl; first | refine zAr (hp:=by exact zGY) ?_ | (refine zGU ?_; intro b hb; subst hb) | (refine zGV ?_; intro g fs cs hf cb; subst hf))
     | (refine vL 3 ?_ rfl; refine zAr (hp:=by exact zGZ) ?_)
     | (refine vL 13 ?_ rfl; refine zB9 (hp:=by exact zAL) ?_)
     | (refine vL 10 ?_ rfl; first | refine zAr (hp:=by exact zEZ) ?_ | refine uX (hp:=by exact zBU) ?_)
     | (refine vL 8 ?_ rfl; refine uX (hp:=by exact zCg) ?_)
     | (refine vL 20 ?_ rfl; first | refine zAr (hp:=by exact zEc) ?_ | refine zB9 (hp:=by exact zAM) ?_)
     | (refine vL 27 ?_ rfl; refine uX (hp:=by exact zBZ) ?_)
     | (refine vL 4 ?_ rfl; first | refine zAr (hp:=by exact zGa) ?_ | refine uX (hp:=by exact zCe) ?_)
     | (refine vL 1 ?_ rfl; refine zAr (hp:=by exact zGX) ?_)
     | (refine vL 6 ?_ rfl; refine zAr (hp:=by exact zGc) ?_)
     | (refine vL 28 ?_ rfl; refine uX (hp:=by exact zBa) ?_)
     | (refine vL 11 ?_ rfl; first | refine uX (hp:=by exact zBV) ?_ | refine zAr (hp:=by exact zEa) ?_ | refine zB9 (hp:=by exact zAK) ?_)
     | (refine vL 26 ?_ rfl; first | refine uX (hp:=by exact zBY) ?_ | refine zAr (hp:=by exact zEd) ?_)
     | (refine vL 12 ?_ rfl; first | refine uX (hp:=by exact zBW) ?_ | refine zAr (hp:=by exact zEb) ?_)
     | (refine vL 5 ?_ rfl; refine zAr (hp:=by exact zGb) ?_)
     | (refine vL 7 ?_ rfl; refine uX (hp:=by exact zCf) ?_)
     | (refine vL 9 ?_ rfl; refine uX (hp:=by exact zCh) ?_)
     | (refine vL 14 ?_ rfl; first | refine zB9 (hp:=by exact zA8 (yI rfl rfl rfl)) ?_ | (refine zB9 (hp:=by exact zBI (yI rfl rfl rfl)) ?_; intro u; refine zDP ?_))
     | (refine vL 21 ?_ rfl; refine uX (hp:=by exact zBX) ?_)
     | (refine vL 25 ?_ rfl; refine zB9 (hp:=by exact zAN) ?_)
     | (refine zPh ?_ ?_ <;> (intro hb; refine zBT ?_; intro a w hs; try rw [hb] at hs; clear hb; revert hs; revert w; revert a; refine zCd ?_)))
   | refine zY4 ?_
   | refine zY5 ?_
   | exact zLW
   | refine zAJ ?_) :
  zL P f args.toArray kk w:=zPU n hk hf h hb hn hl
end
section
open Go Go.RowKit
def zRF (P:Program) (U:TypeId):Bool:=match P.underlying U with | some (.slice _)=>true | _=>false
def zJ9 (P:Program) (E n:Nat):Bool:=(P.info? E).map (·.bytes) == some n
theorem zOE (need:Nat):∀ (r c:Nat),Builtin.growBy need r c ≤ max c (need + (need + 768) / 4)
 | 0,c=>by simp only [Builtin.growBy]; omega
 | r + 1,c=>by
  simp only [Builtin.growBy]
  split
  ·omega
  ·have:=zOE need r (c + (c + 768) / 4); omega
theorem zMO {need c:Nat} (h:c < need):Builtin.nextslicecap need c ≤ 2 * need + 800:=by
 unfold Builtin.nextslicecap
 split
 ·omega
 ·split
  ·omega
  ·have:=zOE need 4 c; omega
theorem fold_size:∀ (us:List Value) (o:Nat) (cs:Array Value),((us.zipIdx o).foldl (fun c p=>c.setIfInBounds p.2 p.1) cs).size = cs.size
 | [],o,cs=>rfl
 | u::us,o,cs=>by simp only [List.zipIdx_cons,List.foldl_cons]; rw [fold_size us (o + 1)]; simp
theorem zEP:∀ (us:List Value) (o:Nat) (cs:Array Value) (j:Nat),j < o∨o + us.length ≤ j→((us.zipIdx o).foldl (fun c p=>c.setIfInBounds p.2 p.1) cs)[j]? = cs[j]?
 | [],o,cs,j,_=>rfl
 | u::us,o,cs,j,h=>by
  simp only [List.zipIdx_cons,List.foldl_cons]
  simp only [List.length_cons] at h
  rw [zEP us (o + 1) _ j (by omega),Array.getElem?_setIfInBounds_ne (by omega)]
theorem zLn:∀ (us:List Value) (o:Nat) (cs:Array Value) (j:Nat),j < us.length→o + us.length ≤ cs.size→((us.zipIdx o).foldl (fun c p=>c.setIfInBounds p.2 p.1) cs)[o + j]? = us[j]?
 | [],o,cs,j,h,_=>by simp at h
 | u::us,o,cs,0,h,hs=>by
  simp only [List.zipIdx_cons,List.foldl_cons,List.length_cons] at hs ⊢
  rw [zEP us (o + 1) _ (o + 0) (by omega)]
  have:o < cs.size:=by omega
  simp [this]
 | u::us,o,cs,j + 1,h,hs=>by
  simp only [List.zipIdx_cons,List.foldl_cons,List.length_cons] at h hs ⊢
  rw [show o + (j + 1) = (o + 1) + j by omega,zLn us (o + 1) _ j (by omega) (by simp; omega)]
  simp
section
variable {P:Program} {B w:World} {Γ:List zC}
theorem zCK {x:Sl} {esz:Nat} {us:List Value} (h:RdC w x esz us):(Builtin.firstCells esz x.n x.val).run P w = .ok us.toArray w:=by
 obtain ⟨a,n,c⟩:=x
 cases a with
 | none=>
  have h1:=h.nil rfl
  have h2:=h.len
  simp only at h1; subst h1
  simp at h2; subst h2
  simp [Builtin.firstCells]
 | some a=>
  have h2:=h.len
  have h3:RdN w a us.toArray:=fun i hi=>by
   have:=h.at' a rfl i (by simpa using hi)
   simpa using this
  have:=run_loadCells (P:=P) h3
  simp only [List.size_toArray,h2] at this
  simp only [Builtin.firstCells]
  exact this
theorem run_askRoom (n:Nat):(askRoom n).run P w = .ok () w:=by
 unfold askRoom
 split
 ·simp [mark,Sem.run]
 ·rfl
theorem zKv {E n:Nat} (h:zJ9 P E n = true):∃ i,P.info? E = some i∧i.bytes = n:=by
 unfold zJ9 at h
 cases hi:P.info? E with
 | none=>simp [hi] at h
 | some i=>exact ⟨i,rfl,by simpa [hi] using h⟩
theorem zMP {T U E esz by' Tr:Nat} {s x:Sl} {vs us:List Value} {zv:Value} (h:Holds B (SlC E esz s vs::Γ) w) (hT:sliceT P T E esz = true) (hU:zRF P U = true) (hby:zJ9 P E by' = true)
  (hz:zBl P E zv) (hzs:zv.cells.size = esz) (hx:RdC w x esz us) (hfl:∀ u ∈ us,yu u = true) (hroom:(2 * (s.n + x.n) + 800) * by' ≤ 2 ^ 48) (hb0:by' ≠ 0) :
  ∃ s' w',(Builtin.append_ #[T,U] Tr #[s.val,x.val]).run P w = .ok s'.val w'∧Holds B (SlC E esz s' (vs++us)::Γ) w'∧s'.n = s.n + x.n∧(s.a.isSome = true→s'.a.isSome = true)∧(s.n + x.n ≤ s.c→s' = ⟨s.a,s.n + x.n,s.c⟩):=by
 obtain ⟨hsl,hsz⟩:=zAC hT
 obtain ⟨ib,hib,hbytes⟩:=zKv hby
 have hti:(typeInfo E).run P w = .ok ib w:=by simp [typeInfo,program,hib,Sem.run]
 have hU':∃ e,P.underlying U = some (.slice e):=by
  unfold zRF at hU; split at hU
  ·rename_i e he; exact ⟨e,he⟩
  ·cases hU
 obtain ⟨e,hU'⟩:=hU'
 have hrs:=h.rdC (List.mem_cons_self ..)
 have hfc:=zCK (P:=P) hx
 have hulen:=hx.len
 unfold Builtin.append_
 have hget:(#[T,U]:Array TypeId)[0]? = some T:=rfl
 have hget1:(#[T,U]:Array TypeId)[1]? = some U:=rfl
 have hv0:(#[s.val,x.val]:Array Value)[0]? = some s.val:=rfl
 have hv1:(#[s.val,x.val]:Array Value)[1]? = some x.val:=rfl
 simp only [hget,hget1,hv0,hv1]
 simp only [Sem.run_bind,run_underlying hsl,Result.andThen,Sl.val,jE hsz,run_underlying hU',Sem.run_pure,Builtin.lenOf,Bool.false_eq_true,if_false,Bool.not_false,if_true]
 by_cases hn:s.n + x.n ≤ s.c
 ·simp only [hn,if_true]
  simp only [Sem.run_bind,hfc,Result.andThen]
  obtain ⟨sa,sn,sc⟩:=s
  cases sa with
  | none=>
   have h1:=h.fact (p:=sc = 0∧vs.length = sn * esz∧sn ≤ sc) (fun _ ha=>⟨ha.2.2,ha.1,ha.2.1⟩)
   simp only at hn
   have hxn:x.n = 0:=by omega
   have hus:us = []:=by rw [hxn] at hulen; simpa using hulen
   refine ⟨⟨none,sn + x.n,sc⟩,w,by simp,?_,rfl,fun h=>h,fun _=>rfl⟩
   subst hus
   rw [hxn]
   simpa using h
  | some a=>
   obtain ⟨hl,hc,hsp,cs,fz,hcond⟩:vs.length = sn * esz∧sn ≤ sc∧a.spot = none∧∃ cs fz,(w.heap[a.block]? = some (.cells cs E fz))∧(∀ i,a.off ≤ i→i < a.off + sc * esz→¬ (fz.1 ≤ i∧i < fz.2))∧a.off + sc * esz ≤ cs.size∧∀ i,i < vs.length→cs[a.off + i]? = vs[i]?:=by
    obtain ⟨_,h1,h2,⟨hl,hc,hsp,cs,fz,hb,hf,hsz,hv⟩,_,l1,_,_⟩:=h
    exact ⟨hl,hc,hsp,cs,fz,zHb l1 hb,hf,hsz,hv⟩
   obtain ⟨hb,hf,hcap,hv⟩:=hcond
   obtain ⟨b,off,sp⟩:=a
   simp only at hsp hb hf hcap hv; subst hsp
   simp only at hn
   have hmul:sn * esz + us.length ≤ sc * esz:=by rw [hulen,← Nat.add_mul]; exact Nat.mul_le_mul_right _ hn
   have hst:(storeCells ((⟨b,off,none⟩:Addr).add (sn * esz)) us).run P w = .ok () (setCells ((⟨b,off,none⟩:Addr).add (sn * esz)) us 0 w):=by
    refine zCF us 0 w hfl fun j hj=>?_
    rw [uT,uT]
    have hlt:off + sn * esz + (0 + j) < cs.size:=by omega
    exact ⟨⟨_,vE hb (Array.getElem?_eq_getElem hlt)⟩,zA7 hb (hf _ (by omega) (by omega))⟩
   refine ⟨⟨some ⟨b,off,none⟩,sn + x.n,sc⟩,setCells ((⟨b,off,none⟩:Addr).add (sn * esz)) us 0 w,by simp [hst],?_,rfl,fun _=>rfl,fun _=>rfl⟩
   rw [uT,zBv _ _ _ _ _ hb]
   have h2:Holds B (blk b (.cells cs E fz)::Γ) w:=h.imp' hb
   have h3:=h2.setBlock (o':=.cells ((us.zipIdx (off + sn * esz + 0)).foldl (fun c p=>c.setIfInBounds p.2 p.1) cs) E fz) rfl
   refine h3.imp fun g hg=>?_
   refine ⟨?_,hn,rfl,_,fz,hg,hf,?_,?_⟩
   ·simp [hl,hulen,Nat.add_mul]
   ·rw [fold_size]; exact hcap
   ·intro i hi
    simp only [List.length_append] at hi
    simp only [Nat.add_zero]
    by_cases hlt:i < vs.length
    ·rw [zEP _ _ _ _ (by omega),List.getElem?_append_left hlt]; exact hv i hlt
    ·rw [show off + i = off + sn * esz + (i - vs.length) by omega,zLn _ _ _ _ (by omega) (by omega),List.getElem?_append_right (by omega)]
 ·simp only [hn,if_false]
  have hsn:=h.fact (p:=vs.length = s.n * esz∧s.n ≤ s.c) (fun _ ha=>⟨ha.1,ha.2.1⟩)
  have hcap:=zMO (show s.c < s.n + x.n by omega)
  have hcap2:¬ (Builtin.nextslicecap (s.n + x.n) s.c * ib.bytes > 2 ^ 48):=by
   rw [hbytes]
   have:=Nat.mul_le_mul_right by' hcap
   omega
  have hbig:s.n + x.n < 2 ^ 60:=by
   have:(2 * (s.n + x.n) + 800) * 1 ≤ (2 * (s.n + x.n) + 800) * by':=Nat.mul_le_mul_left _ (by omega)
   omega
  have hi64:¬ ((s.n + x.n:Nat):Int) > IntKind.i64.max:=by simp [IntKind.max,IntKind.signed,IntKind.bits]; omega
  simp only [Sem.run_bind,hti,Result.andThen]
  rw [if_neg (by rintro ⟨h1,_⟩; exact hi64 h1)]
  simp only [Sem.run_bind,hti,Result.andThen,Sem.run_pure]
  rw [if_neg hcap2]
  obtain ⟨newCap,w1,hch,hle,hw1⟩:∃ nc w1,(choose (.appendCap (s.n + x.n) s.c E)).run P w = .ok nc w1∧s.n + x.n ≤ nc∧w1 = { w with drawn:=w.drawn + 1 }:=by
   refine ⟨(Question.appendCap (s.n + x.n) s.c E).cut (w.tape w.drawn (.appendCap (s.n + x.n) s.c E)),_,by simp [choose,Sem.run,Question.forced],?_,rfl⟩
   simp only [Question.cut]; omega
  have h1:Holds B (SlC E esz s vs::Γ) w1:=by rw [hw1]; exact h.drew _
  have hx1:RdC w1 x esz us:=⟨hx.len,hx.nil,fun a ha i hi=>by rw [hw1]; exact hx.at' a ha i hi⟩
  have hrs1:=h1.rdC (List.mem_cons_self ..)
  have hti1:(typeInfo E).run P w1 = .ok ib w1:=by simp [typeInfo,program,hib,Sem.run]
  have hf1:=zCK (P:=P) hrs1
  have hf2:=zCK (P:=P) hx1
  simp only [Sl.val] at hf1 hf2
  simp only [hch,hti1,run_askRoom,hf1,hf2,zAx hz,Sem.run_bind,Result.andThen,Sem.run_pure,newRow,newObj,Sem.run]
  refine ⟨⟨some ⟨w1.heap.size,0,none⟩,s.n + x.n,newCap⟩,_,rfl,?_,rfl,fun _=>rfl,(fun hh=>by first | exact hh.elim | exact absurd hh hn)⟩
  have h2:=(h1.tail).alloc (.cells (vs.toArray++us.toArray++Builtin.zeroCells zv.cells (newCap - (s.n + x.n))) E)
  refine h2.imp fun g hg=>⟨?_,hle,rfl,_,(0,0),hg,?_,?_,?_⟩
  ·simp [hsn.1,hulen,Nat.add_mul]
  ·intro i _ _; simp
  ·simp only [Nat.zero_add,Array.size_append,List.size_toArray,hsn.1,hulen,Builtin.zeroCells,Array.size_map,Array.size_range,hzs]
   rw [← Nat.add_mul,← Nat.add_mul]
   exact Nat.mul_le_mul_right _ (by omega)
  ·intro i hi
   simp only [Nat.zero_add]
   rw [Array.getElem?_append_left (by simpa using hi)]
   simp [List.getElem?_append,Array.getElem?_append]
theorem zMQ {T U E esz by' Tr:Nat} {s x:Sl} {vs us:List Value} {zv:Value} {k:Sl→K} (h:Holds B (SlC E esz s vs::Γ) w) (hT:sliceT P T E esz = true) (hU:zRF P U = true) (hby:zJ9 P E by' = true)
  (hz:zBl P E zv) (hzs:zv.cells.size = esz) (hx:RdC w x esz us) (hfl:∀ u ∈ us,yu u = true) (hroom:(2 * (s.n + x.n) + 800) * by' ≤ 2 ^ 48) (hb0:by' ≠ 0)
  (hk:∀ s' w',Holds B (SlC E esz s' (vs++us)::Γ) w'→s'.n = s.n + x.n→(s.a.isSome = true→s'.a.isSome = true)→k s' w'):Do P (Builtin.append_ #[T,U] Tr #[s.val,x.val]) Sl.val k w:=by
 obtain ⟨s',w',hr,hh,hn,ha,_⟩:=zMP (Tr:=Tr) h hT hU hby hz hzs hx hfl hroom hb0
 exact ⟨s',w',hr,hk s' w' hh hn ha⟩
theorem zAB {b E esz n:Nat} {vs:List Value} {cs:Array Value} (hc:cs.toList = vs) (hn:vs.length = n * esz) (g:Hp) (h:blk b (.cells cs E (0,0)) g):SlC E esz ⟨some ⟨b,0,none⟩,n,n⟩ vs g:=by
 subst hc
 refine ⟨hn,Nat.le_refl _,rfl,cs,(0,0),h,fun i _ _=>by simp,?_,fun i hi=>?_⟩
 ·simp at hn ⊢; omega
 ·simp
theorem Holds.zAm (h:Holds B Γ w) (E esz:Nat):Holds B (SlC E esz ⟨none,0,0⟩ []::Γ) w:=by
 refine ⟨h.below,fun _=>Option.none,_,⟨by simp,Nat.le_refl _,rfl⟩,h.stars,fun _ _ e=>(by cases e),Hp.le_refl _,fun _=>.inl rfl⟩
theorem RdC.zMR {b E esz n:Nat} {vs:List Value} {cs:Array Value} (h:Holds B Γ w) (hm:blk b (.cells cs E (0,0)) ∈ Γ) (hc:cs.toList = vs) (hn:vs.length = n * esz) (c:Nat):RdC w ⟨some ⟨b,0,none⟩,n,c⟩ esz vs:=by
 subst hc
 refine ⟨hn,(fun hh=>by cases hh),fun a ha i hi=>?_⟩
 cases ha
 rw [uT,Nat.zero_add]
 have h1:=h.zTf hm
 have h2:cs.toList[i]? = some cs.toList[i]:=by simp [hi]
 rw [h2]
 have h3:cs[i]? = some (cs.toList[i]):=by rw [← h2]; simp
 exact vE h1 h3
theorem zJR {l:List Value} (h:l.all yu = true):∀ v ∈ l,yu v = true:=List.all_eq_true.1 h
theorem zFA (xs:List UInt8):∀ u ∈ xs.map ji,yu u = true:=fun u hu=>by
 obtain ⟨b,_,rfl⟩:=List.mem_map.1 hu; rfl
end
end
section
open Go Go.RowKit Go.ChangeShapes Go.WideShapes Go.ChangeAt Go.Deep
inductive Sh where
 | bool
 | int (k:IntKind)
 | str
 | sl (e:Sh) (esz:Nat)
 | nil
 | fld (off n:Nat) (s rest:Sh)
def Rdy (w:World):Sh→List Value→Prop
 | .bool,cs=>∃ b,cs = [.bool b]
 | .int k,cs=>∃ n,cs = [.int k n]∧(Lit.int k n).wf = true
 | .str,cs=>∃ s:ByteArray,cs = [.string s]∧s.size ≤ maxLen
 | .sl e esz,cs=>∃ s:Sl,cs = [s.val]∧s.n ≤ s.c∧s.c ≤ maxLen∧(s.a = none→s.n = 0∧s.c = 0) ∧
   ∀ a i,s.a = some a→i < s.n→∃ cs',cs'.length = esz∧(∀ j,j < esz→w.cell? (a.add (i * esz + j)) = cs'[j]?)∧Rdy w e cs'
 | .nil,_=>True
 | .fld off n s rest,cs=>Rdy w s ((cs.drop off).take n)∧Rdy w rest cs
def zPm (P:Program):Nat→TypeId→Sh
 | 0,_=>.nil
 | n + 1,t=>match P.underlying t with
  | some .bool=>.bool
  | some (.int k)=>.int k
  | some .string=>.str
  | some (.slice e)=>.sl (zPm P n e) (P.cellsOf e)
  | some (.struct fs)=>fs.toList.foldr (fun f r=>.fld f.offset (P.cellsOf f.type) (zPm P n f.type) r) .nil
  | some (.array m e)=>(List.range m).foldr (fun i r=>.fld (i * P.cellsOf e) (P.cellsOf e) (zPm P n e) r) .nil
  | _=>.nil
section
variable {H:Type} {enc:TypeId×Value→H} {P:Program} {w:World} {base:Nat} {spare:Nat→Bool} {held:Bool}
theorem zRG {cs:List Value} {g:Field→Sh}:∀ (fs:List Field),(∀ f ∈ fs,Rdy w (g f) ((cs.drop f.offset).take (P.cellsOf f.type))) →
  Rdy w (fs.foldr (fun f r=>.fld f.offset (P.cellsOf f.type) (g f) r) .nil) cs
 | [],_=>trivial
 | f::fs,h=>⟨h f (by simp),zRG fs fun x hx=>h x (by simp [hx])⟩
theorem zFR:∀ (n:Nat) (t:TypeId) (fuel:Nat) (cs:List Value) (x:DataW H×List MemPlace),DataW.trod enc P w base spare held fuel t cs = some x→Rdy w (zPm P n t) cs
 | 0,_,_,_,_,_=>trivial
 | n + 1,t,fuel,cs,x,h=>by
  unfold zPm
  split
  ·rename_i hu; obtain ⟨b,hb,_⟩:=DataW.trod_bool hu h; exact ⟨b,hb⟩
  ·rename_i k hu; obtain ⟨b,hb,_,hw⟩:=DataW.trod_int hu h; exact ⟨b,hb,hw⟩
  ·rename_i hu; obtain ⟨s,hs,_,hw⟩:=DataW.trod_string hu h; exact ⟨s,hs,hw⟩
  ·rename_i e hu
   rcases open_slice hu h with ⟨rfl,_⟩ | ⟨a,len,cap,m,n',D,Pl,rfl,hb,hl,hm,hmm,hx,hi⟩
   ·exact ⟨⟨none,0,0⟩,rfl,Nat.le_refl _,Nat.zero_le _,fun _=>⟨rfl,rfl⟩,(fun a i ha=>by cases ha)⟩
   ·refine ⟨⟨some a,len,cap⟩,rfl,hl,hm,(fun hn=>by cases hn),fun a' i ha hi'=>?_⟩
    cases ha
    simp only at hi'
    obtain ⟨cs',hc,ht⟩:=hi i (by rw [hmm]; split <;> omega)
    obtain ⟨_,hlen,hcell⟩:=World.cells?_some hc
    refine ⟨cs',hlen,fun j hj=>?_,zFR n e _ cs' _ ht⟩
    rw [← Go.Deep.add_add]
    exact hcell j hj
  ·rename_i fs hu
   obtain ⟨xs,n',_,_,hlen,hxl,hf⟩:=DataW.trod_struct hu h
   refine zRG _ fun f hf'=>?_
   obtain ⟨i,hi⟩:=List.mem_iff_getElem?.1 hf'
   have hi':fs[i]? = some f:=by simpa using hi
   have h1:=hf i f hi'
   have hlt:i < xs.length:=by rw [hxl]; exact (Array.getElem?_eq_some_iff.1 hi').1
   rw [List.getElem?_eq_getElem hlt] at h1
   exact zFR n f.type _ _ _ h1
  ·rename_i m e hu
   obtain ⟨xs,n',_,_,hlen,hxl,hf⟩:=DataW.trod_array hu h
   have key:∀ l:List Nat,(∀ i ∈ l,i < m)→Rdy w (l.foldr (fun i r=>.fld (i * P.cellsOf e) (P.cellsOf e) (zPm P n e) r) .nil) cs:=by
    intro l
    induction l with
    | nil=>intro _; trivial
    | cons i l ih=>
     intro hl
     have hi:=hl i List.mem_cons_self
     have h1:=hf i hi
     rw [List.getElem?_eq_getElem (by omega)] at h1
     exact ⟨zFR n e _ _ _ h1,ih fun j hj=>hl j (List.mem_cons_of_mem _ hj)⟩
   exact key _ fun i hi=>List.mem_range.1 hi
  ·trivial
theorem zKw {n:Nat} {t:TypeId} {v:Value} {d:DataW H} {ps:List MemPlace} (h:DataW.Trod enc P w base spare held t v d ps):Rdy w (zPm P n t) v.cells.toList:=by
 obtain ⟨fuel,h⟩:=h
 exact zFR n t fuel _ _ h
theorem zG2 {α:Type} (f:α→List Value) (esz:Nat) (hf:∀ x,(f x).length = esz):∀ (l:List α) (i j:Nat),j < esz→(l.flatMap f)[i * esz + j]? = (l[i]?).bind fun x=>(f x)[j]?
 | [],i,j,_=>by simp
 | x::l,0,j,hj=>by
  simp only [List.flatMap_cons,Nat.zero_mul,Nat.zero_add]
  rw [List.getElem?_append_left (by rw [hf]; exact hj)]; simp
 | x::l,i + 1,j,hj=>by
  simp only [List.flatMap_cons]
  have e:(i + 1) * esz + j = esz + (i * esz + j):=by rw [Nat.add_mul]; omega
  rw [e,List.getElem?_append_right (by rw [hf]; omega),hf,Nat.add_sub_cancel_left,zG2 f esz hf l i j hj]; simp
theorem zX {α:Type} (f:α→List Value) (esz:Nat) (hf:∀ x,(f x).length = esz):∀ (l:List α),(l.flatMap f).length = l.length * esz
 | []=>by simp
 | x::l=>by simp only [List.flatMap_cons,List.length_append,hf,zX f esz hf l,List.length_cons,Nat.add_mul]; omega
theorem zKx {α:Type} (R:Nat→α→Prop):∀ (n:Nat),(∀ i,i < n→∃ x,R i x)→∃ l:List α,l.length = n∧∀ i x,l[i]? = some x→R i x
 | 0,_=>⟨[],rfl,fun i x h=>by simp at h⟩
 | n + 1,h=>by
  obtain ⟨l,hl,hr⟩:=zKx R n fun i hi=>h i (by omega)
  obtain ⟨x,hx⟩:=h n (by omega)
  refine ⟨l++[x],by simp [hl],fun i y hy=>?_⟩
  by_cases hi:i < n
  ·rw [List.getElem?_append_left (by omega)] at hy; exact hr i y hy
  ·have hlt:i < (l++[x]).length:=(List.getElem?_eq_some_iff.1 hy).1
   have:i = n:=by simp [hl] at hlt; omega
   subst this
   rw [List.getElem?_append_right (by omega),hl] at hy
   simp at hy; subst hy; exact hx
theorem zJS {α:Type} {s:Sl} {esz:Nat} {e:Sh} (f:α→List Value) (R:α→Prop) (hf:∀ x,(f x).length = esz) (hn:s.a = none→s.n = 0∧s.c = 0)
  (h:∀ a i,s.a = some a→i < s.n→∃ cs',cs'.length = esz∧(∀ j,j < esz→w.cell? (a.add (i * esz + j)) = cs'[j]?)∧Rdy w e cs')
  (hR:∀ cs,cs.length = esz→Rdy w e cs→∃ x,cs = f x∧R x):∃ l:List α,l.length = s.n∧RdC w s esz (l.flatMap f)∧∀ x ∈ l,R x:=by
 cases ha:s.a with
 | none=>exact ⟨[],by rw [(hn ha).1]; rfl,⟨by rw [(hn ha).1]; simp,fun h=>(hn h).1,fun a h=>by rw [ha] at h; cases h⟩,fun x h=>by cases h⟩
 | some a=>
  obtain ⟨l,hl,hr⟩:=zKx (fun i x=>(∀ j,j < esz→w.cell? (a.add (i * esz + j)) = (f x)[j]?)∧R x) s.n (fun i hi=>by
   obtain ⟨cs',h1,h2,h3⟩:=h a i ha hi
   obtain ⟨x,rfl,hx⟩:=hR cs' h1 h3
   exact ⟨x,h2,hx⟩)
  refine ⟨l,hl,⟨by rw [zX f esz hf,hl],(fun h=>by rw [ha] at h; cases h),fun a' h' i hi=>?_⟩,fun x hx=>?_⟩
  ·rw [ha] at h'; cases h'
   rw [zX f esz hf] at hi
   have hpos:0 < esz:=by
                rcases Nat.eq_zero_or_pos esz with h0 | h0
                ·rw [h0] at hi; simp at hi
                ·exact h0
   have e1:i = (i / esz) * esz + i % esz:=by rw [Nat.mul_comm]; exact (Nat.div_add_mod i esz).symm
   have hj:i % esz < esz:=Nat.mod_lt _ hpos
   have hq:i / esz < l.length:=by rw [Nat.div_lt_iff_lt_mul hpos]; exact hi
   rw [e1,zG2 f esz hf _ _ _ hj,List.getElem?_eq_getElem hq]
   exact (hr _ _ (List.getElem?_eq_getElem hq)).1 _ hj
  ·obtain ⟨i,hi⟩:=List.mem_iff_getElem?.1 hx
   exact (hr i x hi).2
theorem zWg {s:Sl} (hn:s.a = none→s.n = 0∧s.c = 0)
  (h:∀ a i,s.a = some a→i < s.n→∃ cs',cs'.length = 1∧(∀ j,j < 1→w.cell? (a.add (i * 1 + j)) = cs'[j]?)∧Rdy w (.int .u8) cs'):∃ xs:List UInt8,xs.length = s.n∧RdB w s xs:=by
 obtain ⟨l,hl,hr,_⟩:=zJS (e:=.int .u8) (fun b:UInt8=>[ji b]) (fun _=>True) (fun _=>rfl) hn h (fun cs hc hr=>by
  obtain ⟨n,rfl,hw⟩:=hr
  have hb:0 ≤ n∧n ≤ 255:=by simpa [Lit.wf,IntKind.min,IntKind.max,IntKind.signed,IntKind.bits] using hw
  refine ⟨UInt8.ofNat n.toNat,?_,trivial⟩
  simp only [ji,List.cons.injEq,Value.int.injEq,true_and,and_true]
  simp; omega)
 have:∀ l:List UInt8,l.flatMap (fun b:UInt8=>[ji b]) = l.map ji:=fun l=>by induction l with
  | nil=>rfl
  | cons x l ih=>simp [List.flatMap_cons,ih]
 rw [this] at hr
 exact ⟨l,hl,hr⟩
end
section
variable {H:Type} {enc:TypeId×Value→H} {P:Program}
theorem zIX (hl:laidOutB P = true) {W W':World} (hb:Below W.heap.size W W') {sp:Nat→Bool}:∀ (ts:List TypeId) (vs:List Value) (ds:List (DataW H)) (ps:List MemPlace),
  (∀ t ∈ ts,P.readableRec t = true∧t < P.types.size)→(∀ x ∈ ps,x.block < W.heap.size∧sp x.block = true)→DataW.TrodAll enc P W 0 (fun _=>true) true ts vs ds ps→DataW.TrodAll enc P W' 0 sp true ts vs ds ps
 | [],vs,ds,ps,_,_,h=>by
  cases vs <;> cases ds <;> simp [DataW.TrodAll] at h ⊢ <;> exact h
 | t::ts,vs,ds,ps,ht,hlt,h=>by
  cases vs with
  | nil=>simp [DataW.TrodAll] at h
  | cons v vs=>
   cases ds with
   | nil=>simp [DataW.TrodAll] at h
   | cons d ds=>
    obtain ⟨p,q,h1,h2,rfl⟩:=h
    exact ⟨p,q,WideElems.Trod_stays hl (ht t (by simp)).1 (ht t (by simp)).2 h1 (fun x hx=>hb.same (hlt x (by simp [hx])).1) (fun x hx=>(hlt x (by simp [hx])).2),
     zIX hl hb ts vs ds q (fun t' h'=>ht t' (by simp [h'])) (fun x hx=>hlt x (by simp [hx])) h2,rfl⟩
theorem zVG {b:Nat} {sp:Nat→Bool} {hd:Bool} {W:World} {t:TypeId} (ht:P.underlying t = some .bool):DataW.TrodAll enc P W b sp hd [t] [.bool true] [.lit (.bool true)] [] :=
 ⟨[],[],⟨1,by simp [DataW.trod,ht,Value.cells]⟩,rfl,rfl⟩
theorem zZE {W W':World} {e:Ending} (h:Ret (fun v w'=>v = .bool true∧Below W.heap.size W w') e W'):e = .returned (.bool true)∧Below W.heap.size W W':=by
 cases e with
 | returned v=>exact ⟨by rw [h.1],h.2⟩
 | panicked c=>exact h.elim
 | outgrown=>exact h.elim
theorem zWh {P:Program} {f:FuncId} {args:Array Value} {W:World} (h:zL P f args (fun v w=>∃ r:Bool,v = .bool r∧(r = true∧Holds W [] w)) W) :
  Calls P f args W (Ret fun v w'=>v = .bool true∧Below W.heap.size W w'):=h.mono fun e w' he=>by
 cases e with
 | returned v=>obtain ⟨r,rfl,rfl,hh⟩:=he; exact ⟨rfl,hh.below⟩
 | panicked c=>exact he.elim
 | outgrown=>exact he.elim
theorem zWi {f:Func} {s:ChangeSpec} {apart fresh handsOn again:Bool} {W W':World} {args:Array Value} {ds:List (DataW H)} {p:List MemPlace} {t:TypeId}
  (hl:laidOutB P = true) (hts:f.params.toList.all (fun t=>P.readableRec t && decide (t < P.types.size)) = true) (hrt:f.resultTypes = #[t]) (ht:P.underlying t = some .bool)
  (hW:DataW.Whole enc P f.params.toList s.vars apart W args.toList ds [] p) (hvs:s.vars = []) (hA:DataW.TrodAll enc P W 0 (fun _=>true) true f.params.toList args.toList ds p)
  (hsr:(s.fn H (ds++[])).results = [.lit (.bool true)]) (hsa:(s.fn H (ds++[])).args = ds) (hsv:(s.fn H (ds++[])).vars = []) (hb:Below W.heap.size W W') :
  s.post enc P f apart fresh handsOn again W args (.bool true) W':=by
 have hlt:∀ x ∈ p,x.block < W.heap.size:=fun x hx=>hW.lt x hx
 have hts':∀ t ∈ f.params.toList,P.readableRec t = true∧t < P.types.size:=fun t ht=>by
  have:=List.all_eq_true.1 hts t ht
  simpa using this
 have hold:∀ x ∈ p,(fun b=>decide (b < W.heap.size)) x.block = true:=fun x hx=>by simpa using hlt x hx
 have hres:∀ (b:Nat) (sp:Nat→Bool) (hd:Bool),DataW.TrodAll enc P W' b sp hd f.resultTypes.toList ((Value.bool true).resultList f.resultTypes.size) (s.fn H (ds++[])).results []:=fun b sp hd=>by
  rw [hsr,hrt]; exact zVG ht
 have hargs:∀ sp:Nat→Bool,(∀ x ∈ p,sp x.block = true)→DataW.TrodAll enc P W' 0 sp true f.params.toList args.toList (s.fn H (ds++[])).args p:=fun sp hsp=>by
  rw [hsa]; exact zIX hl hb _ _ _ _ hts' (fun x hx=>⟨hlt x hx,hsp x hx⟩) hA
 have hvars:∀ sp:Nat→Bool,DataW.TrodVars enc P W' sp s.vars (s.fn H (ds++[])).vars []:=fun sp=>by
  rw [hsv,hvs]; rfl
 refine ⟨ds,[],p,[],p,[],hW,hres _ _ _,hargs _ hold,hvars _,World.keptBut_mono (fun x hx=>⟨hx,Or.inr (Or.inl hx)⟩) (hb.frame (· ∈ p)),fun _=>?_⟩
 obtain ⟨_,_,_,_,_,hz,hn⟩:=hW
 refine ⟨?_,_,_,([]++p)++[],⟨[]++p,[],trodAll_append (hargs _ (fun _ _=>rfl)) (hres _ _ _),hvars _,rfl,?_,?_⟩,?_⟩
 ·intro j t' r h1 h2
  rw [hrt] at h1 h2
  match j with
  | 0=>
   simp at h1; subst h1
   have h3:((Value.bool true).resultList 1) = [.bool true]:=rfl
   have h4:(#[t]:Array TypeId).size = 1:=rfl
   rw [h4,h3] at h2
   simp at h2; subst h2
   exact okWide_bool_mk ht _
  | j + 1=>simp at h1
 ·intro b off hp
  have hin:MemPlace.cell b off ∈ p:=by simpa using hp
  rw [hb.frozen (hlt _ hin)]
  exact hz b off hin
 ·intro ha
  have:=hn ha
  simpa using this
 ·intro x hx _
  simpa using hx
end
end
end Go.Sep
