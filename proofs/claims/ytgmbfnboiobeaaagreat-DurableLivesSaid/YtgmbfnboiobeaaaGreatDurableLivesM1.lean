/- Texts of the claim DurableLives, one behind the other. -/
import Derived.Below
import Derived.Calls
import Derived.OrdersHeld
import Derived.Still
import Derived.Tactics
import Derived.Laws.Sem
import Derived.KernelRfl
import Derived.Laws.Bits
import Derived.RangeFuncRecord
import Derived.RangeFuncSeq
import Derived.RangeFuncCalls
import Derived.TacticsIn
import Derived.OrdersIn
import Derived.Laws.Externs
import Derived.Test.YtgmbfnboiobeaaaGreatProg
import Derived.Deep.Slices
import Derived.Carry
import Derived.ProofKit
import Derived.OpenShut
import Derived.Laws.BytesString
import Derived.Laws.Strings
set_option linter.all false
set_option maxRecDepth 100000
abbrev Go.Sep.Pt:=Option Go.Addr
abbrev Go.Sep.Av:=Array Go.Value
namespace Go.Sep
section
open Go Go.RowKit
abbrev Hp:=Nat→Option Obj
abbrev zC:=Hp→Prop
def Hp.le (h g:Hp):Prop:=∀ b o,h b = some o→g b = some o
def Hp.zEe (h g:Hp):Prop:=∀ b,h b = none∨g b = none
def Hp.one (b:Nat) (o:Obj):Hp:=fun c=>if c = b then some o else none
def Hp.or (h g:Hp):Hp:=fun b=>match h b with | some o=>some o | none=>g b
theorem Hp.le_refl (h:Hp):h.le h:=fun _ _ e=>e
theorem Hp.le_trans {a b c:Hp} (h:a.le b) (g:b.le c):a.le c:=fun k o e=>g k o (h k o e)
theorem Hp.zAC {a b:Hp} (h:a.zEe b):b.zEe a:=fun k=>(h k).symm
theorem Hp.jJ {a b c d:Hp} (h:a.zEe b) (hc:c.le a) (hd:d.le b):c.zEe d:=fun k=>by
 rcases h k with h | h
 ·left; cases e:c k with
  | none=>rfl
  | some o=>have:=hc k o e; rw [h] at this; cases this
 ·right; cases e:d k with
  | none=>rfl
  | some o=>have:=hd k o e; rw [h] at this; cases this
theorem Hp.zBY (a b:Hp):a.le (a.or b):=fun k o e=>by simp [Hp.or,e]
theorem Hp.zAj {a b:Hp} (h:a.zEe b):b.le (a.or b):=fun k o e=>by
 rcases h k with h | h
 ·simp [Hp.or,h,e]
 ·rw [h] at e; cases e
theorem Hp.zJC {a b c:Hp} (ha:a.le c) (hb:b.le c):(a.or b).le c:=fun k o e=>by
 unfold Hp.or at e
 split at e
 ·rename_i x hx; cases e; exact ha _ _ hx
 ·exact hb _ _ e
theorem Hp.zFX {a b c:Hp} (ha:a.zEe c) (hb:b.zEe c):(a.or b).zEe c:=fun k=>by
 rcases hb k with h | h
 ·rcases ha k with g | g
  ·left; simp [Hp.or,g,h]
  ·right; exact g
 ·right; exact h
def blk (b:Nat) (o:Obj):zC:=fun h=>h b = some o
def pur (p:Prop):zC:=fun _=>p
def ex {α:Sort _} (A:α→zC):zC:=fun h=>∃ x,A x h
def stars:List zC→zC
 | [],_=>True
 | A::Γ,h=>∃ h1 h2,A h1∧stars Γ h2∧h1.le h∧h2.le h∧h1.zEe h2
theorem zGL {Γ:List zC} {h g:Hp} (hs:stars Γ h) (hl:h.le g):stars Γ g:=by
 cases Γ with
 | nil=>trivial
 | cons A Γ=>
  obtain ⟨h1,h2,a,b,l1,l2,d⟩:=hs
  exact ⟨h1,h2,a,b,Hp.le_trans l1 hl,Hp.le_trans l2 hl,d⟩
theorem zDt {A:zC} {Γ:List zC} {h:Hp} (hs:stars (A::Γ) h):stars Γ h:=by
 obtain ⟨h1,h2,_,b,_,l2,_⟩:=hs
 exact zGL b l2
theorem zDu {A B:zC} {Γ:List zC} {h:Hp} (hs:stars (A::B::Γ) h):stars (B::A::Γ) h:=by
 obtain ⟨h1,h2,a,⟨h3,h4,b,c,l3,l4,d'⟩,l1,l2,d⟩:=hs
 refine ⟨h3,h1.or h4,b,⟨h1,h4,a,c,Hp.zBY _ _,?_,?_⟩,Hp.le_trans l3 l2,Hp.zJC l1 (Hp.le_trans l4 l2),?_⟩
 ·exact Hp.zAj (Hp.jJ d (Hp.le_refl _) l4)
 ·exact Hp.jJ d (Hp.le_refl _) l4
 ·exact Hp.zAC (Hp.zFX (Hp.jJ d (Hp.le_refl _) l3) (Hp.zAC d'))
theorem jV {A B:zC} {Γ Δ:List zC} {h:Hp} (ha:∀ h,A h→B h) (hg:∀ h,stars Γ h→stars Δ h) (hs:stars (A::Γ) h):stars (B::Δ) h:=by
 obtain ⟨h1,h2,a,b,l1,l2,d⟩:=hs
 exact ⟨h1,h2,ha _ a,hg _ b,l1,l2,d⟩
theorem zDv {Γ Δ:List zC} (hp:Γ.Perm Δ):∀ {h:Hp},stars Γ h→stars Δ h:=by
 induction hp with
 | nil=>exact fun h=>h
 | cons x _ ih=>exact fun h=>jV (fun _ h=>h) (fun _ h=>ih h) h
 | swap x y l=>exact zDu
 | trans _ _ ih1 ih2=>exact fun h=>ih2 (ih1 h)
theorem zFY {Γ Δ:List zC}:∀ {h:Hp},stars (Γ++Δ) h ↔ ∃ h1 h2,stars Γ h1∧stars Δ h2∧h1.le h∧h2.le h∧h1.zEe h2:=by
 induction Γ with
 | nil=>
  intro h
  constructor
  ·intro hs; exact ⟨fun _=>none,h,trivial,hs,fun _ _ e=>(by cases e),Hp.le_refl _,fun _=>.inl rfl⟩
  ·rintro ⟨_,h2,_,hs,_,l,_⟩; exact zGL hs l
 | cons A Γ ih=>
  intro h
  constructor
  ·rintro ⟨h1,h2,a,b,l1,l2,d⟩
   obtain ⟨h3,h4,c,e,l3,l4,d'⟩:=ih.1 b
   refine ⟨h1.or h3,h4,⟨h1,h3,a,c,Hp.zBY _ _,Hp.zAj (Hp.jJ d (Hp.le_refl _) l3),Hp.jJ d (Hp.le_refl _) l3⟩,e,Hp.zJC l1 (Hp.le_trans l3 l2),Hp.le_trans l4 l2,?_⟩
   exact Hp.zFX (Hp.jJ d (Hp.le_refl _) l4) d'
  ·rintro ⟨h1,h2,⟨h3,h4,a,c,l3,l4,d'⟩,b,l1,l2,d⟩
   refine ⟨h3,h4.or h2,a,ih.2 ⟨h4,h2,c,b,Hp.zBY _ _,Hp.zAj (Hp.jJ d l4 (Hp.le_refl _)),Hp.jJ d l4 (Hp.le_refl _)⟩,Hp.le_trans l3 l1,Hp.zJC (Hp.le_trans l4 l1) l2,?_⟩
   exact Hp.zAC (Hp.zFX (Hp.zAC d') (Hp.zAC (Hp.jJ d l3 (Hp.le_refl _))))
def own (B w:World):Hp:=fun b=>if b < B.heap.size then none else w.heap[b]?
theorem zAk {B w:World} {b:Nat} {o:Obj} (h:own B w b = some o):B.heap.size ≤ b∧w.heap[b]? = some o:=by
 unfold own at h
 split at h
 ·cases h
 ·exact ⟨by omega,h⟩
structure Holds (B:World) (Γ:List zC) (w:World):Prop where
 below:Below B.heap.size B w
 stars:stars Γ (own B w)
section
variable {B w:World} {Γ Δ:List zC} {A A':zC}
theorem Holds.start (B:World):Holds B [] B:=⟨Below.refl _ _,trivial⟩
theorem Holds.perm (h:Holds B Γ w) (hp:Γ.Perm Δ):Holds B Δ w:=⟨h.below,zDv hp h.stars⟩
theorem Holds.tail (h:Holds B (A::Γ) w):Holds B Γ w:=⟨h.below,zDt h.stars⟩
theorem Holds.swap {A A':zC} (h:Holds B (A::A'::Γ) w):Holds B (A'::A::Γ) w:=⟨h.below,zDu h.stars⟩
theorem Holds.imp (h:Holds B (A::Γ) w) (hi:∀ h,A h→A' h):Holds B (A'::Γ) w:=⟨h.below,jV hi (fun _ h=>h) h.stars⟩
theorem zCW {α:Type _}:∀ {l:List α} {i:Nat} {x:α},l[i]? = some x→l.Perm (x::l.eraseIdx i)
 | [],i,x,h=>by simp at h
 | y::l,0,x,h=>by simp at h; subst h; simp
 | y::l,i + 1,x,h=>by
  simp only [List.getElem?_cons_succ] at h
  exact ((zCW h).cons y).trans (.swap _ _ _)
theorem Holds.pick (i:Nat) (h:Holds B Γ w) (hi:Γ[i]? = some A):Holds B (A::Γ.eraseIdx i) w:=h.perm (zCW hi)
theorem Holds.del (i:Nat) (h:Holds B Γ w) (hi:Γ[i]? = some A):Holds B (Γ.eraseIdx i) w:=(h.pick i hi).tail
theorem zGM {α:Type _}:∀ {l:List α} {i:Nat} {x y:α},l[i]? = some x→(y::l.eraseIdx i).Perm (l.set i y)
 | [],i,x,y,h=>by simp at h
 | z::l,0,x,y,h=>by simp
 | z::l,i + 1,x,y,h=>by
  simp only [List.getElem?_cons_succ] at h
  exact (List.Perm.swap _ _ _).trans ((zGM h).cons z)
theorem Holds.put (i:Nat) (hi:Γ[i]? = some A) (h:Holds B (A'::Γ.eraseIdx i) w):Holds B (Γ.set i A') w:=h.perm (zGM hi)
theorem Holds.ex {α:Sort _} {F:α→zC}:Holds B (Sep.ex F::Γ) w ↔ ∃ x,Holds B (F x::Γ) w:=by
 constructor
 ·rintro ⟨hb,h1,h2,⟨x,a⟩,b,l1,l2,d⟩; exact ⟨x,hb,h1,h2,a,b,l1,l2,d⟩
 ·rintro ⟨x,hb,h1,h2,a,b,l1,l2,d⟩; exact ⟨hb,h1,h2,⟨x,a⟩,b,l1,l2,d⟩
theorem Holds.pur {p:Prop}:Holds B (Sep.pur p::Γ) w ↔ p∧Holds B Γ w:=by
 constructor
 ·intro h; exact ⟨by obtain ⟨_,_,_,a,_⟩:=h; exact a,h.tail⟩
 ·rintro ⟨hp,hb,hs⟩; exact ⟨hb,fun _=>Option.none,_,hp,hs,fun _ _ e=>(by cases e),Hp.le_refl _,fun _=>.inl rfl⟩
theorem zDw {h:Hp}:Sep.stars (Sep.stars Δ::Γ) h ↔ Sep.stars (Δ++Γ) h:=by
 rw [zFY]; rfl
theorem Holds.flat:Holds B (Sep.stars Δ::Γ) w ↔ Holds B (Δ++Γ) w :=
 ⟨fun h=>⟨h.below,zDw.1 h.stars⟩,fun h=>⟨h.below,zDw.2 h.stars⟩⟩
theorem Holds.snoc (h:Holds B (Sep.stars Δ::A::Γ) w):Holds B (Sep.stars (Δ++[A])::Γ) w:=by
 refine Holds.flat.2 ?_
 have:=Holds.flat.1 h
 simpa using this
theorem Holds.zAD (h:Holds B Γ w):Holds B (Sep.stars []::Γ) w:=Holds.flat.2 h
theorem Holds.fact {p:Prop} (h:Holds B (A::Γ) w) (hi:∀ h,A h→p):p:=by
 obtain ⟨_,_,_,a,_⟩:=h; exact hi _ a
theorem Holds.block {b:Nat} {o:Obj} (h:Holds B (blk b o::Γ) w):w.heap[b]? = some o:=by
 obtain ⟨_,h1,h2,a,_,l1,_,_⟩:=h
 exact (zAk (l1 _ _ a)).2
theorem Holds.base {b:Nat} {o:Obj} (h:Holds B (blk b o::Γ) w):B.heap.size ≤ b:=by
 obtain ⟨_,h1,h2,a,_,l1,_,_⟩:=h
 exact (zAk (l1 _ _ a)).1
theorem Holds.apart {b c:Nat} {o p:Obj} (h:Holds B (blk b o::blk c p::Γ) w):b ≠ c:=by
 rintro rfl
 obtain ⟨_,h1,h2,a,⟨h3,h4,a',_,l3,_,_⟩,l1,_,d⟩:=h
 rcases d b with e | e
 ·unfold blk at a; rw [e] at a; cases a
 ·have:=l3 _ _ a'; rw [e] at this; cases this
theorem zGN (B w:World) (o:Obj):(own B w).le (own B { w with heap:=w.heap.push o }):=fun b p e=>by
 obtain ⟨hb,e⟩:=zAk e
 have hlt:b < w.heap.size:=(Array.getElem?_eq_some_iff.1 e).1
 unfold own
 rw [if_neg (by omega)]
 show (w.heap.push o)[b]? = _
 rw [Array.getElem?_push,if_neg (by omega)]; exact e
theorem zHL (h:Below B.heap.size B w) (o:Obj):Below B.heap.size B { w with heap:=w.heap.push o }:=h.alloc h.size o
theorem Holds.alloc (h:Holds B Γ w) (o:Obj):Holds B (blk w.heap.size o::Γ) { w with heap:=w.heap.push o }:=by
 refine ⟨zHL h.below o,Hp.one w.heap.size o,own B w,by simp [blk,Hp.one],h.stars,?_,zGN B w o,?_⟩
 ·intro b p e
  unfold Hp.one at e
  split at e
  ·rename_i hb; subst hb; cases e
   unfold own
   rw [if_neg (by have:=h.below.size; omega)]
   show (w.heap.push o)[w.heap.size]? = _
   simp
  ·cases e
 ·intro b
  by_cases hb:b = w.heap.size
  ·right; unfold own; split
   ·rfl
   ·subst hb; simp
  ·left; simp [Hp.one,hb]
theorem Holds.setBlock {b:Nat} {o o':Obj} (h:Holds B (blk b o::Γ) w) {w':World} (hw:w' = { w with heap:=w.heap.setIfInBounds b o' }):Holds B (blk b o'::Γ) w':=by
 subst hw
 have hblock:=h.block
 have hlt:b < w.heap.size:=(Array.getElem?_eq_some_iff.1 hblock).1
 have hbase:=h.base
 obtain ⟨hbelow,h1,h2,a,b2,l1,l2,d⟩:=h
 refine ⟨⟨hbelow.os,hbelow.tape,hbelow.output,by simpa using hbelow.size,fun k hk=>?_⟩,Hp.one b o',h2,by simp [blk,Hp.one],b2,?_,?_,?_⟩
 ·show (w.heap.setIfInBounds b o')[k]? = _
  rw [Array.getElem?_setIfInBounds_ne (by omega)]; exact hbelow.block k hk
 ·intro c p e
  unfold Hp.one at e
  split at e
  ·rename_i hc; subst hc; cases e
   unfold own; rw [if_neg (by omega)]
   show (w.heap.setIfInBounds c o')[c]? = _
   simp [hlt]
  ·cases e
 ·intro c p e
  have hne:c ≠ b:=by
   rintro rfl
   rcases d c with e' | e'
   ·unfold blk at a; rw [e'] at a; cases a
   ·rw [e'] at e; cases e
  obtain ⟨hc,e⟩:=zAk (l2 _ _ e)
  unfold own; rw [if_neg (by omega)]
  show (w.heap.setIfInBounds b o')[c]? = _
  rw [Array.getElem?_setIfInBounds_ne (by omega)]; exact e
 ·intro c
  by_cases hc:c = b
  ·subst hc
   rcases d c with e' | e'
   ·unfold blk at a; rw [e'] at a; cases a
   ·right; exact e'
  ·left; simp [Hp.one,hc]
theorem Holds.zKq (h:Holds B Γ w) {w':World} (hh:w'.heap = w.heap) (ho:w'.os = w.os) (ht:w'.tape = w.tape) (hp:w'.output = w.output):Holds B Γ w':=by
 refine ⟨⟨ho.trans h.below.os,ht.trans h.below.tape,hp.trans h.below.output,by rw [hh]; exact h.below.size,fun k hk=>by rw [hh]; exact h.below.block k hk⟩,?_⟩
 have:own B w' = own B w:=by funext b; simp [own,hh]
 rw [this]; exact h.stars
theorem Holds.drew (h:Holds B Γ w) (n:Nat):Holds B Γ { w with drawn:=n }:=h.zKq rfl rfl rfl rfl
theorem Holds.old (h:Holds B Γ w) {b:Nat} {o:Obj} (hb:B.heap[b]? = some o):w.heap[b]? = some o:=by
 have hlt:b < B.heap.size:=(Array.getElem?_eq_some_iff.1 hb).1
 rw [h.below.block b hlt]; exact hb
end
end
section
open Go
structure Sl where
 a:Option Addr
 n:Nat
 c:Nat
abbrev Sl.val (s:Sl):Value:=.slice s.a s.n s.c
def Ret (k:Value→World→Prop):Ending→World→Prop
 | .returned v,w=>k v w
 | _,_=>False
def look:List (Nat×Value)→Nat→Option Value
 | [],_=>none
 | (j,v)::σ,i=>match Nat.beq i j with
  | true=>some v
  | false=>look σ i
theorem zCX {p:Nat×Value} {σ:List (Nat×Value)} {i:Nat}:look (p::σ) i = if i = p.1 then some p.2 else look σ i:=by
 obtain ⟨j,u⟩:=p
 show (match Nat.beq i j with | true=>some u | false=>look σ i) = _
 by_cases h:i = j
 ·simp [h]
 ·have:Nat.beq i j = false:=by
   cases hb:Nat.beq i j with
   | false=>rfl
   | true=>exact absurd (Nat.eq_of_beq_eq_true hb) h
  simp [this,h]
def ev (σ:List (Nat×Value)):Operand→Option Value
 | .tmp t=>look σ t
 | .const v=>some v
 | .global g=>some (.pointer (some ⟨g,0,none⟩))
 | .func f=>some (.func (.func f) #[] #[])
structure Slots (a:Act) (n:Nat) (σ:List (Nat×Value)):Prop where
 size:a.tmps.size = n
 defers:a.defers = []
 at':∀ i v,look σ i = some v→a.tmps.getD i undef = v
def Sub (σ:List (Nat×Value)):List (Nat×Value)→Prop
 | []=>True
 | p::τ=>look σ p.1 = some p.2∧Sub σ τ
theorem Sub.look {σ:List (Nat×Value)}:∀ {τ:List (Nat×Value)},Sub σ τ→∀ i v,look τ i = some v→Sep.look σ i = some v
 | [],_,i,v,h=>by simp [Sep.look] at h
 | p::τ,hs,i,v,h=>by
  rw [zCX] at h
  split at h
  ·rename_i e; subst e; cases h; exact hs.1
  ·exact Sub.look hs.2 i v h
section
variable {a:Act} {n:Nat} {σ τ:List (Nat×Value)}
theorem Slots.to (h:Slots a n σ) (hs:Sub σ τ):Slots a n τ:=⟨h.size,h.defers,fun i v e=>h.at' i v (hs.look i v e)⟩
theorem Slots.ev (h:Slots a n σ) {x:Operand} {v:Value} (hx:Sep.ev σ x = some v):a.eval x = v:=by
 cases x with
 | tmp t=>exact h.at' _ _ hx
 | const u=>exact Option.some.inj hx
 | global g=>exact Option.some.inj hx
 | func f=>exact Option.some.inj hx
theorem Slots.put (h:Slots a n σ) {d:Nat} (hd:d < n) (v:Value):Slots (a.put (some d) v) n ((d,v)::σ):=by
 refine ⟨by simp [Act.put,h.size],h.defers,fun i u e=>?_⟩
 rw [zCX] at e
 split at e
 ·rename_i hi; simp only at hi; subst hi; cases e
  have:i < a.tmps.size:=by rw [h.size]; exact hd
  simp [Act.put,this]
 ·rename_i hi
  have:=h.at' i u e
  simpa [Act.put,Array.getElem?_setIfInBounds_ne (Ne.symm hi)] using this
theorem Slots.init (args:List Value) (n:Nat) (hn:args.length ≤ n):Slots { tmps:=args.toArray++Array.replicate (n - args.toArray.size) undef,defers:=[] } n (args.zipIdx.map fun p=>(p.2,p.1)):=by
 refine ⟨by simp; omega,rfl,fun i v e=>?_⟩
 have key:∀ (l:List Value) (k i:Nat) (v:Value),look ((l.zipIdx k).map fun p=>(p.2,p.1)) i = some v→k ≤ i∧l[i - k]? = some v:=by
  intro l
  induction l with
  | nil=>intro k i v e; simp [look] at e
  | cons x l ih=>
   intro k i v e
   simp only [List.zipIdx_cons,List.map_cons] at e
   rw [zCX] at e
   split at e
   ·rename_i hi; simp only at hi; subst hi; cases e; simp
   ·rename_i hi
    obtain ⟨h1,h2⟩:=ih _ _ _ e
    refine ⟨by omega,?_⟩
    rw [show i - k = (i - (k + 1)) + 1 by omega]; simpa using h2
 obtain ⟨_,h2⟩:=key args 0 i v e
 simp only [Nat.sub_zero] at h2
 have hlt:i < args.length:=(List.getElem?_eq_some_iff.1 h2).1
 have h3:=(List.getElem?_eq_some_iff.1 h2).2
 simp [Array.getElem?_append,hlt,h3]
end
section
variable {P:Program} {ops:Array Oper} {Q:Exit→Act→World→Prop} {rest:List Oper} {o:Oper} {a:Act} {n:Nat} {σ:List (Nat×Value)} {w w':World} {v:Value}
def Pure (P:Program) (σ:List (Nat×Value)) (o:Oper) (v:Value):Prop :=
 ∀ (a:Act) (n:Nat),Slots a n σ→∀ w,(execOp a.eval o).run P w = .ok (.value v) w
def Eff (P:Program) (σ:List (Nat×Value)) (o:Oper) (w:World) (x:Next) (w':World):Prop :=
 ∀ (a:Act) (n:Nat),Slots a n σ→(execOp a.eval o).run P w = .ok x w'
theorem Pure.eff (h:Pure P σ o v) (w:World):Eff P σ o w (.value v) w:=fun a n hs=>h a n hs w
def wants (ops:Array Oper) (σ:List (Nat×Value)) (o:Oper):Option Bool :=
 match o.guard with
 | none=>some true
 | some (j,want)=>match (ops[j]?).bind (·.dst) with
  | none=>some false
  | some t=>match look σ t with
   | some v=>match v with
    | .bool b=>some (b == want)
    | _=>some false
   | none=>none
theorem qJ (hs:Slots a n σ) {b:Bool} (h:wants ops σ o = some b):Region.wanted o (yielded ops a.tmps) = b:=by
 unfold wants at h
 unfold Region.wanted
 split at h
 ·rename_i hg; simp only [hg]; simpa using h
 ·rename_i j want hg
  simp only [hg]
  unfold yielded
  split at h
  ·rename_i hd; simp only [Option.some.injEq] at h; subst h
   cases hj:ops[j]? with
   | none=>simp
   | some oj=>simp [hj] at hd; simp [hd]
  ·rename_i t ht
   split at h
   ·rename_i v hb
    have:=hs.at' _ _ hb
    cases hj:ops[j]? with
    | none=>simp [hj] at ht
    | some oj=>
     simp [hj] at ht
     simp only [ht,Option.bind_some]
     cases hx:a.tmps[t]? with
     | none=>
      simp [hx] at this; subst this
      simp [undef] at h; subst h; simp
     | some x=>
      simp [hx] at this; subst this
      cases x <;> simp at h <;> subst h <;> simp
   ·cases h
def Oper.bare (o:Oper):Oper:={ o with guard:=none }
end
section
variable {P:Program} {ops:Array Oper} {Q:Exit→Act→World→Prop} {S:World→Prop} {o:Oper} {a:Act} {n:Nat} {σ:List (Nat×Value)} {w w':World} {v:Value} {fuel:Nat} {listed:Array Bool}
def Any:World→Prop:=fun _=>True
theorem Any.intro (w:World):Any w:=trivial
def Is (u:World):World→Prop:=fun x=>x = u
theorem Is.intro (u:World):Is u u:=rfl
theorem Is.out {u x:World} (h:Is u x):x = u:=h
def jH (Q:Exit→Act→World→Prop):Prop:=∀ c a w,¬ Q (.panic c) a w
def zHM (P:Program) (ops:Array Oper) (Q:Exit→Act→World→Prop) (S:World→Prop) (ds:List Nat):Nat→Array Bool→Act→World→Prop
 | 0,listed,a,w=>Region.ready .any ops listed = []∧Q .normal a w
 | fuel + 1,listed,a,w=>
  (Region.ready .any ops listed = []→Q .normal a w) ∧
  ∀ i ∈ Region.ready .any ops listed,wpOp P ops Q i (fun a' w'=>(i ∉ ds→S w→S w')∧zHM P ops Q S ds fuel (listed.setIfInBounds i true) a' w') a w
variable {ds:List Nat}
def reach (ops:Array Oper) (i:Nat):Nat→Nat→Bool
 | 0,_=>false
 | n + 1,d=>match ops[d]? with
  | some od=>od.after.any fun e=>Region.binds .any e && (e.on == i || reach ops i n e.on)
  | none=>false
def Closed (ops:Array Oper) (l:Array Bool):Prop :=
 ∀ (j:Nat) (oj:Oper),ops[j]? = some oj→l.getD j false = true→∀ e ∈ oj.after,Region.binds .any e = true→l.getD e.on false = true
theorem zAT {ops:Array Oper} {l:Array Bool} {i:Nat} (hc:Closed ops l):∀ (n d:Nat) (od:Oper),ops[d]? = some od→(∀ e ∈ od.after,Region.binds .any e = true→l.getD e.on false = true)→reach ops i n d = true→l.getD i false = true
 | 0,_,_,_,_,h=>by simp [reach] at h
 | n + 1,d,od,hd,hall,h=>by
  simp only [reach,hd,Array.any_eq_true'] at h
  obtain ⟨e,he,hb⟩:=h
  simp only [Bool.and_eq_true,Bool.or_eq_true,beq_iff_eq] at hb
  have h1:=hall e he hb.1
  rcases hb.2 with h2 | h2
  ·rw [← h2]; exact h1
  ·cases ho:ops[e.on]? with
   | none=>cases n <;> simp [reach,ho] at h2
   | some oe=>exact zAT hc n e.on oe ho (hc e.on oe ho h1) h2
theorem Closed.put {ops:Array Oper} {l:Array Bool} (h:Closed ops l) {j:Nat} (hj:j ∈ Region.ready .any ops l):Closed ops (l.setIfInBounds j true):=by
 intro k ok hk hl e he hb
 obtain ⟨_,oj,hoj,hall⟩:=mem_ready.1 hj
 by_cases hjk:j = k
 ·subst hjk; rw [hk] at hoj; cases hoj; exact getD_set_true (hall e he hb)
 ·rw [getD_set_ne false hjk] at hl; exact getD_set_true (h k ok hk hl e he hb)
def zJD (P:Program) (ops:Array Oper) (Q:Exit→Act→World→Prop) (S:World→Prop) (ds:List Nat) (fuel:Nat) (l:Array Bool) (a:Act) (w:World) (rs:List Nat):Prop :=
 ∀ i ∈ rs,wpOp P ops Q i (fun a' w'=>(i ∉ ds→S w→S w')∧zHM P ops Q S ds fuel (l.setIfInBounds i true) a' w') a w
theorem zJD.nil {l:Array Bool}:zJD P ops Q S ds fuel l a w []:=fun _ h=>by cases h
theorem zJD.cons {l:Array Bool} {i:Nat} {rs:List Nat} (h:wpOp P ops Q i (fun a' w'=>(i ∉ ds→S w→S w')∧zHM P ops Q S ds fuel (l.setIfInBounds i true) a' w') a w)
  (hs:zJD P ops Q S ds fuel l a w rs):zJD P ops Q S ds fuel l a w (i::rs):=fun j hj=>by
 rcases List.mem_cons.1 hj with rfl | hj
 ·exact h
 ·exact hs j hj
end
section
variable {P:Program} {ops:Array Oper} {Q:Act→Prop} {rest:List Oper} {o:Oper} {a:Act} {n:Nat} {σ:List (Nat×Value)} {w:World} {v:Value}
theorem zLp (hs:Slots a n σ) {d:Nat} (hg:o.guard = none) (hd:o.dst = some d) (hn:d < n) (hp:Eff P σ o w (.value v) w)
  (hk:∀ a,Slots a n ((d,v)::σ)→wpStill P ops w Q rest a):wpStill P ops w Q (o::rest) a:=by
 unfold wpStill
 rw [if_pos (by simp [Region.wanted,hg])]
 unfold Oper.still
 rw [hp a n hs,Oper.stillUpon_value,hd]
 exact hk _ (hs.put hn v)
theorem zMa (hs:Slots a n σ) {d:Nat} (hg:o.guard = none) (hd:o.dst = some d) (hn:d < n) (hp:Pure P σ o v)
  (hk:∀ a,Slots a n ((d,v)::σ)→wpStill P ops w Q rest a):wpStill P ops w Q (o::rest) a:=zLp hs hg hd hn (hp.eff w) hk
theorem zLq (hs:Slots a n σ) (hw:wants ops σ o = some true) (hk:wpStill P ops w Q (Sep.Oper.bare o::rest) a):wpStill P ops w Q (o::rest) a:=by
 have h1:=qJ hs hw
 unfold wpStill at hk ⊢
 rw [if_pos h1]
 rw [if_pos (by simp [Region.wanted,Sep.Oper.bare])] at hk
 exact hk
theorem zO6 (hs:Slots a n σ) (hw:wants ops σ o = some false) {d:Nat} (hd:o.dst = some d) (hn:d < n) (hk:∀ a,Slots a n ((d,undef)::σ)→wpStill P ops w Q rest a):wpStill P ops w Q (o::rest) a:=by
 have h1:=qJ hs hw
 unfold wpStill
 rw [if_neg (by rw [h1]; simp),hd]
 exact hk _ (hs.put hn _)
theorem zKr {l:List Oper} {id:Nat} {Q:Exit→Act→World→Prop} {w':World} (hm:P.follows .mixedOrders = true) (hB:Region.lexB .any l.toArray = true) (hw:w' = { w with drawn:=w.drawn + 1 })
  (h:wpStill P l.toArray w' (fun a'=>Q .normal a' w') l a):(Code.region id l.toArray true).wp P Q a w:=by
 subst hw; exact wp_region_still_lit hm hB h
end
section
variable {P:Program} {Q:Exit→Act→World→Prop} {a:Act} {n:Nat} {σ:List (Nat×Value)} {w:World}
def yY {α:Type} (body:(α→World→Prop)→α→World→Prop) (x:α) (w:World):Prop :=
 ∃ (I:α→World→Prop) (μ:α→World→Nat),I x w∧∀ x w,I x w→body (fun x' w'=>I x' w'∧μ x' w' < μ x w) x w
theorem yY.of {α:Type} {body:(α→World→Prop)→α→World→Prop} {x:α} {w:World} (I:α→World→Prop) (μ:α→World→Nat) (h0:I x w)
  (h:∀ x w,I x w→body (fun x' w'=>I x' w'∧μ x' w' < μ x w) x w):yY body x w:=⟨I,μ,h0,h⟩
end
end
section
open Go
abbrev K:=World→Prop
def callable (P:Program) (f:FuncId):Bool:=match P.funcs[f]? with
 | some fn => fn.name != "runtime.NumGoroutine" && fn.body.isSome
 | none=>false
def Do {α β:Type} (P:Program) (s:Sem β) (c:α→β) (k:α→K):K:=fun w=>∃ x w',s.run P w = .ok (c x) w'∧k x w'
def Ld {α:Type} (a:Addr) (c:α→Value) (k:α→K):K:=fun w=>∃ x,w.cell? a = some (c x)∧k x w
def RdN (w:World) (a:Addr) (cs:Array Value):Prop:=∀ i,i < cs.size→w.cell? (a.add i) = cs[i]?
def LdN (a:Addr) (n:Nat) (k:Array Value→K):K:=fun w=>∃ cs:Array Value,cs.size = n∧RdN w a cs∧k cs w
def qj:Value→Bool
 | .agg _ | .tuple _=>false
 | _=>true
def St (a:Addr) (v:Value) (k:K):K:=fun w=>∃ w',w' = w.setCell a v∧(∃ u,w.cell? a = some u)∧w.frozen? a = false∧qj v = true∧k w'
def setCells (a:Addr):List Value→Nat→World→World
 | [],_,w=>w
 | v::vs,i,w=>setCells a vs (i + 1) (w.setCell (a.add i) v)
def StN (a:Addr) (n:Nat) (cs:Array Value) (k:K):K:=fun w=>∃ w',w' = setCells a cs.toList 0 w∧cs.size = n ∧
 (∀ i,i < cs.size→(∃ u,w.cell? (a.add i) = some u)∧w.frozen? (a.add i) = false)∧(∀ v ∈ cs.toList,qj v = true)∧k w'
def New (T:TypeId) (cs:Array Value) (k:Addr→K):K:=fun w=>∃ a w',a = ⟨w.heap.size,0,none⟩∧w' = { w with heap:=w.heap.push (.cells cs T) }∧k a w'
def zY (P:Program) (f:FuncId) (args:Array Value) (k:Value→K):K:=fun w=>Calls P f args w (Ret k)
def Ar (e:Int) (k:Int→K):K:=fun w=>∃ t,t = e∧k t w
def DoU (P:Program) (s:Sem Unit) (k:K):K:=fun w=>∃ u w',s.run P w = .ok u w'∧k w'
def Rd {α:Type} (P:Program) (s:Sem Value) (c:α→Value) (k:α→K):K:=fun w=>∃ x,s.run P w = .ok (c x) w∧k x w
def Rd2 {α β:Type} (P:Program) (s:Sem Value) (c:α→β→Value) (k:α→β→K):K:=fun w=>∃ x y,s.run P w = .ok (c x y) w∧k x y w
def Pu {α:Type} (P:Program) (s:Sem Value) (c:α→Value) (k:α→K):K:=fun w=>∃ x,(∀ w,s.run P w = .ok (c x) w)∧k x w
def Cd (p:Prop) (k:K):K:=fun w=>p∧k w
def Ite (b:Bool) (x y:K):K:=fun w=>(b = true→x w)∧(b = false→y w)
def Fv (P:Program) (f:Value) (k:FuncId→Array Value→Array Value→K):K:=fun w=>∃ g fs cs,f = .func (.func g) fs cs∧callable P g = true∧k g fs cs w
def u6 (P:Program) (f:Value) (args:List Value) (k:Value→K):K:=fun w =>
 ∃ g fs cs,f = .func (.func g) fs cs∧callable P g = true∧Calls P g (fs++args.toArray++cs) w (Ret k)
def vP (v0:Value) (k:K):Value→K:=fun v w=>v = v0∧k w
def yt {α:Type} (c:α→Value) (k:α→K):Value→K:=fun v w=>∃ x,v = c x∧k x w
def vD {α β:Type} (c:α→β→Value) (k:α→β→K):Value→K:=fun v w=>∃ x y,v = c x y∧k x y w
def zAE {α β γ:Type} (c:α→β→γ→Value) (k:α→β→γ→K):Value→K:=fun v w=>∃ x y z,v = c x y z∧k x y z w
def Ext {α:Type} (t:Value) (i:Nat) (c:α→Value) (k:α→K):K:=fun w=>∃ vs x,t = .tuple vs∧vs[i]? = some (c x)∧k x w
def Dead:K:=fun _=>False
def Dr (k:K):K:=fun w=>∃ w',w' = { w with drawn:=w.drawn + 1 }∧k w'
def qx (k:(World→Prop)→K):K:=fun w=>∃ S:World→Prop,S w∧k S w
def Sv (S:World→Prop) (k:K):K:=fun w=>S w∧k w
def LdS {α:Type} (S:World→Prop) (a:Addr) (c:α→Value) (k:α→K):K:=fun w=>∃ x,(∀ w,S w→w.cell? a = some (c x))∧k x w
def jw (S:World→Prop) (a:Addr) (n:Nat) (k:Array Value→K):K:=fun w=>∃ cs:Array Value,cs.size = n∧(∀ w,S w→RdN w a cs)∧k cs w
def RdS {α:Type} (P:Program) (S:World→Prop) (s:Sem Value) (c:α→Value) (k:α→K):K:=fun w=>∃ x,(∀ w,S w→s.run P w = .ok (c x) w)∧k x w
def zBZ {α β:Type} (P:Program) (S:World→Prop) (s:Sem Value) (c:α→β→Value) (k:α→β→K):K:=fun w=>∃ x y,(∀ w,S w→s.run P w = .ok (c x y) w)∧k x y w
def Nn (p:Option Addr) (k:Addr→K):K:=fun w=>∃ a,p = some a∧k a w
def Idx (s:Sl) (i:Int) (esz:Nat) (k:Addr→K):K:=fun w=>∃ a t,s.a = some a∧0 ≤ i∧i < s.n∧t = a.add (i.toNat * esz)∧k t w
def zBa (a:Addr) (len:Nat) (i:Int) (esz:Nat) (k:Addr→K):K:=fun w=>∃ t,0 ≤ i∧i < len∧t = a.add (i.toNat * esz)∧k t w
def zBb (s:ByteArray) (i:Int) (k:Int→K):K:=fun w=>∃ (t:Int) (b:UInt8),0 ≤ i∧s[i.toNat]? = some b∧t = (b.toNat:Int)∧k t w
def Fld {α:Type} (cs:Array Value) (off:Nat) (c:α→Value) (k:α→K):K:=fun w=>∃ x,cs[off]? = some (c x)∧k x w
def Bld (zero:Array Value) (place:Nat→Option (Nat×Nat)) (parts:List (Nat×Value)) (k:Array Value→K):K:=fun w =>
 ∃ cs,Instr.fill place zero parts = some cs∧k cs w
def uN (a:Option Addr) (l m esz:Nat):Option Addr:=if m = l then a else a.map (·.add (l * esz))
def Slc (s:Sl) (lo hi mx:Int) (esz:Nat) (k:Sl→K):K:=fun w =>
 ∃ t,0 ≤ lo∧lo ≤ hi∧hi ≤ mx∧mx ≤ s.c∧t = ⟨uN s.a lo.toNat mx.toNat esz,hi.toNat - lo.toNat,mx.toNat - lo.toNat⟩∧k t w
def zBc (s:ByteArray) (lo hi:Int) (k:ByteArray→K):K:=fun w =>
 ∃ t,0 ≤ lo∧lo ≤ hi∧hi ≤ s.size∧t = s.extract lo.toNat hi.toNat∧k t w
def Cat (a b:ByteArray) (k:ByteArray→K):K:=fun w=>∃ t,((a.size + b.size:Nat):Int) ≤ 9223372036854775807∧t = a++b∧k t w
def All (l:List (World→Prop)):K:=fun w=>∀ (i:Nat) (x:World→Prop),l[i]? = some x→x w
def zEu (P:Program) (T:TypeId):Bool:=match P.underlying T with
 | some (.struct _) | some (.array _ _) | none=>false
 | some _=>true
def zId (P:Program) (T:TypeId) (n:Nat):Bool:=match P.underlying T with
 | some (.struct _) | some (.array _ _)=>(P.info? T).map (·.size) == some n
 | _=>false
def sizeT (P:Program) (T:TypeId) (n:Nat):Bool:=(P.info? T).map (·.size) == some n
def sliceT (P:Program) (T E:TypeId) (esz:Nat):Bool:=match P.underlying T with
 | some (.slice e)=>e == E && (P.info? E).map (·.size) == some esz
 | _=>false
def zFZ (P:Program) (T E:TypeId) (len esz:Nat):Bool:=match P.underlying T with
 | some (.array n e)=>n == len && e == E && (P.info? E).map (·.size) == some esz
 | _=>false
def jl (P:Program) (T:TypeId):Bool:=match P.underlying T with | some .string=>true | _=>false
def zJE (P:Program) (T:TypeId) (k:IntKind):Bool:=match P.underlying T with | some (.int k')=>k == k' | _=>false
def zFa (P:Program) (S i off n:Nat):Bool:=match P.underlying S with
 | some (.struct fs)=>match fs[i]? with
  | some f=>f.offset == off && n != 0 && (P.info? f.type).map (·.size) == some n
  | none=>false
 | _=>false
def zHN (P:Program) (S i off:Nat):Bool:=match P.underlying S with
 | some (.struct fs)=>match fs[i]? with
  | some f=>f.offset == off && zEu P f.type
  | none=>false
 | _=>false
def zHO (P:Program) (S i off n:Nat):Bool:=match P.underlying S with
 | some (.struct fs)=>match fs[i]? with
  | some f=>f.offset == off && zId P f.type n
  | none=>false
 | _=>false
section
variable {P:Program} {w:World}
theorem zBd {T:TypeId} (h:zEu P T = true):(isAgg T).run P w = .ok false w:=by
 unfold zEu at h
 unfold isAgg underlying program
 cases hu:P.underlying T with
 | none=>simp [hu] at h
 | some d=>cases d <;> simp [hu,Sem.run,Sem.run_bind'] at h ⊢ <;> simp_all [bind,Sem.bind,Sem.run,pure]
theorem jT {T n:Nat} (h:zId P T n = true):(isAgg T).run P w = .ok true w∧(sizeOf T).run P w = .ok n w:=by
 unfold zId at h
 unfold isAgg sizeOf typeInfo underlying program
 cases hi:P.info? T with
 | none=>cases hu:P.underlying T with
  | none=>simp [hu] at h
  | some d=>cases d <;> simp [hu,hi] at h
 | some i=>cases hu:P.underlying T with
  | none=>simp [hu] at h
  | some d=>cases d <;> simp [hu,hi] at h ⊢ <;> simp_all [bind,Sem.bind,Sem.run,pure]
theorem xg {T n:Nat} (h:sizeT P T n = true):(sizeOf T).run P w = .ok n w:=by
 unfold sizeT at h
 unfold sizeOf typeInfo program
 cases hi:P.info? T with
 | none=>simp [hi] at h
 | some i=>simp [hi] at h ⊢; simp_all [bind,Sem.bind,Sem.run,pure]
theorem uE {T E esz:Nat} (h:sliceT P T E esz = true):P.underlying T = some (.slice E)∧sizeT P E esz = true:=by
 unfold sliceT at h
 split at h
 ·rename_i e he; simp at h; obtain ⟨rfl,h⟩:=h; exact ⟨he,by unfold sizeT; simpa using h⟩
 ·cases h
theorem zC8 {T E len esz:Nat} (h:zFZ P T E len esz = true):P.underlying T = some (.array len E)∧sizeT P E esz = true:=by
 unfold zFZ at h
 split at h
 ·rename_i n e he; simp at h; obtain ⟨⟨rfl,rfl⟩,h⟩:=h; exact ⟨he,by unfold sizeT; simpa using h⟩
 ·cases h
theorem uO {T:Nat} (h:jl P T = true):P.underlying T = some .string:=by
 unfold jl at h; split at h
 ·assumption
 ·cases h
theorem zEv {T:Nat} {k:IntKind} (h:zJE P T k = true):P.underlying T = some (.int k):=by
 unfold zJE at h; split at h
 ·rename_i k' hk; simp at h; subst h; exact hk
 ·cases h
theorem run_underlying {T:TypeId} {d:TypeDesc} (h:P.underlying T = some d):(underlying T).run P w = .ok d w:=by
 simp [underlying,program,h,Sem.run]
end
theorem Pure.adr {P:Program} {σ:List (Nat×Value)} {o:Oper} {t e:Addr} (he:t = e) (h:Pure P σ o (.pointer (some e))):Pure P σ o (.pointer (some t)):=he ▸ h
theorem Pure.sl {P:Program} {σ:List (Nat×Value)} {o:Oper} {t e:Sl} (he:t = e) (h:Pure P σ o e.val):Pure P σ o t.val:=he ▸ h
theorem Pure.str {P:Program} {σ:List (Nat×Value)} {o:Oper} {t e:ByteArray} (he:t = e) (h:Pure P σ o (.string e)):Pure P σ o (.string t):=he ▸ h
theorem Pure.int {P:Program} {σ:List (Nat×Value)} {o:Oper} {k:IntKind} {t e:Int} (he:t = e) (h:Pure P σ o (.int k e)):Pure P σ o (.int k t):=he ▸ h
section
variable {P:Program} {σ:List (Nat×Value)} {o:Oper} {x y:Operand} {w:World}
theorem zJF {v:Value} (ho:o.op = .move x) (hx:ev σ x = some v):Pure P σ o v:=fun a n hs w=>by
 simp [execOp,ho,hs.ev hx]
theorem zGO {v:Value} (ho:o.op = .assign x) (hx:ev σ x = some v):Pure P σ o v:=fun a n hs w=>by
 simp [execOp,ho,hs.ev hx]
theorem zGP {c:Operand} {v:Value} (ho:o.op = .pick c x y) (hc:ev σ c = some (.bool true)) (hx:ev σ x = some v):Pure P σ o v:=fun a n hs w=>by
 simp [execOp,ho,hs.ev hx,hs.ev hc,asBool]
theorem zGQ {c:Operand} {v:Value} (ho:o.op = .pick c x y) (hc:ev σ c = some (.bool false)) (hy:ev σ y = some v):Pure P σ o v:=fun a n hs w=>by
 simp [execOp,ho,hs.ev hy,hs.ev hc,asBool]
theorem zGR {c:Operand} {b p q:Bool} (ho:o.op = .pick c x y) (hc:ev σ c = some (.bool b)) (hx:ev σ x = some (.bool p)) (hy:ev σ y = some (.bool q)):Pure P σ o (.bool (bif b then p else q)):=fun a n hs w=>by
 cases b <;> simp [execOp,ho,hs.ev hx,hs.ev hy,hs.ev hc,asBool]
theorem zLr {a:Addr} (ho:o.op = .nilCheck x) (hx:ev σ x = some (.pointer (some a))):Pure P σ o (.pointer (some a)):=fun _ n hs w=>by
 simp [execOp,ho,hs.ev hx]
theorem zJG {f:FuncId} {c d:Array Value} (ho:o.op = .nilCheck x) (hx:ev σ x = some (.func (.func f) c d)):Pure P σ o (.func (.func f) c d):=fun _ n hs w=>by
 simp [execOp,ho,hs.ev hx]
theorem zC9 {S i off n:Nat} {a:Addr} (ho:o.op = .fieldAddr S x i) (hx:ev σ x = some (.pointer (some a))) (hf:zFa P S i off n = true):Pure P σ o (.pointer (some (a.add off))):=fun _ _ hs w=>by
 unfold zFa at hf
 split at hf
 ·rename_i fs hS
  split at hf
  ·rename_i f hfi
   simp at hf
   obtain ⟨⟨h1,h2⟩,h3⟩:=hf
   have hz:(sizeOf f.type).run P w = .ok n w:=xg (by unfold sizeT; simpa using h3)
   simp [execOp,ho,hs.ev hx,Instr.fieldAt,run_underlying hS,hfi,Instr.sureAddr,fieldPlace,hz,h2,h1]
  ·cases hf
 ·cases hf
theorem zFb {S i n:Nat} {a:Addr} (ho:o.op = .fieldAddr S x i) (hx:ev σ x = some (.pointer (some a))) (hf:zFa P S i 0 n = true):Pure P σ o (.pointer (some a)):=by
 simpa [Addr.add] using zC9 ho hx hf
theorem zKs {S i off:Nat} {cs:Array Value} {v:Value} (ho:o.op = .field S x i) (hx:ev σ x = some (.agg cs)) (hf:zHN P S i off = true) (hv:cs[off]? = some v):Pure P σ o v:=fun _ _ hs w=>by
 unfold zHN at hf
 split at hf
 ·rename_i fs hS
  split at hf
  ·rename_i f hfi
   simp at hf
   obtain ⟨h1,h2⟩:=hf
   subst h1
   simp [execOp,ho,hs.ev hx,Instr.field,run_underlying hS,hfi,asAgg,part,zBd h2,hv]
  ·cases hf
 ·cases hf
theorem zJH {S i off n:Nat} {cs:Array Value} (ho:o.op = .field S x i) (hx:ev σ x = some (.agg cs)) (hf:zHO P S i off n = true):Pure P σ o (.agg (cs.extract off (off + n))):=fun _ _ hs w=>by
 unfold zHO at hf
 split at hf
 ·rename_i fs hS
  split at hf
  ·rename_i f hfi
   simp at hf
   obtain ⟨h1,h2⟩:=hf
   subst h1
   simp [execOp,ho,hs.ev hx,Instr.field,run_underlying hS,hfi,asAgg,part,(jT h2).1,(jT h2).2]
  ·cases hf
 ·cases hf
section ints
variable {T U:TypeId} {k:IntKind} {a b:Int}
theorem zLs (ho:o.op = .binOp .add T x y U) (hx:ev σ x = some (.int k a)) (hy:ev σ y = some (.int k b)):Pure P σ o (.int k (k.wrap (a + b))):=fun _ _ hs w=>by
 simp [execOp,ho,hs.ev hx,hs.ev hy,eqGuard,binOp,Op.intArith]
theorem zLt (ho:o.op = .binOp .sub T x y U) (hx:ev σ x = some (.int k a)) (hy:ev σ y = some (.int k b)):Pure P σ o (.int k (k.wrap (a - b))):=fun _ _ hs w=>by
 simp [execOp,ho,hs.ev hx,hs.ev hy,eqGuard,binOp,Op.intArith]
theorem zLu (ho:o.op = .binOp .mul T x y U) (hx:ev σ x = some (.int k a)) (hy:ev σ y = some (.int k b)):Pure P σ o (.int k (k.wrap (a * b))):=fun _ _ hs w=>by
 simp [execOp,ho,hs.ev hx,hs.ev hy,eqGuard,binOp,Op.intArith]
theorem zLv (ho:o.op = .binOp .quo T x y U) (hx:ev σ x = some (.int k a)) (hy:ev σ y = some (.int k b)) (hb:b ≠ 0):Pure P σ o (.int k (k.wrap (a.tdiv b))):=fun _ _ hs w=>by
 simp [execOp,ho,hs.ev hx,hs.ev hy,eqGuard,binOp,Op.intDiv,hb]
theorem zLw (ho:o.op = .binOp .rem T x y U) (hx:ev σ x = some (.int k a)) (hy:ev σ y = some (.int k b)) (hb:b ≠ 0):Pure P σ o (.int k (a.tmod b)):=fun _ _ hs w=>by
 simp [execOp,ho,hs.ev hx,hs.ev hy,eqGuard,binOp,Op.intDiv,hb]
theorem zNg (ho:o.op = .binOp .eql T x y U) (hx:ev σ x = some (.int k a)) (hy:ev σ y = some (.int k b)):Pure P σ o (.bool (decide (a = b))):=fun _ _ hs w=>by
 simp [execOp,ho,hs.ev hx,hs.ev hy,eqGuard,binOp,Op.intCmp]; rfl
theorem zNh (ho:o.op = .binOp .neq T x y U) (hx:ev σ x = some (.int k a)) (hy:ev σ y = some (.int k b)):Pure P σ o (.bool (decide (a ≠ b))):=fun _ _ hs w=>by
 by_cases h:a = b <;> simp [execOp,ho,hs.ev hx,hs.ev hy,eqGuard,binOp,Op.intCmp,h]
theorem zNi (ho:o.op = .binOp .lss T x y U) (hx:ev σ x = some (.int k a)) (hy:ev σ y = some (.int k b)):Pure P σ o (.bool (decide (a < b))):=fun _ _ hs w=>by
 simp [execOp,ho,hs.ev hx,hs.ev hy,eqGuard,binOp,Op.intCmp]
theorem zNj (ho:o.op = .binOp .leq T x y U) (hx:ev σ x = some (.int k a)) (hy:ev σ y = some (.int k b)):Pure P σ o (.bool (decide (a ≤ b))):=fun _ _ hs w=>by
 simp [execOp,ho,hs.ev hx,hs.ev hy,eqGuard,binOp,Op.intCmp]
theorem zNk (ho:o.op = .binOp .gtr T x y U) (hx:ev σ x = some (.int k a)) (hy:ev σ y = some (.int k b)):Pure P σ o (.bool (decide (b < a))):=fun _ _ hs w=>by
 simp [execOp,ho,hs.ev hx,hs.ev hy,eqGuard,binOp,Op.intCmp]
theorem zNl (ho:o.op = .binOp .geq T x y U) (hx:ev σ x = some (.int k a)) (hy:ev σ y = some (.int k b)):Pure P σ o (.bool (decide (b ≤ a))):=fun _ _ hs w=>by
 simp [execOp,ho,hs.ev hx,hs.ev hy,eqGuard,binOp,Op.intCmp]
def bitsOf (op:BinOp) (k:IntKind) (a b:Int):Int :=
 let u:=BitVec.ofInt k.bits a
 let v:=BitVec.ofInt k.bits b
 k.wrap (match op with | .and=>(u &&& v).toNat | .or=>(u ||| v).toNat | .xor=>(u ^^^ v).toNat | _=>(u &&& ~~~v).toNat)
theorem zLx (ho:o.op = .binOp .and T x y U) (hx:ev σ x = some (.int k a)) (hy:ev σ y = some (.int k b)):Pure P σ o (.int k (bitsOf .and k a b)):=fun _ _ hs w=>by
 simp [execOp,ho,hs.ev hx,hs.ev hy,eqGuard,binOp,Op.intBits,bitsOf]
theorem zNm (ho:o.op = .binOp .or T x y U) (hx:ev σ x = some (.int k a)) (hy:ev σ y = some (.int k b)):Pure P σ o (.int k (bitsOf .or k a b)):=fun _ _ hs w=>by
 simp [execOp,ho,hs.ev hx,hs.ev hy,eqGuard,binOp,Op.intBits,bitsOf]
theorem zLy (ho:o.op = .binOp .xor T x y U) (hx:ev σ x = some (.int k a)) (hy:ev σ y = some (.int k b)):Pure P σ o (.int k (bitsOf .xor k a b)):=fun _ _ hs w=>by
 simp [execOp,ho,hs.ev hx,hs.ev hy,eqGuard,binOp,Op.intBits,bitsOf]
def zBr (k:IntKind) (a b:Int):Int:=k.wrap (a * 2 ^ (min b.toNat k.bits))
def uY (k:IntKind) (a b:Int):Int:=a.fdiv (2 ^ (min b.toNat k.bits))
theorem zLz {j:IntKind} (ho:o.op = .binOp .shl T x y U) (hx:ev σ x = some (.int k a)) (hy:ev σ y = some (.int j b)) (hb:0 ≤ b):Pure P σ o (.int k (zBr k a b)):=fun _ _ hs w=>by
 simp [execOp,ho,hs.ev hx,hs.ev hy,eqGuard,binOp,Op.shift,zBr,show ¬ b < 0 by omega]
theorem zL0 {j:IntKind} (ho:o.op = .binOp .shr T x y U) (hx:ev σ x = some (.int k a)) (hy:ev σ y = some (.int j b)) (hb:0 ≤ b):Pure P σ o (.int k (uY k a b)):=fun _ _ hs w=>by
 simp [execOp,ho,hs.ev hx,hs.ev hy,eqGuard,binOp,Op.shift,uY,show ¬ b < 0 by omega]
theorem zL1 (ho:o.op = .unOp .neg T x) (hx:ev σ x = some (.int k a)):Pure P σ o (.int k (k.wrap (0 - a))):=fun _ _ hs w=>by
 simp [execOp,ho,hs.ev hx,Op.unary,Op.intArith]
theorem zL2 (ho:o.op = .unOp .xor T x) (hx:ev σ x = some (.int k a)):Pure P σ o (.int k (bitsOf .xor k (if k.signed then -1 else k.max) a)):=fun _ _ hs w=>by
 simp [execOp,ho,hs.ev hx,Op.unary,Op.intBits,bitsOf]
theorem zHP {j:IntKind} (ho:o.op = .convert T U x) (hx:ev σ x = some (.int k a)) (hT:zJE P T k = true) (hU:zJE P U j = true):Pure P σ o (.int j (j.wrap a)):=fun _ _ hs w=>by
 simp [execOp,ho,hs.ev hx,convert,run_underlying (zEv hT),run_underlying (zEv hU),Conv.intToInt]
theorem zL3 (t:Array TypeId) (ho:o.op = .call { callee:=.builtin .max,args:=#[x,y],argTypes:=t }) (hx:ev σ x = some (.int k a)) (hy:ev σ y = some (.int k b)):Pure P σ o (.int k (if b > a then b else a)):=fun _ _ hs w=>by
 simp [execOp,ho,hs.ev hx,hs.ev hy,resolve,invoke,builtin,Builtin.max_,Builtin.max2]
theorem zL4 (t:Array TypeId) (ho:o.op = .call { callee:=.builtin .min,args:=#[x,y],argTypes:=t }) (hx:ev σ x = some (.int k a)) (hy:ev σ y = some (.int k b)):Pure P σ o (.int k (if b < a then b else a)):=fun _ _ hs w=>by
 simp [execOp,ho,hs.ev hx,hs.ev hy,resolve,invoke,builtin,Builtin.min_,Builtin.min2]
end ints
theorem zL5 {T:TypeId} {b:Bool} (ho:o.op = .unOp .not T x) (hx:ev σ x = some (.bool b)):Pure P σ o (.bool (!b)):=fun _ _ hs w=>by
 simp [execOp,ho,hs.ev hx,Op.unary]
section strings
variable {T U:TypeId} {a b:ByteArray}
theorem zL6 (ho:o.op = .binOp .eql T x y U) (hx:ev σ x = some (.string a)) (hy:ev σ y = some (.string b)):Pure P σ o (.bool (a.toList == b.toList)):=fun _ _ hs w=>by
 simp [execOp,ho,hs.ev hx,hs.ev hy,eqGuard,binOp,Op.stringOp]
theorem zL7 (ho:o.op = .binOp .neq T x y U) (hx:ev σ x = some (.string a)) (hy:ev σ y = some (.string b)):Pure P σ o (.bool (!(a.toList == b.toList))):=fun _ _ hs w=>by
 simp [execOp,ho,hs.ev hx,hs.ev hy,eqGuard,binOp,Op.stringOp]
theorem zL8 (ho:o.op = .binOp .lss T x y U) (hx:ev σ x = some (.string a)) (hy:ev σ y = some (.string b)):Pure P σ o (.bool (Op.bytesLess a.toList b.toList)):=fun _ _ hs w=>by
 simp [execOp,ho,hs.ev hx,hs.ev hy,eqGuard,binOp,Op.stringOp]
theorem zL9 (ho:o.op = .binOp .gtr T x y U) (hx:ev σ x = some (.string a)) (hy:ev σ y = some (.string b)):Pure P σ o (.bool !(Op.bytesLess a.toList b.toList || a.toList == b.toList)):=fun _ _ hs w=>by
 simp [execOp,ho,hs.ev hx,hs.ev hy,eqGuard,binOp,Op.stringOp]
theorem zMb (ho:o.op = .binOp .add T x y U) (hx:ev σ x = some (.string a)) (hy:ev σ y = some (.string b)) (hl:((a.size + b.size:Nat):Int) ≤ 9223372036854775807):Pure P σ o (.string (a++b)):=fun _ _ hs w=>by
 have:¬ ((a.size + b.size:Nat):Int) > IntKind.i64.max:=by simp [IntKind.max,IntKind.signed,IntKind.bits]; omega
 simp only [execOp,ho,hs.ev hx,hs.ev hy,eqGuard,binOp,Op.stringOp]
 simp at this
 simp [Int.not_lt.2 (by simpa using this),this]
theorem zHQ (ho:o.op = .convert T U x) (hx:ev σ x = some (.string a)) (hT:jl P T = true) (hU:jl P U = true):Pure P σ o (.string a):=fun _ _ hs w=>by
 simp [execOp,ho,hs.ev hx,convert,run_underlying (uO hT),run_underlying (uO hU)]
end strings
section nils
variable {T U E:TypeId}
theorem zHx {a b:Bool} (hT:P.underlying T = some .bool):(Op.equal T (.bool a) (.bool b)).run P w = .ok (a == b) w:=by
 unfold Op.equal Op.maxDepth
 rw [Op.equalIn]
 simp only [Sem.run_bind,run_underlying hT,Result.andThen,Sem.run_pure]
theorem zNn {a b:Bool} (ho:o.op = .binOp .eql T x y U) (hx:ev σ x = some (.bool a)) (hy:ev σ y = some (.bool b)) (hT:P.underlying T = some .bool):Pure P σ o (.bool (a == b)):=fun _ _ hs w=>by
 simp only [execOp,ho,hs.ev hx,hs.ev hy,eqGuard,binOp]
 simp [zHx hT]
theorem zNo {a b:Bool} (ho:o.op = .binOp .neq T x y U) (hx:ev σ x = some (.bool a)) (hy:ev σ y = some (.bool b)) (hT:P.underlying T = some .bool):Pure P σ o (.bool (!(a == b))):=fun _ _ hs w=>by
 simp only [execOp,ho,hs.ev hx,hs.ev hy,eqGuard,binOp]
 simp [zHx hT]
theorem zAl {p:Option Addr} (hT:P.underlying T = some (.pointer E)):(Op.equal T (.pointer p) (.pointer none)).run P w = .ok p.isNone w:=by
 unfold Op.equal Op.maxDepth
 rw [Op.equalIn]
 cases p <;> simp only [Sem.run_bind,run_underlying hT,Result.andThen,Sem.run_pure] <;> rfl
theorem zJI {p:Option Addr} (ho:o.op = .binOp .eql T x y U) (hx:ev σ x = some (.pointer p)) (hy:ev σ y = some (.pointer none)) (hT:P.underlying T = some (.pointer E)):Pure P σ o (.bool p.isNone):=fun _ _ hs w=>by
 cases p <;> simp only [execOp,ho,hs.ev hx,hs.ev hy,eqGuard,binOp] <;> simp [zAl hT]
theorem zJJ {p:Option Addr} (ho:o.op = .binOp .neq T x y U) (hx:ev σ x = some (.pointer p)) (hy:ev σ y = some (.pointer none)) (hT:P.underlying T = some (.pointer E)):Pure P σ o (.bool (!p.isNone)):=fun _ _ hs w=>by
 cases p <;> simp only [execOp,ho,hs.ev hx,hs.ev hy,eqGuard,binOp] <;> simp [zAl hT]
theorem zBS {s:Sl} {n c:Nat} (hT:P.underlying T = some (.slice E)):(Op.equal T s.val (.slice none n c)).run P w = .ok s.a.isNone w:=by
 obtain ⟨a,m,d⟩:=s
 unfold Op.equal Op.maxDepth
 rw [Op.equalIn]
 cases a <;> simp only [Sl.val,Sem.run_bind,run_underlying hT,Result.andThen,Sem.run_pure] <;> rfl
theorem zKt {s:Sl} {n c:Nat} (ho:o.op = .binOp .eql T x y U) (hx:ev σ x = some s.val) (hy:ev σ y = some (.slice none n c)) (hT:P.underlying T = some (.slice E)):Pure P σ o (.bool s.a.isNone):=fun _ _ hs w=>by
 obtain ⟨a,m,d⟩:=s
 have:=zBS (w:=w) (s:=⟨a,m,d⟩) (n:=n) (c:=c) hT
 simp only [execOp,ho,hs.ev hx,hs.ev hy,eqGuard,binOp]
 simp [this]
theorem zKu {s:Sl} {n c:Nat} (ho:o.op = .binOp .neq T x y U) (hx:ev σ x = some s.val) (hy:ev σ y = some (.slice none n c)) (hT:P.underlying T = some (.slice E)):Pure P σ o (.bool (!s.a.isNone)):=fun _ _ hs w=>by
 obtain ⟨a,m,d⟩:=s
 have:=zBS (w:=w) (s:=⟨a,m,d⟩) (n:=n) (c:=c) hT
 simp only [execOp,ho,hs.ev hx,hs.ev hy,eqGuard,binOp]
 simp [this]
end nils
theorem zNp {T:TypeId} {s:Sl} {E esz:Nat} (ho:o.op = .call { callee:=.builtin .len,args:=#[x],argTypes:=#[T] }) (hx:ev σ x = some s.val) (hT:sliceT P T E esz = true):Pure P σ o (.int .i64 s.n):=fun _ _ hs w=>by
 simp [execOp,ho,hs.ev hx,resolve,invoke,builtin,Builtin.len_,run_underlying (uE hT).1,goInt]
theorem zMc {T:TypeId} {s:ByteArray} (ho:o.op = .call { callee:=.builtin .len,args:=#[x],argTypes:=#[T] }) (hx:ev σ x = some (.string s)) (hT:jl P T = true):Pure P σ o (.int .i64 s.size):=fun _ _ hs w=>by
 simp [execOp,ho,hs.ev hx,resolve,invoke,builtin,Builtin.len_,run_underlying (uO hT),goInt]
theorem zEw {vs:Array Value} {i:Nat} {v:Value} (ho:o.op = .extract x i) (hx:ev σ x = some (.tuple vs)) (hv:vs[i]? = some v):Pure P σ o v:=fun _ _ hs w=>by
 simp [execOp,ho,hs.ev hx,Instr.extract,hv]
theorem zNq {T E esz:Nat} {k:IntKind} {s:Sl} {i:Int} {a:Addr} (ho:o.op = .indexAddr T x y) (hx:ev σ x = some s.val) (hy:ev σ y = some (.int k i)) (hT:sliceT P T E esz = true)
  (ha:s.a = some a) (h0:0 ≤ i) (h1:i < s.n):Pure P σ o (.pointer (some (a.add (i.toNat * esz)))):=fun _ _ hs w=>by
 simp [execOp,ho,hs.ev hx,hs.ev hy,Instr.indexAt,asIntOf,run_underlying (uE hT).1,ha,h0,h1,xg (uE hT).2]
theorem zMd {T E len esz:Nat} {k:IntKind} {i:Int} {a:Addr} (ho:o.op = .indexAddr T x y) (hx:ev σ x = some (.pointer (some a))) (hy:ev σ y = some (.int k i)) (hT:zFZ P T E len esz = true)
  (h0:0 ≤ i) (h1:i < len):Pure P σ o (.pointer (some (a.add (i.toNat * esz)))):=fun _ _ hs w=>by
 simp [execOp,ho,hs.ev hx,hs.ev hy,Instr.indexAt,asIntOf,Instr.sureAddr,run_underlying (zC8 hT).1,h0,h1,xg (zC8 hT).2]
theorem zMe {T:Nat} {k:IntKind} {s:ByteArray} {i:Int} {b:UInt8} (ho:o.op = .index T x y) (hx:ev σ x = some (.string s)) (hy:ev σ y = some (.int k i)) (hT:jl P T = true)
  (h0:0 ≤ i) (h1:s[i.toNat]? = some b):Pure P σ o (.int .u8 (b.toNat:Int)):=fun _ _ hs w=>by
 simp [execOp,ho,hs.ev hx,hs.ev hy,Instr.index,asIntOf,run_underlying (uO hT),h0,h1]
theorem zDx {fn:Fn} {first cap:Array Operand} {fs cs:List Value} (ho:o.op = .makeFunc fn first cap) (hf:first.toList.mapM (ev σ) = some fs) (hc:cap.toList.mapM (ev σ) = some cs):Pure P σ o (.func fn fs.toArray cs.toArray):=fun a _ hs w=>by
 have key:∀ (l:List Operand) (vs:List Value),l.mapM (ev σ) = some vs→l.map a.eval = vs:=by
  intro l
  induction l with
  | nil=>intro vs h; simp at h; simp [h]
  | cons u l ih =>
   intro vs h
   simp only [List.mapM_cons] at h
   cases hu:ev σ u with
   | none=>simp [hu] at h
   | some v =>
    cases hl:l.mapM (ev σ) with
    | none=>simp [hu,hl] at h
    | some vs'=>simp [hu,hl] at h; subst h; simp [hs.ev hu,ih _ hl]
 have h1:first.map a.eval = fs.toArray:=by
  apply Array.ext'; simpa using key _ _ hf
 have h2:cap.map a.eval = cs.toArray:=by
  apply Array.ext'; simpa using key _ _ hc
 simp only [execOp,ho,Instr.makeFunc,h1,h2]
 simp
end
end
section
open Go
section
variable {P : Program} {σ : List (Nat × Value)} {o : Oper} {x y z : Operand} {w w' : World} {v : Value}
def zAg (σ : List (Nat × Value)) (x : Option Operand) (d : Int) (i : Int) : Prop :=
  match x with
  | none => i = d
  | some x => ∃ k, ev σ x = some (.int k i)
theorem zNr {T E esz : Nat} {s : Sl} {lo hi mx : Option Operand} {l h m : Int} (ho : o.op = .slice T x lo hi mx) (hx : ev σ x = some s.val) (hT : sliceT P T E esz = true)
    (hl : zAg σ lo 0 l) (hh : zAg σ hi s.n h) (hm : zAg σ mx s.c m) (hmx : mx.isSome = true → hi.isSome = true) (h0 : 0 ≤ l) (h1 : l ≤ h) (h2 : h ≤ m) (h3 : m ≤ s.c) :
    Pure P σ o (Sl.val ⟨uN s.a l.toNat m.toNat esz, h.toNat - l.toNat, m.toNat - l.toNat⟩) := fun a n hs w => by
  obtain ⟨hsl, hsz⟩ := uE hT
  have hz := xg (w := w) hsz
  have bound : ∀ (k : IntKind) (i : Int) (y : Nat) (c : BoundsCode), 0 ≤ i → i ≤ y → (Instr.sliceBound (.int k i) y c).run P w = .ok i.toNat w := fun k i y c ha hb => by
    simp [Instr.sliceBound, asIntOf, ha, hb]
  have hmE : m.toNat ≤ s.c := by omega
  have hmI : ((m.toNat : Nat) : Int) = m := Int.toNat_of_nonneg (by omega)
  have hhI : ((h.toNat : Nat) : Int) = h := Int.toNat_of_nonneg (by omega)
  simp only [execOp, ho, Instr.sliceAt, hs.ev hx]
  simp only [Sem.run_bind, run_underlying hsl, Result.andThen, Instr.slice, Sl.val]
  simp only [Instr.sliceBounds]
  cases mx with
  | none =>
    simp only [zAg] at hm; subst hm
    cases hi with
    | none =>
      simp only [zAg] at hh; subst hh
      cases lo with
      | none =>
        simp only [zAg] at hl; subst hl
        simp [hz, uN]
      | some lo =>
        obtain ⟨k, hk⟩ := hl
        simp [hs.ev hk, bound k l s.n _ h0 (by omega), hz, uN]
    | some hi =>
      obtain ⟨k', hk'⟩ := hh
      cases lo with
      | none =>
        simp only [zAg] at hl; subst hl
        simp [hs.ev hk', bound k' h s.c _ (by omega) (by omega), hz, uN]
      | some lo =>
        obtain ⟨k, hk⟩ := hl
        simp [hs.ev hk, hs.ev hk', bound k' h s.c _ (by omega) (by omega), bound k l h.toNat _ h0 (by omega), hz, uN]
  | some mx =>
    obtain ⟨k'', hk''⟩ := hm
    cases hi with
    | none => simp at hmx
    | some hi =>
      obtain ⟨k', hk'⟩ := hh
      cases lo with
      | none =>
        simp only [zAg] at hl; subst hl
        simp [hs.ev hk', hs.ev hk'', bound k'' m s.c _ (by omega) (by omega), bound k' h m.toNat _ (by omega) (by omega), hz, uN]
      | some lo =>
        obtain ⟨k, hk⟩ := hl
        simp [hs.ev hk, hs.ev hk', hs.ev hk'', bound k'' m s.c _ (by omega) (by omega), bound k' h m.toNat _ (by omega) (by omega), bound k l h.toNat _ h0 (by omega), hz, uN]
theorem zMf {T : Nat} {s : ByteArray} {lo hi : Option Operand} {l h : Int} (ho : o.op = .slice T x lo hi none) (hx : ev σ x = some (.string s)) (hT : jl P T = true)
    (hl : zAg σ lo 0 l) (hh : zAg σ hi s.size h) (h0 : 0 ≤ l) (h1 : l ≤ h) (h2 : h ≤ s.size) : Pure P σ o (.string (s.extract l.toNat h.toNat)) := fun a n hs w => by
  have hsl := uO hT
  have bound : ∀ (k : IntKind) (i : Int) (y : Nat) (c : BoundsCode), 0 ≤ i → i ≤ y → (Instr.sliceBound (.int k i) y c).run P w = .ok i.toNat w := fun k i y c ha hb => by
    simp [Instr.sliceBound, asIntOf, ha, hb]
  simp only [execOp, ho, Instr.sliceAt, hs.ev hx]
  simp only [Sem.run_bind, run_underlying hsl, Result.andThen, Instr.slice]
  simp only [Instr.sliceBounds]
  cases hi with
  | none =>
    simp only [zAg] at hh; subst hh
    cases lo with
    | none => simp only [zAg] at hl; subst hl; simp
    | some lo =>
      obtain ⟨k, hk⟩ := hl
      simp [hs.ev hk, bound k l s.size _ h0 (by omega)]
  | some hi =>
    obtain ⟨k', hk'⟩ := hh
    cases lo with
    | none =>
      simp only [zAg] at hl; subst hl
      simp [hs.ev hk', bound k' h s.size _ (by omega) (by omega)]
    | some lo =>
      obtain ⟨k, hk⟩ := hl
      simp [hs.ev hk, hs.ev hk', bound k' h s.size _ (by omega) (by omega), bound k l h.toNat _ h0 (by omega)]
theorem zJK {T : TypeId} {a : Addr} (ho : o.op = .load T x) (hx : ev σ x = some (.pointer (some a))) (hT : zEu P T = true) (hv : w.cell? a = some v) : Eff P σ o w (.value v) w := fun _ _ hs => by
  simp [execOp, ho, hs.ev hx, Instr.loadAt, Instr.sureAddr, loadVar, zBd hT, load, Sem.run, hv]
theorem run_loadCells {a : Addr} {cs : Array Value} (h : RdN w a cs) : (loadCells a cs.size).run P w = .ok cs w := by
  have key : ∀ (n i : Nat) (acc : Array Value), i + n = cs.size → acc.toList = cs.toList.take i → (loadCellsFrom a i n acc).run P w = .ok cs w := by
    intro n
    induction n with
    | zero =>
      intro i acc hi hacc
      have : acc = cs := by apply Array.ext'; rw [hacc, List.take_of_length_le]; simp; omega
      simp [loadCellsFrom, this]
    | succ n ih =>
      intro i acc hi hacc
      have hlt : i < cs.size := by omega
      have hc := h i hlt
      rw [Array.getElem?_eq_getElem hlt] at hc
      simp only [loadCellsFrom, Sem.run_bind, load, Sem.run, hc, Result.andThen]
      refine ih (i + 1) _ (by omega) ?_
      rw [Array.toList_push, hacc, List.take_succ_eq_append_getElem (by simpa using hlt)]
      simp
  exact key cs.size 0 #[] (by omega) (by simp)
theorem zHy {T n : Nat} {a : Addr} {cs : Array Value} (ho : o.op = .load T x) (hx : ev σ x = some (.pointer (some a))) (hT : zId P T n = true) (hn : cs.size = n) (hv : RdN w a cs) : Eff P σ o w (.value (.agg cs)) w := fun _ _ hs => by
  subst hn
  simp [execOp, ho, hs.ev hx, Instr.loadAt, Instr.sureAddr, loadVar, (jT hT).1, (jT hT).2, run_loadCells hv]
theorem zDy {a : Addr} (hv : qj v = true) (hc : ∃ u, w.cell? a = some u) (hf : w.frozen? a = false) : (store a v).run P w = .ok () (w.setCell a v) := by
  obtain ⟨u, hu⟩ := hc
  cases v <;> simp [qj] at hv <;> simp [store, Sem.run, hu, hf]
theorem zBs {w : World} {p q : Addr} {x : Value} (h : ∃ u, w.cell? q = some u) : ∃ u, (w.setCell p x).cell? q = some u := by
  obtain ⟨u, hu⟩ := h
  unfold World.cell? at hu ⊢
  unfold World.setCell
  simp only [Array.getElem?_modify]
  cases hb : w.heap[q.block]? with
  | none => simp [hb] at hu
  | some o =>
    cases o <;> simp [hb] at hu
    rename_i c e fz
    by_cases hq : p.block = q.block
    · simp only [hq, if_true, hb, Option.map_some]
      obtain ⟨h1, h2⟩ := hu
      have hlt : q.off < c.size := (Array.getElem?_eq_some_iff.1 h2).1
      simp only [h1]
      cases hsp : p.spot with
      | some s => simp [h2]
      | none =>
        by_cases ho : p.off = q.off
        · simp [ho, hlt]
        · simp [Array.getElem?_setIfInBounds_ne ho, h2]
    · simp only [hq, if_false, hb]
      obtain ⟨h1, h2⟩ := hu
      simp [h1, h2]
theorem zDz {w : World} {p q : Addr} {x : Value} : (w.setCell p x).frozen? q = w.frozen? q := by
  unfold World.frozen? World.setCell
  simp only [Array.getElem?_modify]
  by_cases hq : p.block = q.block
  · simp only [hq, if_true]
    cases hb : w.heap[q.block]? with
    | none => rfl
    | some o => cases o <;> rfl
  · simp [hq]
theorem jW {a : Addr} : ∀ (vs : List Value) (i : Nat) (w : World), (∀ v ∈ vs, qj v = true) → (∀ j, j < vs.length → (∃ u, w.cell? (a.add (i + j)) = some u) ∧ w.frozen? (a.add (i + j)) = false) →
    (storeCells a vs i).run P w = .ok () (setCells a vs i w)
  | [], i, w, _, _ => rfl
  | v :: vs, i, w, hf, hc => by
    have h0 := hc 0 (by simp)
    simp only [Nat.add_zero] at h0
    simp only [storeCells, Sem.run_bind, zDy (hf v (by simp)) h0.1 h0.2, Result.andThen, setCells]
    refine jW vs (i + 1) _ (fun u hu => hf u (by simp [hu])) fun j hj => ?_
    have hj' := hc (j + 1) (by simpa using hj)
    rw [show i + 1 + j = i + (j + 1) by omega]
    exact ⟨zBs hj'.1, by rw [zDz]; exact hj'.2⟩
theorem zKv {T : TypeId} {a : Addr} (ho : o.op = .store T x y) (hx : ev σ x = some (.pointer (some a))) (hy : ev σ y = some v) (hT : sizeT P T 1 = true)
    (hw : w' = w.setCell a v) (hc : ∃ u, w.cell? a = some u) (hf : w.frozen? a = false) (hv : qj v = true) : Eff P σ o w .skip w' := fun _ _ hs => by
  subst hw
  have h1 : v.cells = #[v] := by cases v <;> simp [qj] at hv <;> rfl
  have ha : a.add 0 = a := by simp [Addr.add]
  simp [execOp, ho, hs.ev hx, hs.ev hy, Instr.storeAt, Instr.sureAddr, storeVar, xg hT, h1, storeCells, ha, zDy hv hc hf]
theorem zJL {T n : Nat} {a : Addr} {cs : Array Value} (ho : o.op = .store T x y) (hx : ev σ x = some (.pointer (some a))) (hy : ev σ y = some (.agg cs)) (hT : sizeT P T n = true) (hw : w' = setCells a cs.toList 0 w) (hn : cs.size = n)
    (hc : ∀ i, i < cs.size → (∃ u, w.cell? (a.add i) = some u) ∧ w.frozen? (a.add i) = false) (hv : ∀ v ∈ cs.toList, qj v = true) : Eff P σ o w .skip w' := fun _ _ hs => by
  subst hn; subst hw
  have := jW (P := P) (a := a) cs.toList 0 w hv (fun j hj => by simpa using hc j (by simpa using hj))
  simp [execOp, ho, hs.ev hx, hs.ev hy, Instr.storeAt, Instr.sureAddr, storeVar, xg hT, Value.cells, this]
theorem zNs {T : TypeId} {cs : Array Value} {a : Addr} (ho : o.op = .box T x) (hx : ev σ x = some v) (hc : v.cells = cs) (ha : a = ⟨w.heap.size, 0, none⟩) (hw : w' = { w with heap := w.heap.push (.cells cs T) }) : Eff P σ o w (.value (.pointer (some a))) w' := fun _ _ hs => by
  subst ha; subst hw; subst hc
  simp [execOp, ho, hs.ev hx, Instr.box, newVar, newRow, newObj, Sem.run]
def uP (P : Program) (T : TypeId) (z : Value) : Prop := ∃ i, P.info? T = some i ∧ i.zero = some z
theorem uf {T : TypeId} {z : Value} (h : uP P T z) : (zeroValue T).run P w = .ok z w := by
  obtain ⟨i, hi, hz⟩ := h
  simp [zeroValue, typeInfo, program, hi, hz, Sem.run]
theorem zKw {T : TypeId} {zv : Value} {cs : Array Value} {a : Addr} (ho : o.op = .alloc T) (hz : uP P T zv) (hc : zv.cells = cs) (ha : a = ⟨w.heap.size, 0, none⟩) (hw : w' = { w with heap := w.heap.push (.cells cs T) }) : Eff P σ o w (.value (.pointer (some a))) w' := fun _ _ hs => by
  subst ha; subst hw; subst hc
  simp [execOp, ho, Instr.alloc, uf hz, newVar, newRow, newObj, Sem.run]
def partsOf (σ : List (Nat × Value)) : List (Nat × Operand) → Option (List (Nat × Value))
  | [] => some []
  | p :: ps => match ev σ p.2, partsOf σ ps with
    | some v, some vs => some ((p.1, v) :: vs)
    | _, _ => none
theorem jK {a : Act} {n : Nat} (hs : Slots a n σ) : ∀ {ps : List (Nat × Operand)} {vs : List (Nat × Value)}, partsOf σ ps = some vs → ps.map (fun p => (p.1, a.eval p.2)) = vs
  | [], vs, h => by simp [partsOf] at h; subst h; rfl
  | p :: ps, vs, h => by
    unfold partsOf at h
    split at h
    · rename_i v vs' hv hvs
      cases h
      simp [hs.ev hv, jK hs hvs]
    · cases h
def zHz (P : Program) (T : TypeId) (places : List (Nat × Nat)) : Prop :=
  ∃ fs, P.underlying T = some (.struct fs) ∧ fs.toList.map (fun f => ((P.info? f.type).map fun i => (f.offset, i.size))) = places.map some
theorem run_places {fs : List Field} : ∀ {places : List (Nat × Nat)}, fs.map (fun f => ((P.info? f.type).map fun i => (f.offset, i.size))) = places.map some →
    (List.mapM (fun f : Field => (Prod.mk f.offset <$> sizeOf f.type : Sem (Nat × Nat))) fs).run P w = .ok places w := by
  induction fs with
  | nil => intro places h; cases places <;> simp at h; simp
  | cons f fs ih =>
    intro places h
    cases places with
    | nil => simp at h
    | cons p places =>
      simp only [List.map_cons, List.cons.injEq] at h
      obtain ⟨h1, h2⟩ := h
      cases hi : P.info? f.type with
      | none => simp [hi] at h1
      | some i =>
        simp [hi] at h1; subst h1
        have hz : (sizeOf f.type).run P w = .ok i.size w := xg (by simp [sizeT, hi])
        rw [List.mapM_cons]
        simp only [Sem.run_bind, Sem.run_map, hz, Result.andThen, ih h2, Sem.run_pure]
theorem zH0 {T : TypeId} {zv : Value} {places : List (Nat × Nat)} {ps : Array (Nat × Operand)} {vs : List (Nat × Value)} {cs : Array Value} (ho : o.op = .build T ps) (hz : uP P T zv) (hp : zHz P T places)
    (hv : partsOf σ ps.toList = some vs) (hc : Instr.fill (places[·]?) zv.cells vs = some cs) : Pure P σ o (.agg cs) := fun _ _ hs w => by
  obtain ⟨fs, hu, hf⟩ := hp
  have h1 := jK hs hv
  have h2 : (fs.mapM fun f => do pure (f.offset, ← sizeOf f.type) : Sem (Array (Nat × Nat))).run P w = .ok places.toArray w := by
    rw [Array.mapM_eq_mapM_toList]
    simp [run_places (w := w) hf, Result.andThen]
  simp only [execOp, ho, Instr.build]
  simp only [Sem.run_bind, uf hz, Result.andThen, run_underlying hu, h2]
  have h3 : (fun x : Nat => places.toArray[x]?) = (fun x : Nat => places[x]?) := by funext i; simp
  simp [h1, h3, hc]
theorem zJM {T : TypeId} {ps : Array (Nat × Operand)} {vs : List (Nat × Value)} (ho : o.op = .build T ps) (hv : partsOf σ ps.toList = some vs) (hr : (Instr.build T vs.toArray).run P w = .ok v w') : Eff P σ o w (.value v) w' := fun _ _ hs => by
  have h1 := jK hs hv
  have h2 : ∀ f : Operand → Value, ps.map (fun p => (p.1, f p.2)) = (ps.toList.map (fun p => (p.1, f p.2))).toArray := fun f => by apply Array.ext'; simp
  simp only [execOp, ho]
  rw [h2, h1]
  simp [hr]
theorem zNt {v : Value} (h : ∀ w, Eff P σ o w (.value v) w) : Pure P σ o v := fun a n hs w => h w a n hs
theorem zBt {T E esz len : Nat} {zv : Value} {ps : Array (Nat × Operand)} {vs : List (Nat × Value)} {z cs : Array Value} {a : Addr} (ho : o.op = .buildSlice T len ps) (hT : sliceT P T E esz = true) (hz : uP P E zv)
    (hl : len * esz ≤ 2 ^ 24) (hv : partsOf σ ps.toList = some vs) (hzz : (Array.range (len * esz)).map (fun i => (if len * esz = 0 then #[] else zv.cells)[i % (if len * esz = 0 then #[] else zv.cells).size]!) = z)
    (hc : Instr.fill (fun i => some (i * esz, esz)) z vs = some cs) (ha : a = ⟨w.heap.size, 0, none⟩) (hw : w' = { w with heap := w.heap.push (.cells cs E) }) :
    Eff P σ o w (.value (Sl.val ⟨some a, len, len⟩)) w' := fun _ _ hs => by
  subst ha; subst hw; subst hzz
  obtain ⟨hsl, hsz⟩ := uE hT
  have h1 := jK hs hv
  simp only [execOp, ho, Instr.buildSlice]
  simp only [Sem.run_bind, Result.andThen, run_underlying hsl, xg hsz]
  have h4 : ¬ (len * esz > 2 ^ 24) := by omega
  by_cases h0 : len * esz = 0
  · simp [h0] at hc
    simp [h0, h1, hc, newRow, newObj, Sem.run]
  · simp [h0] at hc
    simp [h0, h4, uf hz, h1, hc, newRow, newObj, Sem.run]
theorem zJN {T : TypeId} {ok : Bool} {vx vy : Value} (ho : o.op = .lookup T x y ok) (hx : ev σ x = some vx) (hy : ev σ y = some vy) (hr : (Instr.lookup T vx vy ok).run P w = .ok v w') : Eff P σ o w (.value v) w' := fun _ _ hs => by
  simp [execOp, ho, hs.ev hx, hs.ev hy, hr]
theorem zGS {T : TypeId} {vx vy vz : Value} {u : Unit} (ho : o.op = .mapUpdate T x y z) (hx : ev σ x = some vx) (hy : ev σ y = some vy) (hz : ev σ z = some vz) (hr : (Instr.mapUpdate T vx vy vz).run P w = .ok u w') : Eff P σ o w .skip w' := fun _ _ hs => by
  simp [execOp, ho, hs.ev hx, hs.ev hy, hs.ev hz, hr]
theorem zIe {T U : TypeId} {vx : Value} (ho : o.op = .convert T U x) (hx : ev σ x = some vx) (hr : (convert T U vx).run P w = .ok v w') : Eff P σ o w (.value v) w' := fun _ _ hs => by
  simp [execOp, ho, hs.ev hx, hr]
theorem zKx {op : BinOp} {T U : TypeId} {vx vy : Value} (ho : o.op = .binOp op T x y U) (hx : ev σ x = some vx) (hy : ev σ y = some vy) (hr : (do eqGuard op T x y vx vy; binOp op T vx vy : Sem Value).run P w = .ok v w') : Eff P σ o w (.value v) w' := fun _ _ hs => by
  simp only [execOp, ho, hs.ev hx, hs.ev hy]
  rw [Sem.run_bind, hr]; rfl
theorem zIf {T : TypeId} (ho : o.op = .makeMap T none) (hr : (Instr.makeMap T none).run P w = .ok v w') : Eff P σ o w (.value v) w' := fun _ _ hs => by
  simp [execOp, ho, hr]
theorem zGT {T : TypeId} {vx vy : Value} (ho : o.op = .makeSlice T x y) (hx : ev σ x = some vx) (hy : ev σ y = some vy) (hr : (Instr.makeSlice T vx vy).run P w = .ok v w') : Eff P σ o w (.value v) w' := fun _ _ hs => by
  simp [execOp, ho, hs.ev hx, hs.ev hy, hr]
theorem zKy {T : TypeId} {vx : Value} (ho : o.op = .range T x) (hx : ev σ x = some vx) (hr : (Instr.range T vx).run P w = .ok v w') : Eff P σ o w (.value v) w' := fun _ _ hs => by
  simp [execOp, ho, hs.ev hx, hr]
theorem zMg {s : Bool} {vx : Value} {t : TypeId} (ho : o.op = .next x s) (ht : o.type = t) (hx : ev σ x = some vx) (hr : (Instr.next vx s t).run P w = .ok v w') : Eff P σ o w (.value v) w' := fun _ _ hs => by
  simp [execOp, ho, ht, hs.ev hx, hr]
theorem zKz {vx : Value} (ho : o.op = .entry x) (hx : ev σ x = some vx) (hr : (Instr.entry vx).run P w = .ok v w') : Eff P σ o w (.value v) w' := fun _ _ hs => by
  simp [execOp, ho, hs.ev hx, hr]
theorem zDP {T : TypeId} {vx : Value} (ho : o.op = .makeInterface T x) (hx : ev σ x = some vx) (hr : (Instr.makeInterface T vx).run P w = .ok v w') : Eff P σ o w (.value v) w' := fun _ _ hs => by
  simp [execOp, ho, hs.ev hx, hr]
section builtins
variable {ts : Array TypeId} {t : TypeId} {vx vy : Value}
theorem zJO (ho : o.op = .call { callee := .builtin .append, args := #[x, y], argTypes := ts }) (ht : o.type = t) (hx : ev σ x = some vx) (hy : ev σ y = some vy) (hr : (Builtin.append_ ts t #[vx, vy]).run P w = .ok v w') : Eff P σ o w (.value v) w' := fun _ _ hs => by
  simp [execOp, ho, hs.ev hx, hs.ev hy, ht, resolve, invoke, builtin, hr]
theorem zMh (ho : o.op = .call { callee := .builtin .copy, args := #[x, y], argTypes := ts }) (ht : o.type = t) (hx : ev σ x = some vx) (hy : ev σ y = some vy) (hr : (Builtin.copy_ ts t #[vx, vy]).run P w = .ok v w') : Eff P σ o w (.value v) w' := fun _ _ hs => by
  simp [execOp, ho, hs.ev hx, hs.ev hy, ht, resolve, invoke, builtin, hr]
theorem zJP (ho : o.op = .call { callee := .builtin .delete, args := #[x, y], argTypes := ts }) (ht : o.type = t) (hx : ev σ x = some vx) (hy : ev σ y = some vy) (hr : (Builtin.delete_ ts t #[vx, vy]).run P w = .ok v w') : Eff P σ o w (.value v) w' := fun _ _ hs => by
  simp [execOp, ho, hs.ev hx, hs.ev hy, ht, resolve, invoke, builtin, hr]
theorem zK0 (ho : o.op = .call { callee := .builtin .clear, args := #[x], argTypes := ts }) (ht : o.type = t) (hx : ev σ x = some vx) (hr : (Builtin.clear_ ts t #[vx]).run P w = .ok v w') : Eff P σ o w (.value v) w' := fun _ _ hs => by
  simp [execOp, ho, hs.ev hx, ht, resolve, invoke, builtin, hr]
theorem zNu (ho : o.op = .call { callee := .builtin .len, args := #[x], argTypes := ts }) (ht : o.type = t) (hx : ev σ x = some vx) (hr : (Builtin.len_ ts t #[vx]).run P w = .ok v w') : Eff P σ o w (.value v) w' := fun _ _ hs => by
  simp [execOp, ho, hs.ev hx, ht, resolve, invoke, builtin, hr]
theorem zNv (ho : o.op = .call { callee := .builtin .cap, args := #[x], argTypes := ts }) (ht : o.type = t) (hx : ev σ x = some vx) (hr : (Builtin.cap_ ts t #[vx]).run P w = .ok v w') : Eff P σ o w (.value v) w' := fun _ _ hs => by
  simp [execOp, ho, hs.ev hx, ht, resolve, invoke, builtin, hr]
end builtins
def evs (σ : List (Nat × Value)) : List Operand → Option (List Value)
  | [] => some []
  | x :: xs => match ev σ x, evs σ xs with
    | some v, some vs => some (v :: vs)
    | _, _ => none
theorem zAm {a : Act} {n : Nat} (hs : Slots a n σ) : ∀ {xs : List Operand} {vs : List Value}, evs σ xs = some vs → xs.map a.eval = vs
  | [], vs, h => by simp [evs] at h; subst h; rfl
  | x :: xs, vs, h => by
    unfold evs at h
    split at h
    · rename_i v vs' hv hvs
      cases h
      simp [hs.ev hv, zAm hs hvs]
    · cases h
theorem jL {f : FuncId} {args : Array Value} (h : callable P f = true) : (callFunc f args).run P w = .ok (.enter f args) w := by
  unfold callable at h
  unfold callFunc program
  cases hf : P.funcs[f]? with
  | none => simp [hf] at h
  | some fn =>
    simp [hf] at h
    have h2 : fn.body.isNone = false := by cases hb : fn.body <;> simp [hb] at h ⊢
    have h1 : (fn.name == "runtime.NumGoroutine") = false := by simpa using h.1
    simp only [Sem.run_bind, Sem.run, Result.andThen, hf, h1, h2, Bool.false_eq_true, if_false, Sem.run_pure]
theorem zMi {f : FuncId} {xs : Array Operand} {ts : Array TypeId} {vs : List Value} (ho : o.op = .call { callee := .value x, args := xs, argTypes := ts }) (hx : ev σ x = some (.func (.func f) #[] #[])) (hv : evs σ xs.toList = some vs)
    (hf : callable P f = true) : Eff P σ o w (.enter f vs.toArray) w := fun a _ hs => by
  have h1 : xs.map a.eval = vs.toArray := by apply Array.ext'; simpa using zAm hs hv
  simp [execOp, ho, resolve, hs.ev hx, h1, Deferred.ofValue, invoke, jL hf]
theorem zH1 {f : FuncId} {first cap : Array Value} {xs : Array Operand} {ts : Array TypeId} {vs : List Value} (ho : o.op = .call { callee := .value x, args := xs, argTypes := ts }) (hx : ev σ x = some (.func (.func f) first cap)) (hv : evs σ xs.toList = some vs)
    (hf : callable P f = true) : Eff P σ o w (.enter f (first ++ vs.toArray ++ cap)) w := fun a _ hs => by
  have h1 : xs.map a.eval = vs.toArray := by apply Array.ext'; simpa using zAm hs hv
  simp [execOp, ho, resolve, hs.ev hx, h1, Deferred.ofValue, invoke, jL hf]
end
section
variable {P : Program} {fn : Func} {a : Act} {n : Nat} {σ : List (Nat × Value)} {w : World}
theorem zGU {T : TypeId} {b : Addr} {v : Value} (hT : zEu P T = true) (hv : w.cell? b = some v) : (loadVar T b).run P w = .ok v w := by
  simp [loadVar, zBd hT, load, Sem.run, hv]
theorem zFc {T m : Nat} {b : Addr} {cs : Array Value} (hT : zId P T m = true) (hm : cs.size = m) (hv : RdN w b cs) : (loadVar T b).run P w = .ok (.agg cs) w := by
  subst hm
  simp [loadVar, (jT hT).1, (jT hT).2, run_loadCells hv]
def zNw (P : Program) (σ : List (Nat × Value)) (w : World) (r : ResultVar) (v : Value) : Prop :=
  match r with
  | .tmp t => look σ t = some v
  | .cell t T => ∃ b, look σ t = some (.pointer (some b)) ∧ (loadVar T b).run P w = .ok v w
def zAn (tmps : Array Value) : ResultVar → Sem Value
  | .tmp t => pure (tmps.getD t undef)
  | .cell b t => do loadVar t (← asAddr (tmps.getD b undef))
theorem zHR (fn : Func) (tmps : Array Value) : results fn tmps = (do
    let vs ← fn.results.mapM (zAn tmps)
    pure (if h : vs.size = 1 then vs[0] else .tuple vs)) := by
  unfold results
  congr 1
theorem zCY {r : ResultVar} {v : Value} (hs : Slots a n σ) (h : zNw P σ w r v) : (zAn a.tmps r).run P w = .ok v w := by
  cases r with
  | tmp t => simp only [zAn, Sem.run_pure, hs.at' _ _ h]
  | cell b T =>
    obtain ⟨c, hc, hl⟩ := h
    have := hs.at' _ _ hc
    simp only [zAn]
    rw [this]
    simp [asAddr, hl]
end
end
section
open Go Go.RowKit
theorem yB (b o n:Nat):(⟨b,o,none⟩:Addr).add n = ⟨b,o + n,none⟩:=by
 unfold Addr.add; split
 ·rename_i h; subst h; rfl
 ·rfl
theorem add_add' (a:Addr) (h:a.spot = none) (m n:Nat):(a.add m).add n = a.add (m + n):=by
 obtain ⟨b,o,s⟩:=a; simp only at h; subst h; simp [yB,Nat.add_assoc]
section
variable {B w:World} {Γ:List zC}
theorem qX {b off:Nat} {cs:Array Value} {T:TypeId} {fz:Nat×Nat} {v:Value} (h:w.heap[b]? = some (.cells cs T fz)) (hv:cs[off]? = some v):w.cell? ⟨b,off,none⟩ = some v:=by
 simp [World.cell?,h,hv]
theorem jM {b off:Nat} {cs:Array Value} {T:TypeId} {fz:Nat×Nat} (h:w.heap[b]? = some (.cells cs T fz)) (hf:¬ (fz.1 ≤ off∧off < fz.2)):w.frozen? ⟨b,off,none⟩ = false:=by
 obtain ⟨lo,hi⟩:=fz
 simp [World.frozen?,h]
 simp at hf
 exact hf
theorem Holds.mem {A:zC} (h:Holds B Γ w) (hm:A ∈ Γ):∃ Δ,Holds B (A::Δ) w:=by
 obtain ⟨i,hi⟩:=List.mem_iff_getElem?.1 hm
 exact ⟨_,h.pick i hi⟩
theorem Holds.zFd {b:Nat} {o:Obj} (h:Holds B Γ w) (hm:blk b o ∈ Γ):w.heap[b]? = some o:=by
 obtain ⟨Δ,h'⟩:=h.mem hm; exact h'.block
theorem Holds.zK1 (h:Holds B Γ w) {a:Addr} {v:Value} (hc:B.cell? a = some v):w.cell? a = some v:=by
 unfold World.cell? at hc ⊢
 cases hb:B.heap[a.block]? with
 | none=>simp [hb] at hc
 | some o=>rw [h.old hb]; simpa [hb] using hc
theorem vX {T:TypeId} {cs:Array Value} {k:Addr→K} (h:Holds B Γ w) (hk:∀ b w',Holds B (blk b (.cells cs T (0,0))::Γ) w'→k ⟨b,0,none⟩ w'):New T cs k w :=
 ⟨_,_,rfl,rfl,hk _ _ (h.alloc _)⟩
theorem ug {p:Option Addr} {a:Addr} {k:Addr→K} (hp:p = some a) (hk:k a w):Nn p k w:=⟨a,hp,hk⟩
theorem zBe {k:K} (h:Holds B Γ w) (hk:∀ w',Holds B Γ w'→k w'):Dr k w:=⟨_,rfl,hk _ (h.drew _)⟩
theorem jm {k:(World→Prop)→K} (h:Holds B Γ w) (hk:k (Holds B Γ) w):qx k w:=⟨Holds B Γ,h,hk⟩
theorem zEf {S:World→Prop} {k:K} (h:S w) (hk:k w):Sv S k w:=⟨h,hk⟩
theorem yc {b:Bool} {x y:K} (h1:b = true→x w) (h2:b = false→y w):Ite b x y w:=⟨h1,h2⟩
theorem qN {b:Bool} {x y:K} (hb:b = true) (h1:x w):Ite b x y w:=⟨fun _=>h1,fun h=>absurd (hb.symm.trans h) (by simp)⟩
theorem zk {b:Bool} {x y:K} (hb:b = false) (h1:y w):Ite b x y w:=⟨fun h=>absurd (hb.symm.trans h) (by simp),fun _=>h1⟩
theorem qY {e e':Int} {k:Int→K} (he:e = e') (hk:k e' w):Ar e k w:=⟨e',he.symm,hk⟩
theorem zEg {p:Prop} {k:K} (hp:p) (hk:k w):Cd p k w:=⟨hp,hk⟩
theorem wrap64 {e:Int} (h0:-9223372036854775808 ≤ e) (h1:e ≤ 9223372036854775807):IntKind.wrap .i64 e = e:=by
 unfold IntKind.wrap; simp only [IntKind.bits,IntKind.signed,Bool.true_and,decide_eq_true_eq,Nat.reduceSub,Int.reducePow,ge_iff_le]; split <;> omega
theorem zAU {e:Int} (h0:0 ≤ e) (h1:e ≤ 18446744073709551615):IntKind.wrap .u64 e = e:=by
 unfold IntKind.wrap; simp only [IntKind.bits,IntKind.signed,Bool.false_and,Bool.false_eq_true,if_false]; omega
theorem zH2 {e:Int} (h0:0 ≤ e) (h1:e ≤ 4294967295):IntKind.wrap .u32 e = e:=by
 unfold IntKind.wrap; simp only [IntKind.bits,IntKind.signed,Bool.false_and,Bool.false_eq_true,if_false]; omega
theorem jo {e:Int} {k:Int→K} (h0:-9223372036854775808 ≤ e) (h1:e ≤ 9223372036854775807) (hk:k e w):Ar (IntKind.wrap .i64 e) k w:=qY (wrap64 h0 h1) hk
theorem xI {α:Type} {a:Addr} {b off:Nat} {cs:Array Value} {T:TypeId} {fz:Nat×Nat} {c:α→Value} {x:α} {k:α→K} (h:Holds B Γ w) (ha:a = ⟨b,off,none⟩) (hm:blk b (.cells cs T fz) ∈ Γ)
  (hv:cs[off]? = some (c x)) (hk:k x w):Ld a c k w:=⟨x,by subst ha; exact qX (h.zFd hm) hv,hk⟩
theorem zK2 {α:Type} {a:Addr} {c:α→Value} {x:α} {k:α→K} (hc:w.cell? a = some (c x)) (hk:k x w):Ld a c k w:=⟨x,hc,hk⟩
theorem zIg {b off:Nat} {cs cs':Array Value} {T:TypeId} {fz:Nat×Nat} (h:w.heap[b]? = some (.cells cs T fz)) (hc:∀ i,i < cs'.size→cs[off + i]? = cs'[i]?):RdN w ⟨b,off,none⟩ cs':=fun i hi=>by
 rw [yB]
 rw [← hc i hi]
 have:cs[off + i]? = some cs'[i]:=by rw [hc i hi]; simp [hi]
 rw [qX h this,this]
theorem zBT {α:Type} {a:Addr} {b off:Nat} {cs:Array Value} {T:TypeId} {fz:Nat×Nat} {c:α→Value} {x:α} {k:α→K} (ha:a = ⟨b,off,none⟩) (hm:blk b (.cells cs T fz) ∈ Γ)
  (hv:cs[off]? = some (c x)) (hk:k x w):LdS (Holds B Γ) a c k w:=⟨x,fun w' h=>by subst ha; exact qX (h.zFd hm) hv,hk⟩
theorem zBu {b off:Nat} {cs:Array Value} {T:TypeId} {fz:Nat×Nat} {v:Value} (h:w.heap[b]? = some (.cells cs T fz)) :
  w.setCell ⟨b,off,none⟩ v = { w with heap:=w.heap.setIfInBounds b (.cells (cs.setIfInBounds off v) T fz) }:=by
 unfold World.setCell
 congr 1
 apply Array.ext_getElem?
 intro i
 rw [Array.getElem?_modify]
 by_cases hi:b = i
 ·subst hi
  have h3:b < w.heap.size:=(Array.getElem?_eq_some_iff.1 h).1
  simp only [if_true,h,Option.map_some]
  simp [h3]
 ·rw [if_neg hi,Array.getElem?_setIfInBounds_ne hi]
theorem zFe {a:Addr} {b off:Nat} {cs:Array Value} {T:TypeId} {fz:Nat×Nat} {v:Value} {k:K} (i:Nat) (h:Holds B Γ w) (ha:a = ⟨b,off,none⟩) (hi:Γ[i]? = some (blk b (.cells cs T fz))) (ho:off < cs.size)
  (hf:¬ (fz.1 ≤ off∧off < fz.2)) (hv:qj v = true) (hk:∀ w',Holds B (Γ.set i (blk b (.cells (cs.setIfInBounds off v) T fz))) w'→k w'):St a v k w:=by
 subst ha
 have h1:=h.pick i hi
 have hb:=h1.block
 refine ⟨_,rfl,⟨_,qX hb (Array.getElem?_eq_getElem ho)⟩,jM hb hf,hv,hk _ ?_⟩
 exact Holds.put i hi (h1.setBlock (zBu hb))
theorem jy {b:Nat} {T:TypeId} {fz:Nat×Nat}:∀ (vs:List Value) (off i:Nat) (w:World) (cs:Array Value),w.heap[b]? = some (.cells cs T fz) →
  setCells ⟨b,off,none⟩ vs i w = { w with heap:=w.heap.setIfInBounds b (.cells ((vs.zipIdx (off + i)).foldl (fun c p=>c.setIfInBounds p.2 p.1) cs) T fz) }
 | [],off,i,w,cs,h=>by
  simp only [setCells,List.zipIdx_nil,List.foldl_nil]
  have hlt:=(Array.getElem?_eq_some_iff.1 h).1
  have:w.heap.setIfInBounds b (.cells cs T fz) = w.heap:=by
   apply Array.ext
   ·simp
   ·intro j h1 h2
    rw [Array.getElem_setIfInBounds]
    split
    ·rename_i hj; subst hj; exact (Array.getElem?_eq_some_iff.1 h).2.symm
    ·rfl
  rw [this]
 | v::vs,off,i,w,cs,h=>by
  have hlt:=(Array.getElem?_eq_some_iff.1 h).1
  simp only [setCells,yB]
  rw [zBu h]
  rw [jy (T:=T) (fz:=fz) vs off (i + 1) _ (cs.setIfInBounds (off + i) v) (by simp [hlt])]
  simp only [List.zipIdx_cons,List.foldl_cons,Array.setIfInBounds_setIfInBounds]
  rw [Nat.add_assoc]
theorem j3:∀ (vs:List Value) (pre cs:List Value),pre.length + vs.length = (pre++cs).length →
  (vs.zipIdx pre.length).foldl (fun c p=>c.setIfInBounds p.2 p.1) (pre++cs).toArray = (pre++vs).toArray
 | [],pre,cs,h=>by
  have:cs = []:=by simpa using h
  simp [this]
 | v::vs,pre,[],h=>by simp at h
 | v::vs,pre,c::cs,h=>by
  simp only [List.zipIdx_cons,List.foldl_cons]
  have h1:(pre++c::cs).toArray.setIfInBounds pre.length v = ((pre++[v])++cs).toArray:=by
   apply Array.ext'; simp
  rw [h1]
  have:=j3 vs (pre++[v]) cs (by simp at h ⊢; omega)
  simpa using this
theorem zNx {a:Addr} {b n:Nat} {cs vs:Array Value} {T:TypeId} {fz:Nat×Nat} {k:K} (i:Nat) (h:Holds B Γ w) (ha:a = ⟨b,0,none⟩) (hi:Γ[i]? = some (blk b (.cells cs T fz))) (hn:cs.size = n) (hv:vs.size = n)
  (hf:∀ o,o < n→¬ (fz.1 ≤ o∧o < fz.2)) (hfl:∀ v ∈ vs.toList,qj v = true) (hk:∀ w',Holds B (Γ.set i (blk b (.cells vs T fz))) w'→k w'):StN a n vs k w:=by
 subst ha
 have h1:=h.pick i hi
 have hb:=h1.block
 refine ⟨_,rfl,hv,fun j hj=>?_,hfl,hk _ ?_⟩
 ·rw [yB,Nat.zero_add]
  exact ⟨⟨_,qX hb (Array.getElem?_eq_getElem (by omega))⟩,jM hb (hf j (by omega))⟩
 ·refine Holds.put i hi (h1.setBlock ?_)
  rw [jy _ _ _ _ _ hb]
  have:=j3 vs.toList [] cs.toList (by simp; omega)
  simp only [List.length_nil,List.nil_append] at this
  have h2:(cs.toList).toArray = cs:=by simp
  have h3:(vs.toList).toArray = vs:=by simp
  rw [h2,h3] at this
  simp only [Nat.zero_add,Nat.add_zero]
  rw [this]
theorem zMj {zero cs:Array Value} {n:Nat} {k:Array Value→K} (hz:zero.size = n) (hn:cs.size = n) (hk:k cs w):Bld zero (fun i=>some (i * n,n)) [(0,.agg cs)] k w:=by
 refine ⟨cs,?_,hk⟩
 have h1:(Value.agg cs).cells = cs:=rfl
 simp only [Instr.fill,h1,Nat.zero_mul,Nat.zero_add]
 rw [if_neg (by simp [hz,hn])]
 have h2:=j3 cs.toList [] zero.toList (by simp; omega)
 simp only [List.length_nil,List.nil_append] at h2
 have h3:(cs.toList).toArray = cs:=by simp
 have h4:(zero.toList).toArray = zero:=by simp
 rw [h3,h4] at h2
 rw [← Array.foldl_toList,Array.toList_zipIdx]
 exact congrArg some h2
theorem zEh (o:Nat):¬ (((0,0):Nat×Nat).1 ≤ o∧o < ((0,0):Nat×Nat).2):=by simp
end
theorem at0 {A:zC} {Γ:List zC}:(A::Γ)[0]? = some A:=rfl
theorem at1 {A0:zC} {A:zC} {Γ:List zC}:(A0::A::Γ)[1]? = some A:=rfl
theorem at2 {A0:zC} {A1:zC} {A:zC} {Γ:List zC}:(A0::A1::A::Γ)[2]? = some A:=rfl
theorem at3 {A0:zC} {A1:zC} {A2:zC} {A:zC} {Γ:List zC}:(A0::A1::A2::A::Γ)[3]? = some A:=rfl
theorem at4 {A0:zC} {A1:zC} {A2:zC} {A3:zC} {A:zC} {Γ:List zC}:(A0::A1::A2::A3::A::Γ)[4]? = some A:=rfl
def SlC (E esz:Nat) (s:Sl) (vs:List Value):zC:=fun h=>
 vs.length = s.n * esz∧s.n ≤ s.c ∧
 match s.a with
 | none=>s.c = 0
 | some a=>a.spot = none∧∃ cs fz,h a.block = some (.cells cs E fz)∧(∀ i,a.off ≤ i→i < a.off + s.c * esz→¬ (fz.1 ≤ i∧i < fz.2))∧a.off + s.c * esz ≤ cs.size∧∀ i,i < vs.length→cs[a.off + i]? = vs[i]?
structure RdC (w:World) (s:Sl) (esz:Nat) (vs:List Value):Prop where
 len:vs.length = s.n * esz
 nil:s.a = none→s.n = 0
 at':∀ a,s.a = some a→∀ i,i < vs.length→w.cell? (a.add i) = vs[i]?
def qd (b:UInt8):Value:=.int .u8 b.toNat
def Bytes (E:Nat) (s:Sl) (xs:List UInt8):zC:=SlC E 1 s (xs.map qd)
abbrev RdB (w:World) (s:Sl) (xs:List UInt8):Prop:=RdC w s 1 (xs.map qd)
section
variable {B w:World} {Γ:List zC} {E esz:Nat} {s:Sl} {vs:List Value}
theorem zCZ {b:Nat} {o:Obj} {h1:Hp} (hl:h1.le (own B w)) (hb:h1 b = some o):w.heap[b]? = some o:=(zAk (hl _ _ hb)).2
theorem Holds.rdC (h:Holds B Γ w) (hm:SlC E esz s vs ∈ Γ):RdC w s esz vs:=by
 obtain ⟨Δ,h'⟩:=h.mem hm
 obtain ⟨_,h1,h2,⟨hl,hc,hs⟩,_,l1,_,_⟩:=h'
 refine ⟨hl,fun hn=>?_,fun a ha i hi=>?_⟩
 ·rw [hn] at hs; simp only at hs; omega
 ·rw [ha] at hs
  obtain ⟨hsp,cs,fz,hb,_,_,hv⟩:=hs
  obtain ⟨b,off,sp⟩:=a
  simp only at hsp; subst hsp
  rw [yB]
  have:=zCZ l1 hb
  have h3:=hv i hi
  have h4:vs[i]? = some vs[i]:=by simp [hi]
  rw [h4] at h3
  rw [qX this h3,h4]
theorem Holds.imp' {a:Addr} {n c:Nat} {cs:Array Value} {T:TypeId} {fz:Nat×Nat} (h:Holds B (SlC E esz ⟨some a,n,c⟩ vs::Γ) w) (hb:w.heap[a.block]? = some (.cells cs T fz)):Holds B (blk a.block (.cells cs T fz)::Γ) w:=by
 obtain ⟨hw,h1,h2,⟨hl,hc,hsp,cs',fz',hb',hf,hsz,hv⟩,b2,l1,l2,d⟩:=h
 have:=zCZ l1 hb'
 rw [hb] at this
 refine ⟨hw,h1,h2,?_,b2,l1,l2,d⟩
 unfold blk; rw [hb',this]
theorem RdC.old {s:Sl} {esz:Nat} {vs:List Value} (hr:RdC B s esz vs) (h:Holds B Γ w):RdC w s esz vs :=
 ⟨hr.len,hr.nil,fun a ha i hi=>by
  have h1:=hr.at' a ha i hi
  have h2:vs[i]? = some vs[i]:=by simp [hi]
  rw [h2] at h1 ⊢
  exact h.zK1 h1⟩
end
end
section
open Go
def qw (ds:List Deferred) (a:Act) (n:Nat) (σ:List (Nat×Value)):Prop:=Slots { a with defers:=[] } n σ∧a.defers = ds
section
variable {P:Program} {ops:Array Oper} {Q:Exit→Act→World→Prop} {rest:List Oper} {o:Oper} {a:Act} {n m:Nat} {σ τ:List (Nat×Value)} {w w':World} {v:Value} {F:Fence} {ds:List Deferred}
theorem Slots.D (h:Slots a n σ):qw [] a n σ:=by
 obtain ⟨t,d⟩:=a
 have:=h.defers
 simp only at this
 subst this
 exact ⟨h,rfl⟩
theorem qw.nil (h:qw [] a n σ):Slots a n σ:=by
 obtain ⟨t,d⟩:=a
 obtain ⟨h1,h2⟩:=h
 simp only at h2
 subst h2
 exact h1
theorem qw.to (h:qw ds a n σ) (hs:Sub σ τ):qw ds a n τ:=⟨h.1.to hs,h.2⟩
theorem qw.put (h:qw ds a n σ) {d:Nat} (hd:d < n) (v:Value):qw ds (a.put (some d) v) n ((d,v)::σ):=by
 have h1:=h.1.put hd v
 exact ⟨h1,h.2⟩
structure Free (F:Fence):Prop where
 fn:∀ f,F.fn f
 depth:F.depth = none
theorem zA8:Free Fence.wide:=⟨fun _=>trivial,rfl⟩
theorem Free.round (h:Free F) (l:Nat):Free (F.inRound l):=⟨h.fn,h.depth⟩
theorem zAV (hF:Free F) {f:FuncId} {args:Array Value} {R:Ending→World→Prop} (ha:F.alive = false) (h:Calls P f args w R):CallsIn F m P f args w R:=by
 obtain ⟨h1,h2⟩:=(callsIn_wide (n:=m)).2 h
 refine ⟨hF.fn f,fun cs hr=>?_⟩
 obtain ⟨e,w',fr,r,s,x⟩:=h2 cs (fun d hd=>by cases hd)
 refine ⟨e,w',fr,r,?_,x⟩
 have key:Machine.fenced P Fence.wide = Machine.fenced P F:=by
  funext mm
  unfold Machine.fenced
  simp [Fence.wide,ha,hF.fn,Fence.room,hF.depth]
 rwa [key] at s
theorem zFf {m' l:Nat} {f:FuncId} {tmps:Array Value} {assign body:Code} {R:Ending→World→Prop} (h:RoundIn Fence.wide m P l f tmps assign body w R):RoundIn Fence.wide m' P l f tmps assign body w R :=
 ⟨h.1,fun c cs _=>h.2 c cs (fun d hd=>by cases hd)⟩
theorem zK3 {α:Type} {c:Code} (I:α→World→Prop) (μ:α→World→Nat) (G:α→Act→Prop) (x:α) (h0:I x w) (hG:G x a)
  (h:∀ x a w,I x w→G x a→c.wpIn F m P (Exit.then (fun a' w'=>∃ x',G x' a'∧I x' w'∧μ x' w' < μ x w) Q) a w):(Code.loop c).wpIn F m P Q a w:=by
 classical
 let R:Act→World→Nat→Prop:=fun a w k=>∃ x,I x w∧G x a∧μ x w = k
 have key:∀ k a w,R a w k→(Code.loop c).wpIn F m P Q a w:=by
  intro k0 a0 w0 hR0
  intro b kk cs hro hb hr
  have key2:∀ j a w,R a w j→∃ e a' w',Q e a' w'∧ArrivesIn (Machine.fenced P F) P (lone (b.atR a (.code c::.inLoop c::kk)) cs w) b kk cs e a' w':=by
   intro j
   induction j using Nat.strongRecOn with
   | _ j ih=>
    rintro a w ⟨x,hI,hGx,hμ⟩
    obtain ⟨e,a₁,w₁,hq,harr⟩:=h x a w hI hGx b (.inLoop c::kk) cs hro hb hr
    cases e with
    | normal=>
     obtain ⟨x',hG',hI',hlt⟩:=hq
     obtain ⟨e₂,a₂,w₂,hq₂,harr₂⟩:=ih (μ x' w₁) (hμ ▸ hlt) a₁ w₁ ⟨x',hI',hG',rfl⟩
     exact ⟨e₂,a₂,w₂,hq₂,.of_steps (StepsIn.trans harr (.one (fenced_calm hb hr rfl) stepR_inLoop)) harr₂⟩
    | exit id=>exact ⟨_,a₁,w₁,hq,.pass (x:=.inLoop c) rfl (fun _ _=>.inl (by simp)) harr⟩
    | goto l=>exact ⟨_,a₁,w₁,hq,.pass (x:=.inLoop c) rfl (fun _ _=>.inl (by simp)) harr⟩
    | ret=>exact ⟨_,a₁,w₁,hq,.pass (x:=.inLoop c) rfl (fun _ _=>.inl (by simp)) harr⟩
    | panic ch=>exact ⟨_,a₁,w₁,hq,.pass (x:=.inLoop c) rfl (fun _ _=>.inl (by simp)) harr⟩
    | outgrown=>exact ⟨_,a₁,w₁,hq,.pass (x:=.inLoop c) rfl (fun _ _=>.inl (by simp)) harr⟩
  obtain ⟨e,a',w',hq,harr⟩:=key2 k0 a0 w0 hR0
  exact ⟨e,a',w',hq,.of_steps (.one (fenced_calm hb hr rfl) stepR_loop) harr⟩
 exact key _ a w ⟨x,h0,hG,rfl⟩
abbrev yv (l:Nat):Value:=.func (.yield l) #[] #[]
def vS (P:Program) (f:Value) (args:List Value) (k:Value→K):K:=fun w=>∃ l,f = .func (.yield l) #[] #[]∧YieldAt Fence.wide 0 P l args.toArray w (Ret k)
theorem zK4 {l:Nat} {x:Operand} {xs:Array Operand} {ts:Array TypeId} {vs:List Value} (ho:o.op = .call { callee:=.value x,args:=xs,argTypes:=ts }) (hx:ev σ x = some (.func (.yield l) #[] #[])) (hv:evs σ xs.toList = some vs) :
  ∀ (y:Next),(Instr.yield l vs.toArray).run P w = .ok y w→Eff P σ o w y w:=fun y hy a _ hs=>by
 have h1:xs.map a.eval = vs.toArray:=by apply Array.ext'; simpa using zAm hs hv
 simp [execOp,ho,resolve,hs.ev hx,h1,Deferred.ofValue,invoke,hy]
def zAF (D:Nat):List Deferred:=[{ target:=.collected D,args:=#[] }]
def zHS (l:Nat) (r:Loop) (k:K):K:=fun w=>w.heap[l]? = some (.loop r)∧k (w.putObj l (.loop { r with state:=.ready,pending:=none }))
def vT (D:Nat) (k:K):K:=fun w=>w.heap[D]? = some (.deferred (some []))∧k (w.putObj D (.deferred none))
def vE {α:Type} (P:Program) (fv:Value) (cX:α→Value) (body:K→α→K) (after:Nat→K):K:=fun w=>
 ∃ g cs,fv = .func (.func g) #[] cs∧callable P g = true ∧
  ∀ (r:Loop) (w1:World),r.state = .ready→r.pending = none→r.defers = w.heap.size→w1 = (w.alloc (.deferred (some []))).alloc (.loop r) →
   (∀ (x:α) (k:K) (W:World),W.heap[w.heap.size + 1]? = some (.loop r) →
    body (zHS (w.heap.size + 1) { r with state:=.busy } k) x (W.putObj (w.heap.size + 1) (.loop { r with state:=.busy })) →
    YieldAt Fence.wide 0 P (w.heap.size + 1) #[cX x] W (Ret fun v w'=>v = .bool true∧k w')) →
   Calls P g (yv (w.heap.size + 1)::cs.toList).toArray w1 (Ret fun _ w3=>w3.heap[w.heap.size + 1]? = some (.loop r)∧after w.heap.size (w3.putObj (w.heap.size + 1) (.loop { r with state:=.exhausted })))
theorem qw.init (args:List Value) (n:Nat) (hn:args.length ≤ n):qw [] { tmps:=args.toArray++Array.replicate (n - args.toArray.size) undef,defers:=[] } n (args.zipIdx.map fun p=>(p.2,p.1)):=(Slots.init args n hn).D
def uF (P:Program) (fn:Func) (R:Ending→World→Prop):Exit→Act→World→Prop
 | .normal,a,w | .ret,a,w=>LeavesInM Fence.wide 0 P fn a.tmps R a.defers .returning w
 | _,_,_=>False
theorem zGV {fn:Func} {R:Ending→World→Prop}:jH (uF P fn R):=fun _ _ _ h=>h
theorem zJQ {f:FuncId} {fn:Func} {c:Code} {args:List Value} {R:Value→World→Prop} (hf:P.funcs[f]? = some fn) (hb:fn.body = some c) (hn:args.length ≤ fn.ntmps)
  (h:∀ a,qw [] a fn.ntmps (args.zipIdx.map fun p=>(p.2,p.1))→c.wpIn Fence.wide 0 P (uF P fn (Ret R)) a w):Calls P f args.toArray w (Ret R):=by
 refine callsIn_wide.1 (callsIn_of_wp_marks (n:=0) hf hb trivial ?_)
 refine wpIn_mono (h _ (qw.init args _ hn)) fun e a w hq=>?_
 cases e with
 | normal=>exact hq
 | ret=>exact hq
 | _=>exact hq.elim
end
section
variable {P:Program} {B w:World} {Γ:List zC}
theorem vC {l:Nat} {o o':Obj} (h:Holds B (blk l o::Γ) w):Holds B (blk l o'::Γ) (w.putObj l o'):=h.setBlock rfl
theorem zJR {l:Nat} {r:Loop} {k:K} (h:Holds B (blk l (.loop r)::Γ) w) (hk:∀ w,Holds B (blk l (.loop { r with state:=.ready,pending:=none })::Γ) w→k w):zHS l r k w:=⟨h.block,hk _ (vC h)⟩
theorem zFg {D:Nat} {k:K} (h:Holds B (blk D (.deferred (some []))::Γ) w) (hk:∀ w,Holds B Γ w→k w):vT D k w:=⟨h.block,hk _ (vC (o':=.deferred none) h).tail⟩
theorem zGW {α:Type} {fv:Value} {cX:α→Value} {body:K→α→K} {after:Nat→K} {g:FuncId} {cs:Array Value} (h:Holds B Γ w) (hf:fv = .func (.func g) #[] cs) (hc:callable P g = true)
  (hk:∀ (D l:Nat) (r:Loop) (w:World),r.state = .ready→r.pending = none→Holds B (blk l (.loop r)::blk D (.deferred (some []))::Γ) w →
   (∀ (x:α) (k:K) (W:World) (Δ:List zC),Holds B (blk l (.loop r)::Δ) W→(∀ W,Holds B (blk l (.loop { r with state:=.busy })::Δ) W→body (zHS l { r with state:=.busy } k) x W) →
    vS P (.func (.yield l) #[] #[]) [cX x] (fun v w=>v = .bool true∧k w) W) →
   Calls P g (yv l::cs.toList).toArray w (Ret fun _ w3=>∃ Δ,Holds B (blk l (.loop r)::Δ) w3∧∀ w,Holds B Δ w→after D w)):vE P fv cX body after w:=by
 refine ⟨g,cs,hf,hc,fun r w1 h1 h2 h3 hw hy=>?_⟩
 have h4:=h.alloc (.deferred (some []))
 have h5:=h4.alloc (.loop r)
 have e:({ w with heap:=w.heap.push (.deferred (some [])) }:World).heap.size = w.heap.size + 1:=by simp
 rw [e] at h5
 subst hw
 refine (hk w.heap.size (w.heap.size + 1) r _ h1 h2 h5 fun x k W Δ hW hb=>?_).mono fun e w3 he=>?_
 ·exact ⟨_,rfl,hy x k W hW.block (hb _ (vC hW))⟩
 ·cases e with
  | returned v=>
   obtain ⟨Δ,h6,h7⟩:=he
   exact ⟨h6.block,h7 _ (vC h6).tail⟩
  | panicked c=>exact he.elim
  | outgrown=>exact he.elim
end
theorem zD0 {P:Program} {f:FuncId} {args:Array Value} {w:World} {k k':Value→World→Prop} (h:Calls P f args w (Ret k)) (hk:∀ v w,k v w→k' v w):Calls P f args w (Ret k') :=
 h.mono fun e w he=>by
  cases e with
  | returned v=>exact hk _ _ he
  | panicked c=>exact he.elim
  | outgrown=>exact he.elim
theorem zD1 {P:Program} {f:Value} {args:List Value} {w:World} {k k':Value→K} (h:vS P f args k w) (hk:∀ v w,k v w→k' v w):vS P f args k' w:=by
 obtain ⟨l,hl,fn,tm,sg,bd,hy,hr⟩:=h
 refine ⟨l,hl,fn,tm,sg,bd,hy,hr.mono fun e w he=>?_⟩
 cases e with
 | returned v=>exact hk _ _ he
 | panicked c=>exact he.elim
 | outgrown=>exact he.elim
end
section
open Go
section
variable {P:Program} {ops:Array Oper} {Q:Exit→Act→World→Prop} {S:World→Prop} {o:Oper} {a:Act} {w w':World} {v:Value} {fuel:Nat} {listed:Array Bool}
abbrev opW (P:Program) (ops:Array Oper) (Q:Exit→Act→World→Prop):=wpOpIn Fence.wide 0 P ops Q
theorem zMA {i:Nat} (hi:ops[i]? = some o) (hy:YieldsIf P ops S o v a) {K:Act→World→Prop} (hS:S w) (h:K (a.put o.dst v) w):opW P ops Q i K a w:=by
 unfold opW Go.wpOpIn
 simp only [hi]
 rcases hy with ⟨hw,hv⟩ | ⟨hw,rfl⟩
 ·simp only [hw,if_true,Oper.wpIn]
  refine ⟨fun _ _=>trivial,?_⟩
  show o.uponIn Fence.wide 0 P a K Q ((o.semAt none a.eval).run P w)
  rw [Oper.semAt_none,hv w hS]; exact h
 ·simp only [hw,Bool.false_eq_true,if_false]; exact ⟨fun _ _=>trivial,h⟩
theorem zK5 {j:Nat} {oi oj:Oper} (hj:ops[j]? = some oj) (hap:oi.apart ops oj = true) (hsi:∀ cs b,oi.op ≠ .select cs b) (hsj:∀ cs b,oj.op ≠ .select cs b)
  (hQ:∀ c a w,Q (.panic c) (a.put oi.dst v) w→Q (.panic c) a w) {K:Act→World→Prop} (hy:YieldsIf P ops S oi v a) (h:opW P ops Q j K (a.put oi.dst v) w) :
  opW P ops Q j (fun a' w'=>YieldsIf P ops S oi v a'∧K (a'.put oi.dst v) w') a w:=by
 obtain ⟨h1,h2,h3⟩:=Oper.apart_spec hap
 have keep:∀ (a:Act),YieldsIf P ops S oi v a→∀ u,YieldsIf P ops S oi v (a.put oj.dst u):=fun a hy u=>
  hy.of_same (execOp_put oi hsi a oj.dst u h3) (wanted_put oi a oj.dst u h3)
 have keepD:∀ d,YieldsIf P ops S oi v { a with defers:=d::a.defers }:=fun d=>hy.of_same rfl rfl
 unfold opW wpOpIn at *
 simp only [hj] at *
 rw [wanted_put oj a oi.dst v h1] at h
 split
 ·rename_i hw
  simp only [hw,if_true] at h
  unfold Oper.wpIn at *
  refine ⟨fun _ _=>trivial,?_⟩
  have h:=h.2
  have hro:Fence.wide.round = none:=rfl
  rw [hro,Oper.semAt_none,execOp_put oj hsj a oi.dst v h1] at h
  rw [hro,Oper.semAt_none]
  generalize (execOp a.eval oj).run P w = r at *
  cases r with
  | ok x w'=>
   cases x <;> simp only [Oper.uponIn] at h ⊢
   case value u=>exact ⟨keep a hy u,by rw [← Act.put_comm a v u h2]; exact h⟩
   case skip=>exact ⟨keep a hy _,by rw [← Act.put_comm a v undef h2]; exact h⟩
   case defer d=>
    refine ⟨keep _ (keepD d) _,?_⟩
    rw [← Act.put_comm _ v undef h2,← Act.put_defers]
    exact h
   case enter f args=>
    refine ⟨h.1,CallsIn.mono h.2 fun e w'' he=>?_⟩
    cases e with
    | returned u=>exact ⟨keep a hy u,by rw [← Act.put_comm a v u h2]; exact he⟩
    | panicked c=>exact hQ _ _ _ he
    | outgrown=>exact he
   case row row args=>exact ⟨h.1,RowsIn.mono h.2 fun u w'' he=>⟨keep a hy u,by rw [← Act.put_comm a v u h2]; exact he⟩⟩
   case round l f tmps assign body=>
    refine ⟨h.1,RoundIn.mono h.2 fun e w'' he=>?_⟩
    cases e with
    | returned u=>exact ⟨keep a hy u,by rw [← Act.put_comm a v u h2]; exact he⟩
    | panicked c=>exact hQ _ _ _ he
    | outgrown=>exact he
  | halt x w'=>
   cases x <;> simp only [Oper.uponIn] at h ⊢
   case panic u=>exact hQ _ _ _ h
 ·rename_i hw
  simp only [hw] at h
  exact ⟨fun _ _=>trivial,keep a hy _,by rw [← Act.put_comm a v undef h2]; exact h.2⟩
def alive (ds:List Nat) (l:Array Bool):Bool:=ds.all fun d=>!l.getD d false
def uh (P:Program) (ops:Array Oper) (Q:Exit→Act→World→Prop) (S:World→Prop) (ds:List Nat):Nat→Array Bool→Act→World→Prop
 | 0,listed,a,w=>Region.ready .any ops listed = []∧Q .normal a w
 | fuel + 1,listed,a,w=>
  (Region.ready .any ops listed = []→Q .normal a w) ∧
  ∀ i ∈ Region.ready .any ops listed,opW P ops Q i (fun a' w'=>(alive ds listed = true→i ∉ ds→S w→S w')∧uh P ops Q S ds fuel (listed.setIfInBounds i true) a' w') a w
variable {ds:List Nat}
theorem jN:∀ (fuel:Nat) (listed:Array Bool) (a:Act) (w:World),uh P ops Q S ds fuel listed a w→wpAnyIn Fence.wide 0 P .any ops Q fuel listed a w
 | 0,_,_,_,h=>h
 | fuel + 1,_,_,_,h=>⟨h.1,fun i hi=>wpOpIn_mono (fun a' w' h'=>jN fuel _ a' w' h'.2) (h.2 i hi)⟩
theorem zCa {ds':List Nat} (hsub:∀ d ∈ ds',d ∈ ds):∀ (fuel:Nat) (listed:Array Bool) (a:Act) (w:World),uh P ops Q S ds' fuel listed a w→uh P ops Q S ds fuel listed a w
 | 0,_,_,_,h=>h
 | fuel + 1,_,_,_,h=>⟨h.1,fun i hi=>wpOpIn_mono (fun a' w' h'=>⟨fun hal hid=>h'.1 (List.all_eq_true.2 fun d hd=>List.all_eq_true.1 hal d (hsub d hd)) (fun hm=>hid (hsub i hm)),zCa hsub fuel _ a' w' h'.2⟩) (h.2 i hi)⟩
theorem zEx {l:Array Bool} {i:Nat} (hi:i ∉ ds) (h:alive ds l = true):alive ds (l.setIfInBounds i true) = true:=by
 refine List.all_eq_true.2 fun d hd=>?_
 have:=List.all_eq_true.1 h d hd
 have hne:i ≠ d:=fun e=>hi (e ▸ hd)
 rw [getD_set_ne false hne]; exact this
theorem zFh {T:World→Prop} {i:Nat} {oi:Oper} (hi:ops[i]? = some oi) (hid:i ∉ ds) (hsel:∀ (j:Nat) (o:Oper) cs b,ops[j]? = some o→o.op ≠ .select cs b) (hQ:jH Q) :
  ∀ (fuel:Nat) (listed:Array Bool) (a:Act) (w:World),
   (∀ j oj,ops[j]? = some oj→j ≠ i→listed.getD j true = false→(∀ e ∈ oj.after,Region.binds .any e = true→e.on ≠ i)→oi.apart ops oj = true) →
   ((∀ w,T w)∨(T = S∧Closed ops listed∧∀ d ∈ ds,∃ n,reach ops i n d = true)) →
   i ∈ Region.ready .any ops listed→YieldsIf P ops T oi v a→T w →
   uh P ops Q S ds fuel (listed.setIfInBounds i true) (a.put oi.dst v) w→uh P ops Q S ds (fuel + 1) listed a w:=by
 have hQ':∀ c a w,Q (.panic c) (a.put oi.dst v) w→Q (.panic c) a w:=fun c a w h=>absurd h (hQ c _ w)
 intro fuel
 induction fuel with
 | zero=>
  intro listed a w _ _ hr hy hT H
  refine ⟨fun h=>(by rw [h] at hr; cases hr),fun j hj=>?_⟩
  by_cases hji:j = i
  ·subst hji; exact zMA hi hy hT ⟨fun _ _ h=>h,H⟩
  ·have:=ready_mono hj hji
   rw [H.1] at this
   cases this
 | succ fuel ih=>
  intro listed a w hfree hlast hr hy hT H
  refine ⟨fun h=>(by rw [h] at hr; cases hr),fun j hj=>?_⟩
  by_cases hji:j = i
  ·subst hji; exact zMA hi hy hT ⟨fun _ _ h=>h,H⟩
  ·have h1:=H.2 j (ready_mono hj hji)
   obtain ⟨hjun,oj,hoj,hall⟩:=mem_ready.1 hj
   have hi0:listed.getD i true = false:=(mem_ready.1 hr).1
   have hi1:listed.getD i false = false:=by
    rcases Nat.lt_or_ge i listed.size with h' | h'
    ·simp [h'] at hi0 ⊢; exact hi0
    ·simp [Array.getElem?_eq_none h'] at hi0
   have hnot:∀ e ∈ oj.after,Region.binds .any e = true→e.on ≠ i:=fun e he hb heq=>by
    have h1:=hall e he hb
    rw [heq,hi1] at h1
    cases h1
   have hTw:∀ w',(alive ds listed = true→j ∉ ds→S w→S w')→T w':=fun w' h=>by
    rcases hlast with hl | ⟨rfl,hcl,hl⟩
    ·exact hl w'
    ·refine h (List.all_eq_true.2 fun d hd=>?_) (fun hd=>?_) hT
     ·cases hld:listed.getD d false with
      | false=>rfl
      | true=>
       obtain ⟨n,hn⟩:=hl d hd
       cases hod:ops[d]? with
       | none=>cases n <;> simp [reach,hod] at hn
       | some od=>
        have:=zAT hcl n d od hod (hcl d od hod hld) hn
        rw [hi1] at this; cases this
     ·obtain ⟨n,hn⟩:=hl j hd
      have:=zAT hcl n j oj hoj hall hn
      rw [hi1] at this; cases this
   have h2:=zK5 hoj (hfree j oj hoj hji hjun hnot) (fun cs b=>hsel i oi cs b hi) (fun cs b=>hsel j oj cs b hoj) hQ' hy h1
   have hun':∀ k,(listed.setIfInBounds j true).getD k true = false→listed.getD k true = false:=fun k hun=>by
    by_cases hjk:j = k
    ·subst hjk; exact hjun
    ·rw [getD_set_ne true hjk] at hun; exact hun
   refine wpOpIn_mono (fun a' w' h3=>⟨fun hal=>h3.2.1 (zEx hid hal),ih (listed.setIfInBounds j true) a' w' (fun k ok hk hki hun hno=>hfree k ok hk hki (hun' k hun) hno) ?_ (ready_mono hr (Ne.symm hji)) h3.1 (hTw w' fun hal=>h3.2.1 (zEx hid hal)) ?_⟩) h2
   ·rcases hlast with hl | ⟨hTS,hcl,hl⟩
    ·exact .inl hl
    ·exact .inr ⟨hTS,hcl.put hj,hl⟩
   ·rw [Array.setIfInBounds_comm _ _ hji]
    exact h3.2.2
end
end
section
open Go
class CT (P:Program) (T:Nat):Prop where h:zEu P T = true
class AT (P:Program) (T:Nat) (n:outParam Nat):Prop where h:zId P T n = true
class SZ (P:Program) (T:Nat) (n:outParam Nat):Prop where h:sizeT P T n = true
class SLT (P:Program) (T:Nat) (E esz:outParam Nat):Prop where h:sliceT P T E esz = true
class ART (P:Program) (T:Nat) (E len esz:outParam Nat):Prop where h:zFZ P T E len esz = true
class STT (P:Program) (T:Nat):Prop where h:jl P T = true
class INT (P:Program) (T:Nat) (k:outParam IntKind):Prop where h:zJE P T k = true
class ZT (P:Program) (T:Nat) (z:outParam Value):Prop where h:uP P T z
class PLT (P:Program) (T:Nat) (l:outParam (List (Nat×Nat))):Prop where h:zHz P T l
class FT (P:Program) (S i:Nat) (off n:outParam Nat):Prop where h:zFa P S i off n = true
class FC (P:Program) (S i:Nat) (off:outParam Nat):Prop where h:zHN P S i off = true
class FNC (P:Program) (S i:Nat) (off n:outParam Nat):Prop where h:zHO P S i off n = true
class UN (P:Program) (T:Nat) (d:outParam TypeDesc):Prop where h:P.underlying T = some d
class CB (P:Program) (f:Nat):Prop where h:callable P f = true
class EXT (P:Program) (f:Nat) (e:outParam (Array Value→Sem Value)):Prop where h:∀ args w v w',(e args).run P w = .ok v w'→(callFunc f args).run P w = .ok (.value v) w'
class MX (P:Program):Prop where h:P.follows .mixedOrders = true
def zAo {α β γ δ:Type} (c:α→β→γ→δ→Value) (k:α→β→γ→δ→K):Value→K:=fun v w=>∃ x y z u,v = c x y z u∧k x y z u w
def zBK {α β γ δ ε:Type} (c:α→β→γ→δ→ε→Value) (k:α→β→γ→δ→ε→K):Value→K:=fun v w=>∃ x y z u t,v = c x y z u t∧k x y z u t w
section
variable {P:Program} {σ τ:List (Nat×Value)} {o:Oper} {x y z:Operand} {v:Value} {T U:TypeId}
theorem zDA {S i off n:Nat} {a:Addr} [c:FT P S i off n] (ho:o.op = .fieldAddr S x i) (hx:ev σ x = some (.pointer (some a))):Pure P σ o (.pointer (some (a.add off))):=zC9 ho hx c.h
theorem zBv {S i n:Nat} {a:Addr} [c:FT P S i 0 n] (ho:o.op = .fieldAddr S x i) (hx:ev σ x = some (.pointer (some a))):Pure P σ o (.pointer (some a)):=zFb ho hx c.h
theorem zGX {S i off n:Nat} {cs:Array Value} [c:FNC P S i off n] (ho:o.op = .field S x i) (hx:ev σ x = some (.agg cs)):Pure P σ o (.agg (cs.extract off (off + n))):=zJH ho hx c.h
theorem q_len {s:Sl} {E esz:Nat} [c:SLT P T E esz] (ho:o.op = .call { callee:=.builtin .len,args:=#[x],argTypes:=#[T] }) (hx:ev σ x = some s.val):Pure P σ o (.int .i64 s.n):=zNp ho hx c.h
theorem zJS {s:ByteArray} [c:STT P T] (ho:o.op = .call { callee:=.builtin .len,args:=#[x],argTypes:=#[T] }) (hx:ev σ x = some (.string s)):Pure P σ o (.int .i64 s.size):=zMc ho hx c.h
theorem zD2 {s:ByteArray} [c:STT P T] [d:STT P U] (ho:o.op = .convert T U x) (hx:ev σ x = some (.string s)):Pure P σ o (.string s):=zHQ ho hx c.h d.h
theorem zD3 {k j:IntKind} {a:Int} [c:INT P T k] [d:INT P U j] (ho:o.op = .convert T U x) (hx:ev σ x = some (.int k a)):Pure P σ o (.int j (j.wrap a)):=zHP ho hx c.h d.h
theorem zMB {a b:Bool} [c:UN P T .bool] (ho:o.op = .binOp .eql T x y U) (hx:ev σ x = some (.bool a)) (hy:ev σ y = some (.bool b)):Pure P σ o (.bool (a == b)):=zNn ho hx hy c.h
theorem zMC {a b:Bool} [c:UN P T .bool] (ho:o.op = .binOp .neq T x y U) (hx:ev σ x = some (.bool a)) (hy:ev σ y = some (.bool b)):Pure P σ o (.bool (!(a == b))):=zNo ho hx hy c.h
theorem zGY {p:Option Addr} {E:Nat} [c:UN P T (.pointer E)] (ho:o.op = .binOp .eql T x y U) (hx:ev σ x = some (.pointer p)) (hy:ev σ y = some (.pointer none)):Pure P σ o (.bool p.isNone):=zJI ho hx hy c.h
theorem zGZ {p:Option Addr} {E:Nat} [c:UN P T (.pointer E)] (ho:o.op = .binOp .neq T x y U) (hx:ev σ x = some (.pointer p)) (hy:ev σ y = some (.pointer none)):Pure P σ o (.bool (!p.isNone)):=zJJ ho hx hy c.h
theorem zH3 {s:Sl} {E n c:Nat} [cl:UN P T (.slice E)] (ho:o.op = .binOp .eql T x y U) (hx:ev σ x = some s.val) (hy:ev σ y = some (.slice none n c)):Pure P σ o (.bool s.a.isNone):=zKt ho hx hy cl.h
theorem zH4 {s:Sl} {E n c:Nat} [cl:UN P T (.slice E)] (ho:o.op = .binOp .neq T x y U) (hx:ev σ x = some s.val) (hy:ev σ y = some (.slice none n c)):Pure P σ o (.bool (!s.a.isNone)):=zKu ho hx hy cl.h
theorem zMD {a b:ByteArray} (ho:o.op = .binOp .geq T x y U) (hx:ev σ x = some (.string a)) (hy:ev σ y = some (.string b)):Pure P σ o (.bool !(Op.bytesLess a.toList b.toList)):=fun _ _ hs w=>by
 simp [execOp,ho,hs.ev hx,hs.ev hy,eqGuard,binOp,Op.stringOp]
theorem zME {a b:ByteArray} (ho:o.op = .binOp .leq T x y U) (hx:ev σ x = some (.string a)) (hy:ev σ y = some (.string b)):Pure P σ o (.bool (Op.bytesLess a.toList b.toList || a.toList == b.toList)):=fun _ _ hs w=>by
 simp [execOp,ho,hs.ev hx,hs.ev hy,eqGuard,binOp,Op.stringOp]
def zFi:List Value→List (Nat×Nat)→List (Nat×Value)→List Value
 | zs,_,[]=>zs
 | zs,ps,p::vs=>zFi (zs.set ((ps.getD p.1 (0,0)).1) p.2) ps vs
def zCb:List (Nat×Value)→Bool
 | []=>true
 | p::vs=>qj p.2 && zCb vs
theorem zH5 {z:Value} {zl:List Value} {pl:List (Nat×Nat)} {ps:Array (Nat×Operand)} {vs:List (Nat×Value)} [c:ZT P T z] [d:PLT P T pl] (ho:o.op = .build T ps) (hv:partsOf σ ps.toList = some vs) (hf:zCb vs = true) (hz:z.cells = zl.toArray)
  (hc:Instr.fill (pl[·]?) z.cells vs = some (zFi zl pl vs).toArray):Pure P σ o (.agg (zFi zl pl vs).toArray):=zH0 ho c.h d.h hv hc
def nth:List Value→Nat→Option Value
 | [],_=>none
 | v::_,0=>some v
 | _::l,i + 1=>nth l i
theorem zCc:∀ (l:List Value) (i:Nat),nth l i = l[i]?
 | [],_=>rfl
 | _::_,0=>rfl
 | _::l,i + 1=>by simpa [nth] using zCc l i
theorem zEy {l:List Value} {i:Nat} (ho:o.op = .extract x i) (hx:ev σ x = some (.tuple l.toArray)) (hv:nth l i = some v):Pure P σ o v:=zEw ho hx (by rw [zCc] at hv; simpa using hv)
theorem zFj (h:Pure P σ o v:=by
  first
  | exact zJF rfl rfl | exact zGO rfl rfl | exact zLr rfl rfl | exact zBv rfl rfl | exact zDA rfl rfl | exact q_len rfl rfl | exact zNg rfl rfl rfl | exact zNh rfl rfl rfl | exact zNi rfl rfl rfl | exact zNj rfl rfl rfl
  | exact zNk rfl rfl rfl | exact zNl rfl rfl rfl | exact zL5 rfl rfl | exact zGP rfl rfl rfl | exact zGQ rfl rfl rfl | exact zGR rfl rfl rfl rfl | exact zEy rfl rfl rfl | exact zJS rfl rfl | exact zL6 rfl rfl rfl | exact zL7 rfl rfl rfl
  | exact zL8 rfl rfl rfl | exact zL9 rfl rfl rfl | exact zMD rfl rfl rfl | exact zME rfl rfl rfl | exact zGY rfl rfl rfl | exact zGZ rfl rfl rfl | exact zH3 rfl rfl rfl | exact zH4 rfl rfl rfl | exact zMB rfl rfl rfl | exact zMC rfl rfl rfl
  | exact zGX rfl rfl | exact zH5 rfl rfl rfl rfl (by kernel_rfl) | exact zDx rfl rfl rfl | exact zJG rfl rfl | exact zD2 rfl rfl):Pure P σ o v:=h
def WP (P:Program) (σ:List (Nat×Value)) (o:Oper) {α:Type} (k:K) (v:α→Value) (k':α→K):Prop:=∀ w,k w→∃ x,Pure P σ o (v x)∧k' x w
def WR (P:Program) (σ:List (Nat×Value)) (o:Oper) {α:Type} (k:K) (v:α→Value) (k':α→K):Prop:=∀ w,k w→∃ x,Eff P σ o w (.value (v x)) w∧k' x w
def WE (P:Program) (σ:List (Nat×Value)) (o:Oper) {α:Type} (k:K) (v:α→Value) (k':α→K):Prop:=∀ w,k w→∃ x w',Eff P σ o w (.value (v x)) w'∧k' x w'
def WK (P:Program) (σ:List (Nat×Value)) (o:Oper) (k k':K):Prop:=∀ w,k w→∃ w',Eff P σ o w .skip w'∧k' w'
def WC (P:Program) (σ:List (Nat×Value)) (o:Oper) (k:K) (kk:Value→K):Prop:=∀ w,k w→∃ f args w',Eff P σ o w (.enter f args) w'∧Calls P f args w' (Ret kk)
def WY (P:Program) (σ:List (Nat×Value)) (o:Oper) (k:K) (kk:Value→K):Prop:=∀ w,k w→∃ l args,(∀ y,(Instr.yield l args).run P w = .ok y w→Eff P σ o w y w)∧YieldAt Fence.wide 0 P l args w (Ret kk)
def WS (P:Program) (S:World→Prop) (σ:List (Nat×Value)) (o:Oper) {α:Type} (k:K) (v:α→Value) (k':α→K):Prop:=∀ w,k w→∃ x,(∀ w,S w→Eff P σ o w (.value (v x)) w)∧k' x w
section
variable {α β:Type} {e:Int} {p:Prop} {kk:IntKind} {ki:Int→K} {ka:Addr→K} {s:Sl} {i lo hi mx:Int} {esz:Nat} {c:α→Value} {kx:α→K} {k:K}
theorem zGa (hp:Pure P σ o (.int kk e)):WP P σ o (Ar e ki) (fun t=>.int kk t) ki:=fun w ⟨t,he,h⟩=>⟨t,he ▸ hp,h⟩
theorem zH6 (hp:p→Pure P σ o (.int kk e)):WP P σ o (Cd p (Ar e ki)) (fun t=>.int kk t) ki:=fun w ⟨h0,t,he,h⟩=>⟨t,he ▸ hp h0,h⟩
theorem zJT {E:Nat} {kj:IntKind} [cl:SLT P T E esz] (ho:o.op = .indexAddr T x y) (hx:ev σ x = some s.val) (hy:ev σ y = some (.int kj i)):WP P σ o (Idx s i esz ka) (fun t=>.pointer (some t)) ka :=
 fun w ⟨a,t,ha,h0,h1,he,h⟩=>⟨t,Pure.adr he (zNq ho hx hy cl.h ha h0 h1),h⟩
theorem zH7 {E len:Nat} {kj:IntKind} {a:Addr} [cl:ART P T E len esz] (ho:o.op = .indexAddr T x y) (hx:ev σ x = some (.pointer (some a))) (hy:ev σ y = some (.int kj i)):WP P σ o (zBa a len i esz ka) (fun t=>.pointer (some t)) ka :=
 fun w ⟨t,h0,h1,he,h⟩=>⟨t,Pure.adr he (zMd ho hx hy cl.h h0 h1),h⟩
theorem zH8 {kj:IntKind} {s:ByteArray} [cl:STT P T] (ho:o.op = .index T x y) (hx:ev σ x = some (.string s)) (hy:ev σ y = some (.int kj i)):WP P σ o (zBb s i ki) (fun t=>.int .u8 t) ki :=
 fun w ⟨t,b,h0,h1,he,h⟩=>⟨t,Pure.int he (zMe ho hx hy cl.h h0 h1),h⟩
theorem zJU {S j off:Nat} {cs:Array Value} [cl:FC P S j off] (ho:o.op = .field S x j) (hx:ev σ x = some (.agg cs)):WP P σ o (Fld cs off c kx) c kx :=
 fun w ⟨t,hv,h⟩=>⟨t,zKs ho hx cl.h hv,h⟩
theorem zJV {E:Nat} {lo' hi' mx':Option Operand} {ks:Sl→K} [cl:SLT P T E esz] (ho:o.op = .slice T x lo' hi' mx') (hx:ev σ x = some s.val) (hl:zAg σ lo' 0 lo) (hh:zAg σ hi' s.n hi) (hm:zAg σ mx' s.c mx) (hmx:(!mx'.isSome || hi'.isSome) = true) :
  WP P σ o (Slc s lo hi mx esz ks) (fun t=>t.val) ks :=
 fun w ⟨t,h0,h1,h2,h3,he,h⟩=>⟨t,Pure.sl he (zNr ho hx cl.h hl hh hm (fun hs=>by rw [hs] at hmx; simpa using hmx) h0 h1 h2 h3),h⟩
theorem zH9 {lo' hi':Option Operand} {s:ByteArray} {ks:ByteArray→K} [cl:STT P T] (ho:o.op = .slice T x lo' hi' none) (hx:ev σ x = some (.string s)) (hl:zAg σ lo' 0 lo) (hh:zAg σ hi' s.size hi) :
  WP P σ o (zBc s lo hi ks) (fun t=>.string t) ks :=
 fun w ⟨t,h0,h1,h2,he,h⟩=>⟨t,Pure.str he (zMf ho hx cl.h hl hh h0 h1 h2),h⟩
theorem zJW {a b:ByteArray} {ks:ByteArray→K} (ho:o.op = .binOp .add T x y U) (hx:ev σ x = some (.string a)) (hy:ev σ y = some (.string b)):WP P σ o (Cat a b ks) (fun t=>.string t) ks :=
 fun w ⟨t,h0,he,h⟩=>⟨t,Pure.str he (zMb ho hx hy h0),h⟩
theorem zJX {sem:Sem Value} (hs:∀ v w w',sem.run P w = .ok v w'→Eff P σ o w (.value v) w'):WP P σ o (Pu P sem c kx) c kx :=
 fun w ⟨t,hd,h⟩=>⟨t,zNt fun w=>hs _ _ _ (hd w),h⟩
theorem zJY {t:Value} {j:Nat} (ho:o.op = .extract x j) (hx:ev σ x = some t):WP P σ o (Ext t j c kx) c kx :=
 fun w ⟨vs,u,ht,hv,h⟩=>⟨u,zEw ho (hx.trans (congrArg some ht)) hv,h⟩
theorem zJZ {zv:Value} {zero:Array Value} {pl:List (Nat×Nat)} {ps:Array (Nat×Operand)} {vs:List (Nat×Value)} {kc:Array Value→K} [cz:ZT P T zv] [cp:PLT P T pl] (ho:o.op = .build T ps) (hv:partsOf σ ps.toList = some vs) (hz:zv.cells = zero) :
  WP P σ o (Bld zero (pl[·]?) vs kc) (fun t=>.agg t) kc:=fun w ⟨t,hb,h⟩=>⟨t,zH0 ho cz.h cp.h hv (by rw [hz]; exact hb),h⟩
theorem zMF {a:Addr} [cl:CT P T] (ho:o.op = .load T x) (hx:ev σ x = some (.pointer (some a))):WR P σ o (Ld a c kx) c kx:=fun w ⟨t,hv,h⟩=>⟨t,zJK ho hx cl.h hv,h⟩
theorem zJa {n:Nat} {a:Addr} {kc:Array Value→K} [cl:AT P T n] (ho:o.op = .load T x) (hx:ev σ x = some (.pointer (some a))):WR P σ o (LdN a n kc) (fun t=>.agg t) kc:=fun w ⟨t,hn,hv,h⟩=>⟨t,zHy ho hx cl.h hn hv,h⟩
theorem zBU {sem:Sem Value} (hs:∀ v w w',sem.run P w = .ok v w'→Eff P σ o w (.value v) w'):WR P σ o (Rd P sem c kx) c kx:=fun w ⟨t,hd,h⟩=>⟨t,hs _ _ _ hd,h⟩
theorem zCd {sem:Sem Value} {c:α→β→Value} {kx:α→β→K} (hs:∀ v w w',sem.run P w = .ok v w'→Eff P σ o w (.value v) w'):WR P σ o (Rd2 P sem c kx) (fun u=>u) (fun u=>vD c kx u):=fun w ⟨t,u,hd,h⟩=>⟨c t u,hs _ _ _ hd,t,u,rfl,h⟩
variable {S:World→Prop}
theorem zMG {a:Addr} [cl:CT P T] (ho:o.op = .load T x) (hx:ev σ x = some (.pointer (some a))):WS P S σ o (LdS S a c kx) c kx:=fun w ⟨t,hv,h⟩=>⟨t,fun w hS=>zJK ho hx cl.h (hv w hS),h⟩
theorem zJb {n:Nat} {a:Addr} {kc:Array Value→K} [cl:AT P T n] (ho:o.op = .load T x) (hx:ev σ x = some (.pointer (some a))):WS P S σ o (jw S a n kc) (fun t=>.agg t) kc:=fun w ⟨t,hn,hv,h⟩=>⟨t,fun w hS=>zHy ho hx cl.h hn (hv w hS),h⟩
theorem zGb {sem:Sem Value} (hs:∀ v w w',sem.run P w = .ok v w'→Eff P σ o w (.value v) w'):WS P S σ o (RdS P S sem c kx) c kx:=fun w ⟨t,hd,h⟩=>⟨t,fun w hS=>hs _ _ _ (hd w hS),h⟩
theorem zJc {sem:Sem Value} {c:α→β→Value} {kx:α→β→K} (hs:∀ v w w',sem.run P w = .ok v w'→Eff P σ o w (.value v) w'):WS P S σ o (zBZ P S sem c kx) (fun u=>u) (fun u=>vD c kx u):=fun w ⟨t,u,hd,h⟩=>⟨c t u,fun w hS=>hs _ _ _ (hd w hS),t,u,rfl,h⟩
theorem WR.is {w1:World} {v:α→Value} {k':α→K} (h:WR P σ o k v k'):∀ w,Is w1 w→k w→∃ x,(∀ w,Is w1 w→Eff P σ o w (.value (v x)) w)∧k' x w:=fun w hw hk=>by
 have:=hw.out; subst this
 obtain ⟨x,h1,h2⟩:=h _ hk
 exact ⟨x,fun w' hw'=>by have:=hw'.out; subst this; exact h1,h2⟩
theorem zJd {cs:Array Value} {v:Value} (ho:o.op = .box T x) (hx:ev σ x = some v) (hc:v.cells = cs):WE P σ o (New T cs ka) (fun a=>.pointer (some a)) ka:=fun w ⟨a,w',ha,hw,h⟩=>⟨a,w',zNs ho hx hc ha hw,h⟩
theorem zGc {zv:Value} {cs:Array Value} [cz:ZT P T zv] (ho:o.op = .alloc T) (hc:zv.cells = cs):WE P σ o (New T cs ka) (fun a=>.pointer (some a)) ka:=fun w ⟨a,w',ha,hw,h⟩=>⟨a,w',zKw ho cz.h hc ha hw,h⟩
def zJe (len esz:Nat) (zv:Value):Array Value:=(Array.range (len * esz)).map (fun i=>(if len * esz = 0 then #[] else zv.cells)[i % (if len * esz = 0 then #[] else zv.cells).size]!)
theorem zGd {E esz len:Nat} {zv:Value} {ps:Array (Nat×Operand)} {vs:List (Nat×Value)} {cs:Array Value} [cs':SLT P T E esz] [cz:ZT P E zv] (ho:o.op = .buildSlice T len ps) (hl:Nat.ble (len * esz) 16777216 = true) (hv:partsOf σ ps.toList = some vs) (hf:zCb vs = true)
  (hc:Instr.fill (fun i=>some (i * esz,esz)) (zJe len esz zv) vs = some cs):WE P σ o (New E cs ka) (fun a=>Sl.val ⟨some a,len,len⟩) ka :=
 fun w ⟨a,w',ha,hw,h⟩=>⟨a,w',zBt ho cs'.h cz.h (Nat.le_of_ble_eq_true hl) hv rfl hc ha hw,h⟩
theorem zDB {E esz len:Nat} {zv:Value} {z:Array Value} {ps:Array (Nat×Operand)} {vs:List (Nat×Value)} [cs':SLT P T E esz] [cz:ZT P E zv] (ho:o.op = .buildSlice T len ps) (hl:Nat.ble (len * esz) 16777216 = true) (hv:partsOf σ ps.toList = some vs)
  (hz:zJe len esz zv = z):WE P σ o (Bld z (fun i=>some (i * esz,esz)) vs fun c=>New E c ka) (fun a=>Sl.val ⟨some a,len,len⟩) ka :=
 fun w ⟨c,hb,a,w',ha,hw,h⟩=>⟨a,w',zBt ho cs'.h cz.h (Nat.le_of_ble_eq_true hl) hv hz hb ha hw,h⟩
theorem zGe {sem:Sem Value} (hs:∀ v w w',sem.run P w = .ok v w'→Eff P σ o w (.value v) w'):WE P σ o (Do P sem c kx) c kx:=fun w ⟨t,w',hd,h⟩=>⟨t,w',hs _ _ _ hd,h⟩
theorem zMH {a:Addr} {v:Value} [cl:SZ P T 1] (ho:o.op = .store T x y) (hx:ev σ x = some (.pointer (some a))) (hy:ev σ y = some v):WK P σ o (St a v k) k:=fun w ⟨w',hw,hc,hf,hv,h⟩=>⟨w',zKv ho hx hy cl.h hw hc hf hv,h⟩
theorem zJf {n:Nat} {a:Addr} {cs:Array Value} [cl:SZ P T n] (ho:o.op = .store T x y) (hx:ev σ x = some (.pointer (some a))) (hy:ev σ y = some (.agg cs)):WK P σ o (StN a n cs k) k:=fun w ⟨w',hw,hn,hc,hv,h⟩=>⟨w',zJL ho hx hy cl.h hw hn hc hv,h⟩
theorem zMI {sem:Sem Unit} (hs:∀ u w w',sem.run P w = .ok u w'→Eff P σ o w .skip w'):WK P σ o (DoU P sem k) k:=fun w ⟨u,w',hd,h⟩=>⟨w',hs _ _ _ hd,h⟩
theorem zIA {f:FuncId} {xs:Array Operand} {ts:Array TypeId} {vs:List Value} {args:Array Value} {kk:Value→K} [cb:CB P f] (ho:o.op = .call { callee:=.value x,args:=xs,argTypes:=ts }) (hx:ev σ x = some (.func (.func f) #[] #[])) (hv:evs σ xs.toList = some vs) (ha:vs.toArray = args) :
  WC P σ o (zY P f args kk) kk:=fun w h=>⟨f,args,w,ha ▸ zMi ho hx hv cb.h,h⟩
theorem zGf {f:FuncId} {first cap:Array Value} {xs:Array Operand} {ts:Array TypeId} {vs:List Value} {args:Array Value} {kk:Value→K} [cb:CB P f] (ho:o.op = .call { callee:=.value x,args:=xs,argTypes:=ts }) (hx:ev σ x = some (.func (.func f) first cap)) (hv:evs σ xs.toList = some vs)
  (ha:first++vs.toArray++cap = args):WC P σ o (zY P f args kk) kk:=fun w h=>⟨f,args,w,ha ▸ zH1 ho hx hv cb.h,h⟩
theorem zMJ {fv:Value} {xs:Array Operand} {ts:Array TypeId} {vs:List Value} {kk:Value→K} (ho:o.op = .call { callee:=.value x,args:=xs,argTypes:=ts }) (hx:ev σ x = some fv) (hv:evs σ xs.toList = some vs):WC P σ o (u6 P fv vs kk) kk :=
 fun w ⟨g,fs,cs,hg,hcb,h⟩=>⟨g,_,w,zH1 ho (hx.trans (congrArg some hg)) hv hcb,h⟩
theorem zNy {fv:Value} {xs:Array Operand} {ts:Array TypeId} {vs:List Value} {kk:Value→K} (ho:o.op = .call { callee:=.value x,args:=xs,argTypes:=ts }) (hx:ev σ x = some fv) (hv:evs σ xs.toList = some vs):WY P σ o (vS P fv vs kk) kk :=
 fun w ⟨l,hg,h⟩=>⟨l,_,zK4 ho (hx.trans (congrArg some hg)) hv,h⟩
theorem zJg {P : Program} {f : Nat} {fn : Func} {e : Array Value → Sem Value} (hf : P.funcs[f]? = some fn) (hn : (fn.name == "runtime.NumGoroutine") = false) (hb : fn.body.isNone = true) (h1 : Extern.findNext fn = none) (h2 : Extern.find fn = some e) : EXT P f e := ⟨fun args w v w' h => by rw [run_callFunc_extern hf hn hb h1 h2, h]; rfl⟩
theorem zMk {f:FuncId} {e:Array Value→Sem Value} {xs:Array Operand} {ts:Array TypeId} {vs:List Value} [c:EXT P f e] (ho:o.op = .call { callee:=.value x,args:=xs,argTypes:=ts }) (hx:ev σ x = some (.func (.func f) #[] #[])) (hv:evs σ xs.toList = some vs):∀ v w w',(e vs.toArray).run P w = .ok v w'→Eff P σ o w (.value v) w':=fun v w w' h a _ hs=>by
 have h1:xs.map a.eval = vs.toArray:=by apply Array.ext'; simpa using zAm hs hv
 simp [execOp,ho,resolve,hs.ev hx,h1,Deferred.ofValue,invoke,c.h _ _ _ _ h]
theorem qU {ok:Bool} {vx vy:Value} (ho:o.op = .lookup T x y ok) (hx:ev σ x = some vx) (hy:ev σ y = some vy):∀ v w w',(Instr.lookup T vx vy ok).run P w = .ok v w'→Eff P σ o w (.value v) w':=fun _ _ _ h=>zJN ho hx hy h
theorem uj {vx:Value} (ho:o.op = .convert T U x) (hx:ev σ x = some vx):∀ v w w',(convert T U vx).run P w = .ok v w'→Eff P σ o w (.value v) w':=fun _ _ _ h=>zIe ho hx h
theorem zFk {vx:Value} (ho:o.op = .makeInterface T x) (hx:ev σ x = some vx):∀ v w w',(Instr.makeInterface T vx).run P w = .ok v w'→Eff P σ o w (.value v) w':=fun _ _ _ h=>zDP ho hx h
theorem zFl {t:TypeId} {ts:Array TypeId} {vx:Value} (ho:o.op = .call { callee:=.builtin .len,args:=#[x],argTypes:=ts }) (ht:o.type = t) (hx:ev σ x = some vx):∀ v w w',(Builtin.len_ ts t #[vx]).run P w = .ok v w'→Eff P σ o w (.value v) w':=fun _ _ _ h=>zNu ho ht hx h
theorem zJh {t:TypeId} {ts:Array TypeId} {vx:Value} (ho:o.op = .call { callee:=.builtin .cap,args:=#[x],argTypes:=ts }) (ht:o.type = t) (hx:ev σ x = some vx):∀ v w w',(Builtin.cap_ ts t #[vx]).run P w = .ok v w'→Eff P σ o w (.value v) w':=fun _ _ _ h=>zNv ho ht hx h
theorem zGg {t:TypeId} {ts:Array TypeId} {vx:Value} (ho:o.op = .call { callee:=.builtin .clear,args:=#[x],argTypes:=ts }) (ht:o.type = t) (hx:ev σ x = some vx):∀ v w w',(Builtin.clear_ ts t #[vx]).run P w = .ok v w'→Eff P σ o w (.value v) w':=fun _ _ _ h=>zK0 ho ht hx h
theorem zEz {t:TypeId} {ts:Array TypeId} {vx vy:Value} (ho:o.op = .call { callee:=.builtin .append,args:=#[x,y],argTypes:=ts }) (ht:o.type = t) (hx:ev σ x = some vx) (hy:ev σ y = some vy):∀ v w w',(Builtin.append_ ts t #[vx,vy]).run P w = .ok v w'→Eff P σ o w (.value v) w':=fun _ _ _ h=>zJO ho ht hx hy h
theorem zIB {t:TypeId} {ts:Array TypeId} {vx vy:Value} (ho:o.op = .call { callee:=.builtin .copy,args:=#[x,y],argTypes:=ts }) (ht:o.type = t) (hx:ev σ x = some vx) (hy:ev σ y = some vy):∀ v w w',(Builtin.copy_ ts t #[vx,vy]).run P w = .ok v w'→Eff P σ o w (.value v) w':=fun _ _ _ h=>zMh ho ht hx hy h
theorem zE0 {t:TypeId} {ts:Array TypeId} {vx vy:Value} (ho:o.op = .call { callee:=.builtin .delete,args:=#[x,y],argTypes:=ts }) (ht:o.type = t) (hx:ev σ x = some vx) (hy:ev σ y = some vy):∀ v w w',(Builtin.delete_ ts t #[vx,vy]).run P w = .ok v w'→Eff P σ o w (.value v) w':=fun _ _ _ h=>zJP ho ht hx hy h
theorem zD4 (ho:o.op = .makeMap T none):∀ v w w',(Instr.makeMap T none).run P w = .ok v w'→Eff P σ o w (.value v) w':=fun _ _ _ h=>zIf ho h
theorem zBw {vx vy:Value} (ho:o.op = .makeSlice T x y) (hx:ev σ x = some vx) (hy:ev σ y = some vy):∀ v w w',(Instr.makeSlice T vx vy).run P w = .ok v w'→Eff P σ o w (.value v) w':=fun _ _ _ h=>zGT ho hx hy h
theorem zGh {vx:Value} (ho:o.op = .range T x) (hx:ev σ x = some vx):∀ v w w',(Instr.range T vx).run P w = .ok v w'→Eff P σ o w (.value v) w':=fun _ _ _ h=>zKy ho hx h
theorem zIC {t:TypeId} {s:Bool} {vx:Value} (ho:o.op = .next x s) (ht:o.type = t) (hx:ev σ x = some vx):∀ v w w',(Instr.next vx s t).run P w = .ok v w'→Eff P σ o w (.value v) w':=fun _ _ _ h=>zMg ho ht hx h
theorem zGi {vx:Value} (ho:o.op = .entry x) (hx:ev σ x = some vx):∀ v w w',(Instr.entry vx).run P w = .ok v w'→Eff P σ o w (.value v) w':=fun _ _ _ h=>zKz ho hx h
theorem zGj {op:BinOp} {vx vy:Value} (ho:o.op = .binOp op T x y U) (hx:ev σ x = some vx) (hy:ev σ y = some vy):∀ v w w',(do eqGuard op T x y vx vy; binOp op T vx vy:Sem Value).run P w = .ok v w'→Eff P σ o w (.value v) w':=fun _ _ _ h=>zKx ho hx hy h
theorem zE1 {ps:Array (Nat×Operand)} {vs:List (Nat×Value)} (ho:o.op = .build T ps) (hv:partsOf σ ps.toList = some vs):∀ v w w',(Instr.build T vs.toArray).run P w = .ok v w'→Eff P σ o w (.value v) w':=fun _ _ _ h=>zJM ho hv h
theorem zBx {vx vy vz:Value} (ho:o.op = .mapUpdate T x y z) (hx:ev σ x = some vx) (hy:ev σ y = some vy) (hz:ev σ z = some vz):∀ u w w',(Instr.mapUpdate T vx vy vz).run P w = .ok u w'→Eff P σ o w .skip w':=fun _ _ _ h=>zGS ho hx hy hz h
end
variable {α:Type} {k:K} {vx:α→Value} {k':α→K}
theorem zDg (h:WP P σ o k vx k':=by
  first
  | exact zGa (by first | exact zLs rfl rfl rfl | exact zLt rfl rfl rfl | exact zD3 rfl rfl | exact zLu rfl rfl rfl | exact zLx rfl rfl rfl | exact zNm rfl rfl rfl | exact zLy rfl rfl rfl | exact zL1 rfl rfl | exact zL2 rfl rfl | exact zL3 _ rfl rfl rfl | exact zL4 _ rfl rfl rfl)
  | exact zJT rfl rfl rfl | exact zJU rfl rfl | exact zJV rfl rfl (by first | exact rfl | exact ⟨_,rfl⟩) (by first | exact rfl | exact ⟨_,rfl⟩) (by first | exact rfl | exact ⟨_,rfl⟩) rfl | exact zH8 rfl rfl rfl | exact zH7 rfl rfl rfl
  | exact zH6 (fun h0=>by first | exact zLz rfl rfl rfl h0 | exact zL0 rfl rfl rfl h0 | exact zLv rfl rfl rfl h0 | exact zLw rfl rfl rfl h0)
  | exact zH9 rfl rfl (by first | exact rfl | exact ⟨_,rfl⟩) (by first | exact rfl | exact ⟨_,rfl⟩) | exact zJW rfl rfl rfl | exact zJZ rfl rfl rfl
  | exact zJX (by first | exact zGj rfl rfl rfl | exact zE1 rfl rfl) | exact zJY rfl rfl):WP P σ o k vx k':=h
theorem zA9 (h:WR P σ o k vx k':=by
  first
  | exact zMF rfl rfl | exact zJa rfl rfl
  | exact zBU (by first | exact qU rfl rfl rfl | exact uj rfl rfl | exact zFl rfl rfl rfl | exact zFk rfl rfl)
  | exact zCd (qU rfl rfl rfl)):WR P σ o k vx k':=h
theorem zK6 {S:World→Prop} (h:WS P S σ o k vx k':=by
  first
  | exact zMG rfl rfl | exact zJb rfl rfl
  | exact zGb (by first | exact qU rfl rfl rfl | exact uj rfl rfl | exact zFl rfl rfl rfl | exact zFk rfl rfl)
  | exact zJc (qU rfl rfl rfl)):WS P S σ o k vx k':=h
theorem zBA (h:WE P σ o k vx k':=by
  first
  | exact zJd rfl rfl rfl | exact zGc rfl rfl | exact zGd rfl rfl rfl rfl (by kernel_rfl) | exact zDB rfl rfl rfl (by kernel_rfl)
  | exact zGe (by first | exact zEz rfl rfl rfl rfl | exact uj rfl rfl | exact zIC rfl rfl rfl | exact zGh rfl rfl | exact zGi rfl rfl | exact zD4 rfl | exact zBw rfl rfl rfl | exact zIB rfl rfl rfl rfl | exact zE0 rfl rfl rfl rfl | exact zJh rfl rfl rfl | exact zGg rfl rfl rfl)):WE P σ o k vx k':=h
theorem zFm {k k':K} (h:WK P σ o k k':=by
  first
  | exact zMH rfl rfl rfl | exact zJf rfl rfl rfl | exact zMI (zBx rfl rfl rfl rfl)):WK P σ o k k':=h
theorem zBy {k:K} {kk:Value→K} (h:WC P σ o k kk:=by
  first
  | exact zIA rfl rfl rfl rfl | exact zGf rfl rfl rfl rfl | exact zMJ rfl rfl rfl):WC P σ o k kk:=h
end
end
section
open Go
def G (dl:List Deferred) (n:Nat) (σ:List (Nat×Value)) (k:K) (X:Act→World→Prop):Prop:=∀ a w,qw dl a n σ→k w→X a w
abbrev fe:Option Nat→Fence
 | none=>Fence.wide
 | some l=>Fence.wide.inRound l
def Cx (r:Option Nat) (P:Program) (c:Code) (Q:Exit→Act→World→Prop):Act→World→Prop:=fun a w=>c.wpIn (fe r) 0 P Q a w
def Tx (r:Option Nat) (P:Program) (ops:Array Oper) (Q:Exit→Act→World→Prop) (l:List Oper):Act→World→Prop:=fun a w=>wpListIn (fe r) 0 P ops Q l a w
def Ex (Q:Exit→Act→World→Prop) (e:Exit):Act→World→Prop:=fun a w=>Q e a w
def xV:Op→Bool
 | .defer _=>true
 | _=>false
theorem zBz {o:Oper} (h:xV o.op = false):∀ c,o.op ≠ .defer c:=fun c hc=>by rw [hc] at h; cases h
theorem zBB:∀ r,Free (fe r)
 | none=>zA8
 | some l=>zA8.round l
theorem zJi:∀ r,(fe r).alive = false
 | none=>rfl
 | some _=>rfl
theorem zJj:∀ r,(fe r).depth = none
 | none=>rfl
 | some _=>rfl
section
variable {P:Program} {dl:List Deferred} {n:Nat} {σ τ:List (Nat×Value)} {k:K} {X:Act→World→Prop} {r:Option Nat} {ops:Array Oper} {Q:Exit→Act→World→Prop} {l:List Oper} {o:Oper} {a:Act} {w w':World} {v:Value}
theorem uQ {K1:Act→World→Prop} (hs:qw dl a n σ) (nd:xV o.op = false) (hp:Eff P σ o w (.value v) w') (h:K1 (a.put o.dst v) w'):o.wpIn (fe r) 0 P a w K1 Q:=by
 refine ⟨fun f _=>(zBB r).fn f,?_⟩
 rw [Oper.semAt_eq _ _ _ (zBz nd)]
 have h1:(execOp a.eval o).run P w = .ok (.value v) w':=hp { a with defers:=[] } n hs.1
 rw [h1,Oper.uponIn_value]; exact h
theorem zFn {K1:Act→World→Prop} (hs:qw dl a n σ) (nd:xV o.op = false) (hp:Eff P σ o w .skip w') (h:K1 (a.put o.dst undef) w'):o.wpIn (fe r) 0 P a w K1 Q:=by
 refine ⟨fun f _=>(zBB r).fn f,?_⟩
 rw [Oper.semAt_eq _ _ _ (zBz nd)]
 have h1:(execOp a.eval o).run P w = .ok .skip w':=hp { a with defers:=[] } n hs.1
 rw [h1,Oper.uponIn_skip]; exact h
theorem zB0 {K1:Act→World→Prop} {f:FuncId} {args:Array Value} {kk:Value→K} (hs:qw dl a n σ) (nd:xV o.op = false) (hp:Eff P σ o w (.enter f args) w') (hc:Calls P f args w' (Ret kk))
  (h:∀ v w,kk v w→K1 (a.put o.dst v) w):o.wpIn (fe r) 0 P a w K1 Q:=by
 refine ⟨fun f _=>(zBB r).fn f,?_⟩
 rw [Oper.semAt_eq _ _ _ (zBz nd)]
 have h1:(execOp a.eval o).run P w = .ok (.enter f args) w':=hp { a with defers:=[] } n hs.1
 rw [h1,Oper.uponIn_enter]
 refine ⟨(fun h=>by rw [zJj r] at h; cases h),zAV (zBB r) (zJi r) (hc.mono fun e w'' he=>?_)⟩
 cases e with
 | returned v=>exact h v _ he
 | panicked c=>exact he.elim
 | outgrown=>exact he.elim
theorem zGk {K1:Act→World→Prop} {y:Nat} {args:Array Value} {kk:Value→K} (hs:qw dl a n σ) (nd:xV o.op = false) (hp:∀ (x:Next),(Instr.yield y args).run P w = .ok x w→Eff P σ o w x w) (hc:YieldAt Fence.wide 0 P y args w (Ret kk))
  (h:∀ v w,kk v w→K1 (a.put o.dst v) w):o.wpIn Fence.wide 0 P a w K1 Q:=by
 obtain ⟨fn,tmps,as1,bd,hy,hr⟩:=hc
 refine ⟨fun f _=>trivial,?_⟩
 rw [Oper.semAt_eq _ _ _ (zBz nd)]
 have h1:(execOp a.eval o).run P w = .ok (.round y fn tmps as1 bd) w:=hp _ hy { a with defers:=[] } n hs.1
 rw [h1,Oper.uponIn_round]
 refine ⟨(fun h=>by cases h),zFf (hr.mono fun e w'' he=>?_)⟩
 cases e with
 | returned v=>exact h v _ he
 | panicked c=>exact he.elim
 | outgrown=>exact he.elim
theorem zD5 (hs:qw dl a n σ) (hw:wants ops σ o = some true) (h:o.wpIn (fe r) 0 P a w (wpListIn (fe r) 0 P ops Q l) Q):wpListIn (fe r) 0 P ops Q (o::l) a w:=by
 unfold wpListIn
 rw [if_pos (qJ hs.1 hw)]; exact h
theorem zDQ {d:Nat} (h:G dl n ((d,v)::σ) k (Tx r P ops Q l)) (hd:o.dst = some d:=by rfl) (hw:wants ops σ o = some true:=by rfl) (hp:Pure P σ o v:=by exact zFj) (hn:Nat.ble (d + 1) n = true:=by rfl) (nd:xV o.op = false:=by rfl) :
  G dl n σ k (Tx r P ops Q (o::l)):=fun a w hs hk=>zD5 hs hw (uQ hs nd (hp.eff w) (by rw [hd]; exact h _ w (hs.put (Nat.le_of_ble_eq_true hn) v) hk))
theorem zNz {d:Nat} (h:G dl n ((d,undef)::σ) k (Tx r P ops Q l)) (hd:o.dst = some d:=by rfl) (hw:wants ops σ o = some false:=by rfl) (hn:Nat.ble (d + 1) n = true:=by rfl):G dl n σ k (Tx r P ops Q (o::l)):=fun a w hs hk=>by
 show wpListIn (fe r) 0 P ops Q (o::l) a w
 unfold wpListIn
 rw [if_neg (by rw [qJ hs.1 hw]; simp),hd]
 exact ⟨fun f _=>(zBB r).fn f,h _ w (hs.put (Nat.le_of_ble_eq_true hn) _) hk⟩
theorem zMl (h:G dl n σ k (Tx r P ops Q l)) (hd:o.dst = none:=by rfl) (hw:wants ops σ o = some false:=by rfl):G dl n σ k (Tx r P ops Q (o::l)):=fun a w hs hk=>by
 show wpListIn (fe r) 0 P ops Q (o::l) a w
 unfold wpListIn
 rw [if_neg (by rw [qJ hs.1 hw]; simp),hd]
 exact ⟨fun f _=>(zBB r).fn f,h _ w hs hk⟩
section
variable {α:Type} {vx:α→Value} {k':α→K}
theorem WP.wr {σ:List (Nat×Value)} (h:WP P σ o k vx k'):WR P σ o k vx k':=fun w hk=>by obtain ⟨x,hp,h⟩:=h w hk; exact ⟨x,hp.eff w,h⟩
theorem WR.we {σ:List (Nat×Value)} (h:WR P σ o k vx k'):WE P σ o k vx k':=fun w hk=>by obtain ⟨x,hp,h⟩:=h w hk; exact ⟨x,w,hp,h⟩
theorem zJk {d:Nat} (he:WE P σ o k vx k') (h:∀ x,G dl n ((d,vx x)::σ) (k' x) (Tx r P ops Q l)) (hd:o.dst = some d) (hw:wants ops σ o = some true) (hn:Nat.ble (d + 1) n = true) (nd:xV o.op = false):G dl n σ k (Tx r P ops Q (o::l)):=fun a w hs hk=>by
 obtain ⟨x,w',hp,h'⟩:=he w hk
 exact zD5 hs hw (uQ hs nd hp (by rw [hd]; exact h x _ w' (hs.put (Nat.le_of_ble_eq_true hn) _) h'))
theorem zAp {d:Nat} (h:∀ x,G dl n ((d,vx x)::σ) (k' x) (Tx r P ops Q l)) (hd:o.dst = some d:=by rfl) (hw:wants ops σ o = some true:=by rfl) (hp:WP P σ o k vx k':=by exact zDg) (hn:Nat.ble (d + 1) n = true:=by rfl) (nd:xV o.op = false:=by rfl):G dl n σ k (Tx r P ops Q (o::l)):=zJk hp.wr.we h hd hw hn nd
theorem zD6 {d:Nat} (h:∀ x,G dl n ((d,vx x)::σ) (k' x) (Tx r P ops Q l)) (hd:o.dst = some d:=by rfl) (hw:wants ops σ o = some true:=by rfl) (hp:WR P σ o k vx k':=by exact zA9) (hn:Nat.ble (d + 1) n = true:=by rfl) (nd:xV o.op = false:=by rfl):G dl n σ k (Tx r P ops Q (o::l)):=zJk hp.we h hd hw hn nd
theorem zE2 {d:Nat} (h:∀ x,G dl n ((d,vx x)::σ) (k' x) (Tx r P ops Q l)) (hd:o.dst = some d:=by rfl) (hw:wants ops σ o = some true:=by rfl) (hp:WE P σ o k vx k':=by exact zBA) (hn:Nat.ble (d + 1) n = true:=by rfl) (nd:xV o.op = false:=by rfl):G dl n σ k (Tx r P ops Q (o::l)):=zJk hp h hd hw hn nd
theorem zMm (h:∀ x,G dl n σ (k' x) (Tx r P ops Q l)) (hd:o.dst = none:=by rfl) (hw:wants ops σ o = some true:=by rfl) (hp:WE P σ o k vx k':=by exact zBA) (nd:xV o.op = false:=by rfl):G dl n σ k (Tx r P ops Q (o::l)):=fun a w hs hk=>by
 obtain ⟨x,w',hp,h'⟩:=hp w hk
 exact zD5 hs hw (uQ hs nd hp (by rw [hd]; exact h x _ w' hs h'))
end
theorem zMK {k':K} (h:G dl n σ k' (Tx r P ops Q l)) (hd:o.dst = none:=by rfl) (hw:wants ops σ o = some true:=by rfl) (hp:WK P σ o k k':=by exact zFm) (nd:xV o.op = false:=by rfl):G dl n σ k (Tx r P ops Q (o::l)):=fun a w hs hk=>by
 obtain ⟨w',hp,h'⟩:=hp w hk
 exact zD5 hs hw (zFn hs nd hp (by rw [hd]; exact h _ w' hs h'))
theorem zN0 {d:Nat} {kk:Value→K} (h:∀ u,G dl n ((d,u)::σ) (kk u) (Tx r P ops Q l)) (hd:o.dst = some d:=by rfl) (hw:wants ops σ o = some true:=by rfl) (hp:WC P σ o k kk:=by exact zBy) (hn:Nat.ble (d + 1) n = true:=by rfl) (nd:xV o.op = false:=by rfl):G dl n σ k (Tx r P ops Q (o::l)):=fun a w hs hk=>by
 obtain ⟨f,args,w',hp,hc⟩:=hp w hk
 exact zD5 hs hw (zB0 hs nd hp hc fun v w h'=>by rw [hd]; exact h v _ w (hs.put (Nat.le_of_ble_eq_true hn) _) h')
theorem zMn {kk:Value→K} (h:∀ u,G dl n σ (kk u) (Tx r P ops Q l)) (hd:o.dst = none:=by rfl) (hw:wants ops σ o = some true:=by rfl) (hp:WC P σ o k kk:=by exact zBy) (nd:xV o.op = false:=by rfl):G dl n σ k (Tx r P ops Q (o::l)):=fun a w hs hk=>by
 obtain ⟨f,args,w',hp,hc⟩:=hp w hk
 exact zD5 hs hw (zB0 hs nd hp hc fun v w h'=>by rw [hd]; exact h v _ w hs h')
theorem zN1 {d:Nat} {kk:Value→K} (h:∀ u,G dl n ((d,u)::σ) (kk u) (Tx none P ops Q l)) (hd:o.dst = some d:=by rfl) (hw:wants ops σ o = some true:=by rfl) (hp:WY P σ o k kk:=by exact zNy rfl rfl rfl) (hn:Nat.ble (d + 1) n = true:=by rfl) (nd:xV o.op = false:=by rfl):G dl n σ k (Tx none P ops Q (o::l)):=fun a w hs hk=>by
 obtain ⟨y,args,hp,hc⟩:=hp w hk
 exact zD5 (r:=none) hs hw (zGk hs nd hp hc fun v w h'=>by rw [hd]; exact h v _ w (hs.put (Nat.le_of_ble_eq_true hn) _) h')
theorem zMo (h:G dl n σ k (Ex Q .normal)):G dl n σ k (Tx r P ops Q []):=fun a w hs hk=>h a w hs hk
section
variable {α β γ δ ε:Type} {d:Nat} {u:Value}
theorem zK7 {v0:Value} (h:G dl n ((d,v0)::σ) k X):G dl n ((d,u)::σ) (vP v0 k u) X:=fun a w hs ⟨hu,hk⟩=>h a w (hu ▸ hs) hk
theorem zK8 {c:α→Value} {k:α→K} (h:∀ x,G dl n ((d,c x)::σ) (k x) X):G dl n ((d,u)::σ) (yt c k u) X:=fun a w hs ⟨x,hu,hk⟩=>h x a w (hu ▸ hs) hk
theorem zHT {c:α→β→Value} {k:α→β→K} (h:∀ x y,G dl n ((d,c x y)::σ) (k x y) X):G dl n ((d,u)::σ) (vD c k u) X:=fun a w hs ⟨x,y,hu,hk⟩=>h x y a w (hu ▸ hs) hk
theorem zK9 {c:α→β→γ→Value} {k:α→β→γ→K} (h:∀ x y z,G dl n ((d,c x y z)::σ) (k x y z) X):G dl n ((d,u)::σ) (zAE c k u) X:=fun a w hs ⟨x,y,z,hu,hk⟩=>h x y z a w (hu ▸ hs) hk
theorem zLA {c:α→β→γ→δ→Value} {k:α→β→γ→δ→K} (h:∀ x y z t,G dl n ((d,c x y z t)::σ) (k x y z t) X):G dl n ((d,u)::σ) (zAo c k u) X:=fun a w hs ⟨x,y,z,t,hu,hk⟩=>h x y z t a w (hu ▸ hs) hk
theorem zLB {c:α→β→γ→δ→ε→Value} {k:α→β→γ→δ→ε→K} (h:∀ x y z t s,G dl n ((d,c x y z t s)::σ) (k x y z t s) X):G dl n ((d,u)::σ) (zBK c k u) X:=fun a w hs ⟨x,y,z,t,s,hu,hk⟩=>h x y z t s a w (hu ▸ hs) hk
theorem zN2 {v0:Value} (h:G dl n σ k X):G dl n σ (vP v0 k u) X:=fun a w hs ⟨_,hk⟩=>h a w hs hk
theorem zN3 {c:α→Value} {k:α→K} (h:∀ x,G dl n σ (k x) X):G dl n σ (yt c k u) X:=fun a w hs ⟨x,_,hk⟩=>h x a w hs hk
theorem zN4 {c:α→β→Value} {k:α→β→K} (h:∀ x y,G dl n σ (k x y) X):G dl n σ (vD c k u) X:=fun a w hs ⟨x,y,_,hk⟩=>h x y a w hs hk
end
def gslot (ops:Array Oper) (σ:List (Nat×Value)) (o:Oper):Option Value:=match o.guard with
 | none=>none
 | some (j,_)=>match (ops[j]?).bind (·.dst) with
  | none=>none
  | some t=>look σ t
theorem zMp {b:Bool} {x y:K} (h1:b = true→G dl n σ x (Tx r P ops Q (o::l))) (h2:b = false→G dl n σ y (Tx r P ops Q (o::l))) (hg:gslot ops σ o = some (.bool b):=by rfl):G dl n σ (Ite b x y) (Tx r P ops Q (o::l)):=fun a w hs hk=>by
 cases b
 ·exact h2 rfl a w hs (hk.2 rfl)
 ·exact h1 rfl a w hs (hk.1 rfl)
theorem zDh (h:∀ a w,qw dl a n σ→k w→X a w):G dl n σ k X:=h
theorem zJl {p:Option Addr} {kp:Addr→K} (h:∀ a,p = some a→G dl n σ (kp a) X):G dl n σ (Nn p kp) X:=fun a w hs ⟨b,hb,hk⟩=>h b hb a w hs hk
theorem zJm {f:Value} {kf:FuncId→Array Value→Array Value→K} (h:∀ g fs cs,f = .func (.func g) fs cs→CB P g→G dl n σ (kf g fs cs) X):G dl n σ (Fv P f kf) X:=fun a w hs ⟨g,fs,cs,hf,hc,hk⟩=>h g fs cs hf ⟨hc⟩ a w hs hk
theorem zLC:G dl n σ Dead X:=fun _ _ _ hk=>hk.elim
def Gp (dl:List Deferred) (n:Nat) (X:Act→World→Prop) (τ:List (Nat×Value)) (k:K):Prop:=G dl n τ k X
theorem zN5 (h:G dl n σ k X):Gp dl n X σ k:=h
theorem zB1 (h:Sub σ τ:=by repeat (first | exact trivial | refine ⟨rfl,?_⟩)):Sub σ τ:=h
theorem zLD (h:Gp dl n X τ k:=by apply_assumption) (hs:Sub σ τ:=by exact zB1):G dl n σ k X:=fun a w hs' hk=>h a w (hs'.to hs) hk
theorem zFo (h:G dl n σ k X):∀ a w,qw dl a n σ→k w→X a w:=h
def zAq (a b:Nat):Nat:=match Nat.beq a 1000000 with
 | true=>b
 | false=>a
def vY:Code→Nat
 | .region id _ _=>id
 | .seq x y=>zAq (vY x) (vY y)
 | .cond _ x y=>zAq (vY x) (vY y)
 | .block _ c=>vY c
 | .loop c=>vY c
 | .scope c=>vY c
 | .rangeFunc _ _ a _=>vY a
 | _=>1000000
def jO:Code→Nat
 | .region id _ _=>id
 | .seq x y=>zAq (jO y) (jO x)
 | .cond _ x y=>zAq (jO y) (jO x)
 | .block _ c=>jO c
 | .loop c=>jO c
 | .scope c=>jO c
 | .rangeFunc _ _ _ b=>jO b
 | _=>1000000
def zMq (x y:Code):Nat:=zAq (vY y) (1000000 + jO x)
structure JH (id:Nat) (H:(List (Nat×Value)→((List (Nat×Value)→K→Prop)→Prop)→Prop)→Prop):Prop where
 h:∀ D,H D→∃ pre C,D pre C
structure LH (id:Nat) {α:Type} (S:α→List (Nat×Value)) (body:(α→K)→α→K):Prop
structure XH (id:Nat) {α:Type} (X:α→K):Prop
variable {x y c:Code} {id:Nat}
theorem zMr (h:G dl n σ k (Cx r P x (Exit.then (Cx r P y Q) Q))):G dl n σ k (Cx r P (.seq x y) Q):=fun a w hs hk=>wpIn_seq (h a w hs hk)
def Jp (dl:List Deferred) (n:Nat) (σ:List (Nat×Value)) (k:K) (r:Option Nat) (P:Program) (x y:Code) (Q:Exit→Act→World→Prop) (pre:List (Nat×Value)) (C:(List (Nat×Value)→K→Prop)→Prop):Prop :=
 Sub σ pre∧C (Gp dl n (Cx r P y Q))∧∀ Kc,C (Gp dl n Kc)→G dl n σ k (Cx r P x (Exit.then Kc Q))
theorem zO7 {α:Sort _} {p:α→Prop} {x:α} (h:p x):∃ x,p x:=⟨x,h⟩
theorem zLE {H:(List (Nat×Value)→((List (Nat×Value)→K→Prop)→Prop)→Prop)→Prop} (h:H (Jp dl n σ k r P x y Q)) (hi:zMq x y = id:=by rfl) (hh:JH id H:=by first | assumption | (apply_assumption <;> assumption)):G dl n σ k (Cx r P (.seq x y) Q):=fun a w hs hk=>by
 obtain ⟨pre,C,_,h1,h2⟩:=hh.h _ h
 exact wpIn_seq (h2 _ h1 a w hs hk)
theorem zLF (h:G dl n σ k (Ex Q .normal)):G dl n σ k (Cx r P .skip Q):=fun a w hs hk=>wpIn_skip (h a w hs hk)
theorem zJn {i:Nat} (h:G dl n σ k (Ex Q .normal)):G dl n σ k (Cx r P (.label i) Q):=fun a w hs hk=>wpIn_label (h a w hs hk)
theorem zLG {i:Nat} (h:G dl n σ k (Ex Q (.exit i))):G dl n σ k (Cx r P (.exit i) Q):=fun a w hs hk=>wpIn_exit (h a w hs hk)
theorem zMs (h:G dl n σ k (Ex Q .ret)):G dl n σ k (Cx r P .ret Q):=fun a w hs hk=>wpIn_ret (h a w hs hk)
theorem zJo {i:Nat} (h:G dl n σ k (Cx r P c (Exit.inBlock i Q))):G dl n σ k (Cx r P (.block i c) Q):=fun a w hs hk=>wpIn_block (h a w hs hk)
theorem zLH {e:Operand} {b:Bool} {kx ky:K} (h1:G dl n σ kx (Cx r P x Q)) (h2:G dl n σ ky (Cx r P y Q)) (he:ev σ e = some (.bool b):=by rfl):G dl n σ (Ite b kx ky) (Cx r P (.cond e x y) Q):=fun a w hs hk=>
 wpIn_cond_split (hs.1.ev he) (fun hb=>h1 a w hs (hk.1 hb)) (fun hb=>h2 a w hs (hk.2 hb))
theorem zIh {e:Operand} (h:G dl n σ k (Cx r P x Q)) (he:ev σ e = some (.bool true):=by rfl):G dl n σ k (Cx r P (.cond e x y) Q):=fun a w hs hk=>wpIn_cond_true (hs.1.ev he) (h a w hs hk)
theorem zIi {e:Operand} (h:G dl n σ k (Cx r P y Q)) (he:ev σ e = some (.bool false):=by rfl):G dl n σ k (Cx r P (.cond e x y) Q):=fun a w hs hk=>wpIn_cond_false (hs.1.ev he) (h a w hs hk)
theorem zMt {i:Nat} (h:G dl n σ k (Tx r P l.toArray Q l)):G dl n σ k (Cx r P (.region i l.toArray false) Q):=fun a w hs hk=>wpIn_region_lit (h a w hs hk)
def Lx (dl:List Deferred) (n:Nat) {α:Type} (S:α→List (Nat×Value)) (X:α→K):Act→World→Prop:=fun a w=>∃ x,qw dl a n (S x)∧X x w
theorem zLI {α:Type} {body:(α→K)→α→K} {x0:α} {S:α→List (Nat×Value)} (h:∀ X:α→K,XH id X→∀ x,G dl n (S x) (body X x) (Cx r P c (Exit.then (Lx dl n S X) Q))) (hi:vY c = id:=by rfl) (hh:LH id S body:=by first | assumption | (apply_assumption <;> assumption)) (h0:Sub σ (S x0):=by exact zB1) :
  G dl n σ (yY body x0) (Cx r P (.loop c) Q):=fun a w hs ⟨I,μ,hI,hr⟩=>by
 refine zK3 I μ (fun x a=>qw dl a n (S x)) x0 hI (hs.to h0) fun x a w hI hG=>?_
 refine wpIn_mono (h _ ⟨⟩ x a w hG (hr x w hI)) fun e a w hq=>?_
 cases e with
 | normal=>exact hq
 | _=>exact hq
theorem zMu {α:Type} {S:α→List (Nat×Value)} {X:α→K} {x:α} (hk:k = X x:=by rfl) (h0:Sub σ (S x):=by exact zB1):G dl n σ k (Lx dl n S X):=fun a w hs h=>⟨x,hs.to h0,hk ▸ h⟩
theorem zLJ {Kc:Act→World→Prop} (h:G dl n σ k Kc):G dl n σ k (Ex (Exit.then Kc Q) .normal):=h
theorem zIj {Kc:Act→World→Prop} {i:Nat} (h:G dl n σ k (Ex Q (.exit i))):G dl n σ k (Ex (Exit.then Kc Q) (.exit i)):=h
theorem zIk {Kc:Act→World→Prop} (h:G dl n σ k (Ex Q .ret)):G dl n σ k (Ex (Exit.then Kc Q) .ret):=h
theorem zMv {i:Nat} (h:G dl n σ k (Ex Q .normal)):G dl n σ k (Ex (Exit.inBlock i Q) .normal):=h
theorem zJp {i:Nat} (h:G dl n σ k (Ex Q .ret)):G dl n σ k (Ex (Exit.inBlock i Q) .ret):=h
theorem zJq {i:Nat} (h:G dl n σ k (Ex Q .normal)):G dl n σ k (Ex (Exit.inBlock i Q) (.exit i)):=fun a w hs hk=>by
 show Exit.inBlock i Q (.exit i) a w
 simp only [Exit.inBlock,if_true]; exact h a w hs hk
theorem zJr {i j:Nat} (h:G dl n σ k (Ex Q (.exit j))) (hij:Nat.beq j i = false:=by rfl):G dl n σ k (Ex (Exit.inBlock i Q) (.exit j)):=fun a w hs hk=>by
 show Exit.inBlock i Q (.exit j) a w
 have:j ≠ i:=fun e=>by rw [e,Nat.beq_refl] at hij; cases hij
 simp only [Exit.inBlock,this,if_false]; exact h a w hs hk
def fin:List Value→Value
 | [v]=>v
 | l=>.tuple l.toArray
theorem zMw (l:List Value):fin l = if h:l.toArray.size = 1 then l.toArray[0] else .tuple l.toArray:=by
 cases l with
 | nil=>rfl
 | cons v l=>cases l <;> rfl
def Rx (P:Program) (kk:Value→K) (rs:List ResultVar) (vs:List Value):Act→World→Prop:=fun a w=>∃ us,(List.mapM (zAn a.tmps) rs).run P w = .ok us w∧kk (fin (vs++us)) w
theorem zJs {fn:Func} {kk:Value→K} (h:Rx P kk fn.results.toList [] a w):∃ v,(results fn a.tmps).run P w = .ok v w∧kk v w:=by
 obtain ⟨us,h1,h2⟩:=h
 refine ⟨fin us,?_,h2⟩
 rw [zHR,← Array.toArray_toList (xs:=fn.results),Array.mapM_eq_mapM_toList]
 simp only [Array.toArray_toList]
 simp only [Sem.run_bind,Sem.run_map,h1,Result.andThen,Sem.run_pure]
 rw [zMw]
theorem zMx {fn:Func} {kk:Value→K} {rs:List ResultVar} (h:G [] n σ k (Rx P kk rs [])) (hr:fn.results = rs.toArray:=by rfl):G [] n σ k (Ex (uF P fn (Ret kk)) .ret):=fun a w hs hk=>by
 obtain ⟨v,h1,h2⟩:=zJs (fn:=fn) (by rw [hr]; exact h a w hs hk)
 show LeavesInM Fence.wide 0 P fn a.tmps (Ret kk) a.defers .returning w
 rw [hs.2]
 exact ⟨v,h1,h2⟩
theorem zMy {fn:Func} {kk:Value→K} (h:G dl n σ k (Ex (uF P fn (Ret kk)) .ret)):G dl n σ k (Ex (uF P fn (Ret kk)) .normal):=h
theorem zLK {fn:Func} {kk:Value→K} {D:Nat} {rs:List ResultVar} (h:G (zAF D) n σ k (Rx P kk rs [])) (hr:fn.results = rs.toArray:=by rfl):G (zAF D) n σ (vT D k) (Ex (uF P fn (Ret kk)) .ret):=fun a w hs hk=>by
 obtain ⟨v,h1,h2⟩:=zJs (fn:=fn) (by rw [hr]; exact h a _ hs hk.2)
 show LeavesInM Fence.wide 0 P fn a.tmps (Ret kk) a.defers .returning w
 rw [hs.2]
 exact ⟨by simp,.inl ⟨D,_,rfl,run_takeDeferred hk.1,v,h1,h2⟩⟩
theorem zMz {kk:Value→K} {t:Nat} {rs:List ResultVar} {vs:List Value} (h:G dl n σ k (Rx P kk rs (vs++[v]))) (ht:look σ t = some v:=by rfl):G dl n σ k (Rx P kk (.tmp t::rs) vs):=fun a w hs hk=>by
 obtain ⟨us,h1,h2⟩:=h a w hs hk
 refine ⟨v::us,?_,by simpa using h2⟩
 rw [List.mapM_cons]
 have h3:(zAn a.tmps (.tmp t)).run P w = .ok v w:=zCY (a:={ a with defers:=[] }) hs.1 (r:=.tmp t) ht
 simp only [Sem.run_bind,h3,h1,Sem.run_pure,Result.andThen]
theorem zLL {α:Type} {c:α→Value} {kx:α→K} {kk:Value→K} {t T:Nat} {b:Addr} {rs:List ResultVar} {vs:List Value} [cl:CT P T] (h:∀ x,G dl n σ (kx x) (Rx P kk rs (vs++[c x]))) (ht:look σ t = some (.pointer (some b)):=by rfl):G dl n σ (Ld b c kx) (Rx P kk (.cell t T::rs) vs):=fun a w hs ⟨x,hv,hk⟩=>by
 obtain ⟨us,h1,h2⟩:=h x a w hs hk
 refine ⟨c x::us,?_,by simpa using h2⟩
 rw [List.mapM_cons]
 have h3:(zAn a.tmps (.cell t T)).run P w = .ok (c x) w:=zCY (a:={ a with defers:=[] }) hs.1 (r:=.cell t T) ⟨_,ht,zGU cl.h hv⟩
 simp only [Sem.run_bind,h3,h1,Sem.run_pure,Result.andThen]
theorem zJt {kx:Array Value→K} {kk:Value→K} {t T m:Nat} {b:Addr} {rs:List ResultVar} {vs:List Value} [cl:AT P T m] (h:∀ x,G dl n σ (kx x) (Rx P kk rs (vs++[.agg x]))) (ht:look σ t = some (.pointer (some b)):=by rfl):G dl n σ (LdN b m kx) (Rx P kk (.cell t T::rs) vs):=fun a w hs ⟨x,hn,hv,hk⟩=>by
 obtain ⟨us,h1,h2⟩:=h x a w hs hk
 refine ⟨.agg x::us,?_,by simpa using h2⟩
 rw [List.mapM_cons]
 have h3:(zAn a.tmps (.cell t T)).run P w = .ok (.agg x) w:=zCY (a:={ a with defers:=[] }) hs.1 (r:=.cell t T) ⟨_,ht,zFc cl.h hn hv⟩
 simp only [Sem.run_bind,h3,h1,Sem.run_pure,Result.andThen]
def Fx (k:K):Act→World→Prop:=fun _ w=>k w
theorem zM0 {kk:Value→K} {vs:List Value} (h:G dl n σ k (Fx (kk (fin vs)))):G dl n σ k (Rx P kk [] vs):=fun a w hs hk=>⟨[],by simp,by rw [List.append_nil]; exact h a w hs hk⟩
section
variable {α β γ δ ε:Type} {u:Value}
theorem zO8 {v0:Value} {q:K} (hk:k = q:=by rfl) (hu:u = v0:=by rfl):G dl n σ k (Fx (vP v0 q u)):=fun _ w _ h=>⟨hu,hk ▸ h⟩
theorem zO9 {c:α→Value} {q:α→K} {x:α} (hk:k = q x:=by rfl) (hu:u = c x:=by rfl):G dl n σ k (Fx (yt c q u)):=fun _ w _ h=>⟨x,hu,hk ▸ h⟩
theorem zPA {c:α→β→Value} {q:α→β→K} {x:α} {y:β} (hk:k = q x y:=by rfl) (hu:u = c x y:=by rfl):G dl n σ k (Fx (vD c q u)):=fun _ w _ h=>⟨x,y,hu,hk ▸ h⟩
theorem zPB {c:α→β→γ→Value} {q:α→β→γ→K} {x:α} {y:β} {z:γ} (hk:k = q x y z:=by rfl) (hu:u = c x y z:=by rfl):G dl n σ k (Fx (zAE c q u)):=fun _ w _ h=>⟨x,y,z,hu,hk ▸ h⟩
theorem zPC {c:α→β→γ→δ→Value} {q:α→β→γ→δ→K} {x:α} {y:β} {z:γ} {t:δ} (hk:k = q x y z t:=by rfl) (hu:u = c x y z t:=by rfl):G dl n σ k (Fx (zAo c q u)):=fun _ w _ h=>⟨x,y,z,t,hu,hk ▸ h⟩
theorem zPD {c:α→β→γ→δ→ε→Value} {q:α→β→γ→δ→ε→K} {x:α} {y:β} {z:γ} {t:δ} {s:ε} (hk:k = q x y z t s:=by rfl) (hu:u = c x y z t s:=by rfl):G dl n σ k (Fx (zBK c q u)):=fun _ w _ h=>⟨x,y,z,t,s,hu,hk ▸ h⟩
end
end
def zJu:Nat→List Value→List (Nat×Value)
 | _,[]=>[]
 | i,v::vs=>(i,v)::zJu (i + 1) vs
theorem zLM (l:List Value) (i:Nat):((l.zipIdx i).map fun p=>(p.2,p.1)) = zJu i l:=by
 induction l generalizing i with
 | nil=>rfl
 | cons v l ih=>simp [zJu,List.zipIdx_cons,ih]
theorem zLN {P:Program} {f:FuncId} {fn:Func} {c:Code} {args:List Value} {kk:Value→K} {k:K} (n:Nat) {w:World} (hk:k w) (hf:P.funcs[f]? = some fn) (h:G [] n (zJu 0 args) k (Cx none P c (uF P fn (Ret kk)))) (hb:fn.body = some c:=by rfl) (hn:fn.ntmps = n:=by rfl) (hl:Nat.ble args.length n = true:=by rfl) :
  zY P f args.toArray kk w:=by
 subst hn
 refine zJQ hf hb (Nat.le_of_ble_eq_true hl) fun a hs=>h a w (by rw [← zLM]; exact hs) hk
end
section
open Go
inductive Scr where
 | e
 | s (l:List Nat) (t:Scr)
 | a (l:List (Nat×Nat×Scr))
 | i (x y:Scr)
structure DH (id mode:Nat) (ds:List Nat) (t:Scr):Prop
def lst (n:Nat) (done:List Nat):Array Bool:=(Array.range n).map fun i=>done.contains i
theorem zID (n i:Nat) (done:List Nat):(lst n done).setIfInBounds i true = lst n (i::done):=by
 apply Array.ext
 ·simp [lst]
 ·intro j h1 h2
  have h3:j < (lst n done).size:=by simpa using h1
  rw [Array.getElem_setIfInBounds h3]
  by_cases h:i = j
  ·subst h; simp [lst]
  ·have h':¬ j = i:=fun e=>h e.symm
   simp [lst,h,h']
theorem zFp (n:Nat):Array.replicate n false = lst n []:=by
 apply Array.ext
 ·simp [lst]
 ·intro j h1 h2; simp [lst]
def Dx (P:Program) (ops:Array Oper) (Q:Exit→Act→World→Prop) (S:World→Prop) (ds done:List Nat) (t:Scr):Act→World→Prop:=fun a w=>jH Q→uh P ops Q S ds (ops.size - done.length) (lst ops.size done) a w
def Al (S:World→Prop) (k:K):K:=fun w=>S w∧k w
def Ox (P:Program) (ops:Array Oper) (Q:Exit→Act→World→Prop) (S:World→Prop) (ds done:List Nat) (i tag:Nat) (t:Scr):Act→World→Prop:=fun a w=>jH Q →
 opW P ops Q i (fun a' w'=>(alive ds (lst ops.size done) = true→i ∉ ds→S w→S w')∧uh P ops Q S ds (ops.size - done.length - 1) (lst ops.size (i::done)) a' w') a w
def Ax (P:Program) (ops:Array Oper) (Q:Exit→Act→World→Prop) (S:World→Prop) (ds done:List Nat) (l:List (Nat×Nat×Scr)):Act→World→Prop:=fun a w=>∀ p ∈ l,Ox P ops Q S ds done p.1 p.2.1 p.2.2 a w
def takeC (ops:Array Oper) (ds done:List Nat) (i:Nat):Bool :=
 Region.noSelect ops && Region.free .any ops (lst ops.size done) i && (Region.ready .any ops (lst ops.size done)).contains i && !ds.contains i && Nat.ble (done.length + 1) ops.size
def zIE (ops:Array Oper) (l:Array Bool):Bool :=
 (List.range ops.size).all fun j=>match ops[j]? with
  | some oj=>!l.getD j false || oj.after.all fun e=>!Region.binds .any e || l.getD e.on false
  | none=>true
def zD7 (ops:Array Oper) (i:Nat):Nat→Nat→List Nat→List Nat
 | 0,_,acc=>acc
 | n + 1,k,acc=>match (match ops[k]? with
   | some o=>o.after.any fun e=>Region.binds .any e && (e.on == i || acc.contains e.on)
   | none=>false) with
  | true=>zD7 ops i n (k + 1) (k::acc)
  | false=>zD7 ops i n (k + 1) acc
theorem zAr {ops:Array Oper} {i:Nat}:∀ (n k:Nat) (acc:List Nat),(∀ x ∈ acc,∃ m,reach ops i m x = true)→∀ d ∈ zD7 ops i n k acc,∃ m,reach ops i m d = true
 | 0,_,_,h,d,hd=>h d hd
 | n + 1,k,acc,h,d,hd=>by
  unfold zD7 at hd
  split at hd
  ·rename_i hb
   refine zAr n (k + 1) (k::acc) (fun x hx=>?_) d hd
   rcases List.mem_cons.1 hx with rfl | hx
   ·cases ho:ops[x]? with
    | none=>simp [ho] at hb
    | some o=>
     simp only [ho,Array.any_eq_true'] at hb
     obtain ⟨e,he,hb⟩:=hb
     simp only [Bool.and_eq_true,Bool.or_eq_true] at hb
     rcases hb.2 with h2 | h2
     ·refine ⟨1,?_⟩
      simp only [reach,ho,Array.any_eq_true']
      exact ⟨e,he,by simp [hb.1,h2]⟩
     ·obtain ⟨m,hm⟩:=h e.on (List.contains_iff_mem.1 h2)
      refine ⟨m + 1,?_⟩
      simp only [reach,ho,Array.any_eq_true']
      exact ⟨e,he,by simp [hb.1,hm]⟩
   ·exact h x hx
  ·exact zAr n (k + 1) acc h d hd
def zE3 (ops:Array Oper) (ds done:List Nat) (i:Nat):Bool:=takeC ops ds done i && zIE ops (lst ops.size done) && ds.all fun d=>(zD7 ops i (d - i) (i + 1) []).contains d
theorem zFq {ops:Array Oper} {l:Array Bool} (h:zIE ops l = true):Closed ops l:=fun j oj hj hl e he hb=>by
 have h1:=List.all_eq_true.1 h j (by simpa using (Array.getElem?_eq_some_iff.1 hj).1)
 simp only [hj,hl,Bool.not_true,Bool.false_or,Array.all_eq_true_iff_forall_mem] at h1
 have h2:=h1 e he
 simpa [hb] using h2
theorem zHU {Q:Exit→Act→World→Prop} {K:Act→World→Prop} (h:jH Q):jH (Exit.then K Q):=fun c a w hc=>h c a w hc
theorem zIl {Q:Exit→Act→World→Prop} {i:Nat} (h:jH Q):jH (Exit.inBlock i Q):=fun c a w hc=>h c a w hc
theorem zGl {P:Program} {fn:Func} {kk:Value→K}:jH (bodyPost P fn (Ret kk)):=fun _ _ _ h=>h.2
theorem zBf {Q:Exit→Act→World→Prop} (h:jH Q:=by repeat (first | refine zHU ?_ | refine zIl ?_ | exact zGV | exact zGl)):jH Q:=h
section
variable {P:Program} {dl:List Deferred} {n:Nat} {σ τ:List (Nat×Value)} {k:K} {X:Act→World→Prop} {ops:Array Oper} {Q:Exit→Act→World→Prop} {l:List Oper} {o:Oper} {v:Value} {S:World→Prop} {ds done:List Nat} {i:Nat} {is:List Nat} {t:Scr}
theorem zAG {T:World→Prop} (hi:ops[i]? = some o) (hc:takeC ops ds done i = true) (hT:(∀ w,T w)∨(T = S∧zE3 ops ds done i = true)) (hQ:jH Q) {a:Act} {w:World} (hy:YieldsIf P ops T o v a) (hw:T w)
  (h:uh P ops Q S ds (ops.size - (i::done).length) (lst ops.size (i::done)) (a.put o.dst v) w):uh P ops Q S ds (ops.size - done.length) (lst ops.size done) a w:=by
 simp only [takeC,Bool.and_eq_true,Bool.not_eq_true'] at hc
 obtain ⟨⟨⟨⟨h1,h2⟩,h3⟩,h4⟩,h5⟩:=hc
 have h5:=Nat.le_of_ble_eq_true h5
 rw [show ops.size - done.length = (ops.size - (i::done).length) + 1 by simp only [List.length_cons]; omega]
 refine zFh hi (by intro hm; rw [List.contains_iff_mem.2 hm] at h4; cases h4) (Region.noSelect_spec h1) hQ _ _ a w (Region.free_spec hi h2) ?_ (by simpa using h3) hy hw (by rw [zID]; exact h)
 rcases hT with h | ⟨h,hr⟩
 ·exact .inl h
 ·simp only [zE3,Bool.and_eq_true] at hr
  exact .inr ⟨h,zFq hr.1.2,fun d hd=>zAr _ _ _ (by simp) d (List.contains_iff_mem.1 (List.all_eq_true.1 hr.2 d hd))⟩
theorem zDR {d:Nat} (h:G dl n ((d,v)::σ) k (Dx P ops Q S ds (i::done) (.s is t))) (hi:ops[i]? = some o:=by rfl) (hd:o.dst = some d:=by rfl) (hw:wants ops σ o = some true:=by rfl) (hp:Pure P σ o v:=by exact zFj) (hc:takeC ops ds done i = true:=by as_aux_lemma=>kernel_rfl)
  (hn:Nat.ble (d + 1) n = true:=by rfl):G dl n σ k (Dx P ops Q S ds done (.s (i::is) t)):=fun a w hs hk hQ=>
 zAG (T:=fun _=>True) hi hc (.inl fun _=>trivial) hQ (.inl ⟨qJ hs.1 hw,fun w _=>hp { a with defers:=[] } n hs.1 w⟩) trivial (by rw [hd]; exact h _ w (hs.put (Nat.le_of_ble_eq_true hn) v) hk hQ)
def less (ds:List Nat) (i:Nat):List Nat:=ds.filter fun j=>!Nat.beq j i
theorem zGm:∀ d ∈ less ds i,d ∈ ds:=fun d hd=>(List.mem_filter.1 hd).1
theorem zN6 {d:Nat} (h:G dl n ((d,undef)::σ) k (Dx P ops Q S (less ds i) (i::done) (.s is t))) (hi:ops[i]? = some o:=by rfl) (hd:o.dst = some d:=by rfl) (hw:wants ops σ o = some false:=by rfl) (hc:takeC ops (less ds i) done i = true:=by as_aux_lemma=>kernel_rfl)
  (hn:Nat.ble (d + 1) n = true:=by rfl):G dl n σ k (Dx P ops Q S ds done (.s (i::is) t)):=fun a w hs hk hQ=>
 zCa zGm _ _ _ _ (zAG (T:=fun _=>True) (v:=undef) hi hc (.inl fun _=>trivial) hQ (.inr ⟨qJ hs.1 hw,rfl⟩) trivial (by rw [hd]; exact h _ w (hs.put (Nat.le_of_ble_eq_true hn) undef) hk hQ))
theorem zM1 (h:G dl n σ k (Dx P ops Q S (less ds i) (i::done) (.s is t))) (hi:ops[i]? = some o:=by rfl) (hd:o.dst = none:=by rfl) (hw:wants ops σ o = some false:=by rfl) (hc:takeC ops (less ds i) done i = true:=by as_aux_lemma=>kernel_rfl):G dl n σ k (Dx P ops Q S ds done (.s (i::is) t)):=fun a w hs hk hQ=>
 zCa zGm _ _ _ _ (zAG (T:=fun _=>True) (v:=undef) hi hc (.inl fun _=>trivial) hQ (.inr ⟨qJ hs.1 hw,rfl⟩) trivial (by rw [hd]; exact h _ w hs hk hQ))
theorem zM2 (h:G dl n σ k (Dx P ops Q S ds done t)):G dl n σ k (Dx P ops Q S ds done (.s [] t)):=h
section
variable {α:Type} {vx:α→Value} {k':α→K} {d:Nat}
theorem zAs (h:∀ x,G dl n ((d,vx x)::σ) (k' x) (Dx P ops Q S ds (i::done) (.s is t))) (hi:ops[i]? = some o:=by rfl) (hd:o.dst = some d:=by rfl) (hw:wants ops σ o = some true:=by rfl) (hp:WP P σ o k vx k':=by exact zDg) (hc:takeC ops ds done i = true:=by as_aux_lemma=>kernel_rfl)
  (hn:Nat.ble (d + 1) n = true:=by rfl):G dl n σ k (Dx P ops Q S ds done (.s (i::is) t)):=fun a w hs hk hQ=>by
 obtain ⟨x,hp,hk⟩:=hp w hk
 exact zAG (T:=fun _=>True) hi hc (.inl fun _=>trivial) hQ (.inl ⟨qJ hs.1 hw,fun w _=>hp { a with defers:=[] } n hs.1 w⟩) trivial (by rw [hd]; exact h x _ w (hs.put (Nat.le_of_ble_eq_true hn) _) hk hQ)
theorem jX (h:∀ x,G dl n ((d,vx x)::σ) (Al S (k' x)) (Dx P ops Q S ds (i::done) (.s is t))) (hi:ops[i]? = some o:=by rfl) (hd:o.dst = some d:=by rfl) (hw:wants ops σ o = some true:=by rfl) (hp:WP P σ o k vx k':=by exact zDg) (hc:takeC ops ds done i = true:=by as_aux_lemma=>kernel_rfl)
  (hn:Nat.ble (d + 1) n = true:=by rfl):G dl n σ (Al S k) (Dx P ops Q S ds done (.s (i::is) t)):=fun a w hs ⟨hS,hk⟩ hQ=>by
 obtain ⟨x,hp,hk⟩:=hp w hk
 exact zAG (T:=fun _=>True) hi hc (.inl fun _=>trivial) hQ (.inl ⟨qJ hs.1 hw,fun w _=>hp { a with defers:=[] } n hs.1 w⟩) trivial (by rw [hd]; exact h x _ w (hs.put (Nat.le_of_ble_eq_true hn) _) ⟨hS,hk⟩ hQ)
theorem zML (h:∀ x,G dl n ((d,vx x)::σ) (Al S (k' x)) (Dx P ops Q S ds (i::done) (.s is t))) (hi:ops[i]? = some o) (hd:o.dst = some d) (hw:wants ops σ o = some true) (hp:∀ w,S w→k w→∃ x,(∀ w,S w→Eff P σ o w (.value (vx x)) w)∧k' x w) (hc:zE3 ops ds done i = true)
  (hn:Nat.ble (d + 1) n = true):G dl n σ (Al S k) (Dx P ops Q S ds done (.s (i::is) t)):=fun a w hs ⟨hS,hk⟩ hQ=>by
 obtain ⟨x,hp,hk⟩:=hp w hS hk
 have hc':takeC ops ds done i = true:=by simp only [zE3,Bool.and_eq_true] at hc; exact hc.1.1
 exact zAG (T:=S) hi hc' (.inr ⟨rfl,hc⟩) hQ (.inl ⟨qJ hs.1 hw,fun w hw=>hp w hw { a with defers:=[] } n hs.1⟩) hS (by rw [hd]; exact h x _ w (hs.put (Nat.le_of_ble_eq_true hn) _) ⟨hS,hk⟩ hQ)
theorem zE4 {w1:World} (h:∀ x,G dl n ((d,vx x)::σ) (Al (Is w1) (k' x)) (Dx P ops Q (Is w1) ds (i::done) (.s is t))) (hi:ops[i]? = some o:=by rfl) (hd:o.dst = some d:=by rfl) (hw:wants ops σ o = some true:=by rfl) (hp:WR P σ o k vx k':=by exact zA9) (hc:zE3 ops ds done i = true:=by as_aux_lemma=>kernel_rfl)
  (hn:Nat.ble (d + 1) n = true:=by rfl):G dl n σ (Al (Is w1) k) (Dx P ops Q (Is w1) ds done (.s (i::is) t)):=zML h hi hd hw hp.is hc hn
theorem zIm (h:∀ x,G dl n ((d,vx x)::σ) (Al S (k' x)) (Dx P ops Q S ds (i::done) (.s is t))) (hi:ops[i]? = some o:=by rfl) (hd:o.dst = some d:=by rfl) (hw:wants ops σ o = some true:=by rfl) (hp:WS P S σ o k vx k':=by exact zK6) (hc:zE3 ops ds done i = true:=by as_aux_lemma=>kernel_rfl)
  (hn:Nat.ble (d + 1) n = true:=by rfl):G dl n σ (Al S k) (Dx P ops Q S ds done (.s (i::is) t)):=zML h hi hd hw (fun w _ hk=>hp w hk) hc hn
end
theorem zM3 (h:G dl n σ k (Ex Q .normal)) (hc:Region.ready .any ops (lst ops.size done) = []:=by as_aux_lemma=>kernel_rfl):G dl n σ k (Dx P ops Q S ds done .e):=fun a w hs hk _=>by
 show uh P ops Q S ds (ops.size - done.length) (lst ops.size done) a w
 cases ops.size - done.length with
 | zero=>exact ⟨hc,h a w hs hk⟩
 | succ m=>exact ⟨fun _=>h a w hs hk,by rw [hc]; simp⟩
theorem zB2 (h:G dl n σ k X):G dl n σ (Al S k) X:=fun a w hs hk=>h a w hs hk.2
theorem zM4 {b:Bool} {x y:K} {s t:Scr} (h1:b = true→G dl n σ x (Dx P ops Q S ds done s)) (h2:b = false→G dl n σ y (Dx P ops Q S ds done t)):G dl n σ (Ite b x y) (Dx P ops Q S ds done (.i s t)):=fun a w hs hk=>by
 cases b
 ·exact h2 rfl a w hs (hk.2 rfl)
 ·exact h1 rfl a w hs (hk.1 rfl)
theorem zLO {b:Bool} {x y:K} {s t:Scr} (h1:b = true→G dl n σ (Al S x) (Dx P ops Q S ds done s)) (h2:b = false→G dl n σ (Al S y) (Dx P ops Q S ds done t)):G dl n σ (Al S (Ite b x y)) (Dx P ops Q S ds done (.i s t)):=fun a w hs ⟨hS,hk⟩=>by
 cases b
 ·exact h2 rfl a w hs ⟨hS,hk.2 rfl⟩
 ·exact h1 rfl a w hs ⟨hS,hk.1 rfl⟩
theorem zN7 {p:Option Addr} {kp:Addr→K} (h:∀ a,p = some a→G dl n σ (Al S (kp a)) X):G dl n σ (Al S (Nn p kp)) X:=fun a w hs ⟨hS,b,hb,hk⟩=>h b hb a w hs ⟨hS,hk⟩
theorem zN8 {f:Value} {kf:FuncId→Array Value→Array Value→K} (h:∀ g fs cs,f = .func (.func g) fs cs→CB P g→G dl n σ (Al S (kf g fs cs)) X):G dl n σ (Al S (Fv P f kf)) X:=fun a w hs ⟨hS,g,fs,cs,hf,hc,hk⟩=>h g fs cs hf ⟨hc⟩ a w hs ⟨hS,hk⟩
theorem zM5 {α:Type} {d:Nat} {u:Value} {c:α→Value} {k:α→K} (h:∀ x,G dl n ((d,c x)::σ) (Al S (k x)) X):G dl n ((d,u)::σ) (Al S (yt c k u)) X:=fun a w hs ⟨hS,x,hu,hk⟩=>h x a w (hu ▸ hs) ⟨hS,hk⟩
theorem zFr {α β:Type} {d:Nat} {u:Value} {c:α→β→Value} {k:α→β→K} (h:∀ x y,G dl n ((d,c x y)::σ) (Al S (k x y)) X):G dl n ((d,u)::σ) (Al S (vD c k u)) X:=fun a w hs ⟨hS,x,y,hu,hk⟩=>h x y a w (hu ▸ hs) ⟨hS,hk⟩
theorem zPE {m:List (Nat×Nat×Scr)} (h:G dl n σ k (Ax P ops Q S ds done m)) (hr:Region.ready .any ops (lst ops.size done) = m.map (·.1):=by as_aux_lemma=>kernel_rfl) (hl:(Nat.ble (done.length + 1) ops.size && !m.isEmpty) = true:=by rfl):G dl n σ k (Dx P ops Q S ds done (.a m)):=fun a w hs hk hQ=>by
 simp only [Bool.and_eq_true,Bool.not_eq_true'] at hl
 have h5:=Nat.le_of_ble_eq_true hl.1
 show uh P ops Q S ds (ops.size - done.length) (lst ops.size done) a w
 have h0:=h a w hs hk
 rw [show ops.size - done.length = (ops.size - done.length - 1) + 1 by omega]
 refine ⟨fun h0=>?_,fun i hi=>?_⟩
 ·rw [h0] at hr
  cases m with
  | nil=>simp at hl
  | cons p m=>simp at hr
 ·rw [hr] at hi
  obtain ⟨p,hp,rfl⟩:=List.mem_map.1 hi
  have:=h0 p hp hQ
  rw [zID]
  exact this
theorem zM6 {ks:List K} {m:List (Nat×Nat×Scr)} {i tag:Nat} {t:Scr} (h1:G dl n σ k (Ox P ops Q S ds done i tag t)) (h2:G dl n σ (All ks) (Ax P ops Q S ds done m)):G dl n σ (All (k::ks)) (Ax P ops Q S ds done ((i,tag,t)::m)):=fun a w hs hk p hp=>by
 rcases List.mem_cons.1 hp with rfl | hp
 ·exact h1 a w hs (hk 0 _ rfl)
 ·exact h2 a w hs (fun j x hx=>hk (j + 1) x (by simpa using hx)) p hp
theorem zLP {ks:List K} {m:List (Nat×Nat×Scr)} {i tag:Nat} {t:Scr} (h1:G dl n σ (Al S k) (Ox P ops Q S ds done i tag t)) (h2:G dl n σ (Al S (All ks)) (Ax P ops Q S ds done m)):G dl n σ (Al S (All (k::ks))) (Ax P ops Q S ds done ((i,tag,t)::m)):=fun a w hs ⟨hS,hk⟩ p hp=>by
 rcases List.mem_cons.1 hp with rfl | hp
 ·exact h1 a w hs ⟨hS,hk 0 _ rfl⟩
 ·exact h2 a w hs ⟨hS,fun j x hx=>hk (j + 1) x (by simpa using hx)⟩ p hp
theorem zM7:G dl n σ k (Ax P ops Q S ds done []):=fun _ _ _ _ _ hp=>by cases hp
theorem zM8 {i tag:Nat} {t:Scr} (h1:G dl n σ k (Ox P ops Q S ds done i tag t)):G dl n σ k (Ax P ops Q S ds done [(i,tag,t)]):=fun a w hs hk p hp=>by
 rcases List.mem_cons.1 hp with rfl | hp
 ·exact h1 a w hs hk
 ·cases hp
def okK (ops:Array Oper) (S:World→Prop) (ds done:List Nat) (i:Nat):Prop:=(∀ w,S w)∨(ds.contains i || !alive ds (lst ops.size done)) = true
theorem okK.keep (h:okK ops S ds done i) (w w':World):alive ds (lst ops.size done) = true→i ∉ ds→S w→S w':=fun ha hi _=>by
 rcases h with h | h
 ·exact h w'
 ·rw [ha] at h
  simp only [Bool.not_true,Bool.or_false] at h
  exact absurd (List.contains_iff_mem.1 h) hi
theorem zAH (h:okK ops S ds done i:=by first | exact .inl (fun _=>trivial) | exact .inr (by as_aux_lemma=>kernel_rfl)):okK ops S ds done i:=h
theorem jD {a:Act} {w:World} (hs:qw dl a n σ) (hi:ops[i]? = some o) (hw:wants ops σ o = some true) {tag:Nat} (h:jH Q→o.wpIn Fence.wide 0 P a w (fun a' w'=>(alive ds (lst ops.size done) = true→i ∉ ds→S w→S w')∧uh P ops Q S ds (ops.size - done.length - 1) (lst ops.size (i::done)) a' w') Q):Ox P ops Q S ds done i tag t a w:=by
 intro hQ
 unfold opW wpOpIn
 simp only [hi,qJ hs.1 hw,if_true]
 exact h hQ
theorem jE {m:Nat}:ops.size - done.length - 1 = ops.size - (i::done).length:=by simp only [List.length_cons]; omega
section
variable {α:Type} {vx:α→Value} {k':α→K} {d:Nat} {k1:K}
theorem zIn (h:∀ x,G dl n ((d,vx x)::σ) (k' x) (Dx P ops Q S ds (i::done) t)) (hi:ops[i]? = some o:=by rfl) (hd:o.dst = some d:=by rfl) (hw:wants ops σ o = some true:=by rfl) (hp:WE P σ o k vx k':=by first | exact zBA | exact WR.we zA9) (hK:okK ops S ds done i:=by exact zAH)
  (hn:Nat.ble (d + 1) n = true:=by rfl) (nd:xV o.op = false:=by rfl):G dl n σ k (Ox P ops Q S ds done i 0 t):=fun a w hs hk=>by
 obtain ⟨x,w',hp,h'⟩:=hp w hk
 refine jD hs hi hw fun hQ=>(uQ (r:=none) hs nd hp ⟨hK.keep w w',?_⟩)
 rw [hd,jE (m:=0)]; exact h x _ w' (hs.put (Nat.le_of_ble_eq_true hn) _) h' hQ
theorem zN9 (h:∀ x,G dl n σ (k' x) (Dx P ops Q S ds (i::done) t)) (hi:ops[i]? = some o:=by rfl) (hd:o.dst = none:=by rfl) (hw:wants ops σ o = some true:=by rfl) (hp:WE P σ o k vx k':=by exact zBA) (hK:okK ops S ds done i:=by exact zAH)
  (nd:xV o.op = false:=by rfl):G dl n σ k (Ox P ops Q S ds done i 0 t):=fun a w hs hk=>by
 obtain ⟨x,w',hp,h'⟩:=hp w hk
 refine jD hs hi hw fun hQ=>(uQ (r:=none) hs nd hp ⟨hK.keep w w',?_⟩)
 rw [hd,jE (m:=0)]; exact h x _ w' hs h' hQ
theorem zOA (h:G dl n σ k1 (Dx P ops Q S ds (i::done) t)) (hi:ops[i]? = some o:=by rfl) (hd:o.dst = none:=by rfl) (hw:wants ops σ o = some true:=by rfl) (hp:WK P σ o k k1:=by exact zFm) (hK:okK ops S ds done i:=by exact zAH)
  (nd:xV o.op = false:=by rfl):G dl n σ k (Ox P ops Q S ds done i 0 t):=fun a w hs hk=>by
 obtain ⟨w',hp,h'⟩:=hp w hk
 refine jD hs hi hw fun hQ=>(zFn (r:=none) hs nd hp ⟨hK.keep w w',?_⟩)
 rw [hd,jE (m:=0)]; exact h _ w' hs h' hQ
theorem zPF {kk:Value→K} (h:∀ u,G dl n ((d,u)::σ) (kk u) (Dx P ops Q S ds (i::done) t)) (hi:ops[i]? = some o:=by rfl) (hd:o.dst = some d:=by rfl) (hw:wants ops σ o = some true:=by rfl) (hp:WC P σ o k kk:=by exact zBy) (hK:okK ops S ds done i:=by exact zAH)
  (hn:Nat.ble (d + 1) n = true:=by rfl) (nd:xV o.op = false:=by rfl):G dl n σ k (Ox P ops Q S ds done i 0 t):=fun a w hs hk=>by
 obtain ⟨f,args,w',hp,hc⟩:=hp w hk
 refine jD hs hi hw fun hQ=>(zB0 (r:=none) hs nd hp hc fun v w1 h'=>⟨hK.keep w w1,?_⟩)
 rw [hd,jE (m:=0)]; exact h v _ w1 (hs.put (Nat.le_of_ble_eq_true hn) _) h' hQ
theorem zOB {kk:Value→K} (h:∀ u,G dl n σ (kk u) (Dx P ops Q S ds (i::done) t)) (hi:ops[i]? = some o:=by rfl) (hd:o.dst = none:=by rfl) (hw:wants ops σ o = some true:=by rfl) (hp:WC P σ o k kk:=by exact zBy) (hK:okK ops S ds done i:=by exact zAH)
  (nd:xV o.op = false:=by rfl):G dl n σ k (Ox P ops Q S ds done i 0 t):=fun a w hs hk=>by
 obtain ⟨f,args,w',hp,hc⟩:=hp w hk
 refine jD hs hi hw fun hQ=>(zB0 (r:=none) hs nd hp hc fun v w1 h'=>⟨hK.keep w w1,?_⟩)
 rw [hd,jE (m:=0)]; exact h v _ w1 hs h' hQ
theorem zPG {kk:Value→K} (h:∀ u,G dl n ((d,u)::σ) (kk u) (Dx P ops Q S ds (i::done) t)) (hi:ops[i]? = some o:=by rfl) (hd:o.dst = some d:=by rfl) (hw:wants ops σ o = some true:=by rfl) (hp:WY P σ o k kk:=by exact zNy rfl rfl rfl) (hK:okK ops S ds done i:=by exact zAH)
  (hn:Nat.ble (d + 1) n = true:=by rfl) (nd:xV o.op = false:=by rfl):G dl n σ k (Ox P ops Q S ds done i 0 t):=fun a w hs hk=>by
 obtain ⟨y,args,hp,hc⟩:=hp w hk
 refine jD hs hi hw fun hQ=>(zGk hs nd hp hc fun v w1 h'=>⟨hK.keep w w1,?_⟩)
 rw [hd,jE (m:=0)]; exact h v _ w1 (hs.put (Nat.le_of_ble_eq_true hn) _) h' hQ
theorem zE5 (h:∀ x,G dl n ((d,vx x)::σ) (Al S (k' x)) (Dx P ops Q S ds (i::done) t)) (hi:ops[i]? = some o:=by rfl) (hd:o.dst = some d:=by rfl) (hw:wants ops σ o = some true:=by rfl) (hp:WE P σ o k vx (fun x=>Sv S (k' x)):=by exact zBA)
  (hn:Nat.ble (d + 1) n = true:=by rfl) (nd:xV o.op = false:=by rfl):G dl n σ (Al S k) (Ox P ops Q S ds done i 1 t):=fun a w hs ⟨_,hk⟩=>by
 obtain ⟨x,w',hp,hS,h'⟩:=hp w hk
 refine jD hs hi hw fun hQ=>(uQ (r:=none) hs nd hp ⟨fun _ _ _=>hS,?_⟩)
 rw [hd,jE (m:=0)]; exact h x _ w' (hs.put (Nat.le_of_ble_eq_true hn) _) ⟨hS,h'⟩ hQ
theorem zM9 (h:∀ x,G dl n σ (Al S (k' x)) (Dx P ops Q S ds (i::done) t)) (hi:ops[i]? = some o:=by rfl) (hd:o.dst = none:=by rfl) (hw:wants ops σ o = some true:=by rfl) (hp:WE P σ o k vx (fun x=>Sv S (k' x)):=by exact zBA)
  (nd:xV o.op = false:=by rfl):G dl n σ (Al S k) (Ox P ops Q S ds done i 1 t):=fun a w hs ⟨_,hk⟩=>by
 obtain ⟨x,w',hp,hS,h'⟩:=hp w hk
 refine jD hs hi hw fun hQ=>(uQ (r:=none) hs nd hp ⟨fun _ _ _=>hS,?_⟩)
 rw [hd,jE (m:=0)]; exact h x _ w' hs ⟨hS,h'⟩ hQ
theorem zMM (h:G dl n σ (Al S k1) (Dx P ops Q S ds (i::done) t)) (hi:ops[i]? = some o:=by rfl) (hd:o.dst = none:=by rfl) (hw:wants ops σ o = some true:=by rfl) (hp:WK P σ o k (Sv S k1):=by exact zFm)
  (nd:xV o.op = false:=by rfl):G dl n σ (Al S k) (Ox P ops Q S ds done i 1 t):=fun a w hs ⟨_,hk⟩=>by
 obtain ⟨w',hp,hS,h'⟩:=hp w hk
 refine jD hs hi hw fun hQ=>(zFn (r:=none) hs nd hp ⟨fun _ _ _=>hS,?_⟩)
 rw [hd,jE (m:=0)]; exact h _ w' hs ⟨hS,h'⟩ hQ
def SvA (S:World→Prop) (kk:Value→K) (kS:Value→K):Prop:=∀ u w,kk u w→S w∧kS u w
theorem zOC {v0:Value} {k:K}:SvA S (vP v0 (Sv S k)) (vP v0 k):=fun _ _ ⟨h,hS,hk⟩=>⟨hS,h,hk⟩
theorem zOD {α:Type} {c:α→Value} {k:α→K}:SvA S (yt c fun x=>Sv S (k x)) (yt c k):=fun _ _ ⟨x,h,hS,hk⟩=>⟨hS,x,h,hk⟩
theorem zOE {α β:Type} {c:α→β→Value} {k:α→β→K}:SvA S (vD c fun x y=>Sv S (k x y)) (vD c k):=fun _ _ ⟨x,y,h,hS,hk⟩=>⟨hS,x,y,h,hk⟩
theorem zOF {α β γ:Type} {c:α→β→γ→Value} {k:α→β→γ→K}:SvA S (zAE c fun x y z=>Sv S (k x y z)) (zAE c k):=fun _ _ ⟨x,y,z,h,hS,hk⟩=>⟨hS,x,y,z,h,hk⟩
theorem zOG {kk kS:Value→K} (h:∀ u,G dl n ((d,u)::σ) (Al S (kS u)) (Dx P ops Q S ds (i::done) t)) (hi:ops[i]? = some o:=by rfl) (hd:o.dst = some d:=by rfl) (hw:wants ops σ o = some true:=by rfl) (hp:WC P σ o k kk:=by exact zBy)
  (hS:SvA S kk kS:=by first | exact zOD | exact zOC | exact zOE | exact zOF) (hn:Nat.ble (d + 1) n = true:=by rfl) (nd:xV o.op = false:=by rfl):G dl n σ (Al S k) (Ox P ops Q S ds done i 1 t):=fun a w hs ⟨_,hk⟩=>by
 obtain ⟨f,args,w',hp,hc⟩:=hp w hk
 refine jD hs hi hw fun hQ=>(zB0 (r:=none) hs nd hp hc fun v w1 h'=>⟨fun _ _ _=>(hS v w1 h').1,?_⟩)
 rw [hd,jE (m:=0)]; exact h v _ w1 (hs.put (Nat.le_of_ble_eq_true hn) _) (hS v w1 h') hQ
theorem zE6 (h:∀ x,G dl n ((d,vx x)::σ) (k' x) (Dx P ops Q S ds (i::done) t)) (hi:ops[i]? = some o:=by rfl) (hd:o.dst = some d:=by rfl) (hw:wants ops σ o = some true:=by rfl) (hp:WR P σ o k vx k':=by exact zA9)
  (hn:Nat.ble (d + 1) n = true:=by rfl) (nd:xV o.op = false:=by rfl):G dl n σ k (Ox P ops Q S ds done i 2 t):=fun a w hs hk=>by
 obtain ⟨x,hp,h'⟩:=hp w hk
 refine jD hs hi hw fun hQ=>(uQ (r:=none) hs nd hp ⟨fun _ _ h=>h,?_⟩)
 rw [hd,jE (m:=0)]; exact h x _ w (hs.put (Nat.le_of_ble_eq_true hn) _) h' hQ
theorem zCe (h:∀ x,G dl n ((d,vx x)::σ) (Al S (k' x)) (Dx P ops Q S ds (i::done) t)) (hi:ops[i]? = some o:=by rfl) (hd:o.dst = some d:=by rfl) (hw:wants ops σ o = some true:=by rfl) (hp:WR P σ o k vx k':=by exact zA9)
  (hn:Nat.ble (d + 1) n = true:=by rfl) (nd:xV o.op = false:=by rfl):G dl n σ (Al S k) (Ox P ops Q S ds done i 2 t):=fun a w hs ⟨hS,hk⟩=>by
 obtain ⟨x,hp,h'⟩:=hp w hk
 refine jD hs hi hw fun hQ=>(uQ (r:=none) hs nd hp ⟨fun _ _ h=>h,?_⟩)
 rw [hd,jE (m:=0)]; exact h x _ w (hs.put (Nat.le_of_ble_eq_true hn) _) ⟨hS,h'⟩ hQ
end
variable {k0:K} {id:Nat}
theorem zJv (h:G dl n σ k0 (Dx P l.toArray Q Any ds [] t)) (hh:DH id 0 ds t:=by assumption) (hQ:jH Q:=by exact zBf) [hm:MX P]:G dl n σ (Dr k0) (Cx none P (.region id l.toArray true) Q):=fun a w hs ⟨w1,hw,hk⟩=>by
 subst hw
 have h1:=h a _ hs hk hQ
 refine wpIn_region_any hm.h (jN (S:=Any) (ds:=ds) _ _ _ _ ?_)
 rw [zFp]; exact h1
theorem zJw (h:∀ w1,G dl n σ (Al (Is w1) k0) (Dx P l.toArray Q (Is w1) ds [] t)) (hh:DH id 1 ds t:=by assumption) (hQ:jH Q:=by exact zBf) [hm:MX P]:G dl n σ (Dr k0) (Cx none P (.region id l.toArray true) Q):=fun a w hs ⟨w1,hw,hk⟩=>by
 subst hw
 have h1:=h _ a _ hs ⟨Is.intro _,hk⟩ hQ
 refine wpIn_region_any hm.h (jN (S:=Is { w with drawn:=w.drawn + 1 }) (ds:=ds) _ _ _ _ ?_)
 rw [zFp]; exact h1
theorem zJx {kS:(World→Prop)→K} (h:∀ S,G dl n σ (Al S (kS S)) (Dx P l.toArray Q S ds [] t)) (hh:DH id 2 ds t:=by assumption) (hQ:jH Q:=by exact zBf) [hm:MX P]:G dl n σ (Dr (qx kS)) (Cx none P (.region id l.toArray true) Q):=fun a w hs ⟨w1,hw,S,hS,hk⟩=>by
 subst hw
 have h1:=h S a _ hs ⟨hS,hk⟩ hQ
 refine wpIn_region_any hm.h (jN (S:=S) (ds:=ds) _ _ _ _ ?_)
 rw [zFp]; exact h1
def Sx (P:Program) (ops:Array Oper) (Q:Exit→Act→World→Prop) (l:List Oper):Act→World→Prop:=fun a w=>wpStill P ops w (fun a'=>Q .normal a' w) l a
theorem zJy (h:G [] n σ k0 (Sx P l.toArray Q l)) [hm:MX P] (hB:Region.lexB .any l.toArray = true:=by as_aux_lemma=>kernel_rfl):G [] n σ (Dr k0) (Cx none P (.region id l.toArray true) Q):=fun a w hs ⟨w1,hw,hk⟩=>by
 refine wpIn_wide.2 (zKr hm.h hB hw (h a w1 hs hk))
theorem zDS {d:Nat} (h:G [] n ((d,v)::σ) k (Sx P ops Q l)) (hd:o.dst = some d:=by rfl) (hw:wants ops σ o = some true:=by rfl) (hp:Pure P σ o v:=by exact zFj) (hn:Nat.ble (d + 1) n = true:=by rfl):G [] n σ k (Sx P ops Q (o::l)):=fun a w hs hk=>
 zLq hs.nil hw (zMa hs.nil rfl hd (Nat.le_of_ble_eq_true hn) hp fun a h'=>h a w h'.D hk)
theorem zOH {d:Nat} (h:G [] n ((d,undef)::σ) k (Sx P ops Q l)) (hd:o.dst = some d:=by rfl) (hw:wants ops σ o = some false:=by rfl) (hn:Nat.ble (d + 1) n = true:=by rfl):G [] n σ k (Sx P ops Q (o::l)):=fun a w hs hk=>
 zO6 hs.nil hw hd (Nat.le_of_ble_eq_true hn) fun a h'=>h a w h'.D hk
section
variable {α:Type} {vx:α→Value} {k':α→K} {d:Nat}
theorem zMN (hr:WR P σ o k vx k') (h:∀ x,G [] n ((d,vx x)::σ) (k' x) (Sx P ops Q l)) (hd:o.dst = some d) (hw:wants ops σ o = some true) (hn:Nat.ble (d + 1) n = true):G [] n σ k (Sx P ops Q (o::l)):=fun a w hs hk=>by
 obtain ⟨x,hp,h'⟩:=hr w hk
 exact zLq hs.nil hw (zLp hs.nil rfl hd (Nat.le_of_ble_eq_true hn) hp fun a hs'=>h x a w hs'.D h')
theorem zAt (h:∀ x,G [] n ((d,vx x)::σ) (k' x) (Sx P ops Q l)) (hd:o.dst = some d:=by rfl) (hw:wants ops σ o = some true:=by rfl) (hp:WP P σ o k vx k':=by exact zDg) (hn:Nat.ble (d + 1) n = true:=by rfl):G [] n σ k (Sx P ops Q (o::l)):=zMN hp.wr h hd hw hn
theorem zE7 (h:∀ x,G [] n ((d,vx x)::σ) (k' x) (Sx P ops Q l)) (hd:o.dst = some d:=by rfl) (hw:wants ops σ o = some true:=by rfl) (hp:WR P σ o k vx k':=by exact zA9) (hn:Nat.ble (d + 1) n = true:=by rfl):G [] n σ k (Sx P ops Q (o::l)):=zMN hp h hd hw hn
end
theorem zNA {b:Bool} {x y:K} (h1:b = true→G dl n σ x (Sx P ops Q (o::l))) (h2:b = false→G dl n σ y (Sx P ops Q (o::l))) (hg:gslot ops σ o = some (.bool b):=by rfl):G dl n σ (Ite b x y) (Sx P ops Q (o::l)):=fun a w hs hk=>by
 cases b
 ·exact h2 rfl a w hs (hk.2 rfl)
 ·exact h1 rfl a w hs (hk.1 rfl)
theorem zNB (h:G [] n σ k (Ex Q .normal)):G [] n σ k (Sx P ops Q []):=fun a w hs hk=>h a w hs hk
end
end
section
open Go
def zGn:Exit→Code
 | .exit i=>.exit i
 | _=>.ret
def zHV (l:Nat) (r:Loop) (k:K):K:=fun w=>w.heap[l]? = some (.loop r)∧k (w.putObj l (.loop { r with state:=.busy }))
def zJz (l:Nat) (r:Loop) (J:Exit) (k:K):K:=fun w=>w.heap[l]? = some (.loop r)∧k (w.putObj l (.loop { r with state:=.done,pending:=some (zGn J) }))
def YN (kN kJ:K):Value→K:=fun v w=>(v = .bool true∧kN w)∨(v = .bool false∧kJ w)
def vI {α:Type} (P:Program) (fv:Value) (J:Exit) (cX:α→List Value) (body:(K→K)→K→K→α→K) (after afterJ:Nat→K):K:=fun w=>
 ∃ g cs,fv = .func (.func g) #[] cs∧callable P g = true ∧
  ∀ (r:Loop) (w1:World),r.state = .ready→r.pending = none→r.defers = w.heap.size→w1 = (w.alloc (.deferred (some []))).alloc (.loop r) →
   (∀ (x:α) (kN kJ:K) (W:World),W.heap[w.heap.size + 1]? = some (.loop r) →
    body (zHV (w.heap.size + 1) r) (zHS (w.heap.size + 1) { r with state:=.busy } kN) (zJz (w.heap.size + 1) { r with state:=.busy } J kJ) x W →
    YieldAt Fence.wide 0 P (w.heap.size + 1) (cX x).toArray W (Ret (YN kN kJ))) →
   Calls P g (yv (w.heap.size + 1)::cs.toList).toArray w1 (Ret fun _ w3=>
    (w3.heap[w.heap.size + 1]? = some (.loop r)∧after w.heap.size (w3.putObj (w.heap.size + 1) (.loop { r with state:=.exhausted }))) ∨
    (w3.heap[w.heap.size + 1]? = some (.loop { r with state:=.done,pending:=some (zGn J) })∧afterJ w.heap.size (w3.putObj (w.heap.size + 1) (.loop { r with state:=.exhausted,pending:=some (zGn J) }))))
def FQ:Exit→Act→World→Prop:=fun _ _ _=>False
def RQ (J:Exit) (kN kJ:K):Exit→Act→World→Prop:=fun e _ w=>match e with
 | .normal=>kN w
 | .ret=>J = .ret∧kJ w
 | .exit i=>J = .exit i∧kJ w
 | _=>False
def Bx (kb k:K) (r:Option Nat) (P:Program) (body:Code) (Q:Exit→Act→World→Prop):Act→World→Prop:=fun a w=>k w∧∀ w,kb w→body.wpIn (fe r) 0 P Q a w
def Bj (BG:K→K) (r:Option Nat) (P:Program) (body:Code) (Q:Exit→Act→World→Prop):Act→World→Prop:=fun a w=>∃ k,BG k w∧∀ w,k w→body.wpIn (fe r) 0 P Q a w
def zNC:List Nat→List Value→List (Nat×Value)→List (Nat×Value)
 | p::ps,v::vs,σ=>zNC ps vs ((p,v)::σ)
 | _,_,σ=>σ
section
variable {P:Program} {dl:List Deferred} {n:Nat} {σ τ:List (Nat×Value)} {k kb:K} {r:Option Nat} {Q:Exit→Act→World→Prop} {body assign:Code} {a:Act} {w:World}
theorem zPH (h:G dl n σ kb (Cx r P body Q)):G dl n σ k (Bx kb k r P body Q):=fun a _ hs hk=>⟨hk,fun w hk=>h a w hs hk⟩
theorem zPI {BG:K→K} (h:G dl n σ k (Cx r P body Q)):G dl n σ (BG k) (Bj BG r P body Q):=fun a w hs hk=>⟨k,hk,fun w hk=>h a w hs hk⟩
theorem zPJ {J:Exit} {kJ:K}:G dl n σ k (Ex (RQ J k kJ) .normal):=fun _ _ _ hk=>hk
theorem zPK {kN:K}:G dl n σ k (Ex (RQ .ret kN k) .ret):=fun _ _ _ hk=>⟨rfl,hk⟩
theorem zPL {kN:K} {i:Nat}:G dl n σ k (Ex (RQ (.exit i) kN k) (.exit i)):=fun _ _ _ hk=>⟨rfl,hk⟩
theorem zE8:∀ (ps:List Nat) (vs:List Value) (σ:List (Nat×Value)) (t:Array Value),(ps.all fun p=>Nat.ble (p + 1) n) = true→Slots { tmps:=t,defers:=[] } n σ →
  Slots { tmps:=(ps.zip vs).foldl (fun t p=>t.setIfInBounds p.1 p.2) t,defers:=[] } n (zNC ps vs σ)
 | [],_,_,_,_,h=>h
 | p::ps,[],_,_,_,h=>h
 | p::ps,v::vs,σ,t,hp,h=>by
  simp only [List.all_cons,Bool.and_eq_true] at hp
  have h1:=h.put (Nat.le_of_ble_eq_true hp.1) v
  exact zE8 ps vs _ _ hp.2 h1
theorem zIo {α:Type} {g:Operand} {ps:List Tmp} {fv:Value} {J:Exit} {cX:α→List Value} {bk:(K→K)→K→K→α→K} {after afterJ:Nat→K}
  (h1:∀ (l:Nat) (BG:K→K) (KN KJ:K) (x:α),G [] n (zNC ps (cX x) σ) (bk BG KN KJ x) (Cx (some l) P assign (Exit.then (Bj BG (some l) P body (RQ J KN KJ)) FQ)))
  (h2:∀ D,G (zAF D) n σ (after D) (Ex Q .normal)) (h3:∀ D,G (zAF D) n σ (afterJ D) (Ex Q J)) (hg:ev σ g = some fv:=by rfl) (hp:(ps.all fun p=>Nat.ble (p + 1) n) = true:=by rfl) (hlen:∀ x,(cX x).length = ps.length:=by exact fun _=>rfl) (hJ:J = .ret∨∃ i,J = .exit i:=by first | exact .inl rfl | exact .inr ⟨_,rfl⟩) :
  G [] n σ (vI P fv J cX bk after afterJ) (Cx none P (.rangeFunc g ps.toArray assign body) Q):=fun a w hs ⟨gf,cs,hfv,hcb,h⟩=>by
 show (Code.rangeFunc g ps.toArray assign body).wpIn Fence.wide 0 P Q a w
 refine wpIn_rangeFunc fun fn hfn=>?_
 obtain ⟨r,hr⟩:∃ r:Loop,r = { state:=.ready,pending:=none,fn,tmps:=a.tmps,params:=ps.toArray,assign,body,defers:=w.heap.size }:=⟨_,rfl⟩
 have hh:=h r _ (by rw [hr]) (by rw [hr]) (by rw [hr]) rfl
 refine ⟨w.heap.size + 1,zAF w.heap.size,(w.alloc (.deferred (some []))).alloc (.loop r),{ target:=.fn (.func gf) cs,args:=#[.func (.yield (w.heap.size + 1)) #[] #[]] },(w.alloc (.deferred (some []))).alloc (.loop r),gf,
  (yv (w.heap.size + 1)::cs.toList).toArray,(w.alloc (.deferred (some []))).alloc (.loop r),?_,?_,fun _ _=>trivial,?_,(fun h=>by cases h),?_⟩
 ·rw [hr]; exact run_enterLoop_outer _ _ _ _ _
 ·have he:a.eval g = .func (.func gf) #[] cs:=by rw [← hfv]; exact hs.1.ev hg
  simp only [resolve,he]
  simp [go_sem]
 ·simp [invoke,jL hcb]
 ·refine zAV zA8 rfl ((hh ?_).mono fun e w3 he=>?_)
  ·intro x kN kJ W hl hb
   refine ⟨fn,_,assign,body,(run_yield (P:=P) (args:=(cX x).toArray) hl (by rw [hr]; simp [hlen])).trans (by rw [hr]),?_⟩
   refine roundIn_of_wpIn trivial ?_
   have hs1:=zE8 ps (cX x) σ a.tmps hp (show Slots { tmps:=a.tmps,defers:=[] } n σ from by have:=hs.1; exact this)
   have h4:=h1 (w.heap.size + 1) _ _ _ x { tmps:=(ps.zip (cX x)).foldl (fun t p=>t.setIfInBounds p.1 p.2) a.tmps,defers:=[] } W ⟨hs1,rfl⟩ hb
   have h5:assign.wpIn (Fence.wide.inRound (w.heap.size + 1)) 0 P (Exit.then (Bj (zHV (w.heap.size + 1) r) (some (w.heap.size + 1)) P body (RQ J (zHS (w.heap.size + 1) { r with state:=.busy } kN) (zJz (w.heap.size + 1) { r with state:=.busy } J kJ))) FQ)
     { tmps:=(ps.toArray.zip (cX x).toArray).foldl (fun t p=>t.setIfInBounds p.1 p.2) a.tmps,defers:=[] } W:=by
    have:(ps.toArray.zip (cX x).toArray).foldl (fun t p=>t.setIfInBounds p.1 p.2) a.tmps = (ps.zip (cX x)).foldl (fun t p=>t.setIfInBounds p.1 p.2) a.tmps:=by simp
    rw [this]; exact h4
   refine wpIn_mono h5 fun e a2 w2 hq=>?_
   cases e with
   | normal=>
    obtain ⟨kk,hk,hbd⟩:=hq
    refine ⟨_,run_beginRound hk.1 (by rw [hr]),?_⟩
    refine wpIn_mono (hbd _ hk.2) fun e a3 w3 hq=>?_
    cases e with
    | normal=>
     obtain ⟨h3,h4⟩:=hq
     exact ⟨_,_,run_endRound none h3,.inl ⟨rfl,h4⟩⟩
    | ret=>
     obtain ⟨rfl,h3,h4⟩:=hq
     exact ⟨_,_,run_endRound (some .ret) h3,.inr ⟨rfl,h4⟩⟩
    | exit i=>
     obtain ⟨rfl,h3,h4⟩:=hq
     exact ⟨_,_,run_endRound (some (.exit i)) h3,.inr ⟨rfl,h4⟩⟩
    | goto t=>exact hq.elim
    | panic c=>exact hq.elim
    | outgrown=>exact hq.elim
   | _=>exact hq.elim
  ·cases e with
   | returned v=>
    have hn:r.pending = none:=by rw [hr]
    rcases he with ⟨h3',h4⟩ | ⟨h3',h4⟩
    ·refine ⟨_,_,run_endLoop h3' (by rw [hr]; simp),?_⟩
     have h5:=h2 _ { a with defers:=zAF w.heap.size++a.defers } _ ⟨hs.1,by simp [hs.2,zAF]⟩ h4
     rw [hn] at h5 ⊢
     exact h5
    ·refine ⟨_,_,run_endLoop h3' (by simp),?_⟩
     have h5:=h3 _ { a with defers:=zAF w.heap.size++a.defers } _ ⟨hs.1,by simp [hs.2,zAF]⟩ h4
     rcases hJ with rfl | ⟨i,rfl⟩
     ·exact wpIn_ret h5
     ·exact wpIn_exit h5
   | panicked c=>exact he.elim
   | outgrown=>exact he.elim
theorem zIp {α:Type} {g:Operand} {p:Tmp} {fv:Value} {cX:α→Value} {bk:K→α→K} {after:Nat→K}
  (h1:∀ (l:Nat) (KN:K) (x:α) (k1:K),G [] n ((p,cX x)::σ) k1 (Cx (some l) P assign (Exit.then (Bx (bk KN x) k1 (some l) P body (RQ .normal KN Dead)) FQ)))
  (h2:∀ D,G (zAF D) n σ (after D) (Ex Q .normal)) (hg:ev σ g = some fv:=by rfl) (hp:Nat.ble (p + 1) n = true:=by rfl) :
  G [] n σ (vE P fv cX bk after) (Cx none P (.rangeFunc g #[p] assign body) Q):=fun a w hs ⟨gf,cs,hfv,hcb,h⟩=>by
 show (Code.rangeFunc g #[p] assign body).wpIn Fence.wide 0 P Q a w
 refine wpIn_rangeFunc fun fn hfn=>?_
 obtain ⟨r,hr⟩:∃ r:Loop,r = { state:=.ready,pending:=none,fn,tmps:=a.tmps,params:=#[p],assign,body,defers:=w.heap.size }:=⟨_,rfl⟩
 have hh:=h r _ (by rw [hr]) (by rw [hr]) (by rw [hr]) rfl
 refine ⟨w.heap.size + 1,zAF w.heap.size,(w.alloc (.deferred (some []))).alloc (.loop r),{ target:=.fn (.func gf) cs,args:=#[.func (.yield (w.heap.size + 1)) #[] #[]] },(w.alloc (.deferred (some []))).alloc (.loop r),gf,
  (yv (w.heap.size + 1)::cs.toList).toArray,(w.alloc (.deferred (some []))).alloc (.loop r),?_,?_,fun _ _=>trivial,?_,(fun h=>by cases h),?_⟩
 ·rw [hr]; exact run_enterLoop_outer _ _ _ _ _
 ·have he:a.eval g = .func (.func gf) #[] cs:=by rw [← hfv]; exact hs.1.ev hg
  simp only [resolve,he]
  simp [go_sem]
 ·simp [invoke,jL hcb]
 ·refine zAV zA8 rfl ((hh ?_).mono fun e w3 he=>?_)
  ·intro x kN W hl hb
   refine ⟨fn,_,assign,body,(run_yield (P:=P) (args:=#[cX x]) hl (by rw [hr]; rfl)).trans (by rw [hr]),?_⟩
   refine roundIn_of_wpIn trivial ?_
   have hs1:qw [] { tmps:=a.tmps.setIfInBounds p (cX x),defers:=[] } n ((p,cX x)::σ):=by
    have:=hs.1.put (Nat.le_of_ble_eq_true hp) (cX x)
    exact ⟨this,rfl⟩
   have h4:=h1 (w.heap.size + 1) (zHS (w.heap.size + 1) { r with state:=.busy } kN) x (fun w=>w = W) _ W hs1 rfl
   refine wpIn_mono (show assign.wpIn (Fence.wide.inRound (w.heap.size + 1)) 0 P _ _ W from by simp only [Cx] at h4; simpa using h4) fun e a2 w2 hq=>?_
   cases e with
   | normal=>
    obtain ⟨rfl,hbd⟩:=hq
    refine ⟨_,run_beginRound hl (by rw [hr]),?_⟩
    refine wpIn_mono (hbd _ hb) fun e a3 w3 hq=>?_
    cases e with
    | normal=>
     obtain ⟨h3,h4⟩:=hq
     exact ⟨_,_,run_endRound none h3,rfl,h4⟩
    | ret=>exact absurd hq.1 (by simp)
    | exit i=>exact absurd hq.1 (by simp)
    | _=>exact hq.elim
   | _=>exact hq.elim
  ·cases e with
   | returned v=>
    have hn:r.pending = none:=by rw [hr]
    obtain ⟨h3,h4⟩:=he
    refine ⟨_,_,run_endLoop h3 (by rw [hr]; simp),?_⟩
    have h5:=h2 _ { a with defers:=zAF w.heap.size++a.defers } _ ⟨hs.1,by simp [hs.2,zAF]⟩ h4
    rw [hn] at h5 ⊢
    exact h5
   | panicked c=>exact he.elim
   | outgrown=>exact he.elim
end
end
section
open Go
def opb:Builtin→Nat
 | .len=>20
 | .max | .min=>21
 | _=>22
def opc:Op→Nat
 | .move _ | .assign _=>0
 | .pick _ _ _=>1
 | .nilCheck _=>2
 | .fieldAddr _ _ _=>3
 | .extract _ _=>4
 | .makeFunc _ _ _=>5
 | .unOp o _ _=>match o with
  | .not=>6
  | _=>7
 | .binOp o _ _ _ _=>match o with
  | .add | .sub | .mul | .and | .or | .xor=>8
  | .shl | .shr | .quo | .rem | .andNot=>9
  | _=>10
 | .convert _ _ _=>11
 | .build _ _=>12
 | .load _ _=>13
 | .lookup _ _ _ _=>14
 | .alloc _ | .box _ _=>15
 | .buildSlice _ _ _=>16
 | .store _ _ _=>17
 | .mapUpdate _ _ _ _=>18
 | .call c=>match c.callee with
  | .builtin b=>opb b
  | _=>19
 | .makeMap _ _ | .makeSlice _ _ _=>23
 | .range _ _ | .next _ _ | .entry _=>24
 | .makeInterface _ _=>25
 | .field _ _ _=>26
 | .index _ _ _ | .indexAddr _ _ _=>27
 | .slice _ _ _ _ _=>28
 | _=>99
def opi (ops:Array Oper) (i:Nat):Nat:=match ops[i]? with
 | some o=>opc o.op
 | none=>98
section
variable {P:Program} {dl:List Deferred} {n:Nat} {σ:List (Nat×Value)} {k:K} {r:Option Nat} {ops:Array Oper} {Q:Exit→Act→World→Prop} {l:List Oper} {o:Oper} {S:World→Prop} {ds done is:List Nat} {i tag:Nat} {t:Scr} {c x y:Code} {e:Exit} {kk:Value→K} {u:Operand}
theorem zOI (h:G dl n σ k (Tx r P ops Q l)):G dl n σ k (Tx r P ops Q l):=h
theorem zOJ (h:G dl n σ k (Cx r P c Q)):G dl n σ k (Cx r P c Q):=h
theorem zOK (h:G dl n σ k (Ex Q e)):G dl n σ k (Ex Q e):=h
theorem zOL {rs:List ResultVar} {vs:List Value} (h:G dl n σ k (Rx P kk rs vs)):G dl n σ k (Rx P kk rs vs):=h
theorem zOM {q:K} (h:G dl n σ k (Fx q)):G dl n σ k (Fx q):=h
theorem zON (h:G dl n σ k (Dx P ops Q S ds done t)):G dl n σ k (Dx P ops Q S ds done t):=h
theorem zOO (h:G dl n σ k (Ox P ops Q S ds done i tag t)):G dl n σ k (Ox P ops Q S ds done i tag t):=h
theorem zOP (h:G dl n σ k (Sx P ops Q l)):G dl n σ k (Sx P ops Q l):=h
theorem zOQ {α:Type} {S:α→List (Nat×Value)} {X:α→K} (h:G dl n σ k (Lx dl n S X)):G dl n σ k (Lx dl n S X):=h
theorem zND (h:G dl n σ k (Cx r P (.seq x y) Q)):G dl n σ k (Cx r P (.seq x y) Q):=h
theorem zLQ (h:G dl n σ k (Cx r P (.cond u x y) Q)):G dl n σ k (Cx r P (.cond u x y) Q):=h
theorem zLR (h:G dl n σ k (Cx r P (.region i ops true) Q)):G dl n σ k (Cx r P (.region i ops true) Q):=h
theorem uR (c:Nat) (h:G dl n σ k (Tx r P ops Q (o::l))) (hc:opc o.op = c):G dl n σ k (Tx r P ops Q (o::l)):=h
theorem j4 (c:Nat) (h:G dl n σ k (Sx P ops Q (o::l))) (hc:opc o.op = c):G dl n σ k (Sx P ops Q (o::l)):=h
theorem j5 (c:Nat) (h:G dl n σ k (Dx P ops Q S ds done (.s (i::is) t))) (hc:opi ops i = c):G dl n σ k (Dx P ops Q S ds done (.s (i::is) t)):=h
theorem zCf (c:Nat) (h:G dl n σ k (Ox P ops Q S ds done i tag t)) (hc:opi ops i = c):G dl n σ k (Ox P ops Q S ds done i tag t):=h
theorem zOR (h:G dl n σ k (Tx r P ops Q (o::l))) (hc:o.guard.isSome = true):G dl n σ k (Tx r P ops Q (o::l)):=h
theorem zOS (h:G dl n σ k (Sx P ops Q (o::l))) (hc:o.guard.isSome = true):G dl n σ k (Sx P ops Q (o::l)):=h
theorem zNE (h:G dl n σ k (Dx P ops Q S ds done (.s (i::is) t))) (hc:(ops[i]?).map (fun o=>o.guard.isSome) = some true):G dl n σ k (Dx P ops Q S ds done (.s (i::is) t)):=h
theorem zIq {b:Bool} {kx ky:K} (h1:G dl n σ kx (Cx r P x Q)) (h2:G dl n σ ky (Cx r P y Q)) (he:ev σ u = some (.bool b)):G dl n σ (Ite b kx ky) (Cx r P (.cond u x y) Q):=zLH h1 h2 he
theorem zNF {d:Nat} {u v0:Value} {X1:Act→World→Prop} (h:G dl n ((d,v0)::σ) (Al S k) X1):G dl n ((d,u)::σ) (Al S (vP v0 k u)) X1:=fun a w hs ⟨hS,hu,hk⟩=>h a w (hu ▸ hs) ⟨hS,hk⟩
theorem zJ0 {v:Value} (h:Pure P σ o v:=by first | exact zJF rfl rfl | exact zGO rfl rfl):Pure P σ o v:=h
theorem zJ1 {v:Value} (h:Pure P σ o v:=by first | exact zGP rfl rfl rfl | exact zGQ rfl rfl rfl | exact zGR rfl rfl rfl rfl):Pure P σ o v:=h
theorem zJ2 {v:Value} (h:Pure P σ o v:=by first | exact zLr rfl rfl | exact zJG rfl rfl):Pure P σ o v:=h
theorem zJ3 {v:Value} (h:Pure P σ o v:=by first | exact zBv rfl rfl | exact zDA rfl rfl):Pure P σ o v:=h
theorem zJ4 {v:Value} (h:Pure P σ o v:=by exact zEy rfl rfl rfl):Pure P σ o v:=h
theorem zJ5 {v:Value} (h:Pure P σ o v:=by exact zDx rfl rfl rfl):Pure P σ o v:=h
theorem zJ6 {v:Value} (h:Pure P σ o v:=by exact zL5 rfl rfl):Pure P σ o v:=h
theorem zHW {v:Value} (h:Pure P σ o v:=by first | exact zNg rfl rfl rfl | exact zNh rfl rfl rfl | exact zNi rfl rfl rfl | exact zNj rfl rfl rfl | exact zNk rfl rfl rfl | exact zNl rfl rfl rfl | exact zL6 rfl rfl rfl | exact zL7 rfl rfl rfl | exact zL8 rfl rfl rfl | exact zL9 rfl rfl rfl | exact zMD rfl rfl rfl | exact zME rfl rfl rfl | exact zGY rfl rfl rfl | exact zGZ rfl rfl rfl | exact zH3 rfl rfl rfl | exact zH4 rfl rfl rfl | exact zMB rfl rfl rfl | exact zMC rfl rfl rfl):Pure P σ o v:=h
theorem zHX {v:Value} (h:Pure P σ o v:=by exact zD2 rfl rfl):Pure P σ o v:=h
theorem zHY {v:Value} (h:Pure P σ o v:=by exact zH5 rfl rfl rfl rfl (by kernel_rfl)):Pure P σ o v:=h
theorem zHZ {v:Value} (h:Pure P σ o v:=by first | exact q_len rfl rfl | exact zJS rfl rfl):Pure P σ o v:=h
theorem zHa {v:Value} (h:Pure P σ o v:=by exact zGX rfl rfl):Pure P σ o v:=h
theorem zFs {α:Type} {k:K} {vx:α→Value} {k1:α→K} (h:WP P σ o k vx k1:=by exact zJY rfl rfl):WP P σ o k vx k1:=h
theorem zFt {α:Type} {k:K} {vx:α→Value} {k1:α→K} (h:WP P σ o k vx k1:=by exact zGa (by first | exact zL1 rfl rfl | exact zL2 rfl rfl)):WP P σ o k vx k1:=h
theorem zFu {α:Type} {k:K} {vx:α→Value} {k1:α→K} (h:WP P σ o k vx k1:=by first | exact zGa (by first | exact zLs rfl rfl rfl | exact zLt rfl rfl rfl | exact zLu rfl rfl rfl | exact zLx rfl rfl rfl | exact zNm rfl rfl rfl | exact zLy rfl rfl rfl) | exact zJW rfl rfl rfl):WP P σ o k vx k1:=h
theorem zFv {α:Type} {k:K} {vx:α→Value} {k1:α→K} (h:WP P σ o k vx k1:=by exact zH6 (fun h0=>by first | exact zLz rfl rfl rfl h0 | exact zL0 rfl rfl rfl h0 | exact zLv rfl rfl rfl h0 | exact zLw rfl rfl rfl h0)):WP P σ o k vx k1:=h
theorem zDi {α:Type} {k:K} {vx:α→Value} {k1:α→K} (h:WP P σ o k vx k1:=by exact zJX (zGj rfl rfl rfl)):WP P σ o k vx k1:=h
theorem zDj {α:Type} {k:K} {vx:α→Value} {k1:α→K} (h:WP P σ o k vx k1:=by exact zGa (zD3 rfl rfl)):WP P σ o k vx k1:=h
theorem zDk {α:Type} {k:K} {vx:α→Value} {k1:α→K} (h:WP P σ o k vx k1:=by first | exact zJZ rfl rfl rfl | exact zJX (zE1 rfl rfl)):WP P σ o k vx k1:=h
theorem zDl {α:Type} {k:K} {vx:α→Value} {k1:α→K} (h:WP P σ o k vx k1:=by exact zGa (by first | exact zL3 _ rfl rfl rfl | exact zL4 _ rfl rfl rfl)):WP P σ o k vx k1:=h
theorem zDm {α:Type} {k:K} {vx:α→Value} {k1:α→K} (h:WP P σ o k vx k1:=by exact zJU rfl rfl):WP P σ o k vx k1:=h
theorem zDn {α:Type} {k:K} {vx:α→Value} {k1:α→K} (h:WP P σ o k vx k1:=by first | exact zJT rfl rfl rfl | exact zH8 rfl rfl rfl | exact zH7 rfl rfl rfl):WP P σ o k vx k1:=h
theorem zDo {α:Type} {k:K} {vx:α→Value} {k1:α→K} (h:WP P σ o k vx k1:=by first | exact zJV rfl rfl (by first | exact rfl | exact ⟨_,rfl⟩) (by first | exact rfl | exact ⟨_,rfl⟩) (by first | exact rfl | exact ⟨_,rfl⟩) rfl | exact zH9 rfl rfl (by first | exact rfl | exact ⟨_,rfl⟩) (by first | exact rfl | exact ⟨_,rfl⟩)):WP P σ o k vx k1:=h
theorem zB3 {α:Type} {k:K} {vx:α→Value} {k1:α→K} (h:WR P σ o k vx k1:=by exact zBU (uj rfl rfl)):WR P σ o k vx k1:=h
theorem zB4 {α:Type} {k:K} {vx:α→Value} {k1:α→K} (h:WR P σ o k vx k1:=by first | exact zMF rfl rfl | exact zJa rfl rfl):WR P σ o k vx k1:=h
theorem zB5 {α:Type} {k:K} {vx:α→Value} {k1:α→K} (h:WR P σ o k vx k1:=by exact zBU (zFl rfl rfl rfl)):WR P σ o k vx k1:=h
theorem zB6 {α:Type} {k:K} {vx:α→Value} {k1:α→K} (h:WR P σ o k vx k1:=by exact zBU (zFk rfl rfl)):WR P σ o k vx k1:=h
theorem zFw {α:Type} {k:K} {vx:α→Value} {k1:α→K} (h:WE P σ o k vx k1:=by exact zGe (uj rfl rfl)):WE P σ o k vx k1:=h
theorem zFx {α:Type} {k:K} {vx:α→Value} {k1:α→K} (h:WE P σ o k vx k1:=by first | exact zJd rfl rfl rfl | exact zGc rfl rfl):WE P σ o k vx k1:=h
theorem zFy {α:Type} {k:K} {vx:α→Value} {k1:α→K} (h:WE P σ o k vx k1:=by first | exact zGd rfl rfl rfl rfl (by kernel_rfl) | exact zDB rfl rfl rfl (by kernel_rfl)):WE P σ o k vx k1:=h
theorem zBC {α:Type} {k:K} {vx:α→Value} {k1:α→K} (h:WE P σ o k vx k1:=by exact zGe (by first | exact zEz rfl rfl rfl rfl | exact zIB rfl rfl rfl rfl | exact zE0 rfl rfl rfl rfl | exact zJh rfl rfl rfl | exact zGg rfl rfl rfl)):WE P σ o k vx k1:=h
theorem zFz {α:Type} {k:K} {vx:α→Value} {k1:α→K} (h:WE P σ o k vx k1:=by exact zGe (by first | exact zD4 rfl | exact zBw rfl rfl rfl)):WE P σ o k vx k1:=h
theorem zF0 {α:Type} {k:K} {vx:α→Value} {k1:α→K} (h:WE P σ o k vx k1:=by exact zGe (by first | exact zIC rfl rfl rfl | exact zGh rfl rfl | exact zGi rfl rfl)):WE P σ o k vx k1:=h
theorem zF1 {k k1:K} (h:WK P σ o k k1:=by first | exact zMH rfl rfl rfl | exact zJf rfl rfl rfl):WK P σ o k k1:=h
theorem zF2 {k k1:K} (h:WK P σ o k k1:=by exact zMI (zBx rfl rfl rfl rfl)):WK P σ o k k1:=h
theorem zB7 {k:K} {kk:Value→K} (h:WC P σ o k kk:=by first | exact zIA rfl rfl rfl rfl | exact zGf rfl rfl rfl rfl | exact zMJ rfl rfl rfl):WC P σ o k kk:=h
theorem zLS {S:World→Prop} {α:Type} {k:K} {vx:α→Value} {k1:α→K} (h:WS P S σ o k vx k1:=by exact zGb (uj rfl rfl)):WS P S σ o k vx k1:=h
theorem zLT {S:World→Prop} {α:Type} {k:K} {vx:α→Value} {k1:α→K} (h:WS P S σ o k vx k1:=by first | exact zMG rfl rfl | exact zJb rfl rfl):WS P S σ o k vx k1:=h
theorem zLU {S:World→Prop} {α:Type} {k:K} {vx:α→Value} {k1:α→K} (h:WS P S σ o k vx k1:=by exact zGb (zFl rfl rfl rfl)):WS P S σ o k vx k1:=h
theorem zLV {S:World→Prop} {α:Type} {k:K} {vx:α→Value} {k1:α→K} (h:WS P S σ o k vx k1:=by exact zGb (zFk rfl rfl)):WS P S σ o k vx k1:=h
end
set_option maxRecDepth 100000 in
theorem zn {P:Program} {f:FuncId} {fn:Func} {c:Code} {args:List Value} {kk:Value→K} {k:K} (n:Nat) {w:World} (hk:k w) (hf:P.funcs[f]? = some fn) (hb:fn.body = some c:=by rfl) (hn:fn.ntmps = n:=by rfl) (hl:Nat.ble args.length n = true:=by rfl)
  (h:G [] n (zJu 0 args) k (Cx none P c (uF P fn (Ret kk))):=by
   repeat' first
   | intro _
   | (refine zOI ?_; first
     | refine zMo ?_
     | (refine zOR ?_ rfl; first | refine zNz ?_ | refine zMl ?_)
     | (refine uR 0 ?_ rfl; refine zDQ (hp:=by exact zJ0) ?_)
     | (refine uR 2 ?_ rfl; first | refine zDQ (hp:=by exact zJ2) ?_ | (refine zJl ?_; intro b hb; subst hb) | (refine zJm ?_; intro g fs cs hf cb; subst hf))
     | (refine uR 3 ?_ rfl; refine zDQ (hp:=by exact zJ3) ?_)
     | (refine uR 13 ?_ rfl; refine zD6 (hp:=by exact zB4) ?_)
     | (refine uR 19 ?_ rfl; first | (refine zN0 (hp:=by exact zB7) ?_; intro u; first | refine zK8 ?_ | refine zK7 ?_ | refine zHT ?_ | refine zK9 ?_ | refine zLA ?_ | refine zLB ?_) | refine zD6 (hp:=by exact zBU (zMk rfl rfl rfl)) ?_ | (refine zMn (hp:=by exact zB7) ?_; intro u; first | refine zN2 ?_ | refine zN3 ?_ | refine zN4 ?_ | skip) | (refine zN1 ?_; intro u; first | refine zK8 ?_ | refine zK7 ?_ | refine zHT ?_ | refine zK9 ?_ | refine zLA ?_ | refine zLB ?_))
     | (refine uR 10 ?_ rfl; first | refine zDQ (hp:=by exact zHW) ?_ | refine zAp (hp:=by exact zDi) ?_)
     | (refine uR 8 ?_ rfl; refine zAp (hp:=by exact zFu) ?_)
     | (refine uR 20 ?_ rfl; first | refine zDQ (hp:=by exact zHZ) ?_ | refine zD6 (hp:=by exact zB5) ?_)
     | (refine uR 27 ?_ rfl; refine zAp (hp:=by exact zDn) ?_)
     | (refine uR 4 ?_ rfl; first | refine zDQ (hp:=by exact zJ4) ?_ | refine zAp (hp:=by exact zFs) ?_)
     | (refine uR 17 ?_ rfl; refine zMK (hp:=by exact zF1) ?_)
     | (refine uR 1 ?_ rfl; refine zDQ (hp:=by exact zJ1) ?_)
     | (refine uR 6 ?_ rfl; refine zDQ (hp:=by exact zJ6) ?_)
     | (refine uR 15 ?_ rfl; refine zE2 (hp:=by exact zFx) ?_)
     | (refine uR 16 ?_ rfl; refine zE2 (hp:=by exact zFy) ?_)
     | (refine uR 22 ?_ rfl; first | refine zE2 (hp:=by exact zBC) ?_ | refine zMm (hp:=by exact zBC) ?_)
     | (refine uR 28 ?_ rfl; refine zAp (hp:=by exact zDo) ?_)
     | (refine uR 11 ?_ rfl; first | refine zAp (hp:=by exact zDj) ?_ | refine zDQ (hp:=by exact zHX) ?_ | refine zD6 (hp:=by exact zB3) ?_ | refine zE2 (hp:=by exact zFw) ?_)
     | (refine uR 26 ?_ rfl; first | refine zAp (hp:=by exact zDm) ?_ | refine zDQ (hp:=by exact zHa) ?_)
     | (refine uR 12 ?_ rfl; first | refine zAp (hp:=by exact zDk) ?_ | refine zDQ (hp:=by exact zHY) ?_)
     | (refine uR 5 ?_ rfl; refine zDQ (hp:=by exact zJ5) ?_)
     | (refine uR 7 ?_ rfl; refine zAp (hp:=by exact zFt) ?_)
     | (refine uR 9 ?_ rfl; refine zAp (hp:=by exact zFv) ?_)
     | (refine uR 14 ?_ rfl; first | refine zD6 (hp:=by exact zBU (qU rfl rfl rfl)) ?_ | (refine zD6 (hp:=by exact zCd (qU rfl rfl rfl)) ?_; intro u; refine zHT ?_))
     | (refine uR 18 ?_ rfl; refine zMK (hp:=by exact zF2) ?_)
     | (refine uR 21 ?_ rfl; refine zAp (hp:=by exact zDl) ?_)
     | (refine uR 23 ?_ rfl; refine zE2 (hp:=by exact zFz) ?_)
     | (refine uR 24 ?_ rfl; refine zE2 (hp:=by exact zF0) ?_)
     | (refine uR 25 ?_ rfl; refine zD6 (hp:=by exact zB6) ?_)
     | (refine zMp ?_ ?_ <;> (intro hb; refine zDh ?_; intro a w hs; try rw [hb] at hs; clear hb; revert hs; revert w; revert a; refine zFo ?_)))
   | (refine zOJ ?_; first
     | refine zMt ?_
     | (refine zND ?_; first | (refine zLE ?_; (repeat apply zO7); refine And.intro zB1 (And.intro ?_ ?_)) | refine zMr ?_)
     | refine zIq ?_ ?_ rfl
     | refine zLF ?_
     | refine zMs ?_
     | refine zJo ?_
     | refine zLG ?_
     | refine zLI ?_
     | (refine zLQ ?_; first | refine zIh ?_ | refine zIi ?_)
     | (refine zLR ?_; first | refine zJw ?_ | refine zJv ?_ | refine zJx ?_ | refine zJy ?_)
     | refine zJn ?_
     | refine zIp ?_ ?_
     | refine zIo ?_ ?_ ?_
     | refine zB2 ?_)
   | (refine zOK ?_; first
     | refine zLJ ?_
     | refine zIk ?_
     | refine zIj ?_
     | refine zMv ?_
     | refine zJp ?_
     | refine zJq ?_
     | refine zJr ?_
     | refine zLK ?_
     | refine zMx ?_
     | refine zMy ?_
     | exact zPJ
     | exact zPK
     | exact zPL
     | refine zB2 ?_)
   | exact zLC
   | refine zN5 ?_
   | (refine zOL ?_; first
     | refine zMz ?_
     | refine zM0 ?_
     | refine zLL ?_
     | refine zJt ?_)
   | (refine zOM ?_; first
     | exact zO9
     | exact zO8
     | exact zPA
     | exact zPB
     | exact zPC
     | exact zPD)
   | (refine zON ?_; first
     | refine zM2 ?_
     | refine zM3 ?_
     | refine zPE ?_
     | (refine zLO ?_ ?_ <;> (intro hb; refine zDh ?_; intro a w hs; try rw [hb] at hs; clear hb; revert hs; revert w; revert a; refine zFo ?_))
     | (refine zM4 ?_ ?_ <;> (intro hb; refine zDh ?_; intro a w hs; try rw [hb] at hs; clear hb; revert hs; revert w; revert a; refine zFo ?_))
     | (refine zNE ?_ rfl; first | refine zN6 ?_ | refine zM1 ?_)
     | (refine j5 0 ?_ rfl; refine zDR (hp:=by exact zJ0) ?_)
     | (refine j5 2 ?_ rfl; first | refine zDR (hp:=by exact zJ2) ?_ | (refine zN7 ?_; intro b hb; subst hb) | (refine zJl ?_; intro b hb; subst hb) | (refine zN8 ?_; intro g fs cs hf cb; subst hf) | (refine zJm ?_; intro g fs cs hf cb; subst hf))
     | (refine j5 3 ?_ rfl; refine zDR (hp:=by exact zJ3) ?_)
     | (refine j5 13 ?_ rfl; first | refine zE4 (hp:=by exact zB4) ?_ | refine zIm (hp:=by exact zLT) ?_)
     | (refine j5 10 ?_ rfl; first | refine zDR (hp:=by exact zHW) ?_ | refine jX (hp:=by exact zDi) ?_ | refine zAs (hp:=by exact zDi) ?_)
     | (refine j5 8 ?_ rfl; first | refine jX (hp:=by exact zFu) ?_ | refine zAs (hp:=by exact zFu) ?_)
     | (refine j5 20 ?_ rfl; first | refine zDR (hp:=by exact zHZ) ?_ | refine zE4 (hp:=by exact zB5) ?_ | refine zIm (hp:=by exact zLU) ?_)
     | (refine j5 27 ?_ rfl; first | refine jX (hp:=by exact zDn) ?_ | refine zAs (hp:=by exact zDn) ?_)
     | (refine j5 4 ?_ rfl; first | refine zDR (hp:=by exact zJ4) ?_ | refine jX (hp:=by exact zFs) ?_ | refine zAs (hp:=by exact zFs) ?_)
     | (refine j5 1 ?_ rfl; refine zDR (hp:=by exact zJ1) ?_)
     | (refine j5 6 ?_ rfl; refine zDR (hp:=by exact zJ6) ?_)
     | (refine j5 28 ?_ rfl; first | refine jX (hp:=by exact zDo) ?_ | refine zAs (hp:=by exact zDo) ?_)
     | (refine j5 11 ?_ rfl; first | refine jX (hp:=by exact zDj) ?_ | refine zAs (hp:=by exact zDj) ?_ | refine zDR (hp:=by exact zHX) ?_ | refine zE4 (hp:=by exact zB3) ?_ | refine zIm (hp:=by exact zLS) ?_)
     | (refine j5 26 ?_ rfl; first | refine jX (hp:=by exact zDm) ?_ | refine zAs (hp:=by exact zDm) ?_ | refine zDR (hp:=by exact zHa) ?_)
     | (refine j5 12 ?_ rfl; first | refine jX (hp:=by exact zDk) ?_ | refine zAs (hp:=by exact zDk) ?_ | refine zDR (hp:=by exact zHY) ?_)
     | (refine j5 5 ?_ rfl; refine zDR (hp:=by exact zJ5) ?_)
     | (refine j5 7 ?_ rfl; first | refine jX (hp:=by exact zFt) ?_ | refine zAs (hp:=by exact zFt) ?_)
     | (refine j5 9 ?_ rfl; first | refine jX (hp:=by exact zFv) ?_ | refine zAs (hp:=by exact zFv) ?_)
     | (refine j5 14 ?_ rfl; first | refine zE4 (hp:=by exact zBU (qU rfl rfl rfl)) ?_ | (refine zE4 (hp:=by exact zCd (qU rfl rfl rfl)) ?_; intro u; refine zFr ?_) | refine zIm (hp:=by exact zGb (qU rfl rfl rfl)) ?_ | (refine zIm (hp:=by exact zJc (qU rfl rfl rfl)) ?_; intro u; refine zFr ?_))
     | (refine j5 21 ?_ rfl; first | refine jX (hp:=by exact zDl) ?_ | refine zAs (hp:=by exact zDl) ?_)
     | (refine j5 25 ?_ rfl; first | refine zE4 (hp:=by exact zB6) ?_ | refine zIm (hp:=by exact zLV) ?_)
     | refine zB2 ?_)
   | (refine zOO ?_; first
     | (refine zCf 13 ?_ rfl; first | refine zCe (hp:=by exact zB4) ?_ | refine zE6 (hp:=by exact zB4) ?_)
     | (refine zCf 19 ?_ rfl; first | (refine zOG (hp:=by exact zB7) ?_; intro u; first | refine zM5 ?_ | refine zNF ?_ | refine zFr ?_) | (refine zPF (hp:=by exact zB7) ?_; intro u; first | refine zK8 ?_ | refine zK7 ?_ | refine zHT ?_ | refine zK9 ?_ | refine zLA ?_ | refine zLB ?_) | (refine zOB (hp:=by exact zB7) ?_; intro u; first | refine zN2 ?_ | refine zN3 ?_ | refine zN4 ?_ | skip) | (refine zPG ?_; intro u; first | refine zK8 ?_ | refine zK7 ?_ | refine zHT ?_ | refine zK9 ?_ | refine zLA ?_ | refine zLB ?_))
     | (refine zCf 20 ?_ rfl; first | refine zCe (hp:=by exact zB5) ?_ | refine zE6 (hp:=by exact zB5) ?_)
     | (refine zCf 17 ?_ rfl; first | refine zMM (hp:=by exact zF1) ?_ | refine zOA (hp:=by exact zF1) ?_)
     | (refine zCf 15 ?_ rfl; first | refine zE5 (hp:=by exact zFx) ?_ | refine zIn (hp:=by exact zFx) ?_)
     | (refine zCf 16 ?_ rfl; first | refine zE5 (hp:=by exact zFy) ?_ | refine zIn (hp:=by exact zFy) ?_)
     | (refine zCf 22 ?_ rfl; first | refine zE5 (hp:=by exact zBC) ?_ | refine zIn (hp:=by exact zBC) ?_ | refine zM9 (hp:=by exact zBC) ?_ | refine zN9 (hp:=by exact zBC) ?_)
     | (refine zCf 11 ?_ rfl; first | refine zE5 (hp:=by exact zFw) ?_ | refine zIn (hp:=by exact zFw) ?_ | refine zCe (hp:=by exact zB3) ?_ | refine zE6 (hp:=by exact zB3) ?_)
     | (refine zCf 14 ?_ rfl; first | refine zCe (hp:=by exact zBU (qU rfl rfl rfl)) ?_ | (refine zCe (hp:=by exact zCd (qU rfl rfl rfl)) ?_; intro u; refine zFr ?_) | refine zE6 (hp:=by exact zBU (qU rfl rfl rfl)) ?_ | (refine zE6 (hp:=by exact zCd (qU rfl rfl rfl)) ?_; intro u; refine zHT ?_))
     | (refine zCf 18 ?_ rfl; first | refine zMM (hp:=by exact zF2) ?_ | refine zOA (hp:=by exact zF2) ?_)
     | (refine zCf 23 ?_ rfl; first | refine zE5 (hp:=by exact zFz) ?_ | refine zIn (hp:=by exact zFz) ?_)
     | (refine zCf 24 ?_ rfl; first | refine zE5 (hp:=by exact zF0) ?_ | refine zIn (hp:=by exact zF0) ?_)
     | (refine zCf 25 ?_ rfl; first | refine zCe (hp:=by exact zB6) ?_ | refine zE6 (hp:=by exact zB6) ?_)
     | refine zB2 ?_)
   | refine zLP ?_ ?_
   | refine zM6 ?_ ?_
   | exact zM7
   | refine zM8 ?_
   | (refine zOQ ?_; exact zMu)
   | (refine zOP ?_; first
     | refine zNB ?_
     | (refine zOS ?_ rfl; refine zOH ?_)
     | (refine j4 0 ?_ rfl; refine zDS (hp:=by exact zJ0) ?_)
     | (refine j4 2 ?_ rfl; first | refine zDS (hp:=by exact zJ2) ?_ | (refine zJl ?_; intro b hb; subst hb) | (refine zJm ?_; intro g fs cs hf cb; subst hf))
     | (refine j4 3 ?_ rfl; refine zDS (hp:=by exact zJ3) ?_)
     | (refine j4 13 ?_ rfl; refine zE7 (hp:=by exact zB4) ?_)
     | (refine j4 10 ?_ rfl; first | refine zDS (hp:=by exact zHW) ?_ | refine zAt (hp:=by exact zDi) ?_)
     | (refine j4 8 ?_ rfl; refine zAt (hp:=by exact zFu) ?_)
     | (refine j4 20 ?_ rfl; first | refine zDS (hp:=by exact zHZ) ?_ | refine zE7 (hp:=by exact zB5) ?_)
     | (refine j4 27 ?_ rfl; refine zAt (hp:=by exact zDn) ?_)
     | (refine j4 4 ?_ rfl; first | refine zDS (hp:=by exact zJ4) ?_ | refine zAt (hp:=by exact zFs) ?_)
     | (refine j4 1 ?_ rfl; refine zDS (hp:=by exact zJ1) ?_)
     | (refine j4 6 ?_ rfl; refine zDS (hp:=by exact zJ6) ?_)
     | (refine j4 28 ?_ rfl; refine zAt (hp:=by exact zDo) ?_)
     | (refine j4 11 ?_ rfl; first | refine zAt (hp:=by exact zDj) ?_ | refine zDS (hp:=by exact zHX) ?_ | refine zE7 (hp:=by exact zB3) ?_)
     | (refine j4 26 ?_ rfl; first | refine zAt (hp:=by exact zDm) ?_ | refine zDS (hp:=by exact zHa) ?_)
     | (refine j4 12 ?_ rfl; first | refine zAt (hp:=by exact zDk) ?_ | refine zDS (hp:=by exact zHY) ?_)
     | (refine j4 5 ?_ rfl; refine zDS (hp:=by exact zJ5) ?_)
     | (refine j4 7 ?_ rfl; refine zAt (hp:=by exact zFt) ?_)
     | (refine j4 9 ?_ rfl; refine zAt (hp:=by exact zFv) ?_)
     | (refine j4 14 ?_ rfl; first | refine zE7 (hp:=by exact zBU (qU rfl rfl rfl)) ?_ | (refine zE7 (hp:=by exact zCd (qU rfl rfl rfl)) ?_; intro u; refine zHT ?_))
     | (refine j4 21 ?_ rfl; refine zAt (hp:=by exact zDl) ?_)
     | (refine j4 25 ?_ rfl; refine zE7 (hp:=by exact zB6) ?_)
     | (refine zNA ?_ ?_ <;> (intro hb; refine zDh ?_; intro a w hs; try rw [hb] at hs; clear hb; revert hs; revert w; revert a; refine zFo ?_)))
   | refine zPH ?_
   | refine zPI ?_
   | exact zLD
   | refine zB2 ?_) :
  zY P f args.toArray kk w:=zLN n hk hf h hb hn hl
end
end Go.Sep
namespace Go.Proofs.YtgmbfnboiobeaaaGreat
section
open Go Go.Sep
abbrev j6:Nat:=3
abbrev zV:Nat:=5
abbrev q9:Nat:=9
abbrev zGo:Nat:=21
abbrev zR:Nat:=22
abbrev qV:Nat:=60
abbrev xk:Nat:=62
abbrev zD8:Nat:=65
abbrev jY:Nat:=66
abbrev zB8:Nat:=68
abbrev zDC:Nat:=71
abbrev vJ:Nat:=73
abbrev vQ:Nat:=75
abbrev jZ:Nat:=78
abbrev xW:Nat:=82
abbrev xL:Nat:=85
abbrev zAW:Nat:=111
abbrev zAX:Nat:=154
abbrev xZ:Nat:=193
abbrev y8:Nat:=195
abbrev uM:Nat:=204
abbrev yQ:Nat:=220
theorem zDD:uP Tryz.prog j6 (.int .i64 0):=⟨Tryz.t3,by kernel_rfl,by kernel_rfl⟩
theorem zEi:uP Tryz.prog zV (.int .u8 0):=⟨Tryz.t5,by kernel_rfl,by kernel_rfl⟩
theorem zD9:uP Tryz.prog q9 (.string ⟨#[]⟩):=⟨Tryz.t9,by kernel_rfl,by kernel_rfl⟩
theorem zAc:uP Tryz.prog zR (Sl.val ⟨none,0,0⟩):=⟨Tryz.t22,by kernel_rfl,by kernel_rfl⟩
theorem zBL:uP Tryz.prog vJ (.pointer none):=⟨Tryz.t73,by kernel_rfl,by kernel_rfl⟩
theorem zAI:uP Tryz.prog jZ (.pointer none):=⟨Tryz.t78,by kernel_rfl,by kernel_rfl⟩
theorem mixed:Tryz.prog.follows .mixedOrders = true:=by kernel_rfl
end
section
open Go Go.Sep
def zI.call (a:Sl) (b:Bool) (c:Int) (k:Bool→K): K:=zY Tryz.prog 4 [Sl.val a,.bool b,.int .u64 c].toArray (yt Value.bool k)
def yE.call  (k:Bool→K): K:=zY Tryz.prog 6 [].toArray (yt Value.bool k)
def xB.call (c:Int) (k:Pt→Int→K): K:=zY Tryz.prog 7 [.int .i64 c].toArray (vD (fun a b=>.tuple #[Value.pointer a,(Value.int .i64) b]) k)
def ql.call (a:Pt) (k:Int→K): K:=zY Tryz.prog 8 [.pointer a].toArray (yt (Value.int .i64) k)
def zu.call (c:Pt) (d:Sl) (f:Int) (k:Pt→Int→K): K:=zY Tryz.prog 9 [.pointer c,Sl.val d,.int .u64 f].toArray (vD (fun a b=>.tuple #[Value.pointer a,(Value.int .i64) b]) k)
def xJ.call (a:Pt) (b:Int) (k:K): K:=zY Tryz.prog 11 [.pointer a,.int .i64 b].toArray (vP (.tuple #[]) k)
def z8.call (a:Pt) (b:Sl) (k:Pt→K): K:=zY Tryz.prog 12 [.pointer a,Sl.val b].toArray (yt Value.pointer k)
def zN.call (d:Pt) (f g i:Int) (k:Sl→Bool→Int→K): K:=zY Tryz.prog 14 [.pointer d,.int .i64 f,.int .u64 g,.int .i64 i].toArray (zAE (fun a b c=>.tuple #[Sl.val a,Value.bool b,(Value.int .i64) c]) k)
def yS.call (a:Pt) (k:Int→K): K:=zY Tryz.prog 15 [.pointer a].toArray (yt (Value.int .u64) k)
def yg.call (a:Pt) (k:Bool→K): K:=zY Tryz.prog 16 [.pointer a].toArray (yt Value.bool k)
def yx.call (a:Pt) (b:ByteArray) (c:Sl) (k:Int→K): K:=zY Tryz.prog 25 [.pointer a,.string b,Sl.val c].toArray (yt (Value.int .i64) k)
def yw.call (a:Int) (b:Bool) (k:Sl→K): K:=zY Tryz.prog 26 [.int .u64 a,.bool b].toArray (yt Sl.val k)
def zT.call (a:Pt) (b:Int) (k:Int→K): K:=zY Tryz.prog 27 [.pointer a,.int .u64 b].toArray (yt (Value.int .i64) k)
def yP.call (a:Pt) (b:Int) (k:Int→K): K:=zY Tryz.prog 28 [.pointer a,.int .i64 b].toArray (yt (Value.int .i64) k)
def xK.call (a:Pt) (k:Sl→K): K:=zY Tryz.prog 29 [.pointer a].toArray (yt Sl.val k)
def zh.call (a:Sl) (k:Sl→K): K:=zY Tryz.prog 30 [Sl.val a].toArray (yt Sl.val k)
def uG.call (c:Pt) (d:ByteArray) (k:Sl→Int→K): K:=zY Tryz.prog 31 [.pointer c,.string d].toArray (vD (fun a b=>.tuple #[Sl.val a,(Value.int .i64) b]) k)
def yG.call (a:Pt) (k:Int→K): K:=zY Tryz.prog 32 [.pointer a].toArray (yt (Value.int .u64) k)
def qz.call (a:Pt) (b:Int) (k:K): K:=zY Tryz.prog 33 [.pointer a,.int .u8 b].toArray (vP (.tuple #[]) k)
def yj.call (a:Pt) (b:Int) (k:K): K:=zY Tryz.prog 34 [.pointer a,.int .u64 b].toArray (vP (.tuple #[]) k)
def qZ.call (a b:Pt) (k:Int→K): K:=zY Tryz.prog 35 [.pointer a,.pointer b].toArray (yt (Value.int .i64) k)
def yK.call (c:Pt) (d f:Int) (k:Sl→Bool→K): K:=zY Tryz.prog 36 [.pointer c,.int .u64 d,.int .i64 f].toArray (vD (fun a b=>.tuple #[Sl.val a,Value.bool b]) k)
def xC.call (c:Pt) (d:ByteArray) (k:Sl→Int→K): K:=zY Tryz.prog 42 [.pointer c,.string d].toArray (vD (fun a b=>.tuple #[Sl.val a,(Value.int .i64) b]) k)
def za.call (a:Pt) (b:ByteArray) (k:Int→K): K:=zY Tryz.prog 51 [.pointer a,.string b].toArray (yt (Value.int .i64) k)
def zS.call (a:Pt) (b:ByteArray) (c:Sl) (k:Int→K): K:=zY Tryz.prog 52 [.pointer a,.string b,Sl.val c].toArray (yt (Value.int .i64) k)
def uo.call (a:Sl) (k:Sl→K): K:=zY Tryz.prog 53 [Sl.val a].toArray (yt Sl.val k)
def zo.call (a:Pt) (b:ByteArray) (k:Int→K): K:=zY Tryz.prog 54 [.pointer a,.string b].toArray (yt (Value.int .i64) k)
def zH.call (a:Pt) (b c:ByteArray) (k:Int→K): K:=zY Tryz.prog 55 [.pointer a,.string b,.string c].toArray (yt (Value.int .i64) k)
def qQ.call (a:Pt) (k:Sl→K): K:=zY Tryz.prog 56 [.pointer a].toArray (yt Sl.val k)
def vK.call (a:Sl) (k:Pt→K): K:=zY Tryz.prog 57 [Sl.val a].toArray (yt Value.pointer k)
def ze.call (c:Pt) (k:Int→Int→K): K:=zY Tryz.prog 58 [.pointer c].toArray (vD (fun a b=>.tuple #[(Value.int .u64) a,(Value.int .i64) b]) k)
def xS.call (c:Pt) (k:Int→Int→K): K:=zY Tryz.prog 59 [.pointer c].toArray (vD (fun a b=>.tuple #[(Value.int .u8) a,(Value.int .i64) b]) k)
def xM.call (a:Pt) (k:Int→K): K:=zY Tryz.prog 60 [.pointer a].toArray (yt (Value.int .i64) k)
def xO.call (c:Pt) (d:ByteArray) (f:Int) (k:Pt→Int→K): K:=zY Tryz.prog 61 [.pointer c,.string d,.int .i64 f].toArray (vD (fun a b=>.tuple #[Value.pointer a,(Value.int .i64) b]) k)
def qo.call  (k:Pt→K): K:=zY Tryz.prog 62 [].toArray (yt Value.pointer k)
def y9.call (a:Pt) (k:Sl→K): K:=zY Tryz.prog 63 [.pointer a].toArray (yt Sl.val k)
def zX.call (a:Pt) (b:Sl) (k:Bool→K): K:=zY Tryz.prog 64 [.pointer a,Sl.val b].toArray (yt Value.bool k)
def qL.call (a:Value) (k:Sl→K): K:=zY Tryz.prog 65 [a].toArray (yt Sl.val k)
def zZ.call (a:(Option Nat)) (k:Value→K): K:=zY Tryz.prog 66 [.map a].toArray (yt id k)
def yH.call (c:Sl) (k:Sl→Int→K): K:=zY Tryz.prog 67 [Sl.val c].toArray (vD (fun a b=>.tuple #[Sl.val a,(Value.int .i64) b]) k)
def zx.call (a:Pt) (b:Sl) (k:Int→K): K:=zY Tryz.prog 68 [.pointer a,Sl.val b].toArray (yt (Value.int .i64) k)
def xq.call (a:Pt) (k:Int→K): K:=zY Tryz.prog 69 [.pointer a].toArray (yt (Value.int .i64) k)
def yL.call (a:Pt) (b:Int) (k:Value→K): K:=zY Tryz.prog 70 [.pointer a,.int .i64 b].toArray (yt id k)
def qG.call (c:Pt) (d:ByteArray) (k:Pt→Int→K): K:=zY Tryz.prog 87 [.pointer c,.string d].toArray (vD (fun a b=>.tuple #[Value.pointer a,(Value.int .i64) b]) k)
def yZ.call (a:Pt) (b:Av) (k:Bool→K): K:=zY Tryz.prog 93 [.pointer a,.agg b].toArray (yt Value.bool k)
def zy.call (a:Pt) (k:Int→K): K:=zY Tryz.prog 95 [.pointer a].toArray (yt (Value.int .i64) k)
def qb.call (a:ByteArray) (k:Bool→K): K:=zY Tryz.prog 96 [.string a].toArray (yt Value.bool k)
def qH.call (a:Pt) (k:Int→K): K:=zY Tryz.prog 97 [.pointer a].toArray (yt (Value.int .i64) k)
def xu.call (c:Sl) (k:Sl→Int→K): K:=zY Tryz.prog 98 [Sl.val c].toArray (vD (fun a b=>.tuple #[Sl.val a,(Value.int .i64) b]) k)
def zw.call (a:Sl) (b:Int) (k:Value→K): K:=zY Tryz.prog 99 [Sl.val a,.int .i64 b].toArray (yt id k)
def zO.call (a:Pt) (k:Int→K): K:=zY Tryz.prog 100 [.pointer a].toArray (yt (Value.int .i64) k)
def yh.call  (k:Pt→K): K:=zY Tryz.prog 101 [].toArray (yt Value.pointer k)
def q8.call (c:Pt) (k:Sl→Int→K): K:=zY Tryz.prog 102 [.pointer c].toArray (vD (fun a b=>.tuple #[Sl.val a,(Value.int .i64) b]) k)
def qF.call (a:Value) (k:Sl→K): K:=zY Tryz.prog 103 [a].toArray (yt Sl.val k)
def qO.call (a:Sl) (k:K): K:=zY Tryz.prog 104 [Sl.val a].toArray (vP (.tuple #[]) k)
def zL.call (a:Value) (b:Addr) (k:K): K:=zY Tryz.prog 105 [a,(.pointer (some b))].toArray (vP (.tuple #[]) k)
def xP.call (d:Sl) (k:Sl→Int→Int→K): K:=zY Tryz.prog 106 [Sl.val d].toArray (zAE (fun a b c=>.tuple #[Sl.val a,(Value.int .i64) b,(Value.int .i64) c]) k)
def zq.call (a b:Sl) (k:Bool→K): K:=zY Tryz.prog 107 [Sl.val a,Sl.val b].toArray (yt Value.bool k)
def qg.call (a:Pt) (b:Int) (k:ByteArray→K): K:=zY Tryz.prog 108 [.pointer a,.int .i64 b].toArray (yt Value.string k)
def yX.call (a:Value) (b c:Addr) (k:K): K:=zY Tryz.prog 109 [a,(.pointer (some b)),(.pointer (some c))].toArray (vP (.tuple #[]) k)
def zB.call (a b:Pt) (c:Value) (k:Bool→K): K:=zY Tryz.prog 110 [.pointer a,.pointer b,c].toArray (yt Value.bool k)
def zM.call (c:Pt) (d:Int) (f:Av) (k:Av→Bool→K): K:=zY Tryz.prog 119 [.pointer c,.int .i64 d,.agg f].toArray (vD (fun a b=>.tuple #[Value.agg a,Value.bool b]) k)
def uH.call (a:Sl) (k:Int→K): K:=zY Tryz.prog 120 [Sl.val a].toArray (yt (Value.int .u32) k)
def yF.call (a:Value) (b c:Addr) (k:K): K:=zY Tryz.prog 121 [a,(.pointer (some b)),(.pointer (some c))].toArray (vP (.tuple #[]) k)
def yV.call (a:Pt) (b:Sl) (k:Int→K): K:=zY Tryz.prog 122 [.pointer a,Sl.val b].toArray (yt (Value.int .i64) k)
def zK.call (a:Pt) (b:ByteArray) (c:Int) (k:Int→K): K:=zY Tryz.prog 123 [.pointer a,.string b,.int .i64 c].toArray (yt (Value.int .i64) k)
def yT.call (a:Sl) (b:Value) (k:Sl→K): K:=zY Tryz.prog 124 [Sl.val a,b].toArray (yt Sl.val k)
def jF.call (a:Sl) (b c d:Int) (k:K): K:=zY Tryz.prog 125 [Sl.val a,.int .i64 b,.int .i64 c,.int .i64 d].toArray (vP (.tuple #[]) k)
def zEj.call (a:Int) (k:Int→K): K:=zY Tryz.prog 126 [.int .u64 a].toArray (yt (Value.int .i64) k)
def zi.call (c:Pt) (d:Int) (k:Int→Bool→K): K:=zY Tryz.prog 127 [.pointer c,.int .i64 d].toArray (vD (fun a b=>.tuple #[(Value.int .i64) a,Value.bool b]) k)
def zP.call (f:Pt) (g:Av) (k:Av→Bool→Pt→Pt→K): K:=zY Tryz.prog 130 [.pointer f,.agg g].toArray (zAo (fun a b c d=>.tuple #[Value.agg a,Value.bool b,Value.pointer c,Value.pointer d]) k)
def qM.call (a:Sl) (k:Int→K): K:=zY Tryz.prog 131 [Sl.val a].toArray (yt (Value.int .u32) k)
def zA.call (c:Sl) (d:Int) (f:Value) (k:Int→Bool→K): K:=zY Tryz.prog 143 [Sl.val c,.int .i64 d,f].toArray (vD (fun a b=>.tuple #[(Value.int .i64) a,Value.bool b]) k)
def zf.call (a:Sl) (b:Int) (c:Sl) (k:Sl→K): K:=zY Tryz.prog 146 [Sl.val a,.int .i64 b,Sl.val c].toArray (yt Sl.val k)
def yA.call (a:Sl) (b:Int) (c:Sl) (k:Sl→K): K:=zY Tryz.prog 147 [Sl.val a,.int .i64 b,Sl.val c].toArray (yt Sl.val k)
def yC.call (a:Sl) (k:Sl→K): K:=zY Tryz.prog 148 [Sl.val a].toArray (yt Sl.val k)
def yD.call (a:Sl) (k:Sl→K): K:=zY Tryz.prog 149 [Sl.val a].toArray (yt Sl.val k)
def qA.call (a:Sl) (b:Int) (k:K): K:=zY Tryz.prog 158 [Sl.val a,.int .i64 b].toArray (vP (.tuple #[]) k)
def qB.call (a:Sl) (b:Int) (k:K): K:=zY Tryz.prog 160 [Sl.val a,.int .i64 b].toArray (vP (.tuple #[]) k)
def qC.call (a:Sl) (b:Int) (k:K): K:=zY Tryz.prog 162 [Sl.val a,.int .i64 b].toArray (vP (.tuple #[]) k)
def qD.call (a:Sl) (b:Int) (k:K): K:=zY Tryz.prog 163 [Sl.val a,.int .i64 b].toArray (vP (.tuple #[]) k)
def zF.call (a:Sl) (k:K): K:=zY Tryz.prog 164 [Sl.val a].toArray (vP (.tuple #[]) k)
def zG.call (a:Sl) (k:K): K:=zY Tryz.prog 165 [Sl.val a].toArray (vP (.tuple #[]) k)
end
end Go.Proofs.YtgmbfnboiobeaaaGreat
namespace Go.Sep
section
open Go Go.RowKit
def zGp (P:Program) (U:TypeId):Bool:=match P.underlying U with | some (.slice _)=>true | _=>false
def zCg (P:Program) (E n:Nat):Bool:=(P.info? E).map (·.bytes) == some n
theorem zE9 (need:Nat):∀ (r c:Nat),Builtin.growBy need r c ≤ max c (need + (need + 768) / 4)
 | 0,c=>by simp only [Builtin.growBy]; omega
 | r + 1,c=>by
  simp only [Builtin.growBy]
  split
  ·omega
  ·have:=zE9 need r (c + (c + 768) / 4); omega
theorem zHb {need c:Nat} (h:c < need):Builtin.nextslicecap need c ≤ 2 * need + 800:=by
 unfold Builtin.nextslicecap
 split
 ·omega
 ·split
  ·omega
  ·have:=zE9 need 4 c; omega
theorem fold_size:∀ (us:List Value) (o:Nat) (cs:Array Value),((us.zipIdx o).foldl (fun c p=>c.setIfInBounds p.2 p.1) cs).size = cs.size
 | [],o,cs=>rfl
 | u::us,o,cs=>by simp only [List.zipIdx_cons,List.foldl_cons]; rw [fold_size us (o + 1)]; simp
theorem zEA:∀ (us:List Value) (o:Nat) (cs:Array Value) (j:Nat),j < o∨o + us.length ≤ j→((us.zipIdx o).foldl (fun c p=>c.setIfInBounds p.2 p.1) cs)[j]? = cs[j]?
 | [],o,cs,j,_=>rfl
 | u::us,o,cs,j,h=>by
  simp only [List.zipIdx_cons,List.foldl_cons]
  simp only [List.length_cons] at h
  rw [zEA us (o + 1) _ j (by omega),Array.getElem?_setIfInBounds_ne (by omega)]
theorem zIF:∀ (us:List Value) (o:Nat) (cs:Array Value) (j:Nat),j < us.length→o + us.length ≤ cs.size→((us.zipIdx o).foldl (fun c p=>c.setIfInBounds p.2 p.1) cs)[o + j]? = us[j]?
 | [],o,cs,j,h,_=>by simp at h
 | u::us,o,cs,0,h,hs=>by
  simp only [List.zipIdx_cons,List.foldl_cons,List.length_cons] at hs ⊢
  rw [zEA us (o + 1) _ (o + 0) (by omega)]
  have:o < cs.size:=by omega
  simp [this]
 | u::us,o,cs,j + 1,h,hs=>by
  simp only [List.zipIdx_cons,List.foldl_cons,List.length_cons] at h hs ⊢
  rw [show o + (j + 1) = (o + 1) + j by omega,zIF us (o + 1) _ j (by omega) (by simp; omega)]
  simp
section
variable {P:Program} {B w:World} {Γ:List zC}
theorem jc {x:Sl} {esz:Nat} {us:List Value} (h:RdC w x esz us):(Builtin.firstCells esz x.n x.val).run P w = .ok us.toArray w:=by
 obtain ⟨a,n,c⟩:=x
 cases a with
 | none=>
  have h1:=h.nil rfl
  have h2:=h.len
  simp only at h1; subst h1
  simp at h2; subst h2
  simp [Builtin.firstCells]
 | some a=>
  have h2:=h.len
  have h3:RdN w a us.toArray:=fun i hi=>by
   have:=h.at' a rfl i (by simpa using hi)
   simpa using this
  have:=run_loadCells (P:=P) h3
  simp only [List.size_toArray,h2] at this
  simp only [Builtin.firstCells]
  exact this
theorem run_askRoom (n:Nat):(askRoom n).run P w = .ok () w:=by
 unfold askRoom
 split
 ·simp [mark,Sem.run]
 ·rfl
theorem zGq {E n:Nat} (h:zCg P E n = true):∃ i,P.info? E = some i∧i.bytes = n:=by
 unfold zCg at h
 cases hi:P.info? E with
 | none=>simp [hi] at h
 | some i=>exact ⟨i,rfl,by simpa [hi] using h⟩
theorem zHc {T U E esz by' Tr:Nat} {s x:Sl} {vs us:List Value} {zv:Value} (h:Holds B (SlC E esz s vs::Γ) w) (hT:sliceT P T E esz = true) (hU:zGp P U = true) (hby:zCg P E by' = true)
  (hz:uP P E zv) (hzs:zv.cells.size = esz) (hx:RdC w x esz us) (hfl:∀ u ∈ us,qj u = true) (hroom:(2 * (s.n + x.n) + 800) * by' ≤ 2 ^ 48) (hb0:by' ≠ 0) :
  ∃ s' w',(Builtin.append_ #[T,U] Tr #[s.val,x.val]).run P w = .ok s'.val w'∧Holds B (SlC E esz s' (vs++us)::Γ) w'∧s'.n = s.n + x.n∧(s.a.isSome = true→s'.a.isSome = true)∧(s.n + x.n ≤ s.c→s' = ⟨s.a,s.n + x.n,s.c⟩):=by
 obtain ⟨hsl,hsz⟩:=uE hT
 obtain ⟨ib,hib,hbytes⟩:=zGq hby
 have hti:(typeInfo E).run P w = .ok ib w:=by simp [typeInfo,program,hib,Sem.run]
 have hU':∃ e,P.underlying U = some (.slice e):=by
  unfold zGp at hU; split at hU
  ·rename_i e he; exact ⟨e,he⟩
  ·cases hU
 obtain ⟨e,hU'⟩:=hU'
 have hrs:=h.rdC (List.mem_cons_self ..)
 have hfc:=jc (P:=P) hx
 have hulen:=hx.len
 unfold Builtin.append_
 have hget:(#[T,U]:Array TypeId)[0]? = some T:=rfl
 have hget1:(#[T,U]:Array TypeId)[1]? = some U:=rfl
 have hv0:(#[s.val,x.val]:Array Value)[0]? = some s.val:=rfl
 have hv1:(#[s.val,x.val]:Array Value)[1]? = some x.val:=rfl
 simp only [hget,hget1,hv0,hv1]
 simp only [Sem.run_bind,run_underlying hsl,Result.andThen,Sl.val,xg hsz,run_underlying hU',Sem.run_pure,Builtin.lenOf,Bool.false_eq_true,if_false,Bool.not_false,if_true]
 by_cases hn:s.n + x.n ≤ s.c
 ·simp only [hn,if_true]
  simp only [Sem.run_bind,hfc,Result.andThen]
  obtain ⟨sa,sn,sc⟩:=s
  cases sa with
  | none=>
   have h1:=h.fact (p:=sc = 0∧vs.length = sn * esz∧sn ≤ sc) (fun _ ha=>⟨ha.2.2,ha.1,ha.2.1⟩)
   simp only at hn
   have hxn:x.n = 0:=by omega
   have hus:us = []:=by rw [hxn] at hulen; simpa using hulen
   refine ⟨⟨none,sn + x.n,sc⟩,w,by simp,?_,rfl,fun h=>h,fun _=>rfl⟩
   subst hus
   rw [hxn]
   simpa using h
  | some a=>
   obtain ⟨hl,hc,hsp,cs,fz,hcond⟩:vs.length = sn * esz∧sn ≤ sc∧a.spot = none∧∃ cs fz,(w.heap[a.block]? = some (.cells cs E fz))∧(∀ i,a.off ≤ i→i < a.off + sc * esz→¬ (fz.1 ≤ i∧i < fz.2))∧a.off + sc * esz ≤ cs.size∧∀ i,i < vs.length→cs[a.off + i]? = vs[i]?:=by
    obtain ⟨_,h1,h2,⟨hl,hc,hsp,cs,fz,hb,hf,hsz,hv⟩,_,l1,_,_⟩:=h
    exact ⟨hl,hc,hsp,cs,fz,zCZ l1 hb,hf,hsz,hv⟩
   obtain ⟨hb,hf,hcap,hv⟩:=hcond
   obtain ⟨b,off,sp⟩:=a
   simp only at hsp hb hf hcap hv; subst hsp
   simp only at hn
   have hmul:sn * esz + us.length ≤ sc * esz:=by rw [hulen,← Nat.add_mul]; exact Nat.mul_le_mul_right _ hn
   have hst:(storeCells ((⟨b,off,none⟩:Addr).add (sn * esz)) us).run P w = .ok () (setCells ((⟨b,off,none⟩:Addr).add (sn * esz)) us 0 w):=by
    refine jW us 0 w hfl fun j hj=>?_
    rw [yB,yB]
    have hlt:off + sn * esz + (0 + j) < cs.size:=by omega
    exact ⟨⟨_,qX hb (Array.getElem?_eq_getElem hlt)⟩,jM hb (hf _ (by omega) (by omega))⟩
   refine ⟨⟨some ⟨b,off,none⟩,sn + x.n,sc⟩,setCells ((⟨b,off,none⟩:Addr).add (sn * esz)) us 0 w,by simp [hst],?_,rfl,fun _=>rfl,fun _=>rfl⟩
   rw [yB,jy _ _ _ _ _ hb]
   have h2:Holds B (blk b (.cells cs E fz)::Γ) w:=h.imp' hb
   have h3:=h2.setBlock (o':=.cells ((us.zipIdx (off + sn * esz + 0)).foldl (fun c p=>c.setIfInBounds p.2 p.1) cs) E fz) rfl
   refine h3.imp fun g hg=>?_
   refine ⟨?_,hn,rfl,_,fz,hg,hf,?_,?_⟩
   ·simp [hl,hulen,Nat.add_mul]
   ·rw [fold_size]; exact hcap
   ·intro i hi
    simp only [List.length_append] at hi
    simp only [Nat.add_zero]
    by_cases hlt:i < vs.length
    ·rw [zEA _ _ _ _ (by omega),List.getElem?_append_left hlt]; exact hv i hlt
    ·rw [show off + i = off + sn * esz + (i - vs.length) by omega,zIF _ _ _ _ (by omega) (by omega),List.getElem?_append_right (by omega)]
 ·simp only [hn,if_false]
  have hsn:=h.fact (p:=vs.length = s.n * esz∧s.n ≤ s.c) (fun _ ha=>⟨ha.1,ha.2.1⟩)
  have hcap:=zHb (show s.c < s.n + x.n by omega)
  have hcap2:¬ (Builtin.nextslicecap (s.n + x.n) s.c * ib.bytes > 2 ^ 48):=by
   rw [hbytes]
   have:=Nat.mul_le_mul_right by' hcap
   omega
  have hbig:s.n + x.n < 2 ^ 60:=by
   have:(2 * (s.n + x.n) + 800) * 1 ≤ (2 * (s.n + x.n) + 800) * by':=Nat.mul_le_mul_left _ (by omega)
   omega
  have hi64:¬ ((s.n + x.n:Nat):Int) > IntKind.i64.max:=by simp [IntKind.max,IntKind.signed,IntKind.bits]; omega
  simp only [Sem.run_bind,hti,Result.andThen]
  rw [if_neg (by rintro ⟨h1,_⟩; exact hi64 h1)]
  simp only [Sem.run_bind,hti,Result.andThen,Sem.run_pure]
  rw [if_neg hcap2]
  obtain ⟨newCap,w1,hch,hle,hw1⟩:∃ nc w1,(choose (.appendCap (s.n + x.n) s.c E)).run P w = .ok nc w1∧s.n + x.n ≤ nc∧w1 = { w with drawn:=w.drawn + 1 }:=by
   refine ⟨(Question.appendCap (s.n + x.n) s.c E).cut (w.tape w.drawn (.appendCap (s.n + x.n) s.c E)),_,by simp [choose,Sem.run,Question.forced],?_,rfl⟩
   simp only [Question.cut]; omega
  have h1:Holds B (SlC E esz s vs::Γ) w1:=by rw [hw1]; exact h.drew _
  have hx1:RdC w1 x esz us:=⟨hx.len,hx.nil,fun a ha i hi=>by rw [hw1]; exact hx.at' a ha i hi⟩
  have hrs1:=h1.rdC (List.mem_cons_self ..)
  have hti1:(typeInfo E).run P w1 = .ok ib w1:=by simp [typeInfo,program,hib,Sem.run]
  have hf1:=jc (P:=P) hrs1
  have hf2:=jc (P:=P) hx1
  simp only [Sl.val] at hf1 hf2
  simp only [hch,hti1,run_askRoom,hf1,hf2,uf hz,Sem.run_bind,Result.andThen,Sem.run_pure,newRow,newObj,Sem.run]
  refine ⟨⟨some ⟨w1.heap.size,0,none⟩,s.n + x.n,newCap⟩,_,rfl,?_,rfl,fun _=>rfl,(fun hh=>by first | exact hh.elim | exact absurd hh hn)⟩
  have h2:=(h1.tail).alloc (.cells (vs.toArray++us.toArray++Builtin.zeroCells zv.cells (newCap - (s.n + x.n))) E)
  refine h2.imp fun g hg=>⟨?_,hle,rfl,_,(0,0),hg,?_,?_,?_⟩
  ·simp [hsn.1,hulen,Nat.add_mul]
  ·intro i _ _; simp
  ·simp only [Nat.zero_add,Array.size_append,List.size_toArray,hsn.1,hulen,Builtin.zeroCells,Array.size_map,Array.size_range,hzs]
   rw [← Nat.add_mul,← Nat.add_mul]
   exact Nat.mul_le_mul_right _ (by omega)
  ·intro i hi
   simp only [Nat.zero_add]
   rw [Array.getElem?_append_left (by simpa using hi)]
   simp [List.getElem?_append,Array.getElem?_append]
theorem zAu {T U E esz by' Tr:Nat} {s x:Sl} {vs us:List Value} {zv:Value} {k:Sl→K} (h:Holds B (SlC E esz s vs::Γ) w) (hT:sliceT P T E esz = true) (hU:zGp P U = true) (hby:zCg P E by' = true)
  (hz:uP P E zv) (hzs:zv.cells.size = esz) (hx:RdC w x esz us) (hfl:∀ u ∈ us,qj u = true) (hroom:(2 * (s.n + x.n) + 800) * by' ≤ 2 ^ 48) (hb0:by' ≠ 0)
  (hk:∀ s' w',Holds B (SlC E esz s' (vs++us)::Γ) w'→s'.n = s.n + x.n→(s.a.isSome = true→s'.a.isSome = true)→k s' w'):Do P (Builtin.append_ #[T,U] Tr #[s.val,x.val]) Sl.val k w:=by
 obtain ⟨s',w',hr,hh,hn,ha,_⟩:=zHc (Tr:=Tr) h hT hU hby hz hzs hx hfl hroom hb0
 exact ⟨s',w',hr,hk s' w' hh hn ha⟩
theorem zLW {b E esz n:Nat} {vs:List Value} {cs:Array Value} (hc:cs.toList = vs) (hn:vs.length = n * esz) (g:Hp) (h:blk b (.cells cs E (0,0)) g):SlC E esz ⟨some ⟨b,0,none⟩,n,n⟩ vs g:=by
 subst hc
 refine ⟨hn,Nat.le_refl _,rfl,cs,(0,0),h,fun i _ _=>by simp,?_,fun i hi=>?_⟩
 ·simp at hn ⊢; omega
 ·simp
theorem Holds.zAJ (h:Holds B Γ w) (E esz:Nat):Holds B (SlC E esz ⟨none,0,0⟩ []::Γ) w:=by
 refine ⟨h.below,fun _=>Option.none,_,⟨by simp,Nat.le_refl _,rfl⟩,h.stars,fun _ _ e=>(by cases e),Hp.le_refl _,fun _=>.inl rfl⟩
theorem RdC.zF3 {b E esz n:Nat} {vs:List Value} {cs:Array Value} (h:Holds B Γ w) (hm:blk b (.cells cs E (0,0)) ∈ Γ) (hc:cs.toList = vs) (hn:vs.length = n * esz) (c:Nat):RdC w ⟨some ⟨b,0,none⟩,n,c⟩ esz vs:=by
 subst hc
 refine ⟨hn,(fun hh=>by cases hh),fun a ha i hi=>?_⟩
 cases ha
 rw [yB,Nat.zero_add]
 have h1:=h.zFd hm
 have h2:cs.toList[i]? = some cs.toList[i]:=by simp [hi]
 rw [h2]
 have h3:cs[i]? = some (cs.toList[i]):=by rw [← h2]; simp
 exact qX h1 h3
theorem zHd (xs:List UInt8):∀ u ∈ xs.map qd,qj u = true:=fun u hu=>by
 obtain ⟨b,_,rfl⟩:=List.mem_map.1 hu; rfl
end
end
section
open Go Go.RowKit Go.ChangeShapes Go.WideShapes Go.ChangeAt Go.Deep
inductive Sh where
 | bool
 | int (k:IntKind)
 | str
 | sl (e:Sh) (esz:Nat)
 | nil
 | fld (off n:Nat) (s rest:Sh)
def Rdy (w:World):Sh→List Value→Prop
 | .bool,cs=>∃ b,cs = [.bool b]
 | .int k,cs=>∃ n,cs = [.int k n]∧(Lit.int k n).wf = true
 | .str,cs=>∃ s:ByteArray,cs = [.string s]∧s.size ≤ maxLen
 | .sl e esz,cs=>∃ s:Sl,cs = [s.val]∧s.n ≤ s.c∧s.c ≤ maxLen∧(s.a = none→s.n = 0∧s.c = 0) ∧
   ∀ a i,s.a = some a→i < s.n→∃ cs',cs'.length = esz∧(∀ j,j < esz→w.cell? (a.add (i * esz + j)) = cs'[j]?)∧Rdy w e cs'
 | .nil,_=>True
 | .fld off n s rest,cs=>Rdy w s ((cs.drop off).take n)∧Rdy w rest cs
def zGr (P:Program):Nat→TypeId→Sh
 | 0,_=>.nil
 | n + 1,t=>match P.underlying t with
  | some .bool=>.bool
  | some (.int k)=>.int k
  | some .string=>.str
  | some (.slice e)=>.sl (zGr P n e) (P.cellsOf e)
  | some (.struct fs)=>fs.toList.foldr (fun f r=>.fld f.offset (P.cellsOf f.type) (zGr P n f.type) r) .nil
  | some (.array m e)=>(List.range m).foldr (fun i r=>.fld (i * P.cellsOf e) (P.cellsOf e) (zGr P n e) r) .nil
  | _=>.nil
section
variable {H:Type} {enc:TypeId×Value→H} {P:Program} {w:World} {base:Nat} {spare:Nat→Bool} {held:Bool}
theorem zGs {cs:List Value} {g:Field→Sh}:∀ (fs:List Field),(∀ f ∈ fs,Rdy w (g f) ((cs.drop f.offset).take (P.cellsOf f.type))) →
  Rdy w (fs.foldr (fun f r=>.fld f.offset (P.cellsOf f.type) (g f) r) .nil) cs
 | [],_=>trivial
 | f::fs,h=>⟨h f (by simp),zGs fs fun x hx=>h x (by simp [hx])⟩
theorem jq:∀ (n:Nat) (t:TypeId) (fuel:Nat) (cs:List Value) (x:DataW H×List MemPlace),DataW.trod enc P w base spare held fuel t cs = some x→Rdy w (zGr P n t) cs
 | 0,_,_,_,_,_=>trivial
 | n + 1,t,fuel,cs,x,h=>by
  unfold zGr
  split
  ·rename_i hu; obtain ⟨b,hb,_⟩:=DataW.trod_bool hu h; exact ⟨b,hb⟩
  ·rename_i k hu; obtain ⟨b,hb,_,hw⟩:=DataW.trod_int hu h; exact ⟨b,hb,hw⟩
  ·rename_i hu; obtain ⟨s,hs,_,hw⟩:=DataW.trod_string hu h; exact ⟨s,hs,hw⟩
  ·rename_i e hu
   rcases open_slice hu h with ⟨rfl,_⟩ | ⟨a,len,cap,m,n',D,Pl,rfl,hb,hl,hm,hmm,hx,hi⟩
   ·exact ⟨⟨none,0,0⟩,rfl,Nat.le_refl _,Nat.zero_le _,fun _=>⟨rfl,rfl⟩,(fun a i ha=>by cases ha)⟩
   ·refine ⟨⟨some a,len,cap⟩,rfl,hl,hm,(fun hn=>by cases hn),fun a' i ha hi'=>?_⟩
    cases ha
    simp only at hi'
    obtain ⟨cs',hc,ht⟩:=hi i (by rw [hmm]; split <;> omega)
    obtain ⟨_,hlen,hcell⟩:=World.cells?_some hc
    refine ⟨cs',hlen,fun j hj=>?_,jq n e _ cs' _ ht⟩
    rw [← Go.Deep.add_add]
    exact hcell j hj
  ·rename_i fs hu
   obtain ⟨xs,n',_,_,hlen,hxl,hf⟩:=DataW.trod_struct hu h
   refine zGs _ fun f hf'=>?_
   obtain ⟨i,hi⟩:=List.mem_iff_getElem?.1 hf'
   have hi':fs[i]? = some f:=by simpa using hi
   have h1:=hf i f hi'
   have hlt:i < xs.length:=by rw [hxl]; exact (Array.getElem?_eq_some_iff.1 hi').1
   rw [List.getElem?_eq_getElem hlt] at h1
   exact jq n f.type _ _ _ h1
  ·rename_i m e hu
   obtain ⟨xs,n',_,_,hlen,hxl,hf⟩:=DataW.trod_array hu h
   have key:∀ l:List Nat,(∀ i ∈ l,i < m)→Rdy w (l.foldr (fun i r=>.fld (i * P.cellsOf e) (P.cellsOf e) (zGr P n e) r) .nil) cs:=by
    intro l
    induction l with
    | nil=>intro _; trivial
    | cons i l ih=>
     intro hl
     have hi:=hl i List.mem_cons_self
     have h1:=hf i hi
     rw [List.getElem?_eq_getElem (by omega)] at h1
     exact ⟨jq n e _ _ _ h1,ih fun j hj=>hl j (List.mem_cons_of_mem _ hj)⟩
   exact key _ fun i hi=>List.mem_range.1 hi
  ·trivial
theorem zGt {n:Nat} {t:TypeId} {v:Value} {d:DataW H} {ps:List MemPlace} (h:DataW.Trod enc P w base spare held t v d ps):Rdy w (zGr P n t) v.cells.toList:=by
 obtain ⟨fuel,h⟩:=h
 exact jq n t fuel _ _ h
theorem zDE {α:Type} (f:α→List Value) (esz:Nat) (hf:∀ x,(f x).length = esz):∀ (l:List α) (i j:Nat),j < esz→(l.flatMap f)[i * esz + j]? = (l[i]?).bind fun x=>(f x)[j]?
 | [],i,j,_=>by simp
 | x::l,0,j,hj=>by
  simp only [List.flatMap_cons,Nat.zero_mul,Nat.zero_add]
  rw [List.getElem?_append_left (by rw [hf]; exact hj)]; simp
 | x::l,i + 1,j,hj=>by
  simp only [List.flatMap_cons]
  have e:(i + 1) * esz + j = esz + (i * esz + j):=by rw [Nat.add_mul]; omega
  rw [e,List.getElem?_append_right (by rw [hf]; omega),hf,Nat.add_sub_cancel_left,zDE f esz hf l i j hj]; simp
theorem zAv {α:Type} (f:α→List Value) (esz:Nat) (hf:∀ x,(f x).length = esz):∀ (l:List α),(l.flatMap f).length = l.length * esz
 | []=>by simp
 | x::l=>by simp only [List.flatMap_cons,List.length_append,hf,zAv f esz hf l,List.length_cons,Nat.add_mul]; omega
theorem zDF {α:Type} (R:Nat→α→Prop):∀ (n:Nat),(∀ i,i < n→∃ x,R i x)→∃ l:List α,l.length = n∧∀ i x,l[i]? = some x→R i x
 | 0,_=>⟨[],rfl,fun i x h=>by simp at h⟩
 | n + 1,h=>by
  obtain ⟨l,hl,hr⟩:=zDF R n fun i hi=>h i (by omega)
  obtain ⟨x,hx⟩:=h n (by omega)
  refine ⟨l++[x],by simp [hl],fun i y hy=>?_⟩
  by_cases hi:i < n
  ·rw [List.getElem?_append_left (by omega)] at hy; exact hr i y hy
  ·have hlt:i < (l++[x]).length:=(List.getElem?_eq_some_iff.1 hy).1
   have:i = n:=by simp [hl] at hlt; omega
   subst this
   rw [List.getElem?_append_right (by omega),hl] at hy
   simp at hy; subst hy; exact hx
theorem zLX {α:Type} {s:Sl} {esz:Nat} {e:Sh} (f:α→List Value) (R:α→Prop) (hf:∀ x,(f x).length = esz) (hn:s.a = none→s.n = 0∧s.c = 0)
  (h:∀ a i,s.a = some a→i < s.n→∃ cs',cs'.length = esz∧(∀ j,j < esz→w.cell? (a.add (i * esz + j)) = cs'[j]?)∧Rdy w e cs')
  (hR:∀ cs,cs.length = esz→Rdy w e cs→∃ x,cs = f x∧R x):∃ l:List α,l.length = s.n∧RdC w s esz (l.flatMap f)∧∀ x ∈ l,R x:=by
 cases ha:s.a with
 | none=>exact ⟨[],by rw [(hn ha).1]; rfl,⟨by rw [(hn ha).1]; simp,fun h=>(hn h).1,fun a h=>by rw [ha] at h; cases h⟩,fun x h=>by cases h⟩
 | some a=>
  obtain ⟨l,hl,hr⟩:=zDF (fun i x=>(∀ j,j < esz→w.cell? (a.add (i * esz + j)) = (f x)[j]?)∧R x) s.n (fun i hi=>by
   obtain ⟨cs',h1,h2,h3⟩:=h a i ha hi
   obtain ⟨x,rfl,hx⟩:=hR cs' h1 h3
   exact ⟨x,h2,hx⟩)
  refine ⟨l,hl,⟨by rw [zAv f esz hf,hl],(fun h=>by rw [ha] at h; cases h),fun a' h' i hi=>?_⟩,fun x hx=>?_⟩
  ·rw [ha] at h'; cases h'
   rw [zAv f esz hf] at hi
   have hpos:0 < esz:=by
                rcases Nat.eq_zero_or_pos esz with h0 | h0
                ·rw [h0] at hi; simp at hi
                ·exact h0
   have e1:i = (i / esz) * esz + i % esz:=by rw [Nat.mul_comm]; exact (Nat.div_add_mod i esz).symm
   have hj:i % esz < esz:=Nat.mod_lt _ hpos
   have hq:i / esz < l.length:=by rw [Nat.div_lt_iff_lt_mul hpos]; exact hi
   rw [e1,zDE f esz hf _ _ _ hj,List.getElem?_eq_getElem hq]
   exact (hr _ _ (List.getElem?_eq_getElem hq)).1 _ hj
  ·obtain ⟨i,hi⟩:=List.mem_iff_getElem?.1 hx
   exact (hr i x hi).2
end
section
variable {H:Type} {enc:TypeId×Value→H} {P:Program}
theorem zBV (hl:laidOutB P = true) {W W':World} (hb:Below W.heap.size W W') {sp:Nat→Bool}:∀ (ts:List TypeId) (vs:List Value) (ds:List (DataW H)) (ps:List MemPlace),
  (∀ t ∈ ts,P.readableRec t = true∧t < P.types.size)→(∀ x ∈ ps,x.block < W.heap.size∧sp x.block = true)→DataW.TrodAll enc P W 0 (fun _=>true) true ts vs ds ps→DataW.TrodAll enc P W' 0 sp true ts vs ds ps
 | [],vs,ds,ps,_,_,h=>by
  cases vs <;> cases ds <;> simp [DataW.TrodAll] at h ⊢ <;> exact h
 | t::ts,vs,ds,ps,ht,hlt,h=>by
  cases vs with
  | nil=>simp [DataW.TrodAll] at h
  | cons v vs=>
   cases ds with
   | nil=>simp [DataW.TrodAll] at h
   | cons d ds=>
    obtain ⟨p,q,h1,h2,rfl⟩:=h
    exact ⟨p,q,WideElems.Trod_stays hl (ht t (by simp)).1 (ht t (by simp)).2 h1 (fun x hx=>hb.same (hlt x (by simp [hx])).1) (fun x hx=>(hlt x (by simp [hx])).2),
     zBV hl hb ts vs ds q (fun t' h'=>ht t' (by simp [h'])) (fun x hx=>hlt x (by simp [hx])) h2,rfl⟩
theorem zIr {b:Nat} {sp:Nat→Bool} {hd:Bool} {W:World} {t:TypeId} (ht:P.underlying t = some .bool):DataW.TrodAll enc P W b sp hd [t] [.bool true] [.lit (.bool true)] [] :=
 ⟨[],[],⟨1,by simp [DataW.trod,ht,Value.cells]⟩,rfl,rfl⟩
theorem zLY {W W':World} {e:Ending} (h:Ret (fun v w'=>v = .bool true∧Below W.heap.size W w') e W'):e = .returned (.bool true)∧Below W.heap.size W W':=by
 cases e with
 | returned v=>exact ⟨by rw [h.1],h.2⟩
 | panicked c=>exact h.elim
 | outgrown=>exact h.elim
theorem zJ7 {P:Program} {f:FuncId} {args:Array Value} {W:World} (h:zY P f args (fun v w=>∃ r:Bool,v = .bool r∧(r = true∧Holds W [] w)) W) :
  Calls P f args W (Ret fun v w'=>v = .bool true∧Below W.heap.size W w'):=h.mono fun e w' he=>by
 cases e with
 | returned v=>obtain ⟨r,rfl,rfl,hh⟩:=he; exact ⟨rfl,hh.below⟩
 | panicked c=>exact he.elim
 | outgrown=>exact he.elim
theorem zJ8 {f:Func} {s:ChangeSpec} {apart fresh handsOn again:Bool} {W W':World} {args:Array Value} {ds:List (DataW H)} {p:List MemPlace} {t:TypeId}
  (hl:laidOutB P = true) (hts:f.params.toList.all (fun t=>P.readableRec t && decide (t < P.types.size)) = true) (hrt:f.resultTypes = #[t]) (ht:P.underlying t = some .bool)
  (hW:DataW.Whole enc P f.params.toList s.vars apart W args.toList ds [] p) (hvs:s.vars = []) (hA:DataW.TrodAll enc P W 0 (fun _=>true) true f.params.toList args.toList ds p)
  (hsr:(s.fn H (ds++[])).results = [.lit (.bool true)]) (hsa:(s.fn H (ds++[])).args = ds) (hsv:(s.fn H (ds++[])).vars = []) (hb:Below W.heap.size W W') :
  s.post enc P f apart fresh handsOn again W args (.bool true) W':=by
 have hlt:∀ x ∈ p,x.block < W.heap.size:=fun x hx=>hW.lt x hx
 have hts':∀ t ∈ f.params.toList,P.readableRec t = true∧t < P.types.size:=fun t ht=>by
  have:=List.all_eq_true.1 hts t ht
  simpa using this
 have hold:∀ x ∈ p,(fun b=>decide (b < W.heap.size)) x.block = true:=fun x hx=>by simpa using hlt x hx
 have hres:∀ (b:Nat) (sp:Nat→Bool) (hd:Bool),DataW.TrodAll enc P W' b sp hd f.resultTypes.toList ((Value.bool true).resultList f.resultTypes.size) (s.fn H (ds++[])).results []:=fun b sp hd=>by
  rw [hsr,hrt]; exact zIr ht
 have hargs:∀ sp:Nat→Bool,(∀ x ∈ p,sp x.block = true)→DataW.TrodAll enc P W' 0 sp true f.params.toList args.toList (s.fn H (ds++[])).args p:=fun sp hsp=>by
  rw [hsa]; exact zBV hl hb _ _ _ _ hts' (fun x hx=>⟨hlt x hx,hsp x hx⟩) hA
 have hvars:∀ sp:Nat→Bool,DataW.TrodVars enc P W' sp s.vars (s.fn H (ds++[])).vars []:=fun sp=>by
  rw [hsv,hvs]; rfl
 refine ⟨ds,[],p,[],p,[],hW,hres _ _ _,hargs _ hold,hvars _,World.keptBut_mono (fun x hx=>⟨hx,Or.inr (Or.inl hx)⟩) (hb.frame (· ∈ p)),fun _=>?_⟩
 obtain ⟨_,_,_,_,_,hz,hn⟩:=hW
 refine ⟨?_,_,_,([]++p)++[],⟨[]++p,[],trodAll_append (hargs _ (fun _ _=>rfl)) (hres _ _ _),hvars _,rfl,?_,?_⟩,?_⟩
 ·intro j t' r h1 h2
  rw [hrt] at h1 h2
  match j with
  | 0=>
   simp at h1; subst h1
   have h3:((Value.bool true).resultList 1) = [.bool true]:=rfl
   have h4:(#[t]:Array TypeId).size = 1:=rfl
   rw [h4,h3] at h2
   simp at h2; subst h2
   exact okWide_bool_mk ht _
  | j + 1=>simp at h1
 ·intro b off hp
  have hin:MemPlace.cell b off ∈ p:=by simpa using hp
  rw [hb.frozen (hlt _ hin)]
  exact hz b off hin
 ·intro ha
  have:=hn ha
  simpa using this
 ·intro x hx _
  simpa using hx
end
end
section
open Go Go.RowKit
section
variable {P:Program} {B w:World} {Γ:List zC} {E esz:Nat} {s:Sl} {vs:List Value}
theorem SlC.take {m:Nat} (hm:m ≤ s.n) (g:Hp) (h:SlC E esz s vs g):SlC E esz ⟨s.a,m,s.c⟩ (vs.take (m * esz)) g:=by
 obtain ⟨hl,hc,hs⟩:=h
 have h1:m * esz ≤ vs.length:=by rw [hl]; exact Nat.mul_le_mul_right _ hm
 refine ⟨by simp only [List.length_take]; omega,by simp only; omega,?_⟩
 cases ha:s.a with
 | none=>rw [ha] at hs; exact hs
 | some a=>
  rw [ha] at hs
  obtain ⟨hsp,cs,fz,hb,hf,hsz,hv⟩:=hs
  refine ⟨hsp,cs,fz,hb,hf,hsz,fun i hi=>?_⟩
  rw [List.length_take] at hi
  rw [List.getElem?_take,if_pos (by omega)]
  exact hv i (by omega)
theorem RdC.drop {l c:Nat} (h:RdC w s esz vs) (hl:l ≤ s.n) (hc:s.n ≤ c) (hsp:∀ a,s.a = some a→a.spot = none):RdC w ⟨uN s.a l c esz,s.n - l,c - l⟩ esz (vs.drop (l * esz)):=by
 have h1:=h.len
 refine ⟨by rw [List.length_drop,h1,← Nat.sub_mul],fun hn=>?_,fun a ha i hi=>?_⟩
 ·simp only at hn ⊢
  unfold uN at hn
  split at hn
  ·have:=h.nil hn; omega
  ·cases hx:s.a with
   | none=>have:=h.nil hx; omega
   | some a=>rw [hx] at hn; cases hn
 ·simp only at ha
  rw [List.length_drop] at hi
  unfold uN at ha
  split at ha
  ·rename_i hcl
   have:s.n = l:=by omega
   rw [h1,this] at hi
   omega
  ·cases hx:s.a with
   | none=>rw [hx] at ha; cases ha
   | some a0=>
    rw [hx] at ha
    simp only [Option.map_some,Option.some.injEq] at ha
    subst ha
    rw [add_add' _ (hsp a0 hx),h.at' a0 hx _ (by omega),List.getElem?_drop]
theorem RdC.take {m c:Nat} (h:RdC w s esz vs) (hm:m ≤ s.n):RdC w ⟨s.a,m,c⟩ esz (vs.take (m * esz)):=by
 have h1:=h.len
 have h2:m * esz ≤ vs.length:=by rw [h1]; exact Nat.mul_le_mul_right _ hm
 refine ⟨by simp only [List.length_take]; omega,fun hn=>?_,fun a ha i hi=>?_⟩
 ·have:=h.nil hn; simp only; omega
 ·rw [List.length_take] at hi
  rw [List.getElem?_take,if_pos (by omega)]
  exact h.at' a ha i (by omega)
theorem Holds.jd (h:Holds B (SlC E esz s vs::Γ) w):vs.length = s.n * esz∧s.n ≤ s.c∧(∀ a,s.a = some a→a.spot = none)∧(s.a = none→s.c = 0):=by
 refine h.fact fun g hg=>⟨hg.1,hg.2.1,fun a ha=>?_,fun ha=>?_⟩
 ·have:=hg.2.2; rw [ha] at this; exact this.1
 ·have:=hg.2.2; rw [ha] at this; exact this
end
end
section
open Go Go.RowKit
section
variable {w:World}
theorem all_cons {x:World→Prop} {l:List (World→Prop)} (h:x w) (hl:All l w):All (x::l) w:=fun i y hy=>by
 cases i with
 | zero=>simp at hy; subst hy; exact h
 | succ i=>exact hl i y (by simpa using hy)
theorem uq (xs:List UInt8):(ByteArray.mk xs.toArray).toList = xs:=ByteArray.toList_mk xs
end
end
section
open Go Go.RowKit
section
variable {B w:World} {Γ:List zC}
theorem RdC.none' {esz c:Nat}:RdC w ⟨none,0,c⟩ esz []:=⟨by simp,fun _=>rfl,fun a h=>by cases h⟩
theorem zEB {α:Type} {c:α→Value} {L:List α} {s:Sl} {j:Nat} {x:α} {k:α→K} (hr:RdC w s 1 (L.map c)) (hx:L[j]? = some x) (hk:k x w) :
  Idx s (j:Int) 1 (fun t=>Ld t c k) w:=by
 have hj:j < L.length:=(List.getElem?_eq_some_iff.1 hx).1
 have hn:L.length = s.n:=by have:=hr.len; simpa using this
 cases ha:s.a with
 | none=>have:=hr.nil ha; omega
 | some a=>
  refine ⟨a,_,ha,by omega,by omega,rfl,x,?_,hk⟩
  simp only [Int.toNat_natCast,Nat.mul_one]
  rw [hr.at' a ha j (by simpa using hj)]
  simp [hx]
theorem SlC.cut {E esz:Nat} {s:Sl} {vs:List Value} {m:Nat} (hm:m ≤ s.n) (g:Hp) (h:SlC E esz s vs g):SlC E esz ⟨s.a,m,m⟩ (vs.take (m * esz)) g:=by
 have hc:=h.2.1
 obtain ⟨hl,_,hs⟩:=SlC.take hm g h
 refine ⟨hl,Nat.le_refl _,?_⟩
 have h1:m * esz ≤ s.c * esz:=Nat.mul_le_mul_right _ (by omega)
 cases ha:s.a with
 | none=>rw [ha] at hs; simp only at hs ⊢; omega
 | some a=>
  rw [ha] at hs
  obtain ⟨hsp,cs,fz,hb,hf,hsz,hv⟩:=hs
  exact ⟨hsp,cs,fz,hb,fun i h2 h3=>hf i h2 (by simp only at h3 ⊢; omega),by simp only at hsz ⊢; omega,hv⟩
theorem SlC.zOT {E esz:Nat} {s:Sl} {vs:List Value} {l:Nat} (hl:l ≤ s.n) (g:Hp) (h:SlC E esz s vs g):SlC E esz ⟨uN s.a l s.c esz,s.n - l,s.c - l⟩ (vs.drop (l * esz)) g:=by
 obtain ⟨hn,hc,hs⟩:=h
 have h1:l * esz ≤ s.n * esz:=Nat.mul_le_mul_right _ hl
 have h2:(s.n - l) * esz = s.n * esz - l * esz:=Nat.sub_mul _ _ _
 have h3:(s.c - l) * esz = s.c * esz - l * esz:=Nat.sub_mul _ _ _
 have h4:s.n * esz ≤ s.c * esz:=Nat.mul_le_mul_right _ hc
 refine ⟨by simp only [List.length_drop]; omega,by simp only; omega,?_⟩
 cases ha:s.a with
 | none=>
  rw [ha] at hs
  simp only at hs
  have:uN none l s.c esz = none:=by unfold uN; split <;> rfl
  rw [this]; simp only; omega
 | some a=>
  rw [ha] at hs
  obtain ⟨hsp,cs,fz,hb,hf,hsz,hv⟩:=hs
  obtain ⟨b,o,sp⟩:=a
  simp only at hsp hb hf hsz hv
  subst hsp
  by_cases hcl:s.c = l
  ·have hz:s.n - l = 0:=by omega
   have:uN (some ⟨b,o,none⟩) l s.c esz = some ⟨b,o,none⟩:=by unfold uN; rw [if_pos hcl]
   rw [this]
   refine ⟨rfl,cs,fz,hb,fun i g1 g2=>hf i g1 ?_,?_,fun i hi=>?_⟩
   ·simp only at g2; omega
   ·simp only; omega
   ·rw [List.length_drop,hn] at hi
    rw [hz] at h2
    omega
  ·have:uN (some ⟨b,o,none⟩) l s.c esz = some ⟨b,o + l * esz,none⟩:=by unfold uN; rw [if_neg hcl]; simp [yB]
   rw [this]
   refine ⟨rfl,cs,fz,hb,fun i g1 g2=>hf i ?_ ?_,?_,fun i hi=>?_⟩
   ·simp only at g1; omega
   ·simp only at g2; omega
   ·simp only; omega
   ·rw [List.length_drop] at hi
    rw [List.getElem?_drop,← hv (l * esz + i) (by omega)]
    simp only [Nat.add_assoc]
theorem zHe {α:Type} {f:α→zC} {l:List α} (i:Nat) {x:α} (hx:l[i]? = some x) (h:Holds B (stars (l.map f)::Γ) w):Holds B (f x::stars ((l.eraseIdx i).map f)::Γ) w:=by
 have h1:=Holds.flat.1 h
 have h2:(l.map f++Γ).Perm (f x::((l.eraseIdx i).map f++Γ)):=by
  have h3:(l.map f).Perm (f x::(l.eraseIdx i).map f):=by
   have:=(zCW hx).map f
   simpa using this
  exact h3.append_right Γ
 have h4:Holds B (f x::((l.eraseIdx i).map f++Γ)) w:=h1.perm h2
 have h5:Holds B ((l.eraseIdx i).map f++f x::Γ) w:=h4.perm List.perm_middle.symm
 exact (Holds.flat.2 h5).swap
theorem zFA {α:Type} {f:α→zC} {l:List α} {x:α} (h:Holds B (stars (l.map f)::f x::Γ) w):Holds B (stars ((l++[x]).map f)::Γ) w:=by
 have:=h.snoc
 rwa [show l.map f++[f x] = (l++[x]).map f by simp] at this
theorem zJ9 {α:Type} {f:α→zC} {l:List α} {x:α} {E esz:Nat} {s:Sl} {vs:List Value} (i:Nat) (h:Holds B Γ w) (hi:Γ[i]? = some (stars (l.map f))) (hx:x ∈ l) (hf:f x = SlC E esz s vs):RdC w s esz vs:=by
 have h1:=Holds.flat.1 (h.pick i hi)
 refine h1.rdC (E:=E) ?_
 rw [← hf]
 exact List.mem_append_left _ (List.mem_map_of_mem hx)
theorem zMO {α:Type} (c:α→Value):∀ l:List α,l.flatMap (fun b=>[c b]) = l.map c
 | []=>rfl
 | x::l=>by simp [List.flatMap_cons,zMO c l]
theorem zLZ {k:IntKind} {s:Sl} (hn:s.a = none→s.n = 0∧s.c = 0)
  (h:∀ a i,s.a = some a→i < s.n→∃ cs',cs'.length = 1∧(∀ j,j < 1→w.cell? (a.add (i * 1 + j)) = cs'[j]?)∧Rdy w (.int k) cs') :
  ∃ xs:List Int,xs.length = s.n∧RdC w s 1 (xs.map (Value.int k))∧∀ x ∈ xs,(Lit.int k x).wf = true:=by
 obtain ⟨l,hl,hr,hw⟩:=zLX (e:=.int k) (fun b:Int=>[Value.int k b]) (fun b=>(Lit.int k b).wf = true) (fun _=>rfl) hn h (fun cs hc hr=>by
  obtain ⟨n,rfl,hw⟩:=hr
  exact ⟨n,rfl,hw⟩)
 rw [zMO] at hr
 exact ⟨l,hl,hr,hw⟩
theorem zNG {s:Sl} {c esz:Nat} (hsp:∀ a,s.a = some a→a.spot = none):uN s.a 0 c esz = s.a:=by
 unfold uN
 split
 ·rfl
 ·cases hx:s.a with
  | none=>rfl
  | some a=>
   have:=hsp a hx
   obtain ⟨b,o,sp⟩:=a
   simp only at this; subst this
   simp [yB]
def slF (E esz:Nat) (s:Sl) (vs:List Value) (a:Addr) (cs:Array Value) (fz:Nat×Nat):Prop :=
 a.spot = none∧(∀ i,a.off ≤ i→i < a.off + s.c * esz→¬ (fz.1 ≤ i∧i < fz.2))∧a.off + s.c * esz ≤ cs.size∧(∀ i,i < vs.length→cs[a.off + i]? = vs[i]?)∧vs.length = s.n * esz∧s.n ≤ s.c
theorem zNH {E esz:Nat} {s:Sl} {vs:List Value} {a:Addr} (h:Holds B (SlC E esz s vs::Γ) w) (ha:s.a = some a):∃ cs fz,Holds B (blk a.block (.cells cs E fz)::Γ) w∧slF E esz s vs a cs fz:=by
 have h1:Holds B ((ex fun cs:Array Value=>ex fun fz:Nat×Nat=>fun g=>slF E esz s vs a cs fz∧blk a.block (.cells cs E fz) g)::Γ) w:=h.imp fun g hg=>by
  obtain ⟨hl,hc,hs⟩:=hg
  rw [ha] at hs
  obtain ⟨hsp,cs,fz,hb,hf,hsz,hv⟩:=hs
  exact ⟨cs,fz,⟨hsp,hf,hsz,hv,hl,hc⟩,hb⟩
 obtain ⟨cs,h1⟩:=Holds.ex.1 h1
 obtain ⟨fz,h1⟩:=Holds.ex.1 h1
 exact ⟨cs,fz,h1.imp fun g hg=>hg.2,h1.fact fun g hg=>hg.1⟩
theorem zNI {E esz:Nat} {s:Sl} {vs:List Value} {a:Addr} {cs:Array Value} {fz:Nat×Nat} (ha:s.a = some a) (h:Holds B (blk a.block (.cells cs E fz)::Γ) w) (hF:slF E esz s vs a cs fz):Holds B (SlC E esz s vs::Γ) w :=
 h.imp fun g hg=>by
  obtain ⟨hsp,hf,hsz,hv,hl,hc⟩:=hF
  refine ⟨hl,hc,?_⟩
  rw [ha]
  exact ⟨hsp,cs,fz,hg,hf,hsz,hv⟩
theorem zKA {s s':Sl} (h:(Sl.val s).cells.toList = [s'.val]):s' = s:=by
 obtain ⟨a,n,c⟩:=s
 obtain ⟨a',n',c'⟩:=s'
 have h2:[Value.slice a n c] = [Value.slice a' n' c']:=h
 cases h2; rfl
theorem zNJ {e:Sh} {esz:Nat} {s:Sl} (y:Rdy w (.sl e esz) (Sl.val s).cells.toList):(s.a = none→s.n = 0∧s.c = 0) ∧
  ∀ a i,s.a = some a→i < s.n→∃ cs',cs'.length = esz∧(∀ j,j < esz→w.cell? (a.add (i * esz + j)) = cs'[j]?)∧Rdy w e cs':=by
 obtain ⟨s',h,_,_,h1,h2⟩:=y
 obtain rfl:=zKA h
 exact ⟨h1,h2⟩
theorem zKB {k:IntKind} {s:Sl} (y:Rdy w (.sl (.int k) 1) (Sl.val s).cells.toList):∃ xs:List Int,RdC w s 1 (xs.map (Value.int k))∧∀ x ∈ xs,(Lit.int k x).wf = true:=by
 obtain ⟨h1,h2⟩:=zNJ y
 obtain ⟨xs,_,h3,h4⟩:=zLZ h1 h2
 exact ⟨xs,h3,h4⟩
end
theorem M0 { x:zC} {l:List zC}:x ∈ x::l:=List.mem_cons_self
theorem M1 {a0 x:zC} {l:List zC}:x ∈ a0::x::l:=List.mem_cons_of_mem _ (List.mem_cons_self)
theorem M2 {a0 a1 x:zC} {l:List zC}:x ∈ a0::a1::x::l:=List.mem_cons_of_mem _ (List.mem_cons_of_mem _ (List.mem_cons_self))
theorem M3 {a0 a1 a2 x:zC} {l:List zC}:x ∈ a0::a1::a2::x::l:=List.mem_cons_of_mem _ (List.mem_cons_of_mem _ (List.mem_cons_of_mem _ (List.mem_cons_self)))
theorem M4 {a0 a1 a2 a3 x:zC} {l:List zC}:x ∈ a0::a1::a2::a3::x::l:=List.mem_cons_of_mem _ (List.mem_cons_of_mem _ (List.mem_cons_of_mem _ (List.mem_cons_of_mem _ (List.mem_cons_self))))
theorem M5 {a0 a1 a2 a3 a4 x:zC} {l:List zC}:x ∈ a0::a1::a2::a3::a4::x::l:=List.mem_cons_of_mem _ (List.mem_cons_of_mem _ (List.mem_cons_of_mem _ (List.mem_cons_of_mem _ (List.mem_cons_of_mem _ (List.mem_cons_self)))))
theorem M6 {a0 a1 a2 a3 a4 a5 x:zC} {l:List zC}:x ∈ a0::a1::a2::a3::a4::a5::x::l:=List.mem_cons_of_mem _ (List.mem_cons_of_mem _ (List.mem_cons_of_mem _ (List.mem_cons_of_mem _ (List.mem_cons_of_mem _ (List.mem_cons_of_mem _ (List.mem_cons_self))))))
theorem M7 {a0 a1 a2 a3 a4 a5 a6 x:zC} {l:List zC}:x ∈ a0::a1::a2::a3::a4::a5::a6::x::l:=List.mem_cons_of_mem _ (List.mem_cons_of_mem _ (List.mem_cons_of_mem _ (List.mem_cons_of_mem _ (List.mem_cons_of_mem _ (List.mem_cons_of_mem _ (List.mem_cons_of_mem _ (List.mem_cons_self)))))))
theorem M8 {a0 a1 a2 a3 a4 a5 a6 a7 x:zC} {l:List zC}:x ∈ a0::a1::a2::a3::a4::a5::a6::a7::x::l:=List.mem_cons_of_mem _ (List.mem_cons_of_mem _ (List.mem_cons_of_mem _ (List.mem_cons_of_mem _ (List.mem_cons_of_mem _ (List.mem_cons_of_mem _ (List.mem_cons_of_mem _ (List.mem_cons_of_mem _ (List.mem_cons_self))))))))
theorem M9 {a0 a1 a2 a3 a4 a5 a6 a7 a8 x:zC} {l:List zC}:x ∈ a0::a1::a2::a3::a4::a5::a6::a7::a8::x::l:=List.mem_cons_of_mem _ (List.mem_cons_of_mem _ (List.mem_cons_of_mem _ (List.mem_cons_of_mem _ (List.mem_cons_of_mem _ (List.mem_cons_of_mem _ (List.mem_cons_of_mem _ (List.mem_cons_of_mem _ (List.mem_cons_of_mem _ (List.mem_cons_self)))))))))
theorem M10 {a0 a1 a2 a3 a4 a5 a6 a7 a8 a9 x:zC} {l:List zC}:x ∈ a0::a1::a2::a3::a4::a5::a6::a7::a8::a9::x::l:=List.mem_cons_of_mem _ (List.mem_cons_of_mem _ (List.mem_cons_of_mem _ (List.mem_cons_of_mem _ (List.mem_cons_of_mem _ (List.mem_cons_of_mem _ (List.mem_cons_of_mem _ (List.mem_cons_of_mem _ (List.mem_cons_of_mem _ (List.mem_cons_of_mem _ (List.mem_cons_self))))))))))
theorem M11 {a0 a1 a2 a3 a4 a5 a6 a7 a8 a9 a10 x:zC} {l:List zC}:x ∈ a0::a1::a2::a3::a4::a5::a6::a7::a8::a9::a10::x::l:=List.mem_cons_of_mem _ (List.mem_cons_of_mem _ (List.mem_cons_of_mem _ (List.mem_cons_of_mem _ (List.mem_cons_of_mem _ (List.mem_cons_of_mem _ (List.mem_cons_of_mem _ (List.mem_cons_of_mem _ (List.mem_cons_of_mem _ (List.mem_cons_of_mem _ (List.mem_cons_of_mem _ (List.mem_cons_self)))))))))))
theorem M12 {a0 a1 a2 a3 a4 a5 a6 a7 a8 a9 a10 a11 x:zC} {l:List zC}:x ∈ a0::a1::a2::a3::a4::a5::a6::a7::a8::a9::a10::a11::x::l:=List.mem_cons_of_mem _ (List.mem_cons_of_mem _ (List.mem_cons_of_mem _ (List.mem_cons_of_mem _ (List.mem_cons_of_mem _ (List.mem_cons_of_mem _ (List.mem_cons_of_mem _ (List.mem_cons_of_mem _ (List.mem_cons_of_mem _ (List.mem_cons_of_mem _ (List.mem_cons_of_mem _ (List.mem_cons_of_mem _ (List.mem_cons_self))))))))))))
section
variable {B w:World}
theorem P1 {a0 x:zC} {l:List zC} (h:Holds B (a0::x::l) w):Holds B (x::a0::l) w:=h.pick (i:=1) rfl
theorem P2 {a0 a1 x:zC} {l:List zC} (h:Holds B (a0::a1::x::l) w):Holds B (x::a0::a1::l) w:=h.pick (i:=2) rfl
theorem P3 {a0 a1 a2 x:zC} {l:List zC} (h:Holds B (a0::a1::a2::x::l) w):Holds B (x::a0::a1::a2::l) w:=h.pick (i:=3) rfl
theorem P4 {a0 a1 a2 a3 x:zC} {l:List zC} (h:Holds B (a0::a1::a2::a3::x::l) w):Holds B (x::a0::a1::a2::a3::l) w:=h.pick (i:=4) rfl
theorem P5 {a0 a1 a2 a3 a4 x:zC} {l:List zC} (h:Holds B (a0::a1::a2::a3::a4::x::l) w):Holds B (x::a0::a1::a2::a3::a4::l) w:=h.pick (i:=5) rfl
theorem P6 {a0 a1 a2 a3 a4 a5 x:zC} {l:List zC} (h:Holds B (a0::a1::a2::a3::a4::a5::x::l) w):Holds B (x::a0::a1::a2::a3::a4::a5::l) w:=h.pick (i:=6) rfl
theorem P7 {a0 a1 a2 a3 a4 a5 a6 x:zC} {l:List zC} (h:Holds B (a0::a1::a2::a3::a4::a5::a6::x::l) w):Holds B (x::a0::a1::a2::a3::a4::a5::a6::l) w:=h.pick (i:=7) rfl
theorem P8 {a0 a1 a2 a3 a4 a5 a6 a7 x:zC} {l:List zC} (h:Holds B (a0::a1::a2::a3::a4::a5::a6::a7::x::l) w):Holds B (x::a0::a1::a2::a3::a4::a5::a6::a7::l) w:=h.pick (i:=8) rfl
theorem P9 {a0 a1 a2 a3 a4 a5 a6 a7 a8 x:zC} {l:List zC} (h:Holds B (a0::a1::a2::a3::a4::a5::a6::a7::a8::x::l) w):Holds B (x::a0::a1::a2::a3::a4::a5::a6::a7::a8::l) w:=h.pick (i:=9) rfl
theorem P10 {a0 a1 a2 a3 a4 a5 a6 a7 a8 a9 x:zC} {l:List zC} (h:Holds B (a0::a1::a2::a3::a4::a5::a6::a7::a8::a9::x::l) w):Holds B (x::a0::a1::a2::a3::a4::a5::a6::a7::a8::a9::l) w:=h.pick (i:=10) rfl
theorem D1 {a0 x:zC} {l:List zC} (h:Holds B (a0::x::l) w):Holds B (a0::l) w:=h.del (i:=1) rfl
theorem D2 {a0 a1 x:zC} {l:List zC} (h:Holds B (a0::a1::x::l) w):Holds B (a0::a1::l) w:=h.del (i:=2) rfl
theorem D3 {a0 a1 a2 x:zC} {l:List zC} (h:Holds B (a0::a1::a2::x::l) w):Holds B (a0::a1::a2::l) w:=h.del (i:=3) rfl
theorem D4 {a0 a1 a2 a3 x:zC} {l:List zC} (h:Holds B (a0::a1::a2::a3::x::l) w):Holds B (a0::a1::a2::a3::l) w:=h.del (i:=4) rfl
theorem D5 {a0 a1 a2 a3 a4 x:zC} {l:List zC} (h:Holds B (a0::a1::a2::a3::a4::x::l) w):Holds B (a0::a1::a2::a3::a4::l) w:=h.del (i:=5) rfl
theorem D6 {a0 a1 a2 a3 a4 a5 x:zC} {l:List zC} (h:Holds B (a0::a1::a2::a3::a4::a5::x::l) w):Holds B (a0::a1::a2::a3::a4::a5::l) w:=h.del (i:=6) rfl
end
section
variable {α:Type _}
theorem N1 (a b:α) (l:List α):(a::l).set 0 b = b::l:=rfl
theorem N2 (a b:α) (l:List α) (n:Nat):(a::l).set (n + 1) b = a::l.set n b:=rfl
theorem N3 (l:List α):l.eraseIdx 0 = l.tail:=List.eraseIdx_zero
theorem N4 (a:α) (l:List α):(a::l).eraseIdx 0 = l:=rfl
theorem N5 (a:α) (l:List α) (n:Nat):(a::l).eraseIdx (n + 1) = a::l.eraseIdx n:=rfl
theorem N6 (l:List α) (i:Nat) (a:α):l.toArray.setIfInBounds i a = (l.set i a).toArray:=List.setIfInBounds_toArray ..
theorem N7 (a:α) (l:List α):(a::l).tail = l:=rfl
end
section
variable {B w:World} {a:Addr} {b off n:Nat} {cs vs:Array Value} {T:TypeId} {v:Value} {k:K} {l:List zC}
theorem S0 (h:Holds B (blk b (.cells cs T (0,0))::l) w) (ha:a = ⟨b,off,none⟩) (ho:off < cs.size) (hv:qj v = true) (hk:∀ w',Holds B (blk b (.cells (cs.setIfInBounds off v) T (0,0))::l) w'→k w'):St a v k w:=zFe 0 h ha rfl ho (zEh _) hv hk
theorem T0 (h:Holds B (blk b (.cells cs T (0,0))::l) w) (ha:a = ⟨b,0,none⟩) (hn:cs.size = n) (hv:vs.size = n) (hfl:∀ v ∈ vs.toList,qj v = true) (hk:∀ w',Holds B (blk b (.cells vs T (0,0))::l) w'→k w'):StN a n vs k w:=zNx 0 h ha rfl hn hv (fun _ _=>zEh _) hfl hk
theorem S1 {a0:zC} (h:Holds B (a0::blk b (.cells cs T (0,0))::l) w) (ha:a = ⟨b,off,none⟩) (ho:off < cs.size) (hv:qj v = true) (hk:∀ w',Holds B (a0::blk b (.cells (cs.setIfInBounds off v) T (0,0))::l) w'→k w'):St a v k w:=zFe 1 h ha rfl ho (zEh _) hv hk
theorem S2 {a0 a1:zC} (h:Holds B (a0::a1::blk b (.cells cs T (0,0))::l) w) (ha:a = ⟨b,off,none⟩) (ho:off < cs.size) (hv:qj v = true) (hk:∀ w',Holds B (a0::a1::blk b (.cells (cs.setIfInBounds off v) T (0,0))::l) w'→k w'):St a v k w:=zFe 2 h ha rfl ho (zEh _) hv hk
theorem S3 {a0 a1 a2:zC} (h:Holds B (a0::a1::a2::blk b (.cells cs T (0,0))::l) w) (ha:a = ⟨b,off,none⟩) (ho:off < cs.size) (hv:qj v = true) (hk:∀ w',Holds B (a0::a1::a2::blk b (.cells (cs.setIfInBounds off v) T (0,0))::l) w'→k w'):St a v k w:=zFe 3 h ha rfl ho (zEh _) hv hk
theorem S4 {a0 a1 a2 a3:zC} (h:Holds B (a0::a1::a2::a3::blk b (.cells cs T (0,0))::l) w) (ha:a = ⟨b,off,none⟩) (ho:off < cs.size) (hv:qj v = true) (hk:∀ w',Holds B (a0::a1::a2::a3::blk b (.cells (cs.setIfInBounds off v) T (0,0))::l) w'→k w'):St a v k w:=zFe 4 h ha rfl ho (zEh _) hv hk
theorem S5 {a0 a1 a2 a3 a4:zC} (h:Holds B (a0::a1::a2::a3::a4::blk b (.cells cs T (0,0))::l) w) (ha:a = ⟨b,off,none⟩) (ho:off < cs.size) (hv:qj v = true) (hk:∀ w',Holds B (a0::a1::a2::a3::a4::blk b (.cells (cs.setIfInBounds off v) T (0,0))::l) w'→k w'):St a v k w:=zFe 5 h ha rfl ho (zEh _) hv hk
theorem S6 {a0 a1 a2 a3 a4 a5:zC} (h:Holds B (a0::a1::a2::a3::a4::a5::blk b (.cells cs T (0,0))::l) w) (ha:a = ⟨b,off,none⟩) (ho:off < cs.size) (hv:qj v = true) (hk:∀ w',Holds B (a0::a1::a2::a3::a4::a5::blk b (.cells (cs.setIfInBounds off v) T (0,0))::l) w'→k w'):St a v k w:=zFe 6 h ha rfl ho (zEh _) hv hk
theorem S7 {a0 a1 a2 a3 a4 a5 a6:zC} (h:Holds B (a0::a1::a2::a3::a4::a5::a6::blk b (.cells cs T (0,0))::l) w) (ha:a = ⟨b,off,none⟩) (ho:off < cs.size) (hv:qj v = true) (hk:∀ w',Holds B (a0::a1::a2::a3::a4::a5::a6::blk b (.cells (cs.setIfInBounds off v) T (0,0))::l) w'→k w'):St a v k w:=zFe 7 h ha rfl ho (zEh _) hv hk
theorem S8 {a0 a1 a2 a3 a4 a5 a6 a7:zC} (h:Holds B (a0::a1::a2::a3::a4::a5::a6::a7::blk b (.cells cs T (0,0))::l) w) (ha:a = ⟨b,off,none⟩) (ho:off < cs.size) (hv:qj v = true) (hk:∀ w',Holds B (a0::a1::a2::a3::a4::a5::a6::a7::blk b (.cells (cs.setIfInBounds off v) T (0,0))::l) w'→k w'):St a v k w:=zFe 8 h ha rfl ho (zEh _) hv hk
end
end
end Go.Sep
namespace Go.Proofs.YtgmbfnboiobeaaaGreat
section
open Go Go.Sep
set_option maxHeartbeats 4000000
attribute [local irreducible] G Gp Cx Tx Ex Sx Dx Ox Ax Lx Rx Fx Bx Bj Al Do Ld LdN St StN New zY Ar DoU Rd Rd2 Pu Cd Ite Fv u6 vS vP yt vD zAE zAo zBK Ext Dead Dr qx Sv LdS jw RdS zBZ Nn Idx zBa zBb Fld Bld Slc zBc Cat All yY vE vI vT
instance:CB Tryz.prog 107:=⟨by kernel_rfl⟩
instance:CB Tryz.prog 120:=⟨by kernel_rfl⟩
instance:CB Tryz.prog 131:=⟨by kernel_rfl⟩
instance:CB Tryz.prog 30:=⟨by kernel_rfl⟩
instance:CB Tryz.prog 34:=⟨by kernel_rfl⟩
instance:CB Tryz.prog 58:=⟨by kernel_rfl⟩
instance:CB Tryz.prog 98:=⟨by kernel_rfl⟩
instance:CT Tryz.prog 22:=⟨by kernel_rfl⟩
instance:CT Tryz.prog 5:=⟨by kernel_rfl⟩
instance:FT Tryz.prog 193 0 0 1:=⟨by kernel_rfl⟩
instance:FT Tryz.prog 85 0 0 1:=⟨by kernel_rfl⟩
instance:INT Tryz.prog 213 .u32:=⟨by kernel_rfl⟩
instance:INT Tryz.prog 3 .i64:=⟨by kernel_rfl⟩
instance:INT Tryz.prog 33 .u64:=⟨by kernel_rfl⟩
instance:INT Tryz.prog 5 .u8:=⟨by kernel_rfl⟩
instance:MX Tryz.prog:=⟨mixed⟩
instance:PLT Tryz.prog 193 [(0,1)]:=⟨_,Tryz.underlying193,by kernel_rfl⟩
instance:SLT Tryz.prog 22 5 1:=⟨by kernel_rfl⟩
instance:SZ Tryz.prog 22 1:=⟨by kernel_rfl⟩
instance:ZT Tryz.prog 193 (.agg #[(Sl.val ⟨none,0,0⟩)]):=⟨Tryz.t193,by kernel_rfl,by kernel_rfl⟩
instance:ZT Tryz.prog 5 (.int .u8 0):=⟨Tryz.t5,by kernel_rfl,by kernel_rfl⟩
def qz (f:Pt) (g:Int) (Q:K): K :=
 Nn f fun a=>
 Ld a Sl.val fun b=>
 New 5 #[.int .u8 g] fun c=>
 Do Tryz.prog (Builtin.append_ #[22,22] 22 #[Sl.val b,(Sl.val (Sl.mk (some c) 1 1))]) Sl.val fun d=>
 St a (Sl.val d)<|
 Q
theorem zCh (a b Q w) (h:qz a b Q w):qz.call a b Q w:=by
 exact zn 14 h Tryz.func33
def yj.b1 (Q:K) (q:Int→K) (d:Pt) (a:Int): K :=
 Ite (decide ((128:Int) ≤ a))
  (Nn d fun b=>
  Ld b Sl.val fun f=>
  Ar (IntKind.wrap .u8 a) fun g=>
  Ar (bitsOf .or .u8 g 128) fun i=>
  New 5 #[.int .u8 i] fun j=>
  Do Tryz.prog (Builtin.append_ #[22,22] 22 #[Sl.val f,(Sl.val (Sl.mk (some j) 1 1))]) Sl.val fun k=>
  St b (Sl.val k)<|
  Cd (0 ≤ (7:Int))<|
  Ar (uY .u64 a 7) fun l=>
  q l)
  (Nn d fun c=>
  Ld c Sl.val fun m=>
  Ar (IntKind.wrap .u8 a) fun n=>
  New 5 #[.int .u8 n] fun o=>
  Do Tryz.prog (Builtin.append_ #[22,22] 22 #[Sl.val m,(Sl.val (Sl.mk (some o) 1 1))]) Sl.val fun p=>
  St c (Sl.val p)<|
  Q)
def yj (a:Pt) (b:Int) (Q:K): K :=
 yY (α:=Int) (fun X x=>yj.b1 Q X a x) b
theorem zAd (a b Q w) (h:yj a b Q w):yj.call a b Q w:=by
 have:∀ c,LH 0 (fun x:Int=>[(0,.pointer c),(1,.int .u64 x)]) (fun X x=>yj.b1 Q X c x):=fun _=>⟨⟩
 exact zn 31 h Tryz.func34
def qQ (d:Pt) (Q:Sl→K): K :=
 Nn d fun a=>
 Ld a Sl.val fun b=>
 zh.call b fun c=>
 Q c
theorem zAK (a Q w) (h:qQ a Q w):qQ.call a Q w:=by
 exact zn 8 h Tryz.func56
def vK (c:Sl) (Q:Pt→K): K :=
 zh.call c fun a=>
 New 193 #[Sl.val a] fun b=>
 Q (some b)
theorem zEC (a Q w) (h:vK a Q w):vK.call a Q w:=by
 exact zn 7 h Tryz.func57
def ze.s3 (Q k:Int→Int→K) (b:Addr) (g i:Int) (j:Bool): K :=
 Ite j
  (Q 0 31)
  (Ld b Sl.val fun a=>
  Ar (IntKind.wrap .i64 (i + 1)) fun d=>
  Slc a d (a.n:Int) (a.c:Int) 1 fun f=>
  St b (Sl.val f)<|
  Q g 0)
def ze.s2 (Q c:Int→Int→K) (g:Addr) (m a d:Int) (p:Sl) (q n:Int) (o:Bool): K :=
 Ite o
  (Q 0 31)
  (Cd ((128:Int) ≠ 0)<|
  Ar (Int.tmod d 128) fun i=>
  Ar (IntKind.wrap .u64 i) fun j=>
  Ar (IntKind.wrap .i64 (7 * a)) fun f=>
  Cd (0 ≤ f)<|
  Ar (zBr .u64 j f) fun k=>
  Ar (bitsOf .or .u64 m k) fun b=>
  Ite (decide (d < 128))
   (Ite (decide (d = 0))
    (ze.s3 Q c g b a (decide ((0:Int) < a)))
    (ze.s3 Q c g b a false))
   (Ar (IntKind.wrap .i64 (n + 1)) fun l=>
   c b l))
def ze.b1 (Q f:Int→Int→K) (g:Addr) (c:Sl) (d i a:Int): K :=
 Ite (decide (a < d))
  (Idx c a 1 fun j=>
  Ld j (Value.int .u8) fun b=>
  Ite (decide (a = 9))
   (ze.s2 Q f g i a b c d a (decide ((1:Int) < b)))
   (ze.s2 Q f g i a b c d a false))
  (Q 0 30)
def ze (f:Pt) (Q:Int→Int→K): K :=
 Nn f fun a=>
 Ld a Sl.val fun b=>
 yY (α:=Int×Int) (fun X x=>ze.b1 Q (fun c d=>X (c,d)) a b (b.n:Int) x.1 x.2) (0,0)
theorem zDT (p Q w) (h:ze p Q w):ze.call p Q w:=by
 have:∀ c,XH 2 c→JH 9 fun D=>∃ d f g,D [(0,(.pointer (some d))),(2,.int .u64 f),(4,.int .i64 g)] (fun C=>∀ q,C [(0,(.pointer (some d))),(2,.int .u64 f),(4,.int .i64 g),(37,.bool q)] (ze.s3 Q (fun a b=>c (a,b)) d f g q)):=by intros; exact ⟨fun _ ⟨_,_,_,h⟩=>⟨_,_,h⟩⟩
 have:∀ c,XH 2 c→JH 5 fun D=>∃ i j k l m n o,D [(0,(.pointer (some i))),(2,.int .u64 j),(4,.int .i64 k),(5,.int .u8 l),(9,Sl.val m),(10,.int .i64 n),(11,.int .i64 o)] (fun C=>∀ r,C [(0,(.pointer (some i))),(2,.int .u64 j),(4,.int .i64 k),(5,.int .u8 l),(9,Sl.val m),(10,.int .i64 n),(11,.int .i64 o),(21,.bool r)] (ze.s2 Q (fun a b=>c (a,b)) i j k l m n o r)):=by intros; exact ⟨fun _ ⟨_,_,_,_,_,_,_,h⟩=>⟨_,_,h⟩⟩
 have:∀ s t u,LH 2 (fun x:Int×Int=>[(0,(.pointer (some s))),(2,.int .u64 x.1),(9,Sl.val t),(10,.int .i64 u),(11,.int .i64 x.2)]) (fun X x=>ze.b1 Q (fun a b=>X (a,b)) s t u x.1 x.2):=fun _ _ _=>⟨⟩
 exact zn 50 h Tryz.func58
def xS (k:Pt) (Q:Int→Int→K): K :=
 Nn k fun a=>
 Ld a Sl.val fun d=>
 Ite (decide ((d.n:Int) = 0))
  (Q 0 30)
  (Ld a Sl.val fun f=>
  Idx f 0 1 fun g=>
  Ld g (Value.int .u8) fun i=>
  Ld a Sl.val fun b=>
  Slc b 1 (b.n:Int) (b.c:Int) 1 fun j=>
  St a (Sl.val j)<|
  Q i 0)
theorem zCi (a Q w) (h:xS a Q w):xS.call a Q w:=by
 exact zn 26 h Tryz.func59
def xM (c:Pt) (Q:Int→K): K :=
 Nn c fun a=>
 Ld a Sl.val fun b=>
 Ite (decide ((0:Int) < (b.n:Int)))
  (Q 32)
  (Q 0)
theorem zDU (a Q w) (h:xM a Q w):xM.call a Q w:=by
 exact zn 9 h Tryz.func60
def xu (a:Sl) (Q:Sl→Int→K): K :=
 Ite (decide ((4096:Int) < (a.n:Int)))
  (Q (Sl.mk none 0 0) 1)
  (uH.call a fun b=>
  Cd (0 ≤ (8:Int))<|
  Ar (uY .i64 (a.n:Int) 8) fun c=>
  Ar (IntKind.wrap .u8 c) fun d=>
  Ar (IntKind.wrap .u8 (a.n:Int)) fun f=>
  Ar (IntKind.wrap .u8 b) fun g=>
  Cd (0 ≤ (8:Int))<|
  Ar (uY .u32 b 8) fun i=>
  Ar (IntKind.wrap .u8 i) fun j=>
  Cd (0 ≤ (16:Int))<|
  Ar (uY .u32 b 16) fun k=>
  Ar (IntKind.wrap .u8 k) fun l=>
  Cd (0 ≤ (24:Int))<|
  Ar (uY .u32 b 24) fun m=>
  Ar (IntKind.wrap .u8 m) fun o=>
  New 5 #[.int .u8 d,.int .u8 f,.int .u8 g,.int .u8 j,.int .u8 l,.int .u8 o] fun p=>
  Do Tryz.prog (Builtin.append_ #[22,22] 22 #[(Sl.val (Sl.mk (some p) 6 6)),Sl.val a]) Sl.val fun q=>
  Q q 0)
theorem zEk (a Q w) (h:xu a Q w):xu.call a Q w:=by
 exact zn 33 h Tryz.func98
def q8.s1 (Q:Sl→Int→K) (a:Addr) (l:Sl) (f g:Int): K :=
 Ite (decide (g ≠ 0))
  (St a (Sl.val l)<|
  Q (Sl.mk none 0 0) g)
  (Ld a Sl.val fun d=>
  Slc d 0 f (d.c:Int) 1 fun i=>
  zh.call i fun j=>
  Ld a Sl.val fun b=>
  Slc b f (b.n:Int) (b.c:Int) 1 fun k=>
  St a (Sl.val k)<|
  Q j 0)
def q8.s2 (Q:Sl→Int→K) (a:Addr) (b:Sl) (c d:Int) (f:Bool): K :=
 Ite f
  (q8.s1 Q a b c 30)
  (q8.s1 Q a b c d)
def q8 (i:Pt) (Q:Sl→Int→K): K :=
 Nn i fun a=>
 Ld a Sl.val fun d=>
 ze.call (some a) fun b c=>
 Ite (decide (c = 0))
  (Ld a Sl.val fun f=>
  Ar (IntKind.wrap .u64 (f.n:Int)) fun g=>
  q8.s2 Q a d b c (decide (g < b)))
  (q8.s2 Q a d b c false)
def xP (a:Sl) (Q:Sl→Int→Int→K): K :=
 Ite (decide ((a.n:Int) < 6))
  (Q (Sl.mk none 0 0) 0 30)
  (Dr<|
  Idx a 0 1 fun f=>
  Ld f (Value.int .u8) fun g=>
  Ar (IntKind.wrap .i64 g) fun i=>
  Cd (0 ≤ (8:Int))<|
  Ar (zBr .i64 i 8) fun j=>
  Idx a 1 1 fun k=>
  Ld k (Value.int .u8) fun l=>
  Ar (IntKind.wrap .i64 l) fun m=>
  Ar (bitsOf .or .i64 j m) fun d=>
  Ite (decide ((4096:Int) < d))
   (Q (Sl.mk none 0 0) 0 31)
   (Ar (IntKind.wrap .i64 ((a.n:Int) - 6)) fun o=>
   Ite (decide (o < d))
    (Q (Sl.mk none 0 0) 0 30)
    (Ar (IntKind.wrap .i64 (6 + d)) fun p=>
    Slc a 6 p (a.c:Int) 1 fun q=>
    xu.call q fun b v=>
    Ar (IntKind.wrap .i64 (6 + d)) fun r=>
    Slc a 0 r (a.c:Int) 1 fun s=>
    zq.call b s fun t=>
    Ite (!t)
     (Q (Sl.mk none 0 0) 0 33)
     (Slc b 6 (b.n:Int) (b.c:Int) 1 fun u=>
     Q u (b.n:Int) 0))))
theorem zDV (a Q w) (h:xP a Q w):xP.call a Q w:=by
 exact zn 49 h Tryz.func106
def uH (a:Sl) (Q:Int→K): K :=
 Cd (0 ≤ (8:Int))<|
 Ar (uY .i64 (a.n:Int) 8) fun b=>
 Ar (IntKind.wrap .u8 b) fun c=>
 Ar (IntKind.wrap .u8 (a.n:Int)) fun d=>
 New 5 #[.int .u8 c,.int .u8 d] fun f=>
 Do Tryz.prog (Builtin.append_ #[22,22] 22 #[(Sl.val (Sl.mk (some f) 2 2)),Sl.val a]) Sl.val fun g=>
 qM.call g fun i=>
 Q i
theorem zED (a Q w) (h:uH a Q w):uH.call a Q w:=by
 exact zn 14 h Tryz.func120
def qM.s3 (Q:Int→K) (f b:Int→Int→K) (c:Int) (g:Sl) (i j d:Int): K :=
 Ar (IntKind.wrap .i64 (d + 1)) fun a=>
 b c a
def qM.b2 (Q:Int→K) (a g:Int→Int→K) (i:Sl) (j b c d:Int): K :=
 Ite (decide (d < 8))
  (Ar (bitsOf .and .u32 c 1) fun k=>
  Cd (0 ≤ (1:Int))<|
  Ar (uY .u32 c 1) fun f=>
  Ite (decide (k = 1))
   (Ar (bitsOf .xor .u32 f 2197175160) fun l=>
   qM.s3 Q a g l i j b d)
   (qM.s3 Q a g f i j b d))
  (Ar (IntKind.wrap .i64 (b + 1)) fun m=>
  a c m)
def qM.b1 (Q:Int→K) (n:Int→Int→K) (b:Sl) (c d a:Int): K :=
 Ite (decide (a < c))
  (Idx b a 1 fun f=>
  Ld f (Value.int .u8) fun g=>
  Ar (IntKind.wrap .u32 g) fun i=>
  Ar (bitsOf .xor .u32 d i) fun j=>
  yY (α:=Int×Int) (fun X x=>qM.b2 Q n (fun k l=>X (k,l)) b c a x.1 x.2) (j,0))
  (Ar (bitsOf .xor .u32 (if IntKind.signed .u32 then -1 else IntKind.max .u32) d) fun m=>
  Q m)
def qM (a:Sl) (Q:Int→K): K :=
 yY (α:=Int×Int) (fun X x=>qM.b1 Q (fun b c=>X (b,c)) a (a.n:Int) x.1 x.2) (4294967295,0)
theorem zGu (l Q w) (h:qM l Q w):qM.call l Q w:=by
 have:∀ c,XH 3 c→∀ m,XH 7 m→JH 12 fun D=>∃ g i j k,D [(7,Sl.val g),(8,.int .i64 i),(9,.int .i64 j),(17,.int .i64 k)] (fun C=>∀ n,C [(3,.int .u32 n),(7,Sl.val g),(8,.int .i64 i),(9,.int .i64 j),(17,.int .i64 k)] (qM.s3 Q (fun a b=>c (a,b)) (fun d f=>m (d,f)) n g i j k)):=by intros; exact ⟨fun _ ⟨_,_,_,_,h⟩=>⟨_,_,h⟩⟩
 have:∀ c,XH 3 c→∀ o p q,LH 7 (fun x:Int×Int=>[(3,.int .u32 x.1),(7,Sl.val o),(8,.int .i64 p),(9,.int .i64 q),(17,.int .i64 x.2)]) (fun X x=>qM.b2 Q (fun a b=>c (a,b)) (fun d f=>X (d,f)) o p q x.1 x.2):=by intros; exact ⟨⟩
 have:∀ r s,LH 3 (fun x:Int×Int=>[(3,.int .u32 x.1),(7,Sl.val r),(8,.int .i64 s),(9,.int .i64 x.2)]) (fun X x=>qM.b1 Q (fun a b=>X (a,b)) r s x.1 x.2):=fun _ _=>⟨⟩
 exact zn 31 h Tryz.func131
instance:CB Tryz.prog 103:=⟨by kernel_rfl⟩
instance:CB Tryz.prog 104:=⟨by kernel_rfl⟩
instance:CB Tryz.prog 124:=⟨by kernel_rfl⟩
instance:CB Tryz.prog 125:=⟨by kernel_rfl⟩
instance:CB Tryz.prog 126:=⟨by kernel_rfl⟩
instance:CT Tryz.prog 3:=⟨by kernel_rfl⟩
instance:CT Tryz.prog 71:=⟨by kernel_rfl⟩
instance:INT Tryz.prog 40 .u64:=⟨by kernel_rfl⟩
instance:SLT Tryz.prog 71 9 1:=⟨by kernel_rfl⟩
instance:SZ Tryz.prog 71 1:=⟨by kernel_rfl⟩
instance:UN Tryz.prog 22 (.slice 5):=⟨Tryz.underlying22⟩
instance:ZT Tryz.prog 9 (.string ⟨#[]⟩):=⟨Tryz.t9,by kernel_rfl,by kernel_rfl⟩
def zh (b:Sl) (Q:Sl→K): K :=
 Ite ((b).a.isNone)
  (Q (Sl.mk none 0 0))
  (New 5 #[] fun c=>
  Do Tryz.prog (Builtin.append_ #[22,22] 22 #[(Sl.val (Sl.mk (some c) 0 0)),Sl.val b]) Sl.val fun d=>
  Q d)
theorem jP (a Q w) (h:zh a Q w):zh.call a Q w:=by
 exact zn 8 h Tryz.func30
def qL (b:Value) (Q:Sl→K): K :=
 qF.call b fun a=>
 qO.call a<|
 Q a
theorem zAL (a Q w) (h:qL a Q w):qL.call a Q w:=by
 exact zn 9 h Tryz.func65
def zw.s1 (Q:Value→K) (a b:Addr): K :=
 Q (.func (.func 121) #[] #[(.pointer (some a)),(.pointer (some b))])
def zw (d:Sl) (f:Int) (Q:Value→K): K :=
 New 22 #[Sl.val d] fun b=>
 New 3 #[.int .i64 f] fun a=>
 Ld a (Value.int .i64) fun c=>
 Ite (decide (c < 1))
  (Rd Tryz.prog (Instr.makeInterface 9 (.string ⟨#[99,97,110,110,111,116,32,98,101,32,108,101,115,115,32,116,104,97,110,32,49]⟩)) id fun g=>
  Dead)
  (zw.s1 Q b a)
theorem jQ (c d Q w) (h:zw c d Q w):zw.call c d Q w:=by
 have:JH 3 fun D=>∃ a b,D [(2,(.pointer (some a))),(3,(.pointer (some b)))] (fun C=>C [(2,(.pointer (some a))),(3,(.pointer (some b)))] (zw.s1 Q a b)):=⟨fun _ ⟨_,_,h⟩=>⟨_,_,h⟩⟩
 exact zn 9 h Tryz.func99
def qF (b:Value) (Q:Sl→K): K :=
 yT.call (Sl.mk none 0 0) b fun a=>
 Q a
theorem zAA (a Q w) (h:qF a Q w):qF.call a Q w:=by
 exact zn 5 h Tryz.func103
def qO (a:Sl) (Q:K): K :=
 Ar (IntKind.wrap .u64 (a.n:Int)) fun b=>
 zEj.call b fun c=>
 jF.call a 0 (a.n:Int) c<|
 Q
def zq.b1 (Q:Bool→K) (i:Int→K) (j k:Sl) (l a:Int): K :=
 Ite (decide (a < l))
  (Dr<|
  Idx j a 1 fun b=>
  Ld b (Value.int .u8) fun c=>
  Idx k a 1 fun d=>
  Ld d (Value.int .u8) fun f=>
  Ite (decide (c ≠ f))
   (Q false)
   (Ar (IntKind.wrap .i64 (a + 1)) fun g=>
   i g))
  (Q true)
def zq (a b:Sl) (Q:Bool→K): K :=
 Ite (decide ((a.n:Int) ≠ (b.n:Int)))
  (Q false)
  (yY (α:=Int) (fun X x=>zq.b1 Q X a b (a.n:Int) x) 0)
theorem jR (a b Q w) (h:zq a b Q w):zq.call a b Q w:=by
 have:∀ c d f,LH 4 (fun x:Int=>[(0,Sl.val c),(1,Sl.val d),(12,.int .i64 f),(13,.int .i64 x)]) (fun X x=>zq.b1 Q X c d f x):=fun _ _ _=>⟨⟩
 exact zn 26 h Tryz.func107
def yF.b1 (Q:K) (t:Int→K) (u:Value) (f k:Addr) (a:Int): K :=
 Ld f Sl.val fun l=>
 Ite (decide (a < (l.n:Int)))
  (Dr<|
  Ld k (Value.int .i64) fun g=>
  Ld f Sl.val fun b=>
  Slc b a (b.n:Int) (b.c:Int) 1 fun i=>
  Ar (if ((i.n:Int):Int) < g then (i.n:Int) else g) fun j=>
  Ld f Sl.val fun m=>
  Ar (IntKind.wrap .i64 (a + j)) fun o=>
  Ar (IntKind.wrap .i64 (a + j)) fun p=>
  Slc m a o p 1 fun q=>
  vS Tryz.prog u [Sl.val q] <| yt (fun (d:Bool)=>Value.bool d) fun d=>
  Ite (!d)
   (Q)
   (Ld k (Value.int .i64) fun r=>
   Ar (IntKind.wrap .i64 (a + r)) fun s=>
   t s))
  (Q)
def yF (a:Value) (b c:Addr) (Q:K): K :=
 yY (α:=Int) (fun X x=>yF.b1 Q X a b c x) 0
theorem u7 (a b c Q w) (h:yF a b c Q w):yF.call a b c Q w:=by
 have:∀ d f g,LH 1 (fun x:Int=>[(0,d),(1,(.pointer (some f))),(2,(.pointer (some g))),(4,.int .i64 x)]) (fun X x=>yF.b1 Q X d f g x):=fun _ _ _=>⟨⟩
 exact zn 31 h Tryz.func121
def yT (k:Sl) (l:Value) (Q:Sl→K): K :=
 New 71 #[Sl.val k] fun a=>
 vE Tryz.prog l Value.string (fun b c=>
  Ld a Sl.val fun d=>
  New 9 #[.string c] fun f=>
  Do Tryz.prog (Builtin.append_ #[71,71] 71 #[Sl.val d,(Sl.val (Sl.mk (some f) 1 1))]) Sl.val fun g=>
  St a (Sl.val g)<|
  b)
 fun i=>
 Ld a Sl.val fun j=>
 vT i<|
 Q j
theorem vZ (a b Q w) (h:yT a b Q w):yT.call a b Q w:=by
 exact zn 13 h Tryz.func124
instance:CB Tryz.prog 106:=⟨by kernel_rfl⟩
instance:CB Tryz.prog 42:=⟨by kernel_rfl⟩
instance:CB Tryz.prog 51:=⟨by kernel_rfl⟩
instance:CB Tryz.prog 52:=⟨by kernel_rfl⟩
instance:CB Tryz.prog 53:=⟨by kernel_rfl⟩
instance:CB Tryz.prog 54:=⟨by kernel_rfl⟩
instance:CB Tryz.prog 55:=⟨by kernel_rfl⟩
instance:CB Tryz.prog 56:=⟨by kernel_rfl⟩
instance:CB Tryz.prog 67:=⟨by kernel_rfl⟩
instance:CB Tryz.prog 99:=⟨by kernel_rfl⟩
instance:PLT Tryz.prog 85 [(0,1)]:=⟨_,Tryz.underlying85,by kernel_rfl⟩
instance:STT Tryz.prog 9:=⟨by kernel_rfl⟩
instance:ZT Tryz.prog 22 (Sl.val ⟨none,0,0⟩):=⟨Tryz.t22,by kernel_rfl,by kernel_rfl⟩
instance:ZT Tryz.prog 85 (.agg #[(Sl.val ⟨none,0,0⟩)]):=⟨Tryz.t85,by kernel_rfl,by kernel_rfl⟩
def yx.s2 (Q:Int→K) (a:Pt) (i:ByteArray) (j:Sl) (b:ByteArray) (k:Int) (l:Bool): K :=
 Ite l
  (Q k)
  (uo.call j fun f=>
  zS.call a b f fun c=>
  Ite (decide (c ≠ 0))
   (Q c)
   (zo.call a b fun d=>
   Ite (decide (d ≠ 0))
    (Q d)
    (zH.call a b i fun g=>
    Q g)))
def yx.s1 (Q:Int→K) (c:Pt) (d:ByteArray) (f:Sl) (g:Bool): K :=
 Ite g
  (Q 1)
  (Cat d (⟨#[126]⟩:ByteArray) fun b=>
  za.call c b fun a=>
  Ite (decide (a ≠ 0))
   (yx.s2 Q c d f b a (decide (a ≠ 60)))
   (yx.s2 Q c d f b a false))
def yx (b:Pt) (a:ByteArray) (c:Sl) (Q:Int→K): K :=
 Ite (a.toList == (⟨#[]⟩:ByteArray).toList)
  (yx.s1 Q b a c true)
  (yx.s1 Q b a c (decide ((15:Int) < (a.size:Int))))
theorem zF4 (k l m Q w) (h:yx k l m Q w):yx.call k l m Q w:=by
 have:JH 6 fun D=>∃ a b c d f,D [(0,.pointer a),(1,.string b),(2,Sl.val c),(7,.string d),(8,.int .i64 f)] (fun C=>∀ n,C [(0,.pointer a),(1,.string b),(2,Sl.val c),(7,.string d),(8,.int .i64 f),(28,.bool n)] (yx.s2 Q a b c d f n)):=⟨fun _ ⟨_,_,_,_,_,h⟩=>⟨_,_,h⟩⟩
 have:JH 2 fun D=>∃ g i j,D [(0,.pointer g),(1,.string i),(2,Sl.val j)] (fun C=>∀ o,C [(0,.pointer g),(1,.string i),(2,Sl.val j),(17,.bool o)] (yx.s1 Q g i j o)):=⟨fun _ ⟨_,_,_,h⟩=>⟨_,_,h⟩⟩
 exact zn 48 h Tryz.func25
def uG (f:Pt) (g:ByteArray) (Q:Sl→Int→K): K :=
 xC.call f g fun b a=>
 Ite (decide (a ≠ 0))
  (Q (Sl.mk none 0 0) a)
  (yH.call b fun c d=>
  Q c d)
theorem zF5 (a b Q w) (h:uG a b Q w):uG.call a b Q w:=by
 exact zn 21 h Tryz.func31
def uo (c:Sl) (Q:Sl→K): K :=
 New 85 #[Sl.val ⟨none,0,0⟩] fun b=>
 Ar (IntKind.wrap .u64 (c.n:Int)) fun d=>
 yj.call (some b) d<|
 qQ.call (some b) fun f=>
 xu.call f fun g r=>
 New 22 #[Sl.val ⟨none,0,0⟩] fun a=>
 St a (Sl.val g)<|
 zw.call c 1024 fun i=>
 vE Tryz.prog i Sl.val (fun j k=>
  xu.call k fun l s=>
  Ld a Sl.val fun m=>
  Do Tryz.prog (Builtin.append_ #[22,22] 22 #[Sl.val m,Sl.val l]) Sl.val fun o=>
  St a (Sl.val o)<|
  j)
 fun p=>
 Ld a Sl.val fun q=>
 vT p<|
 Q q
theorem zF6 (a Q w) (h:uo a Q w):uo.call a Q w:=by
 exact zn 34 h Tryz.func53
def yH.s3 (Q:Sl→Int→K) (c:Int→Int→Sl→K) (a:Sl) (b:Bool): K :=
 Ite b
  (Q (Sl.mk none 0 0) 61)
  (Q a 0)
def yH.s2 (Q:Sl→Int→K) (d:Int→Int→Sl→K) (a:Sl) (f q:Int) (b:Sl) (r:Bool): K :=
 Ite r
  (Slc a f (a.n:Int) (a.c:Int) 1 fun g=>
  xP.call g fun i j k=>
  Do Tryz.prog (Builtin.append_ #[22,22] 22 #[Sl.val b,Sl.val i]) Sl.val fun l=>
  Ar (IntKind.wrap .i64 (f + j)) fun m=>
  d m k l)
  (Ite (decide (q ≠ 0))
   (yH.s3 Q d b true)
   (uo.call b fun o=>
   zq.call o a fun p=>
   yH.s3 Q d b (!p)))
def yH.b1 (Q:Sl→Int→K) (d:Int→Int→Sl→K) (a:Sl) (b c:Int) (f:Sl): K :=
 Ite (decide (c = 0))
  (yH.s2 Q d a b c f (decide (b < (a.n:Int))))
  (yH.s2 Q d a b c f false)
def yH (a:Sl) (Q:Sl→Int→K): K :=
 xP.call a fun j b c=>
 New 5 #[] fun d=>
 yY (α:=Int×Int×Sl) (fun X x=>yH.b1 Q (fun f g i=>X (f,g,i)) a x.1 x.2.1 x.2.2) (b,c,(Sl.mk (some d) 0 0))
theorem zEE (l Q w) (h:yH l Q w):yH.call l Q w:=by
 have:∀ d,XH 3 d→JH 10 fun D=>∃ f,D [(7,Sl.val f)] (fun C=>∀ m,C [(7,Sl.val f),(47,.bool m)] (yH.s3 Q (fun a b c=>d (a,b,c)) f m)):=by intros; exact ⟨fun _ ⟨_,h⟩=>⟨_,_,h⟩⟩
 have:∀ d,XH 3 d→JH 1000003 fun D=>∃ g i j k,D [(0,Sl.val g),(5,.int .i64 i),(6,.int .i64 j),(7,Sl.val k)] (fun C=>∀ n,C [(0,Sl.val g),(5,.int .i64 i),(6,.int .i64 j),(7,Sl.val k),(24,.bool n)] (yH.s2 Q (fun a b c=>d (a,b,c)) g i j k n)):=by intros; exact ⟨fun _ ⟨_,_,_,_,h⟩=>⟨_,_,h⟩⟩
 have:∀ o,LH 3 (fun x:Int×Int×Sl=>[(0,Sl.val o),(5,.int .i64 x.1),(6,.int .i64 x.2.1),(7,Sl.val x.2.2)]) (fun X x=>yH.b1 Q (fun a b c=>X (a,b,c)) o x.1 x.2.1 x.2.2):=fun _=>⟨⟩
 exact zn 49 h Tryz.func67
instance:CT Tryz.prog 60:=⟨by kernel_rfl⟩
def zZ (b:(Option Nat)) (Q:Value→K): K :=
 New 60 #[.map b] fun a=>
 Q (.func (.func 105) #[] #[(.pointer (some a))])
theorem xD (a Q w) (h:zZ a Q w):zZ.call a Q w:=by
 exact zn 4 h Tryz.func66
def zL.b1 (Q i:K) (j:Value) (b:Pt): K :=
 Do Tryz.prog (Instr.next (.pointer b) false 0) id fun c=>
 Ext c 0 Value.bool fun d=>
 Ite d
  (Do Tryz.prog (Instr.entry (.pointer b)) id fun f=>
  Ext f 0 Value.string fun g=>
  vS Tryz.prog j [.string g] <| yt (fun (a:Bool)=>Value.bool a) fun a=>
  Ite (!a)
   (Q)
   (i))
  (Q)
def zL (c:Value) (d:Addr) (Q:K): K :=
 Ld d Value.map fun a=>
 Do Tryz.prog (Instr.range 60 (.map a)) Value.pointer fun b=>
 yY (α:=Unit) (fun X x=>zL.b1 Q (X ()) c b) ()
theorem qy (a b Q w) (h:zL a b Q w):zL.call a b Q w:=by
 have:∀ c d,LH 1 (fun x:Unit=>[(0,c),(5,.pointer d)]) (fun X x=>zL.b1 Q (X ()) c d):=fun _ _=>⟨⟩
 exact zn 14 h Tryz.func105
instance:CB Tryz.prog 29:=⟨by kernel_rfl⟩
instance:CB Tryz.prog 65:=⟨by kernel_rfl⟩
instance:CB Tryz.prog 66:=⟨by kernel_rfl⟩
instance:CB Tryz.prog 87:=⟨by kernel_rfl⟩
instance:CB Tryz.prog 95:=⟨by kernel_rfl⟩
instance:CB Tryz.prog 96:=⟨by kernel_rfl⟩
instance:CB Tryz.prog 97:=⟨by kernel_rfl⟩
instance:CT Tryz.prog 4:=⟨by kernel_rfl⟩
instance:CT Tryz.prog 9:=⟨by kernel_rfl⟩
instance:FT Tryz.prog 62 0 0 1:=⟨by kernel_rfl⟩
instance:FT Tryz.prog 62 1 1 1:=⟨by kernel_rfl⟩
instance:FT Tryz.prog 62 2 2 1:=⟨by kernel_rfl⟩
instance:FT Tryz.prog 62 3 3 1:=⟨by kernel_rfl⟩
instance:FT Tryz.prog 75 0 0 1:=⟨by kernel_rfl⟩
instance:FT Tryz.prog 75 1 1 1:=⟨by kernel_rfl⟩
instance:PLT Tryz.prog 62 [(0,1),(1,1),(2,1),(3,1)]:=⟨_,Tryz.underlying62,by kernel_rfl⟩
instance:PLT Tryz.prog 75 [(0,1),(1,1)]:=⟨_,Tryz.underlying75,by kernel_rfl⟩
instance:SLT Tryz.prog 32 3 1:=⟨by kernel_rfl⟩
instance:SZ Tryz.prog 3 1:=⟨by kernel_rfl⟩
instance:SZ Tryz.prog 4 1:=⟨by kernel_rfl⟩
instance:ZT Tryz.prog 62 (.agg #[(.int .i64 0),(.map none),(.int .i64 0),(.bool false)]):=⟨Tryz.t62,by kernel_rfl,by kernel_rfl⟩
instance:ZT Tryz.prog 75 (.agg #[(Sl.val ⟨none,0,0⟩),(.int .i64 0)]):=⟨Tryz.t75,by kernel_rfl,by kernel_rfl⟩
def xB.s1 (Q:Pt→Int→K) (c:Int) (d:Bool): K :=
 Ite d
  (Q none 1)
  (Do Tryz.prog (Instr.makeMap 60 none) Value.map fun a=>
  New 62 #[.int .i64 c,.map a,(.int .i64 (-1)),.bool false] fun b=>
  Q (some b) 0)
def xB (a:Int) (Q:Pt→Int→K): K :=
 Ite (decide (a < 1))
  (xB.s1 Q a true)
  (xB.s1 Q a (decide ((1048576:Int) < a)))
theorem zGv (b Q w) (h:xB b Q w):xB.call b Q w:=by
 have:JH 2 fun D=>∃ a,D [(0,.int .i64 a)] (fun C=>∀ c,C [(0,.int .i64 a),(9,.bool c)] (xB.s1 Q a c)):=⟨fun _ ⟨_,h⟩=>⟨_,_,h⟩⟩
 exact zn 14 h Tryz.func7
def xJ (d:Pt) (a:Int) (Q:K): K :=
 Ar (if ((-1):Int) > a then (-1) else a) fun b=>
 Nn d fun c=>
 St (c.add 2) (.int .i64 b)<|
 Q
theorem zBg (a b Q w) (h:xJ a b Q w):xJ.call a b Q w:=by
 exact zn 9 h Tryz.func11
def z8.s2 (Q:Pt→K) (m:Int→K) (s:Addr) (t:Sl) (n:Addr) (o:ByteArray) (p:Pt) (q:Int) (u:Sl) (v r:Int): K :=
 Nn p fun a=>
 Ld (a.add 1) (Value.int .i64) fun f=>
 Ar (IntKind.wrap .i64 (f + q)) fun b=>
 Dr <| qx fun S=>
 LdS S (n.add 1) Value.map fun g=>
 LdS S a Sl.val fun d=>
 Slc d 0 b (d.c:Int) 1 fun i=>
 zh.call i fun j=>
 Sv S<|
 New 75 #[Sl.val j,.int .i64 b] fun k=>
 Sv S<|
 DoU Tryz.prog (Instr.mapUpdate 60 (.map g) (.string o) (.pointer (some k)))<|
 Ar (IntKind.wrap .i64 (r + 1)) fun l=>
 m l
def z8.b1 (Q:Pt→K) (m:Int→K) (g:Addr) (c:Sl) (i:Addr) (j:Sl) (k a:Int): K :=
 Ite (decide (a < k))
  (Idx j a 1 fun o=>
  Ld o Value.string fun d=>
  Ld (g.add 1) Value.map fun p=>
  Rd Tryz.prog (Instr.lookup 60 (.map p) (.string d) false) Value.pointer fun l=>
  Ite (decide (a < (c.n:Int)))
   (Dr<|
   Nn l fun f=>
   Ld f Sl.val fun q=>
   Ld (f.add 1) (Value.int .i64) fun r=>
   Ar (IntKind.wrap .i64 ((q.n:Int) - r)) fun s=>
   Ar (IntKind.wrap .i64 (s + 1)) fun b=>
   Idx c a 1 fun t=>
   Ld t (Value.int .i64) fun u=>
   Cd (b ≠ 0)<|
   Ar (Int.tmod u b) fun v=>
   Ar (IntKind.wrap .i64 (v + b)) fun x=>
   Cd (b ≠ 0)<|
   Ar (Int.tmod x b) fun y=>
   z8.s2 Q m g c i d (some f) y j k a)
   (z8.s2 Q m g c i d l 0 j k a))
  (Q (some i))
def z8 (g:Pt) (i:Sl) (Q:Pt→K): K :=
 Nn g fun a=>
 Ld a (Value.int .i64) fun c=>
 Do Tryz.prog (Instr.makeMap 60 none) Value.map fun d=>
 New 62 #[.int .i64 c,.map d,(.int .i64 (-1)),.bool false] fun f=>
 xK.call (some a) fun b=>
 yY (α:=Int) (fun X x=>z8.b1 Q X a i f b (b.n:Int) x) 0
theorem zBh (l m Q w) (h:z8 l m Q w):z8.call l m Q w:=by
 have:DH 10 2 [15] (.s [0,1,2,4,5,6,7,9,12,3,8,10] (.a [(11,1,.s [13] (.a [(14,1,.a [(15,0,.e)])]))])):=⟨⟩
 have:∀ n,XH 3 n→JH 9 fun D=>∃ b c d f g i j k,D [(0,(.pointer (some b))),(1,Sl.val c),(5,(.pointer (some d))),(7,.string f),(8,.pointer g),(20,Sl.val i),(21,.int .i64 j),(22,.int .i64 k)] (fun C=>∀ o,C [(0,(.pointer (some b))),(1,Sl.val c),(5,(.pointer (some d))),(7,.string f),(8,.pointer g),(9,.int .i64 o),(20,Sl.val i),(21,.int .i64 j),(22,.int .i64 k)] (z8.s2 Q n b c d f g o i j k)):=by intros; exact ⟨fun _ ⟨_,_,_,_,_,_,_,_,h⟩=>⟨_,_,h⟩⟩
 have:∀ p q r t u,LH 3 (fun x:Int=>[(0,(.pointer (some p))),(1,Sl.val q),(5,(.pointer (some r))),(20,Sl.val t),(21,.int .i64 u),(22,.int .i64 x)]) (fun X x=>z8.b1 Q X p q r t u x):=fun _ _ _ _ _=>⟨⟩
 exact zn 81 h Tryz.func12
def xK (f:Pt) (Q:Sl→K): K :=
 Nn f fun a=>
 Ld (a.add 1) Value.map fun b=>
 zZ.call b fun c=>
 qL.call c fun d=>
 Q d
theorem zBi (a Q w) (h:xK a Q w):xK.call a Q w:=by
 exact zn 9 h Tryz.func29
def xC (g:Pt) (i:ByteArray) (Q:Sl→Int→K): K :=
 qG.call g i fun b a=>
 Ite (decide (a ≠ 0))
  (Q (Sl.mk none 0 0) a)
  (Nn b fun c=>
  Ld c Sl.val fun d=>
  zh.call d fun f=>
  Q f 0)
theorem zB9 (a b Q w) (h:xC a b Q w):xC.call a b Q w:=by
 exact zn 22 h Tryz.func42
def za.s2 (Q:Int→K) (a:Int): K :=
 Q a
def za.s1 (Q:Int→K) (d:Pt) (f:ByteArray) (a:Int): K :=
 Ite (decide (a = 0))
  (Nn d fun b=>
  Ld (b.add 1) Value.map fun c=>
  Do Tryz.prog (Builtin.delete_ #[60,9] 0 #[.map c,.string f]) id fun _=>
  za.s2 Q a)
  (za.s2 Q a)
def za (a:Pt) (b:ByteArray) (Q:Int→K): K :=
 qG.call a b fun f c=>
 Ite (decide (c = 0))
  (zy.call a fun d=>
  za.s1 Q a b d)
  (za.s1 Q a b c)
theorem zBM (d f Q w) (h:za d f Q w):za.call d f Q w:=by
 have:JH 6 fun D=>∃ a,D [(6,.int .i64 a)] (fun C=>C [(6,.int .i64 a)] (za.s2 Q a)):=⟨fun _ ⟨_,h⟩=>⟨_,_,h⟩⟩
 have:JH 4 fun D=>∃ b c,D [(0,.pointer b),(1,.string c)] (fun C=>∀ g,C [(0,.pointer b),(1,.string c),(6,.int .i64 g)] (za.s1 Q b c g)):=⟨fun _ ⟨_,_,h⟩=>⟨_,_,h⟩⟩
 exact zn 25 h Tryz.func51
def zS.s1 (Q:Int→K) (f:Addr) (g:Sl) (i:Pt): K :=
 Nn i fun a=>
 Ld a Sl.val fun b=>
 Do Tryz.prog (Builtin.append_ #[22,22] 22 #[Sl.val b,Sl.val g]) Sl.val fun c=>
 St a (Sl.val c)<|
 zy.call (some f) fun d=>
 Q d
def zS.s2 (Q:Int→K) (a:Addr) (f:ByteArray) (c:Sl) (g:Pt) (i j:Bool): K :=
 Ite j
  (Q 2)
  (Ite (!i)
   (New 75 #[Sl.val ⟨none,0,0⟩,.int .i64 0] fun b=>
   Ld (a.add 1) Value.map fun d=>
   DoU Tryz.prog (Instr.mapUpdate 60 (.map d) (.string f) (.pointer (some b)))<|
   zS.s1 Q a c (some b))
   (zS.s1 Q a c g))
def zS.s3 (Q:Int→K) (a:Addr) (c:ByteArray) (b:Sl) (d:Pt) (f g:Bool): K :=
 Ite g
  (zS.s2 Q a c b d f g)
  (Dr <| qx fun S=>
  LdS S a (Value.int .i64) fun i=>
  qH.call (some a) fun j=>
  Sv S<|
  Ar (IntKind.wrap .i64 (i - j)) fun k=>
  zS.s2 Q a c b d f (decide (k < (b.n:Int))))
def zS (m:Pt) (b:ByteArray) (f:Sl) (Q:Int→K): K :=
 Nn m fun a=>
 Ld (a.add 1) Value.map fun g=>
 Rd2 Tryz.prog (Instr.lookup 60 (.map g) (.string b) true) (fun x y=>.tuple #[Value.pointer x,.bool y]) fun d c=>
 Ld (a.add 3) Value.bool fun i=>
 Ite i
  (Q 3)
  (qb.call b fun j=>
  Ite (!j)
   (Q 1)
   (Ite (!c)
    (Ld (a.add 1) Value.map fun k=>
    Rd Tryz.prog (Builtin.len_ #[60] 3 #[.map k]) (Value.int .i64) fun l=>
    zS.s3 Q a b f d c (decide ((32:Int) ≤ l)))
    (zS.s3 Q a b f d c false)))
theorem zBN (n o p Q w) (h:zS n o p Q w):zS.call n o p Q w:=by
 have:JH 12 fun D=>∃ b c,D [(0,(.pointer (some b))),(2,Sl.val c)] (fun C=>∀ q,C [(0,(.pointer (some b))),(2,Sl.val c),(7,.pointer q)] (zS.s1 Q b c q)):=⟨fun _ ⟨_,_,h⟩=>⟨_,_,h⟩⟩
 have:JH 8 fun D=>∃ d f g i,D [(0,(.pointer (some d))),(1,.string f),(2,Sl.val g),(7,.pointer i)] (fun C=>∀ r t,C [(0,(.pointer (some d))),(1,.string f),(2,Sl.val g),(7,.pointer i),(8,.bool r),(27,.bool t)] (zS.s2 Q d f g i r t)):=⟨fun _ ⟨_,_,_,_,h⟩=>⟨_,_,h⟩⟩
 have:DH 7 2 [] (.s [0,1,2,3,4,6,5] (.a [(7,1,.s [8,9,10] .e)])):=⟨⟩
 have:JH 7 fun D=>∃ j k l m,D [(0,(.pointer (some j))),(1,.string k),(2,Sl.val l),(7,.pointer m)] (fun C=>∀ u v,C [(0,(.pointer (some j))),(1,.string k),(2,Sl.val l),(7,.pointer m),(8,.bool u),(27,.bool v)] (zS.s3 Q j k l m u v)):=⟨fun _ ⟨_,_,_,_,h⟩=>⟨_,_,h⟩⟩
 exact zn 70 h Tryz.func52
def zo.s2 (Q:Int→K) (a:Int): K :=
 Q a
def zo.s1 (Q:Int→K) (d:Pt) (a:Int): K :=
 Ite (decide (a = 0))
  (Nn d fun b=>
  Ld b Sl.val fun c=>
  St (b.add 1) (.int .i64 (c.n:Int))<|
  zo.s2 Q a)
  (zo.s2 Q a)
def zo (c:Pt) (f:ByteArray) (Q:Int→K): K :=
 qG.call c f fun a b=>
 Ite (decide (b = 0))
  (zy.call c fun d=>
  zo.s1 Q a d)
  (zo.s1 Q a b)
theorem zCA (c d Q w) (h:zo c d Q w):zo.call c d Q w:=by
 have:JH 6 fun D=>∃ a,D [(6,.int .i64 a)] (fun C=>C [(6,.int .i64 a)] (zo.s2 Q a)):=⟨fun _ ⟨_,h⟩=>⟨_,_,h⟩⟩
 have:JH 4 fun D=>∃ b,D [(5,.pointer b)] (fun C=>∀ f,C [(5,.pointer b),(6,.int .i64 f)] (zo.s1 Q b f)):=⟨fun _ ⟨_,h⟩=>⟨_,_,h⟩⟩
 exact zn 28 h Tryz.func54
def zH.s3 (Q:Int→K) (a:Int): K :=
 Q a
def zH.s2 (Q:Int→K) (f:Pt) (g i:ByteArray) (j:Pt) (a:Int): K :=
 Ite (decide (a = 0))
  (Nn f fun b=>
  Ld (b.add 1) Value.map fun c=>
  Do Tryz.prog (Builtin.delete_ #[60,9] 0 #[.map c,.string g]) id fun _=>
  Ld (b.add 1) Value.map fun d=>
  DoU Tryz.prog (Instr.mapUpdate 60 (.map d) (.string i) (.pointer j))<|
  zH.s3 Q a)
  (zH.s3 Q a)
def zH.s1 (Q:Int→K) (a:Pt) (b c:ByteArray) (d:Pt) (f:Int): K :=
 Ite (decide (f = 0))
  (zy.call a fun g=>
  zH.s2 Q a b c d g)
  (zH.s2 Q a b c d f)
def zH.s4 (Q:Int→K) (a:Pt) (b c:ByteArray) (d:Pt) (f:Int) (g:Bool): K :=
 Ite g
  (zH.s1 Q a b c d 1)
  (zH.s1 Q a b c d f)
def zH (b:Pt) (c d:ByteArray) (Q:Int→K): K :=
 qG.call b c fun f a=>
 Ite (decide (a = 0))
  (qb.call d fun g=>
  zH.s4 Q b c d f a (!g))
  (zH.s4 Q b c d f a false)
theorem zBO (q r s Q w) (h:zH q r s Q w):zH.call q r s Q w:=by
 have:JH 9 fun D=>∃ a,D [(8,.int .i64 a)] (fun C=>C [(8,.int .i64 a)] (zH.s3 Q a)):=⟨fun _ ⟨_,h⟩=>⟨_,_,h⟩⟩
 have:JH 6 fun D=>∃ b c d f,D [(0,.pointer b),(1,.string c),(2,.string d),(7,.pointer f)] (fun C=>∀ t,C [(0,.pointer b),(1,.string c),(2,.string d),(7,.pointer f),(8,.int .i64 t)] (zH.s2 Q b c d f t)):=⟨fun _ ⟨_,_,_,_,h⟩=>⟨_,_,h⟩⟩
 have:JH 4 fun D=>∃ g i j k,D [(0,.pointer g),(1,.string i),(2,.string j),(7,.pointer k)] (fun C=>∀ u,C [(0,.pointer g),(1,.string i),(2,.string j),(7,.pointer k),(8,.int .i64 u)] (zH.s1 Q g i j k u)):=⟨fun _ ⟨_,_,_,_,h⟩=>⟨_,_,h⟩⟩
 have:JH 3 fun D=>∃ l m n o p,D [(0,.pointer l),(1,.string m),(2,.string n),(7,.pointer o),(8,.int .i64 p)] (fun C=>∀ v,C [(0,.pointer l),(1,.string m),(2,.string n),(7,.pointer o),(8,.int .i64 p),(21,.bool v)] (zH.s4 Q l m n o p v)):=⟨fun _ ⟨_,_,_,_,_,h⟩=>⟨_,_,h⟩⟩
 exact zn 40 h Tryz.func55
def qG (g:Pt) (i:ByteArray) (Q:Pt→Int→K): K :=
 Nn g fun a=>
 Ld (a.add 1) Value.map fun b=>
 Rd2 Tryz.prog (Instr.lookup 60 (.map b) (.string i) true) (fun x y=>.tuple #[Value.pointer x,.bool y]) fun c d=>
 Ld (a.add 3) Value.bool fun f=>
 Ite f
  (Q none 3)
  (Ite (!d)
   (Q none 60)
   (Q c 0))
theorem zCB (a b Q w) (h:qG a b Q w):qG.call a b Q w:=by
 exact zn 26 h Tryz.func87
def zy.s1 (Q:Int→K): K :=
 Q 0
def zy (g:Pt) (Q:Int→K): K :=
 Nn g fun a=>
 Ld (a.add 2) (Value.int .i64) fun b=>
 Ite (decide (b = 0))
  (St (a.add 3) (.bool true)<|
  Q 3)
  (Ld (a.add 2) (Value.int .i64) fun c=>
  Ite (decide ((0:Int) < c))
   (Ld (a.add 2) (Value.int .i64) fun d=>
   Ar (IntKind.wrap .i64 (d - 1)) fun f=>
   St (a.add 2) (.int .i64 f)<|
   zy.s1 Q)
   (zy.s1 Q))
theorem zBP (a Q w) (h:zy a Q w):zy.call a Q w:=by
 have:JH 6 fun D=>D [] (fun C=>C [] (zy.s1 Q)):=⟨fun _ h=>⟨_,_,h⟩⟩
 exact zn 23 h Tryz.func95
def qb.s1 (Q:Bool→K) (a:Bool): K :=
 Q a
def qb (a:ByteArray) (Q:Bool→K): K :=
 Ite (!(a.toList == (⟨#[]⟩:ByteArray).toList))
  (qb.s1 Q (decide ((a.size:Int) ≤ 16)))
  (qb.s1 Q false)
theorem zEl (a Q w) (h:qb a Q w):qb.call a Q w:=by
 have:JH 1000001 fun D=>D [] (fun C=>∀ b,C [(2,.bool b)] (qb.s1 Q b)):=⟨fun _ h=>⟨_,_,h⟩⟩
 exact zn 10 h Tryz.func96
def qH.b1 (Q l:Int→K) (a:Pt) (b:Int): K :=
 Do Tryz.prog (Instr.next (.pointer a) false 0) id fun c=>
 Ext c 0 Value.bool fun d=>
 Ite d
  (Do Tryz.prog (Instr.entry (.pointer a)) id fun f=>
  Ext f 1 Value.pointer fun g=>
  Nn g fun i=>
  Ld i Sl.val fun j=>
  Ar (IntKind.wrap .i64 (b + (j.n:Int))) fun k=>
  l k)
  (Q b)
def qH (d:Pt) (Q:Int→K): K :=
 Nn d fun a=>
 Ld (a.add 1) Value.map fun b=>
 Do Tryz.prog (Instr.range 60 (.map b)) Value.pointer fun c=>
 yY (α:=Int) (fun X x=>qH.b1 Q X c x) 0
theorem zCC (a Q w) (h:qH a Q w):qH.call a Q w:=by
 have:∀ b,LH 2 (fun x:Int=>[(2,.int .i64 x),(9,.pointer b)]) (fun X x=>qH.b1 Q X b x):=fun _=>⟨⟩
 exact zn 22 h Tryz.func97
def zK.s3 (Q:Int→K) (a:Int): K :=
 Q a
def zK.s2 (Q:Int→K) (b:Int) (j:Pt) (c:Int): K :=
 Ite (decide (c = 0))
  (Dr<|
  Nn j fun a=>
  Ld a Sl.val fun f=>
  Slc f 0 b b 1 fun g=>
  Ld (a.add 1) (Value.int .i64) fun d=>
  Ar (if (b:Int) < d then b else d) fun i=>
  St a (Sl.val g)<|
  St (a.add 1) (.int .i64 i)<|
  zK.s3 Q c)
  (zK.s3 Q c)
def zK.s1 (Q:Int→K) (f:Pt) (a:Int) (b:Pt) (c:Int): K :=
 Ite (decide (c = 0))
  (zy.call f fun d=>
  zK.s2 Q a b d)
  (zK.s2 Q a b c)
def zK.s4 (Q:Int→K) (a:Pt) (b:Int) (c:Pt) (d:Int) (f:Bool): K :=
 Ite f
  (zK.s1 Q a b c 1)
  (zK.s1 Q a b c d)
def zK (c:Pt) (i:ByteArray) (a:Int) (Q:Int→K): K :=
 qG.call c i fun d b=>
 Ite (decide (b = 0))
  (Ite (decide (a < 0))
   (zK.s4 Q c a d b true)
   (Nn d fun f=>
   Ld f Sl.val fun g=>
   zK.s4 Q c a (some f) b (decide ((g.n:Int) < a))))
  (zK.s4 Q c a d b false)
theorem zCj (n o p Q w) (h:zK n o p Q w):zK.call n o p Q w:=by
 have:JH 8 fun D=>∃ b,D [(8,.int .i64 b)] (fun C=>C [(8,.int .i64 b)] (zK.s3 Q b)):=⟨fun _ ⟨_,h⟩=>⟨_,_,h⟩⟩
 have:DH 7 1 [17,20] (.s [0,1,2,3,4,6,7,9,10,11,13,5,8,12,14,15,16] (.a [(17,0,.s [18,19] (.a [(20,0,.e)]))])):=⟨⟩
 have:JH 6 fun D=>∃ c d,D [(2,.int .i64 c),(7,.pointer d)] (fun C=>∀ q,C [(2,.int .i64 c),(7,.pointer d),(8,.int .i64 q)] (zK.s2 Q c d q)):=⟨fun _ ⟨_,_,h⟩=>⟨_,_,h⟩⟩
 have:JH 4 fun D=>∃ f g i,D [(0,.pointer f),(2,.int .i64 g),(7,.pointer i)] (fun C=>∀ r,C [(0,.pointer f),(2,.int .i64 g),(7,.pointer i),(8,.int .i64 r)] (zK.s1 Q f g i r)):=⟨fun _ ⟨_,_,_,h⟩=>⟨_,_,h⟩⟩
 have:JH 3 fun D=>∃ j k l m,D [(0,.pointer j),(2,.int .i64 k),(7,.pointer l),(8,.int .i64 m)] (fun C=>∀ t,C [(0,.pointer j),(2,.int .i64 k),(7,.pointer l),(8,.int .i64 m),(29,.bool t)] (zK.s4 Q j k l m t)):=⟨fun _ ⟨_,_,_,_,h⟩=>⟨_,_,h⟩⟩
 exact zn 56 h Tryz.func123
end
end Go.Proofs.YtgmbfnboiobeaaaGreat
