/- Texts of the claim FrontPlays, one behind the other. -/
import Derived.Below
import Derived.Calls
import Derived.OrdersHeld
import Derived.Still
import Derived.Tactics
import Derived.Laws.Sem
import Derived.KernelRfl
import Derived.Laws.Bits
import Derived.RangeFuncRecord
import Derived.RangeFuncSeq
import Derived.RangeFuncCalls
import Derived.TacticsIn
import Derived.OrdersIn
import Derived.Laws.Externs
import Derived.Test.YtlelhlcjaapkoaaGreatProg
import GoSem.Instr.MapEntry
import Derived.DefersIn
import Derived.RangeFuncLeaves
import Derived.Deep.Slices
import Derived.Carry
import Derived.ProofKit
import Derived.OpenShut
import Derived.Laws.BytesString
import Derived.Laws.Strings
import Derived.Lib.Overlaps
set_option linter.all false
set_option maxRecDepth 100000
abbrev Go.Sep.Pt:=Option Go.Addr
abbrev Go.Sep.Av:=Array Go.Value
def zgF:=@decide_eq_false_iff_not
def zgG:=@List.getElem?_eq_getElem
def zgH:=@decide_eq_true_eq
def zgI:=@List.mem_cons_of_mem
def zgJ:=@List.take_succ_eq_append_getElem
def zgK:=@List.length_append
def zgL:=@List.length_map
def zgM:=@List.mem_singleton
def zgN:=@List.mem_cons_self
def zgO:=@List.length_cons
def zgP:=@List.mem_append
def zgQ:=@List.take_length
def zgR:=@List.length_take
def zgS:=@List.mem_cons
def zgT:=@List.map_append
def zgU:=@decide_eq_false
def zgV:=@List.mem_map
def zgW:=@Nat.zero_le
def zgX:=@List.getElem_mem
def zgY:=@Nat.le_of_ble_eq_true
def zgZ:=@List.getElem?_eq_some_iff
def zga:=@decide_eq_true
def zgb:=@Nat.eq_of_mul_eq_mul_right
def zgc:=@Bool.false_eq_true
def zgd:=@List.map_cons
def zge:=@List.flatMap_append
def zgf:=@List.pairwise_append
def zgg:=@List.length_eq_zero_iff
def zgh:=@List.take_of_length_le
def zgi:=@List.flatMap_cons
def zgj:=@List.drop_eq_getElem_cons
def zgk:=@List.getElem?_map
def zgl:=@List.length_nil
def zgm:=@List.pairwise_cons
def zgn:=@Nat.mul_le_mul_right
def zgo:=@List.drop_drop
def zgp:=@Bool.and_eq_true
def zgq:=@Array.getElem?_eq_some_iff
def zgr:=@List.length_filter_le
def zgs:=@Nat.mul_one
def zgt:=@List.getElem?_drop
def zgu:=@Nat.le_refl
def zgv:=@List.getD_eq_getElem?_getD
def zgw:=@Int.toNat_natCast
def zgx:=@List.mem_of_getElem?
def zgy:=@List.append_nil
def zgz:=@List.take_append_drop
def zg0:=@Array.getElem?_eq_getElem
def zg1:=@Option.map_some
def zg2:=@List.all_eq_true
def zg3:=@List.mem_append_right
def zg4:=@Option.some.injEq
def zg5:=@Array.getElem?_setIfInBounds_ne
def zg6:=@List.nil_append
def zg7:=@List.size_toArray
def zg8:=@Nat.zero_add
def zg9:=@List.append_assoc
def zhA:=@Nat.add_mul
def zhB:=@List.length_drop
def zhC:=@List.cons_append
def zhD:=@List.filter_cons
def zhE:=@List.getElem?_append_right
def zhF:=@List.mem_append_left
def zhG:=@if_false
def zhH:=@Bool.true_and
def zhI:=@Array.getElem?_modify
def zhJ:=@List.length_eq_one_iff
def zhK:=@List.foldl_cons
def zhL:=@List.getElem?_append_left
def zhM:=@List.lt_irrefl
def zhN:=@List.findIdx?_eq_none_iff
def zhO:=@List.getElem?_set_self
def zhP:=@Option.getD_some
def zhQ:=@List.foldl_append
def zhR:=@Array.getElem?_toList
def zhS:=@List.mem_flatMap
def zhT:=@Bool.not_eq_true'
def zhU:=@List.take_left
def zhV:=@List.ext_getElem?
def zhW:=@Nat.le_trans
def zhX:=@if_true
def zhY:=@List.getElem?_take
def zhZ:=@List.cons.injEq
def zha:=@List.mem_filter
def zhb:=@List.mergeSort_perm
def zhc:=@Function.comp_def
def zhd:=@List.nodup_append
def zhe:=@List.pairwise_singleton
def zhf:=@List.append_of_mem
def zhg:=@List.not_mem_nil
def zhh:=@Option.some.inj
def zhi:=@List.drop_left'
def zhj:=@Prod.mk.injEq
def zhk:=@List.getElem?_append
def zhl:=@List.getElem?_set_ne
def zhm:=@List.zipIdx_cons
def zhn:=@List.flatMap_nil
def zho:=@Nat.add_zero
def zhp:=@List.map_nil
def zhq:=@List.perm_middle
def zhr:=@Int.eq_ofNat_of_zero_le
def zhs:=@Bool.false_and
def zht:=@Array.toList_push
def zhu:=@List.take_succ_cons
def zhv:=@List.filter_eq_self
def zhw:=@Array.ext'
def zhx:=@List.drop_length
def zhy:=@Array.ext_getElem?
def zhz:=@List.getElem?_eq_none
def zh0:=@List.findIdx?_eq_some_iff_getElem
def zh1:=@List.length_singleton
def zh2:=@List.drop_zero
def zh3:=@List.mem_or_eq_of_mem_set
def zh4:=@List.le_iff_lt_or_eq
def zh5:=@List.getElem?_of_mem
def zh6:=@Nat.min_eq_left
def zh7:=@List.nodup_cons
def zh8:=@List.map_set
def zh9:=@List.drop_succ_cons
def ziA:=@List.lt_trans
def ziB:=@List.drop_set_of_lt
def ziC:=@List.pairwise_mergeSort
def ziD:=@decide_eq_decide
def ziE:=@List.findIdx?_cons
def ziF:=@Nat.le_of_eq
def ziG:=@List.headD_cons
def ziH:=@Bool.eq_iff_iff
def ziI:=@List.map_take
def ziJ:=@List.map_drop
def ziK:=@List.drop_left
namespace Go.Sep
section
open Go Go.RowKit
abbrev Hp:=Nat→Option Obj
abbrev zB:=Hp→Prop
def Hp.le(h g:Hp):Prop:=∀b o,h b=some o→g b=some o
def Hp.zNh(h g:Hp):Prop:=∀b,h b=none∨g b=none
def Hp.one(b:Nat)(o:Obj):Hp:=fun c=>if c=b then some o else none
def Hp.or(h g:Hp):Hp:=fun b=>match h b with|some o=>some o|none=>g b
theorem Hp.le_refl(h:Hp):h.le h:=fun _ _ e=>e
theorem Hp.le_trans{a b c:Hp}(h:a.le b)(g:b.le c):a.le c:=fun k o e=>g k o (h k o e)
theorem Hp.zFp{a b:Hp}(h:a.zNh b):b.zNh a:=fun k=>(h k).symm
theorem Hp.zEo{a b c d:Hp}(h:a.zNh b)(hc:c.le a)(hd:d.le b):c.zNh d:=fun k=>by
 rcases h k with h|h
 ·left;cases e:c k with
  | none=>rfl
  | some o=>have:=hc k o e;rw[h] at this;cases this
 ·right;cases e:d k with
  | none=>rfl
  | some o=>have:=hd k o e;rw[h] at this;cases this
theorem Hp.zIz(a b:Hp):a.le (a.or b):=fun k o e=>by simp[Hp.or,e]
theorem Hp.zG3{a b:Hp}(h:a.zNh b):b.le (a.or b):=fun k o e=>by
 rcases h k with h|h
 ·simp[Hp.or,h,e]
 ·rw[h] at e;cases e
theorem Hp.zWZ{a b c:Hp}(ha:a.le c)(hb:b.le c):(a.or b).le c:=fun k o e=>by
 unfold Hp.or at e;split at e
 ·rename_i x hx;cases e;exact ha _ _ hx
 ·exact hb _ _ e
theorem Hp.zO3{a b c:Hp}(ha:a.zNh c)(hb:b.zNh c):(a.or b).zNh c:=fun k=>by
 rcases hb k with h|h
 ·rcases ha k with g|g
  ·left;simp[Hp.or,g,h]
  ·right;exact g
 ·right;exact h
def blk(b:Nat)(o:Obj):zB:=fun h=>h b=some o
def pur(p:Prop):zB:=fun _=>p
def ex{α:Sort _}(A:α→zB):zB:=fun h=>∃x,A x h
def stars:List zB→zB
 | [],_=>True
 | A::Γ,h=>∃h1 h2,A h1∧stars Γ h2∧h1.le h∧h2.le h∧h1.zNh h2
theorem zQM{Γ:List zB}{h g:Hp}(hs:stars Γ h)(hl:h.le g):stars Γ g:=by
 cases Γ with
 | nil=>trivial
 | cons A Γ=>
  obtain⟨h1,h2,a,b,l1,l2,d⟩:=hs;exact⟨h1,h2,a,b,Hp.le_trans l1 hl,Hp.le_trans l2 hl,d⟩
theorem zGB{A:zB}{Γ:List zB}{h:Hp}(hs:stars (A::Γ) h):stars Γ h:=by
 obtain⟨h1,h2,_,b,_,l2,_⟩:=hs;exact zQM b l2
theorem zMD{A B:zB}{Γ:List zB}{h:Hp}(hs:stars (A::B::Γ) h):stars (B::A::Γ) h:=by
 obtain⟨h1,h2,a,⟨h3,h4,b,c,l3,l4,d'⟩,l1,l2,d⟩:=hs;refine⟨h3,h1.or h4,b,⟨h1,h4,a,c,Hp.zIz _ _,?_,?_⟩,Hp.le_trans l3 l2,Hp.zWZ l1 (Hp.le_trans l4 l2),?_⟩
 ·exact Hp.zG3 (Hp.zEo d (Hp.le_refl _) l4)
 ·exact Hp.zEo d (Hp.le_refl _) l4
 ·exact Hp.zFp (Hp.zO3 (Hp.zEo d (Hp.le_refl _) l3) (Hp.zFp d'))
theorem zBp{A B:zB}{Γ Δ:List zB}{h:Hp}(ha:∀h,A h→B h)(hg:∀h,stars Γ h→stars Δ h)(hs:stars (A::Γ) h):stars (B::Δ) h:=by
 obtain⟨h1,h2,a,b,l1,l2,d⟩:=hs;exact⟨h1,h2,ha _ a,hg _ b,l1,l2,d⟩
theorem zI0{Γ Δ:List zB}(hp:Γ.Perm Δ):∀{h:Hp},stars Γ h→stars Δ h:=by
 induction hp with
 | nil=>exact fun h=>h
 | cons x _ ih=>exact fun h=>zBp (fun _ h=>h) (fun _ h=>ih h) h
 | swap x y l=>exact zMD
 | trans _ _ ih1 ih2=>exact fun h=>ih2 (ih1 h)
theorem zO4{Γ Δ:List zB}:∀{h:Hp},stars (Γ++Δ) h↔∃h1 h2,stars Γ h1∧stars Δ h2∧h1.le h∧h2.le h∧h1.zNh h2:=by
 induction Γ with
 | nil=>
  intro h;constructor
  ·intro hs;exact⟨fun _=>none,h,trivial,hs,fun _ _ e=>(by cases e),Hp.le_refl _,fun _=>.inl rfl⟩
  ·rintro⟨_,h2,_,hs,_,l,_⟩;exact zQM hs l
 | cons A Γ ih=>
  intro h;constructor
  ·rintro⟨h1,h2,a,b,l1,l2,d⟩;obtain⟨h3,h4,c,e,l3,l4,d'⟩:=ih.1 b;refine⟨h1.or h3,h4,⟨h1,h3,a,c,Hp.zIz _ _,Hp.zG3 (Hp.zEo d (Hp.le_refl _) l3),Hp.zEo d (Hp.le_refl _) l3⟩,e,Hp.zWZ l1 (Hp.le_trans l3 l2),Hp.le_trans l4 l2,?_⟩;exact Hp.zO3 (Hp.zEo d (Hp.le_refl _) l4) d'
  ·rintro⟨h1,h2,⟨h3,h4,a,c,l3,l4,d'⟩,b,l1,l2,d⟩;refine⟨h3,h4.or h2,a,ih.2 ⟨h4,h2,c,b,Hp.zIz _ _,Hp.zG3 (Hp.zEo d l4 (Hp.le_refl _)),Hp.zEo d l4 (Hp.le_refl _)⟩,Hp.le_trans l3 l1,Hp.zWZ (Hp.le_trans l4 l1) l2,?_⟩;exact Hp.zFp (Hp.zO3 (Hp.zFp d') (Hp.zFp (Hp.zEo d l3 (Hp.le_refl _))))
def own(B w:World):Hp:=fun b=>if b<B.heap.size then none else w.heap[b]?
theorem zG4{B w:World}{b:Nat}{o:Obj}(h:own B w b=some o):B.heap.size≤b∧w.heap[b]?=some o:=by
 unfold own at h;split at h
 ·cases h
 ·exact⟨by omega,h⟩
structure Holds(B:World)(Γ:List zB)(w:World):Prop where
 below:Below B.heap.size B w
 stars:stars Γ (own B w)
section
variable{B w:World}{Γ Δ:List zB}{A A':zB}
theorem Holds.start(B:World):Holds B [] B:=⟨Below.refl _ _,trivial⟩
theorem Holds.perm(h:Holds B Γ w)(hp:Γ.Perm Δ):Holds B Δ w:=⟨h.below,zI0 hp h.stars⟩
theorem Holds.tail(h:Holds B (A::Γ) w):Holds B Γ w:=⟨h.below,zGB h.stars⟩
theorem Holds.swap{A A':zB}(h:Holds B (A::A'::Γ) w):Holds B (A'::A::Γ) w:=⟨h.below,zMD h.stars⟩
theorem Holds.imp(h:Holds B (A::Γ) w)(hi:∀h,A h→A' h):Holds B (A'::Γ) w:=⟨h.below,zBp hi (fun _ h=>h) h.stars⟩
theorem zKP{α:Type _}:∀{l:List α} {i:Nat} {x:α},l[i]?=some x→l.Perm (x::l.eraseIdx i)
 | [],i,x,h=>by simp at h
 | y::l,0,x,h=>by simp at h;subst h;simp
 | y::l,i+1,x,h=>by
  simp only[List.getElem?_cons_succ] at h;exact((zKP h).cons y).trans (.swap _ _ _)
theorem Holds.pick(i:Nat)(h:Holds B Γ w)(hi:Γ[i]?=some A):Holds B (A::Γ.eraseIdx i) w:=h.perm (zKP hi)
theorem Holds.del(i:Nat)(h:Holds B Γ w)(hi:Γ[i]?=some A):Holds B (Γ.eraseIdx i) w:=(h.pick i hi).tail
theorem zQN{α:Type _}:∀{l:List α} {i:Nat} {x y:α},l[i]?=some x→(y::l.eraseIdx i).Perm (l.set i y)
 | [],i,x,y,h=>by simp at h
 | z::l,0,x,y,h=>by simp
 | z::l,i+1,x,y,h=>by
  simp only[List.getElem?_cons_succ] at h;exact(List.Perm.swap _ _ _).trans ((zQN h).cons z)
theorem Holds.put(i:Nat)(hi:Γ[i]?=some A)(h:Holds B (A'::Γ.eraseIdx i) w):Holds B (Γ.set i A') w:=h.perm (zQN hi)
theorem Holds.ex{α:Sort _}{F:α→zB}:Holds B (Sep.ex F::Γ) w↔∃x,Holds B (F x::Γ) w:=by
 constructor
 ·rintro⟨hb,h1,h2,⟨x,a⟩,b,l1,l2,d⟩;exact⟨x,hb,h1,h2,a,b,l1,l2,d⟩
 ·rintro⟨x,hb,h1,h2,a,b,l1,l2,d⟩;exact⟨hb,h1,h2,⟨x,a⟩,b,l1,l2,d⟩
theorem Holds.pur{p:Prop}:Holds B (Sep.pur p::Γ) w↔p∧Holds B Γ w:=by
 constructor
 ·intro h;exact⟨by obtain⟨_,_,_,a,_⟩:=h;exact a,h.tail⟩
 ·rintro⟨hp,hb,hs⟩;exact⟨hb,fun _=>Option.none,_,hp,hs,fun _ _ e=>(by cases e),Hp.le_refl _,fun _=>.inl rfl⟩
theorem zME{h:Hp}:Sep.stars (Sep.stars Δ::Γ) h↔Sep.stars (Δ++Γ) h:=by
 rw[zO4];rfl
theorem Holds.flat:Holds B (Sep.stars Δ::Γ) w↔Holds B (Δ++Γ) w :=
 ⟨fun h=>⟨h.below,zME.1 h.stars⟩,fun h=>⟨h.below,zME.2 h.stars⟩⟩
theorem Holds.snoc(h:Holds B (Sep.stars Δ::A::Γ) w):Holds B (Sep.stars (Δ++[A])::Γ) w:=by
 refine Holds.flat.2 ?_;have:=Holds.flat.1 h;simpa using this
theorem Holds.zAA(h:Holds B Γ w):Holds B (Sep.stars []::Γ) w:=Holds.flat.2 h
theorem Holds.fact{p:Prop}(h:Holds B (A::Γ) w)(hi:∀h,A h→p):p:=by
 obtain⟨_,_,_,a,_⟩:=h;exact hi _ a
theorem Holds.block{b:Nat}{o:Obj}(h:Holds B (blk b o::Γ) w):w.heap[b]?=some o:=by
 obtain⟨_,h1,h2,a,_,l1,_,_⟩:=h;exact(zG4 (l1 _ _ a)).2
theorem Holds.base{b:Nat}{o:Obj}(h:Holds B (blk b o::Γ) w):B.heap.size≤b:=by
 obtain⟨_,h1,h2,a,_,l1,_,_⟩:=h;exact(zG4 (l1 _ _ a)).1
theorem Holds.apart{b c:Nat}{o p:Obj}(h:Holds B (blk b o::blk c p::Γ) w):b≠c:=by
 rintro rfl;obtain⟨_,h1,h2,a,⟨h3,h4,a',_,l3,_,_⟩,l1,_,d⟩:=h;rcases d b with e|e
 ·unfold blk at a;rw[e] at a;cases a
 ·have:=l3 _ _ a';rw[e] at this;cases this
theorem zQO(B w:World)(o:Obj):(own B w).le (own B { w with heap:=w.heap.push o }):=fun b p e=>by
 obtain⟨hb,e⟩:=zG4 e;have hlt:b<w.heap.size:=(zgq.1 e).1;unfold own;rw[if_neg (by omega)];show(w.heap.push o)[b]?=_;rw[Array.getElem?_push,if_neg (by omega)];exact e
theorem zSK(h:Below B.heap.size B w)(o:Obj):Below B.heap.size B { w with heap:=w.heap.push o }:=h.alloc h.size o
theorem Holds.alloc(h:Holds B Γ w)(o:Obj):Holds B (blk w.heap.size o::Γ) { w with heap:=w.heap.push o }:=by
 refine⟨zSK h.below o,Hp.one w.heap.size o,own B w,by simp[blk,Hp.one],h.stars,?_,zQO B w o,?_⟩
 ·intro b p e;unfold Hp.one at e;split at e
  ·rename_i hb;subst hb;cases e;unfold own;rw[if_neg (by have:=h.below.size;omega)];show(w.heap.push o)[w.heap.size]?=_;simp
  ·cases e
 ·intro b;by_cases hb:b=w.heap.size
  ·right;unfold own;split
   ·rfl
   ·subst hb;simp
  ·left;simp[Hp.one,hb]
theorem Holds.setBlock{b:Nat}{o o':Obj}(h:Holds B (blk b o::Γ) w){w':World}(hw:w'={ w with heap:=w.heap.setIfInBounds b o' }):Holds B (blk b o'::Γ) w':=by
 subst hw;have hblock:=h.block;have hlt:b<w.heap.size:=(zgq.1 hblock).1;have hbase:=h.base;obtain⟨hbelow,h1,h2,a,b2,l1,l2,d⟩:=h;refine⟨⟨hbelow.os,hbelow.tape,hbelow.output,by simpa using hbelow.size,fun k hk=>?_⟩,Hp.one b o',h2,by simp[blk,Hp.one],b2,?_,?_,?_⟩
 ·show(w.heap.setIfInBounds b o')[k]?=_;rw[zg5 (by omega)];exact hbelow.block k hk
 ·intro c p e;unfold Hp.one at e;split at e
  ·rename_i hc;subst hc;cases e;unfold own;rw[if_neg (by omega)];show(w.heap.setIfInBounds c o')[c]?=_;simp[hlt]
  ·cases e
 ·intro c p e;have hne:c≠b:=by
   rintro rfl;rcases d c with e'|e'
   ·unfold blk at a;rw[e'] at a;cases a
   ·rw[e'] at e;cases e
  obtain⟨hc,e⟩:=zG4 (l2 _ _ e);unfold own;rw[if_neg (by omega)];show(w.heap.setIfInBounds b o')[c]?=_;rw[zg5 (by omega)];exact e
 ·intro c;by_cases hc:c=b
  ·subst hc;rcases d c with e'|e'
   ·unfold blk at a;rw[e'] at a;cases a
   ·right;exact e'
  ·left;simp[Hp.one,hc]
theorem Holds.zTm(h:Holds B Γ w){w':World}(hh:w'.heap=w.heap)(ho:w'.os=w.os)(ht:w'.tape=w.tape)(hp:w'.output=w.output):Holds B Γ w':=by
 refine⟨⟨ho.trans h.below.os,ht.trans h.below.tape,hp.trans h.below.output,by rw[hh];exact h.below.size,fun k hk=>by rw[hh];exact h.below.block k hk⟩,?_⟩;have:own B w'=own B w:=by funext b;simp[own,hh]
 rw[this];exact h.stars
theorem Holds.drew(h:Holds B Γ w)(n:Nat):Holds B Γ { w with drawn:=n }:=h.zTm rfl rfl rfl rfl
theorem Holds.old(h:Holds B Γ w){b:Nat}{o:Obj}(hb:B.heap[b]?=some o):w.heap[b]?=some o:=by
 have hlt:b<B.heap.size:=(zgq.1 hb).1;rw[h.below.block b hlt];exact hb
end
end
section
open Go
structure Sl where
 a:Option Addr
 n:Nat
 c:Nat
abbrev Sl.val(s:Sl):Value:=.slice s.a s.n s.c
def Ret(k:Value→World→Prop):Ending→World→Prop
 | .returned v,w=>k v w
 | _,_=>False
def look:List (Nat×Value)→Nat→Option Value
 | [],_=>none
 | (j,v)::σ,i=>match Nat.beq i j with
  | true=>some v
  | false=>look σ i
theorem zKQ{p:Nat×Value}{σ:List (Nat×Value)}{i:Nat}:look (p::σ) i=if i=p.1 then some p.2 else look σ i:=by
 obtain⟨j,u⟩:=p;show(match Nat.beq i j with|true=>some u|false=>look σ i)=_;by_cases h:i=j
 ·simp[h]
 ·have:Nat.beq i j=false:=by
   cases hb:Nat.beq i j with
   | false=>rfl
   | true=>exact absurd (Nat.eq_of_beq_eq_true hb) h
  simp[this,h]
def ev(σ:List (Nat×Value)):Operand→Option Value
 | .tmp t=>look σ t
 | .const v=>some v
 | .global g=>some (.pointer (some ⟨g,0,none⟩))
 | .func f=>some (.func (.func f) #[] #[])
structure Slots(a:Act)(n:Nat)(σ:List (Nat×Value)):Prop where
 size:a.tmps.size=n
 defers:a.defers=[]
 at':∀i v,look σ i=some v→a.tmps.getD i undef=v
def Sub(σ:List (Nat×Value)):List (Nat×Value)→Prop
 | []=>True
 | p::τ=>look σ p.1=some p.2∧Sub σ τ
theorem Sub.look{σ:List (Nat×Value)}:∀{τ:List (Nat×Value)},Sub σ τ→∀i v,look τ i=some v→Sep.look σ i=some v
 | [],_,i,v,h=>by simp[Sep.look] at h
 | p::τ,hs,i,v,h=>by
  rw[zKQ] at h;split at h
  ·rename_i e;subst e;cases h;exact hs.1
  ·exact Sub.look hs.2 i v h
section
variable{a:Act}{n:Nat}{σ τ:List (Nat×Value)}
theorem Slots.to(h:Slots a n σ)(hs:Sub σ τ):Slots a n τ:=⟨h.size,h.defers,fun i v e=>h.at' i v (hs.look i v e)⟩
theorem Slots.ev(h:Slots a n σ){x:Operand}{v:Value}(hx:Sep.ev σ x=some v):a.eval x=v:=by
 cases x with
 | tmp t=>exact h.at' _ _ hx
 | const u=>exact zhh hx
 | global g=>exact zhh hx
 | func f=>exact zhh hx
theorem Slots.put(h:Slots a n σ){d:Nat}(hd:d<n)(v:Value):Slots (a.put (some d) v) n ((d,v)::σ):=by
 refine⟨by simp[Act.put,h.size],h.defers,fun i u e=>?_⟩;rw[zKQ] at e;split at e
 ·rename_i hi;simp only at hi;subst hi;cases e;have:i<a.tmps.size:=by rw[h.size];exact hd
  simp[Act.put,this]
 ·rename_i hi;have:=h.at' i u e;simpa[Act.put,zg5 (Ne.symm hi)] using this
theorem Slots.init(args:List Value)(n:Nat)(hn:args.length≤n):Slots { tmps:=args.toArray++Array.replicate (n-args.toArray.size) undef,defers:=[] } n (args.zipIdx.map fun p=>(p.2,p.1)):=by
 refine⟨by simp;omega,rfl,fun i v e=>?_⟩;have key:∀(l:List Value) (k i:Nat) (v:Value),look ((l.zipIdx k).map fun p=>(p.2,p.1)) i=some v→k≤i∧l[i-k]?=some v:=by
  intro l
  induction l with
  | nil=>intro k i v e;simp[look] at e
  | cons x l ih=>
   intro k i v e;simp only[zhm,zgd] at e;rw[zKQ] at e;split at e
   ·rename_i hi;simp only at hi;subst hi;cases e;simp
   ·rename_i hi;obtain⟨h1,h2⟩:=ih _ _ _ e;refine⟨by omega,?_⟩;rw[show i-k=(i-(k+1))+1 by omega];simpa using h2
 obtain⟨_,h2⟩:=key args 0 i v e;simp only[Nat.sub_zero] at h2;have hlt:i<args.length:=(zgZ.1 h2).1;have h3:=(zgZ.1 h2).2;simp[Array.getElem?_append,hlt,h3]
end
section
variable{P:Program}{ops:Array Oper}{Q:Exit→Act→World→Prop}{rest:List Oper}{o:Oper}{a:Act}{n:Nat}{σ:List (Nat×Value)}{w w':World}{v:Value}
def Pure(P:Program)(σ:List (Nat×Value))(o:Oper)(v:Value):Prop :=
 ∀(a:Act) (n:Nat),Slots a n σ→∀w,(execOp a.eval o).run P w = .ok (.value v) w
def Eff(P:Program)(σ:List (Nat×Value))(o:Oper)(w:World)(x:Next)(w':World):Prop :=
 ∀(a:Act) (n:Nat),Slots a n σ→(execOp a.eval o).run P w = .ok x w'
theorem Pure.eff(h:Pure P σ o v)(w:World):Eff P σ o w (.value v) w:=fun a n hs=>h a n hs w
def wants(ops:Array Oper)(σ:List (Nat×Value))(o:Oper):Option Bool :=
 match o.guard with
 | none=>some true
 | some (j,want)=>match (ops[j]?).bind (·.dst) with
  | none=>some false
  | some t=>match look σ t with
   | some v=>match v with
    | .bool b=>some (b==want)
    | _=>some false
   | none=>none
theorem jX(hs:Slots a n σ){b:Bool}(h:wants ops σ o=some b):Region.wanted o (yielded ops a.tmps)=b:=by
 unfold wants at h;unfold Region.wanted;split at h
 ·rename_i hg;simp only[hg];simpa using h
 ·rename_i j want hg;simp only[hg];unfold yielded;split at h
  ·rename_i hd;simp only[zg4] at h;subst h;cases hj:ops[j]? with
   | none=>simp
   | some oj=>simp[hj] at hd;simp[hd]
  ·rename_i t ht;split at h
   ·rename_i v hb;have:=hs.at' _ _ hb;cases hj:ops[j]? with
    | none=>simp[hj] at ht
    | some oj=>
     simp[hj] at ht;simp only[ht,Option.bind_some];cases hx:a.tmps[t]? with
     | none=>
      simp[hx] at this;subst this;simp[undef] at h;subst h;simp
     | some x=>
      simp[hx] at this;subst this;cases x <;> simp at h <;> subst h <;> simp
   ·cases h
def Oper.bare(o:Oper):Oper:={ o with guard:=none }
end
section
variable{P:Program}{ops:Array Oper}{Q:Exit→Act→World→Prop}{S:World→Prop}{o:Oper}{a:Act}{n:Nat}{σ:List (Nat×Value)}{w w':World}{v:Value}{fuel:Nat}{listed:Array Bool}
def Any:World→Prop:=fun _=>True
theorem Any.intro(w:World):Any w:=trivial
def Is(u:World):World→Prop:=fun x=>x=u
theorem Is.intro(u:World):Is u u:=rfl
theorem Is.out{u x:World}(h:Is u x):x=u:=h
def zEl(Q:Exit→Act→World→Prop):Prop:=∀c a w,¬Q (.panic c) a w
def zSL(P:Program)(ops:Array Oper)(Q:Exit→Act→World→Prop)(S:World→Prop)(ds:List Nat):Nat→Array Bool→Act→World→Prop
 | 0,listed,a,w=>Region.ready .any ops listed=[]∧Q .normal a w
 | fuel+1,listed,a,w=>
  (Region.ready .any ops listed=[]→Q .normal a w) ∧
  ∀i∈Region.ready .any ops listed,wpOp P ops Q i (fun a' w'=>(i∉ds→S w→S w')∧zSL P ops Q S ds fuel (listed.setIfInBounds i true) a' w') a w
variable{ds:List Nat}
def reach(ops:Array Oper)(i:Nat):Nat→Nat→Bool
 | 0,_=>false
 | n+1,d=>match ops[d]? with
  | some od=>od.after.any fun e=>Region.binds .any e&&(e.on==i||reach ops i n e.on)
  | none=>false
def Closed(ops:Array Oper)(l:Array Bool):Prop :=
 ∀(j:Nat) (oj:Oper),ops[j]?=some oj→l.getD j false=true→∀e∈oj.after,Region.binds .any e=true→l.getD e.on false=true
theorem zGC{ops:Array Oper}{l:Array Bool}{i:Nat}(hc:Closed ops l):∀(n d:Nat) (od:Oper),ops[d]?=some od→(∀e∈od.after,Region.binds .any e=true→l.getD e.on false=true)→reach ops i n d=true→l.getD i false=true
 | 0,_,_,_,_,h=>by simp[reach] at h
 | n+1,d,od,hd,hall,h=>by
  simp only[reach,hd,Array.any_eq_true'] at h;obtain⟨e,he,hb⟩:=h;simp only[zgp,Bool.or_eq_true,beq_iff_eq] at hb;have h1:=hall e he hb.1;rcases hb.2 with h2|h2
  ·rw[←h2];exact h1
  ·cases ho:ops[e.on]? with
   | none=>cases n <;> simp[reach,ho] at h2
   | some oe=>exact zGC hc n e.on oe ho (hc e.on oe ho h1) h2
theorem Closed.put{ops:Array Oper}{l:Array Bool}(h:Closed ops l){j:Nat}(hj:j∈Region.ready .any ops l):Closed ops (l.setIfInBounds j true):=by
 intro k ok hk hl e he hb;obtain⟨_,oj,hoj,hall⟩:=mem_ready.1 hj;by_cases hjk:j=k
 ·subst hjk;rw[hk] at hoj;cases hoj;exact getD_set_true (hall e he hb)
 ·rw[getD_set_ne false hjk] at hl;exact getD_set_true (h k ok hk hl e he hb)
def zWa(P:Program)(ops:Array Oper)(Q:Exit→Act→World→Prop)(S:World→Prop)(ds:List Nat)(fuel:Nat)(l:Array Bool)(a:Act)(w:World)(rs:List Nat):Prop :=
 ∀i∈rs,wpOp P ops Q i (fun a' w'=>(i∉ds→S w→S w')∧zSL P ops Q S ds fuel (l.setIfInBounds i true) a' w') a w
theorem zWa.nil{l:Array Bool}:zWa P ops Q S ds fuel l a w []:=fun _ h=>by cases h
theorem zWa.cons{l:Array Bool}{i:Nat}{rs:List Nat}(h:wpOp P ops Q i (fun a' w'=>(i∉ds→S w→S w')∧zSL P ops Q S ds fuel (l.setIfInBounds i true) a' w') a w)
  (hs:zWa P ops Q S ds fuel l a w rs):zWa P ops Q S ds fuel l a w (i::rs):=fun j hj=>by
 rcases zgS.1 hj with rfl|hj
 ·exact h
 ·exact hs j hj
end
section
variable{P:Program}{ops:Array Oper}{Q:Act→Prop}{rest:List Oper}{o:Oper}{a:Act}{n:Nat}{σ:List (Nat×Value)}{w:World}{v:Value}
theorem zau(hs:Slots a n σ){d:Nat}(hg:o.guard=none)(hd:o.dst=some d)(hn:d<n)(hp:Eff P σ o w (.value v) w)
  (hk:∀a,Slots a n ((d,v)::σ)→wpStill P ops w Q rest a):wpStill P ops w Q (o::rest) a:=by
 unfold wpStill;rw[if_pos (by simp[Region.wanted,hg])];unfold Oper.still;rw[hp a n hs,Oper.stillUpon_value,hd];exact hk _ (hs.put hn v)
theorem zbf(hs:Slots a n σ){d:Nat}(hg:o.guard=none)(hd:o.dst=some d)(hn:d<n)(hp:Pure P σ o v)
  (hk:∀a,Slots a n ((d,v)::σ)→wpStill P ops w Q rest a):wpStill P ops w Q (o::rest) a:=zau hs hg hd hn (hp.eff w) hk
theorem zav(hs:Slots a n σ)(hw:wants ops σ o=some true)(hk:wpStill P ops w Q (Sep.Oper.bare o::rest) a):wpStill P ops w Q (o::rest) a:=by
 have h1:=jX hs hw;unfold wpStill at hk ⊢;rw[if_pos h1];rw[if_pos (by simp[Region.wanted,Sep.Oper.bare])] at hk;exact hk
theorem ze2(hs:Slots a n σ)(hw:wants ops σ o=some false){d:Nat}(hd:o.dst=some d)(hn:d<n)(hk:∀a,Slots a n ((d,undef)::σ)→wpStill P ops w Q rest a):wpStill P ops w Q (o::rest) a:=by
 have h1:=jX hs hw;unfold wpStill;rw[if_neg (by rw[h1];simp),hd];exact hk _ (hs.put hn _)
theorem zZI{l:List Oper}{id:Nat}{Q:Exit→Act→World→Prop}{w':World}(hm:P.follows .mixedOrders=true)(hB:Region.lexB .any l.toArray=true)(hw:w'={ w with drawn:=w.drawn+1 })
  (h:wpStill P l.toArray w' (fun a'=>Q .normal a' w') l a):(Code.region id l.toArray true).wp P Q a w:=by
 subst hw;exact wp_region_still_lit hm hB h
end
section
variable{P:Program}{Q:Exit→Act→World→Prop}{a:Act}{n:Nat}{σ:List (Nat×Value)}{w:World}
def zq{α:Type}(body:(α→World→Prop)→α→World→Prop)(x:α)(w:World):Prop :=
 ∃(I:α→World→Prop) (μ:α→World→Nat),I x w∧∀x w,I x w→body (fun x' w'=>I x' w'∧μ x' w'<μ x w) x w
theorem zq.of{α:Type}{body:(α→World→Prop)→α→World→Prop}{x:α}{w:World}(I:α→World→Prop)(μ:α→World→Nat)(h0:I x w)
  (h:∀x w,I x w→body (fun x' w'=>I x' w'∧μ x' w'<μ x w) x w):zq body x w:=⟨I,μ,h0,h⟩
end
end
section
open Go
abbrev K:=World→Prop
def callable(P:Program)(f:FuncId):Bool:=match P.funcs[f]? with
 | some fn => fn.name != "runtime.NumGoroutine" && fn.body.isSome
 | none=>false
def Do{α β:Type}(P:Program)(s:Sem β)(c:α→β)(k:α→K):K:=fun w=>∃x w',s.run P w = .ok (c x) w'∧k x w'
def Ld{α:Type}(a:Addr)(c:α→Value)(k:α→K):K:=fun w=>∃x,w.cell? a=some (c x)∧k x w
def RdN(w:World)(a:Addr)(cs:Array Value):Prop:=∀i,i<cs.size→w.cell? (a.add i)=cs[i]?
def LdN(a:Addr)(n:Nat)(k:Array Value→K):K:=fun w=>∃cs:Array Value,cs.size=n∧RdN w a cs∧k cs w
def qD:Value→Bool
 | .agg _|.tuple _=>false
 | _=>true
def St(a:Addr)(v:Value)(k:K):K:=fun w=>∃w',w'=w.setCell a v∧(∃u,w.cell? a=some u)∧w.frozen? a=false∧qD v=true∧k w'
def setCells(a:Addr):List Value→Nat→World→World
 | [],_,w=>w
 | v::vs,i,w=>setCells a vs (i+1) (w.setCell (a.add i) v)
def StN(a:Addr)(n:Nat)(cs:Array Value)(k:K):K:=fun w=>∃w',w'=setCells a cs.toList 0 w∧cs.size=n ∧
 (∀i,i<cs.size→(∃u,w.cell? (a.add i)=some u)∧w.frozen? (a.add i)=false)∧(∀v∈cs.toList,qD v=true)∧k w'
def New(T:TypeId)(cs:Array Value)(k:Addr→K):K:=fun w=>∃a w',a=⟨w.heap.size,0,none⟩∧w'={ w with heap:=w.heap.push (.cells cs T) }∧k a w'
def zI(P:Program)(f:FuncId)(args:Array Value)(k:Value→K):K:=fun w=>Calls P f args w (Ret k)
def Ar(e:Int)(k:Int→K):K:=fun w=>∃t,t=e∧k t w
def Do2{α β γ:Type}(P:Program)(s:Sem γ)(c:α→β→γ)(k:α→β→K):K:=fun w=>∃x y w',s.run P w = .ok (c x y) w'∧k x y w'
def DoU(P:Program)(s:Sem Unit)(k:K):K:=fun w=>∃u w',s.run P w = .ok u w'∧k w'
def Rd{α:Type}(P:Program)(s:Sem Value)(c:α→Value)(k:α→K):K:=fun w=>∃x,s.run P w = .ok (c x) w∧k x w
def Rd2{α β:Type}(P:Program)(s:Sem Value)(c:α→β→Value)(k:α→β→K):K:=fun w=>∃x y,s.run P w = .ok (c x y) w∧k x y w
def Pu{α:Type}(P:Program)(s:Sem Value)(c:α→Value)(k:α→K):K:=fun w=>∃x,(∀w,s.run P w = .ok (c x) w)∧k x w
def Cd(p:Prop)(k:K):K:=fun w=>p∧k w
def Ite(b:Bool)(x y:K):K:=fun w=>(b=true→x w)∧(b=false→y w)
def Fv(P:Program)(f:Value)(k:FuncId→Array Value→Array Value→K):K:=fun w=>∃g fs cs,f = .func (.func g) fs cs∧callable P g=true∧k g fs cs w
def vZ(P:Program)(f:Value)(args:List Value)(k:Value→K):K:=fun w =>
 ∃g fs cs,f = .func (.func g) fs cs∧callable P g=true∧Calls P g (fs++args.toArray++cs) w (Ret k)
def uZ(v0:Value)(k:K):Value→K:=fun v w=>v=v0∧k w
def yH{α:Type}(c:α→Value)(k:α→K):Value→K:=fun v w=>∃x,v=c x∧k x w
def jm{α β:Type}(c:α→β→Value)(k:α→β→K):Value→K:=fun v w=>∃x y,v=c x y∧k x y w
def zCj{α β γ:Type}(c:α→β→γ→Value)(k:α→β→γ→K):Value→K:=fun v w=>∃x y z,v=c x y z∧k x y z w
def Ext{α:Type}(t:Value)(i:Nat)(c:α→Value)(k:α→K):K:=fun w=>∃vs x,t = .tuple vs∧vs[i]?=some (c x)∧k x w
def Dead:K:=fun _=>False
def Dr(k:K):K:=fun w=>∃w',w'={ w with drawn:=w.drawn+1 }∧k w'
def yV(k:(World→Prop)→K):K:=fun w=>∃S:World→Prop,S w∧k S w
def Sv(S:World→Prop)(k:K):K:=fun w=>S w∧k w
def LdS{α:Type}(S:World→Prop)(a:Addr)(c:α→Value)(k:α→K):K:=fun w=>∃x,(∀w,S w→w.cell? a=some (c x))∧k x w
def xJ(S:World→Prop)(a:Addr)(n:Nat)(k:Array Value→K):K:=fun w=>∃cs:Array Value,cs.size=n∧(∀w,S w→RdN w a cs)∧k cs w
def RdS{α:Type}(P:Program)(S:World→Prop)(s:Sem Value)(c:α→Value)(k:α→K):K:=fun w=>∃x,(∀w,S w→s.run P w = .ok (c x) w)∧k x w
def zDD{α β:Type}(P:Program)(S:World→Prop)(s:Sem Value)(c:α→β→Value)(k:α→β→K):K:=fun w=>∃x y,(∀w,S w→s.run P w = .ok (c x y) w)∧k x y w
def Nn(p:Option Addr)(k:Addr→K):K:=fun w=>∃a,p=some a∧k a w
def Idx(s:Sl)(i:Int)(esz:Nat)(k:Addr→K):K:=fun w=>∃a t,s.a=some a∧0≤i∧i<s.n∧t=a.add (i.toNat*esz)∧k t w
def zBW(a:Addr)(len:Nat)(i:Int)(esz:Nat)(k:Addr→K):K:=fun w=>∃t,0≤i∧i<len∧t=a.add (i.toNat*esz)∧k t w
def zCs(s:ByteArray)(i:Int)(k:Int→K):K:=fun w=>∃(t:Int) (b:UInt8),0≤i∧s[i.toNat]?=some b∧t=(b.toNat:Int)∧k t w
def Fld{α:Type}(cs:Array Value)(off:Nat)(c:α→Value)(k:α→K):K:=fun w=>∃x,cs[off]?=some (c x)∧k x w
def Bld(zero:Array Value)(place:Nat→Option (Nat×Nat))(parts:List (Nat×Value))(k:Array Value→K):K:=fun w =>
 ∃cs,Instr.fill place zero parts=some cs∧k cs w
def zCW(a:Option Addr)(l m esz:Nat):Option Addr:=if m=l then a else a.map (·.add (l*esz))
def Slc(s:Sl)(lo hi mx:Int)(esz:Nat)(k:Sl→K):K:=fun w =>
 ∃t,0≤lo∧lo≤hi∧hi≤mx∧mx≤s.c∧t=⟨zCW s.a lo.toNat mx.toNat esz,hi.toNat-lo.toNat,mx.toNat-lo.toNat⟩∧k t w
def zDE(s:ByteArray)(lo hi:Int)(k:ByteArray→K):K:=fun w =>
 ∃t,0≤lo∧lo≤hi∧hi≤s.size∧t=s.extract lo.toNat hi.toNat∧k t w
def Cat(a b:ByteArray)(k:ByteArray→K):K:=fun w=>∃t,((a.size+b.size:Nat):Int)≤9223372036854775807∧t=a++b∧k t w
def All(l:List (World→Prop)):K:=fun w=>∀(i:Nat) (x:World→Prop),l[i]?=some x→x w
def zN7(P:Program)(T:TypeId):Bool:=match P.underlying T with
 | some (.struct _)|some (.array _ _)|none=>false
 | some _=>true
def zVB(P:Program)(T:TypeId)(n:Nat):Bool:=match P.underlying T with
 | some (.struct _)|some (.array _ _)=>(P.info? T).map (·.size)==some n
 | _=>false
def sizeT(P:Program)(T:TypeId)(n:Nat):Bool:=(P.info? T).map (·.size)==some n
def sliceT(P:Program)(T E:TypeId)(esz:Nat):Bool:=match P.underlying T with
 | some (.slice e)=>e==E&&(P.info? E).map (·.size)==some esz
 | _=>false
def zO5(P:Program)(T E:TypeId)(len esz:Nat):Bool:=match P.underlying T with
 | some (.array n e)=>n==len&&e==E&&(P.info? E).map (·.size)==some esz
 | _=>false
def zFR(P:Program)(T:TypeId):Bool:=match P.underlying T with|some .string=>true|_=>false
def zWb(P:Program)(T:TypeId)(k:IntKind):Bool:=match P.underlying T with|some (.int k')=>k==k'|_=>false
def zO6(P:Program)(S i off n:Nat):Bool:=match P.underlying S with
 | some (.struct fs)=>match fs[i]? with
  | some f=>f.offset==off&&n != 0&&(P.info? f.type).map (·.size)==some n
  | none=>false
 | _=>false
def zSM(P:Program)(S i off:Nat):Bool:=match P.underlying S with
 | some (.struct fs)=>match fs[i]? with
  | some f=>f.offset==off&&zN7 P f.type
  | none=>false
 | _=>false
def zSN(P:Program)(S i off n:Nat):Bool:=match P.underlying S with
 | some (.struct fs)=>match fs[i]? with
  | some f=>f.offset==off&&zVB P f.type n
  | none=>false
 | _=>false
section
variable{P:Program}{w:World}
theorem zI1{T:TypeId}(h:zN7 P T=true):(isAgg T).run P w = .ok false w:=by
 unfold zN7 at h;unfold isAgg underlying program;cases hu:P.underlying T with
 | none=>simp[hu] at h
 | some d=>cases d <;> simp[hu,Sem.run,Sem.run_bind'] at h ⊢ <;> simp_all[bind,Sem.bind,Sem.run,pure]
theorem zEz{T n:Nat}(h:zVB P T n=true):(isAgg T).run P w = .ok true w∧(sizeOf T).run P w = .ok n w:=by
 unfold zVB at h;unfold isAgg sizeOf typeInfo underlying program;cases hi:P.info? T with
 | none=>cases hu:P.underlying T with
  | none=>simp[hu] at h
  | some d=>cases d <;> simp[hu,hi] at h
 | some i=>cases hu:P.underlying T with
  | none=>simp[hu] at h
  | some d=>cases d <;> simp[hu,hi] at h ⊢ <;> simp_all[bind,Sem.bind,Sem.run,pure]
theorem zAB{T n:Nat}(h:sizeT P T n=true):(sizeOf T).run P w = .ok n w:=by
 unfold sizeT at h;unfold sizeOf typeInfo program;cases hi:P.info? T with
 | none=>simp[hi] at h
 | some i=>simp[hi] at h ⊢;simp_all[bind,Sem.bind,Sem.run,pure]
theorem zAd{T E esz:Nat}(h:sliceT P T E esz=true):P.underlying T=some (.slice E)∧sizeT P E esz=true:=by
 unfold sliceT at h;split at h
 ·rename_i e he;simp at h;obtain⟨rfl,h⟩:=h;exact⟨he,by unfold sizeT;simpa using h⟩
 ·cases h
theorem zK8{T E len esz:Nat}(h:zO5 P T E len esz=true):P.underlying T=some (.array len E)∧sizeT P E esz=true:=by
 unfold zO5 at h;split at h
 ·rename_i n e he;simp at h;obtain⟨⟨rfl,rfl⟩,h⟩:=h;exact⟨he,by unfold sizeT;simpa using h⟩
 ·cases h
theorem zDg{T:Nat}(h:zFR P T=true):P.underlying T=some .string:=by
 unfold zFR at h;split at h
 ·assumption
 ·cases h
theorem zN8{T:Nat}{k:IntKind}(h:zWb P T k=true):P.underlying T=some (.int k):=by
 unfold zWb at h;split at h
 ·rename_i k' hk;simp at h;subst h;exact hk
 ·cases h
theorem run_underlying{T:TypeId}{d:TypeDesc}(h:P.underlying T=some d):(underlying T).run P w = .ok d w:=by
 simp[underlying,program,h,Sem.run]
end
theorem Pure.adr{P:Program}{σ:List (Nat×Value)}{o:Oper}{t e:Addr}(he:t=e)(h:Pure P σ o (.pointer (some e))):Pure P σ o (.pointer (some t)):=he▸h
theorem Pure.sl{P:Program}{σ:List (Nat×Value)}{o:Oper}{t e:Sl}(he:t=e)(h:Pure P σ o e.val):Pure P σ o t.val:=he▸h
theorem Pure.str{P:Program}{σ:List (Nat×Value)}{o:Oper}{t e:ByteArray}(he:t=e)(h:Pure P σ o (.string e)):Pure P σ o (.string t):=he▸h
theorem Pure.int{P:Program}{σ:List (Nat×Value)}{o:Oper}{k:IntKind}{t e:Int}(he:t=e)(h:Pure P σ o (.int k e)):Pure P σ o (.int k t):=he▸h
section
variable{P:Program}{σ:List (Nat×Value)}{o:Oper}{x y:Operand}{w:World}
theorem zWc{v:Value}(ho:o.op = .move x)(hx:ev σ x=some v):Pure P σ o v:=fun a n hs w=>by
 simp[execOp,ho,hs.ev hx]
theorem zQP{v:Value}(ho:o.op = .assign x)(hx:ev σ x=some v):Pure P σ o v:=fun a n hs w=>by
 simp[execOp,ho,hs.ev hx]
theorem zQQ{c:Operand}{v:Value}(ho:o.op = .pick c x y)(hc:ev σ c=some (.bool true))(hx:ev σ x=some v):Pure P σ o v:=fun a n hs w=>by
 simp[execOp,ho,hs.ev hx,hs.ev hc,asBool]
theorem zQR{c:Operand}{v:Value}(ho:o.op = .pick c x y)(hc:ev σ c=some (.bool false))(hy:ev σ y=some v):Pure P σ o v:=fun a n hs w=>by
 simp[execOp,ho,hs.ev hy,hs.ev hc,asBool]
theorem zQS{c:Operand}{b p q:Bool}(ho:o.op = .pick c x y)(hc:ev σ c=some (.bool b))(hx:ev σ x=some (.bool p))(hy:ev σ y=some (.bool q)):Pure P σ o (.bool (bif b then p else q)):=fun a n hs w=>by
 cases b <;> simp[execOp,ho,hs.ev hx,hs.ev hy,hs.ev hc,asBool]
theorem zaw{a:Addr}(ho:o.op = .nilCheck x)(hx:ev σ x=some (.pointer (some a))):Pure P σ o (.pointer (some a)):=fun _ n hs w=>by
 simp[execOp,ho,hs.ev hx]
theorem zWd{f:FuncId}{c d:Array Value}(ho:o.op = .nilCheck x)(hx:ev σ x=some (.func (.func f) c d)):Pure P σ o (.func (.func f) c d):=fun _ n hs w=>by
 simp[execOp,ho,hs.ev hx]
theorem zK9{S i off n:Nat}{a:Addr}(ho:o.op = .fieldAddr S x i)(hx:ev σ x=some (.pointer (some a)))(hf:zO6 P S i off n=true):Pure P σ o (.pointer (some (a.add off))):=fun _ _ hs w=>by
 unfold zO6 at hf;split at hf
 ·rename_i fs hS;split at hf
  ·rename_i f hfi;simp at hf;obtain⟨⟨h1,h2⟩,h3⟩:=hf;have hz:(sizeOf f.type).run P w = .ok n w:=zAB (by unfold sizeT;simpa using h3);simp[execOp,ho,hs.ev hx,Instr.fieldAt,run_underlying hS,hfi,Instr.sureAddr,fieldPlace,hz,h2,h1]
  ·cases hf
 ·cases hf
theorem zO7{S i n:Nat}{a:Addr}(ho:o.op = .fieldAddr S x i)(hx:ev σ x=some (.pointer (some a)))(hf:zO6 P S i 0 n=true):Pure P σ o (.pointer (some a)):=by
 simpa[Addr.add] using zK9 ho hx hf
theorem zZJ{S i off:Nat}{cs:Array Value}{v:Value}(ho:o.op = .field S x i)(hx:ev σ x=some (.agg cs))(hf:zSM P S i off=true)(hv:cs[off]?=some v):Pure P σ o v:=fun _ _ hs w=>by
 unfold zSM at hf;split at hf
 ·rename_i fs hS;split at hf
  ·rename_i f hfi;simp at hf;obtain⟨h1,h2⟩:=hf;subst h1;simp[execOp,ho,hs.ev hx,Instr.field,run_underlying hS,hfi,asAgg,part,zI1 h2,hv]
  ·cases hf
 ·cases hf
theorem zWe{S i off n:Nat}{cs:Array Value}(ho:o.op = .field S x i)(hx:ev σ x=some (.agg cs))(hf:zSN P S i off n=true):Pure P σ o (.agg (cs.extract off (off+n))):=fun _ _ hs w=>by
 unfold zSN at hf;split at hf
 ·rename_i fs hS;split at hf
  ·rename_i f hfi;simp at hf;obtain⟨h1,h2⟩:=hf;subst h1;simp[execOp,ho,hs.ev hx,Instr.field,run_underlying hS,hfi,asAgg,part,(zEz h2).1,(zEz h2).2]
  ·cases hf
 ·cases hf
section ints
variable{T U:TypeId}{k:IntKind}{a b:Int}
theorem zax(ho:o.op = .binOp .add T x y U)(hx:ev σ x=some (.int k a))(hy:ev σ y=some (.int k b)):Pure P σ o (.int k (k.wrap (a+b))):=fun _ _ hs w=>by
 simp[execOp,ho,hs.ev hx,hs.ev hy,eqGuard,binOp,Op.intArith]
theorem zay(ho:o.op = .binOp .sub T x y U)(hx:ev σ x=some (.int k a))(hy:ev σ y=some (.int k b)):Pure P σ o (.int k (k.wrap (a-b))):=fun _ _ hs w=>by
 simp[execOp,ho,hs.ev hx,hs.ev hy,eqGuard,binOp,Op.intArith]
theorem zaz(ho:o.op = .binOp .mul T x y U)(hx:ev σ x=some (.int k a))(hy:ev σ y=some (.int k b)):Pure P σ o (.int k (k.wrap (a*b))):=fun _ _ hs w=>by
 simp[execOp,ho,hs.ev hx,hs.ev hy,eqGuard,binOp,Op.intArith]
theorem za0(ho:o.op = .binOp .quo T x y U)(hx:ev σ x=some (.int k a))(hy:ev σ y=some (.int k b))(hb:b≠0):Pure P σ o (.int k (k.wrap (a.tdiv b))):=fun _ _ hs w=>by
 simp[execOp,ho,hs.ev hx,hs.ev hy,eqGuard,binOp,Op.intDiv,hb]
theorem za1(ho:o.op = .binOp .rem T x y U)(hx:ev σ x=some (.int k a))(hy:ev σ y=some (.int k b))(hb:b≠0):Pure P σ o (.int k (a.tmod b)):=fun _ _ hs w=>by
 simp[execOp,ho,hs.ev hx,hs.ev hy,eqGuard,binOp,Op.intDiv,hb]
theorem zdL(ho:o.op = .binOp .eql T x y U)(hx:ev σ x=some (.int k a))(hy:ev σ y=some (.int k b)):Pure P σ o (.bool (decide (a=b))):=fun _ _ hs w=>by
 simp[execOp,ho,hs.ev hx,hs.ev hy,eqGuard,binOp,Op.intCmp];rfl
theorem zdM(ho:o.op = .binOp .neq T x y U)(hx:ev σ x=some (.int k a))(hy:ev σ y=some (.int k b)):Pure P σ o (.bool (decide (a≠b))):=fun _ _ hs w=>by
 by_cases h:a=b <;> simp[execOp,ho,hs.ev hx,hs.ev hy,eqGuard,binOp,Op.intCmp,h]
theorem zdN(ho:o.op = .binOp .lss T x y U)(hx:ev σ x=some (.int k a))(hy:ev σ y=some (.int k b)):Pure P σ o (.bool (decide (a<b))):=fun _ _ hs w=>by
 simp[execOp,ho,hs.ev hx,hs.ev hy,eqGuard,binOp,Op.intCmp]
theorem zdO(ho:o.op = .binOp .leq T x y U)(hx:ev σ x=some (.int k a))(hy:ev σ y=some (.int k b)):Pure P σ o (.bool (decide (a≤b))):=fun _ _ hs w=>by
 simp[execOp,ho,hs.ev hx,hs.ev hy,eqGuard,binOp,Op.intCmp]
theorem zdP(ho:o.op = .binOp .gtr T x y U)(hx:ev σ x=some (.int k a))(hy:ev σ y=some (.int k b)):Pure P σ o (.bool (decide (b<a))):=fun _ _ hs w=>by
 simp[execOp,ho,hs.ev hx,hs.ev hy,eqGuard,binOp,Op.intCmp]
theorem zdQ(ho:o.op = .binOp .geq T x y U)(hx:ev σ x=some (.int k a))(hy:ev σ y=some (.int k b)):Pure P σ o (.bool (decide (b≤a))):=fun _ _ hs w=>by
 simp[execOp,ho,hs.ev hx,hs.ev hy,eqGuard,binOp,Op.intCmp]
def bitsOf(op:BinOp)(k:IntKind)(a b:Int):Int :=
 let u:=BitVec.ofInt k.bits a
 let v:=BitVec.ofInt k.bits b
 k.wrap (match op with|.and=>(u&&&v).toNat|.or=>(u|||v).toNat|.xor=>(u^^^v).toNat|_=>(u &&& ~~~v).toNat)
theorem za2(ho:o.op = .binOp .and T x y U)(hx:ev σ x=some (.int k a))(hy:ev σ y=some (.int k b)):Pure P σ o (.int k (bitsOf .and k a b)):=fun _ _ hs w=>by
 simp[execOp,ho,hs.ev hx,hs.ev hy,eqGuard,binOp,Op.intBits,bitsOf]
theorem zdR(ho:o.op = .binOp .or T x y U)(hx:ev σ x=some (.int k a))(hy:ev σ y=some (.int k b)):Pure P σ o (.int k (bitsOf .or k a b)):=fun _ _ hs w=>by
 simp[execOp,ho,hs.ev hx,hs.ev hy,eqGuard,binOp,Op.intBits,bitsOf]
theorem za3(ho:o.op = .binOp .xor T x y U)(hx:ev σ x=some (.int k a))(hy:ev σ y=some (.int k b)):Pure P σ o (.int k (bitsOf .xor k a b)):=fun _ _ hs w=>by
 simp[execOp,ho,hs.ev hx,hs.ev hy,eqGuard,binOp,Op.intBits,bitsOf]
def zQT(k:IntKind)(a b:Int):Int:=k.wrap (a*2^(min b.toNat k.bits))
def zIo(k:IntKind)(a b:Int):Int:=a.fdiv (2^(min b.toNat k.bits))
theorem za4{j:IntKind}(ho:o.op = .binOp .shl T x y U)(hx:ev σ x=some (.int k a))(hy:ev σ y=some (.int j b))(hb:0≤b):Pure P σ o (.int k (zQT k a b)):=fun _ _ hs w=>by
 simp[execOp,ho,hs.ev hx,hs.ev hy,eqGuard,binOp,Op.shift,zQT,show ¬b<0 by omega]
theorem za5{j:IntKind}(ho:o.op = .binOp .shr T x y U)(hx:ev σ x=some (.int k a))(hy:ev σ y=some (.int j b))(hb:0≤b):Pure P σ o (.int k (zIo k a b)):=fun _ _ hs w=>by
 simp[execOp,ho,hs.ev hx,hs.ev hy,eqGuard,binOp,Op.shift,zIo,show ¬b<0 by omega]
theorem za6(ho:o.op = .unOp .neg T x)(hx:ev σ x=some (.int k a)):Pure P σ o (.int k (k.wrap (0-a))):=fun _ _ hs w=>by
 simp[execOp,ho,hs.ev hx,Op.unary,Op.intArith]
theorem za7(ho:o.op = .unOp .xor T x)(hx:ev σ x=some (.int k a)):Pure P σ o (.int k (bitsOf .xor k (if k.signed then -1 else k.max) a)):=fun _ _ hs w=>by
 simp[execOp,ho,hs.ev hx,Op.unary,Op.intBits,bitsOf]
theorem zSO{j:IntKind}(ho:o.op = .convert T U x)(hx:ev σ x=some (.int k a))(hT:zWb P T k=true)(hU:zWb P U j=true):Pure P σ o (.int j (j.wrap a)):=fun _ _ hs w=>by
 simp[execOp,ho,hs.ev hx,convert,run_underlying (zN8 hT),run_underlying (zN8 hU),Conv.intToInt]
theorem za8(t:Array TypeId)(ho:o.op = .call { callee:=.builtin .max,args:=#[x,y],argTypes:=t })(hx:ev σ x=some (.int k a))(hy:ev σ y=some (.int k b)):Pure P σ o (.int k (if b>a then b else a)):=fun _ _ hs w=>by
 simp[execOp,ho,hs.ev hx,hs.ev hy,resolve,invoke,builtin,Builtin.max_,Builtin.max2]
theorem za9(t:Array TypeId)(ho:o.op = .call { callee:=.builtin .min,args:=#[x,y],argTypes:=t })(hx:ev σ x=some (.int k a))(hy:ev σ y=some (.int k b)):Pure P σ o (.int k (if b<a then b else a)):=fun _ _ hs w=>by
 simp[execOp,ho,hs.ev hx,hs.ev hy,resolve,invoke,builtin,Builtin.min_,Builtin.min2]
end ints
theorem zbA{T:TypeId}{b:Bool}(ho:o.op = .unOp .not T x)(hx:ev σ x=some (.bool b)):Pure P σ o (.bool (!b)):=fun _ _ hs w=>by
 simp[execOp,ho,hs.ev hx,Op.unary]
section strings
variable{T U:TypeId}{a b:ByteArray}
theorem zbB(ho:o.op = .binOp .eql T x y U)(hx:ev σ x=some (.string a))(hy:ev σ y=some (.string b)):Pure P σ o (.bool (a.toList==b.toList)):=fun _ _ hs w=>by
 simp[execOp,ho,hs.ev hx,hs.ev hy,eqGuard,binOp,Op.stringOp]
theorem zbC(ho:o.op = .binOp .neq T x y U)(hx:ev σ x=some (.string a))(hy:ev σ y=some (.string b)):Pure P σ o (.bool (!(a.toList==b.toList))):=fun _ _ hs w=>by
 simp[execOp,ho,hs.ev hx,hs.ev hy,eqGuard,binOp,Op.stringOp]
theorem zbD(ho:o.op = .binOp .lss T x y U)(hx:ev σ x=some (.string a))(hy:ev σ y=some (.string b)):Pure P σ o (.bool (Op.bytesLess a.toList b.toList)):=fun _ _ hs w=>by
 simp[execOp,ho,hs.ev hx,hs.ev hy,eqGuard,binOp,Op.stringOp]
theorem zbE(ho:o.op = .binOp .gtr T x y U)(hx:ev σ x=some (.string a))(hy:ev σ y=some (.string b)):Pure P σ o (.bool !(Op.bytesLess a.toList b.toList||a.toList==b.toList)):=fun _ _ hs w=>by
 simp[execOp,ho,hs.ev hx,hs.ev hy,eqGuard,binOp,Op.stringOp]
theorem zbg(ho:o.op = .binOp .add T x y U)(hx:ev σ x=some (.string a))(hy:ev σ y=some (.string b))(hl:((a.size+b.size:Nat):Int)≤9223372036854775807):Pure P σ o (.string (a++b)):=fun _ _ hs w=>by
 have:¬((a.size+b.size:Nat):Int)>IntKind.i64.max:=by simp[IntKind.max,IntKind.signed,IntKind.bits];omega
 simp only[execOp,ho,hs.ev hx,hs.ev hy,eqGuard,binOp,Op.stringOp];simp at this;simp[Int.not_lt.2 (by simpa using this),this]
theorem zSP(ho:o.op = .convert T U x)(hx:ev σ x=some (.string a))(hT:zFR P T=true)(hU:zFR P U=true):Pure P σ o (.string a):=fun _ _ hs w=>by
 simp[execOp,ho,hs.ev hx,convert,run_underlying (zDg hT),run_underlying (zDg hU)]
end strings
section nils
variable{T U E:TypeId}
theorem zTn{a b:Bool}(hT:P.underlying T=some .bool):(Op.equal T (.bool a) (.bool b)).run P w = .ok (a==b) w:=by
 unfold Op.equal Op.maxDepth;rw[Op.equalIn];simp only[Sem.run_bind,run_underlying hT,Result.andThen,Sem.run_pure]
theorem zdS{a b:Bool}(ho:o.op = .binOp .eql T x y U)(hx:ev σ x=some (.bool a))(hy:ev σ y=some (.bool b))(hT:P.underlying T=some .bool):Pure P σ o (.bool (a==b)):=fun _ _ hs w=>by
 simp only[execOp,ho,hs.ev hx,hs.ev hy,eqGuard,binOp];simp[zTn hT]
theorem zdT{a b:Bool}(ho:o.op = .binOp .neq T x y U)(hx:ev σ x=some (.bool a))(hy:ev σ y=some (.bool b))(hT:P.underlying T=some .bool):Pure P σ o (.bool (!(a==b))):=fun _ _ hs w=>by
 simp only[execOp,ho,hs.ev hx,hs.ev hy,eqGuard,binOp];simp[zTn hT]
theorem zG5{p:Option Addr}(hT:P.underlying T=some (.pointer E)):(Op.equal T (.pointer p) (.pointer none)).run P w = .ok p.isNone w:=by
 unfold Op.equal Op.maxDepth;rw[Op.equalIn];cases p <;> simp only[Sem.run_bind,run_underlying hT,Result.andThen,Sem.run_pure] <;> rfl
theorem zWf{p:Option Addr}(ho:o.op = .binOp .eql T x y U)(hx:ev σ x=some (.pointer p))(hy:ev σ y=some (.pointer none))(hT:P.underlying T=some (.pointer E)):Pure P σ o (.bool p.isNone):=fun _ _ hs w=>by
 cases p <;> simp only[execOp,ho,hs.ev hx,hs.ev hy,eqGuard,binOp] <;> simp[zG5 hT]
theorem zWg{p:Option Addr}(ho:o.op = .binOp .neq T x y U)(hx:ev σ x=some (.pointer p))(hy:ev σ y=some (.pointer none))(hT:P.underlying T=some (.pointer E)):Pure P σ o (.bool (!p.isNone)):=fun _ _ hs w=>by
 cases p <;> simp only[execOp,ho,hs.ev hx,hs.ev hy,eqGuard,binOp] <;> simp[zG5 hT]
theorem zIp{s:Sl}{n c:Nat}(hT:P.underlying T=some (.slice E)):(Op.equal T s.val (.slice none n c)).run P w = .ok s.a.isNone w:=by
 obtain⟨a,m,d⟩:=s;unfold Op.equal Op.maxDepth;rw[Op.equalIn];cases a <;> simp only[Sl.val,Sem.run_bind,run_underlying hT,Result.andThen,Sem.run_pure] <;> rfl
theorem zZK{s:Sl}{n c:Nat}(ho:o.op = .binOp .eql T x y U)(hx:ev σ x=some s.val)(hy:ev σ y=some (.slice none n c))(hT:P.underlying T=some (.slice E)):Pure P σ o (.bool s.a.isNone):=fun _ _ hs w=>by
 obtain⟨a,m,d⟩:=s;have:=zIp (w:=w) (s:=⟨a,m,d⟩) (n:=n) (c:=c) hT;simp only[execOp,ho,hs.ev hx,hs.ev hy,eqGuard,binOp];simp[this]
theorem zZL{s:Sl}{n c:Nat}(ho:o.op = .binOp .neq T x y U)(hx:ev σ x=some s.val)(hy:ev σ y=some (.slice none n c))(hT:P.underlying T=some (.slice E)):Pure P σ o (.bool (!s.a.isNone)):=fun _ _ hs w=>by
 obtain⟨a,m,d⟩:=s;have:=zIp (w:=w) (s:=⟨a,m,d⟩) (n:=n) (c:=c) hT;simp only[execOp,ho,hs.ev hx,hs.ev hy,eqGuard,binOp];simp[this]
end nils
theorem zdU{T:TypeId}{s:Sl}{E esz:Nat}(ho:o.op = .call { callee:=.builtin .len,args:=#[x],argTypes:=#[T] })(hx:ev σ x=some s.val)(hT:sliceT P T E esz=true):Pure P σ o (.int .i64 s.n):=fun _ _ hs w=>by
 simp[execOp,ho,hs.ev hx,resolve,invoke,builtin,Builtin.len_,run_underlying (zAd hT).1,goInt]
theorem zbh{T:TypeId}{s:ByteArray}(ho:o.op = .call { callee:=.builtin .len,args:=#[x],argTypes:=#[T] })(hx:ev σ x=some (.string s))(hT:zFR P T=true):Pure P σ o (.int .i64 s.size):=fun _ _ hs w=>by
 simp[execOp,ho,hs.ev hx,resolve,invoke,builtin,Builtin.len_,run_underlying (zDg hT),goInt]
theorem zN9{vs:Array Value}{i:Nat}{v:Value}(ho:o.op = .extract x i)(hx:ev σ x=some (.tuple vs))(hv:vs[i]?=some v):Pure P σ o v:=fun _ _ hs w=>by
 simp[execOp,ho,hs.ev hx,Instr.extract,hv]
theorem zdV{T E esz:Nat}{k:IntKind}{s:Sl}{i:Int}{a:Addr}(ho:o.op = .indexAddr T x y)(hx:ev σ x=some s.val)(hy:ev σ y=some (.int k i))(hT:sliceT P T E esz=true)
  (ha:s.a=some a) (h0:0≤i) (h1:i<s.n):Pure P σ o (.pointer (some (a.add (i.toNat*esz)))):=fun _ _ hs w=>by
 simp[execOp,ho,hs.ev hx,hs.ev hy,Instr.indexAt,asIntOf,run_underlying (zAd hT).1,ha,h0,h1,zAB (zAd hT).2]
theorem zbi{T E len esz:Nat}{k:IntKind}{i:Int}{a:Addr}(ho:o.op = .indexAddr T x y)(hx:ev σ x=some (.pointer (some a)))(hy:ev σ y=some (.int k i))(hT:zO5 P T E len esz=true)
  (h0:0≤i) (h1:i<len):Pure P σ o (.pointer (some (a.add (i.toNat*esz)))):=fun _ _ hs w=>by
 simp[execOp,ho,hs.ev hx,hs.ev hy,Instr.indexAt,asIntOf,Instr.sureAddr,run_underlying (zK8 hT).1,h0,h1,zAB (zK8 hT).2]
theorem zbj{T:Nat}{k:IntKind}{s:ByteArray}{i:Int}{b:UInt8}(ho:o.op = .index T x y)(hx:ev σ x=some (.string s))(hy:ev σ y=some (.int k i))(hT:zFR P T=true)
  (h0:0≤i) (h1:s[i.toNat]?=some b):Pure P σ o (.int .u8 (b.toNat:Int)):=fun _ _ hs w=>by
 simp[execOp,ho,hs.ev hx,hs.ev hy,Instr.index,asIntOf,run_underlying (zDg hT),h0,h1]
theorem zMF{fn:Fn}{first cap:Array Operand}{fs cs:List Value}(ho:o.op = .makeFunc fn first cap)(hf:first.toList.mapM (ev σ)=some fs)(hc:cap.toList.mapM (ev σ)=some cs):Pure P σ o (.func fn fs.toArray cs.toArray):=fun a _ hs w=>by
 have key:∀(l:List Operand) (vs:List Value),l.mapM (ev σ)=some vs→l.map a.eval=vs:=by
  intro l
  induction l with
  | nil=>intro vs h;simp at h;simp[h]
  | cons u l ih =>
   intro vs h;simp only[List.mapM_cons] at h;cases hu:ev σ u with
   | none=>simp[hu] at h
   | some v =>
    cases hl:l.mapM (ev σ) with
    | none=>simp[hu,hl] at h
    | some vs'=>simp[hu,hl] at h;subst h;simp[hs.ev hu,ih _ hl]
 have h1:first.map a.eval=fs.toArray:=by
  apply zhw;simpa using key _ _ hf
 have h2:cap.map a.eval=cs.toArray:=by
  apply zhw;simpa using key _ _ hc
 simp only[execOp,ho,Instr.makeFunc,h1,h2];simp
end
end
section
open Go
section
variable{P : Program}{σ : List (Nat×Value)}{o : Oper}{x y z : Operand}{w w' : World}{v : Value}
def zGc(σ : List (Nat×Value))(x : Option Operand)(d : Int)(i : Int): Prop :=
  match x with
  | none => i=d
  | some x => ∃k, ev σ x=some (.int k i)
theorem zdW{T E esz : Nat}{s : Sl}{lo hi mx : Option Operand}{l h m : Int}(ho : o.op = .slice T x lo hi mx)(hx : ev σ x=some s.val)(hT : sliceT P T E esz=true)
    (hl : zGc σ lo 0 l) (hh : zGc σ hi s.n h) (hm : zGc σ mx s.c m) (hmx : mx.isSome=true→hi.isSome=true) (h0 : 0≤l) (h1 : l≤h) (h2 : h≤m) (h3 : m≤s.c) :
    Pure P σ o (Sl.val ⟨zCW s.a l.toNat m.toNat esz, h.toNat-l.toNat, m.toNat-l.toNat⟩) := fun a n hs w => by
  obtain⟨hsl, hsz⟩ := zAd hT;have hz := zAB (w := w) hsz;have bound : ∀(k : IntKind) (i : Int) (y : Nat) (c : BoundsCode), 0≤i→i≤y→(Instr.sliceBound (.int k i) y c).run P w = .ok i.toNat w := fun k i y c ha hb => by
    simp[Instr.sliceBound, asIntOf, ha, hb]
  have hmE : m.toNat≤s.c := by omega
  have hmI : ((m.toNat : Nat) : Int)=m := Int.toNat_of_nonneg (by omega);have hhI : ((h.toNat : Nat) : Int)=h := Int.toNat_of_nonneg (by omega);simp only[execOp, ho, Instr.sliceAt, hs.ev hx];simp only[Sem.run_bind, run_underlying hsl, Result.andThen, Instr.slice, Sl.val];simp only[Instr.sliceBounds];cases mx with
  | none =>
    simp only[zGc] at hm;subst hm;cases hi with
    | none =>
      simp only[zGc] at hh;subst hh;cases lo with
      | none =>
        simp only[zGc] at hl;subst hl;simp[hz, zCW]
      | some lo =>
        obtain⟨k, hk⟩ := hl;simp[hs.ev hk, bound k l s.n _ h0 (by omega), hz, zCW]
    | some hi =>
      obtain⟨k', hk'⟩ := hh;cases lo with
      | none =>
        simp only[zGc] at hl;subst hl;simp[hs.ev hk', bound k' h s.c _ (by omega) (by omega), hz, zCW]
      | some lo =>
        obtain⟨k, hk⟩ := hl;simp[hs.ev hk, hs.ev hk', bound k' h s.c _ (by omega) (by omega), bound k l h.toNat _ h0 (by omega), hz, zCW]
  | some mx =>
    obtain⟨k'', hk''⟩ := hm;cases hi with
    | none => simp at hmx
    | some hi =>
      obtain⟨k', hk'⟩ := hh;cases lo with
      | none =>
        simp only[zGc] at hl;subst hl;simp[hs.ev hk', hs.ev hk'', bound k'' m s.c _ (by omega) (by omega), bound k' h m.toNat _ (by omega) (by omega), hz, zCW]
      | some lo =>
        obtain⟨k, hk⟩ := hl;simp[hs.ev hk, hs.ev hk', hs.ev hk'', bound k'' m s.c _ (by omega) (by omega), bound k' h m.toNat _ (by omega) (by omega), bound k l h.toNat _ h0 (by omega), hz, zCW]
theorem zbk{T : Nat}{s : ByteArray}{lo hi : Option Operand}{l h : Int}(ho : o.op = .slice T x lo hi none)(hx : ev σ x=some (.string s))(hT : zFR P T=true)
    (hl : zGc σ lo 0 l) (hh : zGc σ hi s.size h) (h0 : 0≤l) (h1 : l≤h) (h2 : h≤s.size) : Pure P σ o (.string (s.extract l.toNat h.toNat)) := fun a n hs w => by
  have hsl := zDg hT;have bound : ∀(k : IntKind) (i : Int) (y : Nat) (c : BoundsCode), 0≤i→i≤y→(Instr.sliceBound (.int k i) y c).run P w = .ok i.toNat w := fun k i y c ha hb => by
    simp[Instr.sliceBound, asIntOf, ha, hb]
  simp only[execOp, ho, Instr.sliceAt, hs.ev hx];simp only[Sem.run_bind, run_underlying hsl, Result.andThen, Instr.slice];simp only[Instr.sliceBounds];cases hi with
  | none =>
    simp only[zGc] at hh;subst hh;cases lo with
    | none => simp only[zGc] at hl;subst hl;simp
    | some lo =>
      obtain⟨k, hk⟩ := hl;simp[hs.ev hk, bound k l s.size _ h0 (by omega)]
  | some hi =>
    obtain⟨k', hk'⟩ := hh;cases lo with
    | none =>
      simp only[zGc] at hl;subst hl;simp[hs.ev hk', bound k' h s.size _ (by omega) (by omega)]
    | some lo =>
      obtain⟨k, hk⟩ := hl;simp[hs.ev hk, hs.ev hk', bound k' h s.size _ (by omega) (by omega), bound k l h.toNat _ h0 (by omega)]
theorem zWh{T : TypeId}{a : Addr}(ho : o.op = .load T x)(hx : ev σ x=some (.pointer (some a)))(hT : zN7 P T=true)(hv : w.cell? a=some v): Eff P σ o w (.value v) w := fun _ _ hs => by
  simp[execOp, ho, hs.ev hx, Instr.loadAt, Instr.sureAddr, loadVar, zI1 hT, load, Sem.run, hv]
theorem run_loadCells{a : Addr}{cs : Array Value}(h : RdN w a cs): (loadCells a cs.size).run P w = .ok cs w := by
  have key : ∀(n i : Nat) (acc : Array Value), i+n=cs.size→acc.toList=cs.toList.take i→(loadCellsFrom a i n acc).run P w = .ok cs w := by
    intro n
    induction n with
    | zero =>
      intro i acc hi hacc;have : acc=cs := by apply zhw;rw[hacc, zgh];simp;omega
      simp[loadCellsFrom, this]
    | succ n ih =>
      intro i acc hi hacc;have hlt : i<cs.size := by omega
      have hc := h i hlt;rw[zg0 hlt] at hc;simp only[loadCellsFrom, Sem.run_bind, load, Sem.run, hc, Result.andThen];refine ih (i+1) _ (by omega) ?_;rw[zht, hacc, zgJ (by simpa using hlt)];simp
  exact key cs.size 0 #[] (by omega) (by simp)
theorem zTo{T n : Nat}{a : Addr}{cs : Array Value}(ho : o.op = .load T x)(hx : ev σ x=some (.pointer (some a)))(hT : zVB P T n=true)(hn : cs.size=n)(hv : RdN w a cs): Eff P σ o w (.value (.agg cs)) w := fun _ _ hs => by
  subst hn;simp[execOp, ho, hs.ev hx, Instr.loadAt, Instr.sureAddr, loadVar, (zEz hT).1, (zEz hT).2, run_loadCells hv]
theorem zMG{a : Addr}(hv : qD v=true)(hc : ∃u, w.cell? a=some u)(hf : w.frozen? a=false): (store a v).run P w = .ok () (w.setCell a v) := by
  obtain⟨u, hu⟩ := hc;cases v <;> simp[qD] at hv <;> simp[store, Sem.run, hu, hf]
theorem zJa{w : World}{p q : Addr}{x : Value}(h : ∃u, w.cell? q=some u): ∃u, (w.setCell p x).cell? q=some u := by
  obtain⟨u, hu⟩ := h;unfold World.cell? at hu ⊢;unfold World.setCell;simp only[zhI];cases hb : w.heap[q.block]? with
  | none => simp[hb] at hu
  | some o =>
    cases o <;> simp[hb] at hu
    rename_i c e fz;by_cases hq : p.block=q.block
    · simp only[hq, zhX, hb, zg1]
      obtain⟨h1, h2⟩ := hu;have hlt : q.off<c.size := (zgq.1 h2).1;simp only[h1];cases hsp : p.spot with
      | some s => simp[h2]
      | none =>
        by_cases ho : p.off=q.off
        · simp[ho, hlt]
        · simp[zg5 ho, h2]
    · simp only[hq, zhG, hb]
      obtain⟨h1, h2⟩ := hu;simp[h1, h2]
theorem zMH{w : World}{p q : Addr}{x : Value}: (w.setCell p x).frozen? q=w.frozen? q := by
  unfold World.frozen? World.setCell;simp only[zhI];by_cases hq : p.block=q.block
  · simp only[hq, zhX]
    cases hb : w.heap[q.block]? with
    | none => rfl
    | some o => cases o <;> rfl
  · simp[hq]
theorem zCX{a : Addr}: ∀(vs : List Value) (i : Nat) (w : World), (∀v∈vs, qD v=true)→(∀j, j<vs.length→(∃u, w.cell? (a.add (i+j))=some u)∧w.frozen? (a.add (i+j))=false) →
    (storeCells a vs i).run P w = .ok () (setCells a vs i w)
  | [], i, w, _, _ => rfl
  | v::vs, i, w, hf, hc => by
    have h0 := hc 0 (by simp);simp only[zho] at h0;simp only[storeCells, Sem.run_bind, zMG (hf v (by simp)) h0.1 h0.2, Result.andThen, setCells];refine zCX vs (i+1) _ (fun u hu => hf u (by simp[hu])) fun j hj => ?_;have hj' := hc (j+1) (by simpa using hj);rw[show i+1+j=i+(j+1) by omega];exact⟨zJa hj'.1, by rw[zMH];exact hj'.2⟩
theorem zZM{T : TypeId}{a : Addr}(ho : o.op = .store T x y)(hx : ev σ x=some (.pointer (some a)))(hy : ev σ y=some v)(hT : sizeT P T 1=true)
    (hw : w'=w.setCell a v) (hc : ∃u, w.cell? a=some u) (hf : w.frozen? a=false) (hv : qD v=true) : Eff P σ o w .skip w' := fun _ _ hs => by
  subst hw;have h1 : v.cells=#[v] := by cases v <;> simp[qD] at hv <;> rfl
  have ha : a.add 0=a := by simp[Addr.add]
  simp[execOp, ho, hs.ev hx, hs.ev hy, Instr.storeAt, Instr.sureAddr, storeVar, zAB hT, h1, storeCells, ha, zMG hv hc hf]
theorem zWi{T n : Nat}{a : Addr}{cs : Array Value}(ho : o.op = .store T x y)(hx : ev σ x=some (.pointer (some a)))(hy : ev σ y=some (.agg cs))(hT : sizeT P T n=true)(hw : w'=setCells a cs.toList 0 w)(hn : cs.size=n)
    (hc : ∀i, i<cs.size→(∃u, w.cell? (a.add i)=some u)∧w.frozen? (a.add i)=false) (hv : ∀v∈cs.toList, qD v=true) : Eff P σ o w .skip w' := fun _ _ hs => by
  subst hn;subst hw;have := zCX (P := P) (a := a) cs.toList 0 w hv (fun j hj => by simpa using hc j (by simpa using hj));simp[execOp, ho, hs.ev hx, hs.ev hy, Instr.storeAt, Instr.sureAddr, storeVar, zAB hT, Value.cells, this]
theorem zdX{T : TypeId}{cs : Array Value}{a : Addr}(ho : o.op = .box T x)(hx : ev σ x=some v)(hc : v.cells=cs)(ha : a=⟨w.heap.size, 0, none⟩)(hw : w'={ w with heap := w.heap.push (.cells cs T) }): Eff P σ o w (.value (.pointer (some a))) w' := fun _ _ hs => by
  subst ha;subst hw;subst hc;simp[execOp, ho, hs.ev hx, Instr.box, newVar, newRow, newObj, Sem.run]
def zCD(P : Program)(T : TypeId)(z : Value): Prop := ∃i, P.info? T=some i∧i.zero=some z
theorem zBH{T : TypeId}{z : Value}(h : zCD P T z): (zeroValue T).run P w = .ok z w := by
  obtain⟨i, hi, hz⟩ := h;simp[zeroValue, typeInfo, program, hi, hz, Sem.run]
theorem zZN{T : TypeId}{zv : Value}{cs : Array Value}{a : Addr}(ho : o.op = .alloc T)(hz : zCD P T zv)(hc : zv.cells=cs)(ha : a=⟨w.heap.size, 0, none⟩)(hw : w'={ w with heap := w.heap.push (.cells cs T) }): Eff P σ o w (.value (.pointer (some a))) w' := fun _ _ hs => by
  subst ha;subst hw;subst hc;simp[execOp, ho, Instr.alloc, zBH hz, newVar, newRow, newObj, Sem.run]
def partsOf(σ : List (Nat×Value)): List (Nat×Operand)→Option (List (Nat×Value))
  | [] => some []
  | p::ps => match ev σ p.2, partsOf σ ps with
    | some v, some vs => some ((p.1, v)::vs)
    | _, _ => none
theorem zEp{a : Act}{n : Nat}(hs : Slots a n σ): ∀{ps : List (Nat×Operand)} {vs : List (Nat×Value)}, partsOf σ ps=some vs→ps.map (fun p => (p.1, a.eval p.2))=vs
  | [], vs, h => by simp[partsOf] at h;subst h;rfl
  | p::ps, vs, h => by
    unfold partsOf at h;split at h
    · rename_i v vs' hv hvs
      cases h
      simp[hs.ev hv, zEp hs hvs]
    · cases h
def zTp(P : Program)(T : TypeId)(places : List (Nat×Nat)): Prop :=
  ∃fs, P.underlying T=some (.struct fs)∧fs.toList.map (fun f => ((P.info? f.type).map fun i => (f.offset, i.size)))=places.map some
theorem run_places{fs : List Field}: ∀{places : List (Nat×Nat)}, fs.map (fun f => ((P.info? f.type).map fun i => (f.offset, i.size)))=places.map some →
    (List.mapM (fun f : Field => (Prod.mk f.offset <$> sizeOf f.type : Sem (Nat×Nat))) fs).run P w = .ok places w := by
  induction fs with
  | nil => intro places h;cases places <;> simp at h;simp
  | cons f fs ih =>
    intro places h;cases places with
    | nil => simp at h
    | cons p places =>
      simp only[zgd, zhZ] at h;obtain⟨h1, h2⟩ := h;cases hi : P.info? f.type with
      | none => simp[hi] at h1
      | some i =>
        simp[hi] at h1;subst h1;have hz : (sizeOf f.type).run P w = .ok i.size w := zAB (by simp[sizeT, hi]);rw[List.mapM_cons];simp only[Sem.run_bind, Sem.run_map, hz, Result.andThen, ih h2, Sem.run_pure]
theorem zTq{T : TypeId}{zv : Value}{places : List (Nat×Nat)}{ps : Array (Nat×Operand)}{vs : List (Nat×Value)}{cs : Array Value}(ho : o.op = .build T ps)(hz : zCD P T zv)(hp : zTp P T places)
    (hv : partsOf σ ps.toList=some vs) (hc : Instr.fill (places[·]?) zv.cells vs=some cs) : Pure P σ o (.agg cs) := fun _ _ hs w => by
  obtain⟨fs, hu, hf⟩ := hp;have h1 := zEp hs hv;have h2 : (fs.mapM fun f => do pure (f.offset, ←sizeOf f.type) : Sem (Array (Nat×Nat))).run P w = .ok places.toArray w := by
    rw[Array.mapM_eq_mapM_toList];simp[run_places (w := w) hf, Result.andThen]
  simp only[execOp, ho, Instr.build];simp only[Sem.run_bind, zBH hz, Result.andThen, run_underlying hu, h2];have h3 : (fun x : Nat => places.toArray[x]?)=(fun x : Nat => places[x]?) := by funext i;simp
  simp[h1, h3, hc]
theorem zWj{T : TypeId}{ps : Array (Nat×Operand)}{vs : List (Nat×Value)}(ho : o.op = .build T ps)(hv : partsOf σ ps.toList=some vs)(hr : (Instr.build T vs.toArray).run P w = .ok v w'): Eff P σ o w (.value v) w' := fun _ _ hs => by
  have h1 := zEp hs hv;have h2 : ∀f : Operand→Value, ps.map (fun p => (p.1, f p.2))=(ps.toList.map (fun p => (p.1, f p.2))).toArray := fun f => by apply zhw;simp
  simp only[execOp, ho];rw[h2, h1];simp[hr]
theorem zdY{v : Value}(h : ∀w, Eff P σ o w (.value v) w): Pure P σ o v := fun a n hs w => h w a n hs
theorem zJb{T E esz len : Nat}{zv : Value}{ps : Array (Nat×Operand)}{vs : List (Nat×Value)}{z cs : Array Value}{a : Addr}(ho : o.op = .buildSlice T len ps)(hT : sliceT P T E esz=true)(hz : zCD P E zv)
    (hl : len*esz≤2^24) (hv : partsOf σ ps.toList=some vs) (hzz : (Array.range (len*esz)).map (fun i => (if len*esz=0 then #[] else zv.cells)[i%(if len*esz=0 then #[] else zv.cells).size]!)=z)
    (hc : Instr.fill (fun i => some (i*esz, esz)) z vs=some cs) (ha : a=⟨w.heap.size, 0, none⟩) (hw : w'={ w with heap := w.heap.push (.cells cs E) }) :
    Eff P σ o w (.value (Sl.val ⟨some a, len, len⟩)) w' := fun _ _ hs => by
  subst ha;subst hw;subst hzz;obtain⟨hsl, hsz⟩ := zAd hT;have h1 := zEp hs hv;simp only[execOp, ho, Instr.buildSlice];simp only[Sem.run_bind, Result.andThen, run_underlying hsl, zAB hsz];have h4 : ¬(len*esz>2^24) := by omega
  by_cases h0 : len*esz=0
  · simp[h0] at hc
    simp[h0, h1, hc, newRow, newObj, Sem.run]
  · simp[h0] at hc
    simp[h0, h4, zBH hz, h1, hc, newRow, newObj, Sem.run]
theorem zWk{T : TypeId}{ok : Bool}{vx vy : Value}(ho : o.op = .lookup T x y ok)(hx : ev σ x=some vx)(hy : ev σ y=some vy)(hr : (Instr.lookup T vx vy ok).run P w = .ok v w'): Eff P σ o w (.value v) w' := fun _ _ hs => by
  simp[execOp, ho, hs.ev hx, hs.ev hy, hr]
theorem zQU{T : TypeId}{vx vy vz : Value}{u : Unit}(ho : o.op = .mapUpdate T x y z)(hx : ev σ x=some vx)(hy : ev σ y=some vy)(hz : ev σ z=some vz)(hr : (Instr.mapUpdate T vx vy vz).run P w = .ok u w'): Eff P σ o w .skip w' := fun _ _ hs => by
  simp[execOp, ho, hs.ev hx, hs.ev hy, hs.ev hz, hr]
theorem zVC{T U : TypeId}{vx : Value}(ho : o.op = .convert T U x)(hx : ev σ x=some vx)(hr : (convert T U vx).run P w = .ok v w'): Eff P σ o w (.value v) w' := fun _ _ hs => by
  simp[execOp, ho, hs.ev hx, hr]
theorem zZO{op : BinOp}{T U : TypeId}{vx vy : Value}(ho : o.op = .binOp op T x y U)(hx : ev σ x=some vx)(hy : ev σ y=some vy)(hr : (do eqGuard op T x y vx vy;binOp op T vx vy : Sem Value).run P w = .ok v w'): Eff P σ o w (.value v) w' := fun _ _ hs => by
  simp only[execOp, ho, hs.ev hx, hs.ev hy];rw[Sem.run_bind, hr];rfl
theorem zVD{T : TypeId}(ho : o.op = .makeMap T none)(hr : (Instr.makeMap T none).run P w = .ok v w'): Eff P σ o w (.value v) w' := fun _ _ hs => by
  simp[execOp, ho, hr]
theorem zQV{T : TypeId}{vx vy : Value}(ho : o.op = .makeSlice T x y)(hx : ev σ x=some vx)(hy : ev σ y=some vy)(hr : (Instr.makeSlice T vx vy).run P w = .ok v w'): Eff P σ o w (.value v) w' := fun _ _ hs => by
  simp[execOp, ho, hs.ev hx, hs.ev hy, hr]
theorem zZP{T : TypeId}{vx : Value}(ho : o.op = .range T x)(hx : ev σ x=some vx)(hr : (Instr.range T vx).run P w = .ok v w'): Eff P σ o w (.value v) w' := fun _ _ hs => by
  simp[execOp, ho, hs.ev hx, hr]
theorem zbl{s : Bool}{vx : Value}{t : TypeId}(ho : o.op = .next x s)(ht : o.type=t)(hx : ev σ x=some vx)(hr : (Instr.next vx s t).run P w = .ok v w'): Eff P σ o w (.value v) w' := fun _ _ hs => by
  simp[execOp, ho, ht, hs.ev hx, hr]
theorem zZQ{vx : Value}(ho : o.op = .entry x)(hx : ev σ x=some vx)(hr : (Instr.entry vx).run P w = .ok v w'): Eff P σ o w (.value v) w' := fun _ _ hs => by
  simp[execOp, ho, hs.ev hx, hr]
theorem zLU{T : TypeId}{vx : Value}(ho : o.op = .makeInterface T x)(hx : ev σ x=some vx)(hr : (Instr.makeInterface T vx).run P w = .ok v w'): Eff P σ o w (.value v) w' := fun _ _ hs => by
  simp[execOp, ho, hs.ev hx, hr]
section builtins
variable{ts : Array TypeId}{t : TypeId}{vx vy : Value}
theorem zWl(ho : o.op = .call { callee := .builtin .append, args := #[x, y], argTypes := ts })(ht : o.type=t)(hx : ev σ x=some vx)(hy : ev σ y=some vy)(hr : (Builtin.append_ ts t #[vx, vy]).run P w = .ok v w'): Eff P σ o w (.value v) w' := fun _ _ hs => by
  simp[execOp, ho, hs.ev hx, hs.ev hy, ht, resolve, invoke, builtin, hr]
theorem zbm(ho : o.op = .call { callee := .builtin .copy, args := #[x, y], argTypes := ts })(ht : o.type=t)(hx : ev σ x=some vx)(hy : ev σ y=some vy)(hr : (Builtin.copy_ ts t #[vx, vy]).run P w = .ok v w'): Eff P σ o w (.value v) w' := fun _ _ hs => by
  simp[execOp, ho, hs.ev hx, hs.ev hy, ht, resolve, invoke, builtin, hr]
theorem zWm(ho : o.op = .call { callee := .builtin .delete, args := #[x, y], argTypes := ts })(ht : o.type=t)(hx : ev σ x=some vx)(hy : ev σ y=some vy)(hr : (Builtin.delete_ ts t #[vx, vy]).run P w = .ok v w'): Eff P σ o w (.value v) w' := fun _ _ hs => by
  simp[execOp, ho, hs.ev hx, hs.ev hy, ht, resolve, invoke, builtin, hr]
theorem zZR(ho : o.op = .call { callee := .builtin .clear, args := #[x], argTypes := ts })(ht : o.type=t)(hx : ev σ x=some vx)(hr : (Builtin.clear_ ts t #[vx]).run P w = .ok v w'): Eff P σ o w (.value v) w' := fun _ _ hs => by
  simp[execOp, ho, hs.ev hx, ht, resolve, invoke, builtin, hr]
theorem zdZ(ho : o.op = .call { callee := .builtin .len, args := #[x], argTypes := ts })(ht : o.type=t)(hx : ev σ x=some vx)(hr : (Builtin.len_ ts t #[vx]).run P w = .ok v w'): Eff P σ o w (.value v) w' := fun _ _ hs => by
  simp[execOp, ho, hs.ev hx, ht, resolve, invoke, builtin, hr]
theorem zda(ho : o.op = .call { callee := .builtin .cap, args := #[x], argTypes := ts })(ht : o.type=t)(hx : ev σ x=some vx)(hr : (Builtin.cap_ ts t #[vx]).run P w = .ok v w'): Eff P σ o w (.value v) w' := fun _ _ hs => by
  simp[execOp, ho, hs.ev hx, ht, resolve, invoke, builtin, hr]
end builtins
def evs(σ : List (Nat×Value)): List Operand→Option (List Value)
  | [] => some []
  | x::xs => match ev σ x, evs σ xs with
    | some v, some vs => some (v::vs)
    | _, _ => none
theorem zFq{a : Act}{n : Nat}(hs : Slots a n σ): ∀{xs : List Operand} {vs : List Value}, evs σ xs=some vs→xs.map a.eval=vs
  | [], vs, h => by simp[evs] at h;subst h;rfl
  | x::xs, vs, h => by
    unfold evs at h;split at h
    · rename_i v vs' hv hvs
      cases h
      simp[hs.ev hv, zFq hs hvs]
    · cases h
theorem zDh{f : FuncId}{args : Array Value}(h : callable P f=true): (callFunc f args).run P w = .ok (.enter f args) w := by
  unfold callable at h;unfold callFunc program;cases hf : P.funcs[f]? with
  | none => simp[hf] at h
  | some fn =>
    simp[hf] at h;have h2 : fn.body.isNone=false := by cases hb : fn.body <;> simp[hb] at h ⊢
    have h1 : (fn.name == "runtime.NumGoroutine") = false := by simpa using h.1
    simp only[Sem.run_bind, Sem.run, Result.andThen, hf, h1, h2, zgc, zhG, Sem.run_pure]
theorem zbn{f : FuncId}{xs : Array Operand}{ts : Array TypeId}{vs : List Value}(ho : o.op = .call { callee := .value x, args := xs, argTypes := ts })(hx : ev σ x=some (.func (.func f) #[] #[]))(hv : evs σ xs.toList=some vs)
    (hf : callable P f=true) : Eff P σ o w (.enter f vs.toArray) w := fun a _ hs => by
  have h1 : xs.map a.eval=vs.toArray := by apply zhw;simpa using zFq hs hv
  simp[execOp, ho, resolve, hs.ev hx, h1, Deferred.ofValue, invoke, zDh hf]
theorem zTr{f : FuncId}{first cap : Array Value}{xs : Array Operand}{ts : Array TypeId}{vs : List Value}(ho : o.op = .call { callee := .value x, args := xs, argTypes := ts })(hx : ev σ x=some (.func (.func f) first cap))(hv : evs σ xs.toList=some vs)
    (hf : callable P f=true) : Eff P σ o w (.enter f (first++vs.toArray++cap)) w := fun a _ hs => by
  have h1 : xs.map a.eval=vs.toArray := by apply zhw;simpa using zFq hs hv
  simp[execOp, ho, resolve, hs.ev hx, h1, Deferred.ofValue, invoke, zDh hf]
end
section
variable{P : Program}{fn : Func}{a : Act}{n : Nat}{σ : List (Nat×Value)}{w : World}
theorem zQW{T : TypeId}{b : Addr}{v : Value}(hT : zN7 P T=true)(hv : w.cell? b=some v): (loadVar T b).run P w = .ok v w := by
  simp[loadVar, zI1 hT, load, Sem.run, hv]
theorem zO8{T m : Nat}{b : Addr}{cs : Array Value}(hT : zVB P T m=true)(hm : cs.size=m)(hv : RdN w b cs): (loadVar T b).run P w = .ok (.agg cs) w := by
  subst hm;simp[loadVar, (zEz hT).1, (zEz hT).2, run_loadCells hv]
def zdb(P : Program)(σ : List (Nat×Value))(w : World)(r : ResultVar)(v : Value): Prop :=
  match r with
  | .tmp t => look σ t=some v
  | .cell t T => ∃b, look σ t=some (.pointer (some b))∧(loadVar T b).run P w = .ok v w
def zG6(tmps : Array Value): ResultVar→Sem Value
  | .tmp t => pure (tmps.getD t undef)
  | .cell b t => do loadVar t (←asAddr (tmps.getD b undef))
theorem zSQ(fn : Func)(tmps : Array Value): results fn tmps=(do
    let vs ←fn.results.mapM (zG6 tmps)
    pure (if h : vs.size=1 then vs[0] else .tuple vs)) := by
  unfold results;congr 1
theorem zKR{r : ResultVar}{v : Value}(hs : Slots a n σ)(h : zdb P σ w r v): (zG6 a.tmps r).run P w = .ok v w := by
  cases r with
  | tmp t => simp only[zG6, Sem.run_pure, hs.at' _ _ h]
  | cell b T =>
    obtain⟨c, hc, hl⟩ := h;have := hs.at' _ _ hc;simp only[zG6];rw[this];simp[asAddr, hl]
end
end
section
open Go Go.RowKit
theorem jD(b o n:Nat):(⟨b,o,none⟩:Addr).add n=⟨b,o+n,none⟩:=by
 unfold Addr.add;split
 ·rename_i h;subst h;rfl
 ·rfl
theorem add_add'(a:Addr)(h:a.spot=none)(m n:Nat):(a.add m).add n=a.add (m+n):=by
 obtain⟨b,o,s⟩:=a;simp only at h;subst h;simp[jD,Nat.add_assoc]
section
variable{B w:World}{Γ:List zB}
theorem y9{b off:Nat}{cs:Array Value}{T:TypeId}{fz:Nat×Nat}{v:Value}(h:w.heap[b]?=some (.cells cs T fz))(hv:cs[off]?=some v):w.cell? ⟨b,off,none⟩=some v:=by
 simp[World.cell?,h,hv]
theorem zBX{b off:Nat}{cs:Array Value}{T:TypeId}{fz:Nat×Nat}(h:w.heap[b]?=some (.cells cs T fz))(hf:¬(fz.1≤off∧off<fz.2)):w.frozen? ⟨b,off,none⟩=false:=by
 obtain⟨lo,hi⟩:=fz;simp[World.frozen?,h];simp at hf;exact hf
theorem Holds.mem{A:zB}(h:Holds B Γ w)(hm:A∈Γ):∃Δ,Holds B (A::Δ) w:=by
 obtain⟨i,hi⟩:=List.mem_iff_getElem?.1 hm;exact⟨_,h.pick i hi⟩
theorem Holds.zTs{b:Nat}{o:Obj}(h:Holds B Γ w)(hm:blk b o∈Γ):w.heap[b]?=some o:=by
 obtain⟨Δ,h'⟩:=h.mem hm;exact h'.block
theorem Holds.zZS(h:Holds B Γ w){a:Addr}{v:Value}(hc:B.cell? a=some v):w.cell? a=some v:=by
 unfold World.cell? at hc ⊢;cases hb:B.heap[a.block]? with
 | none=>simp[hb] at hc
 | some o=>rw[h.old hb];simpa[hb] using hc
theorem zQX{T:TypeId}{cs:Array Value}{k:Addr→K}(h:Holds B Γ w)(hk:∀b w',Holds B (blk b (.cells cs T (0,0))::Γ) w'→k ⟨b,0,none⟩ w'):New T cs k w :=
 ⟨_,_,rfl,rfl,hk _ _ (h.alloc _)⟩
theorem ze3{k:K}(h:Holds B Γ w)(hk:∀w',Holds B Γ w'→k w'):Dr k w:=⟨_,rfl,hk _ (h.drew _)⟩
theorem zdc{b:Bool}{x y:K}(h1:b=true→x w)(h2:b=false→y w):Ite b x y w:=⟨h1,h2⟩
theorem zTt{b:Bool}{x y:K}(hb:b=true)(h1:x w):Ite b x y w:=⟨fun _=>h1,fun h=>absurd (hb.symm.trans h) (by simp)⟩
theorem zO9{b:Bool}{x y:K}(hb:b=false)(h1:y w):Ite b x y w:=⟨fun h=>absurd (hb.symm.trans h) (by simp),fun _=>h1⟩
theorem ze4{e e':Int}{k:Int→K}(he:e=e')(hk:k e' w):Ar e k w:=⟨e',he.symm,hk⟩
theorem wrap64{e:Int}(h0:-9223372036854775808≤e)(h1:e≤9223372036854775807):IntKind.wrap .i64 e=e:=by
 unfold IntKind.wrap;simp only[IntKind.bits,IntKind.signed,zhH,zgH,Nat.reduceSub,Int.reducePow,ge_iff_le];split <;> omega
theorem zCk{e:Int}(h0:0≤e)(h1:e≤18446744073709551615):IntKind.wrap .u64 e=e:=by
 unfold IntKind.wrap;simp only[IntKind.bits,IntKind.signed,zhs,zgc,zhG];omega
theorem zbo{α:Type}{a:Addr}{b off:Nat}{cs:Array Value}{T:TypeId}{fz:Nat×Nat}{c:α→Value}{x:α}{k:α→K}(h:Holds B Γ w)(ha:a=⟨b,off,none⟩)(hm:blk b (.cells cs T fz)∈Γ)
  (hv:cs[off]?=some (c x)) (hk:k x w):Ld a c k w:=⟨x,by subst ha;exact y9 (h.zTs hm) hv,hk⟩
theorem zVE{b off:Nat}{cs cs':Array Value}{T:TypeId}{fz:Nat×Nat}(h:w.heap[b]?=some (.cells cs T fz))(hc:∀i,i<cs'.size→cs[off+i]?=cs'[i]?):RdN w ⟨b,off,none⟩ cs':=fun i hi=>by
 rw[jD];rw[←hc i hi];have:cs[off+i]?=some cs'[i]:=by rw[hc i hi];simp[hi]
 rw[y9 h this,this]
theorem zJc{b off:Nat}{cs:Array Value}{T:TypeId}{fz:Nat×Nat}{v:Value}(h:w.heap[b]?=some (.cells cs T fz)):
  w.setCell ⟨b,off,none⟩ v={ w with heap:=w.heap.setIfInBounds b (.cells (cs.setIfInBounds off v) T fz) }:=by
 unfold World.setCell;congr 1;apply zhy;intro i;rw[zhI];by_cases hi:b=i
 ·subst hi;have h3:b<w.heap.size:=(zgq.1 h).1;simp only[zhX,h,zg1];simp[h3]
 ·rw[if_neg hi,zg5 hi]
theorem zNi{a:Addr}{b off:Nat}{cs:Array Value}{T:TypeId}{fz:Nat×Nat}{v:Value}{k:K}(i:Nat)(h:Holds B Γ w)(ha:a=⟨b,off,none⟩)(hi:Γ[i]?=some (blk b (.cells cs T fz)))(ho:off<cs.size)
  (hf:¬(fz.1≤off∧off<fz.2)) (hv:qD v=true) (hk:∀w',Holds B (Γ.set i (blk b (.cells (cs.setIfInBounds off v) T fz))) w'→k w'):St a v k w:=by
 subst ha;have h1:=h.pick i hi;have hb:=h1.block;refine⟨_,rfl,⟨_,y9 hb (zg0 ho)⟩,zBX hb hf,hv,hk _ ?_⟩;exact Holds.put i hi (h1.setBlock (zJc hb))
theorem zCJ{b:Nat}{T:TypeId}{fz:Nat×Nat}:∀(vs:List Value) (off i:Nat) (w:World) (cs:Array Value),w.heap[b]?=some (.cells cs T fz) →
  setCells ⟨b,off,none⟩ vs i w={ w with heap:=w.heap.setIfInBounds b (.cells ((vs.zipIdx (off+i)).foldl (fun c p=>c.setIfInBounds p.2 p.1) cs) T fz) }
 | [],off,i,w,cs,h=>by
  simp only[setCells,List.zipIdx_nil,List.foldl_nil];have hlt:=(zgq.1 h).1;have:w.heap.setIfInBounds b (.cells cs T fz)=w.heap:=by
   apply Array.ext
   ·simp
   ·intro j h1 h2;rw[Array.getElem_setIfInBounds];split
    ·rename_i hj;subst hj;exact(zgq.1 h).2.symm
    ·rfl
  rw[this]
 | v::vs,off,i,w,cs,h=>by
  have hlt:=(zgq.1 h).1;simp only[setCells,jD];rw[zJc h];rw[zCJ (T:=T) (fz:=fz) vs off (i+1) _ (cs.setIfInBounds (off+i) v) (by simp[hlt])];simp only[zhm,zhK,Array.setIfInBounds_setIfInBounds];rw[Nat.add_assoc]
theorem zEQ:∀(vs:List Value) (pre cs:List Value),pre.length+vs.length=(pre++cs).length →
  (vs.zipIdx pre.length).foldl (fun c p=>c.setIfInBounds p.2 p.1) (pre++cs).toArray=(pre++vs).toArray
 | [],pre,cs,h=>by
  have:cs=[]:=by simpa using h
  simp[this]
 | v::vs,pre,[],h=>by simp at h
 | v::vs,pre,c::cs,h=>by
  simp only[zhm,zhK];have h1:(pre++c::cs).toArray.setIfInBounds pre.length v=((pre++[v])++cs).toArray:=by
   apply zhw;simp
  rw[h1];have:=zEQ vs (pre++[v]) cs (by simp at h ⊢;omega);simpa using this
theorem zdd{a:Addr}{b n:Nat}{cs vs:Array Value}{T:TypeId}{fz:Nat×Nat}{k:K}(i:Nat)(h:Holds B Γ w)(ha:a=⟨b,0,none⟩)(hi:Γ[i]?=some (blk b (.cells cs T fz)))(hn:cs.size=n)(hv:vs.size=n)
  (hf:∀o,o<n→¬(fz.1≤o∧o<fz.2)) (hfl:∀v∈vs.toList,qD v=true) (hk:∀w',Holds B (Γ.set i (blk b (.cells vs T fz))) w'→k w'):StN a n vs k w:=by
 subst ha;have h1:=h.pick i hi;have hb:=h1.block;refine⟨_,rfl,hv,fun j hj=>?_,hfl,hk _ ?_⟩
 ·rw[jD,zg8];exact⟨⟨_,y9 hb (zg0 (by omega))⟩,zBX hb (hf j (by omega))⟩
 ·refine Holds.put i hi (h1.setBlock ?_);rw[zCJ _ _ _ _ _ hb];have:=zEQ vs.toList [] cs.toList (by simp;omega);simp only[zgl,zg6] at this;have h2:(cs.toList).toArray=cs:=by simp
  have h3:(vs.toList).toArray=vs:=by simp
  rw[h2,h3] at this;simp only[zg8,zho];rw[this]
theorem zbp{zero cs:Array Value}{n:Nat}{k:Array Value→K}(hz:zero.size=n)(hn:cs.size=n)(hk:k cs w):Bld zero (fun i=>some (i*n,n)) [(0,.agg cs)] k w:=by
 refine⟨cs,?_,hk⟩;have h1:(Value.agg cs).cells=cs:=rfl;simp only[Instr.fill,h1,Nat.zero_mul,zg8];rw[if_neg (by simp[hz,hn])];have h2:=zEQ cs.toList [] zero.toList (by simp;omega);simp only[zgl,zg6] at h2;have h3:(cs.toList).toArray=cs:=by simp
 have h4:(zero.toList).toArray=zero:=by simp
 rw[h3,h4] at h2;rw[←Array.foldl_toList,Array.toList_zipIdx];exact congrArg some h2
theorem zNj(o:Nat):¬(((0,0):Nat×Nat).1≤o∧o<((0,0):Nat×Nat).2):=by simp
end
theorem at1{A0:zB}{A:zB}{Γ:List zB}:(A0::A::Γ)[1]?=some A:=rfl
theorem at2{A0:zB}{A1:zB}{A:zB}{Γ:List zB}:(A0::A1::A::Γ)[2]?=some A:=rfl
theorem at3{A0:zB}{A1:zB}{A2:zB}{A:zB}{Γ:List zB}:(A0::A1::A2::A::Γ)[3]?=some A:=rfl
theorem at4{A0:zB}{A1:zB}{A2:zB}{A3:zB}{A:zB}{Γ:List zB}:(A0::A1::A2::A3::A::Γ)[4]?=some A:=rfl
def SlC(E esz:Nat)(s:Sl)(vs:List Value):zB:=fun h=>
 vs.length=s.n*esz∧s.n≤s.c ∧
 match s.a with
 | none=>s.c=0
 | some a=>a.spot=none∧∃cs fz,h a.block=some (.cells cs E fz)∧(∀i,a.off≤i→i<a.off+s.c*esz→¬(fz.1≤i∧i<fz.2))∧a.off+s.c*esz≤cs.size∧∀i,i<vs.length→cs[a.off+i]?=vs[i]?
structure RdC(w:World)(s:Sl)(esz:Nat)(vs:List Value):Prop where
 len:vs.length=s.n*esz
 nil:s.a=none→s.n=0
 at':∀a,s.a=some a→∀i,i<vs.length→w.cell? (a.add i)=vs[i]?
def zBI(b:UInt8):Value:=.int .u8 b.toNat
def Bytes(E:Nat)(s:Sl)(xs:List UInt8):zB:=SlC E 1 s (xs.map zBI)
abbrev RdB(w:World)(s:Sl)(xs:List UInt8):Prop:=RdC w s 1 (xs.map zBI)
section
variable{B w:World}{Γ:List zB}{E esz:Nat}{s:Sl}{vs:List Value}
theorem zHy{b:Nat}{o:Obj}{h1:Hp}(hl:h1.le (own B w))(hb:h1 b=some o):w.heap[b]?=some o:=(zG4 (hl _ _ hb)).2
theorem Holds.rdC(h:Holds B Γ w)(hm:SlC E esz s vs∈Γ):RdC w s esz vs:=by
 obtain⟨Δ,h'⟩:=h.mem hm;obtain⟨_,h1,h2,⟨hl,hc,hs⟩,_,l1,_,_⟩:=h';refine⟨hl,fun hn=>?_,fun a ha i hi=>?_⟩
 ·rw[hn] at hs;simp only at hs;omega
 ·rw[ha] at hs;obtain⟨hsp,cs,fz,hb,_,_,hv⟩:=hs;obtain⟨b,off,sp⟩:=a;simp only at hsp;subst hsp;rw[jD];have:=zHy l1 hb;have h3:=hv i hi;have h4:vs[i]?=some vs[i]:=by simp[hi]
  rw[h4] at h3;rw[y9 this h3,h4]
theorem Holds.imp'{a:Addr}{n c:Nat}{cs:Array Value}{T:TypeId}{fz:Nat×Nat}(h:Holds B (SlC E esz ⟨some a,n,c⟩ vs::Γ) w)(hb:w.heap[a.block]?=some (.cells cs T fz)):Holds B (blk a.block (.cells cs T fz)::Γ) w:=by
 obtain⟨hw,h1,h2,⟨hl,hc,hsp,cs',fz',hb',hf,hsz,hv⟩,b2,l1,l2,d⟩:=h;have:=zHy l1 hb';rw[hb] at this;refine⟨hw,h1,h2,?_,b2,l1,l2,d⟩;unfold blk;rw[hb',this]
theorem RdC.old{s:Sl}{esz:Nat}{vs:List Value}(hr:RdC B s esz vs)(h:Holds B Γ w):RdC w s esz vs :=
 ⟨hr.len,hr.nil,fun a ha i hi=>by
  have h1:=hr.at' a ha i hi;have h2:vs[i]?=some vs[i]:=by simp[hi]
  rw[h2] at h1 ⊢;exact h.zZS h1⟩
end
end
section
open Go
def zAN(ds:List Deferred)(a:Act)(n:Nat)(σ:List (Nat×Value)):Prop:=Slots { a with defers:=[] } n σ∧a.defers=ds
section
variable{P:Program}{ops:Array Oper}{Q:Exit→Act→World→Prop}{rest:List Oper}{o:Oper}{a:Act}{n m:Nat}{σ τ:List (Nat×Value)}{w w':World}{v:Value}{F:Fence}{ds:List Deferred}
theorem Slots.D(h:Slots a n σ):zAN [] a n σ:=by
 obtain⟨t,d⟩:=a;have:=h.defers;simp only at this;subst this;exact⟨h,rfl⟩
theorem zAN.nil(h:zAN [] a n σ):Slots a n σ:=by
 obtain⟨t,d⟩:=a;obtain⟨h1,h2⟩:=h;simp only at h2;subst h2;exact h1
theorem zAN.to(h:zAN ds a n σ)(hs:Sub σ τ):zAN ds a n τ:=⟨h.1.to hs,h.2⟩
theorem zAN.put(h:zAN ds a n σ){d:Nat}(hd:d<n)(v:Value):zAN ds (a.put (some d) v) n ((d,v)::σ):=by
 have h1:=h.1.put hd v;exact⟨h1,h.2⟩
structure Free(F:Fence):Prop where
 fn:∀f,F.fn f
 depth:F.depth=none
theorem zHz:Free Fence.wide:=⟨fun _=>trivial,rfl⟩
theorem Free.round(h:Free F)(l:Nat):Free (F.inRound l):=⟨h.fn,h.depth⟩
theorem zGD(hF:Free F){f:FuncId}{args:Array Value}{R:Ending→World→Prop}(ha:F.alive=false)(h:Calls P f args w R):CallsIn F m P f args w R:=by
 obtain⟨h1,h2⟩:=(callsIn_wide (n:=m)).2 h;refine⟨hF.fn f,fun cs hr=>?_⟩;obtain⟨e,w',fr,r,s,x⟩:=h2 cs (fun d hd=>by cases hd);refine⟨e,w',fr,r,?_,x⟩;have key:Machine.fenced P Fence.wide=Machine.fenced P F:=by
  funext mm
  unfold Machine.fenced;simp[Fence.wide,ha,hF.fn,Fence.room,hF.depth]
 rwa[key] at s
theorem zPA{m' l:Nat}{f:FuncId}{tmps:Array Value}{assign body:Code}{R:Ending→World→Prop}(h:RoundIn Fence.wide m P l f tmps assign body w R):RoundIn Fence.wide m' P l f tmps assign body w R :=
 ⟨h.1,fun c cs _=>h.2 c cs (fun d hd=>by cases hd)⟩
theorem zZT{α:Type}{c:Code}(I:α→World→Prop)(μ:α→World→Nat)(G:α→Act→Prop)(x:α)(h0:I x w)(hG:G x a)
  (h:∀x a w,I x w→G x a→c.wpIn F m P (Exit.then (fun a' w'=>∃x',G x' a'∧I x' w'∧μ x' w'<μ x w) Q) a w):(Code.loop c).wpIn F m P Q a w:=by
 classical
 let R:Act→World→Nat→Prop:=fun a w k=>∃x,I x w∧G x a∧μ x w=k
 have key:∀k a w,R a w k→(Code.loop c).wpIn F m P Q a w:=by
  intro k0 a0 w0 hR0;intro b kk cs hro hb hr;have key2:∀j a w,R a w j→∃e a' w',Q e a' w'∧ArrivesIn (Machine.fenced P F) P (lone (b.atR a (.code c::.inLoop c::kk)) cs w) b kk cs e a' w':=by
   intro j
   induction j using Nat.strongRecOn with
   | _ j ih=>
    rintro a w ⟨x,hI,hGx,hμ⟩;obtain⟨e,a₁,w₁,hq,harr⟩:=h x a w hI hGx b (.inLoop c::kk) cs hro hb hr;cases e with
    | normal=>
     obtain⟨x',hG',hI',hlt⟩:=hq;obtain⟨e₂,a₂,w₂,hq₂,harr₂⟩:=ih (μ x' w₁) (hμ▸hlt) a₁ w₁ ⟨x',hI',hG',rfl⟩;exact⟨e₂,a₂,w₂,hq₂,.of_steps (StepsIn.trans harr (.one (fenced_calm hb hr rfl) stepR_inLoop)) harr₂⟩
    | exit id=>exact⟨_,a₁,w₁,hq,.pass (x:=.inLoop c) rfl (fun _ _=>.inl (by simp)) harr⟩
    | goto l=>exact⟨_,a₁,w₁,hq,.pass (x:=.inLoop c) rfl (fun _ _=>.inl (by simp)) harr⟩
    | ret=>exact⟨_,a₁,w₁,hq,.pass (x:=.inLoop c) rfl (fun _ _=>.inl (by simp)) harr⟩
    | panic ch=>exact⟨_,a₁,w₁,hq,.pass (x:=.inLoop c) rfl (fun _ _=>.inl (by simp)) harr⟩
    | outgrown=>exact⟨_,a₁,w₁,hq,.pass (x:=.inLoop c) rfl (fun _ _=>.inl (by simp)) harr⟩
  obtain⟨e,a',w',hq,harr⟩:=key2 k0 a0 w0 hR0;exact⟨e,a',w',hq,.of_steps (.one (fenced_calm hb hr rfl) stepR_loop) harr⟩
 exact key _ a w ⟨x,h0,hG,rfl⟩
abbrev yv(l:Nat):Value:=.func (.yield l) #[] #[]
def zAe(P:Program)(f:Value)(args:List Value)(k:Value→K):K:=fun w=>∃l,f = .func (.yield l) #[] #[]∧YieldAt Fence.wide 0 P l args.toArray w (Ret k)
theorem zZU{l:Nat}{x:Operand}{xs:Array Operand}{ts:Array TypeId}{vs:List Value}(ho:o.op = .call { callee:=.value x,args:=xs,argTypes:=ts })(hx:ev σ x=some (.func (.yield l) #[] #[]))(hv:evs σ xs.toList=some vs):
  ∀(y:Next),(Instr.yield l vs.toArray).run P w = .ok y w→Eff P σ o w y w:=fun y hy a _ hs=>by
 have h1:xs.map a.eval=vs.toArray:=by apply zhw;simpa using zFq hs hv
 simp[execOp,ho,resolve,hs.ev hx,h1,Deferred.ofValue,invoke,hy]
def zFr(D:Nat):List Deferred:=[{ target:=.collected D,args:=#[] }]
def zVF(l:Nat)(r:Loop)(k:K):K:=fun w=>w.heap[l]?=some (.loop r)∧k (w.putObj l (.loop { r with state:=.ready,pending:=none }))
def zAp(D:Nat)(k:K):K:=fun w=>w.heap[D]?=some (.deferred (some []))∧k (w.putObj D (.deferred none))
def jE{α:Type}(P:Program)(fv:Value)(cX:α→Value)(body:K→α→K)(after:Nat→K):K:=fun w=>
 ∃g cs,fv = .func (.func g) #[] cs∧callable P g=true ∧
  ∀(r:Loop) (w1:World),r.state = .ready→r.pending=none→r.defers=w.heap.size→w1=(w.alloc (.deferred (some []))).alloc (.loop r) →
   (∀(x:α) (k:K) (W:World),W.heap[w.heap.size+1]?=some (.loop r) →
    body (zVF (w.heap.size+1) { r with state:=.busy } k) x (W.putObj (w.heap.size+1) (.loop { r with state:=.busy })) →
    YieldAt Fence.wide 0 P (w.heap.size+1) #[cX x] W (Ret fun v w'=>v = .bool true∧k w')) →
   Calls P g (yv (w.heap.size+1)::cs.toList).toArray w1 (Ret fun _ w3=>w3.heap[w.heap.size+1]?=some (.loop r)∧after w.heap.size (w3.putObj (w.heap.size+1) (.loop { r with state:=.exhausted })))
theorem zAN.init(args:List Value)(n:Nat)(hn:args.length≤n):zAN [] { tmps:=args.toArray++Array.replicate (n-args.toArray.size) undef,defers:=[] } n (args.zipIdx.map fun p=>(p.2,p.1)):=(Slots.init args n hn).D
def zCl(P:Program)(fn:Func)(R:Ending→World→Prop):Exit→Act→World→Prop
 | .normal,a,w|.ret,a,w=>LeavesInM Fence.wide 0 P fn a.tmps R a.defers .returning w
 | _,_,_=>False
theorem zQY{fn:Func}{R:Ending→World→Prop}:zEl (zCl P fn R):=fun _ _ _ h=>h
theorem zWn{f:FuncId}{fn:Func}{c:Code}{args:List Value}{R:Value→World→Prop}(hf:P.funcs[f]?=some fn)(hb:fn.body=some c)(hn:args.length≤fn.ntmps)
  (h:∀a,zAN [] a fn.ntmps (args.zipIdx.map fun p=>(p.2,p.1))→c.wpIn Fence.wide 0 P (zCl P fn (Ret R)) a w):Calls P f args.toArray w (Ret R):=by
 refine callsIn_wide.1 (callsIn_of_wp_marks (n:=0) hf hb trivial ?_);refine wpIn_mono (h _ (zAN.init args _ hn)) fun e a w hq=>?_;cases e with
 | normal=>exact hq
 | ret=>exact hq
 | _=>exact hq.elim
end
section
variable{P:Program}{B w:World}{Γ:List zB}
theorem zER{l:Nat}{o o':Obj}(h:Holds B (blk l o::Γ) w):Holds B (blk l o'::Γ) (w.putObj l o'):=h.setBlock rfl
theorem zbq{l:Nat}{r:Loop}{k:K}(h:Holds B (blk l (.loop r)::Γ) w)(hk:∀w,Holds B (blk l (.loop { r with state:=.ready,pending:=none })::Γ) w→k w):zVF l r k w:=⟨h.block,hk _ (zER h)⟩
theorem zZV{D:Nat}{k:K}(h:Holds B (blk D (.deferred (some []))::Γ) w)(hk:∀w,Holds B Γ w→k w):zAp D k w:=⟨h.block,hk _ (zER (o':=.deferred none) h).tail⟩
theorem zWo{α:Type}{fv:Value}{cX:α→Value}{body:K→α→K}{after:Nat→K}{g:FuncId}{cs:Array Value}(h:Holds B Γ w)(hf:fv = .func (.func g) #[] cs)(hc:callable P g=true)
  (hk:∀(D l:Nat) (r:Loop) (w:World),r.state = .ready→r.pending=none→Holds B (blk l (.loop r)::blk D (.deferred (some []))::Γ) w →
   (∀(x:α) (k:K) (W:World) (Δ:List zB),Holds B (blk l (.loop r)::Δ) W→(∀W,Holds B (blk l (.loop { r with state:=.busy })::Δ) W→body (zVF l { r with state:=.busy } k) x W) →
    zAe P (.func (.yield l) #[] #[]) [cX x] (fun v w=>v = .bool true∧k w) W) →
   Calls P g (yv l::cs.toList).toArray w (Ret fun _ w3=>∃Δ,Holds B (blk l (.loop r)::Δ) w3∧∀w,Holds B Δ w→after D w)):jE P fv cX body after w:=by
 refine⟨g,cs,hf,hc,fun r w1 h1 h2 h3 hw hy=>?_⟩;have h4:=h.alloc (.deferred (some []));have h5:=h4.alloc (.loop r);have e:({ w with heap:=w.heap.push (.deferred (some [])) }:World).heap.size=w.heap.size+1:=by simp
 rw[e] at h5;subst hw;refine(hk w.heap.size (w.heap.size+1) r _ h1 h2 h5 fun x k W Δ hW hb=>?_).mono fun e w3 he=>?_
 ·exact⟨_,rfl,hy x k W hW.block (hb _ (zER hW))⟩
 ·cases e with
  | returned v=>
   obtain⟨Δ,h6,h7⟩:=he;exact⟨h6.block,h7 _ (zER h6).tail⟩
  | panicked c=>exact he.elim
  | outgrown=>exact he.elim
end
theorem zWp{P:Program}{f:FuncId}{args:Array Value}{w:World}{k k':Value→World→Prop}(h:Calls P f args w (Ret k))(hk:∀v w,k v w→k' v w):Calls P f args w (Ret k') :=
 h.mono fun e w he=>by
  cases e with
  | returned v=>exact hk _ _ he
  | panicked c=>exact he.elim
  | outgrown=>exact he.elim
theorem zSR{P:Program}{f:Value}{args:List Value}{w:World}{k k':Value→K}(h:zAe P f args k w)(hk:∀v w,k v w→k' v w):zAe P f args k' w:=by
 obtain⟨l,hl,fn,tm,sg,bd,hy,hr⟩:=h;refine⟨l,hl,fn,tm,sg,bd,hy,hr.mono fun e w he=>?_⟩;cases e with
 | returned v=>exact hk _ _ he
 | panicked c=>exact he.elim
 | outgrown=>exact he.elim
end
section
open Go
section
variable{P:Program}{ops:Array Oper}{Q:Exit→Act→World→Prop}{S:World→Prop}{o:Oper}{a:Act}{w w':World}{v:Value}{fuel:Nat}{listed:Array Bool}
abbrev opW(P:Program)(ops:Array Oper)(Q:Exit→Act→World→Prop):=wpOpIn Fence.wide 0 P ops Q
theorem zbF{i:Nat}(hi:ops[i]?=some o)(hy:YieldsIf P ops S o v a){K:Act→World→Prop}(hS:S w)(h:K (a.put o.dst v) w):opW P ops Q i K a w:=by
 unfold opW Go.wpOpIn;simp only[hi];rcases hy with⟨hw,hv⟩|⟨hw,rfl⟩
 ·simp only[hw,zhX,Oper.wpIn];refine⟨fun _ _=>trivial,?_⟩;show o.uponIn Fence.wide 0 P a K Q ((o.semAt none a.eval).run P w);rw[Oper.semAt_none,hv w hS];exact h
 ·simp only[hw,zgc,zhG];exact⟨fun _ _=>trivial,h⟩
theorem zZW{j:Nat}{oi oj:Oper}(hj:ops[j]?=some oj)(hap:oi.apart ops oj=true)(hsi:∀cs b,oi.op ≠ .select cs b)(hsj:∀cs b,oj.op ≠ .select cs b)
  (hQ:∀c a w,Q (.panic c) (a.put oi.dst v) w→Q (.panic c) a w) {K:Act→World→Prop} (hy:YieldsIf P ops S oi v a) (h:opW P ops Q j K (a.put oi.dst v) w) :
  opW P ops Q j (fun a' w'=>YieldsIf P ops S oi v a'∧K (a'.put oi.dst v) w') a w:=by
 obtain⟨h1,h2,h3⟩:=Oper.apart_spec hap;have keep:∀(a:Act),YieldsIf P ops S oi v a→∀u,YieldsIf P ops S oi v (a.put oj.dst u):=fun a hy u=>
  hy.of_same (execOp_put oi hsi a oj.dst u h3) (wanted_put oi a oj.dst u h3)
 have keepD:∀d,YieldsIf P ops S oi v { a with defers:=d::a.defers }:=fun d=>hy.of_same rfl rfl;unfold opW wpOpIn at *;simp only[hj] at *;rw[wanted_put oj a oi.dst v h1] at h;split
 ·rename_i hw;simp only[hw,zhX] at h;unfold Oper.wpIn at *;refine⟨fun _ _=>trivial,?_⟩;have h:=h.2;have hro:Fence.wide.round=none:=rfl;rw[hro,Oper.semAt_none,execOp_put oj hsj a oi.dst v h1] at h;rw[hro,Oper.semAt_none];generalize(execOp a.eval oj).run P w=r at *;cases r with
  | ok x w'=>
   cases x <;> simp only[Oper.uponIn] at h ⊢
   case value u=>exact⟨keep a hy u,by rw[←Act.put_comm a v u h2];exact h⟩
   case skip=>exact⟨keep a hy _,by rw[←Act.put_comm a v undef h2];exact h⟩
   case defer d=>
    refine⟨keep _ (keepD d) _,?_⟩;rw[←Act.put_comm _ v undef h2,←Act.put_defers];exact h
   case enter f args=>
    refine⟨h.1,CallsIn.mono h.2 fun e w'' he=>?_⟩;cases e with
    | returned u=>exact⟨keep a hy u,by rw[←Act.put_comm a v u h2];exact he⟩
    | panicked c=>exact hQ _ _ _ he
    | outgrown=>exact he
   case row row args=>exact⟨h.1,RowsIn.mono h.2 fun u w'' he=>⟨keep a hy u,by rw[←Act.put_comm a v u h2];exact he⟩⟩
   case round l f tmps assign body=>
    refine⟨h.1,RoundIn.mono h.2 fun e w'' he=>?_⟩;cases e with
    | returned u=>exact⟨keep a hy u,by rw[←Act.put_comm a v u h2];exact he⟩
    | panicked c=>exact hQ _ _ _ he
    | outgrown=>exact he
  | halt x w'=>
   cases x <;> simp only[Oper.uponIn] at h ⊢
   case panic u=>exact hQ _ _ _ h
 ·rename_i hw;simp only[hw] at h;exact⟨fun _ _=>trivial,keep a hy _,by rw[←Act.put_comm a v undef h2];exact h.2⟩
def alive(ds:List Nat)(l:Array Bool):Bool:=ds.all fun d=>!l.getD d false
def zD7(P:Program)(ops:Array Oper)(Q:Exit→Act→World→Prop)(S:World→Prop)(ds:List Nat):Nat→Array Bool→Act→World→Prop
 | 0,listed,a,w=>Region.ready .any ops listed=[]∧Q .normal a w
 | fuel+1,listed,a,w=>
  (Region.ready .any ops listed=[]→Q .normal a w) ∧
  ∀i∈Region.ready .any ops listed,opW P ops Q i (fun a' w'=>(alive ds listed=true→i∉ds→S w→S w')∧zD7 P ops Q S ds fuel (listed.setIfInBounds i true) a' w') a w
variable{ds:List Nat}
theorem zEq:∀(fuel:Nat) (listed:Array Bool) (a:Act) (w:World),zD7 P ops Q S ds fuel listed a w→wpAnyIn Fence.wide 0 P .any ops Q fuel listed a w
 | 0,_,_,_,h=>h
 | fuel+1,_,_,_,h=>⟨h.1,fun i hi=>wpOpIn_mono (fun a' w' h'=>zEq fuel _ a' w' h'.2) (h.2 i hi)⟩
theorem zKS{ds':List Nat}(hsub:∀d∈ds',d∈ds):∀(fuel:Nat) (listed:Array Bool) (a:Act) (w:World),zD7 P ops Q S ds' fuel listed a w→zD7 P ops Q S ds fuel listed a w
 | 0,_,_,_,h=>h
 | fuel+1,_,_,_,h=>⟨h.1,fun i hi=>wpOpIn_mono (fun a' w' h'=>⟨fun hal hid=>h'.1 (zg2.2 fun d hd=>zg2.1 hal d (hsub d hd)) (fun hm=>hid (hsub i hm)),zKS hsub fuel _ a' w' h'.2⟩) (h.2 i hi)⟩
theorem zOA{l:Array Bool}{i:Nat}(hi:i∉ds)(h:alive ds l=true):alive ds (l.setIfInBounds i true)=true:=by
 refine zg2.2 fun d hd=>?_;have:=zg2.1 h d hd;have hne:i≠d:=fun e=>hi (e▸hd);rw[getD_set_ne false hne];exact this
theorem zPB{T:World→Prop}{i:Nat}{oi:Oper}(hi:ops[i]?=some oi)(hid:i∉ds)(hsel:∀(j:Nat) (o:Oper) cs b,ops[j]?=some o→o.op ≠ .select cs b)(hQ:zEl Q):
  ∀(fuel:Nat) (listed:Array Bool) (a:Act) (w:World),
   (∀j oj,ops[j]?=some oj→j≠i→listed.getD j true=false→(∀e∈oj.after,Region.binds .any e=true→e.on≠i)→oi.apart ops oj=true) →
   ((∀w,T w)∨(T=S∧Closed ops listed∧∀d∈ds,∃n,reach ops i n d=true)) →
   i∈Region.ready .any ops listed→YieldsIf P ops T oi v a→T w →
   zD7 P ops Q S ds fuel (listed.setIfInBounds i true) (a.put oi.dst v) w→zD7 P ops Q S ds (fuel+1) listed a w:=by
 have hQ':∀c a w,Q (.panic c) (a.put oi.dst v) w→Q (.panic c) a w:=fun c a w h=>absurd h (hQ c _ w);intro fuel
 induction fuel with
 | zero=>
  intro listed a w _ _ hr hy hT H;refine⟨fun h=>(by rw[h] at hr;cases hr),fun j hj=>?_⟩;by_cases hji:j=i
  ·subst hji;exact zbF hi hy hT ⟨fun _ _ h=>h,H⟩
  ·have:=ready_mono hj hji;rw[H.1] at this;cases this
 | succ fuel ih=>
  intro listed a w hfree hlast hr hy hT H;refine⟨fun h=>(by rw[h] at hr;cases hr),fun j hj=>?_⟩;by_cases hji:j=i
  ·subst hji;exact zbF hi hy hT ⟨fun _ _ h=>h,H⟩
  ·have h1:=H.2 j (ready_mono hj hji);obtain⟨hjun,oj,hoj,hall⟩:=mem_ready.1 hj;have hi0:listed.getD i true=false:=(mem_ready.1 hr).1;have hi1:listed.getD i false=false:=by
    rcases Nat.lt_or_ge i listed.size with h'|h'
    ·simp[h'] at hi0 ⊢;exact hi0
    ·simp[Array.getElem?_eq_none h'] at hi0
   have hnot:∀e∈oj.after,Region.binds .any e=true→e.on≠i:=fun e he hb heq=>by
    have h1:=hall e he hb;rw[heq,hi1] at h1;cases h1
   have hTw:∀w',(alive ds listed=true→j∉ds→S w→S w')→T w':=fun w' h=>by
    rcases hlast with hl|⟨rfl,hcl,hl⟩
    ·exact hl w'
    ·refine h (zg2.2 fun d hd=>?_) (fun hd=>?_) hT
     ·cases hld:listed.getD d false with
      | false=>rfl
      | true=>
       obtain⟨n,hn⟩:=hl d hd;cases hod:ops[d]? with
       | none=>cases n <;> simp[reach,hod] at hn
       | some od=>
        have:=zGC hcl n d od hod (hcl d od hod hld) hn;rw[hi1] at this;cases this
     ·obtain⟨n,hn⟩:=hl j hd;have:=zGC hcl n j oj hoj hall hn;rw[hi1] at this;cases this
   have h2:=zZW hoj (hfree j oj hoj hji hjun hnot) (fun cs b=>hsel i oi cs b hi) (fun cs b=>hsel j oj cs b hoj) hQ' hy h1;have hun':∀k,(listed.setIfInBounds j true).getD k true=false→listed.getD k true=false:=fun k hun=>by
    by_cases hjk:j=k
    ·subst hjk;exact hjun
    ·rw[getD_set_ne true hjk] at hun;exact hun
   refine wpOpIn_mono (fun a' w' h3=>⟨fun hal=>h3.2.1 (zOA hid hal),ih (listed.setIfInBounds j true) a' w' (fun k ok hk hki hun hno=>hfree k ok hk hki (hun' k hun) hno) ?_ (ready_mono hr (Ne.symm hji)) h3.1 (hTw w' fun hal=>h3.2.1 (zOA hid hal)) ?_⟩) h2
   ·rcases hlast with hl|⟨hTS,hcl,hl⟩
    ·exact .inl hl
    ·exact .inr ⟨hTS,hcl.put hj,hl⟩
   ·rw[Array.setIfInBounds_comm _ _ hji];exact h3.2.2
end
end
section
open Go
class CT(P:Program)(T:Nat):Prop where h:zN7 P T=true
class AT(P:Program)(T:Nat)(n:outParam Nat):Prop where h:zVB P T n=true
class SZ(P:Program)(T:Nat)(n:outParam Nat):Prop where h:sizeT P T n=true
class SLT(P:Program)(T:Nat)(E esz:outParam Nat):Prop where h:sliceT P T E esz=true
class ART(P:Program)(T:Nat)(E len esz:outParam Nat):Prop where h:zO5 P T E len esz=true
class STT(P:Program)(T:Nat):Prop where h:zFR P T=true
class INT(P:Program)(T:Nat)(k:outParam IntKind):Prop where h:zWb P T k=true
class ZT(P:Program)(T:Nat)(z:outParam Value):Prop where h:zCD P T z
class PLT(P:Program)(T:Nat)(l:outParam (List (Nat×Nat))):Prop where h:zTp P T l
class FT(P:Program)(S i:Nat)(off n:outParam Nat):Prop where h:zO6 P S i off n=true
class FC(P:Program)(S i:Nat)(off:outParam Nat):Prop where h:zSM P S i off=true
class FNC(P:Program)(S i:Nat)(off n:outParam Nat):Prop where h:zSN P S i off n=true
class UN(P:Program)(T:Nat)(d:outParam TypeDesc):Prop where h:P.underlying T=some d
class CB(P:Program)(f:Nat):Prop where h:callable P f=true
class EXT(P:Program)(f:Nat)(e:outParam (Array Value→Sem Value)):Prop where h:∀args w v w',(e args).run P w = .ok v w'→(callFunc f args).run P w = .ok (.value v) w'
class MX(P:Program):Prop where h:P.follows .mixedOrders=true
def zCt{α β γ δ:Type}(c:α→β→γ→δ→Value)(k:α→β→γ→δ→K):Value→K:=fun v w=>∃x y z u,v=c x y z u∧k x y z u w
def zCx{α β γ δ ε:Type}(c:α→β→γ→δ→ε→Value)(k:α→β→γ→δ→ε→K):Value→K:=fun v w=>∃x y z u t,v=c x y z u t∧k x y z u t w
section
variable{P:Program}{σ τ:List (Nat×Value)}{o:Oper}{x y z:Operand}{v:Value}{T U:TypeId}
theorem zLA{S i off n:Nat}{a:Addr}[c:FT P S i off n](ho:o.op = .fieldAddr S x i)(hx:ev σ x=some (.pointer (some a))):Pure P σ o (.pointer (some (a.add off))):=zK9 ho hx c.h
theorem zJd{S i n:Nat}{a:Addr}[c:FT P S i 0 n](ho:o.op = .fieldAddr S x i)(hx:ev σ x=some (.pointer (some a))):Pure P σ o (.pointer (some a)):=zO7 ho hx c.h
theorem zQZ{S i off n:Nat}{cs:Array Value}[c:FNC P S i off n](ho:o.op = .field S x i)(hx:ev σ x=some (.agg cs)):Pure P σ o (.agg (cs.extract off (off+n))):=zWe ho hx c.h
theorem q_len{s:Sl}{E esz:Nat}[c:SLT P T E esz](ho:o.op = .call { callee:=.builtin .len,args:=#[x],argTypes:=#[T] })(hx:ev σ x=some s.val):Pure P σ o (.int .i64 s.n):=zdU ho hx c.h
theorem zWq{s:ByteArray}[c:STT P T](ho:o.op = .call { callee:=.builtin .len,args:=#[x],argTypes:=#[T] })(hx:ev σ x=some (.string s)):Pure P σ o (.int .i64 s.size):=zbh ho hx c.h
theorem zMI{s:ByteArray}[c:STT P T][d:STT P U](ho:o.op = .convert T U x)(hx:ev σ x=some (.string s)):Pure P σ o (.string s):=zSP ho hx c.h d.h
theorem zMJ{k j:IntKind}{a:Int}[c:INT P T k][d:INT P U j](ho:o.op = .convert T U x)(hx:ev σ x=some (.int k a)):Pure P σ o (.int j (j.wrap a)):=zSO ho hx c.h d.h
theorem zbG{a b:Bool}[c:UN P T .bool](ho:o.op = .binOp .eql T x y U)(hx:ev σ x=some (.bool a))(hy:ev σ y=some (.bool b)):Pure P σ o (.bool (a==b)):=zdS ho hx hy c.h
theorem zbH{a b:Bool}[c:UN P T .bool](ho:o.op = .binOp .neq T x y U)(hx:ev σ x=some (.bool a))(hy:ev σ y=some (.bool b)):Pure P σ o (.bool (!(a==b))):=zdT ho hx hy c.h
theorem zQa{p:Option Addr}{E:Nat}[c:UN P T (.pointer E)](ho:o.op = .binOp .eql T x y U)(hx:ev σ x=some (.pointer p))(hy:ev σ y=some (.pointer none)):Pure P σ o (.bool p.isNone):=zWf ho hx hy c.h
theorem zQb{p:Option Addr}{E:Nat}[c:UN P T (.pointer E)](ho:o.op = .binOp .neq T x y U)(hx:ev σ x=some (.pointer p))(hy:ev σ y=some (.pointer none)):Pure P σ o (.bool (!p.isNone)):=zWg ho hx hy c.h
theorem zTu{s:Sl}{E n c:Nat}[cl:UN P T (.slice E)](ho:o.op = .binOp .eql T x y U)(hx:ev σ x=some s.val)(hy:ev σ y=some (.slice none n c)):Pure P σ o (.bool s.a.isNone):=zZK ho hx hy cl.h
theorem zTv{s:Sl}{E n c:Nat}[cl:UN P T (.slice E)](ho:o.op = .binOp .neq T x y U)(hx:ev σ x=some s.val)(hy:ev σ y=some (.slice none n c)):Pure P σ o (.bool (!s.a.isNone)):=zZL ho hx hy cl.h
theorem zbI{a b:ByteArray}(ho:o.op = .binOp .geq T x y U)(hx:ev σ x=some (.string a))(hy:ev σ y=some (.string b)):Pure P σ o (.bool !(Op.bytesLess a.toList b.toList)):=fun _ _ hs w=>by
 simp[execOp,ho,hs.ev hx,hs.ev hy,eqGuard,binOp,Op.stringOp]
theorem zbJ{a b:ByteArray}(ho:o.op = .binOp .leq T x y U)(hx:ev σ x=some (.string a))(hy:ev σ y=some (.string b)):Pure P σ o (.bool (Op.bytesLess a.toList b.toList||a.toList==b.toList)):=fun _ _ hs w=>by
 simp[execOp,ho,hs.ev hx,hs.ev hy,eqGuard,binOp,Op.stringOp]
def zPC:List Value→List (Nat×Nat)→List (Nat×Value)→List Value
 | zs,_,[]=>zs
 | zs,ps,p::vs=>zPC (zs.set ((ps.getD p.1 (0,0)).1) p.2) ps vs
def zKT:List (Nat×Value)→Bool
 | []=>true
 | p::vs=>qD p.2&&zKT vs
theorem zTw{z:Value}{zl:List Value}{pl:List (Nat×Nat)}{ps:Array (Nat×Operand)}{vs:List (Nat×Value)}[c:ZT P T z][d:PLT P T pl](ho:o.op = .build T ps)(hv:partsOf σ ps.toList=some vs)(hf:zKT vs=true)(hz:z.cells=zl.toArray)
  (hc:Instr.fill (pl[·]?) z.cells vs=some (zPC zl pl vs).toArray):Pure P σ o (.agg (zPC zl pl vs).toArray):=zTq ho c.h d.h hv hc
def nth:List Value→Nat→Option Value
 | [],_=>none
 | v::_,0=>some v
 | _::l,i+1=>nth l i
theorem zI2:∀(l:List Value) (i:Nat),nth l i=l[i]?
 | [],_=>rfl
 | _::_,0=>rfl
 | _::l,i+1=>by simpa[nth] using zI2 l i
theorem zOB{l:List Value}{i:Nat}(ho:o.op = .extract x i)(hx:ev σ x=some (.tuple l.toArray))(hv:nth l i=some v):Pure P σ o v:=zN9 ho hx (by rw[zI2] at hv;simpa using hv)
theorem zPD(h:Pure P σ o v:=by
  first
  | exact zWc rfl rfl|exact zQP rfl rfl|exact zaw rfl rfl|exact zJd rfl rfl|exact zLA rfl rfl|exact q_len rfl rfl|exact zdL rfl rfl rfl|exact zdM rfl rfl rfl|exact zdN rfl rfl rfl|exact zdO rfl rfl rfl
  | exact zdP rfl rfl rfl|exact zdQ rfl rfl rfl|exact zbA rfl rfl|exact zQQ rfl rfl rfl|exact zQR rfl rfl rfl|exact zQS rfl rfl rfl rfl|exact zOB rfl rfl rfl|exact zWq rfl rfl|exact zbB rfl rfl rfl|exact zbC rfl rfl rfl
  | exact zbD rfl rfl rfl|exact zbE rfl rfl rfl|exact zbI rfl rfl rfl|exact zbJ rfl rfl rfl|exact zQa rfl rfl rfl|exact zQb rfl rfl rfl|exact zTu rfl rfl rfl|exact zTv rfl rfl rfl|exact zbG rfl rfl rfl|exact zbH rfl rfl rfl
  | exact zQZ rfl rfl|exact zTw rfl rfl rfl rfl (by kernel_rfl)|exact zMF rfl rfl rfl|exact zWd rfl rfl|exact zMI rfl rfl):Pure P σ o v:=h
def WP(P:Program)(σ:List (Nat×Value))(o:Oper){α:Type}(k:K)(v:α→Value)(k':α→K):Prop:=∀w,k w→∃x,Pure P σ o (v x)∧k' x w
def WR(P:Program)(σ:List (Nat×Value))(o:Oper){α:Type}(k:K)(v:α→Value)(k':α→K):Prop:=∀w,k w→∃x,Eff P σ o w (.value (v x)) w∧k' x w
def WE(P:Program)(σ:List (Nat×Value))(o:Oper){α:Type}(k:K)(v:α→Value)(k':α→K):Prop:=∀w,k w→∃x w',Eff P σ o w (.value (v x)) w'∧k' x w'
def WK(P:Program)(σ:List (Nat×Value))(o:Oper)(k k':K):Prop:=∀w,k w→∃w',Eff P σ o w .skip w'∧k' w'
def WC(P:Program)(σ:List (Nat×Value))(o:Oper)(k:K)(kk:Value→K):Prop:=∀w,k w→∃f args w',Eff P σ o w (.enter f args) w'∧Calls P f args w' (Ret kk)
def WY(P:Program)(σ:List (Nat×Value))(o:Oper)(k:K)(kk:Value→K):Prop:=∀w,k w→∃l args,(∀y,(Instr.yield l args).run P w = .ok y w→Eff P σ o w y w)∧YieldAt Fence.wide 0 P l args w (Ret kk)
def WS(P:Program)(S:World→Prop)(σ:List (Nat×Value))(o:Oper){α:Type}(k:K)(v:α→Value)(k':α→K):Prop:=∀w,k w→∃x,(∀w,S w→Eff P σ o w (.value (v x)) w)∧k' x w
section
variable{α β:Type}{e:Int}{p:Prop}{kk:IntKind}{ki:Int→K}{ka:Addr→K}{s:Sl}{i lo hi mx:Int}{esz:Nat}{c:α→Value}{kx:α→K}{k:K}
theorem zQc(hp:Pure P σ o (.int kk e)):WP P σ o (Ar e ki) (fun t=>.int kk t) ki:=fun w ⟨t,he,h⟩=>⟨t,he▸hp,h⟩
theorem zTx(hp:p→Pure P σ o (.int kk e)):WP P σ o (Cd p (Ar e ki)) (fun t=>.int kk t) ki:=fun w ⟨h0,t,he,h⟩=>⟨t,he▸hp h0,h⟩
theorem zWr{E:Nat}{kj:IntKind}[cl:SLT P T E esz](ho:o.op = .indexAddr T x y)(hx:ev σ x=some s.val)(hy:ev σ y=some (.int kj i)):WP P σ o (Idx s i esz ka) (fun t=>.pointer (some t)) ka :=
 fun w ⟨a,t,ha,h0,h1,he,h⟩=>⟨t,Pure.adr he (zdV ho hx hy cl.h ha h0 h1),h⟩
theorem zTy{E len:Nat}{kj:IntKind}{a:Addr}[cl:ART P T E len esz](ho:o.op = .indexAddr T x y)(hx:ev σ x=some (.pointer (some a)))(hy:ev σ y=some (.int kj i)):WP P σ o (zBW a len i esz ka) (fun t=>.pointer (some t)) ka :=
 fun w ⟨t,h0,h1,he,h⟩=>⟨t,Pure.adr he (zbi ho hx hy cl.h h0 h1),h⟩
theorem zTz{kj:IntKind}{s:ByteArray}[cl:STT P T](ho:o.op = .index T x y)(hx:ev σ x=some (.string s))(hy:ev σ y=some (.int kj i)):WP P σ o (zCs s i ki) (fun t=>.int .u8 t) ki :=
 fun w ⟨t,b,h0,h1,he,h⟩=>⟨t,Pure.int he (zbj ho hx hy cl.h h0 h1),h⟩
theorem zWs{S j off:Nat}{cs:Array Value}[cl:FC P S j off](ho:o.op = .field S x j)(hx:ev σ x=some (.agg cs)):WP P σ o (Fld cs off c kx) c kx :=
 fun w ⟨t,hv,h⟩=>⟨t,zZJ ho hx cl.h hv,h⟩
theorem zWt{E:Nat}{lo' hi' mx':Option Operand}{ks:Sl→K}[cl:SLT P T E esz](ho:o.op = .slice T x lo' hi' mx')(hx:ev σ x=some s.val)(hl:zGc σ lo' 0 lo)(hh:zGc σ hi' s.n hi)(hm:zGc σ mx' s.c mx)(hmx:(!mx'.isSome||hi'.isSome)=true):
  WP P σ o (Slc s lo hi mx esz ks) (fun t=>t.val) ks :=
 fun w ⟨t,h0,h1,h2,h3,he,h⟩=>⟨t,Pure.sl he (zdW ho hx cl.h hl hh hm (fun hs=>by rw[hs] at hmx;simpa using hmx) h0 h1 h2 h3),h⟩
theorem zT0{lo' hi':Option Operand}{s:ByteArray}{ks:ByteArray→K}[cl:STT P T](ho:o.op = .slice T x lo' hi' none)(hx:ev σ x=some (.string s))(hl:zGc σ lo' 0 lo)(hh:zGc σ hi' s.size hi):
  WP P σ o (zDE s lo hi ks) (fun t=>.string t) ks :=
 fun w ⟨t,h0,h1,h2,he,h⟩=>⟨t,Pure.str he (zbk ho hx cl.h hl hh h0 h1 h2),h⟩
theorem zWu{a b:ByteArray}{ks:ByteArray→K}(ho:o.op = .binOp .add T x y U)(hx:ev σ x=some (.string a))(hy:ev σ y=some (.string b)):WP P σ o (Cat a b ks) (fun t=>.string t) ks :=
 fun w ⟨t,h0,he,h⟩=>⟨t,Pure.str he (zbg ho hx hy h0),h⟩
theorem zWv{sem:Sem Value}(hs:∀v w w',sem.run P w = .ok v w'→Eff P σ o w (.value v) w'):WP P σ o (Pu P sem c kx) c kx :=
 fun w ⟨t,hd,h⟩=>⟨t,zdY fun w=>hs _ _ _ (hd w),h⟩
theorem zWw{t:Value}{j:Nat}(ho:o.op = .extract x j)(hx:ev σ x=some t):WP P σ o (Ext t j c kx) c kx :=
 fun w ⟨vs,u,ht,hv,h⟩=>⟨u,zN9 ho (hx.trans (congrArg some ht)) hv,h⟩
theorem zWx{zv:Value}{zero:Array Value}{pl:List (Nat×Nat)}{ps:Array (Nat×Operand)}{vs:List (Nat×Value)}{kc:Array Value→K}[cz:ZT P T zv][cp:PLT P T pl](ho:o.op = .build T ps)(hv:partsOf σ ps.toList=some vs)(hz:zv.cells=zero):
  WP P σ o (Bld zero (pl[·]?) vs kc) (fun t=>.agg t) kc:=fun w ⟨t,hb,h⟩=>⟨t,zTq ho cz.h cp.h hv (by rw[hz];exact hb),h⟩
theorem zbK{a:Addr}[cl:CT P T](ho:o.op = .load T x)(hx:ev σ x=some (.pointer (some a))):WR P σ o (Ld a c kx) c kx:=fun w ⟨t,hv,h⟩=>⟨t,zWh ho hx cl.h hv,h⟩
theorem zWy{n:Nat}{a:Addr}{kc:Array Value→K}[cl:AT P T n](ho:o.op = .load T x)(hx:ev σ x=some (.pointer (some a))):WR P σ o (LdN a n kc) (fun t=>.agg t) kc:=fun w ⟨t,hn,hv,h⟩=>⟨t,zTo ho hx cl.h hn hv,h⟩
theorem zG7{sem:Sem Value}(hs:∀v w w',sem.run P w = .ok v w'→Eff P σ o w (.value v) w'):WR P σ o (Rd P sem c kx) c kx:=fun w ⟨t,hd,h⟩=>⟨t,hs _ _ _ hd,h⟩
theorem zKU{sem:Sem Value}{c:α→β→Value}{kx:α→β→K}(hs:∀v w w',sem.run P w = .ok v w'→Eff P σ o w (.value v) w'):WR P σ o (Rd2 P sem c kx) (fun u=>u) (fun u=>jm c kx u):=fun w ⟨t,u,hd,h⟩=>⟨c t u,hs _ _ _ hd,t,u,rfl,h⟩
variable{S:World→Prop}
theorem zbL{a:Addr}[cl:CT P T](ho:o.op = .load T x)(hx:ev σ x=some (.pointer (some a))):WS P S σ o (LdS S a c kx) c kx:=fun w ⟨t,hv,h⟩=>⟨t,fun w hS=>zWh ho hx cl.h (hv w hS),h⟩
theorem zWz{n:Nat}{a:Addr}{kc:Array Value→K}[cl:AT P T n](ho:o.op = .load T x)(hx:ev σ x=some (.pointer (some a))):WS P S σ o (xJ S a n kc) (fun t=>.agg t) kc:=fun w ⟨t,hn,hv,h⟩=>⟨t,fun w hS=>zTo ho hx cl.h hn (hv w hS),h⟩
theorem zQd{sem:Sem Value}(hs:∀v w w',sem.run P w = .ok v w'→Eff P σ o w (.value v) w'):WS P S σ o (RdS P S sem c kx) c kx:=fun w ⟨t,hd,h⟩=>⟨t,fun w hS=>hs _ _ _ (hd w hS),h⟩
theorem zW0{sem:Sem Value}{c:α→β→Value}{kx:α→β→K}(hs:∀v w w',sem.run P w = .ok v w'→Eff P σ o w (.value v) w'):WS P S σ o (zDD P S sem c kx) (fun u=>u) (fun u=>jm c kx u):=fun w ⟨t,u,hd,h⟩=>⟨c t u,fun w hS=>hs _ _ _ (hd w hS),t,u,rfl,h⟩
theorem WR.is{w1:World}{v:α→Value}{k':α→K}(h:WR P σ o k v k'):∀w,Is w1 w→k w→∃x,(∀w,Is w1 w→Eff P σ o w (.value (v x)) w)∧k' x w:=fun w hw hk=>by
 have:=hw.out;subst this;obtain⟨x,h1,h2⟩:=h _ hk;exact⟨x,fun w' hw'=>by have:=hw'.out;subst this;exact h1,h2⟩
theorem zW1{cs:Array Value}{v:Value}(ho:o.op = .box T x)(hx:ev σ x=some v)(hc:v.cells=cs):WE P σ o (New T cs ka) (fun a=>.pointer (some a)) ka:=fun w ⟨a,w',ha,hw,h⟩=>⟨a,w',zdX ho hx hc ha hw,h⟩
theorem zQe{zv:Value}{cs:Array Value}[cz:ZT P T zv](ho:o.op = .alloc T)(hc:zv.cells=cs):WE P σ o (New T cs ka) (fun a=>.pointer (some a)) ka:=fun w ⟨a,w',ha,hw,h⟩=>⟨a,w',zZN ho cz.h hc ha hw,h⟩
def zW2(len esz:Nat)(zv:Value):Array Value:=(Array.range (len*esz)).map (fun i=>(if len*esz=0 then #[] else zv.cells)[i%(if len*esz=0 then #[] else zv.cells).size]!)
theorem zQf{E esz len:Nat}{zv:Value}{ps:Array (Nat×Operand)}{vs:List (Nat×Value)}{cs:Array Value}[cs':SLT P T E esz][cz:ZT P E zv](ho:o.op = .buildSlice T len ps)(hl:Nat.ble (len*esz) 16777216=true)(hv:partsOf σ ps.toList=some vs)(hf:zKT vs=true)
  (hc:Instr.fill (fun i=>some (i*esz,esz)) (zW2 len esz zv) vs=some cs):WE P σ o (New E cs ka) (fun a=>Sl.val ⟨some a,len,len⟩) ka :=
 fun w ⟨a,w',ha,hw,h⟩=>⟨a,w',zJb ho cs'.h cz.h (zgY hl) hv rfl hc ha hw,h⟩
theorem zLB{E esz len:Nat}{zv:Value}{z:Array Value}{ps:Array (Nat×Operand)}{vs:List (Nat×Value)}[cs':SLT P T E esz][cz:ZT P E zv](ho:o.op = .buildSlice T len ps)(hl:Nat.ble (len*esz) 16777216=true)(hv:partsOf σ ps.toList=some vs)
  (hz:zW2 len esz zv=z):WE P σ o (Bld z (fun i=>some (i*esz,esz)) vs fun c=>New E c ka) (fun a=>Sl.val ⟨some a,len,len⟩) ka :=
 fun w ⟨c,hb,a,w',ha,hw,h⟩=>⟨a,w',zJb ho cs'.h cz.h (zgY hl) hv hz hb ha hw,h⟩
theorem zQg{sem:Sem Value}(hs:∀v w w',sem.run P w = .ok v w'→Eff P σ o w (.value v) w'):WE P σ o (Do P sem c kx) c kx:=fun w ⟨t,w',hd,h⟩=>⟨t,w',hs _ _ _ hd,h⟩
theorem zbM{a:Addr}{v:Value}[cl:SZ P T 1](ho:o.op = .store T x y)(hx:ev σ x=some (.pointer (some a)))(hy:ev σ y=some v):WK P σ o (St a v k) k:=fun w ⟨w',hw,hc,hf,hv,h⟩=>⟨w',zZM ho hx hy cl.h hw hc hf hv,h⟩
theorem zW3{n:Nat}{a:Addr}{cs:Array Value}[cl:SZ P T n](ho:o.op = .store T x y)(hx:ev σ x=some (.pointer (some a)))(hy:ev σ y=some (.agg cs)):WK P σ o (StN a n cs k) k:=fun w ⟨w',hw,hn,hc,hv,h⟩=>⟨w',zWi ho hx hy cl.h hw hn hc hv,h⟩
theorem zQh{sem:Sem Unit}(hs:∀u w w',sem.run P w = .ok u w'→Eff P σ o w .skip w'):WK P σ o (DoU P sem k) k:=fun w ⟨u,w',hd,h⟩=>⟨w',hs _ _ _ hd,h⟩
theorem zT1{f:FuncId}{xs:Array Operand}{ts:Array TypeId}{vs:List Value}{args:Array Value}{kk:Value→K}[cb:CB P f](ho:o.op = .call { callee:=.value x,args:=xs,argTypes:=ts })(hx:ev σ x=some (.func (.func f) #[] #[]))(hv:evs σ xs.toList=some vs)(ha:vs.toArray=args):
  WC P σ o (zI P f args kk) kk:=fun w h=>⟨f,args,w,ha▸zbn ho hx hv cb.h,h⟩
theorem zQi{f:FuncId}{first cap:Array Value}{xs:Array Operand}{ts:Array TypeId}{vs:List Value}{args:Array Value}{kk:Value→K}[cb:CB P f](ho:o.op = .call { callee:=.value x,args:=xs,argTypes:=ts })(hx:ev σ x=some (.func (.func f) first cap))(hv:evs σ xs.toList=some vs)
  (ha:first++vs.toArray++cap=args):WC P σ o (zI P f args kk) kk:=fun w h=>⟨f,args,w,ha▸zTr ho hx hv cb.h,h⟩
theorem zbN{fv:Value}{xs:Array Operand}{ts:Array TypeId}{vs:List Value}{kk:Value→K}(ho:o.op = .call { callee:=.value x,args:=xs,argTypes:=ts })(hx:ev σ x=some fv)(hv:evs σ xs.toList=some vs):WC P σ o (vZ P fv vs kk) kk :=
 fun w ⟨g,fs,cs,hg,hcb,h⟩=>⟨g,_,w,zTr ho (hx.trans (congrArg some hg)) hv hcb,h⟩
theorem zde{fv:Value}{xs:Array Operand}{ts:Array TypeId}{vs:List Value}{kk:Value→K}(ho:o.op = .call { callee:=.value x,args:=xs,argTypes:=ts })(hx:ev σ x=some fv)(hv:evs σ xs.toList=some vs):WY P σ o (zAe P fv vs kk) kk :=
 fun w ⟨l,hg,h⟩=>⟨l,_,zZU ho (hx.trans (congrArg some hg)) hv,h⟩
theorem zW4 {P : Program} {f : Nat} {fn : Func} {e : Array Value → Sem Value} (hf : P.funcs[f]? = some fn) (hn : (fn.name == "runtime.NumGoroutine") = false) (hb : fn.body.isNone = true) (h1 : Extern.findNext fn = none) (h2 : Extern.find fn = some e) : EXT P f e := ⟨fun args w v w' h => by rw [run_callFunc_extern hf hn hb h1 h2, h]; rfl⟩
theorem zbr{f:FuncId}{e:Array Value→Sem Value}{xs:Array Operand}{ts:Array TypeId}{vs:List Value}[c:EXT P f e](ho:o.op = .call { callee:=.value x,args:=xs,argTypes:=ts })(hx:ev σ x=some (.func (.func f) #[] #[]))(hv:evs σ xs.toList=some vs):∀v w w',(e vs.toArray).run P w = .ok v w'→Eff P σ o w (.value v) w':=fun v w w' h a _ hs=>by
 have h1:xs.map a.eval=vs.toArray:=by apply zhw;simpa using zFq hs hv
 simp[execOp,ho,resolve,hs.ev hx,h1,Deferred.ofValue,invoke,c.h _ _ _ _ h]
theorem zAH{ok:Bool}{vx vy:Value}(ho:o.op = .lookup T x y ok)(hx:ev σ x=some vx)(hy:ev σ y=some vy):∀v w w',(Instr.lookup T vx vy ok).run P w = .ok v w'→Eff P σ o w (.value v) w':=fun _ _ _ h=>zWk ho hx hy h
theorem zD8{vx:Value}(ho:o.op = .convert T U x)(hx:ev σ x=some vx):∀v w w',(convert T U vx).run P w = .ok v w'→Eff P σ o w (.value v) w':=fun _ _ _ h=>zVC ho hx h
theorem zPE{vx:Value}(ho:o.op = .makeInterface T x)(hx:ev σ x=some vx):∀v w w',(Instr.makeInterface T vx).run P w = .ok v w'→Eff P σ o w (.value v) w':=fun _ _ _ h=>zLU ho hx h
theorem zPF{t:TypeId}{ts:Array TypeId}{vx:Value}(ho:o.op = .call { callee:=.builtin .len,args:=#[x],argTypes:=ts })(ht:o.type=t)(hx:ev σ x=some vx):∀v w w',(Builtin.len_ ts t #[vx]).run P w = .ok v w'→Eff P σ o w (.value v) w':=fun _ _ _ h=>zdZ ho ht hx h
theorem zW5{t:TypeId}{ts:Array TypeId}{vx:Value}(ho:o.op = .call { callee:=.builtin .cap,args:=#[x],argTypes:=ts })(ht:o.type=t)(hx:ev σ x=some vx):∀v w w',(Builtin.cap_ ts t #[vx]).run P w = .ok v w'→Eff P σ o w (.value v) w':=fun _ _ _ h=>zda ho ht hx h
theorem zQj{t:TypeId}{ts:Array TypeId}{vx:Value}(ho:o.op = .call { callee:=.builtin .clear,args:=#[x],argTypes:=ts })(ht:o.type=t)(hx:ev σ x=some vx):∀v w w',(Builtin.clear_ ts t #[vx]).run P w = .ok v w'→Eff P σ o w (.value v) w':=fun _ _ _ h=>zZR ho ht hx h
theorem zOC{t:TypeId}{ts:Array TypeId}{vx vy:Value}(ho:o.op = .call { callee:=.builtin .append,args:=#[x,y],argTypes:=ts })(ht:o.type=t)(hx:ev σ x=some vx)(hy:ev σ y=some vy):∀v w w',(Builtin.append_ ts t #[vx,vy]).run P w = .ok v w'→Eff P σ o w (.value v) w':=fun _ _ _ h=>zWl ho ht hx hy h
theorem zT2{t:TypeId}{ts:Array TypeId}{vx vy:Value}(ho:o.op = .call { callee:=.builtin .copy,args:=#[x,y],argTypes:=ts })(ht:o.type=t)(hx:ev σ x=some vx)(hy:ev σ y=some vy):∀v w w',(Builtin.copy_ ts t #[vx,vy]).run P w = .ok v w'→Eff P σ o w (.value v) w':=fun _ _ _ h=>zbm ho ht hx hy h
theorem zOD{t:TypeId}{ts:Array TypeId}{vx vy:Value}(ho:o.op = .call { callee:=.builtin .delete,args:=#[x,y],argTypes:=ts })(ht:o.type=t)(hx:ev σ x=some vx)(hy:ev σ y=some vy):∀v w w',(Builtin.delete_ ts t #[vx,vy]).run P w = .ok v w'→Eff P σ o w (.value v) w':=fun _ _ _ h=>zWm ho ht hx hy h
theorem zMK(ho:o.op = .makeMap T none):∀v w w',(Instr.makeMap T none).run P w = .ok v w'→Eff P σ o w (.value v) w':=fun _ _ _ h=>zVD ho h
theorem zJe{vx vy:Value}(ho:o.op = .makeSlice T x y)(hx:ev σ x=some vx)(hy:ev σ y=some vy):∀v w w',(Instr.makeSlice T vx vy).run P w = .ok v w'→Eff P σ o w (.value v) w':=fun _ _ _ h=>zQV ho hx hy h
theorem zQk{vx:Value}(ho:o.op = .range T x)(hx:ev σ x=some vx):∀v w w',(Instr.range T vx).run P w = .ok v w'→Eff P σ o w (.value v) w':=fun _ _ _ h=>zZP ho hx h
theorem zT3{t:TypeId}{s:Bool}{vx:Value}(ho:o.op = .next x s)(ht:o.type=t)(hx:ev σ x=some vx):∀v w w',(Instr.next vx s t).run P w = .ok v w'→Eff P σ o w (.value v) w':=fun _ _ _ h=>zbl ho ht hx h
theorem zQl{vx:Value}(ho:o.op = .entry x)(hx:ev σ x=some vx):∀v w w',(Instr.entry vx).run P w = .ok v w'→Eff P σ o w (.value v) w':=fun _ _ _ h=>zZQ ho hx h
theorem zQm{op:BinOp}{vx vy:Value}(ho:o.op = .binOp op T x y U)(hx:ev σ x=some vx)(hy:ev σ y=some vy):∀v w w',(do eqGuard op T x y vx vy;binOp op T vx vy:Sem Value).run P w = .ok v w'→Eff P σ o w (.value v) w':=fun _ _ _ h=>zZO ho hx hy h
theorem zOE{ps:Array (Nat×Operand)}{vs:List (Nat×Value)}(ho:o.op = .build T ps)(hv:partsOf σ ps.toList=some vs):∀v w w',(Instr.build T vs.toArray).run P w = .ok v w'→Eff P σ o w (.value v) w':=fun _ _ _ h=>zWj ho hv h
theorem zJf{vx vy vz:Value}(ho:o.op = .mapUpdate T x y z)(hx:ev σ x=some vx)(hy:ev σ y=some vy)(hz:ev σ z=some vz):∀u w w',(Instr.mapUpdate T vx vy vz).run P w = .ok u w'→Eff P σ o w .skip w':=fun _ _ _ h=>zQU ho hx hy hz h
end
variable{α:Type}{k:K}{vx:α→Value}{k':α→K}
theorem zLp(h:WP P σ o k vx k':=by
  first
  | exact zQc (by first|exact zax rfl rfl rfl|exact zay rfl rfl rfl|exact zMJ rfl rfl|exact zaz rfl rfl rfl|exact za2 rfl rfl rfl|exact zdR rfl rfl rfl|exact za3 rfl rfl rfl|exact za6 rfl rfl|exact za7 rfl rfl|exact za8 _ rfl rfl rfl|exact za9 _ rfl rfl rfl)
  | exact zWr rfl rfl rfl|exact zWs rfl rfl|exact zWt rfl rfl (by first|exact rfl|exact⟨_,rfl⟩) (by first|exact rfl|exact⟨_,rfl⟩) (by first|exact rfl|exact⟨_,rfl⟩) rfl|exact zTz rfl rfl rfl|exact zTy rfl rfl rfl
  | exact zTx (fun h0=>by first|exact za4 rfl rfl rfl h0|exact za5 rfl rfl rfl h0|exact za0 rfl rfl rfl h0|exact za1 rfl rfl rfl h0)
  | exact zT0 rfl rfl (by first|exact rfl|exact⟨_,rfl⟩) (by first|exact rfl|exact⟨_,rfl⟩)|exact zWu rfl rfl rfl|exact zWx rfl rfl rfl
  | exact zWv (by first|exact zQm rfl rfl rfl|exact zOE rfl rfl)|exact zWw rfl rfl):WP P σ o k vx k':=h
theorem zH0(h:WR P σ o k vx k':=by
  first
  | exact zbK rfl rfl|exact zWy rfl rfl
  | exact zG7 (by first|exact zAH rfl rfl rfl|exact zD8 rfl rfl|exact zPF rfl rfl rfl|exact zPE rfl rfl)
  | exact zKU (zAH rfl rfl rfl)):WR P σ o k vx k':=h
theorem zZX{S:World→Prop}(h:WS P S σ o k vx k':=by
  first
  | exact zbL rfl rfl|exact zWz rfl rfl
  | exact zQd (by first|exact zAH rfl rfl rfl|exact zD8 rfl rfl|exact zPF rfl rfl rfl|exact zPE rfl rfl)
  | exact zW0 (zAH rfl rfl rfl)):WS P S σ o k vx k':=h
theorem zH1(h:WE P σ o k vx k':=by
  first
  | exact zW1 rfl rfl rfl|exact zQe rfl rfl|exact zQf rfl rfl rfl rfl (by kernel_rfl)|exact zLB rfl rfl rfl (by kernel_rfl)
  | exact zQg (by first|exact zOC rfl rfl rfl rfl|exact zD8 rfl rfl|exact zT3 rfl rfl rfl|exact zQk rfl rfl|exact zQl rfl rfl|exact zMK rfl|exact zJe rfl rfl rfl|exact zT2 rfl rfl rfl rfl|exact zOD rfl rfl rfl rfl|exact zW5 rfl rfl rfl|exact zQj rfl rfl rfl)):WE P σ o k vx k':=h
theorem zPG{k k':K}(h:WK P σ o k k':=by
  first
  | exact zbM rfl rfl rfl|exact zW3 rfl rfl rfl|exact zQh (zJf rfl rfl rfl rfl)):WK P σ o k k':=h
theorem zJg{k:K}{kk:Value→K}(h:WC P σ o k kk:=by
  first
  | exact zT1 rfl rfl rfl rfl|exact zQi rfl rfl rfl rfl|exact zbN rfl rfl rfl):WC P σ o k kk:=h
end
end
section
open Go
def G(dl:List Deferred)(n:Nat)(σ:List (Nat×Value))(k:K)(X:Act→World→Prop):Prop:=∀a w,zAN dl a n σ→k w→X a w
abbrev fe:Option Nat→Fence
 | none=>Fence.wide
 | some l=>Fence.wide.inRound l
def Cx(r:Option Nat)(P:Program)(c:Code)(Q:Exit→Act→World→Prop):Act→World→Prop:=fun a w=>c.wpIn (fe r) 0 P Q a w
def Tx(r:Option Nat)(P:Program)(ops:Array Oper)(Q:Exit→Act→World→Prop)(l:List Oper):Act→World→Prop:=fun a w=>wpListIn (fe r) 0 P ops Q l a w
def Ex(Q:Exit→Act→World→Prop)(e:Exit):Act→World→Prop:=fun a w=>Q e a w
def zBj:Op→Bool
 | .defer _=>true
 | _=>false
theorem zJh{o:Oper}(h:zBj o.op=false):∀c,o.op ≠ .defer c:=fun c hc=>by rw[hc] at h;cases h
theorem zH2:∀r,Free (fe r)
 | none=>zHz
 | some l=>zHz.round l
theorem zW6:∀r,(fe r).alive=false
 | none=>rfl
 | some _=>rfl
theorem zW7:∀r,(fe r).depth=none
 | none=>rfl
 | some _=>rfl
section
variable{P:Program}{dl:List Deferred}{n:Nat}{σ τ:List (Nat×Value)}{k:K}{X:Act→World→Prop}{r:Option Nat}{ops:Array Oper}{Q:Exit→Act→World→Prop}{l:List Oper}{o:Oper}{a:Act}{w w':World}{v:Value}
theorem zCy{K1:Act→World→Prop}(hs:zAN dl a n σ)(nd:zBj o.op=false)(hp:Eff P σ o w (.value v) w')(h:K1 (a.put o.dst v) w'):o.wpIn (fe r) 0 P a w K1 Q:=by
 refine⟨fun f _=>(zH2 r).fn f,?_⟩;rw[Oper.semAt_eq _ _ _ (zJh nd)];have h1:(execOp a.eval o).run P w = .ok (.value v) w':=hp { a with defers:=[] } n hs.1;rw[h1,Oper.uponIn_value];exact h
theorem zPH{K1:Act→World→Prop}(hs:zAN dl a n σ)(nd:zBj o.op=false)(hp:Eff P σ o w .skip w')(h:K1 (a.put o.dst undef) w'):o.wpIn (fe r) 0 P a w K1 Q:=by
 refine⟨fun f _=>(zH2 r).fn f,?_⟩;rw[Oper.semAt_eq _ _ _ (zJh nd)];have h1:(execOp a.eval o).run P w = .ok .skip w':=hp { a with defers:=[] } n hs.1;rw[h1,Oper.uponIn_skip];exact h
theorem zJi{K1:Act→World→Prop}{f:FuncId}{args:Array Value}{kk:Value→K}(hs:zAN dl a n σ)(nd:zBj o.op=false)(hp:Eff P σ o w (.enter f args) w')(hc:Calls P f args w' (Ret kk))
  (h:∀v w,kk v w→K1 (a.put o.dst v) w):o.wpIn (fe r) 0 P a w K1 Q:=by
 refine⟨fun f _=>(zH2 r).fn f,?_⟩;rw[Oper.semAt_eq _ _ _ (zJh nd)];have h1:(execOp a.eval o).run P w = .ok (.enter f args) w':=hp { a with defers:=[] } n hs.1;rw[h1,Oper.uponIn_enter];refine⟨(fun h=>by rw[zW7 r] at h;cases h),zGD (zH2 r) (zW6 r) (hc.mono fun e w'' he=>?_)⟩;cases e with
 | returned v=>exact h v _ he
 | panicked c=>exact he.elim
 | outgrown=>exact he.elim
theorem zQn{K1:Act→World→Prop}{y:Nat}{args:Array Value}{kk:Value→K}(hs:zAN dl a n σ)(nd:zBj o.op=false)(hp:∀(x:Next),(Instr.yield y args).run P w = .ok x w→Eff P σ o w x w)(hc:YieldAt Fence.wide 0 P y args w (Ret kk))
  (h:∀v w,kk v w→K1 (a.put o.dst v) w):o.wpIn Fence.wide 0 P a w K1 Q:=by
 obtain⟨fn,tmps,as1,bd,hy,hr⟩:=hc;refine⟨fun f _=>trivial,?_⟩;rw[Oper.semAt_eq _ _ _ (zJh nd)];have h1:(execOp a.eval o).run P w = .ok (.round y fn tmps as1 bd) w:=hp _ hy { a with defers:=[] } n hs.1;rw[h1,Oper.uponIn_round];refine⟨(fun h=>by cases h),zPA (hr.mono fun e w'' he=>?_)⟩;cases e with
 | returned v=>exact h v _ he
 | panicked c=>exact he.elim
 | outgrown=>exact he.elim
theorem zLC(hs:zAN dl a n σ)(hw:wants ops σ o=some true)(h:o.wpIn (fe r) 0 P a w (wpListIn (fe r) 0 P ops Q l) Q):wpListIn (fe r) 0 P ops Q (o::l) a w:=by
 unfold wpListIn;rw[if_pos (jX hs.1 hw)];exact h
theorem zLV{d:Nat}(h:G dl n ((d,v)::σ) k (Tx r P ops Q l))(hd:o.dst=some d:=by rfl)(hw:wants ops σ o=some true:=by rfl)(hp:Pure P σ o v:=by exact zPD)(hn:Nat.ble (d+1) n=true:=by rfl)(nd:zBj o.op=false:=by rfl):
  G dl n σ k (Tx r P ops Q (o::l)):=fun a w hs hk=>zLC hs hw (zCy hs nd (hp.eff w) (by rw[hd];exact h _ w (hs.put (zgY hn) v) hk))
theorem zdf{d:Nat}(h:G dl n ((d,undef)::σ) k (Tx r P ops Q l))(hd:o.dst=some d:=by rfl)(hw:wants ops σ o=some false:=by rfl)(hn:Nat.ble (d+1) n=true:=by rfl):G dl n σ k (Tx r P ops Q (o::l)):=fun a w hs hk=>by
 show wpListIn (fe r) 0 P ops Q (o::l) a w;unfold wpListIn;rw[if_neg (by rw[jX hs.1 hw];simp),hd];exact⟨fun f _=>(zH2 r).fn f,h _ w (hs.put (zgY hn) _) hk⟩
theorem zbs(h:G dl n σ k (Tx r P ops Q l))(hd:o.dst=none:=by rfl)(hw:wants ops σ o=some false:=by rfl):G dl n σ k (Tx r P ops Q (o::l)):=fun a w hs hk=>by
 show wpListIn (fe r) 0 P ops Q (o::l) a w;unfold wpListIn;rw[if_neg (by rw[jX hs.1 hw];simp),hd];exact⟨fun f _=>(zH2 r).fn f,h _ w hs hk⟩
section
variable{α:Type}{vx:α→Value}{k':α→K}
theorem WP.wr{σ:List (Nat×Value)}(h:WP P σ o k vx k'):WR P σ o k vx k':=fun w hk=>by obtain⟨x,hp,h⟩:=h w hk;exact⟨x,hp.eff w,h⟩
theorem WR.we{σ:List (Nat×Value)}(h:WR P σ o k vx k'):WE P σ o k vx k':=fun w hk=>by obtain⟨x,hp,h⟩:=h w hk;exact⟨x,w,hp,h⟩
theorem zW8{d:Nat}(he:WE P σ o k vx k')(h:∀x,G dl n ((d,vx x)::σ) (k' x) (Tx r P ops Q l))(hd:o.dst=some d)(hw:wants ops σ o=some true)(hn:Nat.ble (d+1) n=true)(nd:zBj o.op=false):G dl n σ k (Tx r P ops Q (o::l)):=fun a w hs hk=>by
 obtain⟨x,w',hp,h'⟩:=he w hk;exact zLC hs hw (zCy hs nd hp (by rw[hd];exact h x _ w' (hs.put (zgY hn) _) h'))
theorem zG8{d:Nat}(h:∀x,G dl n ((d,vx x)::σ) (k' x) (Tx r P ops Q l))(hd:o.dst=some d:=by rfl)(hw:wants ops σ o=some true:=by rfl)(hp:WP P σ o k vx k':=by exact zLp)(hn:Nat.ble (d+1) n=true:=by rfl)(nd:zBj o.op=false:=by rfl):G dl n σ k (Tx r P ops Q (o::l)):=zW8 hp.wr.we h hd hw hn nd
theorem zLD{d:Nat}(h:∀x,G dl n ((d,vx x)::σ) (k' x) (Tx r P ops Q l))(hd:o.dst=some d:=by rfl)(hw:wants ops σ o=some true:=by rfl)(hp:WR P σ o k vx k':=by exact zH0)(hn:Nat.ble (d+1) n=true:=by rfl)(nd:zBj o.op=false:=by rfl):G dl n σ k (Tx r P ops Q (o::l)):=zW8 hp.we h hd hw hn nd
theorem zML{d:Nat}(h:∀x,G dl n ((d,vx x)::σ) (k' x) (Tx r P ops Q l))(hd:o.dst=some d:=by rfl)(hw:wants ops σ o=some true:=by rfl)(hp:WE P σ o k vx k':=by exact zH1)(hn:Nat.ble (d+1) n=true:=by rfl)(nd:zBj o.op=false:=by rfl):G dl n σ k (Tx r P ops Q (o::l)):=zW8 hp h hd hw hn nd
theorem zbt(h:∀x,G dl n σ (k' x) (Tx r P ops Q l))(hd:o.dst=none:=by rfl)(hw:wants ops σ o=some true:=by rfl)(hp:WE P σ o k vx k':=by exact zH1)(nd:zBj o.op=false:=by rfl):G dl n σ k (Tx r P ops Q (o::l)):=fun a w hs hk=>by
 obtain⟨x,w',hp,h'⟩:=hp w hk;exact zLC hs hw (zCy hs nd hp (by rw[hd];exact h x _ w' hs h'))
end
theorem zW9{k':K}(h:G dl n σ k' (Tx r P ops Q l))(hd:o.dst=none:=by rfl)(hw:wants ops σ o=some true:=by rfl)(hp:WK P σ o k k':=by exact zPG)(nd:zBj o.op=false:=by rfl):G dl n σ k (Tx r P ops Q (o::l)):=fun a w hs hk=>by
 obtain⟨w',hp,h'⟩:=hp w hk;exact zLC hs hw (zPH hs nd hp (by rw[hd];exact h _ w' hs h'))
theorem zdg{d:Nat}{kk:Value→K}(h:∀u,G dl n ((d,u)::σ) (kk u) (Tx r P ops Q l))(hd:o.dst=some d:=by rfl)(hw:wants ops σ o=some true:=by rfl)(hp:WC P σ o k kk:=by exact zJg)(hn:Nat.ble (d+1) n=true:=by rfl)(nd:zBj o.op=false:=by rfl):G dl n σ k (Tx r P ops Q (o::l)):=fun a w hs hk=>by
 obtain⟨f,args,w',hp,hc⟩:=hp w hk;exact zLC hs hw (zJi hs nd hp hc fun v w h'=>by rw[hd];exact h v _ w (hs.put (zgY hn) _) h')
theorem zbu{kk:Value→K}(h:∀u,G dl n σ (kk u) (Tx r P ops Q l))(hd:o.dst=none:=by rfl)(hw:wants ops σ o=some true:=by rfl)(hp:WC P σ o k kk:=by exact zJg)(nd:zBj o.op=false:=by rfl):G dl n σ k (Tx r P ops Q (o::l)):=fun a w hs hk=>by
 obtain⟨f,args,w',hp,hc⟩:=hp w hk;exact zLC hs hw (zJi hs nd hp hc fun v w h'=>by rw[hd];exact h v _ w hs h')
theorem zdh{d:Nat}{kk:Value→K}(h:∀u,G dl n ((d,u)::σ) (kk u) (Tx none P ops Q l))(hd:o.dst=some d:=by rfl)(hw:wants ops σ o=some true:=by rfl)(hp:WY P σ o k kk:=by exact zde rfl rfl rfl)(hn:Nat.ble (d+1) n=true:=by rfl)(nd:zBj o.op=false:=by rfl):G dl n σ k (Tx none P ops Q (o::l)):=fun a w hs hk=>by
 obtain⟨y,args,hp,hc⟩:=hp w hk;exact zLC (r:=none) hs hw (zQn hs nd hp hc fun v w h'=>by rw[hd];exact h v _ w (hs.put (zgY hn) _) h')
theorem zbv(h:G dl n σ k (Ex Q .normal)):G dl n σ k (Tx r P ops Q []):=fun a w hs hk=>h a w hs hk
section
variable{α β γ δ ε:Type}{d:Nat}{u:Value}
theorem zZY{v0:Value}(h:G dl n ((d,v0)::σ) k X):G dl n ((d,u)::σ) (uZ v0 k u) X:=fun a w hs ⟨hu,hk⟩=>h a w (hu▸hs) hk
theorem zZZ{c:α→Value}{k:α→K}(h:∀x,G dl n ((d,c x)::σ) (k x) X):G dl n ((d,u)::σ) (yH c k u) X:=fun a w hs ⟨x,hu,hk⟩=>h x a w (hu▸hs) hk
theorem zPI{c:α→β→Value}{k:α→β→K}(h:∀x y,G dl n ((d,c x y)::σ) (k x y) X):G dl n ((d,u)::σ) (jm c k u) X:=fun a w hs ⟨x,y,hu,hk⟩=>h x y a w (hu▸hs) hk
theorem zZa{c:α→β→γ→Value}{k:α→β→γ→K}(h:∀x y z,G dl n ((d,c x y z)::σ) (k x y z) X):G dl n ((d,u)::σ) (zCj c k u) X:=fun a w hs ⟨x,y,z,hu,hk⟩=>h x y z a w (hu▸hs) hk
theorem zZb{c:α→β→γ→δ→Value}{k:α→β→γ→δ→K}(h:∀x y z t,G dl n ((d,c x y z t)::σ) (k x y z t) X):G dl n ((d,u)::σ) (zCt c k u) X:=fun a w hs ⟨x,y,z,t,hu,hk⟩=>h x y z t a w (hu▸hs) hk
theorem zZc{c:α→β→γ→δ→ε→Value}{k:α→β→γ→δ→ε→K}(h:∀x y z t s,G dl n ((d,c x y z t s)::σ) (k x y z t s) X):G dl n ((d,u)::σ) (zCx c k u) X:=fun a w hs ⟨x,y,z,t,s,hu,hk⟩=>h x y z t s a w (hu▸hs) hk
theorem zbw{v0:Value}(h:G dl n σ k X):G dl n σ (uZ v0 k u) X:=fun a w hs ⟨_,hk⟩=>h a w hs hk
theorem zdi{c:α→Value}{k:α→K}(h:∀x,G dl n σ (k x) X):G dl n σ (yH c k u) X:=fun a w hs ⟨x,_,hk⟩=>h x a w hs hk
theorem zdj{c:α→β→Value}{k:α→β→K}(h:∀x y,G dl n σ (k x y) X):G dl n σ (jm c k u) X:=fun a w hs ⟨x,y,_,hk⟩=>h x y a w hs hk
end
def gslot(ops:Array Oper)(σ:List (Nat×Value))(o:Oper):Option Value:=match o.guard with
 | none=>none
 | some (j,_)=>match (ops[j]?).bind (·.dst) with
  | none=>none
  | some t=>look σ t
theorem zbx{b:Bool}{x y:K}(h1:b=true→G dl n σ x (Tx r P ops Q (o::l)))(h2:b=false→G dl n σ y (Tx r P ops Q (o::l)))(hg:gslot ops σ o=some (.bool b):=by rfl):G dl n σ (Ite b x y) (Tx r P ops Q (o::l)):=fun a w hs hk=>by
 cases b
 ·exact h2 rfl a w hs (hk.2 rfl)
 ·exact h1 rfl a w hs (hk.1 rfl)
theorem zLq(h:∀a w,zAN dl a n σ→k w→X a w):G dl n σ k X:=h
theorem zXA{p:Option Addr}{kp:Addr→K}(h:∀a,p=some a→G dl n σ (kp a) X):G dl n σ (Nn p kp) X:=fun a w hs ⟨b,hb,hk⟩=>h b hb a w hs hk
theorem zXB{f:Value}{kf:FuncId→Array Value→Array Value→K}(h:∀g fs cs,f = .func (.func g) fs cs→CB P g→G dl n σ (kf g fs cs) X):G dl n σ (Fv P f kf) X:=fun a w hs ⟨g,fs,cs,hf,hc,hk⟩=>h g fs cs hf ⟨hc⟩ a w hs hk
theorem zZd:G dl n σ Dead X:=fun _ _ _ hk=>hk.elim
def Gp(dl:List Deferred)(n:Nat)(X:Act→World→Prop)(τ:List (Nat×Value))(k:K):Prop:=G dl n τ k X
theorem zdk(h:G dl n σ k X):Gp dl n X σ k:=h
theorem zJj(h:Sub σ τ:=by repeat (first|exact trivial|refine⟨rfl,?_⟩)):Sub σ τ:=h
theorem zZe(h:Gp dl n X τ k:=by apply_assumption)(hs:Sub σ τ:=by exact zJj):G dl n σ k X:=fun a w hs' hk=>h a w (hs'.to hs) hk
theorem zPJ(h:G dl n σ k X):∀a w,zAN dl a n σ→k w→X a w:=h
def zG9(a b:Nat):Nat:=match Nat.beq a 1000000 with
 | true=>b
 | false=>a
def zCz:Code→Nat
 | .region id _ _=>id
 | .seq x y=>zG9 (zCz x) (zCz y)
 | .cond _ x y=>zG9 (zCz x) (zCz y)
 | .block _ c=>zCz c
 | .loop c=>zCz c
 | .scope c=>zCz c
 | .rangeFunc _ _ a _=>zCz a
 | _=>1000000
def zEr:Code→Nat
 | .region id _ _=>id
 | .seq x y=>zG9 (zEr y) (zEr x)
 | .cond _ x y=>zG9 (zEr y) (zEr x)
 | .block _ c=>zEr c
 | .loop c=>zEr c
 | .scope c=>zEr c
 | .rangeFunc _ _ _ b=>zEr b
 | _=>1000000
def zby(x y:Code):Nat:=zG9 (zCz y) (1000000+zEr x)
structure JH(id:Nat)(H:(List (Nat×Value)→((List (Nat×Value)→K→Prop)→Prop)→Prop)→Prop):Prop where
 h:∀D,H D→∃pre C,D pre C
structure LH(id:Nat){α:Type}(S:α→List (Nat×Value))(body:(α→K)→α→K):Prop
structure XH(id:Nat){α:Type}(X:α→K):Prop
variable{x y c:Code}{id:Nat}
theorem zbz(h:G dl n σ k (Cx r P x (Exit.then (Cx r P y Q) Q))):G dl n σ k (Cx r P (.seq x y) Q):=fun a w hs hk=>wpIn_seq (h a w hs hk)
def Jp(dl:List Deferred)(n:Nat)(σ:List (Nat×Value))(k:K)(r:Option Nat)(P:Program)(x y:Code)(Q:Exit→Act→World→Prop)(pre:List (Nat×Value))(C:(List (Nat×Value)→K→Prop)→Prop):Prop :=
 Sub σ pre∧C (Gp dl n (Cx r P y Q))∧∀Kc,C (Gp dl n Kc)→G dl n σ k (Cx r P x (Exit.then Kc Q))
theorem ze5{α:Sort _}{p:α→Prop}{x:α}(h:p x):∃x,p x:=⟨x,h⟩
theorem zZf{H:(List (Nat×Value)→((List (Nat×Value)→K→Prop)→Prop)→Prop)→Prop}(h:H (Jp dl n σ k r P x y Q))(hi:zby x y=id:=by rfl)(hh:JH id H:=by first|assumption|(apply_assumption <;> assumption)):G dl n σ k (Cx r P (.seq x y) Q):=fun a w hs hk=>by
 obtain⟨pre,C,_,h1,h2⟩:=hh.h _ h;exact wpIn_seq (h2 _ h1 a w hs hk)
theorem zZg(h:G dl n σ k (Ex Q .normal)):G dl n σ k (Cx r P .skip Q):=fun a w hs hk=>wpIn_skip (h a w hs hk)
theorem zXC{i:Nat}(h:G dl n σ k (Ex Q .normal)):G dl n σ k (Cx r P (.label i) Q):=fun a w hs hk=>wpIn_label (h a w hs hk)
theorem zZh{i:Nat}(h:G dl n σ k (Ex Q (.exit i))):G dl n σ k (Cx r P (.exit i) Q):=fun a w hs hk=>wpIn_exit (h a w hs hk)
theorem zb0(h:G dl n σ k (Ex Q .ret)):G dl n σ k (Cx r P .ret Q):=fun a w hs hk=>wpIn_ret (h a w hs hk)
theorem zXD{i:Nat}(h:G dl n σ k (Cx r P c (Exit.inBlock i Q))):G dl n σ k (Cx r P (.block i c) Q):=fun a w hs hk=>wpIn_block (h a w hs hk)
theorem zZi{e:Operand}{b:Bool}{kx ky:K}(h1:G dl n σ kx (Cx r P x Q))(h2:G dl n σ ky (Cx r P y Q))(he:ev σ e=some (.bool b):=by rfl):G dl n σ (Ite b kx ky) (Cx r P (.cond e x y) Q):=fun a w hs hk=>
 wpIn_cond_split (hs.1.ev he) (fun hb=>h1 a w hs (hk.1 hb)) (fun hb=>h2 a w hs (hk.2 hb))
theorem zVG{e:Operand}(h:G dl n σ k (Cx r P x Q))(he:ev σ e=some (.bool true):=by rfl):G dl n σ k (Cx r P (.cond e x y) Q):=fun a w hs hk=>wpIn_cond_true (hs.1.ev he) (h a w hs hk)
theorem zVH{e:Operand}(h:G dl n σ k (Cx r P y Q))(he:ev σ e=some (.bool false):=by rfl):G dl n σ k (Cx r P (.cond e x y) Q):=fun a w hs hk=>wpIn_cond_false (hs.1.ev he) (h a w hs hk)
theorem zb1{i:Nat}(h:G dl n σ k (Tx r P l.toArray Q l)):G dl n σ k (Cx r P (.region i l.toArray false) Q):=fun a w hs hk=>wpIn_region_lit (h a w hs hk)
def Lx(dl:List Deferred)(n:Nat){α:Type}(S:α→List (Nat×Value))(X:α→K):Act→World→Prop:=fun a w=>∃x,zAN dl a n (S x)∧X x w
theorem zZj{α:Type}{body:(α→K)→α→K}{x0:α}{S:α→List (Nat×Value)}(h:∀X:α→K,XH id X→∀x,G dl n (S x) (body X x) (Cx r P c (Exit.then (Lx dl n S X) Q)))(hi:zCz c=id:=by rfl)(hh:LH id S body:=by first|assumption|(apply_assumption <;> assumption))(h0:Sub σ (S x0):=by exact zJj):
  G dl n σ (zq body x0) (Cx r P (.loop c) Q):=fun a w hs ⟨I,μ,hI,hr⟩=>by
 refine zZT I μ (fun x a=>zAN dl a n (S x)) x0 hI (hs.to h0) fun x a w hI hG=>?_;refine wpIn_mono (h _ ⟨⟩ x a w hG (hr x w hI)) fun e a w hq=>?_;cases e with
 | normal=>exact hq
 | _=>exact hq
theorem zb2{α:Type}{S:α→List (Nat×Value)}{X:α→K}{x:α}(hk:k=X x:=by rfl)(h0:Sub σ (S x):=by exact zJj):G dl n σ k (Lx dl n S X):=fun a w hs h=>⟨x,hs.to h0,hk▸h⟩
theorem zZk{Kc:Act→World→Prop}(h:G dl n σ k Kc):G dl n σ k (Ex (Exit.then Kc Q) .normal):=h
theorem zVI{Kc:Act→World→Prop}{i:Nat}(h:G dl n σ k (Ex Q (.exit i))):G dl n σ k (Ex (Exit.then Kc Q) (.exit i)):=h
theorem zVJ{Kc:Act→World→Prop}(h:G dl n σ k (Ex Q .ret)):G dl n σ k (Ex (Exit.then Kc Q) .ret):=h
theorem zb3{i:Nat}(h:G dl n σ k (Ex Q .normal)):G dl n σ k (Ex (Exit.inBlock i Q) .normal):=h
theorem zXE{i:Nat}(h:G dl n σ k (Ex Q .ret)):G dl n σ k (Ex (Exit.inBlock i Q) .ret):=h
theorem zXF{i:Nat}(h:G dl n σ k (Ex Q .normal)):G dl n σ k (Ex (Exit.inBlock i Q) (.exit i)):=fun a w hs hk=>by
 show Exit.inBlock i Q (.exit i) a w;simp only[Exit.inBlock,zhX];exact h a w hs hk
theorem zXG{i j:Nat}(h:G dl n σ k (Ex Q (.exit j)))(hij:Nat.beq j i=false:=by rfl):G dl n σ k (Ex (Exit.inBlock i Q) (.exit j)):=fun a w hs hk=>by
 show Exit.inBlock i Q (.exit j) a w;have:j≠i:=fun e=>by rw[e,Nat.beq_refl] at hij;cases hij
 simp only[Exit.inBlock,this,zhG];exact h a w hs hk
def fin:List Value→Value
 | [v]=>v
 | l=>.tuple l.toArray
theorem zb4(l:List Value):fin l=if h:l.toArray.size=1 then l.toArray[0] else .tuple l.toArray:=by
 cases l with
 | nil=>rfl
 | cons v l=>cases l <;> rfl
def Rx(P:Program)(kk:Value→K)(rs:List ResultVar)(vs:List Value):Act→World→Prop:=fun a w=>∃us,(List.mapM (zG6 a.tmps) rs).run P w = .ok us w∧kk (fin (vs++us)) w
theorem zPK{fn:Func}{kk:Value→K}(h:Rx P kk fn.results.toList [] a w):∃v,(results fn a.tmps).run P w = .ok v w∧kk v w:=by
 obtain⟨us,h1,h2⟩:=h;refine⟨fin us,?_,h2⟩;rw[zSQ,←Array.toArray_toList (xs:=fn.results),Array.mapM_eq_mapM_toList];simp only[Array.toArray_toList];simp only[Sem.run_bind,Sem.run_map,h1,Result.andThen,Sem.run_pure];rw[zb4]
theorem zb5{fn:Func}{kk:Value→K}{rs:List ResultVar}(h:G [] n σ k (Rx P kk rs []))(hr:fn.results=rs.toArray:=by rfl):G [] n σ k (Ex (zCl P fn (Ret kk)) .ret):=fun a w hs hk=>by
 obtain⟨v,h1,h2⟩:=zPK (fn:=fn) (by rw[hr];exact h a w hs hk);show LeavesInM Fence.wide 0 P fn a.tmps (Ret kk) a.defers .returning w;rw[hs.2];exact⟨v,h1,h2⟩
theorem zb6{fn:Func}{kk:Value→K}(h:G dl n σ k (Ex (zCl P fn (Ret kk)) .ret)):G dl n σ k (Ex (zCl P fn (Ret kk)) .normal):=h
theorem zZl{fn:Func}{kk:Value→K}{D:Nat}{rs:List ResultVar}(h:G (zFr D) n σ k (Rx P kk rs []))(hr:fn.results=rs.toArray:=by rfl):G (zFr D) n σ (zAp D k) (Ex (zCl P fn (Ret kk)) .ret):=fun a w hs hk=>by
 obtain⟨v,h1,h2⟩:=zPK (fn:=fn) (by rw[hr];exact h a _ hs hk.2);show LeavesInM Fence.wide 0 P fn a.tmps (Ret kk) a.defers .returning w;rw[hs.2];exact⟨by simp,.inl ⟨D,_,rfl,run_takeDeferred hk.1,v,h1,h2⟩⟩
theorem zb7{kk:Value→K}{t:Nat}{rs:List ResultVar}{vs:List Value}(h:G dl n σ k (Rx P kk rs (vs++[v])))(ht:look σ t=some v:=by rfl):G dl n σ k (Rx P kk (.tmp t::rs) vs):=fun a w hs hk=>by
 obtain⟨us,h1,h2⟩:=h a w hs hk;refine⟨v::us,?_,by simpa using h2⟩;rw[List.mapM_cons];have h3:(zG6 a.tmps (.tmp t)).run P w = .ok v w:=zKR (a:={ a with defers:=[] }) hs.1 (r:=.tmp t) ht;simp only[Sem.run_bind,h3,h1,Sem.run_pure,Result.andThen]
theorem zZm{α:Type}{c:α→Value}{kx:α→K}{kk:Value→K}{t T:Nat}{b:Addr}{rs:List ResultVar}{vs:List Value}[cl:CT P T](h:∀x,G dl n σ (kx x) (Rx P kk rs (vs++[c x])))(ht:look σ t=some (.pointer (some b)):=by rfl):G dl n σ (Ld b c kx) (Rx P kk (.cell t T::rs) vs):=fun a w hs ⟨x,hv,hk⟩=>by
 obtain⟨us,h1,h2⟩:=h x a w hs hk;refine⟨c x::us,?_,by simpa using h2⟩;rw[List.mapM_cons];have h3:(zG6 a.tmps (.cell t T)).run P w = .ok (c x) w:=zKR (a:={ a with defers:=[] }) hs.1 (r:=.cell t T) ⟨_,ht,zQW cl.h hv⟩;simp only[Sem.run_bind,h3,h1,Sem.run_pure,Result.andThen]
theorem zXH{kx:Array Value→K}{kk:Value→K}{t T m:Nat}{b:Addr}{rs:List ResultVar}{vs:List Value}[cl:AT P T m](h:∀x,G dl n σ (kx x) (Rx P kk rs (vs++[.agg x])))(ht:look σ t=some (.pointer (some b)):=by rfl):G dl n σ (LdN b m kx) (Rx P kk (.cell t T::rs) vs):=fun a w hs ⟨x,hn,hv,hk⟩=>by
 obtain⟨us,h1,h2⟩:=h x a w hs hk;refine⟨.agg x::us,?_,by simpa using h2⟩;rw[List.mapM_cons];have h3:(zG6 a.tmps (.cell t T)).run P w = .ok (.agg x) w:=zKR (a:={ a with defers:=[] }) hs.1 (r:=.cell t T) ⟨_,ht,zO8 cl.h hn hv⟩;simp only[Sem.run_bind,h3,h1,Sem.run_pure,Result.andThen]
def Fx(k:K):Act→World→Prop:=fun _ w=>k w
theorem zb8{kk:Value→K}{vs:List Value}(h:G dl n σ k (Fx (kk (fin vs)))):G dl n σ k (Rx P kk [] vs):=fun a w hs hk=>⟨[],by simp,by rw[zgy];exact h a w hs hk⟩
section
variable{α β γ δ ε:Type}{u:Value}
theorem ze6{v0:Value}{q:K}(hk:k=q:=by rfl)(hu:u=v0:=by rfl):G dl n σ k (Fx (uZ v0 q u)):=fun _ w _ h=>⟨hu,hk▸h⟩
theorem ze7{c:α→Value}{q:α→K}{x:α}(hk:k=q x:=by rfl)(hu:u=c x:=by rfl):G dl n σ k (Fx (yH c q u)):=fun _ w _ h=>⟨x,hu,hk▸h⟩
theorem ze8{c:α→β→Value}{q:α→β→K}{x:α}{y:β}(hk:k=q x y:=by rfl)(hu:u=c x y:=by rfl):G dl n σ k (Fx (jm c q u)):=fun _ w _ h=>⟨x,y,hu,hk▸h⟩
theorem ze9{c:α→β→γ→Value}{q:α→β→γ→K}{x:α}{y:β}{z:γ}(hk:k=q x y z:=by rfl)(hu:u=c x y z:=by rfl):G dl n σ k (Fx (zCj c q u)):=fun _ w _ h=>⟨x,y,z,hu,hk▸h⟩
theorem zfA{c:α→β→γ→δ→Value}{q:α→β→γ→δ→K}{x:α}{y:β}{z:γ}{t:δ}(hk:k=q x y z t:=by rfl)(hu:u=c x y z t:=by rfl):G dl n σ k (Fx (zCt c q u)):=fun _ w _ h=>⟨x,y,z,t,hu,hk▸h⟩
theorem zfB{c:α→β→γ→δ→ε→Value}{q:α→β→γ→δ→ε→K}{x:α}{y:β}{z:γ}{t:δ}{s:ε}(hk:k=q x y z t s:=by rfl)(hu:u=c x y z t s:=by rfl):G dl n σ k (Fx (zCx c q u)):=fun _ w _ h=>⟨x,y,z,t,s,hu,hk▸h⟩
end
end
def zVK:Nat→List Value→List (Nat×Value)
 | _,[]=>[]
 | i,v::vs=>(i,v)::zVK (i+1) vs
theorem zT4(l:List Value)(i:Nat):((l.zipIdx i).map fun p=>(p.2,p.1))=zVK i l:=by
 induction l generalizing i with
 | nil=>rfl
 | cons v l ih=>simp[zVK,zhm,ih]
theorem zZn{P:Program}{f:FuncId}{fn:Func}{c:Code}{args:List Value}{kk:Value→K}{k:K}(n:Nat){w:World}(hk:k w)(hf:P.funcs[f]?=some fn)(h:G [] n (zVK 0 args) k (Cx none P c (zCl P fn (Ret kk))))(hb:fn.body=some c:=by rfl)(hn:fn.ntmps=n:=by rfl)(hl:Nat.ble args.length n=true:=by rfl):
  zI P f args.toArray kk w:=by
 subst hn;refine zWn hf hb (zgY hl) fun a hs=>h a w (by rw[←zT4];exact hs) hk
end
section
open Go
inductive Scr where
 | e
 | s (l:List Nat) (t:Scr)
 | a (l:List (Nat×Nat×Scr))
 | i (x y:Scr)
structure DH(id mode:Nat)(ds:List Nat)(t:Scr):Prop
def lst(n:Nat)(done:List Nat):Array Bool:=(Array.range n).map fun i=>done.contains i
theorem zT5(n i:Nat)(done:List Nat):(lst n done).setIfInBounds i true=lst n (i::done):=by
 apply Array.ext
 ·simp[lst]
 ·intro j h1 h2;have h3:j<(lst n done).size:=by simpa using h1
  rw[Array.getElem_setIfInBounds h3];by_cases h:i=j
  ·subst h;simp[lst]
  ·have h':¬j=i:=fun e=>h e.symm;simp[lst,h,h']
theorem zPL(n:Nat):Array.replicate n false=lst n []:=by
 apply Array.ext
 ·simp[lst]
 ·intro j h1 h2;simp[lst]
def Dx(P:Program)(ops:Array Oper)(Q:Exit→Act→World→Prop)(S:World→Prop)(ds done:List Nat)(t:Scr):Act→World→Prop:=fun a w=>zEl Q→zD7 P ops Q S ds (ops.size-done.length) (lst ops.size done) a w
def Al(S:World→Prop)(k:K):K:=fun w=>S w∧k w
def Ox(P:Program)(ops:Array Oper)(Q:Exit→Act→World→Prop)(S:World→Prop)(ds done:List Nat)(i tag:Nat)(t:Scr):Act→World→Prop:=fun a w=>zEl Q →
 opW P ops Q i (fun a' w'=>(alive ds (lst ops.size done)=true→i∉ds→S w→S w')∧zD7 P ops Q S ds (ops.size-done.length-1) (lst ops.size (i::done)) a' w') a w
def Ax(P:Program)(ops:Array Oper)(Q:Exit→Act→World→Prop)(S:World→Prop)(ds done:List Nat)(l:List (Nat×Nat×Scr)):Act→World→Prop:=fun a w=>∀p∈l,Ox P ops Q S ds done p.1 p.2.1 p.2.2 a w
def takeC(ops:Array Oper)(ds done:List Nat)(i:Nat):Bool :=
 Region.noSelect ops&&Region.free .any ops (lst ops.size done) i&&(Region.ready .any ops (lst ops.size done)).contains i && !ds.contains i&&Nat.ble (done.length+1) ops.size
def zT6(ops:Array Oper)(l:Array Bool):Bool :=
 (List.range ops.size).all fun j=>match ops[j]? with
  | some oj=>!l.getD j false||oj.after.all fun e=>!Region.binds .any e||l.getD e.on false
  | none=>true
def zMM(ops:Array Oper)(i:Nat):Nat→Nat→List Nat→List Nat
 | 0,_,acc=>acc
 | n+1,k,acc=>match (match ops[k]? with
   | some o=>o.after.any fun e=>Region.binds .any e&&(e.on==i||acc.contains e.on)
   | none=>false) with
  | true=>zMM ops i n (k+1) (k::acc)
  | false=>zMM ops i n (k+1) acc
theorem zHA{ops:Array Oper}{i:Nat}:∀(n k:Nat) (acc:List Nat),(∀x∈acc,∃m,reach ops i m x=true)→∀d∈zMM ops i n k acc,∃m,reach ops i m d=true
 | 0,_,_,h,d,hd=>h d hd
 | n+1,k,acc,h,d,hd=>by
  unfold zMM at hd;split at hd
  ·rename_i hb;refine zHA n (k+1) (k::acc) (fun x hx=>?_) d hd;rcases zgS.1 hx with rfl|hx
   ·cases ho:ops[x]? with
    | none=>simp[ho] at hb
    | some o=>
     simp only[ho,Array.any_eq_true'] at hb;obtain⟨e,he,hb⟩:=hb;simp only[zgp,Bool.or_eq_true] at hb;rcases hb.2 with h2|h2
     ·refine⟨1,?_⟩;simp only[reach,ho,Array.any_eq_true'];exact⟨e,he,by simp[hb.1,h2]⟩
     ·obtain⟨m,hm⟩:=h e.on (List.contains_iff_mem.1 h2);refine⟨m+1,?_⟩;simp only[reach,ho,Array.any_eq_true'];exact⟨e,he,by simp[hb.1,hm]⟩
   ·exact h x hx
  ·exact zHA n (k+1) acc h d hd
def zOF(ops:Array Oper)(ds done:List Nat)(i:Nat):Bool:=takeC ops ds done i&&zT6 ops (lst ops.size done)&&ds.all fun d=>(zMM ops i (d-i) (i+1) []).contains d
theorem zPM{ops:Array Oper}{l:Array Bool}(h:zT6 ops l=true):Closed ops l:=fun j oj hj hl e he hb=>by
 have h1:=zg2.1 h j (by simpa using(zgq.1 hj).1);simp only[hj,hl,Bool.not_true,Bool.false_or,Array.all_eq_true_iff_forall_mem] at h1;have h2:=h1 e he;simpa[hb] using h2
theorem zSS{Q:Exit→Act→World→Prop}{K:Act→World→Prop}(h:zEl Q):zEl (Exit.then K Q):=fun c a w hc=>h c a w hc
theorem zVL{Q:Exit→Act→World→Prop}{i:Nat}(h:zEl Q):zEl (Exit.inBlock i Q):=fun c a w hc=>h c a w hc
theorem zQo{P:Program}{fn:Func}{kk:Value→K}:zEl (bodyPost P fn (Ret kk)):=fun _ _ _ h=>h.2
theorem zI3{Q:Exit→Act→World→Prop}(h:zEl Q:=by repeat (first|refine zSS ?_|refine zVL ?_|exact zQY|exact zQo)):zEl Q:=h
section
variable{P:Program}{dl:List Deferred}{n:Nat}{σ τ:List (Nat×Value)}{k:K}{X:Act→World→Prop}{ops:Array Oper}{Q:Exit→Act→World→Prop}{l:List Oper}{o:Oper}{v:Value}{S:World→Prop}{ds done:List Nat}{i:Nat}{is:List Nat}{t:Scr}
theorem zFs{T:World→Prop}(hi:ops[i]?=some o)(hc:takeC ops ds done i=true)(hT:(∀w,T w)∨(T=S∧zOF ops ds done i=true))(hQ:zEl Q){a:Act}{w:World}(hy:YieldsIf P ops T o v a)(hw:T w)
  (h:zD7 P ops Q S ds (ops.size-(i::done).length) (lst ops.size (i::done)) (a.put o.dst v) w):zD7 P ops Q S ds (ops.size-done.length) (lst ops.size done) a w:=by
 simp only[takeC,zgp,zhT] at hc;obtain⟨⟨⟨⟨h1,h2⟩,h3⟩,h4⟩,h5⟩:=hc;have h5:=zgY h5;rw[show ops.size-done.length=(ops.size-(i::done).length)+1 by simp only[zgO];omega];refine zPB hi (by intro hm;rw[List.contains_iff_mem.2 hm] at h4;cases h4) (Region.noSelect_spec h1) hQ _ _ a w (Region.free_spec hi h2) ?_ (by simpa using h3) hy hw (by rw[zT5];exact h);rcases hT with h|⟨h,hr⟩
 ·exact .inl h
 ·simp only[zOF,zgp] at hr;exact .inr ⟨h,zPM hr.1.2,fun d hd=>zHA _ _ _ (by simp) d (List.contains_iff_mem.1 (zg2.1 hr.2 d hd))⟩
theorem zLW{d:Nat}(h:G dl n ((d,v)::σ) k (Dx P ops Q S ds (i::done) (.s is t)))(hi:ops[i]?=some o:=by rfl)(hd:o.dst=some d:=by rfl)(hw:wants ops σ o=some true:=by rfl)(hp:Pure P σ o v:=by exact zPD)(hc:takeC ops ds done i=true:=by as_aux_lemma=>kernel_rfl)
  (hn:Nat.ble (d+1) n=true:=by rfl):G dl n σ k (Dx P ops Q S ds done (.s (i::is) t)):=fun a w hs hk hQ=>
 zFs (T:=fun _=>True) hi hc (.inl fun _=>trivial) hQ (.inl ⟨jX hs.1 hw,fun w _=>hp { a with defers:=[] } n hs.1 w⟩) trivial (by rw[hd];exact h _ w (hs.put (zgY hn) v) hk hQ)
def less(ds:List Nat)(i:Nat):List Nat:=ds.filter fun j=>!Nat.beq j i
theorem zQp:∀d∈less ds i,d∈ds:=fun d hd=>(zha.1 hd).1
theorem zdl{d:Nat}(h:G dl n ((d,undef)::σ) k (Dx P ops Q S (less ds i) (i::done) (.s is t)))(hi:ops[i]?=some o:=by rfl)(hd:o.dst=some d:=by rfl)(hw:wants ops σ o=some false:=by rfl)(hc:takeC ops (less ds i) done i=true:=by as_aux_lemma=>kernel_rfl)
  (hn:Nat.ble (d+1) n=true:=by rfl):G dl n σ k (Dx P ops Q S ds done (.s (i::is) t)):=fun a w hs hk hQ=>
 zKS zQp _ _ _ _ (zFs (T:=fun _=>True) (v:=undef) hi hc (.inl fun _=>trivial) hQ (.inr ⟨jX hs.1 hw,rfl⟩) trivial (by rw[hd];exact h _ w (hs.put (zgY hn) undef) hk hQ))
theorem zb9(h:G dl n σ k (Dx P ops Q S (less ds i) (i::done) (.s is t)))(hi:ops[i]?=some o:=by rfl)(hd:o.dst=none:=by rfl)(hw:wants ops σ o=some false:=by rfl)(hc:takeC ops (less ds i) done i=true:=by as_aux_lemma=>kernel_rfl):G dl n σ k (Dx P ops Q S ds done (.s (i::is) t)):=fun a w hs hk hQ=>
 zKS zQp _ _ _ _ (zFs (T:=fun _=>True) (v:=undef) hi hc (.inl fun _=>trivial) hQ (.inr ⟨jX hs.1 hw,rfl⟩) trivial (by rw[hd];exact h _ w hs hk hQ))
theorem zcA(h:G dl n σ k (Dx P ops Q S ds done t)):G dl n σ k (Dx P ops Q S ds done (.s [] t)):=h
section
variable{α:Type}{vx:α→Value}{k':α→K}{d:Nat}
theorem zHB(h:∀x,G dl n ((d,vx x)::σ) (k' x) (Dx P ops Q S ds (i::done) (.s is t)))(hi:ops[i]?=some o:=by rfl)(hd:o.dst=some d:=by rfl)(hw:wants ops σ o=some true:=by rfl)(hp:WP P σ o k vx k':=by exact zLp)(hc:takeC ops ds done i=true:=by as_aux_lemma=>kernel_rfl)
  (hn:Nat.ble (d+1) n=true:=by rfl):G dl n σ k (Dx P ops Q S ds done (.s (i::is) t)):=fun a w hs hk hQ=>by
 obtain⟨x,hp,hk⟩:=hp w hk;exact zFs (T:=fun _=>True) hi hc (.inl fun _=>trivial) hQ (.inl ⟨jX hs.1 hw,fun w _=>hp { a with defers:=[] } n hs.1 w⟩) trivial (by rw[hd];exact h x _ w (hs.put (zgY hn) _) hk hQ)
theorem zE8(h:∀x,G dl n ((d,vx x)::σ) (Al S (k' x)) (Dx P ops Q S ds (i::done) (.s is t)))(hi:ops[i]?=some o:=by rfl)(hd:o.dst=some d:=by rfl)(hw:wants ops σ o=some true:=by rfl)(hp:WP P σ o k vx k':=by exact zLp)(hc:takeC ops ds done i=true:=by as_aux_lemma=>kernel_rfl)
  (hn:Nat.ble (d+1) n=true:=by rfl):G dl n σ (Al S k) (Dx P ops Q S ds done (.s (i::is) t)):=fun a w hs ⟨hS,hk⟩ hQ=>by
 obtain⟨x,hp,hk⟩:=hp w hk;exact zFs (T:=fun _=>True) hi hc (.inl fun _=>trivial) hQ (.inl ⟨jX hs.1 hw,fun w _=>hp { a with defers:=[] } n hs.1 w⟩) trivial (by rw[hd];exact h x _ w (hs.put (zgY hn) _) ⟨hS,hk⟩ hQ)
theorem zbO(h:∀x,G dl n ((d,vx x)::σ) (Al S (k' x)) (Dx P ops Q S ds (i::done) (.s is t)))(hi:ops[i]?=some o)(hd:o.dst=some d)(hw:wants ops σ o=some true)(hp:∀w,S w→k w→∃x,(∀w,S w→Eff P σ o w (.value (vx x)) w)∧k' x w)(hc:zOF ops ds done i=true)
  (hn:Nat.ble (d+1) n=true):G dl n σ (Al S k) (Dx P ops Q S ds done (.s (i::is) t)):=fun a w hs ⟨hS,hk⟩ hQ=>by
 obtain⟨x,hp,hk⟩:=hp w hS hk;have hc':takeC ops ds done i=true:=by simp only[zOF,zgp] at hc;exact hc.1.1
 exact zFs (T:=S) hi hc' (.inr ⟨rfl,hc⟩) hQ (.inl ⟨jX hs.1 hw,fun w hw=>hp w hw { a with defers:=[] } n hs.1⟩) hS (by rw[hd];exact h x _ w (hs.put (zgY hn) _) ⟨hS,hk⟩ hQ)
theorem zOG{w1:World}(h:∀x,G dl n ((d,vx x)::σ) (Al (Is w1) (k' x)) (Dx P ops Q (Is w1) ds (i::done) (.s is t)))(hi:ops[i]?=some o:=by rfl)(hd:o.dst=some d:=by rfl)(hw:wants ops σ o=some true:=by rfl)(hp:WR P σ o k vx k':=by exact zH0)(hc:zOF ops ds done i=true:=by as_aux_lemma=>kernel_rfl)
  (hn:Nat.ble (d+1) n=true:=by rfl):G dl n σ (Al (Is w1) k) (Dx P ops Q (Is w1) ds done (.s (i::is) t)):=zbO h hi hd hw hp.is hc hn
theorem zVM(h:∀x,G dl n ((d,vx x)::σ) (Al S (k' x)) (Dx P ops Q S ds (i::done) (.s is t)))(hi:ops[i]?=some o:=by rfl)(hd:o.dst=some d:=by rfl)(hw:wants ops σ o=some true:=by rfl)(hp:WS P S σ o k vx k':=by exact zZX)(hc:zOF ops ds done i=true:=by as_aux_lemma=>kernel_rfl)
  (hn:Nat.ble (d+1) n=true:=by rfl):G dl n σ (Al S k) (Dx P ops Q S ds done (.s (i::is) t)):=zbO h hi hd hw (fun w _ hk=>hp w hk) hc hn
end
theorem zcB(h:G dl n σ k (Ex Q .normal))(hc:Region.ready .any ops (lst ops.size done)=[]:=by as_aux_lemma=>kernel_rfl):G dl n σ k (Dx P ops Q S ds done .e):=fun a w hs hk _=>by
 show zD7 P ops Q S ds (ops.size-done.length) (lst ops.size done) a w;cases ops.size-done.length with
 | zero=>exact⟨hc,h a w hs hk⟩
 | succ m=>exact⟨fun _=>h a w hs hk,by rw[hc];simp⟩
theorem zJk(h:G dl n σ k X):G dl n σ (Al S k) X:=fun a w hs hk=>h a w hs hk.2
theorem zcC{b:Bool}{x y:K}{s t:Scr}(h1:b=true→G dl n σ x (Dx P ops Q S ds done s))(h2:b=false→G dl n σ y (Dx P ops Q S ds done t)):G dl n σ (Ite b x y) (Dx P ops Q S ds done (.i s t)):=fun a w hs hk=>by
 cases b
 ·exact h2 rfl a w hs (hk.2 rfl)
 ·exact h1 rfl a w hs (hk.1 rfl)
theorem zZo{b:Bool}{x y:K}{s t:Scr}(h1:b=true→G dl n σ (Al S x) (Dx P ops Q S ds done s))(h2:b=false→G dl n σ (Al S y) (Dx P ops Q S ds done t)):G dl n σ (Al S (Ite b x y)) (Dx P ops Q S ds done (.i s t)):=fun a w hs ⟨hS,hk⟩=>by
 cases b
 ·exact h2 rfl a w hs ⟨hS,hk.2 rfl⟩
 ·exact h1 rfl a w hs ⟨hS,hk.1 rfl⟩
theorem zdm{p:Option Addr}{kp:Addr→K}(h:∀a,p=some a→G dl n σ (Al S (kp a)) X):G dl n σ (Al S (Nn p kp)) X:=fun a w hs ⟨hS,b,hb,hk⟩=>h b hb a w hs ⟨hS,hk⟩
theorem zdn{f:Value}{kf:FuncId→Array Value→Array Value→K}(h:∀g fs cs,f = .func (.func g) fs cs→CB P g→G dl n σ (Al S (kf g fs cs)) X):G dl n σ (Al S (Fv P f kf)) X:=fun a w hs ⟨hS,g,fs,cs,hf,hc,hk⟩=>h g fs cs hf ⟨hc⟩ a w hs ⟨hS,hk⟩
theorem zcD{α:Type}{d:Nat}{u:Value}{c:α→Value}{k:α→K}(h:∀x,G dl n ((d,c x)::σ) (Al S (k x)) X):G dl n ((d,u)::σ) (Al S (yH c k u)) X:=fun a w hs ⟨hS,x,hu,hk⟩=>h x a w (hu▸hs) ⟨hS,hk⟩
theorem zMN{α β:Type}{d:Nat}{u:Value}{c:α→β→Value}{k:α→β→K}(h:∀x y,G dl n ((d,c x y)::σ) (Al S (k x y)) X):G dl n ((d,u)::σ) (Al S (jm c k u)) X:=fun a w hs ⟨hS,x,y,hu,hk⟩=>h x y a w (hu▸hs) ⟨hS,hk⟩
theorem zfC{m:List (Nat×Nat×Scr)}(h:G dl n σ k (Ax P ops Q S ds done m))(hr:Region.ready .any ops (lst ops.size done)=m.map (·.1):=by as_aux_lemma=>kernel_rfl)(hl:(Nat.ble (done.length+1) ops.size && !m.isEmpty)=true:=by rfl):G dl n σ k (Dx P ops Q S ds done (.a m)):=fun a w hs hk hQ=>by
 simp only[zgp,zhT] at hl;have h5:=zgY hl.1;show zD7 P ops Q S ds (ops.size-done.length) (lst ops.size done) a w;have h0:=h a w hs hk;rw[show ops.size-done.length=(ops.size-done.length-1)+1 by omega];refine⟨fun h0=>?_,fun i hi=>?_⟩
 ·rw[h0] at hr;cases m with
  | nil=>simp at hl
  | cons p m=>simp at hr
 ·rw[hr] at hi;obtain⟨p,hp,rfl⟩:=zgV.1 hi;have:=h0 p hp hQ;rw[zT5];exact this
theorem zcE{ks:List K}{m:List (Nat×Nat×Scr)}{i tag:Nat}{t:Scr}(h1:G dl n σ k (Ox P ops Q S ds done i tag t))(h2:G dl n σ (All ks) (Ax P ops Q S ds done m)):G dl n σ (All (k::ks)) (Ax P ops Q S ds done ((i,tag,t)::m)):=fun a w hs hk p hp=>by
 rcases zgS.1 hp with rfl|hp
 ·exact h1 a w hs (hk 0 _ rfl)
 ·exact h2 a w hs (fun j x hx=>hk (j+1) x (by simpa using hx)) p hp
theorem zZp{ks:List K}{m:List (Nat×Nat×Scr)}{i tag:Nat}{t:Scr}(h1:G dl n σ (Al S k) (Ox P ops Q S ds done i tag t))(h2:G dl n σ (Al S (All ks)) (Ax P ops Q S ds done m)):G dl n σ (Al S (All (k::ks))) (Ax P ops Q S ds done ((i,tag,t)::m)):=fun a w hs ⟨hS,hk⟩ p hp=>by
 rcases zgS.1 hp with rfl|hp
 ·exact h1 a w hs ⟨hS,hk 0 _ rfl⟩
 ·exact h2 a w hs ⟨hS,fun j x hx=>hk (j+1) x (by simpa using hx)⟩ p hp
theorem zcF:G dl n σ k (Ax P ops Q S ds done []):=fun _ _ _ _ _ hp=>by cases hp
theorem zcG{i tag:Nat}{t:Scr}(h1:G dl n σ k (Ox P ops Q S ds done i tag t)):G dl n σ k (Ax P ops Q S ds done [(i,tag,t)]):=fun a w hs hk p hp=>by
 rcases zgS.1 hp with rfl|hp
 ·exact h1 a w hs hk
 ·cases hp
def okK(ops:Array Oper)(S:World→Prop)(ds done:List Nat)(i:Nat):Prop:=(∀w,S w)∨(ds.contains i || !alive ds (lst ops.size done))=true
theorem okK.keep(h:okK ops S ds done i)(w w':World):alive ds (lst ops.size done)=true→i∉ds→S w→S w':=fun ha hi _=>by
 rcases h with h|h
 ·exact h w'
 ·rw[ha] at h;simp only[Bool.not_true,Bool.or_false] at h;exact absurd (List.contains_iff_mem.1 h) hi
theorem zE9(h:okK ops S ds done i:=by first|exact .inl (fun _=>trivial)|exact .inr (by as_aux_lemma=>kernel_rfl)):okK ops S ds done i:=h
theorem zDi{a:Act}{w:World}(hs:zAN dl a n σ)(hi:ops[i]?=some o)(hw:wants ops σ o=some true){tag:Nat}(h:zEl Q→o.wpIn Fence.wide 0 P a w (fun a' w'=>(alive ds (lst ops.size done)=true→i∉ds→S w→S w')∧zD7 P ops Q S ds (ops.size-done.length-1) (lst ops.size (i::done)) a' w') Q):Ox P ops Q S ds done i tag t a w:=by
 intro hQ;unfold opW wpOpIn;simp only[hi,jX hs.1 hw,zhX];exact h hQ
theorem zDj{m:Nat}:ops.size-done.length-1=ops.size-(i::done).length:=by simp only[zgO];omega
section
variable{α:Type}{vx:α→Value}{k':α→K}{d:Nat}{k1:K}
theorem zST(h:∀x,G dl n ((d,vx x)::σ) (k' x) (Dx P ops Q S ds (i::done) t))(hi:ops[i]?=some o:=by rfl)(hd:o.dst=some d:=by rfl)(hw:wants ops σ o=some true:=by rfl)(hp:WE P σ o k vx k':=by first|exact zH1|exact WR.we zH0)(hK:okK ops S ds done i:=by exact zE9)
  (hn:Nat.ble (d+1) n=true:=by rfl) (nd:zBj o.op=false:=by rfl):G dl n σ k (Ox P ops Q S ds done i 0 t):=fun a w hs hk=>by
 obtain⟨x,w',hp,h'⟩:=hp w hk;refine zDi hs hi hw fun hQ=>(zCy (r:=none) hs nd hp ⟨hK.keep w w',?_⟩)
 rw[hd,zDj (m:=0)];exact h x _ w' (hs.put (zgY hn) _) h' hQ
theorem zdo(h:∀x,G dl n σ (k' x) (Dx P ops Q S ds (i::done) t))(hi:ops[i]?=some o:=by rfl)(hd:o.dst=none:=by rfl)(hw:wants ops σ o=some true:=by rfl)(hp:WE P σ o k vx k':=by exact zH1)(hK:okK ops S ds done i:=by exact zE9)
  (nd:zBj o.op=false:=by rfl):G dl n σ k (Ox P ops Q S ds done i 0 t):=fun a w hs hk=>by
 obtain⟨x,w',hp,h'⟩:=hp w hk;refine zDi hs hi hw fun hQ=>(zCy (r:=none) hs nd hp ⟨hK.keep w w',?_⟩)
 rw[hd,zDj (m:=0)];exact h x _ w' hs h' hQ
theorem zcH(h:G dl n σ k1 (Dx P ops Q S ds (i::done) t))(hi:ops[i]?=some o:=by rfl)(hd:o.dst=none:=by rfl)(hw:wants ops σ o=some true:=by rfl)(hp:WK P σ o k k1:=by exact zPG)(hK:okK ops S ds done i:=by exact zE9)
  (nd:zBj o.op=false:=by rfl):G dl n σ k (Ox P ops Q S ds done i 0 t):=fun a w hs hk=>by
 obtain⟨w',hp,h'⟩:=hp w hk;refine zDi hs hi hw fun hQ=>(zPH (r:=none) hs nd hp ⟨hK.keep w w',?_⟩)
 rw[hd,zDj (m:=0)];exact h _ w' hs h' hQ
theorem zfD{kk:Value→K}(h:∀u,G dl n ((d,u)::σ) (kk u) (Dx P ops Q S ds (i::done) t))(hi:ops[i]?=some o:=by rfl)(hd:o.dst=some d:=by rfl)(hw:wants ops σ o=some true:=by rfl)(hp:WC P σ o k kk:=by exact zJg)(hK:okK ops S ds done i:=by exact zE9)
  (hn:Nat.ble (d+1) n=true:=by rfl) (nd:zBj o.op=false:=by rfl):G dl n σ k (Ox P ops Q S ds done i 0 t):=fun a w hs hk=>by
 obtain⟨f,args,w',hp,hc⟩:=hp w hk;refine zDi hs hi hw fun hQ=>(zJi (r:=none) hs nd hp hc fun v w1 h'=>⟨hK.keep w w1,?_⟩)
 rw[hd,zDj (m:=0)];exact h v _ w1 (hs.put (zgY hn) _) h' hQ
theorem zdp{kk:Value→K}(h:∀u,G dl n σ (kk u) (Dx P ops Q S ds (i::done) t))(hi:ops[i]?=some o:=by rfl)(hd:o.dst=none:=by rfl)(hw:wants ops σ o=some true:=by rfl)(hp:WC P σ o k kk:=by exact zJg)(hK:okK ops S ds done i:=by exact zE9)
  (nd:zBj o.op=false:=by rfl):G dl n σ k (Ox P ops Q S ds done i 0 t):=fun a w hs hk=>by
 obtain⟨f,args,w',hp,hc⟩:=hp w hk;refine zDi hs hi hw fun hQ=>(zJi (r:=none) hs nd hp hc fun v w1 h'=>⟨hK.keep w w1,?_⟩)
 rw[hd,zDj (m:=0)];exact h v _ w1 hs h' hQ
theorem zfE{kk:Value→K}(h:∀u,G dl n ((d,u)::σ) (kk u) (Dx P ops Q S ds (i::done) t))(hi:ops[i]?=some o:=by rfl)(hd:o.dst=some d:=by rfl)(hw:wants ops σ o=some true:=by rfl)(hp:WY P σ o k kk:=by exact zde rfl rfl rfl)(hK:okK ops S ds done i:=by exact zE9)
  (hn:Nat.ble (d+1) n=true:=by rfl) (nd:zBj o.op=false:=by rfl):G dl n σ k (Ox P ops Q S ds done i 0 t):=fun a w hs hk=>by
 obtain⟨y,args,hp,hc⟩:=hp w hk;refine zDi hs hi hw fun hQ=>(zQn hs nd hp hc fun v w1 h'=>⟨hK.keep w w1,?_⟩)
 rw[hd,zDj (m:=0)];exact h v _ w1 (hs.put (zgY hn) _) h' hQ
theorem zOH(h:∀x,G dl n ((d,vx x)::σ) (Al S (k' x)) (Dx P ops Q S ds (i::done) t))(hi:ops[i]?=some o:=by rfl)(hd:o.dst=some d:=by rfl)(hw:wants ops σ o=some true:=by rfl)(hp:WE P σ o k vx (fun x=>Sv S (k' x)):=by exact zH1)
  (hn:Nat.ble (d+1) n=true:=by rfl) (nd:zBj o.op=false:=by rfl):G dl n σ (Al S k) (Ox P ops Q S ds done i 1 t):=fun a w hs ⟨_,hk⟩=>by
 obtain⟨x,w',hp,hS,h'⟩:=hp w hk;refine zDi hs hi hw fun hQ=>(zCy (r:=none) hs nd hp ⟨fun _ _ _=>hS,?_⟩)
 rw[hd,zDj (m:=0)];exact h x _ w' (hs.put (zgY hn) _) ⟨hS,h'⟩ hQ
theorem zcI(h:∀x,G dl n σ (Al S (k' x)) (Dx P ops Q S ds (i::done) t))(hi:ops[i]?=some o:=by rfl)(hd:o.dst=none:=by rfl)(hw:wants ops σ o=some true:=by rfl)(hp:WE P σ o k vx (fun x=>Sv S (k' x)):=by exact zH1)
  (nd:zBj o.op=false:=by rfl):G dl n σ (Al S k) (Ox P ops Q S ds done i 1 t):=fun a w hs ⟨_,hk⟩=>by
 obtain⟨x,w',hp,hS,h'⟩:=hp w hk;refine zDi hs hi hw fun hQ=>(zCy (r:=none) hs nd hp ⟨fun _ _ _=>hS,?_⟩)
 rw[hd,zDj (m:=0)];exact h x _ w' hs ⟨hS,h'⟩ hQ
theorem zXI(h:G dl n σ (Al S k1) (Dx P ops Q S ds (i::done) t))(hi:ops[i]?=some o:=by rfl)(hd:o.dst=none:=by rfl)(hw:wants ops σ o=some true:=by rfl)(hp:WK P σ o k (Sv S k1):=by exact zPG)
  (nd:zBj o.op=false:=by rfl):G dl n σ (Al S k) (Ox P ops Q S ds done i 1 t):=fun a w hs ⟨_,hk⟩=>by
 obtain⟨w',hp,hS,h'⟩:=hp w hk;refine zDi hs hi hw fun hQ=>(zPH (r:=none) hs nd hp ⟨fun _ _ _=>hS,?_⟩)
 rw[hd,zDj (m:=0)];exact h _ w' hs ⟨hS,h'⟩ hQ
def SvA(S:World→Prop)(kk:Value→K)(kS:Value→K):Prop:=∀u w,kk u w→S w∧kS u w
theorem zdq{v0:Value}{k:K}:SvA S (uZ v0 (Sv S k)) (uZ v0 k):=fun _ _ ⟨h,hS,hk⟩=>⟨hS,h,hk⟩
theorem zdr{α:Type}{c:α→Value}{k:α→K}:SvA S (yH c fun x=>Sv S (k x)) (yH c k):=fun _ _ ⟨x,h,hS,hk⟩=>⟨hS,x,h,hk⟩
theorem zbP{α β:Type}{c:α→β→Value}{k:α→β→K}:SvA S (jm c fun x y=>Sv S (k x y)) (jm c k):=fun _ _ ⟨x,y,h,hS,hk⟩=>⟨hS,x,y,h,hk⟩
theorem zds{α β γ:Type}{c:α→β→γ→Value}{k:α→β→γ→K}:SvA S (zCj c fun x y z=>Sv S (k x y z)) (zCj c k):=fun _ _ ⟨x,y,z,h,hS,hk⟩=>⟨hS,x,y,z,h,hk⟩
theorem zdu{kk kS:Value→K}(h:∀u,G dl n ((d,u)::σ) (Al S (kS u)) (Dx P ops Q S ds (i::done) t))(hi:ops[i]?=some o:=by rfl)(hd:o.dst=some d:=by rfl)(hw:wants ops σ o=some true:=by rfl)(hp:WC P σ o k kk:=by exact zJg)
  (hS:SvA S kk kS:=by first|exact zdr|exact zdq|exact zbP|exact zds) (hn:Nat.ble (d+1) n=true:=by rfl) (nd:zBj o.op=false:=by rfl):G dl n σ (Al S k) (Ox P ops Q S ds done i 1 t):=fun a w hs ⟨_,hk⟩=>by
 obtain⟨f,args,w',hp,hc⟩:=hp w hk;refine zDi hs hi hw fun hQ=>(zJi (r:=none) hs nd hp hc fun v w1 h'=>⟨fun _ _ _=>(hS v w1 h').1,?_⟩)
 rw[hd,zDj (m:=0)];exact h v _ w1 (hs.put (zgY hn) _) (hS v w1 h') hQ
theorem zOI(h:∀x,G dl n ((d,vx x)::σ) (k' x) (Dx P ops Q S ds (i::done) t))(hi:ops[i]?=some o:=by rfl)(hd:o.dst=some d:=by rfl)(hw:wants ops σ o=some true:=by rfl)(hp:WR P σ o k vx k':=by exact zH0)
  (hn:Nat.ble (d+1) n=true:=by rfl) (nd:zBj o.op=false:=by rfl):G dl n σ k (Ox P ops Q S ds done i 2 t):=fun a w hs hk=>by
 obtain⟨x,hp,h'⟩:=hp w hk;refine zDi hs hi hw fun hQ=>(zCy (r:=none) hs nd hp ⟨fun _ _ h=>h,?_⟩)
 rw[hd,zDj (m:=0)];exact h x _ w (hs.put (zgY hn) _) h' hQ
theorem zKV(h:∀x,G dl n ((d,vx x)::σ) (Al S (k' x)) (Dx P ops Q S ds (i::done) t))(hi:ops[i]?=some o:=by rfl)(hd:o.dst=some d:=by rfl)(hw:wants ops σ o=some true:=by rfl)(hp:WR P σ o k vx k':=by exact zH0)
  (hn:Nat.ble (d+1) n=true:=by rfl) (nd:zBj o.op=false:=by rfl):G dl n σ (Al S k) (Ox P ops Q S ds done i 2 t):=fun a w hs ⟨hS,hk⟩=>by
 obtain⟨x,hp,h'⟩:=hp w hk;refine zDi hs hi hw fun hQ=>(zCy (r:=none) hs nd hp ⟨fun _ _ h=>h,?_⟩)
 rw[hd,zDj (m:=0)];exact h x _ w (hs.put (zgY hn) _) ⟨hS,h'⟩ hQ
end
variable{k0:K}{id:Nat}
theorem zXJ(h:G dl n σ k0 (Dx P l.toArray Q Any ds [] t))(hh:DH id 0 ds t:=by assumption)(hQ:zEl Q:=by exact zI3)[hm:MX P]:G dl n σ (Dr k0) (Cx none P (.region id l.toArray true) Q):=fun a w hs ⟨w1,hw,hk⟩=>by
 subst hw;have h1:=h a _ hs hk hQ;refine wpIn_region_any hm.h (zEq (S:=Any) (ds:=ds) _ _ _ _ ?_);rw[zPL];exact h1
theorem zXK(h:∀w1,G dl n σ (Al (Is w1) k0) (Dx P l.toArray Q (Is w1) ds [] t))(hh:DH id 1 ds t:=by assumption)(hQ:zEl Q:=by exact zI3)[hm:MX P]:G dl n σ (Dr k0) (Cx none P (.region id l.toArray true) Q):=fun a w hs ⟨w1,hw,hk⟩=>by
 subst hw;have h1:=h _ a _ hs ⟨Is.intro _,hk⟩ hQ;refine wpIn_region_any hm.h (zEq (S:=Is { w with drawn:=w.drawn+1 }) (ds:=ds) _ _ _ _ ?_);rw[zPL];exact h1
theorem zXL{kS:(World→Prop)→K}(h:∀S,G dl n σ (Al S (kS S)) (Dx P l.toArray Q S ds [] t))(hh:DH id 2 ds t:=by assumption)(hQ:zEl Q:=by exact zI3)[hm:MX P]:G dl n σ (Dr (yV kS)) (Cx none P (.region id l.toArray true) Q):=fun a w hs ⟨w1,hw,S,hS,hk⟩=>by
 subst hw;have h1:=h S a _ hs ⟨hS,hk⟩ hQ;refine wpIn_region_any hm.h (zEq (S:=S) (ds:=ds) _ _ _ _ ?_);rw[zPL];exact h1
def Sx(P:Program)(ops:Array Oper)(Q:Exit→Act→World→Prop)(l:List Oper):Act→World→Prop:=fun a w=>wpStill P ops w (fun a'=>Q .normal a' w) l a
theorem zXM(h:G [] n σ k0 (Sx P l.toArray Q l))[hm:MX P](hB:Region.lexB .any l.toArray=true:=by as_aux_lemma=>kernel_rfl):G [] n σ (Dr k0) (Cx none P (.region id l.toArray true) Q):=fun a w hs ⟨w1,hw,hk⟩=>by
 refine wpIn_wide.2 (zZI hm.h hB hw (h a w1 hs hk))
theorem zLX{d:Nat}(h:G [] n ((d,v)::σ) k (Sx P ops Q l))(hd:o.dst=some d:=by rfl)(hw:wants ops σ o=some true:=by rfl)(hp:Pure P σ o v:=by exact zPD)(hn:Nat.ble (d+1) n=true:=by rfl):G [] n σ k (Sx P ops Q (o::l)):=fun a w hs hk=>
 zav hs.nil hw (zbf hs.nil rfl hd (zgY hn) hp fun a h'=>h a w h'.D hk)
theorem zdv{d:Nat}(h:G [] n ((d,undef)::σ) k (Sx P ops Q l))(hd:o.dst=some d:=by rfl)(hw:wants ops σ o=some false:=by rfl)(hn:Nat.ble (d+1) n=true:=by rfl):G [] n σ k (Sx P ops Q (o::l)):=fun a w hs hk=>
 ze2 hs.nil hw hd (zgY hn) fun a h'=>h a w h'.D hk
section
variable{α:Type}{vx:α→Value}{k':α→K}{d:Nat}
theorem zbQ(hr:WR P σ o k vx k')(h:∀x,G [] n ((d,vx x)::σ) (k' x) (Sx P ops Q l))(hd:o.dst=some d)(hw:wants ops σ o=some true)(hn:Nat.ble (d+1) n=true):G [] n σ k (Sx P ops Q (o::l)):=fun a w hs hk=>by
 obtain⟨x,hp,h'⟩:=hr w hk;exact zav hs.nil hw (zau hs.nil rfl hd (zgY hn) hp fun a hs'=>h x a w hs'.D h')
theorem zHC(h:∀x,G [] n ((d,vx x)::σ) (k' x) (Sx P ops Q l))(hd:o.dst=some d:=by rfl)(hw:wants ops σ o=some true:=by rfl)(hp:WP P σ o k vx k':=by exact zLp)(hn:Nat.ble (d+1) n=true:=by rfl):G [] n σ k (Sx P ops Q (o::l)):=zbQ hp.wr h hd hw hn
theorem zOJ(h:∀x,G [] n ((d,vx x)::σ) (k' x) (Sx P ops Q l))(hd:o.dst=some d:=by rfl)(hw:wants ops σ o=some true:=by rfl)(hp:WR P σ o k vx k':=by exact zH0)(hn:Nat.ble (d+1) n=true:=by rfl):G [] n σ k (Sx P ops Q (o::l)):=zbQ hp h hd hw hn
end
theorem zcJ{b:Bool}{x y:K}(h1:b=true→G dl n σ x (Sx P ops Q (o::l)))(h2:b=false→G dl n σ y (Sx P ops Q (o::l)))(hg:gslot ops σ o=some (.bool b):=by rfl):G dl n σ (Ite b x y) (Sx P ops Q (o::l)):=fun a w hs hk=>by
 cases b
 ·exact h2 rfl a w hs (hk.2 rfl)
 ·exact h1 rfl a w hs (hk.1 rfl)
theorem zcK(h:G [] n σ k (Ex Q .normal)):G [] n σ k (Sx P ops Q []):=fun a w hs hk=>h a w hs hk
end
end
section
open Go
def zXN:Exit→Code
 | .exit i=>.exit i
 | _=>.ret
def zXO(l:Nat)(r:Loop)(k:K):K:=fun w=>w.heap[l]?=some (.loop r)∧k (w.putObj l (.loop { r with state:=.busy }))
def zbR(l:Nat)(r:Loop)(J:Exit)(k:K):K:=fun w=>w.heap[l]?=some (.loop r)∧k (w.putObj l (.loop { r with state:=.done,pending:=some (zXN J) }))
def YN(kN kJ:K):Value→K:=fun v w=>(v = .bool true∧kN w)∨(v = .bool false∧kJ w)
def jY{α:Type}(P:Program)(fv:Value)(J:Exit)(cX:α→List Value)(body:(K→K)→K→K→α→K)(after afterJ:Nat→K):K:=fun w=>
 ∃g cs,fv = .func (.func g) #[] cs∧callable P g=true ∧
  ∀(r:Loop) (w1:World),r.state = .ready→r.pending=none→r.defers=w.heap.size→w1=(w.alloc (.deferred (some []))).alloc (.loop r) →
   (∀(x:α) (kN kJ:K) (W:World),W.heap[w.heap.size+1]?=some (.loop r) →
    body (zXO (w.heap.size+1) r) (zVF (w.heap.size+1) { r with state:=.busy } kN) (zbR (w.heap.size+1) { r with state:=.busy } J kJ) x W →
    YieldAt Fence.wide 0 P (w.heap.size+1) (cX x).toArray W (Ret (YN kN kJ))) →
   Calls P g (yv (w.heap.size+1)::cs.toList).toArray w1 (Ret fun _ w3=>
    (w3.heap[w.heap.size+1]?=some (.loop r)∧after w.heap.size (w3.putObj (w.heap.size+1) (.loop { r with state:=.exhausted }))) ∨
    (w3.heap[w.heap.size+1]?=some (.loop { r with state:=.done,pending:=some (zXN J) })∧afterJ w.heap.size (w3.putObj (w.heap.size+1) (.loop { r with state:=.exhausted,pending:=some (zXN J) }))))
def FQ:Exit→Act→World→Prop:=fun _ _ _=>False
def RQ(J:Exit)(kN kJ:K):Exit→Act→World→Prop:=fun e _ w=>match e with
 | .normal=>kN w
 | .ret=>J = .ret∧kJ w
 | .exit i=>J = .exit i∧kJ w
 | _=>False
def Bx(kb k:K)(r:Option Nat)(P:Program)(body:Code)(Q:Exit→Act→World→Prop):Act→World→Prop:=fun a w=>k w∧∀w,kb w→body.wpIn (fe r) 0 P Q a w
def Bj(BG:K→K)(r:Option Nat)(P:Program)(body:Code)(Q:Exit→Act→World→Prop):Act→World→Prop:=fun a w=>∃k,BG k w∧∀w,k w→body.wpIn (fe r) 0 P Q a w
def zcL:List Nat→List Value→List (Nat×Value)→List (Nat×Value)
 | p::ps,v::vs,σ=>zcL ps vs ((p,v)::σ)
 | _,_,σ=>σ
section
variable{P:Program}{dl:List Deferred}{n:Nat}{σ τ:List (Nat×Value)}{k kb:K}{r:Option Nat}{Q:Exit→Act→World→Prop}{body assign:Code}{a:Act}{w:World}
theorem zfF(h:G dl n σ kb (Cx r P body Q)):G dl n σ k (Bx kb k r P body Q):=fun a _ hs hk=>⟨hk,fun w hk=>h a w hs hk⟩
theorem zfG{BG:K→K}(h:G dl n σ k (Cx r P body Q)):G dl n σ (BG k) (Bj BG r P body Q):=fun a w hs hk=>⟨k,hk,fun w hk=>h a w hs hk⟩
theorem zfH{J:Exit}{kJ:K}:G dl n σ k (Ex (RQ J k kJ) .normal):=fun _ _ _ hk=>hk
theorem zfI{kN:K}:G dl n σ k (Ex (RQ .ret kN k) .ret):=fun _ _ _ hk=>⟨rfl,hk⟩
theorem zfJ{kN:K}{i:Nat}:G dl n σ k (Ex (RQ (.exit i) kN k) (.exit i)):=fun _ _ _ hk=>⟨rfl,hk⟩
theorem zOK:∀(ps:List Nat) (vs:List Value) (σ:List (Nat×Value)) (t:Array Value),(ps.all fun p=>Nat.ble (p+1) n)=true→Slots { tmps:=t,defers:=[] } n σ →
  Slots { tmps:=(ps.zip vs).foldl (fun t p=>t.setIfInBounds p.1 p.2) t,defers:=[] } n (zcL ps vs σ)
 | [],_,_,_,_,h=>h
 | p::ps,[],_,_,_,h=>h
 | p::ps,v::vs,σ,t,hp,h=>by
  simp only[List.all_cons,zgp] at hp;have h1:=h.put (zgY hp.1) v;exact zOK ps vs _ _ hp.2 h1
theorem zVN{α:Type}{g:Operand}{ps:List Tmp}{fv:Value}{J:Exit}{cX:α→List Value}{bk:(K→K)→K→K→α→K}{after afterJ:Nat→K}
  (h1:∀(l:Nat) (BG:K→K) (KN KJ:K) (x:α),G [] n (zcL ps (cX x) σ) (bk BG KN KJ x) (Cx (some l) P assign (Exit.then (Bj BG (some l) P body (RQ J KN KJ)) FQ)))
  (h2:∀D,G (zFr D) n σ (after D) (Ex Q .normal)) (h3:∀D,G (zFr D) n σ (afterJ D) (Ex Q J)) (hg:ev σ g=some fv:=by rfl) (hp:(ps.all fun p=>Nat.ble (p+1) n)=true:=by rfl) (hlen:∀x,(cX x).length=ps.length:=by exact fun _=>rfl) (hJ:J = .ret∨∃i,J = .exit i:=by first|exact .inl rfl|exact .inr ⟨_,rfl⟩) :
  G [] n σ (jY P fv J cX bk after afterJ) (Cx none P (.rangeFunc g ps.toArray assign body) Q):=fun a w hs ⟨gf,cs,hfv,hcb,h⟩=>by
 show(Code.rangeFunc g ps.toArray assign body).wpIn Fence.wide 0 P Q a w;refine wpIn_rangeFunc fun fn hfn=>?_;obtain⟨r,hr⟩:∃r:Loop,r={ state:=.ready,pending:=none,fn,tmps:=a.tmps,params:=ps.toArray,assign,body,defers:=w.heap.size }:=⟨_,rfl⟩
 have hh:=h r _ (by rw[hr]) (by rw[hr]) (by rw[hr]) rfl;refine⟨w.heap.size+1,zFr w.heap.size,(w.alloc (.deferred (some []))).alloc (.loop r),{ target:=.fn (.func gf) cs,args:=#[.func (.yield (w.heap.size+1)) #[] #[]] },(w.alloc (.deferred (some []))).alloc (.loop r),gf,
  (yv (w.heap.size+1)::cs.toList).toArray,(w.alloc (.deferred (some []))).alloc (.loop r),?_,?_,fun _ _=>trivial,?_,(fun h=>by cases h),?_⟩
 ·rw[hr];exact run_enterLoop_outer _ _ _ _ _
 ·have he:a.eval g = .func (.func gf) #[] cs:=by rw[←hfv];exact hs.1.ev hg
  simp only[resolve,he];simp[go_sem]
 ·simp[invoke,zDh hcb]
 ·refine zGD zHz rfl ((hh ?_).mono fun e w3 he=>?_)
  ·intro x kN kJ W hl hb;refine⟨fn,_,assign,body,(run_yield (P:=P) (args:=(cX x).toArray) hl (by rw[hr];simp[hlen])).trans (by rw[hr]),?_⟩;refine roundIn_of_wpIn trivial ?_;have hs1:=zOK ps (cX x) σ a.tmps hp (show Slots { tmps:=a.tmps,defers:=[] } n σ from by have:=hs.1;exact this);have h4:=h1 (w.heap.size+1) _ _ _ x { tmps:=(ps.zip (cX x)).foldl (fun t p=>t.setIfInBounds p.1 p.2) a.tmps,defers:=[] } W ⟨hs1,rfl⟩ hb;have h5:assign.wpIn (Fence.wide.inRound (w.heap.size+1)) 0 P (Exit.then (Bj (zXO (w.heap.size+1) r) (some (w.heap.size+1)) P body (RQ J (zVF (w.heap.size+1) { r with state:=.busy } kN) (zbR (w.heap.size+1) { r with state:=.busy } J kJ))) FQ)
     { tmps:=(ps.toArray.zip (cX x).toArray).foldl (fun t p=>t.setIfInBounds p.1 p.2) a.tmps,defers:=[] } W:=by
    have:(ps.toArray.zip (cX x).toArray).foldl (fun t p=>t.setIfInBounds p.1 p.2) a.tmps=(ps.zip (cX x)).foldl (fun t p=>t.setIfInBounds p.1 p.2) a.tmps:=by simp
    rw[this];exact h4
   refine wpIn_mono h5 fun e a2 w2 hq=>?_;cases e with
   | normal=>
    obtain⟨kk,hk,hbd⟩:=hq;refine⟨_,run_beginRound hk.1 (by rw[hr]),?_⟩;refine wpIn_mono (hbd _ hk.2) fun e a3 w3 hq=>?_;cases e with
    | normal=>
     obtain⟨h3,h4⟩:=hq;exact⟨_,_,run_endRound none h3,.inl ⟨rfl,h4⟩⟩
    | ret=>
     obtain⟨rfl,h3,h4⟩:=hq;exact⟨_,_,run_endRound (some .ret) h3,.inr ⟨rfl,h4⟩⟩
    | exit i=>
     obtain⟨rfl,h3,h4⟩:=hq;exact⟨_,_,run_endRound (some (.exit i)) h3,.inr ⟨rfl,h4⟩⟩
    | goto t=>exact hq.elim
    | panic c=>exact hq.elim
    | outgrown=>exact hq.elim
   | _=>exact hq.elim
  ·cases e with
   | returned v=>
    have hn:r.pending=none:=by rw[hr]
    rcases he with⟨h3',h4⟩|⟨h3',h4⟩
    ·refine⟨_,_,run_endLoop h3' (by rw[hr];simp),?_⟩;have h5:=h2 _ { a with defers:=zFr w.heap.size++a.defers } _ ⟨hs.1,by simp[hs.2,zFr]⟩ h4;rw[hn] at h5 ⊢;exact h5
    ·refine⟨_,_,run_endLoop h3' (by simp),?_⟩;have h5:=h3 _ { a with defers:=zFr w.heap.size++a.defers } _ ⟨hs.1,by simp[hs.2,zFr]⟩ h4;rcases hJ with rfl|⟨i,rfl⟩
     ·exact wpIn_ret h5
     ·exact wpIn_exit h5
   | panicked c=>exact he.elim
   | outgrown=>exact he.elim
theorem zVO{α:Type}{g:Operand}{p:Tmp}{fv:Value}{cX:α→Value}{bk:K→α→K}{after:Nat→K}
  (h1:∀(l:Nat) (KN:K) (x:α) (k1:K),G [] n ((p,cX x)::σ) k1 (Cx (some l) P assign (Exit.then (Bx (bk KN x) k1 (some l) P body (RQ .normal KN Dead)) FQ)))
  (h2:∀D,G (zFr D) n σ (after D) (Ex Q .normal)) (hg:ev σ g=some fv:=by rfl) (hp:Nat.ble (p+1) n=true:=by rfl) :
  G [] n σ (jE P fv cX bk after) (Cx none P (.rangeFunc g #[p] assign body) Q):=fun a w hs ⟨gf,cs,hfv,hcb,h⟩=>by
 show(Code.rangeFunc g #[p] assign body).wpIn Fence.wide 0 P Q a w;refine wpIn_rangeFunc fun fn hfn=>?_;obtain⟨r,hr⟩:∃r:Loop,r={ state:=.ready,pending:=none,fn,tmps:=a.tmps,params:=#[p],assign,body,defers:=w.heap.size }:=⟨_,rfl⟩
 have hh:=h r _ (by rw[hr]) (by rw[hr]) (by rw[hr]) rfl;refine⟨w.heap.size+1,zFr w.heap.size,(w.alloc (.deferred (some []))).alloc (.loop r),{ target:=.fn (.func gf) cs,args:=#[.func (.yield (w.heap.size+1)) #[] #[]] },(w.alloc (.deferred (some []))).alloc (.loop r),gf,
  (yv (w.heap.size+1)::cs.toList).toArray,(w.alloc (.deferred (some []))).alloc (.loop r),?_,?_,fun _ _=>trivial,?_,(fun h=>by cases h),?_⟩
 ·rw[hr];exact run_enterLoop_outer _ _ _ _ _
 ·have he:a.eval g = .func (.func gf) #[] cs:=by rw[←hfv];exact hs.1.ev hg
  simp only[resolve,he];simp[go_sem]
 ·simp[invoke,zDh hcb]
 ·refine zGD zHz rfl ((hh ?_).mono fun e w3 he=>?_)
  ·intro x kN W hl hb;refine⟨fn,_,assign,body,(run_yield (P:=P) (args:=#[cX x]) hl (by rw[hr];rfl)).trans (by rw[hr]),?_⟩;refine roundIn_of_wpIn trivial ?_;have hs1:zAN [] { tmps:=a.tmps.setIfInBounds p (cX x),defers:=[] } n ((p,cX x)::σ):=by
    have:=hs.1.put (zgY hp) (cX x);exact⟨this,rfl⟩
   have h4:=h1 (w.heap.size+1) (zVF (w.heap.size+1) { r with state:=.busy } kN) x (fun w=>w=W) _ W hs1 rfl;refine wpIn_mono (show assign.wpIn (Fence.wide.inRound (w.heap.size+1)) 0 P _ _ W from by simp only[Cx] at h4;simpa using h4) fun e a2 w2 hq=>?_;cases e with
   | normal=>
    obtain⟨rfl,hbd⟩:=hq;refine⟨_,run_beginRound hl (by rw[hr]),?_⟩;refine wpIn_mono (hbd _ hb) fun e a3 w3 hq=>?_;cases e with
    | normal=>
     obtain⟨h3,h4⟩:=hq;exact⟨_,_,run_endRound none h3,rfl,h4⟩
    | ret=>exact absurd hq.1 (by simp)
    | exit i=>exact absurd hq.1 (by simp)
    | _=>exact hq.elim
   | _=>exact hq.elim
  ·cases e with
   | returned v=>
    have hn:r.pending=none:=by rw[hr]
    obtain⟨h3,h4⟩:=he;refine⟨_,_,run_endLoop h3 (by rw[hr];simp),?_⟩;have h5:=h2 _ { a with defers:=zFr w.heap.size++a.defers } _ ⟨hs.1,by simp[hs.2,zFr]⟩ h4;rw[hn] at h5 ⊢;exact h5
   | panicked c=>exact he.elim
   | outgrown=>exact he.elim
end
end
section
open Go
def opb:Builtin→Nat
 | .len=>20
 | .max|.min=>21
 | _=>22
def opc:Op→Nat
 | .move _|.assign _=>0
 | .pick _ _ _=>1
 | .nilCheck _=>2
 | .fieldAddr _ _ _=>3
 | .extract _ _=>4
 | .makeFunc _ _ _=>5
 | .unOp o _ _=>match o with
  | .not=>6
  | _=>7
 | .binOp o _ _ _ _=>match o with
  | .add|.sub|.mul|.and|.or|.xor=>8
  | .shl|.shr|.quo|.rem|.andNot=>9
  | _=>10
 | .convert _ _ _=>11
 | .build _ _=>12
 | .load _ _=>13
 | .lookup _ _ _ _=>14
 | .alloc _|.box _ _=>15
 | .buildSlice _ _ _=>16
 | .store _ _ _=>17
 | .mapUpdate _ _ _ _=>18
 | .call c=>match c.callee with
  | .builtin b=>opb b
  | _=>19
 | .makeMap _ _|.makeSlice _ _ _=>23
 | .range _ _|.next _ _|.entry _=>24
 | .makeInterface _ _=>25
 | .field _ _ _=>26
 | .index _ _ _|.indexAddr _ _ _=>27
 | .slice _ _ _ _ _=>28
 | _=>99
def opi(ops:Array Oper)(i:Nat):Nat:=match ops[i]? with
 | some o=>opc o.op
 | none=>98
section
variable{P:Program}{dl:List Deferred}{n:Nat}{σ:List (Nat×Value)}{k:K}{r:Option Nat}{ops:Array Oper}{Q:Exit→Act→World→Prop}{l:List Oper}{o:Oper}{S:World→Prop}{ds done is:List Nat}{i tag:Nat}{t:Scr}{c x y:Code}{e:Exit}{kk:Value→K}{u:Operand}
theorem zdw(h:G dl n σ k (Tx r P ops Q l)):G dl n σ k (Tx r P ops Q l):=h
theorem zdx(h:G dl n σ k (Cx r P c Q)):G dl n σ k (Cx r P c Q):=h
theorem zdy(h:G dl n σ k (Ex Q e)):G dl n σ k (Ex Q e):=h
theorem zdz{rs:List ResultVar}{vs:List Value}(h:G dl n σ k (Rx P kk rs vs)):G dl n σ k (Rx P kk rs vs):=h
theorem zd0{q:K}(h:G dl n σ k (Fx q)):G dl n σ k (Fx q):=h
theorem zd1(h:G dl n σ k (Dx P ops Q S ds done t)):G dl n σ k (Dx P ops Q S ds done t):=h
theorem zd2(h:G dl n σ k (Ox P ops Q S ds done i tag t)):G dl n σ k (Ox P ops Q S ds done i tag t):=h
theorem zd3(h:G dl n σ k (Sx P ops Q l)):G dl n σ k (Sx P ops Q l):=h
theorem zd4{α:Type}{S:α→List (Nat×Value)}{X:α→K}(h:G dl n σ k (Lx dl n S X)):G dl n σ k (Lx dl n S X):=h
theorem zcM(h:G dl n σ k (Cx r P (.seq x y) Q)):G dl n σ k (Cx r P (.seq x y) Q):=h
theorem zZq(h:G dl n σ k (Cx r P (.cond u x y) Q)):G dl n σ k (Cx r P (.cond u x y) Q):=h
theorem zZr(h:G dl n σ k (Cx r P (.region i ops true) Q)):G dl n σ k (Cx r P (.region i ops true) Q):=h
theorem zCu(c:Nat)(h:G dl n σ k (Tx r P ops Q (o::l)))(hc:opc o.op=c):G dl n σ k (Tx r P ops Q (o::l)):=h
theorem zFb(c:Nat)(h:G dl n σ k (Sx P ops Q (o::l)))(hc:opc o.op=c):G dl n σ k (Sx P ops Q (o::l)):=h
theorem zFc(c:Nat)(h:G dl n σ k (Dx P ops Q S ds done (.s (i::is) t)))(hc:opi ops i=c):G dl n σ k (Dx P ops Q S ds done (.s (i::is) t)):=h
theorem zI4(c:Nat)(h:G dl n σ k (Ox P ops Q S ds done i tag t))(hc:opi ops i=c):G dl n σ k (Ox P ops Q S ds done i tag t):=h
theorem zd5(h:G dl n σ k (Tx r P ops Q (o::l)))(hc:o.guard.isSome=true):G dl n σ k (Tx r P ops Q (o::l)):=h
theorem zd6(h:G dl n σ k (Sx P ops Q (o::l)))(hc:o.guard.isSome=true):G dl n σ k (Sx P ops Q (o::l)):=h
theorem zcN(h:G dl n σ k (Dx P ops Q S ds done (.s (i::is) t)))(hc:(ops[i]?).map (fun o=>o.guard.isSome)=some true):G dl n σ k (Dx P ops Q S ds done (.s (i::is) t)):=h
theorem zVP{b:Bool}{kx ky:K}(h1:G dl n σ kx (Cx r P x Q))(h2:G dl n σ ky (Cx r P y Q))(he:ev σ u=some (.bool b)):G dl n σ (Ite b kx ky) (Cx r P (.cond u x y) Q):=zZi h1 h2 he
theorem zcO{d:Nat}{u v0:Value}{X1:Act→World→Prop}(h:G dl n ((d,v0)::σ) (Al S k) X1):G dl n ((d,u)::σ) (Al S (uZ v0 k u)) X1:=fun a w hs ⟨hS,hu,hk⟩=>h a w (hu▸hs) ⟨hS,hk⟩
theorem zXP{v:Value}(h:Pure P σ o v:=by first|exact zWc rfl rfl|exact zQP rfl rfl):Pure P σ o v:=h
theorem zXQ{v:Value}(h:Pure P σ o v:=by first|exact zQQ rfl rfl rfl|exact zQR rfl rfl rfl|exact zQS rfl rfl rfl rfl):Pure P σ o v:=h
theorem zXR{v:Value}(h:Pure P σ o v:=by first|exact zaw rfl rfl|exact zWd rfl rfl):Pure P σ o v:=h
theorem zXS{v:Value}(h:Pure P σ o v:=by first|exact zJd rfl rfl|exact zLA rfl rfl):Pure P σ o v:=h
theorem zXT{v:Value}(h:Pure P σ o v:=by exact zOB rfl rfl rfl):Pure P σ o v:=h
theorem zXU{v:Value}(h:Pure P σ o v:=by exact zMF rfl rfl rfl):Pure P σ o v:=h
theorem zXV{v:Value}(h:Pure P σ o v:=by exact zbA rfl rfl):Pure P σ o v:=h
theorem zSU{v:Value}(h:Pure P σ o v:=by first|exact zdL rfl rfl rfl|exact zdM rfl rfl rfl|exact zdN rfl rfl rfl|exact zdO rfl rfl rfl|exact zdP rfl rfl rfl|exact zdQ rfl rfl rfl|exact zbB rfl rfl rfl|exact zbC rfl rfl rfl|exact zbD rfl rfl rfl|exact zbE rfl rfl rfl|exact zbI rfl rfl rfl|exact zbJ rfl rfl rfl|exact zQa rfl rfl rfl|exact zQb rfl rfl rfl|exact zTu rfl rfl rfl|exact zTv rfl rfl rfl|exact zbG rfl rfl rfl|exact zbH rfl rfl rfl):Pure P σ o v:=h
theorem zSV{v:Value}(h:Pure P σ o v:=by exact zMI rfl rfl):Pure P σ o v:=h
theorem zSW{v:Value}(h:Pure P σ o v:=by exact zTw rfl rfl rfl rfl (by kernel_rfl)):Pure P σ o v:=h
theorem zSX{v:Value}(h:Pure P σ o v:=by first|exact q_len rfl rfl|exact zWq rfl rfl):Pure P σ o v:=h
theorem zSY{v:Value}(h:Pure P σ o v:=by exact zQZ rfl rfl):Pure P σ o v:=h
theorem zPN{α:Type}{k:K}{vx:α→Value}{k1:α→K}(h:WP P σ o k vx k1:=by exact zWw rfl rfl):WP P σ o k vx k1:=h
theorem zPO{α:Type}{k:K}{vx:α→Value}{k1:α→K}(h:WP P σ o k vx k1:=by exact zQc (by first|exact za6 rfl rfl|exact za7 rfl rfl)):WP P σ o k vx k1:=h
theorem zPP{α:Type}{k:K}{vx:α→Value}{k1:α→K}(h:WP P σ o k vx k1:=by first|exact zQc (by first|exact zax rfl rfl rfl|exact zay rfl rfl rfl|exact zaz rfl rfl rfl|exact za2 rfl rfl rfl|exact zdR rfl rfl rfl|exact za3 rfl rfl rfl)|exact zWu rfl rfl rfl):WP P σ o k vx k1:=h
theorem zPQ{α:Type}{k:K}{vx:α→Value}{k1:α→K}(h:WP P σ o k vx k1:=by exact zTx (fun h0=>by first|exact za4 rfl rfl rfl h0|exact za5 rfl rfl rfl h0|exact za0 rfl rfl rfl h0|exact za1 rfl rfl rfl h0)):WP P σ o k vx k1:=h
theorem zLr{α:Type}{k:K}{vx:α→Value}{k1:α→K}(h:WP P σ o k vx k1:=by exact zWv (zQm rfl rfl rfl)):WP P σ o k vx k1:=h
theorem zLs{α:Type}{k:K}{vx:α→Value}{k1:α→K}(h:WP P σ o k vx k1:=by exact zQc (zMJ rfl rfl)):WP P σ o k vx k1:=h
theorem zLt{α:Type}{k:K}{vx:α→Value}{k1:α→K}(h:WP P σ o k vx k1:=by first|exact zWx rfl rfl rfl|exact zWv (zOE rfl rfl)):WP P σ o k vx k1:=h
theorem zLu{α:Type}{k:K}{vx:α→Value}{k1:α→K}(h:WP P σ o k vx k1:=by exact zQc (by first|exact za8 _ rfl rfl rfl|exact za9 _ rfl rfl rfl)):WP P σ o k vx k1:=h
theorem zLv{α:Type}{k:K}{vx:α→Value}{k1:α→K}(h:WP P σ o k vx k1:=by exact zWs rfl rfl):WP P σ o k vx k1:=h
theorem zLw{α:Type}{k:K}{vx:α→Value}{k1:α→K}(h:WP P σ o k vx k1:=by first|exact zWr rfl rfl rfl|exact zTz rfl rfl rfl|exact zTy rfl rfl rfl):WP P σ o k vx k1:=h
theorem zLx{α:Type}{k:K}{vx:α→Value}{k1:α→K}(h:WP P σ o k vx k1:=by first|exact zWt rfl rfl (by first|exact rfl|exact⟨_,rfl⟩) (by first|exact rfl|exact⟨_,rfl⟩) (by first|exact rfl|exact⟨_,rfl⟩) rfl|exact zT0 rfl rfl (by first|exact rfl|exact⟨_,rfl⟩) (by first|exact rfl|exact⟨_,rfl⟩)):WP P σ o k vx k1:=h
theorem zJl{α:Type}{k:K}{vx:α→Value}{k1:α→K}(h:WR P σ o k vx k1:=by exact zG7 (zD8 rfl rfl)):WR P σ o k vx k1:=h
theorem zJm{α:Type}{k:K}{vx:α→Value}{k1:α→K}(h:WR P σ o k vx k1:=by first|exact zbK rfl rfl|exact zWy rfl rfl):WR P σ o k vx k1:=h
theorem zJn{α:Type}{k:K}{vx:α→Value}{k1:α→K}(h:WR P σ o k vx k1:=by exact zG7 (zPF rfl rfl rfl)):WR P σ o k vx k1:=h
theorem zJo{α:Type}{k:K}{vx:α→Value}{k1:α→K}(h:WR P σ o k vx k1:=by exact zG7 (zPE rfl rfl)):WR P σ o k vx k1:=h
theorem zPR{α:Type}{k:K}{vx:α→Value}{k1:α→K}(h:WE P σ o k vx k1:=by exact zQg (zD8 rfl rfl)):WE P σ o k vx k1:=h
theorem zPS{α:Type}{k:K}{vx:α→Value}{k1:α→K}(h:WE P σ o k vx k1:=by first|exact zW1 rfl rfl rfl|exact zQe rfl rfl):WE P σ o k vx k1:=h
theorem zPT{α:Type}{k:K}{vx:α→Value}{k1:α→K}(h:WE P σ o k vx k1:=by first|exact zQf rfl rfl rfl rfl (by kernel_rfl)|exact zLB rfl rfl rfl (by kernel_rfl)):WE P σ o k vx k1:=h
theorem zH3{α:Type}{k:K}{vx:α→Value}{k1:α→K}(h:WE P σ o k vx k1:=by exact zQg (by first|exact zOC rfl rfl rfl rfl|exact zT2 rfl rfl rfl rfl|exact zOD rfl rfl rfl rfl|exact zW5 rfl rfl rfl|exact zQj rfl rfl rfl)):WE P σ o k vx k1:=h
theorem zPU{α:Type}{k:K}{vx:α→Value}{k1:α→K}(h:WE P σ o k vx k1:=by exact zQg (by first|exact zMK rfl|exact zJe rfl rfl rfl)):WE P σ o k vx k1:=h
theorem zPV{α:Type}{k:K}{vx:α→Value}{k1:α→K}(h:WE P σ o k vx k1:=by exact zQg (by first|exact zT3 rfl rfl rfl|exact zQk rfl rfl|exact zQl rfl rfl)):WE P σ o k vx k1:=h
theorem zPW{k k1:K}(h:WK P σ o k k1:=by first|exact zbM rfl rfl rfl|exact zW3 rfl rfl rfl):WK P σ o k k1:=h
theorem zPX{k k1:K}(h:WK P σ o k k1:=by exact zQh (zJf rfl rfl rfl rfl)):WK P σ o k k1:=h
theorem zJp{k:K}{kk:Value→K}(h:WC P σ o k kk:=by first|exact zT1 rfl rfl rfl rfl|exact zQi rfl rfl rfl rfl|exact zbN rfl rfl rfl):WC P σ o k kk:=h
theorem zZs{S:World→Prop}{α:Type}{k:K}{vx:α→Value}{k1:α→K}(h:WS P S σ o k vx k1:=by exact zQd (zD8 rfl rfl)):WS P S σ o k vx k1:=h
theorem zZt{S:World→Prop}{α:Type}{k:K}{vx:α→Value}{k1:α→K}(h:WS P S σ o k vx k1:=by first|exact zbL rfl rfl|exact zWz rfl rfl):WS P S σ o k vx k1:=h
theorem zZu{S:World→Prop}{α:Type}{k:K}{vx:α→Value}{k1:α→K}(h:WS P S σ o k vx k1:=by exact zQd (zPF rfl rfl rfl)):WS P S σ o k vx k1:=h
theorem zZv{S:World→Prop}{α:Type}{k:K}{vx:α→Value}{k1:α→K}(h:WS P S σ o k vx k1:=by exact zQd (zPE rfl rfl)):WS P S σ o k vx k1:=h
end
end
end Go.Sep
namespace Go.Proofs.YtlelhlcjaapkoaaGreat
section
open Go Go.Sep
abbrev zDF:Nat:=3
abbrev qO:Nat:=5
abbrev yO:Nat:=9
abbrev zAf:Nat:=31
abbrev zD9:Nat:=32
abbrev zAg:Nat:=39
abbrev zn:Nat:=42
abbrev zBq:Nat:=44
abbrev zN:Nat:=46
abbrev qR:Nat:=49
abbrev vw:Nat:=51
abbrev zU:Nat:=54
abbrev zHD:Nat:=67
abbrev zBY:Nat:=73
abbrev uq:Nat:=78
abbrev zSZ:Nat:=88
abbrev zMO:Nat:=94
abbrev zPY:Nat:=105
abbrev uU:Nat:=111
abbrev zu:Nat:=115
abbrev qA:Nat:=118
abbrev zI5:Nat:=119
abbrev xK:Nat:=121
abbrev zEA:Nat:=125
abbrev zKW:Nat:=128
abbrev yS:Nat:=130
abbrev xD:Nat:=131
abbrev zAh:Nat:=136
abbrev qM:Nat:=137
abbrev xC:Nat:=140
abbrev uw:Nat:=155
abbrev zJq:Nat:=160
abbrev xP:Nat:=169
abbrev zEU:Nat:=174
abbrev zEV:Nat:=202
abbrev zw:Nat:=208
abbrev qw:Nat:=210
abbrev vg:Nat:=217
abbrev xX:Nat:=221
abbrev zCY:Nat:=222
abbrev zDG:Nat:=223
abbrev zAi:Nat:=225
abbrev jf:Nat:=227
abbrev zi:Nat:=231
abbrev zAJ:Nat:=247
abbrev zKX:Nat:=250
abbrev vP:Nat:=252
abbrev zCK:Nat:=254
abbrev yP:Nat:=267
abbrev zDa:Nat:=308
abbrev zDb:Nat:=309
abbrev zC0:Nat:=310
abbrev zDy:Nat:=312
abbrev zDz:Nat:=314
abbrev zAX:Nat:=363
abbrev zEW:Nat:=365
abbrev zD0:Nat:=386
theorem zEX:zCD Tryz.prog zDF (.int .i64 0):=⟨Tryz.t3,by kernel_rfl,by kernel_rfl⟩
theorem zIq:zCD Tryz.prog qO (.int .u8 0):=⟨Tryz.t5,by kernel_rfl,by kernel_rfl⟩
theorem zMP:zCD Tryz.prog yO (.string ⟨#[]⟩):=⟨Tryz.t9,by kernel_rfl,by kernel_rfl⟩
theorem zI6:zCD Tryz.prog zw (.agg #[(.bool false),(Sl.val ⟨none,0,0⟩),(.int .i64 0),(.int .u64 0)]):=⟨Tryz.t208,by kernel_rfl,by kernel_rfl⟩
theorem zHE:zCD Tryz.prog zAJ (.pointer none):=⟨Tryz.t247,by kernel_rfl,by kernel_rfl⟩
theorem mixed:Tryz.prog.follows .mixedOrders=true:=by kernel_rfl
end
end Go.Proofs.YtlelhlcjaapkoaaGreat
namespace Go.Sep
section
open Go
section
variable{P:Program}{σ:List (Nat×Value)}{o:Oper}{w w':World}{v:Value}{x y z:Operand}{T:TypeId}
theorem zHF{vx vy:Value}(ho:o.op = .mapEntry T x y)(hx:ev σ x=some vx)(hy:ev σ y=some vy):∀v w w',(Instr.mapEntry T vx vy).run P w = .ok v w'→Eff P σ o w (.value v) w':=fun v w w' hr _ _ hs=>by
 simp[execOp,ho,hs.ev hx,hs.ev hy,hr]
theorem zFd{vx vy vz:Value}(ho:o.op = .entryStore T x y z)(hx:ev σ x=some vx)(hy:ev σ y=some vy)(hz:ev σ z=some vz):∀u w w',(Instr.entryStore T vx vy vz).run P w = .ok u w'→Eff P σ o w .skip w':=fun u w w' hr _ _ hs=>by
 simp[execOp,ho,hs.ev hx,hs.ev hy,hs.ev hz,hr]
theorem zSa{α β:Type}{sem:Sem Value}{c:α→β→Value}{kx:α→β→K}(hs:∀v w w',sem.run P w = .ok v w'→Eff P σ o w (.value v) w'):WE P σ o (Do2 P sem c kx) (fun u=>u) (fun u=>jm c kx u):=fun w ⟨t,u,w',hd,h⟩=>⟨c t u,w',hs _ _ _ hd,t,u,rfl,h⟩
end
section
variable{P:Program}{dl:List Deferred}{n:Nat}{σ:List (Nat×Value)}{k:K}{ops:Array Oper}{Q:Exit→Act→World→Prop}{o:Oper}{S:World→Prop}{ds done:List Nat}{i d:Nat}{t:Scr}
theorem zd7{kk kS:Value→K}(h:∀u,G dl n ((d,u)::σ) (Al S (kS u)) (Dx P ops Q S ds (i::done) t))(hi:ops[i]?=some o:=by rfl)(hd:o.dst=some d:=by rfl)(hw:wants ops σ o=some true:=by rfl)(hp:WE P σ o k (fun u=>u) kk)
  (hS:SvA S kk kS) (hn:Nat.ble (d+1) n=true:=by rfl) (nd:zBj o.op=false:=by rfl):G dl n σ (Al S k) (Ox P ops Q S ds done i 1 t):=fun a w hs ⟨_,hk⟩=>by
 obtain⟨x,w',hp,h'⟩:=hp w hk;refine zDi hs hi hw fun hQ=>(zCy (r:=none) hs nd hp ⟨fun _ _ _=>(hS x w' h').1,?_⟩)
 rw[hd,zDj (m:=0)];exact h x _ w' (hs.put (zgY hn) _) (hS x w' h') hQ
end
end
section
open Go
abbrev dfr(g:FuncId)(fs cs:Array Value)(vs:List Value):Deferred:={ target:=.fn (.func g) cs,args:=fs++vs.toArray }
def zQq(P:Program)(f:FuncId)(args:Array Value)(kk:Value→K):K:=fun w=>∀u,CallsDIn Fence.wide 0 P f args u w fun e u' w'=>u'=u∧Ret kk e w'
section
variable{P:Program}{dl:List Deferred}{n:Nat}{σ:List (Nat×Value)}{k:K}{ops:Array Oper}{Q:Exit→Act→World→Prop}{l:List Oper}{o:Oper}{a:Act}{w:World}
theorem zQr{K1:Act→World→Prop}{x:Operand}{xs:Array Operand}{ts:Array TypeId}{g:FuncId}{fs cs:Array Value}{vs:List Value}(hs:zAN dl a n σ)(ho:o.op = .defer { callee:=.value x,args:=xs,argTypes:=ts })(hx:ev σ x=some (.func (.func g) fs cs))(hv:evs σ xs.toList=some vs)
  (h:K1 ({ a with defers:=dfr g fs cs vs::a.defers }.put o.dst undef) w):o.wpIn (fe none) 0 P a w K1 Q:=by
 refine⟨fun f _=>trivial,?_⟩;have h1:xs.map a.eval=vs.toArray:=by
  have h0:xs.map (Act.eval { a with defers:=[] })=vs.toArray:=by apply zhw;simpa using zFq hs.1 hv
  exact h0
 have h3:a.eval x = .func (.func g) fs cs:=hs.1.ev hx;have h2:(execOp a.eval o).run P w = .ok (.defer (dfr g fs cs vs)) w:=by
  simp[execOp,ho,resolve,h3,h1,Deferred.ofValue,dfr]
 show o.uponIn Fence.wide 0 P a K1 Q ((o.semAt none a.eval).run P w);rw[Oper.semAt_none,h2,Oper.uponIn_defer];exact h
theorem zcP{x:Operand}{xs:Array Operand}{ts:Array TypeId}{g:FuncId}{fs cs:Array Value}{vs:List Value}(h:G (dfr g fs cs vs::dl) n σ k (Tx none P ops Q l))(ho:o.op = .defer { callee:=.value x,args:=xs,argTypes:=ts }:=by rfl)(hd:o.dst=none:=by rfl)(hw:wants ops σ o=some true:=by rfl)
  (hx:ev σ x=some (.func (.func g) fs cs):=by rfl) (hv:evs σ xs.toList=some vs:=by rfl):G dl n σ k (Tx none P ops Q (o::l)):=fun a w hs hk=>by
 refine zLC hs hw (zQr hs ho hx hv ?_);rw[hd];exact h _ w ⟨hs.1,by rw[←hs.2];rfl⟩ hk
theorem zZw{fn:Func}{kk kv:Value→K}{g:FuncId}{fs cs A:Array Value}{vs:List Value}{rs:List ResultVar}(h:∀u,G [dfr g fs cs vs] n σ (kv u) (Rx P kk rs []))(hr:fn.results=rs.toArray:=by rfl)(hA:fs++vs.toArray++cs=A:=by rfl)[cb:CB P g]:
  G [dfr g fs cs vs] n σ (zQq P g A kv) (Ex (zCl P fn (Ret kk)) .ret):=fun a w hs hk=>by
 show LeavesInM Fence.wide 0 P fn a.tmps (Ret kk) a.defers .returning w;rw[hs.2];refine⟨by simp,.inr ⟨(fun h=>by cases h),.func g,cs,g,A,rfl,?_,fun _ _=>trivial,?_⟩⟩
 ·show(invoke (.fn (.func g) cs) (fs++vs.toArray)).run P w=_;simp only[invoke];rw[zDh cb.h,hA]
 ·refine(hk .returning).mono fun e u' w' he=>?_;obtain⟨rfl,he⟩:=he;cases e with
  | returned v=>
   obtain⟨v2,h1,h2⟩:=zPK (fn:=fn) (a:=a) (w:=w') (by rw[hr];exact h v a w' hs he);exact⟨v2,h1,h2⟩
  | panicked c=>exact he.elim
  | outgrown=>exact he.elim
theorem zVQ{x y:Operand}{T:TypeId}{vx vy:Value}(ho:o.op = .index T x y)(hx:ev σ x=some vx)(hy:ev σ y=some vy):∀v w w',(Instr.index T vx vy).run P w = .ok v w'→Eff P σ o w (.value v) w':=fun v w w' hr _ _ hs=>by
 simp[execOp,ho,hs.ev hx,hs.ev hy,hr]
theorem zcQ{x:Operand}{xs:Array Operand}{ts:Array TypeId}{g:FuncId}{fs cs:Array Value}{vs:List Value}{S:World→Prop}{ds done:List Nat}{i:Nat}{t:Scr}(h:G (dfr g fs cs vs::dl) n σ k (Dx P ops Q S ds (i::done) t))(hi:ops[i]?=some o:=by rfl)(ho:o.op = .defer { callee:=.value x,args:=xs,argTypes:=ts }:=by rfl)(hd:o.dst=none:=by rfl)(hw:wants ops σ o=some true:=by rfl)
  (hx:ev σ x=some (.func (.func g) fs cs):=by rfl) (hv:evs σ xs.toList=some vs:=by rfl) (hK:okK ops S ds done i:=by exact zE9):G dl n σ k (Ox P ops Q S ds done i 0 t):=fun a w hs hk=>by
 refine zDi hs hi hw fun hQ=>(zQr hs ho hx hv ⟨hK.keep w w,?_⟩)
 rw[hd,zDj (m:=0)];exact h _ w ⟨hs.1,by rw[←hs.2];rfl⟩ hk hQ
theorem zZx{fn:Func}{kk:Value→K}{rs:List ResultVar}(h:G [] n σ k (Rx P kk rs []))(hr:fn.results=rs.toArray:=by rfl):G [] n σ k (Ex (bodyPost P fn (Ret kk)) .ret):=fun a w hs hk=>by
 obtain⟨v,h1,h2⟩:=zPK (fn:=fn) (by rw[hr];exact h a w hs hk);exact⟨hs.2,v,h1,h2⟩
theorem zZy{fn:Func}{kk:Value→K}(h:G dl n σ k (Ex (bodyPost P fn (Ret kk)) .ret)):G dl n σ k (Ex (bodyPost P fn (Ret kk)) .normal):=h
end
set_option maxRecDepth 100000 in
theorem zXW{P:Program}{n:Nat}{σ:List (Nat×Value)}{k:K}{c:Code}{Q:Exit→Act→World→Prop}(h:G [] n σ k (Cx none P c Q):=by
   repeat' first
   | intro _
   | (refine zdw ?_;first
     | refine zbv ?_
     | (refine zd5 ?_ rfl;first|refine zdf ?_|refine zbs ?_)
     | (refine zCu 0 ?_ rfl;refine zLV (hp:=by exact zXP) ?_)
     | (refine zCu 2 ?_ rfl;first|refine zLV (hp:=by exact zXR) ?_|(refine zXA ?_;intro b hb;subst hb)|(refine zXB ?_;intro g fs cs hf cb;subst hf))
     | (refine zCu 3 ?_ rfl;refine zLV (hp:=by exact zXS) ?_)
     | (refine zCu 13 ?_ rfl;refine zLD (hp:=by exact zJm) ?_)
     | (refine zCu 19 ?_ rfl;first|(refine zdg (hp:=by exact zJp) ?_;intro u;first|refine zZZ ?_|refine zZY ?_|refine zPI ?_|refine zZa ?_|refine zZb ?_|refine zZc ?_)|refine zLD (hp:=by exact zG7 (zbr rfl rfl rfl)) ?_|(refine zbu (hp:=by exact zJp) ?_;intro u;first|refine zbw ?_|refine zdi ?_|refine zdj ?_|skip)|(refine zdh ?_;intro u;first|refine zZZ ?_|refine zZY ?_|refine zPI ?_|refine zZa ?_|refine zZb ?_|refine zZc ?_))
     | (refine zCu 10 ?_ rfl;first|refine zLV (hp:=by exact zSU) ?_|refine zG8 (hp:=by exact zLr) ?_)
     | (refine zCu 8 ?_ rfl;refine zG8 (hp:=by exact zPP) ?_)
     | (refine zCu 20 ?_ rfl;first|refine zLV (hp:=by exact zSX) ?_|refine zLD (hp:=by exact zJn) ?_)
     | (refine zCu 27 ?_ rfl;refine zG8 (hp:=by exact zLw) ?_)
     | (refine zCu 27 ?_ rfl;refine zLD (hp:=by exact zG7 (zVQ rfl rfl rfl)) ?_)
     | (refine zCu 4 ?_ rfl;first|refine zLV (hp:=by exact zXT) ?_|refine zG8 (hp:=by exact zPN) ?_)
     | (refine zCu 17 ?_ rfl;refine zW9 (hp:=by exact zPW) ?_)
     | (refine zCu 1 ?_ rfl;refine zLV (hp:=by exact zXQ) ?_)
     | (refine zCu 6 ?_ rfl;refine zLV (hp:=by exact zXV) ?_)
     | (refine zCu 15 ?_ rfl;refine zML (hp:=by exact zPS) ?_)
     | (refine zCu 16 ?_ rfl;refine zML (hp:=by exact zPT) ?_)
     | (refine zCu 22 ?_ rfl;first|refine zML (hp:=by exact zH3) ?_|refine zbt (hp:=by exact zH3) ?_)
     | (refine zCu 28 ?_ rfl;refine zG8 (hp:=by exact zLx) ?_)
     | (refine zCu 11 ?_ rfl;first|refine zG8 (hp:=by exact zLs) ?_|refine zLV (hp:=by exact zSV) ?_|refine zLD (hp:=by exact zJl) ?_|refine zML (hp:=by exact zPR) ?_)
     | (refine zCu 26 ?_ rfl;first|refine zG8 (hp:=by exact zLv) ?_|refine zLV (hp:=by exact zSY) ?_)
     | (refine zCu 12 ?_ rfl;first|refine zG8 (hp:=by exact zLt) ?_|refine zLV (hp:=by exact zSW) ?_)
     | (refine zCu 5 ?_ rfl;refine zLV (hp:=by exact zXU) ?_)
     | (refine zCu 7 ?_ rfl;refine zG8 (hp:=by exact zPO) ?_)
     | (refine zCu 9 ?_ rfl;refine zG8 (hp:=by exact zPQ) ?_)
     | (refine zCu 14 ?_ rfl;first|refine zLD (hp:=by exact zG7 (zAH rfl rfl rfl)) ?_|(refine zLD (hp:=by exact zKU (zAH rfl rfl rfl)) ?_;intro u;refine zPI ?_))
     | (refine zCu 18 ?_ rfl;refine zW9 (hp:=by exact zPX) ?_)
     | (refine zCu 21 ?_ rfl;refine zG8 (hp:=by exact zLu) ?_)
     | (refine zCu 23 ?_ rfl;refine zML (hp:=by exact zPU) ?_)
     | (refine zCu 24 ?_ rfl;refine zML (hp:=by exact zPV) ?_)
     | (refine zCu 25 ?_ rfl;refine zLD (hp:=by exact zJo) ?_)
     | (refine zCu 99 ?_ rfl;refine zML (hp:=by exact zSa (zHF rfl rfl rfl)) ?_;intro u;refine zPI ?_)
     | (refine zCu 99 ?_ rfl;refine zW9 (hp:=by exact zQh (zFd rfl rfl rfl rfl)) ?_)
     | (refine zCu 99 ?_ rfl;refine zcP ?_)
     | (refine zbx ?_ ?_ <;> (intro hb;refine zLq ?_;intro a w hs;try rw[hb] at hs;clear hb;revert hs;revert w;revert a;refine zPJ ?_)))
   | (refine zdx ?_;first
     | refine zb1 ?_
     | (refine zcM ?_;first|(refine zZf ?_;(repeat apply ze5);refine And.intro zJj (And.intro ?_ ?_))|refine zbz ?_)
     | refine zVP ?_ ?_ rfl
     | refine zZg ?_
     | refine zb0 ?_
     | refine zXD ?_
     | refine zZh ?_
     | refine zZj ?_
     | (refine zZq ?_;first|refine zVG ?_|refine zVH ?_)
     | (refine zZr ?_;first|refine zXK ?_|refine zXJ ?_|refine zXL ?_|refine zXM ?_)
     | refine zXC ?_
     | refine zVO ?_ ?_
     | refine zVN ?_ ?_ ?_
     | refine zJk ?_)
   | (refine zdy ?_;first
     | refine zZk ?_
     | refine zVJ ?_
     | refine zVI ?_
     | refine zb3 ?_
     | refine zXE ?_
     | refine zXF ?_
     | refine zXG ?_
     | (refine zZw ?_;intro u;refine zbw ?_)
     | refine zZl ?_
     | refine zb5 ?_
     | refine zb6 ?_
     | refine zZx ?_
     | refine zZy ?_
     | exact zfH
     | exact zfI
     | exact zfJ
     | refine zJk ?_)
   | exact zZd
   | refine zdk ?_
   | (refine zdz ?_;first
     | refine zb7 ?_
     | refine zb8 ?_
     | refine zZm ?_
     | refine zXH ?_)
   | (refine zd0 ?_;first
     | exact ze7
     | exact ze6
     | exact ze8
     | exact ze9
     | exact zfA
     | exact zfB)
   | (refine zd1 ?_;first
     | refine zcA ?_
     | refine zcB ?_
     | refine zfC ?_
     | (refine zZo ?_ ?_ <;> (intro hb;refine zLq ?_;intro a w hs;try rw[hb] at hs;clear hb;revert hs;revert w;revert a;refine zPJ ?_))
     | (refine zcC ?_ ?_ <;> (intro hb;refine zLq ?_;intro a w hs;try rw[hb] at hs;clear hb;revert hs;revert w;revert a;refine zPJ ?_))
     | (refine zcN ?_ rfl;first|refine zdl ?_|refine zb9 ?_)
     | (refine zFc 0 ?_ rfl;refine zLW (hp:=by exact zXP) ?_)
     | (refine zFc 2 ?_ rfl;first|refine zLW (hp:=by exact zXR) ?_|(refine zdm ?_;intro b hb;subst hb)|(refine zXA ?_;intro b hb;subst hb)|(refine zdn ?_;intro g fs cs hf cb;subst hf)|(refine zXB ?_;intro g fs cs hf cb;subst hf))
     | (refine zFc 3 ?_ rfl;refine zLW (hp:=by exact zXS) ?_)
     | (refine zFc 13 ?_ rfl;first|refine zOG (hp:=by exact zJm) ?_|refine zVM (hp:=by exact zZt) ?_)
     | (refine zFc 10 ?_ rfl;first|refine zLW (hp:=by exact zSU) ?_|refine zE8 (hp:=by exact zLr) ?_|refine zHB (hp:=by exact zLr) ?_)
     | (refine zFc 8 ?_ rfl;first|refine zE8 (hp:=by exact zPP) ?_|refine zHB (hp:=by exact zPP) ?_)
     | (refine zFc 20 ?_ rfl;first|refine zLW (hp:=by exact zSX) ?_|refine zOG (hp:=by exact zJn) ?_|refine zVM (hp:=by exact zZu) ?_)
     | (refine zFc 27 ?_ rfl;first|refine zE8 (hp:=by exact zLw) ?_|refine zHB (hp:=by exact zLw) ?_)
     | (refine zFc 4 ?_ rfl;first|refine zLW (hp:=by exact zXT) ?_|refine zE8 (hp:=by exact zPN) ?_|refine zHB (hp:=by exact zPN) ?_)
     | (refine zFc 1 ?_ rfl;refine zLW (hp:=by exact zXQ) ?_)
     | (refine zFc 6 ?_ rfl;refine zLW (hp:=by exact zXV) ?_)
     | (refine zFc 28 ?_ rfl;first|refine zE8 (hp:=by exact zLx) ?_|refine zHB (hp:=by exact zLx) ?_)
     | (refine zFc 11 ?_ rfl;first|refine zE8 (hp:=by exact zLs) ?_|refine zHB (hp:=by exact zLs) ?_|refine zLW (hp:=by exact zSV) ?_|refine zOG (hp:=by exact zJl) ?_|refine zVM (hp:=by exact zZs) ?_)
     | (refine zFc 26 ?_ rfl;first|refine zE8 (hp:=by exact zLv) ?_|refine zHB (hp:=by exact zLv) ?_|refine zLW (hp:=by exact zSY) ?_)
     | (refine zFc 12 ?_ rfl;first|refine zE8 (hp:=by exact zLt) ?_|refine zHB (hp:=by exact zLt) ?_|refine zLW (hp:=by exact zSW) ?_)
     | (refine zFc 5 ?_ rfl;refine zLW (hp:=by exact zXU) ?_)
     | (refine zFc 7 ?_ rfl;first|refine zE8 (hp:=by exact zPO) ?_|refine zHB (hp:=by exact zPO) ?_)
     | (refine zFc 9 ?_ rfl;first|refine zE8 (hp:=by exact zPQ) ?_|refine zHB (hp:=by exact zPQ) ?_)
     | (refine zFc 14 ?_ rfl;first|refine zOG (hp:=by exact zG7 (zAH rfl rfl rfl)) ?_|(refine zOG (hp:=by exact zKU (zAH rfl rfl rfl)) ?_;intro u;refine zMN ?_)|refine zVM (hp:=by exact zQd (zAH rfl rfl rfl)) ?_|(refine zVM (hp:=by exact zW0 (zAH rfl rfl rfl)) ?_;intro u;refine zMN ?_))
     | (refine zFc 21 ?_ rfl;first|refine zE8 (hp:=by exact zLu) ?_|refine zHB (hp:=by exact zLu) ?_)
     | (refine zFc 25 ?_ rfl;first|refine zOG (hp:=by exact zJo) ?_|refine zVM (hp:=by exact zZv) ?_)
     | refine zJk ?_)
   | (refine zd2 ?_;first
     | (refine zI4 13 ?_ rfl;first|refine zKV (hp:=by exact zJm) ?_|refine zOI (hp:=by exact zJm) ?_)
     | (refine zI4 19 ?_ rfl;first|(refine zdu (hp:=by exact zJp) ?_;intro u;first|refine zcD ?_|refine zcO ?_|refine zMN ?_)|(refine zfD (hp:=by exact zJp) ?_;intro u;first|refine zZZ ?_|refine zZY ?_|refine zPI ?_|refine zZa ?_|refine zZb ?_|refine zZc ?_)|(refine zdp (hp:=by exact zJp) ?_;intro u;first|refine zbw ?_|refine zdi ?_|refine zdj ?_|skip)|(refine zfE ?_;intro u;first|refine zZZ ?_|refine zZY ?_|refine zPI ?_|refine zZa ?_|refine zZb ?_|refine zZc ?_))
     | (refine zI4 20 ?_ rfl;first|refine zKV (hp:=by exact zJn) ?_|refine zOI (hp:=by exact zJn) ?_)
     | (refine zI4 17 ?_ rfl;first|refine zXI (hp:=by exact zPW) ?_|refine zcH (hp:=by exact zPW) ?_)
     | (refine zI4 15 ?_ rfl;first|refine zOH (hp:=by exact zPS) ?_|refine zST (hp:=by exact zPS) ?_)
     | (refine zI4 16 ?_ rfl;first|refine zOH (hp:=by exact zPT) ?_|refine zST (hp:=by exact zPT) ?_)
     | (refine zI4 22 ?_ rfl;first|refine zOH (hp:=by exact zH3) ?_|refine zST (hp:=by exact zH3) ?_|refine zcI (hp:=by exact zH3) ?_|refine zdo (hp:=by exact zH3) ?_)
     | (refine zI4 11 ?_ rfl;first|refine zOH (hp:=by exact zPR) ?_|refine zST (hp:=by exact zPR) ?_|refine zKV (hp:=by exact zJl) ?_|refine zOI (hp:=by exact zJl) ?_)
     | (refine zI4 14 ?_ rfl;first|refine zKV (hp:=by exact zG7 (zAH rfl rfl rfl)) ?_|(refine zKV (hp:=by exact zKU (zAH rfl rfl rfl)) ?_;intro u;refine zMN ?_)|refine zOI (hp:=by exact zG7 (zAH rfl rfl rfl)) ?_|(refine zOI (hp:=by exact zKU (zAH rfl rfl rfl)) ?_;intro u;refine zPI ?_))
     | (refine zI4 18 ?_ rfl;first|refine zXI (hp:=by exact zPX) ?_|refine zcH (hp:=by exact zPX) ?_)
     | (refine zI4 23 ?_ rfl;first|refine zOH (hp:=by exact zPU) ?_|refine zST (hp:=by exact zPU) ?_)
     | (refine zI4 24 ?_ rfl;first|refine zOH (hp:=by exact zPV) ?_|refine zST (hp:=by exact zPV) ?_)
     | (refine zI4 25 ?_ rfl;first|refine zKV (hp:=by exact zJo) ?_|refine zOI (hp:=by exact zJo) ?_)
     | (refine zI4 99 ?_ rfl;first|(refine zd7 (hp:=by exact zSa (zHF rfl rfl rfl)) (hS:=zbP) ?_;intro u;refine zMN ?_)|(refine zST (hp:=by exact zSa (zHF rfl rfl rfl)) ?_;intro u;refine zPI ?_)|refine zXI (hp:=by exact zQh (zFd rfl rfl rfl rfl)) ?_|refine zcH (hp:=by exact zQh (zFd rfl rfl rfl rfl)) ?_)
     | (refine zI4 99 ?_ rfl;refine zcQ ?_)
     | refine zJk ?_)
   | refine zZp ?_ ?_
   | refine zcE ?_ ?_
   | exact zcF
   | refine zcG ?_
   | (refine zd4 ?_;exact zb2)
   | (refine zd3 ?_;first
     | refine zcK ?_
     | (refine zd6 ?_ rfl;refine zdv ?_)
     | (refine zFb 0 ?_ rfl;refine zLX (hp:=by exact zXP) ?_)
     | (refine zFb 2 ?_ rfl;first|refine zLX (hp:=by exact zXR) ?_|(refine zXA ?_;intro b hb;subst hb)|(refine zXB ?_;intro g fs cs hf cb;subst hf))
     | (refine zFb 3 ?_ rfl;refine zLX (hp:=by exact zXS) ?_)
     | (refine zFb 13 ?_ rfl;refine zOJ (hp:=by exact zJm) ?_)
     | (refine zFb 10 ?_ rfl;first|refine zLX (hp:=by exact zSU) ?_|refine zHC (hp:=by exact zLr) ?_)
     | (refine zFb 8 ?_ rfl;refine zHC (hp:=by exact zPP) ?_)
     | (refine zFb 20 ?_ rfl;first|refine zLX (hp:=by exact zSX) ?_|refine zOJ (hp:=by exact zJn) ?_)
     | (refine zFb 27 ?_ rfl;refine zHC (hp:=by exact zLw) ?_)
     | (refine zFb 4 ?_ rfl;first|refine zLX (hp:=by exact zXT) ?_|refine zHC (hp:=by exact zPN) ?_)
     | (refine zFb 1 ?_ rfl;refine zLX (hp:=by exact zXQ) ?_)
     | (refine zFb 6 ?_ rfl;refine zLX (hp:=by exact zXV) ?_)
     | (refine zFb 28 ?_ rfl;refine zHC (hp:=by exact zLx) ?_)
     | (refine zFb 11 ?_ rfl;first|refine zHC (hp:=by exact zLs) ?_|refine zLX (hp:=by exact zSV) ?_|refine zOJ (hp:=by exact zJl) ?_)
     | (refine zFb 26 ?_ rfl;first|refine zHC (hp:=by exact zLv) ?_|refine zLX (hp:=by exact zSY) ?_)
     | (refine zFb 12 ?_ rfl;first|refine zHC (hp:=by exact zLt) ?_|refine zLX (hp:=by exact zSW) ?_)
     | (refine zFb 5 ?_ rfl;refine zLX (hp:=by exact zXU) ?_)
     | (refine zFb 7 ?_ rfl;refine zHC (hp:=by exact zPO) ?_)
     | (refine zFb 9 ?_ rfl;refine zHC (hp:=by exact zPQ) ?_)
     | (refine zFb 14 ?_ rfl;first|refine zOJ (hp:=by exact zG7 (zAH rfl rfl rfl)) ?_|(refine zOJ (hp:=by exact zKU (zAH rfl rfl rfl)) ?_;intro u;refine zPI ?_))
     | (refine zFb 21 ?_ rfl;refine zHC (hp:=by exact zLu) ?_)
     | (refine zFb 25 ?_ rfl;refine zOJ (hp:=by exact zJo) ?_)
     | (refine zcJ ?_ ?_ <;> (intro hb;refine zLq ?_;intro a w hs;try rw[hb] at hs;clear hb;revert hs;revert w;revert a;refine zPJ ?_)))
   | refine zfF ?_
   | refine zfG ?_
   | exact zZe
   | refine zJk ?_):G [] n σ k (Cx none P c Q):=h
theorem zJ{P:Program}{f:FuncId}{fn:Func}{c:Code}{args:List Value}{kk:Value→K}{k:K}(n:Nat){w:World}(hk:k w)(hf:P.funcs[f]?=some fn)(hb:fn.body=some c:=by rfl)(hn:fn.ntmps=n:=by rfl)(hl:Nat.ble args.length n=true:=by rfl)
  (h:G [] n (zVK 0 args) k (Cx none P c (zCl P fn (Ret kk))):=by exact zXW):zI P f args.toArray kk w:=zZn n hk hf h hb hn hl
theorem zZz{P:Program}{f:FuncId}{fn:Func}{c:Code}{args:List Value}{kk:Value→K}{k:K}(n:Nat){w:World}(hk:k w)(hf:P.funcs[f]?=some fn)(hb:fn.body=some c:=by rfl)(hn:fn.ntmps=n:=by rfl)(hl:Nat.ble args.length n=true:=by rfl)
  (h:G [] n (zVK 0 args) k (Cx none P c (bodyPost P fn (Ret kk))):=by exact zXW):zQq P f args.toArray kk w:=fun u=>by
 subst hn;refine callsDIn_of_wp hf hb trivial ?_;exact h _ w (by rw[←zT4];exact zAN.init args _ (zgY hl)) hk
end
end Go.Sep
namespace Go.Proofs.YtlelhlcjaapkoaaGreat
section
open Go Go.Sep
def zV.call(a:Int)(b:Sl)(k:Bool→K): K:=zI Tryz.prog 3 [.int .i64 a,Sl.val b].toArray (yH Value.bool k)
def yY.call  (k:Bool→K): K:=zI Tryz.prog 7 [].toArray (yH Value.bool k)
def xU.call(a:Sl)(k:Bool→K): K:=zI Tryz.prog 8 [Sl.val a].toArray (yH Value.bool k)
def zEB.call(a b c:Int)(k:Pt→K): K:=zI Tryz.prog 9 [.int .i64 a,.int .u64 b,.int .i64 c].toArray (yH Value.pointer k)
def uI.call(c:Int)(k:Pt→Int→K): K:=zI Tryz.prog 10 [.int .i64 c].toArray (jm (fun a b=>.tuple #[Value.pointer a,(Value.int .i64) b]) k)
def zE0.call(a:Int)(k:Pt→K): K:=zI Tryz.prog 11 [.int .i64 a].toArray (yH Value.pointer k)
def yF.call(a b:Pt)(k:Sl→K): K:=zI Tryz.prog 12 [.pointer a,.pointer b].toArray (yH Sl.val k)
def zAY.call(a b:Sl)(k:Bool→K): K:=zI Tryz.prog 13 [Sl.val a,Sl.val b].toArray (yH Value.bool k)
def qN.call(a b:Pt)(k:Sl→K): K:=zI Tryz.prog 14 [.pointer a,.pointer b].toArray (yH Sl.val k)
def zBe.call(a b:Pt)(c:Av)(d:Int)(k:K): K:=zI Tryz.prog 15 [.pointer a,.pointer b,.agg c,.int .i64 d].toArray (uZ (.tuple #[]) k)
def qb.call(a b:Pt)(c d:Av)(k:Bool→K): K:=zI Tryz.prog 16 [.pointer a,.pointer b,.agg c,.agg d].toArray (yH Value.bool k)
def vk.call(a:Pt)(k:Sl→K): K:=zI Tryz.prog 17 [.pointer a].toArray (yH Sl.val k)
def zf.call(a:Pt)(b:Int)(c:Av)(k:Sl→K): K:=zI Tryz.prog 20 [.pointer a,.int .i64 b,.agg c].toArray (yH Sl.val k)
def zM.call(a:Pt)(b:Int)(c:Av)(k:Sl→K): K:=zI Tryz.prog 22 [.pointer a,.int .i64 b,.agg c].toArray (yH Sl.val k)
def yB.call(a:Pt)(b:Av)(k:Sl→K): K:=zI Tryz.prog 26 [.pointer a,.agg b].toArray (yH Sl.val k)
def uy.call(c:Pt)(d:Av)(k:Av→Int→K): K:=zI Tryz.prog 36 [.pointer c,.agg d].toArray (jm (fun a b=>.tuple #[Value.agg a,(Value.int .i64) b]) k)
def yI.call(c:Pt)(d:Av)(k:Av→Bool→K): K:=zI Tryz.prog 37 [.pointer c,.agg d].toArray (jm (fun a b=>.tuple #[Value.agg a,Value.bool b]) k)
def qB.call(a:Av)(k:Bool→K): K:=zI Tryz.prog 38 [.agg a].toArray (yH Value.bool k)
def zBr.call(c:Int)(k:Pt→Int→K): K:=zI Tryz.prog 39 [.int .i64 c].toArray (jm (fun a b=>.tuple #[Value.pointer a,(Value.int .i64) b]) k)
def zDP.call  (k:Pt→K): K:=zI Tryz.prog 40 [].toArray (yH Value.pointer k)
def zBf.call(a:Int)(k:Pt→K): K:=zI Tryz.prog 41 [.int .i64 a].toArray (yH Value.pointer k)
def zE1.call(a:Int)(k:Pt→K): K:=zI Tryz.prog 42 [.int .i64 a].toArray (yH Value.pointer k)
def uP.call(a:Pt)(b c:Av)(k:Av→K): K:=zI Tryz.prog 43 [.pointer a,.agg b,.agg c].toArray (yH Value.agg k)
def zB5.call(a:Av)(k:Av→K): K:=zI Tryz.prog 44 [.agg a].toArray (yH Value.agg k)
def uz.call(a b:Av)(k:Bool→K): K:=zI Tryz.prog 45 [.agg a,.agg b].toArray (yH Value.bool k)
def zA6.call(a:Pt)(b:Av)(k:Sl→K): K:=zI Tryz.prog 46 [.pointer a,.agg b].toArray (yH Sl.val k)
def xE.call(c:Pt)(d:Av)(k:Av→Bool→K): K:=zI Tryz.prog 47 [.pointer c,.agg d].toArray (jm (fun a b=>.tuple #[Value.agg a,Value.bool b]) k)
def uQ.call(a b:Av)(k:Bool→K): K:=zI Tryz.prog 48 [.agg a,.agg b].toArray (yH Value.bool k)
def zBC.call(c:Pt)(d:Av)(k:Av→Bool→K): K:=zI Tryz.prog 49 [.pointer c,.agg d].toArray (jm (fun a b=>.tuple #[Value.agg a,Value.bool b]) k)
def zBD.call(c:Pt)(d:Av)(k:Av→Bool→K): K:=zI Tryz.prog 50 [.pointer c,.agg d].toArray (jm (fun a b=>.tuple #[Value.agg a,Value.bool b]) k)
def qx.call(a:Av)(k:Av→K): K:=zI Tryz.prog 51 [.agg a].toArray (yH Value.agg k)
def xQ.call(c:Pt)(d:Av)(k:Av→Int→K): K:=zI Tryz.prog 52 [.pointer c,.agg d].toArray (jm (fun a b=>.tuple #[Value.agg a,(Value.int .i64) b]) k)
def yR.call(c:Av)(k:Sl→Int→K): K:=zI Tryz.prog 54 [.agg c].toArray (jm (fun a b=>.tuple #[Sl.val a,(Value.int .i64) b]) k)
def vQ.call(a:Pt)(b:Int)(k:Bool→K): K:=zI Tryz.prog 55 [.pointer a,.int .i64 b].toArray (yH Value.bool k)
def yK.call(a:Av)(b:Int)(k:Int→K): K:=zI Tryz.prog 56 [.agg a,.int .i64 b].toArray (yH (Value.int .i64) k)
def yh.call(a:Pt)(b:Av)(k:Bool→K): K:=zI Tryz.prog 57 [.pointer a,.agg b].toArray (yH Value.bool k)
def zBE.call(a:Pt)(b:Av)(k:Pt→K): K:=zI Tryz.prog 58 [.pointer a,.agg b].toArray (yH Value.pointer k)
def vM.call(a:Pt)(k:Sl→K): K:=zI Tryz.prog 59 [.pointer a].toArray (yH Sl.val k)
def vJ.call(a:Av)(k:Sl→K): K:=zI Tryz.prog 60 [.agg a].toArray (yH Sl.val k)
def jZ.call(a:Av)(b:Int)(k:Sl→K): K:=zI Tryz.prog 61 [.agg a,.int .i64 b].toArray (yH Sl.val k)
def yc.call(a:Sl)(b:Value)(k:Sl→K): K:=zI Tryz.prog 62 [Sl.val a,b].toArray (yH Sl.val k)
def zB6.call(a:Int)(b:Addr)(k:Bool→K): K:=zI Tryz.prog 63 [.int .i64 a,(.pointer (some b))].toArray (yH Value.bool k)
def yu.call(a b:Pt)(c:Av)(d:Sl)(k:K): K:=zI Tryz.prog 64 [.pointer a,.pointer b,.agg c,Sl.val d].toArray (uZ (.tuple #[]) k)
def vo.call(a b:Av)(k:Bool→K): K:=zI Tryz.prog 65 [.agg a,.agg b].toArray (yH Value.bool k)
def vF.call(a:Av)(k:Bool→K): K:=zI Tryz.prog 66 [.agg a].toArray (yH Value.bool k)
def xB.call(a:Av)(b:Int)(k:Bool→K): K:=zI Tryz.prog 67 [.agg a,.int .i64 b].toArray (yH Value.bool k)
def zAO.call(a:Pt)(b:Int)(k:Bool→K): K:=zI Tryz.prog 68 [.pointer a,.int .i64 b].toArray (yH Value.bool k)
def uR.call(a:Pt)(b:Av)(k:Int→K): K:=zI Tryz.prog 69 [.pointer a,.agg b].toArray (yH (Value.int .i64) k)
def zG.call(a:Pt)(k:Sl→K): K:=zI Tryz.prog 70 [.pointer a].toArray (yH Sl.val k)
def jF.call(a:Av)(b:Int)(k:Sl→K): K:=zI Tryz.prog 71 [.agg a,.int .i64 b].toArray (yH Sl.val k)
def zk.call(a b:Pt)(c:Av)(d:Sl)(k:K): K:=zI Tryz.prog 72 [.pointer a,.pointer b,.agg c,Sl.val d].toArray (uZ (.tuple #[]) k)
def xM.call(a:Pt)(k:Sl→K): K:=zI Tryz.prog 78 [.pointer a].toArray (yH Sl.val k)
def jG.call(a:Sl)(b:ByteArray)(k:Sl→K): K:=zI Tryz.prog 79 [Sl.val a,.string b].toArray (yH Sl.val k)
def zBJ.call(a:Sl)(b:Av)(k:Bool→K): K:=zI Tryz.prog 80 [Sl.val a,.agg b].toArray (yH Value.bool k)
def bytes_Equal.call(a b:Sl)(k:Bool→K): K:=zI Tryz.prog 88 [Sl.val a,Sl.val b].toArray (yH Value.bool k)
def zy.call(a:Av)(b:Int)(k:Bool→K): K:=zI Tryz.prog 94 [.agg a,.int .i64 b].toArray (yH Value.bool k)
def zAC.call(a:Av)(k:Bool→K): K:=zI Tryz.prog 95 [.agg a].toArray (yH Value.bool k)
def vI.call(a:Pt)(b:Int)(k:K): K:=zI Tryz.prog 97 [.pointer a,.int .u64 b].toArray (uZ (.tuple #[]) k)
def zAZ.call(a:Pt)(b:Sl)(k:K): K:=zI Tryz.prog 100 [.pointer a,Sl.val b].toArray (uZ (.tuple #[]) k)
def zCL.call(a:Pt)(k:Sl→K): K:=zI Tryz.prog 102 [.pointer a].toArray (yH Sl.val k)
def qy.call(a:Av)(b:Int)(k:Int→K): K:=zI Tryz.prog 105 [.agg a,.int .i64 b].toArray (yH (Value.int .i64) k)
def zBV.call(a:Av)(k:Av→K): K:=zI Tryz.prog 106 [.agg a].toArray (yH Value.agg k)
def zAP.call(a:Pt)(b:Av)(k:Int→K): K:=zI Tryz.prog 107 [.pointer a,.agg b].toArray (yH (Value.int .i64) k)
def vB.call(a:Sl)(k:Sl→K): K:=zI Tryz.prog 108 [Sl.val a].toArray (yH Sl.val k)
def uG.call(a:Sl)(k:Sl→K): K:=zI Tryz.prog 109 [Sl.val a].toArray (yH Sl.val k)
def jc.call(c:Pt)(d:Int)(f:Av)(k:Av→Bool→K): K:=zI Tryz.prog 110 [.pointer c,.int .i64 d,.agg f].toArray (jm (fun a b=>.tuple #[Value.agg a,Value.bool b]) k)
def uV.call  (k:Pt→K): K:=zI Tryz.prog 111 [].toArray (yH Value.pointer k)
def zEC.call(a:Pt)(b c:Av)(k:Av→K): K:=zI Tryz.prog 112 [.pointer a,.agg b,.agg c].toArray (yH Value.agg k)
def qP.call(a:Sl)(k:Sl→K): K:=zI Tryz.prog 113 [Sl.val a].toArray (yH Sl.val k)
def qF.call(a b:Av)(k:Bool→K): K:=zI Tryz.prog 114 [.agg a,.agg b].toArray (yH Value.bool k)
def qU.call(a:Av)(k:Sl→K): K:=zI Tryz.prog 115 [.agg a].toArray (yH Sl.val k)
def qo.call(a:Pt)(b:ByteArray)(k:Av→K): K:=zI Tryz.prog 116 [.pointer a,.string b].toArray (yH Value.agg k)
def ql.call(a:Pt)(b:Av)(k:Int→K): K:=zI Tryz.prog 117 [.pointer a,.agg b].toArray (yH (Value.int .i64) k)
def zAQ.call(a:Pt)(b:Int)(k:K): K:=zI Tryz.prog 118 [.pointer a,.int .i64 b].toArray (uZ (.tuple #[]) k)
def zBK.call(a:Pt)(b:Sl)(k:K): K:=zI Tryz.prog 119 [.pointer a,Sl.val b].toArray (uZ (.tuple #[]) k)
def jH.call(a:Pt)(b:Av)(k:K): K:=zI Tryz.prog 120 [.pointer a,.agg b].toArray (uZ (.tuple #[]) k)
def zDQ.call(a:Av)(k:Sl→K): K:=zI Tryz.prog 121 [.agg a].toArray (yH Sl.val k)
def uJ.call(a:Sl)(b:Int)(k:Bool→K): K:=zI Tryz.prog 122 [Sl.val a,.int .i64 b].toArray (yH Value.bool k)
def zAI.call(a:Pt)(b:Av)(k:Bool→K): K:=zI Tryz.prog 123 [.pointer a,.agg b].toArray (yH Value.bool k)
def yg.call(a:Sl)(b:Value)(k:Int→K): K:=zI Tryz.prog 124 [Sl.val a,b].toArray (yH (Value.int .i64) k)
def zB7.call(a:Pt)(b:Addr)(k:Bool→K): K:=zI Tryz.prog 125 [.pointer a,(.pointer (some b))].toArray (yH Value.bool k)
def vH.call(a:Pt)(b:Addr)(k:Bool→K): K:=zI Tryz.prog 126 [.pointer a,(.pointer (some b))].toArray (yH Value.bool k)
def jd.call(a:Pt)(b:Av)(k:Bool→K): K:=zI Tryz.prog 127 [.pointer a,.agg b].toArray (yH Value.bool k)
def qd.call(a:Pt)(b:Av)(k:Bool→K): K:=zI Tryz.prog 128 [.pointer a,.agg b].toArray (yH Value.bool k)
def xu.call(a:Sl)(b c:Int)(k:Sl→K): K:=zI Tryz.prog 129 [Sl.val a,.int .i64 b,.int .i64 c].toArray (yH Sl.val k)
def yG.call(a:Pt)(b:Av)(k:Av→K): K:=zI Tryz.prog 130 [.pointer a,.agg b].toArray (yH Value.agg k)
def zBR.call(a:Sl)(k:K): K:=zI Tryz.prog 131 [Sl.val a].toArray (uZ (.tuple #[]) k)
def yA.call(a:Sl)(k:Sl→K): K:=zI Tryz.prog 132 [Sl.val a].toArray (yH Sl.val k)
def xL.call(a:Sl)(b:Value)(k:Int→K): K:=zI Tryz.prog 133 [Sl.val a,b].toArray (yH (Value.int .i64) k)
def vC.call(a:Pt)(b:ByteArray)(k:Pt→K): K:=zI Tryz.prog 134 [.pointer a,.string b].toArray (yH Value.pointer k)
def yT.call(a:Sl)(b:Value)(k:Bool→K): K:=zI Tryz.prog 135 [Sl.val a,b].toArray (yH Value.bool k)
def zC1.call(a:Av)(k:Value→K): K:=zI Tryz.prog 136 [.agg a].toArray (yH id k)
def zAD.call(a b:Av)(k:Int→K): K:=zI Tryz.prog 137 [.agg a,.agg b].toArray (yH (Value.int .i64) k)
def qX.call(a:Pt)(b:ByteArray)(k:Av→K): K:=zI Tryz.prog 138 [.pointer a,.string b].toArray (yH Value.agg k)
def qm.call(a:Int)(b:Sl)(c:Int)(k:Bool→K): K:=zI Tryz.prog 139 [.int .i64 a,Sl.val b,.int .i64 c].toArray (yH Value.bool k)
def zCm.call(a:Pt)(k:K): K:=zI Tryz.prog 140 [.pointer a].toArray (uZ (.tuple #[]) k)
def jP.call(a:Av)(k:Bool→K): K:=zI Tryz.prog 141 [.agg a].toArray (yH Value.bool k)
def uD.call(a:Pt)(b:Av)(k:Bool→K): K:=zI Tryz.prog 142 [.pointer a,.agg b].toArray (yH Value.bool k)
def qg.call(a:Pt)(b:Av)(k:K): K:=zI Tryz.prog 143 [.pointer a,.agg b].toArray (uZ (.tuple #[]) k)
def xO.call(c:Pt)(d:Av)(k:Av→Sl→K): K:=zI Tryz.prog 144 [.pointer c,.agg d].toArray (jm (fun a b=>.tuple #[Value.agg a,Sl.val b]) k)
def zAj.call(a:Pt)(b:Sl)(k:K): K:=zI Tryz.prog 145 [.pointer a,Sl.val b].toArray (uZ (.tuple #[]) k)
def zK.call(a b:Pt)(c:ByteArray)(k:K): K:=zI Tryz.prog 146 [.pointer a,.pointer b,.string c].toArray (uZ (.tuple #[]) k)
def jM.call(a:Sl)(b:ByteArray)(c:Av)(k:Bool→K): K:=zI Tryz.prog 147 [Sl.val a,.string b,.agg c].toArray (yH Value.bool k)
def zAR.call(a b:Av)(k:Int→K): K:=zI Tryz.prog 148 [.agg a,.agg b].toArray (yH (Value.int .i64) k)
def jg.call(a:Pt)(b:Av)(k:K): K:=zI Tryz.prog 149 [.pointer a,.agg b].toArray (uZ (.tuple #[]) k)
def xR.call(a:Int)(b:Sl)(k:Int→K): K:=zI Tryz.prog 150 [.int .i64 a,Sl.val b].toArray (yH (Value.int .i64) k)
def jQ.call(a:Sl)(k:Sl→K): K:=zI Tryz.prog 159 [Sl.val a].toArray (yH Sl.val k)
def j4.call(a:ByteArray)(b:Int)(k:Int→K): K:=zI Tryz.prog 163 [.string a,.int .i64 b].toArray (yH (Value.int .i64) k)
def vG.call(a:Pt)(b:ByteArray)(c:Av)(k:K): K:=zI Tryz.prog 164 [.pointer a,.string b,.agg c].toArray (uZ (.tuple #[]) k)
def j5.call(a:ByteArray)(b:Int)(k:Int→K): K:=zI Tryz.prog 166 [.string a,.int .i64 b].toArray (yH (Value.int .i64) k)
def zA0.call(a:Sl)(k:Bool→K): K:=zI Tryz.prog 167 [Sl.val a].toArray (yH Value.bool k)
def zBs.call(a:Sl)(b:ByteArray)(k:Bool→K): K:=zI Tryz.prog 168 [Sl.val a,.string b].toArray (yH Value.bool k)
def xY.call(a b:Av)(k:Bool→K): K:=zI Tryz.prog 169 [.agg a,.agg b].toArray (yH Value.bool k)
def vT.call(a:Av)(k:Bool→K): K:=zI Tryz.prog 177 [.agg a].toArray (yH Value.bool k)
def zEs.call(a:Av)(b:Addr)(k:Bool→K): K:=zI Tryz.prog 178 [.agg a,(.pointer (some b))].toArray (yH Value.bool k)
def y8.call(a b:Av)(k:Bool→K): K:=zI Tryz.prog 179 [.agg a,.agg b].toArray (yH Value.bool k)
def xw.call(a:Sl)(b:Value)(k:Bool→K): K:=zI Tryz.prog 180 [Sl.val a,b].toArray (yH Value.bool k)
def xS.call(a:Sl)(k:Sl→K): K:=zI Tryz.prog 181 [Sl.val a].toArray (yH Sl.val k)
def vN.call(a:Sl)(k:Sl→K): K:=zI Tryz.prog 182 [Sl.val a].toArray (yH Sl.val k)
def yj.call(a:Sl)(b:Value)(k:Int→K): K:=zI Tryz.prog 183 [Sl.val a,b].toArray (yH (Value.int .i64) k)
def uK.call(a:Pt)(b:Addr)(k:Bool→K): K:=zI Tryz.prog 184 [.pointer a,(.pointer (some b))].toArray (yH Value.bool k)
def xG.call(a:Sl)(b c:Int)(k:Sl→K): K:=zI Tryz.prog 185 [Sl.val a,.int .i64 b,.int .i64 c].toArray (yH Sl.val k)
def zA7.call(a:Pt)(b:Av)(k:Sl→K): K:=zI Tryz.prog 186 [.pointer a,.agg b].toArray (yH Sl.val k)
def uM.call(a b:Sl)(k:Bool→K): K:=zI Tryz.prog 187 [Sl.val a,Sl.val b].toArray (yH Value.bool k)
def zAk.call(a:Pt)(b:Sl)(k:K): K:=zI Tryz.prog 188 [.pointer a,Sl.val b].toArray (uZ (.tuple #[]) k)
def zCn.call(a:Int)(k:Int→K): K:=zI Tryz.prog 189 [.int .i64 a].toArray (yH (Value.int .u64) k)
def zX.call(a:Sl)(k:Sl→K): K:=zI Tryz.prog 190 [Sl.val a].toArray (yH Sl.val k)
def uW.call(a:Sl)(k:K): K:=zI Tryz.prog 191 [Sl.val a].toArray (uZ (.tuple #[]) k)
def zW.call(a:Sl)(k:Sl→K): K:=zI Tryz.prog 192 [Sl.val a].toArray (yH Sl.val k)
def xq.call(a:Sl)(b:Int)(k:Int→K): K:=zI Tryz.prog 193 [Sl.val a,.int .i64 b].toArray (yH (Value.int .i64) k)
def zm.call(a:Sl)(b:Value)(k:Int→K): K:=zI Tryz.prog 194 [Sl.val a,b].toArray (yH (Value.int .i64) k)
def qK.call(a:Pt)(b:Av)(k:K): K:=zI Tryz.prog 195 [.pointer a,.agg b].toArray (uZ (.tuple #[]) k)
def qK.zT7(a:Pt)(b:Av)(k:K): K:=zQq Tryz.prog 195 [.pointer a,.agg b].toArray (uZ (.tuple #[]) k)
def u6.call(c:Pt)(d:Av)(k:Av→Sl→K): K:=zI Tryz.prog 196 [.pointer c,.agg d].toArray (jm (fun a b=>.tuple #[Value.agg a,Sl.val b]) k)
def vK.call(a:Pt)(b:Sl)(k:K): K:=zI Tryz.prog 197 [.pointer a,Sl.val b].toArray (uZ (.tuple #[]) k)
def qz.call(a b:Pt)(c:ByteArray)(k:K): K:=zI Tryz.prog 198 [.pointer a,.pointer b,.string c].toArray (uZ (.tuple #[]) k)
def zFN.call(a:Sl)(b c d:Int)(k:K): K:=zI Tryz.prog 199 [Sl.val a,.int .i64 b,.int .i64 c,.int .i64 d].toArray (uZ (.tuple #[]) k)
def zIr.call(a:Int)(k:Int→K): K:=zI Tryz.prog 200 [.int .u64 a].toArray (yH (Value.int .i64) k)
def zI7.call(a:Av)(b:Addr)(k:Bool→K): K:=zI Tryz.prog 201 [.agg a,(.pointer (some b))].toArray (yH Value.bool k)
def qQ.call(c:Pt)(d:ByteArray)(k:Av→Bool→K): K:=zI Tryz.prog 202 [.pointer c,.string d].toArray (jm (fun a b=>.tuple #[Value.agg a,Value.bool b]) k)
def zA1.call(a:Av)(b:Int)(k:Bool→K): K:=zI Tryz.prog 203 [.agg a,.int .i64 b].toArray (yH Value.bool k)
def zAE.call(a:Av)(k:Bool→K): K:=zI Tryz.prog 204 [.agg a].toArray (yH Value.bool k)
def xI.call(a:Sl)(b:Av)(k:Sl→K): K:=zI Tryz.prog 205 [Sl.val a,.agg b].toArray (yH Sl.val k)
def qG.call(a:Av)(k:Sl→K): K:=zI Tryz.prog 206 [.agg a].toArray (yH Sl.val k)
def zBF.call(a:Pt)(k:Pt→K): K:=zI Tryz.prog 207 [.pointer a].toArray (yH Value.pointer k)
def vD.call(a:Pt)(b:ByteArray)(c:Int)(k:Int→K): K:=zI Tryz.prog 208 [.pointer a,.string b,.int .i64 c].toArray (yH (Value.int .i64) k)
def zAF.call(c:Pt)(d:Av)(k:Sl→Int→K): K:=zI Tryz.prog 209 [.pointer c,.agg d].toArray (jm (fun a b=>.tuple #[Sl.val a,(Value.int .i64) b]) k)
def zR.call(a:Pt)(b:ByteArray)(c:Av)(k:K): K:=zI Tryz.prog 210 [.pointer a,.string b,.agg c].toArray (uZ (.tuple #[]) k)
def jh.call(a:Value)(k:Sl→K): K:=zI Tryz.prog 213 [a].toArray (yH Sl.val k)
def yL.call(c:Pt)(d:ByteArray)(k:Av→Bool→K): K:=zI Tryz.prog 219 [.pointer c,.string d].toArray (jm (fun a b=>.tuple #[Value.agg a,Value.bool b]) k)
def zP.call(c:Pt)(d:ByteArray)(f:Av)(k:Av→Bool→K): K:=zI Tryz.prog 220 [.pointer c,.string d,.agg f].toArray (jm (fun a b=>.tuple #[Value.agg a,Value.bool b]) k)
def vU.call(a:Sl)(k:Bool→K): K:=zI Tryz.prog 230 [Sl.val a].toArray (yH Value.bool k)
def x9.call(a:Sl)(b:Value)(k:Bool→K): K:=zI Tryz.prog 231 [Sl.val a,b].toArray (yH Value.bool k)
def zDC.call(a:ByteArray)(b:Addr)(k:Bool→K): K:=zI Tryz.prog 232 [.string a,(.pointer (some b))].toArray (yH Value.bool k)
def qW.call(a:Sl)(b:ByteArray)(k:Bool→K): K:=zI Tryz.prog 233 [Sl.val a,.string b].toArray (yH Value.bool k)
def q8.call(a:Sl)(b:Value)(k:Int→K): K:=zI Tryz.prog 234 [Sl.val a,b].toArray (yH (Value.int .i64) k)
def yJ.call(a:Sl)(b:Int)(k:Sl→K): K:=zI Tryz.prog 235 [Sl.val a,.int .i64 b].toArray (yH Sl.val k)
def zEf.call(a:Sl)(b c d:Int)(k:K): K:=zI Tryz.prog 236 [Sl.val a,.int .i64 b,.int .i64 c,.int .i64 d].toArray (uZ (.tuple #[]) k)
def zL.call(a:Sl)(b:Value)(k:Sl→K): K:=zI Tryz.prog 237 [Sl.val a,b].toArray (yH Sl.val k)
def j6.call(a:Pt)(b:Av)(k:Int→K): K:=zI Tryz.prog 238 [.pointer a,.agg b].toArray (yH (Value.int .i64) k)
def uS.call(a:Pt)(b:Av)(k:Int→K): K:=zI Tryz.prog 239 [.pointer a,.agg b].toArray (yH (Value.int .i64) k)
def yZ.call(a:(Option Nat))(k:Value→K): K:=zI Tryz.prog 240 [.map a].toArray (yH id k)
def vE.call(a:Pt)(b:ByteArray)(c:Int)(k:Int→K): K:=zI Tryz.prog 241 [.pointer a,.string b,.int .i64 c].toArray (yH (Value.int .i64) k)
def zGa.call(a:Pt)(b:ByteArray)(c:Sl)(k:K): K:=zI Tryz.prog 242 [.pointer a,.string b,Sl.val c].toArray (uZ (.tuple #[]) k)
def zAS.call(a:Pt)(b:ByteArray)(k:K): K:=zI Tryz.prog 243 [.pointer a,.string b].toArray (uZ (.tuple #[]) k)
def xH.call(a:Av)(b c d:Addr)(k:Bool→K): K:=zI Tryz.prog 244 [.agg a,(.pointer (some b)),(.pointer (some c)),(.pointer (some d))].toArray (yH Value.bool k)
def qV.call(c:Pt)(d:ByteArray)(k:Int→Bool→K): K:=zI Tryz.prog 256 [.pointer c,.string d].toArray (jm (fun a b=>.tuple #[(Value.int .i64) a,Value.bool b]) k)
def zEg.call(a:Pt)(b:ByteArray)(c:Sl)(k:K): K:=zI Tryz.prog 257 [.pointer a,.string b,Sl.val c].toArray (uZ (.tuple #[]) k)
def zFA.call(a:Pt)(b:ByteArray)(k:K): K:=zI Tryz.prog 258 [.pointer a,.string b].toArray (uZ (.tuple #[]) k)
def zEt.call(c:Sl)(k:Int→Bool→K): K:=zI Tryz.prog 259 [Sl.val c].toArray (jm (fun a b=>.tuple #[(Value.int .i64) a,Value.bool b]) k)
def zBG.call(c d:Int)(k:Int→Bool→K): K:=zI Tryz.prog 260 [.int .i64 c,.int .i64 d].toArray (jm (fun a b=>.tuple #[(Value.int .i64) a,Value.bool b]) k)
def zFS.call(a:Int)(k:Sl→K): K:=zI Tryz.prog 261 [.int .i64 a].toArray (yH Sl.val k)
def q9.call(a:Sl)(b:Value)(k:Int→K): K:=zI Tryz.prog 262 [Sl.val a,b].toArray (yH (Value.int .i64) k)
def jN.call(a:Value)(k:Sl→K): K:=zI Tryz.prog 263 [a].toArray (yH Sl.val k)
def yx.call(c:Pt)(d:ByteArray)(k:Av→Bool→K): K:=zI Tryz.prog 265 [.pointer c,.string d].toArray (jm (fun a b=>.tuple #[Value.agg a,Value.bool b]) k)
def zY.call(f:Pt)(g:Av)(k:Av→Bool→Pt→Pt→K): K:=zI Tryz.prog 266 [.pointer f,.agg g].toArray (zCt (fun a b c d=>.tuple #[Value.agg a,Value.bool b,Value.pointer c,Value.pointer d]) k)
def qY.call(a:Sl)(b:ByteArray)(k:Int→K): K:=zI Tryz.prog 274 [Sl.val a,.string b].toArray (yH (Value.int .i64) k)
def zBZ.call(a:Pt)(b:ByteArray)(k:Av→K): K:=zI Tryz.prog 284 [.pointer a,.string b].toArray (yH Value.agg k)
def zEu.call(a:Pt)(b:ByteArray)(c:Bool)(d:Sl)(k:K): K:=zI Tryz.prog 285 [.pointer a,.string b,.bool c,Sl.val d].toArray (uZ (.tuple #[]) k)
def zAG.call(a:Pt)(b:Av)(k:Int→K): K:=zI Tryz.prog 286 [.pointer a,.agg b].toArray (yH (Value.int .i64) k)
def z8.call(a:Value)(b:Addr)(k:K): K:=zI Tryz.prog 287 [a,(.pointer (some b))].toArray (uZ (.tuple #[]) k)
def zC.call(c:Sl)(d:ByteArray)(f:Value)(k:Int→Bool→K): K:=zI Tryz.prog 293 [Sl.val c,.string d,f].toArray (jm (fun a b=>.tuple #[(Value.int .i64) a,Value.bool b]) k)
def vW.call(a:Av)(b:ByteArray)(k:Int→K): K:=zI Tryz.prog 294 [.agg a,.string b].toArray (yH (Value.int .i64) k)
def zAT.call(a b:ByteArray)(k:Int→K): K:=zI Tryz.prog 295 [.string a,.string b].toArray (yH (Value.int .i64) k)
def vR.call(a:Sl)(b:Value)(k:Sl→K): K:=zI Tryz.prog 296 [Sl.val a,b].toArray (yH Sl.val k)
def yQ.call(a:Sl)(b c:Int)(k:Sl→K): K:=zI Tryz.prog 297 [Sl.val a,.int .i64 b,.int .i64 c].toArray (yH Sl.val k)
def jo.call(a:Pt)(k:Av→K): K:=zI Tryz.prog 298 [.pointer a].toArray (yH Value.agg k)
def yU.call(a:Pt)(b:Int)(k:K): K:=zI Tryz.prog 299 [.pointer a,.int .i64 b].toArray (uZ (.tuple #[]) k)
def zS.call(a:Sl)(b:Int)(c:Sl)(k:Sl→K): K:=zI Tryz.prog 300 [Sl.val a,.int .i64 b,Sl.val c].toArray (yH Sl.val k)
def ze.call(a:Sl)(b:Int)(c:Sl)(k:Sl→K): K:=zI Tryz.prog 301 [Sl.val a,.int .i64 b,Sl.val c].toArray (yH Sl.val k)
def yD.call(a:Sl)(k:Sl→K): K:=zI Tryz.prog 302 [Sl.val a].toArray (yH Sl.val k)
def yE.call(a:Sl)(k:Sl→K): K:=zI Tryz.prog 303 [Sl.val a].toArray (yH Sl.val k)
def cmp_isNaN_string.call(a:ByteArray)(k:Bool→K): K:=zI Tryz.prog 315 [.string a].toArray (yH Value.bool k)
def zFT.call(c:Sl)(k:Int→Bool→K): K:=zI Tryz.prog 316 [Sl.val c].toArray (jm (fun a b=>.tuple #[(Value.int .i64) a,Value.bool b]) k)
def zGE.call(a:Int)(k:Sl→K): K:=zI Tryz.prog 317 [.int .i64 a].toArray (yH Sl.val k)
def qL.call(a:Sl)(b c:Int)(k:Sl→K): K:=zI Tryz.prog 319 [Sl.val a,.int .i64 b,.int .i64 c].toArray (yH Sl.val k)
def jI.call(a:Sl)(b:Int)(k:K): K:=zI Tryz.prog 321 [Sl.val a,.int .i64 b].toArray (uZ (.tuple #[]) k)
def jJ.call(a:Sl)(b:Int)(k:K): K:=zI Tryz.prog 323 [Sl.val a,.int .i64 b].toArray (uZ (.tuple #[]) k)
def jR.call(a:Sl)(b:Int)(k:K): K:=zI Tryz.prog 328 [Sl.val a,.int .i64 b].toArray (uZ (.tuple #[]) k)
def jS.call(a:Sl)(b:Int)(k:K): K:=zI Tryz.prog 329 [Sl.val a,.int .i64 b].toArray (uZ (.tuple #[]) k)
def zZ.call(a:Sl)(k:K): K:=zI Tryz.prog 331 [Sl.val a].toArray (uZ (.tuple #[]) k)
def za.call(a:Sl)(k:K): K:=zI Tryz.prog 332 [Sl.val a].toArray (uZ (.tuple #[]) k)
end
end Go.Proofs.YtlelhlcjaapkoaaGreat
namespace Go.Sep
section
open Go Go.RowKit
def zQs(P:Program)(U:TypeId):Bool:=match P.underlying U with|some (.slice _)=>true|_=>false
def zKY(P:Program)(E n:Nat):Bool:=(P.info? E).map (·.bytes)==some n
theorem zOL(need:Nat):∀(r c:Nat),Builtin.growBy need r c≤max c (need+(need+768) / 4)
 | 0,c=>by simp only[Builtin.growBy];omega
 | r+1,c=>by
  simp only[Builtin.growBy];split
  ·omega
  ·have:=zOL need r (c+(c+768) / 4);omega
theorem zMQ{need c:Nat}(h:c<need):Builtin.nextslicecap need c≤2*need+800:=by
 unfold Builtin.nextslicecap;split
 ·omega
 ·split
  ·omega
  ·have:=zOL need 4 c;omega
theorem fold_size:∀(us:List Value) (o:Nat) (cs:Array Value),((us.zipIdx o).foldl (fun c p=>c.setIfInBounds p.2 p.1) cs).size=cs.size
 | [],o,cs=>rfl
 | u::us,o,cs=>by simp only[zhm,zhK];rw[fold_size us (o+1)];simp
theorem zEY:∀(us:List Value) (o:Nat) (cs:Array Value) (j:Nat),j<o∨o+us.length≤j→((us.zipIdx o).foldl (fun c p=>c.setIfInBounds p.2 p.1) cs)[j]?=cs[j]?
 | [],o,cs,j,_=>rfl
 | u::us,o,cs,j,h=>by
  simp only[zhm,zhK];simp only[zgO] at h;rw[zEY us (o+1) _ j (by omega),zg5 (by omega)]
theorem zLy:∀(us:List Value) (o:Nat) (cs:Array Value) (j:Nat),j<us.length→o+us.length≤cs.size→((us.zipIdx o).foldl (fun c p=>c.setIfInBounds p.2 p.1) cs)[o+j]?=us[j]?
 | [],o,cs,j,h,_=>by simp at h
 | u::us,o,cs,0,h,hs=>by
  simp only[zhm,zhK,zgO] at hs ⊢;rw[zEY us (o+1) _ (o+0) (by omega)];have:o<cs.size:=by omega
  simp[this]
 | u::us,o,cs,j+1,h,hs=>by
  simp only[zhm,zhK,zgO] at h hs ⊢;rw[show o+(j+1)=(o+1)+j by omega,zLy us (o+1) _ j (by omega) (by simp;omega)];simp
section
variable{P:Program}{B w:World}{Γ:List zB}
theorem zCZ{x:Sl}{esz:Nat}{us:List Value}(h:RdC w x esz us):(Builtin.firstCells esz x.n x.val).run P w = .ok us.toArray w:=by
 obtain⟨a,n,c⟩:=x;cases a with
 | none=>
  have h1:=h.nil rfl;have h2:=h.len;simp only at h1;subst h1;simp at h2;subst h2;simp[Builtin.firstCells]
 | some a=>
  have h2:=h.len;have h3:RdN w a us.toArray:=fun i hi=>by
   have:=h.at' a rfl i (by simpa using hi);simpa using this
  have:=run_loadCells (P:=P) h3;simp only[zg7,h2] at this;simp only[Builtin.firstCells];exact this
theorem run_askRoom(n:Nat):(askRoom n).run P w = .ok () w:=by
 unfold askRoom;split
 ·simp[mark,Sem.run]
 ·rfl
theorem zLE{E n:Nat}(h:zKY P E n=true):∃i,P.info? E=some i∧i.bytes=n:=by
 unfold zKY at h;cases hi:P.info? E with
 | none=>simp[hi] at h
 | some i=>exact⟨i,rfl,by simpa[hi] using h⟩
theorem zMR{T U E esz by' Tr:Nat}{s x:Sl}{vs us:List Value}{zv:Value}(h:Holds B (SlC E esz s vs::Γ) w)(hT:sliceT P T E esz=true)(hU:zQs P U=true)(hby:zKY P E by'=true)
  (hz:zCD P E zv) (hzs:zv.cells.size=esz) (hx:RdC w x esz us) (hfl:∀u∈us,qD u=true) (hroom:(2*(s.n+x.n)+800)*by'≤2^48) (hb0:by'≠0) :
  ∃s' w',(Builtin.append_ #[T,U] Tr #[s.val,x.val]).run P w = .ok s'.val w'∧Holds B (SlC E esz s' (vs++us)::Γ) w'∧s'.n=s.n+x.n∧(s.a.isSome=true→s'.a.isSome=true)∧(s.n+x.n≤s.c→s'=⟨s.a,s.n+x.n,s.c⟩):=by
 obtain⟨hsl,hsz⟩:=zAd hT;obtain⟨ib,hib,hbytes⟩:=zLE hby
 have hti:(typeInfo E).run P w = .ok ib w:=by simp[typeInfo,program,hib,Sem.run]
 have hU':∃e,P.underlying U=some (.slice e):=by
  unfold zQs at hU;split at hU
  ·rename_i e he;exact⟨e,he⟩
  ·cases hU
 obtain⟨e,hU'⟩:=hU';have hrs:=h.rdC (zgN ..);have hfc:=zCZ (P:=P) hx;have hulen:=hx.len;unfold Builtin.append_;have hget:(#[T,U]:Array TypeId)[0]?=some T:=rfl;have hget1:(#[T,U]:Array TypeId)[1]?=some U:=rfl;have hv0:(#[s.val,x.val]:Array Value)[0]?=some s.val:=rfl;have hv1:(#[s.val,x.val]:Array Value)[1]?=some x.val:=rfl;simp only[hget,hget1,hv0,hv1];simp only[Sem.run_bind,run_underlying hsl,Result.andThen,Sl.val,zAB hsz,run_underlying hU',Sem.run_pure,Builtin.lenOf,zgc,zhG,Bool.not_false,zhX];by_cases hn:s.n+x.n≤s.c
 ·simp only[hn,zhX];simp only[Sem.run_bind,hfc,Result.andThen];obtain⟨sa,sn,sc⟩:=s;cases sa with
  | none=>
   have h1:=h.fact (p:=sc=0∧vs.length=sn*esz∧sn≤sc) (fun _ ha=>⟨ha.2.2,ha.1,ha.2.1⟩);simp only at hn;have hxn:x.n=0:=by omega
   have hus:us=[]:=by rw[hxn] at hulen;simpa using hulen
   refine⟨⟨none,sn+x.n,sc⟩,w,by simp,?_,rfl,fun h=>h,fun _=>rfl⟩;subst hus;rw[hxn];simpa using h
  | some a=>
   obtain⟨hl,hc,hsp,cs,fz,hcond⟩:vs.length=sn*esz∧sn≤sc∧a.spot=none∧∃cs fz,(w.heap[a.block]?=some (.cells cs E fz))∧(∀i,a.off≤i→i<a.off+sc*esz→¬(fz.1≤i∧i<fz.2))∧a.off+sc*esz≤cs.size∧∀i,i<vs.length→cs[a.off+i]?=vs[i]?:=by
    obtain⟨_,h1,h2,⟨hl,hc,hsp,cs,fz,hb,hf,hsz,hv⟩,_,l1,_,_⟩:=h;exact⟨hl,hc,hsp,cs,fz,zHy l1 hb,hf,hsz,hv⟩
   obtain⟨hb,hf,hcap,hv⟩:=hcond;obtain⟨b,off,sp⟩:=a;simp only at hsp hb hf hcap hv;subst hsp;simp only at hn;have hmul:sn*esz+us.length≤sc*esz:=by rw[hulen,←zhA];exact zgn _ hn
   have hst:(storeCells ((⟨b,off,none⟩:Addr).add (sn*esz)) us).run P w = .ok () (setCells ((⟨b,off,none⟩:Addr).add (sn*esz)) us 0 w):=by
    refine zCX us 0 w hfl fun j hj=>?_;rw[jD,jD];have hlt:off+sn*esz+(0+j)<cs.size:=by omega
    exact⟨⟨_,y9 hb (zg0 hlt)⟩,zBX hb (hf _ (by omega) (by omega))⟩
   refine⟨⟨some ⟨b,off,none⟩,sn+x.n,sc⟩,setCells ((⟨b,off,none⟩:Addr).add (sn*esz)) us 0 w,by simp[hst],?_,rfl,fun _=>rfl,fun _=>rfl⟩;rw[jD,zCJ _ _ _ _ _ hb];have h2:Holds B (blk b (.cells cs E fz)::Γ) w:=h.imp' hb;have h3:=h2.setBlock (o':=.cells ((us.zipIdx (off+sn*esz+0)).foldl (fun c p=>c.setIfInBounds p.2 p.1) cs) E fz) rfl;refine h3.imp fun g hg=>?_;refine⟨?_,hn,rfl,_,fz,hg,hf,?_,?_⟩
   ·simp[hl,hulen,zhA]
   ·rw[fold_size];exact hcap
   ·intro i hi;simp only[zgK] at hi;simp only[zho];by_cases hlt:i<vs.length
    ·rw[zEY _ _ _ _ (by omega),zhL hlt];exact hv i hlt
    ·rw[show off+i=off+sn*esz+(i-vs.length) by omega,zLy _ _ _ _ (by omega) (by omega),zhE (by omega)]
 ·simp only[hn,zhG];have hsn:=h.fact (p:=vs.length=s.n*esz∧s.n≤s.c) (fun _ ha=>⟨ha.1,ha.2.1⟩);have hcap:=zMQ (show s.c<s.n+x.n by omega);have hcap2:¬(Builtin.nextslicecap (s.n+x.n) s.c*ib.bytes>2^48):=by
   rw[hbytes];have:=zgn by' hcap
   omega
  have hbig:s.n+x.n<2^60:=by
   have:(2*(s.n+x.n)+800)*1≤(2*(s.n+x.n)+800)*by':=Nat.mul_le_mul_left _ (by omega)
   omega
  have hi64:¬((s.n+x.n:Nat):Int)>IntKind.i64.max:=by simp[IntKind.max,IntKind.signed,IntKind.bits];omega
  simp only[Sem.run_bind,hti,Result.andThen];rw[if_neg (by rintro⟨h1,_⟩;exact hi64 h1)];simp only[Sem.run_bind,hti,Result.andThen,Sem.run_pure];rw[if_neg hcap2];obtain⟨newCap,w1,hch,hle,hw1⟩:∃nc w1,(choose (.appendCap (s.n+x.n) s.c E)).run P w = .ok nc w1∧s.n+x.n≤nc∧w1={ w with drawn:=w.drawn+1 }:=by
   refine⟨(Question.appendCap (s.n+x.n) s.c E).cut (w.tape w.drawn (.appendCap (s.n+x.n) s.c E)),_,by simp[choose,Sem.run,Question.forced],?_,rfl⟩;simp only[Question.cut];omega
  have h1:Holds B (SlC E esz s vs::Γ) w1:=by rw[hw1];exact h.drew _
  have hx1:RdC w1 x esz us:=⟨hx.len,hx.nil,fun a ha i hi=>by rw[hw1];exact hx.at' a ha i hi⟩
  have hrs1:=h1.rdC (zgN ..);have hti1:(typeInfo E).run P w1 = .ok ib w1:=by simp[typeInfo,program,hib,Sem.run]
  have hf1:=zCZ (P:=P) hrs1;have hf2:=zCZ (P:=P) hx1;simp only[Sl.val] at hf1 hf2;simp only[hch,hti1,run_askRoom,hf1,hf2,zBH hz,Sem.run_bind,Result.andThen,Sem.run_pure,newRow,newObj,Sem.run];refine⟨⟨some ⟨w1.heap.size,0,none⟩,s.n+x.n,newCap⟩,_,rfl,?_,rfl,fun _=>rfl,(fun hh=>by first|exact hh.elim|exact absurd hh hn)⟩;have h2:=(h1.tail).alloc (.cells (vs.toArray++us.toArray++Builtin.zeroCells zv.cells (newCap-(s.n+x.n))) E);refine h2.imp fun g hg=>⟨?_,hle,rfl,_,(0,0),hg,?_,?_,?_⟩
  ·simp[hsn.1,hulen,zhA]
  ·intro i _ _;simp
  ·simp only[zg8,Array.size_append,zg7,hsn.1,hulen,Builtin.zeroCells,Array.size_map,Array.size_range,hzs];rw[←zhA,←zhA];exact zgn _ (by omega)
  ·intro i hi;simp only[zg8];rw[Array.getElem?_append_left (by simpa using hi)];simp[zhk,Array.getElem?_append]
theorem zHG{T U E esz by' Tr:Nat}{s x:Sl}{vs us:List Value}{zv:Value}{k:Sl→K}(h:Holds B (SlC E esz s vs::Γ) w)(hT:sliceT P T E esz=true)(hU:zQs P U=true)(hby:zKY P E by'=true)
  (hz:zCD P E zv) (hzs:zv.cells.size=esz) (hx:RdC w x esz us) (hfl:∀u∈us,qD u=true) (hroom:(2*(s.n+x.n)+800)*by'≤2^48) (hb0:by'≠0)
  (hk:∀s' w',Holds B (SlC E esz s' (vs++us)::Γ) w'→s'.n=s.n+x.n→(s.a.isSome=true→s'.a.isSome=true)→k s' w'):Do P (Builtin.append_ #[T,U] Tr #[s.val,x.val]) Sl.val k w:=by
 obtain⟨s',w',hr,hh,hn,ha,_⟩:=zMR (Tr:=Tr) h hT hU hby hz hzs hx hfl hroom hb0;exact⟨s',w',hr,hk s' w' hh hn ha⟩
theorem zAq{b E esz n:Nat}{vs:List Value}{cs:Array Value}(hc:cs.toList=vs)(hn:vs.length=n*esz)(g:Hp)(h:blk b (.cells cs E (0,0)) g):SlC E esz ⟨some ⟨b,0,none⟩,n,n⟩ vs g:=by
 subst hc;refine⟨hn,zgu _,rfl,cs,(0,0),h,fun i _ _=>by simp,?_,fun i hi=>?_⟩
 ·simp at hn ⊢;omega
 ·simp
theorem Holds.ji(h:Holds B Γ w)(E esz:Nat):Holds B (SlC E esz ⟨none,0,0⟩ []::Γ) w:=by
 refine⟨h.below,fun _=>Option.none,_,⟨by simp,zgu _,rfl⟩,h.stars,fun _ _ e=>(by cases e),Hp.le_refl _,fun _=>.inl rfl⟩
theorem RdC.zGF{b E esz n:Nat}{vs:List Value}{cs:Array Value}(h:Holds B Γ w)(hm:blk b (.cells cs E (0,0))∈Γ)(hc:cs.toList=vs)(hn:vs.length=n*esz)(c:Nat):RdC w ⟨some ⟨b,0,none⟩,n,c⟩ esz vs:=by
 subst hc;refine⟨hn,(fun hh=>by cases hh),fun a ha i hi=>?_⟩;cases ha
 rw[jD,zg8];have h1:=h.zTs hm;have h2:cs.toList[i]?=some cs.toList[i]:=by simp[hi]
 rw[h2];have h3:cs[i]?=some (cs.toList[i]):=by rw[←h2];simp
 exact y9 h1 h3
theorem zHH{l:List Value}(h:l.all qD=true):∀v∈l,qD v=true:=zg2.1 h
theorem zED(xs:List UInt8):∀u∈xs.map zBI,qD u=true:=fun u hu=>by
 obtain⟨b,_,rfl⟩:=zgV.1 hu;rfl
end
end
section
open Go Go.RowKit Go.ChangeShapes Go.WideShapes Go.ChangeAt Go.Deep
inductive Sh where
 | bool
 | int (k:IntKind)
 | str
 | sl (e:Sh) (esz:Nat)
 | nil
 | fld (off n:Nat) (s rest:Sh)
def Rdy(w:World):Sh→List Value→Prop
 | .bool,cs=>∃b,cs=[.bool b]
 | .int k,cs=>∃n,cs=[.int k n]∧(Lit.int k n).wf=true
 | .str,cs=>∃s:ByteArray,cs=[.string s]∧s.size≤maxLen
 | .sl e esz,cs=>∃s:Sl,cs=[s.val]∧s.n≤s.c∧s.c≤maxLen∧(s.a=none→s.n=0∧s.c=0) ∧
   ∀a i,s.a=some a→i<s.n→∃cs',cs'.length=esz∧(∀j,j<esz→w.cell? (a.add (i*esz+j))=cs'[j]?)∧Rdy w e cs'
 | .nil,_=>True
 | .fld off n s rest,cs=>Rdy w s ((cs.drop off).take n)∧Rdy w rest cs
def zQt(P:Program):Nat→TypeId→Sh
 | 0,_=>.nil
 | n+1,t=>match P.underlying t with
  | some .bool=>.bool
  | some (.int k)=>.int k
  | some .string=>.str
  | some (.slice e)=>.sl (zQt P n e) (P.cellsOf e)
  | some (.struct fs)=>fs.toList.foldr (fun f r=>.fld f.offset (P.cellsOf f.type) (zQt P n f.type) r) .nil
  | some (.array m e)=>(List.range m).foldr (fun i r=>.fld (i*P.cellsOf e) (P.cellsOf e) (zQt P n e) r) .nil
  | _=>.nil
section
variable{H:Type}{enc:TypeId×Value→H}{P:Program}{w:World}{base:Nat}{spare:Nat→Bool}{held:Bool}
theorem zQu{cs:List Value}{g:Field→Sh}:∀(fs:List Field),(∀f∈fs,Rdy w (g f) ((cs.drop f.offset).take (P.cellsOf f.type))) →
  Rdy w (fs.foldr (fun f r=>.fld f.offset (P.cellsOf f.type) (g f) r) .nil) cs
 | [],_=>trivial
 | f::fs,h=>⟨h f (by simp),zQu fs fun x hx=>h x (by simp[hx])⟩
theorem zFU:∀(n:Nat) (t:TypeId) (fuel:Nat) (cs:List Value) (x:DataW H×List MemPlace),DataW.trod enc P w base spare held fuel t cs=some x→Rdy w (zQt P n t) cs
 | 0,_,_,_,_,_=>trivial
 | n+1,t,fuel,cs,x,h=>by
  unfold zQt;split
  ·rename_i hu;obtain⟨b,hb,_⟩:=DataW.trod_bool hu h;exact⟨b,hb⟩
  ·rename_i k hu;obtain⟨b,hb,_,hw⟩:=DataW.trod_int hu h;exact⟨b,hb,hw⟩
  ·rename_i hu;obtain⟨s,hs,_,hw⟩:=DataW.trod_string hu h;exact⟨s,hs,hw⟩
  ·rename_i e hu;rcases open_slice hu h with⟨rfl,_⟩|⟨a,len,cap,m,n',D,Pl,rfl,hb,hl,hm,hmm,hx,hi⟩
   ·exact⟨⟨none,0,0⟩,rfl,zgu _,zgW _,fun _=>⟨rfl,rfl⟩,(fun a i ha=>by cases ha)⟩
   ·refine⟨⟨some a,len,cap⟩,rfl,hl,hm,(fun hn=>by cases hn),fun a' i ha hi'=>?_⟩;cases ha
    simp only at hi';obtain⟨cs',hc,ht⟩:=hi i (by rw[hmm];split <;> omega);obtain⟨_,hlen,hcell⟩:=World.cells?_some hc;refine⟨cs',hlen,fun j hj=>?_,zFU n e _ cs' _ ht⟩;rw[←Go.Deep.add_add];exact hcell j hj
  ·rename_i fs hu;obtain⟨xs,n',_,_,hlen,hxl,hf⟩:=DataW.trod_struct hu h;refine zQu _ fun f hf'=>?_;obtain⟨i,hi⟩:=List.mem_iff_getElem?.1 hf';have hi':fs[i]?=some f:=by simpa using hi
   have h1:=hf i f hi';have hlt:i<xs.length:=by rw[hxl];exact(zgq.1 hi').1
   rw[zgG hlt] at h1;exact zFU n f.type _ _ _ h1
  ·rename_i m e hu;obtain⟨xs,n',_,_,hlen,hxl,hf⟩:=DataW.trod_array hu h;have key:∀l:List Nat,(∀i∈l,i<m)→Rdy w (l.foldr (fun i r=>.fld (i*P.cellsOf e) (P.cellsOf e) (zQt P n e) r) .nil) cs:=by
    intro l
    induction l with
    | nil=>intro _;trivial
    | cons i l ih=>
     intro hl;have hi:=hl i zgN;have h1:=hf i hi;rw[zgG (by omega)] at h1;exact⟨zFU n e _ _ _ h1,ih fun j hj=>hl j (zgI _ hj)⟩
   exact key _ fun i hi=>List.mem_range.1 hi
  ·trivial
theorem zQv{n:Nat}{t:TypeId}{v:Value}{d:DataW H}{ps:List MemPlace}(h:DataW.Trod enc P w base spare held t v d ps):Rdy w (zQt P n t) v.cells.toList:=by
 obtain⟨fuel,h⟩:=h;exact zFU n t fuel _ _ h
theorem zHI{α:Type}(f:α→List Value)(esz:Nat)(hf:∀x,(f x).length=esz):∀(l:List α) (i j:Nat),j<esz→(l.flatMap f)[i*esz+j]?=(l[i]?).bind fun x=>(f x)[j]?
 | [],i,j,_=>by simp
 | x::l,0,j,hj=>by
  simp only[zgi,Nat.zero_mul,zg8];rw[zhL (by rw[hf];exact hj)];simp
 | x::l,i+1,j,hj=>by
  simp only[zgi];have e:(i+1)*esz+j=esz+(i*esz+j):=by rw[zhA];omega
  rw[e,zhE (by rw[hf];omega),hf,Nat.add_sub_cancel_left,zHI f esz hf l i j hj];simp
theorem zH{α:Type}(f:α→List Value)(esz:Nat)(hf:∀x,(f x).length=esz):∀(l:List α),(l.flatMap f).length=l.length*esz
 | []=>by simp
 | x::l=>by simp only[zgi,zgK,hf,zH f esz hf l,zgO,zhA];omega
theorem zLF{α:Type}(R:Nat→α→Prop):∀(n:Nat),(∀i,i<n→∃x,R i x)→∃l:List α,l.length=n∧∀i x,l[i]?=some x→R i x
 | 0,_=>⟨[],rfl,fun i x h=>by simp at h⟩
 | n+1,h=>by
  obtain⟨l,hl,hr⟩:=zLF R n fun i hi=>h i (by omega);obtain⟨x,hx⟩:=h n (by omega);refine⟨l++[x],by simp[hl],fun i y hy=>?_⟩;by_cases hi:i<n
  ·rw[zhL (by omega)] at hy;exact hr i y hy
  ·have hlt:i<(l++[x]).length:=(zgZ.1 hy).1;have:i=n:=by simp[hl] at hlt;omega
   subst this;rw[zhE (by omega),hl] at hy;simp at hy;subst hy;exact hx
theorem zJr{α:Type}{s:Sl}{esz:Nat}{e:Sh}(f:α→List Value)(R:α→Prop)(hf:∀x,(f x).length=esz)(hn:s.a=none→s.n=0∧s.c=0)
  (h:∀a i,s.a=some a→i<s.n→∃cs',cs'.length=esz∧(∀j,j<esz→w.cell? (a.add (i*esz+j))=cs'[j]?)∧Rdy w e cs')
  (hR:∀cs,cs.length=esz→Rdy w e cs→∃x,cs=f x∧R x):∃l:List α,l.length=s.n∧RdC w s esz (l.flatMap f)∧∀x∈l,R x:=by
 cases ha:s.a with
 | none=>exact⟨[],by rw[(hn ha).1];rfl,⟨by rw[(hn ha).1];simp,fun h=>(hn h).1,fun a h=>by rw[ha] at h;cases h⟩,fun x h=>by cases h⟩
 | some a=>
  obtain⟨l,hl,hr⟩:=zLF (fun i x=>(∀j,j<esz→w.cell? (a.add (i*esz+j))=(f x)[j]?)∧R x) s.n (fun i hi=>by
   obtain⟨cs',h1,h2,h3⟩:=h a i ha hi;obtain⟨x,rfl,hx⟩:=hR cs' h1 h3;exact⟨x,h2,hx⟩)
  refine⟨l,hl,⟨by rw[zH f esz hf,hl],(fun h=>by rw[ha] at h;cases h),fun a' h' i hi=>?_⟩,fun x hx=>?_⟩
  ·rw[ha] at h';cases h';rw[zH f esz hf] at hi;have hpos:0<esz:=by
                rcases Nat.eq_zero_or_pos esz with h0|h0
                ·rw[h0] at hi;simp at hi
                ·exact h0
   have e1:i=(i / esz)*esz+i%esz:=by rw[Nat.mul_comm];exact(Nat.div_add_mod i esz).symm
   have hj:i%esz<esz:=Nat.mod_lt _ hpos;have hq:i / esz<l.length:=by rw[Nat.div_lt_iff_lt_mul hpos];exact hi
   rw[e1,zHI f esz hf _ _ _ hj,zgG hq];exact(hr _ _ (zgG hq)).1 _ hj
  ·obtain⟨i,hi⟩:=List.mem_iff_getElem?.1 hx;exact(hr i x hi).2
theorem zQw{s:Sl}(hn:s.a=none→s.n=0∧s.c=0)
  (h:∀a i,s.a=some a→i<s.n→∃cs',cs'.length=1∧(∀j,j<1→w.cell? (a.add (i*1+j))=cs'[j]?)∧Rdy w (.int .u8) cs'):∃xs:List UInt8,xs.length=s.n∧RdB w s xs:=by
 obtain⟨l,hl,hr,_⟩:=zJr (e:=.int .u8) (fun b:UInt8=>[zBI b]) (fun _=>True) (fun _=>rfl) hn h (fun cs hc hr=>by
  obtain⟨n,rfl,hw⟩:=hr;have hb:0≤n∧n≤255:=by simpa[Lit.wf,IntKind.min,IntKind.max,IntKind.signed,IntKind.bits] using hw
  refine⟨UInt8.ofNat n.toNat,?_,trivial⟩;simp only[zBI,zhZ,Value.int.injEq,true_and,and_true];simp;omega)
 have:∀l:List UInt8,l.flatMap (fun b:UInt8=>[zBI b])=l.map zBI:=fun l=>by induction l with
  | nil=>rfl
  | cons x l ih=>simp[zgi,ih]
 rw[this] at hr;exact⟨l,hl,hr⟩
end
section
variable{H:Type}{enc:TypeId×Value→H}{P:Program}
theorem zIs(hl:laidOutB P=true){W W':World}(hb:Below W.heap.size W W'){sp:Nat→Bool}:∀(ts:List TypeId) (vs:List Value) (ds:List (DataW H)) (ps:List MemPlace),
  (∀t∈ts,P.readableRec t=true∧t<P.types.size)→(∀x∈ps,x.block<W.heap.size∧sp x.block=true)→DataW.TrodAll enc P W 0 (fun _=>true) true ts vs ds ps→DataW.TrodAll enc P W' 0 sp true ts vs ds ps
 | [],vs,ds,ps,_,_,h=>by
  cases vs <;> cases ds <;> simp[DataW.TrodAll] at h ⊢ <;> exact h
 | t::ts,vs,ds,ps,ht,hlt,h=>by
  cases vs with
  | nil=>simp[DataW.TrodAll] at h
  | cons v vs=>
   cases ds with
   | nil=>simp[DataW.TrodAll] at h
   | cons d ds=>
    obtain⟨p,q,h1,h2,rfl⟩:=h;exact⟨p,q,WideElems.Trod_stays hl (ht t (by simp)).1 (ht t (by simp)).2 h1 (fun x hx=>hb.same (hlt x (by simp[hx])).1) (fun x hx=>(hlt x (by simp[hx])).2),
     zIs hl hb ts vs ds q (fun t' h'=>ht t' (by simp[h'])) (fun x hx=>hlt x (by simp[hx])) h2,rfl⟩
theorem zVR{b:Nat}{sp:Nat→Bool}{hd:Bool}{W:World}{t:TypeId}(ht:P.underlying t=some .bool):DataW.TrodAll enc P W b sp hd [t] [.bool true] [.lit (.bool true)] [] :=
 ⟨[],[],⟨1,by simp[DataW.trod,ht,Value.cells]⟩,rfl,rfl⟩
theorem zZ0{W W':World}{e:Ending}(h:Ret (fun v w'=>v = .bool true∧Below W.heap.size W w') e W'):e = .returned (.bool true)∧Below W.heap.size W W':=by
 cases e with
 | returned v=>exact⟨by rw[h.1],h.2⟩
 | panicked c=>exact h.elim
 | outgrown=>exact h.elim
theorem zXX{P:Program}{f:FuncId}{args:Array Value}{W:World}(h:zI P f args (fun v w=>∃r:Bool,v = .bool r∧(r=true∧Holds W [] w)) W):
  Calls P f args W (Ret fun v w'=>v = .bool true∧Below W.heap.size W w'):=h.mono fun e w' he=>by
 cases e with
 | returned v=>obtain⟨r,rfl,rfl,hh⟩:=he;exact⟨rfl,hh.below⟩
 | panicked c=>exact he.elim
 | outgrown=>exact he.elim
theorem zXY{f:Func}{s:ChangeSpec}{apart fresh handsOn again:Bool}{W W':World}{args:Array Value}{ds:List (DataW H)}{p:List MemPlace}{t:TypeId}
  (hl:laidOutB P=true) (hts:f.params.toList.all (fun t=>P.readableRec t&&decide (t<P.types.size))=true) (hrt:f.resultTypes=#[t]) (ht:P.underlying t=some .bool)
  (hW:DataW.Whole enc P f.params.toList s.vars apart W args.toList ds [] p) (hvs:s.vars=[]) (hA:DataW.TrodAll enc P W 0 (fun _=>true) true f.params.toList args.toList ds p)
  (hsr:(s.fn H (ds++[])).results=[.lit (.bool true)]) (hsa:(s.fn H (ds++[])).args=ds) (hsv:(s.fn H (ds++[])).vars=[]) (hb:Below W.heap.size W W') :
  s.post enc P f apart fresh handsOn again W args (.bool true) W':=by
 have hlt:∀x∈p,x.block<W.heap.size:=fun x hx=>hW.lt x hx;have hts':∀t∈f.params.toList,P.readableRec t=true∧t<P.types.size:=fun t ht=>by
  have:=zg2.1 hts t ht;simpa using this
 have hold:∀x∈p,(fun b=>decide (b<W.heap.size)) x.block=true:=fun x hx=>by simpa using hlt x hx
 have hres:∀(b:Nat) (sp:Nat→Bool) (hd:Bool),DataW.TrodAll enc P W' b sp hd f.resultTypes.toList ((Value.bool true).resultList f.resultTypes.size) (s.fn H (ds++[])).results []:=fun b sp hd=>by
  rw[hsr,hrt];exact zVR ht
 have hargs:∀sp:Nat→Bool,(∀x∈p,sp x.block=true)→DataW.TrodAll enc P W' 0 sp true f.params.toList args.toList (s.fn H (ds++[])).args p:=fun sp hsp=>by
  rw[hsa];exact zIs hl hb _ _ _ _ hts' (fun x hx=>⟨hlt x hx,hsp x hx⟩) hA
 have hvars:∀sp:Nat→Bool,DataW.TrodVars enc P W' sp s.vars (s.fn H (ds++[])).vars []:=fun sp=>by
  rw[hsv,hvs];rfl
 refine⟨ds,[],p,[],p,[],hW,hres _ _ _,hargs _ hold,hvars _,World.keptBut_mono (fun x hx=>⟨hx,Or.inr (Or.inl hx)⟩) (hb.frame (·∈p)),fun _=>?_⟩;obtain⟨_,_,_,_,_,hz,hn⟩:=hW;refine⟨?_,_,_,([]++p)++[],⟨[]++p,[],trodAll_append (hargs _ (fun _ _=>rfl)) (hres _ _ _),hvars _,rfl,?_,?_⟩,?_⟩
 ·intro j t' r h1 h2;rw[hrt] at h1 h2
  match j with
  | 0=>
   simp at h1;subst h1;have h3:((Value.bool true).resultList 1)=[.bool true]:=rfl;have h4:(#[t]:Array TypeId).size=1:=rfl;rw[h4,h3] at h2;simp at h2;subst h2;exact okWide_bool_mk ht _
  | j+1=>simp at h1
 ·intro b off hp;have hin:MemPlace.cell b off∈p:=by simpa using hp
  rw[hb.frozen (hlt _ hin)];exact hz b off hin
 ·intro ha;have:=hn ha;simpa using this
 ·intro x hx _;simpa using hx
end
end
section
open Go Go.RowKit
section
variable{P:Program}{B w:World}{Γ:List zB}{E esz:Nat}{s:Sl}{vs:List Value}
theorem SlC.take{m:Nat}(hm:m≤s.n)(g:Hp)(h:SlC E esz s vs g):SlC E esz ⟨s.a,m,s.c⟩ (vs.take (m*esz)) g:=by
 obtain⟨hl,hc,hs⟩:=h;have h1:m*esz≤vs.length:=by rw[hl];exact zgn _ hm
 refine⟨by simp only[zgR];omega,by simp only;omega,?_⟩;cases ha:s.a with
 | none=>rw[ha] at hs;exact hs
 | some a=>
  rw[ha] at hs;obtain⟨hsp,cs,fz,hb,hf,hsz,hv⟩:=hs;refine⟨hsp,cs,fz,hb,hf,hsz,fun i hi=>?_⟩;rw[zgR] at hi;rw[zhY,if_pos (by omega)];exact hv i (by omega)
theorem RdC.drop{l c:Nat}(h:RdC w s esz vs)(hl:l≤s.n)(hc:s.n≤c)(hsp:∀a,s.a=some a→a.spot=none):RdC w ⟨zCW s.a l c esz,s.n-l,c-l⟩ esz (vs.drop (l*esz)):=by
 have h1:=h.len;refine⟨by rw[zhB,h1,←Nat.sub_mul],fun hn=>?_,fun a ha i hi=>?_⟩
 ·simp only at hn ⊢;unfold zCW at hn;split at hn
  ·have:=h.nil hn;omega
  ·cases hx:s.a with
   | none=>have:=h.nil hx;omega
   | some a=>rw[hx] at hn;cases hn
 ·simp only at ha;rw[zhB] at hi;unfold zCW at ha;split at ha
  ·rename_i hcl;have:s.n=l:=by omega
   rw[h1,this] at hi;omega
  ·cases hx:s.a with
   | none=>rw[hx] at ha;cases ha
   | some a0=>
    rw[hx] at ha;simp only[zg1,zg4] at ha;subst ha;rw[add_add' _ (hsp a0 hx),h.at' a0 hx _ (by omega),zgt]
theorem RdC.take{m c:Nat}(h:RdC w s esz vs)(hm:m≤s.n):RdC w ⟨s.a,m,c⟩ esz (vs.take (m*esz)):=by
 have h1:=h.len;have h2:m*esz≤vs.length:=by rw[h1];exact zgn _ hm
 refine⟨by simp only[zgR];omega,fun hn=>?_,fun a ha i hi=>?_⟩
 ·have:=h.nil hn;simp only;omega
 ·rw[zgR] at hi;rw[zhY,if_pos (by omega)];exact h.at' a ha i (by omega)
theorem Holds.zMS(h:Holds B (SlC E esz s vs::Γ) w):vs.length=s.n*esz∧s.n≤s.c∧(∀a,s.a=some a→a.spot=none)∧(s.a=none→s.c=0):=by
 refine h.fact fun g hg=>⟨hg.1,hg.2.1,fun a ha=>?_,fun ha=>?_⟩
 ·have:=hg.2.2;rw[ha] at this;exact this.1
 ·have:=hg.2.2;rw[ha] at this;exact this
theorem zHJ(z:Array Value)(n:Nat)(hz:∀v∈z.toList,qD v=true):∀v∈(Builtin.zeroCells z n).toList,qD v=true:=by
 intro v hv;simp only[Builtin.zeroCells,Array.toList_map,zgV] at hv;obtain⟨i,hi,rfl⟩:=hv;have hi':i<n*z.size:=by simpa using hi
 have hpos:0<z.size:=Nat.pos_of_ne_zero fun h0=>by rw[h0] at hi';simp at hi'
 have hlt:i%z.size<z.size:=Nat.mod_lt _ hpos;rw[getElem!_pos z (i%z.size) hlt];exact hz _ (by simp)
theorem zZ1{T t:Nat}{l q m:Nat}{zv:Value}{k:Value→K}(h:Holds B (SlC E esz s vs::Γ) w)(hT:sliceT P T E esz=true)(hz:zCD P E zv)(hzs:zv.cells.size=esz)(hzf:∀v∈zv.cells.toList,qD v=true)
  (hl:s.n≤l) (hq:l+q≤s.c) (hm:q=0∨m≠l) {x:Sl} (hx:x=⟨zCW s.a l m esz,q,m-l⟩) (hk:∀w',Holds B (SlC E esz s vs::Γ) w'→k (.tuple #[]) w') :
  Do P (Builtin.clear_ #[T] t #[x.val]) id k w:=by
 subst hx;obtain⟨hsl,hsz⟩:=zAd hT;have hsn:=h.zMS;have hg0:(#[T]:Array TypeId)[0]?=some T:=rfl;by_cases hq0:q=0
 ·subst hq0;refine⟨.tuple #[],w,?_,hk w h⟩;unfold Builtin.clear_;have hv0:(#[Sl.val ⟨zCW s.a l m esz,0,m-l⟩]:Array Value)[0]?=some (Sl.val ⟨zCW s.a l m esz,0,m-l⟩):=rfl;simp only[hg0,hv0];simp only[Sem.run_bind,run_underlying hsl,Result.andThen,Sl.val];cases zCW s.a l m esz <;> simp
 ·have hml:m≠l:=hm.resolve_left hq0;cases ha:s.a with
  | none=>have:=hsn.2.2.2 ha;omega
  | some a=>
   have hsp:=hsn.2.2.1 a ha;obtain⟨b,off,sp⟩:=a;simp only at hsp;subst hsp;have hcut:zCW (some (⟨b,off,none⟩:Addr)) l m esz=some ⟨b,off+l*esz,none⟩:=by
    unfold zCW;rw[if_neg hml];simp[jD]
   obtain⟨cs,fz,hb,hf,hcap,hv⟩:∃cs fz,w.heap[b]?=some (.cells cs E fz)∧(∀i,off≤i→i<off+s.c*esz→¬(fz.1≤i∧i<fz.2))∧off+s.c*esz≤cs.size∧∀i,i<vs.length→cs[off+i]?=vs[i]?:=by
    obtain⟨_,h1,h2,⟨_,_,hs⟩,_,l1,_,_⟩:=h;rw[ha] at hs;obtain⟨_,cs,fz,hb,hf,hsz,hv⟩:=hs;exact⟨cs,fz,zHy l1 hb,hf,hsz,hv⟩
   have hzl:(Builtin.zeroCells zv.cells q).toList.length=q*esz:=by simp[Builtin.zeroCells,hzs]
   have hmul:l*esz+q*esz≤s.c*esz:=by rw[←zhA];exact zgn _ hq
   have hmul2:s.n*esz≤l*esz:=zgn _ hl;have hst:(storeCells ⟨b,off+l*esz,none⟩ (Builtin.zeroCells zv.cells q).toList).run P w = .ok () (setCells ⟨b,off+l*esz,none⟩ (Builtin.zeroCells zv.cells q).toList 0 w):=by
    refine zCX _ 0 w (zHJ _ _ hzf) fun j hj=>?_;rw[hzl] at hj;rw[jD];have hlt:off+l*esz+(0+j)<cs.size:=by omega
    exact⟨⟨_,y9 hb (zg0 hlt)⟩,zBX hb (hf _ (by omega) (by omega))⟩
   refine⟨.tuple #[],setCells ⟨b,off+l*esz,none⟩ (Builtin.zeroCells zv.cells q).toList 0 w,?_,hk _ ?_⟩
   ·unfold Builtin.clear_;rw[hcut];have hv0:(#[Sl.val ⟨some ⟨b,off+l*esz,none⟩,q,m-l⟩]:Array Value)[0]?=some (Sl.val ⟨some ⟨b,off+l*esz,none⟩,q,m-l⟩):=rfl;simp only[hg0,hv0];simp only[Sem.run_bind,run_underlying hsl,Result.andThen,Sl.val];obtain⟨q',rfl⟩:∃q',q=q'+1:=⟨q-1,by omega⟩
    simp only[Sem.run_bind,zBH hz,Result.andThen,hst,Sem.run_pure];rfl
   ·rw[zCJ _ _ _ _ _ hb];obtain⟨sa,sn,sc⟩:=s;simp only at ha hsn hl hq hf hcap hmul hmul2;subst ha;have h2:Holds B (blk b (.cells cs E fz)::Γ) w:=h.imp' hb;have h3:=h2.setBlock (o':=.cells (((Builtin.zeroCells zv.cells q).toList.zipIdx (off+l*esz+0)).foldl (fun c p=>c.setIfInBounds p.2 p.1) cs) E fz) rfl;refine h3.imp fun g hg=>⟨hsn.1,hsn.2.1,rfl,_,fz,hg,hf,?_,fun i hi=>?_⟩
    ·rw[fold_size];exact hcap
    ·have:=hsn.1;rw[zEY _ _ _ _ (by simp only;omega)];exact hv i hi
end
end
section
open Go Go.RowKit
section
variable{w:World}
theorem all_nil:All [] w:=fun i x h=>by simp at h
theorem all_cons{x:World→Prop}{l:List (World→Prop)}(h:x w)(hl:All l w):All (x::l) w:=fun i y hy=>by
 cases i with
 | zero=>simp at hy;subst hy;exact h
 | succ i=>exact hl i y (by simpa using hy)
def zcR(P:Program)(src dst:TypeId):Bool :=
 match P.underlying src,P.underlying dst with
 | some (.slice e),some .string=>match P.underlying e with
  | some (.int .u8)=>true
  | _=>false
 | _,_=>false
theorem zVS{P:Program}{src dst:TypeId}(h:zcR P src dst=true):∃e,P.underlying src=some (.slice e)∧P.underlying e=some (.int .u8)∧P.underlying dst=some .string:=by
 unfold zcR at h;split at h
 ·rename_i e h1 h2;split at h
  ·rename_i h3;exact⟨e,h1,h3,h2⟩
  ·cases h
 ·cases h
theorem foldl_push:∀(xs:List UInt8) (acc:List UInt8),
  (xs.map fun b=>((b.toNat:Nat):Int)).foldl (fun r n=>r.push (UInt8.ofNat n.toNat)) (ByteArray.mk acc.toArray)=ByteArray.mk (acc++xs).toArray
 | [],acc=>by simp
 | x::xs,acc=>by
  simp only[zgd,zhK,zgw,UInt8.ofNat_toNat];have:=foldl_push xs (acc++[x]);simp only[zg9,List.singleton_append] at this;rw[←this];congr 1;simp[ByteArray.push]
theorem zd8{P:Program}{s:Sl}{xs:List UInt8}{src dst:TypeId}{k:ByteArray→K}(hT:zcR P src dst=true)(hr:RdB w s xs)(hk:k (ByteArray.mk xs.toArray) w):
  Rd P (convert src dst s.val) Value.string k w:=by
 refine⟨_,?_,hk⟩;obtain⟨e,h1,h2,h3⟩:=zVS hT;obtain⟨a,n,c⟩:=s;have hl:xs.length=n:=by have:=hr.len;simpa using this
 have:=run_convert_bytes_string (P:=P) w src dst e a n c h1 h2 h3;rw[show(Sl.val ⟨a,n,c⟩) = .slice a n c from rfl,this];cases a with
 | none=>
  have hn:=hr.nil rfl;simp only at hn;subst hn;have:xs=[]:=by cases xs with|nil=>rfl|cons=>simp at hl
  subst this;rfl
 | some a=>
  have h4:RdN w a (xs.map zBI).toArray:=fun i hi=>by
   rw[hr.at' a rfl i (by simpa using hi)];exact List.getElem?_toArray.symm
  have h5:=run_loadCells (P:=P) h4;have h6:(xs.map zBI)=(xs.map fun b=>((b.toNat:Nat):Int)).map (Value.int .u8):=by simp[zBI,zhc]
  rw[h6] at h5;simp only[zg7,zgL,hl] at h5;rw[run_bytesToString w a n c _ h5];have:=foldl_push xs [];simp only[zg6] at this;rw[←this];rfl
end
end
section
open Go Go.RowKit
section
variable{B w:World}{Γ:List zB}
theorem zQx(a:Addr)(m n:Nat):(a.add m).add n=a.add (m+n):=by
 obtain⟨b,o,s⟩:=a;unfold Addr.add;by_cases h1:m=0
 ·subst h1;simp
 ·by_cases h2:n=0
  ·subst h2;simp[h1]
  ·simp[h1,h2,Nat.add_assoc]
theorem RdC.none'{esz c:Nat}:RdC w ⟨none,0,c⟩ esz []:=⟨by simp,fun _=>rfl,fun a h=>by cases h⟩
theorem zcS{α:Type}{c:α→Value}{L:List α}{s:Sl}{j:Nat}{x:α}{k:α→K}(hr:RdC w s 1 (L.map c))(hx:L[j]?=some x)(hk:k x w):
  Idx s (j:Int) 1 (fun t=>Ld t c k) w:=by
 have hj:j<L.length:=(zgZ.1 hx).1;have hn:L.length=s.n:=by have:=hr.len;simpa using this
 cases ha:s.a with
 | none=>have:=hr.nil ha;omega
 | some a=>
  refine⟨a,_,ha,by omega,by omega,rfl,x,?_,hk⟩;simp only[zgw,zgs];rw[hr.at' a ha j (by simpa using hj)];simp[hx]
theorem zLz{α:Type}(f:α→List Value)(esz:Nat)(hf:∀x,(f x).length=esz){L:List α}{s:Sl}{i:Nat}{x:α}{a:Addr}(hr:RdC w s esz (L.flatMap f))(ha:s.a=some a)(hx:L[i]?=some x):
  RdN w (a.add (i*esz)) (f x).toArray:=by
 intro j hj;have hj':j<esz:=by simpa[hf] using hj
 rw[zQx];have hlt:i<L.length:=(zgZ.1 hx).1;have hb:i*esz+j<L.length*esz:=by
  have:i*esz+esz≤L.length*esz:=by rw[←Nat.succ_mul];exact zgn _ hlt
  omega
 rw[hr.at' a ha _ (by rw[zH f esz hf];exact hb),zHI f esz hf _ _ _ hj',hx];exact List.getElem?_toArray.symm
theorem zcT{α:Type}(f:α→List Value){esz:Nat}(hf:∀x,(f x).length=esz)(he:0<esz){L:List α}{s:Sl}{j:Nat}{x:α}{k:Addr→Array Value→K}{cs:Array Value}(hr:RdC w s esz (L.flatMap f))(hx:L[j]?=some x)(hcs:(f x).toArray=cs)(hk:∀t,k t cs w):
  Idx s (j:Int) esz (fun t=>LdN t esz (k t)) w:=by
 have hj:j<L.length:=(zgZ.1 hx).1;have hn:L.length=s.n:=by
  have:=hr.len;rw[zH f esz hf] at this;exact zgb he this
 cases ha:s.a with
 | none=>have:=hr.nil ha;omega
 | some a=>
  subst hcs;refine⟨a,_,ha,by omega,by omega,rfl,_,by simp[hf],?_,hk _⟩;simp only[zgw];exact zLz f esz hf hr ha hx
theorem SlC.cut{E esz:Nat}{s:Sl}{vs:List Value}{m:Nat}(hm:m≤s.n)(g:Hp)(h:SlC E esz s vs g):SlC E esz ⟨s.a,m,m⟩ (vs.take (m*esz)) g:=by
 have hc:=h.2.1;obtain⟨hl,_,hs⟩:=SlC.take hm g h;refine⟨hl,zgu _,?_⟩;have h1:m*esz≤s.c*esz:=zgn _ (by omega);cases ha:s.a with
 | none=>rw[ha] at hs;simp only at hs ⊢;omega
 | some a=>
  rw[ha] at hs;obtain⟨hsp,cs,fz,hb,hf,hsz,hv⟩:=hs;exact⟨hsp,cs,fz,hb,fun i h2 h3=>hf i h2 (by simp only at h3 ⊢;omega),by simp only at hsz ⊢;omega,hv⟩
theorem zSb{α:Type}{f:α→zB}{l:List α}(i:Nat){x:α}(hx:l[i]?=some x)(h:Holds B (stars (l.map f)::Γ) w):Holds B (f x::stars ((l.eraseIdx i).map f)::Γ) w:=by
 have h1:=Holds.flat.1 h;have h2:(l.map f++Γ).Perm (f x::((l.eraseIdx i).map f++Γ)):=by
  have h3:(l.map f).Perm (f x::(l.eraseIdx i).map f):=by
   have:=(zKP hx).map f;simpa using this
  exact h3.append_right Γ
 have h4:Holds B (f x::((l.eraseIdx i).map f++Γ)) w:=h1.perm h2;have h5:Holds B ((l.eraseIdx i).map f++f x::Γ) w:=h4.perm List.perm_middle.symm;exact(Holds.flat.2 h5).swap
theorem zKZ{s:Sl}{c esz:Nat}(hsp:∀a,s.a=some a→a.spot=none):zCW s.a 0 c esz=s.a:=by
 unfold zCW;split
 ·rfl
 ·cases hx:s.a with
  | none=>rfl
  | some a=>
   have:=hsp a hx;obtain⟨b,o,sp⟩:=a;simp only at this;subst this;simp[jD]
def slF(E esz:Nat)(s:Sl)(vs:List Value)(a:Addr)(cs:Array Value)(fz:Nat×Nat):Prop :=
 a.spot=none∧(∀i,a.off≤i→i<a.off+s.c*esz→¬(fz.1≤i∧i<fz.2))∧a.off+s.c*esz≤cs.size∧(∀i,i<vs.length→cs[a.off+i]?=vs[i]?)∧vs.length=s.n*esz∧s.n≤s.c
theorem zMT{E esz:Nat}{s:Sl}{vs:List Value}{a:Addr}(h:Holds B (SlC E esz s vs::Γ) w)(ha:s.a=some a):∃cs fz,Holds B (blk a.block (.cells cs E fz)::Γ) w∧slF E esz s vs a cs fz:=by
 have h1:Holds B ((ex fun cs:Array Value=>ex fun fz:Nat×Nat=>fun g=>slF E esz s vs a cs fz∧blk a.block (.cells cs E fz) g)::Γ) w:=h.imp fun g hg=>by
  obtain⟨hl,hc,hs⟩:=hg;rw[ha] at hs;obtain⟨hsp,cs,fz,hb,hf,hsz,hv⟩:=hs;exact⟨cs,fz,⟨hsp,hf,hsz,hv,hl,hc⟩,hb⟩
 obtain⟨cs,h1⟩:=Holds.ex.1 h1;obtain⟨fz,h1⟩:=Holds.ex.1 h1;exact⟨cs,fz,h1.imp fun g hg=>hg.2,h1.fact fun g hg=>hg.1⟩
theorem zMU{E esz:Nat}{s:Sl}{vs:List Value}{a:Addr}{cs:Array Value}{fz:Nat×Nat}(ha:s.a=some a)(h:Holds B (blk a.block (.cells cs E fz)::Γ) w)(hF:slF E esz s vs a cs fz):Holds B (SlC E esz s vs::Γ) w :=
 h.imp fun g hg=>by
  obtain⟨hsp,hf,hsz,hv,hl,hc⟩:=hF;refine⟨hl,hc,?_⟩;rw[ha];exact⟨hsp,cs,fz,hg,hf,hsz,hv⟩
theorem zcU{E esz:Nat}{s:Sl}{vs:List Value}{a:Addr}{o:Nat}{v:Value}{k:K}(h:Holds B (SlC E esz s vs::Γ) w)(ha:s.a=some a)(ho:o<vs.length)(hv:qD v=true)
  (hk:∀w',Holds B (SlC E esz s (vs.set o v)::Γ) w'→k w'):St (a.add o) v k w:=by
 obtain⟨cs,fz,h,hsp,hf,hsz,hr,hl,hc⟩:=zMT h ha;have hm:vs.length≤s.c*esz:=by rw[hl];exact zgn _ hc
 have e:a.add o=⟨a.block,a.off+o,none⟩:=by
  obtain⟨b,f,sp⟩:=a;simp only at hsp;subst hsp;exact jD _ _ _
 refine zNi 0 h e rfl (by omega) (hf _ (by omega) (by omega)) hv fun w' h=>hk w' (zMU ha h ⟨hsp,hf,by simpa using hsz,fun i hi=>?_,by simpa using hl,hc⟩);rw[List.length_set] at hi;by_cases hio:o=i
 ·subst hio;rw[zhO hi];simp[Array.getElem?_setIfInBounds];omega
 ·rw[zhl hio,←hr i hi,zg5 (by omega)]
theorem zXZ{s s':Sl}(h:(Sl.val s).cells.toList=[s'.val]):s'=s:=by
 obtain⟨a,n,c⟩:=s;obtain⟨a',n',c'⟩:=s';have h2:[Value.slice a n c]=[Value.slice a' n' c']:=h;cases h2;rfl
theorem zcV{e:Sh}{esz:Nat}{s:Sl}(y:Rdy w (.sl e esz) (Sl.val s).cells.toList):(s.a=none→s.n=0∧s.c=0) ∧
  ∀a i,s.a=some a→i<s.n→∃cs',cs'.length=esz∧(∀j,j<esz→w.cell? (a.add (i*esz+j))=cs'[j]?)∧Rdy w e cs':=by
 obtain⟨s',h,_,_,h1,h2⟩:=y;obtain rfl:=zXZ h;exact⟨h1,h2⟩
end
theorem M0{ x:zB}{l:List zB}:x∈x::l:=zgN
theorem M1{a0 x:zB}{l:List zB}:x∈a0::x::l:=zgI _ (zgN)
theorem M2{a0 a1 x:zB}{l:List zB}:x∈a0::a1::x::l:=zgI _ (zgI _ (zgN))
theorem M3{a0 a1 a2 x:zB}{l:List zB}:x∈a0::a1::a2::x::l:=zgI _ (zgI _ (zgI _ (zgN)))
theorem M4{a0 a1 a2 a3 x:zB}{l:List zB}:x∈a0::a1::a2::a3::x::l:=zgI _ (zgI _ (zgI _ (zgI _ (zgN))))
theorem M5{a0 a1 a2 a3 a4 x:zB}{l:List zB}:x∈a0::a1::a2::a3::a4::x::l:=zgI _ (zgI _ (zgI _ (zgI _ (zgI _ (zgN)))))
theorem M6{a0 a1 a2 a3 a4 a5 x:zB}{l:List zB}:x∈a0::a1::a2::a3::a4::a5::x::l:=zgI _ (zgI _ (zgI _ (zgI _ (zgI _ (zgI _ (zgN))))))
theorem M7{a0 a1 a2 a3 a4 a5 a6 x:zB}{l:List zB}:x∈a0::a1::a2::a3::a4::a5::a6::x::l:=zgI _ (zgI _ (zgI _ (zgI _ (zgI _ (zgI _ (zgI _ (zgN)))))))
theorem M8{a0 a1 a2 a3 a4 a5 a6 a7 x:zB}{l:List zB}:x∈a0::a1::a2::a3::a4::a5::a6::a7::x::l:=zgI _ (zgI _ (zgI _ (zgI _ (zgI _ (zgI _ (zgI _ (zgI _ (zgN))))))))
theorem M9{a0 a1 a2 a3 a4 a5 a6 a7 a8 x:zB}{l:List zB}:x∈a0::a1::a2::a3::a4::a5::a6::a7::a8::x::l:=zgI _ (zgI _ (zgI _ (zgI _ (zgI _ (zgI _ (zgI _ (zgI _ (zgI _ (zgN)))))))))
theorem M10{a0 a1 a2 a3 a4 a5 a6 a7 a8 a9 x:zB}{l:List zB}:x∈a0::a1::a2::a3::a4::a5::a6::a7::a8::a9::x::l:=zgI _ (zgI _ (zgI _ (zgI _ (zgI _ (zgI _ (zgI _ (zgI _ (zgI _ (zgI _ (zgN))))))))))
theorem M11{a0 a1 a2 a3 a4 a5 a6 a7 a8 a9 a10 x:zB}{l:List zB}:x∈a0::a1::a2::a3::a4::a5::a6::a7::a8::a9::a10::x::l:=zgI _ (zgI _ (zgI _ (zgI _ (zgI _ (zgI _ (zgI _ (zgI _ (zgI _ (zgI _ (zgI _ (zgN)))))))))))
theorem M12{a0 a1 a2 a3 a4 a5 a6 a7 a8 a9 a10 a11 x:zB}{l:List zB}:x∈a0::a1::a2::a3::a4::a5::a6::a7::a8::a9::a10::a11::x::l:=zgI _ (zgI _ (zgI _ (zgI _ (zgI _ (zgI _ (zgI _ (zgI _ (zgI _ (zgI _ (zgI _ (zgI _ (zgN))))))))))))
section
variable{B w:World}
theorem P1{a0 x:zB}{l:List zB}(h:Holds B (a0::x::l) w):Holds B (x::a0::l) w:=h.pick (i:=1) rfl
theorem P2{a0 a1 x:zB}{l:List zB}(h:Holds B (a0::a1::x::l) w):Holds B (x::a0::a1::l) w:=h.pick (i:=2) rfl
theorem P3{a0 a1 a2 x:zB}{l:List zB}(h:Holds B (a0::a1::a2::x::l) w):Holds B (x::a0::a1::a2::l) w:=h.pick (i:=3) rfl
theorem P4{a0 a1 a2 a3 x:zB}{l:List zB}(h:Holds B (a0::a1::a2::a3::x::l) w):Holds B (x::a0::a1::a2::a3::l) w:=h.pick (i:=4) rfl
theorem P5{a0 a1 a2 a3 a4 x:zB}{l:List zB}(h:Holds B (a0::a1::a2::a3::a4::x::l) w):Holds B (x::a0::a1::a2::a3::a4::l) w:=h.pick (i:=5) rfl
theorem D1{a0 x:zB}{l:List zB}(h:Holds B (a0::x::l) w):Holds B (a0::l) w:=h.del (i:=1) rfl
theorem D2{a0 a1 x:zB}{l:List zB}(h:Holds B (a0::a1::x::l) w):Holds B (a0::a1::l) w:=h.del (i:=2) rfl
theorem D5{a0 a1 a2 a3 a4 x:zB}{l:List zB}(h:Holds B (a0::a1::a2::a3::a4::x::l) w):Holds B (a0::a1::a2::a3::a4::l) w:=h.del (i:=5) rfl
end
section
variable{α:Type _}
theorem N1(a b:α)(l:List α):(a::l).set 0 b=b::l:=rfl
theorem N2(a b:α)(l:List α)(n:Nat):(a::l).set (n+1) b=a::l.set n b:=rfl
theorem N3(l:List α):l.eraseIdx 0=l.tail:=List.eraseIdx_zero
theorem N4(a:α)(l:List α):(a::l).eraseIdx 0=l:=rfl
theorem N5(a:α)(l:List α)(n:Nat):(a::l).eraseIdx (n+1)=a::l.eraseIdx n:=rfl
theorem N6(l:List α)(i:Nat)(a:α):l.toArray.setIfInBounds i a=(l.set i a).toArray:=List.setIfInBounds_toArray ..
theorem N7(a:α)(l:List α):(a::l).tail=l:=rfl
end
section
variable{B w:World}{a:Addr}{b off n:Nat}{cs vs:Array Value}{T:TypeId}{v:Value}{k:K}{l:List zB}
theorem S0(h:Holds B (blk b (.cells cs T (0,0))::l) w)(ha:a=⟨b,off,none⟩)(ho:off<cs.size)(hv:qD v=true)(hk:∀w',Holds B (blk b (.cells (cs.setIfInBounds off v) T (0,0))::l) w'→k w'):St a v k w:=zNi 0 h ha rfl ho (zNj _) hv hk
theorem T0(h:Holds B (blk b (.cells cs T (0,0))::l) w)(ha:a=⟨b,0,none⟩)(hn:cs.size=n)(hv:vs.size=n)(hfl:∀v∈vs.toList,qD v=true)(hk:∀w',Holds B (blk b (.cells vs T (0,0))::l) w'→k w'):StN a n vs k w:=zdd 0 h ha rfl hn hv (fun _ _=>zNj _) hfl hk
theorem S1{a0:zB}(h:Holds B (a0::blk b (.cells cs T (0,0))::l) w)(ha:a=⟨b,off,none⟩)(ho:off<cs.size)(hv:qD v=true)(hk:∀w',Holds B (a0::blk b (.cells (cs.setIfInBounds off v) T (0,0))::l) w'→k w'):St a v k w:=zNi 1 h ha rfl ho (zNj _) hv hk
theorem S2{a0 a1:zB}(h:Holds B (a0::a1::blk b (.cells cs T (0,0))::l) w)(ha:a=⟨b,off,none⟩)(ho:off<cs.size)(hv:qD v=true)(hk:∀w',Holds B (a0::a1::blk b (.cells (cs.setIfInBounds off v) T (0,0))::l) w'→k w'):St a v k w:=zNi 2 h ha rfl ho (zNj _) hv hk
theorem S3{a0 a1 a2:zB}(h:Holds B (a0::a1::a2::blk b (.cells cs T (0,0))::l) w)(ha:a=⟨b,off,none⟩)(ho:off<cs.size)(hv:qD v=true)(hk:∀w',Holds B (a0::a1::a2::blk b (.cells (cs.setIfInBounds off v) T (0,0))::l) w'→k w'):St a v k w:=zNi 3 h ha rfl ho (zNj _) hv hk
theorem S4{a0 a1 a2 a3:zB}(h:Holds B (a0::a1::a2::a3::blk b (.cells cs T (0,0))::l) w)(ha:a=⟨b,off,none⟩)(ho:off<cs.size)(hv:qD v=true)(hk:∀w',Holds B (a0::a1::a2::a3::blk b (.cells (cs.setIfInBounds off v) T (0,0))::l) w'→k w'):St a v k w:=zNi 4 h ha rfl ho (zNj _) hv hk
theorem S5{a0 a1 a2 a3 a4:zB}(h:Holds B (a0::a1::a2::a3::a4::blk b (.cells cs T (0,0))::l) w)(ha:a=⟨b,off,none⟩)(ho:off<cs.size)(hv:qD v=true)(hk:∀w',Holds B (a0::a1::a2::a3::a4::blk b (.cells (cs.setIfInBounds off v) T (0,0))::l) w'→k w'):St a v k w:=zNi 5 h ha rfl ho (zNj _) hv hk
theorem S6{a0 a1 a2 a3 a4 a5:zB}(h:Holds B (a0::a1::a2::a3::a4::a5::blk b (.cells cs T (0,0))::l) w)(ha:a=⟨b,off,none⟩)(ho:off<cs.size)(hv:qD v=true)(hk:∀w',Holds B (a0::a1::a2::a3::a4::a5::blk b (.cells (cs.setIfInBounds off v) T (0,0))::l) w'→k w'):St a v k w:=zNi 6 h ha rfl ho (zNj _) hv hk
theorem S7{a0 a1 a2 a3 a4 a5 a6:zB}(h:Holds B (a0::a1::a2::a3::a4::a5::a6::blk b (.cells cs T (0,0))::l) w)(ha:a=⟨b,off,none⟩)(ho:off<cs.size)(hv:qD v=true)(hk:∀w',Holds B (a0::a1::a2::a3::a4::a5::a6::blk b (.cells (cs.setIfInBounds off v) T (0,0))::l) w'→k w'):St a v k w:=zNi 7 h ha rfl ho (zNj _) hv hk
theorem S8{a0 a1 a2 a3 a4 a5 a6 a7:zB}(h:Holds B (a0::a1::a2::a3::a4::a5::a6::a7::blk b (.cells cs T (0,0))::l) w)(ha:a=⟨b,off,none⟩)(ho:off<cs.size)(hv:qD v=true)(hk:∀w',Holds B (a0::a1::a2::a3::a4::a5::a6::a7::blk b (.cells (cs.setIfInBounds off v) T (0,0))::l) w'→k w'):St a v k w:=zNi 8 h ha rfl ho (zNj _) hv hk
end
end
section
open Go Go.RowKit
def HG(B:World)(Γ:List zB)(k:K):Prop:=∀w,Holds B Γ w→k w
class Own(b:Nat)(Γ:List zB)(A:outParam zB)(Δ:outParam (List zB)):Prop where perm:Γ.Perm (A::Δ)
class zDH(s:Sl)(Γ:List zB)(A:outParam zB)(Δ:outParam (List zB)):Prop where perm:Γ.Perm (A::Δ)
class Pick(A:zB)(Γ:List zB)(Δ:outParam (List zB)):Prop where perm:Γ.Perm (A::Δ)
class Drops(Γ Δ:List zB):Prop where imp:∀{h:Hp},stars Γ h→stars Δ h
theorem zFt{A X:zB}{Γ Δ:List zB}(h:Γ.Perm (A::Δ)):(X::Γ).Perm (A::X::Δ):=(h.cons X).trans (List.Perm.swap _ _ _)
instance(priority:=low) zd9{b:Nat}{X A:zB}{Γ Δ:List zB}[h:Own b Γ A Δ]:Own b (X::Γ) A (X::Δ):=⟨zFt h.perm⟩
instance(priority:=high) zeg{b:Nat}{o:Obj}{Γ:List zB}:Own b (blk b o::Γ) (blk b o) Γ:=⟨.refl _⟩
instance(priority:=low) zdB{s:Sl}{X A:zB}{Γ Δ:List zB}[h:zDH s Γ A Δ]:zDH s (X::Γ) A (X::Δ):=⟨zFt h.perm⟩
instance(priority:=high) zZ2{E esz:Nat}{s:Sl}{vs:List Value}{Γ:List zB}:zDH s (SlC E esz s vs::Γ) (SlC E esz s vs) Γ:=⟨.refl _⟩
instance(priority:=high) zeh{E:Nat}{s:Sl}{vs:List UInt8}{Γ:List zB}:zDH s (Bytes E s vs::Γ) (Bytes E s vs) Γ:=⟨.refl _⟩
instance(priority:=low) zdC{A X:zB}{Γ Δ:List zB}[h:Pick A Γ Δ]:Pick A (X::Γ) (X::Δ):=⟨zFt h.perm⟩
instance(priority:=high) zdD{A:zB}{Γ:List zB}:Pick A (A::Γ) Γ:=⟨.refl _⟩
instance(priority:=high) zcW{A:zB}{Γ Γ' Δ:List zB}[p:Pick A Γ Γ'][d:Drops Γ' Δ]:Drops Γ (A::Δ):=⟨fun h=>zBp (fun _ h=>h) (fun _ h=>d.imp h) (zI0 p.perm h)⟩
instance zSc{Γ:List zB}:Drops Γ Γ:=⟨fun h=>h⟩
instance(priority:=low) zVT{Γ:List zB}:Drops Γ []:=⟨fun _=>trivial⟩
instance(priority:=low) zcX{A:zB}{Γ Δ:List zB}[d:Drops Γ Δ]:Drops (A::Γ) Δ:=⟨fun h=>d.imp (zGB h)⟩
section
variable{B w:World}{Γ Δ:List zB}{k:K}{A A':zB}
theorem Holds.drops(h:Holds B Γ w)[d:Drops Γ Δ]:Holds B Δ w:=⟨h.below,d.imp h.stars⟩
theorem hg(h:Holds B Γ w)(hk:HG B Γ k):k w:=hk w h
theorem zA(h:HG B Δ k)[d:Drops Γ Δ]:HG B Γ k:=fun w hw=>h w hw.drops
theorem zBg(hi:∀h,A h→A' h)(h:HG B (A'::Γ) k):HG B (A::Γ) k:=fun w hw=>h w (hw.imp hi)
theorem zCE{α:Sort _}{F:α→zB}(h:∀x,HG B (F x::Γ) k):HG B (Sep.ex F::Γ) k:=fun w hw=>by
 obtain⟨x,hx⟩:=Holds.ex.1 hw;exact h x w hx
theorem zHK{p:Prop}(h:p→HG B Γ k):HG B (pur p::Γ) k:=fun w hw=>by
 obtain⟨hp,hx⟩:=Holds.pur.1 hw;exact h hp w hx
theorem zBL(h:HG B (Δ++Γ) k):HG B (Sep.stars Δ::Γ) k:=fun w hw=>h w (Holds.flat.1 hw)
theorem zFu(h:HG B (Sep.stars Δ::Γ) k):HG B (Δ++Γ) k:=fun w hw=>h w (Holds.flat.2 hw)
theorem zSd{α:Sort _}{F:α→zB}(x:α)(h:HG B (Sep.ex F::Γ) k):HG B (F x::Γ) k:=fun w hw=>h w (Holds.ex.2 ⟨x,hw⟩)
theorem zZ3{p:Prop}(hp:p)(h:HG B (pur p::Γ) k):HG B Γ k:=fun w hw=>h w (Holds.pur.2 ⟨hp,hw⟩)
theorem qc(A:zB)(h:HG B (A::Δ) k)[p:Pick A Γ Δ]:HG B Γ k:=fun w hw=>h w (hw.perm p.perm)
theorem yN(b:Nat)(h:HG B (A::Δ) k)[p:Own b Γ A Δ]:HG B Γ k:=fun w hw=>h w (hw.perm p.perm)
theorem uL(s:Sl)(h:HG B (A::Δ) k)[p:zDH s Γ A Δ]:HG B Γ k:=fun w hw=>h w (hw.perm p.perm)
theorem zGG(h:HG B (A'::A::Γ) k):HG B (A::A'::Γ) k:=fun w hw=>h w hw.swap
theorem zF{b:Bool}{x y:K}(h1:b=true→HG B Γ x)(h2:b=false→HG B Γ y):HG B Γ (Ite b x y):=fun w hw=>⟨fun hb=>h1 hb w hw,fun hb=>h2 hb w hw⟩
theorem s_t{b:Bool}{x y:K}(h:HG B Γ x)(hb:b=true:=by first|rfl|(simp;done)|(simp;omega)):HG B Γ (Ite b x y):=fun w hw=>zTt hb (h w hw)
theorem s_f{b:Bool}{x y:K}(h:HG B Γ y)(hb:b=false:=by first|rfl|(simp;done)|(simp;omega)):HG B Γ (Ite b x y):=fun w hw=>zO9 hb (h w hw)
theorem zAw{e e':Int}{k:Int→K}(he:e=e')(h:HG B Γ (k e')):HG B Γ (Ar e k):=fun w hw=>ze4 he (h w hw)
theorem qJ{e:Int}{k:Int→K}(h:HG B Γ (k e))(h0:-9223372036854775808≤e:=by omega)(h1:e≤9223372036854775807:=by omega):HG B Γ (Ar (IntKind.wrap .i64 e) k):=zAw (wrap64 h0 h1) h
theorem zSe{p:Prop}(hp:p)(h:HG B Γ k):HG B Γ (Cd p k):=fun w hw=>⟨hp,h w hw⟩
theorem uf{a:Addr}{k:Addr→K}(h:HG B Γ (k a)):HG B Γ (Nn (some a) k):=fun w hw=>⟨a,rfl,h w hw⟩
theorem xg(h:HG B Γ k):HG B Γ (Dr k):=fun w hw=>ze3 hw fun w hw=>h w hw
theorem zVU{k:(World→Prop)→K}(h:HG B Γ (k (Holds B Γ))):HG B Γ (yV k):=fun w hw=>⟨Holds B Γ,hw,h w hw⟩
theorem vS(h:HG B Γ k)[d:Drops Γ Δ]:HG B Γ (Sv (Holds B Δ) k):=fun w hw=>⟨hw.drops,h w hw⟩
theorem zeA{α:Type}{cs:List Value}{off:Nat}{c:α→Value}{x:α}{k:α→K}(h:HG B Γ (k x))(hv:nth cs off=some (c x):=by rfl):HG B Γ (Fld cs.toArray off c k):=fun w hw=>⟨x,by rw[zI2] at hv;simpa using hv,h w hw⟩
theorem zXa{zero:Array Value}{pl:List (Nat×Nat)}{vs:List (Nat×Value)}{cs:List Value}{k:Array Value→K}(h:HG B Γ (k cs.toArray))(hc:Instr.fill (pl[·]?) zero vs=some cs.toArray:=by rfl):HG B Γ (Bld zero (pl[·]?) vs k):=fun w hw=>⟨_,hc,h w hw⟩
theorem zBh{zero:List Value}{cs:List Value}{n:Nat}{k:Array Value→K}(h:HG B Γ (k cs.toArray))(hz:zero.length=n:=by rfl)(hn:cs.length=n:=by rfl):HG B Γ (Bld zero.toArray (fun i=>some (i*n,n)) [(0,.agg cs.toArray)] k):=fun w hw=>zbp (by simpa using hz) (by simpa using hn) (h w hw)
class zDk(a:Addr)(b off:outParam Nat):Prop where h:a=⟨b,off,none⟩
instance zfK{b off:Nat}:zDk ⟨b,off,none⟩ b off:=⟨rfl⟩
instance zei{b off n:Nat}:zDk ((⟨b,off,none⟩:Addr).add n) b (off+n):=⟨jD _ _ _⟩
theorem zD{T:TypeId}{cs:Array Value}{k:Addr→K}(h:∀b,HG B (blk b (.cells cs T (0,0))::Γ) (k ⟨b,0,none⟩)):HG B Γ (New T cs k):=fun w hw=>zQX hw fun b w hw=>h b w hw
theorem xZ{b:Nat}{o:Obj}(h:Holds B Γ w)[p:Own b Γ (blk b o) Δ]:w.heap[b]?=some o:=(h.perm p.perm).block
theorem zh{α:Type}{a:Addr}{b off:Nat}{l:List Value}{T:TypeId}{fz:Nat×Nat}{c:α→Value}{x:α}{k:α→K}(h:HG B Γ (k x))[ad:zDk a b off][p:Own b Γ (blk b (.cells l.toArray T fz)) Δ](hv:nth l off=some (c x):=by rfl):HG B Γ (Ld a c k):=fun w hw=>
 ⟨x,by rw[ad.h];exact y9 (xZ hw (p:=p)) (by rw[zI2] at hv;simpa using hv),h w hw⟩
theorem zPZ{b off n:Nat}{l l':List Value}{T:TypeId}{fz:Nat×Nat}(h:w.heap[b]?=some (.cells l.toArray T fz))(hl:(l.drop off).take n=l')(hn:l'.length=n):RdN w ⟨b,off,none⟩ l'.toArray:=by
 refine zVE h fun i hi=>?_;have hi':i<l'.length:=by simpa using hi
 have:l'[i]?=l[off+i]?:=by rw[←hl,zhY,if_pos (by omega),zgt]
 simpa using this.symm
theorem yC{a:Addr}{b off n:Nat}{l l':List Value}{T:TypeId}{fz:Nat×Nat}{k:Array Value→K}(h:HG B Γ (k l'.toArray))[ad:zDk a b off][p:Own b Γ (blk b (.cells l.toArray T fz)) Δ]
  (hl:(l.drop off).take n=l':=by first|rfl|simp only[zg8,Nat.reduceAdd,zh2,zh9,zhu,List.take_zero]) (hn:l'.length=n:=by rfl):HG B Γ (LdN a n k):=fun w hw=>
 ⟨l'.toArray,by simpa using hn,by rw[ad.h];exact zPZ (xZ hw (p:=p)) hl hn,h w hw⟩
variable{Γ0:List zB}
theorem jK{α:Type}{a:Addr}{b off:Nat}{l:List Value}{T:TypeId}{fz:Nat×Nat}{c:α→Value}{x:α}{k:α→K}(h:HG B Γ (k x))[ad:zDk a b off][p:Own b Γ0 (blk b (.cells l.toArray T fz)) Δ](hv:nth l off=some (c x):=by rfl):HG B Γ (LdS (Holds B Γ0) a c k):=fun w hw=>
 ⟨x,fun w' hw'=>by rw[ad.h];exact y9 (xZ hw' (p:=p)) (by rw[zI2] at hv;simpa using hv),h w hw⟩
theorem jq{a:Addr}{b off n:Nat}{l l':List Value}{T:TypeId}{fz:Nat×Nat}{k:Array Value→K}(h:HG B Γ (k l'.toArray))[ad:zDk a b off][p:Own b Γ0 (blk b (.cells l.toArray T fz)) Δ]
  (hl:(l.drop off).take n=l':=by first|rfl|simp only[zg8,Nat.reduceAdd,zh2,zh9,zhu,List.take_zero]) (hn:l'.length=n:=by rfl):HG B Γ (xJ (Holds B Γ0) a n k):=fun w hw=>
 ⟨l'.toArray,by simpa using hn,fun w' hw'=>by rw[ad.h];exact zPZ (xZ hw' (p:=p)) hl hn,h w hw⟩
theorem t0{v x0:Value}{l:List Value}:(x0::l).set 0 v=v::l:=rfl
theorem t1{v x0 x1:Value}{l:List Value}:(x0::x1::l).set 1 v=x0::v::l:=rfl
theorem t2{v x0 x1 x2:Value}{l:List Value}:(x0::x1::x2::l).set 2 v=x0::x1::v::l:=rfl
theorem t3{v x0 x1 x2 x3:Value}{l:List Value}:(x0::x1::x2::x3::l).set 3 v=x0::x1::x2::v::l:=rfl
theorem t4{v x0 x1 x2 x3 x4:Value}{l:List Value}:(x0::x1::x2::x3::x4::l).set 4 v=x0::x1::x2::x3::v::l:=rfl
theorem t5{v x0 x1 x2 x3 x4 x5:Value}{l:List Value}:(x0::x1::x2::x3::x4::x5::l).set 5 v=x0::x1::x2::x3::x4::v::l:=rfl
theorem t6{v x0 x1 x2 x3 x4 x5 x6:Value}{l:List Value}:(x0::x1::x2::x3::x4::x5::x6::l).set 6 v=x0::x1::x2::x3::x4::x5::v::l:=rfl
theorem t7{v x0 x1 x2 x3 x4 x5 x6 x7:Value}{l:List Value}:(x0::x1::x2::x3::x4::x5::x6::x7::l).set 7 v=x0::x1::x2::x3::x4::x5::x6::v::l:=rfl
theorem zXb{l l':List Value}{off:Nat}{v:Value}(h:l.set off v=l':=by first|exact t0|exact t1|exact t2|exact t3|exact t4|exact t5|exact t6|exact t7|rfl):l.set off v=l':=h
theorem zCN{a:Addr}{b off:Nat}{l l':List Value}{T:TypeId}{v:Value}(h:HG B (blk b (.cells l'.toArray T (0,0))::Δ) k)[ad:zDk a b off][p:Own b Γ (blk b (.cells l.toArray T (0,0))) Δ](ho:Nat.ble (off+1) l.length=true:=by rfl)
  (hl:l.set off v=l':=by exact zXb) (hv:qD v=true:=by rfl):HG B Γ (St a v k):=fun w hw=>by
 have h1:=hw.perm p.perm;refine S0 h1 ad.h (by have:=zgY ho;simp only[zg7];omega) hv fun w2 h2=>h w2 ?_;rw[N6,hl] at h2;exact h2
theorem yX{a:Addr}{b n:Nat}{l l':List Value}{T:TypeId}(h:HG B (blk b (.cells l'.toArray T (0,0))::Δ) k)[ad:zDk a b 0][p:Own b Γ (blk b (.cells l.toArray T (0,0))) Δ](hn:l.length=n:=by rfl)(hn':l'.length=n:=by rfl)
  (hf:l'.all qD=true:=by rfl):HG B Γ (StN a n l'.toArray k):=fun w hw=>
 T0 (hw.perm p.perm) ad.h (by simpa using hn) (by simpa using hn') (fun v hv=>zg2.1 hf v (by simpa using hv)) fun w2 h2=>h w2 h2
def elA(s:Sl)(i esz:Nat):Addr:=(s.a.getD ⟨0,0,none⟩).add (i*esz)
theorem zO{s:Sl}{E esz:Nat}{vs:List Value}(h:Holds B Γ w)[p:zDH s Γ (SlC E esz s vs) Δ]:RdC w s esz vs∧vs.length=s.n*esz∧s.n≤s.c∧(∀a,s.a=some a→a.spot=none)∧(s.a=none→s.c=0):=by
 have h1:=h.perm p.perm;exact⟨h1.rdC zgN,h1.zMS⟩
theorem zH4{s:Sl}{E esz:Nat}{vs:List Value}(h:Holds B Γ w)(p:zDH s Γ (SlC E esz s vs) Δ):vs.length=s.n*esz∧s.n≤s.c∧(∀a,s.a=some a→a.spot=none)∧(s.a=none→s.c=0):=(zO h (p:=p)).2
theorem yw(s:Sl){E esz:Nat}{vs:List Value}[p:zDH s Γ (SlC E esz s vs) Δ](h:vs.length=s.n*esz→s.n≤s.c→(∀a,s.a=some a→a.spot=none)→(s.a=none→s.c=0)→HG B Γ k):HG B Γ k:=fun w hw=>by
 obtain⟨h1,h2,h3,h4⟩:=zH4 hw p;exact h h1 h2 h3 h4 w hw
theorem zBk{s:Sl}{i:Nat}{ii:Int}{esz:Nat}{E:Nat}{vs:List Value}{k:Addr→K}(h:HG B Γ (k (elA s i esz)))[p:zDH s Γ (SlC E esz s vs) Δ](hi:ii=(i:Int):=by first|rfl|omega)(hn:i<s.n:=by omega):HG B Γ (Idx s ii esz k):=fun w hw=>by
 obtain⟨h1,h2,h3,h4⟩:=zH4 hw p;subst hi;cases ha:s.a with
 | none=>have:=h4 ha;omega
 | some a=>exact⟨a,elA s i esz,ha,by omega,by omega,by simp[elA,ha],h w hw⟩
theorem zT8{s:Sl}{i off esz:Nat}{vs:List Value}{v:Value}(h:RdC w s esz vs)(hsp:∀a,s.a=some a→a.spot=none)(hv:vs[i*esz+off]?=some v):w.cell? ((elA s i esz).add off)=some v:=by
 have hlt:=(zgZ.1 hv).1;cases ha:s.a with
 | none=>have:=h.nil ha;have:=h.len;simp_all
 | some a=>
  have h1:=h.at' a ha _ hlt;simp only[elA,ha,zhP];rw[add_add' _ (hsp a ha),h1,hv]
theorem zeB{α:Type}{s:Sl}{i off esz E:Nat}{vs:List Value}{c:α→Value}{x:α}{k:α→K}(hv:vs[i*esz+off]?=some (c x))(h:HG B Γ (k x))[p:zDH s Γ (SlC E esz s vs) Δ]:HG B Γ (Ld ((elA s i esz).add off) c k):=fun w hw=>by
 obtain⟨h0,h1,h2,h3,h4⟩:=zO hw (p:=p);exact⟨x,zT8 h0 h3 hv,h w hw⟩
theorem add0(a:Addr):a.add 0=a:=by simp[Addr.add]
theorem zXc{α:Type}{s:Sl}{i esz E:Nat}{vs:List Value}{c:α→Value}{x:α}{k:α→K}(hv:vs[i*esz]?=some (c x))(h:HG B Γ (k x))[p:zDH s Γ (SlC E esz s vs) Δ]:HG B Γ (Ld (elA s i esz) c k):=by
 rw[←add0 (elA s i esz)];exact zeB (by simpa using hv) h
theorem zI8{s:Sl}{i off n esz E:Nat}{vs:List Value}{l':List Value}{k:Array Value→K}(hv:(vs.drop (i*esz+off)).take n=l')(hn:l'.length=n)(h:HG B Γ (k l'.toArray))[p:zDH s Γ (SlC E esz s vs) Δ]:HG B Γ (LdN ((elA s i esz).add off) n k):=fun w hw=>by
 obtain⟨h0,h1,h2,h3,h4⟩:=zO hw (p:=p);refine⟨l'.toArray,by simpa using hn,fun j hj=>?_,h w hw⟩;have hj':j<l'.length:=by simpa using hj
 have hx:vs[i*esz+(off+j)]?=some l'[j]:=by
  have:l'[j]?=vs[i*esz+off+j]?:=by rw[←hv,zhY,if_pos (by omega),zgt]
  rw[←Nat.add_assoc,←this,zgG hj']
 have h5:=zT8 h0 h3 hx;have h6:((elA s i esz).add off).add j=(elA s i esz).add (off+j):=by
  cases ha:s.a with
  | none=>have:=h0.nil ha;have h7:=(zgZ.1 hx).1;simp_all
  | some a=>
   simp only[elA,ha,zhP];have hsp:(a.add (i*esz)).spot=none:=by obtain⟨b,o,t⟩:=a;have:=h3 _ ha;simp only at this;subst this;rw[jD]
   rw[add_add' _ hsp]
 rw[h6,h5];simp[hj']
end
end
section
open Go Go.RowKit
def zFe(P:Program)(T U E esz:Nat):Bool:=sliceT P T E esz&&zQs P U&&match P.info? E with
 | some i=>Nat.ble i.bytes 1000 && !Nat.beq i.bytes 0&&match i.zero with
  | some z=>Nat.beq z.cells.size esz&&z.cells.toList.all qD
  | none=>false
 | none=>false
theorem zDR{P:Program}{T U E esz:Nat}(h:zFe P T U E esz=true):sliceT P T E esz=true∧zQs P U=true∧∃n zv,zKY P E n=true∧n≤1000∧n≠0∧zCD P E zv∧zv.cells.size=esz∧∀v∈zv.cells.toList,qD v=true:=by
 unfold zFe at h;simp only[zgp] at h;obtain⟨⟨h1,h2⟩,h3⟩:=h;refine⟨h1,h2,?_⟩;split at h3
 ·rename_i i hi;simp only[zgp,zhT] at h3;obtain⟨⟨h4,h5⟩,h6⟩:=h3;split at h6
  ·rename_i z hz;simp only[zgp] at h6;refine⟨i.bytes,z,by unfold zKY;rw[hi];simp,zgY h4,(fun e=>by rw[e] at h5;cases h5),⟨i,hi,hz⟩,Nat.eq_of_beq_eq_true h6.1,zg2.1 h6.2⟩
  ·cases h6
 ·cases h3
def zXd(P:Program)(T U E esz:Nat):Bool:=zFe P T T E esz&&match P.underlying U with
 | some (.int _)=>true
 | _=>false
section
variable{P:Program}{B w:World}{Γ Δ:List zB}{E esz:Nat}{s x:Sl}{vs us:List Value}
theorem qp{T U Tr:Nat}{k:Sl→K}(hx:∀w,Holds B Γ w→RdC w x esz us)(hfl:∀u∈us,qD u=true)(hroom:s.n+x.n≤100000000)(h:∀s',s'.n=s.n+x.n→HG B (SlC E esz s' (vs++us)::Δ) (k s'))[p:zDH s Γ (SlC E esz s vs) Δ](hT:zFe P T U E esz=true:=by kernel_rfl):
  HG B Γ (Do P (Builtin.append_ #[T,U] Tr #[s.val,x.val]) Sl.val k):=fun w hw=>by
 obtain⟨h1,h2,n,zv,h3,h4,h5,h6,h7,_⟩:=zDR hT;refine zHG (hw.perm p.perm) h1 h2 h3 h6 h7 (hx w hw) hfl ?_ h5 fun s' w' h' hn _=>h s' hn w' h';have h8:(2*(s.n+x.n)+800)*n≤200000800*1000:=Nat.mul_le_mul (by omega) h4;omega
theorem zDI{T U Tr m:Nat}{us:List Value}{k:Sl→K}(h:∀s',s'.n=s.n+m→HG B (SlC E esz s' (vs++us)::Δ) (k s'))[p:zDH s Γ (SlC E esz s vs) Δ](hn:s.n+m≤100000000:=by omega)(hl:us.length=m*esz:=by rfl)(hfl:us.all qD=true:=by rfl)(hT:zFe P T U E esz=true:=by kernel_rfl):
  HG B Γ (New E us.toArray fun t=>Do P (Builtin.append_ #[T,U] Tr #[s.val,Sl.val (Sl.mk (some t) m m)]) Sl.val k):=zD fun b=>by
 refine qp (us:=us) (fun w hw=>RdC.zGF hw zgN (by simp) hl m) (zHH hfl) (by simp only;omega) (hT:=hT) fun s' hs'=>?_;exact zA (Δ:=SlC E esz s' (vs++us)::Δ) (h s' hs')
theorem zPa{a:Option Addr}{n c m:Nat}(hm:n+m≤c){g:Hp}(h:SlC E esz ⟨a,n,c⟩ vs g):∃js:List Value,js.length=m*esz∧SlC E esz ⟨a,n+m,c⟩ (vs++js) g:=by
 obtain⟨hl,hc,hs⟩:=h;simp only at hl hc hs;cases a with
 | none=>
  simp only at hs;have h0:n=0∧m=0:=by omega
  obtain⟨rfl,rfl⟩:=h0;exact⟨[],by simp,by simpa using hl,by simp only;omega,hs⟩
 | some a=>
  obtain⟨hsp,cs,fz,hb,hf,hsz,hv⟩:=hs;have hmul:n*esz+m*esz≤c*esz:=by rw[←zhA];exact zgn _ hm
  refine⟨(cs.toList.drop (a.off+vs.length)).take (m*esz),?_,?_,hm,hsp,cs,fz,hb,hf,hsz,fun i hi=>?_⟩
  ·simp only[zgR,zhB,Array.length_toList];omega
  ·simp only[zgK,zgR,zhB,Array.length_toList,zhA];omega
  ·rw[zhk];split
   ·rename_i h1;exact hv i h1
   ·rename_i h1;simp only[zgK,zgR,zhB,Array.length_toList] at hi;rw[zhY,if_pos (by omega),zgt,show a.off+vs.length+(i-vs.length)=a.off+i by omega];simp
def zDl(vs:List Value)(p:Nat)(us:List Value):List Value:=vs.take p++us++vs.drop (p+us.length)
theorem zOM{p:Nat}(h:p+us.length≤vs.length):(zDl vs p us).length=vs.length:=by
 simp only[zDl,zgK,zgR,zhB];omega
theorem zON{a:Addr}{p:Nat}(h:Holds B (SlC E esz s vs::Γ) w)(ha:s.a=some a)(hp:p+us.length≤vs.length)(hfl:∀u∈us,qD u=true):
  ∃w',setCells (a.add p) us 0 w=w'∧(∀P:Program,(storeCells (a.add p) us).run P w = .ok () w')∧Holds B (SlC E esz s (zDl vs p us)::Γ) w'∧(∀i,i<us.length→(∃u,w.cell? ((a.add p).add i)=some u)∧w.frozen? ((a.add p).add i)=false):=by
 obtain⟨cs,fz,h2,hsp,hf,hsz,hr,hl,hc⟩:=zMT h ha;obtain⟨b,off,sp⟩:=a;simp only at hsp h2 hf hsz hr;subst hsp;have hb:=h2.block;have hmul:vs.length≤s.c*esz:=by rw[hl];exact zgn _ hc
 have hcell:∀i,i<us.length→(∃u,w.cell? (((⟨b,off,none⟩:Addr).add p).add i)=some u)∧w.frozen? (((⟨b,off,none⟩:Addr).add p).add i)=false:=fun i hi=>by
  rw[jD,jD];have hlt:off+p+i<cs.size:=by omega
  exact⟨⟨_,y9 hb (zg0 hlt)⟩,zBX hb (hf _ (by omega) (by omega))⟩
 refine⟨_,rfl,fun P=>zCX us 0 w hfl fun j hj=>by simpa using hcell j hj,?_,hcell⟩;rw[jD,zCJ _ _ _ _ _ hb];have h3:=h2.setBlock (o':=.cells ((us.zipIdx (off+p+0)).foldl (fun c q=>c.setIfInBounds q.2 q.1) cs) E fz) rfl;refine zMU ha h3 ⟨rfl,hf,by rw[fold_size];exact hsz,fun i hi=>?_,by rw[zOM hp];exact hl,hc⟩;rw[zOM hp] at hi;simp only[zho];unfold zDl;rw[zg9,zhk];split
 ·rename_i h1;simp only[zgR] at h1;rw[zEY _ _ _ _ (by omega),hr i hi,zhY,if_pos (by omega)]
 ·rename_i h1;simp only[zgR] at h1 ⊢;rw[show min p vs.length=p by omega] at h1 ⊢;rw[zhk];split
  ·rename_i h4;rw[show off+i=off+p+(i-p) by omega,zLy _ _ _ _ h4 (by omega)]
  ·rename_i h4;rw[zEY _ _ _ _ (by omega),hr i hi,zgt,show p+us.length+(i-p-us.length)=i by omega]
theorem zPb{i off n:Nat}{us:List Value}{k:K}(h:HG B (SlC E esz s (zDl vs (i*esz+off) us)::Δ) k)[p:zDH s Γ (SlC E esz s vs) Δ](hn:us.length=n:=by rfl)(hp:i*esz+off+n≤vs.length:=by omega)(hfl:us.all qD=true:=by rfl):HG B Γ (StN ((elA s i esz).add off) n us.toArray k):=fun w hw=>by
 have h1:=hw.perm p.perm;obtain⟨h2,h3,h4,h5⟩:=zH4 hw p;cases ha:s.a with
 | none=>
  have h6:=h5 ha;have h7:vs.length=0:=by rw[h2,show s.n=0 by omega];simp
  subst hn;have h8:us=[]:=zgg.1 (by omega);subst h8;refine⟨w,rfl,by simp,fun i hi=>by simp at hi,by simp,?_⟩;have e:zDl vs (i*esz+off) []=vs:=by simp[zDl]
  rw[e] at h;exact h w h1
 | some a=>
  subst hn;have e:(elA s i esz).add off=a.add (i*esz+off):=by simp only[elA,ha,zhP];rw[add_add' _ (h4 a ha)]
  obtain⟨w',e1,_,h6,h7⟩:=zON h1 ha hp (zHH hfl);rw[e];exact⟨w',by simpa using e1.symm,by simp,by simpa using h7,by simpa using zHH hfl,h w' h6⟩
theorem zFV{i off:Nat}{v:Value}{k:K}(h:HG B (SlC E esz s (vs.set (i*esz+off) v)::Δ) k)[p:zDH s Γ (SlC E esz s vs) Δ](hp:i*esz+off<vs.length:=by omega)(hv:qD v=true:=by rfl):HG B Γ (St ((elA s i esz).add off) v k):=fun w hw=>by
 have h1:=hw.perm p.perm;obtain⟨h2,h3,h4,h5⟩:=zH4 hw p;cases ha:s.a with
 | none=>have h6:=h5 ha;rw[show s.n=0 by omega] at h2;omega
 | some a=>
  have e:(elA s i esz).add off=a.add (i*esz+off):=by simp only[elA,ha,zhP];rw[add_add' _ (h4 a ha)]
  rw[e];exact zcU h1 ha hp hv fun w' h'=>h w' h'
theorem zPc{T U t l:Nat}{d:Sl}{us:List Value}{k:Int→K}(hx:∀w,Holds B Γ w→RdC w x esz us)(hfl:∀u∈us.take ((s.n-l)*esz),qD u=true)(hd:d=⟨zCW s.a l s.c esz,s.n-l,s.c-l⟩)(hl:l≤s.n)
  (h:HG B (SlC E esz s (zDl vs (l*esz) (us.take ((s.n-l)*esz)))::Δ) (k (min x.n (s.n-l):Nat))) [p:zDH s Γ (SlC E esz s vs) Δ] (hT:zFe P T U E esz=true:=by kernel_rfl) :
  HG B Γ (Do P (Builtin.copy_ #[T,U] t #[d.val,x.val]) (Value.int .i64) k):=fun w hw=>by
 have hda:d.a=zCW s.a l s.c esz:=by rw[hd]
 have hdn:d.n=s.n-l:=by rw[hd]
 clear hd;obtain⟨hs1,_,_⟩:=zDR hT;obtain⟨hsl,hsz⟩:=zAd hs1;have h1:=hw.perm p.perm;obtain⟨h2,h3,h4,h5⟩:=zH4 hw p;have hr:=hx w hw;have hul:=hr.len;have hr2:RdC w ⟨x.a,min x.n (s.n-l),x.c⟩ esz (us.take (min x.n (s.n-l)*esz)):=hr.take (Nat.min_le_left _ _);have hfc:=zCZ (P:=P) hr2;have hval:∀m,Builtin.firstCells esz m (Sl.val ⟨x.a,min x.n (s.n-l),x.c⟩)=Builtin.firstCells esz m x.val:=fun m=>by
  obtain⟨xa,xn,xc⟩:=x;cases xa <;> rfl
 rw[hval] at hfc;have e0:us.take (min x.n (s.n-l)*esz)=us.take ((s.n-l)*esz):=by
  rcases Nat.le_total x.n (s.n-l) with h6|h6
  ·rw[zh6 h6,←hul,zgQ,zgh (by rw[hul];exact zgn _ h6)]
  ·rw[Nat.min_eq_right h6]
 rw[e0] at hfc;have hlen:(us.take ((s.n-l)*esz)).length≤(s.n-l)*esz:=by rw[zgR];omega
 have hmul:l*esz+(s.n-l)*esz=vs.length:=by rw[←zhA,h2];congr 1;omega
 have hg0:(#[T,U]:Array TypeId)[0]?=some T:=rfl;have hv0:(#[d.val,x.val]:Array Value)[0]?=some d.val:=rfl;have hv1:(#[d.val,x.val]:Array Value)[1]?=some x.val:=rfl;have hlo:(Builtin.lenOf x.val).run P w = .ok x.n w:=by simp[Builtin.lenOf,Sl.val]
 cases ha:s.a with
 | none=>
  have h6:=h5 ha;have h7:s.n=0:=by omega
  have h8:us.take ((s.n-l)*esz)=[]:=by rw[h7];simp
  refine⟨((min x.n (s.n-l):Nat):Int),w,?_,?_⟩;rotate_left
  ·rw[h8] at h;have e:zDl vs (l*esz) []=vs:=by simp[zDl]
   rw[e] at h;exact h w h1
  ·unfold Builtin.copy_;simp only[hg0,hv0,hv1];simp only[Sem.run_bind,run_underlying hsl,Result.andThen,Sl.val,zAB hsz];simp only[Sl.val] at hlo hfc;simp only[hlo,Sem.run_bind,Result.andThen,hdn];rw[show Nat.min x.n (s.n-l)=min x.n (s.n-l) from rfl,hfc];rw[hda];simp[zCW,h8,goInt,storeCells];split <;> simp
 | some a=>
  have hsp:=h4 a ha;obtain⟨w',_,hst',h6,_⟩:=zON (p:=l*esz) (us:=us.take ((s.n-l)*esz)) h1 ha (by omega) hfl;have hst:=hst' P;refine⟨((min x.n (s.n-l):Nat):Int),w',?_,h w' h6⟩;unfold Builtin.copy_;simp only[hg0,hv0,hv1];simp only[Sem.run_bind,run_underlying hsl,Result.andThen,Sl.val,zAB hsz];simp only[Sl.val] at hlo hfc;simp only[hlo,Sem.run_bind,Result.andThen,hdn];rw[show Nat.min x.n (s.n-l)=min x.n (s.n-l) from rfl,hfc];rw[hda,ha];by_cases hcl:s.c=l
  ·have h7:s.n-l=0:=by omega
   have h8:us.take ((s.n-l)*esz)=[]:=by rw[h7];simp
   rw[h8] at hst;have hw':w'=w:=by simpa[storeCells] using hst.symm
   simp[zCW,hcl,h8,goInt,storeCells,hw']
  ·simp[zCW,hcl,hst,goInt]
theorem zEv{T U Tr:Nat}{us:List Value}{k:Sl→K}(hx:∀w,Holds B Γ w→RdC w x esz us)(hfl:∀u∈us,qD u=true)(hroom:x.n≤100000000)(h:∀s',s'.n=x.n→HG B (SlC E esz s' us::Γ) (k s'))(hT:zFe P T U E esz=true:=by kernel_rfl):
  HG B Γ (New E #[] fun t=>Do P (Builtin.append_ #[T,U] Tr #[Sl.val (Sl.mk (some t) 0 0),x.val]) Sl.val k):=zD fun b=>by
 refine zBg (A':=SlC E esz ⟨some ⟨b,0,none⟩,0,0⟩ []) (zAq (vs:=[]) rfl (by simp)) ?_;refine qp (us:=us) (fun w hw=>hx w hw.tail) hfl (by simp only;omega) (hT:=hT) fun s' hs'=>?_;have:=h s' (by simpa using hs');simpa using this
theorem zXe{T U Tr:Nat}{m:Int}{k:Sl→K}(hm:0≤m)(hgrow:(s.c:Int)<s.n+m)(hroom:(s.n:Int)+m≤100000000)(h:∀s' zs,s'.n=s.n+m.toNat→zs.length=m.toNat*esz→(∀v∈zs,qD v=true)→HG B (SlC E esz s' (vs++zs)::Γ) (k s'))(hr:∀w,Holds B Γ w→RdC w s esz vs)(hsp:s.n≤s.c)(hT:zXd P T U E esz=true:=by kernel_rfl):
  HG B Γ (Do P (Builtin.append_ #[T,U] Tr #[s.val,.int .i64 m]) Sl.val k):=fun w hw=>by
 unfold zXd at hT;simp only[zgp] at hT;obtain⟨hT,hU⟩:=hT;obtain⟨hs1,_,by',zv,hby,hle,hne,hz,hzs,hzf⟩:=zDR hT;obtain⟨hsl,hsz⟩:=zAd hs1;obtain⟨ib,hib,hbytes⟩:=zLE hby
 obtain⟨n,rfl⟩:∃n:Nat,m=n:=⟨m.toNat,by omega⟩
 simp only[zgw] at h;obtain⟨kd,hU'⟩:∃kd,P.underlying U=some (.int kd):=by
  split at hU
  ·rename_i kd hk;exact⟨kd,hk⟩
  ·cases hU
 have hti:(typeInfo E).run P w = .ok ib w:=by simp[typeInfo,program,hib,Sem.run]
 have hget:(#[T,U]:Array TypeId)[0]?=some T:=rfl;have hget1:(#[T,U]:Array TypeId)[1]?=some U:=rfl;have hv0:(#[s.val,Value.int .i64 (n:Int)]:Array Value)[0]?=some s.val:=rfl;have hv1:(#[s.val,Value.int .i64 (n:Int)]:Array Value)[1]?=some (Value.int .i64 (n:Int)):=rfl;have hwr:IntKind.wrap .i64 (n:Int)=n:=wrap64 (by omega) (by omega);have hl0:¬((n:Int)<0):=by omega
 have hbig2:¬((n:Int)*(ib.bytes:Int)>2^48):=by
  rw[hbytes];have h1:n*by'≤100000000*1000:=Nat.mul_le_mul (by omega) hle
  have h2:((n*by':Nat):Int)≤100000000*1000:=by omega
  rw[Int.natCast_mul] at h2;omega
 have hcap:=zMQ (show s.c<s.n+n by omega);have hcap2:¬(Builtin.nextslicecap (s.n+n) s.c*ib.bytes>2^48):=by
  rw[hbytes];have h1:=Nat.mul_le_mul hcap hle;have h2:(2*(s.n+n)+800)*1000≤200000800*1000:=zgn _ (by omega);omega
 have hi64:¬((s.n+n:Nat):Int)>IntKind.i64.max:=by simp[IntKind.max,IntKind.signed,IntKind.bits];omega
 have hn:¬(s.n+n≤s.c):=by omega
 have hio:(asIntOf (Value.int .i64 (n:Int))).run P w = .ok (.i64,(n:Int)) w:=by simp[asIntOf]
 show ∃x w',(Builtin.append_ #[T,U] Tr #[s.val,.int .i64 n]).run P w = .ok (Sl.val x) w'∧k x w';unfold Builtin.append_;simp only[hget,hget1,hv0,hv1];simp only[Sem.run_bind,run_underlying hsl,Result.andThen,Sl.val,zAB hsz,run_underlying hU',Sem.run_pure,zhX,asInt,hio,hwr,hl0,zhG,hti,hbig2,zgw];simp only[hn,zhG];simp only[Sem.run_bind,hti,Result.andThen];rw[if_neg (by rintro⟨h1,_⟩;exact hi64 h1)];simp only[Sem.run_bind,hti,Result.andThen,Sem.run_pure];rw[if_neg hcap2];obtain⟨newCap,w1,hch,hle1,hw1⟩:∃nc w1,(choose (.appendCap (s.n+n) s.c E)).run P w = .ok nc w1∧s.n+n≤nc∧w1={ w with drawn:=w.drawn+1 }:=by
  refine⟨(Question.appendCap (s.n+n) s.c E).cut (w.tape w.drawn (.appendCap (s.n+n) s.c E)),_,by simp[choose,Sem.run,Question.forced],?_,rfl⟩;simp only[Question.cut];omega
 have hw':Holds B Γ w1:=by rw[hw1];exact hw.drew _
 have hrs1:=hr w1 hw';have hti1:(typeInfo E).run P w1 = .ok ib w1:=by simp[typeInfo,program,hib,Sem.run]
 have hf1:=zCZ (P:=P) hrs1;simp only[Sl.val] at hf1;obtain⟨zs,hzl,hzfl,hap⟩:∃zs:List Value,zs.length=n*esz∧(∀v∈zs,qD v=true)∧(if n*esz=0 then(pure #[]:Sem (Array Value)) else do pure (Builtin.zeroCells (←zeroValue E).cells n)).run P w1 = .ok zs.toArray w1:=by
  by_cases h0:n*esz=0
  ·exact⟨[],by simp[h0],by simp,by simp[h0]⟩
  ·refine⟨(Builtin.zeroCells zv.cells n).toList,by simp[Builtin.zeroCells,hzs],zHJ _ _ hzf,?_⟩;rw[if_neg h0];simp[zBH hz]
 simp only[hch,hti1,run_askRoom,hf1,zBH hz,Sem.run_bind,Result.andThen,Sem.run_pure,newRow,newObj,Sem.run,Bool.not_true,zgc,zhG] at hap ⊢;simp only[hap];refine⟨⟨some ⟨w1.heap.size,0,none⟩,s.n+n,newCap⟩,_,rfl,h _ zs rfl (by simpa using hzl) hzfl _ ?_⟩;have h2:=hw'.alloc (.cells (vs.toArray++zs.toArray++Builtin.zeroCells zv.cells (newCap-(s.n+n))) E);have hvl:=hrs1.len;refine h2.imp fun g hg=>⟨?_,hle1,rfl,_,(0,0),hg,?_,?_,?_⟩
 ·simp[hvl,hzl,zhA]
 ·intro i _ _;simp
 ·simp only[zg8,Array.size_append,zg7,hvl,hzl,Builtin.zeroCells,Array.size_map,Array.size_range,hzs];rw[←zhA,←zhA];exact zgn _ (by omega)
 ·intro i hi;simp only[zg8];rw[Array.getElem?_append_left (by simpa using hi)];simp[zhk,Array.getElem?_append]
theorem zAl{lo hi mx:Nat}{l h' m:Int}{ks:Sl→K}(h:HG B Γ (ks ⟨zCW s.a lo mx esz,hi-lo,mx-lo⟩))(hl:l=(lo:Int):=by first|rfl|omega)(hh:h'=(hi:Int):=by first|rfl|omega)(hm:m=(mx:Int):=by first|rfl|omega)(h1:lo≤hi:=by omega)(h2:hi≤mx:=by omega)(h3:mx≤s.c:=by omega):
  HG B Γ (Slc s l h' m esz ks):=fun w hw=>by
 subst hl;subst hh;subst hm;exact⟨_,by omega,by omega,by omega,by omega,by simp,h w hw⟩
theorem zEZ{k:K}{m c':Nat}(hm:m≤s.n)(hc:m≤c')(hc':c'≤s.c)(h:HG B (SlC E esz ⟨s.a,m,c'⟩ (vs.take (m*esz))::Δ) k)[p:zDH s Γ (SlC E esz s vs) Δ]:HG B Γ k:=fun w hw=>h w ((hw.perm p.perm).imp fun g hg=>by
 obtain⟨hl,_,hs⟩:=SlC.take hm g hg;refine⟨hl,hc,?_⟩;cases ha:s.a with
 | none=>rw[ha] at hs;simp only at hs ⊢;omega
 | some a=>
  rw[ha] at hs;obtain⟨hsp,cs,fz,hb,hf,hsz,hv⟩:=hs;have:c'*esz≤s.c*esz:=zgn _ hc';exact⟨hsp,cs,fz,hb,fun i h1 h2=>hf i h1 (by simp only at h2 ⊢;omega),by simp only at hsz ⊢;omega,hv⟩)
theorem zeC{k:K}{m:Nat}(hm:s.n+m≤s.c)(h:∀js:List Value,js.length=m*esz→HG B (SlC E esz ⟨s.a,s.n+m,s.c⟩ (vs++js)::Δ) k)[p:zDH s Γ (SlC E esz s vs) Δ]:HG B Γ k:=fun w hw=>by
 have h1:=hw.perm p.perm;have h2:Holds B ((ex fun js:List Value=>fun g=>js.length=m*esz∧SlC E esz ⟨s.a,s.n+m,s.c⟩ (vs++js) g)::Δ) w:=h1.imp fun g hg=>zPa hm hg;obtain⟨js,h3⟩:=Holds.ex.1 h2;exact h js (h3.fact fun g hg=>hg.1) w (h3.imp fun g hg=>hg.2)
theorem zJs{T t l q m:Nat}{d:Sl}{k:Value→K}(hd:d=⟨zCW s.a l m esz,q,m-l⟩)(hl:s.n≤l)(hq:l+q≤s.c)(hm:q=0∨m≠l)(h:HG B (SlC E esz s vs::Δ) (k (.tuple #[])))[p:zDH s Γ (SlC E esz s vs) Δ](hT:zFe P T T E esz=true:=by kernel_rfl):
  HG B Γ (Do P (Builtin.clear_ #[T] t #[d.val]) id k):=fun w hw=>by
 obtain⟨h1,_,_,zv,_,_,_,h6,h7,h8⟩:=zDR hT;exact zZ1 (hw.perm p.perm) h1 h6 h7 h8 hl hq hm hd fun w' h'=>h w' h'
theorem zXf{n m esz:Nat}(h:vs.length=n*esz)(hm:m≤n):(vs.take (m*esz)).length=m*esz:=by
 have:=zgn esz hm;rw[zgR];omega
theorem zPd{T t:Nat}{k:Int→K}(hT:zFe P T T E esz=true)(h:HG B Γ (k (s.c:Int))):HG B Γ (Do P (Builtin.cap_ #[T] t #[s.val]) (Value.int .i64) k):=fun w hw=>by
 obtain⟨h1,_⟩:=zDR hT;obtain⟨hsl,_⟩:=zAd h1;refine⟨s.c,w,?_,h w hw⟩;unfold Builtin.cap_;have hget:(#[T]:Array TypeId)[0]?=some T:=rfl;have hv0:(#[s.val]:Array Value)[0]?=some s.val:=rfl;simp only[hget,hv0];simp only[Sem.run_bind,run_underlying hsl,Result.andThen,Sl.val];rfl
end
end
end Go.Sep
