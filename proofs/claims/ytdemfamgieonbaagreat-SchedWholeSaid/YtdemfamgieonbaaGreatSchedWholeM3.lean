/- Texts of the claim SchedWhole, one behind the other. -/
import Derived.Test.YtdemfamgieonbaaGreatSchedWholeM2
import Derived.Maps.RangeRun
import Derived.Laws.StructEq
import Derived.Shelf.SortM.Plain
import Derived.Shelf.SortM.SortNone
import Derived.Ground.SlgmProg
import Derived.Test.YtdemfamgieonbaaGreatProg
import Derived.Deep.OwnRows
set_option linter.all false
namespace Go.Sep
open Go Go.RowKit
class Nx (B:World) (Γ:List HProp) (k:K) (Δ:outParam (List HProp)) (j:outParam K):Prop where h:HG B Δ j→HG B Γ k
class NthV (l:List Value) (n:Nat) (v:outParam Value):Prop where h:nth l n = some v
class Cv {α:Type} (c:α→Value) (v:Value) (x:outParam α):Prop where h:v = c x
class SetV (l:List Value) (n:Nat) (v:Value) (l':outParam (List Value)):Prop where h:l.set n v = l'∧n < l.length
class TakeV (l:List Value) (m n:Nat) (l':outParam (List Value)):Prop where h:(l.drop m).take n = l'∧l'.length = n
class FlatV (v:Value):Prop where h:flatV v = true
class FlatL (l:List Value):Prop where h:l.all flatV = true
class LenV (l:List Value) (n:outParam Nat):Prop where h:l.length = n
class BoolV (b:Bool) (v:outParam Bool):Prop where h:b = v
instance nthV0 {v:Value} {l:List Value}:NthV (v::l) 0 v:=⟨rfl⟩
instance nthV1 {v u:Value} {l:List Value} {n:Nat} [h:NthV l n v]:NthV (u::l) (n + 1) v:=⟨h.h⟩
instance cvBool {b:Bool}:Cv Value.bool (.bool b) b:=⟨rfl⟩
instance cvInt {k:IntKind} {n:Int}:Cv (Value.int k) (.int k n) n:=⟨rfl⟩
instance cvStr {b:ByteArray}:Cv Value.string (.string b) b:=⟨rfl⟩
instance cvPtr {p:Option Addr}:Cv Value.pointer (.pointer p) p:=⟨rfl⟩
instance cvMap {p:Option Nat}:Cv Value.map (.map p) p:=⟨rfl⟩
instance (priority:=high) cvSl {s:Sl}:Cv Sl.val s.val s:=⟨rfl⟩
instance cvSl2 {a:Option Addr} {n c:Nat}:Cv Sl.val (.slice a n c) ⟨a,n,c⟩:=⟨rfl⟩
instance cvId {v:Value}:Cv id v v:=⟨rfl⟩
instance cvAgg {v:Array Value}:Cv Value.agg (.agg v) v:=⟨rfl⟩
instance setV0 {v u:Value} {l:List Value}:SetV (u::l) 0 v (v::l):=⟨⟨rfl,Nat.zero_lt_succ _⟩⟩
instance setV1 {v u:Value} {l l':List Value} {n:Nat} [h:SetV l n v l']:SetV (u::l) (n + 1) v (u::l'):=⟨⟨by rw [List.set_cons_succ,h.h.1],Nat.succ_lt_succ h.h.2⟩⟩
instance takeV0 {l:List Value}:TakeV l 0 0 []:=⟨⟨rfl,rfl⟩⟩
instance takeV1 {u:Value} {l l':List Value} {n:Nat} [h:TakeV l 0 n l']:TakeV (u::l) 0 (n + 1) (u::l'):=⟨⟨by have:=h.h.1; rw [List.drop_zero] at this ⊢; rw [List.take_succ_cons,this],by rw [List.length_cons,h.h.2]⟩⟩
instance takeV2 {u:Value} {l l':List Value} {m n:Nat} [h:TakeV l m n l']:TakeV (u::l) (m + 1) n l':=⟨h.h⟩
instance flatVB {b:Bool}:FlatV (.bool b):=⟨rfl⟩
instance flatVI {k:IntKind} {n:Int}:FlatV (.int k n):=⟨rfl⟩
instance flatVS {b:ByteArray}:FlatV (.string b):=⟨rfl⟩
instance flatVP {p:Option Addr}:FlatV (.pointer p):=⟨rfl⟩
instance flatVM {p:Option Nat}:FlatV (.map p):=⟨rfl⟩
instance flatVSl {a:Option Addr} {n c:Nat}:FlatV (.slice a n c):=⟨rfl⟩
instance flatL0:FlatL []:=⟨rfl⟩
instance flatL1 {v:Value} {l:List Value} [h:FlatV v] [g:FlatL l]:FlatL (v::l):=⟨by rw [List.all_cons,h.h,g.h]; rfl⟩
instance lenV0:LenV [] 0:=⟨rfl⟩
instance lenV1 {v:Value} {l:List Value} {n:Nat} [h:LenV l n]:LenV (v::l) (n + 1):=⟨by rw [List.length_cons,h.h]⟩
instance boolVT:BoolV true true:=⟨rfl⟩
instance boolVF:BoolV false false:=⟨rfl⟩
instance boolVN1 {b:Bool} [h:BoolV b true]:BoolV (!b) false:=⟨by rw [h.h]; rfl⟩
instance boolVN0 {b:Bool} [h:BoolV b false]:BoolV (!b) true:=⟨by rw [h.h]; rfl⟩
instance boolVS {α:Type} {x:α}:BoolV (some x).isNone false:=⟨rfl⟩
instance boolV0 {α:Type}:BoolV (none:Option α).isNone true:=⟨rfl⟩
instance (priority:=high) zUE {b n:Nat}:AdrIs ((⟨b,0,none⟩:Addr).add n) b n:=⟨by rw [add_mk,Nat.zero_add]⟩
section
variable {B:World} {Γ Δ Γ0:List HProp} {k j:K}
theorem s_wsD {k:(World→Prop)→K} (Γ0:List HProp) (h:HG B Γ (k (Holds B Γ0))) [d:Drops Γ Γ0]:HG B Γ (WithS k):=fun w hw=>⟨Holds B Γ0,hw.drops,h w hw⟩
theorem s_nx (h:HG B Δ j) [n:Nx B Γ k Δ j]:HG B Γ k:=n.h h
instance nx_nn {a:Addr} {k:Addr→K}:Nx B Γ (Nn (some a) k) Γ (k a):=⟨s_nn⟩
instance nx_dr:Nx B Γ (Dr k) Γ k:=⟨s_dr⟩
instance nx_ws {k:(World→Prop)→K}:Nx B Γ (WithS k) Γ (k (Holds B Γ)):=⟨s_ws⟩
instance nx_sv [d:Drops Γ Δ]:Nx B Γ (Sv (Holds B Δ) k) Γ k:=⟨fun h=>s_sv h⟩
instance nx_ld {α:Type} {a:Addr} {b off:Nat} {l:List Value} {T:TypeId} {fz:Nat×Nat} {c:α→Value} {v:Value} {x:α} {k:α→K} [ad:AdrIs a b off] [p:Own b Γ (blk b (.cells l.toArray T fz)) Δ] [n:NthV l off v] [e:Cv c v x]:Nx B Γ (Ld a c k) Γ (k x):=⟨fun h=>s_ld h (by rw [n.h,e.h])⟩
instance nx_ldS {α:Type} {a:Addr} {b off:Nat} {l:List Value} {T:TypeId} {fz:Nat×Nat} {c:α→Value} {v:Value} {x:α} {k:α→K} [ad:AdrIs a b off] [p:Own b Γ0 (blk b (.cells l.toArray T fz)) Δ] [n:NthV l off v] [e:Cv c v x]:Nx B Γ (LdS (Holds B Γ0) a c k) Γ (k x):=⟨fun h=>s_ldS h (by rw [n.h,e.h])⟩
instance nx_ldN {a:Addr} {b off n:Nat} {l l':List Value} {T:TypeId} {fz:Nat×Nat} {k:Array Value→K} [ad:AdrIs a b off] [p:Own b Γ (blk b (.cells l.toArray T fz)) Δ] [t:TakeV l off n l']:Nx B Γ (LdN a n k) Γ (k l'.toArray):=⟨fun h=>s_ldN h t.h.1 t.h.2⟩
instance zUm {a:Addr} {b off n:Nat} {l l':List Value} {T:TypeId} {fz:Nat×Nat} {k:Array Value→K} [ad:AdrIs a b off] [p:Own b Γ0 (blk b (.cells l.toArray T fz)) Δ] [t:TakeV l off n l']:Nx B Γ (LdNS (Holds B Γ0) a n k) Γ (k l'.toArray):=⟨fun h=>s_ldNS h t.h.1 t.h.2⟩
instance nx_st {a:Addr} {b off:Nat} {l l':List Value} {T:TypeId} {v:Value} [ad:AdrIs a b off] [p:Own b Γ (blk b (.cells l.toArray T (0,0))) Δ] [s:SetV l off v l'] [f:FlatV v]:Nx B Γ (St a v k) (blk b (.cells l'.toArray T (0,0))::Δ) k:=⟨fun h=>s_st h (Nat.ble_eq_true_of_le s.h.2) s.h.1 f.h⟩
instance nx_stN {a:Addr} {b n:Nat} {l l':List Value} {T:TypeId} [ad:AdrIs a b 0] [p:Own b Γ (blk b (.cells l.toArray T (0,0))) Δ] [h1:LenV l n] [h2:LenV l' n] [f:FlatL l']:Nx B Γ (StN a n l'.toArray k) (blk b (.cells l'.toArray T (0,0))::Δ) k:=⟨fun h=>s_stN h h1.h h2.h f.h⟩
instance nx_fld {α:Type} {l:List Value} {off:Nat} {c:α→Value} {v:Value} {x:α} {k:α→K} [n:NthV l off v] [e:Cv c v x]:Nx B Γ (Fld l.toArray off c k) Γ (k x):=⟨fun h=>s_fld h (by rw [n.h,e.h])⟩
instance zUn {zero cs:List Value} {n:Nat} {k:Array Value→K} [h1:LenV zero n] [h2:LenV cs n]:Nx B Γ (Bld zero.toArray (fun i=>some (i * n,n)) [(0,.agg cs.toArray)] k) Γ (k cs.toArray):=⟨fun h=>s_bld1 h h1.h h2.h⟩
instance nx_t {b:Bool} {x y:K} [h:BoolV b true]:Nx B Γ (Ite b x y) Γ x:=⟨fun g=>s_t g h.h⟩
instance nx_f {b:Bool} {x y:K} [h:BoolV b false]:Nx B Γ (Ite b x y) Γ y:=⟨fun g=>s_f g h.h⟩
end
class CellsV (v:Value) (us:outParam (List Value)):Prop where h:v.cells = us.toArray
class OverV (z:List Value) (off:Nat) (us:List Value) (z':outParam (List Value)):Prop where h:off + us.length ≤ z.length∧z' = z.take off++us++z.drop (off + us.length)
class PlaceV (pl:List (Nat×Nat)) (i:Nat) (off n:outParam Nat):Prop where h:pl[i]? = some (off,n)
class FillV (pl:List (Nat×Nat)) (z:List Value) (ps:List (Nat×Value)) (cs:outParam (List Value)):Prop where h:Instr.fill (pl[·]?) z.toArray ps = some cs.toArray
instance cellsVA {l:List Value}:CellsV (.agg l.toArray) l:=⟨rfl⟩
instance cellsVB {b:Bool}:CellsV (.bool b) [.bool b]:=⟨rfl⟩
instance cellsVI {k:IntKind} {n:Int}:CellsV (.int k n) [.int k n]:=⟨rfl⟩
instance cellsVS {b:ByteArray}:CellsV (.string b) [.string b]:=⟨rfl⟩
instance cellsVP {p:Option Addr}:CellsV (.pointer p) [.pointer p]:=⟨rfl⟩
instance cellsVM {p:Option Nat}:CellsV (.map p) [.map p]:=⟨rfl⟩
instance cellsVSl {a:Option Addr} {n c:Nat}:CellsV (.slice a n c) [.slice a n c]:=⟨rfl⟩
instance overV0 {z:List Value}:OverV z 0 [] z:=⟨⟨by simp,by simp⟩⟩
instance overV1 {v u:Value} {z us z':List Value} [h:OverV z 0 us z']:OverV (v::z) 0 (u::us) (u::z'):=⟨by
 obtain ⟨h1,h2⟩:=h.h
 simp only [Nat.zero_add,List.take_zero,List.nil_append] at h1 h2
 refine ⟨by simp; omega,?_⟩
 simp only [List.length_cons,Nat.zero_add,List.take_zero,List.nil_append,List.drop_succ_cons,List.cons_append]
 rw [h2]⟩
instance overV2 {v:Value} {z us z':List Value} {off:Nat} [h:OverV z off us z']:OverV (v::z) (off + 1) us (v::z'):=⟨by
 obtain ⟨h1,h2⟩:=h.h
 refine ⟨by simp; omega,?_⟩
 rw [h2,show off + 1 + us.length = (off + us.length) + 1 by omega]
 simp⟩
instance placeV0 {o n:Nat} {pl:List (Nat×Nat)}:PlaceV ((o,n)::pl) 0 o n:=⟨rfl⟩
instance placeV1 {x:Nat×Nat} {o n i:Nat} {pl:List (Nat×Nat)} [h:PlaceV pl i o n]:PlaceV (x::pl) (i + 1) o n:=⟨h.h⟩
instance fillV0 {pl:List (Nat×Nat)} {z:List Value}:FillV pl z [] z:=⟨rfl⟩
theorem zQI {pl:Nat→Option (Nat×Nat)} {z us z':List Value} {i off:Nat} {v:Value} {ps:List (Nat×Value)} (hp:pl i = some (off,us.length)) (hc:v.cells = us.toArray) (h:off + us.length ≤ z.length∧z' = z.take off++us++z.drop (off + us.length)) :
  Instr.fill pl z.toArray ((i,v)::ps) = Instr.fill pl z'.toArray ps:=by
 obtain ⟨h1,rfl⟩:=h
 rw [Instr.fill,hp,hc]
 simp only [List.size_toArray]
 rw [if_neg (by simp; omega)]
 congr 1
 have hl:(z.take off).length = off:=by rw [List.length_take]; omega
 have key:∀ (us m pre C:List Value),pre.length = off→m.length = us.length→∀ (o:Nat) (pre2:List Value),pre2.length = off + o→(us.zipIdx o).foldl (fun (cs:Array Value) (p:Value×Nat)=>cs.setIfInBounds (off + p.2) p.1) (pre2++m++C).toArray = (pre2++us++C).toArray:=by
  intro us
  induction us with
  | nil=>intro m pre C _ hm o pre2 _; rw [List.length_eq_zero_iff.1 hm]; rfl
  | cons u us ih =>
   intro m pre C hp hm o pre2 hp2
   cases m with
   | nil=>simp at hm
   | cons x m =>
    simp only [List.zipIdx_cons,List.foldl_cons]
    have e:(pre2++x::m++C).toArray.setIfInBounds (off + o) u = ((pre2++[u])++m++C).toArray:=by
     apply Array.ext'
     rw [← hp2]
     simp
    rw [e,ih m pre C hp (by simpa using hm) (o + 1) (pre2++[u]) (by simp; omega)]
    simp
 have e:z = z.take off++(z.drop off).take us.length++z.drop (off + us.length):=by
  rw [← List.drop_drop,List.append_assoc,List.take_append_drop,List.take_append_drop]
 have h3:=key us ((z.drop off).take us.length) (z.take off) (z.drop (off + us.length)) hl (by rw [List.length_take,List.length_drop]; omega) 0 (z.take off) (by omega)
 rw [← e] at h3
 rw [← Array.foldl_toList,Array.toList_zipIdx]
 exact h3
instance fillV1 {pl:List (Nat×Nat)} {z z' us cs:List Value} {i off n:Nat} {v:Value} {ps:List (Nat×Value)} [p:PlaceV pl i off n] [c:CellsV v us] [l:LenV us n] [o:OverV z off us z'] [f:FillV pl z' ps cs]:FillV pl z ((i,v)::ps) cs :=
 ⟨by rw [zQI (by rw [l.h]; exact p.h) c.h o.h]; exact f.h⟩
instance nx_bld {pl:List (Nat×Nat)} {B:World} {Γ:List HProp} {z cs:List Value} {ps:List (Nat×Value)} {k:Array Value→K} [f:FillV pl z ps cs]:Nx B Γ (Bld z.toArray (pl[·]?) ps k) Γ (k cs.toArray):=⟨fun h w hw=>⟨_,f.h,h w hw⟩⟩
end Go.Sep
namespace Go.Sep
open Go Go.RowKit Go.MapKept
section
variable {α β:Type} [DecidableEq α] {P:Program} {B w:World} {Γ:List HProp} {enc:α→Value} {cV:β→Value}
def itLeft (es:Array MapEntry) (seen:Array Nat) (m:List (α×β)):List (α×β):=((es.toList.zip m).filter fun p=>!seen.contains p.1.born).map Prod.snd
structure ItF (enc:α→Value) (cV:β→Value) (es:Array MapEntry) (c:Nat) (seen:Array Nat) (m left:List (α×β)) (cur:Option (α×β)):Prop where
 rel:mrel enc cV es m
 st:stamps es c
 lf:left = itLeft es seen m
 cnt:seen.size + left.length = m.length
 cur:∀ p,cur = some p→∃ (seen':Array Nat) (e:MapEntry),seen = seen'.push e.born∧e ∈ es.toList∧e.key = enc p.1∧e.val = cV p.2
def MapIt (enc:α→Value) (cV:β→Value) (b r:Nat) (m left:List (α×β)) (cur:Option (α×β)):HProp:=ex fun es:Array MapEntry=>ex fun c:Nat=>ex fun seen:Array Nat =>
 stars [pur (ItF enc cV es c seen m left cur),blk b (.map es c),blk r (.mapIter (some b) c seen c)]
theorem MapIt.opens {b r:Nat} {m left:List (α×β)} {cur:Option (α×β)} (h:Holds B (MapIt enc cV b r m left cur::Γ) w):∃ es c seen,ItF enc cV es c seen m left cur∧Holds B (blk b (.map es c)::blk r (.mapIter (some b) c seen c)::Γ) w:=by
 obtain ⟨es,h⟩:=Holds.ex.1 h
 obtain ⟨c,h⟩:=Holds.ex.1 h
 obtain ⟨seen,h⟩:=Holds.ex.1 h
 obtain ⟨hp,h⟩:=Holds.pur.1 (Holds.flat.1 h)
 exact ⟨es,c,seen,hp,h⟩
theorem MapIt.shuts {b r:Nat} {m left:List (α×β)} {cur:Option (α×β)} {es:Array MapEntry} {c:Nat} {seen:Array Nat} (hp:ItF enc cV es c seen m left cur) (h:Holds B (blk b (.map es c)::blk r (.mapIter (some b) c seen c)::Γ) w):Holds B (MapIt enc cV b r m left cur::Γ) w :=
 Holds.ex.2 ⟨es,Holds.ex.2 ⟨c,Holds.ex.2 ⟨seen,Holds.flat.2 (Holds.pur.2 ⟨hp,h⟩)⟩⟩⟩
theorem MapIt.ends {b r:Nat} {m left:List (α×β)} {cur:Option (α×β)} (h:Holds B (MapIt enc cV b r m left cur::Γ) w):Holds B (MapR enc cV b m::Γ) w:=by
 obtain ⟨es,c,seen,hp,h⟩:=MapIt.opens h
 exact MapR.shuts ⟨hp.rel,hp.st⟩ (h.del 1 rfl)
theorem zNQ {es:Array MapEntry} {m:List (α×β)} (h:mrel enc cV es m):es.toList.length = m.length:=by have:=congrArg List.length h; simpa using this
theorem zRh {es:Array MapEntry} {m:List (α×β)} (h:mrel enc cV es m):∀ p ∈ es.toList.zip m,p.1.key = enc p.2.1∧p.1.val = cV p.2.2:=by
 intro p hp
 obtain ⟨i,hi⟩:=List.getElem?_of_mem hp
 rw [List.getElem?_zip_eq_some] at hi
 have:=zE1 h i
 rw [hi.1,hi.2] at this
 simp only [Option.map_some,Option.some.injEq,Prod.mk.injEq] at this
 exact this
theorem zOk {T E:TypeId} {d:TypeDesc} {b:Nat} {m:List (α×β)} {k:Option Addr→K} (hT:mapIs P T d E) (h:Holds B (MapR enc cV b m::Γ) w) (hk:∀ r w,Holds B (MapIt enc cV b r m m none::Γ) w→k (some ⟨r,0,none⟩) w) :
  Do P (Instr.range T (.map (some b))) Value.pointer k w:=by
 obtain ⟨kt,hT,hd⟩:=hT
 obtain ⟨es,c,⟨hr,hst⟩,h⟩:=MapR.opens h
 have hb:=h.block
 refine ⟨some ⟨w.heap.size,0,none⟩,{ w with heap:=w.heap.push (.mapIter (some b) c #[] c) },?_,hk _ _ (MapIt.shuts (seen:=#[]) ⟨hr,hst,?_,by simp,fun p hp=>by cases hp⟩ (h.alloc _).swap)⟩
 ·unfold Instr.range
  simp only [Sem.run_bind,run_underlying hT,Result.andThen,MapKept.run_getObj_map hb,Sem.run_pure]
  rfl
 ·unfold itLeft
  have e:(es.toList.zip m).filter (fun p=>!(#[]:Array Nat).contains p.1.born) = es.toList.zip m:=List.filter_eq_self.2 (fun p _=>by simp)
  rw [e,List.map_snd_zip (by rw [zNQ hr]; exact Nat.le_refl _)]
theorem zJn {es:List MapEntry} {m:List (α×β)} (seen:Array Nat) (hn:(es.map (·.born)).Nodup) (hl:es.length = m.length) {e:MapEntry} (he:e ∈ es.filter (fun e=>!seen.contains e.born)) :
  ∃ l1 p l2,(e,p) ∈ es.zip m∧((es.zip m).filter fun p=>!seen.contains p.1.born).map Prod.snd = l1++p::l2∧((es.zip m).filter fun p=>!(seen.push e.born).contains p.1.born).map Prod.snd = l1++l2:=by
 induction es generalizing m with
 | nil=>simp at he
 | cons x es ih =>
  cases m with
  | nil=>simp at hl
  | cons q m =>
   simp only [List.map_cons,List.nodup_cons] at hn
   simp only [List.zip_cons_cons]
   by_cases hx:x = e
   ·subst hx
    have hxs:(!seen.contains x.born) = true:=(List.mem_filter.1 he).2
    refine ⟨[],q,((es.zip m).filter fun p=>!seen.contains p.1.born).map Prod.snd,List.mem_cons_self,?_,?_⟩
    ·simp only [List.filter_cons]; rw [if_pos hxs]; rfl
    ·simp only [List.filter_cons]
     rw [if_neg (by simp)]
     simp only [List.nil_append]
     congr 1
     refine List.filter_congr fun p hp=>?_
     have hpe:p.1.born ≠ x.born:=fun heq=>hn.1 (by rw [← heq]; exact List.mem_map_of_mem (List.of_mem_zip hp).1)
     simp [Array.contains_push,hpe]
   ·have he2:e ∈ es.filter (fun e=>!seen.contains e.born):=by
     have h1:=List.mem_filter.1 he
     rcases List.mem_cons.1 h1.1 with h2 | h2
     ·exact absurd h2.symm hx
     ·exact List.mem_filter.2 ⟨h2,h1.2⟩
    obtain ⟨l1,p,l2,h1,h2,h3⟩:=ih hn.2 (by simpa using hl) he2
    have hxb:x.born ≠ e.born:=fun heq=>hn.1 (by rw [heq]; exact List.mem_map_of_mem (List.mem_filter.1 he2).1)
    by_cases hs:(!seen.contains x.born) = true
    ·refine ⟨q::l1,p,l2,List.mem_cons_of_mem _ h1,?_,?_⟩
     ·simp only [List.filter_cons]
      rw [if_pos hs,List.map_cons,h2]; rfl
     ·simp only [List.filter_cons]
      rw [if_pos (by simp [Array.contains_push,hxb] at hs ⊢; exact hs),List.map_cons,h3]; rfl
    ·refine ⟨l1,p,l2,List.mem_cons_of_mem _ h1,?_,?_⟩
     ·simp only [List.filter_cons]
      rw [if_neg hs,h2]
     ·simp only [List.filter_cons]
      rw [if_neg (by simp [Array.contains_push,hxb] at hs ⊢; exact hs),h3]
theorem r_next {b r:Nat} {m left:List (α×β)} {cur:Option (α×β)} {k:Value→K} (h:Holds B (MapIt enc cV b r m left cur::Γ) w)
  (h0:left = []→∀ w,Holds B (MapR enc cV b m::Γ) w→k (.tuple #[.bool false]) w)
  (h1:∀ l1 p l2 w,left = l1++p::l2→p ∈ m→Holds B (MapIt enc cV b r m (l1++l2) (some p)::Γ) w→k (.tuple #[.bool true,enc p.1,cV p.2]) w) :
  Do P (Instr.next (.pointer (some ⟨r,0,none⟩)) false 0) id k w:=by
 have hend:=MapIt.ends h
 obtain ⟨es,c,seen,hp,h⟩:=MapIt.opens h
 have hb:=h.block
 have hr:=h.tail.block
 rcases run_next_at (P:=P) w 0 r b c c seen es c hr hb hp.st.2 (Nat.le_refl _) with ⟨hz,hrun⟩ | ⟨e,he,w1,hw1,hrun⟩
 ·refine ⟨_,w,hrun,h0 ?_ w hend⟩
  rw [hp.lf]
  unfold itLeft
  have hnone:es.toList.filter (fun e=>!seen.contains e.born) = []:=by
   have:(leftOf es seen).toList.length = 0:=by simpa using hz
   unfold leftOf at this
   rw [Array.toList_filter] at this
   exact List.length_eq_zero_iff.1 this
  have:(es.toList.zip m).filter (fun p=>!seen.contains p.1.born) = []:=by
   rw [List.filter_eq_nil_iff] at hnone ⊢
   intro p hpz
   exact hnone p.1 (List.of_mem_zip hpz).1
  rw [this]; rfl
 ·have he2:e ∈ es.toList.filter (fun e=>!seen.contains e.born):=by
   unfold leftOf at he
   rw [Array.toList_filter] at he
   exact he
  obtain ⟨l1,p,l2,hz,hl,hl2⟩:=zJn seen hp.st.1 (zNQ hp.rel) he2
  have hkv:=zRh hp.rel _ hz
  simp only at hkv
  refine ⟨_,_,hrun,?_⟩
  show k (.tuple #[.bool true,e.key,e.val]) _
  rw [hkv.1,hkv.2]
  have hw:∃ w',w1 = w'∧Holds B (blk b (.map es c)::blk r (.mapIter (some b) c seen c)::Γ) w':=by
   rcases hw1 with rfl | rfl
   ·exact ⟨_,rfl,h⟩
   ·exact ⟨_,rfl,h.drew _⟩
  obtain ⟨w',rfl,h⟩:=hw
  refine h1 l1 p l2 _ (by rw [hp.lf]; exact hl) (List.of_mem_zip hz).2 (MapIt.shuts (es:=es) (c:=c) (seen:=seen.push e.born) ⟨hp.rel,hp.st,hl2.symm,?_,fun q hq=>?_⟩ ?_)
  ·have h3:=hp.cnt
   have h4:left = l1++p::l2:=by rw [hp.lf]; exact hl
   rw [h4] at h3
   simp only [List.length_append,List.length_cons,Array.size_push] at h3 ⊢
   omega
  ·cases hq
   exact ⟨seen,e,rfl,(List.of_mem_zip hz).1,hkv.1,hkv.2⟩
  ·exact (h.swap.setBlock (o':=.mapIter (some b) c (seen.push e.born) c) rfl).swap
def itCount (r n:Nat) (w:World):Nat:=match w.heap[r]? with
 | some (.mapIter _ _ seen _)=>n - seen.size
 | _=>0
theorem zNR {b r:Nat} {m left:List (α×β)} {cur:Option (α×β)} (h:Holds B (MapIt enc cV b r m left cur::Γ) w):itCount r m.length w = left.length:=by
 obtain ⟨es,c,seen,hp,h⟩:=MapIt.opens h
 have:=hp.cnt
 unfold itCount
 rw [h.tail.block]
 simp only
 omega
theorem zOl {b r:Nat} {m left:List (α×β)} {p:α×β} {k:Value→K} (h:Holds B (MapIt enc cV b r m left (some p)::Γ) w) (hk:k (.tuple #[enc p.1,cV p.2]) w) :
  Do P (Instr.entry (.pointer (some ⟨r,0,none⟩))) id k w:=by
 obtain ⟨es,c,seen,hp,h⟩:=MapIt.opens h
 obtain ⟨seen',e,hs,he,hk1,hk2⟩:=hp.cur p rfl
 subst hs
 refine ⟨_,w,run_entry_at (P:=P) w r b c seen' es c e h.tail.block h.block he hp.st.1,?_⟩
 show k (.tuple #[e.key,e.val]) w
 rw [hk1,hk2]
 exact hk
theorem zQJ {zv:Value} {T E:TypeId} {d:TypeDesc} {b:Nat} {m:List (α×β)} {a:α} (hT:mapIs P T d E) (hE:KeyE d enc) (hz:zeroT P E zv) {es:Array MapEntry} {c:Nat} (hb:w.heap[b]? = some (.map es c)) (hr:mrel enc cV es m) (ok:Bool) :
  (Instr.lookup T (.map (some b)) (enc a) ok).run P w = .ok (if ok then .tuple #[((mget a m).map cV).getD zv,.bool (mget a m).isSome] else ((mget a m).map cV).getD zv) w:=by
 obtain ⟨kt,hT,hd⟩:=hT
 unfold Instr.lookup
 simp only [Sem.run_bind,run_underlying hT,Result.andThen,MapKept.run_getObj_map hb,run_checkKey hd (hE.key a),Sem.run_pure]
 rcases mfound hE hr a with ⟨h1,h2,_⟩ | ⟨j,x,h1,_,_,h2,_⟩
 ·simp only [run_findKey hd h1,Result.andThen,Sem.run_bind,zCu hz,Sem.run_pure,h2]
  cases ok <;> rfl
 ·simp only [run_findKey hd h1,Result.andThen,Sem.run_bind,Sem.run_pure,h2]
  cases ok <;> rfl
end
end Go.Sep
namespace Go.Sep
open Go Go.RowKit
inductive Ck where
 | int (k:IntKind)
 | str
 | bool
def Ck.fit:Ck→Value→Bool
 | .int k,.int k' _=>k' == k
 | .str,.string _=>true
 | .bool,.bool _=>true
 | _,_=>false
def fits:List Ck→List Value→Bool
 | [],[]=>true
 | c::cs,v::vs=>c.fit v && fits cs vs
 | _,_=>false
def cksF (P:Program) (f:TypeId→Option (List Ck)):List Field→Nat→Option (List Ck)
 | [],_=>some []
 | x::fs,off=>match f x.type with
  | none=>none
  | some ks => if x.name != "_" && Nat.beq x.offset off && sizeT P x.type ks.length then (cksF P f fs (off + ks.length)).map (ks ++ ·) else none
def cksT (P:Program):Nat→TypeId→Option (List Ck)
 | 0,_=>none
 | d + 1,t=>match P.underlying t with
  | some (.int k)=>some [.int k]
  | some .string=>some [.str]
  | some .bool=>some [.bool]
  | some (.struct fs)=>if P.stoodInHeld t then none else cksF P (cksT P d) fs.toList 0
  | _=>none
def isStT (P:Program) (t:TypeId):Bool:=match P.underlying t with
 | some (.struct _)=>true
 | _=>false
def cellsV (P:Program) (t:TypeId) (vs:List Value):Value:=if isStT P t then .agg vs.toArray else vs.headD .nilIface
theorem zOm {k:IntKind} {v:Value} (h:(Ck.int k).fit v = true):∃ n,v = .int k n:=by
 cases v <;> simp [Ck.fit] at h
 subst h; exact ⟨_,rfl⟩
theorem zOn {v:Value} (h:Ck.str.fit v = true):∃ n,v = .string n:=by
 cases v <;> simp [Ck.fit] at h
 exact ⟨_,rfl⟩
theorem zNS {v:Value} (h:Ck.bool.fit v = true):∃ n,v = .bool n:=by
 cases v <;> simp [Ck.fit] at h
 exact ⟨_,rfl⟩
theorem zD1:∀ {ks:List Ck} {vs:List Value},fits ks vs = true→vs.length = ks.length
 | [],[],_=>rfl
 | c::ks,v::vs,h=>by
  simp only [fits,Bool.and_eq_true] at h
  simp [zD1 h.2]
 | [],_::_,h=>by simp [fits] at h
 | _::_,[],h=>by simp [fits] at h
theorem zHb:∀ {ks ks':List Ck} {vs:List Value},fits (ks++ks') vs = true→fits ks (vs.take ks.length) = true∧fits ks' (vs.drop ks.length) = true
 | [],ks',vs,h=>by simpa [fits] using h
 | c::ks,ks',[],h=>by simp [fits] at h
 | c::ks,ks',v::vs,h=>by
  simp only [List.cons_append,fits,Bool.and_eq_true] at h
  obtain ⟨h1,h2⟩:=zHb h.2
  simp only [List.length_cons,List.take_succ_cons,List.drop_succ_cons,fits,Bool.and_eq_true]
  exact ⟨⟨h.1,h1⟩,h2⟩
section
variable {P:Program}
theorem zQK {t:TypeId} {d:Nat} {ks:List Ck} (h:cksT P d t = some ks) (w:World):(isAgg t).run P w = .ok (isStT P t) w:=by
 cases d with
 | zero=>cases h
 | succ d =>
  unfold cksT at h
  unfold isAgg isStT
  split at h <;> rename_i hu
  ·simp [run_underlying hu,hu]
  ·simp [run_underlying hu,hu]
  ·simp [run_underlying hu,hu]
  ·simp [run_underlying hu,hu]
  ·cases h
theorem one_of {t:TypeId} {d:Nat} {ks:List Ck} (h:cksT P d t = some ks) (hs:isStT P t = false):∃ c,ks = [c]:=by
 cases d with
 | zero=>cases h
 | succ d =>
  unfold cksT at h
  unfold isStT at hs
  split at h <;> rename_i hu
  ·exact ⟨_,(Option.some.inj h).symm⟩
  ·exact ⟨_,(Option.some.inj h).symm⟩
  ·exact ⟨_,(Option.some.inj h).symm⟩
  ·rw [hu] at hs; cases hs
  ·cases h
theorem zFw {t:TypeId} {d:Nat} {ks:List Ck} (h:cksT P d t = some ks) (hz:sizeT P t ks.length = true) {cs:List Value} {off:Nat} (hl:off + ks.length ≤ cs.length) (w:World) :
  (part t cs.toArray off).run P w = .ok (cellsV P t ((cs.drop off).take ks.length)) w:=by
 unfold part cellsV
 simp only [Sem.run_bind,zQK h,Result.andThen]
 cases hs:isStT P t with
 | true =>
  simp only [if_true,Sem.run_bind,zB7 hz,Result.andThen,Sem.run_pure]
  congr 2
  apply Array.ext'
  simp [List.extract]
 | false =>
  obtain ⟨c,rfl⟩:=one_of h hs
  simp only [List.length_cons,List.length_nil,Nat.zero_add] at hl ⊢
  have hlt:off < cs.length:=by omega
  have e:cs.toArray[off]? = some cs[off]:=by simp [hlt]
  simp only [Bool.false_eq_true,if_false,e,Sem.run_pure]
  rw [List.drop_eq_getElem_cons hlt]
  rfl
theorem zOo {D d:Nat} (ih:∀ t ks xs ys,cksT P d t = some ks→fits ks xs = true→fits ks ys = true→∀ w,∃ r:Bool,(Op.equalIn D t (cellsV P t xs) (cellsV P t ys)).run P w = .ok r w∧(r = true ↔ xs = ys)) (xs ys:List Value) :
  ∀ (fs:List Field) (off:Nat) (ks:List Ck),cksF P (cksT P d) fs off = some ks→off ≤ xs.length→off ≤ ys.length→fits ks (xs.drop off) = true→fits ks (ys.drop off) = true→∀ w,∃ r:Bool,(Op.eqFields D xs.toArray ys.toArray fs).run P w = .ok r w∧(r = true ↔ xs.drop off = ys.drop off)
 | [],off,ks,h,_,_,hx,hy,w=>by
  simp only [cksF,Option.some.injEq] at h
  subst h
  have h1:=List.length_eq_zero_iff.1 (zD1 hx)
  have h2:=List.length_eq_zero_iff.1 (zD1 hy)
  exact ⟨true,by simp [Op.eqFields],by simp [h1,h2]⟩
 | f::fs,off,ks,h,lx,ly,hx,hy,w=>by
  unfold cksF at h
  split at h
  ·cases h
  rename_i k1 hk1
  split at h
  ·rename_i hc
   simp only [Bool.and_eq_true,bne_iff_ne,ne_eq,Nat.beq_eq] at hc
   obtain ⟨⟨hn,rfl⟩,hz⟩:=hc
   simp only [Option.map_eq_some_iff] at h
   obtain ⟨k2,hk2,rfl⟩:=h
   have ax:=zHb hx
   have ay:=zHb hy
   have cx:=zD1 hx
   have cy:=zD1 hy
   simp only [List.length_append,List.length_drop] at cx cy
   obtain ⟨r,hr,hiff⟩:=ih f.type k1 _ _ hk1 ax.1 ay.1 w
   obtain ⟨r2,hr2,hiff2⟩:=zOo ih xs ys fs _ k2 hk2 (by omega) (by omega) (by rw [← List.drop_drop]; exact ax.2) (by rw [← List.drop_drop]; exact ay.2) w
   unfold Op.eqFields
   rw [if_pos hn]
   simp only [Sem.run_bind,zFw hk1 hz (show f.offset + k1.length ≤ xs.length by omega),zFw hk1 hz (show f.offset + k1.length ≤ ys.length by omega),Result.andThen,hr]
   have hsp:xs.drop f.offset = ys.drop f.offset ↔ ((xs.drop f.offset).take k1.length = (ys.drop f.offset).take k1.length∧xs.drop (f.offset + k1.length) = ys.drop (f.offset + k1.length)):=by
    constructor
    ·intro e; rw [e,← List.drop_drop,← List.drop_drop,e]; exact ⟨rfl,rfl⟩
    ·rintro ⟨e1,e2⟩
     rw [← List.take_append_drop k1.length (xs.drop f.offset),← List.take_append_drop k1.length (ys.drop f.offset),e1,List.drop_drop,List.drop_drop,e2]
   cases r with
   | false =>
    refine ⟨false,by simp,?_⟩
    rw [hsp,← hiff]; simp
   | true =>
    refine ⟨r2,by simpa using hr2,?_⟩
    rw [hsp,← hiff,hiff2]; simp
  ·cases h
theorem zSz {a b:ByteArray}:(a.toList == b.toList) = true ↔ a = b:=by
 obtain ⟨x,rfl⟩:=bs_of a
 obtain ⟨y,rfl⟩:=bs_of b
 rw [zBp,zBp,beq_iff_eq]
 exact ⟨fun h=>by rw [h],fun h=>by have:=congrArg ByteArray.toList h; rwa [zBp,zBp] at this⟩
theorem zJZ (D:Nat):∀ (d:Nat) (t:TypeId) (ks:List Ck) (xs ys:List Value),cksT P d t = some ks→fits ks xs = true→fits ks ys = true→∀ w,∃ r:Bool,(Op.equalIn (D + d) t (cellsV P t xs) (cellsV P t ys)).run P w = .ok r w∧(r = true ↔ xs = ys)
 | 0,t,ks,xs,ys,h,_,_,w=>by cases h
 | d + 1,t,ks,xs,ys,h,hx,hy,w=>by
  unfold cksT at h
  have lx:=zD1 hx
  have ly:=zD1 hy
  split at h <;> rename_i hu
  ·injection h with h; subst h
   obtain ⟨x,rfl⟩:=List.length_eq_one_iff.1 lx
   obtain ⟨y,rfl⟩:=List.length_eq_one_iff.1 ly
   simp only [fits,Bool.and_true] at hx hy
   have hs:isStT P t = false:=by unfold isStT; rw [hu]
   obtain ⟨a,rfl⟩:=zOm hx
   obtain ⟨b,rfl⟩:=zOm hy
   refine ⟨a == b,?_,by simp⟩
   simp only [cellsV,hs,Bool.false_eq_true,if_false,List.headD_cons]
   exact run_equalIn_int w (D + d) t _ _ _ _ hu
  ·injection h with h; subst h
   obtain ⟨x,rfl⟩:=List.length_eq_one_iff.1 lx
   obtain ⟨y,rfl⟩:=List.length_eq_one_iff.1 ly
   simp only [fits,Bool.and_true] at hx hy
   have hs:isStT P t = false:=by unfold isStT; rw [hu]
   obtain ⟨a,rfl⟩:=zOn hx
   obtain ⟨b,rfl⟩:=zOn hy
   refine ⟨a.toList == b.toList,?_,by rw [zSz]; simp⟩
   simp only [cellsV,hs,Bool.false_eq_true,if_false,List.headD_cons]
   exact run_equalIn_string w (D + d) t _ _ hu
  ·injection h with h; subst h
   obtain ⟨x,rfl⟩:=List.length_eq_one_iff.1 lx
   obtain ⟨y,rfl⟩:=List.length_eq_one_iff.1 ly
   simp only [fits,Bool.and_true] at hx hy
   have hs:isStT P t = false:=by unfold isStT; rw [hu]
   obtain ⟨a,rfl⟩:=zNS hx
   obtain ⟨b,rfl⟩:=zNS hy
   refine ⟨a == b,?_,by simp⟩
   simp only [cellsV,hs,Bool.false_eq_true,if_false,List.headD_cons]
   exact run_equalIn_bool' w (D + d) t _ _ hu
  ·rename_i fs
   split at h
   ·cases h
   rename_i hst
   have hs:isStT P t = true:=by unfold isStT; rw [hu]
   have hf:P.fieldsOf t = fs:=by unfold Program.fieldsOf; rw [hu]
   simp only [cellsV,hs,if_true]
   rw [show D + (d + 1) = (D + d) + 1 by omega,run_equalIn_agg w (D + d) t _ _ (by rw [hf,hu]) (by simpa using hst),hf]
   have:=zOo (D:=D + d) (fun t ks xs ys h1 h2 h3 w=>zJZ D d t ks xs ys h1 h2 h3 w) xs ys fs.toList 0 ks h (Nat.zero_le _) (Nat.zero_le _) (by simpa using hx) (by simpa using hy) w
   simpa using this
  ·cases h
theorem zG3 {d:Nat} (hd:d ≤ 10000) {t:TypeId} {ks:List Ck} {xs ys:List Value} (h:cksT P d t = some ks) (hs:isStT P t = true) (hx:fits ks xs = true) (hy:fits ks ys = true) (w:World):∃ r:Bool,(Op.equal t (.agg xs.toArray) (.agg ys.toArray)).run P w = .ok r w∧(r = true ↔ xs = ys):=by
 have:=zJZ (10000 - d) d t ks xs ys h hx hy w
 rw [show 10000 - d + d = 10000 by omega] at this
 unfold Op.equal Op.maxDepth
 simpa only [cellsV,hs,if_true] using this
theorem s_eqS {B:World} {Γ:List HProp} {T:TypeId} {ks:List Ck} {xs ys:List Value} {p:Prop} [Decidable p] {x y:Operand} {k:Bool→K} (hp:xs = ys ↔ p) (h:HG B Γ (k (decide p))) (hc:cksT P 9 T = some ks:=by kernel_rfl) (hs:isStT P T = true:=by kernel_rfl) (hg:P.eqGuardType P.depth T = false:=by kernel_rfl) (hx:fits ks xs = true:=by rfl) (hy:fits ks ys = true:=by rfl) :
  HG B Γ (Pu P (do eqGuard .eql T x y (.agg xs.toArray) (.agg ys.toArray); binOp .eql T (.agg xs.toArray) (.agg ys.toArray):Sem Value) Value.bool k):=fun w hw=>by
 refine ⟨decide p,fun w=>?_,h w hw⟩
 obtain ⟨r,hr,hiff⟩:=zG3 (by omega) hc hs hx hy w
 have e:r = decide p:=by rw [Bool.eq_iff_iff,hiff,hp]; simp
 subst e
 simp only [Op.equal,Op.maxDepth] at hr
 simp only [Sem.run_bind,run_eqGuard_agg w _ _ _ _ _ _ hg,Result.andThen,run_eql_struct,hr]
theorem zNT {D d:Nat} {e:Bool} (ih:∀ t ks xs,cksT P d t = some ks→fits ks xs = true→∀ w,(Instr.checkKey e D t (cellsV P t xs)).run P w = .ok () w) (xs:List Value) {body:Field→PUnit→Sem (ForInStep PUnit)}
  (hb : ∀ f v w, f.name ≠ "_" → (part f.type xs.toArray f.offset).run P w = .ok v w → (Instr.checkKey e D f.type v).run P w = .ok () w → (body f PUnit.unit).run P w = .ok (.yield PUnit.unit) w) :
  ∀ (fs:List Field) (off:Nat) (ks:List Ck),cksF P (cksT P d) fs off = some ks→off ≤ xs.length→fits ks (xs.drop off) = true→∀ w,(forIn fs PUnit.unit body).run P w = .ok PUnit.unit w
 | [],off,ks,h,_,hx,w=>by simp
 | f::fs,off,ks,h,lx,hx,w=>by
  unfold cksF at h
  split at h
  ·cases h
  rename_i k1 hk1
  split at h
  ·rename_i hc
   simp only [Bool.and_eq_true,bne_iff_ne,ne_eq,Nat.beq_eq] at hc
   obtain ⟨⟨hn,rfl⟩,hz⟩:=hc
   simp only [Option.map_eq_some_iff] at h
   obtain ⟨k2,hk2,rfl⟩:=h
   have ax:=zHb hx
   have cx:=zD1 hx
   simp only [List.length_append,List.length_drop] at cx
   have h2:=zNT ih xs hb fs _ k2 hk2 (by omega) (by rw [← List.drop_drop]; exact ax.2) w
   have h3:=hb f _ w hn (zFw hk1 hz (show f.offset + k1.length ≤ xs.length by omega) w) (ih f.type k1 _ hk1 ax.1 w)
   simp only [List.forIn_cons,Sem.run_bind,h3,Result.andThen]
   exact h2
  ·cases h
theorem zIX (D:Nat) {e:Bool}:∀ (d:Nat) (t:TypeId) (ks:List Ck) (xs:List Value),cksT P d t = some ks→fits ks xs = true→∀ w,(Instr.checkKey e (D + d) t (cellsV P t xs)).run P w = .ok () w
 | 0,t,ks,xs,h,_,w=>by cases h
 | d + 1,t,ks,xs,h,hx,w=>by
  unfold cksT at h
  have lx:=zD1 hx
  rw [show D + (d + 1) = (D + d) + 1 by omega]
  split at h <;> rename_i hu
  ·injection h with h; subst h
   obtain ⟨x,rfl⟩:=List.length_eq_one_iff.1 lx
   have hs:isStT P t = false:=by unfold isStT; rw [hu]
   simp only [cellsV,hs,Bool.false_eq_true,if_false,List.headD_cons]
   unfold Instr.checkKey
   simp [run_underlying hu,Result.andThen]
  ·injection h with h; subst h
   obtain ⟨x,rfl⟩:=List.length_eq_one_iff.1 lx
   have hs:isStT P t = false:=by unfold isStT; rw [hu]
   simp only [cellsV,hs,Bool.false_eq_true,if_false,List.headD_cons]
   unfold Instr.checkKey
   simp [run_underlying hu,Result.andThen]
  ·injection h with h; subst h
   obtain ⟨x,rfl⟩:=List.length_eq_one_iff.1 lx
   have hs:isStT P t = false:=by unfold isStT; rw [hu]
   simp only [cellsV,hs,Bool.false_eq_true,if_false,List.headD_cons]
   unfold Instr.checkKey
   simp [run_underlying hu,Result.andThen]
  ·rename_i fs
   split at h
   ·cases h
   have hs:isStT P t = true:=by unfold isStT; rw [hu]
   simp only [cellsV,hs,if_true]
   unfold Instr.checkKey
   simp only [Sem.run_bind,run_underlying hu,Result.andThen]
   rw [← Array.forIn_toList]
   rw [zNT (D:=D + d) (e:=e) (fun t ks xs h1 h2 w=>zIX D d t ks xs h1 h2 w) xs (fun f v w h1 h2 h3=>by rw [if_pos h1]; simp only [Sem.run_bind,h2,h3,Result.andThen,Sem.run_pure]) fs.toList 0 ks h (Nat.zero_le _) (by simpa using hx) w]
   simp
  ·cases h
structure KeyS {α:Type} (P:Program) (kt:TypeId) (cel:α→List Value):Prop where
 st:isStT P kt = true
 ks:∃ ks,cksT P 9 kt = some ks∧∀ a,fits ks (cel a) = true
 inj:∀ a b,cel a = cel b→a = b
 bits:∀ a,Instr.sameBits 10000 (.agg (cel a).toArray) (.agg (cel a).toArray) = true
abbrev kyS {α:Type} (cel:α→List Value) (a:α):Value:=.agg (cel a).toArray
section
variable {α β:Type} [DecidableEq α] {B w:World} {Γ Δ:List HProp} {kt:TypeId} {cel:α→List Value} {cV:β→Value} {k:K}
theorem KeyS.chk (hE:KeyS P kt cel) (a:α) (e:Bool) (w:World):(Instr.checkKey e 10000 kt (kyS cel a)).run P w = .ok () w:=by
 obtain ⟨ks,h1,h2⟩:=hE.ks
 have:=zIX 9991 (e:=e) 9 kt ks (cel a) h1 (h2 a) w
 simpa only [cellsV,hE.st,if_true] using this
theorem KeyS.eq (hE:KeyS P kt cel) (a b:α) (w:World):(Op.equal kt (kyS cel a) (kyS cel b)).run P w = .ok (decide (a = b)) w:=by
 obtain ⟨ks,h1,h2⟩:=hE.ks
 obtain ⟨r,hr,hiff⟩:=zG3 (d:=9) (by omega) h1 hE.st (h2 a) (h2 b) w
 have e:r = decide (a = b):=by rw [Bool.eq_iff_iff,hiff]; simp; exact ⟨hE.inj a b,fun h=>by rw [h]⟩
 rw [← e]; exact hr
theorem zLI (hE:KeyS P kt cel) (a:α) (w:World):∀ (l:List MapEntry) (m:List (α×β)) (i:Nat),l.map (fun e=>(e.key,e.val)) = m.map (fun p=>(kyS cel p.1,cV p.2)) →
  (mget a m = none∧(Instr.findAsking kt (kyS cel a) l i).run P w = .ok none w)∨∃ j x,m[j]? = some (a,x)∧(∀ i,i < j→∀ p,m[i]? = some p→p.1 ≠ a)∧(Instr.findAsking kt (kyS cel a) l i).run P w = .ok (some (i + j,cV x)) w
 | [],[],i,_=>.inl ⟨rfl,by simp [Instr.findAsking]⟩
 | [],_::_,i,h=>by simp at h
 | _::_,[],i,h=>by simp at h
 | e::l,p::m,i,h=>by
  simp only [List.map_cons,List.cons.injEq,Prod.mk.injEq] at h
  obtain ⟨⟨e1,e2⟩,h⟩:=h
  unfold Instr.findAsking
  simp only [Sem.run_bind,e1,hE.eq,Result.andThen]
  by_cases hp:a = p.1
  ·right
   refine ⟨0,p.2,by rw [hp]; rfl,fun i hi=>absurd hi (by omega),?_⟩
   simp [hp,e2]
  ·rcases zLI hE a w l m (i + 1) h with ⟨h1,h2⟩ | ⟨j,x,h1,h2,h3⟩
   ·left
    refine ⟨?_,?_⟩
    ·unfold mget; rw [if_neg hp]; exact h1
    ·simpa [hp] using h2
   ·right
    refine ⟨j + 1,x,by simpa using h1,fun i' hi q hq=>?_,?_⟩
    ·cases i' with
     | zero=>simp at hq; subst hq; exact fun e=>hp e.symm
     | succ i'=>exact h2 i' (by omega) q (by simpa using hq)
    ·simp only [hp,decide_false,Bool.false_eq_true,if_false,h3]
     congr 3; omega
theorem zGZ (hE:KeyS P kt cel) {es:Array MapEntry} {m:List (α×β)} (hr:mrel (kyS cel) cV es m) (a:α) (w:World) :
  ((Instr.findKey kt (kyS cel a) es.toList).run P w = .ok none w∧mget a m = none∧(∀ v,mset a v m = m++[(a,v)])∧mdel a m = m) ∨
  ∃ j x,(Instr.findKey kt (kyS cel a) es.toList).run P w = .ok (some (j,cV x)) w∧j < m.length∧m[j]? = some (a,x)∧mget a m = some x∧(∀ v,mset a v m = m.set j (a,v))∧mdel a m = m.eraseIdx j:=by
 obtain ⟨fs,hu⟩:∃ fs,P.underlying kt = some (.struct fs):=by
  have h1:=hE.st
  unfold isStT at h1
  split at h1
  ·rename_i fs hu; exact ⟨fs,hu⟩
  ·cases h1
 have hfk:(Instr.findKey kt (kyS cel a) es.toList).run P w = (Instr.findAsking kt (kyS cel a) es.toList 0).run P w:=by
  unfold Instr.findKey
  simp only [Sem.run_bind,run_underlying hu,Result.andThen]
  cases es.toList with
  | nil=>simp [Instr.findNow,Instr.findAsking]
  | cons e l=>simp [Instr.findNow,Instr.sameNow]
 rw [hfk]
 rcases mfind a m with ⟨h1,h2,h3,h4⟩ | ⟨j,x,hj,h0,hb,h1,h2,h3⟩
 ·rcases zLI hE a w es.toList m 0 hr with ⟨_,g2⟩ | ⟨j,x,g1,_,_⟩
  ·exact .inl ⟨g2,h1,h2,h3⟩
  ·exact absurd rfl (h4 _ (List.mem_of_getElem? g1))
 ·rcases zLI hE a w es.toList m 0 hr with ⟨g1,_⟩ | ⟨j',x',g1,g2,g3⟩
  ·rw [g1] at h1; cases h1
  ·have hjj:j = j':=by
    rcases Nat.lt_trichotomy j j' with h | h | h
    ·exact absurd rfl (g2 j h _ h0)
    ·exact h
    ·exact absurd rfl (hb j' h _ g1)
   subst hjj
   rw [h0] at g1
   simp only [Option.some.injEq,Prod.mk.injEq,true_and] at g1
   subst g1
   exact .inr ⟨j,x,by simpa using g3,hj,h0,h1,h2,h3⟩
theorem zJo {T E:TypeId} {b:Nat} {m:List (α×β)} {z:β} {a:α} {k:β→K} (hE:KeyS P kt cel) (hz:zeroT P E (cV z)) (h:HG B Γ (k ((mget a m).getD z))) (hT:P.underlying T = some (.map kt E):=by kernel_rfl) [p:Own b Γ (MapR (kyS cel) cV b m) Δ] :
  HG B Γ (Rd P (Instr.lookup T (.map (some b)) (kyS cel a) false) cV k):=fun w hw=>by
 obtain ⟨es,c,⟨hr,hst⟩,h1⟩:=MapR.opens (hw.perm p.perm)
 have hb:=h1.block
 refine ⟨_,?_,h w hw⟩
 unfold Instr.lookup
 simp only [Sem.run_bind,run_underlying hT,Result.andThen,MapKept.run_getObj_map hb,hE.chk,Sem.run_pure]
 rcases zGZ hE hr a w with ⟨g1,g2,_⟩ | ⟨j,x,g1,_,_,g2,_⟩
 ·simp only [g1,Result.andThen,Sem.run_bind,zCu hz,Sem.run_pure,g2]; rfl
 ·simp only [g1,Result.andThen,Sem.run_bind,Sem.run_pure,g2]; rfl
theorem s_updS {T E:TypeId} {b:Nat} {m:List (α×β)} {a:α} {v:β} {x:Value} (hE:KeyS P kt cel) (hx:x = cV v) (h:HG B (MapR (kyS cel) cV b (mset a v m)::Δ) k) (hT:P.underlying T = some (.map kt E):=by kernel_rfl) [p:Own b Γ (MapR (kyS cel) cV b m) Δ] :
  HG B Γ (DoU P (Instr.mapUpdate T (.map (some b)) (kyS cel a) x) k):=fun w hw=>by
 subst hx
 obtain ⟨es,c,⟨hr,hst⟩,h1⟩:=MapR.opens (hw.perm p.perm)
 have hb:=h1.block
 have hlen:es.size = m.length:=by have:=congrArg List.length hr; simpa using this
 unfold Instr.mapUpdate DoU
 simp only [Sem.run_bind,run_underlying hT,Result.andThen,MapKept.run_getObj_map hb,hE.chk]
 rcases zGZ hE hr a w with ⟨g1,_,h2,_⟩ | ⟨j,x,g1,hj,h0,_,h2,_⟩
 ·simp only [g1,Result.andThen]
  obtain ⟨e1,h3⟩:=h1.setMap (P:=P) (es':=es.push { key:=kyS cel a,val:=cV v,born:=c }) (c':=c + 1)
  refine ⟨_,_,e1,h _ (MapR.shuts ⟨?_,zGj hst _ _⟩ h3)⟩
  rw [h2]
  simp only [mrel,Array.toList_push,List.map_append,List.map_cons,List.map_nil]
  rw [show es.toList.map (fun e=>(e.key,e.val)) = _ from hr]
 ·have hes:∃ e,es.toList[j]? = some e∧e.key = kyS cel a:=by
   have:=zE1 hr j
   rw [h0] at this
   cases he:es.toList[j]? with
   | none=>rw [he] at this; simp at this
   | some e =>
    rw [he] at this
    simp only [Option.map_some,Option.some.injEq,Prod.mk.injEq] at this
    exact ⟨e,rfl,this.1⟩
  obtain ⟨e,he,hek⟩:=hes
  have he2:es[j]? = some e:=by rw [← he,Array.getElem?_toList]
  simp only [g1,Result.andThen,Sem.run_bind,he2,Option.map_some,Option.getD_some,hek,Instr.keyThatStays,kyS,hE.bits,if_true,Sem.run_pure]
  obtain ⟨e1,h3⟩:=h1.setMap (P:=P) (es':=es.modify j fun e=>{ e with key:=kyS cel a,val:=cV v }) (c':=c)
  refine ⟨_,_,e1,h _ (MapR.shuts ⟨?_,zFv hst _ _ _⟩ h3)⟩
  rw [h2]
  simp only [mrel]
  apply List.ext_getElem?
  intro i
  have hi:=zE1 hr i
  simp only [List.getElem?_map,Array.getElem?_toList,Array.getElem?_modify] at hi ⊢
  by_cases hij:j = i
  ·subst hij
   rw [List.getElem?_set_self hj,he2]
   simp
  ·rw [List.getElem?_set_ne hij,if_neg hij]
   exact hi
theorem zPT {T E t:TypeId} {b:Nat} {m:List (α×β)} {a:α} {k:Value→K} (hE:KeyS P kt cel) (h:HG B (MapR (kyS cel) cV b (mdel a m)::Δ) (k (.tuple #[]))) (hT:P.underlying T = some (.map kt E):=by kernel_rfl) [p:Own b Γ (MapR (kyS cel) cV b m) Δ] :
  HG B Γ (Do P (Builtin.delete_ #[T,kt] t #[.map (some b),kyS cel a]) id k):=fun w hw=>by
 obtain ⟨es,c,⟨hr,hst⟩,h1⟩:=MapR.opens (hw.perm p.perm)
 have hb:=h1.block
 have hlen:es.size = m.length:=by have:=congrArg List.length hr; simpa using this
 have e0:#[T,kt][0]? = some T:=rfl
 have e1:#[Value.map (some b),kyS cel a][0]? = some (.map (some b)):=rfl
 have e2:#[Value.map (some b),kyS cel a][1]? = some (kyS cel a):=rfl
 unfold Builtin.delete_ Do
 simp only [e0,e1,e2,Sem.run_bind,run_underlying hT,Result.andThen,MapKept.run_getObj_map hb,hE.chk]
 rcases zGZ hE hr a w with ⟨g1,_,_,h2⟩ | ⟨j,x,g1,hj,h0,_,_,h2⟩
 ·simp only [g1,Result.andThen,Sem.run_bind]
  obtain ⟨e3,h3⟩:=h1.setMap (P:=P) (es':=es) (c':=c)
  refine ⟨.tuple #[],_,?_,h _ (MapR.shuts ⟨?_,hst⟩ h3)⟩
  ·simp only [Sem.run_bind,e3,Result.andThen,Sem.run_pure]; rfl
  rw [h2]; exact hr
 ·simp only [g1,Result.andThen,Sem.run_bind]
  obtain ⟨e3,h3⟩:=h1.setMap (P:=P) (es':=es.eraseIdxIfInBounds j) (c':=c)
  refine ⟨.tuple #[],_,?_,h _ (MapR.shuts ⟨?_,zNN hst _⟩ h3)⟩
  ·simp only [Sem.run_bind,e3,Result.andThen,Sem.run_pure]; rfl
  rw [h2]
  have hjs:j < es.size:=by omega
  simp only [mrel,Array.eraseIdxIfInBounds,dif_pos hjs,Array.toList_eraseIdx]
  have mape:∀ {α β:Type} (f:α→β) (l:List α) (i:Nat),(l.eraseIdx i).map f = (l.map f).eraseIdx i:=by
   intro α β f l
   induction l with
   | nil=>intro i; simp
   | cons x l ih=>intro i; cases i <;> simp [ih]
  rw [mape,mape,show es.toList.map (fun e=>(e.key,e.val)) = _ from hr]
theorem zOp {enc:α→Value} {T E:TypeId} {d:TypeDesc} {b:Nat} {m:List (α×β)} {k:Option Addr→K} (hT:mapIs P T d E) (h:∀ r,HG B (MapIt enc cV b r m m none::Δ) (k (some ⟨r,0,none⟩))) [p:Own b Γ (MapR enc cV b m) Δ] :
  HG B Γ (Do P (Instr.range T (.map (some b))) Value.pointer k):=fun w hw=>zOk hT (hw.perm p.perm) fun r w hw=>h r w hw
class OwnI (r:Nat) (Γ:List HProp) (A:outParam HProp) (Δ:outParam (List HProp)):Prop where perm:Γ.Perm (A::Δ)
instance (priority:=low) zTy {r:Nat} {X A:HProp} {Γ Δ:List HProp} [h:OwnI r Γ A Δ]:OwnI r (X::Γ) A (X::Δ):=⟨zGP h.perm⟩
instance (priority:=high) zUo {α β:Type} [DecidableEq α] {enc:α→Value} {cV:β→Value} {b r:Nat} {m left:List (α×β)} {cur:Option (α×β)} {Γ:List HProp}:OwnI r (MapIt enc cV b r m left cur::Γ) (MapIt enc cV b r m left cur) Γ:=⟨.refl _⟩
theorem s_extr {α:Type} {vs:List Value} {i:Nat} {c:α→Value} {v:Value} {x:α} {k:α→K} (h:HG B Γ (k x)) [n:NthV vs i v] [e:Cv c v x]:HG B Γ (Ext (.tuple vs.toArray) i c k):=fun w hw=>⟨_,x,rfl,by have:=n.h; rw [nth_eq] at this; rw [e.h] at this; simpa using this,h w hw⟩
instance nx_ext {α:Type} {vs:List Value} {i:Nat} {c:α→Value} {v:Value} {x:α} {k:α→K} [n:NthV vs i v] [e:Cv c v x]:Nx B Γ (Ext (.tuple vs.toArray) i c k) Γ (k x):=⟨fun h=>s_extr h⟩
theorem s_next {enc:α→Value} {b r:Nat} {m left:List (α×β)} {cur:Option (α×β)} {k:Value→K} (h0:left = []→HG B (MapR enc cV b m::Δ) (k (.tuple #[.bool false])))
  (h1:∀ l1 p l2,left = l1++p::l2→p ∈ m→HG B (MapIt enc cV b r m (l1++l2) (some p)::Δ) (k (.tuple #[.bool true,enc p.1,cV p.2]))) [p:OwnI r Γ (MapIt enc cV b r m left cur) Δ] :
  HG B Γ (Do P (Instr.next (.pointer (some ⟨r,0,none⟩)) false 0) id k):=fun w hw=>r_next (hw.perm p.perm) (fun h w hw=>h0 h w hw) fun l1 q l2 w e hq hw=>h1 l1 q l2 e hq w hw
theorem zOq {enc:α→Value} {b r:Nat} {m left:List (α×β)} {q:α×β} {k:Value→K} (h:HG B Γ (k (.tuple #[enc q.1,cV q.2]))) [p:OwnI r Γ (MapIt enc cV b r m left (some q)) Δ] :
  HG B Γ (Do P (Instr.entry (.pointer (some ⟨r,0,none⟩))) id k):=fun w hw=>zOl (hw.perm p.perm) (h w hw)
theorem zS0 {enc:α→Value} {b r:Nat} {m left:List (α×β)} {cur:Option (α×β)} (h:HG B (MapR enc cV b m::Δ) k) [p:OwnI r Γ (MapIt enc cV b r m left cur) Δ]:HG B Γ k:=fun w hw=>h w (MapIt.ends (hw.perm p.perm))
end
end
end Go.Sep
namespace Go.Proofs.YtdemfamgieonbaaGreat
open Go Go.Sep
structure TagM where
 node:Int
 epoch:Int
 seq:Int
 tr:Int
deriving DecidableEq
abbrev tagF (t:TagM):List Value:=[.int .i64 t.node,.int .u64 t.epoch,.int .u64 t.seq,.int .i64 t.tr]
theorem zNU (c:TagM):(tagF c).length = 4:=rfl
theorem zHc {a b:TagM}:tagF a = tagF b ↔ a = b:=by
 cases a; cases b; simp [tagF]
abbrev tagK:List Ck:=[.int .i64,.int .u64,.int .u64,.int .i64]
end Go.Proofs.YtdemfamgieonbaaGreat
namespace Go.Sep
open Go Go.RowKit
abbrev accN (esz:Nat) (s:Sl) (i:Int) (k:Value→K):K:=Idx s i esz fun t=>LdN t esz fun a=>k (.agg a)
abbrev acc1 {α:Type} (c:α→Value) (s:Sl) (i:Int) (k:Value→K):K:=Idx s i 1 fun t=>Ld t c fun a=>k (c a)
def idxFK (P:Program) (acc:Sl→Int→(Value→K)→K) (s:Sl) (fv:Value) (Q:Int→K):K :=
 LoopK (α:=Int) (fun X x =>
  Ite (decide (x < (s.n:Int)))
   (acc s x fun v =>
   CallV P fv [v] <| Ans1 (fun (t:Bool)=>Value.bool t) fun b =>
   Ite b
    (Q x)
    (Ar (IntKind.wrap .i64 (x + 1)) fun t =>
    X t))
   (Q (-1))) 0
def findG {γ α:Type} (p:γ→α→Bool) (st:γ→α→γ):γ→List α→γ×Option Nat
 | g,[]=>(g,none)
 | g,x::L=>if p g x then (st g x,some 0) else ((findG p st (st g x) L).1,(findG p st (st g x) L).2.map (· + 1))
def idxI:Option Nat→Int
 | none=>-1
 | some i=>i
def delG {γ α:Type} (p:γ→α→Bool) (st:γ→α→γ):γ→List α→γ×List α
 | g,[]=>(g,[])
 | g,x::L=>((delG p st (st g x) L).1,if p g x then (delG p st (st g x) L).2 else x::(delG p st (st g x) L).2)
section
variable {P:Program} {B:World} {Γ Δ:List HProp} {α γ:Type}
theorem zE2 {p:γ→α→Bool} {st:γ→α→γ} {g:γ} {x:α} {L:List α}:delG p st g (x::L) = ((delG p st (st g x) L).1,if p g x then (delG p st (st g x) L).2 else x::(delG p st (st g x) L).2):=rfl
theorem zHd {p:γ→α→Bool} {st:γ→α→γ} {g:γ} {x:α} {L:List α}:findG p st g (x::L) = if p g x then (st g x,some 0) else ((findG p st (st g x) L).1,(findG p st (st g x) L).2.map (· + 1)):=rfl
theorem s_ldW {b n:Nat} {l:List Value} {T:TypeId} {fz:Nat×Nat} {k:Array Value→K} (h:HG B Γ (k l.toArray)) (hl:l.length = n) [p:Own b Γ (blk b (.cells l.toArray T fz)) Δ]:HG B Γ (LdN ⟨b,0,none⟩ n k) :=
 s_ldN (b:=b) (off:=0) (l':=l) h (by rw [List.drop_zero,List.take_of_length_le (Nat.le_of_eq hl)]) hl
theorem s_idxF {R:γ→List HProp} {acc:Sl→Int→(Value→K)→K} {s:Sl} {fv:Value} {vV:α→Value} {Q:Int→K} {L:List α} (p:γ→α→Bool) (st:γ→α→γ) (g0:γ) (I:γ→List α→Prop) (hI:I g0 L) (hIs:∀ g x C,I g (x::C)→I (st g x) C) (hn:s.n = L.length) (hL:L.length < 1000000000)
  (hacc:∀ g (i:Nat) x k,L[i]? = some x→HG B (R g) (k (vV x))→HG B (R g) (acc s (i:Int) k))
  (hf:∀ g x C (q:Bool→K),x ∈ L→I g (x::C)→HG B (R (st g x)) (q (p g x))→HG B (R g) (CallV P fv [vV x] (Ans1 (fun (t:Bool)=>Value.bool t) q)))
  (h:HG B (R (findG p st g0 L).1) (Q (idxI (findG p st g0 L).2))):HG B (R g0) (idxFK P acc s fv Q):=by
 unfold idxFK
 refine s_loop (α:=Int) (ι:=Nat×γ) (fun x i=>x = (i.1:Int)∧i.1 ≤ L.length∧I i.2 (L.drop i.1)∧findG p st g0 L = ((findG p st i.2 (L.drop i.1)).1,(findG p st i.2 (L.drop i.1)).2.map (· + i.1)))
  (fun x i=>R i.2) (fun x i=>L.length - i.1) (0,g0) ⟨rfl,Nat.zero_le _,hI,by simp⟩ ?_
 rintro k' _ ⟨i,g⟩ ⟨rfl,hi,hIg,he⟩ hk'
 simp only at hi hIg he hk' ⊢
 refine s_ite (fun hb=>?_) fun hb=>?_
 ·have hil:i < L.length:=by simp only [decide_eq_true_eq] at hb; omega
  have hge:L[i]? = some L[i]:=List.getElem?_eq_getElem hil
  rw [List.drop_eq_getElem_cons hil] at he hIg
  have hm:L[i] ∈ L:=List.getElem_mem hil
  generalize L[i] = x at hge he hm hIg
  refine hacc g i x _ hge ?_
  refine hf g x _ _ hm hIg ?_
  rw [zHd] at he
  refine s_ite (fun hp=>?_) fun hp=>?_
  ·rw [if_pos hp] at he
   rw [he] at h
   simpa [idxI] using h
  ·rw [if_neg (by simp [hp])] at he
   refine s_ai ?_
   refine hk' _ (i + 1,st g x) ⟨by simp,hil,hIs _ _ _ hIg,?_⟩ (by simp only; omega)
   simp only
   rw [he,Option.map_map]
   congr 2
   funext y
   simp only [Function.comp]; omega
 ·have hil:i = L.length:=by simp only [decide_eq_false_iff_not] at hb; omega
  rw [hil,List.drop_length] at he
  rw [he] at h
  simpa [findG,idxI] using h
theorem zKT (p:α→Bool):∀ L:List α,(findG (fun (_:Unit) x=>p x) (fun _ _=>()) () L).2 = L.findIdx? p
 | []=>rfl
 | x::L=>by
  rw [zHd,List.findIdx?_cons]
  split
  ·rfl
  ·rw [zKT p L]
theorem zIY (p:α→Bool):∀ L:List α,(delG (fun (_:Unit) x=>p x) (fun _ _=>()) () L).2 = L.filter fun x=>!p x
 | []=>rfl
 | x::L=>by
  rw [zE2,zIY p L,List.filter_cons]
  cases p x <;> simp
theorem zG4 {acc:Sl→Int→(Value→K)→K} {s:Sl} {fv:Value} {vV:α→Value} {Q:Int→K} {L:List α} (p:α→Bool) (hn:s.n = L.length) (hL:L.length < 1000000000)
  (hacc:∀ (i:Nat) x k,L[i]? = some x→HG B Γ (k (vV x))→HG B Γ (acc s (i:Int) k))
  (hf:∀ x (q:Bool→K),x ∈ L→HG B Γ (q (p x))→HG B Γ (CallV P fv [vV x] (Ans1 (fun (t:Bool)=>Value.bool t) q)))
  (h:HG B Γ (Q (idxI (L.findIdx? p)))):HG B Γ (idxFK P acc s fv Q) :=
 s_idxF (R:=fun _=>Γ) (fun (_:Unit) x=>p x) (fun _ _=>()) () (fun _ _=>True) trivial (fun _ _ _ _=>trivial) hn hL (fun _=>hacc) (fun _ x _ q hx _=>hf x q hx) (by rw [zKT]; exact h)
theorem zGk (o:Option Nat):decide ((0:Int) ≤ idxI o) = o.isSome:=by
 cases o <;> simp [idxI]
theorem zLJ (p:α→Bool) (L:List α):(L.findIdx? p).isSome = L.any p:=by simp [List.findIdx?_isSome]
theorem zOr {f:α→List Value} {esz E:Nat} {s:Sl} {L:List α} {i:Nat} {x:α} {k:Value→K} (hf:∀ x,(f x).length = esz) (he:0 < esz) (hx:L[i]? = some x) (h:HG B Γ (k (.agg (f x).toArray))) [o:OwnS s Γ (SlC E esz s (L.flatMap f)) Δ]:HG B Γ (accN esz s (i:Int) k) :=
 s_idxN f hf (fun w hw=>(own_rd hw (p:=o)).1) hx h rfl he
theorem acc_rd {f:α→List Value} {esz:Nat} {s:Sl} {L:List α} {i:Nat} {x:α} {k:Value→K} (hf:∀ x,(f x).length = esz) (he:0 < esz) (hr:∀ w,Holds B Γ w→RdC w s esz (L.flatMap f)) (hx:L[i]? = some x) (h:HG B Γ (k (.agg (f x).toArray))):HG B Γ (accN esz s (i:Int) k) :=
 s_idxN f hf hr hx h rfl he
theorem zRi {β:Type} {c:β→Value} {E:Nat} {s:Sl} {L:List β} {i:Nat} {x:β} {k:Value→K} (hx:L[i]? = some x) (h:HG B Γ (k (c x))) [o:OwnS s Γ (SlC E 1 s (L.map c)) Δ]:HG B Γ (acc1 c s (i:Int) k) :=
 s_idx1 (fun w hw=>(own_rd hw (p:=o)).1) hx h
def delFN (P:Program) (idx:Sl→Value→(Int→K)→K) (E T t esz:Nat) (zs:List Value) (s:Sl) (fv:Value) (Q:Sl→K):K :=
 idx s fv fun t10 =>
 Ite (decide (t10 = (-1)))
  (Q s)
  (Ar (IntKind.wrap .i64 (t10 + 1)) fun t15 =>
  LoopK (α:=Int×Int) (fun X x =>
   Ite (decide (x.2 < (s.n:Int)))
    (Idx s x.2 esz fun t24 =>
    LdN t24 esz fun t25 =>
    New E zs.toArray fun v7 =>
    StN v7 esz t25 <|
    LdN v7 esz fun t27 =>
    CallV P fv [(.agg t27)] <| Ans1 (fun (t28:Bool)=>Value.bool t28) fun t28 =>
    Ite (!t28)
     (LdN v7 esz fun t32 =>
     Idx s x.1 esz fun t33 =>
     StN t33 esz t32 <|
     Ar (IntKind.wrap .i64 (x.1 + 1)) fun t35 =>
     Ar (IntKind.wrap .i64 (x.2 + 1)) fun t21 =>
     X (t35,t21))
     (Ar (IntKind.wrap .i64 (x.2 + 1)) fun t21 =>
     X (x.1,t21)))
    (Slc s x.1 (s.n:Int) (s.c:Int) esz fun t38 =>
    Do P (Builtin.clear_ #[T] t #[(Sl.val t38)]) id fun _ =>
    Slc s 0 x.1 (s.c:Int) esz fun t41 =>
    Q t41)) (t10,t15))
def delF1 {β:Type} (P:Program) (idx:Sl→Value→(Int→K)→K) (T t:Nat) (c:β→Value) (s:Sl) (fv:Value) (Q:Sl→K):K :=
 idx s fv fun t10 =>
 Ite (decide (t10 = (-1)))
  (Q s)
  (Ar (IntKind.wrap .i64 (t10 + 1)) fun t15 =>
  LoopK (α:=Int×Int) (fun X x =>
   Ite (decide (x.2 < (s.n:Int)))
    (Idx s x.2 1 fun t24 =>
    Ld t24 c fun t25 =>
    CallV P fv [c t25] <| Ans1 (fun (t28:Bool)=>Value.bool t28) fun t28 =>
    Ite (!t28)
     (Idx s x.1 1 fun t33 =>
     St t33 (c t25) <|
     Ar (IntKind.wrap .i64 (x.1 + 1)) fun t35 =>
     Ar (IntKind.wrap .i64 (x.2 + 1)) fun t21 =>
     X (t35,t21))
     (Ar (IntKind.wrap .i64 (x.2 + 1)) fun t21 =>
     X (x.1,t21)))
    (Slc s x.1 (s.n:Int) (s.c:Int) 1 fun t38 =>
    Do P (Builtin.clear_ #[T] t #[(Sl.val t38)]) id fun _ =>
    Slc s 0 x.1 (s.c:Int) 1 fun t41 =>
    Q t41)) (t10,t15))
theorem zIZ (p:γ→α→Bool) (st:γ→α→γ) {I:γ→List α→Prop} (hIs:∀ g x C,I g (x::C)→I (st g x) C):∀ (g:γ) (L:List α),I g L→((findG p st g L).2 = none∧delG p st g L = ((findG p st g L).1,L)) ∨
  ∃ A x C,L = A++x::C∧(findG p st g L).2 = some A.length∧I (findG p st g L).1 C∧delG p st g L = ((delG p st (findG p st g L).1 C).1,A++(delG p st (findG p st g L).1 C).2)
 | g,[],_=>.inl ⟨rfl,rfl⟩
 | g,x::L,hI=>by
  rw [zHd,zE2]
  by_cases hp:p g x = true
  ·right
   exact ⟨[],x,L,rfl,by simp [hp],by simpa [hp] using hIs _ _ _ hI,by simp [hp]⟩
  ·rcases zIZ p st hIs (st g x) L (hIs _ _ _ hI) with ⟨h1,h2⟩ | ⟨A,y,C,rfl,h2,h4,h3⟩
   ·left
    simp only [hp,Bool.false_eq_true,if_false,h1,h2,Option.map_none,and_self]
   ·right
    refine ⟨x::A,y,C,rfl,?_,?_,?_⟩
    ·simp only [hp,Bool.false_eq_true,if_false,h2,Option.map_some,List.length_cons]
    ·simpa only [hp,Bool.false_eq_true,if_false] using h4
    ·simp only [hp,Bool.false_eq_true,if_false,h3,List.cons_append]
theorem zHe {M:List α} {i:Nat} {x:α} (hi:i < M.length):(M.set i x).take (i + 1) = M.take i++[x]:=by
 rw [List.take_succ_eq_append_getElem (by simpa using hi),List.take_set_of_le (Nat.le_refl _),List.getElem_set_self]
theorem zNV {M:List α} {i j:Nat} {x:α} (hij:i < j):(M.set i x).drop j = M.drop j:=by rw [List.drop_set_of_lt hij]
theorem zOA {f:α→List Value} {esz E:Nat} {s:Sl} {M:List α} {i:Nat} {x:α} {k:K} (hf:∀ x,(f x).length = esz) (hfl:(f x).all flatV = true) (hi:i < M.length) (h:HG B (SlC E esz s ((M.set i x).flatMap f)::Δ) k) [o:OwnS s Γ (SlC E esz s (M.flatMap f)) Δ]:HG B Γ (StN (elA s i esz) esz (f x).toArray k):=by
 have e1:M = M.take i++M[i]::M.drop (i + 1):=by rw [← List.drop_eq_getElem_cons hi,List.take_append_drop]
 have e2:M.set i x = M.take i++x::M.drop (i + 1):=by rw [List.set_eq_take_append_cons_drop,if_pos hi]
 have hl:(M.take i).length = i:=by rw [List.length_take]; omega
 rw [e2] at h
 refine fun w hw=>?_
 have hw2:=hw.perm o.perm
 rw [e1] at hw2
 rw [show elA s i esz = elA s (M.take i).length esz by rw [hl]]
 refine hg hw2 ?_
 rw [← add0 (elA s (M.take i).length esz)]
 refine s_stEN (s:=s) (us:=f x) ?_ (hf x) ?_ hfl
 ·have e:layAt ((M.take i++M[i]::M.drop (i + 1)).flatMap f) ((M.take i).length * esz + 0) (f x) = (M.take i++x::M.drop (i + 1)).flatMap f:=by
   have e1:(M.take i++M[i]::M.drop (i + 1)).flatMap f = (M.take i).flatMap f++(f M[i]++(M.drop (i + 1)).flatMap f):=by simp only [List.flatMap_append,List.flatMap_cons]
   have e2:(M.take i++x::M.drop (i + 1)).flatMap f = (M.take i).flatMap f++(f x++(M.drop (i + 1)).flatMap f):=by simp only [List.flatMap_append,List.flatMap_cons]
   rw [e1,e2,zEI (by simp [zAT f esz hf]) (by rw [hf,hf])]
  rw [e]; exact h
 ·have e3:((M.take i++M[i]::M.drop (i + 1)).flatMap f).length = ((M.take i).length + ((M.drop (i + 1)).length + 1)) * esz:=by rw [zAT f esz hf]; simp only [List.length_append,List.length_cons]
  rw [e3,Nat.add_mul,Nat.add_mul]; omega
theorem zKU {f:α→List Value} {esz:Nat} (hf:∀ x,(f x).length = esz):∀ (L:List α) (i:Nat),(L.flatMap f).take (i * esz) = (L.take i).flatMap f
 | L,0=>by simp
 | [],i + 1=>by simp
 | x::L,i + 1=>by
  rw [List.flatMap_cons,List.take_succ_cons,List.flatMap_cons,← zKU hf L i,Nat.add_mul,Nat.one_mul,Nat.add_comm,← hf x,List.take_length_add_append]
theorem zOs {R:γ→List HProp} {idx:Sl→Value→(Int→K)→K} {E T t esz:Nat} {zs:List Value} {s:Sl} {fv:Value} {Q:Sl→K} {f:α→List Value} {L:List α} (p:γ→α→Bool) (st:γ→α→γ) (g0:γ) (I:γ→List α→Prop) (hI:I g0 L) (hIs:∀ g x C,I g (x::C)→I (st g x) C)
  (hidx:∀ s fv Q w,idxFK P (accN esz) s fv Q w→idx s fv Q w) (hf:∀ x,(f x).length = esz) (he:0 < esz) (hfl:∀ x,(f x).all flatV = true) (hz:zs.length = esz) (hL:L.length < 1000000000)
  (hc:∀ Ξ g x C (q:Bool→K),x ∈ L→I g (x::C)→HG B (Ξ::R (st g x)) (q (p g x))→HG B (Ξ::R g) (CallV P fv [(.agg (f x).toArray)] (Ans1 (fun (t:Bool)=>Value.bool t) q)))
  (h:∀ s',s'.n = (delG p st g0 L).2.length→HG B (SlC E esz s' ((delG p st g0 L).2.flatMap f)::R (delG p st g0 L).1) (Q s')) (hT:appT P T T E esz = true:=by kernel_rfl) :
  HG B (SlC E esz s (L.flatMap f)::R g0) (delFN P idx E T t esz zs s fv Q):=by
 unfold delFN
 refine s_cap s fun a1 a2 a3 a4=>?_
 rw [zAT f esz hf] at a1
 have hn:s.n = L.length:=(Nat.eq_of_mul_eq_mul_right he a1).symm
 refine fun w hw=>hidx _ _ _ _ ?_
 refine hg hw ?_
 clear hw w
 refine s_idxF (R:=fun g=>SlC E esz s (L.flatMap f)::R g) (vV:=fun x=>.agg (f x).toArray) p st g0 I hI hIs hn hL (fun g i x k hx hk=>zOr hf he hx hk) (fun g x C q hx hI hq=>hc _ g x C q hx hI hq) ?_
 rcases zIZ p st hIs g0 L hI with ⟨h1,h2⟩ | ⟨A,x,C,rfl,h1,hI1,h2⟩
 ·rw [h1]
  rw [h2] at h
  refine s_t ?_ (by simp [idxI])
  exact h s hn
 rw [h1]
 have hlen:(A++x::C).length = A.length + (C.length + 1):=List.length_append
 generalize (findG p st g0 (A++x::C)).1 = g1 at *
 refine s_f ?_ (by simp [idxI])
 simp only [idxI]
 refine s_ai ?_
 refine s_loop (α:=Int×Int) (ι:=Nat×Nat×List α×γ) (fun y i=>y.1 = (i.1:Int)∧y.2 = (i.2.1:Int)∧i.1 < i.2.1∧i.2.1 ≤ (A++x::C).length∧i.2.2.1.length = (A++x::C).length∧i.2.2.1.drop i.2.1 = (A++x::C).drop i.2.1∧I i.2.2.2 ((A++x::C).drop i.2.1)∧delG p st g0 (A++x::C) = ((delG p st i.2.2.2 ((A++x::C).drop i.2.1)).1,i.2.2.1.take i.1++(delG p st i.2.2.2 ((A++x::C).drop i.2.1)).2))
  (fun y i=>SlC E esz s (i.2.2.1.flatMap f)::R i.2.2.2) (fun y i=>(A++x::C).length - i.2.1) (A.length,A.length + 1,A++x::C,g1) ⟨rfl,by simp,by simp,by simp,rfl,rfl,?_,?_⟩ ?_
 ·simp only
  have e:(A++x::C).drop (A.length + 1) = C:=by rw [show A++x::C = (A++[x])++C by simp]; exact List.drop_left' (by simp)
  rw [e]; exact hI1
 ·simp only
  have e:(A++x::C).drop (A.length + 1) = C:=by rw [show A++x::C = (A++[x])++C by simp]; exact List.drop_left' (by simp)
  rw [e,List.take_left,h2]
 rintro k' ⟨_,_⟩ ⟨i,j,M,g⟩ ⟨rfl,rfl,hij,hj,hM,hd,hIg,hdel⟩ hk'
 simp only at hij hj hM hd hIg hdel hk' ⊢
 refine s_ite (fun hb=>?_) fun hb=>?_
 ·have hjl:j < (A++x::C).length:=by simp only [decide_eq_true_eq] at hb; omega
  have hMj:M[j]? = some (A++x::C)[j]:=by
   have:=congrArg (·[0]?) hd
   simp only [List.getElem?_drop,Nat.add_zero] at this
   rw [this,List.getElem?_eq_getElem hjl]
  have hmem:(A++x::C)[j] ∈ A++x::C:=List.getElem_mem hjl
  have hdrop:=List.drop_eq_getElem_cons hjl
  rw [hdrop] at hdel hIg
  generalize (A++x::C)[j] = y at hMj hmem hdel hdrop hIg
  rw [zE2] at hdel
  refine s_idxN f hf (fun w hw=>(own_rd (s:=s) hw).1) hMj ?_
  refine s_new fun v7=>?_
  refine s_stN (b:=v7) ?_ hz (hf y) (hfl y)
  refine s_ldW (b:=v7) ?_ (hf y)
  refine zEs (Δ:=[blk v7 (.cells (f y).toArray E (0,0)),SlC E esz s (M.flatMap f)]) ?_
  refine hc _ g y _ _ hmem hIg ?_
  refine s_flat ?_
  show HG B (blk v7 (.cells (f y).toArray E (0,0))::SlC E esz s (M.flatMap f)::R (st g y)) _
  refine s_ite (fun hp=>?_) fun hp=>?_
  ·have hp':p g y = false:=by simpa using hp
   rw [hp'] at hdel
   simp only [Bool.false_eq_true,if_false] at hdel
   refine s_ldW (b:=v7) ?_ (hf y)
   refine s_idx (s:=s) (i:=i) ?_
   refine zOA (s:=s) hf (hfl y) (by omega) ?_
   refine s_ai ?_
   refine s_ai ?_
   refine s_end (hk' _ (i + 1,j + 1,M.set i y,st g y) ⟨by simp,by simp,by simp only; omega,hjl,by simpa using hM,?_,hIs _ _ _ hIg,?_⟩ (by simp only; omega))
   ·simp only
    rw [zNV (by omega),← List.drop_drop,← List.drop_drop,hd]
   ·simp only
    rw [zHe (by omega),hdel]
    simp
  ·have hp':p g y = true:=by simpa using hp
   rw [hp'] at hdel
   simp only [if_true] at hdel
   refine s_ai ?_
   refine s_end (hk' _ (i,j + 1,M,st g y) ⟨rfl,by simp,by simp only; omega,hjl,hM,?_,hIs _ _ _ hIg,hdel⟩ (by simp only; omega))
   simp only
   rw [← List.drop_drop,← List.drop_drop,hd]
 ·have hjl:j = (A++x::C).length:=by simp only [decide_eq_false_iff_not] at hb; omega
  rw [hjl,List.drop_length] at hdel
  simp only [delG,List.append_nil] at hdel
  rw [hdel] at h
  refine s_slc (lo:=i) (hi:=s.n) (mx:=s.c) ?_
  refine zDm (s:=s) (m:=i) (c':=s.c) (by omega) (by omega) (Nat.le_refl _) ?_
  rw [zKU hf]
  refine zGt (s:=⟨s.a,i,s.c⟩) (l:=i) (q:=s.n - i) (m:=s.c) rfl (Nat.le_refl _) (by simp only; omega) (by omega) ?_ (hT:=hT)
  refine s_slc (lo:=0) (hi:=i) (mx:=s.c) ?_
  rw [cut0 a3]
  exact h ⟨s.a,i,s.c⟩ (by simp; omega)
theorem zS1 {β:Type} {R:γ→List HProp} {idx:Sl→Value→(Int→K)→K} {E T t:Nat} {c:β→Value} {s:Sl} {fv:Value} {Q:Sl→K} {L:List β} (p:γ→β→Bool) (st:γ→β→γ) (g0:γ) (I:γ→List β→Prop) (hI:I g0 L) (hIs:∀ g x C,I g (x::C)→I (st g x) C)
  (hidx:∀ s fv Q w,idxFK P (acc1 c) s fv Q w→idx s fv Q w) (hfl:∀ x,flatV (c x) = true) (hL:L.length < 1000000000)
  (hc:∀ Ξ g x C (q:Bool→K),x ∈ L→I g (x::C)→HG B (Ξ::R (st g x)) (q (p g x))→HG B (Ξ::R g) (CallV P fv [c x] (Ans1 (fun (t:Bool)=>Value.bool t) q)))
  (h:∀ s',s'.n = (delG p st g0 L).2.length→HG B (SlC E 1 s' ((delG p st g0 L).2.map c)::R (delG p st g0 L).1) (Q s')) (hT:appT P T T E 1 = true:=by kernel_rfl) :
  HG B (SlC E 1 s (L.map c)::R g0) (delF1 P idx T t c s fv Q):=by
 unfold delF1
 refine s_cap s fun a1 a2 a3 a4=>?_
 rw [List.length_map,Nat.mul_one] at a1
 have hn:s.n = L.length:=a1.symm
 refine fun w hw=>hidx _ _ _ _ ?_
 refine hg hw ?_
 clear hw w
 refine s_idxF (R:=fun g=>SlC E 1 s (L.map c)::R g) (vV:=c) p st g0 I hI hIs hn hL (fun g i x k hx hk=>zRi hx hk) (fun g x C q hx hI hq=>hc _ g x C q hx hI hq) ?_
 rcases zIZ p st hIs g0 L hI with ⟨h1,h2⟩ | ⟨A,x,C,rfl,h1,hI1,h2⟩
 ·rw [h1]
  rw [h2] at h
  refine s_t ?_ (by simp [idxI])
  exact h s hn
 rw [h1]
 have hlen:(A++x::C).length = A.length + (C.length + 1):=List.length_append
 generalize (findG p st g0 (A++x::C)).1 = g1 at *
 refine s_f ?_ (by simp [idxI])
 simp only [idxI]
 refine s_ai ?_
 refine s_loop (α:=Int×Int) (ι:=Nat×Nat×List β×γ) (fun y i=>y.1 = (i.1:Int)∧y.2 = (i.2.1:Int)∧i.1 < i.2.1∧i.2.1 ≤ (A++x::C).length∧i.2.2.1.length = (A++x::C).length∧i.2.2.1.drop i.2.1 = (A++x::C).drop i.2.1∧I i.2.2.2 ((A++x::C).drop i.2.1)∧delG p st g0 (A++x::C) = ((delG p st i.2.2.2 ((A++x::C).drop i.2.1)).1,i.2.2.1.take i.1++(delG p st i.2.2.2 ((A++x::C).drop i.2.1)).2))
  (fun y i=>SlC E 1 s (i.2.2.1.map c)::R i.2.2.2) (fun y i=>(A++x::C).length - i.2.1) (A.length,A.length + 1,A++x::C,g1) ⟨rfl,by simp,by simp,by simp,rfl,rfl,?_,?_⟩ ?_
 ·simp only
  have e:(A++x::C).drop (A.length + 1) = C:=by rw [show A++x::C = (A++[x])++C by simp]; exact List.drop_left' (by simp)
  rw [e]; exact hI1
 ·simp only
  have e:(A++x::C).drop (A.length + 1) = C:=by rw [show A++x::C = (A++[x])++C by simp]; exact List.drop_left' (by simp)
  rw [e,List.take_left,h2]
 rintro k' ⟨_,_⟩ ⟨i,j,M,g⟩ ⟨rfl,rfl,hij,hj,hM,hd,hIg,hdel⟩ hk'
 simp only at hij hj hM hd hIg hdel hk' ⊢
 refine s_ite (fun hb=>?_) fun hb=>?_
 ·have hjl:j < (A++x::C).length:=by simp only [decide_eq_true_eq] at hb; omega
  have hMj:M[j]? = some (A++x::C)[j]:=by
   have:=congrArg (·[0]?) hd
   simp only [List.getElem?_drop,Nat.add_zero] at this
   rw [this,List.getElem?_eq_getElem hjl]
  have hmem:(A++x::C)[j] ∈ A++x::C:=List.getElem_mem hjl
  have hdrop:=List.drop_eq_getElem_cons hjl
  rw [hdrop] at hdel hIg
  generalize (A++x::C)[j] = y at hMj hmem hdel hdrop hIg
  rw [zE2] at hdel
  refine s_idx1 (fun w hw=>(own_rd (s:=s) hw).1) hMj ?_
  refine hc _ g y _ _ hmem hIg ?_
  refine s_ite (fun hp=>?_) fun hp=>?_
  ·have hp':p g y = false:=by simpa using hp
   rw [hp'] at hdel
   simp only [Bool.false_eq_true,if_false] at hdel
   refine s_idx (s:=s) (i:=i) ?_
   rw [← add0 (elA s i 1)]
   refine s_stE (s:=s) ?_ (by simp; omega) (hfl y)
   rw [show i * 1 + 0 = i by omega,← List.map_set]
   refine s_ai ?_
   refine s_ai ?_
   refine s_end (hk' _ (i + 1,j + 1,M.set i y,st g y) ⟨by simp,by simp,by simp only; omega,hjl,by simpa using hM,?_,hIs _ _ _ hIg,?_⟩ (by simp only; omega))
   ·simp only
    rw [zNV (by omega),← List.drop_drop,← List.drop_drop,hd]
   ·simp only
    rw [zHe (by omega),hdel]
    simp
  ·have hp':p g y = true:=by simpa using hp
   rw [hp'] at hdel
   simp only [if_true] at hdel
   refine s_ai ?_
   refine s_end (hk' _ (i,j + 1,M,st g y) ⟨rfl,by simp,by simp only; omega,hjl,hM,?_,hIs _ _ _ hIg,hdel⟩ (by simp only; omega))
   simp only
   rw [← List.drop_drop,← List.drop_drop,hd]
 ·have hjl:j = (A++x::C).length:=by simp only [decide_eq_false_iff_not] at hb; omega
  rw [hjl,List.drop_length] at hdel
  simp only [delG,List.append_nil] at hdel
  rw [hdel] at h
  refine s_slc (lo:=i) (hi:=s.n) (mx:=s.c) ?_
  refine zDm (s:=s) (m:=i) (c':=s.c) (by omega) (by omega) (Nat.le_refl _) ?_
  rw [show (M.map c).take (i * 1) = (M.take i).map c by simp]
  refine zGt (s:=⟨s.a,i,s.c⟩) (l:=i) (q:=s.n - i) (m:=s.c) rfl (Nat.le_refl _) (by simp only; omega) (by omega) ?_ (hT:=hT)
  refine s_slc (lo:=0) (hi:=i) (mx:=s.c) ?_
  rw [cut0 a3]
  exact h ⟨s.a,i,s.c⟩ (by simp; omega)
end
end Go.Sep
namespace Go.Proofs.YtdemfamgieonbaaGreat
open Go.Proofs Go.Shelf
def sortRen:Go.Shelf.Ren:=⟨fun | 6=>152 | 8=>88 | 9=>191 | 19=>144 | 20=>145 | 21=>214 | 22=>215 | 23=>216 | 24=>217 | 25=>218 | 26=>219 | 27=>220 | 28=>221 | 29=>222 | 36=>235 | 31=>185 | 32=>186 | 37=>236 | 38=>237 | 39=>238 | 41=>244 | n=>n,fun | 27=>22 | 29=>9 | 3=>3 | 32=>204 | 26=>22 | 0=>0 | 44=>273 | 46=>33 | 4=>4 | 36=>265 | 35=>264 | 41=>270 | 5=>5 | 9=>9 | 53=>308 | 57=>312 | 63=>339 | 64=>340 | n=>n,fun | n=>n⟩
theorem sortLay:Go.Proofs.SlLaysM.n6 Tryz.prog sortRen:={
 mixed:=by kernel_rfl
 f6:=⟨Tryz.f152.name,by decide,Tryz.func152.trans (congrArg some (by kernel_rfl))⟩
 f8:=Tryz.func88.trans (congrArg some (by kernel_rfl))
 f9:=⟨Tryz.f191.name,by decide,Tryz.func191.trans (congrArg some (by kernel_rfl))⟩
 f19:=Tryz.func144.trans (congrArg some (by kernel_rfl))
 f20:=Tryz.func145.trans (congrArg some (by kernel_rfl))
 f21:=⟨Tryz.f214.name,by decide,Tryz.func214.trans (congrArg some (by kernel_rfl))⟩
 f22:=⟨Tryz.f215.name,by decide,Tryz.func215.trans (congrArg some (by kernel_rfl))⟩
 f23:=⟨Tryz.f216.name,by decide,Tryz.func216.trans (congrArg some (by kernel_rfl))⟩
 f24:=⟨Tryz.f217.name,by decide,Tryz.func217.trans (congrArg some (by kernel_rfl))⟩
 f25:=⟨Tryz.f218.name,by decide,Tryz.func218.trans (congrArg some (by kernel_rfl))⟩
 f26:=⟨Tryz.f219.name,by decide,Tryz.func219.trans (congrArg some (by kernel_rfl))⟩
 f27:=⟨Tryz.f220.name,by decide,Tryz.func220.trans (congrArg some (by kernel_rfl))⟩
 f28:=⟨Tryz.f221.name,by decide,Tryz.func221.trans (congrArg some (by kernel_rfl))⟩
 f29:=⟨Tryz.f222.name,by decide,Tryz.func222.trans (congrArg some (by kernel_rfl))⟩
 f31:=Tryz.func185.trans (congrArg some (by kernel_rfl))
 f32:=Tryz.func186.trans (congrArg some (by kernel_rfl))
 f36:=⟨Tryz.f235.name,by decide,Tryz.func235.trans (congrArg some (by kernel_rfl))⟩
 f37:=⟨Tryz.f236.name,by decide,Tryz.func236.trans (congrArg some (by kernel_rfl))⟩
 f38:=⟨Tryz.f237.name,by decide,Tryz.func237.trans (congrArg some (by kernel_rfl))⟩
 f39:=⟨Tryz.f238.name,by decide,Tryz.func238.trans (congrArg some (by kernel_rfl))⟩
 f41:=⟨Tryz.f244.name,by decide,Tryz.func244.trans (congrArg some (by kernel_rfl))⟩
 t0:=Tryz.underlying0
 a0:=Tryz.isAgg0
 z0:=Tryz.sizeOf0
 v0:=Tryz.zeroValue0
 t3:=Tryz.underlying3
 a3:=Tryz.isAgg3
 z3:=Tryz.sizeOf3
 v3:=Tryz.zeroValue3
 t4:=Tryz.underlying4
 a4:=Tryz.isAgg4
 z4:=Tryz.sizeOf4
 v4:=Tryz.zeroValue4
 t5:=Tryz.underlying5
 a5:=Tryz.isAgg5
 z5:=Tryz.sizeOf5
 v5:=Tryz.zeroValue5
 t9:=Tryz.underlying9
 a9:=Tryz.isAgg9
 z9:=Tryz.sizeOf9
 v9:=Tryz.zeroValue9
 t26:=Tryz.underlying22
 a26:=Tryz.isAgg22
 z26:=Tryz.sizeOf22
 v26:=Tryz.zeroValue22
 t27:=Tryz.underlying22
 a27:=Tryz.isAgg22
 z27:=Tryz.sizeOf22
 v27:=Tryz.zeroValue22
 t29:=Tryz.underlying9
 a29:=Tryz.isAgg9
 z29:=Tryz.sizeOf9
 v29:=Tryz.zeroValue9
 t32:=Tryz.underlying204
 a32:=Tryz.isAgg204
 z32:=Tryz.sizeOf204
 v32:=Tryz.zeroValue204
 t35:=Tryz.underlying264
 a35:=Tryz.isAgg264
 z35:=Tryz.sizeOf264
 v35:=Tryz.zeroValue264
 t36:=Tryz.underlying265
 a36:=Tryz.isAgg265
 z36:=Tryz.sizeOf265
 v36:=Tryz.zeroValue265
 t41:=Tryz.underlying270
 a41:=Tryz.isAgg270
 z41:=Tryz.sizeOf270
 v41:=Tryz.zeroValue270
 t44:=Tryz.underlying273
 a44:=Tryz.isAgg273
 z44:=Tryz.sizeOf273
 v44:=Tryz.zeroValue273
 t46:=Tryz.underlying33
 a46:=Tryz.isAgg33
 z46:=Tryz.sizeOf33
 v46:=Tryz.zeroValue33
 t53:=Tryz.underlying308
 a53:=Tryz.isAgg308
 z53:=Tryz.sizeOf308
 v53:=Tryz.zeroValue308
 t57:=Tryz.underlying312
 a57:=Tryz.isAgg312
 z57:=Tryz.sizeOf312
 v57:=Tryz.zeroValue312
 t63:=Tryz.underlying339
 a63:=Tryz.isAgg339
 z63:=Tryz.sizeOf339
 v63:=Tryz.zeroValue339
 t64:=Tryz.underlying340
 a64:=Tryz.isAgg340
 z64:=Tryz.sizeOf340
 v64:=Tryz.zeroValue340 }
end Go.Proofs.YtdemfamgieonbaaGreat
namespace Go.Proofs.YtdemfamgieonbaaGreat
open Go Go.Sep
set_option maxRecDepth 100000
set_option maxHeartbeats 4000000
attribute [local irreducible] G Gp Cx Tx Ex Sx Dx Ox Ax Lx Rx Fx Bx Bj Al Do Ld LdN St StN New CallF Ar DoU Rd Rd2 Pu Cd Ite Fv CallV CallY Ans0 Ans1 Ans2 Ans3 Ans4 Ans5 Ext Dead Dr WithS Sv LdS LdNS RdS Rd2S Nn Idx IdxA IdxS Fld Bld Slc SlcS Cat All LoopK RangeF RangeJ TakeD
namespace F_IRLibSlices
instance at_123:AT Tryz.prog 123 4:=⟨by kernel_rfl⟩
instance at_224:AT Tryz.prog 224 7:=⟨by kernel_rfl⟩
instance cb_103:CB Tryz.prog 103:=⟨by kernel_rfl⟩
instance cb_152:CB Tryz.prog 152:=⟨by kernel_rfl⟩
instance cb_154:CB Tryz.prog 154:=⟨by kernel_rfl⟩
instance cb_155:CB Tryz.prog 155:=⟨by kernel_rfl⟩
instance cb_172:CB Tryz.prog 172:=⟨by kernel_rfl⟩
instance cb_190:CB Tryz.prog 190:=⟨by kernel_rfl⟩
instance cb_191:CB Tryz.prog 191:=⟨by kernel_rfl⟩
instance cb_202:CB Tryz.prog 202:=⟨by kernel_rfl⟩
instance cb_203:CB Tryz.prog 203:=⟨by kernel_rfl⟩
instance cb_227:CB Tryz.prog 227:=⟨by kernel_rfl⟩
instance cb_241:CB Tryz.prog 241:=⟨by kernel_rfl⟩
instance cb_87:CB Tryz.prog 87:=⟨by kernel_rfl⟩
instance cb_88:CB Tryz.prog 88:=⟨by kernel_rfl⟩
instance ct_146:CT Tryz.prog 146:=⟨by kernel_rfl⟩
instance ct_163:CT Tryz.prog 163:=⟨by kernel_rfl⟩
instance ct_22:CT Tryz.prog 22:=⟨by kernel_rfl⟩
instance ct_3:CT Tryz.prog 3:=⟨by kernel_rfl⟩
instance ct_9:CT Tryz.prog 9:=⟨by kernel_rfl⟩
instance in_204:INT Tryz.prog 204 .u64:=⟨by kernel_rfl⟩
instance in_3:INT Tryz.prog 3 .i64:=⟨by kernel_rfl⟩
instance mx:MX Tryz.prog:=⟨mixed⟩
instance sl_133:SLT Tryz.prog 133 146 1:=⟨by kernel_rfl⟩
instance sl_159:SLT Tryz.prog 159 163 1:=⟨by kernel_rfl⟩
instance sl_22:SLT Tryz.prog 22 9 1:=⟨by kernel_rfl⟩
instance sl_222:SLT Tryz.prog 222 224 7:=⟨by kernel_rfl⟩
instance sl_23:SLT Tryz.prog 23 123 4:=⟨by kernel_rfl⟩
instance sl_314:SLT Tryz.prog 314 22 1:=⟨by kernel_rfl⟩
instance sl_38:SLT Tryz.prog 38 84 3:=⟨by kernel_rfl⟩
instance sl_42:SLT Tryz.prog 42 3 1:=⟨by kernel_rfl⟩
instance sl_49:SLT Tryz.prog 49 180 2:=⟨by kernel_rfl⟩
instance sl_85:SLT Tryz.prog 85 5 1:=⟨by kernel_rfl⟩
instance sz_22:SZ Tryz.prog 22 1:=⟨by kernel_rfl⟩
instance sz_224:SZ Tryz.prog 224 7:=⟨by kernel_rfl⟩
instance sz_3:SZ Tryz.prog 3 1:=⟨by kernel_rfl⟩
instance sz_9:SZ Tryz.prog 9 1:=⟨by kernel_rfl⟩
instance un_22:UN Tryz.prog 22 (.slice 9):=⟨Tryz.underlying22⟩
instance un_23:UN Tryz.prog 23 (.slice 123):=⟨Tryz.underlying23⟩
instance un_38:UN Tryz.prog 38 (.slice 84):=⟨Tryz.underlying38⟩
instance un_49:UN Tryz.prog 49 (.slice 180):=⟨Tryz.underlying49⟩
instance un_85:UN Tryz.prog 85 (.slice 5):=⟨Tryz.underlying85⟩
instance zt_123:ZT Tryz.prog 123 (.agg #[(.int .i64 0),(.string ⟨#[]⟩),(Sl.val ⟨none,0,0⟩),(.int .i64 0)]):=⟨Tryz.t123,by kernel_rfl,by kernel_rfl⟩
instance zt_180:ZT Tryz.prog 180 (.agg #[(.bool false),(Sl.val ⟨none,0,0⟩)]):=⟨Tryz.t180,by kernel_rfl,by kernel_rfl⟩
instance zt_224:ZT Tryz.prog 224 (.agg #[(.int .i64 0),(.int .u64 0),(.int .u64 0),(.int .i64 0),(.string ⟨#[]⟩),(.int .i64 0),(.int .u64 0)]):=⟨Tryz.t224,by kernel_rfl,by kernel_rfl⟩
instance zt_5:ZT Tryz.prog 5 (.int .u8 0):=⟨Tryz.t5,by kernel_rfl,by kernel_rfl⟩
instance zt_84:ZT Tryz.prog 84 (.agg #[(.string ⟨#[]⟩),(.int .i64 0),(.int .u64 0)]):=⟨Tryz.t84,by kernel_rfl,by kernel_rfl⟩
instance zt_9:ZT Tryz.prog 9 (.string ⟨#[]⟩):=⟨Tryz.t9,by kernel_rfl,by kernel_rfl⟩
end F_IRLibSlices
def zDO (x0:Sl) (Q:K):K :=
 Ar (IntKind.wrap .u64 (x0.n:Int)) fun t8 =>
 zH1.call t8 fun t9 =>
 zFz.call x0 0 (x0.n:Int) t9 <|
 Q
def zAW.s3 (Q:Sl→K) (X1:Int→K) (X2:Int→Int→K) (s0_3:Sl) (k3_3:Int) (s4_3:Sl) (k5_3:Int):K :=
 Ar (IntKind.wrap .i64 (k5_3 + 1)) fun t34 =>
 X2 k3_3 t34
def zAW.b2 (Q:Sl→K) (X1:Int→K) (X2:Int→Int→K) (s0_2:Sl) (s4_2:Sl) (k3_2:Int) (k5_2:Int):K :=
 Ite (decide (k5_2 < (s4_2.n:Int)))
  (Dr <|
  Idx s4_2 k5_2 1 fun t37 =>
  Ld t37 (Value.int .i64) fun t38 =>
  Ar (IntKind.wrap .i64 (k5_2 - 1)) fun t41 =>
  Idx s4_2 t41 1 fun t42 =>
  Ld t42 (Value.int .i64) fun t43 =>
  Ite (decide (t38 ≠ t43))
   (Idx s4_2 k5_2 1 fun t49 =>
   Ld t49 (Value.int .i64) fun t50 =>
   Idx s0_2 k3_2 1 fun t51 =>
   St t51 (.int .i64 t50) <|
   Ar (IntKind.wrap .i64 (k3_2 + 1)) fun t53 =>
   zAW.s3 Q X1 X2 s0_2 t53 s4_2 k5_2)
   (zAW.s3 Q X1 X2 s0_2 k3_2 s4_2 k5_2))
  (Slc s0_2 k3_2 (s0_2.n:Int) (s0_2.c:Int) 1 fun t56 =>
  Do Tryz.prog (Builtin.clear_ #[42] 0 #[(Sl.val t56)]) id fun _ =>
  Slc s0_2 0 k3_2 (s0_2.c:Int) 1 fun t59 =>
  Q t59)
def zAW.b1 (Q:Sl→K)  (X1:Int→K) (s0_1:Sl) (k3_1:Int):K :=
 Ite (decide (k3_1 < (s0_1.n:Int)))
  (Dr <|
  Idx s0_1 k3_1 1 fun t18 =>
  Ld t18 (Value.int .i64) fun t19 =>
  Ar (IntKind.wrap .i64 (k3_1 - 1)) fun t22 =>
  Idx s0_1 t22 1 fun t23 =>
  Ld t23 (Value.int .i64) fun t24 =>
  Ite (decide (t19 = t24))
   (Slc s0_1 k3_1 (s0_1.n:Int) (s0_1.c:Int) 1 fun t28 =>
   LoopK (α:=Int×Int) (fun X x=>zAW.b2 Q X1 (fun k3_2 k5_2=>X (k3_2,k5_2)) s0_1 t28 x.1 x.2) (k3_1,1))
   (Ar (IntKind.wrap .i64 (k3_1 + 1)) fun t15 =>
   X1 t15))
  (Q s0_1)
def zAW (s0:Sl) (Q:Sl→K):K :=
 Ite (decide ((s0.n:Int) < 2))
  (Q s0)
  (LoopK (α:=Int) (fun X x=>zAW.b1 Q X s0 x) 1)
theorem zFp (s0:Sl) (Q:Sl→K) (w:World) (h:zAW s0 Q w):zAW.call s0 Q w:=by
 have hJ10:∀ (X1:Int→K),XH 4 X1→∀ (X2:(Int×Int)→K),XH 9 X2→JH 10 fun D=>∃ (s0_3:Sl) (s4_3:Sl) (k5_3:Int),D [(0,(Sl.val s0_3)),(4,(Sl.val s4_3)),(5,(.int .i64 k5_3))] (fun C=>∀ (k3_3:Int),C [(0,(Sl.val s0_3)),(3,(.int .i64 k3_3)),(4,(Sl.val s4_3)),(5,(.int .i64 k5_3))] (zAW.s3 Q X1 (fun k3_2 k5_2=>X2 (k3_2,k5_2)) s0_3 k3_3 s4_3 k5_3)):=by intros; exact ⟨fun _ ⟨_,_,_,h⟩=>⟨_,_,h⟩⟩
 have hL9:∀ (X1:Int→K),XH 4 X1→∀ (s0_2:Sl) (s4_2:Sl),LH 9 (fun x:Int×Int=>[(0,(Sl.val s0_2)),(3,(.int .i64 x.1)),(4,(Sl.val s4_2)),(5,(.int .i64 x.2))]) (fun X x=>zAW.b2 Q X1 (fun k3_2 k5_2=>X (k3_2,k5_2)) s0_2 s4_2 x.1 x.2):=by intros; exact ⟨⟩
 have hL4:∀ (s0_1:Sl),LH 4 (fun x:Int=>[(0,(Sl.val s0_1)),(3,(.int .i64 x))]) (fun X x=>zAW.b1 Q X s0_1 x):=by intros; exact ⟨⟩
 exact g_walk 61 h Tryz.func51
def zAl.s2 (Q:Sl→K) (X1:Int→Int→K) (s0_2:Sl) (del1_2:Value) (i5_2:Int) (j6_2:Int):K :=
 Ar (IntKind.wrap .i64 (j6_2 + 1)) fun t21 =>
 X1 i5_2 t21
def zAl.b1 (Q:Sl→K)  (X1:Int→Int→K) (s0_1:Sl) (del1_1:Value) (i5_1:Int) (j6_1:Int):K :=
 Ite (decide (j6_1 < (s0_1.n:Int)))
  (Idx s0_1 j6_1 1 fun t24 =>
  Ld t24 (Value.int .i64) fun t25 =>
  CallV Tryz.prog del1_1 [(.int .i64 t25)] <| Ans1 (fun (t28:Bool)=>Value.bool t28) fun t28 =>
  Ite (!t28)
   (Idx s0_1 i5_1 1 fun t33 =>
   St t33 (.int .i64 t25) <|
   Ar (IntKind.wrap .i64 (i5_1 + 1)) fun t35 =>
   zAl.s2 Q X1 s0_1 del1_1 t35 j6_1)
   (zAl.s2 Q X1 s0_1 del1_1 i5_1 j6_1))
  (Slc s0_1 i5_1 (s0_1.n:Int) (s0_1.c:Int) 1 fun t38 =>
  Do Tryz.prog (Builtin.clear_ #[42] 0 #[(Sl.val t38)]) id fun _ =>
  Slc s0_1 0 i5_1 (s0_1.c:Int) 1 fun t41 =>
  Q t41)
def zAl (s0:Sl) (del1:Value) (Q:Sl→K):K :=
 zBF.call s0 del1 fun t10 =>
 Ite (decide (t10 = (-1)))
  (Q s0)
  (Ar (IntKind.wrap .i64 (t10 + 1)) fun t15 =>
  LoopK (α:=Int×Int) (fun X x=>zAl.b1 Q (fun i5_1 j6_1=>X (i5_1,j6_1)) s0 del1 x.1 x.2) (t10,t15))
theorem zFN (s0:Sl) (del1:Value) (Q:Sl→K) (w:World) (h:zAl s0 del1 Q w):zAl.call s0 del1 Q w:=by
 have hJ6:∀ (X1:(Int×Int)→K),XH 5 X1→JH 6 fun D=>∃ (s0_2:Sl) (del1_2:Value) (j6_2:Int),D [(0,(Sl.val s0_2)),(1,del1_2),(6,(.int .i64 j6_2))] (fun C=>∀ (i5_2:Int),C [(0,(Sl.val s0_2)),(1,del1_2),(5,(.int .i64 i5_2)),(6,(.int .i64 j6_2))] (zAl.s2 Q (fun i5_1 j6_1=>X1 (i5_1,j6_1)) s0_2 del1_2 i5_2 j6_2)):=by intros; exact ⟨fun _ ⟨_,_,_,h⟩=>⟨_,_,h⟩⟩
 have hL5:∀ (s0_1:Sl) (del1_1:Value),LH 5 (fun x:Int×Int=>[(0,(Sl.val s0_1)),(1,del1_1),(5,(.int .i64 x.1)),(6,(.int .i64 x.2))]) (fun X x=>zAl.b1 Q (fun i5_1 j6_1=>X (i5_1,j6_1)) s0_1 del1_1 x.1 x.2):=by intros; exact ⟨⟩
 exact g_walk 42 h Tryz.func60
def zBh (s0:Sl) (v1:Int) (Q:Bool→K):K :=
 zBR.call s0 v1 fun t7 =>
 Q (decide ((0:Int) ≤ t7))
theorem zFZ (s0:Sl) (v1:Int) (Q:Bool→K) (w:World) (h:zBh s0 v1 Q w):zBh.call s0 v1 Q w:=by
 exact g_walk 9 h Tryz.func93
def zAo.b1 (Q:Int→K)  (X1:Int→K) (s0_1:Sl) (f1_1:Value) (t7_1:Int) (t8_1:Int):K :=
 Ite (decide (t8_1 < t7_1))
  (Idx s0_1 t8_1 1 fun t14 =>
  Ld t14 Value.pointer fun t15 =>
  CallV Tryz.prog f1_1 [(.pointer t15)] <| Ans1 (fun (t16:Bool)=>Value.bool t16) fun t16 =>
  Ite t16
   (Q t8_1)
   (Ar (IntKind.wrap .i64 (t8_1 + 1)) fun t18 =>
   X1 t18))
  (Q (-1))
def zAo (s0:Sl) (f1:Value) (Q:Int→K):K :=
 LoopK (α:=Int) (fun X x=>zAo.b1 Q X s0 f1 (s0.n:Int) x) 0
theorem zCs (s0:Sl) (f1:Value) (Q:Int→K) (w:World) (h:zAo s0 f1 Q w):zAo.call s0 f1 Q w:=by
 have hL2:∀ (s0_1:Sl) (f1_1:Value) (t7_1:Int),LH 2 (fun x:Int=>[(0,(Sl.val s0_1)),(1,f1_1),(7,(.int .i64 t7_1)),(8,(.int .i64 x))]) (fun X x=>zAo.b1 Q X s0_1 f1_1 t7_1 x):=by intros; exact ⟨⟩
 exact g_walk 19 h Tryz.func95
def zBW (s0:Sl) (i1:Int) (j2:Int) (Q:Sl→K):K :=
 Slc s0 i1 j2 (s0.n:Int) 1 fun t13 =>
 Ite (decide (i1 = j2))
  (Q s0)
  (Dr <|
  Slc s0 0 i1 (s0.c:Int) 1 fun t22 =>
  Slc s0 j2 (s0.n:Int) (s0.c:Int) 1 fun t25 =>
  Do Tryz.prog (Builtin.append_ #[133,133] 133 #[(Sl.val t22),(Sl.val t25)]) Sl.val fun t26 =>
  Slc t26 (t26.n:Int) (s0.n:Int) (t26.c:Int) 1 fun t31 =>
  Do Tryz.prog (Builtin.clear_ #[133] 0 #[(Sl.val t31)]) id fun _ =>
  Q t26)
theorem zD9 (s0:Sl) (i1:Int) (j2:Int) (Q:Sl→K) (w:World) (h:zBW s0 i1 j2 Q w):zBW.call s0 i1 j2 Q w:=by
 have hD5:DH 5 0 [] (.s [0,1,2,3,4,5] (.a [(6,0,.s [7] .e)])):=by intros; exact ⟨⟩
 exact g_walk 33 h Tryz.func100
def zBK (s0:Sl) (Q:Sl→K):K :=
 Ite ((s0).a.isNone)
  (Q (Sl.mk none 0 0))
  (New 84 #[] fun t5 =>
  Do Tryz.prog (Builtin.append_ #[38,38] 38 #[(Sl.val (Sl.mk (some t5) 0 0)),(Sl.val s0)]) Sl.val fun t7 =>
  Q t7)
theorem zEf (s0:Sl) (Q:Sl→K) (w:World) (h:zBK s0 Q w):zBK.call s0 Q w:=by
 exact g_walk 8 h Tryz.func102
def zBF.b1 (Q:Int→K)  (X1:Int→K) (s0_1:Sl) (f1_1:Value) (t7_1:Int) (t8_1:Int):K :=
 Ite (decide (t8_1 < t7_1))
  (Idx s0_1 t8_1 1 fun t14 =>
  Ld t14 (Value.int .i64) fun t15 =>
  CallV Tryz.prog f1_1 [(.int .i64 t15)] <| Ans1 (fun (t16:Bool)=>Value.bool t16) fun t16 =>
  Ite t16
   (Q t8_1)
   (Ar (IntKind.wrap .i64 (t8_1 + 1)) fun t18 =>
   X1 t18))
  (Q (-1))
def zBF (s0:Sl) (f1:Value) (Q:Int→K):K :=
 LoopK (α:=Int) (fun X x=>zBF.b1 Q X s0 f1 (s0.n:Int) x) 0
theorem zFR (s0:Sl) (f1:Value) (Q:Int→K) (w:World) (h:zBF s0 f1 Q w):zBF.call s0 f1 Q w:=by
 have hL2:∀ (s0_1:Sl) (f1_1:Value) (t7_1:Int),LH 2 (fun x:Int=>[(0,(Sl.val s0_1)),(1,f1_1),(7,(.int .i64 t7_1)),(8,(.int .i64 x))]) (fun X x=>zBF.b1 Q X s0_1 f1_1 t7_1 x):=by intros; exact ⟨⟩
 exact g_walk 19 h Tryz.func103
def zAh (s0:Sl) (f1:Value) (Q:Bool→K):K :=
 zAL.call s0 f1 fun t7 =>
 Q (decide ((0:Int) ≤ t7))
theorem zDX (s0:Sl) (f1:Value) (Q:Bool→K) (w:World) (h:zAh s0 f1 Q w):zAh.call s0 f1 Q w:=by
 exact g_walk 9 h Tryz.func105
def zFH (s0:Sl) (Q:Sl→K):K :=
 Ite ((s0).a.isNone)
  (Q (Sl.mk none 0 0))
  (New 180 #[] fun t5 =>
  Do Tryz.prog (Builtin.append_ #[49,49] 49 #[(Sl.val (Sl.mk (some t5) 0 0)),(Sl.val s0)]) Sl.val fun t7 =>
  Q t7)
def zBX (s0:Sl) (f1:Value) (Q:Bool→K):K :=
 zA9.call s0 f1 fun t7 =>
 Q (decide ((0:Int) ≤ t7))
theorem zEA (s0:Sl) (f1:Value) (Q:Bool→K) (w:World) (h:zBX s0 f1 Q w):zBX.call s0 f1 Q w:=by
 exact g_walk 9 h Tryz.func117
def zBM (s0:Sl) (Q:Sl→K):K :=
 Ite ((s0).a.isNone)
  (Q (Sl.mk none 0 0))
  (New 9 #[] fun t5 =>
  Do Tryz.prog (Builtin.append_ #[22,22] 22 #[(Sl.val (Sl.mk (some t5) 0 0)),(Sl.val s0)]) Sl.val fun t7 =>
  Q t7)
theorem zFB (s0:Sl) (Q:Sl→K) (w:World) (h:zBM s0 Q w):zBM.call s0 Q w:=by
 exact g_walk 8 h Tryz.func118
def zBi (s0:Sl) (Q:Sl→K):K :=
 Ite ((s0).a.isNone)
  (Q (Sl.mk none 0 0))
  (New 123 #[] fun t5 =>
  Do Tryz.prog (Builtin.append_ #[23,23] 23 #[(Sl.val (Sl.mk (some t5) 0 0)),(Sl.val s0)]) Sl.val fun t7 =>
  Q t7)
theorem zFC (s0:Sl) (Q:Sl→K) (w:World) (h:zBi s0 Q w):zBi.call s0 Q w:=by
 exact g_walk 8 h Tryz.func119
def zCT (s0:Sl) (Q:Sl→K):K :=
 Ite ((s0).a.isNone)
  (Q (Sl.mk none 0 0))
  (New 5 #[] fun t5 =>
  Do Tryz.prog (Builtin.append_ #[85,85] 85 #[(Sl.val (Sl.mk (some t5) 0 0)),(Sl.val s0)]) Sl.val fun t7 =>
  Q t7)
theorem zFq (s0:Sl) (Q:Sl→K) (w:World) (h:zCT s0 Q w):zCT.call s0 Q w:=by
 exact g_walk 8 h Tryz.func150
def zAK.s2 (Q:Sl→K) (X1:Int→Int→K) (slices0_2:Sl) (size3_2:Int) (t9_2:Sl) (t10_2:Int) (t11_2:Int):K :=
 Ar (IntKind.wrap .i64 (t11_2 + 1)) fun t22 =>
 X1 size3_2 t22
def zAK.b3 (Q:Sl→K) (X1:Int→Int→K) (X3:Sl→Int→K) (t25_3:Sl) (t26_3:Int) (newslice6_3:Sl) (t27_3:Int):K :=
 Ite (decide (t27_3 < t26_3))
  (Idx t25_3 t27_3 1 fun t29 =>
  Ld t29 Sl.val fun t30 =>
  Do Tryz.prog (Builtin.append_ #[22,22] 22 #[(Sl.val newslice6_3),(Sl.val t30)]) Sl.val fun t33 =>
  Ar (IntKind.wrap .i64 (t27_3 + 1)) fun t34 =>
  X3 t33 t34)
  (Q newslice6_3)
def zAK.b1 (Q:Sl→K)  (X1:Int→Int→K) (slices0_1:Sl) (t9_1:Sl) (t10_1:Int) (size3_1:Int) (t11_1:Int):K :=
 Ite (decide (t11_1 < t10_1))
  (Idx t9_1 t11_1 1 fun t13 =>
  Ld t13 Sl.val fun t14 =>
  Ar (IntKind.wrap .i64 (size3_1 + (t14.n:Int))) fun t18 =>
  Ite (decide (t18 < 0))
   (Rd Tryz.prog (Instr.makeInterface 9 (.string ⟨#[108,101,110,32,111,117,116,32,111,102,32,114,97,110,103,101]⟩)) id fun t21 =>
   Dead)
   (zAK.s2 Q X1 slices0_1 t18 t9_1 t10_1 t11_1))
  (zAa.call (Sl.mk none 0 0) size3_1 fun t24 =>
  LoopK (α:=Sl×Int) (fun X x=>zAK.b3 Q X1 (fun newslice6_3 t27_3=>X (newslice6_3,t27_3)) slices0_1 (slices0_1.n:Int) x.1 x.2) (t24,0))
def zAK (slices0:Sl) (Q:Sl→K):K :=
 LoopK (α:=Int×Int) (fun X x=>zAK.b1 Q (fun size3_1 t11_1=>X (size3_1,t11_1)) slices0 slices0 (slices0.n:Int) x.1 x.2) (0,0)
theorem zEz (slices0:Sl) (Q:Sl→K) (w:World) (h:zAK slices0 Q w):zAK.call slices0 Q w:=by
 have hJ8:∀ (X1:(Int×Int)→K),XH 3 X1→JH 8 fun D=>∃ (slices0_2:Sl) (t9_2:Sl) (t10_2:Int) (t11_2:Int),D [(0,(Sl.val slices0_2)),(9,(Sl.val t9_2)),(10,(.int .i64 t10_2)),(11,(.int .i64 t11_2))] (fun C=>∀ (size3_2:Int),C [(0,(Sl.val slices0_2)),(3,(.int .i64 size3_2)),(9,(Sl.val t9_2)),(10,(.int .i64 t10_2)),(11,(.int .i64 t11_2))] (zAK.s2 Q (fun size3_1 t11_1=>X1 (size3_1,t11_1)) slices0_2 size3_2 t9_2 t10_2 t11_2)):=by intros; exact ⟨fun _ ⟨_,_,_,_,h⟩=>⟨_,_,h⟩⟩
 have hL11:∀ (X1:(Int×Int)→K),XH 3 X1→∀ (t25_3:Sl) (t26_3:Int),LH 11 (fun x:Sl×Int=>[(6,(Sl.val x.1)),(25,(Sl.val t25_3)),(26,(.int .i64 t26_3)),(27,(.int .i64 x.2))]) (fun X x=>zAK.b3 Q (fun size3_1 t11_1=>X1 (size3_1,t11_1)) (fun newslice6_3 t27_3=>X (newslice6_3,t27_3)) t25_3 t26_3 x.1 x.2):=by intros; exact ⟨⟩
 have hL3:∀ (slices0_1:Sl) (t9_1:Sl) (t10_1:Int),LH 3 (fun x:Int×Int=>[(0,(Sl.val slices0_1)),(3,(.int .i64 x.1)),(9,(Sl.val t9_1)),(10,(.int .i64 t10_1)),(11,(.int .i64 x.2))]) (fun X x=>zAK.b1 Q (fun size3_1 t11_1=>X (size3_1,t11_1)) slices0_1 t9_1 t10_1 x.1 x.2):=by intros; exact ⟨⟩
 exact g_walk 36 h Tryz.func151
def zBy (x0:Sl) (Q:K):K :=
 Ar (IntKind.wrap .u64 (x0.n:Int)) fun t8 =>
 zH1.call t8 fun t9 =>
 zFX.call x0 0 (x0.n:Int) t9 <|
 Q
def zAG.s3 (Q:Sl→K) (X1:Int→K) (X2:Int→Int→K) (s0_3:Sl) (k3_3:Int) (s4_3:Sl) (k5_3:Int):K :=
 Ar (IntKind.wrap .i64 (k5_3 + 1)) fun t34 =>
 X2 k3_3 t34
def zAG.b2 (Q:Sl→K) (X1:Int→K) (X2:Int→Int→K) (s0_2:Sl) (s4_2:Sl) (k3_2:Int) (k5_2:Int):K :=
 Ite (decide (k5_2 < (s4_2.n:Int)))
  (Dr <|
  Idx s4_2 k5_2 1 fun t37 =>
  Ld t37 Value.string fun t38 =>
  Ar (IntKind.wrap .i64 (k5_2 - 1)) fun t41 =>
  Idx s4_2 t41 1 fun t42 =>
  Ld t42 Value.string fun t43 =>
  Ite (!(t38.toList == t43.toList))
   (Idx s4_2 k5_2 1 fun t49 =>
   Ld t49 Value.string fun t50 =>
   Idx s0_2 k3_2 1 fun t51 =>
   St t51 (.string t50) <|
   Ar (IntKind.wrap .i64 (k3_2 + 1)) fun t53 =>
   zAG.s3 Q X1 X2 s0_2 t53 s4_2 k5_2)
   (zAG.s3 Q X1 X2 s0_2 k3_2 s4_2 k5_2))
  (Slc s0_2 k3_2 (s0_2.n:Int) (s0_2.c:Int) 1 fun t56 =>
  Do Tryz.prog (Builtin.clear_ #[22] 0 #[(Sl.val t56)]) id fun _ =>
  Slc s0_2 0 k3_2 (s0_2.c:Int) 1 fun t59 =>
  Q t59)
def zAG.b1 (Q:Sl→K)  (X1:Int→K) (s0_1:Sl) (k3_1:Int):K :=
 Ite (decide (k3_1 < (s0_1.n:Int)))
  (Dr <|
  Idx s0_1 k3_1 1 fun t18 =>
  Ld t18 Value.string fun t19 =>
  Ar (IntKind.wrap .i64 (k3_1 - 1)) fun t22 =>
  Idx s0_1 t22 1 fun t23 =>
  Ld t23 Value.string fun t24 =>
  Ite (t19.toList == t24.toList)
   (Slc s0_1 k3_1 (s0_1.n:Int) (s0_1.c:Int) 1 fun t28 =>
   LoopK (α:=Int×Int) (fun X x=>zAG.b2 Q X1 (fun k3_2 k5_2=>X (k3_2,k5_2)) s0_1 t28 x.1 x.2) (k3_1,1))
   (Ar (IntKind.wrap .i64 (k3_1 + 1)) fun t15 =>
   X1 t15))
  (Q s0_1)
def zAG (s0:Sl) (Q:Sl→K):K :=
 Ite (decide ((s0.n:Int) < 2))
  (Q s0)
  (LoopK (α:=Int) (fun X x=>zAG.b1 Q X s0 x) 1)
theorem zEp (s0:Sl) (Q:Sl→K) (w:World) (h:zAG s0 Q w):zAG.call s0 Q w:=by
 have hJ10:∀ (X1:Int→K),XH 4 X1→∀ (X2:(Int×Int)→K),XH 9 X2→JH 10 fun D=>∃ (s0_3:Sl) (s4_3:Sl) (k5_3:Int),D [(0,(Sl.val s0_3)),(4,(Sl.val s4_3)),(5,(.int .i64 k5_3))] (fun C=>∀ (k3_3:Int),C [(0,(Sl.val s0_3)),(3,(.int .i64 k3_3)),(4,(Sl.val s4_3)),(5,(.int .i64 k5_3))] (zAG.s3 Q X1 (fun k3_2 k5_2=>X2 (k3_2,k5_2)) s0_3 k3_3 s4_3 k5_3)):=by intros; exact ⟨fun _ ⟨_,_,_,h⟩=>⟨_,_,h⟩⟩
 have hL9:∀ (X1:Int→K),XH 4 X1→∀ (s0_2:Sl) (s4_2:Sl),LH 9 (fun x:Int×Int=>[(0,(Sl.val s0_2)),(3,(.int .i64 x.1)),(4,(Sl.val s4_2)),(5,(.int .i64 x.2))]) (fun X x=>zAG.b2 Q X1 (fun k3_2 k5_2=>X (k3_2,k5_2)) s0_2 s4_2 x.1 x.2):=by intros; exact ⟨⟩
 have hL4:∀ (s0_1:Sl),LH 4 (fun x:Int=>[(0,(Sl.val s0_1)),(3,(.int .i64 x))]) (fun X x=>zAG.b1 Q X s0_1 x):=by intros; exact ⟨⟩
 exact g_walk 61 h Tryz.func153
def zBR.b1 (Q:Int→K)  (X1:Int→K) (s0_1:Sl) (v1_1:Int) (t7_1:Int) (t8_1:Int):K :=
 Ite (decide (t8_1 < t7_1))
  (Idx s0_1 t8_1 1 fun t14 =>
  Ld t14 (Value.int .i64) fun t15 =>
  Ite (decide (v1_1 = t15))
   (Q t8_1)
   (Ar (IntKind.wrap .i64 (t8_1 + 1)) fun t18 =>
   X1 t18))
  (Q (-1))
def zBR (s0:Sl) (v1:Int) (Q:Int→K):K :=
 LoopK (α:=Int) (fun X x=>zBR.b1 Q X s0 v1 (s0.n:Int) x) 0
theorem zF1 (s0:Sl) (v1:Int) (Q:Int→K) (w:World) (h:zBR s0 v1 Q w):zBR.call s0 v1 Q w:=by
 have hL2:∀ (s0_1:Sl) (v1_1:Int) (t7_1:Int),LH 2 (fun x:Int=>[(0,(Sl.val s0_1)),(1,(.int .i64 v1_1)),(7,(.int .i64 t7_1)),(8,(.int .i64 x))]) (fun X x=>zBR.b1 Q X s0_1 v1_1 t7_1 x):=by intros; exact ⟨⟩
 exact g_walk 19 h Tryz.func154
def zAL.b1 (Q:Int→K)  (X1:Int→K) (s0_1:Sl) (f1_1:Value) (t7_1:Int) (t8_1:Int):K :=
 Ite (decide (t8_1 < t7_1))
  (Idx s0_1 t8_1 7 fun t14 =>
  LdN t14 7 fun t15 =>
  CallV Tryz.prog f1_1 [(.agg t15)] <| Ans1 (fun (t16:Bool)=>Value.bool t16) fun t16 =>
  Ite t16
   (Q t8_1)
   (Ar (IntKind.wrap .i64 (t8_1 + 1)) fun t18 =>
   X1 t18))
  (Q (-1))
def zAL (s0:Sl) (f1:Value) (Q:Int→K):K :=
 LoopK (α:=Int) (fun X x=>zAL.b1 Q X s0 f1 (s0.n:Int) x) 0
theorem zBr (s0:Sl) (f1:Value) (Q:Int→K) (w:World) (h:zAL s0 f1 Q w):zAL.call s0 f1 Q w:=by
 have hL2:∀ (s0_1:Sl) (f1_1:Value) (t7_1:Int),LH 2 (fun x:Int=>[(0,(Sl.val s0_1)),(1,f1_1),(7,(.int .i64 t7_1)),(8,(.int .i64 x))]) (fun X x=>zAL.b1 Q X s0_1 f1_1 t7_1 x):=by intros; exact ⟨⟩
 exact g_walk 19 h Tryz.func155
def zBv.b1 (Q:Int→K)  (X1:Int→K) (s0_1:Sl) (f1_1:Value) (t7_1:Int) (t8_1:Int):K :=
 Ite (decide (t8_1 < t7_1))
  (Idx s0_1 t8_1 1 fun t14 =>
  Ld t14 Value.pointer fun t15 =>
  CallV Tryz.prog f1_1 [(.pointer t15)] <| Ans1 (fun (t16:Bool)=>Value.bool t16) fun t16 =>
  Ite t16
   (Q t8_1)
   (Ar (IntKind.wrap .i64 (t8_1 + 1)) fun t18 =>
   X1 t18))
  (Q (-1))
def zBv (s0:Sl) (f1:Value) (Q:Int→K):K :=
 LoopK (α:=Int) (fun X x=>zBv.b1 Q X s0 f1 (s0.n:Int) x) 0
def zD5 (s0:Sl) (i1:Int) (j2:Int) (Q:Sl→K):K :=
 Slc s0 i1 j2 (s0.n:Int) 1 fun t13 =>
 Ite (decide (i1 = j2))
  (Q s0)
  (Dr <|
  Slc s0 0 i1 (s0.c:Int) 1 fun t22 =>
  Slc s0 j2 (s0.n:Int) (s0.c:Int) 1 fun t25 =>
  Do Tryz.prog (Builtin.append_ #[159,159] 159 #[(Sl.val t22),(Sl.val t25)]) Sl.val fun t26 =>
  Slc t26 (t26.n:Int) (s0.n:Int) (t26.c:Int) 1 fun t31 =>
  Do Tryz.prog (Builtin.clear_ #[159] 0 #[(Sl.val t31)]) id fun _ =>
  Q t26)
def zBY (s0:Sl) (f1:Value) (Q:Bool→K):K :=
 zBA.call s0 f1 fun t7 =>
 Q (decide ((0:Int) ≤ t7))
theorem zEB (s0:Sl) (f1:Value) (Q:Bool→K) (w:World) (h:zBY s0 f1 Q w):zBY.call s0 f1 Q w:=by
 exact g_walk 9 h Tryz.func169
def zA4 (s0:Sl) (v1:ByteArray) (Q:Bool→K):K :=
 zA3.call s0 v1 fun t7 =>
 Q (decide ((0:Int) ≤ t7))
theorem zEk (s0:Sl) (v1:ByteArray) (Q:Bool→K) (w:World) (h:zA4 s0 v1 Q w):zA4.call s0 v1 Q w:=by
 exact g_walk 9 h Tryz.func171
def zA9.b1 (Q:Int→K)  (X1:Int→K) (s0_1:Sl) (f1_1:Value) (t7_1:Int) (t8_1:Int):K :=
 Ite (decide (t8_1 < t7_1))
  (Idx s0_1 t8_1 4 fun t14 =>
  LdN t14 4 fun t15 =>
  CallV Tryz.prog f1_1 [(.agg t15)] <| Ans1 (fun (t16:Bool)=>Value.bool t16) fun t16 =>
  Ite t16
   (Q t8_1)
   (Ar (IntKind.wrap .i64 (t8_1 + 1)) fun t18 =>
   X1 t18))
  (Q (-1))
def zA9 (s0:Sl) (f1:Value) (Q:Int→K):K :=
 LoopK (α:=Int) (fun X x=>zA9.b1 Q X s0 f1 (s0.n:Int) x) 0
theorem zEg (s0:Sl) (f1:Value) (Q:Int→K) (w:World) (h:zA9 s0 f1 Q w):zA9.call s0 f1 Q w:=by
 have hL2:∀ (s0_1:Sl) (f1_1:Value) (t7_1:Int),LH 2 (fun x:Int=>[(0,(Sl.val s0_1)),(1,f1_1),(7,(.int .i64 t7_1)),(8,(.int .i64 x))]) (fun X x=>zA9.b1 Q X s0_1 f1_1 t7_1 x):=by intros; exact ⟨⟩
 exact g_walk 19 h Tryz.func172
def zAa.s2 (Q:Sl→K)  (s0_2:Sl):K :=
 Q s0_2
def zAa.s1 (Q:Sl→K)  (s0_1:Sl) (n1_1:Int):K :=
 Do Tryz.prog (Builtin.cap_ #[22] 3 #[(Sl.val s0_1)]) (Value.int .i64) fun t10 =>
 Ar (IntKind.wrap .i64 (t10 - (s0_1.n:Int))) fun t13 =>
 Ar (IntKind.wrap .i64 (n1_1 - t13)) fun t14 =>
 Ite (decide ((0:Int) < t14))
  (Do Tryz.prog (Builtin.cap_ #[22] 3 #[(Sl.val s0_1)]) (Value.int .i64) fun t19 =>
  Slc s0_1 0 t19 (s0_1.c:Int) 1 fun t20 =>
  Do Tryz.prog (Builtin.append_ #[22,3] 22 #[(Sl.val t20),(.int .i64 t14)]) Sl.val fun t22 =>
  Slc t22 0 (s0_1.n:Int) (t22.c:Int) 1 fun t25 =>
  zAa.s2 Q t25)
  (zAa.s2 Q s0_1)
def zAa (s0:Sl) (n1:Int) (Q:Sl→K):K :=
 Ite (decide (n1 < 0))
  (Rd Tryz.prog (Instr.makeInterface 9 (.string ⟨#[99,97,110,110,111,116,32,98,101,32,110,101,103,97,116,105,118,101]⟩)) id fun t7 =>
  Dead)
  (zAa.s1 Q s0 n1)
theorem zFO (s0:Sl) (n1:Int) (Q:Sl→K) (w:World) (h:zAa s0 n1 Q w):zAa.call s0 n1 Q w:=by
 have hJ6:JH 6 fun D=>D [] (fun C=>∀ (s0_2:Sl),C [(0,(Sl.val s0_2))] (zAa.s2 Q s0_2)):=by intros; exact ⟨fun _ h=>⟨_,_,h⟩⟩
 have hJ3:JH 3 fun D=>∃ (s0_1:Sl) (n1_1:Int),D [(0,(Sl.val s0_1)),(1,(.int .i64 n1_1))] (fun C=>C [(0,(Sl.val s0_1)),(1,(.int .i64 n1_1))] (zAa.s1 Q s0_1 n1_1)):=by intros; exact ⟨fun _ ⟨_,_,h⟩=>⟨_,_,h⟩⟩
 exact g_walk 27 h Tryz.func190
def zAC.s2 (Q:Sl→K) (X1:Int→Int→K) (s0_2:Sl) (del1_2:Value) (i5_2:Int) (j6_2:Int):K :=
 Ar (IntKind.wrap .i64 (j6_2 + 1)) fun t21 =>
 X1 i5_2 t21
def zAC.b1 (Q:Sl→K)  (X1:Int→Int→K) (s0_1:Sl) (del1_1:Value) (i5_1:Int) (j6_1:Int):K :=
 Ite (decide (j6_1 < (s0_1.n:Int)))
  (Idx s0_1 j6_1 7 fun t24 =>
  LdN t24 7 fun t25 =>
  New 224 #[(.int .i64 0),(.int .u64 0),(.int .u64 0),(.int .i64 0),(.string ⟨#[]⟩),(.int .i64 0),(.int .u64 0)] fun v7 =>
  StN v7 7 t25 <|
  LdN v7 7 fun t27 =>
  CallV Tryz.prog del1_1 [(.agg t27)] <| Ans1 (fun (t28:Bool)=>Value.bool t28) fun t28 =>
  Ite (!t28)
   (LdN v7 7 fun t32 =>
   Idx s0_1 i5_1 7 fun t33 =>
   StN t33 7 t32 <|
   Ar (IntKind.wrap .i64 (i5_1 + 1)) fun t35 =>
   zAC.s2 Q X1 s0_1 del1_1 t35 j6_1)
   (zAC.s2 Q X1 s0_1 del1_1 i5_1 j6_1))
  (Slc s0_1 i5_1 (s0_1.n:Int) (s0_1.c:Int) 7 fun t38 =>
  Do Tryz.prog (Builtin.clear_ #[222] 0 #[(Sl.val t38)]) id fun _ =>
  Slc s0_1 0 i5_1 (s0_1.c:Int) 7 fun t41 =>
  Q t41)
def zAC (s0:Sl) (del1:Value) (Q:Sl→K):K :=
 zAL.call s0 del1 fun t10 =>
 Ite (decide (t10 = (-1)))
  (Q s0)
  (Ar (IntKind.wrap .i64 (t10 + 1)) fun t15 =>
  LoopK (α:=Int×Int) (fun X x=>zAC.b1 Q (fun i5_1 j6_1=>X (i5_1,j6_1)) s0 del1 x.1 x.2) (t10,t15))
theorem zCe (s0:Sl) (del1:Value) (Q:Sl→K) (w:World) (h:zAC s0 del1 Q w):zAC.call s0 del1 Q w:=by
 have hJ6:∀ (X1:(Int×Int)→K),XH 5 X1→JH 6 fun D=>∃ (s0_2:Sl) (del1_2:Value) (j6_2:Int),D [(0,(Sl.val s0_2)),(1,del1_2),(6,(.int .i64 j6_2))] (fun C=>∀ (i5_2:Int),C [(0,(Sl.val s0_2)),(1,del1_2),(5,(.int .i64 i5_2)),(6,(.int .i64 j6_2))] (zAC.s2 Q (fun i5_1 j6_1=>X1 (i5_1,j6_1)) s0_2 del1_2 i5_2 j6_2)):=by intros; exact ⟨fun _ ⟨_,_,_,h⟩=>⟨_,_,h⟩⟩
 have hL5:∀ (s0_1:Sl) (del1_1:Value),LH 5 (fun x:Int×Int=>[(0,(Sl.val s0_1)),(1,del1_1),(5,(.int .i64 x.1)),(6,(.int .i64 x.2))]) (fun X x=>zAC.b1 Q (fun i5_1 j6_1=>X (i5_1,j6_1)) s0_1 del1_1 x.1 x.2):=by intros; exact ⟨⟩
 exact g_walk 42 h Tryz.func192
def zCa (seq0:Value) (Q:Sl→K):K :=
 zCL.call seq0 fun t5 =>
 zBy.call t5 <|
 Q t5
theorem zGM (seq0:Value) (Q:Sl→K) (w:World) (h:zCa seq0 Q w):zCa.call seq0 Q w:=by
 exact g_walk 9 h Tryz.func195
def zBA.b1 (Q:Int→K)  (X1:Int→K) (s0_1:Sl) (f1_1:Value) (t7_1:Int) (t8_1:Int):K :=
 Ite (decide (t8_1 < t7_1))
  (Idx s0_1 t8_1 1 fun t14 =>
  Ld t14 Value.string fun t15 =>
  CallV Tryz.prog f1_1 [(.string t15)] <| Ans1 (fun (t16:Bool)=>Value.bool t16) fun t16 =>
  Ite t16
   (Q t8_1)
   (Ar (IntKind.wrap .i64 (t8_1 + 1)) fun t18 =>
   X1 t18))
  (Q (-1))
def zBA (s0:Sl) (f1:Value) (Q:Int→K):K :=
 LoopK (α:=Int) (fun X x=>zBA.b1 Q X s0 f1 (s0.n:Int) x) 0
theorem zEh (s0:Sl) (f1:Value) (Q:Int→K) (w:World) (h:zBA s0 f1 Q w):zBA.call s0 f1 Q w:=by
 have hL2:∀ (s0_1:Sl) (f1_1:Value) (t7_1:Int),LH 2 (fun x:Int=>[(0,(Sl.val s0_1)),(1,f1_1),(7,(.int .i64 t7_1)),(8,(.int .i64 x))]) (fun X x=>zBA.b1 Q X s0_1 f1_1 t7_1 x):=by intros; exact ⟨⟩
 exact g_walk 19 h Tryz.func202
def zA3.b1 (Q:Int→K)  (X1:Int→K) (s0_1:Sl) (v1_1:ByteArray) (t7_1:Int) (t8_1:Int):K :=
 Ite (decide (t8_1 < t7_1))
  (Idx s0_1 t8_1 1 fun t14 =>
  Ld t14 Value.string fun t15 =>
  Ite (v1_1.toList == t15.toList)
   (Q t8_1)
   (Ar (IntKind.wrap .i64 (t8_1 + 1)) fun t18 =>
   X1 t18))
  (Q (-1))
def zA3 (s0:Sl) (v1:ByteArray) (Q:Int→K):K :=
 LoopK (α:=Int) (fun X x=>zA3.b1 Q X s0 v1 (s0.n:Int) x) 0
theorem zFD (s0:Sl) (v1:ByteArray) (Q:Int→K) (w:World) (h:zA3 s0 v1 Q w):zA3.call s0 v1 Q w:=by
 have hL2:∀ (s0_1:Sl) (v1_1:ByteArray) (t7_1:Int),LH 2 (fun x:Int=>[(0,(Sl.val s0_1)),(1,(.string v1_1)),(7,(.int .i64 t7_1)),(8,(.int .i64 x))]) (fun X x=>zA3.b1 Q X s0_1 v1_1 t7_1 x):=by intros; exact ⟨⟩
 exact g_walk 19 h Tryz.func203
def zCL (seq0:Value) (Q:Sl→K):K :=
 zBk.call (Sl.mk none 0 0) seq0 fun t4 =>
 Q t4
theorem zGI (seq0:Value) (Q:Sl→K) (w:World) (h:zCL seq0 Q w):zCL.call seq0 Q w:=by
 exact g_walk 5 h Tryz.func227
def zBk (s0:Sl) (seq1:Value) (Q:Sl→K):K :=
 New 22 #[(Sl.val s0)] fun s2 =>
 RangeF Tryz.prog seq1 Value.string (fun KN1 x7 =>
  Ld s2 Sl.val fun t8 =>
  New 9 #[(.string x7)] fun t10 =>
  Do Tryz.prog (Builtin.append_ #[22,22] 22 #[(Sl.val t8),(Sl.val (Sl.mk (some t10) 1 1))]) Sl.val fun t11 =>
  St s2 (Sl.val t11) <|
  KN1)
 fun D1 =>
 Ld s2 Sl.val fun t12 =>
 TakeD D1 <|
 Q t12
theorem zEi (s0:Sl) (seq1:Value) (Q:Sl→K) (w:World) (h:zBk s0 seq1 Q w):zBk.call s0 seq1 Q w:=by
 exact g_walk 13 h Tryz.func241
end Go.Proofs.YtdemfamgieonbaaGreat
namespace Go.Proofs.YtdemfamgieonbaaGreat
open Go Go.Sep
set_option maxRecDepth 100000
abbrev sortL (ss:List (List UInt8)):List (List UInt8):=ss.mergeSort fun x y=>decide (x ≤ y)
section
variable {B w:World} {Γ:List HProp}
theorem holds_grow (h:Holds B Γ w) (os:Array Obj):Holds B Γ (Sort.grow w os):=by
 obtain ⟨l⟩:=os
 induction l generalizing w with
 | nil=>simpa [Sort.grow] using h
 | cons o l ih =>
  have h1:=ih (h.alloc o).tail
  have e:Sort.grow { w with heap:=w.heap.push o } ⟨l⟩ = Sort.grow w ⟨o::l⟩:=by
   have e2:w.heap.push o++(⟨l⟩:Array Obj) = w.heap++(⟨o::l⟩:Array Obj):=by
    apply Array.ext'
    rw [Array.toList_append,Array.toList_append,Array.toList_push,List.append_assoc]
    rfl
   unfold Sort.grow
   rw [← e2]
  rw [e] at h1
  exact h1
theorem zGJ {s:Sl} {ss:List (List UInt8)} {k:K} (hl:ss.length ≤ 1000000) (h:Holds B (SlC zB1 1 s (ss.map strV)::Γ) w) (hk:∀ w,Holds B (SlC zB1 1 s ((sortL ss).map strV)::Γ) w→k w):zBy.call s k w:=by
 have hsc:=h.slCap
 have hn:ss.length = s.n:=by have:=hsc.1; simpa using this
 unfold zBy.call CallF
 cases ha:s.a with
 | none =>
  have hs0:s.n = 0:=by have:=hsc.2.2.2 ha; omega
  have hss:ss = []:=List.length_eq_zero_iff.1 (by omega)
  subst hss
  have h1:=AnyM.slices_Sort_string_none sortLay none s.c w
  have e:[Sl.val s].toArray = #[.slice none 0 s.c]:=by
   show #[Value.slice s.a s.n s.c] = _
   rw [ha,hs0]
  rw [e]
  refine Calls.mono h1 fun e w' he=>?_
  obtain ⟨rfl,rfl⟩:=he
  exact ⟨rfl,hk _ (by simpa [sortL] using h)⟩
 | some a =>
  obtain ⟨cs,fz,h,hsp,hf,hsz,hr,hlen,hc⟩:=slOpen h ha
  obtain ⟨b,off,sp⟩:=a
  simp only at hsp
  subst hsp
  simp only at h hf hsz hr
  have hb:=h.block
  have hH:Sort.Holds Proofs.encStr w b off ss.toArray:=fun j hj=>by
   simp only [List.size_toArray] at hj
   have h1:=hr j (by simpa using hj)
   constructor
   ·refine zBf hb ?_
    rw [h1,List.getElem?_map,List.getElem?_eq_getElem hj]
    simp [getElem!_pos,hj]
   ·exact zDK hb (hf _ (by omega) (by omega))
  have h1:=AnyM.slices_Sort_string sortLay b off s.c ss w hH (Array.getElem?_eq_some_iff.1 hb).1 (by omega)
  have e:[Sl.val s].toArray = #[.slice (some ⟨b,off,none⟩) ss.length s.c]:=by
   show #[Value.slice s.a s.n s.c] = _
   rw [ha,hn]
  rw [e]
  refine Calls.mono h1 fun e w' he=>?_
  obtain ⟨rfl,n,os,rfl⟩:=he
  refine ⟨rfl,hk _ ?_⟩
  have h2:Holds B (blk b (.cells cs zB1 fz)::Γ) (Sort.ahead w n):=h.drew _
  have h3:=h2.setBlock (o':=.cells (Sort.putCells Proofs.encStr off (sortL ss).toArray cs) zB1 fz) rfl
  have e2:({ (Sort.ahead w n) with heap:=(Sort.ahead w n).heap.setIfInBounds b (.cells (Sort.putCells Proofs.encStr off (sortL ss).toArray cs) zB1 fz) }:World) = Sort.putRow Proofs.encStr (Sort.ahead w n) b off (sortL ss).toArray:=by
   have harr:(Sort.ahead w n).heap.setIfInBounds b (.cells (Sort.putCells Proofs.encStr off (sortL ss).toArray cs) zB1 fz) = (Sort.ahead w n).heap.modify b (Sort.onCells (Sort.putCells Proofs.encStr off (sortL ss).toArray)):=by
    apply Array.ext_getElem?
    intro i
    rw [Array.getElem?_modify]
    by_cases hi:b = i
    ·subst hi
     rw [if_pos rfl,h2.block,Array.getElem?_setIfInBounds_self_of_lt (Array.getElem?_eq_some_iff.1 h2.block).1]
     rfl
    ·rw [if_neg hi,Array.getElem?_setIfInBounds_ne hi]
   unfold Sort.putRow Sort.mapBlock
   rw [← harr]
  rw [e2] at h3
  have h4:=holds_grow h3 os
  have hsl:(sortL ss).length = ss.length:=by simp [sortL]
  refine slShut (a:=⟨b,off,none⟩) ha h4 ⟨rfl,hf,?_,fun i hi=>?_,by rw [List.length_map,hsl]; simpa using hlen,hc⟩
  ·have:(Sort.putCells Proofs.encStr off (sortL ss).toArray cs).size = cs.size:=by simp [Sort.putCells]
   rw [this]; exact hsz
  ·simp only [List.length_map] at hi
   unfold Sort.putCells
   rw [Array.getElem?_mapIdx]
   have hlt:off + i < cs.size:=by omega
   rw [Array.getElem?_eq_getElem hlt,Option.map_some,if_pos (by simp; omega),List.getElem?_map,List.getElem?_eq_getElem hi,Option.map_some,Nat.add_sub_cancel_left,getElem!_pos (sortL ss).toArray i (by simpa using hi)]
   simp
end
end Go.Proofs.YtdemfamgieonbaaGreat
namespace Go.Proofs.YtdemfamgieonbaaGreat
open Go Go.Sep
set_option maxRecDepth 100000
theorem zFa:KeyE .string strV:=⟨fun _=>trivial,fun a b h=>by
 have h1:bs a = bs b:=by injection h
 have h2:=congrArg (fun x:ByteArray=>x.data.toList) h1
 simpa using h2,fun a=>zN9.bits (bs a)⟩
theorem zPU {l l':List (List UInt8)} (h:l.Perm l'):sortL l = sortL l':=by
 have tr:∀ a b c:List UInt8,decide (a ≤ b) = true→decide (b ≤ c) = true→decide (a ≤ c) = true:=fun a b c h1 h2=>by
  simp only [decide_eq_true_eq] at *
  exact List.le_trans h1 h2
 have tot:∀ a b:List UInt8,(decide (a ≤ b) || decide (b ≤ a)) = true:=fun a b=>by
  simp only [Bool.or_eq_true,decide_eq_true_eq]
  exact List.le_total a b
 refine List.Perm.eq_of_pairwise (le:=fun a b=>decide (a ≤ b) = true) (fun a b _ _ h1 h2=>?_) (List.pairwise_mergeSort tr tot l) (List.pairwise_mergeSort tr tot l') ?_
 ·simp only [decide_eq_true_eq] at h1 h2
  exact List.le_antisymm h1 h2
 ·exact ((List.mergeSort_perm l _).trans h).trans (List.mergeSort_perm l' _).symm
theorem zLy (l:List (List UInt8)):(sortL l).length = l.length:=(List.mergeSort_perm l _).length_eq
theorem zQL {l:List (List UInt8)} {x:List UInt8}:x ∈ sortL l ↔ x ∈ l:=(List.mergeSort_perm l _).mem_iff
abbrev SlS (s:Sl) (ss:List (List UInt8)):HProp:=SlC zB1 1 s (ss.map strV)
end Go.Proofs.YtdemfamgieonbaaGreat
namespace Go.Proofs.YtdemfamgieonbaaGreat
open Go Go.Sep
set_option maxRecDepth 100000
set_option maxHeartbeats 4000000
attribute [local irreducible] G Gp Cx Tx Ex Sx Dx Ox Ax Lx Rx Fx Bx Bj Al Do Ld LdN St StN New CallF Ar DoU Rd Rd2 Pu Cd Ite Fv CallV CallY Ans0 Ans1 Ans2 Ans3 Ans4 Ans5 Ext Dead Dr WithS Sv LdS LdNS RdS Rd2S Nn Idx IdxA IdxS Fld Bld Slc SlcS Cat All LoopK RangeF RangeJ TakeD
namespace F_IRLibMaps
instance ct_319:CT Tryz.prog 319:=⟨by kernel_rfl⟩
instance mx:MX Tryz.prog:=⟨mixed⟩
end F_IRLibMaps
def zAn (m0:(Option Nat)) (Q:Value→K):K :=
 New 319 #[(.map m0)] fun m1 =>
 Q (.func (.func 228) #[] #[(.pointer (some m1))])
theorem zDR (m0:(Option Nat)) (Q:Value→K) (w:World) (h:zAn m0 Q w):zAn.call m0 Q w:=by
 exact g_walk 4 h Tryz.func196
def zAY.b1 (Q:K)  (X1:K) (yield0_1:Value) (t5_1:(Option Addr)) :K :=
 Do Tryz.prog (Instr.next (.pointer t5_1) false 0) id fun t6 =>
 Ext t6 0 Value.bool fun t7 =>
 Ite t7
  (Do Tryz.prog (Instr.entry (.pointer t5_1)) id fun t8 =>
  Ext t8 0 Value.string fun t9 =>
  CallY Tryz.prog yield0_1 [(.string t9)] <| Ans1 (fun (t12:Bool)=>Value.bool t12) fun t12 =>
  Ite (!t12)
   (Q)
   (X1))
  (Q)
def zAY (yield0:Value) (t1:Addr) (Q:K):K :=
 Ld t1 Value.map fun t4 =>
 Do Tryz.prog (Instr.range 319 (.map t4)) Value.pointer fun t5 =>
 LoopK (α:=Unit) (fun X x=>zAY.b1 Q (X ()) yield0 t5) ()
theorem zDN (yield0:Value) (t1:Addr) (Q:K) (w:World) (h:zAY yield0 t1 Q w):zAY.call yield0 t1 Q w:=by
 have hL1:∀ (yield0_1:Value) (t5_1:(Option Addr)),LH 1 (fun x:Unit=>[(0,yield0_1),(5,(.pointer t5_1))]) (fun X x=>zAY.b1 Q (X ()) yield0_1 t5_1):=by intros; exact ⟨⟩
 exact g_walk 14 h Tryz.func228
end Go.Proofs.YtdemfamgieonbaaGreat
namespace Go.Proofs.YtdemfamgieonbaaGreat
open Go Go.Sep
set_option maxRecDepth 100000
theorem mapFL:mapIs Tryz.prog zD4 .string zCg:=⟨zB1,by kernel_rfl,by kernel_rfl⟩
section
variable {B w:World} {Γ:List HProp} {β:Type} {cV:β→Value}
end
end Go.Proofs.YtdemfamgieonbaaGreat
namespace Go.Proofs.YtdemfamgieonbaaGreat
open Go Go.Sep
set_option maxRecDepth 100000
set_option maxHeartbeats 4000000
attribute [local irreducible] CallD
attribute [local irreducible] G Gp Cx Tx Ex Sx Dx Ox Ax Lx Rx Fx Bx Bj Al Do Ld LdN St StN New CallF Ar DoU Rd Rd2 Pu Cd Ite Fv CallV CallY Ans0 Ans1 Ans2 Ans3 Ans4 Ans5 Ext Dead Dr WithS Sv LdS LdNS RdS Rd2S Nn Idx IdxA IdxS Fld Bld Slc SlcS Cat All LoopK RangeF RangeJ TakeD
namespace F_IRLocks
instance at_224:AT Tryz.prog 224 7:=⟨by kernel_rfl⟩
instance at_37:AT Tryz.prog 37 4:=⟨by kernel_rfl⟩
instance at_84:AT Tryz.prog 84 3:=⟨by kernel_rfl⟩
instance at_87:AT Tryz.prog 87 4:=⟨by kernel_rfl⟩
instance cb_104:CB Tryz.prog 104:=⟨by kernel_rfl⟩
instance cb_105:CB Tryz.prog 105:=⟨by kernel_rfl⟩
instance cb_106:CB Tryz.prog 106:=⟨by kernel_rfl⟩
instance cb_107:CB Tryz.prog 107:=⟨by kernel_rfl⟩
instance cb_108:CB Tryz.prog 108:=⟨by kernel_rfl⟩
instance cb_155:CB Tryz.prog 155:=⟨by kernel_rfl⟩
instance cb_192:CB Tryz.prog 192:=⟨by kernel_rfl⟩
instance ct_130:CT Tryz.prog 130:=⟨by kernel_rfl⟩
instance ct_195:CT Tryz.prog 195:=⟨by kernel_rfl⟩
instance ct_196:CT Tryz.prog 196:=⟨by kernel_rfl⟩
instance ct_219:CT Tryz.prog 219:=⟨by kernel_rfl⟩
instance ct_222:CT Tryz.prog 222:=⟨by kernel_rfl⟩
instance ct_9:CT Tryz.prog 9:=⟨by kernel_rfl⟩
instance zUF:FT Tryz.prog 198 0 0 1:=⟨by kernel_rfl⟩
instance zUG:FT Tryz.prog 198 1 1 1:=⟨by kernel_rfl⟩
instance zUH:FT Tryz.prog 224 0 0 4:=⟨by kernel_rfl⟩
instance zUI:FT Tryz.prog 224 1 4 3:=⟨by kernel_rfl⟩
instance zUJ:FT Tryz.prog 226 0 0 1:=⟨by kernel_rfl⟩
instance zUK:FT Tryz.prog 226 1 1 1:=⟨by kernel_rfl⟩
instance zOt:FT Tryz.prog 84 0 0 1:=⟨by kernel_rfl⟩
instance mx:MX Tryz.prog:=⟨mixed⟩
instance pl_198:PLT Tryz.prog 198 [(0,1),(1,1)]:=⟨_,Tryz.underlying198,by kernel_rfl⟩
instance pl_224:PLT Tryz.prog 224 [(0,4),(4,3)]:=⟨_,Tryz.underlying224,by kernel_rfl⟩
instance pl_226:PLT Tryz.prog 226 [(0,1),(1,1)]:=⟨_,Tryz.underlying226,by kernel_rfl⟩
instance sl_222:SLT Tryz.prog 222 224 7:=⟨by kernel_rfl⟩
instance sl_38:SLT Tryz.prog 38 84 3:=⟨by kernel_rfl⟩
instance sz_219:SZ Tryz.prog 219 1:=⟨by kernel_rfl⟩
instance sz_222:SZ Tryz.prog 222 1:=⟨by kernel_rfl⟩
instance sz_224:SZ Tryz.prog 224 7:=⟨by kernel_rfl⟩
instance sz_84:SZ Tryz.prog 84 3:=⟨by kernel_rfl⟩
instance sz_87:SZ Tryz.prog 87 4:=⟨by kernel_rfl⟩
instance un_219:UN Tryz.prog 219 (.pointer 226):=⟨Tryz.underlying219⟩
instance zt_198:ZT Tryz.prog 198 (.agg #[(.map none),(.map none)]):=⟨Tryz.t198,by kernel_rfl,by kernel_rfl⟩
instance zt_219:ZT Tryz.prog 219 (.pointer none):=⟨Tryz.t219,by kernel_rfl,by kernel_rfl⟩
instance zt_224:ZT Tryz.prog 224 (.agg #[(.int .i64 0),(.int .u64 0),(.int .u64 0),(.int .i64 0),(.string ⟨#[]⟩),(.int .i64 0),(.int .u64 0)]):=⟨Tryz.t224,by kernel_rfl,by kernel_rfl⟩
instance zt_226:ZT Tryz.prog 226 (.agg #[(Sl.val ⟨none,0,0⟩),(Sl.val ⟨none,0,0⟩)]):=⟨Tryz.t226,by kernel_rfl,by kernel_rfl⟩
instance zt_84:ZT Tryz.prog 84 (.agg #[(.string ⟨#[]⟩),(.int .i64 0),(.int .u64 0)]):=⟨Tryz.t84,by kernel_rfl,by kernel_rfl⟩
instance zt_87:ZT Tryz.prog 87 (.agg #[(.bool false),(Sl.val ⟨none,0,0⟩),(.int .i64 0),(.int .u64 0)]):=⟨Tryz.t87,by kernel_rfl,by kernel_rfl⟩
end F_IRLocks
def zEM  (Q:(Option Addr)→K):K :=
 Do Tryz.prog (Instr.makeMap 195 none) Value.map fun t1 =>
 Do Tryz.prog (Instr.makeMap 196 none) Value.map fun t2 =>
 New 198 #[(.map t1),(.map t2)] fun t4 =>
 Q (some t4)
theorem zNW  (Q:(Option Addr)→K) (w:World) (h:zEM  Q w):zEM.call  Q w:=by
 exact g_walk 5 h Tryz.func47
def zAd.s2 (Q:K) (X1:Int→K) (l0_2:(Option Addr)) (s1_2:(Option Addr)) (tag6_2:Addr) (t11_2:Sl) (t12_2:Int) (t13_2:Int):K :=
 Ar (IntKind.wrap .i64 (t13_2 + 1)) fun t76 =>
 X1 t76
def zAd.s3 (Q:K) (X1:Int→K) (l0_3:(Option Addr)) (s1_3:(Option Addr)) (tag6_3:Addr) (m9_3:Addr) (g10_3:(Option Addr)) (t11_3:Sl) (t12_3:Int) (t13_3:Int) (t36_3:Bool):K :=
 Ite t36_3
  (zAd.s2 Q X1 l0_3 s1_3 tag6_3 t11_3 t12_3 t13_3)
  (Dr <| WithS fun S =>
  LdS S m9_3 Value.string fun t39 =>
  LdNS S m9_3 3 fun t41 =>
  zAt.call s1_3 t39 fun t40 =>
  Sv S <|
  zCB.call t40 t41 fun t42 =>
  Ite (decide (t42 = 0))
   (Dr <| WithS fun S =>
   Nn g10_3 fun t52 =>
   LdS S t52 Sl.val fun t54 =>
   LdNS S tag6_3 4 fun t55 =>
   LdNS S m9_3 3 fun t56 =>
   Bld #[(.int .i64 0),(.int .u64 0),(.int .u64 0),(.int .i64 0),(.string ⟨#[]⟩),(.int .i64 0),(.int .u64 0)] ([(0,4),(4,3)][·]?) [(0,(.agg t55)),(1,(.agg t56))] fun t57 =>
   Bld #[(.int .i64 0),(.int .u64 0),(.int .u64 0),(.int .i64 0),(.string ⟨#[]⟩),(.int .i64 0),(.int .u64 0)] (fun i=>some (i * 7,7)) [(0,(.agg t57))] fun ct58 =>
   New 224 ct58 fun t58 =>
   Sv S <|
   Do Tryz.prog (Builtin.append_ #[222,222] 222 #[(Sl.val t54),(Sl.val (Sl.mk (some t58) 1 1))]) Sl.val fun t59 =>
   St t52 (Sl.val t59) <|
   zAd.s2 Q X1 l0_3 s1_3 tag6_3 t11_3 t12_3 t13_3)
   (Ite (decide (t42 = 1))
    (Dr <| WithS fun S =>
    Nn g10_3 fun t66 =>
    LdS S (t66.add 1) Sl.val fun t68 =>
    LdNS S tag6_3 4 fun t69 =>
    LdNS S m9_3 3 fun t70 =>
    Bld #[(.int .i64 0),(.int .u64 0),(.int .u64 0),(.int .i64 0),(.string ⟨#[]⟩),(.int .i64 0),(.int .u64 0)] ([(0,4),(4,3)][·]?) [(0,(.agg t69)),(1,(.agg t70))] fun t71 =>
    Bld #[(.int .i64 0),(.int .u64 0),(.int .u64 0),(.int .i64 0),(.string ⟨#[]⟩),(.int .i64 0),(.int .u64 0)] (fun i=>some (i * 7,7)) [(0,(.agg t71))] fun ct72 =>
    New 224 ct72 fun t72 =>
    Sv S <|
    Do Tryz.prog (Builtin.append_ #[222,222] 222 #[(Sl.val t68),(Sl.val (Sl.mk (some t72) 1 1))]) Sl.val fun t73 =>
    St (t66.add 1) (Sl.val t73) <|
    zAd.s2 Q X1 l0_3 s1_3 tag6_3 t11_3 t12_3 t13_3)
    (Dr <|
    Nn l0_3 fun t44 =>
    Ld (t44.add 1) Value.map fun t46 =>
    LdN tag6_3 4 fun t47 =>
    DoU Tryz.prog (Instr.mapUpdate 196 (.map t46) (.agg t47) (.int .i64 1)) <|
    zAd.s2 Q X1 (some t44) s1_3 tag6_3 t11_3 t12_3 t13_3)))
def zAd.b1 (Q:K)  (X1:Int→K) (l0_1:(Option Addr)) (s1_1:(Option Addr)) (tag6_1:Addr) (t11_1:Sl) (t12_1:Int) (t13_1:Int):K :=
 Ite (decide (t13_1 < t12_1))
  (Idx t11_1 t13_1 3 fun t15 =>
  LdN t15 3 fun t16 =>
  New 84 #[(.string ⟨#[]⟩),(.int .i64 0),(.int .u64 0)] fun m9 =>
  StN m9 3 t16 <|
  Ld m9 Value.string fun t19 =>
  zBL.call l0_1 t19 fun t20 =>
  Dr <| WithS fun S =>
  Nn t20 fun t22 =>
  LdS S t22 Sl.val fun t24 =>
  LdNS S tag6_1 4 fun t25 =>
  zDW.call t25 fun t26 =>
  Sv S <|
  zAh.call t24 t26 fun t27 =>
  Sv S <|
  Ite t27
   (zAd.s3 Q X1 l0_1 s1_1 tag6_1 m9 (some t22) t11_1 t12_1 t13_1 true)
   (LdS S (t22.add 1) Sl.val fun t32 =>
   LdNS S tag6_1 4 fun t33 =>
   zDW.call t33 fun t34 =>
   Sv S <|
   zAh.call t32 t34 fun t35 =>
   zAd.s3 Q X1 l0_1 s1_1 tag6_1 m9 (some t22) t11_1 t12_1 t13_1 t35))
  (Q)
def zAd (l0:(Option Addr)) (s1:(Option Addr)) (tag2:(Array Value)) (marks3:Sl) (Q:K):K :=
 New 37 tag2 fun tag6 =>
 LoopK (α:=Int) (fun X x=>zAd.b1 Q X l0 s1 tag6 marks3 (marks3.n:Int) x) 0
theorem zHf (l0:(Option Addr)) (s1:(Option Addr)) (tag2:(Array Value)) (marks3:Sl) (Q:K) (w:World) (h:zAd l0 s1 tag2 marks3 Q w):zAd.call l0 s1 tag2 marks3 Q w:=by
 have hJ12:∀ (X1:Int→K),XH 2 X1→JH 12 fun D=>∃ (l0_2:(Option Addr)) (s1_2:(Option Addr)) (tag6_2:Addr) (t11_2:Sl) (t12_2:Int) (t13_2:Int),D [(0,(.pointer l0_2)),(1,(.pointer s1_2)),(6,(.pointer (some tag6_2))),(11,(Sl.val t11_2)),(12,(.int .i64 t12_2)),(13,(.int .i64 t13_2))] (fun C=>C [(0,(.pointer l0_2)),(1,(.pointer s1_2)),(6,(.pointer (some tag6_2))),(11,(Sl.val t11_2)),(12,(.int .i64 t12_2)),(13,(.int .i64 t13_2))] (zAd.s2 Q X1 l0_2 s1_2 tag6_2 t11_2 t12_2 t13_2)):=by intros; exact ⟨fun _ ⟨_,_,_,_,_,_,h⟩=>⟨_,_,h⟩⟩
 have hD9:DH 9 2 [9,12] (.s [0,1,2,3,4,5,6,7] (.a [(8,1,.a [(9,0,.s [10,11] (.a [(12,0,.e)]))])])):=by intros; exact ⟨⟩
 have hD11:DH 11 2 [9,12] (.s [0,1,2,3,4,5,6,7] (.a [(8,1,.a [(9,0,.s [10,11] (.a [(12,0,.e)]))])])):=by intros; exact ⟨⟩
 have hD7:DH 7 1 [5] (.s [0,1,2,3,4] (.a [(5,0,.e)])):=by intros; exact ⟨⟩
 have hD6:DH 6 2 [5] (.s [0,1,2,4] (.a [(3,1,.a [(5,0,.e)])])):=by intros; exact ⟨⟩
 have hJ1000005:∀ (X1:Int→K),XH 2 X1→JH 1000005 fun D=>∃ (l0_3:(Option Addr)) (s1_3:(Option Addr)) (tag6_3:Addr) (m9_3:Addr) (g10_3:(Option Addr)) (t11_3:Sl) (t12_3:Int) (t13_3:Int),D [(0,(.pointer l0_3)),(1,(.pointer s1_3)),(6,(.pointer (some tag6_3))),(9,(.pointer (some m9_3))),(10,(.pointer g10_3)),(11,(Sl.val t11_3)),(12,(.int .i64 t12_3)),(13,(.int .i64 t13_3))] (fun C=>∀ (t36_3:Bool),C [(0,(.pointer l0_3)),(1,(.pointer s1_3)),(6,(.pointer (some tag6_3))),(9,(.pointer (some m9_3))),(10,(.pointer g10_3)),(11,(Sl.val t11_3)),(12,(.int .i64 t12_3)),(13,(.int .i64 t13_3)),(36,(.bool t36_3))] (zAd.s3 Q X1 l0_3 s1_3 tag6_3 m9_3 g10_3 t11_3 t12_3 t13_3 t36_3)):=by intros; exact ⟨fun _ ⟨_,_,_,_,_,_,_,_,h⟩=>⟨_,_,h⟩⟩
 have hD5:DH 5 2 [14] (.s [0,1,2,3,4] (.a [(5,1,.a [(6,1,.s [7] (.i (.s [8,9,10,11,12,13,14,15] .e) (.s [8,9,10,11,12] (.a [(13,1,.a [(14,0,.s [15] .e)])]))))])])):=by intros; exact ⟨⟩
 have hL2:∀ (l0_1:(Option Addr)) (s1_1:(Option Addr)) (tag6_1:Addr) (t11_1:Sl) (t12_1:Int),LH 2 (fun x:Int=>[(0,(.pointer l0_1)),(1,(.pointer s1_1)),(6,(.pointer (some tag6_1))),(11,(Sl.val t11_1)),(12,(.int .i64 t12_1)),(13,(.int .i64 x))]) (fun X x=>zAd.b1 Q X l0_1 s1_1 tag6_1 t11_1 t12_1 x):=by intros; exact ⟨⟩
 exact g_walk 77 h Tryz.func62
def zCS (l0:(Option Addr)) (tag1:(Array Value)) (Q:Bool→K):K :=
 New 37 tag1 fun tag3 =>
 Dr <|
 Nn l0 fun t6 =>
 Ld (t6.add 1) Value.map fun t8 =>
 LdN tag3 4 fun t9 =>
 Rd Tryz.prog (Instr.lookup 196 (.map t8) (.agg t9) false) (Value.int .i64) fun t10 =>
 Q (decide ((0:Int) < t10))
theorem zG5 (l0:(Option Addr)) (tag1:(Array Value)) (Q:Bool→K) (w:World) (h:zCS l0 tag1 Q w):zCS.call l0 tag1 Q w:=by
 exact g_walk 12 h Tryz.func98
def zAy.s2 (Q:Bool→K) (X1:K) (tag3_2:Addr) (t11_2:(Option Addr)) (t32_2:Bool):K :=
 Ite t32_2
  (Q false)
  (X1)
def zAy.b1 (Q:Bool→K)  (X1:K) (tag3_1:Addr) (t11_1:(Option Addr)) :K :=
 Do Tryz.prog (Instr.next (.pointer t11_1) false 0) id fun t12 =>
 Ext t12 0 Value.bool fun t13 =>
 Ite t13
  (Do Tryz.prog (Instr.entry (.pointer t11_1)) id fun t14 =>
  Ext t14 1 Value.pointer fun t15 =>
  Dr <| WithS fun S =>
  Nn t15 fun t17 =>
  LdS S (t17.add 1) Sl.val fun t19 =>
  LdNS S tag3_1 4 fun t20 =>
  zDW.call t20 fun t21 =>
  Sv S <|
  zAh.call t19 t21 fun t22 =>
  Sv S <|
  Ite t22
   (zAy.s2 Q X1 tag3_1 t11_1 true)
   (LdS S t17 Sl.val fun t27 =>
   LdNS S tag3_1 4 fun t28 =>
   zDW.call t28 fun t29 =>
   Sv S <|
   zAL.call t27 t29 fun t30 =>
   zAy.s2 Q X1 tag3_1 t11_1 (decide ((0:Int) < t30))))
  (Q true)
def zAy (l0:(Option Addr)) (tag1:(Array Value)) (Q:Bool→K):K :=
 New 37 tag1 fun tag3 =>
 Nn l0 fun t8 =>
 Ld t8 Value.map fun t10 =>
 Do Tryz.prog (Instr.range 195 (.map t10)) Value.pointer fun t11 =>
 LoopK (α:=Unit) (fun X x=>zAy.b1 Q (X ()) tag3 t11) ()
theorem zHg (l0:(Option Addr)) (tag1:(Array Value)) (Q:Bool→K) (w:World) (h:zAy l0 tag1 Q w):zAy.call l0 tag1 Q w:=by
 have hJ5:∀ (X1:Unit→K),XH 2 X1→JH 5 fun D=>∃ (tag3_2:Addr) (t11_2:(Option Addr)),D [(3,(.pointer (some tag3_2))),(11,(.pointer t11_2))] (fun C=>∀ (t32_2:Bool),C [(3,(.pointer (some tag3_2))),(11,(.pointer t11_2)),(32,(.bool t32_2))] (zAy.s2 Q (X1 ()) tag3_2 t11_2 t32_2)):=by intros; exact ⟨fun _ ⟨_,_,h⟩=>⟨_,_,h⟩⟩
 have hD4:DH 4 2 [14] (.s [0,1,2,3,4] (.a [(5,1,.a [(6,1,.s [7] (.i (.s [8,9,10,11,12,13,14,15,16] .e) (.s [8,9,10,11,12] (.a [(13,1,.a [(14,0,.s [15,16] .e)])]))))])])):=by intros; exact ⟨⟩
 have hL2:∀ (tag3_1:Addr) (t11_1:(Option Addr)),LH 2 (fun x:Unit=>[(3,(.pointer (some tag3_1))),(11,(.pointer t11_1))]) (fun X x=>zAy.b1 Q (X ()) tag3_1 t11_1):=by intros; exact ⟨⟩
 exact g_walk 33 h Tryz.func99
def zBL.s1 (Q:(Option Addr)→K)  (l0_1:(Option Addr)) (key1_1:ByteArray):K :=
 Nn l0_1 fun t20 =>
 Ld t20 Value.map fun t22 =>
 Rd Tryz.prog (Instr.lookup 195 (.map t22) (.string key1_1) false) Value.pointer fun t24 =>
 Q t24
def zBL (l0:(Option Addr)) (key1:ByteArray) (Q:(Option Addr)→K):K :=
 Nn l0 fun t6 =>
 Ld t6 Value.map fun t8 =>
 Rd Tryz.prog (Instr.lookup 195 (.map t8) (.string key1) false) Value.pointer fun t10 =>
 Ite ((t10).isNone)
  (Ld t6 Value.map fun t15 =>
  New 226 #[(Sl.val ⟨none,0,0⟩),(Sl.val ⟨none,0,0⟩)] fun t18 =>
  DoU Tryz.prog (Instr.mapUpdate 195 (.map t15) (.string key1) (.pointer (some t18))) <|
  zBL.s1 Q (some t6) key1)
  (zBL.s1 Q (some t6) key1)
theorem zH9 (l0:(Option Addr)) (key1:ByteArray) (Q:(Option Addr)→K) (w:World) (h:zBL l0 key1 Q w):zBL.call l0 key1 Q w:=by
 have hJ3:JH 3 fun D=>∃ (l0_1:(Option Addr)) (key1_1:ByteArray),D [(0,(.pointer l0_1)),(1,(.string key1_1))] (fun C=>C [(0,(.pointer l0_1)),(1,(.string key1_1))] (zBL.s1 Q l0_1 key1_1)):=by intros; exact ⟨fun _ ⟨_,_,h⟩=>⟨_,_,h⟩⟩
 exact g_walk 25 h Tryz.func104
def zDW (tag0:(Array Value)) (Q:Value→K):K :=
 New 37 tag0 fun tag1 =>
 Q (.func (.func 160) #[] #[(.pointer (some tag1))])
theorem zOB (tag0:(Array Value)) (Q:Value→K) (w:World) (h:zDW tag0 Q w):zDW.call tag0 Q w:=by
 exact g_walk 4 h Tryz.func106
def zAq.b1 (Q:K)  (X1:K) (l0_1:Addr) (tag3_1:Addr) (t10_1:(Option Addr)) :K :=
 Do Tryz.prog (Instr.next (.pointer t10_1) false 0) id fun t11 =>
 Ext t11 0 Value.bool fun t12 =>
 Ite t12
  (Do Tryz.prog (Instr.entry (.pointer t10_1)) id fun t13 =>
  Ext t13 1 Value.pointer fun t14 =>
  Dr <| WithS fun S =>
  Nn t14 fun t17 =>
  LdS S t17 Sl.val fun t19 =>
  LdNS S tag3_1 4 fun t20 =>
  zDW.call t20 fun t21 =>
  Sv S <|
  zAC.call t19 t21 fun t22 =>
  St t17 (Sl.val t22) <|
  Dr <| WithS fun S =>
  LdS S (t17.add 1) Sl.val fun t29 =>
  LdNS S tag3_1 4 fun t30 =>
  zDW.call t30 fun t31 =>
  Sv S <|
  zAC.call t29 t31 fun t32 =>
  St (t17.add 1) (Sl.val t32) <|
  X1)
  (Dr <|
  Ld (l0_1.add 1) Value.map fun t38 =>
  LdN tag3_1 4 fun t39 =>
  Do Tryz.prog (Builtin.delete_ #[196,37] 0 #[(.map t38),(.agg t39)]) id fun _ =>
  Q)
def zAq (l0:(Option Addr)) (tag1:(Array Value)) (Q:K):K :=
 New 37 tag1 fun tag3 =>
 Nn l0 fun t7 =>
 Ld t7 Value.map fun t9 =>
 Do Tryz.prog (Instr.range 195 (.map t9)) Value.pointer fun t10 =>
 LoopK (α:=Unit) (fun X x=>zAq.b1 Q (X ()) t7 tag3 t10) ()
theorem zHh (l0:(Option Addr)) (tag1:(Array Value)) (Q:K) (w:World) (h:zAq l0 tag1 Q w):zAq.call l0 tag1 Q w:=by
 have hD5:DH 5 2 [7,10] (.s [0,1,2,3,4,5] (.a [(6,1,.a [(7,0,.s [8,9] (.a [(10,0,.e)]))])])):=by intros; exact ⟨⟩
 have hD4:DH 4 2 [7,10] (.s [0,1,2,3,4,5] (.a [(6,1,.a [(7,0,.s [8,9] (.a [(10,0,.e)]))])])):=by intros; exact ⟨⟩
 have hD6:DH 6 1 [5] (.s [0,1,2,3,4] (.a [(5,0,.e)])):=by intros; exact ⟨⟩
 have hL2:∀ (l0_1:Addr) (tag3_1:Addr) (t10_1:(Option Addr)),LH 2 (fun x:Unit=>[(0,(.pointer (some l0_1))),(3,(.pointer (some tag3_1))),(10,(.pointer t10_1))]) (fun X x=>zAq.b1 Q (X ()) l0_1 tag3_1 t10_1):=by intros; exact ⟨⟩
 exact g_walk 40 h Tryz.func156
theorem zG6 (l0:(Option Addr)) (tag1:(Array Value)) (Q:K) (w:World) (h:zAq l0 tag1 Q w):zAq.calld l0 tag1 Q w:=by
 have hD5:DH 5 2 [7,10] (.s [0,1,2,3,4,5] (.a [(6,1,.a [(7,0,.s [8,9] (.a [(10,0,.e)]))])])):=by intros; exact ⟨⟩
 have hD4:DH 4 2 [7,10] (.s [0,1,2,3,4,5] (.a [(6,1,.a [(7,0,.s [8,9] (.a [(10,0,.e)]))])])):=by intros; exact ⟨⟩
 have hD6:DH 6 1 [5] (.s [0,1,2,3,4] (.a [(5,0,.e)])):=by intros; exact ⟨⟩
 have hL2:∀ (l0_1:Addr) (tag3_1:Addr) (t10_1:(Option Addr)),LH 2 (fun x:Unit=>[(0,(.pointer (some l0_1))),(3,(.pointer (some tag3_1))),(10,(.pointer t10_1))]) (fun X x=>zAq.b1 Q (X ()) l0_1 tag3_1 t10_1):=by intros; exact ⟨⟩
 exact zSt 40 h Tryz.func156
def zA5.s2 (Q:K) (X1:Int→K) (l3_2:Addr) (g6_2:Addr) (r7_2:Addr) (t19_2:Sl) (t20_2:Int) (t21_2:Int):K :=
 Ar (IntKind.wrap .i64 (t21_2 + 1)) fun t36 =>
 X1 t36
def zA5.b1 (Q:K)  (X1:Int→K) (l3_1:Addr) (g6_1:Addr) (r7_1:Addr) (t19_1:Sl) (t20_1:Int) (t21_1:Int):K :=
 Ite (decide (t21_1 < t20_1))
  (Idx t19_1 t21_1 7 fun t23 =>
  LdN t23 7 fun t24 =>
  New 224 #[(.int .i64 0),(.int .u64 0),(.int .u64 0),(.int .i64 0),(.string ⟨#[]⟩),(.int .i64 0),(.int .u64 0)] fun c9 =>
  StN c9 7 t24 <|
  LdN r7_1 4 fun t25 =>
  LdN (c9.add 4) 3 fun t27 =>
  zCB.call t25 t27 fun t28 =>
  Ite (decide (t28 ≠ 0))
   (Dr <|
   Ld l3_1 Value.pointer fun t30 =>
   Nn t30 fun t31 =>
   Ld (t31.add 1) Value.map fun t33 =>
   LdN c9 4 fun t35 =>
   DoU Tryz.prog (Instr.mapUpdate 196 (.map t33) (.agg t35) (.int .i64 1)) <|
   zA5.s2 Q X1 l3_1 g6_1 r7_1 t19_1 t20_1 t21_1)
   (zA5.s2 Q X1 l3_1 g6_1 r7_1 t19_1 t20_1 t21_1))
  (Dr <| WithS fun S =>
  LdS S g6_1 Value.pointer fun t37 =>
  LdS S g6_1 Value.pointer fun t38 =>
  Nn t38 fun t39 =>
  LdS S (t39.add 1) Sl.val fun t41 =>
  zAC.call t41 (.func (.func 200) #[] #[(.pointer (some r7_1)),(.pointer (some g6_1)),(.pointer (some l3_1))]) fun t43 =>
  Sv S <|
  Nn t37 fun t44 =>
  St (t44.add 1) (Sl.val t43) <|
  Q)
def zA5 (l0:(Option Addr)) (s1:(Option Addr)) (key2:ByteArray) (Q:K):K :=
 New 130 #[(.pointer l0)] fun l3 =>
 Ld l3 Value.pointer fun t10 =>
 zBL.call t10 key2 fun t12 =>
 zAt.call s1 key2 fun t15 =>
 New 219 #[(.pointer none)] fun g6 =>
 New 87 #[(.bool false),(Sl.val ⟨none,0,0⟩),(.int .i64 0),(.int .u64 0)] fun r7 =>
 St g6 (.pointer t12) <|
 StN r7 4 t15 <|
 Ld g6 Value.pointer fun t16 =>
 Nn t16 fun t17 =>
 Ld t17 Sl.val fun t19 =>
 LoopK (α:=Int) (fun X x=>zA5.b1 Q X l3 g6 r7 t19 (t19.n:Int) x) 0
theorem zHi (l0:(Option Addr)) (s1:(Option Addr)) (key2:ByteArray) (Q:K) (w:World) (h:zA5 l0 s1 key2 Q w):zA5.call l0 s1 key2 Q w:=by
 have hJ7:∀ (X1:Int→K),XH 3 X1→JH 7 fun D=>∃ (l3_2:Addr) (g6_2:Addr) (r7_2:Addr) (t19_2:Sl) (t20_2:Int) (t21_2:Int),D [(3,(.pointer (some l3_2))),(6,(.pointer (some g6_2))),(7,(.pointer (some r7_2))),(19,(Sl.val t19_2)),(20,(.int .i64 t20_2)),(21,(.int .i64 t21_2))] (fun C=>C [(3,(.pointer (some l3_2))),(6,(.pointer (some g6_2))),(7,(.pointer (some r7_2))),(19,(Sl.val t19_2)),(20,(.int .i64 t20_2)),(21,(.int .i64 t21_2))] (zA5.s2 Q X1 l3_2 g6_2 r7_2 t19_2 t20_2 t21_2)):=by intros; exact ⟨fun _ ⟨_,_,_,_,_,_,h⟩=>⟨_,_,h⟩⟩
 have hD6:DH 6 1 [6] (.s [4,0,1,2,3,5] (.a [(6,0,.e)])):=by intros; exact ⟨⟩
 have hD8:DH 8 2 [9] (.s [5,0,1,2,3,4] (.a [(6,1,.s [7,8] (.a [(9,0,.e)]))])):=by intros; exact ⟨⟩
 have hL3:∀ (l3_1:Addr) (g6_1:Addr) (r7_1:Addr) (t19_1:Sl) (t20_1:Int),LH 3 (fun x:Int=>[(3,(.pointer (some l3_1))),(6,(.pointer (some g6_1))),(7,(.pointer (some r7_1))),(19,(Sl.val t19_1)),(20,(.int .i64 t20_1)),(21,(.int .i64 x))]) (fun X x=>zA5.b1 Q X l3_1 g6_1 r7_1 t19_1 t20_1 x):=by intros; exact ⟨⟩
 exact g_walk 46 h Tryz.func159
def zF0 (c0:(Array Value)) (t1:Addr) (Q:Bool→K):K :=
 New 224 c0 fun c2 =>
 LdN c2 4 fun t5 =>
 LdN t1 4 fun t6 =>
 Pu Tryz.prog (do eqGuard .eql 37 (.tmp 5) (.tmp 6) (.agg t5) (.agg t6); binOp .eql 37 (.agg t5) (.agg t6):Sem Value) Value.bool fun t7 =>
 Q t7
theorem zMa (c0:(Array Value)) (t1:Addr) (Q:Bool→K) (w:World) (h:zF0 c0 t1 Q w):zF0.call c0 t1 Q w:=by
 exact g_walk 8 h Tryz.func160
def zBC.s1 (Q:Bool→K)  (how6_1:Int):K :=
 Q (decide (how6_1 ≠ 1))
def zBC (c0:(Array Value)) (t1:Addr) (t2:Addr) (t3:Addr) (Q:Bool→K):K :=
 New 224 c0 fun c4 =>
 LdN t1 4 fun t7 =>
 LdN (c4.add 4) 3 fun t9 =>
 zCB.call t7 t9 fun t10 =>
 Ite (decide (t10 = 0))
  (Dr <| WithS fun S =>
  LdS S t2 Value.pointer fun t14 =>
  LdS S t2 Value.pointer fun t15 =>
  Nn t15 fun t16 =>
  LdS S t16 Sl.val fun t18 =>
  LdNS S c4 7 fun t19 =>
  Bld #[(.int .i64 0),(.int .u64 0),(.int .u64 0),(.int .i64 0),(.string ⟨#[]⟩),(.int .i64 0),(.int .u64 0)] (fun i=>some (i * 7,7)) [(0,(.agg t19))] fun ct20 =>
  New 224 ct20 fun t20 =>
  Sv S <|
  Do Tryz.prog (Builtin.append_ #[222,222] 222 #[(Sl.val t18),(Sl.val (Sl.mk (some t20) 1 1))]) Sl.val fun t21 =>
  Sv S <|
  Nn t14 fun t22 =>
  St t22 (Sl.val t21) <|
  zBC.s1 Q t10)
  (Ite (decide (t10 = 2))
   (Dr <|
   Ld t3 Value.pointer fun t26 =>
   Nn t26 fun t27 =>
   Ld (t27.add 1) Value.map fun t29 =>
   LdN c4 4 fun t31 =>
   DoU Tryz.prog (Instr.mapUpdate 196 (.map t29) (.agg t31) (.int .i64 1)) <|
   zBC.s1 Q t10)
   (zBC.s1 Q t10))
theorem zGl (c0:(Array Value)) (t1:Addr) (t2:Addr) (t3:Addr) (Q:Bool→K) (w:World) (h:zBC c0 t1 t2 t3 Q w):zBC.call c0 t1 t2 t3 Q w:=by
 have hJ7:JH 7 fun D=>∃ (how6_1:Int),D [(6,(.int .i64 how6_1))] (fun C=>C [(6,(.int .i64 how6_1))] (zBC.s1 Q how6_1)):=by intros; exact ⟨fun _ ⟨_,h⟩=>⟨_,_,h⟩⟩
 have hD4:DH 4 2 [10] (.s [0,1,2,3,4,5] (.a [(6,1,.a [(7,1,.s [8,9] (.a [(10,0,.e)]))])])):=by intros; exact ⟨⟩
 have hD6:DH 6 1 [6] (.s [4,0,1,2,3,5] (.a [(6,0,.e)])):=by intros; exact ⟨⟩
 exact g_walk 34 h Tryz.func200
end Go.Proofs.YtdemfamgieonbaaGreat
namespace Go.Proofs.YtdemfamgieonbaaGreat
open Go Go.Sep Go.Sep.Bt
set_option maxRecDepth 100000
structure MarkM where
 key:List UInt8
 home:Int
 cnt:Int
deriving DecidableEq
abbrev markF (m:MarkM):List Value:=[strV m.key,.int .i64 m.home,.int .u64 m.cnt]
abbrev Claim:=TagM×MarkM
abbrev clF (c:Claim):List Value:=[.int .i64 c.1.node,.int .u64 c.1.epoch,.int .u64 c.1.seq,.int .i64 c.1.tr,strV c.2.key,.int .i64 c.2.home,.int .u64 c.2.cnt]
theorem zE3 (c:Claim):(clF c).length = 7:=rfl
theorem zLz (c:MarkM):(markF c).length = 3:=rfl
theorem clF_fl (L:List Claim):∀ v ∈ L.flatMap clF,flatV v = true:=fun v hv=>by
 obtain ⟨x,_,hx⟩:=List.mem_flatMap.1 hv
 simp only [clF,List.mem_cons,List.not_mem_nil,or_false] at hx
 rcases hx with rfl | rfl | rfl | rfl | rfl | rfl | rfl <;> rfl
theorem mapFD:Tryz.prog.underlying zEL = some (.map zBP ty_int):=by kernel_rfl
theorem zD2:KeyS Tryz.prog zBP tagF:=⟨by kernel_rfl,⟨tagK,by kernel_rfl,fun _=>rfl⟩,fun a b h=>zHc.1 h,fun a=>by simp [Instr.sameBits]⟩
abbrev GM:=List (List UInt8×(List Claim×List Claim))
abbrev DM:=TagM→Bool
abbrev KeysU {ν:Type} (W:List (List UInt8×ν)):Prop:=(W.map Prod.fst).Nodup
def gateM (k:List UInt8) (M:GM):GM:=if (mget k M).isNone then M++[(k,([],[]))] else M
def atM (k:List UInt8) (M:GM):List Claim×List Claim:=(mget k M).getD ([],[])
def hasT (tag:TagM) (L:List Claim):Bool:=L.any fun c=>decide (c.1 = tag)
def dset (dm:DM) (tag:TagM) (b:Bool):DM:=fun t=>if t = tag then b else dm t
def markLook (n:Nat) (S:Recs) (m:MarkM):Int:=lookS (sGet n S (bs m.key)).cnt m.cnt (sGet n S (bs m.key)).home m.home
def enter1 (n:Nat) (S:Recs) (tag:TagM) (x:GM×DM) (m:MarkM):GM×DM :=
 if hasT tag (atM m.key x.1).1 || hasT tag (atM m.key x.1).2 then (gateM m.key x.1,x.2)
 else if markLook n S m = 0 then (mset m.key ((atM m.key x.1).1++[(tag,m)],(atM m.key x.1).2) (gateM m.key x.1),x.2)
 else if markLook n S m = 1 then (mset m.key ((atM m.key x.1).1,(atM m.key x.1).2++[(tag,m)]) (gateM m.key x.1),x.2)
 else (gateM m.key x.1,dset x.2 tag true)
def enterM (n:Nat) (S:Recs) (tag:TagM) (ms:List MarkM) (x:GM×DM):GM×DM:=ms.foldl (enter1 n S tag) x
def noT (tag:TagM) (L:List Claim):List Claim:=L.filter fun c=>!decide (c.1 = tag)
def leaveM (tag:TagM) (x:GM×DM):GM×DM:=(x.1.map fun p=>(p.1,(noT tag p.2.1,noT tag p.2.2)),dset x.2 tag false)
def gsz (M:GM) (N:Nat):Prop:=M.length ≤ N∧∀ p ∈ M,p.2.1.length ≤ N∧p.2.2.length ≤ N
theorem gsz_le {M:GM} {a b:Nat} (h:gsz M a) (hab:a ≤ b):gsz M b:=⟨by have:=h.1; omega,fun p hp=>by have:=h.2 p hp; omega⟩
theorem gsz_at {M:GM} {k:List UInt8} {N:Nat} (h:gsz M N):(atM k M).1.length ≤ N∧(atM k M).2.length ≤ N:=by
 unfold atM
 cases hm:mget k M with
 | none=>simp
 | some v=>exact h.2 _ (zFo hm)
theorem zRj {M:GM} {k:List UInt8} {N:Nat} (h:gsz M N):gsz (gateM k M) (N + 1):=by
 unfold gateM
 split
 ·refine ⟨by simp; exact h.1,fun p hp=>?_⟩
  rcases List.mem_append.1 hp with hp | hp
  ·have:=h.2 p hp; omega
  ·rw [List.mem_singleton.1 hp]; simp
 ·exact gsz_le h (by omega)
theorem zGa {M:GM} {k:List UInt8} {v:List Claim×List Claim} (h:(mget k M).isSome = true):(mset k v M).length = M.length:=by
 rcases mfind k M with ⟨h1,_⟩ | ⟨j,x,hj,_,_,_,h2,_⟩
 ·rw [h1] at h; cases h
 ·rw [h2]; simp
theorem zE4 {M:GM} {k:List UInt8}:(mget k (gateM k M)).isSome = true:=by
 unfold gateM
 split
 ·rename_i h
  have h':mget k M = none:=by simpa using h
  have:=zGY (v:=([],[])) h'
  rw [← this,zFm]; simp
 ·rename_i h; simpa [Option.isNone_iff_eq_none,Option.isSome_iff_ne_none] using h
theorem zJp {ν:Type} {M:List (List UInt8×ν)} {k:List UInt8} {v:ν} {p:List UInt8×ν} (h:p ∈ mset k v M):p = (k,v)∨p ∈ M:=by
 rcases mfind k M with ⟨_,h2,_⟩ | ⟨j,x,hj,_,_,_,h2,_⟩
 ·rw [h2] at h
  rcases List.mem_append.1 h with h | h
  ·exact .inr h
  ·exact .inl (List.mem_singleton.1 h)
 ·rw [h2] at h
  rcases List.mem_or_eq_of_mem_set h with h | h
  ·exact .inr h
  ·exact .inl h
theorem zNX {M:GM} {k:List UInt8} {v:List Claim×List Claim} {N:Nat} (h:gsz M N) (hs:(mget k M).isSome = true) (h1:v.1.length ≤ N) (h2:v.2.length ≤ N):gsz (mset k v M) N :=
 ⟨by rw [zGa hs]; exact h.1,fun p hp=>by
  rcases zJp hp with rfl | hp
  ·exact ⟨h1,h2⟩
  ·exact h.2 p hp⟩
theorem zQM {n:Nat} {S:Recs} {tag:TagM} {x:GM×DM} {m:MarkM} {N:Nat} (h:gsz x.1 N):gsz (enter1 n S tag x m).1 (N + 1):=by
 have h1:=zRj (k:=m.key) h
 have h2:=gsz_at (k:=m.key) h
 unfold enter1
 split
 ·exact h1
 ·split
  ·exact zNX h1 zE4 (by simp; omega) (by simp only; omega)
  ·split
   ·exact zNX h1 zE4 (by simp only; omega) (by simp; omega)
   ·exact h1
theorem zQN {ν:Type} {M:List (List UInt8×ν)} {k:List UInt8} {v:ν} (h:KeysU M) (hk:mget k M = none):KeysU (M++[(k,v)]):=by
 have e:=zGY (v:=v) hk
 have h2:=zFn M k v
 unfold KeysU
 rw [← e,h2]
 split
 ·exact h
 ·rename_i hk
  refine List.nodup_append.2 ⟨h,by simp,fun a ha b hb=>?_⟩
  rw [List.mem_singleton.1 hb]
  exact fun e=>hk (e ▸ ha)
theorem zPV {ν:Type} {M:List (List UInt8×ν)} {k:List UInt8} {v:ν} (h:mget k M = some v):∃ A C,M = A++(k,v)::C:=by
 induction M with
 | nil=>cases h
 | cons p M ih =>
  unfold mget at h
  split at h
  ·rename_i e; injection h with h; exact ⟨[],M,by rw [e,← h]; rfl⟩
  ·obtain ⟨A,C,rfl⟩:=ih h; exact ⟨p::A,C,rfl⟩
theorem zJq {ν:Type} {A C:List (List UInt8×ν)} {k:List UInt8} {v:ν} (h:KeysU (A++(k,v)::C)):(∀ p ∈ A,p.1 ≠ k)∧∀ p ∈ C,p.1 ≠ k:=by
 unfold KeysU at h
 rw [List.map_append,List.map_cons] at h
 obtain ⟨_,h2,h3⟩:=List.nodup_append.1 h
 refine ⟨fun p hp=>h3 _ (List.mem_map.2 ⟨p,hp,rfl⟩) _ List.mem_cons_self,fun p hp e=>(List.nodup_cons.1 h2).1 (e ▸ List.mem_map.2 ⟨p,hp,rfl⟩)⟩
theorem zRk {ν:Type} {A C:List (List UInt8×ν)} {k:List UInt8} {v:ν} (h:∀ p ∈ A,p.1 ≠ k):mget k (A++(k,v)::C) = some v:=by
 induction A with
 | nil=>simp [mget]
 | cons p A ih =>
  rw [List.cons_append,mget,if_neg (fun e=>h p List.mem_cons_self e.symm)]
  exact ih fun q hq=>h q (List.mem_cons_of_mem _ hq)
theorem zRl {ν:Type} {A C:List (List UInt8×ν)} {k:List UInt8} {v v':ν} (h:∀ p ∈ A,p.1 ≠ k):mset k v' (A++(k,v)::C) = A++(k,v')::C:=by
 induction A with
 | nil=>simp [mset]
 | cons p A ih =>
  rw [List.cons_append,mset,if_neg (fun e=>h p List.mem_cons_self e.symm),ih fun q hq=>h q (List.mem_cons_of_mem _ hq)]
  rfl
structure GateX where
 b:Nat
 ls:Sl
 ps:Sl
 line:List Claim
 park:List Claim
abbrev gV (g:GateX):Value:=.pointer (some ⟨g.b,0,none⟩)
abbrev gL (g:GateX) (Γ:List HProp):List HProp:=blk g.b (.cells [g.ls.val,g.ps.val].toArray zC7 (0,0))::SlC zBB 7 g.ls (g.line.flatMap clF)::SlC zBB 7 g.ps (g.park.flatMap clF)::Γ
abbrev gB (x:List UInt8×GateX):HProp:=Sep.stars (gL x.2 [])
abbrev GX:=List (List UInt8×GateX)
abbrev modG (X:GX):GM:=X.map fun p=>(p.1,(p.2.line,p.2.park))
abbrev lockF (l gm db:Nat) (X Y:GX) (D:List (TagM×Int)) (Γ:List HProp):List HProp :=
 blk l (.cells [.map (some gm),.map (some db)].toArray zCY (0,0))::MapR strV gV gm X::Sep.stars (Y.map gB)::MapR (kyS tagF) (Value.int .i64) db D::Γ
structure LF (M:GM) (dm:DM) (X:GX) (D:List (TagM×Int)):Prop where
 mod:modG X = M
 once:KeysU X
 doom:∀ t,dm t = decide (0 < (mget t D).getD 0)
 nd:(D.map Prod.fst).Nodup
def LocksR (l:Nat) (M:GM) (dm:DM):HProp:=ex fun gm=>ex fun db=>ex fun X:GX=>ex fun D=>Sep.stars (pur (LF M dm X D)::lockF l gm db X X D [])
section
variable {B:World} {Γ Δ:List HProp} {k:K} {l gm db st n:Nat} {M:GM} {dm:DM} {X:GX} {D:List (TagM×Int)} {S:Recs} {tag:TagM}
instance (priority:=high) zTz:Sep.Own l (LocksR l M dm::Γ) (LocksR l M dm) Γ:=⟨.refl _⟩
theorem zI9 (h:∀ gm db X D,LF M dm X D→HG B (lockF l gm db X X D Γ) k):HG B (LocksR l M dm::Γ) k :=
 s_ex fun gm=>s_ex fun db=>s_ex fun X=>s_ex fun D=>s_flat <| s_pur fun h1=>h gm db X D h1
theorem zE5 (h1:LF M dm X D) (h:HG B (LocksR l M dm::Γ) k):HG B (lockF l gm db X X D Γ) k:=fun w hw=>by
 refine h w ?_
 have h3:Holds B (Sep.stars (pur (LF M dm X D)::lockF l gm db X X D [])::Γ) w:=Holds.flat.2 (Holds.pur.2 ⟨h1,hw⟩)
 exact h3.imp fun g hg=>⟨gm,db,X,D,hg⟩
theorem zL0 {α β:Type} [DecidableEq α] {enc:α→Value} {cV:β→Value} {b:Nat} {m m':List (α×β)} (h:(m.map fun p=>(enc p.1,cV p.2)) = m'.map fun p=>(enc p.1,cV p.2)):∀ g,MapR enc cV b m g→MapR enc cV b m' g:=fun g hg=>by
 obtain ⟨es,c,⟨h1,h2⟩,h3⟩:=hg
 exact ⟨es,c,⟨by unfold mrel at h1 ⊢; rw [h1,h],h2⟩,h3⟩
theorem s_gate {A C:GX} {key:List UInt8} {g:GateX} (hX:X = A++(key,g)::C) (h:HG B (gL g (lockF l gm db X (A++C) D Γ)) k):HG B (lockF l gm db X X D Γ) k:=by
 refine s_pick (Sep.stars (X.map gB)) ?_
 rw [show Sep.stars (X.map gB) = Sep.stars ((A++(key,g)::C).map gB) by rw [hX]]
 refine s_mid ?_
 refine s_flat ?_
 show HG B (gL g (_::_::_::_::Γ)) k
 exact s_end h
theorem zNY {A C:GX} {key:List UInt8} {g g':GateX} {dm':DM} {D':List (TagM×Int)} (hX:X = A++(key,g)::C) (hb:g'.b = g.b) (hf:LF M dm X D) (hd:(∀ t,dm' t = decide (0 < (mget t D').getD 0))∧(D'.map Prod.fst).Nodup)
  (h:HG B (LocksR l (mset key (g'.line,g'.park) M) dm'::Γ) k):HG B (gL g' (lockF l gm db X (A++C) D' Γ)) k:=by
 have ho:=hf.once
 rw [hX] at ho
 have hA:=(zJq ho).1
 refine zEs (Δ:=gL g' []) ?_
 refine s_pick (Sep.stars ((A++C).map gB)) ?_
 refine s_pick (Sep.stars (gL g' [])) ?_
 refine zCx (F:=gB) (x:=(key,g')) ?_
 refine s_pick (MapR strV gV gm X) ?_
 refine s_conv (zL0 (m':=A++(key,g')::C) ?_) ?_
 ·rw [hX]; simp [gV,hb]
 refine s_pick (MapR (kyS tagF) (Value.int .i64) db D') ?_
 refine s_pick (Sep.stars ((A++(key,g')::C).map gB)) ?_
 refine s_pick (MapR strV gV gm (A++(key,g')::C)) ?_
 refine s_own l ?_
 refine zE5 ⟨?_,?_,hd.1,hd.2⟩ h
 ·rw [← hf.mod,hX]
  simp only [modG,List.map_append,List.map_cons]
  rw [zRl]
  intro p hp
  obtain ⟨q,hq,rfl⟩:=List.mem_map.1 hp
  exact hA q hq
 ·unfold KeysU at ho ⊢
  simpa using ho
theorem lf_at {A C:GX} {key:List UInt8} {g:GateX} (hX:X = A++(key,g)::C) (hf:LF M dm X D):atM key M = (g.line,g.park):=by
 have ho:=hf.once
 rw [hX] at ho
 unfold atM
 rw [← hf.mod,hX]
 simp only [modG,List.map_append,List.map_cons]
 rw [zRk]; rfl
 intro p hp
 obtain ⟨q,hq,rfl⟩:=List.mem_map.1 hp
 exact (zJq ho).1 q hq
abbrev g0 (gb:Nat):GateX:=⟨gb,⟨none,0,0⟩,⟨none,0,0⟩,[],[]⟩
theorem zQO:zeroT Tryz.prog zCg (.pointer none):=zHZ
theorem zOu {key:List UInt8} {Q:Option Addr→K} (h:∀ gm db X D A g C,LF (gateM key M) dm X D→X = A++(key,g)::C→HG B (gL g (lockF l gm db X (A++C) D Γ)) (Q (some ⟨g.b,0,none⟩))) :
  HG B (LocksR l M dm::Γ) (zBL.call (some ⟨l,0,none⟩) (bs key) Q):=by
 refine fun w hw=>zH9 _ _ _ _ ?_
 refine hg hw ?_
 clear hw w
 refine zI9 fun gm db X D hf=>?_
 unfold zBL
 repeat refine s_nx ?_
 have hl:∀ {Γ:List HProp} {q:Option Addr→K} {X:GX} {Δ:List HProp} [p:Sep.Own gm Γ (MapR strV gV gm X) Δ],HG B Γ (q ((mget key X).map fun g=>⟨g.b,0,none⟩))→HG B Γ (Rd Tryz.prog (Instr.lookup zD4 (.map (some gm)) (strV key) false) Value.pointer q):=fun {Γ q X Δ p} h w hw=>by
  obtain ⟨es,c,⟨hr,hst⟩,h1⟩:=MapR.opens (hw.perm p.perm)
  have:=zQJ (a:=key) mapFL zFa zQO h1.block hr false
  refine ⟨(mget key X).map fun g=>⟨g.b,0,none⟩,?_,h w hw⟩
  rw [this]
  cases mget key X <;> rfl
 have fin:∀ {Γ:List HProp} (M2:GM) (X:GX) (g:GateX),mget key X = some g→LF M2 dm X D→(∀ A C,X = A++(key,g)::C→HG B (gL g (lockF l gm db X (A++C) D Γ)) (Q (some ⟨g.b,0,none⟩)))→HG B (lockF l gm db X X D Γ) (zBL.s1 Q (some ⟨l,0,none⟩) (bs key)):=fun M2 X g hg hf hk=>by
  unfold zBL.s1
  repeat refine s_nx ?_
  refine hl (X:=X) ?_
  rw [hg]
  obtain ⟨A,C,hX⟩:=zPV hg
  exact s_gate hX (hk A C hX)
 refine hl (X:=X) ?_
 have hmm:mget key M = (mget key X).map fun g=>(g.line,g.park):=by rw [← hf.mod]; exact zFY (fun g:GateX=>(g.line,g.park)) key X
 cases hm:mget key X with
 | none =>
  rw [hm] at hmm
  have hgm:gateM key M = M++[(key,([],[]))]:=by unfold gateM; rw [hmm]; rfl
  rw [hgm] at h
  refine s_t ?_
  repeat refine s_nx ?_
  refine s_new fun gb=>?_
  refine s_upd (cG:=Value.bool) (b:=gm) (enc:=strV) (cV:=gV) (v:=g0 gb) rfl mapFL zFa ?_
  have hms:=zGY (v:=g0 gb) hm
  rw [hms]
  refine fun w hw=>?_
  refine hg (show Holds B (SlC zBB 7 ⟨none,0,0⟩ []::_) w from hw.nilSl _ _) ?_
  clear hw w
  refine fun w hw=>?_
  refine hg (show Holds B (SlC zBB 7 ⟨none,0,0⟩ []::_) w from hw.nilSl _ _) ?_
  clear hw w
  refine s_own gb ?_
  show HG B (gL (g0 gb) (MapR strV gV gm (X++[(key,g0 gb)])::blk l (.cells [.map (some gm),.map (some db)].toArray zCY (0,0))::Sep.stars (X.map gB)::MapR (kyS tagF) (Value.int .i64) db D::Γ)) _
  refine zEs (Δ:=gL (g0 gb) []) ?_
  refine s_pick (Sep.stars (X.map gB)) ?_
  refine s_pick (Sep.stars (gL (g0 gb) [])) ?_
  rw [show Sep.stars (X.map gB) = Sep.stars ((X++[]).map gB) by rw [List.append_nil]]
  refine zCx (F:=gB) (x:=(key,g0 gb)) ?_
  refine s_own db ?_
  refine s_pick (Sep.stars ((X++[(key,g0 gb)]).map gB)) ?_
  refine s_own gm ?_
  refine s_own l ?_
  have hf':LF (M++[(key,([],[]))]) dm (X++[(key,g0 gb)]) D:=⟨by simp [modG,← hf.mod],zQN hf.once hm,hf.doom,hf.nd⟩
  refine fin _ _ (g0 gb) ?_ hf' fun A C hX=>h gm db _ D A _ C hf' hX
  rw [← hms,zFm]; simp
 | some g =>
  rw [hm] at hmm
  have hgm:gateM key M = M:=by unfold gateM; rw [hmm]; rfl
  rw [hgm] at h
  refine s_f ?_
  exact fin M X g hm hf fun A C hX=>h gm db X D A g C hf hX
abbrev ofV (b:Nat):Value:=.func (.func 160) #[] #[.pointer (some ⟨b,0,none⟩)]
theorem zE6 {Q:Value→K} (h:∀ b,HG B (blk b (.cells (tagF tag).toArray zBP (0,0))::Γ) (Q (ofV b))):HG B Γ (zDW.call (tagF tag).toArray Q):=by
 refine fun w hw=>zOB _ _ _ ?_
 refine hg hw ?_
 clear hw w
 unfold zDW
 exact s_new fun b=>h b
theorem of_hg {b:Nat} {c:Claim} {q:Bool→K} (h:HG B Γ (q (decide (c.1 = tag)))) [p:Sep.Own b Γ (blk b (.cells (tagF tag).toArray zBP (0,0))) Δ] :
  HG B Γ (CallV Tryz.prog (ofV b) [.agg (clF c).toArray] (Ans1 (fun (t:Bool)=>Value.bool t) q)):=by
 refine zEt (cs:=[.pointer (some ⟨b,0,none⟩)]) ?_
 refine fun w hw=>zMa _ _ _ _ ?_
 refine hg hw ?_
 clear hw w
 unfold zF0
 refine s_new fun c2=>?_
 repeat refine s_nx ?_
 refine s_eqS (xs:=tagF c.1) (ys:=tagF tag) (ks:=tagK) zHc ?_
 exact s_end h
theorem indexC {s:Sl} {L:List Claim} {b:Nat} {Δ2:List HProp} {Q:Int→K} (hL:L.length < 1000000000) (h:HG B Γ (Q (idxI (L.findIdx? fun c=>decide (c.1 = tag))))) [o:OwnS s Γ (SlC zBB 7 s (L.flatMap clF)) Δ2] [p:Sep.Own b Γ (blk b (.cells (tagF tag).toArray zBP (0,0))) Δ] :
  HG B Γ (zAL.call s (ofV b) Q):=by
 refine s_cap s fun a1 a2 a3 a4=>?_
 rw [zAT _ 7 zE3] at a1
 refine fun w hw=>zBr _ _ _ _ ?_
 refine hg hw ?_
 clear hw w
 show HG B Γ (idxFK Tryz.prog (accN 7) s (ofV b) Q)
 exact zG4 (vV:=fun c=>.agg (clF c).toArray) (L:=L) (fun c=>decide (c.1 = tag)) (by omega) hL (fun i x k hx hk=>zOr (s:=s) zE3 (by omega) hx hk) (fun x q _ hq=>of_hg hq) h
theorem containsC {s:Sl} {L:List Claim} {b:Nat} {Δ2:List HProp} {Q:Bool→K} (hL:L.length < 1000000000) (h:HG B Γ (Q (hasT tag L))) [o:OwnS s Γ (SlC zBB 7 s (L.flatMap clF)) Δ2] [p:Sep.Own b Γ (blk b (.cells (tagF tag).toArray zBP (0,0))) Δ] :
  HG B Γ (zAh.call s (ofV b) Q):=by
 refine fun w hw=>zDX _ _ _ _ ?_
 refine hg hw ?_
 clear hw w
 unfold zAh
 refine indexC (tag:=tag) (L:=L) hL ?_
 rw [zGk,zLJ]
 exact h
theorem deleteC {s:Sl} {L:List Claim} {b:Nat} {Q:Sl→K} (hL:L.length < 1000000000) (h:∀ s',HG B (SlC zBB 7 s' ((noT tag L).flatMap clF)::Γ) (Q s')) [p:Sep.Own b Γ (blk b (.cells (tagF tag).toArray zBP (0,0))) Δ] :
  HG B (SlC zBB 7 s (L.flatMap clF)::Γ) (zAC.call s (ofV b) Q):=by
 refine fun w hw=>zCe _ _ _ _ ?_
 refine hg hw ?_
 clear hw w
 show HG B _ (delFN Tryz.prog zAL.call zBB zGF 0 7 [(.int .i64 0),(.int .u64 0),(.int .u64 0),(.int .i64 0),(.string ⟨#[]⟩),(.int .i64 0),(.int .u64 0)] s (ofV b) Q)
 refine zOs (R:=fun _=>Γ) (L:=L) (f:=clF) (fun (_:Unit) c=>decide (c.1 = tag)) (fun _ _=>()) () (fun _ _=>True) trivial (fun _ _ _ _=>trivial) (fun s fv Q w h=>zBr _ _ _ _ h) zE3 (by omega) (fun _=>rfl) rfl hL (fun Ξ g x C q _ _ hq=>of_hg hq) fun s' _=>?_
 rw [zIY]
 exact h s'
theorem zJa {Q:Option Addr→K} (h:∀ l,HG B (LocksR l [] (fun _=>false)::Γ) (Q (some ⟨l,0,none⟩))):HG B Γ (zEM.call Q):=by
 refine fun w hw=>zNW _ _ ?_
 refine hg hw ?_
 clear hw w
 unfold zEM
 refine zI8 (enc:=strV) (cV:=gV) fun gm=>?_
 refine zI8 (enc:=kyS tagF) (cV:=Value.int .i64) fun db=>?_
 refine s_new fun l=>?_
 refine fun w hw=>?_
 refine hg (show Holds B (Sep.stars (([]:GX).map gB)::_) w from Holds.flat.2 hw) ?_
 clear hw w
 refine s_own db ?_
 refine s_pick (Sep.stars (([]:GX).map gB)) ?_
 refine s_own gm ?_
 refine s_own l ?_
 exact zE5 ⟨rfl,by simp [KeysU],fun t=>by simp [mget],by simp⟩ (h l)
theorem zJr (hf:∀ t,dm t = decide (0 < (mget t D).getD 0)):∀ t,dset dm tag true t = decide (0 < (mget t (mset tag 1 D)).getD 0):=fun t=>by
 rw [zFm]
 unfold dset
 split
 ·simp
 ·exact hf t
theorem nd_set {v:Int} (h:(D.map Prod.fst).Nodup):((mset tag v D).map Prod.fst).Nodup:=by
 rw [zFn]
 split
 ·exact h
 ·rename_i hk
  refine List.nodup_append.2 ⟨h,by simp,fun a ha b hb=>?_⟩
  rw [List.mem_singleton.1 hb]
  exact fun e=>hk (e ▸ ha)
theorem zQP {ν:Type} {M:List (List UInt8×ν)} {key:List UInt8} {v:ν} (h:mget key M = some v):mset key v M = M:=by
 induction M with
 | nil=>cases h
 | cons p M ih =>
  unfold mget at h
  unfold mset
  split
  ·rename_i e
   rw [if_pos e] at h
   injection h with h
   rw [e,← h]
  ·rename_i e
   rw [if_neg e] at h
   rw [ih h]
theorem zLK {key:List UInt8}:atM key (gateM key M) = atM key M:=by
 unfold gateM
 split
 ·rename_i h
  have h':mget key M = none:=by simpa using h
  unfold atM
  rw [h',← zGY (v:=([],[])) h',zFm]; simp
 ·rfl
theorem zOv {key:List UInt8}:mset key (atM key M) (gateM key M) = gateM key M:=by
 refine zQP ?_
 have h:=zE4 (M:=M) (k:=key)
 rw [← zLK]
 unfold atM
 cases hm:mget key (gateM key M) with
 | none=>rw [hm] at h; cases h
 | some v=>rfl
theorem zRm {ms:Sl} {L:List MarkM} {N:Nat} {Q:K} (hr:∀ w,Holds B Γ w→RdC w ms 3 (L.flatMap markF)) (hk:∀ m ∈ L,m.key.length < 1000000000) (hN:gsz M N) (hNl:N + L.length ≤ 1000000)
  (h:HG B (LocksR l (enterM n S tag L (M,dm)).1 (enterM n S tag L (M,dm)).2::StoreR st n S::Γ) Q) :
  HG B (LocksR l M dm::StoreR st n S::Γ) (zAd.call (some ⟨l,0,none⟩) (some ⟨st,0,none⟩) (tagF tag).toArray ms Q):=fun w hw=>by
 refine zHf _ _ _ _ _ _ ?_
 have hlen:ms.n = L.length:=rd_len zLz (by omega) (hr w hw.tail.tail)
 refine hg hw ?_
 clear hw w
 unfold zAd
 refine s_new fun t6=>?_
 refine s_loop (α:=Int) (ι:=(GM×DM)×Nat) (fun x i=>x = (i.2:Int)∧i.2 ≤ L.length∧gsz i.1.1 (N + i.2)∧enterM n S tag (L.drop i.2) i.1 = enterM n S tag L (M,dm))
  (fun x i=>blk t6 (.cells (tagF tag).toArray zBP (0,0))::LocksR l i.1.1 i.1.2::StoreR st n S::Γ) (fun x i=>L.length - i.2) ((M,dm),0) ⟨rfl,Nat.zero_le _,hN,rfl⟩ ?_
 rintro k' _ ⟨⟨M1,d1⟩,j⟩ ⟨rfl,hj,hz,he⟩ hk'
 simp only at hj hz he hk' ⊢
 unfold zAd.b1
 refine s_ite (fun hb=>?_) fun hb=>?_
 ·have hjl:j < L.length:=by simp only [decide_eq_true_eq] at hb; omega
  have hge:L[j]? = some L[j]:=List.getElem?_eq_getElem hjl
  have hmem:L[j] ∈ L:=List.getElem_mem hjl
  rw [List.drop_eq_getElem_cons hjl] at he
  generalize L[j] = m at hge hmem he
  have hkl:=hk m hmem
  have hz2:=zQM (n:=n) (S:=S) (tag:=tag) (x:=(M1,d1)) (m:=m) hz
  have he2:enterM n S tag (L.drop (j + 1)) (enter1 n S tag (M1,d1) m) = enterM n S tag L (M,dm):=he
  refine s_idxN markF zLz (fun w hw=>hr w hw.drops) hge ?_
  refine s_new fun m9=>?_
  repeat refine s_nx ?_
  refine s_own l ?_
  refine zOu fun gm db X D A g C hf hX=>?_
  have hat:=lf_at hX hf
  rw [zLK] at hat
  have hgz:=gsz_at (k:=m.key) hz
  rw [hat] at hgz
  simp only at hgz
  refine s_cap g.ls fun c1 c2 c3 c4=>?_
  refine s_cap g.ps fun e1 e2 e3 e4=>?_
  rw [zAT _ 7 zE3] at c1 e1
  have fin:∀ {Δ:List HProp} {g':GateX} {d':DM} {D':List (TagM×Int)},enter1 n S tag (M1,d1) m = (mset m.key (g'.line,g'.park) (gateM m.key M1),d')→g'.b = g.b→((∀ t,d' t = decide (0 < (mget t D').getD 0))∧(D'.map Prod.fst).Nodup)→HG B (gL g' (lockF l gm db X (A++C) D' (blk t6 (.cells (tagF tag).toArray zBP (0,0))::StoreR st n S::Γ))) (zAd.s2 Q k' (some ⟨l,0,none⟩) (some ⟨st,0,none⟩) ⟨t6,0,none⟩ ms (ms.n:Int) (j:Int)):=fun {Δ g' d' D'} e1 e2 e3=>by
   refine zNY hX e2 hf e3 ?_
   unfold zAd.s2
   refine s_ai ?_
   have h:=hk' ((j:Int) + 1) (enter1 n S tag (M1,d1) m,j + 1) ⟨by simp,hjl,hz2,he2⟩ (by simp only; omega)
   rw [e1] at h
   exact s_end h
  have keep:(hasT tag g.line || hasT tag g.park) = true→enter1 n S tag (M1,d1) m = (mset m.key (g.line,g.park) (gateM m.key M1),d1):=fun hh=>by
   unfold enter1
   rw [hat,if_pos hh,show (g.line,g.park) = atM m.key M1 from hat.symm,zOv]
  repeat refine s_nx ?_
  refine zE6 fun b1=>?_
  repeat refine s_nx ?_
  refine containsC (tag:=tag) (L:=g.line) (by omega) ?_
  repeat refine s_nx ?_
  have rest:∀ (b:Nat) (hh:Bool),hh = (hasT tag g.line || hasT tag g.park)→HG B (gL g (lockF l gm db X (A++C) D (blk m9 (.cells (markF m).toArray zBG (0,0))::blk t6 (.cells (tagF tag).toArray zBP (0,0))::StoreR st n S::Γ))) (zAd.s3 Q k' (some ⟨l,0,none⟩) (some ⟨st,0,none⟩) ⟨t6,0,none⟩ ⟨m9,0,none⟩ (some ⟨g.b,0,none⟩) ms (ms.n:Int) (j:Int) hh):=fun b hh hhe=>by
   unfold zAd.s3
   refine s_ite (fun hb2=>?_) fun hb2=>?_
   ·exact s_end (fin (Δ:=Γ) (keep (by rw [← hhe]; exact hb2)) rfl ⟨hf.doom,hf.nd⟩)
   rw [hb2] at hhe
   have hno:¬ (hasT tag g.line || hasT tag g.park) = true:=by rw [← hhe]; simp
   repeat refine s_nx ?_
   refine s_own st ?_
   refine zC8 (k:=bs m.key) (by show m.key.length < _; omega) fun s _=>?_
   repeat refine s_nx ?_
   refine lookHg ?_
   have hlk:lookS (sGet n S (bs m.key)).cnt m.cnt (sGet n S (bs m.key)).home m.home = markLook n S m:=rfl
   rw [hlk]
   refine s_ite (fun h0=>?_) fun h0=>?_
   ·have h0':markLook n S m = 0:=by simpa using h0
    repeat refine s_nx ?_
    refine s_new fun t=>?_
    repeat refine s_nx ?_
    refine zBT (s:=g.ls) (esz:=7) (us:=clF (tag,m)) (blk_rd rfl) (by intro v hv; exact clF_fl [(tag,m)] v (by simpa using hv)) (by simp only; omega) fun ls' _=>?_
    rw [show g.line.flatMap clF++clF (tag,m) = (g.line++[(tag,m)]).flatMap clF by simp]
    repeat refine s_nx ?_
    refine s_end (fin (Δ:=Γ) (g':={ g with ls:=ls',line:=g.line++[(tag,m)] }) ?_ rfl ⟨hf.doom,hf.nd⟩)
    unfold enter1
    rw [hat,if_neg hno,if_pos h0']
   ·have h0':¬ markLook n S m = 0:=by simpa using h0
    refine s_ite (fun h1=>?_) fun h1=>?_
    ·have h1':markLook n S m = 1:=by simpa using h1
     repeat refine s_nx ?_
     refine s_new fun t=>?_
     repeat refine s_nx ?_
     refine zBT (s:=g.ps) (esz:=7) (us:=clF (tag,m)) (blk_rd rfl) (by intro v hv; exact clF_fl [(tag,m)] v (by simpa using hv)) (by simp only; omega) fun ps' _=>?_
     rw [show g.park.flatMap clF++clF (tag,m) = (g.park++[(tag,m)]).flatMap clF by simp]
     repeat refine s_nx ?_
     refine s_end (fin (Δ:=Γ) (g':={ g with ps:=ps',park:=g.park++[(tag,m)] }) ?_ rfl ⟨hf.doom,hf.nd⟩)
     unfold enter1
     rw [hat,if_neg hno,if_neg h0',if_pos h1']
    ·have h1':¬ markLook n S m = 1:=by simpa using h1
     repeat refine s_nx ?_
     refine s_updS (b:=db) (cel:=tagF) (a:=tag) (v:=1) zD2 rfl ?_ mapFD
     refine s_end (fin (Δ:=Γ) (g':=g) (d':=dset d1 tag true) ?_ rfl ⟨zJr hf.doom,nd_set hf.nd⟩)
     unfold enter1
     rw [hat,if_neg hno,if_neg h0',if_neg h1',show (g.line,g.park) = atM m.key M1 from hat.symm,zOv]
  refine s_ite (fun hb2=>?_) fun hb2=>?_
  ·exact s_end (rest b1 true (by rw [hb2]; rfl))
  repeat refine s_nx ?_
  refine zE6 fun b2=>?_
  repeat refine s_nx ?_
  refine containsC (tag:=tag) (L:=g.park) (by omega) ?_
  exact s_end (rest b2 _ (by rw [hb2]; rfl))
 ·have hjl:j = L.length:=by simp only [decide_eq_false_iff_not] at hb; omega
  rw [hjl,List.drop_length] at he
  have he':(M1,d1) = enterM n S tag L (M,dm):=he
  rw [← he'] at h
  exact s_end h
end
end Go.Proofs.YtdemfamgieonbaaGreat
namespace Go.Proofs.YtdemfamgieonbaaGreat
open Go Go.Sep Go.Sep.Bt
set_option maxRecDepth 100000
section
variable {B:World} {Γ Δ:List HProp} {k:K} {l gm db st n:Nat} {M:GM} {dm:DM} {X:GX} {D:List (TagM×Int)} {S:Recs} {tag:TagM}
theorem zL1 {Q:Bool→K} (h:HG B (LocksR l M dm::Γ) (Q (dm tag))):HG B (LocksR l M dm::Γ) (zCS.call (some ⟨l,0,none⟩) (tagF tag).toArray Q):=by
 refine fun w hw=>zG5 _ _ _ _ ?_
 refine hg hw ?_
 clear hw w
 refine zI9 fun gm db X D hf=>?_
 unfold zCS
 refine s_new fun t3=>?_
 repeat refine s_nx ?_
 refine zJo (b:=db) (cel:=tagF) (a:=tag) (z:=0) zD2 zEo ?_ mapFD
 rw [← hf.doom]
 refine s_own db ?_
 refine s_pick (Sep.stars (X.map gB)) ?_
 refine s_own gm ?_
 refine s_own l ?_
 exact zE5 hf (s_end h)
theorem zRn {m:List (TagM×Int)} {a b:TagM} (h:(m.map Prod.fst).Nodup):mget b (mdel a m) = if b = a then none else mget b m:=by
 induction m with
 | nil=>simp [mdel,mget]
 | cons p m ih =>
  have h1:=List.nodup_cons.1 (show (p.1::m.map Prod.fst).Nodup from h)
  unfold mdel
  split
  ·rename_i e
   split
   ·rename_i e2
    have hn:∀ m:List (TagM×Int),p.1 ∉ m.map Prod.fst→mget p.1 m = none:=fun m=>by
     induction m with
     | nil=>intro _; rfl
     | cons q m ih=>intro hq; simp only [List.map_cons,List.mem_cons,not_or] at hq; unfold mget; rw [if_neg hq.1]; exact ih hq.2
    rw [e2,e]; exact hn m h1.1
   ·rename_i e2
    simp only [mget]
    rw [if_neg (fun e3=>e2 (by rw [e3,e]))]
  ·rename_i e
   by_cases h2:b = p.1
   ·have h3:¬ b = a:=fun h4=>e (by rw [← h4,h2])
    simp only [mget,h2,if_true]
    rw [if_neg (by rw [← h2]; exact h3)]
   ·simp only [mget,h2,if_false]
    exact ih h1.2
theorem nd_del {m:List (TagM×Int)} (h:(m.map Prod.fst).Nodup):((mdel tag m).map Prod.fst).Nodup:=by
 rcases mfind tag m with ⟨_,_,h3,_⟩ | ⟨j,x,_,_,_,_,_,h3⟩
 ·rw [h3]; exact h
 ·rw [h3]
  exact List.Pairwise.sublist ((List.eraseIdx_sublist m j).map Prod.fst) h
theorem zPW {X Y:GX} {A C:GX} {p:List UInt8×GateX} (hY:(Y.map fun q=>(q.1,q.2.b)) = X.map fun q=>(q.1,q.2.b)) (hX:X = A++p::C):∃ A' g C',Y = A'++(p.1,g)::C'∧g.b = p.2.b∧A'.length = A.length∧(A'.map Prod.fst) = A.map Prod.fst∧C'.map Prod.fst = C.map Prod.fst:=by
 rw [hX,List.map_append,List.map_cons] at hY
 obtain ⟨A',Y2,rfl,h1,h2⟩:=List.map_eq_append_iff.1 hY
 obtain ⟨⟨k,g⟩,C',rfl,h3,h4⟩:=List.map_eq_cons_iff.1 h2
 simp only [Prod.mk.injEq] at h3
 obtain ⟨rfl,h5⟩:=h3
 refine ⟨A',g,C',rfl,h5,by simpa using congrArg List.length h1,?_,?_⟩
 ·have:=congrArg (List.map Prod.fst) h1; simpa [Function.comp_def] using this
 ·have:=congrArg (List.map Prod.fst) h4; simpa [Function.comp_def] using this
theorem zOw {Y A' C':GX} {key:List UInt8} {g:GateX} (hY:Y = A'++(key,g)::C') (h:HG B (gL g (Sep.stars ((A'++C').map gB)::Γ)) k):HG B (Sep.stars (Y.map gB)::Γ) k:=by
 rw [hY]
 refine s_mid ?_
 refine s_flat ?_
 exact h
theorem zL2 {A' C':GX} {key:List UInt8} {g:GateX} (h:HG B (Sep.stars ((A'++(key,g)::C').map gB)::Γ) k):HG B (gL g (Sep.stars ((A'++C').map gB)::Γ)) k:=by
 refine zEs (Δ:=gL g []) ?_
 exact zCx (F:=gB) (x:=(key,g)) h
theorem zL3 {N:Nat} {Q:K} (hN:gsz M N) (hNl:N ≤ 1000000) (h:HG B (LocksR l (leaveM tag (M,dm)).1 (leaveM tag (M,dm)).2::Γ) Q) :
  HG B (LocksR l M dm::Γ) (zAq (some ⟨l,0,none⟩) (tagF tag).toArray Q):=by
 refine zI9 fun gm db X D hf=>?_
 have hsz:∀ p ∈ X,p.2.line.length ≤ N∧p.2.park.length ≤ N:=fun p hp=>hN.2 (p.1,(p.2.line,p.2.park)) (by rw [← hf.mod]; exact List.mem_map.2 ⟨p,hp,rfl⟩)
 unfold zAq
 refine s_new fun t3=>?_
 repeat refine s_nx ?_
 refine zOp mapFL fun r=>?_
 let cl:List (List UInt8)→List UInt8×(List Claim×List Claim)→List UInt8×(List Claim×List Claim):=fun ks p=>if p.1 ∈ ks then p else (p.1,(noT tag p.2.1,noT tag p.2.2))
 refine s_loop (α:=Unit) (ι:=GX×GX×Option (List UInt8×GateX)) (fun _ i=>(i.1.map fun q=>(q.1,q.2.b)) = (X.map fun q=>(q.1,q.2.b))∧modG i.1 = (modG X).map (cl (i.2.1.map Prod.fst))∧(i.2.1.map Prod.fst).Nodup)
  (fun _ i=>MapIt strV gV gm r X i.2.1 i.2.2::Sep.stars (i.1.map gB)::blk t3 (.cells (tagF tag).toArray zBP (0,0))::blk l (.cells [.map (some gm),.map (some db)].toArray zCY (0,0))::MapR (kyS tagF) (Value.int .i64) db D::Γ)
  (fun _ i=>i.2.1.length) (X,X,none) ⟨rfl,?_,hf.once⟩ ?_ |> fun h=>s_end h
 ·simp only
  rw [List.map_congr_left (g:=id)]
  ·simp
  ·intro p hp
   simp only [cl,id]
   rw [if_pos]
   obtain ⟨q,hq,rfl⟩:=List.mem_map.1 hp
   exact List.mem_map.2 ⟨q,hq,rfl⟩
 rintro k' _ ⟨Y,left,cur⟩ ⟨hYb,hYm,hnd⟩ hk'
 simp only at hYb hYm hnd hk' ⊢
 unfold zAq.b1
 refine s_next (r:=r) (fun hl0=>?_) fun l1 p l2 hl1 hp=>?_
 ·repeat refine s_nx ?_
  refine zPT (b:=db) (cel:=tagF) (a:=tag) zD2 ?_ mapFD
  subst hl0
  refine s_own gm ?_
  refine s_conv (zL0 (m':=Y) ?_) ?_
  ·have:=congrArg (List.map fun q:List UInt8×Nat=>(strV q.1,Value.pointer (some ⟨q.2,0,none⟩))) hYb
   simpa [gV,Function.comp_def] using this.symm
  refine s_own db ?_
  refine s_pick (Sep.stars (Y.map gB)) ?_
  refine s_own gm ?_
  refine s_own l ?_
  refine zE5 (M:=(leaveM tag (M,dm)).1) (dm:=(leaveM tag (M,dm)).2) ⟨?_,?_,fun t=>?_,nd_del hf.nd⟩ (s_end h)
  ·rw [hYm,hf.mod]
   simp [leaveM,cl]
  ·unfold KeysU
   have:=congrArg (List.map Prod.fst) hYb
   simp only [List.map_map,Function.comp_def] at this
   rw [this]; exact hf.once
  ·show dset dm tag false t = _
   unfold dset
   rw [zRn hf.nd]
   split
   ·simp
   ·exact hf.doom t
 ·obtain ⟨A,C,hX⟩:=List.append_of_mem hp
  obtain ⟨A',g,C',hY,hgb,_,hA1,hC1⟩:=zPW hYb hX
  have hpl:p.1 ∈ left.map Prod.fst:=by rw [hl1]; simp
  have hXo:=hf.once
  rw [hX] at hXo
  have hmid:=zJq (v:=p.2) hXo
  have hgm2:(g.line,g.park) = (p.2.line,p.2.park):=by
   rw [hY,hX] at hYm
   simp only [modG,List.map_append,List.map_cons] at hYm
   have hlen:(A'.map fun p:List UInt8×GateX=>(p.1,(p.2.line,p.2.park))).length = ((A.map fun p:List UInt8×GateX=>(p.1,(p.2.line,p.2.park))).map (cl (left.map Prod.fst))).length:=by
    have:=congrArg List.length hA1; simpa using this
   have h2:=(List.append_inj hYm hlen).2
   simp only [List.cons.injEq,cl] at h2
   rw [if_pos hpl] at h2
   exact (Prod.mk.inj h2.1).2
  simp only [Prod.mk.injEq] at hgm2
  have hps:=hsz p hp
  repeat refine s_nx ?_
  refine zOq (r:=r) (q:=p) ?_
  refine s_nx ?_
  refine s_pick (Sep.stars (Y.map gB)) ?_
  refine zOw hY ?_
  rw [← hgb]
  repeat refine s_nx ?_
  refine zE6 fun b1=>?_
  repeat refine s_nx ?_
  refine s_ownS g.ls ?_
  refine deleteC (tag:=tag) (L:=g.line) (b:=b1) (by rw [hgm2.1]; omega) fun ls'=>?_
  repeat refine s_nx ?_
  refine zE6 fun b2=>?_
  repeat refine s_nx ?_
  refine s_ownS g.ps ?_
  refine deleteC (tag:=tag) (L:=g.park) (b:=b2) (by rw [hgm2.2]; omega) fun ps'=>?_
  repeat refine s_nx ?_
  refine s_pick (Sep.stars ((A'++C').map gB)) ?_
  refine s_ownS ps' ?_
  refine s_ownS ls' ?_
  refine s_own g.b ?_
  refine zL2 (key:=p.1) (g:=⟨g.b,ls',ps',noT tag g.line,noT tag g.park⟩) ?_
  refine s_end (hk' () (A'++(p.1,⟨g.b,ls',ps',noT tag g.line,noT tag g.park⟩)::C',l1++l2,some p) ⟨?_,?_,?_⟩ (by rw [hl1]; simp))
  ·rw [← hYb,hY]; simp
  ·simp only
   have hne:∀ q:List UInt8,q ≠ p.1→(q ∈ l1.map Prod.fst++l2.map Prod.fst ↔ q ∈ left.map Prod.fst):=fun q hq=>by
    rw [hl1]; simp only [List.map_append,List.map_cons,List.mem_append,List.mem_cons]
    constructor
    ·rintro (h | h)
     ·exact .inl h
     ·exact .inr (.inr h)
    ·rintro (h | h | h)
     ·exact .inl h
     ·exact absurd h hq
     ·exact .inr h
   have hpn:p.1 ∉ l1.map Prod.fst++l2.map Prod.fst:=fun h5=>by
    rw [hl1,List.map_append,List.map_cons] at hnd
    obtain ⟨_,h6,h7⟩:=List.nodup_append.1 hnd
    rcases List.mem_append.1 h5 with h5 | h5
    ·exact h7 _ h5 _ List.mem_cons_self rfl
    ·exact (List.nodup_cons.1 h6).1 h5
   rw [hY,hX] at hYm
   rw [hX]
   simp only [modG,List.map_append,List.map_cons] at hYm ⊢
   have hlen:(A'.map fun p:List UInt8×GateX=>(p.1,(p.2.line,p.2.park))).length = ((A.map fun p:List UInt8×GateX=>(p.1,(p.2.line,p.2.park))).map (cl (left.map Prod.fst))).length:=by
    have:=congrArg List.length hA1; simpa using this
   obtain ⟨h8,h9⟩:=List.append_inj hYm hlen
   simp only [List.cons.injEq] at h9
   rw [h8,h9.2]
   congr 1
   ·refine List.map_congr_left fun q hq=>?_
    obtain ⟨q,hq',rfl⟩:=List.mem_map.1 hq
    have hq2:=hmid.1 q hq'
    simp only [cl]
    by_cases h10:q.1 ∈ left.map Prod.fst
    ·rw [if_pos h10,if_pos ((hne _ hq2).2 h10)]
    ·rw [if_neg h10,if_neg fun h11=>h10 ((hne _ hq2).1 h11)]
   ·congr 1
    ·simp only [cl]
     rw [if_neg hpn,hgm2.1,hgm2.2]
    ·refine List.map_congr_left fun q hq=>?_
     obtain ⟨q,hq',rfl⟩:=List.mem_map.1 hq
     have hq2:=hmid.2 q hq'
     simp only [cl]
     by_cases h10:q.1 ∈ left.map Prod.fst
     ·rw [if_pos h10,if_pos ((hne _ hq2).2 h10)]
     ·rw [if_neg h10,if_neg fun h11=>h10 ((hne _ hq2).1 h11)]
  ·rw [hl1,List.map_append,List.map_cons] at hnd
   rw [List.map_append]
   obtain ⟨h5,h6,h7⟩:=List.nodup_append.1 hnd
   exact List.nodup_append.2 ⟨h5,(List.nodup_cons.1 h6).2,fun a ha b hb=>h7 a ha b (List.mem_cons_of_mem _ hb)⟩
theorem zRo {N:Nat} {Q:K} (hN:gsz M N) (hNl:N ≤ 1000000) (h:HG B (LocksR l (leaveM tag (M,dm)).1 (leaveM tag (M,dm)).2::Γ) Q) :
  HG B (LocksR l M dm::Γ) (zAq.call (some ⟨l,0,none⟩) (tagF tag).toArray Q):=fun w hw=>zHh _ _ _ _ (zL3 hN hNl h w hw)
def readyG (tag:TagM) (p:List Claim×List Claim):Bool:=!hasT tag p.2 && !decide (0 < idxI (p.1.findIdx? fun c=>decide (c.1 = tag)))
def readyM (tag:TagM) (M:GM):Bool:=M.all fun p=>readyG tag p.2
theorem zRp {N:Nat} {Q:Bool→K} (hN:gsz M N) (hNl:N ≤ 1000000) (h:HG B (LocksR l M dm::Γ) (Q (readyM tag M))):HG B (LocksR l M dm::Γ) (zAy.call (some ⟨l,0,none⟩) (tagF tag).toArray Q):=by
 refine fun w hw=>zHg _ _ _ _ ?_
 refine hg hw ?_
 clear hw w
 refine zI9 fun gm db X D hf=>?_
 have hsz:∀ p ∈ X,p.2.line.length ≤ N∧p.2.park.length ≤ N:=fun p hp=>hN.2 (p.1,(p.2.line,p.2.park)) (by rw [← hf.mod]; exact List.mem_map.2 ⟨p,hp,rfl⟩)
 have hrm:readyM tag M = X.all fun p=>readyG tag (p.2.line,p.2.park):=by unfold readyM; rw [← hf.mod]; simp [modG,Function.comp_def]
 unfold zAy
 refine s_new fun t3=>?_
 repeat refine s_nx ?_
 refine zOp mapFL fun r=>?_
 refine s_loop (α:=Unit) (ι:=GX×Option (List UInt8×GateX)) (fun _ i=>(∀ p ∈ X,p ∈ i.1∨readyG tag (p.2.line,p.2.park) = true))
  (fun _ i=>MapIt strV gV gm r X i.1 i.2::Sep.stars (X.map gB)::blk t3 (.cells (tagF tag).toArray zBP (0,0))::blk l (.cells [.map (some gm),.map (some db)].toArray zCY (0,0))::MapR (kyS tagF) (Value.int .i64) db D::Γ)
  (fun _ i=>i.1.length) (X,none) (fun p hp=>.inl hp) ?_ |> fun h=>s_end h
 rintro k' _ ⟨left,cur⟩ hJ hk'
 simp only at hJ hk' ⊢
 unfold zAy.b1
 refine s_next (r:=r) (fun hl0=>?_) fun l1 p l2 hl1 hp=>?_
 ·repeat refine s_nx ?_
  subst hl0
  have e:readyM tag M = true:=by
   rw [hrm,List.all_eq_true]
   intro p hp
   rcases hJ p hp with h1 | h1
   ·cases h1
   ·exact h1
  rw [e] at h
  refine s_own db ?_
  refine s_pick (Sep.stars (X.map gB)) ?_
  refine s_own gm ?_
  refine s_own l ?_
  exact zE5 hf (s_end h)
 ·obtain ⟨A,C,hX⟩:=List.append_of_mem hp
  have hps:=hsz p hp
  repeat refine s_nx ?_
  refine zOq (r:=r) (q:=p) ?_
  refine s_nx ?_
  have bad:readyG tag (p.2.line,p.2.park) = false→HG B (MapIt strV gV gm r X (l1++l2) (some p)::Sep.stars (X.map gB)::blk t3 (.cells (tagF tag).toArray zBP (0,0))::blk l (.cells [.map (some gm),.map (some db)].toArray zCY (0,0))::MapR (kyS tagF) (Value.int .i64) db D::Γ) (Q false):=fun hb=>by
   have e:readyM tag M = false:=by
    rw [hrm,List.all_eq_false]
    exact ⟨p,hp,by simp [hb]⟩
   rw [e] at h
   refine zS0 (r:=r) ?_
   refine s_own db ?_
   refine s_pick (Sep.stars (X.map gB)) ?_
   refine s_own gm ?_
   refine s_own l ?_
   exact zE5 hf (s_end h)
  refine s_pick (Sep.stars (X.map gB)) ?_
  refine zOw (key:=p.1) (g:=p.2) hX ?_
  have back:∀ (b:Bool),readyG tag (p.2.line,p.2.park) = !b→HG B (gL p.2 (Sep.stars ((A++C).map gB)::MapIt strV gV gm r X (l1++l2) (some p)::blk t3 (.cells (tagF tag).toArray zBP (0,0))::blk l (.cells [.map (some gm),.map (some db)].toArray zCY (0,0))::MapR (kyS tagF) (Value.int .i64) db D::Γ)) (zAy.s2 Q (k' ()) ⟨t3,0,none⟩ (some ⟨r,0,none⟩) b):=fun b hb=>by
   refine zL2 (key:=p.1) ?_
   rw [show A++(p.1,p.2)::C = X from hX.symm]
   unfold zAy.s2
   refine s_ite (fun h2=>?_) fun h2=>?_
   ·exact s_end (bad (by rw [hb,h2]; rfl))
   ·refine s_end (hk' () (l1++l2,some p) (fun q hq=>?_) (by rw [hl1]; simp))
    rcases hJ q hq with h3 | h3
    ·rw [hl1] at h3
     rcases List.mem_append.1 h3 with h3 | h3
     ·exact .inl (List.mem_append_left _ h3)
     ·rcases List.mem_cons.1 h3 with rfl | h3
      ·exact .inr (by rw [hb,h2]; rfl)
      ·exact .inl (List.mem_append_right _ h3)
    ·exact .inr h3
  repeat refine s_nx ?_
  refine zE6 fun b1=>?_
  repeat refine s_nx ?_
  refine containsC (tag:=tag) (L:=p.2.park) (by omega) ?_
  repeat refine s_nx ?_
  refine s_ite (fun h2=>?_) fun h2=>?_
  ·exact s_end (back true (by unfold readyG; rw [h2]; rfl))
  repeat refine s_nx ?_
  refine zE6 fun b2=>?_
  repeat refine s_nx ?_
  refine indexC (tag:=tag) (L:=p.2.line) (by omega) ?_
  exact s_end (back _ (by unfold readyG; rw [h2]; rfl))
end
end Go.Proofs.YtdemfamgieonbaaGreat
namespace Go.Proofs.YtdemfamgieonbaaGreat
open Go Go.Sep Go.Sep.Bt
set_option maxRecDepth 100000
section
variable {B:World} {Γ Δ:List HProp} {k:K} {l gm db st n:Nat} {M:GM} {dm:DM} {X:GX} {D:List (TagM×Int)} {S:Recs} {tag:TagM}
def clLook (r:Rec) (c:Claim):Int:=lookS r.cnt c.2.cnt r.home c.2.home
def doomL (r:Rec) (L:List Claim) (dm:DM):DM:=L.foldl (fun d c=>if clLook r c ≠ 0 then dset d c.1 true else d) dm
def mvP (r:Rec) (_:List Claim×DM) (c:Claim):Bool:=decide (clLook r c ≠ 1)
def mvS (r:Rec) (x:List Claim×DM) (c:Claim):List Claim×DM:=if clLook r c = 0 then (x.1++[c],x.2) else if clLook r c = 2 then (x.1,dset x.2 c.1 true) else x
def movedM (n:Nat) (S:Recs) (key:List UInt8) (x:GM×DM):GM×DM :=
 (mset key ((delG (mvP (sGet n S (bs key))) (mvS (sGet n S (bs key))) ((atM key x.1).1,doomL (sGet n S (bs key)) (atM key x.1).1 x.2) (atM key x.1).2).1.1,(delG (mvP (sGet n S (bs key))) (mvS (sGet n S (bs key))) ((atM key x.1).1,doomL (sGet n S (bs key)) (atM key x.1).1 x.2) (atM key x.1).2).2) (gateM key x.1),
  (delG (mvP (sGet n S (bs key))) (mvS (sGet n S (bs key))) ((atM key x.1).1,doomL (sGet n S (bs key)) (atM key x.1).1 x.2) (atM key x.1).2).1.2)
theorem s_wsX {ι:Type} {k:(World→Prop)→K} (Γ0:ι→List HProp) (i:ι) (h:HG B Γ (k fun w=>∃ i,Holds B (Γ0 i) w)) [d:Drops Γ (Γ0 i)]:HG B Γ (WithS k):=fun w hw=>⟨_,⟨i,hw.drops⟩,h w hw⟩
theorem s_ldSX {ι:Type} {Γ0:ι→List HProp} {α:Type} {a:Addr} {c:α→Value} {x:α} {k:α→K} (h0:∀ i w,Holds B (Γ0 i) w→w.cell? a = some (c x)) (h:HG B Γ (k x)):HG B Γ (LdS (fun w=>∃ i,Holds B (Γ0 i) w) a c k):=fun w hw=>⟨x,fun w ⟨i,hi⟩=>h0 i w hi,h w hw⟩
theorem s_svX {ι:Type} {Γ0:ι→List HProp} (i:ι) (h:HG B Γ k) [d:Drops Γ (Γ0 i)]:HG B Γ (Sv (fun w=>∃ i,Holds B (Γ0 i) w) k):=fun w hw=>⟨⟨i,hw.drops⟩,h w hw⟩
abbrev doomB (db:Nat) (d:DM):HProp:=ex fun D:List (TagM×Int)=>Sep.stars [pur ((∀ t,d t = decide (0 < (mget t D).getD 0))∧(D.map Prod.fst).Nodup),MapR (kyS tagF) (Value.int .i64) db D]
theorem zLL {d:DM} (h:∀ D,(∀ t,d t = decide (0 < (mget t D).getD 0))→(D.map Prod.fst).Nodup→HG B (MapR (kyS tagF) (Value.int .i64) db D::Γ) k):HG B (doomB db d::Γ) k :=
 s_ex fun D=>s_flat <| s_pur fun ⟨h1,h2⟩=>h D h1 h2
theorem zJs {d:DM} {D:List (TagM×Int)} (h1:∀ t,d t = decide (0 < (mget t D).getD 0)) (h2:(D.map Prod.fst).Nodup) (h:HG B (doomB db d::Γ) k):HG B (MapR (kyS tagF) (Value.int .i64) db D::Γ) k:=fun w hw=>by
 refine h w ?_
 have h3:Holds B (Sep.stars [pur ((∀ t,d t = decide (0 < (mget t D).getD 0))∧(D.map Prod.fst).Nodup),MapR (kyS tagF) (Value.int .i64) db D]::Γ) w:=Holds.flat.2 (Holds.pur.2 ⟨⟨h1,h2⟩,hw⟩)
 exact h3.imp fun g hg=>⟨D,hg⟩
abbrev lineB (gb:Nat) (ps:Sl) (L:List Claim):HProp:=ex fun ls:Sl=>Sep.stars [blk gb (.cells [ls.val,ps.val].toArray zC7 (0,0)),SlC zBB 7 ls (L.flatMap clF)]
theorem zOx {gb:Nat} {ps:Sl} {L:List Claim} (h:∀ ls,HG B (blk gb (.cells [ls.val,ps.val].toArray zC7 (0,0))::SlC zBB 7 ls (L.flatMap clF)::Γ) k):HG B (lineB gb ps L::Γ) k :=
 s_ex fun ls=>s_flat (h ls)
theorem zNZ {gb:Nat} {ls ps:Sl} {L:List Claim} (h:HG B (lineB gb ps L::Γ) k):HG B (blk gb (.cells [ls.val,ps.val].toArray zC7 (0,0))::SlC zBB 7 ls (L.flatMap clF)::Γ) k :=
 zEs (Δ:=[blk gb (.cells [ls.val,ps.val].toArray zC7 (0,0)),SlC zBB 7 ls (L.flatMap clF)]) (s_toEx (F:=fun ls:Sl=>Sep.stars [blk gb (.cells [ls.val,ps.val].toArray zC7 (0,0)),SlC zBB 7 ls (L.flatMap clF)]) ls h)
theorem zLM (r:Rec) (x:List Claim×DM) (c:Claim):(mvS r x c).1.length ≤ x.1.length + 1:=by
 unfold mvS
 repeat' split
 all_goals simp
theorem zNa (r:Rec):∀ (L:List Claim) (x:List Claim×DM),(delG (mvP r) (mvS r) x L).1.1.length ≤ x.1.length + L.length∧(delG (mvP r) (mvS r) x L).2.length ≤ L.length
 | [],x=>by simp [delG]
 | c::L,x=>by
  rw [zE2]
  have h1:=zNa r L (mvS r x c)
  have h2:=zLM r x c
  refine ⟨by simp only [List.length_cons]; omega,?_⟩
  simp only
  split
  ·simp; omega
  ·simp; exact h1.2
theorem zS2 {s:Sl} {fv:Value} {Q:Sl→K} (h:HG B Γ (delFN Tryz.prog zAL.call zBB zGF 0 7 [(.int .i64 0),(.int .u64 0),(.int .u64 0),(.int .i64 0),(.string ⟨#[]⟩),(.int .i64 0),(.int .u64 0)] s fv Q)):HG B Γ (zAC.call s fv Q):=fun w hw =>
 zCe _ _ _ _ (h w hw)
theorem zRq {key:List UInt8} {N:Nat} {Q:K} (hk:key.length < 1000000000) (hN:gsz M N) (hNl:N ≤ 1000000) (h:HG B (LocksR l (movedM n S key (M,dm)).1 (movedM n S key (M,dm)).2::StoreR st n S::Γ) Q) :
  HG B (LocksR l M dm::StoreR st n S::Γ) (zA5.call (some ⟨l,0,none⟩) (some ⟨st,0,none⟩) (bs key) Q):=by
 refine fun w hw=>zHi _ _ _ _ _ ?_
 refine hg hw ?_
 clear hw w
 unfold zA5
 refine s_new fun l3=>?_
 repeat refine s_nx ?_
 refine s_own l ?_
 refine zOu fun gm db X D A g C hf hX=>?_
 have hat:=lf_at hX hf
 rw [zLK] at hat
 have hz:=gsz_at (k:=key) hN
 rw [hat] at hz
 simp only at hz
 refine s_own st ?_
 refine zC8 (k:=bs key) (by show key.length < _; omega) fun s hok=>?_
 have hmv:movedM n S key (M,dm) = movedM n S key (M,dm):=rfl
 conv at hmv=>rhs; unfold movedM
 simp only [hat] at hmv
 rw [hmv] at h
 generalize sGet n S (bs key) = r at *
 refine s_new fun g6=>?_
 refine s_new fun r7=>?_
 repeat refine s_nx ?_
 have hcl:∀ c:Claim,lookS r.cnt c.2.cnt r.home c.2.home = clLook r c:=fun c=>rfl
 refine s_cap g.ls fun a1 a2 a3 a4=>?_
 refine s_cap g.ps fun b1 b2 b3 b4=>?_
 rw [zAT _ 7 zE3] at a1 b1
 refine s_own db ?_
 refine zJs (d:=doomL r (g.line.take 0) dm) hf.doom hf.nd ?_
 refine s_loop (α:=Int) (ι:=Nat) (fun x i=>x = (i:Int)∧i ≤ g.line.length)
  (fun x i=>doomB db (doomL r (g.line.take i) dm)::blk r7 (.cells (recL r s).toArray zAv (0,0))::blk g6 (.cells [.pointer (some ⟨g.b,0,none⟩)].toArray zCg (0,0))::blk l3 (.cells [.pointer (some ⟨l,0,none⟩)].toArray zEx (0,0))::StoreR st n S::gL g (blk l (.cells [.map (some gm),.map (some db)].toArray zCY (0,0))::MapR strV gV gm X::Sep.stars ((A++C).map gB)::Γ)) (fun x i=>g.line.length - i) 0 ⟨rfl,Nat.zero_le _⟩ ?_ |> fun h=>s_end h
 rintro k' _ i ⟨rfl,hi⟩ hk'
 unfold zA5.b1
 refine s_ite (fun hb=>?_) fun hb=>?_
 ·have hil:i < g.line.length:=by simp only [decide_eq_true_eq] at hb; omega
  have hge:g.line[i]? = some g.line[i]:=List.getElem?_eq_getElem hil
  have htk:g.line.take (i + 1) = g.line.take i++[g.line[i]]:=List.take_succ_eq_append_getElem hil
  generalize g.line[i] = c at hge htk
  have hdm:doomL r (g.line.take (i + 1)) dm = if clLook r c ≠ 0 then dset (doomL r (g.line.take i) dm) c.1 true else doomL r (g.line.take i) dm:=by
   rw [htk]; unfold doomL; rw [List.foldl_append]; rfl
  refine s_idxN clF zE3 (fun w hw=>(own_rd (s:=g.ls) hw).1) hge ?_
  refine s_new fun c9=>?_
  repeat refine s_nx ?_
  refine lookHg ?_
  rw [hcl]
  unfold zA5.s2
  have h5:=hk' ((i:Int) + 1) (i + 1) ⟨by simp,hil⟩ (by omega)
  rw [hdm] at h5
  refine s_ite (fun h0=>?_) fun h0=>?_
  ·rw [if_pos (by simpa using h0)] at h5
   refine s_pick (doomB db (doomL r (g.line.take i) dm)) ?_
   refine zLL fun D1 hd1 hd2=>?_
   repeat refine s_nx ?_
   refine s_updS (b:=db) (cel:=tagF) (a:=c.1) (v:=1) zD2 rfl ?_ mapFD
   refine zJs (zJr hd1) (nd_set hd2) ?_
   refine s_ai ?_
   exact s_end h5
  ·rw [if_neg (by simpa using h0)] at h5
   refine s_ai ?_
   exact s_end h5
 have hil:i = g.line.length:=by simp only [decide_eq_false_iff_not] at hb; omega
 rw [hil,List.take_length]
 clear hk' hb hi hil
 have hlen:=zNa r g.park (g.line,doomL r g.line dm)
 refine s_dr ?_
 refine s_wsX (fun ls:Sl=>[blk g6 (.cells [.pointer (some ⟨g.b,0,none⟩)].toArray zCg (0,0)),blk g.b (.cells [ls.val,g.ps.val].toArray zC7 (0,0))]) g.ls ?_
 refine s_ldSX (x:=some ⟨g.b,0,none⟩) (fun ls w hw=>zBf (zDT (b:=g6) hw) rfl) ?_
 refine s_ldSX (x:=some ⟨g.b,0,none⟩) (fun ls w hw=>zBf (zDT (b:=g6) hw) rfl) ?_
 refine s_nn ?_
 refine s_ldSX (x:=g.ps) (fun ls w hw=>?_) ?_
 ·rw [add_mk]
  exact zBf (zDT (b:=g.b) hw) rfl
 refine s_ownS g.ls ?_
 refine s_own g.b ?_
 refine zNZ ?_
 refine zS2 ?_
 refine s_own l3 ?_
 refine s_own g6 ?_
 refine s_own r7 ?_
 refine s_pick (doomB db (doomL r g.line dm)) ?_
 refine s_pick (lineB g.b g.ps g.line) ?_
 refine s_ownS g.ps ?_
 refine s_end (Δ:=SlC zBB 7 g.ps (g.park.flatMap clF)::lineB g.b g.ps g.line::doomB db (doomL r g.line dm)::blk r7 (.cells (recL r s).toArray zAv (0,0))::blk g6 (.cells [.pointer (some ⟨g.b,0,none⟩)].toArray zCg (0,0))::blk l3 (.cells [.pointer (some ⟨l,0,none⟩)].toArray zEx (0,0))::blk l (.cells [.map (some gm),.map (some db)].toArray zCY (0,0))::StoreR st n S::MapR strV gV gm X::Sep.stars ((A++C).map gB)::Γ) ?_
 refine zOs (γ:=List Claim×DM) (R:=fun x=>lineB g.b g.ps x.1::doomB db x.2::blk r7 (.cells (recL r s).toArray zAv (0,0))::blk g6 (.cells [.pointer (some ⟨g.b,0,none⟩)].toArray zCg (0,0))::blk l3 (.cells [.pointer (some ⟨l,0,none⟩)].toArray zEx (0,0))::blk l (.cells [.map (some gm),.map (some db)].toArray zCY (0,0))::StoreR st n S::MapR strV gV gm X::Sep.stars ((A++C).map gB)::Γ)
  (L:=g.park) (f:=clF) (mvP r) (mvS r) (g.line,doomL r g.line dm) (fun x C=>x.1.length + C.length ≤ 2000000) (by simp only; omega) (fun x c C h=>by have:=zLM r x c; simp only [List.length_cons] at h; omega) (fun s fv Q w h=>zBr _ _ _ _ h) zE3 (by omega) (fun _=>rfl) rfl (by omega) (fun Ξ x c C2 q hc hIx hq=>?_) (fun ps' _=>?_)
 ·refine zEt (cs:=[.pointer (some ⟨r7,0,none⟩),.pointer (some ⟨g6,0,none⟩),.pointer (some ⟨l3,0,none⟩)]) ?_
  refine fun w hw=>zGl _ _ _ _ _ _ ?_
  refine hg hw ?_
  clear hw w
  unfold zBC
  refine s_new fun c4=>?_
  repeat refine s_nx ?_
  refine lookHg ?_
  rw [hcl]
  have e1:mvP r x c = decide (clLook r c ≠ 1):=rfl
  rw [e1] at hq
  refine s_ite (fun h0=>?_) fun h0=>?_
  ·have h0':clLook r c = 0:=by simpa using h0
   rw [show mvS r x c = (x.1++[c],x.2) by unfold mvS; rw [if_pos h0']] at hq
   refine s_pick (lineB g.b g.ps x.1) ?_
   refine zOx fun ls=>?_
   refine s_cap ls fun d1 d2 d3 d4=>?_
   rw [zAT _ 7 zE3] at d1
   refine s_dr ?_
   refine s_wsD [blk g.b (.cells [ls.val,g.ps.val].toArray zC7 (0,0)),blk g6 (.cells [.pointer (some ⟨g.b,0,none⟩)].toArray zCg (0,0)),blk c4 (.cells (clF c).toArray zBB (0,0))] ?_
   repeat refine s_nx ?_
   refine s_new fun t=>?_
   repeat refine s_nx ?_
   refine zBT (s:=ls) (esz:=7) (us:=clF c) (blk_rd rfl) (by intro v hv; exact clF_fl [c] v (by simpa using hv)) (by simp only; omega) fun ls' _=>?_
   rw [show x.1.flatMap clF++clF c = (x.1++[c]).flatMap clF by simp only [List.flatMap_append,List.flatMap_cons,List.flatMap_nil,List.append_nil]]
   repeat refine s_nx ?_
   refine s_ownS ls' ?_
   refine s_own g.b ?_
   refine zNZ ?_
   unfold zBC.s1
   exact s_end hq
  ·have h0':¬ clLook r c = 0:=by simpa using h0
   refine s_ite (fun h2=>?_) fun h2=>?_
   ·have h2':clLook r c = 2:=by simpa using h2
    rw [show mvS r x c = (x.1,dset x.2 c.1 true) by unfold mvS; rw [if_neg h0',if_pos h2']] at hq
    refine s_pick (doomB db x.2) ?_
    refine zLL fun D1 hd1 hd2=>?_
    repeat refine s_nx ?_
    refine s_updS (b:=db) (cel:=tagF) (a:=c.1) (v:=1) zD2 rfl ?_ mapFD
    refine zJs (zJr hd1) (nd_set hd2) ?_
    unfold zBC.s1
    exact s_end hq
   ·have h2':¬ clLook r c = 2:=by simpa using h2
    rw [show mvS r x c = x by unfold mvS; rw [if_neg h0',if_neg h2']] at hq
    unfold zBC.s1
    exact s_end hq
 ·generalize (delG (mvP r) (mvS r) (g.line,doomL r g.line dm) g.park) = y at *
  obtain ⟨⟨y1,y2⟩,y3⟩:=y
  simp only at h hlen ⊢
  refine s_pick (lineB g.b g.ps y1) ?_
  refine zOx fun ls'=>?_
  refine s_svX ls' ?_
  refine s_nn ?_
  repeat refine s_nx ?_
  refine s_pick (doomB db y2) ?_
  refine zLL fun D1 hd1 hd2=>?_
  refine s_end (Δ:=gL ⟨g.b,ls',ps',y1,y3⟩ (lockF l gm db X (A++C) D1 (StoreR st n S::Γ))) ?_
  exact zNY hX rfl hf ⟨hd1,hd2⟩ h
end
end Go.Proofs.YtdemfamgieonbaaGreat
namespace Go.Proofs.YtdemfamgieonbaaGreat
open Go Go.Sep Go.Sep.Bt
set_option maxRecDepth 100000
theorem gs_at {M:GM} {k:List UInt8} {T:Nat} (h:∀ p ∈ M,p.2.1.length + p.2.2.length ≤ T):(atM k M).1.length + (atM k M).2.length ≤ T:=by
 unfold atM
 rcases mfind k M with ⟨h1,_⟩ | ⟨j,v,_,h0,_,h1,_⟩
 ·rw [h1]; simp
 ·rw [h1]; exact h _ (List.mem_of_getElem? h0)
theorem zOy {M:GM} {k:List UInt8} {T:Nat} (h:∀ p ∈ M,p.2.1.length + p.2.2.length ≤ T):∀ p ∈ gateM k M,p.2.1.length + p.2.2.length ≤ T:=fun p hp=>by
 unfold gateM at hp
 split at hp
 ·rcases List.mem_append.1 hp with hp | hp
  ·exact h p hp
  ·rw [List.mem_singleton.1 hp]; simp
 ·exact h p hp
theorem gs_set {M:GM} {k:List UInt8} {v:List Claim×List Claim} {T:Nat} (h:∀ p ∈ M,p.2.1.length + p.2.2.length ≤ T) (hv:v.1.length + v.2.length ≤ T):∀ p ∈ mset k v M,p.2.1.length + p.2.2.length ≤ T:=fun p hp=>by
 rcases zJp hp with rfl | hp
 ·exact hv
 ·exact h p hp
theorem zNb {M:GM} {k:List UInt8}:(gateM k M).length ≤ M.length + 1:=by
 unfold gateM
 split <;> simp
theorem gs_up {M:GM} {T T':Nat} (h:∀ p ∈ M,p.2.1.length + p.2.2.length ≤ T) (ht:T ≤ T'):∀ p ∈ M,p.2.1.length + p.2.2.length ≤ T':=fun p hp=>Nat.le_trans (h p hp) ht
theorem zRr {n:Nat} {S:Recs} {tag:TagM} {x:GM×DM} {m:MarkM} {T:Nat} (hl:x.1.length ≤ T) (h:∀ p ∈ x.1,p.2.1.length + p.2.2.length ≤ T):(enter1 n S tag x m).1.length ≤ T + 1∧∀ p ∈ (enter1 n S tag x m).1,p.2.1.length + p.2.2.length ≤ T + 1:=by
 have g1:(gateM m.key x.1).length ≤ T + 1:=Nat.le_trans zNb (by omega)
 have g2:=gs_up (zOy (k:=m.key) h) (Nat.le_succ T)
 have g3:=gs_at (k:=m.key) h
 unfold enter1
 split
 ·exact ⟨g1,g2⟩
 split
 ·exact ⟨by rw [zGa zE4]; exact g1,gs_set g2 (by simp only [List.length_append,List.length_cons,List.length_nil]; omega)⟩
 split
 ·exact ⟨by rw [zGa zE4]; exact g1,gs_set g2 (by simp only [List.length_append,List.length_cons,List.length_nil]; omega)⟩
 ·exact ⟨g1,g2⟩
theorem zL4 {n:Nat} {S:Recs} {tag:TagM}:∀ (L:List MarkM) {x:GM×DM} {T:Nat},x.1.length ≤ T→(∀ p ∈ x.1,p.2.1.length + p.2.2.length ≤ T)→(enterM n S tag L x).1.length ≤ T + L.length∧∀ p ∈ (enterM n S tag L x).1,p.2.1.length + p.2.2.length ≤ T + L.length
 | [],x,T,h1,h2=>⟨h1,h2⟩
 | m::L,x,T,h1,h2=>by
  obtain ⟨a1,a2⟩:=zRr (n:=n) (S:=S) (tag:=tag) (m:=m) h1 h2
  obtain ⟨b1,b2⟩:=zL4 (n:=n) (S:=S) (tag:=tag) L a1 a2
  rw [List.length_cons]
  exact ⟨by show (enterM n S tag L (enter1 n S tag x m)).1.length ≤ _; omega,gs_up (T:=T + 1 + L.length) b2 (by omega)⟩
theorem zNc (r:Rec):∀ (L:List Claim) (x:List Claim×DM),(delG (mvP r) (mvS r) x L).1.1.length + (delG (mvP r) (mvS r) x L).2.length ≤ x.1.length + L.length
 | [],x=>by simp [delG]
 | c::L,x=>by
  rw [zE2]
  have h1:=zNc r L (mvS r x c)
  simp only [List.length_cons]
  by_cases h0:clLook r c = 1
  ·rw [show mvP r x c = false by simp [mvP,h0]]
   rw [show mvS r x c = x by simp [mvS,h0]] at h1 ⊢
   simp only [Bool.false_eq_true,if_false,List.length_cons]
   omega
  ·rw [show mvP r x c = true by simp [mvP,h0]]
   have h2:=zLM r x c
   simp only [if_true]
   omega
theorem zRs {n:Nat} {S:Recs} {key:List UInt8} {x:GM×DM} {T:Nat} (hl:x.1.length ≤ T) (h:∀ p ∈ x.1,p.2.1.length + p.2.2.length ≤ T):(movedM n S key x).1.length ≤ T + 1∧∀ p ∈ (movedM n S key x).1,p.2.1.length + p.2.2.length ≤ T:=by
 have g1:(gateM key x.1).length ≤ T + 1:=Nat.le_trans zNb (by omega)
 have g3:=gs_at (k:=key) h
 unfold movedM
 refine ⟨by simp only; rw [zGa zE4]; exact g1,gs_set (zOy h) ?_⟩
 have:=zNc (sGet n S (bs key)) (atM key x.1).2 ((atM key x.1).1,doomL (sGet n S (bs key)) (atM key x.1).1 x.2)
 simp only at this ⊢
 omega
theorem zRt {tag:TagM} {x:GM×DM} {T:Nat} (hl:x.1.length ≤ T) (h:∀ p ∈ x.1,p.2.1.length + p.2.2.length ≤ T):(leaveM tag x).1.length ≤ T∧∀ p ∈ (leaveM tag x).1,p.2.1.length + p.2.2.length ≤ T:=by
 refine ⟨by simpa [leaveM] using hl,fun p hp=>?_⟩
 obtain ⟨q,hq,rfl⟩:=List.mem_map.1 hp
 have h1:=h q hq
 have h2:(noT tag q.2.1).length ≤ q.2.1.length:=List.length_filter_le _ _
 have h3:(noT tag q.2.2).length ≤ q.2.2.length:=List.length_filter_le _ _
 simp only
 omega
end Go.Proofs.YtdemfamgieonbaaGreat
namespace Go.Proofs.YtdemfamgieonbaaGreat
open Go Go.Sep
structure OpM where
 kind:Int
 key:List UInt8
 val:List UInt8
 n:Int
deriving DecidableEq
abbrev OpX:=OpM×Sl
abbrev opF (x:OpX):List Value:=[.int .i64 x.1.kind,strV x.1.key,x.2.val,.int .i64 x.1.n]
theorem zDF (x:OpX):(opF x).length = 4:=rfl
structure TxX where
 kind:Int
 reads:List (List UInt8)
 writes:List (List UInt8)
 ops:List OpX
 to:Int
 rs:Sl
 ws:Sl
 os:Sl
abbrev txL (t:TxX):List Value:=[.int .i64 t.kind,t.rs.val,t.ws.val,t.os.val,.int .i64 t.to]
def txRd (w:World) (t:TxX):Prop:=RdC w t.rs 1 (t.reads.map strV)∧RdC w t.ws 1 (t.writes.map strV)∧RdC w t.os 4 (t.ops.flatMap opF)∧∀ x ∈ t.ops,RdB w x.2 x.1.val
end Go.Proofs.YtdemfamgieonbaaGreat
namespace Go.Proofs.YtdemfamgieonbaaGreat
open Go Go.Sep
abbrev OX:=List ((Bool×List UInt8)×Sl)
def oF (x:(Bool×List UInt8)×Sl):List Value:=[.bool x.1.1,x.2.val]
theorem oF_len (x:(Bool×List UInt8)×Sl):(oF x).length = 2:=rfl
abbrev oB (x:(Bool×List UInt8)×Sl):HProp:=Bytes zAe x.2 x.1.2
end Go.Proofs.YtdemfamgieonbaaGreat
namespace Go.Proofs.YtdemfamgieonbaaGreat
open Go Go.Sep
set_option maxRecDepth 100000
theorem mapFR:mapIs Tryz.prog zCO .string zAv:=⟨9,by kernel_rfl,by kernel_rfl⟩
section
variable {B w:World} {Γ:List HProp} {β:Type} {cV:β→Value}
theorem zHj {mb t1:Nat} {m:List (List UInt8×β)} {k:Sl→K} (hm:m.length ≤ 1000000) (h:Holds B (blk t1 (.cells #[.map (some mb)] zCO (0,0))::MapR strV cV mb m::Γ) w)
  (hk:∀ s ss w,ss.Perm (m.map Prod.fst)→Holds B (SlS s ss::MapR strV cV mb m::Γ) w→k s w):zCL.call (.func (.func 228) #[] #[.pointer (some ⟨t1,0,none⟩)]) k w:=by
 refine zGI _ _ _ ?_
 unfold zCL
 refine zEi _ _ _ _ ?_
 unfold zBk
 refine r_new h ?_
 clear h
 intro s2 w h
 try simp only [add_mk,Nat.zero_add,Nat.reduceAdd]
 refine zRF h rfl (by kernel_rfl) fun D l r w hr1 hr2 h hy=>?_
 refine zMv (zDN (yv l) ⟨t1,0,none⟩ (fun w3=>∃ Δ,Holds B (blk l (.loop r)::Δ) w3∧∀ w,Holds B Δ w→(Ld ⟨s2,0,none⟩ Sl.val fun t12=>TakeD D (k t12)) w) w ?_) fun v w h=>h.2
 unfold zAY
 refine r_ld (x:=(some mb)) h rfl (by first | with_reducible exact M0 | with_reducible exact M1 | with_reducible exact M2 | with_reducible exact M3 | with_reducible exact M4 | with_reducible exact M5 | with_reducible exact M6 | with_reducible exact M7 | with_reducible exact M8 | with_reducible exact M9 | with_reducible exact M10 | with_reducible exact M11 | with_reducible exact M12) ?_ ?_
 ·exact rfl
 replace h:=P3 h
 replace h:=P3 h
 replace h:=P3 h
 replace h:=P3 h
 replace h:=P4 h
 try simp only [N1,N2,N3,N4,N5,N6,N7] at h
 refine zOk mapFR h fun r2 w h=>?_
 replace h:=h.del 4 at4
 try simp only [N1,N2,N3,N4,N5,N6,N7] at h
 have h0:=(h.nilSl zB1 1)
 refine LoopK.of (fun _ w=>∃ (o:Sl) (ss:List (List UInt8)) (left:List (List UInt8×β)) (cur:Option (List UInt8×β)),(ss++left.map Prod.fst).Perm (m.map Prod.fst) ∧
   Holds B (blk l (.loop r)::blk D (.deferred (some []))::blk s2 (.cells #[o.val] zDG (0,0))::SlS o ss::MapIt strV cV mb r2 m left cur::Γ) w)
  (fun _ w=>itCount r2 m.length w) ⟨⟨none,0,0⟩,[],m,none,List.Perm.refl _,?_⟩ ?_
 ·replace h:=h0
  replace h:=P1 h
  replace h:=P1 h
  replace h:=P4 h
  replace h:=P4 h
  replace h:=P4 h
  try simp only [N1,N2,N3,N4,N5,N6,N7] at h
  exact h
 clear h h0
 rintro _ w ⟨o,ss,left,cur,hperm,h⟩
 have hcnt:=zNR (h.pick 4 at4)
 have hlen:=hperm.length_eq
 simp only [List.length_append,List.length_map] at hlen
 unfold zAY.b1
 replace h:=P3 h
 replace h:=P3 h
 replace h:=P3 h
 replace h:=P3 h
 replace h:=P4 h
 try simp only [N1,N2,N3,N4,N5,N6,N7] at h
 refine r_next h (fun hl0 w h=>?_) (fun l1 p l2 w hl1 hpm h=>?_)
 ·refine ⟨_,false,rfl,rfl,?_⟩
  refine zKx rfl ?_
  replace h:=P4 h
  replace h:=P4 h
  replace h:=P4 h
  replace h:=P4 h
  try simp only [N1,N2,N3,N4,N5,N6,N7] at h
  refine ⟨_,h,fun w h=>?_⟩
  refine r_ld (x:=o) h rfl (by first | with_reducible exact M0 | with_reducible exact M1 | with_reducible exact M2 | with_reducible exact M3 | with_reducible exact M4 | with_reducible exact M5 | with_reducible exact M6 | with_reducible exact M7 | with_reducible exact M8 | with_reducible exact M9 | with_reducible exact M10 | with_reducible exact M11 | with_reducible exact M12) ?_ ?_
  ·exact rfl
  refine zOS h fun w h=>?_
  replace h:=P2 h
  replace h:=P2 h
  replace h:=D2 h
  try simp only [N1,N2,N3,N4,N5,N6,N7] at h
  rw [hl0] at hperm
  simp only [List.map_nil,List.append_nil] at hperm
  exact hk o ss _ hperm h
 ·refine ⟨_,true,rfl,rfl,?_⟩
  refine zOQ rfl ?_
  refine zOl h ?_
  refine ⟨_,bs p.1,rfl,rfl,?_⟩
  replace h:=P4 h
  replace h:=P4 h
  replace h:=P4 h
  replace h:=P4 h
  try simp only [N1,N2,N3,N4,N5,N6,N7] at h
  refine zKL (hy (bs p.1) (fun w=>∃ o',Holds B (blk l (.loop r)::blk D (.deferred (some []))::blk s2 (.cells #[Sl.val o'] zDG (0,0))::SlS o' (ss++[p.1])::MapIt strV cV mb r2 m (l1++l2) (some p)::Γ) w) w _ h fun W h=>?_) fun v w hv=>?_
  ·have hon:ss.length = o.n:=by have:=(h.pick 3 at3).slCap.1; simpa using this
   refine r_ld (x:=o) h rfl (by first | with_reducible exact M0 | with_reducible exact M1 | with_reducible exact M2 | with_reducible exact M3 | with_reducible exact M4 | with_reducible exact M5 | with_reducible exact M6 | with_reducible exact M7 | with_reducible exact M8 | with_reducible exact M9 | with_reducible exact M10 | with_reducible exact M11 | with_reducible exact M12) ?_ ?_
   ·exact rfl
   refine r_new h ?_
   clear h
   intro t10 w h
   try simp only [add_mk,Nat.zero_add,Nat.reduceAdd]
   refine zJe (us:=[strV p.1]) (h.pick 4 at4) (by kernel_rfl) (by kernel_rfl) (by':=16) (by kernel_rfl) zK9 rfl (RdC.of_blk (E:=zB1) (b:=t10) (n:=1) (vs:=[strV p.1]) (cs:=#[strV p.1]) h List.mem_cons_self rfl rfl 1) (by simp [flatV]) (by simp only; omega) (by decide) fun o' w h _ _=>?_
   try simp only [N1,N2,N3,N4,N5,N6,N7] at h
   first | refine S0 h rfl ?_ rfl ?_ | refine S1 h rfl ?_ rfl ?_ | refine S2 h rfl ?_ rfl ?_ | refine S3 h rfl ?_ rfl ?_ | refine S4 h rfl ?_ rfl ?_ | refine S5 h rfl ?_ rfl ?_ | refine S6 h rfl ?_ rfl ?_ | refine S7 h rfl ?_ rfl ?_ | refine S8 h rfl ?_ rfl ?_
   ·first | exact Nat.lt_of_ble_eq_true rfl | (simp; done) | (simp; omega)
   clear h
   intro w h
   try simp only [N1,N2,N3,N4,N5,N6,N7] at h
   replace h:=P5 h
   replace h:=P1 h
   replace h:=P5 h
   replace h:=P5 h
   replace h:=P5 h
   replace h:=D5 h
   try simp only [N1,N2,N3,N4,N5,N6,N7] at h
   refine r_endR h fun w h=>?_
   have e:({ ({ r with state:=.busy }:Loop) with state:=.ready,pending:=none }:Loop) = r:=by
    cases r
    simp only at hr1 hr2
    simp only [hr1,hr2]
   rw [e] at h
   refine ⟨o',?_⟩
   have e2:ss.map strV++[strV p.1] = (ss++[p.1]).map strV:=by simp
   rw [e2] at h
   exact h
  ·obtain ⟨rfl,o',h⟩:=hv
   refine ⟨true,rfl,?_⟩
   refine zKx rfl ?_
   have hcnt2:=zNR (h.pick 4 at4)
   refine ⟨⟨o',_,_,_,?_,h⟩,?_⟩
   ·refine List.Perm.trans ?_ hperm
    rw [hl1]
    simp only [List.map_append,List.map_cons,List.append_assoc]
    refine List.Perm.append_left _ ?_
    show (p.1::(l1.map Prod.fst++l2.map Prod.fst)).Perm _
    exact List.perm_middle.symm
   ·rw [hcnt,hcnt2,hl1]
    simp
theorem zJP {mb:Nat} {m:List (List UInt8×β)} {k:Sl→K} (hm:m.length ≤ 1000000) (h:Holds B (MapR strV cV mb m::Γ) w)
  (hk:∀ s w,Holds B (SlS s (sortL (m.map Prod.fst))::MapR strV cV mb m::Γ) w→k s w) :
  zAn.call (some mb) (fun t7=>zCa.call t7 k) w:=by
 refine zDR _ _ _ ?_
 unfold zAn
 refine r_new h ?_
 clear h
 intro m1 w h
 try simp only [add_mk,Nat.zero_add,Nat.reduceAdd]
 refine zGM _ _ _ ?_
 unfold zCa
 refine zHj hm h fun s ss w hp h=>?_
 have hl:=hp.length_eq
 rw [List.length_map] at hl
 refine zGJ (by omega) h fun w h=>?_
 rw [zPU hp] at h
 exact hk _ _ h
end
end Go.Proofs.YtdemfamgieonbaaGreat
namespace Go.Proofs.YtdemfamgieonbaaGreat
open Go Go.Sep
set_option maxRecDepth 100000
section
variable {B w:World} {Γ:List HProp}
theorem r_byte {s:Sl} {xs:List UInt8} {j:Nat} {x:UInt8} {k:Int→K} (hr:RdB w s xs) (hx:xs[j]? = some x) (hk:k (x.toNat:Int) w):Idx s (j:Int) 1 (fun t=>Ld t (Value.int .u8) k) w:=by
 have e:xs.map byteV = (xs.map fun b=>(b.toNat:Int)).map (Value.int .u8):=by rw [List.map_map]; rfl
 have hr2:RdC w s 1 ((xs.map fun b=>(b.toNat:Int)).map (Value.int .u8)):=by rw [← e]; exact hr
 exact r_idx1 hr2 (by rw [List.getElem?_map,hx]; rfl) hk
theorem zQQ {b n:Nat} {cs:Array Value} {xs:List UInt8} (hc:cs.toList = xs.map byteV) (hn:xs.length = n) (h:Holds B (blk b (.cells cs zAe (0,0))::Γ) w):Holds B (Bytes zAe ⟨some ⟨b,0,none⟩,n,n⟩ xs::Γ) w :=
 h.imp (zEU hc (by simp [hn]))
theorem Bytes.len {s:Sl} {xs:List UInt8} (h:Holds B (Bytes zAe s xs::Γ) w):xs.length = s.n:=by have:=h.slCap.1; simpa using this
theorem Bytes.rd {s:Sl} {xs:List UInt8} (h:Holds B Γ w) (hm:Bytes zAe s xs ∈ Γ):RdB w s xs:=h.rdC (E:=zAe) hm
end
end Go.Proofs.YtdemfamgieonbaaGreat
namespace Go.Proofs.YtdemfamgieonbaaGreat
open Go Go.Sep
set_option maxRecDepth 100000
set_option maxHeartbeats 4000000
attribute [local irreducible] G Gp Cx Tx Ex Sx Dx Ox Ax Lx Rx Fx Bx Bj Al Do Ld LdN St StN New CallF Ar DoU Rd Rd2 Pu Cd Ite Fv CallV CallY Ans0 Ans1 Ans2 Ans3 Ans4 Ans5 Ext Dead Dr WithS Sv LdS LdNS RdS Rd2S Nn Idx IdxA IdxS Fld Bld Slc SlcS Cat All LoopK RangeF RangeJ TakeD
namespace F_IREval
instance at_123:AT Tryz.prog 123 4:=⟨by kernel_rfl⟩
instance at_173:AT Tryz.prog 173 5:=⟨by kernel_rfl⟩
instance at_25:AT Tryz.prog 25 5:=⟨by kernel_rfl⟩
instance at_51:AT Tryz.prog 51 2:=⟨by kernel_rfl⟩
instance at_87:AT Tryz.prog 87 4:=⟨by kernel_rfl⟩
instance cb_108:CB Tryz.prog 108:=⟨by kernel_rfl⟩
instance cb_110:CB Tryz.prog 110:=⟨by kernel_rfl⟩
instance cb_193:CB Tryz.prog 193:=⟨by kernel_rfl⟩
instance cb_194:CB Tryz.prog 194:=⟨by kernel_rfl⟩
instance cb_195:CB Tryz.prog 195:=⟨by kernel_rfl⟩
instance cb_196:CB Tryz.prog 196:=⟨by kernel_rfl⟩
instance cb_197:CB Tryz.prog 197:=⟨by kernel_rfl⟩
instance cb_198:CB Tryz.prog 198:=⟨by kernel_rfl⟩
instance cb_199:CB Tryz.prog 199:=⟨by kernel_rfl⟩
instance cb_223:CB Tryz.prog 223:=⟨by kernel_rfl⟩
instance cb_224:CB Tryz.prog 224:=⟨by kernel_rfl⟩
instance cb_225:CB Tryz.prog 225:=⟨by kernel_rfl⟩
instance cb_226:CB Tryz.prog 226:=⟨by kernel_rfl⟩
instance cb_239:CB Tryz.prog 239:=⟨by kernel_rfl⟩
instance cb_240:CB Tryz.prog 240:=⟨by kernel_rfl⟩
instance ct_127:CT Tryz.prog 127:=⟨by kernel_rfl⟩
instance ct_2:CT Tryz.prog 2:=⟨by kernel_rfl⟩
instance ct_22:CT Tryz.prog 22:=⟨by kernel_rfl⟩
instance ct_23:CT Tryz.prog 23:=⟨by kernel_rfl⟩
instance ct_3:CT Tryz.prog 3:=⟨by kernel_rfl⟩
instance ct_319:CT Tryz.prog 319:=⟨by kernel_rfl⟩
instance ct_33:CT Tryz.prog 33:=⟨by kernel_rfl⟩
instance ct_4:CT Tryz.prog 4:=⟨by kernel_rfl⟩
instance ct_49:CT Tryz.prog 49:=⟨by kernel_rfl⟩
instance ct_5:CT Tryz.prog 5:=⟨by kernel_rfl⟩
instance ct_85:CT Tryz.prog 85:=⟨by kernel_rfl⟩
instance ct_9:CT Tryz.prog 9:=⟨by kernel_rfl⟩
instance zUp:FC Tryz.prog 87 3 3:=⟨by kernel_rfl⟩
instance zHk:FT Tryz.prog 123 0 0 1:=⟨by kernel_rfl⟩
instance zHl:FT Tryz.prog 123 1 1 1:=⟨by kernel_rfl⟩
instance zHm:FT Tryz.prog 123 2 2 1:=⟨by kernel_rfl⟩
instance zHn:FT Tryz.prog 123 3 3 1:=⟨by kernel_rfl⟩
instance zNd:FT Tryz.prog 173 0 0 1:=⟨by kernel_rfl⟩
instance zNe:FT Tryz.prog 173 1 1 4:=⟨by kernel_rfl⟩
instance zFb:FT Tryz.prog 25 0 0 1:=⟨by kernel_rfl⟩
instance zG7:FT Tryz.prog 25 2 2 1:=⟨by kernel_rfl⟩
instance zJA:FT Tryz.prog 25 3 3 1:=⟨by kernel_rfl⟩
instance zJB:FT Tryz.prog 25 4 4 1:=⟨by kernel_rfl⟩
instance zUL:FT Tryz.prog 321 0 0 1:=⟨by kernel_rfl⟩
instance zUM:FT Tryz.prog 321 1 1 1:=⟨by kernel_rfl⟩
instance zUN:FT Tryz.prog 321 2 2 1:=⟨by kernel_rfl⟩
instance zLB:FT Tryz.prog 87 0 0 1:=⟨by kernel_rfl⟩
instance zLC:FT Tryz.prog 87 1 1 1:=⟨by kernel_rfl⟩
instance zLD:FT Tryz.prog 87 2 2 1:=⟨by kernel_rfl⟩
instance zLE:FT Tryz.prog 87 3 3 1:=⟨by kernel_rfl⟩
instance in_2:INT Tryz.prog 2 .i64:=⟨by kernel_rfl⟩
instance in_33:INT Tryz.prog 33 .u64:=⟨by kernel_rfl⟩
instance in_5:INT Tryz.prog 5 .u8:=⟨by kernel_rfl⟩
instance mx:MX Tryz.prog:=⟨mixed⟩
instance pl_173:PLT Tryz.prog 173 [(0,1),(1,4)]:=⟨_,Tryz.underlying173,by kernel_rfl⟩
instance pl_180:PLT Tryz.prog 180 [(0,1),(1,1)]:=⟨_,Tryz.underlying180,by kernel_rfl⟩
instance pl_321:PLT Tryz.prog 321 [(0,1),(1,1),(2,1)]:=⟨_,Tryz.underlying321,by kernel_rfl⟩
instance pl_51:PLT Tryz.prog 51 [(0,1),(1,1)]:=⟨_,Tryz.underlying51,by kernel_rfl⟩
instance sl_22:SLT Tryz.prog 22 9 1:=⟨by kernel_rfl⟩
instance sl_23:SLT Tryz.prog 23 123 4:=⟨by kernel_rfl⟩
instance sl_49:SLT Tryz.prog 49 180 2:=⟨by kernel_rfl⟩
instance sl_56:SLT Tryz.prog 56 173 5:=⟨by kernel_rfl⟩
instance sl_85:SLT Tryz.prog 85 5 1:=⟨by kernel_rfl⟩
instance sz_123:SZ Tryz.prog 123 4:=⟨by kernel_rfl⟩
instance sz_173:SZ Tryz.prog 173 5:=⟨by kernel_rfl⟩
instance sz_3:SZ Tryz.prog 3 1:=⟨by kernel_rfl⟩
instance sz_33:SZ Tryz.prog 33 1:=⟨by kernel_rfl⟩
instance sz_4:SZ Tryz.prog 4 1:=⟨by kernel_rfl⟩
instance sz_49:SZ Tryz.prog 49 1:=⟨by kernel_rfl⟩
instance sz_5:SZ Tryz.prog 5 1:=⟨by kernel_rfl⟩
instance sz_51:SZ Tryz.prog 51 2:=⟨by kernel_rfl⟩
instance sz_85:SZ Tryz.prog 85 1:=⟨by kernel_rfl⟩
instance sz_87:SZ Tryz.prog 87 4:=⟨by kernel_rfl⟩
instance zt_123:ZT Tryz.prog 123 (.agg #[(.int .i64 0),(.string ⟨#[]⟩),(Sl.val ⟨none,0,0⟩),(.int .i64 0)]):=⟨Tryz.t123,by kernel_rfl,by kernel_rfl⟩
instance zt_173:ZT Tryz.prog 173 (.agg #[(.string ⟨#[]⟩),(.bool false),(Sl.val ⟨none,0,0⟩),(.int .i64 0),(.int .u64 0)]):=⟨Tryz.t173,by kernel_rfl,by kernel_rfl⟩
instance zt_180:ZT Tryz.prog 180 (.agg #[(.bool false),(Sl.val ⟨none,0,0⟩)]):=⟨Tryz.t180,by kernel_rfl,by kernel_rfl⟩
instance zt_321:ZT Tryz.prog 321 (.agg #[(.pointer none),(.map none),(Sl.val ⟨none,0,0⟩)]):=⟨Tryz.t321,by kernel_rfl,by kernel_rfl⟩
instance zt_51:ZT Tryz.prog 51 (.agg #[(.int .i64 0),(Sl.val ⟨none,0,0⟩)]):=⟨Tryz.t51,by kernel_rfl,by kernel_rfl⟩
instance zt_87:ZT Tryz.prog 87 (.agg #[(.bool false),(Sl.val ⟨none,0,0⟩),(.int .i64 0),(.int .u64 0)]):=⟨Tryz.t87,by kernel_rfl,by kernel_rfl⟩
end F_IREval
def zBd.b2 (Q:(Array Value)→Sl→K)  (X2:Sl→Int→K) (t4_2:Addr) (r6_2:Addr) (t45_2:Sl) (t46_2:Int) (rows10_2:Sl) (t47_2:Int):K :=
 Ite (decide (t47_2 < t46_2))
  (Idx t45_2 t47_2 1 fun t49 =>
  Ld t49 Value.string fun t50 =>
  Ld (r6_2.add 1) Value.map fun t56 =>
  Rd Tryz.prog (Instr.lookup 319 (.map t56) (.string t50) false) Value.agg fun t58 =>
  Bld #[(.string ⟨#[]⟩),(.bool false),(Sl.val ⟨none,0,0⟩),(.int .i64 0),(.int .u64 0)] ([(0,1),(1,4)][·]?) [(0,(.string t50)),(1,(.agg t58))] fun t59 =>
  Bld #[(.string ⟨#[]⟩),(.bool false),(Sl.val ⟨none,0,0⟩),(.int .i64 0),(.int .u64 0)] (fun i=>some (i * 5,5)) [(0,(.agg t59))] fun ct60 =>
  New 173 ct60 fun t60 =>
  Do Tryz.prog (Builtin.append_ #[56,56] 56 #[(Sl.val rows10_2),(Sl.val (Sl.mk (some t60) 1 1))]) Sl.val fun t61 =>
  Ar (IntKind.wrap .i64 (t47_2 + 1)) fun t62 =>
  X2 t61 t62)
  (Ld (r6_2.add 2) Sl.val fun t66 =>
  StN t4_2 2 #[(.int .i64 0),(Sl.val t66)] <|
  LdN t4_2 2 fun r0 =>
  Q r0 rows10_2)
def zBd.s1 (Q:(Array Value)→Sl→K)  (t4_1:Addr) (r6_1:Addr) (code7_1:Int):K :=
 Ite (decide (code7_1 ≠ 0))
  (StN t4_1 2 #[(.int .i64 code7_1),(Sl.val ⟨none,0,0⟩)] <|
  LdN t4_1 2 fun r0 =>
  Q r0 (Sl.mk none 0 0))
  (Ld (r6_1.add 1) Value.map fun t43 =>
  zAn.call t43 fun t44 =>
  zCa.call t44 fun t45 =>
  LoopK (α:=Sl×Int) (fun X x=>zBd.b2 Q (fun rows10_2 t47_2=>X (rows10_2,t47_2)) t4_1 r6_1 t45 (t45.n:Int) x.1 x.2) ((Sl.mk none 0 0),0))
def zBd.b3 (Q:(Array Value)→Sl→K)  (X3:Int→Int→K) (t4_3:Addr) (r6_3:Addr) (t24_3:Sl) (t25_3:Int) (code7_3:Int) (t26_3:Int):K :=
 Ite (decide (t26_3 < t25_3))
  (Idx t24_3 t26_3 4 fun t28 =>
  LdN t28 4 fun t29 =>
  New 123 #[(.int .i64 0),(.string ⟨#[]⟩),(Sl.val ⟨none,0,0⟩),(.int .i64 0)] fun o9 =>
  StN o9 4 t29 <|
  LdN o9 4 fun t31 =>
  zAf.call (some r6_3) t31 fun t32 =>
  Ite (decide (t32 ≠ 0))
   (zBd.s1 Q t4_3 r6_3 t32)
   (Ar (IntKind.wrap .i64 (t26_3 + 1)) fun t35 =>
   X3 t32 t35))
  (zBd.s1 Q t4_3 r6_3 code7_3)
def zBd (s0:(Option Addr)) (t1:(Array Value)) (Q:(Array Value)→Sl→K):K :=
 New 25 t1 fun t3 =>
 New 51 #[(.int .i64 0),(Sl.val ⟨none,0,0⟩)] fun t4 =>
 Do Tryz.prog (Instr.makeMap 319 none) Value.map fun t14 =>
 New 321 #[(.pointer s0),(.map t14),(Sl.val ⟨none,0,0⟩)] fun t16 =>
 Ld t3 (Value.int .i64) fun t18 =>
 Ite (decide (t18 = 2))
  (LdN t3 5 fun t21 =>
  zCV.call (some t16) t21 fun t22 =>
  zBd.s1 Q t4 t16 t22)
  (Ld (t3.add 3) Sl.val fun t24 =>
  LoopK (α:=Int×Int) (fun X x=>zBd.b3 Q (fun code7_3 t26_3=>X (code7_3,t26_3)) t4 t16 t24 (t24.n:Int) x.1 x.2) (0,0))
theorem zOC (s0:(Option Addr)) (t1:(Array Value)) (Q:(Array Value)→Sl→K) (w:World) (h:zBd s0 t1 Q w):zBd.call s0 t1 Q w:=by
 have hL14:∀ (t4_2:Addr) (r6_2:Addr) (t45_2:Sl) (t46_2:Int),LH 14 (fun x:Sl×Int=>[(4,(.pointer (some t4_2))),(6,(.pointer (some r6_2))),(10,(Sl.val x.1)),(45,(Sl.val t45_2)),(46,(.int .i64 t46_2)),(47,(.int .i64 x.2))]) (fun X x=>zBd.b2 Q (fun rows10_2 t47_2=>X (rows10_2,t47_2)) t4_2 r6_2 t45_2 t46_2 x.1 x.2):=by intros; exact ⟨⟩
 have hJ10:JH 10 fun D=>∃ (t4_1:Addr) (r6_1:Addr),D [(4,(.pointer (some t4_1))),(6,(.pointer (some r6_1)))] (fun C=>∀ (code7_1:Int),C [(4,(.pointer (some t4_1))),(6,(.pointer (some r6_1))),(7,(.int .i64 code7_1))] (zBd.s1 Q t4_1 r6_1 code7_1)):=by intros; exact ⟨fun _ ⟨_,_,h⟩=>⟨_,_,h⟩⟩
 have hL5:∀ (t4_3:Addr) (r6_3:Addr) (t24_3:Sl) (t25_3:Int),LH 5 (fun x:Int×Int=>[(4,(.pointer (some t4_3))),(6,(.pointer (some r6_3))),(7,(.int .i64 x.1)),(24,(Sl.val t24_3)),(25,(.int .i64 t25_3)),(26,(.int .i64 x.2))]) (fun X x=>zBd.b3 Q (fun code7_3 t26_3=>X (code7_3,t26_3)) t4_3 r6_3 t24_3 t25_3 x.1 x.2):=by intros; exact ⟨⟩
 exact g_walk 69 h Tryz.func157
def zBI.s2 (Q:K) (X1:Int→K) (s0_2:(Option Addr)) (t6_2:Sl) (t7_2:Int) (t8_2:Int):K :=
 Ar (IntKind.wrap .i64 (t8_2 + 1)) fun t42 =>
 X1 t42
def zBI.s3 (Q:K) (X1:Int→K) (s0_3:(Option Addr)) (w5_3:Addr) (t6_3:Sl) (t7_3:Int) (t8_3:Int):K :=
 Ld (w5_3.add 1) Value.bool fun t30 =>
 Ite t30
  (Ld w5_3 Value.string fun t33 =>
  Ld ((w5_3.add 1).add 1) Sl.val fun t36 =>
  zDP.call s0_3 t33 t36 <|
  zBI.s2 Q X1 s0_3 t6_3 t7_3 t8_3)
  (Ld w5_3 Value.string fun t40 =>
  zCq.call s0_3 t40 <|
  zBI.s2 Q X1 s0_3 t6_3 t7_3 t8_3)
def zBI.b1 (Q:K)  (X1:Int→K) (s0_1:(Option Addr)) (t6_1:Sl) (t7_1:Int) (t8_1:Int):K :=
 Ite (decide (t8_1 < t7_1))
  (Idx t6_1 t8_1 5 fun t10 =>
  LdN t10 5 fun t11 =>
  New 173 #[(.string ⟨#[]⟩),(.bool false),(Sl.val ⟨none,0,0⟩),(.int .i64 0),(.int .u64 0)] fun w5 =>
  StN w5 5 t11 <|
  Dr <| WithS fun S =>
  LdS S w5 Value.string fun t14 =>
  LdS S ((w5.add 1).add 3) (Value.int .u64) fun t19 =>
  zAt.call s0_1 t14 fun t15 =>
  Sv S <|
  Fld t15 3 (Value.int .u64) fun t16 =>
  Ite (decide (t16 ≠ t19))
   (Ld w5 Value.string fun t23 =>
   Ld ((w5.add 1).add 2) (Value.int .i64) fun t26 =>
   zBN.call s0_1 t23 t26 fun t27 =>
   zBI.s3 Q X1 s0_1 w5 t6_1 t7_1 t8_1)
   (zBI.s3 Q X1 s0_1 w5 t6_1 t7_1 t8_1))
  (Q)
def zBI (s0:(Option Addr)) (writes1:Sl) (Q:K):K :=
 LoopK (α:=Int) (fun X x=>zBI.b1 Q X s0 writes1 (writes1.n:Int) x) 0
theorem zMb (s0:(Option Addr)) (writes1:Sl) (Q:K) (w:World) (h:zBI s0 writes1 Q w):zBI.call s0 writes1 Q w:=by
 have hJ8:∀ (X1:Int→K),XH 1 X1→JH 8 fun D=>∃ (s0_2:(Option Addr)) (t6_2:Sl) (t7_2:Int) (t8_2:Int),D [(0,(.pointer s0_2)),(6,(Sl.val t6_2)),(7,(.int .i64 t7_2)),(8,(.int .i64 t8_2))] (fun C=>C [(0,(.pointer s0_2)),(6,(Sl.val t6_2)),(7,(.int .i64 t7_2)),(8,(.int .i64 t8_2))] (zBI.s2 Q X1 s0_2 t6_2 t7_2 t8_2)):=by intros; exact ⟨fun _ ⟨_,_,_,_,h⟩=>⟨_,_,h⟩⟩
 have hJ5:∀ (X1:Int→K),XH 1 X1→JH 5 fun D=>∃ (s0_3:(Option Addr)) (w5_3:Addr) (t6_3:Sl) (t7_3:Int) (t8_3:Int),D [(0,(.pointer s0_3)),(5,(.pointer (some w5_3))),(6,(Sl.val t6_3)),(7,(.int .i64 t7_3)),(8,(.int .i64 t8_3))] (fun C=>C [(0,(.pointer s0_3)),(5,(.pointer (some w5_3))),(6,(Sl.val t6_3)),(7,(.int .i64 t7_3)),(8,(.int .i64 t8_3))] (zBI.s3 Q X1 s0_3 w5_3 t6_3 t7_3 t8_3)):=by intros; exact ⟨fun _ ⟨_,_,_,_,_,h⟩=>⟨_,_,h⟩⟩
 have hD3:DH 3 2 [] (.s [0,1,5,6,2,7] (.a [(3,1,.s [4,8] .e)])):=by intros; exact ⟨⟩
 have hL1:∀ (s0_1:(Option Addr)) (t6_1:Sl) (t7_1:Int),LH 1 (fun x:Int=>[(0,(.pointer s0_1)),(6,(Sl.val t6_1)),(7,(.int .i64 t7_1)),(8,(.int .i64 x))]) (fun X x=>zBI.b1 Q X s0_1 t6_1 t7_1 x):=by intros; exact ⟨⟩
 exact g_walk 43 h Tryz.func158
def zCV.b1 (Q:Int→K)  (X1:Int→K) (r0_1:(Option Addr)) (t3_1:Addr) (t9_1:Sl) (t10_1:Int) (t11_1:Int):K :=
 Ite (decide (t11_1 < t10_1))
  (Idx t9_1 t11_1 1 fun t13 =>
  Ld t13 Value.string fun t14 =>
  zCw.call r0_1 t14 fun t17 =>
  New 87 #[(.bool false),(Sl.val ⟨none,0,0⟩),(.int .i64 0),(.int .u64 0)] fun x7 =>
  StN x7 4 t17 <|
  Ld (x7.add 3) (Value.int .u64) fun t19 =>
  Ite (decide (t19 = 18446744073709551615))
   (Q 111)
   (Ld (t3_1.add 4) (Value.int .i64) fun t22 =>
   St (x7.add 2) (.int .i64 t22) <|
   Ld (x7.add 3) (Value.int .u64) fun t25 =>
   Ar (IntKind.wrap .u64 (t25 + 1)) fun t26 =>
   St (x7.add 3) (.int .u64 t26) <|
   Dr <|
   Nn r0_1 fun t29 =>
   Ld (t29.add 1) Value.map fun t31 =>
   LdN x7 4 fun t33 =>
   DoU Tryz.prog (Instr.mapUpdate 319 (.map t31) (.string t14) (.agg t33)) <|
   Ar (IntKind.wrap .i64 (t11_1 + 1)) fun t34 =>
   X1 t34))
  (Q 0)
def zCV (r0:(Option Addr)) (t1:(Array Value)) (Q:Int→K):K :=
 New 25 t1 fun t3 =>
 Ld (t3.add 2) Sl.val fun t9 =>
 LoopK (α:=Int) (fun X x=>zCV.b1 Q X r0 t3 t9 (t9.n:Int) x) 0
theorem zJt (r0:(Option Addr)) (t1:(Array Value)) (Q:Int→K) (w:World) (h:zCV r0 t1 Q w):zCV.call r0 t1 Q w:=by
 have hD9:DH 9 1 [6] (.s [0,1,2,4,3,5] (.a [(6,0,.e)])):=by intros; exact ⟨⟩
 have hL2:∀ (r0_1:(Option Addr)) (t3_1:Addr) (t9_1:Sl) (t10_1:Int),LH 2 (fun x:Int=>[(0,(.pointer r0_1)),(3,(.pointer (some t3_1))),(9,(Sl.val t9_1)),(10,(.int .i64 t10_1)),(11,(.int .i64 x))]) (fun X x=>zCV.b1 Q X r0_1 t3_1 t9_1 t10_1 x):=by intros; exact ⟨⟩
 exact g_walk 35 h Tryz.func193
def zAf.s1 (Q:Int→K)  :K :=
 Q 0
def zAf.s2 (Q:Int→K)  (t70_2:Bool):K :=
 Ite t70_2
  (Q 110)
  (zAf.s1 Q)
def zAf (r0:(Option Addr)) (o1:(Array Value)) (Q:Int→K):K :=
 New 123 o1 fun o3 =>
 Ld (o3.add 1) Value.string fun t8 =>
 zCw.call r0 t8 fun t9 =>
 New 87 #[(.bool false),(Sl.val ⟨none,0,0⟩),(.int .i64 0),(.int .u64 0)] fun x5 =>
 StN x5 4 t9 <|
 Ld o3 (Value.int .i64) fun t11 =>
 Ite (decide (t11 = 1))
  (Dr <| WithS fun S =>
  Nn r0 fun t16 =>
  LdS S (t16.add 2) Sl.val fun t18 =>
  LdS S x5 Value.bool fun t20 =>
  LdS S (x5.add 1) Sl.val fun t22 =>
  zBZ.call t22 fun t23 =>
  Sv S <|
  Bld #[(.bool false),(Sl.val ⟨none,0,0⟩)] (fun i=>some (i * 2,2)) [(0,(.agg #[(.bool t20),(Sl.val t23)]))] fun ct25 =>
  New 180 ct25 fun t25 =>
  Sv S <|
  Do Tryz.prog (Builtin.append_ #[49,49] 49 #[(Sl.val t18),(Sl.val (Sl.mk (some t25) 1 1))]) Sl.val fun t26 =>
  St (t16.add 2) (Sl.val t26) <|
  zAf.s1 Q)
  (Ite (decide (t11 = 7))
   (Dr <| WithS fun S =>
   Nn r0 fun t33 =>
   LdS S (t33.add 2) Sl.val fun t35 =>
   LdS S (o3.add 2) Sl.val fun t37 =>
   zBZ.call t37 fun t38 =>
   Sv S <|
   Bld #[(.bool false),(Sl.val ⟨none,0,0⟩)] (fun i=>some (i * 2,2)) [(0,(.agg #[(.bool true),(Sl.val t38)]))] fun ct40 =>
   New 180 ct40 fun t40 =>
   Sv S <|
   Do Tryz.prog (Builtin.append_ #[49,49] 49 #[(Sl.val t35),(Sl.val (Sl.mk (some t40) 1 1))]) Sl.val fun t41 =>
   St (t33.add 2) (Sl.val t41) <|
   zAf.s1 Q)
   (Ite (decide (t11 = 2))
    (Ld (o3.add 1) Value.string fun t48 =>
    Ld (o3.add 2) Sl.val fun t50 =>
    zCk.call r0 t48 true t50 <|
    zAf.s1 Q)
    (Ite (decide (t11 = 3))
     (Ld (o3.add 1) Value.string fun t56 =>
     zCk.call r0 t56 false (Sl.mk none 0 0) <|
     zAf.s1 Q)
     (Ite (decide (t11 = 4))
      (Ld x5 Value.bool fun t61 =>
      Ite (!t61)
       (zAf.s2 Q true)
       (Ld (x5.add 1) Sl.val fun t65 =>
       Ld (o3.add 2) Sl.val fun t67 =>
       bytes_Equal.call t65 t67 fun t68 =>
       zAf.s2 Q (!t68)))
      (Ite (decide (t11 = 5))
       (Ld x5 Value.bool fun t74 =>
       Ite t74
        (Q 110)
        (zAf.s1 Q))
       (Ite (decide (t11 = 6))
        (LdN o3 4 fun t78 =>
        zAu.call r0 t78 fun t79 =>
        Q t79)
        (zAf.s1 Q)))))))
theorem zJu (r0:(Option Addr)) (o1:(Array Value)) (Q:Int→K) (w:World) (h:zAf r0 o1 Q w):zAf.call r0 o1 Q w:=by
 have hJ19:JH 19 fun D=>D [] (fun C=>C [] (zAf.s1 Q)):=by intros; exact ⟨fun _ h=>⟨_,_,h⟩⟩
 have hD4:DH 4 2 [12,15] (.s [0,1,2,3,5,7,4,6,8] (.a [(9,1,.s [10] (.a [(11,1,.a [(12,0,.s [13,14] (.a [(15,0,.e)]))])]))])):=by intros; exact ⟨⟩
 have hD6:DH 6 2 [10,13] (.s [0,1,2,3,5,4,6] (.a [(7,1,.s [8] (.a [(9,1,.a [(10,0,.s [11,12] (.a [(13,0,.e)]))])]))])):=by intros; exact ⟨⟩
 have hJ13:JH 13 fun D=>D [] (fun C=>∀ (t70_2:Bool),C [(70,(.bool t70_2))] (zAf.s2 Q t70_2)):=by intros; exact ⟨fun _ h=>⟨_,_,h⟩⟩
 exact g_walk 80 h Tryz.func194
def zCw (r0:(Option Addr)) (key1:ByteArray) (Q:(Array Value)→K):K :=
 New 87 #[(.bool false),(Sl.val ⟨none,0,0⟩),(.int .i64 0),(.int .u64 0)] fun t4 =>
 Nn r0 fun t9 =>
 Ld (t9.add 1) Value.map fun t11 =>
 Rd2 Tryz.prog (Instr.lookup 319 (.map t11) (.string key1) true) (fun x y=>.tuple #[Value.agg x,.bool y]) fun t13v t13ok =>
 New 87 #[(.bool false),(Sl.val ⟨none,0,0⟩),(.int .i64 0),(.int .u64 0)] fun x5 =>
 StN x5 4 t13v <|
 Ite t13ok
  (LdN x5 4 fun t17 =>
  StN t4 4 t17 <|
  LdN t4 4 fun r0 =>
  Q r0)
  (Ld t9 Value.pointer fun t21 =>
  zAt.call t21 key1 fun t23 =>
  StN t4 4 t23 <|
  LdN t4 4 fun r0 =>
  Q r0)
theorem zKV (r0:(Option Addr)) (key1:ByteArray) (Q:(Array Value)→K) (w:World) (h:zCw r0 key1 Q w):zCw.call r0 key1 Q w:=by
 exact g_walk 24 h Tryz.func223
def zCk (r0:(Option Addr)) (key1:ByteArray) (has2:Bool) (value3:Sl) (Q:K):K :=
 zCw.call r0 key1 fun t11 =>
 New 87 #[(.bool false),(Sl.val ⟨none,0,0⟩),(.int .i64 0),(.int .u64 0)] fun x8 =>
 StN x8 4 t11 <|
 zBZ.call value3 fun t14 =>
 St x8 (.bool has2) <|
 St (x8.add 1) (Sl.val t14) <|
 Dr <|
 Nn r0 fun t18 =>
 Ld (t18.add 1) Value.map fun t20 =>
 LdN x8 4 fun t22 =>
 DoU Tryz.prog (Instr.mapUpdate 319 (.map t20) (.string key1) (.agg t22)) <|
 Q
theorem zKW (r0:(Option Addr)) (key1:ByteArray) (has2:Bool) (value3:Sl) (Q:K) (w:World) (h:zCk r0 key1 has2 value3 Q w):zCk.call r0 key1 has2 value3 Q w:=by
 have hD2:DH 2 1 [6] (.s [0,1,2,4,3,5] (.a [(6,0,.e)])):=by intros; exact ⟨⟩
 exact g_walk 23 h Tryz.func224
def zAu.s2 (Q:Int→K)  (r0_2:(Option Addr)) (o3_2:Addr) (n6_2:Int) (t43_2:Bool):K :=
 Ite t43_2
  (Q 111)
  (Dr <| WithS fun S =>
  LdS S (o3_2.add 1) Value.string fun t46 =>
  LdS S (o3_2.add 3) (Value.int .i64) fun t49 =>
  Ar (IntKind.wrap .i64 (n6_2 + t49)) fun t50 =>
  zDI.call t50 fun t51 =>
  Sv S <|
  zCk.call r0_2 t46 true t51 <|
  Q 0)
def zAu.s1 (Q:Int→K)  (r0_1:(Option Addr)) (o3_1:Addr) (n6_1:Int):K :=
 Ld (o3_1.add 3) (Value.int .i64) fun t23 =>
 Ite (decide ((0:Int) < t23))
  (Ld (o3_1.add 3) (Value.int .i64) fun t28 =>
  Ar (IntKind.wrap .i64 (9223372036854775807 - t28)) fun t29 =>
  Ite (decide (t29 < n6_1))
   (zAu.s2 Q r0_1 o3_1 n6_1 true)
   (Ld (o3_1.add 3) (Value.int .i64) fun t34 =>
   Ite (decide (t34 < 0))
    (Ld (o3_1.add 3) (Value.int .i64) fun t39 =>
    Ar (IntKind.wrap .i64 ((-9223372036854775808) - t39)) fun t40 =>
    zAu.s2 Q r0_1 o3_1 n6_1 (decide (n6_1 < t40)))
    (zAu.s2 Q r0_1 o3_1 n6_1 false)))
  (Ld (o3_1.add 3) (Value.int .i64) fun t34 =>
  Ite (decide (t34 < 0))
   (Ld (o3_1.add 3) (Value.int .i64) fun t39 =>
   Ar (IntKind.wrap .i64 ((-9223372036854775808) - t39)) fun t40 =>
   zAu.s2 Q r0_1 o3_1 n6_1 (decide (n6_1 < t40)))
   (zAu.s2 Q r0_1 o3_1 n6_1 false))
def zAu (r0:(Option Addr)) (o1:(Array Value)) (Q:Int→K):K :=
 New 123 o1 fun o3 =>
 Ld (o3.add 1) Value.string fun t10 =>
 zCw.call r0 t10 fun t11 =>
 New 87 #[(.bool false),(Sl.val ⟨none,0,0⟩),(.int .i64 0),(.int .u64 0)] fun x5 =>
 StN x5 4 t11 <|
 Ld x5 Value.bool fun t13 =>
 Ite t13
  (Ld (x5.add 1) Sl.val fun t16 =>
  zCl.call t16 fun t17x0 t17x1 =>
  Ite (!t17x1)
   (Q 110)
   (zAu.s1 Q r0 o3 t17x0))
  (zAu.s1 Q r0 o3 0)
theorem zKX (r0:(Option Addr)) (o1:(Array Value)) (Q:Int→K) (w:World) (h:zAu r0 o1 Q w):zAu.call r0 o1 Q w:=by
 have hD9:DH 9 2 [8] (.s [0,1,3,4,2,5,6] (.a [(7,1,.a [(8,0,.e)])])):=by intros; exact ⟨⟩
 have hJ8:JH 8 fun D=>∃ (r0_2:(Option Addr)) (o3_2:Addr) (n6_2:Int),D [(0,(.pointer r0_2)),(3,(.pointer (some o3_2))),(6,(.int .i64 n6_2))] (fun C=>∀ (t43_2:Bool),C [(0,(.pointer r0_2)),(3,(.pointer (some o3_2))),(6,(.int .i64 n6_2)),(43,(.bool t43_2))] (zAu.s2 Q r0_2 o3_2 n6_2 t43_2)):=by intros; exact ⟨fun _ ⟨_,_,_,h⟩=>⟨_,_,h⟩⟩
 have hJ7:JH 7 fun D=>∃ (r0_1:(Option Addr)) (o3_1:Addr),D [(0,(.pointer r0_1)),(3,(.pointer (some o3_1)))] (fun C=>∀ (n6_1:Int),C [(0,(.pointer r0_1)),(3,(.pointer (some o3_1))),(6,(.int .i64 n6_1))] (zAu.s1 Q r0_1 o3_1 n6_1)):=by intros; exact ⟨fun _ ⟨_,_,h⟩=>⟨_,_,h⟩⟩
 exact g_walk 53 h Tryz.func226
def zCl.b1 (Q:Int→Bool→K)  (X1:Int→Int→K) (t10_1:Sl) (t11_1:Int) (n4_1:Int) (t12_1:Int):K :=
 Ite (decide (t12_1 < t11_1))
  (Idx t10_1 t12_1 1 fun t14 =>
  Ld t14 (Value.int .u8) fun t15 =>
  Cd (0 ≤ (8:Int)) <|
  Ar (shlOf .u64 n4_1 8) fun t17 =>
  Ar (IntKind.wrap .u64 t15) fun t19 =>
  Ar (bitsOf .or .u64 t17 t19) fun t20 =>
  Ar (IntKind.wrap .i64 (t12_1 + 1)) fun t21 =>
  X1 t20 t21)
  (Ar (IntKind.wrap .i64 n4_1) fun t23 =>
  Q t23 true)
def zCl (value0:Sl) (Q:Int→Bool→K):K :=
 Ite (decide ((value0.n:Int) ≠ 8))
  (Q 0 false)
  (LoopK (α:=Int×Int) (fun X x=>zCl.b1 Q (fun n4_1 t12_1=>X (n4_1,t12_1)) value0 (value0.n:Int) x.1 x.2) (0,0))
theorem zLN (value0:Sl) (Q:Int→Bool→K) (w:World) (h:zCl value0 Q w):zCl.call value0 Q w:=by
 have hL5:∀ (t10_1:Sl) (t11_1:Int),LH 5 (fun x:Int×Int=>[(4,(.int .u64 x.1)),(10,(Sl.val t10_1)),(11,(.int .i64 t11_1)),(12,(.int .i64 x.2))]) (fun X x=>zCl.b1 Q (fun n4_1 t12_1=>X (n4_1,t12_1)) t10_1 t11_1 x.1 x.2):=by intros; exact ⟨⟩
 exact g_walk 24 h Tryz.func239
def zDI.b1 (Q:Sl→K)  (X1:Int→K) (n0_1:Int) (out3_1:Sl) (t7_1:Int) (t8_1:Int):K :=
 Ite (decide (t8_1 < t7_1))
  (Ar (IntKind.wrap .i64 (7 - t8_1)) fun t13 =>
  Ar (IntKind.wrap .u64 n0_1) fun t15 =>
  Ar (IntKind.wrap .i64 (8 * t8_1)) fun t17 =>
  Cd (0 ≤ t17) <|
  Ar (shrOf .u64 t15 t17) fun t18 =>
  Ar (IntKind.wrap .u8 t18) fun t19 =>
  Idx out3_1 t13 1 fun t20 =>
  St t20 (.int .u8 t19) <|
  Ar (IntKind.wrap .i64 (t8_1 + 1)) fun t21 =>
  X1 t21)
  (Q out3_1)
def zDI (n0:Int) (Q:Sl→K):K :=
 Do Tryz.prog (Instr.makeSlice 85 (.int .i64 8) (.int .i64 8)) Sl.val fun t5 =>
 LoopK (α:=Int) (fun X x=>zDI.b1 Q X n0 t5 (t5.n:Int) x) 0
theorem zMc (n0:Int) (Q:Sl→K) (w:World) (h:zDI n0 Q w):zDI.call n0 Q w:=by
 have hL3:∀ (n0_1:Int) (out3_1:Sl) (t7_1:Int),LH 3 (fun x:Int=>[(0,(.int .i64 n0_1)),(3,(Sl.val out3_1)),(7,(.int .i64 t7_1)),(8,(.int .i64 x))]) (fun X x=>zDI.b1 Q X n0_1 out3_1 t7_1 x):=by intros; exact ⟨⟩
 exact g_walk 23 h Tryz.func240
end Go.Proofs.YtdemfamgieonbaaGreat
namespace Go.Proofs.YtdemfamgieonbaaGreat
open Go Go.Sep
set_option maxRecDepth 100000
set_option maxHeartbeats 4000000
attribute [local irreducible] G Gp Cx Tx Ex Sx Dx Ox Ax Lx Rx Fx Bx Bj Al Do Ld LdN St StN New CallF Ar DoU Rd Rd2 Pu Cd Ite Fv CallV CallY Ans0 Ans1 Ans2 Ans3 Ans4 Ans5 Ext Dead Dr WithS Sv LdS LdNS RdS Rd2S Nn Idx IdxA IdxS Fld Bld Slc SlcS Cat All LoopK RangeF RangeJ TakeD
namespace F_IRRef07
instance at_123:AT Tryz.prog 123 4:=⟨by kernel_rfl⟩
instance at_51:AT Tryz.prog 51 2:=⟨by kernel_rfl⟩
instance at_87:AT Tryz.prog 87 4:=⟨by kernel_rfl⟩
instance cb_122:CB Tryz.prog 122:=⟨by kernel_rfl⟩
instance cb_123:CB Tryz.prog 123:=⟨by kernel_rfl⟩
instance cb_124:CB Tryz.prog 124:=⟨by kernel_rfl⟩
instance cb_125:CB Tryz.prog 125:=⟨by kernel_rfl⟩
instance cb_126:CB Tryz.prog 126:=⟨by kernel_rfl⟩
instance cb_29:CB Tryz.prog 29:=⟨by kernel_rfl⟩
instance cb_68:CB Tryz.prog 68:=⟨by kernel_rfl⟩
instance cb_71:CB Tryz.prog 71:=⟨by kernel_rfl⟩
instance cb_72:CB Tryz.prog 72:=⟨by kernel_rfl⟩
instance cb_73:CB Tryz.prog 73:=⟨by kernel_rfl⟩
instance cb_74:CB Tryz.prog 74:=⟨by kernel_rfl⟩
instance ct_2:CT Tryz.prog 2:=⟨by kernel_rfl⟩
instance ct_22:CT Tryz.prog 22:=⟨by kernel_rfl⟩
instance ct_23:CT Tryz.prog 23:=⟨by kernel_rfl⟩
instance ct_3:CT Tryz.prog 3:=⟨by kernel_rfl⟩
instance ct_30:CT Tryz.prog 30:=⟨by kernel_rfl⟩
instance ct_4:CT Tryz.prog 4:=⟨by kernel_rfl⟩
instance ct_49:CT Tryz.prog 49:=⟨by kernel_rfl⟩
instance ct_5:CT Tryz.prog 5:=⟨by kernel_rfl⟩
instance ct_85:CT Tryz.prog 85:=⟨by kernel_rfl⟩
instance ct_9:CT Tryz.prog 9:=⟨by kernel_rfl⟩
instance zHk:FT Tryz.prog 123 0 0 1:=⟨by kernel_rfl⟩
instance zHl:FT Tryz.prog 123 1 1 1:=⟨by kernel_rfl⟩
instance zHm:FT Tryz.prog 123 2 2 1:=⟨by kernel_rfl⟩
instance zHn:FT Tryz.prog 123 3 3 1:=⟨by kernel_rfl⟩
instance zNd:FT Tryz.prog 173 0 0 1:=⟨by kernel_rfl⟩
instance zNe:FT Tryz.prog 173 1 1 4:=⟨by kernel_rfl⟩
instance zUO:FT Tryz.prog 180 0 0 1:=⟨by kernel_rfl⟩
instance zUP:FT Tryz.prog 180 1 1 1:=⟨by kernel_rfl⟩
instance zFb:FT Tryz.prog 25 0 0 1:=⟨by kernel_rfl⟩
instance zG7:FT Tryz.prog 25 2 2 1:=⟨by kernel_rfl⟩
instance zJA:FT Tryz.prog 25 3 3 1:=⟨by kernel_rfl⟩
instance zJB:FT Tryz.prog 25 4 4 1:=⟨by kernel_rfl⟩
instance zOz:FT Tryz.prog 51 0 0 1:=⟨by kernel_rfl⟩
instance zUq:FT Tryz.prog 51 1 1 1:=⟨by kernel_rfl⟩
instance zLB:FT Tryz.prog 87 0 0 1:=⟨by kernel_rfl⟩
instance zLC:FT Tryz.prog 87 1 1 1:=⟨by kernel_rfl⟩
instance in_2:INT Tryz.prog 2 .i64:=⟨by kernel_rfl⟩
instance in_33:INT Tryz.prog 33 .u64:=⟨by kernel_rfl⟩
instance in_5:INT Tryz.prog 5 .u8:=⟨by kernel_rfl⟩
instance mx:MX Tryz.prog:=⟨mixed⟩
instance pl_173:PLT Tryz.prog 173 [(0,1),(1,4)]:=⟨_,Tryz.underlying173,by kernel_rfl⟩
instance pl_180:PLT Tryz.prog 180 [(0,1),(1,1)]:=⟨_,Tryz.underlying180,by kernel_rfl⟩
instance pl_25:PLT Tryz.prog 25 [(0,1),(1,1),(2,1),(3,1),(4,1)]:=⟨_,Tryz.underlying25,by kernel_rfl⟩
instance pl_51:PLT Tryz.prog 51 [(0,1),(1,1)]:=⟨_,Tryz.underlying51,by kernel_rfl⟩
instance sl_22:SLT Tryz.prog 22 9 1:=⟨by kernel_rfl⟩
instance sl_23:SLT Tryz.prog 23 123 4:=⟨by kernel_rfl⟩
instance sl_49:SLT Tryz.prog 49 180 2:=⟨by kernel_rfl⟩
instance sl_56:SLT Tryz.prog 56 173 5:=⟨by kernel_rfl⟩
instance sl_85:SLT Tryz.prog 85 5 1:=⟨by kernel_rfl⟩
instance sz_123:SZ Tryz.prog 123 4:=⟨by kernel_rfl⟩
instance sz_5:SZ Tryz.prog 5 1:=⟨by kernel_rfl⟩
instance sz_51:SZ Tryz.prog 51 2:=⟨by kernel_rfl⟩
instance sz_87:SZ Tryz.prog 87 4:=⟨by kernel_rfl⟩
instance un_4:UN Tryz.prog 4 .bool:=⟨Tryz.underlying4⟩
instance zt_123:ZT Tryz.prog 123 (.agg #[(.int .i64 0),(.string ⟨#[]⟩),(Sl.val ⟨none,0,0⟩),(.int .i64 0)]):=⟨Tryz.t123,by kernel_rfl,by kernel_rfl⟩
instance zt_173:ZT Tryz.prog 173 (.agg #[(.string ⟨#[]⟩),(.bool false),(Sl.val ⟨none,0,0⟩),(.int .i64 0),(.int .u64 0)]):=⟨Tryz.t173,by kernel_rfl,by kernel_rfl⟩
instance zt_180:ZT Tryz.prog 180 (.agg #[(.bool false),(Sl.val ⟨none,0,0⟩)]):=⟨Tryz.t180,by kernel_rfl,by kernel_rfl⟩
instance zt_25:ZT Tryz.prog 25 (.agg #[(.int .i64 0),(Sl.val ⟨none,0,0⟩),(Sl.val ⟨none,0,0⟩),(Sl.val ⟨none,0,0⟩),(.int .i64 0)]):=⟨Tryz.t25,by kernel_rfl,by kernel_rfl⟩
instance zt_51:ZT Tryz.prog 51 (.agg #[(.int .i64 0),(Sl.val ⟨none,0,0⟩)]):=⟨Tryz.t51,by kernel_rfl,by kernel_rfl⟩
instance zt_87:ZT Tryz.prog 87 (.agg #[(.bool false),(Sl.val ⟨none,0,0⟩),(.int .i64 0),(.int .u64 0)]):=⟨Tryz.t87,by kernel_rfl,by kernel_rfl⟩
instance zt_9:ZT Tryz.prog 9 (.string ⟨#[]⟩):=⟨Tryz.t9,by kernel_rfl,by kernel_rfl⟩
end F_IRRef07
def zCQ.s1 (Q:(Array Value)→Sl→K)  (t4_1:Addr) (t5_1:Sl):K :=
 LdN t4_1 2 fun r0 =>
 Q r0 t5_1
def zCQ.s3 (Q:(Array Value)→Sl→K) (X2:Sl→Sl→Int→K) (t3_3:Addr) (t4_3:Addr) (c6_3:(Option Addr)) (outs7_3:Sl) (touched8_3:Sl) (i9_3:Int):K :=
 Ar (IntKind.wrap .i64 (i9_3 + 1)) fun t53 =>
 X2 outs7_3 touched8_3 t53
def zCQ.s4 (Q:(Array Value)→Sl→K) (X2:Sl→Sl→Int→K) (t3_4:Addr) (t4_4:Addr) (c6_4:(Option Addr)) (outs7_4:Sl) (touched8_4:Sl) (i9_4:Int) (o10_4:Addr) (t85_4:Bool):K :=
 Ite t85_4
  (Ld (o10_4.add 1) Value.string fun t88 =>
  New 9 #[(.string t88)] fun t89 =>
  Do Tryz.prog (Builtin.append_ #[22,22] 22 #[(Sl.val touched8_4),(Sl.val (Sl.mk (some t89) 1 1))]) Sl.val fun t90 =>
  zCQ.s3 Q X2 t3_4 t4_4 c6_4 outs7_4 t90 i9_4)
  (zCQ.s3 Q X2 t3_4 t4_4 c6_4 outs7_4 touched8_4 i9_4)
def zCQ.b5 (Q:(Array Value)→Sl→K) (X2:Sl→Sl→Int→K) (X5:Sl→Int→K) (t4_5:Addr) (c6_5:(Option Addr)) (outs7_5:Sl) (keys14_5:Sl) (rows13_5:Sl) (i15_5:Int):K :=
 Ite (decide (i15_5 < (keys14_5.n:Int)))
  (Dr <| WithS fun S =>
  Idx keys14_5 i15_5 1 fun t104 =>
  Idx keys14_5 i15_5 1 fun t109 =>
  LdS S t104 Value.string fun t105 =>
  LdS S t109 Value.string fun t110 =>
  zB9.call c6_5 t110 fun t111 =>
  Sv S <|
  Bld #[(.string ⟨#[]⟩),(.bool false),(Sl.val ⟨none,0,0⟩),(.int .i64 0),(.int .u64 0)] ([(0,1),(1,4)][·]?) [(0,(.string t105)),(1,(.agg t111))] fun t112 =>
  Bld #[(.string ⟨#[]⟩),(.bool false),(Sl.val ⟨none,0,0⟩),(.int .i64 0),(.int .u64 0)] (fun i=>some (i * 5,5)) [(0,(.agg t112))] fun ct113 =>
  New 173 ct113 fun t113 =>
  Do Tryz.prog (Builtin.append_ #[56,56] 56 #[(Sl.val rows13_5),(Sl.val (Sl.mk (some t113) 1 1))]) Sl.val fun t114 =>
  Ar (IntKind.wrap .i64 (i15_5 + 1)) fun t100 =>
  X5 t114 t100)
  (StN t4_5 2 #[(.int .i64 0),(Sl.val outs7_5)] <|
  LdN t4_5 2 fun r0 =>
  Q r0 rows13_5)
def zCQ.b2 (Q:(Array Value)→Sl→K)  (X2:Sl→Sl→Int→K) (t3_2:Addr) (t4_2:Addr) (c6_2:(Option Addr)) (outs7_2:Sl) (touched8_2:Sl) (i9_2:Int):K :=
 Ld (t3_2.add 3) Sl.val fun t49 =>
 Ite (decide (i9_2 < (t49.n:Int)))
  (Ld (t3_2.add 3) Sl.val fun t55 =>
  Idx t55 i9_2 4 fun t57 =>
  LdN t57 4 fun t58 =>
  New 123 #[(.int .i64 0),(.string ⟨#[]⟩),(Sl.val ⟨none,0,0⟩),(.int .i64 0)] fun o10 =>
  StN o10 4 t58 <|
  LdN o10 4 fun t61 =>
  zCA.call c6_2 t61 fun t62x0 t62x1 =>
  Ite (decide (t62x1 ≠ 0))
   (New 173 #[] fun t69 =>
   StN t4_2 2 #[(.int .i64 t62x1),(Sl.val ⟨none,0,0⟩)] <|
   LdN t4_2 2 fun r0 =>
   Q r0 (Sl.mk (some t69) 0 0))
   (Do Tryz.prog (Builtin.append_ #[49,49] 49 #[(Sl.val outs7_2),(Sl.val t62x0)]) Sl.val fun t72 =>
   Ld o10 (Value.int .i64) fun t74 =>
   Ite (decide (t74 = 2))
    (zCQ.s4 Q X2 t3_2 t4_2 c6_2 t72 touched8_2 i9_2 o10 true)
    (Ld o10 (Value.int .i64) fun t78 =>
    Ite (decide (t78 = 3))
     (zCQ.s4 Q X2 t3_2 t4_2 c6_2 t72 touched8_2 i9_2 o10 true)
     (Ld o10 (Value.int .i64) fun t83 =>
     zCQ.s4 Q X2 t3_2 t4_2 c6_2 t72 touched8_2 i9_2 o10 (decide (t83 = 6))))))
  (New 173 #[] fun t91 =>
  zCZ.call #[(.int .i64 0),(Sl.val ⟨none,0,0⟩),(Sl.val touched8_2),(Sl.val ⟨none,0,0⟩),(.int .i64 0)] fun t94 =>
  LoopK (α:=Sl×Int) (fun X x=>zCQ.b5 Q X2 (fun rows13_5 i15_5=>X (rows13_5,i15_5)) t4_2 c6_2 outs7_2 t94 x.1 x.2) ((Sl.mk (some t91) 0 0),0))
def zCQ (s0:(Option Addr)) (t1:(Array Value)) (Q:(Array Value)→Sl→K):K :=
 New 25 t1 fun t3 =>
 New 51 #[(.int .i64 0),(Sl.val ⟨none,0,0⟩)] fun t4 =>
 zGG.call s0 fun t17 =>
 New 180 #[] fun t18 =>
 New 9 #[] fun t19 =>
 Ld t3 (Value.int .i64) fun t21 =>
 Ite (decide (t21 = 2))
  (Dr <|
  Ld (t3.add 2) Sl.val fun t25 =>
  Idx t25 0 1 fun t26 =>
  Ld t26 Value.string fun t27 =>
  Ld (t3.add 4) (Value.int .i64) fun t29 =>
  zDV.call t17 t27 t29 fun t30 =>
  Ite (decide (t30 ≠ 0))
   (New 173 #[] fun t33 =>
   StN t4 2 #[(.int .i64 111),(Sl.val ⟨none,0,0⟩)] <|
   LdN t4 2 fun r0 =>
   Q r0 (Sl.mk (some t33) 0 0))
   (Dr <| WithS fun S =>
   LdS S (t3.add 2) Sl.val fun t36 =>
   Idx t36 0 1 fun t37 =>
   LdS S t37 Value.string fun t38 =>
   LdS S (t3.add 2) Sl.val fun t41 =>
   Idx t41 0 1 fun t42 =>
   LdS S t42 Value.string fun t43 =>
   zB9.call t17 t43 fun t44 =>
   Sv S <|
   Bld #[(.string ⟨#[]⟩),(.bool false),(Sl.val ⟨none,0,0⟩),(.int .i64 0),(.int .u64 0)] ([(0,1),(1,4)][·]?) [(0,(.string t38)),(1,(.agg t44))] fun t45 =>
   All [
    (Bld #[(.string ⟨#[]⟩),(.bool false),(Sl.val ⟨none,0,0⟩),(.int .i64 0),(.int .u64 0)] (fun i=>some (i * 5,5)) [(0,(.agg t45))] fun ct46 =>
    New 173 ct46 fun t46 =>
    StN t4 2 #[(.int .i64 0),(Sl.val ⟨none,0,0⟩)] <|
    zCQ.s1 Q t4 (Sl.mk (some t46) 1 1)),
    (StN t4 2 #[(.int .i64 0),(Sl.val ⟨none,0,0⟩)] <|
    Sv S <|
    Bld #[(.string ⟨#[]⟩),(.bool false),(Sl.val ⟨none,0,0⟩),(.int .i64 0),(.int .u64 0)] (fun i=>some (i * 5,5)) [(0,(.agg t45))] fun ct46 =>
    New 173 ct46 fun t46 =>
    zCQ.s1 Q t4 (Sl.mk (some t46) 1 1))
    ]))
  (LoopK (α:=Sl×Sl×Int) (fun X x=>zCQ.b2 Q (fun outs7_2 touched8_2 i9_2=>X (outs7_2,touched8_2,i9_2)) t3 t4 t17 x.1 x.2.1 x.2.2) ((Sl.mk (some t18) 0 0),(Sl.mk (some t19) 0 0),0))
def zGi.b1 (Q:K)  (X1:Int→K) (s0_1:(Option Addr)) (rows1_1:Sl) (i4_1:Int):K :=
 Ite (decide (i4_1 < (rows1_1.n:Int)))
  (Dr <|
  Idx rows1_1 i4_1 5 fun t14 =>
  Idx rows1_1 i4_1 5 fun t19 =>
  Ld t14 Value.string fun t16 =>
  LdN (t19.add 1) 4 fun t21 =>
  zAm.call s0_1 t16 t21 <|
  Ar (IntKind.wrap .i64 (i4_1 + 1)) fun t10 =>
  X1 t10)
  (Q)
def zGi (s0:(Option Addr)) (rows1:Sl) (Q:K):K :=
 LoopK (α:=Int) (fun X x=>zGi.b1 Q X s0 rows1 x) 0
def zDS.s3 (Q:Bool→K) (X2:Int→K) (a2_3:Addr) (b3_3:Addr) (i5_3:Int) (t56_3:Bool):K :=
 Ite t56_3
  (Q false)
  (Ar (IntKind.wrap .i64 (i5_3 + 1)) fun t26 =>
  X2 t26)
def zDS.b2 (Q:Bool→K)  (X2:Int→K) (a2_2:Addr) (b3_2:Addr) (i5_2:Int):K :=
 Ld (a2_2.add 1) Sl.val fun t22 =>
 Ite (decide (i5_2 < (t22.n:Int)))
  (Dr <|
  Ld (a2_2.add 1) Sl.val fun t28 =>
  Idx t28 i5_2 2 fun t30 =>
  Ld t30 Value.bool fun t32 =>
  Ld (b3_2.add 1) Sl.val fun t34 =>
  Idx t34 i5_2 2 fun t36 =>
  Ld t36 Value.bool fun t38 =>
  Ite (!(t32 == t38))
   (zDS.s3 Q X2 a2_2 b3_2 i5_2 true)
   (Ld (a2_2.add 1) Sl.val fun t42 =>
   Idx t42 i5_2 2 fun t44 =>
   Ld (t44.add 1) Sl.val fun t46 =>
   Rd Tryz.prog (convert 85 9 (Sl.val t46)) Value.string fun t47 =>
   Ld (b3_2.add 1) Sl.val fun t49 =>
   Idx t49 i5_2 2 fun t51 =>
   Ld (t51.add 1) Sl.val fun t53 =>
   Rd Tryz.prog (convert 85 9 (Sl.val t53)) Value.string fun t54 =>
   zDS.s3 Q X2 a2_2 b3_2 i5_2 (!(t47.toList == t54.toList))))
  (Q true)
def zDS.s1 (Q:Bool→K)  (a2_1:Addr) (b3_1:Addr) (t19_1:Bool):K :=
 Ite t19_1
  (Q false)
  (LoopK (α:=Int) (fun X x=>zDS.b2 Q X a2_1 b3_1 x) 0)
def zDS (a0:(Array Value)) (b1:(Array Value)) (Q:Bool→K):K :=
 New 51 a0 fun a2 =>
 New 51 b1 fun b3 =>
 Ld a2 (Value.int .i64) fun t7 =>
 Ld b3 (Value.int .i64) fun t9 =>
 Ite (decide (t7 ≠ t9))
  (zDS.s1 Q a2 b3 true)
  (Ld (a2.add 1) Sl.val fun t13 =>
  Ld (b3.add 1) Sl.val fun t16 =>
  zDS.s1 Q a2 b3 (decide ((t13.n:Int) ≠ (t16.n:Int))))
def zCA.s1 (Q:Sl→Int→K)  :K :=
 New 180 #[] fun t94 =>
 Q (Sl.mk (some t94) 0 0) 0
def zCA.s2 (Q:Sl→Int→K)  (t87_2:Bool):K :=
 Ite t87_2
  (New 180 #[] fun t88 =>
  Q (Sl.mk (some t88) 0 0) 110)
  (zCA.s1 Q)
def zCA.s3 (Q:Sl→Int→K)  (s0_3:(Option Addr)) (o3_3:Addr) (n7_3:Int) (t28_3:Bool):K :=
 Ite t28_3
  (New 180 #[] fun t29 =>
  Q (Sl.mk (some t29) 0 0) 110)
  (Ld (o3_3.add 3) (Value.int .i64) fun t33 =>
  zCp.call n7_3 t33 fun t34x0 t34x1 =>
  Ite (!t34x1)
   (New 180 #[] fun t39 =>
   Q (Sl.mk (some t39) 0 0) 111)
   (Dr <| WithS fun S =>
   LdS S (o3_3.add 1) Value.string fun t42 =>
   zFh.call t34x0 fun t44 =>
   Sv S <|
   zFJ.call s0_3 t42 t44 <|
   zCA.s1 Q))
def zCA (s0:(Option Addr)) (o1:(Array Value)) (Q:Sl→Int→K):K :=
 New 123 o1 fun o3 =>
 Ld (o3.add 1) Value.string fun t13 =>
 zB9.call s0 t13 fun t14 =>
 New 87 #[(.bool false),(Sl.val ⟨none,0,0⟩),(.int .i64 0),(.int .u64 0)] fun r6 =>
 StN r6 4 t14 <|
 Ld o3 (Value.int .i64) fun t16 =>
 Ite (decide (t16 = 1))
  (Ld r6 Value.bool fun t49 =>
  Ld (r6.add 1) Sl.val fun t51 =>
  Bld #[(.bool false),(Sl.val ⟨none,0,0⟩)] (fun i=>some (i * 2,2)) [(0,(.agg #[(.bool t49),(Sl.val t51)]))] fun ct53 =>
  New 180 ct53 fun t53 =>
  Q (Sl.mk (some t53) 1 1) 0)
  (Ite (decide (t16 = 7))
   (Ld (o3.add 2) Sl.val fun t57 =>
   Bld #[(.bool false),(Sl.val ⟨none,0,0⟩)] (fun i=>some (i * 2,2)) [(0,(.agg #[(.bool true),(Sl.val t57)]))] fun ct59 =>
   New 180 ct59 fun t59 =>
   Q (Sl.mk (some t59) 1 1) 0)
   (Ite (decide (t16 = 2))
    (Ld (o3.add 1) Value.string fun t64 =>
    Ld (o3.add 2) Sl.val fun t66 =>
    zFJ.call s0 t64 t66 <|
    zCA.s1 Q)
    (Ite (decide (t16 = 3))
     (Ld (o3.add 1) Value.string fun t72 =>
     zFk.call s0 t72 <|
     zCA.s1 Q)
     (Ite (decide (t16 = 4))
      (Ld r6 Value.bool fun t77 =>
      Ite (!t77)
       (zCA.s2 Q true)
       (Ld (r6.add 1) Sl.val fun t81 =>
       Rd Tryz.prog (convert 85 9 (Sl.val t81)) Value.string fun t82 =>
       Ld (o3.add 2) Sl.val fun t84 =>
       Rd Tryz.prog (convert 85 9 (Sl.val t84)) Value.string fun t85 =>
       zCA.s2 Q (!(t82.toList == t85.toList))))
      (Ite (decide (t16 = 5))
       (Ld r6 Value.bool fun t92 =>
       Ite t92
        (New 180 #[] fun t93 =>
        Q (Sl.mk (some t93) 0 0) 110)
        (zCA.s1 Q))
       (Ld (r6.add 1) Sl.val fun t19 =>
       zFK.call t19 fun t20x0 t20x1 =>
       Ld r6 Value.bool fun t24 =>
       Ite t24
        (zCA.s3 Q s0 o3 t20x0 (!t20x1))
        (zCA.s3 Q s0 o3 t20x0 false)))))))
def zFK.b1 (Q:Int→Bool→K)  (X1:Int→Int→K) (v0_1:Sl) (n4_1:Int) (i5_1:Int):K :=
 Ite (decide (i5_1 < 8))
  (Ar (IntKind.wrap .u64 (n4_1 * 256)) fun t14 =>
  Idx v0_1 i5_1 1 fun t17 =>
  Ld t17 (Value.int .u8) fun t18 =>
  Ar (IntKind.wrap .u64 t18) fun t19 =>
  Ar (IntKind.wrap .u64 (t14 + t19)) fun t20 =>
  Ar (IntKind.wrap .i64 (i5_1 + 1)) fun t12 =>
  X1 t20 t12)
  (Ar (IntKind.wrap .i64 n4_1) fun t22 =>
  Q t22 true)
def zFK (v0:Sl) (Q:Int→Bool→K):K :=
 Ite (decide ((v0.n:Int) ≠ 8))
  (Q 0 false)
  (LoopK (α:=Int×Int) (fun X x=>zFK.b1 Q (fun n4_1 i5_1=>X (n4_1,i5_1)) v0 x.1 x.2) (0,0))
def zCp.s1 (Q:Int→Bool→K)  (c6_1:Int) (t34_1:Bool):K :=
 Ite t34_1
  (Q 0 false)
  (Q c6_1 true)
def zCp (a0:Int) (b1:Int) (Q:Int→Bool→K):K :=
 Ar (IntKind.wrap .u64 a0) fun t8 =>
 Ar (IntKind.wrap .u64 b1) fun t10 =>
 Ar (IntKind.wrap .u64 (t8 + t10)) fun t11 =>
 Ar (IntKind.wrap .i64 t11) fun t12 =>
 Ite (decide ((0:Int) ≤ a0))
  (Ite (decide ((0:Int) ≤ b1))
   (Ite (decide (t12 < 0))
    (zCp.s1 Q t12 true)
    (Ite (decide (a0 < 0))
     (Ite (decide (b1 < 0))
      (zCp.s1 Q t12 (decide ((0:Int) ≤ t12)))
      (zCp.s1 Q t12 false))
     (zCp.s1 Q t12 false)))
   (Ite (decide (a0 < 0))
    (Ite (decide (b1 < 0))
     (zCp.s1 Q t12 (decide ((0:Int) ≤ t12)))
     (zCp.s1 Q t12 false))
    (zCp.s1 Q t12 false)))
  (Ite (decide (a0 < 0))
   (Ite (decide (b1 < 0))
    (zCp.s1 Q t12 (decide ((0:Int) ≤ t12)))
    (zCp.s1 Q t12 false))
   (zCp.s1 Q t12 false))
def zFh.b1 (Q:Sl→K)  (X1:Int→Int→K) (out3_1:Sl) (x4_1:Int) (i5_1:Int):K :=
 Ite (decide ((0:Int) ≤ i5_1))
  (Cd ((256:Int) ≠ 0) <|
  Ar (Int.tmod x4_1 256) fun t16 =>
  Ar (IntKind.wrap .u8 t16) fun t17 =>
  Idx out3_1 i5_1 1 fun t18 =>
  St t18 (.int .u8 t17) <|
  Cd ((256:Int) ≠ 0) <|
  Ar (IntKind.wrap .u64 (Int.tdiv x4_1 256)) fun t20 =>
  Ar (IntKind.wrap .i64 (i5_1 - 1)) fun t12 =>
  X1 t20 t12)
  (Q out3_1)
def zFh (n0:Int) (Q:Sl→K):K :=
 Do Tryz.prog (Instr.makeSlice 85 (.int .i64 8) (.int .i64 8)) Sl.val fun t6 =>
 Ar (IntKind.wrap .u64 n0) fun t8 =>
 LoopK (α:=Int×Int) (fun X x=>zFh.b1 Q (fun x4_1 i5_1=>X (x4_1,i5_1)) t6 x.1 x.2) (t8,7)
end Go.Proofs.YtdemfamgieonbaaGreat
namespace Go.Proofs.YtdemfamgieonbaaGreat
open Go Go.Sep
set_option maxRecDepth 100000
def num8 (xs:List UInt8):Nat:=xs.foldl (fun n b=>n * 256 + b.toNat) 0
theorem zL5 (xs:List UInt8) (x:UInt8):num8 (xs++[x]) = num8 xs * 256 + x.toNat:=by
 unfold num8
 rw [List.foldl_append]
 rfl
theorem zS3:∀ (j:Nat) (xs:List UInt8),xs.length = j→num8 xs < 256 ^ j:=by
 intro j
 induction j with
 | zero =>
  intro xs h
  have:xs = []:=List.length_eq_zero_iff.1 h
  subst this
  decide
 | succ j ih =>
  intro xs h
  have hne:xs ≠ []:=fun e=>by rw [e] at h; cases h
  have e:xs = xs.dropLast++[xs.getLast hne]:=(List.dropLast_concat_getLast hne).symm
  have h1:=ih xs.dropLast (by simp; omega)
  have h2:=UInt8.toNat_lt (xs.getLast hne)
  rw [e,zL5,Nat.pow_succ]
  omega
theorem or8 (m b:Nat) (hm:m * 256 < 2 ^ 64) (hb:b < 256):bitsOf .or .u64 ((m * 256:Nat):Int) (b:Int) = ((m * 256 + b:Nat):Int):=by
 unfold bitsOf
 simp only
 have h1:(BitVec.ofInt (IntKind.bits .u64) ((m * 256:Nat):Int) ||| BitVec.ofInt (IntKind.bits .u64) (b:Int)).toNat = m * 256 + b:=by
  show (BitVec.ofInt 64 ((m * 256:Nat):Int) ||| BitVec.ofInt 64 (b:Int)).toNat = _
  rw [BitVec.toNat_or,BitVec.ofInt_natCast,BitVec.ofInt_natCast,BitVec.toNat_ofNat,BitVec.toNat_ofNat,Nat.mod_eq_of_lt (by omega),Nat.mod_eq_of_lt (by omega)]
  have h4:=Nat.two_pow_add_eq_or_of_lt (i:=8) (b:=b) (by omega) m
  have h5:2 ^ 8 * m = m * 256:=by omega
  rw [h5] at h4
  omega
 rw [h1,wrapU64 (by omega) (by omega)]
theorem zS4 {j:Nat} (h:j ≤ 7):256 ^ j ≤ 72057594037927936:=by
 have:=Nat.pow_le_pow_right (n:=256) (by decide) h
 have e:(256:Nat) ^ 7 = 72057594037927936:=by decide
 omega
section
variable {B w:World} {Γ:List HProp}
theorem zJv {s:Sl} {xs:List UInt8} {k:Int→Bool→K} (hr:RdB w s xs) (hk:k (if xs.length = 8 then IntKind.wrap .i64 (num8 xs:Int) else 0) (decide (xs.length = 8)) w):zCl.call s k w:=by
 have hn:xs.length = s.n:=by have:=hr.len; simpa using this
 refine zLN _ _ _ ?_
 unfold zCl
 refine r_ite (fun hb=>?_) (fun hb=>?_)
 ·have h8:¬ xs.length = 8:=by simp only [decide_eq_true_eq] at hb; omega
  rw [if_neg h8,decide_eq_false h8] at hk
  exact hk
 ·have h8:xs.length = 8:=by simp only [decide_eq_false_iff_not,Decidable.not_not] at hb; omega
  rw [if_pos h8,decide_eq_true h8] at hk
  refine LoopK.of (fun t w1=>∃ j:Nat,t = ((num8 (xs.take j):Int),(j:Int))∧j ≤ 8∧w1 = w) (fun t _=>((8:Int) - t.2).toNat) ⟨0,rfl,by omega,rfl⟩ ?_
  rintro t w1 ⟨j,rfl,hj,rfl⟩
  dsimp only
  unfold zCl.b1
  refine r_ite (fun hlt=>?_) (fun hge=>?_)
  ·simp only [decide_eq_true_eq] at hlt
   have hx:xs[j]? = some xs[j]:=List.getElem?_eq_getElem (by omega)
   have htk:xs.take (j + 1) = xs.take j++[xs[j]]:=List.take_succ_eq_append_getElem (by omega)
   generalize xs[j] = x at hx htk
   refine r_byte hr hx ?_
   have hlt8:=zS3 j (xs.take j) (by rw [List.length_take]; omega)
   have hp:=zS4 (j:=j) (by omega)
   have hxb:=UInt8.toNat_lt x
   refine r_cd (by decide) ?_
   refine r_ar (e':=((num8 (xs.take j) * 256:Nat):Int)) (by
    unfold shlOf
    have:min ((8:Int).toNat) (IntKind.bits .u64) = 8:=rfl
    rw [this,wrapU64 (by omega) (by omega)]
    omega) ?_
   refine r_ar (wrapU64 (by omega) (by omega)) ?_
   refine r_ar (or8 _ _ (by omega) hxb) ?_
   refine zOR (by omega) (by omega) ?_
   exact ⟨⟨j + 1,by rw [htk,zL5]; rfl,by omega,rfl⟩,by omega⟩
  ·simp only [decide_eq_false_iff_not] at hge
   have:j = 8:=by omega
   subst this
   rw [List.take_of_length_le (by omega)]
   exact r_ar rfl hk
end
end Go.Proofs.YtdemfamgieonbaaGreat
namespace Go.Proofs.YtdemfamgieonbaaGreat
open Go Go.Sep
set_option maxRecDepth 100000
section
variable {B w:World} {Γ:List HProp}
theorem zS5 {k:Sl→K} (h:Holds B Γ w) (hk:∀ s w,Holds B (Bytes zAe s (List.replicate 8 0)::Γ) w→k s w):Do Tryz.prog (Instr.makeSlice zKP (.int .i64 8) (.int .i64 8)) Sl.val k w:=by
 have h1:=Go.run_make_row' (P:=Tryz.prog) zKP zAe (.int .u8 0) 1 (by kernel_rfl) (by kernel_rfl) rfl .i64 .i64 8 (by decide) (by decide) w
 refine ⟨⟨some ⟨w.heap.size,0,none⟩,8,8⟩,_,h1,hk _ _ ?_⟩
 have h2:=h.alloc (.cells (madeCells #[.int .u8 0] 8) zAe (0,0))
 exact zQQ (by kernel_rfl) (by simp) h2
end
end Go.Proofs.YtdemfamgieonbaaGreat
namespace Go.Proofs.YtdemfamgieonbaaGreat
open Go Go.Sep
set_option maxRecDepth 100000
def u8 (n:Nat):UInt8:=UInt8.ofNat n
theorem u8N (n:Nat):(u8 n).toNat = n % 256:=by simp [u8,UInt8.toNat_ofNat']
theorem wrapB (n:Nat):IntKind.wrap .u8 (n:Int) = ((u8 n).toNat:Int):=by
 rw [u8N]
 unfold IntKind.wrap
 simp [IntKind.bits,IntKind.signed]
end Go.Proofs.YtdemfamgieonbaaGreat
namespace Go.Proofs.YtdemfamgieonbaaGreat
open Go Go.Sep
set_option maxRecDepth 100000
def partV (u i:Nat):List UInt8:=(List.range 8).map fun j=>if 8 ≤ j + i then u8 (u / 256 ^ (7 - j)) else 0
theorem zPX (u:Nat):∀ i,i < 8→(partV u i).set (7 - i) (u8 (u / 256 ^ i)) = partV u (i + 1)
 | 0,_=>rfl
 | 1,_=>rfl
 | 2,_=>rfl
 | 3,_=>rfl
 | 4,_=>rfl
 | 5,_=>rfl
 | 6,_=>rfl
 | 7,_=>rfl
theorem zQR (u i:Nat):(partV u i).length = 8:=by simp [partV]
def uOf (n:Int):Nat:=(IntKind.wrap .u64 n).toNat
theorem uOf_lt (n:Int):uOf n < 2 ^ 64∧IntKind.wrap .u64 n = (uOf n:Int):=by
 have h:0 ≤ IntKind.wrap .u64 n∧IntKind.wrap .u64 n < 2 ^ 64:=by
  unfold IntKind.wrap
  simp only [IntKind.bits,IntKind.signed,Bool.false_and,Bool.false_eq_true,if_false]
  omega
 unfold uOf
 omega
section
variable {B w:World} {Γ:List HProp}
theorem zKY {n:Int} {k:Sl→K} (h:Holds B Γ w) (hk:∀ s w,Holds B (Bytes zAe s (partV (uOf n) 8)::Γ) w→k s w):zDI.call n k w:=by
 obtain ⟨hu1,hu2⟩:=uOf_lt n
 refine zMc _ _ _ ?_
 unfold zDI
 refine zS5 h fun s w h=>?_
 have hsn:=Bytes.len h
 simp only [List.length_replicate] at hsn
 refine LoopK.of (fun t w=>∃ i:Nat,t = (i:Int)∧i ≤ 8∧Holds B (Bytes zAe s (partV (uOf n) i)::Γ) w) (fun t _=>((8:Int) - t).toNat) ⟨0,rfl,by omega,h⟩ ?_
 clear h
 rintro t w ⟨i,rfl,hi,h⟩
 unfold zDI.b1
 refine r_ite (fun hlt=>?_) (fun hge=>?_)
 ·simp only [decide_eq_true_eq] at hlt
  refine r_ar (e':=((7 - i:Nat):Int)) (by rw [wrap64 (by omega) (by omega)]; omega) ?_
  refine r_ar hu2 ?_
  refine r_ar (e':=((8 * i:Nat):Int)) (by rw [wrap64 (by omega) (by omega)]; omega) ?_
  refine r_cd (by omega) ?_
  refine r_ar (e':=((uOf n / 256 ^ i:Nat):Int)) (by
   unfold shrOf
   have:min (((8 * i:Nat):Int).toNat) (IntKind.bits .u64) = 8 * i:=by simp [IntKind.bits]; omega
   rw [this,Int.fdiv_eq_ediv_of_nonneg _ (Int.le_of_lt (Int.pow_pos (by decide))),Nat.pow_mul 2 8 i |> fun e=>show (2:Int) ^ (8 * i) = ((256 ^ i:Nat):Int) by rw [Int.pow_mul]; rw [Int.natCast_pow]; rfl,← Int.natCast_ediv]) ?_
  refine r_ar (wrapB _) ?_
  refine zSe h (by omega) rfl fun w h=>?_
  have e1:((partV (uOf n) i).map byteV).set (7 - i) (Value.int .u8 ((u8 (uOf n / 256 ^ i)).toNat:Int)) = (partV (uOf n) (i + 1)).map byteV:=by
   rw [← zPX _ i (by omega),List.map_set]
   rfl
  rw [e1] at h
  refine zOR (by omega) (by omega) ?_
  exact ⟨⟨i + 1,by omega,by omega,h⟩,by omega⟩
 ·simp only [decide_eq_false_iff_not] at hge
  have:i = 8:=by omega
  subst this
  exact hk _ _ h
end
end Go.Proofs.YtdemfamgieonbaaGreat
namespace Go.Proofs.YtdemfamgieonbaaGreat
open Go Go.Sep Go.Sep.Bt
set_option maxRecDepth 100000
abbrev WX:=List (List UInt8×(Rec×Sl))
abbrev wV (x:Rec×Sl):Value:=.agg (recA x.1 x.2)
abbrev wB (p:List UInt8×(Rec×Sl)):HProp:=Bytes zAe p.2.2 p.2.1.val
abbrev runL (rb st mb:Nat) (os:Sl) (X:WX) (O:OX) (Γ:List HProp):List HProp :=
 blk rb (.cells [.pointer (some ⟨st,0,none⟩),.map (some mb),os.val].toArray zDH (0,0))::MapR strV wV mb X::Sep.stars (X.map wB)::SlC zA1 2 os (O.flatMap oF)::Sep.stars (O.map oB)::Γ
theorem mapRec:mapIs Tryz.prog zCO .string zAv:=⟨9,by kernel_rfl,by kernel_rfl⟩
abbrev zRec:Rec×Sl:=(⟨false,[],0,0⟩,⟨none,0,0⟩)
theorem zeroRec:zeroT Tryz.prog zAv (wV zRec):=zIR
def nowM (n:Nat) (M:Recs) (W:List (List UInt8×Rec)) (k:List UInt8):Rec:=(mget k W).getD (sGet n M (bs k))
abbrev modW (X:WX):List (List UInt8×Rec):=X.map fun p=>(p.1,p.2.1)
section
variable {B:World} {Γ Δ:List HProp} {rb st mb n:Nat} {os:Sl} {X:WX} {O:OX} {M:Recs} {k:List UInt8}
theorem zL6 {α:Type} {F:α→HProp} {l:List α} {x:α} {w:World} (hx:x ∈ l) (h:Holds B (Sep.stars (l.map F)::Γ) w):∃ Δ,Holds B (F x::Δ) w:=by
 obtain ⟨A,C,rfl⟩:=List.append_of_mem hx
 exact ⟨_,((Holds.flat.1 h).perm zGE).perm List.perm_middle⟩
theorem rdB_of {E:Nat} {w:World} {s:Sl} {xs:List UInt8} (h:Holds B (Bytes E s xs::Γ) w):RdB w s xs:=h.rdC List.mem_cons_self
theorem zGb {Q:Array Value→K} (hk:k.length < 1000000000000) (hX:∀ p ∈ X,p.2.1.ok)
  (hin:∀ r s,mget k X = some (r,s)→r.ok→(∀ w,Holds B (runL rb st mb os X O (StoreR st n M::Γ)) w→RdB w s r.val)→HG B (runL rb st mb os X O (StoreR st n M::Γ)) (Q (recA r s)))
  (hout:mget k X = none→∀ s,(sGet n M (bs k)).ok→HG B (Bytes zAe s (sGet n M (bs k)).val::runL rb st mb os X O (StoreR st n M::Γ)) (Q (recA (sGet n M (bs k)) s))) :
  HG B (runL rb st mb os X O (StoreR st n M::Γ)) (zCw.call (some ⟨rb,0,none⟩) (bs k) Q):=fun w hw=>by
 refine zKV _ _ _ _ ?_
 refine hg hw ?_
 clear hw w
 unfold zCw
 refine s_new fun t4=>?_
 refine s_nn ?_
 refine s_ld (b:=rb) (x:=some mb) ?_
 refine zSx (b:=mb) (enc:=strV) (cV:=wV) (cG:=Value.agg) (g:=fun x=>recA x.1 x.2) (z:=zRec) (a:=k) (fun _=>rfl) mapRec zFa zeroRec ?_
 refine s_new fun x5=>?_
 cases hm:mget k X with
 | some p =>
  obtain ⟨r,s⟩:=p
  have hmem:=zFo hm
  have hok:=hX _ hmem
  simp only [Option.getD_some,Option.isSome_some]
  refine s_stN (b:=x5) (l':=recL r s) ?_
  refine s_t ?_
  refine s_ldN (b:=x5) (l':=recL r s) ?_
  refine s_stN (b:=t4) (l':=recL r s) ?_
  refine s_ldN (b:=t4) (l':=recL r s) ?_
  refine s_end (Δ:=runL rb st mb os X O (StoreR st n M::Γ)) ?_
  refine hin r s hm hok fun w hw=>?_
  obtain ⟨Δ,h1⟩:=zL6 hmem (hw.tail.tail)
  exact rdB_of h1
 | none =>
  simp only [Option.getD_none,Option.isSome_none]
  refine s_stN (b:=x5) (l':=recL zRec.1 zRec.2) ?_
  refine s_f ?_
  refine s_ld (b:=rb) (x:=some ⟨st,0,none⟩) ?_
  refine s_own st ?_
  refine zC8 (k:=bs k) (by simpa [ByteArray.size] using hk) fun s hok=>?_
  refine s_stN (b:=t4) (l':=recL (sGet n M (bs k)) s) ?_
  refine s_ldN (b:=t4) (l':=recL (sGet n M (bs k)) s) ?_
  exact s_end (hout hm s hok)
theorem zIa {Q:K} {has:Bool} {val:List UInt8} {vs:Sl} (hk:k.length < 1000000000000) (hX:∀ p ∈ X,p.2.1.ok) (hv:val.length ≤ 1000000000) (hr:∀ w,Holds B (runL rb st mb os X O (StoreR st n M::Γ)) w→RdB w vs val)
  (h:∀ s,({ nowM n M (modW X) k with has:=has,val:=val }:Rec).ok→HG B (runL rb st mb os (mset k ({ nowM n M (modW X) k with has:=has,val:=val },s) X) O (StoreR st n M::Γ)) Q) :
  HG B (runL rb st mb os X O (StoreR st n M::Γ)) (zCk.call (some ⟨rb,0,none⟩) (bs k) has vs Q):=fun w hw=>by
 refine zKW _ _ _ _ _ _ ?_
 refine hg hw ?_
 clear hw w
 unfold zCk
 have rest:∀ (r:Rec) (s:Sl),r = nowM n M (modW X) k→r.ok→HG B (runL rb st mb os X O (StoreR st n M::Γ)) (New zAv [.bool false,Sl.val ⟨none,0,0⟩,.int .i64 0,.int .u64 0].toArray fun x8 =>
   StN x8 4 (recA r s) <| zBZ.call vs fun t14=>St x8 (.bool has) <| St (x8.add 1) (Sl.val t14) <| Dr <| Nn (some ⟨rb,0,none⟩) fun t18=>Ld (t18.add 1) Value.map fun t20=>LdN x8 4 fun t22 =>
   DoU Tryz.prog (Instr.mapUpdate zCO (.map t20) (.string (bs k)) (.agg t22)) Q):=fun r s hr2 hok=>by
  refine s_new fun x8=>?_
  refine s_stN (b:=x8) (l':=recL r s) ?_
  refine zDh (fun w hw=>hr w hw.tail) hv fun s' _=>?_
  refine s_st (b:=x8) ?_
  refine s_st (b:=x8) ?_
  refine s_dr ?_
  refine s_nn ?_
  refine s_ld (b:=rb) (x:=some mb) ?_
  refine s_ldN (b:=x8) (l':=recL { r with has:=has,val:=val } s') ?_
  refine s_upd (b:=mb) (enc:=strV) (cV:=wV) (v:=(({ r with has:=has,val:=val }:Rec),s')) (cG:=Value.agg) rfl mapRec zFa ?_
  rw [hr2] at hok ⊢
  refine s_end (Δ:=wB (k,(({ nowM n M (modW X) k with has:=has,val:=val }:Rec),s'))::Sep.stars (X.map wB)::blk rb (.cells [.pointer (some ⟨st,0,none⟩),.map (some mb),os.val].toArray zDH (0,0))::MapR strV wV mb (mset k (({ nowM n M (modW X) k with has:=has,val:=val }:Rec),s') X)::SlC zA1 2 os (O.flatMap oF)::Sep.stars (O.map oB)::StoreR st n M::Γ) ?_
  refine s_mset ?_
  exact s_end (h s' ⟨hok.1,hok.2.1,hv⟩)
 have hmg:mget k (modW X) = (mget k X).map (·.1):=zFY _ _ _
 refine zGb hk hX (fun r s hm hok _=>?_) fun hm s hok=>?_
 ·refine rest r s ?_ hok
  unfold nowM; rw [hmg,hm]; rfl
 ·refine s_end (Δ:=runL rb st mb os X O (StoreR st n M::Γ)) ?_
  refine rest _ s ?_ hok
  unfold nowM; rw [hmg,hm]; rfl
end
def OpM.ok (o:OpM):Prop:=o.key.length < 1000000000000∧o.val.length ≤ 1000000000∧-9223372036854775808 ≤ o.n∧o.n ≤ 9223372036854775807
abbrev WM:=List (List UInt8×Rec)
abbrev OM:=List (Bool×List UInt8)
def numOf (v:List UInt8):Int:=IntKind.wrap .i64 (num8 v:Int)
abbrev valOf (n:Int):List UInt8:=partV (uOf n) 8
def overS (a b:Int):Bool:=decide (0 < b∧9223372036854775807 - b < a∨b < 0∧a < -9223372036854775808 - b)
def setW (n:Nat) (M:Recs) (W:WM) (k:List UInt8) (has:Bool) (val:List UInt8):WM:=mset k { nowM n M W k with has:=has,val:=val } W
def addW (n:Nat) (M:Recs) (W:WM) (k:List UInt8) (d:Int):WM×Int :=
 if (nowM n M W k).has = true∧(nowM n M W k).val.length ≠ 8 then (W,110) else
 if overS (if (nowM n M W k).has then numOf (nowM n M W k).val else 0) d then (W,111) else
 (setW n M W k true (valOf ((if (nowM n M W k).has then numOf (nowM n M W k).val else 0) + d)),0)
def stepW (n:Nat) (M:Recs) (W:WM) (O:OM) (o:OpM):WM×OM×Int :=
 if o.kind = 1 then (W,O++[((nowM n M W o.key).has,(nowM n M W o.key).val)],0) else
 if o.kind = 7 then (W,O++[(true,o.val)],0) else
 if o.kind = 2 then (setW n M W o.key true o.val,O,0) else
 if o.kind = 3 then (setW n M W o.key false [],O,0) else
 if o.kind = 4 then (W,O,if (nowM n M W o.key).has = true∧(nowM n M W o.key).val = o.val then 0 else 110) else
 if o.kind = 5 then (W,O,if (nowM n M W o.key).has then 110 else 0) else
 if o.kind = 6 then ((addW n M W o.key o.n).1,O,(addW n M W o.key o.n).2) else (W,O,0)
theorem zKZ (n:Int):-9223372036854775808 ≤ IntKind.wrap .i64 n∧IntKind.wrap .i64 n ≤ 9223372036854775807:=by
 simp only [IntKind.wrap,IntKind.signed,IntKind.bits]
 simp
 omega
theorem zQS (n:Int):(valOf n).length = 8:=zQR _ _
section
variable {B:World} {Γ Δ:List HProp} {rb st mb n:Nat} {os:Sl} {X:WX} {O:OX} {M:Recs} {k:List UInt8}
theorem zHo {r:Rec} {s:Sl}:modW (mset k (r,s) X) = mset k r (modW X):=(zNP (fun p:Rec×Sl=>p.1) k (r,s) X).symm
theorem zJC {r:Rec} {s:Sl} (hX:∀ p ∈ X,p.2.1.ok) (hr:r.ok):∀ p ∈ mset k (r,s) X,p.2.1.ok:=fun p hp=>by
 rcases mfind k X with ⟨_,h2,_,_⟩ | ⟨j,x,hj,h0,_,_,h2,_⟩
 ·rw [h2] at hp
  rcases List.mem_append.1 hp with hp | hp
  ·exact hX p hp
  ·rw [List.mem_singleton.1 hp]; exact hr
 ·rw [h2] at hp
  rcases List.mem_or_eq_of_mem_set hp with hp | rfl
  ·exact hX p hp
  ·exact hr
theorem zQT {Q:Int→K} {o:OpM} {osl:Sl} (ho:o.ok) (hX:∀ p ∈ X,p.2.1.ok)
  (h:∀ X',modW X' = (addW n M (modW X) o.key o.n).1→(∀ p ∈ X',p.2.1.ok)→HG B (runL rb st mb os X' O (StoreR st n M::Γ)) (Q (addW n M (modW X) o.key o.n).2)) :
  HG B (runL rb st mb os X O (StoreR st n M::Γ)) (zAu.call (some ⟨rb,0,none⟩) (opF (o,osl)).toArray Q):=fun w hw=>by
 refine zKX _ _ _ _ ?_
 refine hg hw ?_
 clear hw w
 obtain ⟨hk,hv,hn1,hn2⟩:=ho
 have hmg:mget o.key (modW X) = (mget o.key X).map (·.1):=zFY _ _ _
 unfold zAu
 refine s_new fun o3=>?_
 refine s_ld (b:=o3) (x:=bs o.key) ?_
 have sum:∀ (a:Int) (E:HProp),-9223372036854775808 ≤ a→a ≤ 9223372036854775807→¬ ((nowM n M (modW X) o.key).has = true∧(nowM n M (modW X) o.key).val.length ≠ 8)→a = (if (nowM n M (modW X) o.key).has then numOf (nowM n M (modW X) o.key).val else 0) →
   HG B (blk o3 (.cells (opF (o,osl)).toArray zA8 (0,0))::runL rb st mb os X O (StoreR st n M::Γ)) (zAu.s1 Q (some ⟨rb,0,none⟩) ⟨o3,0,none⟩ a):=fun a E ha1 ha2 hn8 hae=>by
  have done:∀ t,t = overS a o.n→HG B (blk o3 (.cells (opF (o,osl)).toArray zA8 (0,0))::runL rb st mb os X O (StoreR st n M::Γ)) (zAu.s2 Q (some ⟨rb,0,none⟩) ⟨o3,0,none⟩ a t):=fun t ht=>by
   unfold zAu.s2
   refine s_ite (fun hb=>?_) fun hb=>?_
   ·have e:addW n M (modW X) o.key o.n = (modW X,111):=by unfold addW; rw [if_neg hn8,← hae,if_pos (by rw [← ht,hb])]
    rw [e] at h
    exact s_end (h X rfl hX)
   ·have hov:¬ overS a o.n = true:=by rw [← ht,hb]; simp
    have e:addW n M (modW X) o.key o.n = (setW n M (modW X) o.key true (valOf (a + o.n)),0):=by unfold addW; rw [if_neg hn8,← hae,if_neg hov]
    rw [e] at h
    refine s_dr ?_
    refine s_ws ?_
    refine s_ldS (b:=o3) (x:=bs o.key) ?_
    refine s_ldS (b:=o3) (x:=o.n) ?_
    refine s_ai ?_ (by simp only [overS,decide_eq_true_eq] at hov; omega) (by simp only [overS,decide_eq_true_eq] at hov; omega)
    refine fun w hw=>zKY hw fun vs w hw=>?_
    refine hg hw ?_
    clear hw w
    refine s_sv ?_
    refine s_end (Δ:=runL rb st mb os X O (StoreR st n M::Bytes zAe vs (valOf (a + o.n))::Γ)) ?_
    refine zIa (val:=valOf (a + o.n)) hk hX (by rw [zQS]; omega) (fun w hw=>?_) fun s hok=>?_
    ·exact rdB_of (hw.drops (Δ:=Bytes zAe vs (valOf (a + o.n))::Γ))
    ·refine s_end (Δ:=runL rb st mb os (mset o.key (({ nowM n M (modW X) o.key with has:=true,val:=valOf (a + o.n) }:Rec),s) X) O (StoreR st n M::Γ)) ?_
     exact h _ zHo (zJC hX hok)
  unfold zAu.s1
  refine s_ld (b:=o3) (x:=o.n) ?_
  refine s_ite (fun hb=>?_) fun hb=>?_
  ·have hb':0 < o.n:=by simpa using hb
   refine s_ld (b:=o3) (x:=o.n) ?_
   refine s_ai ?_
   refine s_ite (fun hc=>?_) fun hc=>?_
   ·refine done _ ?_
    have:9223372036854775807 - o.n < a:=by simpa using hc
    symm; simp only [overS,decide_eq_true_eq]; omega
   ·have hc':¬ 9223372036854775807 - o.n < a:=by simpa using hc
    refine s_ld (b:=o3) (x:=o.n) ?_
    refine s_f ?_
    refine done _ ?_
    symm; simp only [overS,decide_eq_false_iff_not]; omega
  ·have hb':¬ 0 < o.n:=by simpa using hb
   refine s_ld (b:=o3) (x:=o.n) ?_
   refine s_ite (fun hc=>?_) fun hc=>?_
   ·have hc':o.n < 0:=by simpa using hc
    refine s_ld (b:=o3) (x:=o.n) ?_
    refine s_ai ?_
    refine done _ ?_
    simp only [overS,hb',hc',false_and,true_and,false_or]
   ·have hc':¬ o.n < 0:=by simpa using hc
    refine done _ ?_
    simp only [overS,hb',hc',false_and,or_self,decide_false]
 have rest:∀ (r:Rec) (s:Sl) (A:HProp),r = nowM n M (modW X) o.key→(∀ w,Holds B (A::blk o3 (.cells (opF (o,osl)).toArray zA8 (0,0))::runL rb st mb os X O (StoreR st n M::Γ)) w→RdB w s r.val) →
   HG B (A::blk o3 (.cells (opF (o,osl)).toArray zA8 (0,0))::runL rb st mb os X O (StoreR st n M::Γ)) (New zAv [.bool false,Sl.val ⟨none,0,0⟩,.int .i64 0,.int .u64 0].toArray fun x5=>StN x5 4 (recA r s) <| Ld x5 Value.bool fun t13=>Ite t13
    (Ld (x5.add 1) Sl.val fun t16=>zCl.call t16 fun t17x0 t17x1=>Ite (!t17x1) (Q 110) (zAu.s1 Q (some ⟨rb,0,none⟩) ⟨o3,0,none⟩ t17x0)) (zAu.s1 Q (some ⟨rb,0,none⟩) ⟨o3,0,none⟩ 0)):=fun r s A hr hrd=>by
  subst hr
  refine s_new fun x5=>?_
  refine s_stN (b:=x5) (l':=recL (nowM n M (modW X) o.key) s) ?_
  refine s_ld (b:=x5) (x:=(nowM n M (modW X) o.key).has) ?_
  refine s_ite (fun hb=>?_) fun hb=>?_
  ·refine s_ld (b:=x5) (x:=s) ?_
   refine fun w hw=>zJv (hrd w hw.tail) ?_
   refine hg hw ?_
   clear hw w
   refine s_ite (fun hc=>?_) fun hc=>?_
   ·have hc':(nowM n M (modW X) o.key).val.length ≠ 8:=by simpa using hc
    have e:addW n M (modW X) o.key o.n = (modW X,110):=by unfold addW; rw [if_pos ⟨hb,hc'⟩]
    rw [e] at h
    exact s_end (h X rfl hX)
   ·have hc':(nowM n M (modW X) o.key).val.length = 8:=by simpa using hc
    rw [if_pos hc']
    refine s_end (Δ:=blk o3 (.cells (opF (o,osl)).toArray zA8 (0,0))::runL rb st mb os X O (StoreR st n M::Γ)) ?_
    refine sum _ A (zKZ _).1 (zKZ _).2 (fun h5=>h5.2 hc') ?_
    rw [if_pos hb]; rfl
  ·refine s_end (Δ:=blk o3 (.cells (opF (o,osl)).toArray zA8 (0,0))::runL rb st mb os X O (StoreR st n M::Γ)) ?_
   refine sum _ A (by omega) (by omega) (fun h5=>by rw [hb] at h5; exact absurd h5.1 (by simp)) ?_
   rw [hb]; rfl
 refine s_end (Δ:=runL rb st mb os X O (StoreR st n M::blk o3 (.cells (opF (o,osl)).toArray zA8 (0,0))::Γ)) ?_
 refine zGb hk hX (fun r s hm hok hrd=>?_) fun hm s hok=>?_
 ·refine fun w hw=>?_
  refine hg (show Holds B (pur True::_) w from Holds.pur.2 ⟨trivial,hw⟩) ?_
  clear hw w
  refine s_end (Δ:=pur True::blk o3 (.cells (opF (o,osl)).toArray zA8 (0,0))::runL rb st mb os X O (StoreR st n M::Γ)) ?_
  refine rest r s _ ?_ fun w hw=>hrd w hw.drops
  unfold nowM; rw [hmg,hm]; rfl
 ·refine s_end (Δ:=Bytes zAe s (sGet n M (bs o.key)).val::blk o3 (.cells (opF (o,osl)).toArray zA8 (0,0))::runL rb st mb os X O (StoreR st n M::Γ)) ?_
  refine rest _ s _ ?_ fun w hw=>rdB_of hw
  unfold nowM; rw [hmg,hm]; rfl
theorem zMd {a b:Sl} {xs ys:List UInt8} {q:Bool→K} (ha:∀ w,Holds B Γ w→RdB w a xs) (hb:∀ w,Holds B Γ w→RdB w b ys) (h:HG B Γ (q (decide (xs = ys)))):HG B Γ (bytes_Equal.call a b q):=fun w hw=>by
 refine zLA _ _ _ _ ?_
 unfold bytes_Equal
 refine r_str (by kernel_rfl) (ha w hw) ?_
 refine r_str (by kernel_rfl) (hb w hw) ?_
 have e:((bs xs).toList == (bs ys).toList) = decide (xs = ys):=by rw [zBp,zBp]; by_cases h:xs = ys <;> simp [h]
 show q ((bs xs).toList == (bs ys).toList) w
 rw [e]
 exact h w hw
theorem zQU {x:(Bool×List UInt8)×Sl} {q:K} (h:HG B (Sep.stars ((O++[x]).map oB)::Γ) q):HG B (oB x::Sep.stars (O.map oB)::Γ) q:=by
 have:=zCx (F:=oB) (A:=O) (C:=[]) (x:=x) h
 rwa [List.append_nil] at this
theorem zL7 {os':Sl} {x:(Bool×List UInt8)×Sl} {q:K} (h:HG B (runL rb st mb os' X (O++[x]) Γ) q) :
  HG B (oB x::Sep.stars (O.map oB)::SlC zA1 2 os' (O.flatMap oF++oF x)::blk rb (.cells [.pointer (some ⟨st,0,none⟩),.map (some mb),os'.val].toArray zDH (0,0))::MapR strV wV mb X::Sep.stars (X.map wB)::Γ) q:=by
 refine zQU ?_
 have e:O.flatMap oF++oF x = (O++[x]).flatMap oF:=by simp
 rw [e]
 exact s_end h
theorem zPY {Q:Int→K} {o:OpM} {osl:Sl} (ho:o.ok) (hX:∀ p ∈ X,p.2.1.ok) (hO:O.length < 1000000) (hv:∀ w,Holds B Γ w→RdB w osl o.val)
  (h:∀ os' X' O',modW X' = (stepW n M (modW X) (O.map Prod.fst) o).1→O'.map Prod.fst = (stepW n M (modW X) (O.map Prod.fst) o).2.1→(∀ p ∈ X',p.2.1.ok)→HG B (runL rb st mb os' X' O' (StoreR st n M::Γ)) (Q (stepW n M (modW X) (O.map Prod.fst) o).2.2)) :
  HG B (runL rb st mb os X O (StoreR st n M::Γ)) (zAf.call (some ⟨rb,0,none⟩) (opF (o,osl)).toArray Q):=fun w hw=>by
 refine zJu _ _ _ _ ?_
 refine hg hw ?_
 clear hw w
 have hk:=ho.1
 have hvl:=ho.2.1
 have hmg:mget o.key (modW X) = (mget o.key X).map (·.1):=zFY _ _ _
 unfold zAf
 refine s_new fun o3=>?_
 refine s_ld (b:=o3) (x:=bs o.key) ?_
 have rest:∀ (r:Rec) (s:Sl) (A:HProp),r = nowM n M (modW X) o.key→r.ok→(∀ w,Holds B (A::blk o3 (.cells (opF (o,osl)).toArray zA8 (0,0))::runL rb st mb os X O (StoreR st n M::Γ)) w→RdB w s r.val) →
   HG B (A::blk o3 (.cells (opF (o,osl)).toArray zA8 (0,0))::runL rb st mb os X O (StoreR st n M::Γ)) ((fun t9=>New zAv [.bool false,Sl.val ⟨none,0,0⟩,.int .i64 0,.int .u64 0].toArray fun x5=>StN x5 4 t9 <|
 Ld (⟨o3,0,none⟩:Addr) (Value.int .i64) fun t11 =>
 Ite (decide (t11 = 1))
  (Dr <| WithS fun S =>
  Nn (some ⟨rb,0,none⟩) fun t16 =>
  LdS S (t16.add 2) Sl.val fun t18 =>
  LdS S x5 Value.bool fun t20 =>
  LdS S (x5.add 1) Sl.val fun t22 =>
  zBZ.call t22 fun t23 =>
  Sv S <|
  Bld #[(.bool false),(Sl.val ⟨none,0,0⟩)] (fun i=>some (i * 2,2)) [(0,(.agg #[(.bool t20),(Sl.val t23)]))] fun ct25 =>
  New zA1 ct25 fun t25 =>
  Sv S <|
  Do Tryz.prog (Builtin.append_ #[zDt,zDt] zDt #[(Sl.val t18),(Sl.val (Sl.mk (some t25) 1 1))]) Sl.val fun t26 =>
  St (t16.add 2) (Sl.val t26) <|
  zAf.s1 Q)
  (Ite (decide (t11 = 7))
   (Dr <| WithS fun S =>
   Nn (some ⟨rb,0,none⟩) fun t33 =>
   LdS S (t33.add 2) Sl.val fun t35 =>
   LdS S ((⟨o3,0,none⟩:Addr).add 2) Sl.val fun t37 =>
   zBZ.call t37 fun t38 =>
   Sv S <|
   Bld #[(.bool false),(Sl.val ⟨none,0,0⟩)] (fun i=>some (i * 2,2)) [(0,(.agg #[(.bool true),(Sl.val t38)]))] fun ct40 =>
   New zA1 ct40 fun t40 =>
   Sv S <|
   Do Tryz.prog (Builtin.append_ #[zDt,zDt] zDt #[(Sl.val t35),(Sl.val (Sl.mk (some t40) 1 1))]) Sl.val fun t41 =>
   St (t33.add 2) (Sl.val t41) <|
   zAf.s1 Q)
   (Ite (decide (t11 = 2))
    (Ld ((⟨o3,0,none⟩:Addr).add 1) Value.string fun t48 =>
    Ld ((⟨o3,0,none⟩:Addr).add 2) Sl.val fun t50 =>
    zCk.call (some ⟨rb,0,none⟩) t48 true t50 <|
    zAf.s1 Q)
    (Ite (decide (t11 = 3))
     (Ld ((⟨o3,0,none⟩:Addr).add 1) Value.string fun t56 =>
     zCk.call (some ⟨rb,0,none⟩) t56 false (Sl.mk none 0 0) <|
     zAf.s1 Q)
     (Ite (decide (t11 = 4))
      (Ld x5 Value.bool fun t61 =>
      Ite (!t61)
       (zAf.s2 Q true)
       (Ld (x5.add 1) Sl.val fun t65 =>
       Ld ((⟨o3,0,none⟩:Addr).add 2) Sl.val fun t67 =>
       bytes_Equal.call t65 t67 fun t68 =>
       zAf.s2 Q (!t68)))
      (Ite (decide (t11 = 5))
       (Ld x5 Value.bool fun t74 =>
       Ite t74
        (Q 110)
        (zAf.s1 Q))
       (Ite (decide (t11 = 6))
        (LdN (⟨o3,0,none⟩:Addr) 4 fun t78 =>
        zAu.call (some ⟨rb,0,none⟩) t78 fun t79 =>
        Q t79)
        (zAf.s1 Q)))))))) (recA r s)):=fun r s A hr hok hrd=>by
  subst hr
  dsimp only
  refine s_new fun x5=>?_
  refine s_stN (b:=x5) (l':=recL (nowM n M (modW X) o.key) s) ?_
  refine s_ld (b:=o3) (x:=o.kind) ?_
  refine s_cap os fun a1 a2 a3 a4=>?_
  rw [zAT _ 2 oF_len] at a1
  refine s_ite (fun hb=>?_) fun hb1=>?_
  ·have hb':o.kind = 1:=by simpa using hb
   have e:stepW n M (modW X) (O.map Prod.fst) o = (modW X,O.map Prod.fst++[((nowM n M (modW X) o.key).has,(nowM n M (modW X) o.key).val)],0):=by unfold stepW; rw [if_pos hb']
   rw [e] at h
   refine s_dr ?_
   refine s_ws ?_
   refine s_nn ?_
   refine s_ldS (b:=rb) (x:=os) ?_
   refine s_ldS (b:=x5) (x:=(nowM n M (modW X) o.key).has) ?_
   refine s_ldS (b:=x5) (x:=s) ?_
   refine zDh (fun w hw=>hrd w hw.tail) hok.2.2 fun s' _=>?_
   refine s_sv ?_
   refine s_bld1 (cs:=oF (((nowM n M (modW X) o.key).has,(nowM n M (modW X) o.key).val),s')) ?_
   refine s_new fun t=>?_
   refine s_sv ?_
   refine zBT (esz:=2) (s:=os) (x:=⟨some ⟨t,0,none⟩,1,1⟩) (us:=oF (((nowM n M (modW X) o.key).has,(nowM n M (modW X) o.key).val),s')) (blk_rd rfl) (by simp [oF,flatV]) (by simp only; omega) fun os' hos'=>?_
   refine s_st (b:=rb) ?_
   unfold zAf.s1
   refine s_end (Δ:=oB (((nowM n M (modW X) o.key).has,(nowM n M (modW X) o.key).val),s')::Sep.stars (O.map oB)::SlC zA1 2 os' (O.flatMap oF++oF (((nowM n M (modW X) o.key).has,(nowM n M (modW X) o.key).val),s'))::blk rb (.cells [.pointer (some ⟨st,0,none⟩),.map (some mb),os'.val].toArray zDH (0,0))::MapR strV wV mb X::Sep.stars (X.map wB)::StoreR st n M::Γ) ?_
   refine zL7 ?_
   exact h os' X _ rfl (by simp) hX
  have hb1':¬ o.kind = 1:=by simpa using hb1
  refine s_ite (fun hb=>?_) fun hb7=>?_
  ·have hb':o.kind = 7:=by simpa using hb
   have e:stepW n M (modW X) (O.map Prod.fst) o = (modW X,O.map Prod.fst++[(true,o.val)],0):=by unfold stepW; rw [if_neg hb1',if_pos hb']
   rw [e] at h
   refine s_dr ?_
   refine s_ws ?_
   refine s_nn ?_
   refine s_ldS (b:=rb) (x:=os) ?_
   refine s_ldS (b:=o3) (x:=osl) ?_
   refine zDh (fun w hw=>hv w hw.drops) hvl fun s' _=>?_
   refine s_sv ?_
   refine s_bld1 (cs:=oF ((true,o.val),s')) ?_
   refine s_new fun t=>?_
   refine s_sv ?_
   refine zBT (esz:=2) (s:=os) (x:=⟨some ⟨t,0,none⟩,1,1⟩) (us:=oF ((true,o.val),s')) (blk_rd rfl) (by simp [oF,flatV]) (by simp only; omega) fun os' hos'=>?_
   refine s_st (b:=rb) ?_
   unfold zAf.s1
   refine s_end (Δ:=oB ((true,o.val),s')::Sep.stars (O.map oB)::SlC zA1 2 os' (O.flatMap oF++oF ((true,o.val),s'))::blk rb (.cells [.pointer (some ⟨st,0,none⟩),.map (some mb),os'.val].toArray zDH (0,0))::MapR strV wV mb X::Sep.stars (X.map wB)::StoreR st n M::Γ) ?_
   refine zL7 ?_
   exact h os' X _ rfl (by simp) hX
  have hb7':¬ o.kind = 7:=by simpa using hb7
  refine s_ite (fun hb=>?_) fun hb2=>?_
  ·have hb':o.kind = 2:=by simpa using hb
   have e:stepW n M (modW X) (O.map Prod.fst) o = (setW n M (modW X) o.key true o.val,O.map Prod.fst,0):=by unfold stepW; rw [if_neg hb1',if_neg hb7',if_pos hb']
   rw [e] at h
   refine s_ld (b:=o3) (x:=bs o.key) ?_
   refine s_ld (b:=o3) (x:=osl) ?_
   refine s_end (Δ:=runL rb st mb os X O (StoreR st n M::Γ)) ?_
   refine zIa hk hX hvl (fun w hw=>hv w hw.drops) fun s hok=>?_
   exact h os _ O zHo rfl (zJC hX hok)
  have hb2':¬ o.kind = 2:=by simpa using hb2
  refine s_ite (fun hb=>?_) fun hb3=>?_
  ·have hb':o.kind = 3:=by simpa using hb
   have e:stepW n M (modW X) (O.map Prod.fst) o = (setW n M (modW X) o.key false [],O.map Prod.fst,0):=by unfold stepW; rw [if_neg hb1',if_neg hb7',if_neg hb2',if_pos hb']
   rw [e] at h
   refine s_ld (b:=o3) (x:=bs o.key) ?_
   refine s_end (Δ:=runL rb st mb os X O (StoreR st n M::Γ)) ?_
   refine zIa (val:=[]) hk hX (by simp) (fun w hw=>RdC.none') fun s hok=>?_
   exact h os _ O zHo rfl (zJC hX hok)
  have hb3':¬ o.kind = 3:=by simpa using hb3
  refine s_ite (fun hb=>?_) fun hb4=>?_
  ·have hb':o.kind = 4:=by simpa using hb
   have e:stepW n M (modW X) (O.map Prod.fst) o = (modW X,O.map Prod.fst,if (nowM n M (modW X) o.key).has = true∧(nowM n M (modW X) o.key).val = o.val then 0 else 110):=by unfold stepW; rw [if_neg hb1',if_neg hb7',if_neg hb2',if_neg hb3',if_pos hb']
   rw [e] at h
   have fin:=h os X O rfl rfl hX
   refine s_ld (b:=x5) (x:=(nowM n M (modW X) o.key).has) ?_
   refine s_ite (fun hc=>?_) fun hc=>?_
   ·have hc':(nowM n M (modW X) o.key).has = false:=by simpa using hc
    rw [if_neg (by rw [hc']; simp)] at fin
    unfold zAf.s2
    refine s_t ?_
    exact s_end fin
   ·have hc':(nowM n M (modW X) o.key).has = true:=by simpa using hc
    refine s_ld (b:=x5) (x:=s) ?_
    refine s_ld (b:=o3) (x:=osl) ?_
    refine zMd (fun w hw=>hrd w hw.tail) (fun w hw=>hv w hw.drops) ?_
    unfold zAf.s2
    refine s_ite (fun hd=>?_) fun hd=>?_
    ·have hd':¬ (nowM n M (modW X) o.key).val = o.val:=by simpa using hd
     rw [if_neg fun x=>hd' x.2] at fin
     exact s_end fin
    ·have hd':(nowM n M (modW X) o.key).val = o.val:=by simpa using hd
     rw [if_pos ⟨hc',hd'⟩] at fin
     exact s_end fin
  have hb4':¬ o.kind = 4:=by simpa using hb4
  refine s_ite (fun hb=>?_) fun hb5=>?_
  ·have hb':o.kind = 5:=by simpa using hb
   have e:stepW n M (modW X) (O.map Prod.fst) o = (modW X,O.map Prod.fst,if (nowM n M (modW X) o.key).has then 110 else 0):=by unfold stepW; rw [if_neg hb1',if_neg hb7',if_neg hb2',if_neg hb3',if_neg hb4',if_pos hb']
   rw [e] at h
   have fin:=h os X O rfl rfl hX
   refine s_ld (b:=x5) (x:=(nowM n M (modW X) o.key).has) ?_
   refine s_ite (fun hc=>?_) fun hc=>?_
   ·simp only [hc,if_true] at fin
    exact s_end fin
   ·simp only [hc,Bool.false_eq_true,if_false] at fin
    exact s_end fin
  have hb5':¬ o.kind = 5:=by simpa using hb5
  refine s_ite (fun hb=>?_) fun hb6=>?_
  ·have hb':o.kind = 6:=by simpa using hb
   have e:stepW n M (modW X) (O.map Prod.fst) o = ((addW n M (modW X) o.key o.n).1,O.map Prod.fst,(addW n M (modW X) o.key o.n).2):=by unfold stepW; rw [if_neg hb1',if_neg hb7',if_neg hb2',if_neg hb3',if_neg hb4',if_neg hb5',if_pos hb']
   rw [e] at h
   refine s_ldN (b:=o3) (l':=opF (o,osl)) ?_
   refine s_end (Δ:=runL rb st mb os X O (StoreR st n M::Γ)) ?_
   exact zQT ho hX fun X' h1 h2=>h os X' O h1 rfl h2
  ·have hb6':¬ o.kind = 6:=by simpa using hb6
   have e:stepW n M (modW X) (O.map Prod.fst) o = (modW X,O.map Prod.fst,0):=by unfold stepW; rw [if_neg hb1',if_neg hb7',if_neg hb2',if_neg hb3',if_neg hb4',if_neg hb5',if_neg hb6']
   rw [e] at h
   exact s_end (h os X O rfl rfl hX)
 refine s_end (Δ:=runL rb st mb os X O (StoreR st n M::blk o3 (.cells (opF (o,osl)).toArray zA8 (0,0))::Γ)) ?_
 refine zGb hk hX (fun r s hm hok hrd=>?_) fun hm s hok=>?_
 ·refine fun w hw=>?_
  refine hg (show Holds B (pur True::_) w from Holds.pur.2 ⟨trivial,hw⟩) ?_
  clear hw w
  refine s_end (Δ:=pur True::blk o3 (.cells (opF (o,osl)).toArray zA8 (0,0))::runL rb st mb os X O (StoreR st n M::Γ)) ?_
  refine rest r s _ ?_ hok fun w hw=>hrd w hw.drops
  unfold nowM; rw [hmg,hm]; rfl
 ·refine s_end (Δ:=Bytes zAe s (sGet n M (bs o.key)).val::blk o3 (.cells (opF (o,osl)).toArray zA8 (0,0))::runL rb st mb os X O (StoreR st n M::Γ)) ?_
  refine rest _ s _ ?_ hok fun w hw=>rdB_of hw
  unfold nowM; rw [hmg,hm]; rfl
end
end Go.Proofs.YtdemfamgieonbaaGreat
namespace Go.Proofs.YtdemfamgieonbaaGreat
open Go Go.Sep Go.Sep.Bt
set_option maxRecDepth 100000
def txOk (t:TxX):Prop:=(∀ k ∈ t.writes,k.length < 1000000000000)∧(∀ x ∈ t.ops,x.1.ok)∧t.ops.length < 1000000∧t.writes.length < 1000000∧t.reads.length < 1000000∧∀ k ∈ t.reads,k.length < 1000000000000
def moveW (n:Nat) (M:Recs) (to:Int):List (List UInt8)→WM→WM×Int
 | [],W=>(W,0)
 | k::ks,W=>if (nowM n M W k).cnt = 18446744073709551615 then (W,111) else moveW n M to ks (mset k { nowM n M W k with home:=to,cnt:=(nowM n M W k).cnt + 1 } W)
theorem zF2 {n:Nat} {M:Recs} {to:Int} {k:List UInt8} {ks:List (List UInt8)} {W:WM}:moveW n M to (k::ks) W = if (nowM n M W k).cnt = 18446744073709551615 then (W,111) else moveW n M to ks (mset k { nowM n M W k with home:=to,cnt:=(nowM n M W k).cnt + 1 } W):=rfl
theorem zL8 {n:Nat} {M:Recs} {to:Int} {W:WM}:moveW n M to [] W = (W,0):=rfl
def opsW (n:Nat) (M:Recs):List OpX→WM→OM→WM×OM×Int
 | [],W,O=>(W,O,0)
 | x::xs,W,O=>if (stepW n M W O x.1).2.2 ≠ 0 then stepW n M W O x.1 else opsW n M xs (stepW n M W O x.1).1 (stepW n M W O x.1).2.1
def runW (n:Nat) (M:Recs) (t:TxX):WM×OM×Int :=
 if t.kind = 2 then ((moveW n M t.to t.writes []).1,[],(moveW n M t.to t.writes []).2) else opsW n M t.ops [] []
section
variable {B:World} {Γ Δ:List HProp} {rb st mb n:Nat} {os:Sl} {X:WX} {O:OX} {M:Recs} {k:List UInt8}
theorem zGc {r r':Rec} {s:Sl} (hm:mget k X = some (r,s)) (hv:r'.val = r.val):(mset k (r',s) X).map wB = X.map wB:=by
 rcases mfind k X with ⟨h1,_⟩ | ⟨j,x,hj,h0,_,h1,h2,_⟩
 ·rw [h1] at hm; cases hm
 ·rw [h1] at hm
  injection hm with hm
  subst hm
  rw [h2,List.map_set]
  apply List.ext_getElem?
  intro i
  rw [List.getElem?_set]
  split
  ·rename_i h3
   subst h3
   simp only [List.getElem?_map,h0,Option.map_some,List.length_map,hj,if_true]
   show some (Bytes zAe s r'.val) = some (Bytes zAe s r.val)
   rw [hv]
  ·rfl
theorem zPZ {Q:Int→K} {t:TxX} (hX:∀ p ∈ X,p.2.1.ok) (htx:txOk t) (ht:∀ w,Holds B Γ w→RdC w t.ws 1 (t.writes.map strV))
  (h:∀ X',modW X' = (moveW n M t.to t.writes (modW X)).1→(∀ p ∈ X',p.2.1.ok)→HG B (runL rb st mb os X' O (StoreR st n M::Γ)) (Q (moveW n M t.to t.writes (modW X)).2)) :
  HG B (runL rb st mb os X O (StoreR st n M::Γ)) (zCV.call (some ⟨rb,0,none⟩) (txL t).toArray Q):=fun w hw=>by
 refine zJt _ _ _ _ ?_
 have hlen:t.ws.n = t.writes.length:=by have:=(ht w hw.drops).len; simpa using this.symm
 refine hg hw ?_
 clear hw w
 unfold zCV
 refine s_new fun t3=>?_
 refine s_ld (b:=t3) (x:=t.ws) ?_
 refine s_end (Δ:=runL rb st mb os X O (StoreR st n M::blk t3 (.cells (txL t).toArray zAp (0,0))::Γ)) ?_
 refine s_loop (α:=Int) (ι:=WX×Nat) (fun x i=>x = (i.2:Int)∧i.2 ≤ t.writes.length∧(∀ p ∈ i.1,p.2.1.ok)∧moveW n M t.to (t.writes.drop i.2) (modW i.1) = moveW n M t.to t.writes (modW X))
  (fun x i=>runL rb st mb os i.1 O (StoreR st n M::blk t3 (.cells (txL t).toArray zAp (0,0))::Γ)) (fun x i=>t.writes.length - i.2) (X,0) ⟨rfl,Nat.zero_le _,hX,rfl⟩ ?_
 rintro k' _ ⟨X1,j⟩ ⟨rfl,hj,hX1,he⟩ hk'
 simp only at hj hX1 he hk' ⊢
 unfold zCV.b1
 refine s_ite (fun hb=>?_) fun hb=>?_
 ·have hjl:j < t.writes.length:=by simp only [decide_eq_true_eq] at hb; omega
  have hd:t.writes.drop j = t.writes[j]::t.writes.drop (j + 1):=List.drop_eq_getElem_cons hjl
  have hkl:t.writes[j].length < 1000000000000:=htx.1 _ (List.getElem_mem hjl)
  have hge:t.writes[j]? = some t.writes[j]:=List.getElem?_eq_getElem hjl
  rw [hd] at he
  generalize t.writes[j] = key at he hkl hge
  refine s_idxS (L:=t.writes) (fun w hw=>ht w hw.drops) hge ?_
  have hmg:mget key (modW X1) = (mget key X1).map (·.1):=zFY _ _ _
  rw [zF2] at he
  have rest:∀ (r:Rec) (s:Sl) (A:HProp),r = nowM n M (modW X1) key→r.ok→(∀ r':Rec,r'.val = r.val→∀ q:K,HG B (Sep.stars ((mset key (r',s) X1).map wB)::blk rb (.cells [.pointer (some ⟨st,0,none⟩),.map (some mb),os.val].toArray zDH (0,0))::MapR strV wV mb (mset key (r',s) X1)::SlC zA1 2 os (O.flatMap oF)::Sep.stars (O.map oB)::StoreR st n M::blk t3 (.cells (txL t).toArray zAp (0,0))::Γ) q→HG B (A::Sep.stars (X1.map wB)::blk rb (.cells [.pointer (some ⟨st,0,none⟩),.map (some mb),os.val].toArray zDH (0,0))::MapR strV wV mb (mset key (r',s) X1)::SlC zA1 2 os (O.flatMap oF)::Sep.stars (O.map oB)::StoreR st n M::blk t3 (.cells (txL t).toArray zAp (0,0))::Γ) q) →
    HG B (A::runL rb st mb os X1 O (StoreR st n M::blk t3 (.cells (txL t).toArray zAp (0,0))::Γ)) ((fun t17=>New zAv [.bool false,Sl.val ⟨none,0,0⟩,.int .i64 0,.int .u64 0].toArray fun x7 =>
  StN x7 4 t17 <|
  Ld (x7.add 3) (Value.int .u64) fun t19 =>
  Ite (decide (t19 = 18446744073709551615))
   (Q 111)
   (Ld ((⟨t3,0,none⟩:Addr).add 4) (Value.int .i64) fun t22 =>
   St (x7.add 2) (.int .i64 t22) <|
   Ld (x7.add 3) (Value.int .u64) fun t25 =>
   Ar (IntKind.wrap .u64 (t25 + 1)) fun t26 =>
   St (x7.add 3) (.int .u64 t26) <|
   Dr <|
   Nn (some ⟨rb,0,none⟩) fun t29 =>
   Ld (t29.add 1) Value.map fun t31 =>
   LdN x7 4 fun t33 =>
   DoU Tryz.prog (Instr.mapUpdate zCO (.map t31) (.string (bs key)) (.agg t33)) <|
   Ar (IntKind.wrap .i64 ((j:Int) + 1)) fun t34 =>
   k' t34)) (recA r s)):=fun r s A hr hok hA=>by
   subst hr
   dsimp only
   refine s_new fun x7=>?_
   refine s_stN (b:=x7) (l':=recL (nowM n M (modW X1) key) s) ?_
   refine s_ld (b:=x7) (x:=(nowM n M (modW X1) key).cnt) ?_
   refine s_ite (fun hc=>?_) fun hc=>?_
   ·rw [if_pos (by simpa using hc)] at he
    have:=h X1 (by rw [← he]) hX1
    rw [← he] at this
    exact s_end this
   ·have hc':¬ (nowM n M (modW X1) key).cnt = 18446744073709551615:=by simpa using hc
    rw [if_neg hc'] at he
    refine s_ld (b:=t3) (x:=t.to) ?_
    refine s_st (b:=x7) ?_
    refine s_ld (b:=x7) (x:=(nowM n M (modW X1) key).cnt) ?_
    obtain ⟨o1,o2,o3⟩:=hok
    refine s_ar (wrapU64 (by omega) (by omega)) ?_
    refine s_st (b:=x7) ?_
    refine s_dr ?_
    refine s_nn ?_
    refine s_ld (b:=rb) (x:=some mb) ?_
    refine s_ldN (b:=x7) (l':=recL { nowM n M (modW X1) key with home:=t.to,cnt:=(nowM n M (modW X1) key).cnt + 1 } s) ?_
    refine s_upd (b:=mb) (enc:=strV) (cV:=wV) (v:=(({ nowM n M (modW X1) key with home:=t.to,cnt:=(nowM n M (modW X1) key).cnt + 1 }:Rec),s)) (cG:=Value.agg) rfl mapRec zFa ?_
    have hwl:=htx.2.2.2.1
    refine s_ai ?_
    refine s_end (Δ:=A::Sep.stars (X1.map wB)::blk rb (.cells [.pointer (some ⟨st,0,none⟩),.map (some mb),os.val].toArray zDH (0,0))::MapR strV wV mb (mset key ({ nowM n M (modW X1) key with home:=t.to,cnt:=(nowM n M (modW X1) key).cnt + 1 },s) X1)::SlC zA1 2 os (O.flatMap oF)::Sep.stars (O.map oB)::StoreR st n M::blk t3 (.cells (txL t).toArray zAp (0,0))::Γ) ?_
    refine hA { nowM n M (modW X1) key with home:=t.to,cnt:=(nowM n M (modW X1) key).cnt + 1 } rfl _ ?_
    refine s_end (Δ:=runL rb st mb os (mset key ({ nowM n M (modW X1) key with home:=t.to,cnt:=(nowM n M (modW X1) key).cnt + 1 },s) X1) O (StoreR st n M::blk t3 (.cells (txL t).toArray zAp (0,0))::Γ)) ?_
    refine hk' _ (mset key ({ nowM n M (modW X1) key with home:=t.to,cnt:=(nowM n M (modW X1) key).cnt + 1 },s) X1,j + 1) ⟨by simp,hjl,zJC hX1 ⟨by simp only; omega,by simp only; omega,o3⟩,?_⟩ (by simp only; omega)
    simp only
    rw [zHo]
    exact he
  refine zGb hkl hX1 (fun r s hm hok hrd=>?_) fun hm s hok=>?_
  ·refine fun w hw=>?_
   refine hg (show Holds B (pur True::_) w from Holds.pur.2 ⟨trivial,hw⟩) ?_
   clear hw w
   refine rest r s _ (by unfold nowM; rw [hmg,hm]; rfl) hok fun r' hr' q hq=>?_
   rw [zGc hm hr'] at hq
   exact s_end hq
  ·refine rest _ s _ (by unfold nowM; rw [hmg,hm]; rfl) hok fun r' hr' q hq=>?_
   rw [show Bytes zAe s (sGet n M (bs key)).val = wB (key,(r',s)) by show _ = Bytes zAe s r'.val; rw [hr']]
   exact s_mset hq
 ·have hjl:j = t.writes.length:=by simp only [decide_eq_false_iff_not] at hb; omega
  rw [hjl,List.drop_length,zL8] at he
  have:=h X1 (by rw [← he]) hX1
  rw [← he] at this
  exact s_end this
end
def rowF (x:List UInt8×(Rec×Sl)):List Value:=strV x.1::recL x.2.1 x.2.2
theorem zJw (x:List UInt8×(Rec×Sl)):(rowF x).length = 5:=rfl
def sortW {ν:Type} (W:List (List UInt8×ν)):List (List UInt8×ν):=W.mergeSort fun p q=>decide (p.1 ≤ q.1)
theorem zPa {ν:Type} (W:List (List UInt8×ν)):(sortW W).map Prod.fst = sortL (W.map Prod.fst):=List.map_mergeSort (fun a _ b _=>rfl)
theorem zQV (X:WX):modW (sortW X) = sortW (modW X):=List.map_mergeSort (fun a _ b _=>rfl)
theorem zEj {ν:Type} (W:List (List UInt8×ν)):(sortW W).Perm W:=List.mergeSort_perm _ _
abbrev KeysOnce {ν:Type} (W:List (List UInt8×ν)):Prop:=(W.map Prod.fst).Nodup
theorem zIb {ν:Type} {W:List (List UInt8×ν)} {k:List UInt8} {v:ν} (h:KeysOnce W):KeysOnce (mset k v W):=by
 unfold KeysOnce
 rw [zFn]
 split
 ·exact h
 ·rename_i hk
  refine List.nodup_append.2 ⟨h,by simp,fun a ha b hb=>?_⟩
  rw [List.mem_singleton.1 hb]
  exact fun e=>hk (e ▸ ha)
theorem zRu {ν:Type} {W:List (List UInt8×ν)} {k:List UInt8} {v:ν} (h:KeysOnce W) (hm:(k,v) ∈ W):mget k W = some v:=by
 induction W with
 | nil=>cases hm
 | cons p W ih =>
  have h1:=List.nodup_cons.1 (show (p.1::W.map Prod.fst).Nodup from h)
  unfold mget
  rcases List.mem_cons.1 hm with rfl | hm
  ·rw [if_pos rfl]
  ·rw [if_neg (show ¬ k = p.1 from fun e=>h1.1 (by rw [← e]; exact List.mem_map.2 ⟨_,hm,rfl⟩))]
   exact ih h1.2 hm
theorem zL9 {n:Nat} {M:Recs} {W:WM} {O:OM} {o:OpM} (h:KeysOnce W):KeysOnce (stepW n M W O o).1:=by
 unfold stepW setW
 repeat' split
 all_goals first | exact h | exact zIb h | skip
 unfold addW setW
 repeat' split
 all_goals first | exact h | exact zIb h
theorem zRv {n:Nat} {M:Recs} {W:WM} {O:OM} {o:OpM}:(stepW n M W O o).2.1.length ≤ O.length + 1:=by
 unfold stepW
 repeat' split
 all_goals simp
theorem zNf {n:Nat} {M:Recs}:∀ {xs:List OpX} {W:WM} {O:OM},KeysOnce W→KeysOnce (opsW n M xs W O).1
 | [],_,_,h=>h
 | x::xs,W,O,h=>by
  unfold opsW
  split
  ·exact zL9 h
  ·exact zNf (zL9 h)
theorem zMA {n:Nat} {M:Recs} {to:Int}:∀ {ks:List (List UInt8)} {W:WM},KeysOnce W→KeysOnce (moveW n M to ks W).1
 | [],_,h=>h
 | k::ks,W,h=>by
  rw [zF2]
  split
  ·exact h
  ·exact zMA (zIb h)
theorem zRw {n:Nat} {M:Recs} {t:TxX}:KeysOnce (runW n M t).1:=by
 unfold runW
 split
 ·exact zMA (by simp [KeysOnce])
 ·exact zNf (by simp [KeysOnce])
theorem zFr {n:Nat} {M:Recs} {x:OpX} {xs:List OpX} {W:WM} {O:OM}:opsW n M (x::xs) W O = if (stepW n M W O x.1).2.2 ≠ 0 then stepW n M W O x.1 else opsW n M xs (stepW n M W O x.1).1 (stepW n M W O x.1).2.1:=rfl
theorem zNg {n:Nat} {M:Recs} {W:WM} {O:OM}:opsW n M [] W O = (W,O,0):=rfl
section
variable {B:World} {Γ Δ:List HProp} {rb st mb n t4:Nat} {os:Sl} {X:WX} {O:OX} {M:Recs} {k:List UInt8}
theorem zQW {Q:Array Value→Sl→K} {e:Int} (hX:KeysOnce X) (hXl:X.length ≤ 1000000)
  (hbad:e ≠ 0→HG B Γ (Q #[.int .i64 e,Sl.val ⟨none,0,0⟩] ⟨none,0,0⟩))
  (hgood:e = 0→∀ rows,HG B (SlC zA1 2 os (O.flatMap oF)::Sep.stars (O.map oB)::SlC zBQ 5 rows ((sortW X).flatMap rowF)::Sep.stars ((sortW X).map wB)::Γ) (Q #[.int .i64 0,os.val] rows)) :
  HG B (blk t4 (.cells [.int .i64 0,Sl.val ⟨none,0,0⟩].toArray zBO (0,0))::runL rb st mb os X O Γ) (zBd.s1 Q ⟨t4,0,none⟩ ⟨rb,0,none⟩ e):=by
 unfold zBd.s1
 refine s_ite (fun hb=>?_) fun hb=>?_
 ·refine s_stN (b:=t4) (l':=[.int .i64 e,Sl.val ⟨none,0,0⟩]) ?_
  refine s_ldN (b:=t4) (l':=[.int .i64 e,Sl.val ⟨none,0,0⟩]) ?_
  exact s_end (hbad (by simpa using hb))
 have h0:e = 0:=by simpa using hb
 have hgood:=hgood h0
 refine s_ld (b:=rb) (x:=some mb) ?_
 refine s_own mb ?_
 refine fun w hw=>zJP hXl hw fun ks w hw=>?_
 refine hg hw ?_
 clear hw w
 rw [← zPa]
 generalize hR:sortW X = R at *
 have hRm:∀ x ∈ R,mget x.1 X = some x.2:=fun x hx=>zRu hX (by rw [← hR] at hx; exact (zEj X).subset hx)
 have hRl:R.length ≤ 1000000:=by rw [← hR,(zEj X).length_eq]; exact hXl
 have hperm:(R.map wB).Perm (X.map wB):=by rw [← hR]; exact (zEj X).map _
 refine s_cap ks fun c1 c2 c3 c4=>?_
 have hkn:ks.n = R.length:=by simpa using c1.symm
 refine fun w hw=>?_
 refine hg (show Holds B (SlC zBQ 5 ⟨none,0,0⟩ []::_) w from hw.nilSl _ _) ?_
 clear hw w
 refine s_loop (α:=Sl×Int) (ι:=Nat) (fun x i=>x.2 = (i:Int)∧i ≤ R.length)
  (fun x i=>SlC zBQ 5 x.1 ((R.take i).flatMap rowF)::SlS ks (R.map Prod.fst)::MapR strV wV mb X::blk t4 (.cells [.int .i64 0,Sl.val ⟨none,0,0⟩].toArray zBO (0,0))::blk rb (.cells [.pointer (some ⟨st,0,none⟩),.map (some mb),os.val].toArray zDH (0,0))::Sep.stars (X.map wB)::SlC zA1 2 os (O.flatMap oF)::Sep.stars (O.map oB)::Γ) (fun x i=>R.length - i) 0 ⟨rfl,Nat.zero_le _⟩ ?_
 rintro k' ⟨rows,jj⟩ j ⟨hj,hjl⟩ hk'
 simp only at hj hjl hk' ⊢
 subst hj
 unfold zBd.b2
 refine s_cap rows fun d1 d2 d3 d4=>?_
 rw [zAT _ 5 zJw,List.length_take,Nat.min_eq_left hjl] at d1
 refine s_ite (fun hb2=>?_) fun hb2=>?_
 ·have hjl2:j < R.length:=by simp only [decide_eq_true_eq] at hb2; omega
  have hge:(R.map Prod.fst)[j]? = some R[j].1:=by rw [List.getElem?_map,List.getElem?_eq_getElem hjl2]; rfl
  have hmx:=hRm _ (List.getElem_mem hjl2)
  have htk:R.take (j + 1) = R.take j++[R[j]]:=List.take_succ_eq_append_getElem hjl2
  generalize R[j] = x at hge hmx htk
  refine s_idxS (L:=R.map Prod.fst) (fun w hw=>(own_rd (s:=ks) hw).1) hge ?_
  refine s_ld (b:=rb) (x:=some mb) ?_
  refine zSy (b:=mb) (enc:=strV) (cV:=wV) (cG:=Value.agg) (g:=fun x=>recA x.1 x.2) (z:=zRec) (a:=x.1) (fun _=>rfl) mapRec zFa zeroRec ?_
  rw [hmx]
  refine s_bld (cs:=rowF x) ?_ rfl
  refine s_bld1 (cs:=rowF x) ?_
  refine s_app1 (s:=rows) (m:=1) (us:=rowF x) (fun rows' hrows'=>?_)
  refine s_ai ?_
  have e1:(R.take j).flatMap rowF++rowF x = (R.take (j + 1)).flatMap rowF:=by rw [htk]; simp
  rw [e1]
  exact hk' (rows',(j:Int) + 1) (j + 1) ⟨by simp,hjl2⟩ (by omega)
 ·have hjl2:j = R.length:=by simp only [decide_eq_false_iff_not] at hb2; omega
  refine s_ld (b:=rb) (x:=os) ?_
  refine s_stN (b:=t4) (l':=[.int .i64 0,os.val]) ?_
  refine s_ldN (b:=t4) (l':=[.int .i64 0,os.val]) ?_
  rw [hjl2,List.take_length]
  refine s_pick (Sep.stars (X.map wB)) ?_
  refine fun w hw=>?_
  refine hg (show Holds B (Sep.stars (R.map wB)::_) w from Holds.flat.2 ((Holds.flat.1 hw).perm (hperm.symm.append_right _))) ?_
  exact s_end (hgood rows)
theorem zRx (X:WX):(modW X).map Prod.fst = X.map Prod.fst:=by simp [modW,Function.comp_def]
theorem zJx {ν:Type} (W:List (List UInt8×ν)) (k:List UInt8) (v:ν):(mset k v W).length ≤ W.length + 1:=by
 have h:=congrArg List.length (zFn W k v)
 rw [List.length_map] at h
 rw [h]
 split
 ·simp
 ·simp
theorem zQX {n:Nat} {M:Recs} {W:WM} {O:OM} {o:OpM}:(stepW n M W O o).1.length ≤ W.length + 1:=by
 unfold stepW setW
 repeat' split
 all_goals first | exact zJx _ _ _ | (simp only; omega) | skip
 unfold addW setW
 repeat' split
 all_goals first | exact zJx _ _ _ | (simp only; omega)
theorem zJy {n:Nat} {M:Recs}:∀ {xs:List OpX} {W:WM} {O:OM},(opsW n M xs W O).1.length ≤ W.length + xs.length
 | [],_,_=>by simp [opsW]
 | x::xs,W,O=>by
  rw [zFr]
  have:=zQX (n:=n) (M:=M) (W:=W) (O:=O) (o:=x.1)
  split
  ·simp only [List.length_cons]; omega
  ·have h2:=zJy (n:=n) (M:=M) (xs:=xs) (W:=(stepW n M W O x.1).1) (O:=(stepW n M W O x.1).2.1)
   simp only [List.length_cons]; omega
theorem zIc {n:Nat} {M:Recs} {to:Int}:∀ {ks:List (List UInt8)} {W:WM},(moveW n M to ks W).1.length ≤ W.length + ks.length
 | [],_=>by simp [moveW]
 | k::ks,W=>by
  rw [zF2]
  split
  ·simp only [List.length_cons]; omega
  ·exact Nat.le_trans zIc (Nat.le_trans (Nat.add_le_add_right (zJx _ _ _) _) (by simp only [List.length_cons]; omega))
theorem zOD {Q:Array Value→Sl→K} {t:TxX} (htx:txOk t) (ht:∀ w,Holds B Γ w→txRd w t)
  (hbad:(runW n M t).2.2 ≠ 0→HG B (StoreR st n M::Γ) (Q #[.int .i64 (runW n M t).2.2,Sl.val ⟨none,0,0⟩] ⟨none,0,0⟩))
  (hgood:(runW n M t).2.2 = 0→∀ (os:Sl) (O:OX) (rows:Sl) (R:WX),O.map Prod.fst = (runW n M t).2.1→modW R = sortW (runW n M t).1→(∀ p ∈ R,p.2.1.ok)→HG B (SlC zA1 2 os (O.flatMap oF)::Sep.stars (O.map oB)::SlC zBQ 5 rows (R.flatMap rowF)::Sep.stars (R.map wB)::StoreR st n M::Γ) (Q #[.int .i64 0,os.val] rows)) :
  HG B (StoreR st n M::Γ) (zBd.call (some ⟨st,0,none⟩) (txL t).toArray Q):=fun w hw=>by
 refine zOC _ _ _ _ ?_
 have hon:t.os.n = t.ops.length:=rd_len zDF (by omega) (ht w hw.drops).2.2.1
 refine hg hw ?_
 clear hw w
 unfold zBd
 refine s_new fun t3=>?_
 refine s_new fun t4=>?_
 refine zI8 (enc:=strV) (cV:=wV) fun mb=>?_
 refine s_new fun rb=>?_
 refine s_ld (b:=t3) (x:=t.kind) ?_
 refine fun w hw=>?_
 refine hg (show Holds B (Sep.stars (([]:WX).map wB)::_) w from Holds.flat.2 hw) ?_
 clear hw w
 refine fun w hw=>?_
 refine hg (show Holds B (Sep.stars (([]:OX).map oB)::_) w from Holds.flat.2 hw) ?_
 clear hw w
 refine fun w hw=>?_
 refine hg (show Holds B (SlC zA1 2 ⟨none,0,0⟩ (([]:OX).flatMap oF)::_) w from hw.nilSl _ _) ?_
 clear hw w
 have fin:∀ (os:Sl) (X:WX) (O:OX) (e:Int),modW X = (runW n M t).1→O.map Prod.fst = (runW n M t).2.1→e = (runW n M t).2.2→(∀ p ∈ X,p.2.1.ok)→HG B (blk t4 (.cells [.int .i64 0,Sl.val ⟨none,0,0⟩].toArray zBO (0,0))::runL rb st mb os X O (StoreR st n M::Γ)) (zBd.s1 Q ⟨t4,0,none⟩ ⟨rb,0,none⟩ e):=fun os X O e h1 h2 h3 h4=>by
  have hko:KeysOnce X:=by unfold KeysOnce; rw [← zRx,h1]; exact zRw
  have hwl:X.length ≤ 1000000:=by
   have e1:X.length = (modW X).length:=by simp
   rw [e1,h1]
   unfold runW
   have:=htx.2.2
   split
   ·have h5:=zIc (n:=n) (M:=M) (to:=t.to) (ks:=t.writes) (W:=[])
    simp only [List.length_nil] at h5
    simp only; omega
   ·have h5:=zJy (n:=n) (M:=M) (xs:=t.ops) (W:=[]) (O:=[])
    simp only [List.length_nil] at h5
    omega
  refine zQW hko hwl (fun h5=>?_) fun h5 rows=>?_
  ·rw [h3]; exact hbad (by rw [← h3]; exact h5)
  ·refine hgood (by rw [← h3]; exact h5) os O rows (sortW X) h2 (by rw [zQV,h1]) fun p hp=>h4 p ((zEj X).subset hp)
 refine s_ite (fun hb=>?_) fun hb=>?_
 ·have hk2:t.kind = 2:=by simpa using hb
  have hr:runW n M t = ((moveW n M t.to t.writes []).1,[],(moveW n M t.to t.writes []).2):=by unfold runW; rw [if_pos hk2]
  refine s_ldN (b:=t3) (l':=txL t) ?_
  refine s_end (Δ:=runL rb st mb ⟨none,0,0⟩ [] [] (StoreR st n M::blk t4 (.cells [.int .i64 0,Sl.val ⟨none,0,0⟩].toArray zBO (0,0))::Γ)) ?_
  refine zPZ (by simp) htx (fun w hw=>(ht w hw.tail).2.1) fun X' h1 h2=>?_
  refine s_end (Δ:=blk t4 (.cells [.int .i64 0,Sl.val ⟨none,0,0⟩].toArray zBO (0,0))::runL rb st mb ⟨none,0,0⟩ X' [] (StoreR st n M::Γ)) ?_
  exact fin _ X' [] _ (by rw [hr]; exact h1) (by rw [hr]; rfl) (by rw [hr]; rfl) h2
 ·have hk2:¬ t.kind = 2:=by simpa using hb
  have hr:runW n M t = opsW n M t.ops [] []:=by unfold runW; rw [if_neg hk2]
  refine s_ld (b:=t3) (x:=t.os) ?_
  refine s_end (Δ:=runL rb st mb ⟨none,0,0⟩ [] [] (StoreR st n M::blk t4 (.cells [.int .i64 0,Sl.val ⟨none,0,0⟩].toArray zBO (0,0))::Γ)) ?_
  refine s_loop (α:=Int×Int) (ι:=Sl×WX×OX×Nat) (fun x i=>x.1 = 0∧x.2 = (i.2.2.2:Int)∧i.2.2.2 ≤ t.ops.length∧(∀ p ∈ i.2.1,p.2.1.ok)∧i.2.2.1.length ≤ i.2.2.2∧opsW n M (t.ops.drop i.2.2.2) (modW i.2.1) (i.2.2.1.map Prod.fst) = opsW n M t.ops [] [])
   (fun x i=>runL rb st mb i.1 i.2.1 i.2.2.1 (StoreR st n M::blk t4 (.cells [.int .i64 0,Sl.val ⟨none,0,0⟩].toArray zBO (0,0))::Γ)) (fun x i=>t.ops.length - i.2.2.2) (⟨none,0,0⟩,[],[],0) ⟨rfl,rfl,Nat.zero_le _,by simp,Nat.le_refl _,rfl⟩ ?_
  rintro k' ⟨_,_⟩ ⟨os1,X1,O1,j⟩ ⟨rfl,rfl,hjl,hX1,hO1,he⟩ hk'
  simp only at hjl hX1 hO1 he hk' ⊢
  unfold zBd.b3
  refine s_ite (fun hb2=>?_) fun hb2=>?_
  ·have hjl2:j < t.ops.length:=by simp only [decide_eq_true_eq] at hb2; omega
   have hge:t.ops[j]? = some t.ops[j]:=List.getElem?_eq_getElem hjl2
   have hmem:t.ops[j] ∈ t.ops:=List.getElem_mem hjl2
   rw [List.drop_eq_getElem_cons hjl2] at he
   generalize t.ops[j] = x at hge hmem he
   obtain ⟨o,osl⟩:=x
   refine s_idxN opF zDF (fun w hw=>(ht w hw.drops).2.2.1) hge ?_
   refine s_new fun o9=>?_
   refine s_stN (b:=o9) (l':=opF (o,osl)) ?_
   refine s_ldN (b:=o9) (l':=opF (o,osl)) ?_
   refine s_end (Δ:=runL rb st mb os1 X1 O1 (StoreR st n M::blk t4 (.cells [.int .i64 0,Sl.val ⟨none,0,0⟩].toArray zBO (0,0))::Γ)) ?_
   have hol:=htx.2.2.1
   refine zPY (htx.2.1 _ hmem) hX1 (by omega) (fun w hw=>(ht w hw.tail).2.2.2 _ hmem) fun os2 X2 O2 h1 h2 h3=>?_
   rw [zFr] at he
   refine s_ite (fun hc=>?_) fun hc=>?_
   ·have hc':(stepW n M (modW X1) (O1.map Prod.fst) o).2.2 ≠ 0:=by simpa using hc
    rw [if_pos hc'] at he
    refine s_end (Δ:=blk t4 (.cells [.int .i64 0,Sl.val ⟨none,0,0⟩].toArray zBO (0,0))::runL rb st mb os2 X2 O2 (StoreR st n M::Γ)) ?_
    exact fin os2 X2 O2 _ (by rw [hr,← he,h1]) (by rw [hr,← he,h2]) (by rw [hr,← he]) h3
   ·have hc':(stepW n M (modW X1) (O1.map Prod.fst) o).2.2 = 0:=by simpa using hc
    rw [if_neg (by simp [hc'])] at he
    refine s_ai ?_
    rw [hc']
    refine hk' (0,(j:Int) + 1) (os2,X2,O2,j + 1) ⟨rfl,by simp,hjl2,h3,?_,?_⟩ (by simp only; omega)
    ·have e1:=congrArg List.length h2
     have e2:=zRv (n:=n) (M:=M) (W:=modW X1) (O:=O1.map Prod.fst) (o:=o)
     simp only [List.length_map] at e1 e2
     simp only; omega
    ·simp only
     rw [h1,h2]; exact he
  ·have hjl2:j = t.ops.length:=by simp only [decide_eq_false_iff_not] at hb2; omega
   rw [hjl2,List.drop_length,zNg] at he
   refine s_end (Δ:=blk t4 (.cells [.int .i64 0,Sl.val ⟨none,0,0⟩].toArray zBO (0,0))::runL rb st mb os1 X1 O1 (StoreR st n M::Γ)) ?_
   exact fin os1 X1 O1 _ (by rw [hr,← he]) (by rw [hr,← he]) (by rw [hr,← he]) hX1
end
end Go.Proofs.YtdemfamgieonbaaGreat
namespace Go.Sep
open Go Go.RowKit
namespace Bt
section
variable {κ:Type} {G:BtT κ} {c:κ→κ→Int} {B:World} {Γ Δ:List HProp}
def wv:List G.It→List (Kid G)→List G.It
 | its,[]=>its
 | [],q::_=>q.2
 | x::its,q::ks=>q.2++x::wv its ks
theorem wv_ps (q0:Kid G):∀ (ps:List (G.It×Kid G)),wv (ps.map Prod.fst) (q0::ps.map Prod.snd) = psL q0 ps
 | []=>by simp [wv,psL]
 | (x,q)::ps=>by
  have e:psL q0 ((x,q)::ps) = q0.2++x::psL q ps:=by simp [psL]
  rw [e,← wv_ps q ps]; rfl
def Fit (d:Nat) (its:List G.It) (ks:List (Kid G)):Prop:=match d with
 | 0=>ks = []
 | _ + 1=>ks.length = its.length + 1
def kidsD (G:BtT κ):Nat→List (Kid G)→HProp
 | 0,_=>Sep.stars []
 | d + 1,ks=>kidsR G d ks
abbrev rawL (G:BtT κ) (d b:Nat) (s kd:Sl) (its:List G.It) (ks:List (Kid G)) (Γ:List HProp):List HProp:=nodeB G b s kd::itsR G s its::kpsR G kd (ks.map ptr)::kidsD G d ks::Γ
theorem s_raw {d m b:Nat} {L:List G.It} {k:K} (h:∀ s kd its ks,Fit d its ks→its.length ≤ 5→(m = 2→its ≠ [])→L = wv its ks→HG B (rawL G d b s kd its ks Γ) k):HG B (NodeR G d m b L::Γ) k:=by
 cases d with
 | zero =>
  refine zF9 fun s kd h1 h2=>?_
  refine fun w hw=>?_
  refine hg (show Holds B (kidsD G 0 []::_) w from Holds.flat.2 hw) ?_
  have:=h s kd L [] rfl h2 h1 (by cases L <;> rfl)
  refine s_end (Δ:=nodeB G b s kd::itsR G s L::kpsR G kd []::kidsD G 0 []::Γ) ?_
  exact this
 | succ d =>
  refine zGx fun s kd q0 ps h1 h2 h3=>?_
  exact h s kd (ps.map Prod.fst) (q0::ps.map Prod.snd) (by simp [Fit]) (by simpa using h2) (fun hm=>by simpa using h1 (by omega)) (by rw [h3,wv_ps])
theorem zip_ps {its:List G.It} {ks:List (Kid G)} (h:ks.length = its.length + 1):∃ (q0:Kid G) (ps:List (G.It×Kid G)),its = ps.map Prod.fst∧ks = q0::ps.map Prod.snd:=by
 cases ks with
 | nil=>simp at h
 | cons q0 ks =>
  refine ⟨q0,its.zip ks,?_,?_⟩
  ·rw [List.map_fst_zip (by simp at h; omega)]
  ·rw [List.map_snd_zip (by simp at h; omega)]
theorem zD6 {d m b:Nat} {s kd:Sl} {its:List G.It} {ks:List (Kid G)} {k:K} (hf:Fit d its ks) (hl:its.length ≤ 5) (hm:1 ≤ m→(d = 0∧m = 1)∨its ≠ []) (h:HG B (NodeR G d m b (wv its ks)::Γ) k):HG B (rawL G d b s kd its ks Γ) k:=by
 cases d with
 | zero =>
  have hk:ks = []:=hf
  subst hk
  have e:wv its [] = its:=by cases its <;> rfl
  rw [e] at h
  show HG B (nodeB G b s kd::itsR G s its::kpsR G kd []::kidsD G 0 []::Γ) k
  refine s_end (Δ:=nodeB G b s kd::itsR G s its::kpsR G kd []::Γ) ?_
  exact s_mk0 (fun h2=>by
               rcases hm (by omega) with h3 | h3
               ·omega
               ·exact h3) hl h
 | succ d =>
  obtain ⟨q0,ps,rfl,rfl⟩:=zip_ps hf
  rw [wv_ps] at h
  exact s_mkS (fun h2=>by
               rcases hm h2 with h3 | h3
               ·omega
               ·simpa using h3) (by simpa using hl) h
end
end Bt
end Go.Sep
