/- Texts of the claim SchedSerial, one behind the other. -/
import Derived.Test.YtdemfamgieonbaaGreatSchedSerialM2
import Derived.Shelf.SortM.Plain
import Derived.Shelf.SortM.SortNone
import Derived.Ground.SlgmProg
import Derived.Test.YtdemfamgieonbaaGreatProg
import Derived.Maps.RangeRun
import Derived.Laws.StructEq
import Derived.Deep.OwnRows
set_option linter.all false
set_option maxRecDepth 100000
namespace Go.Sep
section
open Go Go.RowKit
class Nx (B:World) (Γ:List zC) (k:K) (Δ:outParam (List zC)) (j:outParam K):Prop where h:HG B Δ j→HG B Γ k
class zRV (l:List Value) (n:Nat) (v:outParam Value):Prop where h:nth l n = some v
class Cv {α:Type} (c:α→Value) (v:Value) (x:outParam α):Prop where h:v = c x
class zZQ (l:List Value) (n:Nat) (v:Value) (l':outParam (List Value)):Prop where h:l.set n v = l'∧n < l.length
class zMj (l:List Value) (m n:Nat) (l':outParam (List Value)):Prop where h:(l.drop m).take n = l'∧l'.length = n
class zK1 (v:Value):Prop where h:yu v = true
class zUQ (l:List Value):Prop where h:l.all yu = true
class zRW (l:List Value) (n:outParam Nat):Prop where h:l.length = n
class zIa (b:Bool) (v:outParam Bool):Prop where h:b = v
instance zdd {v:Value} {l:List Value}:zRV (v::l) 0 v:=⟨rfl⟩
instance zde {v u:Value} {l:List Value} {n:Nat} [h:zRV l n v]:zRV (u::l) (n + 1) v:=⟨h.h⟩
instance zc8 {b:Bool}:Cv Value.bool (.bool b) b:=⟨rfl⟩
instance zdf {k:IntKind} {n:Int}:Cv (Value.int k) (.int k n) n:=⟨rfl⟩
instance zdg {b:ByteArray}:Cv Value.string (.string b) b:=⟨rfl⟩
instance zdh {p:Option Addr}:Cv Value.pointer (.pointer p) p:=⟨rfl⟩
instance zdi {p:Option Nat}:Cv Value.map (.map p) p:=⟨rfl⟩
instance (priority:=high) zdw {s:Sl}:Cv Sl.val s.val s:=⟨rfl⟩
instance zdj {a:Option Addr} {n c:Nat}:Cv Sl.val (.slice a n c) ⟨a,n,c⟩:=⟨rfl⟩
instance zdx {v:Value}:Cv id v v:=⟨rfl⟩
instance zdk {v:Array Value}:Cv Value.agg (.agg v) v:=⟨rfl⟩
instance zdl {v u:Value} {l:List Value}:zZQ (u::l) 0 v (v::l):=⟨⟨rfl,Nat.zero_lt_succ _⟩⟩
instance zdm {v u:Value} {l l':List Value} {n:Nat} [h:zZQ l n v l']:zZQ (u::l) (n + 1) v (u::l'):=⟨⟨by rw [List.set_cons_succ,h.h.1],Nat.succ_lt_succ h.h.2⟩⟩
instance zc9 {l:List Value}:zMj l 0 0 []:=⟨⟨rfl,rfl⟩⟩
instance zdA {u:Value} {l l':List Value} {n:Nat} [h:zMj l 0 n l']:zMj (u::l) 0 (n + 1) (u::l'):=⟨⟨by have:=h.h.1; rw [List.drop_zero] at this ⊢; rw [List.take_succ_cons,this],by rw [List.length_cons,h.h.2]⟩⟩
instance zdB {u:Value} {l l':List Value} {m n:Nat} [h:zMj l m n l']:zMj (u::l) (m + 1) n l':=⟨h.h⟩
instance zdC {b:Bool}:zK1 (.bool b):=⟨rfl⟩
instance zdD {k:IntKind} {n:Int}:zK1 (.int k n):=⟨rfl⟩
instance zdE {b:ByteArray}:zK1 (.string b):=⟨rfl⟩
instance zdF {p:Option Addr}:zK1 (.pointer p):=⟨rfl⟩
instance zdG {p:Option Nat}:zK1 (.map p):=⟨rfl⟩
instance zcm {a:Option Addr} {n c:Nat}:zK1 (.slice a n c):=⟨rfl⟩
instance zdH:zUQ []:=⟨rfl⟩
instance zdI {v:Value} {l:List Value} [h:zK1 v] [g:zUQ l]:zUQ (v::l):=⟨by rw [List.all_cons,h.h,g.h]; rfl⟩
instance zdn:zRW [] 0:=⟨rfl⟩
instance zdo {v:Value} {l:List Value} {n:Nat} [h:zRW l n]:zRW (v::l) (n + 1):=⟨by rw [List.length_cons,h.h]⟩
instance zdJ:zIa true true:=⟨rfl⟩
instance zdK:zIa false false:=⟨rfl⟩
instance zcn {b:Bool} [h:zIa b true]:zIa (!b) false:=⟨by rw [h.h]; rfl⟩
instance zco {b:Bool} [h:zIa b false]:zIa (!b) true:=⟨by rw [h.h]; rfl⟩
instance zdL {α:Type} {x:α}:zIa (some x).isNone false:=⟨rfl⟩
instance zdM {α:Type}:zIa (none:Option α).isNone true:=⟨rfl⟩
instance (priority:=high) zcM {b n:Nat}:zDa ((⟨b,0,none⟩:Addr).add n) b n:=⟨by rw [uT,Nat.zero_add]⟩
section
variable {B:World} {Γ Δ Γ0:List zC} {k j:K}
theorem zBE {k:(World→Prop)→K} (Γ0:List zC) (h:HG B Γ (k (Holds B Γ0))) [d:Drops Γ Γ0]:HG B Γ (yh k):=fun w hw=>⟨Holds B Γ0,hw.drops,h w hw⟩
theorem zT (h:HG B Δ j) [n:Nx B Γ k Δ j]:HG B Γ k:=n.h h
instance zdp {a:Addr} {k:Addr→K}:Nx B Γ (Nn (some a) k) Γ (k a):=⟨uP⟩
instance zdq:Nx B Γ (Dr k) Γ k:=⟨vo⟩
instance zdr {k:(World→Prop)→K}:Nx B Γ (yh k) Γ (k (Holds B Γ)):=⟨zNe⟩
instance zds [d:Drops Γ Δ]:Nx B Γ (Sv (Holds B Δ) k) Γ k:=⟨fun h=>zBC h⟩
instance zdu {α:Type} {a:Addr} {b off:Nat} {l:List Value} {T:TypeId} {fz:Nat×Nat} {c:α→Value} {v:Value} {x:α} {k:α→K} [ad:zDa a b off] [p:Own b Γ (blk b (.cells l.toArray T fz)) Δ] [n:zRV l off v] [e:Cv c v x]:Nx B Γ (Ld a c k) Γ (k x):=⟨fun h=>yB h (by rw [n.h,e.h])⟩
instance zdN {α:Type} {a:Addr} {b off:Nat} {l:List Value} {T:TypeId} {fz:Nat×Nat} {c:α→Value} {v:Value} {x:α} {k:α→K} [ad:zDa a b off] [p:Own b Γ0 (blk b (.cells l.toArray T fz)) Δ] [n:zRV l off v] [e:Cv c v x]:Nx B Γ (LdS (Holds B Γ0) a c k) Γ (k x):=⟨fun h=>jC h (by rw [n.h,e.h])⟩
instance zdO {a:Addr} {b off n:Nat} {l l':List Value} {T:TypeId} {fz:Nat×Nat} {k:Array Value→K} [ad:zDa a b off] [p:Own b Γ (blk b (.cells l.toArray T fz)) Δ] [t:zMj l off n l']:Nx B Γ (LdN a n k) Γ (k l'.toArray):=⟨fun h=>qI h t.h.1 t.h.2⟩
instance zcp {a:Addr} {b off n:Nat} {l l':List Value} {T:TypeId} {fz:Nat×Nat} {k:Array Value→K} [ad:zDa a b off] [p:Own b Γ0 (blk b (.cells l.toArray T fz)) Δ] [t:zMj l off n l']:Nx B Γ (vY (Holds B Γ0) a n k) Γ (k l'.toArray):=⟨fun h=>zBM h t.h.1 t.h.2⟩
instance zdv {a:Addr} {b off:Nat} {l l':List Value} {T:TypeId} {v:Value} [ad:zDa a b off] [p:Own b Γ (blk b (.cells l.toArray T (0,0))) Δ] [s:zZQ l off v l'] [f:zK1 v]:Nx B Γ (St a v k) (blk b (.cells l'.toArray T (0,0))::Δ) k:=⟨fun h=>zCB h (Nat.ble_eq_true_of_le s.h.2) s.h.1 f.h⟩
instance zdP {a:Addr} {b n:Nat} {l l':List Value} {T:TypeId} [ad:zDa a b 0] [p:Own b Γ (blk b (.cells l.toArray T (0,0))) Δ] [h1:zRW l n] [h2:zRW l' n] [f:zUQ l']:Nx B Γ (StN a n l'.toArray k) (blk b (.cells l'.toArray T (0,0))::Δ) k:=⟨fun h=>qA h h1.h h2.h f.h⟩
instance zdQ {α:Type} {l:List Value} {off:Nat} {c:α→Value} {v:Value} {x:α} {k:α→K} [n:zRV l off v] [e:Cv c v x]:Nx B Γ (Fld l.toArray off c k) Γ (k x):=⟨fun h=>zcE h (by rw [n.h,e.h])⟩
instance zcq {zero cs:List Value} {n:Nat} {k:Array Value→K} [h1:zRW zero n] [h2:zRW cs n]:Nx B Γ (Bld zero.toArray (fun i=>some (i * n,n)) [(0,.agg cs.toArray)] k) Γ (k cs.toArray):=⟨fun h=>zBf h h1.h h2.h⟩
instance zdy {b:Bool} {x y:K} [h:zIa b true]:Nx B Γ (Ite b x y) Γ x:=⟨fun g=>s_t g h.h⟩
instance zdz {b:Bool} {x y:K} [h:zIa b false]:Nx B Γ (Ite b x y) Γ y:=⟨fun g=>s_f g h.h⟩
end
class zG9 (v:Value) (us:outParam (List Value)):Prop where h:v.cells = us.toArray
class zOR (z:List Value) (off:Nat) (us:List Value) (z':outParam (List Value)):Prop where h:off + us.length ≤ z.length∧z' = z.take off++us++z.drop (off + us.length)
class zP7 (pl:List (Nat×Nat)) (i:Nat) (off n:outParam Nat):Prop where h:pl[i]? = some (off,n)
class zUR (pl:List (Nat×Nat)) (z:List Value) (ps:List (Nat×Value)) (cs:outParam (List Value)):Prop where h:Instr.fill (pl[·]?) z.toArray ps = some cs.toArray
instance zcr {l:List Value}:zG9 (.agg l.toArray) l:=⟨rfl⟩
instance zcs {b:Bool}:zG9 (.bool b) [.bool b]:=⟨rfl⟩
instance zct {k:IntKind} {n:Int}:zG9 (.int k n) [.int k n]:=⟨rfl⟩
instance zcu {b:ByteArray}:zG9 (.string b) [.string b]:=⟨rfl⟩
instance zcv {p:Option Addr}:zG9 (.pointer p) [.pointer p]:=⟨rfl⟩
instance zcw {p:Option Nat}:zG9 (.map p) [.map p]:=⟨rfl⟩
instance zcN {a:Option Addr} {n c:Nat}:zG9 (.slice a n c) [.slice a n c]:=⟨rfl⟩
instance zdR {z:List Value}:zOR z 0 [] z:=⟨⟨by simp,by simp⟩⟩
instance zdS {v u:Value} {z us z':List Value} [h:zOR z 0 us z']:zOR (v::z) 0 (u::us) (u::z'):=⟨by
 obtain ⟨h1,h2⟩:=h.h
 simp only [Nat.zero_add,List.take_zero,List.nil_append] at h1 h2
 refine ⟨by simp; omega,?_⟩
 simp only [List.length_cons,Nat.zero_add,List.take_zero,List.nil_append,List.drop_succ_cons,List.cons_append]
 rw [h2]⟩
instance zdT {v:Value} {z us z':List Value} {off:Nat} [h:zOR z off us z']:zOR (v::z) (off + 1) us (v::z'):=⟨by
 obtain ⟨h1,h2⟩:=h.h
 refine ⟨by simp; omega,?_⟩
 rw [h2,show off + 1 + us.length = (off + us.length) + 1 by omega]
 simp⟩
instance zcx {o n:Nat} {pl:List (Nat×Nat)}:zP7 ((o,n)::pl) 0 o n:=⟨rfl⟩
instance zcy {x:Nat×Nat} {o n i:Nat} {pl:List (Nat×Nat)} [h:zP7 pl i o n]:zP7 (x::pl) (i + 1) o n:=⟨h.h⟩
instance zdU {pl:List (Nat×Nat)} {z:List Value}:zUR pl z [] z:=⟨rfl⟩
theorem zVO {pl:Nat→Option (Nat×Nat)} {z us z':List Value} {i off:Nat} {v:Value} {ps:List (Nat×Value)} (hp:pl i = some (off,us.length)) (hc:v.cells = us.toArray) (h:off + us.length ≤ z.length∧z' = z.take off++us++z.drop (off + us.length)) :
  Instr.fill pl z.toArray ((i,v)::ps) = Instr.fill pl z'.toArray ps:=by
 obtain ⟨h1,rfl⟩:=h
 rw [Instr.fill,hp,hc]
 simp only [List.size_toArray]
 rw [if_neg (by simp; omega)]
 congr 1
 have hl:(z.take off).length = off:=by rw [List.length_take]; omega
 have key:∀ (us m pre C:List Value),pre.length = off→m.length = us.length→∀ (o:Nat) (pre2:List Value),pre2.length = off + o→(us.zipIdx o).foldl (fun (cs:Array Value) (p:Value×Nat)=>cs.setIfInBounds (off + p.2) p.1) (pre2++m++C).toArray = (pre2++us++C).toArray:=by
  intro us
  induction us with
  | nil=>intro m pre C _ hm o pre2 _; rw [List.length_eq_zero_iff.1 hm]; rfl
  | cons u us ih=>
   intro m pre C hp hm o pre2 hp2
   cases m with
   | nil=>simp at hm
   | cons x m=>
    simp only [List.zipIdx_cons,List.foldl_cons]
    have e:(pre2++x::m++C).toArray.setIfInBounds (off + o) u = ((pre2++[u])++m++C).toArray:=by
     apply Array.ext'
     rw [← hp2]
     simp
    rw [e,ih m pre C hp (by simpa using hm) (o + 1) (pre2++[u]) (by simp; omega)]
    simp
 have e:z = z.take off++(z.drop off).take us.length++z.drop (off + us.length):=by
  rw [← List.drop_drop,List.append_assoc,List.take_append_drop,List.take_append_drop]
 have h3:=key us ((z.drop off).take us.length) (z.take off) (z.drop (off + us.length)) hl (by rw [List.length_take,List.length_drop]; omega) 0 (z.take off) (by omega)
 rw [← e] at h3
 rw [← Array.foldl_toList,Array.toList_zipIdx]
 exact h3
instance zdV {pl:List (Nat×Nat)} {z z' us cs:List Value} {i off n:Nat} {v:Value} {ps:List (Nat×Value)} [p:zP7 pl i off n] [c:zG9 v us] [l:zRW us n] [o:zOR z off us z'] [f:zUR pl z' ps cs]:zUR pl z ((i,v)::ps) cs :=
 ⟨by rw [zVO (by rw [l.h]; exact p.h) c.h o.h]; exact f.h⟩
instance zdW {pl:List (Nat×Nat)} {B:World} {Γ:List zC} {z cs:List Value} {ps:List (Nat×Value)} {k:Array Value→K} [f:zUR pl z ps cs]:Nx B Γ (Bld z.toArray (pl[·]?) ps k) Γ (k cs.toArray):=⟨fun h w hw=>⟨_,f.h,h w hw⟩⟩
end
section
open Go Go.RowKit
namespace Bt
section
variable {κ:Type} {G:BtD κ} {c:κ→κ→Int} {B:World} {Γ Δ:List zC}
theorem zJf {L:List (Kid G.toBtT)} {i:Nat} {q:Kid G.toBtT} (h:L[i]? = some q):((L.map ptr).map Value.pointer)[i * 1]? = some (Value.pointer (ptr q)):=by simp [h]
theorem zLv {α:Type} {A C:List α} {x y:α}:(A++x::y::C)[A.length + 1]? = some y:=by
 rw [List.getElem?_append_right (by omega),show A.length + 1 - A.length = 1 by omega]; rfl
theorem zVP {x:G.It} {its:List G.It}:((x::its).flatMap G.f).take (0 * (G.nv + 1))++((x::its).flatMap G.f).drop (1 * (G.nv + 1)) = its.flatMap G.f:=by
 rw [zDc G.qy]; simp
theorem zSl {p:Kid G.toBtT} {kp:List (Kid G.toBtT)}:(((p::kp).map ptr).map Value.pointer).take (0 * 1)++(((p::kp).map ptr).map Value.pointer).drop (1 * 1) = (kp.map ptr).map Value.pointer:=by simp
theorem zUS {A C:List G.It} {x:G.It}:((A++x::C).flatMap G.f).take (A.length * (G.nv + 1))++((A++x::C).flatMap G.f).drop ((A.length + 1) * (G.nv + 1)) = (A++C).flatMap G.f:=by
 rw [zDd G.qy,zDc G.qy,List.take_left,show A++x::C = (A++[x])++C by simp,List.drop_left' (by simp)]; simp
theorem zW6 {A C:List (Kid G.toBtT)} {p q:Kid G.toBtT}:(((A++p::q::C).map ptr).map Value.pointer).take ((A.length + 1) * 1)++(((A++p::q::C).map ptr).map Value.pointer).drop ((A.length + 2) * 1) = ((A++p::C).map ptr).map Value.pointer:=by
 rw [Nat.mul_one,Nat.mul_one,← List.map_take,← List.map_take,← List.map_drop,← List.map_drop]
 rw [show A++p::q::C = (A++[p])++q::C by simp,List.take_left' (by simp),show (A++[p])++q::C = (A++[p,q])++C by simp,List.drop_left' (by simp)]
 simp
theorem zUT (ok:zJd G c) {d n:Nat} {s kd sr kr sq kq:Sl} {A C:List (Kid G.toBtT)} {q r:Kid G.toBtT} {IA IC ir iq:List G.It} {x y:G.It} {cr cq:List (Kid G.toBtT)} {i:Int} {Q:K}
  (hi:i = (A.length:Int)) (hA:IA.length = A.length) (hl:IA.length + IC.length ≤ 5) (hC:C.length = IC.length) (hr:1 ≤ ir.length∧ir.length ≤ 5) (hq:iq.length ≤ 1) (hfr:Fit d (y::ir) cr) (hfq:Fit d iq cq)
  (h:∀ Q' R',Q'++y::R' = wv iq cq++x::wv (y::ir) cr→∀ s' kd',HG B (qG G.toBtT n s' kd'::vQ G.toBtT s' (IA++y::IC)::vR G.toBtT kd' ((A++q::r::C).map ptr)::yL G.toBtT d 2 q.1 Q'::yL G.toBtT d 2 r.1 R'::Γ) Q) :
  HG B (qG G.toBtT n s kd::vQ G.toBtT s (IA++x::IC)::vR G.toBtT kd ((A++q::r::C).map ptr)::zJa G.toBtT d q.1 sq kq iq cq (zJa G.toBtT d r.1 sr kr (y::ir) cr Γ)) (zFp G Q ⟨n,0,none⟩ i ⟨q.1,0,none⟩ true):=by
 subst hi
 have okT:=ok.toBtOk
 obtain ⟨cz,cr',rfl,hfz,hf2⟩:=zOO (i1:=[]) (x:=y) (i2:=ir) hfr
 refine yS s fun a1 a2 a3 a4=>?_
 refine yS kd fun b1 b2 b3 b4=>?_
 refine yS sr fun c1 c2 c3 c4=>?_
 refine yS kr fun d1 d2 d3 d4=>?_
 refine yS sq fun e1 e2 e3 e4=>?_
 refine yS kq fun f1 f2 f3 f4=>?_
 have hsn:=zDh a1
 have hkn:=zFF b1
 have hsrn:=zDh c1
 have hkrn:=zFF d1
 have hsqn:=zDh e1
 have hkqn:=zFF f1
 simp only [List.length_append,List.length_cons,List.length_nil,List.length_map] at hsn hkn hsrn hkrn hsqn hkqn
 unfold zFp
 repeat first | refine zT ?_ | refine qB ?_
 refine vg (s:=kd) (i:=A.length + 1) ?_
 refine zCi (s:=kd) (x:=ptr r) (zJf zLv) ?_
 repeat first | refine zT ?_ | refine qB ?_
 refine vg (s:=s) (i:=A.length) ?_
 refine zLu (s:=s) (x:=x) G.qy (by rw [← hA]; simp) ?_
 refine zBf ?_ (by simp [okT.vz.1]) (G.qy _)
 refine zH fun t=>?_
 repeat refine zT ?_
 refine qN (s:=sq) (us:=G.f x) (jX (G.qy x)) (zG5 okT x) (by simp only; omega) (hT:=okT.TI) fun sq' hsq'=>?_
 rw [show iq.flatMap G.f++G.f x = (iq++[x]).flatMap G.f by simp]
 repeat refine zT ?_
 refine uP ?_
 repeat refine zT ?_
 refine vg (s:=sr) (i:=0) ?_
 refine zPw (s:=sr) (x:=y) G.qy rfl ?_
 refine vg (s:=s) (i:=IA.length) ?_
 refine zSg (s:=s) (A:=IA) (x:=x) (y:=y) G.qy (zIo okT y) ?_
 repeat refine zT ?_
 obtain ⟨Z,hdel⟩:=ok.delI
 refine fun w hw=>hdel _ _ _ _ _ ?_
 refine hg hw ?_
 clear hw w
 refine zOI (s:=sr) (i:=0) (j:=1) (by omega) (by omega) (by omega) (zEt okT _) (fun sr' hsr'=>?_) okT.TI
 rw [zVP]
 repeat refine zT ?_
 have fin:∀ sr2 kr2 sq2 kq2,HG B (zJa G.toBtT d q.1 sq2 kq2 (iq++[x]) (cq++cz) (zJa G.toBtT d r.1 sr2 kr2 ir cr' (qG G.toBtT n s kd::vQ G.toBtT s (IA++y::IC)::vR G.toBtT kd ((A++q::r::C).map ptr)::Γ))) Q:=fun sr2 kr2 sq2 kq2=>by
  refine zEI (m:=2) (zP4 (i2:=[]) hfq hfz) (by simp; omega) (fun _=>.inr (by simp)) ?_
  refine ze (jQ G.toBtT d cr') ?_
  refine zw kr2 ?_
  refine zw sr2 ?_
  refine zO r.1 ?_
  refine zEI (m:=2) hf2 hr.2 (fun _=>.inr fun h=>by rw [h] at hr; simp at hr) ?_
  refine zB (h (wv (iq++[x]) (cq++cz)) (wv ir cr') ?_ s kd)
  rw [zMi (i2:=[]) hfq hfz,show y::ir = []++y::ir from rfl,zMi hfz hf2]
  simp
 cases d with
 | zero=>
  have e1:cr' = []:=hf2
  have e2:cz = []:=hfz
  have e3:cq = []:=hfq
  subst e1; subst e2; subst e3
  refine s_f ?_ (by simp at hkrn; simp [hkrn])
  simp only [List.append_nil] at fin ⊢
  exact zB (fin sr' kr sq' kq)
 | succ d=>
  obtain ⟨z,rfl⟩:∃ z,cz = [z]:=List.length_eq_one_iff.1 hfz
  have hcl:cr'.length = ir.length + 1:=hf2
  have hcql:cq.length = iq.length + 1:=hfq
  simp only [List.length_cons,List.length_nil] at hkrn
  refine s_t ?_ (by simp; omega)
  repeat refine zT ?_
  refine vg (s:=kr) (i:=0) ?_
  refine zP3 (s:=kr) (c:=Value.pointer) (L:=([z]++cr').map ptr) (x:=ptr z) (by simp) ?_
  refine zH fun t2=>?_
  repeat refine zT ?_
  refine qN (s:=kq) (us:=[Value.pointer (ptr z)]) (jX rfl) (by simp [yu]) (by simp only; omega) (hT:=okT.TK) fun kq' hkq'=>?_
  rw [show (cq.map ptr).map Value.pointer++[Value.pointer (ptr z)] = ((cq++[z]).map ptr).map Value.pointer by simp]
  repeat refine zT ?_
  obtain ⟨Z2,hdel2⟩:=ok.zPv
  refine fun w hw=>hdel2 _ _ _ _ _ ?_
  refine hg hw ?_
  clear hw w
  refine zOI (s:=kr) (i:=0) (j:=1) (by omega) (by omega) (by omega) (zHr _) (fun kr' hkr'=>?_) okT.TK
  rw [show (([z]++cr').map ptr) = ((z::cr').map ptr) from rfl,zSl]
  repeat refine zT ?_
  refine ze (jQ G.toBtT (d + 1) ([z]++cr')) ?_
  refine zW2 ?_
  refine ze (jQ G.toBtT (d + 1) [z]) ?_
  refine ze (jQ G.toBtT (d + 1) cq) ?_
  refine zSh ?_
  exact zB (fin sr' kr' sq' kq')
theorem zP8 (ok:zJd G c) {d n:Nat} {s kd sp kp sq kq:Sl} {A C:List (Kid G.toBtT)} {p q:Kid G.toBtT} {IA IC ip iq:List G.It} {x:G.It} {cp cq:List (Kid G.toBtT)} {i:Int} {k4:Addr} {Q:K}
  (hi:(if (1:Int) > i then 1 else i) = ((A.length + 1:Nat):Int)) (hA:IA.length = A.length) (hl:IA.length + IC.length ≤ 5) (hC:C.length = IC.length) (hp:ip.length + iq.length ≤ 4) (hfp:Fit d ip cp) (hfq:Fit d iq cq)
  (h:∀ s' kd',HG B (qG G.toBtT n s' kd'::vQ G.toBtT s' (IA++IC)::vR G.toBtT kd' ((A++p::C).map ptr)::yL G.toBtT d 2 p.1 (wv ip cp++x::wv iq cq)::Γ) Q) :
  HG B (qG G.toBtT n s kd::vQ G.toBtT s (IA++x::IC)::vR G.toBtT kd ((A++p::q::C).map ptr)::zJa G.toBtT d p.1 sp kp ip cp (zJa G.toBtT d q.1 sq kq iq cq Γ)) (zFp G Q ⟨n,0,none⟩ i k4 false):=by
 have okT:=ok.toBtOk
 refine yS s fun a1 a2 a3 a4=>?_
 refine yS kd fun b1 b2 b3 b4=>?_
 refine yS sp fun c1 c2 c3 c4=>?_
 refine yS kp fun d1 d2 d3 d4=>?_
 refine yS sq fun e1 e2 e3 e4=>?_
 refine yS kq fun f1 f2 f3 f4=>?_
 have hsn:=zDh a1
 have hkn:=zFF b1
 have hspn:=zDh c1
 have hkpn:=zFF d1
 have hsqn:=zDh e1
 have hkqn:=zFF f1
 simp only [List.length_append,List.length_cons,List.length_nil,List.length_map] at hsn hkn hspn hkpn hsqn hkqn
 have hks:cp.length ≤ 6∧cq.length ≤ 6:=by
  cases d with
  | zero=>
   have e1:cp = []:=hfp
   have e2:cq = []:=hfq
   subst e1; subst e2; exact ⟨by simp,by simp⟩
  | succ d=>
   have e1:cp.length = ip.length + 1:=hfp
   have e2:cq.length = iq.length + 1:=hfq
   omega
 unfold zFp
 repeat refine zT ?_
 refine zAW hi ?_
 repeat first | refine zT ?_ | refine qB ?_
 refine vg (s:=kd) (i:=A.length) ?_
 refine zCi (s:=kd) (x:=ptr p) (zJf zMW) ?_
 repeat refine zT ?_
 refine vg (s:=kd) (i:=A.length + 1) ?_
 refine zCi (s:=kd) (x:=ptr q) (zJf zLv) ?_
 refine vo ?_
 refine zBE [qG G.toBtT n s kd,vQ G.toBtT s (IA++x::IC),qG G.toBtT p.1 sp kp,qG G.toBtT q.1 sq kq] ?_
 refine uP ?_
 refine qB ?_
 refine uP ?_
 repeat refine zT ?_
 refine vg (s:=s) (i:=A.length) ?_
 refine zLu (s:=s) (x:=x) G.qy (by rw [← hA]; simp) ?_
 repeat refine zT ?_
 refine zBf ?_ (by simp [okT.vz.1]) (G.qy _)
 refine zH fun t=>?_
 repeat refine zT ?_
 refine qN (s:=sp) (us:=G.f x) (jX (G.qy x)) (zG5 okT x) (by simp only; omega) (hT:=okT.TI) fun sp1 hsp1=>?_
 rw [show ip.flatMap G.f++G.f x = (ip++[x]).flatMap G.f by simp]
 repeat refine zT ?_
 refine qN (s:=sp1) (us:=iq.flatMap G.f) (fun w hw=>(yP (s:=sq) hw).1) (zEt okT _) (by simp only at hsp1 ⊢; omega) (hT:=okT.TI) fun sp2 hsp2=>?_
 rw [show (ip++[x]).flatMap G.f++iq.flatMap G.f = (ip++x::iq).flatMap G.f by simp]
 repeat refine zT ?_
 refine qN (s:=kp) (us:=(cq.map ptr).map Value.pointer) (fun w hw=>(yP (s:=kq) hw).1) (zHr _) (by omega) (hT:=okT.TK) fun kp' hkp'=>?_
 rw [← List.map_append,← List.map_append]
 repeat first | refine zT ?_ | refine qB ?_
 obtain ⟨Z,hdel⟩:=ok.delI
 refine fun w hw=>hdel _ _ _ _ _ ?_
 refine hg hw ?_
 clear hw w
 rw [show ((A.length + 1:Nat):Int) - 1 = ((A.length:Nat):Int) by omega]
 refine zOI (s:=s) (i:=A.length) (j:=A.length + 1) (by omega) (by omega) (by omega) (zEt okT _) (fun s' hs'=>?_) okT.TI
 rw [← hA,zUS,hA]
 repeat first | refine zT ?_ | refine qB ?_
 obtain ⟨Z2,hdel2⟩:=ok.zPv
 refine fun w hw=>hdel2 _ _ _ _ _ ?_
 refine hg hw ?_
 clear hw w
 rw [show ((A.length + 1:Nat):Int) + 1 = ((A.length + 2:Nat):Int) by omega]
 refine zOI (s:=kd) (i:=A.length + 1) (j:=A.length + 2) (by omega) (by omega) (by omega) (zHr _) (fun kd' hkd'=>?_) okT.TK
 rw [zW6]
 repeat refine zT ?_
 refine ze (jQ G.toBtT d cq) ?_
 refine ze (jQ G.toBtT d cp) ?_
 refine zSh ?_
 refine ze (jQ G.toBtT d (cp++cq)) ?_
 refine zw kp' ?_
 refine zw sp2 ?_
 refine zO p.1 ?_
 refine zEI (m:=2) (zP4 hfp hfq) (by simp; omega) (fun _=>.inr (by simp)) ?_
 rw [zMi hfp hfq]
 exact zB (h s' kd')
end
end Bt
end
section
open Go Go.RowKit
namespace Bt
section
variable {κ:Type} {G:BtD κ} {c:κ→κ→Int} {B:World} {Γ Δ:List zC}
theorem zP9:∀ {IA IC:List G.It} {A C:List (Kid G.toBtT)},IA.length = A.length→C.length = IC.length→∃ U V:List G.It,(∀ p:Kid G.toBtT,wv (IA++IC) (A++p::C) = U++p.2++V)∧∀ (p:Kid G.toBtT) (x:G.It) (q:Kid G.toBtT),wv (IA++x::IC) (A++p::q::C) = U++p.2++x::(q.2++V)
 | [],[],[],C,_,hC=>⟨[],[],fun p=>by simp [wv],fun p x q=>by simp [wv]⟩
 | [],z::IC,[],C,_,hC=>⟨[],z::wv IC C,fun p=>by simp [wv],fun p x q=>by simp [wv]⟩
 | a::IA,IC,r::A,C,hA,hC=>by
  obtain ⟨U,V,h1,h2⟩:=zP9 (IA:=IA) (IC:=IC) (A:=A) (C:=C) (by simpa using hA) hC
  exact ⟨r.2++a::U,V,fun p=>by simp [wv,h1],fun p x q=>by simp [wv,h2]⟩
 | [],_,_::_,_,hA,_=>by simp at hA
 | _::_,_,[],_,hA,_=>by simp at hA
theorem zRX {α:Type} {L:List α} {a c:Nat} (h:L.length = a + 1 + c):∃ A x C,L = A++x::C∧A.length = a∧C.length = c :=
 ⟨L.take a,L[a],L.drop (a + 1),by rw [← List.drop_eq_getElem_cons,List.take_append_drop],by simp; omega,by simp; omega⟩
theorem zbI {d n:Nat} {s kd:Sl} {its:List G.It} {ks:List (Kid G.toBtT)} {k:K} (hf:ks.length = its.length + 1) (hl:its.length ≤ 5) (h:HG B (yL G.toBtT (d + 1) 0 n (wv its ks)::Γ) k) :
  HG B (qG G.toBtT n s kd::vQ G.toBtT s its::vR G.toBtT kd (ks.map ptr)::qY G.toBtT d ks::Γ) k:=zEI (d:=d + 1) (m:=0) hf hl (fun h=>by omega) h
theorem zMk {d n:Nat} {s kd:Sl} {its:List G.It} {A C:List (Kid G.toBtT)} {p:Kid G.toBtT} {P':List G.It} {k:K} (hf:(A++p::C).length = its.length + 1) (hl:its.length ≤ 5) (h:HG B (yL G.toBtT (d + 1) 0 n (wv its (A++(p.1,P')::C))::Γ) k) :
  HG B (qG G.toBtT n s kd::vQ G.toBtT s its::vR G.toBtT kd ((A++p::C).map ptr)::yL G.toBtT d 2 p.1 P'::qY G.toBtT d (A++C)::Γ) k:=by
 rw [show (A++p::C).map ptr = (A++(p.1,P')::C).map ptr by simp [ptr]]
 refine ze (qY G.toBtT d (A++C)) ?_
 refine ze (yL G.toBtT d 2 p.1 P') ?_
 refine zDe (q:=(p.1,P')) ?_
 refine ze (qY G.toBtT d (A++(p.1,P')::C)) ?_
 refine zw kd ?_
 refine zw s ?_
 refine zO n ?_
 exact zbI (by simpa using hf) hl h
theorem zSm {d n:Nat} {s kd:Sl} {its:List G.It} {A C:List (Kid G.toBtT)} {p q:Kid G.toBtT} {P' Q':List G.It} {k:K} (hf:(A++p::q::C).length = its.length + 1) (hl:its.length ≤ 5) (h:HG B (yL G.toBtT (d + 1) 0 n (wv its (A++(p.1,P')::(q.1,Q')::C))::Γ) k) :
  HG B (qG G.toBtT n s kd::vQ G.toBtT s its::vR G.toBtT kd ((A++p::q::C).map ptr)::yL G.toBtT d 2 p.1 P'::yL G.toBtT d 2 q.1 Q'::qY G.toBtT d (A++C)::Γ) k:=by
 rw [show (A++p::q::C).map ptr = (A++p::(q.1,Q')::C).map ptr by simp [ptr]]
 refine ze (qY G.toBtT d (A++C)) ?_
 refine ze (yL G.toBtT d 2 q.1 Q') ?_
 refine zDe (q:=(q.1,Q')) ?_
 refine ze (qY G.toBtT d (A++(q.1,Q')::C)) ?_
 refine ze (yL G.toBtT d 2 p.1 P') ?_
 refine zw kd ?_
 refine zw s ?_
 refine zO n ?_
 exact zMk (by simpa using hf) hl h
theorem zKF (ok:zJd G c) {d n:Nat} {s kd:Sl} {its:List G.It} {A C:List (Kid G.toBtT)} {q:Kid G.toBtT} {Q:K} (hl:its.length ≤ 5) (hne:its ≠ []) (hf:(A++q::C).length = its.length + 1)
  (h:HG B (yL G.toBtT (d + 1) 0 n (wv its (A++q::C))::Γ) Q) :
  HG B (qG G.toBtT n s kd::vQ G.toBtT s its::vR G.toBtT kd ((A++q::C).map ptr)::yL G.toBtT d 0 q.1 q.2::qY G.toBtT d (A++C)::Γ) (G.nmendC (some ⟨n,0,none⟩) (A.length:Int) Q):=by
 refine fun w hw=>ok.mend _ _ _ _ ?_
 refine hg hw ?_
 clear hw w
 have okT:=ok.toBtOk
 have hnl:1 ≤ its.length:=List.length_pos_iff.2 hne
 refine yS s fun a1 a2 a3 a4=>?_
 refine yS kd fun b1 b2 b3 b4=>?_
 have hsn:=zDh a1
 have hkn:=zFF b1
 have hf':A.length + (C.length + 1) = its.length + 1:=by simpa using hf
 simp only [List.length_append,List.length_cons,List.length_map] at hkn
 unfold zac
 repeat refine zT ?_
 refine vg (s:=kd) (i:=A.length) ?_
 refine zCi (s:=kd) (x:=ptr q) (zJf zMW) ?_
 refine uP ?_
 refine zO q.1 ?_
 refine zON fun sq kq iq cq hfq hlq _ hqL=>?_
 refine yS sq fun e1 e2 e3 e4=>?_
 have hsqn:=zDh e1
 repeat refine zT ?_
 refine zF (fun hb=>?_) fun hb=>?_
 ·have hb':2 ≤ iq.length:=by simp only [decide_eq_true_eq] at hb; omega
  refine zEI (m:=2) hfq hlq (fun _=>.inr fun h=>by rw [h] at hb'; simp at hb') ?_
  rw [← hqL]
  refine ze (qY G.toBtT d (A++C)) ?_
  refine ze (yL G.toBtT d 2 q.1 q.2) ?_
  refine zw kd ?_
  refine zw s ?_
  refine zO n ?_
  exact zMk hf hl h
 have hq1:iq.length ≤ 1:=by simp only [decide_eq_false_iff_not] at hb; omega
 rcases List.eq_nil_or_concat A with rfl | ⟨A,p,rfl⟩
 ·
  obtain ⟨r,C,rfl⟩:∃ r C',C = r::C':=by
   cases C with
   | nil=>simp only [List.length_nil] at hf'; omega
   | cons r C=>exact ⟨r,C,rfl⟩
  simp only [List.length_cons,List.length_nil,List.nil_append] at hf' hkn hf h ⊢
  obtain ⟨IA,x,IC,rfl,hIA,hIC⟩:=zRX (L:=its) (a:=0) (c:=C.length) (by omega)
  obtain rfl:IA = []:=List.length_eq_zero_iff.1 hIA
  obtain ⟨U,V,hU1,hU2⟩:=zP9 (IA:=[]) (IC:=IC) (A:=[]) (C:=C) rfl hIC.symm
  simp only [List.nil_append] at hU1 hU2 hl hf' h ⊢
  rw [hU2] at h
  simp only [List.length_cons] at hl hf'
  refine s_f ?_
  unfold zFq
  repeat first | refine zT ?_ | refine qB ?_
  refine s_t ?_ (by simp; omega)
  repeat first | refine zT ?_ | refine qB ?_
  refine vg (s:=kd) (i:=1) ?_
  refine zCi (s:=kd) (x:=ptr r) (zJf (zLv (A:=[]))) ?_
  refine uP ?_
  refine ze (qY G.toBtT d (r::C)) ?_
  refine zIY (A:=[]) ?_
  refine zON fun sr kr ir cr hfr hlr hrne hrL=>?_
  refine yS sr fun c1 c2 c3 c4=>?_
  have hsrn:=zDh c1
  repeat refine zT ?_
  by_cases hb3:2 < ir.length
  ·rw [show decide ((2:Int) < (sr.n:Int)) = true by simp; omega]
   obtain ⟨y,ir,rfl⟩:∃ y ir',ir = y::ir':=by
    cases ir with
    | nil=>simp at hb3
    | cons y ir=>exact ⟨y,ir,rfl⟩
   simp only [List.length_cons] at hb3 hlr
   refine ze (jQ G.toBtT d cr) ?_
   refine zw kr ?_
   refine zw sr ?_
   refine zO r.1 ?_
   refine ze (jQ G.toBtT d cq) ?_
   refine zw kq ?_
   refine zw sq ?_
   refine zO q.1 ?_
   refine zw kd ?_
   refine zw s ?_
   refine zO n ?_
   refine zUT ok (A:=[]) (IA:=[]) rfl rfl (by simp only [List.length_nil]; omega) hIC.symm (by omega) hq1 hfr hfq fun Q' R' e s' kd'=>?_
   refine ze (qY G.toBtT d ([]++C)) ?_
   refine ze (yL G.toBtT d 2 r.1 R') ?_
   refine ze (yL G.toBtT d 2 q.1 Q') ?_
   refine zw kd' ?_
   refine zw s' ?_
   refine zO n ?_
   refine zSm (A:=[]) (by simp; omega) (by simp; omega) ?_
   simp only [List.nil_append]
   rw [hU2,show U++(q.1,Q').2++y::((r.1,R').2++V) = U++(Q'++y::R')++V by simp,e,← hqL,← hrL]
   simpa using h
  ·rw [show decide ((2:Int) < (sr.n:Int)) = false by simp; omega]
   refine ze (jQ G.toBtT d cr) ?_
   refine zw kr ?_
   refine zw sr ?_
   refine zO r.1 ?_
   refine ze (jQ G.toBtT d cq) ?_
   refine zw kq ?_
   refine zw sq ?_
   refine zO q.1 ?_
   refine zw kd ?_
   refine zw s ?_
   refine zO n ?_
   refine zP8 ok (A:=[]) (IA:=[]) (by simp) rfl (by simp only [List.length_nil]; omega) hIC.symm (by omega) hfq hfr fun s' kd'=>?_
   refine ze (qY G.toBtT d ([]++C)) ?_
   refine ze (yL G.toBtT d 2 q.1 (wv iq cq++x::wv ir cr)) ?_
   refine zw kd' ?_
   refine zw s' ?_
   refine zO n ?_
   refine zMk (A:=[]) (by simp; omega) (by simp; omega) ?_
   simp only [List.nil_append]
   have h2:=hU1 (q.1,wv iq cq++x::wv ir cr)
   rw [h2,← hqL,← hrL]
   simpa using h
 ·
  simp only [List.concat_eq_append,List.append_assoc,List.singleton_append] at hf' hkn hf h ⊢
  have hAl:(A++[p]).length = A.length + 1:=by simp
  rw [hAl] at hf' hkn ⊢
  obtain ⟨IA,x,IC,rfl,hIA,hIC⟩:=zRX (L:=its) (a:=A.length) (c:=C.length) (by omega)
  obtain ⟨U,V,hU1,hU2⟩:=zP9 (IA:=IA) (IC:=IC) (A:=A) (C:=C) hIA hIC.symm
  have hil:(IA++x::IC).length = IA.length + (IC.length + 1):=by simp
  rw [hU2] at h
  rw [hil] at hl
  refine s_t ?_
  repeat first | refine zT ?_ | refine qB ?_
  refine vg (s:=kd) (i:=A.length) ?_
  refine zCi (s:=kd) (x:=ptr p) (zJf zMW) ?_
  refine uP ?_
  refine ze (qY G.toBtT d (A++p::C)) ?_
  refine zIY ?_
  refine zON fun sp kp ip cp hfp hlp hpne hpL=>?_
  refine yS sp fun c1 c2 c3 c4=>?_
  have hspn:=zDh c1
  repeat refine zT ?_
  by_cases hb3:2 < ip.length
  ·rw [show decide ((2:Int) < (sp.n:Int)) = true by simp; omega]
   rcases List.eq_nil_or_concat ip with rfl | ⟨ip,y,rfl⟩
   ·simp at hb3
   simp only [List.concat_eq_append] at hb3 hlp hfp hpL ⊢
   have hipl:(ip++[y]).length = ip.length + 1:=by simp
   rw [hipl] at hb3 hlp
   refine ze (jQ G.toBtT d cq) ?_
   refine zw kq ?_
   refine zw sq ?_
   refine zO q.1 ?_
   refine ze (jQ G.toBtT d cp) ?_
   refine zw kp ?_
   refine zw sp ?_
   refine zO p.1 ?_
   refine zw kd ?_
   refine zw s ?_
   refine zO n ?_
   refine zZM ok (A:=A) (by omega) hIA (by omega) hIC.symm (by omega) hq1 hfp hfq fun P' Q' e s' kd'=>?_
   refine ze (qY G.toBtT d (A++C)) ?_
   refine ze (yL G.toBtT d 2 q.1 Q') ?_
   refine ze (yL G.toBtT d 2 p.1 P') ?_
   refine zw kd' ?_
   refine zw s' ?_
   refine zO n ?_
   refine zSm (by simp; omega) (by simp; omega) ?_
   rw [hU2,show U++(p.1,P').2++y::((q.1,Q').2++V) = U++(P'++y::Q')++V by simp,e,← hqL,← hpL]
   simpa using h
  rw [show decide ((2:Int) < (sp.n:Int)) = false by simp; omega]
  unfold zFq
  repeat first | refine zT ?_ | refine qB ?_
  cases C with
  | nil=>
   refine s_f ?_ (by simp only [List.length_nil] at hkn; simp; omega)
   refine ze (jQ G.toBtT d cq) ?_
   refine zw kq ?_
   refine zw sq ?_
   refine zO q.1 ?_
   refine ze (jQ G.toBtT d cp) ?_
   refine zw kp ?_
   refine zw sp ?_
   refine zO p.1 ?_
   refine zw kd ?_
   refine zw s ?_
   refine zO n ?_
   refine zP8 ok (by simp only [gt_iff_lt]; split <;> omega) hIA (by omega) hIC.symm (by omega) hfp hfq fun s' kd'=>?_
   refine ze (qY G.toBtT d (A++[])) ?_
   refine ze (yL G.toBtT d 2 p.1 (wv ip cp++x::wv iq cq)) ?_
   refine zw kd' ?_
   refine zw s' ?_
   refine zO n ?_
   refine zMk (by simp only [List.length_append,List.length_cons]; omega) (by simp only [List.length_append]; omega) ?_
   rw [hU1,← hqL,← hpL]
   simpa using h
  | cons r C=>
   simp only [List.length_cons] at hf' hkn hIC
   obtain ⟨x2,IC,rfl⟩:∃ x2 IC',IC = x2::IC':=by
    cases IC with
    | nil=>simp at hIC
    | cons x2 IC=>exact ⟨x2,IC,rfl⟩
   simp only [List.length_cons] at hIC hl
   refine s_t ?_ (by simp; omega)
   repeat first | refine zT ?_ | refine qB ?_
   refine vg (s:=kd) (i:=A.length + 2) ?_
   refine zCi (s:=kd) (x:=ptr r) (zJf (by rw [show A++p::q::r::C = (A++[p])++q::r::C by simp,show A.length + 2 = (A++[p]).length + 1 by simp]; exact zLv)) ?_
   refine uP ?_
   refine ze (qY G.toBtT d (A++r::C)) ?_
   refine zIY ?_
   refine zON fun sr kr ir cr hfr hlr hrne hrL=>?_
   refine yS sr fun g1 g2 g3 g4=>?_
   have hsrn:=zDh g1
   repeat refine zT ?_
   by_cases hb4:2 < ir.length
   ·rw [show decide ((2:Int) < (sr.n:Int)) = true by simp; omega]
    obtain ⟨y,ir,rfl⟩:∃ y ir',ir = y::ir':=by
     cases ir with
     | nil=>simp at hb4
     | cons y ir=>exact ⟨y,ir,rfl⟩
    simp only [List.length_cons] at hb4 hlr
    refine ze (jQ G.toBtT d cp) ?_
    refine zw kp ?_
    refine zw sp ?_
    refine zO p.1 ?_
    refine zEI (m:=2) hfp hlp (fun _=>.inr (hpne rfl)) ?_
    rw [← hpL]
    rw [show A++p::q::r::C = (A++[p])++q::r::C by simp,show IA++x::x2::IC = (IA++[x])++x2::IC by simp]
    refine ze (jQ G.toBtT d cr) ?_
    refine zw kr ?_
    refine zw sr ?_
    refine zO r.1 ?_
    refine ze (jQ G.toBtT d cq) ?_
    refine zw kq ?_
    refine zw sq ?_
    refine zO q.1 ?_
    refine zw kd ?_
    refine zw s ?_
    refine zO n ?_
    refine zUT ok (A:=A++[p]) (IA:=IA++[x]) (by rw [hAl]) (by simp [hIA]) (by simp; omega) (by omega) (by omega) hq1 hfr hfq fun Q' R' e s' kd'=>?_
    refine ze (qY G.toBtT d (A++C)) ?_
    refine ze (yL G.toBtT d 2 p.1 p.2) ?_
    refine zDe ?_
    rw [show A++p::C = (A++[p])++C by simp]
    refine ze (qY G.toBtT d ((A++[p])++C)) ?_
    refine ze (yL G.toBtT d 2 r.1 R') ?_
    refine ze (yL G.toBtT d 2 q.1 Q') ?_
    refine zw kd' ?_
    refine zw s' ?_
    refine zO n ?_
    refine zSm (by simp; omega) (by simp; omega) ?_
    obtain ⟨U',V',hV1,hV2⟩:=zP9 (IA:=IA++[x]) (IC:=IC) (A:=A++[p]) (C:=C) (by simp [hIA]) (by omega)
    have h3:=hV2 q x2 r
    have h4:=hU2 p x q
    rw [show (IA++[x])++x2::IC = IA++x::x2::IC by simp,show (A++[p])++q::r::C = A++p::q::r::C by simp,h4] at h3
    rw [hV2,show U'++(q.1,Q').2++y::((r.1,R').2++V') = U'++(Q'++y::R')++V' by simp,e,← hqL,← hrL]
    rw [h3] at h
    simpa using h
   ·rw [show decide ((2:Int) < (sr.n:Int)) = false by simp; omega]
    refine ze (jQ G.toBtT d cr) ?_
    refine zw kr ?_
    refine zw sr ?_
    refine zO r.1 ?_
    refine zEI (m:=2) hfr hlr (fun _=>.inr (hrne rfl)) ?_
    rw [← hrL]
    refine ze (qY G.toBtT d (A++C)) ?_
    refine ze (yL G.toBtT d 2 r.1 r.2) ?_
    refine zDe ?_
    refine ze (jQ G.toBtT d cq) ?_
    refine zw kq ?_
    refine zw sq ?_
    refine zO q.1 ?_
    refine ze (jQ G.toBtT d cp) ?_
    refine zw kp ?_
    refine zw sp ?_
    refine zO p.1 ?_
    refine zw kd ?_
    refine zw s ?_
    refine zO n ?_
    refine zP8 ok (by simp only [gt_iff_lt]; split <;> omega) hIA (by simp; omega) (by simp; omega) (by omega) hfp hfq fun s' kd'=>?_
    refine ze (qY G.toBtT d (A++r::C)) ?_
    refine ze (yL G.toBtT d 2 p.1 (wv ip cp++x::wv iq cq)) ?_
    refine zw kd' ?_
    refine zw s' ?_
    refine zO n ?_
    refine zMk (by simp only [List.length_append,List.length_cons]; omega) (by simp only [List.length_append,List.length_cons]; omega) ?_
    rw [hU1,← hqL,← hpL]
    simpa using h
end
end Bt
end
section
open Go Go.RowKit
namespace Bt
section
variable {κ:Type} {G:BtD κ} {c:κ→κ→Int} {B:World} {Γ Δ:List zC}
theorem zW7:∀ {its:List G.It} {A:List (Kid G.toBtT)},its.length = A.length→∃ U:List G.It,∀ p:Kid G.toBtT,wv its (A++[p]) = U++p.2
 | [],[],_=>⟨[],fun p=>by simp [wv]⟩
 | a::its,r::A,h=>by
  obtain ⟨U,h1⟩:=zW7 (its:=its) (A:=A) (by simpa using h)
  exact ⟨r.2++a::U,fun p=>by simp [wv,h1]⟩
 | [],_::_,h=>by simp at h
 | _::_,[],h=>by simp at h
theorem zSn (ok:zJd G c):∀ (d:Nat) {b:Nat} {L:List G.It} {Γ:List zC} {Q:Array Value→K},
  (∀ L0 x,L = L0++[x]→HG B (yL G.toBtT d 0 b L0::Γ) (Q (G.f x).toArray))→HG B (yL G.toBtT d 2 b L::Γ) (G.nlastC (some ⟨b,0,none⟩) Q):=by
 have okT:=ok.toBtOk
 intro d
 induction d with
 | zero=>
  intro b L Γ Q h
  refine fun w hw=>ok.last _ _ _ ?_
  refine hg hw ?_
  clear hw w
  refine zHs fun s kd hne hl=>?_
  rcases List.eq_nil_or_concat L with rfl | ⟨L0,x,rfl⟩
  ·exact absurd rfl (hne rfl)
  simp only [List.concat_eq_append] at h hl ⊢
  have hll:(L0++[x]).length = L0.length + 1:=by simp
  rw [hll] at hl
  refine yS s fun a1 a2 a3 a4=>?_
  refine yS kd fun b1 b2 b3 b4=>?_
  have hsn:=zDh a1
  have hkn:=zFF b1
  rw [hll] at hsn
  simp only [List.length_nil] at hkn
  unfold zW0
  refine zH fun t2=>?_
  repeat first | refine zT ?_ | refine qB ?_
  refine s_f ?_ (by simp; omega)
  repeat first | refine zT ?_ | refine qB ?_
  refine vg (s:=s) (i:=L0.length) ?_
  refine zLu (s:=s) (x:=x) G.qy (by simp) ?_
  refine zH fun x5=>?_
  repeat refine zT ?_
  refine qA (b:=x5) ?_ (by simp [okT.vz.1]) (G.qy x) (zIo okT x)
  repeat first | refine zT ?_ | refine qB ?_
  refine zAX (lo:=0) (hi:=L0.length) (mx:=s.c) ?_
  rw [zKA a3]
  repeat refine zT ?_
  refine zOQ (s:=s) (m:=L0.length) (by omega) a2 ?_
  rw [List.take_left]
  refine qI (b:=x5) (l':=G.f x) ?_ (List.take_of_length_le (by simp [G.qy])) (G.qy _)
  refine qA (b:=t2) ?_ (by simp [okT.vz.1]) (G.qy x) (zIo okT x)
  refine qI (b:=t2) (l':=G.f x) ?_ (List.take_of_length_le (by simp [G.qy])) (G.qy _)
  refine zw kd ?_
  refine zw ⟨s.a,L0.length,s.c⟩ ?_
  refine zO b ?_
  refine zFm (m:=0) (by simp) (by omega) ?_
  exact zB (h L0 x rfl)
 | succ d ih=>
  intro b L Γ Q h
  refine fun w hw=>ok.last _ _ _ ?_
  refine hg hw ?_
  clear hw w
  refine zON fun s kd its ks hf hl hne hL=>?_
  subst hL
  have hf':ks.length = its.length + 1:=hf
  rcases List.eq_nil_or_concat ks with rfl | ⟨A,q,rfl⟩
  ·simp at hf'
  simp only [List.concat_eq_append] at h hf hf' ⊢
  have hkl:(A++[q]).length = A.length + 1:=by simp
  rw [hkl] at hf'
  refine ze (jQ G.toBtT (d + 1) (A++[q])) ?_
  refine jy (A':=qY G.toBtT d (A++[q])) (fun _ h=>h) ?_
  refine zIY (A:=A) (C:=[]) ?_
  refine yS s fun a1 a2 a3 a4=>?_
  refine yS kd fun b1 b2 b3 b4=>?_
  have hsn:=zDh a1
  have hkn:=zFF b1
  rw [List.length_map,hkl] at hkn
  unfold zW0
  refine zH fun t2=>?_
  repeat first | refine zT ?_ | refine qB ?_
  rw [show ((kd.n:Nat):Int) - 1 = ((A.length:Nat):Int) by omega]
  refine s_t ?_ (by simp)
  repeat refine zT ?_
  refine vg (s:=kd) (i:=A.length) ?_
  refine zCi (s:=kd) (x:=ptr q) (zJf zMW) ?_
  refine ze (yL G.toBtT d 2 q.1 q.2) ?_
  refine ih (b:=q.1) (L:=q.2) fun L0 x e=>?_
  refine zH fun x4=>?_
  refine qA (b:=x4) ?_ (by simp [okT.vz.1]) (G.qy x) (zIo okT x)
  rw [show (A++[q]).map ptr = (A++[(q.1,L0)]).map ptr by simp [ptr]]
  refine ze (qY G.toBtT d (A++[])) ?_
  refine ze (yL G.toBtT d 0 q.1 L0) ?_
  refine zw kd ?_
  refine zw s ?_
  refine zO b ?_
  refine zKF ok (q:=(q.1,L0)) (C:=[]) hl (hne rfl) (by simp; omega) ?_
  refine qI (b:=x4) (l':=G.f x) ?_ (List.take_of_length_le (by simp [G.qy])) (G.qy _)
  refine qA (b:=t2) ?_ (by simp [okT.vz.1]) (G.qy x) (zIo okT x)
  refine qI (b:=t2) (l':=G.f x) ?_ (List.take_of_length_le (by simp [G.qy])) (G.qy _)
  refine zB (h (wv its (A++[(q.1,L0)])) x ?_)
  obtain ⟨U,hU⟩:=zW7 (its:=its) (A:=A) (by omega)
  rw [hU,hU,e,List.append_assoc]
def zMl (c:κ→κ→Int) {ν:Type} (z:ν) (L:List (κ×ν)) (k:κ) (L':List (κ×ν)) (old:ν) (had:Bool):Prop :=
 (∃ A C,L = A++(k,old)::C∧L' = A++C∧had = true)∨((∃ A C,L = A++C∧(∀ x ∈ A,c x.1 k < 0)∧(∀ x ∈ C,c k x.1 < 0))∧L' = L∧old = z∧had = false)
theorem zMl.mid {ν:Type} {z old:ν} {A C L L':List (κ×ν)} {k:κ} {had:Bool} (hA:∀ x ∈ A,c x.1 k < 0) (hC:∀ x ∈ C,c k x.1 < 0) (h:zMl c z L k L' old had):zMl c z (A++L++C) k (A++L'++C) old had:=by
 rcases h with ⟨A',C',rfl,rfl,rfl⟩ | ⟨⟨A',C',rfl,h1,h2⟩,rfl,rfl,rfl⟩
 ·exact .inl ⟨A++A',C'++C,by simp,by simp,rfl⟩
 ·refine .inr ⟨⟨A++A',C'++C,by simp,fun x hx=>?_,fun x hx=>?_⟩,rfl,rfl,rfl⟩
  ·rcases List.mem_append.1 hx with hx | hx
   ·exact hA x hx
   ·exact h1 x hx
  ·rcases List.mem_append.1 hx with hx | hx
   ·exact h2 x hx
   ·exact hC x hx
theorem zMl.srt {ν:Type} {z old:ν} {L L':List (κ×ν)} {k:κ} {had:Bool} (h:zMl c z L k L' old had) (hs:Srt c L):Srt c L':=by
 rcases h with ⟨A',C',rfl,rfl,rfl⟩ | ⟨_,rfl,rfl,rfl⟩
 ·exact hs.sub ((List.Sublist.refl A').append (List.sublist_cons_self _ _))
 ·exact hs
theorem zMl.len {ν:Type} {z old:ν} {L L':List (κ×ν)} {k:κ} {had:Bool} (h:zMl c z L k L' old had):L.length = L'.length + (if had then 1 else 0):=by
 rcases h with ⟨A',C',rfl,rfl,rfl⟩ | ⟨_,rfl,rfl,rfl⟩
 ·simp; omega
 ·simp
theorem zSo (ok:zJd G c):∀ (d:Nat) {m b:Nat} {M:List G.It} {k:κ} {Γ:List zC} {Q:Array Value→Bool→K},1 ≤ m→Srt c M →
  (∀ M' old had,zMl c (G.z0 ok.vz) M k M' old had→HG B (yL G.toBtT d 0 b M'::Γ) (Q old.1.toArray had)) →
  HG B (yL G.toBtT d m b M::Γ) (G.ntakeC (some ⟨b,0,none⟩) k Q):=by
 have okT:=ok.toBtOk
 intro d
 induction d with
 | zero=>
  intro m b M k Γ Q hm hs h
  refine fun w hw=>ok.take _ _ _ _ ?_
  refine hg hw ?_
  clear hw w
  refine zHs fun s kd _ hl=>?_
  refine yS s fun a1 a2 a3 a4=>?_
  refine yS kd fun b1 b2 b3 b4=>?_
  have hsn:=zDh a1
  have hkn:=zFF b1
  simp only [List.length_nil] at hkn
  unfold zW1
  refine zH fun v4=>?_
  refine zFl okT (s:=s) (kd:=kd) hs (by omega) (fun A v0 C e=>?_) fun A C e hA hC=>?_
  ·subst e
   have hlen:(A++(k,v0)::C).length = A.length + (C.length + 1):=List.length_append
   repeat refine zT ?_
   rw [show decide ((kd.n:Int) = 0) = true by simp; omega]
   unfold zFr
   repeat refine zT ?_
   refine vg (s:=s) (i:=A.length) ?_
   refine zFB (s:=s) (l':=v0.1) zFn v0.2.1 ?_
   refine qA (b:=v4) ?_ okT.vz.1 v0.2.1 v0.2.2
   repeat first | refine zT ?_ | refine qB ?_
   obtain ⟨Z,hdel⟩:=ok.delI
   refine fun w hw=>hdel _ _ _ _ _ ?_
   refine hg hw ?_
   clear hw w
   rw [show ((A.length:Nat):Int) + 1 = ((A.length + 1:Nat):Int) by omega]
   refine zOI (s:=s) (i:=A.length) (j:=A.length + 1) (by omega) (by omega) (by omega) (zEt okT _) (fun s' hs'=>?_) okT.TI
   rw [zUS]
   repeat refine zT ?_
   refine zEf (v:=v0) ?_
   refine zw kd ?_
   refine zw s' ?_
   refine zO b ?_
   refine zFm (m:=0) (by simp) (by simp; omega) ?_
   exact zB (h _ _ _ (.inl ⟨A,C,rfl,rfl,rfl⟩))
  ·subst e
   repeat refine zT ?_
   unfold zFr
   repeat refine zT ?_
   refine s_f ?_ (by simp; omega)
   unfold zJb
   refine zEf (v:=G.z0 okT.vz) ?_
   refine zw kd ?_
   refine zw s ?_
   refine zO b ?_
   refine zFm (m:=0) (by simp) hl ?_
   exact zB (h _ _ _ (.inr ⟨⟨A,C,rfl,hA,hC⟩,rfl,rfl,rfl⟩))
 | succ d ih=>
  intro m b M k Γ Q hm hs h
  refine fun w hw=>ok.take _ _ _ _ ?_
  refine hg hw ?_
  clear hw w
  refine zJX fun s kd q0 ps hne hl hM=>?_
  subst hM
  have hne:=hne hm
  refine yS s fun a1 a2 a3 a4=>?_
  refine yS kd fun b1 b2 b3 b4=>?_
  have hsn:=zDh a1
  have hkn:=zFF b1
  simp only [List.length_map,List.length_cons] at hsn hkn
  unfold zW1
  refine zH fun v4=>?_
  refine zFl okT (s:=s) (kd:=kd) (hs.sub (zJW q0 ps)) (by simp; omega) (fun A v0 C e=>?_) fun A C e hA hC=>?_
  ·obtain ⟨l,q,r,hA,hC,hK,hL,hlen⟩:=zMX (q0:=q0) e
   rw [e,hK]
   rw [hL] at hs h
   obtain ⟨⟨xx,q1⟩,r,rfl,hxx,hC'⟩:=List.map_eq_cons_iff.1 hC.symm
   simp only at hxx
   subst hxx
   subst hA
   subst hC'
   simp only [List.length_cons] at hlen
   have hll:(l.map Prod.snd).length = l.length:=by simp
   have hlf:(l.map Prod.fst).length = l.length:=by simp
   repeat refine zT ?_
   rw [show decide ((kd.n:Int) = 0) = false by simp; omega]
   unfold zFr
   repeat refine zT ?_
   refine vg (s:=s) (i:=(l.map Prod.snd).length) ?_
   refine zFB (s:=s) (l':=v0.1) zFn v0.2.1 ?_
   refine qA (b:=v4) ?_ okT.vz.1 v0.2.1 v0.2.2
   refine vo ?_
   refine zBE [qG G.toBtT b s kd,vQ G.toBtT s (l.map Prod.snd++(k,v0)::r.map Prod.fst),vR G.toBtT kd ((l.map Prod.fst++q::(((k,v0),q1)::r).map Prod.snd).map ptr)] ?_
   repeat refine zT ?_
   refine vg (s:=kd) (i:=(l.map Prod.fst).length) ?_ (by omega)
   refine zP3 (s:=kd) (c:=Value.pointer) (L:=(l.map Prod.fst++q::(((k,v0),q1)::r).map Prod.snd).map ptr) (x:=ptr q) (by simp) ?_
   refine ze (qY G.toBtT d (l.map Prod.fst++q::(((k,v0),q1)::r).map Prod.snd)) ?_
   refine zIY ?_
   refine zSn ok d (b:=q.1) (L:=q.2) fun L0 x e2=>?_
   repeat refine zT ?_
   refine vg (s:=s) (i:=(l.map Prod.snd).length) ?_
   refine zSg (s:=s) (A:=l.map Prod.snd) (x:=(k,v0)) (y:=x) G.qy (zIo okT x) ?_
   rw [show (l.map Prod.fst++q::(((k,v0),q1)::r).map Prod.snd).map ptr = (l.map Prod.fst++(q.1,L0)::(((k,v0),q1)::r).map Prod.snd).map ptr by simp [ptr]]
   rw [show ((l.map Prod.snd).length:Int) = ((l.map Prod.fst).length:Int) by rw [hll,hlf]]
   refine ze (qY G.toBtT d (l.map Prod.fst++(((k,v0),q1)::r).map Prod.snd)) ?_
   refine ze (yL G.toBtT d 0 q.1 L0) ?_
   refine zw kd ?_
   refine zw s ?_
   refine zO b ?_
   refine zKF ok (q:=(q.1,L0)) (by simp; omega) (by simp) (by simp; omega) ?_
   refine zEf (v:=v0) ?_
   refine zB (h (wv (l.map Prod.snd++x::r.map Prod.fst) (l.map Prod.fst++(q.1,L0)::(((k,v0),q1)::r).map Prod.snd)) v0 true (.inl ⟨zCt l++q.2,q1.2++zBg r,?_,?_,rfl⟩))
   ·simp [zBg]
   ·obtain ⟨q0',ps',e3,e4,e5,e6⟩:=zOJ l (q.1,L0) ((x,q1)::r)
    rw [show l.map Prod.snd++x::r.map Prod.fst = ps'.map Prod.fst from e4.symm,show l.map Prod.fst++(q.1,L0)::(((k,v0),q1)::r).map Prod.snd = q0'::ps'.map Prod.snd from e5.symm,zK0,e6,e2]
    simp [zBg]
  ·obtain ⟨l,q,r,rfl,rfl,hK,hL,hlen⟩:=zMX (q0:=q0) e
   rw [e,hK]
   rw [hL] at hs h
   have hll:(l.map Prod.snd).length = l.length:=by simp
   have hlf:(l.map Prod.fst).length = l.length:=by simp
   have hs1:=List.pairwise_append.1 hs
   have hs2:=List.pairwise_append.1 hs1.1
   have hpre:=zPy okT l hs2.1 hA
   have hpost:=zLr okT r hs1.2.1 hC
   repeat refine zT ?_
   unfold zFr
   repeat refine zT ?_
   refine s_t ?_ (by simp; omega)
   repeat refine zT ?_
   refine vg (s:=kd) (i:=(l.map Prod.fst).length) ?_ (by omega)
   refine zCi (s:=kd) (x:=ptr q) (zJf zMW) ?_
   refine ze (qY G.toBtT d (l.map Prod.fst++q::r.map Prod.snd)) ?_
   refine zIY ?_
   refine ih (m:=2) (b:=q.1) (M:=q.2) (by omega) hs2.2.1 fun M' old had hp=>?_
   refine qA (b:=v4) ?_ okT.vz.1 old.2.1 old.2.2
   rw [show (l.map Prod.fst++q::r.map Prod.snd).map ptr = (l.map Prod.fst++(q.1,M')::r.map Prod.snd).map ptr by simp [ptr]]
   rw [show ((l.map Prod.snd).length:Int) = ((l.map Prod.fst).length:Int) by rw [hll,hlf]]
   refine ze (qY G.toBtT d (l.map Prod.fst++r.map Prod.snd)) ?_
   refine ze (yL G.toBtT d 0 q.1 M') ?_
   refine zw kd ?_
   refine zw s ?_
   refine zO b ?_
   refine zKF ok (q:=(q.1,M')) (by simp; omega) (fun h0=>hne ?_) (by simp; omega) ?_
   ·have:=congrArg List.length h0
    simp only [List.length_append,List.length_map,List.length_nil] at this
    exact List.length_eq_zero_iff.1 (by omega)
   unfold zJb
   refine zEf (v:=old) ?_
   obtain ⟨q0',ps',e3,e4,e5,e6⟩:=zOJ l (q.1,M') r
   rw [← e4,← e5,zK0,e6]
   exact zB (h _ _ _ (hp.mid hpre hpost))
theorem zUU (ok:zJd G c) {t v4 d b:Nat} {L L':List G.It} {k:κ} {old:Cel G.nv} {had:Bool} {Q:Array Value→Bool→K} (hs:Srt c L) (hL:L.length < 1000000000) (hp:zMl c (G.z0 ok.vz) L k L' old had) (h:HG B (vv G.toBtT c t L'::Γ) (Q old.1.toArray had)) :
  HG B (zBD G.toBtT v4 old::blk t (.cells [.pointer (some ⟨b,0,none⟩),.int .i64 L.length].toArray G.tT (0,0))::yL G.toBtT d 1 b L'::Γ) (zLt G Q ⟨t,0,none⟩ ⟨v4,0,none⟩ had):=by
 have hlen:=hp.len
 unfold zLt
 refine zF (fun hb=>?_) fun hb=>?_
 ·rw [hb,if_pos rfl] at hlen
  repeat first | refine zT ?_ | refine qB ?_
  unfold zLs
  rw [show ((L.length:Nat):Int) - 1 = ((L'.length:Nat):Int) by omega]
  refine zEf (v:=old) ?_
  refine zO b ?_
  refine zO t ?_
  exact zDf (hp.srt hs) (zB h)
 ·rw [hb,if_neg (by simp)] at hlen
  unfold zLs
  rw [show ((L.length:Nat):Int) = ((L'.length:Nat):Int) by omega]
  refine zEf (v:=old) ?_
  refine zO b ?_
  refine zO t ?_
  exact zDf (hp.srt hs) (zB h)
theorem zVQ (ok:zJd G c) {t:Nat} {L:List G.It} {k:κ} {Q:Array Value→Bool→K} (hL:L.length < 1000000000) (h:∀ L' old had,zMl c (G.z0 ok.vz) L k L' old had→HG B (vv G.toBtT c t L'::Γ) (Q old.1.toArray had)) :
  HG B (vv G.toBtT c t L::Γ) (zbG G (some ⟨t,0,none⟩) k Q):=by
 have okT:=ok.toBtOk
 refine zMY fun d b hs=>?_
 unfold zbG
 refine zH fun v4=>?_
 repeat refine zT ?_
 refine ze (yL G.toBtT d 1 b L) ?_
 refine zSo ok d (m:=1) (Nat.le_refl _) hs fun M' old had hp=>?_
 have h:=h M' old had hp
 refine qA (b:=v4) ?_ okT.vz.1 old.2.1 old.2.2
 repeat refine zT ?_
 refine zO b ?_
 refine zON fun s kd its ks hf hl _ hM=>?_
 refine yS s fun a1 a2 a3 a4=>?_
 refine yS kd fun b1 b2 b3 b4=>?_
 have hsn:=zDh a1
 have hkn:=zFF b1
 rw [List.length_map] at hkn
 repeat refine zT ?_
 have back:((d = 0∧1 = 1)∨its ≠ [])→HG B (zJa G.toBtT d b s kd its ks (zBD G.toBtT v4 old::blk t (.cells [.pointer (some ⟨b,0,none⟩),.int .i64 L.length].toArray G.tT (0,0))::Γ)) (zJc G Q ⟨t,0,none⟩ ⟨v4,0,none⟩ had false):=fun hb=>by
  refine zEI (m:=1) hf hl (fun _=>hb) ?_
  rw [← hM]
  unfold zJc
  repeat refine zT ?_
  refine zO b ?_
  refine zO t ?_
  refine ze (zBD G.toBtT v4 old) ?_
  exact zUU ok hs hL hp h
 refine zF (fun hb=>?_) fun hb=>?_
 ·have hn:its = []:=List.length_eq_zero_iff.1 (by simp only [decide_eq_true_eq] at hb; omega)
  subst hn
  repeat refine zT ?_
  cases d with
  | zero=>
   have hk:ks = []:=hf
   subst hk
   rw [show decide ((kd.n:Int) = 1) = false by simp only [List.length_nil] at hkn; simp; omega]
   exact zB (back (.inl ⟨rfl,rfl⟩))
  | succ d=>
   obtain ⟨q,rfl⟩:∃ q,ks = [q]:=List.length_eq_one_iff.1 hf
   simp only [List.length_cons,List.length_nil] at hkn
   rw [show decide ((kd.n:Int) = 1) = true by simp; omega]
   unfold zJc
   repeat refine zT ?_
   refine vg (s:=kd) (i:=0) ?_
   refine zCi (s:=kd) (x:=ptr q) (by simp) ?_
   refine zCB (b:=t) (v:=.pointer (some ⟨q.1,0,none⟩)) ?_
   refine ze (jQ G.toBtT (d + 1) [q]) ?_
   refine jy (A':=qY G.toBtT d [q]) (fun _ h=>h) ?_
   refine zIY (A:=[]) (C:=[]) (q:=q) ?_
   refine jy (yL.weak (m':=1) (by simp) (by simp)) ?_
   have e:q.2 = M':=hM.symm
   rw [e]
   refine ze (yL G.toBtT d 1 q.1 M') ?_
   refine zO t ?_
   refine ze (zBD G.toBtT v4 old) ?_
   refine zUU ok hs hL hp ?_
   exact zB h
 ·have hn:its ≠ []:=fun h0=>by
   rw [h0,List.length_nil] at hsn
   simp only [decide_eq_false_iff_not] at hb; omega
  exact zB (back (.inr hn))
end
end Bt
end
end Go.Sep
namespace Go.Proofs.YtdemfamgieonbaaGreat
section
open Go Go.Sep Go.Sep.Bt
noncomputable def zcO:BtD ByteArray where
 toBtT:=btS
 delIC:=zQ.call
 delKC:=zh.call
 ntakeC:=zm.call
 nlastC:=qp.call
 nmendC:=zi.call
theorem zZR:zJd zcO vN where
 toBtOk:=zFE
 delI:=⟨_,fun s i j Q w h=>uI _ _ _ _ _ h⟩
 zPv:=⟨_,fun s i j Q w h=>uL _ _ _ _ _ h⟩
 take:=fun n k Q w h=>zCk _ _ _ _ h
 last:=fun n Q w h=>zCl _ _ _ h
 mend:=fun n i Q w h=>zCm _ _ _ _ h
def zKG (M:zy) (k:ByteArray):zy:=M.filter fun x=>!decide (x.1 = k)
def zB3 (M:zy) (k:ByteArray) (r:Rec):zy:=if r.has = false∧r.cnt = 0 then zKG M k else zBt M k r
theorem zW8 (M:zy) (k k':ByteArray):getM (zKG M k) k' = if k' = k then none else getM M k':=by
 unfold getM zKG
 rw [List.find?_filter]
 split
 ·rename_i h
  subst h
  rw [List.find?_eq_none.2 (fun x _=>by simp)]; rfl
 ·rename_i h
  congr 2
  funext x
  by_cases h2:x.1 = k
  ·simp [h2,Ne.symm h]
  ·by_cases h3:x.1 = k' <;> simp [h2,h3,h]
theorem zES (n:Nat) (M:zy) (k k':ByteArray) (r:Rec):zx n (zB3 M k r) k' = if k' = k then (if r.has = false∧r.cnt = 0 then ⟨false,[],zBN k.toList n,0⟩ else r) else zx n M k':=by
 unfold zB3
 split
 ·unfold zx
  rw [zW8]
  split
  ·rename_i h; rw [h]; rfl
  ·rfl
 ·rw [zMf]
theorem zFw {M:zy} {k:ByteArray} (h:∀ x ∈ M,x.1 ≠ k):zKG M k = M:=List.filter_eq_self.2 fun x hx=>by simpa using h x hx
theorem zW9 {A C:zy} {k:ByteArray} {r:Rec} (hA:∀ x ∈ A,x.1 ≠ k) (hC:∀ x ∈ C,x.1 ≠ k):zKG (A++(k,r)::C) k = A++C:=by
 unfold zKG
 rw [List.filter_append,List.filter_cons_of_neg (by simp)]
 exact congr (congrArg _ (zFw hA)) (zFw hC)
theorem zHA (M:zy) (k:ByteArray) (r:Rec):(zB3 M k r).length ≤ M.length + 1:=by
 unfold zB3
 split
 ·have:=List.length_filter_le (fun x=>!decide (x.1 = k)) M
  unfold zKG; omega
 ·exact zRP _ _ _
section
variable {B:World} {Γ Δ:List zC}
theorem zSp {t:Nat} {L:List btS.It} {k:ByteArray} {Q:Array Value→Bool→K} (hL:L.length < 1000000000) (h:∀ L' old had,zMl vN (btS.z0 zFE.vz) L k L' old had→HG B (vv btS vN t L'::Γ) (Q old.1.toArray had)) :
  HG B (vv btS vN t L::Γ) (zK.call (some ⟨t,0,none⟩) k Q):=fun w hw=>
 zCM _ _ _ _ (show zbG zcO (some ⟨t,0,none⟩) k Q w from hg hw (zVQ zZR hL h))
theorem zVR {X Y:List zAG} {k:ByteArray} {r:Rec×Sl} (h:Srt vN ((X++(k,r)::Y).map zAH)):∀ x ∈ Y,vN k x.1 < 0:=fun x hx=>by
 rw [List.map_append,List.map_cons] at h
 exact (List.pairwise_cons.1 (List.pairwise_append.1 h).2.1).1 (zAH x) (List.mem_map.2 ⟨x,hx,rfl⟩)
theorem zRY {st t n:Nat} {X:List zAG} {k:ByteArray} {q:Array Value→Bool→K} (hok:∀ x ∈ X.map zAw,x.2.ok) (h1:1 ≤ n) (h3:n ≤ 3) (hL:X.length < 1000000000)
  (h:∀ a b,HG B (zk st n (zKG (X.map zAw) k)::Γ) (q a b)) :
  HG B (blk st (.cells [.int .i64 n,.pointer (some ⟨t,0,none⟩)].toArray qQ (0,0))::vv btS vN t (X.map zAH)::Sep.stars (X.map zAS)::Γ) (zK.call (some ⟨t,0,none⟩) k q):=by
 refine zO t ?_
 refine zMZ fun hs=>?_
 refine zSp (by simpa using hL) fun L' old had hp=>?_
 rcases hp with ⟨A,C,e,rfl,rfl⟩ | ⟨⟨A,C,e,hA,hC⟩,rfl,rfl,rfl⟩
 ·obtain ⟨XA,r0,XC,rfl,rfl,rfl,rfl⟩:=zKD e
  have e2:zKG ((XA++(k,r0)::XC).map zAw) k = (XA++XC).map zAw:=by
   rw [List.map_append,List.map_cons,List.map_append]
   refine zW9 (fun x hx=>?_) fun x hx=>?_
   ·obtain ⟨y,hy,rfl⟩:=List.mem_map.1 hx
    exact ne_of_lt (zKE hs y hy)
   ·obtain ⟨y,hy,rfl⟩:=List.mem_map.1 hx
    exact Ne.symm (ne_of_lt (zVR hs y hy))
  rw [e2] at h
  refine ze (Sep.stars ((XA++(k,r0)::XC).map zAS)) ?_
  refine zFk ?_
  rw [show XA.map zAH++XC.map zAH = (XA++XC).map zAH by simp]
  refine ze (Sep.stars ((XA++XC).map zAS)) ?_
  refine zO t ?_
  refine zO st ?_
  refine zBy (fun x hx=>hok x ?_) h1 h3 (zB (h _ _))
  rw [List.map_append] at hx ⊢
  rcases List.mem_append.1 hx with hx | hx
  ·exact List.mem_append_left _ hx
  ·exact List.mem_append_right _ (List.mem_cons_of_mem _ hx)
 ·have e2:zKG (X.map zAw) k = X.map zAw:=zFw fun x hx=>by
   obtain ⟨y,hy,rfl⟩:=List.mem_map.1 hx
   have hy2:zAH y ∈ A++C:=by rw [← e]; exact List.mem_map.2 ⟨y,hy,rfl⟩
   rcases List.mem_append.1 hy2 with h4 | h4
   ·exact ne_of_lt (hA _ h4)
   ·exact Ne.symm (ne_of_lt (hC _ h4))
  rw [e2] at h
  refine ze (Sep.stars (X.map zAS)) ?_
  refine zO t ?_
  refine zO st ?_
  exact zBy hok h1 h3 (zB (h _ _))
theorem zHB {st n:Nat} {M:zy} {k:ByteArray} {r:Rec} {s:Sl} {q:K} (hr:r.ok) (hL:M.length < 1000000000) (h:HG B (zk st n (zB3 M k r)::Γ) q):HG B (zk st n M::Bytes yK s r.val::Γ) (qd.call (some ⟨st,0,none⟩) k (zII r s) q):=by
 unfold zB3 at h
 split at h
 ·rename_i h0
  refine fun w hw=>zFD _ _ _ _ _ ?_
  refine hg hw ?_
  clear hw w
  refine zHt fun t X hM hok h1 h3=>?_
  subst hM
  unfold qd
  refine zH fun r5=>?_
  repeat refine zT ?_
  refine s_t ?_ (by simp [h0.1])
  repeat refine zT ?_
  rw [show decide (r.cnt = 0) = true by simpa using h0.2]
  unfold qd.s1
  repeat refine zT ?_
  refine ze (Sep.stars (X.map zAS)) ?_
  refine zO t ?_
  refine zO st ?_
  exact zRY hok h1 h3 (by simpa using hL) fun _ _=>zB h
 ·rename_i h0
  refine zIZ hr ?_ hL h
  by_cases h1:r.has = true
  ·exact .inl h1
  ·exact .inr fun h2=>h0 ⟨by simpa using h1,h2⟩
theorem zMm {st n:Nat} {M:zy} {k:ByteArray} {v:Sl} {xs:List UInt8} {q:K} (hk:k.size < 1000000000000) (hL:M.length < 1000000000) (hr:∀ w,Holds B Γ w→RdB w v xs) (hx:xs.length ≤ 1000000000)
  (h:HG B (zk st n (zB3 M k { zx n M k with has:=true,val:=xs })::Γ) q):HG B (zk st n M::Γ) (zA5.call (some ⟨st,0,none⟩) k v q):=by
 refine fun w hw=>zIn _ _ _ _ _ ?_
 refine hg hw ?_
 clear hw w
 unfold zA5
 refine zAn hk fun s hok=>?_
 generalize zx n M k = r at *
 refine zH fun r6=>?_
 refine qA (b:=r6) (l':=jh r s) ?_
 refine zBz (fun w hw=>hr w hw.drops) hx fun s' _=>?_
 repeat refine zT ?_
 refine zw s' ?_
 refine zO st ?_
 obtain ⟨o1,o2,o3⟩:=hok
 refine zHB (r:={ r with has:=true,val:=xs }) ⟨o1,o2,hx⟩ hL ?_
 exact zB h
theorem zKH {st n:Nat} {M:zy} {k:ByteArray} {q:K} (hk:k.size < 1000000000000) (hL:M.length < 1000000000)
  (h:HG B (zk st n (zB3 M k { zx n M k with has:=false,val:=[] })::Γ) q):HG B (zk st n M::Γ) (jv.call (some ⟨st,0,none⟩) k q):=by
 refine fun w hw=>zGh _ _ _ _ ?_
 refine hg hw ?_
 clear hw w
 unfold jv
 refine zAn hk fun s hok=>?_
 generalize zx n M k = r at *
 refine zH fun r6=>?_
 refine qA (b:=r6) (l':=jh r s) ?_
 repeat refine zT ?_
 refine fun w hw=>?_
 refine hg (show Holds B (Bytes yK ⟨none,0,0⟩ []::_) w from hw.zAm yK 1) ?_
 clear hw w
 refine zw ⟨none,0,0⟩ ?_
 refine zO st ?_
 obtain ⟨o1,o2,o3⟩:=hok
 refine zHB (r:={ r with has:=false,val:=[] }) ⟨o1,o2,by simp⟩ hL ?_
 exact zB h
end
end
section
open Go Go.Sep
structure OpM where
 kind:Int
 key:List UInt8
 val:List UInt8
 n:Int
deriving DecidableEq
abbrev OpX:=OpM×Sl
abbrev opF (x:OpX):List Value:=[.int .i64 x.1.kind,qb x.1.key,x.2.val,.int .i64 x.1.n]
theorem zBF (x:OpX):(opF x).length = 4:=rfl
structure TxX where
 kind:Int
 reads:List (List UInt8)
 writes:List (List UInt8)
 ops:List OpX
 to:Int
 rs:Sl
 ws:Sl
 os:Sl
abbrev txL (t:TxX):List Value:=[.int .i64 t.kind,t.rs.val,t.ws.val,t.os.val,.int .i64 t.to]
def zCX (w:World) (t:TxX):Prop:=RdC w t.rs 1 (t.reads.map qb)∧RdC w t.ws 1 (t.writes.map qb)∧RdC w t.os 4 (t.ops.flatMap opF)∧∀ x ∈ t.ops,RdB w x.2 x.1.val
end
section
open Go.Proofs Go.Shelf
def zZS:Go.Shelf.Ren:=⟨fun | 6=>152 | 8=>88 | 9=>191 | 19=>144 | 20=>145 | 21=>214 | 22=>215 | 23=>216 | 24=>217 | 25=>218 | 26=>219 | 27=>220 | 28=>221 | 29=>222 | 36=>235 | 31=>185 | 32=>186 | 37=>236 | 38=>237 | 39=>238 | 41=>244 | n=>n,fun | 27=>22 | 29=>9 | 3=>3 | 32=>204 | 26=>22 | 0=>0 | 44=>273 | 46=>33 | 4=>4 | 36=>265 | 35=>264 | 41=>270 | 5=>5 | 9=>9 | 53=>308 | 57=>312 | 63=>339 | 64=>340 | n=>n,fun | n=>n⟩
theorem zUV:Go.Proofs.SlLaysM.n6 Tryz.prog zZS:={
 mixed:=by kernel_rfl
 f6:=⟨Tryz.f152.name,by decide,Tryz.func152.trans (congrArg some (by kernel_rfl))⟩
 f8:=Tryz.func88.trans (congrArg some (by kernel_rfl))
 f9:=⟨Tryz.f191.name,by decide,Tryz.func191.trans (congrArg some (by kernel_rfl))⟩
 f19:=Tryz.func144.trans (congrArg some (by kernel_rfl))
 f20:=Tryz.func145.trans (congrArg some (by kernel_rfl))
 f21:=⟨Tryz.f214.name,by decide,Tryz.func214.trans (congrArg some (by kernel_rfl))⟩
 f22:=⟨Tryz.f215.name,by decide,Tryz.func215.trans (congrArg some (by kernel_rfl))⟩
 f23:=⟨Tryz.f216.name,by decide,Tryz.func216.trans (congrArg some (by kernel_rfl))⟩
 f24:=⟨Tryz.f217.name,by decide,Tryz.func217.trans (congrArg some (by kernel_rfl))⟩
 f25:=⟨Tryz.f218.name,by decide,Tryz.func218.trans (congrArg some (by kernel_rfl))⟩
 f26:=⟨Tryz.f219.name,by decide,Tryz.func219.trans (congrArg some (by kernel_rfl))⟩
 f27:=⟨Tryz.f220.name,by decide,Tryz.func220.trans (congrArg some (by kernel_rfl))⟩
 f28:=⟨Tryz.f221.name,by decide,Tryz.func221.trans (congrArg some (by kernel_rfl))⟩
 f29:=⟨Tryz.f222.name,by decide,Tryz.func222.trans (congrArg some (by kernel_rfl))⟩
 f31:=Tryz.func185.trans (congrArg some (by kernel_rfl))
 f32:=Tryz.func186.trans (congrArg some (by kernel_rfl))
 f36:=⟨Tryz.f235.name,by decide,Tryz.func235.trans (congrArg some (by kernel_rfl))⟩
 f37:=⟨Tryz.f236.name,by decide,Tryz.func236.trans (congrArg some (by kernel_rfl))⟩
 f38:=⟨Tryz.f237.name,by decide,Tryz.func237.trans (congrArg some (by kernel_rfl))⟩
 f39:=⟨Tryz.f238.name,by decide,Tryz.func238.trans (congrArg some (by kernel_rfl))⟩
 f41:=⟨Tryz.f244.name,by decide,Tryz.func244.trans (congrArg some (by kernel_rfl))⟩
 t0:=Tryz.underlying0
 a0:=Tryz.isAgg0
 z0:=Tryz.sizeOf0
 v0:=Tryz.zeroValue0
 t3:=Tryz.underlying3
 a3:=Tryz.isAgg3
 z3:=Tryz.sizeOf3
 v3:=Tryz.zeroValue3
 t4:=Tryz.underlying4
 a4:=Tryz.isAgg4
 z4:=Tryz.sizeOf4
 v4:=Tryz.zeroValue4
 t5:=Tryz.underlying5
 a5:=Tryz.isAgg5
 z5:=Tryz.sizeOf5
 v5:=Tryz.zeroValue5
 t9:=Tryz.underlying9
 a9:=Tryz.isAgg9
 z9:=Tryz.sizeOf9
 v9:=Tryz.zeroValue9
 t26:=Tryz.underlying22
 a26:=Tryz.isAgg22
 z26:=Tryz.sizeOf22
 v26:=Tryz.zeroValue22
 t27:=Tryz.underlying22
 a27:=Tryz.isAgg22
 z27:=Tryz.sizeOf22
 v27:=Tryz.zeroValue22
 t29:=Tryz.underlying9
 a29:=Tryz.isAgg9
 z29:=Tryz.sizeOf9
 v29:=Tryz.zeroValue9
 t32:=Tryz.underlying204
 a32:=Tryz.isAgg204
 z32:=Tryz.sizeOf204
 v32:=Tryz.zeroValue204
 t35:=Tryz.underlying264
 a35:=Tryz.isAgg264
 z35:=Tryz.sizeOf264
 v35:=Tryz.zeroValue264
 t36:=Tryz.underlying265
 a36:=Tryz.isAgg265
 z36:=Tryz.sizeOf265
 v36:=Tryz.zeroValue265
 t41:=Tryz.underlying270
 a41:=Tryz.isAgg270
 z41:=Tryz.sizeOf270
 v41:=Tryz.zeroValue270
 t44:=Tryz.underlying273
 a44:=Tryz.isAgg273
 z44:=Tryz.sizeOf273
 v44:=Tryz.zeroValue273
 t46:=Tryz.underlying33
 a46:=Tryz.isAgg33
 z46:=Tryz.sizeOf33
 v46:=Tryz.zeroValue33
 t53:=Tryz.underlying308
 a53:=Tryz.isAgg308
 z53:=Tryz.sizeOf308
 v53:=Tryz.zeroValue308
 t57:=Tryz.underlying312
 a57:=Tryz.isAgg312
 z57:=Tryz.sizeOf312
 v57:=Tryz.zeroValue312
 t63:=Tryz.underlying339
 a63:=Tryz.isAgg339
 z63:=Tryz.sizeOf339
 v63:=Tryz.zeroValue339
 t64:=Tryz.underlying340
 a64:=Tryz.isAgg340
 z64:=Tryz.sizeOf340
 v64:=Tryz.zeroValue340 }
end
section
open Go Go.Sep
abbrev zC3 (ss:List (List UInt8)):List (List UInt8):=ss.mergeSort fun x y=>decide (x ≤ y)
section
variable {B w:World} {Γ:List zC}
theorem holds_grow (h:Holds B Γ w) (os:Array Obj):Holds B Γ (Sort.grow w os):=by
 obtain ⟨l⟩:=os
 induction l generalizing w with
 | nil=>simpa [Sort.grow] using h
 | cons o l ih=>
  have h1:=ih (h.alloc o).tail
  have e:Sort.grow { w with heap:=w.heap.push o } ⟨l⟩ = Sort.grow w ⟨o::l⟩:=by
   have e2:w.heap.push o++(⟨l⟩:Array Obj) = w.heap++(⟨o::l⟩:Array Obj):=by
    apply Array.ext'
    rw [Array.toList_append,Array.toList_append,Array.toList_push,List.append_assoc]
    rfl
   unfold Sort.grow
   rw [← e2]
  rw [e] at h1
  exact h1
theorem zFx {s:Sl} {ss:List (List UInt8)} {k:K} (hl:ss.length ≤ 1000000) (h:Holds B (SlC ug 1 s (ss.map qb)::Γ) w) (hk:∀ w,Holds B (SlC ug 1 s ((zC3 ss).map qb)::Γ) w→k w):uH.call s k w:=by
 have hsc:=h.zMS
 have hn:ss.length = s.n:=by have:=hsc.1; simpa using this
 unfold uH.call zL
 cases ha:s.a with
 | none=>
  have hs0:s.n = 0:=by have:=hsc.2.2.2 ha; omega
  have hss:ss = []:=List.length_eq_zero_iff.1 (by omega)
  subst hss
  have h1:=AnyM.slices_Sort_string_none zUV none s.c w
  have e:[Sl.val s].toArray = #[.slice none 0 s.c]:=by
   show #[Value.slice s.a s.n s.c] = _
   rw [ha,hs0]
  rw [e]
  refine Calls.mono h1 fun e w' he=>?_
  obtain ⟨rfl,rfl⟩:=he
  exact ⟨rfl,hk _ (by simpa [zC3] using h)⟩
 | some a=>
  obtain ⟨cs,fz,h,hsp,hf,hsz,hr,hlen,hc⟩:=zMT h ha
  obtain ⟨b,off,sp⟩:=a
  simp only at hsp
  subst hsp
  simp only at h hf hsz hr
  have hb:=h.block
  have hH:Sort.Holds Proofs.encStr w b off ss.toArray:=fun j hj=>by
   simp only [List.size_toArray] at hj
   have h1:=hr j (by simpa using hj)
   constructor
   ·refine vE hb ?_
    rw [h1,List.getElem?_map,List.getElem?_eq_getElem hj]
    simp [getElem!_pos,hj]
   ·exact zA7 hb (hf _ (by omega) (by omega))
  have h1:=AnyM.slices_Sort_string zUV b off s.c ss w hH (Array.getElem?_eq_some_iff.1 hb).1 (by omega)
  have e:[Sl.val s].toArray = #[.slice (some ⟨b,off,none⟩) ss.length s.c]:=by
   show #[Value.slice s.a s.n s.c] = _
   rw [ha,hn]
  rw [e]
  refine Calls.mono h1 fun e w' he=>?_
  obtain ⟨rfl,n,os,rfl⟩:=he
  refine ⟨rfl,hk _ ?_⟩
  have h2:Holds B (blk b (.cells cs ug fz)::Γ) (Sort.ahead w n):=h.drew _
  have h3:=h2.setBlock (o':=.cells (Sort.putCells Proofs.encStr off (zC3 ss).toArray cs) ug fz) rfl
  have e2:({ (Sort.ahead w n) with heap:=(Sort.ahead w n).heap.setIfInBounds b (.cells (Sort.putCells Proofs.encStr off (zC3 ss).toArray cs) ug fz) }:World) = Sort.putRow Proofs.encStr (Sort.ahead w n) b off (zC3 ss).toArray:=by
   have harr:(Sort.ahead w n).heap.setIfInBounds b (.cells (Sort.putCells Proofs.encStr off (zC3 ss).toArray cs) ug fz) = (Sort.ahead w n).heap.modify b (Sort.onCells (Sort.putCells Proofs.encStr off (zC3 ss).toArray)):=by
    apply Array.ext_getElem?
    intro i
    rw [Array.getElem?_modify]
    by_cases hi:b = i
    ·subst hi
     rw [if_pos rfl,h2.block,Array.getElem?_setIfInBounds_self_of_lt (Array.getElem?_eq_some_iff.1 h2.block).1]
     rfl
    ·rw [if_neg hi,Array.getElem?_setIfInBounds_ne hi]
   unfold Sort.putRow Sort.mapBlock
   rw [← harr]
  rw [e2] at h3
  have h4:=holds_grow h3 os
  have hsl:(zC3 ss).length = ss.length:=by simp [zC3]
  refine zMU (a:=⟨b,off,none⟩) ha h4 ⟨rfl,hf,?_,fun i hi=>?_,by rw [List.length_map,hsl]; simpa using hlen,hc⟩
  ·have:(Sort.putCells Proofs.encStr off (zC3 ss).toArray cs).size = cs.size:=by simp [Sort.putCells]
   rw [this]; exact hsz
  ·simp only [List.length_map] at hi
   unfold Sort.putCells
   rw [Array.getElem?_mapIdx]
   have hlt:off + i < cs.size:=by omega
   rw [Array.getElem?_eq_getElem hlt,Option.map_some,if_pos (by simp; omega),List.getElem?_map,List.getElem?_eq_getElem hi,Option.map_some,Nat.add_sub_cancel_left,getElem!_pos (zC3 ss).toArray i (by simpa using hi)]
   simp
end
end
end Go.Proofs.YtdemfamgieonbaaGreat
namespace Go.Sep
section
open Go Go.RowKit Go.MapKept
section
variable {α β:Type} [DecidableEq α] {P:Program} {B w:World} {Γ:List zC} {enc:α→Value} {cV:β→Value}
def zSq (es:Array MapEntry) (seen:Array Nat) (m:List (α×β)):List (α×β):=((es.toList.zip m).filter fun p=>!seen.contains p.1.born).map Prod.snd
structure ItF (enc:α→Value) (cV:β→Value) (es:Array MapEntry) (c:Nat) (seen:Array Nat) (m left:List (α×β)) (cur:Option (α×β)):Prop where
 rel:zFG enc cV es m
 st:stamps es c
 lf:left = zSq es seen m
 cnt:seen.size + left.length = m.length
 cur:∀ p,cur = some p→∃ (seen':Array Nat) (e:MapEntry),seen = seen'.push e.born∧e ∈ es.toList∧e.key = enc p.1∧e.val = cV p.2
def zAo (enc:α→Value) (cV:β→Value) (b r:Nat) (m left:List (α×β)) (cur:Option (α×β)):zC:=ex fun es:Array MapEntry=>ex fun c:Nat=>ex fun seen:Array Nat=>
 stars [pur (ItF enc cV es c seen m left cur),blk b (.map es c),blk r (.mapIter (some b) c seen c)]
theorem zAo.opens {b r:Nat} {m left:List (α×β)} {cur:Option (α×β)} (h:Holds B (zAo enc cV b r m left cur::Γ) w):∃ es c seen,ItF enc cV es c seen m left cur∧Holds B (blk b (.map es c)::blk r (.mapIter (some b) c seen c)::Γ) w:=by
 obtain ⟨es,h⟩:=Holds.ex.1 h
 obtain ⟨c,h⟩:=Holds.ex.1 h
 obtain ⟨seen,h⟩:=Holds.ex.1 h
 obtain ⟨hp,h⟩:=Holds.pur.1 (Holds.flat.1 h)
 exact ⟨es,c,seen,hp,h⟩
theorem zAo.shuts {b r:Nat} {m left:List (α×β)} {cur:Option (α×β)} {es:Array MapEntry} {c:Nat} {seen:Array Nat} (hp:ItF enc cV es c seen m left cur) (h:Holds B (blk b (.map es c)::blk r (.mapIter (some b) c seen c)::Γ) w):Holds B (zAo enc cV b r m left cur::Γ) w :=
 Holds.ex.2 ⟨es,Holds.ex.2 ⟨c,Holds.ex.2 ⟨seen,Holds.flat.2 (Holds.pur.2 ⟨hp,h⟩)⟩⟩⟩
theorem zAo.ends {b r:Nat} {m left:List (α×β)} {cur:Option (α×β)} (h:Holds B (zAo enc cV b r m left cur::Γ) w):Holds B (xE enc cV b m::Γ) w:=by
 obtain ⟨es,c,seen,hp,h⟩:=zAo.opens h
 exact xE.shuts ⟨hp.rel,hp.st⟩ (h.del 1 rfl)
theorem zRZ {es:Array MapEntry} {m:List (α×β)} (h:zFG enc cV es m):es.toList.length = m.length:=by have:=congrArg List.length h; simpa using this
theorem zXA {es:Array MapEntry} {m:List (α×β)} (h:zFG enc cV es m):∀ p ∈ es.toList.zip m,p.1.key = enc p.2.1∧p.1.val = cV p.2.2:=by
 intro p hp
 obtain ⟨i,hi⟩:=List.getElem?_of_mem hp
 rw [List.getElem?_zip_eq_some] at hi
 have:=zFS h i
 rw [hi.1,hi.2] at this
 simp only [Option.map_some,Option.some.injEq,Prod.mk.injEq] at this
 exact this
theorem zUW {T E:TypeId} {d:TypeDesc} {b:Nat} {m:List (α×β)} {k:Option Addr→K} (hT:zFt P T d E) (h:Holds B (xE enc cV b m::Γ) w) (hk:∀ r w,Holds B (zAo enc cV b r m m none::Γ) w→k (some ⟨r,0,none⟩) w) :
  Do P (Instr.range T (.map (some b))) Value.pointer k w:=by
 obtain ⟨kt,hT,hd⟩:=hT
 obtain ⟨es,c,⟨hr,hst⟩,h⟩:=xE.opens h
 have hb:=h.block
 refine ⟨some ⟨w.heap.size,0,none⟩,{ w with heap:=w.heap.push (.mapIter (some b) c #[] c) },?_,hk _ _ (zAo.shuts (seen:=#[]) ⟨hr,hst,?_,by simp,fun p hp=>by cases hp⟩ (h.alloc _).swap)⟩
 ·unfold Instr.range
  simp only [Sem.run_bind,run_underlying hT,Result.andThen,MapKept.run_getObj_map hb,Sem.run_pure]
  rfl
 ·unfold zSq
  have e:(es.toList.zip m).filter (fun p=>!(#[]:Array Nat).contains p.1.born) = es.toList.zip m:=List.filter_eq_self.2 (fun p _=>by simp)
  rw [e,List.map_snd_zip (by rw [zRZ hr]; exact Nat.le_refl _)]
theorem zKI {es:List MapEntry} {m:List (α×β)} (seen:Array Nat) (hn:(es.map (·.born)).Nodup) (hl:es.length = m.length) {e:MapEntry} (he:e ∈ es.filter (fun e=>!seen.contains e.born)) :
  ∃ l1 p l2,(e,p) ∈ es.zip m∧((es.zip m).filter fun p=>!seen.contains p.1.born).map Prod.snd = l1++p::l2∧((es.zip m).filter fun p=>!(seen.push e.born).contains p.1.born).map Prod.snd = l1++l2:=by
 induction es generalizing m with
 | nil=>simp at he
 | cons x es ih=>
  cases m with
  | nil=>simp at hl
  | cons q m=>
   simp only [List.map_cons,List.nodup_cons] at hn
   simp only [List.zip_cons_cons]
   by_cases hx:x = e
   ·subst hx
    have hxs:(!seen.contains x.born) = true:=(List.mem_filter.1 he).2
    refine ⟨[],q,((es.zip m).filter fun p=>!seen.contains p.1.born).map Prod.snd,List.mem_cons_self,?_,?_⟩
    ·simp only [List.filter_cons]; rw [if_pos hxs]; rfl
    ·simp only [List.filter_cons]
     rw [if_neg (by simp)]
     simp only [List.nil_append]
     congr 1
     refine List.filter_congr fun p hp=>?_
     have hpe:p.1.born ≠ x.born:=fun heq=>hn.1 (by rw [← heq]; exact List.mem_map_of_mem (List.of_mem_zip hp).1)
     simp [Array.contains_push,hpe]
   ·have he2:e ∈ es.filter (fun e=>!seen.contains e.born):=by
     have h1:=List.mem_filter.1 he
     rcases List.mem_cons.1 h1.1 with h2 | h2
     ·exact absurd h2.symm hx
     ·exact List.mem_filter.2 ⟨h2,h1.2⟩
    obtain ⟨l1,p,l2,h1,h2,h3⟩:=ih hn.2 (by simpa using hl) he2
    have hxb:x.born ≠ e.born:=fun heq=>hn.1 (by rw [heq]; exact List.mem_map_of_mem (List.mem_filter.1 he2).1)
    by_cases hs:(!seen.contains x.born) = true
    ·refine ⟨q::l1,p,l2,List.mem_cons_of_mem _ h1,?_,?_⟩
     ·simp only [List.filter_cons]
      rw [if_pos hs,List.map_cons,h2]; rfl
     ·simp only [List.filter_cons]
      rw [if_pos (by simp [Array.contains_push,hxb] at hs ⊢; exact hs),List.map_cons,h3]; rfl
    ·refine ⟨l1,p,l2,List.mem_cons_of_mem _ h1,?_,?_⟩
     ·simp only [List.filter_cons]
      rw [if_neg hs,h2]
     ·simp only [List.filter_cons]
      rw [if_neg (by simp [Array.contains_push,hxb] at hs ⊢; exact hs),h3]
theorem zXB {b r:Nat} {m left:List (α×β)} {cur:Option (α×β)} {k:Value→K} (h:Holds B (zAo enc cV b r m left cur::Γ) w)
  (h0:left = []→∀ w,Holds B (xE enc cV b m::Γ) w→k (.tuple #[.bool false]) w)
  (h1:∀ l1 p l2 w,left = l1++p::l2→p ∈ m→Holds B (zAo enc cV b r m (l1++l2) (some p)::Γ) w→k (.tuple #[.bool true,enc p.1,cV p.2]) w) :
  Do P (Instr.next (.pointer (some ⟨r,0,none⟩)) false 0) id k w:=by
 have hend:=zAo.ends h
 obtain ⟨es,c,seen,hp,h⟩:=zAo.opens h
 have hb:=h.block
 have hr:=h.tail.block
 rcases run_next_at (P:=P) w 0 r b c c seen es c hr hb hp.st.2 (Nat.le_refl _) with ⟨hz,hrun⟩ | ⟨e,he,w1,hw1,hrun⟩
 ·refine ⟨_,w,hrun,h0 ?_ w hend⟩
  rw [hp.lf]
  unfold zSq
  have hnone:es.toList.filter (fun e=>!seen.contains e.born) = []:=by
   have:(leftOf es seen).toList.length = 0:=by simpa using hz
   unfold leftOf at this
   rw [Array.toList_filter] at this
   exact List.length_eq_zero_iff.1 this
  have:(es.toList.zip m).filter (fun p=>!seen.contains p.1.born) = []:=by
   rw [List.filter_eq_nil_iff] at hnone ⊢
   intro p hpz
   exact hnone p.1 (List.of_mem_zip hpz).1
  rw [this]; rfl
 ·have he2:e ∈ es.toList.filter (fun e=>!seen.contains e.born):=by
   unfold leftOf at he
   rw [Array.toList_filter] at he
   exact he
  obtain ⟨l1,p,l2,hz,hl,hl2⟩:=zKI seen hp.st.1 (zRZ hp.rel) he2
  have hkv:=zXA hp.rel _ hz
  simp only at hkv
  refine ⟨_,_,hrun,?_⟩
  show k (.tuple #[.bool true,e.key,e.val]) _
  rw [hkv.1,hkv.2]
  have hw:∃ w',w1 = w'∧Holds B (blk b (.map es c)::blk r (.mapIter (some b) c seen c)::Γ) w':=by
   rcases hw1 with rfl | rfl
   ·exact ⟨_,rfl,h⟩
   ·exact ⟨_,rfl,h.drew _⟩
  obtain ⟨w',rfl,h⟩:=hw
  refine h1 l1 p l2 _ (by rw [hp.lf]; exact hl) (List.of_mem_zip hz).2 (zAo.shuts (es:=es) (c:=c) (seen:=seen.push e.born) ⟨hp.rel,hp.st,hl2.symm,?_,fun q hq=>?_⟩ ?_)
  ·have h3:=hp.cnt
   have h4:left = l1++p::l2:=by rw [hp.lf]; exact hl
   rw [h4] at h3
   simp only [List.length_append,List.length_cons,Array.size_push] at h3 ⊢
   omega
  ·cases hq
   exact ⟨seen,e,rfl,(List.of_mem_zip hz).1,hkv.1,hkv.2⟩
  ·exact (h.swap.setBlock (o':=.mapIter (some b) c (seen.push e.born) c) rfl).swap
def zQA (r n:Nat) (w:World):Nat:=match w.heap[r]? with
 | some (.mapIter _ _ seen _)=>n - seen.size
 | _=>0
theorem zRa {b r:Nat} {m left:List (α×β)} {cur:Option (α×β)} (h:Holds B (zAo enc cV b r m left cur::Γ) w):zQA r m.length w = left.length:=by
 obtain ⟨es,c,seen,hp,h⟩:=zAo.opens h
 have:=hp.cnt
 unfold zQA
 rw [h.tail.block]
 simp only
 omega
theorem zUX {b r:Nat} {m left:List (α×β)} {p:α×β} {k:Value→K} (h:Holds B (zAo enc cV b r m left (some p)::Γ) w) (hk:k (.tuple #[enc p.1,cV p.2]) w) :
  Do P (Instr.entry (.pointer (some ⟨r,0,none⟩))) id k w:=by
 obtain ⟨es,c,seen,hp,h⟩:=zAo.opens h
 obtain ⟨seen',e,hs,he,hk1,hk2⟩:=hp.cur p rfl
 subst hs
 refine ⟨_,w,run_entry_at (P:=P) w r b c seen' es c e h.tail.block h.block he hp.st.1,?_⟩
 show k (.tuple #[e.key,e.val]) w
 rw [hk1,hk2]
 exact hk
theorem zVS {zv:Value} {T E:TypeId} {d:TypeDesc} {b:Nat} {m:List (α×β)} {a:α} (hT:zFt P T d E) (hE:zLE d enc) (hz:zBl P E zv) {es:Array MapEntry} {c:Nat} (hb:w.heap[b]? = some (.map es c)) (hr:zFG enc cV es m) (ok:Bool) :
  (Instr.lookup T (.map (some b)) (enc a) ok).run P w = .ok (if ok then .tuple #[((y8 a m).map cV).getD zv,.bool (y8 a m).isSome] else ((y8 a m).map cV).getD zv) w:=by
 obtain ⟨kt,hT,hd⟩:=hT
 unfold Instr.lookup
 simp only [Sem.run_bind,run_underlying hT,Result.andThen,MapKept.run_getObj_map hb,run_checkKey hd (hE.key a),Sem.run_pure]
 rcases zSk hE hr a with ⟨h1,h2,_⟩ | ⟨j,x,h1,_,_,h2,_⟩
 ·simp only [run_findKey hd h1,Result.andThen,Sem.run_bind,zAx hz,Sem.run_pure,h2]
  cases ok <;> rfl
 ·simp only [run_findKey hd h1,Result.andThen,Sem.run_bind,Sem.run_pure,h2]
  cases ok <;> rfl
end
end
end Go.Sep
namespace Go.Proofs.YtdemfamgieonbaaGreat
section
open Go Go.Sep
theorem zFy:zLE .string qb:=⟨fun _=>trivial,fun a b h=>by
 have h1:bs a = bs b:=by injection h
 have h2:=congrArg (fun x:ByteArray=>x.data.toList) h1
 simpa using h2,fun a=>zRS.bits (bs a)⟩
theorem zSr {l l':List (List UInt8)} (h:l.Perm l'):zC3 l = zC3 l':=by
 have tr:∀ a b c:List UInt8,decide (a ≤ b) = true→decide (b ≤ c) = true→decide (a ≤ c) = true:=fun a b c h1 h2=>by
  simp only [decide_eq_true_eq] at *
  exact List.le_trans h1 h2
 have tot:∀ a b:List UInt8,(decide (a ≤ b) || decide (b ≤ a)) = true:=fun a b=>by
  simp only [Bool.or_eq_true,decide_eq_true_eq]
  exact List.le_total a b
 refine List.Perm.eq_of_pairwise (le:=fun a b=>decide (a ≤ b) = true) (fun a b _ _ h1 h2=>?_) (List.pairwise_mergeSort tr tot l) (List.pairwise_mergeSort tr tot l') ?_
 ·simp only [decide_eq_true_eq] at h1 h2
  exact List.le_antisymm h1 h2
 ·exact ((List.mergeSort_perm l _).trans h).trans (List.mergeSort_perm l' _).symm
theorem zOS (l:List (List UInt8)):(zC3 l).length = l.length:=(List.mergeSort_perm l _).length_eq
theorem zVT {l:List (List UInt8)} {x:List UInt8}:x ∈ zC3 l ↔ x ∈ l:=(List.mergeSort_perm l _).mem_iff
abbrev SlS (s:Sl) (ss:List (List UInt8)):zC:=SlC ug 1 s (ss.map qb)
end
end Go.Proofs.YtdemfamgieonbaaGreat
namespace Go.Sep
section
open Go Go.RowKit
inductive Ck where
 | int (k:IntKind)
 | str
 | bool
def Ck.fit:Ck→Value→Bool
 | .int k,.int k' _=>k' == k
 | .str,.string _=>true
 | .bool,.bool _=>true
 | _,_=>false
def fits:List Ck→List Value→Bool
 | [],[]=>true
 | c::cs,v::vs=>c.fit v && fits cs vs
 | _,_=>false
def zSs (P:Program) (f:TypeId→Option (List Ck)):List Field→Nat→Option (List Ck)
 | [],_=>some []
 | x::fs,off=>match f x.type with
  | none=>none
  | some ks => if x.name != "_" && Nat.beq x.offset off && sizeT P x.type ks.length then (zSs P f fs (off + ks.length)).map (ks ++ ·) else none
def zHC (P:Program):Nat→TypeId→Option (List Ck)
 | 0,_=>none
 | d + 1,t=>match P.underlying t with
  | some (.int k)=>some [.int k]
  | some .string=>some [.str]
  | some .bool=>some [.bool]
  | some (.struct fs)=>if P.stoodInHeld t then none else zSs P (zHC P d) fs.toList 0
  | _=>none
def zBm (P:Program) (t:TypeId):Bool:=match P.underlying t with
 | some (.struct _)=>true
 | _=>false
def zB4 (P:Program) (t:TypeId) (vs:List Value):Value:=if zBm P t then .agg vs.toArray else vs.headD .nilIface
theorem zUY {k:IntKind} {v:Value} (h:(Ck.int k).fit v = true):∃ n,v = .int k n:=by
 cases v <;> simp [Ck.fit] at h
 subst h; exact ⟨_,rfl⟩
theorem zUZ {v:Value} (h:Ck.str.fit v = true):∃ n,v = .string n:=by
 cases v <;> simp [Ck.fit] at h
 exact ⟨_,rfl⟩
theorem zRb {v:Value} (h:Ck.bool.fit v = true):∃ n,v = .bool n:=by
 cases v <;> simp [Ck.fit] at h
 exact ⟨_,rfl⟩
theorem zDi:∀ {ks:List Ck} {vs:List Value},fits ks vs = true→vs.length = ks.length
 | [],[],_=>rfl
 | c::ks,v::vs,h=>by
  simp only [fits,Bool.and_eq_true] at h
  simp [zDi h.2]
 | [],_::_,h=>by simp [fits] at h
 | _::_,[],h=>by simp [fits] at h
theorem zJg:∀ {ks ks':List Ck} {vs:List Value},fits (ks++ks') vs = true→fits ks (vs.take ks.length) = true∧fits ks' (vs.drop ks.length) = true
 | [],ks',vs,h=>by simpa [fits] using h
 | c::ks,ks',[],h=>by simp [fits] at h
 | c::ks,ks',v::vs,h=>by
  simp only [List.cons_append,fits,Bool.and_eq_true] at h
  obtain ⟨h1,h2⟩:=zJg h.2
  simp only [List.length_cons,List.take_succ_cons,List.drop_succ_cons,fits,Bool.and_eq_true]
  exact ⟨⟨h.1,h1⟩,h2⟩
section
variable {P:Program}
theorem zVU {t:TypeId} {d:Nat} {ks:List Ck} (h:zHC P d t = some ks) (w:World):(isAgg t).run P w = .ok (zBm P t) w:=by
 cases d with
 | zero=>cases h
 | succ d =>
  unfold zHC at h
  unfold isAgg zBm
  split at h <;> rename_i hu
  ·simp [run_underlying hu,hu]
  ·simp [run_underlying hu,hu]
  ·simp [run_underlying hu,hu]
  ·simp [run_underlying hu,hu]
  ·cases h
theorem zbJ {t:TypeId} {d:Nat} {ks:List Ck} (h:zHC P d t = some ks) (hs:zBm P t = false):∃ c,ks = [c]:=by
 cases d with
 | zero=>cases h
 | succ d =>
  unfold zHC at h
  unfold zBm at hs
  split at h <;> rename_i hu
  ·exact ⟨_,(Option.some.inj h).symm⟩
  ·exact ⟨_,(Option.some.inj h).symm⟩
  ·exact ⟨_,(Option.some.inj h).symm⟩
  ·rw [hu] at hs; cases hs
  ·cases h
theorem zFZ {t:TypeId} {d:Nat} {ks:List Ck} (h:zHC P d t = some ks) (hz:sizeT P t ks.length = true) {cs:List Value} {off:Nat} (hl:off + ks.length ≤ cs.length) (w:World) :
  (part t cs.toArray off).run P w = .ok (zB4 P t ((cs.drop off).take ks.length)) w:=by
 unfold part zB4
 simp only [Sem.run_bind,zVU h,Result.andThen]
 cases hs:zBm P t with
 | true =>
  simp only [if_true,Sem.run_bind,jE hz,Result.andThen,Sem.run_pure]
  congr 2
  apply Array.ext'
  simp [List.extract]
 | false =>
  obtain ⟨c,rfl⟩:=zbJ h hs
  simp only [List.length_cons,List.length_nil,Nat.zero_add] at hl ⊢
  have hlt:off < cs.length:=by omega
  have e:cs.toArray[off]? = some cs[off]:=by simp [hlt]
  simp only [Bool.false_eq_true,if_false,e,Sem.run_pure]
  rw [List.drop_eq_getElem_cons hlt]
  rfl
theorem zUa {D d:Nat} (ih:∀ t ks xs ys,zHC P d t = some ks→fits ks xs = true→fits ks ys = true→∀ w,∃ r:Bool,(Op.equalIn D t (zB4 P t xs) (zB4 P t ys)).run P w = .ok r w∧(r = true ↔ xs = ys)) (xs ys:List Value) :
  ∀ (fs:List Field) (off:Nat) (ks:List Ck),zSs P (zHC P d) fs off = some ks→off ≤ xs.length→off ≤ ys.length→fits ks (xs.drop off) = true→fits ks (ys.drop off) = true→∀ w,∃ r:Bool,(Op.eqFields D xs.toArray ys.toArray fs).run P w = .ok r w∧(r = true ↔ xs.drop off = ys.drop off)
 | [],off,ks,h,_,_,hx,hy,w=>by
  simp only [zSs,Option.some.injEq] at h
  subst h
  have h1:=List.length_eq_zero_iff.1 (zDi hx)
  have h2:=List.length_eq_zero_iff.1 (zDi hy)
  exact ⟨true,by simp [Op.eqFields],by simp [h1,h2]⟩
 | f::fs,off,ks,h,lx,ly,hx,hy,w=>by
  unfold zSs at h
  split at h
  ·cases h
  rename_i k1 hk1
  split at h
  ·rename_i hc
   simp only [Bool.and_eq_true,bne_iff_ne,ne_eq,Nat.beq_eq] at hc
   obtain ⟨⟨hn,rfl⟩,hz⟩:=hc
   simp only [Option.map_eq_some_iff] at h
   obtain ⟨k2,hk2,rfl⟩:=h
   have ax:=zJg hx
   have ay:=zJg hy
   have cx:=zDi hx
   have cy:=zDi hy
   simp only [List.length_append,List.length_drop] at cx cy
   obtain ⟨r,hr,hiff⟩:=ih f.type k1 _ _ hk1 ax.1 ay.1 w
   obtain ⟨r2,hr2,hiff2⟩:=zUa ih xs ys fs _ k2 hk2 (by omega) (by omega) (by rw [← List.drop_drop]; exact ax.2) (by rw [← List.drop_drop]; exact ay.2) w
   unfold Op.eqFields
   rw [if_pos hn]
   simp only [Sem.run_bind,zFZ hk1 hz (show f.offset + k1.length ≤ xs.length by omega),zFZ hk1 hz (show f.offset + k1.length ≤ ys.length by omega),Result.andThen,hr]
   have hsp:xs.drop f.offset = ys.drop f.offset ↔ ((xs.drop f.offset).take k1.length = (ys.drop f.offset).take k1.length∧xs.drop (f.offset + k1.length) = ys.drop (f.offset + k1.length)):=by
    constructor
    ·intro e; rw [e,← List.drop_drop,← List.drop_drop,e]; exact ⟨rfl,rfl⟩
    ·rintro ⟨e1,e2⟩
     rw [← List.take_append_drop k1.length (xs.drop f.offset),← List.take_append_drop k1.length (ys.drop f.offset),e1,List.drop_drop,List.drop_drop,e2]
   cases r with
   | false =>
    refine ⟨false,by simp,?_⟩
    rw [hsp,← hiff]; simp
   | true =>
    refine ⟨r2,by simpa using hr2,?_⟩
    rw [hsp,← hiff,hiff2]; simp
  ·cases h
theorem str_inj {a b:ByteArray}:(a.toList == b.toList) = true ↔ a = b:=by
 obtain ⟨x,rfl⟩:=zKy a
 obtain ⟨y,rfl⟩:=zKy b
 rw [xY,xY,beq_iff_eq]
 exact ⟨fun h=>by rw [h],fun h=>by have:=congrArg ByteArray.toList h; rwa [xY,xY] at this⟩
theorem zK2 (D:Nat):∀ (d:Nat) (t:TypeId) (ks:List Ck) (xs ys:List Value),zHC P d t = some ks→fits ks xs = true→fits ks ys = true→∀ w,∃ r:Bool,(Op.equalIn (D + d) t (zB4 P t xs) (zB4 P t ys)).run P w = .ok r w∧(r = true ↔ xs = ys)
 | 0,t,ks,xs,ys,h,_,_,w=>by cases h
 | d + 1,t,ks,xs,ys,h,hx,hy,w=>by
  unfold zHC at h
  have lx:=zDi hx
  have ly:=zDi hy
  split at h <;> rename_i hu
  ·injection h with h; subst h
   obtain ⟨x,rfl⟩:=List.length_eq_one_iff.1 lx
   obtain ⟨y,rfl⟩:=List.length_eq_one_iff.1 ly
   simp only [fits,Bool.and_true] at hx hy
   have hs:zBm P t = false:=by unfold zBm; rw [hu]
   obtain ⟨a,rfl⟩:=zUY hx
   obtain ⟨b,rfl⟩:=zUY hy
   refine ⟨a == b,?_,by simp⟩
   simp only [zB4,hs,Bool.false_eq_true,if_false,List.headD_cons]
   exact run_equalIn_int w (D + d) t _ _ _ _ hu
  ·injection h with h; subst h
   obtain ⟨x,rfl⟩:=List.length_eq_one_iff.1 lx
   obtain ⟨y,rfl⟩:=List.length_eq_one_iff.1 ly
   simp only [fits,Bool.and_true] at hx hy
   have hs:zBm P t = false:=by unfold zBm; rw [hu]
   obtain ⟨a,rfl⟩:=zUZ hx
   obtain ⟨b,rfl⟩:=zUZ hy
   refine ⟨a.toList == b.toList,?_,by rw [str_inj]; simp⟩
   simp only [zB4,hs,Bool.false_eq_true,if_false,List.headD_cons]
   exact run_equalIn_string w (D + d) t _ _ hu
  ·injection h with h; subst h
   obtain ⟨x,rfl⟩:=List.length_eq_one_iff.1 lx
   obtain ⟨y,rfl⟩:=List.length_eq_one_iff.1 ly
   simp only [fits,Bool.and_true] at hx hy
   have hs:zBm P t = false:=by unfold zBm; rw [hu]
   obtain ⟨a,rfl⟩:=zRb hx
   obtain ⟨b,rfl⟩:=zRb hy
   refine ⟨a == b,?_,by simp⟩
   simp only [zB4,hs,Bool.false_eq_true,if_false,List.headD_cons]
   exact run_equalIn_bool' w (D + d) t _ _ hu
  ·rename_i fs
   split at h
   ·cases h
   rename_i hst
   have hs:zBm P t = true:=by unfold zBm; rw [hu]
   have hf:P.fieldsOf t = fs:=by unfold Program.fieldsOf; rw [hu]
   simp only [zB4,hs,if_true]
   rw [show D + (d + 1) = (D + d) + 1 by omega,run_equalIn_agg w (D + d) t _ _ (by rw [hf,hu]) (by simpa using hst),hf]
   have:=zUa (D:=D + d) (fun t ks xs ys h1 h2 h3 w=>zK2 D d t ks xs ys h1 h2 h3 w) xs ys fs.toList 0 ks h (Nat.zero_le _) (Nat.zero_le _) (by simpa using hx) (by simpa using hy) w
   simpa using this
  ·cases h
theorem zHD {d:Nat} (hd:d ≤ 10000) {t:TypeId} {ks:List Ck} {xs ys:List Value} (h:zHC P d t = some ks) (hs:zBm P t = true) (hx:fits ks xs = true) (hy:fits ks ys = true) (w:World):∃ r:Bool,(Op.equal t (.agg xs.toArray) (.agg ys.toArray)).run P w = .ok r w∧(r = true ↔ xs = ys):=by
 have:=zK2 (10000 - d) d t ks xs ys h hx hy w
 rw [show 10000 - d + d = 10000 by omega] at this
 unfold Op.equal Op.maxDepth
 simpa only [zB4,hs,if_true] using this
theorem zad {B:World} {Γ:List zC} {T:TypeId} {ks:List Ck} {xs ys:List Value} {p:Prop} [Decidable p] {x y:Operand} {k:Bool→K} (hp:xs = ys ↔ p) (h:HG B Γ (k (decide p))) (hc:zHC P 9 T = some ks:=by kernel_rfl) (hs:zBm P T = true:=by kernel_rfl) (hg:P.eqGuardType P.depth T = false:=by kernel_rfl) (hx:fits ks xs = true:=by rfl) (hy:fits ks ys = true:=by rfl) :
  HG B Γ (Pu P (do eqGuard .eql T x y (.agg xs.toArray) (.agg ys.toArray); binOp .eql T (.agg xs.toArray) (.agg ys.toArray):Sem Value) Value.bool k):=fun w hw=>by
 refine ⟨decide p,fun w=>?_,h w hw⟩
 obtain ⟨r,hr,hiff⟩:=zHD (by omega) hc hs hx hy w
 have e:r = decide p:=by rw [Bool.eq_iff_iff,hiff,hp]; simp
 subst e
 simp only [Op.equal,Op.maxDepth] at hr
 simp only [Sem.run_bind,run_eqGuard_agg w _ _ _ _ _ _ hg,Result.andThen,run_eql_struct,hr]
theorem zRc {D d:Nat} {e:Bool} (ih:∀ t ks xs,zHC P d t = some ks→fits ks xs = true→∀ w,(Instr.checkKey e D t (zB4 P t xs)).run P w = .ok () w) (xs:List Value) {body:Field→PUnit→Sem (ForInStep PUnit)}
  (hb : ∀ f v w, f.name ≠ "_" → (part f.type xs.toArray f.offset).run P w = .ok v w → (Instr.checkKey e D f.type v).run P w = .ok () w → (body f PUnit.unit).run P w = .ok (.yield PUnit.unit) w) :
  ∀ (fs:List Field) (off:Nat) (ks:List Ck),zSs P (zHC P d) fs off = some ks→off ≤ xs.length→fits ks (xs.drop off) = true→∀ w,(forIn fs PUnit.unit body).run P w = .ok PUnit.unit w
 | [],off,ks,h,_,hx,w=>by simp
 | f::fs,off,ks,h,lx,hx,w=>by
  unfold zSs at h
  split at h
  ·cases h
  rename_i k1 hk1
  split at h
  ·rename_i hc
   simp only [Bool.and_eq_true,bne_iff_ne,ne_eq,Nat.beq_eq] at hc
   obtain ⟨⟨hn,rfl⟩,hz⟩:=hc
   simp only [Option.map_eq_some_iff] at h
   obtain ⟨k2,hk2,rfl⟩:=h
   have ax:=zJg hx
   have cx:=zDi hx
   simp only [List.length_append,List.length_drop] at cx
   have h2:=zRc ih xs hb fs _ k2 hk2 (by omega) (by rw [← List.drop_drop]; exact ax.2) w
   have h3:=hb f _ w hn (zFZ hk1 hz (show f.offset + k1.length ≤ xs.length by omega) w) (ih f.type k1 _ hk1 ax.1 w)
   simp only [List.forIn_cons,Sem.run_bind,h3,Result.andThen]
   exact h2
  ·cases h
theorem zJh (D:Nat) {e:Bool}:∀ (d:Nat) (t:TypeId) (ks:List Ck) (xs:List Value),zHC P d t = some ks→fits ks xs = true→∀ w,(Instr.checkKey e (D + d) t (zB4 P t xs)).run P w = .ok () w
 | 0,t,ks,xs,h,_,w=>by cases h
 | d + 1,t,ks,xs,h,hx,w=>by
  unfold zHC at h
  have lx:=zDi hx
  rw [show D + (d + 1) = (D + d) + 1 by omega]
  split at h <;> rename_i hu
  ·injection h with h; subst h
   obtain ⟨x,rfl⟩:=List.length_eq_one_iff.1 lx
   have hs:zBm P t = false:=by unfold zBm; rw [hu]
   simp only [zB4,hs,Bool.false_eq_true,if_false,List.headD_cons]
   unfold Instr.checkKey
   simp [run_underlying hu,Result.andThen]
  ·injection h with h; subst h
   obtain ⟨x,rfl⟩:=List.length_eq_one_iff.1 lx
   have hs:zBm P t = false:=by unfold zBm; rw [hu]
   simp only [zB4,hs,Bool.false_eq_true,if_false,List.headD_cons]
   unfold Instr.checkKey
   simp [run_underlying hu,Result.andThen]
  ·injection h with h; subst h
   obtain ⟨x,rfl⟩:=List.length_eq_one_iff.1 lx
   have hs:zBm P t = false:=by unfold zBm; rw [hu]
   simp only [zB4,hs,Bool.false_eq_true,if_false,List.headD_cons]
   unfold Instr.checkKey
   simp [run_underlying hu,Result.andThen]
  ·rename_i fs
   split at h
   ·cases h
   have hs:zBm P t = true:=by unfold zBm; rw [hu]
   simp only [zB4,hs,if_true]
   unfold Instr.checkKey
   simp only [Sem.run_bind,run_underlying hu,Result.andThen]
   rw [← Array.forIn_toList]
   rw [zRc (D:=D + d) (e:=e) (fun t ks xs h1 h2 w=>zJh D d t ks xs h1 h2 w) xs (fun f v w h1 h2 h3=>by rw [if_pos h1]; simp only [Sem.run_bind,h2,h3,Result.andThen,Sem.run_pure]) fs.toList 0 ks h (Nat.zero_le _) (by simpa using hx) w]
   simp
  ·cases h
structure zLF {α:Type} (P:Program) (kt:TypeId) (cel:α→List Value):Prop where
 st:zBm P kt = true
 ks:∃ ks,zHC P 9 kt = some ks∧∀ a,fits ks (cel a) = true
 inj:∀ a b,cel a = cel b→a = b
 bits:∀ a,Instr.sameBits 10000 (.agg (cel a).toArray) (.agg (cel a).toArray) = true
abbrev kyS {α:Type} (cel:α→List Value) (a:α):Value:=.agg (cel a).toArray
section
variable {α β:Type} [DecidableEq α] {B w:World} {Γ Δ:List zC} {kt:TypeId} {cel:α→List Value} {cV:β→Value} {k:K}
theorem zLF.chk (hE:zLF P kt cel) (a:α) (e:Bool) (w:World):(Instr.checkKey e 10000 kt (kyS cel a)).run P w = .ok () w:=by
 obtain ⟨ks,h1,h2⟩:=hE.ks
 have:=zJh 9991 (e:=e) 9 kt ks (cel a) h1 (h2 a) w
 simpa only [zB4,hE.st,if_true] using this
theorem zLF.eq (hE:zLF P kt cel) (a b:α) (w:World):(Op.equal kt (kyS cel a) (kyS cel b)).run P w = .ok (decide (a = b)) w:=by
 obtain ⟨ks,h1,h2⟩:=hE.ks
 obtain ⟨r,hr,hiff⟩:=zHD (d:=9) (by omega) h1 hE.st (h2 a) (h2 b) w
 have e:r = decide (a = b):=by rw [Bool.eq_iff_iff,hiff]; simp; exact ⟨hE.inj a b,fun h=>by rw [h]⟩
 rw [← e]; exact hr
theorem zQB (hE:zLF P kt cel) (a:α) (w:World):∀ (l:List MapEntry) (m:List (α×β)) (i:Nat),l.map (fun e=>(e.key,e.val)) = m.map (fun p=>(kyS cel p.1,cV p.2)) →
  (y8 a m = none∧(Instr.findAsking kt (kyS cel a) l i).run P w = .ok none w)∨∃ j x,m[j]? = some (a,x)∧(∀ i,i < j→∀ p,m[i]? = some p→p.1 ≠ a)∧(Instr.findAsking kt (kyS cel a) l i).run P w = .ok (some (i + j,cV x)) w
 | [],[],i,_=>.inl ⟨rfl,by simp [Instr.findAsking]⟩
 | [],_::_,i,h=>by simp at h
 | _::_,[],i,h=>by simp at h
 | e::l,p::m,i,h=>by
  simp only [List.map_cons,List.cons.injEq,Prod.mk.injEq] at h
  obtain ⟨⟨e1,e2⟩,h⟩:=h
  unfold Instr.findAsking
  simp only [Sem.run_bind,e1,hE.eq,Result.andThen]
  by_cases hp:a = p.1
  ·right
   refine ⟨0,p.2,by rw [hp]; rfl,fun i hi=>absurd hi (by omega),?_⟩
   simp [hp,e2]
  ·rcases zQB hE a w l m (i + 1) h with ⟨h1,h2⟩ | ⟨j,x,h1,h2,h3⟩
   ·left
    refine ⟨?_,?_⟩
    ·unfold y8; rw [if_neg hp]; exact h1
    ·simpa [hp] using h2
   ·right
    refine ⟨j + 1,x,by simpa using h1,fun i' hi q hq=>?_,?_⟩
    ·cases i' with
     | zero=>simp at hq; subst hq; exact fun e=>hp e.symm
     | succ i'=>exact h2 i' (by omega) q (by simpa using hq)
    ·simp only [hp,decide_false,Bool.false_eq_true,if_false,h3]
     congr 3; omega
theorem zHu (hE:zLF P kt cel) {es:Array MapEntry} {m:List (α×β)} (hr:zFG (kyS cel) cV es m) (a:α) (w:World) :
  ((Instr.findKey kt (kyS cel a) es.toList).run P w = .ok none w∧y8 a m = none∧(∀ v,vS a v m = m++[(a,v)])∧zIp a m = m) ∨
  ∃ j x,(Instr.findKey kt (kyS cel a) es.toList).run P w = .ok (some (j,cV x)) w∧j < m.length∧m[j]? = some (a,x)∧y8 a m = some x∧(∀ v,vS a v m = m.set j (a,v))∧zIp a m = m.eraseIdx j:=by
 obtain ⟨fs,hu⟩:∃ fs,P.underlying kt = some (.struct fs):=by
  have h1:=hE.st
  unfold zBm at h1
  split at h1
  ·rename_i fs hu; exact ⟨fs,hu⟩
  ·cases h1
 have hfk:(Instr.findKey kt (kyS cel a) es.toList).run P w = (Instr.findAsking kt (kyS cel a) es.toList 0).run P w:=by
  unfold Instr.findKey
  simp only [Sem.run_bind,run_underlying hu,Result.andThen]
  cases es.toList with
  | nil=>simp [Instr.findNow,Instr.findAsking]
  | cons e l=>simp [Instr.findNow,Instr.sameNow]
 rw [hfk]
 rcases zFs a m with ⟨h1,h2,h3,h4⟩ | ⟨j,x,hj,h0,hb,h1,h2,h3⟩
 ·rcases zQB hE a w es.toList m 0 hr with ⟨_,g2⟩ | ⟨j,x,g1,_,_⟩
  ·exact .inl ⟨g2,h1,h2,h3⟩
  ·exact absurd rfl (h4 _ (List.mem_of_getElem? g1))
 ·rcases zQB hE a w es.toList m 0 hr with ⟨g1,_⟩ | ⟨j',x',g1,g2,g3⟩
  ·rw [g1] at h1; cases h1
  ·have hjj:j = j':=by
    rcases Nat.lt_trichotomy j j' with h | h | h
    ·exact absurd rfl (g2 j h _ h0)
    ·exact h
    ·exact absurd rfl (hb j' h _ g1)
   subst hjj
   rw [h0] at g1
   simp only [Option.some.injEq,Prod.mk.injEq,true_and] at g1
   subst g1
   exact .inr ⟨j,x,by simpa using g3,hj,h0,h1,h2,h3⟩
theorem zJi {T E:TypeId} {b:Nat} {m:List (α×β)} {z:β} {a:α} {k:β→K} (hE:zLF P kt cel) (hz:zBl P E (cV z)) (h:HG B Γ (k ((y8 a m).getD z))) (hT:P.underlying T = some (.map kt E):=by kernel_rfl) [p:Own b Γ (xE (kyS cel) cV b m) Δ] :
  HG B Γ (Rd P (Instr.lookup T (.map (some b)) (kyS cel a) false) cV k):=fun w hw=>by
 obtain ⟨es,c,⟨hr,hst⟩,h1⟩:=xE.opens (hw.perm p.perm)
 have hb:=h1.block
 refine ⟨_,?_,h w hw⟩
 unfold Instr.lookup
 simp only [Sem.run_bind,run_underlying hT,Result.andThen,MapKept.run_getObj_map hb,hE.chk,Sem.run_pure]
 rcases zHu hE hr a w with ⟨g1,g2,_⟩ | ⟨j,x,g1,_,_,g2,_⟩
 ·simp only [g1,Result.andThen,Sem.run_bind,zAx hz,Sem.run_pure,g2]; rfl
 ·simp only [g1,Result.andThen,Sem.run_bind,Sem.run_pure,g2]; rfl
theorem zQC {T E:TypeId} {b:Nat} {m:List (α×β)} {a:α} {v:β} {x:Value} (hE:zLF P kt cel) (hx:x = cV v) (h:HG B (xE (kyS cel) cV b (vS a v m)::Δ) k) (hT:P.underlying T = some (.map kt E):=by kernel_rfl) [p:Own b Γ (xE (kyS cel) cV b m) Δ] :
  HG B Γ (DoU P (Instr.mapUpdate T (.map (some b)) (kyS cel a) x) k):=fun w hw=>by
 subst hx
 obtain ⟨es,c,⟨hr,hst⟩,h1⟩:=xE.opens (hw.perm p.perm)
 have hb:=h1.block
 have hlen:es.size = m.length:=by have:=congrArg List.length hr; simpa using this
 unfold Instr.mapUpdate DoU
 simp only [Sem.run_bind,run_underlying hT,Result.andThen,MapKept.run_getObj_map hb,hE.chk]
 rcases zHu hE hr a w with ⟨g1,_,h2,_⟩ | ⟨j,x,g1,hj,h0,_,h2,_⟩
 ·simp only [g1,Result.andThen]
  obtain ⟨e1,h3⟩:=h1.zGD (P:=P) (es':=es.push { key:=kyS cel a,val:=cV v,born:=c }) (c':=c + 1)
  refine ⟨_,_,e1,h _ (xE.shuts ⟨?_,zG8 hst _ _⟩ h3)⟩
  rw [h2]
  simp only [zFG,Array.toList_push,List.map_append,List.map_cons,List.map_nil]
  rw [show es.toList.map (fun e=>(e.key,e.val)) = _ from hr]
 ·have hes:∃ e,es.toList[j]? = some e∧e.key = kyS cel a:=by
   have:=zFS hr j
   rw [h0] at this
   cases he:es.toList[j]? with
   | none=>rw [he] at this; simp at this
   | some e =>
    rw [he] at this
    simp only [Option.map_some,Option.some.injEq,Prod.mk.injEq] at this
    exact ⟨e,rfl,this.1⟩
  obtain ⟨e,he,hek⟩:=hes
  have he2:es[j]? = some e:=by rw [← he,Array.getElem?_toList]
  simp only [g1,Result.andThen,Sem.run_bind,he2,Option.map_some,Option.getD_some,hek,Instr.keyThatStays,kyS,hE.bits,if_true,Sem.run_pure]
  obtain ⟨e1,h3⟩:=h1.zGD (P:=P) (es':=es.modify j fun e=>{ e with key:=kyS cel a,val:=cV v }) (c':=c)
  refine ⟨_,_,e1,h _ (xE.shuts ⟨?_,zFY hst _ _ _⟩ h3)⟩
  rw [h2]
  simp only [zFG]
  apply List.ext_getElem?
  intro i
  have hi:=zFS hr i
  simp only [List.getElem?_map,Array.getElem?_toList,Array.getElem?_modify] at hi ⊢
  by_cases hij:j = i
  ·subst hij
   rw [List.getElem?_set_self hj,he2]
   simp
  ·rw [List.getElem?_set_ne hij,if_neg hij]
   exact hi
theorem zSt {T E t:TypeId} {b:Nat} {m:List (α×β)} {a:α} {k:Value→K} (hE:zLF P kt cel) (h:HG B (xE (kyS cel) cV b (zIp a m)::Δ) (k (.tuple #[]))) (hT:P.underlying T = some (.map kt E):=by kernel_rfl) [p:Own b Γ (xE (kyS cel) cV b m) Δ] :
  HG B Γ (Do P (Builtin.delete_ #[T,kt] t #[.map (some b),kyS cel a]) id k):=fun w hw=>by
 obtain ⟨es,c,⟨hr,hst⟩,h1⟩:=xE.opens (hw.perm p.perm)
 have hb:=h1.block
 have hlen:es.size = m.length:=by have:=congrArg List.length hr; simpa using this
 have e0:#[T,kt][0]? = some T:=rfl
 have e1:#[Value.map (some b),kyS cel a][0]? = some (.map (some b)):=rfl
 have e2:#[Value.map (some b),kyS cel a][1]? = some (kyS cel a):=rfl
 unfold Builtin.delete_ Do
 simp only [e0,e1,e2,Sem.run_bind,run_underlying hT,Result.andThen,MapKept.run_getObj_map hb,hE.chk]
 rcases zHu hE hr a w with ⟨g1,_,_,h2⟩ | ⟨j,x,g1,hj,h0,_,_,h2⟩
 ·simp only [g1,Result.andThen,Sem.run_bind]
  obtain ⟨e3,h3⟩:=h1.zGD (P:=P) (es':=es) (c':=c)
  refine ⟨.tuple #[],_,?_,h _ (xE.shuts ⟨?_,hst⟩ h3)⟩
  ·simp only [Sem.run_bind,e3,Result.andThen,Sem.run_pure]; rfl
  rw [h2]; exact hr
 ·simp only [g1,Result.andThen,Sem.run_bind]
  obtain ⟨e3,h3⟩:=h1.zGD (P:=P) (es':=es.eraseIdxIfInBounds j) (c':=c)
  refine ⟨.tuple #[],_,?_,h _ (xE.shuts ⟨?_,zP5 hst _⟩ h3)⟩
  ·simp only [Sem.run_bind,e3,Result.andThen,Sem.run_pure]; rfl
  rw [h2]
  have hjs:j < es.size:=by omega
  simp only [zFG,Array.eraseIdxIfInBounds,dif_pos hjs,Array.toList_eraseIdx]
  have mape:∀ {α β:Type} (f:α→β) (l:List α) (i:Nat),(l.eraseIdx i).map f = (l.map f).eraseIdx i:=by
   intro α β f l
   induction l with
   | nil=>intro i; simp
   | cons x l ih=>intro i; cases i <;> simp [ih]
  rw [mape,mape,show es.toList.map (fun e=>(e.key,e.val)) = _ from hr]
theorem zUb {enc:α→Value} {T E:TypeId} {d:TypeDesc} {b:Nat} {m:List (α×β)} {k:Option Addr→K} (hT:zFt P T d E) (h:∀ r,HG B (zAo enc cV b r m m none::Δ) (k (some ⟨r,0,none⟩))) [p:Own b Γ (xE enc cV b m) Δ] :
  HG B Γ (Do P (Instr.range T (.map (some b))) Value.pointer k):=fun w hw=>zUW hT (hw.perm p.perm) fun r w hw=>h r w hw
class zVV (r:Nat) (Γ:List zC) (A:outParam zC) (Δ:outParam (List zC)):Prop where perm:Γ.Perm (A::Δ)
instance (priority:=low) zbn {r:Nat} {X A:zC} {Γ Δ:List zC} [h:zVV r Γ A Δ]:zVV r (X::Γ) A (X::Δ):=⟨zHn h.perm⟩
instance (priority:=high) zcz {α β:Type} [DecidableEq α] {enc:α→Value} {cV:β→Value} {b r:Nat} {m left:List (α×β)} {cur:Option (α×β)} {Γ:List zC}:zVV r (zAo enc cV b r m left cur::Γ) (zAo enc cV b r m left cur) Γ:=⟨.refl _⟩
theorem zbK {α:Type} {vs:List Value} {i:Nat} {c:α→Value} {v:Value} {x:α} {k:α→K} (h:HG B Γ (k x)) [n:zRV vs i v] [e:Cv c v x]:HG B Γ (Ext (.tuple vs.toArray) i c k):=fun w hw=>⟨_,x,rfl,by have:=n.h; rw [zCc] at this; rw [e.h] at this; simpa using this,h w hw⟩
instance zdX {α:Type} {vs:List Value} {i:Nat} {c:α→Value} {v:Value} {x:α} {k:α→K} [n:zRV vs i v] [e:Cv c v x]:Nx B Γ (Ext (.tuple vs.toArray) i c k) Γ (k x):=⟨fun h=>zbK h⟩
theorem zXC {enc:α→Value} {b r:Nat} {m left:List (α×β)} {cur:Option (α×β)} {k:Value→K} (h0:left = []→HG B (xE enc cV b m::Δ) (k (.tuple #[.bool false])))
  (h1:∀ l1 p l2,left = l1++p::l2→p ∈ m→HG B (zAo enc cV b r m (l1++l2) (some p)::Δ) (k (.tuple #[.bool true,enc p.1,cV p.2]))) [p:zVV r Γ (zAo enc cV b r m left cur) Δ] :
  HG B Γ (Do P (Instr.next (.pointer (some ⟨r,0,none⟩)) false 0) id k):=fun w hw=>zXB (hw.perm p.perm) (fun h w hw=>h0 h w hw) fun l1 q l2 w e hq hw=>h1 l1 q l2 e hq w hw
theorem zUc {enc:α→Value} {b r:Nat} {m left:List (α×β)} {q:α×β} {k:Value→K} (h:HG B Γ (k (.tuple #[enc q.1,cV q.2]))) [p:zVV r Γ (zAo enc cV b r m left (some q)) Δ] :
  HG B Γ (Do P (Instr.entry (.pointer (some ⟨r,0,none⟩))) id k):=fun w hw=>zUX (hw.perm p.perm) (h w hw)
theorem zZT {enc:α→Value} {b r:Nat} {m left:List (α×β)} {cur:Option (α×β)} (h:HG B (xE enc cV b m::Δ) k) [p:zVV r Γ (zAo enc cV b r m left cur) Δ]:HG B Γ k:=fun w hw=>h w (zAo.ends (hw.perm p.perm))
end
end
end
section
open Go Go.RowKit
abbrev zXD (esz:Nat) (s:Sl) (i:Int) (k:Value→K):K:=Idx s i esz fun t=>LdN t esz fun a=>k (.agg a)
abbrev zXE {α:Type} (c:α→Value) (s:Sl) (i:Int) (k:Value→K):K:=Idx s i 1 fun t=>Ld t c fun a=>k (c a)
def zIb (P:Program) (acc:Sl→Int→(Value→K)→K) (s:Sl) (fv:Value) (Q:Int→K):K :=
 yJ (α:=Int) (fun X x=>
  Ite (decide (x < (s.n:Int)))
   (acc s x fun v=>
   uF P fv [v] <| yO (fun (t:Bool)=>Value.bool t) fun b=>
   Ite b
    (Q x)
    (Ar (IntKind.wrap .i64 (x + 1)) fun t=>
    X t))
   (Q (-1))) 0
def zDN {γ α:Type} (p:γ→α→Bool) (st:γ→α→γ):γ→List α→γ×Option Nat
 | g,[]=>(g,none)
 | g,x::L=>if p g x then (st g x,some 0) else ((zDN p st (st g x) L).1,(zDN p st (st g x) L).2.map (· + 1))
def zGE:Option Nat→Int
 | none=>-1
 | some i=>i
def zBi {γ α:Type} (p:γ→α→Bool) (st:γ→α→γ):γ→List α→γ×List α
 | g,[]=>(g,[])
 | g,x::L=>((zBi p st (st g x) L).1,if p g x then (zBi p st (st g x) L).2 else x::(zBi p st (st g x) L).2)
section
variable {P:Program} {B:World} {Γ Δ:List zC} {α γ:Type}
theorem zEB {p:γ→α→Bool} {st:γ→α→γ} {g:γ} {x:α} {L:List α}:zBi p st g (x::L) = ((zBi p st (st g x) L).1,if p g x then (zBi p st (st g x) L).2 else x::(zBi p st (st g x) L).2):=rfl
theorem zIq {p:γ→α→Bool} {st:γ→α→γ} {g:γ} {x:α} {L:List α}:zDN p st g (x::L) = if p g x then (st g x,some 0) else ((zDN p st (st g x) L).1,(zDN p st (st g x) L).2.map (· + 1)):=rfl
theorem zae {b n:Nat} {l:List Value} {T:TypeId} {fz:Nat×Nat} {k:Array Value→K} (h:HG B Γ (k l.toArray)) (hl:l.length = n) [p:Own b Γ (blk b (.cells l.toArray T fz)) Δ]:HG B Γ (LdN ⟨b,0,none⟩ n k) :=
 qI (b:=b) (off:=0) (l':=l) h (by rw [List.drop_zero,List.take_of_length_le (Nat.le_of_eq hl)]) hl
theorem zSu {R:γ→List zC} {acc:Sl→Int→(Value→K)→K} {s:Sl} {fv:Value} {vV:α→Value} {Q:Int→K} {L:List α} (p:γ→α→Bool) (st:γ→α→γ) (g0:γ) (I:γ→List α→Prop) (hI:I g0 L) (hIs:∀ g x C,I g (x::C)→I (st g x) C) (hn:s.n = L.length) (hL:L.length < 1000000000)
  (hacc:∀ g (i:Nat) x k,L[i]? = some x→HG B (R g) (k (vV x))→HG B (R g) (acc s (i:Int) k))
  (hf:∀ g x C (q:Bool→K),x ∈ L→I g (x::C)→HG B (R (st g x)) (q (p g x))→HG B (R g) (uF P fv [vV x] (yO (fun (t:Bool)=>Value.bool t) q)))
  (h:HG B (R (zDN p st g0 L).1) (Q (zGE (zDN p st g0 L).2))):HG B (R g0) (zIb P acc s fv Q):=by
 unfold zIb
 refine xW (α:=Int) (ι:=Nat×γ) (fun x i=>x = (i.1:Int)∧i.1 ≤ L.length∧I i.2 (L.drop i.1)∧zDN p st g0 L = ((zDN p st i.2 (L.drop i.1)).1,(zDN p st i.2 (L.drop i.1)).2.map (· + i.1)))
  (fun x i=>R i.2) (fun x i=>L.length - i.1) (0,g0) ⟨rfl,Nat.zero_le _,hI,by simp⟩ ?_
 rintro k' _ ⟨i,g⟩ ⟨rfl,hi,hIg,he⟩ hk'
 simp only at hi hIg he hk' ⊢
 refine zF (fun hb=>?_) fun hb=>?_
 ·have hil:i < L.length:=by simp only [decide_eq_true_eq] at hb; omega
  have hge:L[i]? = some L[i]:=List.getElem?_eq_getElem hil
  rw [List.drop_eq_getElem_cons hil] at he hIg
  have hm:L[i] ∈ L:=List.getElem_mem hil
  generalize L[i] = x at hge he hm hIg
  refine hacc g i x _ hge ?_
  refine hf g x _ _ hm hIg ?_
  rw [zIq] at he
  refine zF (fun hp=>?_) fun hp=>?_
  ·rw [if_pos hp] at he
   rw [he] at h
   simpa [zGE] using h
  ·rw [if_neg (by simp [hp])] at he
   refine qB ?_
   refine hk' _ (i + 1,st g x) ⟨by simp,hil,hIs _ _ _ hIg,?_⟩ (by simp only; omega)
   simp only
   rw [he,Option.map_map]
   congr 2
   funext y
   simp only [Function.comp]; omega
 ·have hil:i = L.length:=by simp only [decide_eq_false_iff_not] at hb; omega
  rw [hil,List.drop_length] at he
  rw [he] at h
  simpa [zDN,zGE] using h
theorem zMn (p:α→Bool):∀ L:List α,(zDN (fun (_:Unit) x=>p x) (fun _ _=>()) () L).2 = L.findIdx? p
 | []=>rfl
 | x::L=>by
  rw [zIq,List.findIdx?_cons]
  split
  ·rfl
  ·rw [zMn p L]
theorem zKJ (p:α→Bool):∀ L:List α,(zBi (fun (_:Unit) x=>p x) (fun _ _=>()) () L).2 = L.filter fun x=>!p x
 | []=>rfl
 | x::L=>by
  rw [zEB,zKJ p L,List.filter_cons]
  cases p x <;> simp
theorem zJj {acc:Sl→Int→(Value→K)→K} {s:Sl} {fv:Value} {vV:α→Value} {Q:Int→K} {L:List α} (p:α→Bool) (hn:s.n = L.length) (hL:L.length < 1000000000)
  (hacc:∀ (i:Nat) x k,L[i]? = some x→HG B Γ (k (vV x))→HG B Γ (acc s (i:Int) k))
  (hf:∀ x (q:Bool→K),x ∈ L→HG B Γ (q (p x))→HG B Γ (uF P fv [vV x] (yO (fun (t:Bool)=>Value.bool t) q)))
  (h:HG B Γ (Q (zGE (L.findIdx? p)))):HG B Γ (zIb P acc s fv Q) :=
 zSu (R:=fun _=>Γ) (fun (_:Unit) x=>p x) (fun _ _=>()) () (fun _ _=>True) trivial (fun _ _ _ _=>trivial) hn hL (fun _=>hacc) (fun _ x _ q hx _=>hf x q hx) (by rw [zMn]; exact h)
theorem zHE (o:Option Nat):decide ((0:Int) ≤ zGE o) = o.isSome:=by
 cases o <;> simp [zGE]
theorem zQD (p:α→Bool) (L:List α):(L.findIdx? p).isSome = L.any p:=by simp [List.findIdx?_isSome]
theorem zUd {f:α→List Value} {esz E:Nat} {s:Sl} {L:List α} {i:Nat} {x:α} {k:Value→K} (hf:∀ x,(f x).length = esz) (he:0 < esz) (hx:L[i]? = some x) (h:HG B Γ (k (.agg (f x).toArray))) [o:zB1 s Γ (SlC E esz s (L.flatMap f)) Δ]:HG B Γ (zXD esz s (i:Int) k) :=
 zAc f hf (fun w hw=>(yP hw (p:=o)).1) hx h rfl he
theorem zbL {f:α→List Value} {esz:Nat} {s:Sl} {L:List α} {i:Nat} {x:α} {k:Value→K} (hf:∀ x,(f x).length = esz) (he:0 < esz) (hr:∀ w,Holds B Γ w→RdC w s esz (L.flatMap f)) (hx:L[i]? = some x) (h:HG B Γ (k (.agg (f x).toArray))):HG B Γ (zXD esz s (i:Int) k) :=
 zAc f hf hr hx h rfl he
theorem zXF {β:Type} {c:β→Value} {E:Nat} {s:Sl} {L:List β} {i:Nat} {x:β} {k:Value→K} (hx:L[i]? = some x) (h:HG B Γ (k (c x))) [o:zB1 s Γ (SlC E 1 s (L.map c)) Δ]:HG B Γ (zXE c s (i:Int) k) :=
 zAd (fun w hw=>(yP hw (p:=o)).1) hx h
def zUe (P:Program) (idx:Sl→Value→(Int→K)→K) (E T t esz:Nat) (zs:List Value) (s:Sl) (fv:Value) (Q:Sl→K):K :=
 idx s fv fun t10=>
 Ite (decide (t10 = (-1)))
  (Q s)
  (Ar (IntKind.wrap .i64 (t10 + 1)) fun t15=>
  yJ (α:=Int×Int) (fun X x=>
   Ite (decide (x.2 < (s.n:Int)))
    (Idx s x.2 esz fun t24=>
    LdN t24 esz fun t25=>
    New E zs.toArray fun v7=>
    StN v7 esz t25<|
    LdN v7 esz fun t27=>
    uF P fv [(.agg t27)] <| yO (fun (t28:Bool)=>Value.bool t28) fun t28=>
    Ite (!t28)
     (LdN v7 esz fun t32=>
     Idx s x.1 esz fun t33=>
     StN t33 esz t32<|
     Ar (IntKind.wrap .i64 (x.1 + 1)) fun t35=>
     Ar (IntKind.wrap .i64 (x.2 + 1)) fun t21=>
     X (t35,t21))
     (Ar (IntKind.wrap .i64 (x.2 + 1)) fun t21=>
     X (x.1,t21)))
    (Slc s x.1 (s.n:Int) (s.c:Int) esz fun t38=>
    Do P (Builtin.clear_ #[T] t #[(Sl.val t38)]) id fun _=>
    Slc s 0 x.1 (s.c:Int) esz fun t41=>
    Q t41)) (t10,t15))
def zXG {β:Type} (P:Program) (idx:Sl→Value→(Int→K)→K) (T t:Nat) (c:β→Value) (s:Sl) (fv:Value) (Q:Sl→K):K :=
 idx s fv fun t10=>
 Ite (decide (t10 = (-1)))
  (Q s)
  (Ar (IntKind.wrap .i64 (t10 + 1)) fun t15=>
  yJ (α:=Int×Int) (fun X x=>
   Ite (decide (x.2 < (s.n:Int)))
    (Idx s x.2 1 fun t24=>
    Ld t24 c fun t25=>
    uF P fv [c t25] <| yO (fun (t28:Bool)=>Value.bool t28) fun t28=>
    Ite (!t28)
     (Idx s x.1 1 fun t33=>
     St t33 (c t25)<|
     Ar (IntKind.wrap .i64 (x.1 + 1)) fun t35=>
     Ar (IntKind.wrap .i64 (x.2 + 1)) fun t21=>
     X (t35,t21))
     (Ar (IntKind.wrap .i64 (x.2 + 1)) fun t21=>
     X (x.1,t21)))
    (Slc s x.1 (s.n:Int) (s.c:Int) 1 fun t38=>
    Do P (Builtin.clear_ #[T] t #[(Sl.val t38)]) id fun _=>
    Slc s 0 x.1 (s.c:Int) 1 fun t41=>
    Q t41)) (t10,t15))
theorem zKK (p:γ→α→Bool) (st:γ→α→γ) {I:γ→List α→Prop} (hIs:∀ g x C,I g (x::C)→I (st g x) C):∀ (g:γ) (L:List α),I g L→((zDN p st g L).2 = none∧zBi p st g L = ((zDN p st g L).1,L)) ∨
  ∃ A x C,L = A++x::C∧(zDN p st g L).2 = some A.length∧I (zDN p st g L).1 C∧zBi p st g L = ((zBi p st (zDN p st g L).1 C).1,A++(zBi p st (zDN p st g L).1 C).2)
 | g,[],_=>.inl ⟨rfl,rfl⟩
 | g,x::L,hI=>by
  rw [zIq,zEB]
  by_cases hp:p g x = true
  ·right
   exact ⟨[],x,L,rfl,by simp [hp],by simpa [hp] using hIs _ _ _ hI,by simp [hp]⟩
  ·rcases zKK p st hIs (st g x) L (hIs _ _ _ hI) with ⟨h1,h2⟩ | ⟨A,y,C,rfl,h2,h4,h3⟩
   ·left
    simp only [hp,Bool.false_eq_true,if_false,h1,h2,Option.map_none,and_self]
   ·right
    refine ⟨x::A,y,C,rfl,?_,?_,?_⟩
    ·simp only [hp,Bool.false_eq_true,if_false,h2,Option.map_some,List.length_cons]
    ·simpa only [hp,Bool.false_eq_true,if_false] using h4
    ·simp only [hp,Bool.false_eq_true,if_false,h3,List.cons_append]
theorem zJk {M:List α} {i:Nat} {x:α} (hi:i < M.length):(M.set i x).take (i + 1) = M.take i++[x]:=by
 rw [List.take_succ_eq_append_getElem (by simpa using hi),List.take_set_of_le (Nat.le_refl _),List.getElem_set_self]
theorem set_drop {M:List α} {i j:Nat} {x:α} (hij:i < j):(M.set i x).drop j = M.drop j:=by rw [List.drop_set_of_lt hij]
theorem zRd {f:α→List Value} {esz E:Nat} {s:Sl} {M:List α} {i:Nat} {x:α} {k:K} (hf:∀ x,(f x).length = esz) (hfl:(f x).all yu = true) (hi:i < M.length) (h:HG B (SlC E esz s ((M.set i x).flatMap f)::Δ) k) [o:zB1 s Γ (SlC E esz s (M.flatMap f)) Δ]:HG B Γ (StN (elA s i esz) esz (f x).toArray k):=by
 have e1:M = M.take i++M[i]::M.drop (i + 1):=by rw [← List.drop_eq_getElem_cons hi,List.take_append_drop]
 have e2:M.set i x = M.take i++x::M.drop (i + 1):=by rw [List.set_eq_take_append_cons_drop,if_pos hi]
 have hl:(M.take i).length = i:=by rw [List.length_take]; omega
 rw [e2] at h
 refine fun w hw=>?_
 have hw2:=hw.perm o.perm
 rw [e1] at hw2
 rw [show elA s i esz = elA s (M.take i).length esz by rw [hl]]
 refine hg hw2 ?_
 rw [← add0 (elA s (M.take i).length esz)]
 refine zPs (s:=s) (us:=f x) ?_ (hf x) ?_ hfl
 ·have e:zDb ((M.take i++M[i]::M.drop (i + 1)).flatMap f) ((M.take i).length * esz + 0) (f x) = (M.take i++x::M.drop (i + 1)).flatMap f:=by
   have e1:(M.take i++M[i]::M.drop (i + 1)).flatMap f = (M.take i).flatMap f++(f M[i]++(M.drop (i + 1)).flatMap f):=by simp only [List.flatMap_append,List.flatMap_cons]
   have e2:(M.take i++x::M.drop (i + 1)).flatMap f = (M.take i).flatMap f++(f x++(M.drop (i + 1)).flatMap f):=by simp only [List.flatMap_append,List.flatMap_cons]
   rw [e1,e2,zD7 (by simp [zX f esz hf]) (by rw [hf,hf])]
  rw [e]; exact h
 ·have e3:((M.take i++M[i]::M.drop (i + 1)).flatMap f).length = ((M.take i).length + ((M.drop (i + 1)).length + 1)) * esz:=by rw [zX f esz hf]; simp only [List.length_append,List.length_cons]
  rw [e3,Nat.add_mul,Nat.add_mul]; omega
theorem zMo {f:α→List Value} {esz:Nat} (hf:∀ x,(f x).length = esz):∀ (L:List α) (i:Nat),(L.flatMap f).take (i * esz) = (L.take i).flatMap f
 | L,0=>by simp
 | [],i + 1=>by simp
 | x::L,i + 1=>by
  rw [List.flatMap_cons,List.take_succ_cons,List.flatMap_cons,← zMo hf L i,Nat.add_mul,Nat.one_mul,Nat.add_comm,← hf x,List.take_length_add_append]
theorem zUf {R:γ→List zC} {idx:Sl→Value→(Int→K)→K} {E T t esz:Nat} {zs:List Value} {s:Sl} {fv:Value} {Q:Sl→K} {f:α→List Value} {L:List α} (p:γ→α→Bool) (st:γ→α→γ) (g0:γ) (I:γ→List α→Prop) (hI:I g0 L) (hIs:∀ g x C,I g (x::C)→I (st g x) C)
  (hidx:∀ s fv Q w,zIb P (zXD esz) s fv Q w→idx s fv Q w) (hf:∀ x,(f x).length = esz) (he:0 < esz) (hfl:∀ x,(f x).all yu = true) (hz:zs.length = esz) (hL:L.length < 1000000000)
  (hc:∀ Ξ g x C (q:Bool→K),x ∈ L→I g (x::C)→HG B (Ξ::R (st g x)) (q (p g x))→HG B (Ξ::R g) (uF P fv [(.agg (f x).toArray)] (yO (fun (t:Bool)=>Value.bool t) q)))
  (h:∀ s',s'.n = (zBi p st g0 L).2.length→HG B (SlC E esz s' ((zBi p st g0 L).2.flatMap f)::R (zBi p st g0 L).1) (Q s')) (hT:zGf P T T E esz = true:=by kernel_rfl) :
  HG B (SlC E esz s (L.flatMap f)::R g0) (zUe P idx E T t esz zs s fv Q):=by
 unfold zUe
 refine yS s fun a1 a2 a3 a4=>?_
 rw [zX f esz hf] at a1
 have hn:s.n = L.length:=(Nat.eq_of_mul_eq_mul_right he a1).symm
 refine fun w hw=>hidx _ _ _ _ ?_
 refine hg hw ?_
 clear hw w
 refine zSu (R:=fun g=>SlC E esz s (L.flatMap f)::R g) (vV:=fun x=>.agg (f x).toArray) p st g0 I hI hIs hn hL (fun g i x k hx hk=>zUd hf he hx hk) (fun g x C q hx hI hq=>hc _ g x C q hx hI hq) ?_
 rcases zKK p st hIs g0 L hI with ⟨h1,h2⟩ | ⟨A,x,C,rfl,h1,hI1,h2⟩
 ·rw [h1]
  rw [h2] at h
  refine s_t ?_ (by simp [zGE])
  exact h s hn
 rw [h1]
 have hlen:(A++x::C).length = A.length + (C.length + 1):=List.length_append
 generalize (zDN p st g0 (A++x::C)).1 = g1 at *
 refine s_f ?_ (by simp [zGE])
 simp only [zGE]
 refine qB ?_
 refine xW (α:=Int×Int) (ι:=Nat×Nat×List α×γ) (fun y i=>y.1 = (i.1:Int)∧y.2 = (i.2.1:Int)∧i.1 < i.2.1∧i.2.1 ≤ (A++x::C).length∧i.2.2.1.length = (A++x::C).length∧i.2.2.1.drop i.2.1 = (A++x::C).drop i.2.1∧I i.2.2.2 ((A++x::C).drop i.2.1)∧zBi p st g0 (A++x::C) = ((zBi p st i.2.2.2 ((A++x::C).drop i.2.1)).1,i.2.2.1.take i.1++(zBi p st i.2.2.2 ((A++x::C).drop i.2.1)).2))
  (fun y i=>SlC E esz s (i.2.2.1.flatMap f)::R i.2.2.2) (fun y i=>(A++x::C).length - i.2.1) (A.length,A.length + 1,A++x::C,g1) ⟨rfl,by simp,by simp,by simp,rfl,rfl,?_,?_⟩ ?_
 ·simp only
  have e:(A++x::C).drop (A.length + 1) = C:=by rw [show A++x::C = (A++[x])++C by simp]; exact List.drop_left' (by simp)
  rw [e]; exact hI1
 ·simp only
  have e:(A++x::C).drop (A.length + 1) = C:=by rw [show A++x::C = (A++[x])++C by simp]; exact List.drop_left' (by simp)
  rw [e,List.take_left,h2]
 rintro k' ⟨_,_⟩ ⟨i,j,M,g⟩ ⟨rfl,rfl,hij,hj,hM,hd,hIg,hdel⟩ hk'
 simp only at hij hj hM hd hIg hdel hk' ⊢
 refine zF (fun hb=>?_) fun hb=>?_
 ·have hjl:j < (A++x::C).length:=by simp only [decide_eq_true_eq] at hb; omega
  have hMj:M[j]? = some (A++x::C)[j]:=by
   have:=congrArg (·[0]?) hd
   simp only [List.getElem?_drop,Nat.add_zero] at this
   rw [this,List.getElem?_eq_getElem hjl]
  have hmem:(A++x::C)[j] ∈ A++x::C:=List.getElem_mem hjl
  have hdrop:=List.drop_eq_getElem_cons hjl
  rw [hdrop] at hdel hIg
  generalize (A++x::C)[j] = y at hMj hmem hdel hdrop hIg
  rw [zEB] at hdel
  refine zAc f hf (fun w hw=>(yP (s:=s) hw).1) hMj ?_
  refine zH fun v7=>?_
  refine qA (b:=v7) ?_ hz (hf y) (hfl y)
  refine zae (b:=v7) ?_ (hf y)
  refine zEQ (Δ:=[blk v7 (.cells (f y).toArray E (0,0)),SlC E esz s (M.flatMap f)]) ?_
  refine hc _ g y _ _ hmem hIg ?_
  refine zBr ?_
  show HG B (blk v7 (.cells (f y).toArray E (0,0))::SlC E esz s (M.flatMap f)::R (st g y)) _
  refine zF (fun hp=>?_) fun hp=>?_
  ·have hp':p g y = false:=by simpa using hp
   rw [hp'] at hdel
   simp only [Bool.false_eq_true,if_false] at hdel
   refine zae (b:=v7) ?_ (hf y)
   refine vg (s:=s) (i:=i) ?_
   refine zRd (s:=s) hf (hfl y) (by omega) ?_
   refine qB ?_
   refine qB ?_
   refine zB (hk' _ (i + 1,j + 1,M.set i y,st g y) ⟨by simp,by simp,by simp only; omega,hjl,by simpa using hM,?_,hIs _ _ _ hIg,?_⟩ (by simp only; omega))
   ·simp only
    rw [set_drop (by omega),← List.drop_drop,← List.drop_drop,hd]
   ·simp only
    rw [zJk (by omega),hdel]
    simp
  ·have hp':p g y = true:=by simpa using hp
   rw [hp'] at hdel
   simp only [if_true] at hdel
   refine qB ?_
   refine zB (hk' _ (i,j + 1,M,st g y) ⟨rfl,by simp,by simp only; omega,hjl,hM,?_,hIs _ _ _ hIg,hdel⟩ (by simp only; omega))
   simp only
   rw [← List.drop_drop,← List.drop_drop,hd]
 ·have hjl:j = (A++x::C).length:=by simp only [decide_eq_false_iff_not] at hb; omega
  rw [hjl,List.drop_length] at hdel
  simp only [zBi,List.append_nil] at hdel
  rw [hdel] at h
  refine zAX (lo:=i) (hi:=s.n) (mx:=s.c) ?_
  refine zCs (s:=s) (m:=i) (c':=s.c) (by omega) (by omega) (Nat.le_refl _) ?_
  rw [zMo hf]
  refine zJT (s:=⟨s.a,i,s.c⟩) (l:=i) (q:=s.n - i) (m:=s.c) rfl (Nat.le_refl _) (by simp only; omega) (by omega) ?_ (hT:=hT)
  refine zAX (lo:=0) (hi:=i) (mx:=s.c) ?_
  rw [zKA a3]
  exact h ⟨s.a,i,s.c⟩ (by simp; omega)
theorem zZU {β:Type} {R:γ→List zC} {idx:Sl→Value→(Int→K)→K} {E T t:Nat} {c:β→Value} {s:Sl} {fv:Value} {Q:Sl→K} {L:List β} (p:γ→β→Bool) (st:γ→β→γ) (g0:γ) (I:γ→List β→Prop) (hI:I g0 L) (hIs:∀ g x C,I g (x::C)→I (st g x) C)
  (hidx:∀ s fv Q w,zIb P (zXE c) s fv Q w→idx s fv Q w) (hfl:∀ x,yu (c x) = true) (hL:L.length < 1000000000)
  (hc:∀ Ξ g x C (q:Bool→K),x ∈ L→I g (x::C)→HG B (Ξ::R (st g x)) (q (p g x))→HG B (Ξ::R g) (uF P fv [c x] (yO (fun (t:Bool)=>Value.bool t) q)))
  (h:∀ s',s'.n = (zBi p st g0 L).2.length→HG B (SlC E 1 s' ((zBi p st g0 L).2.map c)::R (zBi p st g0 L).1) (Q s')) (hT:zGf P T T E 1 = true:=by kernel_rfl) :
  HG B (SlC E 1 s (L.map c)::R g0) (zXG P idx T t c s fv Q):=by
 unfold zXG
 refine yS s fun a1 a2 a3 a4=>?_
 rw [List.length_map,Nat.mul_one] at a1
 have hn:s.n = L.length:=a1.symm
 refine fun w hw=>hidx _ _ _ _ ?_
 refine hg hw ?_
 clear hw w
 refine zSu (R:=fun g=>SlC E 1 s (L.map c)::R g) (vV:=c) p st g0 I hI hIs hn hL (fun g i x k hx hk=>zXF hx hk) (fun g x C q hx hI hq=>hc _ g x C q hx hI hq) ?_
 rcases zKK p st hIs g0 L hI with ⟨h1,h2⟩ | ⟨A,x,C,rfl,h1,hI1,h2⟩
 ·rw [h1]
  rw [h2] at h
  refine s_t ?_ (by simp [zGE])
  exact h s hn
 rw [h1]
 have hlen:(A++x::C).length = A.length + (C.length + 1):=List.length_append
 generalize (zDN p st g0 (A++x::C)).1 = g1 at *
 refine s_f ?_ (by simp [zGE])
 simp only [zGE]
 refine qB ?_
 refine xW (α:=Int×Int) (ι:=Nat×Nat×List β×γ) (fun y i=>y.1 = (i.1:Int)∧y.2 = (i.2.1:Int)∧i.1 < i.2.1∧i.2.1 ≤ (A++x::C).length∧i.2.2.1.length = (A++x::C).length∧i.2.2.1.drop i.2.1 = (A++x::C).drop i.2.1∧I i.2.2.2 ((A++x::C).drop i.2.1)∧zBi p st g0 (A++x::C) = ((zBi p st i.2.2.2 ((A++x::C).drop i.2.1)).1,i.2.2.1.take i.1++(zBi p st i.2.2.2 ((A++x::C).drop i.2.1)).2))
  (fun y i=>SlC E 1 s (i.2.2.1.map c)::R i.2.2.2) (fun y i=>(A++x::C).length - i.2.1) (A.length,A.length + 1,A++x::C,g1) ⟨rfl,by simp,by simp,by simp,rfl,rfl,?_,?_⟩ ?_
 ·simp only
  have e:(A++x::C).drop (A.length + 1) = C:=by rw [show A++x::C = (A++[x])++C by simp]; exact List.drop_left' (by simp)
  rw [e]; exact hI1
 ·simp only
  have e:(A++x::C).drop (A.length + 1) = C:=by rw [show A++x::C = (A++[x])++C by simp]; exact List.drop_left' (by simp)
  rw [e,List.take_left,h2]
 rintro k' ⟨_,_⟩ ⟨i,j,M,g⟩ ⟨rfl,rfl,hij,hj,hM,hd,hIg,hdel⟩ hk'
 simp only at hij hj hM hd hIg hdel hk' ⊢
 refine zF (fun hb=>?_) fun hb=>?_
 ·have hjl:j < (A++x::C).length:=by simp only [decide_eq_true_eq] at hb; omega
  have hMj:M[j]? = some (A++x::C)[j]:=by
   have:=congrArg (·[0]?) hd
   simp only [List.getElem?_drop,Nat.add_zero] at this
   rw [this,List.getElem?_eq_getElem hjl]
  have hmem:(A++x::C)[j] ∈ A++x::C:=List.getElem_mem hjl
  have hdrop:=List.drop_eq_getElem_cons hjl
  rw [hdrop] at hdel hIg
  generalize (A++x::C)[j] = y at hMj hmem hdel hdrop hIg
  rw [zEB] at hdel
  refine zAd (fun w hw=>(yP (s:=s) hw).1) hMj ?_
  refine hc _ g y _ _ hmem hIg ?_
  refine zF (fun hp=>?_) fun hp=>?_
  ·have hp':p g y = false:=by simpa using hp
   rw [hp'] at hdel
   simp only [Bool.false_eq_true,if_false] at hdel
   refine vg (s:=s) (i:=i) ?_
   rw [← add0 (elA s i 1)]
   refine zMV (s:=s) ?_ (by simp; omega) (hfl y)
   rw [show i * 1 + 0 = i by omega,← List.map_set]
   refine qB ?_
   refine qB ?_
   refine zB (hk' _ (i + 1,j + 1,M.set i y,st g y) ⟨by simp,by simp,by simp only; omega,hjl,by simpa using hM,?_,hIs _ _ _ hIg,?_⟩ (by simp only; omega))
   ·simp only
    rw [set_drop (by omega),← List.drop_drop,← List.drop_drop,hd]
   ·simp only
    rw [zJk (by omega),hdel]
    simp
  ·have hp':p g y = true:=by simpa using hp
   rw [hp'] at hdel
   simp only [if_true] at hdel
   refine qB ?_
   refine zB (hk' _ (i,j + 1,M,st g y) ⟨rfl,by simp,by simp only; omega,hjl,hM,?_,hIs _ _ _ hIg,hdel⟩ (by simp only; omega))
   simp only
   rw [← List.drop_drop,← List.drop_drop,hd]
 ·have hjl:j = (A++x::C).length:=by simp only [decide_eq_false_iff_not] at hb; omega
  rw [hjl,List.drop_length] at hdel
  simp only [zBi,List.append_nil] at hdel
  rw [hdel] at h
  refine zAX (lo:=i) (hi:=s.n) (mx:=s.c) ?_
  refine zCs (s:=s) (m:=i) (c':=s.c) (by omega) (by omega) (Nat.le_refl _) ?_
  rw [show (M.map c).take (i * 1) = (M.take i).map c by simp]
  refine zJT (s:=⟨s.a,i,s.c⟩) (l:=i) (q:=s.n - i) (m:=s.c) rfl (Nat.le_refl _) (by simp only; omega) (by omega) ?_ (hT:=hT)
  refine zAX (lo:=0) (hi:=i) (mx:=s.c) ?_
  rw [zKA a3]
  exact h ⟨s.a,i,s.c⟩ (by simp; omega)
end
end
end Go.Sep
namespace Go.Proofs.YtdemfamgieonbaaGreat
section
open Go Go.Sep
abbrev TX:=List UInt8
def uR {α:Type} [DecidableEq α]:List α→List α
 | []=>[]
 | [x]=>[x]
 | x::y::L=>if y = x then uR (y::L) else x::uR (y::L)
theorem zGF {α:Type} [DecidableEq α]:∀ (A:List α) (a b:α),uR (A++[a,b]) = if b = a then uR (A++[a]) else uR (A++[a])++[b]
 | [],a,b=>by
  by_cases h:b = a <;> simp [uR,h]
 | [x],a,b=>by
  have h1:=zGF [] a b
  simp only [List.nil_append,List.singleton_append] at h1 ⊢
  rw [uR,h1]
  by_cases h:b = a
  ·rw [if_pos h,if_pos h]; simp [uR]
  ·rw [if_neg h,if_neg h]
   by_cases h2:a = x
   ·simp [uR,h2]
   ·simp [uR,h2]
 | x::y::A,a,b=>by
  have h1:=zGF (y::A) a b
  simp only [List.cons_append] at h1 ⊢
  rw [uR,h1]
  by_cases h:b = a
  ·rw [if_pos h,if_pos h,uR]
  ·rw [if_neg h,if_neg h]
   by_cases h2:y = x
   ·simp [uR,h2]
   ·simp [uR,h2]
theorem zFz {α:Type} [DecidableEq α]:∀ L:List α,(uR L).length ≤ L.length
 | []=>Nat.le_refl _
 | [x]=>Nat.le_refl _
 | x::y::L=>by
  have:=zFz (y::L)
  rw [uR]
  split
  ·exact Nat.le_succ_of_le this
  ·simp only [List.length_cons] at this ⊢; omega
theorem zHv {α:Type} [DecidableEq α]:∀ {L:List α} {x:α},x ∈ uR L ↔ x ∈ L
 | [],x=>Iff.rfl
 | [y],x=>Iff.rfl
 | y::z::L,x=>by
  have ih:=zHv (L:=z::L) (x:=x)
  rw [uR]
  split
  ·rename_i h
   rw [ih,h]; simp
  ·rw [List.mem_cons,ih,List.mem_cons (a:=x) (b:=y)]
theorem zMp:∀ (x:TX) (L:List TX),(∀ y ∈ L,x ≤ y)→∀ z,z ∈ (uR (x::L)).tail→(x::L).Pairwise (· ≤ ·)→x < z
 | x,[],_,z,hz,_=>by simp [uR] at hz
 | x,y::L,h,z,hz,hp=>by
  rw [uR] at hz
  have hp2:=List.pairwise_cons.1 hp
  split at hz
  ·rename_i e
   subst e
   exact zMp y L (fun w hw=>h w (List.mem_cons_of_mem _ hw)) z hz hp2.2
  ·rename_i e
   rw [List.tail_cons,zHv] at hz
   have h1:x ≤ z:=h z hz
   rcases List.le_iff_lt_or_eq.1 h1 with h2 | h2
   ·exact h2
   ·exfalso
    have h3:y ≤ z:=by
     rcases List.mem_cons.1 hz with rfl | hz
     ·exact List.le_refl _
     ·exact (List.pairwise_cons.1 hp2.2).1 z hz
    have h4:x ≤ y:=h y List.mem_cons_self
    exact e (List.le_antisymm (by rw [h2]; exact h3) h4)
theorem zK3:∀ (L:List TX),L.Pairwise (· ≤ ·)→(uR L).Pairwise (· < ·)
 | [],_=>List.Pairwise.nil
 | [x],_=>List.pairwise_singleton _ _
 | x::y::L,h=>by
  have ih:=zK3 (y::L) (List.pairwise_cons.1 h).2
  rw [uR]
  split
  ·exact ih
  ·rename_i e
   refine List.pairwise_cons.2 ⟨fun z hz=>?_,ih⟩
   refine zMp x (y::L) (List.pairwise_cons.1 h).1 z ?_ h
   rw [uR,if_neg e]; exact hz
theorem zMq:∀ {L M:List TX},L.Pairwise (· < ·)→M.Pairwise (· < ·)→(∀ x,x ∈ L ↔ x ∈ M)→L = M
 | [],[],_,_,_=>rfl
 | [],y::M,_,_,h=>by have:=(h y).2 List.mem_cons_self; simp at this
 | x::L,[],_,_,h=>by have:=(h x).1 List.mem_cons_self; simp at this
 | x::L,y::M,hL,hM,h=>by
  have h1:=List.pairwise_cons.1 hL
  have h2:=List.pairwise_cons.1 hM
  have hxy:x = y:=by
   rcases List.mem_cons.1 ((h x).1 List.mem_cons_self) with e | e
   ·exact e
   ·rcases List.mem_cons.1 ((h y).2 List.mem_cons_self) with e2 | e2
    ·exact e2.symm
    ·exact absurd (List.lt_trans (h1.1 y e2) (h2.1 x e)) (List.lt_irrefl _)
  subst hxy
  congr 1
  refine zMq h1.2 h2.2 fun z=>?_
  constructor
  ·intro hz
   rcases List.mem_cons.1 ((h z).1 (List.mem_cons_of_mem _ hz)) with e | e
   ·subst e; exact absurd (h1.1 z hz) (List.lt_irrefl _)
   ·exact e
  ·intro hz
   rcases List.mem_cons.1 ((h z).2 (List.mem_cons_of_mem _ hz)) with e | e
   ·subst e; exact absurd (h2.1 z hz) (List.lt_irrefl _)
   ·exact e
theorem zRe (L:List TX):(zC3 L).Pairwise (· ≤ ·):=by
 have:=List.pairwise_mergeSort (le:=fun a b:TX=>decide (a ≤ b)) (fun a b c h1 h2=>by simp only [decide_eq_true_eq] at *; exact List.le_trans h1 h2) (fun a b=>by simp only [Bool.or_eq_true,decide_eq_true_eq]; exact List.le_total a b) L
 refine List.Pairwise.imp ?_ this
 intro a b h; simpa using h
section
variable {B:World} {Γ Δ:List zC} {k:K}
theorem zSv {s:Sl} {L:List TX} {Q:Sl→K} (hL:L.length < 100000000) (h:∀ s',HG B (SlS s' (uR L)::Γ) (Q s')):HG B (SlS s L::Γ) (zS.call s Q):=by
 refine fun w hw=>zDS _ _ _ ?_
 refine hg hw ?_
 clear hw w
 unfold zS
 refine yS s fun a1 a2 a3 a4=>?_
 rw [List.length_map,Nat.mul_one] at a1
 refine zF (fun hb=>?_) fun hb=>?_
 ·have e:uR L = L:=by
   match L,a1 with
   | [],_=>rfl
   | [x],_=>rfl
   | x::y::L,a1=>simp only [List.length_cons] at a1; simp only [decide_eq_true_eq] at hb; omega
  rw [e] at h
  exact h s
 have hn2:2 ≤ L.length:=by simp only [decide_eq_false_iff_not] at hb; omega
 refine zAP (α:=Int) (fun x=>∃ i:Nat,x = (i:Int)∧1 ≤ i∧i ≤ L.length∧uR (L.take i) = L.take i) (fun x=>L.length - x.toNat) ⟨1,rfl,Nat.le_refl _,by omega,?_⟩ fun k' x hx hk'=>?_
 ·match L,hn2 with
  | x::L,_=>simp [uR]
 obtain ⟨i,rfl,hi1,hi,hc⟩:=hx
 unfold zS.b1
 refine zF (fun hb2=>?_) fun hb2=>?_
 rotate_left
 ·have hil:i = L.length:=by simp only [decide_eq_false_iff_not] at hb2; omega
  rw [hil,List.take_length] at hc
  rw [hc] at h
  exact h s
 have hil:i < L.length:=by simp only [decide_eq_true_eq] at hb2; omega
 obtain ⟨j,rfl⟩:∃ j,i = j + 1:=⟨i - 1,by omega⟩
 have step:∀ m,m + 1 < L.length→uR (L.take (m + 2)) = if L[m + 1]? = L[m]? then uR (L.take (m + 1)) else uR (L.take (m + 1))++L[m + 1]?.toList:=fun m hm=>by
  have t1:L.take (m + 2) = L.take m++[L[m],L[m + 1]]:=by rw [List.take_succ_eq_append_getElem hm,List.take_succ_eq_append_getElem (by omega),List.append_assoc]; rfl
  have t2:L.take (m + 1) = L.take m++[L[m]]:=List.take_succ_eq_append_getElem (by omega)
  rw [t1,t2,zGF,List.getElem?_eq_getElem hm,List.getElem?_eq_getElem (show m < L.length by omega)]
  simp
 obtain ⟨a,ha⟩:∃ a,L[j + 1]? = some a:=⟨_,List.getElem?_eq_getElem hil⟩
 obtain ⟨b,hb'⟩:∃ b,L[j]? = some b:=⟨_,List.getElem?_eq_getElem (by omega)⟩
 refine vo ?_
 refine jY (L:=L) (j:=j + 1) (fun w hw=>(yP (s:=s) hw).1) ha ?_ rfl
 refine qB ?_
 refine jY (L:=L) (j:=j) (fun w hw=>(yP (s:=s) hw).1) hb' ?_ (by omega)
 rw [xY,xY]
 have hst:=step j hil
 rw [ha,hb'] at hst
 refine zF (fun he=>?_) fun he=>?_
 rotate_left
 ·have hne:¬ some a = some b:=by simpa using he
  rw [if_neg hne] at hst
  refine qB ?_
  refine hk' _ ⟨j + 2,by simp; omega,by omega,hil,?_⟩ (by omega)
  rw [hst,hc,List.take_succ_eq_append_getElem hil]
  rw [List.getElem?_eq_getElem hil] at ha
  rw [Option.some.inj ha]; rfl
 have hab:some a = some b:=by simpa using he
 rw [if_pos hab,hc] at hst
 refine zAX (lo:=j + 1) (hi:=s.n) (mx:=s.c) ?_
 refine xW (α:=Int×Int) (ι:=Nat×Nat×List TX) (fun y i=>y.1 = (i.1:Int)∧y.2 = (i.2.1:Int)∧1 ≤ i.2.1∧j + 1 + i.2.1 ≤ L.length∧i.1 < j + 1 + i.2.1∧i.2.2.length = L.length∧i.2.2.drop (j + i.2.1) = L.drop (j + i.2.1)∧i.2.2.take i.1 = uR (L.take (j + 1 + i.2.1)))
  (fun y i=>SlS s i.2.2::Γ) (fun y i=>L.length - i.2.1) (j + 1,1,L) ⟨rfl,rfl,Nat.le_refl _,by simp only; omega,by simp only; omega,rfl,rfl,hst.symm⟩ ?_
 rintro k2 ⟨_,_⟩ ⟨p,q,M⟩ ⟨rfl,rfl,hq1,hq,hpq,hM,hd,ht⟩ hk2
 simp only at hq1 hq hpq hM hd ht hk2 ⊢
 unfold zS.b2
 simp only
 refine yS s fun d1 d2 d3 d4=>?_
 rw [List.length_map,Nat.mul_one] at d1
 refine zF (fun hb3=>?_) fun hb3=>?_
 ·have hql:j + 1 + q < L.length:=by simp only [decide_eq_true_eq] at hb3; omega
  obtain ⟨x,hx⟩:∃ x,L[j + 1 + q]? = some x:=⟨_,List.getElem?_eq_getElem hql⟩
  obtain ⟨y,hy⟩:∃ y,L[j + q]? = some y:=⟨_,List.getElem?_eq_getElem (by omega)⟩
  have hMx:M[j + 1 + q]? = some x:=by
   have:=congrArg (·[1]?) hd
   simp only [List.getElem?_drop] at this
   rw [show j + q + 1 = j + 1 + q by omega] at this
   rw [this,hx]
  have hMy:M[j + q]? = some y:=by
   have:=congrArg (·[0]?) hd
   simp only [List.getElem?_drop,Nat.add_zero] at this
   rw [this,hy]
  have hrd:∀ w,Holds B (SlS s M::Γ) w→RdC w ⟨zCE s.a (j + 1) s.c 1,s.n - (j + 1),s.c - (j + 1)⟩ 1 ((M.drop (j + 1)).map qb):=fun w hw=>by
   have:=(yP (s:=s) hw).1.drop (l:=j + 1) (c:=s.c) (by omega) d2 d3
   rwa [Nat.mul_one,← List.map_drop] at this
  have hst2:=step (j + q) (by omega)
  rw [show j + q + 1 = j + 1 + q by omega,hx,hy,show j + q + 2 = j + 1 + (q + 1) by omega] at hst2
  refine vo ?_
  refine jY (L:=M.drop (j + 1)) (j:=q) hrd (by rw [List.getElem?_drop]; exact hMx) ?_ rfl
  refine qB ?_
  refine jY (L:=M.drop (j + 1)) (j:=q - 1) hrd (by rw [List.getElem?_drop,show j + 1 + (q - 1) = j + q by omega]; exact hMy) ?_ (by omega)
  rw [xY,xY]
  unfold zS.s3
  refine zF (fun he2=>?_) fun he2=>?_
  ·have hne:¬ some x = some y:=by simpa using he2
   rw [if_neg hne] at hst2
   refine jY (L:=M.drop (j + 1)) (j:=q) hrd (by rw [List.getElem?_drop]; exact hMx) ?_ rfl
   refine vg (s:=s) (i:=p) ?_
   rw [← add0 (elA s p 1)]
   refine zMV (s:=s) ?_ (by simp; omega)
   rw [show p * 1 + 0 = p by omega,show Value.string (bs x) = qb x from rfl,← List.map_set]
   refine qB ?_
   refine qB ?_
   refine hk2 _ (p + 1,q + 1,M.set p x) ⟨by simp,by simp,by simp only; omega,by simp only; omega,by simp only; omega,by simpa using hM,?_,?_⟩ (by simp only; omega)
   ·simp only
    rw [List.drop_set_of_lt (by omega),show j + (q + 1) = (j + q) + 1 by omega,← List.drop_drop,hd,List.drop_drop]
   ·simp only
    rw [zJk (by omega),ht,hst2]; rfl
  ·have heq:some x = some y:=by simpa using he2
   rw [if_pos heq] at hst2
   refine qB ?_
   refine hk2 _ (p,q + 1,M) ⟨rfl,by simp,by simp only; omega,by simp only; omega,by simp only; omega,hM,?_,?_⟩ (by simp only; omega)
   ·simp only
    rw [show j + (q + 1) = (j + q) + 1 by omega,← List.drop_drop,hd,List.drop_drop]
   ·simp only
    rw [ht,hst2]
 ·have hql:j + 1 + q = L.length:=by simp only [decide_eq_false_iff_not] at hb3; omega
  rw [hql,List.take_length] at ht
  refine zAX (lo:=p) (hi:=s.n) (mx:=s.c) ?_
  refine zCs (s:=s) (m:=p) (c':=s.c) (by omega) (by omega) (Nat.le_refl _) ?_
  rw [show (M.map qb).take (p * 1) = (uR L).map qb by rw [Nat.mul_one,← List.map_take,ht]]
  refine zJT (s:=⟨s.a,p,s.c⟩) (l:=p) (q:=s.n - p) (m:=s.c) rfl (Nat.le_refl _) (by simp only; omega) (by omega) ?_
  refine zAX (lo:=0) (hi:=p) (mx:=s.c) ?_
  rw [zKA d3]
  exact h ⟨s.a,p,s.c⟩
theorem zXH {n:Nat} {Q:Sl→K} (hn:n < 50000000) (h:∀ s,s.n = 0→HG B (SlS s []::Γ) (Q s)):HG B Γ (yE.call ⟨none,0,0⟩ (n:Int) Q):=by
 refine fun w hw=>zEA _ _ _ _ ?_
 refine hg hw ?_
 clear hw w
 unfold yE
 refine s_f ?_ (by simp)
 unfold yE.s1
 refine zPu (s:=⟨none,0,0⟩) (E:=ug) (esz:=1) (by kernel_rfl) ?_
 refine zAW (e':=0) (by rw [wrap64 (by simp) (by simp)]; simp) ?_
 refine zAW (e':=(n:Int)) (by rw [wrap64 (by omega) (by omega)]; omega) ?_
 unfold yE.s2
 refine zF (fun hb=>?_) fun hb=>?_
 ·refine zPu (s:=⟨none,0,0⟩) (E:=ug) (esz:=1) (by kernel_rfl) ?_
  refine zAX (lo:=0) (hi:=0) (mx:=0) ?_
  refine zWs (s:=⟨none,0,0⟩) (vs:=[]) (E:=ug) (esz:=1) (by omega) (by simp only [decide_eq_true_eq] at hb; simp; omega) (by simp; omega) (fun s' zs hs' hz hf=>?_) (fun w hw=>RdC.none') (Nat.le_refl _)
  simp only [Nat.zero_add,List.nil_append] at hs' ⊢
  refine yS s' fun a1 a2 a3 a4=>?_
  refine zAX (lo:=0) (hi:=0) (mx:=s'.c) ?_ rfl (by simp) rfl
  rw [zKA a3]
  refine zCs (s:=s') (m:=0) (c':=s'.c) (Nat.zero_le _) (Nat.zero_le _) (Nat.le_refl _) ?_
  simp only [Nat.zero_mul,List.take_zero,Nat.sub_zero]
  exact h ⟨s'.a,0,s'.c⟩ rfl
 ·refine fun w hw=>?_
  exact h ⟨none,0,0⟩ rfl w (hw.zAm _ _)
theorem zSw {t:Nat} {a b:Sl} {La Lb:List TX} {Q:Sl→K} (hla:La.length ≤ 10000000) (hlb:Lb.length ≤ 10000000) (ha:∀ w,Holds B Γ w→RdC w a 1 (La.map qb)) (hb:∀ w,Holds B Γ w→RdC w b 1 (Lb.map qb)) (h:∀ s,HG B (SlS s (La++Lb)::Γ) (Q s)) :
  HG B (blk t (.cells [a.val,b.val].toArray zBA (0,0))::Γ) (zW.call (Sl.mk (some ⟨t,0,none⟩) 2 2) Q):=fun w hw=>by
 refine zDg _ _ _ ?_
 have han:a.n = La.length:=by have:=(ha w hw.tail).len; simpa using this.symm
 have hbn:b.n = Lb.length:=by have:=(hb w hw.tail).len; simpa using this.symm
 refine Sep.hg hw ?_
 clear hw w
 unfold zW
 have rd:∀ {X:List zC} [Drops X (blk t (.cells [a.val,b.val].toArray zBA (0,0))::Γ)],∀ w,Holds B X w→RdC w (Sl.mk (some ⟨t,0,none⟩) 2 2) 1 ([a,b].map Sl.val):=fun w hw=>by
  have:=RdC.zMR (esz:=1) (E:=zBA) (b:=t) (n:=2) (vs:=[a.val,b.val]) (cs:=[a.val,b.val].toArray) (Γ:=blk t (.cells [a.val,b.val].toArray zBA (0,0))::Γ) hw.drops List.mem_cons_self (by simp) rfl 2
  simpa using this
 refine xW (α:=Int×Int) (ι:=Nat) (fun x j=>j ≤ 2∧x.2 = (j:Int)∧x.1 = (if j = 0 then 0 else if j = 1 then La.length else La.length + Lb.length:Nat)) (fun x j=>blk t (.cells [a.val,b.val].toArray zBA (0,0))::Γ) (fun x j=>2 - j) 0 ⟨by omega,rfl,rfl⟩ ?_
 rintro k' ⟨_,_⟩ j ⟨hj,rfl,rfl⟩ hk'
 simp only at hk' ⊢
 unfold zW.b1 zW.s2
 match j,hj with
 | 0,_=>
  refine s_t ?_
  refine zAd (L:=[a,b]) (j:=0) (x:=a) rd rfl ?_ rfl
  refine zAW (e':=(La.length:Int)) (by rw [wrap64 (by simp <;> omega) (by simp <;> omega)]; simp <;> omega) ?_
  refine s_f ?_
  refine qB ?_
  exact hk' _ 1 ⟨by omega,rfl,rfl⟩ (by omega)
 | 1,_=>
  refine s_t ?_
  refine zAd (L:=[a,b]) (j:=1) (x:=b) rd rfl ?_ rfl
  refine zAW (e':=((La.length + Lb.length:Nat):Int)) (by rw [wrap64 (by simp <;> omega) (by simp <;> omega)]; simp <;> omega) ?_
  refine s_f ?_
  refine qB ?_
  exact hk' _ 2 ⟨by omega,rfl,rfl⟩ (by omega)
 | 2,_=>
  refine s_f ?_
  refine zXH (n:=La.length + Lb.length) (by omega) fun s0 hs0=>?_
  refine xW (α:=Sl×Int) (ι:=Nat) (fun x j=>j ≤ 2∧x.2 = (j:Int)∧x.1.n = (if j = 0 then 0 else if j = 1 then La.length else La.length + Lb.length)) (fun x j=>SlS x.1 (if j = 0 then [] else if j = 1 then La else La++Lb)::blk t (.cells [a.val,b.val].toArray zBA (0,0))::Γ) (fun x j=>2 - j) 0 ⟨by omega,rfl,hs0⟩ ?_
  rintro k2 ⟨s1,_⟩ j ⟨hj,rfl,hs1⟩ hk2
  simp only at hs1 hk2 ⊢
  unfold zW.b3
  match j,hj with
  | 0,_=>
   refine s_t ?_
   refine zAd (L:=[a,b]) (j:=0) (x:=a) rd rfl ?_ rfl
   simp only [if_true] at hs1
   refine qN (s:=s1) (us:=La.map qb) (fun w hw=>ha w hw.drops) (fun v hv=>by obtain ⟨y,_,rfl⟩:=List.mem_map.1 hv; rfl) (by omega) fun s2 hs2=>?_
   refine qB ?_
   exact hk2 (s2,1) 1 ⟨by omega,rfl,by show s2.n = La.length; omega⟩ (by omega)
  | 1,_=>
   refine s_t ?_
   refine zAd (L:=[a,b]) (j:=1) (x:=b) rd rfl ?_ rfl
   have hs1':s1.n = La.length:=hs1
   refine qN (s:=s1) (vs:=La.map qb) (us:=Lb.map qb) (fun w hw=>hb w hw.drops) (fun v hv=>by obtain ⟨y,_,rfl⟩:=List.mem_map.1 hv; rfl) (by omega) fun s2 hs2=>?_
   refine qB ?_
   rw [← List.map_append]
   exact hk2 (s2,2) 2 ⟨by omega,rfl,by show s2.n = La.length + Lb.length; omega⟩ (by omega)
  | 2,_=>
   refine s_f ?_
   show HG B (SlS s1 (La++Lb)::blk t (.cells [a.val,b.val].toArray zBA (0,0))::Γ) _
   exact zB (h s1)
end
end
section
open Go Go.Sep
def xq (L:List TX):List TX:=uR (zC3 L)
theorem zHF (L:List TX):(xq L).Pairwise (· < ·):=zK3 _ (zRe L)
theorem zE3 {L:List TX} {x:TX}:x ∈ xq L ↔ x ∈ L:=by unfold xq; rw [zHv,zVT]
theorem zF0 (L:List TX):(xq L).length ≤ L.length:=by
 have:=zFz (zC3 L)
 rwa [zOS] at this
theorem zRf {L M:List TX} (h:M.Pairwise (· < ·)) (hm:∀ x,x ∈ M ↔ x ∈ L):M = xq L:=zMq h (zHF L) fun x=>by rw [hm,zE3]
section
variable {B:World} {Γ Δ:List zC} {k:K}
theorem zOT {s:Sl} {xs:List UInt8} {q:ByteArray→K} (hr:∀ w,Holds B Γ w→RdB w s xs) (h:HG B Γ (q (bs xs))):HG B Γ (Rd Tryz.prog (convert zIi ug s.val) Value.string q):=fun w hw=>zWj (by kernel_rfl) (hr w hw) (h w hw)
theorem zLw {s:Sl} {L:List TX} {key:TX} {Q:Bool→K} (hL:L.length < 1000000000) (hr:∀ w,Holds B Γ w→RdC w s 1 (L.map qb)) (h:HG B Γ (Q (decide (key ∈ L)))):HG B Γ (zBc.call s (bs key) Q):=fun w hw=>by
 refine zRM _ _ _ _ ?_
 have hn:s.n = L.length:=by have:=(hr w hw).len; simpa using this.symm
 refine Sep.hg hw ?_
 clear hw w
 unfold zBc
 refine zAP (α:=Int) (fun x=>∃ i:Nat,x = (i:Int)∧i ≤ L.length∧key ∉ L.take i) (fun x=>L.length - x.toNat) ⟨0,rfl,Nat.zero_le _,by simp⟩ fun k' x hx hk'=>?_
 obtain ⟨i,rfl,hi,hno⟩:=hx
 unfold zBc.b1
 refine zF (fun hb=>?_) fun hb=>?_
 ·have hil:i < L.length:=by simp only [decide_eq_true_eq] at hb; omega
  have hge:L[i]? = some L[i]:=List.getElem?_eq_getElem hil
  have hmem:L[i] ∈ L:=List.getElem_mem hil
  have htk:L.take (i + 1) = L.take i++[L[i]]:=List.take_succ_eq_append_getElem hil
  generalize L[i] = x at hge hmem htk
  refine jY hr hge ?_
  rw [xY,xY]
  refine zF (fun he=>?_) fun he=>?_
  ·have he':x = key:=by simpa using he
   rw [show decide (key ∈ L) = true by rw [← he']; simpa using hmem] at h
   exact h
  ·have he':¬ x = key:=by simpa using he
   refine qB ?_
   refine hk' _ ⟨i + 1,by simp,hil,?_⟩ (by omega)
   rw [htk]
   simp only [List.mem_append,List.mem_singleton,not_or]
   exact ⟨hno,fun e=>he' e.symm⟩
 ·have hil:i = L.length:=by simp only [decide_eq_false_iff_not] at hb; omega
  rw [hil,List.take_length] at hno
  rw [show decide (key ∈ L) = false by simpa using hno] at h
  exact h
theorem zVW {s all:Sl} {A:List TX} {x:TX} {X1:Sl→Int→K} {Q:Sl→K} {i:Int} (hA:A.Pairwise (· < ·)) (hx:x ∉ A) (hL:A.length < 100000000)
  (h:∀ M,M.Pairwise (· < ·)→(∀ y,y ∈ M ↔ y = x∨y ∈ A)→M.length = A.length + 1→HG B (SlS s M::Γ) (qU.s2 Q X1 s all i)) :
  HG B (SlS s (A++[x])::Γ) (yJ (α:=Int) (fun X y=>qU.b3 Q X1 X s all i y) (A.length:Int)):=by
 refine xW (α:=Int) (ι:=List TX×List TX) (fun y i=>y = (i.1.length:Int)∧A = i.1++i.2∧∀ z ∈ i.2,x < z) (fun y i=>SlS s (i.1++x::i.2)::Γ) (fun y i=>i.1.length) (A,[]) ⟨rfl,by simp,by simp⟩ ?_
 rintro k' _ ⟨A1,A2⟩ ⟨rfl,rfl,h2⟩ hk'
 simp only at h2 hk' ⊢
 have hpw:=List.pairwise_append.1 hA
 have hlen:(A1++A2).length = A1.length + A2.length:=List.length_append
 have stop:(∀ z ∈ A1,z < x)→HG B (SlS s (A1++x::A2)::Γ) (qU.s4 Q X1 k' s all i (A1.length:Int) false):=fun h1=>by
  unfold qU.s4
  refine s_f ?_
  refine h (A1++x::A2) (List.pairwise_append.2 ⟨hpw.1,List.pairwise_cons.2 ⟨h2,hpw.2.1⟩,fun a ha b hb=>?_⟩) (fun y=>by simp only [List.mem_append,List.mem_cons]; constructor <;> (intro h; rcases h with h | h | h <;> simp [h])) (by simp; omega)
  rcases List.mem_cons.1 hb with rfl | hb
  ·exact h1 a ha
  ·exact hpw.2.2 a ha b hb
 unfold qU.b3
 refine yS s fun a1 a2 a3 a4=>?_
 have hn:s.n = A1.length + (A2.length + 1):=by simpa using a1.symm
 repeat refine zT ?_
 rcases List.eq_nil_or_concat A1 with rfl | ⟨A1,y,rfl⟩
 ·refine s_f ?_
  exact stop (by simp)
 simp only [List.concat_eq_append] at *
 have hl1:(A1++[y]).length = A1.length + 1:=by simp
 rw [hl1] at hn hlen hk' ⊢
 refine s_t ?_ (by simp)
 have e1:((A1++[y])++x::A2)[A1.length + 1]? = some x:=by rw [List.getElem?_append_right (by simp),hl1]; simp
 have e2:((A1++[y])++x::A2)[A1.length]? = some y:=by rw [List.append_assoc]; simp
 refine jY (L:=(A1++[y])++x::A2) (j:=A1.length + 1) (fun w hw=>(yP (s:=s) hw).1) e1 ?_ rfl
 refine qB ?_
 refine jY (L:=(A1++[y])++x::A2) (j:=A1.length) (fun w hw=>(yP (s:=s) hw).1) e2 ?_ (by omega)
 rw [xY,xY,zBx]
 by_cases hxy:x < y
 ·rw [show decide (x < y) = true by simpa using hxy]
  unfold qU.s4
  refine s_t ?_
  refine jY (L:=(A1++[y])++x::A2) (j:=A1.length + 1) (fun w hw=>(yP (s:=s) hw).1) e1 ?_ rfl
  refine qB ?_
  refine jY (L:=(A1++[y])++x::A2) (j:=A1.length) (fun w hw=>(yP (s:=s) hw).1) e2 ?_ (by omega)
  refine vg (s:=s) (i:=A1.length + 1) ?_
  rw [← add0 (elA s (A1.length + 1) 1)]
  refine zMV (s:=s) ?_ (by simp)
  refine qB ?_
  refine vg (s:=s) (i:=A1.length) ?_
  rw [← add0 (elA s A1.length 1)]
  refine zMV (s:=s) ?_ (by simp)
  refine qB ?_
  have e3:((((A1++[y])++x::A2).map qb).set ((A1.length + 1) * 1 + 0) (qb y)).set (A1.length * 1 + 0) (qb x) = (A1++x::(y::A2)).map qb:=by
   rw [show (A1.length + 1) * 1 + 0 = (A1++[y]).length by simp,show A1.length * 1 + 0 = A1.length by omega,← List.map_set,← List.map_set]
   rw [List.set_append_right _ _ (Nat.le_refl _),Nat.sub_self,List.set_cons_zero,List.append_assoc,List.set_append_right _ _ (Nat.le_refl _),Nat.sub_self]
   rfl
  rw [show ((A1++[y]++x::A2).map qb).set ((A1.length + 1) * 1 + 0) (Value.string (bs y)) = ((A1++[y]++x::A2).map qb).set ((A1.length + 1) * 1 + 0) (qb y) from rfl,show Value.string (bs x) = qb x from rfl,e3]
  refine hk' _ (A1,y::A2) ⟨by simp,by simp,fun z hz=>?_⟩ (by simp)
  rcases List.mem_cons.1 hz with rfl | hz
  ·exact hxy
  ·exact h2 z hz
 ·rw [show decide (x < y) = false by simpa using hxy]
  have:=stop fun z hz=>by
   have hyx:y < x:=by
    have h4:y ≤ x:=List.not_lt.1 hxy
    rcases List.le_iff_lt_or_eq.1 h4 with h5 | h5
    ·exact h5
    ·exact absurd (by rw [← h5]; simp) hx
   rcases List.mem_append.1 hz with hz | hz
   ·exact List.lt_trans ((List.pairwise_append.1 hpw.1).2.2 z hz y (by simp)) hyx
   ·rw [List.mem_singleton.1 hz]; exact hyx
  rw [hl1] at this
  exact this
theorem zVX {t:TxX} {Q:Sl→K} (hr1:∀ w,Holds B Γ w→RdC w t.rs 1 (t.reads.map qb)) (hr2:∀ w,Holds B Γ w→RdC w t.ws 1 (t.writes.map qb)) (hl:t.reads.length ≤ 10000000) (hl2:t.writes.length ≤ 10000000) (h:∀ s,HG B (SlS s (xq (t.reads++t.writes))::Γ) (Q s)):HG B Γ (qU.call (txL t).toArray Q):=fun w hw=>by
 refine zNf _ _ _ ?_
 have hn1:t.rs.n = t.reads.length:=by have:=(hr1 w hw).len; simpa using this.symm
 have hn2:t.ws.n = t.writes.length:=by have:=(hr2 w hw).len; simpa using this.symm
 refine Sep.hg hw ?_
 clear hw w
 unfold qU
 refine zH fun t1=>?_
 refine zH fun t8=>?_
 refine jy (A':=SlS ⟨some ⟨t8,0,none⟩,0,0⟩ []) (zAB (vs:=[]) rfl (by simp)) ?_
 refine vo ?_
 refine zBE [blk t1 (.cells (txL t).toArray yU (0,0))] ?_
 repeat refine zT ?_
 refine zH fun t9=>?_
 refine jy (A':=SlC ug 1 ⟨some ⟨t9,0,none⟩,0,0⟩ []) (zAB (vs:=[]) rfl (by simp)) ?_
 repeat refine zT ?_
 refine qN (s:=⟨some ⟨t9,0,none⟩,0,0⟩) (us:=t.reads.map qb) (fun w hw=>hr1 w hw.drops) (fun v hv=>by obtain ⟨y,_,rfl⟩:=List.mem_map.1 hv; rfl) (by simp only; omega) fun a1 ha1=>?_
 repeat refine zT ?_
 refine qN (s:=a1) (us:=t.writes.map qb) (fun w hw=>hr2 w hw.drops) (fun v hv=>by obtain ⟨y,_,rfl⟩:=List.mem_map.1 hv; rfl) (by simp only at ha1; omega) fun all hall=>?_
 rw [show []++t.reads.map qb++t.writes.map qb = (t.reads++t.writes).map qb by simp]
 have hln:(t.reads++t.writes).length = t.reads.length + t.writes.length:=List.length_append
 generalize hLL:t.reads++t.writes = L at *
 have halln:all.n = L.length:=by simp only at ha1; omega
 refine zB (Δ:=SlS ⟨some ⟨t8,0,none⟩,0,0⟩ []::SlS all L::Γ) ?_
 refine xW (α:=Sl×Int) (ι:=Nat×List TX) (fun y i=>y.2 = (i.1:Int)∧i.1 ≤ L.length∧i.2.Pairwise (· < ·)∧(∀ z,z ∈ i.2 ↔ z ∈ L.take i.1)∧i.2.length ≤ i.1) (fun y i=>SlS y.1 i.2::SlS all L::Γ) (fun y i=>L.length - i.1) (0,[]) ⟨rfl,Nat.zero_le _,List.Pairwise.nil,by simp,by simp⟩ ?_
 rintro k' ⟨o,_⟩ ⟨i,M⟩ ⟨rfl,hi,hM,hm,hMl⟩ hk'
 simp only at hi hM hm hMl hk' ⊢
 unfold qU.b1
 refine yS o fun b1 b2 b3 b4=>?_
 rw [List.length_map,Nat.mul_one] at b1
 refine zF (fun hb=>?_) fun hb=>?_
 ·have hil:i < L.length:=by simp only [decide_eq_true_eq] at hb; omega
  have hge:L[i]? = some L[i]:=List.getElem?_eq_getElem hil
  have htk:L.take (i + 1) = L.take i++[L[i]]:=List.take_succ_eq_append_getElem hil
  generalize L[i] = x at hge htk
  refine jY (L:=L) (fun w hw=>(yP (s:=all) hw).1) hge ?_
  refine zLw (L:=M) (by omega) (fun w hw=>(yP (s:=o) hw).1) ?_
  refine zF (fun he=>?_) fun he=>?_
  ·have hxM:x ∈ M:=by simpa using he
   unfold qU.s2
   refine qB ?_
   refine hk' (o,(i:Int) + 1) (i + 1,M) ⟨by simp,hil,hM,fun z=>?_,by simp only; omega⟩ (by simp only; omega)
   rw [htk,List.mem_append,← hm]
   simp only [List.mem_singleton]
   constructor
   ·exact fun h=>.inl h
   ·rintro (h | rfl)
    ·exact h
    ·exact hxM
  ·have hxM:x ∉ M:=by simpa using he
   refine jY (L:=L) (fun w hw=>(yP (s:=all) hw).1) hge ?_
   refine zH fun t33=>?_
   refine qN (s:=o) (us:=[qb x]) (jX rfl) (by simp [yu]) (by simp only; omega) fun o2 ho2=>?_
   rw [show M.map qb++[qb x] = (M++[x]).map qb by simp]
   refine zAW (e':=(M.length:Int)) (by simp only at ho2; rw [wrap64 (by omega) (by omega)]; omega) ?_
   refine zVW hM hxM (by omega) fun M2 h1 h2 h3=>?_
   unfold qU.s2
   refine qB ?_
   refine zB (hk' (o2,(i:Int) + 1) (i + 1,M2) ⟨by simp,hil,h1,fun z=>?_,by simp only; omega⟩ (by simp only; omega))
   rw [h2,htk,List.mem_append,← hm]
   simp only [List.mem_singleton]
   exact or_comm
 ·have hil:i = L.length:=by simp only [decide_eq_false_iff_not] at hb; omega
  rw [hil,List.take_length] at hm
  rw [zRf hM hm]
  exact zB (h o)
end
end
section
open Go Go.Sep
abbrev zGG (t:TxX):Prop:=40 < t.reads.length∨40 < t.writes.length∨60 < t.ops.length∨(∃ k ∈ t.reads,200 < k.length)∨(∃ k ∈ t.writes,200 < k.length)∨∃ x ∈ t.ops,200 < x.1.key.length∨200 < x.1.val.length
abbrev zEk (a b:TxX):Prop:=a.kind = b.kind∧a.to = b.to∧a.reads = b.reads∧a.writes = b.writes∧a.ops.map Prod.fst = b.ops.map Prod.fst
section
variable {B:World} {Γ Γ0 Δ:List zC} {k:K}
theorem zHw {α β:Type} (f:α→List Value) {esz off:Nat} {L:List α} {s:Sl} {j:Nat} {jj:Int} {x:α} {c:β→Value} {v:β} {k:β→K} (hf:∀ x,(f x).length = esz) (hr:∀ w,Holds B Γ w→RdC w s esz (L.flatMap f)) (hx:L[j]? = some x) (hv:(f x)[off]? = some (c v)) (h:HG B Γ (k v)) (hj:jj = (j:Int):=by first | rfl | omega) :
  HG B Γ (Idx s jj esz fun t=>Ld (t.add off) c k):=fun w hw=>by
 subst hj
 have hrw:=hr w hw
 have hj:j < L.length:=(List.getElem?_eq_some_iff.1 hx).1
 have ho:off < esz:=by rw [← hf x]; exact (List.getElem?_eq_some_iff.1 hv).1
 have hn:L.length = s.n:=by
  have:=hrw.len; rw [zX f esz hf] at this
  exact Nat.eq_of_mul_eq_mul_right (by omega) this
 cases ha:s.a with
 | none=>have:=hrw.nil ha; omega
 | some a=>
  refine ⟨a,_,ha,by omega,by omega,rfl,v,?_,h w hw⟩
  simp only [Int.toNat_natCast]
  have h2:=zPn f esz hf hrw ha hx off (by simpa [hf] using ho)
  rw [h2]
  simpa using hv
theorem zJl {α β:Type} (f:α→List Value) {esz:Nat} {L:List α} {s:Sl} {j:Nat} {jj:Int} {x:α} {c:β→Value} {v:β} {k:β→K} (hf:∀ x,(f x).length = esz) (hr:∀ w,Holds B Γ w→RdC w s esz (L.flatMap f)) (hx:L[j]? = some x) (hv:(f x)[0]? = some (c v)) (h:HG B Γ (k v)) (hj:jj = (j:Int):=by first | rfl | omega) :
  HG B Γ (Idx s jj esz fun t=>Ld t c k):=fun w hw=>by
 obtain ⟨a,t,h1,h2,h3,h4,h5⟩:=zHw f (off:=0) hf hr hx hv h hj w hw
 rw [add0] at h5
 exact ⟨a,t,h1,h2,h3,h4,h5⟩
theorem zLx {w:World} {t:TxX} (h:zCX w t):t.rs.n = t.reads.length∧t.ws.n = t.writes.length∧t.os.n = t.ops.length :=
 ⟨by have:=h.1.len; simpa using this.symm,by have:=h.2.1.len; simpa using this.symm,zA3 zBF (by omega) h.2.2.1⟩
theorem zSx {t:TxX} {Q:Bool→K} (hr:∀ w,Holds B Γ w→zCX w t) (h:HG B Γ (Q (decide (zGG t)))):HG B Γ (yj.call (txL t).toArray Q):=fun w hw=>by
 refine zMb _ _ _ ?_
 obtain ⟨n1,n2,n3⟩:=zLx (hr w hw)
 refine Sep.hg hw ?_
 clear hw w
 unfold yj
 refine zH fun t1=>?_
 have yes:zGG t→HG B (blk t1 (.cells (txL t).toArray yU (0,0))::Γ) (Q true):=fun hg=>by
  rw [show decide (zGG t) = true from decide_eq_true hg] at h
  exact zB h
 repeat refine zT ?_
 refine zF (fun hb=>?_) fun hb=>?_
 ·unfold yj.s1
  exact s_t (yes (.inl (by simp only [decide_eq_true_eq] at hb; omega)))
 repeat refine zT ?_
 refine zF (fun hb2=>?_) fun hb2=>?_
 ·unfold yj.s1
  exact s_t (yes (.inr (.inl (by simp only [decide_eq_true_eq] at hb2; omega))))
 repeat refine zT ?_
 by_cases hb3:60 < t.os.n
 ·rw [show decide ((60:Int) < (t.os.n:Int)) = true by simp; omega]
  unfold yj.s1
  exact s_t (yes (.inr (.inr (.inl (by omega)))))
 rw [show decide ((60:Int) < (t.os.n:Int)) = false by simp; omega]
 simp only [decide_eq_false_iff_not] at hb hb2
 unfold yj.s1
 repeat refine zT ?_
 refine zAP (α:=Int) (fun x=>∃ i:Nat,x = (i:Int)∧i ≤ t.reads.length∧∀ k ∈ t.reads.take i,k.length ≤ 200) (fun x=>t.reads.length - x.toNat) ⟨0,rfl,Nat.zero_le _,by simp⟩ fun k1 x hx hk1=>?_
 obtain ⟨i,rfl,hi,hs1⟩:=hx
 unfold yj.b2
 repeat refine zT ?_
 refine zF (fun hc=>?_) fun hc=>?_
 ·have hil:i < t.reads.length:=by simp only [decide_eq_true_eq] at hc; omega
  have hge:t.reads[i]? = some t.reads[i]:=List.getElem?_eq_getElem hil
  have hmem:t.reads[i] ∈ t.reads:=List.getElem_mem hil
  have htk:t.reads.take (i + 1) = t.reads.take i++[t.reads[i]]:=List.take_succ_eq_append_getElem hil
  generalize t.reads[i] = x at hge hmem htk
  repeat refine zT ?_
  refine jY (L:=t.reads) (fun w hw=>(hr w hw.tail).1) hge ?_
  have hsz:(bs x).size = x.length:=rfl
  refine zF (fun hd=>?_) fun hd=>?_
  ·exact yes (.inr (.inr (.inr (.inl ⟨x,hmem,by simp only [decide_eq_true_eq] at hd; omega⟩))))
  ·refine qB ?_
   refine hk1 _ ⟨i + 1,by simp,hil,fun y hy=>?_⟩ (by omega)
   rw [htk] at hy
   rcases List.mem_append.1 hy with hy | hy
   ·exact hs1 y hy
   ·rw [List.mem_singleton.1 hy]; simp only [decide_eq_false_iff_not] at hd; omega
 have hil:i = t.reads.length:=by simp only [decide_eq_false_iff_not] at hc; omega
 rw [hil,List.take_length] at hs1
 refine zAP (α:=Int) (fun x=>∃ i:Nat,x = (i:Int)∧i ≤ t.writes.length∧∀ k ∈ t.writes.take i,k.length ≤ 200) (fun x=>t.writes.length - x.toNat) ⟨0,rfl,Nat.zero_le _,by simp⟩ fun k2 x hx hk2=>?_
 obtain ⟨j,rfl,hj,hs2⟩:=hx
 unfold yj.b3
 repeat refine zT ?_
 refine zF (fun hc2=>?_) fun hc2=>?_
 ·have hil:j < t.writes.length:=by simp only [decide_eq_true_eq] at hc2; omega
  have hge:t.writes[j]? = some t.writes[j]:=List.getElem?_eq_getElem hil
  have hmem:t.writes[j] ∈ t.writes:=List.getElem_mem hil
  have htk:t.writes.take (j + 1) = t.writes.take j++[t.writes[j]]:=List.take_succ_eq_append_getElem hil
  generalize t.writes[j] = x at hge hmem htk
  repeat refine zT ?_
  refine jY (L:=t.writes) (fun w hw=>(hr w hw.tail).2.1) hge ?_
  have hsz:(bs x).size = x.length:=rfl
  refine zF (fun hd=>?_) fun hd=>?_
  ·exact yes (.inr (.inr (.inr (.inr (.inl ⟨x,hmem,by simp only [decide_eq_true_eq] at hd; omega⟩)))))
  ·refine qB ?_
   refine hk2 _ ⟨j + 1,by simp,hil,fun y hy=>?_⟩ (by omega)
   rw [htk] at hy
   rcases List.mem_append.1 hy with hy | hy
   ·exact hs2 y hy
   ·rw [List.mem_singleton.1 hy]; simp only [decide_eq_false_iff_not] at hd; omega
 have hjl:j = t.writes.length:=by simp only [decide_eq_false_iff_not] at hc2; omega
 rw [hjl,List.take_length] at hs2
 refine zAP (α:=Int) (fun x=>∃ i:Nat,x = (i:Int)∧i ≤ t.ops.length∧∀ y ∈ t.ops.take i,y.1.key.length ≤ 200∧y.1.val.length ≤ 200) (fun x=>t.ops.length - x.toNat) ⟨0,rfl,Nat.zero_le _,by simp⟩ fun k3 x hx hk3=>?_
 obtain ⟨m,rfl,hm,hs3⟩:=hx
 unfold yj.b4
 repeat refine zT ?_
 refine zF (fun hc3=>?_) fun hc3=>?_
 ·have hil:m < t.ops.length:=by simp only [decide_eq_true_eq] at hc3; omega
  have hge:t.ops[m]? = some t.ops[m]:=List.getElem?_eq_getElem hil
  have hmem:t.ops[m] ∈ t.ops:=List.getElem_mem hil
  have htk:t.ops.take (m + 1) = t.ops.take m++[t.ops[m]]:=List.take_succ_eq_append_getElem hil
  generalize t.ops[m] = x at hge hmem htk
  repeat refine zT ?_
  refine zHw opF (off:=1) (c:=Value.string) (x:=x) (v:=bs x.1.key) zBF (fun w hw=>(hr w hw.tail).2.2.1) hge rfl ?_
  have hsz:(bs x.1.key).size = x.1.key.length:=rfl
  unfold yj.s5
  refine zF (fun hd=>?_) fun hd=>?_
  ·refine s_t ?_
   exact yes (.inr (.inr (.inr (.inr (.inr ⟨x,hmem,.inl (by simp only [decide_eq_true_eq] at hd; omega)⟩)))))
  ·repeat refine zT ?_
   refine fun w hw=>?_
   have hxl:x.2.n = x.1.val.length:=by have:=((hr w hw.tail).2.2.2 x hmem).len; simpa using this.symm
   refine Sep.hg hw ?_
   clear hw w
   refine zHw opF (off:=2) (c:=Sl.val) (x:=x) (v:=x.2) zBF (fun w hw=>(hr w hw.tail).2.2.1) hge rfl ?_
   refine zF (fun he=>?_) fun he=>?_
   ·exact yes (.inr (.inr (.inr (.inr (.inr ⟨x,hmem,.inr (by simp only [decide_eq_true_eq] at he; omega)⟩)))))
   ·refine qB ?_
    refine hk3 _ ⟨m + 1,by simp,hil,fun y hy=>?_⟩ (by omega)
    rw [htk] at hy
    rcases List.mem_append.1 hy with hy | hy
    ·exact hs3 y hy
    ·rw [List.mem_singleton.1 hy]; simp only [decide_eq_false_iff_not] at hd he; omega
 ·have hml:m = t.ops.length:=by simp only [decide_eq_false_iff_not] at hc3; omega
  rw [hml,List.take_length] at hs3
  rw [show decide (zGG t) = false by
   simp only [decide_eq_false_iff_not]
   rintro (g | g | g | ⟨k,hk,g⟩ | ⟨k,hk,g⟩ | ⟨x,hx,g⟩)
   ·omega
   ·omega
   ·omega
   ·have:=hs1 k hk; omega
   ·have:=hs2 k hk; omega
   ·have:=hs3 x hx; omega] at h
  exact zB h
end
end
section
open Go Go.Sep
set_option maxHeartbeats 4000000
attribute [local irreducible] G Gp Cx Tx Ex Sx Dx Ox Ax Lx Rx Fx Bx Bj Al Do Ld LdN St StN New zL Ar DoU Rd Rd2 Pu Cd Ite Fv uF jk jD yO zAQ zDT zDq zD0 Ext Dead Dr yh Sv LdS vY RdS zEL Nn Idx zB0 zDp Fld Bld Slc zEM Cat All yJ jg jO jm
instance:AT Tryz.prog 173 5:=⟨by kernel_rfl⟩
instance:CB Tryz.prog 29:=⟨by kernel_rfl⟩
instance:CB Tryz.prog 70:=⟨by kernel_rfl⟩
instance:CB Tryz.prog 74:=⟨by kernel_rfl⟩
instance:CB Tryz.prog 75:=⟨by kernel_rfl⟩
instance:FT Tryz.prog 173 0 0 1:=⟨by kernel_rfl⟩
instance:FT Tryz.prog 173 1 1 4:=⟨by kernel_rfl⟩
instance:FT Tryz.prog 95 0 0 1:=⟨by kernel_rfl⟩
instance:FT Tryz.prog 95 1 1 1:=⟨by kernel_rfl⟩
instance:INT Tryz.prog 33 .u64:=⟨by kernel_rfl⟩
instance:PLT Tryz.prog 87 [(0,1),(1,1),(2,1),(3,1)]:=⟨_,Tryz.underlying87,by kernel_rfl⟩
instance:PLT Tryz.prog 95 [(0,1),(1,1)]:=⟨_,Tryz.underlying95,by kernel_rfl⟩
instance:UN Tryz.prog 4 .bool:=⟨Tryz.underlying4⟩
instance:ZT Tryz.prog 95 (.agg #[(.int .i64 0),(Sl.val ⟨none,0,0⟩)]):=⟨Tryz.t95,by kernel_rfl,by kernel_rfl⟩
def zEz (b:Int) (Q:Pt→K): K :=
 New 95 #[.int .i64 b,Sl.val ⟨none,0,0⟩] fun a=>
 Q (some a)
theorem zQE (a Q w) (h:zEz a Q w):zEz.call a Q w:=by
 exact zM 6 h Tryz.func27
def qm.b1 (Q:Av→K) (s:Int→K) (t:Pt) (f:ByteArray) (b:Addr) (c:Int): K :=
 Nn t fun a=>
 Ld (a.add 1) Sl.val fun g=>
 Ite (decide (c < (g.n:Int)))
  (Ld (a.add 1) Sl.val fun i=>
  Idx i c 5 fun j=>
  Ld j Value.string fun k=>
  Ite (k.toList == f.toList)
   (Ld (a.add 1) Sl.val fun l=>
   Idx l c 5 fun m=>
   LdN (m.add 1) 4 fun o=>
   StN b 4 o<|
   LdN b 4 fun d=>
   Q d)
   (Ar (IntKind.wrap .i64 (c + 1)) fun p=>
   s p))
  (Ld a (Value.int .i64) fun q=>
  jR.call f q fun r=>
  StN b 4 #[.bool false,Sl.val ⟨none,0,0⟩,.int .i64 r,.int .u64 0]<|
  LdN b 4 fun d=>
  Q d)
def qm (b:Pt) (c:ByteArray) (Q:Av→K): K :=
 New 87 #[.bool false,Sl.val ⟨none,0,0⟩,.int .i64 0,.int .u64 0] fun a=>
 yJ (α:=Int) (fun X x=>qm.b1 Q X b c a x) 0
theorem zIr (a b Q w) (h:qm a b Q w):qm.call a b Q w:=by
 have:∀ c d f,LH 2 (fun x:Int=>[(0,.pointer c),(1,.string d),(4,(.pointer (some f))),(5,.int .i64 x)]) (fun X x=>qm.b1 Q X c d f x):=fun _ _ _=>⟨⟩
 exact zM 40 h Tryz.func29
def jG.s2 (Q:Bool→K) (b:Int→K) (f g:Sl) (c:Int) (d:Bool): K :=
 Ite d
  (Q false)
  (Ar (IntKind.wrap .i64 (c + 1)) fun a=>
  b a)
def jG.b1 (Q:Bool→K) (d:Int→K) (b c:Sl) (a:Int): K :=
 Ite (decide (a < (b.n:Int)))
  (Dr<|
  Idx b a 5 fun f=>
  Idx c a 5 fun g=>
  Ld f Value.string fun i=>
  Ld g Value.string fun j=>
  Ite (!(i.toList == j.toList))
   (jG.s2 Q d b c a true)
   (Idx b a 5 fun k=>
   Idx c a 5 fun l=>
   LdN (k.add 1) 4 fun m=>
   LdN (l.add 1) 4 fun o=>
   xO.call m o fun p=>
   jG.s2 Q d b c a (!p)))
  (Q true)
def jG (a b:Sl) (Q:Bool→K): K :=
 Ite (decide ((a.n:Int) ≠ (b.n:Int)))
  (Q false)
  (yJ (α:=Int) (fun X x=>jG.b1 Q X a b x) 0)
theorem zNh (f g Q w) (h:jG f g Q w):jG.call f g Q w:=by
 have:∀ j,XH 4 j→JH 7 fun D=>∃ b c d,D [(0,Sl.val b),(1,Sl.val c),(5,.int .i64 d)] (fun C=>∀ k,C [(0,Sl.val b),(1,Sl.val c),(5,.int .i64 d),(41,.bool k)] (jG.s2 Q j b c d k)):=by intros; exact ⟨fun _ ⟨_,_,_,h⟩=>⟨_,_,h⟩⟩
 have:DH 6 1 [22] (.s [0,1,2,3,5,6,7,8,4,9,10,11] (.i (.s [12,13,14,15,16,17,18,19,20,21,22,23,24] .e) (.s [12,13,14,15,17,18,19,20,16,21] (.a [(22,0,.s [23,24] .e)])))):=⟨⟩
 have:∀ l m,LH 4 (fun x:Int=>[(0,Sl.val l),(1,Sl.val m),(5,.int .i64 x)]) (fun X x=>jG.b1 Q X l m x):=fun _ _=>⟨⟩
 exact zM 42 h Tryz.func33
def jR.b1 (Q:Int→K) (m:Int→Int→K) (c:ByteArray) (n d a:Int): K :=
 Ite (decide (a < (c.size:Int)))
  (zDp c a fun f=>
  Ar (IntKind.wrap .u64 f) fun g=>
  Ar (IntKind.wrap .u64 (d + g)) fun i=>
  Ar (IntKind.wrap .i64 (a + 1)) fun j=>
  m i j)
  (Ar (IntKind.wrap .u64 n) fun b=>
  Cd (b ≠ 0)<|
  Ar (Int.tmod d b) fun k=>
  Ar (IntKind.wrap .i64 k) fun l=>
  Q l)
def jR (d:ByteArray) (a:Int) (Q:Int→K): K :=
 Ite (decide (a < 1))
  (Q 0)
  (yJ (α:=Int×Int) (fun X x=>jR.b1 Q (fun b c=>X (b,c)) d a x.1 x.2) (0,0))
theorem zKL (a b Q w) (h:jR a b Q w):jR.call a b Q w:=by
 have:∀ c d,LH 5 (fun x:Int×Int=>[(0,.string c),(1,.int .i64 d),(5,.int .u64 x.1),(6,.int .i64 x.2)]) (fun X x=>jR.b1 Q (fun f g=>X (f,g)) c d x.1 x.2):=fun _ _=>⟨⟩
 exact zM 26 h Tryz.func70
def zAv (i:Pt) (Q:Pt→K): K :=
 Dr <| yh fun S=>
 Nn i fun a=>
 LdS S a (Value.int .i64) fun b=>
 LdS S (a.add 1) Sl.val fun c=>
 New 173 #[] fun d=>
 Sv S<|
 Do Tryz.prog (Builtin.append_ #[56,56] 56 #[(Sl.val (Sl.mk (some d) 0 0)),Sl.val c]) Sl.val fun f=>
 Sv S<|
 New 95 #[.int .i64 b,Sl.val f] fun g=>
 Q (some g)
theorem zIJ (b Q w) (h:zAv b Q w):zAv.call b Q w:=by
 have:DH 1 2 [11] (.s [0,1,2,5,6,7,3,8] (.a [(4,1,.a [(9,1,.s [10] (.a [(11,0,.s [12] .e)]))])])):=⟨⟩
 exact zM 15 h Tryz.func71
def xM.s1 (Q:Int→K) (b:Pt) (c:ByteArray) (k:Int) (l:Bool): K :=
 Ite l
  (Q 1)
  (qm.call b c fun d=>
  New 87 #[.bool false,Sl.val ⟨none,0,0⟩,.int .i64 0,.int .u64 0] fun a=>
  StN a 4 d<|
  Ld (a.add 3) (Value.int .u64) fun f=>
  Ite (decide (f = 18446744073709551615))
   (Q 111)
   (St (a.add 2) (.int .i64 k)<|
   Ld (a.add 3) (Value.int .u64) fun g=>
   Ar (IntKind.wrap .u64 (g + 1)) fun i=>
   St (a.add 3) (.int .u64 i)<|
   LdN a 4 fun j=>
   zP.call b c j<|
   Q 0))
def xM (c:Pt) (d:ByteArray) (a:Int) (Q:Int→K): K :=
 Ite (decide (a < 0))
  (xM.s1 Q c d a true)
  (Nn c fun b=>
  Ld b (Value.int .i64) fun f=>
  xM.s1 Q (some b) d a (decide (f ≤ a)))
theorem zIK (d f g Q w) (h:xM d f g Q w):xM.call d f g Q w:=by
 have:JH 2 fun D=>∃ a b c,D [(0,.pointer a),(1,.string b),(2,.int .i64 c)] (fun C=>∀ i,C [(0,.pointer a),(1,.string b),(2,.int .i64 c),(17,.bool i)] (xM.s1 Q a b c i)):=⟨fun _ ⟨_,_,_,h⟩=>⟨_,_,h⟩⟩
 exact zM 34 h Tryz.func72
def zP.s3 (Q:K) (b:Sl→Bool→Int→K) (g:Addr) (i:ByteArray) (j:Addr) (c:Sl) (d:Bool) (f:Int): K :=
 Ar (IntKind.wrap .i64 (f + 1)) fun a=>
 b c d a
def zP.s4 (Q:K) (d:Sl→Bool→Int→K) (a:Addr) (c:ByteArray) (f:Addr) (g:Sl) (j:Bool) (b:Int): K :=
 Ld (a.add 1) Sl.val fun k=>
 Idx k b 5 fun l=>
 Ld l Value.string fun m=>
 Ite (!(m.toList == c.toList))
  (Ld (a.add 1) Sl.val fun n=>
  Idx n b 5 fun o=>
  LdN o 5 fun p=>
  Bld #[(.string ⟨#[]⟩),.bool false,Sl.val ⟨none,0,0⟩,.int .i64 0,.int .u64 0] (fun i=>some (i * 5,5)) [(0,.agg p)] fun q=>
  New 173 q fun r=>
  Do Tryz.prog (Builtin.append_ #[56,56] 56 #[Sl.val g,(Sl.val (Sl.mk (some r) 1 1))]) Sl.val fun s=>
  zP.s3 Q d a c f s j b)
  (zP.s3 Q d a c f g j b)
def zP.s5 (Q:K) (c:Sl→Bool→Int→K) (d:Addr) (a:ByteArray) (b:Addr) (f:Sl) (o:Bool) (g:Int) (p:Bool): K :=
 Ite p
  (LdN b 4 fun j=>
  Bld #[(.string ⟨#[]⟩),.bool false,Sl.val ⟨none,0,0⟩,.int .i64 0,.int .u64 0] ([(0,1),(1,4)][·]?) [(0,.string a),(1,.agg j)] fun k=>
  Bld #[(.string ⟨#[]⟩),.bool false,Sl.val ⟨none,0,0⟩,.int .i64 0,.int .u64 0] (fun i=>some (i * 5,5)) [(0,.agg k)] fun l=>
  New 173 l fun m=>
  Do Tryz.prog (Builtin.append_ #[56,56] 56 #[Sl.val f,(Sl.val (Sl.mk (some m) 1 1))]) Sl.val fun n=>
  zP.s4 Q c d a b n false g)
  (zP.s4 Q c d a b f o g)
def zP.s6 (Q:K) (c:Sl→Bool→Int→K) (a:Addr) (b:Sl): K :=
 St (a.add 1) (Sl.val b)<|
 Q
def zP.b2 (Q:K) (c:Sl→Bool→Int→K) (u:Pt) (b:ByteArray) (g:Addr) (d:Sl) (k:Bool) (f:Int): K :=
 Nn u fun a=>
 Ld (a.add 1) Sl.val fun l=>
 Ite (decide (f < (l.n:Int)))
  (Ite k
   (Ld (a.add 1) Sl.val fun m=>
   Idx m f 5 fun o=>
   Ld o Value.string fun j=>
   zP.s5 Q c a b g d true f (!(Op.bytesLess j.toList b.toList || j.toList == b.toList)))
   (zP.s5 Q c a b g d false f false))
  (Ite k
   (LdN g 4 fun p=>
   Bld #[(.string ⟨#[]⟩),.bool false,Sl.val ⟨none,0,0⟩,.int .i64 0,.int .u64 0] ([(0,1),(1,4)][·]?) [(0,.string b),(1,.agg p)] fun q=>
   Bld #[(.string ⟨#[]⟩),.bool false,Sl.val ⟨none,0,0⟩,.int .i64 0,.int .u64 0] (fun i=>some (i * 5,5)) [(0,.agg q)] fun r=>
   New 173 r fun s=>
   Do Tryz.prog (Builtin.append_ #[56,56] 56 #[Sl.val d,(Sl.val (Sl.mk (some s) 1 1))]) Sl.val fun t=>
   zP.s6 Q c a t)
   (zP.s6 Q c a d))
def zP.s1 (Q:K) (d:Pt) (f:ByteArray) (g:Addr) (i:Sl) (j:Bool): K :=
 yJ (α:=Sl×Bool×Int) (fun X x=>zP.b2 Q (fun a b c=>X (a,b,c)) d f g x.1 x.2.1 x.2.2) (i,j,0)
def zP (c:Pt) (d:ByteArray) (i:Av) (Q:K): K :=
 New 87 i fun a=>
 Dr <| yh fun S=>
 LdS S a Value.bool fun f=>
 Ite f
  (New 173 #[] fun b=>
  Sv S<|
  zP.s1 Q c d a (Sl.mk (some b) 0 0) true)
  (LdS S (a.add 3) (Value.int .u64) fun g=>
  New 173 #[] fun b=>
  Sv S<|
  zP.s1 Q c d a (Sl.mk (some b) 0 0) (decide ((0:Int) < g)))
theorem zIs (ac ad ae Q w) (h:zP ac ad ae Q w):zP.call ac ad ae Q w:=by
 have:∀ b,XH 3 b→JH 4 fun D=>∃ g j k l,D [(0,(.pointer (some g))),(1,.string j),(5,(.pointer (some k))),(8,.int .i64 l)] (fun C=>∀ af ag,C [(0,(.pointer (some g))),(1,.string j),(5,(.pointer (some k))),(6,Sl.val af),(7,.bool ag),(8,.int .i64 l)] (zP.s3 Q (fun c d f=>b (c,d,f)) g j k af ag l)):=by intros; exact ⟨fun _ ⟨_,_,_,_,h⟩=>⟨_,_,h⟩⟩
 have:∀ b,XH 3 b→JH 8 fun D=>∃ m n o p,D [(0,(.pointer (some m))),(1,.string n),(5,(.pointer (some o))),(8,.int .i64 p)] (fun C=>∀ ah aj,C [(0,(.pointer (some m))),(1,.string n),(5,(.pointer (some o))),(6,Sl.val ah),(7,.bool aj),(8,.int .i64 p)] (zP.s4 Q (fun c d f=>b (c,d,f)) m n o ah aj p)):=by intros; exact ⟨fun _ ⟨_,_,_,_,h⟩=>⟨_,_,h⟩⟩
 have:∀ b,XH 3 b→JH 6 fun D=>∃ q r t u v,D [(0,(.pointer (some q))),(1,.string r),(5,(.pointer (some t))),(6,Sl.val u),(8,.int .i64 v)] (fun C=>∀ ak al,C [(0,(.pointer (some q))),(1,.string r),(5,(.pointer (some t))),(6,Sl.val u),(7,.bool ak),(8,.int .i64 v),(38,.bool al)] (zP.s5 Q (fun c d f=>b (c,d,f)) q r t u ak v al)):=by intros; exact ⟨fun _ ⟨_,_,_,_,_,h⟩=>⟨_,_,h⟩⟩
 have:∀ b,XH 3 b→JH 12 fun D=>∃ y,D [(0,(.pointer (some y)))] (fun C=>∀ am,C [(0,(.pointer (some y))),(6,Sl.val am)] (zP.s6 Q (fun c d f=>b (c,d,f)) y am)):=by intros; exact ⟨fun _ ⟨_,h⟩=>⟨_,_,h⟩⟩
 have:∀ an ao ap,LH 3 (fun x:Sl×Bool×Int=>[(0,.pointer an),(1,.string ao),(5,(.pointer (some ap))),(6,Sl.val x.1),(7,.bool x.2.1),(8,.int .i64 x.2.2)]) (fun X x=>zP.b2 Q (fun c d f=>X (c,d,f)) an ao ap x.1 x.2.1 x.2.2):=fun _ _ _=>⟨⟩
 have:JH 2 fun D=>∃ z aa ab,D [(0,.pointer z),(1,.string aa),(5,(.pointer (some ab)))] (fun C=>∀ aq ar,C [(0,.pointer z),(1,.string aa),(5,(.pointer (some ab))),(6,Sl.val aq),(7,.bool ar)] (zP.s1 Q z aa ab aq ar)):=⟨fun _ ⟨_,_,_,h⟩=>⟨_,_,h⟩⟩
 have:DH 1 2 [] (.s [1,2,3] (.i (.s [4,5,6,7] (.a [(0,1,.s [8,9] .e)])) (.s [4,5,6,7] (.a [(0,1,.s [8,9] .e)])))):=⟨⟩
 exact zM 76 h Tryz.func74
def xO.s1 (Q:Bool→K) (a:Bool): K :=
 Q a
def xO (o p:Av) (Q:Bool→K): K :=
 New 87 o fun a=>
 New 87 p fun b=>
 Ld a Value.bool fun c=>
 Ld b Value.bool fun d=>
 Ite (c == d)
  (Ld (a.add 1) Sl.val fun f=>
  Rd Tryz.prog (convert 85 9 (Sl.val f)) Value.string fun g=>
  Ld (b.add 1) Sl.val fun i=>
  Rd Tryz.prog (convert 85 9 (Sl.val i)) Value.string fun j=>
  Ite (g.toList == j.toList)
   (Ld (a.add 2) (Value.int .i64) fun k=>
   Ld (b.add 2) (Value.int .i64) fun l=>
   Ite (decide (k = l))
    (Ld (a.add 3) (Value.int .u64) fun m=>
    Ld (b.add 3) (Value.int .u64) fun n=>
    xO.s1 Q (decide (m = n)))
    (xO.s1 Q false))
   (xO.s1 Q false))
  (xO.s1 Q false)
theorem zIL (a b Q w) (h:xO a b Q w):xO.call a b Q w:=by
 have:JH 1000001 fun D=>D [] (fun C=>∀ c,C [(4,.bool c)] (xO.s1 Q c)):=⟨fun _ h=>⟨_,_,h⟩⟩
 exact zM 33 h Tryz.func75
def zAR (b:Pt) (c:ByteArray) (k:Sl) (Q:K): K :=
 qm.call b c fun d=>
 New 87 #[.bool false,Sl.val ⟨none,0,0⟩,.int .i64 0,.int .u64 0] fun a=>
 StN a 4 d<|
 Dr <| yh fun S=>
 LdS S (a.add 2) (Value.int .i64) fun f=>
 LdS S (a.add 3) (Value.int .u64) fun g=>
 New 5 #[] fun i=>
 Sv S<|
 Do Tryz.prog (Builtin.append_ #[85,85] 85 #[(Sl.val (Sl.mk (some i) 0 0)),Sl.val k]) Sl.val fun j=>
 Sv S<|
 zP.call b c #[.bool true,Sl.val j,.int .i64 f,.int .u64 g]<|
 Q
theorem zIt (b c d Q w) (h:zAR b c d Q w):zAR.call b c d Q w:=by
 have:DH 1 2 [10] (.s [0,1,3,5,7,6,8] (.a [(2,1,.a [(4,1,.s [9] (.a [(10,0,.e)]))])])):=⟨⟩
 exact zM 21 h Tryz.func122
def jr (b:Pt) (c:ByteArray) (Q:K): K :=
 qm.call b c fun d=>
 New 87 #[.bool false,Sl.val ⟨none,0,0⟩,.int .i64 0,.int .u64 0] fun a=>
 StN a 4 d<|
 Ld (a.add 2) (Value.int .i64) fun f=>
 Ld (a.add 3) (Value.int .u64) fun g=>
 zP.call b c #[.bool false,Sl.val ⟨none,0,0⟩,.int .i64 f,.int .u64 g]<|
 Q
theorem zGi (a b Q w) (h:jr a b Q w):jr.call a b Q w:=by
 exact zM 16 h Tryz.func123
instance:CT Tryz.prog 319:=⟨by kernel_rfl⟩
def yT (b:(Option Nat)) (Q:Value→K): K :=
 New 319 #[.map b] fun a=>
 Q (.func (.func 228) #[] #[(.pointer (some a))])
theorem zAe (a Q w) (h:yT a Q w):yT.call a Q w:=by
 exact zM 4 h Tryz.func196
def zq.b1 (Q i:K) (j:Value) (b:Pt): K :=
 Do Tryz.prog (Instr.next (.pointer b) false 0) id fun c=>
 Ext c 0 Value.bool fun d=>
 Ite d
  (Do Tryz.prog (Instr.entry (.pointer b)) id fun f=>
  Ext f 0 Value.string fun g=>
  jk Tryz.prog j [.string g] <| yO (fun (a:Bool)=>Value.bool a) fun a=>
  Ite (!a)
   (Q)
   (i))
  (Q)
def zq (c:Value) (d:Addr) (Q:K): K :=
 Ld d Value.map fun a=>
 Do Tryz.prog (Instr.range 319 (.map a)) Value.pointer fun b=>
 yJ (α:=Unit) (fun X x=>zq.b1 Q (X ()) c b) ()
theorem zAT (a b Q w) (h:zq a b Q w):zq.call a b Q w:=by
 have:∀ c d,LH 1 (fun x:Unit=>[(0,c),(5,.pointer d)]) (fun X x=>zq.b1 Q (X ()) c d):=fun _ _=>⟨⟩
 exact zM 14 h Tryz.func228
instance:AT Tryz.prog 51 2:=⟨by kernel_rfl⟩
instance:CB Tryz.prog 193:=⟨by kernel_rfl⟩
instance:CB Tryz.prog 194:=⟨by kernel_rfl⟩
instance:CB Tryz.prog 195:=⟨by kernel_rfl⟩
instance:CB Tryz.prog 196:=⟨by kernel_rfl⟩
instance:CB Tryz.prog 197:=⟨by kernel_rfl⟩
instance:CB Tryz.prog 198:=⟨by kernel_rfl⟩
instance:CB Tryz.prog 199:=⟨by kernel_rfl⟩
instance:CB Tryz.prog 223:=⟨by kernel_rfl⟩
instance:CB Tryz.prog 224:=⟨by kernel_rfl⟩
instance:CB Tryz.prog 225:=⟨by kernel_rfl⟩
instance:CB Tryz.prog 226:=⟨by kernel_rfl⟩
instance:CB Tryz.prog 239:=⟨by kernel_rfl⟩
instance:CB Tryz.prog 240:=⟨by kernel_rfl⟩
instance:CT Tryz.prog 127:=⟨by kernel_rfl⟩
instance:CT Tryz.prog 49:=⟨by kernel_rfl⟩
instance:CT Tryz.prog 5:=⟨by kernel_rfl⟩
instance:FC Tryz.prog 87 3 3:=⟨by kernel_rfl⟩
instance:FT Tryz.prog 321 0 0 1:=⟨by kernel_rfl⟩
instance:FT Tryz.prog 321 1 1 1:=⟨by kernel_rfl⟩
instance:FT Tryz.prog 321 2 2 1:=⟨by kernel_rfl⟩
instance:INT Tryz.prog 2 .i64:=⟨by kernel_rfl⟩
instance:PLT Tryz.prog 180 [(0,1),(1,1)]:=⟨_,Tryz.underlying180,by kernel_rfl⟩
instance:PLT Tryz.prog 321 [(0,1),(1,1),(2,1)]:=⟨_,Tryz.underlying321,by kernel_rfl⟩
instance:PLT Tryz.prog 51 [(0,1),(1,1)]:=⟨_,Tryz.underlying51,by kernel_rfl⟩
instance:SZ Tryz.prog 173 5:=⟨by kernel_rfl⟩
instance:SZ Tryz.prog 49 1:=⟨by kernel_rfl⟩
instance:SZ Tryz.prog 5 1:=⟨by kernel_rfl⟩
instance:SZ Tryz.prog 51 2:=⟨by kernel_rfl⟩
instance:ZT Tryz.prog 321 (.agg #[(.pointer none),(.map none),(Sl.val ⟨none,0,0⟩)]):=⟨Tryz.t321,by kernel_rfl,by kernel_rfl⟩
instance:ZT Tryz.prog 51 (.agg #[(.int .i64 0),(Sl.val ⟨none,0,0⟩)]):=⟨Tryz.t51,by kernel_rfl,by kernel_rfl⟩
def vk.b2 (Q:Av→Sl→K) (s:Sl→Int→K) (c d:Addr) (t:Sl) (u:Int) (f:Sl) (a:Int): K :=
 Ite (decide (a < u))
  (Idx t a 1 fun g=>
  Ld g Value.string fun b=>
  Ld (d.add 1) Value.map fun j=>
  Rd Tryz.prog (Instr.lookup 319 (.map j) (.string b) false) Value.agg fun k=>
  Bld #[(.string ⟨#[]⟩),.bool false,Sl.val ⟨none,0,0⟩,.int .i64 0,.int .u64 0] ([(0,1),(1,4)][·]?) [(0,.string b),(1,.agg k)] fun l=>
  Bld #[(.string ⟨#[]⟩),.bool false,Sl.val ⟨none,0,0⟩,.int .i64 0,.int .u64 0] (fun i=>some (i * 5,5)) [(0,.agg l)] fun m=>
  New 173 m fun n=>
  Do Tryz.prog (Builtin.append_ #[56,56] 56 #[Sl.val f,(Sl.val (Sl.mk (some n) 1 1))]) Sl.val fun o=>
  Ar (IntKind.wrap .i64 (a + 1)) fun p=>
  s o p)
  (Ld (d.add 2) Sl.val fun q=>
  StN c 2 #[.int .i64 0,Sl.val q]<|
  LdN c 2 fun r=>
  Q r f)
def vk.s1 (Q:Av→Sl→K) (a c:Addr) (d:Int): K :=
 Ite (decide (d ≠ 0))
  (StN a 2 #[.int .i64 d,Sl.val ⟨none,0,0⟩]<|
  LdN a 2 fun f=>
  Q f (Sl.mk none 0 0))
  (Ld (c.add 1) Value.map fun g=>
  yT.call g fun i=>
  jL.call i fun b=>
  yJ (α:=Sl×Int) (fun X x=>vk.b2 Q (fun j k=>X (j,k)) a c b (b.n:Int) x.1 x.2) ((Sl.mk none 0 0),0))
def vk.b3 (Q:Av→Sl→K) (l:Int→Int→K) (f b:Addr) (m:Sl) (n o c:Int): K :=
 Ite (decide (c < n))
  (Idx m c 4 fun g=>
  LdN g 4 fun i=>
  New 123 #[.int .i64 0,(.string ⟨#[]⟩),Sl.val ⟨none,0,0⟩,.int .i64 0] fun d=>
  StN d 4 i<|
  LdN d 4 fun j=>
  yM.call (some b) j fun a=>
  Ite (decide (a ≠ 0))
   (vk.s1 Q f b a)
   (Ar (IntKind.wrap .i64 (c + 1)) fun k=>
   l a k))
  (vk.s1 Q f b o)
def vk (m:Pt) (o:Av) (Q:Av→Sl→K): K :=
 New 25 o fun a=>
 New 51 #[.int .i64 0,Sl.val ⟨none,0,0⟩] fun c=>
 Do Tryz.prog (Instr.makeMap 319 none) Value.map fun f=>
 New 321 #[.pointer m,.map f,Sl.val ⟨none,0,0⟩] fun b=>
 Ld a (Value.int .i64) fun g=>
 Ite (decide (g = 2))
  (LdN a 5 fun i=>
  jT.call (some b) i fun j=>
  vk.s1 Q c b j)
  (Ld (a.add 3) Sl.val fun d=>
  yJ (α:=Int×Int) (fun X x=>vk.b3 Q (fun k l=>X (k,l)) c b d (d.n:Int) x.1 x.2) (0,0))
theorem zRg (c d Q w) (h:vk c d Q w):vk.call c d Q w:=by
 have:∀ f g i j,LH 14 (fun x:Sl×Int=>[(4,(.pointer (some f))),(6,(.pointer (some g))),(10,Sl.val x.1),(45,Sl.val i),(46,.int .i64 j),(47,.int .i64 x.2)]) (fun X x=>vk.b2 Q (fun p q=>X (p,q)) f g i j x.1 x.2):=fun _ _ _ _=>⟨⟩
 have:JH 10 fun D=>∃ a b,D [(4,(.pointer (some a))),(6,(.pointer (some b)))] (fun C=>∀ k,C [(4,(.pointer (some a))),(6,(.pointer (some b))),(7,.int .i64 k)] (vk.s1 Q a b k)):=⟨fun _ ⟨_,_,h⟩=>⟨_,_,h⟩⟩
 have:∀ l m n o,LH 5 (fun x:Int×Int=>[(4,(.pointer (some l))),(6,(.pointer (some m))),(7,.int .i64 x.1),(24,Sl.val n),(25,.int .i64 o),(26,.int .i64 x.2)]) (fun X x=>vk.b3 Q (fun r s=>X (r,s)) l m n o x.1 x.2):=fun _ _ _ _=>⟨⟩
 exact zM 69 h Tryz.func157
def xg.s2 (Q:K) (b:Int→K) (d:Pt) (f:Sl) (g c:Int): K :=
 Ar (IntKind.wrap .i64 (c + 1)) fun a=>
 b a
def xg.s3 (Q:K) (c:Int→K) (a:Pt) (b:Addr) (d:Sl) (f g:Int): K :=
 Ld (b.add 1) Value.bool fun i=>
 Ite i
  (Ld b Value.string fun j=>
  Ld ((b.add 1).add 1) Sl.val fun k=>
  zA5.call a j k<|
  xg.s2 Q c a d f g)
  (Ld b Value.string fun l=>
  jv.call a l<|
  xg.s2 Q c a d f g)
def xg.b1 (Q:K) (g:Int→K) (b:Pt) (d:Sl) (f c:Int): K :=
 Ite (decide (c < f))
  (Idx d c 5 fun i=>
  LdN i 5 fun j=>
  New 173 #[(.string ⟨#[]⟩),.bool false,Sl.val ⟨none,0,0⟩,.int .i64 0,.int .u64 0] fun a=>
  StN a 5 j<|
  Dr <| yh fun S=>
  LdS S a Value.string fun k=>
  LdS S ((a.add 1).add 3) (Value.int .u64) fun l=>
  qE.call b k fun m=>
  Sv S<|
  Fld m 3 (Value.int .u64) fun n=>
  Ite (decide (n ≠ l))
   (Ld a Value.string fun o=>
   Ld ((a.add 1).add 2) (Value.int .i64) fun p=>
   xQ.call b o p fun q=>
   xg.s3 Q g b a d f c)
   (xg.s3 Q g b a d f c))
  (Q)
def xg (b:Pt) (a:Sl) (Q:K): K :=
 yJ (α:=Int) (fun X x=>xg.b1 Q X b a (a.n:Int) x) 0
theorem zNi (n o Q w) (h:xg n o Q w):xg.call n o Q w:=by
 have:∀ b,XH 1 b→JH 8 fun D=>∃ c d f g,D [(0,.pointer c),(6,Sl.val d),(7,.int .i64 f),(8,.int .i64 g)] (fun C=>C [(0,.pointer c),(6,Sl.val d),(7,.int .i64 f),(8,.int .i64 g)] (xg.s2 Q b c d f g)):=by intros; exact ⟨fun _ ⟨_,_,_,_,h⟩=>⟨_,_,h⟩⟩
 have:∀ b,XH 1 b→JH 5 fun D=>∃ i j k l m,D [(0,.pointer i),(5,(.pointer (some j))),(6,Sl.val k),(7,.int .i64 l),(8,.int .i64 m)] (fun C=>C [(0,.pointer i),(5,(.pointer (some j))),(6,Sl.val k),(7,.int .i64 l),(8,.int .i64 m)] (xg.s3 Q b i j k l m)):=by intros; exact ⟨fun _ ⟨_,_,_,_,_,h⟩=>⟨_,_,h⟩⟩
 have:DH 3 2 [] (.s [0,1,5,6,2,7] (.a [(3,1,.s [4,8] .e)])):=⟨⟩
 have:∀ p q r,LH 1 (fun x:Int=>[(0,.pointer p),(6,Sl.val q),(7,.int .i64 r),(8,.int .i64 x)]) (fun X x=>xg.b1 Q X p q r x):=fun _ _ _=>⟨⟩
 exact zM 43 h Tryz.func158
def jT.b1 (Q q:Int→K) (d:Pt) (r:Addr) (s:Sl) (t b:Int): K :=
 Ite (decide (b < t))
  (Idx s b 1 fun f=>
  Ld f Value.string fun c=>
  zAa.call d c fun g=>
  New 87 #[.bool false,Sl.val ⟨none,0,0⟩,.int .i64 0,.int .u64 0] fun a=>
  StN a 4 g<|
  Ld (a.add 3) (Value.int .u64) fun i=>
  Ite (decide (i = 18446744073709551615))
   (Q 111)
   (Ld (r.add 4) (Value.int .i64) fun j=>
   St (a.add 2) (.int .i64 j)<|
   Ld (a.add 3) (Value.int .u64) fun k=>
   Ar (IntKind.wrap .u64 (k + 1)) fun l=>
   St (a.add 3) (.int .u64 l)<|
   Dr<|
   Nn d fun m=>
   Ld (m.add 1) Value.map fun n=>
   LdN a 4 fun o=>
   DoU Tryz.prog (Instr.mapUpdate 319 (.map n) (.string c) (.agg o))<|
   Ar (IntKind.wrap .i64 (b + 1)) fun p=>
   q p))
  (Q 0)
def jT (c:Pt) (d:Av) (Q:Int→K): K :=
 New 25 d fun a=>
 Ld (a.add 2) Sl.val fun b=>
 yJ (α:=Int) (fun X x=>jT.b1 Q X c a b (b.n:Int) x) 0
theorem zKM (b c Q w) (h:jT b c Q w):jT.call b c Q w:=by
 have:DH 9 1 [6] (.s [0,1,2,4,3,5] (.a [(6,0,.e)])):=⟨⟩
 have:∀ d f g i,LH 2 (fun x:Int=>[(0,.pointer d),(3,(.pointer (some f))),(9,Sl.val g),(10,.int .i64 i),(11,.int .i64 x)]) (fun X x=>jT.b1 Q X d f g i x):=fun _ _ _ _=>⟨⟩
 exact zM 35 h Tryz.func193
def yM.s1 (Q:Int→K): K :=
 Q 0
def yM.s2 (Q:Int→K) (a:Bool): K :=
 Ite a
  (Q 110)
  (yM.s1 Q)
def yM (d:Pt) (ak:Av) (Q:Int→K): K :=
 New 123 ak fun a=>
 Ld (a.add 1) Value.string fun j=>
 zAa.call d j fun k=>
 New 87 #[.bool false,Sl.val ⟨none,0,0⟩,.int .i64 0,.int .u64 0] fun c=>
 StN c 4 k<|
 Ld a (Value.int .i64) fun b=>
 Ite (decide (b = 1))
  (Dr <| yh fun S=>
  Nn d fun f=>
  LdS S (f.add 2) Sl.val fun l=>
  LdS S c Value.bool fun m=>
  LdS S (c.add 1) Sl.val fun n=>
  vK.call n fun o=>
  Sv S<|
  Bld #[.bool false,Sl.val ⟨none,0,0⟩] (fun i=>some (i * 2,2)) [(0,(.agg #[.bool m,Sl.val o]))] fun p=>
  New 180 p fun q=>
  Sv S<|
  Do Tryz.prog (Builtin.append_ #[49,49] 49 #[Sl.val l,(Sl.val (Sl.mk (some q) 1 1))]) Sl.val fun r=>
  St (f.add 2) (Sl.val r)<|
  yM.s1 Q)
  (Ite (decide (b = 7))
   (Dr <| yh fun S=>
   Nn d fun g=>
   LdS S (g.add 2) Sl.val fun s=>
   LdS S (a.add 2) Sl.val fun t=>
   vK.call t fun u=>
   Sv S<|
   Bld #[.bool false,Sl.val ⟨none,0,0⟩] (fun i=>some (i * 2,2)) [(0,(.agg #[.bool true,Sl.val u]))] fun v=>
   New 180 v fun x=>
   Sv S<|
   Do Tryz.prog (Builtin.append_ #[49,49] 49 #[Sl.val s,(Sl.val (Sl.mk (some x) 1 1))]) Sl.val fun y=>
   St (g.add 2) (Sl.val y)<|
   yM.s1 Q)
   (Ite (decide (b = 2))
    (Ld (a.add 1) Value.string fun z=>
    Ld (a.add 2) Sl.val fun aa=>
    zAA.call d z true aa<|
    yM.s1 Q)
    (Ite (decide (b = 3))
     (Ld (a.add 1) Value.string fun ab=>
     zAA.call d ab false (Sl.mk none 0 0)<|
     yM.s1 Q)
     (Ite (decide (b = 4))
      (Ld c Value.bool fun ac=>
      Ite (!ac)
       (yM.s2 Q true)
       (Ld (c.add 1) Sl.val fun ad=>
       Ld (a.add 2) Sl.val fun ae=>
       bytes_Equal.call ad ae fun af=>
       yM.s2 Q (!af)))
      (Ite (decide (b = 5))
       (Ld c Value.bool fun ag=>
       Ite ag
        (Q 110)
        (yM.s1 Q))
       (Ite (decide (b = 6))
        (LdN a 4 fun ah=>
        qL.call d ah fun aj=>
        Q aj)
        (yM.s1 Q)))))))
theorem zKN (b c Q w) (h:yM b c Q w):yM.call b c Q w:=by
 have:JH 19 fun D=>D [] (fun C=>C [] (yM.s1 Q)):=⟨fun _ h=>⟨_,_,h⟩⟩
 have:DH 4 2 [12,15] (.s [0,1,2,3,5,7,4,6,8] (.a [(9,1,.s [10] (.a [(11,1,.a [(12,0,.s [13,14] (.a [(15,0,.e)]))])]))])):=⟨⟩
 have:DH 6 2 [10,13] (.s [0,1,2,3,5,4,6] (.a [(7,1,.s [8] (.a [(9,1,.a [(10,0,.s [11,12] (.a [(13,0,.e)]))])]))])):=⟨⟩
 have:JH 13 fun D=>D [] (fun C=>∀ d,C [(70,.bool d)] (yM.s2 Q d)):=⟨fun _ h=>⟨_,_,h⟩⟩
 exact zM 80 h Tryz.func194
def zAa (a:Pt) (f:ByteArray) (Q:Av→K): K :=
 New 87 #[.bool false,Sl.val ⟨none,0,0⟩,.int .i64 0,.int .u64 0] fun b=>
 Nn a fun c=>
 Ld (c.add 1) Value.map fun g=>
 Rd2 Tryz.prog (Instr.lookup 319 (.map g) (.string f) true) (fun x y=>.tuple #[Value.agg x,.bool y]) fun i j=>
 New 87 #[.bool false,Sl.val ⟨none,0,0⟩,.int .i64 0,.int .u64 0] fun d=>
 StN d 4 i<|
 Ite j
  (LdN d 4 fun k=>
  StN b 4 k<|
  LdN b 4 fun a=>
  Q a)
  (Ld c Value.pointer fun l=>
  qE.call l f fun m=>
  StN b 4 m<|
  LdN b 4 fun a=>
  Q a)
theorem zLG (a b Q w) (h:zAa a b Q w):zAa.call a b Q w:=by
 exact zM 24 h Tryz.func223
def zAA (b:Pt) (c:ByteArray) (k:Bool) (l:Sl) (Q:K): K :=
 zAa.call b c fun d=>
 New 87 #[.bool false,Sl.val ⟨none,0,0⟩,.int .i64 0,.int .u64 0] fun a=>
 StN a 4 d<|
 vK.call l fun f=>
 St a (.bool k)<|
 St (a.add 1) (Sl.val f)<|
 Dr<|
 Nn b fun g=>
 Ld (g.add 1) Value.map fun i=>
 LdN a 4 fun j=>
 DoU Tryz.prog (Instr.mapUpdate 319 (.map i) (.string c) (.agg j))<|
 Q
theorem zLH (b c d f Q w) (h:zAA b c d f Q w):zAA.call b c d f Q w:=by
 have:DH 2 1 [6] (.s [0,1,2,4,3,5] (.a [(6,0,.e)])):=⟨⟩
 exact zM 23 h Tryz.func224
def qL.s2 (Q:Int→K) (g:Pt) (a:Addr) (i:Int) (j:Bool): K :=
 Ite j
  (Q 111)
  (Dr <| yh fun S=>
  LdS S (a.add 1) Value.string fun b=>
  LdS S (a.add 3) (Value.int .i64) fun c=>
  Ar (IntKind.wrap .i64 (i + c)) fun d=>
  zBL.call d fun f=>
  Sv S<|
  zAA.call g b true f<|
  Q 0)
def qL.s1 (Q:Int→K) (c:Pt) (a:Addr) (b:Int): K :=
 Ld (a.add 3) (Value.int .i64) fun i=>
 Ite (decide ((0:Int) < i))
  (Ld (a.add 3) (Value.int .i64) fun j=>
  Ar (IntKind.wrap .i64 (9223372036854775807 - j)) fun k=>
  Ite (decide (k < b))
   (qL.s2 Q c a b true)
   (Ld (a.add 3) (Value.int .i64) fun d=>
   Ite (decide (d < 0))
    (Ld (a.add 3) (Value.int .i64) fun f=>
    Ar (IntKind.wrap .i64 ((-9223372036854775808) - f)) fun g=>
    qL.s2 Q c a b (decide (b < g)))
    (qL.s2 Q c a b false)))
  (Ld (a.add 3) (Value.int .i64) fun d=>
  Ite (decide (d < 0))
   (Ld (a.add 3) (Value.int .i64) fun f=>
   Ar (IntKind.wrap .i64 ((-9223372036854775808) - f)) fun g=>
   qL.s2 Q c a b (decide (b < g)))
   (qL.s2 Q c a b false))
def qL (c:Pt) (l:Av) (Q:Int→K): K :=
 New 123 l fun a=>
 Ld (a.add 1) Value.string fun d=>
 zAa.call c d fun f=>
 New 87 #[.bool false,Sl.val ⟨none,0,0⟩,.int .i64 0,.int .u64 0] fun b=>
 StN b 4 f<|
 Ld b Value.bool fun g=>
 Ite g
  (Ld (b.add 1) Sl.val fun i=>
  zAF.call i fun j k=>
  Ite (!k)
   (Q 110)
   (qL.s1 Q c a j))
  (qL.s1 Q c a 0)
theorem zLI (i j Q w) (h:qL i j Q w):qL.call i j Q w:=by
 have:DH 9 2 [8] (.s [0,1,3,4,2,5,6] (.a [(7,1,.a [(8,0,.e)])])):=⟨⟩
 have:JH 8 fun D=>∃ b c d,D [(0,.pointer b),(3,(.pointer (some c))),(6,.int .i64 d)] (fun C=>∀ k,C [(0,.pointer b),(3,(.pointer (some c))),(6,.int .i64 d),(43,.bool k)] (qL.s2 Q b c d k)):=⟨fun _ ⟨_,_,_,h⟩=>⟨_,_,h⟩⟩
 have:JH 7 fun D=>∃ f g,D [(0,.pointer f),(3,(.pointer (some g)))] (fun C=>∀ l,C [(0,.pointer f),(3,(.pointer (some g))),(6,.int .i64 l)] (qL.s1 Q f g l)):=⟨fun _ ⟨_,_,h⟩=>⟨_,_,h⟩⟩
 exact zM 53 h Tryz.func226
def zAF.b1 (Q:Int→Bool→K) (l:Int→Int→K) (m:Sl) (n b a:Int): K :=
 Ite (decide (a < n))
  (Idx m a 1 fun c=>
  Ld c (Value.int .u8) fun d=>
  Cd (0 ≤ (8:Int))<|
  Ar (zN3 .u64 b 8) fun f=>
  Ar (IntKind.wrap .u64 d) fun g=>
  Ar (bitsOf .or .u64 f g) fun i=>
  Ar (IntKind.wrap .i64 (a + 1)) fun j=>
  l i j)
  (Ar (IntKind.wrap .i64 b) fun k=>
  Q k true)
def zAF (a:Sl) (Q:Int→Bool→K): K :=
 Ite (decide ((a.n:Int) ≠ 8))
  (Q 0 false)
  (yJ (α:=Int×Int) (fun X x=>zAF.b1 Q (fun b c=>X (b,c)) a (a.n:Int) x.1 x.2) (0,0))
theorem zMr (a Q w) (h:zAF a Q w):zAF.call a Q w:=by
 have:∀ b c,LH 5 (fun x:Int×Int=>[(4,.int .u64 x.1),(10,Sl.val b),(11,.int .i64 c),(12,.int .i64 x.2)]) (fun X x=>zAF.b1 Q (fun d f=>X (d,f)) b c x.1 x.2):=fun _ _=>⟨⟩
 exact zM 24 h Tryz.func239
def zBL.b1 (Q:Sl→K) (l:Int→K) (m:Int) (c:Sl) (n a:Int): K :=
 Ite (decide (a < n))
  (Ar (IntKind.wrap .i64 (7 - a)) fun d=>
  Ar (IntKind.wrap .u64 m) fun f=>
  Ar (IntKind.wrap .i64 (8 * a)) fun b=>
  Cd (0 ≤ b)<|
  Ar (zGv .u64 f b) fun g=>
  Ar (IntKind.wrap .u8 g) fun i=>
  Idx c d 1 fun j=>
  St j (.int .u8 i)<|
  Ar (IntKind.wrap .i64 (a + 1)) fun k=>
  l k)
  (Q c)
def zBL (b:Int) (Q:Sl→K): K :=
 Do Tryz.prog (Instr.makeSlice 85 (.int .i64 8) (.int .i64 8)) Sl.val fun a=>
 yJ (α:=Int) (fun X x=>zBL.b1 Q X b a (a.n:Int) x) 0
theorem zNj (a Q w) (h:zBL a Q w):zBL.call a Q w:=by
 have:∀ b c d,LH 3 (fun x:Int=>[(0,.int .i64 b),(3,Sl.val c),(7,.int .i64 d),(8,.int .i64 x)]) (fun X x=>zBL.b1 Q X b c d x):=fun _ _ _=>⟨⟩
 exact zM 23 h Tryz.func240
instance:CB Tryz.prog 122:=⟨by kernel_rfl⟩
instance:CB Tryz.prog 123:=⟨by kernel_rfl⟩
instance:CB Tryz.prog 124:=⟨by kernel_rfl⟩
instance:CB Tryz.prog 125:=⟨by kernel_rfl⟩
instance:CB Tryz.prog 126:=⟨by kernel_rfl⟩
instance:CB Tryz.prog 68:=⟨by kernel_rfl⟩
instance:CB Tryz.prog 71:=⟨by kernel_rfl⟩
instance:CB Tryz.prog 72:=⟨by kernel_rfl⟩
instance:CB Tryz.prog 73:=⟨by kernel_rfl⟩
instance:CT Tryz.prog 30:=⟨by kernel_rfl⟩
instance:FT Tryz.prog 180 0 0 1:=⟨by kernel_rfl⟩
instance:FT Tryz.prog 180 1 1 1:=⟨by kernel_rfl⟩
instance:FT Tryz.prog 51 0 0 1:=⟨by kernel_rfl⟩
instance:FT Tryz.prog 51 1 1 1:=⟨by kernel_rfl⟩
def qZ.s1 (Q:Av→Sl→K) (b:Addr) (c:Sl): K :=
 LdN b 2 fun a=>
 Q a c
def qZ.s3 (Q:Av→Sl→K) (b:Sl→Sl→Int→K) (g i:Addr) (j:Pt) (c d:Sl) (f:Int): K :=
 Ar (IntKind.wrap .i64 (f + 1)) fun a=>
 b c d a
def qZ.s4 (Q:Av→Sl→K) (a:Sl→Sl→Int→K) (b c:Addr) (d:Pt) (f g:Sl) (i:Int) (m:Addr) (n:Bool): K :=
 Ite n
  (Ld (m.add 1) Value.string fun j=>
  New 9 #[.string j] fun k=>
  Do Tryz.prog (Builtin.append_ #[22,22] 22 #[Sl.val g,(Sl.val (Sl.mk (some k) 1 1))]) Sl.val fun l=>
  qZ.s3 Q a b c d f l i)
  (qZ.s3 Q a b c d f g i)
def qZ.b5 (Q:Av→Sl→K) (x:Sl→Sl→Int→K) (t:Sl→Int→K) (c:Addr) (u:Pt) (v b d:Sl) (a:Int): K :=
 Ite (decide (a < (b.n:Int)))
  (Dr <| yh fun S=>
  Idx b a 1 fun f=>
  Idx b a 1 fun g=>
  LdS S f Value.string fun j=>
  LdS S g Value.string fun k=>
  qm.call u k fun l=>
  Sv S<|
  Bld #[(.string ⟨#[]⟩),.bool false,Sl.val ⟨none,0,0⟩,.int .i64 0,.int .u64 0] ([(0,1),(1,4)][·]?) [(0,.string j),(1,.agg l)] fun m=>
  Bld #[(.string ⟨#[]⟩),.bool false,Sl.val ⟨none,0,0⟩,.int .i64 0,.int .u64 0] (fun i=>some (i * 5,5)) [(0,.agg m)] fun o=>
  New 173 o fun p=>
  Do Tryz.prog (Builtin.append_ #[56,56] 56 #[Sl.val d,(Sl.val (Sl.mk (some p) 1 1))]) Sl.val fun q=>
  Ar (IntKind.wrap .i64 (a + 1)) fun r=>
  t q r)
  (StN c 2 #[.int .i64 0,Sl.val v]<|
  LdN c 2 fun s=>
  Q s d)
def qZ.b2 (Q:Av→Sl→K) (g:Sl→Sl→Int→K) (c b:Addr) (d:Pt) (l i:Sl) (f:Int): K :=
 Ld (c.add 3) Sl.val fun m=>
 Ite (decide (f < (m.n:Int)))
  (Ld (c.add 3) Sl.val fun o=>
  Idx o f 4 fun p=>
  LdN p 4 fun q=>
  New 123 #[.int .i64 0,(.string ⟨#[]⟩),Sl.val ⟨none,0,0⟩,.int .i64 0] fun a=>
  StN a 4 q<|
  LdN a 4 fun r=>
  ql.call d r fun s k=>
  Ite (decide (k ≠ 0))
   (New 173 #[] fun t=>
   StN b 2 #[.int .i64 k,Sl.val ⟨none,0,0⟩]<|
   LdN b 2 fun u=>
   Q u (Sl.mk (some t) 0 0))
   (Do Tryz.prog (Builtin.append_ #[49,49] 49 #[Sl.val l,Sl.val s]) Sl.val fun j=>
   Ld a (Value.int .i64) fun v=>
   Ite (decide (v = 2))
    (qZ.s4 Q g c b d j i f a true)
    (Ld a (Value.int .i64) fun y=>
    Ite (decide (y = 3))
     (qZ.s4 Q g c b d j i f a true)
     (Ld a (Value.int .i64) fun z=>
     qZ.s4 Q g c b d j i f a (decide (z = 6))))))
  (New 173 #[] fun aa=>
  qU.call #[.int .i64 0,Sl.val ⟨none,0,0⟩,Sl.val i,Sl.val ⟨none,0,0⟩,.int .i64 0] fun ab=>
  yJ (α:=Sl×Int) (fun X x=>qZ.b5 Q g (fun ac ad=>X (ac,ad)) b d l ab x.1 x.2) ((Sl.mk (some aa) 0 0),0))
def qZ (af:Pt) (ag:Av) (Q:Av→Sl→K): K :=
 New 25 ag fun b=>
 New 51 #[.int .i64 0,Sl.val ⟨none,0,0⟩] fun a=>
 zAv.call af fun c=>
 New 180 #[] fun j=>
 New 9 #[] fun k=>
 Ld b (Value.int .i64) fun l=>
 Ite (decide (l = 2))
  (Dr<|
  Ld (b.add 2) Sl.val fun m=>
  Idx m 0 1 fun n=>
  Ld n Value.string fun o=>
  Ld (b.add 4) (Value.int .i64) fun p=>
  xM.call c o p fun q=>
  Ite (decide (q ≠ 0))
   (New 173 #[] fun r=>
   StN a 2 #[.int .i64 111,Sl.val ⟨none,0,0⟩]<|
   LdN a 2 fun s=>
   Q s (Sl.mk (some r) 0 0))
   (Dr <| yh fun S=>
   LdS S (b.add 2) Sl.val fun t=>
   Idx t 0 1 fun u=>
   LdS S u Value.string fun v=>
   LdS S (b.add 2) Sl.val fun y=>
   Idx y 0 1 fun z=>
   LdS S z Value.string fun aa=>
   qm.call c aa fun ab=>
   Sv S<|
   Bld #[(.string ⟨#[]⟩),.bool false,Sl.val ⟨none,0,0⟩,.int .i64 0,.int .u64 0] ([(0,1),(1,4)][·]?) [(0,.string v),(1,.agg ab)] fun g=>
   All [
    (Bld #[(.string ⟨#[]⟩),.bool false,Sl.val ⟨none,0,0⟩,.int .i64 0,.int .u64 0] (fun i=>some (i * 5,5)) [(0,.agg g)] fun d=>
    New 173 d fun f=>
    StN a 2 #[.int .i64 0,Sl.val ⟨none,0,0⟩]<|
    qZ.s1 Q a (Sl.mk (some f) 1 1)),
    (StN a 2 #[.int .i64 0,Sl.val ⟨none,0,0⟩]<|
    Sv S<|
    Bld #[(.string ⟨#[]⟩),.bool false,Sl.val ⟨none,0,0⟩,.int .i64 0,.int .u64 0] (fun i=>some (i * 5,5)) [(0,.agg g)] fun d=>
    New 173 d fun f=>
    qZ.s1 Q a (Sl.mk (some f) 1 1))
    ]))
  (yJ (α:=Sl×Sl×Int) (fun X x=>qZ.b2 Q (fun ac ad ae=>X (ac,ad,ae)) b a c x.1 x.2.1 x.2.2) ((Sl.mk (some j) 0 0),(Sl.mk (some k) 0 0),0))
theorem zQF (u v Q w) (h:qZ u v Q w):qZ.call u v Q w:=by
 have:JH 1000005 fun D=>∃ g,D [(4,(.pointer (some g)))] (fun C=>∀ y,C [(4,(.pointer (some g))),(5,Sl.val y)] (qZ.s1 Q g y)):=⟨fun _ ⟨_,h⟩=>⟨_,_,h⟩⟩
 have:DH 5 2 [12] (.s [0,1,5,6,2,3,4,7,8,9] (.a [(10,1,.s [11] (.a [(12,0,.a [(13,0,.s [14] .e)]),(13,1,.a [(12,0,.s [14] .e)])]))])):=⟨⟩
 have:DH 3 1 [7] (.s [0,1,5,2,3,4,6] (.a [(7,0,.s [8] .e)])):=⟨⟩
 have:∀ b,XH 7 b→JH 8 fun D=>∃ i j k l,D [(3,(.pointer (some i))),(4,(.pointer (some j))),(6,.pointer k),(9,.int .i64 l)] (fun C=>∀ z aa,C [(3,(.pointer (some i))),(4,(.pointer (some j))),(6,.pointer k),(7,Sl.val z),(8,Sl.val aa),(9,.int .i64 l)] (qZ.s3 Q (fun c d f=>b (c,d,f)) i j k z aa l)):=by intros; exact ⟨fun _ ⟨_,_,_,_,h⟩=>⟨_,_,h⟩⟩
 have:∀ b,XH 7 b→JH 15 fun D=>∃ m n o p q r t,D [(3,(.pointer (some m))),(4,(.pointer (some n))),(6,.pointer o),(7,Sl.val p),(8,Sl.val q),(9,.int .i64 r),(10,(.pointer (some t)))] (fun C=>∀ ab,C [(3,(.pointer (some m))),(4,(.pointer (some n))),(6,.pointer o),(7,Sl.val p),(8,Sl.val q),(9,.int .i64 r),(10,(.pointer (some t))),(85,.bool ab)] (qZ.s4 Q (fun c d f=>b (c,d,f)) m n o p q r t ab)):=by intros; exact ⟨fun _ ⟨_,_,_,_,_,_,_,h⟩=>⟨_,_,h⟩⟩
 have:DH 21 2 [12,13] (.s [0,1,2,3,5,6,7,8,4,9] (.a [(10,1,.s [11] (.a [(12,0,.a [(13,0,.s [14] .e)])]))])):=⟨⟩
 have:∀ b,XH 7 b→∀ ac ad ae af,LH 19 (fun x:Sl×Int=>[(4,(.pointer (some ac))),(6,.pointer ad),(7,Sl.val ae),(13,Sl.val x.1),(14,Sl.val af),(15,.int .i64 x.2)]) (fun X x=>qZ.b5 Q (fun c d f=>b (c,d,f)) (fun ak al=>X (ak,al)) ac ad ae af x.1 x.2):=by intros; exact ⟨⟩
 have:∀ ag ah aj,LH 7 (fun x:Sl×Sl×Int=>[(3,(.pointer (some ag))),(4,(.pointer (some ah))),(6,.pointer aj),(7,Sl.val x.1),(8,Sl.val x.2.1),(9,.int .i64 x.2.2)]) (fun X x=>qZ.b2 Q (fun c d f=>X (c,d,f)) ag ah aj x.1 x.2.1 x.2.2):=fun _ _ _=>⟨⟩
 exact zM 118 h Tryz.func30
def zAj.b1 (Q:K) (j:Int→K) (k:Pt) (b:Sl) (a:Int): K :=
 Ite (decide (a < (b.n:Int)))
  (Dr<|
  Idx b a 5 fun c=>
  Idx b a 5 fun d=>
  Ld c Value.string fun f=>
  LdN (d.add 1) 4 fun g=>
  zP.call k f g<|
  Ar (IntKind.wrap .i64 (a + 1)) fun i=>
  j i)
  (Q)
def zAj (a:Pt) (b:Sl) (Q:K): K :=
 yJ (α:=Int) (fun X x=>zAj.b1 Q X a b x) 0
theorem zMs (b c Q w) (h:zAj b c Q w):zAj.call b c Q w:=by
 have:DH 3 1 [11] (.s [0,1,2,3,4,6,7,8,9,5,10] (.a [(11,0,.e)])):=⟨⟩
 have:∀ d f,LH 1 (fun x:Int=>[(0,.pointer d),(1,Sl.val f),(4,.int .i64 x)]) (fun X x=>zAj.b1 Q X d f x):=fun _ _=>⟨⟩
 exact zM 23 h Tryz.func31
def vO.s3 (Q:Bool→K) (b:Int→K) (f g:Addr) (c:Int) (d:Bool): K :=
 Ite d
  (Q false)
  (Ar (IntKind.wrap .i64 (c + 1)) fun a=>
  b a)
def vO.b2 (Q:Bool→K) (d:Int→K) (b c:Addr) (a:Int): K :=
 Ld (b.add 1) Sl.val fun f=>
 Ite (decide (a < (f.n:Int)))
  (Dr<|
  Ld (b.add 1) Sl.val fun g=>
  Idx g a 2 fun i=>
  Ld i Value.bool fun j=>
  Ld (c.add 1) Sl.val fun k=>
  Idx k a 2 fun l=>
  Ld l Value.bool fun m=>
  Ite (!(j == m))
   (vO.s3 Q d b c a true)
   (Ld (b.add 1) Sl.val fun o=>
   Idx o a 2 fun p=>
   Ld (p.add 1) Sl.val fun q=>
   Rd Tryz.prog (convert 85 9 (Sl.val q)) Value.string fun r=>
   Ld (c.add 1) Sl.val fun s=>
   Idx s a 2 fun t=>
   Ld (t.add 1) Sl.val fun u=>
   Rd Tryz.prog (convert 85 9 (Sl.val u)) Value.string fun v=>
   vO.s3 Q d b c a (!(r.toList == v.toList))))
  (Q true)
def vO.s1 (Q:Bool→K) (a b:Addr) (c:Bool): K :=
 Ite c
  (Q false)
  (yJ (α:=Int) (fun X x=>vO.b2 Q X a b x) 0)
def vO (i j:Av) (Q:Bool→K): K :=
 New 51 i fun a=>
 New 51 j fun b=>
 Ld a (Value.int .i64) fun c=>
 Ld b (Value.int .i64) fun d=>
 Ite (decide (c ≠ d))
  (vO.s1 Q a b true)
  (Ld (a.add 1) Sl.val fun f=>
  Ld (b.add 1) Sl.val fun g=>
  vO.s1 Q a b (decide ((f.n:Int) ≠ (g.n:Int))))
theorem zNk (g i Q w) (h:vO g i Q w):vO.call g i Q w:=by
 have:∀ j,XH 4 j→JH 7 fun D=>∃ a b c,D [(2,(.pointer (some a))),(3,(.pointer (some b))),(5,.int .i64 c)] (fun C=>∀ k,C [(2,(.pointer (some a))),(3,(.pointer (some b))),(5,.int .i64 c),(56,.bool k)] (vO.s3 Q j a b c k)):=by intros; exact ⟨fun _ ⟨_,_,_,h⟩=>⟨_,_,h⟩⟩
 have:∀ l m,LH 4 (fun x:Int=>[(2,(.pointer (some l))),(3,(.pointer (some m))),(5,.int .i64 x)]) (fun X x=>vO.b2 Q X l m x):=fun _ _=>⟨⟩
 have:JH 2 fun D=>∃ d f,D [(2,(.pointer (some d))),(3,(.pointer (some f)))] (fun C=>∀ n,C [(2,(.pointer (some d))),(3,(.pointer (some f))),(19,.bool n)] (vO.s1 Q d f n)):=⟨fun _ ⟨_,_,h⟩=>⟨_,_,h⟩⟩
 exact zM 57 h Tryz.func32
def ql.s1 (Q:Sl→Int→K): K :=
 New 180 #[] fun a=>
 Q (Sl.mk (some a) 0 0) 0
def ql.s2 (Q:Sl→Int→K) (b:Bool): K :=
 Ite b
  (New 180 #[] fun a=>
  Q (Sl.mk (some a) 0 0) 110)
  (ql.s1 Q)
def ql.s3 (Q:Sl→Int→K) (k:Pt) (a:Addr) (l:Int) (m:Bool): K :=
 Ite m
  (New 180 #[] fun b=>
  Q (Sl.mk (some b) 0 0) 110)
  (Ld (a.add 3) (Value.int .i64) fun c=>
  vP.call l c fun d f=>
  Ite (!f)
   (New 180 #[] fun g=>
   Q (Sl.mk (some g) 0 0) 111)
   (Dr <| yh fun S=>
   LdS S (a.add 1) Value.string fun i=>
   zAl.call d fun j=>
   Sv S<|
   zAR.call k i j<|
   ql.s1 Q))
def ql (d:Pt) (af:Av) (Q:Sl→Int→K): K :=
 New 123 af fun a=>
 Ld (a.add 1) Value.string fun g=>
 qm.call d g fun j=>
 New 87 #[.bool false,Sl.val ⟨none,0,0⟩,.int .i64 0,.int .u64 0] fun b=>
 StN b 4 j<|
 Ld a (Value.int .i64) fun c=>
 Ite (decide (c = 1))
  (Ld b Value.bool fun k=>
  Ld (b.add 1) Sl.val fun l=>
  Bld #[.bool false,Sl.val ⟨none,0,0⟩] (fun i=>some (i * 2,2)) [(0,(.agg #[.bool k,Sl.val l]))] fun m=>
  New 180 m fun n=>
  Q (Sl.mk (some n) 1 1) 0)
  (Ite (decide (c = 7))
   (Ld (a.add 2) Sl.val fun o=>
   Bld #[.bool false,Sl.val ⟨none,0,0⟩] (fun i=>some (i * 2,2)) [(0,(.agg #[.bool true,Sl.val o]))] fun p=>
   New 180 p fun q=>
   Q (Sl.mk (some q) 1 1) 0)
   (Ite (decide (c = 2))
    (Ld (a.add 1) Value.string fun r=>
    Ld (a.add 2) Sl.val fun s=>
    zAR.call d r s<|
    ql.s1 Q)
    (Ite (decide (c = 3))
     (Ld (a.add 1) Value.string fun t=>
     jr.call d t<|
     ql.s1 Q)
     (Ite (decide (c = 4))
      (Ld b Value.bool fun u=>
      Ite (!u)
       (ql.s2 Q true)
       (Ld (b.add 1) Sl.val fun v=>
       Rd Tryz.prog (convert 85 9 (Sl.val v)) Value.string fun x=>
       Ld (a.add 2) Sl.val fun y=>
       Rd Tryz.prog (convert 85 9 (Sl.val y)) Value.string fun z=>
       ql.s2 Q (!(x.toList == z.toList))))
      (Ite (decide (c = 5))
       (Ld b Value.bool fun aa=>
       Ite aa
        (New 180 #[] fun ab=>
        Q (Sl.mk (some ab) 0 0) 110)
        (ql.s1 Q))
       (Ld (b.add 1) Sl.val fun ac=>
       j5.call ac fun f ad=>
       Ld b Value.bool fun ae=>
       Ite ae
        (ql.s3 Q d a f (!ad))
        (ql.s3 Q d a f false)))))))
theorem zNl (f g Q w) (h:ql f g Q w):ql.call f g Q w:=by
 have:JH 24 fun D=>D [] (fun C=>C [] (ql.s1 Q)):=⟨fun _ h=>⟨_,_,h⟩⟩
 have:JH 20 fun D=>D [] (fun C=>∀ i,C [(87,.bool i)] (ql.s2 Q i)):=⟨fun _ h=>⟨_,_,h⟩⟩
 have:DH 9 2 [5] (.s [0,1,3,2] (.a [(4,1,.a [(5,0,.e)])])):=⟨⟩
 have:JH 5 fun D=>∃ b c d,D [(0,.pointer b),(3,(.pointer (some c))),(7,.int .i64 d)] (fun C=>∀ j,C [(0,.pointer b),(3,(.pointer (some c))),(7,.int .i64 d),(28,.bool j)] (ql.s3 Q b c d j)):=⟨fun _ ⟨_,_,_,h⟩=>⟨_,_,h⟩⟩
 exact zM 95 h Tryz.func73
def j5.b1 (Q:Int→Bool→K) (l:Int→Int→K) (m:Sl) (b a:Int): K :=
 Ite (decide (a < 8))
  (Ar (IntKind.wrap .u64 (b * 256)) fun c=>
  Idx m a 1 fun d=>
  Ld d (Value.int .u8) fun f=>
  Ar (IntKind.wrap .u64 f) fun g=>
  Ar (IntKind.wrap .u64 (c + g)) fun i=>
  Ar (IntKind.wrap .i64 (a + 1)) fun j=>
  l i j)
  (Ar (IntKind.wrap .i64 b) fun k=>
  Q k true)
def j5 (a:Sl) (Q:Int→Bool→K): K :=
 Ite (decide ((a.n:Int) ≠ 8))
  (Q 0 false)
  (yJ (α:=Int×Int) (fun X x=>j5.b1 Q (fun b c=>X (b,c)) a x.1 x.2) (0,0))
theorem zLJ (a Q w) (h:j5 a Q w):j5.call a Q w:=by
 have:∀ b,LH 5 (fun x:Int×Int=>[(0,Sl.val b),(4,.int .u64 x.1),(5,.int .i64 x.2)]) (fun X x=>j5.b1 Q (fun c d=>X (c,d)) b x.1 x.2):=fun _=>⟨⟩
 exact zM 23 h Tryz.func124
def vP.s1 (Q:Int→Bool→K) (a:Int) (b:Bool): K :=
 Ite b
  (Q 0 false)
  (Q a true)
def vP (b c:Int) (Q:Int→Bool→K): K :=
 Ar (IntKind.wrap .u64 b) fun d=>
 Ar (IntKind.wrap .u64 c) fun f=>
 Ar (IntKind.wrap .u64 (d + f)) fun g=>
 Ar (IntKind.wrap .i64 g) fun a=>
 Ite (decide ((0:Int) ≤ b))
  (Ite (decide ((0:Int) ≤ c))
   (Ite (decide (a < 0))
    (vP.s1 Q a true)
    (Ite (decide (b < 0))
     (Ite (decide (c < 0))
      (vP.s1 Q a (decide ((0:Int) ≤ a)))
      (vP.s1 Q a false))
     (vP.s1 Q a false)))
   (Ite (decide (b < 0))
    (Ite (decide (c < 0))
     (vP.s1 Q a (decide ((0:Int) ≤ a)))
     (vP.s1 Q a false))
    (vP.s1 Q a false)))
  (Ite (decide (b < 0))
   (Ite (decide (c < 0))
    (vP.s1 Q a (decide ((0:Int) ≤ a)))
    (vP.s1 Q a false))
   (vP.s1 Q a false))
theorem zQG (b c Q w) (h:vP b c Q w):vP.call b c Q w:=by
 have:JH 3 fun D=>∃ a,D [(6,.int .i64 a)] (fun C=>∀ d,C [(6,.int .i64 a),(34,.bool d)] (vP.s1 Q a d)):=⟨fun _ ⟨_,h⟩=>⟨_,_,h⟩⟩
 exact zM 36 h Tryz.func125
def zAl.b1 (Q:Sl→K) (k:Int→Int→K) (b:Sl) (c a:Int): K :=
 Ite (decide ((0:Int) ≤ a))
  (Cd ((256:Int) ≠ 0)<|
  Ar (Int.tmod c 256) fun d=>
  Ar (IntKind.wrap .u8 d) fun f=>
  Idx b a 1 fun g=>
  St g (.int .u8 f)<|
  Cd ((256:Int) ≠ 0)<|
  Ar (IntKind.wrap .u64 (Int.tdiv c 256)) fun i=>
  Ar (IntKind.wrap .i64 (a - 1)) fun j=>
  k i j)
  (Q b)
def zAl (f:Int) (Q:Sl→K): K :=
 Do Tryz.prog (Instr.makeSlice 85 (.int .i64 8) (.int .i64 8)) Sl.val fun a=>
 Ar (IntKind.wrap .u64 f) fun b=>
 yJ (α:=Int×Int) (fun X x=>zAl.b1 Q (fun c d=>X (c,d)) a x.1 x.2) (b,7)
theorem zMt (a Q w) (h:zAl a Q w):zAl.call a Q w:=by
 have:∀ b,LH 4 (fun x:Int×Int=>[(3,Sl.val b),(4,.int .u64 x.1),(5,.int .i64 x.2)]) (fun X x=>zAl.b1 Q (fun c d=>X (c,d)) b x.1 x.2):=fun _=>⟨⟩
 exact zM 22 h Tryz.func126
instance:AT Tryz.prog 37 4:=⟨by kernel_rfl⟩
instance:AT Tryz.prog 40 10:=⟨by kernel_rfl⟩
instance:CB Tryz.prog 66:=⟨by kernel_rfl⟩
instance:CB Tryz.prog 86:=⟨by kernel_rfl⟩
instance:CB Tryz.prog 92:=⟨by kernel_rfl⟩
instance:FT Tryz.prog 84 1 1 1:=⟨by kernel_rfl⟩
instance:FT Tryz.prog 84 2 2 1:=⟨by kernel_rfl⟩
instance:PLT Tryz.prog 40 [(0,4),(4,5),(9,1)]:=⟨_,Tryz.underlying40,by kernel_rfl⟩
instance:PLT Tryz.prog 84 [(0,1),(1,1),(2,1)]:=⟨_,Tryz.underlying84,by kernel_rfl⟩
instance:SZ Tryz.prog 40 10:=⟨by kernel_rfl⟩
instance:ZT Tryz.prog 40 (.agg #[(.int .i64 0),(.int .u64 0),(.int .u64 0),(.int .i64 0),(.int .i64 0),(Sl.val ⟨none,0,0⟩),(Sl.val ⟨none,0,0⟩),(Sl.val ⟨none,0,0⟩),(.int .i64 0),(Sl.val ⟨none,0,0⟩)]):=⟨Tryz.t40,by kernel_rfl,by kernel_rfl⟩
def zD5 (m:Pt) (n o:Av) (Q:Av→K): K :=
 New 37 n fun c=>
 New 25 o fun a=>
 New 40 #[.int .i64 0,.int .u64 0,.int .u64 0,.int .i64 0,.int .i64 0,Sl.val ⟨none,0,0⟩,Sl.val ⟨none,0,0⟩,Sl.val ⟨none,0,0⟩,.int .i64 0,Sl.val ⟨none,0,0⟩] fun b=>
 Dr <| yh fun S=>
 vY S c 4 fun d=>
 vY S a 5 fun f=>
 vY S a 5 fun g=>
 zBe.call f fun i=>
 Sv S<|
 zAk.call m g fun j=>
 Sv S<|
 Bld #[.int .i64 0,.int .u64 0,.int .u64 0,.int .i64 0,.int .i64 0,Sl.val ⟨none,0,0⟩,Sl.val ⟨none,0,0⟩,Sl.val ⟨none,0,0⟩,.int .i64 0,Sl.val ⟨none,0,0⟩] ([(0,4),(4,5),(9,1)][·]?) [(0,.agg d),(1,.agg i),(2,Sl.val j)] fun k=>
 StN b 10 k<|
 LdN b 10 fun l=>
 Q l
theorem zNm (b c d Q w) (h:zD5 b c d Q w):zD5.call b c d Q w:=by
 have:DH 1 2 [7] (.s [3,0,1,4] (.a [(2,1,.a [(5,1,.s [6] (.a [(7,0,.e)]))])])):=⟨⟩
 exact zM 14 h Tryz.func49
def zAk.b1 (Q:Sl→K) (p:Sl→Int→K) (q:Pt) (r:Sl) (s:Int) (d:Sl) (b:Int): K :=
 Ite (decide (b < s))
  (Idx r b 1 fun f=>
  Ld f Value.string fun c=>
  qE.call q c fun g=>
  New 87 #[.bool false,Sl.val ⟨none,0,0⟩,.int .i64 0,.int .u64 0] fun a=>
  StN a 4 g<|
  Ld (a.add 2) (Value.int .i64) fun j=>
  Ld (a.add 3) (Value.int .u64) fun k=>
  Bld #[(.string ⟨#[]⟩),.int .i64 0,.int .u64 0] (fun i=>some (i * 3,3)) [(0,(.agg #[.string c,.int .i64 j,.int .u64 k]))] fun l=>
  New 84 l fun m=>
  Do Tryz.prog (Builtin.append_ #[38,38] 38 #[Sl.val d,(Sl.val (Sl.mk (some m) 1 1))]) Sl.val fun n=>
  Ar (IntKind.wrap .i64 (b + 1)) fun o=>
  p n o)
  (Q d)
def zAk (g:Pt) (i:Av) (Q:Sl→K): K :=
 New 25 i fun b=>
 LdN b 5 fun c=>
 zDM.call c fun a=>
 yJ (α:=Sl×Int) (fun X x=>zAk.b1 Q (fun d f=>X (d,f)) g a (a.n:Int) x.1 x.2) ((Sl.mk none 0 0),0)
theorem zMu (a b Q w) (h:zAk a b Q w):zAk.call a b Q w:=by
 have:∀ c d f,LH 2 (fun x:Sl×Int=>[(0,.pointer c),(4,Sl.val x.1),(9,Sl.val d),(10,.int .i64 f),(11,.int .i64 x.2)]) (fun X x=>zAk.b1 Q (fun g i=>X (g,i)) c d f x.1 x.2):=fun _ _ _=>⟨⟩
 exact zM 29 h Tryz.func86
def jW.s1 (Q:Int→K) (a:Bool): K :=
 Ite a
  (Q 0)
  (Q 2)
def jW (k l:Av) (Q:Int→K): K :=
 New 87 k fun a=>
 New 84 l fun b=>
 Ld (b.add 2) (Value.int .u64) fun c=>
 Ld (a.add 3) (Value.int .u64) fun d=>
 Ite (decide (d < c))
  (Q 1)
  (Ld (b.add 2) (Value.int .u64) fun f=>
  Ld (a.add 3) (Value.int .u64) fun g=>
  Ite (decide (f = g))
   (Ld (b.add 1) (Value.int .i64) fun i=>
   Ld (a.add 2) (Value.int .i64) fun j=>
   jW.s1 Q (decide (i = j)))
   (jW.s1 Q false))
theorem zNn (a b Q w) (h:jW a b Q w):jW.call a b Q w:=by
 have:JH 4 fun D=>D [] (fun C=>∀ c,C [(11,.bool c)] (jW.s1 Q c)):=⟨fun _ h=>⟨_,_,h⟩⟩
 exact zM 24 h Tryz.func107
end
section
open Go Go.Sep
set_option maxHeartbeats 4000000
attribute [local irreducible] zOD
attribute [local irreducible] G Gp Cx Tx Ex Sx Dx Ox Ax Lx Rx Fx Bx Bj Al Do Ld LdN St StN New zL Ar DoU Rd Rd2 Pu Cd Ite Fv uF jk jD yO zAQ zDT zDq zD0 Ext Dead Dr yh Sv LdS vY RdS zEL Nn Idx zB0 zDp Fld Bld Slc zEM Cat All yJ jg jO jm
instance:AT Tryz.prog 84 3:=⟨by kernel_rfl⟩
instance:CB Tryz.prog 104:=⟨by kernel_rfl⟩
instance:CB Tryz.prog 105:=⟨by kernel_rfl⟩
instance:CB Tryz.prog 106:=⟨by kernel_rfl⟩
instance:CB Tryz.prog 107:=⟨by kernel_rfl⟩
instance:CB Tryz.prog 192:=⟨by kernel_rfl⟩
instance:CT Tryz.prog 130:=⟨by kernel_rfl⟩
instance:CT Tryz.prog 195:=⟨by kernel_rfl⟩
instance:CT Tryz.prog 196:=⟨by kernel_rfl⟩
instance:CT Tryz.prog 219:=⟨by kernel_rfl⟩
instance:CT Tryz.prog 222:=⟨by kernel_rfl⟩
instance:FT Tryz.prog 198 0 0 1:=⟨by kernel_rfl⟩
instance:FT Tryz.prog 198 1 1 1:=⟨by kernel_rfl⟩
instance:FT Tryz.prog 224 0 0 4:=⟨by kernel_rfl⟩
instance:FT Tryz.prog 224 1 4 3:=⟨by kernel_rfl⟩
instance:FT Tryz.prog 226 0 0 1:=⟨by kernel_rfl⟩
instance:FT Tryz.prog 226 1 1 1:=⟨by kernel_rfl⟩
instance:FT Tryz.prog 84 0 0 1:=⟨by kernel_rfl⟩
instance:PLT Tryz.prog 198 [(0,1),(1,1)]:=⟨_,Tryz.underlying198,by kernel_rfl⟩
instance:PLT Tryz.prog 224 [(0,4),(4,3)]:=⟨_,Tryz.underlying224,by kernel_rfl⟩
instance:PLT Tryz.prog 226 [(0,1),(1,1)]:=⟨_,Tryz.underlying226,by kernel_rfl⟩
instance:SZ Tryz.prog 219 1:=⟨by kernel_rfl⟩
instance:SZ Tryz.prog 222 1:=⟨by kernel_rfl⟩
instance:SZ Tryz.prog 84 3:=⟨by kernel_rfl⟩
instance:UN Tryz.prog 219 (.pointer 226):=⟨Tryz.underlying219⟩
instance:ZT Tryz.prog 198 (.agg #[(.map none),(.map none)]):=⟨Tryz.t198,by kernel_rfl,by kernel_rfl⟩
instance:ZT Tryz.prog 219 (.pointer none):=⟨Tryz.t219,by kernel_rfl,by kernel_rfl⟩
instance:ZT Tryz.prog 226 (.agg #[(Sl.val ⟨none,0,0⟩),(Sl.val ⟨none,0,0⟩)]):=⟨Tryz.t226,by kernel_rfl,by kernel_rfl⟩
def zD4  (Q:Pt→K): K :=
 Do Tryz.prog (Instr.makeMap 195 none) Value.map fun a=>
 Do Tryz.prog (Instr.makeMap 196 none) Value.map fun b=>
 New 198 #[.map a,.map b] fun c=>
 Q (some c)
theorem zQH (Q w) (h:zD4  Q w):zD4.call  Q w:=by
 exact zM 5 h Tryz.func47
def yH.s2 (Q:K) (b:Int→K) (d f:Pt) (g:Addr) (i:Sl) (j c:Int): K :=
 Ar (IntKind.wrap .i64 (c + 1)) fun a=>
 b a
def yH.s3 (Q:K) (c:Int→K) (d b:Pt) (a f:Addr) (p:Pt) (g:Sl) (j k:Int) (al:Bool): K :=
 Ite al
  (yH.s2 Q c d b a g j k)
  (Dr <| yh fun S=>
  LdS S f Value.string fun q=>
  vY S f 3 fun r=>
  qE.call b q fun s=>
  Sv S<|
  jW.call s r fun l=>
  Ite (decide (l = 0))
   (Dr <| yh fun S=>
   Nn p fun m=>
   LdS S m Sl.val fun t=>
   vY S a 4 fun u=>
   vY S f 3 fun v=>
   Bld #[.int .i64 0,.int .u64 0,.int .u64 0,.int .i64 0,(.string ⟨#[]⟩),.int .i64 0,.int .u64 0] ([(0,4),(4,3)][·]?) [(0,.agg u),(1,.agg v)] fun x=>
   Bld #[.int .i64 0,.int .u64 0,.int .u64 0,.int .i64 0,(.string ⟨#[]⟩),.int .i64 0,.int .u64 0] (fun i=>some (i * 7,7)) [(0,.agg x)] fun y=>
   New 224 y fun z=>
   Sv S<|
   Do Tryz.prog (Builtin.append_ #[222,222] 222 #[Sl.val t,(Sl.val (Sl.mk (some z) 1 1))]) Sl.val fun aa=>
   St m (Sl.val aa)<|
   yH.s2 Q c d b a g j k)
   (Ite (decide (l = 1))
    (Dr <| yh fun S=>
    Nn p fun n=>
    LdS S (n.add 1) Sl.val fun ab=>
    vY S a 4 fun ac=>
    vY S f 3 fun ad=>
    Bld #[.int .i64 0,.int .u64 0,.int .u64 0,.int .i64 0,(.string ⟨#[]⟩),.int .i64 0,.int .u64 0] ([(0,4),(4,3)][·]?) [(0,.agg ac),(1,.agg ad)] fun ae=>
    Bld #[.int .i64 0,.int .u64 0,.int .u64 0,.int .i64 0,(.string ⟨#[]⟩),.int .i64 0,.int .u64 0] (fun i=>some (i * 7,7)) [(0,.agg ae)] fun af=>
    New 224 af fun ag=>
    Sv S<|
    Do Tryz.prog (Builtin.append_ #[222,222] 222 #[Sl.val ab,(Sl.val (Sl.mk (some ag) 1 1))]) Sl.val fun ah=>
    St (n.add 1) (Sl.val ah)<|
    yH.s2 Q c d b a g j k)
    (Dr<|
    Nn d fun o=>
    Ld (o.add 1) Value.map fun aj=>
    LdN a 4 fun ak=>
    DoU Tryz.prog (Instr.mapUpdate 196 (.map aj) (.agg ak) (.int .i64 1))<|
    yH.s2 Q c (some o) b a g j k)))
def yH.b1 (Q:K) (j:Int→K) (f k:Pt) (c:Addr) (g:Sl) (i d:Int): K :=
 Ite (decide (d < i))
  (Idx g d 3 fun l=>
  LdN l 3 fun m=>
  New 84 #[(.string ⟨#[]⟩),.int .i64 0,.int .u64 0] fun a=>
  StN a 3 m<|
  Ld a Value.string fun n=>
  xP.call f n fun o=>
  Dr <| yh fun S=>
  Nn o fun b=>
  LdS S b Sl.val fun p=>
  vY S c 4 fun q=>
  zCJ.call q fun r=>
  Sv S<|
  yG.call p r fun s=>
  Sv S<|
  Ite s
   (yH.s3 Q j f k c a (some b) g i d true)
   (LdS S (b.add 1) Sl.val fun t=>
   vY S c 4 fun u=>
   zCJ.call u fun v=>
   Sv S<|
   yG.call t v fun x=>
   yH.s3 Q j f k c a (some b) g i d x))
  (Q)
def yH (c d:Pt) (f:Av) (a:Sl) (Q:K): K :=
 New 37 f fun b=>
 yJ (α:=Int) (fun X x=>yH.b1 Q X c d b a (a.n:Int) x) 0
theorem zHG (u v y z Q w) (h:yH u v y z Q w):yH.call u v y z Q w:=by
 have:∀ b,XH 2 b→JH 12 fun D=>∃ c d f g j k,D [(0,.pointer c),(1,.pointer d),(6,(.pointer (some f))),(11,Sl.val g),(12,.int .i64 j),(13,.int .i64 k)] (fun C=>C [(0,.pointer c),(1,.pointer d),(6,(.pointer (some f))),(11,Sl.val g),(12,.int .i64 j),(13,.int .i64 k)] (yH.s2 Q b c d f g j k)):=by intros; exact ⟨fun _ ⟨_,_,_,_,_,_,h⟩=>⟨_,_,h⟩⟩
 have:DH 9 2 [9,12] (.s [0,1,2,3,4,5,6,7] (.a [(8,1,.a [(9,0,.s [10,11] (.a [(12,0,.e)]))])])):=⟨⟩
 have:DH 11 2 [9,12] (.s [0,1,2,3,4,5,6,7] (.a [(8,1,.a [(9,0,.s [10,11] (.a [(12,0,.e)]))])])):=⟨⟩
 have:DH 7 1 [5] (.s [0,1,2,3,4] (.a [(5,0,.e)])):=⟨⟩
 have:DH 6 2 [5] (.s [0,1,2,4] (.a [(3,1,.a [(5,0,.e)])])):=⟨⟩
 have:∀ b,XH 2 b→JH 1000005 fun D=>∃ l m n o p q r t,D [(0,.pointer l),(1,.pointer m),(6,(.pointer (some n))),(9,(.pointer (some o))),(10,.pointer p),(11,Sl.val q),(12,.int .i64 r),(13,.int .i64 t)] (fun C=>∀ aa,C [(0,.pointer l),(1,.pointer m),(6,(.pointer (some n))),(9,(.pointer (some o))),(10,.pointer p),(11,Sl.val q),(12,.int .i64 r),(13,.int .i64 t),(36,.bool aa)] (yH.s3 Q b l m n o p q r t aa)):=by intros; exact ⟨fun _ ⟨_,_,_,_,_,_,_,_,h⟩=>⟨_,_,h⟩⟩
 have:DH 5 2 [14] (.s [0,1,2,3,4] (.a [(5,1,.a [(6,1,.s [7] (.i (.s [8,9,10,11,12,13,14,15] .e) (.s [8,9,10,11,12] (.a [(13,1,.a [(14,0,.s [15] .e)])]))))])])):=⟨⟩
 have:∀ ab ac ad ae af,LH 2 (fun x:Int=>[(0,.pointer ab),(1,.pointer ac),(6,(.pointer (some ad))),(11,Sl.val ae),(12,.int .i64 af),(13,.int .i64 x)]) (fun X x=>yH.b1 Q X ab ac ad ae af x):=fun _ _ _ _ _=>⟨⟩
 exact zM 77 h Tryz.func62
def jI (g:Pt) (i:Av) (Q:Bool→K): K :=
 New 37 i fun a=>
 Dr<|
 Nn g fun b=>
 Ld (b.add 1) Value.map fun c=>
 LdN a 4 fun d=>
 Rd Tryz.prog (Instr.lookup 196 (.map c) (.agg d) false) (Value.int .i64) fun f=>
 Q (decide ((0:Int) < f))
theorem zGj (a b Q w) (h:jI a b Q w):jI.call a b Q w:=by
 exact zM 12 h Tryz.func98
def qH.s2 (Q:Bool→K) (a:K) (c:Addr) (d:Pt) (b:Bool): K :=
 Ite b
  (Q false)
  (a)
def qH.b1 (Q:Bool→K) (d:K) (a:Addr) (b:Pt): K :=
 Do Tryz.prog (Instr.next (.pointer b) false 0) id fun f=>
 Ext f 0 Value.bool fun g=>
 Ite g
  (Do Tryz.prog (Instr.entry (.pointer b)) id fun i=>
  Ext i 1 Value.pointer fun j=>
  Dr <| yh fun S=>
  Nn j fun c=>
  LdS S (c.add 1) Sl.val fun k=>
  vY S a 4 fun l=>
  zCJ.call l fun m=>
  Sv S<|
  yG.call k m fun n=>
  Sv S<|
  Ite n
   (qH.s2 Q d a b true)
   (LdS S c Sl.val fun o=>
   vY S a 4 fun p=>
   zCJ.call p fun q=>
   Sv S<|
   zV.call o q fun r=>
   qH.s2 Q d a b (decide ((0:Int) < r))))
  (Q true)
def qH (f:Pt) (g:Av) (Q:Bool→K): K :=
 New 37 g fun a=>
 Nn f fun b=>
 Ld b Value.map fun c=>
 Do Tryz.prog (Instr.range 195 (.map c)) Value.pointer fun d=>
 yJ (α:=Unit) (fun X x=>qH.b1 Q (X ()) a d) ()
theorem zHH (d f Q w) (h:qH d f Q w):qH.call d f Q w:=by
 have:∀ g,XH 2 g→JH 5 fun D=>∃ b c,D [(3,(.pointer (some b))),(11,.pointer c)] (fun C=>∀ j,C [(3,(.pointer (some b))),(11,.pointer c),(32,.bool j)] (qH.s2 Q (g ()) b c j)):=by intros; exact ⟨fun _ ⟨_,_,h⟩=>⟨_,_,h⟩⟩
 have:DH 4 2 [14] (.s [0,1,2,3,4] (.a [(5,1,.a [(6,1,.s [7] (.i (.s [8,9,10,11,12,13,14,15,16] .e) (.s [8,9,10,11,12] (.a [(13,1,.a [(14,0,.s [15,16] .e)])]))))])])):=⟨⟩
 have:∀ k l,LH 2 (fun x:Unit=>[(3,(.pointer (some k))),(11,.pointer l)]) (fun X x=>qH.b1 Q (X ()) k l):=fun _ _=>⟨⟩
 exact zM 33 h Tryz.func99
def xP.s1 (Q:Pt→K) (d:Pt) (f:ByteArray): K :=
 Nn d fun a=>
 Ld a Value.map fun b=>
 Rd Tryz.prog (Instr.lookup 195 (.map b) (.string f) false) Value.pointer fun c=>
 Q c
def xP (i:Pt) (b:ByteArray) (Q:Pt→K): K :=
 Nn i fun a=>
 Ld a Value.map fun c=>
 Rd Tryz.prog (Instr.lookup 195 (.map c) (.string b) false) Value.pointer fun d=>
 Ite ((d).isNone)
  (Ld a Value.map fun f=>
  New 226 #[Sl.val ⟨none,0,0⟩,Sl.val ⟨none,0,0⟩] fun g=>
  DoU Tryz.prog (Instr.mapUpdate 195 (.map f) (.string b) (.pointer (some g)))<|
  xP.s1 Q (some a) b)
  (xP.s1 Q (some a) b)
theorem zIM (c d Q w) (h:xP c d Q w):xP.call c d Q w:=by
 have:JH 3 fun D=>∃ a b,D [(0,.pointer a),(1,.string b)] (fun C=>C [(0,.pointer a),(1,.string b)] (xP.s1 Q a b)):=⟨fun _ ⟨_,_,h⟩=>⟨_,_,h⟩⟩
 exact zM 25 h Tryz.func104
def zCJ (b:Av) (Q:Value→K): K :=
 New 37 b fun a=>
 Q (.func (.func 160) #[] #[(.pointer (some a))])
theorem zRh (a Q w) (h:zCJ a Q w):zCJ.call a Q w:=by
 exact zM 4 h Tryz.func106
def y5.b1 (Q t:K) (u b:Addr) (c:Pt): K :=
 Do Tryz.prog (Instr.next (.pointer c) false 0) id fun d=>
 Ext d 0 Value.bool fun f=>
 Ite f
  (Do Tryz.prog (Instr.entry (.pointer c)) id fun g=>
  Ext g 1 Value.pointer fun i=>
  Dr <| yh fun S=>
  Nn i fun a=>
  LdS S a Sl.val fun j=>
  vY S b 4 fun k=>
  zCJ.call k fun l=>
  Sv S<|
  zJ.call j l fun m=>
  St a (Sl.val m)<|
  Dr <| yh fun S=>
  LdS S (a.add 1) Sl.val fun n=>
  vY S b 4 fun o=>
  zCJ.call o fun p=>
  Sv S<|
  zJ.call n p fun q=>
  St (a.add 1) (Sl.val q)<|
  t)
  (Dr<|
  Ld (u.add 1) Value.map fun r=>
  LdN b 4 fun s=>
  Do Tryz.prog (Builtin.delete_ #[196,37] 0 #[.map r,.agg s]) id fun _=>
  Q)
def y5 (f:Pt) (g:Av) (Q:K): K :=
 New 37 g fun b=>
 Nn f fun a=>
 Ld a Value.map fun c=>
 Do Tryz.prog (Instr.range 195 (.map c)) Value.pointer fun d=>
 yJ (α:=Unit) (fun X x=>y5.b1 Q (X ()) a b d) ()
theorem zHI (b c Q w) (h:y5 b c Q w):y5.call b c Q w:=by
 have:DH 5 2 [7,10] (.s [0,1,2,3,4,5] (.a [(6,1,.a [(7,0,.s [8,9] (.a [(10,0,.e)]))])])):=⟨⟩
 have:DH 4 2 [7,10] (.s [0,1,2,3,4,5] (.a [(6,1,.a [(7,0,.s [8,9] (.a [(10,0,.e)]))])])):=⟨⟩
 have:DH 6 1 [5] (.s [0,1,2,3,4] (.a [(5,0,.e)])):=⟨⟩
 have:∀ d f g,LH 2 (fun x:Unit=>[(0,(.pointer (some d))),(3,(.pointer (some f))),(10,.pointer g)]) (fun X x=>y5.b1 Q (X ()) d f g):=fun _ _ _=>⟨⟩
 exact zM 40 h Tryz.func156
theorem zGk (b c Q w) (h:y5 b c Q w):y5.zUI b c Q w:=by
 have:DH 5 2 [7,10] (.s [0,1,2,3,4,5] (.a [(6,1,.a [(7,0,.s [8,9] (.a [(10,0,.e)]))])])):=⟨⟩
 have:DH 4 2 [7,10] (.s [0,1,2,3,4,5] (.a [(6,1,.a [(7,0,.s [8,9] (.a [(10,0,.e)]))])])):=⟨⟩
 have:DH 6 1 [5] (.s [0,1,2,3,4] (.a [(5,0,.e)])):=⟨⟩
 have:∀ d f g,LH 2 (fun x:Unit=>[(0,(.pointer (some d))),(3,(.pointer (some f))),(10,.pointer g)]) (fun X x=>y5.b1 Q (X ()) d f g):=fun _ _ _=>⟨⟩
 exact zZC 40 h Tryz.func156
def qV.s2 (Q:K) (b:Int→K) (d f g:Addr) (i:Sl) (j c:Int): K :=
 Ar (IntKind.wrap .i64 (c + 1)) fun a=>
 b a
def qV.b1 (Q:K) (j:Int→K) (b a c:Addr) (g:Sl) (i d:Int): K :=
 Ite (decide (d < i))
  (Idx g d 7 fun k=>
  LdN k 7 fun l=>
  New 224 #[.int .i64 0,.int .u64 0,.int .u64 0,.int .i64 0,(.string ⟨#[]⟩),.int .i64 0,.int .u64 0] fun f=>
  StN f 7 l<|
  LdN c 4 fun m=>
  LdN (f.add 4) 3 fun n=>
  jW.call m n fun o=>
  Ite (decide (o ≠ 0))
   (Dr<|
   Ld b Value.pointer fun p=>
   Nn p fun q=>
   Ld (q.add 1) Value.map fun r=>
   LdN f 4 fun s=>
   DoU Tryz.prog (Instr.mapUpdate 196 (.map r) (.agg s) (.int .i64 1))<|
   qV.s2 Q j b a c g i d)
   (qV.s2 Q j b a c g i d))
  (Dr <| yh fun S=>
  LdS S a Value.pointer fun t=>
  LdS S a Value.pointer fun u=>
  Nn u fun v=>
  LdS S (v.add 1) Sl.val fun x=>
  zJ.call x (.func (.func 200) #[] #[(.pointer (some c)),(.pointer (some a)),(.pointer (some b))]) fun y=>
  Sv S<|
  Nn t fun z=>
  St (z.add 1) (Sl.val y)<|
  Q)
def qV (m o:Pt) (f:ByteArray) (Q:K): K :=
 New 130 #[.pointer m] fun b=>
 Ld b Value.pointer fun g=>
 xP.call g f fun i=>
 qE.call o f fun j=>
 New 219 #[.pointer none] fun a=>
 New 87 #[.bool false,Sl.val ⟨none,0,0⟩,.int .i64 0,.int .u64 0] fun c=>
 St a (.pointer i)<|
 StN c 4 j<|
 Ld a Value.pointer fun k=>
 Nn k fun l=>
 Ld l Sl.val fun d=>
 yJ (α:=Int) (fun X x=>qV.b1 Q X b a c d (d.n:Int) x) 0
theorem zHJ (j k l Q w) (h:qV j k l Q w):qV.call j k l Q w:=by
 have:∀ m,XH 3 m→JH 7 fun D=>∃ b c d f g i,D [(3,(.pointer (some b))),(6,(.pointer (some c))),(7,(.pointer (some d))),(19,Sl.val f),(20,.int .i64 g),(21,.int .i64 i)] (fun C=>C [(3,(.pointer (some b))),(6,(.pointer (some c))),(7,(.pointer (some d))),(19,Sl.val f),(20,.int .i64 g),(21,.int .i64 i)] (qV.s2 Q m b c d f g i)):=by intros; exact ⟨fun _ ⟨_,_,_,_,_,_,h⟩=>⟨_,_,h⟩⟩
 have:DH 6 1 [6] (.s [4,0,1,2,3,5] (.a [(6,0,.e)])):=⟨⟩
 have:DH 8 2 [9] (.s [5,0,1,2,3,4] (.a [(6,1,.s [7,8] (.a [(9,0,.e)]))])):=⟨⟩
 have:∀ n o p q r,LH 3 (fun x:Int=>[(3,(.pointer (some n))),(6,(.pointer (some o))),(7,(.pointer (some p))),(19,Sl.val q),(20,.int .i64 r),(21,.int .i64 x)]) (fun X x=>qV.b1 Q X n o p q r x):=fun _ _ _ _ _=>⟨⟩
 exact zM 46 h Tryz.func159
def zGB (f:Av) (g:Addr) (Q:Bool→K): K :=
 New 224 f fun c=>
 LdN c 4 fun a=>
 LdN g 4 fun b=>
 Pu Tryz.prog (do eqGuard .eql 37 (.tmp 5) (.tmp 6) (.agg a) (.agg b); binOp .eql 37 (.agg a) (.agg b):Sem Value) Value.bool fun d=>
 Q d
theorem zNo (a b Q w) (h:zGB a b Q w):zGB.call a b Q w:=by
 exact zM 8 h Tryz.func160
def qo.s1 (Q:Bool→K) (a:Int): K :=
 Q (decide (a ≠ 1))
def qo (v:Av) (x c y:Addr) (Q:Bool→K): K :=
 New 224 v fun b=>
 LdN x 4 fun d=>
 LdN (b.add 4) 3 fun f=>
 jW.call d f fun a=>
 Ite (decide (a = 0))
  (Dr <| yh fun S=>
  LdS S c Value.pointer fun g=>
  LdS S c Value.pointer fun j=>
  Nn j fun k=>
  LdS S k Sl.val fun l=>
  vY S b 7 fun m=>
  Bld #[.int .i64 0,.int .u64 0,.int .u64 0,.int .i64 0,(.string ⟨#[]⟩),.int .i64 0,.int .u64 0] (fun i=>some (i * 7,7)) [(0,.agg m)] fun n=>
  New 224 n fun o=>
  Sv S<|
  Do Tryz.prog (Builtin.append_ #[222,222] 222 #[Sl.val l,(Sl.val (Sl.mk (some o) 1 1))]) Sl.val fun p=>
  Sv S<|
  Nn g fun q=>
  St q (Sl.val p)<|
  qo.s1 Q a)
  (Ite (decide (a = 2))
   (Dr<|
   Ld y Value.pointer fun r=>
   Nn r fun s=>
   Ld (s.add 1) Value.map fun t=>
   LdN b 4 fun u=>
   DoU Tryz.prog (Instr.mapUpdate 196 (.map t) (.agg u) (.int .i64 1))<|
   qo.s1 Q a)
   (qo.s1 Q a))
theorem zGH (c d f g Q w) (h:qo c d f g Q w):qo.call c d f g Q w:=by
 have:JH 7 fun D=>∃ b,D [(6,.int .i64 b)] (fun C=>C [(6,.int .i64 b)] (qo.s1 Q b)):=⟨fun _ ⟨_,h⟩=>⟨_,_,h⟩⟩
 have:DH 4 2 [10] (.s [0,1,2,3,4,5] (.a [(6,1,.a [(7,1,.s [8,9] (.a [(10,0,.e)]))])])):=⟨⟩
 have:DH 6 1 [6] (.s [4,0,1,2,3,5] (.a [(6,0,.e)])):=⟨⟩
 exact zM 34 h Tryz.func200
end
section
open Go Go.Sep
set_option maxHeartbeats 4000000
attribute [local irreducible] G Gp Cx Tx Ex Sx Dx Ox Ax Lx Rx Fx Bx Bj Al Do Ld LdN St StN New zL Ar DoU Rd Rd2 Pu Cd Ite Fv uF jk jD yO zAQ zDT zDq zD0 Ext Dead Dr yh Sv LdS vY RdS zEL Nn Idx zB0 zDp Fld Bld Slc zEM Cat All yJ jg jO jm
instance:CB Tryz.prog 114:=⟨by kernel_rfl⟩
instance:CB Tryz.prog 116:=⟨by kernel_rfl⟩
instance:CB Tryz.prog 117:=⟨by kernel_rfl⟩
instance:CB Tryz.prog 118:=⟨by kernel_rfl⟩
instance:CB Tryz.prog 119:=⟨by kernel_rfl⟩
instance:CB Tryz.prog 151:=⟨by kernel_rfl⟩
instance:CB Tryz.prog 153:=⟨by kernel_rfl⟩
instance:CB Tryz.prog 168:=⟨by kernel_rfl⟩
instance:CB Tryz.prog 169:=⟨by kernel_rfl⟩
instance:CB Tryz.prog 171:=⟨by kernel_rfl⟩
instance:ZT Tryz.prog 22 (Sl.val ⟨none,0,0⟩):=⟨Tryz.t22,by kernel_rfl,by kernel_rfl⟩
def qg.s2 (Q:Int→K) (a:Bool): K :=
 Ite (!a)
  (Q 1)
  (Q 0)
def qg.s1 (Q:Int→K) (p:Int) (a:Addr) (c:Bool): K :=
 Ld a (Value.int .i64) fun b=>
 Ite (decide (b = 1))
  (Ite c
   (Ld (a.add 4) (Value.int .i64) fun d=>
   Ite (decide (d = 0))
    (Ld (a.add 3) Sl.val fun f=>
    Ite (decide ((f.n:Int) ≤ 16))
     (Ld (a.add 3) Sl.val fun g=>
     xJ.call g (.func (.func 115) #[] #[(.pointer (some a))]) fun i=>
     qg.s2 Q (!i))
     (qg.s2 Q false))
    (qg.s2 Q false))
   (qg.s2 Q false))
  (Ite (decide (b = 2))
   (Ite c
    (Ld (a.add 1) Sl.val fun j=>
    Ite (decide ((j.n:Int) = 0))
     (Ld (a.add 3) Sl.val fun k=>
     Ite (decide ((k.n:Int) = 0))
      (Ld (a.add 2) Sl.val fun l=>
      Ite (decide ((l.n:Int) = 1))
       (Ld (a.add 4) (Value.int .i64) fun m=>
       Ite (decide ((0:Int) ≤ m))
        (Ld (a.add 4) (Value.int .i64) fun o=>
        qg.s2 Q (decide (o < p)))
        (qg.s2 Q false))
       (qg.s2 Q false))
      (qg.s2 Q false))
     (qg.s2 Q false))
    (qg.s2 Q false))
   (qg.s2 Q false))
def qg (f:Av) (a:Int) (Q:Int→K): K :=
 New 25 f fun b=>
 Ite (decide ((1:Int) ≤ a))
  (Ite (decide (a ≤ 3))
   (LdN b 5 fun c=>
   vG.call c fun d=>
   qg.s1 Q a b d)
   (qg.s1 Q a b false))
  (qg.s1 Q a b false)
theorem zNp (c d Q w) (h:qg c d Q w):qg.call c d Q w:=by
 have:JH 9 fun D=>D [] (fun C=>∀ f,C [(5,.bool f)] (qg.s2 Q f)):=⟨fun _ h=>⟨_,_,h⟩⟩
 have:JH 2 fun D=>∃ a b,D [(1,.int .i64 a),(2,(.pointer (some b)))] (fun C=>∀ g,C [(1,.int .i64 a),(2,(.pointer (some b))),(5,.bool g)] (qg.s1 Q a b g)):=⟨fun _ ⟨_,_,h⟩=>⟨_,_,h⟩⟩
 exact zM 75 h Tryz.func65
def zBe.b1 (Q:Av→K) (p:Int→K) (c d:Addr) (q:Sl) (r a:Int): K :=
 Ite (decide (a < r))
  (Idx q a 4 fun f=>
  LdN f 4 fun g=>
  New 123 #[.int .i64 0,(.string ⟨#[]⟩),Sl.val ⟨none,0,0⟩,.int .i64 0] fun b=>
  StN b 4 g<|
  Dr <| yh fun S=>
  LdS S (c.add 3) Sl.val fun i=>
  LdS S (b.add 2) Sl.val fun j=>
  vK.call j fun k=>
  Sv S<|
  Idx i a 4 fun l=>
  St (l.add 2) (Sl.val k)<|
  Ar (IntKind.wrap .i64 (a + 1)) fun m=>
  p m)
  (LdN c 5 fun n=>
  StN d 5 n<|
  LdN d 5 fun o=>
  Q o)
def zBe (l:Av) (Q:Av→K): K :=
 New 25 l fun a=>
 New 25 #[.int .i64 0,Sl.val ⟨none,0,0⟩,Sl.val ⟨none,0,0⟩,Sl.val ⟨none,0,0⟩,.int .i64 0] fun c=>
 Dr <| yh fun S=>
 LdS S (a.add 1) Sl.val fun d=>
 LdS S (a.add 2) Sl.val fun f=>
 LdS S (a.add 3) Sl.val fun g=>
 xA.call d fun i=>
 Sv S<|
 xA.call f fun j=>
 Sv S<|
 xw.call g fun k=>
 St (a.add 1) (Sl.val i)<|
 St (a.add 2) (Sl.val j)<|
 St (a.add 3) (Sl.val k)<|
 Ld (a.add 3) Sl.val fun b=>
 yJ (α:=Int) (fun X x=>zBe.b1 Q X a c b (b.n:Int) x) 0
theorem zQI (b Q w) (h:zBe b Q w):zBe.call b Q w:=by
 have:DH 5 2 [8] (.s [0,2,3,1,4] (.a [(5,1,.s [6,7] (.a [(8,0,.e)]))])):=⟨⟩
 have:∀ c d f g,LH 3 (fun x:Int=>[(1,(.pointer (some c))),(2,(.pointer (some d))),(18,Sl.val f),(19,.int .i64 g),(20,.int .i64 x)]) (fun X x=>zBe.b1 Q X c d f g x):=fun _ _ _ _=>⟨⟩
 have:DH 1 2 [8,10,12,14] (.s [0,3,6,1,4,7] (.a [(2,1,.s [9] (.a [(5,1,.a [(8,0,.a [(10,0,.s [11] (.a [(12,0,.s [13] (.a [(14,0,.e)]))]))])])]))])):=⟨⟩
 exact zM 35 h Tryz.func66
def zDM (i:Av) (Q:Sl→K): K :=
 New 25 i fun a=>
 Ld (a.add 1) Sl.val fun c=>
 Ld (a.add 2) Sl.val fun d=>
 New 22 #[Sl.val c,Sl.val d] fun f=>
 zW.call (Sl.mk (some f) 2 2) fun b=>
 uH.call b<|
 zS.call b fun g=>
 Q g
theorem zQJ (a Q w) (h:zDM a Q w):zDM.call a Q w:=by
 exact zM 14 h Tryz.func92
def vG.s1 (Q:Bool→K) (a:Addr) (d:Bool): K :=
 Ite d
  (Q false)
  (Ld (a.add 1) Sl.val fun b=>
  xK.call b (.func (.func 170) #[] #[(.pointer (some a))]) fun c=>
  Q (!c))
def vG (l:Av) (Q:Bool→K): K :=
 New 25 l fun a=>
 Ld (a.add 1) Sl.val fun b=>
 Ite (decide ((8:Int) < (b.n:Int)))
  (vG.s1 Q a true)
  (Ld (a.add 2) Sl.val fun c=>
  Ld (a.add 1) Sl.val fun d=>
  Ar (IntKind.wrap .i64 (8 - (d.n:Int))) fun f=>
  Ite (decide (f < (c.n:Int)))
   (vG.s1 Q a true)
   (Ld (a.add 1) Sl.val fun g=>
   vH.call g fun i=>
   Ite (!i)
    (vG.s1 Q a true)
    (Ld (a.add 2) Sl.val fun j=>
    vH.call j fun k=>
    vG.s1 Q a (!k))))
theorem zKO (b Q w) (h:vG b Q w):vG.call b Q w:=by
 have:JH 2 fun D=>∃ a,D [(1,(.pointer (some a)))] (fun C=>∀ c,C [(1,(.pointer (some a))),(28,.bool c)] (vG.s1 Q a c)):=⟨fun _ ⟨_,h⟩=>⟨_,_,h⟩⟩
 exact zM 34 h Tryz.func114
def zEs (f:Av) (g:Addr) (Q:Bool→K): K :=
 New 123 f fun a=>
 LdN g 5 fun b=>
 LdN a 4 fun c=>
 yg.call b c fun d=>
 Q (!d)
theorem zLK (a b Q w) (h:zEs a b Q w):zEs.call a b Q w:=by
 exact zM 8 h Tryz.func115
def yg.s4 (Q:Bool→K) (a:Bool): K :=
 Q a
def yg.s6 (Q:Bool→K) (a:Bool): K :=
 Q a
def yg.s5 (Q:Bool→K) (a:Addr) (d:Bool) (f:Int) (g:Bool): K :=
 Ite g
  (Ite d
   (Ld (a.add 2) Sl.val fun b=>
   yg.s6 Q (decide ((b.n:Int) = 0)))
   (yg.s6 Q false))
  (Ite (decide (f = 7))
   (Ld (a.add 1) Value.string fun c=>
   Q (c.toList == (⟨#[]⟩:ByteArray).toList))
   (Q false))
def yg.s3 (Q:Bool→K) (b:Addr) (f c:Bool) (a:Int) (g:Bool): K :=
 Ite g
  (Ite f
   (Ld (b.add 2) Sl.val fun d=>
   yg.s4 Q (decide ((d.n:Int) = 0)))
   (yg.s4 Q false))
  (Ite (decide (a = 4))
   (Q c)
   (Ite (decide (a = 1))
    (yg.s5 Q b c a (decide (a = 1)))
    (yg.s5 Q b c a (decide (a = 5)))))
def yg.s2 (Q:Bool→K) (b:Addr) (c d:Bool): K :=
 Ld b (Value.int .i64) fun a=>
 Ite (decide (a = 2))
  (Q c)
  (Ite (decide (a = 3))
   (yg.s3 Q b c d a (decide (a = 3)))
   (yg.s3 Q b c d a (decide (a = 6))))
def yg.s1 (Q:Bool→K) (b a:Addr) (k:Bool): K :=
 Ite k
  (Q false)
  (Ld (b.add 2) Sl.val fun c=>
  Ld (a.add 1) Value.string fun d=>
  qD.call c d fun f=>
  Ite f
   (yg.s2 Q a true true)
   (Ld (b.add 1) Sl.val fun g=>
   Ld (a.add 1) Value.string fun i=>
   qD.call g i fun j=>
   yg.s2 Q a false j))
def yg (g i:Av) (Q:Bool→K): K :=
 New 25 g fun b=>
 New 123 i fun a=>
 Ld (a.add 2) Sl.val fun c=>
 Ite (decide ((32:Int) < (c.n:Int)))
  (yg.s1 Q b a true)
  (Ld (a.add 3) (Value.int .i64) fun d=>
  Ite (decide (d ≠ 0))
   (Ld a (Value.int .i64) fun f=>
   yg.s1 Q b a (decide (f ≠ 6)))
   (yg.s1 Q b a false))
theorem zQK (j k Q w) (h:yg j k Q w):yg.call j k Q w:=by
 have:JH 1000010 fun D=>D [] (fun C=>∀ l,C [(4,.bool l)] (yg.s4 Q l)):=⟨fun _ h=>⟨_,_,h⟩⟩
 have:JH 1000015 fun D=>D [] (fun C=>∀ m,C [(4,.bool m)] (yg.s6 Q m)):=⟨fun _ h=>⟨_,_,h⟩⟩
 have:JH 15 fun D=>∃ a b,D [(3,(.pointer (some a))),(35,.int .i64 b)] (fun C=>∀ n o,C [(3,(.pointer (some a))),(6,.bool n),(35,.int .i64 b),(52,.bool o)] (yg.s5 Q a n b o)):=⟨fun _ ⟨_,_,h⟩=>⟨_,_,h⟩⟩
 have:JH 10 fun D=>∃ c d,D [(3,(.pointer (some c))),(35,.int .i64 d)] (fun C=>∀ p q r,C [(3,(.pointer (some c))),(5,.bool p),(6,.bool q),(35,.int .i64 d),(39,.bool r)] (yg.s3 Q c p q d r)):=⟨fun _ ⟨_,_,h⟩=>⟨_,_,h⟩⟩
 have:JH 5 fun D=>∃ f,D [(3,(.pointer (some f)))] (fun C=>∀ s t,C [(3,(.pointer (some f))),(5,.bool s),(6,.bool t)] (yg.s2 Q f s t)):=⟨fun _ ⟨_,h⟩=>⟨_,_,h⟩⟩
 have:JH 2 fun D=>∃ g i,D [(2,(.pointer (some g))),(3,(.pointer (some i)))] (fun C=>∀ u,C [(2,(.pointer (some g))),(3,(.pointer (some i))),(20,.bool u)] (yg.s1 Q g i u)):=⟨fun _ ⟨_,_,h⟩=>⟨_,_,h⟩⟩
 exact zM 67 h Tryz.func116
def vH.s2 (Q:Bool→K) (b:Int→K) (f g:Sl) (i c:Int) (d:Bool): K :=
 Ite d
  (Q false)
  (Ar (IntKind.wrap .i64 (c + 1)) fun a=>
  b a)
def vH.b1 (Q:Bool→K) (f:Int→K) (b c:Sl) (d a:Int): K :=
 Ite (decide (a < d))
  (Idx c a 1 fun i=>
  Ld i Value.string fun g=>
  Ite (g.toList == (⟨#[]⟩:ByteArray).toList)
   (vH.s2 Q f b c d a true)
   (Ite (decide ((16:Int) < (g.size:Int)))
    (vH.s2 Q f b c d a true)
    (Ite (decide ((0:Int) < a))
     (Ar (IntKind.wrap .i64 (a - 1)) fun j=>
     Idx b j 1 fun k=>
     Ld k Value.string fun l=>
     vH.s2 Q f b c d a (!(Op.bytesLess l.toList g.toList)))
     (vH.s2 Q f b c d a false))))
  (Q true)
def vH (a:Sl) (Q:Bool→K): K :=
 yJ (α:=Int) (fun X x=>vH.b1 Q X a a (a.n:Int) x) 0
theorem zNq (f Q w) (h:vH f Q w):vH.call f Q w:=by
 have:∀ g,XH 2 g→JH 5 fun D=>∃ a b c d,D [(0,Sl.val a),(5,Sl.val b),(6,.int .i64 c),(7,.int .i64 d)] (fun C=>∀ i,C [(0,Sl.val a),(5,Sl.val b),(6,.int .i64 c),(7,.int .i64 d),(31,.bool i)] (vH.s2 Q g a b c d i)):=by intros; exact ⟨fun _ ⟨_,_,_,_,h⟩=>⟨_,_,h⟩⟩
 have:∀ j k l,LH 2 (fun x:Int=>[(0,Sl.val j),(5,Sl.val k),(6,.int .i64 l),(7,.int .i64 x)]) (fun X x=>vH.b1 Q X j k l x):=fun _ _ _=>⟨⟩
 exact zM 33 h Tryz.func168
def zDD (c:ByteArray) (d:Addr) (Q:Bool→K): K :=
 Ld (d.add 2) Sl.val fun a=>
 qD.call a c fun b=>
 Q b
theorem zIu (a b Q w) (h:zDD a b Q w):zDD.call a b Q w:=by
 exact zM 8 h Tryz.func170
instance:CB Tryz.prog 146:=⟨by kernel_rfl⟩
instance:CB Tryz.prog 150:=⟨by kernel_rfl⟩
instance:FT Tryz.prog 207 0 0 1:=⟨by kernel_rfl⟩
def zBw (d:Pt) (Q:Sl→K): K :=
 Nn d fun a=>
 Ld a Sl.val fun b=>
 uy.call b fun c=>
 Q c
theorem zKP (a Q w) (h:zBw a Q w):zBw.call a Q w:=by
 exact zM 8 h Tryz.func91
def xV.b1 (Q:K) (q:Int→K) (d:Pt) (a:Int): K :=
 Ite (decide ((128:Int) ≤ a))
  (Nn d fun b=>
  Ld b Sl.val fun f=>
  Ar (IntKind.wrap .u8 a) fun g=>
  Ar (bitsOf .or .u8 g 128) fun i=>
  New 5 #[.int .u8 i] fun j=>
  Do Tryz.prog (Builtin.append_ #[85,85] 85 #[Sl.val f,(Sl.val (Sl.mk (some j) 1 1))]) Sl.val fun k=>
  St b (Sl.val k)<|
  Cd (0 ≤ (7:Int))<|
  Ar (zGv .u64 a 7) fun l=>
  q l)
  (Nn d fun c=>
  Ld c Sl.val fun m=>
  Ar (IntKind.wrap .u8 a) fun n=>
  New 5 #[.int .u8 n] fun o=>
  Do Tryz.prog (Builtin.append_ #[85,85] 85 #[Sl.val m,(Sl.val (Sl.mk (some o) 1 1))]) Sl.val fun p=>
  St c (Sl.val p)<|
  Q)
def xV (a:Pt) (b:Int) (Q:K): K :=
 yJ (α:=Int) (fun X x=>xV.b1 Q X a x) b
theorem zLL (a b Q w) (h:xV a b Q w):xV.call a b Q w:=by
 have:∀ c,LH 0 (fun x:Int=>[(0,.pointer c),(1,.int .u64 x)]) (fun X x=>xV.b1 Q X c x):=fun _=>⟨⟩
 exact zM 31 h Tryz.func146
def j6 (b:Pt) (c:Sl) (Q:K): K :=
 Ar (IntKind.wrap .u64 (c.n:Int)) fun d=>
 xV.call b d<|
 Nn b fun a=>
 Ld a Sl.val fun f=>
 Do Tryz.prog (Builtin.append_ #[85,85] 85 #[Sl.val f,Sl.val c]) Sl.val fun g=>
 St a (Sl.val g)<|
 Q
theorem zKQ (a b Q w) (h:j6 a b Q w):j6.call a b Q w:=by
 exact zM 18 h Tryz.func148
instance:AT Tryz.prog 35 3:=⟨by kernel_rfl⟩
instance:CB Tryz.prog 102:=⟨by kernel_rfl⟩
instance:CB Tryz.prog 13:=⟨by kernel_rfl⟩
instance:CB Tryz.prog 147:=⟨by kernel_rfl⟩
instance:CB Tryz.prog 148:=⟨by kernel_rfl⟩
instance:CB Tryz.prog 149:=⟨by kernel_rfl⟩
instance:CB Tryz.prog 50:=⟨by kernel_rfl⟩
instance:CB Tryz.prog 51:=⟨by kernel_rfl⟩
instance:CB Tryz.prog 54:=⟨by kernel_rfl⟩
instance:CB Tryz.prog 65:=⟨by kernel_rfl⟩
instance:CB Tryz.prog 89:=⟨by kernel_rfl⟩
instance:CB Tryz.prog 90:=⟨by kernel_rfl⟩
instance:CB Tryz.prog 91:=⟨by kernel_rfl⟩
instance:CT Tryz.prog 38:=⟨by kernel_rfl⟩
instance:FT Tryz.prog 35 0 0 1:=⟨by kernel_rfl⟩
instance:FT Tryz.prog 35 1 1 1:=⟨by kernel_rfl⟩
instance:FT Tryz.prog 35 2 2 1:=⟨by kernel_rfl⟩
instance:FT Tryz.prog 37 0 0 3:=⟨by kernel_rfl⟩
instance:FT Tryz.prog 37 1 3 1:=⟨by kernel_rfl⟩
instance:FT Tryz.prog 40 0 0 4:=⟨by kernel_rfl⟩
instance:FT Tryz.prog 40 1 4 5:=⟨by kernel_rfl⟩
instance:FT Tryz.prog 40 2 9 1:=⟨by kernel_rfl⟩
instance:FT Tryz.prog 48 0 0 1:=⟨by kernel_rfl⟩
instance:FT Tryz.prog 48 1 1 1:=⟨by kernel_rfl⟩
instance:FT Tryz.prog 48 2 2 10:=⟨by kernel_rfl⟩
instance:PLT Tryz.prog 207 [(0,1)]:=⟨_,Tryz.underlying207,by kernel_rfl⟩
instance:SLT Tryz.prog 275 33 1:=⟨by kernel_rfl⟩
instance:SZ Tryz.prog 35 3:=⟨by kernel_rfl⟩
instance:SZ Tryz.prog 38 1:=⟨by kernel_rfl⟩
instance:ZT Tryz.prog 207 (.agg #[(Sl.val ⟨none,0,0⟩)]):=⟨Tryz.t207,by kernel_rfl,by kernel_rfl⟩
instance:ZT Tryz.prog 3 (.int .i64 0):=⟨Tryz.t3,by kernel_rfl,by kernel_rfl⟩
instance:ZT Tryz.prog 33 (.int .u64 0):=⟨Tryz.t33,by kernel_rfl,by kernel_rfl⟩
instance:ZT Tryz.prog 35 (.agg #[(.int .i64 0),(.int .u64 0),(.int .u64 0)]):=⟨Tryz.t35,by kernel_rfl,by kernel_rfl⟩
def xB.s2 (Q:Sl→K) (c:Sl→Int→K) (a:Sl): K :=
 zA1.call a<|
 zu.call a fun b=>
 Q b
def xB.b1 (Q:Sl→K) (a:Sl→Int→K) (o:Sl) (p:Int) (b:Sl) (c:Int): K :=
 Ite (decide (c < p))
  (Idx o c 3 fun f=>
  LdN f 3 fun g=>
  New 84 #[(.string ⟨#[]⟩),.int .i64 0,.int .u64 0] fun d=>
  StN d 3 g<|
  Ld (d.add 1) (Value.int .i64) fun i=>
  New 3 #[.int .i64 i] fun j=>
  Do Tryz.prog (Builtin.append_ #[42,42] 42 #[Sl.val b,(Sl.val (Sl.mk (some j) 1 1))]) Sl.val fun k=>
  Ar (IntKind.wrap .i64 (c + 1)) fun l=>
  a k l)
  (Ite (decide ((b.n:Int) = 0))
   (New 3 #[.int .i64 0] fun m=>
   xB.s2 Q a (Sl.mk (some m) 1 1))
   (xB.s2 Q a b))
def xB (f:Av) (Q:Sl→K): K :=
 New 40 f fun b=>
 Ld (b.add 9) Sl.val fun a=>
 yJ (α:=Sl×Int) (fun X x=>xB.b1 Q (fun c d=>X (c,d)) a (a.n:Int) x.1 x.2) ((Sl.mk none 0 0),0)
theorem zMv (c Q w) (h:xB c Q w):xB.call c Q w:=by
 have:∀ d,XH 2 d→JH 8 fun D=>D [] (fun C=>∀ f,C [(2,Sl.val f)] (xB.s2 Q (fun a b=>d (a,b)) f)):=by intros; exact ⟨fun _ h=>⟨_,_,h⟩⟩
 have:∀ g i,LH 2 (fun x:Sl×Int=>[(2,Sl.val x.1),(6,Sl.val g),(7,.int .i64 i),(8,.int .i64 x.2)]) (fun X x=>xB.b1 Q (fun a b=>X (a,b)) g i x.1 x.2):=fun _ _=>⟨⟩
 exact zM 26 h Tryz.func13
def uQ.s1 (Q:Bool→K) (a:Bool): K :=
 Q a
def uQ (f:Av) (Q:Bool→K): K :=
 New 40 f fun a=>
 Ld (a.add 4) (Value.int .i64) fun b=>
 Ite (decide (b = 1))
  (LdN a 10 fun c=>
  xB.call c fun d=>
  uQ.s1 Q (decide ((d.n:Int) = 1)))
  (uQ.s1 Q false)
theorem zLM (a Q w) (h:uQ a Q w):uQ.call a Q w:=by
 have:JH 1000001 fun D=>D [] (fun C=>∀ b,C [(2,.bool b)] (uQ.s1 Q b)):=⟨fun _ h=>⟨_,_,h⟩⟩
 exact zM 13 h Tryz.func14
def yN.s2 (Q:Sl→Int→K) (b:Addr) (l:Bool): K :=
 Ite l
  (Q (Sl.mk none 0 0) 1)
  (New 207 #[Sl.val ⟨none,0,0⟩] fun a=>
  Ld b (Value.int .i64) fun c=>
  Ar (IntKind.wrap .u64 c) fun d=>
  Ld (b.add 1) (Value.int .i64) fun f=>
  Ar (IntKind.wrap .u64 f) fun g=>
  New 33 #[.int .u64 d,.int .u64 g] fun i=>
  zAy.call (some a) (Sl.mk (some i) 2 2)<|
  LdN (b.add 2) 10 fun j=>
  uY.call (some a) j<|
  zBw.call (some a) fun k=>
  Q k 0)
def yN.s1 (Q:Sl→Int→K) (a:Addr) (d:Bool): K :=
 Ite (!d)
  (yN.s2 Q a true)
  (LdN (a.add 2) 10 fun b=>
  yF.call b 3 fun c=>
  yN.s2 Q a (decide (c ≠ 0)))
def yN (i:Av) (Q:Sl→Int→K): K :=
 New 48 i fun a=>
 Ld a (Value.int .i64) fun f=>
 Ite (decide (f = 1))
  (Ld (a.add 1) (Value.int .i64) fun g=>
  Ite (decide (g = 0))
   (yN.s1 Q a true)
   (Ld a (Value.int .i64) fun b=>
   Ite (decide (b = 2))
    (Ld (a.add 1) (Value.int .i64) fun c=>
    Ite (decide ((0:Int) ≤ c))
     (Ld (a.add 1) (Value.int .i64) fun d=>
     yN.s1 Q a (decide (d < 64)))
     (yN.s1 Q a false))
    (yN.s1 Q a false)))
  (Ld a (Value.int .i64) fun b=>
  Ite (decide (b = 2))
   (Ld (a.add 1) (Value.int .i64) fun c=>
   Ite (decide ((0:Int) ≤ c))
    (Ld (a.add 1) (Value.int .i64) fun d=>
    yN.s1 Q a (decide (d < 64)))
    (yN.s1 Q a false))
   (yN.s1 Q a false))
theorem zIv (c Q w) (h:yN c Q w):yN.call c Q w:=by
 have:JH 3 fun D=>∃ a,D [(1,(.pointer (some a)))] (fun C=>∀ d,C [(1,(.pointer (some a))),(36,.bool d)] (yN.s2 Q a d)):=⟨fun _ ⟨_,h⟩=>⟨_,_,h⟩⟩
 have:JH 2 fun D=>∃ b,D [(1,(.pointer (some b)))] (fun C=>∀ f,C [(1,(.pointer (some b))),(4,.bool f)] (yN.s1 Q b f)):=⟨fun _ ⟨_,h⟩=>⟨_,_,h⟩⟩
 exact zM 54 h Tryz.func52
def yF.s5 (Q b:Int→K) (f:Int) (g i:Sl) (j c:Int) (d:Bool): K :=
 Ite d
  (Q 1)
  (Ar (IntKind.wrap .i64 (c + 1)) fun a=>
  b a)
def yF.b4 (Q i:Int→K) (c:Int) (d f:Sl) (g a:Int): K :=
 Ite (decide (a < g))
  (Idx f a 3 fun j=>
  LdN j 3 fun k=>
  New 84 #[(.string ⟨#[]⟩),.int .i64 0,.int .u64 0] fun b=>
  StN b 3 k<|
  Dr<|
  Ld b Value.string fun l=>
  Idx d a 1 fun m=>
  Ld m Value.string fun n=>
  Ite (!(l.toList == n.toList))
   (yF.s5 Q i c d f g a true)
   (Ld (b.add 1) (Value.int .i64) fun o=>
   Ite (decide (o < 0))
    (yF.s5 Q i c d f g a true)
    (Ld (b.add 1) (Value.int .i64) fun p=>
    yF.s5 Q i c d f g a (decide (c ≤ p)))))
  (Q 0)
def yF.s3 (Q:Int→K) (b:Int) (c:Addr) (d:Sl) (f:Bool): K :=
 Ite f
  (Q 1)
  (Ld (c.add 9) Sl.val fun a=>
  yJ (α:=Int) (fun X x=>yF.b4 Q X b d a (a.n:Int) x) 0)
def yF.s2 (Q:Int→K) (c:Int) (a:Addr) (b:Sl) (f:Bool): K :=
 Ite (!f)
  (yF.s3 Q c a b true)
  (Ld (a.add 9) Sl.val fun d=>
  yF.s3 Q c a b (decide ((d.n:Int) ≠ (b.n:Int))))
def yF.s1 (Q:Int→K) (b:Int) (a d:Addr) (c:Sl): K :=
 LdN (a.add 4) 5 fun f=>
 qg.call f b fun g=>
 Ite (decide (g = 0))
  (Ld d (Value.int .i64) fun i=>
  Ite (decide ((0:Int) ≤ i))
   (Ld d (Value.int .i64) fun j=>
   Ite (decide (j < 9))
    (Ld (d.add 1) (Value.int .u64) fun k=>
    Ite (decide ((0:Int) < k))
     (Ld (d.add 2) (Value.int .u64) fun l=>
     Ite (decide ((0:Int) < l))
      (Ld (a.add 3) (Value.int .i64) fun m=>
      Ite (decide ((0:Int) ≤ m))
       (Ld (a.add 3) (Value.int .i64) fun n=>
       yF.s2 Q b a c (decide (n < 3)))
       (yF.s2 Q b a c false))
      (yF.s2 Q b a c false))
     (yF.s2 Q b a c false))
    (yF.s2 Q b a c false))
   (yF.s2 Q b a c false))
  (yF.s2 Q b a c false)
def yF (i:Av) (g:Int) (Q:Int→K): K :=
 New 40 i fun b=>
 Dr <| yh fun S=>
 vY S b 3 fun d=>
 vY S (b.add 4) 5 fun f=>
 All [
  (zDM.call f fun c=>
  Sv S<|
  New 35 #[.int .i64 0,.int .u64 0,.int .u64 0] fun a=>
  Sv S<|
  StN a 3 d<|
  yF.s1 Q g b a c),
  (New 35 #[.int .i64 0,.int .u64 0,.int .u64 0] fun a=>
  Sv S<|
  zDM.call f fun c=>
  Sv S<|
  StN a 3 d<|
  yF.s1 Q g b a c)
  ]
theorem zMw (q r Q w) (h:yF q r Q w):yF.call q r Q w:=by
 have:∀ t,XH 6 t→JH 9 fun D=>∃ b c d f g,D [(1,.int .i64 b),(6,Sl.val c),(64,Sl.val d),(65,.int .i64 f),(66,.int .i64 g)] (fun C=>∀ u,C [(1,.int .i64 b),(6,Sl.val c),(64,Sl.val d),(65,.int .i64 f),(66,.int .i64 g),(88,.bool u)] (yF.s5 Q t b c d f g u)):=by intros; exact ⟨fun _ ⟨_,_,_,_,_,h⟩=>⟨_,_,h⟩⟩
 have:∀ v y z aa,LH 6 (fun x:Int=>[(1,.int .i64 v),(6,Sl.val y),(64,Sl.val z),(65,.int .i64 aa),(66,.int .i64 x)]) (fun X x=>yF.b4 Q X v y z aa x):=fun _ _ _ _=>⟨⟩
 have:JH 4 fun D=>∃ i j k,D [(1,.int .i64 i),(2,(.pointer (some j))),(6,Sl.val k)] (fun C=>∀ ab,C [(1,.int .i64 i),(2,(.pointer (some j))),(6,Sl.val k),(62,.bool ab)] (yF.s3 Q i j k ab)):=⟨fun _ ⟨_,_,_,h⟩=>⟨_,_,h⟩⟩
 have:JH 3 fun D=>∃ l m n,D [(1,.int .i64 l),(2,(.pointer (some m))),(6,Sl.val n)] (fun C=>∀ ac,C [(1,.int .i64 l),(2,(.pointer (some m))),(6,Sl.val n),(7,.bool ac)] (yF.s2 Q l m n ac)):=⟨fun _ ⟨_,_,_,h⟩=>⟨_,_,h⟩⟩
 have:JH 2 fun D=>∃ o p,D [(1,.int .i64 o),(2,(.pointer (some p)))] (fun C=>∀ ad ae,C [(1,.int .i64 o),(2,(.pointer (some p))),(5,(.pointer (some ad))),(6,Sl.val ae)] (yF.s1 Q o p ad ae)):=⟨fun _ ⟨_,_,h⟩=>⟨_,_,h⟩⟩
 have:DH 1 2 [7] (.s [0,1,3,2,4] (.a [(5,1,.a [(6,1,.a [(7,0,.s [8] .e)])]),(6,1,.a [(5,1,.a [(7,0,.s [8] .e)])])])):=⟨⟩
 exact zM 90 h Tryz.func54
def zDG (k:Av) (Q:Av→K): K :=
 New 40 k fun a=>
 New 40 #[.int .i64 0,.int .u64 0,.int .u64 0,.int .i64 0,.int .i64 0,Sl.val ⟨none,0,0⟩,Sl.val ⟨none,0,0⟩,Sl.val ⟨none,0,0⟩,.int .i64 0,Sl.val ⟨none,0,0⟩] fun b=>
 Dr <| yh fun S=>
 vY S (a.add 4) 5 fun c=>
 LdS S (a.add 9) Sl.val fun d=>
 zBe.call c fun f=>
 Sv S<|
 q9.call d fun g=>
 StN (a.add 4) 5 f<|
 St (a.add 9) (Sl.val g)<|
 LdN a 10 fun i=>
 StN b 10 i<|
 LdN b 10 fun j=>
 Q j
theorem zNr (b Q w) (h:zDG b Q w):zDG.call b Q w:=by
 have:DH 1 2 [5,7,9] (.s [0,3,1,4] (.a [(2,1,.s [6] (.a [(5,0,.a [(7,0,.s [8] (.a [(9,0,.e)]))])]))])):=⟨⟩
 exact zM 12 h Tryz.func58
def zAy.b1 (Q:K) (f:Int→K) (g:Pt) (i:Sl) (j a:Int): K :=
 Ite (decide (a < j))
  (Idx i a 1 fun b=>
  Ld b (Value.int .u64) fun c=>
  xV.call g c<|
  Ar (IntKind.wrap .i64 (a + 1)) fun d=>
  f d)
  (Q)
def zAy (b:Pt) (a:Sl) (Q:K): K :=
 yJ (α:=Int) (fun X x=>zAy.b1 Q X b a (a.n:Int) x) 0
theorem zNs (a b Q w) (h:zAy a b Q w):zAy.call a b Q w:=by
 have:∀ c d f,LH 1 (fun x:Int=>[(0,.pointer c),(6,Sl.val d),(7,.int .i64 f),(8,.int .i64 x)]) (fun X x=>zAy.b1 Q X c d f x):=fun _ _ _=>⟨⟩
 exact zM 16 h Tryz.func89
def uY.b2 (Q:K) (o l:Int→K) (c:Pt) (m:Sl) (n b:Int): K :=
 Ite (decide (b < n))
  (Idx m b 3 fun d=>
  LdN d 3 fun f=>
  New 84 #[(.string ⟨#[]⟩),.int .i64 0,.int .u64 0] fun a=>
  StN a 3 f<|
  Ld (a.add 1) (Value.int .i64) fun g=>
  Ar (IntKind.wrap .u64 g) fun i=>
  xV.call c i<|
  Ld (a.add 2) (Value.int .u64) fun j=>
  xV.call c j<|
  Ar (IntKind.wrap .i64 (b + 1)) fun k=>
  l k)
  (Q)
def uY.b1 (Q:K) (f:Int→K) (b:Pt) (s:Addr) (t:Sl) (u c:Int): K :=
 Ite (decide (c < u))
  (Idx t c 4 fun g=>
  LdN g 4 fun i=>
  New 123 #[.int .i64 0,(.string ⟨#[]⟩),Sl.val ⟨none,0,0⟩,.int .i64 0] fun a=>
  StN a 4 i<|
  Ld a (Value.int .i64) fun j=>
  Ar (IntKind.wrap .u64 j) fun k=>
  xV.call b k<|
  Ld (a.add 1) Value.string fun l=>
  Do Tryz.prog (convert 9 85 (.string l)) Sl.val fun m=>
  j6.call b m<|
  Ld (a.add 2) Sl.val fun o=>
  j6.call b o<|
  Ld (a.add 3) (Value.int .i64) fun p=>
  zCV.call p fun q=>
  xV.call b q<|
  Ar (IntKind.wrap .i64 (c + 1)) fun r=>
  f r)
  (Ld (s.add 9) Sl.val fun d=>
  yJ (α:=Int) (fun X x=>uY.b2 Q f X b d (d.n:Int) x) 0)
def uY (b:Pt) (v:Av) (Q:K): K :=
 New 40 v fun a=>
 Ld a (Value.int .i64) fun d=>
 Ar (IntKind.wrap .u64 d) fun f=>
 Ld (a.add 1) (Value.int .u64) fun g=>
 Ld (a.add 2) (Value.int .u64) fun i=>
 Ld (a.add 3) (Value.int .i64) fun j=>
 Ar (IntKind.wrap .u64 j) fun k=>
 Ld (a.add 4) (Value.int .i64) fun l=>
 Ar (IntKind.wrap .u64 l) fun m=>
 Ld ((a.add 4).add 4) (Value.int .i64) fun o=>
 Ar (IntKind.wrap .u64 o) fun p=>
 New 33 #[.int .u64 f,.int .u64 g,.int .u64 i,.int .u64 k,.int .u64 m,.int .u64 p] fun q=>
 zAy.call b (Sl.mk (some q) 6 6)<|
 Ld ((a.add 4).add 1) Sl.val fun r=>
 zAE.call b r<|
 Ld ((a.add 4).add 2) Sl.val fun s=>
 zAE.call b s<|
 Ld ((a.add 4).add 3) Sl.val fun t=>
 Ar (IntKind.wrap .u64 (t.n:Int)) fun u=>
 xV.call b u<|
 Ld ((a.add 4).add 3) Sl.val fun c=>
 yJ (α:=Int) (fun X x=>uY.b1 Q X b a c (c.n:Int) x) 0
theorem zMx (a b Q w) (h:uY a b Q w):uY.call a b Q w:=by
 have:∀ c,XH 6 c→∀ d f g,LH 14 (fun x:Int=>[(0,.pointer d),(82,Sl.val f),(83,.int .i64 g),(84,.int .i64 x)]) (fun X x=>uY.b2 Q c X d f g x):=by intros; exact ⟨⟩
 have:∀ i j k l,LH 6 (fun x:Int=>[(0,.pointer i),(3,(.pointer (some j))),(55,Sl.val k),(56,.int .i64 l),(57,.int .i64 x)]) (fun X x=>uY.b1 Q X i j k l x):=fun _ _ _ _=>⟨⟩
 exact zM 98 h Tryz.func90
def zAE.b1 (Q:K) (g:Int→K) (i:Pt) (j:Sl) (k a:Int): K :=
 Ite (decide (a < k))
  (Idx j a 1 fun b=>
  Ld b Value.string fun c=>
  Do Tryz.prog (convert 9 85 (.string c)) Sl.val fun d=>
  j6.call i d<|
  Ar (IntKind.wrap .i64 (a + 1)) fun f=>
  g f)
  (Q)
def zAE (b:Pt) (a:Sl) (Q:K): K :=
 Ar (IntKind.wrap .u64 (a.n:Int)) fun c=>
 xV.call b c<|
 yJ (α:=Int) (fun X x=>zAE.b1 Q X b a (a.n:Int) x) 0
theorem zMy (a b Q w) (h:zAE a b Q w):zAE.call a b Q w:=by
 have:∀ c d f,LH 2 (fun x:Int=>[(0,.pointer c),(11,Sl.val d),(12,.int .i64 f),(13,.int .i64 x)]) (fun X x=>zAE.b1 Q X c d f x):=fun _ _ _=>⟨⟩
 exact zM 22 h Tryz.func147
def zCV (a:Int) (Q:Int→K): K :=
 Ar (IntKind.wrap .u64 a) fun b=>
 Cd (0 ≤ (1:Int))<|
 Ar (zN3 .u64 b 1) fun c=>
 Cd (0 ≤ (63:Int))<|
 Ar (zGv .i64 a 63) fun d=>
 Ar (IntKind.wrap .u64 d) fun f=>
 Ar (bitsOf .xor .u64 c f) fun g=>
 Q g
theorem zLN (a Q w) (h:zCV a Q w):zCV.call a Q w:=by
 exact zM 10 h Tryz.func149
end
section
open Go Go.Sep Go.Sep.Bt
abbrev xL (x:zAG):List Value:=[.string x.1,.bool x.2.1.has,x.2.2.val,.int .i64 x.2.1.home,.int .u64 x.2.1.cnt]
theorem uo (x:zAG):(xL x).length = 5:=rfl
theorem zHK (L:List zAG):∀ v ∈ L.flatMap xL,yu v = true:=fun v hv=>by
 obtain ⟨x,_,hx⟩:=List.mem_flatMap.1 hv
 simp only [xL,List.mem_cons,List.not_mem_nil,or_false] at hx
 rcases hx with rfl | rfl | rfl | rfl | rfl <;> rfl
abbrev Pool:=List (Sl×List UInt8)
abbrev vw (P:Pool):zC:=Sep.stars (P.map fun p=>Bytes yK p.1 p.2)
def inP (P:Pool) (s:Sl) (xs:List UInt8):Prop:=(xs = []∧s.n = 0)∨(s,xs) ∈ P
theorem inP.mono {P P':Pool} {s:Sl} {xs:List UInt8} (h:inP P s xs) (hP:∀ x ∈ P,x ∈ P'):inP P' s xs:=h.imp id (hP _)
theorem zXI {w:World} {s:Sl} (h:s.n = 0):RdB w s []:=⟨by simp [h],fun _=>h,fun a _ i hi=>by simp at hi⟩
theorem zIw {B w:World} {Γ:List zC} {α:Type} {F:α→zC} {l:List α} {x:α} (hx:x ∈ l) (h:Holds B (Sep.stars (l.map F)::Γ) w):∃ Δ,Holds B (F x::Δ) w:=by
 obtain ⟨A,C,rfl⟩:=List.append_of_mem hx
 exact ⟨_,((Holds.flat.1 h).perm zG4).perm List.perm_middle⟩
theorem inP.rd {B w:World} {Γ:List zC} {P:Pool} {s:Sl} {xs:List UInt8} (h:inP P s xs) (hw:Holds B (vw P::Γ) w):RdB w s xs:=by
 rcases h with ⟨rfl,h⟩ | h
 ·exact zXI h
 ·obtain ⟨Δ,h2⟩:=zIw h hw
  exact h2.rdC List.mem_cons_self
theorem zSy (l:List UInt8) {n:Nat} (hn:1 ≤ n):zBN l n = l.foldl (fun s b=>s + b.toNat) 0 % n:=by
 unfold zBN
 have key:∀ (l:List UInt8) (a b:Nat),a = b % n→l.foldl (fun s b=>(s + b.toNat) % n) a = l.foldl (fun s b=>s + b.toNat) b % n:=by
  intro l
  induction l with
  | nil=>intro a b h; exact h
  | cons x l ih=>intro a b h; exact ih _ _ (by show (a + x.toNat) % n = (b + x.toNat) % n; rw [h,Nat.mod_add_mod])
 exact key l 0 0 (by simp)
theorem zbM (l:List UInt8) (a:Nat):l.foldl (fun s b=>s + b.toNat) a ≤ a + 255 * l.length:=by
 induction l generalizing a with
 | nil=>simp
 | cons x l ih=>
  have h1:=ih (a + x.toNat)
  have h2:x.toNat < 256:=x.toNat_lt
  simp only [List.foldl_cons,List.length_cons]; omega
def zGl {ν:Type} (k:ByteArray) (r:ν):Bool→List (ByteArray×ν)→List (ByteArray×ν)
 | keep,[]=>if keep then [(k,r)] else []
 | keep,x::M=>(if keep && decide (0 < vN x.1 k) then [(k,r)] else [])++(if x.1 = k then [] else [x])++zGl k r (keep && !decide (0 < vN x.1 k)) M
theorem zRi {k:ByteArray} {r:Rec} {s:Sl}:∀ (keep:Bool) (X:List zAG),(zGl k (r,s) keep X).map zAw = zGl k r keep (X.map zAw)
 | keep,[]=>by cases keep <;> rfl
 | keep,x::X=>by
  rw [zGl,List.map_cons,zGl,List.map_append,List.map_append,zRi]
  congr 1
  congr 1
  ·split <;> rfl
  ·by_cases h:x.1 = k <;> simp [h]
theorem zHx {k:ByteArray} {r:Rec}:∀ {M:zy},zGl k r false M = zKG M k
 | []=>rfl
 | x::M=>by
  rw [zGl,Bool.false_and,Bool.false_and,zHx]
  unfold zKG
  by_cases h:x.1 = k
  ·simp [h]
  ·simp [h]
theorem zOU {k:ByteArray} {r:Rec}:∀ {M:zy},Srt vN M→zGl k r true M = zBt M k r
 | [],_=>rfl
 | x::M,hs=>by
  have hs2:=List.pairwise_cons.1 hs
  rw [zGl,zBt]
  simp only [Bool.true_and]
  by_cases h1:vN x.1 k < 0
  ·have h2:¬ 0 < vN x.1 k:=by omega
   have h3:x.1 ≠ k:=ne_of_lt h1
   rw [if_pos h1]
   simp only [h2,decide_false,Bool.false_eq_true,if_false,h3,List.nil_append,Bool.not_false]
   rw [zOU hs2.2]; rfl
  ·rw [if_neg h1]
   by_cases h3:x.1 = k
   ·have h2:¬ 0 < vN x.1 k:=by rw [zE0.2 h3]; omega
    have h2':¬ 0 < vN k k:=by rw [zE0.2 rfl]; omega
    rw [if_pos h3]
    simp only [h2,h2',decide_false,Bool.false_eq_true,if_false,h3,if_true,List.nil_append,Bool.not_false]
    cases M with
    | nil=>rfl
    | cons y M=>
     have hy:0 < vN y.1 k:=by rw [← zFE.sw,← h3]; exact hs2.1 y List.mem_cons_self
     have hyk:y.1 ≠ k:=fun e=>by rw [zE0.2 e] at hy; omega
     rw [zGl]
     simp only [hy,decide_true,Bool.and_true,if_true,hyk,if_false,Bool.not_true,Bool.and_false]
     rw [zHx,zFw fun z hz=>by
      have h5:vN x.1 z.1 < 0:=hs2.1 z (List.mem_cons_of_mem _ hz)
      rw [h3] at h5; exact Ne.symm (ne_of_lt h5)]
     rfl
   ·have h2:0 < vN x.1 k:=by
     rcases Int.lt_trichotomy (vN x.1 k) 0 with h | h | h
     ·exact absurd h h1
     ·exact absurd (zE0.1 h) h3
     ·exact h
    rw [if_neg h3]
    simp only [h2,decide_true,if_true,h3,if_false,Bool.not_true]
    rw [zHx,zFw fun z hz=>by
     have h5:vN x.1 z.1 < 0:=hs2.1 z hz
     have h6:vN k x.1 < 0:=zFE.sw.2 h2
     exact Ne.symm (ne_of_lt (zFE.tr h6 h5))]
    rfl
theorem zXJ {M:zy} {k:ByteArray} {r:Rec} (hs:Srt vN M):Srt vN (zBt M k r):=by
 induction M with
 | nil=>exact List.pairwise_singleton _ _
 | cons x M ih=>
  have hs2:=List.pairwise_cons.1 hs
  unfold zBt
  split
  ·rename_i h1
   refine List.pairwise_cons.2 ⟨fun y hy=>?_,ih hs2.2⟩
   rcases zJZ hy with rfl | hy
   ·exact h1
   ·exact hs2.1 y hy
  ·split
   ·rename_i h1 h3
    exact List.pairwise_cons.2 ⟨fun y hy=>by rw [← h3]; exact hs2.1 y hy,hs2.2⟩
   ·rename_i h1 h3
    have h2:vN k x.1 < 0:=by
     rw [zFE.sw]
     rcases Int.lt_trichotomy (vN x.1 k) 0 with h | h | h
     ·exact absurd h h1
     ·exact absurd (zE0.1 h) h3
     ·exact h
    refine List.pairwise_cons.2 ⟨fun y hy=>?_,hs⟩
    rcases List.mem_cons.1 hy with rfl | hy
    ·exact h2
    ·exact zFE.tr h2 (hs2.1 y hy)
theorem zXK {M:zy} {k:ByteArray} {r:Rec} (hs:Srt vN M):Srt vN (zB3 M k r):=by
 unfold zB3
 split
 ·exact List.Pairwise.sublist List.filter_sublist hs
 ·exact zXJ hs
structure R6 (n:Nat) (M:zy) (P:Pool) (X:List zAG):Prop where
 mod:M = X.map zAw
 ok:∀ x ∈ X,x.2.1.ok∧inP P x.2.2 x.2.1.val
 n1:1 ≤ n
 n3:n ≤ 3
 srt:Srt vN M
abbrev zHL (st n:Nat) (rs:Sl) (X:List zAG) (Γ:List zC):List zC:=blk st (.cells [.int .i64 n,rs.val].toArray zCH (0,0))::SlC yY 5 rs (X.flatMap xL)::Γ
def uO (st n:Nat) (M:zy) (P:Pool):zC:=ex fun rs=>ex fun X:List zAG=>Sep.stars (pur (R6 n M P X)::zHL st n rs X [])
section
variable {B:World} {Γ Δ:List zC} {k:K} {st n:Nat} {M:zy} {P:Pool}
instance (priority:=high) zcP:Sep.Own st (uO st n M P::Γ) (uO st n M P) Γ:=⟨.refl _⟩
theorem zKR (h:∀ rs X,R6 n M P X→HG B (zHL st n rs X Γ) k):HG B (uO st n M P::Γ) k :=
 zDI fun rs=>zDI fun X=>zBr <| zGd fun h1=>h rs X h1
theorem zDj {rs:Sl} {X:List zAG} (h1:R6 n M P X) (h:HG B (uO st n M P::Γ) k):HG B (zHL st n rs X Γ) k:=fun w hw=>by
 refine h w ?_
 have h3:Holds B (Sep.stars (pur (R6 n M P X)::zHL st n rs X [])::Γ) w:=Holds.flat.2 (Holds.pur.2 ⟨h1,hw⟩)
 exact h3.imp fun g hg=>⟨rs,X,hg⟩
theorem zQL {P':Pool} (hP:∀ x ∈ P,x ∈ P') (h:HG B (uO st n M P'::Γ) k):HG B (uO st n M P::Γ) k :=
 zKR fun rs X h1=>zDj ⟨h1.mod,fun x hx=>⟨(h1.ok x hx).1,(h1.ok x hx).2.mono hP⟩,h1.n1,h1.n3,h1.srt⟩ h
theorem zZV {Q:Option Addr→K} (h1:1 ≤ n) (h3:n ≤ 3) (h:∀ st,HG B (uO st n [] P::Γ) (Q (some ⟨st,0,none⟩))):HG B Γ (zEz.call (n:Int) Q):=by
 refine fun w hw=>zQE _ _ _ ?_
 refine hg hw ?_
 clear hw w
 unfold zEz
 refine zH fun st=>?_
 refine fun w hw=>?_
 refine Sep.hg (show Holds B (SlC yY 5 ⟨none,0,0⟩ (([]:List zAG).flatMap xL)::_) w from hw.zAm _ _) ?_
 clear hw w
 refine zDZ ?_
 exact zDj ⟨rfl,by simp,h1,h3,List.Pairwise.nil⟩ (h st)
theorem zRj {k:ByteArray} {Q:Int→K} (h1:1 ≤ n) (hn:n ≤ 1000) (hk:k.size < 1000000000000) (h:HG B Γ (Q (zBN k.toList n:Nat))):HG B Γ (jR.call k (n:Int) Q):=by
 refine fun w hw=>zKL _ _ _ _ ?_
 refine hg hw ?_
 clear hw w
 unfold jR
 refine s_f ?_
 obtain ⟨l,rfl⟩:=zKy k
 rw [xY] at h
 have hsz:(bs l).size = l.length:=rfl
 refine zAP (fun x:Int×Int=>∃ i s:Nat,x = ((s:Int),(i:Int))∧i ≤ l.length∧s = (l.take i).foldl (fun s b=>s + b.toNat) 0) (fun x=>l.length - x.2.toNat) ⟨0,0,rfl,Nat.zero_le _,rfl⟩ fun k' x hx hk'=>?_
 obtain ⟨i,s,rfl,hi,hs⟩:=hx
 have hsl:=zbM (l.take i) 0
 rw [← hs,List.length_take] at hsl
 unfold jR.b1
 dsimp only
 refine zF (fun hb=>?_) fun hb=>?_
 ·have hil:i < l.length:=by simp only [decide_eq_true_eq] at hb; omega
  have hb8:l[i].toNat < 256:=l[i].toNat_lt
  refine fun w hw=>⟨(l[i].toNat:Int),l[i],by omega,?_,rfl,Sep.hg hw ?_⟩
  ·show (bs l)[((i:Nat):Int).toNat]? = _
   rw [Int.toNat_natCast]
   exact Array.getElem?_eq_getElem (xs:=l.toArray) (by simpa using hil)
  refine zAW (e':=(l[i].toNat:Int)) (by rw [zA0 (by omega) (by omega)]) ?_
  refine zAW (e':=((s + l[i].toNat:Nat):Int)) (by rw [zA0 (by omega) (by omega)]; omega) ?_
  refine qB ?_
  refine hk' _ ⟨i + 1,s + l[i].toNat,by simp,hil,?_⟩ (by simp only; omega)
  rw [hs,List.take_succ_eq_append_getElem hil,List.foldl_append]; rfl
 ·have hil:i = l.length:=by simp only [decide_eq_false_iff_not] at hb; omega
  rw [hil,List.take_length] at hs
  refine zAW (e':=(n:Int)) (by rw [zA0 (by omega) (by omega)]) ?_
  refine zPo (by omega) ?_
  have hm:s % n < n:=Nat.mod_lt _ (by omega)
  refine zAW (e':=((s % n:Nat):Int)) (by rw [Int.tmod_eq_emod_of_nonneg (by omega)]; simp) ?_
  refine qB ?_
  rw [zSy l h1,← hs] at h
  exact h
theorem zGI {k:ByteArray} {Q:Array Value→K} (hk:k.size < 1000000000000) (hL:M.length < 100000000) (h:∀ s,(zx n M k).ok→inP P s (zx n M k).val→HG B (uO st n M P::Γ) (Q (zII (zx n M k) s))):HG B (uO st n M P::Γ) (qm.call (some ⟨st,0,none⟩) k Q):=by
 refine fun w hw=>zIr _ _ _ _ ?_
 refine hg hw ?_
 clear hw w
 refine zKR fun rs X hf=>?_
 have hXl:X.length = M.length:=by rw [hf.mod]; simp
 unfold qm
 refine zH fun t4=>?_
 refine yS rs fun a1 a2 a3 a4=>?_
 rw [zX _ 5 uo] at a1
 refine zAP (α:=Int) (fun x=>∃ i:Nat,x = (i:Int)∧i ≤ X.length∧∀ y ∈ X.take i,y.1 ≠ k) (fun x=>X.length - x.toNat) ⟨0,rfl,Nat.zero_le _,by simp⟩ fun k' x hx hk'=>?_
 obtain ⟨i,rfl,hi,hno⟩:=hx
 unfold qm.b1
 repeat refine zT ?_
 refine zF (fun hb=>?_) fun hb=>?_
 ·have hil:i < X.length:=by simp only [decide_eq_true_eq] at hb; omega
  have hge:X[i]? = some X[i]:=List.getElem?_eq_getElem hil
  have hmem:X[i] ∈ X:=List.getElem_mem hil
  have htk:X.take (i + 1) = X.take i++[X[i]]:=List.take_succ_eq_append_getElem hil
  have hdr:=List.drop_eq_getElem_cons hil
  generalize X[i] = x at hge hmem htk hdr
  repeat refine zT ?_
  refine zJl xL (c:=Value.string) (v:=x.1) uo (fun w hw=>(yP (s:=rs) hw).1) hge rfl ?_
  refine zF (fun hc=>?_) fun hc=>?_
  ·have hxk:x.1 = k:=by rwa [str_inj] at hc
   have hr:zx n M k = x.2.1:=by
    unfold zx
    have:getM M k = some x.2.1:=by
     rw [hf.mod,← List.take_append_drop i X,hdr,List.map_append,List.map_cons]
     rw [show zAw x = (k,x.2.1) by rw [← hxk]]
     exact zRQ fun y hy=>by
      obtain ⟨z,hz,rfl⟩:=List.mem_map.1 hy
      exact hno z hz
    rw [this]; rfl
   rw [hr] at h
   repeat refine zT ?_
   refine vg (s:=rs) (i:=i) ?_
   refine zFB (s:=rs) (off:=1) (l':=jh x.2.1 x.2.2) ?_ rfl ?_
   ·have:=zDJ uo hge
    have e:((X.flatMap xL).drop (i * 5 + 1)).take 4 = (((X.flatMap xL).drop (i * 5)).take 5).drop 1:=by rw [← List.drop_drop,List.drop_take]
    rw [e,this]; rfl
   repeat refine zT ?_
   refine zw rs ?_
   refine zO st ?_
   exact zDj hf (zB (h _ (hf.ok x hmem).1 (hf.ok x hmem).2))
  ·have hxk:x.1 ≠ k:=fun e=>by rw [e,str_inj.2 rfl] at hc; cases hc
   refine qB ?_
   refine hk' _ ⟨i + 1,by simp,hil,fun y hy=>?_⟩ (by omega)
   rw [htk] at hy
   rcases List.mem_append.1 hy with hy | hy
   ·exact hno y hy
   ·rw [List.mem_singleton.1 hy]; exact hxk
 ·have hil:i = X.length:=by simp only [decide_eq_false_iff_not] at hb; omega
  rw [hil,List.take_length] at hno
  have hr:zx n M k = ⟨false,[],zBN k.toList n,0⟩:=by
   unfold zx
   rw [hf.mod,getM_none fun y hy=>by
    obtain ⟨z,hz,rfl⟩:=List.mem_map.1 hy
    exact hno z hz]
   rfl
  rw [hr] at h
  repeat refine zT ?_
  refine zRj hf.n1 (by have:=hf.n3; omega) hk ?_
  refine qA (b:=t4) (l':=jh ⟨false,[],zBN k.toList n,0⟩ ⟨none,0,0⟩) ?_
  repeat refine zT ?_
  refine zw rs ?_
  refine zO st ?_
  exact zDj hf (zB (h ⟨none,0,0⟩ ⟨by simp,by simp,by simp⟩ (.inl ⟨rfl,rfl⟩)))
theorem zLy {k:ByteArray} {r:Rec} {s:Sl} {Q:K} (hr:r.ok) (hv:inP P s r.val) (hL:M.length < 10000000) (h:HG B (uO st n (zB3 M k r) P::Γ) Q):HG B (uO st n M P::Γ) (zP.call (some ⟨st,0,none⟩) k (zII r s) Q):=by
 refine fun w hw=>zIs _ _ _ _ _ ?_
 refine hg hw ?_
 clear hw w
 refine zKR fun rs X hf=>?_
 have hXl:X.length = M.length:=by rw [hf.mod]; simp
 refine yS rs fun a1 a2 a3 a4=>?_
 rw [zX _ 5 uo] at a1
 unfold zP
 refine zH fun r5=>?_
 have rows:∀ (t9:Nat) (keep:Bool),(keep = true ↔ ¬ (r.has = false∧r.cnt = 0))→HG B (blk t9 (.cells ([]:List Value).toArray yY (0,0))::blk r5 (.cells (jh r s).toArray yc (0,0))::zHL st n rs X Γ) (zP.s1 Q (some ⟨st,0,none⟩) k ⟨r5,0,none⟩ (Sl.mk (some ⟨t9,0,none⟩) 0 0) keep):=fun t9 keep hkp=>by
  have hset:zGl k r keep M = zB3 M k r:=by
   unfold zB3
   by_cases hk:r.has = false∧r.cnt = 0
   ·have:keep = false:=by cases hc:keep with
     | false=>rfl
     | true=>exact absurd hk (hkp.1 hc)
    rw [if_pos hk,this,zHx]
   ·rw [if_neg hk,hkp.2 hk,zOU hf.srt]
  unfold zP.s1
  refine jy (A':=SlC yY 5 ⟨some ⟨t9,0,none⟩,0,0⟩ (([]:List zAG).flatMap xL)) (zAB (vs:=[]) rfl (by simp)) ?_
  refine xW (α:=Sl×Bool×Int) (ι:=Nat×List zAG) (fun x i=>x.2.2 = (i.1:Int)∧i.1 ≤ X.length∧i.2.length ≤ 2 * i.1∧i.2++zGl k (r,s) x.2.1 (X.drop i.1) = zGl k (r,s) keep X∧∀ y ∈ i.2,y.2.1.ok∧inP P y.2.2 y.2.1.val)
   (fun x i=>SlC yY 5 x.1 (i.2.flatMap xL)::blk r5 (.cells (jh r s).toArray yc (0,0))::zHL st n rs X Γ) (fun x i=>X.length - i.1) (0,[]) ⟨rfl,Nat.zero_le _,by simp,by simp,by simp⟩ ?_
  rintro k' ⟨o,kp,_⟩ ⟨i,Y⟩ ⟨rfl,hi,hYl,he,hok⟩ hk'
  simp only at hi hYl he hok hk' ⊢
  unfold zP.b2
  refine yS o fun b1 b2 b3 b4=>?_
  rw [zX _ 5 uo] at b1
  have add:∀ (x:zAG) (ct:Nat) (o:Sl) (Y:List zAG),xL x = xL x→True:=fun _ _ _ _ _=>trivial
  repeat refine zT ?_
  refine zF (fun hb=>?_) fun hb=>?_
  ·have hil:i < X.length:=by simp only [decide_eq_true_eq] at hb; omega
   have hge:X[i]? = some X[i]:=List.getElem?_eq_getElem hil
   have hmem:X[i] ∈ X:=List.getElem_mem hil
   rw [List.drop_eq_getElem_cons hil] at he
   generalize X[i] = x at hge hmem he
   rw [zGl] at he
   have old:∀ (o:Sl) (Y:List zAG) (kp':Bool),o.n = Y.length→Y.length ≤ 2 * i + 1→Y++((if x.1 = k then [] else [x])++zGl k (r,s) kp' (X.drop (i + 1))) = zGl k (r,s) keep X→(∀ y ∈ Y,y.2.1.ok∧inP P y.2.2 y.2.1.val) →
     HG B (SlC yY 5 o (Y.flatMap xL)::blk r5 (.cells (jh r s).toArray yc (0,0))::zHL st n rs X Γ) (zP.s4 Q (fun out6_2 keep7_2 i8_2=>k' (out6_2,keep7_2,i8_2)) ⟨st,0,none⟩ k ⟨r5,0,none⟩ o kp' (i:Int)):=fun o Y kp' hon hYl he hok=>by
    unfold zP.s4
    repeat refine zT ?_
    refine zJl xL (c:=Value.string) (v:=x.1) uo (fun w hw=>(yP (s:=rs) hw).1) hge rfl ?_
    unfold zP.s3
    refine zF (fun hc=>?_) fun hc=>?_
    ·have hxk:x.1 ≠ k:=fun e=>by rw [e,str_inj.2 rfl] at hc; cases hc
     rw [if_neg hxk] at he
     repeat refine zT ?_
     refine zAc xL uo (fun w hw=>(yP (s:=rs) hw).1) hge ?_
     repeat refine zT ?_
     refine zH fun t63=>?_
     refine qN (s:=o) (esz:=5) (us:=xL x) (jX rfl) (by intro v hv; exact zHK [x] v (by simpa using hv)) (by simp only; omega) fun o2 _=>?_
     rw [show Y.flatMap xL++xL x = (Y++[x]).flatMap xL by simp only [List.flatMap_append,List.flatMap_cons,List.flatMap_nil,List.append_nil]]
     refine qB ?_
     refine zB (hk' (o2,kp',(i:Int) + 1) (i + 1,Y++[x]) ⟨by simp,hil,by simp; omega,by simp only; rw [← he]; simp,fun y hy=>?_⟩ (by simp only; omega))
     rcases List.mem_append.1 hy with hy | hy
     ·exact hok y hy
     ·rw [List.mem_singleton.1 hy]; exact hf.ok x hmem
    ·have hxk:x.1 = k:=by
      have:(x.1.toList == k.toList) = true:=by simpa using hc
      rwa [str_inj] at this
     rw [if_pos hxk] at he
     refine qB ?_
     exact zB (hk' (o,kp',(i:Int) + 1) (i + 1,Y) ⟨by simp,hil,by simp only; omega,by simpa using he,hok⟩ (by simp only; omega))
   have noIns:(kp && decide (0 < vN x.1 k)) = false→HG B (SlC yY 5 o (Y.flatMap xL)::blk r5 (.cells (jh r s).toArray yc (0,0))::zHL st n rs X Γ) (zP.s5 Q (fun out6_2 keep7_2 i8_2=>k' (out6_2,keep7_2,i8_2)) ⟨st,0,none⟩ k ⟨r5,0,none⟩ o kp (i:Int) false):=fun hni=>by
    unfold zP.s5
    refine s_f ?_
    refine old o Y kp (by omega) (by omega) ?_ hok
    rw [hni] at he
    have e2:(kp && !decide (0 < vN x.1 k)) = kp:=by cases kp <;> simp_all
    rw [e2] at he
    simpa using he
   refine zF (fun hkp1=>?_) fun hkp1=>?_
   ·subst hkp1
    repeat refine zT ?_
    refine zJl xL (c:=Value.string) (v:=x.1) uo (fun w hw=>(yP (s:=rs) hw).1) hge rfl ?_
    rw [zWu]
    by_cases hgt:k.toList < x.1.toList
    ·have hpos:0 < vN x.1 k:=zMd.2 hgt
     rw [show decide (k.toList < x.1.toList) = true by simpa using hgt]
     unfold zP.s5
     repeat refine zT ?_
     refine zH fun t43=>?_
     refine qN (s:=o) (esz:=5) (us:=xL (k,(r,s))) (jX rfl) (by intro v hv; exact zHK [(k,(r,s))] v (by simpa using hv)) (by simp only; omega) fun o2 ho2=>?_
     rw [show Y.flatMap xL++xL (k,(r,s)) = (Y++[(k,(r,s))]).flatMap xL by simp only [List.flatMap_append,List.flatMap_cons,List.flatMap_nil,List.append_nil]]
     refine zB (old o2 (Y++[(k,(r,s))]) false (by simp only at ho2; simp; omega) (by simp; omega) ?_ fun y hy=>?_)
     ·simp only [hpos,decide_true,Bool.and_true,if_true,Bool.not_true,Bool.and_false] at he
      rw [← he]; simp
     ·rcases List.mem_append.1 hy with hy | hy
      ·exact hok y hy
      ·rw [List.mem_singleton.1 hy]; exact ⟨hr,hv⟩
    ·rw [show decide (k.toList < x.1.toList) = false by simpa using hgt]
     exact noIns (by simp only [Bool.true_and,decide_eq_false_iff_not]; exact fun h=>hgt (zMd.1 h))
   ·subst hkp1
    exact noIns rfl
  ·have hil:i = X.length:=by simp only [decide_eq_false_iff_not] at hb; omega
   rw [hil,List.drop_length,zGl] at he
   have fin:∀ (o:Sl) (Y:List zAG),Y = zGl k (r,s) keep X→(∀ y ∈ Y,y.2.1.ok∧inP P y.2.2 y.2.1.val)→HG B (SlC yY 5 o (Y.flatMap xL)::blk r5 (.cells (jh r s).toArray yc (0,0))::zHL st n rs X Γ) (zP.s6 Q (fun out6_2 keep7_2 i8_2=>k' (out6_2,keep7_2,i8_2)) ⟨st,0,none⟩ o):=fun o Y hY hok=>by
    unfold zP.s6
    repeat refine zT ?_
    refine zw o ?_
    refine zO st ?_
    refine zDj (M:=zB3 M k r) ⟨?_,hok,hf.n1,hf.n3,zXK hf.srt⟩ (zB h)
    rw [hY,zRi,← hf.mod,hset]
   refine zF (fun hkp1=>?_) fun hkp1=>?_
   ·subst hkp1
    repeat refine zT ?_
    refine zH fun t70=>?_
    refine qN (s:=o) (esz:=5) (us:=xL (k,(r,s))) (jX rfl) (by intro v hv; exact zHK [(k,(r,s))] v (by simpa using hv)) (by simp only; omega) fun o2 ho2=>?_
    rw [show Y.flatMap xL++xL (k,(r,s)) = (Y++[(k,(r,s))]).flatMap xL by simp only [List.flatMap_append,List.flatMap_cons,List.flatMap_nil,List.append_nil]]
    refine zB (fin o2 (Y++[(k,(r,s))]) (by simpa using he) fun y hy=>?_)
    rcases List.mem_append.1 hy with hy | hy
    ·exact hok y hy
    ·rw [List.mem_singleton.1 hy]; exact ⟨hr,hv⟩
   ·subst hkp1
    exact fin o Y (by simpa using he) hok
 refine vo ?_
 refine zBE [blk r5 (.cells (jh r s).toArray yc (0,0))] ?_
 repeat refine zT ?_
 refine zF (fun hb=>?_) fun hb=>?_
 ·refine zH fun t9=>?_
  repeat refine zT ?_
  exact rows t9 true (by simp [hb])
 ·repeat refine zT ?_
  refine zH fun t9=>?_
  repeat refine zT ?_
  refine rows t9 _ ?_
  have:=hr.1
  simp only [hb,decide_eq_true_eq,true_and]
  omega
theorem zXL {k:ByteArray} {to:Int} {Q:Int→K} (hk:k.size < 1000000000000) (hL:M.length < 10000000) (h:HG B (uO st n (je n M k to).1 P::Γ) (Q (je n M k to).2)):HG B (uO st n M P::Γ) (xM.call (some ⟨st,0,none⟩) k to Q):=by
 refine fun w hw=>zIK _ _ _ _ _ ?_
 refine hg hw ?_
 clear hw w
 unfold xM
 have bad:to < 0∨(n:Int) ≤ to→∀ s0,HG B (uO st n M P::Γ) (xM.s1 Q s0 k to true):=fun hb s0=>by
  unfold xM.s1
  refine s_t ?_
  rw [show je n M k to = (M,1) by unfold je; rw [if_pos hb]] at h
  exact h
 refine zF (fun hb=>bad (.inl (by simpa using hb)) _) fun hb=>?_
 refine uP ?_
 refine zKR fun rs X hf=>?_
 repeat refine zT ?_
 refine zDj hf ?_
 by_cases hb2:(n:Int) ≤ to
 ·rw [show decide ((n:Int) ≤ to) = true by simpa using hb2]
  exact bad (.inr hb2) _
 rw [show decide ((n:Int) ≤ to) = false by simpa using hb2]
 have hnb:¬ (to < 0∨(n:Int) ≤ to):=by
  simp only [decide_eq_false_iff_not] at hb
  omega
 unfold xM.s1
 refine s_f ?_
 refine zGI hk (by omega) fun s hok hv=>?_
 generalize hR:zx n M k = r at *
 refine zH fun r7=>?_
 refine qA (b:=r7) (l':=jh r s) ?_
 repeat refine zT ?_
 refine zF (fun hc=>?_) fun hc=>?_
 ·rw [show je n M k to = (M,111) by unfold je; rw [if_neg hnb,hR,if_pos (by simpa using hc)]] at h
  exact zB h
 have hc':r.cnt ≠ 18446744073709551615:=by simpa using hc
 obtain ⟨o1,o2,o3⟩:=hok
 repeat refine zT ?_
 refine zAW (zA0 (by omega) (by omega)) ?_
 repeat refine zT ?_
 refine zO st ?_
 refine zLy (r:={ r with home:=to,cnt:=r.cnt + 1 }) ⟨by simp only; omega,by simp only; omega,o3⟩ hv hL ?_
 have e:je n M k to = (zB3 M k { r with home:=to,cnt:=r.cnt + 1 },0):=by
  unfold je zB3
  rw [if_neg hnb,hR,if_neg hc',if_neg fun hh=>by simp only at hh; omega]
 rw [e] at h
 exact zB h
end
end
section
open Go Go.Sep
abbrev OX:=List ((Bool×List UInt8)×Sl)
def oF (x:(Bool×List UInt8)×Sl):List Value:=[.bool x.1.1,x.2.val]
theorem zGJ (x:(Bool×List UInt8)×Sl):(oF x).length = 2:=rfl
abbrev oB (x:(Bool×List UInt8)×Sl):zC:=Bytes yK x.2 x.1.2
end
section
open Go Go.Sep
theorem zcQ:zFt Tryz.prog uw .string yc:=⟨9,by kernel_rfl,by kernel_rfl⟩
section
variable {B w:World} {Γ:List zC} {β:Type} {cV:β→Value}
theorem zHM {mb t1:Nat} {m:List (List UInt8×β)} {k:Sl→K} (hm:m.length ≤ 1000000) (h:Holds B (blk t1 (.cells #[.map (some mb)] uw (0,0))::xE qb cV mb m::Γ) w)
  (hk:∀ s ss w,ss.Perm (m.map Prod.fst)→Holds B (SlS s ss::xE qb cV mb m::Γ) w→k s w):uj.call (.func (.func 228) #[] #[.pointer (some ⟨t1,0,none⟩)]) k w:=by
 refine zFX _ _ _ ?_
 unfold uj
 refine zC1 _ _ _ _ ?_
 unfold vD
 refine zQq h ?_
 clear h
 intro s2 w h
 try simp only [uT,Nat.zero_add,Nat.reduceAdd]
 refine zWN h rfl (by kernel_rfl) fun D l r w hr1 hr2 h hy=>?_
 refine zMF (zAT (yv l) ⟨t1,0,none⟩ (fun w3=>∃ Δ,Holds B (blk l (.loop r)::Δ) w3∧∀ w,Holds B Δ w→(Ld ⟨s2,0,none⟩ Sl.val fun t12=>jm D (k t12)) w) w ?_) fun v w h=>h.2
 unfold zq
 refine zay (x:=(some mb)) h rfl (by first | with_reducible exact M0 | with_reducible exact M1 | with_reducible exact M2 | with_reducible exact M3 | with_reducible exact M4 | with_reducible exact M5 | with_reducible exact M6 | with_reducible exact M7 | with_reducible exact M8 | with_reducible exact M9 | with_reducible exact M10 | with_reducible exact M11 | with_reducible exact M12) ?_ ?_
 ·exact rfl
 replace h:=P3 h
 replace h:=P3 h
 replace h:=P3 h
 replace h:=P3 h
 replace h:=P4 h
 try simp only [N1,N2,N3,N4,N5,N6,N7] at h
 refine zUW zcQ h fun r2 w h=>?_
 replace h:=h.del 4 at4
 try simp only [N1,N2,N3,N4,N5,N6,N7] at h
 have h0:=(h.zAm ug 1)
 refine yJ.of (fun _ w=>∃ (o:Sl) (ss:List (List UInt8)) (left:List (List UInt8×β)) (cur:Option (List UInt8×β)),(ss++left.map Prod.fst).Perm (m.map Prod.fst) ∧
   Holds B (blk l (.loop r)::blk D (.deferred (some []))::blk s2 (.cells #[o.val] zBA (0,0))::SlS o ss::zAo qb cV mb r2 m left cur::Γ) w)
  (fun _ w=>zQA r2 m.length w) ⟨⟨none,0,0⟩,[],m,none,List.Perm.refl _,?_⟩ ?_
 ·replace h:=h0
  replace h:=P1 h
  replace h:=P1 h
  replace h:=P4 h
  replace h:=P4 h
  replace h:=P4 h
  try simp only [N1,N2,N3,N4,N5,N6,N7] at h
  exact h
 clear h h0
 rintro _ w ⟨o,ss,left,cur,hperm,h⟩
 have hcnt:=zRa (h.pick 4 at4)
 have hlen:=hperm.length_eq
 simp only [List.length_append,List.length_map] at hlen
 unfold zq.b1
 replace h:=P3 h
 replace h:=P3 h
 replace h:=P3 h
 replace h:=P3 h
 replace h:=P4 h
 try simp only [N1,N2,N3,N4,N5,N6,N7] at h
 refine zXB h (fun hl0 w h=>?_) (fun l1 p l2 w hl1 hpm h=>?_)
 ·refine ⟨_,false,rfl,rfl,?_⟩
  refine zO4 rfl ?_
  replace h:=P4 h
  replace h:=P4 h
  replace h:=P4 h
  replace h:=P4 h
  try simp only [N1,N2,N3,N4,N5,N6,N7] at h
  refine ⟨_,h,fun w h=>?_⟩
  refine zay (x:=o) h rfl (by first | with_reducible exact M0 | with_reducible exact M1 | with_reducible exact M2 | with_reducible exact M3 | with_reducible exact M4 | with_reducible exact M5 | with_reducible exact M6 | with_reducible exact M7 | with_reducible exact M8 | with_reducible exact M9 | with_reducible exact M10 | with_reducible exact M11 | with_reducible exact M12) ?_ ?_
  ·exact rfl
  refine zTh h fun w h=>?_
  replace h:=P2 h
  replace h:=P2 h
  replace h:=D2 h
  try simp only [N1,N2,N3,N4,N5,N6,N7] at h
  rw [hl0] at hperm
  simp only [List.map_nil,List.append_nil] at hperm
  exact hk o ss _ hperm h
 ·refine ⟨_,true,rfl,rfl,?_⟩
  refine zTg rfl ?_
  refine zUX h ?_
  refine ⟨_,bs p.1,rfl,rfl,?_⟩
  replace h:=P4 h
  replace h:=P4 h
  replace h:=P4 h
  replace h:=P4 h
  try simp only [N1,N2,N3,N4,N5,N6,N7] at h
  refine zMG (hy (bs p.1) (fun w=>∃ o',Holds B (blk l (.loop r)::blk D (.deferred (some []))::blk s2 (.cells #[Sl.val o'] zBA (0,0))::SlS o' (ss++[p.1])::zAo qb cV mb r2 m (l1++l2) (some p)::Γ) w) w _ h fun W h=>?_) fun v w hv=>?_
  ·have hon:ss.length = o.n:=by have:=(h.pick 3 at3).zMS.1; simpa using this
   refine zay (x:=o) h rfl (by first | with_reducible exact M0 | with_reducible exact M1 | with_reducible exact M2 | with_reducible exact M3 | with_reducible exact M4 | with_reducible exact M5 | with_reducible exact M6 | with_reducible exact M7 | with_reducible exact M8 | with_reducible exact M9 | with_reducible exact M10 | with_reducible exact M11 | with_reducible exact M12) ?_ ?_
   ·exact rfl
   refine zQq h ?_
   clear h
   intro t10 w h
   try simp only [uT,Nat.zero_add,Nat.reduceAdd]
   refine zMQ (us:=[qb p.1]) (h.pick 4 at4) (by kernel_rfl) (by kernel_rfl) (by':=16) (by kernel_rfl) zMN rfl (RdC.zMR (E:=ug) (b:=t10) (n:=1) (vs:=[qb p.1]) (cs:=#[qb p.1]) h List.mem_cons_self rfl rfl 1) (by simp [yu]) (by simp only; omega) (by decide) fun o' w h _ _=>?_
   try simp only [N1,N2,N3,N4,N5,N6,N7] at h
   first | refine S0 h rfl ?_ rfl ?_ | refine S1 h rfl ?_ rfl ?_ | refine S2 h rfl ?_ rfl ?_ | refine S3 h rfl ?_ rfl ?_ | refine S4 h rfl ?_ rfl ?_ | refine S5 h rfl ?_ rfl ?_ | refine S6 h rfl ?_ rfl ?_ | refine S7 h rfl ?_ rfl ?_ | refine S8 h rfl ?_ rfl ?_
   ·first | exact Nat.lt_of_ble_eq_true rfl | (simp; done) | (simp; omega)
   clear h
   intro w h
   try simp only [N1,N2,N3,N4,N5,N6,N7] at h
   replace h:=P5 h
   replace h:=P1 h
   replace h:=P5 h
   replace h:=P5 h
   replace h:=P5 h
   replace h:=D5 h
   try simp only [N1,N2,N3,N4,N5,N6,N7] at h
   refine za0 h fun w h=>?_
   have e:({ ({ r with state:=.busy }:Loop) with state:=.ready,pending:=none }:Loop) = r:=by
    cases r
    simp only at hr1 hr2
    simp only [hr1,hr2]
   rw [e] at h
   refine ⟨o',?_⟩
   have e2:ss.map qb++[qb p.1] = (ss++[p.1]).map qb:=by simp
   rw [e2] at h
   exact h
  ·obtain ⟨rfl,o',h⟩:=hv
   refine ⟨true,rfl,?_⟩
   refine zO4 rfl ?_
   have hcnt2:=zRa (h.pick 4 at4)
   refine ⟨⟨o',_,_,_,?_,h⟩,?_⟩
   ·refine List.Perm.trans ?_ hperm
    rw [hl1]
    simp only [List.map_append,List.map_cons,List.append_assoc]
    refine List.Perm.append_left _ ?_
    show (p.1::(l1.map Prod.fst++l2.map Prod.fst)).Perm _
    exact List.perm_middle.symm
   ·rw [hcnt,hcnt2,hl1]
    simp
theorem zJm {mb:Nat} {m:List (List UInt8×β)} {k:Sl→K} (hm:m.length ≤ 1000000) (h:Holds B (xE qb cV mb m::Γ) w)
  (hk:∀ s w,Holds B (SlS s (zC3 (m.map Prod.fst))::xE qb cV mb m::Γ) w→k s w) :
  yT.call (some mb) (fun t7=>jL.call t7 k) w:=by
 refine zAe _ _ _ ?_
 unfold yT
 refine zQq h ?_
 clear h
 intro m1 w h
 try simp only [uT,Nat.zero_add,Nat.reduceAdd]
 refine zFo _ _ _ ?_
 unfold jL
 refine zHM hm h fun s ss w hp h=>?_
 have hl:=hp.length_eq
 rw [List.length_map] at hl
 refine zFx (by omega) h fun w h=>?_
 rw [zSr hp] at h
 exact hk _ _ h
end
end
section
open Go Go.Sep
section
variable {B w:World} {Γ:List zC}
theorem zXM {s:Sl} {xs:List UInt8} {j:Nat} {x:UInt8} {k:Int→K} (hr:RdB w s xs) (hx:xs[j]? = some x) (hk:k (x.toNat:Int) w):Idx s (j:Int) 1 (fun t=>Ld t (Value.int .u8) k) w:=by
 have e:xs.map ji = (xs.map fun b=>(b.toNat:Int)).map (Value.int .u8):=by rw [List.map_map]; rfl
 have hr2:RdC w s 1 ((xs.map fun b=>(b.toNat:Int)).map (Value.int .u8)):=by rw [← e]; exact hr
 exact zWl hr2 (by rw [List.getElem?_map,hx]; rfl) hk
theorem zVY {b n:Nat} {cs:Array Value} {xs:List UInt8} (hc:cs.toList = xs.map ji) (hn:xs.length = n) (h:Holds B (blk b (.cells cs yK (0,0))::Γ) w):Holds B (Bytes yK ⟨some ⟨b,0,none⟩,n,n⟩ xs::Γ) w :=
 h.imp (zAB hc (by simp [hn]))
theorem Bytes.len {s:Sl} {xs:List UInt8} (h:Holds B (Bytes yK s xs::Γ) w):xs.length = s.n:=by have:=h.zMS.1; simpa using this
theorem Bytes.rd {s:Sl} {xs:List UInt8} (h:Holds B Γ w) (hm:Bytes yK s xs ∈ Γ):RdB w s xs:=h.rdC (E:=yK) hm
end
end
section
open Go Go.Sep
def zKS (xs:List UInt8):Nat:=xs.foldl (fun n b=>n * 256 + b.toNat) 0
theorem zKT (xs:List UInt8) (x:UInt8):zKS (xs++[x]) = zKS xs * 256 + x.toNat:=by
 unfold zKS
 rw [List.foldl_append]
 rfl
theorem zUg:∀ (j:Nat) (xs:List UInt8),xs.length = j→zKS xs < 256 ^ j:=by
 intro j
 induction j with
 | zero=>
  intro xs h
  have:xs = []:=List.length_eq_zero_iff.1 h
  subst this
  decide
 | succ j ih=>
  intro xs h
  have hne:xs ≠ []:=fun e=>by rw [e] at h; cases h
  have e:xs = xs.dropLast++[xs.getLast hne]:=(List.dropLast_concat_getLast hne).symm
  have h1:=ih xs.dropLast (by simp; omega)
  have h2:=UInt8.toNat_lt (xs.getLast hne)
  rw [e,zKT,Nat.pow_succ]
  omega
theorem or8 (m b:Nat) (hm:m * 256 < 2 ^ 64) (hb:b < 256):bitsOf .or .u64 ((m * 256:Nat):Int) (b:Int) = ((m * 256 + b:Nat):Int):=by
 unfold bitsOf
 simp only
 have h1:(BitVec.ofInt (IntKind.bits .u64) ((m * 256:Nat):Int) ||| BitVec.ofInt (IntKind.bits .u64) (b:Int)).toNat = m * 256 + b:=by
  show (BitVec.ofInt 64 ((m * 256:Nat):Int) ||| BitVec.ofInt 64 (b:Int)).toNat = _
  rw [BitVec.toNat_or,BitVec.ofInt_natCast,BitVec.ofInt_natCast,BitVec.toNat_ofNat,BitVec.toNat_ofNat,Nat.mod_eq_of_lt (by omega),Nat.mod_eq_of_lt (by omega)]
  have h4:=Nat.two_pow_add_eq_or_of_lt (i:=8) (b:=b) (by omega) m
  have h5:2 ^ 8 * m = m * 256:=by omega
  rw [h5] at h4
  omega
 rw [h1,zA0 (by omega) (by omega)]
theorem zUh {j:Nat} (h:j ≤ 7):256 ^ j ≤ 72057594037927936:=by
 have:=Nat.pow_le_pow_right (n:=256) (by decide) h
 have e:(256:Nat) ^ 7 = 72057594037927936:=by decide
 omega
section
variable {B w:World} {Γ:List zC}
theorem zKU {s:Sl} {xs:List UInt8} {k:Int→Bool→K} (hr:RdB w s xs) (hk:k (if xs.length = 8 then IntKind.wrap .i64 (zKS xs:Int) else 0) (decide (xs.length = 8)) w):zAF.call s k w:=by
 have hn:xs.length = s.n:=by have:=hr.len; simpa using this
 refine zMr _ _ _ ?_
 unfold zAF
 refine zMD (fun hb=>?_) (fun hb=>?_)
 ·have h8:¬ xs.length = 8:=by simp only [decide_eq_true_eq] at hb; omega
  rw [if_neg h8,decide_eq_false h8] at hk
  exact hk
 ·have h8:xs.length = 8:=by simp only [decide_eq_false_iff_not,Decidable.not_not] at hb; omega
  rw [if_pos h8,decide_eq_true h8] at hk
  refine yJ.of (fun t w1=>∃ j:Nat,t = ((zKS (xs.take j):Int),(j:Int))∧j ≤ 8∧w1 = w) (fun t _=>((8:Int) - t.2).toNat) ⟨0,rfl,by omega,rfl⟩ ?_
  rintro t w1 ⟨j,rfl,hj,rfl⟩
  dsimp only
  unfold zAF.b1
  refine zMD (fun hlt=>?_) (fun hge=>?_)
  ·simp only [decide_eq_true_eq] at hlt
   have hx:xs[j]? = some xs[j]:=List.getElem?_eq_getElem (by omega)
   have htk:xs.take (j + 1) = xs.take j++[xs[j]]:=List.take_succ_eq_append_getElem (by omega)
   generalize xs[j] = x at hx htk
   refine zXM hr hx ?_
   have hlt8:=zUg j (xs.take j) (by rw [List.length_take]; omega)
   have hp:=zUh (j:=j) (by omega)
   have hxb:=UInt8.toNat_lt x
   refine zYo (by decide) ?_
   refine zFg (e':=((zKS (xs.take j) * 256:Nat):Int)) (by
    unfold zN3
    have:min ((8:Int).toNat) (IntKind.bits .u64) = 8:=rfl
    rw [this,zA0 (by omega) (by omega)]
    omega) ?_
   refine zFg (zA0 (by omega) (by omega)) ?_
   refine zFg (or8 _ _ (by omega) hxb) ?_
   refine zO5 (by omega) (by omega) ?_
   exact ⟨⟨j + 1,by rw [htk,zKT]; rfl,by omega,rfl⟩,by omega⟩
  ·simp only [decide_eq_false_iff_not] at hge
   have:j = 8:=by omega
   subst this
   rw [List.take_of_length_le (by omega)]
   exact zFg rfl hk
theorem zJn {s:Sl} {xs:List UInt8} {k:Int→Bool→K} (hr:RdB w s xs) (hk:k (if xs.length = 8 then IntKind.wrap .i64 (zKS xs:Int) else 0) (decide (xs.length = 8)) w):j5.call s k w:=by
 have hn:xs.length = s.n:=by have:=hr.len; simpa using this
 refine zLJ _ _ _ ?_
 unfold j5
 refine zMD (fun hb=>?_) (fun hb=>?_)
 ·have h8:¬ xs.length = 8:=by simp only [decide_eq_true_eq] at hb; omega
  rw [if_neg h8,decide_eq_false h8] at hk
  exact hk
 ·have h8:xs.length = 8:=by simp only [decide_eq_false_iff_not,Decidable.not_not] at hb; omega
  rw [if_pos h8,decide_eq_true h8] at hk
  refine yJ.of (fun t w1=>∃ j:Nat,t = ((zKS (xs.take j):Int),(j:Int))∧j ≤ 8∧w1 = w) (fun t _=>((8:Int) - t.2).toNat) ⟨0,rfl,by omega,rfl⟩ ?_
  rintro t w1 ⟨j,rfl,hj,rfl⟩
  dsimp only
  unfold j5.b1
  refine zMD (fun hlt=>?_) (fun hge=>?_)
  ·simp only [decide_eq_true_eq] at hlt
   have hx:xs[j]? = some xs[j]:=List.getElem?_eq_getElem (by omega)
   have htk:xs.take (j + 1) = xs.take j++[xs[j]]:=List.take_succ_eq_append_getElem (by omega)
   generalize xs[j] = x at hx htk
   have hlt8:=zUg j (xs.take j) (by rw [List.length_take]; omega)
   have hp:=zUh (j:=j) (by omega)
   have hxb:=UInt8.toNat_lt x
   refine zFg (e':=((zKS (xs.take j) * 256:Nat):Int)) (by rw [zA0 (by omega) (by omega)]; omega) ?_
   refine zXM hr hx ?_
   refine zFg (zA0 (by omega) (by omega)) ?_
   refine zFg (e':=((zKS (xs.take j) * 256 + x.toNat:Nat):Int)) (by rw [zA0 (by omega) (by omega)]; omega) ?_
   refine zO5 (by omega) (by omega) ?_
   exact ⟨⟨j + 1,by rw [htk,zKT]; rfl,by omega,rfl⟩,by omega⟩
  ·simp only [decide_eq_false_iff_not] at hge
   have:j = 8:=by omega
   subst this
   rw [List.take_of_length_le (by omega)]
   exact zFg rfl hk
end
end
section
open Go Go.Sep
section
variable {B w:World} {Γ:List zC}
theorem zUi {k:Sl→K} (h:Holds B Γ w) (hk:∀ s w,Holds B (Bytes yK s (List.replicate 8 0)::Γ) w→k s w):Do Tryz.prog (Instr.makeSlice zIi (.int .i64 8) (.int .i64 8)) Sl.val k w:=by
 have h1:=Go.run_make_row' (P:=Tryz.prog) zIi yK (.int .u8 0) 1 (by kernel_rfl) (by kernel_rfl) rfl .i64 .i64 8 (by decide) (by decide) w
 refine ⟨⟨some ⟨w.heap.size,0,none⟩,8,8⟩,_,h1,hk _ _ ?_⟩
 have h2:=h.alloc (.cells (madeCells #[.int .u8 0] 8) yK (0,0))
 exact zVY (by kernel_rfl) (by simp) h2
end
end
section
open Go Go.Sep
def u8 (n:Nat):UInt8:=UInt8.ofNat n
theorem u8N (n:Nat):(u8 n).toNat = n % 256:=by simp [u8,UInt8.toNat_ofNat']
theorem zRk (n:Nat):IntKind.wrap .u8 (n:Int) = ((u8 n).toNat:Int):=by
 rw [u8N]
 unfold IntKind.wrap
 simp [IntKind.bits,IntKind.signed]
end
section
open Go Go.Sep
def zF1 (u i:Nat):List UInt8:=(List.range 8).map fun j=>if 8 ≤ j + i then u8 (u / 256 ^ (7 - j)) else 0
theorem zMz (u:Nat):∀ i,i < 8→(zF1 u i).set (7 - i) (u8 (u / 256 ^ i)) = zF1 u (i + 1)
 | 0,_=>rfl
 | 1,_=>rfl
 | 2,_=>rfl
 | 3,_=>rfl
 | 4,_=>rfl
 | 5,_=>rfl
 | 6,_=>rfl
 | 7,_=>rfl
theorem zVZ (u i:Nat):(zF1 u i).length = 8:=by simp [zF1]
def uOf (n:Int):Nat:=(IntKind.wrap .u64 n).toNat
theorem zXN (n:Int):uOf n < 2 ^ 64∧IntKind.wrap .u64 n = (uOf n:Int):=by
 have h:0 ≤ IntKind.wrap .u64 n∧IntKind.wrap .u64 n < 2 ^ 64:=by
  unfold IntKind.wrap
  simp only [IntKind.bits,IntKind.signed,Bool.false_and,Bool.false_eq_true,if_false]
  omega
 unfold uOf
 omega
section
variable {B w:World} {Γ:List zC}
theorem zLO {n:Int} {k:Sl→K} (h:Holds B Γ w) (hk:∀ s w,Holds B (Bytes yK s (zF1 (uOf n) 8)::Γ) w→k s w):zBL.call n k w:=by
 obtain ⟨hu1,hu2⟩:=zXN n
 refine zNj _ _ _ ?_
 unfold zBL
 refine zUi h fun s w h=>?_
 have hsn:=Bytes.len h
 simp only [List.length_replicate] at hsn
 refine yJ.of (fun t w=>∃ i:Nat,t = (i:Int)∧i ≤ 8∧Holds B (Bytes yK s (zF1 (uOf n) i)::Γ) w) (fun t _=>((8:Int) - t).toNat) ⟨0,rfl,by omega,h⟩ ?_
 clear h
 rintro t w ⟨i,rfl,hi,h⟩
 unfold zBL.b1
 refine zMD (fun hlt=>?_) (fun hge=>?_)
 ·simp only [decide_eq_true_eq] at hlt
  refine zFg (e':=((7 - i:Nat):Int)) (by rw [wrap64 (by omega) (by omega)]; omega) ?_
  refine zFg hu2 ?_
  refine zFg (e':=((8 * i:Nat):Int)) (by rw [wrap64 (by omega) (by omega)]; omega) ?_
  refine zYo (by omega) ?_
  refine zFg (e':=((uOf n / 256 ^ i:Nat):Int)) (by
   unfold zGv
   have:min (((8 * i:Nat):Int).toNat) (IntKind.bits .u64) = 8 * i:=by simp [IntKind.bits]; omega
   rw [this,Int.fdiv_eq_ediv_of_nonneg _ (Int.le_of_lt (Int.pow_pos (by decide))),Nat.pow_mul 2 8 i |> fun e=>show (2:Int) ^ (8 * i) = ((256 ^ i:Nat):Int) by rw [Int.pow_mul]; rw [Int.natCast_pow]; rfl,← Int.natCast_ediv]) ?_
  refine zFg (zRk _) ?_
  refine zUJ h (by omega) rfl fun w h=>?_
  have e1:((zF1 (uOf n) i).map ji).set (7 - i) (Value.int .u8 ((u8 (uOf n / 256 ^ i)).toNat:Int)) = (zF1 (uOf n) (i + 1)).map ji:=by
   rw [← zMz _ i (by omega),List.map_set]
   rfl
  rw [e1] at h
  refine zO5 (by omega) (by omega) ?_
  exact ⟨⟨i + 1,by omega,by omega,h⟩,by omega⟩
 ·simp only [decide_eq_false_iff_not] at hge
  have:i = 8:=by omega
  subst this
  exact hk _ _ h
theorem zZW (n:Nat):u8 (n % 256) = u8 n:=by
 apply UInt8.toNat_inj.1
 rw [u8N,u8N,Nat.mod_mod]
theorem zKV {n:Int} {k:Sl→K} (h:Holds B Γ w) (hk:∀ s w,Holds B (Bytes yK s (zF1 (uOf n) 8)::Γ) w→k s w):zAl.call n k w:=by
 obtain ⟨hu1,hu2⟩:=zXN n
 refine zMt _ _ _ ?_
 unfold zAl
 refine zUi h fun s w h=>?_
 have hsn:=Bytes.len h
 simp only [List.length_replicate] at hsn
 refine zFg hu2 ?_
 refine yJ.of (fun t w=>∃ i:Nat,t = (((uOf n / 256 ^ i:Nat):Int),(7:Int) - i)∧i ≤ 8∧Holds B (Bytes yK s (zF1 (uOf n) i)::Γ) w) (fun t _=>(t.2 + 1).toNat) ⟨0,by simp,by omega,h⟩ ?_
 clear h
 rintro t w ⟨i,rfl,hi,h⟩
 dsimp only
 have hd:uOf n / 256 ^ i ≤ uOf n:=Nat.div_le_self _ _
 unfold zAl.b1
 refine zMD (fun hlt=>?_) (fun hge=>?_)
 ·simp only [decide_eq_true_eq] at hlt
  refine zYo (by decide) ?_
  refine zFg (e':=((uOf n / 256 ^ i % 256:Nat):Int)) rfl ?_
  refine zFg (zRk _) ?_
  rw [show (7:Int) - (i:Int) = ((7 - i:Nat):Int) by omega]
  refine zUJ h (by omega) rfl fun w h=>?_
  have e1:((zF1 (uOf n) i).map ji).set (7 - i) (Value.int .u8 ((u8 (uOf n / 256 ^ i % 256)).toNat:Int)) = (zF1 (uOf n) (i + 1)).map ji:=by
   rw [← zMz _ i (by omega),List.map_set,zZW]
   rfl
  rw [e1] at h
  refine zYo (by decide) ?_
  refine zFg (e':=((uOf n / 256 ^ (i + 1):Nat):Int)) (by
   rw [Nat.pow_succ,← Nat.div_div_eq_div_mul]
   generalize uOf n / 256 ^ i = z at hd ⊢
   show IntKind.wrap .u64 ((z / 256:Nat):Int) = _
   exact zA0 (by omega) (by omega)) ?_
  refine zFg (e':=(7:Int) - ((i + 1:Nat):Int)) (by rw [wrap64 (by omega) (by omega)]; omega) ?_
  exact ⟨⟨i + 1,rfl,by omega,h⟩,by omega⟩
 ·simp only [decide_eq_false_iff_not] at hge
  have:i = 8:=by omega
  subst this
  exact hk _ _ h
end
end
end Go.Proofs.YtdemfamgieonbaaGreat
