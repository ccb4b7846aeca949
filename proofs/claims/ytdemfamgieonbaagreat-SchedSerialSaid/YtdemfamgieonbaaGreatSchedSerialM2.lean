/- Texts of the claim SchedSerial, one behind the other. -/
import Derived.Test.YtdemfamgieonbaaGreatSchedSerialM1
import Derived.Laws.BytesString
import Derived.Laws.Strings
import Derived.Lib.Overlaps
import Derived.MapKept
import GoSem.Instr.MapUpdate
set_option linter.all false
set_option maxRecDepth 100000
namespace Go.Sep
section
open Go Go.RowKit
section
variable {P:Program} {B w:World} {Γ:List zC} {E esz:Nat} {s:Sl} {vs:List Value}
theorem SlC.take {m:Nat} (hm:m ≤ s.n) (g:Hp) (h:SlC E esz s vs g):SlC E esz ⟨s.a,m,s.c⟩ (vs.take (m * esz)) g:=by
 obtain ⟨hl,hc,hs⟩:=h
 have h1:m * esz ≤ vs.length:=by rw [hl]; exact Nat.mul_le_mul_right _ hm
 refine ⟨by simp only [List.length_take]; omega,by simp only; omega,?_⟩
 cases ha:s.a with
 | none=>rw [ha] at hs; exact hs
 | some a=>
  rw [ha] at hs
  obtain ⟨hsp,cs,fz,hb,hf,hsz,hv⟩:=hs
  refine ⟨hsp,cs,fz,hb,hf,hsz,fun i hi=>?_⟩
  rw [List.length_take] at hi
  rw [List.getElem?_take,if_pos (by omega)]
  exact hv i (by omega)
theorem RdC.drop {l c:Nat} (h:RdC w s esz vs) (hl:l ≤ s.n) (hc:s.n ≤ c) (hsp:∀ a,s.a = some a→a.spot = none):RdC w ⟨zCE s.a l c esz,s.n - l,c - l⟩ esz (vs.drop (l * esz)):=by
 have h1:=h.len
 refine ⟨by rw [List.length_drop,h1,← Nat.sub_mul],fun hn=>?_,fun a ha i hi=>?_⟩
 ·simp only at hn ⊢
  unfold zCE at hn
  split at hn
  ·have:=h.nil hn; omega
  ·cases hx:s.a with
   | none=>have:=h.nil hx; omega
   | some a=>rw [hx] at hn; cases hn
 ·simp only at ha
  rw [List.length_drop] at hi
  unfold zCE at ha
  split at ha
  ·rename_i hcl
   have:s.n = l:=by omega
   rw [h1,this] at hi
   omega
  ·cases hx:s.a with
   | none=>rw [hx] at ha; cases ha
   | some a0=>
    rw [hx] at ha
    simp only [Option.map_some,Option.some.injEq] at ha
    subst ha
    rw [add_add' _ (hsp a0 hx),h.at' a0 hx _ (by omega),List.getElem?_drop]
theorem RdC.take {m c:Nat} (h:RdC w s esz vs) (hm:m ≤ s.n):RdC w ⟨s.a,m,c⟩ esz (vs.take (m * esz)):=by
 have h1:=h.len
 have h2:m * esz ≤ vs.length:=by rw [h1]; exact Nat.mul_le_mul_right _ hm
 refine ⟨by simp only [List.length_take]; omega,fun hn=>?_,fun a ha i hi=>?_⟩
 ·have:=h.nil hn; simp only; omega
 ·rw [List.length_take] at hi
  rw [List.getElem?_take,if_pos (by omega)]
  exact h.at' a ha i (by omega)
theorem Holds.zMS (h:Holds B (SlC E esz s vs::Γ) w):vs.length = s.n * esz∧s.n ≤ s.c∧(∀ a,s.a = some a→a.spot = none)∧(s.a = none→s.c = 0):=by
 refine h.fact fun g hg=>⟨hg.1,hg.2.1,fun a ha=>?_,fun ha=>?_⟩
 ·have:=hg.2.2; rw [ha] at this; exact this.1
 ·have:=hg.2.2; rw [ha] at this; exact this
theorem zG3 (z:Array Value) (n:Nat) (hz:∀ v ∈ z.toList,yu v = true):∀ v ∈ (Builtin.zeroCells z n).toList,yu v = true:=by
 intro v hv
 simp only [Builtin.zeroCells,Array.toList_map,List.mem_map] at hv
 obtain ⟨i,hi,rfl⟩:=hv
 have hi':i < n * z.size:=by simpa using hi
 have hpos:0 < z.size:=Nat.pos_of_ne_zero fun h0=>by rw [h0] at hi'; simp at hi'
 have hlt:i % z.size < z.size:=Nat.mod_lt _ hpos
 rw [getElem!_pos z (i % z.size) hlt]
 exact hz _ (by simp)
theorem zZF {T t:Nat} {l q m:Nat} {zv:Value} {k:Value→K} (h:Holds B (SlC E esz s vs::Γ) w) (hT:sliceT P T E esz = true) (hz:zBl P E zv) (hzs:zv.cells.size = esz) (hzf:∀ v ∈ zv.cells.toList,yu v = true)
  (hl:s.n ≤ l) (hq:l + q ≤ s.c) (hm:q = 0∨m ≠ l) {x:Sl} (hx:x = ⟨zCE s.a l m esz,q,m - l⟩) (hk:∀ w',Holds B (SlC E esz s vs::Γ) w'→k (.tuple #[]) w') :
  Do P (Builtin.clear_ #[T] t #[x.val]) id k w:=by
 subst hx
 obtain ⟨hsl,hsz⟩:=zAC hT
 have hsn:=h.zMS
 have hg0:(#[T]:Array TypeId)[0]? = some T:=rfl
 by_cases hq0:q = 0
 ·subst hq0
  refine ⟨.tuple #[],w,?_,hk w h⟩
  unfold Builtin.clear_
  have hv0:(#[Sl.val ⟨zCE s.a l m esz,0,m - l⟩]:Array Value)[0]? = some (Sl.val ⟨zCE s.a l m esz,0,m - l⟩):=rfl
  simp only [hg0,hv0]
  simp only [Sem.run_bind,run_underlying hsl,Result.andThen,Sl.val]
  cases zCE s.a l m esz <;> simp
 ·have hml:m ≠ l:=hm.resolve_left hq0
  cases ha:s.a with
  | none=>have:=hsn.2.2.2 ha; omega
  | some a=>
   have hsp:=hsn.2.2.1 a ha
   obtain ⟨b,off,sp⟩:=a
   simp only at hsp; subst hsp
   have hcut:zCE (some (⟨b,off,none⟩:Addr)) l m esz = some ⟨b,off + l * esz,none⟩:=by
    unfold zCE; rw [if_neg hml]; simp [uT]
   obtain ⟨cs,fz,hb,hf,hcap,hv⟩:∃ cs fz,w.heap[b]? = some (.cells cs E fz)∧(∀ i,off ≤ i→i < off + s.c * esz→¬ (fz.1 ≤ i∧i < fz.2))∧off + s.c * esz ≤ cs.size∧∀ i,i < vs.length→cs[off + i]? = vs[i]?:=by
    obtain ⟨_,h1,h2,⟨_,_,hs⟩,_,l1,_,_⟩:=h
    rw [ha] at hs
    obtain ⟨_,cs,fz,hb,hf,hsz,hv⟩:=hs
    exact ⟨cs,fz,zHb l1 hb,hf,hsz,hv⟩
   have hzl:(Builtin.zeroCells zv.cells q).toList.length = q * esz:=by simp [Builtin.zeroCells,hzs]
   have hmul:l * esz + q * esz ≤ s.c * esz:=by rw [← Nat.add_mul]; exact Nat.mul_le_mul_right _ hq
   have hmul2:s.n * esz ≤ l * esz:=Nat.mul_le_mul_right _ hl
   have hst:(storeCells ⟨b,off + l * esz,none⟩ (Builtin.zeroCells zv.cells q).toList).run P w = .ok () (setCells ⟨b,off + l * esz,none⟩ (Builtin.zeroCells zv.cells q).toList 0 w):=by
    refine zCF _ 0 w (zG3 _ _ hzf) fun j hj=>?_
    rw [hzl] at hj
    rw [uT]
    have hlt:off + l * esz + (0 + j) < cs.size:=by omega
    exact ⟨⟨_,vE hb (Array.getElem?_eq_getElem hlt)⟩,zA7 hb (hf _ (by omega) (by omega))⟩
   refine ⟨.tuple #[],setCells ⟨b,off + l * esz,none⟩ (Builtin.zeroCells zv.cells q).toList 0 w,?_,hk _ ?_⟩
   ·unfold Builtin.clear_
    rw [hcut]
    have hv0:(#[Sl.val ⟨some ⟨b,off + l * esz,none⟩,q,m - l⟩]:Array Value)[0]? = some (Sl.val ⟨some ⟨b,off + l * esz,none⟩,q,m - l⟩):=rfl
    simp only [hg0,hv0]
    simp only [Sem.run_bind,run_underlying hsl,Result.andThen,Sl.val]
    obtain ⟨q',rfl⟩:∃ q',q = q' + 1:=⟨q - 1,by omega⟩
    simp only [Sem.run_bind,zAx hz,Result.andThen,hst,Sem.run_pure]
    rfl
   ·rw [zBv _ _ _ _ _ hb]
    obtain ⟨sa,sn,sc⟩:=s
    simp only at ha hsn hl hq hf hcap hmul hmul2; subst ha
    have h2:Holds B (blk b (.cells cs E fz)::Γ) w:=h.imp' hb
    have h3:=h2.setBlock (o':=.cells (((Builtin.zeroCells zv.cells q).toList.zipIdx (off + l * esz + 0)).foldl (fun c p=>c.setIfInBounds p.2 p.1) cs) E fz) rfl
    refine h3.imp fun g hg=>⟨hsn.1,hsn.2.1,rfl,_,fz,hg,hf,?_,fun i hi=>?_⟩
    ·rw [fold_size]; exact hcap
    ·have:=hsn.1
     rw [zEP _ _ _ _ (by simp only; omega)]; exact hv i hi
end
end
section
open Go Go.RowKit
section
variable {w:World}
theorem all_nil:All [] w:=fun i x h=>by simp at h
theorem all_cons {x:World→Prop} {l:List (World→Prop)} (h:x w) (hl:All l w):All (x::l) w:=fun i y hy=>by
 cases i with
 | zero=>simp at hy; subst hy; exact h
 | succ i=>exact hl i y (by simpa using hy)
def za6 (P:Program) (src dst:TypeId):Bool :=
 match P.underlying src,P.underlying dst with
 | some (.slice e),some .string=>match P.underlying e with
  | some (.int .u8)=>true
  | _=>false
 | _,_=>false
theorem zVH {P:Program} {src dst:TypeId} (h:za6 P src dst = true):∃ e,P.underlying src = some (.slice e)∧P.underlying e = some (.int .u8)∧P.underlying dst = some .string:=by
 unfold za6 at h
 split at h
 ·rename_i e h1 h2
  split at h
  ·rename_i h3; exact ⟨e,h1,h3,h2⟩
  ·cases h
 ·cases h
theorem foldl_push:∀ (xs:List UInt8) (acc:List UInt8),
  (xs.map fun b=>((b.toNat:Nat):Int)).foldl (fun r n=>r.push (UInt8.ofNat n.toNat)) (ByteArray.mk acc.toArray) = ByteArray.mk (acc++xs).toArray
 | [],acc=>by simp
 | x::xs,acc=>by
  simp only [List.map_cons,List.foldl_cons,Int.toNat_natCast,UInt8.ofNat_toNat]
  have:=foldl_push xs (acc++[x])
  simp only [List.append_assoc,List.singleton_append] at this
  rw [← this]
  congr 1
  simp [ByteArray.push]
theorem zWj {P:Program} {s:Sl} {xs:List UInt8} {src dst:TypeId} {k:ByteArray→K} (hT:za6 P src dst = true) (hr:RdB w s xs) (hk:k (ByteArray.mk xs.toArray) w) :
  Rd P (convert src dst s.val) Value.string k w:=by
 refine ⟨_,?_,hk⟩
 obtain ⟨e,h1,h2,h3⟩:=zVH hT
 obtain ⟨a,n,c⟩:=s
 have hl:xs.length = n:=by have:=hr.len; simpa using this
 have:=run_convert_bytes_string (P:=P) w src dst e a n c h1 h2 h3
 rw [show (Sl.val ⟨a,n,c⟩) = .slice a n c from rfl,this]
 cases a with
 | none=>
  have hn:=hr.nil rfl
  simp only at hn
  subst hn
  have:xs = []:=by cases xs with | nil=>rfl | cons=>simp at hl
  subst this
  rfl
 | some a=>
  have h4:RdN w a (xs.map ji).toArray:=fun i hi=>by
   rw [hr.at' a rfl i (by simpa using hi)]; exact List.getElem?_toArray.symm
  have h5:=run_loadCells (P:=P) h4
  have h6:(xs.map ji) = (xs.map fun b=>((b.toNat:Nat):Int)).map (Value.int .u8):=by simp [ji,Function.comp_def]
  rw [h6] at h5
  simp only [List.size_toArray,List.length_map,hl] at h5
  rw [run_bytesToString w a n c _ h5]
  have:=foldl_push xs []
  simp only [List.nil_append] at this
  rw [← this]
  rfl
end
end
section
open Go Go.RowKit
section
variable {B w:World} {Γ:List zC}
theorem zWk (a:Addr) (m n:Nat):(a.add m).add n = a.add (m + n):=by
 obtain ⟨b,o,s⟩:=a
 unfold Addr.add
 by_cases h1:m = 0
 ·subst h1; simp
 ·by_cases h2:n = 0
  ·subst h2; simp [h1]
  ·simp [h1,h2,Nat.add_assoc]
theorem RdC.none' {esz c:Nat}:RdC w ⟨none,0,c⟩ esz []:=⟨by simp,fun _=>rfl,fun a h=>by cases h⟩
theorem zWl {α:Type} {c:α→Value} {L:List α} {s:Sl} {j:Nat} {x:α} {k:α→K} (hr:RdC w s 1 (L.map c)) (hx:L[j]? = some x) (hk:k x w) :
  Idx s (j:Int) 1 (fun t=>Ld t c k) w:=by
 have hj:j < L.length:=(List.getElem?_eq_some_iff.1 hx).1
 have hn:L.length = s.n:=by have:=hr.len; simpa using this
 cases ha:s.a with
 | none=>have:=hr.nil ha; omega
 | some a=>
  refine ⟨a,_,ha,by omega,by omega,rfl,x,?_,hk⟩
  simp only [Int.toNat_natCast,Nat.mul_one]
  rw [hr.at' a ha j (by simpa using hj)]
  simp [hx]
theorem zPn {α:Type} (f:α→List Value) (esz:Nat) (hf:∀ x,(f x).length = esz) {L:List α} {s:Sl} {i:Nat} {x:α} {a:Addr} (hr:RdC w s esz (L.flatMap f)) (ha:s.a = some a) (hx:L[i]? = some x) :
  RdN w (a.add (i * esz)) (f x).toArray:=by
 intro j hj
 have hj':j < esz:=by simpa [hf] using hj
 rw [zWk]
 have hlt:i < L.length:=(List.getElem?_eq_some_iff.1 hx).1
 have hb:i * esz + j < L.length * esz:=by
  have:i * esz + esz ≤ L.length * esz:=by rw [← Nat.succ_mul]; exact Nat.mul_le_mul_right _ hlt
  omega
 rw [hr.at' a ha _ (by rw [zX f esz hf]; exact hb),zG2 f esz hf _ _ _ hj',hx]
 exact List.getElem?_toArray.symm
theorem za7 {α:Type} (f:α→List Value) {esz:Nat} (hf:∀ x,(f x).length = esz) (he:0 < esz) {L:List α} {s:Sl} {j:Nat} {x:α} {k:Addr→Array Value→K} {cs:Array Value} (hr:RdC w s esz (L.flatMap f)) (hx:L[j]? = some x) (hcs:(f x).toArray = cs) (hk:∀ t,k t cs w) :
  Idx s (j:Int) esz (fun t=>LdN t esz (k t)) w:=by
 have hj:j < L.length:=(List.getElem?_eq_some_iff.1 hx).1
 have hn:L.length = s.n:=by
  have:=hr.len; rw [zX f esz hf] at this
  exact Nat.eq_of_mul_eq_mul_right he this
 cases ha:s.a with
 | none=>have:=hr.nil ha; omega
 | some a=>
  subst hcs
  refine ⟨a,_,ha,by omega,by omega,rfl,_,by simp [hf],?_,hk _⟩
  simp only [Int.toNat_natCast]
  exact zPn f esz hf hr ha hx
theorem SlC.cut {E esz:Nat} {s:Sl} {vs:List Value} {m:Nat} (hm:m ≤ s.n) (g:Hp) (h:SlC E esz s vs g):SlC E esz ⟨s.a,m,m⟩ (vs.take (m * esz)) g:=by
 have hc:=h.2.1
 obtain ⟨hl,_,hs⟩:=SlC.take hm g h
 refine ⟨hl,Nat.le_refl _,?_⟩
 have h1:m * esz ≤ s.c * esz:=Nat.mul_le_mul_right _ (by omega)
 cases ha:s.a with
 | none=>rw [ha] at hs; simp only at hs ⊢; omega
 | some a=>
  rw [ha] at hs
  obtain ⟨hsp,cs,fz,hb,hf,hsz,hv⟩:=hs
  exact ⟨hsp,cs,fz,hb,fun i h2 h3=>hf i h2 (by simp only at h3 ⊢; omega),by simp only at hsz ⊢; omega,hv⟩
theorem zSa {α:Type} {f:α→zC} {l:List α} (i:Nat) {x:α} (hx:l[i]? = some x) (h:Holds B (stars (l.map f)::Γ) w):Holds B (f x::stars ((l.eraseIdx i).map f)::Γ) w:=by
 have h1:=Holds.flat.1 h
 have h2:(l.map f++Γ).Perm (f x::((l.eraseIdx i).map f++Γ)):=by
  have h3:(l.map f).Perm (f x::(l.eraseIdx i).map f):=by
   have:=(zJ3 hx).map f
   simpa using this
  exact h3.append_right Γ
 have h4:Holds B (f x::((l.eraseIdx i).map f++Γ)) w:=h1.perm h2
 have h5:Holds B ((l.eraseIdx i).map f++f x::Γ) w:=h4.perm List.perm_middle.symm
 exact (Holds.flat.2 h5).swap
theorem zaa {α:Type} (c:α→Value):∀ l:List α,l.flatMap (fun b=>[c b]) = l.map c
 | []=>rfl
 | x::l=>by simp [List.flatMap_cons,zaa c l]
theorem zZG {k:IntKind} {s:Sl} (hn:s.a = none→s.n = 0∧s.c = 0)
  (h:∀ a i,s.a = some a→i < s.n→∃ cs',cs'.length = 1∧(∀ j,j < 1→w.cell? (a.add (i * 1 + j)) = cs'[j]?)∧Rdy w (.int k) cs') :
  ∃ xs:List Int,xs.length = s.n∧RdC w s 1 (xs.map (Value.int k))∧∀ x ∈ xs,(Lit.int k x).wf = true:=by
 obtain ⟨l,hl,hr,hw⟩:=zJS (e:=.int k) (fun b:Int=>[Value.int k b]) (fun b=>(Lit.int k b).wf = true) (fun _=>rfl) hn h (fun cs hc hr=>by
  obtain ⟨n,rfl,hw⟩:=hr
  exact ⟨n,rfl,hw⟩)
 rw [zaa] at hr
 exact ⟨l,hl,hr,hw⟩
theorem zKA {s:Sl} {c esz:Nat} (hsp:∀ a,s.a = some a→a.spot = none):zCE s.a 0 c esz = s.a:=by
 unfold zCE
 split
 ·rfl
 ·cases hx:s.a with
  | none=>rfl
  | some a=>
   have:=hsp a hx
   obtain ⟨b,o,sp⟩:=a
   simp only at this; subst this
   simp [uT]
def slF (E esz:Nat) (s:Sl) (vs:List Value) (a:Addr) (cs:Array Value) (fz:Nat×Nat):Prop :=
 a.spot = none∧(∀ i,a.off ≤ i→i < a.off + s.c * esz→¬ (fz.1 ≤ i∧i < fz.2))∧a.off + s.c * esz ≤ cs.size∧(∀ i,i < vs.length→cs[a.off + i]? = vs[i]?)∧vs.length = s.n * esz∧s.n ≤ s.c
theorem zMT {E esz:Nat} {s:Sl} {vs:List Value} {a:Addr} (h:Holds B (SlC E esz s vs::Γ) w) (ha:s.a = some a):∃ cs fz,Holds B (blk a.block (.cells cs E fz)::Γ) w∧slF E esz s vs a cs fz:=by
 have h1:Holds B ((ex fun cs:Array Value=>ex fun fz:Nat×Nat=>fun g=>slF E esz s vs a cs fz∧blk a.block (.cells cs E fz) g)::Γ) w:=h.imp fun g hg=>by
  obtain ⟨hl,hc,hs⟩:=hg
  rw [ha] at hs
  obtain ⟨hsp,cs,fz,hb,hf,hsz,hv⟩:=hs
  exact ⟨cs,fz,⟨hsp,hf,hsz,hv,hl,hc⟩,hb⟩
 obtain ⟨cs,h1⟩:=Holds.ex.1 h1
 obtain ⟨fz,h1⟩:=Holds.ex.1 h1
 exact ⟨cs,fz,h1.imp fun g hg=>hg.2,h1.fact fun g hg=>hg.1⟩
theorem zMU {E esz:Nat} {s:Sl} {vs:List Value} {a:Addr} {cs:Array Value} {fz:Nat×Nat} (ha:s.a = some a) (h:Holds B (blk a.block (.cells cs E fz)::Γ) w) (hF:slF E esz s vs a cs fz):Holds B (SlC E esz s vs::Γ) w :=
 h.imp fun g hg=>by
  obtain ⟨hsp,hf,hsz,hv,hl,hc⟩:=hF
  refine ⟨hl,hc,?_⟩
  rw [ha]
  exact ⟨hsp,cs,fz,hg,hf,hsz,hv⟩
theorem zWm {E esz:Nat} {s:Sl} {vs:List Value} {a:Addr} {o:Nat} {v:Value} {k:K} (h:Holds B (SlC E esz s vs::Γ) w) (ha:s.a = some a) (ho:o < vs.length) (hv:yu v = true)
  (hk:∀ w',Holds B (SlC E esz s (vs.set o v)::Γ) w'→k w'):St (a.add o) v k w:=by
 obtain ⟨cs,fz,h,hsp,hf,hsz,hr,hl,hc⟩:=zMT h ha
 have hm:vs.length ≤ s.c * esz:=by rw [hl]; exact Nat.mul_le_mul_right _ hc
 have e:a.add o = ⟨a.block,a.off + o,none⟩:=by
  obtain ⟨b,f,sp⟩:=a
  simp only at hsp; subst hsp
  exact uT _ _ _
 refine zNb 0 h e rfl (by omega) (hf _ (by omega) (by omega)) hv fun w' h=>hk w' (zMU ha h ⟨hsp,hf,by simpa using hsz,fun i hi=>?_,by simpa using hl,hc⟩)
 rw [List.length_set] at hi
 by_cases hio:o = i
 ·subst hio
  rw [List.getElem?_set_self hi]
  simp [Array.getElem?_setIfInBounds]
  omega
 ·rw [List.getElem?_set_ne hio,← hr i hi,Array.getElem?_setIfInBounds_ne (by omega)]
theorem zUJ {E:Nat} {s:Sl} {vs:List Value} {j:Nat} {v:Value} {k:K} (h:Holds B (SlC E 1 s vs::Γ) w) (hj:j < s.n) (hv:yu v = true)
  (hk:∀ w',Holds B (SlC E 1 s (vs.set j v)::Γ) w'→k w'):Idx s (j:Int) 1 (fun t=>St t v k) w:=by
 have hs:=h.zMS
 cases ha:s.a with
 | none=>have:=hs.2.2.2 ha; omega
 | some a=>
  refine ⟨a,_,ha,by omega,by omega,rfl,?_⟩
  simp only [Int.toNat_natCast,Nat.mul_one]
  exact zWm h ha (by omega) hv hk
theorem zWn {s s':Sl} (h:(Sl.val s).cells.toList = [s'.val]):s' = s:=by
 obtain ⟨a,n,c⟩:=s
 obtain ⟨a',n',c'⟩:=s'
 have h2:[Value.slice a n c] = [Value.slice a' n' c']:=h
 cases h2; rfl
theorem zWo {e:Sh} {esz:Nat} {s:Sl} (y:Rdy w (.sl e esz) (Sl.val s).cells.toList):(s.a = none→s.n = 0∧s.c = 0) ∧
  ∀ a i,s.a = some a→i < s.n→∃ cs',cs'.length = esz∧(∀ j,j < esz→w.cell? (a.add (i * esz + j)) = cs'[j]?)∧Rdy w e cs':=by
 obtain ⟨s',h,_,_,h1,h2⟩:=y
 obtain rfl:=zWn h
 exact ⟨h1,h2⟩
theorem zWp {k:IntKind} {s:Sl} (y:Rdy w (.sl (.int k) 1) (Sl.val s).cells.toList):∃ xs:List Int,RdC w s 1 (xs.map (Value.int k))∧∀ x ∈ xs,(Lit.int k x).wf = true:=by
 obtain ⟨h1,h2⟩:=zWo y
 obtain ⟨xs,_,h3,h4⟩:=zZG h1 h2
 exact ⟨xs,h3,h4⟩
end
theorem M0 { x:zC} {l:List zC}:x ∈ x::l:=List.mem_cons_self
theorem M1 {a0 x:zC} {l:List zC}:x ∈ a0::x::l:=List.mem_cons_of_mem _ (List.mem_cons_self)
theorem M2 {a0 a1 x:zC} {l:List zC}:x ∈ a0::a1::x::l:=List.mem_cons_of_mem _ (List.mem_cons_of_mem _ (List.mem_cons_self))
theorem M3 {a0 a1 a2 x:zC} {l:List zC}:x ∈ a0::a1::a2::x::l:=List.mem_cons_of_mem _ (List.mem_cons_of_mem _ (List.mem_cons_of_mem _ (List.mem_cons_self)))
theorem M4 {a0 a1 a2 a3 x:zC} {l:List zC}:x ∈ a0::a1::a2::a3::x::l:=List.mem_cons_of_mem _ (List.mem_cons_of_mem _ (List.mem_cons_of_mem _ (List.mem_cons_of_mem _ (List.mem_cons_self))))
theorem M5 {a0 a1 a2 a3 a4 x:zC} {l:List zC}:x ∈ a0::a1::a2::a3::a4::x::l:=List.mem_cons_of_mem _ (List.mem_cons_of_mem _ (List.mem_cons_of_mem _ (List.mem_cons_of_mem _ (List.mem_cons_of_mem _ (List.mem_cons_self)))))
theorem M6 {a0 a1 a2 a3 a4 a5 x:zC} {l:List zC}:x ∈ a0::a1::a2::a3::a4::a5::x::l:=List.mem_cons_of_mem _ (List.mem_cons_of_mem _ (List.mem_cons_of_mem _ (List.mem_cons_of_mem _ (List.mem_cons_of_mem _ (List.mem_cons_of_mem _ (List.mem_cons_self))))))
theorem M7 {a0 a1 a2 a3 a4 a5 a6 x:zC} {l:List zC}:x ∈ a0::a1::a2::a3::a4::a5::a6::x::l:=List.mem_cons_of_mem _ (List.mem_cons_of_mem _ (List.mem_cons_of_mem _ (List.mem_cons_of_mem _ (List.mem_cons_of_mem _ (List.mem_cons_of_mem _ (List.mem_cons_of_mem _ (List.mem_cons_self)))))))
theorem M8 {a0 a1 a2 a3 a4 a5 a6 a7 x:zC} {l:List zC}:x ∈ a0::a1::a2::a3::a4::a5::a6::a7::x::l:=List.mem_cons_of_mem _ (List.mem_cons_of_mem _ (List.mem_cons_of_mem _ (List.mem_cons_of_mem _ (List.mem_cons_of_mem _ (List.mem_cons_of_mem _ (List.mem_cons_of_mem _ (List.mem_cons_of_mem _ (List.mem_cons_self))))))))
theorem M9 {a0 a1 a2 a3 a4 a5 a6 a7 a8 x:zC} {l:List zC}:x ∈ a0::a1::a2::a3::a4::a5::a6::a7::a8::x::l:=List.mem_cons_of_mem _ (List.mem_cons_of_mem _ (List.mem_cons_of_mem _ (List.mem_cons_of_mem _ (List.mem_cons_of_mem _ (List.mem_cons_of_mem _ (List.mem_cons_of_mem _ (List.mem_cons_of_mem _ (List.mem_cons_of_mem _ (List.mem_cons_self)))))))))
theorem M10 {a0 a1 a2 a3 a4 a5 a6 a7 a8 a9 x:zC} {l:List zC}:x ∈ a0::a1::a2::a3::a4::a5::a6::a7::a8::a9::x::l:=List.mem_cons_of_mem _ (List.mem_cons_of_mem _ (List.mem_cons_of_mem _ (List.mem_cons_of_mem _ (List.mem_cons_of_mem _ (List.mem_cons_of_mem _ (List.mem_cons_of_mem _ (List.mem_cons_of_mem _ (List.mem_cons_of_mem _ (List.mem_cons_of_mem _ (List.mem_cons_self))))))))))
theorem M11 {a0 a1 a2 a3 a4 a5 a6 a7 a8 a9 a10 x:zC} {l:List zC}:x ∈ a0::a1::a2::a3::a4::a5::a6::a7::a8::a9::a10::x::l:=List.mem_cons_of_mem _ (List.mem_cons_of_mem _ (List.mem_cons_of_mem _ (List.mem_cons_of_mem _ (List.mem_cons_of_mem _ (List.mem_cons_of_mem _ (List.mem_cons_of_mem _ (List.mem_cons_of_mem _ (List.mem_cons_of_mem _ (List.mem_cons_of_mem _ (List.mem_cons_of_mem _ (List.mem_cons_self)))))))))))
theorem M12 {a0 a1 a2 a3 a4 a5 a6 a7 a8 a9 a10 a11 x:zC} {l:List zC}:x ∈ a0::a1::a2::a3::a4::a5::a6::a7::a8::a9::a10::a11::x::l:=List.mem_cons_of_mem _ (List.mem_cons_of_mem _ (List.mem_cons_of_mem _ (List.mem_cons_of_mem _ (List.mem_cons_of_mem _ (List.mem_cons_of_mem _ (List.mem_cons_of_mem _ (List.mem_cons_of_mem _ (List.mem_cons_of_mem _ (List.mem_cons_of_mem _ (List.mem_cons_of_mem _ (List.mem_cons_of_mem _ (List.mem_cons_self))))))))))))
section
variable {B w:World}
theorem P1 {a0 x:zC} {l:List zC} (h:Holds B (a0::x::l) w):Holds B (x::a0::l) w:=h.pick (i:=1) rfl
theorem P2 {a0 a1 x:zC} {l:List zC} (h:Holds B (a0::a1::x::l) w):Holds B (x::a0::a1::l) w:=h.pick (i:=2) rfl
theorem P3 {a0 a1 a2 x:zC} {l:List zC} (h:Holds B (a0::a1::a2::x::l) w):Holds B (x::a0::a1::a2::l) w:=h.pick (i:=3) rfl
theorem P4 {a0 a1 a2 a3 x:zC} {l:List zC} (h:Holds B (a0::a1::a2::a3::x::l) w):Holds B (x::a0::a1::a2::a3::l) w:=h.pick (i:=4) rfl
theorem P5 {a0 a1 a2 a3 a4 x:zC} {l:List zC} (h:Holds B (a0::a1::a2::a3::a4::x::l) w):Holds B (x::a0::a1::a2::a3::a4::l) w:=h.pick (i:=5) rfl
theorem D1 {a0 x:zC} {l:List zC} (h:Holds B (a0::x::l) w):Holds B (a0::l) w:=h.del (i:=1) rfl
theorem D2 {a0 a1 x:zC} {l:List zC} (h:Holds B (a0::a1::x::l) w):Holds B (a0::a1::l) w:=h.del (i:=2) rfl
theorem D3 {a0 a1 a2 x:zC} {l:List zC} (h:Holds B (a0::a1::a2::x::l) w):Holds B (a0::a1::a2::l) w:=h.del (i:=3) rfl
theorem D5 {a0 a1 a2 a3 a4 x:zC} {l:List zC} (h:Holds B (a0::a1::a2::a3::a4::x::l) w):Holds B (a0::a1::a2::a3::a4::l) w:=h.del (i:=5) rfl
end
section
variable {α:Type _}
theorem N1 (a b:α) (l:List α):(a::l).set 0 b = b::l:=rfl
theorem N2 (a b:α) (l:List α) (n:Nat):(a::l).set (n + 1) b = a::l.set n b:=rfl
theorem N3 (l:List α):l.eraseIdx 0 = l.tail:=List.eraseIdx_zero
theorem N4 (a:α) (l:List α):(a::l).eraseIdx 0 = l:=rfl
theorem N5 (a:α) (l:List α) (n:Nat):(a::l).eraseIdx (n + 1) = a::l.eraseIdx n:=rfl
theorem N6 (l:List α) (i:Nat) (a:α):l.toArray.setIfInBounds i a = (l.set i a).toArray:=List.setIfInBounds_toArray ..
theorem N7 (a:α) (l:List α):(a::l).tail = l:=rfl
end
section
variable {B w:World} {a:Addr} {b off n:Nat} {cs vs:Array Value} {T:TypeId} {v:Value} {k:K} {l:List zC}
theorem S0 (h:Holds B (blk b (.cells cs T (0,0))::l) w) (ha:a = ⟨b,off,none⟩) (ho:off < cs.size) (hv:yu v = true) (hk:∀ w',Holds B (blk b (.cells (cs.setIfInBounds off v) T (0,0))::l) w'→k w'):St a v k w:=zNb 0 h ha rfl ho (zME _) hv hk
theorem T0 (h:Holds B (blk b (.cells cs T (0,0))::l) w) (ha:a = ⟨b,0,none⟩) (hn:cs.size = n) (hv:vs.size = n) (hfl:∀ v ∈ vs.toList,yu v = true) (hk:∀ w',Holds B (blk b (.cells vs T (0,0))::l) w'→k w'):StN a n vs k w:=zaN 0 h ha rfl hn hv (fun _ _=>zME _) hfl hk
theorem S1 {a0:zC} (h:Holds B (a0::blk b (.cells cs T (0,0))::l) w) (ha:a = ⟨b,off,none⟩) (ho:off < cs.size) (hv:yu v = true) (hk:∀ w',Holds B (a0::blk b (.cells (cs.setIfInBounds off v) T (0,0))::l) w'→k w'):St a v k w:=zNb 1 h ha rfl ho (zME _) hv hk
theorem S2 {a0 a1:zC} (h:Holds B (a0::a1::blk b (.cells cs T (0,0))::l) w) (ha:a = ⟨b,off,none⟩) (ho:off < cs.size) (hv:yu v = true) (hk:∀ w',Holds B (a0::a1::blk b (.cells (cs.setIfInBounds off v) T (0,0))::l) w'→k w'):St a v k w:=zNb 2 h ha rfl ho (zME _) hv hk
theorem T2 {a0 a1:zC} (h:Holds B (a0::a1::blk b (.cells cs T (0,0))::l) w) (ha:a = ⟨b,0,none⟩) (hn:cs.size = n) (hv:vs.size = n) (hfl:∀ v ∈ vs.toList,yu v = true) (hk:∀ w',Holds B (a0::a1::blk b (.cells vs T (0,0))::l) w'→k w'):StN a n vs k w:=zaN 2 h ha rfl hn hv (fun _ _=>zME _) hfl hk
theorem S3 {a0 a1 a2:zC} (h:Holds B (a0::a1::a2::blk b (.cells cs T (0,0))::l) w) (ha:a = ⟨b,off,none⟩) (ho:off < cs.size) (hv:yu v = true) (hk:∀ w',Holds B (a0::a1::a2::blk b (.cells (cs.setIfInBounds off v) T (0,0))::l) w'→k w'):St a v k w:=zNb 3 h ha rfl ho (zME _) hv hk
theorem S4 {a0 a1 a2 a3:zC} (h:Holds B (a0::a1::a2::a3::blk b (.cells cs T (0,0))::l) w) (ha:a = ⟨b,off,none⟩) (ho:off < cs.size) (hv:yu v = true) (hk:∀ w',Holds B (a0::a1::a2::a3::blk b (.cells (cs.setIfInBounds off v) T (0,0))::l) w'→k w'):St a v k w:=zNb 4 h ha rfl ho (zME _) hv hk
theorem S5 {a0 a1 a2 a3 a4:zC} (h:Holds B (a0::a1::a2::a3::a4::blk b (.cells cs T (0,0))::l) w) (ha:a = ⟨b,off,none⟩) (ho:off < cs.size) (hv:yu v = true) (hk:∀ w',Holds B (a0::a1::a2::a3::a4::blk b (.cells (cs.setIfInBounds off v) T (0,0))::l) w'→k w'):St a v k w:=zNb 5 h ha rfl ho (zME _) hv hk
theorem S6 {a0 a1 a2 a3 a4 a5:zC} (h:Holds B (a0::a1::a2::a3::a4::a5::blk b (.cells cs T (0,0))::l) w) (ha:a = ⟨b,off,none⟩) (ho:off < cs.size) (hv:yu v = true) (hk:∀ w',Holds B (a0::a1::a2::a3::a4::a5::blk b (.cells (cs.setIfInBounds off v) T (0,0))::l) w'→k w'):St a v k w:=zNb 6 h ha rfl ho (zME _) hv hk
theorem S7 {a0 a1 a2 a3 a4 a5 a6:zC} (h:Holds B (a0::a1::a2::a3::a4::a5::a6::blk b (.cells cs T (0,0))::l) w) (ha:a = ⟨b,off,none⟩) (ho:off < cs.size) (hv:yu v = true) (hk:∀ w',Holds B (a0::a1::a2::a3::a4::a5::a6::blk b (.cells (cs.setIfInBounds off v) T (0,0))::l) w'→k w'):St a v k w:=zNb 7 h ha rfl ho (zME _) hv hk
theorem S8 {a0 a1 a2 a3 a4 a5 a6 a7:zC} (h:Holds B (a0::a1::a2::a3::a4::a5::a6::a7::blk b (.cells cs T (0,0))::l) w) (ha:a = ⟨b,off,none⟩) (ho:off < cs.size) (hv:yu v = true) (hk:∀ w',Holds B (a0::a1::a2::a3::a4::a5::a6::a7::blk b (.cells (cs.setIfInBounds off v) T (0,0))::l) w'→k w'):St a v k w:=zNb 8 h ha rfl ho (zME _) hv hk
end
end
section
open Go Go.RowKit
def HG (B:World) (Γ:List zC) (k:K):Prop:=∀ w,Holds B Γ w→k w
class Own (b:Nat) (Γ:List zC) (A:outParam zC) (Δ:outParam (List zC)):Prop where perm:Γ.Perm (A::Δ)
class zB1 (s:Sl) (Γ:List zC) (A:outParam zC) (Δ:outParam (List zC)):Prop where perm:Γ.Perm (A::Δ)
class Pick (A:zC) (Γ:List zC) (Δ:outParam (List zC)):Prop where perm:Γ.Perm (A::Δ)
class Drops (Γ Δ:List zC):Prop where imp:∀ {h:Hp},stars Γ h→stars Δ h
theorem zHn {A X:zC} {Γ Δ:List zC} (h:Γ.Perm (A::Δ)):(X::Γ).Perm (A::X::Δ):=(h.cons X).trans (List.Perm.swap _ _ _)
instance (priority:=low) zcD {b:Nat} {X A:zC} {Γ Δ:List zC} [h:Own b Γ A Δ]:Own b (X::Γ) A (X::Δ):=⟨zHn h.perm⟩
instance (priority:=high) zci {b:Nat} {o:Obj} {Γ:List zC}:Own b (blk b o::Γ) (blk b o) Γ:=⟨.refl _⟩
instance (priority:=low) zbi {s:Sl} {X A:zC} {Γ Δ:List zC} [h:zB1 s Γ A Δ]:zB1 s (X::Γ) A (X::Δ):=⟨zHn h.perm⟩
instance (priority:=high) zZH {E esz:Nat} {s:Sl} {vs:List Value} {Γ:List zC}:zB1 s (SlC E esz s vs::Γ) (SlC E esz s vs) Γ:=⟨.refl _⟩
instance (priority:=high) zcj {E:Nat} {s:Sl} {vs:List UInt8} {Γ:List zC}:zB1 s (Bytes E s vs::Γ) (Bytes E s vs) Γ:=⟨.refl _⟩
instance (priority:=low) zbj {A X:zC} {Γ Δ:List zC} [h:Pick A Γ Δ]:Pick A (X::Γ) (X::Δ):=⟨zHn h.perm⟩
instance (priority:=high) zbk {A:zC} {Γ:List zC}:Pick A (A::Γ) Γ:=⟨.refl _⟩
instance (priority:=high) za8 {A:zC} {Γ Γ' Δ:List zC} [p:Pick A Γ Γ'] [d:Drops Γ' Δ]:Drops Γ (A::Δ):=⟨fun h=>zCD (fun _ h=>h) (fun _ h=>d.imp h) (zL7 p.perm h)⟩
instance za9 {Γ:List zC}:Drops Γ Γ:=⟨fun h=>h⟩
instance (priority:=low) zbl {Γ:List zC}:Drops Γ []:=⟨fun _=>trivial⟩
instance (priority:=low) zbA {A:zC} {Γ Δ:List zC} [d:Drops Γ Δ]:Drops (A::Γ) Δ:=⟨fun h=>d.imp (zL5 h)⟩
section
variable {B w:World} {Γ Δ:List zC} {k:K} {A A':zC}
theorem Holds.drops (h:Holds B Γ w) [d:Drops Γ Δ]:Holds B Δ w:=⟨h.below,d.imp h.stars⟩
theorem hg (h:Holds B Γ w) (hk:HG B Γ k):k w:=hk w h
theorem zB (h:HG B Δ k) [d:Drops Γ Δ]:HG B Γ k:=fun w hw=>h w hw.drops
theorem jy (hi:∀ h,A h→A' h) (h:HG B (A'::Γ) k):HG B (A::Γ) k:=fun w hw=>h w (hw.imp hi)
theorem zDI {α:Sort _} {F:α→zC} (h:∀ x,HG B (F x::Γ) k):HG B (Sep.ex F::Γ) k:=fun w hw=>by
 obtain ⟨x,hx⟩:=Holds.ex.1 hw; exact h x w hx
theorem zGd {p:Prop} (h:p→HG B Γ k):HG B (pur p::Γ) k:=fun w hw=>by
 obtain ⟨hp,hx⟩:=Holds.pur.1 hw; exact h hp w hx
theorem zBr (h:HG B (Δ++Γ) k):HG B (Sep.stars Δ::Γ) k:=fun w hw=>h w (Holds.flat.1 hw)
theorem zEQ (h:HG B (Sep.stars Δ::Γ) k):HG B (Δ++Γ) k:=fun w hw=>h w (Holds.flat.2 hw)
theorem zSb {α:Sort _} {F:α→zC} (x:α) (h:HG B (Sep.ex F::Γ) k):HG B (F x::Γ) k:=fun w hw=>h w (Holds.ex.2 ⟨x,hw⟩)
theorem zZI {p:Prop} (hp:p) (h:HG B (pur p::Γ) k):HG B Γ k:=fun w hw=>h w (Holds.pur.2 ⟨hp,hw⟩)
theorem ze (A:zC) (h:HG B (A::Δ) k) [p:Pick A Γ Δ]:HG B Γ k:=fun w hw=>h w (hw.perm p.perm)
theorem zO (b:Nat) (h:HG B (A::Δ) k) [p:Own b Γ A Δ]:HG B Γ k:=fun w hw=>h w (hw.perm p.perm)
theorem zw (s:Sl) (h:HG B (A::Δ) k) [p:zB1 s Γ A Δ]:HG B Γ k:=fun w hw=>h w (hw.perm p.perm)
theorem zDZ (h:HG B (A'::A::Γ) k):HG B (A::A'::Γ) k:=fun w hw=>h w hw.swap
theorem zF {b:Bool} {x y:K} (h1:b = true→HG B Γ x) (h2:b = false→HG B Γ y):HG B Γ (Ite b x y):=fun w hw=>⟨fun hb=>h1 hb w hw,fun hb=>h2 hb w hw⟩
theorem s_t {b:Bool} {x y:K} (h:HG B Γ x) (hb:b = true:=by first | rfl | (simp; done) | (simp; omega)):HG B Γ (Ite b x y):=fun w hw=>zTg hb (h w hw)
theorem s_f {b:Bool} {x y:K} (h:HG B Γ y) (hb:b = false:=by first | rfl | (simp; done) | (simp; omega)):HG B Γ (Ite b x y):=fun w hw=>zO4 hb (h w hw)
theorem zAW {e e':Int} {k:Int→K} (he:e = e') (h:HG B Γ (k e')):HG B Γ (Ar e k):=fun w hw=>zFg he (h w hw)
theorem qB {e:Int} {k:Int→K} (h:HG B Γ (k e)) (h0:-9223372036854775808 ≤ e:=by omega) (h1:e ≤ 9223372036854775807:=by omega):HG B Γ (Ar (IntKind.wrap .i64 e) k):=zAW (wrap64 h0 h1) h
theorem zPo {p:Prop} (hp:p) (h:HG B Γ k):HG B Γ (Cd p k):=fun w hw=>⟨hp,h w hw⟩
theorem uP {a:Addr} {k:Addr→K} (h:HG B Γ (k a)):HG B Γ (Nn (some a) k):=fun w hw=>⟨a,rfl,h w hw⟩
theorem vo (h:HG B Γ k):HG B Γ (Dr k):=fun w hw=>zc5 hw fun w hw=>h w hw
theorem zNe {k:(World→Prop)→K} (h:HG B Γ (k (Holds B Γ))):HG B Γ (yh k):=fun w hw=>⟨Holds B Γ,hw,h w hw⟩
theorem zBC (h:HG B Γ k) [d:Drops Γ Δ]:HG B Γ (Sv (Holds B Δ) k):=fun w hw=>⟨hw.drops,h w hw⟩
theorem zcE {α:Type} {cs:List Value} {off:Nat} {c:α→Value} {x:α} {k:α→K} (h:HG B Γ (k x)) (hv:nth cs off = some (c x):=by rfl):HG B Γ (Fld cs.toArray off c k):=fun w hw=>⟨x,by rw [zCc] at hv; simpa using hv,h w hw⟩
theorem zUK {zero:Array Value} {pl:List (Nat×Nat)} {vs:List (Nat×Value)} {cs:List Value} {k:Array Value→K} (h:HG B Γ (k cs.toArray)) (hc:Instr.fill (pl[·]?) zero vs = some cs.toArray:=by rfl):HG B Γ (Bld zero (pl[·]?) vs k):=fun w hw=>⟨_,hc,h w hw⟩
theorem zBf {zero:List Value} {cs:List Value} {n:Nat} {k:Array Value→K} (h:HG B Γ (k cs.toArray)) (hz:zero.length = n:=by rfl) (hn:cs.length = n:=by rfl):HG B Γ (Bld zero.toArray (fun i=>some (i * n,n)) [(0,.agg cs.toArray)] k):=fun w hw=>zaz (by simpa using hz) (by simpa using hn) (h w hw)
class zDa (a:Addr) (b off:outParam Nat):Prop where h:a = ⟨b,off,none⟩
instance zc6 {b off:Nat}:zDa ⟨b,off,none⟩ b off:=⟨rfl⟩
instance zck {b off n:Nat}:zDa ((⟨b,off,none⟩:Addr).add n) b (off + n):=⟨uT _ _ _⟩
theorem zH {T:TypeId} {cs:Array Value} {k:Addr→K} (h:∀ b,HG B (blk b (.cells cs T (0,0))::Γ) (k ⟨b,0,none⟩)):HG B Γ (New T cs k):=fun w hw=>zQq hw fun b w hw=>h b w hw
theorem zA6 {b:Nat} {o:Obj} (h:Holds B Γ w) [p:Own b Γ (blk b o) Δ]:w.heap[b]? = some o:=(h.perm p.perm).block
theorem yB {α:Type} {a:Addr} {b off:Nat} {l:List Value} {T:TypeId} {fz:Nat×Nat} {c:α→Value} {x:α} {k:α→K} (h:HG B Γ (k x)) [ad:zDa a b off] [p:Own b Γ (blk b (.cells l.toArray T fz)) Δ] (hv:nth l off = some (c x):=by rfl):HG B Γ (Ld a c k):=fun w hw=>
 ⟨x,by rw [ad.h]; exact vE (zA6 hw (p:=p)) (by rw [zCc] at hv; simpa using hv),h w hw⟩
theorem zPp {b off n:Nat} {l l':List Value} {T:TypeId} {fz:Nat×Nat} (h:w.heap[b]? = some (.cells l.toArray T fz)) (hl:(l.drop off).take n = l') (hn:l'.length = n):RdN w ⟨b,off,none⟩ l'.toArray:=by
 refine zVD h fun i hi=>?_
 have hi':i < l'.length:=by simpa using hi
 have:l'[i]? = l[off + i]?:=by rw [← hl,List.getElem?_take,if_pos (by omega),List.getElem?_drop]
 simpa using this.symm
theorem qI {a:Addr} {b off n:Nat} {l l':List Value} {T:TypeId} {fz:Nat×Nat} {k:Array Value→K} (h:HG B Γ (k l'.toArray)) [ad:zDa a b off] [p:Own b Γ (blk b (.cells l.toArray T fz)) Δ]
  (hl:(l.drop off).take n = l':=by first | rfl | simp only [Nat.zero_add,Nat.reduceAdd,List.drop_zero,List.drop_succ_cons,List.take_succ_cons,List.take_zero]) (hn:l'.length = n:=by rfl):HG B Γ (LdN a n k):=fun w hw=>
 ⟨l'.toArray,by simpa using hn,by rw [ad.h]; exact zPp (zA6 hw (p:=p)) hl hn,h w hw⟩
variable {Γ0:List zC}
theorem jC {α:Type} {a:Addr} {b off:Nat} {l:List Value} {T:TypeId} {fz:Nat×Nat} {c:α→Value} {x:α} {k:α→K} (h:HG B Γ (k x)) [ad:zDa a b off] [p:Own b Γ0 (blk b (.cells l.toArray T fz)) Δ] (hv:nth l off = some (c x):=by rfl):HG B Γ (LdS (Holds B Γ0) a c k):=fun w hw=>
 ⟨x,fun w' hw'=>by rw [ad.h]; exact vE (zA6 hw' (p:=p)) (by rw [zCc] at hv; simpa using hv),h w hw⟩
theorem zBM {a:Addr} {b off n:Nat} {l l':List Value} {T:TypeId} {fz:Nat×Nat} {k:Array Value→K} (h:HG B Γ (k l'.toArray)) [ad:zDa a b off] [p:Own b Γ0 (blk b (.cells l.toArray T fz)) Δ]
  (hl:(l.drop off).take n = l':=by first | rfl | simp only [Nat.zero_add,Nat.reduceAdd,List.drop_zero,List.drop_succ_cons,List.take_succ_cons,List.take_zero]) (hn:l'.length = n:=by rfl):HG B Γ (vY (Holds B Γ0) a n k):=fun w hw=>
 ⟨l'.toArray,by simpa using hn,fun w' hw'=>by rw [ad.h]; exact zPp (zA6 hw' (p:=p)) hl hn,h w hw⟩
theorem t0 {v x0:Value} {l:List Value}:(x0::l).set 0 v = v::l:=rfl
theorem t1 {v x0 x1:Value} {l:List Value}:(x0::x1::l).set 1 v = x0::v::l:=rfl
theorem t2 {v x0 x1 x2:Value} {l:List Value}:(x0::x1::x2::l).set 2 v = x0::x1::v::l:=rfl
theorem t3 {v x0 x1 x2 x3:Value} {l:List Value}:(x0::x1::x2::x3::l).set 3 v = x0::x1::x2::v::l:=rfl
theorem t4 {v x0 x1 x2 x3 x4:Value} {l:List Value}:(x0::x1::x2::x3::x4::l).set 4 v = x0::x1::x2::x3::v::l:=rfl
theorem t5 {v x0 x1 x2 x3 x4 x5:Value} {l:List Value}:(x0::x1::x2::x3::x4::x5::l).set 5 v = x0::x1::x2::x3::x4::v::l:=rfl
theorem t6 {v x0 x1 x2 x3 x4 x5 x6:Value} {l:List Value}:(x0::x1::x2::x3::x4::x5::x6::l).set 6 v = x0::x1::x2::x3::x4::x5::v::l:=rfl
theorem t7 {v x0 x1 x2 x3 x4 x5 x6 x7:Value} {l:List Value}:(x0::x1::x2::x3::x4::x5::x6::x7::l).set 7 v = x0::x1::x2::x3::x4::x5::x6::v::l:=rfl
theorem zWq {l l':List Value} {off:Nat} {v:Value} (h:l.set off v = l':=by first | exact t0 | exact t1 | exact t2 | exact t3 | exact t4 | exact t5 | exact t6 | exact t7 | rfl):l.set off v = l':=h
theorem zCB {a:Addr} {b off:Nat} {l l':List Value} {T:TypeId} {v:Value} (h:HG B (blk b (.cells l'.toArray T (0,0))::Δ) k) [ad:zDa a b off] [p:Own b Γ (blk b (.cells l.toArray T (0,0))) Δ] (ho:Nat.ble (off + 1) l.length = true:=by rfl)
  (hl:l.set off v = l':=by exact zWq) (hv:yu v = true:=by rfl):HG B Γ (St a v k):=fun w hw=>by
 have h1:=hw.perm p.perm
 refine S0 h1 ad.h (by have:=Nat.le_of_ble_eq_true ho; simp only [List.size_toArray]; omega) hv fun w2 h2=>h w2 ?_
 rw [N6,hl] at h2; exact h2
theorem qA {a:Addr} {b n:Nat} {l l':List Value} {T:TypeId} (h:HG B (blk b (.cells l'.toArray T (0,0))::Δ) k) [ad:zDa a b 0] [p:Own b Γ (blk b (.cells l.toArray T (0,0))) Δ] (hn:l.length = n:=by rfl) (hn':l'.length = n:=by rfl)
  (hf:l'.all yu = true:=by rfl):HG B Γ (StN a n l'.toArray k):=fun w hw=>
 T0 (hw.perm p.perm) ad.h (by simpa using hn) (by simpa using hn') (fun v hv=>List.all_eq_true.1 hf v (by simpa using hv)) fun w2 h2=>h w2 h2
def elA (s:Sl) (i esz:Nat):Addr:=(s.a.getD ⟨0,0,none⟩).add (i * esz)
theorem yP {s:Sl} {E esz:Nat} {vs:List Value} (h:Holds B Γ w) [p:zB1 s Γ (SlC E esz s vs) Δ]:RdC w s esz vs∧vs.length = s.n * esz∧s.n ≤ s.c∧(∀ a,s.a = some a→a.spot = none)∧(s.a = none→s.c = 0):=by
 have h1:=h.perm p.perm
 exact ⟨h1.rdC List.mem_cons_self,h1.zMS⟩
theorem zHo {s:Sl} {E esz:Nat} {vs:List Value} (h:Holds B Γ w) (p:zB1 s Γ (SlC E esz s vs) Δ):vs.length = s.n * esz∧s.n ≤ s.c∧(∀ a,s.a = some a→a.spot = none)∧(s.a = none→s.c = 0):=(yP h (p:=p)).2
theorem yS (s:Sl) {E esz:Nat} {vs:List Value} [p:zB1 s Γ (SlC E esz s vs) Δ] (h:vs.length = s.n * esz→s.n ≤ s.c→(∀ a,s.a = some a→a.spot = none)→(s.a = none→s.c = 0)→HG B Γ k):HG B Γ k:=fun w hw=>by
 obtain ⟨h1,h2,h3,h4⟩:=zHo hw p
 exact h h1 h2 h3 h4 w hw
theorem vg {s:Sl} {i:Nat} {ii:Int} {esz:Nat} {E:Nat} {vs:List Value} {k:Addr→K} (h:HG B Γ (k (elA s i esz))) [p:zB1 s Γ (SlC E esz s vs) Δ] (hi:ii = (i:Int):=by first | rfl | omega) (hn:i < s.n:=by omega):HG B Γ (Idx s ii esz k):=fun w hw=>by
 obtain ⟨h1,h2,h3,h4⟩:=zHo hw p
 subst hi
 cases ha:s.a with
 | none=>have:=h4 ha; omega
 | some a=>exact ⟨a,elA s i esz,ha,by omega,by omega,by simp [elA,ha],h w hw⟩
theorem zLo {s:Sl} {i off esz:Nat} {vs:List Value} {v:Value} (h:RdC w s esz vs) (hsp:∀ a,s.a = some a→a.spot = none) (hv:vs[i * esz + off]? = some v):w.cell? ((elA s i esz).add off) = some v:=by
 have hlt:=(List.getElem?_eq_some_iff.1 hv).1
 cases ha:s.a with
 | none=>have:=h.nil ha; have:=h.len; simp_all
 | some a=>
  have h1:=h.at' a ha _ hlt
  simp only [elA,ha,Option.getD_some]
  rw [add_add' _ (hsp a ha),h1,hv]
theorem zcF {α:Type} {s:Sl} {i off esz E:Nat} {vs:List Value} {c:α→Value} {x:α} {k:α→K} (hv:vs[i * esz + off]? = some (c x)) (h:HG B Γ (k x)) [p:zB1 s Γ (SlC E esz s vs) Δ]:HG B Γ (Ld ((elA s i esz).add off) c k):=fun w hw=>by
 obtain ⟨h0,h1,h2,h3,h4⟩:=yP hw (p:=p)
 exact ⟨x,zLo h0 h3 hv,h w hw⟩
theorem add0 (a:Addr):a.add 0 = a:=by simp [Addr.add]
theorem zCi {α:Type} {s:Sl} {i esz E:Nat} {vs:List Value} {c:α→Value} {x:α} {k:α→K} (hv:vs[i * esz]? = some (c x)) (h:HG B Γ (k x)) [p:zB1 s Γ (SlC E esz s vs) Δ]:HG B Γ (Ld (elA s i esz) c k):=by
 rw [← add0 (elA s i esz)]; exact zcF (by simpa using hv) h
theorem zFB {s:Sl} {i off n esz E:Nat} {vs:List Value} {l':List Value} {k:Array Value→K} (hv:(vs.drop (i * esz + off)).take n = l') (hn:l'.length = n) (h:HG B Γ (k l'.toArray)) [p:zB1 s Γ (SlC E esz s vs) Δ]:HG B Γ (LdN ((elA s i esz).add off) n k):=fun w hw=>by
 obtain ⟨h0,h1,h2,h3,h4⟩:=yP hw (p:=p)
 refine ⟨l'.toArray,by simpa using hn,fun j hj=>?_,h w hw⟩
 have hj':j < l'.length:=by simpa using hj
 have hx:vs[i * esz + (off + j)]? = some l'[j]:=by
  have:l'[j]? = vs[i * esz + off + j]?:=by rw [← hv,List.getElem?_take,if_pos (by omega),List.getElem?_drop]
  rw [← Nat.add_assoc,← this,List.getElem?_eq_getElem hj']
 have h5:=zLo h0 h3 hx
 have h6:((elA s i esz).add off).add j = (elA s i esz).add (off + j):=by
  cases ha:s.a with
  | none=>have:=h0.nil ha; have h7:=(List.getElem?_eq_some_iff.1 hx).1; simp_all
  | some a=>
   simp only [elA,ha,Option.getD_some]
   have hsp:(a.add (i * esz)).spot = none:=by obtain ⟨b,o,t⟩:=a; have:=h3 _ ha; simp only at this; subst this; rw [uT]
   rw [add_add' _ hsp]
 rw [h6,h5]; simp [hj']
end
end
section
open Go Go.RowKit
def zGf (P:Program) (T U E esz:Nat):Bool:=sliceT P T E esz && zRF P U && match P.info? E with
 | some i=>Nat.ble i.bytes 1000 && !Nat.beq i.bytes 0 && match i.zero with
  | some z=>Nat.beq z.cells.size esz && z.cells.toList.all yu
  | none=>false
 | none=>false
theorem zD6 {P:Program} {T U E esz:Nat} (h:zGf P T U E esz = true):sliceT P T E esz = true∧zRF P U = true∧∃ n zv,zJ9 P E n = true∧n ≤ 1000∧n ≠ 0∧zBl P E zv∧zv.cells.size = esz∧∀ v ∈ zv.cells.toList,yu v = true:=by
 unfold zGf at h
 simp only [Bool.and_eq_true] at h
 obtain ⟨⟨h1,h2⟩,h3⟩:=h
 refine ⟨h1,h2,?_⟩
 split at h3
 ·rename_i i hi
  simp only [Bool.and_eq_true,Bool.not_eq_true'] at h3
  obtain ⟨⟨h4,h5⟩,h6⟩:=h3
  split at h6
  ·rename_i z hz
   simp only [Bool.and_eq_true] at h6
   refine ⟨i.bytes,z,by unfold zJ9; rw [hi]; simp,Nat.le_of_ble_eq_true h4,(fun e=>by rw [e] at h5; cases h5),⟨i,hi,hz⟩,Nat.eq_of_beq_eq_true h6.1,List.all_eq_true.1 h6.2⟩
  ·cases h6
 ·cases h3
def zWr (P:Program) (T U E esz:Nat):Bool:=zGf P T T E esz && match P.underlying U with
 | some (.int _)=>true
 | _=>false
section
variable {P:Program} {B w:World} {Γ Δ:List zC} {E esz:Nat} {s x:Sl} {vs us:List Value}
theorem qN {T U Tr:Nat} {k:Sl→K} (hx:∀ w,Holds B Γ w→RdC w x esz us) (hfl:∀ u ∈ us,yu u = true) (hroom:s.n + x.n ≤ 100000000) (h:∀ s',s'.n = s.n + x.n→HG B (SlC E esz s' (vs++us)::Δ) (k s')) [p:zB1 s Γ (SlC E esz s vs) Δ] (hT:zGf P T U E esz = true:=by kernel_rfl) :
  HG B Γ (Do P (Builtin.append_ #[T,U] Tr #[s.val,x.val]) Sl.val k):=fun w hw=>by
 obtain ⟨h1,h2,n,zv,h3,h4,h5,h6,h7,_⟩:=zD6 hT
 refine zMQ (hw.perm p.perm) h1 h2 h3 h6 h7 (hx w hw) hfl ?_ h5 fun s' w' h' hn _=>h s' hn w' h'
 have h8:(2 * (s.n + x.n) + 800) * n ≤ 200000800 * 1000:=Nat.mul_le_mul (by omega) h4
 omega
theorem zPq {T U Tr m:Nat} {us:List Value} {k:Sl→K} (h:∀ s',s'.n = s.n + m→HG B (SlC E esz s' (vs++us)::Δ) (k s')) [p:zB1 s Γ (SlC E esz s vs) Δ] (hn:s.n + m ≤ 100000000:=by omega) (hl:us.length = m * esz:=by rfl) (hfl:us.all yu = true:=by rfl) (hT:zGf P T U E esz = true:=by kernel_rfl) :
  HG B Γ (New E us.toArray fun t=>Do P (Builtin.append_ #[T,U] Tr #[s.val,Sl.val (Sl.mk (some t) m m)]) Sl.val k):=zH fun b=>by
 refine qN (us:=us) (fun w hw=>RdC.zMR hw List.mem_cons_self (by simp) hl m) (zJR hfl) (by simp only; omega) (hT:=hT) fun s' hs'=>?_
 exact zB (Δ:=SlC E esz s' (vs++us)::Δ) (h s' hs')
theorem zPr {a:Option Addr} {n c m:Nat} (hm:n + m ≤ c) {g:Hp} (h:SlC E esz ⟨a,n,c⟩ vs g):∃ js:List Value,js.length = m * esz∧SlC E esz ⟨a,n + m,c⟩ (vs++js) g:=by
 obtain ⟨hl,hc,hs⟩:=h
 simp only at hl hc hs
 cases a with
 | none=>
  simp only at hs
  have h0:n = 0∧m = 0:=by omega
  obtain ⟨rfl,rfl⟩:=h0
  exact ⟨[],by simp,by simpa using hl,by simp only; omega,hs⟩
 | some a=>
  obtain ⟨hsp,cs,fz,hb,hf,hsz,hv⟩:=hs
  have hmul:n * esz + m * esz ≤ c * esz:=by rw [← Nat.add_mul]; exact Nat.mul_le_mul_right _ hm
  refine ⟨(cs.toList.drop (a.off + vs.length)).take (m * esz),?_,?_,hm,hsp,cs,fz,hb,hf,hsz,fun i hi=>?_⟩
  ·simp only [List.length_take,List.length_drop,Array.length_toList]; omega
  ·simp only [List.length_append,List.length_take,List.length_drop,Array.length_toList,Nat.add_mul]; omega
  ·rw [List.getElem?_append]
   split
   ·rename_i h1; exact hv i h1
   ·rename_i h1
    simp only [List.length_append,List.length_take,List.length_drop,Array.length_toList] at hi
    rw [List.getElem?_take,if_pos (by omega),List.getElem?_drop,show a.off + vs.length + (i - vs.length) = a.off + i by omega]
    simp
def zDb (vs:List Value) (p:Nat) (us:List Value):List Value:=vs.take p++us++vs.drop (p + us.length)
theorem zOF {p:Nat} (h:p + us.length ≤ vs.length):(zDb vs p us).length = vs.length:=by
 simp only [zDb,List.length_append,List.length_take,List.length_drop]; omega
theorem zOG {a:Addr} {p:Nat} (h:Holds B (SlC E esz s vs::Γ) w) (ha:s.a = some a) (hp:p + us.length ≤ vs.length) (hfl:∀ u ∈ us,yu u = true) :
  ∃ w',setCells (a.add p) us 0 w = w'∧(∀ P:Program,(storeCells (a.add p) us).run P w = .ok () w')∧Holds B (SlC E esz s (zDb vs p us)::Γ) w'∧(∀ i,i < us.length→(∃ u,w.cell? ((a.add p).add i) = some u)∧w.frozen? ((a.add p).add i) = false):=by
 obtain ⟨cs,fz,h2,hsp,hf,hsz,hr,hl,hc⟩:=zMT h ha
 obtain ⟨b,off,sp⟩:=a
 simp only at hsp h2 hf hsz hr; subst hsp
 have hb:=h2.block
 have hmul:vs.length ≤ s.c * esz:=by rw [hl]; exact Nat.mul_le_mul_right _ hc
 have hcell:∀ i,i < us.length→(∃ u,w.cell? (((⟨b,off,none⟩:Addr).add p).add i) = some u)∧w.frozen? (((⟨b,off,none⟩:Addr).add p).add i) = false:=fun i hi=>by
  rw [uT,uT]
  have hlt:off + p + i < cs.size:=by omega
  exact ⟨⟨_,vE hb (Array.getElem?_eq_getElem hlt)⟩,zA7 hb (hf _ (by omega) (by omega))⟩
 refine ⟨_,rfl,fun P=>zCF us 0 w hfl fun j hj=>by simpa using hcell j hj,?_,hcell⟩
 rw [uT,zBv _ _ _ _ _ hb]
 have h3:=h2.setBlock (o':=.cells ((us.zipIdx (off + p + 0)).foldl (fun c q=>c.setIfInBounds q.2 q.1) cs) E fz) rfl
 refine zMU ha h3 ⟨rfl,hf,by rw [fold_size]; exact hsz,fun i hi=>?_,by rw [zOF hp]; exact hl,hc⟩
 rw [zOF hp] at hi
 simp only [Nat.add_zero]
 unfold zDb
 rw [List.append_assoc,List.getElem?_append]
 split
 ·rename_i h1
  simp only [List.length_take] at h1
  rw [zEP _ _ _ _ (by omega),hr i hi,List.getElem?_take,if_pos (by omega)]
 ·rename_i h1
  simp only [List.length_take] at h1 ⊢
  rw [show min p vs.length = p by omega] at h1 ⊢
  rw [List.getElem?_append]
  split
  ·rename_i h4
   rw [show off + i = off + p + (i - p) by omega,zLn _ _ _ _ h4 (by omega)]
  ·rename_i h4
   rw [zEP _ _ _ _ (by omega),hr i hi,List.getElem?_drop,show p + us.length + (i - p - us.length) = i by omega]
theorem zPs {i off n:Nat} {us:List Value} {k:K} (h:HG B (SlC E esz s (zDb vs (i * esz + off) us)::Δ) k) [p:zB1 s Γ (SlC E esz s vs) Δ] (hn:us.length = n:=by rfl) (hp:i * esz + off + n ≤ vs.length:=by omega) (hfl:us.all yu = true:=by rfl):HG B Γ (StN ((elA s i esz).add off) n us.toArray k):=fun w hw=>by
 have h1:=hw.perm p.perm
 obtain ⟨h2,h3,h4,h5⟩:=zHo hw p
 cases ha:s.a with
 | none=>
  have h6:=h5 ha
  have h7:vs.length = 0:=by rw [h2,show s.n = 0 by omega]; simp
  subst hn
  have h8:us = []:=List.length_eq_zero_iff.1 (by omega)
  subst h8
  refine ⟨w,rfl,by simp,fun i hi=>by simp at hi,by simp,?_⟩
  have e:zDb vs (i * esz + off) [] = vs:=by simp [zDb]
  rw [e] at h
  exact h w h1
 | some a=>
  subst hn
  have e:(elA s i esz).add off = a.add (i * esz + off):=by simp only [elA,ha,Option.getD_some]; rw [add_add' _ (h4 a ha)]
  obtain ⟨w',e1,_,h6,h7⟩:=zOG h1 ha hp (zJR hfl)
  rw [e]
  exact ⟨w',by simpa using e1.symm,by simp,by simpa using h7,by simpa using zJR hfl,h w' h6⟩
theorem zMV {i off:Nat} {v:Value} {k:K} (h:HG B (SlC E esz s (vs.set (i * esz + off) v)::Δ) k) [p:zB1 s Γ (SlC E esz s vs) Δ] (hp:i * esz + off < vs.length:=by omega) (hv:yu v = true:=by rfl):HG B Γ (St ((elA s i esz).add off) v k):=fun w hw=>by
 have h1:=hw.perm p.perm
 obtain ⟨h2,h3,h4,h5⟩:=zHo hw p
 cases ha:s.a with
 | none=>have h6:=h5 ha; rw [show s.n = 0 by omega] at h2; omega
 | some a=>
  have e:(elA s i esz).add off = a.add (i * esz + off):=by simp only [elA,ha,Option.getD_some]; rw [add_add' _ (h4 a ha)]
  rw [e]
  exact zWm h1 ha hp hv fun w' h'=>h w' h'
theorem zPt {T U t l:Nat} {d:Sl} {us:List Value} {k:Int→K} (hx:∀ w,Holds B Γ w→RdC w x esz us) (hfl:∀ u ∈ us.take ((s.n - l) * esz),yu u = true) (hd:d = ⟨zCE s.a l s.c esz,s.n - l,s.c - l⟩) (hl:l ≤ s.n)
  (h:HG B (SlC E esz s (zDb vs (l * esz) (us.take ((s.n - l) * esz)))::Δ) (k (min x.n (s.n - l):Nat))) [p:zB1 s Γ (SlC E esz s vs) Δ] (hT:zGf P T U E esz = true:=by kernel_rfl) :
  HG B Γ (Do P (Builtin.copy_ #[T,U] t #[d.val,x.val]) (Value.int .i64) k):=fun w hw=>by
 have hda:d.a = zCE s.a l s.c esz:=by rw [hd]
 have hdn:d.n = s.n - l:=by rw [hd]
 clear hd
 obtain ⟨hs1,_,_⟩:=zD6 hT
 obtain ⟨hsl,hsz⟩:=zAC hs1
 have h1:=hw.perm p.perm
 obtain ⟨h2,h3,h4,h5⟩:=zHo hw p
 have hr:=hx w hw
 have hul:=hr.len
 have hr2:RdC w ⟨x.a,min x.n (s.n - l),x.c⟩ esz (us.take (min x.n (s.n - l) * esz)):=hr.take (Nat.min_le_left _ _)
 have hfc:=zCK (P:=P) hr2
 have hval:∀ m,Builtin.firstCells esz m (Sl.val ⟨x.a,min x.n (s.n - l),x.c⟩) = Builtin.firstCells esz m x.val:=fun m=>by
  obtain ⟨xa,xn,xc⟩:=x; cases xa <;> rfl
 rw [hval] at hfc
 have e0:us.take (min x.n (s.n - l) * esz) = us.take ((s.n - l) * esz):=by
  rcases Nat.le_total x.n (s.n - l) with h6 | h6
  ·rw [Nat.min_eq_left h6,← hul,List.take_length,List.take_of_length_le (by rw [hul]; exact Nat.mul_le_mul_right _ h6)]
  ·rw [Nat.min_eq_right h6]
 rw [e0] at hfc
 have hlen:(us.take ((s.n - l) * esz)).length ≤ (s.n - l) * esz:=by rw [List.length_take]; omega
 have hmul:l * esz + (s.n - l) * esz = vs.length:=by rw [← Nat.add_mul,h2]; congr 1; omega
 have hg0:(#[T,U]:Array TypeId)[0]? = some T:=rfl
 have hv0:(#[d.val,x.val]:Array Value)[0]? = some d.val:=rfl
 have hv1:(#[d.val,x.val]:Array Value)[1]? = some x.val:=rfl
 have hlo:(Builtin.lenOf x.val).run P w = .ok x.n w:=by simp [Builtin.lenOf,Sl.val]
 cases ha:s.a with
 | none=>
  have h6:=h5 ha
  have h7:s.n = 0:=by omega
  have h8:us.take ((s.n - l) * esz) = []:=by rw [h7]; simp
  refine ⟨((min x.n (s.n - l):Nat):Int),w,?_,?_⟩
  rotate_left
  ·rw [h8] at h
   have e:zDb vs (l * esz) [] = vs:=by simp [zDb]
   rw [e] at h
   exact h w h1
  ·unfold Builtin.copy_
   simp only [hg0,hv0,hv1]
   simp only [Sem.run_bind,run_underlying hsl,Result.andThen,Sl.val,jE hsz]
   simp only [Sl.val] at hlo hfc
   simp only [hlo,Sem.run_bind,Result.andThen,hdn]
   rw [show Nat.min x.n (s.n - l) = min x.n (s.n - l) from rfl,hfc]
   rw [hda]
   simp [zCE,h8,goInt,storeCells]
   split <;> simp
 | some a=>
  have hsp:=h4 a ha
  obtain ⟨w',_,hst',h6,_⟩:=zOG (p:=l * esz) (us:=us.take ((s.n - l) * esz)) h1 ha (by omega) hfl
  have hst:=hst' P
  refine ⟨((min x.n (s.n - l):Nat):Int),w',?_,h w' h6⟩
  unfold Builtin.copy_
  simp only [hg0,hv0,hv1]
  simp only [Sem.run_bind,run_underlying hsl,Result.andThen,Sl.val,jE hsz]
  simp only [Sl.val] at hlo hfc
  simp only [hlo,Sem.run_bind,Result.andThen,hdn]
  rw [show Nat.min x.n (s.n - l) = min x.n (s.n - l) from rfl,hfc]
  rw [hda,ha]
  by_cases hcl:s.c = l
  ·have h7:s.n - l = 0:=by omega
   have h8:us.take ((s.n - l) * esz) = []:=by rw [h7]; simp
   rw [h8] at hst
   have hw':w' = w:=by simpa [storeCells] using hst.symm
   simp [zCE,hcl,h8,goInt,storeCells,hw']
  ·simp [zCE,hcl,hst,goInt]
theorem zGC {T U Tr:Nat} {us:List Value} {k:Sl→K} (hx:∀ w,Holds B Γ w→RdC w x esz us) (hfl:∀ u ∈ us,yu u = true) (hroom:x.n ≤ 100000000) (h:∀ s',s'.n = x.n→HG B (SlC E esz s' us::Γ) (k s')) (hT:zGf P T U E esz = true:=by kernel_rfl) :
  HG B Γ (New E #[] fun t=>Do P (Builtin.append_ #[T,U] Tr #[Sl.val (Sl.mk (some t) 0 0),x.val]) Sl.val k):=zH fun b=>by
 refine jy (A':=SlC E esz ⟨some ⟨b,0,none⟩,0,0⟩ []) (zAB (vs:=[]) rfl (by simp)) ?_
 refine qN (us:=us) (fun w hw=>hx w hw.tail) hfl (by simp only; omega) (hT:=hT) fun s' hs'=>?_
 have:=h s' (by simpa using hs')
 simpa using this
theorem zWs {T U Tr:Nat} {m:Int} {k:Sl→K} (hm:0 ≤ m) (hgrow:(s.c:Int) < s.n + m) (hroom:(s.n:Int) + m ≤ 100000000) (h:∀ s' zs,s'.n = s.n + m.toNat→zs.length = m.toNat * esz→(∀ v ∈ zs,yu v = true)→HG B (SlC E esz s' (vs++zs)::Γ) (k s')) (hr:∀ w,Holds B Γ w→RdC w s esz vs) (hsp:s.n ≤ s.c) (hT:zWr P T U E esz = true:=by kernel_rfl) :
  HG B Γ (Do P (Builtin.append_ #[T,U] Tr #[s.val,.int .i64 m]) Sl.val k):=fun w hw=>by
 unfold zWr at hT
 simp only [Bool.and_eq_true] at hT
 obtain ⟨hT,hU⟩:=hT
 obtain ⟨hs1,_,by',zv,hby,hle,hne,hz,hzs,hzf⟩:=zD6 hT
 obtain ⟨hsl,hsz⟩:=zAC hs1
 obtain ⟨ib,hib,hbytes⟩:=zKv hby
 obtain ⟨n,rfl⟩:∃ n:Nat,m = n:=⟨m.toNat,by omega⟩
 simp only [Int.toNat_natCast] at h
 obtain ⟨kd,hU'⟩:∃ kd,P.underlying U = some (.int kd):=by
  split at hU
  ·rename_i kd hk; exact ⟨kd,hk⟩
  ·cases hU
 have hti:(typeInfo E).run P w = .ok ib w:=by simp [typeInfo,program,hib,Sem.run]
 have hget:(#[T,U]:Array TypeId)[0]? = some T:=rfl
 have hget1:(#[T,U]:Array TypeId)[1]? = some U:=rfl
 have hv0:(#[s.val,Value.int .i64 (n:Int)]:Array Value)[0]? = some s.val:=rfl
 have hv1:(#[s.val,Value.int .i64 (n:Int)]:Array Value)[1]? = some (Value.int .i64 (n:Int)):=rfl
 have hwr:IntKind.wrap .i64 (n:Int) = n:=wrap64 (by omega) (by omega)
 have hl0:¬ ((n:Int) < 0):=by omega
 have hbig2:¬ ((n:Int) * (ib.bytes:Int) > 2 ^ 48):=by
  rw [hbytes]
  have h1:n * by' ≤ 100000000 * 1000:=Nat.mul_le_mul (by omega) hle
  have h2:((n * by':Nat):Int) ≤ 100000000 * 1000:=by omega
  rw [Int.natCast_mul] at h2
  omega
 have hcap:=zMO (show s.c < s.n + n by omega)
 have hcap2:¬ (Builtin.nextslicecap (s.n + n) s.c * ib.bytes > 2 ^ 48):=by
  rw [hbytes]
  have h1:=Nat.mul_le_mul hcap hle
  have h2:(2 * (s.n + n) + 800) * 1000 ≤ 200000800 * 1000:=Nat.mul_le_mul_right _ (by omega)
  omega
 have hi64:¬ ((s.n + n:Nat):Int) > IntKind.i64.max:=by simp [IntKind.max,IntKind.signed,IntKind.bits]; omega
 have hn:¬ (s.n + n ≤ s.c):=by omega
 have hio:(asIntOf (Value.int .i64 (n:Int))).run P w = .ok (.i64,(n:Int)) w:=by simp [asIntOf]
 show ∃ x w',(Builtin.append_ #[T,U] Tr #[s.val,.int .i64 n]).run P w = .ok (Sl.val x) w'∧k x w'
 unfold Builtin.append_
 simp only [hget,hget1,hv0,hv1]
 simp only [Sem.run_bind,run_underlying hsl,Result.andThen,Sl.val,jE hsz,run_underlying hU',Sem.run_pure,if_true,asInt,hio,hwr,hl0,if_false,hti,hbig2,Int.toNat_natCast]
 simp only [hn,if_false]
 simp only [Sem.run_bind,hti,Result.andThen]
 rw [if_neg (by rintro ⟨h1,_⟩; exact hi64 h1)]
 simp only [Sem.run_bind,hti,Result.andThen,Sem.run_pure]
 rw [if_neg hcap2]
 obtain ⟨newCap,w1,hch,hle1,hw1⟩:∃ nc w1,(choose (.appendCap (s.n + n) s.c E)).run P w = .ok nc w1∧s.n + n ≤ nc∧w1 = { w with drawn:=w.drawn + 1 }:=by
  refine ⟨(Question.appendCap (s.n + n) s.c E).cut (w.tape w.drawn (.appendCap (s.n + n) s.c E)),_,by simp [choose,Sem.run,Question.forced],?_,rfl⟩
  simp only [Question.cut]; omega
 have hw':Holds B Γ w1:=by rw [hw1]; exact hw.drew _
 have hrs1:=hr w1 hw'
 have hti1:(typeInfo E).run P w1 = .ok ib w1:=by simp [typeInfo,program,hib,Sem.run]
 have hf1:=zCK (P:=P) hrs1
 simp only [Sl.val] at hf1
 obtain ⟨zs,hzl,hzfl,hap⟩:∃ zs:List Value,zs.length = n * esz∧(∀ v ∈ zs,yu v = true)∧(if n * esz = 0 then (pure #[]:Sem (Array Value)) else do pure (Builtin.zeroCells (← zeroValue E).cells n)).run P w1 = .ok zs.toArray w1:=by
  by_cases h0:n * esz = 0
  ·exact ⟨[],by simp [h0],by simp,by simp [h0]⟩
  ·refine ⟨(Builtin.zeroCells zv.cells n).toList,by simp [Builtin.zeroCells,hzs],zG3 _ _ hzf,?_⟩
   rw [if_neg h0]
   simp [zAx hz]
 simp only [hch,hti1,run_askRoom,hf1,zAx hz,Sem.run_bind,Result.andThen,Sem.run_pure,newRow,newObj,Sem.run,Bool.not_true,Bool.false_eq_true,if_false] at hap ⊢
 simp only [hap]
 refine ⟨⟨some ⟨w1.heap.size,0,none⟩,s.n + n,newCap⟩,_,rfl,h _ zs rfl (by simpa using hzl) hzfl _ ?_⟩
 have h2:=hw'.alloc (.cells (vs.toArray++zs.toArray++Builtin.zeroCells zv.cells (newCap - (s.n + n))) E)
 have hvl:=hrs1.len
 refine h2.imp fun g hg=>⟨?_,hle1,rfl,_,(0,0),hg,?_,?_,?_⟩
 ·simp [hvl,hzl,Nat.add_mul]
 ·intro i _ _; simp
 ·simp only [Nat.zero_add,Array.size_append,List.size_toArray,hvl,hzl,Builtin.zeroCells,Array.size_map,Array.size_range,hzs]
  rw [← Nat.add_mul,← Nat.add_mul]
  exact Nat.mul_le_mul_right _ (by omega)
 ·intro i hi
  simp only [Nat.zero_add]
  rw [Array.getElem?_append_left (by simpa using hi)]
  simp [List.getElem?_append,Array.getElem?_append]
theorem zAX {lo hi mx:Nat} {l h' m:Int} {ks:Sl→K} (h:HG B Γ (ks ⟨zCE s.a lo mx esz,hi - lo,mx - lo⟩)) (hl:l = (lo:Int):=by first | rfl | omega) (hh:h' = (hi:Int):=by first | rfl | omega) (hm:m = (mx:Int):=by first | rfl | omega) (h1:lo ≤ hi:=by omega) (h2:hi ≤ mx:=by omega) (h3:mx ≤ s.c:=by omega) :
  HG B Γ (Slc s l h' m esz ks):=fun w hw=>by
 subst hl; subst hh; subst hm
 exact ⟨_,by omega,by omega,by omega,by omega,by simp,h w hw⟩
theorem zCs {k:K} {m c':Nat} (hm:m ≤ s.n) (hc:m ≤ c') (hc':c' ≤ s.c) (h:HG B (SlC E esz ⟨s.a,m,c'⟩ (vs.take (m * esz))::Δ) k) [p:zB1 s Γ (SlC E esz s vs) Δ]:HG B Γ k:=fun w hw=>h w ((hw.perm p.perm).imp fun g hg=>by
 obtain ⟨hl,_,hs⟩:=SlC.take hm g hg
 refine ⟨hl,hc,?_⟩
 cases ha:s.a with
 | none=>rw [ha] at hs; simp only at hs ⊢; omega
 | some a=>
  rw [ha] at hs
  obtain ⟨hsp,cs,fz,hb,hf,hsz,hv⟩:=hs
  have:c' * esz ≤ s.c * esz:=Nat.mul_le_mul_right _ hc'
  exact ⟨hsp,cs,fz,hb,fun i h1 h2=>hf i h1 (by simp only at h2 ⊢; omega),by simp only at hsz ⊢; omega,hv⟩)
theorem zcG {k:K} {m:Nat} (hm:s.n + m ≤ s.c) (h:∀ js:List Value,js.length = m * esz→HG B (SlC E esz ⟨s.a,s.n + m,s.c⟩ (vs++js)::Δ) k) [p:zB1 s Γ (SlC E esz s vs) Δ]:HG B Γ k:=fun w hw=>by
 have h1:=hw.perm p.perm
 have h2:Holds B ((ex fun js:List Value=>fun g=>js.length = m * esz∧SlC E esz ⟨s.a,s.n + m,s.c⟩ (vs++js) g)::Δ) w:=h1.imp fun g hg=>zPr hm hg
 obtain ⟨js,h3⟩:=Holds.ex.1 h2
 exact h js (h3.fact fun g hg=>hg.1) w (h3.imp fun g hg=>hg.2)
theorem zJT {T t l q m:Nat} {d:Sl} {k:Value→K} (hd:d = ⟨zCE s.a l m esz,q,m - l⟩) (hl:s.n ≤ l) (hq:l + q ≤ s.c) (hm:q = 0∨m ≠ l) (h:HG B (SlC E esz s vs::Δ) (k (.tuple #[]))) [p:zB1 s Γ (SlC E esz s vs) Δ] (hT:zGf P T T E esz = true:=by kernel_rfl) :
  HG B Γ (Do P (Builtin.clear_ #[T] t #[d.val]) id k):=fun w hw=>by
 obtain ⟨h1,_,_,zv,_,_,_,h6,h7,h8⟩:=zD6 hT
 exact zZF (hw.perm p.perm) h1 h6 h7 h8 hl hq hm hd fun w' h'=>h w' h'
theorem zWt {n m esz:Nat} (h:vs.length = n * esz) (hm:m ≤ n):(vs.take (m * esz)).length = m * esz:=by
 have:=Nat.mul_le_mul_right esz hm
 rw [List.length_take]; omega
theorem zPu {T t:Nat} {k:Int→K} (hT:zGf P T T E esz = true) (h:HG B Γ (k (s.c:Int))):HG B Γ (Do P (Builtin.cap_ #[T] t #[s.val]) (Value.int .i64) k):=fun w hw=>by
 obtain ⟨h1,_⟩:=zD6 hT
 obtain ⟨hsl,_⟩:=zAC h1
 refine ⟨s.c,w,?_,h w hw⟩
 unfold Builtin.cap_
 have hget:(#[T]:Array TypeId)[0]? = some T:=rfl
 have hv0:(#[s.val]:Array Value)[0]? = some s.val:=rfl
 simp only [hget,hv0]
 simp only [Sem.run_bind,run_underlying hsl,Result.andThen,Sl.val]
 rfl
end
end
section
open Go Go.RowKit
def zRH (P:Program) (T J R esz:Nat) (rot:Sl→Int→K→K) (s0:Sl) (i1:Int) (v2:Sl) (Q:Sl→K):K :=
 Slc s0 i1 (s0.n:Int) (s0.c:Int) esz fun _=>
 Ite (decide ((v2.n:Int) = 0))
  (Q s0)
  (Ite (decide (i1 = (s0.n:Int)))
   (Do P (Builtin.append_ #[T,T] T #[(Sl.val s0),(Sl.val v2)]) Sl.val fun t25=>
   Q t25)
   (Ar (IntKind.wrap .i64 ((s0.n:Int) + (v2.n:Int))) fun t28=>
   Do P (Builtin.cap_ #[T] J #[(Sl.val s0)]) (Value.int .i64) fun t30=>
   Ite (decide (t30 < t28))
    (Slc s0 0 i1 (s0.c:Int) esz fun t34=>
    Ar (IntKind.wrap .i64 ((s0.n:Int) + (v2.n:Int))) fun t37=>
    Ar (IntKind.wrap .i64 (t37 - i1)) fun t39=>
    Do P (Builtin.append_ #[T,J] T #[(Sl.val t34),(.int .i64 t39)]) Sl.val fun t40=>
    Slc t40 i1 (t40.n:Int) (t40.c:Int) esz fun t43=>
    Do P (Builtin.copy_ #[T,T] J #[(Sl.val t43),(Sl.val v2)]) (Value.int .i64) fun t45=>
    Dr<|
    Ar (IntKind.wrap .i64 (i1 + (v2.n:Int))) fun t49=>
    Slc t40 t49 (t40.n:Int) (t40.c:Int) esz fun t50=>
    Slc s0 i1 (s0.n:Int) (s0.c:Int) esz fun t53=>
    Do P (Builtin.copy_ #[T,T] J #[(Sl.val t50),(Sl.val t53)]) (Value.int .i64) fun t54=>
    Q t40)
    (Ar (IntKind.wrap .i64 ((s0.n:Int) + (v2.n:Int))) fun t59=>
    Slc s0 0 t59 (s0.c:Int) esz fun t60=>
    Ar (IntKind.wrap .i64 (i1 + (v2.n:Int))) fun t65=>
    Slc t60 t65 (t60.n:Int) (t60.c:Int) esz fun t66=>
    Rd P (Extern.SlicesOverlaps.overlaps #[T,T] #[R] [(Sl.val v2),(Sl.val t66)].toArray) Value.bool fun t67=>
    Ite (!t67)
     (Dr<|
     Ar (IntKind.wrap .i64 (i1 + (v2.n:Int))) fun t72=>
     Slc t60 t72 (t60.n:Int) (t60.c:Int) esz fun t73=>
     Slc t60 i1 (t60.n:Int) (t60.c:Int) esz fun t76=>
     Do P (Builtin.copy_ #[T,T] J #[(Sl.val t73),(Sl.val t76)]) (Value.int .i64) fun t77=>
     Slc t60 i1 (t60.n:Int) (t60.c:Int) esz fun t80=>
     Do P (Builtin.copy_ #[T,T] J #[(Sl.val t80),(Sl.val v2)]) (Value.int .i64) fun t82=>
     Q t60)
     (Slc t60 (s0.n:Int) (t60.n:Int) (t60.c:Int) esz fun t86=>
     Do P (Builtin.copy_ #[T,T] J #[(Sl.val t86),(Sl.val v2)]) (Value.int .i64) fun t88=>
     Slc t60 i1 (t60.n:Int) (t60.c:Int) esz fun t91=>
     rot t91 (v2.n:Int)<|
     Q t60))))
def zPv (P:Program) (T Z esz:Nat) (s0:Sl) (i1 j2:Int) (Q:Sl→K):K :=
 Slc s0 i1 j2 (s0.n:Int) esz fun _=>
 Ite (decide (i1 = j2))
  (Q s0)
  (Dr<|
  Slc s0 0 i1 (s0.c:Int) esz fun t22=>
  Slc s0 j2 (s0.n:Int) (s0.c:Int) esz fun t25=>
  Do P (Builtin.append_ #[T,T] T #[(Sl.val t22),(Sl.val t25)]) Sl.val fun t26=>
  Slc t26 (t26.n:Int) (s0.n:Int) (t26.c:Int) esz fun t31=>
  Do P (Builtin.clear_ #[T] Z #[(Sl.val t31)]) id fun _=>
  Q t26)
def zIk (P:Program) (E T:Nat) (s0:Sl) (Q:Sl→K):K :=
 Ite ((s0).a.isNone)
  (Q (Sl.mk none 0 0))
  (New E #[] fun t5=>
  Do P (Builtin.append_ #[T,T] T #[(Sl.val (Sl.mk (some t5) 0 0)),(Sl.val s0)]) Sl.val fun t7=>
  Q t7)
theorem zD7 {A X C us:List Value} {p:Nat} (hp:p = A.length) (h:X.length = us.length):zDb (A++(X++C)) p us = A++(us++C):=by
 subst hp
 simp only [zDb,List.take_left,List.append_assoc,List.append_cancel_left_eq]
 rw [← h,List.drop_append,List.drop_eq_nil_of_le (by omega),List.nil_append,show A.length + X.length - A.length = X.length by omega,List.drop_left]
section
variable {P:Program} {B w:World} {Γ Δ Δ2:List zC} {E esz:Nat} {s x:Sl} {vs us:List Value}
theorem zcH {T R t l:Nat} {d:Sl} {cs:List Value} {k:Bool→K} (hd:d = ⟨zCE s.a l s.c esz,s.n - l,s.c - l⟩) (h:HG B Γ (k false)) [p:zB1 s Γ (SlC E esz s vs) Δ] [q:Own t Δ (blk t (.cells cs.toArray E (0,0))) Δ2] (hc:0 < s.c) (he:0 < esz) (hT:zGf P T T E esz = true) :
  HG B Γ (Rd P (Extern.SlicesOverlaps.overlaps #[T,T] #[R] [(Sl.val ⟨some ⟨t,0,none⟩,1,1⟩),(Sl.val d)].toArray) Value.bool k):=fun w hw=>by
 obtain ⟨hs1,_⟩:=zD6 hT
 obtain ⟨hsl,hsz⟩:=zAC hs1
 obtain ⟨_,_,hsp,hnil⟩:=zHo hw p
 have h1:=hw.perm (p.perm.trans (q.perm.cons _))
 cases ha:s.a with
 | none=>have:=hnil ha; omega
 | some a=>
  obtain ⟨cs2,fz,h2,_,_,hsz2,_,_,_⟩:=zMT h1 ha
  have hb2:=h2.block
  have hb1:=h2.swap.block
  have hne:=h2.swap.apart
  obtain ⟨b,off,sp⟩:=a
  have hsp':=hsp _ ha
  simp only at hsp'; subst hsp'
  simp only at hb2 hne hsz2
  have hmul:0 < s.c * esz:=Nat.mul_pos hc he
  refine ⟨false,?_,h w hw⟩
  have hcut:∃ o,zCE s.a l s.c esz = some ⟨b,o,none⟩:=by
   rw [ha]; unfold zCE
   split
   ·exact ⟨_,rfl⟩
   ·exact ⟨_,by simp only [Option.map_some,uT]; rfl⟩
  obtain ⟨o,ho⟩:=hcut
  subst hd
  simp only [Sl.val,ho]
  exact Go.Lib.run_overlaps_apart w T R E hsl esz (fun w=>jE hsz) ⟨t,0,none⟩ ⟨b,o,none⟩ 1 1 _ _ hne E E cs.toArray.size cs2.size (by simp [World.shape?,hb1]) (by simp [World.shape?,hb2]) (by omega) (by simp [World.frozen?,hb1]) (by simp [World.frozen?,hb1])
theorem jX {t:Nat} {cs:List Value} {T:TypeId} {k:Nat} (he:cs.length = esz) [q:Own t Γ (blk t (.cells cs.toArray T (0,0))) Δ]:∀ w,Holds B Γ w→RdC w ⟨some ⟨t,0,none⟩,1,k⟩ esz cs:=fun w hw=>
 RdC.zMR (E:=T) (hw.perm q.perm) List.mem_cons_self (by simp) (by simpa using he) k
theorem zHp {n:Nat} (h:∀ v ∈ vs,yu v = true):∀ v ∈ vs.take n,yu v = true:=fun v hv=>h v (List.mem_of_mem_take hv)
theorem zOH {n:Nat} (h:∀ v ∈ vs,yu v = true):∀ v ∈ vs.drop n,yu v = true:=fun v hv=>h v (List.mem_of_mem_drop hv)
theorem zRI {T J R i t:Nat} {rot:Sl→Int→K→K} {Q:Sl→K} (hi:i ≤ s.n) (hn:s.n < 50000000) (he:us.length = esz) (he0:0 < esz) (hvf:∀ v ∈ vs,yu v = true) (huf:∀ v ∈ us,yu v = true)
  (h:∀ s',s'.n = s.n + 1→HG B (SlC E esz s' (vs.take (i * esz)++us++vs.drop (i * esz))::Δ2) (Q s')) [p:zB1 s Γ (SlC E esz s vs) Δ] [q:Own t Δ (blk t (.cells us.toArray E (0,0))) Δ2] (hT:zGf P T T E esz = true) (hJ:zWr P T J E esz = true) :
  HG B Γ (zRH P T J R esz rot s i ⟨some ⟨t,0,none⟩,1,1⟩ Q):=by
 refine fun w hw=>?_
 refine hg (hw.perm (p.perm.trans (q.perm.cons _))) ?_
 clear hw w p q
 refine yS s fun h1 h2 h3 h4=>?_
 unfold zRH
 dsimp only
 refine zAX (lo:=i) (hi:=s.n) (mx:=s.c) ?_
 refine s_f ?_
 refine zF (fun hb=>?_) fun hb=>?_
 ·have hin:i = s.n:=by simp only [decide_eq_true_eq] at hb; omega
  refine qN (us:=us) (jX he) huf (by simp only; omega) (hT:=hT) fun s' hs'=>?_
  have e1:vs.take (i * esz) = vs:=List.take_of_length_le (by rw [h1,hin]; exact Nat.le_refl _)
  have e2:vs.drop (i * esz) = []:=List.drop_eq_nil_of_le (by rw [h1,hin]; exact Nat.le_refl _)
  have h5:=h s' (by simpa using hs')
  rw [e1,e2,List.append_nil] at h5
  exact zB (Δ:=SlC E esz s' (vs++us)::Δ2) h5
 have hin:i < s.n:=by simp only [decide_eq_false_iff_not] at hb; omega
 have hsa:∃ a,s.a = some a:=by
  cases ha:s.a with
  | none=>have:=h4 ha; omega
  | some a=>exact ⟨a,rfl⟩
 have hle:i * esz ≤ s.n * esz:=Nat.mul_le_mul_right _ hi
 have hle1:(i + 1) * esz ≤ s.n * esz:=Nat.mul_le_mul_right _ hin
 have hx1:(s.n + 1) * esz = s.n * esz + esz:=by rw [Nat.add_mul,Nat.one_mul]
 have hx2:(i + 1) * esz = i * esz + esz:=by rw [Nat.add_mul,Nat.one_mul]
 have hx3:(s.n + 1 - i) * esz = s.n * esz + esz - i * esz:=by rw [Nat.sub_mul,hx1]
 have hx4:(s.n + 1 - (i + 1)) * esz = s.n * esz - i * esz:=by rw [show s.n + 1 - (i + 1) = s.n - i by omega,Nat.sub_mul]
 have hvs:vs = vs.take (i * esz)++vs.drop (i * esz):=(List.take_append_drop _ _).symm
 have hA:(vs.take (i * esz)).length = i * esz:=zWt h1 hi
 have hC:(vs.drop (i * esz)).length = s.n * esz - i * esz:=by rw [List.length_drop,h1]
 have hvfa:=zHp (n:=i * esz) hvf
 have hvfc:=zOH (n:=i * esz) hvf
 refine qB ?_
 refine zPu hT ?_
 refine zF (fun hb=>?_) fun hb=>?_
 ·have hgrow:s.c < s.n + 1:=by simp only [decide_eq_true_eq] at hb; omega
  refine zAX (lo:=0) (hi:=i) (mx:=s.c) ?_
  refine qB ?_
  refine qB ?_
  rw [zKA h3]
  have hm:∀ z:Nat,z = 1→((s.n:Int) + (z:Int) - i).toNat = s.n + 1 - i:=by omega
  refine zWs (s:=⟨s.a,i - 0,s.c - 0⟩) (vs:=vs.take (i * esz)) (by omega) (by simp only; omega) (by simp only; omega) (fun s' zs hs' hz hzf=>?_) (fun w hw=>(yP hw (p:=zZH)).1.take (by omega)) (by simp only; omega) (hT:=hJ)
  simp only [Nat.sub_zero] at hs'
  have hs'n:s'.n = s.n + 1:=by have:=hm _ rfl; omega
  refine yS s' fun h5 h6 h7 h8=>?_
  refine zAX (lo:=i) (hi:=s'.n) (mx:=s'.c) ?_
  rw [hm _ rfl] at hz hs'
  refine zPt (s:=s') (l:=i) (us:=us) (jX he) (zHp huf) rfl (by omega) (hT:=hT) ?_
  refine vo ?_
  refine qB ?_
  refine zAX (lo:=i + 1) (hi:=s'.n) (mx:=s'.c) ?_
  refine zAX (lo:=i) (hi:=s.n) (mx:=s.c) ?_
  refine zPt (s:=s') (l:=i + 1) (us:=vs.drop (i * esz)) (fun w hw=>(yP (s:=s) hw).1.drop hi h2 h3) (zHp hvfc) rfl (by omega) (hT:=hT) ?_
  have e:zDb (zDb (vs.take (i * esz)++zs) (i * esz) (us.take ((s'.n - i) * esz))) ((i + 1) * esz) ((vs.drop (i * esz)).take ((s'.n - (i + 1)) * esz)) = vs.take (i * esz)++us++vs.drop (i * esz):=by
   rw [hs'n,hx3,hx4,List.take_of_length_le (l:=us) (by omega),List.take_of_length_le (l:=vs.drop (i * esz)) (by omega)]
   have hz2:zs = zs.take esz++(zs.drop esz++[]):=by simp
   rw [hz2,zD7 hA.symm (by rw [List.length_take,hz]; omega),← List.append_assoc,zD7 (by rw [List.length_append,hA]; omega) (by rw [List.length_drop,hz,hC,hx3]; omega)]
   simp
  rw [e]
  exact zB (h s' hs'n)
 ·have hroom:s.n + 1 ≤ s.c:=by simp only [decide_eq_false_iff_not] at hb; omega
  refine qB ?_
  refine zAX (lo:=0) (hi:=s.n + 1) (mx:=s.c) ?_
  rw [zKA h3]
  refine zcG (s:=s) (m:=1) hroom fun js hj=>?_
  simp only [Nat.sub_zero]
  generalize hs':(⟨s.a,s.n + 1,s.c⟩:Sl) = s'
  have hs'n:s'.n = s.n + 1:=by rw [← hs']
  have hs'c:s'.c = s.c:=by rw [← hs']
  have hsp':∀ a,s'.a = some a→a.spot = none:=by rw [← hs']; exact h3
  refine qB ?_
  refine zAX (lo:=i + 1) (hi:=s'.n) (mx:=s'.c) ?_
  refine zcH (s:=s') rfl ?_ (by omega) he0 hT
  refine s_t ?_
  refine vo ?_
  refine qB ?_
  refine zAX (lo:=i + 1) (hi:=s'.n) (mx:=s'.c) ?_
  refine zAX (lo:=i) (hi:=s'.n) (mx:=s'.c) ?_
  have hjf:∀ v ∈ ((vs++js).drop (i * esz)).take ((s'.n - (i + 1)) * esz),yu v = true:=fun v hv=>by
   rw [List.drop_append_of_le_length (by omega),hs'n,hx4,← hC,List.take_left] at hv
   exact hvfc v hv
  refine yS s' fun h5 h6 h7 h8=>?_
  refine zPt (s:=s') (l:=i + 1) (us:=(vs++js).drop (i * esz)) (fun w hw=>(yP (s:=s') hw).1.drop (by omega) h6 h7) hjf rfl (by omega) (hT:=hT) ?_
  refine zAX (lo:=i) (hi:=s'.n) (mx:=s'.c) ?_
  refine zPt (s:=s') (l:=i) (us:=us) (jX he) (zHp huf) rfl (by omega) (hT:=hT) ?_
  have e:zDb (zDb (vs++js) ((i + 1) * esz) (((vs++js).drop (i * esz)).take ((s'.n - (i + 1)) * esz))) (i * esz) (us.take ((s'.n - i) * esz)) = vs.take (i * esz)++us++vs.drop (i * esz):=by
   rw [List.drop_append_of_le_length (by omega),hs'n,hx4,← hC,List.take_left,hx3,List.take_of_length_le (l:=us) (by omega)]
   generalize hAA:vs.take (i * esz) = A at *
   generalize hCC:vs.drop (i * esz) = C at *
   have e1:vs++js = (A++(C++js).take esz)++((C++js).drop esz++[]):=by rw [hvs]; simp
   rw [e1,zD7 (by rw [List.length_append,hA,List.length_take,List.length_append]; omega) (by rw [List.length_drop,List.length_append]; omega),List.append_assoc,zD7 hA.symm (by rw [List.length_take,List.length_append]; omega)]
   simp
  rw [e]
  exact zB (h s' hs'n)
theorem zOI {T Z i j:Nat} {Q:Sl→K} (hij:i < j) (hj:j ≤ s.n) (hn:s.n < 50000000) (hvf:∀ v ∈ vs,yu v = true)
  (h:∀ s',s'.n = s.n - (j - i)→HG B (SlC E esz s' (vs.take (i * esz)++vs.drop (j * esz))::Δ) (Q s')) [p:zB1 s Γ (SlC E esz s vs) Δ] (hT:zGf P T T E esz = true) :
  HG B Γ (zPv P T Z esz s i j Q):=by
 refine fun w hw=>?_
 refine hg (hw.perm p.perm) ?_
 clear hw w p
 refine yS s fun h1 h2 h3 h4=>?_
 unfold zPv
 refine zAX (lo:=i) (hi:=j) (mx:=s.n) ?_
 refine s_f ?_
 refine vo ?_
 refine zAX (lo:=0) (hi:=i) (mx:=s.c) ?_
 refine zAX (lo:=j) (hi:=s.n) (mx:=s.c) ?_
 rw [zKA h3]
 intro w hw
 have hx:RdC w ⟨zCE s.a j s.c esz,s.n - j,s.c - j⟩ esz (vs.drop (j * esz)):=(yP (s:=s) hw).1.drop hj h2 h3
 obtain ⟨g1,g2,by',zv,g3,g4,g5,g6,g7,_⟩:=zD6 hT
 refine hg (k:=fun w=>RdC w ⟨zCE s.a j s.c esz,s.n - j,s.c - j⟩ esz (vs.drop (j * esz))→Do P _ _ _ w) hw (zCs (s:=s) (m:=i) (c':=s.c) (by omega) (by omega) (Nat.le_refl _) fun w hw hx=>?_) hx
 have hroom:(2 * (i + (s.n - j)) + 800) * by' ≤ 2 ^ 48:=by
  have h8:(2 * (i + (s.n - j)) + 800) * by' ≤ 200000800 * 1000:=Nat.mul_le_mul (by omega) g4
  omega
 obtain ⟨s',w',hr,hh,hn',hsome,hin⟩:=zMP (Tr:=T) hw g1 g2 g3 g6 g7 hx (zOH hvf) hroom g5
 simp only at hn'
 refine ⟨s',w',by simpa using hr,hg hh ?_⟩
 have hs':=hin (by simp only; omega)
 have hc':s'.c = s.c:=by rw [hs']
 simp only [Nat.sub_zero] at hn' hs' ⊢
 refine zAX (lo:=s'.n) (hi:=s.n) (mx:=s'.c) ?_
 refine zJT (s:=s') (l:=s'.n) (q:=s.n - s'.n) (m:=s'.c) rfl (Nat.le_refl _) (by omega) (.inr (by omega)) ?_ (hT:=hT)
 exact h s' (by omega)
theorem zRJ {T:Nat} {Q:Sl→K} (hx:∀ w,Holds B Γ w→RdC w s esz us) (hfl:∀ u ∈ us,yu u = true) (hroom:s.n ≤ 100000000) (h:∀ s',s'.n = s.n→HG B (SlC E esz s' us::Γ) (Q s')) (hT:zGf P T T E esz = true) :
  HG B Γ (zIk P E T s Q):=by
 unfold zIk
 refine fun w hw=>?_
 refine hg hw ?_
 have hr:=hx w hw
 refine zF (fun hb=>?_) fun hb=>?_
 ·have hn:=hr.nil (by simpa using hb)
  have hl:=hr.len
  rw [hn,Nat.zero_mul] at hl
  have:us = []:=List.length_eq_zero_iff.1 hl
  subst this
  intro w hw
  exact h ⟨none,0,0⟩ hn.symm w (hw.zAm E esz)
 ·exact zGC hx hfl hroom h (hT:=hT)
end
section
variable {P:Program} {B w:World} {Γ Δ:List zC} {k:K}
theorem least {p:Nat→Prop} (h:∃ n,p n):∃ n,p n∧∀ m,p m→n ≤ m:=by
 obtain ⟨n,hn⟩:=h
 induction n using Nat.strongRecOn with
 | ind n ih=>
  by_cases h:∃ m,m < n∧p m
  ·obtain ⟨m,h1,h2⟩:=h; exact ih m h1 h2
  ·exact ⟨n,hn,fun m hm=>Nat.le_of_not_lt fun h2=>h ⟨m,h2,hm⟩⟩
theorem xW {α ι:Type} {body:(α→K)→α→K} {x:α} (J:α→ι→Prop) (Γf:α→ι→List zC) (m:α→ι→Nat) (i:ι) (h0:J x i)
  (h:∀ (k':α→K) x i,J x i→(∀ x' i',J x' i'→m x' i' < m x i→HG B (Γf x' i') (k' x'))→HG B (Γf x i) (body k' x)) (hΓ:Γf x i = Γ:=by rfl):HG B Γ (yJ body x):=fun w hw=>by
 subst hΓ
 let I:α→World→Prop:=fun x w=>∃ i,J x i∧Holds B (Γf x i) w
 let p:α→World→Nat→Prop:=fun x w n=>∃ i,J x i∧Holds B (Γf x i) w∧m x i = n
 have hp:∀ x w,I x w→∃ n,p x w n:=fun x w ⟨i,h1,h2⟩=>⟨_,i,h1,h2,rfl⟩
 let μ:α→World→Nat:=fun x w=>@dite _ (I x w) (Classical.propDecidable _) (fun h=>Classical.choose (least (hp x w h))) fun _=>0
 have hμ:∀ x w (h:I x w),p x w (μ x w)∧∀ n,p x w n→μ x w ≤ n:=fun x w h=>by
  have:=Classical.choose_spec (least (hp x w h))
  simpa [μ,h] using this
 refine yJ.of I μ ⟨i,h0,hw⟩ fun x w hI=>?_
 obtain ⟨i,hj,hw,hm⟩:=(hμ x w hI).1
 refine h _ x i hj (fun x' i' hj' hlt w' hw'=>⟨⟨i',hj',hw'⟩,?_⟩) w hw
 have:=(hμ x' w' ⟨i',hj',hw'⟩).2 _ ⟨i',hj',hw',rfl⟩
 omega
theorem zAP {α:Type} {body:(α→K)→α→K} {x:α} (J:α→Prop) (m:α→Nat) (h0:J x)
  (h:∀ (k':α→K) x,J x→(∀ x',J x'→m x' < m x→HG B Γ (k' x'))→HG B Γ (body k' x)):HG B Γ (yJ body x) :=
 xW (ι:=Unit) (fun x _=>J x) (fun _ _=>Γ) (fun x _=>m x) () h0 fun k' x _ hj hk=>h k' x hj fun x' hj' hm=>hk x' () hj' hm
theorem zIl {x y:K} (h1:HG B Γ x) (h2:HG B Γ y):HG B Γ (All [x,y]):=fun w hw=>all_cons (h1 w hw) (all_cons (h2 w hw) all_nil)
theorem zZJ {g:Nat} {args:List Value} {k:Value→K} (h:HG B Γ (zL P g args.toArray k)) (hc:callable P g = true:=by kernel_rfl):HG B Γ (uF P (.func (.func g) #[] #[]) args k):=fun w hw=>
 ⟨g,#[],#[],rfl,hc,by have:=h w hw; simpa [zL] using this⟩
theorem zFC {g:Nat} {args cs:List Value} {k:Value→K} (h:HG B Γ (zL P g (args++cs).toArray k)) (hc:callable P g = true:=by kernel_rfl):HG B Γ (uF P (.func (.func g) #[] cs.toArray) args k):=fun w hw=>
 ⟨g,#[],cs.toArray,rfl,hc,by have:=h w hw; simpa [zL] using this⟩
end
abbrev bs (l:List UInt8):ByteArray:=⟨l.toArray⟩
abbrev qb (l:List UInt8):Value:=.string (bs l)
theorem zKy (b:ByteArray):∃ l,b = bs l:=⟨b.data.toList,by simp [bs]⟩
theorem xY (l:List UInt8):(bs l).toList = l:=by simp
theorem zBx:∀ (x y:List UInt8),Op.bytesLess x y = decide (x < y)
 | [],[]=>by simp [Op.bytesLess]
 | _::_,[]=>by simp [Op.bytesLess]
 | [],_::_=>by simp [Op.bytesLess]
 | a::x,b::y=>by
  rw [Op.bytesLess,zBx x y]
  simp only [List.cons_lt_cons_iff]
  by_cases h1:a < b <;> by_cases h2:a = b <;> by_cases h3:x < y <;> simp [h1,h2,h3]
theorem zWu (x y:List UInt8):(!(Op.bytesLess x y || x == y)) = decide (y < x):=by
 rw [zBx]
 by_cases h1:x < y
 ·have:¬ y < x:=fun h=>List.lt_irrefl x (List.lt_trans h1 h)
  simp [h1,this]
 ·by_cases h2:x = y
  ·subst h2; simp [h1]
  ·have h3:y < x:=by
    have h4:y ≤ x:=by rw [← List.not_lt]; exact h1
    rcases List.le_iff_lt_or_eq.1 h4 with h5 | h5
    ·exact h5
    ·exact absurd h5.symm h2
   simp [h1,h2,h3]
section
variable {B w:World} {Γ Δ:List zC} {k:K} {α:Type} {F:α→zC} {A C:List α} {x:α}
theorem zG4:(((A++x::C).map F)++Γ).Perm (((A++C).map F)++F x::Γ):=by
 have h2:((A++x::C).map F).Perm (F x::(A++C).map F):=(List.perm_middle (a:=x) (l₁:=A) (l₂:=C)).map _
 refine (h2.append_right Γ).trans ?_
 exact (List.perm_middle (a:=F x) (l₁:=(A++C).map F) (l₂:=Γ)).symm
theorem zFk (h:HG B (F x::Sep.stars ((A++C).map F)::Γ) k):HG B (Sep.stars ((A++x::C).map F)::Γ) k:=fun w hw=>
 h w (Holds.flat.2 ((Holds.flat.1 hw).perm zG4)).swap
theorem zAb (h:HG B (Sep.stars ((A++x::C).map F)::Γ) k):HG B (F x::Sep.stars ((A++C).map F)::Γ) k:=fun w hw=>
 h w (Holds.flat.2 ((Holds.flat.1 hw.swap).perm zG4.symm))
end
def bsK (P:Program) (esz:Nat) (x0:Sl) (tv:Value) (cmp2:Value) (Q:Int→Bool→K):K :=
 yJ (α:=Int×Int) (fun X x=>
  Ite (decide (x.1 < x.2))
   (Ar (IntKind.wrap .i64 (x.1 + x.2)) fun t20=>
   Ar (IntKind.wrap .u64 t20) fun t21=>
   Cd (0 ≤ (1:Int))<|
   Ar (zGv .u64 t21 1) fun t22=>
   Ar (IntKind.wrap .i64 t22) fun t23=>
   Idx x0 t23 esz fun t27=>
   LdN t27 esz fun t28=>
   uF P cmp2 [(.agg t28),tv] <| yO (fun (t30:Int)=>(Value.int .i64) t30) fun t30=>
   Ite (decide (t30 < 0))
    (Ar (IntKind.wrap .i64 (t23 + 1)) fun t33=>
    X (t33,x.2))
    (X (x.1,t23)))
   (Ite (decide (x.1 < (x0.n:Int)))
    (Idx x0 x.1 esz fun t43=>
    LdN t43 esz fun t44=>
    uF P cmp2 [(.agg t44),tv] <| yO (fun (t46:Int)=>(Value.int .i64) t46) fun t46=>
    Q x.1 (decide (t46 = 0)))
    (Q x.1 false))) (0,(x0.n:Int))
section
variable {P:Program} {B w:World} {Γ Δ:List zC}
theorem zDJ {α:Type} {f:α→List Value} {esz:Nat} (hf:∀ x,(f x).length = esz):∀ {L:List α} {i:Nat} {x:α},L[i]? = some x→((L.flatMap f).drop (i * esz)).take esz = f x
 | [],i,x,h=>by simp at h
 | a::L,0,x,h=>by
  simp only [List.getElem?_cons_zero,Option.some.injEq] at h
  subst h
  simp only [Nat.zero_mul,List.drop_zero,List.flatMap_cons]
  rw [← hf a,List.take_left]
 | a::L,i + 1,x,h=>by
  simp only [List.getElem?_cons_succ] at h
  rw [List.flatMap_cons,Nat.add_mul,Nat.one_mul,Nat.add_comm,← List.drop_drop,← hf a,List.drop_left]
  rw [hf a]
  exact zDJ hf h
theorem zKz {α:Type} {f:α→List Value} {esz:Nat} (hf:∀ x,(f x).length = esz) {L:List α} {i off:Nat} {x:α} (h:L[i]? = some x) (ho:off < esz):(L.flatMap f)[i * esz + off]? = (f x)[off]?:=by
 rw [← zDJ hf h,List.getElem?_take,if_pos ho,List.getElem?_drop]
theorem zAc {α:Type} (f:α→List Value) {esz:Nat} {L:List α} {s:Sl} {j:Nat} {jj:Int} {x:α} {k:Array Value→K} (hf:∀ x,(f x).length = esz) (hr:∀ w,Holds B Γ w→RdC w s esz (L.flatMap f)) (hx:L[j]? = some x) (h:HG B Γ (k (f x).toArray)) (hj:jj = (j:Int):=by first | rfl | omega) (he:0 < esz:=by omega) :
  HG B Γ (Idx s jj esz fun t=>LdN t esz k):=fun w hw=>by subst hj; exact za7 f hf he (hr w hw) hx rfl fun t=>h w hw
theorem zAd {α:Type} {c:α→Value} {L:List α} {s:Sl} {j:Nat} {jj:Int} {x:α} {k:α→K} (hr:∀ w,Holds B Γ w→RdC w s 1 (L.map c)) (hx:L[j]? = some x) (h:HG B Γ (k x)) (hj:jj = (j:Int):=by first | rfl | omega):HG B Γ (Idx s jj 1 fun t=>Ld t c k):=fun w hw=>by
 subst hj; exact zWl (hr w hw) hx (h w hw)
theorem jY {L:List (List UInt8)} {s:Sl} {j:Nat} {jj:Int} {x:List UInt8} {k:ByteArray→K} (hr:∀ w,Holds B Γ w→RdC w s 1 (L.map qb)) (hx:L[j]? = some x) (h:HG B Γ (k (bs x))) (hj:jj = (j:Int):=by first | rfl | omega):HG B Γ (Idx s jj 1 fun t=>Ld t Value.string k) :=
 zAd (L:=L.map bs) (fun w hw=>by have:=hr w hw; simpa [Function.comp_def] using this) (by rw [List.getElem?_map,hx]; rfl) h hj
theorem zA3 {α:Type} {f:α→List Value} {esz:Nat} {L:List α} {s:Sl} (hf:∀ x,(f x).length = esz) (he:0 < esz) (hr:RdC w s esz (L.flatMap f)):s.n = L.length:=by
 have:=hr.len
 rw [zX f esz hf] at this
 exact (Nat.eq_of_mul_eq_mul_right he this).symm
theorem zc7 {α:Type} {f:α→List Value} {esz E:Nat} {s:Sl} {L:List α} {c:α→Int} {tv cv:Value} {Q:Int→Bool→K} {p:Nat} (hf:∀ x,(f x).length = esz) (hL:L.length < 1000000000)
  (hlo:∀ i x,L[i]? = some x→i < p→c x < 0) (hhi:∀ i x,L[i]? = some x→p ≤ i→0 ≤ c x) (hp:p ≤ L.length)
  (hc:∀ x ∈ L,∀ q:Int→K,HG B Γ (q (c x))→HG B Γ (uF P cv [(.agg (f x).toArray),tv] (yO (fun (t:Int)=>(Value.int .i64) t) q)))
  (h:HG B Γ (Q p (decide (∃ x,L[p]? = some x∧c x = 0)))) [o:zB1 s Γ (SlC E esz s (L.flatMap f)) Δ] (he:0 < esz):HG B Γ (bsK P esz s tv cv Q):=by
 refine yS s fun h1 h2 h3 h4=>?_
 rw [zX f esz hf] at h1
 have hn:s.n = L.length:=(Nat.eq_of_mul_eq_mul_right he h1).symm
 have ldel:∀ (i:Nat) (x:α) (k:Array Value→K),L[i]? = some x→HG B Γ (k (f x).toArray)→HG B Γ (LdN (elA s i esz) esz k):=fun i x k hx hk=>by
  rw [← add0 (elA s i esz)]
  exact zFB (s:=s) (by simpa using zDJ hf hx) (hf x) hk
 unfold bsK
 refine zAP (fun x:Int×Int=>∃ a b:Nat,x = ((a:Int),(b:Int))∧a ≤ p∧p ≤ b∧b ≤ L.length) (fun x=>(x.2 - x.1).toNat) ⟨0,L.length,by rw [hn]; rfl,by omega,hp,Nat.le_refl _⟩ fun k' x hx hk=>?_
 obtain ⟨a,b,rfl,ha,hb,hbl⟩:=hx
 dsimp only
 refine zF (fun hlt=>?_) fun hlt=>?_
 ·have hab:a < b:=by simp only [decide_eq_true_eq] at hlt; omega
  refine qB ?_
  rw [show IntKind.wrap .u64 ((a:Int) + b) = ((a + b:Nat):Int) by rw [zA0 (by omega) (by omega)]; omega]
  refine zAW rfl ?_
  refine zPo (by omega) ?_
  refine zAW (e':=(((a + b) / 2:Nat):Int)) ?_ ?_
  ·show ((a + b:Nat):Int).fdiv 2 = _
   rw [Int.fdiv_eq_ediv_of_nonneg _ (by omega)]; omega
  refine qB ?_
  refine vg (s:=s) (i:=(a + b) / 2) ?_ rfl (by omega)
  obtain ⟨x,hx⟩:∃ x,L[(a + b) / 2]? = some x:=⟨_,List.getElem?_eq_getElem (by omega)⟩
  refine ldel _ x _ hx (hc x (List.mem_of_getElem? hx) _ ?_)
  refine zF (fun h5=>?_) fun h5=>?_
  ·have h6:c x < 0:=by simpa using h5
   refine qB ?_
   refine hk _ ⟨(a + b) / 2 + 1,b,by simp,?_,hb,hbl⟩ (by simp only; omega)
   ·refine Nat.lt_of_not_le fun h7=>?_
    have:=hhi _ x hx h7; omega
  ·have h6:0 ≤ c x:=by simpa using h5
   refine hk _ ⟨a,(a + b) / 2,by simp,ha,?_,by omega⟩ (by simp only; omega)
   ·refine Nat.le_of_not_lt fun h7=>?_
    have:=hlo _ x hx h7; omega
 ·have hab:a = p∧b = p:=by simp only [decide_eq_false_iff_not] at hlt; omega
  obtain ⟨rfl,rfl⟩:=hab
  refine zF (fun h5=>?_) fun h5=>?_
  ·have h6:b < L.length:=by simp only [decide_eq_true_eq] at h5; omega
   refine vg (s:=s) (i:=b) ?_ rfl (by omega)
   obtain ⟨x,hx⟩:∃ x,L[b]? = some x:=⟨_,List.getElem?_eq_getElem h6⟩
   refine ldel _ x _ hx (hc x (List.mem_of_getElem? hx) _ ?_)
   have e:decide (∃ x,L[b]? = some x∧c x = 0) = decide (c x = 0):=by simp [hx]
   rw [e] at h
   exact h
  ·have h6:¬ b < L.length:=by simp only [decide_eq_false_iff_not] at h5; omega
   have e:decide (∃ x,L[b]? = some x∧c x = 0) = false:=by
    simp only [decide_eq_false_iff_not]
    rintro ⟨x,hx,_⟩
    rw [List.getElem?_eq_none (by omega)] at hx; cases hx
   rw [e] at h
   exact h
end
end
section
open Go Go.RowKit
namespace Bt
structure BtT (κ:Type) where
 P:Program
 tI:Nat
 tSI:Nat
 tV:Nat
 tK:Nat
 tSK:Nat
 tN:Nat
 tT:Nat
 nv:Nat
 kz:Value
 vz:List Value
 kV:κ→Value
 cv:Value
 bsC:Sl→κ→Value→(Int→Bool→K)→K
 nsearchC:Option Addr→κ→(Int→Bool→K)→K
 nputC:Option Addr→Array Value→(Array Value→Bool→Option Addr→Option Addr→K)→K
 insIC:Sl→Int→Sl→(Sl→K)→K
 insKC:Sl→Int→Sl→(Sl→K)→K
 cloneIC:Sl→(Sl→K)→K
 cloneKC:Sl→(Sl→K)→K
section
variable {κ:Type}
def zbB (G:BtT κ)  (Q:(Option Addr)→K):K :=
 New G.tN #[(Sl.val ⟨none,0,0⟩),(Sl.val ⟨none,0,0⟩)] fun t2=>
 New G.tT #[(.pointer (some t2)),(.int .i64 0)] fun t4=>
 Q (some t4)
def zUL (G:BtT κ) (n0:(Option Addr)) (key1:κ) (Q:Int→Bool→K):K :=
 Nn n0 fun t7=>
 Ld t7 Sl.val fun t9=>
 G.bsC t9 key1 G.cv fun t11x0 t11x1=>
 Q t11x0 t11x1
def zUM (G:BtT κ) (Q:(Array Value)→Bool→K)  (X1:(Option Addr)→K) (key1_1:κ) (value4_1:Addr) (n6_1:(Option Addr)):K :=
 G.nsearchC n6_1 key1_1 fun t16x0 t16x1=>
 Ite t16x1
  (Nn n6_1 fun t21=>
  Ld t21 Sl.val fun t23=>
  Idx t23 t16x0 (G.nv + 1) fun t25=>
  LdN (t25.add 1) G.nv fun t27=>
  StN value4_1 G.nv t27<|
  LdN value4_1 G.nv fun r0=>
  Q r0 true)
  (Nn n6_1 fun t29=>
  Ld (t29.add 1) Sl.val fun t31=>
  Ite (decide ((t31.n:Int) = 0))
   (LdN value4_1 G.nv fun t34=>
   StN value4_1 G.nv t34<|
   LdN value4_1 G.nv fun r0=>
   Q r0 false)
   (Ld (t29.add 1) Sl.val fun t38=>
   Idx t38 t16x0 1 fun t40=>
   Ld t40 Value.pointer fun t41=>
   X1 t41))
def zbC (G:BtT κ) (t0:(Option Addr)) (key1:κ) (Q:(Array Value)→Bool→K):K :=
 New G.tV G.vz.toArray fun value4=>
 Nn t0 fun t10=>
 Ld t10 Value.pointer fun t12=>
 yJ (α:=(Option Addr)) (fun X x=>zUM G Q X key1 value4 x) t12
def zLp (G:BtT κ) (Q:(Array Value)→Bool→(Option Addr)→(Option Addr)→K)  (old4_2:Addr) (had5_2:Bool) (right7_2:Addr) (m12_2:Addr):K :=
 LdN old4_2 G.nv fun t153=>
 StN old4_2 G.nv t153<|
 LdN old4_2 G.nv fun r0=>
 Q r0 had5_2 (some m12_2) (some right7_2)
def zJU (G:BtT κ) (Q:(Array Value)→Bool→(Option Addr)→(Option Addr)→K)  (n0_1:(Option Addr)) (old4_1:Addr) (had5_1:Bool):K :=
 Nn n0_1 fun t101=>
 Ld t101 Sl.val fun t103=>
 Ite (decide ((t103.n:Int) ≤ 5))
  (LdN old4_1 G.nv fun t106=>
  StN old4_1 G.nv t106<|
  LdN old4_1 G.nv fun r0=>
  Q r0 had5_1 none none)
  (Ld t101 Sl.val fun t111=>
  Idx t111 2 (G.nv + 1) fun t112=>
  LdN t112 (G.nv + 1) fun t113=>
  New G.tI (G.kz::G.vz).toArray fun m12=>
  StN m12 (G.nv + 1) t113<|
  Ld t101 Sl.val fun t117=>
  Slc t117 3 (t117.n:Int) (t117.c:Int) (G.nv + 1) fun t118=>
  G.cloneIC t118 fun t119=>
  New G.tN #[(Sl.val t119),(Sl.val ⟨none,0,0⟩)] fun t121=>
  Ld t101 Sl.val fun t126=>
  Slc t126 0 2 2 (G.nv + 1) fun t127=>
  St t101 (Sl.val t127)<|
  Ld (t101.add 1) Sl.val fun t133=>
  Ite (decide ((0:Int) < (t133.n:Int)))
   (Ld (t101.add 1) Sl.val fun t140=>
   Slc t140 3 (t140.n:Int) (t140.c:Int) 1 fun t141=>
   G.cloneKC t141 fun t142=>
   St (t121.add 1) (Sl.val t142)<|
   Ld (t101.add 1) Sl.val fun t149=>
   Slc t149 0 3 3 1 fun t150=>
   St (t101.add 1) (Sl.val t150)<|
   zLp G Q old4_1 had5_1 t121 m12)
   (zLp G Q old4_1 had5_1 t121 m12))
def zbD (G:BtT κ) (n0:(Option Addr)) (x1:(Array Value)) (Q:(Array Value)→Bool→(Option Addr)→(Option Addr)→K):K :=
 New G.tI x1 fun x3=>
 New G.tV G.vz.toArray fun old4=>
 Ld x3 G.kV fun t16=>
 G.nsearchC n0 t16 fun t17x0 t17x1=>
 Ite t17x1
  (Nn n0 fun t64=>
  Ld t64 Sl.val fun t66=>
  Idx t66 t17x0 (G.nv + 1) fun t68=>
  LdN (t68.add 1) G.nv fun t70=>
  StN old4 G.nv t70<|
  Dr<|
  Ld t64 Sl.val fun t74=>
  LdN (x3.add 1) G.nv fun t77=>
  Idx t74 t17x0 (G.nv + 1) fun t78=>
  StN (t78.add 1) G.nv t77<|
  LdN old4 G.nv fun t80=>
  StN old4 G.nv t80<|
  LdN old4 G.nv fun r0=>
  Q r0 true none none)
  (Nn n0 fun t84=>
  Ld (t84.add 1) Sl.val fun t86=>
  Ite (decide ((t86.n:Int) = 0))
   (Dr <| yh fun S=>
   LdS S t84 Sl.val fun t93=>
   vY S x3 (G.nv + 1) fun t95=>
   Bld (G.kz::G.vz).toArray (fun i=>some (i * (G.nv + 1),(G.nv + 1))) [(0,(.agg t95))] fun ct96=>
   New G.tI ct96 fun t96=>
   Sv S<|
   G.insIC t93 t17x0 (Sl.mk (some t96) 1 1) fun t97=>
   St t84 (Sl.val t97)<|
   zJU G Q (some t84) old4 false)
   (Dr<|
   Ld (t84.add 1) Sl.val fun t24=>
   Idx t24 t17x0 1 fun t26=>
   Ld t26 Value.pointer fun t27=>
   LdN x3 (G.nv + 1) fun t28=>
   G.nputC t27 t28 fun t29x0 t29x1 t29x2 t29x3=>
   StN old4 G.nv t29x0<|
   Ite (!(t29x2).isNone)
    (Dr <| yh fun S=>
    Nn t29x2 fun t43=>
    LdS S t84 Sl.val fun t40=>
    vY S t43 (G.nv + 1) fun t44=>
    Bld (G.kz::G.vz).toArray (fun i=>some (i * (G.nv + 1),(G.nv + 1))) [(0,(.agg t44))] fun ct45=>
    New G.tI ct45 fun t45=>
    Sv S<|
    G.insIC t40 t17x0 (Sl.mk (some t45) 1 1) fun t46=>
    St t84 (Sl.val t46)<|
    Ld (t84.add 1) Sl.val fun t53=>
    Ar (IntKind.wrap .i64 (t17x0 + 1)) fun t55=>
    New G.tK #[(.pointer t29x3)] fun t57=>
    G.insKC t53 t55 (Sl.mk (some t57) 1 1) fun t58=>
    St (t84.add 1) (Sl.val t58)<|
    zJU G Q (some t84) old4 t29x1)
    (zJU G Q (some t84) old4 t29x1)))
def zLq (G:BtT κ) (Q:(Array Value)→Bool→K)  (t6_3:Addr) (old8_3:Addr) (had9_3:Bool):K :=
 LdN old8_3 G.nv fun t51=>
 StN t6_3 G.nv t51<|
 LdN t6_3 G.nv fun r0=>
 Q r0 had9_3
def zJV (G:BtT κ) (Q:(Array Value)→Bool→K)  (t0_2:(Option Addr)) (t6_2:Addr) (old8_2:Addr) (had9_2:Bool):K :=
 Ite (!had9_2)
  (Nn t0_2 fun t45=>
  Ld (t45.add 1) (Value.int .i64) fun t47=>
  Ar (IntKind.wrap .i64 (t47 + 1)) fun t48=>
  St (t45.add 1) (.int .i64 t48)<|
  zLq G Q t6_2 old8_2 had9_2)
  (zLq G Q t6_2 old8_2 had9_2)
def zHq (G:BtT κ) (Q:(Array Value)→Bool→K)  (t0_1:(Option Addr)) (t6_1:Addr) (old8_1:Addr) (had9_1:Bool) (mid10_1:(Option Addr)) (right11_1:(Option Addr)):K :=
 Ite (!(mid10_1).isNone)
  (Dr <| yh fun S=>
  Nn mid10_1 fun t29=>
  Nn t0_1 fun t33=>
  vY S t29 (G.nv + 1) fun t30=>
  LdS S t33 Value.pointer fun t35=>
  All [
   (Bld (G.kz::G.vz).toArray (fun i=>some (i * (G.nv + 1),(G.nv + 1))) [(0,(.agg t30))] fun ct31=>
   New G.tI ct31 fun t31=>
   Sv S<|
   New G.tK #[(.pointer t35),(.pointer right11_1)] fun t37=>
   Sv S<|
   New G.tN #[(Sl.val (Sl.mk (some t31) 1 1)),(Sl.val (Sl.mk (some t37) 2 2))] fun t39=>
   St t33 (.pointer (some t39))<|
   zJV G Q (some t33) t6_1 old8_1 had9_1),
   (New G.tK #[(.pointer t35),(.pointer right11_1)] fun t37=>
   Sv S<|
   Bld (G.kz::G.vz).toArray (fun i=>some (i * (G.nv + 1),(G.nv + 1))) [(0,(.agg t30))] fun ct31=>
   New G.tI ct31 fun t31=>
   Sv S<|
   New G.tN #[(Sl.val (Sl.mk (some t31) 1 1)),(Sl.val (Sl.mk (some t37) 2 2))] fun t39=>
   St t33 (.pointer (some t39))<|
   zJV G Q (some t33) t6_1 old8_1 had9_1)
   ])
  (zJV G Q t0_1 t6_1 old8_1 had9_1)
def zbE (G:BtT κ) (t0:(Option Addr)) (key1:κ) (value2:(Array Value)) (Q:(Array Value)→Bool→K):K :=
 New G.tV value2 fun value5=>
 New G.tV G.vz.toArray fun t6=>
 Dr <| yh fun S=>
 Nn t0 fun t14=>
 LdS S t14 Value.pointer fun t16=>
 vY S value5 G.nv fun t18=>
 Bld (G.kz::G.vz).toArray ([(0,1),(1,G.nv)][·]?) [(0,(G.kV key1)),(1,(.agg t18))] fun t19=>
 All [
  (G.nputC t16 t19 fun t20x0 t20x1 t20x2 t20x3=>
  New G.tV G.vz.toArray fun old8=>
  StN old8 G.nv t20x0<|
  zHq G Q (some t14) t6 old8 t20x1 t20x2 t20x3),
  (New G.tV G.vz.toArray fun old8=>
  Sv S<|
  G.nputC t16 t19 fun t20x0 t20x1 t20x2 t20x3=>
  StN old8 G.nv t20x0<|
  zHq G Q (some t14) t6 old8 t20x1 t20x2 t20x3)
  ]
end
abbrev Cel (n:Nat):={l:List Value // l.length = n∧l.all yu = true}
section
variable {κ:Type} (G:BtT κ)
abbrev BtT.It:=κ×Cel G.nv
def BtT.f (x:G.It):List Value:=G.kV x.1::x.2.1
abbrev BtT.z0 (h:G.vz.length = G.nv∧G.vz.all yu = true):Cel G.nv:=⟨G.vz,h⟩
theorem BtT.qy (x:G.It):(G.f x).length = G.nv + 1:=by simp [BtT.f,x.2.2.1]
structure BtOk (c:κ→κ→Int):Prop where
 kf:∀ k,yu (G.kV k) = true
 kzf:yu G.kz = true
 vz:G.vz.length = G.nv∧G.vz.all yu = true
 TI:zGf G.P G.tSI G.tSI G.tI (G.nv + 1) = true
 ZI:zWr G.P G.tSI 3 G.tI (G.nv + 1) = true
 TK:zGf G.P G.tSK G.tSK G.tK 1 = true
 ZK:zWr G.P G.tSK 3 G.tK 1 = true
 tr:∀ {a b d},c a b < 0→c b d < 0→c a d < 0
 eq:∀ {a b},c a b = 0 ↔ a = b
 sw:∀ {a b},c a b < 0 ↔ 0 < c b a
 cmp:∀ {B:World} {Γ:List zC} (a b:κ) (vs:List Value) (q:Int→K),vs.length = G.nv→HG B Γ (q (c a b))→HG B Γ (uF G.P G.cv [(.agg (G.kV a::vs).toArray),G.kV b] (yO (fun (t:Int)=>(Value.int .i64) t) q))
 bs:∀ s k Q w,bsK G.P (G.nv + 1) s (G.kV k) G.cv Q w→G.bsC s k G.cv Q w
 search:∀ n k Q w,zUL G n k Q w→G.nsearchC n k Q w
 put:∀ n x Q w,zbD G n x Q w→G.nputC n x Q w
 insI:∃ R rot,∀ s i v Q w,zRH G.P G.tSI 3 R (G.nv + 1) rot s i v Q w→G.insIC s i v Q w
 zRH:∃ R rot,∀ s i v Q w,zRH G.P G.tSK 3 R 1 rot s i v Q w→G.insKC s i v Q w
 cloneI:∀ s Q w,zIk G.P G.tI G.tSI s Q w→G.cloneIC s Q w
 zIk:∀ s Q w,zIk G.P G.tK G.tSK s Q w→G.cloneKC s Q w
end
section
variable {κ:Type} {G:BtT κ} {c:κ→κ→Int} {B:World} {Γ Δ:List zC}
def Srt (c:κ→κ→Int) {ν:Type} (L:List (κ×ν)):Prop:=L.Pairwise fun x y=>c x.1 y.1 < 0
theorem zG5 (ok:BtOk G c) (x:G.It):∀ v ∈ G.f x,yu v = true:=fun v hv=>by
 rcases List.mem_cons.1 hv with rfl | hv
 ·exact ok.kf _
 ·exact List.all_eq_true.1 x.2.2.2 v hv
theorem zEt (ok:BtOk G c) (L:List G.It):∀ v ∈ L.flatMap G.f,yu v = true:=fun v hv=>by
 obtain ⟨x,_,hx⟩:=List.mem_flatMap.1 hv
 exact zG5 ok x v hx
theorem zFl (ok:BtOk G c) {b:Nat} {s kd:Sl} {its:List G.It} {k:κ} {Q:Int→Bool→K} [p:Own b Γ (blk b (.cells [s.val,kd.val].toArray G.tN (0,0))) Δ] {Δ2:List zC} [q:zB1 s Γ (SlC G.tI (G.nv + 1) s (its.flatMap G.f)) Δ2]
  (hs:Srt c its) (hl:its.length ≤ 1000) (hfound:∀ A v C,its = A++(k,v)::C→HG B Γ (Q A.length true)) (hnot:∀ A C,its = A++C→(∀ x ∈ A,c x.1 k < 0)→(∀ x ∈ C,c k x.1 < 0)→HG B Γ (Q A.length false)) :
  HG B Γ (G.nsearchC (some ⟨b,0,none⟩) k Q):=by
 refine fun w hw=>ok.search _ _ _ _ ?_
 refine hg hw ?_
 clear hw w
 unfold zUL
 refine uP ?_
 refine yB (b:=b) (x:=s) ?_
 refine fun w hw=>ok.bs _ _ _ _ ?_
 refine hg hw ?_
 clear hw w
 obtain ⟨A,C,hAC,hA,hC⟩:∃ A C,its = A++C∧(∀ x ∈ A,c x.1 k < 0)∧∀ x ∈ C,0 ≤ c x.1 k:=by
  clear hfound hnot q hl
  induction its with
  | nil=>exact ⟨[],[],rfl,by simp,by simp⟩
  | cons x L ih=>
   have hs':=List.pairwise_cons.1 hs
   by_cases h:c x.1 k < 0
   ·obtain ⟨A,C,h1,h2,h3⟩:=ih hs'.2
    exact ⟨x::A,C,by rw [h1]; rfl,List.forall_mem_cons.2 ⟨h,h2⟩,h3⟩
   ·refine ⟨[],x::L,rfl,by simp,fun y hy=>?_⟩
    rcases List.mem_cons.1 hy with rfl | hy
    ·omega
    ·have h1:=hs'.1 y hy
     refine Int.not_lt.1 fun h2=>h (ok.tr h1 h2)
 subst hAC
 have hlen:(A++C).length = A.length + C.length:=List.length_append
 refine zc7 (s:=s) (L:=A++C) (f:=G.f) (c:=fun x=>c x.1 k) (p:=A.length) G.qy (by omega) (fun i x hx hi=>?_) (fun i x hx hi=>?_) (by omega) (fun x hx q hq=>ok.cmp _ _ _ _ x.2.2.1 hq) ?_ (by omega)
 ·rw [List.getElem?_append_left hi] at hx
  exact hA x (List.mem_of_getElem? hx)
 ·rw [List.getElem?_append_right hi] at hx
  exact hC x (List.mem_of_getElem? hx)
 ·have e:(A++C)[A.length]? = C.head?:=by rw [List.getElem?_append_right (Nat.le_refl _),Nat.sub_self,List.head?_eq_getElem?]
  rw [e]
  cases C with
  | nil=>simpa using hnot A [] rfl hA (by simp)
  | cons x C=>
   have hs2:=(List.pairwise_append.1 hs).2.1
   by_cases h0:c x.1 k = 0
   ·have:=ok.eq.1 h0
    obtain ⟨xk,v⟩:=x
    simp only at this; subst this
    simpa [h0] using hfound A v C rfl
   ·have h1:0 < c x.1 k:=by have:=hC x List.mem_cons_self; omega
    have:=hnot A (x::C) rfl hA (fun y hy=>by
     rcases List.mem_cons.1 hy with rfl | hy
     ·exact ok.sw.2 h1
     ·exact ok.tr (ok.sw.2 h1) ((List.pairwise_cons.1 hs2).1 y hy))
    simpa [h0] using this
end
end Bt
end
section
open Go Go.RowKit
namespace Bt
section
variable {κ:Type} {G:BtT κ} {c:κ→κ→Int} {B:World} {Γ Δ:List zC}
theorem zDc {α:Type} {f:α→List Value} {esz:Nat} (hf:∀ x,(f x).length = esz):∀ (L:List α) (i:Nat),(L.flatMap f).drop (i * esz) = (L.drop i).flatMap f
 | L,0=>by simp
 | [],i + 1=>by simp
 | x::L,i + 1=>by
  rw [List.flatMap_cons,List.drop_succ_cons,← zDc hf L i,Nat.add_mul,Nat.one_mul,Nat.add_comm,← List.drop_drop,← hf x,List.drop_left]
theorem zDd {α:Type} {f:α→List Value} {esz:Nat} (hf:∀ x,(f x).length = esz):∀ (L:List α) (i:Nat),(L.flatMap f).take (i * esz) = (L.take i).flatMap f
 | L,0=>by simp
 | [],i + 1=>by simp
 | x::L,i + 1=>by
  rw [List.flatMap_cons,List.take_succ_cons,List.flatMap_cons,← zDd hf L i,Nat.add_mul,Nat.one_mul,Nat.add_comm,← hf x,List.take_length_add_append]
theorem zPw {α:Type} {f:α→List Value} {esz E:Nat} {s:Sl} {L:List α} {i:Nat} {x:α} {k:Array Value→K} (hf:∀ x,(f x).length = esz) (hx:L[i]? = some x) (h:HG B Γ (k (f x).toArray)) [o:zB1 s Γ (SlC E esz s (L.flatMap f)) Δ]:HG B Γ (LdN (elA s i esz) esz k):=by
 rw [← add0 (elA s i esz)]
 exact zFB (s:=s) (by simpa using zDJ hf hx) (hf x) h
abbrev qG (G:BtT κ) (b:Nat) (s kd:Sl):zC:=blk b (.cells [s.val,kd.val].toArray G.tN (0,0))
abbrev vQ (G:BtT κ) (s:Sl) (its:List G.It):zC:=SlC G.tI (G.nv + 1) s (its.flatMap G.f)
abbrev vR (G:BtT κ) (s:Sl) (kp:List (Option Addr)):zC:=SlC G.tK 1 s (kp.map Value.pointer)
abbrev zBD (G:BtT κ) (b:Nat) (v:Cel G.nv):zC:=blk b (.cells v.1.toArray G.tV (0,0))
theorem zEf {o:Nat} {v:Cel G.nv} {k:Array Value→K} (h:HG B Γ (k v.1.toArray)) [p:Own o Γ (zBD G o v) Δ]:HG B Γ (LdN ⟨o,0,none⟩ G.nv fun t=>StN ⟨o,0,none⟩ G.nv t <| LdN ⟨o,0,none⟩ G.nv k):=by
 have e:(v.1.drop 0).take G.nv = v.1:=by rw [List.drop_zero,List.take_of_length_le (Nat.le_of_eq v.2.1)]
 refine fun w hw=>?_
 refine hg (hw.perm p.perm) ?_
 refine qI (b:=o) ?_ e v.2.1
 refine qA (b:=o) ?_ v.2.1 v.2.1 v.2.2
 refine qI (b:=o) ?_ e v.2.1
 exact fun w hw=>h w (hw.perm p.perm.symm)
theorem zHr (kp:List (Option Addr)):∀ v ∈ kp.map Value.pointer,yu v = true:=fun v hv=>by obtain ⟨a,_,rfl⟩:=List.mem_map.1 hv; rfl
theorem zPx (kp:List (Option Addr)):(kp.map Value.pointer).length = kp.length * 1:=by simp
theorem zbF (ok:BtOk G c) {o b:Nat} {old:Cel G.nv} {had:Bool} {s kd:Sl} {its:List G.It} {kp:List (Option Addr)} {Q:Array Value→Bool→Option Addr→Option Addr→K} (hs:its.length ≤ 6) (hk:kp = []∨kp.length = its.length + 1)
  (h1:its.length ≤ 5→HG B (qG G b s kd::vQ G s its::vR G kd kp::Γ) (Q old.1.toArray had none none))
  (h2:∀ x,its.length = 6→its = its.take 2++x::its.drop 3→∀ s1 c1 r s2 c2 mb,HG B (blk mb (.cells (G.f x).toArray G.tI (0,0))::qG G b s1 c1::vQ G s1 (its.take 2)::vR G c1 (kp.take 3)::qG G r s2 c2::vQ G s2 (its.drop 3)::vR G c2 (kp.drop 3)::Γ) (Q old.1.toArray had (some ⟨mb,0,none⟩) (some ⟨r,0,none⟩))) :
  HG B (zBD G o old::qG G b s kd::vQ G s its::vR G kd kp::Γ) (zJU G Q (some ⟨b,0,none⟩) ⟨o,0,none⟩ had):=by
 refine yS s fun l1 l2 l3 l4=>?_
 refine yS kd fun m1 m2 m3 m4=>?_
 rw [zX G.f _ G.qy] at l1
 have hn:s.n = its.length:=(Nat.eq_of_mul_eq_mul_right (by omega) l1).symm
 have hkn:kd.n = kp.length:=by rw [zPx] at m1; omega
 unfold zJU
 refine uP ?_
 refine yB (b:=b) (x:=s) ?_
 refine zF (fun hb=>?_) fun hb=>?_
 ·refine zEf ?_
  exact zB (h1 (by simp only [decide_eq_true_eq] at hb; omega))
 have h6:its.length = 6:=by simp only [decide_eq_false_iff_not] at hb; omega
 obtain ⟨x,hx⟩:∃ x,its[2]? = some x:=⟨_,List.getElem?_eq_getElem (by omega)⟩
 have hsplit:its = its.take 2++x::its.drop 3:=by
  have:=List.drop_eq_getElem_cons (l:=its) (i:=2) (by omega)
  rw [List.getElem?_eq_getElem (by omega),Option.some.injEq] at hx
  rw [hx] at this
  rw [← this,List.take_append_drop]
 refine yB (b:=b) (x:=s) ?_
 refine vg (s:=s) (i:=2) ?_
 refine zPw (s:=s) G.qy hx ?_
 refine zH fun mb=>?_
 refine qA (b:=mb) ?_ (by simp [ok.vz.1]) (G.qy x) (List.all_eq_true.2 (zG5 ok x))
 refine yB (b:=b) (x:=s) ?_
 refine zAX (lo:=3) (hi:=s.n) (mx:=s.c) ?_
 refine fun w hw=>ok.cloneI _ _ _ ?_
 refine hg hw ?_
 clear hw w
 have hfl:=zEt ok its
 refine zRJ (s:=⟨zCE s.a 3 s.c (G.nv + 1),s.n - 3,s.c - 3⟩) (us:=(its.drop 3).flatMap G.f) (esz:=G.nv + 1) (fun w hw=>?_) (zEt ok _) (by simp only; omega) (fun s2 hs2=>?_) ok.TI
 ·rw [← zDc G.qy]
  exact (yP (s:=s) hw).1.drop (by omega) l2 l3
 refine zH fun r=>?_
 refine yB (b:=b) (x:=s) ?_
 refine zAX (lo:=0) (hi:=2) (mx:=2) ?_
 rw [zKA l3]
 refine zCB (b:=b) ?_
 refine zCs (s:=s) (m:=2) (c':=2) (by omega) (by omega) (by omega) ?_
 rw [zDd G.qy]
 refine yB (b:=b) (x:=kd) ?_
 refine zF (fun hb2=>?_) fun hb2=>?_
 ·have hk7:kp.length = 7:=by
   simp only [decide_eq_true_eq] at hb2
   rcases hk with rfl | hk
   ·simp only [List.length_nil] at hkn; omega
   ·omega
  refine yB (b:=b) (x:=kd) ?_
  refine zAX (lo:=3) (hi:=kd.n) (mx:=kd.c) ?_
  refine fun w hw=>ok.zIk _ _ _ ?_
  refine hg hw ?_
  clear hw w
  refine zRJ (s:=⟨zCE kd.a 3 kd.c 1,kd.n - 3,kd.c - 3⟩) (us:=(kp.drop 3).map Value.pointer) (esz:=1) (fun w hw=>?_) (zHr _) (by simp only; omega) (fun c2 hc2=>?_) ok.TK
  ·have:=(yP (s:=kd) hw).1.drop (l:=3) (c:=kd.c) (by omega) m2 m3
   simpa using this
  refine zCB (b:=r) ?_
  refine yB (b:=b) (x:=kd) ?_
  refine zAX (lo:=0) (hi:=3) (mx:=3) ?_
  rw [zKA m3]
  refine zCB (b:=b) ?_
  refine zCs (s:=kd) (m:=3) (c':=3) (by omega) (by omega) (by omega) ?_
  rw [show (kp.map Value.pointer).take (3 * 1) = (kp.take 3).map Value.pointer by simp]
  unfold zLp
  refine zEf ?_
  exact zB (h2 x h6 hsplit ⟨s.a,2,2⟩ ⟨kd.a,3,3⟩ r s2 c2 mb)
 ·have hk0:kp = []:=by
   simp only [decide_eq_false_iff_not] at hb2
   rcases hk with rfl | hk
   ·rfl
   ·omega
  have e1:kp.take 3 = kp:=by rw [hk0]; rfl
  have e2:kp.drop 3 = []:=by rw [hk0]; rfl
  simp only [e1,e2] at h2
  unfold zLp
  refine zEf ?_
  refine fun w hw=>?_
  refine hg (show Holds B (vR G ⟨none,0,0⟩ []::_) w from hw.zAm G.tK 1) ?_
  exact zB (h2 x h6 hsplit ⟨s.a,2,2⟩ kd r s2 ⟨none,0,0⟩ mb)
end
end Bt
end
section
open Go Go.RowKit
namespace Bt
section
variable {κ:Type} {G:BtT κ} {c:κ→κ→Int} {B:World} {Γ Δ:List zC}
abbrev Kid (G:BtT κ):=Nat×List G.It
def ptr (q:Kid G):Option Addr:=some ⟨q.1,0,none⟩
def psL (q0:Kid G) (ps:List (G.It×Kid G)):List G.It:=q0.2++ps.flatMap fun p=>p.1::p.2.2
def zCt (l:List (Kid G×G.It)):List G.It:=l.flatMap fun p=>p.1.2++[p.2]
def zBg (r:List (G.It×Kid G)):List G.It:=r.flatMap fun p=>p.1::p.2.2
theorem zcI:∀ (i:Nat) (q0:Kid G) (ps:List (G.It×Kid G)),i ≤ ps.length→∃ l q r,l.length = i∧ps.map Prod.fst = l.map Prod.snd++r.map Prod.fst∧q0::ps.map Prod.snd = l.map Prod.fst++q::r.map Prod.snd∧psL q0 ps = zCt l++q.2++zBg r
 | 0,q0,ps,_=>⟨[],q0,ps,rfl,rfl,rfl,by simp [psL,zCt,zBg]⟩
 | i + 1,q0,[],h=>by simp at h
 | i + 1,q0,(x,q1)::ps,h=>by
  obtain ⟨l,q,r,h1,h2,h3,h4⟩:=zcI i q1 ps (by simpa using h)
  refine ⟨(q0,x)::l,q,r,by simp [h1],by simp [h2],by simp only [List.map_cons,List.cons_append,← h3],?_⟩
  have:psL q0 ((x,q1)::ps) = q0.2++x::psL q1 ps:=by simp [psL]
  rw [this,h4]
  simp [zCt]
theorem zOJ:∀ (l:List (Kid G×G.It)) (q:Kid G) (r:List (G.It×Kid G)),∃ q0 ps,ps.length = l.length + r.length∧ps.map Prod.fst = l.map Prod.snd++r.map Prod.fst∧q0::ps.map Prod.snd = l.map Prod.fst++q::r.map Prod.snd∧psL q0 ps = zCt l++q.2++zBg r
 | [],q,r=>⟨q,r,by simp,rfl,rfl,by simp [psL,zCt,zBg]⟩
 | (p,x)::l,q,r=>by
  obtain ⟨q0,ps,h1,h2,h3,h4⟩:=zOJ l q r
  refine ⟨p,(x,q0)::ps,by simp [h1]; omega,by simp [h2],by simp only [List.map_cons,List.cons_append,← h3],?_⟩
  have:psL p ((x,q0)::ps) = p.2++x::psL q0 ps:=by simp [psL]
  rw [this,h4]
  simp [zCt]
theorem Srt.sub {ν:Type} {L M:List (κ×ν)} (h:Srt c L) (hs:M.Sublist L):Srt c M:=List.Pairwise.sublist hs h
theorem zPy (ok:BtOk G c) {k:κ}:∀ (l:List (Kid G×G.It)),Srt c (zCt l)→(∀ x ∈ l.map Prod.snd,c x.1 k < 0)→∀ y ∈ zCt l,c y.1 k < 0
 | [],_,_,y,hy=>by simp [zCt] at hy
 | (p,x)::l,hs,h,y,hy=>by
  have e:zCt ((p,x)::l) = (p.2++[x])++zCt l:=rfl
  rw [e] at hs hy
  have hx:c x.1 k < 0:=h x (by simp)
  rcases List.mem_append.1 hy with hy | hy
  ·rcases List.mem_append.1 hy with hy | hy
   ·have h1:=(List.pairwise_append.1 (List.pairwise_append.1 hs).1).2.2 y hy x (by simp)
    exact ok.tr h1 hx
   ·rw [List.mem_singleton.1 hy]; exact hx
  ·exact zPy ok l (List.pairwise_append.1 hs).2.1 (fun z hz=>h z (by simp at hz ⊢; exact .inr hz)) y hy
theorem zLr (ok:BtOk G c) {k:κ}:∀ (r:List (G.It×Kid G)),Srt c (zBg r)→(∀ x ∈ r.map Prod.fst,c k x.1 < 0)→∀ y ∈ zBg r,c k y.1 < 0
 | [],_,_,y,hy=>by simp [zBg] at hy
 | (x,q)::r,hs,h,y,hy=>by
  have e:zBg ((x,q)::r) = (x::q.2)++zBg r:=rfl
  rw [e] at hs hy
  have hx:c k x.1 < 0:=h x (by simp)
  rcases List.mem_append.1 hy with hy | hy
  ·rcases List.mem_cons.1 hy with rfl | hy
   ·exact hx
   ·exact ok.tr hx ((List.pairwise_cons.1 (List.pairwise_append.1 hs).1).1 y hy)
  ·exact zLr ok r (List.pairwise_append.1 hs).2.1 (fun z hz=>h z (by simp at hz ⊢; exact .inr hz)) y hy
theorem zJW (q0:Kid G):∀ (ps:List (G.It×Kid G)),(ps.map Prod.fst).Sublist (psL q0 ps)
 | []=>by simp
 | (x,q)::ps=>by
  have:psL q0 ((x,q)::ps) = q0.2++x::psL q ps:=by simp [psL]
  rw [this,List.map_cons]
  exact ((zJW q ps).cons_cons x).trans (List.sublist_append_right _ _)
def zIE (c:κ→κ→Int) {ν:Type} (z:ν) (L:List (κ×ν)) (k:κ) (v:ν) (L':List (κ×ν)) (old:ν) (had:Bool):Prop :=
 (∃ A C,L = A++(k,old)::C∧L' = A++(k,v)::C∧had = true)∨(∃ A C,L = A++C∧(∀ x ∈ A,c x.1 k < 0)∧(∀ x ∈ C,c k x.1 < 0)∧L' = A++(k,v)::C∧old = z∧had = false)
theorem zIE.mid {ν:Type} {z v old:ν} {A C L L':List (κ×ν)} {k:κ} {had:Bool} (hA:∀ x ∈ A,c x.1 k < 0) (hC:∀ x ∈ C,c k x.1 < 0) (h:zIE c z L k v L' old had):zIE c z (A++L++C) k v (A++L'++C) old had:=by
 rcases h with ⟨A',C',rfl,rfl,rfl⟩ | ⟨A',C',rfl,h1,h2,rfl,rfl,rfl⟩
 ·exact .inl ⟨A++A',C'++C,by simp,by simp,rfl⟩
 ·refine .inr ⟨A++A',C'++C,by simp,fun x hx=>?_,fun x hx=>?_,by simp,rfl,rfl⟩
  ·rcases List.mem_append.1 hx with hx | hx
   ·exact hA x hx
   ·exact h1 x hx
  ·rcases List.mem_append.1 hx with hx | hx
   ·exact h2 x hx
   ·exact hC x hx
def yL (G:BtT κ):Nat→Nat→Nat→List G.It→zC
 | 0,m,b,L=>ex fun s=>ex fun kd=>Sep.stars [pur ((m = 2→L ≠ [])∧L.length ≤ 5),qG G b s kd,vQ G s L,vR G kd []]
 | d + 1,m,b,L=>ex fun s=>ex fun kd=>ex fun q0:Kid G=>ex fun ps:List (G.It×Kid G)=>Sep.stars [pur ((1 ≤ m→ps ≠ [])∧ps.length ≤ 5∧L = psL q0 ps),qG G b s kd,vQ G s (ps.map Prod.fst),vR G kd ((q0::ps.map Prod.snd).map ptr),
   Sep.stars ((q0::ps.map Prod.snd).map fun q=>yL G d 2 q.1 q.2)]
instance (priority:=high) zcJ {d m b:Nat} {L:List G.It}:Own b (yL G d m b L::Γ) (yL G d m b L) Γ:=⟨.refl _⟩
theorem zHs {m b:Nat} {L:List G.It} {k:K} (h:∀ s kd,(m = 2→L ≠ [])→L.length ≤ 5→HG B (qG G b s kd::vQ G s L::vR G kd []::Γ) k):HG B (yL G 0 m b L::Γ) k :=
 jy (A':=ex fun s=>ex fun kd=>Sep.stars [pur ((m = 2→L ≠ [])∧L.length ≤ 5),qG G b s kd,vQ G s L,vR G kd []]) (fun _ h=>h) <| zDI fun s=>zDI fun kd=>zBr <| zGd fun ⟨h1,h2⟩=>h s kd h1 h2
theorem zFm {m b:Nat} {L:List G.It} {k:K} {s kd:Sl} (h1:m = 2→L ≠ []) (h2:L.length ≤ 5) (h:HG B (yL G 0 m b L::Γ) k):HG B (qG G b s kd::vQ G s L::vR G kd []::Γ) k :=
 zZI (p:=(m = 2→L ≠ [])∧L.length ≤ 5) ⟨h1,h2⟩ <| zEQ (Δ:=[pur ((m = 2→L ≠ [])∧L.length ≤ 5),qG G b s kd,vQ G s L,vR G kd []]) <| zSb (F:=fun kd=>Sep.stars [pur ((m = 2→L ≠ [])∧L.length ≤ 5),qG G b s kd,vQ G s L,vR G kd []]) kd<|
  zSb (F:=fun s=>ex fun kd=>Sep.stars [pur ((m = 2→L ≠ [])∧L.length ≤ 5),qG G b s kd,vQ G s L,vR G kd []]) s <| jy (fun _ h=>h) h
abbrev qY (G:BtT κ) (d:Nat) (ks:List (Kid G)):zC:=Sep.stars (ks.map fun q=>yL G d 2 q.1 q.2)
theorem zJX {d m b:Nat} {L:List G.It} {k:K} (h:∀ s kd q0 ps,(1 ≤ m→ps ≠ [])→ps.length ≤ 5→L = psL q0 ps→HG B (qG G b s kd::vQ G s (ps.map Prod.fst)::vR G kd ((q0::ps.map Prod.snd).map ptr)::qY G d (q0::ps.map Prod.snd)::Γ) k):HG B (yL G (d + 1) m b L::Γ) k :=
 jy (A':=ex fun s=>ex fun kd=>ex fun q0:Kid G=>ex fun ps:List (G.It×Kid G)=>Sep.stars [pur ((1 ≤ m→ps ≠ [])∧ps.length ≤ 5∧L = psL q0 ps),qG G b s kd,vQ G s (ps.map Prod.fst),vR G kd ((q0::ps.map Prod.snd).map ptr),qY G d (q0::ps.map Prod.snd)]) (fun _ h=>h)<|
  zDI fun s=>zDI fun kd=>zDI fun q0=>zDI fun ps=>zBr <| zGd fun ⟨h1,h2,h3⟩=>h s kd q0 ps h1 h2 h3
theorem zG6 {d m b:Nat} {q0:Kid G} {ps:List (G.It×Kid G)} {k:K} {s kd:Sl} (h1:1 ≤ m→ps ≠ []) (h2:ps.length ≤ 5) (h:HG B (yL G (d + 1) m b (psL q0 ps)::Γ) k) :
  HG B (qG G b s kd::vQ G s (ps.map Prod.fst)::vR G kd ((q0::ps.map Prod.snd).map ptr)::qY G d (q0::ps.map Prod.snd)::Γ) k:=fun w hw=>by
 refine h w ?_
 have h3:Holds B (Sep.stars [pur ((1 ≤ m→ps ≠ [])∧ps.length ≤ 5∧psL q0 ps = psL q0 ps),qG G b s kd,vQ G s (ps.map Prod.fst),vR G kd ((q0::ps.map Prod.snd).map ptr),qY G d (q0::ps.map Prod.snd)]::Γ) w:=Holds.flat.2 (Holds.pur.2 ⟨⟨h1,h2,rfl⟩,hw⟩)
 exact h3.imp fun g hg=>⟨s,kd,q0,ps,hg⟩
theorem zRK {d:Nat} {A C:List (Kid G)} {q:Kid G}:(((A++q::C).map fun q=>yL G d 2 q.1 q.2)++Γ).Perm (((A++C).map fun q=>yL G d 2 q.1 q.2)++yL G d 2 q.1 q.2::Γ):=by
 have h2:((A++q::C).map fun q=>yL G d 2 q.1 q.2).Perm (yL G d 2 q.1 q.2::(A++C).map fun q=>yL G d 2 q.1 q.2):=(List.perm_middle (a:=q) (l₁:=A) (l₂:=C)).map _
 refine (h2.append_right Γ).trans ?_
 exact (List.perm_middle (a:=yL G d 2 q.1 q.2) (l₁:=(A++C).map fun q=>yL G d 2 q.1 q.2) (l₂:=Γ)).symm
theorem zIY {d:Nat} {A C:List (Kid G)} {q:Kid G} {k:K} (h:HG B (yL G d 2 q.1 q.2::qY G d (A++C)::Γ) k):HG B (qY G d (A++q::C)::Γ) k:=fun w hw=>
 h w (Holds.flat.2 ((Holds.flat.1 hw).perm zRK)).swap
theorem zDe {d:Nat} {A C:List (Kid G)} {q:Kid G} {k:K} (h:HG B (qY G d (A++q::C)::Γ) k):HG B (yL G d 2 q.1 q.2::qY G d (A++C)::Γ) k:=fun w hw=>
 h w (Holds.flat.2 ((Holds.flat.1 hw.swap).perm zRK.symm))
end
end Bt
end
section
open Go Go.RowKit
namespace Bt
section
variable {κ:Type} {G:BtT κ} {c:κ→κ→Int} {B:World} {Γ Δ:List zC}
theorem zMW {α:Type} {A C:List α} {x:α}:(A++x::C)[A.length]? = some x:=by simp
theorem zUN {A C:List G.It} {k:κ} {v0 v:Cel G.nv}:zDb ((A++(k,v0)::C).flatMap G.f) (A.length * (G.nv + 1) + 1) v.1 = (A++(k,v)::C).flatMap G.f:=by
 have e1:(A++(k,v0)::C).flatMap G.f = (A.flatMap G.f++[G.kV k])++(v0.1++C.flatMap G.f):=by simp [BtT.f]
 have e2:(A++(k,v)::C).flatMap G.f = (A.flatMap G.f++[G.kV k])++(v.1++C.flatMap G.f):=by simp [BtT.f]
 rw [e1,e2,zD7 (by simp [zX G.f _ G.qy]) (by rw [v0.2.1,v.2.1])]
theorem zFn {A C:List G.It} {k:κ} {v0:Cel G.nv}:(((A++(k,v0)::C).flatMap G.f).drop (A.length * (G.nv + 1) + 1)).take G.nv = v0.1:=by
 have e1:(A++(k,v0)::C).flatMap G.f = (A.flatMap G.f++[G.kV k])++(v0.1++C.flatMap G.f):=by simp [BtT.f]
 rw [e1,show A.length * (G.nv + 1) + 1 = (A.flatMap G.f++[G.kV k]).length by simp [zX G.f _ G.qy],List.drop_left,List.take_left' v0.2.1]
theorem zOK {A C:List G.It} {x:G.It}:((A++C).flatMap G.f).take (A.length * (G.nv + 1))++G.f x++((A++C).flatMap G.f).drop (A.length * (G.nv + 1)) = (A++x::C).flatMap G.f:=by
 rw [zDd G.qy,zDc G.qy,List.take_left,List.drop_left]
 simp
theorem zWv {A C:List (Option Addr)} {x:Option Addr}:((A++C).map Value.pointer).take (A.length * 1)++[Value.pointer x]++((A++C).map Value.pointer).drop (A.length * 1) = (A++x::C).map Value.pointer:=by
 rw [Nat.mul_one,← List.map_take,← List.map_drop,List.take_left,List.drop_left]
 simp
theorem zJY {d:Nat} {A C:List (Kid G)} {k:K} (h:HG B (qY G d A::qY G d C::Γ) k):HG B (qY G d (A++C)::Γ) k:=fun w hw=>by
 have h1:=Holds.flat.1 hw
 rw [List.map_append,List.append_assoc] at h1
 have h2:Holds B ((C.map fun q=>yL G d 2 q.1 q.2)++qY G d A::Γ) w:=(Holds.flat.2 h1).perm List.perm_middle.symm
 exact h w (Holds.flat.2 h2).swap
theorem zMX {q0:Kid G} {ps:List (G.It×Kid G)} {A C:List G.It} (e:ps.map Prod.fst = A++C):∃ l q r,A = l.map Prod.snd∧C = r.map Prod.fst∧q0::ps.map Prod.snd = l.map Prod.fst++q::r.map Prod.snd∧psL q0 ps = zCt l++q.2++zBg r∧ps.length = l.length + r.length:=by
 have hl:=congrArg List.length e
 simp only [List.length_map,List.length_append] at hl
 obtain ⟨l,q,r,h1,h2,h3,h4⟩:=zcI A.length q0 ps (by omega)
 rw [e] at h2
 obtain ⟨h5,h6⟩:=List.append_inj h2 (by simp [h1])
 refine ⟨l,q,r,h5,h6,h3,h4,?_⟩
 rw [hl,h6,h1,List.length_map]
theorem zOL (ok:BtOk G c):∀ (d:Nat) {m b:Nat} {M:List G.It} {k:κ} {v:Cel G.nv} {Γ:List zC} {Q:Array Value→Bool→Option Addr→Option Addr→K},1 ≤ m→Srt c M →
  (∀ M' old had,zIE c (G.z0 ok.vz) M k v M' old had→HG B (yL G d 2 b M'::Γ) (Q old.1.toArray had none none)) →
  (∀ M1 x M2 old had r mb,zIE c (G.z0 ok.vz) M k v (M1++x::M2) old had→HG B (blk mb (.cells (G.f x).toArray G.tI (0,0))::yL G d 2 b M1::yL G d 2 r M2::Γ) (Q old.1.toArray had (some ⟨mb,0,none⟩) (some ⟨r,0,none⟩))) →
  HG B (yL G d m b M::Γ) (G.nputC (some ⟨b,0,none⟩) (G.f (k,v)).toArray Q):=by
 intro d
 induction d with
 | zero=>
  intro m b M k v Γ Q hm hs h1 h2
  refine fun w hw=>ok.put _ _ _ _ ?_
  refine hg hw ?_
  clear hw w
  refine zHs fun s kd _ hl=>?_
  refine yS kd fun m1 m2 m3 m4=>?_
  unfold zbD
  refine zH fun x3=>?_
  refine zH fun o=>?_
  refine yB (b:=x3) (x:=k) ?_
  refine zFl ok (s:=s) (kd:=kd) hs (by omega) (fun A v0 C e=>?_) fun A C e hA hC=>?_
  ·subst e
   refine s_t ?_
   refine uP ?_
   refine yS s fun l1 l2 l3 l4=>?_
   rw [zX G.f _ G.qy] at l1
   have hn:s.n = (A++(k,v0)::C).length:=(Nat.eq_of_mul_eq_mul_right (by omega) l1).symm
   have hlen:(A++(k,v0)::C).length = A.length + (C.length + 1):=List.length_append
   refine yB (b:=b) (x:=s) ?_
   refine vg (s:=s) (i:=A.length) ?_
   refine zFB (s:=s) (l':=v0.1) zFn v0.2.1 ?_
   refine qA (b:=o) ?_ ok.vz.1 v0.2.1 v0.2.2
   refine vo ?_
   refine yB (b:=b) (x:=s) ?_
   refine qI (b:=x3) (off:=0 + 1) (l:=G.f (k,v)) (l':=v.1) ?_ (List.take_of_length_le (Nat.le_of_eq v.2.1)) v.2.1
   refine vg (s:=s) (i:=A.length) ?_
   refine zPs (s:=s) ?_ v.2.1 ?_ v.2.2
   rotate_left
   ·rw [zX G.f _ G.qy,hlen,Nat.add_mul,Nat.add_mul]; omega
   rw [zUN]
   refine zEf (v:=v0) ?_
   refine zB (Δ:=qG G b s kd::vQ G s (A++(k,v)::C)::vR G kd []::Γ) ?_
   refine zFm (m:=2) (by simp) (by simpa using hl) (h1 _ _ _ (.inl ⟨A,C,rfl,rfl,rfl⟩))
  ·subst e
   refine s_f ?_
   refine uP ?_
   refine yB (b:=b) (x:=kd) ?_
   refine s_t ?_ (by simpa using m1.symm)
   refine vo ?_
   refine zNe ?_
   refine jC (b:=b) (x:=s) ?_
   refine zBM (b:=x3) (l':=G.f (k,v)) ?_ (List.take_of_length_le (by simp [G.qy])) (G.qy _)
   refine zBf ?_ (by simp [ok.vz.1]) (G.qy _)
   refine zH fun t=>?_
   refine zBC ?_
   obtain ⟨R,rot,hins⟩:=ok.insI
   refine yS s fun l1 l2 l3 l4=>?_
   rw [zX G.f _ G.qy] at l1
   have hn:s.n = (A++C).length:=(Nat.eq_of_mul_eq_mul_right (by omega) l1).symm
   have hlen:(A++C).length = A.length + C.length:=List.length_append
   refine fun w hw=>hins _ _ _ _ _ ?_
   refine hg hw ?_
   clear hw w
   refine zRI (s:=s) (i:=A.length) (t:=t) (by omega) (by omega) (G.qy _) (by omega) (zEt ok _) (zG5 ok _) (fun s' hs'=>?_) ok.TI ok.ZI
   rw [zOK]
   refine zCB (b:=b) ?_
   refine zB (Δ:=zBD G o (G.z0 ok.vz)::qG G b s' kd::vQ G s' (A++(k,v)::C)::vR G kd []::Γ) ?_
   have hput:zIE c (G.z0 ok.vz) (A++C) k v (A++(k,v)::C) (G.z0 ok.vz) false:=.inr ⟨A,C,rfl,hA,hC,rfl,rfl,rfl⟩
   refine zbF ok (by simp; omega) (.inl rfl) (fun h5=>?_) fun x h6 hx s1 c1 r s2 c2 mb=>?_
   ·refine zFm (m:=2) (by simp) h5 (h1 _ _ _ hput)
   ·have h7:=h2 ((A++(k,v)::C).take 2) x ((A++(k,v)::C).drop 3) _ _ r mb (by rw [← hx]; exact hput)
    simp only [List.take_nil,List.drop_nil]
    refine zB (Δ:=qG G b s1 c1::vQ G s1 ((A++(k,v)::C).take 2)::vR G c1 []::qG G r s2 c2::vQ G s2 ((A++(k,v)::C).drop 3)::vR G c2 []::blk mb (.cells (G.f x).toArray G.tI (0,0))::Γ) ?_
    refine zFm (m:=2) (fun _ h=>?_) (by rw [List.length_take]; omega) ?_
    ·have:=congrArg List.length h; simp only [List.length_take,List.length_nil] at this; omega
    refine zB (Δ:=qG G r s2 c2::vQ G s2 ((A++(k,v)::C).drop 3)::vR G c2 []::blk mb (.cells (G.f x).toArray G.tI (0,0))::yL G 0 2 b ((A++(k,v)::C).take 2)::Γ) ?_
    refine zFm (m:=2) (fun _ h=>?_) (by rw [List.length_drop]; omega) ?_
    ·have:=congrArg List.length h; simp only [List.length_drop,List.length_nil] at this; omega
    exact zB h7
 | succ d ih=>
  intro m b M k v Γ Q hm hs h1 h2
  refine fun w hw=>ok.put _ _ _ _ ?_
  refine hg hw ?_
  clear hw w
  refine zJX fun s kd q0 ps hne hl hM=>?_
  subst hM
  unfold zbD
  refine zH fun x3=>?_
  refine zH fun o=>?_
  refine yB (b:=x3) (x:=k) ?_
  refine zFl ok (s:=s) (kd:=kd) (hs.sub (zJW q0 ps)) (by simp; omega) (fun A v0 C e=>?_) fun A C e hA hC=>?_
  ·obtain ⟨l,q,r,hA,hC,hK,hL,hlen⟩:=zMX (q0:=q0) e
   rw [e,hK]
   rw [hL] at hs h1 h2
   obtain ⟨⟨xx,q1⟩,r,rfl,hxx,hC'⟩:=List.map_eq_cons_iff.1 hC.symm
   simp only at hxx
   subst hxx
   subst hA
   subst hC'
   refine s_t ?_
   refine uP ?_
   refine yS s fun l1 l2 l3 l4=>?_
   rw [zX G.f _ G.qy] at l1
   have hil:(l.map Prod.snd++(k,v0)::r.map Prod.fst).length = (l.map Prod.snd).length + (r.length + 1):=by simp
   have hn:s.n = (l.map Prod.snd).length + (r.length + 1):=by rw [← hil]; exact (Nat.eq_of_mul_eq_mul_right (by omega) l1).symm
   refine yB (b:=b) (x:=s) ?_
   refine vg (s:=s) (i:=(l.map Prod.snd).length) ?_
   refine zFB (s:=s) (l':=v0.1) zFn v0.2.1 ?_
   refine qA (b:=o) ?_ ok.vz.1 v0.2.1 v0.2.2
   refine vo ?_
   refine yB (b:=b) (x:=s) ?_
   refine qI (b:=x3) (off:=0 + 1) (l:=G.f (k,v)) (l':=v.1) ?_ (List.take_of_length_le (Nat.le_of_eq v.2.1)) v.2.1
   refine vg (s:=s) (i:=(l.map Prod.snd).length) ?_
   refine zPs (s:=s) ?_ v.2.1 ?_ v.2.2
   rotate_left
   ·rw [zX G.f _ G.qy,hil,Nat.add_mul,Nat.add_mul]; omega
   rw [zUN]
   refine zEf (v:=v0) ?_
   obtain ⟨q0',ps',e1,e2,e3,e4⟩:=zOJ l q (((k,v),q1)::r)
   have e5:l.map Prod.fst++q::(((k,v0),q1)::r).map Prod.snd = q0'::ps'.map Prod.snd:=e3.symm
   have e6:l.map Prod.snd++(k,v)::r.map Prod.fst = ps'.map Prod.fst:=e2.symm
   rw [e5,e6]
   refine zB (Δ:=qG G b s kd::vQ G s (ps'.map Prod.fst)::vR G kd ((q0'::ps'.map Prod.snd).map ptr)::qY G d (q0'::ps'.map Prod.snd)::Γ) ?_
   simp only [List.length_cons] at hlen e1
   refine zG6 (m:=2) (fun _ h=>?_) (by omega) ?_
   ·rw [h,List.length_nil] at e1; omega
   refine h1 _ _ _ (.inl ⟨zCt l++q.2,q1.2++zBg r,?_,?_,rfl⟩)
   ·simp [zBg]
   ·rw [e4]; simp [zBg]
  ·obtain ⟨l,q,r,rfl,rfl,hK,hL,hlen⟩:=zMX (q0:=q0) e
   rw [e,hK]
   rw [hL] at hs h1 h2
   refine s_f ?_
   refine uP ?_
   have hkl:((l.map Prod.fst++q::r.map Prod.snd).map ptr).length = l.length + r.length + 1:=by simp; omega
   refine yS kd fun m1 m2 m3 m4=>?_
   rw [zPx,hkl] at m1
   refine yS s fun l1 l2 l3 l4=>?_
   rw [zX G.f _ G.qy] at l1
   have hil:(l.map Prod.snd++r.map Prod.fst).length = l.length + r.length:=by simp
   have hn:s.n = l.length + r.length:=by rw [← hil]; exact (Nat.eq_of_mul_eq_mul_right (by omega) l1).symm
   refine yB (b:=b) (x:=kd) ?_
   refine s_f ?_ (by simp; omega)
   refine vo ?_
   refine yB (b:=b) (x:=kd) ?_
   refine vg (s:=kd) (i:=l.length) ?_ (by simp)
   refine zCi (s:=kd) (x:=ptr q) (by simp) ?_
   refine qI (b:=x3) (l':=G.f (k,v)) ?_ (List.take_of_length_le (by simp [G.qy])) (G.qy _)
   refine ze (qY G d (l.map Prod.fst++q::r.map Prod.snd)) ?_
   refine zIY ?_
   have hs1:=List.pairwise_append.1 hs
   have hs2:=List.pairwise_append.1 hs1.1
   have hpre:=zPy ok l hs2.1 hA
   have hpost:=zLr ok r hs1.2.1 hC
   refine ih (m:=2) (by omega) hs2.2.1 (fun M' old had hp=>?_) fun M1 x M2 old had rb mb hp=>?_
   ·refine qA (b:=o) ?_ ok.vz.1 old.2.1 old.2.2
    refine s_f ?_
    refine zB (Δ:=zBD G o old::qG G b s kd::vQ G s (l.map Prod.snd++r.map Prod.fst)::vR G kd ((l.map Prod.fst++q::r.map Prod.snd).map ptr)::yL G d 2 q.1 M'::qY G d (l.map Prod.fst++r.map Prod.snd)::Γ) ?_
    refine zbF ok (by omega) (.inr (by omega)) (fun h5=>?_) fun x h6 hx s1 c1 r s2 c2 mb=>(by omega)
    obtain ⟨q0',ps',e1,e2,e3,e4⟩:=zOJ l (q.1,M') r
    refine zB (Δ:=yL G d 2 q.1 M'::qY G d (l.map Prod.fst++r.map Prod.snd)::qG G b s kd::vQ G s (l.map Prod.snd++r.map Prod.fst)::vR G kd ((l.map Prod.fst++q::r.map Prod.snd).map ptr)::Γ) ?_
    refine zDe (q:=(q.1,M')) ?_
    have e5:(l.map Prod.fst++q::r.map Prod.snd).map ptr = (l.map Prod.fst++(q.1,M')::r.map Prod.snd).map ptr:=by simp [ptr]
    rw [e5,← e2,← e3]
    refine zB (Δ:=qG G b s kd::vQ G s (ps'.map Prod.fst)::vR G kd ((q0'::ps'.map Prod.snd).map ptr)::qY G d (q0'::ps'.map Prod.snd)::Γ) ?_
    refine zG6 (m:=2) (fun _ h=>?_) (by omega) ?_
    ·rw [h] at e1; rw [List.length_nil] at e1
     exact hne hm (List.length_eq_zero_iff.1 (by omega))
    rw [e4]
    exact h1 _ _ _ (hp.mid hpre hpost)
   ·refine qA (b:=o) ?_ ok.vz.1 old.2.1 old.2.2
    refine s_t ?_
    refine vo ?_
    refine zNe ?_
    refine uP ?_
    refine jC (b:=b) (x:=s) ?_
    refine zBM (b:=mb) (l':=G.f x) ?_ (List.take_of_length_le (by simp [G.qy])) (G.qy _)
    refine zBf ?_ (by simp [ok.vz.1]) (G.qy _)
    refine zH fun t=>?_
    refine zBC ?_
    obtain ⟨R,rot,hins⟩:=ok.insI
    refine fun w hw=>hins _ _ _ _ _ ?_
    refine hg hw ?_
    clear hw w
    refine zRI (s:=s) (i:=(l.map Prod.snd).length) (t:=t) (by simp; omega) (by omega) (G.qy _) (by omega) (zEt ok _) (zG5 ok _) (fun s' hs'=>?_) ok.TI ok.ZI
    rw [zOK]
    refine zCB (b:=b) ?_
    refine yB (b:=b) (x:=kd) ?_
    refine qB ?_ (by simp; omega) (by simp; omega)
    refine zH fun t2=>?_
    have hkp:(l.map Prod.fst++q::r.map Prod.snd).map ptr = (l.map Prod.fst++[q]).map ptr++(r.map Prod.snd).map ptr:=by simp
    rw [hkp]
    have hkA:((l.map Prod.fst++[q]).map ptr).length = l.length + 1:=by simp
    obtain ⟨R2,rot2,hins2⟩:=ok.zRH
    refine fun w hw=>hins2 _ _ _ _ _ ?_
    refine hg hw ?_
    clear hw w
    rw [show (((l.map Prod.snd).length:Nat):Int) + 1 = (((l.map Prod.fst++[q]).map ptr).length:Nat) by rw [hkA]; simp]
    refine zRI (s:=kd) (i:=((l.map Prod.fst++[q]).map ptr).length) (t:=t2) (us:=[Value.pointer (some ⟨rb,0,none⟩)]) (by omega) (by omega) rfl (by omega) (zHr _) (by simp [yu]) (fun kd' hkd'=>?_) ok.TK ok.ZK
    rw [zWv]
    refine zCB (b:=b) ?_
    obtain ⟨q0',ps',e1,e2,e3,e4⟩:=zOJ l (q.1,M1) ((x,(rb,M2))::r)
    simp only [List.length_cons] at e1
    have e5:(l.map Prod.fst++[q]).map ptr++some ⟨rb,0,none⟩::(r.map Prod.snd).map ptr = (q0'::ps'.map Prod.snd).map ptr:=by rw [e3]; simp [ptr]
    have e6:l.map Prod.snd++x::r.map Prod.fst = ps'.map Prod.fst:=e2.symm
    rw [e5,e6]
    refine zB (Δ:=yL G d 2 rb M2::qY G d (l.map Prod.fst++r.map Prod.snd)::yL G d 2 q.1 M1::zBD G o old::qG G b s' kd'::vQ G s' (ps'.map Prod.fst)::vR G kd' ((q0'::ps'.map Prod.snd).map ptr)::Γ) ?_
    refine zDe (q:=(rb,M2)) ?_
    refine zDZ ?_
    refine zDe (q:=(q.1,M1)) ?_
    rw [show l.map Prod.fst++(q.1,M1)::(rb,M2)::r.map Prod.snd = q0'::ps'.map Prod.snd from e3.symm]
    have hput:zIE c (G.z0 ok.vz) (zCt l++q.2++zBg r) k v (psL q0' ps') old had:=by
     rw [e4]
     have:=hp.mid hpre hpost
     simpa [zBg] using this
    refine zB (Δ:=zBD G o old::qG G b s' kd'::vQ G s' (ps'.map Prod.fst)::vR G kd' ((q0'::ps'.map Prod.snd).map ptr)::qY G d (q0'::ps'.map Prod.snd)::Γ) ?_
    refine zbF ok (by simp; omega) (.inr (by simp)) (fun h5=>?_) fun y h6 hy s1 c1 r2 s2 c2 mb2=>?_
    ·rw [List.length_map] at h5
     refine zB (Δ:=qG G b s' kd'::vQ G s' (ps'.map Prod.fst)::vR G kd' ((q0'::ps'.map Prod.snd).map ptr)::qY G d (q0'::ps'.map Prod.snd)::Γ) ?_
     refine zG6 (m:=2) (fun _ h=>?_) h5 (h1 _ _ _ hput)
     rw [h,List.length_nil] at e1; omega
    ·rw [List.length_map] at h6
     obtain ⟨P,p3,R,hP,e7⟩:∃ P p3 R,P.length = 2∧ps' = P++p3::R:=⟨ps'.take 2,ps'[2],ps'.drop 3,by rw [List.length_take]; omega,by rw [← List.drop_eq_getElem_cons,List.take_append_drop]⟩
     have hRl:R.length = 3:=by have:=congrArg List.length e7; simp only [List.length_append,List.length_cons] at this; omega
     have t1:(ps'.map Prod.fst).take 2 = P.map Prod.fst:=by rw [e7,List.map_append]; exact List.take_left' (by simp [hP])
     have t2:(ps'.map Prod.fst).drop 3 = R.map Prod.fst:=by rw [e7,show P++p3::R = (P++[p3])++R by simp,List.map_append]; exact List.drop_left' (by simp [hP])
     have t3:q0'::ps'.map Prod.snd = (q0'::P.map Prod.snd)++(p3.2::R.map Prod.snd):=by rw [e7]; simp
     have t4:((q0'::ps'.map Prod.snd).map ptr).take 3 = (q0'::P.map Prod.snd).map ptr:=by rw [t3,List.map_append]; exact List.take_left' (by simp [hP])
     have t5:((q0'::ps'.map Prod.snd).map ptr).drop 3 = (p3.2::R.map Prod.snd).map ptr:=by rw [t3,List.map_append]; exact List.drop_left' (by simp [hP])
     have t6:psL q0' ps' = psL q0' P++p3.1::psL p3.2 R:=by rw [e7]; simp [psL]
     have t7:y = p3.1:=by
      rw [t1,t2,e7] at hy
      simp only [List.map_append,List.map_cons,List.append_cancel_left_eq,List.cons.injEq] at hy
      exact hy.1.symm
     rw [t4,t5,t1,t2,t3,t7]
     refine ze (qY G d ((q0'::P.map Prod.snd)++(p3.2::R.map Prod.snd))) ?_
     refine zJY ?_
     refine zB (Δ:=qG G b s1 c1::vQ G s1 (P.map Prod.fst)::vR G c1 ((q0'::P.map Prod.snd).map ptr)::qY G d (q0'::P.map Prod.snd)::qG G r2 s2 c2::vQ G s2 (R.map Prod.fst)::vR G c2 ((p3.2::R.map Prod.snd).map ptr)::qY G d (p3.2::R.map Prod.snd)::blk mb2 (.cells (G.f p3.1).toArray G.tI (0,0))::Γ) ?_
     refine zG6 (m:=2) (fun _ h=>by rw [h] at hP; cases hP) (by omega) ?_
     refine zB (Δ:=qG G r2 s2 c2::vQ G s2 (R.map Prod.fst)::vR G c2 ((p3.2::R.map Prod.snd).map ptr)::qY G d (p3.2::R.map Prod.snd)::blk mb2 (.cells (G.f p3.1).toArray G.tI (0,0))::yL G (d + 1) 2 b (psL q0' P)::Γ) ?_
     refine zG6 (m:=2) (fun _ h=>by rw [h] at hRl; cases hRl) (by omega) ?_
     exact zB (h2 _ _ _ _ _ r2 mb2 (t6 ▸ hput))
end
end Bt
end
section
open Go Go.RowKit
namespace Bt
section
variable {κ:Type} {G:BtT κ} {c:κ→κ→Int} {B:World} {Γ Δ:List zC}
def vv (G:BtT κ) (c:κ→κ→Int) (t:Nat) (L:List G.It):zC:=ex fun d=>ex fun b=>Sep.stars [pur (Srt c L),blk t (.cells [.pointer (some ⟨b,0,none⟩),.int .i64 L.length].toArray G.tT (0,0)),yL G d 1 b L]
instance (priority:=high) zcK {t:Nat} {L:List G.It}:Own t (vv G c t L::Γ) (vv G c t L) Γ:=⟨.refl _⟩
theorem zMY {t:Nat} {L:List G.It} {k:K} (h:∀ d b,Srt c L→HG B (blk t (.cells [.pointer (some ⟨b,0,none⟩),.int .i64 L.length].toArray G.tT (0,0))::yL G d 1 b L::Γ) k):HG B (vv G c t L::Γ) k :=
 zDI fun d=>zDI fun b=>zBr <| zGd fun h1=>h d b h1
theorem zZK {t d b:Nat} {L:List G.It} {w:World} (h1:Srt c L) (hw:Holds B (blk t (.cells [.pointer (some ⟨b,0,none⟩),.int .i64 L.length].toArray G.tT (0,0))::yL G d 1 b L::Γ) w):Holds B (vv G c t L::Γ) w:=by
 have h3:Holds B (Sep.stars [pur (Srt c L),blk t (.cells [.pointer (some ⟨b,0,none⟩),.int .i64 L.length].toArray G.tT (0,0)),yL G d 1 b L]::Γ) w:=Holds.flat.2 (Holds.pur.2 ⟨h1,hw⟩)
 exact h3.imp fun g hg=>⟨d,b,hg⟩
theorem zDf {t d b:Nat} {L:List G.It} {k:K} (h1:Srt c L) (h:HG B (vv G c t L::Γ) k):HG B (blk t (.cells [.pointer (some ⟨b,0,none⟩),.int .i64 L.length].toArray G.tT (0,0))::yL G d 1 b L::Γ) k:=fun w hw=>h w (zZK h1 hw)
theorem zMZ {t:Nat} {L:List G.It} {k:K} (h:Srt c L→HG B (vv G c t L::Γ) k):HG B (vv G c t L::Γ) k:=zMY fun d b h1=>zDf h1 (h h1)
theorem zVI {Q:Option Addr→K} (h:∀ t,HG B (vv G c t []::Γ) (Q (some ⟨t,0,none⟩))):HG B Γ (zbB G Q):=by
 unfold zbB
 refine zH fun b=>?_
 refine zH fun t=>?_
 refine fun w hw=>?_
 refine hg (show Holds B (SlC G.tI (G.nv + 1) ⟨none,0,0⟩ []::_) w from hw.zAm G.tI (G.nv + 1)) ?_
 refine fun w hw=>?_
 refine hg (show Holds B (SlC G.tK 1 ⟨none,0,0⟩ []::_) w from hw.zAm G.tK 1) ?_
 refine zB (Δ:=qG G b ⟨none,0,0⟩ ⟨none,0,0⟩::SlC G.tI (G.nv + 1) ⟨none,0,0⟩ []::SlC G.tK 1 ⟨none,0,0⟩ []::blk t (.cells [.pointer (some ⟨b,0,none⟩),.int .i64 0].toArray G.tT (0,0))::Γ) ?_
 refine zFm (m:=1) (L:=[]) (by simp) (by simp) ?_
 refine zDZ ?_
 exact zDf (L:=[]) List.Pairwise.nil (h t)
theorem yL.weak {d m m' b:Nat} {L:List G.It} (hm:m' = 2→m = 2) (hm':1 ≤ m'→1 ≤ m):∀ h,yL G d m b L h→yL G d m' b L h:=fun h hh=>by
 cases d with
 | zero=>
  obtain ⟨s,kd,hh⟩:=hh
  exact ⟨s,kd,zCD (fun g hg=>⟨fun h2=>hg.1 (hm h2),hg.2⟩) (fun _ h=>h) hh⟩
 | succ d=>
  obtain ⟨s,kd,q0,ps,hh⟩:=hh
  exact ⟨s,kd,q0,ps,zCD (fun g hg=>⟨fun h2=>hg.1 (hm' h2),hg.2⟩) (fun _ h=>h) hh⟩
theorem zIE.srt (ok:BtOk G c) {ν:Type} {z v old:ν} {L L':List (κ×ν)} {k:κ} {had:Bool} (h:zIE c z L k v L' old had) (hs:Srt c L):Srt c L':=by
 rcases h with ⟨A,C,rfl,rfl,rfl⟩ | ⟨A,C,rfl,h1,h2,rfl,rfl,rfl⟩
 ·obtain ⟨a1,a2,a3⟩:=List.pairwise_append.1 hs
  obtain ⟨b1,b2⟩:=List.pairwise_cons.1 a2
  refine List.pairwise_append.2 ⟨a1,List.pairwise_cons.2 ⟨fun y hy=>b1 y hy,b2⟩,fun x hx y hy=>?_⟩
  rcases List.mem_cons.1 hy with rfl | hy
  ·exact a3 x hx (k,old) List.mem_cons_self
  ·exact a3 x hx y (List.mem_cons_of_mem _ hy)
 ·obtain ⟨a1,a2,a3⟩:=List.pairwise_append.1 hs
  refine List.pairwise_append.2 ⟨a1,List.pairwise_cons.2 ⟨fun y hy=>h2 y hy,a2⟩,fun x hx y hy=>?_⟩
  rcases List.mem_cons.1 hy with rfl | hy
  ·exact h1 x hx
  ·exact a3 x hx y hy
theorem zIE.len {ν:Type} {z v old:ν} {L L':List (κ×ν)} {k:κ} {had:Bool} (h:zIE c z L k v L' old had):L'.length = L.length + (if had then 0 else 1):=by
 rcases h with ⟨A,C,rfl,rfl,rfl⟩ | ⟨A,C,rfl,h1,h2,rfl,rfl,rfl⟩
 ·simp
 ·simp; omega
theorem zZL {kz a:Value} {vz us:List Value} {n:Nat} (ha:yu a = true) (hz:vz.length = n) (hu:us.length = n):Instr.fill ([(0,1),(1,n)][·]?) (kz::vz).toArray [(0,a),(1,.agg us.toArray)] = some (a::us).toArray:=by
 have h0:a.cells = #[a]:=by cases a <;> first | rfl | (simp [yu] at ha)
 have h1:(Value.agg us.toArray).cells = us.toArray:=rfl
 have e0:([(0,1),(1,n)]:List (Nat×Nat))[0]? = some (0,1):=rfl
 have e1:([(0,1),(1,n)]:List (Nat×Nat))[1]? = some (1,n):=rfl
 simp only [Instr.fill,h0,h1,e0,e1]
 have h2:=zEH us [a] vz (by simp; omega)
 simp [hu,hz]
 refine ⟨by omega,?_⟩
 rw [show [a].length = 1 from rfl,List.zipIdx_eq_map_add,List.foldl_map] at h2
 simpa [Nat.add_comm] using h2
theorem zUO (ok:BtOk G c) {o t6:Nat} {old:Cel G.nv} {v6:Cel G.nv} {had:Bool} {Q:Array Value→Bool→K} (h:HG B Γ (Q old.1.toArray had)):HG B (zBD G o old::zBD G t6 v6::Γ) (zLq G Q ⟨t6,0,none⟩ ⟨o,0,none⟩ had):=by
 unfold zLq
 have e:(old.1.drop 0).take G.nv = old.1:=by rw [List.drop_zero,List.take_of_length_le (Nat.le_of_eq old.2.1)]
 refine qI (b:=o) ?_ e old.2.1
 refine qA (b:=t6) ?_ v6.2.1 old.2.1 old.2.2
 refine qI (b:=t6) ?_ e old.2.1
 exact zB h
theorem zPz (ok:BtOk G c) {o t t6 d b n:Nat} {L L':List G.It} {k:κ} {v old v6:Cel G.nv} {had:Bool} {Q:Array Value→Bool→K} (hs:Srt c L) (hL:L.length < 1000000000) (hp:zIE c (G.z0 ok.vz) L k v L' old had)
  (h:HG B (vv G c t L'::Γ) (Q old.1.toArray had)) :
  HG B (zBD G o old::zBD G t6 v6::blk t (.cells [.pointer (some ⟨b,0,none⟩),.int .i64 L.length].toArray G.tT (0,0))::yL G d 1 b L'::Γ) (zJV G Q (some ⟨t,0,none⟩) ⟨t6,0,none⟩ ⟨o,0,none⟩ had):=by
 unfold zJV
 have hlen:=hp.len
 refine zF (fun hb=>?_) fun hb=>?_
 ·have h0:had = false:=by simpa using hb
  refine uP ?_
  refine yB (b:=t) (x:=(L.length:Int)) ?_
  refine qB ?_
  refine zCB (b:=t) ?_
  rw [show ((L.length:Nat):Int) + 1 = ((L'.length:Nat):Int) by rw [hlen,h0]; simp]
  refine zB (Δ:=zBD G o old::zBD G t6 v6::blk t (.cells [.pointer (some ⟨b,0,none⟩),.int .i64 L'.length].toArray G.tT (0,0))::yL G d 1 b L'::Γ) ?_
  refine zUO ok ?_
  exact zDf (hp.srt ok hs) h
 ·have h0:had = true:=by simpa using hb
  rw [show ((L.length:Nat):Int) = ((L'.length:Nat):Int) by rw [hlen,h0]; simp]
  refine zUO ok ?_
  exact zDf (hp.srt ok hs) h
theorem zUP (ok:BtOk G c) {o t t6 d b n:Nat} {L L':List G.It} {k:κ} {v old v6:Cel G.nv} {had:Bool} {Q:Array Value→Bool→K} (hs:Srt c L) (hL:L.length < 1000000000) (hp:zIE c (G.z0 ok.vz) L k v L' old had)
  (h:HG B (vv G c t L'::Γ) (Q old.1.toArray had)) :
  HG B (zBD G o old::zBD G t6 v6::blk t (.cells [.pointer (some ⟨b,0,none⟩),.int .i64 L.length].toArray G.tT (0,0))::yL G d 2 b L'::Γ) (zHq G Q (some ⟨t,0,none⟩) ⟨t6,0,none⟩ ⟨o,0,none⟩ had none none):=by
 unfold zHq
 refine s_f ?_
 refine zO b ?_
 refine jy (yL.weak (m':=1) (by simp) (by simp)) ?_
 refine zB (Δ:=zBD G o old::zBD G t6 v6::blk t (.cells [.pointer (some ⟨b,0,none⟩),.int .i64 L.length].toArray G.tT (0,0))::yL G d 1 b L'::Γ) ?_
 exact zPz ok (n:=n) hs hL hp h
theorem zWw {b r b2 t1 t2 d:Nat} {M1 M2:List G.It} {x:G.It} {k:K} (h:HG B (yL G (d + 1) 1 b2 (M1++x::M2)::Γ) k) :
  HG B (qG G b2 ⟨some ⟨t1,0,none⟩,1,1⟩ ⟨some ⟨t2,0,none⟩,2,2⟩::blk t1 (.cells (G.f x).toArray G.tI (0,0))::blk t2 (.cells [.pointer (some ⟨b,0,none⟩),.pointer (some ⟨r,0,none⟩)].toArray G.tK (0,0))::yL G d 2 b M1::yL G d 2 r M2::Γ) k:=by
 refine zO t1 ?_
 refine jy (A':=vQ G ⟨some ⟨t1,0,none⟩,1,1⟩ [x]) (zAB (vs:=[x].flatMap G.f) (by simp) (by simp [G.qy])) ?_
 refine zO t2 ?_
 refine jy (A':=vR G ⟨some ⟨t2,0,none⟩,2,2⟩ [some ⟨b,0,none⟩,some ⟨r,0,none⟩]) (zAB (vs:=[Value.pointer (some ⟨b,0,none⟩),Value.pointer (some ⟨r,0,none⟩)]) (by simp) (by simp)) ?_
 refine fun w hw=>?_
 refine hg (show Holds B (qY G d []::_) w from Holds.flat.2 hw) ?_
 refine zB (Δ:=yL G d 2 r M2::qY G d []::yL G d 2 b M1::qG G b2 ⟨some ⟨t1,0,none⟩,1,1⟩ ⟨some ⟨t2,0,none⟩,2,2⟩::vQ G ⟨some ⟨t1,0,none⟩,1,1⟩ [x]::vR G ⟨some ⟨t2,0,none⟩,2,2⟩ [some ⟨b,0,none⟩,some ⟨r,0,none⟩]::Γ) ?_
 show HG B (_::qY G d ([]++[])::_) k
 refine zDe (A:=[]) (C:=[]) (q:=(r,M2)) ?_
 refine zDZ ?_
 refine zDe (A:=[]) (C:=[(r,M2)]) (q:=(b,M1)) ?_
 show HG B (qY G d (((b,M1):Kid G)::[(x,((r,M2):Kid G))].map Prod.snd)::_::vQ G ⟨some ⟨t1,0,none⟩,1,1⟩ ([(x,((r,M2):Kid G))].map Prod.fst)::vR G ⟨some ⟨t2,0,none⟩,2,2⟩ ((((b,M1):Kid G)::[(x,((r,M2):Kid G))].map Prod.snd).map ptr)::_) k
 refine zB (Δ:=qG G b2 ⟨some ⟨t1,0,none⟩,1,1⟩ ⟨some ⟨t2,0,none⟩,2,2⟩::vQ G ⟨some ⟨t1,0,none⟩,1,1⟩ ([(x,((r,M2):Kid G))].map Prod.fst)::vR G ⟨some ⟨t2,0,none⟩,2,2⟩ ((((b,M1):Kid G)::[(x,((r,M2):Kid G))].map Prod.snd).map ptr)::qY G d (((b,M1):Kid G)::[(x,((r,M2):Kid G))].map Prod.snd)::Γ) ?_
 refine zG6 (m:=1) (by simp) (by simp) ?_
 have e:psL ((b,M1):Kid G) [(x,(r,M2))] = M1++x::M2:=by simp [psL]
 rw [e]; exact h
theorem zRL (ok:BtOk G c) {o t t6 d b n r mb:Nat} {L M1 M2:List G.It} {x:G.It} {k:κ} {v old v6:Cel G.nv} {had:Bool} {Q:Array Value→Bool→K} (hs:Srt c L) (hL:L.length < 1000000000) (hp:zIE c (G.z0 ok.vz) L k v (M1++x::M2) old had)
  (h:HG B (vv G c t (M1++x::M2)::Γ) (Q old.1.toArray had)) :
  HG B (zBD G o old::zBD G t6 v6::blk t (.cells [.pointer (some ⟨b,0,none⟩),.int .i64 L.length].toArray G.tT (0,0))::blk mb (.cells (G.f x).toArray G.tI (0,0))::yL G d 2 b M1::yL G d 2 r M2::Γ) (zHq G Q (some ⟨t,0,none⟩) ⟨t6,0,none⟩ ⟨o,0,none⟩ had (some ⟨mb,0,none⟩) (some ⟨r,0,none⟩)):=by
 unfold zHq
 refine s_t ?_
 refine vo ?_
 refine zNe ?_
 refine uP ?_
 refine uP ?_
 refine zBM (b:=mb) (l':=G.f x) ?_ (List.take_of_length_le (by simp [G.qy])) (G.qy _)
 refine jC (b:=t) (x:=some ⟨b,0,none⟩) ?_
 refine zIl ?_ ?_
 ·refine zBf ?_ (by simp [ok.vz.1]) (G.qy _)
  refine zH fun t1=>?_
  refine zBC ?_
  refine zH fun t2=>?_
  refine zBC ?_
  refine zH fun b2=>?_
  refine zCB (b:=t) ?_
  refine zB (Δ:=qG G b2 ⟨some ⟨t1,0,none⟩,1,1⟩ ⟨some ⟨t2,0,none⟩,2,2⟩::blk t1 (.cells (G.f x).toArray G.tI (0,0))::blk t2 (.cells [.pointer (some ⟨b,0,none⟩),.pointer (some ⟨r,0,none⟩)].toArray G.tK (0,0))::yL G d 2 b M1::yL G d 2 r M2::zBD G o old::zBD G t6 v6::blk t (.cells [.pointer (some ⟨b2,0,none⟩),.int .i64 L.length].toArray G.tT (0,0))::Γ) ?_
  refine zWw ?_
  refine zB (Δ:=zBD G o old::zBD G t6 v6::blk t (.cells [.pointer (some ⟨b2,0,none⟩),.int .i64 L.length].toArray G.tT (0,0))::yL G (d + 1) 1 b2 (M1++x::M2)::Γ) ?_
  exact zPz ok (n:=n) hs hL hp h
 ·refine zH fun t2=>?_
  refine zBC ?_
  refine zBf ?_ (by simp [ok.vz.1]) (G.qy _)
  refine zH fun t1=>?_
  refine zBC ?_
  refine zH fun b2=>?_
  refine zCB (b:=t) ?_
  refine zB (Δ:=qG G b2 ⟨some ⟨t1,0,none⟩,1,1⟩ ⟨some ⟨t2,0,none⟩,2,2⟩::blk t1 (.cells (G.f x).toArray G.tI (0,0))::blk t2 (.cells [.pointer (some ⟨b,0,none⟩),.pointer (some ⟨r,0,none⟩)].toArray G.tK (0,0))::yL G d 2 b M1::yL G d 2 r M2::zBD G o old::zBD G t6 v6::blk t (.cells [.pointer (some ⟨b2,0,none⟩),.int .i64 L.length].toArray G.tT (0,0))::Γ) ?_
  refine zWw ?_
  refine zB (Δ:=zBD G o old::zBD G t6 v6::blk t (.cells [.pointer (some ⟨b2,0,none⟩),.int .i64 L.length].toArray G.tT (0,0))::yL G (d + 1) 1 b2 (M1++x::M2)::Γ) ?_
  exact zPz ok (n:=n) hs hL hp h
theorem zVJ (ok:BtOk G c) {t:Nat} {L:List G.It} {k:κ} {v:Cel G.nv} {Q:Array Value→Bool→K} (hL:L.length < 1000000000) (h:∀ L' old had,zIE c (G.z0 ok.vz) L k v L' old had→HG B (vv G c t L'::Γ) (Q old.1.toArray had)) :
  HG B (vv G c t L::Γ) (zbE G (some ⟨t,0,none⟩) k v.1.toArray Q):=by
 refine zMY fun d b hs=>?_
 unfold zbE
 refine zH fun v5=>?_
 refine zH fun t6=>?_
 refine vo ?_
 refine zNe ?_
 refine uP ?_
 refine jC (b:=t) (x:=some ⟨b,0,none⟩) ?_
 refine zBM (b:=v5) (off:=0) (l:=v.1) (l':=v.1) ?_ (List.take_of_length_le (Nat.le_of_eq v.2.1)) v.2.1
 refine zUK (cs:=G.f (k,v)) ?_ (zZL (ok.kf k) ok.vz.1 v.2.1)
 refine zIl ?_ ?_
 ·refine zB (Δ:=yL G d 1 b L::blk t (.cells [.pointer (some ⟨b,0,none⟩),.int .i64 L.length].toArray G.tT (0,0))::zBD G t6 (G.z0 ok.vz)::Γ) ?_
  refine zOL ok d (m:=1) (Nat.le_refl _) hs (fun M' old had hp=>?_) fun M1 x M2 old had r mb hp=>?_
  ·refine zH fun o=>?_
   refine qA (b:=o) ?_ ok.vz.1 old.2.1 old.2.2
   refine zB (Δ:=zBD G o old::zBD G t6 (G.z0 ok.vz)::blk t (.cells [.pointer (some ⟨b,0,none⟩),.int .i64 L.length].toArray G.tT (0,0))::yL G d 2 b M'::Γ) ?_
   exact zUP ok (n:=0) hs hL hp (h _ _ _ hp)
  ·refine zH fun o=>?_
   refine qA (b:=o) ?_ ok.vz.1 old.2.1 old.2.2
   refine zB (Δ:=zBD G o old::zBD G t6 (G.z0 ok.vz)::blk t (.cells [.pointer (some ⟨b,0,none⟩),.int .i64 L.length].toArray G.tT (0,0))::blk mb (.cells (G.f x).toArray G.tI (0,0))::yL G d 2 b M1::yL G d 2 r M2::Γ) ?_
   exact zRL ok (n:=0) hs hL hp (h _ _ _ hp)
 ·refine zH fun o=>?_
  refine zBC ?_
  refine zB (Δ:=yL G d 1 b L::blk t (.cells [.pointer (some ⟨b,0,none⟩),.int .i64 L.length].toArray G.tT (0,0))::zBD G t6 (G.z0 ok.vz)::zBD G o (G.z0 ok.vz)::Γ) ?_
  refine zOL ok d (m:=1) (Nat.le_refl _) hs (fun M' old had hp=>?_) fun M1 x M2 old had r mb hp=>?_
  ·refine qA (b:=o) ?_ ok.vz.1 old.2.1 old.2.2
   refine zB (Δ:=zBD G o old::zBD G t6 (G.z0 ok.vz)::blk t (.cells [.pointer (some ⟨b,0,none⟩),.int .i64 L.length].toArray G.tT (0,0))::yL G d 2 b M'::Γ) ?_
   exact zUP ok (n:=0) hs hL hp (h _ _ _ hp)
  ·refine qA (b:=o) ?_ ok.vz.1 old.2.1 old.2.2
   refine zB (Δ:=zBD G o old::zBD G t6 (G.z0 ok.vz)::blk t (.cells [.pointer (some ⟨b,0,none⟩),.int .i64 L.length].toArray G.tT (0,0))::blk mb (.cells (G.f x).toArray G.tI (0,0))::yL G d 2 b M1::yL G d 2 r M2::Γ) ?_
   exact zRL ok (n:=0) hs hL hp (h _ _ _ hp)
structure At (G:BtT κ) where
 d:Nat
 m:Nat
 b:Nat
 M:List G.It
 W:List zC
 A:List G.It
 C:List G.It
theorem zVK (ok:BtOk G c) {t:Nat} {L:List G.It} {k:κ} {Q:Array Value→Bool→K} (hfound:∀ A v C,L = A++(k,v)::C→HG B (vv G c t L::Γ) (Q v.1.toArray true)) (hnot:(∀ A C,L = A++C→(∀ x ∈ A,c x.1 k < 0)→(∀ x ∈ C,c k x.1 < 0)→HG B (vv G c t L::Γ) (Q G.vz.toArray false))) :
  HG B (vv G c t L::Γ) (zbC G (some ⟨t,0,none⟩) k Q):=by
 refine zMY fun d b hs=>?_
 unfold zbC
 refine zH fun o=>?_
 refine uP ?_
 refine yB (b:=t) (x:=some ⟨b,0,none⟩) ?_
 let W0:List zC:=blk t (.cells [.pointer (some ⟨b,0,none⟩),.int .i64 L.length].toArray G.tT (0,0))::Γ
 refine zB (Δ:=yL G d 1 b L::zBD G o (G.z0 ok.vz)::W0) ?_
 refine xW (ι:=At G) (fun x i=>x = some ⟨i.b,0,none⟩∧L = i.A++i.M++i.C∧(∀ x ∈ i.A,c x.1 k < 0)∧(∀ x ∈ i.C,c k x.1 < 0)∧∀ k',HG B (vv G c t L::Γ) k'→HG B (yL G i.d i.m i.b i.M::i.W) k')
  (fun x i=>yL G i.d i.m i.b i.M::zBD G o (G.z0 ok.vz)::i.W) (fun x i=>i.d) (⟨d,1,b,L,W0,[],[]⟩:At G) ⟨rfl,by simp,by simp,by simp,fun k' hk=>?_⟩ ?_
 ·refine zB (Δ:=blk t (.cells [.pointer (some ⟨b,0,none⟩),.int .i64 L.length].toArray G.tT (0,0))::yL G d 1 b L::Γ) ?_
  exact zDf hs hk
 clear d b W0
 rintro k' _ ⟨d,m,b,M,W,A,C⟩ ⟨rfl,hL,hA,hC,cl⟩ hk
 simp only at hL hA hC cl hk ⊢
 have hsM:Srt c M:=by rw [hL] at hs; exact (List.pairwise_append.1 (List.pairwise_append.1 hs).1).2.1
 unfold zUM
 cases d with
 | zero=>
  refine zHs fun s kd hm hl=>?_
  refine zFl ok (s:=s) (kd:=kd) hsM (by omega) (fun A' v C' e=>?_) fun A' C' e hA' hC'=>?_
  ·subst e
   refine s_t ?_
   refine uP ?_
   refine yS s fun l1 l2 l3 l4=>?_
   rw [zX G.f _ G.qy] at l1
   have hn:s.n = (A'++(k,v)::C').length:=(Nat.eq_of_mul_eq_mul_right (by omega) l1).symm
   have hlen:(A'++(k,v)::C').length = A'.length + (C'.length + 1):=List.length_append
   refine yB (b:=b) (x:=s) ?_
   refine vg (s:=s) (i:=A'.length) ?_
   refine zFB (s:=s) (l':=v.1) zFn v.2.1 ?_
   refine qA (b:=o) ?_ ok.vz.1 v.2.1 v.2.2
   refine qI (b:=o) (off:=0) (l:=v.1) (l':=v.1) ?_ (List.take_of_length_le (Nat.le_of_eq v.2.1)) v.2.1
   refine zB (Δ:=qG G b s kd::vQ G s (A'++(k,v)::C')::vR G kd []::W) ?_
   refine zFm hm hl (cl _ (hfound (A++A') v (C'++C) ?_))
   rw [hL]; simp
  ·subst e
   refine s_f ?_
   refine uP ?_
   refine yS kd fun m1 m2 m3 m4=>?_
   refine yB (b:=b) (x:=kd) ?_
   refine s_t ?_ (by simpa using m1.symm)
   refine zEf (v:=G.z0 ok.vz) ?_
   refine zB (Δ:=qG G b s kd::vQ G s (A'++C')::vR G kd []::W) ?_
   refine zFm hm hl (cl _ (hnot (A++A') (C'++C) ?_ (fun x hx=>?_) fun x hx=>?_))
   ·rw [hL]; simp
   ·rcases List.mem_append.1 hx with hx | hx
    ·exact hA x hx
    ·exact hA' x hx
   ·rcases List.mem_append.1 hx with hx | hx
    ·exact hC' x hx
    ·exact hC x hx
 | succ d=>
  refine zJX fun s kd q0 ps hne hl hM=>?_
  subst hM
  refine zFl ok (s:=s) (kd:=kd) (hsM.sub (zJW q0 ps)) (by simp; omega) (fun A' v C' e=>?_) fun A' C' e hA' hC'=>?_
  ·rw [e]
   refine s_t ?_
   refine uP ?_
   refine yS s fun l1 l2 l3 l4=>?_
   rw [zX G.f _ G.qy] at l1
   have hn:s.n = (A'++(k,v)::C').length:=(Nat.eq_of_mul_eq_mul_right (by omega) l1).symm
   have hlen:(A'++(k,v)::C').length = A'.length + (C'.length + 1):=List.length_append
   refine yB (b:=b) (x:=s) ?_
   refine vg (s:=s) (i:=A'.length) ?_
   refine zFB (s:=s) (l':=v.1) zFn v.2.1 ?_
   refine qA (b:=o) ?_ ok.vz.1 v.2.1 v.2.2
   refine qI (b:=o) (off:=0) (l:=v.1) (l':=v.1) ?_ (List.take_of_length_le (Nat.le_of_eq v.2.1)) v.2.1
   rw [← e]
   refine zB (Δ:=qG G b s kd::vQ G s (ps.map Prod.fst)::vR G kd ((q0::ps.map Prod.snd).map ptr)::qY G d (q0::ps.map Prod.snd)::W) ?_
   obtain ⟨A2,C2,e2⟩:∃ A2 C2,psL q0 ps = A2++(k,v)::C2:=List.append_of_mem ((zJW q0 ps).subset (by rw [e]; simp))
   refine zG6 hne hl (cl _ (hfound (A++A2) v (C2++C) ?_))
   rw [hL,e2]; simp
  ·obtain ⟨l,q,r,rfl,rfl,hK,hL2,hlen⟩:=zMX (q0:=q0) e
   rw [hK]
   rw [hL2] at hsM hL
   refine s_f ?_
   refine uP ?_
   have hkl:((l.map Prod.fst++q::r.map Prod.snd).map ptr).length = l.length + r.length + 1:=by simp; omega
   refine yS kd fun m1 m2 m3 m4=>?_
   rw [zPx,hkl] at m1
   refine yB (b:=b) (x:=kd) ?_
   refine s_f ?_ (by simp; omega)
   refine yB (b:=b) (x:=kd) ?_
   refine vg (s:=kd) (i:=l.length) ?_ (by simp)
   refine zCi (s:=kd) (x:=ptr q) (by simp) ?_
   refine ze (qY G d (l.map Prod.fst++q::r.map Prod.snd)) ?_
   refine zIY ?_
   have hs1:=List.pairwise_append.1 hsM
   have hs2:=List.pairwise_append.1 hs1.1
   have hpre:=zPy ok l hs2.1 hA'
   have hpost:=zLr ok r hs1.2.1 hC'
   refine zB (Δ:=yL G d 2 q.1 q.2::zBD G o (G.z0 ok.vz)::qY G d (l.map Prod.fst++r.map Prod.snd)::qG G b s kd::vQ G s (ps.map Prod.fst)::vR G kd ((l.map Prod.fst++q::r.map Prod.snd).map ptr)::W) ?_
   refine hk _ (⟨d,2,q.1,q.2,qY G d (l.map Prod.fst++r.map Prod.snd)::qG G b s kd::vQ G s (ps.map Prod.fst)::vR G kd ((l.map Prod.fst++q::r.map Prod.snd).map ptr)::W,A++zCt l,zBg r++C⟩:At G) ⟨rfl,?_,fun x hx=>?_,fun x hx=>?_,fun k' hk'=>?_⟩ (Nat.lt_succ_self _)
   ·rw [hL]; simp
   ·rcases List.mem_append.1 hx with hx | hx
    ·exact hA x hx
    ·exact hpre x hx
   ·rcases List.mem_append.1 hx with hx | hx
    ·exact hpost x hx
    ·exact hC x hx
   ·refine zDe ?_
    rw [← hK]
    refine zB (Δ:=qG G b s kd::vQ G s (ps.map Prod.fst)::vR G kd ((q0::ps.map Prod.snd).map ptr)::qY G d (q0::ps.map Prod.snd)::W) ?_
    exact zG6 hne hl (cl k' hk')
end
end Bt
end
end Go.Sep
namespace Go.Proofs.YtdemfamgieonbaaGreat
section
open Go Go.Sep
set_option maxHeartbeats 4000000
attribute [local irreducible] G Gp Cx Tx Ex Sx Dx Ox Ax Lx Rx Fx Bx Bj Al Do Ld LdN St StN New zL Ar DoU Rd Rd2 Pu Cd Ite Fv uF jk jD yO zAQ zDT zDq zD0 Ext Dead Dr yh Sv LdS vY RdS zEL Nn Idx zB0 zDp Fld Bld Slc zEM Cat All yJ jg jO jm
instance:AT Tryz.prog 331 5:=⟨by kernel_rfl⟩
instance:AT Tryz.prog 87 4:=⟨by kernel_rfl⟩
instance:CB Tryz.prog 164:=⟨by kernel_rfl⟩
instance:CB Tryz.prog 201:=⟨by kernel_rfl⟩
instance:CB Tryz.prog 230:=⟨by kernel_rfl⟩
instance:CB Tryz.prog 232:=⟨by kernel_rfl⟩
instance:CB Tryz.prog 245:=⟨by kernel_rfl⟩
instance:CB Tryz.prog 246:=⟨by kernel_rfl⟩
instance:CB Tryz.prog 247:=⟨by kernel_rfl⟩
instance:CB Tryz.prog 248:=⟨by kernel_rfl⟩
instance:CB Tryz.prog 249:=⟨by kernel_rfl⟩
instance:CB Tryz.prog 250:=⟨by kernel_rfl⟩
instance:CB Tryz.prog 251:=⟨by kernel_rfl⟩
instance:CB Tryz.prog 252:=⟨by kernel_rfl⟩
instance:CB Tryz.prog 253:=⟨by kernel_rfl⟩
instance:CB Tryz.prog 254:=⟨by kernel_rfl⟩
instance:CT Tryz.prog 191:=⟨by kernel_rfl⟩
instance:CT Tryz.prog 256:=⟨by kernel_rfl⟩
instance:CT Tryz.prog 257:=⟨by kernel_rfl⟩
instance:CT Tryz.prog 258:=⟨by kernel_rfl⟩
instance:CT Tryz.prog 3:=⟨by kernel_rfl⟩
instance:CT Tryz.prog 9:=⟨by kernel_rfl⟩
instance:FT Tryz.prog 260 0 0 1:=⟨by kernel_rfl⟩
instance:FT Tryz.prog 260 1 1 1:=⟨by kernel_rfl⟩
instance:FT Tryz.prog 262 0 0 1:=⟨by kernel_rfl⟩
instance:FT Tryz.prog 262 1 1 1:=⟨by kernel_rfl⟩
instance:FT Tryz.prog 331 0 0 1:=⟨by kernel_rfl⟩
instance:FT Tryz.prog 331 1 1 4:=⟨by kernel_rfl⟩
instance:MX Tryz.prog:=⟨mixed⟩
instance:PLT Tryz.prog 260 [(0,1),(1,1)]:=⟨_,Tryz.underlying260,by kernel_rfl⟩
instance:PLT Tryz.prog 262 [(0,1),(1,1)]:=⟨_,Tryz.underlying262,by kernel_rfl⟩
instance:PLT Tryz.prog 331 [(0,1),(1,4)]:=⟨_,Tryz.underlying331,by kernel_rfl⟩
instance:SLT Tryz.prog 257 331 5:=⟨by kernel_rfl⟩
instance:SLT Tryz.prog 258 256 1:=⟨by kernel_rfl⟩
instance:SZ Tryz.prog 256 1:=⟨by kernel_rfl⟩
instance:SZ Tryz.prog 257 1:=⟨by kernel_rfl⟩
instance:SZ Tryz.prog 258 1:=⟨by kernel_rfl⟩
instance:SZ Tryz.prog 3 1:=⟨by kernel_rfl⟩
instance:SZ Tryz.prog 331 5:=⟨by kernel_rfl⟩
instance:SZ Tryz.prog 87 4:=⟨by kernel_rfl⟩
instance:UN Tryz.prog 332 (.pointer 9):=⟨Tryz.underlying332⟩
instance:UN Tryz.prog 360 (.pointer 331):=⟨Tryz.underlying360⟩
instance:ZT Tryz.prog 256 (.pointer none):=⟨Tryz.t256,by kernel_rfl,by kernel_rfl⟩
instance:ZT Tryz.prog 260 (.agg #[(Sl.val ⟨none,0,0⟩),(Sl.val ⟨none,0,0⟩)]):=⟨Tryz.t260,by kernel_rfl,by kernel_rfl⟩
instance:ZT Tryz.prog 262 (.agg #[(.pointer none),(.int .i64 0)]):=⟨Tryz.t262,by kernel_rfl,by kernel_rfl⟩
instance:ZT Tryz.prog 331 (.agg #[(.string ⟨#[]⟩),(.bool false),(Sl.val ⟨none,0,0⟩),(.int .i64 0),(.int .u64 0)]):=⟨Tryz.t331,by kernel_rfl,by kernel_rfl⟩
instance:ZT Tryz.prog 87 (.agg #[(.bool false),(Sl.val ⟨none,0,0⟩),(.int .i64 0),(.int .u64 0)]):=⟨Tryz.t87,by kernel_rfl,by kernel_rfl⟩
def uG  (Q:Pt→K): K :=
 New 260 #[Sl.val ⟨none,0,0⟩,Sl.val ⟨none,0,0⟩] fun a=>
 New 262 #[(.pointer (some a)),.int .i64 0] fun b=>
 Q (some b)
theorem zD8 (Q w) (h:uG  Q w):uG.call  Q w:=by
 exact zM 5 h Tryz.func85
def vC (b:Pt) (Q:Value→K): K :=
 New 191 #[.pointer b] fun a=>
 Q (.func (.func 163) #[] #[(.pointer (some a))])
theorem zCu (a Q w) (h:vC a Q w):vC.call a Q w:=by
 exact zM 4 h Tryz.func109
def y9.b1 (Q:Av→Bool→K) (s:Pt→K) (t:ByteArray) (a:Addr) (c:Pt): K :=
 yt.call c t fun d g=>
 Ite g
  (Nn c fun i=>
  Ld i Sl.val fun j=>
  Idx j d 5 fun k=>
  LdN (k.add 1) 4 fun l=>
  StN a 4 l<|
  LdN a 4 fun b=>
  Q b true)
  (Nn c fun f=>
  Ld (f.add 1) Sl.val fun m=>
  Ite (decide ((m.n:Int) = 0))
   (LdN a 4 fun o=>
   StN a 4 o<|
   LdN a 4 fun b=>
   Q b false)
   (Ld (f.add 1) Sl.val fun p=>
   Idx p d 1 fun q=>
   Ld q Value.pointer fun r=>
   s r))
def y9 (d:Pt) (f:ByteArray) (Q:Av→Bool→K): K :=
 New 87 #[.bool false,Sl.val ⟨none,0,0⟩,.int .i64 0,.int .u64 0] fun a=>
 Nn d fun b=>
 Ld b Value.pointer fun c=>
 yJ (α:=Pt) (fun X x=>y9.b1 Q X f a x) c
theorem zCv (a b Q w) (h:y9 a b Q w):y9.call a b Q w:=by
 have:∀ c d,LH 2 (fun x:Pt=>[(1,.string c),(4,(.pointer (some d))),(6,.pointer x)]) (fun X x=>y9.b1 Q X c d x):=fun _ _=>⟨⟩
 exact zM 42 h Tryz.func161
def jJ (d:Value) (f:Addr) (Q:K): K :=
 Ld f Value.pointer fun a=>
 Nn a fun b=>
 Ld b Value.pointer fun c=>
 zG.call c none d fun g=>
 Q
theorem zCW (a b Q w) (h:jJ a b Q w):jJ.call a b Q w:=by
 exact zM 9 h Tryz.func163
def zG.s4 (Q:Bool→K) (b:Pt→Int→K) (f:Addr) (g:Value) (c:Int) (d:Bool): K :=
 Ite d
  (Q false)
  (Ar (IntKind.wrap .i64 (c + 1)) fun a=>
  b none a)
def zG.s3 (Q:Bool→K) (f:Pt→Int→K) (a:Addr) (d:Value) (b:Int) (p:Bool): K :=
 Ite p
  (Q false)
  (Dr<|
  Ld a Sl.val fun g=>
  Ite (decide (b < (g.n:Int)))
   (Ld a Sl.val fun i=>
   Idx i b 5 fun j=>
   Ld j Value.string fun k=>
   Ld a Sl.val fun l=>
   Idx l b 5 fun m=>
   LdN (m.add 1) 4 fun o=>
   jk Tryz.prog d [.string k,.agg o] <| yO (fun (c:Bool)=>Value.bool c) fun c=>
   zG.s4 Q f a d b (!c))
   (zG.s4 Q f a d b false))
def zG.b2 (Q:Bool→K) (d:Pt→Int→K) (m:Pt) (c:Value) (o:Pt) (b:Int): K :=
 Nn m fun a=>
 Ld a Sl.val fun f=>
 Ite (decide (b ≤ (f.n:Int)))
  (Ld (a.add 1) Sl.val fun g=>
  Ite (decide (b < (g.n:Int)))
   (Ld (a.add 1) Sl.val fun i=>
   Idx i b 1 fun j=>
   Ld j Value.pointer fun k=>
   zG.call k o c fun l=>
   zG.s3 Q d a c b (!l))
   (zG.s3 Q d a c b false))
  (Q true)
def zG.s1 (Q:Bool→K) (c d:Pt) (f:Value) (g:Int): K :=
 yJ (α:=Pt×Int) (fun X x=>zG.b2 Q (fun a b=>X (a,b)) c f x.1 x.2) (d,g)
def zG (a b:Pt) (d:Value) (Q:Bool→K): K :=
 Ite (!(b).isNone)
  (Nn b fun c=>
  Ld c Value.string fun f=>
  yt.call a f fun g i=>
  zG.s1 Q a (some c) d g)
  (zG.s1 Q a b d 0)
theorem zCj (q r t Q w) (h:zG q r t Q w):zG.call q r t Q w:=by
 have:∀ (d:(Pt×Int)→K),XH 4 d→JH 10 fun D=>∃ f g j,D [(0,(.pointer (some f))),(2,g),(7,.int .i64 j)] (fun C=>∀ u,C [(0,(.pointer (some f))),(1,.pointer none),(2,g),(7,.int .i64 j),(74,.bool u)] (zG.s4 Q (fun b c=>d (b,c)) f g j u)):=by intros; exact ⟨fun _ ⟨_,_,_,h⟩=>⟨_,_,h⟩⟩
 have:DH 9 1 [25] (.s [0,1,2,3,4,5,6,7] (.i (.s [8,9,10,11,13,17,18,19,21,12,14,15,16,20,22,23,24] (.a [(25,0,.s [26,27] .e)])) (.s [8,9,10,11,12,13,14,15,16,17,18,19,20,21,22,23,24,25,26,27] .e))):=⟨⟩
 have:∀ (d:(Pt×Int)→K),XH 4 d→JH 7 fun D=>∃ k l m,D [(0,(.pointer (some k))),(2,l),(7,.int .i64 m)] (fun C=>∀ v,C [(0,(.pointer (some k))),(2,l),(7,.int .i64 m),(46,.bool v)] (zG.s3 Q (fun b c=>d (b,c)) k l m v)):=by intros; exact ⟨fun _ ⟨_,_,_,h⟩=>⟨_,_,h⟩⟩
 have:∀ y z,LH 4 (fun x:Pt×Int=>[(0,.pointer y),(1,.pointer x.1),(2,z),(7,.int .i64 x.2)]) (fun X x=>zG.b2 Q (fun b c=>X (b,c)) y z x.1 x.2):=fun _ _=>⟨⟩
 have:JH 4 fun D=>∃ n o p,D [(0,.pointer n),(1,.pointer o),(2,p)] (fun C=>∀ aa,C [(0,.pointer n),(1,.pointer o),(2,p),(7,.int .i64 aa)] (zG.s1 Q n o p aa)):=⟨fun _ ⟨_,_,_,h⟩=>⟨_,_,h⟩⟩
 exact zM 75 h Tryz.func164
def yt (f:Pt) (g:ByteArray) (Q:Int→Bool→K): K :=
 Nn f fun a=>
 Ld a Sl.val fun b=>
 zA.call b g (.func (.func 231) #[] #[]) fun c d=>
 Q c d
theorem zCL (a b Q w) (h:yt a b Q w):yt.call a b Q w:=by
 exact zM 14 h Tryz.func201
def vI (d:Av) (f:ByteArray) (Q:Int→K): K :=
 New 331 d fun a=>
 Ld a Value.string fun b=>
 jw.call b f fun c=>
 Q c
theorem zB2 (a b Q w) (h:vI a b Q w):vI.call a b Q w:=by
 exact zM 9 h Tryz.func231
def zK.s2 (Q:Av→Bool→K) (a:Addr) (d:Bool): K :=
 LdN a 4 fun b=>
 StN a 4 b<|
 LdN a 4 fun c=>
 Q c d
def zK.s1 (Q:Av→Bool→K) (b c:Addr) (a:Bool): K :=
 Ite a
  (Ld (b.add 1) (Value.int .i64) fun d=>
  Ar (IntKind.wrap .i64 (d - 1)) fun f=>
  St (b.add 1) (.int .i64 f)<|
  zK.s2 Q c a)
  (zK.s2 Q c a)
def zK.s3 (Q:Av→Bool→K) (a b:Addr) (c k:Bool): K :=
 Ite k
  (Ld a Value.pointer fun d=>
  Nn d fun f=>
  Ld (f.add 1) Sl.val fun g=>
  Idx g 0 1 fun i=>
  Ld i Value.pointer fun j=>
  St a (.pointer j)<|
  zK.s1 Q a b c)
  (zK.s1 Q a b c)
def zK (o:Pt) (p:ByteArray) (Q:Av→Bool→K): K :=
 New 87 #[.bool false,Sl.val ⟨none,0,0⟩,.int .i64 0,.int .u64 0] fun b=>
 Nn o fun a=>
 Ld a Value.pointer fun d=>
 zm.call d p fun f c=>
 StN b 4 f<|
 Ld a Value.pointer fun g=>
 Nn g fun i=>
 Ld i Sl.val fun j=>
 Ite (decide ((j.n:Int) = 0))
  (Ld a Value.pointer fun k=>
  Nn k fun l=>
  Ld (l.add 1) Sl.val fun m=>
  zK.s3 Q a b c (decide ((m.n:Int) = 1)))
  (zK.s3 Q a b c false)
theorem zCM (g i Q w) (h:zK g i Q w):zK.call g i Q w:=by
 have:JH 6 fun D=>∃ a,D [(4,(.pointer (some a)))] (fun C=>∀ j,C [(4,(.pointer (some a))),(5,.bool j)] (zK.s2 Q a j)):=⟨fun _ ⟨_,h⟩=>⟨_,_,h⟩⟩
 have:JH 4 fun D=>∃ b c,D [(0,(.pointer (some b))),(4,(.pointer (some c)))] (fun C=>∀ k,C [(0,(.pointer (some b))),(4,(.pointer (some c))),(5,.bool k)] (zK.s1 Q b c k)):=⟨fun _ ⟨_,_,h⟩=>⟨_,_,h⟩⟩
 have:JH 3 fun D=>∃ d f,D [(0,(.pointer (some d))),(4,(.pointer (some f)))] (fun C=>∀ l m,C [(0,(.pointer (some d))),(4,(.pointer (some f))),(5,.bool l),(34,.bool m)] (zK.s3 Q d f l m)):=⟨fun _ ⟨_,_,h⟩=>⟨_,_,h⟩⟩
 exact zM 57 h Tryz.func242
def zN.s3 (Q:Av→Bool→K) (a d:Addr) (f:Bool): K :=
 LdN d 4 fun b=>
 StN a 4 b<|
 LdN a 4 fun c=>
 Q c f
def zN.s2 (Q:Av→Bool→K) (i:Pt) (c d:Addr) (a:Bool): K :=
 Ite (!a)
  (Nn i fun b=>
  Ld (b.add 1) (Value.int .i64) fun f=>
  Ar (IntKind.wrap .i64 (f + 1)) fun g=>
  St (b.add 1) (.int .i64 g)<|
  zN.s3 Q c d a)
  (zN.s3 Q c d a)
def zN.s1 (Q:Av→Bool→K) (n:Pt) (g j:Addr) (k:Bool) (o p:Pt): K :=
 Ite (!(o).isNone)
  (Dr <| yh fun S=>
  Nn o fun q=>
  Nn n fun a=>
  vY S q 5 fun l=>
  LdS S a Value.pointer fun m=>
  All [
   (Bld #[(.string ⟨#[]⟩),.bool false,Sl.val ⟨none,0,0⟩,.int .i64 0,.int .u64 0] (fun i=>some (i * 5,5)) [(0,.agg l)] fun b=>
   New 331 b fun c=>
   Sv S<|
   New 256 #[.pointer m,.pointer p] fun d=>
   Sv S<|
   New 260 #[(Sl.val (Sl.mk (some c) 1 1)),(Sl.val (Sl.mk (some d) 2 2))] fun f=>
   St a (.pointer (some f))<|
   zN.s2 Q (some a) g j k),
   (New 256 #[.pointer m,.pointer p] fun d=>
   Sv S<|
   Bld #[(.string ⟨#[]⟩),.bool false,Sl.val ⟨none,0,0⟩,.int .i64 0,.int .u64 0] (fun i=>some (i * 5,5)) [(0,.agg l)] fun b=>
   New 331 b fun c=>
   Sv S<|
   New 260 #[(Sl.val (Sl.mk (some c) 1 1)),(Sl.val (Sl.mk (some d) 2 2))] fun f=>
   St a (.pointer (some f))<|
   zN.s2 Q (some a) g j k)
   ])
  (zN.s2 Q n g j k)
def zN (n:Pt) (o:ByteArray) (p:Av) (Q:Av→Bool→K): K :=
 New 87 p fun l=>
 New 87 #[.bool false,Sl.val ⟨none,0,0⟩,.int .i64 0,.int .u64 0] fun i=>
 Dr <| yh fun S=>
 Nn n fun b=>
 LdS S b Value.pointer fun j=>
 vY S l 4 fun m=>
 Bld #[(.string ⟨#[]⟩),.bool false,Sl.val ⟨none,0,0⟩,.int .i64 0,.int .u64 0] ([(0,1),(1,4)][·]?) [(0,.string o),(1,.agg m)] fun k=>
 All [
  (zY.call j k fun c d f g=>
  New 87 #[.bool false,Sl.val ⟨none,0,0⟩,.int .i64 0,.int .u64 0] fun a=>
  StN a 4 c<|
  zN.s1 Q (some b) i a d f g),
  (New 87 #[.bool false,Sl.val ⟨none,0,0⟩,.int .i64 0,.int .u64 0] fun a=>
  Sv S<|
  zY.call j k fun c d f g=>
  StN a 4 c<|
  zN.s1 Q (some b) i a d f g)
  ]
theorem zCw (k l m Q w) (h:zN k l m Q w):zN.call k l m Q w:=by
 have:JH 6 fun D=>∃ b c,D [(6,(.pointer (some b))),(8,(.pointer (some c)))] (fun C=>∀ n,C [(6,(.pointer (some b))),(8,(.pointer (some c))),(9,.bool n)] (zN.s3 Q b c n)):=⟨fun _ ⟨_,_,h⟩=>⟨_,_,h⟩⟩
 have:JH 4 fun D=>∃ d f g,D [(0,.pointer d),(6,(.pointer (some f))),(8,(.pointer (some g)))] (fun C=>∀ o,C [(0,.pointer d),(6,(.pointer (some f))),(8,(.pointer (some g))),(9,.bool o)] (zN.s2 Q d f g o)):=⟨fun _ ⟨_,_,_,h⟩=>⟨_,_,h⟩⟩
 have:DH 3 2 [12,15] (.s [0,1,2,5,6,7,9,3,8] (.a [(4,1,.a [(10,1,.s [11] (.a [(12,0,.s [13,14] (.a [(15,0,.e)]))]))]),(10,1,.a [(4,1,.s [11] (.a [(12,0,.s [13,14] (.a [(15,0,.e)]))]))])])):=⟨⟩
 have:JH 2 fun D=>∃ i j,D [(0,.pointer i),(6,(.pointer (some j)))] (fun C=>∀ p q r t,C [(0,.pointer i),(6,(.pointer (some j))),(8,(.pointer (some p))),(9,.bool q),(10,.pointer r),(11,.pointer t)] (zN.s1 Q i j p q r t)):=⟨fun _ ⟨_,_,h⟩=>⟨_,_,h⟩⟩
 have:DH 1 2 [7,14] (.s [0,1,2,4,3,5,6] (.a [(7,0,.s [8,9,10,11,12] (.a [(13,0,.a [(14,0,.s [15,16,17] .e)])])),(13,1,.a [(7,0,.s [8,9,10,11,12] (.a [(14,0,.s [15,16,17] .e)]))])])):=⟨⟩
 exact zM 53 h Tryz.func243
def zm.s1 (Q:Av→Bool→K) (a:Addr) (d:Bool): K :=
 LdN a 4 fun b=>
 StN a 4 b<|
 LdN a 4 fun c=>
 Q c d
def zm.s2 (Q:Av→Bool→K) (i:Pt) (aj:ByteArray) (a:Addr) (b:Int) (ak al:Bool): K :=
 Ite al
  (Nn i fun d=>
  Ld d Sl.val fun j=>
  Idx j b 5 fun k=>
  LdN (k.add 1) 4 fun l=>
  StN a 4 l<|
  Ld d Sl.val fun m=>
  Ar (IntKind.wrap .i64 (b + 1)) fun o=>
  zQ.call m b o fun p=>
  St d (Sl.val p)<|
  LdN a 4 fun q=>
  StN a 4 q<|
  LdN a 4 fun f=>
  Q f true)
  (Ite ak
   (Nn i fun c=>
   Ld c Sl.val fun r=>
   Idx r b 5 fun s=>
   LdN (s.add 1) 4 fun t=>
   StN a 4 t<|
   Dr <| yh fun S=>
   LdS S c Sl.val fun u=>
   LdS S (c.add 1) Sl.val fun v=>
   Idx v b 1 fun x=>
   LdS S x Value.pointer fun y=>
   qp.call y fun z=>
   Sv S<|
   Idx u b 5 fun aa=>
   StN aa 5 z<|
   zi.call (some c) b<|
   LdN a 4 fun ab=>
   StN a 4 ab<|
   LdN a 4 fun f=>
   Q f true)
   (Nn i fun g=>
   Ld (g.add 1) Sl.val fun ac=>
   Ite (decide ((0:Int) < (ac.n:Int)))
    (Ld (g.add 1) Sl.val fun ad=>
    Idx ad b 1 fun ae=>
    Ld ae Value.pointer fun af=>
    zm.call af aj fun ag ah=>
    StN a 4 ag<|
    zi.call (some g) b<|
    zm.s1 Q a ah)
    (zm.s1 Q a false)))
def zm (a:Pt) (b:ByteArray) (Q:Av→Bool→K): K :=
 New 87 #[.bool false,Sl.val ⟨none,0,0⟩,.int .i64 0,.int .u64 0] fun c=>
 yt.call a b fun d g=>
 Ite g
  (Nn a fun f=>
  Ld (f.add 1) Sl.val fun i=>
  zm.s2 Q (some f) b c d true (decide ((i.n:Int) = 0)))
  (zm.s2 Q a b c d false false)
theorem zCk (i j Q w) (h:zm i j Q w):zm.call i j Q w:=by
 have:JH 14 fun D=>∃ b,D [(4,(.pointer (some b)))] (fun C=>∀ k,C [(4,(.pointer (some b))),(5,.bool k)] (zm.s1 Q b k)):=⟨fun _ ⟨_,h⟩=>⟨_,_,h⟩⟩
 have:DH 8 2 [14] (.s [0,1,2,4,5,6,7,9,3,8,10,11] (.a [(12,1,.s [13] (.a [(14,0,.e)]))])):=⟨⟩
 have:JH 3 fun D=>∃ c d f g,D [(0,.pointer c),(1,.string d),(4,(.pointer (some f))),(6,.int .i64 g)] (fun C=>∀ l m,C [(0,.pointer c),(1,.string d),(4,(.pointer (some f))),(5,.bool false),(6,.int .i64 g),(7,.bool l),(14,.bool m)] (zm.s2 Q c d f g l m)):=⟨fun _ ⟨_,_,_,_,h⟩=>⟨_,_,h⟩⟩
 exact zM 96 h Tryz.func245
def zY.s2 (Q:Av→Bool→Pt→Pt→K) (a:Addr) (d:Bool) (f g:Addr): K :=
 LdN a 4 fun b=>
 StN a 4 b<|
 LdN a 4 fun c=>
 Q c d (some g) (some f)
def zY.s1 (Q:Av→Bool→Pt→Pt→K) (ab:Pt) (b:Addr) (j:Bool): K :=
 Nn ab fun a=>
 Ld a Sl.val fun k=>
 Ite (decide ((k.n:Int) ≤ 5))
  (LdN b 4 fun l=>
  StN b 4 l<|
  LdN b 4 fun m=>
  Q m j none none)
  (Ld a Sl.val fun o=>
  Idx o 2 5 fun p=>
  LdN p 5 fun q=>
  New 331 #[(.string ⟨#[]⟩),.bool false,Sl.val ⟨none,0,0⟩,.int .i64 0,.int .u64 0] fun d=>
  StN d 5 q<|
  Ld a Sl.val fun f=>
  Slc f 3 (f.n:Int) (f.c:Int) 5 fun r=>
  z8.call r fun s=>
  New 260 #[Sl.val s,Sl.val ⟨none,0,0⟩] fun g=>
  Ld a Sl.val fun t=>
  Slc t 0 2 2 5 fun u=>
  St a (Sl.val u)<|
  Ld (a.add 1) Sl.val fun v=>
  Ite (decide ((0:Int) < (v.n:Int)))
   (Ld (a.add 1) Sl.val fun i=>
   Slc i 3 (i.n:Int) (i.c:Int) 1 fun x=>
   yA.call x fun y=>
   St (g.add 1) (Sl.val y)<|
   Ld (a.add 1) Sl.val fun z=>
   Slc z 0 3 3 1 fun aa=>
   St (a.add 1) (Sl.val aa)<|
   zY.s2 Q b j g d)
   (zY.s2 Q b j g d))
def zY (f:Pt) (aw:Av) (Q:Av→Bool→Pt→Pt→K): K :=
 New 331 aw fun d=>
 New 87 #[.bool false,Sl.val ⟨none,0,0⟩,.int .i64 0,.int .u64 0] fun b=>
 Ld d Value.string fun l=>
 yt.call f l fun c m=>
 Ite m
  (Nn f fun g=>
  Ld g Sl.val fun o=>
  Idx o c 5 fun p=>
  LdN (p.add 1) 4 fun q=>
  StN b 4 q<|
  Dr<|
  Ld g Sl.val fun r=>
  LdN (d.add 1) 4 fun s=>
  Idx r c 5 fun t=>
  StN (t.add 1) 4 s<|
  LdN b 4 fun u=>
  StN b 4 u<|
  LdN b 4 fun v=>
  Q v true none none)
  (Nn f fun a=>
  Ld (a.add 1) Sl.val fun x=>
  Ite (decide ((x.n:Int) = 0))
   (Dr <| yh fun S=>
   LdS S a Sl.val fun y=>
   vY S d 5 fun z=>
   Bld #[(.string ⟨#[]⟩),.bool false,Sl.val ⟨none,0,0⟩,.int .i64 0,.int .u64 0] (fun i=>some (i * 5,5)) [(0,.agg z)] fun aa=>
   New 331 aa fun ab=>
   Sv S<|
   zR.call y c (Sl.mk (some ab) 1 1) fun ac=>
   St a (Sl.val ac)<|
   zY.s1 Q (some a) b false)
   (Dr<|
   Ld (a.add 1) Sl.val fun ad=>
   Idx ad c 1 fun ae=>
   Ld ae Value.pointer fun af=>
   LdN d 5 fun ag=>
   zY.call af ag fun ah j k aj=>
   StN b 4 ah<|
   Ite (!(k).isNone)
    (Dr <| yh fun S=>
    Nn k fun ak=>
    LdS S a Sl.val fun al=>
    vY S ak 5 fun am=>
    Bld #[(.string ⟨#[]⟩),.bool false,Sl.val ⟨none,0,0⟩,.int .i64 0,.int .u64 0] (fun i=>some (i * 5,5)) [(0,.agg am)] fun an=>
    New 331 an fun ao=>
    Sv S<|
    zR.call al c (Sl.mk (some ao) 1 1) fun ap=>
    St a (Sl.val ap)<|
    Ld (a.add 1) Sl.val fun aq=>
    Ar (IntKind.wrap .i64 (c + 1)) fun ar=>
    New 256 #[.pointer aj] fun au=>
    zf.call aq ar (Sl.mk (some au) 1 1) fun av=>
    St (a.add 1) (Sl.val av)<|
    zY.s1 Q (some a) b j)
    (zY.s1 Q (some a) b j)))
theorem zCx (i j Q w) (h:zY i j Q w):zY.call i j Q w:=by
 have:JH 22 fun D=>∃ b c d,D [(4,(.pointer (some b))),(7,(.pointer (some c))),(12,(.pointer (some d)))] (fun C=>∀ k,C [(4,(.pointer (some b))),(5,.bool k),(7,(.pointer (some c))),(12,(.pointer (some d)))] (zY.s2 Q b k c d)):=⟨fun _ ⟨_,_,_,h⟩=>⟨_,_,h⟩⟩
 have:JH 14 fun D=>∃ f g,D [(0,.pointer f),(4,(.pointer (some g)))] (fun C=>∀ l,C [(0,.pointer f),(4,(.pointer (some g))),(5,.bool l)] (zY.s1 Q f g l)):=⟨fun _ ⟨_,_,h⟩=>⟨_,_,h⟩⟩
 have:DH 10 1 [9] (.s [0,1,2,4,5,3,6,7,8] (.a [(9,0,.e)])):=⟨⟩
 have:DH 13 2 [8,11] (.s [0,1,2,3,5,4,6] (.a [(7,1,.a [(8,0,.s [9,10] (.a [(11,0,.e)]))])])):=⟨⟩
 have:DH 6 2 [10,13] (.s [0,1,2,3,5,6,7,4,8] (.a [(9,1,.a [(10,0,.s [11,12] (.a [(13,0,.e)]))])])):=⟨⟩
 have:DH 4 1 [8,14] (.s [0,1,2,4,3,5,6,7] (.a [(8,0,.s [9,10,11,12,13] (.a [(14,0,.s [15,16,17] .e)]))])):=⟨⟩
 exact zM 156 h Tryz.func246
def qp (ab:Pt) (Q:Av→K): K :=
 New 331 #[(.string ⟨#[]⟩),.bool false,Sl.val ⟨none,0,0⟩,.int .i64 0,.int .u64 0] fun b=>
 Nn ab fun a=>
 Ld (a.add 1) Sl.val fun k=>
 Ar (IntKind.wrap .i64 ((k.n:Int) - 1)) fun d=>
 Ite (decide ((0:Int) ≤ d))
  (Ld (a.add 1) Sl.val fun l=>
  Idx l d 1 fun m=>
  Ld m Value.pointer fun o=>
  qp.call o fun p=>
  New 331 #[(.string ⟨#[]⟩),.bool false,Sl.val ⟨none,0,0⟩,.int .i64 0,.int .u64 0] fun g=>
  StN g 5 p<|
  zi.call (some a) d<|
  LdN g 5 fun q=>
  StN b 5 q<|
  LdN b 5 fun f=>
  Q f)
  (Dr <| yh fun S=>
  LdS S a Sl.val fun r=>
  LdS S a Sl.val fun s=>
  Ar (IntKind.wrap .i64 ((s.n:Int) - 1)) fun t=>
  Idx r t 5 fun u=>
  vY S u 5 fun v=>
  New 331 #[(.string ⟨#[]⟩),.bool false,Sl.val ⟨none,0,0⟩,.int .i64 0,.int .u64 0] fun i=>
  Sv S<|
  StN i 5 v<|
  Dr<|
  Ld a Sl.val fun j=>
  Ld a Sl.val fun x=>
  Ar (IntKind.wrap .i64 ((x.n:Int) - 1)) fun y=>
  Slc j 0 y (j.c:Int) 5 fun z=>
  St a (Sl.val z)<|
  LdN i 5 fun aa=>
  StN b 5 aa<|
  LdN b 5 fun f=>
  Q f)
theorem zCl (b Q w) (h:qp b Q w):qp.call b Q w:=by
 have:DH 7 1 [14] (.s [0,1,2,3,5,6,7,4,8,9,10,11,12,13] (.a [(14,0,.e)])):=⟨⟩
 have:DH 6 2 [13] (.s [0,1,2,4,5,6,3,7,8,9,10,11] (.a [(12,1,.a [(13,0,.e)])])):=⟨⟩
 exact zM 53 h Tryz.func248
def zi.s2 (Q:K) (a:Addr) (d:Int) (g:Addr) (bg:Bool): K :=
 Ite bg
  (Ld (a.add 1) Sl.val fun k=>
  Ar (IntKind.wrap .i64 (d + 1)) fun l=>
  Idx k l 1 fun m=>
  Ld m Value.pointer fun o=>
  Dr <| yh fun S=>
  LdS S g Sl.val fun p=>
  LdS S a Sl.val fun q=>
  Idx q d 5 fun r=>
  vY S r 5 fun s=>
  Bld #[(.string ⟨#[]⟩),.bool false,Sl.val ⟨none,0,0⟩,.int .i64 0,.int .u64 0] (fun i=>some (i * 5,5)) [(0,.agg s)] fun t=>
  New 331 t fun u=>
  Sv S<|
  Do Tryz.prog (Builtin.append_ #[257,257] 257 #[Sl.val p,(Sl.val (Sl.mk (some u) 1 1))]) Sl.val fun v=>
  St g (Sl.val v)<|
  Dr<|
  Nn o fun b=>
  Ld a Sl.val fun x=>
  Ld b Sl.val fun y=>
  Idx y 0 5 fun z=>
  LdN z 5 fun aa=>
  Idx x d 5 fun ab=>
  StN ab 5 aa<|
  Ld b Sl.val fun ac=>
  zQ.call ac 0 1 fun ad=>
  St b (Sl.val ad)<|
  Ld (b.add 1) Sl.val fun ae=>
  Ite (decide ((0:Int) < (ae.n:Int)))
   (Dr <| yh fun S=>
   LdS S (g.add 1) Sl.val fun af=>
   LdS S (b.add 1) Sl.val fun ag=>
   Idx ag 0 1 fun ah=>
   LdS S ah Value.pointer fun aj=>
   New 256 #[.pointer aj] fun ak=>
   Sv S<|
   Do Tryz.prog (Builtin.append_ #[258,258] 258 #[Sl.val af,(Sl.val (Sl.mk (some ak) 1 1))]) Sl.val fun al=>
   St (g.add 1) (Sl.val al)<|
   Ld (b.add 1) Sl.val fun am=>
   zh.call am 0 1 fun an=>
   St (b.add 1) (Sl.val an)<|
   Q)
   (Q))
  (Ar (if (1:Int) > d then 1 else d) fun c=>
  Dr<|
  Ld (a.add 1) Sl.val fun ao=>
  Ar (IntKind.wrap .i64 (c - 1)) fun ap=>
  Idx ao ap 1 fun aq=>
  Ld aq Value.pointer fun ar=>
  Ld (a.add 1) Sl.val fun au=>
  Idx au c 1 fun av=>
  Ld av Value.pointer fun aw=>
  Dr <| yh fun S=>
  Nn ar fun f=>
  Ar (IntKind.wrap .i64 (c - 1)) fun ax=>
  Nn aw fun j=>
  LdS S f Sl.val fun ay=>
  LdS S a Sl.val fun az=>
  Idx az ax 5 fun a0=>
  vY S a0 5 fun a1=>
  LdS S j Sl.val fun a2=>
  Bld #[(.string ⟨#[]⟩),.bool false,Sl.val ⟨none,0,0⟩,.int .i64 0,.int .u64 0] (fun i=>some (i * 5,5)) [(0,.agg a1)] fun a3=>
  New 331 a3 fun a4=>
  Sv S<|
  Do Tryz.prog (Builtin.append_ #[257,257] 257 #[Sl.val ay,(Sl.val (Sl.mk (some a4) 1 1))]) Sl.val fun a5=>
  Sv S<|
  Do Tryz.prog (Builtin.append_ #[257,257] 257 #[Sl.val a5,Sl.val a2]) Sl.val fun a6=>
  St f (Sl.val a6)<|
  Dr<|
  Ld (f.add 1) Sl.val fun a7=>
  Ld (j.add 1) Sl.val fun a8=>
  Do Tryz.prog (Builtin.append_ #[258,258] 258 #[Sl.val a7,Sl.val a8]) Sl.val fun a9=>
  St (f.add 1) (Sl.val a9)<|
  Ld a Sl.val fun ba=>
  Ar (IntKind.wrap .i64 (c - 1)) fun bb=>
  zQ.call ba bb c fun bc=>
  St a (Sl.val bc)<|
  Ld (a.add 1) Sl.val fun bd=>
  Ar (IntKind.wrap .i64 (c + 1)) fun be=>
  zh.call bd c be fun bf=>
  St (a.add 1) (Sl.val bf)<|
  Q)
def zi.s1 (Q:K) (b:Addr) (d:Int) (f:Addr) (a2:Bool): K :=
 Ite a2
  (Ld (b.add 1) Sl.val fun l=>
  Ar (IntKind.wrap .i64 (d - 1)) fun m=>
  Idx l m 1 fun o=>
  Ld o Value.pointer fun p=>
  Nn p fun a=>
  Ld a Sl.val fun q=>
  Ar (IntKind.wrap .i64 ((q.n:Int) - 1)) fun g=>
  Dr <| yh fun S=>
  Ar (IntKind.wrap .i64 (d - 1)) fun r=>
  LdS S f Sl.val fun s=>
  LdS S b Sl.val fun t=>
  Idx t r 5 fun u=>
  vY S u 5 fun v=>
  Bld #[(.string ⟨#[]⟩),.bool false,Sl.val ⟨none,0,0⟩,.int .i64 0,.int .u64 0] (fun i=>some (i * 5,5)) [(0,.agg v)] fun x=>
  New 331 x fun y=>
  Sv S<|
  zR.call s 0 (Sl.mk (some y) 1 1) fun z=>
  St f (Sl.val z)<|
  Dr<|
  Ar (IntKind.wrap .i64 (d - 1)) fun aa=>
  Ld b Sl.val fun ab=>
  Ld a Sl.val fun ac=>
  Idx ac g 5 fun ad=>
  LdN ad 5 fun ae=>
  Idx ab aa 5 fun af=>
  StN af 5 ae<|
  Ld a Sl.val fun j=>
  Slc j 0 g (j.c:Int) 5 fun ag=>
  St a (Sl.val ag)<|
  Ld (a.add 1) Sl.val fun ah=>
  Ite (decide ((0:Int) < (ah.n:Int)))
   (Dr <| yh fun S=>
   Ar (IntKind.wrap .i64 (g + 1)) fun aj=>
   LdS S (f.add 1) Sl.val fun ak=>
   LdS S (a.add 1) Sl.val fun al=>
   Idx al aj 1 fun am=>
   LdS S am Value.pointer fun an=>
   New 256 #[.pointer an] fun ao=>
   Sv S<|
   zf.call ak 0 (Sl.mk (some ao) 1 1) fun ap=>
   St (f.add 1) (Sl.val ap)<|
   Ld (a.add 1) Sl.val fun k=>
   Ar (IntKind.wrap .i64 (g + 1)) fun aq=>
   Slc k 0 aq (k.c:Int) 1 fun ar=>
   St (a.add 1) (Sl.val ar)<|
   Q)
   (Q))
  (Ar (IntKind.wrap .i64 (d + 1)) fun au=>
  Ld (b.add 1) Sl.val fun av=>
  Ite (decide (au < (av.n:Int)))
   (Ld (b.add 1) Sl.val fun aw=>
   Ar (IntKind.wrap .i64 (d + 1)) fun ax=>
   Idx aw ax 1 fun ay=>
   Ld ay Value.pointer fun az=>
   Nn az fun a0=>
   Ld a0 Sl.val fun a1=>
   zi.s2 Q b d f (decide ((2:Int) < (a1.n:Int))))
   (zi.s2 Q b d f false))
def zi (q:Pt) (a:Int) (Q:K): K :=
 Nn q fun b=>
 Ld (b.add 1) Sl.val fun d=>
 Idx d a 1 fun f=>
 Ld f Value.pointer fun g=>
 Nn g fun c=>
 Ld c Sl.val fun i=>
 Ite (decide ((2:Int) ≤ (i.n:Int)))
  (Q)
  (Ite (decide ((0:Int) < a))
   (Ld (b.add 1) Sl.val fun j=>
   Ar (IntKind.wrap .i64 (a - 1)) fun k=>
   Idx j k 1 fun l=>
   Ld l Value.pointer fun m=>
   Nn m fun o=>
   Ld o Sl.val fun p=>
   zi.s1 Q b a c (decide ((2:Int) < (p.n:Int))))
   (zi.s1 Q b a c false))
theorem zCm (j k Q w) (h:zi j k Q w):zi.call j k Q w:=by
 have:DH 15 2 [14,17] (.s [0,1,2,3,5,6,7,9,10,4,8,11,12] (.a [(13,1,.a [(14,0,.s [15,16] (.a [(17,0,.e)]))])])):=⟨⟩
 have:DH 12 1 [14] (.s [0,1,2,4,5,6,7,8,10,3,9,11,12,13] (.a [(14,0,.e)])):=⟨⟩
 have:DH 11 2 [14,17] (.s [0,1,2,3,5,6,7,9,10,4,8,11,12] (.a [(13,1,.a [(14,0,.s [15,16] (.a [(17,0,.e)]))])])):=⟨⟩
 have:DH 23 2 [12,15] (.s [0,1,2,3,5,6,7,4,8,9,10] (.a [(11,1,.a [(12,0,.s [13,14] (.a [(15,0,.e)]))])])):=⟨⟩
 have:DH 20 1 [12] (.s [0,1,2,4,5,6,7,3,8,9,10,11] (.a [(12,0,.e)])):=⟨⟩
 have:DH 19 2 [13,16] (.s [0,1,2,3,5,6,7,9,4,8,10,11] (.a [(12,1,.a [(13,0,.s [14,15] (.a [(16,0,.e)]))])])):=⟨⟩
 have:DH 4 1 [9,12] (.s [0,1,2,3,5,6,7,4,8] (.a [(9,0,.s [10,11] (.a [(12,0,.e)]))])):=⟨⟩
 have:DH 3 2 [19,22] (.s [0,1,2,3,5,6,7,9,10,15,16,17,4,8,11,12,18] (.a [(13,1,.a [(14,1,.a [(19,0,.s [20,21] (.a [(22,0,.e)]))])])])):=⟨⟩
 have:JH 18 fun D=>∃ b c d,D [(0,(.pointer (some b))),(1,.int .i64 c),(4,(.pointer (some d)))] (fun C=>∀ l,C [(0,(.pointer (some b))),(1,.int .i64 c),(4,(.pointer (some d))),(202,.bool l)] (zi.s2 Q b c d l)):=⟨fun _ ⟨_,_,_,h⟩=>⟨_,_,h⟩⟩
 have:JH 9 fun D=>∃ f g i,D [(0,(.pointer (some f))),(1,.int .i64 g),(4,(.pointer (some i)))] (fun C=>∀ m,C [(0,(.pointer (some f))),(1,.int .i64 g),(4,(.pointer (some i))),(97,.bool m)] (zi.s1 Q f g i m)):=⟨fun _ ⟨_,_,_,h⟩=>⟨_,_,h⟩⟩
 exact zM 299 h Tryz.func249
instance:CB Tryz.prog 256:=⟨by kernel_rfl⟩
instance:CB Tryz.prog 258:=⟨by kernel_rfl⟩
instance:CB Tryz.prog 259:=⟨by kernel_rfl⟩
instance:CB Tryz.prog 260:=⟨by kernel_rfl⟩
instance:CB Tryz.prog 261:=⟨by kernel_rfl⟩
instance:CB Tryz.prog 262:=⟨by kernel_rfl⟩
instance:EXT Tryz.prog 255 (Extern.SlicesOverlaps.overlaps #[257,257] #[4]):=zWb Tryz.func255 (by kernel_rfl) (by kernel_rfl) (by kernel_rfl) (by kernel_rfl)
instance:EXT Tryz.prog 257 (Extern.SlicesOverlaps.overlaps #[258,258] #[4]):=zWb Tryz.func257 (by kernel_rfl) (by kernel_rfl) (by kernel_rfl) (by kernel_rfl)
instance:INT Tryz.prog 204 .u64:=⟨by kernel_rfl⟩
instance:INT Tryz.prog 3 .i64:=⟨by kernel_rfl⟩
instance:UN Tryz.prog 257 (.slice 331):=⟨Tryz.underlying257⟩
instance:UN Tryz.prog 258 (.slice 256):=⟨Tryz.underlying258⟩
def zA.s2 (Q:Int→Bool→K) (c:Int→Int→K) (a:Int) (b:Bool): K :=
 Q a b
def zA.b1 (Q:Int→Bool→K) (b:Int→Int→K) (i:Sl) (j:ByteArray) (k:Value) (t a g:Int): K :=
 Ite (decide (a < g))
  (Ar (IntKind.wrap .i64 (a + g)) fun l=>
  Ar (IntKind.wrap .u64 l) fun m=>
  Cd (0 ≤ (1:Int))<|
  Ar (zGv .u64 m 1) fun n=>
  Ar (IntKind.wrap .i64 n) fun c=>
  Idx i c 5 fun o=>
  LdN o 5 fun p=>
  uF Tryz.prog k [.agg p,.string j] <| yO (fun (d:Int)=>(Value.int .i64) d) fun d=>
  Ite (decide (d < 0))
   (Ar (IntKind.wrap .i64 (c + 1)) fun q=>
   b q g)
   (b a c))
  (Ite (decide (a < t))
   (Idx i a 5 fun r=>
   LdN r 5 fun s=>
   uF Tryz.prog k [.agg s,.string j] <| yO (fun (f:Int)=>(Value.int .i64) f) fun f=>
   zA.s2 Q b a (decide (f = 0)))
   (zA.s2 Q b a false))
def zA (a:Sl) (d:ByteArray) (f:Value) (Q:Int→Bool→K): K :=
 yJ (α:=Int×Int) (fun X x=>zA.b1 Q (fun b c=>X (b,c)) a d f (a.n:Int) x.1 x.2) (0,(a.n:Int))
theorem x9 (c d f Q w) (h:zA c d f Q w):zA.call c d f Q w:=by
 have:∀ g,XH 3 g→JH 1000008 fun D=>D [] (fun C=>∀ i j,C [(6,.int .i64 i),(7,.bool j)] (zA.s2 Q (fun a b=>g (a,b)) i j)):=by intros; exact ⟨fun _ h=>⟨_,_,h⟩⟩
 have:∀ k l m n,LH 3 (fun x:Int×Int=>[(0,Sl.val k),(1,.string l),(2,m),(8,.int .i64 n),(9,.int .i64 x.1),(10,.int .i64 x.2)]) (fun X x=>zA.b1 Q (fun a b=>X (a,b)) k l m n x.1 x.2):=fun _ _ _ _=>⟨⟩
 exact zM 49 h Tryz.func230
def zQ (a:Sl) (d f:Int) (Q:Sl→K): K :=
 Slc a d f (a.n:Int) 5 fun k=>
 Ite (decide (d = f))
  (Q a)
  (Dr<|
  Slc a 0 d (a.c:Int) 5 fun g=>
  Slc a f (a.n:Int) (a.c:Int) 5 fun i=>
  Do Tryz.prog (Builtin.append_ #[257,257] 257 #[Sl.val g,Sl.val i]) Sl.val fun b=>
  Slc b (b.n:Int) (a.n:Int) (b.c:Int) 5 fun j=>
  Do Tryz.prog (Builtin.clear_ #[257] 0 #[Sl.val j]) id fun _=>
  Q b)
theorem uI (b c d Q w) (h:zQ b c d Q w):zQ.call b c d Q w:=by
 have:DH 5 0 [] (.s [0,1,2,3,4,5] (.a [(6,0,.s [7] .e)])):=⟨⟩
 exact zM 33 h Tryz.func247
def zR (b:Sl) (f:Int) (d:Sl) (Q:Sl→K): K :=
 Slc b f (b.n:Int) (b.c:Int) 5 fun ae=>
 Ite (decide ((d.n:Int) = 0))
  (Q b)
  (Ite (decide (f = (b.n:Int)))
   (Do Tryz.prog (Builtin.append_ #[257,257] 257 #[Sl.val b,Sl.val d]) Sl.val fun i=>
   Q i)
   (Ar (IntKind.wrap .i64 ((b.n:Int) + (d.n:Int))) fun j=>
   Do Tryz.prog (Builtin.cap_ #[257] 3 #[Sl.val b]) (Value.int .i64) fun k=>
   Ite (decide (k < j))
    (Slc b 0 f (b.c:Int) 5 fun l=>
    Ar (IntKind.wrap .i64 ((b.n:Int) + (d.n:Int))) fun m=>
    Ar (IntKind.wrap .i64 (m - f)) fun o=>
    Do Tryz.prog (Builtin.append_ #[257,3] 257 #[Sl.val l,.int .i64 o]) Sl.val fun g=>
    Slc g f (g.n:Int) (g.c:Int) 5 fun p=>
    Do Tryz.prog (Builtin.copy_ #[257,257] 3 #[Sl.val p,Sl.val d]) (Value.int .i64) fun af=>
    Dr<|
    Ar (IntKind.wrap .i64 (f + (d.n:Int))) fun q=>
    Slc g q (g.n:Int) (g.c:Int) 5 fun r=>
    Slc b f (b.n:Int) (b.c:Int) 5 fun s=>
    Do Tryz.prog (Builtin.copy_ #[257,257] 3 #[Sl.val r,Sl.val s]) (Value.int .i64) fun ag=>
    Q g)
    (Ar (IntKind.wrap .i64 ((b.n:Int) + (d.n:Int))) fun t=>
    Slc b 0 t (b.c:Int) 5 fun a=>
    Ar (IntKind.wrap .i64 (f + (d.n:Int))) fun u=>
    Slc a u (a.n:Int) (a.c:Int) 5 fun v=>
    Rd Tryz.prog (Extern.SlicesOverlaps.overlaps #[257,257] #[4] [Sl.val d,Sl.val v].toArray) Value.bool fun x=>
    Ite (!x)
     (Dr<|
     Ar (IntKind.wrap .i64 (f + (d.n:Int))) fun y=>
     Slc a y (a.n:Int) (a.c:Int) 5 fun z=>
     Slc a f (a.n:Int) (a.c:Int) 5 fun aa=>
     Do Tryz.prog (Builtin.copy_ #[257,257] 3 #[Sl.val z,Sl.val aa]) (Value.int .i64) fun ah=>
     Slc a f (a.n:Int) (a.c:Int) 5 fun ab=>
     Do Tryz.prog (Builtin.copy_ #[257,257] 3 #[Sl.val ab,Sl.val d]) (Value.int .i64) fun aj=>
     Q a)
     (Slc a (b.n:Int) (a.n:Int) (a.c:Int) 5 fun ac=>
     Do Tryz.prog (Builtin.copy_ #[257,257] 3 #[Sl.val ac,Sl.val d]) (Value.int .i64) fun ak=>
     Slc a f (a.n:Int) (a.c:Int) 5 fun ad=>
     uZ.call ad (d.n:Int)<|
     Q a))))
theorem uJ (b c d Q w) (h:zR b c d Q w):zR.call b c d Q w:=by
 have:DH 11 0 [] (.s [0,1,2,3,4,5,6,7] (.a [(8,0,.e)])):=⟨⟩
 have:DH 15 0 [] (.s [0,1,2,3,4,5,6,7] (.a [(8,0,.e)])):=⟨⟩
 exact zM 95 h Tryz.func250
def zf (b:Sl) (f:Int) (d:Sl) (Q:Sl→K): K :=
 Slc b f (b.n:Int) (b.c:Int) 1 fun ae=>
 Ite (decide ((d.n:Int) = 0))
  (Q b)
  (Ite (decide (f = (b.n:Int)))
   (Do Tryz.prog (Builtin.append_ #[258,258] 258 #[Sl.val b,Sl.val d]) Sl.val fun i=>
   Q i)
   (Ar (IntKind.wrap .i64 ((b.n:Int) + (d.n:Int))) fun j=>
   Do Tryz.prog (Builtin.cap_ #[258] 3 #[Sl.val b]) (Value.int .i64) fun k=>
   Ite (decide (k < j))
    (Slc b 0 f (b.c:Int) 1 fun l=>
    Ar (IntKind.wrap .i64 ((b.n:Int) + (d.n:Int))) fun m=>
    Ar (IntKind.wrap .i64 (m - f)) fun o=>
    Do Tryz.prog (Builtin.append_ #[258,3] 258 #[Sl.val l,.int .i64 o]) Sl.val fun g=>
    Slc g f (g.n:Int) (g.c:Int) 1 fun p=>
    Do Tryz.prog (Builtin.copy_ #[258,258] 3 #[Sl.val p,Sl.val d]) (Value.int .i64) fun af=>
    Dr<|
    Ar (IntKind.wrap .i64 (f + (d.n:Int))) fun q=>
    Slc g q (g.n:Int) (g.c:Int) 1 fun r=>
    Slc b f (b.n:Int) (b.c:Int) 1 fun s=>
    Do Tryz.prog (Builtin.copy_ #[258,258] 3 #[Sl.val r,Sl.val s]) (Value.int .i64) fun ag=>
    Q g)
    (Ar (IntKind.wrap .i64 ((b.n:Int) + (d.n:Int))) fun t=>
    Slc b 0 t (b.c:Int) 1 fun a=>
    Ar (IntKind.wrap .i64 (f + (d.n:Int))) fun u=>
    Slc a u (a.n:Int) (a.c:Int) 1 fun v=>
    Rd Tryz.prog (Extern.SlicesOverlaps.overlaps #[258,258] #[4] [Sl.val d,Sl.val v].toArray) Value.bool fun x=>
    Ite (!x)
     (Dr<|
     Ar (IntKind.wrap .i64 (f + (d.n:Int))) fun y=>
     Slc a y (a.n:Int) (a.c:Int) 1 fun z=>
     Slc a f (a.n:Int) (a.c:Int) 1 fun aa=>
     Do Tryz.prog (Builtin.copy_ #[258,258] 3 #[Sl.val z,Sl.val aa]) (Value.int .i64) fun ah=>
     Slc a f (a.n:Int) (a.c:Int) 1 fun ab=>
     Do Tryz.prog (Builtin.copy_ #[258,258] 3 #[Sl.val ab,Sl.val d]) (Value.int .i64) fun aj=>
     Q a)
     (Slc a (b.n:Int) (a.n:Int) (a.c:Int) 1 fun ac=>
     Do Tryz.prog (Builtin.copy_ #[258,258] 3 #[Sl.val ac,Sl.val d]) (Value.int .i64) fun ak=>
     Slc a f (a.n:Int) (a.c:Int) 1 fun ad=>
     uf.call ad (d.n:Int)<|
     Q a))))
theorem uK (b c d Q w) (h:zf b c d Q w):zf.call b c d Q w:=by
 have:DH 11 0 [] (.s [0,1,2,3,4,5,6,7] (.a [(8,0,.e)])):=⟨⟩
 have:DH 15 0 [] (.s [0,1,2,3,4,5,6,7] (.a [(8,0,.e)])):=⟨⟩
 exact zM 95 h Tryz.func251
def z8 (b:Sl) (Q:Sl→K): K :=
 Ite ((b).a.isNone)
  (Q (Sl.mk none 0 0))
  (New 331 #[] fun c=>
  Do Tryz.prog (Builtin.append_ #[257,257] 257 #[(Sl.val (Sl.mk (some c) 0 0)),Sl.val b]) Sl.val fun d=>
  Q d)
theorem uM (a Q w) (h:z8 a Q w):z8.call a Q w:=by
 exact zM 8 h Tryz.func252
def yA (b:Sl) (Q:Sl→K): K :=
 Ite ((b).a.isNone)
  (Q (Sl.mk none 0 0))
  (New 256 #[] fun c=>
  Do Tryz.prog (Builtin.append_ #[258,258] 258 #[(Sl.val (Sl.mk (some c) 0 0)),Sl.val b]) Sl.val fun d=>
  Q d)
theorem uN (a Q w) (h:yA a Q w):yA.call a Q w:=by
 exact zM 8 h Tryz.func253
def zh (a:Sl) (d f:Int) (Q:Sl→K): K :=
 Slc a d f (a.n:Int) 1 fun k=>
 Ite (decide (d = f))
  (Q a)
  (Dr<|
  Slc a 0 d (a.c:Int) 1 fun g=>
  Slc a f (a.n:Int) (a.c:Int) 1 fun i=>
  Do Tryz.prog (Builtin.append_ #[258,258] 258 #[Sl.val g,Sl.val i]) Sl.val fun b=>
  Slc b (b.n:Int) (a.n:Int) (b.c:Int) 1 fun j=>
  Do Tryz.prog (Builtin.clear_ #[258] 0 #[Sl.val j]) id fun _=>
  Q b)
theorem uL (b c d Q w) (h:zh b c d Q w):zh.call b c d Q w:=by
 have:DH 5 0 [] (.s [0,1,2,3,4,5] (.a [(6,0,.s [7] .e)])):=⟨⟩
 exact zM 33 h Tryz.func254
def uZ (a:Sl) (c:Int) (Q:K): K :=
 Ar (IntKind.wrap .i64 ((a.n:Int) - c)) fun b=>
 uz.call a b<|
 Q
def uf (a:Sl) (c:Int) (Q:K): K :=
 Ar (IntKind.wrap .i64 ((a.n:Int) - c)) fun b=>
 u6.call a b<|
 Q
def uz (a:Sl) (b:Int) (Q:K): K :=
 Slc a 0 b (a.c:Int) 5 fun d=>
 zZ.call d<|
 Slc a b (a.n:Int) (a.c:Int) 5 fun f=>
 zZ.call f<|
 zZ.call a<|
 Q
def u6 (a:Sl) (b:Int) (Q:K): K :=
 Slc a 0 b (a.c:Int) 1 fun d=>
 za.call d<|
 Slc a b (a.n:Int) (a.c:Int) 1 fun f=>
 za.call f<|
 za.call a<|
 Q
def zZ.b1 (Q:K) (n:Int→Int→K) (a:Sl) (b c:Int): K :=
 Ite (decide (b < c))
  (Dr<|
  Idx a c 5 fun d=>
  Idx a b 5 fun f=>
  LdN d 5 fun g=>
  LdN f 5 fun i=>
  Idx a b 5 fun j=>
  StN j 5 g<|
  Idx a c 5 fun k=>
  StN k 5 i<|
  Ar (IntKind.wrap .i64 (b + 1)) fun l=>
  Ar (IntKind.wrap .i64 (c - 1)) fun m=>
  n l m)
  (Q)
def zZ (a:Sl) (Q:K): K :=
 Ar (IntKind.wrap .i64 ((a.n:Int) - 1)) fun b=>
 yJ (α:=Int×Int) (fun X x=>zZ.b1 Q (fun c d=>X (c,d)) a x.1 x.2) (0,b)
def za.b1 (Q:K) (n:Int→Int→K) (a:Sl) (b c:Int): K :=
 Ite (decide (b < c))
  (Dr<|
  Idx a c 1 fun d=>
  Idx a b 1 fun f=>
  Ld d Value.pointer fun g=>
  Ld f Value.pointer fun i=>
  Idx a b 1 fun j=>
  St j (.pointer g)<|
  Idx a c 1 fun k=>
  St k (.pointer i)<|
  Ar (IntKind.wrap .i64 (b + 1)) fun l=>
  Ar (IntKind.wrap .i64 (c - 1)) fun m=>
  n l m)
  (Q)
def za (a:Sl) (Q:K): K :=
 Ar (IntKind.wrap .i64 ((a.n:Int) - 1)) fun b=>
 yJ (α:=Int×Int) (fun X x=>za.b1 Q (fun c d=>X (c,d)) a x.1 x.2) (0,b)
instance:CB Tryz.prog 189:=⟨by kernel_rfl⟩
instance:CB Tryz.prog 238:=⟨by kernel_rfl⟩
def jw (a b:ByteArray) (Q:Int→K): K :=
 cmp_isNaN_string.call a fun d=>
 cmp_isNaN_string.call b fun c=>
 Ite d
  (Ite c
   (Q 0)
   (Q (-1)))
  (Ite c
   (Q 1)
   (Ite (Op.bytesLess a.toList b.toList)
    (Q (-1))
    (Ite (!(Op.bytesLess a.toList b.toList || a.toList == b.toList))
     (Q 1)
     (Q 0))))
theorem zGg (a b Q w) (h:jw a b Q w):jw.call a b Q w:=by
 exact zM 20 h Tryz.func232
def cmp_isNaN_string (a:ByteArray) (Q:Bool→K): K :=
 Q (!(a.toList == a.toList))
theorem zIF (a Q w) (h:cmp_isNaN_string a Q w):cmp_isNaN_string.call a Q w:=by
 exact zM 6 h Tryz.func238
instance:SLT Tryz.prog 85 5 1:=⟨by kernel_rfl⟩
instance:UN Tryz.prog 85 (.slice 5):=⟨Tryz.underlying85⟩
instance:ZT Tryz.prog 5 (.int .u8 0):=⟨Tryz.t5,by kernel_rfl,by kernel_rfl⟩
def vK (b:Sl) (Q:Sl→K): K :=
 Ite ((b).a.isNone)
  (Q (Sl.mk none 0 0))
  (New 5 #[] fun c=>
  Do Tryz.prog (Builtin.append_ #[85,85] 85 #[(Sl.val (Sl.mk (some c) 0 0)),Sl.val b]) Sl.val fun d=>
  Q d)
theorem zG7 (a Q w) (h:vK a Q w):vK.call a Q w:=by
 exact zM 8 h Tryz.func110
def bytes_Equal (c d:Sl) (Q:Bool→K): K :=
 Rd Tryz.prog (convert 85 9 (Sl.val c)) Value.string fun a=>
 Rd Tryz.prog (convert 85 9 (Sl.val d)) Value.string fun b=>
 Q (a.toList == b.toList)
theorem zMa (a b Q w) (h:bytes_Equal a b Q w):bytes_Equal.call a b Q w:=by
 exact zM 10 h Tryz.func225
instance:CB Tryz.prog 108:=⟨by kernel_rfl⟩
instance:CB Tryz.prog 109:=⟨by kernel_rfl⟩
instance:CB Tryz.prog 110:=⟨by kernel_rfl⟩
instance:CB Tryz.prog 161:=⟨by kernel_rfl⟩
instance:CB Tryz.prog 162:=⟨by kernel_rfl⟩
instance:CB Tryz.prog 229:=⟨by kernel_rfl⟩
instance:CB Tryz.prog 242:=⟨by kernel_rfl⟩
instance:CB Tryz.prog 243:=⟨by kernel_rfl⟩
instance:CB Tryz.prog 85:=⟨by kernel_rfl⟩
instance:CT Tryz.prog 33:=⟨by kernel_rfl⟩
instance:CT Tryz.prog 4:=⟨by kernel_rfl⟩
instance:CT Tryz.prog 56:=⟨by kernel_rfl⟩
instance:CT Tryz.prog 85:=⟨by kernel_rfl⟩
instance:FT Tryz.prog 194 0 0 1:=⟨by kernel_rfl⟩
instance:FT Tryz.prog 194 1 1 1:=⟨by kernel_rfl⟩
instance:FT Tryz.prog 87 0 0 1:=⟨by kernel_rfl⟩
instance:FT Tryz.prog 87 1 1 1:=⟨by kernel_rfl⟩
instance:FT Tryz.prog 87 2 2 1:=⟨by kernel_rfl⟩
instance:FT Tryz.prog 87 3 3 1:=⟨by kernel_rfl⟩
instance:INT Tryz.prog 5 .u8:=⟨by kernel_rfl⟩
instance:PLT Tryz.prog 173 [(0,1),(1,4)]:=⟨_,Tryz.underlying173,by kernel_rfl⟩
instance:PLT Tryz.prog 194 [(0,1),(1,1)]:=⟨_,Tryz.underlying194,by kernel_rfl⟩
instance:SLT Tryz.prog 56 173 5:=⟨by kernel_rfl⟩
instance:STT Tryz.prog 9:=⟨by kernel_rfl⟩
instance:SZ Tryz.prog 33 1:=⟨by kernel_rfl⟩
instance:SZ Tryz.prog 4 1:=⟨by kernel_rfl⟩
instance:SZ Tryz.prog 56 1:=⟨by kernel_rfl⟩
instance:SZ Tryz.prog 85 1:=⟨by kernel_rfl⟩
instance:ZT Tryz.prog 173 (.agg #[(.string ⟨#[]⟩),(.bool false),(Sl.val ⟨none,0,0⟩),(.int .i64 0),(.int .u64 0)]):=⟨Tryz.t173,by kernel_rfl,by kernel_rfl⟩
instance:ZT Tryz.prog 194 (.agg #[(.int .i64 0),(.pointer none)]):=⟨Tryz.t194,by kernel_rfl,by kernel_rfl⟩
instance:ZT Tryz.prog 56 (Sl.val ⟨none,0,0⟩):=⟨Tryz.t56,by kernel_rfl,by kernel_rfl⟩
def zBd.s1 (Q:Pt→Int→K) (c:Int) (d:Bool): K :=
 Ite d
  (Q none 1)
  (uG.call  fun a=>
  New 194 #[.int .i64 c,.pointer a] fun b=>
  Q (some b) 0)
def zBd (a:Int) (Q:Pt→Int→K): K :=
 Ite (decide (a < 1))
  (zBd.s1 Q a true)
  (zBd.s1 Q a (decide ((3:Int) < a)))
theorem zP0 (b Q w) (h:zBd b Q w):zBd.call b Q w:=by
 have:JH 2 fun D=>∃ a,D [(0,.int .i64 a)] (fun C=>∀ c,C [(0,.int .i64 a),(9,.bool c)] (zBd.s1 Q a c)):=⟨fun _ ⟨_,h⟩=>⟨_,_,h⟩⟩
 exact zM 14 h Tryz.func46
def zAu (v:Pt) (Q:Sl→K): K :=
 New 56 #[Sl.val ⟨none,0,0⟩] fun a=>
 Nn v fun d=>
 Ld (d.add 1) Value.pointer fun f=>
 vC.call f fun g=>
 jO Tryz.prog g .ret (fun x:ByteArray×Av=>[.string x.1,.agg x.2]) (fun j k y x=>
  New 87 #[.bool false,Sl.val ⟨none,0,0⟩,.int .i64 0,.int .u64 0] fun b=>
  StN b 4 x.2<|
  j<|
  Ld (b.add 1) Sl.val fun l=>
  vK.call l fun m=>
  St (b.add 1) (Sl.val m)<|
  Ld a Sl.val fun n=>
  LdN b 4 fun o=>
  Bld #[(.string ⟨#[]⟩),.bool false,Sl.val ⟨none,0,0⟩,.int .i64 0,.int .u64 0] ([(0,1),(1,4)][·]?) [(0,.string x.1),(1,.agg o)] fun p=>
  Bld #[(.string ⟨#[]⟩),.bool false,Sl.val ⟨none,0,0⟩,.int .i64 0,.int .u64 0] (fun i=>some (i * 5,5)) [(0,.agg p)] fun q=>
  New 173 q fun r=>
  Do Tryz.prog (Builtin.append_ #[56,56] 56 #[Sl.val n,(Sl.val (Sl.mk (some r) 1 1))]) Sl.val fun s=>
  St a (Sl.val s)<|
  k)
  (fun c=>
   Ld a Sl.val fun t=>
   St a (Sl.val t)<|
   jm c<|
   Ld a Sl.val fun u=>
   Q u)
  (fun c=>
   Dead)
theorem zIG (a Q w) (h:zAu a Q w):zAu.call a Q w:=by
 exact zM 23 h Tryz.func63
def qE.s1 (Q:Av→K) (b a:Addr): K :=
 Ld (a.add 1) Sl.val fun c=>
 vK.call c fun d=>
 St (a.add 1) (Sl.val d)<|
 LdN a 4 fun f=>
 StN b 4 f<|
 LdN b 4 fun g=>
 Q g
def qE (l:Pt) (d:ByteArray) (Q:Av→K): K :=
 New 87 #[.bool false,Sl.val ⟨none,0,0⟩,.int .i64 0,.int .u64 0] fun b=>
 Nn l fun c=>
 Ld (c.add 1) Value.pointer fun f=>
 y9.call f d fun g i=>
 New 87 #[.bool false,Sl.val ⟨none,0,0⟩,.int .i64 0,.int .u64 0] fun a=>
 StN a 4 g<|
 Ite (!i)
  (Ld c (Value.int .i64) fun j=>
  jS.call d j fun k=>
  St (a.add 2) (.int .i64 k)<|
  qE.s1 Q b a)
  (qE.s1 Q b a)
theorem zIm (c d Q w) (h:qE c d Q w):qE.call c d Q w:=by
 have:JH 4 fun D=>∃ a b,D [(4,(.pointer (some a))),(5,(.pointer (some b)))] (fun C=>C [(4,(.pointer (some a))),(5,(.pointer (some b)))] (qE.s1 Q a b)):=⟨fun _ ⟨_,_,h⟩=>⟨_,_,h⟩⟩
 exact zM 30 h Tryz.func108
def jS.b1 (Q:Int→K) (k:Int→Int→K) (l:ByteArray) (b m c a:Int): K :=
 Ite (decide (a < m))
  (zDp l a fun d=>
  Ar (IntKind.wrap .i64 d) fun f=>
  Ar (IntKind.wrap .i64 (c + f)) fun g=>
  Cd (b ≠ 0)<|
  Ar (Int.tmod g b) fun i=>
  Ar (IntKind.wrap .i64 (a + 1)) fun j=>
  k i j)
  (Q c)
def jS (a:ByteArray) (b:Int) (Q:Int→K): K :=
 Ite (decide (b < 1))
  (Q 0)
  (yJ (α:=Int×Int) (fun X x=>jS.b1 Q (fun c d=>X (c,d)) a b (a.size:Int) x.1 x.2) (0,0))
theorem zKB (a b Q w) (h:jS a b Q w):jS.call a b Q w:=by
 have:∀ c d f,LH 5 (fun x:Int×Int=>[(0,.string c),(1,.int .i64 d),(5,.int .i64 x.1),(10,.int .i64 f),(11,.int .i64 x.2)]) (fun X x=>jS.b1 Q (fun g i=>X (g,i)) c d f x.1 x.2):=fun _ _ _=>⟨⟩
 exact zM 24 h Tryz.func162
def xQ.s1 (Q:Int→K) (g:Pt) (i:ByteArray) (j:Int) (a:Addr) (k:Bool): K :=
 Ite k
  (Q 1)
  (Ld (a.add 3) (Value.int .u64) fun b=>
  Ite (decide (b = 18446744073709551615))
   (Q 111)
   (St (a.add 2) (.int .i64 j)<|
   Ld (a.add 3) (Value.int .u64) fun c=>
   Ar (IntKind.wrap .u64 (c + 1)) fun d=>
   St (a.add 3) (.int .u64 d)<|
   LdN a 4 fun f=>
   qd.call g i f<|
   Q 0))
def xQ (c:Pt) (d:ByteArray) (a:Int) (Q:Int→K): K :=
 qE.call c d fun g=>
 New 87 #[.bool false,Sl.val ⟨none,0,0⟩,.int .i64 0,.int .u64 0] fun b=>
 StN b 4 g<|
 Ite (decide (a < 0))
  (xQ.s1 Q c d a b true)
  (Nn c fun f=>
  Ld f (Value.int .i64) fun i=>
  xQ.s1 Q (some f) d a b (decide (i ≤ a)))
theorem zIH (f g i Q w) (h:xQ f g i Q w):xQ.call f g i Q w:=by
 have:JH 3 fun D=>∃ a b c d,D [(0,.pointer a),(1,.string b),(2,.int .i64 c),(7,(.pointer (some d)))] (fun C=>∀ j,C [(0,.pointer a),(1,.string b),(2,.int .i64 c),(7,(.pointer (some d))),(11,.bool j)] (xQ.s1 Q a b c d j)):=⟨fun _ ⟨_,_,_,_,h⟩=>⟨_,_,h⟩⟩
 exact zM 36 h Tryz.func197
def zA5 (b:Pt) (c:ByteArray) (i:Sl) (Q:K): K :=
 qE.call b c fun d=>
 New 87 #[.bool false,Sl.val ⟨none,0,0⟩,.int .i64 0,.int .u64 0] fun a=>
 StN a 4 d<|
 vK.call i fun f=>
 St a (.bool true)<|
 St (a.add 1) (Sl.val f)<|
 LdN a 4 fun g=>
 qd.call b c g<|
 Q
theorem zIn (a b c Q w) (h:zA5 a b c Q w):zA5.call a b c Q w:=by
 exact zM 18 h Tryz.func198
def jv (b:Pt) (c:ByteArray) (Q:K): K :=
 qE.call b c fun d=>
 New 87 #[.bool false,Sl.val ⟨none,0,0⟩,.int .i64 0,.int .u64 0] fun a=>
 StN a 4 d<|
 St a (.bool false)<|
 St (a.add 1) (Sl.val (Sl.mk none 0 0))<|
 LdN a 4 fun f=>
 qd.call b c f<|
 Q
theorem zGh (a b Q w) (h:jv a b Q w):jv.call a b Q w:=by
 exact zM 14 h Tryz.func199
def qd.s1 (Q:K) (a:Pt) (b:ByteArray) (j:Addr) (k:Bool): K :=
 Ite k
  (Nn a fun c=>
  Ld (c.add 1) Value.pointer fun d=>
  zK.call d b fun l m=>
  Q)
  (Dr<|
  Nn a fun f=>
  Ld (f.add 1) Value.pointer fun g=>
  LdN j 4 fun i=>
  zN.call g b i fun n o=>
  Q)
def qd (b:Pt) (c:ByteArray) (g:Av) (Q:K): K :=
 New 87 g fun a=>
 Ld a Value.bool fun d=>
 Ite (!d)
  (Ld (a.add 3) (Value.int .u64) fun f=>
  qd.s1 Q b c a (decide (f = 0)))
  (qd.s1 Q b c a false)
theorem zFD (f g i Q w) (h:qd f g i Q w):qd.call f g i Q w:=by
 have:DH 3 1 [6] (.s [0,1,2,4,3,5] (.a [(6,0,.e)])):=⟨⟩
 have:JH 2 fun D=>∃ b c d,D [(0,.pointer b),(1,.string c),(5,(.pointer (some d)))] (fun C=>∀ j,C [(0,.pointer b),(1,.string c),(5,(.pointer (some d))),(13,.bool j)] (qd.s1 Q b c d j)):=⟨fun _ ⟨_,_,_,h⟩=>⟨_,_,h⟩⟩
 exact zM 27 h Tryz.func229
instance:AT Tryz.prog 123 4:=⟨by kernel_rfl⟩
instance:AT Tryz.prog 224 7:=⟨by kernel_rfl⟩
instance:CB Tryz.prog 103:=⟨by kernel_rfl⟩
instance:CB Tryz.prog 152:=⟨by kernel_rfl⟩
instance:CB Tryz.prog 154:=⟨by kernel_rfl⟩
instance:CB Tryz.prog 155:=⟨by kernel_rfl⟩
instance:CB Tryz.prog 172:=⟨by kernel_rfl⟩
instance:CB Tryz.prog 190:=⟨by kernel_rfl⟩
instance:CB Tryz.prog 191:=⟨by kernel_rfl⟩
instance:CB Tryz.prog 202:=⟨by kernel_rfl⟩
instance:CB Tryz.prog 203:=⟨by kernel_rfl⟩
instance:CB Tryz.prog 227:=⟨by kernel_rfl⟩
instance:CB Tryz.prog 241:=⟨by kernel_rfl⟩
instance:CB Tryz.prog 87:=⟨by kernel_rfl⟩
instance:CB Tryz.prog 88:=⟨by kernel_rfl⟩
instance:CT Tryz.prog 146:=⟨by kernel_rfl⟩
instance:CT Tryz.prog 163:=⟨by kernel_rfl⟩
instance:CT Tryz.prog 22:=⟨by kernel_rfl⟩
instance:SLT Tryz.prog 133 146 1:=⟨by kernel_rfl⟩
instance:SLT Tryz.prog 159 163 1:=⟨by kernel_rfl⟩
instance:SLT Tryz.prog 22 9 1:=⟨by kernel_rfl⟩
instance:SLT Tryz.prog 222 224 7:=⟨by kernel_rfl⟩
instance:SLT Tryz.prog 23 123 4:=⟨by kernel_rfl⟩
instance:SLT Tryz.prog 314 22 1:=⟨by kernel_rfl⟩
instance:SLT Tryz.prog 38 84 3:=⟨by kernel_rfl⟩
instance:SLT Tryz.prog 42 3 1:=⟨by kernel_rfl⟩
instance:SLT Tryz.prog 49 180 2:=⟨by kernel_rfl⟩
instance:SZ Tryz.prog 22 1:=⟨by kernel_rfl⟩
instance:SZ Tryz.prog 224 7:=⟨by kernel_rfl⟩
instance:SZ Tryz.prog 9 1:=⟨by kernel_rfl⟩
instance:UN Tryz.prog 22 (.slice 9):=⟨Tryz.underlying22⟩
instance:UN Tryz.prog 23 (.slice 123):=⟨Tryz.underlying23⟩
instance:UN Tryz.prog 38 (.slice 84):=⟨Tryz.underlying38⟩
instance:UN Tryz.prog 49 (.slice 180):=⟨Tryz.underlying49⟩
instance:ZT Tryz.prog 123 (.agg #[(.int .i64 0),(.string ⟨#[]⟩),(Sl.val ⟨none,0,0⟩),(.int .i64 0)]):=⟨Tryz.t123,by kernel_rfl,by kernel_rfl⟩
instance:ZT Tryz.prog 180 (.agg #[(.bool false),(Sl.val ⟨none,0,0⟩)]):=⟨Tryz.t180,by kernel_rfl,by kernel_rfl⟩
instance:ZT Tryz.prog 224 (.agg #[(.int .i64 0),(.int .u64 0),(.int .u64 0),(.int .i64 0),(.string ⟨#[]⟩),(.int .i64 0),(.int .u64 0)]):=⟨Tryz.t224,by kernel_rfl,by kernel_rfl⟩
instance:ZT Tryz.prog 84 (.agg #[(.string ⟨#[]⟩),(.int .i64 0),(.int .u64 0)]):=⟨Tryz.t84,by kernel_rfl,by kernel_rfl⟩
instance:ZT Tryz.prog 9 (.string ⟨#[]⟩):=⟨Tryz.t9,by kernel_rfl,by kernel_rfl⟩
def zA1 (a:Sl) (Q:K): K :=
 Ar (IntKind.wrap .u64 (a.n:Int)) fun b=>
 zIW.call b fun c=>
 zFM.call a 0 (a.n:Int) c<|
 Q
def zu.s3 (Q:Sl→K) (f:Int→K) (b:Int→Int→K) (g:Sl) (c:Int) (i:Sl) (d:Int): K :=
 Ar (IntKind.wrap .i64 (d + 1)) fun a=>
 b c a
def zu.b2 (Q:Sl→K) (g:Int→K) (i:Int→Int→K) (a b:Sl) (f d:Int): K :=
 Ite (decide (d < (b.n:Int)))
  (Dr<|
  Idx b d 1 fun j=>
  Ld j (Value.int .i64) fun k=>
  Ar (IntKind.wrap .i64 (d - 1)) fun l=>
  Idx b l 1 fun m=>
  Ld m (Value.int .i64) fun o=>
  Ite (decide (k ≠ o))
   (Idx b d 1 fun p=>
   Ld p (Value.int .i64) fun q=>
   Idx a f 1 fun r=>
   St r (.int .i64 q)<|
   Ar (IntKind.wrap .i64 (f + 1)) fun s=>
   zu.s3 Q g i a s b d)
   (zu.s3 Q g i a f b d))
  (Slc a f (a.n:Int) (a.c:Int) 1 fun t=>
  Do Tryz.prog (Builtin.clear_ #[42] 0 #[Sl.val t]) id fun _=>
  Slc a 0 f (a.c:Int) 1 fun u=>
  Q u)
def zu.b1 (Q:Sl→K) (d:Int→K) (a:Sl) (b:Int): K :=
 Ite (decide (b < (a.n:Int)))
  (Dr<|
  Idx a b 1 fun f=>
  Ld f (Value.int .i64) fun g=>
  Ar (IntKind.wrap .i64 (b - 1)) fun i=>
  Idx a i 1 fun j=>
  Ld j (Value.int .i64) fun k=>
  Ite (decide (g = k))
   (Slc a b (a.n:Int) (a.c:Int) 1 fun l=>
   yJ (α:=Int×Int) (fun X x=>zu.b2 Q d (fun m o=>X (m,o)) a l x.1 x.2) (b,1))
   (Ar (IntKind.wrap .i64 (b + 1)) fun p=>
   d p))
  (Q a)
def zu (a:Sl) (Q:Sl→K): K :=
 Ite (decide ((a.n:Int) < 2))
  (Q a)
  (yJ (α:=Int) (fun X x=>zu.b1 Q X a x) 1)
theorem zEu (i Q w) (h:zu i Q w):zu.call i Q w:=by
 have:∀ a,XH 4 a→∀ j,XH 9 j→JH 10 fun D=>∃ d f g,D [(0,Sl.val d),(4,Sl.val f),(5,.int .i64 g)] (fun C=>∀ k,C [(0,Sl.val d),(3,.int .i64 k),(4,Sl.val f),(5,.int .i64 g)] (zu.s3 Q a (fun b c=>j (b,c)) d k f g)):=by intros; exact ⟨fun _ ⟨_,_,_,h⟩=>⟨_,_,h⟩⟩
 have:∀ a,XH 4 a→∀ l m,LH 9 (fun x:Int×Int=>[(0,Sl.val l),(3,.int .i64 x.1),(4,Sl.val m),(5,.int .i64 x.2)]) (fun X x=>zu.b2 Q a (fun b c=>X (b,c)) l m x.1 x.2):=by intros; exact ⟨⟩
 have:∀ n,LH 4 (fun x:Int=>[(0,Sl.val n),(3,.int .i64 x)]) (fun X x=>zu.b1 Q X n x):=fun _=>⟨⟩
 exact zM 61 h Tryz.func51
def yV.s2 (Q:Sl→K) (b:Int→Int→K) (f:Sl) (g:Value) (c d:Int): K :=
 Ar (IntKind.wrap .i64 (d + 1)) fun a=>
 b c a
def yV.b1 (Q:Sl→K) (j:Int→Int→K) (a:Sl) (g:Value) (b d:Int): K :=
 Ite (decide (d < (a.n:Int)))
  (Idx a d 1 fun k=>
  Ld k (Value.int .i64) fun i=>
  uF Tryz.prog g [.int .i64 i] <| yO (fun (f:Bool)=>Value.bool f) fun f=>
  Ite (!f)
   (Idx a b 1 fun l=>
   St l (.int .i64 i)<|
   Ar (IntKind.wrap .i64 (b + 1)) fun m=>
   yV.s2 Q j a g m d)
   (yV.s2 Q j a g b d))
  (Slc a b (a.n:Int) (a.c:Int) 1 fun o=>
  Do Tryz.prog (Builtin.clear_ #[42] 0 #[Sl.val o]) id fun _=>
  Slc a 0 b (a.c:Int) 1 fun p=>
  Q p)
def yV (b:Sl) (c:Value) (Q:Sl→K): K :=
 qx.call b c fun a=>
 Ite (decide (a = (-1)))
  (Q b)
  (Ar (IntKind.wrap .i64 (a + 1)) fun d=>
  yJ (α:=Int×Int) (fun X x=>yV.b1 Q (fun f g=>X (f,g)) b c x.1 x.2) (a,d))
theorem zD9 (g i Q w) (h:yV g i Q w):yV.call g i Q w:=by
 have:∀ j,XH 5 j→JH 6 fun D=>∃ c d f,D [(0,Sl.val c),(1,d),(6,.int .i64 f)] (fun C=>∀ k,C [(0,Sl.val c),(1,d),(5,.int .i64 k),(6,.int .i64 f)] (yV.s2 Q (fun a b=>j (a,b)) c d k f)):=by intros; exact ⟨fun _ ⟨_,_,_,h⟩=>⟨_,_,h⟩⟩
 have:∀ l m,LH 5 (fun x:Int×Int=>[(0,Sl.val l),(1,m),(5,.int .i64 x.1),(6,.int .i64 x.2)]) (fun X x=>yV.b1 Q (fun a b=>X (a,b)) l m x.1 x.2):=fun _ _=>⟨⟩
 exact zM 42 h Tryz.func60
def xZ (b:Sl) (c:Int) (Q:Bool→K): K :=
 xH.call b c fun a=>
 Q (decide ((0:Int) ≤ a))
theorem zEg (a b Q w) (h:xZ a b Q w):xZ.call a b Q w:=by
 exact zM 9 h Tryz.func93
def yX.b1 (Q g:Int→K) (i:Sl) (j:Value) (k a:Int): K :=
 Ite (decide (a < k))
  (Idx i a 1 fun c=>
  Ld c Value.pointer fun d=>
  uF Tryz.prog j [.pointer d] <| yO (fun (b:Bool)=>Value.bool b) fun b=>
  Ite b
   (Q a)
   (Ar (IntKind.wrap .i64 (a + 1)) fun f=>
   g f))
  (Q (-1))
def yX (a:Sl) (b:Value) (Q:Int→K): K :=
 yJ (α:=Int) (fun X x=>yX.b1 Q X a b (a.n:Int) x) 0
theorem jd (a b Q w) (h:yX a b Q w):yX.call a b Q w:=by
 have:∀ c d f,LH 2 (fun x:Int=>[(0,Sl.val c),(1,d),(7,.int .i64 f),(8,.int .i64 x)]) (fun X x=>yX.b1 Q X c d f x):=fun _ _ _=>⟨⟩
 exact zM 19 h Tryz.func95
def xI (a:Sl) (d f:Int) (Q:Sl→K): K :=
 Slc a d f (a.n:Int) 1 fun k=>
 Ite (decide (d = f))
  (Q a)
  (Dr<|
  Slc a 0 d (a.c:Int) 1 fun g=>
  Slc a f (a.n:Int) (a.c:Int) 1 fun i=>
  Do Tryz.prog (Builtin.append_ #[133,133] 133 #[Sl.val g,Sl.val i]) Sl.val fun b=>
  Slc b (b.n:Int) (a.n:Int) (b.c:Int) 1 fun j=>
  Do Tryz.prog (Builtin.clear_ #[133] 0 #[Sl.val j]) id fun _=>
  Q b)
theorem zCN (b c d Q w) (h:xI b c d Q w):xI.call b c d Q w:=by
 have:DH 5 0 [] (.s [0,1,2,3,4,5] (.a [(6,0,.s [7] .e)])):=⟨⟩
 exact zM 33 h Tryz.func100
def q9 (b:Sl) (Q:Sl→K): K :=
 Ite ((b).a.isNone)
  (Q (Sl.mk none 0 0))
  (New 84 #[] fun c=>
  Do Tryz.prog (Builtin.append_ #[38,38] 38 #[(Sl.val (Sl.mk (some c) 0 0)),Sl.val b]) Sl.val fun d=>
  Q d)
theorem zCy (a Q w) (h:q9 a Q w):q9.call a Q w:=by
 exact zM 8 h Tryz.func102
def qx.b1 (Q g:Int→K) (i:Sl) (j:Value) (k a:Int): K :=
 Ite (decide (a < k))
  (Idx i a 1 fun c=>
  Ld c (Value.int .i64) fun d=>
  uF Tryz.prog j [.int .i64 d] <| yO (fun (b:Bool)=>Value.bool b) fun b=>
  Ite b
   (Q a)
   (Ar (IntKind.wrap .i64 (a + 1)) fun f=>
   g f))
  (Q (-1))
def qx (a:Sl) (b:Value) (Q:Int→K): K :=
 yJ (α:=Int) (fun X x=>qx.b1 Q X a b (a.n:Int) x) 0
theorem zER (a b Q w) (h:qx a b Q w):qx.call a b Q w:=by
 have:∀ c d f,LH 2 (fun x:Int=>[(0,Sl.val c),(1,d),(7,.int .i64 f),(8,.int .i64 x)]) (fun X x=>qx.b1 Q X c d f x):=fun _ _ _=>⟨⟩
 exact zM 19 h Tryz.func103
def yG (b:Sl) (c:Value) (Q:Bool→K): K :=
 zV.call b c fun a=>
 Q (decide ((0:Int) ≤ a))
theorem zA4 (a b Q w) (h:yG a b Q w):yG.call a b Q w:=by
 exact zM 9 h Tryz.func105
def xJ (b:Sl) (c:Value) (Q:Bool→K): K :=
 qW.call b c fun a=>
 Q (decide ((0:Int) ≤ a))
theorem zCO (a b Q w) (h:xJ a b Q w):xJ.call a b Q w:=by
 exact zM 9 h Tryz.func117
def xA (b:Sl) (Q:Sl→K): K :=
 Ite ((b).a.isNone)
  (Q (Sl.mk none 0 0))
  (New 9 #[] fun c=>
  Do Tryz.prog (Builtin.append_ #[22,22] 22 #[(Sl.val (Sl.mk (some c) 0 0)),Sl.val b]) Sl.val fun d=>
  Q d)
theorem zDu (a Q w) (h:xA a Q w):xA.call a Q w:=by
 exact zM 8 h Tryz.func118
def xw (b:Sl) (Q:Sl→K): K :=
 Ite ((b).a.isNone)
  (Q (Sl.mk none 0 0))
  (New 123 #[] fun c=>
  Do Tryz.prog (Builtin.append_ #[23,23] 23 #[(Sl.val (Sl.mk (some c) 0 0)),Sl.val b]) Sl.val fun d=>
  Q d)
theorem zDv (a Q w) (h:xw a Q w):xw.call a Q w:=by
 exact zM 8 h Tryz.func119
def uy (b:Sl) (Q:Sl→K): K :=
 Ite ((b).a.isNone)
  (Q (Sl.mk none 0 0))
  (New 5 #[] fun c=>
  Do Tryz.prog (Builtin.append_ #[85,85] 85 #[(Sl.val (Sl.mk (some c) 0 0)),Sl.val b]) Sl.val fun d=>
  Q d)
theorem zEv (a Q w) (h:uy a Q w):uy.call a Q w:=by
 exact zM 8 h Tryz.func150
def zW.s2 (Q:Sl→K) (b:Int→Int→K) (f:Sl) (c:Int) (g:Sl) (i d:Int): K :=
 Ar (IntKind.wrap .i64 (d + 1)) fun a=>
 b c a
def zW.b3 (Q:Sl→K) (l:Int→Int→K) (i:Sl→Int→K) (j:Sl) (k:Int) (b:Sl) (a:Int): K :=
 Ite (decide (a < k))
  (Idx j a 1 fun c=>
  Ld c Sl.val fun d=>
  Do Tryz.prog (Builtin.append_ #[22,22] 22 #[Sl.val b,Sl.val d]) Sl.val fun f=>
  Ar (IntKind.wrap .i64 (a + 1)) fun g=>
  i f g)
  (Q b)
def zW.b1 (Q:Sl→K) (d:Int→Int→K) (a f:Sl) (g i b:Int): K :=
 Ite (decide (b < g))
  (Idx f b 1 fun j=>
  Ld j Sl.val fun k=>
  Ar (IntKind.wrap .i64 (i + (k.n:Int))) fun c=>
  Ite (decide (c < 0))
   (Rd Tryz.prog (Instr.makeInterface 9 (.string ⟨#[108,101,110,32,111,117,116,32,111,102,32,114,97,110,103,101]⟩)) id fun p=>
   Dead)
   (zW.s2 Q d a c f g b))
  (yE.call (Sl.mk none 0 0) i fun l=>
  yJ (α:=Sl×Int) (fun X x=>zW.b3 Q d (fun m o=>X (m,o)) a (a.n:Int) x.1 x.2) (l,0))
def zW (a:Sl) (Q:Sl→K): K :=
 yJ (α:=Int×Int) (fun X x=>zW.b1 Q (fun b c=>X (b,c)) a a (a.n:Int) x.1 x.2) (0,0)
theorem zDg (j Q w) (h:zW j Q w):zW.call j Q w:=by
 have:∀ c,XH 3 c→JH 8 fun D=>∃ d f g i,D [(0,Sl.val d),(9,Sl.val f),(10,.int .i64 g),(11,.int .i64 i)] (fun C=>∀ k,C [(0,Sl.val d),(3,.int .i64 k),(9,Sl.val f),(10,.int .i64 g),(11,.int .i64 i)] (zW.s2 Q (fun a b=>c (a,b)) d k f g i)):=by intros; exact ⟨fun _ ⟨_,_,_,_,h⟩=>⟨_,_,h⟩⟩
 have:∀ c,XH 3 c→∀ l m,LH 11 (fun x:Sl×Int=>[(6,Sl.val x.1),(25,Sl.val l),(26,.int .i64 m),(27,.int .i64 x.2)]) (fun X x=>zW.b3 Q (fun a b=>c (a,b)) (fun q r=>X (q,r)) l m x.1 x.2):=by intros; exact ⟨⟩
 have:∀ n o p,LH 3 (fun x:Int×Int=>[(0,Sl.val n),(3,.int .i64 x.1),(9,Sl.val o),(10,.int .i64 p),(11,.int .i64 x.2)]) (fun X x=>zW.b1 Q (fun a b=>X (a,b)) n o p x.1 x.2):=fun _ _ _=>⟨⟩
 exact zM 36 h Tryz.func151
def uH (a:Sl) (Q:K): K :=
 Ar (IntKind.wrap .u64 (a.n:Int)) fun b=>
 zIW.call b fun c=>
 zEe.call a 0 (a.n:Int) c<|
 Q
def zS.s3 (Q:Sl→K) (f:Int→K) (b:Int→Int→K) (g:Sl) (c:Int) (i:Sl) (d:Int): K :=
 Ar (IntKind.wrap .i64 (d + 1)) fun a=>
 b c a
def zS.b2 (Q:Sl→K) (g:Int→K) (i:Int→Int→K) (a b:Sl) (f d:Int): K :=
 Ite (decide (d < (b.n:Int)))
  (Dr<|
  Idx b d 1 fun j=>
  Ld j Value.string fun k=>
  Ar (IntKind.wrap .i64 (d - 1)) fun l=>
  Idx b l 1 fun m=>
  Ld m Value.string fun o=>
  Ite (!(k.toList == o.toList))
   (Idx b d 1 fun p=>
   Ld p Value.string fun q=>
   Idx a f 1 fun r=>
   St r (.string q)<|
   Ar (IntKind.wrap .i64 (f + 1)) fun s=>
   zS.s3 Q g i a s b d)
   (zS.s3 Q g i a f b d))
  (Slc a f (a.n:Int) (a.c:Int) 1 fun t=>
  Do Tryz.prog (Builtin.clear_ #[22] 0 #[Sl.val t]) id fun _=>
  Slc a 0 f (a.c:Int) 1 fun u=>
  Q u)
def zS.b1 (Q:Sl→K) (d:Int→K) (a:Sl) (b:Int): K :=
 Ite (decide (b < (a.n:Int)))
  (Dr<|
  Idx a b 1 fun f=>
  Ld f Value.string fun g=>
  Ar (IntKind.wrap .i64 (b - 1)) fun i=>
  Idx a i 1 fun j=>
  Ld j Value.string fun k=>
  Ite (g.toList == k.toList)
   (Slc a b (a.n:Int) (a.c:Int) 1 fun l=>
   yJ (α:=Int×Int) (fun X x=>zS.b2 Q d (fun m o=>X (m,o)) a l x.1 x.2) (b,1))
   (Ar (IntKind.wrap .i64 (b + 1)) fun p=>
   d p))
  (Q a)
def zS (a:Sl) (Q:Sl→K): K :=
 Ite (decide ((a.n:Int) < 2))
  (Q a)
  (yJ (α:=Int) (fun X x=>zS.b1 Q X a x) 1)
theorem zDS (i Q w) (h:zS i Q w):zS.call i Q w:=by
 have:∀ a,XH 4 a→∀ j,XH 9 j→JH 10 fun D=>∃ d f g,D [(0,Sl.val d),(4,Sl.val f),(5,.int .i64 g)] (fun C=>∀ k,C [(0,Sl.val d),(3,.int .i64 k),(4,Sl.val f),(5,.int .i64 g)] (zS.s3 Q a (fun b c=>j (b,c)) d k f g)):=by intros; exact ⟨fun _ ⟨_,_,_,h⟩=>⟨_,_,h⟩⟩
 have:∀ a,XH 4 a→∀ l m,LH 9 (fun x:Int×Int=>[(0,Sl.val l),(3,.int .i64 x.1),(4,Sl.val m),(5,.int .i64 x.2)]) (fun X x=>zS.b2 Q a (fun b c=>X (b,c)) l m x.1 x.2):=by intros; exact ⟨⟩
 have:∀ n,LH 4 (fun x:Int=>[(0,Sl.val n),(3,.int .i64 x)]) (fun X x=>zS.b1 Q X n x):=fun _=>⟨⟩
 exact zM 61 h Tryz.func153
def xH.b1 (Q f:Int→K) (g:Sl) (i j a:Int): K :=
 Ite (decide (a < j))
  (Idx g a 1 fun b=>
  Ld b (Value.int .i64) fun c=>
  Ite (decide (i = c))
   (Q a)
   (Ar (IntKind.wrap .i64 (a + 1)) fun d=>
   f d))
  (Q (-1))
def xH (a:Sl) (b:Int) (Q:Int→K): K :=
 yJ (α:=Int) (fun X x=>xH.b1 Q X a b (a.n:Int) x) 0
theorem zFN (a b Q w) (h:xH a b Q w):xH.call a b Q w:=by
 have:∀ c d f,LH 2 (fun x:Int=>[(0,Sl.val c),(1,.int .i64 d),(7,.int .i64 f),(8,.int .i64 x)]) (fun X x=>xH.b1 Q X c d f x):=fun _ _ _=>⟨⟩
 exact zM 19 h Tryz.func154
def zV.b1 (Q g:Int→K) (i:Sl) (j:Value) (k a:Int): K :=
 Ite (decide (a < k))
  (Idx i a 7 fun c=>
  LdN c 7 fun d=>
  uF Tryz.prog j [.agg d] <| yO (fun (b:Bool)=>Value.bool b) fun b=>
  Ite b
   (Q a)
   (Ar (IntKind.wrap .i64 (a + 1)) fun f=>
   g f))
  (Q (-1))
def zV (a:Sl) (b:Value) (Q:Int→K): K :=
 yJ (α:=Int) (fun X x=>zV.b1 Q X a b (a.n:Int) x) 0
theorem vJ (a b Q w) (h:zV a b Q w):zV.call a b Q w:=by
 have:∀ c d f,LH 2 (fun x:Int=>[(0,Sl.val c),(1,d),(7,.int .i64 f),(8,.int .i64 x)]) (fun X x=>zV.b1 Q X c d f x):=fun _ _ _=>⟨⟩
 exact zM 19 h Tryz.func155
def xK (b:Sl) (c:Value) (Q:Bool→K): K :=
 qX.call b c fun a=>
 Q (decide ((0:Int) ≤ a))
theorem zCP (a b Q w) (h:xK a b Q w):xK.call a b Q w:=by
 exact zM 9 h Tryz.func169
def qD (b:Sl) (c:ByteArray) (Q:Bool→K): K :=
 qF.call b c fun a=>
 Q (decide ((0:Int) ≤ a))
theorem zDK (a b Q w) (h:qD a b Q w):qD.call a b Q w:=by
 exact zM 9 h Tryz.func171
def qW.b1 (Q g:Int→K) (i:Sl) (j:Value) (k a:Int): K :=
 Ite (decide (a < k))
  (Idx i a 4 fun c=>
  LdN c 4 fun d=>
  uF Tryz.prog j [.agg d] <| yO (fun (b:Bool)=>Value.bool b) fun b=>
  Ite b
   (Q a)
   (Ar (IntKind.wrap .i64 (a + 1)) fun f=>
   g f))
  (Q (-1))
def qW (a:Sl) (b:Value) (Q:Int→K): K :=
 yJ (α:=Int) (fun X x=>qW.b1 Q X a b (a.n:Int) x) 0
theorem zCz (a b Q w) (h:qW a b Q w):qW.call a b Q w:=by
 have:∀ c d f,LH 2 (fun x:Int=>[(0,Sl.val c),(1,d),(7,.int .i64 f),(8,.int .i64 x)]) (fun X x=>qW.b1 Q X c d f x):=fun _ _ _=>⟨⟩
 exact zM 19 h Tryz.func172
def yE.s2 (Q:Sl→K) (a:Sl): K :=
 Q a
def yE.s1 (Q:Sl→K) (a:Sl) (l:Int): K :=
 Do Tryz.prog (Builtin.cap_ #[22] 3 #[Sl.val a]) (Value.int .i64) fun f=>
 Ar (IntKind.wrap .i64 (f - (a.n:Int))) fun g=>
 Ar (IntKind.wrap .i64 (l - g)) fun b=>
 Ite (decide ((0:Int) < b))
  (Do Tryz.prog (Builtin.cap_ #[22] 3 #[Sl.val a]) (Value.int .i64) fun i=>
  Slc a 0 i (a.c:Int) 1 fun j=>
  Do Tryz.prog (Builtin.append_ #[22,3] 22 #[Sl.val j,.int .i64 b]) Sl.val fun d=>
  Slc d 0 (a.n:Int) (d.c:Int) 1 fun k=>
  yE.s2 Q k)
  (yE.s2 Q a)
def yE (b:Sl) (a:Int) (Q:Sl→K): K :=
 Ite (decide (a < 0))
  (Rd Tryz.prog (Instr.makeInterface 9 (.string ⟨#[99,97,110,110,111,116,32,98,101,32,110,101,103,97,116,105,118,101]⟩)) id fun c=>
  Dead)
  (yE.s1 Q b a)
theorem zEA (c d Q w) (h:yE c d Q w):yE.call c d Q w:=by
 have:JH 6 fun D=>D [] (fun C=>∀ f,C [(0,Sl.val f)] (yE.s2 Q f)):=⟨fun _ h=>⟨_,_,h⟩⟩
 have:JH 3 fun D=>∃ a b,D [(0,Sl.val a),(1,.int .i64 b)] (fun C=>C [(0,Sl.val a),(1,.int .i64 b)] (yE.s1 Q a b)):=⟨fun _ ⟨_,_,h⟩=>⟨_,_,h⟩⟩
 exact zM 27 h Tryz.func190
def zJ.s2 (Q:Sl→K) (b:Int→Int→K) (f:Sl) (g:Value) (c d:Int): K :=
 Ar (IntKind.wrap .i64 (d + 1)) fun a=>
 b c a
def zJ.b1 (Q:Sl→K) (j:Int→Int→K) (a:Sl) (i:Value) (b d:Int): K :=
 Ite (decide (d < (a.n:Int)))
  (Idx a d 7 fun k=>
  LdN k 7 fun l=>
  New 224 #[.int .i64 0,.int .u64 0,.int .u64 0,.int .i64 0,(.string ⟨#[]⟩),.int .i64 0,.int .u64 0] fun f=>
  StN f 7 l<|
  LdN f 7 fun m=>
  uF Tryz.prog i [.agg m] <| yO (fun (g:Bool)=>Value.bool g) fun g=>
  Ite (!g)
   (LdN f 7 fun o=>
   Idx a b 7 fun p=>
   StN p 7 o<|
   Ar (IntKind.wrap .i64 (b + 1)) fun q=>
   zJ.s2 Q j a i q d)
   (zJ.s2 Q j a i b d))
  (Slc a b (a.n:Int) (a.c:Int) 7 fun r=>
  Do Tryz.prog (Builtin.clear_ #[222] 0 #[Sl.val r]) id fun _=>
  Slc a 0 b (a.c:Int) 7 fun s=>
  Q s)
def zJ (b:Sl) (c:Value) (Q:Sl→K): K :=
 zV.call b c fun a=>
 Ite (decide (a = (-1)))
  (Q b)
  (Ar (IntKind.wrap .i64 (a + 1)) fun d=>
  yJ (α:=Int×Int) (fun X x=>zJ.b1 Q (fun f g=>X (f,g)) b c x.1 x.2) (a,d))
theorem u7 (g i Q w) (h:zJ g i Q w):zJ.call g i Q w:=by
 have:∀ j,XH 5 j→JH 6 fun D=>∃ c d f,D [(0,Sl.val c),(1,d),(6,.int .i64 f)] (fun C=>∀ k,C [(0,Sl.val c),(1,d),(5,.int .i64 k),(6,.int .i64 f)] (zJ.s2 Q (fun a b=>j (a,b)) c d k f)):=by intros; exact ⟨fun _ ⟨_,_,_,h⟩=>⟨_,_,h⟩⟩
 have:∀ l m,LH 5 (fun x:Int×Int=>[(0,Sl.val l),(1,m),(5,.int .i64 x.1),(6,.int .i64 x.2)]) (fun X x=>zJ.b1 Q (fun a b=>X (a,b)) l m x.1 x.2):=fun _ _=>⟨⟩
 exact zM 42 h Tryz.func192
def jL (b:Value) (Q:Sl→K): K :=
 uj.call b fun a=>
 uH.call a<|
 Q a
theorem zFo (a Q w) (h:jL a Q w):jL.call a Q w:=by
 exact zM 9 h Tryz.func195
def qX.b1 (Q g:Int→K) (i:Sl) (j:Value) (k a:Int): K :=
 Ite (decide (a < k))
  (Idx i a 1 fun c=>
  Ld c Value.string fun d=>
  uF Tryz.prog j [.string d] <| yO (fun (b:Bool)=>Value.bool b) fun b=>
  Ite b
   (Q a)
   (Ar (IntKind.wrap .i64 (a + 1)) fun f=>
   g f))
  (Q (-1))
def qX (a:Sl) (b:Value) (Q:Int→K): K :=
 yJ (α:=Int) (fun X x=>qX.b1 Q X a b (a.n:Int) x) 0
theorem zC0 (a b Q w) (h:qX a b Q w):qX.call a b Q w:=by
 have:∀ c d f,LH 2 (fun x:Int=>[(0,Sl.val c),(1,d),(7,.int .i64 f),(8,.int .i64 x)]) (fun X x=>qX.b1 Q X c d f x):=fun _ _ _=>⟨⟩
 exact zM 19 h Tryz.func202
def qF.b1 (Q f:Int→K) (g:Sl) (i:ByteArray) (j a:Int): K :=
 Ite (decide (a < j))
  (Idx g a 1 fun b=>
  Ld b Value.string fun c=>
  Ite (i.toList == c.toList)
   (Q a)
   (Ar (IntKind.wrap .i64 (a + 1)) fun d=>
   f d))
  (Q (-1))
def qF (a:Sl) (b:ByteArray) (Q:Int→K): K :=
 yJ (α:=Int) (fun X x=>qF.b1 Q X a b (a.n:Int) x) 0
theorem zDw (a b Q w) (h:qF a b Q w):qF.call a b Q w:=by
 have:∀ c d f,LH 2 (fun x:Int=>[(0,Sl.val c),(1,.string d),(7,.int .i64 f),(8,.int .i64 x)]) (fun X x=>qF.b1 Q X c d f x):=fun _ _ _=>⟨⟩
 exact zM 19 h Tryz.func203
def uj (b:Value) (Q:Sl→K): K :=
 vD.call (Sl.mk none 0 0) b fun a=>
 Q a
theorem zFX (a Q w) (h:uj a Q w):uj.call a Q w:=by
 exact zM 5 h Tryz.func227
def vD (k:Sl) (l:Value) (Q:Sl→K): K :=
 New 22 #[Sl.val k] fun a=>
 jg Tryz.prog l Value.string (fun b c=>
  Ld a Sl.val fun d=>
  New 9 #[.string c] fun f=>
  Do Tryz.prog (Builtin.append_ #[22,22] 22 #[Sl.val d,(Sl.val (Sl.mk (some f) 1 1))]) Sl.val fun g=>
  St a (Sl.val g)<|
  b)
 fun i=>
 Ld a Sl.val fun j=>
 jm i<|
 Q j
theorem zC1 (a b Q w) (h:vD a b Q w):vD.call a b Q w:=by
 exact zM 13 h Tryz.func241
instance:AT Tryz.prog 25 5:=⟨by kernel_rfl⟩
instance:CB Tryz.prog 120:=⟨by kernel_rfl⟩
instance:CB Tryz.prog 43:=⟨by kernel_rfl⟩
instance:CB Tryz.prog 44:=⟨by kernel_rfl⟩
instance:CB Tryz.prog 45:=⟨by kernel_rfl⟩
instance:CT Tryz.prog 2:=⟨by kernel_rfl⟩
instance:CT Tryz.prog 23:=⟨by kernel_rfl⟩
instance:FT Tryz.prog 123 0 0 1:=⟨by kernel_rfl⟩
instance:FT Tryz.prog 123 1 1 1:=⟨by kernel_rfl⟩
instance:FT Tryz.prog 123 2 2 1:=⟨by kernel_rfl⟩
instance:FT Tryz.prog 123 3 3 1:=⟨by kernel_rfl⟩
instance:FT Tryz.prog 25 0 0 1:=⟨by kernel_rfl⟩
instance:FT Tryz.prog 25 1 1 1:=⟨by kernel_rfl⟩
instance:FT Tryz.prog 25 2 2 1:=⟨by kernel_rfl⟩
instance:FT Tryz.prog 25 3 3 1:=⟨by kernel_rfl⟩
instance:FT Tryz.prog 25 4 4 1:=⟨by kernel_rfl⟩
instance:PLT Tryz.prog 25 [(0,1),(1,1),(2,1),(3,1),(4,1)]:=⟨_,Tryz.underlying25,by kernel_rfl⟩
instance:SZ Tryz.prog 123 4:=⟨by kernel_rfl⟩
instance:SZ Tryz.prog 23 1:=⟨by kernel_rfl⟩
instance:SZ Tryz.prog 25 5:=⟨by kernel_rfl⟩
instance:ZT Tryz.prog 25 (.agg #[(.int .i64 0),(Sl.val ⟨none,0,0⟩),(Sl.val ⟨none,0,0⟩),(Sl.val ⟨none,0,0⟩),(.int .i64 0)]):=⟨Tryz.t25,by kernel_rfl,by kernel_rfl⟩
def yj.s5 (Q:Bool→K) (f g b:Int→K) (i:Addr) (c:Int) (d:Bool): K :=
 Ite d
  (Q true)
  (Ar (IntKind.wrap .i64 (c + 1)) fun a=>
  b a)
def yj.b4 (Q:Bool→K) (c d f:Int→K) (a:Addr) (b:Int): K :=
 Ld (a.add 3) Sl.val fun g=>
 Ite (decide (b < (g.n:Int)))
  (Ld (a.add 3) Sl.val fun i=>
  Idx i b 4 fun j=>
  Ld (j.add 1) Value.string fun k=>
  Ite (decide ((200:Int) < (k.size:Int)))
   (yj.s5 Q c d f a b true)
   (Ld (a.add 3) Sl.val fun l=>
   Idx l b 4 fun m=>
   Ld (m.add 2) Sl.val fun o=>
   yj.s5 Q c d f a b (decide ((200:Int) < (o.n:Int)))))
  (Q false)
def yj.b3 (Q:Bool→K) (k c:Int→K) (a:Addr) (b:Int): K :=
 Ld (a.add 2) Sl.val fun d=>
 Ite (decide (b < (d.n:Int)))
  (Ld (a.add 2) Sl.val fun f=>
  Idx f b 1 fun g=>
  Ld g Value.string fun i=>
  Ite (decide ((200:Int) < (i.size:Int)))
   (Q true)
   (Ar (IntKind.wrap .i64 (b + 1)) fun j=>
   c j))
  (yJ (α:=Int) (fun X x=>yj.b4 Q k c X a x) 0)
def yj.b2 (Q:Bool→K) (c:Int→K) (a:Addr) (b:Int): K :=
 Ld (a.add 1) Sl.val fun d=>
 Ite (decide (b < (d.n:Int)))
  (Ld (a.add 1) Sl.val fun f=>
  Idx f b 1 fun g=>
  Ld g Value.string fun i=>
  Ite (decide ((200:Int) < (i.size:Int)))
   (Q true)
   (Ar (IntKind.wrap .i64 (b + 1)) fun j=>
   c j))
  (yJ (α:=Int) (fun X x=>yj.b3 Q c X a x) 0)
def yj.s1 (Q:Bool→K) (a:Addr) (b:Bool): K :=
 Ite b
  (Q true)
  (yJ (α:=Int) (fun X x=>yj.b2 Q X a x) 0)
def yj (f:Av) (Q:Bool→K): K :=
 New 25 f fun a=>
 Ld (a.add 1) Sl.val fun b=>
 Ite (decide ((40:Int) < (b.n:Int)))
  (yj.s1 Q a true)
  (Ld (a.add 2) Sl.val fun c=>
  Ite (decide ((40:Int) < (c.n:Int)))
   (yj.s1 Q a true)
   (Ld (a.add 3) Sl.val fun d=>
   yj.s1 Q a (decide ((60:Int) < (d.n:Int)))))
theorem zMb (g Q w) (h:yj g Q w):yj.call g Q w:=by
 have:∀ a,XH 4 a→∀ b,XH 9 b→∀ i,XH 14 i→JH 17 fun D=>∃ c d,D [(1,(.pointer (some c))),(5,.int .i64 d)] (fun C=>∀ j,C [(1,(.pointer (some c))),(5,.int .i64 d),(74,.bool j)] (yj.s5 Q a b i c d j)):=by intros; exact ⟨fun _ ⟨_,_,h⟩=>⟨_,_,h⟩⟩
 have:∀ a,XH 4 a→∀ b,XH 9 b→∀ k,LH 14 (fun x:Int=>[(1,(.pointer (some k))),(5,.int .i64 x)]) (fun X x=>yj.b4 Q a b X k x):=by intros; exact ⟨⟩
 have:∀ a,XH 4 a→∀ l,LH 9 (fun x:Int=>[(1,(.pointer (some l))),(4,.int .i64 x)]) (fun X x=>yj.b3 Q a X l x):=by intros; exact ⟨⟩
 have:∀ m,LH 4 (fun x:Int=>[(1,(.pointer (some m))),(3,.int .i64 x)]) (fun X x=>yj.b2 Q X m x):=fun _=>⟨⟩
 have:JH 2 fun D=>∃ f,D [(1,(.pointer (some f)))] (fun C=>∀ n,C [(1,(.pointer (some f))),(21,.bool n)] (yj.s1 Q f n)):=⟨fun _ ⟨_,h⟩=>⟨_,_,h⟩⟩
 exact zM 75 h Tryz.func9
def zo.s3 (Q:Bool→K) (b:Int→K) (f:Int) (g:Addr) (i:Sl) (c:Int) (d:Bool): K :=
 Ite d
  (Q false)
  (Ar (IntKind.wrap .i64 (c + 1)) fun a=>
  b a)
def zo.s4 (Q:Bool→K) (b:Int→K) (a:Bool): K :=
 Q a
def zo.b6 (Q:Bool→K) (m l:Int→K) (a:Addr) (b:Int): K :=
 Ld (a.add 3) Sl.val fun c=>
 Ite (decide (b < (c.n:Int)))
  (Dr<|
  LdN a 5 fun d=>
  Ld (a.add 3) Sl.val fun f=>
  Idx f b 4 fun g=>
  LdN g 4 fun i=>
  qR.call d i fun j=>
  Ite (!j)
   (Q false)
   (Ar (IntKind.wrap .i64 (b + 1)) fun k=>
   l k))
  (Q true)
def zo.s5 (Q:Bool→K) (a:Int→K) (b:Addr) (c:Bool): K :=
 Ite c
  (Q false)
  (yJ (α:=Int) (fun X x=>zo.b6 Q a X b x) 0)
def zo.b2 (Q:Bool→K) (b:Int→K) (f:Int) (a:Addr) (d:Sl) (c:Int): K :=
 Ite (decide (c < (d.n:Int)))
  (Dr<|
  Idx d c 1 fun g=>
  Ld g Value.string fun i=>
  Ite (decide ((i.size:Int) < 1))
   (zo.s3 Q b f a d c true)
   (Idx d c 1 fun j=>
   Ld j Value.string fun k=>
   Ite (decide ((16:Int) < (k.size:Int)))
    (zo.s3 Q b f a d c true)
    (Ld (a.add 1) Sl.val fun l=>
    Ite (decide (c < (l.n:Int)))
     (Idx d c 1 fun m=>
     Ld (a.add 2) Sl.val fun o=>
     Ld m Value.string fun p=>
     zBc.call o p fun q=>
     zo.s3 Q b f a d c q)
     (zo.s3 Q b f a d c false))))
  (Ld a (Value.int .i64) fun r=>
  Ite (decide (r = 2))
   (Ld (a.add 1) Sl.val fun s=>
   Ite (decide ((s.n:Int) = 0))
    (Ld (a.add 3) Sl.val fun t=>
    Ite (decide ((t.n:Int) = 0))
     (Ld (a.add 2) Sl.val fun u=>
     Ite (decide ((u.n:Int) = 1))
      (Ld (a.add 4) (Value.int .i64) fun v=>
      Ite (decide ((0:Int) ≤ v))
       (Ld (a.add 4) (Value.int .i64) fun x=>
       zo.s4 Q b (decide (x < f)))
       (zo.s4 Q b false))
      (zo.s4 Q b false))
     (zo.s4 Q b false))
    (zo.s4 Q b false))
   (Ld a (Value.int .i64) fun y=>
   Ite (decide (y ≠ 1))
    (zo.s5 Q b a true)
    (Ld (a.add 4) (Value.int .i64) fun z=>
    Ite (decide (z ≠ 0))
     (zo.s5 Q b a true)
     (Ld (a.add 3) Sl.val fun aa=>
     zo.s5 Q b a (decide ((16:Int) < (aa.n:Int)))))))
def zo.s1 (Q:Bool→K) (i:Int) (a:Addr) (j:Bool): K :=
 Ite j
  (Q false)
  (Dr <| yh fun S=>
  LdS S (a.add 1) Sl.val fun b=>
  LdS S (a.add 2) Sl.val fun c=>
  New 9 #[] fun d=>
  Sv S<|
  Do Tryz.prog (Builtin.append_ #[22,22] 22 #[(Sl.val (Sl.mk (some d) 0 0)),Sl.val b]) Sl.val fun f=>
  Sv S<|
  Do Tryz.prog (Builtin.append_ #[22,22] 22 #[Sl.val f,Sl.val c]) Sl.val fun g=>
  yJ (α:=Int) (fun X x=>zo.b2 Q X i a g x) 0)
def zo (o:Av) (b:Int) (Q:Bool→K): K :=
 New 25 o fun a=>
 Ite (decide (b < 1))
  (zo.s1 Q b a true)
  (Ite (decide ((3:Int) < b))
   (zo.s1 Q b a true)
   (Ld (a.add 1) Sl.val fun c=>
   jV.call c fun d=>
   Ite (!d)
    (zo.s1 Q b a true)
    (Ld (a.add 2) Sl.val fun f=>
    jV.call f fun g=>
    Ite (!g)
     (zo.s1 Q b a true)
     (Ld (a.add 1) Sl.val fun i=>
     Ite (decide ((8:Int) < (i.n:Int)))
      (zo.s1 Q b a true)
      (Ld (a.add 2) Sl.val fun j=>
      Ite (decide ((8:Int) < (j.n:Int)))
       (zo.s1 Q b a true)
       (Ld (a.add 1) Sl.val fun k=>
       Ld (a.add 2) Sl.val fun l=>
       Ar (IntKind.wrap .i64 ((k.n:Int) + (l.n:Int))) fun m=>
       zo.s1 Q b a (decide ((8:Int) < m))))))))
theorem zMc (m n Q w) (h:zo m n Q w):zo.call m n Q w:=by
 have:∀ b,XH 5 b→JH 8 fun D=>∃ c d f g,D [(1,.int .i64 c),(2,(.pointer (some d))),(5,Sl.val f),(6,.int .i64 g)] (fun C=>∀ o,C [(1,.int .i64 c),(2,(.pointer (some d))),(5,Sl.val f),(6,.int .i64 g),(90,.bool o)] (zo.s3 Q b c d f g o)):=by intros; exact ⟨fun _ ⟨_,_,_,_,h⟩=>⟨_,_,h⟩⟩
 have:DH 7 1 [27] (.s [0,1,2,3,4,5,6] (.i (.s [7,8,9,10,11,12,13,14,15,16,17,18,19,20,21,22,23,24,25,26,27,28,29] .e) (.s [7,8,9,10,11,12,13,14] (.i (.s [15,16,17,18,19,20,21,22,23,24,25,26,27,28,29] .e) (.s [15,16,17,18,19,20] (.i (.s [21,23,24,25,22,26] (.a [(27,0,.s [28,29] .e)])) (.s [21,22,23,24,25,26,27,28,29] .e))))))):=⟨⟩
 have:∀ b,XH 5 b→JH 1000010 fun D=>D [] (fun C=>∀ p,C [(4,.bool p)] (zo.s4 Q b p)):=by intros; exact ⟨fun _ h=>⟨_,_,h⟩⟩
 have:DH 16 1 [6] (.s [1,3,0,2,4,5] (.a [(6,0,.s [7] .e)])):=⟨⟩
 have:∀ b,XH 5 b→∀ q,LH 14 (fun x:Int=>[(2,(.pointer (some q))),(7,.int .i64 x)]) (fun X x=>zo.b6 Q b X q x):=by intros; exact ⟨⟩
 have:∀ b,XH 5 b→JH 12 fun D=>∃ j,D [(2,(.pointer (some j)))] (fun C=>∀ r,C [(2,(.pointer (some j))),(134,.bool r)] (zo.s5 Q b j r)):=by intros; exact ⟨fun _ ⟨_,h⟩=>⟨_,_,h⟩⟩
 have:∀ t u v,LH 5 (fun x:Int=>[(1,.int .i64 t),(2,(.pointer (some u))),(5,Sl.val v),(6,.int .i64 x)]) (fun X x=>zo.b2 Q X t u v x):=fun _ _ _=>⟨⟩
 have:DH 3 2 [6] (.s [1,4,2,5] (.a [(0,1,.a [(3,1,.a [(6,0,.s [7] .e)])])])):=⟨⟩
 have:JH 2 fun D=>∃ k l,D [(1,.int .i64 k),(2,(.pointer (some l)))] (fun C=>∀ y,C [(1,.int .i64 k),(2,(.pointer (some l))),(47,.bool y)] (zo.s1 Q k l y)):=⟨fun _ ⟨_,_,h⟩=>⟨_,_,h⟩⟩
 exact zM 150 h Tryz.func10
def jV.b1 (Q:Bool→K) (k:Int→K) (b:Sl) (a:Int): K :=
 Ite (decide (a < (b.n:Int)))
  (Dr<|
  Ar (IntKind.wrap .i64 (a - 1)) fun c=>
  Idx b c 1 fun d=>
  Ld d Value.string fun f=>
  Idx b a 1 fun g=>
  Ld g Value.string fun i=>
  Ite (!(Op.bytesLess f.toList i.toList))
   (Q false)
   (Ar (IntKind.wrap .i64 (a + 1)) fun j=>
   k j))
  (Q true)
def jV (a:Sl) (Q:Bool→K): K :=
 yJ (α:=Int) (fun X x=>jV.b1 Q X a x) 1
theorem zLD (a Q w) (h:jV a Q w):jV.call a Q w:=by
 have:∀ b,LH 2 (fun x:Int=>[(0,Sl.val b),(3,.int .i64 x)]) (fun X x=>jV.b1 Q X b x):=fun _=>⟨⟩
 exact zM 20 h Tryz.func43
def zBc.b1 (Q:Bool→K) (g:Int→K) (b:Sl) (i:ByteArray) (a:Int): K :=
 Ite (decide (a < (b.n:Int)))
  (Idx b a 1 fun c=>
  Ld c Value.string fun d=>
  Ite (d.toList == i.toList)
   (Q true)
   (Ar (IntKind.wrap .i64 (a + 1)) fun f=>
   g f))
  (Q false)
def zBc (a:Sl) (b:ByteArray) (Q:Bool→K): K :=
 yJ (α:=Int) (fun X x=>zBc.b1 Q X a b x) 0
theorem zRM (a b Q w) (h:zBc a b Q w):zBc.call a b Q w:=by
 have:∀ c d,LH 2 (fun x:Int=>[(0,Sl.val c),(1,.string d),(5,.int .i64 x)]) (fun X x=>zBc.b1 Q X c d x):=fun _ _=>⟨⟩
 exact zM 18 h Tryz.func44
def qR.s2 (Q:Bool→K) (a:Bool): K :=
 Q a
def qR.s5 (Q:Bool→K) (a:Bool): K :=
 Q a
def qR.s4 (Q:Bool→K) (a:Addr) (f:Bool): K :=
 Ite f
  (Q false)
  (Ld a (Value.int .i64) fun b=>
  Ite (decide (b = 2))
   (qR.s5 Q true)
   (Ld a (Value.int .i64) fun c=>
   Ite (decide (c = 4))
    (qR.s5 Q true)
    (Ld (a.add 2) Sl.val fun d=>
    qR.s5 Q (decide ((d.n:Int) = 0)))))
def qR.s3 (Q:Bool→K) (a:Addr) (d:Bool): K :=
 Ite d
  (Q false)
  (Ld a (Value.int .i64) fun b=>
  Ite (decide (b ≠ 6))
   (Ld (a.add 3) (Value.int .i64) fun c=>
   qR.s4 Q a (decide (c ≠ 0)))
   (qR.s4 Q a false))
def qR.s1 (Q:Bool→K) (b a:Addr) (q:Bool): K :=
 Ite q
  (Q false)
  (Ld a (Value.int .i64) fun c=>
  Ite (decide (c = 7))
   (Ld (a.add 1) Value.string fun d=>
   Ite (d.toList == (⟨#[]⟩:ByteArray).toList)
    (Ld (a.add 3) (Value.int .i64) fun f=>
    qR.s2 Q (decide (f = 0)))
    (qR.s2 Q false))
   (Ld (b.add 2) Sl.val fun g=>
   Ld (a.add 1) Value.string fun i=>
   zBc.call g i fun j=>
   Ite (!j)
    (Ld (b.add 1) Sl.val fun k=>
    Ld (a.add 1) Value.string fun l=>
    zBc.call k l fun m=>
    Ite (!m)
     (qR.s3 Q a true)
     (Ld a (Value.int .i64) fun n=>
     Ite (decide (n = 2))
      (qR.s3 Q a true)
      (Ld a (Value.int .i64) fun o=>
      Ite (decide (o = 3))
       (qR.s3 Q a true)
       (Ld a (Value.int .i64) fun p=>
       qR.s3 Q a (decide (p = 6))))))
    (qR.s3 Q a false)))
def qR (g i:Av) (Q:Bool→K): K :=
 New 25 g fun b=>
 New 123 i fun a=>
 Ld (a.add 2) Sl.val fun c=>
 Ite (decide ((32:Int) < (c.n:Int)))
  (qR.s1 Q b a true)
  (Ld a (Value.int .i64) fun d=>
  Ite (decide (d < 1))
   (qR.s1 Q b a true)
   (Ld a (Value.int .i64) fun f=>
   qR.s1 Q b a (decide ((7:Int) < f))))
theorem zRN (f g Q w) (h:qR f g Q w):qR.call f g Q w:=by
 have:JH 1000004 fun D=>D [] (fun C=>∀ i,C [(4,.bool i)] (qR.s2 Q i)):=⟨fun _ h=>⟨_,_,h⟩⟩
 have:JH 1000009 fun D=>D [] (fun C=>∀ j,C [(4,.bool j)] (qR.s5 Q j)):=⟨fun _ h=>⟨_,_,h⟩⟩
 have:JH 8 fun D=>∃ a,D [(3,(.pointer (some a)))] (fun C=>∀ k,C [(3,(.pointer (some a))),(66,.bool k)] (qR.s4 Q a k)):=⟨fun _ ⟨_,h⟩=>⟨_,_,h⟩⟩
 have:JH 6 fun D=>∃ b,D [(3,(.pointer (some b)))] (fun C=>∀ l,C [(3,(.pointer (some b))),(58,.bool l)] (qR.s3 Q b l)):=⟨fun _ ⟨_,h⟩=>⟨_,_,h⟩⟩
 have:JH 2 fun D=>∃ c d,D [(2,(.pointer (some c))),(3,(.pointer (some d)))] (fun C=>∀ m,C [(2,(.pointer (some c))),(3,(.pointer (some d))),(18,.bool m)] (qR.s1 Q c d m)):=⟨fun _ ⟨_,_,h⟩=>⟨_,_,h⟩⟩
 exact zM 81 h Tryz.func45
def qU.s2 (Q:Sl→K) (b:Sl→Int→K) (c f:Sl) (d:Int): K :=
 Ar (IntKind.wrap .i64 (d + 1)) fun a=>
 b c a
def qU.s4 (Q:Sl→K) (n:Sl→Int→K) (o:Int→K) (a p:Sl) (q b:Int) (r:Bool): K :=
 Ite r
  (Idx a b 1 fun c=>
  Ld c Value.string fun d=>
  Ar (IntKind.wrap .i64 (b - 1)) fun f=>
  Idx a f 1 fun g=>
  Ld g Value.string fun i=>
  Idx a b 1 fun j=>
  St j (.string i)<|
  Ar (IntKind.wrap .i64 (b - 1)) fun k=>
  Idx a k 1 fun l=>
  St l (.string d)<|
  Ar (IntKind.wrap .i64 (b - 1)) fun m=>
  o m)
  (qU.s2 Q n a p q)
def qU.b3 (Q:Sl→K) (c:Sl→Int→K) (d:Int→K) (b f:Sl) (g a:Int): K :=
 Dr<|
 Ite (decide ((0:Int) < a))
  (Idx b a 1 fun i=>
  Ld i Value.string fun j=>
  Ar (IntKind.wrap .i64 (a - 1)) fun k=>
  Idx b k 1 fun l=>
  Ld l Value.string fun m=>
  qU.s4 Q c d b f g a (Op.bytesLess j.toList m.toList))
  (qU.s4 Q c d b f g a false)
def qU.b1 (Q:Sl→K) (f:Sl→Int→K) (a c:Sl) (b:Int): K :=
 Ite (decide (b < (a.n:Int)))
  (Idx a b 1 fun g=>
  Ld g Value.string fun i=>
  zBc.call c i fun j=>
  Ite j
   (qU.s2 Q f c a b)
   (Idx a b 1 fun k=>
   Ld k Value.string fun l=>
   New 9 #[.string l] fun m=>
   Do Tryz.prog (Builtin.append_ #[22,22] 22 #[Sl.val c,(Sl.val (Sl.mk (some m) 1 1))]) Sl.val fun d=>
   Ar (IntKind.wrap .i64 ((d.n:Int) - 1)) fun o=>
   yJ (α:=Int) (fun X x=>qU.b3 Q f X d a b x) o))
  (Q c)
def qU (l:Av) (Q:Sl→K): K :=
 New 25 l fun a=>
 New 9 #[] fun b=>
 Dr <| yh fun S=>
 LdS S (a.add 1) Sl.val fun c=>
 LdS S (a.add 2) Sl.val fun d=>
 New 9 #[] fun f=>
 Sv S<|
 Do Tryz.prog (Builtin.append_ #[22,22] 22 #[(Sl.val (Sl.mk (some f) 0 0)),Sl.val c]) Sl.val fun g=>
 Sv S<|
 Do Tryz.prog (Builtin.append_ #[22,22] 22 #[Sl.val g,Sl.val d]) Sl.val fun i=>
 yJ (α:=Sl×Int) (fun X x=>qU.b1 Q (fun j k=>X (j,k)) i x.1 x.2) ((Sl.mk (some b) 0 0),0)
theorem zNf (m Q w) (h:qU m Q w):qU.call m Q w:=by
 have:∀ b,XH 4 b→JH 5 fun D=>∃ f g,D [(4,Sl.val f),(5,.int .i64 g)] (fun C=>∀ n,C [(3,Sl.val n),(4,Sl.val f),(5,.int .i64 g)] (qU.s2 Q (fun c d=>b (c,d)) n f g)):=by intros; exact ⟨fun _ ⟨_,_,h⟩=>⟨_,_,h⟩⟩
 have:∀ b,XH 4 b→∀ o,XH 9 o→JH 1000009 fun D=>∃ i j k l,D [(3,Sl.val i),(4,Sl.val j),(5,.int .i64 k),(6,.int .i64 l)] (fun C=>∀ p,C [(3,Sl.val i),(4,Sl.val j),(5,.int .i64 k),(6,.int .i64 l),(51,.bool p)] (qU.s4 Q (fun c d=>b (c,d)) o i j k l p)):=by intros; exact ⟨fun _ ⟨_,_,_,_,h⟩=>⟨_,_,h⟩⟩
 have:∀ b,XH 4 b→∀ q r t,LH 9 (fun x:Int=>[(3,Sl.val q),(4,Sl.val r),(5,.int .i64 t),(6,.int .i64 x)]) (fun X x=>qU.b3 Q (fun c d=>b (c,d)) X q r t x):=by intros; exact ⟨⟩
 have:∀ u,LH 4 (fun x:Sl×Int=>[(3,Sl.val x.1),(4,Sl.val u),(5,.int .i64 x.2)]) (fun X x=>qU.b1 Q (fun c d=>X (c,d)) u x.1 x.2):=fun _=>⟨⟩
 have:DH 2 2 [6] (.s [1,4,2,5] (.a [(0,1,.a [(3,1,.a [(6,0,.s [7] .e)])])])):=⟨⟩
 exact zM 72 h Tryz.func68
end
section
open Go Go.Sep Go.Sep.Bt
noncomputable def btS:BtT ByteArray where
 P:=Tryz.prog
 tI:=zDt
 tSI:=zDR
 tV:=yc
 tK:=zDQ
 tSK:=zCq
 tN:=zDr
 tT:=zDs
 nv:=4
 kz:=.string ⟨#[]⟩
 vz:=[.bool false,Sl.val ⟨none,0,0⟩,.int .i64 0,.int .u64 0]
 kV:=Value.string
 cv:=.func (.func 231) #[] #[]
 bsC:=zA.call
 nsearchC:=yt.call
 nputC:=zY.call
 insIC:=zR.call
 insKC:=zf.call
 cloneIC:=z8.call
 cloneKC:=yA.call
def vN (a b:ByteArray):Int:=if a.toList < b.toList then -1 else if a.toList = b.toList then 0 else 1
theorem toList_inj {a b:ByteArray} (h:a.toList = b.toList):a = b:=by
 obtain ⟨x,rfl⟩:=zKy a
 obtain ⟨y,rfl⟩:=zKy b
 rw [xY,xY] at h
 rw [h]
theorem zC2 {a b:ByteArray}:vN a b < 0 ↔ a.toList < b.toList:=by
 unfold vN
 split
 ·simp [*]
 ·split <;> simp [*]
theorem zE0 {a b:ByteArray}:vN a b = 0 ↔ a = b:=by
 unfold vN
 split
 ·rename_i h
  simp only [show ¬ ((-1:Int) = 0) by omega,false_iff]
  rintro rfl; exact List.lt_irrefl _ h
 ·split
  ·rename_i h; simp [toList_inj h]
  ·rename_i h
   simp only [show ¬ ((1:Int) = 0) by omega,false_iff]
   rintro rfl; exact h rfl
theorem zRO {x y:List UInt8} (h1:¬ x < y) (h2:¬ x = y):y < x:=by
 have h4:y ≤ x:=by rw [← List.not_lt]; exact h1
 rcases List.le_iff_lt_or_eq.1 h4 with h5 | h5
 ·exact h5
 ·exact absurd h5.symm h2
theorem zMd {a b:ByteArray}:0 < vN a b ↔ b.toList < a.toList:=by
 unfold vN
 split
 ·rename_i h
  simp only [show ¬ (0 < (-1:Int)) by omega,false_iff]
  exact fun h2=>List.lt_irrefl _ (List.lt_trans h h2)
 ·split
  ·rename_i h
   simp only [show ¬ (0 < (0:Int)) by omega,false_iff]
   rw [h]; exact List.lt_irrefl _
  ·rename_i h1 h2
   simp only [show 0 < (1:Int) by omega,true_iff]
   exact zRO h1 h2
theorem zMe {B:World} {Γ:List zC} {x:ByteArray} {q:Bool→K} (h:HG B Γ (q false)):HG B Γ (cmp_isNaN_string.call x q):=fun w hw=>zIF _ _ _ (by unfold cmp_isNaN_string; simpa using h w hw)
theorem zP1 {B:World} {Γ:List zC} {x y:ByteArray} {q:Int→K} (h:HG B Γ (q (vN x y))):HG B Γ (jw.call x y q):=fun w hw=>by
 refine zGg _ _ _ _ ?_
 refine hg hw ?_
 unfold jw
 refine zMe (zMe ?_)
 refine s_f ?_ rfl
 refine s_f ?_ rfl
 rw [zWu,zBx]
 refine zF (fun h1=>?_) fun h1=>?_
 ·have e:vN x y = -1:=by unfold vN; rw [if_pos (by simpa using h1)]
  rw [e] at h; exact h
 refine zF (fun h2=>?_) fun h2=>?_
 ·have h3:y.toList < x.toList:=by simpa using h2
  have e:vN x y = 1:=by
   unfold vN
   rw [if_neg (by simpa using h1),if_neg fun h4=>by rw [h4] at h3; exact List.lt_irrefl _ h3]
  rw [e] at h; exact h
 ·have h3:¬ y.toList < x.toList:=by simpa using h2
  have e:vN x y = 0:=by
   unfold vN
   rw [if_neg (by simpa using h1),if_pos (Classical.byContradiction fun h4=>h3 (zRO (by simpa using h1) h4))]
  rw [e] at h; exact h
theorem zFE:BtOk btS vN where
 kf:=fun _=>rfl
 kzf:=rfl
 vz:=⟨rfl,rfl⟩
 TI:=by kernel_rfl
 ZI:=by kernel_rfl
 TK:=by kernel_rfl
 ZK:=by kernel_rfl
 tr:=fun h1 h2=>zC2.2 (List.lt_trans (zC2.1 h1) (zC2.1 h2))
 eq:=zE0
 sw:=by intro a b; rw [zC2,zMd]
 cmp:=fun a b vs q hl h=>by
  refine zZJ ?_
  refine fun w hw=>zB2 _ _ _ _ ?_
  refine hg hw ?_
  clear hw w
  unfold vI
  refine zH fun t=>?_
  refine yB (b:=t) (x:=a) ?_
  refine zP1 ?_
  exact zB h
 bs:=fun s k Q w h=>x9 _ _ _ _ _ h
 search:=fun n k Q w h=>zCL _ _ _ _ h
 put:=fun n x Q w h=>zCx _ _ _ _ h
 insI:=⟨_,_,fun s i v Q w h=>uJ _ _ _ _ _ h⟩
 zRH:=⟨_,_,fun s i v Q w h=>uK _ _ _ _ _ h⟩
 cloneI:=fun s Q w h=>uM _ _ _ h
 zIk:=fun s Q w h=>uN _ _ _ h
section
variable {B:World} {Γ:List zC}
theorem zSc {Q:Option Addr→K} (h:∀ t,HG B (vv btS vN t []::Γ) (Q (some ⟨t,0,none⟩))):HG B Γ (uG.call Q):=fun w hw=>
 zD8 _ _ (show zbB btS Q w from hg hw (zVI h))
theorem zSd {t:Nat} {L:List btS.It} {k:ByteArray} {Q:Array Value→Bool→K} (hfound:∀ A v C,L = A++(k,v)::C→HG B (vv btS vN t L::Γ) (Q v.1.toArray true)) (hnot:(∀ A C,L = A++C→(∀ x ∈ A,vN x.1 k < 0)→(∀ x ∈ C,vN k x.1 < 0)→HG B (vv btS vN t L::Γ) (Q btS.vz.toArray false))) :
  HG B (vv btS vN t L::Γ) (y9.call (some ⟨t,0,none⟩) k Q):=fun w hw=>
 zCv _ _ _ _ (show zbC btS (some ⟨t,0,none⟩) k Q w from hg hw (zVK zFE hfound hnot))
theorem zSe {t:Nat} {L:List btS.It} {k:ByteArray} {v:Cel btS.nv} {Q:Array Value→Bool→K} (hL:L.length < 1000000000) (h:∀ L' old had,zIE vN (btS.z0 zFE.vz) L k v L' old had→HG B (vv btS vN t L'::Γ) (Q old.1.toArray had)) :
  HG B (vv btS vN t L::Γ) (zN.call (some ⟨t,0,none⟩) k v.1.toArray Q):=fun w hw=>
 zCw _ _ _ _ _ (show zbE btS (some ⟨t,0,none⟩) k v.1.toArray Q w from hg hw (zVJ zFE hL h))
end
end
section
open Go Go.Sep
section
variable {B w:World} {Γ:List zC}
theorem zKC {b:Sl} {xs:List UInt8} {k:Sl→K} (h:Holds B Γ w) (hr:∀ w,Holds B Γ w→RdB w b xs) (hl:xs.length ≤ 1000000000)
  (hk:∀ s w,Holds B (Bytes yK s xs::Γ) w→s.a.isNone = b.a.isNone→k s w):vK.call b k w:=by
 refine zG7 _ _ _ ?_
 unfold vK
 refine zMD (fun hb=>?_) (fun hb=>?_)
 ·have hx:xs = []:=by
   have h1:=(hr w h).nil (by simpa using hb)
   have h2:=(hr w h).len
   rw [h1] at h2; simpa using h2
  subst hx
  exact hk _ _ (h.zAm _ _) (by rw [hb]; rfl)
 ·refine zQq h ?_
  clear h
  intro t w h
  try simp only [uT,Nat.zero_add,Nat.reduceAdd]
  have hn:b.n = xs.length:=by have h2:=(hr w h.tail).len; simpa using h2.symm
  refine zMQ (vs:=[]) (h.imp (zAB rfl rfl)) (by kernel_rfl) (by kernel_rfl) (by':=1) (by kernel_rfl) zNd rfl (hr w h.tail) (zFA _) (by simp only [hn]; omega) (by decide) fun s w h hs ha=>?_
  refine hk s w h ?_
  rw [hb]
  have:=ha rfl
  cases hh:s.a <;> simp [hh] at this ⊢
end
end
section
open Go Go.Sep Go.Sep.Bt
structure Rec where
 has:Bool
 val:List UInt8
 home:Int
 cnt:Int
def Rec.ok (r:Rec):Prop:=0 ≤ r.cnt∧r.cnt ≤ 18446744073709551615∧r.val.length ≤ 1000000000
abbrev jh (r:Rec) (s:Sl):List Value:=[.bool r.has,s.val,.int .i64 r.home,.int .u64 r.cnt]
abbrev zII (r:Rec) (s:Sl):Array Value:=#[.bool r.has,s.val,.int .i64 r.home,.int .u64 r.cnt]
abbrev recC (x:Rec×Sl):Cel 4:=⟨jh x.1 x.2,rfl,rfl⟩
abbrev zy:=List (ByteArray×Rec)
abbrev zAG:=ByteArray×(Rec×Sl)
abbrev zAS (x:zAG):zC:=Bytes yK x.2.2 x.2.1.val
abbrev zAH (x:zAG):btS.It:=(x.1,recC x.2)
abbrev zAw (x:zAG):ByteArray×Rec:=(x.1,x.2.1)
def zBN (k:List UInt8) (n:Nat):Nat:=k.foldl (fun s b=>(s + b.toNat) % n) 0
def getM (M:zy) (k:ByteArray):Option Rec:=(M.find? fun x=>decide (x.1 = k)).map Prod.snd
def zBt (M:zy) (k:ByteArray) (r:Rec):zy:=match M with
 | []=>[(k,r)]
 | x::M=>if vN x.1 k < 0 then x::zBt M k r else if x.1 = k then (k,r)::M else (k,r)::x::M
def zx (n:Nat) (M:zy) (k:ByteArray):Rec:=(getM M k).getD ⟨false,[],zBN k.toList n,0⟩
def je (n:Nat) (M:zy) (k:ByteArray) (h:Int):zy×Int :=
 if h < 0∨(n:Int) ≤ h then (M,1) else if (zx n M k).cnt = 18446744073709551615 then (M,111) else (zBt M k { zx n M k with home:=h,cnt:=(zx n M k).cnt + 1 },0)
theorem zWx (M:zy) (k k':ByteArray) (r:Rec):getM (zBt M k r) k' = if k' = k then some r else getM M k':=by
 induction M with
 | nil=>by_cases h:k' = k <;> simp [zBt,getM,h,eq_comm]
 | cons x M ih=>
  unfold zBt
  split
  ·rename_i h
   have hx:x.1 ≠ k:=fun e=>by rw [e] at h; have:=zC2.1 h; exact List.lt_irrefl _ this
   by_cases h2:k' = k
   ·subst h2
    have:=ih
    simp only [getM,List.find?_cons,if_true] at this ⊢
    rw [show decide (x.1 = k') = false by simpa using hx]
    simpa using this
   ·simp only [if_neg h2] at ih ⊢
    by_cases h3:x.1 = k'
    ·simp [getM,List.find?_cons,h3]
    ·simp only [getM,List.find?_cons,show decide (x.1 = k') = false by simpa using h3]
     simpa [getM] using ih
  ·split
   ·rename_i h h1
    by_cases h2:k' = k
    ·subst h2; simp [getM]
    ·simp [getM,List.find?_cons,h2,Ne.symm h2,h1]
   ·rename_i h h1
    by_cases h2:k' = k
    ·subst h2; simp [getM]
    ·simp [getM,List.find?_cons,h2,Ne.symm h2]
theorem zRP (M:zy) (k:ByteArray) (r:Rec):(zBt M k r).length ≤ M.length + 1:=by
 induction M with
 | nil=>simp [zBt]
 | cons x M ih=>
  unfold zBt
  split
  ·simp; omega
  ·split <;> simp
theorem zJZ {M:zy} {k:ByteArray} {r:Rec} {x:ByteArray×Rec} (h:x ∈ zBt M k r):x = (k,r)∨x ∈ M:=by
 induction M with
 | nil=>simpa [zBt] using h
 | cons y M ih=>
  unfold zBt at h
  split at h
  ·rcases List.mem_cons.1 h with rfl | h
   ·exact .inr List.mem_cons_self
   ·rcases ih h with h | h
    ·exact .inl h
    ·exact .inr (List.mem_cons_of_mem _ h)
  ·split at h
   ·rcases List.mem_cons.1 h with rfl | h
    ·exact .inl rfl
    ·exact .inr (List.mem_cons_of_mem _ h)
   ·rcases List.mem_cons.1 h with rfl | h
    ·exact .inl rfl
    ·exact .inr h
theorem zMf (n:Nat) (M:zy) (k k':ByteArray) (r:Rec):zx n (zBt M k r) k' = if k' = k then r else zx n M k':=by
 unfold zx
 rw [zWx]
 split <;> simp
theorem zMg {M:zy} {k:ByteArray} {r:Rec} (h:getM M k = some r):(k,r) ∈ M:=by
 simp only [getM,Option.map_eq_some_iff] at h
 obtain ⟨x,hx,rfl⟩:=h
 have h1:=List.mem_of_find?_eq_some hx
 have h2:=List.find?_some hx
 simp only [decide_eq_true_eq] at h2
 rw [← h2]; exact h1
theorem zRQ {A C:zy} {k:ByteArray} {r:Rec} (hA:∀ x ∈ A,x.1 ≠ k):getM (A++(k,r)::C) k = some r:=by
 unfold getM
 rw [List.find?_append,List.find?_eq_none.2 (fun x hx=>by simpa using hA x hx)]
 simp
theorem getM_none {M:zy} {k:ByteArray} (h:∀ x ∈ M,x.1 ≠ k):getM M k = none:=by
 unfold getM
 rw [List.find?_eq_none.2 (fun x hx=>by simpa using h x hx)]; rfl
theorem zWy {A C:zy} {k:ByteArray} {r0 r:Rec} (hA:∀ x ∈ A,vN x.1 k < 0):zBt (A++(k,r0)::C) k r = A++(k,r)::C:=by
 induction A with
 | nil=>
  have:¬ vN k k < 0:=fun h=>List.lt_irrefl _ (zC2.1 h)
  simp [zBt,this]
 | cons x A ih=>
  rw [List.cons_append,zBt,if_pos (hA x List.mem_cons_self),ih (fun y hy=>hA y (List.mem_cons_of_mem _ hy))]; rfl
theorem zWz {A C:zy} {k:ByteArray} {r:Rec} (hA:∀ x ∈ A,vN x.1 k < 0) (hC:∀ x ∈ C,vN k x.1 < 0):zBt (A++C) k r = A++(k,r)::C:=by
 induction A with
 | nil=>
  cases C with
  | nil=>rfl
  | cons y C=>
   have h:=zC2.1 (hC y List.mem_cons_self)
   have h1:¬ vN y.1 k < 0:=fun h2=>List.lt_irrefl _ (List.lt_trans h (zC2.1 h2))
   have h2:¬ y.1 = k:=fun e=>by rw [e] at h; exact List.lt_irrefl _ h
   simp [zBt,h1,h2]
 | cons x A ih=>
  rw [List.cons_append,zBt,if_pos (hA x List.mem_cons_self),ih (fun y hy=>hA y (List.mem_cons_of_mem _ hy))]; rfl
def zk (st n:Nat) (M:zy):zC:=ex fun t=>ex fun X:List zAG=>Sep.stars [pur (M = X.map zAw∧(∀ x ∈ M,x.2.ok)∧1 ≤ n∧n ≤ 3),blk st (.cells [.int .i64 n,.pointer (some ⟨t,0,none⟩)].toArray qQ (0,0)),vv btS vN t (X.map zAH),Sep.stars (X.map zAS)]
section
variable {B:World} {Γ Δ:List zC}
instance (priority:=high) zbm {st n:Nat} {M:zy}:Sep.Own st (zk st n M::Γ) (zk st n M) Γ:=⟨.refl _⟩
theorem zHt {st n:Nat} {M:zy} {k:K} (h:∀ t (X:List zAG),M = X.map zAw→(∀ x ∈ M,x.2.ok)→1 ≤ n→n ≤ 3→HG B (blk st (.cells [.int .i64 n,.pointer (some ⟨t,0,none⟩)].toArray qQ (0,0))::vv btS vN t (X.map zAH)::Sep.stars (X.map zAS)::Γ) k):HG B (zk st n M::Γ) k :=
 zDI fun t=>zDI fun X=>zBr <| zGd fun ⟨h1,h2,h3,h4⟩=>h t X h1 h2 h3 h4
theorem zBy {st n t:Nat} {X:List zAG} {k:K} (h2:∀ x ∈ X.map zAw,x.2.ok) (h3:1 ≤ n) (h4:n ≤ 3) (h:HG B (zk st n (X.map zAw)::Γ) k):HG B (blk st (.cells [.int .i64 n,.pointer (some ⟨t,0,none⟩)].toArray qQ (0,0))::vv btS vN t (X.map zAH)::Sep.stars (X.map zAS)::Γ) k:=fun w hw=>by
 refine h w ?_
 have h3:Holds B (Sep.stars [pur (X.map zAw = X.map zAw∧(∀ x ∈ X.map zAw,x.2.ok)∧1 ≤ n∧n ≤ 3),blk st (.cells [.int .i64 n,.pointer (some ⟨t,0,none⟩)].toArray qQ (0,0)),vv btS vN t (X.map zAH),Sep.stars (X.map zAS)]::Γ) w:=Holds.flat.2 (Holds.pur.2 ⟨⟨rfl,h2,h3,h4⟩,hw⟩)
 exact h3.imp fun g hg=>⟨t,X,hg⟩
theorem zP2 {k:ByteArray} {n:Nat} {q:Int→K} (h1:1 ≤ n) (hn:n ≤ 1000) (hk:k.size < 1000000000000) (h:HG B Γ (q (zBN k.toList n:Nat))):HG B Γ (jS.call k n q):=fun w hw=>by
 refine zKB _ _ _ _ ?_
 refine hg hw ?_
 clear hw w
 unfold jS
 refine s_f ?_
 obtain ⟨l,rfl⟩:=zKy k
 rw [xY] at h
 have hsz:(bs l).size = l.length:=rfl
 refine zAP (fun x:Int×Int=>∃ i s:Nat,x = ((s:Int),(i:Int))∧i ≤ l.length∧s = zBN (l.take i) n∧s < n) (fun x=>l.length - x.2.toNat) ⟨0,0,rfl,Nat.zero_le _,rfl,by omega⟩ fun k' x hx hk'=>?_
 obtain ⟨i,s,rfl,hi,hs,hsn⟩:=hx
 unfold jS.b1
 dsimp only
 refine zF (fun hb=>?_) fun hb=>?_
 ·have hil:i < l.length:=by simp only [decide_eq_true_eq] at hb; omega
  refine fun w hw=>⟨(l[i].toNat:Int),l[i],by omega,?_,rfl,hg hw ?_⟩
  ·show (bs l)[((i:Nat):Int).toNat]? = _
   rw [Int.toNat_natCast]
   exact Array.getElem?_eq_getElem (xs:=l.toArray) (by simpa using hil)
  have hb8:l[i].toNat < 256:=l[i].toNat_lt
  refine qB ?_
  refine qB ?_
  refine zPo (by omega) ?_
  refine zAW (e':=(((s + l[i].toNat) % n:Nat):Int)) ?_ ?_
  ·rw [Int.tmod_eq_emod_of_nonneg (by omega)]; simp
  refine qB ?_
  refine hk' _ ⟨i + 1,(s + l[i].toNat) % n,by simp,hil,?_,Nat.mod_lt _ (by omega)⟩ (by simp only; omega)
  rw [hs,List.take_succ_eq_append_getElem hil,zBN,zBN,List.foldl_append]; rfl
 ·have hil:i = l.length:=by simp only [decide_eq_false_iff_not] at hb; omega
  rw [hil,List.take_length] at hs
  rw [hs]
  exact h
theorem zBz {b:Sl} {xs:List UInt8} {q:Sl→K} (hr:∀ w,Holds B Γ w→RdB w b xs) (hl:xs.length ≤ 1000000000) (hk:∀ s,s.a.isNone = b.a.isNone→HG B (Bytes yK s xs::Γ) (q s)):HG B Γ (vK.call b q):=fun w hw=>
 zKC hw hr hl fun s w h hs=>hk s hs w h
theorem zNg {n:Nat} {q:Option Addr→Int→K} (h1:1 ≤ n) (h3:n ≤ 3) (h:∀ st,HG B (zk st n []::Γ) (q (some ⟨st,0,none⟩) 0)):HG B Γ (zBd.call n q):=fun w hw=>by
 refine zP0 _ _ _ ?_
 refine hg hw ?_
 clear hw w
 unfold zBd
 refine s_f ?_
 unfold zBd.s1
 refine s_f ?_
 refine zSc fun t=>?_
 show HG B (vv btS vN t (([]:List zAG).map zAH)::Γ) _
 refine zH fun st=>?_
 refine fun w hw=>?_
 refine hg (show Holds B (Sep.stars (([]:List zAG).map zAS)::_) w from Holds.flat.2 hw) ?_
 refine zB (Δ:=blk st (.cells [.int .i64 n,.pointer (some ⟨t,0,none⟩)].toArray qQ (0,0))::vv btS vN t (([]:List zAG).map zAH)::Sep.stars (([]:List zAG).map zAS)::Γ) ?_
 exact zBy (by simp) h1 h3 (h st)
theorem zKD {X:List zAG} {A C:List btS.It} {k:ByteArray} {v:Cel btS.nv} (e:X.map zAH = A++((k,v):btS.It)::C):∃ XA r XC,X = XA++(k,r)::XC∧A = XA.map zAH∧C = XC.map zAH∧v = recC r:=by
 obtain ⟨XA,X2,rfl,rfl,h2⟩:=List.map_eq_append_iff.1 e
 obtain ⟨⟨k',r⟩,XC,rfl,h3,rfl⟩:=List.map_eq_cons_iff.1 h2
 simp only [zAH,Prod.mk.injEq] at h3
 obtain ⟨rfl,rfl⟩:=h3
 exact ⟨XA,r,XC,rfl,rfl,rfl,rfl⟩
theorem zOM {X:List zAG} {A C:List btS.It} (e:X.map zAH = A++C):∃ XA XC,X = XA++XC∧A = XA.map zAH∧C = XC.map zAH:=by
 obtain ⟨XA,X2,rfl,rfl,rfl⟩:=List.map_eq_append_iff.1 e
 exact ⟨XA,X2,rfl,rfl,rfl⟩
theorem zKE {X Y:List zAG} {k:ByteArray} {r:Rec×Sl} (h:Srt vN ((X++(k,r)::Y).map zAH)):∀ x ∈ X,vN x.1 k < 0:=fun x hx=>by
 rw [List.map_append] at h
 exact (List.pairwise_append.1 h).2.2 (zAH x) (List.mem_map.2 ⟨x,hx,rfl⟩) (zAH (k,r)) (by simp)
theorem ne_of_lt {a b:ByteArray} (h:vN a b < 0):a ≠ b:=fun e=>by rw [e] at h; exact List.lt_irrefl _ (zC2.1 h)
theorem zab {t4 r5:Nat} {r:Rec} {s:Sl} {z:List Value} {q:Array Value→K} (hz:z.length = 4) (hzf:z.all yu = true) (hr:∀ w,Holds B Γ w→RdB w s r.val) (hl:r.val.length ≤ 1000000000) (h:∀ s',s'.a.isNone = s.a.isNone→HG B (Bytes yK s' r.val::Γ) (q (zII r s'))) :
  HG B (blk r5 (.cells (jh r s).toArray yc (0,0))::blk t4 (.cells z.toArray yc (0,0))::Γ) (qE.s1 q ⟨t4,0,none⟩ ⟨r5,0,none⟩):=by
 unfold qE.s1
 refine yB (b:=r5) (x:=s) ?_
 refine zBz (fun w hw=>hr w hw.tail.tail) hl fun s' hs'=>?_
 refine zCB (b:=r5) ?_
 refine qI (b:=r5) ?_
 refine qA (b:=t4) ?_ hz rfl rfl
 refine qI (b:=t4) ?_
 exact zB (h s' hs')
theorem zAn {st n:Nat} {M:zy} {k:ByteArray} {q:Array Value→K} (hk:k.size < 1000000000000) (h:∀ s,(zx n M k).ok→HG B (Bytes yK s (zx n M k).val::zk st n M::Γ) (q (zII (zx n M k) s))):HG B (zk st n M::Γ) (qE.call (some ⟨st,0,none⟩) k q):=fun w hw=>by
 refine zIm _ _ _ _ ?_
 refine hg hw ?_
 clear hw w
 refine zHt fun t X hM hok h1 h3=>?_
 unfold qE
 refine zH fun t4=>?_
 refine uP ?_
 refine yB (b:=st) (x:=some ⟨t,0,none⟩) ?_
 refine zO t ?_
 refine zMZ fun hs=>?_
 refine zSd (fun A v C e=>?_) fun A C e hA hC=>?_
 ·obtain ⟨XA,r,XC,rfl,rfl,rfl,rfl⟩:=zKD e
  have hlt:=zKE hs
  have hg':getM M k = some r.1:=by
   rw [hM,List.map_append]
   exact zRQ fun x hx=>by
    obtain ⟨y,hy,rfl⟩:=List.mem_map.1 hx
    exact ne_of_lt (hlt y hy)
  have hr:zx n M k = r.1:=by unfold zx; rw [hg']; rfl
  have hrok:r.1.ok:=hok (k,r.1) (zMg hg')
  rw [hr] at h
  refine zH fun r5=>?_
  refine qA (b:=r5) (l':=jh r.1 r.2) ?_
  refine s_f ?_
  refine zB (Δ:=blk r5 (.cells (jh r.1 r.2).toArray yc (0,0))::blk t4 (.cells [.bool false,Sl.val ⟨none,0,0⟩,.int .i64 0,.int .u64 0].toArray yc (0,0))::blk st (.cells [.int .i64 n,.pointer (some ⟨t,0,none⟩)].toArray qQ (0,0))::vv btS vN t ((XA++(k,r)::XC).map zAH)::Sep.stars ((XA++(k,r)::XC).map zAS)::Γ) ?_
  refine zab (r:=r.1) rfl rfl (fun w hw=>?_) hrok.2.2 fun s' hs'=>?_
  ·have h5:Holds B (zAS (k,r)::_) w:=(Holds.flat.1 (hw.tail.tail)).perm zG4 |>.perm List.perm_middle
   exact h5.rdC List.mem_cons_self
  ·rw [hM] at h
   refine zB (Δ:=blk st (.cells [.int .i64 n,.pointer (some ⟨t,0,none⟩)].toArray qQ (0,0))::vv btS vN t ((XA++(k,r)::XC).map zAH)::Sep.stars ((XA++(k,r)::XC).map zAS)::Bytes yK s' r.1.val::Γ) ?_
   refine zBy (by rw [← hM]; exact hok) h1 h3 ?_
   exact zB (h s' hrok)
 ·obtain ⟨XA,XC,rfl,rfl,rfl⟩:=zOM e
  have hg':getM M k = none:=by
   rw [hM,List.map_append]
   refine getM_none fun x hx=>?_
   rcases List.mem_append.1 hx with hx | hx
   ·obtain ⟨y,hy,rfl⟩:=List.mem_map.1 hx
    exact ne_of_lt (hA (zAH y) (List.mem_map.2 ⟨y,hy,rfl⟩))
   ·obtain ⟨y,hy,rfl⟩:=List.mem_map.1 hx
    exact Ne.symm (ne_of_lt (hC (zAH y) (List.mem_map.2 ⟨y,hy,rfl⟩)))
  have hr:zx n M k = ⟨false,[],zBN k.toList n,0⟩:=by unfold zx; rw [hg']; rfl
  rw [hr] at h
  refine zH fun r5=>?_
  refine qA (b:=r5) (l':=jh ⟨false,[],0,0⟩ ⟨none,0,0⟩) ?_
  refine s_t ?_
  refine yB (b:=st) (x:=(n:Int)) ?_
  refine zP2 h1 (by omega) hk ?_
  refine zCB (b:=r5) ?_
  refine zB (Δ:=blk r5 (.cells (jh ⟨false,[],zBN k.toList n,0⟩ ⟨none,0,0⟩).toArray yc (0,0))::blk t4 (.cells [.bool false,Sl.val ⟨none,0,0⟩,.int .i64 0,.int .u64 0].toArray yc (0,0))::blk st (.cells [.int .i64 n,.pointer (some ⟨t,0,none⟩)].toArray qQ (0,0))::vv btS vN t ((XA++XC).map zAH)::Sep.stars ((XA++XC).map zAS)::Γ) ?_
  refine zab (r:=⟨false,[],zBN k.toList n,0⟩) rfl rfl (fun w hw=>RdC.none') (by simp) fun s' hs'=>?_
  rw [hM] at h
  refine zB (Δ:=blk st (.cells [.int .i64 n,.pointer (some ⟨t,0,none⟩)].toArray qQ (0,0))::vv btS vN t ((XA++XC).map zAH)::Sep.stars ((XA++XC).map zAS)::Bytes yK s' []::Γ) ?_
  refine zBy (by rw [← hM]; exact hok) h1 h3 ?_
  exact zB (h s' ⟨by simp,by simp,by simp⟩)
end
end
section
open Go Go.Sep Go.Sep.Bt
section
variable {B:World} {Γ Δ:List zC}
theorem zRR {st t n:Nat} {X:List zAG} {k:ByteArray} {r:Rec} {s:Sl} {q:Array Value→Bool→K} (hok:∀ x ∈ X.map zAw,x.2.ok) (hr:r.ok) (h1:1 ≤ n) (h3:n ≤ 3) (hL:X.length < 1000000000)
  (h:∀ a b,HG B (zk st n (zBt (X.map zAw) k r)::Γ) (q a b)) :
  HG B (blk st (.cells [.int .i64 n,.pointer (some ⟨t,0,none⟩)].toArray qQ (0,0))::vv btS vN t (X.map zAH)::Sep.stars (X.map zAS)::Bytes yK s r.val::Γ) (zN.call (some ⟨t,0,none⟩) k (zII r s) q):=by
 refine zO t ?_
 refine zMZ fun hs=>?_
 refine zSe (v:=recC (r,s)) (by simpa using hL) fun L' old had hp=>?_
 have hput:∀ x ∈ zBt (X.map zAw) k r,x.2.ok:=fun x hx=>by
  rcases zJZ hx with rfl | hx
  ·exact hr
  ·exact hok x hx
 rcases hp with ⟨A,C,e,rfl,rfl⟩ | ⟨A,C,e,hA,hC,rfl,rfl,rfl⟩
 ·obtain ⟨XA,r0,XC,rfl,rfl,rfl,rfl⟩:=zKD e
  have hlt:=zKE hs
  have e2:zBt ((XA++(k,r0)::XC).map zAw) k r = (XA++(k,(r,s))::XC).map zAw:=by
   rw [List.map_append,List.map_cons]
   rw [show zAw (k,r0) = (k,r0.1) from rfl,zWy (fun x hx=>by
    obtain ⟨y,hy,rfl⟩:=List.mem_map.1 hx
    exact hlt y hy)]
   simp
  rw [e2] at h hput
  refine ze (Sep.stars ((XA++(k,r0)::XC).map zAS)) ?_
  refine zFk ?_
  have e3:XA.map zAH++((k,recC (r,s)):btS.It)::XC.map zAH = (XA++(k,(r,s))::XC).map zAH:=by simp
  refine zB (Δ:=zAS (k,(r,s))::Sep.stars ((XA++XC).map zAS)::blk st (.cells [.int .i64 n,.pointer (some ⟨t,0,none⟩)].toArray qQ (0,0))::vv btS vN t (XA.map zAH++((k,recC (r,s)):btS.It)::XC.map zAH)::Γ) ?_
  refine zAb ?_
  rw [e3]
  refine zB (Δ:=blk st (.cells [.int .i64 n,.pointer (some ⟨t,0,none⟩)].toArray qQ (0,0))::vv btS vN t ((XA++(k,(r,s))::XC).map zAH)::Sep.stars ((XA++(k,(r,s))::XC).map zAS)::Γ) ?_
  exact zBy hput h1 h3 (h _ _)
 ·obtain ⟨XA,XC,rfl,rfl,rfl⟩:=zOM e
  have e2:zBt ((XA++XC).map zAw) k r = (XA++(k,(r,s))::XC).map zAw:=by
   rw [List.map_append,zWz (fun x hx=>by
    obtain ⟨y,hy,rfl⟩:=List.mem_map.1 hx
    exact hA (zAH y) (List.mem_map.2 ⟨y,hy,rfl⟩)) (fun x hx=>by
    obtain ⟨y,hy,rfl⟩:=List.mem_map.1 hx
    exact hC (zAH y) (List.mem_map.2 ⟨y,hy,rfl⟩))]
   simp
  rw [e2] at h hput
  have e3:XA.map zAH++((k,recC (r,s)):btS.It)::XC.map zAH = (XA++(k,(r,s))::XC).map zAH:=by simp
  refine zB (Δ:=zAS (k,(r,s))::Sep.stars ((XA++XC).map zAS)::blk st (.cells [.int .i64 n,.pointer (some ⟨t,0,none⟩)].toArray qQ (0,0))::vv btS vN t (XA.map zAH++((k,recC (r,s)):btS.It)::XC.map zAH)::Γ) ?_
  refine zAb ?_
  rw [e3]
  refine zB (Δ:=blk st (.cells [.int .i64 n,.pointer (some ⟨t,0,none⟩)].toArray qQ (0,0))::vv btS vN t ((XA++(k,(r,s))::XC).map zAH)::Sep.stars ((XA++(k,(r,s))::XC).map zAS)::Γ) ?_
  exact zBy hput h1 h3 (h _ _)
theorem zIZ {st n:Nat} {M:zy} {k:ByteArray} {r:Rec} {s:Sl} {q:K} (hr:r.ok) (hne:r.has = true∨r.cnt ≠ 0) (hL:M.length < 1000000000) (h:HG B (zk st n (zBt M k r)::Γ) q):HG B (zk st n M::Bytes yK s r.val::Γ) (qd.call (some ⟨st,0,none⟩) k (zII r s) q):=fun w hw=>by
 refine zFD _ _ _ _ _ ?_
 refine hg hw ?_
 clear hw w
 refine zHt fun t X hM hok h1 h3=>?_
 subst hM
 unfold qd
 refine zH fun r5=>?_
 refine yB (b:=r5) (x:=r.has) ?_
 have key:HG B (blk r5 (.cells (jh r s).toArray yc (0,0))::blk st (.cells [.int .i64 n,.pointer (some ⟨t,0,none⟩)].toArray qQ (0,0))::vv btS vN t (X.map zAH)::Sep.stars (X.map zAS)::Bytes yK s r.val::Γ) (qd.s1 q (some ⟨st,0,none⟩) k ⟨r5,0,none⟩ false):=by
  unfold qd.s1
  refine s_f ?_
  refine vo ?_
  refine uP ?_
  refine yB (b:=st) (x:=some ⟨t,0,none⟩) ?_
  refine qI (b:=r5) ?_
  refine zB (Δ:=blk st (.cells [.int .i64 n,.pointer (some ⟨t,0,none⟩)].toArray qQ (0,0))::vv btS vN t (X.map zAH)::Sep.stars (X.map zAS)::Bytes yK s r.val::Γ) ?_
  exact zRR hok hr h1 h3 (by simpa using hL) fun _ _=>h
 refine zF (fun hb=>?_) fun hb=>key
 refine yB (b:=r5) (x:=r.cnt) ?_
 have hc:r.cnt ≠ 0:=hne.resolve_left (by simpa using hb)
 rw [show decide (r.cnt = 0) = false by simpa using hc]
 exact key
theorem zMh {st n:Nat} {M:zy} {k:ByteArray} {to:Int} {q:Int→K} (hk:k.size < 1000000000000) (hL:M.length < 1000000000) (h:HG B (zk st n (je n M k to).1::Γ) (q (je n M k to).2)):HG B (zk st n M::Γ) (xQ.call (some ⟨st,0,none⟩) k to q):=fun w hw=>by
 refine zIH _ _ _ _ _ ?_
 refine hg hw ?_
 clear hw w
 unfold xQ
 refine zAn hk fun s hok=>?_
 generalize hR:zx n M k = r at *
 refine zH fun r7=>?_
 refine qA (b:=r7) (l':=jh r s) ?_
 have bad:to < 0∨(n:Int) ≤ to→∀ s0,HG B (blk r7 (.cells (jh r s).toArray yc (0,0))::Bytes yK s r.val::zk st n M::Γ) (xQ.s1 q s0 k to ⟨r7,0,none⟩ true):=fun hb s0=>by
  unfold xQ.s1
  refine s_t ?_
  have e:je n M k to = (M,1):=by unfold je; rw [if_pos hb]
  rw [e] at h
  exact zB h
 refine zF (fun hb=>bad (.inl (by simpa using hb)) _) fun hb=>?_
 refine uP ?_
 refine zO st ?_
 refine zHt fun t X hM hok2 h1 h3=>?_
 refine yB (b:=st) (x:=(n:Int)) ?_
 subst hM
 refine zBy hok2 h1 h3 ?_
 refine zB (Δ:=blk r7 (.cells (jh r s).toArray yc (0,0))::Bytes yK s r.val::zk st n (X.map zAw)::Γ) ?_
 by_cases hb2:(n:Int) ≤ to
 ·rw [show decide ((n:Int) ≤ to) = true by simpa using hb2]
  exact bad (.inr hb2) _
 rw [show decide ((n:Int) ≤ to) = false by simpa using hb2]
 have hnb:¬ (to < 0∨(n:Int) ≤ to):=by
  simp only [decide_eq_false_iff_not] at hb
  omega
 unfold xQ.s1
 refine s_f ?_
 refine yB (b:=r7) (x:=r.cnt) ?_
 refine zF (fun hc=>?_) fun hc=>?_
 ·have e:je n (X.map zAw) k to = (X.map zAw,111):=by unfold je; rw [if_neg hnb,hR,if_pos (by simpa using hc)]
  rw [e] at h
  exact zB h
 have hc':r.cnt ≠ 18446744073709551615:=by simpa using hc
 obtain ⟨o1,o2,o3⟩:=hok
 refine zCB (b:=r7) ?_
 refine yB (b:=r7) (x:=r.cnt) ?_
 refine zAW (zA0 (by omega) (by omega)) ?_
 refine zCB (b:=r7) ?_
 refine qI (b:=r7) (l':=jh { r with home:=to,cnt:=r.cnt + 1 } s) ?_
 refine zB (Δ:=zk st n (X.map zAw)::Bytes yK s r.val::Γ) ?_
 refine zIZ (r:={ r with home:=to,cnt:=r.cnt + 1 }) ⟨by simp only; omega,by simp only; omega,o3⟩ (.inr (by simp only; omega)) hL ?_
 have e:je n (X.map zAw) k to = (zBt (X.map zAw) k { r with home:=to,cnt:=r.cnt + 1 },0):=by unfold je; rw [if_neg hnb,hR,if_neg hc']
 rw [e] at h
 exact h
end
end
end Go.Proofs.YtdemfamgieonbaaGreat
namespace Go.Sep
section
open Go Go.RowKit
namespace Bt
section
variable {κ:Type} {G:BtT κ} {c:κ→κ→Int} {B:World} {Γ Δ:List zC}
def wv:List G.It→List (Kid G)→List G.It
 | its,[]=>its
 | [],q::_=>q.2
 | x::its,q::ks=>q.2++x::wv its ks
theorem zK0 (q0:Kid G):∀ (ps:List (G.It×Kid G)),wv (ps.map Prod.fst) (q0::ps.map Prod.snd) = psL q0 ps
 | []=>by simp [wv,psL]
 | (x,q)::ps=>by
  have e:psL q0 ((x,q)::ps) = q0.2++x::psL q ps:=by simp [psL]
  rw [e,← zK0 q ps]; rfl
def Fit (d:Nat) (its:List G.It) (ks:List (Kid G)):Prop:=match d with
 | 0=>ks = []
 | _ + 1=>ks.length = its.length + 1
def jQ (G:BtT κ):Nat→List (Kid G)→zC
 | 0,_=>Sep.stars []
 | d + 1,ks=>qY G d ks
abbrev zJa (G:BtT κ) (d b:Nat) (s kd:Sl) (its:List G.It) (ks:List (Kid G)) (Γ:List zC):List zC:=qG G b s kd::vQ G s its::vR G kd (ks.map ptr)::jQ G d ks::Γ
theorem zON {d m b:Nat} {L:List G.It} {k:K} (h:∀ s kd its ks,Fit d its ks→its.length ≤ 5→(m = 2→its ≠ [])→L = wv its ks→HG B (zJa G d b s kd its ks Γ) k):HG B (yL G d m b L::Γ) k:=by
 cases d with
 | zero=>
  refine zHs fun s kd h1 h2=>?_
  refine fun w hw=>?_
  refine hg (show Holds B (jQ G 0 []::_) w from Holds.flat.2 hw) ?_
  have:=h s kd L [] rfl h2 h1 (by cases L <;> rfl)
  refine zB (Δ:=qG G b s kd::vQ G s L::vR G kd []::jQ G 0 []::Γ) ?_
  exact this
 | succ d=>
  refine zJX fun s kd q0 ps h1 h2 h3=>?_
  exact h s kd (ps.map Prod.fst) (q0::ps.map Prod.snd) (by simp [Fit]) (by simpa using h2) (fun hm=>by simpa using h1 (by omega)) (by rw [h3,zK0])
theorem zSf {its:List G.It} {ks:List (Kid G)} (h:ks.length = its.length + 1):∃ (q0:Kid G) (ps:List (G.It×Kid G)),its = ps.map Prod.fst∧ks = q0::ps.map Prod.snd:=by
 cases ks with
 | nil=>simp at h
 | cons q0 ks=>
  refine ⟨q0,its.zip ks,?_,?_⟩
  ·rw [List.map_fst_zip (by simp at h; omega)]
  ·rw [List.map_snd_zip (by simp at h; omega)]
theorem zEI {d m b:Nat} {s kd:Sl} {its:List G.It} {ks:List (Kid G)} {k:K} (hf:Fit d its ks) (hl:its.length ≤ 5) (hm:1 ≤ m→(d = 0∧m = 1)∨its ≠ []) (h:HG B (yL G d m b (wv its ks)::Γ) k):HG B (zJa G d b s kd its ks Γ) k:=by
 cases d with
 | zero=>
  have hk:ks = []:=hf
  subst hk
  have e:wv its [] = its:=by cases its <;> rfl
  rw [e] at h
  show HG B (qG G b s kd::vQ G s its::vR G kd []::jQ G 0 []::Γ) k
  refine zB (Δ:=qG G b s kd::vQ G s its::vR G kd []::Γ) ?_
  exact zFm (fun h2=>by
               rcases hm (by omega) with h3 | h3
               ·omega
               ·exact h3) hl h
 | succ d=>
  obtain ⟨q0,ps,rfl,rfl⟩:=zSf hf
  rw [zK0] at h
  exact zG6 (fun h2=>by
               rcases hm h2 with h3 | h3
               ·omega
               ·simpa using h3) (by simpa using hl) h
end
end Bt
end
section
open Go Go.RowKit
namespace Bt
structure BtD (κ:Type) extends BtT κ where
 delIC:Sl→Int→Int→(Sl→K)→K
 delKC:Sl→Int→Int→(Sl→K)→K
 ntakeC:Option Addr→κ→(Array Value→Bool→K)→K
 nlastC:Option Addr→(Array Value→K)→K
 nmendC:Option Addr→Int→K→K
section
variable {κ:Type}
def zFp (G:BtD κ) (Q:K)  (n0_2:Addr) (i1_2:Int) (kid4_2:Addr) (t202_2:Bool):K :=
 Ite t202_2
  (Ld (n0_2.add 1) Sl.val fun t229=>
  Ar (IntKind.wrap .i64 (i1_2 + 1)) fun t231=>
  Idx t229 t231 1 fun t232=>
  Ld t232 Value.pointer fun t233=>
  Dr <| yh fun S=>
  LdS S kid4_2 Sl.val fun t238=>
  LdS S n0_2 Sl.val fun t242=>
  Idx t242 i1_2 (G.nv + 1) fun t244=>
  vY S t244 (G.nv + 1) fun t245=>
  Bld (G.kz::G.vz).toArray (fun i=>some (i * (G.nv + 1),(G.nv + 1))) [(0,(.agg t245))] fun ct246=>
  New G.tI ct246 fun t246=>
  Sv S<|
  Do G.P (Builtin.append_ #[G.tSI,G.tSI] G.tSI #[(Sl.val t238),(Sl.val (Sl.mk (some t246) 1 1))]) Sl.val fun t247=>
  St kid4_2 (Sl.val t247)<|
  Dr<|
  Nn t233 fun t256=>
  Ld n0_2 Sl.val fun t253=>
  Ld t256 Sl.val fun t258=>
  Idx t258 0 (G.nv + 1) fun t259=>
  LdN t259 (G.nv + 1) fun t260=>
  Idx t253 i1_2 (G.nv + 1) fun t261=>
  StN t261 (G.nv + 1) t260<|
  Ld t256 Sl.val fun t266=>
  G.delIC t266 0 1 fun t267=>
  St t256 (Sl.val t267)<|
  Ld (t256.add 1) Sl.val fun t273=>
  Ite (decide ((0:Int) < (t273.n:Int)))
   (Dr <| yh fun S=>
   LdS S (kid4_2.add 1) Sl.val fun t280=>
   LdS S (t256.add 1) Sl.val fun t284=>
   Idx t284 0 1 fun t285=>
   LdS S t285 Value.pointer fun t286=>
   New G.tK #[(.pointer t286)] fun t287=>
   Sv S<|
   Do G.P (Builtin.append_ #[G.tSK,G.tSK] G.tSK #[(Sl.val t280),(Sl.val (Sl.mk (some t287) 1 1))]) Sl.val fun t288=>
   St (kid4_2.add 1) (Sl.val t288)<|
   Ld (t256.add 1) Sl.val fun t295=>
   G.delKC t295 0 1 fun t296=>
   St (t256.add 1) (Sl.val t296)<|
   Q)
   (Q))
  (Ar (if (1:Int) > i1_2 then 1 else i1_2) fun t18=>
  Dr<|
  Ld (n0_2.add 1) Sl.val fun t22=>
  Ar (IntKind.wrap .i64 (t18 - 1)) fun t24=>
  Idx t22 t24 1 fun t25=>
  Ld t25 Value.pointer fun t26=>
  Ld (n0_2.add 1) Sl.val fun t30=>
  Idx t30 t18 1 fun t32=>
  Ld t32 Value.pointer fun t33=>
  Dr <| yh fun S=>
  Nn t26 fun t36=>
  Ar (IntKind.wrap .i64 (t18 - 1)) fun t44=>
  Nn t33 fun t50=>
  LdS S t36 Sl.val fun t38=>
  LdS S n0_2 Sl.val fun t42=>
  Idx t42 t44 (G.nv + 1) fun t45=>
  vY S t45 (G.nv + 1) fun t46=>
  LdS S t50 Sl.val fun t52=>
  Bld (G.kz::G.vz).toArray (fun i=>some (i * (G.nv + 1),(G.nv + 1))) [(0,(.agg t46))] fun ct47=>
  New G.tI ct47 fun t47=>
  Sv S<|
  Do G.P (Builtin.append_ #[G.tSI,G.tSI] G.tSI #[(Sl.val t38),(Sl.val (Sl.mk (some t47) 1 1))]) Sl.val fun t48=>
  Sv S<|
  Do G.P (Builtin.append_ #[G.tSI,G.tSI] G.tSI #[(Sl.val t48),(Sl.val t52)]) Sl.val fun t53=>
  St t36 (Sl.val t53)<|
  Dr<|
  Ld (t36.add 1) Sl.val fun t60=>
  Ld (t50.add 1) Sl.val fun t64=>
  Do G.P (Builtin.append_ #[G.tSK,G.tSK] G.tSK #[(Sl.val t60),(Sl.val t64)]) Sl.val fun t65=>
  St (t36.add 1) (Sl.val t65)<|
  Ld n0_2 Sl.val fun t72=>
  Ar (IntKind.wrap .i64 (t18 - 1)) fun t74=>
  G.delIC t72 t74 t18 fun t76=>
  St n0_2 (Sl.val t76)<|
  Ld (n0_2.add 1) Sl.val fun t83=>
  Ar (IntKind.wrap .i64 (t18 + 1)) fun t86=>
  G.delKC t83 t18 t86 fun t87=>
  St (n0_2.add 1) (Sl.val t87)<|
  Q)
def zFq (G:BtD κ) (Q:K)  (n0_1:Addr) (i1_1:Int) (kid4_1:Addr) (t97_1:Bool):K :=
 Ite t97_1
  (Ld (n0_1.add 1) Sl.val fun t118=>
  Ar (IntKind.wrap .i64 (i1_1 - 1)) fun t120=>
  Idx t118 t120 1 fun t121=>
  Ld t121 Value.pointer fun t122=>
  Nn t122 fun t124=>
  Ld t124 Sl.val fun t126=>
  Ar (IntKind.wrap .i64 ((t126.n:Int) - 1)) fun t128=>
  Dr <| yh fun S=>
  Ar (IntKind.wrap .i64 (i1_1 - 1)) fun t139=>
  LdS S kid4_1 Sl.val fun t133=>
  LdS S n0_1 Sl.val fun t137=>
  Idx t137 t139 (G.nv + 1) fun t140=>
  vY S t140 (G.nv + 1) fun t141=>
  Bld (G.kz::G.vz).toArray (fun i=>some (i * (G.nv + 1),(G.nv + 1))) [(0,(.agg t141))] fun ct142=>
  New G.tI ct142 fun t142=>
  Sv S<|
  G.insIC t133 0 (Sl.mk (some t142) 1 1) fun t143=>
  St kid4_1 (Sl.val t143)<|
  Dr<|
  Ar (IntKind.wrap .i64 (i1_1 - 1)) fun t151=>
  Ld n0_1 Sl.val fun t149=>
  Ld t124 Sl.val fun t155=>
  Idx t155 t128 (G.nv + 1) fun t157=>
  LdN t157 (G.nv + 1) fun t158=>
  Idx t149 t151 (G.nv + 1) fun t159=>
  StN t159 (G.nv + 1) t158<|
  Ld t124 Sl.val fun t164=>
  Slc t164 0 t128 (t164.c:Int) (G.nv + 1) fun t166=>
  St t124 (Sl.val t166)<|
  Ld (t124.add 1) Sl.val fun t172=>
  Ite (decide ((0:Int) < (t172.n:Int)))
   (Dr <| yh fun S=>
   Ar (IntKind.wrap .i64 (t128 + 1)) fun t185=>
   LdS S (kid4_1.add 1) Sl.val fun t179=>
   LdS S (t124.add 1) Sl.val fun t183=>
   Idx t183 t185 1 fun t186=>
   LdS S t186 Value.pointer fun t187=>
   New G.tK #[(.pointer t187)] fun t188=>
   Sv S<|
   G.insKC t179 0 (Sl.mk (some t188) 1 1) fun t189=>
   St (kid4_1.add 1) (Sl.val t189)<|
   Ld (t124.add 1) Sl.val fun t196=>
   Ar (IntKind.wrap .i64 (t128 + 1)) fun t198=>
   Slc t196 0 t198 (t196.c:Int) 1 fun t199=>
   St (t124.add 1) (Sl.val t199)<|
   Q)
   (Q))
  (Ar (IntKind.wrap .i64 (i1_1 + 1)) fun t204=>
  Ld (n0_1.add 1) Sl.val fun t208=>
  Ite (decide (t204 < (t208.n:Int)))
   (Ld (n0_1.add 1) Sl.val fun t215=>
   Ar (IntKind.wrap .i64 (i1_1 + 1)) fun t217=>
   Idx t215 t217 1 fun t218=>
   Ld t218 Value.pointer fun t219=>
   Nn t219 fun t220=>
   Ld t220 Sl.val fun t222=>
   zFp G Q n0_1 i1_1 kid4_1 (decide ((2:Int) < (t222.n:Int))))
   (zFp G Q n0_1 i1_1 kid4_1 false))
def zac (G:BtD κ) (n0:(Option Addr)) (i1:Int) (Q:K):K :=
 Nn n0 fun t11=>
 Ld (t11.add 1) Sl.val fun t13=>
 Idx t13 i1 1 fun t15=>
 Ld t15 Value.pointer fun t16=>
 Nn t16 fun t92=>
 Ld t92 Sl.val fun t94=>
 Ite (decide ((2:Int) ≤ (t94.n:Int)))
  (Q)
  (Ite (decide ((0:Int) < i1))
   (Ld (t11.add 1) Sl.val fun t104=>
   Ar (IntKind.wrap .i64 (i1 - 1)) fun t106=>
   Idx t104 t106 1 fun t107=>
   Ld t107 Value.pointer fun t108=>
   Nn t108 fun t109=>
   Ld t109 Sl.val fun t111=>
   zFq G Q t11 i1 t92 (decide ((2:Int) < (t111.n:Int))))
   (zFq G Q t11 i1 t92 false))
def zW0 (G:BtD κ) (n0:(Option Addr)) (Q:(Array Value)→K):K :=
 New G.tI (G.kz::G.vz).toArray fun t2=>
 Nn n0 fun t7=>
 Ld (t7.add 1) Sl.val fun t9=>
 Ar (IntKind.wrap .i64 ((t9.n:Int) - 1)) fun t11=>
 Ite (decide ((0:Int) ≤ t11))
  (Ld (t7.add 1) Sl.val fun t17=>
  Idx t17 t11 1 fun t19=>
  Ld t19 Value.pointer fun t20=>
  G.nlastC t20 fun t21=>
  New G.tI (G.kz::G.vz).toArray fun x4=>
  StN x4 (G.nv + 1) t21<|
  G.nmendC (some t7) t11<|
  LdN x4 (G.nv + 1) fun t25=>
  StN t2 (G.nv + 1) t25<|
  LdN t2 (G.nv + 1) fun r0=>
  Q r0)
  (Dr <| yh fun S=>
  LdS S t7 Sl.val fun t29=>
  LdS S t7 Sl.val fun t33=>
  Ar (IntKind.wrap .i64 ((t33.n:Int) - 1)) fun t35=>
  Idx t29 t35 (G.nv + 1) fun t36=>
  vY S t36 (G.nv + 1) fun t37=>
  New G.tI (G.kz::G.vz).toArray fun x5=>
  Sv S<|
  StN x5 (G.nv + 1) t37<|
  Dr<|
  Ld t7 Sl.val fun t42=>
  Ld t7 Sl.val fun t46=>
  Ar (IntKind.wrap .i64 ((t46.n:Int) - 1)) fun t48=>
  Slc t42 0 t48 (t42.c:Int) (G.nv + 1) fun t49=>
  St t7 (Sl.val t49)<|
  LdN x5 (G.nv + 1) fun t52=>
  StN t2 (G.nv + 1) t52<|
  LdN t2 (G.nv + 1) fun r0=>
  Q r0)
def zJb (G:BtD κ) (Q:(Array Value)→Bool→K)  (value4_1:Addr) (ok5_1:Bool):K :=
 LdN value4_1 G.nv fun t94=>
 StN value4_1 G.nv t94<|
 LdN value4_1 G.nv fun r0=>
 Q r0 ok5_1
def zFr (G:BtD κ) (Q:(Array Value)→Bool→K)  (n0_2:(Option Addr)) (key1_2:κ) (value4_2:Addr) (i6_2:Int) (found7_2:Bool) (t14_2:Bool):K :=
 Ite t14_2
  (Nn n0_2 fun t25=>
  Ld t25 Sl.val fun t27=>
  Idx t27 i6_2 (G.nv + 1) fun t29=>
  LdN (t29.add 1) G.nv fun t31=>
  StN value4_2 G.nv t31<|
  Ld t25 Sl.val fun t36=>
  Ar (IntKind.wrap .i64 (i6_2 + 1)) fun t39=>
  G.delIC t36 i6_2 t39 fun t40=>
  St t25 (Sl.val t40)<|
  LdN value4_2 G.nv fun t43=>
  StN value4_2 G.nv t43<|
  LdN value4_2 G.nv fun r0=>
  Q r0 true)
  (Ite found7_2
   (Nn n0_2 fun t47=>
   Ld t47 Sl.val fun t49=>
   Idx t49 i6_2 (G.nv + 1) fun t51=>
   LdN (t51.add 1) G.nv fun t53=>
   StN value4_2 G.nv t53<|
   Dr <| yh fun S=>
   LdS S t47 Sl.val fun t57=>
   LdS S (t47.add 1) Sl.val fun t62=>
   Idx t62 i6_2 1 fun t64=>
   LdS S t64 Value.pointer fun t65=>
   G.nlastC t65 fun t66=>
   Sv S<|
   Idx t57 i6_2 (G.nv + 1) fun t67=>
   StN t67 (G.nv + 1) t66<|
   G.nmendC (some t47) i6_2<|
   LdN value4_2 G.nv fun t71=>
   StN value4_2 G.nv t71<|
   LdN value4_2 G.nv fun r0=>
   Q r0 true)
   (Nn n0_2 fun t74=>
   Ld (t74.add 1) Sl.val fun t76=>
   Ite (decide ((0:Int) < (t76.n:Int)))
    (Ld (t74.add 1) Sl.val fun t83=>
    Idx t83 i6_2 1 fun t85=>
    Ld t85 Value.pointer fun t86=>
    G.ntakeC t86 key1_2 fun t88x0 t88x1=>
    StN value4_2 G.nv t88x0<|
    G.nmendC (some t74) i6_2<|
    zJb G Q value4_2 t88x1)
    (zJb G Q value4_2 false)))
def zW1 (G:BtD κ) (n0:(Option Addr)) (key1:κ) (Q:(Array Value)→Bool→K):K :=
 New G.tV G.vz.toArray fun value4=>
 G.nsearchC n0 key1 fun t11x0 t11x1=>
 Ite t11x1
  (Nn n0 fun t18=>
  Ld (t18.add 1) Sl.val fun t20=>
  zFr G Q (some t18) key1 value4 t11x0 true (decide ((t20.n:Int) = 0)))
  (zFr G Q n0 key1 value4 t11x0 false false)
def zLs (G:BtD κ) (Q:(Array Value)→Bool→K)  (value4_2:Addr) (ok5_2:Bool):K :=
 LdN value4_2 G.nv fun t55=>
 StN value4_2 G.nv t55<|
 LdN value4_2 G.nv fun r0=>
 Q r0 ok5_2
def zLt (G:BtD κ) (Q:(Array Value)→Bool→K)  (t0_1:Addr) (value4_1:Addr) (ok5_1:Bool):K :=
 Ite ok5_1
  (Ld (t0_1.add 1) (Value.int .i64) fun t51=>
  Ar (IntKind.wrap .i64 (t51 - 1)) fun t52=>
  St (t0_1.add 1) (.int .i64 t52)<|
  zLs G Q value4_1 ok5_1)
  (zLs G Q value4_1 ok5_1)
def zJc (G:BtD κ) (Q:(Array Value)→Bool→K)  (t0_3:Addr) (value4_3:Addr) (ok5_3:Bool) (t34_3:Bool):K :=
 Ite t34_3
  (Ld t0_3 Value.pointer fun t39=>
  Nn t39 fun t40=>
  Ld (t40.add 1) Sl.val fun t42=>
  Idx t42 0 1 fun t43=>
  Ld t43 Value.pointer fun t44=>
  St t0_3 (.pointer t44)<|
  zLt G Q t0_3 value4_3 ok5_3)
  (zLt G Q t0_3 value4_3 ok5_3)
def zbG (G:BtD κ) (t0:(Option Addr)) (key1:κ) (Q:(Array Value)→Bool→K):K :=
 New G.tV G.vz.toArray fun value4=>
 Nn t0 fun t8=>
 Ld t8 Value.pointer fun t10=>
 G.ntakeC t10 key1 fun t12x0 t12x1=>
 StN value4 G.nv t12x0<|
 Ld t8 Value.pointer fun t18=>
 Nn t18 fun t19=>
 Ld t19 Sl.val fun t21=>
 Ite (decide ((t21.n:Int) = 0))
  (Ld t8 Value.pointer fun t28=>
  Nn t28 fun t29=>
  Ld (t29.add 1) Sl.val fun t31=>
  zJc G Q t8 value4 t12x1 (decide ((t31.n:Int) = 1)))
  (zJc G Q t8 value4 t12x1 false)
end
structure zJd {κ:Type} (G:BtD κ) (c:κ→κ→Int):Prop extends BtOk G.toBtT c where
 delI:∃ Z,∀ s i j Q w,zPv G.P G.tSI Z (G.nv + 1) s i j Q w→G.delIC s i j Q w
 zPv:∃ Z,∀ s i j Q w,zPv G.P G.tSK Z 1 s i j Q w→G.delKC s i j Q w
 take:∀ n k Q w,zW1 G n k Q w→G.ntakeC n k Q w
 last:∀ n Q w,zW0 G n Q w→G.nlastC n Q w
 mend:∀ n i Q w,zac G n i Q w→G.nmendC n i Q w
end Bt
end
section
open Go Go.RowKit
namespace Bt
section
variable {κ:Type} {B:World} {Γ Γ0 Δ:List zC}
theorem zLu {α:Type} {f:α→List Value} {esz E:Nat} {s:Sl} {L:List α} {i:Nat} {x:α} {k:Array Value→K} (hf:∀ x,(f x).length = esz) (hx:L[i]? = some x) (h:HG B Γ (k (f x).toArray)) [o:zB1 s Γ0 (SlC E esz s (L.flatMap f)) Δ]:HG B Γ (vY (Holds B Γ0) (elA s i esz) esz k):=fun w hw=>by
 refine ⟨(f x).toArray,by simp [hf],fun w' hw'=>?_,h w hw⟩
 obtain ⟨cs,hcs,hrd,hk⟩:=zPw (s:=s) (i:=i) (k:=fun cs _=>cs = (f x).toArray) (E:=E) (Γ:=Γ0) (B:=B) hf hx (fun _ _=>rfl) w' hw'
 rw [← hk]; exact hrd
theorem zP3 {α:Type} {c:α→Value} {E:Nat} {s:Sl} {L:List α} {i:Nat} {x:α} {k:α→K} (hx:L[i]? = some x) (h:HG B Γ (k x)) [o:zB1 s Γ0 (SlC E 1 s (L.map c)) Δ]:HG B Γ (LdS (Holds B Γ0) (elA s i 1) c k):=fun w hw=>by
 refine ⟨x,fun w' hw'=>?_,h w hw⟩
 obtain ⟨h0,h1,h2,h3,h4⟩:=yP hw' (p:=o)
 rw [← add0 (elA s i 1)]
 exact zLo (vs:=L.map c) (off:=0) h0 h3 (by simp [hx])
theorem zSg {α:Type} {f:α→List Value} {esz E:Nat} {s:Sl} {A C:List α} {x y:α} {k:K} (hf:∀ x,(f x).length = esz) (hfl:(f y).all yu = true) (h:HG B (SlC E esz s ((A++y::C).flatMap f)::Δ) k) [o:zB1 s Γ (SlC E esz s ((A++x::C).flatMap f)) Δ]:HG B Γ (StN (elA s A.length esz) esz (f y).toArray k):=by
 rw [← add0 (elA s A.length esz)]
 refine zPs (s:=s) (us:=f y) ?_ (hf y) ?_ hfl
 ·have e:zDb ((A++x::C).flatMap f) (A.length * esz + 0) (f y) = (A++y::C).flatMap f:=by
   have e1:(A++x::C).flatMap f = A.flatMap f++(f x++C.flatMap f):=by simp
   have e2:(A++y::C).flatMap f = A.flatMap f++(f y++C.flatMap f):=by simp
   rw [e1,e2,zD7 (by simp [zX f esz hf]) (by rw [hf,hf])]
  rw [e]; exact h
 ·have e1:((A++x::C).flatMap f).length = (A.length + (C.length + 1)) * esz:=by rw [zX f esz hf]; simp
  rw [e1,Nat.add_mul,Nat.add_mul]; omega
variable {G:BtT κ} {c:κ→κ→Int}
theorem zbH (its:List G.It):wv its ([]:List (Kid G)) = its:=by cases its <;> rfl
theorem zMi {d:Nat} {i1 i2:List G.It} {k1 k2:List (Kid G)} {x:G.It} (h1:Fit d i1 k1) (h2:Fit d i2 k2):wv (i1++x::i2) (k1++k2) = wv i1 k1++x::wv i2 k2:=by
 cases d with
 | zero=>
  have e1:k1 = []:=h1
  have e2:k2 = []:=h2
  subst e1; subst e2
  simp only [List.append_nil,zbH]
 | succ d=>
  obtain ⟨q1,ps1,rfl,rfl⟩:=zSf h1
  obtain ⟨q2,ps2,rfl,rfl⟩:=zSf h2
  have e:wv (ps1.map Prod.fst++x::ps2.map Prod.fst) (q1::ps1.map Prod.snd++q2::ps2.map Prod.snd) = psL q1 (ps1++(x,q2)::ps2):=by
   rw [← zK0]; simp
  rw [e,zK0,zK0]
  simp [psL]
theorem zP4 {d:Nat} {i1 i2:List G.It} {k1 k2:List (Kid G)} {x:G.It} (h1:Fit d i1 k1) (h2:Fit d i2 k2):Fit d (i1++x::i2) (k1++k2):=by
 cases d with
 | zero=>
  have e1:k1 = []:=h1
  have e2:k2 = []:=h2
  subst e1; subst e2; rfl
 | succ d=>
  simp only [Fit,List.length_append,List.length_cons] at h1 h2 ⊢
  omega
theorem zOO {d:Nat} {i1 i2:List G.It} {ks:List (Kid G)} {x:G.It} (h:Fit d (i1++x::i2) ks):∃ k1 k2,ks = k1++k2∧Fit d i1 k1∧Fit d i2 k2:=by
 cases d with
 | zero=>exact ⟨[],[],h,rfl,rfl⟩
 | succ d=>
  simp only [Fit,List.length_append,List.length_cons] at h
  exact ⟨ks.take (i1.length + 1),ks.drop (i1.length + 1),(List.take_append_drop _ _).symm,by simp [Fit]; omega,by simp [Fit]; omega⟩
theorem zOP {d:Nat} {A C:List (Kid G)}:∀ w,Holds B (jQ G d A::jQ G d C::Γ) w ↔ Holds B (jQ G d (A++C)::Γ) w:=fun w=>by
 cases d with
 | zero=>
  show Holds B (Sep.stars []::Sep.stars []::Γ) w ↔ Holds B (Sep.stars []::Γ) w
  exact Holds.flat (Δ:=[])
 | succ d=>
  show Holds B (qY G d A::qY G d C::Γ) w ↔ Holds B (qY G d (A++C)::Γ) w
  constructor
  ·intro h
   have h1:=Holds.flat.1 h
   have h2:=Holds.flat.1 (h1.perm (List.perm_middle (a:=qY G d C) (l₁:=A.map fun q=>yL G d 2 q.1 q.2) (l₂:=Γ)))
   refine Holds.flat.2 (h2.perm ?_)
   rw [List.map_append,List.append_assoc]
   rw [← List.append_assoc,← List.append_assoc]
   exact List.perm_append_comm.append_right Γ
  ·intro h
   have:=zJY (k:=fun w=>Holds B (qY G d A::qY G d C::Γ) w) (fun w h=>h) w h
   exact this
theorem zSh {d:Nat} {A C:List (Kid G)} {k:K} (h:HG B (jQ G d (A++C)::Γ) k):HG B (jQ G d A::jQ G d C::Γ) k:=fun w hw=>h w ((zOP w).1 hw)
theorem zW2 {d:Nat} {A C:List (Kid G)} {k:K} (h:HG B (jQ G d A::jQ G d C::Γ) k):HG B (jQ G d (A++C)::Γ) k:=fun w hw=>h w ((zOP w).2 hw)
end
end Bt
end
section
open Go Go.RowKit
namespace Bt
section
variable {κ:Type} {G:BtD κ} {c:κ→κ→Int} {B:World} {Γ Δ:List zC}
theorem zDh {s:Sl} {its:List G.It} (h:(its.flatMap G.f).length = s.n * (G.nv + 1)):s.n = its.length:=by
 rw [zX G.f _ G.qy] at h
 exact (Nat.eq_of_mul_eq_mul_right (by omega) h).symm
theorem zFF {s:Sl} {kp:List (Option Addr)} (h:(kp.map Value.pointer).length = s.n * 1):s.n = kp.length:=by rw [zPx] at h; omega
theorem zIo (ok:BtOk G.toBtT c) (x:G.It):(G.f x).all yu = true:=List.all_eq_true.2 (zG5 ok x)
theorem zVL {its:List G.It} {x:G.It}:(its.flatMap G.f).take (0 * (G.nv + 1))++G.f x++(its.flatMap G.f).drop (0 * (G.nv + 1)) = (x::its).flatMap G.f:=by simp
theorem zSi {kp:List (Option Addr)} {x:Option Addr}:(kp.map Value.pointer).take (0 * 1)++[Value.pointer x]++(kp.map Value.pointer).drop (0 * 1) = (x::kp).map Value.pointer:=by simp
theorem zOQ {s:Sl} {its:List G.It} {m:Nat} {k:K} (hm:m ≤ s.n) (hc:s.n ≤ s.c) (h:HG B (vQ G.toBtT ⟨s.a,m,s.c⟩ (its.take m)::Δ) k) [p:zB1 s Γ (vQ G.toBtT s its) Δ]:HG B Γ k:=by
 refine zCs (s:=s) (m:=m) (c':=s.c) hm (Nat.le_trans hm hc) (Nat.le_refl _) ?_
 rw [zDd G.qy]
 exact h
theorem zVM {s:Sl} {kp:List (Option Addr)} {m:Nat} {k:K} (hm:m ≤ s.n) (hc:s.n ≤ s.c) (h:HG B (vR G.toBtT ⟨s.a,m,s.c⟩ (kp.take m)::Δ) k) [p:zB1 s Γ (vR G.toBtT s kp) Δ]:HG B Γ k:=by
 refine zCs (s:=s) (m:=m) (c':=s.c) hm (Nat.le_trans hm hc) (Nat.le_refl _) ?_
 rw [show (kp.map Value.pointer).take (m * 1) = (kp.take m).map Value.pointer by simp]
 exact h
theorem zZM (ok:zJd G c) {d n:Nat} {s kd sp kp sq kq:Sl} {A C:List (Kid G.toBtT)} {p q:Kid G.toBtT} {IA IC ip iq:List G.It} {x y:G.It} {cp cq:List (Kid G.toBtT)} {i:Int} {Q:K}
  (hi:i = ((A.length + 1:Nat):Int)) (hA:IA.length = A.length) (hl:IA.length + IC.length ≤ 5) (hC:C.length = IC.length) (hp:2 ≤ ip.length∧ip.length ≤ 5) (hq:iq.length ≤ 1) (hfp:Fit d (ip++[y]) cp) (hfq:Fit d iq cq)
  (h:∀ P' Q',P'++y::Q' = wv (ip++[y]) cp++x::wv iq cq→∀ s' kd',HG B (qG G.toBtT n s' kd'::vQ G.toBtT s' (IA++y::IC)::vR G.toBtT kd' ((A++p::q::C).map ptr)::yL G.toBtT d 2 p.1 P'::yL G.toBtT d 2 q.1 Q'::Γ) Q) :
  HG B (qG G.toBtT n s kd::vQ G.toBtT s (IA++x::IC)::vR G.toBtT kd ((A++p::q::C).map ptr)::zJa G.toBtT d p.1 sp kp (ip++[y]) cp (zJa G.toBtT d q.1 sq kq iq cq Γ)) (zFq G Q ⟨n,0,none⟩ i ⟨q.1,0,none⟩ true):=by
 subst hi
 have okT:=ok.toBtOk
 obtain ⟨cp',kz,rfl,hf1,hfz⟩:=zOO (i1:=ip) (i2:=[]) hfp
 refine yS s fun a1 a2 a3 a4=>?_
 refine yS kd fun b1 b2 b3 b4=>?_
 refine yS sp fun c1 c2 c3 c4=>?_
 refine yS kp fun d1 d2 d3 d4=>?_
 refine yS sq fun e1 e2 e3 e4=>?_
 refine yS kq fun f1 f2 f3 f4=>?_
 have hsn:=zDh a1
 have hkn:=zFF b1
 have hspn:=zDh c1
 have hkpn:=zFF d1
 have hsqn:=zDh e1
 have hkqn:=zFF f1
 simp only [List.length_append,List.length_cons,List.length_nil,List.length_map] at hsn hkn hspn hkpn hsqn hkqn
 unfold zFq
 refine s_t ?_
 refine yB (b:=n) (x:=kd) ?_
 refine qB ?_
 refine vg (s:=kd) (i:=A.length) ?_
 refine zCi (s:=kd) (x:=ptr p) (by simp) ?_
 refine uP ?_
 refine yB (b:=p.1) (x:=sp) ?_
 refine qB ?_
 refine vo ?_
 refine zNe ?_
 refine qB ?_
 refine jC (b:=q.1) (x:=sq) ?_
 refine jC (b:=n) (x:=s) ?_
 refine vg (s:=s) (i:=A.length) ?_
 refine zLu (s:=s) (x:=x) G.qy (by rw [← hA]; simp) ?_
 refine zBf ?_ (by simp [okT.vz.1]) (G.qy _)
 refine zH fun t=>?_
 refine zBC ?_
 obtain ⟨R,rot,hins⟩:=okT.insI
 refine fun w hw=>hins _ _ _ _ _ ?_
 refine hg hw ?_
 clear hw w
 refine zRI (s:=sq) (i:=0) (t:=t) (by omega) (by omega) (G.qy _) (by omega) (zEt okT _) (zG5 okT _) (fun sq' hsq'=>?_) okT.TI okT.ZI
 rw [zVL]
 refine zCB (b:=q.1) ?_
 refine vo ?_
 refine qB ?_
 refine yB (b:=n) (x:=s) ?_
 refine yB (b:=p.1) (x:=sp) ?_
 refine vg (s:=sp) (i:=ip.length) ?_
 refine zPw (s:=sp) (x:=y) G.qy (by simp) ?_
 refine vg (s:=s) (i:=IA.length) ?_
 refine zSg (s:=s) (A:=IA) (x:=x) (y:=y) G.qy (zIo okT y) ?_
 refine yB (b:=p.1) (x:=sp) ?_
 refine zAX (lo:=0) (hi:=ip.length) (mx:=sp.c) ?_
 rw [zKA c3]
 refine zCB (b:=p.1) ?_
 refine zOQ (s:=sp) (m:=ip.length) (by omega) c2 ?_
 rw [List.take_left]
 refine yB (b:=p.1) (x:=kp) ?_
 have fin:∀ sp2 kp2 sq2 kq2,HG B (zJa G.toBtT d p.1 sp2 kp2 ip cp' (zJa G.toBtT d q.1 sq2 kq2 (x::iq) (kz++cq) (qG G.toBtT n s kd::vQ G.toBtT s (IA++y::IC)::vR G.toBtT kd ((A++p::q::C).map ptr)::Γ))) Q:=fun sp2 kp2 sq2 kq2=>by
  refine zEI (m:=2) hf1 hp.2 (fun _=>.inr fun h=>by rw [h] at hp; simp at hp) ?_
  refine zB (Δ:=zJa G.toBtT d q.1 sq2 kq2 (x::iq) (kz++cq) (yL G.toBtT d 2 p.1 (wv ip cp')::qG G.toBtT n s kd::vQ G.toBtT s (IA++y::IC)::vR G.toBtT kd ((A++p::q::C).map ptr)::Γ)) ?_
  refine zEI (m:=2) (zP4 (i1:=[]) hfz hfq) (by simp; omega) (fun _=>.inr (by simp)) ?_
  refine zB (h (wv ip cp') (wv (x::iq) (kz++cq)) ?_ s kd)
  rw [zMi hf1 hfz,show x::iq = []++x::iq from rfl,zMi hfz hfq]
  simp
 cases d with
 | zero=>
  have e1:cp' = []:=hf1
  have e2:kz = []:=hfz
  have e3:cq = []:=hfq
  subst e1; subst e2; subst e3
  refine s_f ?_ (by simp at hkpn; simp [hkpn])
  simp only [List.append_nil] at fin ⊢
  exact zB (fin ⟨sp.a,ip.length,sp.c⟩ kp sq' kq)
 | succ d=>
  obtain ⟨z,rfl⟩:∃ z,kz = [z]:=List.length_eq_one_iff.1 hfz
  have hcl:cp'.length = ip.length + 1:=hf1
  have hcql:cq.length = iq.length + 1:=hfq
  simp only [List.length_cons,List.length_nil] at hkpn
  refine s_t ?_ (by simp; omega)
  refine vo ?_
  refine zNe ?_
  refine qB ?_
  refine jC (b:=q.1) (x:=kq) ?_
  refine jC (b:=p.1) (x:=kp) ?_
  refine vg (s:=kp) (i:=ip.length + 1) ?_
  refine zP3 (s:=kp) (c:=Value.pointer) (L:=(cp'++[z]).map ptr) (x:=ptr z) (by rw [← hcl]; simp) ?_
  refine zH fun t2=>?_
  refine zBC ?_
  obtain ⟨R2,rot2,hins2⟩:=okT.zRH
  refine fun w hw=>hins2 _ _ _ _ _ ?_
  refine hg hw ?_
  clear hw w
  refine zRI (s:=kq) (i:=0) (t:=t2) (us:=[Value.pointer (ptr z)]) (by omega) (by omega) rfl (by omega) (zHr _) (by simp [yu]) (fun kq' hkq'=>?_) okT.TK okT.ZK
  rw [zSi,show ptr z::cq.map ptr = ([z]++cq).map ptr from rfl]
  refine zCB (b:=q.1) ?_
  refine yB (b:=p.1) (x:=kp) ?_
  refine qB ?_
  refine zAX (lo:=0) (hi:=ip.length + 1) (mx:=kp.c) ?_
  rw [zKA d3]
  refine zCB (b:=p.1) ?_
  refine zVM (s:=kp) (m:=ip.length + 1) (by omega) d2 ?_
  rw [show ((cp'++[z]).map ptr).take (ip.length + 1) = cp'.map ptr by rw [List.map_append]; exact List.take_left' (by simp [hcl])]
  refine ze (jQ G.toBtT (d + 1) (cp'++[z])) ?_
  refine zW2 ?_
  refine zB (Δ:=jQ G.toBtT (d + 1) [z]::jQ G.toBtT (d + 1) cq::jQ G.toBtT (d + 1) cp'::qG G.toBtT p.1 ⟨sp.a,ip.length,sp.c⟩ ⟨kp.a,ip.length + 1,kp.c⟩::vQ G.toBtT ⟨sp.a,ip.length,sp.c⟩ ip::vR G.toBtT ⟨kp.a,ip.length + 1,kp.c⟩ (cp'.map ptr)::qG G.toBtT q.1 sq' kq'::vQ G.toBtT sq' (x::iq)::vR G.toBtT kq' (([z]++cq).map ptr)::qG G.toBtT n s kd::vQ G.toBtT s (IA++y::IC)::vR G.toBtT kd ((A++p::q::C).map ptr)::Γ) ?_
  refine zSh ?_
  exact zB (fin ⟨sp.a,ip.length,sp.c⟩ ⟨kp.a,ip.length + 1,kp.c⟩ sq' kq')
end
end Bt
end
section
open Go Go.RowKit Go.MapKept
section
variable {α β:Type} [DecidableEq α]
def y8 (k:α):List (α×β)→Option β
 | []=>none
 | p::m=>if k = p.1 then some p.2 else y8 k m
def vS (k:α) (v:β):List (α×β)→List (α×β)
 | []=>[(k,v)]
 | p::m=>if k = p.1 then (k,v)::m else p::vS k v m
def zIp (k:α):List (α×β)→List (α×β)
 | []=>[]
 | p::m=>if k = p.1 then m else p::zIp k m
theorem zFs (k:α):∀ m:List (α×β),(y8 k m = none∧(∀ v,vS k v m = m++[(k,v)])∧zIp k m = m∧∀ p ∈ m,p.1 ≠ k) ∨
  ∃ j x,j < m.length∧m[j]? = some (k,x)∧(∀ i,i < j→∀ p,m[i]? = some p→p.1 ≠ k)∧y8 k m = some x∧(∀ v,vS k v m = m.set j (k,v))∧zIp k m = m.eraseIdx j
 | []=>.inl ⟨rfl,fun _=>rfl,rfl,by simp⟩
 | p::m=>by
  by_cases hk:k = p.1
  ·refine .inr ⟨0,p.2,by simp,by rw [hk]; rfl,fun i hi=>by omega,by simp [y8,hk],fun v=>by simp [vS,hk],by simp [zIp,hk]⟩
  ·rcases zFs k m with ⟨h1,h2,h3,h4⟩ | ⟨j,x,hj,h0,hb,h1,h2,h3⟩
   ·refine .inl ⟨by simp [y8,hk,h1],fun v=>by simp [vS,hk,h2],by simp [zIp,hk,h3],fun q hq=>?_⟩
    rcases List.mem_cons.1 hq with rfl | hq
    ·exact fun e=>hk e.symm
    ·exact h4 q hq
   ·refine .inr ⟨j + 1,x,by simpa using hj,by simpa using h0,fun i hi q hq=>?_,by simp [y8,hk,h1],fun v=>by simp [vS,hk,h2],by simp [zIp,hk,h3]⟩
    cases i with
    | zero=>simp at hq; subst hq; exact fun e=>hk e.symm
    | succ i=>exact hb i (by omega) q (by simpa using hq)
end
structure zLE {α:Type} (d:TypeDesc) (enc:α→Value):Prop where
 key:∀ a,IsKey d (enc a)
 inj:∀ a b,enc a = enc b→a = b
 bits:∀ a,Instr.sameBits 10000 (enc a) (enc a) = true
theorem zRS:zLE .string Value.string:=⟨fun _=>trivial,fun a b h=>by injection h,fun a=>by
 show (a == a) = true
 rw [bytes_beq]⟩
section
variable {α β:Type} [DecidableEq α] {P:Program} {B w:World} {Γ:List zC} {enc:α→Value} {cV:β→Value}
def zFG (enc:α→Value) (cV:β→Value) (es:Array MapEntry) (m:List (α×β)):Prop:=es.toList.map (fun e=>(e.key,e.val)) = m.map fun p=>(enc p.1,cV p.2)
def stamps (es:Array MapEntry) (c:Nat):Prop:=(es.toList.map (·.born)).Nodup∧∀ e ∈ es.toList,e.born < c
theorem zSj (c:Nat):stamps #[] c:=⟨by simp,by simp⟩
theorem zG8 {es:Array MapEntry} {c:Nat} (h:stamps es c) (k v:Value):stamps (es.push { key:=k,val:=v,born:=c }) (c + 1):=by
 refine ⟨?_,fun e he=>?_⟩
 ·simp only [Array.toList_push,List.map_append,List.map_cons,List.map_nil]
  rw [List.nodup_append]
  refine ⟨h.1,by simp,fun x hx y hy=>?_⟩
  simp only [List.mem_singleton] at hy
  subst hy
  obtain ⟨e,he,rfl⟩:=List.mem_map.1 hx
  have:=h.2 e he
  omega
 ·simp only [Array.toList_push] at he
  rcases List.mem_append.1 he with he | he
  ·have:=h.2 e he; omega
  ·simp only [List.mem_singleton] at he; subst he; exact Nat.lt_succ_self _
theorem zFY {es:Array MapEntry} {c:Nat} (h:stamps es c) (j:Nat) (k v:Value):stamps (es.modify j fun e=>{ e with key:=k,val:=v }) c:=by
 have e1:(es.modify j fun e=>{ e with key:=k,val:=v }).toList.map (·.born) = es.toList.map (·.born):=by
  apply List.ext_getElem?
  intro i
  simp only [List.getElem?_map,Array.getElem?_toList,Array.getElem?_modify]
  split
  ·cases es[i]? <;> rfl
  ·rfl
 refine ⟨by rw [e1]; exact h.1,fun e he=>?_⟩
 have:e.born ∈ es.toList.map (·.born):=by rw [← e1]; exact List.mem_map_of_mem he
 obtain ⟨e',he',hb⟩:=List.mem_map.1 this
 rw [← hb]; exact h.2 e' he'
theorem zP5 {es:Array MapEntry} {c:Nat} (h:stamps es c) (j:Nat):stamps (es.eraseIdxIfInBounds j) c:=by
 have hs:List.Sublist (es.eraseIdxIfInBounds j).toList es.toList:=by
  unfold Array.eraseIdxIfInBounds
  split
  ·rw [Array.toList_eraseIdx]; exact List.eraseIdx_sublist _ _
  ·exact List.Sublist.refl _
 exact ⟨h.1.sublist (hs.map _),fun e he=>h.2 e (hs.subset he)⟩
def xE (enc:α→Value) (cV:β→Value) (b:Nat) (m:List (α×β)):zC:=ex fun es:Array MapEntry=>ex fun c:Nat=>fun g=>(zFG enc cV es m∧stamps es c)∧blk b (.map es c) g
theorem xE.opens {b:Nat} {m:List (α×β)} (h:Holds B (xE enc cV b m::Γ) w):∃ es c,(zFG enc cV es m∧stamps es c)∧Holds B (blk b (.map es c)::Γ) w:=by
 obtain ⟨es,h⟩:=Holds.ex.1 h
 obtain ⟨c,h⟩:=Holds.ex.1 h
 exact ⟨es,c,h.fact fun g hg=>hg.1,h.imp fun g hg=>hg.2⟩
theorem xE.shuts {b:Nat} {m:List (α×β)} {es:Array MapEntry} {c:Nat} (hr:zFG enc cV es m∧stamps es c) (h:Holds B (blk b (.map es c)::Γ) w):Holds B (xE enc cV b m::Γ) w :=
 Holds.ex.2 ⟨es,Holds.ex.2 ⟨c,h.imp fun g hg=>⟨hr,hg⟩⟩⟩
theorem zFS {es:Array MapEntry} {m:List (α×β)} (hr:zFG enc cV es m) (i:Nat):(es.toList[i]?).map (fun e=>(e.key,e.val)) = (m[i]?).map fun p=>(enc p.1,cV p.2):=by
 have:=congrArg (·[i]?) hr
 simpa using this
theorem zVN {d:TypeDesc} (hE:zLE d enc) {es:Array MapEntry} {m:List (α×β)} (hr:zFG enc cV es m):∀ x ∈ es.toList,IsKey d x.key:=by
 intro x hx
 have:(x.key,x.val) ∈ m.map fun p=>(enc p.1,cV p.2):=by rw [← hr]; exact List.mem_map_of_mem hx
 obtain ⟨p,_,hp⟩:=List.mem_map.1 this
 have:enc p.1 = x.key:=congrArg Prod.fst hp
 rw [← this]; exact hE.key _
theorem zSk {d:TypeDesc} (hE:zLE d enc) {es:Array MapEntry} {m:List (α×β)} (hr:zFG enc cV es m) (k:α) :
  (Instr.findNow d (enc k) es.toList 0 = some none∧y8 k m = none∧(∀ v,vS k v m = m++[(k,v)])∧zIp k m = m) ∨
  ∃ j x,Instr.findNow d (enc k) es.toList 0 = some (some (j,cV x))∧j < m.length∧m[j]? = some (k,x)∧y8 k m = some x∧(∀ v,vS k v m = m.set j (k,v))∧zIp k m = m.eraseIdx j:=by
 have hlen:es.toList.length = m.length:=by have:=congrArg List.length hr; simpa using this
 rcases zFs k m with ⟨h1,h2,h3,h4⟩ | ⟨j,x,hj,h0,hb,h1,h2,h3⟩
 ·refine .inl ⟨?_,h1,h2,h3⟩
  rcases findNow_spec (hE.key k) es.toList 0 (zVN hE hr) with ⟨g1,_⟩ | ⟨i,e,g1,g2,g3⟩
  ·exact g1
  ·have:=zFS hr i
   rw [g2] at this
   cases hm:m[i]? with
   | none=>rw [hm] at this; simp at this
   | some p=>
    rw [hm] at this
    simp only [Option.map_some,Option.some.injEq,Prod.mk.injEq] at this
    exact absurd (hE.inj _ _ (this.1.symm.trans g3)) (h4 p (List.mem_of_getElem? hm))
 ·have key:∀ (l:List MapEntry) (m:List (α×β)) (j i:Nat),l.map (fun e=>(e.key,e.val)) = m.map (fun p=>(enc p.1,cV p.2))→m[j]? = some (k,x)→(∀ i,i < j→∀ p,m[i]? = some p→p.1 ≠ k) →
    Instr.findNow d (enc k) l i = some (some (i + j,cV x)):=by
   intro l
   induction l with
   | nil=>intro m j i hr hm _; cases m <;> simp at hr hm
   | cons e l ih=>
    intro m j i hr hm hb
    cases m with
    | nil=>simp at hr
    | cons p m=>
     simp only [List.map_cons,List.cons.injEq,Prod.mk.injEq] at hr
     obtain ⟨⟨e1,e2⟩,hr⟩:=hr
     obtain ⟨r,hs,hiff⟩:=sameNow_of_keys (hE.key k) (hE.key p.1)
     unfold Instr.findNow
     rw [e1,hs]
     cases j with
     | zero=>
      simp only [List.getElem?_cons_zero,Option.some.injEq] at hm
      subst hm
      have:r = true:=hiff.2 rfl
      subst this
      simp only [e2,Nat.add_zero]
     | succ j=>
      have hne:p.1 ≠ k:=hb 0 (by omega) p rfl
      have:r = false:=by
       cases r with
       | false=>rfl
       | true=>exact absurd (hE.inj _ _ (hiff.1 rfl)) (fun e=>hne e.symm)
      subst this
      simp only
      rw [ih m j (i + 1) hr (by simpa using hm) (fun i' hi' q hq=>hb (i' + 1) (by omega) q (by simpa using hq))]
      congr 3; omega
  refine .inr ⟨j,x,?_,hj,h0,h1,h2,h3⟩
  have:=key es.toList m j 0 hr h0 hb
  rwa [Nat.zero_add] at this
def zFt (P:Program) (T:TypeId) (d:TypeDesc) (E:TypeId):Prop:=∃ kt,P.underlying T = some (.map kt E)∧P.underlying kt = some d
theorem zRT {T E:TypeId} {d:TypeDesc} {b:Nat} {m:List (α×β)} {z:β} {a:α} (hT:zFt P T d E) (hE:zLE d enc) (hz:zBl P E (cV z)) {es:Array MapEntry} {c:Nat} (hb:w.heap[b]? = some (.map es c)) (hr:zFG enc cV es m) (ok:Bool) :
  (Instr.lookup T (.map (some b)) (enc a) ok).run P w = .ok (if ok then .tuple #[cV ((y8 a m).getD z),.bool (y8 a m).isSome] else cV ((y8 a m).getD z)) w:=by
 obtain ⟨kt,hT,hd⟩:=hT
 unfold Instr.lookup
 simp only [Sem.run_bind,run_underlying hT,Result.andThen,MapKept.run_getObj_map hb,run_checkKey hd (hE.key a),Sem.run_pure]
 rcases zSk hE hr a with ⟨h1,h2,_⟩ | ⟨j,x,h1,_,_,h2,_⟩
 ·simp only [run_findKey hd h1,Result.andThen,Sem.run_bind,zAx hz,Sem.run_pure,h2]
  cases ok <;> rfl
 ·simp only [run_findKey hd h1,Result.andThen,Sem.run_bind,Sem.run_pure,h2]
  cases ok <;> rfl
theorem zZN {T E:TypeId} {d:TypeDesc} {b:Nat} {m:List (α×β)} {z:β} {a:α} {k:β→K} (hT:zFt P T d E) (hE:zLE d enc) (hz:zBl P E (cV z)) (h:Holds B (xE enc cV b m::Γ) w)
  (hk:k ((y8 a m).getD z) w):Rd P (Instr.lookup T (.map (some b)) (enc a) false) cV k w:=by
 obtain ⟨es,c,⟨hr,hst⟩,h⟩:=xE.opens h
 exact ⟨_,zRT hT hE hz h.block hr false,hk⟩
theorem Holds.zGD {b:Nat} {es es':Array MapEntry} {c c':Nat} (h:Holds B (blk b (.map es c)::Γ) w):(setObj b (.map es' c')).run P w = .ok () { w with heap:=w.heap.setIfInBounds b (.map es' c') } ∧
  Holds B (blk b (.map es' c')::Γ) { w with heap:=w.heap.setIfInBounds b (.map es' c') } :=
 ⟨run_setObj_map _ h.block,h.setBlock rfl⟩
theorem zW3 {γ:Type} {cG:γ→Value} {g:β→γ} {T E:TypeId} {d:TypeDesc} {b:Nat} {m:List (α×β)} {z:β} {a:α} {k:γ→Bool→K} (hc:∀ x,cV x = cG (g x)) (hT:zFt P T d E) (hE:zLE d enc) (hz:zBl P E (cV z)) (h:Holds B (xE enc cV b m::Γ) w)
  (hk:k (g ((y8 a m).getD z)) (y8 a m).isSome w):Rd2 P (Instr.lookup T (.map (some b)) (enc a) true) (fun x y=>.tuple #[cG x,.bool y]) k w:=by
 obtain ⟨es,c,⟨hr,hst⟩,h⟩:=xE.opens h
 have:=zRT (a:=a) hT hE hz h.block hr true
 exact ⟨g ((y8 a m).getD z),_,by rw [hc] at this; exact this,hk⟩
theorem zcL {T E:TypeId} {d:TypeDesc} {b:Nat} {m:List (α×β)} {a:α} {v:β} {k:K} (hT:zFt P T d E) (hE:zLE d enc) (h:Holds B (xE enc cV b m::Γ) w)
  (hk:∀ w',Holds B (xE enc cV b (vS a v m)::Γ) w'→k w'):DoU P (Instr.mapUpdate T (.map (some b)) (enc a) (cV v)) k w:=by
 obtain ⟨kt,hT,hd⟩:=hT
 obtain ⟨es,c,⟨hr,hst⟩,h⟩:=xE.opens h
 have hb:=h.block
 have hlen:es.size = m.length:=by have:=congrArg List.length hr; simpa using this
 unfold Instr.mapUpdate DoU
 simp only [Sem.run_bind,run_underlying hT,Result.andThen,MapKept.run_getObj_map hb,run_checkKey hd (hE.key a)]
 rcases zSk hE hr a with ⟨h1,_,h2,_⟩ | ⟨j,x,h1,hj,h0,_,h2,_⟩
 ·simp only [run_findKey hd h1,Result.andThen]
  obtain ⟨e1,h3⟩:=h.zGD (P:=P) (es':=es.push { key:=enc a,val:=cV v,born:=c }) (c':=c + 1)
  refine ⟨_,_,e1,hk _ (xE.shuts ⟨?_,zG8 hst _ _⟩ h3)⟩
  rw [h2]
  simp only [zFG,Array.toList_push,List.map_append,List.map_cons,List.map_nil]
  rw [show es.toList.map (fun e=>(e.key,e.val)) = _ from hr]
 ·have hes:∃ e,es.toList[j]? = some e∧e.key = enc a:=by
   have:=zFS hr j
   rw [h0] at this
   cases he:es.toList[j]? with
   | none=>rw [he] at this; simp at this
   | some e=>
    rw [he] at this
    simp only [Option.map_some,Option.some.injEq,Prod.mk.injEq] at this
    exact ⟨e,rfl,this.1⟩
  obtain ⟨e,he,hek⟩:=hes
  have he2:es[j]? = some e:=by rw [← he,Array.getElem?_toList]
  simp only [run_findKey hd h1,Result.andThen,Sem.run_bind,he2,Option.map_some,Option.getD_some,hek,Instr.keyThatStays,hE.bits,if_true,Sem.run_pure]
  obtain ⟨e1,h3⟩:=h.zGD (P:=P) (es':=es.modify j fun e=>{ e with key:=enc a,val:=cV v }) (c':=c)
  refine ⟨_,_,e1,hk _ (xE.shuts ⟨?_,zFY hst _ _ _⟩ h3)⟩
  rw [h2]
  simp only [zFG]
  apply List.ext_getElem?
  intro i
  have hi:=zFS hr i
  simp only [List.getElem?_map,Array.getElem?_toList,Array.getElem?_modify] at hi ⊢
  by_cases hij:j = i
  ·subst hij
   rw [List.getElem?_set_self hj,he2]
   simp
  ·rw [List.getElem?_set_ne hij,if_neg hij]
   exact hi
end
section
variable {α β γ:Type} [DecidableEq α]
theorem zFu (g:β→γ) (k:α):∀ m:List (α×β),y8 k (m.map fun p=>(p.1,g p.2)) = (y8 k m).map g
 | []=>rfl
 | p::m=>by
  simp only [List.map_cons,y8]
  split
  ·rfl
  ·exact zFu g k m
theorem zRU (g:β→γ) (k:α) (v:β):∀ m:List (α×β),vS k (g v) (m.map fun p=>(p.1,g p.2)) = (vS k v m).map fun p=>(p.1,g p.2)
 | []=>rfl
 | p::m=>by
  simp only [List.map_cons,vS]
  split
  ·rfl
  ·rw [List.map_cons,zRU g k v m]
theorem zFv {k:α} {v:β} {m:List (α×β)} (h:y8 k m = none):vS k v m = m++[(k,v)]:=by
 rcases zFs k m with ⟨_,h2,_⟩ | ⟨_,_,_,_,_,h1,_⟩
 ·exact h2 v
 ·rw [h] at h1; cases h1
end
end
section
open Go Go.RowKit
section
variable {α β:Type} [DecidableEq α] {P:Program} {B w:World} {Γ Δ:List zC} {enc:α→Value} {cV:β→Value} {k:K}
instance (priority:=high) zcl {α β:Type} [DecidableEq α] {enc:α→Value} {cV:β→Value} {b:Nat} {m:List (α×β)} {Γ:List zC}:Own b (xE enc cV b m::Γ) (xE enc cV b m) Γ:=⟨.refl _⟩
theorem zJe {T:TypeId} {k:Option Nat→K} (h:∀ b,HG B (xE enc cV b []::Γ) (k (some b))):HG B Γ (Do P (Instr.makeMap T none) Value.map k):=fun w hw=>by
 refine ⟨some w.heap.size,{ w with heap:=w.heap.push (.map #[] 0) },rfl,h _ _ (xE.shuts (es:=#[]) (c:=0) ⟨rfl,zSj 0⟩ (hw.alloc _))⟩
theorem zZO {γ:Type} {cG:γ→Value} {g:β→γ} {T E:TypeId} {d:TypeDesc} {b:Nat} {m:List (α×β)} {z:β} {a:α} {k:γ→Bool→K} (hc:∀ x,cV x = cG (g x)) (hT:zFt P T d E) (hE:zLE d enc) (hz:zBl P E (cV z)) (h:HG B Γ (k (g ((y8 a m).getD z)) (y8 a m).isSome)) [p:Own b Γ (xE enc cV b m) Δ] :
  HG B Γ (Rd2 P (Instr.lookup T (.map (some b)) (enc a) true) (fun x y=>.tuple #[cG x,.bool y]) k):=fun w hw=>zW3 hc hT hE hz (hw.perm p.perm) (h w hw)
theorem zZP {γ:Type} {cG:γ→Value} {g:β→γ} {T E:TypeId} {d:TypeDesc} {b:Nat} {m:List (α×β)} {z:β} {a:α} {k:γ→K} (hc:∀ x,cV x = cG (g x)) (hT:zFt P T d E) (hE:zLE d enc) (hz:zBl P E (cV z)) (h:HG B Γ (k (g ((y8 a m).getD z)))) [p:Own b Γ (xE enc cV b m) Δ] :
  HG B Γ (Rd P (Instr.lookup T (.map (some b)) (enc a) false) cG k):=fun w hw=>by
 obtain ⟨x,hx,hk⟩:=zZN (P:=P) (T:=T) (a:=a) (k:=fun y w=>y = (y8 a m).getD z∧k (g y) w) hT hE hz (hw.perm p.perm) ⟨rfl,h w hw⟩
 obtain ⟨rfl,hk⟩:=hk
 exact ⟨_,by rw [hx,hc],hk⟩
theorem zW4 {γ:Type} {cG:γ→Value} {T E:TypeId} {d:TypeDesc} {b:Nat} {m:List (α×β)} {a:α} {v:β} {x:Value} (hx:x = cV v) (hT:zFt P T d E) (hE:zLE d enc) (h:HG B (xE enc cV b (vS a v m)::Δ) k) [p:Own b Γ (xE enc cV b m) Δ] :
  HG B Γ (DoU P (Instr.mapUpdate T (.map (some b)) (enc a) x) k):=fun w hw=>by subst hx; exact zcL hT hE (hw.perm p.perm) fun w' h'=>h w' h'
theorem zP6 {zero:Array Value} {pl:Nat→Option (Nat×Nat)} {vs:List (Nat×Value)} {cs:List Value} {k:Array Value→K} (h:HG B Γ (k cs.toArray)) (hc:Instr.fill pl zero vs = some cs.toArray:=by rfl):HG B Γ (Bld zero pl vs k):=fun w hw=>⟨_,hc,h w hw⟩
theorem zW5 {F:α×β→zC} {m:List (α×β)} {a:α} {v:β} (h:HG B (Sep.stars ((vS a v m).map F)::Γ) k):HG B (F (a,v)::Sep.stars (m.map F)::Γ) k:=by
 rcases zFs a m with ⟨_,h2,_,_⟩ | ⟨j,x,hj,h0,_,_,h2,_⟩
 ·rw [h2 v] at h
  have e:m = m++[]:=by simp
  rw [e]
  exact zAb (A:=m) (C:=[]) (x:=(a,v)) h
 ·rw [h2 v] at h
  have hj':=List.getElem?_eq_some_iff.1 h0
  have e1:m = m.take j++(a,x)::m.drop (j + 1):=by
   obtain ⟨h3,h4⟩:=hj'
   rw [← h4,← List.drop_eq_getElem_cons h3,List.take_append_drop]
  have e2:m.set j (a,v) = m.take j++(a,v)::m.drop (j + 1):=by
   rw [List.set_eq_take_append_cons_drop,if_pos hj]
  rw [e2] at h
  rw [e1]
  refine zDZ ?_
  refine zFk ?_
  refine zB (Δ:=F (a,v)::Sep.stars ((m.take j++m.drop (j + 1)).map F)::Γ) ?_
  exact zAb h
theorem zBh (m:List (α×β)) (a a':α) (v:β):y8 a' (vS a v m) = if a' = a then some v else y8 a' m:=by
 induction m with
 | nil=>simp [vS,y8]
 | cons p m ih=>
  unfold vS
  split
  ·rename_i h
   subst h
   by_cases h2:a' = p.1 <;> simp [y8,h2]
  ·rename_i h
   by_cases h2:a' = p.1
   ·simp [y8,h2]
    intro h3; exact absurd h3.symm h
   ·simp [y8,h2,ih]
theorem zE1 (m:List (α×β)) (a:α) (v:β):(vS a v m).map Prod.fst = if a ∈ m.map Prod.fst then m.map Prod.fst else m.map Prod.fst++[a]:=by
 induction m with
 | nil=>simp [vS]
 | cons p m ih=>
  unfold vS
  split
  ·rename_i h; simp [h]
  ·rename_i h
   simp only [List.map_cons,ih,List.mem_cons,h,false_or]
   split <;> simp
theorem zE2 {m:List (α×β)} {a:α} {v:β} (h:y8 a m = some v):(a,v) ∈ m:=by
 induction m with
 | nil=>cases h
 | cons p m ih=>
  unfold y8 at h
  split at h
  ·rename_i h1; injection h with h; subst h1; subst h; exact List.mem_cons_self
  ·exact List.mem_cons_of_mem _ (ih h)
end
end
end Go.Sep
