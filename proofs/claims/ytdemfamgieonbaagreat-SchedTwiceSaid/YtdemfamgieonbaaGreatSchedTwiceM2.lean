/- Texts of the claim SchedTwice, one behind the other. -/
import Derived.Test.YtdemfamgieonbaaGreatSchedTwiceM1
import Derived.Laws.BytesString
import Derived.Laws.Strings
import Derived.Lib.Overlaps
import Derived.MapKept
import GoSem.Instr.MapUpdate
import Derived.Maps.RangeRun
set_option linter.all false
set_option maxRecDepth 100000
namespace Go.Sep
section
open Go Go.RowKit
section
variable {w:World}
theorem all_nil:All [] w:=fun i x h=>by simp at h
theorem all_cons {x:World→Prop} {l:List (World→Prop)} (h:x w) (hl:All l w):All (x::l) w:=fun i y hy=>by
 cases i with
 | zero=>simp at hy; subst hy; exact h
 | succ i=>exact hl i y (by simpa using hy)
def zZH (P:Program) (src dst:TypeId):Bool :=
 match P.underlying src,P.underlying dst with
 | some (.slice e),some .string=>match P.underlying e with
  | some (.int .u8)=>true
  | _=>false
 | _,_=>false
theorem zTu {P:Program} {src dst:TypeId} (h:zZH P src dst = true):∃ e,P.underlying src = some (.slice e)∧P.underlying e = some (.int .u8)∧P.underlying dst = some .string:=by
 unfold zZH at h
 split at h
 ·rename_i e h1 h2
  split at h
  ·rename_i h3; exact ⟨e,h1,h3,h2⟩
  ·cases h
 ·cases h
theorem foldl_push:∀ (xs:List UInt8) (acc:List UInt8),
  (xs.map fun b=>((b.toNat:Nat):Int)).foldl (fun r n=>r.push (UInt8.ofNat n.toNat)) (ByteArray.mk acc.toArray) = ByteArray.mk (acc++xs).toArray
 | [],acc=>by simp
 | x::xs,acc=>by
  simp only [List.map_cons,List.foldl_cons,Int.toNat_natCast,UInt8.ofNat_toNat]
  have:=foldl_push xs (acc++[x])
  simp only [List.append_assoc,List.singleton_append] at this
  rw [← this]
  congr 1
  simp [ByteArray.push]
theorem zVK {P:Program} {s:Sl} {xs:List UInt8} {src dst:TypeId} {k:ByteArray→K} (hT:zZH P src dst = true) (hr:RdB w s xs) (hk:k (ByteArray.mk xs.toArray) w) :
  Rd P (convert src dst s.val) Value.string k w:=by
 refine ⟨_,?_,hk⟩
 obtain ⟨e,h1,h2,h3⟩:=zTu hT
 obtain ⟨a,n,c⟩:=s
 have hl:xs.length = n:=by have:=hr.len; simpa using this
 have:=run_convert_bytes_string (P:=P) w src dst e a n c h1 h2 h3
 rw [show (Sl.val ⟨a,n,c⟩) = .slice a n c from rfl,this]
 cases a with
 | none=>
  have hn:=hr.nil rfl
  simp only at hn
  subst hn
  have:xs = []:=by cases xs with | nil=>rfl | cons=>simp at hl
  subst this
  rfl
 | some a=>
  have h4:RdN w a (xs.map jm).toArray:=fun i hi=>by
   rw [hr.at' a rfl i (by simpa using hi)]; exact List.getElem?_toArray.symm
  have h5:=run_loadCells (P:=P) h4
  have h6:(xs.map jm) = (xs.map fun b=>((b.toNat:Nat):Int)).map (Value.int .u8):=by simp [jm,Function.comp_def]
  rw [h6] at h5
  simp only [List.size_toArray,List.length_map,hl] at h5
  rw [run_bytesToString w a n c _ h5]
  have:=foldl_push xs []
  simp only [List.nil_append] at this
  rw [← this]
  rfl
end
end
section
open Go Go.RowKit
section
variable {B w:World} {Γ:List zB}
theorem zVL (a:Addr) (m n:Nat):(a.add m).add n = a.add (m + n):=by
 obtain ⟨b,o,s⟩:=a
 unfold Addr.add
 by_cases h1:m = 0
 ·subst h1; simp
 ·by_cases h2:n = 0
  ·subst h2; simp [h1]
  ·simp [h1,h2,Nat.add_assoc]
theorem RdC.none' {esz c:Nat}:RdC w ⟨none,0,c⟩ esz []:=⟨by simp,fun _=>rfl,fun a h=>by cases h⟩
theorem zVM {α:Type} {c:α→Value} {L:List α} {s:Sl} {j:Nat} {x:α} {k:α→K} (hr:RdC w s 1 (L.map c)) (hx:L[j]? = some x) (hk:k x w) :
  Idx s (j:Int) 1 (fun t=>Ld t c k) w:=by
 have hj:j < L.length:=(List.getElem?_eq_some_iff.1 hx).1
 have hn:L.length = s.n:=by have:=hr.len; simpa using this
 cases ha:s.a with
 | none=>have:=hr.nil ha; omega
 | some a=>
  refine ⟨a,_,ha,by omega,by omega,rfl,x,?_,hk⟩
  simp only [Int.toNat_natCast,Nat.mul_one]
  rw [hr.at' a ha j (by simpa using hj)]
  simp [hx]
theorem zOW {α:Type} (f:α→List Value) (esz:Nat) (hf:∀ x,(f x).length = esz) {L:List α} {s:Sl} {i:Nat} {x:α} {a:Addr} (hr:RdC w s esz (L.flatMap f)) (ha:s.a = some a) (hx:L[i]? = some x) :
  RdN w (a.add (i * esz)) (f x).toArray:=by
 intro j hj
 have hj':j < esz:=by simpa [hf] using hj
 rw [zVL]
 have hlt:i < L.length:=(List.getElem?_eq_some_iff.1 hx).1
 have hb:i * esz + j < L.length * esz:=by
  have:i * esz + esz ≤ L.length * esz:=by rw [← Nat.succ_mul]; exact Nat.mul_le_mul_right _ hlt
  omega
 rw [hr.at' a ha _ (by rw [zn f esz hf]; exact hb),zGS f esz hf _ _ _ hj',hx]
 exact List.getElem?_toArray.symm
theorem zZI {α:Type} (f:α→List Value) {esz:Nat} (hf:∀ x,(f x).length = esz) (he:0 < esz) {L:List α} {s:Sl} {j:Nat} {x:α} {k:Addr→Array Value→K} {cs:Array Value} (hr:RdC w s esz (L.flatMap f)) (hx:L[j]? = some x) (hcs:(f x).toArray = cs) (hk:∀ t,k t cs w) :
  Idx s (j:Int) esz (fun t=>LdN t esz (k t)) w:=by
 have hj:j < L.length:=(List.getElem?_eq_some_iff.1 hx).1
 have hn:L.length = s.n:=by
  have:=hr.len; rw [zn f esz hf] at this
  exact Nat.eq_of_mul_eq_mul_right he this
 cases ha:s.a with
 | none=>have:=hr.nil ha; omega
 | some a=>
  subst hcs
  refine ⟨a,_,ha,by omega,by omega,rfl,_,by simp [hf],?_,hk _⟩
  simp only [Int.toNat_natCast]
  exact zOW f esz hf hr ha hx
theorem SlC.cut {E esz:Nat} {s:Sl} {vs:List Value} {m:Nat} (hm:m ≤ s.n) (g:Hp) (h:SlC E esz s vs g):SlC E esz ⟨s.a,m,m⟩ (vs.take (m * esz)) g:=by
 have hc:=h.2.1
 obtain ⟨hl,_,hs⟩:=SlC.take hm g h
 refine ⟨hl,Nat.le_refl _,?_⟩
 have h1:m * esz ≤ s.c * esz:=Nat.mul_le_mul_right _ (by omega)
 cases ha:s.a with
 | none=>rw [ha] at hs; simp only at hs ⊢; omega
 | some a=>
  rw [ha] at hs
  obtain ⟨hsp,cs,fz,hb,hf,hsz,hv⟩:=hs
  exact ⟨hsp,cs,fz,hb,fun i h2 h3=>hf i h2 (by simp only at h3 ⊢; omega),by simp only at hsz ⊢; omega,hv⟩
theorem zRB {α:Type} {f:α→zB} {l:List α} (i:Nat) {x:α} (hx:l[i]? = some x) (h:Holds B (stars (l.map f)::Γ) w):Holds B (f x::stars ((l.eraseIdx i).map f)::Γ) w:=by
 have h1:=Holds.flat.1 h
 have h2:(l.map f++Γ).Perm (f x::((l.eraseIdx i).map f++Γ)):=by
  have h3:(l.map f).Perm (f x::(l.eraseIdx i).map f):=by
   have:=(zJC hx).map f
   simpa using this
  exact h3.append_right Γ
 have h4:Holds B (f x::((l.eraseIdx i).map f++Γ)) w:=h1.perm h2
 have h5:Holds B ((l.eraseIdx i).map f++f x::Γ) w:=h4.perm List.perm_middle.symm
 exact (Holds.flat.2 h5).swap
theorem zYl {α:Type} (c:α→Value):∀ l:List α,l.flatMap (fun b=>[c b]) = l.map c
 | []=>rfl
 | x::l=>by simp [List.flatMap_cons,zYl c l]
theorem zXS {k:IntKind} {s:Sl} (hn:s.a = none→s.n = 0∧s.c = 0)
  (h:∀ a i,s.a = some a→i < s.n→∃ cs',cs'.length = 1∧(∀ j,j < 1→w.cell? (a.add (i * 1 + j)) = cs'[j]?)∧Rdy w (.int k) cs') :
  ∃ xs:List Int,xs.length = s.n∧RdC w s 1 (xs.map (Value.int k))∧∀ x ∈ xs,(Lit.int k x).wf = true:=by
 obtain ⟨l,hl,hr,hw⟩:=zIk (e:=.int k) (fun b:Int=>[Value.int k b]) (fun b=>(Lit.int k b).wf = true) (fun _=>rfl) hn h (fun cs hc hr=>by
  obtain ⟨n,rfl,hw⟩:=hr
  exact ⟨n,rfl,hw⟩)
 rw [zYl] at hr
 exact ⟨l,hl,hr,hw⟩
theorem zJJ {s:Sl} {c esz:Nat} (hsp:∀ a,s.a = some a→a.spot = none):zBj s.a 0 c esz = s.a:=by
 unfold zBj
 split
 ·rfl
 ·cases hx:s.a with
  | none=>rfl
  | some a=>
   have:=hsp a hx
   obtain ⟨b,o,sp⟩:=a
   simp only at this; subst this
   simp [uV]
def slF (E esz:Nat) (s:Sl) (vs:List Value) (a:Addr) (cs:Array Value) (fz:Nat×Nat):Prop :=
 a.spot = none∧(∀ i,a.off ≤ i→i < a.off + s.c * esz→¬ (fz.1 ≤ i∧i < fz.2))∧a.off + s.c * esz ≤ cs.size∧(∀ i,i < vs.length→cs[a.off + i]? = vs[i]?)∧vs.length = s.n * esz∧s.n ≤ s.c
theorem zLO {E esz:Nat} {s:Sl} {vs:List Value} {a:Addr} (h:Holds B (SlC E esz s vs::Γ) w) (ha:s.a = some a):∃ cs fz,Holds B (blk a.block (.cells cs E fz)::Γ) w∧slF E esz s vs a cs fz:=by
 have h1:Holds B ((ex fun cs:Array Value=>ex fun fz:Nat×Nat=>fun g=>slF E esz s vs a cs fz∧blk a.block (.cells cs E fz) g)::Γ) w:=h.imp fun g hg=>by
  obtain ⟨hl,hc,hs⟩:=hg
  rw [ha] at hs
  obtain ⟨hsp,cs,fz,hb,hf,hsz,hv⟩:=hs
  exact ⟨cs,fz,⟨hsp,hf,hsz,hv,hl,hc⟩,hb⟩
 obtain ⟨cs,h1⟩:=Holds.ex.1 h1
 obtain ⟨fz,h1⟩:=Holds.ex.1 h1
 exact ⟨cs,fz,h1.imp fun g hg=>hg.2,h1.fact fun g hg=>hg.1⟩
theorem zLP {E esz:Nat} {s:Sl} {vs:List Value} {a:Addr} {cs:Array Value} {fz:Nat×Nat} (ha:s.a = some a) (h:Holds B (blk a.block (.cells cs E fz)::Γ) w) (hF:slF E esz s vs a cs fz):Holds B (SlC E esz s vs::Γ) w :=
 h.imp fun g hg=>by
  obtain ⟨hsp,hf,hsz,hv,hl,hc⟩:=hF
  refine ⟨hl,hc,?_⟩
  rw [ha]
  exact ⟨hsp,cs,fz,hg,hf,hsz,hv⟩
theorem zVN {E esz:Nat} {s:Sl} {vs:List Value} {a:Addr} {o:Nat} {v:Value} {k:K} (h:Holds B (SlC E esz s vs::Γ) w) (ha:s.a = some a) (ho:o < vs.length) (hv:yX v = true)
  (hk:∀ w',Holds B (SlC E esz s (vs.set o v)::Γ) w'→k w'):St (a.add o) v k w:=by
 obtain ⟨cs,fz,h,hsp,hf,hsz,hr,hl,hc⟩:=zLO h ha
 have hm:vs.length ≤ s.c * esz:=by rw [hl]; exact Nat.mul_le_mul_right _ hc
 have e:a.add o = ⟨a.block,a.off + o,none⟩:=by
  obtain ⟨b,f,sp⟩:=a
  simp only at hsp; subst hsp
  exact uV _ _ _
 refine zMO 0 h e rfl (by omega) (hf _ (by omega) (by omega)) hv fun w' h=>hk w' (zLP ha h ⟨hsp,hf,by simpa using hsz,fun i hi=>?_,by simpa using hl,hc⟩)
 rw [List.length_set] at hi
 by_cases hio:o = i
 ·subst hio
  rw [List.getElem?_set_self hi]
  simp [Array.getElem?_setIfInBounds]
  omega
 ·rw [List.getElem?_set_ne hio,← hr i hi,Array.getElem?_setIfInBounds_ne (by omega)]
theorem zXT {E:Nat} {s:Sl} {vs:List Value} {j:Nat} {v:Value} {k:K} (h:Holds B (SlC E 1 s vs::Γ) w) (hj:j < s.n) (hv:yX v = true)
  (hk:∀ w',Holds B (SlC E 1 s (vs.set j v)::Γ) w'→k w'):Idx s (j:Int) 1 (fun t=>St t v k) w:=by
 have hs:=h.zLN
 cases ha:s.a with
 | none=>have:=hs.2.2.2 ha; omega
 | some a=>
  refine ⟨a,_,ha,by omega,by omega,rfl,?_⟩
  simp only [Int.toNat_natCast,Nat.mul_one]
  exact zVN h ha (by omega) hv hk
theorem zVO {s s':Sl} (h:(Sl.val s).cells.toList = [s'.val]):s' = s:=by
 obtain ⟨a,n,c⟩:=s
 obtain ⟨a',n',c'⟩:=s'
 have h2:[Value.slice a n c] = [Value.slice a' n' c']:=h
 cases h2; rfl
theorem zVP {e:Sh} {esz:Nat} {s:Sl} (y:Rdy w (.sl e esz) (Sl.val s).cells.toList):(s.a = none→s.n = 0∧s.c = 0) ∧
  ∀ a i,s.a = some a→i < s.n→∃ cs',cs'.length = esz∧(∀ j,j < esz→w.cell? (a.add (i * esz + j)) = cs'[j]?)∧Rdy w e cs':=by
 obtain ⟨s',h,_,_,h1,h2⟩:=y
 obtain rfl:=zVO h
 exact ⟨h1,h2⟩
theorem zVQ {k:IntKind} {s:Sl} (y:Rdy w (.sl (.int k) 1) (Sl.val s).cells.toList):∃ xs:List Int,RdC w s 1 (xs.map (Value.int k))∧∀ x ∈ xs,(Lit.int k x).wf = true:=by
 obtain ⟨h1,h2⟩:=zVP y
 obtain ⟨xs,_,h3,h4⟩:=zXS h1 h2
 exact ⟨xs,h3,h4⟩
end
theorem M0 { x:zB} {l:List zB}:x ∈ x::l:=List.mem_cons_self
theorem M1 {a0 x:zB} {l:List zB}:x ∈ a0::x::l:=List.mem_cons_of_mem _ (List.mem_cons_self)
theorem M2 {a0 a1 x:zB} {l:List zB}:x ∈ a0::a1::x::l:=List.mem_cons_of_mem _ (List.mem_cons_of_mem _ (List.mem_cons_self))
theorem M3 {a0 a1 a2 x:zB} {l:List zB}:x ∈ a0::a1::a2::x::l:=List.mem_cons_of_mem _ (List.mem_cons_of_mem _ (List.mem_cons_of_mem _ (List.mem_cons_self)))
theorem M4 {a0 a1 a2 a3 x:zB} {l:List zB}:x ∈ a0::a1::a2::a3::x::l:=List.mem_cons_of_mem _ (List.mem_cons_of_mem _ (List.mem_cons_of_mem _ (List.mem_cons_of_mem _ (List.mem_cons_self))))
theorem M5 {a0 a1 a2 a3 a4 x:zB} {l:List zB}:x ∈ a0::a1::a2::a3::a4::x::l:=List.mem_cons_of_mem _ (List.mem_cons_of_mem _ (List.mem_cons_of_mem _ (List.mem_cons_of_mem _ (List.mem_cons_of_mem _ (List.mem_cons_self)))))
theorem M6 {a0 a1 a2 a3 a4 a5 x:zB} {l:List zB}:x ∈ a0::a1::a2::a3::a4::a5::x::l:=List.mem_cons_of_mem _ (List.mem_cons_of_mem _ (List.mem_cons_of_mem _ (List.mem_cons_of_mem _ (List.mem_cons_of_mem _ (List.mem_cons_of_mem _ (List.mem_cons_self))))))
theorem M7 {a0 a1 a2 a3 a4 a5 a6 x:zB} {l:List zB}:x ∈ a0::a1::a2::a3::a4::a5::a6::x::l:=List.mem_cons_of_mem _ (List.mem_cons_of_mem _ (List.mem_cons_of_mem _ (List.mem_cons_of_mem _ (List.mem_cons_of_mem _ (List.mem_cons_of_mem _ (List.mem_cons_of_mem _ (List.mem_cons_self)))))))
theorem M8 {a0 a1 a2 a3 a4 a5 a6 a7 x:zB} {l:List zB}:x ∈ a0::a1::a2::a3::a4::a5::a6::a7::x::l:=List.mem_cons_of_mem _ (List.mem_cons_of_mem _ (List.mem_cons_of_mem _ (List.mem_cons_of_mem _ (List.mem_cons_of_mem _ (List.mem_cons_of_mem _ (List.mem_cons_of_mem _ (List.mem_cons_of_mem _ (List.mem_cons_self))))))))
theorem M9 {a0 a1 a2 a3 a4 a5 a6 a7 a8 x:zB} {l:List zB}:x ∈ a0::a1::a2::a3::a4::a5::a6::a7::a8::x::l:=List.mem_cons_of_mem _ (List.mem_cons_of_mem _ (List.mem_cons_of_mem _ (List.mem_cons_of_mem _ (List.mem_cons_of_mem _ (List.mem_cons_of_mem _ (List.mem_cons_of_mem _ (List.mem_cons_of_mem _ (List.mem_cons_of_mem _ (List.mem_cons_self)))))))))
theorem M10 {a0 a1 a2 a3 a4 a5 a6 a7 a8 a9 x:zB} {l:List zB}:x ∈ a0::a1::a2::a3::a4::a5::a6::a7::a8::a9::x::l:=List.mem_cons_of_mem _ (List.mem_cons_of_mem _ (List.mem_cons_of_mem _ (List.mem_cons_of_mem _ (List.mem_cons_of_mem _ (List.mem_cons_of_mem _ (List.mem_cons_of_mem _ (List.mem_cons_of_mem _ (List.mem_cons_of_mem _ (List.mem_cons_of_mem _ (List.mem_cons_self))))))))))
theorem M11 {a0 a1 a2 a3 a4 a5 a6 a7 a8 a9 a10 x:zB} {l:List zB}:x ∈ a0::a1::a2::a3::a4::a5::a6::a7::a8::a9::a10::x::l:=List.mem_cons_of_mem _ (List.mem_cons_of_mem _ (List.mem_cons_of_mem _ (List.mem_cons_of_mem _ (List.mem_cons_of_mem _ (List.mem_cons_of_mem _ (List.mem_cons_of_mem _ (List.mem_cons_of_mem _ (List.mem_cons_of_mem _ (List.mem_cons_of_mem _ (List.mem_cons_of_mem _ (List.mem_cons_self)))))))))))
theorem M12 {a0 a1 a2 a3 a4 a5 a6 a7 a8 a9 a10 a11 x:zB} {l:List zB}:x ∈ a0::a1::a2::a3::a4::a5::a6::a7::a8::a9::a10::a11::x::l:=List.mem_cons_of_mem _ (List.mem_cons_of_mem _ (List.mem_cons_of_mem _ (List.mem_cons_of_mem _ (List.mem_cons_of_mem _ (List.mem_cons_of_mem _ (List.mem_cons_of_mem _ (List.mem_cons_of_mem _ (List.mem_cons_of_mem _ (List.mem_cons_of_mem _ (List.mem_cons_of_mem _ (List.mem_cons_of_mem _ (List.mem_cons_self))))))))))))
section
variable {B w:World}
theorem P1 {a0 x:zB} {l:List zB} (h:Holds B (a0::x::l) w):Holds B (x::a0::l) w:=h.pick (i:=1) rfl
theorem P2 {a0 a1 x:zB} {l:List zB} (h:Holds B (a0::a1::x::l) w):Holds B (x::a0::a1::l) w:=h.pick (i:=2) rfl
theorem P3 {a0 a1 a2 x:zB} {l:List zB} (h:Holds B (a0::a1::a2::x::l) w):Holds B (x::a0::a1::a2::l) w:=h.pick (i:=3) rfl
theorem P4 {a0 a1 a2 a3 x:zB} {l:List zB} (h:Holds B (a0::a1::a2::a3::x::l) w):Holds B (x::a0::a1::a2::a3::l) w:=h.pick (i:=4) rfl
theorem P5 {a0 a1 a2 a3 a4 x:zB} {l:List zB} (h:Holds B (a0::a1::a2::a3::a4::x::l) w):Holds B (x::a0::a1::a2::a3::a4::l) w:=h.pick (i:=5) rfl
theorem D1 {a0 x:zB} {l:List zB} (h:Holds B (a0::x::l) w):Holds B (a0::l) w:=h.del (i:=1) rfl
theorem D2 {a0 a1 x:zB} {l:List zB} (h:Holds B (a0::a1::x::l) w):Holds B (a0::a1::l) w:=h.del (i:=2) rfl
theorem D3 {a0 a1 a2 x:zB} {l:List zB} (h:Holds B (a0::a1::a2::x::l) w):Holds B (a0::a1::a2::l) w:=h.del (i:=3) rfl
theorem D4 {a0 a1 a2 a3 x:zB} {l:List zB} (h:Holds B (a0::a1::a2::a3::x::l) w):Holds B (a0::a1::a2::a3::l) w:=h.del (i:=4) rfl
theorem D5 {a0 a1 a2 a3 a4 x:zB} {l:List zB} (h:Holds B (a0::a1::a2::a3::a4::x::l) w):Holds B (a0::a1::a2::a3::a4::l) w:=h.del (i:=5) rfl
end
section
variable {α:Type _}
theorem N1 (a b:α) (l:List α):(a::l).set 0 b = b::l:=rfl
theorem N2 (a b:α) (l:List α) (n:Nat):(a::l).set (n + 1) b = a::l.set n b:=rfl
theorem N3 (l:List α):l.eraseIdx 0 = l.tail:=List.eraseIdx_zero
theorem N4 (a:α) (l:List α):(a::l).eraseIdx 0 = l:=rfl
theorem N5 (a:α) (l:List α) (n:Nat):(a::l).eraseIdx (n + 1) = a::l.eraseIdx n:=rfl
theorem N6 (l:List α) (i:Nat) (a:α):l.toArray.setIfInBounds i a = (l.set i a).toArray:=List.setIfInBounds_toArray ..
theorem N7 (a:α) (l:List α):(a::l).tail = l:=rfl
end
section
variable {B w:World} {a:Addr} {b off n:Nat} {cs vs:Array Value} {T:TypeId} {v:Value} {k:K} {l:List zB}
theorem S0 (h:Holds B (blk b (.cells cs T (0,0))::l) w) (ha:a = ⟨b,off,none⟩) (ho:off < cs.size) (hv:yX v = true) (hk:∀ w',Holds B (blk b (.cells (cs.setIfInBounds off v) T (0,0))::l) w'→k w'):St a v k w:=zMO 0 h ha rfl ho (zMP _) hv hk
theorem T0 (h:Holds B (blk b (.cells cs T (0,0))::l) w) (ha:a = ⟨b,0,none⟩) (hn:cs.size = n) (hv:vs.size = n) (hfl:∀ v ∈ vs.toList,yX v = true) (hk:∀ w',Holds B (blk b (.cells vs T (0,0))::l) w'→k w'):StN a n vs k w:=zaH 0 h ha rfl hn hv (fun _ _=>zMP _) hfl hk
theorem S1 {a0:zB} (h:Holds B (a0::blk b (.cells cs T (0,0))::l) w) (ha:a = ⟨b,off,none⟩) (ho:off < cs.size) (hv:yX v = true) (hk:∀ w',Holds B (a0::blk b (.cells (cs.setIfInBounds off v) T (0,0))::l) w'→k w'):St a v k w:=zMO 1 h ha rfl ho (zMP _) hv hk
theorem S2 {a0 a1:zB} (h:Holds B (a0::a1::blk b (.cells cs T (0,0))::l) w) (ha:a = ⟨b,off,none⟩) (ho:off < cs.size) (hv:yX v = true) (hk:∀ w',Holds B (a0::a1::blk b (.cells (cs.setIfInBounds off v) T (0,0))::l) w'→k w'):St a v k w:=zMO 2 h ha rfl ho (zMP _) hv hk
theorem S3 {a0 a1 a2:zB} (h:Holds B (a0::a1::a2::blk b (.cells cs T (0,0))::l) w) (ha:a = ⟨b,off,none⟩) (ho:off < cs.size) (hv:yX v = true) (hk:∀ w',Holds B (a0::a1::a2::blk b (.cells (cs.setIfInBounds off v) T (0,0))::l) w'→k w'):St a v k w:=zMO 3 h ha rfl ho (zMP _) hv hk
theorem S4 {a0 a1 a2 a3:zB} (h:Holds B (a0::a1::a2::a3::blk b (.cells cs T (0,0))::l) w) (ha:a = ⟨b,off,none⟩) (ho:off < cs.size) (hv:yX v = true) (hk:∀ w',Holds B (a0::a1::a2::a3::blk b (.cells (cs.setIfInBounds off v) T (0,0))::l) w'→k w'):St a v k w:=zMO 4 h ha rfl ho (zMP _) hv hk
theorem S5 {a0 a1 a2 a3 a4:zB} (h:Holds B (a0::a1::a2::a3::a4::blk b (.cells cs T (0,0))::l) w) (ha:a = ⟨b,off,none⟩) (ho:off < cs.size) (hv:yX v = true) (hk:∀ w',Holds B (a0::a1::a2::a3::a4::blk b (.cells (cs.setIfInBounds off v) T (0,0))::l) w'→k w'):St a v k w:=zMO 5 h ha rfl ho (zMP _) hv hk
theorem S6 {a0 a1 a2 a3 a4 a5:zB} (h:Holds B (a0::a1::a2::a3::a4::a5::blk b (.cells cs T (0,0))::l) w) (ha:a = ⟨b,off,none⟩) (ho:off < cs.size) (hv:yX v = true) (hk:∀ w',Holds B (a0::a1::a2::a3::a4::a5::blk b (.cells (cs.setIfInBounds off v) T (0,0))::l) w'→k w'):St a v k w:=zMO 6 h ha rfl ho (zMP _) hv hk
theorem S7 {a0 a1 a2 a3 a4 a5 a6:zB} (h:Holds B (a0::a1::a2::a3::a4::a5::a6::blk b (.cells cs T (0,0))::l) w) (ha:a = ⟨b,off,none⟩) (ho:off < cs.size) (hv:yX v = true) (hk:∀ w',Holds B (a0::a1::a2::a3::a4::a5::a6::blk b (.cells (cs.setIfInBounds off v) T (0,0))::l) w'→k w'):St a v k w:=zMO 7 h ha rfl ho (zMP _) hv hk
theorem S8 {a0 a1 a2 a3 a4 a5 a6 a7:zB} (h:Holds B (a0::a1::a2::a3::a4::a5::a6::a7::blk b (.cells cs T (0,0))::l) w) (ha:a = ⟨b,off,none⟩) (ho:off < cs.size) (hv:yX v = true) (hk:∀ w',Holds B (a0::a1::a2::a3::a4::a5::a6::a7::blk b (.cells (cs.setIfInBounds off v) T (0,0))::l) w'→k w'):St a v k w:=zMO 8 h ha rfl ho (zMP _) hv hk
end
end
section
open Go Go.RowKit
def HG (B:World) (Γ:List zB) (k:K):Prop:=∀ w,Holds B Γ w→k w
class Own (b:Nat) (Γ:List zB) (A:outParam zB) (Δ:outParam (List zB)):Prop where perm:Γ.Perm (A::Δ)
class zBg (s:Sl) (Γ:List zB) (A:outParam zB) (Δ:outParam (List zB)):Prop where perm:Γ.Perm (A::Δ)
class Pick (A:zB) (Γ:List zB) (Δ:outParam (List zB)):Prop where perm:Γ.Perm (A::Δ)
class Drops (Γ Δ:List zB):Prop where imp:∀ {h:Hp},stars Γ h→stars Δ h
theorem zG7 {A X:zB} {Γ Δ:List zB} (h:Γ.Perm (A::Δ)):(X::Γ).Perm (A::X::Δ):=(h.cons X).trans (List.Perm.swap _ _ _)
instance (priority:=low) zaN {b:Nat} {X A:zB} {Γ Δ:List zB} [h:Own b Γ A Δ]:Own b (X::Γ) A (X::Δ):=⟨zG7 h.perm⟩
instance (priority:=high) zax {b:Nat} {o:Obj} {Γ:List zB}:Own b (blk b o::Γ) (blk b o) Γ:=⟨.refl _⟩
instance (priority:=low) zZq {s:Sl} {X A:zB} {Γ Δ:List zB} [h:zBg s Γ A Δ]:zBg s (X::Γ) A (X::Δ):=⟨zG7 h.perm⟩
instance (priority:=high) zXU {E esz:Nat} {s:Sl} {vs:List Value} {Γ:List zB}:zBg s (SlC E esz s vs::Γ) (SlC E esz s vs) Γ:=⟨.refl _⟩
instance (priority:=high) zay {E:Nat} {s:Sl} {vs:List UInt8} {Γ:List zB}:zBg s (Bytes E s vs::Γ) (Bytes E s vs) Γ:=⟨.refl _⟩
instance (priority:=low) zZr {A X:zB} {Γ Δ:List zB} [h:Pick A Γ Δ]:Pick A (X::Γ) (X::Δ):=⟨zG7 h.perm⟩
instance (priority:=high) zZs {A:zB} {Γ:List zB}:Pick A (A::Γ) Γ:=⟨.refl _⟩
instance (priority:=high) zZJ {A:zB} {Γ Γ' Δ:List zB} [p:Pick A Γ Γ'] [d:Drops Γ' Δ]:Drops Γ (A::Δ):=⟨fun h=>zBi (fun _ h=>h) (fun _ h=>d.imp h) (zK3 p.perm h)⟩
instance zZK {Γ:List zB}:Drops Γ Γ:=⟨fun h=>h⟩
instance (priority:=low) zZt {Γ:List zB}:Drops Γ []:=⟨fun _=>trivial⟩
instance (priority:=low) zZL {A:zB} {Γ Δ:List zB} [d:Drops Γ Δ]:Drops (A::Γ) Δ:=⟨fun h=>d.imp (zK1 h)⟩
section
variable {B w:World} {Γ Δ:List zB} {k:K} {A A':zB}
theorem Holds.drops (h:Holds B Γ w) [d:Drops Γ Δ]:Holds B Δ w:=⟨h.below,d.imp h.stars⟩
theorem hg (h:Holds B Γ w) (hk:HG B Γ k):k w:=hk w h
theorem zC (h:HG B Δ k) [d:Drops Γ Δ]:HG B Γ k:=fun w hw=>h w hw.drops
theorem zCh (hi:∀ h,A h→A' h) (h:HG B (A'::Γ) k):HG B (A::Γ) k:=fun w hw=>h w (hw.imp hi)
theorem zC1 {α:Sort _} {F:α→zB} (h:∀ x,HG B (F x::Γ) k):HG B (Sep.ex F::Γ) k:=fun w hw=>by
 obtain ⟨x,hx⟩:=Holds.ex.1 hw; exact h x w hx
theorem zGU {p:Prop} (h:p→HG B Γ k):HG B (pur p::Γ) k:=fun w hw=>by
 obtain ⟨hp,hx⟩:=Holds.pur.1 hw; exact h hp w hx
theorem zBX (h:HG B (Δ++Γ) k):HG B (Sep.stars Δ::Γ) k:=fun w hw=>h w (Holds.flat.1 hw)
theorem zDp (h:HG B (Sep.stars Δ::Γ) k):HG B (Δ++Γ) k:=fun w hw=>h w (Holds.flat.2 hw)
theorem zRC {α:Sort _} {F:α→zB} (x:α) (h:HG B (Sep.ex F::Γ) k):HG B (F x::Γ) k:=fun w hw=>h w (Holds.ex.2 ⟨x,hw⟩)
theorem zXV {p:Prop} (hp:p) (h:HG B (pur p::Γ) k):HG B Γ k:=fun w hw=>h w (Holds.pur.2 ⟨hp,hw⟩)
theorem zX (A:zB) (h:HG B (A::Δ) k) [p:Pick A Γ Δ]:HG B Γ k:=fun w hw=>h w (hw.perm p.perm)
theorem zQ (b:Nat) (h:HG B (A::Δ) k) [p:Own b Γ A Δ]:HG B Γ k:=fun w hw=>h w (hw.perm p.perm)
theorem zq (s:Sl) (h:HG B (A::Δ) k) [p:zBg s Γ A Δ]:HG B Γ k:=fun w hw=>h w (hw.perm p.perm)
theorem zDW (h:HG B (A'::A::Γ) k):HG B (A::A'::Γ) k:=fun w hw=>h w hw.swap
theorem zH {b:Bool} {x y:K} (h1:b = true→HG B Γ x) (h2:b = false→HG B Γ y):HG B Γ (Ite b x y):=fun w hw=>⟨fun hb=>h1 hb w hw,fun hb=>h2 hb w hw⟩
theorem s_t {b:Bool} {x y:K} (h:HG B Γ x) (hb:b = true:=by first | rfl | (simp; done) | (simp; omega)):HG B Γ (Ite b x y):=fun w hw=>zSL hb (h w hw)
theorem s_f {b:Bool} {x y:K} (h:HG B Γ y) (hb:b = false:=by first | rfl | (simp; done) | (simp; omega)):HG B Γ (Ite b x y):=fun w hw=>zNo hb (h w hw)
theorem zBK {e e':Int} {k:Int→K} (he:e = e') (h:HG B Γ (k e')):HG B Γ (Ar e k):=fun w hw=>zK8 he (h w hw)
theorem qU {e:Int} {k:Int→K} (h:HG B Γ (k e)) (h0:-9223372036854775808 ≤ e:=by omega) (h1:e ≤ 9223372036854775807:=by omega):HG B Γ (Ar (IntKind.wrap .i64 e) k):=zBK (wrap64 h0 h1) h
theorem zTv {p:Prop} (hp:p) (h:HG B Γ k):HG B Γ (Cd p k):=fun w hw=>⟨hp,h w hw⟩
theorem vg {a:Addr} {k:Addr→K} (h:HG B Γ (k a)):HG B Γ (Nn (some a) k):=fun w hw=>⟨a,rfl,h w hw⟩
theorem vk (h:HG B Γ k):HG B Γ (Dr k):=fun w hw=>zbK hw fun w hw=>h w hw
theorem zMR {k:(World→Prop)→K} (h:HG B Γ (k (Holds B Γ))):HG B Γ (yZ k):=fun w hw=>⟨Holds B Γ,hw,h w hw⟩
theorem zBC (h:HG B Γ k) [d:Drops Γ Δ]:HG B Γ (Sv (Holds B Δ) k):=fun w hw=>⟨hw.drops,h w hw⟩
theorem zaO {α:Type} {cs:List Value} {off:Nat} {c:α→Value} {x:α} {k:α→K} (h:HG B Γ (k x)) (hv:nth cs off = some (c x):=by rfl):HG B Γ (Fld cs.toArray off c k):=fun w hw=>⟨x,by rw [zAq] at hv; simpa using hv,h w hw⟩
theorem zYm {zero:Array Value} {pl:List (Nat×Nat)} {vs:List (Nat×Value)} {cs:List Value} {k:Array Value→K} (h:HG B Γ (k cs.toArray)) (hc:Instr.fill (pl[·]?) zero vs = some cs.toArray:=by rfl):HG B Γ (Bld zero (pl[·]?) vs k):=fun w hw=>⟨_,hc,h w hw⟩
theorem zBp {zero:List Value} {cs:List Value} {n:Nat} {k:Array Value→K} (h:HG B Γ (k cs.toArray)) (hz:zero.length = n:=by rfl) (hn:cs.length = n:=by rfl):HG B Γ (Bld zero.toArray (fun i=>some (i * n,n)) [(0,.agg cs.toArray)] k):=fun w hw=>zZA (by simpa using hz) (by simpa using hn) (h w hw)
class zC2 (a:Addr) (b off:outParam Nat):Prop where h:a = ⟨b,off,none⟩
instance zbL {b off:Nat}:zC2 ⟨b,off,none⟩ b off:=⟨rfl⟩
instance zaz {b off n:Nat}:zC2 ((⟨b,off,none⟩:Addr).add n) b (off + n):=⟨uV _ _ _⟩
theorem zR {T:TypeId} {cs:Array Value} {k:Addr→K} (h:∀ b,HG B (blk b (.cells cs T (0,0))::Γ) (k ⟨b,0,none⟩)):HG B Γ (New T cs k):=fun w hw=>zPV hw fun b w hw=>h b w hw
theorem zBU {b:Nat} {o:Obj} (h:Holds B Γ w) [p:Own b Γ (blk b o) Δ]:w.heap[b]? = some o:=(h.perm p.perm).block
theorem yD {α:Type} {a:Addr} {b off:Nat} {l:List Value} {T:TypeId} {fz:Nat×Nat} {c:α→Value} {x:α} {k:α→K} (h:HG B Γ (k x)) [ad:zC2 a b off] [p:Own b Γ (blk b (.cells l.toArray T fz)) Δ] (hv:nth l off = some (c x):=by rfl):HG B Γ (Ld a c k):=fun w hw=>
 ⟨x,by rw [ad.h]; exact vI (zBU hw (p:=p)) (by rw [zAq] at hv; simpa using hv),h w hw⟩
theorem zOX {b off n:Nat} {l l':List Value} {T:TypeId} {fz:Nat×Nat} (h:w.heap[b]? = some (.cells l.toArray T fz)) (hl:(l.drop off).take n = l') (hn:l'.length = n):RdN w ⟨b,off,none⟩ l'.toArray:=by
 refine zTq h fun i hi=>?_
 have hi':i < l'.length:=by simpa using hi
 have:l'[i]? = l[off + i]?:=by rw [← hl,List.getElem?_take,if_pos (by omega),List.getElem?_drop]
 simpa using this.symm
theorem qW {a:Addr} {b off n:Nat} {l l':List Value} {T:TypeId} {fz:Nat×Nat} {k:Array Value→K} (h:HG B Γ (k l'.toArray)) [ad:zC2 a b off] [p:Own b Γ (blk b (.cells l.toArray T fz)) Δ]
  (hl:(l.drop off).take n = l':=by first | rfl | simp only [Nat.zero_add,Nat.reduceAdd,List.drop_zero,List.drop_succ_cons,List.take_succ_cons,List.take_zero]) (hn:l'.length = n:=by rfl):HG B Γ (LdN a n k):=fun w hw=>
 ⟨l'.toArray,by simpa using hn,by rw [ad.h]; exact zOX (zBU hw (p:=p)) hl hn,h w hw⟩
variable {Γ0:List zB}
theorem u6 {α:Type} {a:Addr} {b off:Nat} {l:List Value} {T:TypeId} {fz:Nat×Nat} {c:α→Value} {x:α} {k:α→K} (h:HG B Γ (k x)) [ad:zC2 a b off] [p:Own b Γ0 (blk b (.cells l.toArray T fz)) Δ] (hv:nth l off = some (c x):=by rfl):HG B Γ (LdS (Holds B Γ0) a c k):=fun w hw=>
 ⟨x,fun w' hw'=>by rw [ad.h]; exact vI (zBU hw' (p:=p)) (by rw [zAq] at hv; simpa using hv),h w hw⟩
theorem zAW {a:Addr} {b off n:Nat} {l l':List Value} {T:TypeId} {fz:Nat×Nat} {k:Array Value→K} (h:HG B Γ (k l'.toArray)) [ad:zC2 a b off] [p:Own b Γ0 (blk b (.cells l.toArray T fz)) Δ]
  (hl:(l.drop off).take n = l':=by first | rfl | simp only [Nat.zero_add,Nat.reduceAdd,List.drop_zero,List.drop_succ_cons,List.take_succ_cons,List.take_zero]) (hn:l'.length = n:=by rfl):HG B Γ (vG (Holds B Γ0) a n k):=fun w hw=>
 ⟨l'.toArray,by simpa using hn,fun w' hw'=>by rw [ad.h]; exact zOX (zBU hw' (p:=p)) hl hn,h w hw⟩
theorem t0 {v x0:Value} {l:List Value}:(x0::l).set 0 v = v::l:=rfl
theorem t1 {v x0 x1:Value} {l:List Value}:(x0::x1::l).set 1 v = x0::v::l:=rfl
theorem t2 {v x0 x1 x2:Value} {l:List Value}:(x0::x1::x2::l).set 2 v = x0::x1::v::l:=rfl
theorem t3 {v x0 x1 x2 x3:Value} {l:List Value}:(x0::x1::x2::x3::l).set 3 v = x0::x1::x2::v::l:=rfl
theorem t4 {v x0 x1 x2 x3 x4:Value} {l:List Value}:(x0::x1::x2::x3::x4::l).set 4 v = x0::x1::x2::x3::v::l:=rfl
theorem t5 {v x0 x1 x2 x3 x4 x5:Value} {l:List Value}:(x0::x1::x2::x3::x4::x5::l).set 5 v = x0::x1::x2::x3::x4::v::l:=rfl
theorem t6 {v x0 x1 x2 x3 x4 x5 x6:Value} {l:List Value}:(x0::x1::x2::x3::x4::x5::x6::l).set 6 v = x0::x1::x2::x3::x4::x5::v::l:=rfl
theorem t7 {v x0 x1 x2 x3 x4 x5 x6 x7:Value} {l:List Value}:(x0::x1::x2::x3::x4::x5::x6::x7::l).set 7 v = x0::x1::x2::x3::x4::x5::x6::v::l:=rfl
theorem zVR {l l':List Value} {off:Nat} {v:Value} (h:l.set off v = l':=by first | exact t0 | exact t1 | exact t2 | exact t3 | exact t4 | exact t5 | exact t6 | exact t7 | rfl):l.set off v = l':=h
theorem zBY {a:Addr} {b off:Nat} {l l':List Value} {T:TypeId} {v:Value} (h:HG B (blk b (.cells l'.toArray T (0,0))::Δ) k) [ad:zC2 a b off] [p:Own b Γ (blk b (.cells l.toArray T (0,0))) Δ] (ho:Nat.ble (off + 1) l.length = true:=by rfl)
  (hl:l.set off v = l':=by exact zVR) (hv:yX v = true:=by rfl):HG B Γ (St a v k):=fun w hw=>by
 have h1:=hw.perm p.perm
 refine S0 h1 ad.h (by have:=Nat.le_of_ble_eq_true ho; simp only [List.size_toArray]; omega) hv fun w2 h2=>h w2 ?_
 rw [N6,hl] at h2; exact h2
theorem qX {a:Addr} {b n:Nat} {l l':List Value} {T:TypeId} (h:HG B (blk b (.cells l'.toArray T (0,0))::Δ) k) [ad:zC2 a b 0] [p:Own b Γ (blk b (.cells l.toArray T (0,0))) Δ] (hn:l.length = n:=by rfl) (hn':l'.length = n:=by rfl)
  (hf:l'.all yX = true:=by rfl):HG B Γ (StN a n l'.toArray k):=fun w hw=>
 T0 (hw.perm p.perm) ad.h (by simpa using hn) (by simpa using hn') (fun v hv=>List.all_eq_true.1 hf v (by simpa using hv)) fun w2 h2=>h w2 h2
def elA (s:Sl) (i esz:Nat):Addr:=(s.a.getD ⟨0,0,none⟩).add (i * esz)
theorem yh {s:Sl} {E esz:Nat} {vs:List Value} (h:Holds B Γ w) [p:zBg s Γ (SlC E esz s vs) Δ]:RdC w s esz vs∧vs.length = s.n * esz∧s.n ≤ s.c∧(∀ a,s.a = some a→a.spot = none)∧(s.a = none→s.c = 0):=by
 have h1:=h.perm p.perm
 exact ⟨h1.rdC List.mem_cons_self,h1.zLN⟩
theorem zG8 {s:Sl} {E esz:Nat} {vs:List Value} (h:Holds B Γ w) (p:zBg s Γ (SlC E esz s vs) Δ):vs.length = s.n * esz∧s.n ≤ s.c∧(∀ a,s.a = some a→a.spot = none)∧(s.a = none→s.c = 0):=(yh h (p:=p)).2
theorem yS (s:Sl) {E esz:Nat} {vs:List Value} [p:zBg s Γ (SlC E esz s vs) Δ] (h:vs.length = s.n * esz→s.n ≤ s.c→(∀ a,s.a = some a→a.spot = none)→(s.a = none→s.c = 0)→HG B Γ k):HG B Γ k:=fun w hw=>by
 obtain ⟨h1,h2,h3,h4⟩:=zG8 hw p
 exact h h1 h2 h3 h4 w hw
theorem vZ {s:Sl} {i:Nat} {ii:Int} {esz:Nat} {E:Nat} {vs:List Value} {k:Addr→K} (h:HG B Γ (k (elA s i esz))) [p:zBg s Γ (SlC E esz s vs) Δ] (hi:ii = (i:Int):=by first | rfl | omega) (hn:i < s.n:=by omega):HG B Γ (Idx s ii esz k):=fun w hw=>by
 obtain ⟨h1,h2,h3,h4⟩:=zG8 hw p
 subst hi
 cases ha:s.a with
 | none=>have:=h4 ha; omega
 | some a=>exact ⟨a,elA s i esz,ha,by omega,by omega,by simp [elA,ha],h w hw⟩
theorem zOY {s:Sl} {i off esz:Nat} {vs:List Value} {v:Value} (h:RdC w s esz vs) (hsp:∀ a,s.a = some a→a.spot = none) (hv:vs[i * esz + off]? = some v):w.cell? ((elA s i esz).add off) = some v:=by
 have hlt:=(List.getElem?_eq_some_iff.1 hv).1
 cases ha:s.a with
 | none=>have:=h.nil ha; have:=h.len; simp_all
 | some a=>
  have h1:=h.at' a ha _ hlt
  simp only [elA,ha,Option.getD_some]
  rw [add_add' _ (hsp a ha),h1,hv]
theorem zaP {α:Type} {s:Sl} {i off esz E:Nat} {vs:List Value} {c:α→Value} {x:α} {k:α→K} (hv:vs[i * esz + off]? = some (c x)) (h:HG B Γ (k x)) [p:zBg s Γ (SlC E esz s vs) Δ]:HG B Γ (Ld ((elA s i esz).add off) c k):=fun w hw=>by
 obtain ⟨h0,h1,h2,h3,h4⟩:=yh hw (p:=p)
 exact ⟨x,zOY h0 h3 hv,h w hw⟩
theorem add0 (a:Addr):a.add 0 = a:=by simp [Addr.add]
theorem zCB {α:Type} {s:Sl} {i esz E:Nat} {vs:List Value} {c:α→Value} {x:α} {k:α→K} (hv:vs[i * esz]? = some (c x)) (h:HG B Γ (k x)) [p:zBg s Γ (SlC E esz s vs) Δ]:HG B Γ (Ld (elA s i esz) c k):=by
 rw [← add0 (elA s i esz)]; exact zaP (by simpa using hv) h
theorem zEq {s:Sl} {i off n esz E:Nat} {vs:List Value} {l':List Value} {k:Array Value→K} (hv:(vs.drop (i * esz + off)).take n = l') (hn:l'.length = n) (h:HG B Γ (k l'.toArray)) [p:zBg s Γ (SlC E esz s vs) Δ]:HG B Γ (LdN ((elA s i esz).add off) n k):=fun w hw=>by
 obtain ⟨h0,h1,h2,h3,h4⟩:=yh hw (p:=p)
 refine ⟨l'.toArray,by simpa using hn,fun j hj=>?_,h w hw⟩
 have hj':j < l'.length:=by simpa using hj
 have hx:vs[i * esz + (off + j)]? = some l'[j]:=by
  have:l'[j]? = vs[i * esz + off + j]?:=by rw [← hv,List.getElem?_take,if_pos (by omega),List.getElem?_drop]
  rw [← Nat.add_assoc,← this,List.getElem?_eq_getElem hj']
 have h5:=zOY h0 h3 hx
 have h6:((elA s i esz).add off).add j = (elA s i esz).add (off + j):=by
  cases ha:s.a with
  | none=>have:=h0.nil ha; have h7:=(List.getElem?_eq_some_iff.1 hx).1; simp_all
  | some a=>
   simp only [elA,ha,Option.getD_some]
   have hsp:(a.add (i * esz)).spot = none:=by obtain ⟨b,o,t⟩:=a; have:=h3 _ ha; simp only at this; subst this; rw [uV]
   rw [add_add' _ hsp]
 rw [h6,h5]; simp [hj']
end
end
section
open Go Go.RowKit
def zF2 (P:Program) (T U E esz:Nat):Bool:=sliceT P T E esz && zPv P U && match P.info? E with
 | some i=>Nat.ble i.bytes 1000 && !Nat.beq i.bytes 0 && match i.zero with
  | some z=>Nat.beq z.cells.size esz && z.cells.toList.all yX
  | none=>false
 | none=>false
theorem zDX {P:Program} {T U E esz:Nat} (h:zF2 P T U E esz = true):sliceT P T E esz = true∧zPv P U = true∧∃ n zv,zJI P E n = true∧n ≤ 1000∧n ≠ 0∧zBN P E zv∧zv.cells.size = esz∧∀ v ∈ zv.cells.toList,yX v = true:=by
 unfold zF2 at h
 simp only [Bool.and_eq_true] at h
 obtain ⟨⟨h1,h2⟩,h3⟩:=h
 refine ⟨h1,h2,?_⟩
 split at h3
 ·rename_i i hi
  simp only [Bool.and_eq_true,Bool.not_eq_true'] at h3
  obtain ⟨⟨h4,h5⟩,h6⟩:=h3
  split at h6
  ·rename_i z hz
   simp only [Bool.and_eq_true] at h6
   refine ⟨i.bytes,z,by unfold zJI; rw [hi]; simp,Nat.le_of_ble_eq_true h4,(fun e=>by rw [e] at h5; cases h5),⟨i,hi,hz⟩,Nat.eq_of_beq_eq_true h6.1,List.all_eq_true.1 h6.2⟩
  ·cases h6
 ·cases h3
def zVS (P:Program) (T U E esz:Nat):Bool:=zF2 P T T E esz && match P.underlying U with
 | some (.int _)=>true
 | _=>false
section
variable {P:Program} {B w:World} {Γ Δ:List zB} {E esz:Nat} {s x:Sl} {vs us:List Value}
theorem xR {T U Tr:Nat} {k:Sl→K} (hx:∀ w,Holds B Γ w→RdC w x esz us) (hfl:∀ u ∈ us,yX u = true) (hroom:s.n + x.n ≤ 100000000) (h:∀ s',s'.n = s.n + x.n→HG B (SlC E esz s' (vs++us)::Δ) (k s')) [p:zBg s Γ (SlC E esz s vs) Δ] (hT:zF2 P T U E esz = true:=by kernel_rfl) :
  HG B Γ (Do P (Builtin.append_ #[T,U] Tr #[s.val,x.val]) Sl.val k):=fun w hw=>by
 obtain ⟨h1,h2,n,zv,h3,h4,h5,h6,h7,_⟩:=zDX hT
 refine zLL (hw.perm p.perm) h1 h2 h3 h6 h7 (hx w hw) hfl ?_ h5 fun s' w' h' hn _=>h s' hn w' h'
 have h8:(2 * (s.n + x.n) + 800) * n ≤ 200000800 * 1000:=Nat.mul_le_mul (by omega) h4
 omega
theorem zOZ {T U Tr m:Nat} {us:List Value} {k:Sl→K} (h:∀ s',s'.n = s.n + m→HG B (SlC E esz s' (vs++us)::Δ) (k s')) [p:zBg s Γ (SlC E esz s vs) Δ] (hn:s.n + m ≤ 100000000:=by omega) (hl:us.length = m * esz:=by rfl) (hfl:us.all yX = true:=by rfl) (hT:zF2 P T U E esz = true:=by kernel_rfl) :
  HG B Γ (New E us.toArray fun t=>Do P (Builtin.append_ #[T,U] Tr #[s.val,Sl.val (Sl.mk (some t) m m)]) Sl.val k):=zR fun b=>by
 refine xR (us:=us) (fun w hw=>RdC.zLM hw List.mem_cons_self (by simp) hl m) (zIj hfl) (by simp only; omega) (hT:=hT) fun s' hs'=>?_
 exact zC (Δ:=SlC E esz s' (vs++us)::Δ) (h s' hs')
theorem zOa {a:Option Addr} {n c m:Nat} (hm:n + m ≤ c) {g:Hp} (h:SlC E esz ⟨a,n,c⟩ vs g):∃ js:List Value,js.length = m * esz∧SlC E esz ⟨a,n + m,c⟩ (vs++js) g:=by
 obtain ⟨hl,hc,hs⟩:=h
 simp only at hl hc hs
 cases a with
 | none=>
  simp only at hs
  have h0:n = 0∧m = 0:=by omega
  obtain ⟨rfl,rfl⟩:=h0
  exact ⟨[],by simp,by simpa using hl,by simp only; omega,hs⟩
 | some a=>
  obtain ⟨hsp,cs,fz,hb,hf,hsz,hv⟩:=hs
  have hmul:n * esz + m * esz ≤ c * esz:=by rw [← Nat.add_mul]; exact Nat.mul_le_mul_right _ hm
  refine ⟨(cs.toList.drop (a.off + vs.length)).take (m * esz),?_,?_,hm,hsp,cs,fz,hb,hf,hsz,fun i hi=>?_⟩
  ·simp only [List.length_take,List.length_drop,Array.length_toList]; omega
  ·simp only [List.length_append,List.length_take,List.length_drop,Array.length_toList,Nat.add_mul]; omega
  ·rw [List.getElem?_append]
   split
   ·rename_i h1; exact hv i h1
   ·rename_i h1
    simp only [List.length_append,List.length_take,List.length_drop,Array.length_toList] at hi
    rw [List.getElem?_take,if_pos (by omega),List.getElem?_drop,show a.off + vs.length + (i - vs.length) = a.off + i by omega]
    simp
def zC3 (vs:List Value) (p:Nat) (us:List Value):List Value:=vs.take p++us++vs.drop (p + us.length)
theorem zM1 {p:Nat} (h:p + us.length ≤ vs.length):(zC3 vs p us).length = vs.length:=by
 simp only [zC3,List.length_append,List.length_take,List.length_drop]; omega
theorem zM2 {a:Addr} {p:Nat} (h:Holds B (SlC E esz s vs::Γ) w) (ha:s.a = some a) (hp:p + us.length ≤ vs.length) (hfl:∀ u ∈ us,yX u = true) :
  ∃ w',setCells (a.add p) us 0 w = w'∧(∀ P:Program,(storeCells (a.add p) us).run P w = .ok () w')∧Holds B (SlC E esz s (zC3 vs p us)::Γ) w'∧(∀ i,i < us.length→(∃ u,w.cell? ((a.add p).add i) = some u)∧w.frozen? ((a.add p).add i) = false):=by
 obtain ⟨cs,fz,h2,hsp,hf,hsz,hr,hl,hc⟩:=zLO h ha
 obtain ⟨b,off,sp⟩:=a
 simp only at hsp h2 hf hsz hr; subst hsp
 have hb:=h2.block
 have hmul:vs.length ≤ s.c * esz:=by rw [hl]; exact Nat.mul_le_mul_right _ hc
 have hcell:∀ i,i < us.length→(∃ u,w.cell? (((⟨b,off,none⟩:Addr).add p).add i) = some u)∧w.frozen? (((⟨b,off,none⟩:Addr).add p).add i) = false:=fun i hi=>by
  rw [uV,uV]
  have hlt:off + p + i < cs.size:=by omega
  exact ⟨⟨_,vI hb (Array.getElem?_eq_getElem hlt)⟩,zAf hb (hf _ (by omega) (by omega))⟩
 refine ⟨_,rfl,fun P=>zBk us 0 w hfl fun j hj=>by simpa using hcell j hj,?_,hcell⟩
 rw [uV,zBS _ _ _ _ _ hb]
 have h3:=h2.setBlock (o':=.cells ((us.zipIdx (off + p + 0)).foldl (fun c q=>c.setIfInBounds q.2 q.1) cs) E fz) rfl
 refine zLP ha h3 ⟨rfl,hf,by rw [fold_size]; exact hsz,fun i hi=>?_,by rw [zM1 hp]; exact hl,hc⟩
 rw [zM1 hp] at hi
 simp only [Nat.add_zero]
 unfold zC3
 rw [List.append_assoc,List.getElem?_append]
 split
 ·rename_i h1
  simp only [List.length_take] at h1
  rw [zDo _ _ _ _ (by omega),hr i hi,List.getElem?_take,if_pos (by omega)]
 ·rename_i h1
  simp only [List.length_take] at h1 ⊢
  rw [show min p vs.length = p by omega] at h1 ⊢
  rw [List.getElem?_append]
  split
  ·rename_i h4
   rw [show off + i = off + p + (i - p) by omega,zKo _ _ _ _ h4 (by omega)]
  ·rename_i h4
   rw [zDo _ _ _ _ (by omega),hr i hi,List.getElem?_drop,show p + us.length + (i - p - us.length) = i by omega]
theorem zOb {i off n:Nat} {us:List Value} {k:K} (h:HG B (SlC E esz s (zC3 vs (i * esz + off) us)::Δ) k) [p:zBg s Γ (SlC E esz s vs) Δ] (hn:us.length = n:=by rfl) (hp:i * esz + off + n ≤ vs.length:=by omega) (hfl:us.all yX = true:=by rfl):HG B Γ (StN ((elA s i esz).add off) n us.toArray k):=fun w hw=>by
 have h1:=hw.perm p.perm
 obtain ⟨h2,h3,h4,h5⟩:=zG8 hw p
 cases ha:s.a with
 | none=>
  have h6:=h5 ha
  have h7:vs.length = 0:=by rw [h2,show s.n = 0 by omega]; simp
  subst hn
  have h8:us = []:=List.length_eq_zero_iff.1 (by omega)
  subst h8
  refine ⟨w,rfl,by simp,fun i hi=>by simp at hi,by simp,?_⟩
  have e:zC3 vs (i * esz + off) [] = vs:=by simp [zC3]
  rw [e] at h
  exact h w h1
 | some a=>
  subst hn
  have e:(elA s i esz).add off = a.add (i * esz + off):=by simp only [elA,ha,Option.getD_some]; rw [add_add' _ (h4 a ha)]
  obtain ⟨w',e1,_,h6,h7⟩:=zM2 h1 ha hp (zIj hfl)
  rw [e]
  exact ⟨w',by simpa using e1.symm,by simp,by simpa using h7,by simpa using zIj hfl,h w' h6⟩
theorem zPx {i off:Nat} {v:Value} {k:K} (h:HG B (SlC E esz s (vs.set (i * esz + off) v)::Δ) k) [p:zBg s Γ (SlC E esz s vs) Δ] (hp:i * esz + off < vs.length:=by omega) (hv:yX v = true:=by rfl):HG B Γ (St ((elA s i esz).add off) v k):=fun w hw=>by
 have h1:=hw.perm p.perm
 obtain ⟨h2,h3,h4,h5⟩:=zG8 hw p
 cases ha:s.a with
 | none=>have h6:=h5 ha; rw [show s.n = 0 by omega] at h2; omega
 | some a=>
  have e:(elA s i esz).add off = a.add (i * esz + off):=by simp only [elA,ha,Option.getD_some]; rw [add_add' _ (h4 a ha)]
  rw [e]
  exact zVN h1 ha hp hv fun w' h'=>h w' h'
theorem zOc {T U t l:Nat} {d:Sl} {us:List Value} {k:Int→K} (hx:∀ w,Holds B Γ w→RdC w x esz us) (hfl:∀ u ∈ us.take ((s.n - l) * esz),yX u = true) (hd:d = ⟨zBj s.a l s.c esz,s.n - l,s.c - l⟩) (hl:l ≤ s.n)
  (h:HG B (SlC E esz s (zC3 vs (l * esz) (us.take ((s.n - l) * esz)))::Δ) (k (min x.n (s.n - l):Nat))) [p:zBg s Γ (SlC E esz s vs) Δ] (hT:zF2 P T U E esz = true:=by kernel_rfl) :
  HG B Γ (Do P (Builtin.copy_ #[T,U] t #[d.val,x.val]) (Value.int .i64) k):=fun w hw=>by
 have hda:d.a = zBj s.a l s.c esz:=by rw [hd]
 have hdn:d.n = s.n - l:=by rw [hd]
 clear hd
 obtain ⟨hs1,_,_⟩:=zDX hT
 obtain ⟨hsl,hsz⟩:=je hs1
 have h1:=hw.perm p.perm
 obtain ⟨h2,h3,h4,h5⟩:=zG8 hw p
 have hr:=hx w hw
 have hul:=hr.len
 have hr2:RdC w ⟨x.a,min x.n (s.n - l),x.c⟩ esz (us.take (min x.n (s.n - l) * esz)):=hr.take (Nat.min_le_left _ _)
 have hfc:=zBo (P:=P) hr2
 have hval:∀ m,Builtin.firstCells esz m (Sl.val ⟨x.a,min x.n (s.n - l),x.c⟩) = Builtin.firstCells esz m x.val:=fun m=>by
  obtain ⟨xa,xn,xc⟩:=x; cases xa <;> rfl
 rw [hval] at hfc
 have e0:us.take (min x.n (s.n - l) * esz) = us.take ((s.n - l) * esz):=by
  rcases Nat.le_total x.n (s.n - l) with h6 | h6
  ·rw [Nat.min_eq_left h6,← hul,List.take_length,List.take_of_length_le (by rw [hul]; exact Nat.mul_le_mul_right _ h6)]
  ·rw [Nat.min_eq_right h6]
 rw [e0] at hfc
 have hlen:(us.take ((s.n - l) * esz)).length ≤ (s.n - l) * esz:=by rw [List.length_take]; omega
 have hmul:l * esz + (s.n - l) * esz = vs.length:=by rw [← Nat.add_mul,h2]; congr 1; omega
 have hg0:(#[T,U]:Array TypeId)[0]? = some T:=rfl
 have hv0:(#[d.val,x.val]:Array Value)[0]? = some d.val:=rfl
 have hv1:(#[d.val,x.val]:Array Value)[1]? = some x.val:=rfl
 have hlo:(Builtin.lenOf x.val).run P w = .ok x.n w:=by simp [Builtin.lenOf,Sl.val]
 cases ha:s.a with
 | none=>
  have h6:=h5 ha
  have h7:s.n = 0:=by omega
  have h8:us.take ((s.n - l) * esz) = []:=by rw [h7]; simp
  refine ⟨((min x.n (s.n - l):Nat):Int),w,?_,?_⟩
  rotate_left
  ·rw [h8] at h
   have e:zC3 vs (l * esz) [] = vs:=by simp [zC3]
   rw [e] at h
   exact h w h1
  ·unfold Builtin.copy_
   simp only [hg0,hv0,hv1]
   simp only [Sem.run_bind,run_underlying hsl,Result.andThen,Sl.val,jD hsz]
   simp only [Sl.val] at hlo hfc
   simp only [hlo,Sem.run_bind,Result.andThen,hdn]
   rw [show Nat.min x.n (s.n - l) = min x.n (s.n - l) from rfl,hfc]
   rw [hda]
   simp [zBj,h8,goInt,storeCells]
   split <;> simp
 | some a=>
  have hsp:=h4 a ha
  obtain ⟨w',_,hst',h6,_⟩:=zM2 (p:=l * esz) (us:=us.take ((s.n - l) * esz)) h1 ha (by omega) hfl
  have hst:=hst' P
  refine ⟨((min x.n (s.n - l):Nat):Int),w',?_,h w' h6⟩
  unfold Builtin.copy_
  simp only [hg0,hv0,hv1]
  simp only [Sem.run_bind,run_underlying hsl,Result.andThen,Sl.val,jD hsz]
  simp only [Sl.val] at hlo hfc
  simp only [hlo,Sem.run_bind,Result.andThen,hdn]
  rw [show Nat.min x.n (s.n - l) = min x.n (s.n - l) from rfl,hfc]
  rw [hda,ha]
  by_cases hcl:s.c = l
  ·have h7:s.n - l = 0:=by omega
   have h8:us.take ((s.n - l) * esz) = []:=by rw [h7]; simp
   rw [h8] at hst
   have hw':w' = w:=by simpa [storeCells] using hst.symm
   simp [zBj,hcl,h8,goInt,storeCells,hw']
  ·simp [zBj,hcl,hst,goInt]
theorem zFY {T U Tr:Nat} {us:List Value} {k:Sl→K} (hx:∀ w,Holds B Γ w→RdC w x esz us) (hfl:∀ u ∈ us,yX u = true) (hroom:x.n ≤ 100000000) (h:∀ s',s'.n = x.n→HG B (SlC E esz s' us::Γ) (k s')) (hT:zF2 P T U E esz = true:=by kernel_rfl) :
  HG B Γ (New E #[] fun t=>Do P (Builtin.append_ #[T,U] Tr #[Sl.val (Sl.mk (some t) 0 0),x.val]) Sl.val k):=zR fun b=>by
 refine zCh (A':=SlC E esz ⟨some ⟨b,0,none⟩,0,0⟩ []) (zEI (vs:=[]) rfl (by simp)) ?_
 refine xR (us:=us) (fun w hw=>hx w hw.tail) hfl (by simp only; omega) (hT:=hT) fun s' hs'=>?_
 have:=h s' (by simpa using hs')
 simpa using this
theorem zVT {T U Tr:Nat} {m:Int} {k:Sl→K} (hm:0 ≤ m) (hgrow:(s.c:Int) < s.n + m) (hroom:(s.n:Int) + m ≤ 100000000) (h:∀ s' zs,s'.n = s.n + m.toNat→zs.length = m.toNat * esz→(∀ v ∈ zs,yX v = true)→HG B (SlC E esz s' (vs++zs)::Γ) (k s')) (hr:∀ w,Holds B Γ w→RdC w s esz vs) (hsp:s.n ≤ s.c) (hT:zVS P T U E esz = true:=by kernel_rfl) :
  HG B Γ (Do P (Builtin.append_ #[T,U] Tr #[s.val,.int .i64 m]) Sl.val k):=fun w hw=>by
 unfold zVS at hT
 simp only [Bool.and_eq_true] at hT
 obtain ⟨hT,hU⟩:=hT
 obtain ⟨hs1,_,by',zv,hby,hle,hne,hz,hzs,hzf⟩:=zDX hT
 obtain ⟨hsl,hsz⟩:=je hs1
 obtain ⟨ib,hib,hbytes⟩:=zJw hby
 obtain ⟨n,rfl⟩:∃ n:Nat,m = n:=⟨m.toNat,by omega⟩
 simp only [Int.toNat_natCast] at h
 obtain ⟨kd,hU'⟩:∃ kd,P.underlying U = some (.int kd):=by
  split at hU
  ·rename_i kd hk; exact ⟨kd,hk⟩
  ·cases hU
 have hti:(typeInfo E).run P w = .ok ib w:=by simp [typeInfo,program,hib,Sem.run]
 have hget:(#[T,U]:Array TypeId)[0]? = some T:=rfl
 have hget1:(#[T,U]:Array TypeId)[1]? = some U:=rfl
 have hv0:(#[s.val,Value.int .i64 (n:Int)]:Array Value)[0]? = some s.val:=rfl
 have hv1:(#[s.val,Value.int .i64 (n:Int)]:Array Value)[1]? = some (Value.int .i64 (n:Int)):=rfl
 have hwr:IntKind.wrap .i64 (n:Int) = n:=wrap64 (by omega) (by omega)
 have hl0:¬ ((n:Int) < 0):=by omega
 have hbig2:¬ ((n:Int) * (ib.bytes:Int) > 2 ^ 48):=by
  rw [hbytes]
  have h1:n * by' ≤ 100000000 * 1000:=Nat.mul_le_mul (by omega) hle
  have h2:((n * by':Nat):Int) ≤ 100000000 * 1000:=by omega
  rw [Int.natCast_mul] at h2
  omega
 have hcap:=zLJ (show s.c < s.n + n by omega)
 have hcap2:¬ (Builtin.nextslicecap (s.n + n) s.c * ib.bytes > 2 ^ 48):=by
  rw [hbytes]
  have h1:=Nat.mul_le_mul hcap hle
  have h2:(2 * (s.n + n) + 800) * 1000 ≤ 200000800 * 1000:=Nat.mul_le_mul_right _ (by omega)
  omega
 have hi64:¬ ((s.n + n:Nat):Int) > IntKind.i64.max:=by simp [IntKind.max,IntKind.signed,IntKind.bits]; omega
 have hn:¬ (s.n + n ≤ s.c):=by omega
 have hio:(asIntOf (Value.int .i64 (n:Int))).run P w = .ok (.i64,(n:Int)) w:=by simp [asIntOf]
 show ∃ x w',(Builtin.append_ #[T,U] Tr #[s.val,.int .i64 n]).run P w = .ok (Sl.val x) w'∧k x w'
 unfold Builtin.append_
 simp only [hget,hget1,hv0,hv1]
 simp only [Sem.run_bind,run_underlying hsl,Result.andThen,Sl.val,jD hsz,run_underlying hU',Sem.run_pure,if_true,asInt,hio,hwr,hl0,if_false,hti,hbig2,Int.toNat_natCast]
 simp only [hn,if_false]
 simp only [Sem.run_bind,hti,Result.andThen]
 rw [if_neg (by rintro ⟨h1,_⟩; exact hi64 h1)]
 simp only [Sem.run_bind,hti,Result.andThen,Sem.run_pure]
 rw [if_neg hcap2]
 obtain ⟨newCap,w1,hch,hle1,hw1⟩:∃ nc w1,(choose (.appendCap (s.n + n) s.c E)).run P w = .ok nc w1∧s.n + n ≤ nc∧w1 = { w with drawn:=w.drawn + 1 }:=by
  refine ⟨(Question.appendCap (s.n + n) s.c E).cut (w.tape w.drawn (.appendCap (s.n + n) s.c E)),_,by simp [choose,Sem.run,Question.forced],?_,rfl⟩
  simp only [Question.cut]; omega
 have hw':Holds B Γ w1:=by rw [hw1]; exact hw.drew _
 have hrs1:=hr w1 hw'
 have hti1:(typeInfo E).run P w1 = .ok ib w1:=by simp [typeInfo,program,hib,Sem.run]
 have hf1:=zBo (P:=P) hrs1
 simp only [Sl.val] at hf1
 obtain ⟨zs,hzl,hzfl,hap⟩:∃ zs:List Value,zs.length = n * esz∧(∀ v ∈ zs,yX v = true)∧(if n * esz = 0 then (pure #[]:Sem (Array Value)) else do pure (Builtin.zeroCells (← zeroValue E).cells n)).run P w1 = .ok zs.toArray w1:=by
  by_cases h0:n * esz = 0
  ·exact ⟨[],by simp [h0],by simp,by simp [h0]⟩
  ·refine ⟨(Builtin.zeroCells zv.cells n).toList,by simp [Builtin.zeroCells,hzs],zGT _ _ hzf,?_⟩
   rw [if_neg h0]
   simp [zAU hz]
 simp only [hch,hti1,run_askRoom,hf1,zAU hz,Sem.run_bind,Result.andThen,Sem.run_pure,newRow,newObj,Sem.run,Bool.not_true,Bool.false_eq_true,if_false] at hap ⊢
 simp only [hap]
 refine ⟨⟨some ⟨w1.heap.size,0,none⟩,s.n + n,newCap⟩,_,rfl,h _ zs rfl (by simpa using hzl) hzfl _ ?_⟩
 have h2:=hw'.alloc (.cells (vs.toArray++zs.toArray++Builtin.zeroCells zv.cells (newCap - (s.n + n))) E)
 have hvl:=hrs1.len
 refine h2.imp fun g hg=>⟨?_,hle1,rfl,_,(0,0),hg,?_,?_,?_⟩
 ·simp [hvl,hzl,Nat.add_mul]
 ·intro i _ _; simp
 ·simp only [Nat.zero_add,Array.size_append,List.size_toArray,hvl,hzl,Builtin.zeroCells,Array.size_map,Array.size_range,hzs]
  rw [← Nat.add_mul,← Nat.add_mul]
  exact Nat.mul_le_mul_right _ (by omega)
 ·intro i hi
  simp only [Nat.zero_add]
  rw [Array.getElem?_append_left (by simpa using hi)]
  simp [List.getElem?_append,Array.getElem?_append]
theorem zAC {lo hi mx:Nat} {l h' m:Int} {ks:Sl→K} (h:HG B Γ (ks ⟨zBj s.a lo mx esz,hi - lo,mx - lo⟩)) (hl:l = (lo:Int):=by first | rfl | omega) (hh:h' = (hi:Int):=by first | rfl | omega) (hm:m = (mx:Int):=by first | rfl | omega) (h1:lo ≤ hi:=by omega) (h2:hi ≤ mx:=by omega) (h3:mx ≤ s.c:=by omega) :
  HG B Γ (Slc s l h' m esz ks):=fun w hw=>by
 subst hl; subst hh; subst hm
 exact ⟨_,by omega,by omega,by omega,by omega,by simp,h w hw⟩
theorem zCL {k:K} {m c':Nat} (hm:m ≤ s.n) (hc:m ≤ c') (hc':c' ≤ s.c) (h:HG B (SlC E esz ⟨s.a,m,c'⟩ (vs.take (m * esz))::Δ) k) [p:zBg s Γ (SlC E esz s vs) Δ]:HG B Γ k:=fun w hw=>h w ((hw.perm p.perm).imp fun g hg=>by
 obtain ⟨hl,_,hs⟩:=SlC.take hm g hg
 refine ⟨hl,hc,?_⟩
 cases ha:s.a with
 | none=>rw [ha] at hs; simp only at hs ⊢; omega
 | some a=>
  rw [ha] at hs
  obtain ⟨hsp,cs,fz,hb,hf,hsz,hv⟩:=hs
  have:c' * esz ≤ s.c * esz:=Nat.mul_le_mul_right _ hc'
  exact ⟨hsp,cs,fz,hb,fun i h1 h2=>hf i h1 (by simp only at h2 ⊢; omega),by simp only at hsz ⊢; omega,hv⟩)
theorem zaQ {k:K} {m:Nat} (hm:s.n + m ≤ s.c) (h:∀ js:List Value,js.length = m * esz→HG B (SlC E esz ⟨s.a,s.n + m,s.c⟩ (vs++js)::Δ) k) [p:zBg s Γ (SlC E esz s vs) Δ]:HG B Γ k:=fun w hw=>by
 have h1:=hw.perm p.perm
 have h2:Holds B ((ex fun js:List Value=>fun g=>js.length = m * esz∧SlC E esz ⟨s.a,s.n + m,s.c⟩ (vs++js) g)::Δ) w:=h1.imp fun g hg=>zOa hm hg
 obtain ⟨js,h3⟩:=Holds.ex.1 h2
 exact h js (h3.fact fun g hg=>hg.1) w (h3.imp fun g hg=>hg.2)
theorem zIl {T t l q m:Nat} {d:Sl} {k:Value→K} (hd:d = ⟨zBj s.a l m esz,q,m - l⟩) (hl:s.n ≤ l) (hq:l + q ≤ s.c) (hm:q = 0∨m ≠ l) (h:HG B (SlC E esz s vs::Δ) (k (.tuple #[]))) [p:zBg s Γ (SlC E esz s vs) Δ] (hT:zF2 P T T E esz = true:=by kernel_rfl) :
  HG B Γ (Do P (Builtin.clear_ #[T] t #[d.val]) id k):=fun w hw=>by
 obtain ⟨h1,_,_,zv,_,_,_,h6,h7,h8⟩:=zDX hT
 exact zXR (hw.perm p.perm) h1 h6 h7 h8 hl hq hm hd fun w' h'=>h w' h'
theorem zVU {n m esz:Nat} (h:vs.length = n * esz) (hm:m ≤ n):(vs.take (m * esz)).length = m * esz:=by
 have:=Nat.mul_le_mul_right esz hm
 rw [List.length_take]; omega
theorem zOd {T t:Nat} {k:Int→K} (hT:zF2 P T T E esz = true) (h:HG B Γ (k (s.c:Int))):HG B Γ (Do P (Builtin.cap_ #[T] t #[s.val]) (Value.int .i64) k):=fun w hw=>by
 obtain ⟨h1,_⟩:=zDX hT
 obtain ⟨hsl,_⟩:=je h1
 refine ⟨s.c,w,?_,h w hw⟩
 unfold Builtin.cap_
 have hget:(#[T]:Array TypeId)[0]? = some T:=rfl
 have hv0:(#[s.val]:Array Value)[0]? = some s.val:=rfl
 simp only [hget,hv0]
 simp only [Sem.run_bind,run_underlying hsl,Result.andThen,Sl.val]
 rfl
end
end
section
open Go Go.RowKit
def zPy (P:Program) (T J R esz:Nat) (rot:Sl→Int→K→K) (s0:Sl) (i1:Int) (v2:Sl) (Q:Sl→K):K :=
 Slc s0 i1 (s0.n:Int) (s0.c:Int) esz fun _=>
 Ite (decide ((v2.n:Int) = 0))
  (Q s0)
  (Ite (decide (i1 = (s0.n:Int)))
   (Do P (Builtin.append_ #[T,T] T #[(Sl.val s0),(Sl.val v2)]) Sl.val fun t25=>
   Q t25)
   (Ar (IntKind.wrap .i64 ((s0.n:Int) + (v2.n:Int))) fun t28=>
   Do P (Builtin.cap_ #[T] J #[(Sl.val s0)]) (Value.int .i64) fun t30=>
   Ite (decide (t30 < t28))
    (Slc s0 0 i1 (s0.c:Int) esz fun t34=>
    Ar (IntKind.wrap .i64 ((s0.n:Int) + (v2.n:Int))) fun t37=>
    Ar (IntKind.wrap .i64 (t37 - i1)) fun t39=>
    Do P (Builtin.append_ #[T,J] T #[(Sl.val t34),(.int .i64 t39)]) Sl.val fun t40=>
    Slc t40 i1 (t40.n:Int) (t40.c:Int) esz fun t43=>
    Do P (Builtin.copy_ #[T,T] J #[(Sl.val t43),(Sl.val v2)]) (Value.int .i64) fun t45=>
    Dr<|
    Ar (IntKind.wrap .i64 (i1 + (v2.n:Int))) fun t49=>
    Slc t40 t49 (t40.n:Int) (t40.c:Int) esz fun t50=>
    Slc s0 i1 (s0.n:Int) (s0.c:Int) esz fun t53=>
    Do P (Builtin.copy_ #[T,T] J #[(Sl.val t50),(Sl.val t53)]) (Value.int .i64) fun t54=>
    Q t40)
    (Ar (IntKind.wrap .i64 ((s0.n:Int) + (v2.n:Int))) fun t59=>
    Slc s0 0 t59 (s0.c:Int) esz fun t60=>
    Ar (IntKind.wrap .i64 (i1 + (v2.n:Int))) fun t65=>
    Slc t60 t65 (t60.n:Int) (t60.c:Int) esz fun t66=>
    Rd P (Extern.SlicesOverlaps.overlaps #[T,T] #[R] [(Sl.val v2),(Sl.val t66)].toArray) Value.bool fun t67=>
    Ite (!t67)
     (Dr<|
     Ar (IntKind.wrap .i64 (i1 + (v2.n:Int))) fun t72=>
     Slc t60 t72 (t60.n:Int) (t60.c:Int) esz fun t73=>
     Slc t60 i1 (t60.n:Int) (t60.c:Int) esz fun t76=>
     Do P (Builtin.copy_ #[T,T] J #[(Sl.val t73),(Sl.val t76)]) (Value.int .i64) fun t77=>
     Slc t60 i1 (t60.n:Int) (t60.c:Int) esz fun t80=>
     Do P (Builtin.copy_ #[T,T] J #[(Sl.val t80),(Sl.val v2)]) (Value.int .i64) fun t82=>
     Q t60)
     (Slc t60 (s0.n:Int) (t60.n:Int) (t60.c:Int) esz fun t86=>
     Do P (Builtin.copy_ #[T,T] J #[(Sl.val t86),(Sl.val v2)]) (Value.int .i64) fun t88=>
     Slc t60 i1 (t60.n:Int) (t60.c:Int) esz fun t91=>
     rot t91 (v2.n:Int)<|
     Q t60))))
def zOe (P:Program) (T Z esz:Nat) (s0:Sl) (i1 j2:Int) (Q:Sl→K):K :=
 Slc s0 i1 j2 (s0.n:Int) esz fun _=>
 Ite (decide (i1 = j2))
  (Q s0)
  (Dr<|
  Slc s0 0 i1 (s0.c:Int) esz fun t22=>
  Slc s0 j2 (s0.n:Int) (s0.c:Int) esz fun t25=>
  Do P (Builtin.append_ #[T,T] T #[(Sl.val t22),(Sl.val t25)]) Sl.val fun t26=>
  Slc t26 (t26.n:Int) (s0.n:Int) (t26.c:Int) esz fun t31=>
  Do P (Builtin.clear_ #[T] Z #[(Sl.val t31)]) id fun _=>
  Q t26)
def zH5 (P:Program) (E T:Nat) (s0:Sl) (Q:Sl→K):K :=
 Ite ((s0).a.isNone)
  (Q (Sl.mk none 0 0))
  (New E #[] fun t5=>
  Do P (Builtin.append_ #[T,T] T #[(Sl.val (Sl.mk (some t5) 0 0)),(Sl.val s0)]) Sl.val fun t7=>
  Q t7)
theorem zDY {A X C us:List Value} {p:Nat} (hp:p = A.length) (h:X.length = us.length):zC3 (A++(X++C)) p us = A++(us++C):=by
 subst hp
 simp only [zC3,List.take_left,List.append_assoc,List.append_cancel_left_eq]
 rw [← h,List.drop_append,List.drop_eq_nil_of_le (by omega),List.nil_append,show A.length + X.length - A.length = X.length by omega,List.drop_left]
section
variable {P:Program} {B w:World} {Γ Δ Δ2:List zB} {E esz:Nat} {s x:Sl} {vs us:List Value}
theorem zaR {T R t l:Nat} {d:Sl} {cs:List Value} {k:Bool→K} (hd:d = ⟨zBj s.a l s.c esz,s.n - l,s.c - l⟩) (h:HG B Γ (k false)) [p:zBg s Γ (SlC E esz s vs) Δ] [q:Own t Δ (blk t (.cells cs.toArray E (0,0))) Δ2] (hc:0 < s.c) (he:0 < esz) (hT:zF2 P T T E esz = true) :
  HG B Γ (Rd P (Extern.SlicesOverlaps.overlaps #[T,T] #[R] [(Sl.val ⟨some ⟨t,0,none⟩,1,1⟩),(Sl.val d)].toArray) Value.bool k):=fun w hw=>by
 obtain ⟨hs1,_⟩:=zDX hT
 obtain ⟨hsl,hsz⟩:=je hs1
 obtain ⟨_,_,hsp,hnil⟩:=zG8 hw p
 have h1:=hw.perm (p.perm.trans (q.perm.cons _))
 cases ha:s.a with
 | none=>have:=hnil ha; omega
 | some a=>
  obtain ⟨cs2,fz,h2,_,_,hsz2,_,_,_⟩:=zLO h1 ha
  have hb2:=h2.block
  have hb1:=h2.swap.block
  have hne:=h2.swap.apart
  obtain ⟨b,off,sp⟩:=a
  have hsp':=hsp _ ha
  simp only at hsp'; subst hsp'
  simp only at hb2 hne hsz2
  have hmul:0 < s.c * esz:=Nat.mul_pos hc he
  refine ⟨false,?_,h w hw⟩
  have hcut:∃ o,zBj s.a l s.c esz = some ⟨b,o,none⟩:=by
   rw [ha]; unfold zBj
   split
   ·exact ⟨_,rfl⟩
   ·exact ⟨_,by simp only [Option.map_some,uV]; rfl⟩
  obtain ⟨o,ho⟩:=hcut
  subst hd
  simp only [Sl.val,ho]
  exact Go.Lib.run_overlaps_apart w T R E hsl esz (fun w=>jD hsz) ⟨t,0,none⟩ ⟨b,o,none⟩ 1 1 _ _ hne E E cs.toArray.size cs2.size (by simp [World.shape?,hb1]) (by simp [World.shape?,hb2]) (by omega) (by simp [World.frozen?,hb1]) (by simp [World.frozen?,hb1])
theorem zAX {t:Nat} {cs:List Value} {T:TypeId} {k:Nat} (he:cs.length = esz) [q:Own t Γ (blk t (.cells cs.toArray T (0,0))) Δ]:∀ w,Holds B Γ w→RdC w ⟨some ⟨t,0,none⟩,1,k⟩ esz cs:=fun w hw=>
 RdC.zLM (E:=T) (hw.perm q.perm) List.mem_cons_self (by simp) (by simpa using he) k
theorem zG9 {n:Nat} (h:∀ v ∈ vs,yX v = true):∀ v ∈ vs.take n,yX v = true:=fun v hv=>h v (List.mem_of_mem_take hv)
theorem zM3 {n:Nat} (h:∀ v ∈ vs,yX v = true):∀ v ∈ vs.drop n,yX v = true:=fun v hv=>h v (List.mem_of_mem_drop hv)
theorem zPz {T J R i t:Nat} {rot:Sl→Int→K→K} {Q:Sl→K} (hi:i ≤ s.n) (hn:s.n < 50000000) (he:us.length = esz) (he0:0 < esz) (hvf:∀ v ∈ vs,yX v = true) (huf:∀ v ∈ us,yX v = true)
  (h:∀ s',s'.n = s.n + 1→HG B (SlC E esz s' (vs.take (i * esz)++us++vs.drop (i * esz))::Δ2) (Q s')) [p:zBg s Γ (SlC E esz s vs) Δ] [q:Own t Δ (blk t (.cells us.toArray E (0,0))) Δ2] (hT:zF2 P T T E esz = true) (hJ:zVS P T J E esz = true) :
  HG B Γ (zPy P T J R esz rot s i ⟨some ⟨t,0,none⟩,1,1⟩ Q):=by
 refine fun w hw=>?_
 refine hg (hw.perm (p.perm.trans (q.perm.cons _))) ?_
 clear hw w p q
 refine yS s fun h1 h2 h3 h4=>?_
 unfold zPy
 dsimp only
 refine zAC (lo:=i) (hi:=s.n) (mx:=s.c) ?_
 refine s_f ?_
 refine zH (fun hb=>?_) fun hb=>?_
 ·have hin:i = s.n:=by simp only [decide_eq_true_eq] at hb; omega
  refine xR (us:=us) (zAX he) huf (by simp only; omega) (hT:=hT) fun s' hs'=>?_
  have e1:vs.take (i * esz) = vs:=List.take_of_length_le (by rw [h1,hin]; exact Nat.le_refl _)
  have e2:vs.drop (i * esz) = []:=List.drop_eq_nil_of_le (by rw [h1,hin]; exact Nat.le_refl _)
  have h5:=h s' (by simpa using hs')
  rw [e1,e2,List.append_nil] at h5
  exact zC (Δ:=SlC E esz s' (vs++us)::Δ2) h5
 have hin:i < s.n:=by simp only [decide_eq_false_iff_not] at hb; omega
 have hsa:∃ a,s.a = some a:=by
  cases ha:s.a with
  | none=>have:=h4 ha; omega
  | some a=>exact ⟨a,rfl⟩
 have hle:i * esz ≤ s.n * esz:=Nat.mul_le_mul_right _ hi
 have hle1:(i + 1) * esz ≤ s.n * esz:=Nat.mul_le_mul_right _ hin
 have hx1:(s.n + 1) * esz = s.n * esz + esz:=by rw [Nat.add_mul,Nat.one_mul]
 have hx2:(i + 1) * esz = i * esz + esz:=by rw [Nat.add_mul,Nat.one_mul]
 have hx3:(s.n + 1 - i) * esz = s.n * esz + esz - i * esz:=by rw [Nat.sub_mul,hx1]
 have hx4:(s.n + 1 - (i + 1)) * esz = s.n * esz - i * esz:=by rw [show s.n + 1 - (i + 1) = s.n - i by omega,Nat.sub_mul]
 have hvs:vs = vs.take (i * esz)++vs.drop (i * esz):=(List.take_append_drop _ _).symm
 have hA:(vs.take (i * esz)).length = i * esz:=zVU h1 hi
 have hC:(vs.drop (i * esz)).length = s.n * esz - i * esz:=by rw [List.length_drop,h1]
 have hvfa:=zG9 (n:=i * esz) hvf
 have hvfc:=zM3 (n:=i * esz) hvf
 refine qU ?_
 refine zOd hT ?_
 refine zH (fun hb=>?_) fun hb=>?_
 ·have hgrow:s.c < s.n + 1:=by simp only [decide_eq_true_eq] at hb; omega
  refine zAC (lo:=0) (hi:=i) (mx:=s.c) ?_
  refine qU ?_
  refine qU ?_
  rw [zJJ h3]
  have hm:∀ z:Nat,z = 1→((s.n:Int) + (z:Int) - i).toNat = s.n + 1 - i:=by omega
  refine zVT (s:=⟨s.a,i - 0,s.c - 0⟩) (vs:=vs.take (i * esz)) (by omega) (by simp only; omega) (by simp only; omega) (fun s' zs hs' hz hzf=>?_) (fun w hw=>(yh hw (p:=zXU)).1.take (by omega)) (by simp only; omega) (hT:=hJ)
  simp only [Nat.sub_zero] at hs'
  have hs'n:s'.n = s.n + 1:=by have:=hm _ rfl; omega
  refine yS s' fun h5 h6 h7 h8=>?_
  refine zAC (lo:=i) (hi:=s'.n) (mx:=s'.c) ?_
  rw [hm _ rfl] at hz hs'
  refine zOc (s:=s') (l:=i) (us:=us) (zAX he) (zG9 huf) rfl (by omega) (hT:=hT) ?_
  refine vk ?_
  refine qU ?_
  refine zAC (lo:=i + 1) (hi:=s'.n) (mx:=s'.c) ?_
  refine zAC (lo:=i) (hi:=s.n) (mx:=s.c) ?_
  refine zOc (s:=s') (l:=i + 1) (us:=vs.drop (i * esz)) (fun w hw=>(yh (s:=s) hw).1.drop hi h2 h3) (zG9 hvfc) rfl (by omega) (hT:=hT) ?_
  have e:zC3 (zC3 (vs.take (i * esz)++zs) (i * esz) (us.take ((s'.n - i) * esz))) ((i + 1) * esz) ((vs.drop (i * esz)).take ((s'.n - (i + 1)) * esz)) = vs.take (i * esz)++us++vs.drop (i * esz):=by
   rw [hs'n,hx3,hx4,List.take_of_length_le (l:=us) (by omega),List.take_of_length_le (l:=vs.drop (i * esz)) (by omega)]
   have hz2:zs = zs.take esz++(zs.drop esz++[]):=by simp
   rw [hz2,zDY hA.symm (by rw [List.length_take,hz]; omega),← List.append_assoc,zDY (by rw [List.length_append,hA]; omega) (by rw [List.length_drop,hz,hC,hx3]; omega)]
   simp
  rw [e]
  exact zC (h s' hs'n)
 ·have hroom:s.n + 1 ≤ s.c:=by simp only [decide_eq_false_iff_not] at hb; omega
  refine qU ?_
  refine zAC (lo:=0) (hi:=s.n + 1) (mx:=s.c) ?_
  rw [zJJ h3]
  refine zaQ (s:=s) (m:=1) hroom fun js hj=>?_
  simp only [Nat.sub_zero]
  generalize hs':(⟨s.a,s.n + 1,s.c⟩:Sl) = s'
  have hs'n:s'.n = s.n + 1:=by rw [← hs']
  have hs'c:s'.c = s.c:=by rw [← hs']
  have hsp':∀ a,s'.a = some a→a.spot = none:=by rw [← hs']; exact h3
  refine qU ?_
  refine zAC (lo:=i + 1) (hi:=s'.n) (mx:=s'.c) ?_
  refine zaR (s:=s') rfl ?_ (by omega) he0 hT
  refine s_t ?_
  refine vk ?_
  refine qU ?_
  refine zAC (lo:=i + 1) (hi:=s'.n) (mx:=s'.c) ?_
  refine zAC (lo:=i) (hi:=s'.n) (mx:=s'.c) ?_
  have hjf:∀ v ∈ ((vs++js).drop (i * esz)).take ((s'.n - (i + 1)) * esz),yX v = true:=fun v hv=>by
   rw [List.drop_append_of_le_length (by omega),hs'n,hx4,← hC,List.take_left] at hv
   exact hvfc v hv
  refine yS s' fun h5 h6 h7 h8=>?_
  refine zOc (s:=s') (l:=i + 1) (us:=(vs++js).drop (i * esz)) (fun w hw=>(yh (s:=s') hw).1.drop (by omega) h6 h7) hjf rfl (by omega) (hT:=hT) ?_
  refine zAC (lo:=i) (hi:=s'.n) (mx:=s'.c) ?_
  refine zOc (s:=s') (l:=i) (us:=us) (zAX he) (zG9 huf) rfl (by omega) (hT:=hT) ?_
  have e:zC3 (zC3 (vs++js) ((i + 1) * esz) (((vs++js).drop (i * esz)).take ((s'.n - (i + 1)) * esz))) (i * esz) (us.take ((s'.n - i) * esz)) = vs.take (i * esz)++us++vs.drop (i * esz):=by
   rw [List.drop_append_of_le_length (by omega),hs'n,hx4,← hC,List.take_left,hx3,List.take_of_length_le (l:=us) (by omega)]
   generalize hAA:vs.take (i * esz) = A at *
   generalize hCC:vs.drop (i * esz) = C at *
   have e1:vs++js = (A++(C++js).take esz)++((C++js).drop esz++[]):=by rw [hvs]; simp
   rw [e1,zDY (by rw [List.length_append,hA,List.length_take,List.length_append]; omega) (by rw [List.length_drop,List.length_append]; omega),List.append_assoc,zDY hA.symm (by rw [List.length_take,List.length_append]; omega)]
   simp
  rw [e]
  exact zC (h s' hs'n)
theorem zM4 {T Z i j:Nat} {Q:Sl→K} (hij:i < j) (hj:j ≤ s.n) (hn:s.n < 50000000) (hvf:∀ v ∈ vs,yX v = true)
  (h:∀ s',s'.n = s.n - (j - i)→HG B (SlC E esz s' (vs.take (i * esz)++vs.drop (j * esz))::Δ) (Q s')) [p:zBg s Γ (SlC E esz s vs) Δ] (hT:zF2 P T T E esz = true) :
  HG B Γ (zOe P T Z esz s i j Q):=by
 refine fun w hw=>?_
 refine hg (hw.perm p.perm) ?_
 clear hw w p
 refine yS s fun h1 h2 h3 h4=>?_
 unfold zOe
 refine zAC (lo:=i) (hi:=j) (mx:=s.n) ?_
 refine s_f ?_
 refine vk ?_
 refine zAC (lo:=0) (hi:=i) (mx:=s.c) ?_
 refine zAC (lo:=j) (hi:=s.n) (mx:=s.c) ?_
 rw [zJJ h3]
 intro w hw
 have hx:RdC w ⟨zBj s.a j s.c esz,s.n - j,s.c - j⟩ esz (vs.drop (j * esz)):=(yh (s:=s) hw).1.drop hj h2 h3
 obtain ⟨g1,g2,by',zv,g3,g4,g5,g6,g7,_⟩:=zDX hT
 refine hg (k:=fun w=>RdC w ⟨zBj s.a j s.c esz,s.n - j,s.c - j⟩ esz (vs.drop (j * esz))→Do P _ _ _ w) hw (zCL (s:=s) (m:=i) (c':=s.c) (by omega) (by omega) (Nat.le_refl _) fun w hw hx=>?_) hx
 have hroom:(2 * (i + (s.n - j)) + 800) * by' ≤ 2 ^ 48:=by
  have h8:(2 * (i + (s.n - j)) + 800) * by' ≤ 200000800 * 1000:=Nat.mul_le_mul (by omega) g4
  omega
 obtain ⟨s',w',hr,hh,hn',hsome,hin⟩:=zLK (Tr:=T) hw g1 g2 g3 g6 g7 hx (zM3 hvf) hroom g5
 simp only at hn'
 refine ⟨s',w',by simpa using hr,hg hh ?_⟩
 have hs':=hin (by simp only; omega)
 have hc':s'.c = s.c:=by rw [hs']
 simp only [Nat.sub_zero] at hn' hs' ⊢
 refine zAC (lo:=s'.n) (hi:=s.n) (mx:=s'.c) ?_
 refine zIl (s:=s') (l:=s'.n) (q:=s.n - s'.n) (m:=s'.c) rfl (Nat.le_refl _) (by omega) (.inr (by omega)) ?_ (hT:=hT)
 exact h s' (by omega)
theorem zP0 {T:Nat} {Q:Sl→K} (hx:∀ w,Holds B Γ w→RdC w s esz us) (hfl:∀ u ∈ us,yX u = true) (hroom:s.n ≤ 100000000) (h:∀ s',s'.n = s.n→HG B (SlC E esz s' us::Γ) (Q s')) (hT:zF2 P T T E esz = true) :
  HG B Γ (zH5 P E T s Q):=by
 unfold zH5
 refine fun w hw=>?_
 refine hg hw ?_
 have hr:=hx w hw
 refine zH (fun hb=>?_) fun hb=>?_
 ·have hn:=hr.nil (by simpa using hb)
  have hl:=hr.len
  rw [hn,Nat.zero_mul] at hl
  have:us = []:=List.length_eq_zero_iff.1 hl
  subst this
  intro w hw
  exact h ⟨none,0,0⟩ hn.symm w (hw.zAk E esz)
 ·exact zFY hx hfl hroom h (hT:=hT)
end
section
variable {P:Program} {B w:World} {Γ Δ:List zB} {k:K}
theorem least {p:Nat→Prop} (h:∃ n,p n):∃ n,p n∧∀ m,p m→n ≤ m:=by
 obtain ⟨n,hn⟩:=h
 induction n using Nat.strongRecOn with
 | ind n ih=>
  by_cases h:∃ m,m < n∧p m
  ·obtain ⟨m,h1,h2⟩:=h; exact ih m h1 h2
  ·exact ⟨n,hn,fun m hm=>Nat.le_of_not_lt fun h2=>h ⟨m,h2,hm⟩⟩
theorem vQ {α ι:Type} {body:(α→K)→α→K} {x:α} (J:α→ι→Prop) (Γf:α→ι→List zB) (m:α→ι→Nat) (i:ι) (h0:J x i)
  (h:∀ (k':α→K) x i,J x i→(∀ x' i',J x' i'→m x' i' < m x i→HG B (Γf x' i') (k' x'))→HG B (Γf x i) (body k' x)) (hΓ:Γf x i = Γ:=by rfl):HG B Γ (yN body x):=fun w hw=>by
 subst hΓ
 let I:α→World→Prop:=fun x w=>∃ i,J x i∧Holds B (Γf x i) w
 let p:α→World→Nat→Prop:=fun x w n=>∃ i,J x i∧Holds B (Γf x i) w∧m x i = n
 have hp:∀ x w,I x w→∃ n,p x w n:=fun x w ⟨i,h1,h2⟩=>⟨_,i,h1,h2,rfl⟩
 let μ:α→World→Nat:=fun x w=>@dite _ (I x w) (Classical.propDecidable _) (fun h=>Classical.choose (least (hp x w h))) fun _=>0
 have hμ:∀ x w (h:I x w),p x w (μ x w)∧∀ n,p x w n→μ x w ≤ n:=fun x w h=>by
  have:=Classical.choose_spec (least (hp x w h))
  simpa [μ,h] using this
 refine yN.of I μ ⟨i,h0,hw⟩ fun x w hI=>?_
 obtain ⟨i,hj,hw,hm⟩:=(hμ x w hI).1
 refine h _ x i hj (fun x' i' hj' hlt w' hw'=>⟨⟨i',hj',hw'⟩,?_⟩) w hw
 have:=(hμ x' w' ⟨i',hj',hw'⟩).2 _ ⟨i',hj',hw',rfl⟩
 omega
theorem j4 {α:Type} {body:(α→K)→α→K} {x:α} (J:α→Prop) (m:α→Nat) (h0:J x)
  (h:∀ (k':α→K) x,J x→(∀ x',J x'→m x' < m x→HG B Γ (k' x'))→HG B Γ (body k' x)):HG B Γ (yN body x) :=
 vQ (ι:=Unit) (fun x _=>J x) (fun _ _=>Γ) (fun x _=>m x) () h0 fun k' x _ hj hk=>h k' x hj fun x' hj' hm=>hk x' () hj' hm
theorem zJK {x y:K} (h1:HG B Γ x) (h2:HG B Γ y):HG B Γ (All [x,y]):=fun w hw=>all_cons (h1 w hw) (all_cons (h2 w hw) all_nil)
theorem zXW {g:Nat} {args:List Value} {k:Value→K} (h:HG B Γ (zK P g args.toArray k)) (hc:callable P g = true:=by kernel_rfl):HG B Γ (vW P (.func (.func g) #[] #[]) args k):=fun w hw=>
 ⟨g,#[],#[],rfl,hc,by have:=h w hw; simpa [zK] using this⟩
theorem zEV {g:Nat} {args cs:List Value} {k:Value→K} (h:HG B Γ (zK P g (args++cs).toArray k)) (hc:callable P g = true:=by kernel_rfl):HG B Γ (vW P (.func (.func g) #[] cs.toArray) args k):=fun w hw=>
 ⟨g,#[],cs.toArray,rfl,hc,by have:=h w hw; simpa [zK] using this⟩
end
abbrev bs (l:List UInt8):ByteArray:=⟨l.toArray⟩
abbrev xU (l:List UInt8):Value:=.string (bs l)
theorem zLQ (b:ByteArray):∃ l,b = bs l:=⟨b.data.toList,by simp [bs]⟩
theorem uU (l:List UInt8):(bs l).toList = l:=by simp
theorem zCM:∀ (x y:List UInt8),Op.bytesLess x y = decide (x < y)
 | [],[]=>by simp [Op.bytesLess]
 | _::_,[]=>by simp [Op.bytesLess]
 | [],_::_=>by simp [Op.bytesLess]
 | a::x,b::y=>by
  rw [Op.bytesLess,zCM x y]
  simp only [List.cons_lt_cons_iff]
  by_cases h1:a < b <;> by_cases h2:a = b <;> by_cases h3:x < y <;> simp [h1,h2,h3]
theorem zZM (x y:List UInt8):(!(Op.bytesLess x y || x == y)) = decide (y < x):=by
 rw [zCM]
 by_cases h1:x < y
 ·have:¬ y < x:=fun h=>List.lt_irrefl x (List.lt_trans h1 h)
  simp [h1,this]
 ·by_cases h2:x = y
  ·subst h2; simp [h1]
  ·have h3:y < x:=by
    have h4:y ≤ x:=by rw [← List.not_lt]; exact h1
    rcases List.le_iff_lt_or_eq.1 h4 with h5 | h5
    ·exact h5
    ·exact absurd h5.symm h2
   simp [h1,h2,h3]
section
variable {B w:World} {Γ Δ:List zB} {k:K} {α:Type} {F:α→zB} {A C:List α} {x:α}
theorem zGV:(((A++x::C).map F)++Γ).Perm (((A++C).map F)++F x::Γ):=by
 have h2:((A++x::C).map F).Perm (F x::(A++C).map F):=(List.perm_middle (a:=x) (l₁:=A) (l₂:=C)).map _
 refine (h2.append_right Γ).trans ?_
 exact (List.perm_middle (a:=F x) (l₁:=(A++C).map F) (l₂:=Γ)).symm
theorem zEk (h:HG B (F x::Sep.stars ((A++C).map F)::Γ) k):HG B (Sep.stars ((A++x::C).map F)::Γ) k:=fun w hw=>
 h w (Holds.flat.2 ((Holds.flat.1 hw).perm zGV)).swap
theorem zAG (h:HG B (Sep.stars ((A++x::C).map F)::Γ) k):HG B (F x::Sep.stars ((A++C).map F)::Γ) k:=fun w hw=>
 h w (Holds.flat.2 ((Holds.flat.1 hw.swap).perm zGV.symm))
end
def bsK (P:Program) (esz:Nat) (x0:Sl) (tv:Value) (cmp2:Value) (Q:Int→Bool→K):K :=
 yN (α:=Int×Int) (fun X x=>
  Ite (decide (x.1 < x.2))
   (Ar (IntKind.wrap .i64 (x.1 + x.2)) fun t20=>
   Ar (IntKind.wrap .u64 t20) fun t21=>
   Cd (0 ≤ (1:Int))<|
   Ar (zGK .u64 t21 1) fun t22=>
   Ar (IntKind.wrap .i64 t22) fun t23=>
   Idx x0 t23 esz fun t27=>
   LdN t27 esz fun t28=>
   vW P cmp2 [(.agg t28),tv] <| yH (fun (t30:Int)=>(Value.int .i64) t30) fun t30=>
   Ite (decide (t30 < 0))
    (Ar (IntKind.wrap .i64 (t23 + 1)) fun t33=>
    X (t33,x.2))
    (X (x.1,t23)))
   (Ite (decide (x.1 < (x0.n:Int)))
    (Idx x0 x.1 esz fun t43=>
    LdN t43 esz fun t44=>
    vW P cmp2 [(.agg t44),tv] <| yH (fun (t46:Int)=>(Value.int .i64) t46) fun t46=>
    Q x.1 (decide (t46 = 0)))
    (Q x.1 false))) (0,(x0.n:Int))
section
variable {P:Program} {B w:World} {Γ Δ:List zB}
theorem zDZ {α:Type} {f:α→List Value} {esz:Nat} (hf:∀ x,(f x).length = esz):∀ {L:List α} {i:Nat} {x:α},L[i]? = some x→((L.flatMap f).drop (i * esz)).take esz = f x
 | [],i,x,h=>by simp at h
 | a::L,0,x,h=>by
  simp only [List.getElem?_cons_zero,Option.some.injEq] at h
  subst h
  simp only [Nat.zero_mul,List.drop_zero,List.flatMap_cons]
  rw [← hf a,List.take_left]
 | a::L,i + 1,x,h=>by
  simp only [List.getElem?_cons_succ] at h
  rw [List.flatMap_cons,Nat.add_mul,Nat.one_mul,Nat.add_comm,← List.drop_drop,← hf a,List.drop_left]
  rw [hf a]
  exact zDZ hf h
theorem zJz {α:Type} {f:α→List Value} {esz:Nat} (hf:∀ x,(f x).length = esz) {L:List α} {i off:Nat} {x:α} (h:L[i]? = some x) (ho:off < esz):(L.flatMap f)[i * esz + off]? = (f x)[off]?:=by
 rw [← zDZ hf h,List.getElem?_take,if_pos ho,List.getElem?_drop]
theorem zAw {α:Type} (f:α→List Value) {esz:Nat} {L:List α} {s:Sl} {j:Nat} {jj:Int} {x:α} {k:Array Value→K} (hf:∀ x,(f x).length = esz) (hr:∀ w,Holds B Γ w→RdC w s esz (L.flatMap f)) (hx:L[j]? = some x) (h:HG B Γ (k (f x).toArray)) (hj:jj = (j:Int):=by first | rfl | omega) (he:0 < esz:=by omega) :
  HG B Γ (Idx s jj esz fun t=>LdN t esz k):=fun w hw=>by subst hj; exact zZI f hf he (hr w hw) hx rfl fun t=>h w hw
theorem zAA {α:Type} {c:α→Value} {L:List α} {s:Sl} {j:Nat} {jj:Int} {x:α} {k:α→K} (hr:∀ w,Holds B Γ w→RdC w s 1 (L.map c)) (hx:L[j]? = some x) (h:HG B Γ (k x)) (hj:jj = (j:Int):=by first | rfl | omega):HG B Γ (Idx s jj 1 fun t=>Ld t c k):=fun w hw=>by
 subst hj; exact zVM (hr w hw) hx (h w hw)
theorem zAa {L:List (List UInt8)} {s:Sl} {j:Nat} {jj:Int} {x:List UInt8} {k:ByteArray→K} (hr:∀ w,Holds B Γ w→RdC w s 1 (L.map xU)) (hx:L[j]? = some x) (h:HG B Γ (k (bs x))) (hj:jj = (j:Int):=by first | rfl | omega):HG B Γ (Idx s jj 1 fun t=>Ld t Value.string k) :=
 zAA (L:=L.map bs) (fun w hw=>by have:=hr w hw; simpa [Function.comp_def] using this) (by rw [List.getElem?_map,hx]; rfl) h hj
theorem zAb {α:Type} {f:α→List Value} {esz:Nat} {L:List α} {s:Sl} (hf:∀ x,(f x).length = esz) (he:0 < esz) (hr:RdC w s esz (L.flatMap f)):s.n = L.length:=by
 have:=hr.len
 rw [zn f esz hf] at this
 exact (Nat.eq_of_mul_eq_mul_right he this).symm
theorem zbM {α:Type} {f:α→List Value} {esz E:Nat} {s:Sl} {L:List α} {c:α→Int} {tv cv:Value} {Q:Int→Bool→K} {p:Nat} (hf:∀ x,(f x).length = esz) (hL:L.length < 1000000000)
  (hlo:∀ i x,L[i]? = some x→i < p→c x < 0) (hhi:∀ i x,L[i]? = some x→p ≤ i→0 ≤ c x) (hp:p ≤ L.length)
  (hc:∀ x ∈ L,∀ q:Int→K,HG B Γ (q (c x))→HG B Γ (vW P cv [(.agg (f x).toArray),tv] (yH (fun (t:Int)=>(Value.int .i64) t) q)))
  (h:HG B Γ (Q p (decide (∃ x,L[p]? = some x∧c x = 0)))) [o:zBg s Γ (SlC E esz s (L.flatMap f)) Δ] (he:0 < esz):HG B Γ (bsK P esz s tv cv Q):=by
 refine yS s fun h1 h2 h3 h4=>?_
 rw [zn f esz hf] at h1
 have hn:s.n = L.length:=(Nat.eq_of_mul_eq_mul_right he h1).symm
 have ldel:∀ (i:Nat) (x:α) (k:Array Value→K),L[i]? = some x→HG B Γ (k (f x).toArray)→HG B Γ (LdN (elA s i esz) esz k):=fun i x k hx hk=>by
  rw [← add0 (elA s i esz)]
  exact zEq (s:=s) (by simpa using zDZ hf hx) (hf x) hk
 unfold bsK
 refine j4 (fun x:Int×Int=>∃ a b:Nat,x = ((a:Int),(b:Int))∧a ≤ p∧p ≤ b∧b ≤ L.length) (fun x=>(x.2 - x.1).toNat) ⟨0,L.length,by rw [hn]; rfl,by omega,hp,Nat.le_refl _⟩ fun k' x hx hk=>?_
 obtain ⟨a,b,rfl,ha,hb,hbl⟩:=hx
 dsimp only
 refine zH (fun hlt=>?_) fun hlt=>?_
 ·have hab:a < b:=by simp only [decide_eq_true_eq] at hlt; omega
  refine qU ?_
  rw [show IntKind.wrap .u64 ((a:Int) + b) = ((a + b:Nat):Int) by rw [zDg (by omega) (by omega)]; omega]
  refine zBK rfl ?_
  refine zTv (by omega) ?_
  refine zBK (e':=(((a + b) / 2:Nat):Int)) ?_ ?_
  ·show ((a + b:Nat):Int).fdiv 2 = _
   rw [Int.fdiv_eq_ediv_of_nonneg _ (by omega)]; omega
  refine qU ?_
  refine vZ (s:=s) (i:=(a + b) / 2) ?_ rfl (by omega)
  obtain ⟨x,hx⟩:∃ x,L[(a + b) / 2]? = some x:=⟨_,List.getElem?_eq_getElem (by omega)⟩
  refine ldel _ x _ hx (hc x (List.mem_of_getElem? hx) _ ?_)
  refine zH (fun h5=>?_) fun h5=>?_
  ·have h6:c x < 0:=by simpa using h5
   refine qU ?_
   refine hk _ ⟨(a + b) / 2 + 1,b,by simp,?_,hb,hbl⟩ (by simp only; omega)
   ·refine Nat.lt_of_not_le fun h7=>?_
    have:=hhi _ x hx h7; omega
  ·have h6:0 ≤ c x:=by simpa using h5
   refine hk _ ⟨a,(a + b) / 2,by simp,ha,?_,by omega⟩ (by simp only; omega)
   ·refine Nat.le_of_not_lt fun h7=>?_
    have:=hlo _ x hx h7; omega
 ·have hab:a = p∧b = p:=by simp only [decide_eq_false_iff_not] at hlt; omega
  obtain ⟨rfl,rfl⟩:=hab
  refine zH (fun h5=>?_) fun h5=>?_
  ·have h6:b < L.length:=by simp only [decide_eq_true_eq] at h5; omega
   refine vZ (s:=s) (i:=b) ?_ rfl (by omega)
   obtain ⟨x,hx⟩:∃ x,L[b]? = some x:=⟨_,List.getElem?_eq_getElem h6⟩
   refine ldel _ x _ hx (hc x (List.mem_of_getElem? hx) _ ?_)
   have e:decide (∃ x,L[b]? = some x∧c x = 0) = decide (c x = 0):=by simp [hx]
   rw [e] at h
   exact h
  ·have h6:¬ b < L.length:=by simp only [decide_eq_false_iff_not] at h5; omega
   have e:decide (∃ x,L[b]? = some x∧c x = 0) = false:=by
    simp only [decide_eq_false_iff_not]
    rintro ⟨x,hx,_⟩
    rw [List.getElem?_eq_none (by omega)] at hx; cases hx
   rw [e] at h
   exact h
end
end
section
open Go Go.RowKit
namespace Bt
structure BtT (κ:Type) where
 P:Program
 tI:Nat
 tSI:Nat
 tV:Nat
 tK:Nat
 tSK:Nat
 tN:Nat
 tT:Nat
 nv:Nat
 kz:Value
 vz:List Value
 kV:κ→Value
 cv:Value
 bsC:Sl→κ→Value→(Int→Bool→K)→K
 nsearchC:Option Addr→κ→(Int→Bool→K)→K
 nputC:Option Addr→Array Value→(Array Value→Bool→Option Addr→Option Addr→K)→K
 insIC:Sl→Int→Sl→(Sl→K)→K
 insKC:Sl→Int→Sl→(Sl→K)→K
 cloneIC:Sl→(Sl→K)→K
 cloneKC:Sl→(Sl→K)→K
section
variable {κ:Type}
def zZN (G:BtT κ)  (Q:(Option Addr)→K):K :=
 New G.tN #[(Sl.val ⟨none,0,0⟩),(Sl.val ⟨none,0,0⟩)] fun t2=>
 New G.tT #[(.pointer (some t2)),(.int .i64 0)] fun t4=>
 Q (some t4)
def zSy (G:BtT κ) (n0:(Option Addr)) (key1:κ) (Q:Int→Bool→K):K :=
 Nn n0 fun t7=>
 Ld t7 Sl.val fun t9=>
 G.bsC t9 key1 G.cv fun t11x0 t11x1=>
 Q t11x0 t11x1
def zSz (G:BtT κ) (Q:(Array Value)→Bool→K)  (X1:(Option Addr)→K) (key1_1:κ) (value4_1:Addr) (n6_1:(Option Addr)):K :=
 G.nsearchC n6_1 key1_1 fun t16x0 t16x1=>
 Ite t16x1
  (Nn n6_1 fun t21=>
  Ld t21 Sl.val fun t23=>
  Idx t23 t16x0 (G.nv + 1) fun t25=>
  LdN (t25.add 1) G.nv fun t27=>
  StN value4_1 G.nv t27<|
  LdN value4_1 G.nv fun r0=>
  Q r0 true)
  (Nn n6_1 fun t29=>
  Ld (t29.add 1) Sl.val fun t31=>
  Ite (decide ((t31.n:Int) = 0))
   (LdN value4_1 G.nv fun t34=>
   StN value4_1 G.nv t34<|
   LdN value4_1 G.nv fun r0=>
   Q r0 false)
   (Ld (t29.add 1) Sl.val fun t38=>
   Idx t38 t16x0 1 fun t40=>
   Ld t40 Value.pointer fun t41=>
   X1 t41))
def zZO (G:BtT κ) (t0:(Option Addr)) (key1:κ) (Q:(Array Value)→Bool→K):K :=
 New G.tV G.vz.toArray fun value4=>
 Nn t0 fun t10=>
 Ld t10 Value.pointer fun t12=>
 yN (α:=(Option Addr)) (fun X x=>zSz G Q X key1 value4 x) t12
def zKp (G:BtT κ) (Q:(Array Value)→Bool→(Option Addr)→(Option Addr)→K)  (old4_2:Addr) (had5_2:Bool) (right7_2:Addr) (m12_2:Addr):K :=
 LdN old4_2 G.nv fun t153=>
 StN old4_2 G.nv t153<|
 LdN old4_2 G.nv fun r0=>
 Q r0 had5_2 (some m12_2) (some right7_2)
def zIm (G:BtT κ) (Q:(Array Value)→Bool→(Option Addr)→(Option Addr)→K)  (n0_1:(Option Addr)) (old4_1:Addr) (had5_1:Bool):K :=
 Nn n0_1 fun t101=>
 Ld t101 Sl.val fun t103=>
 Ite (decide ((t103.n:Int) ≤ 5))
  (LdN old4_1 G.nv fun t106=>
  StN old4_1 G.nv t106<|
  LdN old4_1 G.nv fun r0=>
  Q r0 had5_1 none none)
  (Ld t101 Sl.val fun t111=>
  Idx t111 2 (G.nv + 1) fun t112=>
  LdN t112 (G.nv + 1) fun t113=>
  New G.tI (G.kz::G.vz).toArray fun m12=>
  StN m12 (G.nv + 1) t113<|
  Ld t101 Sl.val fun t117=>
  Slc t117 3 (t117.n:Int) (t117.c:Int) (G.nv + 1) fun t118=>
  G.cloneIC t118 fun t119=>
  New G.tN #[(Sl.val t119),(Sl.val ⟨none,0,0⟩)] fun t121=>
  Ld t101 Sl.val fun t126=>
  Slc t126 0 2 2 (G.nv + 1) fun t127=>
  St t101 (Sl.val t127)<|
  Ld (t101.add 1) Sl.val fun t133=>
  Ite (decide ((0:Int) < (t133.n:Int)))
   (Ld (t101.add 1) Sl.val fun t140=>
   Slc t140 3 (t140.n:Int) (t140.c:Int) 1 fun t141=>
   G.cloneKC t141 fun t142=>
   St (t121.add 1) (Sl.val t142)<|
   Ld (t101.add 1) Sl.val fun t149=>
   Slc t149 0 3 3 1 fun t150=>
   St (t101.add 1) (Sl.val t150)<|
   zKp G Q old4_1 had5_1 t121 m12)
   (zKp G Q old4_1 had5_1 t121 m12))
def zZP (G:BtT κ) (n0:(Option Addr)) (x1:(Array Value)) (Q:(Array Value)→Bool→(Option Addr)→(Option Addr)→K):K :=
 New G.tI x1 fun x3=>
 New G.tV G.vz.toArray fun old4=>
 Ld x3 G.kV fun t16=>
 G.nsearchC n0 t16 fun t17x0 t17x1=>
 Ite t17x1
  (Nn n0 fun t64=>
  Ld t64 Sl.val fun t66=>
  Idx t66 t17x0 (G.nv + 1) fun t68=>
  LdN (t68.add 1) G.nv fun t70=>
  StN old4 G.nv t70<|
  Dr<|
  Ld t64 Sl.val fun t74=>
  LdN (x3.add 1) G.nv fun t77=>
  Idx t74 t17x0 (G.nv + 1) fun t78=>
  StN (t78.add 1) G.nv t77<|
  LdN old4 G.nv fun t80=>
  StN old4 G.nv t80<|
  LdN old4 G.nv fun r0=>
  Q r0 true none none)
  (Nn n0 fun t84=>
  Ld (t84.add 1) Sl.val fun t86=>
  Ite (decide ((t86.n:Int) = 0))
   (Dr <| yZ fun S=>
   LdS S t84 Sl.val fun t93=>
   vG S x3 (G.nv + 1) fun t95=>
   Bld (G.kz::G.vz).toArray (fun i=>some (i * (G.nv + 1),(G.nv + 1))) [(0,(.agg t95))] fun ct96=>
   New G.tI ct96 fun t96=>
   Sv S<|
   G.insIC t93 t17x0 (Sl.mk (some t96) 1 1) fun t97=>
   St t84 (Sl.val t97)<|
   zIm G Q (some t84) old4 false)
   (Dr<|
   Ld (t84.add 1) Sl.val fun t24=>
   Idx t24 t17x0 1 fun t26=>
   Ld t26 Value.pointer fun t27=>
   LdN x3 (G.nv + 1) fun t28=>
   G.nputC t27 t28 fun t29x0 t29x1 t29x2 t29x3=>
   StN old4 G.nv t29x0<|
   Ite (!(t29x2).isNone)
    (Dr <| yZ fun S=>
    Nn t29x2 fun t43=>
    LdS S t84 Sl.val fun t40=>
    vG S t43 (G.nv + 1) fun t44=>
    Bld (G.kz::G.vz).toArray (fun i=>some (i * (G.nv + 1),(G.nv + 1))) [(0,(.agg t44))] fun ct45=>
    New G.tI ct45 fun t45=>
    Sv S<|
    G.insIC t40 t17x0 (Sl.mk (some t45) 1 1) fun t46=>
    St t84 (Sl.val t46)<|
    Ld (t84.add 1) Sl.val fun t53=>
    Ar (IntKind.wrap .i64 (t17x0 + 1)) fun t55=>
    New G.tK #[(.pointer t29x3)] fun t57=>
    G.insKC t53 t55 (Sl.mk (some t57) 1 1) fun t58=>
    St (t84.add 1) (Sl.val t58)<|
    zIm G Q (some t84) old4 t29x1)
    (zIm G Q (some t84) old4 t29x1)))
def zKq (G:BtT κ) (Q:(Array Value)→Bool→K)  (t6_3:Addr) (old8_3:Addr) (had9_3:Bool):K :=
 LdN old8_3 G.nv fun t51=>
 StN t6_3 G.nv t51<|
 LdN t6_3 G.nv fun r0=>
 Q r0 had9_3
def zIn (G:BtT κ) (Q:(Array Value)→Bool→K)  (t0_2:(Option Addr)) (t6_2:Addr) (old8_2:Addr) (had9_2:Bool):K :=
 Ite (!had9_2)
  (Nn t0_2 fun t45=>
  Ld (t45.add 1) (Value.int .i64) fun t47=>
  Ar (IntKind.wrap .i64 (t47 + 1)) fun t48=>
  St (t45.add 1) (.int .i64 t48)<|
  zKq G Q t6_2 old8_2 had9_2)
  (zKq G Q t6_2 old8_2 had9_2)
def zHA (G:BtT κ) (Q:(Array Value)→Bool→K)  (t0_1:(Option Addr)) (t6_1:Addr) (old8_1:Addr) (had9_1:Bool) (mid10_1:(Option Addr)) (right11_1:(Option Addr)):K :=
 Ite (!(mid10_1).isNone)
  (Dr <| yZ fun S=>
  Nn mid10_1 fun t29=>
  Nn t0_1 fun t33=>
  vG S t29 (G.nv + 1) fun t30=>
  LdS S t33 Value.pointer fun t35=>
  All [
   (Bld (G.kz::G.vz).toArray (fun i=>some (i * (G.nv + 1),(G.nv + 1))) [(0,(.agg t30))] fun ct31=>
   New G.tI ct31 fun t31=>
   Sv S<|
   New G.tK #[(.pointer t35),(.pointer right11_1)] fun t37=>
   Sv S<|
   New G.tN #[(Sl.val (Sl.mk (some t31) 1 1)),(Sl.val (Sl.mk (some t37) 2 2))] fun t39=>
   St t33 (.pointer (some t39))<|
   zIn G Q (some t33) t6_1 old8_1 had9_1),
   (New G.tK #[(.pointer t35),(.pointer right11_1)] fun t37=>
   Sv S<|
   Bld (G.kz::G.vz).toArray (fun i=>some (i * (G.nv + 1),(G.nv + 1))) [(0,(.agg t30))] fun ct31=>
   New G.tI ct31 fun t31=>
   Sv S<|
   New G.tN #[(Sl.val (Sl.mk (some t31) 1 1)),(Sl.val (Sl.mk (some t37) 2 2))] fun t39=>
   St t33 (.pointer (some t39))<|
   zIn G Q (some t33) t6_1 old8_1 had9_1)
   ])
  (zIn G Q t0_1 t6_1 old8_1 had9_1)
def zZQ (G:BtT κ) (t0:(Option Addr)) (key1:κ) (value2:(Array Value)) (Q:(Array Value)→Bool→K):K :=
 New G.tV value2 fun value5=>
 New G.tV G.vz.toArray fun t6=>
 Dr <| yZ fun S=>
 Nn t0 fun t14=>
 LdS S t14 Value.pointer fun t16=>
 vG S value5 G.nv fun t18=>
 Bld (G.kz::G.vz).toArray ([(0,1),(1,G.nv)][·]?) [(0,(G.kV key1)),(1,(.agg t18))] fun t19=>
 All [
  (G.nputC t16 t19 fun t20x0 t20x1 t20x2 t20x3=>
  New G.tV G.vz.toArray fun old8=>
  StN old8 G.nv t20x0<|
  zHA G Q (some t14) t6 old8 t20x1 t20x2 t20x3),
  (New G.tV G.vz.toArray fun old8=>
  Sv S<|
  G.nputC t16 t19 fun t20x0 t20x1 t20x2 t20x3=>
  StN old8 G.nv t20x0<|
  zHA G Q (some t14) t6 old8 t20x1 t20x2 t20x3)
  ]
end
abbrev Cel (n:Nat):={l:List Value // l.length = n∧l.all yX = true}
section
variable {κ:Type} (G:BtT κ)
abbrev BtT.It:=κ×Cel G.nv
def BtT.f (x:G.It):List Value:=G.kV x.1::x.2.1
abbrev BtT.z0 (h:G.vz.length = G.nv∧G.vz.all yX = true):Cel G.nv:=⟨G.vz,h⟩
theorem BtT.qd (x:G.It):(G.f x).length = G.nv + 1:=by simp [BtT.f,x.2.2.1]
structure BtOk (c:κ→κ→Int):Prop where
 kf:∀ k,yX (G.kV k) = true
 kzf:yX G.kz = true
 vz:G.vz.length = G.nv∧G.vz.all yX = true
 TI:zF2 G.P G.tSI G.tSI G.tI (G.nv + 1) = true
 ZI:zVS G.P G.tSI 3 G.tI (G.nv + 1) = true
 TK:zF2 G.P G.tSK G.tSK G.tK 1 = true
 ZK:zVS G.P G.tSK 3 G.tK 1 = true
 tr:∀ {a b d},c a b < 0→c b d < 0→c a d < 0
 eq:∀ {a b},c a b = 0 ↔ a = b
 sw:∀ {a b},c a b < 0 ↔ 0 < c b a
 cmp:∀ {B:World} {Γ:List zB} (a b:κ) (vs:List Value) (q:Int→K),vs.length = G.nv→HG B Γ (q (c a b))→HG B Γ (vW G.P G.cv [(.agg (G.kV a::vs).toArray),G.kV b] (yH (fun (t:Int)=>(Value.int .i64) t) q))
 bs:∀ s k Q w,bsK G.P (G.nv + 1) s (G.kV k) G.cv Q w→G.bsC s k G.cv Q w
 search:∀ n k Q w,zSy G n k Q w→G.nsearchC n k Q w
 put:∀ n x Q w,zZP G n x Q w→G.nputC n x Q w
 insI:∃ R rot,∀ s i v Q w,zPy G.P G.tSI 3 R (G.nv + 1) rot s i v Q w→G.insIC s i v Q w
 zPy:∃ R rot,∀ s i v Q w,zPy G.P G.tSK 3 R 1 rot s i v Q w→G.insKC s i v Q w
 cloneI:∀ s Q w,zH5 G.P G.tI G.tSI s Q w→G.cloneIC s Q w
 zH5:∀ s Q w,zH5 G.P G.tK G.tSK s Q w→G.cloneKC s Q w
end
section
variable {κ:Type} {G:BtT κ} {c:κ→κ→Int} {B:World} {Γ Δ:List zB}
def Srt (c:κ→κ→Int) {ν:Type} (L:List (κ×ν)):Prop:=L.Pairwise fun x y=>c x.1 y.1 < 0
theorem zGW (ok:BtOk G c) (x:G.It):∀ v ∈ G.f x,yX v = true:=fun v hv=>by
 rcases List.mem_cons.1 hv with rfl | hv
 ·exact ok.kf _
 ·exact List.all_eq_true.1 x.2.2.2 v hv
theorem zEJ (ok:BtOk G c) (L:List G.It):∀ v ∈ L.flatMap G.f,yX v = true:=fun v hv=>by
 obtain ⟨x,_,hx⟩:=List.mem_flatMap.1 hv
 exact zGW ok x v hx
theorem zE2 (ok:BtOk G c) {b:Nat} {s kd:Sl} {its:List G.It} {k:κ} {Q:Int→Bool→K} [p:Own b Γ (blk b (.cells [s.val,kd.val].toArray G.tN (0,0))) Δ] {Δ2:List zB} [q:zBg s Γ (SlC G.tI (G.nv + 1) s (its.flatMap G.f)) Δ2]
  (hs:Srt c its) (hl:its.length ≤ 1000) (hfound:∀ A v C,its = A++(k,v)::C→HG B Γ (Q A.length true)) (hnot:∀ A C,its = A++C→(∀ x ∈ A,c x.1 k < 0)→(∀ x ∈ C,c k x.1 < 0)→HG B Γ (Q A.length false)) :
  HG B Γ (G.nsearchC (some ⟨b,0,none⟩) k Q):=by
 refine fun w hw=>ok.search _ _ _ _ ?_
 refine hg hw ?_
 clear hw w
 unfold zSy
 refine vg ?_
 refine yD (b:=b) (x:=s) ?_
 refine fun w hw=>ok.bs _ _ _ _ ?_
 refine hg hw ?_
 clear hw w
 obtain ⟨A,C,hAC,hA,hC⟩:∃ A C,its = A++C∧(∀ x ∈ A,c x.1 k < 0)∧∀ x ∈ C,0 ≤ c x.1 k:=by
  clear hfound hnot q hl
  induction its with
  | nil=>exact ⟨[],[],rfl,by simp,by simp⟩
  | cons x L ih=>
   have hs':=List.pairwise_cons.1 hs
   by_cases h:c x.1 k < 0
   ·obtain ⟨A,C,h1,h2,h3⟩:=ih hs'.2
    exact ⟨x::A,C,by rw [h1]; rfl,List.forall_mem_cons.2 ⟨h,h2⟩,h3⟩
   ·refine ⟨[],x::L,rfl,by simp,fun y hy=>?_⟩
    rcases List.mem_cons.1 hy with rfl | hy
    ·omega
    ·have h1:=hs'.1 y hy
     refine Int.not_lt.1 fun h2=>h (ok.tr h1 h2)
 subst hAC
 have hlen:(A++C).length = A.length + C.length:=List.length_append
 refine zbM (s:=s) (L:=A++C) (f:=G.f) (c:=fun x=>c x.1 k) (p:=A.length) G.qd (by omega) (fun i x hx hi=>?_) (fun i x hx hi=>?_) (by omega) (fun x hx q hq=>ok.cmp _ _ _ _ x.2.2.1 hq) ?_ (by omega)
 ·rw [List.getElem?_append_left hi] at hx
  exact hA x (List.mem_of_getElem? hx)
 ·rw [List.getElem?_append_right hi] at hx
  exact hC x (List.mem_of_getElem? hx)
 ·have e:(A++C)[A.length]? = C.head?:=by rw [List.getElem?_append_right (Nat.le_refl _),Nat.sub_self,List.head?_eq_getElem?]
  rw [e]
  cases C with
  | nil=>simpa using hnot A [] rfl hA (by simp)
  | cons x C=>
   have hs2:=(List.pairwise_append.1 hs).2.1
   by_cases h0:c x.1 k = 0
   ·have:=ok.eq.1 h0
    obtain ⟨xk,v⟩:=x
    simp only at this; subst this
    simpa [h0] using hfound A v C rfl
   ·have h1:0 < c x.1 k:=by have:=hC x List.mem_cons_self; omega
    have:=hnot A (x::C) rfl hA (fun y hy=>by
     rcases List.mem_cons.1 hy with rfl | hy
     ·exact ok.sw.2 h1
     ·exact ok.tr (ok.sw.2 h1) ((List.pairwise_cons.1 hs2).1 y hy))
    simpa [h0] using this
end
end Bt
end
section
open Go Go.RowKit
namespace Bt
section
variable {κ:Type} {G:BtT κ} {c:κ→κ→Int} {B:World} {Γ Δ:List zB}
theorem zC4 {α:Type} {f:α→List Value} {esz:Nat} (hf:∀ x,(f x).length = esz):∀ (L:List α) (i:Nat),(L.flatMap f).drop (i * esz) = (L.drop i).flatMap f
 | L,0=>by simp
 | [],i + 1=>by simp
 | x::L,i + 1=>by
  rw [List.flatMap_cons,List.drop_succ_cons,← zC4 hf L i,Nat.add_mul,Nat.one_mul,Nat.add_comm,← List.drop_drop,← hf x,List.drop_left]
theorem zC5 {α:Type} {f:α→List Value} {esz:Nat} (hf:∀ x,(f x).length = esz):∀ (L:List α) (i:Nat),(L.flatMap f).take (i * esz) = (L.take i).flatMap f
 | L,0=>by simp
 | [],i + 1=>by simp
 | x::L,i + 1=>by
  rw [List.flatMap_cons,List.take_succ_cons,List.flatMap_cons,← zC5 hf L i,Nat.add_mul,Nat.one_mul,Nat.add_comm,← hf x,List.take_length_add_append]
theorem zOf {α:Type} {f:α→List Value} {esz E:Nat} {s:Sl} {L:List α} {i:Nat} {x:α} {k:Array Value→K} (hf:∀ x,(f x).length = esz) (hx:L[i]? = some x) (h:HG B Γ (k (f x).toArray)) [o:zBg s Γ (SlC E esz s (L.flatMap f)) Δ]:HG B Γ (LdN (elA s i esz) esz k):=by
 rw [← add0 (elA s i esz)]
 exact zEq (s:=s) (by simpa using zDZ hf hx) (hf x) h
abbrev y7 (G:BtT κ) (b:Nat) (s kd:Sl):zB:=blk b (.cells [s.val,kd.val].toArray G.tN (0,0))
abbrev vC (G:BtT κ) (s:Sl) (its:List G.It):zB:=SlC G.tI (G.nv + 1) s (its.flatMap G.f)
abbrev vD (G:BtT κ) (s:Sl) (kp:List (Option Addr)):zB:=SlC G.tK 1 s (kp.map Value.pointer)
abbrev zAl (G:BtT κ) (b:Nat) (v:Cel G.nv):zB:=blk b (.cells v.1.toArray G.tV (0,0))
theorem zD5 {o:Nat} {v:Cel G.nv} {k:Array Value→K} (h:HG B Γ (k v.1.toArray)) [p:Own o Γ (zAl G o v) Δ]:HG B Γ (LdN ⟨o,0,none⟩ G.nv fun t=>StN ⟨o,0,none⟩ G.nv t <| LdN ⟨o,0,none⟩ G.nv k):=by
 have e:(v.1.drop 0).take G.nv = v.1:=by rw [List.drop_zero,List.take_of_length_le (Nat.le_of_eq v.2.1)]
 refine fun w hw=>?_
 refine hg (hw.perm p.perm) ?_
 refine qW (b:=o) ?_ e v.2.1
 refine qX (b:=o) ?_ v.2.1 v.2.1 v.2.2
 refine qW (b:=o) ?_ e v.2.1
 exact fun w hw=>h w (hw.perm p.perm.symm)
theorem zHB (kp:List (Option Addr)):∀ v ∈ kp.map Value.pointer,yX v = true:=fun v hv=>by obtain ⟨a,_,rfl⟩:=List.mem_map.1 hv; rfl
theorem zOg (kp:List (Option Addr)):(kp.map Value.pointer).length = kp.length * 1:=by simp
theorem zZR (ok:BtOk G c) {o b:Nat} {old:Cel G.nv} {had:Bool} {s kd:Sl} {its:List G.It} {kp:List (Option Addr)} {Q:Array Value→Bool→Option Addr→Option Addr→K} (hs:its.length ≤ 6) (hk:kp = []∨kp.length = its.length + 1)
  (h1:its.length ≤ 5→HG B (y7 G b s kd::vC G s its::vD G kd kp::Γ) (Q old.1.toArray had none none))
  (h2:∀ x,its.length = 6→its = its.take 2++x::its.drop 3→∀ s1 c1 r s2 c2 mb,HG B (blk mb (.cells (G.f x).toArray G.tI (0,0))::y7 G b s1 c1::vC G s1 (its.take 2)::vD G c1 (kp.take 3)::y7 G r s2 c2::vC G s2 (its.drop 3)::vD G c2 (kp.drop 3)::Γ) (Q old.1.toArray had (some ⟨mb,0,none⟩) (some ⟨r,0,none⟩))) :
  HG B (zAl G o old::y7 G b s kd::vC G s its::vD G kd kp::Γ) (zIm G Q (some ⟨b,0,none⟩) ⟨o,0,none⟩ had):=by
 refine yS s fun l1 l2 l3 l4=>?_
 refine yS kd fun m1 m2 m3 m4=>?_
 rw [zn G.f _ G.qd] at l1
 have hn:s.n = its.length:=(Nat.eq_of_mul_eq_mul_right (by omega) l1).symm
 have hkn:kd.n = kp.length:=by rw [zOg] at m1; omega
 unfold zIm
 refine vg ?_
 refine yD (b:=b) (x:=s) ?_
 refine zH (fun hb=>?_) fun hb=>?_
 ·refine zD5 ?_
  exact zC (h1 (by simp only [decide_eq_true_eq] at hb; omega))
 have h6:its.length = 6:=by simp only [decide_eq_false_iff_not] at hb; omega
 obtain ⟨x,hx⟩:∃ x,its[2]? = some x:=⟨_,List.getElem?_eq_getElem (by omega)⟩
 have hsplit:its = its.take 2++x::its.drop 3:=by
  have:=List.drop_eq_getElem_cons (l:=its) (i:=2) (by omega)
  rw [List.getElem?_eq_getElem (by omega),Option.some.injEq] at hx
  rw [hx] at this
  rw [← this,List.take_append_drop]
 refine yD (b:=b) (x:=s) ?_
 refine vZ (s:=s) (i:=2) ?_
 refine zOf (s:=s) G.qd hx ?_
 refine zR fun mb=>?_
 refine qX (b:=mb) ?_ (by simp [ok.vz.1]) (G.qd x) (List.all_eq_true.2 (zGW ok x))
 refine yD (b:=b) (x:=s) ?_
 refine zAC (lo:=3) (hi:=s.n) (mx:=s.c) ?_
 refine fun w hw=>ok.cloneI _ _ _ ?_
 refine hg hw ?_
 clear hw w
 have hfl:=zEJ ok its
 refine zP0 (s:=⟨zBj s.a 3 s.c (G.nv + 1),s.n - 3,s.c - 3⟩) (us:=(its.drop 3).flatMap G.f) (esz:=G.nv + 1) (fun w hw=>?_) (zEJ ok _) (by simp only; omega) (fun s2 hs2=>?_) ok.TI
 ·rw [← zC4 G.qd]
  exact (yh (s:=s) hw).1.drop (by omega) l2 l3
 refine zR fun r=>?_
 refine yD (b:=b) (x:=s) ?_
 refine zAC (lo:=0) (hi:=2) (mx:=2) ?_
 rw [zJJ l3]
 refine zBY (b:=b) ?_
 refine zCL (s:=s) (m:=2) (c':=2) (by omega) (by omega) (by omega) ?_
 rw [zC5 G.qd]
 refine yD (b:=b) (x:=kd) ?_
 refine zH (fun hb2=>?_) fun hb2=>?_
 ·have hk7:kp.length = 7:=by
   simp only [decide_eq_true_eq] at hb2
   rcases hk with rfl | hk
   ·simp only [List.length_nil] at hkn; omega
   ·omega
  refine yD (b:=b) (x:=kd) ?_
  refine zAC (lo:=3) (hi:=kd.n) (mx:=kd.c) ?_
  refine fun w hw=>ok.zH5 _ _ _ ?_
  refine hg hw ?_
  clear hw w
  refine zP0 (s:=⟨zBj kd.a 3 kd.c 1,kd.n - 3,kd.c - 3⟩) (us:=(kp.drop 3).map Value.pointer) (esz:=1) (fun w hw=>?_) (zHB _) (by simp only; omega) (fun c2 hc2=>?_) ok.TK
  ·have:=(yh (s:=kd) hw).1.drop (l:=3) (c:=kd.c) (by omega) m2 m3
   simpa using this
  refine zBY (b:=r) ?_
  refine yD (b:=b) (x:=kd) ?_
  refine zAC (lo:=0) (hi:=3) (mx:=3) ?_
  rw [zJJ m3]
  refine zBY (b:=b) ?_
  refine zCL (s:=kd) (m:=3) (c':=3) (by omega) (by omega) (by omega) ?_
  rw [show (kp.map Value.pointer).take (3 * 1) = (kp.take 3).map Value.pointer by simp]
  unfold zKp
  refine zD5 ?_
  exact zC (h2 x h6 hsplit ⟨s.a,2,2⟩ ⟨kd.a,3,3⟩ r s2 c2 mb)
 ·have hk0:kp = []:=by
   simp only [decide_eq_false_iff_not] at hb2
   rcases hk with rfl | hk
   ·rfl
   ·omega
  have e1:kp.take 3 = kp:=by rw [hk0]; rfl
  have e2:kp.drop 3 = []:=by rw [hk0]; rfl
  simp only [e1,e2] at h2
  unfold zKp
  refine zD5 ?_
  refine fun w hw=>?_
  refine hg (show Holds B (vD G ⟨none,0,0⟩ []::_) w from hw.zAk G.tK 1) ?_
  exact zC (h2 x h6 hsplit ⟨s.a,2,2⟩ kd r s2 ⟨none,0,0⟩ mb)
end
end Bt
end
section
open Go Go.RowKit
namespace Bt
section
variable {κ:Type} {G:BtT κ} {c:κ→κ→Int} {B:World} {Γ Δ:List zB}
abbrev Kid (G:BtT κ):=Nat×List G.It
def ptr (q:Kid G):Option Addr:=some ⟨q.1,0,none⟩
def psL (q0:Kid G) (ps:List (G.It×Kid G)):List G.It:=q0.2++ps.flatMap fun p=>p.1::p.2.2
def zCN (l:List (Kid G×G.It)):List G.It:=l.flatMap fun p=>p.1.2++[p.2]
def zBD (r:List (G.It×Kid G)):List G.It:=r.flatMap fun p=>p.1::p.2.2
theorem zaS:∀ (i:Nat) (q0:Kid G) (ps:List (G.It×Kid G)),i ≤ ps.length→∃ l q r,l.length = i∧ps.map Prod.fst = l.map Prod.snd++r.map Prod.fst∧q0::ps.map Prod.snd = l.map Prod.fst++q::r.map Prod.snd∧psL q0 ps = zCN l++q.2++zBD r
 | 0,q0,ps,_=>⟨[],q0,ps,rfl,rfl,rfl,by simp [psL,zCN,zBD]⟩
 | i + 1,q0,[],h=>by simp at h
 | i + 1,q0,(x,q1)::ps,h=>by
  obtain ⟨l,q,r,h1,h2,h3,h4⟩:=zaS i q1 ps (by simpa using h)
  refine ⟨(q0,x)::l,q,r,by simp [h1],by simp [h2],by simp only [List.map_cons,List.cons_append,← h3],?_⟩
  have:psL q0 ((x,q1)::ps) = q0.2++x::psL q1 ps:=by simp [psL]
  rw [this,h4]
  simp [zCN]
theorem zM5:∀ (l:List (Kid G×G.It)) (q:Kid G) (r:List (G.It×Kid G)),∃ q0 ps,ps.length = l.length + r.length∧ps.map Prod.fst = l.map Prod.snd++r.map Prod.fst∧q0::ps.map Prod.snd = l.map Prod.fst++q::r.map Prod.snd∧psL q0 ps = zCN l++q.2++zBD r
 | [],q,r=>⟨q,r,by simp,rfl,rfl,by simp [psL,zCN,zBD]⟩
 | (p,x)::l,q,r=>by
  obtain ⟨q0,ps,h1,h2,h3,h4⟩:=zM5 l q r
  refine ⟨p,(x,q0)::ps,by simp [h1]; omega,by simp [h2],by simp only [List.map_cons,List.cons_append,← h3],?_⟩
  have:psL p ((x,q0)::ps) = p.2++x::psL q0 ps:=by simp [psL]
  rw [this,h4]
  simp [zCN]
theorem Srt.sub {ν:Type} {L M:List (κ×ν)} (h:Srt c L) (hs:M.Sublist L):Srt c M:=List.Pairwise.sublist hs h
theorem zOh (ok:BtOk G c) {k:κ}:∀ (l:List (Kid G×G.It)),Srt c (zCN l)→(∀ x ∈ l.map Prod.snd,c x.1 k < 0)→∀ y ∈ zCN l,c y.1 k < 0
 | [],_,_,y,hy=>by simp [zCN] at hy
 | (p,x)::l,hs,h,y,hy=>by
  have e:zCN ((p,x)::l) = (p.2++[x])++zCN l:=rfl
  rw [e] at hs hy
  have hx:c x.1 k < 0:=h x (by simp)
  rcases List.mem_append.1 hy with hy | hy
  ·rcases List.mem_append.1 hy with hy | hy
   ·have h1:=(List.pairwise_append.1 (List.pairwise_append.1 hs).1).2.2 y hy x (by simp)
    exact ok.tr h1 hx
   ·rw [List.mem_singleton.1 hy]; exact hx
  ·exact zOh ok l (List.pairwise_append.1 hs).2.1 (fun z hz=>h z (by simp at hz ⊢; exact .inr hz)) y hy
theorem zKr (ok:BtOk G c) {k:κ}:∀ (r:List (G.It×Kid G)),Srt c (zBD r)→(∀ x ∈ r.map Prod.fst,c k x.1 < 0)→∀ y ∈ zBD r,c k y.1 < 0
 | [],_,_,y,hy=>by simp [zBD] at hy
 | (x,q)::r,hs,h,y,hy=>by
  have e:zBD ((x,q)::r) = (x::q.2)++zBD r:=rfl
  rw [e] at hs hy
  have hx:c k x.1 < 0:=h x (by simp)
  rcases List.mem_append.1 hy with hy | hy
  ·rcases List.mem_cons.1 hy with rfl | hy
   ·exact hx
   ·exact ok.tr hx ((List.pairwise_cons.1 (List.pairwise_append.1 hs).1).1 y hy)
  ·exact zKr ok r (List.pairwise_append.1 hs).2.1 (fun z hz=>h z (by simp at hz ⊢; exact .inr hz)) y hy
theorem zIo (q0:Kid G):∀ (ps:List (G.It×Kid G)),(ps.map Prod.fst).Sublist (psL q0 ps)
 | []=>by simp
 | (x,q)::ps=>by
  have:psL q0 ((x,q)::ps) = q0.2++x::psL q ps:=by simp [psL]
  rw [this,List.map_cons]
  exact ((zIo q ps).cons_cons x).trans (List.sublist_append_right _ _)
def zHV (c:κ→κ→Int) {ν:Type} (z:ν) (L:List (κ×ν)) (k:κ) (v:ν) (L':List (κ×ν)) (old:ν) (had:Bool):Prop :=
 (∃ A C,L = A++(k,old)::C∧L' = A++(k,v)::C∧had = true)∨(∃ A C,L = A++C∧(∀ x ∈ A,c x.1 k < 0)∧(∀ x ∈ C,c k x.1 < 0)∧L' = A++(k,v)::C∧old = z∧had = false)
theorem zHV.mid {ν:Type} {z v old:ν} {A C L L':List (κ×ν)} {k:κ} {had:Bool} (hA:∀ x ∈ A,c x.1 k < 0) (hC:∀ x ∈ C,c k x.1 < 0) (h:zHV c z L k v L' old had):zHV c z (A++L++C) k v (A++L'++C) old had:=by
 rcases h with ⟨A',C',rfl,rfl,rfl⟩ | ⟨A',C',rfl,h1,h2,rfl,rfl,rfl⟩
 ·exact .inl ⟨A++A',C'++C,by simp,by simp,rfl⟩
 ·refine .inr ⟨A++A',C'++C,by simp,fun x hx=>?_,fun x hx=>?_,by simp,rfl,rfl⟩
  ·rcases List.mem_append.1 hx with hx | hx
   ·exact hA x hx
   ·exact h1 x hx
  ·rcases List.mem_append.1 hx with hx | hx
   ·exact h2 x hx
   ·exact hC x hx
def yE (G:BtT κ):Nat→Nat→Nat→List G.It→zB
 | 0,m,b,L=>ex fun s=>ex fun kd=>Sep.stars [pur ((m = 2→L ≠ [])∧L.length ≤ 5),y7 G b s kd,vC G s L,vD G kd []]
 | d + 1,m,b,L=>ex fun s=>ex fun kd=>ex fun q0:Kid G=>ex fun ps:List (G.It×Kid G)=>Sep.stars [pur ((1 ≤ m→ps ≠ [])∧ps.length ≤ 5∧L = psL q0 ps),y7 G b s kd,vC G s (ps.map Prod.fst),vD G kd ((q0::ps.map Prod.snd).map ptr),
   Sep.stars ((q0::ps.map Prod.snd).map fun q=>yE G d 2 q.1 q.2)]
instance (priority:=high) zaT {d m b:Nat} {L:List G.It}:Own b (yE G d m b L::Γ) (yE G d m b L) Γ:=⟨.refl _⟩
theorem zHC {m b:Nat} {L:List G.It} {k:K} (h:∀ s kd,(m = 2→L ≠ [])→L.length ≤ 5→HG B (y7 G b s kd::vC G s L::vD G kd []::Γ) k):HG B (yE G 0 m b L::Γ) k :=
 zCh (A':=ex fun s=>ex fun kd=>Sep.stars [pur ((m = 2→L ≠ [])∧L.length ≤ 5),y7 G b s kd,vC G s L,vD G kd []]) (fun _ h=>h) <| zC1 fun s=>zC1 fun kd=>zBX <| zGU fun ⟨h1,h2⟩=>h s kd h1 h2
theorem zE3 {m b:Nat} {L:List G.It} {k:K} {s kd:Sl} (h1:m = 2→L ≠ []) (h2:L.length ≤ 5) (h:HG B (yE G 0 m b L::Γ) k):HG B (y7 G b s kd::vC G s L::vD G kd []::Γ) k :=
 zXV (p:=(m = 2→L ≠ [])∧L.length ≤ 5) ⟨h1,h2⟩ <| zDp (Δ:=[pur ((m = 2→L ≠ [])∧L.length ≤ 5),y7 G b s kd,vC G s L,vD G kd []]) <| zRC (F:=fun kd=>Sep.stars [pur ((m = 2→L ≠ [])∧L.length ≤ 5),y7 G b s kd,vC G s L,vD G kd []]) kd<|
  zRC (F:=fun s=>ex fun kd=>Sep.stars [pur ((m = 2→L ≠ [])∧L.length ≤ 5),y7 G b s kd,vC G s L,vD G kd []]) s <| zCh (fun _ h=>h) h
abbrev qN (G:BtT κ) (d:Nat) (ks:List (Kid G)):zB:=Sep.stars (ks.map fun q=>yE G d 2 q.1 q.2)
theorem zIp {d m b:Nat} {L:List G.It} {k:K} (h:∀ s kd q0 ps,(1 ≤ m→ps ≠ [])→ps.length ≤ 5→L = psL q0 ps→HG B (y7 G b s kd::vC G s (ps.map Prod.fst)::vD G kd ((q0::ps.map Prod.snd).map ptr)::qN G d (q0::ps.map Prod.snd)::Γ) k):HG B (yE G (d + 1) m b L::Γ) k :=
 zCh (A':=ex fun s=>ex fun kd=>ex fun q0:Kid G=>ex fun ps:List (G.It×Kid G)=>Sep.stars [pur ((1 ≤ m→ps ≠ [])∧ps.length ≤ 5∧L = psL q0 ps),y7 G b s kd,vC G s (ps.map Prod.fst),vD G kd ((q0::ps.map Prod.snd).map ptr),qN G d (q0::ps.map Prod.snd)]) (fun _ h=>h)<|
  zC1 fun s=>zC1 fun kd=>zC1 fun q0=>zC1 fun ps=>zBX <| zGU fun ⟨h1,h2,h3⟩=>h s kd q0 ps h1 h2 h3
theorem zGX {d m b:Nat} {q0:Kid G} {ps:List (G.It×Kid G)} {k:K} {s kd:Sl} (h1:1 ≤ m→ps ≠ []) (h2:ps.length ≤ 5) (h:HG B (yE G (d + 1) m b (psL q0 ps)::Γ) k) :
  HG B (y7 G b s kd::vC G s (ps.map Prod.fst)::vD G kd ((q0::ps.map Prod.snd).map ptr)::qN G d (q0::ps.map Prod.snd)::Γ) k:=fun w hw=>by
 refine h w ?_
 have h3:Holds B (Sep.stars [pur ((1 ≤ m→ps ≠ [])∧ps.length ≤ 5∧psL q0 ps = psL q0 ps),y7 G b s kd,vC G s (ps.map Prod.fst),vD G kd ((q0::ps.map Prod.snd).map ptr),qN G d (q0::ps.map Prod.snd)]::Γ) w:=Holds.flat.2 (Holds.pur.2 ⟨⟨h1,h2,rfl⟩,hw⟩)
 exact h3.imp fun g hg=>⟨s,kd,q0,ps,hg⟩
theorem zP1 {d:Nat} {A C:List (Kid G)} {q:Kid G}:(((A++q::C).map fun q=>yE G d 2 q.1 q.2)++Γ).Perm (((A++C).map fun q=>yE G d 2 q.1 q.2)++yE G d 2 q.1 q.2::Γ):=by
 have h2:((A++q::C).map fun q=>yE G d 2 q.1 q.2).Perm (yE G d 2 q.1 q.2::(A++C).map fun q=>yE G d 2 q.1 q.2):=(List.perm_middle (a:=q) (l₁:=A) (l₂:=C)).map _
 refine (h2.append_right Γ).trans ?_
 exact (List.perm_middle (a:=yE G d 2 q.1 q.2) (l₁:=(A++C).map fun q=>yE G d 2 q.1 q.2) (l₂:=Γ)).symm
theorem zHr {d:Nat} {A C:List (Kid G)} {q:Kid G} {k:K} (h:HG B (yE G d 2 q.1 q.2::qN G d (A++C)::Γ) k):HG B (qN G d (A++q::C)::Γ) k:=fun w hw=>
 h w (Holds.flat.2 ((Holds.flat.1 hw).perm zP1)).swap
theorem zC6 {d:Nat} {A C:List (Kid G)} {q:Kid G} {k:K} (h:HG B (qN G d (A++q::C)::Γ) k):HG B (yE G d 2 q.1 q.2::qN G d (A++C)::Γ) k:=fun w hw=>
 h w (Holds.flat.2 ((Holds.flat.1 hw.swap).perm zP1.symm))
end
end Bt
end
section
open Go Go.RowKit
namespace Bt
section
variable {κ:Type} {G:BtT κ} {c:κ→κ→Int} {B:World} {Γ Δ:List zB}
theorem zLR {α:Type} {A C:List α} {x:α}:(A++x::C)[A.length]? = some x:=by simp
theorem zS0 {A C:List G.It} {k:κ} {v0 v:Cel G.nv}:zC3 ((A++(k,v0)::C).flatMap G.f) (A.length * (G.nv + 1) + 1) v.1 = (A++(k,v)::C).flatMap G.f:=by
 have e1:(A++(k,v0)::C).flatMap G.f = (A.flatMap G.f++[G.kV k])++(v0.1++C.flatMap G.f):=by simp [BtT.f]
 have e2:(A++(k,v)::C).flatMap G.f = (A.flatMap G.f++[G.kV k])++(v.1++C.flatMap G.f):=by simp [BtT.f]
 rw [e1,e2,zDY (by simp [zn G.f _ G.qd]) (by rw [v0.2.1,v.2.1])]
theorem zE4 {A C:List G.It} {k:κ} {v0:Cel G.nv}:(((A++(k,v0)::C).flatMap G.f).drop (A.length * (G.nv + 1) + 1)).take G.nv = v0.1:=by
 have e1:(A++(k,v0)::C).flatMap G.f = (A.flatMap G.f++[G.kV k])++(v0.1++C.flatMap G.f):=by simp [BtT.f]
 rw [e1,show A.length * (G.nv + 1) + 1 = (A.flatMap G.f++[G.kV k]).length by simp [zn G.f _ G.qd],List.drop_left,List.take_left' v0.2.1]
theorem zM6 {A C:List G.It} {x:G.It}:((A++C).flatMap G.f).take (A.length * (G.nv + 1))++G.f x++((A++C).flatMap G.f).drop (A.length * (G.nv + 1)) = (A++x::C).flatMap G.f:=by
 rw [zC5 G.qd,zC4 G.qd,List.take_left,List.drop_left]
 simp
theorem zVV {A C:List (Option Addr)} {x:Option Addr}:((A++C).map Value.pointer).take (A.length * 1)++[Value.pointer x]++((A++C).map Value.pointer).drop (A.length * 1) = (A++x::C).map Value.pointer:=by
 rw [Nat.mul_one,← List.map_take,← List.map_drop,List.take_left,List.drop_left]
 simp
theorem zIq {d:Nat} {A C:List (Kid G)} {k:K} (h:HG B (qN G d A::qN G d C::Γ) k):HG B (qN G d (A++C)::Γ) k:=fun w hw=>by
 have h1:=Holds.flat.1 hw
 rw [List.map_append,List.append_assoc] at h1
 have h2:Holds B ((C.map fun q=>yE G d 2 q.1 q.2)++qN G d A::Γ) w:=(Holds.flat.2 h1).perm List.perm_middle.symm
 exact h w (Holds.flat.2 h2).swap
theorem zLS {q0:Kid G} {ps:List (G.It×Kid G)} {A C:List G.It} (e:ps.map Prod.fst = A++C):∃ l q r,A = l.map Prod.snd∧C = r.map Prod.fst∧q0::ps.map Prod.snd = l.map Prod.fst++q::r.map Prod.snd∧psL q0 ps = zCN l++q.2++zBD r∧ps.length = l.length + r.length:=by
 have hl:=congrArg List.length e
 simp only [List.length_map,List.length_append] at hl
 obtain ⟨l,q,r,h1,h2,h3,h4⟩:=zaS A.length q0 ps (by omega)
 rw [e] at h2
 obtain ⟨h5,h6⟩:=List.append_inj h2 (by simp [h1])
 refine ⟨l,q,r,h5,h6,h3,h4,?_⟩
 rw [hl,h6,h1,List.length_map]
theorem zM7 (ok:BtOk G c):∀ (d:Nat) {m b:Nat} {M:List G.It} {k:κ} {v:Cel G.nv} {Γ:List zB} {Q:Array Value→Bool→Option Addr→Option Addr→K},1 ≤ m→Srt c M →
  (∀ M' old had,zHV c (G.z0 ok.vz) M k v M' old had→HG B (yE G d 2 b M'::Γ) (Q old.1.toArray had none none)) →
  (∀ M1 x M2 old had r mb,zHV c (G.z0 ok.vz) M k v (M1++x::M2) old had→HG B (blk mb (.cells (G.f x).toArray G.tI (0,0))::yE G d 2 b M1::yE G d 2 r M2::Γ) (Q old.1.toArray had (some ⟨mb,0,none⟩) (some ⟨r,0,none⟩))) →
  HG B (yE G d m b M::Γ) (G.nputC (some ⟨b,0,none⟩) (G.f (k,v)).toArray Q):=by
 intro d
 induction d with
 | zero=>
  intro m b M k v Γ Q hm hs h1 h2
  refine fun w hw=>ok.put _ _ _ _ ?_
  refine hg hw ?_
  clear hw w
  refine zHC fun s kd _ hl=>?_
  refine yS kd fun m1 m2 m3 m4=>?_
  unfold zZP
  refine zR fun x3=>?_
  refine zR fun o=>?_
  refine yD (b:=x3) (x:=k) ?_
  refine zE2 ok (s:=s) (kd:=kd) hs (by omega) (fun A v0 C e=>?_) fun A C e hA hC=>?_
  ·subst e
   refine s_t ?_
   refine vg ?_
   refine yS s fun l1 l2 l3 l4=>?_
   rw [zn G.f _ G.qd] at l1
   have hn:s.n = (A++(k,v0)::C).length:=(Nat.eq_of_mul_eq_mul_right (by omega) l1).symm
   have hlen:(A++(k,v0)::C).length = A.length + (C.length + 1):=List.length_append
   refine yD (b:=b) (x:=s) ?_
   refine vZ (s:=s) (i:=A.length) ?_
   refine zEq (s:=s) (l':=v0.1) zE4 v0.2.1 ?_
   refine qX (b:=o) ?_ ok.vz.1 v0.2.1 v0.2.2
   refine vk ?_
   refine yD (b:=b) (x:=s) ?_
   refine qW (b:=x3) (off:=0 + 1) (l:=G.f (k,v)) (l':=v.1) ?_ (List.take_of_length_le (Nat.le_of_eq v.2.1)) v.2.1
   refine vZ (s:=s) (i:=A.length) ?_
   refine zOb (s:=s) ?_ v.2.1 ?_ v.2.2
   rotate_left
   ·rw [zn G.f _ G.qd,hlen,Nat.add_mul,Nat.add_mul]; omega
   rw [zS0]
   refine zD5 (v:=v0) ?_
   refine zC (Δ:=y7 G b s kd::vC G s (A++(k,v)::C)::vD G kd []::Γ) ?_
   refine zE3 (m:=2) (by simp) (by simpa using hl) (h1 _ _ _ (.inl ⟨A,C,rfl,rfl,rfl⟩))
  ·subst e
   refine s_f ?_
   refine vg ?_
   refine yD (b:=b) (x:=kd) ?_
   refine s_t ?_ (by simpa using m1.symm)
   refine vk ?_
   refine zMR ?_
   refine u6 (b:=b) (x:=s) ?_
   refine zAW (b:=x3) (l':=G.f (k,v)) ?_ (List.take_of_length_le (by simp [G.qd])) (G.qd _)
   refine zBp ?_ (by simp [ok.vz.1]) (G.qd _)
   refine zR fun t=>?_
   refine zBC ?_
   obtain ⟨R,rot,hins⟩:=ok.insI
   refine yS s fun l1 l2 l3 l4=>?_
   rw [zn G.f _ G.qd] at l1
   have hn:s.n = (A++C).length:=(Nat.eq_of_mul_eq_mul_right (by omega) l1).symm
   have hlen:(A++C).length = A.length + C.length:=List.length_append
   refine fun w hw=>hins _ _ _ _ _ ?_
   refine hg hw ?_
   clear hw w
   refine zPz (s:=s) (i:=A.length) (t:=t) (by omega) (by omega) (G.qd _) (by omega) (zEJ ok _) (zGW ok _) (fun s' hs'=>?_) ok.TI ok.ZI
   rw [zM6]
   refine zBY (b:=b) ?_
   refine zC (Δ:=zAl G o (G.z0 ok.vz)::y7 G b s' kd::vC G s' (A++(k,v)::C)::vD G kd []::Γ) ?_
   have hput:zHV c (G.z0 ok.vz) (A++C) k v (A++(k,v)::C) (G.z0 ok.vz) false:=.inr ⟨A,C,rfl,hA,hC,rfl,rfl,rfl⟩
   refine zZR ok (by simp; omega) (.inl rfl) (fun h5=>?_) fun x h6 hx s1 c1 r s2 c2 mb=>?_
   ·refine zE3 (m:=2) (by simp) h5 (h1 _ _ _ hput)
   ·have h7:=h2 ((A++(k,v)::C).take 2) x ((A++(k,v)::C).drop 3) _ _ r mb (by rw [← hx]; exact hput)
    simp only [List.take_nil,List.drop_nil]
    refine zC (Δ:=y7 G b s1 c1::vC G s1 ((A++(k,v)::C).take 2)::vD G c1 []::y7 G r s2 c2::vC G s2 ((A++(k,v)::C).drop 3)::vD G c2 []::blk mb (.cells (G.f x).toArray G.tI (0,0))::Γ) ?_
    refine zE3 (m:=2) (fun _ h=>?_) (by rw [List.length_take]; omega) ?_
    ·have:=congrArg List.length h; simp only [List.length_take,List.length_nil] at this; omega
    refine zC (Δ:=y7 G r s2 c2::vC G s2 ((A++(k,v)::C).drop 3)::vD G c2 []::blk mb (.cells (G.f x).toArray G.tI (0,0))::yE G 0 2 b ((A++(k,v)::C).take 2)::Γ) ?_
    refine zE3 (m:=2) (fun _ h=>?_) (by rw [List.length_drop]; omega) ?_
    ·have:=congrArg List.length h; simp only [List.length_drop,List.length_nil] at this; omega
    exact zC h7
 | succ d ih=>
  intro m b M k v Γ Q hm hs h1 h2
  refine fun w hw=>ok.put _ _ _ _ ?_
  refine hg hw ?_
  clear hw w
  refine zIp fun s kd q0 ps hne hl hM=>?_
  subst hM
  unfold zZP
  refine zR fun x3=>?_
  refine zR fun o=>?_
  refine yD (b:=x3) (x:=k) ?_
  refine zE2 ok (s:=s) (kd:=kd) (hs.sub (zIo q0 ps)) (by simp; omega) (fun A v0 C e=>?_) fun A C e hA hC=>?_
  ·obtain ⟨l,q,r,hA,hC,hK,hL,hlen⟩:=zLS (q0:=q0) e
   rw [e,hK]
   rw [hL] at hs h1 h2
   obtain ⟨⟨xx,q1⟩,r,rfl,hxx,hC'⟩:=List.map_eq_cons_iff.1 hC.symm
   simp only at hxx
   subst hxx
   subst hA
   subst hC'
   refine s_t ?_
   refine vg ?_
   refine yS s fun l1 l2 l3 l4=>?_
   rw [zn G.f _ G.qd] at l1
   have hil:(l.map Prod.snd++(k,v0)::r.map Prod.fst).length = (l.map Prod.snd).length + (r.length + 1):=by simp
   have hn:s.n = (l.map Prod.snd).length + (r.length + 1):=by rw [← hil]; exact (Nat.eq_of_mul_eq_mul_right (by omega) l1).symm
   refine yD (b:=b) (x:=s) ?_
   refine vZ (s:=s) (i:=(l.map Prod.snd).length) ?_
   refine zEq (s:=s) (l':=v0.1) zE4 v0.2.1 ?_
   refine qX (b:=o) ?_ ok.vz.1 v0.2.1 v0.2.2
   refine vk ?_
   refine yD (b:=b) (x:=s) ?_
   refine qW (b:=x3) (off:=0 + 1) (l:=G.f (k,v)) (l':=v.1) ?_ (List.take_of_length_le (Nat.le_of_eq v.2.1)) v.2.1
   refine vZ (s:=s) (i:=(l.map Prod.snd).length) ?_
   refine zOb (s:=s) ?_ v.2.1 ?_ v.2.2
   rotate_left
   ·rw [zn G.f _ G.qd,hil,Nat.add_mul,Nat.add_mul]; omega
   rw [zS0]
   refine zD5 (v:=v0) ?_
   obtain ⟨q0',ps',e1,e2,e3,e4⟩:=zM5 l q (((k,v),q1)::r)
   have e5:l.map Prod.fst++q::(((k,v0),q1)::r).map Prod.snd = q0'::ps'.map Prod.snd:=e3.symm
   have e6:l.map Prod.snd++(k,v)::r.map Prod.fst = ps'.map Prod.fst:=e2.symm
   rw [e5,e6]
   refine zC (Δ:=y7 G b s kd::vC G s (ps'.map Prod.fst)::vD G kd ((q0'::ps'.map Prod.snd).map ptr)::qN G d (q0'::ps'.map Prod.snd)::Γ) ?_
   simp only [List.length_cons] at hlen e1
   refine zGX (m:=2) (fun _ h=>?_) (by omega) ?_
   ·rw [h,List.length_nil] at e1; omega
   refine h1 _ _ _ (.inl ⟨zCN l++q.2,q1.2++zBD r,?_,?_,rfl⟩)
   ·simp [zBD]
   ·rw [e4]; simp [zBD]
  ·obtain ⟨l,q,r,rfl,rfl,hK,hL,hlen⟩:=zLS (q0:=q0) e
   rw [e,hK]
   rw [hL] at hs h1 h2
   refine s_f ?_
   refine vg ?_
   have hkl:((l.map Prod.fst++q::r.map Prod.snd).map ptr).length = l.length + r.length + 1:=by simp; omega
   refine yS kd fun m1 m2 m3 m4=>?_
   rw [zOg,hkl] at m1
   refine yS s fun l1 l2 l3 l4=>?_
   rw [zn G.f _ G.qd] at l1
   have hil:(l.map Prod.snd++r.map Prod.fst).length = l.length + r.length:=by simp
   have hn:s.n = l.length + r.length:=by rw [← hil]; exact (Nat.eq_of_mul_eq_mul_right (by omega) l1).symm
   refine yD (b:=b) (x:=kd) ?_
   refine s_f ?_ (by simp; omega)
   refine vk ?_
   refine yD (b:=b) (x:=kd) ?_
   refine vZ (s:=kd) (i:=l.length) ?_ (by simp)
   refine zCB (s:=kd) (x:=ptr q) (by simp) ?_
   refine qW (b:=x3) (l':=G.f (k,v)) ?_ (List.take_of_length_le (by simp [G.qd])) (G.qd _)
   refine zX (qN G d (l.map Prod.fst++q::r.map Prod.snd)) ?_
   refine zHr ?_
   have hs1:=List.pairwise_append.1 hs
   have hs2:=List.pairwise_append.1 hs1.1
   have hpre:=zOh ok l hs2.1 hA
   have hpost:=zKr ok r hs1.2.1 hC
   refine ih (m:=2) (by omega) hs2.2.1 (fun M' old had hp=>?_) fun M1 x M2 old had rb mb hp=>?_
   ·refine qX (b:=o) ?_ ok.vz.1 old.2.1 old.2.2
    refine s_f ?_
    refine zC (Δ:=zAl G o old::y7 G b s kd::vC G s (l.map Prod.snd++r.map Prod.fst)::vD G kd ((l.map Prod.fst++q::r.map Prod.snd).map ptr)::yE G d 2 q.1 M'::qN G d (l.map Prod.fst++r.map Prod.snd)::Γ) ?_
    refine zZR ok (by omega) (.inr (by omega)) (fun h5=>?_) fun x h6 hx s1 c1 r s2 c2 mb=>(by omega)
    obtain ⟨q0',ps',e1,e2,e3,e4⟩:=zM5 l (q.1,M') r
    refine zC (Δ:=yE G d 2 q.1 M'::qN G d (l.map Prod.fst++r.map Prod.snd)::y7 G b s kd::vC G s (l.map Prod.snd++r.map Prod.fst)::vD G kd ((l.map Prod.fst++q::r.map Prod.snd).map ptr)::Γ) ?_
    refine zC6 (q:=(q.1,M')) ?_
    have e5:(l.map Prod.fst++q::r.map Prod.snd).map ptr = (l.map Prod.fst++(q.1,M')::r.map Prod.snd).map ptr:=by simp [ptr]
    rw [e5,← e2,← e3]
    refine zC (Δ:=y7 G b s kd::vC G s (ps'.map Prod.fst)::vD G kd ((q0'::ps'.map Prod.snd).map ptr)::qN G d (q0'::ps'.map Prod.snd)::Γ) ?_
    refine zGX (m:=2) (fun _ h=>?_) (by omega) ?_
    ·rw [h] at e1; rw [List.length_nil] at e1
     exact hne hm (List.length_eq_zero_iff.1 (by omega))
    rw [e4]
    exact h1 _ _ _ (hp.mid hpre hpost)
   ·refine qX (b:=o) ?_ ok.vz.1 old.2.1 old.2.2
    refine s_t ?_
    refine vk ?_
    refine zMR ?_
    refine vg ?_
    refine u6 (b:=b) (x:=s) ?_
    refine zAW (b:=mb) (l':=G.f x) ?_ (List.take_of_length_le (by simp [G.qd])) (G.qd _)
    refine zBp ?_ (by simp [ok.vz.1]) (G.qd _)
    refine zR fun t=>?_
    refine zBC ?_
    obtain ⟨R,rot,hins⟩:=ok.insI
    refine fun w hw=>hins _ _ _ _ _ ?_
    refine hg hw ?_
    clear hw w
    refine zPz (s:=s) (i:=(l.map Prod.snd).length) (t:=t) (by simp; omega) (by omega) (G.qd _) (by omega) (zEJ ok _) (zGW ok _) (fun s' hs'=>?_) ok.TI ok.ZI
    rw [zM6]
    refine zBY (b:=b) ?_
    refine yD (b:=b) (x:=kd) ?_
    refine qU ?_ (by simp; omega) (by simp; omega)
    refine zR fun t2=>?_
    have hkp:(l.map Prod.fst++q::r.map Prod.snd).map ptr = (l.map Prod.fst++[q]).map ptr++(r.map Prod.snd).map ptr:=by simp
    rw [hkp]
    have hkA:((l.map Prod.fst++[q]).map ptr).length = l.length + 1:=by simp
    obtain ⟨R2,rot2,hins2⟩:=ok.zPy
    refine fun w hw=>hins2 _ _ _ _ _ ?_
    refine hg hw ?_
    clear hw w
    rw [show (((l.map Prod.snd).length:Nat):Int) + 1 = (((l.map Prod.fst++[q]).map ptr).length:Nat) by rw [hkA]; simp]
    refine zPz (s:=kd) (i:=((l.map Prod.fst++[q]).map ptr).length) (t:=t2) (us:=[Value.pointer (some ⟨rb,0,none⟩)]) (by omega) (by omega) rfl (by omega) (zHB _) (by simp [yX]) (fun kd' hkd'=>?_) ok.TK ok.ZK
    rw [zVV]
    refine zBY (b:=b) ?_
    obtain ⟨q0',ps',e1,e2,e3,e4⟩:=zM5 l (q.1,M1) ((x,(rb,M2))::r)
    simp only [List.length_cons] at e1
    have e5:(l.map Prod.fst++[q]).map ptr++some ⟨rb,0,none⟩::(r.map Prod.snd).map ptr = (q0'::ps'.map Prod.snd).map ptr:=by rw [e3]; simp [ptr]
    have e6:l.map Prod.snd++x::r.map Prod.fst = ps'.map Prod.fst:=e2.symm
    rw [e5,e6]
    refine zC (Δ:=yE G d 2 rb M2::qN G d (l.map Prod.fst++r.map Prod.snd)::yE G d 2 q.1 M1::zAl G o old::y7 G b s' kd'::vC G s' (ps'.map Prod.fst)::vD G kd' ((q0'::ps'.map Prod.snd).map ptr)::Γ) ?_
    refine zC6 (q:=(rb,M2)) ?_
    refine zDW ?_
    refine zC6 (q:=(q.1,M1)) ?_
    rw [show l.map Prod.fst++(q.1,M1)::(rb,M2)::r.map Prod.snd = q0'::ps'.map Prod.snd from e3.symm]
    have hput:zHV c (G.z0 ok.vz) (zCN l++q.2++zBD r) k v (psL q0' ps') old had:=by
     rw [e4]
     have:=hp.mid hpre hpost
     simpa [zBD] using this
    refine zC (Δ:=zAl G o old::y7 G b s' kd'::vC G s' (ps'.map Prod.fst)::vD G kd' ((q0'::ps'.map Prod.snd).map ptr)::qN G d (q0'::ps'.map Prod.snd)::Γ) ?_
    refine zZR ok (by simp; omega) (.inr (by simp)) (fun h5=>?_) fun y h6 hy s1 c1 r2 s2 c2 mb2=>?_
    ·rw [List.length_map] at h5
     refine zC (Δ:=y7 G b s' kd'::vC G s' (ps'.map Prod.fst)::vD G kd' ((q0'::ps'.map Prod.snd).map ptr)::qN G d (q0'::ps'.map Prod.snd)::Γ) ?_
     refine zGX (m:=2) (fun _ h=>?_) h5 (h1 _ _ _ hput)
     rw [h,List.length_nil] at e1; omega
    ·rw [List.length_map] at h6
     obtain ⟨P,p3,R,hP,e7⟩:∃ P p3 R,P.length = 2∧ps' = P++p3::R:=⟨ps'.take 2,ps'[2],ps'.drop 3,by rw [List.length_take]; omega,by rw [← List.drop_eq_getElem_cons,List.take_append_drop]⟩
     have hRl:R.length = 3:=by have:=congrArg List.length e7; simp only [List.length_append,List.length_cons] at this; omega
     have t1:(ps'.map Prod.fst).take 2 = P.map Prod.fst:=by rw [e7,List.map_append]; exact List.take_left' (by simp [hP])
     have t2:(ps'.map Prod.fst).drop 3 = R.map Prod.fst:=by rw [e7,show P++p3::R = (P++[p3])++R by simp,List.map_append]; exact List.drop_left' (by simp [hP])
     have t3:q0'::ps'.map Prod.snd = (q0'::P.map Prod.snd)++(p3.2::R.map Prod.snd):=by rw [e7]; simp
     have t4:((q0'::ps'.map Prod.snd).map ptr).take 3 = (q0'::P.map Prod.snd).map ptr:=by rw [t3,List.map_append]; exact List.take_left' (by simp [hP])
     have t5:((q0'::ps'.map Prod.snd).map ptr).drop 3 = (p3.2::R.map Prod.snd).map ptr:=by rw [t3,List.map_append]; exact List.drop_left' (by simp [hP])
     have t6:psL q0' ps' = psL q0' P++p3.1::psL p3.2 R:=by rw [e7]; simp [psL]
     have t7:y = p3.1:=by
      rw [t1,t2,e7] at hy
      simp only [List.map_append,List.map_cons,List.append_cancel_left_eq,List.cons.injEq] at hy
      exact hy.1.symm
     rw [t4,t5,t1,t2,t3,t7]
     refine zX (qN G d ((q0'::P.map Prod.snd)++(p3.2::R.map Prod.snd))) ?_
     refine zIq ?_
     refine zC (Δ:=y7 G b s1 c1::vC G s1 (P.map Prod.fst)::vD G c1 ((q0'::P.map Prod.snd).map ptr)::qN G d (q0'::P.map Prod.snd)::y7 G r2 s2 c2::vC G s2 (R.map Prod.fst)::vD G c2 ((p3.2::R.map Prod.snd).map ptr)::qN G d (p3.2::R.map Prod.snd)::blk mb2 (.cells (G.f p3.1).toArray G.tI (0,0))::Γ) ?_
     refine zGX (m:=2) (fun _ h=>by rw [h] at hP; cases hP) (by omega) ?_
     refine zC (Δ:=y7 G r2 s2 c2::vC G s2 (R.map Prod.fst)::vD G c2 ((p3.2::R.map Prod.snd).map ptr)::qN G d (p3.2::R.map Prod.snd)::blk mb2 (.cells (G.f p3.1).toArray G.tI (0,0))::yE G (d + 1) 2 b (psL q0' P)::Γ) ?_
     refine zGX (m:=2) (fun _ h=>by rw [h] at hRl; cases hRl) (by omega) ?_
     exact zC (h2 _ _ _ _ _ r2 mb2 (t6 ▸ hput))
end
end Bt
end
section
open Go Go.RowKit
namespace Bt
section
variable {κ:Type} {G:BtT κ} {c:κ→κ→Int} {B:World} {Γ Δ:List zB}
def vK (G:BtT κ) (c:κ→κ→Int) (t:Nat) (L:List G.It):zB:=ex fun d=>ex fun b=>Sep.stars [pur (Srt c L),blk t (.cells [.pointer (some ⟨b,0,none⟩),.int .i64 L.length].toArray G.tT (0,0)),yE G d 1 b L]
instance (priority:=high) zaU {t:Nat} {L:List G.It}:Own t (vK G c t L::Γ) (vK G c t L) Γ:=⟨.refl _⟩
theorem zLT {t:Nat} {L:List G.It} {k:K} (h:∀ d b,Srt c L→HG B (blk t (.cells [.pointer (some ⟨b,0,none⟩),.int .i64 L.length].toArray G.tT (0,0))::yE G d 1 b L::Γ) k):HG B (vK G c t L::Γ) k :=
 zC1 fun d=>zC1 fun b=>zBX <| zGU fun h1=>h d b h1
theorem zXX {t d b:Nat} {L:List G.It} {w:World} (h1:Srt c L) (hw:Holds B (blk t (.cells [.pointer (some ⟨b,0,none⟩),.int .i64 L.length].toArray G.tT (0,0))::yE G d 1 b L::Γ) w):Holds B (vK G c t L::Γ) w:=by
 have h3:Holds B (Sep.stars [pur (Srt c L),blk t (.cells [.pointer (some ⟨b,0,none⟩),.int .i64 L.length].toArray G.tT (0,0)),yE G d 1 b L]::Γ) w:=Holds.flat.2 (Holds.pur.2 ⟨h1,hw⟩)
 exact h3.imp fun g hg=>⟨d,b,hg⟩
theorem zC7 {t d b:Nat} {L:List G.It} {k:K} (h1:Srt c L) (h:HG B (vK G c t L::Γ) k):HG B (blk t (.cells [.pointer (some ⟨b,0,none⟩),.int .i64 L.length].toArray G.tT (0,0))::yE G d 1 b L::Γ) k:=fun w hw=>h w (zXX h1 hw)
theorem zLU {t:Nat} {L:List G.It} {k:K} (h:Srt c L→HG B (vK G c t L::Γ) k):HG B (vK G c t L::Γ) k:=zLT fun d b h1=>zC7 h1 (h h1)
theorem zTw {Q:Option Addr→K} (h:∀ t,HG B (vK G c t []::Γ) (Q (some ⟨t,0,none⟩))):HG B Γ (zZN G Q):=by
 unfold zZN
 refine zR fun b=>?_
 refine zR fun t=>?_
 refine fun w hw=>?_
 refine hg (show Holds B (SlC G.tI (G.nv + 1) ⟨none,0,0⟩ []::_) w from hw.zAk G.tI (G.nv + 1)) ?_
 refine fun w hw=>?_
 refine hg (show Holds B (SlC G.tK 1 ⟨none,0,0⟩ []::_) w from hw.zAk G.tK 1) ?_
 refine zC (Δ:=y7 G b ⟨none,0,0⟩ ⟨none,0,0⟩::SlC G.tI (G.nv + 1) ⟨none,0,0⟩ []::SlC G.tK 1 ⟨none,0,0⟩ []::blk t (.cells [.pointer (some ⟨b,0,none⟩),.int .i64 0].toArray G.tT (0,0))::Γ) ?_
 refine zE3 (m:=1) (L:=[]) (by simp) (by simp) ?_
 refine zDW ?_
 exact zC7 (L:=[]) List.Pairwise.nil (h t)
theorem yE.weak {d m m' b:Nat} {L:List G.It} (hm:m' = 2→m = 2) (hm':1 ≤ m'→1 ≤ m):∀ h,yE G d m b L h→yE G d m' b L h:=fun h hh=>by
 cases d with
 | zero=>
  obtain ⟨s,kd,hh⟩:=hh
  exact ⟨s,kd,zBi (fun g hg=>⟨fun h2=>hg.1 (hm h2),hg.2⟩) (fun _ h=>h) hh⟩
 | succ d=>
  obtain ⟨s,kd,q0,ps,hh⟩:=hh
  exact ⟨s,kd,q0,ps,zBi (fun g hg=>⟨fun h2=>hg.1 (hm' h2),hg.2⟩) (fun _ h=>h) hh⟩
theorem zHV.srt (ok:BtOk G c) {ν:Type} {z v old:ν} {L L':List (κ×ν)} {k:κ} {had:Bool} (h:zHV c z L k v L' old had) (hs:Srt c L):Srt c L':=by
 rcases h with ⟨A,C,rfl,rfl,rfl⟩ | ⟨A,C,rfl,h1,h2,rfl,rfl,rfl⟩
 ·obtain ⟨a1,a2,a3⟩:=List.pairwise_append.1 hs
  obtain ⟨b1,b2⟩:=List.pairwise_cons.1 a2
  refine List.pairwise_append.2 ⟨a1,List.pairwise_cons.2 ⟨fun y hy=>b1 y hy,b2⟩,fun x hx y hy=>?_⟩
  rcases List.mem_cons.1 hy with rfl | hy
  ·exact a3 x hx (k,old) List.mem_cons_self
  ·exact a3 x hx y (List.mem_cons_of_mem _ hy)
 ·obtain ⟨a1,a2,a3⟩:=List.pairwise_append.1 hs
  refine List.pairwise_append.2 ⟨a1,List.pairwise_cons.2 ⟨fun y hy=>h2 y hy,a2⟩,fun x hx y hy=>?_⟩
  rcases List.mem_cons.1 hy with rfl | hy
  ·exact h1 x hx
  ·exact a3 x hx y hy
theorem zHV.len {ν:Type} {z v old:ν} {L L':List (κ×ν)} {k:κ} {had:Bool} (h:zHV c z L k v L' old had):L'.length = L.length + (if had then 0 else 1):=by
 rcases h with ⟨A,C,rfl,rfl,rfl⟩ | ⟨A,C,rfl,h1,h2,rfl,rfl,rfl⟩
 ·simp
 ·simp; omega
theorem zXY {kz a:Value} {vz us:List Value} {n:Nat} (ha:yX a = true) (hz:vz.length = n) (hu:us.length = n):Instr.fill ([(0,1),(1,n)][·]?) (kz::vz).toArray [(0,a),(1,.agg us.toArray)] = some (a::us).toArray:=by
 have h0:a.cells = #[a]:=by cases a <;> first | rfl | (simp [yX] at ha)
 have h1:(Value.agg us.toArray).cells = us.toArray:=rfl
 have e0:([(0,1),(1,n)]:List (Nat×Nat))[0]? = some (0,1):=rfl
 have e1:([(0,1),(1,n)]:List (Nat×Nat))[1]? = some (1,n):=rfl
 simp only [Instr.fill,h0,h1,e0,e1]
 have h2:=zDh us [a] vz (by simp; omega)
 simp [hu,hz]
 refine ⟨by omega,?_⟩
 rw [show [a].length = 1 from rfl,List.zipIdx_eq_map_add,List.foldl_map] at h2
 simpa [Nat.add_comm] using h2
theorem zS1 (ok:BtOk G c) {o t6:Nat} {old:Cel G.nv} {v6:Cel G.nv} {had:Bool} {Q:Array Value→Bool→K} (h:HG B Γ (Q old.1.toArray had)):HG B (zAl G o old::zAl G t6 v6::Γ) (zKq G Q ⟨t6,0,none⟩ ⟨o,0,none⟩ had):=by
 unfold zKq
 have e:(old.1.drop 0).take G.nv = old.1:=by rw [List.drop_zero,List.take_of_length_le (Nat.le_of_eq old.2.1)]
 refine qW (b:=o) ?_ e old.2.1
 refine qX (b:=t6) ?_ v6.2.1 old.2.1 old.2.2
 refine qW (b:=t6) ?_ e old.2.1
 exact zC h
theorem zOi (ok:BtOk G c) {o t t6 d b n:Nat} {L L':List G.It} {k:κ} {v old v6:Cel G.nv} {had:Bool} {Q:Array Value→Bool→K} (hs:Srt c L) (hL:L.length < 1000000000) (hp:zHV c (G.z0 ok.vz) L k v L' old had)
  (h:HG B (vK G c t L'::Γ) (Q old.1.toArray had)) :
  HG B (zAl G o old::zAl G t6 v6::blk t (.cells [.pointer (some ⟨b,0,none⟩),.int .i64 L.length].toArray G.tT (0,0))::yE G d 1 b L'::Γ) (zIn G Q (some ⟨t,0,none⟩) ⟨t6,0,none⟩ ⟨o,0,none⟩ had):=by
 unfold zIn
 have hlen:=hp.len
 refine zH (fun hb=>?_) fun hb=>?_
 ·have h0:had = false:=by simpa using hb
  refine vg ?_
  refine yD (b:=t) (x:=(L.length:Int)) ?_
  refine qU ?_
  refine zBY (b:=t) ?_
  rw [show ((L.length:Nat):Int) + 1 = ((L'.length:Nat):Int) by rw [hlen,h0]; simp]
  refine zC (Δ:=zAl G o old::zAl G t6 v6::blk t (.cells [.pointer (some ⟨b,0,none⟩),.int .i64 L'.length].toArray G.tT (0,0))::yE G d 1 b L'::Γ) ?_
  refine zS1 ok ?_
  exact zC7 (hp.srt ok hs) h
 ·have h0:had = true:=by simpa using hb
  rw [show ((L.length:Nat):Int) = ((L'.length:Nat):Int) by rw [hlen,h0]; simp]
  refine zS1 ok ?_
  exact zC7 (hp.srt ok hs) h
theorem zS2 (ok:BtOk G c) {o t t6 d b n:Nat} {L L':List G.It} {k:κ} {v old v6:Cel G.nv} {had:Bool} {Q:Array Value→Bool→K} (hs:Srt c L) (hL:L.length < 1000000000) (hp:zHV c (G.z0 ok.vz) L k v L' old had)
  (h:HG B (vK G c t L'::Γ) (Q old.1.toArray had)) :
  HG B (zAl G o old::zAl G t6 v6::blk t (.cells [.pointer (some ⟨b,0,none⟩),.int .i64 L.length].toArray G.tT (0,0))::yE G d 2 b L'::Γ) (zHA G Q (some ⟨t,0,none⟩) ⟨t6,0,none⟩ ⟨o,0,none⟩ had none none):=by
 unfold zHA
 refine s_f ?_
 refine zQ b ?_
 refine zCh (yE.weak (m':=1) (by simp) (by simp)) ?_
 refine zC (Δ:=zAl G o old::zAl G t6 v6::blk t (.cells [.pointer (some ⟨b,0,none⟩),.int .i64 L.length].toArray G.tT (0,0))::yE G d 1 b L'::Γ) ?_
 exact zOi ok (n:=n) hs hL hp h
theorem zVW {b r b2 t1 t2 d:Nat} {M1 M2:List G.It} {x:G.It} {k:K} (h:HG B (yE G (d + 1) 1 b2 (M1++x::M2)::Γ) k) :
  HG B (y7 G b2 ⟨some ⟨t1,0,none⟩,1,1⟩ ⟨some ⟨t2,0,none⟩,2,2⟩::blk t1 (.cells (G.f x).toArray G.tI (0,0))::blk t2 (.cells [.pointer (some ⟨b,0,none⟩),.pointer (some ⟨r,0,none⟩)].toArray G.tK (0,0))::yE G d 2 b M1::yE G d 2 r M2::Γ) k:=by
 refine zQ t1 ?_
 refine zCh (A':=vC G ⟨some ⟨t1,0,none⟩,1,1⟩ [x]) (zEI (vs:=[x].flatMap G.f) (by simp) (by simp [G.qd])) ?_
 refine zQ t2 ?_
 refine zCh (A':=vD G ⟨some ⟨t2,0,none⟩,2,2⟩ [some ⟨b,0,none⟩,some ⟨r,0,none⟩]) (zEI (vs:=[Value.pointer (some ⟨b,0,none⟩),Value.pointer (some ⟨r,0,none⟩)]) (by simp) (by simp)) ?_
 refine fun w hw=>?_
 refine hg (show Holds B (qN G d []::_) w from Holds.flat.2 hw) ?_
 refine zC (Δ:=yE G d 2 r M2::qN G d []::yE G d 2 b M1::y7 G b2 ⟨some ⟨t1,0,none⟩,1,1⟩ ⟨some ⟨t2,0,none⟩,2,2⟩::vC G ⟨some ⟨t1,0,none⟩,1,1⟩ [x]::vD G ⟨some ⟨t2,0,none⟩,2,2⟩ [some ⟨b,0,none⟩,some ⟨r,0,none⟩]::Γ) ?_
 show HG B (_::qN G d ([]++[])::_) k
 refine zC6 (A:=[]) (C:=[]) (q:=(r,M2)) ?_
 refine zDW ?_
 refine zC6 (A:=[]) (C:=[(r,M2)]) (q:=(b,M1)) ?_
 show HG B (qN G d (((b,M1):Kid G)::[(x,((r,M2):Kid G))].map Prod.snd)::_::vC G ⟨some ⟨t1,0,none⟩,1,1⟩ ([(x,((r,M2):Kid G))].map Prod.fst)::vD G ⟨some ⟨t2,0,none⟩,2,2⟩ ((((b,M1):Kid G)::[(x,((r,M2):Kid G))].map Prod.snd).map ptr)::_) k
 refine zC (Δ:=y7 G b2 ⟨some ⟨t1,0,none⟩,1,1⟩ ⟨some ⟨t2,0,none⟩,2,2⟩::vC G ⟨some ⟨t1,0,none⟩,1,1⟩ ([(x,((r,M2):Kid G))].map Prod.fst)::vD G ⟨some ⟨t2,0,none⟩,2,2⟩ ((((b,M1):Kid G)::[(x,((r,M2):Kid G))].map Prod.snd).map ptr)::qN G d (((b,M1):Kid G)::[(x,((r,M2):Kid G))].map Prod.snd)::Γ) ?_
 refine zGX (m:=1) (by simp) (by simp) ?_
 have e:psL ((b,M1):Kid G) [(x,(r,M2))] = M1++x::M2:=by simp [psL]
 rw [e]; exact h
theorem zP2 (ok:BtOk G c) {o t t6 d b n r mb:Nat} {L M1 M2:List G.It} {x:G.It} {k:κ} {v old v6:Cel G.nv} {had:Bool} {Q:Array Value→Bool→K} (hs:Srt c L) (hL:L.length < 1000000000) (hp:zHV c (G.z0 ok.vz) L k v (M1++x::M2) old had)
  (h:HG B (vK G c t (M1++x::M2)::Γ) (Q old.1.toArray had)) :
  HG B (zAl G o old::zAl G t6 v6::blk t (.cells [.pointer (some ⟨b,0,none⟩),.int .i64 L.length].toArray G.tT (0,0))::blk mb (.cells (G.f x).toArray G.tI (0,0))::yE G d 2 b M1::yE G d 2 r M2::Γ) (zHA G Q (some ⟨t,0,none⟩) ⟨t6,0,none⟩ ⟨o,0,none⟩ had (some ⟨mb,0,none⟩) (some ⟨r,0,none⟩)):=by
 unfold zHA
 refine s_t ?_
 refine vk ?_
 refine zMR ?_
 refine vg ?_
 refine vg ?_
 refine zAW (b:=mb) (l':=G.f x) ?_ (List.take_of_length_le (by simp [G.qd])) (G.qd _)
 refine u6 (b:=t) (x:=some ⟨b,0,none⟩) ?_
 refine zJK ?_ ?_
 ·refine zBp ?_ (by simp [ok.vz.1]) (G.qd _)
  refine zR fun t1=>?_
  refine zBC ?_
  refine zR fun t2=>?_
  refine zBC ?_
  refine zR fun b2=>?_
  refine zBY (b:=t) ?_
  refine zC (Δ:=y7 G b2 ⟨some ⟨t1,0,none⟩,1,1⟩ ⟨some ⟨t2,0,none⟩,2,2⟩::blk t1 (.cells (G.f x).toArray G.tI (0,0))::blk t2 (.cells [.pointer (some ⟨b,0,none⟩),.pointer (some ⟨r,0,none⟩)].toArray G.tK (0,0))::yE G d 2 b M1::yE G d 2 r M2::zAl G o old::zAl G t6 v6::blk t (.cells [.pointer (some ⟨b2,0,none⟩),.int .i64 L.length].toArray G.tT (0,0))::Γ) ?_
  refine zVW ?_
  refine zC (Δ:=zAl G o old::zAl G t6 v6::blk t (.cells [.pointer (some ⟨b2,0,none⟩),.int .i64 L.length].toArray G.tT (0,0))::yE G (d + 1) 1 b2 (M1++x::M2)::Γ) ?_
  exact zOi ok (n:=n) hs hL hp h
 ·refine zR fun t2=>?_
  refine zBC ?_
  refine zBp ?_ (by simp [ok.vz.1]) (G.qd _)
  refine zR fun t1=>?_
  refine zBC ?_
  refine zR fun b2=>?_
  refine zBY (b:=t) ?_
  refine zC (Δ:=y7 G b2 ⟨some ⟨t1,0,none⟩,1,1⟩ ⟨some ⟨t2,0,none⟩,2,2⟩::blk t1 (.cells (G.f x).toArray G.tI (0,0))::blk t2 (.cells [.pointer (some ⟨b,0,none⟩),.pointer (some ⟨r,0,none⟩)].toArray G.tK (0,0))::yE G d 2 b M1::yE G d 2 r M2::zAl G o old::zAl G t6 v6::blk t (.cells [.pointer (some ⟨b2,0,none⟩),.int .i64 L.length].toArray G.tT (0,0))::Γ) ?_
  refine zVW ?_
  refine zC (Δ:=zAl G o old::zAl G t6 v6::blk t (.cells [.pointer (some ⟨b2,0,none⟩),.int .i64 L.length].toArray G.tT (0,0))::yE G (d + 1) 1 b2 (M1++x::M2)::Γ) ?_
  exact zOi ok (n:=n) hs hL hp h
theorem zTx (ok:BtOk G c) {t:Nat} {L:List G.It} {k:κ} {v:Cel G.nv} {Q:Array Value→Bool→K} (hL:L.length < 1000000000) (h:∀ L' old had,zHV c (G.z0 ok.vz) L k v L' old had→HG B (vK G c t L'::Γ) (Q old.1.toArray had)) :
  HG B (vK G c t L::Γ) (zZQ G (some ⟨t,0,none⟩) k v.1.toArray Q):=by
 refine zLT fun d b hs=>?_
 unfold zZQ
 refine zR fun v5=>?_
 refine zR fun t6=>?_
 refine vk ?_
 refine zMR ?_
 refine vg ?_
 refine u6 (b:=t) (x:=some ⟨b,0,none⟩) ?_
 refine zAW (b:=v5) (off:=0) (l:=v.1) (l':=v.1) ?_ (List.take_of_length_le (Nat.le_of_eq v.2.1)) v.2.1
 refine zYm (cs:=G.f (k,v)) ?_ (zXY (ok.kf k) ok.vz.1 v.2.1)
 refine zJK ?_ ?_
 ·refine zC (Δ:=yE G d 1 b L::blk t (.cells [.pointer (some ⟨b,0,none⟩),.int .i64 L.length].toArray G.tT (0,0))::zAl G t6 (G.z0 ok.vz)::Γ) ?_
  refine zM7 ok d (m:=1) (Nat.le_refl _) hs (fun M' old had hp=>?_) fun M1 x M2 old had r mb hp=>?_
  ·refine zR fun o=>?_
   refine qX (b:=o) ?_ ok.vz.1 old.2.1 old.2.2
   refine zC (Δ:=zAl G o old::zAl G t6 (G.z0 ok.vz)::blk t (.cells [.pointer (some ⟨b,0,none⟩),.int .i64 L.length].toArray G.tT (0,0))::yE G d 2 b M'::Γ) ?_
   exact zS2 ok (n:=0) hs hL hp (h _ _ _ hp)
  ·refine zR fun o=>?_
   refine qX (b:=o) ?_ ok.vz.1 old.2.1 old.2.2
   refine zC (Δ:=zAl G o old::zAl G t6 (G.z0 ok.vz)::blk t (.cells [.pointer (some ⟨b,0,none⟩),.int .i64 L.length].toArray G.tT (0,0))::blk mb (.cells (G.f x).toArray G.tI (0,0))::yE G d 2 b M1::yE G d 2 r M2::Γ) ?_
   exact zP2 ok (n:=0) hs hL hp (h _ _ _ hp)
 ·refine zR fun o=>?_
  refine zBC ?_
  refine zC (Δ:=yE G d 1 b L::blk t (.cells [.pointer (some ⟨b,0,none⟩),.int .i64 L.length].toArray G.tT (0,0))::zAl G t6 (G.z0 ok.vz)::zAl G o (G.z0 ok.vz)::Γ) ?_
  refine zM7 ok d (m:=1) (Nat.le_refl _) hs (fun M' old had hp=>?_) fun M1 x M2 old had r mb hp=>?_
  ·refine qX (b:=o) ?_ ok.vz.1 old.2.1 old.2.2
   refine zC (Δ:=zAl G o old::zAl G t6 (G.z0 ok.vz)::blk t (.cells [.pointer (some ⟨b,0,none⟩),.int .i64 L.length].toArray G.tT (0,0))::yE G d 2 b M'::Γ) ?_
   exact zS2 ok (n:=0) hs hL hp (h _ _ _ hp)
  ·refine qX (b:=o) ?_ ok.vz.1 old.2.1 old.2.2
   refine zC (Δ:=zAl G o old::zAl G t6 (G.z0 ok.vz)::blk t (.cells [.pointer (some ⟨b,0,none⟩),.int .i64 L.length].toArray G.tT (0,0))::blk mb (.cells (G.f x).toArray G.tI (0,0))::yE G d 2 b M1::yE G d 2 r M2::Γ) ?_
   exact zP2 ok (n:=0) hs hL hp (h _ _ _ hp)
structure At (G:BtT κ) where
 d:Nat
 m:Nat
 b:Nat
 M:List G.It
 W:List zB
 A:List G.It
 C:List G.It
theorem zTy (ok:BtOk G c) {t:Nat} {L:List G.It} {k:κ} {Q:Array Value→Bool→K} (hfound:∀ A v C,L = A++(k,v)::C→HG B (vK G c t L::Γ) (Q v.1.toArray true)) (hnot:(∀ A C,L = A++C→(∀ x ∈ A,c x.1 k < 0)→(∀ x ∈ C,c k x.1 < 0)→HG B (vK G c t L::Γ) (Q G.vz.toArray false))) :
  HG B (vK G c t L::Γ) (zZO G (some ⟨t,0,none⟩) k Q):=by
 refine zLT fun d b hs=>?_
 unfold zZO
 refine zR fun o=>?_
 refine vg ?_
 refine yD (b:=t) (x:=some ⟨b,0,none⟩) ?_
 let W0:List zB:=blk t (.cells [.pointer (some ⟨b,0,none⟩),.int .i64 L.length].toArray G.tT (0,0))::Γ
 refine zC (Δ:=yE G d 1 b L::zAl G o (G.z0 ok.vz)::W0) ?_
 refine vQ (ι:=At G) (fun x i=>x = some ⟨i.b,0,none⟩∧L = i.A++i.M++i.C∧(∀ x ∈ i.A,c x.1 k < 0)∧(∀ x ∈ i.C,c k x.1 < 0)∧∀ k',HG B (vK G c t L::Γ) k'→HG B (yE G i.d i.m i.b i.M::i.W) k')
  (fun x i=>yE G i.d i.m i.b i.M::zAl G o (G.z0 ok.vz)::i.W) (fun x i=>i.d) (⟨d,1,b,L,W0,[],[]⟩:At G) ⟨rfl,by simp,by simp,by simp,fun k' hk=>?_⟩ ?_
 ·refine zC (Δ:=blk t (.cells [.pointer (some ⟨b,0,none⟩),.int .i64 L.length].toArray G.tT (0,0))::yE G d 1 b L::Γ) ?_
  exact zC7 hs hk
 clear d b W0
 rintro k' _ ⟨d,m,b,M,W,A,C⟩ ⟨rfl,hL,hA,hC,cl⟩ hk
 simp only at hL hA hC cl hk ⊢
 have hsM:Srt c M:=by rw [hL] at hs; exact (List.pairwise_append.1 (List.pairwise_append.1 hs).1).2.1
 unfold zSz
 cases d with
 | zero=>
  refine zHC fun s kd hm hl=>?_
  refine zE2 ok (s:=s) (kd:=kd) hsM (by omega) (fun A' v C' e=>?_) fun A' C' e hA' hC'=>?_
  ·subst e
   refine s_t ?_
   refine vg ?_
   refine yS s fun l1 l2 l3 l4=>?_
   rw [zn G.f _ G.qd] at l1
   have hn:s.n = (A'++(k,v)::C').length:=(Nat.eq_of_mul_eq_mul_right (by omega) l1).symm
   have hlen:(A'++(k,v)::C').length = A'.length + (C'.length + 1):=List.length_append
   refine yD (b:=b) (x:=s) ?_
   refine vZ (s:=s) (i:=A'.length) ?_
   refine zEq (s:=s) (l':=v.1) zE4 v.2.1 ?_
   refine qX (b:=o) ?_ ok.vz.1 v.2.1 v.2.2
   refine qW (b:=o) (off:=0) (l:=v.1) (l':=v.1) ?_ (List.take_of_length_le (Nat.le_of_eq v.2.1)) v.2.1
   refine zC (Δ:=y7 G b s kd::vC G s (A'++(k,v)::C')::vD G kd []::W) ?_
   refine zE3 hm hl (cl _ (hfound (A++A') v (C'++C) ?_))
   rw [hL]; simp
  ·subst e
   refine s_f ?_
   refine vg ?_
   refine yS kd fun m1 m2 m3 m4=>?_
   refine yD (b:=b) (x:=kd) ?_
   refine s_t ?_ (by simpa using m1.symm)
   refine zD5 (v:=G.z0 ok.vz) ?_
   refine zC (Δ:=y7 G b s kd::vC G s (A'++C')::vD G kd []::W) ?_
   refine zE3 hm hl (cl _ (hnot (A++A') (C'++C) ?_ (fun x hx=>?_) fun x hx=>?_))
   ·rw [hL]; simp
   ·rcases List.mem_append.1 hx with hx | hx
    ·exact hA x hx
    ·exact hA' x hx
   ·rcases List.mem_append.1 hx with hx | hx
    ·exact hC' x hx
    ·exact hC x hx
 | succ d=>
  refine zIp fun s kd q0 ps hne hl hM=>?_
  subst hM
  refine zE2 ok (s:=s) (kd:=kd) (hsM.sub (zIo q0 ps)) (by simp; omega) (fun A' v C' e=>?_) fun A' C' e hA' hC'=>?_
  ·rw [e]
   refine s_t ?_
   refine vg ?_
   refine yS s fun l1 l2 l3 l4=>?_
   rw [zn G.f _ G.qd] at l1
   have hn:s.n = (A'++(k,v)::C').length:=(Nat.eq_of_mul_eq_mul_right (by omega) l1).symm
   have hlen:(A'++(k,v)::C').length = A'.length + (C'.length + 1):=List.length_append
   refine yD (b:=b) (x:=s) ?_
   refine vZ (s:=s) (i:=A'.length) ?_
   refine zEq (s:=s) (l':=v.1) zE4 v.2.1 ?_
   refine qX (b:=o) ?_ ok.vz.1 v.2.1 v.2.2
   refine qW (b:=o) (off:=0) (l:=v.1) (l':=v.1) ?_ (List.take_of_length_le (Nat.le_of_eq v.2.1)) v.2.1
   rw [← e]
   refine zC (Δ:=y7 G b s kd::vC G s (ps.map Prod.fst)::vD G kd ((q0::ps.map Prod.snd).map ptr)::qN G d (q0::ps.map Prod.snd)::W) ?_
   obtain ⟨A2,C2,e2⟩:∃ A2 C2,psL q0 ps = A2++(k,v)::C2:=List.append_of_mem ((zIo q0 ps).subset (by rw [e]; simp))
   refine zGX hne hl (cl _ (hfound (A++A2) v (C2++C) ?_))
   rw [hL,e2]; simp
  ·obtain ⟨l,q,r,rfl,rfl,hK,hL2,hlen⟩:=zLS (q0:=q0) e
   rw [hK]
   rw [hL2] at hsM hL
   refine s_f ?_
   refine vg ?_
   have hkl:((l.map Prod.fst++q::r.map Prod.snd).map ptr).length = l.length + r.length + 1:=by simp; omega
   refine yS kd fun m1 m2 m3 m4=>?_
   rw [zOg,hkl] at m1
   refine yD (b:=b) (x:=kd) ?_
   refine s_f ?_ (by simp; omega)
   refine yD (b:=b) (x:=kd) ?_
   refine vZ (s:=kd) (i:=l.length) ?_ (by simp)
   refine zCB (s:=kd) (x:=ptr q) (by simp) ?_
   refine zX (qN G d (l.map Prod.fst++q::r.map Prod.snd)) ?_
   refine zHr ?_
   have hs1:=List.pairwise_append.1 hsM
   have hs2:=List.pairwise_append.1 hs1.1
   have hpre:=zOh ok l hs2.1 hA'
   have hpost:=zKr ok r hs1.2.1 hC'
   refine zC (Δ:=yE G d 2 q.1 q.2::zAl G o (G.z0 ok.vz)::qN G d (l.map Prod.fst++r.map Prod.snd)::y7 G b s kd::vC G s (ps.map Prod.fst)::vD G kd ((l.map Prod.fst++q::r.map Prod.snd).map ptr)::W) ?_
   refine hk _ (⟨d,2,q.1,q.2,qN G d (l.map Prod.fst++r.map Prod.snd)::y7 G b s kd::vC G s (ps.map Prod.fst)::vD G kd ((l.map Prod.fst++q::r.map Prod.snd).map ptr)::W,A++zCN l,zBD r++C⟩:At G) ⟨rfl,?_,fun x hx=>?_,fun x hx=>?_,fun k' hk'=>?_⟩ (Nat.lt_succ_self _)
   ·rw [hL]; simp
   ·rcases List.mem_append.1 hx with hx | hx
    ·exact hA x hx
    ·exact hpre x hx
   ·rcases List.mem_append.1 hx with hx | hx
    ·exact hpost x hx
    ·exact hC x hx
   ·refine zC6 ?_
    rw [← hK]
    refine zC (Δ:=y7 G b s kd::vC G s (ps.map Prod.fst)::vD G kd ((q0::ps.map Prod.snd).map ptr)::qN G d (q0::ps.map Prod.snd)::W) ?_
    exact zGX hne hl (cl k' hk')
end
end Bt
end
end Go.Sep
namespace Go.Proofs.YtdemfamgieonbaaGreat
section
open Go Go.Sep
set_option maxHeartbeats 4000000
attribute [local irreducible] G Gp Cx Tx Ex Sx Dx Ox Ax Lx Rx Fx Bx Bj Al Do Ld LdN St StN New zK Ar DoU Rd Rd2 Pu Cd Ite Fv vW jU jI yH zAZ zDH zDQ zDl Ext Dead Dr yZ Sv LdS vG RdS zDw Nn Idx zAz zDk Fld Bld Slc zDx Cat All yN jN jE jV
instance:AT Tryz.prog 331 5:=⟨by kernel_rfl⟩
instance:AT Tryz.prog 87 4:=⟨by kernel_rfl⟩
instance:CB Tryz.prog 164:=⟨by kernel_rfl⟩
instance:CB Tryz.prog 201:=⟨by kernel_rfl⟩
instance:CB Tryz.prog 230:=⟨by kernel_rfl⟩
instance:CB Tryz.prog 232:=⟨by kernel_rfl⟩
instance:CB Tryz.prog 245:=⟨by kernel_rfl⟩
instance:CB Tryz.prog 246:=⟨by kernel_rfl⟩
instance:CB Tryz.prog 247:=⟨by kernel_rfl⟩
instance:CB Tryz.prog 248:=⟨by kernel_rfl⟩
instance:CB Tryz.prog 249:=⟨by kernel_rfl⟩
instance:CB Tryz.prog 250:=⟨by kernel_rfl⟩
instance:CB Tryz.prog 251:=⟨by kernel_rfl⟩
instance:CB Tryz.prog 252:=⟨by kernel_rfl⟩
instance:CB Tryz.prog 253:=⟨by kernel_rfl⟩
instance:CB Tryz.prog 254:=⟨by kernel_rfl⟩
instance:CT Tryz.prog 191:=⟨by kernel_rfl⟩
instance:CT Tryz.prog 256:=⟨by kernel_rfl⟩
instance:CT Tryz.prog 257:=⟨by kernel_rfl⟩
instance:CT Tryz.prog 258:=⟨by kernel_rfl⟩
instance:CT Tryz.prog 3:=⟨by kernel_rfl⟩
instance:CT Tryz.prog 9:=⟨by kernel_rfl⟩
instance:FT Tryz.prog 260 0 0 1:=⟨by kernel_rfl⟩
instance:FT Tryz.prog 260 1 1 1:=⟨by kernel_rfl⟩
instance:FT Tryz.prog 262 0 0 1:=⟨by kernel_rfl⟩
instance:FT Tryz.prog 262 1 1 1:=⟨by kernel_rfl⟩
instance:FT Tryz.prog 331 0 0 1:=⟨by kernel_rfl⟩
instance:FT Tryz.prog 331 1 1 4:=⟨by kernel_rfl⟩
instance:MX Tryz.prog:=⟨mixed⟩
instance:PLT Tryz.prog 260 [(0,1),(1,1)]:=⟨_,Tryz.underlying260,by kernel_rfl⟩
instance:PLT Tryz.prog 262 [(0,1),(1,1)]:=⟨_,Tryz.underlying262,by kernel_rfl⟩
instance:PLT Tryz.prog 331 [(0,1),(1,4)]:=⟨_,Tryz.underlying331,by kernel_rfl⟩
instance:SLT Tryz.prog 257 331 5:=⟨by kernel_rfl⟩
instance:SLT Tryz.prog 258 256 1:=⟨by kernel_rfl⟩
instance:SZ Tryz.prog 256 1:=⟨by kernel_rfl⟩
instance:SZ Tryz.prog 257 1:=⟨by kernel_rfl⟩
instance:SZ Tryz.prog 258 1:=⟨by kernel_rfl⟩
instance:SZ Tryz.prog 3 1:=⟨by kernel_rfl⟩
instance:SZ Tryz.prog 331 5:=⟨by kernel_rfl⟩
instance:SZ Tryz.prog 87 4:=⟨by kernel_rfl⟩
instance:UN Tryz.prog 332 (.pointer 9):=⟨Tryz.underlying332⟩
instance:UN Tryz.prog 360 (.pointer 331):=⟨Tryz.underlying360⟩
instance:ZT Tryz.prog 256 (.pointer none):=⟨Tryz.t256,by kernel_rfl,by kernel_rfl⟩
instance:ZT Tryz.prog 260 (.agg #[(Sl.val ⟨none,0,0⟩),(Sl.val ⟨none,0,0⟩)]):=⟨Tryz.t260,by kernel_rfl,by kernel_rfl⟩
instance:ZT Tryz.prog 262 (.agg #[(.pointer none),(.int .i64 0)]):=⟨Tryz.t262,by kernel_rfl,by kernel_rfl⟩
instance:ZT Tryz.prog 331 (.agg #[(.string ⟨#[]⟩),(.bool false),(Sl.val ⟨none,0,0⟩),(.int .i64 0),(.int .u64 0)]):=⟨Tryz.t331,by kernel_rfl,by kernel_rfl⟩
instance:ZT Tryz.prog 87 (.agg #[(.bool false),(Sl.val ⟨none,0,0⟩),(.int .i64 0),(.int .u64 0)]):=⟨Tryz.t87,by kernel_rfl,by kernel_rfl⟩
def vN  (Q:Pt→K): K :=
 New 260 #[Sl.val ⟨none,0,0⟩,Sl.val ⟨none,0,0⟩] fun a=>
 New 262 #[(.pointer (some a)),.int .i64 0] fun b=>
 Q (some b)
theorem zDa (Q w) (h:vN  Q w):vN.call  Q w:=by
 exact zO 5 h Tryz.func85
def xP (b:Pt) (Q:Value→K): K :=
 New 191 #[.pointer b] fun a=>
 Q (.func (.func 163) #[] #[(.pointer (some a))])
theorem zCO (a Q w) (h:xP a Q w):xP.call a Q w:=by
 exact zO 4 h Tryz.func109
def yj.b1 (Q:Av→Bool→K) (s:Pt→K) (t:ByteArray) (a:Addr) (c:Pt): K :=
 yR.call c t fun d g=>
 Ite g
  (Nn c fun i=>
  Ld i Sl.val fun j=>
  Idx j d 5 fun k=>
  LdN (k.add 1) 4 fun l=>
  StN a 4 l<|
  LdN a 4 fun b=>
  Q b true)
  (Nn c fun f=>
  Ld (f.add 1) Sl.val fun m=>
  Ite (decide ((m.n:Int) = 0))
   (LdN a 4 fun o=>
   StN a 4 o<|
   LdN a 4 fun b=>
   Q b false)
   (Ld (f.add 1) Sl.val fun p=>
   Idx p d 1 fun q=>
   Ld q Value.pointer fun r=>
   s r))
def yj (d:Pt) (f:ByteArray) (Q:Av→Bool→K): K :=
 New 87 #[.bool false,Sl.val ⟨none,0,0⟩,.int .i64 0,.int .u64 0] fun a=>
 Nn d fun b=>
 Ld b Value.pointer fun c=>
 yN (α:=Pt) (fun X x=>yj.b1 Q X f a x) c
theorem zCP (a b Q w) (h:yj a b Q w):yj.call a b Q w:=by
 have:∀ c d,LH 2 (fun x:Pt=>[(1,.string c),(4,(.pointer (some d))),(6,.pointer x)]) (fun X x=>yj.b1 Q X c d x):=fun _ _=>⟨⟩
 exact zO 42 h Tryz.func161
def ug (d:Value) (f:Addr) (Q:K): K :=
 Ld f Value.pointer fun a=>
 Nn a fun b=>
 Ld b Value.pointer fun c=>
 zF.call c none d fun g=>
 Q
theorem zB2 (a b Q w) (h:ug a b Q w):ug.call a b Q w:=by
 exact zO 9 h Tryz.func163
def zF.s4 (Q:Bool→K) (b:Pt→Int→K) (f:Addr) (g:Value) (c:Int) (d:Bool): K :=
 Ite d
  (Q false)
  (Ar (IntKind.wrap .i64 (c + 1)) fun a=>
  b none a)
def zF.s3 (Q:Bool→K) (f:Pt→Int→K) (a:Addr) (d:Value) (b:Int) (p:Bool): K :=
 Ite p
  (Q false)
  (Dr<|
  Ld a Sl.val fun g=>
  Ite (decide (b < (g.n:Int)))
   (Ld a Sl.val fun i=>
   Idx i b 5 fun j=>
   Ld j Value.string fun k=>
   Ld a Sl.val fun l=>
   Idx l b 5 fun m=>
   LdN (m.add 1) 4 fun o=>
   jU Tryz.prog d [.string k,.agg o] <| yH (fun (c:Bool)=>Value.bool c) fun c=>
   zF.s4 Q f a d b (!c))
   (zF.s4 Q f a d b false))
def zF.b2 (Q:Bool→K) (d:Pt→Int→K) (m:Pt) (c:Value) (o:Pt) (b:Int): K :=
 Nn m fun a=>
 Ld a Sl.val fun f=>
 Ite (decide (b ≤ (f.n:Int)))
  (Ld (a.add 1) Sl.val fun g=>
  Ite (decide (b < (g.n:Int)))
   (Ld (a.add 1) Sl.val fun i=>
   Idx i b 1 fun j=>
   Ld j Value.pointer fun k=>
   zF.call k o c fun l=>
   zF.s3 Q d a c b (!l))
   (zF.s3 Q d a c b false))
  (Q true)
def zF.s1 (Q:Bool→K) (c d:Pt) (f:Value) (g:Int): K :=
 yN (α:=Pt×Int) (fun X x=>zF.b2 Q (fun a b=>X (a,b)) c f x.1 x.2) (d,g)
def zF (a b:Pt) (d:Value) (Q:Bool→K): K :=
 Ite (!(b).isNone)
  (Nn b fun c=>
  Ld c Value.string fun f=>
  yR.call a f fun g i=>
  zF.s1 Q a (some c) d g)
  (zF.s1 Q a b d 0)
theorem zCC (q r t Q w) (h:zF q r t Q w):zF.call q r t Q w:=by
 have:∀ (d:(Pt×Int)→K),XH 4 d→JH 10 fun D=>∃ f g j,D [(0,(.pointer (some f))),(2,g),(7,.int .i64 j)] (fun C=>∀ u,C [(0,(.pointer (some f))),(1,.pointer none),(2,g),(7,.int .i64 j),(74,.bool u)] (zF.s4 Q (fun b c=>d (b,c)) f g j u)):=by intros; exact ⟨fun _ ⟨_,_,_,h⟩=>⟨_,_,h⟩⟩
 have:DH 9 1 [25] (.s [0,1,2,3,4,5,6,7] (.i (.s [8,9,10,11,13,17,18,19,21,12,14,15,16,20,22,23,24] (.a [(25,0,.s [26,27] .e)])) (.s [8,9,10,11,12,13,14,15,16,17,18,19,20,21,22,23,24,25,26,27] .e))):=⟨⟩
 have:∀ (d:(Pt×Int)→K),XH 4 d→JH 7 fun D=>∃ k l m,D [(0,(.pointer (some k))),(2,l),(7,.int .i64 m)] (fun C=>∀ v,C [(0,(.pointer (some k))),(2,l),(7,.int .i64 m),(46,.bool v)] (zF.s3 Q (fun b c=>d (b,c)) k l m v)):=by intros; exact ⟨fun _ ⟨_,_,_,h⟩=>⟨_,_,h⟩⟩
 have:∀ y z,LH 4 (fun x:Pt×Int=>[(0,.pointer y),(1,.pointer x.1),(2,z),(7,.int .i64 x.2)]) (fun X x=>zF.b2 Q (fun b c=>X (b,c)) y z x.1 x.2):=fun _ _=>⟨⟩
 have:JH 4 fun D=>∃ n o p,D [(0,.pointer n),(1,.pointer o),(2,p)] (fun C=>∀ aa,C [(0,.pointer n),(1,.pointer o),(2,p),(7,.int .i64 aa)] (zF.s1 Q n o p aa)):=⟨fun _ ⟨_,_,_,h⟩=>⟨_,_,h⟩⟩
 exact zO 75 h Tryz.func164
def yR (f:Pt) (g:ByteArray) (Q:Int→Bool→K): K :=
 Nn f fun a=>
 Ld a Sl.val fun b=>
 zA.call b g (.func (.func 231) #[] #[]) fun c d=>
 Q c d
theorem zBq (a b Q w) (h:yR a b Q w):yR.call a b Q w:=by
 exact zO 14 h Tryz.func201
def xg (d:Av) (f:ByteArray) (Q:Int→K): K :=
 New 331 d fun a=>
 Ld a Value.string fun b=>
 jT.call b f fun c=>
 Q c
theorem zBZ (a b Q w) (h:xg a b Q w):xg.call a b Q w:=by
 exact zO 9 h Tryz.func231
def zI.s2 (Q:Av→Bool→K) (a:Addr) (d:Bool): K :=
 LdN a 4 fun b=>
 StN a 4 b<|
 LdN a 4 fun c=>
 Q c d
def zI.s1 (Q:Av→Bool→K) (b c:Addr) (a:Bool): K :=
 Ite a
  (Ld (b.add 1) (Value.int .i64) fun d=>
  Ar (IntKind.wrap .i64 (d - 1)) fun f=>
  St (b.add 1) (.int .i64 f)<|
  zI.s2 Q c a)
  (zI.s2 Q c a)
def zI.s3 (Q:Av→Bool→K) (a b:Addr) (c k:Bool): K :=
 Ite k
  (Ld a Value.pointer fun d=>
  Nn d fun f=>
  Ld (f.add 1) Sl.val fun g=>
  Idx g 0 1 fun i=>
  Ld i Value.pointer fun j=>
  St a (.pointer j)<|
  zI.s1 Q a b c)
  (zI.s1 Q a b c)
def zI (o:Pt) (p:ByteArray) (Q:Av→Bool→K): K :=
 New 87 #[.bool false,Sl.val ⟨none,0,0⟩,.int .i64 0,.int .u64 0] fun b=>
 Nn o fun a=>
 Ld a Value.pointer fun d=>
 zi.call d p fun f c=>
 StN b 4 f<|
 Ld a Value.pointer fun g=>
 Nn g fun i=>
 Ld i Sl.val fun j=>
 Ite (decide ((j.n:Int) = 0))
  (Ld a Value.pointer fun k=>
  Nn k fun l=>
  Ld (l.add 1) Sl.val fun m=>
  zI.s3 Q a b c (decide ((m.n:Int) = 1)))
  (zI.s3 Q a b c false)
theorem zBr (g i Q w) (h:zI g i Q w):zI.call g i Q w:=by
 have:JH 6 fun D=>∃ a,D [(4,(.pointer (some a)))] (fun C=>∀ j,C [(4,(.pointer (some a))),(5,.bool j)] (zI.s2 Q a j)):=⟨fun _ ⟨_,h⟩=>⟨_,_,h⟩⟩
 have:JH 4 fun D=>∃ b c,D [(0,(.pointer (some b))),(4,(.pointer (some c)))] (fun C=>∀ k,C [(0,(.pointer (some b))),(4,(.pointer (some c))),(5,.bool k)] (zI.s1 Q b c k)):=⟨fun _ ⟨_,_,h⟩=>⟨_,_,h⟩⟩
 have:JH 3 fun D=>∃ d f,D [(0,(.pointer (some d))),(4,(.pointer (some f)))] (fun C=>∀ l m,C [(0,(.pointer (some d))),(4,(.pointer (some f))),(5,.bool l),(34,.bool m)] (zI.s3 Q d f l m)):=⟨fun _ ⟨_,_,h⟩=>⟨_,_,h⟩⟩
 exact zO 57 h Tryz.func242
def zJ.s3 (Q:Av→Bool→K) (a d:Addr) (f:Bool): K :=
 LdN d 4 fun b=>
 StN a 4 b<|
 LdN a 4 fun c=>
 Q c f
def zJ.s2 (Q:Av→Bool→K) (i:Pt) (c d:Addr) (a:Bool): K :=
 Ite (!a)
  (Nn i fun b=>
  Ld (b.add 1) (Value.int .i64) fun f=>
  Ar (IntKind.wrap .i64 (f + 1)) fun g=>
  St (b.add 1) (.int .i64 g)<|
  zJ.s3 Q c d a)
  (zJ.s3 Q c d a)
def zJ.s1 (Q:Av→Bool→K) (n:Pt) (g j:Addr) (k:Bool) (o p:Pt): K :=
 Ite (!(o).isNone)
  (Dr <| yZ fun S=>
  Nn o fun q=>
  Nn n fun a=>
  vG S q 5 fun l=>
  LdS S a Value.pointer fun m=>
  All [
   (Bld #[(.string ⟨#[]⟩),.bool false,Sl.val ⟨none,0,0⟩,.int .i64 0,.int .u64 0] (fun i=>some (i * 5,5)) [(0,.agg l)] fun b=>
   New 331 b fun c=>
   Sv S<|
   New 256 #[.pointer m,.pointer p] fun d=>
   Sv S<|
   New 260 #[(Sl.val (Sl.mk (some c) 1 1)),(Sl.val (Sl.mk (some d) 2 2))] fun f=>
   St a (.pointer (some f))<|
   zJ.s2 Q (some a) g j k),
   (New 256 #[.pointer m,.pointer p] fun d=>
   Sv S<|
   Bld #[(.string ⟨#[]⟩),.bool false,Sl.val ⟨none,0,0⟩,.int .i64 0,.int .u64 0] (fun i=>some (i * 5,5)) [(0,.agg l)] fun b=>
   New 331 b fun c=>
   Sv S<|
   New 260 #[(Sl.val (Sl.mk (some c) 1 1)),(Sl.val (Sl.mk (some d) 2 2))] fun f=>
   St a (.pointer (some f))<|
   zJ.s2 Q (some a) g j k)
   ])
  (zJ.s2 Q n g j k)
def zJ (n:Pt) (o:ByteArray) (p:Av) (Q:Av→Bool→K): K :=
 New 87 p fun l=>
 New 87 #[.bool false,Sl.val ⟨none,0,0⟩,.int .i64 0,.int .u64 0] fun i=>
 Dr <| yZ fun S=>
 Nn n fun b=>
 LdS S b Value.pointer fun j=>
 vG S l 4 fun m=>
 Bld #[(.string ⟨#[]⟩),.bool false,Sl.val ⟨none,0,0⟩,.int .i64 0,.int .u64 0] ([(0,1),(1,4)][·]?) [(0,.string o),(1,.agg m)] fun k=>
 All [
  (zU.call j k fun c d f g=>
  New 87 #[.bool false,Sl.val ⟨none,0,0⟩,.int .i64 0,.int .u64 0] fun a=>
  StN a 4 c<|
  zJ.s1 Q (some b) i a d f g),
  (New 87 #[.bool false,Sl.val ⟨none,0,0⟩,.int .i64 0,.int .u64 0] fun a=>
  Sv S<|
  zU.call j k fun c d f g=>
  StN a 4 c<|
  zJ.s1 Q (some b) i a d f g)
  ]
theorem zCQ (k l m Q w) (h:zJ k l m Q w):zJ.call k l m Q w:=by
 have:JH 6 fun D=>∃ b c,D [(6,(.pointer (some b))),(8,(.pointer (some c)))] (fun C=>∀ n,C [(6,(.pointer (some b))),(8,(.pointer (some c))),(9,.bool n)] (zJ.s3 Q b c n)):=⟨fun _ ⟨_,_,h⟩=>⟨_,_,h⟩⟩
 have:JH 4 fun D=>∃ d f g,D [(0,.pointer d),(6,(.pointer (some f))),(8,(.pointer (some g)))] (fun C=>∀ o,C [(0,.pointer d),(6,(.pointer (some f))),(8,(.pointer (some g))),(9,.bool o)] (zJ.s2 Q d f g o)):=⟨fun _ ⟨_,_,_,h⟩=>⟨_,_,h⟩⟩
 have:DH 3 2 [12,15] (.s [0,1,2,5,6,7,9,3,8] (.a [(4,1,.a [(10,1,.s [11] (.a [(12,0,.s [13,14] (.a [(15,0,.e)]))]))]),(10,1,.a [(4,1,.s [11] (.a [(12,0,.s [13,14] (.a [(15,0,.e)]))]))])])):=⟨⟩
 have:JH 2 fun D=>∃ i j,D [(0,.pointer i),(6,(.pointer (some j)))] (fun C=>∀ p q r t,C [(0,.pointer i),(6,(.pointer (some j))),(8,(.pointer (some p))),(9,.bool q),(10,.pointer r),(11,.pointer t)] (zJ.s1 Q i j p q r t)):=⟨fun _ ⟨_,_,h⟩=>⟨_,_,h⟩⟩
 have:DH 1 2 [7,14] (.s [0,1,2,4,3,5,6] (.a [(7,0,.s [8,9,10,11,12] (.a [(13,0,.a [(14,0,.s [15,16,17] .e)])])),(13,1,.a [(7,0,.s [8,9,10,11,12] (.a [(14,0,.s [15,16,17] .e)]))])])):=⟨⟩
 exact zO 53 h Tryz.func243
def zi.s1 (Q:Av→Bool→K) (a:Addr) (d:Bool): K :=
 LdN a 4 fun b=>
 StN a 4 b<|
 LdN a 4 fun c=>
 Q c d
def zi.s2 (Q:Av→Bool→K) (i:Pt) (aj:ByteArray) (a:Addr) (b:Int) (ak al:Bool): K :=
 Ite al
  (Nn i fun d=>
  Ld d Sl.val fun j=>
  Idx j b 5 fun k=>
  LdN (k.add 1) 4 fun l=>
  StN a 4 l<|
  Ld d Sl.val fun m=>
  Ar (IntKind.wrap .i64 (b + 1)) fun o=>
  zM.call m b o fun p=>
  St d (Sl.val p)<|
  LdN a 4 fun q=>
  StN a 4 q<|
  LdN a 4 fun f=>
  Q f true)
  (Ite ak
   (Nn i fun c=>
   Ld c Sl.val fun r=>
   Idx r b 5 fun s=>
   LdN (s.add 1) 4 fun t=>
   StN a 4 t<|
   Dr <| yZ fun S=>
   LdS S c Sl.val fun u=>
   LdS S (c.add 1) Sl.val fun v=>
   Idx v b 1 fun x=>
   LdS S x Value.pointer fun y=>
   qZ.call y fun z=>
   Sv S<|
   Idx u b 5 fun aa=>
   StN aa 5 z<|
   za.call (some c) b<|
   LdN a 4 fun ab=>
   StN a 4 ab<|
   LdN a 4 fun f=>
   Q f true)
   (Nn i fun g=>
   Ld (g.add 1) Sl.val fun ac=>
   Ite (decide ((0:Int) < (ac.n:Int)))
    (Ld (g.add 1) Sl.val fun ad=>
    Idx ad b 1 fun ae=>
    Ld ae Value.pointer fun af=>
    zi.call af aj fun ag ah=>
    StN a 4 ag<|
    za.call (some g) b<|
    zi.s1 Q a ah)
    (zi.s1 Q a false)))
def zi (a:Pt) (b:ByteArray) (Q:Av→Bool→K): K :=
 New 87 #[.bool false,Sl.val ⟨none,0,0⟩,.int .i64 0,.int .u64 0] fun c=>
 yR.call a b fun d g=>
 Ite g
  (Nn a fun f=>
  Ld (f.add 1) Sl.val fun i=>
  zi.s2 Q (some f) b c d true (decide ((i.n:Int) = 0)))
  (zi.s2 Q a b c d false false)
theorem zCD (i j Q w) (h:zi i j Q w):zi.call i j Q w:=by
 have:JH 14 fun D=>∃ b,D [(4,(.pointer (some b)))] (fun C=>∀ k,C [(4,(.pointer (some b))),(5,.bool k)] (zi.s1 Q b k)):=⟨fun _ ⟨_,h⟩=>⟨_,_,h⟩⟩
 have:DH 8 2 [14] (.s [0,1,2,4,5,6,7,9,3,8,10,11] (.a [(12,1,.s [13] (.a [(14,0,.e)]))])):=⟨⟩
 have:JH 3 fun D=>∃ c d f g,D [(0,.pointer c),(1,.string d),(4,(.pointer (some f))),(6,.int .i64 g)] (fun C=>∀ l m,C [(0,.pointer c),(1,.string d),(4,(.pointer (some f))),(5,.bool false),(6,.int .i64 g),(7,.bool l),(14,.bool m)] (zi.s2 Q c d f g l m)):=⟨fun _ ⟨_,_,_,_,h⟩=>⟨_,_,h⟩⟩
 exact zO 96 h Tryz.func245
def zU.s2 (Q:Av→Bool→Pt→Pt→K) (a:Addr) (d:Bool) (f g:Addr): K :=
 LdN a 4 fun b=>
 StN a 4 b<|
 LdN a 4 fun c=>
 Q c d (some g) (some f)
def zU.s1 (Q:Av→Bool→Pt→Pt→K) (ab:Pt) (b:Addr) (j:Bool): K :=
 Nn ab fun a=>
 Ld a Sl.val fun k=>
 Ite (decide ((k.n:Int) ≤ 5))
  (LdN b 4 fun l=>
  StN b 4 l<|
  LdN b 4 fun m=>
  Q m j none none)
  (Ld a Sl.val fun o=>
  Idx o 2 5 fun p=>
  LdN p 5 fun q=>
  New 331 #[(.string ⟨#[]⟩),.bool false,Sl.val ⟨none,0,0⟩,.int .i64 0,.int .u64 0] fun d=>
  StN d 5 q<|
  Ld a Sl.val fun f=>
  Slc f 3 (f.n:Int) (f.c:Int) 5 fun r=>
  zu.call r fun s=>
  New 260 #[Sl.val s,Sl.val ⟨none,0,0⟩] fun g=>
  Ld a Sl.val fun t=>
  Slc t 0 2 2 5 fun u=>
  St a (Sl.val u)<|
  Ld (a.add 1) Sl.val fun v=>
  Ite (decide ((0:Int) < (v.n:Int)))
   (Ld (a.add 1) Sl.val fun i=>
   Slc i 3 (i.n:Int) (i.c:Int) 1 fun x=>
   zw.call x fun y=>
   St (g.add 1) (Sl.val y)<|
   Ld (a.add 1) Sl.val fun z=>
   Slc z 0 3 3 1 fun aa=>
   St (a.add 1) (Sl.val aa)<|
   zU.s2 Q b j g d)
   (zU.s2 Q b j g d))
def zU (f:Pt) (aw:Av) (Q:Av→Bool→Pt→Pt→K): K :=
 New 331 aw fun d=>
 New 87 #[.bool false,Sl.val ⟨none,0,0⟩,.int .i64 0,.int .u64 0] fun b=>
 Ld d Value.string fun l=>
 yR.call f l fun c m=>
 Ite m
  (Nn f fun g=>
  Ld g Sl.val fun o=>
  Idx o c 5 fun p=>
  LdN (p.add 1) 4 fun q=>
  StN b 4 q<|
  Dr<|
  Ld g Sl.val fun r=>
  LdN (d.add 1) 4 fun s=>
  Idx r c 5 fun t=>
  StN (t.add 1) 4 s<|
  LdN b 4 fun u=>
  StN b 4 u<|
  LdN b 4 fun v=>
  Q v true none none)
  (Nn f fun a=>
  Ld (a.add 1) Sl.val fun x=>
  Ite (decide ((x.n:Int) = 0))
   (Dr <| yZ fun S=>
   LdS S a Sl.val fun y=>
   vG S d 5 fun z=>
   Bld #[(.string ⟨#[]⟩),.bool false,Sl.val ⟨none,0,0⟩,.int .i64 0,.int .u64 0] (fun i=>some (i * 5,5)) [(0,.agg z)] fun aa=>
   New 331 aa fun ab=>
   Sv S<|
   zN.call y c (Sl.mk (some ab) 1 1) fun ac=>
   St a (Sl.val ac)<|
   zU.s1 Q (some a) b false)
   (Dr<|
   Ld (a.add 1) Sl.val fun ad=>
   Idx ad c 1 fun ae=>
   Ld ae Value.pointer fun af=>
   LdN d 5 fun ag=>
   zU.call af ag fun ah j k aj=>
   StN b 4 ah<|
   Ite (!(k).isNone)
    (Dr <| yZ fun S=>
    Nn k fun ak=>
    LdS S a Sl.val fun al=>
    vG S ak 5 fun am=>
    Bld #[(.string ⟨#[]⟩),.bool false,Sl.val ⟨none,0,0⟩,.int .i64 0,.int .u64 0] (fun i=>some (i * 5,5)) [(0,.agg am)] fun an=>
    New 331 an fun ao=>
    Sv S<|
    zN.call al c (Sl.mk (some ao) 1 1) fun ap=>
    St a (Sl.val ap)<|
    Ld (a.add 1) Sl.val fun aq=>
    Ar (IntKind.wrap .i64 (c + 1)) fun ar=>
    New 256 #[.pointer aj] fun au=>
    zY.call aq ar (Sl.mk (some au) 1 1) fun av=>
    St (a.add 1) (Sl.val av)<|
    zU.s1 Q (some a) b j)
    (zU.s1 Q (some a) b j)))
theorem zCR (i j Q w) (h:zU i j Q w):zU.call i j Q w:=by
 have:JH 22 fun D=>∃ b c d,D [(4,(.pointer (some b))),(7,(.pointer (some c))),(12,(.pointer (some d)))] (fun C=>∀ k,C [(4,(.pointer (some b))),(5,.bool k),(7,(.pointer (some c))),(12,(.pointer (some d)))] (zU.s2 Q b k c d)):=⟨fun _ ⟨_,_,_,h⟩=>⟨_,_,h⟩⟩
 have:JH 14 fun D=>∃ f g,D [(0,.pointer f),(4,(.pointer (some g)))] (fun C=>∀ l,C [(0,.pointer f),(4,(.pointer (some g))),(5,.bool l)] (zU.s1 Q f g l)):=⟨fun _ ⟨_,_,h⟩=>⟨_,_,h⟩⟩
 have:DH 10 1 [9] (.s [0,1,2,4,5,3,6,7,8] (.a [(9,0,.e)])):=⟨⟩
 have:DH 13 2 [8,11] (.s [0,1,2,3,5,4,6] (.a [(7,1,.a [(8,0,.s [9,10] (.a [(11,0,.e)]))])])):=⟨⟩
 have:DH 6 2 [10,13] (.s [0,1,2,3,5,6,7,4,8] (.a [(9,1,.a [(10,0,.s [11,12] (.a [(13,0,.e)]))])])):=⟨⟩
 have:DH 4 1 [8,14] (.s [0,1,2,4,3,5,6,7] (.a [(8,0,.s [9,10,11,12,13] (.a [(14,0,.s [15,16,17] .e)]))])):=⟨⟩
 exact zO 156 h Tryz.func246
def qZ (ab:Pt) (Q:Av→K): K :=
 New 331 #[(.string ⟨#[]⟩),.bool false,Sl.val ⟨none,0,0⟩,.int .i64 0,.int .u64 0] fun b=>
 Nn ab fun a=>
 Ld (a.add 1) Sl.val fun k=>
 Ar (IntKind.wrap .i64 ((k.n:Int) - 1)) fun d=>
 Ite (decide ((0:Int) ≤ d))
  (Ld (a.add 1) Sl.val fun l=>
  Idx l d 1 fun m=>
  Ld m Value.pointer fun o=>
  qZ.call o fun p=>
  New 331 #[(.string ⟨#[]⟩),.bool false,Sl.val ⟨none,0,0⟩,.int .i64 0,.int .u64 0] fun g=>
  StN g 5 p<|
  za.call (some a) d<|
  LdN g 5 fun q=>
  StN b 5 q<|
  LdN b 5 fun f=>
  Q f)
  (Dr <| yZ fun S=>
  LdS S a Sl.val fun r=>
  LdS S a Sl.val fun s=>
  Ar (IntKind.wrap .i64 ((s.n:Int) - 1)) fun t=>
  Idx r t 5 fun u=>
  vG S u 5 fun v=>
  New 331 #[(.string ⟨#[]⟩),.bool false,Sl.val ⟨none,0,0⟩,.int .i64 0,.int .u64 0] fun i=>
  Sv S<|
  StN i 5 v<|
  Dr<|
  Ld a Sl.val fun j=>
  Ld a Sl.val fun x=>
  Ar (IntKind.wrap .i64 ((x.n:Int) - 1)) fun y=>
  Slc j 0 y (j.c:Int) 5 fun z=>
  St a (Sl.val z)<|
  LdN i 5 fun aa=>
  StN b 5 aa<|
  LdN b 5 fun f=>
  Q f)
theorem zCE (b Q w) (h:qZ b Q w):qZ.call b Q w:=by
 have:DH 7 1 [14] (.s [0,1,2,3,5,6,7,4,8,9,10,11,12,13] (.a [(14,0,.e)])):=⟨⟩
 have:DH 6 2 [13] (.s [0,1,2,4,5,6,3,7,8,9,10,11] (.a [(12,1,.a [(13,0,.e)])])):=⟨⟩
 exact zO 53 h Tryz.func248
def za.s2 (Q:K) (a:Addr) (d:Int) (g:Addr) (bg:Bool): K :=
 Ite bg
  (Ld (a.add 1) Sl.val fun k=>
  Ar (IntKind.wrap .i64 (d + 1)) fun l=>
  Idx k l 1 fun m=>
  Ld m Value.pointer fun o=>
  Dr <| yZ fun S=>
  LdS S g Sl.val fun p=>
  LdS S a Sl.val fun q=>
  Idx q d 5 fun r=>
  vG S r 5 fun s=>
  Bld #[(.string ⟨#[]⟩),.bool false,Sl.val ⟨none,0,0⟩,.int .i64 0,.int .u64 0] (fun i=>some (i * 5,5)) [(0,.agg s)] fun t=>
  New 331 t fun u=>
  Sv S<|
  Do Tryz.prog (Builtin.append_ #[257,257] 257 #[Sl.val p,(Sl.val (Sl.mk (some u) 1 1))]) Sl.val fun v=>
  St g (Sl.val v)<|
  Dr<|
  Nn o fun b=>
  Ld a Sl.val fun x=>
  Ld b Sl.val fun y=>
  Idx y 0 5 fun z=>
  LdN z 5 fun aa=>
  Idx x d 5 fun ab=>
  StN ab 5 aa<|
  Ld b Sl.val fun ac=>
  zM.call ac 0 1 fun ad=>
  St b (Sl.val ad)<|
  Ld (b.add 1) Sl.val fun ae=>
  Ite (decide ((0:Int) < (ae.n:Int)))
   (Dr <| yZ fun S=>
   LdS S (g.add 1) Sl.val fun af=>
   LdS S (b.add 1) Sl.val fun ag=>
   Idx ag 0 1 fun ah=>
   LdS S ah Value.pointer fun aj=>
   New 256 #[.pointer aj] fun ak=>
   Sv S<|
   Do Tryz.prog (Builtin.append_ #[258,258] 258 #[Sl.val af,(Sl.val (Sl.mk (some ak) 1 1))]) Sl.val fun al=>
   St (g.add 1) (Sl.val al)<|
   Ld (b.add 1) Sl.val fun am=>
   zZ.call am 0 1 fun an=>
   St (b.add 1) (Sl.val an)<|
   Q)
   (Q))
  (Ar (if (1:Int) > d then 1 else d) fun c=>
  Dr<|
  Ld (a.add 1) Sl.val fun ao=>
  Ar (IntKind.wrap .i64 (c - 1)) fun ap=>
  Idx ao ap 1 fun aq=>
  Ld aq Value.pointer fun ar=>
  Ld (a.add 1) Sl.val fun au=>
  Idx au c 1 fun av=>
  Ld av Value.pointer fun aw=>
  Dr <| yZ fun S=>
  Nn ar fun f=>
  Ar (IntKind.wrap .i64 (c - 1)) fun ax=>
  Nn aw fun j=>
  LdS S f Sl.val fun ay=>
  LdS S a Sl.val fun az=>
  Idx az ax 5 fun a0=>
  vG S a0 5 fun a1=>
  LdS S j Sl.val fun a2=>
  Bld #[(.string ⟨#[]⟩),.bool false,Sl.val ⟨none,0,0⟩,.int .i64 0,.int .u64 0] (fun i=>some (i * 5,5)) [(0,.agg a1)] fun a3=>
  New 331 a3 fun a4=>
  Sv S<|
  Do Tryz.prog (Builtin.append_ #[257,257] 257 #[Sl.val ay,(Sl.val (Sl.mk (some a4) 1 1))]) Sl.val fun a5=>
  Sv S<|
  Do Tryz.prog (Builtin.append_ #[257,257] 257 #[Sl.val a5,Sl.val a2]) Sl.val fun a6=>
  St f (Sl.val a6)<|
  Dr<|
  Ld (f.add 1) Sl.val fun a7=>
  Ld (j.add 1) Sl.val fun a8=>
  Do Tryz.prog (Builtin.append_ #[258,258] 258 #[Sl.val a7,Sl.val a8]) Sl.val fun a9=>
  St (f.add 1) (Sl.val a9)<|
  Ld a Sl.val fun ba=>
  Ar (IntKind.wrap .i64 (c - 1)) fun bb=>
  zM.call ba bb c fun bc=>
  St a (Sl.val bc)<|
  Ld (a.add 1) Sl.val fun bd=>
  Ar (IntKind.wrap .i64 (c + 1)) fun be=>
  zZ.call bd c be fun bf=>
  St (a.add 1) (Sl.val bf)<|
  Q)
def za.s1 (Q:K) (b:Addr) (d:Int) (f:Addr) (a2:Bool): K :=
 Ite a2
  (Ld (b.add 1) Sl.val fun l=>
  Ar (IntKind.wrap .i64 (d - 1)) fun m=>
  Idx l m 1 fun o=>
  Ld o Value.pointer fun p=>
  Nn p fun a=>
  Ld a Sl.val fun q=>
  Ar (IntKind.wrap .i64 ((q.n:Int) - 1)) fun g=>
  Dr <| yZ fun S=>
  Ar (IntKind.wrap .i64 (d - 1)) fun r=>
  LdS S f Sl.val fun s=>
  LdS S b Sl.val fun t=>
  Idx t r 5 fun u=>
  vG S u 5 fun v=>
  Bld #[(.string ⟨#[]⟩),.bool false,Sl.val ⟨none,0,0⟩,.int .i64 0,.int .u64 0] (fun i=>some (i * 5,5)) [(0,.agg v)] fun x=>
  New 331 x fun y=>
  Sv S<|
  zN.call s 0 (Sl.mk (some y) 1 1) fun z=>
  St f (Sl.val z)<|
  Dr<|
  Ar (IntKind.wrap .i64 (d - 1)) fun aa=>
  Ld b Sl.val fun ab=>
  Ld a Sl.val fun ac=>
  Idx ac g 5 fun ad=>
  LdN ad 5 fun ae=>
  Idx ab aa 5 fun af=>
  StN af 5 ae<|
  Ld a Sl.val fun j=>
  Slc j 0 g (j.c:Int) 5 fun ag=>
  St a (Sl.val ag)<|
  Ld (a.add 1) Sl.val fun ah=>
  Ite (decide ((0:Int) < (ah.n:Int)))
   (Dr <| yZ fun S=>
   Ar (IntKind.wrap .i64 (g + 1)) fun aj=>
   LdS S (f.add 1) Sl.val fun ak=>
   LdS S (a.add 1) Sl.val fun al=>
   Idx al aj 1 fun am=>
   LdS S am Value.pointer fun an=>
   New 256 #[.pointer an] fun ao=>
   Sv S<|
   zY.call ak 0 (Sl.mk (some ao) 1 1) fun ap=>
   St (f.add 1) (Sl.val ap)<|
   Ld (a.add 1) Sl.val fun k=>
   Ar (IntKind.wrap .i64 (g + 1)) fun aq=>
   Slc k 0 aq (k.c:Int) 1 fun ar=>
   St (a.add 1) (Sl.val ar)<|
   Q)
   (Q))
  (Ar (IntKind.wrap .i64 (d + 1)) fun au=>
  Ld (b.add 1) Sl.val fun av=>
  Ite (decide (au < (av.n:Int)))
   (Ld (b.add 1) Sl.val fun aw=>
   Ar (IntKind.wrap .i64 (d + 1)) fun ax=>
   Idx aw ax 1 fun ay=>
   Ld ay Value.pointer fun az=>
   Nn az fun a0=>
   Ld a0 Sl.val fun a1=>
   za.s2 Q b d f (decide ((2:Int) < (a1.n:Int))))
   (za.s2 Q b d f false))
def za (q:Pt) (a:Int) (Q:K): K :=
 Nn q fun b=>
 Ld (b.add 1) Sl.val fun d=>
 Idx d a 1 fun f=>
 Ld f Value.pointer fun g=>
 Nn g fun c=>
 Ld c Sl.val fun i=>
 Ite (decide ((2:Int) ≤ (i.n:Int)))
  (Q)
  (Ite (decide ((0:Int) < a))
   (Ld (b.add 1) Sl.val fun j=>
   Ar (IntKind.wrap .i64 (a - 1)) fun k=>
   Idx j k 1 fun l=>
   Ld l Value.pointer fun m=>
   Nn m fun o=>
   Ld o Sl.val fun p=>
   za.s1 Q b a c (decide ((2:Int) < (p.n:Int))))
   (za.s1 Q b a c false))
theorem zCF (j k Q w) (h:za j k Q w):za.call j k Q w:=by
 have:DH 15 2 [14,17] (.s [0,1,2,3,5,6,7,9,10,4,8,11,12] (.a [(13,1,.a [(14,0,.s [15,16] (.a [(17,0,.e)]))])])):=⟨⟩
 have:DH 12 1 [14] (.s [0,1,2,4,5,6,7,8,10,3,9,11,12,13] (.a [(14,0,.e)])):=⟨⟩
 have:DH 11 2 [14,17] (.s [0,1,2,3,5,6,7,9,10,4,8,11,12] (.a [(13,1,.a [(14,0,.s [15,16] (.a [(17,0,.e)]))])])):=⟨⟩
 have:DH 23 2 [12,15] (.s [0,1,2,3,5,6,7,4,8,9,10] (.a [(11,1,.a [(12,0,.s [13,14] (.a [(15,0,.e)]))])])):=⟨⟩
 have:DH 20 1 [12] (.s [0,1,2,4,5,6,7,3,8,9,10,11] (.a [(12,0,.e)])):=⟨⟩
 have:DH 19 2 [13,16] (.s [0,1,2,3,5,6,7,9,4,8,10,11] (.a [(12,1,.a [(13,0,.s [14,15] (.a [(16,0,.e)]))])])):=⟨⟩
 have:DH 4 1 [9,12] (.s [0,1,2,3,5,6,7,4,8] (.a [(9,0,.s [10,11] (.a [(12,0,.e)]))])):=⟨⟩
 have:DH 3 2 [19,22] (.s [0,1,2,3,5,6,7,9,10,15,16,17,4,8,11,12,18] (.a [(13,1,.a [(14,1,.a [(19,0,.s [20,21] (.a [(22,0,.e)]))])])])):=⟨⟩
 have:JH 18 fun D=>∃ b c d,D [(0,(.pointer (some b))),(1,.int .i64 c),(4,(.pointer (some d)))] (fun C=>∀ l,C [(0,(.pointer (some b))),(1,.int .i64 c),(4,(.pointer (some d))),(202,.bool l)] (za.s2 Q b c d l)):=⟨fun _ ⟨_,_,_,h⟩=>⟨_,_,h⟩⟩
 have:JH 9 fun D=>∃ f g i,D [(0,(.pointer (some f))),(1,.int .i64 g),(4,(.pointer (some i)))] (fun C=>∀ m,C [(0,(.pointer (some f))),(1,.int .i64 g),(4,(.pointer (some i))),(97,.bool m)] (za.s1 Q f g i m)):=⟨fun _ ⟨_,_,_,h⟩=>⟨_,_,h⟩⟩
 exact zO 299 h Tryz.func249
instance:CB Tryz.prog 256:=⟨by kernel_rfl⟩
instance:CB Tryz.prog 258:=⟨by kernel_rfl⟩
instance:CB Tryz.prog 259:=⟨by kernel_rfl⟩
instance:CB Tryz.prog 260:=⟨by kernel_rfl⟩
instance:CB Tryz.prog 261:=⟨by kernel_rfl⟩
instance:CB Tryz.prog 262:=⟨by kernel_rfl⟩
instance:EXT Tryz.prog 255 (Extern.SlicesOverlaps.overlaps #[257,257] #[4]):=zVC Tryz.func255 (by kernel_rfl) (by kernel_rfl) (by kernel_rfl) (by kernel_rfl)
instance:EXT Tryz.prog 257 (Extern.SlicesOverlaps.overlaps #[258,258] #[4]):=zVC Tryz.func257 (by kernel_rfl) (by kernel_rfl) (by kernel_rfl) (by kernel_rfl)
instance:INT Tryz.prog 204 .u64:=⟨by kernel_rfl⟩
instance:INT Tryz.prog 3 .i64:=⟨by kernel_rfl⟩
instance:UN Tryz.prog 257 (.slice 331):=⟨Tryz.underlying257⟩
instance:UN Tryz.prog 258 (.slice 256):=⟨Tryz.underlying258⟩
def zA.s2 (Q:Int→Bool→K) (c:Int→Int→K) (a:Int) (b:Bool): K :=
 Q a b
def zA.b1 (Q:Int→Bool→K) (b:Int→Int→K) (i:Sl) (j:ByteArray) (k:Value) (t a g:Int): K :=
 Ite (decide (a < g))
  (Ar (IntKind.wrap .i64 (a + g)) fun l=>
  Ar (IntKind.wrap .u64 l) fun m=>
  Cd (0 ≤ (1:Int))<|
  Ar (zGK .u64 m 1) fun n=>
  Ar (IntKind.wrap .i64 n) fun c=>
  Idx i c 5 fun o=>
  LdN o 5 fun p=>
  vW Tryz.prog k [.agg p,.string j] <| yH (fun (d:Int)=>(Value.int .i64) d) fun d=>
  Ite (decide (d < 0))
   (Ar (IntKind.wrap .i64 (c + 1)) fun q=>
   b q g)
   (b a c))
  (Ite (decide (a < t))
   (Idx i a 5 fun r=>
   LdN r 5 fun s=>
   vW Tryz.prog k [.agg s,.string j] <| yH (fun (f:Int)=>(Value.int .i64) f) fun f=>
   zA.s2 Q b a (decide (f = 0)))
   (zA.s2 Q b a false))
def zA (a:Sl) (d:ByteArray) (f:Value) (Q:Int→Bool→K): K :=
 yN (α:=Int×Int) (fun X x=>zA.b1 Q (fun b c=>X (b,c)) a d f (a.n:Int) x.1 x.2) (0,(a.n:Int))
theorem xL (c d f Q w) (h:zA c d f Q w):zA.call c d f Q w:=by
 have:∀ g,XH 3 g→JH 1000008 fun D=>D [] (fun C=>∀ i j,C [(6,.int .i64 i),(7,.bool j)] (zA.s2 Q (fun a b=>g (a,b)) i j)):=by intros; exact ⟨fun _ h=>⟨_,_,h⟩⟩
 have:∀ k l m n,LH 3 (fun x:Int×Int=>[(0,Sl.val k),(1,.string l),(2,m),(8,.int .i64 n),(9,.int .i64 x.1),(10,.int .i64 x.2)]) (fun X x=>zA.b1 Q (fun a b=>X (a,b)) k l m n x.1 x.2):=fun _ _ _ _=>⟨⟩
 exact zO 49 h Tryz.func230
def zM (a:Sl) (d f:Int) (Q:Sl→K): K :=
 Slc a d f (a.n:Int) 5 fun k=>
 Ite (decide (d = f))
  (Q a)
  (Dr<|
  Slc a 0 d (a.c:Int) 5 fun g=>
  Slc a f (a.n:Int) (a.c:Int) 5 fun i=>
  Do Tryz.prog (Builtin.append_ #[257,257] 257 #[Sl.val g,Sl.val i]) Sl.val fun b=>
  Slc b (b.n:Int) (a.n:Int) (b.c:Int) 5 fun j=>
  Do Tryz.prog (Builtin.clear_ #[257] 0 #[Sl.val j]) id fun _=>
  Q b)
theorem vR (b c d Q w) (h:zM b c d Q w):zM.call b c d Q w:=by
 have:DH 5 0 [] (.s [0,1,2,3,4,5] (.a [(6,0,.s [7] .e)])):=⟨⟩
 exact zO 33 h Tryz.func247
def zN (b:Sl) (f:Int) (d:Sl) (Q:Sl→K): K :=
 Slc b f (b.n:Int) (b.c:Int) 5 fun ae=>
 Ite (decide ((d.n:Int) = 0))
  (Q b)
  (Ite (decide (f = (b.n:Int)))
   (Do Tryz.prog (Builtin.append_ #[257,257] 257 #[Sl.val b,Sl.val d]) Sl.val fun i=>
   Q i)
   (Ar (IntKind.wrap .i64 ((b.n:Int) + (d.n:Int))) fun j=>
   Do Tryz.prog (Builtin.cap_ #[257] 3 #[Sl.val b]) (Value.int .i64) fun k=>
   Ite (decide (k < j))
    (Slc b 0 f (b.c:Int) 5 fun l=>
    Ar (IntKind.wrap .i64 ((b.n:Int) + (d.n:Int))) fun m=>
    Ar (IntKind.wrap .i64 (m - f)) fun o=>
    Do Tryz.prog (Builtin.append_ #[257,3] 257 #[Sl.val l,.int .i64 o]) Sl.val fun g=>
    Slc g f (g.n:Int) (g.c:Int) 5 fun p=>
    Do Tryz.prog (Builtin.copy_ #[257,257] 3 #[Sl.val p,Sl.val d]) (Value.int .i64) fun af=>
    Dr<|
    Ar (IntKind.wrap .i64 (f + (d.n:Int))) fun q=>
    Slc g q (g.n:Int) (g.c:Int) 5 fun r=>
    Slc b f (b.n:Int) (b.c:Int) 5 fun s=>
    Do Tryz.prog (Builtin.copy_ #[257,257] 3 #[Sl.val r,Sl.val s]) (Value.int .i64) fun ag=>
    Q g)
    (Ar (IntKind.wrap .i64 ((b.n:Int) + (d.n:Int))) fun t=>
    Slc b 0 t (b.c:Int) 5 fun a=>
    Ar (IntKind.wrap .i64 (f + (d.n:Int))) fun u=>
    Slc a u (a.n:Int) (a.c:Int) 5 fun v=>
    Rd Tryz.prog (Extern.SlicesOverlaps.overlaps #[257,257] #[4] [Sl.val d,Sl.val v].toArray) Value.bool fun x=>
    Ite (!x)
     (Dr<|
     Ar (IntKind.wrap .i64 (f + (d.n:Int))) fun y=>
     Slc a y (a.n:Int) (a.c:Int) 5 fun z=>
     Slc a f (a.n:Int) (a.c:Int) 5 fun aa=>
     Do Tryz.prog (Builtin.copy_ #[257,257] 3 #[Sl.val z,Sl.val aa]) (Value.int .i64) fun ah=>
     Slc a f (a.n:Int) (a.c:Int) 5 fun ab=>
     Do Tryz.prog (Builtin.copy_ #[257,257] 3 #[Sl.val ab,Sl.val d]) (Value.int .i64) fun aj=>
     Q a)
     (Slc a (b.n:Int) (a.n:Int) (a.c:Int) 5 fun ac=>
     Do Tryz.prog (Builtin.copy_ #[257,257] 3 #[Sl.val ac,Sl.val d]) (Value.int .i64) fun ak=>
     Slc a f (a.n:Int) (a.c:Int) 5 fun ad=>
     uJ.call ad (d.n:Int)<|
     Q a))))
theorem vS (b c d Q w) (h:zN b c d Q w):zN.call b c d Q w:=by
 have:DH 11 0 [] (.s [0,1,2,3,4,5,6,7] (.a [(8,0,.e)])):=⟨⟩
 have:DH 15 0 [] (.s [0,1,2,3,4,5,6,7] (.a [(8,0,.e)])):=⟨⟩
 exact zO 95 h Tryz.func250
def zY (b:Sl) (f:Int) (d:Sl) (Q:Sl→K): K :=
 Slc b f (b.n:Int) (b.c:Int) 1 fun ae=>
 Ite (decide ((d.n:Int) = 0))
  (Q b)
  (Ite (decide (f = (b.n:Int)))
   (Do Tryz.prog (Builtin.append_ #[258,258] 258 #[Sl.val b,Sl.val d]) Sl.val fun i=>
   Q i)
   (Ar (IntKind.wrap .i64 ((b.n:Int) + (d.n:Int))) fun j=>
   Do Tryz.prog (Builtin.cap_ #[258] 3 #[Sl.val b]) (Value.int .i64) fun k=>
   Ite (decide (k < j))
    (Slc b 0 f (b.c:Int) 1 fun l=>
    Ar (IntKind.wrap .i64 ((b.n:Int) + (d.n:Int))) fun m=>
    Ar (IntKind.wrap .i64 (m - f)) fun o=>
    Do Tryz.prog (Builtin.append_ #[258,3] 258 #[Sl.val l,.int .i64 o]) Sl.val fun g=>
    Slc g f (g.n:Int) (g.c:Int) 1 fun p=>
    Do Tryz.prog (Builtin.copy_ #[258,258] 3 #[Sl.val p,Sl.val d]) (Value.int .i64) fun af=>
    Dr<|
    Ar (IntKind.wrap .i64 (f + (d.n:Int))) fun q=>
    Slc g q (g.n:Int) (g.c:Int) 1 fun r=>
    Slc b f (b.n:Int) (b.c:Int) 1 fun s=>
    Do Tryz.prog (Builtin.copy_ #[258,258] 3 #[Sl.val r,Sl.val s]) (Value.int .i64) fun ag=>
    Q g)
    (Ar (IntKind.wrap .i64 ((b.n:Int) + (d.n:Int))) fun t=>
    Slc b 0 t (b.c:Int) 1 fun a=>
    Ar (IntKind.wrap .i64 (f + (d.n:Int))) fun u=>
    Slc a u (a.n:Int) (a.c:Int) 1 fun v=>
    Rd Tryz.prog (Extern.SlicesOverlaps.overlaps #[258,258] #[4] [Sl.val d,Sl.val v].toArray) Value.bool fun x=>
    Ite (!x)
     (Dr<|
     Ar (IntKind.wrap .i64 (f + (d.n:Int))) fun y=>
     Slc a y (a.n:Int) (a.c:Int) 1 fun z=>
     Slc a f (a.n:Int) (a.c:Int) 1 fun aa=>
     Do Tryz.prog (Builtin.copy_ #[258,258] 3 #[Sl.val z,Sl.val aa]) (Value.int .i64) fun ah=>
     Slc a f (a.n:Int) (a.c:Int) 1 fun ab=>
     Do Tryz.prog (Builtin.copy_ #[258,258] 3 #[Sl.val ab,Sl.val d]) (Value.int .i64) fun aj=>
     Q a)
     (Slc a (b.n:Int) (a.n:Int) (a.c:Int) 1 fun ac=>
     Do Tryz.prog (Builtin.copy_ #[258,258] 3 #[Sl.val ac,Sl.val d]) (Value.int .i64) fun ak=>
     Slc a f (a.n:Int) (a.c:Int) 1 fun ad=>
     uK.call ad (d.n:Int)<|
     Q a))))
theorem vT (b c d Q w) (h:zY b c d Q w):zY.call b c d Q w:=by
 have:DH 11 0 [] (.s [0,1,2,3,4,5,6,7] (.a [(8,0,.e)])):=⟨⟩
 have:DH 15 0 [] (.s [0,1,2,3,4,5,6,7] (.a [(8,0,.e)])):=⟨⟩
 exact zO 95 h Tryz.func251
def zu (b:Sl) (Q:Sl→K): K :=
 Ite ((b).a.isNone)
  (Q (Sl.mk none 0 0))
  (New 331 #[] fun c=>
  Do Tryz.prog (Builtin.append_ #[257,257] 257 #[(Sl.val (Sl.mk (some c) 0 0)),Sl.val b]) Sl.val fun d=>
  Q d)
theorem vX (a Q w) (h:zu a Q w):zu.call a Q w:=by
 exact zO 8 h Tryz.func252
def zw (b:Sl) (Q:Sl→K): K :=
 Ite ((b).a.isNone)
  (Q (Sl.mk none 0 0))
  (New 256 #[] fun c=>
  Do Tryz.prog (Builtin.append_ #[258,258] 258 #[(Sl.val (Sl.mk (some c) 0 0)),Sl.val b]) Sl.val fun d=>
  Q d)
theorem vY (a Q w) (h:zw a Q w):zw.call a Q w:=by
 exact zO 8 h Tryz.func253
def zZ (a:Sl) (d f:Int) (Q:Sl→K): K :=
 Slc a d f (a.n:Int) 1 fun k=>
 Ite (decide (d = f))
  (Q a)
  (Dr<|
  Slc a 0 d (a.c:Int) 1 fun g=>
  Slc a f (a.n:Int) (a.c:Int) 1 fun i=>
  Do Tryz.prog (Builtin.append_ #[258,258] 258 #[Sl.val g,Sl.val i]) Sl.val fun b=>
  Slc b (b.n:Int) (a.n:Int) (b.c:Int) 1 fun j=>
  Do Tryz.prog (Builtin.clear_ #[258] 0 #[Sl.val j]) id fun _=>
  Q b)
theorem vU (b c d Q w) (h:zZ b c d Q w):zZ.call b c d Q w:=by
 have:DH 5 0 [] (.s [0,1,2,3,4,5] (.a [(6,0,.s [7] .e)])):=⟨⟩
 exact zO 33 h Tryz.func254
def uJ (a:Sl) (c:Int) (Q:K): K :=
 Ar (IntKind.wrap .i64 ((a.n:Int) - c)) fun b=>
 uP.call a b<|
 Q
def uK (a:Sl) (c:Int) (Q:K): K :=
 Ar (IntKind.wrap .i64 ((a.n:Int) - c)) fun b=>
 uQ.call a b<|
 Q
def uP (a:Sl) (b:Int) (Q:K): K :=
 Slc a 0 b (a.c:Int) 5 fun d=>
 zV.call d<|
 Slc a b (a.n:Int) (a.c:Int) 5 fun f=>
 zV.call f<|
 zV.call a<|
 Q
def uQ (a:Sl) (b:Int) (Q:K): K :=
 Slc a 0 b (a.c:Int) 1 fun d=>
 zW.call d<|
 Slc a b (a.n:Int) (a.c:Int) 1 fun f=>
 zW.call f<|
 zW.call a<|
 Q
def zV.b1 (Q:K) (n:Int→Int→K) (a:Sl) (b c:Int): K :=
 Ite (decide (b < c))
  (Dr<|
  Idx a c 5 fun d=>
  Idx a b 5 fun f=>
  LdN d 5 fun g=>
  LdN f 5 fun i=>
  Idx a b 5 fun j=>
  StN j 5 g<|
  Idx a c 5 fun k=>
  StN k 5 i<|
  Ar (IntKind.wrap .i64 (b + 1)) fun l=>
  Ar (IntKind.wrap .i64 (c - 1)) fun m=>
  n l m)
  (Q)
def zV (a:Sl) (Q:K): K :=
 Ar (IntKind.wrap .i64 ((a.n:Int) - 1)) fun b=>
 yN (α:=Int×Int) (fun X x=>zV.b1 Q (fun c d=>X (c,d)) a x.1 x.2) (0,b)
def zW.b1 (Q:K) (n:Int→Int→K) (a:Sl) (b c:Int): K :=
 Ite (decide (b < c))
  (Dr<|
  Idx a c 1 fun d=>
  Idx a b 1 fun f=>
  Ld d Value.pointer fun g=>
  Ld f Value.pointer fun i=>
  Idx a b 1 fun j=>
  St j (.pointer g)<|
  Idx a c 1 fun k=>
  St k (.pointer i)<|
  Ar (IntKind.wrap .i64 (b + 1)) fun l=>
  Ar (IntKind.wrap .i64 (c - 1)) fun m=>
  n l m)
  (Q)
def zW (a:Sl) (Q:K): K :=
 Ar (IntKind.wrap .i64 ((a.n:Int) - 1)) fun b=>
 yN (α:=Int×Int) (fun X x=>zW.b1 Q (fun c d=>X (c,d)) a x.1 x.2) (0,b)
instance:CB Tryz.prog 189:=⟨by kernel_rfl⟩
instance:CB Tryz.prog 238:=⟨by kernel_rfl⟩
def jT (a b:ByteArray) (Q:Int→K): K :=
 cmp_isNaN_string.call a fun d=>
 cmp_isNaN_string.call b fun c=>
 Ite d
  (Ite c
   (Q 0)
   (Q (-1)))
  (Ite c
   (Q 1)
   (Ite (Op.bytesLess a.toList b.toList)
    (Q (-1))
    (Ite (!(Op.bytesLess a.toList b.toList || a.toList == b.toList))
     (Q 1)
     (Q 0))))
theorem zF3 (a b Q w) (h:jT a b Q w):jT.call a b Q w:=by
 exact zO 20 h Tryz.func232
def cmp_isNaN_string (a:ByteArray) (Q:Bool→K): K :=
 Q (!(a.toList == a.toList))
theorem zHW (a Q w) (h:cmp_isNaN_string a Q w):cmp_isNaN_string.call a Q w:=by
 exact zO 6 h Tryz.func238
instance:SLT Tryz.prog 85 5 1:=⟨by kernel_rfl⟩
instance:UN Tryz.prog 85 (.slice 5):=⟨Tryz.underlying85⟩
instance:ZT Tryz.prog 5 (.int .u8 0):=⟨Tryz.t5,by kernel_rfl,by kernel_rfl⟩
def xu (b:Sl) (Q:Sl→K): K :=
 Ite ((b).a.isNone)
  (Q (Sl.mk none 0 0))
  (New 5 #[] fun c=>
  Do Tryz.prog (Builtin.append_ #[85,85] 85 #[(Sl.val (Sl.mk (some c) 0 0)),Sl.val b]) Sl.val fun d=>
  Q d)
theorem zGY (a Q w) (h:xu a Q w):xu.call a Q w:=by
 exact zO 8 h Tryz.func110
def bytes_Equal (c d:Sl) (Q:Bool→K): K :=
 Rd Tryz.prog (convert 85 9 (Sl.val c)) Value.string fun a=>
 Rd Tryz.prog (convert 85 9 (Sl.val d)) Value.string fun b=>
 Q (a.toList == b.toList)
theorem zLV (a b Q w) (h:bytes_Equal a b Q w):bytes_Equal.call a b Q w:=by
 exact zO 10 h Tryz.func225
instance:CB Tryz.prog 108:=⟨by kernel_rfl⟩
instance:CB Tryz.prog 109:=⟨by kernel_rfl⟩
instance:CB Tryz.prog 110:=⟨by kernel_rfl⟩
instance:CB Tryz.prog 161:=⟨by kernel_rfl⟩
instance:CB Tryz.prog 162:=⟨by kernel_rfl⟩
instance:CB Tryz.prog 229:=⟨by kernel_rfl⟩
instance:CB Tryz.prog 242:=⟨by kernel_rfl⟩
instance:CB Tryz.prog 243:=⟨by kernel_rfl⟩
instance:CB Tryz.prog 85:=⟨by kernel_rfl⟩
instance:CT Tryz.prog 33:=⟨by kernel_rfl⟩
instance:CT Tryz.prog 4:=⟨by kernel_rfl⟩
instance:CT Tryz.prog 56:=⟨by kernel_rfl⟩
instance:CT Tryz.prog 85:=⟨by kernel_rfl⟩
instance:FT Tryz.prog 194 0 0 1:=⟨by kernel_rfl⟩
instance:FT Tryz.prog 194 1 1 1:=⟨by kernel_rfl⟩
instance:FT Tryz.prog 87 0 0 1:=⟨by kernel_rfl⟩
instance:FT Tryz.prog 87 1 1 1:=⟨by kernel_rfl⟩
instance:FT Tryz.prog 87 2 2 1:=⟨by kernel_rfl⟩
instance:FT Tryz.prog 87 3 3 1:=⟨by kernel_rfl⟩
instance:INT Tryz.prog 5 .u8:=⟨by kernel_rfl⟩
instance:PLT Tryz.prog 173 [(0,1),(1,4)]:=⟨_,Tryz.underlying173,by kernel_rfl⟩
instance:PLT Tryz.prog 194 [(0,1),(1,1)]:=⟨_,Tryz.underlying194,by kernel_rfl⟩
instance:SLT Tryz.prog 56 173 5:=⟨by kernel_rfl⟩
instance:STT Tryz.prog 9:=⟨by kernel_rfl⟩
instance:SZ Tryz.prog 33 1:=⟨by kernel_rfl⟩
instance:SZ Tryz.prog 4 1:=⟨by kernel_rfl⟩
instance:SZ Tryz.prog 56 1:=⟨by kernel_rfl⟩
instance:SZ Tryz.prog 85 1:=⟨by kernel_rfl⟩
instance:ZT Tryz.prog 173 (.agg #[(.string ⟨#[]⟩),(.bool false),(Sl.val ⟨none,0,0⟩),(.int .i64 0),(.int .u64 0)]):=⟨Tryz.t173,by kernel_rfl,by kernel_rfl⟩
instance:ZT Tryz.prog 194 (.agg #[(.int .i64 0),(.pointer none)]):=⟨Tryz.t194,by kernel_rfl,by kernel_rfl⟩
instance:ZT Tryz.prog 56 (Sl.val ⟨none,0,0⟩):=⟨Tryz.t56,by kernel_rfl,by kernel_rfl⟩
def zBA.s1 (Q:Pt→Int→K) (c:Int) (d:Bool): K :=
 Ite d
  (Q none 1)
  (vN.call  fun a=>
  New 194 #[.int .i64 c,.pointer a] fun b=>
  Q (some b) 0)
def zBA (a:Int) (Q:Pt→Int→K): K :=
 Ite (decide (a < 1))
  (zBA.s1 Q a true)
  (zBA.s1 Q a (decide ((3:Int) < a)))
theorem zOj (b Q w) (h:zBA b Q w):zBA.call b Q w:=by
 have:JH 2 fun D=>∃ a,D [(0,.int .i64 a)] (fun C=>∀ c,C [(0,.int .i64 a),(9,.bool c)] (zBA.s1 Q a c)):=⟨fun _ ⟨_,h⟩=>⟨_,_,h⟩⟩
 exact zO 14 h Tryz.func46
def zAT (v:Pt) (Q:Sl→K): K :=
 New 56 #[Sl.val ⟨none,0,0⟩] fun a=>
 Nn v fun d=>
 Ld (d.add 1) Value.pointer fun f=>
 xP.call f fun g=>
 jE Tryz.prog g .ret (fun x:ByteArray×Av=>[.string x.1,.agg x.2]) (fun j k y x=>
  New 87 #[.bool false,Sl.val ⟨none,0,0⟩,.int .i64 0,.int .u64 0] fun b=>
  StN b 4 x.2<|
  j<|
  Ld (b.add 1) Sl.val fun l=>
  xu.call l fun m=>
  St (b.add 1) (Sl.val m)<|
  Ld a Sl.val fun n=>
  LdN b 4 fun o=>
  Bld #[(.string ⟨#[]⟩),.bool false,Sl.val ⟨none,0,0⟩,.int .i64 0,.int .u64 0] ([(0,1),(1,4)][·]?) [(0,.string x.1),(1,.agg o)] fun p=>
  Bld #[(.string ⟨#[]⟩),.bool false,Sl.val ⟨none,0,0⟩,.int .i64 0,.int .u64 0] (fun i=>some (i * 5,5)) [(0,.agg p)] fun q=>
  New 173 q fun r=>
  Do Tryz.prog (Builtin.append_ #[56,56] 56 #[Sl.val n,(Sl.val (Sl.mk (some r) 1 1))]) Sl.val fun s=>
  St a (Sl.val s)<|
  k)
  (fun c=>
   Ld a Sl.val fun t=>
   St a (Sl.val t)<|
   jV c<|
   Ld a Sl.val fun u=>
   Q u)
  (fun c=>
   Dead)
theorem zHX (a Q w) (h:zAT a Q w):zAT.call a Q w:=by
 exact zO 23 h Tryz.func63
def yx.s1 (Q:Av→K) (b a:Addr): K :=
 Ld (a.add 1) Sl.val fun c=>
 xu.call c fun d=>
 St (a.add 1) (Sl.val d)<|
 LdN a 4 fun f=>
 StN b 4 f<|
 LdN b 4 fun g=>
 Q g
def yx (l:Pt) (d:ByteArray) (Q:Av→K): K :=
 New 87 #[.bool false,Sl.val ⟨none,0,0⟩,.int .i64 0,.int .u64 0] fun b=>
 Nn l fun c=>
 Ld (c.add 1) Value.pointer fun f=>
 yj.call f d fun g i=>
 New 87 #[.bool false,Sl.val ⟨none,0,0⟩,.int .i64 0,.int .u64 0] fun a=>
 StN a 4 g<|
 Ite (!i)
  (Ld c (Value.int .i64) fun j=>
  jB.call d j fun k=>
  St (a.add 2) (.int .i64 k)<|
  yx.s1 Q b a)
  (yx.s1 Q b a)
theorem zH6 (c d Q w) (h:yx c d Q w):yx.call c d Q w:=by
 have:JH 4 fun D=>∃ a b,D [(4,(.pointer (some a))),(5,(.pointer (some b)))] (fun C=>C [(4,(.pointer (some a))),(5,(.pointer (some b)))] (yx.s1 Q a b)):=⟨fun _ ⟨_,_,h⟩=>⟨_,_,h⟩⟩
 exact zO 30 h Tryz.func108
def jB.b1 (Q:Int→K) (k:Int→Int→K) (l:ByteArray) (b m c a:Int): K :=
 Ite (decide (a < m))
  (zDk l a fun d=>
  Ar (IntKind.wrap .i64 d) fun f=>
  Ar (IntKind.wrap .i64 (c + f)) fun g=>
  Cd (b ≠ 0)<|
  Ar (Int.tmod g b) fun i=>
  Ar (IntKind.wrap .i64 (a + 1)) fun j=>
  k i j)
  (Q c)
def jB (a:ByteArray) (b:Int) (Q:Int→K): K :=
 Ite (decide (b < 1))
  (Q 0)
  (yN (α:=Int×Int) (fun X x=>jB.b1 Q (fun c d=>X (c,d)) a b (a.size:Int) x.1 x.2) (0,0))
theorem zJL (a b Q w) (h:jB a b Q w):jB.call a b Q w:=by
 have:∀ c d f,LH 5 (fun x:Int×Int=>[(0,.string c),(1,.int .i64 d),(5,.int .i64 x.1),(10,.int .i64 f),(11,.int .i64 x.2)]) (fun X x=>jB.b1 Q (fun g i=>X (g,i)) c d f x.1 x.2):=fun _ _ _=>⟨⟩
 exact zO 24 h Tryz.func162
def xC.s1 (Q:Int→K) (g:Pt) (i:ByteArray) (j:Int) (a:Addr) (k:Bool): K :=
 Ite k
  (Q 1)
  (Ld (a.add 3) (Value.int .u64) fun b=>
  Ite (decide (b = 18446744073709551615))
   (Q 111)
   (St (a.add 2) (.int .i64 j)<|
   Ld (a.add 3) (Value.int .u64) fun c=>
   Ar (IntKind.wrap .u64 (c + 1)) fun d=>
   St (a.add 3) (.int .u64 d)<|
   LdN a 4 fun f=>
   qP.call g i f<|
   Q 0))
def xC (c:Pt) (d:ByteArray) (a:Int) (Q:Int→K): K :=
 yx.call c d fun g=>
 New 87 #[.bool false,Sl.val ⟨none,0,0⟩,.int .i64 0,.int .u64 0] fun b=>
 StN b 4 g<|
 Ite (decide (a < 0))
  (xC.s1 Q c d a b true)
  (Nn c fun f=>
  Ld f (Value.int .i64) fun i=>
  xC.s1 Q (some f) d a b (decide (i ≤ a)))
theorem zHY (f g i Q w) (h:xC f g i Q w):xC.call f g i Q w:=by
 have:JH 3 fun D=>∃ a b c d,D [(0,.pointer a),(1,.string b),(2,.int .i64 c),(7,(.pointer (some d)))] (fun C=>∀ j,C [(0,.pointer a),(1,.string b),(2,.int .i64 c),(7,(.pointer (some d))),(11,.bool j)] (xC.s1 Q a b c d j)):=⟨fun _ ⟨_,_,_,_,h⟩=>⟨_,_,h⟩⟩
 exact zO 36 h Tryz.func197
def zAe (b:Pt) (c:ByteArray) (i:Sl) (Q:K): K :=
 yx.call b c fun d=>
 New 87 #[.bool false,Sl.val ⟨none,0,0⟩,.int .i64 0,.int .u64 0] fun a=>
 StN a 4 d<|
 xu.call i fun f=>
 St a (.bool true)<|
 St (a.add 1) (Sl.val f)<|
 LdN a 4 fun g=>
 qP.call b c g<|
 Q
theorem zH7 (a b c Q w) (h:zAe a b c Q w):zAe.call a b c Q w:=by
 exact zO 18 h Tryz.func198
def jS (b:Pt) (c:ByteArray) (Q:K): K :=
 yx.call b c fun d=>
 New 87 #[.bool false,Sl.val ⟨none,0,0⟩,.int .i64 0,.int .u64 0] fun a=>
 StN a 4 d<|
 St a (.bool false)<|
 St (a.add 1) (Sl.val (Sl.mk none 0 0))<|
 LdN a 4 fun f=>
 qP.call b c f<|
 Q
theorem zF4 (a b Q w) (h:jS a b Q w):jS.call a b Q w:=by
 exact zO 14 h Tryz.func199
def qP.s1 (Q:K) (a:Pt) (b:ByteArray) (j:Addr) (k:Bool): K :=
 Ite k
  (Nn a fun c=>
  Ld (c.add 1) Value.pointer fun d=>
  zI.call d b fun l m=>
  Q)
  (Dr<|
  Nn a fun f=>
  Ld (f.add 1) Value.pointer fun g=>
  LdN j 4 fun i=>
  zJ.call g b i fun n o=>
  Q)
def qP (b:Pt) (c:ByteArray) (g:Av) (Q:K): K :=
 New 87 g fun a=>
 Ld a Value.bool fun d=>
 Ite (!d)
  (Ld (a.add 3) (Value.int .u64) fun f=>
  qP.s1 Q b c a (decide (f = 0)))
  (qP.s1 Q b c a false)
theorem zEW (f g i Q w) (h:qP f g i Q w):qP.call f g i Q w:=by
 have:DH 3 1 [6] (.s [0,1,2,4,3,5] (.a [(6,0,.e)])):=⟨⟩
 have:JH 2 fun D=>∃ b c d,D [(0,.pointer b),(1,.string c),(5,(.pointer (some d)))] (fun C=>∀ j,C [(0,.pointer b),(1,.string c),(5,(.pointer (some d))),(13,.bool j)] (qP.s1 Q b c d j)):=⟨fun _ ⟨_,_,_,h⟩=>⟨_,_,h⟩⟩
 exact zO 27 h Tryz.func229
instance:AT Tryz.prog 25 5:=⟨by kernel_rfl⟩
instance:AT Tryz.prog 37 4:=⟨by kernel_rfl⟩
instance:AT Tryz.prog 40 10:=⟨by kernel_rfl⟩
instance:CB Tryz.prog 66:=⟨by kernel_rfl⟩
instance:CB Tryz.prog 86:=⟨by kernel_rfl⟩
instance:CB Tryz.prog 92:=⟨by kernel_rfl⟩
instance:FT Tryz.prog 84 1 1 1:=⟨by kernel_rfl⟩
instance:FT Tryz.prog 84 2 2 1:=⟨by kernel_rfl⟩
instance:PLT Tryz.prog 40 [(0,4),(4,5),(9,1)]:=⟨_,Tryz.underlying40,by kernel_rfl⟩
instance:PLT Tryz.prog 84 [(0,1),(1,1),(2,1)]:=⟨_,Tryz.underlying84,by kernel_rfl⟩
instance:SLT Tryz.prog 22 9 1:=⟨by kernel_rfl⟩
instance:SLT Tryz.prog 38 84 3:=⟨by kernel_rfl⟩
instance:SZ Tryz.prog 40 10:=⟨by kernel_rfl⟩
instance:ZT Tryz.prog 40 (.agg #[(.int .i64 0),(.int .u64 0),(.int .u64 0),(.int .i64 0),(.int .i64 0),(Sl.val ⟨none,0,0⟩),(Sl.val ⟨none,0,0⟩),(Sl.val ⟨none,0,0⟩),(.int .i64 0),(Sl.val ⟨none,0,0⟩)]):=⟨Tryz.t40,by kernel_rfl,by kernel_rfl⟩
instance:ZT Tryz.prog 84 (.agg #[(.string ⟨#[]⟩),(.int .i64 0),(.int .u64 0)]):=⟨Tryz.t84,by kernel_rfl,by kernel_rfl⟩
def zDV (m:Pt) (n o:Av) (Q:Av→K): K :=
 New 37 n fun c=>
 New 25 o fun a=>
 New 40 #[.int .i64 0,.int .u64 0,.int .u64 0,.int .i64 0,.int .i64 0,Sl.val ⟨none,0,0⟩,Sl.val ⟨none,0,0⟩,Sl.val ⟨none,0,0⟩,.int .i64 0,Sl.val ⟨none,0,0⟩] fun b=>
 Dr <| yZ fun S=>
 vG S c 4 fun d=>
 vG S a 5 fun f=>
 vG S a 5 fun g=>
 zBB.call f fun i=>
 Sv S<|
 zAL.call m g fun j=>
 Sv S<|
 Bld #[.int .i64 0,.int .u64 0,.int .u64 0,.int .i64 0,.int .i64 0,Sl.val ⟨none,0,0⟩,Sl.val ⟨none,0,0⟩,Sl.val ⟨none,0,0⟩,.int .i64 0,Sl.val ⟨none,0,0⟩] ([(0,4),(4,5),(9,1)][·]?) [(0,.agg d),(1,.agg i),(2,Sl.val j)] fun k=>
 StN b 10 k<|
 LdN b 10 fun l=>
 Q l
theorem zMS (b c d Q w) (h:zDV b c d Q w):zDV.call b c d Q w:=by
 have:DH 1 2 [7] (.s [3,0,1,4] (.a [(2,1,.a [(5,1,.s [6] (.a [(7,0,.e)]))])])):=⟨⟩
 exact zO 14 h Tryz.func49
def zAL.b1 (Q:Sl→K) (p:Sl→Int→K) (q:Pt) (r:Sl) (s:Int) (d:Sl) (b:Int): K :=
 Ite (decide (b < s))
  (Idx r b 1 fun f=>
  Ld f Value.string fun c=>
  yx.call q c fun g=>
  New 87 #[.bool false,Sl.val ⟨none,0,0⟩,.int .i64 0,.int .u64 0] fun a=>
  StN a 4 g<|
  Ld (a.add 2) (Value.int .i64) fun j=>
  Ld (a.add 3) (Value.int .u64) fun k=>
  Bld #[(.string ⟨#[]⟩),.int .i64 0,.int .u64 0] (fun i=>some (i * 3,3)) [(0,(.agg #[.string c,.int .i64 j,.int .u64 k]))] fun l=>
  New 84 l fun m=>
  Do Tryz.prog (Builtin.append_ #[38,38] 38 #[Sl.val d,(Sl.val (Sl.mk (some m) 1 1))]) Sl.val fun n=>
  Ar (IntKind.wrap .i64 (b + 1)) fun o=>
  p n o)
  (Q d)
def zAL (g:Pt) (i:Av) (Q:Sl→K): K :=
 New 25 i fun b=>
 LdN b 5 fun c=>
 zCj.call c fun a=>
 yN (α:=Sl×Int) (fun X x=>zAL.b1 Q (fun d f=>X (d,f)) g a (a.n:Int) x.1 x.2) ((Sl.mk none 0 0),0)
theorem zLW (a b Q w) (h:zAL a b Q w):zAL.call a b Q w:=by
 have:∀ c d f,LH 2 (fun x:Sl×Int=>[(0,.pointer c),(4,Sl.val x.1),(9,Sl.val d),(10,.int .i64 f),(11,.int .i64 x.2)]) (fun X x=>zAL.b1 Q (fun g i=>X (g,i)) c d f x.1 x.2):=fun _ _ _=>⟨⟩
 exact zO 29 h Tryz.func86
def jH.s1 (Q:Int→K) (a:Bool): K :=
 Ite a
  (Q 0)
  (Q 2)
def jH (k l:Av) (Q:Int→K): K :=
 New 87 k fun a=>
 New 84 l fun b=>
 Ld (b.add 2) (Value.int .u64) fun c=>
 Ld (a.add 3) (Value.int .u64) fun d=>
 Ite (decide (d < c))
  (Q 1)
  (Ld (b.add 2) (Value.int .u64) fun f=>
  Ld (a.add 3) (Value.int .u64) fun g=>
  Ite (decide (f = g))
   (Ld (b.add 1) (Value.int .i64) fun i=>
   Ld (a.add 2) (Value.int .i64) fun j=>
   jH.s1 Q (decide (i = j)))
   (jH.s1 Q false))
theorem zMT (a b Q w) (h:jH a b Q w):jH.call a b Q w:=by
 have:JH 4 fun D=>D [] (fun C=>∀ c,C [(11,.bool c)] (jH.s1 Q c)):=⟨fun _ h=>⟨_,_,h⟩⟩
 exact zO 24 h Tryz.func107
instance:AT Tryz.prog 123 4:=⟨by kernel_rfl⟩
instance:AT Tryz.prog 224 7:=⟨by kernel_rfl⟩
instance:CB Tryz.prog 103:=⟨by kernel_rfl⟩
instance:CB Tryz.prog 152:=⟨by kernel_rfl⟩
instance:CB Tryz.prog 154:=⟨by kernel_rfl⟩
instance:CB Tryz.prog 155:=⟨by kernel_rfl⟩
instance:CB Tryz.prog 172:=⟨by kernel_rfl⟩
instance:CB Tryz.prog 190:=⟨by kernel_rfl⟩
instance:CB Tryz.prog 191:=⟨by kernel_rfl⟩
instance:CB Tryz.prog 202:=⟨by kernel_rfl⟩
instance:CB Tryz.prog 203:=⟨by kernel_rfl⟩
instance:CB Tryz.prog 227:=⟨by kernel_rfl⟩
instance:CB Tryz.prog 241:=⟨by kernel_rfl⟩
instance:CB Tryz.prog 87:=⟨by kernel_rfl⟩
instance:CB Tryz.prog 88:=⟨by kernel_rfl⟩
instance:CT Tryz.prog 146:=⟨by kernel_rfl⟩
instance:CT Tryz.prog 163:=⟨by kernel_rfl⟩
instance:CT Tryz.prog 22:=⟨by kernel_rfl⟩
instance:SLT Tryz.prog 133 146 1:=⟨by kernel_rfl⟩
instance:SLT Tryz.prog 159 163 1:=⟨by kernel_rfl⟩
instance:SLT Tryz.prog 222 224 7:=⟨by kernel_rfl⟩
instance:SLT Tryz.prog 23 123 4:=⟨by kernel_rfl⟩
instance:SLT Tryz.prog 314 22 1:=⟨by kernel_rfl⟩
instance:SLT Tryz.prog 42 3 1:=⟨by kernel_rfl⟩
instance:SLT Tryz.prog 49 180 2:=⟨by kernel_rfl⟩
instance:SZ Tryz.prog 22 1:=⟨by kernel_rfl⟩
instance:SZ Tryz.prog 224 7:=⟨by kernel_rfl⟩
instance:SZ Tryz.prog 9 1:=⟨by kernel_rfl⟩
instance:UN Tryz.prog 22 (.slice 9):=⟨Tryz.underlying22⟩
instance:UN Tryz.prog 23 (.slice 123):=⟨Tryz.underlying23⟩
instance:UN Tryz.prog 38 (.slice 84):=⟨Tryz.underlying38⟩
instance:UN Tryz.prog 49 (.slice 180):=⟨Tryz.underlying49⟩
instance:ZT Tryz.prog 123 (.agg #[(.int .i64 0),(.string ⟨#[]⟩),(Sl.val ⟨none,0,0⟩),(.int .i64 0)]):=⟨Tryz.t123,by kernel_rfl,by kernel_rfl⟩
instance:ZT Tryz.prog 180 (.agg #[(.bool false),(Sl.val ⟨none,0,0⟩)]):=⟨Tryz.t180,by kernel_rfl,by kernel_rfl⟩
instance:ZT Tryz.prog 224 (.agg #[(.int .i64 0),(.int .u64 0),(.int .u64 0),(.int .i64 0),(.string ⟨#[]⟩),(.int .i64 0),(.int .u64 0)]):=⟨Tryz.t224,by kernel_rfl,by kernel_rfl⟩
instance:ZT Tryz.prog 9 (.string ⟨#[]⟩):=⟨Tryz.t9,by kernel_rfl,by kernel_rfl⟩
def zAY (a:Sl) (Q:K): K :=
 Ar (IntKind.wrap .u64 (a.n:Int)) fun b=>
 zHp.call b fun c=>
 zEf.call a 0 (a.n:Int) c<|
 Q
def zo.s3 (Q:Sl→K) (f:Int→K) (b:Int→Int→K) (g:Sl) (c:Int) (i:Sl) (d:Int): K :=
 Ar (IntKind.wrap .i64 (d + 1)) fun a=>
 b c a
def zo.b2 (Q:Sl→K) (g:Int→K) (i:Int→Int→K) (a b:Sl) (f d:Int): K :=
 Ite (decide (d < (b.n:Int)))
  (Dr<|
  Idx b d 1 fun j=>
  Ld j (Value.int .i64) fun k=>
  Ar (IntKind.wrap .i64 (d - 1)) fun l=>
  Idx b l 1 fun m=>
  Ld m (Value.int .i64) fun o=>
  Ite (decide (k ≠ o))
   (Idx b d 1 fun p=>
   Ld p (Value.int .i64) fun q=>
   Idx a f 1 fun r=>
   St r (.int .i64 q)<|
   Ar (IntKind.wrap .i64 (f + 1)) fun s=>
   zo.s3 Q g i a s b d)
   (zo.s3 Q g i a f b d))
  (Slc a f (a.n:Int) (a.c:Int) 1 fun t=>
  Do Tryz.prog (Builtin.clear_ #[42] 0 #[Sl.val t]) id fun _=>
  Slc a 0 f (a.c:Int) 1 fun u=>
  Q u)
def zo.b1 (Q:Sl→K) (d:Int→K) (a:Sl) (b:Int): K :=
 Ite (decide (b < (a.n:Int)))
  (Dr<|
  Idx a b 1 fun f=>
  Ld f (Value.int .i64) fun g=>
  Ar (IntKind.wrap .i64 (b - 1)) fun i=>
  Idx a i 1 fun j=>
  Ld j (Value.int .i64) fun k=>
  Ite (decide (g = k))
   (Slc a b (a.n:Int) (a.c:Int) 1 fun l=>
   yN (α:=Int×Int) (fun X x=>zo.b2 Q d (fun m o=>X (m,o)) a l x.1 x.2) (b,1))
   (Ar (IntKind.wrap .i64 (b + 1)) fun p=>
   d p))
  (Q a)
def zo (a:Sl) (Q:Sl→K): K :=
 Ite (decide ((a.n:Int) < 2))
  (Q a)
  (yN (α:=Int) (fun X x=>zo.b1 Q X a x) 1)
theorem zEK (i Q w) (h:zo i Q w):zo.call i Q w:=by
 have:∀ a,XH 4 a→∀ j,XH 9 j→JH 10 fun D=>∃ d f g,D [(0,Sl.val d),(4,Sl.val f),(5,.int .i64 g)] (fun C=>∀ k,C [(0,Sl.val d),(3,.int .i64 k),(4,Sl.val f),(5,.int .i64 g)] (zo.s3 Q a (fun b c=>j (b,c)) d k f g)):=by intros; exact ⟨fun _ ⟨_,_,_,h⟩=>⟨_,_,h⟩⟩
 have:∀ a,XH 4 a→∀ l m,LH 9 (fun x:Int×Int=>[(0,Sl.val l),(3,.int .i64 x.1),(4,Sl.val m),(5,.int .i64 x.2)]) (fun X x=>zo.b2 Q a (fun b c=>X (b,c)) l m x.1 x.2):=by intros; exact ⟨⟩
 have:∀ n,LH 4 (fun x:Int=>[(0,Sl.val n),(3,.int .i64 x)]) (fun X x=>zo.b1 Q X n x):=fun _=>⟨⟩
 exact zO 61 h Tryz.func51
def yK.s2 (Q:Sl→K) (b:Int→Int→K) (f:Sl) (g:Value) (c d:Int): K :=
 Ar (IntKind.wrap .i64 (d + 1)) fun a=>
 b c a
def yK.b1 (Q:Sl→K) (j:Int→Int→K) (a:Sl) (g:Value) (b d:Int): K :=
 Ite (decide (d < (a.n:Int)))
  (Idx a d 1 fun k=>
  Ld k (Value.int .i64) fun i=>
  vW Tryz.prog g [.int .i64 i] <| yH (fun (f:Bool)=>Value.bool f) fun f=>
  Ite (!f)
   (Idx a b 1 fun l=>
   St l (.int .i64 i)<|
   Ar (IntKind.wrap .i64 (b + 1)) fun m=>
   yK.s2 Q j a g m d)
   (yK.s2 Q j a g b d))
  (Slc a b (a.n:Int) (a.c:Int) 1 fun o=>
  Do Tryz.prog (Builtin.clear_ #[42] 0 #[Sl.val o]) id fun _=>
  Slc a 0 b (a.c:Int) 1 fun p=>
  Q p)
def yK (b:Sl) (c:Value) (Q:Sl→K): K :=
 qc.call b c fun a=>
 Ite (decide (a = (-1)))
  (Q b)
  (Ar (IntKind.wrap .i64 (a + 1)) fun d=>
  yN (α:=Int×Int) (fun X x=>yK.b1 Q (fun f g=>X (f,g)) b c x.1 x.2) (a,d))
theorem zDb (g i Q w) (h:yK g i Q w):yK.call g i Q w:=by
 have:∀ j,XH 5 j→JH 6 fun D=>∃ c d f,D [(0,Sl.val c),(1,d),(6,.int .i64 f)] (fun C=>∀ k,C [(0,Sl.val c),(1,d),(5,.int .i64 k),(6,.int .i64 f)] (yK.s2 Q (fun a b=>j (a,b)) c d k f)):=by intros; exact ⟨fun _ ⟨_,_,_,h⟩=>⟨_,_,h⟩⟩
 have:∀ l m,LH 5 (fun x:Int×Int=>[(0,Sl.val l),(1,m),(5,.int .i64 x.1),(6,.int .i64 x.2)]) (fun X x=>yK.b1 Q (fun a b=>X (a,b)) l m x.1 x.2):=fun _ _=>⟨⟩
 exact zO 42 h Tryz.func60
def xH (b:Sl) (c:Int) (Q:Bool→K): K :=
 qy.call b c fun a=>
 Q (decide ((0:Int) ≤ a))
theorem zD6 (a b Q w) (h:xH a b Q w):xH.call a b Q w:=by
 exact zO 9 h Tryz.func93
def yL.b1 (Q g:Int→K) (i:Sl) (j:Value) (k a:Int): K :=
 Ite (decide (a < k))
  (Idx i a 1 fun c=>
  Ld c Value.pointer fun d=>
  vW Tryz.prog j [.pointer d] <| yH (fun (b:Bool)=>Value.bool b) fun b=>
  Ite b
   (Q a)
   (Ar (IntKind.wrap .i64 (a + 1)) fun f=>
   g f))
  (Q (-1))
def yL (a:Sl) (b:Value) (Q:Int→K): K :=
 yN (α:=Int) (fun X x=>yL.b1 Q X a b (a.n:Int) x) 0
theorem jL (a b Q w) (h:yL a b Q w):yL.call a b Q w:=by
 have:∀ c d f,LH 2 (fun x:Int=>[(0,Sl.val c),(1,d),(7,.int .i64 f),(8,.int .i64 x)]) (fun X x=>yL.b1 Q X c d f x):=fun _ _ _=>⟨⟩
 exact zO 19 h Tryz.func95
def qz (a:Sl) (d f:Int) (Q:Sl→K): K :=
 Slc a d f (a.n:Int) 1 fun k=>
 Ite (decide (d = f))
  (Q a)
  (Dr<|
  Slc a 0 d (a.c:Int) 1 fun g=>
  Slc a f (a.n:Int) (a.c:Int) 1 fun i=>
  Do Tryz.prog (Builtin.append_ #[133,133] 133 #[Sl.val g,Sl.val i]) Sl.val fun b=>
  Slc b (b.n:Int) (a.n:Int) (b.c:Int) 1 fun j=>
  Do Tryz.prog (Builtin.clear_ #[133] 0 #[Sl.val j]) id fun _=>
  Q b)
theorem zBs (b c d Q w) (h:qz b c d Q w):qz.call b c d Q w:=by
 have:DH 5 0 [] (.s [0,1,2,3,4,5] (.a [(6,0,.s [7] .e)])):=⟨⟩
 exact zO 33 h Tryz.func100
def qj (b:Sl) (Q:Sl→K): K :=
 Ite ((b).a.isNone)
  (Q (Sl.mk none 0 0))
  (New 84 #[] fun c=>
  Do Tryz.prog (Builtin.append_ #[38,38] 38 #[(Sl.val (Sl.mk (some c) 0 0)),Sl.val b]) Sl.val fun d=>
  Q d)
theorem zCS (a Q w) (h:qj a Q w):qj.call a Q w:=by
 exact zO 8 h Tryz.func102
def qc.b1 (Q g:Int→K) (i:Sl) (j:Value) (k a:Int): K :=
 Ite (decide (a < k))
  (Idx i a 1 fun c=>
  Ld c (Value.int .i64) fun d=>
  vW Tryz.prog j [.int .i64 d] <| yH (fun (b:Bool)=>Value.bool b) fun b=>
  Ite b
   (Q a)
   (Ar (IntKind.wrap .i64 (a + 1)) fun f=>
   g f))
  (Q (-1))
def qc (a:Sl) (b:Value) (Q:Int→K): K :=
 yN (α:=Int) (fun X x=>qc.b1 Q X a b (a.n:Int) x) 0
theorem zDq (a b Q w) (h:qc a b Q w):qc.call a b Q w:=by
 have:∀ c d f,LH 2 (fun x:Int=>[(0,Sl.val c),(1,d),(7,.int .i64 f),(8,.int .i64 x)]) (fun X x=>qc.b1 Q X c d f x):=fun _ _ _=>⟨⟩
 exact zO 19 h Tryz.func103
def yA (b:Sl) (c:Value) (Q:Bool→K): K :=
 zS.call b c fun a=>
 Q (decide ((0:Int) ≤ a))
theorem zAc (a b Q w) (h:yA a b Q w):yA.call a b Q w:=by
 exact zO 9 h Tryz.func105
def q8 (b:Sl) (c:Value) (Q:Bool→K): K :=
 qL.call b c fun a=>
 Q (decide ((0:Int) ≤ a))
theorem zBt (a b Q w) (h:q8 a b Q w):q8.call a b Q w:=by
 exact zO 9 h Tryz.func117
def qm (b:Sl) (Q:Sl→K): K :=
 Ite ((b).a.isNone)
  (Q (Sl.mk none 0 0))
  (New 9 #[] fun c=>
  Do Tryz.prog (Builtin.append_ #[22,22] 22 #[(Sl.val (Sl.mk (some c) 0 0)),Sl.val b]) Sl.val fun d=>
  Q d)
theorem zDL (a Q w) (h:qm a Q w):qm.call a Q w:=by
 exact zO 8 h Tryz.func118
def xK (b:Sl) (Q:Sl→K): K :=
 Ite ((b).a.isNone)
  (Q (Sl.mk none 0 0))
  (New 123 #[] fun c=>
  Do Tryz.prog (Builtin.append_ #[23,23] 23 #[(Sl.val (Sl.mk (some c) 0 0)),Sl.val b]) Sl.val fun d=>
  Q d)
theorem zDM (a Q w) (h:xK a Q w):xK.call a Q w:=by
 exact zO 8 h Tryz.func119
def uO (b:Sl) (Q:Sl→K): K :=
 Ite ((b).a.isNone)
  (Q (Sl.mk none 0 0))
  (New 5 #[] fun c=>
  Do Tryz.prog (Builtin.append_ #[85,85] 85 #[(Sl.val (Sl.mk (some c) 0 0)),Sl.val b]) Sl.val fun d=>
  Q d)
theorem zEL (a Q w) (h:uO a Q w):uO.call a Q w:=by
 exact zO 8 h Tryz.func150
def zT.s2 (Q:Sl→K) (b:Int→Int→K) (f:Sl) (c:Int) (g:Sl) (i d:Int): K :=
 Ar (IntKind.wrap .i64 (d + 1)) fun a=>
 b c a
def zT.b3 (Q:Sl→K) (l:Int→Int→K) (i:Sl→Int→K) (j:Sl) (k:Int) (b:Sl) (a:Int): K :=
 Ite (decide (a < k))
  (Idx j a 1 fun c=>
  Ld c Sl.val fun d=>
  Do Tryz.prog (Builtin.append_ #[22,22] 22 #[Sl.val b,Sl.val d]) Sl.val fun f=>
  Ar (IntKind.wrap .i64 (a + 1)) fun g=>
  i f g)
  (Q b)
def zT.b1 (Q:Sl→K) (d:Int→Int→K) (a f:Sl) (g i b:Int): K :=
 Ite (decide (b < g))
  (Idx f b 1 fun j=>
  Ld j Sl.val fun k=>
  Ar (IntKind.wrap .i64 (i + (k.n:Int))) fun c=>
  Ite (decide (c < 0))
   (Rd Tryz.prog (Instr.makeInterface 9 (.string ⟨#[108,101,110,32,111,117,116,32,111,102,32,114,97,110,103,101]⟩)) id fun p=>
   Dead)
   (zT.s2 Q d a c f g b))
  (zy.call (Sl.mk none 0 0) i fun l=>
  yN (α:=Sl×Int) (fun X x=>zT.b3 Q d (fun m o=>X (m,o)) a (a.n:Int) x.1 x.2) (l,0))
def zT (a:Sl) (Q:Sl→K): K :=
 yN (α:=Int×Int) (fun X x=>zT.b1 Q (fun b c=>X (b,c)) a a (a.n:Int) x.1 x.2) (0,0)
theorem zC8 (j Q w) (h:zT j Q w):zT.call j Q w:=by
 have:∀ c,XH 3 c→JH 8 fun D=>∃ d f g i,D [(0,Sl.val d),(9,Sl.val f),(10,.int .i64 g),(11,.int .i64 i)] (fun C=>∀ k,C [(0,Sl.val d),(3,.int .i64 k),(9,Sl.val f),(10,.int .i64 g),(11,.int .i64 i)] (zT.s2 Q (fun a b=>c (a,b)) d k f g i)):=by intros; exact ⟨fun _ ⟨_,_,_,_,h⟩=>⟨_,_,h⟩⟩
 have:∀ c,XH 3 c→∀ l m,LH 11 (fun x:Sl×Int=>[(6,Sl.val x.1),(25,Sl.val l),(26,.int .i64 m),(27,.int .i64 x.2)]) (fun X x=>zT.b3 Q (fun a b=>c (a,b)) (fun q r=>X (q,r)) l m x.1 x.2):=by intros; exact ⟨⟩
 have:∀ n o p,LH 3 (fun x:Int×Int=>[(0,Sl.val n),(3,.int .i64 x.1),(9,Sl.val o),(10,.int .i64 p),(11,.int .i64 x.2)]) (fun X x=>zT.b1 Q (fun a b=>X (a,b)) n o p x.1 x.2):=fun _ _ _=>⟨⟩
 exact zO 36 h Tryz.func151
def vO (a:Sl) (Q:K): K :=
 Ar (IntKind.wrap .u64 (a.n:Int)) fun b=>
 zHp.call b fun c=>
 zD4.call a 0 (a.n:Int) c<|
 Q
def zP.s3 (Q:Sl→K) (f:Int→K) (b:Int→Int→K) (g:Sl) (c:Int) (i:Sl) (d:Int): K :=
 Ar (IntKind.wrap .i64 (d + 1)) fun a=>
 b c a
def zP.b2 (Q:Sl→K) (g:Int→K) (i:Int→Int→K) (a b:Sl) (f d:Int): K :=
 Ite (decide (d < (b.n:Int)))
  (Dr<|
  Idx b d 1 fun j=>
  Ld j Value.string fun k=>
  Ar (IntKind.wrap .i64 (d - 1)) fun l=>
  Idx b l 1 fun m=>
  Ld m Value.string fun o=>
  Ite (!(k.toList == o.toList))
   (Idx b d 1 fun p=>
   Ld p Value.string fun q=>
   Idx a f 1 fun r=>
   St r (.string q)<|
   Ar (IntKind.wrap .i64 (f + 1)) fun s=>
   zP.s3 Q g i a s b d)
   (zP.s3 Q g i a f b d))
  (Slc a f (a.n:Int) (a.c:Int) 1 fun t=>
  Do Tryz.prog (Builtin.clear_ #[22] 0 #[Sl.val t]) id fun _=>
  Slc a 0 f (a.c:Int) 1 fun u=>
  Q u)
def zP.b1 (Q:Sl→K) (d:Int→K) (a:Sl) (b:Int): K :=
 Ite (decide (b < (a.n:Int)))
  (Dr<|
  Idx a b 1 fun f=>
  Ld f Value.string fun g=>
  Ar (IntKind.wrap .i64 (b - 1)) fun i=>
  Idx a i 1 fun j=>
  Ld j Value.string fun k=>
  Ite (g.toList == k.toList)
   (Slc a b (a.n:Int) (a.c:Int) 1 fun l=>
   yN (α:=Int×Int) (fun X x=>zP.b2 Q d (fun m o=>X (m,o)) a l x.1 x.2) (b,1))
   (Ar (IntKind.wrap .i64 (b + 1)) fun p=>
   d p))
  (Q a)
def zP (a:Sl) (Q:Sl→K): K :=
 Ite (decide ((a.n:Int) < 2))
  (Q a)
  (yN (α:=Int) (fun X x=>zP.b1 Q X a x) 1)
theorem zCr (i Q w) (h:zP i Q w):zP.call i Q w:=by
 have:∀ a,XH 4 a→∀ j,XH 9 j→JH 10 fun D=>∃ d f g,D [(0,Sl.val d),(4,Sl.val f),(5,.int .i64 g)] (fun C=>∀ k,C [(0,Sl.val d),(3,.int .i64 k),(4,Sl.val f),(5,.int .i64 g)] (zP.s3 Q a (fun b c=>j (b,c)) d k f g)):=by intros; exact ⟨fun _ ⟨_,_,_,h⟩=>⟨_,_,h⟩⟩
 have:∀ a,XH 4 a→∀ l m,LH 9 (fun x:Int×Int=>[(0,Sl.val l),(3,.int .i64 x.1),(4,Sl.val m),(5,.int .i64 x.2)]) (fun X x=>zP.b2 Q a (fun b c=>X (b,c)) l m x.1 x.2):=by intros; exact ⟨⟩
 have:∀ n,LH 4 (fun x:Int=>[(0,Sl.val n),(3,.int .i64 x)]) (fun X x=>zP.b1 Q X n x):=fun _=>⟨⟩
 exact zO 61 h Tryz.func153
def qy.b1 (Q f:Int→K) (g:Sl) (i j a:Int): K :=
 Ite (decide (a < j))
  (Idx g a 1 fun b=>
  Ld b (Value.int .i64) fun c=>
  Ite (decide (i = c))
   (Q a)
   (Ar (IntKind.wrap .i64 (a + 1)) fun d=>
   f d))
  (Q (-1))
def qy (a:Sl) (b:Int) (Q:Int→K): K :=
 yN (α:=Int) (fun X x=>qy.b1 Q X a b (a.n:Int) x) 0
theorem zEg (a b Q w) (h:qy a b Q w):qy.call a b Q w:=by
 have:∀ c d f,LH 2 (fun x:Int=>[(0,Sl.val c),(1,.int .i64 d),(7,.int .i64 f),(8,.int .i64 x)]) (fun X x=>qy.b1 Q X c d f x):=fun _ _ _=>⟨⟩
 exact zO 19 h Tryz.func154
def zS.b1 (Q g:Int→K) (i:Sl) (j:Value) (k a:Int): K :=
 Ite (decide (a < k))
  (Idx i a 7 fun c=>
  LdN c 7 fun d=>
  vW Tryz.prog j [.agg d] <| yH (fun (b:Bool)=>Value.bool b) fun b=>
  Ite b
   (Q a)
   (Ar (IntKind.wrap .i64 (a + 1)) fun f=>
   g f))
  (Q (-1))
def zS (a:Sl) (b:Value) (Q:Int→K): K :=
 yN (α:=Int) (fun X x=>zS.b1 Q X a b (a.n:Int) x) 0
theorem xq (a b Q w) (h:zS a b Q w):zS.call a b Q w:=by
 have:∀ c d f,LH 2 (fun x:Int=>[(0,Sl.val c),(1,d),(7,.int .i64 f),(8,.int .i64 x)]) (fun X x=>zS.b1 Q X c d f x):=fun _ _ _=>⟨⟩
 exact zO 19 h Tryz.func155
def q9 (b:Sl) (c:Value) (Q:Bool→K): K :=
 qM.call b c fun a=>
 Q (decide ((0:Int) ≤ a))
theorem zBu (a b Q w) (h:q9 a b Q w):q9.call a b Q w:=by
 exact zO 9 h Tryz.func169
def yw (b:Sl) (c:ByteArray) (Q:Bool→K): K :=
 y5.call b c fun a=>
 Q (decide ((0:Int) ≤ a))
theorem zCi (a b Q w) (h:yw a b Q w):yw.call a b Q w:=by
 exact zO 9 h Tryz.func171
def qL.b1 (Q g:Int→K) (i:Sl) (j:Value) (k a:Int): K :=
 Ite (decide (a < k))
  (Idx i a 4 fun c=>
  LdN c 4 fun d=>
  vW Tryz.prog j [.agg d] <| yH (fun (b:Bool)=>Value.bool b) fun b=>
  Ite b
   (Q a)
   (Ar (IntKind.wrap .i64 (a + 1)) fun f=>
   g f))
  (Q (-1))
def qL (a:Sl) (b:Value) (Q:Int→K): K :=
 yN (α:=Int) (fun X x=>qL.b1 Q X a b (a.n:Int) x) 0
theorem zCT (a b Q w) (h:qL a b Q w):qL.call a b Q w:=by
 have:∀ c d f,LH 2 (fun x:Int=>[(0,Sl.val c),(1,d),(7,.int .i64 f),(8,.int .i64 x)]) (fun X x=>qL.b1 Q X c d f x):=fun _ _ _=>⟨⟩
 exact zO 19 h Tryz.func172
def zy.s2 (Q:Sl→K) (a:Sl): K :=
 Q a
def zy.s1 (Q:Sl→K) (a:Sl) (l:Int): K :=
 Do Tryz.prog (Builtin.cap_ #[22] 3 #[Sl.val a]) (Value.int .i64) fun f=>
 Ar (IntKind.wrap .i64 (f - (a.n:Int))) fun g=>
 Ar (IntKind.wrap .i64 (l - g)) fun b=>
 Ite (decide ((0:Int) < b))
  (Do Tryz.prog (Builtin.cap_ #[22] 3 #[Sl.val a]) (Value.int .i64) fun i=>
  Slc a 0 i (a.c:Int) 1 fun j=>
  Do Tryz.prog (Builtin.append_ #[22,3] 22 #[Sl.val j,.int .i64 b]) Sl.val fun d=>
  Slc d 0 (a.n:Int) (d.c:Int) 1 fun k=>
  zy.s2 Q k)
  (zy.s2 Q a)
def zy (b:Sl) (a:Int) (Q:Sl→K): K :=
 Ite (decide (a < 0))
  (Rd Tryz.prog (Instr.makeInterface 9 (.string ⟨#[99,97,110,110,111,116,32,98,101,32,110,101,103,97,116,105,118,101]⟩)) id fun c=>
  Dead)
  (zy.s1 Q b a)
theorem zDc (c d Q w) (h:zy c d Q w):zy.call c d Q w:=by
 have:JH 6 fun D=>D [] (fun C=>∀ f,C [(0,Sl.val f)] (zy.s2 Q f)):=⟨fun _ h=>⟨_,_,h⟩⟩
 have:JH 3 fun D=>∃ a b,D [(0,Sl.val a),(1,.int .i64 b)] (fun C=>C [(0,Sl.val a),(1,.int .i64 b)] (zy.s1 Q a b)):=⟨fun _ ⟨_,_,h⟩=>⟨_,_,h⟩⟩
 exact zO 27 h Tryz.func190
def zG.s2 (Q:Sl→K) (b:Int→Int→K) (f:Sl) (g:Value) (c d:Int): K :=
 Ar (IntKind.wrap .i64 (d + 1)) fun a=>
 b c a
def zG.b1 (Q:Sl→K) (j:Int→Int→K) (a:Sl) (i:Value) (b d:Int): K :=
 Ite (decide (d < (a.n:Int)))
  (Idx a d 7 fun k=>
  LdN k 7 fun l=>
  New 224 #[.int .i64 0,.int .u64 0,.int .u64 0,.int .i64 0,(.string ⟨#[]⟩),.int .i64 0,.int .u64 0] fun f=>
  StN f 7 l<|
  LdN f 7 fun m=>
  vW Tryz.prog i [.agg m] <| yH (fun (g:Bool)=>Value.bool g) fun g=>
  Ite (!g)
   (LdN f 7 fun o=>
   Idx a b 7 fun p=>
   StN p 7 o<|
   Ar (IntKind.wrap .i64 (b + 1)) fun q=>
   zG.s2 Q j a i q d)
   (zG.s2 Q j a i b d))
  (Slc a b (a.n:Int) (a.c:Int) 7 fun r=>
  Do Tryz.prog (Builtin.clear_ #[222] 0 #[Sl.val r]) id fun _=>
  Slc a 0 b (a.c:Int) 7 fun s=>
  Q s)
def zG (b:Sl) (c:Value) (Q:Sl→K): K :=
 zS.call b c fun a=>
 Ite (decide (a = (-1)))
  (Q b)
  (Ar (IntKind.wrap .i64 (a + 1)) fun d=>
  yN (α:=Int×Int) (fun X x=>zG.b1 Q (fun f g=>X (f,g)) b c x.1 x.2) (a,d))
theorem uR (g i Q w) (h:zG g i Q w):zG.call g i Q w:=by
 have:∀ j,XH 5 j→JH 6 fun D=>∃ c d f,D [(0,Sl.val c),(1,d),(6,.int .i64 f)] (fun C=>∀ k,C [(0,Sl.val c),(1,d),(5,.int .i64 k),(6,.int .i64 f)] (zG.s2 Q (fun a b=>j (a,b)) c d k f)):=by intros; exact ⟨fun _ ⟨_,_,_,h⟩=>⟨_,_,h⟩⟩
 have:∀ l m,LH 5 (fun x:Int×Int=>[(0,Sl.val l),(1,m),(5,.int .i64 x.1),(6,.int .i64 x.2)]) (fun X x=>zG.b1 Q (fun a b=>X (a,b)) l m x.1 x.2):=fun _ _=>⟨⟩
 exact zO 42 h Tryz.func192
def uo (b:Value) (Q:Sl→K): K :=
 uM.call b fun a=>
 vO.call a<|
 Q a
theorem zE5 (a Q w) (h:uo a Q w):uo.call a Q w:=by
 exact zO 9 h Tryz.func195
def qM.b1 (Q g:Int→K) (i:Sl) (j:Value) (k a:Int): K :=
 Ite (decide (a < k))
  (Idx i a 1 fun c=>
  Ld c Value.string fun d=>
  vW Tryz.prog j [.string d] <| yH (fun (b:Bool)=>Value.bool b) fun b=>
  Ite b
   (Q a)
   (Ar (IntKind.wrap .i64 (a + 1)) fun f=>
   g f))
  (Q (-1))
def qM (a:Sl) (b:Value) (Q:Int→K): K :=
 yN (α:=Int) (fun X x=>qM.b1 Q X a b (a.n:Int) x) 0
theorem zCU (a b Q w) (h:qM a b Q w):qM.call a b Q w:=by
 have:∀ c d f,LH 2 (fun x:Int=>[(0,Sl.val c),(1,d),(7,.int .i64 f),(8,.int .i64 x)]) (fun X x=>qM.b1 Q X c d f x):=fun _ _ _=>⟨⟩
 exact zO 19 h Tryz.func202
def y5.b1 (Q f:Int→K) (g:Sl) (i:ByteArray) (j a:Int): K :=
 Ite (decide (a < j))
  (Idx g a 1 fun b=>
  Ld b Value.string fun c=>
  Ite (i.toList == c.toList)
   (Q a)
   (Ar (IntKind.wrap .i64 (a + 1)) fun d=>
   f d))
  (Q (-1))
def y5 (a:Sl) (b:ByteArray) (Q:Int→K): K :=
 yN (α:=Int) (fun X x=>y5.b1 Q X a b (a.n:Int) x) 0
theorem zDN (a b Q w) (h:y5 a b Q w):y5.call a b Q w:=by
 have:∀ c d f,LH 2 (fun x:Int=>[(0,Sl.val c),(1,.string d),(7,.int .i64 f),(8,.int .i64 x)]) (fun X x=>y5.b1 Q X c d f x):=fun _ _ _=>⟨⟩
 exact zO 19 h Tryz.func203
def uM (b:Value) (Q:Sl→K): K :=
 xQ.call (Sl.mk none 0 0) b fun a=>
 Q a
theorem zEr (a Q w) (h:uM a Q w):uM.call a Q w:=by
 exact zO 5 h Tryz.func227
def xQ (k:Sl) (l:Value) (Q:Sl→K): K :=
 New 22 #[Sl.val k] fun a=>
 jN Tryz.prog l Value.string (fun b c=>
  Ld a Sl.val fun d=>
  New 9 #[.string c] fun f=>
  Do Tryz.prog (Builtin.append_ #[22,22] 22 #[Sl.val d,(Sl.val (Sl.mk (some f) 1 1))]) Sl.val fun g=>
  St a (Sl.val g)<|
  b)
 fun i=>
 Ld a Sl.val fun j=>
 jV i<|
 Q j
theorem zCV (a b Q w) (h:xQ a b Q w):xQ.call a b Q w:=by
 exact zO 13 h Tryz.func241
instance:CT Tryz.prog 319:=⟨by kernel_rfl⟩
def yJ (b:(Option Nat)) (Q:Value→K): K :=
 New 319 #[.map b] fun a=>
 Q (.func (.func 228) #[] #[(.pointer (some a))])
theorem zAH (a Q w) (h:yJ a Q w):yJ.call a Q w:=by
 exact zO 4 h Tryz.func196
def zm.b1 (Q i:K) (j:Value) (b:Pt): K :=
 Do Tryz.prog (Instr.next (.pointer b) false 0) id fun c=>
 Ext c 0 Value.bool fun d=>
 Ite d
  (Do Tryz.prog (Instr.entry (.pointer b)) id fun f=>
  Ext f 0 Value.string fun g=>
  jU Tryz.prog j [.string g] <| yH (fun (a:Bool)=>Value.bool a) fun a=>
  Ite (!a)
   (Q)
   (i))
  (Q)
def zm (c:Value) (d:Addr) (Q:K): K :=
 Ld d Value.map fun a=>
 Do Tryz.prog (Instr.range 319 (.map a)) Value.pointer fun b=>
 yN (α:=Unit) (fun X x=>zm.b1 Q (X ()) c b) ()
theorem zAB (a b Q w) (h:zm a b Q w):zm.call a b Q w:=by
 have:∀ c d,LH 1 (fun x:Unit=>[(0,c),(5,.pointer d)]) (fun X x=>zm.b1 Q (X ()) c d):=fun _ _=>⟨⟩
 exact zO 14 h Tryz.func228
end
section
open Go Go.Sep
set_option maxHeartbeats 4000000
attribute [local irreducible] zPt
attribute [local irreducible] G Gp Cx Tx Ex Sx Dx Ox Ax Lx Rx Fx Bx Bj Al Do Ld LdN St StN New zK Ar DoU Rd Rd2 Pu Cd Ite Fv vW jU jI yH zAZ zDH zDQ zDl Ext Dead Dr yZ Sv LdS vG RdS zDw Nn Idx zAz zDk Fld Bld Slc zDx Cat All yN jN jE jV
instance:AT Tryz.prog 84 3:=⟨by kernel_rfl⟩
instance:CB Tryz.prog 104:=⟨by kernel_rfl⟩
instance:CB Tryz.prog 105:=⟨by kernel_rfl⟩
instance:CB Tryz.prog 106:=⟨by kernel_rfl⟩
instance:CB Tryz.prog 107:=⟨by kernel_rfl⟩
instance:CB Tryz.prog 192:=⟨by kernel_rfl⟩
instance:CT Tryz.prog 130:=⟨by kernel_rfl⟩
instance:CT Tryz.prog 195:=⟨by kernel_rfl⟩
instance:CT Tryz.prog 196:=⟨by kernel_rfl⟩
instance:CT Tryz.prog 219:=⟨by kernel_rfl⟩
instance:CT Tryz.prog 222:=⟨by kernel_rfl⟩
instance:FT Tryz.prog 198 0 0 1:=⟨by kernel_rfl⟩
instance:FT Tryz.prog 198 1 1 1:=⟨by kernel_rfl⟩
instance:FT Tryz.prog 224 0 0 4:=⟨by kernel_rfl⟩
instance:FT Tryz.prog 224 1 4 3:=⟨by kernel_rfl⟩
instance:FT Tryz.prog 226 0 0 1:=⟨by kernel_rfl⟩
instance:FT Tryz.prog 226 1 1 1:=⟨by kernel_rfl⟩
instance:FT Tryz.prog 84 0 0 1:=⟨by kernel_rfl⟩
instance:PLT Tryz.prog 198 [(0,1),(1,1)]:=⟨_,Tryz.underlying198,by kernel_rfl⟩
instance:PLT Tryz.prog 224 [(0,4),(4,3)]:=⟨_,Tryz.underlying224,by kernel_rfl⟩
instance:PLT Tryz.prog 226 [(0,1),(1,1)]:=⟨_,Tryz.underlying226,by kernel_rfl⟩
instance:SZ Tryz.prog 219 1:=⟨by kernel_rfl⟩
instance:SZ Tryz.prog 222 1:=⟨by kernel_rfl⟩
instance:SZ Tryz.prog 84 3:=⟨by kernel_rfl⟩
instance:UN Tryz.prog 219 (.pointer 226):=⟨Tryz.underlying219⟩
instance:ZT Tryz.prog 198 (.agg #[(.map none),(.map none)]):=⟨Tryz.t198,by kernel_rfl,by kernel_rfl⟩
instance:ZT Tryz.prog 219 (.pointer none):=⟨Tryz.t219,by kernel_rfl,by kernel_rfl⟩
instance:ZT Tryz.prog 226 (.agg #[(Sl.val ⟨none,0,0⟩),(Sl.val ⟨none,0,0⟩)]):=⟨Tryz.t226,by kernel_rfl,by kernel_rfl⟩
def zDU  (Q:Pt→K): K :=
 Do Tryz.prog (Instr.makeMap 195 none) Value.map fun a=>
 Do Tryz.prog (Instr.makeMap 196 none) Value.map fun b=>
 New 198 #[.map a,.map b] fun c=>
 Q (some c)
theorem zOk (Q w) (h:zDU  Q w):zDU.call  Q w:=by
 exact zO 5 h Tryz.func47
def yB.s2 (Q:K) (b:Int→K) (d f:Pt) (g:Addr) (i:Sl) (j c:Int): K :=
 Ar (IntKind.wrap .i64 (c + 1)) fun a=>
 b a
def yB.s3 (Q:K) (c:Int→K) (d b:Pt) (a f:Addr) (p:Pt) (g:Sl) (j k:Int) (al:Bool): K :=
 Ite al
  (yB.s2 Q c d b a g j k)
  (Dr <| yZ fun S=>
  LdS S f Value.string fun q=>
  vG S f 3 fun r=>
  yx.call b q fun s=>
  Sv S<|
  jH.call s r fun l=>
  Ite (decide (l = 0))
   (Dr <| yZ fun S=>
   Nn p fun m=>
   LdS S m Sl.val fun t=>
   vG S a 4 fun u=>
   vG S f 3 fun v=>
   Bld #[.int .i64 0,.int .u64 0,.int .u64 0,.int .i64 0,(.string ⟨#[]⟩),.int .i64 0,.int .u64 0] ([(0,4),(4,3)][·]?) [(0,.agg u),(1,.agg v)] fun x=>
   Bld #[.int .i64 0,.int .u64 0,.int .u64 0,.int .i64 0,(.string ⟨#[]⟩),.int .i64 0,.int .u64 0] (fun i=>some (i * 7,7)) [(0,.agg x)] fun y=>
   New 224 y fun z=>
   Sv S<|
   Do Tryz.prog (Builtin.append_ #[222,222] 222 #[Sl.val t,(Sl.val (Sl.mk (some z) 1 1))]) Sl.val fun aa=>
   St m (Sl.val aa)<|
   yB.s2 Q c d b a g j k)
   (Ite (decide (l = 1))
    (Dr <| yZ fun S=>
    Nn p fun n=>
    LdS S (n.add 1) Sl.val fun ab=>
    vG S a 4 fun ac=>
    vG S f 3 fun ad=>
    Bld #[.int .i64 0,.int .u64 0,.int .u64 0,.int .i64 0,(.string ⟨#[]⟩),.int .i64 0,.int .u64 0] ([(0,4),(4,3)][·]?) [(0,.agg ac),(1,.agg ad)] fun ae=>
    Bld #[.int .i64 0,.int .u64 0,.int .u64 0,.int .i64 0,(.string ⟨#[]⟩),.int .i64 0,.int .u64 0] (fun i=>some (i * 7,7)) [(0,.agg ae)] fun af=>
    New 224 af fun ag=>
    Sv S<|
    Do Tryz.prog (Builtin.append_ #[222,222] 222 #[Sl.val ab,(Sl.val (Sl.mk (some ag) 1 1))]) Sl.val fun ah=>
    St (n.add 1) (Sl.val ah)<|
    yB.s2 Q c d b a g j k)
    (Dr<|
    Nn d fun o=>
    Ld (o.add 1) Value.map fun aj=>
    LdN a 4 fun ak=>
    DoU Tryz.prog (Instr.mapUpdate 196 (.map aj) (.agg ak) (.int .i64 1))<|
    yB.s2 Q c (some o) b a g j k)))
def yB.b1 (Q:K) (j:Int→K) (f k:Pt) (c:Addr) (g:Sl) (i d:Int): K :=
 Ite (decide (d < i))
  (Idx g d 3 fun l=>
  LdN l 3 fun m=>
  New 84 #[(.string ⟨#[]⟩),.int .i64 0,.int .u64 0] fun a=>
  StN a 3 m<|
  Ld a Value.string fun n=>
  xB.call f n fun o=>
  Dr <| yZ fun S=>
  Nn o fun b=>
  LdS S b Sl.val fun p=>
  vG S c 4 fun q=>
  zBn.call q fun r=>
  Sv S<|
  yA.call p r fun s=>
  Sv S<|
  Ite s
   (yB.s3 Q j f k c a (some b) g i d true)
   (LdS S (b.add 1) Sl.val fun t=>
   vG S c 4 fun u=>
   zBn.call u fun v=>
   Sv S<|
   yA.call t v fun x=>
   yB.s3 Q j f k c a (some b) g i d x))
  (Q)
def yB (c d:Pt) (f:Av) (a:Sl) (Q:K): K :=
 New 37 f fun b=>
 yN (α:=Int) (fun X x=>yB.b1 Q X c d b a (a.n:Int) x) 0
theorem zGZ (u v y z Q w) (h:yB u v y z Q w):yB.call u v y z Q w:=by
 have:∀ b,XH 2 b→JH 12 fun D=>∃ c d f g j k,D [(0,.pointer c),(1,.pointer d),(6,(.pointer (some f))),(11,Sl.val g),(12,.int .i64 j),(13,.int .i64 k)] (fun C=>C [(0,.pointer c),(1,.pointer d),(6,(.pointer (some f))),(11,Sl.val g),(12,.int .i64 j),(13,.int .i64 k)] (yB.s2 Q b c d f g j k)):=by intros; exact ⟨fun _ ⟨_,_,_,_,_,_,h⟩=>⟨_,_,h⟩⟩
 have:DH 9 2 [9,12] (.s [0,1,2,3,4,5,6,7] (.a [(8,1,.a [(9,0,.s [10,11] (.a [(12,0,.e)]))])])):=⟨⟩
 have:DH 11 2 [9,12] (.s [0,1,2,3,4,5,6,7] (.a [(8,1,.a [(9,0,.s [10,11] (.a [(12,0,.e)]))])])):=⟨⟩
 have:DH 7 1 [5] (.s [0,1,2,3,4] (.a [(5,0,.e)])):=⟨⟩
 have:DH 6 2 [5] (.s [0,1,2,4] (.a [(3,1,.a [(5,0,.e)])])):=⟨⟩
 have:∀ b,XH 2 b→JH 1000005 fun D=>∃ l m n o p q r t,D [(0,.pointer l),(1,.pointer m),(6,(.pointer (some n))),(9,(.pointer (some o))),(10,.pointer p),(11,Sl.val q),(12,.int .i64 r),(13,.int .i64 t)] (fun C=>∀ aa,C [(0,.pointer l),(1,.pointer m),(6,(.pointer (some n))),(9,(.pointer (some o))),(10,.pointer p),(11,Sl.val q),(12,.int .i64 r),(13,.int .i64 t),(36,.bool aa)] (yB.s3 Q b l m n o p q r t aa)):=by intros; exact ⟨fun _ ⟨_,_,_,_,_,_,_,_,h⟩=>⟨_,_,h⟩⟩
 have:DH 5 2 [14] (.s [0,1,2,3,4] (.a [(5,1,.a [(6,1,.s [7] (.i (.s [8,9,10,11,12,13,14,15] .e) (.s [8,9,10,11,12] (.a [(13,1,.a [(14,0,.s [15] .e)])]))))])])):=⟨⟩
 have:∀ ab ac ad ae af,LH 2 (fun x:Int=>[(0,.pointer ab),(1,.pointer ac),(6,(.pointer (some ad))),(11,Sl.val ae),(12,.int .i64 af),(13,.int .i64 x)]) (fun X x=>yB.b1 Q X ab ac ad ae af x):=fun _ _ _ _ _=>⟨⟩
 exact zO 77 h Tryz.func62
def uf (g:Pt) (i:Av) (Q:Bool→K): K :=
 New 37 i fun a=>
 Dr<|
 Nn g fun b=>
 Ld (b.add 1) Value.map fun c=>
 LdN a 4 fun d=>
 Rd Tryz.prog (Instr.lookup 196 (.map c) (.agg d) false) (Value.int .i64) fun f=>
 Q (decide ((0:Int) < f))
theorem zF5 (a b Q w) (h:uf a b Q w):uf.call a b Q w:=by
 exact zO 12 h Tryz.func98
def y8.s2 (Q:Bool→K) (a:K) (c:Addr) (d:Pt) (b:Bool): K :=
 Ite b
  (Q false)
  (a)
def y8.b1 (Q:Bool→K) (d:K) (a:Addr) (b:Pt): K :=
 Do Tryz.prog (Instr.next (.pointer b) false 0) id fun f=>
 Ext f 0 Value.bool fun g=>
 Ite g
  (Do Tryz.prog (Instr.entry (.pointer b)) id fun i=>
  Ext i 1 Value.pointer fun j=>
  Dr <| yZ fun S=>
  Nn j fun c=>
  LdS S (c.add 1) Sl.val fun k=>
  vG S a 4 fun l=>
  zBn.call l fun m=>
  Sv S<|
  yA.call k m fun n=>
  Sv S<|
  Ite n
   (y8.s2 Q d a b true)
   (LdS S c Sl.val fun o=>
   vG S a 4 fun p=>
   zBn.call p fun q=>
   Sv S<|
   zS.call o q fun r=>
   y8.s2 Q d a b (decide ((0:Int) < r))))
  (Q true)
def y8 (f:Pt) (g:Av) (Q:Bool→K): K :=
 New 37 g fun a=>
 Nn f fun b=>
 Ld b Value.map fun c=>
 Do Tryz.prog (Instr.range 195 (.map c)) Value.pointer fun d=>
 yN (α:=Unit) (fun X x=>y8.b1 Q (X ()) a d) ()
theorem zGa (d f Q w) (h:y8 d f Q w):y8.call d f Q w:=by
 have:∀ g,XH 2 g→JH 5 fun D=>∃ b c,D [(3,(.pointer (some b))),(11,.pointer c)] (fun C=>∀ j,C [(3,(.pointer (some b))),(11,.pointer c),(32,.bool j)] (y8.s2 Q (g ()) b c j)):=by intros; exact ⟨fun _ ⟨_,_,h⟩=>⟨_,_,h⟩⟩
 have:DH 4 2 [14] (.s [0,1,2,3,4] (.a [(5,1,.a [(6,1,.s [7] (.i (.s [8,9,10,11,12,13,14,15,16] .e) (.s [8,9,10,11,12] (.a [(13,1,.a [(14,0,.s [15,16] .e)])]))))])])):=⟨⟩
 have:∀ k l,LH 2 (fun x:Unit=>[(3,(.pointer (some k))),(11,.pointer l)]) (fun X x=>y8.b1 Q (X ()) k l):=fun _ _=>⟨⟩
 exact zO 33 h Tryz.func99
def xB.s1 (Q:Pt→K) (d:Pt) (f:ByteArray): K :=
 Nn d fun a=>
 Ld a Value.map fun b=>
 Rd Tryz.prog (Instr.lookup 195 (.map b) (.string f) false) Value.pointer fun c=>
 Q c
def xB (i:Pt) (b:ByteArray) (Q:Pt→K): K :=
 Nn i fun a=>
 Ld a Value.map fun c=>
 Rd Tryz.prog (Instr.lookup 195 (.map c) (.string b) false) Value.pointer fun d=>
 Ite ((d).isNone)
  (Ld a Value.map fun f=>
  New 226 #[Sl.val ⟨none,0,0⟩,Sl.val ⟨none,0,0⟩] fun g=>
  DoU Tryz.prog (Instr.mapUpdate 195 (.map f) (.string b) (.pointer (some g)))<|
  xB.s1 Q (some a) b)
  (xB.s1 Q (some a) b)
theorem zHZ (c d Q w) (h:xB c d Q w):xB.call c d Q w:=by
 have:JH 3 fun D=>∃ a b,D [(0,.pointer a),(1,.string b)] (fun C=>C [(0,.pointer a),(1,.string b)] (xB.s1 Q a b)):=⟨fun _ ⟨_,_,h⟩=>⟨_,_,h⟩⟩
 exact zO 25 h Tryz.func104
def zBn (b:Av) (Q:Value→K): K :=
 New 37 b fun a=>
 Q (.func (.func 160) #[] #[(.pointer (some a))])
theorem zP3 (a Q w) (h:zBn a Q w):zBn.call a Q w:=by
 exact zO 4 h Tryz.func106
def yV.b1 (Q t:K) (u b:Addr) (c:Pt): K :=
 Do Tryz.prog (Instr.next (.pointer c) false 0) id fun d=>
 Ext d 0 Value.bool fun f=>
 Ite f
  (Do Tryz.prog (Instr.entry (.pointer c)) id fun g=>
  Ext g 1 Value.pointer fun i=>
  Dr <| yZ fun S=>
  Nn i fun a=>
  LdS S a Sl.val fun j=>
  vG S b 4 fun k=>
  zBn.call k fun l=>
  Sv S<|
  zG.call j l fun m=>
  St a (Sl.val m)<|
  Dr <| yZ fun S=>
  LdS S (a.add 1) Sl.val fun n=>
  vG S b 4 fun o=>
  zBn.call o fun p=>
  Sv S<|
  zG.call n p fun q=>
  St (a.add 1) (Sl.val q)<|
  t)
  (Dr<|
  Ld (u.add 1) Value.map fun r=>
  LdN b 4 fun s=>
  Do Tryz.prog (Builtin.delete_ #[196,37] 0 #[.map r,.agg s]) id fun _=>
  Q)
def yV (f:Pt) (g:Av) (Q:K): K :=
 New 37 g fun b=>
 Nn f fun a=>
 Ld a Value.map fun c=>
 Do Tryz.prog (Instr.range 195 (.map c)) Value.pointer fun d=>
 yN (α:=Unit) (fun X x=>yV.b1 Q (X ()) a b d) ()
theorem zGb (b c Q w) (h:yV b c Q w):yV.call b c Q w:=by
 have:DH 5 2 [7,10] (.s [0,1,2,3,4,5] (.a [(6,1,.a [(7,0,.s [8,9] (.a [(10,0,.e)]))])])):=⟨⟩
 have:DH 4 2 [7,10] (.s [0,1,2,3,4,5] (.a [(6,1,.a [(7,0,.s [8,9] (.a [(10,0,.e)]))])])):=⟨⟩
 have:DH 6 1 [5] (.s [0,1,2,3,4] (.a [(5,0,.e)])):=⟨⟩
 have:∀ d f g,LH 2 (fun x:Unit=>[(0,(.pointer (some d))),(3,(.pointer (some f))),(10,.pointer g)]) (fun X x=>yV.b1 Q (X ()) d f g):=fun _ _ _=>⟨⟩
 exact zO 40 h Tryz.func156
theorem zF6 (b c Q w) (h:yV b c Q w):yV.zSx b c Q w:=by
 have:DH 5 2 [7,10] (.s [0,1,2,3,4,5] (.a [(6,1,.a [(7,0,.s [8,9] (.a [(10,0,.e)]))])])):=⟨⟩
 have:DH 4 2 [7,10] (.s [0,1,2,3,4,5] (.a [(6,1,.a [(7,0,.s [8,9] (.a [(10,0,.e)]))])])):=⟨⟩
 have:DH 6 1 [5] (.s [0,1,2,3,4] (.a [(5,0,.e)])):=⟨⟩
 have:∀ d f g,LH 2 (fun x:Unit=>[(0,(.pointer (some d))),(3,(.pointer (some f))),(10,.pointer g)]) (fun X x=>yV.b1 Q (X ()) d f g):=fun _ _ _=>⟨⟩
 exact zXO 40 h Tryz.func156
def qK.s2 (Q:K) (b:Int→K) (d f g:Addr) (i:Sl) (j c:Int): K :=
 Ar (IntKind.wrap .i64 (c + 1)) fun a=>
 b a
def qK.b1 (Q:K) (j:Int→K) (b a c:Addr) (g:Sl) (i d:Int): K :=
 Ite (decide (d < i))
  (Idx g d 7 fun k=>
  LdN k 7 fun l=>
  New 224 #[.int .i64 0,.int .u64 0,.int .u64 0,.int .i64 0,(.string ⟨#[]⟩),.int .i64 0,.int .u64 0] fun f=>
  StN f 7 l<|
  LdN c 4 fun m=>
  LdN (f.add 4) 3 fun n=>
  jH.call m n fun o=>
  Ite (decide (o ≠ 0))
   (Dr<|
   Ld b Value.pointer fun p=>
   Nn p fun q=>
   Ld (q.add 1) Value.map fun r=>
   LdN f 4 fun s=>
   DoU Tryz.prog (Instr.mapUpdate 196 (.map r) (.agg s) (.int .i64 1))<|
   qK.s2 Q j b a c g i d)
   (qK.s2 Q j b a c g i d))
  (Dr <| yZ fun S=>
  LdS S a Value.pointer fun t=>
  LdS S a Value.pointer fun u=>
  Nn u fun v=>
  LdS S (v.add 1) Sl.val fun x=>
  zG.call x (.func (.func 200) #[] #[(.pointer (some c)),(.pointer (some a)),(.pointer (some b))]) fun y=>
  Sv S<|
  Nn t fun z=>
  St (z.add 1) (Sl.val y)<|
  Q)
def qK (m o:Pt) (f:ByteArray) (Q:K): K :=
 New 130 #[.pointer m] fun b=>
 Ld b Value.pointer fun g=>
 xB.call g f fun i=>
 yx.call o f fun j=>
 New 219 #[.pointer none] fun a=>
 New 87 #[.bool false,Sl.val ⟨none,0,0⟩,.int .i64 0,.int .u64 0] fun c=>
 St a (.pointer i)<|
 StN c 4 j<|
 Ld a Value.pointer fun k=>
 Nn k fun l=>
 Ld l Sl.val fun d=>
 yN (α:=Int) (fun X x=>qK.b1 Q X b a c d (d.n:Int) x) 0
theorem zGc (j k l Q w) (h:qK j k l Q w):qK.call j k l Q w:=by
 have:∀ m,XH 3 m→JH 7 fun D=>∃ b c d f g i,D [(3,(.pointer (some b))),(6,(.pointer (some c))),(7,(.pointer (some d))),(19,Sl.val f),(20,.int .i64 g),(21,.int .i64 i)] (fun C=>C [(3,(.pointer (some b))),(6,(.pointer (some c))),(7,(.pointer (some d))),(19,Sl.val f),(20,.int .i64 g),(21,.int .i64 i)] (qK.s2 Q m b c d f g i)):=by intros; exact ⟨fun _ ⟨_,_,_,_,_,_,h⟩=>⟨_,_,h⟩⟩
 have:DH 6 1 [6] (.s [4,0,1,2,3,5] (.a [(6,0,.e)])):=⟨⟩
 have:DH 8 2 [9] (.s [5,0,1,2,3,4] (.a [(6,1,.s [7,8] (.a [(9,0,.e)]))])):=⟨⟩
 have:∀ n o p q r,LH 3 (fun x:Int=>[(3,(.pointer (some n))),(6,(.pointer (some o))),(7,(.pointer (some p))),(19,Sl.val q),(20,.int .i64 r),(21,.int .i64 x)]) (fun X x=>qK.b1 Q X n o p q r x):=fun _ _ _ _ _=>⟨⟩
 exact zO 46 h Tryz.func159
def zFW (f:Av) (g:Addr) (Q:Bool→K): K :=
 New 224 f fun c=>
 LdN c 4 fun a=>
 LdN g 4 fun b=>
 Pu Tryz.prog (do eqGuard .eql 37 (.tmp 5) (.tmp 6) (.agg a) (.agg b); binOp .eql 37 (.agg a) (.agg b):Sem Value) Value.bool fun d=>
 Q d
theorem zMU (a b Q w) (h:zFW a b Q w):zFW.call a b Q w:=by
 exact zO 8 h Tryz.func160
def qY.s1 (Q:Bool→K) (a:Int): K :=
 Q (decide (a ≠ 1))
def qY (v:Av) (x c y:Addr) (Q:Bool→K): K :=
 New 224 v fun b=>
 LdN x 4 fun d=>
 LdN (b.add 4) 3 fun f=>
 jH.call d f fun a=>
 Ite (decide (a = 0))
  (Dr <| yZ fun S=>
  LdS S c Value.pointer fun g=>
  LdS S c Value.pointer fun j=>
  Nn j fun k=>
  LdS S k Sl.val fun l=>
  vG S b 7 fun m=>
  Bld #[.int .i64 0,.int .u64 0,.int .u64 0,.int .i64 0,(.string ⟨#[]⟩),.int .i64 0,.int .u64 0] (fun i=>some (i * 7,7)) [(0,.agg m)] fun n=>
  New 224 n fun o=>
  Sv S<|
  Do Tryz.prog (Builtin.append_ #[222,222] 222 #[Sl.val l,(Sl.val (Sl.mk (some o) 1 1))]) Sl.val fun p=>
  Sv S<|
  Nn g fun q=>
  St q (Sl.val p)<|
  qY.s1 Q a)
  (Ite (decide (a = 2))
   (Dr<|
   Ld y Value.pointer fun r=>
   Nn r fun s=>
   Ld (s.add 1) Value.map fun t=>
   LdN b 4 fun u=>
   DoU Tryz.prog (Instr.mapUpdate 196 (.map t) (.agg u) (.int .i64 1))<|
   qY.s1 Q a)
   (qY.s1 Q a))
theorem zFZ (c d f g Q w) (h:qY c d f g Q w):qY.call c d f g Q w:=by
 have:JH 7 fun D=>∃ b,D [(6,.int .i64 b)] (fun C=>C [(6,.int .i64 b)] (qY.s1 Q b)):=⟨fun _ ⟨_,h⟩=>⟨_,_,h⟩⟩
 have:DH 4 2 [10] (.s [0,1,2,3,4,5] (.a [(6,1,.a [(7,1,.s [8,9] (.a [(10,0,.e)]))])])):=⟨⟩
 have:DH 6 1 [6] (.s [4,0,1,2,3,5] (.a [(6,0,.e)])):=⟨⟩
 exact zO 34 h Tryz.func200
end
section
open Go Go.Sep Go.Sep.Bt
noncomputable def btS:BtT ByteArray where
 P:=Tryz.prog
 tI:=zDK
 tSI:=zCq
 tV:=qA
 tK:=zCp
 tSK:=zCJ
 tN:=zDI
 tT:=zDJ
 nv:=4
 kz:=.string ⟨#[]⟩
 vz:=[.bool false,Sl.val ⟨none,0,0⟩,.int .i64 0,.int .u64 0]
 kV:=Value.string
 cv:=.func (.func 231) #[] #[]
 bsC:=zA.call
 nsearchC:=yR.call
 nputC:=zU.call
 insIC:=zN.call
 insKC:=zY.call
 cloneIC:=zu.call
 cloneKC:=zw.call
def jA (a b:ByteArray):Int:=if a.toList < b.toList then -1 else if a.toList = b.toList then 0 else 1
theorem toList_inj {a b:ByteArray} (h:a.toList = b.toList):a = b:=by
 obtain ⟨x,rfl⟩:=zLQ a
 obtain ⟨y,rfl⟩:=zLQ b
 rw [uU,uU] at h
 rw [h]
theorem zDr {a b:ByteArray}:jA a b < 0 ↔ a.toList < b.toList:=by
 unfold jA
 split
 ·simp [*]
 ·split <;> simp [*]
theorem zTz {a b:ByteArray}:jA a b = 0 ↔ a = b:=by
 unfold jA
 split
 ·rename_i h
  simp only [show ¬ ((-1:Int) = 0) by omega,false_iff]
  rintro rfl; exact List.lt_irrefl _ h
 ·split
  ·rename_i h; simp [toList_inj h]
  ·rename_i h
   simp only [show ¬ ((1:Int) = 0) by omega,false_iff]
   rintro rfl; exact h rfl
theorem zP4 {x y:List UInt8} (h1:¬ x < y) (h2:¬ x = y):y < x:=by
 have h4:y ≤ x:=by rw [← List.not_lt]; exact h1
 rcases List.le_iff_lt_or_eq.1 h4 with h5 | h5
 ·exact h5
 ·exact absurd h5.symm h2
theorem zVX {a b:ByteArray}:0 < jA a b ↔ b.toList < a.toList:=by
 unfold jA
 split
 ·rename_i h
  simp only [show ¬ (0 < (-1:Int)) by omega,false_iff]
  exact fun h2=>List.lt_irrefl _ (List.lt_trans h h2)
 ·split
  ·rename_i h
   simp only [show ¬ (0 < (0:Int)) by omega,false_iff]
   rw [h]; exact List.lt_irrefl _
  ·rename_i h1 h2
   simp only [show 0 < (1:Int) by omega,true_iff]
   exact zP4 h1 h2
theorem zLX {B:World} {Γ:List zB} {x:ByteArray} {q:Bool→K} (h:HG B Γ (q false)):HG B Γ (cmp_isNaN_string.call x q):=fun w hw=>zHW _ _ _ (by unfold cmp_isNaN_string; simpa using h w hw)
theorem zOl {B:World} {Γ:List zB} {x y:ByteArray} {q:Int→K} (h:HG B Γ (q (jA x y))):HG B Γ (jT.call x y q):=fun w hw=>by
 refine zF3 _ _ _ _ ?_
 refine hg hw ?_
 unfold jT
 refine zLX (zLX ?_)
 refine s_f ?_ rfl
 refine s_f ?_ rfl
 rw [zZM,zCM]
 refine zH (fun h1=>?_) fun h1=>?_
 ·have e:jA x y = -1:=by unfold jA; rw [if_pos (by simpa using h1)]
  rw [e] at h; exact h
 refine zH (fun h2=>?_) fun h2=>?_
 ·have h3:y.toList < x.toList:=by simpa using h2
  have e:jA x y = 1:=by
   unfold jA
   rw [if_neg (by simpa using h1),if_neg fun h4=>by rw [h4] at h3; exact List.lt_irrefl _ h3]
  rw [e] at h; exact h
 ·have h3:¬ y.toList < x.toList:=by simpa using h2
  have e:jA x y = 0:=by
   unfold jA
   rw [if_neg (by simpa using h1),if_pos (Classical.byContradiction fun h4=>h3 (zP4 (by simpa using h1) h4))]
  rw [e] at h; exact h
theorem zJM:BtOk btS jA where
 kf:=fun _=>rfl
 kzf:=rfl
 vz:=⟨rfl,rfl⟩
 TI:=by kernel_rfl
 ZI:=by kernel_rfl
 TK:=by kernel_rfl
 ZK:=by kernel_rfl
 tr:=fun h1 h2=>zDr.2 (List.lt_trans (zDr.1 h1) (zDr.1 h2))
 eq:=zTz
 sw:=by intro a b; rw [zDr,zVX]
 cmp:=fun a b vs q hl h=>by
  refine zXW ?_
  refine fun w hw=>zBZ _ _ _ _ ?_
  refine hg hw ?_
  clear hw w
  unfold xg
  refine zR fun t=>?_
  refine yD (b:=t) (x:=a) ?_
  refine zOl ?_
  exact zC h
 bs:=fun s k Q w h=>xL _ _ _ _ _ h
 search:=fun n k Q w h=>zBq _ _ _ _ h
 put:=fun n x Q w h=>zCR _ _ _ _ h
 insI:=⟨_,_,fun s i v Q w h=>vS _ _ _ _ _ h⟩
 zPy:=⟨_,_,fun s i v Q w h=>vT _ _ _ _ _ h⟩
 cloneI:=fun s Q w h=>vX _ _ _ h
 zH5:=fun s Q w h=>vY _ _ _ h
section
variable {B:World} {Γ:List zB}
theorem zRD {Q:Option Addr→K} (h:∀ t,HG B (vK btS jA t []::Γ) (Q (some ⟨t,0,none⟩))):HG B Γ (vN.call Q):=fun w hw=>
 zDa _ _ (show zZN btS Q w from hg hw (zTw h))
theorem zRE {t:Nat} {L:List btS.It} {k:ByteArray} {Q:Array Value→Bool→K} (hfound:∀ A v C,L = A++(k,v)::C→HG B (vK btS jA t L::Γ) (Q v.1.toArray true)) (hnot:(∀ A C,L = A++C→(∀ x ∈ A,jA x.1 k < 0)→(∀ x ∈ C,jA k x.1 < 0)→HG B (vK btS jA t L::Γ) (Q btS.vz.toArray false))) :
  HG B (vK btS jA t L::Γ) (yj.call (some ⟨t,0,none⟩) k Q):=fun w hw=>
 zCP _ _ _ _ (show zZO btS (some ⟨t,0,none⟩) k Q w from hg hw (zTy zJM hfound hnot))
theorem zRF {t:Nat} {L:List btS.It} {k:ByteArray} {v:Cel btS.nv} {Q:Array Value→Bool→K} (hL:L.length < 1000000000) (h:∀ L' old had,zHV jA (btS.z0 zJM.vz) L k v L' old had→HG B (vK btS jA t L'::Γ) (Q old.1.toArray had)) :
  HG B (vK btS jA t L::Γ) (zJ.call (some ⟨t,0,none⟩) k v.1.toArray Q):=fun w hw=>
 zCQ _ _ _ _ _ (show zZQ btS (some ⟨t,0,none⟩) k v.1.toArray Q w from hg hw (zTx zJM hL h))
end
end
section
open Go Go.Sep
section
variable {B w:World} {Γ:List zB}
theorem zJN {b:Sl} {xs:List UInt8} {k:Sl→K} (h:Holds B Γ w) (hr:∀ w,Holds B Γ w→RdB w b xs) (hl:xs.length ≤ 1000000000)
  (hk:∀ s w,Holds B (Bytes yO s xs::Γ) w→s.a.isNone = b.a.isNone→k s w):xu.call b k w:=by
 refine zGY _ _ _ ?_
 unfold xu
 refine zSK (fun hb=>?_) (fun hb=>?_)
 ·have hx:xs = []:=by
   have h1:=(hr w h).nil (by simpa using hb)
   have h2:=(hr w h).len
   rw [h1] at h2; simpa using h2
  subst hx
  exact hk _ _ (h.zAk _ _) (by rw [hb]; rfl)
 ·refine zPV h ?_
  clear h
  intro t w h
  try simp only [uV,Nat.zero_add,Nat.reduceAdd]
  have hn:b.n = xs.length:=by have h2:=(hr w h.tail).len; simpa using h2.symm
  refine zLL (vs:=[]) (h.imp (zEI rfl rfl)) (by kernel_rfl) (by kernel_rfl) (by':=1) (by kernel_rfl) zMQ rfl (hr w h.tail) (zFX _) (by simp only [hn]; omega) (by decide) fun s w h hs ha=>?_
  refine hk s w h ?_
  rw [hb]
  have:=ha rfl
  cases hh:s.a <;> simp [hh] at this ⊢
end
end
section
open Go Go.Sep Go.Sep.Bt
structure Rec where
 has:Bool
 val:List UInt8
 home:Int
 cnt:Int
def Rec.ok (r:Rec):Prop:=0 ≤ r.cnt∧r.cnt ≤ 18446744073709551615∧r.val.length ≤ 1000000000
abbrev zBv (r:Rec) (s:Sl):List Value:=[.bool r.has,s.val,.int .i64 r.home,.int .u64 r.cnt]
abbrev zIr (r:Rec) (s:Sl):Array Value:=#[.bool r.has,s.val,.int .i64 r.home,.int .u64 r.cnt]
abbrev recC (x:Rec×Sl):Cel 4:=⟨zBv x.1 x.2,rfl,rfl⟩
abbrev yY:=List (ByteArray×Rec)
abbrev zBQ:=ByteArray×(Rec×Sl)
abbrev jd (x:zBQ):zB:=Bytes yO x.2.2 x.2.1.val
abbrev ji (x:zBQ):btS.It:=(x.1,recC x.2)
abbrev zAd (x:zBQ):ByteArray×Rec:=(x.1,x.2.1)
def zEs (k:List UInt8) (n:Nat):Nat:=k.foldl (fun s b=>(s + b.toNat) % n) 0
def getM (M:yY) (k:ByteArray):Option Rec:=(M.find? fun x=>decide (x.1 = k)).map Prod.snd
def zEt (M:yY) (k:ByteArray) (r:Rec):yY:=match M with
 | []=>[(k,r)]
 | x::M=>if jA x.1 k < 0 then x::zEt M k r else if x.1 = k then (k,r)::M else (k,r)::x::M
def vo (n:Nat) (M:yY) (k:ByteArray):Rec:=(getM M k).getD ⟨false,[],zEs k.toList n,0⟩
def zE6 (n:Nat) (M:yY) (k:ByteArray) (h:Int):yY×Int :=
 if h < 0∨(n:Int) ≤ h then (M,1) else if (vo n M k).cnt = 18446744073709551615 then (M,111) else (zEt M k { vo n M k with home:=h,cnt:=(vo n M k).cnt + 1 },0)
theorem zP5 (M:yY) (k:ByteArray) (r:Rec):(zEt M k r).length ≤ M.length + 1:=by
 induction M with
 | nil=>simp [zEt]
 | cons x M ih=>
  unfold zEt
  split
  ·simp; omega
  ·split <;> simp
theorem zLY {M:yY} {k:ByteArray} {r:Rec} {x:ByteArray×Rec} (h:x ∈ zEt M k r):x = (k,r)∨x ∈ M:=by
 induction M with
 | nil=>simpa [zEt] using h
 | cons y M ih=>
  unfold zEt at h
  split at h
  ·rcases List.mem_cons.1 h with rfl | h
   ·exact .inr List.mem_cons_self
   ·rcases ih h with h | h
    ·exact .inl h
    ·exact .inr (List.mem_cons_of_mem _ h)
  ·split at h
   ·rcases List.mem_cons.1 h with rfl | h
    ·exact .inl rfl
    ·exact .inr (List.mem_cons_of_mem _ h)
   ·rcases List.mem_cons.1 h with rfl | h
    ·exact .inl rfl
    ·exact .inr h
theorem zLZ {M:yY} {k:ByteArray} {r:Rec} (h:getM M k = some r):(k,r) ∈ M:=by
 simp only [getM,Option.map_eq_some_iff] at h
 obtain ⟨x,hx,rfl⟩:=h
 have h1:=List.mem_of_find?_eq_some hx
 have h2:=List.find?_some hx
 simp only [decide_eq_true_eq] at h2
 rw [← h2]; exact h1
theorem zVY {A C:yY} {k:ByteArray} {r:Rec} (hA:∀ x ∈ A,x.1 ≠ k):getM (A++(k,r)::C) k = some r:=by
 unfold getM
 rw [List.find?_append,List.find?_eq_none.2 (fun x hx=>by simpa using hA x hx)]
 simp
theorem getM_none {M:yY} {k:ByteArray} (h:∀ x ∈ M,x.1 ≠ k):getM M k = none:=by
 unfold getM
 rw [List.find?_eq_none.2 (fun x hx=>by simpa using h x hx)]; rfl
theorem zVZ {A C:yY} {k:ByteArray} {r0 r:Rec} (hA:∀ x ∈ A,jA x.1 k < 0):zEt (A++(k,r0)::C) k r = A++(k,r)::C:=by
 induction A with
 | nil=>
  have:¬ jA k k < 0:=fun h=>List.lt_irrefl _ (zDr.1 h)
  simp [zEt,this]
 | cons x A ih=>
  rw [List.cons_append,zEt,if_pos (hA x List.mem_cons_self),ih (fun y hy=>hA y (List.mem_cons_of_mem _ hy))]; rfl
theorem zVa {A C:yY} {k:ByteArray} {r:Rec} (hA:∀ x ∈ A,jA x.1 k < 0) (hC:∀ x ∈ C,jA k x.1 < 0):zEt (A++C) k r = A++(k,r)::C:=by
 induction A with
 | nil=>
  cases C with
  | nil=>rfl
  | cons y C=>
   have h:=zDr.1 (hC y List.mem_cons_self)
   have h1:¬ jA y.1 k < 0:=fun h2=>List.lt_irrefl _ (List.lt_trans h (zDr.1 h2))
   have h2:¬ y.1 = k:=fun e=>by rw [e] at h; exact List.lt_irrefl _ h
   simp [zEt,h1,h2]
 | cons x A ih=>
  rw [List.cons_append,zEt,if_pos (hA x List.mem_cons_self),ih (fun y hy=>hA y (List.mem_cons_of_mem _ hy))]; rfl
def ze (st n:Nat) (M:yY):zB:=ex fun t=>ex fun X:List zBQ=>Sep.stars [pur (M = X.map zAd∧(∀ x ∈ M,x.2.ok)∧1 ≤ n∧n ≤ 3),blk st (.cells [.int .i64 n,.pointer (some ⟨t,0,none⟩)].toArray qI (0,0)),vK btS jA t (X.map ji),Sep.stars (X.map jd)]
section
variable {B:World} {Γ Δ:List zB}
instance (priority:=high) zZu {st n:Nat} {M:yY}:Sep.Own st (ze st n M::Γ) (ze st n M) Γ:=⟨.refl _⟩
theorem zHD {st n:Nat} {M:yY} {k:K} (h:∀ t (X:List zBQ),M = X.map zAd→(∀ x ∈ M,x.2.ok)→1 ≤ n→n ≤ 3→HG B (blk st (.cells [.int .i64 n,.pointer (some ⟨t,0,none⟩)].toArray qI (0,0))::vK btS jA t (X.map ji)::Sep.stars (X.map jd)::Γ) k):HG B (ze st n M::Γ) k :=
 zC1 fun t=>zC1 fun X=>zBX <| zGU fun ⟨h1,h2,h3,h4⟩=>h t X h1 h2 h3 h4
theorem zBV {st n t:Nat} {X:List zBQ} {k:K} (h2:∀ x ∈ X.map zAd,x.2.ok) (h3:1 ≤ n) (h4:n ≤ 3) (h:HG B (ze st n (X.map zAd)::Γ) k):HG B (blk st (.cells [.int .i64 n,.pointer (some ⟨t,0,none⟩)].toArray qI (0,0))::vK btS jA t (X.map ji)::Sep.stars (X.map jd)::Γ) k:=fun w hw=>by
 refine h w ?_
 have h3:Holds B (Sep.stars [pur (X.map zAd = X.map zAd∧(∀ x ∈ X.map zAd,x.2.ok)∧1 ≤ n∧n ≤ 3),blk st (.cells [.int .i64 n,.pointer (some ⟨t,0,none⟩)].toArray qI (0,0)),vK btS jA t (X.map ji),Sep.stars (X.map jd)]::Γ) w:=Holds.flat.2 (Holds.pur.2 ⟨⟨rfl,h2,h3,h4⟩,hw⟩)
 exact h3.imp fun g hg=>⟨t,X,hg⟩
theorem zOm {k:ByteArray} {n:Nat} {q:Int→K} (h1:1 ≤ n) (hn:n ≤ 1000) (hk:k.size < 1000000000000) (h:HG B Γ (q (zEs k.toList n:Nat))):HG B Γ (jB.call k n q):=fun w hw=>by
 refine zJL _ _ _ _ ?_
 refine hg hw ?_
 clear hw w
 unfold jB
 refine s_f ?_
 obtain ⟨l,rfl⟩:=zLQ k
 rw [uU] at h
 have hsz:(bs l).size = l.length:=rfl
 refine j4 (fun x:Int×Int=>∃ i s:Nat,x = ((s:Int),(i:Int))∧i ≤ l.length∧s = zEs (l.take i) n∧s < n) (fun x=>l.length - x.2.toNat) ⟨0,0,rfl,Nat.zero_le _,rfl,by omega⟩ fun k' x hx hk'=>?_
 obtain ⟨i,s,rfl,hi,hs,hsn⟩:=hx
 unfold jB.b1
 dsimp only
 refine zH (fun hb=>?_) fun hb=>?_
 ·have hil:i < l.length:=by simp only [decide_eq_true_eq] at hb; omega
  refine fun w hw=>⟨(l[i].toNat:Int),l[i],by omega,?_,rfl,hg hw ?_⟩
  ·show (bs l)[((i:Nat):Int).toNat]? = _
   rw [Int.toNat_natCast]
   exact Array.getElem?_eq_getElem (xs:=l.toArray) (by simpa using hil)
  have hb8:l[i].toNat < 256:=l[i].toNat_lt
  refine qU ?_
  refine qU ?_
  refine zTv (by omega) ?_
  refine zBK (e':=(((s + l[i].toNat) % n:Nat):Int)) ?_ ?_
  ·rw [Int.tmod_eq_emod_of_nonneg (by omega)]; simp
  refine qU ?_
  refine hk' _ ⟨i + 1,(s + l[i].toNat) % n,by simp,hil,?_,Nat.mod_lt _ (by omega)⟩ (by simp only; omega)
  rw [hs,List.take_succ_eq_append_getElem hil,zEs,zEs,List.foldl_append]; rfl
 ·have hil:i = l.length:=by simp only [decide_eq_false_iff_not] at hb; omega
  rw [hil,List.take_length] at hs
  rw [hs]
  exact h
theorem zBW {b:Sl} {xs:List UInt8} {q:Sl→K} (hr:∀ w,Holds B Γ w→RdB w b xs) (hl:xs.length ≤ 1000000000) (hk:∀ s,s.a.isNone = b.a.isNone→HG B (Bytes yO s xs::Γ) (q s)):HG B Γ (xu.call b q):=fun w hw=>
 zJN hw hr hl fun s w h hs=>hk s hs w h
theorem zMV {n:Nat} {q:Option Addr→Int→K} (h1:1 ≤ n) (h3:n ≤ 3) (h:∀ st,HG B (ze st n []::Γ) (q (some ⟨st,0,none⟩) 0)):HG B Γ (zBA.call n q):=fun w hw=>by
 refine zOj _ _ _ ?_
 refine hg hw ?_
 clear hw w
 unfold zBA
 refine s_f ?_
 unfold zBA.s1
 refine s_f ?_
 refine zRD fun t=>?_
 show HG B (vK btS jA t (([]:List zBQ).map ji)::Γ) _
 refine zR fun st=>?_
 refine fun w hw=>?_
 refine hg (show Holds B (Sep.stars (([]:List zBQ).map jd)::_) w from Holds.flat.2 hw) ?_
 refine zC (Δ:=blk st (.cells [.int .i64 n,.pointer (some ⟨t,0,none⟩)].toArray qI (0,0))::vK btS jA t (([]:List zBQ).map ji)::Sep.stars (([]:List zBQ).map jd)::Γ) ?_
 exact zBV (by simp) h1 h3 (h st)
theorem zJO {X:List zBQ} {A C:List btS.It} {k:ByteArray} {v:Cel btS.nv} (e:X.map ji = A++((k,v):btS.It)::C):∃ XA r XC,X = XA++(k,r)::XC∧A = XA.map ji∧C = XC.map ji∧v = recC r:=by
 obtain ⟨XA,X2,rfl,rfl,h2⟩:=List.map_eq_append_iff.1 e
 obtain ⟨⟨k',r⟩,XC,rfl,h3,rfl⟩:=List.map_eq_cons_iff.1 h2
 simp only [ji,Prod.mk.injEq] at h3
 obtain ⟨rfl,rfl⟩:=h3
 exact ⟨XA,r,XC,rfl,rfl,rfl,rfl⟩
theorem zM8 {X:List zBQ} {A C:List btS.It} (e:X.map ji = A++C):∃ XA XC,X = XA++XC∧A = XA.map ji∧C = XC.map ji:=by
 obtain ⟨XA,X2,rfl,rfl,rfl⟩:=List.map_eq_append_iff.1 e
 exact ⟨XA,X2,rfl,rfl,rfl⟩
theorem zJP {X Y:List zBQ} {k:ByteArray} {r:Rec×Sl} (h:Srt jA ((X++(k,r)::Y).map ji)):∀ x ∈ X,jA x.1 k < 0:=fun x hx=>by
 rw [List.map_append] at h
 exact (List.pairwise_append.1 h).2.2 (ji x) (List.mem_map.2 ⟨x,hx,rfl⟩) (ji (k,r)) (by simp)
theorem ne_of_lt {a b:ByteArray} (h:jA a b < 0):a ≠ b:=fun e=>by rw [e] at h; exact List.lt_irrefl _ (zDr.1 h)
theorem zYn {t4 r5:Nat} {r:Rec} {s:Sl} {z:List Value} {q:Array Value→K} (hz:z.length = 4) (hzf:z.all yX = true) (hr:∀ w,Holds B Γ w→RdB w s r.val) (hl:r.val.length ≤ 1000000000) (h:∀ s',s'.a.isNone = s.a.isNone→HG B (Bytes yO s' r.val::Γ) (q (zIr r s'))) :
  HG B (blk r5 (.cells (zBv r s).toArray qA (0,0))::blk t4 (.cells z.toArray qA (0,0))::Γ) (yx.s1 q ⟨t4,0,none⟩ ⟨r5,0,none⟩):=by
 unfold yx.s1
 refine yD (b:=r5) (x:=s) ?_
 refine zBW (fun w hw=>hr w hw.tail.tail) hl fun s' hs'=>?_
 refine zBY (b:=r5) ?_
 refine qW (b:=r5) ?_
 refine qX (b:=t4) ?_ hz rfl rfl
 refine qW (b:=t4) ?_
 exact zC (h s' hs')
theorem zAM {st n:Nat} {M:yY} {k:ByteArray} {q:Array Value→K} (hk:k.size < 1000000000000) (h:∀ s,(vo n M k).ok→HG B (Bytes yO s (vo n M k).val::ze st n M::Γ) (q (zIr (vo n M k) s))):HG B (ze st n M::Γ) (yx.call (some ⟨st,0,none⟩) k q):=fun w hw=>by
 refine zH6 _ _ _ _ ?_
 refine hg hw ?_
 clear hw w
 refine zHD fun t X hM hok h1 h3=>?_
 unfold yx
 refine zR fun t4=>?_
 refine vg ?_
 refine yD (b:=st) (x:=some ⟨t,0,none⟩) ?_
 refine zQ t ?_
 refine zLU fun hs=>?_
 refine zRE (fun A v C e=>?_) fun A C e hA hC=>?_
 ·obtain ⟨XA,r,XC,rfl,rfl,rfl,rfl⟩:=zJO e
  have hlt:=zJP hs
  have hg':getM M k = some r.1:=by
   rw [hM,List.map_append]
   exact zVY fun x hx=>by
    obtain ⟨y,hy,rfl⟩:=List.mem_map.1 hx
    exact ne_of_lt (hlt y hy)
  have hr:vo n M k = r.1:=by unfold vo; rw [hg']; rfl
  have hrok:r.1.ok:=hok (k,r.1) (zLZ hg')
  rw [hr] at h
  refine zR fun r5=>?_
  refine qX (b:=r5) (l':=zBv r.1 r.2) ?_
  refine s_f ?_
  refine zC (Δ:=blk r5 (.cells (zBv r.1 r.2).toArray qA (0,0))::blk t4 (.cells [.bool false,Sl.val ⟨none,0,0⟩,.int .i64 0,.int .u64 0].toArray qA (0,0))::blk st (.cells [.int .i64 n,.pointer (some ⟨t,0,none⟩)].toArray qI (0,0))::vK btS jA t ((XA++(k,r)::XC).map ji)::Sep.stars ((XA++(k,r)::XC).map jd)::Γ) ?_
  refine zYn (r:=r.1) rfl rfl (fun w hw=>?_) hrok.2.2 fun s' hs'=>?_
  ·have h5:Holds B (jd (k,r)::_) w:=(Holds.flat.1 (hw.tail.tail)).perm zGV |>.perm List.perm_middle
   exact h5.rdC List.mem_cons_self
  ·rw [hM] at h
   refine zC (Δ:=blk st (.cells [.int .i64 n,.pointer (some ⟨t,0,none⟩)].toArray qI (0,0))::vK btS jA t ((XA++(k,r)::XC).map ji)::Sep.stars ((XA++(k,r)::XC).map jd)::Bytes yO s' r.1.val::Γ) ?_
   refine zBV (by rw [← hM]; exact hok) h1 h3 ?_
   exact zC (h s' hrok)
 ·obtain ⟨XA,XC,rfl,rfl,rfl⟩:=zM8 e
  have hg':getM M k = none:=by
   rw [hM,List.map_append]
   refine getM_none fun x hx=>?_
   rcases List.mem_append.1 hx with hx | hx
   ·obtain ⟨y,hy,rfl⟩:=List.mem_map.1 hx
    exact ne_of_lt (hA (ji y) (List.mem_map.2 ⟨y,hy,rfl⟩))
   ·obtain ⟨y,hy,rfl⟩:=List.mem_map.1 hx
    exact Ne.symm (ne_of_lt (hC (ji y) (List.mem_map.2 ⟨y,hy,rfl⟩)))
  have hr:vo n M k = ⟨false,[],zEs k.toList n,0⟩:=by unfold vo; rw [hg']; rfl
  rw [hr] at h
  refine zR fun r5=>?_
  refine qX (b:=r5) (l':=zBv ⟨false,[],0,0⟩ ⟨none,0,0⟩) ?_
  refine s_t ?_
  refine yD (b:=st) (x:=(n:Int)) ?_
  refine zOm h1 (by omega) hk ?_
  refine zBY (b:=r5) ?_
  refine zC (Δ:=blk r5 (.cells (zBv ⟨false,[],zEs k.toList n,0⟩ ⟨none,0,0⟩).toArray qA (0,0))::blk t4 (.cells [.bool false,Sl.val ⟨none,0,0⟩,.int .i64 0,.int .u64 0].toArray qA (0,0))::blk st (.cells [.int .i64 n,.pointer (some ⟨t,0,none⟩)].toArray qI (0,0))::vK btS jA t ((XA++XC).map ji)::Sep.stars ((XA++XC).map jd)::Γ) ?_
  refine zYn (r:=⟨false,[],zEs k.toList n,0⟩) rfl rfl (fun w hw=>RdC.none') (by simp) fun s' hs'=>?_
  rw [hM] at h
  refine zC (Δ:=blk st (.cells [.int .i64 n,.pointer (some ⟨t,0,none⟩)].toArray qI (0,0))::vK btS jA t ((XA++XC).map ji)::Sep.stars ((XA++XC).map jd)::Bytes yO s' []::Γ) ?_
  refine zBV (by rw [← hM]; exact hok) h1 h3 ?_
  exact zC (h s' ⟨by simp,by simp,by simp⟩)
end
end
section
open Go Go.Sep Go.Sep.Bt
section
variable {B:World} {Γ Δ:List zB}
theorem zP6 {st t n:Nat} {X:List zBQ} {k:ByteArray} {r:Rec} {s:Sl} {q:Array Value→Bool→K} (hok:∀ x ∈ X.map zAd,x.2.ok) (hr:r.ok) (h1:1 ≤ n) (h3:n ≤ 3) (hL:X.length < 1000000000)
  (h:∀ a b,HG B (ze st n (zEt (X.map zAd) k r)::Γ) (q a b)) :
  HG B (blk st (.cells [.int .i64 n,.pointer (some ⟨t,0,none⟩)].toArray qI (0,0))::vK btS jA t (X.map ji)::Sep.stars (X.map jd)::Bytes yO s r.val::Γ) (zJ.call (some ⟨t,0,none⟩) k (zIr r s) q):=by
 refine zQ t ?_
 refine zLU fun hs=>?_
 refine zRF (v:=recC (r,s)) (by simpa using hL) fun L' old had hp=>?_
 have hput:∀ x ∈ zEt (X.map zAd) k r,x.2.ok:=fun x hx=>by
  rcases zLY hx with rfl | hx
  ·exact hr
  ·exact hok x hx
 rcases hp with ⟨A,C,e,rfl,rfl⟩ | ⟨A,C,e,hA,hC,rfl,rfl,rfl⟩
 ·obtain ⟨XA,r0,XC,rfl,rfl,rfl,rfl⟩:=zJO e
  have hlt:=zJP hs
  have e2:zEt ((XA++(k,r0)::XC).map zAd) k r = (XA++(k,(r,s))::XC).map zAd:=by
   rw [List.map_append,List.map_cons]
   rw [show zAd (k,r0) = (k,r0.1) from rfl,zVZ (fun x hx=>by
    obtain ⟨y,hy,rfl⟩:=List.mem_map.1 hx
    exact hlt y hy)]
   simp
  rw [e2] at h hput
  refine zX (Sep.stars ((XA++(k,r0)::XC).map jd)) ?_
  refine zEk ?_
  have e3:XA.map ji++((k,recC (r,s)):btS.It)::XC.map ji = (XA++(k,(r,s))::XC).map ji:=by simp
  refine zC (Δ:=jd (k,(r,s))::Sep.stars ((XA++XC).map jd)::blk st (.cells [.int .i64 n,.pointer (some ⟨t,0,none⟩)].toArray qI (0,0))::vK btS jA t (XA.map ji++((k,recC (r,s)):btS.It)::XC.map ji)::Γ) ?_
  refine zAG ?_
  rw [e3]
  refine zC (Δ:=blk st (.cells [.int .i64 n,.pointer (some ⟨t,0,none⟩)].toArray qI (0,0))::vK btS jA t ((XA++(k,(r,s))::XC).map ji)::Sep.stars ((XA++(k,(r,s))::XC).map jd)::Γ) ?_
  exact zBV hput h1 h3 (h _ _)
 ·obtain ⟨XA,XC,rfl,rfl,rfl⟩:=zM8 e
  have e2:zEt ((XA++XC).map zAd) k r = (XA++(k,(r,s))::XC).map zAd:=by
   rw [List.map_append,zVa (fun x hx=>by
    obtain ⟨y,hy,rfl⟩:=List.mem_map.1 hx
    exact hA (ji y) (List.mem_map.2 ⟨y,hy,rfl⟩)) (fun x hx=>by
    obtain ⟨y,hy,rfl⟩:=List.mem_map.1 hx
    exact hC (ji y) (List.mem_map.2 ⟨y,hy,rfl⟩))]
   simp
  rw [e2] at h hput
  have e3:XA.map ji++((k,recC (r,s)):btS.It)::XC.map ji = (XA++(k,(r,s))::XC).map ji:=by simp
  refine zC (Δ:=jd (k,(r,s))::Sep.stars ((XA++XC).map jd)::blk st (.cells [.int .i64 n,.pointer (some ⟨t,0,none⟩)].toArray qI (0,0))::vK btS jA t (XA.map ji++((k,recC (r,s)):btS.It)::XC.map ji)::Γ) ?_
  refine zAG ?_
  rw [e3]
  refine zC (Δ:=blk st (.cells [.int .i64 n,.pointer (some ⟨t,0,none⟩)].toArray qI (0,0))::vK btS jA t ((XA++(k,(r,s))::XC).map ji)::Sep.stars ((XA++(k,(r,s))::XC).map jd)::Γ) ?_
  exact zBV hput h1 h3 (h _ _)
theorem zHs {st n:Nat} {M:yY} {k:ByteArray} {r:Rec} {s:Sl} {q:K} (hr:r.ok) (hne:r.has = true∨r.cnt ≠ 0) (hL:M.length < 1000000000) (h:HG B (ze st n (zEt M k r)::Γ) q):HG B (ze st n M::Bytes yO s r.val::Γ) (qP.call (some ⟨st,0,none⟩) k (zIr r s) q):=fun w hw=>by
 refine zEW _ _ _ _ _ ?_
 refine hg hw ?_
 clear hw w
 refine zHD fun t X hM hok h1 h3=>?_
 subst hM
 unfold qP
 refine zR fun r5=>?_
 refine yD (b:=r5) (x:=r.has) ?_
 have key:HG B (blk r5 (.cells (zBv r s).toArray qA (0,0))::blk st (.cells [.int .i64 n,.pointer (some ⟨t,0,none⟩)].toArray qI (0,0))::vK btS jA t (X.map ji)::Sep.stars (X.map jd)::Bytes yO s r.val::Γ) (qP.s1 q (some ⟨st,0,none⟩) k ⟨r5,0,none⟩ false):=by
  unfold qP.s1
  refine s_f ?_
  refine vk ?_
  refine vg ?_
  refine yD (b:=st) (x:=some ⟨t,0,none⟩) ?_
  refine qW (b:=r5) ?_
  refine zC (Δ:=blk st (.cells [.int .i64 n,.pointer (some ⟨t,0,none⟩)].toArray qI (0,0))::vK btS jA t (X.map ji)::Sep.stars (X.map jd)::Bytes yO s r.val::Γ) ?_
  exact zP6 hok hr h1 h3 (by simpa using hL) fun _ _=>h
 refine zH (fun hb=>?_) fun hb=>key
 refine yD (b:=r5) (x:=r.cnt) ?_
 have hc:r.cnt ≠ 0:=hne.resolve_left (by simpa using hb)
 rw [show decide (r.cnt = 0) = false by simpa using hc]
 exact key
theorem zLa {st n:Nat} {M:yY} {k:ByteArray} {to:Int} {q:Int→K} (hk:k.size < 1000000000000) (hL:M.length < 1000000000) (h:HG B (ze st n (zE6 n M k to).1::Γ) (q (zE6 n M k to).2)):HG B (ze st n M::Γ) (xC.call (some ⟨st,0,none⟩) k to q):=fun w hw=>by
 refine zHY _ _ _ _ _ ?_
 refine hg hw ?_
 clear hw w
 unfold xC
 refine zAM hk fun s hok=>?_
 generalize hR:vo n M k = r at *
 refine zR fun r7=>?_
 refine qX (b:=r7) (l':=zBv r s) ?_
 have bad:to < 0∨(n:Int) ≤ to→∀ s0,HG B (blk r7 (.cells (zBv r s).toArray qA (0,0))::Bytes yO s r.val::ze st n M::Γ) (xC.s1 q s0 k to ⟨r7,0,none⟩ true):=fun hb s0=>by
  unfold xC.s1
  refine s_t ?_
  have e:zE6 n M k to = (M,1):=by unfold zE6; rw [if_pos hb]
  rw [e] at h
  exact zC h
 refine zH (fun hb=>bad (.inl (by simpa using hb)) _) fun hb=>?_
 refine vg ?_
 refine zQ st ?_
 refine zHD fun t X hM hok2 h1 h3=>?_
 refine yD (b:=st) (x:=(n:Int)) ?_
 subst hM
 refine zBV hok2 h1 h3 ?_
 refine zC (Δ:=blk r7 (.cells (zBv r s).toArray qA (0,0))::Bytes yO s r.val::ze st n (X.map zAd)::Γ) ?_
 by_cases hb2:(n:Int) ≤ to
 ·rw [show decide ((n:Int) ≤ to) = true by simpa using hb2]
  exact bad (.inr hb2) _
 rw [show decide ((n:Int) ≤ to) = false by simpa using hb2]
 have hnb:¬ (to < 0∨(n:Int) ≤ to):=by
  simp only [decide_eq_false_iff_not] at hb
  omega
 unfold xC.s1
 refine s_f ?_
 refine yD (b:=r7) (x:=r.cnt) ?_
 refine zH (fun hc=>?_) fun hc=>?_
 ·have e:zE6 n (X.map zAd) k to = (X.map zAd,111):=by unfold zE6; rw [if_neg hnb,hR,if_pos (by simpa using hc)]
  rw [e] at h
  exact zC h
 have hc':r.cnt ≠ 18446744073709551615:=by simpa using hc
 obtain ⟨o1,o2,o3⟩:=hok
 refine zBY (b:=r7) ?_
 refine yD (b:=r7) (x:=r.cnt) ?_
 refine zBK (zDg (by omega) (by omega)) ?_
 refine zBY (b:=r7) ?_
 refine qW (b:=r7) (l':=zBv { r with home:=to,cnt:=r.cnt + 1 } s) ?_
 refine zC (Δ:=ze st n (X.map zAd)::Bytes yO s r.val::Γ) ?_
 refine zHs (r:={ r with home:=to,cnt:=r.cnt + 1 }) ⟨by simp only; omega,by simp only; omega,o3⟩ (.inr (by simp only; omega)) hL ?_
 have e:zE6 n (X.map zAd) k to = (zEt (X.map zAd) k { r with home:=to,cnt:=r.cnt + 1 },0):=by unfold zE6; rw [if_neg hnb,hR,if_neg hc']
 rw [e] at h
 exact h
end
end
section
open Go Go.Sep
def zHt:Sh:=(.fld 0 1 (.int .i64) (.fld 1 1 (.sl .str 1) (.fld 2 1 (.sl .str 1) (.fld 3 1 (.sl (.fld 0 1 (.int .i64) (.fld 1 1 .str (.fld 2 1 (.sl (.int .u8) 1) (.fld 3 1 (.int .i64) .nil)))) 4) (.fld 4 1 (.int .i64) .nil)))))
def zJ0:Sh:=(.sl (.int .i64) 1)
theorem zaV:zOV Tryz.prog 9 42 = zJ0:=by kernel_rfl
def zAx:Sh:=(.sl (.fld 0 1 (.int .i64) (.fld 1 1 (.int .i64) (.fld 2 5 (.fld 0 1 (.int .i64) (.fld 1 1 (.sl .str 1) (.fld 2 1 (.sl .str 1) (.fld 3 1 (.sl (.fld 0 1 (.int .i64) (.fld 1 1 .str (.fld 2 1 (.sl (.int .u8) 1) (.fld 3 1 (.int .i64) .nil)))) 4) (.fld 4 1 (.int .i64) .nil))))) .nil))) 7)
theorem zaW:zOV Tryz.prog 9 70 = zAx:=by kernel_rfl
end
end Go.Proofs.YtdemfamgieonbaaGreat
namespace Go.Proofs.YtdemfamgieonbaaGreat
open Go Go.Sep Go.Sep.Bt
def zEl (cnt mc home mh:Int):Int:=if cnt < mc then 1 else if mc = cnt∧mh = home then 0 else 2
section
variable {B:World} {Γ Δ:List zB}
theorem zRG {hs:Bool} {vl:Sl} {home cnt:Int} {key:ByteArray} {mh mc:Int} {q:Int→K} (h:HG B Γ (q (zEl cnt mc home mh))) :
  HG B Γ (jH.call #[.bool hs,vl.val,.int .i64 home,.int .u64 cnt] #[.string key,.int .i64 mh,.int .u64 mc] q):=fun w hw=>by
 refine zMT _ _ _ _ ?_
 refine hg hw ?_
 clear hw w
 unfold jH
 refine zR fun r=>?_
 refine zR fun m=>?_
 refine zC (Δ:=blk m (.cells [.string key,.int .i64 mh,.int .u64 mc].toArray yu (0,0))::blk r (.cells [.bool hs,vl.val,.int .i64 home,.int .u64 cnt].toArray qA (0,0))::Γ) ?_
 refine yD (b:=m) (x:=mc) ?_
 refine yD (b:=r) (x:=cnt) ?_
 refine zH (fun hb=>?_) fun hb=>?_
 ·have e:zEl cnt mc home mh = 1:=by unfold zEl; rw [if_pos (by simpa using hb)]
  rw [e] at h; exact zC h
 have hb':¬ cnt < mc:=by simpa using hb
 refine yD (b:=m) (x:=mc) ?_
 refine yD (b:=r) (x:=cnt) ?_
 refine zH (fun hc=>?_) fun hc=>?_
 ·have hc':mc = cnt:=by simpa using hc
  refine yD (b:=m) (x:=mh) ?_
  refine yD (b:=r) (x:=home) ?_
  unfold jH.s1
  refine zH (fun hd=>?_) fun hd=>?_
  ·have e:zEl cnt mc home mh = 0:=by unfold zEl; rw [if_neg hb',if_pos ⟨hc',by simpa using hd⟩]
   rw [e] at h; exact zC h
  ·have e:zEl cnt mc home mh = 2:=by unfold zEl; rw [if_neg hb',if_neg fun x=>by simp [x.2] at hd]
   rw [e] at h; exact zC h
 ·unfold jH.s1
  refine s_f ?_
  have e:zEl cnt mc home mh = 2:=by unfold zEl; rw [if_neg hb',if_neg fun x=>by simp [x.1] at hc]
  rw [e] at h; exact zC h
end
end Go.Proofs.YtdemfamgieonbaaGreat
namespace Go.Proofs.YtdemfamgieonbaaGreat
open Go Go.Sep Go.RowKit
end Go.Proofs.YtdemfamgieonbaaGreat
namespace Go.Sep
section
open Go Go.RowKit Go.MapKept
section
variable {α β:Type} [DecidableEq α]
def y9 (k:α):List (α×β)→Option β
 | []=>none
 | p::m=>if k = p.1 then some p.2 else y9 k m
def vL (k:α) (v:β):List (α×β)→List (α×β)
 | []=>[(k,v)]
 | p::m=>if k = p.1 then (k,v)::m else p::vL k v m
def zH8 (k:α):List (α×β)→List (α×β)
 | []=>[]
 | p::m=>if k = p.1 then m else p::zH8 k m
theorem zE7 (k:α):∀ m:List (α×β),(y9 k m = none∧(∀ v,vL k v m = m++[(k,v)])∧zH8 k m = m∧∀ p ∈ m,p.1 ≠ k) ∨
  ∃ j x,j < m.length∧m[j]? = some (k,x)∧(∀ i,i < j→∀ p,m[i]? = some p→p.1 ≠ k)∧y9 k m = some x∧(∀ v,vL k v m = m.set j (k,v))∧zH8 k m = m.eraseIdx j
 | []=>.inl ⟨rfl,fun _=>rfl,rfl,by simp⟩
 | p::m=>by
  by_cases hk:k = p.1
  ·refine .inr ⟨0,p.2,by simp,by rw [hk]; rfl,fun i hi=>by omega,by simp [y9,hk],fun v=>by simp [vL,hk],by simp [zH8,hk]⟩
  ·rcases zE7 k m with ⟨h1,h2,h3,h4⟩ | ⟨j,x,hj,h0,hb,h1,h2,h3⟩
   ·refine .inl ⟨by simp [y9,hk,h1],fun v=>by simp [vL,hk,h2],by simp [zH8,hk,h3],fun q hq=>?_⟩
    rcases List.mem_cons.1 hq with rfl | hq
    ·exact fun e=>hk e.symm
    ·exact h4 q hq
   ·refine .inr ⟨j + 1,x,by simpa using hj,by simpa using h0,fun i hi q hq=>?_,by simp [y9,hk,h1],fun v=>by simp [vL,hk,h2],by simp [zH8,hk,h3]⟩
    cases i with
    | zero=>simp at hq; subst hq; exact fun e=>hk e.symm
    | succ i=>exact hb i (by omega) q (by simpa using hq)
end
structure zKE {α:Type} (d:TypeDesc) (enc:α→Value):Prop where
 key:∀ a,IsKey d (enc a)
 inj:∀ a b,enc a = enc b→a = b
 bits:∀ a,Instr.sameBits 10000 (enc a) (enc a) = true
theorem zP7:zKE .string Value.string:=⟨fun _=>trivial,fun a b h=>by injection h,fun a=>by
 show (a == a) = true
 rw [bytes_beq]⟩
section
variable {α β:Type} [DecidableEq α] {P:Program} {B w:World} {Γ:List zB} {enc:α→Value} {cV:β→Value}
def zEX (enc:α→Value) (cV:β→Value) (es:Array MapEntry) (m:List (α×β)):Prop:=es.toList.map (fun e=>(e.key,e.val)) = m.map fun p=>(enc p.1,cV p.2)
def stamps (es:Array MapEntry) (c:Nat):Prop:=(es.toList.map (·.born)).Nodup∧∀ e ∈ es.toList,e.born < c
theorem zRH (c:Nat):stamps #[] c:=⟨by simp,by simp⟩
theorem zGd {es:Array MapEntry} {c:Nat} (h:stamps es c) (k v:Value):stamps (es.push { key:=k,val:=v,born:=c }) (c + 1):=by
 refine ⟨?_,fun e he=>?_⟩
 ·simp only [Array.toList_push,List.map_append,List.map_cons,List.map_nil]
  rw [List.nodup_append]
  refine ⟨h.1,by simp,fun x hx y hy=>?_⟩
  simp only [List.mem_singleton] at hy
  subst hy
  obtain ⟨e,he,rfl⟩:=List.mem_map.1 hx
  have:=h.2 e he
  omega
 ·simp only [Array.toList_push] at he
  rcases List.mem_append.1 he with he | he
  ·have:=h.2 e he; omega
  ·simp only [List.mem_singleton] at he; subst he; exact Nat.lt_succ_self _
theorem zEu {es:Array MapEntry} {c:Nat} (h:stamps es c) (j:Nat) (k v:Value):stamps (es.modify j fun e=>{ e with key:=k,val:=v }) c:=by
 have e1:(es.modify j fun e=>{ e with key:=k,val:=v }).toList.map (·.born) = es.toList.map (·.born):=by
  apply List.ext_getElem?
  intro i
  simp only [List.getElem?_map,Array.getElem?_toList,Array.getElem?_modify]
  split
  ·cases es[i]? <;> rfl
  ·rfl
 refine ⟨by rw [e1]; exact h.1,fun e he=>?_⟩
 have:e.born ∈ es.toList.map (·.born):=by rw [← e1]; exact List.mem_map_of_mem he
 obtain ⟨e',he',hb⟩:=List.mem_map.1 this
 rw [← hb]; exact h.2 e' he'
theorem zOn {es:Array MapEntry} {c:Nat} (h:stamps es c) (j:Nat):stamps (es.eraseIdxIfInBounds j) c:=by
 have hs:List.Sublist (es.eraseIdxIfInBounds j).toList es.toList:=by
  unfold Array.eraseIdxIfInBounds
  split
  ·rw [Array.toList_eraseIdx]; exact List.eraseIdx_sublist _ _
  ·exact List.Sublist.refl _
 exact ⟨h.1.sublist (hs.map _),fun e he=>h.2 e (hs.subset he)⟩
def xM (enc:α→Value) (cV:β→Value) (b:Nat) (m:List (α×β)):zB:=ex fun es:Array MapEntry=>ex fun c:Nat=>fun g=>(zEX enc cV es m∧stamps es c)∧blk b (.map es c) g
theorem xM.opens {b:Nat} {m:List (α×β)} (h:Holds B (xM enc cV b m::Γ) w):∃ es c,(zEX enc cV es m∧stamps es c)∧Holds B (blk b (.map es c)::Γ) w:=by
 obtain ⟨es,h⟩:=Holds.ex.1 h
 obtain ⟨c,h⟩:=Holds.ex.1 h
 exact ⟨es,c,h.fact fun g hg=>hg.1,h.imp fun g hg=>hg.2⟩
theorem xM.shuts {b:Nat} {m:List (α×β)} {es:Array MapEntry} {c:Nat} (hr:zEX enc cV es m∧stamps es c) (h:Holds B (blk b (.map es c)::Γ) w):Holds B (xM enc cV b m::Γ) w :=
 Holds.ex.2 ⟨es,Holds.ex.2 ⟨c,h.imp fun g hg=>⟨hr,hg⟩⟩⟩
theorem zEm {es:Array MapEntry} {m:List (α×β)} (hr:zEX enc cV es m) (i:Nat):(es.toList[i]?).map (fun e=>(e.key,e.val)) = (m[i]?).map fun p=>(enc p.1,cV p.2):=by
 have:=congrArg (·[i]?) hr
 simpa using this
theorem zT0 {d:TypeDesc} (hE:zKE d enc) {es:Array MapEntry} {m:List (α×β)} (hr:zEX enc cV es m):∀ x ∈ es.toList,IsKey d x.key:=by
 intro x hx
 have:(x.key,x.val) ∈ m.map fun p=>(enc p.1,cV p.2):=by rw [← hr]; exact List.mem_map_of_mem hx
 obtain ⟨p,_,hp⟩:=List.mem_map.1 this
 have:enc p.1 = x.key:=congrArg Prod.fst hp
 rw [← this]; exact hE.key _
theorem zRI {d:TypeDesc} (hE:zKE d enc) {es:Array MapEntry} {m:List (α×β)} (hr:zEX enc cV es m) (k:α) :
  (Instr.findNow d (enc k) es.toList 0 = some none∧y9 k m = none∧(∀ v,vL k v m = m++[(k,v)])∧zH8 k m = m) ∨
  ∃ j x,Instr.findNow d (enc k) es.toList 0 = some (some (j,cV x))∧j < m.length∧m[j]? = some (k,x)∧y9 k m = some x∧(∀ v,vL k v m = m.set j (k,v))∧zH8 k m = m.eraseIdx j:=by
 have hlen:es.toList.length = m.length:=by have:=congrArg List.length hr; simpa using this
 rcases zE7 k m with ⟨h1,h2,h3,h4⟩ | ⟨j,x,hj,h0,hb,h1,h2,h3⟩
 ·refine .inl ⟨?_,h1,h2,h3⟩
  rcases findNow_spec (hE.key k) es.toList 0 (zT0 hE hr) with ⟨g1,_⟩ | ⟨i,e,g1,g2,g3⟩
  ·exact g1
  ·have:=zEm hr i
   rw [g2] at this
   cases hm:m[i]? with
   | none=>rw [hm] at this; simp at this
   | some p=>
    rw [hm] at this
    simp only [Option.map_some,Option.some.injEq,Prod.mk.injEq] at this
    exact absurd (hE.inj _ _ (this.1.symm.trans g3)) (h4 p (List.mem_of_getElem? hm))
 ·have key:∀ (l:List MapEntry) (m:List (α×β)) (j i:Nat),l.map (fun e=>(e.key,e.val)) = m.map (fun p=>(enc p.1,cV p.2))→m[j]? = some (k,x)→(∀ i,i < j→∀ p,m[i]? = some p→p.1 ≠ k) →
    Instr.findNow d (enc k) l i = some (some (i + j,cV x)):=by
   intro l
   induction l with
   | nil=>intro m j i hr hm _; cases m <;> simp at hr hm
   | cons e l ih=>
    intro m j i hr hm hb
    cases m with
    | nil=>simp at hr
    | cons p m=>
     simp only [List.map_cons,List.cons.injEq,Prod.mk.injEq] at hr
     obtain ⟨⟨e1,e2⟩,hr⟩:=hr
     obtain ⟨r,hs,hiff⟩:=sameNow_of_keys (hE.key k) (hE.key p.1)
     unfold Instr.findNow
     rw [e1,hs]
     cases j with
     | zero=>
      simp only [List.getElem?_cons_zero,Option.some.injEq] at hm
      subst hm
      have:r = true:=hiff.2 rfl
      subst this
      simp only [e2,Nat.add_zero]
     | succ j=>
      have hne:p.1 ≠ k:=hb 0 (by omega) p rfl
      have:r = false:=by
       cases r with
       | false=>rfl
       | true=>exact absurd (hE.inj _ _ (hiff.1 rfl)) (fun e=>hne e.symm)
      subst this
      simp only
      rw [ih m j (i + 1) hr (by simpa using hm) (fun i' hi' q hq=>hb (i' + 1) (by omega) q (by simpa using hq))]
      congr 3; omega
  refine .inr ⟨j,x,?_,hj,h0,h1,h2,h3⟩
  have:=key es.toList m j 0 hr h0 hb
  rwa [Nat.zero_add] at this
def zE8 (P:Program) (T:TypeId) (d:TypeDesc) (E:TypeId):Prop:=∃ kt,P.underlying T = some (.map kt E)∧P.underlying kt = some d
theorem zP8 {T E:TypeId} {d:TypeDesc} {b:Nat} {m:List (α×β)} {z:β} {a:α} (hT:zE8 P T d E) (hE:zKE d enc) (hz:zBN P E (cV z)) {es:Array MapEntry} {c:Nat} (hb:w.heap[b]? = some (.map es c)) (hr:zEX enc cV es m) (ok:Bool) :
  (Instr.lookup T (.map (some b)) (enc a) ok).run P w = .ok (if ok then .tuple #[cV ((y9 a m).getD z),.bool (y9 a m).isSome] else cV ((y9 a m).getD z)) w:=by
 obtain ⟨kt,hT,hd⟩:=hT
 unfold Instr.lookup
 simp only [Sem.run_bind,run_underlying hT,Result.andThen,MapKept.run_getObj_map hb,run_checkKey hd (hE.key a),Sem.run_pure]
 rcases zRI hE hr a with ⟨h1,h2,_⟩ | ⟨j,x,h1,_,_,h2,_⟩
 ·simp only [run_findKey hd h1,Result.andThen,Sem.run_bind,zAU hz,Sem.run_pure,h2]
  cases ok <;> rfl
 ·simp only [run_findKey hd h1,Result.andThen,Sem.run_bind,Sem.run_pure,h2]
  cases ok <;> rfl
theorem zXZ {T E:TypeId} {d:TypeDesc} {b:Nat} {m:List (α×β)} {z:β} {a:α} {k:β→K} (hT:zE8 P T d E) (hE:zKE d enc) (hz:zBN P E (cV z)) (h:Holds B (xM enc cV b m::Γ) w)
  (hk:k ((y9 a m).getD z) w):Rd P (Instr.lookup T (.map (some b)) (enc a) false) cV k w:=by
 obtain ⟨es,c,⟨hr,hst⟩,h⟩:=xM.opens h
 exact ⟨_,zP8 hT hE hz h.block hr false,hk⟩
theorem Holds.zFa {b:Nat} {es es':Array MapEntry} {c c':Nat} (h:Holds B (blk b (.map es c)::Γ) w):(setObj b (.map es' c')).run P w = .ok () { w with heap:=w.heap.setIfInBounds b (.map es' c') } ∧
  Holds B (blk b (.map es' c')::Γ) { w with heap:=w.heap.setIfInBounds b (.map es' c') } :=
 ⟨run_setObj_map _ h.block,h.setBlock rfl⟩
theorem zVb {γ:Type} {cG:γ→Value} {g:β→γ} {T E:TypeId} {d:TypeDesc} {b:Nat} {m:List (α×β)} {z:β} {a:α} {k:γ→Bool→K} (hc:∀ x,cV x = cG (g x)) (hT:zE8 P T d E) (hE:zKE d enc) (hz:zBN P E (cV z)) (h:Holds B (xM enc cV b m::Γ) w)
  (hk:k (g ((y9 a m).getD z)) (y9 a m).isSome w):Rd2 P (Instr.lookup T (.map (some b)) (enc a) true) (fun x y=>.tuple #[cG x,.bool y]) k w:=by
 obtain ⟨es,c,⟨hr,hst⟩,h⟩:=xM.opens h
 have:=zP8 (a:=a) hT hE hz h.block hr true
 exact ⟨g ((y9 a m).getD z),_,by rw [hc] at this; exact this,hk⟩
theorem zaX {T E:TypeId} {d:TypeDesc} {b:Nat} {m:List (α×β)} {a:α} {v:β} {k:K} (hT:zE8 P T d E) (hE:zKE d enc) (h:Holds B (xM enc cV b m::Γ) w)
  (hk:∀ w',Holds B (xM enc cV b (vL a v m)::Γ) w'→k w'):DoU P (Instr.mapUpdate T (.map (some b)) (enc a) (cV v)) k w:=by
 obtain ⟨kt,hT,hd⟩:=hT
 obtain ⟨es,c,⟨hr,hst⟩,h⟩:=xM.opens h
 have hb:=h.block
 have hlen:es.size = m.length:=by have:=congrArg List.length hr; simpa using this
 unfold Instr.mapUpdate DoU
 simp only [Sem.run_bind,run_underlying hT,Result.andThen,MapKept.run_getObj_map hb,run_checkKey hd (hE.key a)]
 rcases zRI hE hr a with ⟨h1,_,h2,_⟩ | ⟨j,x,h1,hj,h0,_,h2,_⟩
 ·simp only [run_findKey hd h1,Result.andThen]
  obtain ⟨e1,h3⟩:=h.zFa (P:=P) (es':=es.push { key:=enc a,val:=cV v,born:=c }) (c':=c + 1)
  refine ⟨_,_,e1,hk _ (xM.shuts ⟨?_,zGd hst _ _⟩ h3)⟩
  rw [h2]
  simp only [zEX,Array.toList_push,List.map_append,List.map_cons,List.map_nil]
  rw [show es.toList.map (fun e=>(e.key,e.val)) = _ from hr]
 ·have hes:∃ e,es.toList[j]? = some e∧e.key = enc a:=by
   have:=zEm hr j
   rw [h0] at this
   cases he:es.toList[j]? with
   | none=>rw [he] at this; simp at this
   | some e=>
    rw [he] at this
    simp only [Option.map_some,Option.some.injEq,Prod.mk.injEq] at this
    exact ⟨e,rfl,this.1⟩
  obtain ⟨e,he,hek⟩:=hes
  have he2:es[j]? = some e:=by rw [← he,Array.getElem?_toList]
  simp only [run_findKey hd h1,Result.andThen,Sem.run_bind,he2,Option.map_some,Option.getD_some,hek,Instr.keyThatStays,hE.bits,if_true,Sem.run_pure]
  obtain ⟨e1,h3⟩:=h.zFa (P:=P) (es':=es.modify j fun e=>{ e with key:=enc a,val:=cV v }) (c':=c)
  refine ⟨_,_,e1,hk _ (xM.shuts ⟨?_,zEu hst _ _ _⟩ h3)⟩
  rw [h2]
  simp only [zEX]
  apply List.ext_getElem?
  intro i
  have hi:=zEm hr i
  simp only [List.getElem?_map,Array.getElem?_toList,Array.getElem?_modify] at hi ⊢
  by_cases hij:j = i
  ·subst hij
   rw [List.getElem?_set_self hj,he2]
   simp
  ·rw [List.getElem?_set_ne hij,if_neg hij]
   exact hi
end
section
variable {α β γ:Type} [DecidableEq α]
theorem zE9 (g:β→γ) (k:α):∀ m:List (α×β),y9 k (m.map fun p=>(p.1,g p.2)) = (y9 k m).map g
 | []=>rfl
 | p::m=>by
  simp only [List.map_cons,y9]
  split
  ·rfl
  ·exact zE9 g k m
theorem zP9 (g:β→γ) (k:α) (v:β):∀ m:List (α×β),vL k (g v) (m.map fun p=>(p.1,g p.2)) = (vL k v m).map fun p=>(p.1,g p.2)
 | []=>rfl
 | p::m=>by
  simp only [List.map_cons,vL]
  split
  ·rfl
  ·rw [List.map_cons,zP9 g k v m]
theorem zHE {k:α} {v:β} {m:List (α×β)} (h:y9 k m = none):vL k v m = m++[(k,v)]:=by
 rcases zE7 k m with ⟨_,h2,_⟩ | ⟨_,_,_,_,_,h1,_⟩
 ·exact h2 v
 ·rw [h] at h1; cases h1
end
end
section
open Go Go.RowKit
section
variable {α β:Type} [DecidableEq α] {P:Program} {B w:World} {Γ Δ:List zB} {enc:α→Value} {cV:β→Value} {k:K}
instance (priority:=high) za0 {α β:Type} [DecidableEq α] {enc:α→Value} {cV:β→Value} {b:Nat} {m:List (α×β)} {Γ:List zB}:Own b (xM enc cV b m::Γ) (xM enc cV b m) Γ:=⟨.refl _⟩
theorem zKs {T:TypeId} {k:Option Nat→K} (h:∀ b,HG B (xM enc cV b []::Γ) (k (some b))):HG B Γ (Do P (Instr.makeMap T none) Value.map k):=fun w hw=>by
 refine ⟨some w.heap.size,{ w with heap:=w.heap.push (.map #[] 0) },rfl,h _ _ (xM.shuts (es:=#[]) (c:=0) ⟨rfl,zRH 0⟩ (hw.alloc _))⟩
theorem zXa {γ:Type} {cG:γ→Value} {g:β→γ} {T E:TypeId} {d:TypeDesc} {b:Nat} {m:List (α×β)} {z:β} {a:α} {k:γ→Bool→K} (hc:∀ x,cV x = cG (g x)) (hT:zE8 P T d E) (hE:zKE d enc) (hz:zBN P E (cV z)) (h:HG B Γ (k (g ((y9 a m).getD z)) (y9 a m).isSome)) [p:Own b Γ (xM enc cV b m) Δ] :
  HG B Γ (Rd2 P (Instr.lookup T (.map (some b)) (enc a) true) (fun x y=>.tuple #[cG x,.bool y]) k):=fun w hw=>zVb hc hT hE hz (hw.perm p.perm) (h w hw)
theorem zXb {γ:Type} {cG:γ→Value} {g:β→γ} {T E:TypeId} {d:TypeDesc} {b:Nat} {m:List (α×β)} {z:β} {a:α} {k:γ→K} (hc:∀ x,cV x = cG (g x)) (hT:zE8 P T d E) (hE:zKE d enc) (hz:zBN P E (cV z)) (h:HG B Γ (k (g ((y9 a m).getD z)))) [p:Own b Γ (xM enc cV b m) Δ] :
  HG B Γ (Rd P (Instr.lookup T (.map (some b)) (enc a) false) cG k):=fun w hw=>by
 obtain ⟨x,hx,hk⟩:=zXZ (P:=P) (T:=T) (a:=a) (k:=fun y w=>y = (y9 a m).getD z∧k (g y) w) hT hE hz (hw.perm p.perm) ⟨rfl,h w hw⟩
 obtain ⟨rfl,hk⟩:=hk
 exact ⟨_,by rw [hx,hc],hk⟩
theorem zVc {γ:Type} {cG:γ→Value} {T E:TypeId} {d:TypeDesc} {b:Nat} {m:List (α×β)} {a:α} {v:β} {x:Value} (hx:x = cV v) (hT:zE8 P T d E) (hE:zKE d enc) (h:HG B (xM enc cV b (vL a v m)::Δ) k) [p:Own b Γ (xM enc cV b m) Δ] :
  HG B Γ (DoU P (Instr.mapUpdate T (.map (some b)) (enc a) x) k):=fun w hw=>by subst hx; exact zaX hT hE (hw.perm p.perm) fun w' h'=>h w' h'
theorem zOo {zero:Array Value} {pl:Nat→Option (Nat×Nat)} {vs:List (Nat×Value)} {cs:List Value} {k:Array Value→K} (h:HG B Γ (k cs.toArray)) (hc:Instr.fill pl zero vs = some cs.toArray:=by rfl):HG B Γ (Bld zero pl vs k):=fun w hw=>⟨_,hc,h w hw⟩
theorem zVd {F:α×β→zB} {m:List (α×β)} {a:α} {v:β} (h:HG B (Sep.stars ((vL a v m).map F)::Γ) k):HG B (F (a,v)::Sep.stars (m.map F)::Γ) k:=by
 rcases zE7 a m with ⟨_,h2,_,_⟩ | ⟨j,x,hj,h0,_,_,h2,_⟩
 ·rw [h2 v] at h
  have e:m = m++[]:=by simp
  rw [e]
  exact zAG (A:=m) (C:=[]) (x:=(a,v)) h
 ·rw [h2 v] at h
  have hj':=List.getElem?_eq_some_iff.1 h0
  have e1:m = m.take j++(a,x)::m.drop (j + 1):=by
   obtain ⟨h3,h4⟩:=hj'
   rw [← h4,← List.drop_eq_getElem_cons h3,List.take_append_drop]
  have e2:m.set j (a,v) = m.take j++(a,v)::m.drop (j + 1):=by
   rw [List.set_eq_take_append_cons_drop,if_pos hj]
  rw [e2] at h
  rw [e1]
  refine zDW ?_
  refine zEk ?_
  refine zC (Δ:=F (a,v)::Sep.stars ((m.take j++m.drop (j + 1)).map F)::Γ) ?_
  exact zAG h
theorem zFA (m:List (α×β)) (a a':α) (v:β):y9 a' (vL a v m) = if a' = a then some v else y9 a' m:=by
 induction m with
 | nil=>simp [vL,y9]
 | cons p m ih=>
  unfold vL
  split
  ·rename_i h
   subst h
   by_cases h2:a' = p.1 <;> simp [y9,h2]
  ·rename_i h
   by_cases h2:a' = p.1
   ·simp [y9,h2]
    intro h3; exact absurd h3.symm h
   ·simp [y9,h2,ih]
theorem zFB (m:List (α×β)) (a:α) (v:β):(vL a v m).map Prod.fst = if a ∈ m.map Prod.fst then m.map Prod.fst else m.map Prod.fst++[a]:=by
 induction m with
 | nil=>simp [vL]
 | cons p m ih=>
  unfold vL
  split
  ·rename_i h; simp [h]
  ·rename_i h
   simp only [List.map_cons,ih,List.mem_cons,h,false_or]
   split <;> simp
theorem zFC {m:List (α×β)} {a:α} {v:β} (h:y9 a m = some v):(a,v) ∈ m:=by
 induction m with
 | nil=>cases h
 | cons p m ih=>
  unfold y9 at h
  split at h
  ·rename_i h1; injection h with h; subst h1; subst h; exact List.mem_cons_self
  ·exact List.mem_cons_of_mem _ (ih h)
end
end
section
open Go Go.RowKit
class Nx (B:World) (Γ:List zB) (k:K) (Δ:outParam (List zB)) (j:outParam K):Prop where h:HG B Δ j→HG B Γ k
class zQA (l:List Value) (n:Nat) (v:outParam Value):Prop where h:nth l n = some v
class Cv {α:Type} (c:α→Value) (v:Value) (x:outParam α):Prop where h:v = c x
class zXc (l:List Value) (n:Nat) (v:Value) (l':outParam (List Value)):Prop where h:l.set n v = l'∧n < l.length
class zLb (l:List Value) (m n:Nat) (l':outParam (List Value)):Prop where h:(l.drop m).take n = l'∧l'.length = n
class zJ1 (v:Value):Prop where h:yX v = true
class zS3 (l:List Value):Prop where h:l.all yX = true
class zQB (l:List Value) (n:outParam Nat):Prop where h:l.length = n
class zHu (b:Bool) (v:outParam Bool):Prop where h:b = v
instance zbr {v:Value} {l:List Value}:zQA (v::l) 0 v:=⟨rfl⟩
instance zbs {v u:Value} {l:List Value} {n:Nat} [h:zQA l n v]:zQA (u::l) (n + 1) v:=⟨h.h⟩
instance zbN {b:Bool}:Cv Value.bool (.bool b) b:=⟨rfl⟩
instance zbt {k:IntKind} {n:Int}:Cv (Value.int k) (.int k n) n:=⟨rfl⟩
instance zbu {b:ByteArray}:Cv Value.string (.string b) b:=⟨rfl⟩
instance zbv {p:Option Addr}:Cv Value.pointer (.pointer p) p:=⟨rfl⟩
instance zbw {p:Option Nat}:Cv Value.map (.map p) p:=⟨rfl⟩
instance (priority:=high) zb9 {s:Sl}:Cv Sl.val s.val s:=⟨rfl⟩
instance zbx {a:Option Addr} {n c:Nat}:Cv Sl.val (.slice a n c) ⟨a,n,c⟩:=⟨rfl⟩
instance zcA {v:Value}:Cv id v v:=⟨rfl⟩
instance zby {v:Array Value}:Cv Value.agg (.agg v) v:=⟨rfl⟩
instance zbz {v u:Value} {l:List Value}:zXc (u::l) 0 v (v::l):=⟨⟨rfl,Nat.zero_lt_succ _⟩⟩
instance zb0 {v u:Value} {l l':List Value} {n:Nat} [h:zXc l n v l']:zXc (u::l) (n + 1) v (u::l'):=⟨⟨by rw [List.set_cons_succ,h.h.1],Nat.succ_lt_succ h.h.2⟩⟩
instance zbO {l:List Value}:zLb l 0 0 []:=⟨⟨rfl,rfl⟩⟩
instance zbP {u:Value} {l l':List Value} {n:Nat} [h:zLb l 0 n l']:zLb (u::l) 0 (n + 1) (u::l'):=⟨⟨by have:=h.h.1; rw [List.drop_zero] at this ⊢; rw [List.take_succ_cons,this],by rw [List.length_cons,h.h.2]⟩⟩
instance zbQ {u:Value} {l l':List Value} {m n:Nat} [h:zLb l m n l']:zLb (u::l) (m + 1) n l':=⟨h.h⟩
instance zbR {b:Bool}:zJ1 (.bool b):=⟨rfl⟩
instance zbS {k:IntKind} {n:Int}:zJ1 (.int k n):=⟨rfl⟩
instance zbT {b:ByteArray}:zJ1 (.string b):=⟨rfl⟩
instance zbU {p:Option Addr}:zJ1 (.pointer p):=⟨rfl⟩
instance zbV {p:Option Nat}:zJ1 (.map p):=⟨rfl⟩
instance za1 {a:Option Addr} {n c:Nat}:zJ1 (.slice a n c):=⟨rfl⟩
instance zbW:zS3 []:=⟨rfl⟩
instance zbX {v:Value} {l:List Value} [h:zJ1 v] [g:zS3 l]:zS3 (v::l):=⟨by rw [List.all_cons,h.h,g.h]; rfl⟩
instance zb1:zQB [] 0:=⟨rfl⟩
instance zb2 {v:Value} {l:List Value} {n:Nat} [h:zQB l n]:zQB (v::l) (n + 1):=⟨by rw [List.length_cons,h.h]⟩
instance zbY:zHu true true:=⟨rfl⟩
instance zbZ:zHu false false:=⟨rfl⟩
instance za2 {b:Bool} [h:zHu b true]:zHu (!b) false:=⟨by rw [h.h]; rfl⟩
instance za3 {b:Bool} [h:zHu b false]:zHu (!b) true:=⟨by rw [h.h]; rfl⟩
instance zba {α:Type} {x:α}:zHu (some x).isNone false:=⟨rfl⟩
instance zbb {α:Type}:zHu (none:Option α).isNone true:=⟨rfl⟩
instance (priority:=high) zaY {b n:Nat}:zC2 ((⟨b,0,none⟩:Addr).add n) b n:=⟨by rw [uV,Nat.zero_add]⟩
section
variable {B:World} {Γ Δ Γ0:List zB} {k j:K}
theorem zBw {k:(World→Prop)→K} (Γ0:List zB) (h:HG B Γ (k (Holds B Γ0))) [d:Drops Γ Γ0]:HG B Γ (yZ k):=fun w hw=>⟨Holds B Γ0,hw.drops,h w hw⟩
theorem zh (h:HG B Δ j) [n:Nx B Γ k Δ j]:HG B Γ k:=n.h h
instance zb3 {a:Addr} {k:Addr→K}:Nx B Γ (Nn (some a) k) Γ (k a):=⟨vg⟩
instance zb4:Nx B Γ (Dr k) Γ k:=⟨vk⟩
instance zb5 {k:(World→Prop)→K}:Nx B Γ (yZ k) Γ (k (Holds B Γ)):=⟨zMR⟩
instance zb6 [d:Drops Γ Δ]:Nx B Γ (Sv (Holds B Δ) k) Γ k:=⟨fun h=>zBC h⟩
instance zb7 {α:Type} {a:Addr} {b off:Nat} {l:List Value} {T:TypeId} {fz:Nat×Nat} {c:α→Value} {v:Value} {x:α} {k:α→K} [ad:zC2 a b off] [p:Own b Γ (blk b (.cells l.toArray T fz)) Δ] [n:zQA l off v] [e:Cv c v x]:Nx B Γ (Ld a c k) Γ (k x):=⟨fun h=>yD h (by rw [n.h,e.h])⟩
instance zbc {α:Type} {a:Addr} {b off:Nat} {l:List Value} {T:TypeId} {fz:Nat×Nat} {c:α→Value} {v:Value} {x:α} {k:α→K} [ad:zC2 a b off] [p:Own b Γ0 (blk b (.cells l.toArray T fz)) Δ] [n:zQA l off v] [e:Cv c v x]:Nx B Γ (LdS (Holds B Γ0) a c k) Γ (k x):=⟨fun h=>u6 h (by rw [n.h,e.h])⟩
instance zbd {a:Addr} {b off n:Nat} {l l':List Value} {T:TypeId} {fz:Nat×Nat} {k:Array Value→K} [ad:zC2 a b off] [p:Own b Γ (blk b (.cells l.toArray T fz)) Δ] [t:zLb l off n l']:Nx B Γ (LdN a n k) Γ (k l'.toArray):=⟨fun h=>qW h t.h.1 t.h.2⟩
instance za4 {a:Addr} {b off n:Nat} {l l':List Value} {T:TypeId} {fz:Nat×Nat} {k:Array Value→K} [ad:zC2 a b off] [p:Own b Γ0 (blk b (.cells l.toArray T fz)) Δ] [t:zLb l off n l']:Nx B Γ (vG (Holds B Γ0) a n k) Γ (k l'.toArray):=⟨fun h=>zAW h t.h.1 t.h.2⟩
instance zb8 {a:Addr} {b off:Nat} {l l':List Value} {T:TypeId} {v:Value} [ad:zC2 a b off] [p:Own b Γ (blk b (.cells l.toArray T (0,0))) Δ] [s:zXc l off v l'] [f:zJ1 v]:Nx B Γ (St a v k) (blk b (.cells l'.toArray T (0,0))::Δ) k:=⟨fun h=>zBY h (Nat.ble_eq_true_of_le s.h.2) s.h.1 f.h⟩
instance zbe {a:Addr} {b n:Nat} {l l':List Value} {T:TypeId} [ad:zC2 a b 0] [p:Own b Γ (blk b (.cells l.toArray T (0,0))) Δ] [h1:zQB l n] [h2:zQB l' n] [f:zS3 l']:Nx B Γ (StN a n l'.toArray k) (blk b (.cells l'.toArray T (0,0))::Δ) k:=⟨fun h=>qX h h1.h h2.h f.h⟩
instance zbf {α:Type} {l:List Value} {off:Nat} {c:α→Value} {v:Value} {x:α} {k:α→K} [n:zQA l off v] [e:Cv c v x]:Nx B Γ (Fld l.toArray off c k) Γ (k x):=⟨fun h=>zaO h (by rw [n.h,e.h])⟩
instance za5 {zero cs:List Value} {n:Nat} {k:Array Value→K} [h1:zQB zero n] [h2:zQB cs n]:Nx B Γ (Bld zero.toArray (fun i=>some (i * n,n)) [(0,.agg cs.toArray)] k) Γ (k cs.toArray):=⟨fun h=>zBp h h1.h h2.h⟩
instance zcB {b:Bool} {x y:K} [h:zHu b true]:Nx B Γ (Ite b x y) Γ x:=⟨fun g=>s_t g h.h⟩
instance zcC {b:Bool} {x y:K} [h:zHu b false]:Nx B Γ (Ite b x y) Γ y:=⟨fun g=>s_f g h.h⟩
end
class zGe (v:Value) (us:outParam (List Value)):Prop where h:v.cells = us.toArray
class zM9 (z:List Value) (off:Nat) (us:List Value) (z':outParam (List Value)):Prop where h:off + us.length ≤ z.length∧z' = z.take off++us++z.drop (off + us.length)
class zOp (pl:List (Nat×Nat)) (i:Nat) (off n:outParam Nat):Prop where h:pl[i]? = some (off,n)
class zS4 (pl:List (Nat×Nat)) (z:List Value) (ps:List (Nat×Value)) (cs:outParam (List Value)):Prop where h:Instr.fill (pl[·]?) z.toArray ps = some cs.toArray
instance za6 {l:List Value}:zGe (.agg l.toArray) l:=⟨rfl⟩
instance za7 {b:Bool}:zGe (.bool b) [.bool b]:=⟨rfl⟩
instance za8 {k:IntKind} {n:Int}:zGe (.int k n) [.int k n]:=⟨rfl⟩
instance za9 {b:ByteArray}:zGe (.string b) [.string b]:=⟨rfl⟩
instance zbA {p:Option Addr}:zGe (.pointer p) [.pointer p]:=⟨rfl⟩
instance zbB {p:Option Nat}:zGe (.map p) [.map p]:=⟨rfl⟩
instance zaZ {a:Option Addr} {n c:Nat}:zGe (.slice a n c) [.slice a n c]:=⟨rfl⟩
instance zbg {z:List Value}:zM9 z 0 [] z:=⟨⟨by simp,by simp⟩⟩
instance zbh {v u:Value} {z us z':List Value} [h:zM9 z 0 us z']:zM9 (v::z) 0 (u::us) (u::z'):=⟨by
 obtain ⟨h1,h2⟩:=h.h
 simp only [Nat.zero_add,List.take_zero,List.nil_append] at h1 h2
 refine ⟨by simp; omega,?_⟩
 simp only [List.length_cons,Nat.zero_add,List.take_zero,List.nil_append,List.drop_succ_cons,List.cons_append]
 rw [h2]⟩
instance zbi {v:Value} {z us z':List Value} {off:Nat} [h:zM9 z off us z']:zM9 (v::z) (off + 1) us (v::z'):=⟨by
 obtain ⟨h1,h2⟩:=h.h
 refine ⟨by simp; omega,?_⟩
 rw [h2,show off + 1 + us.length = (off + us.length) + 1 by omega]
 simp⟩
instance zbC {o n:Nat} {pl:List (Nat×Nat)}:zOp ((o,n)::pl) 0 o n:=⟨rfl⟩
instance zbD {x:Nat×Nat} {o n i:Nat} {pl:List (Nat×Nat)} [h:zOp pl i o n]:zOp (x::pl) (i + 1) o n:=⟨h.h⟩
instance zbj {pl:List (Nat×Nat)} {z:List Value}:zS4 pl z [] z:=⟨rfl⟩
theorem zT1 {pl:Nat→Option (Nat×Nat)} {z us z':List Value} {i off:Nat} {v:Value} {ps:List (Nat×Value)} (hp:pl i = some (off,us.length)) (hc:v.cells = us.toArray) (h:off + us.length ≤ z.length∧z' = z.take off++us++z.drop (off + us.length)) :
  Instr.fill pl z.toArray ((i,v)::ps) = Instr.fill pl z'.toArray ps:=by
 obtain ⟨h1,rfl⟩:=h
 rw [Instr.fill,hp,hc]
 simp only [List.size_toArray]
 rw [if_neg (by simp; omega)]
 congr 1
 have hl:(z.take off).length = off:=by rw [List.length_take]; omega
 have key:∀ (us m pre C:List Value),pre.length = off→m.length = us.length→∀ (o:Nat) (pre2:List Value),pre2.length = off + o→(us.zipIdx o).foldl (fun (cs:Array Value) (p:Value×Nat)=>cs.setIfInBounds (off + p.2) p.1) (pre2++m++C).toArray = (pre2++us++C).toArray:=by
  intro us
  induction us with
  | nil=>intro m pre C _ hm o pre2 _; rw [List.length_eq_zero_iff.1 hm]; rfl
  | cons u us ih=>
   intro m pre C hp hm o pre2 hp2
   cases m with
   | nil=>simp at hm
   | cons x m=>
    simp only [List.zipIdx_cons,List.foldl_cons]
    have e:(pre2++x::m++C).toArray.setIfInBounds (off + o) u = ((pre2++[u])++m++C).toArray:=by
     apply Array.ext'
     rw [← hp2]
     simp
    rw [e,ih m pre C hp (by simpa using hm) (o + 1) (pre2++[u]) (by simp; omega)]
    simp
 have e:z = z.take off++(z.drop off).take us.length++z.drop (off + us.length):=by
  rw [← List.drop_drop,List.append_assoc,List.take_append_drop,List.take_append_drop]
 have h3:=key us ((z.drop off).take us.length) (z.take off) (z.drop (off + us.length)) hl (by rw [List.length_take,List.length_drop]; omega) 0 (z.take off) (by omega)
 rw [← e] at h3
 rw [← Array.foldl_toList,Array.toList_zipIdx]
 exact h3
instance zbk {pl:List (Nat×Nat)} {z z' us cs:List Value} {i off n:Nat} {v:Value} {ps:List (Nat×Value)} [p:zOp pl i off n] [c:zGe v us] [l:zQB us n] [o:zM9 z off us z'] [f:zS4 pl z' ps cs]:zS4 pl z ((i,v)::ps) cs :=
 ⟨by rw [zT1 (by rw [l.h]; exact p.h) c.h o.h]; exact f.h⟩
instance zbl {pl:List (Nat×Nat)} {B:World} {Γ:List zB} {z cs:List Value} {ps:List (Nat×Value)} {k:Array Value→K} [f:zS4 pl z ps cs]:Nx B Γ (Bld z.toArray (pl[·]?) ps k) Γ (k cs.toArray):=⟨fun h w hw=>⟨_,f.h,h w hw⟩⟩
end
section
open Go Go.RowKit Go.MapKept
section
variable {α β:Type} [DecidableEq α] {P:Program} {B w:World} {Γ:List zB} {enc:α→Value} {cV:β→Value}
def zRJ (es:Array MapEntry) (seen:Array Nat) (m:List (α×β)):List (α×β):=((es.toList.zip m).filter fun p=>!seen.contains p.1.born).map Prod.snd
structure ItF (enc:α→Value) (cV:β→Value) (es:Array MapEntry) (c:Nat) (seen:Array Nat) (m left:List (α×β)) (cur:Option (α×β)):Prop where
 rel:zEX enc cV es m
 st:stamps es c
 lf:left = zRJ es seen m
 cnt:seen.size + left.length = m.length
 cur:∀ p,cur = some p→∃ (seen':Array Nat) (e:MapEntry),seen = seen'.push e.born∧e ∈ es.toList∧e.key = enc p.1∧e.val = cV p.2
def zAN (enc:α→Value) (cV:β→Value) (b r:Nat) (m left:List (α×β)) (cur:Option (α×β)):zB:=ex fun es:Array MapEntry=>ex fun c:Nat=>ex fun seen:Array Nat=>
 stars [pur (ItF enc cV es c seen m left cur),blk b (.map es c),blk r (.mapIter (some b) c seen c)]
theorem zAN.opens {b r:Nat} {m left:List (α×β)} {cur:Option (α×β)} (h:Holds B (zAN enc cV b r m left cur::Γ) w):∃ es c seen,ItF enc cV es c seen m left cur∧Holds B (blk b (.map es c)::blk r (.mapIter (some b) c seen c)::Γ) w:=by
 obtain ⟨es,h⟩:=Holds.ex.1 h
 obtain ⟨c,h⟩:=Holds.ex.1 h
 obtain ⟨seen,h⟩:=Holds.ex.1 h
 obtain ⟨hp,h⟩:=Holds.pur.1 (Holds.flat.1 h)
 exact ⟨es,c,seen,hp,h⟩
theorem zAN.shuts {b r:Nat} {m left:List (α×β)} {cur:Option (α×β)} {es:Array MapEntry} {c:Nat} {seen:Array Nat} (hp:ItF enc cV es c seen m left cur) (h:Holds B (blk b (.map es c)::blk r (.mapIter (some b) c seen c)::Γ) w):Holds B (zAN enc cV b r m left cur::Γ) w :=
 Holds.ex.2 ⟨es,Holds.ex.2 ⟨c,Holds.ex.2 ⟨seen,Holds.flat.2 (Holds.pur.2 ⟨hp,h⟩)⟩⟩⟩
theorem zAN.ends {b r:Nat} {m left:List (α×β)} {cur:Option (α×β)} (h:Holds B (zAN enc cV b r m left cur::Γ) w):Holds B (xM enc cV b m::Γ) w:=by
 obtain ⟨es,c,seen,hp,h⟩:=zAN.opens h
 exact xM.shuts ⟨hp.rel,hp.st⟩ (h.del 1 rfl)
theorem zQC {es:Array MapEntry} {m:List (α×β)} (h:zEX enc cV es m):es.toList.length = m.length:=by have:=congrArg List.length h; simpa using this
theorem zVe {es:Array MapEntry} {m:List (α×β)} (h:zEX enc cV es m):∀ p ∈ es.toList.zip m,p.1.key = enc p.2.1∧p.1.val = cV p.2.2:=by
 intro p hp
 obtain ⟨i,hi⟩:=List.getElem?_of_mem hp
 rw [List.getElem?_zip_eq_some] at hi
 have:=zEm h i
 rw [hi.1,hi.2] at this
 simp only [Option.map_some,Option.some.injEq,Prod.mk.injEq] at this
 exact this
theorem zS5 {T E:TypeId} {d:TypeDesc} {b:Nat} {m:List (α×β)} {k:Option Addr→K} (hT:zE8 P T d E) (h:Holds B (xM enc cV b m::Γ) w) (hk:∀ r w,Holds B (zAN enc cV b r m m none::Γ) w→k (some ⟨r,0,none⟩) w) :
  Do P (Instr.range T (.map (some b))) Value.pointer k w:=by
 obtain ⟨kt,hT,hd⟩:=hT
 obtain ⟨es,c,⟨hr,hst⟩,h⟩:=xM.opens h
 have hb:=h.block
 refine ⟨some ⟨w.heap.size,0,none⟩,{ w with heap:=w.heap.push (.mapIter (some b) c #[] c) },?_,hk _ _ (zAN.shuts (seen:=#[]) ⟨hr,hst,?_,by simp,fun p hp=>by cases hp⟩ (h.alloc _).swap)⟩
 ·unfold Instr.range
  simp only [Sem.run_bind,run_underlying hT,Result.andThen,MapKept.run_getObj_map hb,Sem.run_pure]
  rfl
 ·unfold zRJ
  have e:(es.toList.zip m).filter (fun p=>!(#[]:Array Nat).contains p.1.born) = es.toList.zip m:=List.filter_eq_self.2 (fun p _=>by simp)
  rw [e,List.map_snd_zip (by rw [zQC hr]; exact Nat.le_refl _)]
theorem zJQ {es:List MapEntry} {m:List (α×β)} (seen:Array Nat) (hn:(es.map (·.born)).Nodup) (hl:es.length = m.length) {e:MapEntry} (he:e ∈ es.filter (fun e=>!seen.contains e.born)) :
  ∃ l1 p l2,(e,p) ∈ es.zip m∧((es.zip m).filter fun p=>!seen.contains p.1.born).map Prod.snd = l1++p::l2∧((es.zip m).filter fun p=>!(seen.push e.born).contains p.1.born).map Prod.snd = l1++l2:=by
 induction es generalizing m with
 | nil=>simp at he
 | cons x es ih=>
  cases m with
  | nil=>simp at hl
  | cons q m=>
   simp only [List.map_cons,List.nodup_cons] at hn
   simp only [List.zip_cons_cons]
   by_cases hx:x = e
   ·subst hx
    have hxs:(!seen.contains x.born) = true:=(List.mem_filter.1 he).2
    refine ⟨[],q,((es.zip m).filter fun p=>!seen.contains p.1.born).map Prod.snd,List.mem_cons_self,?_,?_⟩
    ·simp only [List.filter_cons]; rw [if_pos hxs]; rfl
    ·simp only [List.filter_cons]
     rw [if_neg (by simp)]
     simp only [List.nil_append]
     congr 1
     refine List.filter_congr fun p hp=>?_
     have hpe:p.1.born ≠ x.born:=fun heq=>hn.1 (by rw [← heq]; exact List.mem_map_of_mem (List.of_mem_zip hp).1)
     simp [Array.contains_push,hpe]
   ·have he2:e ∈ es.filter (fun e=>!seen.contains e.born):=by
     have h1:=List.mem_filter.1 he
     rcases List.mem_cons.1 h1.1 with h2 | h2
     ·exact absurd h2.symm hx
     ·exact List.mem_filter.2 ⟨h2,h1.2⟩
    obtain ⟨l1,p,l2,h1,h2,h3⟩:=ih hn.2 (by simpa using hl) he2
    have hxb:x.born ≠ e.born:=fun heq=>hn.1 (by rw [heq]; exact List.mem_map_of_mem (List.mem_filter.1 he2).1)
    by_cases hs:(!seen.contains x.born) = true
    ·refine ⟨q::l1,p,l2,List.mem_cons_of_mem _ h1,?_,?_⟩
     ·simp only [List.filter_cons]
      rw [if_pos hs,List.map_cons,h2]; rfl
     ·simp only [List.filter_cons]
      rw [if_pos (by simp [Array.contains_push,hxb] at hs ⊢; exact hs),List.map_cons,h3]; rfl
    ·refine ⟨l1,p,l2,List.mem_cons_of_mem _ h1,?_,?_⟩
     ·simp only [List.filter_cons]
      rw [if_neg hs,h2]
     ·simp only [List.filter_cons]
      rw [if_neg (by simp [Array.contains_push,hxb] at hs ⊢; exact hs),h3]
theorem zVf {b r:Nat} {m left:List (α×β)} {cur:Option (α×β)} {k:Value→K} (h:Holds B (zAN enc cV b r m left cur::Γ) w)
  (h0:left = []→∀ w,Holds B (xM enc cV b m::Γ) w→k (.tuple #[.bool false]) w)
  (h1:∀ l1 p l2 w,left = l1++p::l2→p ∈ m→Holds B (zAN enc cV b r m (l1++l2) (some p)::Γ) w→k (.tuple #[.bool true,enc p.1,cV p.2]) w) :
  Do P (Instr.next (.pointer (some ⟨r,0,none⟩)) false 0) id k w:=by
 have hend:=zAN.ends h
 obtain ⟨es,c,seen,hp,h⟩:=zAN.opens h
 have hb:=h.block
 have hr:=h.tail.block
 rcases run_next_at (P:=P) w 0 r b c c seen es c hr hb hp.st.2 (Nat.le_refl _) with ⟨hz,hrun⟩ | ⟨e,he,w1,hw1,hrun⟩
 ·refine ⟨_,w,hrun,h0 ?_ w hend⟩
  rw [hp.lf]
  unfold zRJ
  have hnone:es.toList.filter (fun e=>!seen.contains e.born) = []:=by
   have:(leftOf es seen).toList.length = 0:=by simpa using hz
   unfold leftOf at this
   rw [Array.toList_filter] at this
   exact List.length_eq_zero_iff.1 this
  have:(es.toList.zip m).filter (fun p=>!seen.contains p.1.born) = []:=by
   rw [List.filter_eq_nil_iff] at hnone ⊢
   intro p hpz
   exact hnone p.1 (List.of_mem_zip hpz).1
  rw [this]; rfl
 ·have he2:e ∈ es.toList.filter (fun e=>!seen.contains e.born):=by
   unfold leftOf at he
   rw [Array.toList_filter] at he
   exact he
  obtain ⟨l1,p,l2,hz,hl,hl2⟩:=zJQ seen hp.st.1 (zQC hp.rel) he2
  have hkv:=zVe hp.rel _ hz
  simp only at hkv
  refine ⟨_,_,hrun,?_⟩
  show k (.tuple #[.bool true,e.key,e.val]) _
  rw [hkv.1,hkv.2]
  have hw:∃ w',w1 = w'∧Holds B (blk b (.map es c)::blk r (.mapIter (some b) c seen c)::Γ) w':=by
   rcases hw1 with rfl | rfl
   ·exact ⟨_,rfl,h⟩
   ·exact ⟨_,rfl,h.drew _⟩
  obtain ⟨w',rfl,h⟩:=hw
  refine h1 l1 p l2 _ (by rw [hp.lf]; exact hl) (List.of_mem_zip hz).2 (zAN.shuts (es:=es) (c:=c) (seen:=seen.push e.born) ⟨hp.rel,hp.st,hl2.symm,?_,fun q hq=>?_⟩ ?_)
  ·have h3:=hp.cnt
   have h4:left = l1++p::l2:=by rw [hp.lf]; exact hl
   rw [h4] at h3
   simp only [List.length_append,List.length_cons,Array.size_push] at h3 ⊢
   omega
  ·cases hq
   exact ⟨seen,e,rfl,(List.of_mem_zip hz).1,hkv.1,hkv.2⟩
  ·exact (h.swap.setBlock (o':=.mapIter (some b) c (seen.push e.born) c) rfl).swap
def zOq (r n:Nat) (w:World):Nat:=match w.heap[r]? with
 | some (.mapIter _ _ seen _)=>n - seen.size
 | _=>0
theorem zQD {b r:Nat} {m left:List (α×β)} {cur:Option (α×β)} (h:Holds B (zAN enc cV b r m left cur::Γ) w):zOq r m.length w = left.length:=by
 obtain ⟨es,c,seen,hp,h⟩:=zAN.opens h
 have:=hp.cnt
 unfold zOq
 rw [h.tail.block]
 simp only
 omega
theorem zS6 {b r:Nat} {m left:List (α×β)} {p:α×β} {k:Value→K} (h:Holds B (zAN enc cV b r m left (some p)::Γ) w) (hk:k (.tuple #[enc p.1,cV p.2]) w) :
  Do P (Instr.entry (.pointer (some ⟨r,0,none⟩))) id k w:=by
 obtain ⟨es,c,seen,hp,h⟩:=zAN.opens h
 obtain ⟨seen',e,hs,he,hk1,hk2⟩:=hp.cur p rfl
 subst hs
 refine ⟨_,w,run_entry_at (P:=P) w r b c seen' es c e h.tail.block h.block he hp.st.1,?_⟩
 show k (.tuple #[e.key,e.val]) w
 rw [hk1,hk2]
 exact hk
theorem zT2 {zv:Value} {T E:TypeId} {d:TypeDesc} {b:Nat} {m:List (α×β)} {a:α} (hT:zE8 P T d E) (hE:zKE d enc) (hz:zBN P E zv) {es:Array MapEntry} {c:Nat} (hb:w.heap[b]? = some (.map es c)) (hr:zEX enc cV es m) (ok:Bool) :
  (Instr.lookup T (.map (some b)) (enc a) ok).run P w = .ok (if ok then .tuple #[((y9 a m).map cV).getD zv,.bool (y9 a m).isSome] else ((y9 a m).map cV).getD zv) w:=by
 obtain ⟨kt,hT,hd⟩:=hT
 unfold Instr.lookup
 simp only [Sem.run_bind,run_underlying hT,Result.andThen,MapKept.run_getObj_map hb,run_checkKey hd (hE.key a),Sem.run_pure]
 rcases zRI hE hr a with ⟨h1,h2,_⟩ | ⟨j,x,h1,_,_,h2,_⟩
 ·simp only [run_findKey hd h1,Result.andThen,Sem.run_bind,zAU hz,Sem.run_pure,h2]
  cases ok <;> rfl
 ·simp only [run_findKey hd h1,Result.andThen,Sem.run_bind,Sem.run_pure,h2]
  cases ok <;> rfl
end
end
end Go.Sep
